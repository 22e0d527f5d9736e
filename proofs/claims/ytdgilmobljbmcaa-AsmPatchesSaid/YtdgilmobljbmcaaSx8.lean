/-
  A symbolic executor for the model's code: the operations on memory.
-/
import Derived.Test.YtdgilmobljbmcaaSx7
namespace Go.Sx
set_option linter.unusedSimpArgs false
set_option linter.unusedVariables false

section
variable {P : Program}

theorem SV.den_w (ρ : Env) (ι : Loc) (x : SW) : (SV.w x).den ρ ι = x.den ρ ι := rfl
theorem SW.den_ptr (ρ : Env) (ι : Loc) (b o : Nat) : (SW.c (SC.ptr b o)).den ρ ι = .pointer (some ⟨ι.blk b, o, none⟩) := rfl
theorem SW.den_slc (ρ : Env) (ι : Loc) (b o l c : Nat) : (SW.c (SC.slc b o l c)).den ρ ι = .slice (some ⟨ι.blk b, o, none⟩) l c := rfl
theorem SW.den_slu (ρ : Env) (ι : Loc) (b l : Nat) : (SW.c (SC.slu b l)).den ρ ι = .slice (some ⟨ι.blk b, 0, none⟩) l (ι.cap b) := rfl
theorem SW.den_lit (ρ : Env) (ι : Loc) (v : Value) : (SW.c (SC.lit v)).den ρ ι = v := rfl
theorem SW.den_agg (ρ : Env) (ι : Loc) (xs : List SC) : (SW.agg xs).den ρ ι = .agg (xs.map (SC.den ρ ι)).toArray := rfl

theorem SW.den_cells (ρ : Env) (ι : Loc) (x : SW) (hx : ∀ c, x = .c c → c.one = true) : (x.den ρ ι).cells.toList = x.cells.map (SC.den ρ ι) := by
  cases x with
  | c c =>
    have := SC.one_den (hx c rfl) ρ ι
    simp only [SW.den, SW.cells, List.map_cons, List.map_nil]
    generalize c.den ρ ι = v at this
    cases v <;> simp [Value.oneCell'] at this <;> rfl
  | agg xs => simp [SW.den, SW.cells, Value.cells]

theorem SW.good_cells {x : SW} (h : goodW x = true) (ρ : Env) (ι : Loc) : (x.den ρ ι).cells = (x.cells.map (SC.den ρ ι)).toArray := by
  have := SW.den_cells ρ ι x (fun c e => by subst e; exact h)
  rw [← this]

/-- Boxing cells. -/
theorem boxS_does {Φ : Phi} {t : TypeId} {xs : List SC} {st st' : St} {v : SV} (h : boxS t xs st = .ok (v, st')) (ins : List SV)
    (hon : ∀ A, (∀ x ∈ ins, x.on A) → ∀ c ∈ xs, c.on A) {m : Env → Loc → Sem Value}
    (hm : ∀ ρ ι w, (m ρ ι).run P w = .ok (.pointer (some ⟨w.heap.size, 0, none⟩)) { w with heap := w.heap.push (.cells (xs.map (SC.den ρ ι)).toArray t (0, 0)) }) :
    Does P Φ st v st' ins m := by
  simp only [boxS, R.ok.injEq, Prod.mk.injEq] at h
  obtain ⟨rfl, rfl⟩ := h
  refine ⟨newBlk_le, fun ρ hl hf A hA ι w hr hin => ?_⟩
  have hb := Blk.on_ofList (t := t) (hon _ hin)
  have hA' : A st.nb := hA st.nb (Nat.le_refl _) (Nat.lt_succ_self _)
  have := newBlk_post hr hb hA' [] (fun _ => rfl) 0 w.drawn
  rw [Blk.cells_ofList, List.append_nil] at this
  refine ⟨_, _, ?_, this, ?_⟩
  · rw [hm ρ ι w]
    simp [SV.den, SW.den, SC.den, newBlk, Loc.set, Blk.ofList]
  · intro c hc
    simp only [SW.cells, List.mem_singleton] at hc
    subst hc
    exact ⟨Nat.lt_succ_self _, hA'⟩

theorem zeroCells_run {C : Ctx} (hT : TysOk P C.tys) {t : TypeId} {z : List SC} (h : zeroCells C t = some z) :
    ∃ v, (∀ w, (zeroValue t).run P w = .ok v w) ∧ ∀ ρ ι, v.cells = (z.map (SC.den ρ ι)).toArray := by
  unfold zeroCells at h
  split at h
  · rename_i i hi
    split at h
    · rename_i v hv
      simp only [Option.some.injEq] at h
      subst h
      refine ⟨v, fun w => ?_, fun ρ ι => ?_⟩
      · obtain ⟨f, h1, _, _, h4⟩ := (hT t i hi).runInfo w
        simp [zeroValue, h1, h4, hv]
      · simp [List.map_map, Function.comp_def, SC.den]
    · cases h
  · cases h

theorem zeroCells_on {C : Ctx} {t : TypeId} {z : List SC} (h : zeroCells C t = some z) (A : Nat → Prop) : ∀ c ∈ z, c.on A := by
  unfold zeroCells at h
  split at h
  · split at h
    · simp only [Option.some.injEq] at h
      subst h
      intro c hc
      obtain ⟨v, _, rfl⟩ := List.mem_map.1 hc
      trivial
    · cases h
  · cases h

theorem zeroCells_one {C : Ctx} {t : TypeId} {z : List SC} (h : zeroCells C t = some z) : ∀ c ∈ z, ∃ v, c = .lit v := by
  unfold zeroCells at h
  split at h
  · split at h
    · simp only [Option.some.injEq] at h
      subst h
      intro c hc
      obtain ⟨v, _, rfl⟩ := List.mem_map.1 hc
      exact ⟨v, rfl⟩
    · cases h
  · cases h

theorem alloc_does {Φ : Phi} {C : Ctx} (hT : TysOk P C.tys) {t : TypeId} {z : List SC} (hz : zeroCells C t = some z) {st st' : St} {v : SV} (h : boxS t z st = .ok (v, st')) :
    Does P Φ st v st' [] fun _ _ => Instr.alloc t true (.tuple #[]) := by
  obtain ⟨zv, h1, h2⟩ := zeroCells_run hT hz
  refine boxS_does h [] (fun A _ => zeroCells_on hz A) fun ρ ι w => ?_
  simp only [Instr.alloc, Sem.run_bind, h1, Result.andThen_ok, newVar, newRow, run_newObj, Sem.run_pure, h2 ρ ι]

theorem box_does {Φ : Phi} {t : TypeId} {x : SW} (hx : goodW x = true) {st st' : St} {v : SV} (h : boxS t x.cells st = .ok (v, st')) :
    Does P Φ st v st' [.w x] fun ρ ι => Instr.box t (x.den ρ ι) := by
  refine boxS_does h [.w x] (fun A hin => hin (.w x) (by simp)) fun ρ ι w => ?_
  simp only [Instr.box, Sem.run_bind, Result.andThen_ok, newVar, newRow, run_newObj, Sem.run_pure, SW.good_cells hx]

theorem loadVar_run {C : Ctx} (hT : TysOk P C.tys) {t : TypeId} {i : TI} (hi : C.tys.get t = some i) {ρ : Env} {ι : Loc} {A : Nat → Prop} {H : Nat → Option Blk} {nb : Nat} {w : World}
    (hr : Rep ρ ι A H nb w) {id off : Nat} {k : Blk} (hk : H id = some k) {y : SW}
    (hy : (aggDesc i.desc = true ∧ ∃ l, k.row off i.size = some l ∧ y = .agg l) ∨ (aggDesc i.desc = false ∧ ∃ c, k.get off = some c ∧ y = .c c)) :
    (loadVar t ⟨ι.blk id, off, none⟩).run P w = .ok (y.den ρ ι) w ∧ y.on (lim nb A) := by
  have ht := hT t i hi
  unfold loadVar
  simp only [Sem.run_bind, ht.runAgg, Result.andThen_ok]
  rcases hy with ⟨ha, l, hl, rfl⟩ | ⟨ha, c, hc, rfl⟩
  · simp only [ha, if_true, Sem.run_bind, ht.runSize, Result.andThen_ok, loadCells_run hr hk hl, Sem.run_pure, SW.den]
    exact ⟨trivial, Blk.row_on hl (hr.on id k hk)⟩
  · obtain ⟨h1, h2⟩ := Blk.get_some hc
    simp only [ha, Bool.false_eq_true, if_false, run_load, hr.cell hk h1, SW.den, h2]
    refine ⟨trivial, fun d hd => ?_⟩
    simp only [SW.cells, List.mem_singleton] at hd
    subst hd
    exact hr.on id k hk off h1

/-- What loadS gives: the state is as it was. -/
theorem loadS_ok {C : Ctx} {t : TypeId} {a : SV} {st st' : St} {v : SV} (h : loadS C t a st = .ok (v, st')) :
    st' = st ∧ ∃ id off k i y, a = .w (.c (.ptr id off)) ∧ st.heap.get id = some k ∧ C.tys.get t = some i ∧ v = .w y ∧
      ((aggDesc i.desc = true ∧ ∃ l, k.row off i.size = some l ∧ y = .agg l) ∨ (aggDesc i.desc = false ∧ ∃ c, k.get off = some c ∧ y = .c c)) := by
  unfold loadS at h
  split at h
  · rename_i id off
    split at h
    · rename_i k i hk hi
      split at h
      · rename_i ha
        split at h
        · rename_i l hl
          simp only [R.ok.injEq, Prod.mk.injEq] at h
          obtain ⟨rfl, rfl⟩ := h
          exact ⟨rfl, id, off, k, i, _, rfl, hk, hi, rfl, .inl ⟨ha, l, hl, rfl⟩⟩
        · simp [stop] at h
      · rename_i ha
        split at h
        · rename_i c hc
          simp only [R.ok.injEq, Prod.mk.injEq] at h
          obtain ⟨rfl, rfl⟩ := h
          exact ⟨rfl, id, off, k, i, _, rfl, hk, hi, rfl, .inr ⟨by simpa using ha, c, hc, rfl⟩⟩
        · simp [stop] at h
    · simp [stop] at h
  · simp [stop] at h

theorem load_does {Φ : Phi} {C : Ctx} (hT : TysOk P C.tys) {t : TypeId} {a : SV} {st st' : St} {v : SV} (h : loadS C t a st = .ok (v, st')) :
    Does P Φ st v st' [a] fun ρ ι => Instr.loadAt t (a.den ρ ι) := by
  obtain ⟨rfl, id, off, k, i, y, rfl, hk, hi, rfl, hy⟩ := loadS_ok h
  refine .quiet (.refl _ _) fun ρ _ _ A ι w hr _ => ?_
  obtain ⟨h1, h2⟩ := loadVar_run hT hi hr hk hy
  refine ⟨?_, h2⟩
  simp only [Instr.loadAt, SV.den, SW.den, SC.den, Instr.sureAddr, Sem.run_bind, Sem.run_pure, Result.andThen_ok]
  exact h1

theorem storeVar_run {C : Ctx} (hT : TysOk P C.tys) {t : TypeId} {i : TI} (hi : C.tys.get t = some i) {ρ : Env} {ι : Loc} {A : Nat → Prop} {st : St} {w : World}
    (hr : Rep ρ ι A st.heap.get st.nb w) {id off : Nat} {k b : Blk} (hk : st.heap.get id = some k) {x : SW} (hlen : x.cells.length = i.size) (hp : k.puts off x.cells = some b) (hx : x.on (lim st.nb A)) :
    ∃ w', (storeVar t ⟨ι.blk id, off, none⟩ (x.den ρ ι)).run P w = .ok () w' ∧ Post ρ ι A st w ι (setBlk id b st) w' := by
  have ht := hT t i hi
  obtain ⟨_, _, _, _, hone, _⟩ := Blk.puts_some hp
  have hc := SW.den_cells ρ ι x (fun c e => by subst e; exact hone c (by simp [SW.cells]))
  obtain ⟨w', h1, h2⟩ := storeCells_run (P := P) hr hk hp hx
  refine ⟨w', ?_, h2⟩
  have hsz : (x.den ρ ι).cells.size = i.size := by
    have := congrArg List.length hc
    simpa [hlen] using this
  unfold storeVar
  simp only [Sem.run_bind, ht.runSize, Result.andThen_ok, hsz, ne_eq, not_true_eq_false, if_false, Sem.run_pure, hc]
  exact h1

theorem store_does {Φ : Phi} {C : Ctx} (hT : TysOk P C.tys) {t : TypeId} {a x : SV} {st st' : St} {v : SV} (h : storeS C t a x st = .ok (v, st')) :
    Does P Φ st v st' [a, x] (fun ρ ι => (Instr.storeAt t (a.den ρ ι) (x.den ρ ι)).bind fun _ => Sem.pure undef) := by
  unfold storeS at h
  split at h
  · rename_i id off y
    split at h
    · rename_i k i hk hi
      split at h
      · rename_i hlen
        split at h
        · rename_i b hb
          simp only [R.ok.injEq, Prod.mk.injEq] at h
          obtain ⟨rfl, rfl⟩ := h
          refine ⟨setBlk_le hk, fun ρ _ _ A hA ι w hr hin => ?_⟩
          obtain ⟨w', h1, h2⟩ := storeVar_run hT hi hr hk (by simpa using hlen) hb (hin (.w y) (by simp))
          refine ⟨ι, w', ?_, h2, bare_undef _⟩
          rw [Sem.run_bind']
          simp only [Instr.storeAt, SV.den_w, SW.den_ptr, Instr.sureAddr, pure_bind, h1, Result.andThen_ok]
          rfl
        · simp [stop] at h
      · simp [stop] at h
    · simp [stop] at h
  · simp [stop] at h

/-! ### Aggregates -/
theorem spliceL_length {base l : List SC} {off : Nat} (h : off + l.length ≤ base.length) : (spliceL base off l).length = base.length := by
  simp [spliceL]; omega

theorem foldl_set (off : Nat) : ∀ (l : List Value) (k : Nat) (cs : Array Value) (j : Nat),
    ((l.zipIdx k).foldl (fun cs p => cs.setIfInBounds (off + p.2) p.1) cs)[j]? = if off + k ≤ j ∧ j < off + k + l.length ∧ j < cs.size then l[j - (off + k)]? else cs[j]?
  | [], k, cs, j => by
    simp only [List.zipIdx_nil, List.foldl_nil, List.length_nil]
    rw [if_neg (by omega)]
  | x :: l, k, cs, j => by
    simp only [List.zipIdx_cons, List.foldl_cons, List.length_cons]
    rw [foldl_set off l (k + 1) (cs.setIfInBounds (off + k) x) j]
    simp only [Array.size_setIfInBounds]
    by_cases e : j = off + k
    · subst e
      rw [if_neg (by omega)]
      by_cases hs : off + k < cs.size
      · rw [if_pos (by omega)]
        simp [hs]
      · rw [if_neg (by omega)]
        simp [hs]
    · rw [Array.getElem?_setIfInBounds_ne (by omega)]
      by_cases h2 : off + (k + 1) ≤ j ∧ j < off + (k + 1) + l.length ∧ j < cs.size
      · rw [if_pos h2, if_pos (by omega)]
        have : j - (off + k) = (j - (off + (k + 1))) + 1 := by omega
        rw [this, List.getElem?_cons_succ]
      · rw [if_neg h2, if_neg (by omega)]

theorem spliceL_get (base l : List Value) (off : Nat) (h : off + l.length ≤ base.length) (j : Nat) :
    (base.take off ++ l ++ base.drop (off + l.length))[j]? = if off ≤ j ∧ j < off + l.length then l[j - off]? else base[j]? := by
  by_cases h1 : j < off
  · rw [if_neg (by omega), List.append_assoc, List.getElem?_append_left (by rw [List.length_take]; omega), List.getElem?_take, if_pos h1]
  · by_cases h2 : j < off + l.length
    · rw [if_pos (by omega), List.append_assoc, List.getElem?_append_right (by rw [List.length_take]; omega), List.length_take, Nat.min_eq_left (by omega), List.getElem?_append_left (by omega)]
    · rw [if_neg (by omega), List.getElem?_append_right (by simp; omega), List.getElem?_drop]
      congr 1
      simp
      omega

theorem fill_run (place : Nat → Option (Nat × Nat)) (ρ : Env) (ι : Loc) : ∀ (parts : List (Nat × SV)) (cells l : List SC), fillS place cells parts = some l →
    Instr.fill place (cells.map (SC.den ρ ι)).toArray (parts.map fun p => (p.1, p.2.den ρ ι)) = some (l.map (SC.den ρ ι)).toArray
  | [], cells, l, h => by
    simp only [fillS, Option.some.injEq] at h
    subst h
    rfl
  | (i, .tup xs) :: rest, cells, l, h => by simp [fillS] at h
  | (i, .w v) :: rest, cells, l, h => by
    simp only [fillS] at h
    split at h
    · cases h
    · rename_i off size hp
      split at h
      · rename_i hc
        simp only [Bool.and_eq_true] at hc
        obtain ⟨⟨hg, hc1⟩, hc2⟩ := hc
        have hc1 : v.cells.length = size := by simpa using hc1
        have hc2 : off + v.cells.length ≤ cells.length := by simpa using hc2
        have ih := fill_run place ρ ι rest _ l h
        have hcv := SW.good_cells hg ρ ι
        simp only [List.map_cons, Instr.fill, hp, SV.den, hcv]
        rw [if_neg (by simp [hc1]; omega)]
        rw [← ih]
        congr 1
        apply Array.ext_getElem?
        intro j
        rw [← Array.foldl_toList, Array.toList_zipIdx]
        rw [foldl_set off _ 0]
        simp only [spliceL, List.map_append, List.map_take, List.map_drop, List.getElem?_toArray]
        rw [← List.length_map (f := SC.den ρ ι) (as := v.cells), spliceL_get _ _ _ (by simp; omega)]
        simp only [List.length_map, Nat.add_zero, List.size_toArray]
        by_cases h1 : off ≤ j ∧ j < off + v.cells.length
        · rw [if_pos ⟨h1.1, h1.2, by omega⟩, if_pos h1]
        · rw [if_neg h1, if_neg (by omega)]
      · cases h

theorem fillS_on {A : Nat → Prop} (place : Nat → Option (Nat × Nat)) : ∀ (parts : List (Nat × SV)) (cells l : List SC), fillS place cells parts = some l →
    (∀ c ∈ cells, c.on A) → (∀ p ∈ parts, p.2.on A) → ∀ c ∈ l, c.on A
  | [], cells, l, h, h1, _ => by
    simp only [fillS, Option.some.injEq] at h
    subst h
    exact h1
  | (i, .tup xs) :: rest, cells, l, h, _, _ => by simp [fillS] at h
  | (i, .w v) :: rest, cells, l, h, h1, h2 => by
    simp only [fillS] at h
    split at h
    · cases h
    · split at h
      · refine fillS_on place rest _ l h (fun c hc => ?_) (fun p hp => h2 p (List.mem_cons_of_mem _ hp))
        simp only [spliceL, List.mem_append] at hc
        rcases hc with (hc | hc) | hc
        · exact h1 c (List.mem_of_mem_take hc)
        · exact h2 (i, .w v) (List.mem_cons_self ..) c hc
        · exact h1 c (List.mem_of_mem_drop hc)
      · cases h

theorem fieldPlaces_run {C : Ctx} (hT : TysOk P C.tys) : ∀ (fs : List Field) (pl : List (Nat × Nat)), fieldPlaces C (fs.map fun f => (f.type, f.offset)) = some pl →
    ∀ w, (fs.mapM fun f => do pure (f.offset, ← sizeOf f.type) : Sem (List (Nat × Nat))).run P w = .ok pl w
  | [], pl, h, w => by
    simp only [List.map_nil, fieldPlaces, Option.some.injEq] at h
    subst h
    rfl
  | f :: fs, pl, h, w => by
    simp only [List.map_cons, fieldPlaces] at h
    split at h
    · rename_i i l hi hl
      simp only [Option.some.injEq] at h
      subst h
      have ih := fieldPlaces_run hT fs l hl w
      simp only [List.mapM_cons, Sem.run_bind, (hT _ i hi).runSize, Result.andThen_ok, Sem.run_pure, ih]
    · cases h

theorem mapM_array {α β : Type} (xs : Array α) (f : α → Sem β) (l : List β) (w : World) (h : (xs.toList.mapM f).run P w = .ok l w) : (xs.mapM f).run P w = .ok l.toArray w := by
  rw [Array.mapM_eq_mapM_toList, Sem.run_map, h]
  rfl

theorem build_does {Φ : Phi} {C : Ctx} (hT : TysOk P C.tys) {t : TypeId} {parts : List (Nat × SV)} {st st' : St} {v : SV} (h : buildS C t parts st = .ok (v, st')) :
    Does P Φ st v st' (parts.map Prod.snd) fun ρ ι => Instr.build t (parts.map fun p => (p.1, p.2.den ρ ι)).toArray := by
  unfold buildS at h
  split at h
  · rename_i i z hi hz
    have ht := hT t i hi
    obtain ⟨zv, z1, z2⟩ := zeroCells_run hT hz
    split at h
    · rename_i fs hd
      split at h
      · rename_i pl hpl
        split at h
        · rename_i l hl
          simp only [R.ok.injEq, Prod.mk.injEq] at h
          obtain ⟨rfl, rfl⟩ := h
          rw [ht.fs fs hd] at hpl
          refine .quiet (.refl _ _) fun ρ _ _ A ι w hr hin => ⟨?_, ?_⟩
          · have hp := mapM_array (P := P) fs _ pl w (fieldPlaces_run hT fs.toList pl hpl w)
            have hf := fill_run (fun k => pl[k]?) ρ ι parts z l hl
            simp only [Instr.build, Sem.run_bind, z1, ht.runUnd, hd, Result.andThen_ok, hp, z2 ρ ι, List.getElem?_toArray, hf, Sem.run_pure, SV.den_w, SW.den_agg]
          · exact fillS_on _ parts z l hl (zeroCells_on hz _) (fun p hp => hin p.2 (List.mem_map.2 ⟨p, hp, rfl⟩))
        · simp [stop] at h
      · simp [stop] at h
    · rename_i n e hd
      split at h
      · rename_i j hj
        split at h
        · rename_i l hl
          simp only [R.ok.injEq, Prod.mk.injEq] at h
          obtain ⟨rfl, rfl⟩ := h
          refine .quiet (.refl _ _) fun ρ _ _ A ι w hr hin => ⟨?_, ?_⟩
          · have hf := fill_run (fun k => some (k * j.size, j.size)) ρ ι parts z l hl
            simp only [Instr.build, Sem.run_bind, z1, ht.runUnd, hd, Result.andThen_ok, (hT e j hj).runSize, z2 ρ ι, hf, Sem.run_pure, SV.den_w, SW.den_agg]
          · exact fillS_on _ parts z l hl (zeroCells_on hz _) (fun p hp => hin p.2 (List.mem_map.2 ⟨p, hp, rfl⟩))
        · simp [stop] at h
      · simp [stop] at h
    · simp [stop] at h
  · simp [stop] at h

end
end Go.Sx
