/-
  A symbolic executor for the model's code: maps.
-/
import Derived.Test.YtdgilmobljbmcaaSx9
namespace Go.Sx
set_option linter.unusedSimpArgs false
set_option linter.unusedVariables false

section
variable {P : Program}

theorem checkKey_basic {t : TypeId} {i : TI} (ht : TyAt P t i) (hb : basicD i.desc = true) (e : Bool) (n : Nat) (v : Value) (w : World) :
    (Instr.checkKey e (n + 1) t v).run P w = .ok () w := by
  unfold Instr.checkKey
  simp only [Sem.run_bind, ht.runUnd, Result.andThen_ok]
  revert hb
  cases i.desc <;> simp [basicD]

theorem checkKey_fields {C : Ctx} (hT : TysOk P C.tys) (e : Bool) (n : Nat) (xs : List SC) (ρ : Env) (ι : Loc) (w : World) :
    ∀ fs : List Field, (fs.map fun f => (f.type, f.offset)).all (fun f => basicT C f.1 && (partS C f.1 xs f.2).isSome) = true →
      (Sem.run P (forIn fs PUnit.unit fun f __s =>
            if f.name ≠ "_" then do
              let __do_lift ← part f.type (xs.map (SC.den ρ ι)).toArray f.offset
              Instr.checkKey e (n + 1) f.type __do_lift
              pure (ForInStep.yield PUnit.unit)
            else pure (ForInStep.yield PUnit.unit)) w) = .ok PUnit.unit w
  | [], _ => by simp
  | f :: fs, h => by
    simp only [List.map_cons, List.all_cons, Bool.and_eq_true] at h
    obtain ⟨⟨h1, h2⟩, h3⟩ := h
    have ih := checkKey_fields hT e n xs ρ ι w fs h3
    obtain ⟨y, hy⟩ := Option.isSome_iff_exists.1 h2
    have hp := part_run hT hy ρ ι w
    unfold basicT at h1
    split at h1
    · rename_i i hi
      have hc := checkKey_basic (hT _ i hi) h1 e n (y.den ρ ι) w
      simp only [List.forIn_cons, Sem.run_bind]
      by_cases hn : f.name = "_"
      · simp only [hn, ne_eq, not_true_eq_false, if_false, Sem.run_pure, Result.andThen_ok]
        exact ih
      · simp only [hn, ne_eq, not_false_eq_true, if_true, Sem.run_bind, hp, hc, Sem.run_pure, Result.andThen_ok]
        exact ih
    · cases h1

theorem checkKey_run {C : Ctx} (hT : TysOk P C.tys) {kt : TypeId} {ks : List SC} (h : keyOk C kt ks = true) (e : Bool) (ρ : Env) (ι : Loc) (w : World) :
    (Instr.checkKey e 10000 kt ((SW.agg ks).den ρ ι)).run P w = .ok () w := by
  unfold keyOk at h
  split at h
  · rename_i i hi
    split at h
    · rename_i fs hd
      have ht := hT kt i hi
      rw [ht.fs fs hd] at h
      have := checkKey_fields hT e 9998 ks ρ ι w fs.toList h
      show (Instr.checkKey e (9999 + 1) kt ((SW.agg ks).den ρ ι)).run P w = .ok () w
      unfold Instr.checkKey
      simp only [Sem.run_bind, ht.runUnd, hd, Result.andThen_ok, SW.den]
      rw [← Array.forIn_toList]
      exact (congrArg (fun r => Result.andThen r fun _ w' => Sem.run P (pure ()) w') this).trans rfl
    · cases h
  · cases h

/-- the asking of a map's entries -/
theorem findMap_ok {Φ : Phi} {C : Ctx} (hT : TysOk P C.tys) {kt : TypeId} {key : SW} : ∀ {es : List (SW × SW)} {st st' : St} {r : Option SW}, findMap C kt key es st = .ok (r, st') →
    (∀ e ∈ es, e.1.data = true ∧ e.2.data = true) →
    Quiet Φ st st' ∧ (∀ v, r = some v → v.data = true) ∧ ∀ ρ, LogOk Φ ρ st'.log → Facts ρ st → ∀ ι w i0 i, ∃ j,
      (Instr.findAsking kt (key.den ρ ι) (entFrom ρ i0 es) i).run P w = .ok (r.map fun v => (j, v.den ρ ι)) w
  | [], st, st', r, h, _ => by
    simp only [findMap, R.ok.injEq, Prod.mk.injEq] at h
    obtain ⟨rfl, rfl⟩ := h
    exact ⟨.refl _ _, (fun v hv => by cases hv), fun ρ _ _ ι w i0 i => ⟨0, rfl⟩⟩
  | e :: es, st, st', r, h, hd => by
    have hde := hd e (List.mem_cons_self ..)
    have hds := fun x hx => hd x (List.mem_cons_of_mem _ hx)
    simp only [findMap] at h
    split at h
    · simp [stop] at h
    · rename_i ps hps
      have key0 : ∀ ρ ι, Facts ρ st → ∀ q, leaves st ps = some q → ∀ w, (Op.equal kt (key.den ρ ι) (e.1.den ρ noloc)).run P w = .ok (match q with | none => false | some l => l.all (PE.den ρ)) w := by
        intro ρ ι hf q hq w
        obtain ⟨h1, h2⟩ := leaves_ok (ι := ι) hf ps q hq
        have h3 := eqPairs_run hT ρ ι w 100 10000 (by omega) kt key e.1 ps hps h1
        rw [SW.data_den hde.1 ρ noloc ι]
        refine h3.trans ?_
        rw [h2]
        cases q <;> rfl
      split at h
      · simp [stop] at h
      · rename_i hl
        obtain ⟨q, hv, hr⟩ := findMap_ok hT h hds
        refine ⟨q, hv, fun ρ hlog hf ι w i0 i => ?_⟩
        obtain ⟨j, hj⟩ := hr ρ hlog hf ι w (i0 + 1) (i + 1)
        refine ⟨j, ?_⟩
        simp only [entFrom, Instr.findAsking, Sem.run_bind, key0 ρ ι hf _ hl w, Result.andThen_ok, Bool.false_eq_true, if_false]
        exact hj
      · rename_i hl
        simp only [R.ok.injEq, Prod.mk.injEq] at h
        obtain ⟨rfl, rfl⟩ := h
        refine ⟨.refl _ _, (fun v hv => by cases hv; exact hde.2), fun ρ hlog hf ι w i0 i => ⟨i, ?_⟩⟩
        simp only [entFrom, Instr.findAsking, Sem.run_bind, key0 ρ ι hf _ hl w, Result.andThen_ok, List.all_nil, if_true, Sem.run_pure, Option.map_some]
        rw [SW.data_den hde.2 ρ noloc ι]
      · rename_i l _ hl
        split at h
        · cases h
        · rename_i v st1 hm
          have g := mkB_gives (Φ := Φ) hm
          have gq := g.quiet
          split at h
          · cases h
          · rename_i st2 hg
            obtain ⟨q2, hb⟩ := getB_ok (Φ := Φ) hg
            simp only [R.ok.injEq, Prod.mk.injEq] at h
            obtain ⟨rfl, rfl⟩ := h
            refine ⟨gq.trans q2, (fun v hv => by cases hv; exact hde.2), fun ρ hlog hf ι w i0 i => ⟨i, ?_⟩⟩
            have h1 := g.den ρ (q2.logOk hlog) hf ι
            have h2 := hb ρ hlog (gq.facts ρ (q2.logOk hlog) hf) ι
            rw [h2] at h1
            simp only [Value.bool.injEq, Bool.xor_false, BE.den] at h1
            simp only [entFrom, Instr.findAsking, Sem.run_bind, key0 ρ ι hf _ hl w, Result.andThen_ok, ← h1, if_true, Sem.run_pure, Option.map_some]
            rw [SW.data_den hde.2 ρ noloc ι]
          · rename_i st2 hg
            obtain ⟨q2, hb⟩ := getB_ok (Φ := Φ) hg
            obtain ⟨q, hv, hr⟩ := findMap_ok hT h hds
            refine ⟨(gq.trans q2).trans q, hv, fun ρ hlog hf ι w i0 i => ?_⟩
            have hl2 := q.logOk hlog
            have hl1 := q2.logOk hl2
            have h1 := g.den ρ hl1 hf ι
            have hf1 := gq.facts ρ hl1 hf
            have h2 := hb ρ hl2 hf1 ι
            rw [h2] at h1
            simp only [Value.bool.injEq, Bool.xor_false, BE.den] at h1
            obtain ⟨j, hj⟩ := hr ρ hlog (q2.facts ρ hl2 hf1) ι w (i0 + 1) (i + 1)
            refine ⟨j, ?_⟩
            simp only [entFrom, Instr.findAsking, Sem.run_bind, key0 ρ ι hf _ hl w, Result.andThen_ok, ← h1, Bool.false_eq_true, if_false]
            exact hj

/-- a struct's key is asked for, entry by entry -/
theorem findKey_run {C : Ctx} (hT : TysOk P C.tys) {kt : TypeId} {ks : List SC} (h : keyOk C kt ks = true) (ρ : Env) (ι : Loc) (es : List MapEntry) (w : World) :
    (Instr.findKey kt ((SW.agg ks).den ρ ι) es).run P w = (Instr.findAsking kt ((SW.agg ks).den ρ ι) es 0).run P w := by
  unfold keyOk at h
  split at h
  · rename_i i hi
    split at h
    · rename_i fs hd
      have ht := hT kt i hi
      unfold Instr.findKey
      simp only [Sem.run_bind, ht.runUnd, hd, Result.andThen_ok]
      cases es with
      | nil => rfl
      | cons e es =>
        simp only [Instr.findNow, Instr.sameNow]
    · cases h
  · cases h

theorem SW.den_mp (ρ : Env) (ι : Loc) (b : Nat) : (SW.c (SC.mp b)).den ρ ι = .map (some (ι.blk b)) := rfl

theorem entFrom_append (ρ : Env) (e : SW × SW) : ∀ (es : List (SW × SW)) (i : Nat), entFrom ρ i (es ++ [e]) = entFrom ρ i es ++ [⟨e.1.den ρ noloc, e.2.den ρ noloc, i + es.length⟩]
  | [], i => rfl
  | x :: es, i => by
    simp only [List.cons_append, entFrom, entFrom_append ρ e es (i + 1), List.length_cons]
    rw [show i + 1 + es.length = i + (es.length + 1) by omega]

theorem Rep.map {ρ : Env} {ι : Loc} {A : Nat → Prop} {H : Nat → Option Blk} {nb : Nat} {w : World} (hr : Rep ρ ι A H nb w) {id : Nat} {k : Blk} (hk : H id = some k) {es : List (SW × SW)} (hm : k.mp = some es) :
    (∀ e ∈ es, e.1.data = true ∧ e.2.data = true) ∧ w.heap[ι.blk id]? = some (.map (entFrom ρ 0 es).toArray es.length) := by
  rcases hr.blk id k hk with ⟨h0, _⟩ | ⟨_, es', h1, h2, h3⟩
  · rw [hm] at h0; cases h0
  · rw [hm] at h1
    simp only [Option.some.injEq] at h1
    subst h1
    exact ⟨h2, h3⟩

theorem getObj_at {w : World} {r : Nat} {o : Obj} (h : w.heap[r]? = some o) (hv : ∃ es c, o = .map es c) : (getObj r).run P w = .ok o w := by
  obtain ⟨es, c, rfl⟩ := hv
  simp [getObj, Sem.run, h]
theorem setObj_at {w : World} {r : Nat} {es : Array MapEntry} {c : Nat} (h : w.heap[r]? = some (.map es c)) (o : Obj) : (setObj r o).run P w = .ok () { w with heap := w.heap.setIfInBounds r o } := by
  simp [setObj, Sem.run, h]
theorem allData_mem {es : List (SW × SW)} (h : allData es = true) : ∀ e ∈ es, e.1.data = true ∧ e.2.data = true := fun e he => by
  simp only [allData, List.all_eq_true, Bool.and_eq_true] at h
  exact h e he

theorem makeMap_does {Φ : Phi} {t : TypeId} {st st' : St} {v : SV} (h : makeMapS st = .ok (v, st')) : Does P Φ st v st' [] fun ρ ι => Instr.makeMap t none := by
  simp only [makeMapS, R.ok.injEq, Prod.mk.injEq] at h
  obtain ⟨rfl, rfl⟩ := h
  refine ⟨newBlk_le, fun ρ hl hf A hA ι w hr hin => ?_⟩
  have hA' : A st.nb := hA st.nb (Nat.le_refl _) (Nat.lt_succ_self _)
  have hb : (⟨0, 0, .lit (.tuple #[]), .e, false, some []⟩ : Blk).on (lim st.nb A) := fun i hi => absurd hi (Nat.not_lt_zero i)
  have := newObj_post hr hb hA' (o := .map #[] 0) (.inr ⟨rfl, [], rfl, (fun e he => by cases he), rfl⟩) 0 w.drawn
  refine ⟨_, _, ?_, this, ?_⟩
  · show Result.ok _ _ = Result.ok _ _
    simp [SV.den, SW.den, SC.den, newBlk, Loc.set]
  · intro c hc
    simp only [SW.cells, List.mem_singleton] at hc
    subst hc
    exact ⟨Nat.lt_succ_self _, hA'⟩

theorem lookup_does {Φ : Phi} {C : Ctx} (hT : TysOk P C.tys) {t : TypeId} {x key : SV} {ok : Bool} {st st' : St} {v : SV} (h : lookupS C t x key ok st = .ok (v, st')) :
    Does P Φ st v st' [x, key] fun ρ ι => Instr.lookup t (x.den ρ ι) (key.den ρ ι) ok := by
  unfold lookupS at h
  split at h
  · rename_i kt et b ks hd
    split at h
    · rename_i k j hk hj
      split at h
      · rename_i es z hm hz
        split at h
        · rename_i hko0
          simp only [Bool.and_eq_true] at hko0
          obtain ⟨hko, hal⟩ := hko0
          have hdat := allData_mem hal
          obtain ⟨i, hi, hdi⟩ : ∃ i, C.tys.get t = some i ∧ i.desc = .map kt et := by
            unfold descOf at hd
            cases hg : C.tys.get t with
            | none => rw [hg] at hd; cases hd
            | some i => rw [hg] at hd; simp only [Option.map_some, Option.some.injEq] at hd; exact ⟨i, rfl, hd⟩
          split at h
          · rename_i r st1 hf
            obtain ⟨q, hv, hr0⟩ := findMap_ok (Φ := Φ) hT hf hdat
            simp only [R.ok.injEq, Prod.mk.injEq] at h
            obtain ⟨rfl, rfl⟩ := h
            refine .quiet q fun ρ hl hfa A ι w hr hin => ?_
            obtain ⟨_, hmap⟩ := hr.map hk hm
            obtain ⟨jj, hj2⟩ := hr0 ρ hl hfa ι w 0 0
            refine ⟨?_, ?_⟩
            · unfold Instr.lookup
              simp only [Sem.run_bind, (hT t i hi).runUnd, hdi, Result.andThen_ok, SV.den_w, SW.den_mp, getObj_at hmap ⟨_, _, rfl⟩, Sem.run_pure, checkKey_run hT hko, findKey_run hT hko, hj2, Option.map_some]
              cases ok <;> rfl
            · have hon := SW.data_on (hv r rfl) (lim st.nb A)
              cases ok
              · exact hon
              · intro y hy
                simp only [if_true, List.mem_cons, List.not_mem_nil, or_false] at hy
                rcases hy with rfl | rfl
                · exact hon
                · exact SW.data_on rfl _
          · rename_i st1 hf
            obtain ⟨q, hv, hr0⟩ := findMap_ok (Φ := Φ) hT hf hdat
            simp only [R.ok.injEq, Prod.mk.injEq] at h
            obtain ⟨rfl, rfl⟩ := h
            refine .quiet q fun ρ hl hfa A ι w hr hin => ?_
            obtain ⟨_, hmap⟩ := hr.map hk hm
            obtain ⟨jj, hj2⟩ := hr0 ρ hl hfa ι w 0 0
            obtain ⟨f, f1, f2, f3, f4⟩ := (hT et j hj).runInfo w
            have hzv : (zeroValue et).run P w = .ok z w := by
              unfold zeroValue
              simp only [Sem.run_bind, f1, Result.andThen_ok, f4, hz, Sem.run_pure]
            refine ⟨?_, ?_⟩
            · unfold Instr.lookup
              simp only [Sem.run_bind, (hT t i hi).runUnd, hdi, Result.andThen_ok, SV.den_w, SW.den_mp, getObj_at hmap ⟨_, _, rfl⟩, Sem.run_pure, checkKey_run hT hko, findKey_run hT hko, hj2, Option.map_none, hzv]
              cases ok <;> rfl
            · cases ok
              · exact SW.data_on (x := .c (.lit z)) rfl _
              · intro y hy
                simp only [if_true, List.mem_cons, List.not_mem_nil, or_false] at hy
                rcases hy with rfl | rfl
                · exact SW.data_on (x := .c (.lit z)) rfl _
                · exact SW.data_on rfl _
          · cases h
        · simp [stop] at h
      · simp [stop] at h
    · simp [stop] at h
  · simp [stop] at h

theorem mapUpd_does {Φ : Phi} {C : Ctx} (hT : TysOk P C.tys) {t : TypeId} {x key y : SV} {st st' : St} {v : SV} (h : mapUpdS C t x key y st = .ok (v, st')) :
    Does P Φ st v st' [x, key, y] fun ρ ι => (Instr.mapUpdate t (x.den ρ ι) (key.den ρ ι) (y.den ρ ι)).bind fun _ => Sem.pure undef := by
  unfold mapUpdS at h
  split at h
  · rename_i kt et b ks vx hd
    split at h
    · rename_i k hk
      split at h
      · rename_i es hm
        split at h
        · rename_i hko0
          simp only [Bool.and_eq_true] at hko0
          obtain ⟨⟨⟨⟨hko, hal⟩, hkd⟩, hvd⟩, hsz0⟩ := hko0
          have hsz : k.size = 0 := by simpa using hsz0
          have hdat := allData_mem hal
          obtain ⟨i, hi, hdi⟩ : ∃ i, C.tys.get t = some i ∧ i.desc = .map kt et := by
            unfold descOf at hd
            cases hg : C.tys.get t with
            | none => rw [hg] at hd; cases hd
            | some i => rw [hg] at hd; simp only [Option.map_some, Option.some.injEq] at hd; exact ⟨i, rfl, hd⟩
          split at h
          · rename_i st1 hf
            obtain ⟨q, hv, hr0⟩ := findMap_ok (Φ := Φ) hT hf hdat
            simp only [R.ok.injEq, Prod.mk.injEq] at h
            obtain ⟨rfl, rfl⟩ := h
            have hk1 : st1.heap.get b = some k := by rw [q.heap]; exact hk
            have hle2 : Le Φ st1 (setBlk b { k with mp := some (es ++ [(.agg ks, vx)]) } st1) := setBlk_le hk1
            refine ⟨q.le.trans hle2, fun ρ hl hfa A hA ι w hr hin => ?_⟩
            have hl1 := hle2.logOk hl
            obtain ⟨_, hmap⟩ := hr.map hk hm
            obtain ⟨jj, hj2⟩ := hr0 ρ hl1 hfa ι w 0 0
            have hr1 := q.rep hr
            have hlt := hr.size hk
            have hset := setObj_at (P := P) hmap (.map ((entFrom ρ 0 es).toArray.push ⟨(SW.agg ks).den ρ ι, vx.den ρ ι, es.length⟩) (es.length + 1))
            have hpost := setObj_post (w' := { w with heap := w.heap.setIfInBounds (ι.blk b) (.map ((entFrom ρ 0 es).toArray.push ⟨(SW.agg ks).den ρ ι, vx.den ρ ι, es.length⟩) (es.length + 1)) })
              (o := .map ((entFrom ρ 0 es).toArray.push ⟨(SW.agg ks).den ρ ι, vx.den ρ ι, es.length⟩) (es.length + 1)) hr1 hk1
              (b := { k with mp := some (es ++ [(.agg ks, vx)]) }) (fun j hj => absurd hj (by show ¬ j < k.size; omega))
              (.inr ⟨hsz, es ++ [(.agg ks, vx)], rfl, (fun e he => by
                rcases List.mem_append.1 he with he | he
                · exact hdat e he
                · simp only [List.mem_singleton] at he
                  subst he
                  exact ⟨hkd, hvd⟩), by
                rw [entFrom_append, SW.data_den hkd ρ noloc ι, SW.data_den hvd ρ noloc ι]
                simp⟩)
              (by simp [hlt]) (fun g hg => by simp [Array.getElem?_setIfInBounds, Ne.symm hg]) rfl rfl rfl (by simp)
            refine ⟨ι, _, ?_, (q.post hr).trans q.le hr hpost, fun y hy => by cases hy⟩
            rw [Sem.run_bind']
            have hrun : (Instr.mapUpdate t ((SV.w (SW.c (SC.mp b))).den ρ ι) ((SV.w (SW.agg ks)).den ρ ι) ((SV.w vx).den ρ ι)).run P w = .ok () { w with heap := w.heap.setIfInBounds (ι.blk b) (.map ((entFrom ρ 0 es).toArray.push ⟨(SW.agg ks).den ρ ι, vx.den ρ ι, es.length⟩) (es.length + 1)) } := by
              unfold Instr.mapUpdate
              simp only [Sem.run_bind, (hT t i hi).runUnd, hdi, Result.andThen_ok, SV.den_w, SW.den_mp, getObj_at hmap ⟨_, _, rfl⟩, Sem.run_pure, checkKey_run hT hko, findKey_run hT hko, hj2, Option.map_none]
              exact hset
            rw [hrun]
            rfl
          · simp [stop] at h
          · cases h
        · simp [stop] at h
      · simp [stop] at h
    · simp [stop] at h
  · simp [stop] at h
end
end Go.Sx
