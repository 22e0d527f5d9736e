/-
  A symbolic executor for the model's code: memory.
-/
import Derived.Test.YtdgilmobljbmcaaSx6
namespace Go.Sx
set_option linter.unusedSimpArgs false
set_option linter.unusedVariables false

section
variable {P : Program}

/-- What a step gives, with whatever it does to the memory. -/
def Does (P : Program) (Φ : Phi) (st : St) (v : SV) (st' : St) (ins : List SV) (m : Env → Loc → Sem Value) : Prop :=
  Le Φ st st' ∧ ∀ ρ, LogOk Φ ρ st'.log → Facts ρ st → ∀ A : Nat → Prop, (∀ id, st.nb ≤ id → id < st'.nb → A id) → ∀ ι w, Rep ρ ι A st.heap.get st.nb w →
    (∀ x ∈ ins, x.on (lim st.nb A)) → ∃ ι' w', (m ρ ι).run P w = .ok (v.den ρ ι') w' ∧ Post ρ ι A st w ι' st' w' ∧ v.on (lim st'.nb A)

theorem Does.of_gives {Φ : Phi} {st st' : St} {v : SV} {spec : Env → Loc → Value → Prop} (g : Gives Φ st v st' spec) (ins : List SV) {m : Env → Loc → Sem Value}
    (h : ∀ ρ ι z, spec ρ ι z → ∀ w, (m ρ ι).run P w = .ok z w) : Does P Φ st v st' ins m :=
  ⟨g.quiet.le, fun ρ hl hf A hA ι w hr hin => ⟨ι, w, h ρ ι _ (g.den ρ hl hf ι) w, g.quiet.post hr, g.bare _⟩⟩

/-- A step that leaves the memory alone, but may hand pointers on. -/
theorem Does.quiet {Φ : Phi} {st st' : St} {v : SV} {ins : List SV} {m : Env → Loc → Sem Value} (q : Quiet Φ st st')
    (h : ∀ ρ, LogOk Φ ρ st'.log → Facts ρ st → ∀ A ι w, Rep ρ ι A st.heap.get st.nb w → (∀ x ∈ ins, x.on (lim st.nb A)) →
      (m ρ ι).run P w = .ok (v.den ρ ι) w ∧ v.on (lim st.nb A)) : Does P Φ st v st' ins m :=
  ⟨q.le, fun ρ hl hf A hA ι w hr hin => by
    obtain ⟨h1, h2⟩ := h ρ hl hf A ι w hr hin
    exact ⟨ι, w, h1, q.post hr, by rw [q.nb]; exact h2⟩⟩

/-! ### Blocks -/
theorem Blk.cells_length (ρ : Env) (ι : Loc) (b : Blk) : (b.cells ρ ι).length = b.size := by simp [Blk.cells]
theorem Blk.cells_get (ρ : Env) (ι : Loc) (b : Blk) {i : Nat} (h : i < b.size) : (b.cells ρ ι)[i]? = some ((b.at i).den ρ ι) := by simp [Blk.cells, h]

theorem Blk.get_some {b : Blk} {i : Nat} {v : SC} (h : b.get i = some v) : i < b.size ∧ v = b.at i := by
  unfold Blk.get at h
  split at h
  · rename_i hh
    simp only [Option.some.injEq] at h
    exact ⟨by simpa using hh, h.symm⟩
  · cases h

theorem Blk.row_some {b : Blk} : ∀ {n off : Nat} {l : List SC}, b.row off n = some l → l.length = n ∧ ∀ j, j < n → off + j < b.size ∧ l[j]? = some (b.at (off + j))
  | 0, off, l, h => by
    simp only [Blk.row, Option.some.injEq] at h
    subst h
    exact ⟨rfl, fun j hj => by omega⟩
  | n + 1, off, l, h => by
    simp only [Blk.row] at h
    split at h
    · rename_i v m hv hm
      simp only [Option.some.injEq] at h
      subst h
      obtain ⟨h1, h2⟩ := Blk.row_some hm
      obtain ⟨h3, h4⟩ := Blk.get_some hv
      refine ⟨by simp [h1], fun j hj => ?_⟩
      cases j with
      | zero => exact ⟨h3, by simp [h4]⟩
      | succ j =>
        obtain ⟨h5, h6⟩ := h2 j (by omega)
        exact ⟨by omega, by simp only [List.getElem?_cons_succ, h6]; congr 2; omega⟩
    · cases h

theorem Blk.row_on {b : Blk} {n off : Nat} {l : List SC} (h : b.row off n = some l) {A : Nat → Prop} (hb : b.on A) : ∀ c ∈ l, c.on A := by
  intro c hc
  obtain ⟨h1, h2⟩ := Blk.row_some h
  obtain ⟨j, hj⟩ := List.mem_iff_getElem?.1 hc
  have hlt : j < n := by
    rw [← h1]
    exact (List.getElem?_eq_some_iff.1 hj).1
  obtain ⟨h3, h4⟩ := h2 j hlt
  rw [hj] at h4
  simp only [Option.some.injEq] at h4
  rw [h4]
  exact hb _ h3

theorem Blk.at_put (b : Blk) (i : Nat) (v : SC) (j : Nat) : (b.put i v).at j = if j = i then v else b.at j := by
  unfold Blk.put Blk.at
  rw [Tr.get_set]
  split <;> simp

theorem Blk.puts_some : ∀ {vs : List SC} {b b' : Blk} {off : Nat}, b.puts off vs = some b' →
    b'.elem = b.elem ∧ b'.size = b.size ∧ b'.more = b.more ∧ (vs ≠ [] → off + vs.length ≤ b.size) ∧ (∀ v ∈ vs, v.one = true) ∧
      ∀ j, b'.at j = if off ≤ j ∧ j < off + vs.length then vs.getD (j - off) (.lit undef) else b.at j
  | [], b, b', off, h => by
    simp only [Blk.puts, Option.some.injEq] at h
    subst h
    exact ⟨rfl, rfl, rfl, fun h => absurd rfl h, (fun v hv => by cases hv), fun j => by rw [if_neg (by simp only [List.length_nil]; omega)]⟩
  | v :: vs, b, b', off, h => by
    simp only [Blk.puts] at h
    split at h
    · rename_i hh
      simp only [Bool.and_eq_true] at hh
      have hlt : off < b.size := by simpa using hh.1
      obtain ⟨h1, h2, h3, h4, h5, h6⟩ := Blk.puts_some h
      refine ⟨h1, h2, h3, fun _ => ?_, fun x hx => ?_, fun j => ?_⟩
      · cases vs with
        | nil => simp; omega
        | cons x xs =>
          have := h4 (by simp)
          simp only [Blk.put] at this
          simp only [List.length_cons] at this ⊢
          omega
      · rcases List.mem_cons.1 hx with rfl | hx
        · exact hh.2
        · exact h5 x hx
      · rw [h6 j]
        by_cases e : j = off
        · subst e
          rw [if_neg (by omega), if_pos (by simp), Blk.at_put, if_pos rfl]
          simp
        · by_cases e2 : off + 1 ≤ j ∧ j < off + 1 + vs.length
          · rw [if_pos e2, if_pos (by simp; omega)]
            have : j - off = (j - (off + 1)) + 1 := by omega
            rw [this]
            simp
          · rw [if_neg e2, if_neg (by simp; omega), Blk.at_put, if_neg e]
    · cases h

theorem Blk.puts_mp : ∀ {vs : List SC} {b b' : Blk} {off : Nat}, b.puts off vs = some b' → b'.mp = b.mp
  | [], b, b', off, h => by
    simp only [Blk.puts, Option.some.injEq] at h
    rw [← h]
  | v :: vs, b, b', off, h => by
    simp only [Blk.puts] at h
    split at h
    · exact (Blk.puts_mp h).trans rfl
    · cases h
theorem Blk.puts_cells {vs : List SC} {b b' : Blk} {off : Nat} (h : b.puts off vs = some b') (hne : vs ≠ []) (ρ : Env) (ι : Loc) :
    b'.cells ρ ι = (b.cells ρ ι).take off ++ vs.map (SC.den ρ ι) ++ (b.cells ρ ι).drop (off + vs.length) := by
  obtain ⟨h1, h2, h3, h4, h5, h6⟩ := Blk.puts_some h
  have h4 := h4 hne
  apply List.ext_getElem?
  intro j
  by_cases hj : j < b.size
  · rw [Blk.cells_get ρ ι b' (by rw [h2]; exact hj), h6 j]
    by_cases e1 : j < off
    · rw [if_neg (by omega), List.append_assoc, List.getElem?_append_left (by rw [List.length_take, Blk.cells_length]; omega), List.getElem?_take, if_pos e1, Blk.cells_get ρ ι b hj]
    · by_cases e2 : j < off + vs.length
      · rw [if_pos ⟨by omega, e2⟩, List.append_assoc, List.getElem?_append_right (by rw [List.length_take, Blk.cells_length]; omega), List.length_take, Blk.cells_length,
          Nat.min_eq_left (by omega), List.getElem?_append_left (by simp; omega)]
        rw [List.getElem?_map, List.getD_eq_getElem?_getD]
        have : j - off < vs.length := by omega
        simp [this]
      · rw [if_neg (by omega), List.getElem?_append_right (by simp [Blk.cells_length]; omega), List.getElem?_drop, ← Blk.cells_get ρ ι b hj]
        congr 1
        simp [Blk.cells_length]
        omega
  · rw [List.getElem?_eq_none (by rw [Blk.cells_length, h2]; omega), List.getElem?_eq_none]
    simp [Blk.cells_length]
    omega

theorem Blk.puts_on {vs : List SC} {b b' : Blk} {off : Nat} (h : b.puts off vs = some b') {A : Nat → Prop} (hb : b.on A) (hv : ∀ c ∈ vs, c.on A) : b'.on A := by
  obtain ⟨h1, h2, h3, h4, h5, h6⟩ := Blk.puts_some h
  intro j hj
  rw [h6 j]
  split
  · rename_i hh
    have : j - off < vs.length := by omega
    rw [List.getD_eq_getElem?_getD, List.getElem?_eq_getElem this]
    exact hv _ (List.getElem_mem this)
  · exact hb j (by omega)

theorem Blk.at_ofList (t : TypeId) (l : List SC) {i : Nat} (h : i < l.length) : (Blk.ofList t l).at i = l[i] := by
  unfold Blk.at Blk.ofList
  rw [Tr.get_setAll, if_pos (by omega)]
  simp [h]
theorem Blk.cells_ofList (t : TypeId) (l : List SC) (ρ : Env) (ι : Loc) : (Blk.ofList t l).cells ρ ι = l.map (SC.den ρ ι) := by
  apply List.ext_getElem
  · simp [Blk.cells, Blk.ofList]
  · intro i h1 h2
    have h3 : i < l.length := by simpa using h2
    simp [Blk.cells, Blk.at_ofList t l h3]
theorem Blk.on_ofList {t : TypeId} {l : List SC} {A : Nat → Prop} (h : ∀ c ∈ l, c.on A) : (Blk.ofList t l).on A := by
  intro i hi
  have hi' : i < l.length := hi
  rw [Blk.at_ofList t l hi']
  exact h _ (List.getElem_mem hi')

theorem SC.one_den {c : SC} (h : c.one = true) (ρ : Env) (ι : Loc) : (c.den ρ ι).oneCell' = true := by
  cases c with
  | lit v => cases v <;> simp [SC.one] at h <;> rfl
  | _ => rfl

/-! ### A new block -/
theorem newBlk_le {Φ : Phi} {st : St} {b : Blk} : Le Φ st (newBlk b st).2 := by
  refine ⟨⟨[], rfl⟩, Nat.le_succ _, ⟨[], rfl, fun id hid _ => ?_, fun _ h => by cases h⟩, fun id hid hn => ?_, fun _ _ h => h⟩
  · show (st.heap.set st.nb b).get id = _
    rw [Tr.get_set, if_neg (by omega)]
  · show (st.heap.set st.nb b).get id = _
    rw [Tr.get_set, if_neg (by omega)]
    exact hn

def Loc.set (ι : Loc) (id g c : Nat) : Loc := ⟨fun i => if i = id then g else ι.blk i, fun i => if i = id then c else ι.cap i⟩

theorem Loc.set_alike {ι : Loc} {nb g c : Nat} {A : Nat → Prop} (hA : ∀ i, A i → i < nb) : Loc.alike A ι (ι.set nb g c) := by
  intro i hi
  have : i ≠ nb := by have := hA i hi; omega
  simp [Loc.set, this]

theorem newObj_post {ρ : Env} {ι : Loc} {A : Nat → Prop} {st : St} {w : World} (hr : Rep ρ ι A st.heap.get st.nb w) {b : Blk} (hb : b.on (lim st.nb A)) (hA : A st.nb)
    {o : Obj} (ho : BlkAt ρ ι b (some o)) (c : Nat) (n : Nat) :
    Post ρ ι A st w (ι.set st.nb w.heap.size c) (newBlk b st).2 { w with heap := w.heap.push o, drawn := n } := by
  have hal : Loc.alike (lim st.nb A) ι (ι.set st.nb w.heap.size c) := Loc.set_alike fun i hi => hi.1
  have hne : ∀ id k, st.heap.get id = some k → id ≠ st.nb := fun id k hk => by have := (hr.lt id k hk).1; omega
  have hget : ∀ id k, (newBlk b st).2.heap.get id = some k → (id = st.nb ∧ k = b) ∨ (id ≠ st.nb ∧ st.heap.get id = some k) := by
    intro id k hk
    have hk' : (st.heap.set st.nb b).get id = some k := hk
    rw [Tr.get_set] at hk'
    split at hk'
    · rename_i e
      simp only [Option.some.injEq] at hk'
      exact .inl ⟨e, hk'.symm⟩
    · rename_i e; exact .inr ⟨e, hk'⟩
  have hmono : ∀ i, lim st.nb A i → lim (st.nb + 1) A i := fun i hi => ⟨Nat.lt_succ_of_lt hi.1, hi.2⟩
  refine ⟨Loc.set_alike fun i hi => hi, ⟨fun id k hk => ?_, fun id k hk => ?_, fun id k hk => ?_, fun id id' k k' hk hk' he => ?_⟩, rfl, rfl, rfl, by simp, fun g hg _ => ?_, fun id h1 h2 => ?_⟩
  · rcases hget id k hk with ⟨rfl, _⟩ | ⟨_, hk⟩
    · exact ⟨Nat.lt_succ_self _, hA⟩
    · exact ⟨Nat.lt_succ_of_lt (hr.lt id k hk).1, (hr.lt id k hk).2⟩
  · rcases hget id k hk with ⟨rfl, rfl⟩ | ⟨hn, hk⟩
    · have := ho.alike hal hb
      simpa [Loc.set] using this
    · have h1 := (hr.blk id k hk).alike hal (hr.on id k hk)
      have hs := hr.size hk
      have e : (ι.set st.nb w.heap.size c).blk id = ι.blk id := by simp [Loc.set, hn]
      rw [e]
      simp only [Array.getElem?_push]
      rw [if_neg (by omega)]
      exact h1
  · rcases hget id k hk with ⟨rfl, rfl⟩ | ⟨hn, hk⟩
    · exact fun i hi => SC.on_mono hmono (hb i hi)
    · exact fun i hi => SC.on_mono hmono (hr.on id k hk i hi)
  · rcases hget id k hk with ⟨e1, _⟩ | ⟨hn, hk⟩
    · rcases hget id' k' hk' with ⟨e2, _⟩ | ⟨hn', hk'⟩
      · rw [e1, e2]
      · have := hr.size hk'
        simp [Loc.set, e1, hn'] at he
        omega
    · rcases hget id' k' hk' with ⟨e2, _⟩ | ⟨hn', hk'⟩
      · have := hr.size hk
        simp [Loc.set, e2, hn] at he
        omega
      · simp [Loc.set, hn, hn'] at he
        exact hr.inj id id' k k' hk hk' he
  · simp only [Array.getElem?_push]
    rw [if_neg (by omega)]
  · have : id = st.nb := by
      have : id < st.nb + 1 := h2
      omega
    simp [Loc.set, this]

theorem newBlk_post {ρ : Env} {ι : Loc} {A : Nat → Prop} {st : St} {w : World} (hr : Rep ρ ι A st.heap.get st.nb w) {b : Blk} (hb : b.on (lim st.nb A)) (hA : A st.nb)
    (rest : List Value) (hmore : b.more = false → rest = []) (c : Nat) (n : Nat) (h0 : b.mp = none := by rfl) :
    Post ρ ι A st w (ι.set st.nb w.heap.size c) (newBlk b st).2 { w with heap := w.heap.push (.cells (b.cells ρ ι ++ rest).toArray b.elem (0, 0)), drawn := n } :=
  newObj_post hr hb hA (.inl ⟨h0, rest, rfl, hmore⟩) c n

/-! ### A block written -/
theorem setBlk_le {Φ : Phi} {st : St} {id : Nat} {b k : Blk} (hk : st.heap.get id = some k) : Le Φ st (setBlk id b st) := by
  refine ⟨⟨[], rfl⟩, Nat.le_refl _, ⟨[id], rfl, fun i hi hn => ?_, fun i h hlt => ?_⟩, fun i hi hn => ?_, fun _ _ h => h⟩
  · show (st.heap.set id b).get i = _
    rw [Tr.get_set, if_neg (by simpa using hn)]
  · simp only [List.mem_singleton] at h
    rw [h, hk]
    simp
  · show (st.heap.set id b).get i = _
    rw [Tr.get_set, if_neg (fun e => by rw [e, hk] at hn; cases hn)]
    exact hn

theorem setObj_post {ρ : Env} {ι : Loc} {A : Nat → Prop} {st : St} {w w' : World} (hr : Rep ρ ι A st.heap.get st.nb w) {id : Nat} {k b : Blk} (hk : st.heap.get id = some k)
    (hb : b.on (lim st.nb A)) {o : Obj} (ho : BlkAt ρ ι b (some o)) (hrow : w'.heap[ι.blk id]? = some o) (hoth : ∀ g, g ≠ ι.blk id → w'.heap[g]? = w.heap[g]?)
    (hos : w'.os = w.os) (htape : w'.tape = w.tape) (hout : w'.output = w.output) (hsz : w'.heap.size = w.heap.size) :
    Post ρ ι A st w ι (setBlk id b st) w' := by
  have hget : ∀ i q, (setBlk id b st).heap.get i = some q → (i = id ∧ q = b) ∨ (i ≠ id ∧ st.heap.get i = some q) := by
    intro i q hq
    have hq' : (st.heap.set id b).get i = some q := hq
    rw [Tr.get_set] at hq'
    split at hq'
    · rename_i e
      simp only [Option.some.injEq] at hq'
      exact .inl ⟨e, hq'.symm⟩
    · rename_i e; exact .inr ⟨e, hq'⟩
  refine ⟨.refl _ _, ⟨fun i q hq => ?_, fun i q hq => ?_, fun i q hq => ?_, fun i i' q q' hq hq' he => ?_⟩, hos, htape, hout, by omega, fun g hg hn => ?_, fun i h1 h2 => ?_⟩
  · rcases hget i q hq with ⟨rfl, _⟩ | ⟨_, hq⟩
    · exact hr.lt i k hk
    · exact hr.lt i q hq
  · rcases hget i q hq with ⟨rfl, rfl⟩ | ⟨hn, hq⟩
    · rw [hrow]; exact ho
    · rw [hoth _ (fun e => hn (hr.inj i id q k hq hk e))]
      exact hr.blk i q hq
  · rcases hget i q hq with ⟨rfl, rfl⟩ | ⟨_, hq⟩
    · exact hb
    · exact hr.on i q hq
  · have h1 : ∃ q, st.heap.get i = some q := by
      rcases hget i q hq with ⟨rfl, _⟩ | ⟨_, hq⟩
      · exact ⟨k, hk⟩
      · exact ⟨q, hq⟩
    have h2 : ∃ q, st.heap.get i' = some q := by
      rcases hget i' q' hq' with ⟨rfl, _⟩ | ⟨_, hq⟩
      · exact ⟨k, hk⟩
      · exact ⟨q', hq⟩
    obtain ⟨q1, h1⟩ := h1
    obtain ⟨q2, h2⟩ := h2
    exact hr.inj i i' q1 q2 h1 h2 he
  · exact hoth g (fun e => hn id k hk e.symm)
  · have : (setBlk id b st).nb = st.nb := rfl
    omega

theorem setBlk_post {ρ : Env} {ι : Loc} {A : Nat → Prop} {st : St} {w : World} (hr : Rep ρ ι A st.heap.get st.nb w) {id : Nat} {k b : Blk} (hk : st.heap.get id = some k) (h0 : k.mp = none)
    (hb : b.on (lim st.nb A)) {arr : Array Value} (harr : BlkAt ρ ι b (some (.cells arr k.elem (0, 0)))) :
    Post ρ ι A st w ι (setBlk id b st) (w.setRow (ι.blk id) arr) := by
  rcases hr.blk id k hk with ⟨_, r0, hw, _⟩ | ⟨_, es, e, _⟩
  · exact setObj_post hr hk hb harr (setRow_heap w (ι.blk id) _ arr _ _ hw) (fun g hg => setRow_other _ _ _ _ hg) rfl rfl rfl (by simp)
  · rw [h0] at e; cases e

/-- the cells of a block, in the world -/
theorem Rep.cell {ρ : Env} {ι : Loc} {A : Nat → Prop} {H : Nat → Option Blk} {nb : Nat} {w : World} (hr : Rep ρ ι A H nb w) {id : Nat} {k : Blk} (hk : H id = some k) {i : Nat} (hi : i < k.size) :
    w.cell? ⟨ι.blk id, i, none⟩ = some ((k.at i).den ρ ι) := by
  obtain ⟨_, r, h1, _⟩ := (hr.blk id k hk).cells (by omega)
  simp only [World.cell?, h1, Option.isSome_none, Bool.false_eq_true, if_false]
  rw [List.getElem?_toArray, List.getElem?_append_left (by rw [Blk.cells_length]; exact hi), Blk.cells_get ρ ι k hi]

theorem addr_add (g off i : Nat) : (⟨g, off, none⟩ : Addr).add i = ⟨g, off + i, none⟩ := by
  unfold Addr.add
  split
  · rename_i h; simp [h]
  · rfl

theorem loadCells_run {ρ : Env} {ι : Loc} {A : Nat → Prop} {H : Nat → Option Blk} {nb : Nat} {w : World} (hr : Rep ρ ι A H nb w) {id : Nat} {k : Blk} (hk : H id = some k) {off n : Nat} {l : List SC}
    (hl : k.row off n = some l) : (loadCells ⟨ι.blk id, off, none⟩ n).run P w = .ok (l.map (SC.den ρ ι)).toArray w := by
  obtain ⟨h1, h2⟩ := Blk.row_some hl
  have := run_loadCells_list (P := P) w ⟨ι.blk id, off, none⟩ (l.map (SC.den ρ ι)) (fun j v hj => by
    rw [List.getElem?_map] at hj
    have hlt : j < n := by
      rcases Nat.lt_or_ge j n with h | h
      · exact h
      · rw [List.getElem?_eq_none (by omega)] at hj; cases hj
    obtain ⟨h3, h4⟩ := h2 j hlt
    rw [h4] at hj
    simp only [Option.map_some, Option.some.injEq] at hj
    rw [addr_add, hr.cell hk h3, hj])
  rw [List.length_map, h1] at this
  exact this

theorem storeCells_run {ρ : Env} {ι : Loc} {A : Nat → Prop} {st : St} {w : World} (hr : Rep ρ ι A st.heap.get st.nb w) {id : Nat} {k b : Blk} (hk : st.heap.get id = some k) {off : Nat} {vs : List SC}
    (hp : k.puts off vs = some b) (hv : ∀ c ∈ vs, c.on (lim st.nb A)) :
    ∃ w', (storeCells ⟨ι.blk id, off, none⟩ (vs.map (SC.den ρ ι))).run P w = .ok () w' ∧ Post ρ ι A st w ι (setBlk id b st) w' := by
  obtain ⟨h1, h2, h3, h4, h5, h6⟩ := Blk.puts_some hp
  have hbon := Blk.puts_on hp (hr.on id k hk) hv
  by_cases hne : vs = []
  · subst hne
    simp only [Blk.puts, Option.some.injEq] at hp
    subst hp
    refine ⟨w, rfl, ?_⟩
    obtain ⟨o, ho⟩ := (hr.blk id k hk).obj
    exact setObj_post hr hk hbon (by rw [← ho]; exact hr.blk id k hk) ho (fun _ _ => rfl) rfl rfl rfl rfl
  · have h4 := h4 hne
    have hpos : 0 < vs.length := by
      cases vs with
      | nil => exact absurd rfl hne
      | cons _ _ => simp
    obtain ⟨hmp, r, hw, hm⟩ := (hr.blk id k hk).cells (by omega)
    have hrun := run_storeCells_at (P := P) (ι.blk id) off k.elem (vs.map (SC.den ρ ι)) 0 _ w hw (by simp [Blk.cells_length]; omega) (fun x hx => by
      obtain ⟨c, hc, rfl⟩ := List.mem_map.1 hx
      exact SC.one_den (h5 c hc) ρ ι)
    refine ⟨_, hrun, setBlk_post hr hk hmp hbon (.inl ⟨(Blk.puts_mp hp).trans hmp, r, ?_, fun e => hm (by rw [← h3]; exact e)⟩)⟩
    simp only [Nat.add_zero, List.length_map]
    rw [Blk.puts_cells hp hne ρ ι, h1]
    congr 3
    rw [List.take_append_of_le_length (by rw [Blk.cells_length]; omega), List.drop_append_of_le_length (by rw [Blk.cells_length]; omega)]
    simp [List.append_assoc]

end
end Go.Sx
