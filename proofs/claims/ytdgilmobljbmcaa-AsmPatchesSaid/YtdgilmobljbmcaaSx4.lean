/-
  A symbolic executor for the model's code: what it is to stand for a world.
-/
import Derived.Test.YtdgilmobljbmcaaSx3
namespace Go.Sx
set_option linter.unusedSimpArgs false
set_option linter.unusedVariables false

/-! ### Tries -/
theorem Tr.get_e {α : Type} (k : Nat) : (Tr.e : Tr α).get k = none := by cases k <;> rfl

theorem beq_mod_even {k : Nat} : Nat.beq (k % 2) 0 = true ↔ k % 2 = 0 := by simp [Nat.beq_eq]
theorem half_ne {j k : Nat} (h : j ≠ k) (hm : j % 2 = k % 2) : j / 2 ≠ k / 2 := by omega

theorem Tr.get_upd {α : Type} (v : Option α) : ∀ (f : Nat) (t : Tr α) (k j : Nat), k < f → (Tr.upd v f t k).get j = if j = k then v else t.get j := by
  intro f
  induction f with
  | zero => intro t k j h; omega
  | succ f ih =>
    intro t k j h
    cases t with
    | e =>
      cases k with
      | zero =>
        cases j with
        | zero => simp [Tr.upd, Tr.get]
        | succ j => simp only [Tr.upd, Tr.get]; split <;> simp [Tr.get_e]
      | succ k =>
        have hk : k / 2 < f := by omega
        simp only [Tr.upd]
        split
        · rename_i hb
          rw [beq_mod_even] at hb
          cases j with
          | zero => simp [Tr.get]
          | succ j =>
            simp only [Tr.get]
            split
            · rename_i hj
              rw [beq_mod_even] at hj
              rw [ih _ _ _ hk]
              simp only [Tr.get_e]
              by_cases he : j = k
              · subst he; simp
              · have := half_ne he (by omega); simp [he, this]
            · rename_i hj
              simp only [beq_mod_even] at hj
              rw [if_neg (by omega)]
              try simp [Tr.get_e]
        · rename_i hb
          simp only [beq_mod_even] at hb
          cases j with
          | zero => simp [Tr.get]
          | succ j =>
            simp only [Tr.get]
            split
            · rename_i hj
              rw [beq_mod_even] at hj
              rw [if_neg (by omega)]
              try simp [Tr.get_e]
            · rename_i hj
              simp only [beq_mod_even] at hj
              rw [ih _ _ _ hk]
              simp only [Tr.get_e]
              by_cases he : j = k
              · subst he; simp
              · have := half_ne he (by omega); simp [he, this]
    | n l x r =>
      cases k with
      | zero =>
        cases j with
        | zero => simp [Tr.upd, Tr.get]
        | succ j => simp [Tr.upd, Tr.get]
      | succ k =>
        have hk : k / 2 < f := by omega
        simp only [Tr.upd]
        split
        · rename_i hb
          rw [beq_mod_even] at hb
          cases j with
          | zero => simp [Tr.get]
          | succ j =>
            simp only [Tr.get]
            split
            · rename_i hj
              rw [beq_mod_even] at hj
              rw [ih _ _ _ hk]
              by_cases he : j = k
              · subst he; simp
              · have := half_ne he (by omega); simp [he, this]
            · rename_i hj
              simp only [beq_mod_even] at hj
              rw [if_neg (by omega)]
        · rename_i hb
          simp only [beq_mod_even] at hb
          cases j with
          | zero => simp [Tr.get]
          | succ j =>
            simp only [Tr.get]
            split
            · rename_i hj
              rw [beq_mod_even] at hj
              rw [if_neg (by omega)]
            · rename_i hj
              simp only [beq_mod_even] at hj
              rw [ih _ _ _ hk]
              by_cases he : j = k
              · subst he; simp
              · have := half_ne he (by omega); simp [he, this]

theorem Tr.get_set {α : Type} (t : Tr α) (k : Nat) (v : α) (j : Nat) : (t.set k v).get j = if j = k then some v else t.get j :=
  Tr.get_upd _ _ _ _ _ (Nat.lt_succ_self k)
theorem Tr.get_del {α : Type} (t : Tr α) (k : Nat) (j : Nat) : (t.del k).get j = if j = k then none else t.get j :=
  Tr.get_upd _ _ _ _ _ (Nat.lt_succ_self k)

theorem Tr.get_setAll {α : Type} : ∀ (l : List α) (t : Tr α) (k j : Nat),
    (Tr.setAll t k l).get j = if k ≤ j ∧ j < k + l.length then l[j - k]? else t.get j := by
  intro l
  induction l with
  | nil => intro t k j; simp [Tr.setAll]; omega
  | cons x xs ih =>
    intro t k j
    simp only [Tr.setAll, ih, Tr.get_set]
    by_cases h1 : j = k
    · subst h1
      rw [if_neg (by omega), if_pos (by simp)]
      simp
    · by_cases h2 : k + 1 ≤ j ∧ j < k + 1 + xs.length
      · rw [if_pos h2, if_pos (by simp; omega)]
        have : j - k = (j - (k + 1)) + 1 := by omega
        rw [this]; simp
      · rw [if_neg h2, if_neg h1, if_neg (by simp only [List.length_cons]; omega)]

/-! ### What a value mentions -/
def SC.on (A : Nat → Prop) : SC → Prop
  | .ptr b _ => A b
  | .slc b _ _ _ => A b
  | .slu b _ => A b
  | .clo _ caps => ∀ p ∈ caps, A p.1
  | .mp b => A b
  | _ => True

def SW.on (A : Nat → Prop) (x : SW) : Prop := ∀ c ∈ x.cells, c.on A
def SV.on (A : Nat → Prop) : SV → Prop
  | .w x => x.on A
  | .tup xs => ∀ x ∈ xs, x.on A

theorem SC.on_mono {A B : Nat → Prop} (h : ∀ i, A i → B i) {c : SC} (hc : c.on A) : c.on B := by
  cases c <;> simp only [SC.on] at * <;> first | exact h _ hc | (intro p hp; exact h _ (hc p hp))
theorem SW.on_mono {A B : Nat → Prop} (h : ∀ i, A i → B i) {x : SW} (hc : x.on A) : x.on B := fun c m => SC.on_mono h (hc c m)
theorem SV.on_mono {A B : Nat → Prop} (h : ∀ i, A i → B i) {x : SV} (hc : x.on A) : x.on B := by
  cases x with
  | w x => exact SW.on_mono h hc
  | tup xs => exact fun x m => SW.on_mono h (hc x m)

/-- two places of the blocks that are alike where A holds -/
def Loc.alike (A : Nat → Prop) (ι ι' : Loc) : Prop := ∀ i, A i → ι'.blk i = ι.blk i ∧ ι'.cap i = ι.cap i

theorem Loc.alike.refl (A : Nat → Prop) (ι : Loc) : Loc.alike A ι ι := fun _ _ => ⟨rfl, rfl⟩
theorem Loc.alike.symm {A : Nat → Prop} {ι ι' : Loc} (h : Loc.alike A ι ι') : Loc.alike A ι' ι := fun i hi => ⟨(h i hi).1.symm, (h i hi).2.symm⟩

theorem SC.den_alike {A : Nat → Prop} {ι ι' : Loc} (h : Loc.alike A ι ι') (ρ : Env) {c : SC} (hc : c.on A) : c.den ρ ι' = c.den ρ ι := by
  cases c with
  | lit v => rfl
  | ivar k x => rfl
  | bvar x g => rfl
  | svar x => rfl
  | ptr b o => simp only [SC.den, (h b hc).1]
  | slc b o l c => simp only [SC.den, (h b hc).1]
  | slu b l => simp only [SC.den, (h b hc).1, (h b hc).2]
  | clo f caps =>
    simp only [SC.den]
    congr 2
    exact List.map_congr_left fun p hp => by rw [(h p.1 (hc p hp)).1]
  | mp b => simp only [SC.den, (h b hc).1]
theorem SW.den_alike {A : Nat → Prop} {ι ι' : Loc} (h : Loc.alike A ι ι') (ρ : Env) {x : SW} (hc : x.on A) : x.den ρ ι' = x.den ρ ι := by
  cases x with
  | c c => exact SC.den_alike h ρ (hc c (by simp [SW.cells]))
  | agg xs =>
    simp only [SW.den]
    congr 2
    exact List.map_congr_left fun p hp => SC.den_alike h ρ (hc p (by simpa [SW.cells] using hp))
theorem SV.den_alike {A : Nat → Prop} {ι ι' : Loc} (h : Loc.alike A ι ι') (ρ : Env) {x : SV} (hc : x.on A) : x.den ρ ι' = x.den ρ ι := by
  cases x with
  | w x => exact SW.den_alike h ρ hc
  | tup xs =>
    simp only [SV.den]
    congr 2
    exact List.map_congr_left fun p hp => SW.den_alike h ρ (hc p hp)

/-! ### Worlds -/
def Blk.cells (ρ : Env) (ι : Loc) (b : Blk) : List Value := (List.range b.size).map fun i => (b.at i).den ρ ι


theorem SC.data_den {c : SC} (h : c.data = true) (ρ : Env) (ι ι' : Loc) : c.den ρ ι = c.den ρ ι' := by
  cases c <;> first | rfl | (simp [SC.data] at h)
theorem SW.data_den {x : SW} (h : x.data = true) (ρ : Env) (ι ι' : Loc) : x.den ρ ι = x.den ρ ι' := by
  cases x with
  | c c => exact SC.data_den (by simpa [SW.data, SW.cells] using h) ρ ι ι'
  | agg xs =>
    simp only [SW.den]
    congr 2
    exact List.map_congr_left fun p hp => SC.data_den (by
      simp only [SW.data, SW.cells, List.all_eq_true] at h
      exact h p hp) ρ ι ι'
theorem SC.data_on {c : SC} (h : c.data = true) (A : Nat → Prop) : c.on A := by
  cases c <;> first | trivial | (simp [SC.data] at h)
theorem SW.data_on {x : SW} (h : x.data = true) (A : Nat → Prop) : x.on A := fun c hc => by
  simp only [SW.data, List.all_eq_true] at h
  exact SC.data_on (h c hc) A

/-- a map's entries -/
def entFrom (ρ : Env) : Nat → List (SW × SW) → List MapEntry
  | _, [] => []
  | i, e :: es => ⟨e.1.den ρ noloc, e.2.den ρ noloc, i⟩ :: entFrom ρ (i + 1) es

def BlkAt (ρ : Env) (ι : Loc) (b : Blk) (o : Option Obj) : Prop :=
  (b.mp = none ∧ ∃ rest : List Value, o = some (.cells (b.cells ρ ι ++ rest).toArray b.elem (0, 0)) ∧ (b.more = false → rest = [])) ∨
  (b.size = 0 ∧ ∃ es, b.mp = some es ∧ (∀ e ∈ es, e.1.data = true ∧ e.2.data = true) ∧ o = some (.map (entFrom ρ 0 es).toArray es.length))

def Blk.fine (b : Blk) : Prop := b.mp = none ∨ (b.size = 0 ∧ ∃ es, b.mp = some es ∧ ∀ e ∈ es, e.1.data = true ∧ e.2.data = true)
theorem BlkAt.fine {ρ : Env} {ι : Loc} {b : Blk} {o : Option Obj} (h : BlkAt ρ ι b o) : b.fine := by
  rcases h with ⟨h, _⟩ | ⟨h1, es, h2, h3, _⟩
  · exact .inl h
  · exact .inr ⟨h1, es, h2, h3⟩
theorem BlkAt.obj {ρ : Env} {ι : Loc} {b : Blk} {o : Option Obj} (h : BlkAt ρ ι b o) : ∃ x, o = some x := by
  rcases h with ⟨_, r, h, _⟩ | ⟨_, es, _, _, h⟩ <;> exact ⟨_, h⟩
theorem BlkAt.cells {ρ : Env} {ι : Loc} {b : Blk} {o : Option Obj} (h : BlkAt ρ ι b o) (hs : 0 < b.size) :
    b.mp = none ∧ ∃ rest : List Value, o = some (.cells (b.cells ρ ι ++ rest).toArray b.elem (0, 0)) ∧ (b.more = false → rest = []) := by
  rcases h with h | ⟨h, _⟩
  · exact h
  · omega

def Blk.on (A : Nat → Prop) (b : Blk) : Prop := ∀ i, i < b.size → (b.at i).on A

theorem Blk.cells_alike {A : Nat → Prop} {ι ι' : Loc} (h : Loc.alike A ι ι') (ρ : Env) {b : Blk} (hb : b.on A) : b.cells ρ ι' = b.cells ρ ι :=
  List.map_congr_left fun i hi => SC.den_alike h ρ (hb i (by simpa using hi))

theorem BlkAt.alike {A : Nat → Prop} {ι ι' : Loc} (h : Loc.alike A ι ι') {ρ : Env} {b : Blk} (hb : b.on A) {o : Option Obj} (hx : BlkAt ρ ι b o) : BlkAt ρ ι' b o := by
  rcases hx with ⟨h0, r, h1, h2⟩ | hx
  · exact .inl ⟨h0, r, by rw [Blk.cells_alike h ρ hb]; exact h1, h2⟩
  · exact .inr hx

/-- blocks below nb, all of A -/
def lim (nb : Nat) (A : Nat → Prop) : Nat → Prop := fun i => i < nb ∧ A i

/-- The blocks of H stand in the world at ι's places. -/
structure Rep (ρ : Env) (ι : Loc) (A : Nat → Prop) (H : Nat → Option Blk) (nb : Nat) (w : World) : Prop where
  lt : ∀ id k, H id = some k → id < nb ∧ A id
  blk : ∀ id k, H id = some k → BlkAt ρ ι k w.heap[ι.blk id]?
  on : ∀ id k, H id = some k → k.on (lim nb A)
  inj : ∀ id id' k k', H id = some k → H id' = some k' → ι.blk id = ι.blk id' → id = id'

theorem Rep.size {ρ : Env} {ι : Loc} {A : Nat → Prop} {H : Nat → Option Blk} {nb : Nat} {w : World} (h : Rep ρ ι A H nb w) {id : Nat} {k : Blk} (hk : H id = some k) :
    ι.blk id < w.heap.size := by
  obtain ⟨r, h1⟩ := (h.blk id k hk).obj
  exact (Array.getElem?_eq_some_iff.1 h1).1

def LogOk (Φ : Phi) (ρ : Env) (l : List Ev) : Prop := ∀ e ∈ l, e.ok Φ ρ
def Facts (ρ : Env) (st : St) : Prop := (∀ x b, st.bf.get x = some b → ρ.b x = b) ∧ (∀ x n, st.jf.get x = some n → ρ.i x = n)

theorem LogOk.tail {Φ : Phi} {ρ : Env} {l m : List Ev} (h : LogOk Φ ρ (l ++ m)) : LogOk Φ ρ m := fun e he => h e (List.mem_append_right _ he)

/-- What every step of the executor keeps. -/
structure Le (Φ : Phi) (st st' : St) : Prop where
  log : ∃ l, st'.log = l ++ st.log
  nb : st.nb ≤ st'.nb
  wr : ∃ l, st'.wr = l ++ st.wr ∧ (∀ id, id < st.nb → id ∉ l → st'.heap.get id = st.heap.get id) ∧ (∀ id, id ∈ l → id < st.nb → st.heap.get id ≠ none)
  dom : ∀ id, id < st.nb → st.heap.get id = none → st'.heap.get id = none
  facts : ∀ ρ, LogOk Φ ρ st'.log → Facts ρ st → Facts ρ st'

theorem Le.refl (Φ : Phi) (st : St) : Le Φ st st :=
  ⟨⟨[], rfl⟩, Nat.le_refl _, ⟨[], rfl, fun _ _ _ => rfl, fun _ h => by cases h⟩, fun _ _ h => h, fun _ _ h => h⟩

theorem Le.logOk {Φ : Phi} {st st' : St} (h : Le Φ st st') {ρ : Env} (hl : LogOk Φ ρ st'.log) : LogOk Φ ρ st.log := by
  obtain ⟨l, hl'⟩ := h.log
  rw [hl'] at hl
  exact hl.tail

theorem Le.trans {Φ : Phi} {a b c : St} (h : Le Φ a b) (k : Le Φ b c) : Le Φ a c := by
  obtain ⟨l1, e1⟩ := h.log
  obtain ⟨l2, e2⟩ := k.log
  obtain ⟨w1, f1, g1, d1⟩ := h.wr
  obtain ⟨w2, f2, g2, d2⟩ := k.wr
  refine ⟨⟨l2 ++ l1, by rw [e2, e1, List.append_assoc]⟩, Nat.le_trans h.nb k.nb, ⟨w2 ++ w1, by rw [f2, f1, List.append_assoc], fun id hid hn => ?_, fun id hid hlt => ?_⟩, fun id hid hn => k.dom id (Nat.lt_of_lt_of_le hid h.nb) (h.dom id hid hn),
    fun ρ hρ hf => k.facts ρ hρ (h.facts ρ (k.logOk hρ) hf)⟩
  · rw [List.mem_append] at hn
    rw [g2 id (Nat.lt_of_lt_of_le hid h.nb) (fun m => hn (.inl m)), g1 id hid (fun m => hn (.inr m))]
  · rw [List.mem_append] at hid
    rcases hid with m | m
    · intro hnone
      exact d2 id m (Nat.lt_of_lt_of_le hlt h.nb) (h.dom id hlt hnone)
    · exact d1 id m hlt

/-- What a step does to the world. -/
structure Post (ρ : Env) (ι : Loc) (A : Nat → Prop) (st : St) (w : World) (ι' : Loc) (st' : St) (w' : World) : Prop where
  alike : Loc.alike (fun i => i < st.nb) ι ι'
  rep : Rep ρ ι' A st'.heap.get st'.nb w'
  os : w'.os = w.os
  tape : w'.tape = w.tape
  output : w'.output = w.output
  size : w.heap.size ≤ w'.heap.size
  same : ∀ b, b < w.heap.size → (∀ id k, st.heap.get id = some k → ι.blk id ≠ b) → w'.heap[b]? = w.heap[b]?
  fresh : ∀ id, st.nb ≤ id → id < st'.nb → w.heap.size ≤ ι'.blk id

theorem Post.refl {ρ : Env} {ι : Loc} {A : Nat → Prop} {st : St} {w : World} (h : Rep ρ ι A st.heap.get st.nb w) : Post ρ ι A st w ι st w :=
  ⟨.refl _ _, h, rfl, rfl, rfl, Nat.le_refl _, fun _ _ _ => rfl, fun _ h1 h2 => absurd h1 (Nat.not_le_of_lt h2)⟩

theorem Post.trans {Φ : Phi} {ρ : Env} {ι ι1 ι2 : Loc} {A : Nat → Prop} {st st1 st2 : St} {w w1 w2 : World} (hle : Le Φ st st1) (hr : Rep ρ ι A st.heap.get st.nb w)
    (h : Post ρ ι A st w ι1 st1 w1) (k : Post ρ ι1 A st1 w1 ι2 st2 w2) : Post ρ ι A st w ι2 st2 w2 := by
  refine ⟨fun i hi => ?_, k.rep, k.os.trans h.os, k.tape.trans h.tape, k.output.trans h.output, Nat.le_trans h.size k.size, fun b hb hn => ?_, fun id h1 h2 => ?_⟩
  · have a1 := h.alike i hi
    have a2 := k.alike i (Nat.lt_of_lt_of_le hi hle.nb)
    exact ⟨a2.1.trans a1.1, a2.2.trans a1.2⟩
  · rw [k.same b (Nat.lt_of_lt_of_le hb h.size) (fun id k' hk' => ?_), h.same b hb hn]
    by_cases hid : id < st.nb
    · rw [(h.alike id hid).1]
      cases hg : st.heap.get id with
      | none => rw [hle.dom id hid hg] at hk'; cases hk'
      | some q => exact hn id q hg
    · have := h.fresh id (by omega) (h.rep.lt id k' hk').1
      omega
  · by_cases hid : id < st1.nb
    · rw [(k.alike id hid).1]
      exact h.fresh id h1 hid
    · exact Nat.le_trans h.size (k.fresh id (by omega) h2)

/-- A world that differs by a draw alone. -/
theorem Rep.world {ρ : Env} {ι : Loc} {A : Nat → Prop} {H : Nat → Option Blk} {nb : Nat} {w w' : World} (h : Rep ρ ι A H nb w) (hw : w'.heap = w.heap) : Rep ρ ι A H nb w' :=
  ⟨h.lt, fun id k hk => by rw [hw]; exact h.blk id k hk, h.on, h.inj⟩

end Go.Sx
