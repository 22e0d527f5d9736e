/-
  A symbolic executor for the model's code: frames; a region in its own order.
-/
import Derived.Test.YtdgilmobljbmcaaSx10
import Derived.LoopN
namespace Go.Sx
set_option linter.unusedSimpArgs false
set_option linter.unusedVariables false

section
variable {P : Program}

/-- The frame's slots stand for the activation's. -/
structure RepF (ρ : Env) (ι : Loc) (A : Nat → Prop) (nb : Nat) (fr : Fr) (a : Act) : Prop where
  size : a.tmps.size = fr.n
  slot : ∀ t, a.tmps.getD t undef = (fr.get t).den ρ ι
  on : ∀ t, (fr.get t).on (lim nb A)

theorem ofVal_den (v : Value) (ρ : Env) (ι : Loc) : (ofVal v).den ρ ι = v := by
  cases v <;> simp [ofVal, SV.den, SW.den, SC.den, List.map_map, Function.comp_def]

theorem ofVal_on (v : Value) (A : Nat → Prop) : (ofVal v).on A := by
  unfold ofVal
  split
  · intro c hc
    obtain ⟨x, _, rfl⟩ := List.mem_map.1 hc
    trivial
  · intro x hx c hc
    obtain ⟨y, _, rfl⟩ := List.mem_map.1 hx
    simp only [SW.cells, List.mem_singleton] at hc
    subst hc
    trivial
  · intro c hc
    simp only [SW.cells, List.mem_singleton] at hc
    subst hc
    trivial

theorem RepF.eval {ρ : Env} {ι : Loc} {A : Nat → Prop} {nb : Nat} {fr : Fr} {a : Act} (h : RepF ρ ι A nb fr a) (x : Operand) :
    a.eval x = (fr.eval x).den ρ ι ∧ (fr.eval x).on (lim nb A) := by
  cases x with
  | tmp t => exact ⟨h.slot t, h.on t⟩
  | const v => exact ⟨(ofVal_den v ρ ι).symm, ofVal_on v _⟩
  | global g => exact ⟨rfl, bare_c (x := .lit (.pointer (some ⟨g, 0, none⟩))) (fun _ => trivial) _⟩
  | func f => exact ⟨rfl, bare_c (x := .lit (.func (.func f) #[] #[])) (fun _ => trivial) _⟩

theorem Fr.get_put (fr : Fr) (d : Option Nat) (v : SV) (t : Nat) : (fr.put d v).get t = if d = some t ∧ t < fr.n then v else fr.get t := by
  unfold Fr.put
  cases d with
  | none => simp
  | some d =>
    simp only [Option.some.injEq]
    split
    · rename_i hb
      have hb : d < fr.n := by simpa using hb
      unfold Fr.get
      simp only [Tr.get_set]
      by_cases e : t = d
      · subst e; simp [hb]
      · rw [if_neg e, if_neg (by rintro ⟨e1, h2⟩; exact e e1.symm)]
    · rename_i hb
      have hb : ¬ d < fr.n := by simpa using hb
      rw [if_neg (by rintro ⟨e, h2⟩; subst e; exact hb h2)]

theorem Fr.n_put (fr : Fr) (d : Option Nat) (v : SV) : (fr.put d v).n = fr.n := by
  unfold Fr.put
  cases d with
  | none => rfl
  | some d => simp only; split <;> rfl

theorem put_getD (a : Act) (d : Option Nat) (v : Value) (t : Nat) : (a.put d v).tmps.getD t undef = if d = some t ∧ t < a.tmps.size then v else a.tmps.getD t undef := by
  cases d with
  | none => simp [Act.put]
  | some d =>
    simp only [Act.put, Option.some.injEq]
    by_cases e : d = t
    · subst e
      by_cases hs : d < a.tmps.size
      · simp [hs]
      · simp [hs]
    · simp [e, Array.getElem?_setIfInBounds_ne e]

theorem put_size (a : Act) (d : Option Nat) (v : Value) : (a.put d v).tmps.size = a.tmps.size := by
  cases d <;> simp [Act.put]

theorem RepF.put {ρ : Env} {ι : Loc} {A : Nat → Prop} {nb : Nat} {fr : Fr} {a : Act} (h : RepF ρ ι A nb fr a) (d : Option Nat) {v : SV} (hv : v.on (lim nb A)) :
    RepF ρ ι A nb (fr.put d v) (a.put d (v.den ρ ι)) := by
  refine ⟨by rw [put_size, Fr.n_put, h.size], fun t => ?_, fun t => ?_⟩
  · rw [put_getD, Fr.get_put, h.size, h.slot t]
    split <;> rfl
  · rw [Fr.get_put]
    split
    · exact hv
    · exact h.on t

theorem RepF.move {ρ : Env} {ι ι' : Loc} {A : Nat → Prop} {nb nb' : Nat} {fr : Fr} {a : Act} (h : RepF ρ ι A nb fr a) (hal : Loc.alike (fun i => i < nb) ι ι') (hnb : nb ≤ nb') :
    RepF ρ ι' A nb' fr a := by
  refine ⟨h.size, fun t => ?_, fun t => SV.on_mono (fun i hi => ⟨Nat.lt_of_lt_of_le hi.1 hnb, hi.2⟩) (h.on t)⟩
  rw [h.slot t]
  exact (SV.den_alike (A := lim nb A) (fun i hi => hal i hi.1) ρ (h.on t)).symm

theorem den_tuple_nil (ρ : Env) (ι : Loc) : sundef.den ρ ι = undef := rfl

theorem put_defers (a : Act) (d : Option Nat) (v : Value) : (a.put d v).defers = a.defers := by
  cases d <;> rfl

/-- Whether an operation is carried out. -/
theorem wantedS_ok {Φ : Phi} {ops : Array Oper} {l : List Oper} (hops : ops.toList = l) {fr : Fr} {o : Oper} {st st' : St} {b : Bool} (h : wantedS l fr o st = .ok (b, st')) :
    Quiet Φ st st' ∧ ∀ ρ, LogOk Φ ρ st'.log → Facts ρ st → ∀ ι (a : Act), a.tmps.size = fr.n →
      (∀ d, d ∈ o.looksAt ops → a.tmps.getD d undef = (fr.get d).den ρ ι) → Region.wanted o (yielded ops a.tmps) = b := by
  unfold wantedS at h
  split at h
  · rename_i hg
    simp only [R.ok.injEq, Prod.mk.injEq] at h
    obtain ⟨rfl, rfl⟩ := h
    exact ⟨.refl _ _, fun ρ _ _ ι a _ _ => by simp [Region.wanted, hg]⟩
  · rename_i j want hg
    split at h
    · rename_i p hp
      have hp' : ops[j]? = some p := by rw [← Array.getElem?_toList, hops]; exact hp
      split at h
      · rename_i d hd
        have hlook : d ∈ o.looksAt ops := by simp [Oper.looksAt, hg, hp', hd]
        have key : ∀ (a : Act), Region.wanted o (yielded ops a.tmps) = (match a.tmps[d]? with | some (.bool b) => b == want | _ => false) := by
          intro a
          simp only [Region.wanted, hg, yielded, hp', Option.bind_some, hd]
          cases a.tmps[d]? with
          | none => rfl
          | some v => cases v <;> rfl
        split at h
        · rename_i hv
          simp only [R.ok.injEq, Prod.mk.injEq] at h
          obtain ⟨rfl, rfl⟩ := h
          refine ⟨.refl _ _, fun ρ _ _ ι a hs hf => ?_⟩
          have := hf d hlook
          rw [hv] at this
          rw [key a]
          cases hx : a.tmps[d]? with
          | none => rfl
          | some v =>
            have hv' : a.tmps.getD d undef = v := by simp [hx]
            rw [hv'] at this
            rw [this]
            rfl
        · rename_i v hv
          split at h
          · rename_i b' st1 hb
            obtain ⟨q, hq⟩ := getB_ok (Φ := Φ) hb
            simp only [R.ok.injEq, Prod.mk.injEq] at h
            obtain ⟨rfl, rfl⟩ := h
            refine ⟨q, fun ρ hl hf ι a hs hfr => ?_⟩
            have h1 := hq ρ hl hf ι
            have h2 := hfr d hlook
            rw [h1] at h2
            rw [key a]
            cases hx : a.tmps[d]? with
            | none =>
              have hv' : a.tmps.getD d undef = undef := by simp [hx]
              rw [hv'] at h2
              cases h2
            | some v =>
              have hv' : a.tmps.getD d undef = v := by simp [hx]
              rw [hv'] at h2
              rw [h2]
          · exact er_ne h
      · exact stop_ne h
    · exact stop_ne h

/-- What a piece of code is to do: from where it begins to its exit. -/
def Goes (P : Program) (Φ : Phi) (fr : Fr) (st : St) (fr' : Fr) (st' : St) (Run : (Exit → Act → World → Prop) → Act → World → Prop) (e : Exit) : Prop :=
  Le Φ st st' ∧ ∀ ρ, LogOk Φ ρ st'.log → Facts ρ st → ∀ A : Nat → Prop, (∀ id, st.nb ≤ id → id < st'.nb → A id) → ∀ ι w (a : Act), Rep ρ ι A st.heap.get st.nb w →
    RepF ρ ι A st.nb fr a → ∀ Q : Exit → Act → World → Prop,
      (∀ ι' w' a', Post ρ ι A st w ι' st' w' → RepF ρ ι' A st'.nb fr' a' → a'.defers = a.defers → Q e a' w') → Run Q a w

theorem seqRun_ok {Φ : Phi} {C : Ctx} (hT : TysOk P C.tys) {call : CallF} (hc : CallOk P Φ call) {ops : Array Oper} {l : List Oper} (hops : ops.toList = l) :
    ∀ (rest : List Oper) {fr fr' : Fr} {st st' : St}, seqRun C call l rest fr st = .ok (fr', st') → Goes P Φ fr st fr' st' (fun Q => wpList P ops Q rest) .normal
  | [], fr, fr', st, st', h => by
    simp only [seqRun, R.ok.injEq, Prod.mk.injEq] at h
    obtain ⟨rfl, rfl⟩ := h
    exact ⟨.refl _ _, fun ρ _ _ A _ ι w a hr hf Q hQ => hQ ι w a (.refl hr) hf rfl⟩
  | o :: rest, fr, fr', st, st', h => by
    simp only [seqRun] at h
    split at h
    · exact er_ne h
    · rename_i st1 hw
      obtain ⟨q, hq⟩ := wantedS_ok (Φ := Φ) hops hw
      obtain ⟨h1, h2⟩ := seqRun_ok hT hc hops rest h
      refine ⟨q.le.trans h1, fun ρ hl hf A hA ι w a hr hfr Q hQ => ?_⟩
      have hl1 := h1.logOk hl
      have hwant := hq ρ hl1 hf ι a hfr.size (fun d _ => hfr.slot d)
      show wpList P ops Q (o :: rest) a w
      unfold wpList
      rw [hwant]
      simp only [Bool.false_eq_true, if_false]
      have hfr1 : RepF ρ ι A st1.nb (fr.put o.dst sundef) (a.put o.dst undef) := by
        rw [q.nb]
        exact hfr.put o.dst (bare_undef _)
      refine h2 ρ hl (q.facts ρ hl1 hf) A (by rw [q.nb]; exact hA) ι w _ (q.rep hr) hfr1 Q fun ι' w' a' hp hf' hd => ?_
      exact hQ ι' w' a' ((q.post hr).trans q.le hr hp) hf' (hd.trans (put_defers _ _ _))
    · rename_i st1 hw
      obtain ⟨q, hq⟩ := wantedS_ok (Φ := Φ) hops hw
      split at h
      · exact er_ne h
      · rename_i v st2 ho
        obtain ⟨o1, o2⟩ := op1_ok hT hc ho
        obtain ⟨h1, h2⟩ := seqRun_ok hT hc hops rest h
        refine ⟨(q.le.trans o1).trans h1, fun ρ hl hf A hA ι w a hr hfr Q hQ => ?_⟩
        have hl2 := h1.logOk hl
        have hl1 := o1.logOk hl2
        have hwant := hq ρ hl1 hf ι a hfr.size (fun d _ => hfr.slot d)
        have hf1 := q.facts ρ hl1 hf
        have hfr1 : RepF ρ ι A st1.nb fr a := by rw [q.nb]; exact hfr
        show wpList P ops Q (o :: rest) a w
        unfold wpList
        rw [hwant]
        simp only [if_true]
        refine .inl (o2 ρ hl2 hf1 A (fun id x y => hA id (by rw [← q.nb]; exact x) (Nat.lt_of_lt_of_le y h1.nb)) ι w a (q.rep hr) (fun x _ => hfr1.eval x) _ Q fun ι1 w1 hp hv => ?_)
        have hfr2 := (hfr1.move hp.alike o1.nb).put o.dst hv
        refine h2 ρ hl (o1.facts ρ hl2 hf1) A (fun id x y => hA id (Nat.le_trans (by rw [← q.nb]; exact o1.nb) x) y) ι1 w1 _ hp.rep hfr2 Q fun ι' w' a' hp' hf' hd => ?_
        exact hQ ι' w' a' (((q.post hr).trans q.le hr hp).trans (q.le.trans o1) hr hp') hf' (hd.trans (put_defers _ _ _))

end
end Go.Sx
