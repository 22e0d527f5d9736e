/-
  A symbolic executor for the model's code: operations without memory stand for what the model does.
-/
import Derived.Test.YtdgilmobljbmcaaSx4
import Derived.Laws.CopyRow
import Derived.Laws.Cells
namespace Go.Sx
set_option linter.unusedSimpArgs false
set_option linter.unusedVariables false

/-- What a step keeps that looks at no memory. -/
structure Quiet (Φ : Phi) (st st' : St) : Prop where
  log : ∃ l, st'.log = l ++ st.log
  nb : st'.nb = st.nb
  heap : st'.heap = st.heap
  wr : st'.wr = st.wr
  facts : ∀ ρ, LogOk Φ ρ st'.log → Facts ρ st → Facts ρ st'

theorem Quiet.refl (Φ : Phi) (st : St) : Quiet Φ st st := ⟨⟨[], rfl⟩, rfl, rfl, rfl, fun _ _ h => h⟩
theorem Quiet.logOk {Φ : Phi} {st st' : St} (h : Quiet Φ st st') {ρ : Env} (hl : LogOk Φ ρ st'.log) : LogOk Φ ρ st.log := by
  obtain ⟨l, hl'⟩ := h.log
  rw [hl'] at hl
  exact hl.tail
theorem Quiet.trans {Φ : Phi} {a b c : St} (h : Quiet Φ a b) (k : Quiet Φ b c) : Quiet Φ a c := by
  obtain ⟨l1, e1⟩ := h.log
  obtain ⟨l2, e2⟩ := k.log
  exact ⟨⟨l2 ++ l1, by rw [e2, e1, List.append_assoc]⟩, k.nb.trans h.nb, k.heap.trans h.heap, k.wr.trans h.wr, fun ρ hρ hf => k.facts ρ hρ (h.facts ρ (k.logOk hρ) hf)⟩
theorem Quiet.le {Φ : Phi} {st st' : St} (h : Quiet Φ st st') : Le Φ st st' :=
  ⟨h.log, Nat.le_of_eq h.nb.symm, ⟨[], by simp [h.wr], fun id _ _ => by rw [h.heap], fun _ m => by cases m⟩, fun id _ hn => by rw [h.heap]; exact hn, h.facts⟩
theorem Quiet.rep {Φ : Phi} {st st' : St} (h : Quiet Φ st st') {ρ : Env} {ι : Loc} {A : Nat → Prop} {w : World} (hr : Rep ρ ι A st.heap.get st.nb w) :
    Rep ρ ι A st'.heap.get st'.nb w := by rw [h.heap, h.nb]; exact hr
theorem Quiet.post {Φ : Phi} {st st' : St} (h : Quiet Φ st st') {ρ : Env} {ι : Loc} {A : Nat → Prop} {w : World} (hr : Rep ρ ι A st.heap.get st.nb w) :
    Post ρ ι A st w ι st' w :=
  ⟨.refl _ _, h.rep hr, rfl, rfl, rfl, Nat.le_refl _, fun _ _ _ => rfl, fun id h1 h2 => by rw [h.nb] at h2; omega⟩

theorem quiet_push {Φ : Phi} {st : St} {e : Ev} {n : Nat} : Quiet Φ st { st with nx := n, log := e :: st.log } :=
  ⟨⟨[e], rfl⟩, rfl, rfl, rfl, fun _ _ h => h⟩

/-! ### Atoms -/
theorem ia_den {ρ : Env} {ι : Loc} {st : St} (hf : Facts ρ st) {x : SC} {k : IntKind} {p : IA} (h : x.ia st = some (k, p)) : x.den ρ ι = .int k (p.den ρ) := by
  cases x with
  | lit v => cases v <;> simp [SC.ia] at h; obtain ⟨rfl, rfl⟩ := h; rfl
  | ivar k' x =>
    simp only [SC.ia, Option.some.injEq, Prod.mk.injEq] at h
    obtain ⟨rfl, h⟩ := h
    cases hg : st.jf.get x with
    | none => rw [hg] at h; subst h; rfl
    | some n => rw [hg] at h; subst h; simp [SC.den, IA.den, hf.2 x n hg]
  | _ => simp [SC.ia] at h

theorem ba_den {ρ : Env} {ι : Loc} {st : St} (hf : Facts ρ st) {x : SC} {p : BA} (h : x.ba st = some p) : x.den ρ ι = .bool (p.den ρ) := by
  cases x with
  | lit v => cases v <;> simp [SC.ba] at h; subst h; rfl
  | bvar x g =>
    simp only [SC.ba, Option.some.injEq] at h
    cases hg : st.bf.get x with
    | none => rw [hg] at h; subst h; rfl
    | some b => rw [hg] at h; subst h; simp [SC.den, BA.den, hf.1 x b hg]
  | _ => simp [SC.ba] at h

theorem sa_den {ρ : Env} {ι : Loc} {x : SC} {p : SA} (h : x.sa = some p) : x.den ρ ι = .string (p.den ρ) := by
  cases x with
  | lit v => cases v <;> simp [SC.sa] at h; subst h; rfl
  | svar x => simp only [SC.sa, Option.some.injEq] at h; subst h; rfl
  | _ => simp [SC.sa] at h

/-- A value without pointers. -/
def SV.bare (v : SV) : Prop := ∀ A, v.on A

theorem bare_c {x : SC} (h : ∀ A, x.on A) : SV.bare (.w (.c x)) := fun A c hc => by simp [SW.cells] at hc; subst hc; exact h A
theorem bare_litI (k : IntKind) (n : Int) : (litI k n).bare := bare_c fun _ => trivial
theorem bare_litB (b : Bool) : (litB b).bare := bare_c fun _ => trivial
theorem bare_undef : sundef.bare := fun A x hx => by cases hx

/-- What a value-making step gives: the state, and the value wherever the log holds. -/
structure Gives (Φ : Phi) (st : St) (v : SV) (st' : St) (spec : Env → Loc → Value → Prop) : Prop where
  quiet : Quiet Φ st st'
  bare : v.bare
  den : ∀ ρ, LogOk Φ ρ st'.log → Facts ρ st → ∀ ι, spec ρ ι (v.den ρ ι)

theorem Gives.lit {Φ : Phi} {st : St} {v : SV} {spec : Env → Loc → Value → Prop} (hb : v.bare) (h : ∀ ρ, Facts ρ st → ∀ ι, spec ρ ι (v.den ρ ι)) : Gives Φ st v st spec :=
  ⟨.refl _ _, hb, fun ρ _ hf ι => h ρ hf ι⟩

theorem mkI_gives {Φ : Phi} {k : IntKind} {e : IE} {st st' : St} {v : SV} (h : mkI k e st = .ok (v, st')) : Gives Φ st v st' fun ρ ι x => x = .int k (e.den ρ) ∧ e.side ρ := by
  simp only [mkI, R.ok.injEq, Prod.mk.injEq] at h
  obtain ⟨rfl, rfl⟩ := h
  refine ⟨quiet_push, bare_c fun _ => trivial, fun ρ hl _ ι => ?_⟩
  obtain ⟨h1, h2⟩ := hl (.setI0 st.nx e) (by simp)
  exact ⟨by simp [SV.den, SW.den, SC.den, h1], h2⟩

theorem mkB_gives {Φ : Phi} {e : BE} {neg : Bool} {st st' : St} {v : SV} (h : mkB e neg st = .ok (v, st')) : Gives Φ st v st' fun ρ ι x => x = .bool (xor (e.den ρ) neg) := by
  simp only [mkB, R.ok.injEq, Prod.mk.injEq] at h
  obtain ⟨rfl, rfl⟩ := h
  refine ⟨quiet_push, bare_c fun _ => trivial, fun ρ hl _ ι => ?_⟩
  have h1 := hl (.setB0 st.nx e) (by simp)
  simp only [Ev.ok] at h1
  simp [SV.den, SW.den, SC.den, h1]

theorem mkS_gives {Φ : Phi} {e : SE} {st st' : St} {v : SV} (h : mkS e st = .ok (v, st')) : Gives Φ st v st' fun ρ ι x => x = .string (e.den ρ) := by
  simp only [mkS, R.ok.injEq, Prod.mk.injEq] at h
  obtain ⟨rfl, rfl⟩ := h
  refine ⟨quiet_push, bare_c fun _ => trivial, fun ρ hl _ ι => ?_⟩
  have h1 := hl (.setS0 st.nx e) (by simp)
  simp only [Ev.ok] at h1
  simp [SV.den, SW.den, SC.den, h1]

theorem getB_ok {Φ : Phi} {v : SV} {st st' : St} {b : Bool} (h : getB v st = .ok (b, st')) :
    Quiet Φ st st' ∧ ∀ ρ, LogOk Φ ρ st'.log → Facts ρ st → ∀ ι, v.den ρ ι = .bool b := by
  unfold getB at h
  split at h
  · simp only [R.ok.injEq, Prod.mk.injEq] at h
    obtain ⟨rfl, rfl⟩ := h
    exact ⟨.refl _ _, fun ρ _ _ ι => rfl⟩
  · rename_i x neg
    split at h
    · rename_i c hc
      simp only [R.ok.injEq, Prod.mk.injEq] at h
      obtain ⟨rfl, rfl⟩ := h
      exact ⟨.refl _ _, fun ρ _ hf ι => by simp [SV.den, SW.den, SC.den, hf.1 x c hc]⟩
    · split at h
      · rename_i c ds hd
        simp only [R.ok.injEq, Prod.mk.injEq] at h
        obtain ⟨rfl, rfl⟩ := h
        refine ⟨⟨⟨[.decB x c], rfl⟩, rfl, rfl, rfl, fun ρ hl hf => ⟨fun y b' hy => ?_, hf.2⟩⟩, fun ρ hl _ ι => ?_⟩
        · rw [Tr.get_set] at hy
          split at hy
          · rename_i he
            have h1 := hl (.decB x c) (by simp)
            simp only [Ev.ok] at h1
            simp only [Option.some.injEq] at hy
            rw [he, h1, hy]
          · exact hf.1 y b' hy
        · have h1 := hl (.decB x c) (by simp)
          simp only [Ev.ok] at h1
          simp [SV.den, SW.den, SC.den, h1]
      · simp [stop] at h
  · simp [stop] at h

theorem getN_ok {Φ : Phi} {v : SV} {st st' : St} {n : Int} (h : getN v st = .ok (n, st')) :
    Quiet Φ st st' ∧ v.bare ∧ ∃ k, ∀ ρ, LogOk Φ ρ st'.log → Facts ρ st → ∀ ι, v.den ρ ι = .int k n := by
  unfold getN at h
  split at h
  · rename_i k m
    simp only [R.ok.injEq, Prod.mk.injEq] at h
    obtain ⟨rfl, rfl⟩ := h
    exact ⟨.refl _ _, bare_c fun _ => trivial, k, fun ρ _ _ ι => rfl⟩
  · rename_i k x
    split at h
    · rename_i c hc
      simp only [R.ok.injEq, Prod.mk.injEq] at h
      obtain ⟨rfl, rfl⟩ := h
      exact ⟨.refl _ _, bare_c fun _ => trivial, k, fun ρ _ hf ι => by simp [SV.den, SW.den, SC.den, hf.2 x c hc]⟩
    · split at h
      · rename_i c ds hd
        simp only [R.ok.injEq, Prod.mk.injEq] at h
        obtain ⟨rfl, rfl⟩ := h
        refine ⟨⟨⟨[.decI x c], rfl⟩, rfl, rfl, rfl, fun ρ hl hf => ⟨hf.1, fun y b' hy => ?_⟩⟩, bare_c fun _ => trivial, k, fun ρ hl _ ι => ?_⟩
        · simp only [Tr.get_set] at hy
          split at hy
          · rename_i he
            have h1 := hl (.decI x c) (by simp)
            simp only [Ev.ok] at h1
            simp only [Option.some.injEq] at hy
            rw [he, h1, hy]
          · exact hf.2 y b' hy
        · have h1 := hl (.decI x c) (by simp)
          simp only [Ev.ok] at h1
          simp [SV.den, SW.den, SC.den, h1]
      · simp [stop] at h
  · simp [stop] at h

/-! ### Arithmetic -/
/-- the model's own text of a binary operation -/
def binM (op : BinOp) (t : TypeId) (x y : Operand) (a b : Value) : Sem Value := do eqGuard op t x y a b; binOp op t a b

theorem kindEq_true {a b : IntKind} : kindEq a b = true ↔ a = b := by simp [kindEq]

theorem eqGuard_plain {P : Program} {op : BinOp} {t : TypeId} {x y : Operand} {a b : Value} {w : World} (h : ∀ cs ds, ¬ (a = .agg cs ∧ b = .agg ds)) (h2 : ¬ (a = .nilIface ∧ b = .nilIface)) :
    (eqGuard op t x y a b).run P w = .ok () w := by
  unfold eqGuard
  split
  · simp
    split
    · exact absurd ⟨rfl, rfl⟩ h2
    · exact absurd ⟨rfl, rfl⟩ (h _ _)
    · rfl
  · simp
    split
    · exact absurd ⟨rfl, rfl⟩ h2
    · exact absurd ⟨rfl, rfl⟩ (h _ _)
    · rfl
  · rfl

theorem shift_run {P : Program} {op : BinOp} {t : TypeId} {k k' : IntKind} {a b : Int} {w : World} (ho : shOp op = true) (hb : 0 ≤ b) :
    (binOp op t (.int k a) (.int k' b)).run P w = .ok (.int k (ibin op k a b)) w := by
  have : ¬ b < 0 := by omega
  cases op <;> simp [shOp] at ho <;> simp [binOp, Op.shift, this, ibin]

theorem arith_run {P : Program} {op : BinOp} {t : TypeId} {k : IntKind} {a b : Int} {w : World} (ho : arithOp op = true) (hb : op = .quo ∨ op = .rem → b ≠ 0) :
    (binOp op t (.int k a) (.int k b)).run P w = .ok (.int k (ibin op k a b)) w := by
  cases op <;> simp [arithOp] at ho <;> simp at hb <;> simp [binOp, Op.intArith, Op.intDiv, Op.intBits, ibin, hb]

theorem cmp_run {P : Program} {op : BinOp} {t : TypeId} {k : IntKind} {a b : Int} {w : World} (ho : cmpOp op = true) :
    (binOp op t (.int k a) (.int k b)).run P w = .ok (.bool (icmp op a b)) w := by
  cases op <;> simp [cmpOp] at ho <;> simp [binOp, Op.intCmp, icmp]

theorem intBin_gives {Φ : Phi} {P : Program} {op : BinOp} {t : TypeId} {k k' : IntKind} {p q : IA} {st st' : St} {v : SV} (h : intBin op k k' p q st = .ok (v, st')) :
    Gives Φ st v st' fun ρ ι x => ∀ w, (binOp op t (.int k (p.den ρ)) (.int k' (q.den ρ))).run P w = .ok x w := by
  unfold intBin at h
  split at h
  · rename_i hs
    split at h
    · rename_i m n
      split at h
      · rename_i hn
        simp only [R.ok.injEq, Prod.mk.injEq] at h
        obtain ⟨rfl, rfl⟩ := h
        exact .lit (bare_litI _ _) fun ρ _ ι w => shift_run hs (of_decide_eq_true hn : 0 ≤ n)
      · simp [stop] at h
    · have g := mkI_gives (Φ := Φ) h
      refine ⟨g.quiet, g.bare, fun ρ hl hf ι w => ?_⟩
      obtain ⟨h1, h2⟩ := g.den ρ hl hf ι
      rw [h1]
      refine shift_run hs (h2.2 ?_)
      cases op <;> simp [shOp] at hs <;> simp
  · split at h
    · simp [stop] at h
    · rename_i hk
      simp only [Bool.not_eq_true', Bool.not_eq_false] at hk
      rw [kindEq_true] at hk
      subst hk
      split at h
      · rename_i hc
        split at h
        · simp only [R.ok.injEq, Prod.mk.injEq] at h
          obtain ⟨rfl, rfl⟩ := h
          exact .lit (bare_litB _) fun ρ _ ι w => cmp_run hc
        · have g := mkB_gives (Φ := Φ) h
          refine ⟨g.quiet, g.bare, fun ρ hl hf ι w => ?_⟩
          rw [g.den ρ hl hf ι]
          simpa [BE.den] using cmp_run hc
      · split at h
        · rename_i ha
          split at h
          · rename_i m n
            split at h
            · simp [stop] at h
            · rename_i hd
              simp only [R.ok.injEq, Prod.mk.injEq] at h
              obtain ⟨rfl, rfl⟩ := h
              refine .lit (bare_litI _ _) fun ρ _ ι w => arith_run ha (fun ho => ?_)
              simp only [Bool.and_eq_true, decide_eq_true_eq, not_and] at hd
              apply hd
              rcases ho with rfl | rfl <;> rfl
          · have g := mkI_gives (Φ := Φ) h
            refine ⟨g.quiet, g.bare, fun ρ hl hf ι w => ?_⟩
            obtain ⟨h1, h2⟩ := g.den ρ hl hf ι
            rw [h1]
            exact arith_run ha h2.1
        · simp [stop] at h

end Go.Sx
