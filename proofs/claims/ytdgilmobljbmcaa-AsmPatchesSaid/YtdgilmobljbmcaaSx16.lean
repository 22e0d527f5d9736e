/-
  A symbolic executor for the model's code: how its answers are used.
-/
import Derived.Test.YtdgilmobljbmcaaSx15
namespace Go.Sx
set_option linter.unusedSimpArgs false
set_option linter.unusedVariables false

def Env.setI (ρ : Env) (x : Nat) (n : Int) : Env := { ρ with i := fun y => match Nat.beq y x with | true => (fun (_ : Nat) => n) hh60 | false => ρ.i y }
def Env.setB (ρ : Env) (x : Nat) (n : Bool) : Env := { ρ with b := fun y => match Nat.beq y x with | true => (fun (_ : Nat) => n) hh60 | false => ρ.b y }
def Env.setS (ρ : Env) (x : Nat) (n : ByteArray) : Env := { ρ with s := fun y => match Nat.beq y x with | true => (fun (_ : Nat) => n) hh60 | false => ρ.s y }

/-- alike below n -/
def Env.like (n : Nat) (ρ ρ' : Env) : Prop := ∀ x, x < n → ρ'.i x = ρ.i x ∧ ρ'.b x = ρ.b x ∧ ρ'.s x = ρ.s x

theorem Env.like.refl (n : Nat) (ρ : Env) : Env.like n ρ ρ := fun _ _ => ⟨rfl, rfl, rfl⟩
theorem Env.like.trans {n m : Nat} {a b c : Env} (h : Env.like n a b) (k : Env.like m b c) (hn : n ≤ m) : Env.like n a c := fun x hx => by
  obtain ⟨h1, h2, h3⟩ := h x hx
  obtain ⟨k1, k2, k3⟩ := k x (Nat.lt_of_lt_of_le hx hn)
  exact ⟨k1.trans h1, k2.trans h2, k3.trans h3⟩
theorem Env.like.mono {n m : Nat} {a b : Env} (h : Env.like m a b) (hn : n ≤ m) : Env.like n a b := fun x hx => h x (Nat.lt_of_lt_of_le hx hn)

theorem like_setI (ρ : Env) (n : Nat) (v : Int) : Env.like n ρ (ρ.setI n v) := fun x hx => by
  have : Nat.beq x n = false := by
    cases h : Nat.beq x n with
    | false => rfl
    | true => have : x = n := by simpa using h
              omega
  exact ⟨by simp only [Env.setI, this], rfl, rfl⟩
theorem like_setB (ρ : Env) (n : Nat) (v : Bool) : Env.like n ρ (ρ.setB n v) := fun x hx => by
  have : Nat.beq x n = false := by
    cases h : Nat.beq x n with
    | false => rfl
    | true => have : x = n := by simpa using h
              omega
  exact ⟨rfl, by simp only [Env.setB, this], rfl⟩
theorem like_setS (ρ : Env) (n : Nat) (v : ByteArray) : Env.like n ρ (ρ.setS n v) := fun x hx => by
  have : Nat.beq x n = false := by
    cases h : Nat.beq x n with
    | false => rfl
    | true => have : x = n := by simpa using h
              omega
  exact ⟨rfl, rfl, by simp only [Env.setS, this]⟩

/-! ### What an expression looks at -/
def IA.lt (n : Nat) : IA → Bool
  | .lit _ => true
  | .var x => Nat.blt x n
def BA.lt (n : Nat) : BA → Bool
  | .lit _ => true
  | .var x _ => Nat.blt x n
def SA.lt (n : Nat) : SA → Bool
  | .lit _ => true
  | .var x => Nat.blt x n
def IE.lt (n : Nat) : IE → Bool
  | .bin _ _ a b => a.lt n && b.lt n
  | .conv _ a => a.lt n
  | .mn a b => a.lt n && b.lt n
  | .mx a b => a.lt n && b.lt n
  | .len a => a.lt n
def PE.lt (n : Nat) : PE → Bool
  | .ii a b => a.lt n && b.lt n
  | .bb a b => a.lt n && b.lt n
  | .ss a b => a.lt n && b.lt n
def BE.lt (n : Nat) : BE → Bool
  | .cmp _ a b => a.lt n && b.lt n
  | .bq a b => a.lt n && b.lt n
  | .all l => l.all (PE.lt n)
def SE.lt (n : Nat) : SE → Bool
  | .cat a b => a.lt n && b.lt n
def SC.lt (n : Nat) : SC → Bool
  | .ivar _ x => Nat.blt x n
  | .bvar x _ => Nat.blt x n
  | .svar x => Nat.blt x n
  | _ => true

section
variable {n : Nat} {ρ ρ' : Env}

theorem IA.den_like (h : Env.like n ρ ρ') {a : IA} (ha : a.lt n = true) : a.den ρ' = a.den ρ := by
  cases a with
  | lit _ => rfl
  | var x => exact (h x (by simpa [IA.lt] using ha)).1
theorem BA.den_like (h : Env.like n ρ ρ') {a : BA} (ha : a.lt n = true) : a.den ρ' = a.den ρ := by
  cases a with
  | lit _ => rfl
  | var x g => simp only [BA.den, (h x (by simpa [BA.lt] using ha)).2.1]
theorem SA.den_like (h : Env.like n ρ ρ') {a : SA} (ha : a.lt n = true) : a.den ρ' = a.den ρ := by
  cases a with
  | lit _ => rfl
  | var x => exact (h x (by simpa [SA.lt] using ha)).2.2
theorem IE.den_like (h : Env.like n ρ ρ') {e : IE} (he : e.lt n = true) : e.den ρ' = e.den ρ := by
  cases e <;> simp only [IE.lt, Bool.and_eq_true] at he <;> simp only [IE.den]
  · rw [IA.den_like h he.1, IA.den_like h he.2]
  · rw [IA.den_like h he]
  · rw [IA.den_like h he.1, IA.den_like h he.2]
  · rw [IA.den_like h he.1, IA.den_like h he.2]
  · rw [SA.den_like h he]
theorem IE.side_like (h : Env.like n ρ ρ') {e : IE} (he : e.lt n = true) : e.side ρ' = e.side ρ := by
  cases e <;> simp only [IE.lt, Bool.and_eq_true] at he <;> simp only [IE.side]
  rw [IA.den_like h he.2]
theorem PE.den_like (h : Env.like n ρ ρ') {e : PE} (he : e.lt n = true) : e.den ρ' = e.den ρ := by
  cases e <;> simp only [PE.lt, Bool.and_eq_true] at he <;> simp only [PE.den]
  · rw [IA.den_like h he.1, IA.den_like h he.2]
  · rw [BA.den_like h he.1, BA.den_like h he.2]
  · rw [SA.den_like h he.1, SA.den_like h he.2]
theorem BE.den_like (h : Env.like n ρ ρ') {e : BE} (he : e.lt n = true) : e.den ρ' = e.den ρ := by
  cases e <;> simp only [BE.lt, Bool.and_eq_true] at he <;> simp only [BE.den]
  · rw [IA.den_like h he.1, IA.den_like h he.2]
  · rw [BA.den_like h he.1, BA.den_like h he.2]
  · rename_i l
    induction l with
    | nil => rfl
    | cons x l ih =>
      simp only [List.all_cons, Bool.and_eq_true] at he ⊢
      rw [PE.den_like h he.1, ih he.2]
theorem SE.den_like (h : Env.like n ρ ρ') {e : SE} (he : e.lt n = true) : e.den ρ' = e.den ρ := by
  cases e <;> simp only [SE.lt, Bool.and_eq_true] at he <;> simp only [SE.den]
  rw [SA.den_like h he.1, SA.den_like h he.2]
theorem SC.den_like (h : Env.like n ρ ρ') {c : SC} (hc : c.lt n = true) (ι : Loc) : c.den ρ' ι = c.den ρ ι ∧ (c.fits ρ' ↔ c.fits ρ) := by
  cases c <;> simp only [SC.lt] at hc <;> simp only [SC.den, SC.fits]
  · simp
  · rw [(h _ (by simpa using hc)).1]; simp
  · rw [(h _ (by simpa using hc)).2.1]; simp
  · rw [(h _ (by simpa using hc)).2.2]; simp
  · simp
  · simp
  · simp
  · simp
  · simp
end

/-! ### The log, from its beginning -/
def callSet (Φ : Phi) (f : Nat) (vs : List Value) : Nat → Nat → List RK → Env → Env
  | _, _, [], ρ => hi ρ
  | x, j, .ri _ :: ks, ρ => callSet Φ f vs (x + 1) (j + 1) ks (ρ.setI x (Φ.i f vs j))
  | x, j, .rb :: ks, ρ => callSet Φ f vs (x + 1) (j + 1) ks (ρ.setB x (Φ.b f vs j))
  | x, j, .rs :: ks, ρ => callSet Φ f vs (x + 1) (j + 1) ks (ρ.setS x (Φ.s f vs j))
  | x, j, .rl _ :: ks, ρ => callSet Φ f vs (x + 1) (j + 1) ks ρ

def evSet (Φ : Phi) (ρ : Env) : Ev → Env
  | .setI0 x e => ρ.setI x (e.den ρ)
  | .setB0 x e => ρ.setB x (e.den ρ)
  | .setS0 x e => ρ.setS x (e.den ρ)
  | .decB _ _ => ρ
  | .decI _ _ => ρ
  | .call f args x ks => callSet Φ f (args.map (SC.den ρ noloc)) x 0 ks ρ

def fitsAll (ρ : Env) : List SC → Prop
  | [] => True
  | c :: l => c.fits ρ ∧ fitsAll ρ l

/-- What has to be shown at an event. -/
def evSide (ρ : Env) : Ev → Prop
  | .setI0 _ (.bin .quo _ _ b) => b.den ρ ≠ 0
  | .setI0 _ (.bin .rem _ _ b) => b.den ρ ≠ 0
  | .setI0 _ (.bin .shl _ _ b) => 0 ≤ b.den ρ
  | .setI0 _ (.bin .shr _ _ b) => 0 ≤ b.den ρ
  | .decB x b => ρ.b x = b
  | .decI x n => ρ.i x = n
  | .call _ args _ _ => fitsAll ρ args
  | _ => True

theorem fitsAll_mem {ρ : Env} : ∀ {l : List SC}, fitsAll ρ l → ∀ a ∈ l, a.fits ρ
  | [], _, a, h => by cases h
  | c :: l, h, a, ha => by
    rcases List.mem_cons.1 ha with rfl | ha
    · exact h.1
    · exact fitsAll_mem h.2 a ha

/-- All of a log, the oldest first, then Q. -/
def chain (Φ : Phi) : List Ev → Env → (Env → Prop) → Prop
  | [], ρ, Q => Q ρ
  | ev :: l, ρ, Q => evSide ρ ev ∧ chain Φ l (evSet Φ ρ ev) Q

/-- Each variable is new where it is laid; n: the next one. -/
def fresh : List Ev → Nat → Bool
  | [], _ => true
  | .setI0 x e :: l, n => Nat.beq x n && e.lt n && fresh l (n + 1)
  | .setB0 x e :: l, n => Nat.beq x n && e.lt n && fresh l (n + 1)
  | .setS0 x e :: l, n => Nat.beq x n && e.lt n && fresh l (n + 1)
  | .decB x _ :: l, n => Nat.blt x n && fresh l n
  | .decI x _ :: l, n => Nat.blt x n && fresh l n
  | .call _ args x ks :: l, n => Nat.beq x n && args.all (SC.lt n) && fresh l (n + ks.length)

theorem callSet_like (Φ : Phi) (f : Nat) (vs : List Value) : ∀ (ks : List RK) (x j : Nat) (ρ : Env), Env.like x ρ (callSet Φ f vs x j ks ρ)
  | [], x, j, ρ => .refl _ _
  | .ri k :: ks, x, j, ρ => (like_setI ρ x _).trans (callSet_like Φ f vs ks (x + 1) (j + 1) _) (Nat.le_succ x)
  | .rb :: ks, x, j, ρ => (like_setB ρ x _).trans (callSet_like Φ f vs ks (x + 1) (j + 1) _) (Nat.le_succ x)
  | .rs :: ks, x, j, ρ => (like_setS ρ x _).trans (callSet_like Φ f vs ks (x + 1) (j + 1) _) (Nat.le_succ x)
  | .rl k :: ks, x, j, ρ => (callSet_like Φ f vs ks (x + 1) (j + 1) ρ).mono (Nat.le_succ x)

theorem callSet_den (Φ : Phi) (f : Nat) (vs : List Value) : ∀ (ks : List RK) (x j : Nat) (ρ ρ' : Env), Env.like (x + ks.length) (callSet Φ f vs x j ks ρ) ρ' → callDen Φ ρ' f vs x j ks
  | [], x, j, ρ, ρ', h => trivial
  | .ri k :: ks, x, j, ρ, ρ', h => by
    have h0 : ks.length + 1 = (RK.ri k :: ks).length := rfl
    refine ⟨?_, callSet_den Φ f vs ks (x + 1) (j + 1) _ ρ' (h.mono (by simp; omega))⟩
    rw [(h x (by simp)).1]
    simp only [callSet]
    rw [(callSet_like Φ f vs ks (x + 1) (j + 1) _ x (Nat.lt_succ_self x)).1]
    simp [Env.setI]
  | .rb :: ks, x, j, ρ, ρ', h => by
    refine ⟨?_, callSet_den Φ f vs ks (x + 1) (j + 1) _ ρ' (h.mono (by simp; omega))⟩
    rw [(h x (by simp)).2.1]
    simp only [callSet]
    rw [(callSet_like Φ f vs ks (x + 1) (j + 1) _ x (Nat.lt_succ_self x)).2.1]
    simp [Env.setB]
  | .rs :: ks, x, j, ρ, ρ', h => by
    refine ⟨?_, callSet_den Φ f vs ks (x + 1) (j + 1) _ ρ' (h.mono (by simp; omega))⟩
    rw [(h x (by simp)).2.2]
    simp only [callSet]
    rw [(callSet_like Φ f vs ks (x + 1) (j + 1) _ x (Nat.lt_succ_self x)).2.2]
    simp [Env.setS]
  | .rl k :: ks, x, j, ρ, ρ', h => callSet_den Φ f vs ks (x + 1) (j + 1) ρ ρ' (h.mono (by simp; omega))

theorem chain_ok (Φ : Phi) (Q : Env → Prop) : ∀ (l : List Ev) (n : Nat) (ρ : Env), fresh l n = true → chain Φ l ρ Q → ∃ ρ', Env.like n ρ ρ' ∧ (∀ ev ∈ l, ev.ok Φ ρ') ∧ Q ρ'
  | [], n, ρ, _, h => ⟨ρ, .refl _ _, (fun ev he => by cases he), h⟩
  | ev :: l, n, ρ, hf, h => by
    obtain ⟨hs, hc⟩ := h
    cases ev with
    | setI0 x e =>
      simp only [fresh, Bool.and_eq_true] at hf
      have hx : x = n := by simpa using hf.1.1
      subst hx
      obtain ⟨ρ', h1, h2, h3⟩ := chain_ok Φ Q l (x + 1) _ hf.2 hc
      have hl := (like_setI ρ x (e.den ρ)).trans h1 (Nat.le_succ x)
      refine ⟨ρ', hl, fun ev he => ?_, h3⟩
      rcases List.mem_cons.1 he with rfl | he
      · refine ⟨?_, ?_⟩
        · rw [IE.den_like hl hf.1.2, (h1 x (Nat.lt_succ_self x)).1]
          simp [evSet, Env.setI]
        · rw [IE.side_like hl hf.1.2]
          cases e with
          | bin op k a b => cases op <;> simp only [evSide] at hs <;> simp [IE.side, hs]
          | _ => trivial
      · exact h2 ev he
    | setB0 x e =>
      simp only [fresh, Bool.and_eq_true] at hf
      have hx : x = n := by simpa using hf.1.1
      subst hx
      obtain ⟨ρ', h1, h2, h3⟩ := chain_ok Φ Q l (x + 1) _ hf.2 hc
      have hl := (like_setB ρ x (e.den ρ)).trans h1 (Nat.le_succ x)
      refine ⟨ρ', hl, fun ev he => ?_, h3⟩
      rcases List.mem_cons.1 he with rfl | he
      · show ρ'.b x = _
        rw [BE.den_like hl hf.1.2, (h1 x (Nat.lt_succ_self x)).2.1]
        simp [evSet, Env.setB]
      · exact h2 ev he
    | setS0 x e =>
      simp only [fresh, Bool.and_eq_true] at hf
      have hx : x = n := by simpa using hf.1.1
      subst hx
      obtain ⟨ρ', h1, h2, h3⟩ := chain_ok Φ Q l (x + 1) _ hf.2 hc
      have hl := (like_setS ρ x (e.den ρ)).trans h1 (Nat.le_succ x)
      refine ⟨ρ', hl, fun ev he => ?_, h3⟩
      rcases List.mem_cons.1 he with rfl | he
      · show ρ'.s x = _
        rw [SE.den_like hl hf.1.2, (h1 x (Nat.lt_succ_self x)).2.2]
        simp [evSet, Env.setS]
      · exact h2 ev he
    | decB x b =>
      simp only [fresh, Bool.and_eq_true] at hf
      have hx : x < n := by simpa using hf.1
      obtain ⟨ρ', h1, h2, h3⟩ := chain_ok Φ Q l n _ hf.2 hc
      refine ⟨ρ', h1, fun ev he => ?_, h3⟩
      rcases List.mem_cons.1 he with rfl | he
      · show ρ'.b x = b
        rw [(h1 x hx).2.1]
        exact hs
      · exact h2 ev he
    | decI x b =>
      simp only [fresh, Bool.and_eq_true] at hf
      have hx : x < n := by simpa using hf.1
      obtain ⟨ρ', h1, h2, h3⟩ := chain_ok Φ Q l n _ hf.2 hc
      refine ⟨ρ', h1, fun ev he => ?_, h3⟩
      rcases List.mem_cons.1 he with rfl | he
      · show ρ'.i x = b
        rw [(h1 x hx).1]
        exact hs
      · exact h2 ev he
    | call f args x ks =>
      simp only [fresh, Bool.and_eq_true] at hf
      have hx : x = n := by simpa using hf.1.1
      subst hx
      obtain ⟨ρ', h1, h2, h3⟩ := chain_ok Φ Q l (x + ks.length) _ hf.2 hc
      have hl := (callSet_like Φ f (args.map (SC.den ρ noloc)) ks x 0 ρ).trans h1 (Nat.le_add_right x ks.length)
      have hargs : args.map (SC.den ρ' noloc) = args.map (SC.den ρ noloc) := List.map_congr_left fun c hc => (SC.den_like hl (List.all_eq_true.1 hf.1.2 c hc) noloc).1
      refine ⟨ρ', hl, fun ev he => ?_, h3⟩
      rcases List.mem_cons.1 he with rfl | he
      · refine ⟨fun c hc => (SC.den_like hl (List.all_eq_true.1 hf.1.2 c hc) noloc).2.2 (fitsAll_mem hs c hc), ?_⟩
        rw [hargs]
        exact callSet_den Φ f _ ks x 0 ρ ρ' h1
      · exact h2 ev he

/-! ### The answer -/
def bareSC : SC → Bool
  | .ptr _ _ => false
  | .slc _ _ _ _ => false
  | .slu _ _ => false
  | .clo _ _ => false
  | .mp _ => false
  | _ => true
def bareSW (x : SW) : Bool := x.cells.all bareSC
def bareSV : SV → Bool
  | .w x => bareSW x
  | .tup xs => xs.all bareSW

theorem bareSC_on {c : SC} (h : bareSC c = true) (A : Nat → Prop) : c.on A := by
  cases c <;> simp [bareSC] at h <;> trivial
theorem bareSW_on {x : SW} (h : bareSW x = true) (A : Nat → Prop) : x.on A := fun c hc => bareSC_on (List.all_eq_true.1 h c hc) A
theorem bareSV_on {x : SV} (h : bareSV x = true) (A : Nat → Prop) : x.on A := by
  cases x with
  | w x => exact bareSW_on h A
  | tup xs => exact fun x hx => bareSW_on (List.all_eq_true.1 h x hx) A

theorem bare_den {x : SV} (h : bareSV x = true) (ρ : Env) (ι ι' : Loc) : x.den ρ ι' = x.den ρ ι :=
  SV.den_alike (A := fun _ => False) (fun _ h => h.elim) ρ (bareSV_on h _)
theorem bareW_den {x : SW} (h : bareSW x = true) (ρ : Env) (ι ι' : Loc) : x.den ρ ι' = x.den ρ ι :=
  SW.den_alike (A := fun _ => False) (fun _ h => h.elim) ρ (bareSW_on h _)

/-- the run's answer and its log -/
def ans (r : R (SV × St)) : Option (SV × List Ev) :=
  match r with
  | .ok (v, st) => some (v, st.log)
  | .er _ _ _ => none

/-- What a program's tables must be. -/
structure CtxOk (P : Program) (Φ : Phi) (C : Ctx) : Prop where
  tys : TysOk P C.tys
  fns : FnsOk P C.fns
  sums : SumsOk P Φ C.sums
  mix : P.follows .mixedOrders = true

/-- **One way through a function.** -/
theorem way {P : Program} {Φ : Phi} {C : Ctx} (hC : CtxOk P Φ C) {lf d f : Nat} {args : List SW} {ds : List D} {nx : Nat} {v : SV} {log : List Ev}
    (h : ans (fnRun C lf d f args (st0 ds nx)) = some (v, log)) (hb : (bareSV v && args.all bareSW && fresh log.reverse nx) = true)
    {ρ : Env} {Q : Value → Prop} (hc : chain Φ log.reverse ρ fun ρ' => Q (v.den ρ' noloc)) (hlt : (args.flatMap SW.cells).all (SC.lt nx) = true) (w : World) :
    Calls P f (args.map (SW.den ρ noloc)).toArray w fun e w' => ∃ x, e = .returned x ∧ Q x ∧ RowKit.Below w.heap.size w w' := by
  simp only [Bool.and_eq_true] at hb
  obtain ⟨⟨hb1, hb2⟩, hb3⟩ := hb
  cases hr : fnRun C lf d f args (st0 ds nx) with
  | er c l p => rw [hr] at h; cases h
  | ok x =>
    obtain ⟨v', st'⟩ := x
    rw [hr] at h
    simp only [ans, Option.some.injEq, Prod.mk.injEq] at h
    obtain ⟨rfl, rfl⟩ := h
    obtain ⟨ρ', h1, h2, h3⟩ := chain_ok Φ _ st'.log.reverse nx ρ hb3 hc
    obtain ⟨_, _, h4⟩ := fnRun_ok hC.tys hC.fns hC.sums hC.mix lf d f args _ _ _ hr
    have hargs : args.map (SW.den ρ' noloc) = args.map (SW.den ρ noloc) := by
      refine List.map_congr_left fun x hx => ?_
      have hcells : ∀ c ∈ x.cells, c.den ρ' noloc = c.den ρ noloc := fun c hc =>
        (SC.den_like h1 (List.all_eq_true.1 hlt c (List.mem_flatMap.2 ⟨x, hx, hc⟩)) noloc).1
      cases x with
      | c y => exact hcells y (by simp [SW.cells])
      | agg ys =>
        simp only [SW.den]
        congr 2
        exact List.map_congr_left fun y hy => hcells y hy
    rw [← hargs]
    refine (h4 ρ' (fun e he => h2 e (by simpa using he)) ⟨fun x b hx => (by rw [show (st0 ds nx).bf = Tr.e from rfl, Tr.get_e] at hx; cases hx), fun x b hx => (by rw [show (st0 ds nx).jf = Tr.e from rfl, Tr.get_e] at hx; cases hx)⟩ (fun _ => True) (fun _ _ _ => trivial) noloc w
      ⟨fun id k hk => (by rw [show (st0 ds nx).heap = Tr.e from rfl, Tr.get_e] at hk; cases hk), fun id k hk => (by rw [show (st0 ds nx).heap = Tr.e from rfl, Tr.get_e] at hk; cases hk), fun id k hk => (by rw [show (st0 ds nx).heap = Tr.e from rfl, Tr.get_e] at hk; cases hk), fun id id' k k' hk => (by rw [show (st0 ds nx).heap = Tr.e from rfl, Tr.get_e] at hk; cases hk)⟩
      (fun x hx => bareSW_on (List.all_eq_true.1 hb2 x hx) _)).mono fun e w' ⟨ι', he, hp, _⟩ => ?_
    refine ⟨_, he, ?_, hp.os, hp.tape, hp.output, hp.size, fun k hk => hp.same k hk fun id k' hk' => (by rw [show (st0 ds nx).heap = Tr.e from rfl, Tr.get_e] at hk'; cases hk')⟩
    rw [bare_den hb1 ρ' noloc ι']
    exact h3
def env0 : Env := ⟨fun _ => 0, fun _ => false, fun _ => .empty⟩

/-- One way through a function, as it is printed. -/
theorem wayp {P : Program} {Φ : Phi} {C : Ctx} (hC : CtxOk P Φ C) {lf d f : Nat} {args : List SW} {ds : List D} {nx : Nat} {v : SV} {log : List Ev} {as : Array Value} {res : Value} {Pr : Prop} {ρ : Env}
    (h : ans (fnRun C lf d f args (st0 ds nx)) = some (v, log.reverse)) (hb : (bareSV v && args.all bareSW && fresh log nx && (args.flatMap SW.cells).all (SC.lt nx)) = true)
    (he : chain Φ log ρ (fun ρ' => v.den ρ' noloc = res) = Pr) (ha : (args.map (SW.den ρ noloc)).toArray = as) (hp : Pr) (w : World) :
    Calls P f as w fun e w' => e = .returned res ∧ RowKit.Below w.heap.size w w' := by
  simp only [Bool.and_eq_true] at hb
  rw [← ha]
  refine (way hC h (Q := fun x => x = res) (ρ := ρ) ?_ ?_ hb.2 w).mono fun e w' ⟨x, h1, h2, h3⟩ => ⟨by rw [h1, h2], h3⟩
  · rw [List.reverse_reverse]
    simp only [Bool.and_eq_true]
    exact hb.1
  · rw [List.reverse_reverse, he]
    exact hp
#print axioms wayp
end Go.Sx
