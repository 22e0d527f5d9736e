/-
  A symbolic executor for the model's code: all ways of a function at once, as a tree.
-/
import Derived.Test.YtdgilmobljbmcaaSx17
namespace Go.Sx
set_option linter.unusedSimpArgs false
set_option linter.unusedVariables false

/-! ### Logs, one behind another -/
def evRun (Φ : Phi) : List Ev → Env → Env
  | [], ρ => hi ρ
  | ev :: l, ρ => evRun Φ l (evSet Φ ρ ev)

def sides (Φ : Phi) : List Ev → Env → Prop
  | [], _ => True
  | ev :: l, ρ => evSide ρ ev ∧ sides Φ l (evSet Φ ρ ev)

theorem chain_iff (Φ : Phi) (Q : Env → Prop) : ∀ (l : List Ev) (ρ : Env), chain Φ l ρ Q ↔ sides Φ l ρ ∧ Q (evRun Φ l ρ)
  | [], ρ => by simp [chain, sides, evRun]
  | ev :: l, ρ => by simp only [chain, sides, evRun, chain_iff Φ Q l, and_assoc]

theorem sides_append (Φ : Phi) : ∀ (l m : List Ev) (ρ : Env), sides Φ (l ++ m) ρ ↔ sides Φ l ρ ∧ sides Φ m (evRun Φ l ρ)
  | [], m, ρ => by simp [sides, evRun]
  | ev :: l, m, ρ => by simp only [List.cons_append, sides, evRun, sides_append Φ l m, and_assoc]

theorem evRun_append (Φ : Phi) : ∀ (l m : List Ev) (ρ : Env), evRun Φ (l ++ m) ρ = evRun Φ m (evRun Φ l ρ)
  | [], m, ρ => rfl
  | ev :: l, m, ρ => by simp only [List.cons_append, evRun, evRun_append Φ l m]

def evAdv : Ev → Nat → Nat
  | .setI0 _ _, n => n + 1
  | .setB0 _ _, n => n + 1
  | .setS0 _ _, n => n + 1
  | .decB _ _, n => n
  | .decI _ _, n => n
  | .call _ _ _ ks, n => n + ks.length
def evsAdv : List Ev → Nat → Nat
  | [], n => n
  | e :: l, n => evsAdv l (evAdv e n)
theorem fresh_append : ∀ (l m : List Ev) (n : Nat), fresh (l ++ m) n = (fresh l n && fresh m (evsAdv l n))
  | [], m, n => by simp [fresh, evsAdv]
  | .setI0 x e :: l, m, n => by simp only [List.cons_append, fresh, evsAdv, evAdv, fresh_append l m, Bool.and_assoc]
  | .setB0 x e :: l, m, n => by simp only [List.cons_append, fresh, evsAdv, evAdv, fresh_append l m, Bool.and_assoc]
  | .setS0 x e :: l, m, n => by simp only [List.cons_append, fresh, evsAdv, evAdv, fresh_append l m, Bool.and_assoc]
  | .decB x e :: l, m, n => by simp only [List.cons_append, fresh, evsAdv, evAdv, fresh_append l m, Bool.and_assoc]
  | .decI x e :: l, m, n => by simp only [List.cons_append, fresh, evsAdv, evAdv, fresh_append l m, Bool.and_assoc]
  | .call f a x ks :: l, m, n => by simp only [List.cons_append, fresh, evsAdv, evAdv, fresh_append l m, Bool.and_assoc]

/-! ### Kinds of variables, known from the text alone -/
abbrev KT := Tr IntKind

def IA.in (T : KT) (k : IntKind) : IA → Bool
  | .lit n => decide (k.min ≤ n) && decide (n ≤ k.max)
  | .var x => match T.get x with
    | some k' => kindEq k' k
    | none => false
def IE.kind (T : KT) : IE → Option IntKind
  | .bin .rem k a _ => if a.in T k then some k else none
  | .bin .shr k a _ => if a.in T k then some k else none
  | .bin _ k _ _ => some k
  | .conv k _ => some k
  | .mn (.var x) b => match T.get x with
    | some k => if b.in T k then some k else none
    | none => none
  | .mx (.var x) b => match T.get x with
    | some k => if b.in T k then some k else none
    | none => none
  | _ => none
def unsigned (k : IntKind) : Bool := decide (0 ≤ k.min)
def IA.nonneg (T : KT) : IA → Bool
  | .lit n => decide (0 ≤ n)
  | .var x => match T.get x with
    | some k => unsigned k
    | none => false
def IA.nonzero : IA → Bool
  | .lit n => !decide (n = 0)
  | .var _ => false
/-- nothing has to be shown of it -/
def IE.safe (T : KT) : IE → Bool
  | .bin .quo _ _ b => b.nonzero
  | .bin .rem _ _ b => b.nonzero
  | .bin .shl _ _ b => b.nonneg T
  | .bin .shr _ _ b => b.nonneg T
  | _ => true
def rkEq : RK → RK → Bool
  | .ri k, .ri k' => kindEq k k'
  | .rb, .rb => true
  | .rs, .rs => true
  | _, _ => false
def rksEq : List RK → List RK → Bool
  | [], [] => true
  | a :: l, b :: m => rkEq a b && rksEq l m
  | _, _ => false
def SC.typed (T : KT) : SC → Bool
  | .ivar k x => match T.get x with
    | some k' => kindEq k' k
    | none => false
  | _ => true
def ksSet : List RK → Nat → KT → KT
  | [], _, T => T
  | .ri k :: ks, x, T => ksSet ks (x + 1) (T.set x k)
  | _ :: ks, x, T => ksSet ks (x + 1) T
def evTy (sums : Tr Sum) (T : KT) (n : Nat) : Ev → Option (KT × Nat)
  | .setI0 x e => if Nat.beq x n && e.lt n then some (match e.kind T with | some k => T.set x k | none => T.del x, n + 1) else none
  | .setB0 x e => if Nat.beq x n && e.lt n then some (T, n + 1) else none
  | .setS0 x e => if Nat.beq x n && e.lt n then some (T, n + 1) else none
  | .call f a x ks =>
    match sums.get f with
    | some s => if Nat.beq x n && a.all (SC.lt n) && a.all (SC.typed T) && kindsSC (s.args.flatMap (·.2)) a && rksEq ks s.ks then some (ksSet ks x T, n + ks.length) else none
    | none => none
  | _ => none
def evsTy (sums : Tr Sum) : List Ev → KT → Nat → Option (KT × Nat)
  | [], T, n => some (T, n)
  | e :: l, T, n => match evTy sums T n e with
    | some p => evsTy sums l p.1 p.2
    | none => none

def Ev.safe (T : KT) : Ev → Bool
  | .setI0 _ e => e.safe T
  | _ => true

def tyOk (T : KT) (ρ : Env) : Prop := ∀ x k, T.get x = some k → IntKind.has k (ρ.i x)

/-- the values of a summary's kinds -/
def valKs : List RK → List Value → Nat → Env → Env
  | [], _, _, ρ => hi ρ
  | _ :: _, [], _, ρ => ρ
  | .ri _ :: ks, .int _ n :: vs, x, ρ => valKs ks vs (x + 1) (ρ.setI x n)
  | .rb :: ks, .bool b :: vs, x, ρ => valKs ks vs (x + 1) (ρ.setB x b)
  | .rs :: ks, .string s :: vs, x, ρ => valKs ks vs (x + 1) (ρ.setS x s)
  | _ :: ks, _ :: vs, x, ρ => valKs ks vs (x + 1) ρ

/-- what is known of a summary's numbers -/
structure SumT (P : Program) (Φ : Phi) (f : Nat) (s : Sum) : Prop where
  ok : SumOk P Φ f s
  rng : ∀ vs, TypedCells (s.args.flatMap (·.2)) vs → ∀ j k, s.ks[j]? = some (.ri k) → IntKind.has k (Φ.i f vs j)
def SumsT (P : Program) (Φ : Phi) (sums : Tr Sum) : Prop := ∀ f s, sums.get f = some s → SumT P Φ f s


theorem wrap_has (k : IntKind) (n : Int) : IntKind.has k (k.wrap n) := by
  cases k <;> simp only [IntKind.has, IntKind.min, IntKind.max, IntKind.wrap, IntKind.bits, IntKind.signed] <;> simp <;> (try split) <;> omega
theorem zero_has (k : IntKind) : IntKind.has k 0 := by
  cases k <;> simp [IntKind.has, IntKind.min, IntKind.max, IntKind.bits, IntKind.signed]
theorem min_nonpos (k : IntKind) : k.min ≤ 0 := (zero_has k).1
theorem max_nonneg (k : IntKind) : 0 ≤ k.max := (zero_has k).2

theorem tmod_has {k : IntKind} {a : Int} (h : IntKind.has k a) (b : Int) : IntKind.has k (a.tmod b) := by
  have h1 := min_nonpos k
  have h2 := max_nonneg k
  obtain ⟨h3, h4⟩ := h
  have hn : (a.tmod b).natAbs ≤ a.natAbs := by
    rw [Int.natAbs_tmod]
    exact Nat.mod_le _ _
  rcases Int.le_total 0 a with ha | ha
  · have := Int.tmod_nonneg b ha
    exact ⟨by omega, by omega⟩
  · have : a.tmod b ≤ 0 := by
      have h5 := Int.tmod_nonneg b (a := -a) (by omega)
      rw [Int.neg_tmod] at h5
      omega
    exact ⟨by omega, by omega⟩

theorem fdiv_has {k : IntKind} {a : Int} (h : IntKind.has k a) (m : Nat) : IntKind.has k (a.fdiv (2 ^ m)) := by
  have h1 := min_nonpos k
  have h2 := max_nonneg k
  obtain ⟨h3, h4⟩ := h
  have hp : (0 : Int) < 2 ^ m := Int.pow_pos (by decide)
  rw [Int.fdiv_eq_ediv_of_nonneg _ (Int.le_of_lt hp)]
  rcases Int.le_total 0 a with ha | ha
  · have h5 := Int.ediv_nonneg ha (Int.le_of_lt hp)
    have h6 := Int.ediv_le_self (2 ^ m) ha
    exact ⟨by omega, by omega⟩
  · have h5 : a / 2 ^ m ≤ 0 := by
      have := Int.ediv_le_ediv hp ha
      simpa using this
    have h6 : a ≤ a / 2 ^ m := by
      rw [Int.le_ediv_iff_mul_le hp]
      have h7 : (1 : Int) ≤ 2 ^ m := hp
      have h8 : a * 2 ^ m ≤ a * 1 := Int.mul_le_mul_of_nonpos_left ha h7
      omega
    exact ⟨by omega, by omega⟩

theorem tyOk_setI {T : KT} {ρ : Env} (h : tyOk T ρ) {k : IntKind} {v : Int} (hv : IntKind.has k v) (x : Nat) : tyOk (T.set x k) (ρ.setI x v) := fun y k' hy => by
  rw [Tr.get_set] at hy
  simp only [Env.setI]
  by_cases e : y = x
  · subst e
    simp only [if_true, Option.some.injEq] at hy
    subst hy
    simpa using hv
  · rw [if_neg e] at hy
    have : Nat.beq y x = false := by
      cases hq : Nat.beq y x with
      | false => rfl
      | true => exact absurd (Nat.eq_of_beq_eq_true hq) e
    simp only [this]
    exact h y k' hy
theorem tyOk_delI {T : KT} {ρ : Env} (h : tyOk T ρ) (v : Int) (x : Nat) : tyOk (T.del x) (ρ.setI x v) := fun y k' hy => by
  rw [Tr.get_del] at hy
  simp only [Env.setI]
  by_cases e : y = x
  · rw [if_pos e] at hy; cases hy
  · rw [if_neg e] at hy
    have : Nat.beq y x = false := by
      cases hq : Nat.beq y x with
      | false => rfl
      | true => exact absurd (Nat.eq_of_beq_eq_true hq) e
    simp only [this]
    exact h y k' hy
theorem tyOk_setB {T : KT} {ρ : Env} (h : tyOk T ρ) (v : Bool) (x : Nat) : tyOk T (ρ.setB x v) := h
theorem tyOk_setS {T : KT} {ρ : Env} (h : tyOk T ρ) (v : ByteArray) (x : Nat) : tyOk T (ρ.setS x v) := h

theorem ksSet_ok {Φ : Phi} {f : Nat} {vs : List Value} : ∀ (ks : List RK) (x j : Nat) (T : KT) (ρ : Env),
    tyOk T ρ → (∀ i k, ks[i]? = some (.ri k) → IntKind.has k (Φ.i f vs (j + i))) → tyOk (ksSet ks x T) (callSet Φ f vs x j ks ρ)
  | [], x, j, T, ρ, h, _ => h
  | .ri k :: ks, x, j, T, ρ, h, hr => by
    simp only [ksSet, callSet]
    refine ksSet_ok ks _ _ _ _ (tyOk_setI h (hr 0 k rfl) x) fun i k' hi => ?_
    have := hr (i + 1) k' (by simpa using hi)
    rwa [show j + (i + 1) = j + 1 + i by omega] at this
  | .rb :: ks, x, j, T, ρ, h, hr => by
    simp only [ksSet, callSet]
    refine ksSet_ok ks _ _ _ _ (tyOk_setB h _ x) fun i k' hi => ?_
    have := hr (i + 1) k' (by simpa using hi)
    rwa [show j + (i + 1) = j + 1 + i by omega] at this
  | .rs :: ks, x, j, T, ρ, h, hr => by
    simp only [ksSet, callSet]
    refine ksSet_ok ks _ _ _ _ (tyOk_setS h _ x) fun i k' hi => ?_
    have := hr (i + 1) k' (by simpa using hi)
    rwa [show j + (i + 1) = j + 1 + i by omega] at this
  | .rl v :: ks, x, j, T, ρ, h, hr => by
    simp only [ksSet, callSet]
    refine ksSet_ok ks _ _ _ _ h fun i k' hi => ?_
    have := hr (i + 1) k' (by simpa using hi)
    rwa [show j + (i + 1) = j + 1 + i by omega] at this

theorem IA.in_ok {T : KT} {ρ : Env} (h : tyOk T ρ) {k : IntKind} {a : IA} (ha : a.in T k = true) : IntKind.has k (a.den ρ) := by
  cases a with
  | lit n => simpa [IA.in, IntKind.has, IA.den] using ha
  | var x =>
    simp only [IA.in] at ha
    split at ha
    · rename_i k' hk
      rw [kindEq_true] at ha
      subst ha
      exact h x _ hk
    · cases ha

theorem IE.kind_ok {T : KT} {ρ : Env} (h : tyOk T ρ) {k : IntKind} {e : IE} (he : e.kind T = some k) : IntKind.has k (e.den ρ) := by
  unfold IE.kind at he
  split at he
  · split at he
    · rename_i ha
      simp only [Option.some.injEq] at he
      subst he
      exact tmod_has (IA.in_ok h ha) _
    · cases he
  · split at he
    · rename_i ha
      simp only [Option.some.injEq] at he
      subst he
      exact fdiv_has (IA.in_ok h ha) _
    · cases he
  · rename_i op k' a b h1 h2
    simp only [Option.some.injEq] at he
    subst he
    simp only [IE.den]
    cases op <;> simp only [ibin] <;> first | exact wrap_has _ _ | exact zero_has _ | exact absurd rfl (h1 _ _ _) | exact absurd rfl (h2 _ _ _) | skip
    · exact (h1 rfl).elim
    · exact (h2 rfl).elim
  · simp only [Option.some.injEq] at he
    subst he
    exact wrap_has _ _
  · split at he
    · rename_i k' hk
      split at he
      · rename_i hb
        simp only [Option.some.injEq] at he
        subst he
        simp only [IE.den]
        split
        · exact IA.in_ok h hb
        · exact h _ _ hk
      · cases he
    · cases he
  · split at he
    · rename_i k' hk
      split at he
      · rename_i hb
        simp only [Option.some.injEq] at he
        subst he
        simp only [IE.den]
        split
        · exact IA.in_ok h hb
        · exact h _ _ hk
      · cases he
    · cases he
  · cases he

theorem IA.nonneg_ok {T : KT} {ρ : Env} (h : tyOk T ρ) {a : IA} (ha : a.nonneg T = true) : 0 ≤ a.den ρ := by
  cases a with
  | lit n => simpa [IA.nonneg, IA.den] using ha
  | var x =>
    simp only [IA.nonneg] at ha
    split at ha
    · rename_i k hk
      have := (h x k hk).1
      simp only [unsigned, decide_eq_true_eq] at ha
      simp only [IA.den]
      omega
    · cases ha
theorem IA.nonzero_ok {ρ : Env} {a : IA} (ha : a.nonzero = true) : a.den ρ ≠ 0 := by
  cases a with
  | lit n => simpa [IA.nonzero, IA.den] using ha
  | var x => cases ha

theorem SC.typed_ok {T : KT} {ρ : Env} (h : tyOk T ρ) {c : SC} (hc : c.typed T = true) : c.fits ρ := by
  cases c <;> simp only [SC.fits]
  simp only [SC.typed] at hc
  split at hc
  · rename_i k' hk
    rw [kindEq_true] at hc
    subst hc
    exact h _ _ hk
  · cases hc
theorem fitsAll_of {ρ : Env} : ∀ {l : List SC}, (∀ c ∈ l, c.fits ρ) → fitsAll ρ l
  | [], _ => trivial
  | c :: l, h => ⟨h c (List.mem_cons_self ..), fitsAll_of fun d hd => h d (List.mem_cons_of_mem _ hd)⟩

theorem Ev.safe_ok {T : KT} {ρ : Env} (h : tyOk T ρ) {x : Nat} {e : IE} (he : e.safe T = true) : evSide ρ (.setI0 x e) := by
  cases e with
  | bin op k a b =>
    cases op <;> simp only [evSide] <;> simp only [IE.safe] at he
    · exact IA.nonzero_ok he
    · exact IA.nonzero_ok he
    · exact IA.nonneg_ok h he
    · exact IA.nonneg_ok h he
  | _ => trivial

theorem rksEq_ok : ∀ {l m : List RK}, rksEq l m = true → l = m
  | [], [], _ => rfl
  | a :: l, b :: m, h => by
    simp only [rksEq, Bool.and_eq_true] at h
    rw [rksEq_ok h.2]
    congr 1
    have h1 := h.1
    unfold rkEq at h1
    split at h1
    · rw [kindEq_true] at h1; rw [h1]
    · rfl
    · rfl
    · cases h1
  | [], _ :: _, h => by simp [rksEq] at h
  | _ :: _, [], h => by simp [rksEq] at h

theorem evTy_ok {P : Program} {Φ : Phi} {sums : Tr Sum} (hS : SumsT P Φ sums) {T T' : KT} {n n' : Nat} {e : Ev} (h : evTy sums T n e = some (T', n')) {ρ : Env} (ht : tyOk T ρ)
    (hs : e.safe T = false → evSide ρ e) : evSide ρ e ∧ tyOk T' (evSet Φ ρ e) ∧ ∀ l, fresh (e :: l) n = fresh l n' := by
  cases e with
  | setI0 x e =>
    simp only [evTy] at h
    split at h
    · rename_i hc
      simp only [Option.some.injEq, Prod.mk.injEq] at h
      obtain ⟨rfl, rfl⟩ := h
      refine ⟨?_, ?_, fun l => by simp only [fresh, hc, Bool.true_and]⟩
      · cases hsf : e.safe T with
        | true => exact Ev.safe_ok ht hsf
        | false => exact hs hsf
      · simp only [evSet]
        split
        · rename_i k hk
          exact tyOk_setI ht (IE.kind_ok ht hk) x
        · exact tyOk_delI ht _ x
    · cases h
  | setB0 x e =>
    simp only [evTy] at h
    split at h
    · rename_i hc
      simp only [Option.some.injEq, Prod.mk.injEq] at h
      obtain ⟨rfl, rfl⟩ := h
      exact ⟨trivial, tyOk_setB ht _ x, fun l => by simp only [fresh, hc, Bool.true_and]⟩
    · cases h
  | setS0 x e =>
    simp only [evTy] at h
    split at h
    · rename_i hc
      simp only [Option.some.injEq, Prod.mk.injEq] at h
      obtain ⟨rfl, rfl⟩ := h
      exact ⟨trivial, tyOk_setS ht _ x, fun l => by simp only [fresh, hc, Bool.true_and]⟩
    · cases h
  | decB x b => simp [evTy] at h
  | decI x b => simp [evTy] at h
  | call f a x ks =>
    simp only [evTy] at h
    split at h
    · rename_i s hsum
      split at h
      · rename_i hc
        simp only [Option.some.injEq, Prod.mk.injEq] at h
        obtain ⟨rfl, rfl⟩ := h
        simp only [Bool.and_eq_true] at hc
        obtain ⟨⟨⟨⟨c1, c2⟩, c3⟩, c4⟩, c5⟩ := hc
        have hfit : ∀ c ∈ a, c.fits ρ := fun c hm => SC.typed_ok ht (List.all_eq_true.1 c3 c hm)
        refine ⟨fitsAll_of hfit, ?_, fun l => by simp only [fresh, c1, c2, Bool.true_and]⟩
        have hk := rksEq_ok c5
        subst hk
        obtain ⟨_, _, h3⟩ := kindsSC_den c4 ρ hfit
        have h4 := h3 [] [] trivial
        simp only [List.append_nil] at h4
        exact ksSet_ok s.ks x 0 T ρ ht fun i k hi => by
          have := (hS f s hsum).rng _ h4 i k hi
          simpa using this
      · cases h
    · cases h

/-! ### What is known of numbers from the decisions -/
structure Fct where
  lo : Option Int
  hi : Option Int
  ne : List Int
structure FT where
  iv : Tr Fct
  df : Tr (BinOp × Nat × Int)
  bad : Bool
def FT.e : FT := ⟨.e, .e, false⟩

def Fct.Ok (f : Fct) (n : Int) : Prop := (∀ l, f.lo = some l → l ≤ n) ∧ (∀ h, f.hi = some h → n ≤ h) ∧ ∀ m ∈ f.ne, n ≠ m
def fct0 : Fct := ⟨none, none, []⟩
def Fct.atLeast (f : Fct) (n : Int) : Fct := match f.lo with
  | some l => if l < n then { f with lo := some n } else f
  | none => { f with lo := some n }
def Fct.atMost (f : Fct) (n : Int) : Fct := match f.hi with
  | some l => if n < l then { f with hi := some n } else f
  | none => { f with hi := some n }
def Fct.not (f : Fct) (n : Int) : Fct := { f with ne := n :: f.ne }
def eqI (a b : Int) : Bool := decide (a = b)
def memI (n : Int) : List Int → Bool
  | [] => false
  | m :: l => eqI n m || memI n l
/-- all of n, n + 1, .. (so many) are in the list -/
def allIn (l : List Int) : Nat → Int → Bool
  | 0, _ => true
  | k + 1, n => memI n l && allIn l k (n + 1)
def Fct.bad (f : Fct) : Bool := match f.lo, f.hi with
  | some l, some h => if h < l then true else if (h - l).toNat + 1 ≤ f.ne.length then allIn f.ne ((h - l).toNat + 1) l else false
  | _, _ => false

theorem memI_iff {n : Int} : ∀ {l : List Int}, memI n l = true → n ∈ l
  | [], h => by cases h
  | m :: l, h => by
    simp only [memI, Bool.or_eq_true, eqI, decide_eq_true_eq] at h
    rcases h with rfl | h
    · exact List.mem_cons_self ..
    · exact List.mem_cons_of_mem _ (memI_iff h)
theorem allIn_mem {l : List Int} : ∀ {k : Nat} {n : Int}, allIn l k n = true → ∀ m, n ≤ m → m < n + k → m ∈ l
  | 0, n, _, m, h1, h2 => by omega
  | k + 1, n, h, m, h1, h2 => by
    simp only [allIn, Bool.and_eq_true] at h
    rcases Int.lt_or_eq_of_le h1 with h3 | rfl
    · exact allIn_mem h.2 m (by omega) (by omega)
    · exact memI_iff h.1
theorem Fct.bad_ok {f : Fct} (h : f.bad = true) {n : Int} (hn : f.Ok n) : False := by
  unfold Fct.bad at h
  split at h
  · rename_i l hh h1 h2
    have a := hn.1 l h1
    have b := hn.2.1 hh h2
    split at h
    · omega
    · split at h
      · exact hn.2.2 n (allIn_mem h n a (by omega)) rfl
      · cases h
  · cases h
theorem fct0_ok (n : Int) : fct0.Ok n := ⟨(fun _ h => nomatch h), (fun _ h => nomatch h), (fun _ h => nomatch h)⟩
theorem Fct.atLeast_ok {f : Fct} {x n : Int} (h : f.Ok x) (hn : n ≤ x) : (f.atLeast n).Ok x := by
  unfold Fct.atLeast
  split
  · split
    · exact ⟨fun l hl => by (simp only [Option.some.injEq] at hl; omega), h.2.1, h.2.2⟩
    · exact h
  · exact ⟨fun l hl => by (simp only [Option.some.injEq] at hl; omega), h.2.1, h.2.2⟩
theorem Fct.atMost_ok {f : Fct} {x n : Int} (h : f.Ok x) (hn : x ≤ n) : (f.atMost n).Ok x := by
  unfold Fct.atMost
  split
  · split
    · exact ⟨h.1, fun l hl => by (simp only [Option.some.injEq] at hl; omega), h.2.2⟩
    · exact h
  · exact ⟨h.1, fun l hl => by (simp only [Option.some.injEq] at hl; omega), h.2.2⟩
theorem Fct.not_ok {f : Fct} {x n : Int} (h : f.Ok x) (hn : x ≠ n) : (f.not n).Ok x :=
  ⟨h.1, h.2.1, fun m hm => by
    rcases List.mem_cons.1 hm with rfl | hm
    · exact hn
    · exact h.2.2 m hm⟩

def Fct.cmp (f : Fct) (op : BinOp) (b : Bool) (n : Int) : Fct :=
  match op, b with
  | .eql, true => (f.atLeast n).atMost n
  | .neq, false => (f.atLeast n).atMost n
  | .eql, false => f.not n
  | .neq, true => f.not n
  | .lss, true => f.atMost (n - 1)
  | .geq, false => f.atMost (n - 1)
  | .lss, false => f.atLeast n
  | .geq, true => f.atLeast n
  | .gtr, true => f.atLeast (n + 1)
  | .leq, false => f.atLeast (n + 1)
  | .gtr, false => f.atMost n
  | .leq, true => f.atMost n
  | _, _ => f
theorem Fct.cmp_ok {f : Fct} {op : BinOp} {b : Bool} {n x : Int} (h : f.Ok x) (hb : icmp op x n = b) : (f.cmp op b n).Ok x := by
  unfold Fct.cmp
  split <;> simp [icmp] at hb
  · exact Fct.atMost_ok (Fct.atLeast_ok h (by omega)) (by omega)
  · exact Fct.atMost_ok (Fct.atLeast_ok h (by omega)) (by omega)
  · exact Fct.not_ok h hb
  · exact Fct.not_ok h hb
  · exact Fct.atMost_ok h (by omega)
  · exact Fct.atMost_ok h (by omega)
  · exact Fct.atLeast_ok h (by omega)
  · exact Fct.atLeast_ok h (by omega)
  · exact Fct.atLeast_ok h (by omega)
  · exact Fct.atLeast_ok h (by omega)
  · exact Fct.atMost_ok h (by omega)
  · exact Fct.atMost_ok h (by omega)
  · exact h

def FT.fct (F : FT) (x : Nat) : Fct := (F.iv.get x).getD fct0
def FT.put (F : FT) (x : Nat) (f : Fct) : FT := { F with iv := F.iv.set x f, bad := F.bad || f.bad }
def FT.asB (F : FT) (x : Nat) (b : Bool) : FT := match F.df.get x with
  | some (op, a, n) => F.put a ((F.fct a).cmp op b n)
  | none => F
def FT.asI (F : FT) (x : Nat) (n : Int) (b : Bool) : FT := F.put x ((F.fct x).cmp .eql b n)
def flipOp : BinOp → BinOp
  | .lss => .gtr
  | .gtr => .lss
  | .leq => .geq
  | .geq => .leq
  | o => o
def isCmp : BinOp → Bool
  | .eql | .neq | .lss | .leq | .gtr | .geq => true
  | _ => false
theorem icmp_flip {op : BinOp} (h : isCmp op = true) (a b : Int) : icmp op a b = icmp (flipOp op) b a := by
  cases op <;> simp [isCmp] at h <;> simp only [icmp, flipOp]
  · exact BEq.comm
  · simp only [bne, BEq.comm]
  all_goals rfl
def evFT (F : FT) (n : Nat) : Ev → FT
  | .setB0 x (.cmp op (.var a) (.lit m)) => if isCmp op && Nat.blt a n then { F with df := F.df.set x (op, a, m) } else F
  | .setB0 x (.cmp op (.lit m) (.var a)) => if isCmp op && Nat.blt a n then { F with df := F.df.set x (flipOp op, a, m) } else F
  | _ => F
def evsFT (F : FT) : Nat → List Ev → FT
  | _, [] => F
  | n, e :: l => evsFT (evFT F n e) (evAdv e n) l

structure FOk (F : FT) (n : Nat) (ρ : Env) : Prop where
  iv : ∀ x f, F.iv.get x = some f → x < n ∧ f.Ok (ρ.i x)
  df : ∀ x op a m, F.df.get x = some (op, a, m) → x < n ∧ a < n ∧ ρ.b x = icmp op (ρ.i a) m
  bad : F.bad = true → False
theorem FOk.e (n : Nat) (ρ : Env) : FOk .e n ρ := ⟨fun x f h => (by rw [show FT.e.iv = Tr.e from rfl, Tr.get_e] at h; cases h), fun x op a m h => (by rw [show FT.e.df = Tr.e from rfl, Tr.get_e] at h; cases h), fun h => by cases h⟩
theorem FOk.like {F : FT} {n m : Nat} {ρ ρ' : Env} (h : FOk F n ρ) (hl : Env.like n ρ ρ') (hm : n ≤ m) : FOk F m ρ' :=
  ⟨fun x f hx => by
    obtain ⟨a, b⟩ := h.iv x f hx
    exact ⟨by omega, by rw [(hl x a).1]; exact b⟩, fun x op a k hx => by
    obtain ⟨h1, h2, h3⟩ := h.df x op a k hx
    exact ⟨by omega, by omega, by rw [(hl x h1).2.1, (hl a h2).1]; exact h3⟩, h.bad⟩
theorem FOk.fct {F : FT} {n : Nat} {ρ : Env} (h : FOk F n ρ) (x : Nat) : (F.fct x).Ok (ρ.i x) := by
  unfold FT.fct
  cases hx : F.iv.get x with
  | none => exact fct0_ok _
  | some f => exact (h.iv x f hx).2
theorem FOk.put {F : FT} {n : Nat} {ρ : Env} (h : FOk F n ρ) {x : Nat} (hx : x < n) {f : Fct} (hf : f.Ok (ρ.i x)) : FOk (F.put x f) n ρ :=
  ⟨fun y g hy => by
    simp only [FT.put, Tr.get_set] at hy
    split at hy
    · rename_i e
      subst e
      simp only [Option.some.injEq] at hy
      subst hy
      exact ⟨hx, hf⟩
    · exact h.iv y g hy, h.df, fun hb => by
    simp only [FT.put, Bool.or_eq_true] at hb
    rcases hb with hb | hb
    · exact h.bad hb
    · exact Fct.bad_ok hb hf⟩
theorem FOk.asB {F : FT} {n : Nat} {ρ : Env} (h : FOk F n ρ) {x : Nat} {b : Bool} (hb : ρ.b x = b) : FOk (F.asB x b) n ρ := by
  unfold FT.asB
  split
  · rename_i op a m hd
    obtain ⟨h1, h2, h3⟩ := h.df x op a m hd
    exact h.put h2 (Fct.cmp_ok (h.fct a) (by rw [← h3]; exact hb))
  · exact h
theorem FOk.asI {F : FT} {n : Nat} {ρ : Env} (h : FOk F n ρ) {x : Nat} (hx : x < n) {m : Int} {b : Bool} (hb : decide (ρ.i x = m) = b) : FOk (F.asI x m b) n ρ := by
  refine h.put hx (Fct.cmp_ok (h.fct x) ?_)
  rw [← hb]
  rfl
theorem evTy_like {Φ : Phi} {sums : Tr Sum} {T T' : KT} {n n' : Nat} {e : Ev} (h : evTy sums T n e = some (T', n')) (ρ : Env) : Env.like n ρ (evSet Φ ρ e) ∧ n' = evAdv e n ∧ n ≤ n' := by
  cases e with
  | setI0 x e =>
    simp only [evTy] at h
    split at h
    · rename_i hc
      simp only [Option.some.injEq, Prod.mk.injEq, Bool.and_eq_true] at h hc
      have hx : x = n := by simpa using hc.1
      subst hx
      exact ⟨like_setI _ _ _, h.2.symm, by omega⟩
    · cases h
  | setB0 x e =>
    simp only [evTy] at h
    split at h
    · rename_i hc
      simp only [Option.some.injEq, Prod.mk.injEq, Bool.and_eq_true] at h hc
      have hx : x = n := by simpa using hc.1
      subst hx
      exact ⟨like_setB _ _ _, h.2.symm, by omega⟩
    · cases h
  | setS0 x e =>
    simp only [evTy] at h
    split at h
    · rename_i hc
      simp only [Option.some.injEq, Prod.mk.injEq, Bool.and_eq_true] at h hc
      have hx : x = n := by simpa using hc.1
      subst hx
      exact ⟨like_setS _ _ _, h.2.symm, by omega⟩
    · cases h
  | decB x b => simp [evTy] at h
  | decI x b => simp [evTy] at h
  | call f a x ks =>
    simp only [evTy] at h
    split at h
    · split at h
      · rename_i hc
        simp only [Option.some.injEq, Prod.mk.injEq, Bool.and_eq_true] at h hc
        have hx : x = n := by simpa using hc.1.1.1.1
        subst hx
        exact ⟨callSet_like _ _ _ _ _ _ _, h.2.symm, by omega⟩
      · cases h
    · cases h
theorem evFT_ok {Φ : Phi} {sums : Tr Sum} {T T' : KT} {n n' : Nat} {e : Ev} (h : evTy sums T n e = some (T', n')) {F : FT} {ρ : Env} (hf : FOk F n ρ) : FOk (evFT F n e) n' (evSet Φ ρ e) := by
  obtain ⟨hl, hn, hle⟩ := evTy_like (Φ := Φ) h ρ
  have h0 := hf.like hl hle
  have hx : ∀ x (be : BE), e = .setB0 x be → x = n ∧ n' = n + 1 ∧ (evSet Φ ρ e).b x = be.den ρ := fun x be he => by
    subst he
    simp only [evTy] at h
    split at h
    · rename_i hc
      simp only [Option.some.injEq, Prod.mk.injEq, Bool.and_eq_true] at h hc
      have hx : x = n := by simpa using hc.1
      exact ⟨hx, h.2.symm, by simp [evSet, Env.setB]⟩
    · cases h
  unfold evFT
  split
  · rename_i x op a m
    split
    · rename_i hc
      simp only [Bool.and_eq_true] at hc
      have ha : a < n := by simpa using hc.2
      obtain ⟨e1, e2, e3⟩ := hx x _ rfl
      refine ⟨h0.iv, fun y op' a' m' hy => ?_, h0.bad⟩
      simp only [Tr.get_set] at hy
      split at hy
      · rename_i e
        subst e
        simp only [Option.some.injEq, Prod.mk.injEq] at hy
        obtain ⟨rfl, rfl, rfl⟩ := hy
        refine ⟨by omega, by omega, ?_⟩
        rw [e3, (hl _ ha).1]
        rfl
      · exact h0.df y op' a' m' hy
    · exact h0
  · rename_i x op m a
    split
    · rename_i hc
      simp only [Bool.and_eq_true] at hc
      have ha : a < n := by simpa using hc.2
      obtain ⟨e1, e2, e3⟩ := hx x _ rfl
      refine ⟨h0.iv, fun y op' a' m' hy => ?_, h0.bad⟩
      simp only [Tr.get_set] at hy
      split at hy
      · rename_i e
        subst e
        simp only [Option.some.injEq, Prod.mk.injEq] at hy
        obtain ⟨rfl, rfl, rfl⟩ := hy
        refine ⟨by omega, by omega, ?_⟩
        rw [e3, (hl _ ha).1]
        exact icmp_flip hc.1 m (ρ.i _)
      · exact h0.df y op' a' m' hy
    · exact h0
  · exact h0
theorem evsFT_ok {P : Program} {Φ : Phi} {sums : Tr Sum} : ∀ (l : List Ev) {T T' : KT} {n n' : Nat}, evsTy sums l T n = some (T', n') → ∀ {F : FT} {ρ : Env}, FOk F n ρ → FOk (evsFT F n l) n' (evRun Φ l ρ)
  | [], T, T', n, n', h, F, ρ, hf => by
    simp only [evsTy, Option.some.injEq, Prod.mk.injEq] at h
    obtain ⟨rfl, rfl⟩ := h
    exact hf
  | e :: l, T, T', n, n', h, F, ρ, hf => by
    simp only [evsTy] at h
    split at h
    · rename_i p hp
      obtain ⟨T1, n1⟩ := p
      have h1 := evFT_ok (Φ := Φ) hp hf
      obtain ⟨_, h2, _⟩ := evTy_like (Φ := Φ) hp ρ
      subst h2
      exact evsFT_ok (P := P) l h h1
    · cases h

/-! ### Trees -/
inductive LT where
  | leaf (evs : List Ev) (v : SV)
  | nb (evs : List Ev) (x : Nat) (t f : LT)
  | ni (evs : List Ev) (x : Nat) (n : Int) (y m : LT)
  | dead (evs : List Ev)
  /-- a truth that is shown of itself, whatever the way -/
  | sure (evs : List Ev) (x : Nat) (b : Bool) (t : LT)

/-- the tree is what the runs tell -/
def LT.Ok (run : List D → R (SV × St)) : LT → List D → List Ev → Prop
  | .leaf evs v, ds, log => ans (run ds.reverse) = some (v, evs.reverseAux log)
  | .nb evs x t f, ds, log => t.Ok run (.db true :: ds) (.decB x true :: evs.reverseAux log) ∧ f.Ok run (.db false :: ds) (.decB x false :: evs.reverseAux log)
  | .ni evs x n y m, ds, log => y.Ok run (.di n :: ds) (.decI x n :: evs.reverseAux log) ∧ m.Ok run ds (evs.reverseAux log)
  | .dead _, _, _ => True
  | .sure evs x b t, ds, log => t.Ok run (.db b :: ds) (.decB x b :: evs.reverseAux log)

section
variable {run : List D → R (SV × St)} {ds : List D} {log : List Ev}
theorem LT.ok_leaf {evs : List Ev} {v : SV} (h : ans (run ds.reverse) = some (v, evs.reverseAux log)) : (LT.leaf evs v).Ok run ds log := h
theorem LT.ok_nb {evs : List Ev} {x : Nat} {t f : LT} (h1 : t.Ok run (.db true :: ds) (.decB x true :: evs.reverseAux log)) (h2 : f.Ok run (.db false :: ds) (.decB x false :: evs.reverseAux log)) : (LT.nb evs x t f).Ok run ds log := ⟨h1, h2⟩
theorem LT.ok_ni {evs : List Ev} {x : Nat} {n : Int} {t f : LT} (h1 : t.Ok run (.di n :: ds) (.decI x n :: evs.reverseAux log)) (h2 : f.Ok run ds (evs.reverseAux log)) : (LT.ni evs x n t f).Ok run ds log := ⟨h1, h2⟩
theorem LT.ok_dead {evs : List Ev} : (LT.dead evs).Ok run ds log := trivial
theorem LT.ok_sure {evs : List Ev} {x : Nat} {b : Bool} {t : LT} (h1 : t.Ok run (.db b :: ds) (.decB x b :: evs.reverseAux log)) : (LT.sure evs x b t).Ok run ds log := h1
end

/-- an answer's cells -/
def SV.parts : SV → List SW
  | .w x => [x]
  | .tup xs => xs
def SV.flat (v : SV) : List SC := v.parts.flatMap SW.cells

def shapeFit : List (Bool × Nat) → List SW → Bool
  | [], [] => true
  | (true, n) :: sh, .agg xs :: l => Nat.beq xs.length n && shapeFit sh l
  | (false, _) :: sh, .c _ :: l => shapeFit sh l
  | _, _ => false
def tupFit (s : Sum) : SV → Bool
  | .w x => !s.tup && shapeFit s.shape [x]
  | .tup xs => s.tup && shapeFit s.shape xs

def leafOk (s : Sum) (T : KT) (v : SV) : Bool := tupFit s v && kindsSC s.ks v.flat && v.flat.all (SC.typed T)

/-- what is sure from the text -/
def LT.chk (sums : Tr Sum) (s : Sum) : LT → KT → Nat → Bool
  | .leaf evs v, T, n => match evsTy sums evs T n with
    | some p => leafOk s p.1 v
    | none => false
  | .nb evs x t f, T, n => match evsTy sums evs T n with
    | some p => Nat.blt x p.2 && t.chk sums s p.1 p.2 && f.chk sums s p.1 p.2
    | none => false
  | .ni evs x _ t f, T, n => match evsTy sums evs T n with
    | some p => Nat.blt x p.2 && t.chk sums s p.1 p.2 && f.chk sums s p.1 p.2
    | none => false
  | .dead evs, T, n => (evsTy sums evs T n).isSome
  | .sure evs x _ t, T, n => match evsTy sums evs T n with
    | some p => Nat.blt x p.2 && t.chk sums s p.1 p.2
    | none => false

def kt (o : Option (KT × Nat)) : KT := match o with | some p => p.1 | none => .e
def kn (o : Option (KT × Nat)) : Nat := match o with | some p => p.2 | none => 0

/-- what has to be shown of a row of events -/
def segObl (Φ : Phi) (sums : Tr Sum) (K : Prop → Prop) : List Ev → KT → Nat → Env → List Prop
  | [], _, _, _ => []
  | e :: l, T, n, ρ =>
    let o := evTy sums T n e
    if e.safe T then segObl Φ sums K l (kt o) (kn o) (evSet Φ ρ e)
    else K (evSide ρ e) :: segObl Φ sums K l (kt o) (kn o) (evSet Φ ρ e)

def LT.obl (Φ : Phi) (sums : Tr Sum) : LT → (Prop → Prop) → KT → Nat → FT → Env → List Prop
  | .leaf evs _, K, T, n, F, ρ => segObl Φ sums K evs T n ρ
  | .nb evs x t f, K, T, n, F, ρ =>
    let o := evsTy sums evs T n
    let F := evsFT F n evs
    segObl Φ sums K evs T n ρ ++ (t.obl Φ sums (fun p => K ((evRun Φ evs ρ).b x = true → p)) (kt o) (kn o) (F.asB x true) (evRun Φ evs ρ)
      ++ f.obl Φ sums (fun p => K ((evRun Φ evs ρ).b x = false → p)) (kt o) (kn o) (F.asB x false) (evRun Φ evs ρ))
  | .ni evs x i t f, K, T, n, F, ρ =>
    let o := evsTy sums evs T n
    let F := evsFT F n evs
    segObl Φ sums K evs T n ρ ++ (t.obl Φ sums (fun p => K ((evRun Φ evs ρ).i x = i → p)) (kt o) (kn o) (F.asI x i true) (evRun Φ evs ρ)
      ++ f.obl Φ sums (fun p => K ((evRun Φ evs ρ).i x ≠ i → p)) (kt o) (kn o) (F.asI x i false) (evRun Φ evs ρ))
  | .dead evs, K, T, n, F, ρ => if F.bad then [] else segObl Φ sums K evs T n ρ ++ [K False]
  | .sure evs x b t, K, T, n, F, ρ =>
    let o := evsTy sums evs T n
    let F := evsFT F n evs
    segObl Φ sums K evs T n ρ ++ ((evRun Φ evs ρ).b x = b) :: t.obl Φ sums K (kt o) (kn o) (F.asB x b) (evRun Φ evs ρ)

/-- the answer's cells as numbers, truths, strings -/
def SC.vi (ρ : Env) : SC → Int
  | .lit (.int _ n) => n
  | .ivar _ x => ρ.i x
  | _ => hi 0
def SC.vb (ρ : Env) : SC → Bool
  | .lit (.bool b) => b
  | .bvar x neg => turn neg (ρ.b x)
  | _ => hi false
def SC.vs (ρ : Env) : SC → ByteArray
  | .lit (.string s) => s
  | .svar x => ρ.s x
  | _ => hi .empty
def nthC (l : List SC) (j : Nat) : SC := (l[j]?).getD (.lit undef)

def LT.get {α : Type} (Φ : Phi) (g : Env → SC → α) (d : α) (j : Nat) : LT → Env → α
  | .leaf evs v, ρ => g (evRun Φ evs ρ) (nthC v.flat j)
  | .nb evs x t f, ρ => cond ((evRun Φ evs ρ).b x) (t.get Φ g d j (evRun Φ evs ρ)) (f.get Φ g d j (evRun Φ evs ρ))
  | .ni evs x n t f, ρ => cond (decide ((evRun Φ evs ρ).i x = n)) (t.get Φ g d j (evRun Φ evs ρ)) (f.get Φ g d j (evRun Φ evs ρ))
  | .dead _, _ => d
  | .sure evs x b t, ρ => t.get Φ g d j (evRun Φ evs ρ)
def LT.vi (Φ : Phi) (t : LT) (j : Nat) (ρ : Env) : Int := t.get Φ SC.vi 0 j ρ
def LT.vb (Φ : Phi) (t : LT) (j : Nat) (ρ : Env) : Bool := t.get Φ SC.vb false j ρ
def LT.vs (Φ : Phi) (t : LT) (j : Nat) (ρ : Env) : ByteArray := t.get Φ SC.vs .empty j ρ

/-- the way that an environment takes -/
def LT.at (Φ : Phi) : LT → Env → Option (SV × Env)
  | .leaf evs v, ρ => some (v, evRun Φ evs ρ)
  | .nb evs x t f, ρ => cond ((evRun Φ evs ρ).b x) (t.at Φ (evRun Φ evs ρ)) (f.at Φ (evRun Φ evs ρ))
  | .ni evs x n t f, ρ => cond (decide ((evRun Φ evs ρ).i x = n)) (t.at Φ (evRun Φ evs ρ)) (f.at Φ (evRun Φ evs ρ))
  | .dead _, _ => none
  | .sure evs x b t, ρ => t.at Φ (evRun Φ evs ρ)

theorem LT.get_at {α : Type} (Φ : Phi) (g : Env → SC → α) (d : α) (j : Nat) : ∀ (t : LT) (ρ : Env) {v : SV} {ρ' : Env}, t.at Φ ρ = some (v, ρ') → t.get Φ g d j ρ = g ρ' (nthC v.flat j)
  | .leaf evs v, ρ, v', ρ', h => by
    simp only [LT.at, Option.some.injEq, Prod.mk.injEq] at h
    obtain ⟨rfl, rfl⟩ := h
    rfl
  | .nb evs x t f, ρ, v', ρ', h => by
    simp only [LT.at] at h
    simp only [LT.get]
    cases hb : (evRun Φ evs ρ).b x with
    | true => rw [hb] at h; exact LT.get_at Φ g d j t _ h
    | false => rw [hb] at h; exact LT.get_at Φ g d j f _ h
  | .ni evs x n t f, ρ, v', ρ', h => by
    simp only [LT.at] at h
    simp only [LT.get]
    cases hb : decide ((evRun Φ evs ρ).i x = n) with
    | true => rw [hb] at h; exact LT.get_at Φ g d j t _ h
    | false => rw [hb] at h; exact LT.get_at Φ g d j f _ h
  | .dead _, ρ, v', ρ', h => by simp [LT.at] at h
  | .sure evs x b t, ρ, v', ρ', h => by
    simp only [LT.at] at h
    exact LT.get_at Φ g d j t _ h

theorem segObl_ok {P : Program} {Φ : Phi} {sums : Tr Sum} (hS : SumsT P Φ sums) {K : Prop → Prop} (hK : ∀ p, K p → p) : ∀ (l : List Ev) (T T' : KT) (n n' : Nat) (ρ : Env),
    evsTy sums l T n = some (T', n') → tyOk T ρ → (∀ p ∈ segObl Φ sums K l T n ρ, p) → sides Φ l ρ ∧ tyOk T' (evRun Φ l ρ) ∧ (∀ m, fresh (l ++ m) n = fresh m n')
  | [], T, T', n, n', ρ, h, ht, _ => by
    simp only [evsTy, Option.some.injEq, Prod.mk.injEq] at h
    obtain ⟨rfl, rfl⟩ := h
    exact ⟨trivial, ht, fun m => rfl⟩
  | e :: l, T, T', n, n', ρ, h, ht, ho => by
    simp only [evsTy] at h
    split at h
    · rename_i p hp
      obtain ⟨T1, n1⟩ := p
      have hs : e.safe T = false → evSide ρ e := fun hf => by
        simp only [segObl, hf, Bool.false_eq_true, if_false] at ho
        exact hK _ (ho _ (List.mem_cons_self ..))
      obtain ⟨h1, h2, h3⟩ := evTy_ok hS hp ht hs
      have ho' : ∀ p ∈ segObl Φ sums K l T1 n1 (evSet Φ ρ e), p := fun p hm => by
        refine ho p ?_
        simp only [segObl, hp, kt, kn]
        split
        · exact hm
        · exact List.mem_cons_of_mem _ hm
      obtain ⟨h4, h5, h6⟩ := segObl_ok hS hK l T1 T' n1 n' _ h h2 ho'
      exact ⟨⟨h1, h4⟩, h5, fun m => by rw [List.cons_append, h3, h6]⟩
    · cases h

theorem fresh_decB (x : Nat) (b : Bool) (l : List Ev) (n : Nat) : fresh (.decB x b :: l) n = (Nat.blt x n && fresh l n) := rfl

/-- from the tree to the way that is taken -/
theorem LT.path {P : Program} {Φ : Phi} {sums : Tr Sum} (hS : SumsT P Φ sums) {s : Sum} {run : List D → R (SV × St)} (ρ0 : Env) (n0 : Nat) : ∀ (t : LT) (ds : List D) (log : List Ev) (K : Prop → Prop) (T : KT) (n : Nat) (F : FT) (ρ : Env),
    t.Ok run ds log → t.chk sums s T n = true → (∀ p, K p → p) → (∀ p ∈ t.obl Φ sums K T n F ρ, p) → tyOk T ρ → FOk F n ρ →
    sides Φ log.reverse ρ0 → evRun Φ log.reverse ρ0 = ρ → (∀ m, fresh (log.reverse ++ m) n0 = fresh m n) →
    ∃ ds' v log' ρ' T', ans (run ds') = some (v, log') ∧ sides Φ log'.reverse ρ0 ∧ evRun Φ log'.reverse ρ0 = ρ' ∧ fresh log'.reverse n0 = true ∧ t.at Φ ρ = some (v, ρ') ∧ leafOk s T' v = true ∧ tyOk T' ρ'
  | .leaf evs v, ds, log, K, T, n, F, ρ, hok, hc, hK, ho, ht, hF, h1, h2, h3 => by
    simp only [LT.chk] at hc
    split at hc
    · rename_i p hp
      obtain ⟨T', n'⟩ := p
      obtain ⟨a, b, c⟩ := segObl_ok hS hK evs T T' n n' ρ hp ht ho
      refine ⟨ds.reverse, v, evs.reverseAux log, evRun Φ evs ρ, T', hok, ?_, ?_, ?_, rfl, hc, b⟩
      · rw [List.reverseAux_eq, List.reverse_append, List.reverse_reverse, sides_append]
        exact ⟨h1, by rw [h2]; exact a⟩
      · rw [List.reverseAux_eq, List.reverse_append, List.reverse_reverse, evRun_append, h2]
      · rw [List.reverseAux_eq, List.reverse_append, List.reverse_reverse, h3]
        have := c []
        rw [List.append_nil] at this
        rw [this]
        rfl
    · cases hc
  | .nb evs x t f, ds, log, K, T, n, F, ρ, hok, hc, hK, ho, ht, hF, h1, h2, h3 => by
    simp only [LT.chk] at hc
    split at hc
    · rename_i p hp
      obtain ⟨T', n'⟩ := p
      simp only [Bool.and_eq_true] at hc
      simp only [LT.obl, hp, kt, kn] at ho
      have hF' := evsFT_ok (P := P) (Φ := Φ) evs hp hF
      obtain ⟨a, b, c⟩ := segObl_ok hS hK evs T T' n n' ρ hp ht (fun p hm => ho p (List.mem_append.2 (.inl hm)))
      have e1 : ∀ d, sides Φ (Ev.decB x d :: evs.reverseAux log).reverse ρ0 ↔ (evRun Φ evs ρ).b x = d := fun d => by
        rw [List.reverse_cons, List.reverseAux_eq, List.reverse_append, List.reverse_reverse, sides_append, sides_append, evRun_append, h2]
        simp only [sides, evSide, h1, a, and_true, true_and]
      have e2 : ∀ d, evRun Φ (Ev.decB x d :: evs.reverseAux log).reverse ρ0 = evRun Φ evs ρ := fun d => by
        rw [List.reverse_cons, List.reverseAux_eq, List.reverse_append, List.reverse_reverse, evRun_append, evRun_append, h2]
        rfl
      have e3 : ∀ d m, fresh ((Ev.decB x d :: evs.reverseAux log).reverse ++ m) n0 = fresh m n' := fun d m => by
        rw [List.reverse_cons, List.reverseAux_eq, List.reverse_append, List.reverse_reverse, List.append_assoc, List.append_assoc, h3, c]
        simp only [List.singleton_append, fresh, hc.1.1, Bool.true_and]
      cases hb : (evRun Φ evs ρ).b x with
      | true =>
        obtain ⟨ds', v, log', ρ', T2, r⟩ := LT.path hS ρ0 n0 t _ _ (fun p => K ((evRun Φ evs ρ).b x = true → p)) T' n' ((evsFT F n evs).asB x true) (evRun Φ evs ρ) hok.1 hc.1.2 (fun p hp => hK _ hp hb) (fun p hm => ho p (List.mem_append.2 (.inr (List.mem_append.2 (.inl hm))))) b (hF'.asB hb) ((e1 true).2 hb) (e2 true) (e3 true)
        exact ⟨ds', v, log', ρ', T2, by simpa only [LT.at, hb, cond_true] using r⟩
      | false =>
        obtain ⟨ds', v, log', ρ', T2, r⟩ := LT.path hS ρ0 n0 f _ _ (fun p => K ((evRun Φ evs ρ).b x = false → p)) T' n' ((evsFT F n evs).asB x false) (evRun Φ evs ρ) hok.2 hc.2 (fun p hp => hK _ hp hb) (fun p hm => ho p (List.mem_append.2 (.inr (List.mem_append.2 (.inr hm))))) b (hF'.asB hb) ((e1 false).2 hb) (e2 false) (e3 false)
        exact ⟨ds', v, log', ρ', T2, by simpa only [LT.at, hb, cond_false] using r⟩
    · cases hc
  | .ni evs x i t f, ds, log, K, T, n, F, ρ, hok, hc, hK, ho, ht, hF, h1, h2, h3 => by
    simp only [LT.chk] at hc
    split at hc
    · rename_i p hp
      obtain ⟨T', n'⟩ := p
      simp only [Bool.and_eq_true] at hc
      simp only [LT.obl, hp, kt, kn] at ho
      have hF' := evsFT_ok (P := P) (Φ := Φ) evs hp hF
      obtain ⟨a, b, c⟩ := segObl_ok hS hK evs T T' n n' ρ hp ht (fun p hm => ho p (List.mem_append.2 (.inl hm)))
      have e0 : sides Φ (evs.reverseAux log).reverse ρ0 := by
        rw [List.reverseAux_eq, List.reverse_append, List.reverse_reverse, sides_append, h2]
        exact ⟨h1, a⟩
      have e2' : evRun Φ (evs.reverseAux log).reverse ρ0 = evRun Φ evs ρ := by
        rw [List.reverseAux_eq, List.reverse_append, List.reverse_reverse, evRun_append, h2]
      have e3' : ∀ m, fresh ((evs.reverseAux log).reverse ++ m) n0 = fresh m n' := fun m => by
        rw [List.reverseAux_eq, List.reverse_append, List.reverse_reverse, List.append_assoc, h3, c]
      have e1 : ∀ d, sides Φ (Ev.decI x d :: evs.reverseAux log).reverse ρ0 ↔ (evRun Φ evs ρ).i x = d := fun d => by
        rw [List.reverse_cons, sides_append, e2']
        simp only [sides, evSide, e0, and_true, true_and]
      have e2 : ∀ d, evRun Φ (Ev.decI x d :: evs.reverseAux log).reverse ρ0 = evRun Φ evs ρ := fun d => by
        rw [List.reverse_cons, evRun_append, e2']
        rfl
      have e3 : ∀ d m, fresh ((Ev.decI x d :: evs.reverseAux log).reverse ++ m) n0 = fresh m n' := fun d m => by
        rw [List.reverse_cons, List.append_assoc, e3']
        simp only [List.singleton_append, fresh, hc.1.1, Bool.true_and]
      by_cases hb : (evRun Φ evs ρ).i x = i
      · obtain ⟨ds', v, log', ρ', T2, r⟩ := LT.path hS ρ0 n0 t _ _ (fun p => K ((evRun Φ evs ρ).i x = i → p)) T' n' ((evsFT F n evs).asI x i true) (evRun Φ evs ρ) hok.1 hc.1.2 (fun p hp => hK _ hp hb) (fun p hm => ho p (List.mem_append.2 (.inr (List.mem_append.2 (.inl hm))))) b (hF'.asI (by simpa using hc.1.1) (by simp [hb])) ((e1 i).2 hb) (e2 i) (e3 i)
        exact ⟨ds', v, log', ρ', T2, by simpa only [LT.at, hb, decide_true, cond_true] using r⟩
      · obtain ⟨ds', v, log', ρ', T2, r⟩ := LT.path hS ρ0 n0 f _ _ (fun p => K ((evRun Φ evs ρ).i x ≠ i → p)) T' n' ((evsFT F n evs).asI x i false) (evRun Φ evs ρ) hok.2 hc.2 (fun p hp => hK _ hp hb) (fun p hm => ho p (List.mem_append.2 (.inr (List.mem_append.2 (.inr hm))))) b (hF'.asI (by simpa using hc.1.1) (by simp [hb])) e0 e2' e3'
        exact ⟨ds', v, log', ρ', T2, by simpa only [LT.at, hb, decide_false, cond_false] using r⟩
    · cases hc
  | .sure evs x d t, ds, log, K, T, n, F, ρ, hok, hc, hK, ho, ht, hF, h1, h2, h3 => by
    simp only [LT.chk] at hc
    split at hc
    · rename_i p hp
      obtain ⟨T', n'⟩ := p
      simp only [Bool.and_eq_true] at hc
      simp only [LT.obl, hp, kt, kn] at ho
      have hF' := evsFT_ok (P := P) (Φ := Φ) evs hp hF
      obtain ⟨a, b, c⟩ := segObl_ok hS hK evs T T' n n' ρ hp ht (fun p hm => ho p (List.mem_append.2 (.inl hm)))
      have hb : (evRun Φ evs ρ).b x = d := ho _ (List.mem_append.2 (.inr (List.mem_cons_self ..)))
      have e1 : sides Φ (Ev.decB x d :: evs.reverseAux log).reverse ρ0 := by
        rw [List.reverse_cons, List.reverseAux_eq, List.reverse_append, List.reverse_reverse, sides_append, sides_append, evRun_append, h2]
        simp only [sides, evSide, h1, a, and_true, true_and]
        exact hb
      have e2 : evRun Φ (Ev.decB x d :: evs.reverseAux log).reverse ρ0 = evRun Φ evs ρ := by
        rw [List.reverse_cons, List.reverseAux_eq, List.reverse_append, List.reverse_reverse, evRun_append, evRun_append, h2]
        rfl
      have e3 : ∀ m, fresh ((Ev.decB x d :: evs.reverseAux log).reverse ++ m) n0 = fresh m n' := fun m => by
        rw [List.reverse_cons, List.reverseAux_eq, List.reverse_append, List.reverse_reverse, List.append_assoc, List.append_assoc, h3, c]
        simp only [List.singleton_append, fresh, hc.1, Bool.true_and]
      exact LT.path hS ρ0 n0 t _ _ K T' n' ((evsFT F n evs).asB x d) (evRun Φ evs ρ) hok hc.2 hK (fun p hm => ho p (List.mem_append.2 (.inr (List.mem_cons_of_mem _ hm)))) b (hF'.asB hb) e1 e2 e3
    · cases hc
  | .dead evs, ds, log, K, T, n, F, ρ, hok, hc, hK, ho, ht, hF, h1, h2, h3 => by
    simp only [LT.obl] at ho
    cases hb : F.bad with
    | true => exact (hF.bad hb).elim
    | false =>
    rw [hb] at ho
    simp only [Bool.false_eq_true, if_false] at ho
    exact (hK _ (ho (K False) (List.mem_append.2 (.inr (List.mem_singleton.2 rfl))))).elim


/-! ### A summary out of a tree -/
def symArgs : List (Bool × List RK) → Nat → List SW
  | [], _ => []
  | (false, ks) :: l, x => .c (nthC (sumCells x ks) 0) :: symArgs l (x + ks.length)
  | (true, ks) :: l, x => .agg (sumCells x ks) :: symArgs l (x + ks.length)
def argsWf : List (Bool × List RK) → Bool
  | [] => true
  | (false, [_]) :: l => argsWf l
  | (true, _) :: l => argsWf l
  | _ => false
def argKs (s : Sum) : List RK := s.args.flatMap (·.2)
def envOf (ks : List RK) (vs : List Value) : Env := valKs ks vs 0 env0

def treeCells (Φ : Phi) (t : LT) (ρ : Env) : Nat → List RK → List Value
  | _, [] => []
  | j, .ri k :: ks => .int k (t.vi Φ j ρ) :: treeCells Φ t ρ (j + 1) ks
  | j, .rb :: ks => .bool (t.vb Φ j ρ) :: treeCells Φ t ρ (j + 1) ks
  | j, .rs :: ks => .string (t.vs Φ j ρ) :: treeCells Φ t ρ (j + 1) ks
  | j, .rl v :: ks => v :: treeCells Φ t ρ (j + 1) ks

def AllTyped : List RK → (List Value → Prop) → Prop
  | [], p => p []
  | .ri k :: ks, p => ∀ n : Int, IntKind.has k n → AllTyped ks fun vs => p (.int k n :: vs)
  | .rb :: ks, p => ∀ b : Bool, AllTyped ks fun vs => p (.bool b :: vs)
  | .rs :: ks, p => ∀ s : ByteArray, AllTyped ks fun vs => p (.string s :: vs)
  | .rl _ :: _, _ => True

theorem allTyped : ∀ {ks : List RK} {p : List Value → Prop}, AllTyped ks p → ∀ vs, TypedCells ks vs → p vs
  | [], p, h, [], _ => h
  | .ri k :: ks, p, h, v :: vs, ht => by
    obtain ⟨⟨n, rfl, hn⟩, h2⟩ := ht
    exact allTyped (h n hn) vs h2
  | .rb :: ks, p, h, v :: vs, ht => by
    obtain ⟨⟨n, rfl⟩, h2⟩ := ht
    exact allTyped (h n) vs h2
  | .rs :: ks, p, h, v :: vs, ht => by
    obtain ⟨⟨n, rfl⟩, h2⟩ := ht
    exact allTyped (h n) vs h2
  | .rl _ :: ks, p, h, v :: vs, ht => by
    obtain ⟨h1, h2⟩ := ht
    exact h1.elim
  | [], p, h, _ :: _, ht => ht.elim
  | .ri _ :: _, p, h, [], ht => ht.elim
  | .rb :: _, p, h, [], ht => ht.elim
  | .rs :: _, p, h, [], ht => ht.elim
  | .rl _ :: _, p, h, [], ht => ht.elim

def allL : List Prop → Prop
  | [] => True
  | p :: l => p ∧ allL l
theorem obl_nil {l : List Prop} (h : l = []) : ∀ p ∈ l, p := fun p hp => by (rw [h] at hp; cases hp)
theorem allL_mem : ∀ {l : List Prop}, allL l → ∀ p ∈ l, p
  | [], _, p, hp => by cases hp
  | q :: l, h, p, hp => by
    rcases List.mem_cons.1 hp with rfl | hp
    · exact h.1
    · exact allL_mem h.2 p hp
theorem obl_list {l m : List Prop} (h : l = m) (hm : allL m) : ∀ p ∈ l, p := fun p hp => by (rw [h] at hp; exact allL_mem hm p hp)

theorem valKs_like : ∀ (ks : List RK) (vs : List Value) (x : Nat) (ρ : Env), Env.like x ρ (valKs ks vs x ρ)
  | [], _, x, ρ => .refl _ _
  | _ :: _, [], x, ρ => .refl _ _
  | k :: ks, v :: vs, x, ρ => by
    have h0 : ∀ ρ', Env.like x ρ ρ' → Env.like x ρ (valKs ks vs (x + 1) ρ') := fun ρ' h => h.trans (valKs_like ks vs (x + 1) ρ') (Nat.le_succ x)
    have h9 : Env.like x ρ (valKs ks vs (x + 1) ρ) := h0 _ (.refl _ _)
    cases k with
    | ri k => cases v <;> first | exact h9 | exact h0 _ (like_setI ρ x _)
    | rb => cases v <;> first | exact h9 | exact h0 _ (like_setB ρ x _)
    | rs => cases v <;> first | exact h9 | exact h0 _ (like_setS ρ x _)
    | rl _ => (cases v <;> exact h9)

theorem valKs_den (ι : Loc) : ∀ (ks : List RK) (vs : List Value) (x : Nat) (ρ : Env), TypedCells ks vs →
    (sumCells x ks).map (SC.den (valKs ks vs x ρ) ι) = vs
  | [], [], x, ρ, _ => rfl
  | .ri k :: ks, v :: vs, x, ρ, ht => by
    obtain ⟨⟨n, rfl, hn⟩, h2⟩ := ht
    simp only [sumCells, List.map_cons, valKs, valKs_den ι ks vs (x + 1) _ h2]
    congr 1
    simp only [SC.den]
    rw [(valKs_like ks vs (x + 1) (ρ.setI x n) x (Nat.lt_succ_self x)).1]
    simp [Env.setI]
  | .rb :: ks, v :: vs, x, ρ, ht => by
    obtain ⟨⟨n, rfl⟩, h2⟩ := ht
    simp only [sumCells, List.map_cons, valKs, valKs_den ι ks vs (x + 1) _ h2]
    congr 1
    simp only [SC.den, turn]
    rw [(valKs_like ks vs (x + 1) (ρ.setB x n) x (Nat.lt_succ_self x)).2.1]
    simp [Env.setB]
  | .rs :: ks, v :: vs, x, ρ, ht => by
    obtain ⟨⟨n, rfl⟩, h2⟩ := ht
    simp only [sumCells, List.map_cons, valKs, valKs_den ι ks vs (x + 1) _ h2]
    congr 1
    simp only [SC.den]
    rw [(valKs_like ks vs (x + 1) (ρ.setS x n) x (Nat.lt_succ_self x)).2.2]
    simp [Env.setS]
  | .rl _ :: ks, v :: vs, x, ρ, ht => ht.1.elim
  | [], _ :: _, x, ρ, ht => ht.elim
  | .ri _ :: _, [], x, ρ, ht => ht.elim
  | .rb :: _, [], x, ρ, ht => ht.elim
  | .rs :: _, [], x, ρ, ht => ht.elim
  | .rl _ :: _, [], x, ρ, ht => ht.elim

theorem valKs_ty : ∀ (ks : List RK) (vs : List Value) (x : Nat) (T : KT) (ρ : Env), TypedCells ks vs → tyOk T ρ → tyOk (ksSet ks x T) (valKs ks vs x ρ)
  | [], [], x, T, ρ, _, h => h
  | .ri k :: ks, v :: vs, x, T, ρ, ht, h => by
    obtain ⟨⟨n, rfl, hn⟩, h2⟩ := ht
    exact valKs_ty ks vs (x + 1) _ _ h2 (tyOk_setI h hn x)
  | .rb :: ks, v :: vs, x, T, ρ, ht, h => by
    obtain ⟨⟨n, rfl⟩, h2⟩ := ht
    exact valKs_ty ks vs (x + 1) _ _ h2 (tyOk_setB h n x)
  | .rs :: ks, v :: vs, x, T, ρ, ht, h => by
    obtain ⟨⟨n, rfl⟩, h2⟩ := ht
    exact valKs_ty ks vs (x + 1) _ _ h2 (tyOk_setS h n x)
  | .rl _ :: ks, v :: vs, x, T, ρ, ht, h => ht.1.elim
  | [], _ :: _, x, T, ρ, ht, h => ht.elim
  | .ri _ :: _, [], x, T, ρ, ht, h => ht.elim
  | .rb :: _, [], x, T, ρ, ht, h => ht.elim
  | .rs :: _, [], x, T, ρ, ht, h => ht.elim
  | .rl _ :: _, [], x, T, ρ, ht, h => ht.elim

theorem sumCells_length : ∀ (ks : List RK) (x : Nat), (sumCells x ks).length = ks.length
  | [], x => rfl
  | .ri _ :: ks, x => by simp [sumCells, sumCells_length ks]
  | .rb :: ks, x => by simp [sumCells, sumCells_length ks]
  | .rs :: ks, x => by simp [sumCells, sumCells_length ks]
  | .rl _ :: ks, x => by simp [sumCells, sumCells_length ks]
theorem sumCells_append : ∀ (ks ms : List RK) (x : Nat), sumCells x (ks ++ ms) = sumCells x ks ++ sumCells (x + ks.length) ms
  | [], ms, x => by simp [sumCells]
  | .ri _ :: ks, ms, x => by
    simp only [List.cons_append, sumCells, sumCells_append ks ms, List.length_cons]
    rw [show x + 1 + ks.length = x + (ks.length + 1) by omega]
  | .rb :: ks, ms, x => by
    simp only [List.cons_append, sumCells, sumCells_append ks ms, List.length_cons]
    rw [show x + 1 + ks.length = x + (ks.length + 1) by omega]
  | .rs :: ks, ms, x => by
    simp only [List.cons_append, sumCells, sumCells_append ks ms, List.length_cons]
    rw [show x + 1 + ks.length = x + (ks.length + 1) by omega]
  | .rl _ :: ks, ms, x => by
    simp only [List.cons_append, sumCells, sumCells_append ks ms, List.length_cons]
    rw [show x + 1 + ks.length = x + (ks.length + 1) by omega]

theorem symArgs_cells : ∀ (l : List (Bool × List RK)) (x : Nat), argsWf l = true → (symArgs l x).flatMap SW.cells = sumCells x (l.flatMap (·.2))
  | [], x, _ => rfl
  | (false, [k]) :: l, x, h => by
    simp only [argsWf] at h
    simp only [symArgs, List.flatMap_cons, SW.cells, sumCells_append, symArgs_cells l _ h]
    congr 1
    cases k <;> rfl
  | (true, ks) :: l, x, h => by
    simp only [argsWf] at h
    simp only [symArgs, List.flatMap_cons, SW.cells, sumCells_append, symArgs_cells l _ h]
  | (false, []) :: _, x, h => by simp [argsWf] at h
  | (false, _ :: _ :: _) :: _, x, h => by simp [argsWf] at h

theorem symArgs_den (ρ : Env) (ι : Loc) : ∀ (l : List (Bool × List RK)) (x : Nat), argsWf l = true →
    (symArgs l x).map (SW.den ρ ι) = packArgs l ((sumCells x (l.flatMap (·.2))).map (SC.den ρ ι))
  | [], x, _ => rfl
  | (false, [k]) :: l, x, h => by
    simp only [argsWf] at h
    simp only [symArgs, List.flatMap_cons, List.map_cons, sumCells_append, List.map_append, symArgs_den ρ ι l _ h]
    cases k <;> rfl
  | (true, ks) :: l, x, h => by
    simp only [argsWf] at h
    simp only [symArgs, List.flatMap_cons, List.map_cons, sumCells_append, List.map_append, symArgs_den ρ ι l _ h, packArgs, SW.den]
    congr 1
    · rw [List.take_left' (by simp [sumCells_length])]
    · rw [List.drop_left' (by simp [sumCells_length])]
  | (false, []) :: _, x, h => by simp [argsWf] at h
  | (false, _ :: _ :: _) :: _, x, h => by simp [argsWf] at h

theorem sumCells_bare : ∀ (ks : List RK) (x : Nat), (sumCells x ks).all bareSC = true
  | [], x => rfl
  | .ri _ :: ks, x => by simp [sumCells, bareSC]; exact fun c hc => List.all_eq_true.1 (sumCells_bare ks (x + 1)) c hc
  | .rb :: ks, x => by simp [sumCells, bareSC]; exact fun c hc => List.all_eq_true.1 (sumCells_bare ks (x + 1)) c hc
  | .rs :: ks, x => by simp [sumCells, bareSC]; exact fun c hc => List.all_eq_true.1 (sumCells_bare ks (x + 1)) c hc
  | .rl _ :: ks, x => by simp [sumCells, bareSC]; exact fun c hc => List.all_eq_true.1 (sumCells_bare ks (x + 1)) c hc
theorem sumCells_lt : ∀ (ks : List RK) (x n : Nat), x + ks.length ≤ n → (sumCells x ks).all (SC.lt n) = true
  | [], x, n, _ => rfl
  | .ri _ :: ks, x, n, h => by
    simp only [List.length_cons] at h
    simp only [sumCells, List.all_cons, sumCells_lt ks (x + 1) n (by omega), Bool.and_true, SC.lt]
    simp; omega
  | .rb :: ks, x, n, h => by
    simp only [List.length_cons] at h
    simp only [sumCells, List.all_cons, sumCells_lt ks (x + 1) n (by omega), Bool.and_true, SC.lt]
    simp; omega
  | .rs :: ks, x, n, h => by
    simp only [List.length_cons] at h
    simp only [sumCells, List.all_cons, sumCells_lt ks (x + 1) n (by omega), Bool.and_true, SC.lt]
    simp; omega
  | .rl _ :: ks, x, n, h => by
    simp only [List.length_cons] at h
    simp only [sumCells, List.all_cons, sumCells_lt ks (x + 1) n (by omega), Bool.and_true, SC.lt]

theorem bare_of_cells {l : List SW} (h : (l.flatMap SW.cells).all bareSC = true) : l.all bareSW = true := by
  rw [List.all_eq_true] at h ⊢
  exact fun x hx => List.all_eq_true.2 fun c hc => h c (List.mem_flatMap.2 ⟨x, hx, hc⟩)

theorem kindSC_bare {k : RK} {c : SC} (h : kindSC k c = true) : bareSC c = true := by
  cases c <;> cases k <;> simp [kindSC, bareSC] at * 
theorem kindsSC_bare : ∀ {ks : List RK} {cs : List SC}, kindsSC ks cs = true → cs.all bareSC = true
  | [], [], _ => rfl
  | k :: ks, c :: cs, h => by
    simp only [kindsSC, Bool.and_eq_true] at h
    simp only [List.all_cons, kindSC_bare h.1, kindsSC_bare h.2, Bool.and_true]
  | [], _ :: _, h => by simp [kindsSC] at h
  | _ :: _, [], h => by simp [kindsSC] at h

theorem shapeFit_den (ρ : Env) (ι : Loc) : ∀ {sh : List (Bool × Nat)} {l : List SW}, shapeFit sh l = true → l.map (SW.den ρ ι) = packRes sh ((l.flatMap SW.cells).map (SC.den ρ ι))
  | [], [], _ => rfl
  | (true, n) :: sh, .agg xs :: l, h => by
    simp only [shapeFit, Bool.and_eq_true] at h
    have hn : xs.length = n := by simpa using h.1
    simp only [List.map_cons, List.flatMap_cons, SW.cells, List.map_append, packRes, SW.den, shapeFit_den ρ ι h.2]
    congr 1
    · rw [List.take_left' (by simp [hn])]
    · rw [List.drop_left' (by simp [hn])]
  | (false, _) :: sh, .c x :: l, h => by
    simp only [shapeFit] at h
    simp only [List.map_cons, List.flatMap_cons, SW.cells, List.map_append, packRes, SW.den, shapeFit_den ρ ι h]
    rfl
  | [], _ :: _, h => by simp [shapeFit] at h
  | (true, _) :: _, [], h => by simp [shapeFit] at h
  | (false, _) :: _, [], h => by simp [shapeFit] at h
  | (true, _) :: _, .c _ :: _, h => by simp [shapeFit] at h
  | (false, _) :: _, .agg _ :: _, h => by simp [shapeFit] at h

theorem tupFit_den {s : Sum} {v : SV} (h : tupFit s v = true) (ρ : Env) (ι : Loc) : v.den ρ ι = sumRes s (v.flat.map (SC.den ρ ι)) := by
  cases v with
  | w x =>
    simp only [tupFit, Bool.and_eq_true] at h
    have h1 : s.tup = false := by simpa using h.1
    have := shapeFit_den ρ ι h.2
    simp only [sumRes, h1, Bool.false_eq_true, if_false, SV.flat, SV.parts, ← this]
    rfl
  | tup xs =>
    simp only [tupFit, Bool.and_eq_true] at h
    have := shapeFit_den ρ ι h.2
    simp only [sumRes, h.1, if_true, SV.flat, SV.parts, ← this]
    rfl

theorem kindSC_vi {k : IntKind} {c : SC} (h : kindSC (.ri k) c = true) (ρ : Env) (ι : Loc) : c.den ρ ι = .int k (c.vi ρ) := by
  cases c with
  | lit v =>
    cases v <;> simp [kindSC] at h
    obtain ⟨⟨h1, _⟩, _⟩ := h
    rw [kindEq_true] at h1
    subst h1
    rfl
  | ivar k' x =>
    simp only [kindSC] at h
    rw [kindEq_true] at h
    subst h
    rfl
  | _ => simp [kindSC] at h
theorem kindSC_vb {c : SC} (h : kindSC .rb c = true) (ρ : Env) (ι : Loc) : c.den ρ ι = .bool (c.vb ρ) := by
  cases c with
  | lit v => cases v <;> simp [kindSC] at h; rfl
  | bvar x g => rfl
  | _ => simp [kindSC] at h
theorem kindSC_vs {c : SC} (h : kindSC .rs c = true) (ρ : Env) (ι : Loc) : c.den ρ ι = .string (c.vs ρ) := by
  cases c with
  | lit v => cases v <;> simp [kindSC] at h; rfl
  | svar x => rfl
  | _ => simp [kindSC] at h

theorem kindsSC_tree {Φ : Phi} {t : LT} {ρ0 ρ' : Env} {v : SV} (hat : t.at Φ ρ0 = some (v, ρ')) : ∀ (ks : List RK) (cs : List SC) (j : Nat), kindsSC ks cs = true → (∀ i, nthC cs i = nthC v.flat (j + i)) →
    cs.map (SC.den ρ' noloc) = treeCells Φ t ρ0 j ks
  | [], [], j, _, _ => rfl
  | k :: ks, c :: cs, j, h, he => by
    simp only [kindsSC, Bool.and_eq_true] at h
    have h0 : c = nthC v.flat j := by simpa [nthC] using he 0
    have h1 := kindsSC_tree hat ks cs (j + 1) h.2 fun i => by
      have := he (i + 1)
      simp only [nthC, List.getElem?_cons_succ] at this ⊢
      rw [this]
      congr 2
      omega
    cases k with
    | ri k =>
      simp only [List.map_cons, h1, treeCells, LT.vi, LT.get_at Φ _ _ j t ρ0 hat, ← h0, kindSC_vi h.1]
    | rb => simp only [List.map_cons, h1, treeCells, LT.vb, LT.get_at Φ _ _ j t ρ0 hat, ← h0, kindSC_vb h.1]
    | rs => simp only [List.map_cons, h1, treeCells, LT.vs, LT.get_at Φ _ _ j t ρ0 hat, ← h0, kindSC_vs h.1]
    | rl v => exact absurd h.1 (by cases c <;> simp [kindSC])
  | [], _ :: _, _, h, _ => by simp [kindsSC] at h
  | _ :: _, [], _, h, _ => by simp [kindsSC] at h

theorem kindsSC_at : ∀ {ks : List RK} {cs : List SC}, kindsSC ks cs = true → ∀ {j : Nat} {k : RK}, ks[j]? = some k → kindSC k (nthC cs j) = true
  | k :: ks, c :: cs, h, 0, k', hk => by
    simp only [kindsSC, Bool.and_eq_true] at h
    simp only [List.getElem?_cons_zero, Option.some.injEq] at hk
    subst hk
    exact h.1
  | k :: ks, c :: cs, h, j + 1, k', hk => by
    simp only [kindsSC, Bool.and_eq_true] at h
    simp only [List.getElem?_cons_succ] at hk
    exact kindsSC_at h.2 hk
  | [], _, h, j, k', hk => by simp at hk
  | _ :: _, [], h, _, _, _ => by simp [kindsSC] at h

theorem cells_phi {Φ : Phi} {t : LT} {ρ : Env} {f : Nat} {vs : List Value} : ∀ (ks : List RK) (m j : Nat) (k : IntKind), phiCells Φ f vs m ks = treeCells Φ t ρ m ks → ks[j]? = some (.ri k) → Φ.i f vs (m + j) = t.vi Φ (m + j) ρ
  | .ri k' :: ks, m, 0, k, h, hk => by
    simp only [phiCells, treeCells, List.cons.injEq, Value.int.injEq, true_and] at h
    exact h.1
  | .ri k' :: ks, m, j + 1, k, h, hk => by
    simp only [phiCells, treeCells, List.cons.injEq] at h
    have := cells_phi ks (m + 1) j k h.2 (by simpa using hk)
    rwa [show m + 1 + j = m + (j + 1) by omega] at this
  | .rb :: ks, m, j + 1, k, h, hk => by
    simp only [phiCells, treeCells, List.cons.injEq] at h
    have := cells_phi ks (m + 1) j k h.2 (by simpa using hk)
    rwa [show m + 1 + j = m + (j + 1) by omega] at this
  | .rs :: ks, m, j + 1, k, h, hk => by
    simp only [phiCells, treeCells, List.cons.injEq] at h
    have := cells_phi ks (m + 1) j k h.2 (by simpa using hk)
    rwa [show m + 1 + j = m + (j + 1) by omega] at this
  | .rl v :: ks, m, j + 1, k, h, hk => by
    simp only [phiCells, treeCells, List.cons.injEq] at h
    have := cells_phi ks (m + 1) j k h.2 (by simpa using hk)
    rwa [show m + 1 + j = m + (j + 1) by omega] at this
  | .rb :: ks, m, 0, k, h, hk => by simp at hk
  | .rs :: ks, m, 0, k, h, hk => by simp at hk
  | .rl v :: ks, m, 0, k, h, hk => by simp at hk
  | [], m, j, k, h, hk => by simp at hk

structure CtxT (P : Program) (Φ : Phi) (C : Ctx) : Prop where
  tys : TysOk P C.tys
  fns : FnsOk P C.fns
  sums : SumsT P Φ C.sums
  mix : P.follows .mixedOrders = true
theorem CtxT.ok {P : Program} {Φ : Phi} {C : Ctx} (h : CtxT P Φ C) : CtxOk P Φ C := ⟨h.tys, h.fns, fun f s hf => (h.sums f s hf).ok, h.mix⟩
theorem SumsT.e {P : Program} {Φ : Phi} : SumsT P Φ .e := fun f s h => by rw [Tr.get_e] at h; cases h
theorem SumsT.set {P : Program} {Φ : Phi} {t : Tr Sum} (h : SumsT P Φ t) {f : Nat} {s : Sum} (hs : SumT P Φ f s) : SumsT P Φ (t.set f s) := fun g q hg => by
  rw [Tr.get_set] at hg
  split at hg
  · rename_i e
    simp only [Option.some.injEq] at hg
    subst hg; subst e
    exact hs
  · exact h g q hg

/-- **A function is what its tree tells.** -/
theorem treeSum {P : Program} {Φ : Phi} {C : Ctx} (hC : CtxT P Φ C) {lf d f : Nat} {s : Sum} {t : LT} (can : Callable P f)
    (hok : t.Ok (fun ds => fnRun C lf d f (symArgs s.args 0) (st0 ds (argKs s).length)) [] [])
    (hchk : (argsWf s.args && t.chk C.sums s (ksSet (argKs s) 0 .e) (argKs s).length) = true)
    (hval : AllTyped (argKs s) fun vs => (∀ p ∈ t.obl Φ C.sums (fun p => p) (ksSet (argKs s) 0 .e) (argKs s).length .e (envOf (argKs s) vs), p)
      ∧ phiCells Φ f vs 0 s.ks = treeCells Φ t (envOf (argKs s) vs) 0 s.ks) : SumT P Φ f s := by
  simp only [Bool.and_eq_true] at hchk
  have key : ∀ vs, TypedCells (argKs s) vs → ∃ ds' v log' ρ' T', ans (fnRun C lf d f (symArgs s.args 0) (st0 ds' (argKs s).length)) = some (v, log') ∧ sides Φ log'.reverse (envOf (argKs s) vs) ∧
      evRun Φ log'.reverse (envOf (argKs s) vs) = ρ' ∧ fresh log'.reverse (argKs s).length = true ∧ t.at Φ (envOf (argKs s) vs) = some (v, ρ') ∧ leafOk s T' v = true ∧ tyOk T' ρ' := fun vs ht =>
    LT.path hC.sums _ _ t [] [] (fun p => p) _ _ .e _ hok hchk.2 (fun p hp => hp) (allTyped hval vs ht).1
      (valKs_ty _ vs 0 .e env0 ht fun x k h => by rw [Tr.get_e] at h; cases h) (FOk.e _ _) trivial rfl (fun m => rfl)
  refine ⟨⟨can, fun vs ht w => ?_⟩, fun vs ht j k hk => ?_⟩
  · obtain ⟨ds', v, log', ρ', T', h1, h2, h3, h4, h5, h6, h7⟩ := key vs ht
    simp only [leafOk, Bool.and_eq_true] at h6
    have hcells := symArgs_cells s.args 0 hchk.1
    have hb1 : bareSV v = true := by
      have h8 := kindsSC_bare h6.1.2
      cases v with
      | w x => exact List.all_eq_true.2 fun c hc => List.all_eq_true.1 h8 c (by simp only [SV.flat, SV.parts, List.flatMap_cons, List.flatMap_nil, List.append_nil]; exact hc)
      | tup xs => exact bare_of_cells h8
    have hb2 : (symArgs s.args 0).all bareSW = true := bare_of_cells (by rw [hcells]; exact sumCells_bare _ _)
    have hden : (symArgs s.args 0).map (SW.den (envOf (argKs s) vs) noloc) = packArgs s.args vs := by
      rw [symArgs_den _ _ _ _ hchk.1]
      congr 1
      exact valKs_den noloc _ vs 0 env0 ht
    rw [← hden]
    refine (way hC.ok h1 (Q := fun x => x = v.den ρ' noloc) (ρ := envOf (argKs s) vs) (by simp only [hb1, hb2, h4, Bool.and_true]) ?_ ?_ w).mono fun e w' ⟨x, a, b, c⟩ => ⟨?_, c⟩
    · rw [chain_iff]
      exact ⟨h2, by rw [h3]⟩
    · rw [hcells]
      exact sumCells_lt _ _ _ (by simp only [argKs]; omega)
    · rw [a, b, tupFit_den h6.1.1, (allTyped hval vs ht).2]
      congr 2
      exact kindsSC_tree h5 s.ks v.flat 0 h6.1.2 fun i => by rw [Nat.zero_add]
  · obtain ⟨ds', v, log', ρ', T', h1, h2, h3, h4, h5, h6, h7⟩ := key vs ht
    simp only [leafOk, Bool.and_eq_true] at h6
    have h8 := cells_phi s.ks 0 j k (allTyped hval vs ht).2 hk
    rw [Nat.zero_add] at h8
    rw [h8, LT.vi, LT.get_at Φ _ _ j t _ h5]
    have h9 := kindsSC_at h6.1.2 hk
    have h10 : (nthC v.flat j).fits ρ' := by
      unfold nthC
      cases hj : v.flat[j]? with
      | none => trivial
      | some c => exact SC.typed_ok h7 (List.all_eq_true.1 h6.2 c (List.mem_of_getElem? hj))
    obtain ⟨⟨n, e1, e2⟩, _⟩ := kindSC_den h9 ρ' h10
    rw [kindSC_vi h9 ρ' noloc] at e1
    simp only [Value.int.injEq, true_and] at e1
    rw [e1]
    exact e2

/-! ### A summary by hand -/
def rngs (Φ : Phi) (f : Nat) (vs : List Value) : Nat → List RK → Prop
  | _, [] => True
  | j, .ri k :: ks => IntKind.has k (Φ.i f vs j) ∧ rngs Φ f vs (j + 1) ks
  | j, _ :: ks => rngs Φ f vs (j + 1) ks
theorem rngs_at {Φ : Phi} {f : Nat} {vs : List Value} : ∀ (ks : List RK) (m j : Nat) (k : IntKind), rngs Φ f vs m ks → ks[j]? = some (.ri k) → IntKind.has k (Φ.i f vs (m + j))
  | .ri k' :: ks, m, 0, k, h, hk => by
    simp only [List.getElem?_cons_zero, Option.some.injEq, RK.ri.injEq] at hk
    subst hk
    exact h.1
  | .ri k' :: ks, m, j + 1, k, h, hk => by
    have := rngs_at ks (m + 1) j k h.2 (by simpa using hk)
    rwa [show m + 1 + j = m + (j + 1) by omega] at this
  | .rb :: ks, m, j + 1, k, h, hk => by
    have := rngs_at ks (m + 1) j k h (by simpa using hk)
    rwa [show m + 1 + j = m + (j + 1) by omega] at this
  | .rs :: ks, m, j + 1, k, h, hk => by
    have := rngs_at ks (m + 1) j k h (by simpa using hk)
    rwa [show m + 1 + j = m + (j + 1) by omega] at this
  | .rl v :: ks, m, j + 1, k, h, hk => by
    have := rngs_at ks (m + 1) j k h (by simpa using hk)
    rwa [show m + 1 + j = m + (j + 1) by omega] at this
  | .rb :: ks, m, 0, k, h, hk => by simp at hk
  | .rs :: ks, m, 0, k, h, hk => by simp at hk
  | .rl v :: ks, m, 0, k, h, hk => by simp at hk
  | [], m, j, k, h, hk => by simp at hk

theorem handSum {P : Program} {Φ : Phi} {f : Nat} {s : Sum} (can : Callable P f)
    (h : AllTyped (argKs s) fun vs => (∀ w, Calls P f (packArgs s.args vs).toArray w fun e w' => e = .returned (sumRes s (phiCells Φ f vs 0 s.ks)) ∧ RowKit.Below w.heap.size w w') ∧ rngs Φ f vs 0 s.ks) : SumT P Φ f s :=
  ⟨⟨can, fun vs ht w => (allTyped h vs ht).1 w⟩, fun vs ht j k hk => by
    have := rngs_at s.ks 0 j k (allTyped h vs ht).2 hk
    rwa [Nat.zero_add] at this⟩
theorem below_eq {w w' : World} (h : w = w') : RowKit.Below w.heap.size w w' := h ▸ RowKit.Below.refl _ _

theorem has_u8 {n : Int} : IntKind.has .u8 n ↔ 0 ≤ n ∧ n < 256 := by
  simp only [IntKind.has, IntKind.min, IntKind.max, IntKind.bits, IntKind.signed]; simp; omega
theorem has_u16 {n : Int} : IntKind.has .u16 n ↔ 0 ≤ n ∧ n < 65536 := by
  simp only [IntKind.has, IntKind.min, IntKind.max, IntKind.bits, IntKind.signed]; simp; omega
theorem has_u32 {n : Int} : IntKind.has .u32 n ↔ 0 ≤ n ∧ n < 4294967296 := by
  simp only [IntKind.has, IntKind.min, IntKind.max, IntKind.bits, IntKind.signed]; simp; omega
theorem has_u64 {n : Int} : IntKind.has .u64 n ↔ 0 ≤ n ∧ n < 18446744073709551616 := by
  simp only [IntKind.has, IntKind.min, IntKind.max, IntKind.bits, IntKind.signed]; simp; omega
theorem has_i8 {n : Int} : IntKind.has .i8 n ↔ -128 ≤ n ∧ n < 128 := by
  simp only [IntKind.has, IntKind.min, IntKind.max, IntKind.bits, IntKind.signed]; simp; omega
theorem has_i16 {n : Int} : IntKind.has .i16 n ↔ -32768 ≤ n ∧ n < 32768 := by
  simp only [IntKind.has, IntKind.min, IntKind.max, IntKind.bits, IntKind.signed]; simp; omega
theorem has_i32 {n : Int} : IntKind.has .i32 n ↔ -2147483648 ≤ n ∧ n < 2147483648 := by
  simp only [IntKind.has, IntKind.min, IntKind.max, IntKind.bits, IntKind.signed]; simp; omega
theorem has_i64 {n : Int} : IntKind.has .i64 n ↔ -9223372036854775808 ≤ n ∧ n < 9223372036854775808 := by
  simp only [IntKind.has, IntKind.min, IntKind.max, IntKind.bits, IntKind.signed]; simp; omega

/-- from a summary to a call -/
theorem SumT.calls {P : Program} {Φ : Phi} {f : Nat} {s : Sum} (h : SumT P Φ f s) {vs : List Value} (ht : TypedCells (argKs s) vs) {as : Array Value} (ha : (packArgs s.args vs).toArray = as)
    {v : Value} (hv : sumRes s (phiCells Φ f vs 0 s.ks) = v) (w : World) : Calls P f as w fun e w' => e = .returned v ∧ RowKit.Below w.heap.size w w' := by
  subst ha hv
  exact h.ok.does vs ht w
#print axioms treeSum
end Go.Sx
