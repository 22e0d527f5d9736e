/-
  The laws FloatSame, FloatOrder, FloatNone, FloatSmall: what they say of plain functions. No program in sight.
-/
import Derived.Test.YtdchnlmclngjmaaDoorFlI
namespace Go.Proofs.YtdchnlmclngjmaaDoor
open Go.Sx
open Ieee (Datum Format Toward)
set_option linter.unusedVariables false
set_option linter.unusedSimpArgs false
set_option maxRecDepth 100000

theorem kind4 {r : Int} (h0 : 0 ≤ r) : kindF r = 4 ↔ 9218868437227405312 < r := by
  unfold kindF
  split
  · omega
  split
  · omega
  split
  · omega
  split <;> omega
theorem sg_int {n : Nat} : sg n = decide (9223372036854775808 ≤ (n : Int)) := by
  unfold sg
  by_cases c : 9223372036854775808 ≤ n
  · rw [decide_eq_true c, decide_eq_true (by omega)]
  · rw [decide_eq_false c, decide_eq_false (by omega)]
theorem one_read : Ieee.double.read 4607182418800017408 = .number false 4503599627370496 (-52) := by decide +kernel
theorem two_read : Ieee.double.read 4611686018427387904 = .number false 4503599627370496 (-51) := by decide +kernel
theorem zero_read : Ieee.double.read 0 = .number false 0 (-1074) := by decide +kernel
theorem wd_inf {n : Nat} (h : n < 18446744073709551616) (hr : n % 9223372036854775808 = 9218868437227405312) : wd (sg n) 9218868437227405312 = n := by
  unfold wd sg
  by_cases c : 9223372036854775808 ≤ n
  · rw [decide_eq_true c, if_pos rfl]; omega
  · rw [decide_eq_false c, if_neg (by decide)]; omega
theorem two52 : (4503599627370496 : Nat) = 2 ^ 52 := by decide

/-- the kinds of a word that is a number -/
theorem num_cases {n : Nat} (h : n < 18446744073709551616) (hr : n % 9223372036854775808 ≤ 9218868437227405312) :
    (∃ m p, Ieee.double.read n = .number (sg n) m p ∧ Ieee.double.nearest (sg n) m p = n ∧ m < 9007199254740992 ∧ -1074 ≤ p ∧ p ≤ 971 ∧ (m = 0 ↔ n % 9223372036854775808 = 0)) ∨ (Ieee.double.read n = .infinity (sg n) ∧ wd (sg n) 9218868437227405312 = n) := by
  by_cases c : n % 9223372036854775808 < 9218868437227405312
  · exact Or.inl (fin_word h c)
  · have e : n % 9223372036854775808 = 9218868437227405312 := by omega
    exact Or.inr ⟨read_inf h e, wd_inf h e⟩
theorem same_mul {n : Nat} (h : n < 18446744073709551616) (hr : n % 9223372036854775808 ≤ 9218868437227405312) : arith .mul (n : Int) 4607182418800017408 = n := by
  rw [arith_mul]
  have e1 : ((n : Int)).toNat = n := rfl
  have e2 : (4607182418800017408 : Int).toNat = 4607182418800017408 := rfl
  rw [e1, e2, one_read]
  rcases num_cases h hr with ⟨m, p, hd, hn, -⟩ | ⟨hd, hw⟩
  · rw [hd]
    show outD (some (.number (sg n ^^ false) (m * 4503599627370496) (p + -52))) = _
    rw [out_num, two52, near_scale, Bool.xor_false, show p + -52 + ((52 : Nat) : Int) = p by omega, hn]
  · rw [hd]
    show outD (some (.infinity (sg n ^^ false))) = _
    rw [out_inf, Bool.xor_false, hw]
theorem same_div {n : Nat} (h : n < 18446744073709551616) (hr : n % 9223372036854775808 ≤ 9218868437227405312) : arith .quo (n : Int) 4607182418800017408 = n := by
  rw [arith_div]
  have e1 : ((n : Int)).toNat = n := rfl
  have e2 : (4607182418800017408 : Int).toNat = 4607182418800017408 := rfl
  rw [e1, e2, one_read]
  rcases num_cases h hr with ⟨m, p, hd, hn, hm, hp, -⟩ | ⟨hd, hw⟩
  · rw [hd]
    have hl52 : (4503599627370496 : Nat).log2 = 52 := by decide +kernel
    have hl : m.log2 ≤ 52 := by
      by_cases z : m = 0
      · subst z; decide
      · have := log2_lt (k := 53) z (by have : (2 : Nat) ^ 53 = 9007199254740992 := by decide
                                        rw [this]; exact hm)
        omega
    have hq : Datum.quotient 54 (.number (sg n) m p) (.number false 4503599627370496 (-52)) = some (.number (sg n ^^ false) (m * 2 ^ (3 + (52 - m.log2))) (p - ((3 + (52 - m.log2) : Nat) : Int))) := by
      unfold Datum.quotient
      simp only [hl52]
      rw [if_neg (show ¬ (4503599627370496 : Nat) = 0 by decide)]
      have e3 : 54 + 52 - m.log2 = 54 + (52 - m.log2) := by omega
      have e4 : m <<< (54 + (52 - m.log2)) = m * 2 ^ (2 + (52 - m.log2)) * 4503599627370496 := by
        rw [Nat.shiftLeft_eq, two52, Nat.mul_assoc, ← Nat.pow_add]; congr 2; omega
      rw [e3, e4, Nat.mul_div_cancel _ (by decide), Nat.mul_mod_left]
      have e5 : 2 * (m * 2 ^ (2 + (52 - m.log2))) = m * 2 ^ (3 + (52 - m.log2)) := by
        rw [Nat.mul_comm 2, Nat.mul_assoc, show 3 + (52 - m.log2) = 2 + (52 - m.log2) + 1 by omega, Nat.pow_succ]
      have e6 : ((0 : Nat) != 0).toNat = 0 := by decide
      have e7 : p - -52 - ((54 + (52 - m.log2) : Nat) : Int) - 1 = p - ((3 + (52 - m.log2) : Nat) : Int) := by omega
      rw [e5, e6, e7, Nat.add_zero]
    rw [hq, out_num, near_scale, Bool.xor_false]
    rw [show p - ((3 + (52 - m.log2) : Nat) : Int) + ((3 + (52 - m.log2) : Nat) : Int) = p by omega, hn]
  · rw [hd]
    show outD (some (.infinity (sg n ^^ false))) = _
    rw [out_inf, Bool.xor_false, hw]

theorem signed_abs (s : Bool) (m k : Nat) : (Ieee.signed s m k).natAbs = m * 2 ^ k := by
  unfold Ieee.signed
  rw [Nat.shiftLeft_eq]
  cases s
  · simp only [Bool.false_eq_true, if_false]; exact Int.natAbs_natCast _
  · simp only [if_true]; rw [Int.natAbs_neg]; exact Int.natAbs_natCast _
theorem signed_zero (s : Bool) (k : Nat) : Ieee.signed s 0 k = 0 := by
  unfold Ieee.signed
  rw [Nat.zero_shiftLeft]
  cases s <;> simp
theorem signed_neg (s : Bool) {m : Nat} (hm : m ≠ 0) (k : Nat) : Ieee.signed s m k ≠ 0 ∧ decide (Ieee.signed s m k < 0) = s := by
  have h : 0 < m <<< k := by
    rw [Nat.shiftLeft_eq]
    exact Nat.mul_pos (by omega) (Nat.two_pow_pos k)
  unfold Ieee.signed
  cases s
  · simp only [Bool.false_eq_true, if_false]
    exact ⟨by omega, decide_eq_false (by omega)⟩
  · simp only [if_true]
    exact ⟨by omega, decide_eq_true (by omega)⟩
/-- nothing added -/
theorem sum_zero (s t : Bool) (m : Nat) {p : Int} (hp : -1074 ≤ p) :
    Datum.sum (.number s m p) (.number t 0 (-1074)) = some (.number (if m = 0 then s && t else s) (m * 2 ^ (p + 1074).toNat) (-1074)) := by
  unfold Datum.sum
  have hb : min p (-1074) = -1074 := by omega
  simp only [hb, signed_zero, Int.add_zero, signed_abs]
  have e : (p - -1074).toNat = (p + 1074).toNat := by omega
  rw [e]
  by_cases z : m = 0
  · subst z
    rw [signed_zero, if_pos rfl, if_pos rfl]
  · obtain ⟨h1, h2⟩ := signed_neg s z (p + 1074).toNat
    rw [if_neg h1, if_neg z, h2]
theorem near_back (s : Bool) (m : Nat) {p : Int} (hp : -1074 ≤ p) : Ieee.double.nearest s (m * 2 ^ (p + 1074).toNat) (-1074) = Ieee.double.nearest s m p := by
  rw [near_scale, show -1074 + (((p + 1074).toNat : Nat) : Int) = p by omega]
/-- twice -/
theorem sum_self (s : Bool) (m : Nat) (p : Int) : Datum.sum (.number s m p) (.number s m p) = some (.number s (m * 2 ^ 1) p) := by
  unfold Datum.sum
  have hb : min p p = p := by omega
  have e : (p - p).toNat = 0 := by omega
  simp only [hb, e]
  by_cases z : m = 0
  · subst z
    rw [signed_zero]
    cases s <;> rfl
  · obtain ⟨h1, h2⟩ := signed_neg s z 0
    have ha := signed_abs s m 0
    generalize Ieee.signed s m 0 = x at *
    have h3 : decide (x + x < 0) = s := by
      refine Eq.trans ?_ h2
      by_cases c : x < 0
      · rw [decide_eq_true c, decide_eq_true (by omega)]
      · rw [decide_eq_false c, decide_eq_false (by omega)]
    have h4 : (x + x).natAbs = m * 2 ^ 1 := by
      rw [Nat.pow_zero, Nat.mul_one] at ha
      rw [Nat.pow_one]; omega
    rw [if_neg (by omega), h3, h4]
theorem same_sub {n : Nat} (h : n < 18446744073709551616) (hr : n % 9223372036854775808 ≤ 9218868437227405312) : arith .sub (n : Int) 0 = n := by
  rw [arith_sub]
  have e1 : ((n : Int)).toNat = n := rfl
  have e2 : (0 : Int).toNat = 0 := rfl
  rw [e1, e2, zero_read]
  rcases num_cases h hr with ⟨m, p, hd, hn, hm, hp, -, hz⟩ | ⟨hd, hw⟩
  · rw [hd]
    show outD (Datum.sum (.number (sg n) m p) (.number true 0 (-1074))) = _
    rw [sum_zero _ _ _ hp, out_num, Bool.and_true, ite_self, near_back _ _ hp, hn]
  · rw [hd]
    show outD (some (.infinity (sg n))) = _
    rw [out_inf, hw]
theorem same_two {n : Nat} (h : n < 18446744073709551616) (hr : n % 9223372036854775808 ≤ 9218868437227405312) : arith .mul (n : Int) 4611686018427387904 = arith .add n n := by
  rw [arith_mul, arith_add]
  have e1 : ((n : Int)).toNat = n := rfl
  have e2 : (4611686018427387904 : Int).toNat = 4611686018427387904 := rfl
  rw [e1, e2, two_read]
  rcases num_cases h hr with ⟨m, p, hd, hn, hm, hp, -, hz⟩ | ⟨hd, hw⟩
  · rw [hd, sum_self]
    show outD (some (.number (sg n ^^ false) (m * 4503599627370496) (p + -51))) = _
    rw [out_num, out_num, two52, near_scale, near_scale, Bool.xor_false, show p + -51 + ((52 : Nat) : Int) = p + ((1 : Nat) : Int) by omega]
  · rw [hd]
    show outD (some (.infinity (sg n ^^ false))) = outD (if sg n = sg n then some (.infinity (sg n)) else none)
    rw [if_pos rfl, Bool.xor_false]
theorem fNeg_eq {a : Int} (h : 0 ≤ a ∧ a < 18446744073709551616) : fNeg a = if a < 9223372036854775808 then a + 9223372036854775808 else a - 9223372036854775808 := by
  obtain ⟨n, rfl⟩ : ∃ n : Nat, a = n := ⟨a.toNat, by omega⟩
  show IntKind.u64.wrap (((BitVec.ofInt 64 (n : Int) ^^^ BitVec.ofInt 64 9223372036854775808).toNat : Nat) : Int) = _
  rw [BitVec.toNat_xor, BitVec.toNat_ofInt, BitVec.toNat_ofInt]
  have e1 : ((n : Int) % ((2 ^ 64 : Nat) : Int)).toNat = n := by
    have : ((2 ^ 64 : Nat) : Int) = 18446744073709551616 := by decide
    rw [this]; omega
  have e2 : ((9223372036854775808 : Int) % ((2 ^ 64 : Nat) : Int)).toNat = 2 ^ 63 * 1 + 0 := by decide
  rw [e1, e2]
  have tb (A l : Nat) (hl : l < 2 ^ 63) : (2 ^ 63 * A + l) ^^^ (2 ^ 63 * 1 + 0) = 2 ^ 63 * (A ^^^ 1) + l := by
    apply Nat.eq_of_testBit_eq
    intro i
    rw [Nat.testBit_xor, Nat.testBit_two_pow_mul_add _ hl, Nat.testBit_two_pow_mul_add _ (Nat.two_pow_pos 63), Nat.testBit_two_pow_mul_add _ hl]
    split
    · simp
    · rw [Nat.testBit_xor]
  have p63 : (2 : Nat) ^ 63 = 9223372036854775808 := by decide
  by_cases c : n < 9223372036854775808
  · have := tb 0 n (by rw [p63]; exact c)
    rw [Nat.mul_zero, Nat.zero_add] at this
    rw [this, if_pos (by omega), p63, show (0 ^^^ 1 : Nat) = 1 by decide, IntKind.wrap_u64]
    omega
  · have := tb 1 (n - 9223372036854775808) (by rw [p63]; omega)
    have e3 : 2 ^ 63 * 1 + (n - 9223372036854775808) = n := by rw [p63]; omega
    rw [e3] at this
    rw [this, if_neg (by omega), p63, show (1 ^^^ 1 : Nat) = 0 by decide, IntKind.wrap_u64]
    omega
theorem FloatSame_true {a0 : Int} (h0 : IntKind.has .u64 a0) : FloatSame a0 = true := by
  have b0 := has_u64.1 h0
  unfold FloatSame
  rw [known_true, cond_true, fKind_eq b0]
  simp only [ic_eq, ic_ne]
  by_cases c : kindF (a0 % 9223372036854775808) = 4
  · rw [decide_eq_true c]; rfl
  · rw [decide_eq_false c, cond_false]
    have hr : ¬ 9218868437227405312 < a0 % 9223372036854775808 := fun q => c ((kind4 (by omega)).2 q)
    have hn := fNeg_eq b0
    have ha : fAbs (fNeg a0) = fAbs a0 := by rw [fAbs_eq, fAbs_eq, hn]; split <;> omega
    have hne : ¬ fNeg a0 = a0 := by rw [hn]; split <;> omega
    obtain ⟨n, rfl⟩ : ∃ n : Nat, a0 = n := ⟨a0.toNat, by omega⟩
    have h1 : n < 18446744073709551616 := by omega
    have h2 : n % 9223372036854775808 ≤ 9218868437227405312 := by omega
    have m1 : fMul (n : Int) 4607182418800017408 = n := same_mul h1 h2
    have m2 : fDiv (n : Int) 4607182418800017408 = n := same_div h1 h2
    have m3 : fSub (n : Int) 0 = n := same_sub h1 h2
    have m4 : fMul (n : Int) 4611686018427387904 = fAdd n n := same_two h1 h2
    rw [m1, m2, m3, m4, ha]
    simp [hne]

/-! ### Order -/
theorem cmpI (a b : Int) : compare a b = if a < b then .lt else if a = b then .eq else .gt := by
  simp [compare, compareOfLessAndEq]
theorem cmp_swap (a b : Int) : compare b a = (compare a b).swap := by
  rw [cmpI, cmpI]
  by_cases h1 : a < b
  · rw [if_neg (by omega), if_neg (by omega), if_pos h1]; rfl
  · by_cases h2 : a = b
    · subst h2; rw [if_neg h1, if_pos rfl]; rfl
    · rw [if_pos (by omega), if_neg h1, if_neg h2]; rfl
theorem cmp_negs (a b : Int) : compare (-b) (-a) = compare a b := by
  rw [cmpI, cmpI]
  by_cases h1 : a < b
  · rw [if_pos (by omega), if_pos h1]
  · by_cases h2 : a = b
    · subst h2; rw [if_neg (by omega), if_pos rfl, if_neg h1, if_pos rfl]
    · rw [if_neg (by omega), if_neg (by omega), if_neg h1, if_neg h2]
theorem order_swap (x y : Datum) : Datum.order y x = (Datum.order x y).map Ordering.swap := by
  cases x with
  | number s m i =>
    cases y with
    | number t n j =>
      show some (compare (Ieee.signed t n (j - min j i).toNat) (Ieee.signed s m (i - min j i).toNat)) = some (compare (Ieee.signed s m (i - min i j).toNat) (Ieee.signed t n (j - min i j).toNat)).swap
      rw [Int.min_comm j i, cmp_swap]
    | infinity t => cases t <;> rfl
    | nan t f => rfl
  | infinity s =>
    cases y with
    | number t n j => cases s <;> rfl
    | infinity t => cases s <;> cases t <;> rfl
    | nan t f => rfl
  | nan s f => cases y <;> rfl
theorem signed_not (s : Bool) (m k : Nat) : Ieee.signed (!s) m k = - Ieee.signed s m k := by
  unfold Ieee.signed
  cases s <;> simp
theorem order_opp (x y : Datum) : Datum.order y.opposite x.opposite = Datum.order x y := by
  cases x with
  | number s m i =>
    cases y with
    | number t n j =>
      show some (compare (Ieee.signed (!t) n (j - min j i).toNat) (Ieee.signed (!s) m (i - min j i).toNat)) = some (compare (Ieee.signed s m (i - min i j).toNat) (Ieee.signed t n (j - min i j).toNat))
      rw [Int.min_comm j i, signed_not, signed_not, cmp_negs]
    | infinity t => cases t <;> rfl
    | nan t f => rfl
  | infinity s =>
    cases y with
    | number t n j => cases s <;> rfl
    | infinity t => cases s <;> cases t <;> rfl
    | nan t f => rfl
  | nan s f => cases y <;> rfl
theorem sum_comm (x y : Datum) : Datum.sum x y = Datum.sum y x := by
  cases x with
  | number s m i =>
    cases y with
    | number t n j =>
      unfold Datum.sum
      simp only [Int.min_comm j i, Int.add_comm (Ieee.signed t n _), Bool.and_comm t s]
    | infinity t => rfl
    | nan t f => rfl
  | infinity s =>
    cases y with
    | number t n j => rfl
    | infinity t => cases s <;> cases t <;> rfl
    | nan t f => rfl
  | nan s f => cases y <;> rfl
theorem product_comm (x y : Datum) : Datum.product x y = Datum.product y x := by
  cases x with
  | number s m i =>
    cases y with
    | number t n j =>
      unfold Datum.product
      simp only [Nat.mul_comm n m, Int.add_comm j i, Bool.xor_comm t s]
    | infinity t => simp only [Datum.product, Bool.xor_comm t s]
    | nan t f => rfl
  | infinity s =>
    cases y with
    | number t n j => simp only [Datum.product, Bool.xor_comm t s]
    | infinity t => simp only [Datum.product, Bool.xor_comm t s]
    | nan t f => rfl
  | nan s f => cases y <;> rfl
theorem read_neg {n k : Nat} (h : n < 18446744073709551616) (hk : k = if n < 9223372036854775808 then n + 9223372036854775808 else n - 9223372036854775808) : Ieee.double.read k = (Ieee.double.read n).opposite := by
  have hk2 : k < 18446744073709551616 := by rw [hk]; split <;> omega
  have hm : k % 9223372036854775808 = n % 9223372036854775808 := by rw [hk]; split <;> omega
  have hs : sg k = !sg n := by
    unfold sg
    by_cases c : n < 9223372036854775808
    · rw [decide_eq_true (by rw [hk, if_pos c]; omega), decide_eq_false (by omega)]; rfl
    · rw [decide_eq_false (by rw [hk, if_neg c]; omega), decide_eq_true (by omega)]; rfl
  rw [read_eq hk2, read_eq h, hm, hs]
  split
  · rfl
  · split
    · rfl
    · split <;> rfl
theorem order_some {n k : Nat} (h : n < 18446744073709551616) (hk : k < 18446744073709551616) (hr : n % 9223372036854775808 ≤ 9218868437227405312) (hs : k % 9223372036854775808 ≤ 9218868437227405312) :
    ∃ o, Ieee.double.order n k = some o := by
  unfold Format.order
  rcases num_cases h hr with ⟨m, p, hd, -⟩ | ⟨hd, -⟩ <;> rcases num_cases hk hs with ⟨m', p', hd', -⟩ | ⟨hd', -⟩ <;> rw [hd, hd']
  · exact ⟨_, rfl⟩
  · exact ⟨_, rfl⟩
  · exact ⟨_, rfl⟩
  · exact ⟨_, rfl⟩
theorem neg_bd {n n' : Nat} (h : (n : Int) < 18446744073709551616) (hr : ¬ 9218868437227405312 < (n : Int) % 9223372036854775808) (g : (n < 9223372036854775808 ∧ n' = n + 9223372036854775808) ∨ (¬ n < 9223372036854775808 ∧ n' = n - 9223372036854775808)) :
    (0 ≤ (n' : Int) ∧ (n' : Int) < 18446744073709551616) ∧ (n' : Int) % 9223372036854775808 ≤ 9218868437227405312 := by
  rcases g with ⟨q, e⟩ | ⟨q, e⟩
  · have e2 : (n' : Int) = n + 9223372036854775808 := by omega
    rw [e2]; omega
  · have e2 : (n' : Int) = n - 9223372036854775808 := by omega
    rw [e2]; omega
theorem FloatOrder_true {a0 a1 : Int} (h0 : IntKind.has .u64 a0) (h1 : IntKind.has .u64 a1) : FloatOrder a0 a1 = true := by
  have b0 := has_u64.1 h0
  have b1 := has_u64.1 h1
  unfold FloatOrder
  rw [known_true, cond_true, fKind_eq b0, fKind_eq b1]
  simp only [ic_eq, ic_ne]
  by_cases c : kindF (a0 % 9223372036854775808) = 4
  · rw [decide_eq_true c]; rfl
  · rw [decide_eq_false c, cond_false]
    by_cases d : kindF (a1 % 9223372036854775808) = 4
    · rw [decide_eq_true d]; rfl
    · rw [decide_eq_false d, cond_false]
      have hr : ¬ 9218868437227405312 < a0 % 9223372036854775808 := fun q => c ((kind4 (by omega)).2 q)
      have hs : ¬ 9218868437227405312 < a1 % 9223372036854775808 := fun q => d ((kind4 (by omega)).2 q)
      have hn0 := fNeg_eq b0
      have hn1 := fNeg_eq b1
      have add : fAdd a0 a1 = fAdd a1 a0 := by
        show arith .add a0 a1 = arith .add a1 a0
        rw [arith_add, arith_add, sum_comm]
      have mul : fMul a0 a1 = fMul a1 a0 := by
        show arith .mul a0 a1 = arith .mul a1 a0
        rw [arith_mul, arith_mul, product_comm]
      obtain ⟨n, rfl⟩ : ∃ n : Nat, a0 = n := ⟨a0.toNat, by omega⟩
      obtain ⟨k, rfl⟩ : ∃ k : Nat, a1 = k := ⟨a1.toNat, by omega⟩
      have in0 : isN (n : Int) = true := by rw [isN_eq b0]; exact decide_eq_true (by omega)
      have in1 : isN (k : Int) = true := by rw [isN_eq b1]; exact decide_eq_true (by omega)
      clear c d
      generalize fNeg (n : Int) = vn at *
      generalize fNeg (k : Int) = vk at *
      have pn : 0 ≤ vn := by split at hn0 <;> omega
      have pk : 0 ≤ vk := by split at hn1 <;> omega
      obtain ⟨n', hn'⟩ : ∃ n' : Nat, vn = n' := Int.eq_ofNat_of_zero_le pn
      obtain ⟨k', hk'⟩ : ∃ k' : Nat, vk = k' := Int.eq_ofNat_of_zero_le pk
      have gn : (n < 9223372036854775808 ∧ n' = n + 9223372036854775808) ∨ (¬ n < 9223372036854775808 ∧ n' = n - 9223372036854775808) := by rw [hn'] at hn0; split at hn0 <;> omega
      have gk : (k < 9223372036854775808 ∧ k' = k + 9223372036854775808) ∨ (¬ k < 9223372036854775808 ∧ k' = k - 9223372036854775808) := by rw [hk'] at hn1; split at hn1 <;> omega
      have en : n' = if n < 9223372036854775808 then n + 9223372036854775808 else n - 9223372036854775808 := by
        rcases gn with ⟨q, e⟩ | ⟨q, e⟩
        · rw [if_pos q]; exact e
        · rw [if_neg q]; exact e
      have ek : k' = if k < 9223372036854775808 then k + 9223372036854775808 else k - 9223372036854775808 := by
        rcases gk with ⟨q, e⟩ | ⟨q, e⟩
        · rw [if_pos q]; exact e
        · rw [if_neg q]; exact e
      obtain ⟨bn', mn⟩ := neg_bd b0.2 hr gn
      obtain ⟨bk', mk⟩ := neg_bd b1.2 hs gk
      have in2 : isN (n' : Int) = true := by rw [isN_eq bn']; exact decide_eq_true mn
      have in3 : isN (k' : Int) = true := by rw [isN_eq bk']; exact decide_eq_true mk
      obtain ⟨o, ho⟩ := order_some (n := n) (k := k) (by omega) (by omega) (by omega) (by omega)
      have ho2 : Ieee.double.order k n = some o.swap := by
        unfold Format.order at ho ⊢
        rw [order_swap, ho]; rfl
      have ho3 : Ieee.double.order k' n' = some o := by
        unfold Format.order at ho ⊢
        rw [read_neg (n := k) (by omega) ek, read_neg (n := n) (by omega) en, order_opp, ho]
      rw [add, mul, hn', hk']
      have z0 : fCmp_0 (n : Int) k = (some o == some .eq) := by
        show cz (n : Int) k = _
        unfold cz
        rw [in0, in1]
        show (Ieee.double.order n k == some .eq) = _
        rw [ho]
      have z1 : fCmp_0 (k : Int) n = (some o.swap == some .eq) := by
        show cz (k : Int) n = _
        unfold cz
        rw [in0, in1]
        show (Ieee.double.order k n == some .eq) = _
        rw [ho2]
      have c0 : fCmp_2 (n : Int) k = (some o == some .lt) := by
        show cc (n : Int) k = _
        unfold cc
        rw [in0, in1]
        show (Ieee.double.order n k == some .lt) = _
        rw [ho]
      have c1 : fCmp_2 (k : Int) n = (some o.swap == some .lt) := by
        show cc (k : Int) n = _
        unfold cc
        rw [in0, in1]
        show (Ieee.double.order k n == some .lt) = _
        rw [ho2]
      have c2 : fCmp_2 (k' : Int) n' = (some o == some .lt) := by
        show cc (k' : Int) n' = _
        unfold cc
        rw [in2, in3]
        show (Ieee.double.order k' n' == some .lt) = _
        rw [ho3]
      have p0 : fCmp_1 (n : Int) k = false := by
        show cp (n : Int) k = _
        unfold cp
        rw [in0, in1]; rfl
      have p1 : fCmp_1 (k : Int) n = false := by
        show cp (k : Int) n = _
        unfold cp
        rw [in0, in1]; rfl
      rw [z0, z1, c0, c1, c2, p0, p1]
      cases o <;> simp <;> rfl
end Go.Proofs.YtdchnlmclngjmaaDoor
