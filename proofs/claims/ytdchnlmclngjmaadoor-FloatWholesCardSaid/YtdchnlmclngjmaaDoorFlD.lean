/-
  The law FloatWholes: what it says of plain functions. No program in sight.
-/
import Derived.Test.YtdchnlmclngjmaaDoorFlC
namespace Go.Proofs.YtdchnlmclngjmaaDoor
open Go.Sx
open Ieee (Datum Format Toward)
set_option linter.unusedVariables false
set_option linter.unusedSimpArgs false
set_option maxRecDepth 100000

theorem up52_val : ∀ (k : Nat) (M E : Int), 1 ≤ M → M < 9007199254740992 → 4503599627370496 ≤ M * 2 ^ k → (k : Int) ≤ E → E < 18446744073709551616 →
    ∃ j : Nat, j ≤ k ∧ up52 k M E = (M * 2 ^ j, E - j) ∧ 4503599627370496 ≤ M * 2 ^ j ∧ M * 2 ^ j < 9007199254740992
  | 0, M, E, h1, h2, h3, h4, h5 => ⟨0, by omega, by simp [up52], by simpa using h3, by simpa using h2⟩
  | k + 1, M, E, h1, h2, h3, h4, h5 => by
    by_cases hz : M / 4503599627370496 = 0
    · have e1 : IntKind.wrap .u64 (M * 2) = M * 2 := by rw [IntKind.wrap_u64]; omega
      have e2 : IntKind.wrap .u64 (E - 1) = E - 1 := by rw [IntKind.wrap_u64]; omega
      have e3 (j : Nat) : M * 2 * 2 ^ j = M * 2 ^ (j + 1) := by rw [Int.mul_assoc, Int.mul_comm 2]; rfl
      obtain ⟨j, hj, h6, h7, h8⟩ := up52_val k (M * 2) (E - 1) (by omega) (by omega) (by rw [e3]; exact h3) (by omega) (by omega)
      rw [e3] at h6 h7 h8
      refine ⟨j + 1, by omega, ?_, h7, h8⟩
      rw [up52, if_pos hz, e1, e2, h6]
      congr 1
      omega
    · refine ⟨0, by omega, ?_, by simp; omega, by simp; omega⟩
      rw [up52, if_neg hz]; simp
theorem and_low52 (a : Int) : ibin .and .u64 a 4503599627370495 = a % 4503599627370496 := by
  show IntKind.u64.wrap (((BitVec.ofInt 64 a) &&& (BitVec.ofInt 64 4503599627370495)).toNat : Int) = _
  rw [and_nat 52 (by decide) a 4503599627370495 (by decide) 4503599627370496 (by decide), IntKind.wrap_u64]; omega
theorem wholeU_val (s : Bool) {u : Nat} (h1 : 1 ≤ u) (h2 : u < 9007199254740992) :
    ∃ j : Nat, j ≤ 60 ∧ 4503599627370496 ≤ u * 2 ^ j ∧ u * 2 ^ j < 9007199254740992 ∧ wholeU (wd s 0 : Int) (u : Int) = (wd s ((1074 - j) * 4503599627370496 + u * 2 ^ j) : Int) := by
  have p60 : (2 : Int) ^ 60 = 1152921504606846976 := by decide
  obtain ⟨j, hj, e, l1, l2⟩ := up52_val 60 (u : Int) 1075 (by omega) (by omega) (by rw [p60]; omega) (by omega) (by omega)
  have c : (u : Int) * 2 ^ j = ((u * 2 ^ j : Nat) : Int) := by
    rw [Int.natCast_mul, Int.natCast_pow]; rfl
  rw [c] at e l1 l2
  generalize hv : u * 2 ^ j = v at *
  refine ⟨j, hj, by omega, by omega, ?_⟩
  unfold wholeU
  rw [e]
  simp only []
  rw [and_low52]
  have e1 : ibin .shl .u64 (1075 - (j : Int)) 52 = (1075 - (j : Int)) * 4503599627370496 := by
    rw [shl_u64 _ 52 52 4503599627370496 (by decide) (by decide)]; omega
  rw [e1]
  have l : (v : Int) % 4503599627370496 = v - 4503599627370496 := by omega
  rw [l]
  have e2 : ibin .or .u64 (wd s 0 : Int) ((1075 - (j : Int)) * 4503599627370496) = ((2 ^ 52 * ((if s then 2048 else 0) + (1075 - j)) : Nat) : Int) := by
    have p52 : (2 : Nat) ^ 52 = 4503599627370496 := by decide
    rw [or_comm]
    cases s
    · rw [wds.1, or_zero (by omega), p52]
      simp only [Bool.false_eq_true, if_false]
      omega
    · rw [wds.2.1, or_hi (by omega), p52]
      simp only [if_true]
      omega
  rw [e2]
  obtain ⟨w, hw⟩ : ∃ w : Nat, (v : Int) - 4503599627370496 = w := ⟨v - 4503599627370496, by omega⟩
  rw [hw]
  have p52 : (2 : Nat) ^ 52 = 4503599627370496 := by decide
  rw [or_nat 52 _ w (by rw [p52]; omega) (by rw [p52]; split <;> omega), p52]
  unfold wd
  split <;> omega
/-- a number of this value -/
def Val (d : Datum) (v : Int) : Prop := ∃ (m j : Nat), d = .number (decide (v < 0)) m (-(j : Int)) ∧ m = v.natAbs * 2 ^ j ∧ j ≤ 1074
/-- the word of a whole number -/
theorem val0 (k : Nat) : 0 = (0 : Int).natAbs * 2 ^ k := (Nat.zero_mul _).symm
theorem whole_word {v : Int} (h : v.natAbs < 9007199254740992) :
    ∃ n : Nat, wholeF v = n ∧ n < 18446744073709551616 ∧ n % 9223372036854775808 < 9218868437227405312 ∧ Ieee.double.nearest (decide (v < 0)) v.natAbs 0 = n ∧ Val (Ieee.double.read n) v ∧ (v ≠ 0 → ∃ j : Nat, j ≤ 60 ∧ Ieee.double.read n = .number (decide (v < 0)) (v.natAbs * 2 ^ j) (-(j : Int)) ∧ 4503599627370496 ≤ v.natAbs * 2 ^ j ∧ v.natAbs * 2 ^ j < 9007199254740992) := by
  by_cases z : v = 0
  · subst z
    refine ⟨0, rfl, by decide, by decide, ?_, ⟨0, 1074, zero_read, val0 1074, by decide⟩, fun q => absurd rfl q⟩
    exact near_zero _ _
  · obtain ⟨j, hj, l1, l2, e⟩ := wholeU_val (decide (v < 0)) (u := v.natAbs) (by omega) h
    have ew : wholeF v = (wd (decide (v < 0)) ((1074 - j) * 4503599627370496 + v.natAbs * 2 ^ j) : Int) := by
      rw [← e]
      unfold wholeF
      rw [if_neg z]
      by_cases c : v < 0
      · have e3 : IntKind.wrap .u64 (IntKind.wrap .i64 (-v)) = (v.natAbs : Int) := by rw [IntKind.wrap_u64, IntKind.wrap_i64]; omega
        rw [if_pos c, decide_eq_true c, wds.2.1, e3]
      · have e3 : IntKind.wrap .u64 v = (v.natAbs : Int) := by rw [IntKind.wrap_u64]; omega
        rw [if_neg c, decide_eq_false c, wds.1, e3]
    generalize hs : decide (v < 0) = s at *
    generalize hm : v.natAbs * 2 ^ j = m at *
    have hb : wd s ((1074 - j) * 4503599627370496 + m) < 18446744073709551616 := by unfold wd; split <;> omega
    have hr : wd s ((1074 - j) * 4503599627370496 + m) % 9223372036854775808 = (1074 - j) * 4503599627370496 + m := by unfold wd; split <;> omega
    have hsg : sg (wd s ((1074 - j) * 4503599627370496 + m)) = s := by
      unfold sg wd
      cases s
      · rw [if_neg (by decide)]; exact decide_eq_false (by omega)
      · rw [if_pos rfl]; exact decide_eq_true (by omega)
    have hd : Ieee.double.read (wd s ((1074 - j) * 4503599627370496 + m)) = .number s m (-(j : Int)) := by
      rw [read_eq hb, hr, if_neg (by omega), if_pos (by omega), hsg]
      have q1 : ((1074 - j) * 4503599627370496 + m) % 4503599627370496 = m - 4503599627370496 := by omega
      have q2 : ((1074 - j) * 4503599627370496 + m) / 4503599627370496 = 1075 - j := by omega
      rw [q1, q2]
      have q3 : 4503599627370496 + (m - 4503599627370496) = m := by omega
      have q4 : (-1074 + ((1075 - j - 1 : Nat) : Int)) = -(j : Int) := by omega
      rw [q3, q4]
    have hn : Ieee.double.nearest s v.natAbs 0 = wd s ((1074 - j) * 4503599627370496 + m) := by
      obtain ⟨m', p', hd', hn', -⟩ := fin_word hb (by rw [hr]; omega)
      rw [hd, hsg] at hd'
      injection hd' with _ i2 i3
      rw [hsg, ← i2, ← i3, ← hm, near_scale, show -(j : Int) + (j : Int) = 0 by omega] at hn'
      rw [hn', hm]
    exact ⟨_, ew, hb, by rw [hr]; omega, hn, ⟨m, j, by rw [hs]; exact hd, hm.symm, by omega⟩, fun _ => ⟨j, hj, by rw [hm]; exact hd, by rw [hm]; exact l1, by rw [hm]; exact l2⟩⟩

theorem signed_val {v : Int} {m j : Nat} (h : m = v.natAbs * 2 ^ j) (k : Nat) : Ieee.signed (decide (v < 0)) m k = v * 2 ^ (j + k) := by
  have e : (m <<< k : Nat) = v.natAbs * 2 ^ (j + k) := by rw [Nat.shiftLeft_eq, h, Nat.mul_assoc, ← Nat.pow_add]
  unfold Ieee.signed
  rw [e]
  have c : ((v.natAbs * 2 ^ (j + k) : Nat) : Int) = (v.natAbs : Int) * 2 ^ (j + k) := by rw [Int.natCast_mul, Int.natCast_pow]; rfl
  rw [c]
  by_cases hv : v < 0
  · rw [decide_eq_true hv, if_pos rfl]
    have : (v.natAbs : Int) = -v := by omega
    rw [this, Int.neg_mul, Int.neg_neg]
  · rw [decide_eq_false hv, if_neg (by decide)]
    have : (v.natAbs : Int) = v := by omega
    rw [this]
theorem two_pos (n : Nat) : (0 : Int) < 2 ^ n := Int.pow_pos (by decide)
theorem abs_mul (v : Int) (n : Nat) : (v * 2 ^ n).natAbs = v.natAbs * 2 ^ n := by
  rw [Int.natAbs_mul, Int.natAbs_pow]; rfl
theorem mul_sign (v : Int) (n : Nat) : (v * 2 ^ n < 0 ↔ v < 0) ∧ (v * 2 ^ n = 0 ↔ v = 0) := by
  have hp := two_pos n
  refine ⟨⟨fun h => ?_, fun h => Int.mul_neg_of_neg_of_pos h hp⟩, ⟨fun h => ?_, fun h => by rw [h, Int.zero_mul]⟩⟩
  · apply Classical.byContradiction
    intro c
    have := Int.mul_nonneg (show 0 ≤ v by omega) (show (0 : Int) ≤ 2 ^ n by omega)
    omega
  · rcases Int.mul_eq_zero.1 h with h | h
    · exact h
    · omega
/-- what two numbers of whole values make by adding, with the second one's sign turned or not -/
theorem sum_val {x y : Int} {t : Bool} {m k i j : Nat} (hm : m = x.natAbs * 2 ^ i) (z : Int) (hk : ∀ l, Ieee.signed t k l = z * 2 ^ (j + l)) (hs : x + z = 0 → (decide (x < 0) && t) = false) (hb : (x + z).natAbs < 9007199254740992) :
    outD (Datum.sum (.number (decide (x < 0)) m (-(i : Int))) (.number t k (-(j : Int)))) = wholeF (x + z) := by
  obtain ⟨n, e1, -, -, e2, -⟩ := whole_word hb
  obtain ⟨J, hJ⟩ : ∃ J : Nat, min (-(i : Int)) (-(j : Int)) = -(J : Int) ∧ i ≤ J ∧ j ≤ J := ⟨max i j, by omega, by omega, by omega⟩
  unfold Datum.sum
  simp only [hJ.1]
  have q1 : (-(i : Int) - -(J : Int)).toNat = J - i := by omega
  have q2 : (-(j : Int) - -(J : Int)).toNat = J - j := by omega
  rw [q1, q2, signed_val hm, hk, show i + (J - i) = J by omega, show j + (J - j) = J by omega, ← Int.add_mul]
  obtain ⟨s1, s2⟩ := mul_sign (x + z) J
  rw [out_num, abs_mul, near_scale, show -(J : Int) + (J : Int) = 0 by omega, e1, ← e2]
  by_cases c : x + z = 0
  · rw [if_pos (s2.2 c), hs c, c]; rfl
  · rw [if_neg (fun q => c (s2.1 q))]
    have : decide ((x + z) * 2 ^ J < 0) = decide (x + z < 0) := by
      by_cases d : x + z < 0
      · rw [decide_eq_true d, decide_eq_true (s1.2 d)]
      · rw [decide_eq_false d, decide_eq_false (fun q => d (s1.1 q))]
    rw [this]
theorem whole_add {x y : Int} (hx : x.natAbs ≤ 32768) (hy : y.natAbs ≤ 32768) : fAdd (wholeF x) (wholeF y) = wholeF (x + y) := by
  obtain ⟨n, e1, -, -, -, ⟨m, i, d1, hm, -⟩, -⟩ := whole_word (v := x) (by omega)
  obtain ⟨k, f1, -, -, -, ⟨l, j, d2, hl, -⟩, -⟩ := whole_word (v := y) (by omega)
  show arith .add _ _ = _
  rw [arith_add, e1, f1]
  have t1 : ((n : Int)).toNat = n := rfl
  have t2 : ((k : Int)).toNat = k := rfl
  rw [t1, t2, d1, d2]
  refine sum_val (y := y) hm y (fun l' => signed_val hl l') (fun h => ?_) (by omega)
  by_cases c : x < 0
  · rw [decide_eq_false (show ¬ y < 0 by omega), Bool.and_false]
  · rw [decide_eq_false c]; rfl
theorem whole_sub {x y : Int} (hx : x.natAbs ≤ 32768) (hy : y.natAbs ≤ 32768) : fSub (wholeF x) (wholeF y) = wholeF (x - y) := by
  obtain ⟨n, e1, -, -, -, ⟨m, i, d1, hm, -⟩, -⟩ := whole_word (v := x) (by omega)
  obtain ⟨k, f1, -, -, -, ⟨l, j, d2, hl, -⟩, -⟩ := whole_word (v := y) (by omega)
  show arith .sub _ _ = _
  rw [arith_sub, e1, f1]
  have t1 : ((n : Int)).toNat = n := rfl
  have t2 : ((k : Int)).toNat = k := rfl
  rw [t1, t2, d1, d2, show x - y = x + -y by omega]
  show outD (Datum.sum _ (.number (!decide (y < 0)) l (-(j : Int)))) = _
  refine sum_val (y := y) hm (-y) (fun l' => by rw [signed_not, signed_val hl l', Int.neg_mul]) (fun h => ?_) (by omega)
  have : x = y := by omega
  subst this
  cases decide (x < 0) <;> rfl
theorem near_rung (s t : Bool) (m : Nat) (p : Int) : (Ieee.double.nearest s m p) % 9223372036854775808 = (Ieee.double.nearest t m p) % 9223372036854775808 := by
  have key : ∀ s : Bool, Ieee.double.nearest s m p = wd s (Ieee.double.nearest false m p) := by
    intro s
    have wf : ∀ k, wd false k = k := fun k => by simp [wd]
    unfold Format.nearest
    by_cases z : m = 0
    · rw [if_pos z, if_pos z, word_wd, word_wd, wf]
    · rw [if_neg z, if_neg z]
      simp only [word_wd, wf]
      rfl
  obtain ⟨k, hk, e⟩ := near_word false m p
  rw [key s, key t, e]
  have wf : wd false k = k := by simp [wd]
  rw [wf]
  unfold wd
  split <;> split <;> omega
theorem whole_mul {x y : Int} (hx : x.natAbs ≤ 32768) (hy : y.natAbs ≤ 32768) : fMul (wholeF x) (wholeF y) = (Ieee.double.nearest (decide (x < 0) ^^ decide (y < 0)) (x * y).natAbs 0 : Int) := by
  obtain ⟨n, e1, -, -, -, ⟨m, i, d1, hm, -⟩, -⟩ := whole_word (v := x) (by omega)
  obtain ⟨k, f1, -, -, -, ⟨l, j, d2, hl, -⟩, -⟩ := whole_word (v := y) (by omega)
  show arith .mul _ _ = _
  rw [arith_mul, e1, f1]
  have t1 : ((n : Int)).toNat = n := rfl
  have t2 : ((k : Int)).toNat = k := rfl
  rw [t1, t2, d1, d2]
  show outD (some (.number (decide (x < 0) ^^ decide (y < 0)) (m * l) (-(i : Int) + -(j : Int)))) = _
  have hml : m * l = (x * y).natAbs * 2 ^ (i + j) := by
    rw [hm, hl, Int.natAbs_mul, Nat.pow_add]
    simp only [Nat.mul_assoc, Nat.mul_comm, Nat.mul_left_comm]
  rw [out_num, hml, near_scale, show -(i : Int) + -(j : Int) + ((i + j : Nat) : Int) = 0 by omega]
theorem mul_bd {x y : Int} (hx : x.natAbs ≤ 32768) (hy : y.natAbs ≤ 32768) : (x * y).natAbs ≤ 1073741824 := by
  rw [Int.natAbs_mul]
  exact Nat.mul_le_mul hx hy
theorem whole_mul_abs {x y : Int} (hx : x.natAbs ≤ 32768) (hy : y.natAbs ≤ 32768) : fAbs (fMul (wholeF x) (wholeF y)) = fAbs (wholeF (x * y)) := by
  have hb := mul_bd hx hy
  obtain ⟨n, e1, -, -, e2, -⟩ := whole_word (v := x * y) (by omega)
  rw [whole_mul hx hy, e1, fAbs_eq, fAbs_eq, ← e2]
  have := near_rung (decide (x < 0) ^^ decide (y < 0)) (decide (x * y < 0)) (x * y).natAbs 0
  omega
theorem whole_cmp {x y : Int} (hx : x.natAbs ≤ 32768) (hy : y.natAbs ≤ 32768) : fCmp_0 (wholeF x) (wholeF y) = decide (x = y) ∧ fCmp_2 (wholeF x) (wholeF y) = decide (x < y) := by
  obtain ⟨n, e1, b1, r1, -, ⟨m, i, d1, hm, -⟩, -⟩ := whole_word (v := x) (by omega)
  obtain ⟨k, f1, b2, r2, -, ⟨l, j, d2, hl, -⟩, -⟩ := whole_word (v := y) (by omega)
  rw [e1, f1]
  have i1 : isN (n : Int) = true := by rw [isN_eq (by omega)]; exact decide_eq_true (by omega)
  have i2 : isN (k : Int) = true := by rw [isN_eq (by omega)]; exact decide_eq_true (by omega)
  have ho : Ieee.double.order n k = some (compare x y) := by
    unfold Format.order
    rw [d1, d2]
    obtain ⟨J, hJ⟩ : ∃ J : Nat, min (-(i : Int)) (-(j : Int)) = -(J : Int) ∧ i ≤ J ∧ j ≤ J := ⟨max i j, by omega, by omega, by omega⟩
    unfold Datum.order
    simp only [hJ.1]
    have q1 : (-(i : Int) - -(J : Int)).toNat = J - i := by omega
    have q2 : (-(j : Int) - -(J : Int)).toNat = J - j := by omega
    rw [q1, q2, signed_val hm, signed_val hl, show i + (J - i) = J by omega, show j + (J - j) = J by omega]
    have hp := two_pos J
    congr 1
    rw [cmpI, cmpI]
    by_cases c1 : x < y
    · rw [if_pos (Int.mul_lt_mul_of_pos_right c1 hp), if_pos c1]
    · rw [if_neg (fun q => c1 (Int.lt_of_mul_lt_mul_right q (by omega))), if_neg c1]
      by_cases c2 : x = y
      · rw [if_pos (by rw [c2]), if_pos c2]
      · rw [if_neg (fun q => c2 (Int.eq_of_mul_eq_mul_right (by omega) q)), if_neg c2]
  refine ⟨?_, ?_⟩
  · show cz (n : Int) k = _
    unfold cz
    rw [i1, i2]
    show (Ieee.double.order n k == some .eq) = _
    rw [ho, cmpI]
    by_cases c1 : x < y
    · rw [if_pos c1, decide_eq_false (by omega)]; rfl
    · by_cases c2 : x = y
      · rw [if_neg c1, if_pos c2, decide_eq_true c2]; rfl
      · rw [if_neg c1, if_neg c2, decide_eq_false c2]; rfl
  · show cc (n : Int) k = _
    unfold cc
    rw [i1, i2]
    show (Ieee.double.order n k == some .lt) = _
    rw [ho, cmpI]
    by_cases c1 : x < y
    · rw [if_pos c1, decide_eq_true c1]; rfl
    · by_cases c2 : x = y
      · rw [if_neg c1, if_pos c2, decide_eq_false c1]; rfl
      · rw [if_neg c1, if_neg c2, decide_eq_false c1]; rfl
theorem sign_mul {x y : Int} (x0 : x ≠ 0) (y0 : y ≠ 0) : (decide (x < 0) ^^ decide (y < 0)) = decide (x * y < 0) := by
  by_cases c : x < 0 <;> by_cases d : y < 0
  · have := Int.mul_pos_of_neg_of_neg c d
    rw [decide_eq_true c, decide_eq_true d, decide_eq_false (by omega)]; rfl
  · have := Int.mul_neg_of_neg_of_pos c (show 0 < y by omega)
    rw [decide_eq_true c, decide_eq_false d, decide_eq_true this]; rfl
  · have := Int.mul_neg_of_pos_of_neg (show 0 < x by omega) d
    rw [decide_eq_false c, decide_eq_true d, decide_eq_true this]; rfl
  · have := Int.mul_pos (show 0 < x by omega) (show 0 < y by omega)
    rw [decide_eq_false c, decide_eq_false d, decide_eq_false (by omega)]; rfl
theorem whole_div {x y : Int} (hx : x.natAbs ≤ 32768) (hy : y.natAbs ≤ 32768) (x0 : x ≠ 0) (y0 : y ≠ 0) : fDiv (fMul (wholeF x) (wholeF y)) (wholeF y) = wholeF x := by
  have hb := mul_bd hx hy
  have xy0 : x * y ≠ 0 := Int.mul_ne_zero x0 y0
  obtain ⟨p, e1, b1, -, e2, -, hp⟩ := whole_word (v := x * y) (by omega)
  obtain ⟨k, f1, b2, -, -, -, hk⟩ := whole_word (v := y) (by omega)
  obtain ⟨n, g1, b3, -, g2, -, -⟩ := whole_word (v := x) (by omega)
  obtain ⟨i, hi, d1, l1, l2⟩ := hp xy0
  obtain ⟨j, hj, d2, l3, l4⟩ := hk y0
  clear hp hk
  have hj52 : j ≤ 52 := by
    have a1 : 2 ^ j ≤ y.natAbs * 2 ^ j := Nat.le_mul_of_pos_left _ (by omega)
    have p53 : (2 : Nat) ^ 53 = 9007199254740992 := by decide
    have a2 : 2 ^ j < 2 ^ 53 := by rw [p53]; exact Nat.lt_of_le_of_lt a1 l4
    have := (Nat.pow_lt_pow_iff_right (by decide : 1 < 2)).1 a2
    omega
  have hs := sign_mul x0 y0
  have hs2 : (decide (x * y < 0) ^^ decide (y < 0)) = decide (x < 0) := by
    rw [← hs]; cases decide (x < 0) <;> cases decide (y < 0) <;> rfl
  rw [whole_mul hx hy, hs, e2, f1, g1, ← g2]
  show arith .quo (p : Int) (k : Int) = _
  rw [arith_div]
  have t1 : ((p : Int)).toNat = p := rfl
  have t2 : ((k : Int)).toNat = k := rfl
  rw [t1, t2, d1, d2]
  generalize hm : (x * y).natAbs * 2 ^ i = m at *
  generalize hl : y.natAbs * 2 ^ j = l at *
  have lg {q : Nat} (h1 : 4503599627370496 ≤ q) (h2 : q < 9007199254740992) : q.log2 = 52 := by
    have p53 : (2 : Nat) ^ 53 = 9007199254740992 := by decide
    have p52 : (2 : Nat) ^ 52 = 4503599627370496 := by decide
    have a1 : q.log2 < 53 := log2_lt (by omega) (by rw [p53]; exact h2)
    have a2 : 52 ≤ q.log2 := (Nat.le_log2 (by omega)).2 (by rw [p52]; exact h1)
    omega
  obtain ⟨c, hc⟩ : ∃ c : Nat, c + j = i + 54 := ⟨i + 54 - j, by omega⟩
  have hmul : m <<< (54 + l.log2 - m.log2) = x.natAbs * 2 ^ c * l := by
    rw [lg l1 l2, lg l3 l4, show 54 + 52 - 52 = 54 by decide, Nat.shiftLeft_eq, ← hm, ← hl, Int.natAbs_mul]
    have : x.natAbs * y.natAbs * 2 ^ i * 2 ^ 54 = x.natAbs * y.natAbs * 2 ^ (i + 54) := by rw [Nat.mul_assoc, ← Nat.pow_add]
    rw [this, ← hc, Nat.pow_add]
    simp only [Nat.mul_assoc, Nat.mul_comm, Nat.mul_left_comm]
  have hq : Datum.quotient 54 (.number (decide (x * y < 0)) m (-(i : Int))) (.number (decide (y < 0)) l (-(j : Int))) = some (.number (decide (x < 0)) (x.natAbs * 2 ^ (c + 1)) (-((c + 1 : Nat) : Int))) := by
    unfold Datum.quotient
    simp only [hmul]
    rw [if_neg (show ¬ l = 0 by omega), Nat.mul_div_cancel _ (by omega), Nat.mul_mod_left, hs2, lg l1 l2, lg l3 l4]
    have q1 : ((0 : Nat) != 0).toNat = 0 := by decide
    have q2 : 2 * (x.natAbs * 2 ^ c) = x.natAbs * 2 ^ (c + 1) := by rw [Nat.pow_succ, Nat.mul_comm 2, Nat.mul_assoc]
    have q3 : -(i : Int) - -(j : Int) - ((54 + 52 - 52 : Nat) : Int) - 1 = -((c + 1 : Nat) : Int) := by omega
    rw [q1, q2, q3, Nat.add_zero]
  rw [hq, out_num, near_scale, show -((c + 1 : Nat) : Int) + ((c + 1 : Nat) : Int) = 0 by omega]
theorem i16_bd {x : Int} (h : IntKind.has .i16 x) : -32768 ≤ x ∧ x ≤ 32767 := by
  obtain ⟨a, b⟩ := h
  have e1 : IntKind.i16.min = -32768 := rfl
  have e2 : IntKind.i16.max = 32767 := rfl
  omega
theorem FloatWholes_true {a0 a1 : Int} (h0 : IntKind.has .i16 a0) (h1 : IntKind.has .i16 a1) : FloatWholes a0 a1 = true := by
  have b0 := i16_bd h0
  have b1 := i16_bd h1
  have hx : a0.natAbs ≤ 32768 := by omega
  have hy : a1.natAbs ≤ 32768 := by omega
  have hm := mul_bd hx hy
  have w0 : IntKind.wrap .i64 a0 = a0 := by rw [IntKind.wrap_i64]; omega
  have w1 : IntKind.wrap .i64 a1 = a1 := by rw [IntKind.wrap_i64]; omega
  have ad : ibin .add .i64 a0 a1 = a0 + a1 := by show IntKind.i64.wrap (a0 + a1) = _; rw [IntKind.wrap_i64]; omega
  have sb : ibin .sub .i64 a0 a1 = a0 - a1 := by show IntKind.i64.wrap (a0 - a1) = _; rw [IntKind.wrap_i64]; omega
  have ml : ibin .mul .i64 a0 a1 = a0 * a1 := by
    show IntKind.i64.wrap (a0 * a1) = _
    rw [IntKind.wrap_i64]
    generalize a0 * a1 = z at *
    omega
  unfold FloatWholes
  rw [known_true, cond_true, w0, w1, ad, sb, ml]
  have hw : ∀ v, whole v = wholeF v := fun _ => rfl
  simp only [hw]
  obtain ⟨c1, c2⟩ := whole_cmp hx hy
  rw [whole_add hx hy, whole_sub hx hy, whole_mul_abs hx hy, c1, c2]
  simp only [ic_eq, ic_lt]
  by_cases z1 : a1 = 0
  · simp [z1]
  · by_cases z0 : a0 = 0
    · simp [z0]
    · rw [whole_div hx hy z0 z1]
      simp
end Go.Proofs.YtdchnlmclngjmaaDoor
