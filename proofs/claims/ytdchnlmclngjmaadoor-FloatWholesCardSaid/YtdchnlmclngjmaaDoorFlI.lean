/-
  Plain laws of the arithmetic of numbers: rounding does not hang on the place, what is exact stays. No program in sight.
-/
import Derived.Test.YtdchnlmclngjmaaDoorFlA
namespace Go.Proofs.YtdchnlmclngjmaaDoor
open Go.Sx
open Ieee (Datum Format Toward)
set_option linter.unusedVariables false
set_option linter.unusedSimpArgs false
set_option maxRecDepth 100000

def outD : Option Datum → Int
  | some d => nrm (Ieee.double.write d)
  | none => 9221120237041090560
theorem arith_add (a b : Int) : arith .add a b = outD ((Ieee.double.read a.toNat).sum (Ieee.double.read b.toNat)) := by
  unfold arith
  have e : floatBits .add .f64 a.toNat b.toNat = ((Ieee.double.read a.toNat).sum (Ieee.double.read b.toNat)).map Ieee.double.write := rfl
  rw [e]
  cases (Ieee.double.read a.toNat).sum (Ieee.double.read b.toNat) <;> rfl
theorem arith_sub (a b : Int) : arith .sub a b = outD ((Ieee.double.read a.toNat).sum (Ieee.double.read b.toNat).opposite) := by
  unfold arith
  have e : floatBits .sub .f64 a.toNat b.toNat = ((Ieee.double.read a.toNat).sum (Ieee.double.read b.toNat).opposite).map Ieee.double.write := rfl
  rw [e]
  cases (Ieee.double.read a.toNat).sum (Ieee.double.read b.toNat).opposite <;> rfl
theorem arith_mul (a b : Int) : arith .mul a b = outD ((Ieee.double.read a.toNat).product (Ieee.double.read b.toNat)) := by
  unfold arith
  have e : floatBits .mul .f64 a.toNat b.toNat = ((Ieee.double.read a.toNat).product (Ieee.double.read b.toNat)).map Ieee.double.write := rfl
  rw [e]
  cases (Ieee.double.read a.toNat).product (Ieee.double.read b.toNat) <;> rfl
theorem arith_div (a b : Int) : arith .quo a b = outD ((Ieee.double.read a.toNat).quotient 54 (Ieee.double.read b.toNat)) := by
  unfold arith
  have e : floatBits .quo .f64 a.toNat b.toNat = ((Ieee.double.read a.toNat).quotient 54 (Ieee.double.read b.toNat)).map Ieee.double.write := rfl
  rw [e]
  cases (Ieee.double.read a.toNat).quotient 54 (Ieee.double.read b.toNat) <;> rfl

/-! ### Words -/
def wd (s : Bool) (k : Nat) : Nat := (if s then 9223372036854775808 else 0) + k
theorem word_wd (s : Bool) (k : Nat) : Ieee.double.word s k = wd s k := by
  unfold Format.word wd
  rw [w1]
  cases s <;> simp
theorem nrm_wd (s : Bool) {k : Nat} (h : k ≤ 9218868437227405312) : nrm (wd s k) = (wd s k : Int) := by
  unfold nrm
  have hb : wd s k < 18446744073709551616 := by unfold wd; split <;> omega
  have hm : wd s k % 9223372036854775808 = k := by unfold wd; split <;> omega
  have e := order_self hb
  rw [hm, decide_eq_true h] at e
  rw [if_pos (by simpa using e)]
theorem near_word (s : Bool) (m : Nat) (p : Int) : ∃ k, k ≤ 9218868437227405312 ∧ Ieee.double.nearest s m p = wd s k := by
  unfold Format.nearest
  split
  · exact ⟨0, by omega, word_wd _ _⟩
  · simp only [w3]
    exact ⟨_, Nat.min_le_right _ _, word_wd _ _⟩
theorem nrm_near (s : Bool) (m : Nat) (p : Int) : nrm (Ieee.double.nearest s m p) = (Ieee.double.nearest s m p : Int) := by
  obtain ⟨k, h, e⟩ := near_word s m p
  rw [e, nrm_wd s h]
theorem out_num (s : Bool) (m : Nat) (p : Int) : outD (some (.number s m p)) = (Ieee.double.nearest s m p : Int) := nrm_near s m p
theorem out_inf (s : Bool) : outD (some (.infinity s)) = (wd s 9218868437227405312 : Int) := by
  show nrm (Ieee.double.word s Ieee.double.infRung) = _
  rw [word_wd, w3, nrm_wd s (Nat.le_refl _)]

/-! ### Rounding does not hang on the place -/
theorem log2_mul {m j : Nat} (hm : m ≠ 0) : (m * 2 ^ j).log2 = m.log2 + j := by
  have hp : 0 < 2 ^ j := Nat.two_pow_pos j
  have hne : m * 2 ^ j ≠ 0 := by
    intro q
    rcases Nat.mul_eq_zero.1 q with q | q
    · exact hm q
    · omega
  have h1 : (m * 2 ^ j).log2 < m.log2 + j + 1 := (Nat.log2_lt hne).2 (by
    have : m < 2 ^ (m.log2 + 1) := Nat.lt_log2_self
    rw [show m.log2 + j + 1 = m.log2 + 1 + j by omega, Nat.pow_add]
    exact Nat.mul_lt_mul_of_pos_right this hp)
  have h2 : m.log2 + j ≤ (m * 2 ^ j).log2 := (Nat.le_log2 hne).2 (by
    rw [Nat.pow_add]
    exact Nat.mul_le_mul_right _ (Nat.log2_self_le hm))
  omega
theorem cut_scale (s : Bool) {m : Nat} (hm : m ≠ 0) (j e : Nat) : Toward.even.cut s (m * 2 ^ j) (e + j) = Toward.even.cut s m e := by
  have hp : 0 < 2 ^ j := Nat.two_pow_pos j
  have hl : (m * 2 ^ j).log2 = m.log2 + j := log2_mul hm
  have hg : 1 <<< min (e + j) ((m * 2 ^ j).log2 + 2) = (1 <<< min e (m.log2 + 2)) * 2 ^ j := by
    rw [hl, show m.log2 + j + 2 = m.log2 + 2 + j by omega, Nat.add_min_add_right, Nat.shiftLeft_eq, Nat.shiftLeft_eq, Nat.pow_add, Nat.mul_assoc]
  unfold Toward.cut
  simp only [hg]
  generalize 1 <<< min e (m.log2 + 2) = g
  have h1 : m * 2 ^ j / (g * 2 ^ j) = m / g := Nat.mul_div_mul_right _ _ hp
  have h2 : m * 2 ^ j % (g * 2 ^ j) = m % g * 2 ^ j := Nat.mul_mod_mul_right _ _ _
  rw [h1, h2]
  have h3 : (decide (g * 2 ^ j < 2 * (m % g * 2 ^ j))) = decide (g < 2 * (m % g)) := by
    rw [← Nat.mul_assoc]
    by_cases c : g < 2 * (m % g)
    · rw [decide_eq_true c, decide_eq_true (Nat.mul_lt_mul_of_pos_right c hp)]
    · rw [decide_eq_false c, decide_eq_false (fun q => c (Nat.lt_of_mul_lt_mul_right q))]
  have h4 : (g * 2 ^ j == 2 * (m % g * 2 ^ j)) = (g == 2 * (m % g)) := by
    rw [← Nat.mul_assoc]
    by_cases c : g = 2 * (m % g)
    · rw [beq_iff_eq.2 c, beq_iff_eq.2 (congrArg (· * 2 ^ j) c)]
    · have c2 : ¬ g * 2 ^ j = 2 * (m % g) * 2 ^ j := fun q => c (Nat.eq_of_mul_eq_mul_right hp q)
      rw [beq_eq_false_iff_ne.2 c, beq_eq_false_iff_ne.2 c2]
  rw [h3, h4]
theorem near_scale (s : Bool) (m j : Nat) (p : Int) : Ieee.double.nearest s (m * 2 ^ j) p = Ieee.double.nearest s m (p + j) := by
  have hp : 0 < 2 ^ j := Nat.two_pow_pos j
  unfold Format.nearest
  by_cases hm : m = 0
  · subst hm; rw [Nat.zero_mul, if_pos rfl, if_pos rfl]
  · have hm2 : ¬ m * 2 ^ j = 0 := by
      intro q
      rcases Nat.mul_eq_zero.1 q with q | q
      · exact hm q
      · omega
    rw [if_neg hm, if_neg hm2]
    have hl : (m * 2 ^ j).log2 = m.log2 + j := log2_mul hm
    have hlast : max (p + (((m * 2 ^ j).log2 : Nat) : Int) - ((Ieee.double.fractionBits : Nat) : Int)) Ieee.double.leastPlace = max (p + (j : Int) + ((m.log2 : Nat) : Int) - ((Ieee.double.fractionBits : Nat) : Int)) Ieee.double.leastPlace := by
      rw [hl]; congr 1; omega
    simp only [hlast]
    generalize max (p + (j : Int) + ((m.log2 : Nat) : Int) - ((Ieee.double.fractionBits : Nat) : Int)) Ieee.double.leastPlace = last
    have hc : Toward.even.cut s ((m * 2 ^ j) <<< (p - last).toNat) (last - p).toNat = Toward.even.cut s (m <<< (p + j - last).toNat) (last - (p + j)).toNat := by
      rcases Int.lt_or_le p last with c | c
      · rcases Int.lt_or_le (p + j) last with c2 | c2
        · have e1 : (p - last).toNat = 0 := by omega
          have e2 : (p + j - last).toNat = 0 := by omega
          have e3 : (last - p).toNat = (last - (p + j)).toNat + j := by omega
          rw [e1, e2, e3, Nat.shiftLeft_zero, Nat.shiftLeft_zero]
          exact cut_scale s hm j _
        · have e1 : (p - last).toNat = 0 := by omega
          have e2 : (last - (p + j)).toNat = 0 := by omega
          obtain ⟨d, hd⟩ : ∃ d : Nat, (last - p).toNat = d := ⟨_, rfl⟩
          have e3 : (p + j - last).toNat = j - d := by omega
          have e4 : m * 2 ^ j = m * 2 ^ (j - d) * 2 ^ d := by
            rw [Nat.mul_assoc, ← Nat.pow_add]; congr 2; omega
          have hm3 : m * 2 ^ (j - d) ≠ 0 := by
            intro q
            rcases Nat.mul_eq_zero.1 q with q | q
            · exact hm q
            · have := Nat.two_pow_pos (j - d); omega
          rw [e1, e2, e3, hd, Nat.shiftLeft_zero, Nat.shiftLeft_eq, e4]
          have := cut_scale s hm3 d 0
          rwa [Nat.zero_add] at this
      · have e1 : (last - p).toNat = 0 := by omega
        have e2 : (last - (p + j)).toNat = 0 := by omega
        have e3 : (p + j - last).toNat = j + (p - last).toNat := by omega
        rw [e1, e2, e3, Nat.shiftLeft_eq, Nat.shiftLeft_eq, Nat.pow_add, Nat.mul_assoc]
    rw [hc]

/-! ### What is written is read -/
theorem cut_zero (s : Bool) (m : Nat) : Toward.even.cut s m 0 = m := by
  unfold Toward.cut
  simp only [Nat.zero_min, Nat.shiftLeft_zero, Nat.div_one, Nat.mod_one]
  have h1 : (decide (1 < 2 * 0)) = false := by decide
  have h2 : (1 == 2 * 0) = false := by decide
  rw [h1, h2]
  simp
theorem log2_lt {m k : Nat} (hm : m ≠ 0) (h : m < 2 ^ k) : m.log2 < k := (Nat.log2_lt hm).2 h
/-- a finite word: its number, and that it is the nearest to it -/
theorem fin_word {n : Nat} (h : n < 18446744073709551616) (hr : n % 9223372036854775808 < 9218868437227405312) :
    ∃ m p, Ieee.double.read n = .number (sg n) m p ∧ Ieee.double.nearest (sg n) m p = n ∧ m < 9007199254740992 ∧ -1074 ≤ p ∧ p ≤ 971 ∧ (m = 0 ↔ n % 9223372036854775808 = 0) := by
  have hw : wd (sg n) (n % 9223372036854775808) = n := by
    unfold wd sg
    by_cases c : 9223372036854775808 ≤ n
    · rw [decide_eq_true c, if_pos rfl]; omega
    · rw [decide_eq_false c, if_neg (by decide)]; omega
  by_cases c : n % 9223372036854775808 < 4503599627370496
  · refine ⟨n % 9223372036854775808, -1074, by rw [read_eq h, if_pos c], ?_, by omega, by omega, by omega, Iff.rfl⟩
    unfold Format.nearest
    by_cases z : n % 9223372036854775808 = 0
    · rw [if_pos z, word_wd, ← z, hw]
    · rw [if_neg z]
      have hlg : (n % 9223372036854775808).log2 < 52 := log2_lt z (by show _ < 4503599627370496; exact c)
      have hlast : max (-1074 + (((n % 9223372036854775808).log2 : Nat) : Int) - ((Ieee.double.fractionBits : Nat) : Int)) Ieee.double.leastPlace = -1074 := by
        rw [w4]
        have : ((Ieee.double.fractionBits : Nat) : Int) = 52 := rfl
        rw [this]
        omega
      simp only [hlast]
      simp only [w4, w3, w2]
      have e0 : (-1074 - -1074 : Int).toNat = 0 := by decide
      rw [e0, Nat.shiftLeft_zero, cut_zero, word_wd, Nat.zero_mul, Nat.zero_add, Nat.min_eq_left (by omega), hw]
  · obtain ⟨t, f, ht, hf2, htl⟩ : ∃ t f : Nat, n % 9223372036854775808 = 4503599627370496 * (t + 1) + f ∧ f < 4503599627370496 ∧ t ≤ 2045 :=
      ⟨n % 9223372036854775808 / 4503599627370496 - 1, n % 9223372036854775808 % 4503599627370496, by omega, by omega, by omega⟩
    have hq : n % 9223372036854775808 / 4503599627370496 - 1 = t := by omega
    have hfm : n % 9223372036854775808 % 4503599627370496 = f := by omega
    refine ⟨4503599627370496 + f, -1074 + (t : Int), by rw [read_eq h, if_neg c, if_pos hr, hq, hfm], ?_, by omega, by omega, by omega, by omega⟩
    clear hq hfm
    unfold Format.nearest
    have hne : ¬ 4503599627370496 + f = 0 := by omega
    rw [if_neg hne]
    have hlg : (4503599627370496 + f).log2 = 52 := by
      have b1 : 4503599627370496 + f < 2 ^ 53 := by
        have : (2 : Nat) ^ 53 = 9007199254740992 := by decide
        rw [this]; omega
      have b2 : 2 ^ 52 ≤ 4503599627370496 + f := by
        have : (2 : Nat) ^ 52 = 4503599627370496 := by decide
        rw [this]; omega
      have h1 : (4503599627370496 + f).log2 < 53 := log2_lt hne b1
      have h2 : 52 ≤ (4503599627370496 + f).log2 := (Nat.le_log2 hne).2 b2
      omega
    have hlast : max (-1074 + (t : Int) + (((4503599627370496 + f).log2 : Nat) : Int) - ((Ieee.double.fractionBits : Nat) : Int)) Ieee.double.leastPlace = -1074 + (t : Int) := by
      rw [w4, hlg]
      have : ((Ieee.double.fractionBits : Nat) : Int) = 52 := rfl
      rw [this]
      omega
    simp only [hlast]
    simp only [w4, w3, w2]
    have e0 : (-1074 + (t : Int) - (-1074 + (t : Int))).toNat = 0 := by omega
    have e1 : (-1074 + (t : Int) - -1074).toNat = t := by omega
    rw [e0, e1, Nat.shiftLeft_zero, cut_zero, word_wd]
    have e2 : t * 4503599627370496 + (4503599627370496 + f) = n % 9223372036854775808 := by omega
    rw [e2, Nat.min_eq_left (by omega), hw]
end Go.Proofs.YtdchnlmclngjmaaDoor
