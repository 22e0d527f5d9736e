/- Plain numbers: quotient and rest, over Int. No program in sight. -/
import Derived.Test.YtndfcpkmchjncaaAluMath
namespace Go.Proofs.Ytndfcpkmchjncaa
open Go.RowKit
set_option linter.unusedVariables false

def nOf (lo hi : Int) : Int := hi * 4294967296 + lo
def uOk (lo hi d : Int) : Bool := decide (d ≠ 0 ∧ nOf lo hi / d ≤ 4294967295)
def uQ (lo hi d : Int) : Int := if uOk lo hi d = true then nOf lo hi / d else 0
def uR (lo hi d : Int) : Int := if uOk lo hi d = true then nOf lo hi % d else 0
def sOkN (n d : Int) : Bool := decide (d ≠ 0 ∧ ¬ (n = -9223372036854775808 ∧ d = -1) ∧ n.tdiv d = wrap32 (n.tdiv d))
def sQN (n d : Int) : Int := if sOkN n d = true then n.tdiv d % 4294967296 else 0
def sRN (n d : Int) : Int := if sOkN n d = true then n.tmod d % 4294967296 else 0

theorem or_u64 (x y : Int) (hx0 : 0 ≤ x) (hx1 : x < 18446744073709551616) (hy0 : 0 ≤ y) (hy1 : y < 18446744073709551616) : bits .or .u64 x y = ((x.toNat ||| y.toNat : Nat) : Int) := by
  obtain ⟨a, rfl⟩ := Int.eq_ofNat_of_zero_le hx0
  obtain ⟨b, rfl⟩ := Int.eq_ofNat_of_zero_le hy0
  have h1 : (BitVec.ofInt 64 (a : Int)).toNat = a := by
    rw [BitVec.ofInt_natCast, BitVec.toNat_ofNat]; exact Nat.mod_eq_of_lt (by omega)
  have h2 : (BitVec.ofInt 64 (b : Int)).toNat = b := by
    rw [BitVec.ofInt_natCast, BitVec.toNat_ofNat]; exact Nat.mod_eq_of_lt (by omega)
  show IntKind.u64.wrap ((BitVec.ofInt 64 (a : Int) ||| BitVec.ofInt 64 (b : Int)).toNat : Int) = _
  have hb : a ||| b < 2 ^ 64 := Nat.or_lt_two_pow (by omega) (by omega)
  rw [BitVec.toNat_or, h1, h2, IntKind.wrap_u64, Int.toNat_natCast, Int.toNat_natCast]
  omega

theorem hi_lo (lo hi : Int) (hl0 : 0 ≤ lo) (hl1 : lo < 4294967296) (hh0 : 0 ≤ hi) (hh1 : hi < 4294967296) : bits .or .u64 (hi * 4294967296) lo = nOf lo hi := by
  rw [or_u64 _ _ (by omega) (by omega) hl0 (by omega)]
  obtain ⟨a, rfl⟩ := Int.eq_ofNat_of_zero_le hl0
  obtain ⟨b, rfl⟩ := Int.eq_ofNat_of_zero_le hh0
  have e : ((b : Int) * 4294967296).toNat = 2 ^ 32 * b := by omega
  rw [e, Int.toNat_natCast, ← Nat.two_pow_add_eq_or_of_lt (by omega)]
  unfold nOf; omega

theorem nOf_bd (lo hi : Int) (hl0 : 0 ≤ lo) (hl1 : lo < 4294967296) (hh0 : 0 ≤ hi) (hh1 : hi < 4294967296) : 0 ≤ nOf lo hi ∧ nOf lo hi ≤ 18446744073709551615 := by unfold nOf; omega

theorem tdiv_bd (n d : Int) (hn0 : -9223372036854775808 ≤ n) (hn1 : n ≤ 9223372036854775807) (hm : ¬ (n = -9223372036854775808 ∧ d = -1)) :
    -9223372036854775808 ≤ n.tdiv d ∧ n.tdiv d ≤ 9223372036854775807 := by
  have h := Int.natAbs_tdiv_le_natAbs n d
  by_cases hn : n = -9223372036854775808
  · subst hn
    have hd : d ≠ -1 := fun e => hm ⟨rfl, e⟩
    by_cases h0 : 0 ≤ d
    · have e1 : (-9223372036854775808 : Int).tdiv d = -(9223372036854775808 / d) := by
        rw [← Int.tdiv_eq_ediv_of_nonneg (by omega), ← Int.neg_tdiv]
      have h4 : 0 ≤ 9223372036854775808 / d := Int.ediv_nonneg (by omega) h0
      omega
    · have e1 : (-9223372036854775808 : Int).tdiv d = 9223372036854775808 / (-d) := by
        rw [← Int.tdiv_eq_ediv_of_nonneg (by omega), ← Int.neg_tdiv_neg]; simp
      rw [e1]
      have h2 : (2 : Int) ≤ -d := by omega
      have h3 := Int.ediv_mul_le 9223372036854775808 (show -d ≠ 0 by omega)
      have h4 : 0 ≤ 9223372036854775808 / (-d) := Int.ediv_nonneg (by omega) (by omega)
      have h5 := Int.mul_le_mul_of_nonneg_left h2 h4
      omega
  · omega

theorem tmod_bd (n d : Int) (hz : d ≠ 0) (hd0 : -2147483648 ≤ d) (hd1 : d ≤ 2147483647) : -2147483648 ≤ n.tmod d ∧ n.tmod d ≤ 2147483648 := by
  have h1 := Int.natAbs_tmod n d
  have h2 := Nat.mod_lt n.natAbs (show 0 < d.natAbs by omega)
  omega

end Go.Proofs.Ytndfcpkmchjncaa
