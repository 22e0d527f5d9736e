/- Plain numbers: what the functions of package bits (and of the document's layer 1) compute, over Int. No program in sight. -/
import Derived.RowKit
import Derived.IntWalk
import Derived.Laws.BitsAll
namespace Go.Proofs.Ytndfcpkmchjncaa
open Go.RowKit

def clamp1 (n : Int) : Nat := if n < 1 then 1 else if 32 < n then 32 else n.toNat
def clamp0 (n : Int) : Nat := if n < 0 then 0 else if 32 < n then 32 else n.toNat
def sgm (m : Nat) (x : Int) : Int := (x + 2 ^ (m - 1)) % 2 ^ m - 2 ^ (m - 1)
def sgn (x n : Int) : Int := sgm (clamp1 n) x
def fld (x a n : Int) : Int :=
  if 32 ≤ a ∨ a ≤ -32 then 0 else if a < 0 then x * 2 ^ (-a).toNat % 2 ^ clamp0 n else x / 2 ^ a.toNat % 2 ^ clamp0 n
def parN (x : Int) : Nat → Bool
  | 0 => false
  | k + 1 => parN x k != (x / 2 ^ k % 2 == 1)
def par (x : Int) : Bool := !parN x 8
def c2i (c : Bool) : Int := if c then 1 else 0
def addR (a b : Int) (c : Bool) : Int := (a + b + c2i c) % 4294967296
def addC (a b : Int) (c : Bool) : Bool := decide (4294967296 ≤ a + b + c2i c)
def wideB (n : Int) : Bool := n != wrap32 n
def addO (a b : Int) (c : Bool) : Bool := wideB (wrap32 a + wrap32 b + c2i c)
def subR (a b : Int) (c : Bool) : Int := (a - b - c2i c) % 4294967296
def subC (a b : Int) (c : Bool) : Bool := decide (a - b - c2i c < 0)
def subO (a b : Int) (c : Bool) : Bool := wideB (wrap32 a - wrap32 b - c2i c)
def mulUl (a b : Int) : Int := a * b % 4294967296
def mulUh (a b : Int) : Int := a * b / 4294967296
def mulSl (a b : Int) : Int := a * b % 4294967296
def mulSh (a b : Int) : Int := wrap32 a * wrap32 b / 4294967296 % 4294967296

theorem clamp1_bd (n : Int) : 1 ≤ clamp1 n ∧ clamp1 n ≤ 32 := by unfold clamp1; split <;> (try split) <;> omega
theorem clamp0_bd (n : Int) : clamp0 n ≤ 32 := by unfold clamp0; split <;> (try split) <;> omega
theorem pow_pos (k : Nat) : (0 : Int) < 2 ^ k := Int.pow_pos (by decide)
theorem c2i_bd (c : Bool) : 0 ≤ c2i c ∧ c2i c ≤ 1 := by cases c <;> decide

theorem wrap32_bd (x : Int) : -2147483648 ≤ wrap32 x ∧ wrap32 x ≤ 2147483647 := by unfold wrap32; omega
theorem wrap32_mod (x : Int) : wrap32 x % 4294967296 = x % 4294967296 := by unfold wrap32; omega
theorem wrap32_cases (x : Int) (h0 : 0 ≤ x) (h1 : x < 4294967296) : (x < 2147483648 ∧ wrap32 x = x) ∨ (2147483648 ≤ x ∧ wrap32 x = x - 4294967296) := by unfold wrap32; omega

theorem pow_le_32 {k : Nat} (h : k ≤ 32) : (2 : Int) ^ k ≤ 4294967296 := by
  have : (2 : Int) ^ k ≤ 2 ^ 32 := by
    have := Nat.pow_le_pow_right (n := 2) (by decide) h
    have h2 : ((2 ^ k : Nat) : Int) ≤ ((2 ^ 32 : Nat) : Int) := Int.ofNat_le.2 this
    simpa using h2
  simpa using this

theorem fld_bd (x a n : Int) : 0 ≤ fld x a n ∧ fld x a n < 4294967296 := by
  have hp := pow_pos (clamp0 n)
  have hq := pow_le_32 (clamp0_bd n)
  unfold fld; split
  · omega
  · split
    · have := Int.emod_nonneg (x * 2 ^ (-a).toNat) (Int.ne_of_gt hp); have := Int.emod_lt_of_pos (x * 2 ^ (-a).toNat) hp; omega
    · have := Int.emod_nonneg (x / 2 ^ a.toNat) (Int.ne_of_gt hp); have := Int.emod_lt_of_pos (x / 2 ^ a.toNat) hp; omega

theorem sgm_bd (m : Nat) (x : Int) (h1 : 1 ≤ m) (h2 : m ≤ 32) : -2147483648 ≤ sgm m x ∧ sgm m x ≤ 2147483647 := by
  have hp := pow_pos m
  have hs : (2 : Int) ^ m = 2 ^ (m - 1) * 2 := by rw [← Int.pow_succ]; congr 1; omega
  have hq := pow_le_32 h2
  unfold sgm
  have := Int.emod_nonneg (x + 2 ^ (m - 1)) (Int.ne_of_gt hp); have := Int.emod_lt_of_pos (x + 2 ^ (m - 1)) hp
  omega
theorem sgn_bd (x n : Int) : -2147483648 ≤ sgn x n ∧ sgn x n ≤ 2147483647 := sgm_bd _ _ (clamp1_bd n).1 (clamp1_bd n).2

/-- the shift there and back -/
theorem shl_sar (x : Int) (k : Nat) (hk : k ≤ 31) : wrap32 (x * 2 ^ k % 4294967296) / 2 ^ k = sgm (32 - k) x := by
  have hp := pow_pos k
  have e1 : (4294967296 : Int) = 2 ^ (32 - k) * 2 ^ k := by rw [← Int.pow_add, show 32 - k + k = 32 by omega]; rfl
  have e2 : (2147483648 : Int) = 2 ^ (32 - k - 1) * 2 ^ k := by rw [← Int.pow_add, show 32 - k - 1 + k = 31 by omega]; rfl
  have e3 : (x * 2 ^ k % 4294967296 + 2147483648) % 4294967296 = (x * 2 ^ k + 2147483648) % 4294967296 := by omega
  unfold wrap32 sgm
  rw [e3, e1, e2, ← Int.add_mul, Int.mul_comm _ ((2 : Int) ^ k), Int.mul_comm (2 ^ (32 - k)) ((2 : Int) ^ k), Int.mul_emod_mul_of_pos _ _ hp, Int.mul_comm _ ((2 : Int) ^ k), ← Int.mul_sub, Int.mul_comm]
  exact Int.mul_ediv_cancel _ (Int.ne_of_gt hp)

theorem wrap32_sgm (x : Int) : wrap32 x = sgm 32 x := by unfold wrap32 sgm; rfl

/-- the mask 2^n - 1, as the walk spells it -/
theorem and_mask (X : Int) (n : Nat) (h0 : 0 ≤ X) (h1 : X < 18446744073709551616) (hn : n ≤ 32) :
    bits .and .u64 X (IntKind.u64.wrap (IntKind.u64.wrap (2 ^ n) - 1)) = X % 2 ^ n := by
  obtain ⟨x, rfl⟩ := Int.eq_ofNat_of_zero_le h0
  have hp : 0 < 2 ^ n := Nat.two_pow_pos n
  have hl : 2 ^ n ≤ 2 ^ 32 := Nat.pow_le_pow_right (by decide) hn
  have e : ((2 : Int) ^ n) = ((2 ^ n : Nat) : Int) := by simp
  have e1 : IntKind.u64.wrap (IntKind.u64.wrap (2 ^ n) - 1) = ((2 ^ n - 1 : Nat) : Int) := by
    rw [e, IntKind.wrap_u64, IntKind.wrap_u64]; omega
  rw [e1, e]
  have h3 : bits .and .u64 (x : Int) ((2 ^ n - 1 : Nat) : Int) = ((x &&& (2 ^ n - 1) : Nat) : Int) := by
    have h1 : (BitVec.ofInt 64 (x : Int)).toNat = x := by
      rw [BitVec.ofInt_natCast, BitVec.toNat_ofNat]; exact Nat.mod_eq_of_lt (by omega)
    have h2 : (BitVec.ofInt 64 ((2 ^ n - 1 : Nat) : Int)).toNat = 2 ^ n - 1 := by
      rw [BitVec.ofInt_natCast, BitVec.toNat_ofNat]; exact Nat.mod_eq_of_lt (by omega)
    show IntKind.u64.wrap ((BitVec.ofInt 64 (x : Int) &&& BitVec.ofInt 64 ((2 ^ n - 1 : Nat) : Int)).toNat : Int) = _
    rw [BitVec.toNat_and, h1, h2, IntKind.wrap_u64]
    have : x &&& (2 ^ n - 1) ≤ x := Nat.and_le_left
    omega
  rw [h3, Nat.and_two_pow_sub_one_eq_mod]
  simp

theorem mulU_bd (a b : Int) (ha0 : 0 ≤ a) (ha1 : a < 4294967296) (hb0 : 0 ≤ b) (hb1 : b < 4294967296) : 0 ≤ a * b ∧ a * b ≤ 18446744065119617025 := by
  have h := Int.mul_le_mul (show a ≤ 4294967295 by omega) (show b ≤ 4294967295 by omega) hb0 (by omega)
  exact ⟨Int.mul_nonneg ha0 hb0, by omega⟩
theorem mulS_bd (a b : Int) (ha0 : -2147483648 ≤ a) (ha1 : a ≤ 2147483648) (hb0 : -2147483648 ≤ b) (hb1 : b ≤ 2147483648) : -4611686018427387904 ≤ a * b ∧ a * b ≤ 4611686018427387904 := by
  have e1 : a * b = (a + 2147483648) * (b + 2147483648) - 2147483648 * a - 2147483648 * b - 4611686018427387904 := by
    rw [Int.add_mul, Int.mul_add, Int.mul_add]; omega
  have p1 := Int.mul_nonneg (show 0 ≤ a + 2147483648 by omega) (show 0 ≤ b + 2147483648 by omega)
  have p2 := Int.mul_nonneg (show 0 ≤ 2147483648 - a by omega) (show 0 ≤ 2147483648 - b by omega)
  have p3 := Int.mul_nonneg (show 0 ≤ a + 2147483648 by omega) (show 0 ≤ 2147483648 - b by omega)
  have p4 := Int.mul_nonneg (show 0 ≤ 2147483648 - a by omega) (show 0 ≤ b + 2147483648 by omega)
  simp only [Int.add_mul, Int.mul_add, Int.sub_mul, Int.mul_sub] at p1 p2 p3 p4
  generalize a * b = t at *
  omega

end Go.Proofs.Ytndfcpkmchjncaa
