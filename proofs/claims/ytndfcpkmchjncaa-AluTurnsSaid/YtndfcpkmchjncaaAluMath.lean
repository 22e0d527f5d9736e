/- Plain numbers: what package alu computes, over Int. No program in sight. -/
import Derived.Test.YtndfcpkmchjncaaBitsMath
namespace Go.Proofs.Ytndfcpkmchjncaa
open Go.RowKit
set_option linter.unusedVariables false

theorem bits_u32_bd (op : BinOp) (a b : Int) : 0 ≤ bits op .u32 a b ∧ bits op .u32 a b < 4294967296 := by
  have h : ∀ n : Int, 0 ≤ IntKind.u32.wrap n ∧ IntKind.u32.wrap n < 4294967296 := fun n => by rw [IntKind.wrap_u32']; omega
  unfold bits; exact h _
theorem and15_bd (a : Int) (h0 : 0 ≤ a) (h1 : a < 4294967296) : bits .and .u32 a 15 = a % 16 := by
  obtain ⟨n, rfl⟩ := Int.eq_ofNat_of_zero_le h0
  have a1 : (BitVec.ofInt 32 (n : Int)).toNat = n := by
    rw [BitVec.ofInt_natCast, BitVec.toNat_ofNat]; exact Nat.mod_eq_of_lt (by omega)
  have b : (BitVec.ofInt 32 15).toNat = 2 ^ 4 - 1 := by decide
  show IntKind.u32.wrap ((BitVec.ofInt 32 (n : Int) &&& BitVec.ofInt 32 15).toNat : Int) = _
  rw [BitVec.toNat_and, a1, b, IntKind.wrap_u32', Nat.and_two_pow_sub_one_eq_mod]
  omega
theorem addR_bd (a b : Int) (c : Bool) : 0 ≤ addR a b c ∧ addR a b c < 4294967296 := by unfold addR; omega
theorem subR_bd (a b : Int) (c : Bool) : 0 ≤ subR a b c ∧ subR a b c < 4294967296 := by unfold subR; omega
theorem mulUh_bd (a b : Int) (ha0 : 0 ≤ a) (ha1 : a < 4294967296) (hb0 : 0 ≤ b) (hb1 : b < 4294967296) : 0 ≤ mulUh a b ∧ mulUh a b ≤ 4294967294 := by
  have := mulU_bd a b ha0 ha1 hb0 hb1
  unfold mulUh; omega
theorem mulUl_bd (a b : Int) : 0 ≤ mulUl a b ∧ mulUl a b < 4294967296 := by unfold mulUl; omega
theorem mulSl_bd (a b : Int) : 0 ≤ mulSl a b ∧ mulSl a b < 4294967296 := by unfold mulSl; omega
theorem mulSh_bd (a b : Int) : 0 ≤ mulSh a b ∧ mulSh a b < 4294967296 := by unfold mulSh; omega
def addA (a b : Int) (c : Bool) : Bool := decide (15 < addR (a % 16) (b % 16) c)
def subA (a b : Int) (c : Bool) : Bool := subC (a % 16) (b % 16) c
def zf (r : Int) : Bool := r == 0
def sf (r : Int) : Bool := r / 2147483648 == 1
theorem not_u32 (b : Int) (h0 : 0 ≤ b) (h1 : b < 4294967296) : bits .xor .u32 IntKind.u32.max b = 4294967295 - b := by
  obtain ⟨n, rfl⟩ := Int.eq_ofNat_of_zero_le h0
  have a : (BitVec.ofInt 32 (n : Int)).toNat = n := by
    rw [BitVec.ofInt_natCast, BitVec.toNat_ofNat]; exact Nat.mod_eq_of_lt (by omega)
  show IntKind.u32.wrap ((BitVec.ofInt 32 4294967295 ^^^ BitVec.ofInt 32 (n : Int)).toNat : Int) = _
  rw [show (BitVec.ofInt 32 4294967295) = BitVec.allOnes 32 by decide, BitVec.allOnes_xor, BitVec.toNat_not, a, IntKind.wrap_u32']
  omega

/-- a bit of a word -/
def bt (x j : Int) : Bool := x / 2 ^ j.toNat % 2 == 1
def shlR (a k : Int) : Int := a * 2 ^ k.toNat % 4294967296
def shrR (a k : Int) : Int := a / 2 ^ k.toNat
def sarR (a k : Int) : Int := wrap32 a / 2 ^ k.toNat % 4294967296
def rolR (a k : Int) : Int := bits .or .u32 (shlR a k) (shrR a (32 - k))
def rorR (a k : Int) : Int := bits .or .u32 (shrR a k) (shlR a (32 - k))
theorem shlR_def (a k : Int) : shlR a k = a * 2 ^ k.toNat % 4294967296 := rfl
theorem shrR_def (a k : Int) : shrR a k = a / 2 ^ k.toNat := rfl
theorem sarR_def (a k : Int) : sarR a k = wrap32 a / 2 ^ k.toNat % 4294967296 := rfl
theorem rolR_def (a k : Int) : rolR a k = bits .or .u32 (a * 2 ^ k.toNat % 4294967296) (a / 2 ^ (32 - k).toNat) := rfl
theorem rorR_def (a k : Int) : rorR a k = bits .or .u32 (a / 2 ^ k.toNat) (a * 2 ^ (32 - k).toNat % 4294967296) := rfl
theorem shlR_bd (a k : Int) : 0 ≤ shlR a k ∧ shlR a k < 4294967296 := by unfold shlR; omega
theorem shrR_bd (a k : Int) (h0 : 0 ≤ a) (h1 : a < 4294967296) : 0 ≤ shrR a k ∧ shrR a k < 4294967296 := by
  have hp := pow_pos k.toNat
  have h2 : 0 ≤ a / 2 ^ k.toNat := Int.ediv_nonneg h0 (Int.le_of_lt hp)
  have h3 : a / 2 ^ k.toNat ≤ a := Int.ediv_le_self _ h0
  unfold shrR; omega
theorem sarR_bd (a k : Int) : 0 ≤ sarR a k ∧ sarR a k < 4294967296 := by unfold sarR; omega
theorem rolR_bd (a k : Int) : 0 ≤ rolR a k ∧ rolR a k < 4294967296 := bits_u32_bd _ _ _
theorem rorR_bd (a k : Int) : 0 ≤ rorR a k ∧ rorR a k < 4294967296 := bits_u32_bd _ _ _

end Go.Proofs.Ytndfcpkmchjncaa
