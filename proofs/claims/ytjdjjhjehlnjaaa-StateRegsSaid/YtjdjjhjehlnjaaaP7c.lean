/-
  Plain laws: a word laid as bytes and read again.
-/
import Derived.Test.YtjdjjhjehlnjaaaP7b
namespace Go.Sx
set_option linter.unusedVariables false
theorem or_add (n c k : Nat) (h : n < 2 ^ k) (h2 : 2 ^ k * c + n < 4294967296) : ibin .or .u32 ((n : Nat) : Int) ((2 ^ k * c : Nat) : Int) = ((2 ^ k * c + n : Nat) : Int) := by
  show IntKind.u32.wrap (((BitVec.ofInt 32 (n : Int)) ||| (BitVec.ofInt 32 ((2 ^ k * c : Nat) : Int))).toNat : Int) = _
  generalize hm : 2 ^ k * c = m at *
  have e1 : (BitVec.ofInt 32 (n : Int)).toNat = n := by
    rw [BitVec.toNat_ofInt]
    have : (n : Int) % ((2 ^ 32 : Nat) : Int) = n := Int.emod_eq_of_lt (by omega) (by omega)
    rw [this]; rfl
  have e2 : (BitVec.ofInt 32 (m : Int)).toNat = m := by
    rw [BitVec.toNat_ofInt]
    have : (m : Int) % ((2 ^ 32 : Nat) : Int) = m := Int.emod_eq_of_lt (by omega) (by omega)
    rw [this]; rfl
  rw [BitVec.toNat_or, e1, e2, Nat.or_comm]
  have := Nat.two_pow_add_eq_or_of_lt h c
  rw [hm] at this
  rw [← this, IntKind.wrap_u32]
  omega
theorem or_add64 (n c k : Nat) (h : n < 2 ^ k) (h2 : 2 ^ k * c + n < 18446744073709551616) : ibin .or .u64 ((n : Nat) : Int) ((2 ^ k * c : Nat) : Int) = ((2 ^ k * c + n : Nat) : Int) := by
  show IntKind.u64.wrap (((BitVec.ofInt 64 (n : Int)) ||| (BitVec.ofInt 64 ((2 ^ k * c : Nat) : Int))).toNat : Int) = _
  generalize hm : 2 ^ k * c = m at *
  have e1 : (BitVec.ofInt 64 (n : Int)).toNat = n := by
    rw [BitVec.toNat_ofInt]
    have : (n : Int) % ((2 ^ 64 : Nat) : Int) = n := Int.emod_eq_of_lt (by omega) (by omega)
    rw [this]; rfl
  have e2 : (BitVec.ofInt 64 (m : Int)).toNat = m := by
    rw [BitVec.toNat_ofInt]
    have : (m : Int) % ((2 ^ 64 : Nat) : Int) = m := Int.emod_eq_of_lt (by omega) (by omega)
    rw [this]; rfl
  rw [BitVec.toNat_or, e1, e2, Nat.or_comm]
  have := Nat.two_pow_add_eq_or_of_lt h c
  rw [hm] at this
  rw [← this, IntKind.wrap_u64]
  omega
theorem word_back (x : Int) (h0 : 0 ≤ x) (h1 : x ≤ 4294967295) :
    ibin .or .u32 (ibin .or .u32 (ibin .or .u32 (IntKind.wrap .u32 (IntKind.wrap .u8 x)) (ibin .shl .u32 (IntKind.wrap .u32 (IntKind.wrap .u8 (ibin .shr .u32 x 8))) 8)) (ibin .shl .u32 (IntKind.wrap .u32 (IntKind.wrap .u8 (ibin .shr .u32 x 16))) 16)) (ibin .shl .u32 (IntKind.wrap .u32 (IntKind.wrap .u8 (ibin .shr .u32 x 24))) 24) = x := by
  obtain ⟨n, rfl⟩ := Int.eq_ofNat_of_zero_le h0
  have s8 : ibin .shr .u32 (n : Int) 8 = n / 256 := shr_lit .u32 _ 8 8 256 (by decide) (by decide) (by decide)
  have s16 : ibin .shr .u32 (n : Int) 16 = n / 65536 := shr_lit .u32 _ 16 16 65536 (by decide) (by decide) (by decide)
  have s24 : ibin .shr .u32 (n : Int) 24 = n / 16777216 := shr_lit .u32 _ 24 24 16777216 (by decide) (by decide) (by decide)
  have l8 : ∀ y : Int, ibin .shl .u32 y 8 = y * 256 % 4294967296 := fun y => IntKind.wrap_u32 _
  have l16 : ∀ y : Int, ibin .shl .u32 y 16 = y * 65536 % 4294967296 := fun y => IntKind.wrap_u32 _
  have l24 : ∀ y : Int, ibin .shl .u32 y 24 = y * 16777216 % 4294967296 := fun y => IntKind.wrap_u32 _
  rw [s8, s16, s24, l8, l16, l24]
  simp only [IntKind.wrap_u32, IntKind.wrap_u8]
  have t0 : (n : Int) % 256 % 4294967296 = ((n % 256 : Nat) : Int) := by omega
  have t1 : (n : Int) / 256 % 256 % 4294967296 * 256 % 4294967296 = ((2 ^ 8 * (n / 256 % 256) : Nat) : Int) := by omega
  have t2 : (n : Int) / 65536 % 256 % 4294967296 * 65536 % 4294967296 = ((2 ^ 16 * (n / 65536 % 256) : Nat) : Int) := by omega
  have t3 : (n : Int) / 16777216 % 256 % 4294967296 * 16777216 % 4294967296 = ((2 ^ 24 * (n / 16777216 % 256) : Nat) : Int) := by omega
  rw [t0, t1, t2, t3, or_add _ _ 8 (by omega) (by omega), or_add _ _ 16 (by omega) (by omega), or_add _ _ 24 (by omega) (by omega)]
  omega
theorem wide_back (x : Int) (h0 : 0 ≤ x) (h1 : x ≤ 18446744073709551615) :
    ibin .or .u64 (IntKind.wrap .u64 (IntKind.wrap .u32 x)) (ibin .shl .u64 (IntKind.wrap .u64 (IntKind.wrap .u32 (ibin .shr .u64 x 32))) 32) = x := by
  obtain ⟨n, rfl⟩ := Int.eq_ofNat_of_zero_le h0
  have s : ibin .shr .u64 (n : Int) 32 = n / 4294967296 := shr_lit .u64 _ 32 32 4294967296 (by decide) (by decide) (by decide)
  have l : ∀ y : Int, ibin .shl .u64 y 32 = y * 4294967296 % 18446744073709551616 := fun y => IntKind.wrap_u64 _
  rw [s, l]
  simp only [IntKind.wrap_u32, IntKind.wrap_u64]
  have t0 : (n : Int) % 4294967296 % 18446744073709551616 = ((n % 4294967296 : Nat) : Int) := by omega
  have t1 : (n : Int) / 4294967296 % 4294967296 % 18446744073709551616 * 4294967296 % 18446744073709551616 = ((2 ^ 32 * (n / 4294967296) : Nat) : Int) := by omega
  rw [t0, t1, or_add64 _ _ 32 (by omega) (by omega)]
  omega
theorem ibin_or_comm (k : IntKind) (a b : Int) : ibin .or k a b = ibin .or k b a := by
  show k.wrap _ = k.wrap _
  rw [BitVec.or_comm]
theorem wide_back2 (x : Int) (h0 : 0 ≤ x) (h1 : x ≤ 18446744073709551615) :
    ibin .or .u64 (ibin .shl .u64 (IntKind.wrap .u64 (IntKind.wrap .u32 (ibin .shr .u64 x 32))) 32) (IntKind.wrap .u64 (IntKind.wrap .u32 x)) = x := by
  rw [ibin_or_comm]; exact wide_back x h0 h1
theorem eql_self (x : Int) : icmp .eql x x = true := by simp only [icmp, beq_self_eq_true]
theorem neq_self (x : Int) : icmp .neq x x = false := by simp only [icmp, bne_self_eq_false]
theorem u32_in (x : Int) : 0 ≤ IntKind.wrap .u32 x ∧ IntKind.wrap .u32 x ≤ 4294967295 := by
  rw [IntKind.wrap_u32]; omega
end Go.Sx
