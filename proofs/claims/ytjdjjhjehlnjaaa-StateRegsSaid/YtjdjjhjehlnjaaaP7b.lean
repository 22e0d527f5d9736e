/-
  Plain laws for the law StateTells.
-/
import Derived.Test.YtjdjjhjehlnjaaaP7
import Derived.Laws.Bits64
namespace Go.Sx
set_option linter.unusedVariables false
theorem and255_u32 (a : Int) : ibin .and .u32 a 255 = a % 256 := by
  have hb : (BitVec.ofInt 32 255).toNat = 2 ^ 8 - 1 := by decide
  have e : ((BitVec.ofInt 32 a) &&& (BitVec.ofInt 32 255)).toNat = (a % 4294967296).toNat % 256 := by
    rw [BitVec.toNat_and, hb, Nat.and_two_pow_sub_one_eq_mod, BitVec.toNat_ofInt]
    rfl
  show IntKind.u32.wrap (((BitVec.ofInt 32 a) &&& (BitVec.ofInt 32 255)).toNat : Int) = _
  rw [e, IntKind.wrap_u32]
  omega
theorem and1_u32 (a : Int) : ibin .and .u32 a 1 = a % 2 := by
  have hb : (BitVec.ofInt 32 1).toNat = 2 ^ 1 - 1 := by decide
  have e : ((BitVec.ofInt 32 a) &&& (BitVec.ofInt 32 1)).toNat = (a % 4294967296).toNat % 2 := by
    rw [BitVec.toNat_and, hb, Nat.and_two_pow_sub_one_eq_mod, BitVec.toNat_ofInt]
    rfl
  show IntKind.u32.wrap (((BitVec.ofInt 32 a) &&& (BitVec.ofInt 32 1)).toNat : Int) = _
  rw [e, IntKind.wrap_u32]
  omega
theorem and255_u64 (a : Int) : ibin .and .u64 a 255 = a % 256 := by
  have hb : (BitVec.ofInt 64 255).toNat = 2 ^ 8 - 1 := by decide
  have e : ((BitVec.ofInt 64 a) &&& (BitVec.ofInt 64 255)).toNat = (a % 18446744073709551616).toNat % 256 := by
    rw [BitVec.toNat_and, hb, Nat.and_two_pow_sub_one_eq_mod, BitVec.toNat_ofInt]
    rfl
  show IntKind.u64.wrap (((BitVec.ofInt 64 a) &&& (BitVec.ofInt 64 255)).toNat : Int) = _
  rw [e, IntKind.wrap_u64]
  omega
theorem shr_lit (k : IntKind) (a n : Int) (m : Nat) (d : Int) (h : min n.toNat k.bits = m) (hd : (2 : Int) ^ m = d) (h0 : 0 ≤ d) : ibin .shr k a n = a / d := by
  show a.fdiv (2 ^ (min n.toNat k.bits)) = a / d
  rw [h, hd, Int.fdiv_eq_ediv_of_nonneg a h0]
theorem field_low (a : Int) (h0 : 0 ≤ a) (h1 : a ≤ 4294967295) : IntKind.wrap .u32 (ibin .and .u64 (ibin .shr .u64 (IntKind.wrap .u64 a) 0) 255) = ibin .and .u32 a 255 := by
  rw [and255_u32, and255_u64, shr_lit .u64 _ 0 0 1 (by decide) (by decide) (by decide), IntKind.wrap_u32, IntKind.wrap_u64]
  omega
theorem field_high (a : Int) (h0 : 0 ≤ a) (h1 : a ≤ 4294967295) : IntKind.wrap .u32 (ibin .and .u64 (ibin .shr .u64 (IntKind.wrap .u64 a) 8) 255) = ibin .and .u32 (ibin .shr .u32 a 8) 255 := by
  rw [and255_u32, and255_u64, shr_lit .u64 _ 8 8 256 (by decide) (by decide) (by decide), shr_lit .u32 _ 8 8 256 (by decide) (by decide) (by decide), IntKind.wrap_u32, IntKind.wrap_u64]
  omega
theorem bit_eq (a : Int) : (icmp .eql (ibin .and .u32 a 1) 1 == icmp .neq (ibin .and .u32 a 1) 0) = true := by
  rw [and1_u32]
  have h : a % 2 = 0 ∨ a % 2 = 1 := by omega
  rcases h with h | h <;> rw [h] <;> decide
theorem bit_eq0 (a : Int) : (icmp .eql (ibin .and .u32 (ibin .shr .u32 a 0) 1) 1 == icmp .neq (ibin .and .u32 a 1) 0) = true := by
  have : ibin .shr .u32 a 0 = a := by
    rw [shr_lit .u32 _ 0 0 1 (by decide) (by decide) (by decide)]; omega
  rw [this]; exact bit_eq a
theorem refl_true (a : Int) (b : Bool) : ((a == a) && true) = true := by simp
theorem shl0 (x : Int) : ibin .shl .u32 (ibin .and .u32 x 255) 0 = ibin .and .u32 x 255 := by
  rw [and255_u32]
  show IntKind.u32.wrap (x % 256 * 2 ^ 0) = x % 256
  rw [IntKind.wrap_u32]; omega
theorem wf_bounds {k : IntKind} {a : Int} (h : (Lit.int k a).wf = true) : k.min ≤ a ∧ a ≤ k.max := by
  simpa [Lit.wf] using h
theorem wf_u32 {a : Int} (h : (Lit.int .u32 a).wf = true) : 0 ≤ a ∧ a ≤ 4294967295 := by
  have b := wf_bounds h
  have e1 : IntKind.u32.min = 0 := by decide
  have e2 : IntKind.u32.max = 4294967295 := by decide
  rw [e1, e2] at b
  exact b
theorem wf_u8 {a : Int} (h : (Lit.int .u8 a).wf = true) : 0 ≤ a ∧ a ≤ 255 := by
  have b := wf_bounds h
  have e1 : IntKind.u8.min = 0 := by decide
  have e2 : IntKind.u8.max = 255 := by decide
  rw [e1, e2] at b
  exact b
end Go.Sx
