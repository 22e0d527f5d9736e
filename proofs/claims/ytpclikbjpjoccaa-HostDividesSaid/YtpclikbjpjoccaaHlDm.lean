/-
  HostDivides: plain facts on quotients and rests.
-/
import Derived.Test.YtpclikbjpjoccaaBase
namespace Go.Proofs.Ytpclikbjpjoccaa
open Go Go.Sx
set_option linter.unusedVariables false
set_option linter.unusedSimpArgs false

def dQ (k : Nat) (a b : Int) : Int := hoReckons (42 + (k : Int)) a b
def sgd (a : Int) : Int := IntKind.wrap .i64 (IntKind.wrap .i32 a)
theorem sgd_eq {a : Int} (h : 0 ≤ a ∧ a ≤ 4294967295) : sgd a = if a < 2147483648 then a else a - 4294967296 := by
  unfold sgd; rw [IntKind.wrap_i32, IntKind.wrap_i64]; split <;> omega
theorem dQ_z0 (a : Int) : dQ 0 a 0 = 4294967295 ∧ dQ 1 a 0 = 4294967295 ∧ dQ 2 a 0 = a ∧ dQ 3 a 0 = a := ⟨rfl, rfl, rfl, rfl⟩
theorem dQ_0 {a b : Int} (h : b ≠ 0) : dQ 0 a b = IntKind.wrap .u32 (IntKind.wrap .i64 ((sgd a).tdiv (sgd b))) := by
  have e : icmp .eql b 0 = false := by simp [icmp, h]
  show (bif icmp .eql b 0 then (4294967295 : Int) else bif icmp .eql b 0 then 0 else IntKind.wrap .u32 (IntKind.wrap .i64 ((sgd a).tdiv (sgd b)))) = _
  rw [e]; rfl
theorem dQ_1 {a b : Int} (h : b ≠ 0) : dQ 1 a b = IntKind.wrap .u32 (a.tdiv b) := by
  have e : icmp .eql b 0 = false := by simp [icmp, h]
  show (bif icmp .eql b 0 then (4294967295 : Int) else bif icmp .eql b 0 then (0 : Int) else IntKind.wrap .u32 (a.tdiv b)) = _
  rw [e]; rfl
theorem dQ_2 {a b : Int} (h : b ≠ 0) : dQ 2 a b = IntKind.wrap .u32 ((sgd a).tmod (sgd b)) := by
  have e : icmp .eql b 0 = false := by simp [icmp, h]
  show (bif icmp .eql b 0 then (bif icmp .eql b 0 then a else 0 : Int) else bif icmp .eql b 0 then (0 : Int) else IntKind.wrap .u32 ((sgd a).tmod (sgd b))) = _
  rw [e]; rfl
theorem dQ_3 {a b : Int} (h : b ≠ 0) : dQ 3 a b = a.tmod b := by
  have e : icmp .eql b 0 = false := by simp [icmp, h]
  show (bif icmp .eql b 0 then (bif icmp .eql b 0 then a else 0 : Int) else bif icmp .eql b 0 then (0 : Int) else a.tmod b) = _
  rw [e]; rfl

theorem back32 {q r b s : Int} (x t : Int) (hb : b = s + 4294967296 * t) (hx : q * s + r = x) : (q % 4294967296 * b % 4294967296 + r % 4294967296) % 4294967296 = x % 4294967296 := by
  rw [Int.emod_add_emod, Int.add_emod_emod, Int.add_emod, Int.mul_emod, Int.emod_emod, ← Int.mul_emod, ← Int.add_emod, hb, ← hx, Int.mul_add, show q * s + q * (4294967296 * t) + r = q * s + r + 4294967296 * (q * t) by rw [← Int.mul_assoc, Int.mul_comm q 4294967296, Int.mul_assoc]; omega, Int.add_mul_emod_self_left]
theorem sgd_t {a : Int} (h : 0 ≤ a ∧ a ≤ 4294967295) : ∃ t, a = sgd a + 4294967296 * t := by
  rw [sgd_eq h]; split
  · exact ⟨0, by omega⟩
  · exact ⟨1, by omega⟩
theorem tdiv_bd {x y : Int} (h : y ≠ 0) (hx : -2147483648 ≤ x ∧ x ≤ 2147483647) : -2147483648 ≤ x.tdiv y ∧ x.tdiv y ≤ 2147483648 := by
  have h1 : (x.tdiv y).natAbs ≤ x.natAbs := by rw [Int.natAbs_tdiv]; exact Nat.div_le_self _ _
  omega
theorem sgd_bd {a : Int} (h : 0 ≤ a ∧ a ≤ 4294967295) : -2147483648 ≤ sgd a ∧ sgd a ≤ 2147483647 := by rw [sgd_eq h]; split <;> omega
theorem sgd_nz {a : Int} (h : 0 ≤ a ∧ a ≤ 4294967295) (h0 : a ≠ 0) : sgd a ≠ 0 := by rw [sgd_eq h]; split <;> omega

section
variable {a b : Int} (ha : 0 ≤ a ∧ a ≤ 4294967295) (hb : 0 ≤ b ∧ b ≤ 4294967295) (h0 : b ≠ 0)
include ha hb h0
theorem div_s : IntKind.wrap .u32 (IntKind.wrap .u32 (dQ 0 a b * b) + dQ 2 a b) = a := by
  have q := tdiv_bd (sgd_nz hb h0) (sgd_bd ha)
  obtain ⟨t, ht⟩ := sgd_t hb
  obtain ⟨u, hu⟩ := sgd_t ha
  have e : IntKind.wrap .i64 ((sgd a).tdiv (sgd b)) = (sgd a).tdiv (sgd b) := by rw [IntKind.wrap_i64]; omega
  rw [dQ_0 h0, dQ_2 h0, e]
  simp only [IntKind.wrap_u32]
  rw [back32 (sgd a) t ht (by have := Int.tmod_add_mul_tdiv (sgd a) (sgd b); rw [Int.mul_comm] at this; omega)]
  omega
theorem div_u : IntKind.wrap .u32 (IntKind.wrap .u32 (dQ 1 a b * b) + dQ 3 a b) = a := by
  rw [dQ_1 h0, dQ_3 h0]
  have h3 : 0 ≤ a.tmod b := Int.tmod_nonneg _ ha.1
  have h4 : a.tmod b < b := Int.tmod_lt_of_pos _ (by omega)
  have h5 : a.tmod b % 4294967296 = a.tmod b := by omega
  simp only [IntKind.wrap_u32]
  rw [← h5, back32 (s := b) a 0 (by omega) (by have := Int.tmod_add_mul_tdiv a b; rw [Int.mul_comm] at this; omega)]
  omega
theorem div_s' : (dQ 0 a b * b + dQ 2 a b) % 4294967296 = a := by
  have h := div_s ha hb h0
  rw [IntKind.wrap_u32, IntKind.wrap_u32, Int.emod_add_emod] at h; exact h
theorem div_u' : (dQ 1 a b * b + dQ 3 a b) % 4294967296 = a := by
  have h := div_u ha hb h0
  rw [IntKind.wrap_u32, IntKind.wrap_u32, Int.emod_add_emod] at h; exact h
omit ha hb in
theorem rem_u (hb : 0 ≤ b) : dQ 3 a b < b := by
  rw [dQ_3 h0]; exact Int.tmod_lt_of_pos _ (by omega)
omit ha hb in
theorem div_e (h : a = 2147483648) (k : b = 4294967295) : dQ 0 a b = a ∧ dQ 2 a b = 0 := by
  subst h; subst k; rw [dQ_0 h0, dQ_2 h0]; exact ⟨by kernel_rfl, by kernel_rfl⟩
end

end Go.Proofs.Ytpclikbjpjoccaa
