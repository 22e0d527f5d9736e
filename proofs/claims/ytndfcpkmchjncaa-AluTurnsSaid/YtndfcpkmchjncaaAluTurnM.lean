/- Shifts and turns, a step at a time: plain laws. -/
import Derived.Test.YtndfcpkmchjncaaAluMath
import Derived.Test.YtndfcpkmchjncaaBitsWord
namespace Go.Proofs.Ytndfcpkmchjncaa
open Go.RowKit
set_option linter.unusedVariables false
set_option linter.unusedSimpArgs false

theorem k31 {k : Int} (h0 : 0 ≤ k) (h1 : k < 31) : k = 0 ∨ k = 1 ∨ k = 2 ∨ k = 3 ∨ k = 4 ∨ k = 5 ∨ k = 6 ∨ k = 7 ∨ k = 8 ∨ k = 9 ∨ k = 10 ∨ k = 11 ∨ k = 12 ∨ k = 13 ∨ k = 14 ∨ k = 15 ∨ k = 16 ∨ k = 17 ∨ k = 18 ∨ k = 19 ∨ k = 20 ∨ k = 21 ∨ k = 22 ∨ k = 23 ∨ k = 24 ∨ k = 25 ∨ k = 26 ∨ k = 27 ∨ k = 28 ∨ k = 29 ∨ k = 30 := by omega
def rolS (a k : Int) : Int := a * 2 ^ k.toNat % 4294967296 + a / 2 ^ (32 - k).toNat
def rorS (a k : Int) : Int := a / 2 ^ k.toNat + a * 2 ^ (32 - k).toNat % 4294967296
theorem or_sum' (x y : Int) (n : Nat) (hx0 : 0 ≤ x) (hx1 : x < 2 ^ n) (hy0 : 0 ≤ y) (hy1 : y * 2 ^ n < 4294967296) (hn : n ≤ 31) : bits .or .u32 (y * 2 ^ n) x = y * 2 ^ n + x := by
  rw [show bits .or .u32 (y * 2 ^ n) x = bits .or .u32 x (y * 2 ^ n) from ?_, or_sum x y n hx0 hx1 hy0 hy1 hn, Int.add_comm]
  unfold bits
  simp only [BitVec.or_comm]
theorem two_parts {a : Int} (h0 : 0 ≤ a) (h1 : a < 4294967296) {n m : Nat} (hs : n + m = 32) (hn : n ≤ 31) :
    bits .or .u32 (a * 2 ^ n % 4294967296) (a / 2 ^ m) = a * 2 ^ n % 4294967296 + a / 2 ^ m ∧ bits .or .u32 (a / 2 ^ m) (a * 2 ^ n % 4294967296) = a / 2 ^ m + a * 2 ^ n % 4294967296 := by
  have hp : (0 : Int) < 2 ^ n := pow_pos n
  have hq : (0 : Int) < 2 ^ m := pow_pos m
  have e : (4294967296 : Int) = 2 ^ n * 2 ^ m := by rw [← Int.pow_add, hs]; rfl
  have e1 : a * 2 ^ n % 4294967296 = a % 2 ^ m * 2 ^ n := by rw [e, Int.mul_comm a, Int.mul_emod_mul_of_pos _ _ hp, Int.mul_comm]
  have y0 := Int.emod_nonneg a (Int.ne_of_gt hq)
  have y1 := Int.emod_lt_of_pos a hq
  have x0 : 0 ≤ a / 2 ^ m := Int.ediv_nonneg h0 (Int.le_of_lt hq)
  have x1 : a / 2 ^ m < 2 ^ n := Int.ediv_lt_of_lt_mul hq (by rw [← e]; exact h1)
  have y2 : a % 2 ^ m * 2 ^ n < 4294967296 := by rw [e, Int.mul_comm (2 ^ n)]; exact Int.mul_lt_mul_of_pos_right y1 hp
  rw [e1]
  exact ⟨or_sum' _ _ n x0 x1 y0 y2 hn, or_sum _ _ n x0 x1 y0 y2 hn⟩
theorem rol_sum {a k : Int} (h0 : 0 ≤ a) (h1 : a < 4294967296) (k0 : 0 < k) (k1 : k < 32) : rolR a k = rolS a k := (two_parts h0 h1 (n := k.toNat) (m := (32 - k).toNat) (by omega) (by omega)).1
theorem ror_sum {a k : Int} (h0 : 0 ≤ a) (h1 : a < 4294967296) (k0 : 0 < k) (k1 : k < 32) : rorR a k = rorS a k := (two_parts h0 h1 (n := (32 - k).toNat) (m := k.toNat) (by omega) (by omega)).2

theorem shl_step {a k : Int} (h0 : 0 ≤ a) (h1 : a < 4294967296) (k0 : 0 ≤ k) (k1 : k < 31) : shlR (shlR a k) 1 = shlR a (k + 1) ∧ bt (shlR a k) 31 = bt a (32 - (k + 1)) := by
  unfold shlR bt
  rcases k31 k0 k1 with rfl | rfl | rfl | rfl | rfl | rfl | rfl | rfl | rfl | rfl | rfl | rfl | rfl | rfl | rfl | rfl | rfl | rfl | rfl | rfl | rfl | rfl | rfl | rfl | rfl | rfl | rfl | rfl | rfl | rfl | rfl
  all_goals (simp only [Int.reduceToNat, Int.reduceAdd, Int.reduceSub, Int.reducePow]; refine ⟨by omega, ?_⟩; congr 1; omega)
theorem shr_step {a k : Int} (h0 : 0 ≤ a) (h1 : a < 4294967296) (k0 : 0 ≤ k) (k1 : k < 31) : shrR (shrR a k) 1 = shrR a (k + 1) ∧ bt (shrR a k) 0 = bt a (k + 1 - 1) := by
  unfold shrR bt
  rcases k31 k0 k1 with rfl | rfl | rfl | rfl | rfl | rfl | rfl | rfl | rfl | rfl | rfl | rfl | rfl | rfl | rfl | rfl | rfl | rfl | rfl | rfl | rfl | rfl | rfl | rfl | rfl | rfl | rfl | rfl | rfl | rfl | rfl
  all_goals (simp only [Int.reduceToNat, Int.reduceAdd, Int.reduceSub, Int.reducePow]; refine ⟨by omega, ?_⟩; congr 1; omega)
theorem sar_step {a k : Int} (h0 : 0 ≤ a) (h1 : a < 4294967296) (k0 : 0 ≤ k) (k1 : k < 31) : sarR (sarR a k) 1 = sarR a (k + 1) ∧ bt (sarR a k) 0 = bt a (k + 1 - 1) := by
  unfold sarR bt
  have hw : wrap32 a = a ∨ wrap32 a = a - 4294967296 := by unfold wrap32; omega
  have hb : -2147483648 ≤ wrap32 a ∧ wrap32 a < 2147483648 := by unfold wrap32; omega
  generalize wrap32 a = s at *
  have hs : wrap32 (s / 2 ^ k.toNat % 4294967296) = s / 2 ^ k.toNat := by
    unfold wrap32
    rcases k31 k0 k1 with rfl | rfl | rfl | rfl | rfl | rfl | rfl | rfl | rfl | rfl | rfl | rfl | rfl | rfl | rfl | rfl | rfl | rfl | rfl | rfl | rfl | rfl | rfl | rfl | rfl | rfl | rfl | rfl | rfl | rfl | rfl
    all_goals (simp only [Int.reduceToNat, Int.reduceAdd, Int.reducePow]; omega)
  rw [hs]
  rcases k31 k0 k1 with rfl | rfl | rfl | rfl | rfl | rfl | rfl | rfl | rfl | rfl | rfl | rfl | rfl | rfl | rfl | rfl | rfl | rfl | rfl | rfl | rfl | rfl | rfl | rfl | rfl | rfl | rfl | rfl | rfl | rfl | rfl
  all_goals (simp only [Int.reduceToNat, Int.reduceAdd, Int.reduceSub, Int.reducePow]; refine ⟨by omega, ?_⟩; congr 1; omega)
theorem parts (a M : Int) (hM : 0 < M) : ∃ q c s, a = M * (2 * q + c) + s ∧ 0 ≤ s ∧ s < M ∧ 0 ≤ c ∧ c ≤ 1 := by
  refine ⟨a / M / 2, a / M % 2, a % M, ?_, Int.emod_nonneg _ (Int.ne_of_gt hM), Int.emod_lt_of_pos _ hM, by omega, by omega⟩
  have h1 := Int.mul_ediv_add_emod a M
  have h2 := Int.mul_ediv_add_emod (a / M) 2
  rw [h2]; omega
theorem parts2 (a M : Int) (hM : 0 < M) : ∃ q s, a = M * q + s ∧ 0 ≤ s ∧ s < M :=
  ⟨a / M, a % M, (Int.mul_ediv_add_emod a M).symm, Int.emod_nonneg _ (Int.ne_of_gt hM), Int.emod_lt_of_pos _ hM⟩
set_option maxHeartbeats 4000000 in
theorem rolS_step {a k : Int} (h0 : 0 ≤ a) (h1 : a < 4294967296) (k0 : 0 ≤ k) (k1 : k < 31) : rolS (rolS a k) 1 = rolS a (k + 1) := by
  unfold rolS
  rcases k31 k0 k1 with rfl | rfl | rfl | rfl | rfl | rfl | rfl | rfl | rfl | rfl | rfl | rfl | rfl | rfl | rfl | rfl | rfl | rfl | rfl | rfl | rfl | rfl | rfl | rfl | rfl | rfl | rfl | rfl | rfl | rfl | rfl
  · simp only [Int.reduceToNat, Int.reduceAdd, Int.reduceSub, Int.reducePow]
    obtain ⟨q, c, s, rfl, s0, s1, c0, c1⟩ := parts a 2147483648 (by decide)
    have q0 : 0 ≤ q ∧ q < 1 := by omega
    clear h0 h1
    have e1 : (2147483648 * (2 * q + c) + s) * 1 % 4294967296 = c * 2147483648 + s * 1 := by omega
    have e2 : (2147483648 * (2 * q + c) + s) / 4294967296 = q := by omega
    have e3 : (2147483648 * (2 * q + c) + s) * 2 % 4294967296 = s * 2 := by omega
    have e4 : (2147483648 * (2 * q + c) + s) / 2147483648 = 2 * q + c := by omega
    have e5 : (c * 2147483648 + s * 1 + q) * 2 % 4294967296 = s * 2 + 2 * q := by omega
    have e6 : (c * 2147483648 + s * 1 + q) / 2147483648 = c := by omega
    rw [e1, e2, e3, e4, e5, e6]; omega
  · simp only [Int.reduceToNat, Int.reduceAdd, Int.reduceSub, Int.reducePow]
    obtain ⟨q, c, s, rfl, s0, s1, c0, c1⟩ := parts a 1073741824 (by decide)
    have q0 : 0 ≤ q ∧ q < 2 := by omega
    clear h0 h1
    have e1 : (1073741824 * (2 * q + c) + s) * 2 % 4294967296 = c * 2147483648 + s * 2 := by omega
    have e2 : (1073741824 * (2 * q + c) + s) / 2147483648 = q := by omega
    have e3 : (1073741824 * (2 * q + c) + s) * 4 % 4294967296 = s * 4 := by omega
    have e4 : (1073741824 * (2 * q + c) + s) / 1073741824 = 2 * q + c := by omega
    have e5 : (c * 2147483648 + s * 2 + q) * 2 % 4294967296 = s * 4 + 2 * q := by omega
    have e6 : (c * 2147483648 + s * 2 + q) / 2147483648 = c := by omega
    rw [e1, e2, e3, e4, e5, e6]; omega
  · simp only [Int.reduceToNat, Int.reduceAdd, Int.reduceSub, Int.reducePow]
    obtain ⟨q, c, s, rfl, s0, s1, c0, c1⟩ := parts a 536870912 (by decide)
    have q0 : 0 ≤ q ∧ q < 4 := by omega
    clear h0 h1
    have e1 : (536870912 * (2 * q + c) + s) * 4 % 4294967296 = c * 2147483648 + s * 4 := by omega
    have e2 : (536870912 * (2 * q + c) + s) / 1073741824 = q := by omega
    have e3 : (536870912 * (2 * q + c) + s) * 8 % 4294967296 = s * 8 := by omega
    have e4 : (536870912 * (2 * q + c) + s) / 536870912 = 2 * q + c := by omega
    have e5 : (c * 2147483648 + s * 4 + q) * 2 % 4294967296 = s * 8 + 2 * q := by omega
    have e6 : (c * 2147483648 + s * 4 + q) / 2147483648 = c := by omega
    rw [e1, e2, e3, e4, e5, e6]; omega
  · simp only [Int.reduceToNat, Int.reduceAdd, Int.reduceSub, Int.reducePow]
    obtain ⟨q, c, s, rfl, s0, s1, c0, c1⟩ := parts a 268435456 (by decide)
    have q0 : 0 ≤ q ∧ q < 8 := by omega
    clear h0 h1
    have e1 : (268435456 * (2 * q + c) + s) * 8 % 4294967296 = c * 2147483648 + s * 8 := by omega
    have e2 : (268435456 * (2 * q + c) + s) / 536870912 = q := by omega
    have e3 : (268435456 * (2 * q + c) + s) * 16 % 4294967296 = s * 16 := by omega
    have e4 : (268435456 * (2 * q + c) + s) / 268435456 = 2 * q + c := by omega
    have e5 : (c * 2147483648 + s * 8 + q) * 2 % 4294967296 = s * 16 + 2 * q := by omega
    have e6 : (c * 2147483648 + s * 8 + q) / 2147483648 = c := by omega
    rw [e1, e2, e3, e4, e5, e6]; omega
  · simp only [Int.reduceToNat, Int.reduceAdd, Int.reduceSub, Int.reducePow]
    obtain ⟨q, c, s, rfl, s0, s1, c0, c1⟩ := parts a 134217728 (by decide)
    have q0 : 0 ≤ q ∧ q < 16 := by omega
    clear h0 h1
    have e1 : (134217728 * (2 * q + c) + s) * 16 % 4294967296 = c * 2147483648 + s * 16 := by omega
    have e2 : (134217728 * (2 * q + c) + s) / 268435456 = q := by omega
    have e3 : (134217728 * (2 * q + c) + s) * 32 % 4294967296 = s * 32 := by omega
    have e4 : (134217728 * (2 * q + c) + s) / 134217728 = 2 * q + c := by omega
    have e5 : (c * 2147483648 + s * 16 + q) * 2 % 4294967296 = s * 32 + 2 * q := by omega
    have e6 : (c * 2147483648 + s * 16 + q) / 2147483648 = c := by omega
    rw [e1, e2, e3, e4, e5, e6]; omega
  · simp only [Int.reduceToNat, Int.reduceAdd, Int.reduceSub, Int.reducePow]
    obtain ⟨q, c, s, rfl, s0, s1, c0, c1⟩ := parts a 67108864 (by decide)
    have q0 : 0 ≤ q ∧ q < 32 := by omega
    clear h0 h1
    have e1 : (67108864 * (2 * q + c) + s) * 32 % 4294967296 = c * 2147483648 + s * 32 := by omega
    have e2 : (67108864 * (2 * q + c) + s) / 134217728 = q := by omega
    have e3 : (67108864 * (2 * q + c) + s) * 64 % 4294967296 = s * 64 := by omega
    have e4 : (67108864 * (2 * q + c) + s) / 67108864 = 2 * q + c := by omega
    have e5 : (c * 2147483648 + s * 32 + q) * 2 % 4294967296 = s * 64 + 2 * q := by omega
    have e6 : (c * 2147483648 + s * 32 + q) / 2147483648 = c := by omega
    rw [e1, e2, e3, e4, e5, e6]; omega
  · simp only [Int.reduceToNat, Int.reduceAdd, Int.reduceSub, Int.reducePow]
    obtain ⟨q, c, s, rfl, s0, s1, c0, c1⟩ := parts a 33554432 (by decide)
    have q0 : 0 ≤ q ∧ q < 64 := by omega
    clear h0 h1
    have e1 : (33554432 * (2 * q + c) + s) * 64 % 4294967296 = c * 2147483648 + s * 64 := by omega
    have e2 : (33554432 * (2 * q + c) + s) / 67108864 = q := by omega
    have e3 : (33554432 * (2 * q + c) + s) * 128 % 4294967296 = s * 128 := by omega
    have e4 : (33554432 * (2 * q + c) + s) / 33554432 = 2 * q + c := by omega
    have e5 : (c * 2147483648 + s * 64 + q) * 2 % 4294967296 = s * 128 + 2 * q := by omega
    have e6 : (c * 2147483648 + s * 64 + q) / 2147483648 = c := by omega
    rw [e1, e2, e3, e4, e5, e6]; omega
  · simp only [Int.reduceToNat, Int.reduceAdd, Int.reduceSub, Int.reducePow]
    obtain ⟨q, c, s, rfl, s0, s1, c0, c1⟩ := parts a 16777216 (by decide)
    have q0 : 0 ≤ q ∧ q < 128 := by omega
    clear h0 h1
    have e1 : (16777216 * (2 * q + c) + s) * 128 % 4294967296 = c * 2147483648 + s * 128 := by omega
    have e2 : (16777216 * (2 * q + c) + s) / 33554432 = q := by omega
    have e3 : (16777216 * (2 * q + c) + s) * 256 % 4294967296 = s * 256 := by omega
    have e4 : (16777216 * (2 * q + c) + s) / 16777216 = 2 * q + c := by omega
    have e5 : (c * 2147483648 + s * 128 + q) * 2 % 4294967296 = s * 256 + 2 * q := by omega
    have e6 : (c * 2147483648 + s * 128 + q) / 2147483648 = c := by omega
    rw [e1, e2, e3, e4, e5, e6]; omega
  · simp only [Int.reduceToNat, Int.reduceAdd, Int.reduceSub, Int.reducePow]
    obtain ⟨q, c, s, rfl, s0, s1, c0, c1⟩ := parts a 8388608 (by decide)
    have q0 : 0 ≤ q ∧ q < 256 := by omega
    clear h0 h1
    have e1 : (8388608 * (2 * q + c) + s) * 256 % 4294967296 = c * 2147483648 + s * 256 := by omega
    have e2 : (8388608 * (2 * q + c) + s) / 16777216 = q := by omega
    have e3 : (8388608 * (2 * q + c) + s) * 512 % 4294967296 = s * 512 := by omega
    have e4 : (8388608 * (2 * q + c) + s) / 8388608 = 2 * q + c := by omega
    have e5 : (c * 2147483648 + s * 256 + q) * 2 % 4294967296 = s * 512 + 2 * q := by omega
    have e6 : (c * 2147483648 + s * 256 + q) / 2147483648 = c := by omega
    rw [e1, e2, e3, e4, e5, e6]; omega
  · simp only [Int.reduceToNat, Int.reduceAdd, Int.reduceSub, Int.reducePow]
    obtain ⟨q, c, s, rfl, s0, s1, c0, c1⟩ := parts a 4194304 (by decide)
    have q0 : 0 ≤ q ∧ q < 512 := by omega
    clear h0 h1
    have e1 : (4194304 * (2 * q + c) + s) * 512 % 4294967296 = c * 2147483648 + s * 512 := by omega
    have e2 : (4194304 * (2 * q + c) + s) / 8388608 = q := by omega
    have e3 : (4194304 * (2 * q + c) + s) * 1024 % 4294967296 = s * 1024 := by omega
    have e4 : (4194304 * (2 * q + c) + s) / 4194304 = 2 * q + c := by omega
    have e5 : (c * 2147483648 + s * 512 + q) * 2 % 4294967296 = s * 1024 + 2 * q := by omega
    have e6 : (c * 2147483648 + s * 512 + q) / 2147483648 = c := by omega
    rw [e1, e2, e3, e4, e5, e6]; omega
  · simp only [Int.reduceToNat, Int.reduceAdd, Int.reduceSub, Int.reducePow]
    obtain ⟨q, c, s, rfl, s0, s1, c0, c1⟩ := parts a 2097152 (by decide)
    have q0 : 0 ≤ q ∧ q < 1024 := by omega
    clear h0 h1
    have e1 : (2097152 * (2 * q + c) + s) * 1024 % 4294967296 = c * 2147483648 + s * 1024 := by omega
    have e2 : (2097152 * (2 * q + c) + s) / 4194304 = q := by omega
    have e3 : (2097152 * (2 * q + c) + s) * 2048 % 4294967296 = s * 2048 := by omega
    have e4 : (2097152 * (2 * q + c) + s) / 2097152 = 2 * q + c := by omega
    have e5 : (c * 2147483648 + s * 1024 + q) * 2 % 4294967296 = s * 2048 + 2 * q := by omega
    have e6 : (c * 2147483648 + s * 1024 + q) / 2147483648 = c := by omega
    rw [e1, e2, e3, e4, e5, e6]; omega
  · simp only [Int.reduceToNat, Int.reduceAdd, Int.reduceSub, Int.reducePow]
    obtain ⟨q, c, s, rfl, s0, s1, c0, c1⟩ := parts a 1048576 (by decide)
    have q0 : 0 ≤ q ∧ q < 2048 := by omega
    clear h0 h1
    have e1 : (1048576 * (2 * q + c) + s) * 2048 % 4294967296 = c * 2147483648 + s * 2048 := by omega
    have e2 : (1048576 * (2 * q + c) + s) / 2097152 = q := by omega
    have e3 : (1048576 * (2 * q + c) + s) * 4096 % 4294967296 = s * 4096 := by omega
    have e4 : (1048576 * (2 * q + c) + s) / 1048576 = 2 * q + c := by omega
    have e5 : (c * 2147483648 + s * 2048 + q) * 2 % 4294967296 = s * 4096 + 2 * q := by omega
    have e6 : (c * 2147483648 + s * 2048 + q) / 2147483648 = c := by omega
    rw [e1, e2, e3, e4, e5, e6]; omega
  · simp only [Int.reduceToNat, Int.reduceAdd, Int.reduceSub, Int.reducePow]
    obtain ⟨q, c, s, rfl, s0, s1, c0, c1⟩ := parts a 524288 (by decide)
    have q0 : 0 ≤ q ∧ q < 4096 := by omega
    clear h0 h1
    have e1 : (524288 * (2 * q + c) + s) * 4096 % 4294967296 = c * 2147483648 + s * 4096 := by omega
    have e2 : (524288 * (2 * q + c) + s) / 1048576 = q := by omega
    have e3 : (524288 * (2 * q + c) + s) * 8192 % 4294967296 = s * 8192 := by omega
    have e4 : (524288 * (2 * q + c) + s) / 524288 = 2 * q + c := by omega
    have e5 : (c * 2147483648 + s * 4096 + q) * 2 % 4294967296 = s * 8192 + 2 * q := by omega
    have e6 : (c * 2147483648 + s * 4096 + q) / 2147483648 = c := by omega
    rw [e1, e2, e3, e4, e5, e6]; omega
  · simp only [Int.reduceToNat, Int.reduceAdd, Int.reduceSub, Int.reducePow]
    obtain ⟨q, c, s, rfl, s0, s1, c0, c1⟩ := parts a 262144 (by decide)
    have q0 : 0 ≤ q ∧ q < 8192 := by omega
    clear h0 h1
    have e1 : (262144 * (2 * q + c) + s) * 8192 % 4294967296 = c * 2147483648 + s * 8192 := by omega
    have e2 : (262144 * (2 * q + c) + s) / 524288 = q := by omega
    have e3 : (262144 * (2 * q + c) + s) * 16384 % 4294967296 = s * 16384 := by omega
    have e4 : (262144 * (2 * q + c) + s) / 262144 = 2 * q + c := by omega
    have e5 : (c * 2147483648 + s * 8192 + q) * 2 % 4294967296 = s * 16384 + 2 * q := by omega
    have e6 : (c * 2147483648 + s * 8192 + q) / 2147483648 = c := by omega
    rw [e1, e2, e3, e4, e5, e6]; omega
  · simp only [Int.reduceToNat, Int.reduceAdd, Int.reduceSub, Int.reducePow]
    obtain ⟨q, c, s, rfl, s0, s1, c0, c1⟩ := parts a 131072 (by decide)
    have q0 : 0 ≤ q ∧ q < 16384 := by omega
    clear h0 h1
    have e1 : (131072 * (2 * q + c) + s) * 16384 % 4294967296 = c * 2147483648 + s * 16384 := by omega
    have e2 : (131072 * (2 * q + c) + s) / 262144 = q := by omega
    have e3 : (131072 * (2 * q + c) + s) * 32768 % 4294967296 = s * 32768 := by omega
    have e4 : (131072 * (2 * q + c) + s) / 131072 = 2 * q + c := by omega
    have e5 : (c * 2147483648 + s * 16384 + q) * 2 % 4294967296 = s * 32768 + 2 * q := by omega
    have e6 : (c * 2147483648 + s * 16384 + q) / 2147483648 = c := by omega
    rw [e1, e2, e3, e4, e5, e6]; omega
  · simp only [Int.reduceToNat, Int.reduceAdd, Int.reduceSub, Int.reducePow]
    obtain ⟨q, c, s, rfl, s0, s1, c0, c1⟩ := parts a 65536 (by decide)
    have q0 : 0 ≤ q ∧ q < 32768 := by omega
    clear h0 h1
    have e1 : (65536 * (2 * q + c) + s) * 32768 % 4294967296 = c * 2147483648 + s * 32768 := by omega
    have e2 : (65536 * (2 * q + c) + s) / 131072 = q := by omega
    have e3 : (65536 * (2 * q + c) + s) * 65536 % 4294967296 = s * 65536 := by omega
    have e4 : (65536 * (2 * q + c) + s) / 65536 = 2 * q + c := by omega
    have e5 : (c * 2147483648 + s * 32768 + q) * 2 % 4294967296 = s * 65536 + 2 * q := by omega
    have e6 : (c * 2147483648 + s * 32768 + q) / 2147483648 = c := by omega
    rw [e1, e2, e3, e4, e5, e6]; omega
  · simp only [Int.reduceToNat, Int.reduceAdd, Int.reduceSub, Int.reducePow]
    obtain ⟨q, c, s, rfl, s0, s1, c0, c1⟩ := parts a 32768 (by decide)
    have q0 : 0 ≤ q ∧ q < 65536 := by omega
    clear h0 h1
    have e1 : (32768 * (2 * q + c) + s) * 65536 % 4294967296 = c * 2147483648 + s * 65536 := by omega
    have e2 : (32768 * (2 * q + c) + s) / 65536 = q := by omega
    have e3 : (32768 * (2 * q + c) + s) * 131072 % 4294967296 = s * 131072 := by omega
    have e4 : (32768 * (2 * q + c) + s) / 32768 = 2 * q + c := by omega
    have e5 : (c * 2147483648 + s * 65536 + q) * 2 % 4294967296 = s * 131072 + 2 * q := by omega
    have e6 : (c * 2147483648 + s * 65536 + q) / 2147483648 = c := by omega
    rw [e1, e2, e3, e4, e5, e6]; omega
  · simp only [Int.reduceToNat, Int.reduceAdd, Int.reduceSub, Int.reducePow]
    obtain ⟨q, c, s, rfl, s0, s1, c0, c1⟩ := parts a 16384 (by decide)
    have q0 : 0 ≤ q ∧ q < 131072 := by omega
    clear h0 h1
    have e1 : (16384 * (2 * q + c) + s) * 131072 % 4294967296 = c * 2147483648 + s * 131072 := by omega
    have e2 : (16384 * (2 * q + c) + s) / 32768 = q := by omega
    have e3 : (16384 * (2 * q + c) + s) * 262144 % 4294967296 = s * 262144 := by omega
    have e4 : (16384 * (2 * q + c) + s) / 16384 = 2 * q + c := by omega
    have e5 : (c * 2147483648 + s * 131072 + q) * 2 % 4294967296 = s * 262144 + 2 * q := by omega
    have e6 : (c * 2147483648 + s * 131072 + q) / 2147483648 = c := by omega
    rw [e1, e2, e3, e4, e5, e6]; omega
  · simp only [Int.reduceToNat, Int.reduceAdd, Int.reduceSub, Int.reducePow]
    obtain ⟨q, c, s, rfl, s0, s1, c0, c1⟩ := parts a 8192 (by decide)
    have q0 : 0 ≤ q ∧ q < 262144 := by omega
    clear h0 h1
    have e1 : (8192 * (2 * q + c) + s) * 262144 % 4294967296 = c * 2147483648 + s * 262144 := by omega
    have e2 : (8192 * (2 * q + c) + s) / 16384 = q := by omega
    have e3 : (8192 * (2 * q + c) + s) * 524288 % 4294967296 = s * 524288 := by omega
    have e4 : (8192 * (2 * q + c) + s) / 8192 = 2 * q + c := by omega
    have e5 : (c * 2147483648 + s * 262144 + q) * 2 % 4294967296 = s * 524288 + 2 * q := by omega
    have e6 : (c * 2147483648 + s * 262144 + q) / 2147483648 = c := by omega
    rw [e1, e2, e3, e4, e5, e6]; omega
  · simp only [Int.reduceToNat, Int.reduceAdd, Int.reduceSub, Int.reducePow]
    obtain ⟨q, c, s, rfl, s0, s1, c0, c1⟩ := parts a 4096 (by decide)
    have q0 : 0 ≤ q ∧ q < 524288 := by omega
    clear h0 h1
    have e1 : (4096 * (2 * q + c) + s) * 524288 % 4294967296 = c * 2147483648 + s * 524288 := by omega
    have e2 : (4096 * (2 * q + c) + s) / 8192 = q := by omega
    have e3 : (4096 * (2 * q + c) + s) * 1048576 % 4294967296 = s * 1048576 := by omega
    have e4 : (4096 * (2 * q + c) + s) / 4096 = 2 * q + c := by omega
    have e5 : (c * 2147483648 + s * 524288 + q) * 2 % 4294967296 = s * 1048576 + 2 * q := by omega
    have e6 : (c * 2147483648 + s * 524288 + q) / 2147483648 = c := by omega
    rw [e1, e2, e3, e4, e5, e6]; omega
  · simp only [Int.reduceToNat, Int.reduceAdd, Int.reduceSub, Int.reducePow]
    obtain ⟨q, c, s, rfl, s0, s1, c0, c1⟩ := parts a 2048 (by decide)
    have q0 : 0 ≤ q ∧ q < 1048576 := by omega
    clear h0 h1
    have e1 : (2048 * (2 * q + c) + s) * 1048576 % 4294967296 = c * 2147483648 + s * 1048576 := by omega
    have e2 : (2048 * (2 * q + c) + s) / 4096 = q := by omega
    have e3 : (2048 * (2 * q + c) + s) * 2097152 % 4294967296 = s * 2097152 := by omega
    have e4 : (2048 * (2 * q + c) + s) / 2048 = 2 * q + c := by omega
    have e5 : (c * 2147483648 + s * 1048576 + q) * 2 % 4294967296 = s * 2097152 + 2 * q := by omega
    have e6 : (c * 2147483648 + s * 1048576 + q) / 2147483648 = c := by omega
    rw [e1, e2, e3, e4, e5, e6]; omega
  · simp only [Int.reduceToNat, Int.reduceAdd, Int.reduceSub, Int.reducePow]
    obtain ⟨q, c, s, rfl, s0, s1, c0, c1⟩ := parts a 1024 (by decide)
    have q0 : 0 ≤ q ∧ q < 2097152 := by omega
    clear h0 h1
    have e1 : (1024 * (2 * q + c) + s) * 2097152 % 4294967296 = c * 2147483648 + s * 2097152 := by omega
    have e2 : (1024 * (2 * q + c) + s) / 2048 = q := by omega
    have e3 : (1024 * (2 * q + c) + s) * 4194304 % 4294967296 = s * 4194304 := by omega
    have e4 : (1024 * (2 * q + c) + s) / 1024 = 2 * q + c := by omega
    have e5 : (c * 2147483648 + s * 2097152 + q) * 2 % 4294967296 = s * 4194304 + 2 * q := by omega
    have e6 : (c * 2147483648 + s * 2097152 + q) / 2147483648 = c := by omega
    rw [e1, e2, e3, e4, e5, e6]; omega
  · simp only [Int.reduceToNat, Int.reduceAdd, Int.reduceSub, Int.reducePow]
    obtain ⟨q, c, s, rfl, s0, s1, c0, c1⟩ := parts a 512 (by decide)
    have q0 : 0 ≤ q ∧ q < 4194304 := by omega
    clear h0 h1
    have e1 : (512 * (2 * q + c) + s) * 4194304 % 4294967296 = c * 2147483648 + s * 4194304 := by omega
    have e2 : (512 * (2 * q + c) + s) / 1024 = q := by omega
    have e3 : (512 * (2 * q + c) + s) * 8388608 % 4294967296 = s * 8388608 := by omega
    have e4 : (512 * (2 * q + c) + s) / 512 = 2 * q + c := by omega
    have e5 : (c * 2147483648 + s * 4194304 + q) * 2 % 4294967296 = s * 8388608 + 2 * q := by omega
    have e6 : (c * 2147483648 + s * 4194304 + q) / 2147483648 = c := by omega
    rw [e1, e2, e3, e4, e5, e6]; omega
  · simp only [Int.reduceToNat, Int.reduceAdd, Int.reduceSub, Int.reducePow]
    obtain ⟨q, c, s, rfl, s0, s1, c0, c1⟩ := parts a 256 (by decide)
    have q0 : 0 ≤ q ∧ q < 8388608 := by omega
    clear h0 h1
    have e1 : (256 * (2 * q + c) + s) * 8388608 % 4294967296 = c * 2147483648 + s * 8388608 := by omega
    have e2 : (256 * (2 * q + c) + s) / 512 = q := by omega
    have e3 : (256 * (2 * q + c) + s) * 16777216 % 4294967296 = s * 16777216 := by omega
    have e4 : (256 * (2 * q + c) + s) / 256 = 2 * q + c := by omega
    have e5 : (c * 2147483648 + s * 8388608 + q) * 2 % 4294967296 = s * 16777216 + 2 * q := by omega
    have e6 : (c * 2147483648 + s * 8388608 + q) / 2147483648 = c := by omega
    rw [e1, e2, e3, e4, e5, e6]; omega
  · simp only [Int.reduceToNat, Int.reduceAdd, Int.reduceSub, Int.reducePow]
    obtain ⟨q, c, s, rfl, s0, s1, c0, c1⟩ := parts a 128 (by decide)
    have q0 : 0 ≤ q ∧ q < 16777216 := by omega
    clear h0 h1
    have e1 : (128 * (2 * q + c) + s) * 16777216 % 4294967296 = c * 2147483648 + s * 16777216 := by omega
    have e2 : (128 * (2 * q + c) + s) / 256 = q := by omega
    have e3 : (128 * (2 * q + c) + s) * 33554432 % 4294967296 = s * 33554432 := by omega
    have e4 : (128 * (2 * q + c) + s) / 128 = 2 * q + c := by omega
    have e5 : (c * 2147483648 + s * 16777216 + q) * 2 % 4294967296 = s * 33554432 + 2 * q := by omega
    have e6 : (c * 2147483648 + s * 16777216 + q) / 2147483648 = c := by omega
    rw [e1, e2, e3, e4, e5, e6]; omega
  · simp only [Int.reduceToNat, Int.reduceAdd, Int.reduceSub, Int.reducePow]
    obtain ⟨q, c, s, rfl, s0, s1, c0, c1⟩ := parts a 64 (by decide)
    have q0 : 0 ≤ q ∧ q < 33554432 := by omega
    clear h0 h1
    have e1 : (64 * (2 * q + c) + s) * 33554432 % 4294967296 = c * 2147483648 + s * 33554432 := by omega
    have e2 : (64 * (2 * q + c) + s) / 128 = q := by omega
    have e3 : (64 * (2 * q + c) + s) * 67108864 % 4294967296 = s * 67108864 := by omega
    have e4 : (64 * (2 * q + c) + s) / 64 = 2 * q + c := by omega
    have e5 : (c * 2147483648 + s * 33554432 + q) * 2 % 4294967296 = s * 67108864 + 2 * q := by omega
    have e6 : (c * 2147483648 + s * 33554432 + q) / 2147483648 = c := by omega
    rw [e1, e2, e3, e4, e5, e6]; omega
  · simp only [Int.reduceToNat, Int.reduceAdd, Int.reduceSub, Int.reducePow]
    obtain ⟨q, c, s, rfl, s0, s1, c0, c1⟩ := parts a 32 (by decide)
    have q0 : 0 ≤ q ∧ q < 67108864 := by omega
    clear h0 h1
    have e1 : (32 * (2 * q + c) + s) * 67108864 % 4294967296 = c * 2147483648 + s * 67108864 := by omega
    have e2 : (32 * (2 * q + c) + s) / 64 = q := by omega
    have e3 : (32 * (2 * q + c) + s) * 134217728 % 4294967296 = s * 134217728 := by omega
    have e4 : (32 * (2 * q + c) + s) / 32 = 2 * q + c := by omega
    have e5 : (c * 2147483648 + s * 67108864 + q) * 2 % 4294967296 = s * 134217728 + 2 * q := by omega
    have e6 : (c * 2147483648 + s * 67108864 + q) / 2147483648 = c := by omega
    rw [e1, e2, e3, e4, e5, e6]; omega
  · simp only [Int.reduceToNat, Int.reduceAdd, Int.reduceSub, Int.reducePow]
    obtain ⟨q, c, s, rfl, s0, s1, c0, c1⟩ := parts a 16 (by decide)
    have q0 : 0 ≤ q ∧ q < 134217728 := by omega
    clear h0 h1
    have e1 : (16 * (2 * q + c) + s) * 134217728 % 4294967296 = c * 2147483648 + s * 134217728 := by omega
    have e2 : (16 * (2 * q + c) + s) / 32 = q := by omega
    have e3 : (16 * (2 * q + c) + s) * 268435456 % 4294967296 = s * 268435456 := by omega
    have e4 : (16 * (2 * q + c) + s) / 16 = 2 * q + c := by omega
    have e5 : (c * 2147483648 + s * 134217728 + q) * 2 % 4294967296 = s * 268435456 + 2 * q := by omega
    have e6 : (c * 2147483648 + s * 134217728 + q) / 2147483648 = c := by omega
    rw [e1, e2, e3, e4, e5, e6]; omega
  · simp only [Int.reduceToNat, Int.reduceAdd, Int.reduceSub, Int.reducePow]
    obtain ⟨q, c, s, rfl, s0, s1, c0, c1⟩ := parts a 8 (by decide)
    have q0 : 0 ≤ q ∧ q < 268435456 := by omega
    clear h0 h1
    have e1 : (8 * (2 * q + c) + s) * 268435456 % 4294967296 = c * 2147483648 + s * 268435456 := by omega
    have e2 : (8 * (2 * q + c) + s) / 16 = q := by omega
    have e3 : (8 * (2 * q + c) + s) * 536870912 % 4294967296 = s * 536870912 := by omega
    have e4 : (8 * (2 * q + c) + s) / 8 = 2 * q + c := by omega
    have e5 : (c * 2147483648 + s * 268435456 + q) * 2 % 4294967296 = s * 536870912 + 2 * q := by omega
    have e6 : (c * 2147483648 + s * 268435456 + q) / 2147483648 = c := by omega
    rw [e1, e2, e3, e4, e5, e6]; omega
  · simp only [Int.reduceToNat, Int.reduceAdd, Int.reduceSub, Int.reducePow]
    obtain ⟨q, c, s, rfl, s0, s1, c0, c1⟩ := parts a 4 (by decide)
    have q0 : 0 ≤ q ∧ q < 536870912 := by omega
    clear h0 h1
    have e1 : (4 * (2 * q + c) + s) * 536870912 % 4294967296 = c * 2147483648 + s * 536870912 := by omega
    have e2 : (4 * (2 * q + c) + s) / 8 = q := by omega
    have e3 : (4 * (2 * q + c) + s) * 1073741824 % 4294967296 = s * 1073741824 := by omega
    have e4 : (4 * (2 * q + c) + s) / 4 = 2 * q + c := by omega
    have e5 : (c * 2147483648 + s * 536870912 + q) * 2 % 4294967296 = s * 1073741824 + 2 * q := by omega
    have e6 : (c * 2147483648 + s * 536870912 + q) / 2147483648 = c := by omega
    rw [e1, e2, e3, e4, e5, e6]; omega
  · simp only [Int.reduceToNat, Int.reduceAdd, Int.reduceSub, Int.reducePow]
    obtain ⟨q, c, s, rfl, s0, s1, c0, c1⟩ := parts a 2 (by decide)
    have q0 : 0 ≤ q ∧ q < 1073741824 := by omega
    clear h0 h1
    have e1 : (2 * (2 * q + c) + s) * 1073741824 % 4294967296 = c * 2147483648 + s * 1073741824 := by omega
    have e2 : (2 * (2 * q + c) + s) / 4 = q := by omega
    have e3 : (2 * (2 * q + c) + s) * 2147483648 % 4294967296 = s * 2147483648 := by omega
    have e4 : (2 * (2 * q + c) + s) / 2 = 2 * q + c := by omega
    have e5 : (c * 2147483648 + s * 1073741824 + q) * 2 % 4294967296 = s * 2147483648 + 2 * q := by omega
    have e6 : (c * 2147483648 + s * 1073741824 + q) / 2147483648 = c := by omega
    rw [e1, e2, e3, e4, e5, e6]; omega
set_option maxHeartbeats 4000000 in
theorem rorS_step {a k : Int} (h0 : 0 ≤ a) (h1 : a < 4294967296) (k0 : 0 ≤ k) (k1 : k < 31) : rorS (rorS a k) 1 = rorS a (k + 1) := by
  unfold rorS
  rcases k31 k0 k1 with rfl | rfl | rfl | rfl | rfl | rfl | rfl | rfl | rfl | rfl | rfl | rfl | rfl | rfl | rfl | rfl | rfl | rfl | rfl | rfl | rfl | rfl | rfl | rfl | rfl | rfl | rfl | rfl | rfl | rfl | rfl
  · simp only [Int.reduceToNat, Int.reduceAdd, Int.reduceSub, Int.reducePow]
    obtain ⟨q, c, s, rfl, s0, s1, c0, c1⟩ := parts a 1 (by decide)
    have q0 : 0 ≤ q ∧ q < 2147483648 := by omega
    clear h0 h1
    have e1 : (1 * (2 * q + c) + s) / 1 = 2 * q + c := by omega
    have e2 : (1 * (2 * q + c) + s) * 4294967296 % 4294967296 = s * 4294967296 := by omega
    have e3 : (1 * (2 * q + c) + s) / 2 = q := by omega
    have e4 : (1 * (2 * q + c) + s) * 2147483648 % 4294967296 = c * 2147483648 + s * 2147483648 := by omega
    have e5 : (2 * q + c + s * 4294967296) / 2 = q + s * 2147483648 := by omega
    have e6 : (2 * q + c + s * 4294967296) * 2147483648 % 4294967296 = c * 2147483648 := by omega
    rw [e1, e2, e3, e4, e5, e6]; omega
  · simp only [Int.reduceToNat, Int.reduceAdd, Int.reduceSub, Int.reducePow]
    obtain ⟨q, c, s, rfl, s0, s1, c0, c1⟩ := parts a 2 (by decide)
    have q0 : 0 ≤ q ∧ q < 1073741824 := by omega
    clear h0 h1
    have e1 : (2 * (2 * q + c) + s) / 2 = 2 * q + c := by omega
    have e2 : (2 * (2 * q + c) + s) * 2147483648 % 4294967296 = s * 2147483648 := by omega
    have e3 : (2 * (2 * q + c) + s) / 4 = q := by omega
    have e4 : (2 * (2 * q + c) + s) * 1073741824 % 4294967296 = c * 2147483648 + s * 1073741824 := by omega
    have e5 : (2 * q + c + s * 2147483648) / 2 = q + s * 1073741824 := by omega
    have e6 : (2 * q + c + s * 2147483648) * 2147483648 % 4294967296 = c * 2147483648 := by omega
    rw [e1, e2, e3, e4, e5, e6]; omega
  · simp only [Int.reduceToNat, Int.reduceAdd, Int.reduceSub, Int.reducePow]
    obtain ⟨q, c, s, rfl, s0, s1, c0, c1⟩ := parts a 4 (by decide)
    have q0 : 0 ≤ q ∧ q < 536870912 := by omega
    clear h0 h1
    have e1 : (4 * (2 * q + c) + s) / 4 = 2 * q + c := by omega
    have e2 : (4 * (2 * q + c) + s) * 1073741824 % 4294967296 = s * 1073741824 := by omega
    have e3 : (4 * (2 * q + c) + s) / 8 = q := by omega
    have e4 : (4 * (2 * q + c) + s) * 536870912 % 4294967296 = c * 2147483648 + s * 536870912 := by omega
    have e5 : (2 * q + c + s * 1073741824) / 2 = q + s * 536870912 := by omega
    have e6 : (2 * q + c + s * 1073741824) * 2147483648 % 4294967296 = c * 2147483648 := by omega
    rw [e1, e2, e3, e4, e5, e6]; omega
  · simp only [Int.reduceToNat, Int.reduceAdd, Int.reduceSub, Int.reducePow]
    obtain ⟨q, c, s, rfl, s0, s1, c0, c1⟩ := parts a 8 (by decide)
    have q0 : 0 ≤ q ∧ q < 268435456 := by omega
    clear h0 h1
    have e1 : (8 * (2 * q + c) + s) / 8 = 2 * q + c := by omega
    have e2 : (8 * (2 * q + c) + s) * 536870912 % 4294967296 = s * 536870912 := by omega
    have e3 : (8 * (2 * q + c) + s) / 16 = q := by omega
    have e4 : (8 * (2 * q + c) + s) * 268435456 % 4294967296 = c * 2147483648 + s * 268435456 := by omega
    have e5 : (2 * q + c + s * 536870912) / 2 = q + s * 268435456 := by omega
    have e6 : (2 * q + c + s * 536870912) * 2147483648 % 4294967296 = c * 2147483648 := by omega
    rw [e1, e2, e3, e4, e5, e6]; omega
  · simp only [Int.reduceToNat, Int.reduceAdd, Int.reduceSub, Int.reducePow]
    obtain ⟨q, c, s, rfl, s0, s1, c0, c1⟩ := parts a 16 (by decide)
    have q0 : 0 ≤ q ∧ q < 134217728 := by omega
    clear h0 h1
    have e1 : (16 * (2 * q + c) + s) / 16 = 2 * q + c := by omega
    have e2 : (16 * (2 * q + c) + s) * 268435456 % 4294967296 = s * 268435456 := by omega
    have e3 : (16 * (2 * q + c) + s) / 32 = q := by omega
    have e4 : (16 * (2 * q + c) + s) * 134217728 % 4294967296 = c * 2147483648 + s * 134217728 := by omega
    have e5 : (2 * q + c + s * 268435456) / 2 = q + s * 134217728 := by omega
    have e6 : (2 * q + c + s * 268435456) * 2147483648 % 4294967296 = c * 2147483648 := by omega
    rw [e1, e2, e3, e4, e5, e6]; omega
  · simp only [Int.reduceToNat, Int.reduceAdd, Int.reduceSub, Int.reducePow]
    obtain ⟨q, c, s, rfl, s0, s1, c0, c1⟩ := parts a 32 (by decide)
    have q0 : 0 ≤ q ∧ q < 67108864 := by omega
    clear h0 h1
    have e1 : (32 * (2 * q + c) + s) / 32 = 2 * q + c := by omega
    have e2 : (32 * (2 * q + c) + s) * 134217728 % 4294967296 = s * 134217728 := by omega
    have e3 : (32 * (2 * q + c) + s) / 64 = q := by omega
    have e4 : (32 * (2 * q + c) + s) * 67108864 % 4294967296 = c * 2147483648 + s * 67108864 := by omega
    have e5 : (2 * q + c + s * 134217728) / 2 = q + s * 67108864 := by omega
    have e6 : (2 * q + c + s * 134217728) * 2147483648 % 4294967296 = c * 2147483648 := by omega
    rw [e1, e2, e3, e4, e5, e6]; omega
  · simp only [Int.reduceToNat, Int.reduceAdd, Int.reduceSub, Int.reducePow]
    obtain ⟨q, c, s, rfl, s0, s1, c0, c1⟩ := parts a 64 (by decide)
    have q0 : 0 ≤ q ∧ q < 33554432 := by omega
    clear h0 h1
    have e1 : (64 * (2 * q + c) + s) / 64 = 2 * q + c := by omega
    have e2 : (64 * (2 * q + c) + s) * 67108864 % 4294967296 = s * 67108864 := by omega
    have e3 : (64 * (2 * q + c) + s) / 128 = q := by omega
    have e4 : (64 * (2 * q + c) + s) * 33554432 % 4294967296 = c * 2147483648 + s * 33554432 := by omega
    have e5 : (2 * q + c + s * 67108864) / 2 = q + s * 33554432 := by omega
    have e6 : (2 * q + c + s * 67108864) * 2147483648 % 4294967296 = c * 2147483648 := by omega
    rw [e1, e2, e3, e4, e5, e6]; omega
  · simp only [Int.reduceToNat, Int.reduceAdd, Int.reduceSub, Int.reducePow]
    obtain ⟨q, c, s, rfl, s0, s1, c0, c1⟩ := parts a 128 (by decide)
    have q0 : 0 ≤ q ∧ q < 16777216 := by omega
    clear h0 h1
    have e1 : (128 * (2 * q + c) + s) / 128 = 2 * q + c := by omega
    have e2 : (128 * (2 * q + c) + s) * 33554432 % 4294967296 = s * 33554432 := by omega
    have e3 : (128 * (2 * q + c) + s) / 256 = q := by omega
    have e4 : (128 * (2 * q + c) + s) * 16777216 % 4294967296 = c * 2147483648 + s * 16777216 := by omega
    have e5 : (2 * q + c + s * 33554432) / 2 = q + s * 16777216 := by omega
    have e6 : (2 * q + c + s * 33554432) * 2147483648 % 4294967296 = c * 2147483648 := by omega
    rw [e1, e2, e3, e4, e5, e6]; omega
  · simp only [Int.reduceToNat, Int.reduceAdd, Int.reduceSub, Int.reducePow]
    obtain ⟨q, c, s, rfl, s0, s1, c0, c1⟩ := parts a 256 (by decide)
    have q0 : 0 ≤ q ∧ q < 8388608 := by omega
    clear h0 h1
    have e1 : (256 * (2 * q + c) + s) / 256 = 2 * q + c := by omega
    have e2 : (256 * (2 * q + c) + s) * 16777216 % 4294967296 = s * 16777216 := by omega
    have e3 : (256 * (2 * q + c) + s) / 512 = q := by omega
    have e4 : (256 * (2 * q + c) + s) * 8388608 % 4294967296 = c * 2147483648 + s * 8388608 := by omega
    have e5 : (2 * q + c + s * 16777216) / 2 = q + s * 8388608 := by omega
    have e6 : (2 * q + c + s * 16777216) * 2147483648 % 4294967296 = c * 2147483648 := by omega
    rw [e1, e2, e3, e4, e5, e6]; omega
  · simp only [Int.reduceToNat, Int.reduceAdd, Int.reduceSub, Int.reducePow]
    obtain ⟨q, c, s, rfl, s0, s1, c0, c1⟩ := parts a 512 (by decide)
    have q0 : 0 ≤ q ∧ q < 4194304 := by omega
    clear h0 h1
    have e1 : (512 * (2 * q + c) + s) / 512 = 2 * q + c := by omega
    have e2 : (512 * (2 * q + c) + s) * 8388608 % 4294967296 = s * 8388608 := by omega
    have e3 : (512 * (2 * q + c) + s) / 1024 = q := by omega
    have e4 : (512 * (2 * q + c) + s) * 4194304 % 4294967296 = c * 2147483648 + s * 4194304 := by omega
    have e5 : (2 * q + c + s * 8388608) / 2 = q + s * 4194304 := by omega
    have e6 : (2 * q + c + s * 8388608) * 2147483648 % 4294967296 = c * 2147483648 := by omega
    rw [e1, e2, e3, e4, e5, e6]; omega
  · simp only [Int.reduceToNat, Int.reduceAdd, Int.reduceSub, Int.reducePow]
    obtain ⟨q, c, s, rfl, s0, s1, c0, c1⟩ := parts a 1024 (by decide)
    have q0 : 0 ≤ q ∧ q < 2097152 := by omega
    clear h0 h1
    have e1 : (1024 * (2 * q + c) + s) / 1024 = 2 * q + c := by omega
    have e2 : (1024 * (2 * q + c) + s) * 4194304 % 4294967296 = s * 4194304 := by omega
    have e3 : (1024 * (2 * q + c) + s) / 2048 = q := by omega
    have e4 : (1024 * (2 * q + c) + s) * 2097152 % 4294967296 = c * 2147483648 + s * 2097152 := by omega
    have e5 : (2 * q + c + s * 4194304) / 2 = q + s * 2097152 := by omega
    have e6 : (2 * q + c + s * 4194304) * 2147483648 % 4294967296 = c * 2147483648 := by omega
    rw [e1, e2, e3, e4, e5, e6]; omega
  · simp only [Int.reduceToNat, Int.reduceAdd, Int.reduceSub, Int.reducePow]
    obtain ⟨q, c, s, rfl, s0, s1, c0, c1⟩ := parts a 2048 (by decide)
    have q0 : 0 ≤ q ∧ q < 1048576 := by omega
    clear h0 h1
    have e1 : (2048 * (2 * q + c) + s) / 2048 = 2 * q + c := by omega
    have e2 : (2048 * (2 * q + c) + s) * 2097152 % 4294967296 = s * 2097152 := by omega
    have e3 : (2048 * (2 * q + c) + s) / 4096 = q := by omega
    have e4 : (2048 * (2 * q + c) + s) * 1048576 % 4294967296 = c * 2147483648 + s * 1048576 := by omega
    have e5 : (2 * q + c + s * 2097152) / 2 = q + s * 1048576 := by omega
    have e6 : (2 * q + c + s * 2097152) * 2147483648 % 4294967296 = c * 2147483648 := by omega
    rw [e1, e2, e3, e4, e5, e6]; omega
  · simp only [Int.reduceToNat, Int.reduceAdd, Int.reduceSub, Int.reducePow]
    obtain ⟨q, c, s, rfl, s0, s1, c0, c1⟩ := parts a 4096 (by decide)
    have q0 : 0 ≤ q ∧ q < 524288 := by omega
    clear h0 h1
    have e1 : (4096 * (2 * q + c) + s) / 4096 = 2 * q + c := by omega
    have e2 : (4096 * (2 * q + c) + s) * 1048576 % 4294967296 = s * 1048576 := by omega
    have e3 : (4096 * (2 * q + c) + s) / 8192 = q := by omega
    have e4 : (4096 * (2 * q + c) + s) * 524288 % 4294967296 = c * 2147483648 + s * 524288 := by omega
    have e5 : (2 * q + c + s * 1048576) / 2 = q + s * 524288 := by omega
    have e6 : (2 * q + c + s * 1048576) * 2147483648 % 4294967296 = c * 2147483648 := by omega
    rw [e1, e2, e3, e4, e5, e6]; omega
  · simp only [Int.reduceToNat, Int.reduceAdd, Int.reduceSub, Int.reducePow]
    obtain ⟨q, c, s, rfl, s0, s1, c0, c1⟩ := parts a 8192 (by decide)
    have q0 : 0 ≤ q ∧ q < 262144 := by omega
    clear h0 h1
    have e1 : (8192 * (2 * q + c) + s) / 8192 = 2 * q + c := by omega
    have e2 : (8192 * (2 * q + c) + s) * 524288 % 4294967296 = s * 524288 := by omega
    have e3 : (8192 * (2 * q + c) + s) / 16384 = q := by omega
    have e4 : (8192 * (2 * q + c) + s) * 262144 % 4294967296 = c * 2147483648 + s * 262144 := by omega
    have e5 : (2 * q + c + s * 524288) / 2 = q + s * 262144 := by omega
    have e6 : (2 * q + c + s * 524288) * 2147483648 % 4294967296 = c * 2147483648 := by omega
    rw [e1, e2, e3, e4, e5, e6]; omega
  · simp only [Int.reduceToNat, Int.reduceAdd, Int.reduceSub, Int.reducePow]
    obtain ⟨q, c, s, rfl, s0, s1, c0, c1⟩ := parts a 16384 (by decide)
    have q0 : 0 ≤ q ∧ q < 131072 := by omega
    clear h0 h1
    have e1 : (16384 * (2 * q + c) + s) / 16384 = 2 * q + c := by omega
    have e2 : (16384 * (2 * q + c) + s) * 262144 % 4294967296 = s * 262144 := by omega
    have e3 : (16384 * (2 * q + c) + s) / 32768 = q := by omega
    have e4 : (16384 * (2 * q + c) + s) * 131072 % 4294967296 = c * 2147483648 + s * 131072 := by omega
    have e5 : (2 * q + c + s * 262144) / 2 = q + s * 131072 := by omega
    have e6 : (2 * q + c + s * 262144) * 2147483648 % 4294967296 = c * 2147483648 := by omega
    rw [e1, e2, e3, e4, e5, e6]; omega
  · simp only [Int.reduceToNat, Int.reduceAdd, Int.reduceSub, Int.reducePow]
    obtain ⟨q, c, s, rfl, s0, s1, c0, c1⟩ := parts a 32768 (by decide)
    have q0 : 0 ≤ q ∧ q < 65536 := by omega
    clear h0 h1
    have e1 : (32768 * (2 * q + c) + s) / 32768 = 2 * q + c := by omega
    have e2 : (32768 * (2 * q + c) + s) * 131072 % 4294967296 = s * 131072 := by omega
    have e3 : (32768 * (2 * q + c) + s) / 65536 = q := by omega
    have e4 : (32768 * (2 * q + c) + s) * 65536 % 4294967296 = c * 2147483648 + s * 65536 := by omega
    have e5 : (2 * q + c + s * 131072) / 2 = q + s * 65536 := by omega
    have e6 : (2 * q + c + s * 131072) * 2147483648 % 4294967296 = c * 2147483648 := by omega
    rw [e1, e2, e3, e4, e5, e6]; omega
  · simp only [Int.reduceToNat, Int.reduceAdd, Int.reduceSub, Int.reducePow]
    obtain ⟨q, c, s, rfl, s0, s1, c0, c1⟩ := parts a 65536 (by decide)
    have q0 : 0 ≤ q ∧ q < 32768 := by omega
    clear h0 h1
    have e1 : (65536 * (2 * q + c) + s) / 65536 = 2 * q + c := by omega
    have e2 : (65536 * (2 * q + c) + s) * 65536 % 4294967296 = s * 65536 := by omega
    have e3 : (65536 * (2 * q + c) + s) / 131072 = q := by omega
    have e4 : (65536 * (2 * q + c) + s) * 32768 % 4294967296 = c * 2147483648 + s * 32768 := by omega
    have e5 : (2 * q + c + s * 65536) / 2 = q + s * 32768 := by omega
    have e6 : (2 * q + c + s * 65536) * 2147483648 % 4294967296 = c * 2147483648 := by omega
    rw [e1, e2, e3, e4, e5, e6]; omega
  · simp only [Int.reduceToNat, Int.reduceAdd, Int.reduceSub, Int.reducePow]
    obtain ⟨q, c, s, rfl, s0, s1, c0, c1⟩ := parts a 131072 (by decide)
    have q0 : 0 ≤ q ∧ q < 16384 := by omega
    clear h0 h1
    have e1 : (131072 * (2 * q + c) + s) / 131072 = 2 * q + c := by omega
    have e2 : (131072 * (2 * q + c) + s) * 32768 % 4294967296 = s * 32768 := by omega
    have e3 : (131072 * (2 * q + c) + s) / 262144 = q := by omega
    have e4 : (131072 * (2 * q + c) + s) * 16384 % 4294967296 = c * 2147483648 + s * 16384 := by omega
    have e5 : (2 * q + c + s * 32768) / 2 = q + s * 16384 := by omega
    have e6 : (2 * q + c + s * 32768) * 2147483648 % 4294967296 = c * 2147483648 := by omega
    rw [e1, e2, e3, e4, e5, e6]; omega
  · simp only [Int.reduceToNat, Int.reduceAdd, Int.reduceSub, Int.reducePow]
    obtain ⟨q, c, s, rfl, s0, s1, c0, c1⟩ := parts a 262144 (by decide)
    have q0 : 0 ≤ q ∧ q < 8192 := by omega
    clear h0 h1
    have e1 : (262144 * (2 * q + c) + s) / 262144 = 2 * q + c := by omega
    have e2 : (262144 * (2 * q + c) + s) * 16384 % 4294967296 = s * 16384 := by omega
    have e3 : (262144 * (2 * q + c) + s) / 524288 = q := by omega
    have e4 : (262144 * (2 * q + c) + s) * 8192 % 4294967296 = c * 2147483648 + s * 8192 := by omega
    have e5 : (2 * q + c + s * 16384) / 2 = q + s * 8192 := by omega
    have e6 : (2 * q + c + s * 16384) * 2147483648 % 4294967296 = c * 2147483648 := by omega
    rw [e1, e2, e3, e4, e5, e6]; omega
  · simp only [Int.reduceToNat, Int.reduceAdd, Int.reduceSub, Int.reducePow]
    obtain ⟨q, c, s, rfl, s0, s1, c0, c1⟩ := parts a 524288 (by decide)
    have q0 : 0 ≤ q ∧ q < 4096 := by omega
    clear h0 h1
    have e1 : (524288 * (2 * q + c) + s) / 524288 = 2 * q + c := by omega
    have e2 : (524288 * (2 * q + c) + s) * 8192 % 4294967296 = s * 8192 := by omega
    have e3 : (524288 * (2 * q + c) + s) / 1048576 = q := by omega
    have e4 : (524288 * (2 * q + c) + s) * 4096 % 4294967296 = c * 2147483648 + s * 4096 := by omega
    have e5 : (2 * q + c + s * 8192) / 2 = q + s * 4096 := by omega
    have e6 : (2 * q + c + s * 8192) * 2147483648 % 4294967296 = c * 2147483648 := by omega
    rw [e1, e2, e3, e4, e5, e6]; omega
  · simp only [Int.reduceToNat, Int.reduceAdd, Int.reduceSub, Int.reducePow]
    obtain ⟨q, c, s, rfl, s0, s1, c0, c1⟩ := parts a 1048576 (by decide)
    have q0 : 0 ≤ q ∧ q < 2048 := by omega
    clear h0 h1
    have e1 : (1048576 * (2 * q + c) + s) / 1048576 = 2 * q + c := by omega
    have e2 : (1048576 * (2 * q + c) + s) * 4096 % 4294967296 = s * 4096 := by omega
    have e3 : (1048576 * (2 * q + c) + s) / 2097152 = q := by omega
    have e4 : (1048576 * (2 * q + c) + s) * 2048 % 4294967296 = c * 2147483648 + s * 2048 := by omega
    have e5 : (2 * q + c + s * 4096) / 2 = q + s * 2048 := by omega
    have e6 : (2 * q + c + s * 4096) * 2147483648 % 4294967296 = c * 2147483648 := by omega
    rw [e1, e2, e3, e4, e5, e6]; omega
  · simp only [Int.reduceToNat, Int.reduceAdd, Int.reduceSub, Int.reducePow]
    obtain ⟨q, c, s, rfl, s0, s1, c0, c1⟩ := parts a 2097152 (by decide)
    have q0 : 0 ≤ q ∧ q < 1024 := by omega
    clear h0 h1
    have e1 : (2097152 * (2 * q + c) + s) / 2097152 = 2 * q + c := by omega
    have e2 : (2097152 * (2 * q + c) + s) * 2048 % 4294967296 = s * 2048 := by omega
    have e3 : (2097152 * (2 * q + c) + s) / 4194304 = q := by omega
    have e4 : (2097152 * (2 * q + c) + s) * 1024 % 4294967296 = c * 2147483648 + s * 1024 := by omega
    have e5 : (2 * q + c + s * 2048) / 2 = q + s * 1024 := by omega
    have e6 : (2 * q + c + s * 2048) * 2147483648 % 4294967296 = c * 2147483648 := by omega
    rw [e1, e2, e3, e4, e5, e6]; omega
  · simp only [Int.reduceToNat, Int.reduceAdd, Int.reduceSub, Int.reducePow]
    obtain ⟨q, c, s, rfl, s0, s1, c0, c1⟩ := parts a 4194304 (by decide)
    have q0 : 0 ≤ q ∧ q < 512 := by omega
    clear h0 h1
    have e1 : (4194304 * (2 * q + c) + s) / 4194304 = 2 * q + c := by omega
    have e2 : (4194304 * (2 * q + c) + s) * 1024 % 4294967296 = s * 1024 := by omega
    have e3 : (4194304 * (2 * q + c) + s) / 8388608 = q := by omega
    have e4 : (4194304 * (2 * q + c) + s) * 512 % 4294967296 = c * 2147483648 + s * 512 := by omega
    have e5 : (2 * q + c + s * 1024) / 2 = q + s * 512 := by omega
    have e6 : (2 * q + c + s * 1024) * 2147483648 % 4294967296 = c * 2147483648 := by omega
    rw [e1, e2, e3, e4, e5, e6]; omega
  · simp only [Int.reduceToNat, Int.reduceAdd, Int.reduceSub, Int.reducePow]
    obtain ⟨q, c, s, rfl, s0, s1, c0, c1⟩ := parts a 8388608 (by decide)
    have q0 : 0 ≤ q ∧ q < 256 := by omega
    clear h0 h1
    have e1 : (8388608 * (2 * q + c) + s) / 8388608 = 2 * q + c := by omega
    have e2 : (8388608 * (2 * q + c) + s) * 512 % 4294967296 = s * 512 := by omega
    have e3 : (8388608 * (2 * q + c) + s) / 16777216 = q := by omega
    have e4 : (8388608 * (2 * q + c) + s) * 256 % 4294967296 = c * 2147483648 + s * 256 := by omega
    have e5 : (2 * q + c + s * 512) / 2 = q + s * 256 := by omega
    have e6 : (2 * q + c + s * 512) * 2147483648 % 4294967296 = c * 2147483648 := by omega
    rw [e1, e2, e3, e4, e5, e6]; omega
  · simp only [Int.reduceToNat, Int.reduceAdd, Int.reduceSub, Int.reducePow]
    obtain ⟨q, c, s, rfl, s0, s1, c0, c1⟩ := parts a 16777216 (by decide)
    have q0 : 0 ≤ q ∧ q < 128 := by omega
    clear h0 h1
    have e1 : (16777216 * (2 * q + c) + s) / 16777216 = 2 * q + c := by omega
    have e2 : (16777216 * (2 * q + c) + s) * 256 % 4294967296 = s * 256 := by omega
    have e3 : (16777216 * (2 * q + c) + s) / 33554432 = q := by omega
    have e4 : (16777216 * (2 * q + c) + s) * 128 % 4294967296 = c * 2147483648 + s * 128 := by omega
    have e5 : (2 * q + c + s * 256) / 2 = q + s * 128 := by omega
    have e6 : (2 * q + c + s * 256) * 2147483648 % 4294967296 = c * 2147483648 := by omega
    rw [e1, e2, e3, e4, e5, e6]; omega
  · simp only [Int.reduceToNat, Int.reduceAdd, Int.reduceSub, Int.reducePow]
    obtain ⟨q, c, s, rfl, s0, s1, c0, c1⟩ := parts a 33554432 (by decide)
    have q0 : 0 ≤ q ∧ q < 64 := by omega
    clear h0 h1
    have e1 : (33554432 * (2 * q + c) + s) / 33554432 = 2 * q + c := by omega
    have e2 : (33554432 * (2 * q + c) + s) * 128 % 4294967296 = s * 128 := by omega
    have e3 : (33554432 * (2 * q + c) + s) / 67108864 = q := by omega
    have e4 : (33554432 * (2 * q + c) + s) * 64 % 4294967296 = c * 2147483648 + s * 64 := by omega
    have e5 : (2 * q + c + s * 128) / 2 = q + s * 64 := by omega
    have e6 : (2 * q + c + s * 128) * 2147483648 % 4294967296 = c * 2147483648 := by omega
    rw [e1, e2, e3, e4, e5, e6]; omega
  · simp only [Int.reduceToNat, Int.reduceAdd, Int.reduceSub, Int.reducePow]
    obtain ⟨q, c, s, rfl, s0, s1, c0, c1⟩ := parts a 67108864 (by decide)
    have q0 : 0 ≤ q ∧ q < 32 := by omega
    clear h0 h1
    have e1 : (67108864 * (2 * q + c) + s) / 67108864 = 2 * q + c := by omega
    have e2 : (67108864 * (2 * q + c) + s) * 64 % 4294967296 = s * 64 := by omega
    have e3 : (67108864 * (2 * q + c) + s) / 134217728 = q := by omega
    have e4 : (67108864 * (2 * q + c) + s) * 32 % 4294967296 = c * 2147483648 + s * 32 := by omega
    have e5 : (2 * q + c + s * 64) / 2 = q + s * 32 := by omega
    have e6 : (2 * q + c + s * 64) * 2147483648 % 4294967296 = c * 2147483648 := by omega
    rw [e1, e2, e3, e4, e5, e6]; omega
  · simp only [Int.reduceToNat, Int.reduceAdd, Int.reduceSub, Int.reducePow]
    obtain ⟨q, c, s, rfl, s0, s1, c0, c1⟩ := parts a 134217728 (by decide)
    have q0 : 0 ≤ q ∧ q < 16 := by omega
    clear h0 h1
    have e1 : (134217728 * (2 * q + c) + s) / 134217728 = 2 * q + c := by omega
    have e2 : (134217728 * (2 * q + c) + s) * 32 % 4294967296 = s * 32 := by omega
    have e3 : (134217728 * (2 * q + c) + s) / 268435456 = q := by omega
    have e4 : (134217728 * (2 * q + c) + s) * 16 % 4294967296 = c * 2147483648 + s * 16 := by omega
    have e5 : (2 * q + c + s * 32) / 2 = q + s * 16 := by omega
    have e6 : (2 * q + c + s * 32) * 2147483648 % 4294967296 = c * 2147483648 := by omega
    rw [e1, e2, e3, e4, e5, e6]; omega
  · simp only [Int.reduceToNat, Int.reduceAdd, Int.reduceSub, Int.reducePow]
    obtain ⟨q, c, s, rfl, s0, s1, c0, c1⟩ := parts a 268435456 (by decide)
    have q0 : 0 ≤ q ∧ q < 8 := by omega
    clear h0 h1
    have e1 : (268435456 * (2 * q + c) + s) / 268435456 = 2 * q + c := by omega
    have e2 : (268435456 * (2 * q + c) + s) * 16 % 4294967296 = s * 16 := by omega
    have e3 : (268435456 * (2 * q + c) + s) / 536870912 = q := by omega
    have e4 : (268435456 * (2 * q + c) + s) * 8 % 4294967296 = c * 2147483648 + s * 8 := by omega
    have e5 : (2 * q + c + s * 16) / 2 = q + s * 8 := by omega
    have e6 : (2 * q + c + s * 16) * 2147483648 % 4294967296 = c * 2147483648 := by omega
    rw [e1, e2, e3, e4, e5, e6]; omega
  · simp only [Int.reduceToNat, Int.reduceAdd, Int.reduceSub, Int.reducePow]
    obtain ⟨q, c, s, rfl, s0, s1, c0, c1⟩ := parts a 536870912 (by decide)
    have q0 : 0 ≤ q ∧ q < 4 := by omega
    clear h0 h1
    have e1 : (536870912 * (2 * q + c) + s) / 536870912 = 2 * q + c := by omega
    have e2 : (536870912 * (2 * q + c) + s) * 8 % 4294967296 = s * 8 := by omega
    have e3 : (536870912 * (2 * q + c) + s) / 1073741824 = q := by omega
    have e4 : (536870912 * (2 * q + c) + s) * 4 % 4294967296 = c * 2147483648 + s * 4 := by omega
    have e5 : (2 * q + c + s * 8) / 2 = q + s * 4 := by omega
    have e6 : (2 * q + c + s * 8) * 2147483648 % 4294967296 = c * 2147483648 := by omega
    rw [e1, e2, e3, e4, e5, e6]; omega
  · simp only [Int.reduceToNat, Int.reduceAdd, Int.reduceSub, Int.reducePow]
    obtain ⟨q, c, s, rfl, s0, s1, c0, c1⟩ := parts a 1073741824 (by decide)
    have q0 : 0 ≤ q ∧ q < 2 := by omega
    clear h0 h1
    have e1 : (1073741824 * (2 * q + c) + s) / 1073741824 = 2 * q + c := by omega
    have e2 : (1073741824 * (2 * q + c) + s) * 4 % 4294967296 = s * 4 := by omega
    have e3 : (1073741824 * (2 * q + c) + s) / 2147483648 = q := by omega
    have e4 : (1073741824 * (2 * q + c) + s) * 2 % 4294967296 = c * 2147483648 + s * 2 := by omega
    have e5 : (2 * q + c + s * 4) / 2 = q + s * 2 := by omega
    have e6 : (2 * q + c + s * 4) * 2147483648 % 4294967296 = c * 2147483648 := by omega
    rw [e1, e2, e3, e4, e5, e6]; omega
set_option maxHeartbeats 4000000 in
theorem rorS_rolS {a k : Int} (h0 : 0 ≤ a) (h1 : a < 4294967296) (k0 : 0 < k) (k1 : k < 31) : rorS (rolS a k) k = a := by
  unfold rorS rolS
  rcases k31 (by omega) k1 with rfl | rfl | rfl | rfl | rfl | rfl | rfl | rfl | rfl | rfl | rfl | rfl | rfl | rfl | rfl | rfl | rfl | rfl | rfl | rfl | rfl | rfl | rfl | rfl | rfl | rfl | rfl | rfl | rfl | rfl | rfl
  · omega
  · simp only [Int.reduceToNat, Int.reduceAdd, Int.reduceSub, Int.reducePow]
    obtain ⟨q, s, rfl, s0, s1⟩ := parts2 a 2147483648 (by decide)
    have q0 : 0 ≤ q ∧ q < 2 := by omega
    clear h0 h1
    have e1 : (2147483648 * q + s) * 2 % 4294967296 = s * 2 := by omega
    have e2 : (2147483648 * q + s) / 2147483648 = q := by omega
    have e3 : (s * 2 + q) / 2 = s := by omega
    have e4 : (s * 2 + q) * 2147483648 % 4294967296 = q * 2147483648 := by omega
    rw [e1, e2, e3, e4]; omega
  · simp only [Int.reduceToNat, Int.reduceAdd, Int.reduceSub, Int.reducePow]
    obtain ⟨q, s, rfl, s0, s1⟩ := parts2 a 1073741824 (by decide)
    have q0 : 0 ≤ q ∧ q < 4 := by omega
    clear h0 h1
    have e1 : (1073741824 * q + s) * 4 % 4294967296 = s * 4 := by omega
    have e2 : (1073741824 * q + s) / 1073741824 = q := by omega
    have e3 : (s * 4 + q) / 4 = s := by omega
    have e4 : (s * 4 + q) * 1073741824 % 4294967296 = q * 1073741824 := by omega
    rw [e1, e2, e3, e4]; omega
  · simp only [Int.reduceToNat, Int.reduceAdd, Int.reduceSub, Int.reducePow]
    obtain ⟨q, s, rfl, s0, s1⟩ := parts2 a 536870912 (by decide)
    have q0 : 0 ≤ q ∧ q < 8 := by omega
    clear h0 h1
    have e1 : (536870912 * q + s) * 8 % 4294967296 = s * 8 := by omega
    have e2 : (536870912 * q + s) / 536870912 = q := by omega
    have e3 : (s * 8 + q) / 8 = s := by omega
    have e4 : (s * 8 + q) * 536870912 % 4294967296 = q * 536870912 := by omega
    rw [e1, e2, e3, e4]; omega
  · simp only [Int.reduceToNat, Int.reduceAdd, Int.reduceSub, Int.reducePow]
    obtain ⟨q, s, rfl, s0, s1⟩ := parts2 a 268435456 (by decide)
    have q0 : 0 ≤ q ∧ q < 16 := by omega
    clear h0 h1
    have e1 : (268435456 * q + s) * 16 % 4294967296 = s * 16 := by omega
    have e2 : (268435456 * q + s) / 268435456 = q := by omega
    have e3 : (s * 16 + q) / 16 = s := by omega
    have e4 : (s * 16 + q) * 268435456 % 4294967296 = q * 268435456 := by omega
    rw [e1, e2, e3, e4]; omega
  · simp only [Int.reduceToNat, Int.reduceAdd, Int.reduceSub, Int.reducePow]
    obtain ⟨q, s, rfl, s0, s1⟩ := parts2 a 134217728 (by decide)
    have q0 : 0 ≤ q ∧ q < 32 := by omega
    clear h0 h1
    have e1 : (134217728 * q + s) * 32 % 4294967296 = s * 32 := by omega
    have e2 : (134217728 * q + s) / 134217728 = q := by omega
    have e3 : (s * 32 + q) / 32 = s := by omega
    have e4 : (s * 32 + q) * 134217728 % 4294967296 = q * 134217728 := by omega
    rw [e1, e2, e3, e4]; omega
  · simp only [Int.reduceToNat, Int.reduceAdd, Int.reduceSub, Int.reducePow]
    obtain ⟨q, s, rfl, s0, s1⟩ := parts2 a 67108864 (by decide)
    have q0 : 0 ≤ q ∧ q < 64 := by omega
    clear h0 h1
    have e1 : (67108864 * q + s) * 64 % 4294967296 = s * 64 := by omega
    have e2 : (67108864 * q + s) / 67108864 = q := by omega
    have e3 : (s * 64 + q) / 64 = s := by omega
    have e4 : (s * 64 + q) * 67108864 % 4294967296 = q * 67108864 := by omega
    rw [e1, e2, e3, e4]; omega
  · simp only [Int.reduceToNat, Int.reduceAdd, Int.reduceSub, Int.reducePow]
    obtain ⟨q, s, rfl, s0, s1⟩ := parts2 a 33554432 (by decide)
    have q0 : 0 ≤ q ∧ q < 128 := by omega
    clear h0 h1
    have e1 : (33554432 * q + s) * 128 % 4294967296 = s * 128 := by omega
    have e2 : (33554432 * q + s) / 33554432 = q := by omega
    have e3 : (s * 128 + q) / 128 = s := by omega
    have e4 : (s * 128 + q) * 33554432 % 4294967296 = q * 33554432 := by omega
    rw [e1, e2, e3, e4]; omega
  · simp only [Int.reduceToNat, Int.reduceAdd, Int.reduceSub, Int.reducePow]
    obtain ⟨q, s, rfl, s0, s1⟩ := parts2 a 16777216 (by decide)
    have q0 : 0 ≤ q ∧ q < 256 := by omega
    clear h0 h1
    have e1 : (16777216 * q + s) * 256 % 4294967296 = s * 256 := by omega
    have e2 : (16777216 * q + s) / 16777216 = q := by omega
    have e3 : (s * 256 + q) / 256 = s := by omega
    have e4 : (s * 256 + q) * 16777216 % 4294967296 = q * 16777216 := by omega
    rw [e1, e2, e3, e4]; omega
  · simp only [Int.reduceToNat, Int.reduceAdd, Int.reduceSub, Int.reducePow]
    obtain ⟨q, s, rfl, s0, s1⟩ := parts2 a 8388608 (by decide)
    have q0 : 0 ≤ q ∧ q < 512 := by omega
    clear h0 h1
    have e1 : (8388608 * q + s) * 512 % 4294967296 = s * 512 := by omega
    have e2 : (8388608 * q + s) / 8388608 = q := by omega
    have e3 : (s * 512 + q) / 512 = s := by omega
    have e4 : (s * 512 + q) * 8388608 % 4294967296 = q * 8388608 := by omega
    rw [e1, e2, e3, e4]; omega
  · simp only [Int.reduceToNat, Int.reduceAdd, Int.reduceSub, Int.reducePow]
    obtain ⟨q, s, rfl, s0, s1⟩ := parts2 a 4194304 (by decide)
    have q0 : 0 ≤ q ∧ q < 1024 := by omega
    clear h0 h1
    have e1 : (4194304 * q + s) * 1024 % 4294967296 = s * 1024 := by omega
    have e2 : (4194304 * q + s) / 4194304 = q := by omega
    have e3 : (s * 1024 + q) / 1024 = s := by omega
    have e4 : (s * 1024 + q) * 4194304 % 4294967296 = q * 4194304 := by omega
    rw [e1, e2, e3, e4]; omega
  · simp only [Int.reduceToNat, Int.reduceAdd, Int.reduceSub, Int.reducePow]
    obtain ⟨q, s, rfl, s0, s1⟩ := parts2 a 2097152 (by decide)
    have q0 : 0 ≤ q ∧ q < 2048 := by omega
    clear h0 h1
    have e1 : (2097152 * q + s) * 2048 % 4294967296 = s * 2048 := by omega
    have e2 : (2097152 * q + s) / 2097152 = q := by omega
    have e3 : (s * 2048 + q) / 2048 = s := by omega
    have e4 : (s * 2048 + q) * 2097152 % 4294967296 = q * 2097152 := by omega
    rw [e1, e2, e3, e4]; omega
  · simp only [Int.reduceToNat, Int.reduceAdd, Int.reduceSub, Int.reducePow]
    obtain ⟨q, s, rfl, s0, s1⟩ := parts2 a 1048576 (by decide)
    have q0 : 0 ≤ q ∧ q < 4096 := by omega
    clear h0 h1
    have e1 : (1048576 * q + s) * 4096 % 4294967296 = s * 4096 := by omega
    have e2 : (1048576 * q + s) / 1048576 = q := by omega
    have e3 : (s * 4096 + q) / 4096 = s := by omega
    have e4 : (s * 4096 + q) * 1048576 % 4294967296 = q * 1048576 := by omega
    rw [e1, e2, e3, e4]; omega
  · simp only [Int.reduceToNat, Int.reduceAdd, Int.reduceSub, Int.reducePow]
    obtain ⟨q, s, rfl, s0, s1⟩ := parts2 a 524288 (by decide)
    have q0 : 0 ≤ q ∧ q < 8192 := by omega
    clear h0 h1
    have e1 : (524288 * q + s) * 8192 % 4294967296 = s * 8192 := by omega
    have e2 : (524288 * q + s) / 524288 = q := by omega
    have e3 : (s * 8192 + q) / 8192 = s := by omega
    have e4 : (s * 8192 + q) * 524288 % 4294967296 = q * 524288 := by omega
    rw [e1, e2, e3, e4]; omega
  · simp only [Int.reduceToNat, Int.reduceAdd, Int.reduceSub, Int.reducePow]
    obtain ⟨q, s, rfl, s0, s1⟩ := parts2 a 262144 (by decide)
    have q0 : 0 ≤ q ∧ q < 16384 := by omega
    clear h0 h1
    have e1 : (262144 * q + s) * 16384 % 4294967296 = s * 16384 := by omega
    have e2 : (262144 * q + s) / 262144 = q := by omega
    have e3 : (s * 16384 + q) / 16384 = s := by omega
    have e4 : (s * 16384 + q) * 262144 % 4294967296 = q * 262144 := by omega
    rw [e1, e2, e3, e4]; omega
  · simp only [Int.reduceToNat, Int.reduceAdd, Int.reduceSub, Int.reducePow]
    obtain ⟨q, s, rfl, s0, s1⟩ := parts2 a 131072 (by decide)
    have q0 : 0 ≤ q ∧ q < 32768 := by omega
    clear h0 h1
    have e1 : (131072 * q + s) * 32768 % 4294967296 = s * 32768 := by omega
    have e2 : (131072 * q + s) / 131072 = q := by omega
    have e3 : (s * 32768 + q) / 32768 = s := by omega
    have e4 : (s * 32768 + q) * 131072 % 4294967296 = q * 131072 := by omega
    rw [e1, e2, e3, e4]; omega
  · simp only [Int.reduceToNat, Int.reduceAdd, Int.reduceSub, Int.reducePow]
    obtain ⟨q, s, rfl, s0, s1⟩ := parts2 a 65536 (by decide)
    have q0 : 0 ≤ q ∧ q < 65536 := by omega
    clear h0 h1
    have e1 : (65536 * q + s) * 65536 % 4294967296 = s * 65536 := by omega
    have e2 : (65536 * q + s) / 65536 = q := by omega
    have e3 : (s * 65536 + q) / 65536 = s := by omega
    have e4 : (s * 65536 + q) * 65536 % 4294967296 = q * 65536 := by omega
    rw [e1, e2, e3, e4]; omega
  · simp only [Int.reduceToNat, Int.reduceAdd, Int.reduceSub, Int.reducePow]
    obtain ⟨q, s, rfl, s0, s1⟩ := parts2 a 32768 (by decide)
    have q0 : 0 ≤ q ∧ q < 131072 := by omega
    clear h0 h1
    have e1 : (32768 * q + s) * 131072 % 4294967296 = s * 131072 := by omega
    have e2 : (32768 * q + s) / 32768 = q := by omega
    have e3 : (s * 131072 + q) / 131072 = s := by omega
    have e4 : (s * 131072 + q) * 32768 % 4294967296 = q * 32768 := by omega
    rw [e1, e2, e3, e4]; omega
  · simp only [Int.reduceToNat, Int.reduceAdd, Int.reduceSub, Int.reducePow]
    obtain ⟨q, s, rfl, s0, s1⟩ := parts2 a 16384 (by decide)
    have q0 : 0 ≤ q ∧ q < 262144 := by omega
    clear h0 h1
    have e1 : (16384 * q + s) * 262144 % 4294967296 = s * 262144 := by omega
    have e2 : (16384 * q + s) / 16384 = q := by omega
    have e3 : (s * 262144 + q) / 262144 = s := by omega
    have e4 : (s * 262144 + q) * 16384 % 4294967296 = q * 16384 := by omega
    rw [e1, e2, e3, e4]; omega
  · simp only [Int.reduceToNat, Int.reduceAdd, Int.reduceSub, Int.reducePow]
    obtain ⟨q, s, rfl, s0, s1⟩ := parts2 a 8192 (by decide)
    have q0 : 0 ≤ q ∧ q < 524288 := by omega
    clear h0 h1
    have e1 : (8192 * q + s) * 524288 % 4294967296 = s * 524288 := by omega
    have e2 : (8192 * q + s) / 8192 = q := by omega
    have e3 : (s * 524288 + q) / 524288 = s := by omega
    have e4 : (s * 524288 + q) * 8192 % 4294967296 = q * 8192 := by omega
    rw [e1, e2, e3, e4]; omega
  · simp only [Int.reduceToNat, Int.reduceAdd, Int.reduceSub, Int.reducePow]
    obtain ⟨q, s, rfl, s0, s1⟩ := parts2 a 4096 (by decide)
    have q0 : 0 ≤ q ∧ q < 1048576 := by omega
    clear h0 h1
    have e1 : (4096 * q + s) * 1048576 % 4294967296 = s * 1048576 := by omega
    have e2 : (4096 * q + s) / 4096 = q := by omega
    have e3 : (s * 1048576 + q) / 1048576 = s := by omega
    have e4 : (s * 1048576 + q) * 4096 % 4294967296 = q * 4096 := by omega
    rw [e1, e2, e3, e4]; omega
  · simp only [Int.reduceToNat, Int.reduceAdd, Int.reduceSub, Int.reducePow]
    obtain ⟨q, s, rfl, s0, s1⟩ := parts2 a 2048 (by decide)
    have q0 : 0 ≤ q ∧ q < 2097152 := by omega
    clear h0 h1
    have e1 : (2048 * q + s) * 2097152 % 4294967296 = s * 2097152 := by omega
    have e2 : (2048 * q + s) / 2048 = q := by omega
    have e3 : (s * 2097152 + q) / 2097152 = s := by omega
    have e4 : (s * 2097152 + q) * 2048 % 4294967296 = q * 2048 := by omega
    rw [e1, e2, e3, e4]; omega
  · simp only [Int.reduceToNat, Int.reduceAdd, Int.reduceSub, Int.reducePow]
    obtain ⟨q, s, rfl, s0, s1⟩ := parts2 a 1024 (by decide)
    have q0 : 0 ≤ q ∧ q < 4194304 := by omega
    clear h0 h1
    have e1 : (1024 * q + s) * 4194304 % 4294967296 = s * 4194304 := by omega
    have e2 : (1024 * q + s) / 1024 = q := by omega
    have e3 : (s * 4194304 + q) / 4194304 = s := by omega
    have e4 : (s * 4194304 + q) * 1024 % 4294967296 = q * 1024 := by omega
    rw [e1, e2, e3, e4]; omega
  · simp only [Int.reduceToNat, Int.reduceAdd, Int.reduceSub, Int.reducePow]
    obtain ⟨q, s, rfl, s0, s1⟩ := parts2 a 512 (by decide)
    have q0 : 0 ≤ q ∧ q < 8388608 := by omega
    clear h0 h1
    have e1 : (512 * q + s) * 8388608 % 4294967296 = s * 8388608 := by omega
    have e2 : (512 * q + s) / 512 = q := by omega
    have e3 : (s * 8388608 + q) / 8388608 = s := by omega
    have e4 : (s * 8388608 + q) * 512 % 4294967296 = q * 512 := by omega
    rw [e1, e2, e3, e4]; omega
  · simp only [Int.reduceToNat, Int.reduceAdd, Int.reduceSub, Int.reducePow]
    obtain ⟨q, s, rfl, s0, s1⟩ := parts2 a 256 (by decide)
    have q0 : 0 ≤ q ∧ q < 16777216 := by omega
    clear h0 h1
    have e1 : (256 * q + s) * 16777216 % 4294967296 = s * 16777216 := by omega
    have e2 : (256 * q + s) / 256 = q := by omega
    have e3 : (s * 16777216 + q) / 16777216 = s := by omega
    have e4 : (s * 16777216 + q) * 256 % 4294967296 = q * 256 := by omega
    rw [e1, e2, e3, e4]; omega
  · simp only [Int.reduceToNat, Int.reduceAdd, Int.reduceSub, Int.reducePow]
    obtain ⟨q, s, rfl, s0, s1⟩ := parts2 a 128 (by decide)
    have q0 : 0 ≤ q ∧ q < 33554432 := by omega
    clear h0 h1
    have e1 : (128 * q + s) * 33554432 % 4294967296 = s * 33554432 := by omega
    have e2 : (128 * q + s) / 128 = q := by omega
    have e3 : (s * 33554432 + q) / 33554432 = s := by omega
    have e4 : (s * 33554432 + q) * 128 % 4294967296 = q * 128 := by omega
    rw [e1, e2, e3, e4]; omega
  · simp only [Int.reduceToNat, Int.reduceAdd, Int.reduceSub, Int.reducePow]
    obtain ⟨q, s, rfl, s0, s1⟩ := parts2 a 64 (by decide)
    have q0 : 0 ≤ q ∧ q < 67108864 := by omega
    clear h0 h1
    have e1 : (64 * q + s) * 67108864 % 4294967296 = s * 67108864 := by omega
    have e2 : (64 * q + s) / 64 = q := by omega
    have e3 : (s * 67108864 + q) / 67108864 = s := by omega
    have e4 : (s * 67108864 + q) * 64 % 4294967296 = q * 64 := by omega
    rw [e1, e2, e3, e4]; omega
  · simp only [Int.reduceToNat, Int.reduceAdd, Int.reduceSub, Int.reducePow]
    obtain ⟨q, s, rfl, s0, s1⟩ := parts2 a 32 (by decide)
    have q0 : 0 ≤ q ∧ q < 134217728 := by omega
    clear h0 h1
    have e1 : (32 * q + s) * 134217728 % 4294967296 = s * 134217728 := by omega
    have e2 : (32 * q + s) / 32 = q := by omega
    have e3 : (s * 134217728 + q) / 134217728 = s := by omega
    have e4 : (s * 134217728 + q) * 32 % 4294967296 = q * 32 := by omega
    rw [e1, e2, e3, e4]; omega
  · simp only [Int.reduceToNat, Int.reduceAdd, Int.reduceSub, Int.reducePow]
    obtain ⟨q, s, rfl, s0, s1⟩ := parts2 a 16 (by decide)
    have q0 : 0 ≤ q ∧ q < 268435456 := by omega
    clear h0 h1
    have e1 : (16 * q + s) * 268435456 % 4294967296 = s * 268435456 := by omega
    have e2 : (16 * q + s) / 16 = q := by omega
    have e3 : (s * 268435456 + q) / 268435456 = s := by omega
    have e4 : (s * 268435456 + q) * 16 % 4294967296 = q * 16 := by omega
    rw [e1, e2, e3, e4]; omega
  · simp only [Int.reduceToNat, Int.reduceAdd, Int.reduceSub, Int.reducePow]
    obtain ⟨q, s, rfl, s0, s1⟩ := parts2 a 8 (by decide)
    have q0 : 0 ≤ q ∧ q < 536870912 := by omega
    clear h0 h1
    have e1 : (8 * q + s) * 536870912 % 4294967296 = s * 536870912 := by omega
    have e2 : (8 * q + s) / 8 = q := by omega
    have e3 : (s * 536870912 + q) / 536870912 = s := by omega
    have e4 : (s * 536870912 + q) * 8 % 4294967296 = q * 8 := by omega
    rw [e1, e2, e3, e4]; omega
  · simp only [Int.reduceToNat, Int.reduceAdd, Int.reduceSub, Int.reducePow]
    obtain ⟨q, s, rfl, s0, s1⟩ := parts2 a 4 (by decide)
    have q0 : 0 ≤ q ∧ q < 1073741824 := by omega
    clear h0 h1
    have e1 : (4 * q + s) * 1073741824 % 4294967296 = s * 1073741824 := by omega
    have e2 : (4 * q + s) / 4 = q := by omega
    have e3 : (s * 1073741824 + q) / 1073741824 = s := by omega
    have e4 : (s * 1073741824 + q) * 4 % 4294967296 = q * 4 := by omega
    rw [e1, e2, e3, e4]; omega
theorem rorS_rolS31 {a : Int} (h0 : 0 ≤ a) (h1 : a < 4294967296) : rorS (rolS a 31) 31 = a := by
    unfold rorS rolS
    simp only [Int.reduceToNat, Int.reduceAdd, Int.reduceSub, Int.reducePow]
    obtain ⟨q, s, rfl, s0, s1⟩ := parts2 a 2 (by decide)
    have q0 : 0 ≤ q ∧ q < 2147483648 := by omega
    clear h0 h1
    have e1 : (2 * q + s) * 2147483648 % 4294967296 = s * 2147483648 := by omega
    have e2 : (2 * q + s) / 2 = q := by omega
    have e3 : (s * 2147483648 + q) / 2147483648 = s := by omega
    have e4 : (s * 2147483648 + q) * 2 % 4294967296 = q * 2 := by omega
    rw [e1, e2, e3, e4]; omega
theorem rolS_bd {a k : Int} (h0 : 0 ≤ a) (h1 : a < 4294967296) (k0 : 0 < k) (k1 : k < 32) : 0 ≤ rolS a k ∧ rolS a k < 4294967296 := by rw [← rol_sum h0 h1 k0 k1]; exact rolR_bd a k
theorem rorS_bd {a k : Int} (h0 : 0 ≤ a) (h1 : a < 4294967296) (k0 : 0 < k) (k1 : k < 32) : 0 ≤ rorS a k ∧ rorS a k < 4294967296 := by rw [← ror_sum h0 h1 k0 k1]; exact rorR_bd a k
theorem rol_step {a k : Int} (h0 : 0 ≤ a) (h1 : a < 4294967296) (k0 : 0 < k) (k1 : k < 31) : rolR (rolR a k) 1 = rolR a (k + 1) := by
  have hb := rolR_bd a k
  rw [rol_sum hb.1 hb.2 (by decide) (by decide), rol_sum (k := k) h0 h1 k0 (by omega), rol_sum (k := k + 1) h0 h1 (by omega) (by omega)]
  exact rolS_step h0 h1 (by omega) k1
theorem ror_step {a k : Int} (h0 : 0 ≤ a) (h1 : a < 4294967296) (k0 : 0 < k) (k1 : k < 31) : rorR (rorR a k) 1 = rorR a (k + 1) := by
  have hb := rorR_bd a k
  rw [ror_sum hb.1 hb.2 (by decide) (by decide), ror_sum (k := k) h0 h1 k0 (by omega), ror_sum (k := k + 1) h0 h1 (by omega) (by omega)]
  exact rorS_step h0 h1 (by omega) k1
theorem ror_rol {a k : Int} (h0 : 0 ≤ a) (h1 : a < 4294967296) (k0 : 0 < k) (k1 : k < 32) : rorR (rolR a k) k = a := by
  have hb := rolR_bd a k
  rw [ror_sum hb.1 hb.2 k0 k1, rol_sum h0 h1 k0 k1]
  by_cases h : k = 31
  · subst h; exact rorS_rolS31 h0 h1
  · exact rorS_rolS h0 h1 k0 (by omega)

end Go.Proofs.Ytndfcpkmchjncaa
