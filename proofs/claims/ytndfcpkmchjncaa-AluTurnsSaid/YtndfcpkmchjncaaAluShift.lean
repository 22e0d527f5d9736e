/- What alu.Shift returns: the walks, an operation each. -/
import Derived.Test.YtndfcpkmchjncaaAluWalks
import Derived.Deep.RegionWith
namespace Go.Proofs.Ytndfcpkmchjncaa
open Go.ChangeShapes Go.WideShapes Go.ChangeAt Go.RowKit
set_option linter.unusedVariables false

theorem alu_bit (x j : Int) (hx0 : 0 ≤ x) (hx1 : x < 4294967296) (hj0 : 0 ≤ j) (hj1 : j < 32) (w : World) :
    Calls Try.prog 21 #[.int .u32 x, .int .u32 j] w fun e w' => e = .returned (.bool (bt x j)) ∧ w = w' := by
  have hp := pow_pos j.toNat
  have h0 : 0 ≤ x / 2 ^ j.toNat := Int.ediv_nonneg hx0 (Int.le_of_lt hp)
  have h1 : x / 2 ^ j.toNat ≤ x := Int.ediv_le_self _ hx0
  have E := Lib.hid (and_one_u32 (x / 2 ^ j.toNat) h0 (by omega))
  clear hp h0 h1
  go_enter Try.func21, Try.ntmps21
  go_wp2
  go_ret
  exact ⟨ret_bool (by rw [E.out]; rfl), rfl⟩

set_option maxHeartbeats 400000 in
theorem shift_none (op a n : Int) (fc fp fa fz fs fo : Bool) (hn0 : 0 ≤ n) (hn1 : n < 4294967296) (hk : n % 32 = 0) (w : World) :
    Calls Try.prog 7 #[.int .i64 op, .int .u32 a, .int .u32 n, .agg #[.bool fc, .bool fp, .bool fa, .bool fz, .bool fs, .bool fo]] w fun e w' => e = .returned (.tuple #[.int .u32 a, .agg #[.bool fc, .bool fp, .bool fa, .bool fz, .bool fs, .bool fo]]) ∧ Below w.heap.size w w' := by
  have hz : (n % 32 == 0) = true := by rw [hk]; rfl
  clear hk
  go_enter Try.func7, Try.ntmps7
  go_wp2_with fail
  go_region
  all_goals
    go_wp2_with fail
    refine bodyPost_ret (v := .tuple #[.int .u32 a, .agg #[.bool fc, .bool fp, .bool fa, .bool fz, .bool fs, .bool fo]]) (by simp [results, Try.results7, go_sem]) rfl ⟨rfl, ?_⟩
    repeat (first | exact Below.refl _ _ | apply Below.drew | (refine Below.alloc ?_ (by simp; try omega) _))

set_option maxHeartbeats 1000000 in
theorem shift_OShl_one (a n k : Int) (fc fp fa fz fs fo : Bool) (ha0 : 0 ≤ a) (ha1 : a < 4294967296) (hn0 : 0 ≤ n) (hn1 : n < 4294967296) (hkn : n % 32 = k) (hk0 : 0 < k) (hk : k = 1) (w : World) :
    Calls Try.prog 7 #[.int .i64 23, .int .u32 a, .int .u32 n, .agg #[.bool fc, .bool fp, .bool fa, .bool fz, .bool fs, .bool fo]] w fun e w' => e = .returned (.tuple #[.int .u32 (shlR a k), .agg #[.bool (bt a (32 - k)), .bool (par (shlR a k)), .bool fa, .bool (shlR a k == 0), .bool (shlR a k / 2147483648 == 1), .bool (bt (shlR a k) 31 != bt a (32 - k))]]) ∧ Below w.heap.size w w' := by
  have hk32 : k < 32 := by omega
  have hz : (k == 0) = false := by rw [beq_eq_false_iff_ne]; omega
  have ho : (k == 1) = true := by subst hk; rfl
  have ho' : (k != 1) = false := by subst hk; rfl
  have hbd := shlR_bd a k
  have Hk := Lib.hid hk; clear hk
  go_enter Try.func7, Try.ntmps7
  go_wp2_with fail
  rw [← shlR_def a k]
  refine (alu_bit _ _ (by omega) (by omega) (by omega) (by omega) _).mono ?_; rintro e w' ⟨rfl, rfl⟩
  go_wp2_with fail
  go_region_with (go_at_call 21; refine (alu_bit _ _ (by omega) (by omega) (by omega) (by omega) _).mono ?_; rintro e w' ⟨rfl, rfl⟩)
  all_goals
    go_wp2_with fail
    refine (alu_by _ _ _ _ _ _ _ hbd.1 hbd.2 _).mono ?_; rintro e w1 ⟨rfl, rfl⟩
    go_wp2_with fail
    go_region
    all_goals
      go_wp2_with fail
      refine bodyPost_ret (v := .tuple #[.int .u32 (shlR a k), .agg #[.bool (bt a (32 - k)), .bool (par (shlR a k)), .bool fa, .bool (shlR a k == 0), .bool (shlR a k / 2147483648 == 1), .bool (bt (shlR a k) 31 != bt a (32 - k))]]) (by simp [results, Try.results7, go_sem, bne]) rfl ⟨rfl, ?_⟩
      repeat (first | exact Below.refl _ _ | apply Below.drew | (refine Below.alloc ?_ (by simp; try omega) _))

set_option maxHeartbeats 1000000 in
theorem shift_OShl_more (a n k : Int) (fc fp fa fz fs fo : Bool) (ha0 : 0 ≤ a) (ha1 : a < 4294967296) (hn0 : 0 ≤ n) (hn1 : n < 4294967296) (hkn : n % 32 = k) (hk0 : 0 < k) (hk : k ≠ 1) (w : World) :
    Calls Try.prog 7 #[.int .i64 23, .int .u32 a, .int .u32 n, .agg #[.bool fc, .bool fp, .bool fa, .bool fz, .bool fs, .bool fo]] w fun e w' => e = .returned (.tuple #[.int .u32 (shlR a k), .agg #[.bool (bt a (32 - k)), .bool (par (shlR a k)), .bool fa, .bool (shlR a k == 0), .bool (shlR a k / 2147483648 == 1), .bool (fo)]]) ∧ Below w.heap.size w w' := by
  have hk32 : k < 32 := by omega
  have hz : (k == 0) = false := by rw [beq_eq_false_iff_ne]; omega
  have ho : (k == 1) = false := by rw [beq_eq_false_iff_ne]; exact hk
  have ho' : (k != 1) = true := by rw [bne_iff_ne]; exact hk
  have hbd := shlR_bd a k
  have Hk := Lib.hid hk; clear hk
  go_enter Try.func7, Try.ntmps7
  go_wp2_with fail
  rw [← shlR_def a k]
  refine (alu_bit _ _ (by omega) (by omega) (by omega) (by omega) _).mono ?_; rintro e w' ⟨rfl, rfl⟩
  go_wp2_with fail
  go_region_with (go_at_call 21; refine (alu_bit _ _ (by omega) (by omega) (by omega) (by omega) _).mono ?_; rintro e w' ⟨rfl, rfl⟩)
  all_goals
    go_wp2_with fail
    refine (alu_by _ _ _ _ _ _ _ hbd.1 hbd.2 _).mono ?_; rintro e w1 ⟨rfl, rfl⟩
    go_wp2_with fail
    go_region
    all_goals
      go_wp2_with fail
      refine bodyPost_ret (v := .tuple #[.int .u32 (shlR a k), .agg #[.bool (bt a (32 - k)), .bool (par (shlR a k)), .bool fa, .bool (shlR a k == 0), .bool (shlR a k / 2147483648 == 1), .bool (fo)]]) (by simp [results, Try.results7, go_sem]) rfl ⟨rfl, ?_⟩
      repeat (first | exact Below.refl _ _ | apply Below.drew | (refine Below.alloc ?_ (by simp; try omega) _))

set_option maxHeartbeats 1000000 in
theorem shift_OShr_one (a n k : Int) (fc fp fa fz fs fo : Bool) (ha0 : 0 ≤ a) (ha1 : a < 4294967296) (hn0 : 0 ≤ n) (hn1 : n < 4294967296) (hkn : n % 32 = k) (hk0 : 0 < k) (hk : k = 1) (w : World) :
    Calls Try.prog 7 #[.int .i64 24, .int .u32 a, .int .u32 n, .agg #[.bool fc, .bool fp, .bool fa, .bool fz, .bool fs, .bool fo]] w fun e w' => e = .returned (.tuple #[.int .u32 (shrR a k), .agg #[.bool (bt a (k - 1)), .bool (par (shrR a k)), .bool fa, .bool (shrR a k == 0), .bool (shrR a k / 2147483648 == 1), .bool (bt a 31)]]) ∧ Below w.heap.size w w' := by
  have hk32 : k < 32 := by omega
  have hz : (k == 0) = false := by rw [beq_eq_false_iff_ne]; omega
  have ho : (k == 1) = true := by subst hk; rfl
  have ho' : (k != 1) = false := by subst hk; rfl
  have hbd := shrR_bd a k ha0 ha1
  have Hk := Lib.hid hk; clear hk
  go_enter Try.func7, Try.ntmps7
  go_wp2_with fail
  rw [← shrR_def a k]
  refine (alu_bit _ _ (by omega) (by omega) (by omega) (by omega) _).mono ?_; rintro e w' ⟨rfl, rfl⟩
  go_wp2_with fail
  refine (alu_bit _ _ (by omega) (by omega) (by omega) (by omega) _).mono ?_; rintro e w' ⟨rfl, rfl⟩
  go_wp2_with fail
  refine (alu_by _ _ _ _ _ _ _ hbd.1 hbd.2 _).mono ?_; rintro e w1 ⟨rfl, rfl⟩
  go_wp2_with fail
  go_region
  all_goals
    go_wp2_with fail
    refine bodyPost_ret (v := .tuple #[.int .u32 (shrR a k), .agg #[.bool (bt a (k - 1)), .bool (par (shrR a k)), .bool fa, .bool (shrR a k == 0), .bool (shrR a k / 2147483648 == 1), .bool (bt a 31)]]) (by simp [results, Try.results7, go_sem]) rfl ⟨rfl, ?_⟩
    repeat (first | exact Below.refl _ _ | apply Below.drew | (refine Below.alloc ?_ (by simp; try omega) _))

set_option maxHeartbeats 1000000 in
theorem shift_OShr_more (a n k : Int) (fc fp fa fz fs fo : Bool) (ha0 : 0 ≤ a) (ha1 : a < 4294967296) (hn0 : 0 ≤ n) (hn1 : n < 4294967296) (hkn : n % 32 = k) (hk0 : 0 < k) (hk : k ≠ 1) (w : World) :
    Calls Try.prog 7 #[.int .i64 24, .int .u32 a, .int .u32 n, .agg #[.bool fc, .bool fp, .bool fa, .bool fz, .bool fs, .bool fo]] w fun e w' => e = .returned (.tuple #[.int .u32 (shrR a k), .agg #[.bool (bt a (k - 1)), .bool (par (shrR a k)), .bool fa, .bool (shrR a k == 0), .bool (shrR a k / 2147483648 == 1), .bool (fo)]]) ∧ Below w.heap.size w w' := by
  have hk32 : k < 32 := by omega
  have hz : (k == 0) = false := by rw [beq_eq_false_iff_ne]; omega
  have ho : (k == 1) = false := by rw [beq_eq_false_iff_ne]; exact hk
  have ho' : (k != 1) = true := by rw [bne_iff_ne]; exact hk
  have hbd := shrR_bd a k ha0 ha1
  have Hk := Lib.hid hk; clear hk
  go_enter Try.func7, Try.ntmps7
  go_wp2_with fail
  rw [← shrR_def a k]
  refine (alu_bit _ _ (by omega) (by omega) (by omega) (by omega) _).mono ?_; rintro e w' ⟨rfl, rfl⟩
  go_wp2_with fail
  refine (alu_bit _ _ (by omega) (by omega) (by omega) (by omega) _).mono ?_; rintro e w' ⟨rfl, rfl⟩
  go_wp2_with fail
  refine (alu_by _ _ _ _ _ _ _ hbd.1 hbd.2 _).mono ?_; rintro e w1 ⟨rfl, rfl⟩
  go_wp2_with fail
  go_region
  all_goals
    go_wp2_with fail
    refine bodyPost_ret (v := .tuple #[.int .u32 (shrR a k), .agg #[.bool (bt a (k - 1)), .bool (par (shrR a k)), .bool fa, .bool (shrR a k == 0), .bool (shrR a k / 2147483648 == 1), .bool (fo)]]) (by simp [results, Try.results7, go_sem]) rfl ⟨rfl, ?_⟩
    repeat (first | exact Below.refl _ _ | apply Below.drew | (refine Below.alloc ?_ (by simp; try omega) _))

set_option maxHeartbeats 1000000 in
theorem shift_OSar_one (a n k : Int) (fc fp fa fz fs fo : Bool) (ha0 : 0 ≤ a) (ha1 : a < 4294967296) (hn0 : 0 ≤ n) (hn1 : n < 4294967296) (hkn : n % 32 = k) (hk0 : 0 < k) (hk : k = 1) (w : World) :
    Calls Try.prog 7 #[.int .i64 25, .int .u32 a, .int .u32 n, .agg #[.bool fc, .bool fp, .bool fa, .bool fz, .bool fs, .bool fo]] w fun e w' => e = .returned (.tuple #[.int .u32 (sarR a k), .agg #[.bool (bt a (k - 1)), .bool (par (sarR a k)), .bool fa, .bool (sarR a k == 0), .bool (sarR a k / 2147483648 == 1), .bool (false)]]) ∧ Below w.heap.size w w' := by
  have hk32 : k < 32 := by omega
  have hz : (k == 0) = false := by rw [beq_eq_false_iff_ne]; omega
  have ho : (k == 1) = true := by subst hk; rfl
  have ho' : (k != 1) = false := by subst hk; rfl
  have hbd := sarR_bd a k
  have Hk := Lib.hid hk; clear hk
  go_enter Try.func7, Try.ntmps7
  go_wp2_with fail
  rw [← sarR_def a k]
  refine (alu_bit _ _ (by omega) (by omega) (by omega) (by omega) _).mono ?_; rintro e w' ⟨rfl, rfl⟩
  go_wp2_with fail
  refine (alu_by _ _ _ _ _ _ _ hbd.1 hbd.2 _).mono ?_; rintro e w1 ⟨rfl, rfl⟩
  go_wp2_with fail
  go_region
  all_goals
    go_wp2_with fail
    refine bodyPost_ret (v := .tuple #[.int .u32 (sarR a k), .agg #[.bool (bt a (k - 1)), .bool (par (sarR a k)), .bool fa, .bool (sarR a k == 0), .bool (sarR a k / 2147483648 == 1), .bool (false)]]) (by simp [results, Try.results7, go_sem]) rfl ⟨rfl, ?_⟩
    repeat (first | exact Below.refl _ _ | apply Below.drew | (refine Below.alloc ?_ (by simp; try omega) _))

set_option maxHeartbeats 1000000 in
theorem shift_OSar_more (a n k : Int) (fc fp fa fz fs fo : Bool) (ha0 : 0 ≤ a) (ha1 : a < 4294967296) (hn0 : 0 ≤ n) (hn1 : n < 4294967296) (hkn : n % 32 = k) (hk0 : 0 < k) (hk : k ≠ 1) (w : World) :
    Calls Try.prog 7 #[.int .i64 25, .int .u32 a, .int .u32 n, .agg #[.bool fc, .bool fp, .bool fa, .bool fz, .bool fs, .bool fo]] w fun e w' => e = .returned (.tuple #[.int .u32 (sarR a k), .agg #[.bool (bt a (k - 1)), .bool (par (sarR a k)), .bool fa, .bool (sarR a k == 0), .bool (sarR a k / 2147483648 == 1), .bool (fo)]]) ∧ Below w.heap.size w w' := by
  have hk32 : k < 32 := by omega
  have hz : (k == 0) = false := by rw [beq_eq_false_iff_ne]; omega
  have ho : (k == 1) = false := by rw [beq_eq_false_iff_ne]; exact hk
  have ho' : (k != 1) = true := by rw [bne_iff_ne]; exact hk
  have hbd := sarR_bd a k
  have Hk := Lib.hid hk; clear hk
  go_enter Try.func7, Try.ntmps7
  go_wp2_with fail
  rw [← sarR_def a k]
  refine (alu_bit _ _ (by omega) (by omega) (by omega) (by omega) _).mono ?_; rintro e w' ⟨rfl, rfl⟩
  go_wp2_with fail
  refine (alu_by _ _ _ _ _ _ _ hbd.1 hbd.2 _).mono ?_; rintro e w1 ⟨rfl, rfl⟩
  go_wp2_with fail
  go_region
  all_goals
    go_wp2_with fail
    refine bodyPost_ret (v := .tuple #[.int .u32 (sarR a k), .agg #[.bool (bt a (k - 1)), .bool (par (sarR a k)), .bool fa, .bool (sarR a k == 0), .bool (sarR a k / 2147483648 == 1), .bool (fo)]]) (by simp [results, Try.results7, go_sem]) rfl ⟨rfl, ?_⟩
    repeat (first | exact Below.refl _ _ | apply Below.drew | (refine Below.alloc ?_ (by simp; try omega) _))

set_option maxHeartbeats 1000000 in
theorem shift_ORol_one (a n k : Int) (fc fp fa fz fs fo : Bool) (ha0 : 0 ≤ a) (ha1 : a < 4294967296) (hn0 : 0 ≤ n) (hn1 : n < 4294967296) (hkn : n % 32 = k) (hk0 : 0 < k) (hk : k = 1) (w : World) :
    Calls Try.prog 7 #[.int .i64 21, .int .u32 a, .int .u32 n, .agg #[.bool fc, .bool fp, .bool fa, .bool fz, .bool fs, .bool fo]] w fun e w' => e = .returned (.tuple #[.int .u32 (rolR a k), .agg #[.bool (bt (rolR a k) 0), .bool fp, .bool fa, .bool fz, .bool fs, .bool (bt (rolR a k) 31 != bt (rolR a k) 0)]]) ∧ Below w.heap.size w w' := by
  have hk32 : k < 32 := by omega
  have hz : (k == 0) = false := by rw [beq_eq_false_iff_ne]; omega
  have ho : (k == 1) = true := by subst hk; rfl
  have ho' : (k != 1) = false := by subst hk; rfl
  have hbd := rolR_bd a k
  have Hk := Lib.hid hk; clear hk
  go_enter Try.func7, Try.ntmps7
  go_wp2_with fail
  rw [← rolR_def a k]
  refine (alu_bit _ _ (by omega) (by omega) (by omega) (by omega) _).mono ?_; rintro e w' ⟨rfl, rfl⟩
  go_wp2_with fail
  go_region_with (go_at_call 21; refine (alu_bit _ _ (by omega) (by omega) (by omega) (by omega) _).mono ?_; rintro e w' ⟨rfl, rfl⟩)
  all_goals
    go_wp2_with fail
    go_region
    all_goals
      go_wp2_with fail
      refine bodyPost_ret (v := .tuple #[.int .u32 (rolR a k), .agg #[.bool (bt (rolR a k) 0), .bool fp, .bool fa, .bool fz, .bool fs, .bool (bt (rolR a k) 31 != bt (rolR a k) 0)]]) (by simp [results, Try.results7, go_sem, bne]) rfl ⟨rfl, ?_⟩
      repeat (first | exact Below.refl _ _ | apply Below.drew | (refine Below.alloc ?_ (by simp; try omega) _))

set_option maxHeartbeats 1000000 in
theorem shift_ORol_more (a n k : Int) (fc fp fa fz fs fo : Bool) (ha0 : 0 ≤ a) (ha1 : a < 4294967296) (hn0 : 0 ≤ n) (hn1 : n < 4294967296) (hkn : n % 32 = k) (hk0 : 0 < k) (hk : k ≠ 1) (w : World) :
    Calls Try.prog 7 #[.int .i64 21, .int .u32 a, .int .u32 n, .agg #[.bool fc, .bool fp, .bool fa, .bool fz, .bool fs, .bool fo]] w fun e w' => e = .returned (.tuple #[.int .u32 (rolR a k), .agg #[.bool (bt (rolR a k) 0), .bool fp, .bool fa, .bool fz, .bool fs, .bool (fo)]]) ∧ Below w.heap.size w w' := by
  have hk32 : k < 32 := by omega
  have hz : (k == 0) = false := by rw [beq_eq_false_iff_ne]; omega
  have ho : (k == 1) = false := by rw [beq_eq_false_iff_ne]; exact hk
  have ho' : (k != 1) = true := by rw [bne_iff_ne]; exact hk
  have hbd := rolR_bd a k
  have Hk := Lib.hid hk; clear hk
  go_enter Try.func7, Try.ntmps7
  go_wp2_with fail
  rw [← rolR_def a k]
  refine (alu_bit _ _ (by omega) (by omega) (by omega) (by omega) _).mono ?_; rintro e w' ⟨rfl, rfl⟩
  go_wp2_with fail
  go_region_with (go_at_call 21; refine (alu_bit _ _ (by omega) (by omega) (by omega) (by omega) _).mono ?_; rintro e w' ⟨rfl, rfl⟩)
  all_goals
    go_wp2_with fail
    go_region
    all_goals
      go_wp2_with fail
      refine bodyPost_ret (v := .tuple #[.int .u32 (rolR a k), .agg #[.bool (bt (rolR a k) 0), .bool fp, .bool fa, .bool fz, .bool fs, .bool (fo)]]) (by simp [results, Try.results7, go_sem]) rfl ⟨rfl, ?_⟩
      repeat (first | exact Below.refl _ _ | apply Below.drew | (refine Below.alloc ?_ (by simp; try omega) _))

set_option maxHeartbeats 1000000 in
theorem shift_ORor_one (a n k : Int) (fc fp fa fz fs fo : Bool) (ha0 : 0 ≤ a) (ha1 : a < 4294967296) (hn0 : 0 ≤ n) (hn1 : n < 4294967296) (hkn : n % 32 = k) (hk0 : 0 < k) (hk : k = 1) (w : World) :
    Calls Try.prog 7 #[.int .i64 22, .int .u32 a, .int .u32 n, .agg #[.bool fc, .bool fp, .bool fa, .bool fz, .bool fs, .bool fo]] w fun e w' => e = .returned (.tuple #[.int .u32 (rorR a k), .agg #[.bool (bt (rorR a k) 31), .bool fp, .bool fa, .bool fz, .bool fs, .bool (bt (rorR a k) 31 != bt (rorR a k) 30)]]) ∧ Below w.heap.size w w' := by
  have hk32 : k < 32 := by omega
  have hz : (k == 0) = false := by rw [beq_eq_false_iff_ne]; omega
  have ho : (k == 1) = true := by subst hk; rfl
  have ho' : (k != 1) = false := by subst hk; rfl
  have hbd := rorR_bd a k
  have Hk := Lib.hid hk; clear hk
  go_enter Try.func7, Try.ntmps7
  go_wp2_with fail
  rw [← rorR_def a k]
  refine (alu_bit _ _ (by omega) (by omega) (by omega) (by omega) _).mono ?_; rintro e w' ⟨rfl, rfl⟩
  go_wp2_with fail
  go_region_with (go_at_call 21; refine (alu_bit _ _ (by omega) (by omega) (by omega) (by omega) _).mono ?_; rintro e w' ⟨rfl, rfl⟩)
  all_goals
    go_wp2_with fail
    go_region
    all_goals
      go_wp2_with fail
      refine bodyPost_ret (v := .tuple #[.int .u32 (rorR a k), .agg #[.bool (bt (rorR a k) 31), .bool fp, .bool fa, .bool fz, .bool fs, .bool (bt (rorR a k) 31 != bt (rorR a k) 30)]]) (by simp [results, Try.results7, go_sem, bne]) rfl ⟨rfl, ?_⟩
      repeat (first | exact Below.refl _ _ | apply Below.drew | (refine Below.alloc ?_ (by simp; try omega) _))

set_option maxHeartbeats 1000000 in
theorem shift_ORor_more (a n k : Int) (fc fp fa fz fs fo : Bool) (ha0 : 0 ≤ a) (ha1 : a < 4294967296) (hn0 : 0 ≤ n) (hn1 : n < 4294967296) (hkn : n % 32 = k) (hk0 : 0 < k) (hk : k ≠ 1) (w : World) :
    Calls Try.prog 7 #[.int .i64 22, .int .u32 a, .int .u32 n, .agg #[.bool fc, .bool fp, .bool fa, .bool fz, .bool fs, .bool fo]] w fun e w' => e = .returned (.tuple #[.int .u32 (rorR a k), .agg #[.bool (bt (rorR a k) 31), .bool fp, .bool fa, .bool fz, .bool fs, .bool (fo)]]) ∧ Below w.heap.size w w' := by
  have hk32 : k < 32 := by omega
  have hz : (k == 0) = false := by rw [beq_eq_false_iff_ne]; omega
  have ho : (k == 1) = false := by rw [beq_eq_false_iff_ne]; exact hk
  have ho' : (k != 1) = true := by rw [bne_iff_ne]; exact hk
  have hbd := rorR_bd a k
  have Hk := Lib.hid hk; clear hk
  go_enter Try.func7, Try.ntmps7
  go_wp2_with fail
  rw [← rorR_def a k]
  refine (alu_bit _ _ (by omega) (by omega) (by omega) (by omega) _).mono ?_; rintro e w' ⟨rfl, rfl⟩
  go_wp2_with fail
  go_region_with (go_at_call 21; refine (alu_bit _ _ (by omega) (by omega) (by omega) (by omega) _).mono ?_; rintro e w' ⟨rfl, rfl⟩)
  all_goals
    go_wp2_with fail
    go_region
    all_goals
      go_wp2_with fail
      refine bodyPost_ret (v := .tuple #[.int .u32 (rorR a k), .agg #[.bool (bt (rorR a k) 31), .bool fp, .bool fa, .bool fz, .bool fs, .bool (fo)]]) (by simp [results, Try.results7, go_sem]) rfl ⟨rfl, ?_⟩
      repeat (first | exact Below.refl _ _ | apply Below.drew | (refine Below.alloc ?_ (by simp; try omega) _))

end Go.Proofs.Ytndfcpkmchjncaa
