/- What alu.Do returns: the walks, an operation each. -/
import Derived.Test.YtndfcpkmchjncaaAluWalks
namespace Go.Proofs.Ytndfcpkmchjncaa
open Go.ChangeShapes Go.WideShapes Go.ChangeAt Go.RowKit
set_option linter.unusedVariables false

set_option maxHeartbeats 400000 in
theorem do_OAdd (a b : Int) (fc fp fa fz fs fo : Bool) (ha0 : 0 ≤ a) (ha1 : a < 4294967296) (hb0 : 0 ≤ b) (hb1 : b < 4294967296) (w : World) :
    Calls Try.prog 16 #[.int .i64 3, .int .u32 a, .int .u32 b, .agg #[.bool fc, .bool fp, .bool fa, .bool fz, .bool fs, .bool fo]] w fun e w' => e = .returned (.tuple #[.int .u32 (addR a b false), .agg #[.bool (addC a b false), .bool (par (addR a b false)), .bool (decide (15 < addR (a % 16) (b % 16) false)), .bool (addR a b false == 0), .bool (addR a b false / 2147483648 == 1), .bool (addO a b false)]]) ∧ Below w.heap.size w w' := by
  go_enter Try.func16, Try.ntmps16
  go_wp2_with fail
  refine (alu_adds _ _ _ (by omega) (by omega) (by omega) (by omega) _).mono ?_; rintro e w1 ⟨rfl, rfl⟩
  go_wp2_with fail
  go_region
  all_goals
    go_wp2_with fail
    refine bodyPost_ret (v := .tuple #[.int .u32 (addR a b false), .agg #[.bool (addC a b false), .bool (par (addR a b false)), .bool (decide (15 < addR (a % 16) (b % 16) false)), .bool (addR a b false == 0), .bool (addR a b false / 2147483648 == 1), .bool (addO a b false)]]) (by simp [results, Try.results16, go_sem]) rfl ⟨rfl, ?_⟩
    repeat (first | exact Below.refl _ _ | apply Below.drew | (refine Below.alloc ?_ (by simp; try omega) _))

set_option maxHeartbeats 400000 in
theorem do_OAdc (a b : Int) (fc fp fa fz fs fo : Bool) (ha0 : 0 ≤ a) (ha1 : a < 4294967296) (hb0 : 0 ≤ b) (hb1 : b < 4294967296) (w : World) :
    Calls Try.prog 16 #[.int .i64 5, .int .u32 a, .int .u32 b, .agg #[.bool fc, .bool fp, .bool fa, .bool fz, .bool fs, .bool fo]] w fun e w' => e = .returned (.tuple #[.int .u32 (addR a b fc), .agg #[.bool (addC a b fc), .bool (par (addR a b fc)), .bool (decide (15 < addR (a % 16) (b % 16) fc)), .bool (addR a b fc == 0), .bool (addR a b fc / 2147483648 == 1), .bool (addO a b fc)]]) ∧ Below w.heap.size w w' := by
  go_enter Try.func16, Try.ntmps16
  go_wp2_with fail
  refine (alu_adds _ _ _ (by omega) (by omega) (by omega) (by omega) _).mono ?_; rintro e w1 ⟨rfl, rfl⟩
  go_wp2_with fail
  go_region
  all_goals
    go_wp2_with fail
    refine bodyPost_ret (v := .tuple #[.int .u32 (addR a b fc), .agg #[.bool (addC a b fc), .bool (par (addR a b fc)), .bool (decide (15 < addR (a % 16) (b % 16) fc)), .bool (addR a b fc == 0), .bool (addR a b fc / 2147483648 == 1), .bool (addO a b fc)]]) (by simp [results, Try.results16, go_sem]) rfl ⟨rfl, ?_⟩
    repeat (first | exact Below.refl _ _ | apply Below.drew | (refine Below.alloc ?_ (by simp; try omega) _))

set_option maxHeartbeats 400000 in
theorem do_OSub (a b : Int) (fc fp fa fz fs fo : Bool) (ha0 : 0 ≤ a) (ha1 : a < 4294967296) (hb0 : 0 ≤ b) (hb1 : b < 4294967296) (w : World) :
    Calls Try.prog 16 #[.int .i64 8, .int .u32 a, .int .u32 b, .agg #[.bool fc, .bool fp, .bool fa, .bool fz, .bool fs, .bool fo]] w fun e w' => e = .returned (.tuple #[.int .u32 (subR a b false), .agg #[.bool (subC a b false), .bool (par (subR a b false)), .bool (subC (a % 16) (b % 16) false), .bool (subR a b false == 0), .bool (subR a b false / 2147483648 == 1), .bool (subO a b false)]]) ∧ Below w.heap.size w w' := by
  go_enter Try.func16, Try.ntmps16
  go_wp2_with fail
  refine (alu_takes _ _ _ (by omega) (by omega) (by omega) (by omega) _).mono ?_; rintro e w1 ⟨rfl, rfl⟩
  go_wp2_with fail
  go_region
  all_goals
    go_wp2_with fail
    refine bodyPost_ret (v := .tuple #[.int .u32 (subR a b false), .agg #[.bool (subC a b false), .bool (par (subR a b false)), .bool (subC (a % 16) (b % 16) false), .bool (subR a b false == 0), .bool (subR a b false / 2147483648 == 1), .bool (subO a b false)]]) (by simp [results, Try.results16, go_sem]) rfl ⟨rfl, ?_⟩
    repeat (first | exact Below.refl _ _ | apply Below.drew | (refine Below.alloc ?_ (by simp; try omega) _))

set_option maxHeartbeats 400000 in
theorem do_OSbb (a b : Int) (fc fp fa fz fs fo : Bool) (ha0 : 0 ≤ a) (ha1 : a < 4294967296) (hb0 : 0 ≤ b) (hb1 : b < 4294967296) (w : World) :
    Calls Try.prog 16 #[.int .i64 6, .int .u32 a, .int .u32 b, .agg #[.bool fc, .bool fp, .bool fa, .bool fz, .bool fs, .bool fo]] w fun e w' => e = .returned (.tuple #[.int .u32 (subR a b fc), .agg #[.bool (subC a b fc), .bool (par (subR a b fc)), .bool (subC (a % 16) (b % 16) fc), .bool (subR a b fc == 0), .bool (subR a b fc / 2147483648 == 1), .bool (subO a b fc)]]) ∧ Below w.heap.size w w' := by
  go_enter Try.func16, Try.ntmps16
  go_wp2_with fail
  refine (alu_takes _ _ _ (by omega) (by omega) (by omega) (by omega) _).mono ?_; rintro e w1 ⟨rfl, rfl⟩
  go_wp2_with fail
  go_region
  all_goals
    go_wp2_with fail
    refine bodyPost_ret (v := .tuple #[.int .u32 (subR a b fc), .agg #[.bool (subC a b fc), .bool (par (subR a b fc)), .bool (subC (a % 16) (b % 16) fc), .bool (subR a b fc == 0), .bool (subR a b fc / 2147483648 == 1), .bool (subO a b fc)]]) (by simp [results, Try.results16, go_sem]) rfl ⟨rfl, ?_⟩
    repeat (first | exact Below.refl _ _ | apply Below.drew | (refine Below.alloc ?_ (by simp; try omega) _))

set_option maxHeartbeats 400000 in
theorem do_OCmp (a b : Int) (fc fp fa fz fs fo : Bool) (ha0 : 0 ≤ a) (ha1 : a < 4294967296) (hb0 : 0 ≤ b) (hb1 : b < 4294967296) (w : World) :
    Calls Try.prog 16 #[.int .i64 10, .int .u32 a, .int .u32 b, .agg #[.bool fc, .bool fp, .bool fa, .bool fz, .bool fs, .bool fo]] w fun e w' => e = .returned (.tuple #[.int .u32 (a), .agg #[.bool (subC a b false), .bool (par (subR a b false)), .bool (subC (a % 16) (b % 16) false), .bool (subR a b false == 0), .bool (subR a b false / 2147483648 == 1), .bool (subO a b false)]]) ∧ Below w.heap.size w w' := by
  go_enter Try.func16, Try.ntmps16
  go_wp2_with fail
  refine (alu_takes _ _ _ (by omega) (by omega) (by omega) (by omega) _).mono ?_; rintro e w1 ⟨rfl, rfl⟩
  go_wp2_with fail
  go_region
  all_goals
    go_wp2_with fail
    refine bodyPost_ret (v := .tuple #[.int .u32 (a), .agg #[.bool (subC a b false), .bool (par (subR a b false)), .bool (subC (a % 16) (b % 16) false), .bool (subR a b false == 0), .bool (subR a b false / 2147483648 == 1), .bool (subO a b false)]]) (by simp [results, Try.results16, go_sem]) rfl ⟨rfl, ?_⟩
    repeat (first | exact Below.refl _ _ | apply Below.drew | (refine Below.alloc ?_ (by simp; try omega) _))

set_option maxHeartbeats 400000 in
theorem do_OAnd (a b : Int) (fc fp fa fz fs fo : Bool) (ha0 : 0 ≤ a) (ha1 : a < 4294967296) (hb0 : 0 ≤ b) (hb1 : b < 4294967296) (w : World) :
    Calls Try.prog 16 #[.int .i64 7, .int .u32 a, .int .u32 b, .agg #[.bool fc, .bool fp, .bool fa, .bool fz, .bool fs, .bool fo]] w fun e w' => e = .returned (.tuple #[.int .u32 (bits .and .u32 a b), .agg #[.bool (false), .bool (par (bits .and .u32 a b)), .bool (false), .bool (bits .and .u32 a b == 0), .bool (bits .and .u32 a b / 2147483648 == 1), .bool (false)]]) ∧ Below w.heap.size w w' := by
  have hbit := bits_u32_bd .and a b
  go_enter Try.func16, Try.ntmps16
  go_wp2_with fail
  refine (alu_by _ _ _ _ _ _ _ hbit.1 hbit.2 _).mono ?_; rintro e w1 ⟨rfl, rfl⟩
  go_wp2_with fail
  go_region
  all_goals
    go_wp2_with fail
    refine bodyPost_ret (v := .tuple #[.int .u32 (bits .and .u32 a b), .agg #[.bool (false), .bool (par (bits .and .u32 a b)), .bool (false), .bool (bits .and .u32 a b == 0), .bool (bits .and .u32 a b / 2147483648 == 1), .bool (false)]]) (by simp [results, Try.results16, go_sem]) rfl ⟨rfl, ?_⟩
    repeat (first | exact Below.refl _ _ | apply Below.drew | (refine Below.alloc ?_ (by simp; try omega) _))

set_option maxHeartbeats 400000 in
theorem do_OOr (a b : Int) (fc fp fa fz fs fo : Bool) (ha0 : 0 ≤ a) (ha1 : a < 4294967296) (hb0 : 0 ≤ b) (hb1 : b < 4294967296) (w : World) :
    Calls Try.prog 16 #[.int .i64 4, .int .u32 a, .int .u32 b, .agg #[.bool fc, .bool fp, .bool fa, .bool fz, .bool fs, .bool fo]] w fun e w' => e = .returned (.tuple #[.int .u32 (bits .or .u32 a b), .agg #[.bool (false), .bool (par (bits .or .u32 a b)), .bool (false), .bool (bits .or .u32 a b == 0), .bool (bits .or .u32 a b / 2147483648 == 1), .bool (false)]]) ∧ Below w.heap.size w w' := by
  have hbit := bits_u32_bd .or a b
  go_enter Try.func16, Try.ntmps16
  go_wp2_with fail
  refine (alu_by _ _ _ _ _ _ _ hbit.1 hbit.2 _).mono ?_; rintro e w1 ⟨rfl, rfl⟩
  go_wp2_with fail
  go_region
  all_goals
    go_wp2_with fail
    refine bodyPost_ret (v := .tuple #[.int .u32 (bits .or .u32 a b), .agg #[.bool (false), .bool (par (bits .or .u32 a b)), .bool (false), .bool (bits .or .u32 a b == 0), .bool (bits .or .u32 a b / 2147483648 == 1), .bool (false)]]) (by simp [results, Try.results16, go_sem]) rfl ⟨rfl, ?_⟩
    repeat (first | exact Below.refl _ _ | apply Below.drew | (refine Below.alloc ?_ (by simp; try omega) _))

set_option maxHeartbeats 400000 in
theorem do_OXor (a b : Int) (fc fp fa fz fs fo : Bool) (ha0 : 0 ≤ a) (ha1 : a < 4294967296) (hb0 : 0 ≤ b) (hb1 : b < 4294967296) (w : World) :
    Calls Try.prog 16 #[.int .i64 9, .int .u32 a, .int .u32 b, .agg #[.bool fc, .bool fp, .bool fa, .bool fz, .bool fs, .bool fo]] w fun e w' => e = .returned (.tuple #[.int .u32 (bits .xor .u32 a b), .agg #[.bool (false), .bool (par (bits .xor .u32 a b)), .bool (false), .bool (bits .xor .u32 a b == 0), .bool (bits .xor .u32 a b / 2147483648 == 1), .bool (false)]]) ∧ Below w.heap.size w w' := by
  have hbit := bits_u32_bd .xor a b
  go_enter Try.func16, Try.ntmps16
  go_wp2_with fail
  refine (alu_by _ _ _ _ _ _ _ hbit.1 hbit.2 _).mono ?_; rintro e w1 ⟨rfl, rfl⟩
  go_wp2_with fail
  go_region
  all_goals
    go_wp2_with fail
    refine bodyPost_ret (v := .tuple #[.int .u32 (bits .xor .u32 a b), .agg #[.bool (false), .bool (par (bits .xor .u32 a b)), .bool (false), .bool (bits .xor .u32 a b == 0), .bool (bits .xor .u32 a b / 2147483648 == 1), .bool (false)]]) (by simp [results, Try.results16, go_sem]) rfl ⟨rfl, ?_⟩
    repeat (first | exact Below.refl _ _ | apply Below.drew | (refine Below.alloc ?_ (by simp; try omega) _))

set_option maxHeartbeats 400000 in
theorem do_OTest (a b : Int) (fc fp fa fz fs fo : Bool) (ha0 : 0 ≤ a) (ha1 : a < 4294967296) (hb0 : 0 ≤ b) (hb1 : b < 4294967296) (w : World) :
    Calls Try.prog 16 #[.int .i64 11, .int .u32 a, .int .u32 b, .agg #[.bool fc, .bool fp, .bool fa, .bool fz, .bool fs, .bool fo]] w fun e w' => e = .returned (.tuple #[.int .u32 (a), .agg #[.bool (false), .bool (par (bits .and .u32 a b)), .bool (false), .bool (bits .and .u32 a b == 0), .bool (bits .and .u32 a b / 2147483648 == 1), .bool (false)]]) ∧ Below w.heap.size w w' := by
  have hbit := bits_u32_bd .and a b
  go_enter Try.func16, Try.ntmps16
  go_wp2_with fail
  refine (alu_by _ _ _ _ _ _ _ hbit.1 hbit.2 _).mono ?_; rintro e w1 ⟨rfl, rfl⟩
  go_wp2_with fail
  go_region
  all_goals
    go_wp2_with fail
    refine bodyPost_ret (v := .tuple #[.int .u32 (a), .agg #[.bool (false), .bool (par (bits .and .u32 a b)), .bool (false), .bool (bits .and .u32 a b == 0), .bool (bits .and .u32 a b / 2147483648 == 1), .bool (false)]]) (by simp [results, Try.results16, go_sem]) rfl ⟨rfl, ?_⟩
    repeat (first | exact Below.refl _ _ | apply Below.drew | (refine Below.alloc ?_ (by simp; try omega) _))

set_option maxHeartbeats 400000 in
theorem do_OInc (a b : Int) (fc fp fa fz fs fo : Bool) (ha0 : 0 ≤ a) (ha1 : a < 4294967296) (hb0 : 0 ≤ b) (hb1 : b < 4294967296) (w : World) :
    Calls Try.prog 16 #[.int .i64 12, .int .u32 a, .int .u32 b, .agg #[.bool fc, .bool fp, .bool fa, .bool fz, .bool fs, .bool fo]] w fun e w' => e = .returned (.tuple #[.int .u32 (addR a 1 false), .agg #[.bool fc, .bool (par (addR a 1 false)), .bool (decide (15 < addR (a % 16) (1 % 16) false)), .bool (addR a 1 false == 0), .bool (addR a 1 false / 2147483648 == 1), .bool (addO a 1 false)]]) ∧ Below w.heap.size w w' := by
  go_enter Try.func16, Try.ntmps16
  go_wp2_with fail
  refine (alu_adds _ _ _ (by omega) (by omega) (by omega) (by omega) _).mono ?_; rintro e w1 ⟨rfl, rfl⟩
  go_wp2_with fail
  go_region
  all_goals
    go_wp2_with fail
    refine bodyPost_ret (v := .tuple #[.int .u32 (addR a 1 false), .agg #[.bool fc, .bool (par (addR a 1 false)), .bool (decide (15 < addR (a % 16) (1 % 16) false)), .bool (addR a 1 false == 0), .bool (addR a 1 false / 2147483648 == 1), .bool (addO a 1 false)]]) (by simp [results, Try.results16, go_sem]) rfl ⟨rfl, ?_⟩
    repeat (first | exact Below.refl _ _ | apply Below.drew | (refine Below.alloc ?_ (by simp; try omega) _))

set_option maxHeartbeats 400000 in
theorem do_ODec (a b : Int) (fc fp fa fz fs fo : Bool) (ha0 : 0 ≤ a) (ha1 : a < 4294967296) (hb0 : 0 ≤ b) (hb1 : b < 4294967296) (w : World) :
    Calls Try.prog 16 #[.int .i64 13, .int .u32 a, .int .u32 b, .agg #[.bool fc, .bool fp, .bool fa, .bool fz, .bool fs, .bool fo]] w fun e w' => e = .returned (.tuple #[.int .u32 (subR a 1 false), .agg #[.bool fc, .bool (par (subR a 1 false)), .bool (subC (a % 16) (1 % 16) false), .bool (subR a 1 false == 0), .bool (subR a 1 false / 2147483648 == 1), .bool (subO a 1 false)]]) ∧ Below w.heap.size w w' := by
  go_enter Try.func16, Try.ntmps16
  go_wp2_with fail
  refine (alu_takes _ _ _ (by omega) (by omega) (by omega) (by omega) _).mono ?_; rintro e w1 ⟨rfl, rfl⟩
  go_wp2_with fail
  go_region
  all_goals
    go_wp2_with fail
    refine bodyPost_ret (v := .tuple #[.int .u32 (subR a 1 false), .agg #[.bool fc, .bool (par (subR a 1 false)), .bool (subC (a % 16) (1 % 16) false), .bool (subR a 1 false == 0), .bool (subR a 1 false / 2147483648 == 1), .bool (subO a 1 false)]]) (by simp [results, Try.results16, go_sem]) rfl ⟨rfl, ?_⟩
    repeat (first | exact Below.refl _ _ | apply Below.drew | (refine Below.alloc ?_ (by simp; try omega) _))

set_option maxHeartbeats 400000 in
theorem do_ONeg (a b : Int) (fc fp fa fz fs fo : Bool) (ha0 : 0 ≤ a) (ha1 : a < 4294967296) (hb0 : 0 ≤ b) (hb1 : b < 4294967296) (w : World) :
    Calls Try.prog 16 #[.int .i64 15, .int .u32 a, .int .u32 b, .agg #[.bool fc, .bool fp, .bool fa, .bool fz, .bool fs, .bool fo]] w fun e w' => e = .returned (.tuple #[.int .u32 (subR 0 a false), .agg #[.bool (subC 0 a false), .bool (par (subR 0 a false)), .bool (subC (0 % 16) (a % 16) false), .bool (subR 0 a false == 0), .bool (subR 0 a false / 2147483648 == 1), .bool (subO 0 a false)]]) ∧ Below w.heap.size w w' := by
  go_enter Try.func16, Try.ntmps16
  go_wp2_with fail
  refine (alu_takes _ _ _ (by omega) (by omega) (by omega) (by omega) _).mono ?_; rintro e w1 ⟨rfl, rfl⟩
  go_wp2_with fail
  go_region
  all_goals
    go_wp2_with fail
    refine bodyPost_ret (v := .tuple #[.int .u32 (subR 0 a false), .agg #[.bool (subC 0 a false), .bool (par (subR 0 a false)), .bool (subC (0 % 16) (a % 16) false), .bool (subR 0 a false == 0), .bool (subR 0 a false / 2147483648 == 1), .bool (subO 0 a false)]]) (by simp [results, Try.results16, go_sem]) rfl ⟨rfl, ?_⟩
    repeat (first | exact Below.refl _ _ | apply Below.drew | (refine Below.alloc ?_ (by simp; try omega) _))

set_option maxHeartbeats 400000 in
theorem do_ONot (a b : Int) (fc fp fa fz fs fo : Bool) (ha0 : 0 ≤ a) (ha1 : a < 4294967296) (hb0 : 0 ≤ b) (hb1 : b < 4294967296) (w : World) :
    Calls Try.prog 16 #[.int .i64 14, .int .u32 a, .int .u32 b, .agg #[.bool fc, .bool fp, .bool fa, .bool fz, .bool fs, .bool fo]] w fun e w' => e = .returned (.tuple #[.int .u32 (4294967295 - a), .agg #[.bool fc, .bool fp, .bool fa, .bool fz, .bool fs, .bool fo]]) ∧ Below w.heap.size w w' := by
  have hn := not_u32 a ha0 ha1
  go_enter Try.func16, Try.ntmps16
  go_wp2_with fail
  go_region
  all_goals
    go_wp2_with fail
    refine bodyPost_ret (v := .tuple #[.int .u32 (4294967295 - a), .agg #[.bool fc, .bool fp, .bool fa, .bool fz, .bool fs, .bool fo]]) (by simp [results, Try.results16, go_sem]) rfl ⟨rfl, ?_⟩
    repeat (first | exact Below.refl _ _ | apply Below.drew | (refine Below.alloc ?_ (by simp; try omega) _))

end Go.Proofs.Ytndfcpkmchjncaa
