/- What alu.Writes and alu.Reads return: the walks. -/
import Derived.Test.YtndfcpkmchjncaaAluWalks
import Derived.Test.YtndfcpkmchjncaaKit
namespace Go.Proofs.Ytndfcpkmchjncaa
open Go.ChangeShapes Go.WideShapes Go.ChangeAt Go.RowKit
set_option linter.unusedVariables false
set_option maxRecDepth 100000

def rowsArr : Array Value := #[.int .i64 0, .int .i64 0, .int .i64 0, .int .i64 0, .int .i64 0, .int .i64 0, .int .i64 63, .int .i64 0, .int .i64 63, .int .i64 0, .int .i64 63, .int .i64 1, .int .i64 63, .int .i64 1, .int .i64 63, .int .i64 0, .int .i64 63, .int .i64 0, .int .i64 63, .int .i64 0, .int .i64 63, .int .i64 0, .int .i64 63, .int .i64 0, .int .i64 62, .int .i64 0, .int .i64 62, .int .i64 0, .int .i64 0, .int .i64 0, .int .i64 63, .int .i64 0, .int .i64 33, .int .i64 0, .int .i64 33, .int .i64 0, .int .i64 33, .int .i64 0, .int .i64 0, .int .i64 0, .int .i64 0, .int .i64 0, .int .i64 33, .int .i64 33, .int .i64 33, .int .i64 33, .int .i64 59, .int .i64 59, .int .i64 59, .int .i64 59, .int .i64 59, .int .i64 59, .int .i64 0, .int .i64 0, .int .i64 0, .int .i64 0, .int .i64 0, .int .i64 0, .int .i64 0, .int .i64 0, .int .i64 0, .int .i64 0, .int .i64 0, .int .i64 0, .int .i64 0, .int .i64 0, .int .i64 0, .int .i64 63, .int .i64 0, .int .i64 63, .int .i64 0, .int .i64 63, .int .i64 0, .int .i64 0, .int .i64 0, .int .i64 0, .int .i64 0, .int .i64 0, .int .i64 0, .int .i64 0, .int .i64 0, .int .i64 0, .int .i64 0, .int .i64 0, .int .i64 0, .int .i64 0, .int .i64 0, .int .i64 0, .int .i64 0, .int .i64 0, .int .i64 0, .int .i64 0, .int .i64 0, .int .i64 0, .int .i64 0, .int .i64 0, .int .i64 0, .int .i64 0, .int .i64 0, .int .i64 0, .int .i64 0, .int .i64 0, .int .i64 0, .int .i64 0, .int .i64 0, .int .i64 0, .int .i64 0, .int .i64 0]
def rowsZero : Array Value := #[.int .i64 0, .int .i64 0, .int .i64 0, .int .i64 0, .int .i64 0, .int .i64 0, .int .i64 0, .int .i64 0, .int .i64 0, .int .i64 0, .int .i64 0, .int .i64 0, .int .i64 0, .int .i64 0, .int .i64 0, .int .i64 0, .int .i64 0, .int .i64 0, .int .i64 0, .int .i64 0, .int .i64 0, .int .i64 0, .int .i64 0, .int .i64 0, .int .i64 0, .int .i64 0, .int .i64 0, .int .i64 0, .int .i64 0, .int .i64 0, .int .i64 0, .int .i64 0, .int .i64 0, .int .i64 0, .int .i64 0, .int .i64 0, .int .i64 0, .int .i64 0, .int .i64 0, .int .i64 0, .int .i64 0, .int .i64 0, .int .i64 0, .int .i64 0, .int .i64 0, .int .i64 0, .int .i64 0, .int .i64 0, .int .i64 0, .int .i64 0, .int .i64 0, .int .i64 0, .int .i64 0, .int .i64 0, .int .i64 0, .int .i64 0, .int .i64 0, .int .i64 0, .int .i64 0, .int .i64 0, .int .i64 0, .int .i64 0, .int .i64 0, .int .i64 0, .int .i64 0, .int .i64 0, .int .i64 0, .int .i64 0, .int .i64 0, .int .i64 0, .int .i64 0, .int .i64 0, .int .i64 0, .int .i64 0, .int .i64 0, .int .i64 0, .int .i64 0, .int .i64 0, .int .i64 0, .int .i64 0, .int .i64 0, .int .i64 0, .int .i64 0, .int .i64 0, .int .i64 0, .int .i64 0, .int .i64 0, .int .i64 0, .int .i64 0, .int .i64 0, .int .i64 0, .int .i64 0, .int .i64 0, .int .i64 0, .int .i64 0, .int .i64 0, .int .i64 0, .int .i64 0, .int .i64 0, .int .i64 0, .int .i64 0, .int .i64 0, .int .i64 0, .int .i64 0, .int .i64 0, .int .i64 0, .int .i64 0, .int .i64 0]

theorem rows_zero (w : World) : (zeroValue 120).run Try.prog w = .ok (.agg rowsZero) w := by kernel_rfl
theorem rows_size : (Try.prog.info? 120).map (·.size) = some rowsArr.size := by kernel_rfl
theorem rows_one : ∀ v ∈ rowsArr.toList, v.oneCell' = true := by decide +kernel

set_option maxHeartbeats 1000000 in
theorem alu_rows (w : World) : Calls Try.prog 77 #[] w fun e w' => e = .returned (.agg rowsArr) ∧ w.alloc (.cells rowsArr 120) = w' := by
  go_enter Try.func77, Try.ntmps77
  go_wp2_with (first | (refine Kit.wpList_alloc_as rfl _ rfl rowsZero (rows_zero _) ?_) | (refine Kit.wpList_build_as (t := 120) rfl _ rfl (.agg rowsArr) (by kernel_rfl) ?_) | (refine Kit.wpList_store_new rfl 120 _ _ rfl w rowsZero 120 rfl rfl rowsArr rfl (by decide +kernel) rows_size rows_one ?_))
  exact bodyPost_ret (v := .agg rowsArr) (Kit.results_row Try.results77 _ w 120 rowsArr _ rfl Try.underlying120 rfl rows_size) rfl ⟨rfl, rfl⟩

set_option maxHeartbeats 400000 in
theorem rowOf_3 (w : World) : Calls Try.prog 53 #[.int .i64 3] w fun e w' => e = .returned (.agg #[.int .i64 63, .int .i64 0]) ∧ Below w.heap.size w w' := by
  have h1 : rowsArr[6]? = some (.int .i64 63) := rfl
  have h2 : rowsArr[7]? = some (.int .i64 0) := rfl
  go_enter Try.func53, Try.ntmps53
  go_wp2_with fail
  refine (alu_rows _).mono ?_; rintro e w1 ⟨rfl, rfl⟩
  go_wp2_with (first | (refine Kit.wpList_alloc_as (t := 120) rfl rfl rowsZero (rows_zero _) ?_) | (refine Kit.wpList_store_new rfl 120 _ _ rfl ((w.alloc (.cells #[.int .i64 0, .int .i64 0] 95)).alloc (.cells rowsArr 120)) rowsZero 120 rfl rfl rowsArr rfl (by decide +kernel) rows_size rows_one ?_))
  refine bodyPost_ret (v := .agg #[.int .i64 63, .int .i64 0]) (by simp [results, Try.results53, go_sem]) rfl ⟨rfl, ?_⟩
  repeat (first | exact Below.refl _ _ | apply Below.drew | (refine Below.alloc ?_ (by simp; try omega) _))

set_option maxHeartbeats 400000 in
theorem rowOf_4 (w : World) : Calls Try.prog 53 #[.int .i64 4] w fun e w' => e = .returned (.agg #[.int .i64 63, .int .i64 0]) ∧ Below w.heap.size w w' := by
  have h1 : rowsArr[8]? = some (.int .i64 63) := rfl
  have h2 : rowsArr[9]? = some (.int .i64 0) := rfl
  go_enter Try.func53, Try.ntmps53
  go_wp2_with fail
  refine (alu_rows _).mono ?_; rintro e w1 ⟨rfl, rfl⟩
  go_wp2_with (first | (refine Kit.wpList_alloc_as (t := 120) rfl rfl rowsZero (rows_zero _) ?_) | (refine Kit.wpList_store_new rfl 120 _ _ rfl ((w.alloc (.cells #[.int .i64 0, .int .i64 0] 95)).alloc (.cells rowsArr 120)) rowsZero 120 rfl rfl rowsArr rfl (by decide +kernel) rows_size rows_one ?_))
  refine bodyPost_ret (v := .agg #[.int .i64 63, .int .i64 0]) (by simp [results, Try.results53, go_sem]) rfl ⟨rfl, ?_⟩
  repeat (first | exact Below.refl _ _ | apply Below.drew | (refine Below.alloc ?_ (by simp; try omega) _))

set_option maxHeartbeats 400000 in
theorem rowOf_5 (w : World) : Calls Try.prog 53 #[.int .i64 5] w fun e w' => e = .returned (.agg #[.int .i64 63, .int .i64 1]) ∧ Below w.heap.size w w' := by
  have h1 : rowsArr[10]? = some (.int .i64 63) := rfl
  have h2 : rowsArr[11]? = some (.int .i64 1) := rfl
  go_enter Try.func53, Try.ntmps53
  go_wp2_with fail
  refine (alu_rows _).mono ?_; rintro e w1 ⟨rfl, rfl⟩
  go_wp2_with (first | (refine Kit.wpList_alloc_as (t := 120) rfl rfl rowsZero (rows_zero _) ?_) | (refine Kit.wpList_store_new rfl 120 _ _ rfl ((w.alloc (.cells #[.int .i64 0, .int .i64 0] 95)).alloc (.cells rowsArr 120)) rowsZero 120 rfl rfl rowsArr rfl (by decide +kernel) rows_size rows_one ?_))
  refine bodyPost_ret (v := .agg #[.int .i64 63, .int .i64 1]) (by simp [results, Try.results53, go_sem]) rfl ⟨rfl, ?_⟩
  repeat (first | exact Below.refl _ _ | apply Below.drew | (refine Below.alloc ?_ (by simp; try omega) _))

set_option maxHeartbeats 400000 in
theorem rowOf_6 (w : World) : Calls Try.prog 53 #[.int .i64 6] w fun e w' => e = .returned (.agg #[.int .i64 63, .int .i64 1]) ∧ Below w.heap.size w w' := by
  have h1 : rowsArr[12]? = some (.int .i64 63) := rfl
  have h2 : rowsArr[13]? = some (.int .i64 1) := rfl
  go_enter Try.func53, Try.ntmps53
  go_wp2_with fail
  refine (alu_rows _).mono ?_; rintro e w1 ⟨rfl, rfl⟩
  go_wp2_with (first | (refine Kit.wpList_alloc_as (t := 120) rfl rfl rowsZero (rows_zero _) ?_) | (refine Kit.wpList_store_new rfl 120 _ _ rfl ((w.alloc (.cells #[.int .i64 0, .int .i64 0] 95)).alloc (.cells rowsArr 120)) rowsZero 120 rfl rfl rowsArr rfl (by decide +kernel) rows_size rows_one ?_))
  refine bodyPost_ret (v := .agg #[.int .i64 63, .int .i64 1]) (by simp [results, Try.results53, go_sem]) rfl ⟨rfl, ?_⟩
  repeat (first | exact Below.refl _ _ | apply Below.drew | (refine Below.alloc ?_ (by simp; try omega) _))

set_option maxHeartbeats 400000 in
theorem rowOf_7 (w : World) : Calls Try.prog 53 #[.int .i64 7] w fun e w' => e = .returned (.agg #[.int .i64 63, .int .i64 0]) ∧ Below w.heap.size w w' := by
  have h1 : rowsArr[14]? = some (.int .i64 63) := rfl
  have h2 : rowsArr[15]? = some (.int .i64 0) := rfl
  go_enter Try.func53, Try.ntmps53
  go_wp2_with fail
  refine (alu_rows _).mono ?_; rintro e w1 ⟨rfl, rfl⟩
  go_wp2_with (first | (refine Kit.wpList_alloc_as (t := 120) rfl rfl rowsZero (rows_zero _) ?_) | (refine Kit.wpList_store_new rfl 120 _ _ rfl ((w.alloc (.cells #[.int .i64 0, .int .i64 0] 95)).alloc (.cells rowsArr 120)) rowsZero 120 rfl rfl rowsArr rfl (by decide +kernel) rows_size rows_one ?_))
  refine bodyPost_ret (v := .agg #[.int .i64 63, .int .i64 0]) (by simp [results, Try.results53, go_sem]) rfl ⟨rfl, ?_⟩
  repeat (first | exact Below.refl _ _ | apply Below.drew | (refine Below.alloc ?_ (by simp; try omega) _))

set_option maxHeartbeats 400000 in
theorem rowOf_8 (w : World) : Calls Try.prog 53 #[.int .i64 8] w fun e w' => e = .returned (.agg #[.int .i64 63, .int .i64 0]) ∧ Below w.heap.size w w' := by
  have h1 : rowsArr[16]? = some (.int .i64 63) := rfl
  have h2 : rowsArr[17]? = some (.int .i64 0) := rfl
  go_enter Try.func53, Try.ntmps53
  go_wp2_with fail
  refine (alu_rows _).mono ?_; rintro e w1 ⟨rfl, rfl⟩
  go_wp2_with (first | (refine Kit.wpList_alloc_as (t := 120) rfl rfl rowsZero (rows_zero _) ?_) | (refine Kit.wpList_store_new rfl 120 _ _ rfl ((w.alloc (.cells #[.int .i64 0, .int .i64 0] 95)).alloc (.cells rowsArr 120)) rowsZero 120 rfl rfl rowsArr rfl (by decide +kernel) rows_size rows_one ?_))
  refine bodyPost_ret (v := .agg #[.int .i64 63, .int .i64 0]) (by simp [results, Try.results53, go_sem]) rfl ⟨rfl, ?_⟩
  repeat (first | exact Below.refl _ _ | apply Below.drew | (refine Below.alloc ?_ (by simp; try omega) _))

set_option maxHeartbeats 400000 in
theorem rowOf_9 (w : World) : Calls Try.prog 53 #[.int .i64 9] w fun e w' => e = .returned (.agg #[.int .i64 63, .int .i64 0]) ∧ Below w.heap.size w w' := by
  have h1 : rowsArr[18]? = some (.int .i64 63) := rfl
  have h2 : rowsArr[19]? = some (.int .i64 0) := rfl
  go_enter Try.func53, Try.ntmps53
  go_wp2_with fail
  refine (alu_rows _).mono ?_; rintro e w1 ⟨rfl, rfl⟩
  go_wp2_with (first | (refine Kit.wpList_alloc_as (t := 120) rfl rfl rowsZero (rows_zero _) ?_) | (refine Kit.wpList_store_new rfl 120 _ _ rfl ((w.alloc (.cells #[.int .i64 0, .int .i64 0] 95)).alloc (.cells rowsArr 120)) rowsZero 120 rfl rfl rowsArr rfl (by decide +kernel) rows_size rows_one ?_))
  refine bodyPost_ret (v := .agg #[.int .i64 63, .int .i64 0]) (by simp [results, Try.results53, go_sem]) rfl ⟨rfl, ?_⟩
  repeat (first | exact Below.refl _ _ | apply Below.drew | (refine Below.alloc ?_ (by simp; try omega) _))

set_option maxHeartbeats 400000 in
theorem rowOf_10 (w : World) : Calls Try.prog 53 #[.int .i64 10] w fun e w' => e = .returned (.agg #[.int .i64 63, .int .i64 0]) ∧ Below w.heap.size w w' := by
  have h1 : rowsArr[20]? = some (.int .i64 63) := rfl
  have h2 : rowsArr[21]? = some (.int .i64 0) := rfl
  go_enter Try.func53, Try.ntmps53
  go_wp2_with fail
  refine (alu_rows _).mono ?_; rintro e w1 ⟨rfl, rfl⟩
  go_wp2_with (first | (refine Kit.wpList_alloc_as (t := 120) rfl rfl rowsZero (rows_zero _) ?_) | (refine Kit.wpList_store_new rfl 120 _ _ rfl ((w.alloc (.cells #[.int .i64 0, .int .i64 0] 95)).alloc (.cells rowsArr 120)) rowsZero 120 rfl rfl rowsArr rfl (by decide +kernel) rows_size rows_one ?_))
  refine bodyPost_ret (v := .agg #[.int .i64 63, .int .i64 0]) (by simp [results, Try.results53, go_sem]) rfl ⟨rfl, ?_⟩
  repeat (first | exact Below.refl _ _ | apply Below.drew | (refine Below.alloc ?_ (by simp; try omega) _))

set_option maxHeartbeats 400000 in
theorem rowOf_11 (w : World) : Calls Try.prog 53 #[.int .i64 11] w fun e w' => e = .returned (.agg #[.int .i64 63, .int .i64 0]) ∧ Below w.heap.size w w' := by
  have h1 : rowsArr[22]? = some (.int .i64 63) := rfl
  have h2 : rowsArr[23]? = some (.int .i64 0) := rfl
  go_enter Try.func53, Try.ntmps53
  go_wp2_with fail
  refine (alu_rows _).mono ?_; rintro e w1 ⟨rfl, rfl⟩
  go_wp2_with (first | (refine Kit.wpList_alloc_as (t := 120) rfl rfl rowsZero (rows_zero _) ?_) | (refine Kit.wpList_store_new rfl 120 _ _ rfl ((w.alloc (.cells #[.int .i64 0, .int .i64 0] 95)).alloc (.cells rowsArr 120)) rowsZero 120 rfl rfl rowsArr rfl (by decide +kernel) rows_size rows_one ?_))
  refine bodyPost_ret (v := .agg #[.int .i64 63, .int .i64 0]) (by simp [results, Try.results53, go_sem]) rfl ⟨rfl, ?_⟩
  repeat (first | exact Below.refl _ _ | apply Below.drew | (refine Below.alloc ?_ (by simp; try omega) _))

set_option maxHeartbeats 400000 in
theorem rowOf_12 (w : World) : Calls Try.prog 53 #[.int .i64 12] w fun e w' => e = .returned (.agg #[.int .i64 62, .int .i64 0]) ∧ Below w.heap.size w w' := by
  have h1 : rowsArr[24]? = some (.int .i64 62) := rfl
  have h2 : rowsArr[25]? = some (.int .i64 0) := rfl
  go_enter Try.func53, Try.ntmps53
  go_wp2_with fail
  refine (alu_rows _).mono ?_; rintro e w1 ⟨rfl, rfl⟩
  go_wp2_with (first | (refine Kit.wpList_alloc_as (t := 120) rfl rfl rowsZero (rows_zero _) ?_) | (refine Kit.wpList_store_new rfl 120 _ _ rfl ((w.alloc (.cells #[.int .i64 0, .int .i64 0] 95)).alloc (.cells rowsArr 120)) rowsZero 120 rfl rfl rowsArr rfl (by decide +kernel) rows_size rows_one ?_))
  refine bodyPost_ret (v := .agg #[.int .i64 62, .int .i64 0]) (by simp [results, Try.results53, go_sem]) rfl ⟨rfl, ?_⟩
  repeat (first | exact Below.refl _ _ | apply Below.drew | (refine Below.alloc ?_ (by simp; try omega) _))

set_option maxHeartbeats 400000 in
theorem rowOf_13 (w : World) : Calls Try.prog 53 #[.int .i64 13] w fun e w' => e = .returned (.agg #[.int .i64 62, .int .i64 0]) ∧ Below w.heap.size w w' := by
  have h1 : rowsArr[26]? = some (.int .i64 62) := rfl
  have h2 : rowsArr[27]? = some (.int .i64 0) := rfl
  go_enter Try.func53, Try.ntmps53
  go_wp2_with fail
  refine (alu_rows _).mono ?_; rintro e w1 ⟨rfl, rfl⟩
  go_wp2_with (first | (refine Kit.wpList_alloc_as (t := 120) rfl rfl rowsZero (rows_zero _) ?_) | (refine Kit.wpList_store_new rfl 120 _ _ rfl ((w.alloc (.cells #[.int .i64 0, .int .i64 0] 95)).alloc (.cells rowsArr 120)) rowsZero 120 rfl rfl rowsArr rfl (by decide +kernel) rows_size rows_one ?_))
  refine bodyPost_ret (v := .agg #[.int .i64 62, .int .i64 0]) (by simp [results, Try.results53, go_sem]) rfl ⟨rfl, ?_⟩
  repeat (first | exact Below.refl _ _ | apply Below.drew | (refine Below.alloc ?_ (by simp; try omega) _))

set_option maxHeartbeats 400000 in
theorem rowOf_14 (w : World) : Calls Try.prog 53 #[.int .i64 14] w fun e w' => e = .returned (.agg #[.int .i64 0, .int .i64 0]) ∧ Below w.heap.size w w' := by
  have h1 : rowsArr[28]? = some (.int .i64 0) := rfl
  have h2 : rowsArr[29]? = some (.int .i64 0) := rfl
  go_enter Try.func53, Try.ntmps53
  go_wp2_with fail
  refine (alu_rows _).mono ?_; rintro e w1 ⟨rfl, rfl⟩
  go_wp2_with (first | (refine Kit.wpList_alloc_as (t := 120) rfl rfl rowsZero (rows_zero _) ?_) | (refine Kit.wpList_store_new rfl 120 _ _ rfl ((w.alloc (.cells #[.int .i64 0, .int .i64 0] 95)).alloc (.cells rowsArr 120)) rowsZero 120 rfl rfl rowsArr rfl (by decide +kernel) rows_size rows_one ?_))
  refine bodyPost_ret (v := .agg #[.int .i64 0, .int .i64 0]) (by simp [results, Try.results53, go_sem]) rfl ⟨rfl, ?_⟩
  repeat (first | exact Below.refl _ _ | apply Below.drew | (refine Below.alloc ?_ (by simp; try omega) _))

set_option maxHeartbeats 400000 in
theorem rowOf_15 (w : World) : Calls Try.prog 53 #[.int .i64 15] w fun e w' => e = .returned (.agg #[.int .i64 63, .int .i64 0]) ∧ Below w.heap.size w w' := by
  have h1 : rowsArr[30]? = some (.int .i64 63) := rfl
  have h2 : rowsArr[31]? = some (.int .i64 0) := rfl
  go_enter Try.func53, Try.ntmps53
  go_wp2_with fail
  refine (alu_rows _).mono ?_; rintro e w1 ⟨rfl, rfl⟩
  go_wp2_with (first | (refine Kit.wpList_alloc_as (t := 120) rfl rfl rowsZero (rows_zero _) ?_) | (refine Kit.wpList_store_new rfl 120 _ _ rfl ((w.alloc (.cells #[.int .i64 0, .int .i64 0] 95)).alloc (.cells rowsArr 120)) rowsZero 120 rfl rfl rowsArr rfl (by decide +kernel) rows_size rows_one ?_))
  refine bodyPost_ret (v := .agg #[.int .i64 63, .int .i64 0]) (by simp [results, Try.results53, go_sem]) rfl ⟨rfl, ?_⟩
  repeat (first | exact Below.refl _ _ | apply Below.drew | (refine Below.alloc ?_ (by simp; try omega) _))

set_option maxHeartbeats 400000 in
theorem rowOf_21 (w : World) : Calls Try.prog 53 #[.int .i64 21] w fun e w' => e = .returned (.agg #[.int .i64 33, .int .i64 33]) ∧ Below w.heap.size w w' := by
  have h1 : rowsArr[42]? = some (.int .i64 33) := rfl
  have h2 : rowsArr[43]? = some (.int .i64 33) := rfl
  go_enter Try.func53, Try.ntmps53
  go_wp2_with fail
  refine (alu_rows _).mono ?_; rintro e w1 ⟨rfl, rfl⟩
  go_wp2_with (first | (refine Kit.wpList_alloc_as (t := 120) rfl rfl rowsZero (rows_zero _) ?_) | (refine Kit.wpList_store_new rfl 120 _ _ rfl ((w.alloc (.cells #[.int .i64 0, .int .i64 0] 95)).alloc (.cells rowsArr 120)) rowsZero 120 rfl rfl rowsArr rfl (by decide +kernel) rows_size rows_one ?_))
  refine bodyPost_ret (v := .agg #[.int .i64 33, .int .i64 33]) (by simp [results, Try.results53, go_sem]) rfl ⟨rfl, ?_⟩
  repeat (first | exact Below.refl _ _ | apply Below.drew | (refine Below.alloc ?_ (by simp; try omega) _))

set_option maxHeartbeats 400000 in
theorem rowOf_22 (w : World) : Calls Try.prog 53 #[.int .i64 22] w fun e w' => e = .returned (.agg #[.int .i64 33, .int .i64 33]) ∧ Below w.heap.size w w' := by
  have h1 : rowsArr[44]? = some (.int .i64 33) := rfl
  have h2 : rowsArr[45]? = some (.int .i64 33) := rfl
  go_enter Try.func53, Try.ntmps53
  go_wp2_with fail
  refine (alu_rows _).mono ?_; rintro e w1 ⟨rfl, rfl⟩
  go_wp2_with (first | (refine Kit.wpList_alloc_as (t := 120) rfl rfl rowsZero (rows_zero _) ?_) | (refine Kit.wpList_store_new rfl 120 _ _ rfl ((w.alloc (.cells #[.int .i64 0, .int .i64 0] 95)).alloc (.cells rowsArr 120)) rowsZero 120 rfl rfl rowsArr rfl (by decide +kernel) rows_size rows_one ?_))
  refine bodyPost_ret (v := .agg #[.int .i64 33, .int .i64 33]) (by simp [results, Try.results53, go_sem]) rfl ⟨rfl, ?_⟩
  repeat (first | exact Below.refl _ _ | apply Below.drew | (refine Below.alloc ?_ (by simp; try omega) _))

set_option maxHeartbeats 400000 in
theorem rowOf_23 (w : World) : Calls Try.prog 53 #[.int .i64 23] w fun e w' => e = .returned (.agg #[.int .i64 59, .int .i64 59]) ∧ Below w.heap.size w w' := by
  have h1 : rowsArr[46]? = some (.int .i64 59) := rfl
  have h2 : rowsArr[47]? = some (.int .i64 59) := rfl
  go_enter Try.func53, Try.ntmps53
  go_wp2_with fail
  refine (alu_rows _).mono ?_; rintro e w1 ⟨rfl, rfl⟩
  go_wp2_with (first | (refine Kit.wpList_alloc_as (t := 120) rfl rfl rowsZero (rows_zero _) ?_) | (refine Kit.wpList_store_new rfl 120 _ _ rfl ((w.alloc (.cells #[.int .i64 0, .int .i64 0] 95)).alloc (.cells rowsArr 120)) rowsZero 120 rfl rfl rowsArr rfl (by decide +kernel) rows_size rows_one ?_))
  refine bodyPost_ret (v := .agg #[.int .i64 59, .int .i64 59]) (by simp [results, Try.results53, go_sem]) rfl ⟨rfl, ?_⟩
  repeat (first | exact Below.refl _ _ | apply Below.drew | (refine Below.alloc ?_ (by simp; try omega) _))

set_option maxHeartbeats 400000 in
theorem rowOf_24 (w : World) : Calls Try.prog 53 #[.int .i64 24] w fun e w' => e = .returned (.agg #[.int .i64 59, .int .i64 59]) ∧ Below w.heap.size w w' := by
  have h1 : rowsArr[48]? = some (.int .i64 59) := rfl
  have h2 : rowsArr[49]? = some (.int .i64 59) := rfl
  go_enter Try.func53, Try.ntmps53
  go_wp2_with fail
  refine (alu_rows _).mono ?_; rintro e w1 ⟨rfl, rfl⟩
  go_wp2_with (first | (refine Kit.wpList_alloc_as (t := 120) rfl rfl rowsZero (rows_zero _) ?_) | (refine Kit.wpList_store_new rfl 120 _ _ rfl ((w.alloc (.cells #[.int .i64 0, .int .i64 0] 95)).alloc (.cells rowsArr 120)) rowsZero 120 rfl rfl rowsArr rfl (by decide +kernel) rows_size rows_one ?_))
  refine bodyPost_ret (v := .agg #[.int .i64 59, .int .i64 59]) (by simp [results, Try.results53, go_sem]) rfl ⟨rfl, ?_⟩
  repeat (first | exact Below.refl _ _ | apply Below.drew | (refine Below.alloc ?_ (by simp; try omega) _))

set_option maxHeartbeats 400000 in
theorem rowOf_25 (w : World) : Calls Try.prog 53 #[.int .i64 25] w fun e w' => e = .returned (.agg #[.int .i64 59, .int .i64 59]) ∧ Below w.heap.size w w' := by
  have h1 : rowsArr[50]? = some (.int .i64 59) := rfl
  have h2 : rowsArr[51]? = some (.int .i64 59) := rfl
  go_enter Try.func53, Try.ntmps53
  go_wp2_with fail
  refine (alu_rows _).mono ?_; rintro e w1 ⟨rfl, rfl⟩
  go_wp2_with (first | (refine Kit.wpList_alloc_as (t := 120) rfl rfl rowsZero (rows_zero _) ?_) | (refine Kit.wpList_store_new rfl 120 _ _ rfl ((w.alloc (.cells #[.int .i64 0, .int .i64 0] 95)).alloc (.cells rowsArr 120)) rowsZero 120 rfl rfl rowsArr rfl (by decide +kernel) rows_size rows_one ?_))
  refine bodyPost_ret (v := .agg #[.int .i64 59, .int .i64 59]) (by simp [results, Try.results53, go_sem]) rfl ⟨rfl, ?_⟩
  repeat (first | exact Below.refl _ _ | apply Below.drew | (refine Below.alloc ?_ (by simp; try omega) _))

theorem Writes_3 (w : World) : Calls Try.prog 19 #[.int .i64 3] w fun e w' => e = .returned (.int .i64 63) ∧ Below w.heap.size w w' := by
  have hf : ∀ w : World, (Instr.field 95 (.agg #[.int .i64 63, .int .i64 0]) 0).run Try.prog w = .ok (.int .i64 63) w := fun _ => by kernel_rfl
  go_enter Try.func19, Try.ntmps19
  go_wp2_with fail
  refine (rowOf_3 _).mono ?_; rintro e w1 ⟨rfl, hb⟩
  go_wp2_with fail
  go_ret
  exact ⟨rfl, hb⟩

theorem Writes_4 (w : World) : Calls Try.prog 19 #[.int .i64 4] w fun e w' => e = .returned (.int .i64 63) ∧ Below w.heap.size w w' := by
  have hf : ∀ w : World, (Instr.field 95 (.agg #[.int .i64 63, .int .i64 0]) 0).run Try.prog w = .ok (.int .i64 63) w := fun _ => by kernel_rfl
  go_enter Try.func19, Try.ntmps19
  go_wp2_with fail
  refine (rowOf_4 _).mono ?_; rintro e w1 ⟨rfl, hb⟩
  go_wp2_with fail
  go_ret
  exact ⟨rfl, hb⟩

theorem Writes_5 (w : World) : Calls Try.prog 19 #[.int .i64 5] w fun e w' => e = .returned (.int .i64 63) ∧ Below w.heap.size w w' := by
  have hf : ∀ w : World, (Instr.field 95 (.agg #[.int .i64 63, .int .i64 1]) 0).run Try.prog w = .ok (.int .i64 63) w := fun _ => by kernel_rfl
  go_enter Try.func19, Try.ntmps19
  go_wp2_with fail
  refine (rowOf_5 _).mono ?_; rintro e w1 ⟨rfl, hb⟩
  go_wp2_with fail
  go_ret
  exact ⟨rfl, hb⟩

theorem Reads_5 (w : World) : Calls Try.prog 20 #[.int .i64 5] w fun e w' => e = .returned (.int .i64 1) ∧ Below w.heap.size w w' := by
  have hf : ∀ w : World, (Instr.field 95 (.agg #[.int .i64 63, .int .i64 1]) 1).run Try.prog w = .ok (.int .i64 1) w := fun _ => by kernel_rfl
  go_enter Try.func20, Try.ntmps20
  go_wp2_with fail
  refine (rowOf_5 _).mono ?_; rintro e w1 ⟨rfl, hb⟩
  go_wp2_with fail
  go_ret
  exact ⟨rfl, hb⟩

theorem Writes_6 (w : World) : Calls Try.prog 19 #[.int .i64 6] w fun e w' => e = .returned (.int .i64 63) ∧ Below w.heap.size w w' := by
  have hf : ∀ w : World, (Instr.field 95 (.agg #[.int .i64 63, .int .i64 1]) 0).run Try.prog w = .ok (.int .i64 63) w := fun _ => by kernel_rfl
  go_enter Try.func19, Try.ntmps19
  go_wp2_with fail
  refine (rowOf_6 _).mono ?_; rintro e w1 ⟨rfl, hb⟩
  go_wp2_with fail
  go_ret
  exact ⟨rfl, hb⟩

theorem Writes_7 (w : World) : Calls Try.prog 19 #[.int .i64 7] w fun e w' => e = .returned (.int .i64 63) ∧ Below w.heap.size w w' := by
  have hf : ∀ w : World, (Instr.field 95 (.agg #[.int .i64 63, .int .i64 0]) 0).run Try.prog w = .ok (.int .i64 63) w := fun _ => by kernel_rfl
  go_enter Try.func19, Try.ntmps19
  go_wp2_with fail
  refine (rowOf_7 _).mono ?_; rintro e w1 ⟨rfl, hb⟩
  go_wp2_with fail
  go_ret
  exact ⟨rfl, hb⟩

theorem Writes_8 (w : World) : Calls Try.prog 19 #[.int .i64 8] w fun e w' => e = .returned (.int .i64 63) ∧ Below w.heap.size w w' := by
  have hf : ∀ w : World, (Instr.field 95 (.agg #[.int .i64 63, .int .i64 0]) 0).run Try.prog w = .ok (.int .i64 63) w := fun _ => by kernel_rfl
  go_enter Try.func19, Try.ntmps19
  go_wp2_with fail
  refine (rowOf_8 _).mono ?_; rintro e w1 ⟨rfl, hb⟩
  go_wp2_with fail
  go_ret
  exact ⟨rfl, hb⟩

theorem Writes_9 (w : World) : Calls Try.prog 19 #[.int .i64 9] w fun e w' => e = .returned (.int .i64 63) ∧ Below w.heap.size w w' := by
  have hf : ∀ w : World, (Instr.field 95 (.agg #[.int .i64 63, .int .i64 0]) 0).run Try.prog w = .ok (.int .i64 63) w := fun _ => by kernel_rfl
  go_enter Try.func19, Try.ntmps19
  go_wp2_with fail
  refine (rowOf_9 _).mono ?_; rintro e w1 ⟨rfl, hb⟩
  go_wp2_with fail
  go_ret
  exact ⟨rfl, hb⟩

theorem Writes_10 (w : World) : Calls Try.prog 19 #[.int .i64 10] w fun e w' => e = .returned (.int .i64 63) ∧ Below w.heap.size w w' := by
  have hf : ∀ w : World, (Instr.field 95 (.agg #[.int .i64 63, .int .i64 0]) 0).run Try.prog w = .ok (.int .i64 63) w := fun _ => by kernel_rfl
  go_enter Try.func19, Try.ntmps19
  go_wp2_with fail
  refine (rowOf_10 _).mono ?_; rintro e w1 ⟨rfl, hb⟩
  go_wp2_with fail
  go_ret
  exact ⟨rfl, hb⟩

theorem Writes_11 (w : World) : Calls Try.prog 19 #[.int .i64 11] w fun e w' => e = .returned (.int .i64 63) ∧ Below w.heap.size w w' := by
  have hf : ∀ w : World, (Instr.field 95 (.agg #[.int .i64 63, .int .i64 0]) 0).run Try.prog w = .ok (.int .i64 63) w := fun _ => by kernel_rfl
  go_enter Try.func19, Try.ntmps19
  go_wp2_with fail
  refine (rowOf_11 _).mono ?_; rintro e w1 ⟨rfl, hb⟩
  go_wp2_with fail
  go_ret
  exact ⟨rfl, hb⟩

theorem Writes_12 (w : World) : Calls Try.prog 19 #[.int .i64 12] w fun e w' => e = .returned (.int .i64 62) ∧ Below w.heap.size w w' := by
  have hf : ∀ w : World, (Instr.field 95 (.agg #[.int .i64 62, .int .i64 0]) 0).run Try.prog w = .ok (.int .i64 62) w := fun _ => by kernel_rfl
  go_enter Try.func19, Try.ntmps19
  go_wp2_with fail
  refine (rowOf_12 _).mono ?_; rintro e w1 ⟨rfl, hb⟩
  go_wp2_with fail
  go_ret
  exact ⟨rfl, hb⟩

theorem Writes_13 (w : World) : Calls Try.prog 19 #[.int .i64 13] w fun e w' => e = .returned (.int .i64 62) ∧ Below w.heap.size w w' := by
  have hf : ∀ w : World, (Instr.field 95 (.agg #[.int .i64 62, .int .i64 0]) 0).run Try.prog w = .ok (.int .i64 62) w := fun _ => by kernel_rfl
  go_enter Try.func19, Try.ntmps19
  go_wp2_with fail
  refine (rowOf_13 _).mono ?_; rintro e w1 ⟨rfl, hb⟩
  go_wp2_with fail
  go_ret
  exact ⟨rfl, hb⟩

theorem Writes_14 (w : World) : Calls Try.prog 19 #[.int .i64 14] w fun e w' => e = .returned (.int .i64 0) ∧ Below w.heap.size w w' := by
  have hf : ∀ w : World, (Instr.field 95 (.agg #[.int .i64 0, .int .i64 0]) 0).run Try.prog w = .ok (.int .i64 0) w := fun _ => by kernel_rfl
  go_enter Try.func19, Try.ntmps19
  go_wp2_with fail
  refine (rowOf_14 _).mono ?_; rintro e w1 ⟨rfl, hb⟩
  go_wp2_with fail
  go_ret
  exact ⟨rfl, hb⟩

theorem Writes_15 (w : World) : Calls Try.prog 19 #[.int .i64 15] w fun e w' => e = .returned (.int .i64 63) ∧ Below w.heap.size w w' := by
  have hf : ∀ w : World, (Instr.field 95 (.agg #[.int .i64 63, .int .i64 0]) 0).run Try.prog w = .ok (.int .i64 63) w := fun _ => by kernel_rfl
  go_enter Try.func19, Try.ntmps19
  go_wp2_with fail
  refine (rowOf_15 _).mono ?_; rintro e w1 ⟨rfl, hb⟩
  go_wp2_with fail
  go_ret
  exact ⟨rfl, hb⟩

theorem Writes_21 (w : World) : Calls Try.prog 19 #[.int .i64 21] w fun e w' => e = .returned (.int .i64 33) ∧ Below w.heap.size w w' := by
  have hf : ∀ w : World, (Instr.field 95 (.agg #[.int .i64 33, .int .i64 33]) 0).run Try.prog w = .ok (.int .i64 33) w := fun _ => by kernel_rfl
  go_enter Try.func19, Try.ntmps19
  go_wp2_with fail
  refine (rowOf_21 _).mono ?_; rintro e w1 ⟨rfl, hb⟩
  go_wp2_with fail
  go_ret
  exact ⟨rfl, hb⟩

theorem Writes_22 (w : World) : Calls Try.prog 19 #[.int .i64 22] w fun e w' => e = .returned (.int .i64 33) ∧ Below w.heap.size w w' := by
  have hf : ∀ w : World, (Instr.field 95 (.agg #[.int .i64 33, .int .i64 33]) 0).run Try.prog w = .ok (.int .i64 33) w := fun _ => by kernel_rfl
  go_enter Try.func19, Try.ntmps19
  go_wp2_with fail
  refine (rowOf_22 _).mono ?_; rintro e w1 ⟨rfl, hb⟩
  go_wp2_with fail
  go_ret
  exact ⟨rfl, hb⟩

theorem Writes_23 (w : World) : Calls Try.prog 19 #[.int .i64 23] w fun e w' => e = .returned (.int .i64 59) ∧ Below w.heap.size w w' := by
  have hf : ∀ w : World, (Instr.field 95 (.agg #[.int .i64 59, .int .i64 59]) 0).run Try.prog w = .ok (.int .i64 59) w := fun _ => by kernel_rfl
  go_enter Try.func19, Try.ntmps19
  go_wp2_with fail
  refine (rowOf_23 _).mono ?_; rintro e w1 ⟨rfl, hb⟩
  go_wp2_with fail
  go_ret
  exact ⟨rfl, hb⟩

theorem Writes_24 (w : World) : Calls Try.prog 19 #[.int .i64 24] w fun e w' => e = .returned (.int .i64 59) ∧ Below w.heap.size w w' := by
  have hf : ∀ w : World, (Instr.field 95 (.agg #[.int .i64 59, .int .i64 59]) 0).run Try.prog w = .ok (.int .i64 59) w := fun _ => by kernel_rfl
  go_enter Try.func19, Try.ntmps19
  go_wp2_with fail
  refine (rowOf_24 _).mono ?_; rintro e w1 ⟨rfl, hb⟩
  go_wp2_with fail
  go_ret
  exact ⟨rfl, hb⟩

theorem Writes_25 (w : World) : Calls Try.prog 19 #[.int .i64 25] w fun e w' => e = .returned (.int .i64 59) ∧ Below w.heap.size w w' := by
  have hf : ∀ w : World, (Instr.field 95 (.agg #[.int .i64 59, .int .i64 59]) 0).run Try.prog w = .ok (.int .i64 59) w := fun _ => by kernel_rfl
  go_enter Try.func19, Try.ntmps19
  go_wp2_with fail
  refine (rowOf_25 _).mono ?_; rintro e w1 ⟨rfl, hb⟩
  go_wp2_with fail
  go_ret
  exact ⟨rfl, hb⟩

end Go.Proofs.Ytndfcpkmchjncaa
