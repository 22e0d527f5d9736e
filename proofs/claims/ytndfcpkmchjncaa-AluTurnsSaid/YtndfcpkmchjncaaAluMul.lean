/- What alu.Mul and alu.Div return: the walks. -/
import Derived.Test.YtndfcpkmchjncaaAluWalks
import Derived.Deep.QuietTactic
import Derived.BigQuiet
namespace Go.Proofs.Ytndfcpkmchjncaa
open Go.ChangeShapes Go.WideShapes Go.ChangeAt Go.RowKit
set_option linter.unusedVariables false

def mulC (a b : Int) : Bool := mulSh a b != wrap32 (mulSl a b) / 2147483648 % 4294967296

set_option maxHeartbeats 400000 in
theorem mul_OMul (a b : Int) (fc fp fa fz fs fo : Bool) (ha0 : 0 ≤ a) (ha1 : a < 4294967296) (hb0 : 0 ≤ b) (hb1 : b < 4294967296) (w : World) :
    Calls Try.prog 17 #[.int .i64 16, .int .u32 a, .int .u32 b, .agg #[.bool fc, .bool fp, .bool fa, .bool fz, .bool fs, .bool fo]] w fun e w' => e = .returned (.tuple #[.int .u32 (mulUl a b), .int .u32 (mulUh a b), .agg #[.bool (mulUh a b != 0), .bool fp, .bool fa, .bool fz, .bool fs, .bool (mulUh a b != 0)]]) ∧ Below w.heap.size w w' := by
  have hl := mulSl_bd a b
  go_enter Try.func17, Try.ntmps17
  go_wp2_with fail
  refine (bits_MulU _ _ (by omega) (by omega) (by omega) (by omega) _).mono ?_; rintro e w1 ⟨rfl, rfl⟩
  go_wp2_with fail
  go_region
  all_goals
    go_wp2_with fail
    refine bodyPost_ret (v := .tuple #[.int .u32 (mulUl a b), .int .u32 (mulUh a b), .agg #[.bool (mulUh a b != 0), .bool fp, .bool fa, .bool fz, .bool fs, .bool (mulUh a b != 0)]]) (by simp [results, Try.results17, go_sem]) rfl ⟨rfl, ?_⟩
    repeat (first | exact Below.refl _ _ | apply Below.drew | (refine Below.alloc ?_ (by simp; try omega) _))

set_option maxHeartbeats 400000 in
theorem mul_OImul (a b : Int) (fc fp fa fz fs fo : Bool) (ha0 : 0 ≤ a) (ha1 : a < 4294967296) (hb0 : 0 ≤ b) (hb1 : b < 4294967296) (w : World) :
    Calls Try.prog 17 #[.int .i64 17, .int .u32 a, .int .u32 b, .agg #[.bool fc, .bool fp, .bool fa, .bool fz, .bool fs, .bool fo]] w fun e w' => e = .returned (.tuple #[.int .u32 (mulSl a b), .int .u32 (mulSh a b), .agg #[.bool (mulC a b), .bool fp, .bool fa, .bool fz, .bool fs, .bool (mulC a b)]]) ∧ Below w.heap.size w w' := by
  have hl := mulSl_bd a b
  go_enter Try.func17, Try.ntmps17
  go_wp2_with fail
  refine (bits_MulS _ _ (by omega) (by omega) (by omega) (by omega) _).mono ?_; rintro e w1 ⟨rfl, rfl⟩
  go_wp2_with fail
  go_region
  all_goals
    go_wp2_with fail
    refine bodyPost_ret (v := .tuple #[.int .u32 (mulSl a b), .int .u32 (mulSh a b), .agg #[.bool (mulC a b), .bool fp, .bool fa, .bool fz, .bool fs, .bool (mulC a b)]]) (by simp [results, Try.results17, go_sem, mulC]) rfl ⟨rfl, ?_⟩
    repeat (first | exact Below.refl _ _ | apply Below.drew | (refine Below.alloc ?_ (by simp; try omega) _))

set_option maxHeartbeats 400000 in
theorem mul_OImul2 (a b : Int) (fc fp fa fz fs fo : Bool) (ha0 : 0 ≤ a) (ha1 : a < 4294967296) (hb0 : 0 ≤ b) (hb1 : b < 4294967296) (w : World) :
    Calls Try.prog 17 #[.int .i64 18, .int .u32 a, .int .u32 b, .agg #[.bool fc, .bool fp, .bool fa, .bool fz, .bool fs, .bool fo]] w fun e w' => e = .returned (.tuple #[.int .u32 (mulSl a b), .int .u32 (0), .agg #[.bool (mulC a b), .bool fp, .bool fa, .bool fz, .bool fs, .bool (mulC a b)]]) ∧ Below w.heap.size w w' := by
  have hl := mulSl_bd a b
  go_enter Try.func17, Try.ntmps17
  go_wp2_with fail
  refine (bits_MulS _ _ (by omega) (by omega) (by omega) (by omega) _).mono ?_; rintro e w1 ⟨rfl, rfl⟩
  go_wp2_with fail
  go_region
  all_goals
    go_wp2_with fail
    refine bodyPost_ret (v := .tuple #[.int .u32 (mulSl a b), .int .u32 (0), .agg #[.bool (mulC a b), .bool fp, .bool fa, .bool fz, .bool fs, .bool (mulC a b)]]) (by simp [results, Try.results17, go_sem, mulC]) rfl ⟨rfl, ?_⟩
    repeat (first | exact Below.refl _ _ | apply Below.drew | (refine Below.alloc ?_ (by simp; try omega) _))

set_option maxHeartbeats 400000 in
theorem mul_other (op a b : Int) (fc fp fa fz fs fo : Bool) (ha0 : 0 ≤ a) (ha1 : a < 4294967296) (hb0 : 0 ≤ b) (hb1 : b < 4294967296) (h1 : op ≠ 16) (h2 : op ≠ 17) (h3 : op ≠ 18) (w : World) :
    Calls Try.prog 17 #[.int .i64 op, .int .u32 a, .int .u32 b, .agg #[.bool fc, .bool fp, .bool fa, .bool fz, .bool fs, .bool fo]] w fun e w' => e = .returned (.tuple #[.int .u32 a, .int .u32 0, .agg #[.bool fc, .bool fp, .bool fa, .bool fz, .bool fs, .bool fo]]) ∧ Below w.heap.size w w' := by
  have g1 : (op == 16) = false := by rw [beq_eq_false_iff_ne]; exact h1
  have g2 : (op == 17) = false := by rw [beq_eq_false_iff_ne]; exact h2
  have g3 : (op == 18) = false := by rw [beq_eq_false_iff_ne]; exact h3
  clear h1 h2 h3
  go_enter Try.func17, Try.ntmps17
  go_wp2_with fail
  go_region
  all_goals
    go_wp2_with fail
    refine bodyPost_ret (v := .tuple #[.int .u32 a, .int .u32 0, .agg #[.bool fc, .bool fp, .bool fa, .bool fz, .bool fs, .bool fo]]) (by simp [results, Try.results17, go_sem]) rfl ⟨rfl, ?_⟩
    repeat (first | exact Below.refl _ _ | apply Below.drew | (refine Below.alloc ?_ (by simp; try omega) _))

end Go.Proofs.Ytndfcpkmchjncaa
