/- What the functions of package alu return: the walks, an operation each. -/
import Derived.Test.YtndfcpkmchjncaaBitsWalks
import Derived.Test.YtndfcpkmchjncaaAluMath
namespace Go.Proofs.Ytndfcpkmchjncaa
open Go.ChangeShapes Go.WideShapes Go.ChangeAt Go.RowKit
set_option linter.unusedVariables false

theorem alu_by (c p a z s o : Bool) (r : Int) (hr0 : 0 ≤ r) (hr1 : r < 4294967296) (w : World) :
    Calls Try.prog 22 #[.agg #[.bool c, .bool p, .bool a, .bool z, .bool s, .bool o], .int .u32 r] w fun e w' => e = .returned (.agg #[.bool (c), .bool (par (r)), .bool (a), .bool (r == 0), .bool (r / 2147483648 == 1), .bool (o)]) ∧ (w.alloc (.cells #[.bool (c), .bool (par (r)), .bool (a), .bool (r == 0), .bool (r / 2147483648 == 1), .bool (o)] 24)).alloc (.cells #[.bool (c), .bool (par (r)), .bool (a), .bool (r == 0), .bool (r / 2147483648 == 1), .bool (o)] 24) = w' := by
  go_enter Try.func22, Try.ntmps22
  go_wp2_with fail
  refine (bits_Parity r hr0 hr1 _).mono ?_; rintro e w' ⟨rfl, rfl⟩
  go_wp2_with fail
  exact bodyPost_ret (v := .agg #[.bool (c), .bool (par (r)), .bool (a), .bool (r == 0), .bool (r / 2147483648 == 1), .bool (o)]) (by simp [results, Try.results22, go_sem]) rfl ⟨rfl, rfl⟩

theorem alu_adds (a b : Int) (c : Bool) (ha0 : 0 ≤ a) (ha1 : a < 4294967296) (hb0 : 0 ≤ b) (hb1 : b < 4294967296) (w : World) :
    Calls Try.prog 48 #[.int .u32 a, .int .u32 b, .bool c] w fun e w' => e = .returned (.tuple #[.int .u32 (addR a b c), .agg #[.bool (addC a b c), .bool (par (addR a b c)), .bool (decide (15 < addR (a % 16) (b % 16) c)), .bool (addR a b c == 0), .bool (addR a b c / 2147483648 == 1), .bool (addO a b c)]]) ∧ ((w.alloc (.cells #[.bool (addC a b c), .bool (par (addR a b c)), .bool (decide (15 < addR (a % 16) (b % 16) c)), .bool (addR a b c == 0), .bool (addR a b c / 2147483648 == 1), .bool (addO a b c)] 24)).alloc (.cells #[.bool (addC a b c), .bool (par (addR a b c)), .bool (decide (15 < addR (a % 16) (b % 16) c)), .bool (addR a b c == 0), .bool (addR a b c / 2147483648 == 1), .bool (addO a b c)] 24)).alloc (.cells #[.bool (addC a b c), .bool (par (addR a b c)), .bool (decide (15 < addR (a % 16) (b % 16) c)), .bool (addR a b c == 0), .bool (addR a b c / 2147483648 == 1), .bool (addO a b c)] 24) = w' := by
  have ea := and15_bd a ha0 ha1
  have eb := and15_bd b hb0 hb1
  have hr := addR_bd a b c
  go_enter Try.func48, Try.ntmps48
  go_wp2_with fail
  refine (bits_AddC _ _ _ (by omega) (by omega) (by omega) (by omega) _).mono ?_; rintro e w' ⟨rfl, rfl⟩
  go_wp2_with fail
  refine (bits_AddC _ _ _ (by omega) (by omega) (by omega) (by omega) _).mono ?_; rintro e w' ⟨rfl, rfl⟩
  go_wp2_with fail
  refine (alu_by _ _ _ _ _ _ _ hr.1 hr.2 _).mono ?_; rintro e w1 ⟨rfl, rfl⟩
  go_wp2_with fail
  exact bodyPost_ret (v := .tuple #[.int .u32 (addR a b c), .agg #[.bool (addC a b c), .bool (par (addR a b c)), .bool (decide (15 < addR (a % 16) (b % 16) c)), .bool (addR a b c == 0), .bool (addR a b c / 2147483648 == 1), .bool (addO a b c)]]) (by simp [results, Try.results48, go_sem]) rfl ⟨rfl, rfl⟩

theorem alu_takes (a b : Int) (c : Bool) (ha0 : 0 ≤ a) (ha1 : a < 4294967296) (hb0 : 0 ≤ b) (hb1 : b < 4294967296) (w : World) :
    Calls Try.prog 49 #[.int .u32 a, .int .u32 b, .bool c] w fun e w' => e = .returned (.tuple #[.int .u32 (subR a b c), .agg #[.bool (subC a b c), .bool (par (subR a b c)), .bool (subC (a % 16) (b % 16) c), .bool (subR a b c == 0), .bool (subR a b c / 2147483648 == 1), .bool (subO a b c)]]) ∧ ((w.alloc (.cells #[.bool (subC a b c), .bool (par (subR a b c)), .bool (subC (a % 16) (b % 16) c), .bool (subR a b c == 0), .bool (subR a b c / 2147483648 == 1), .bool (subO a b c)] 24)).alloc (.cells #[.bool (subC a b c), .bool (par (subR a b c)), .bool (subC (a % 16) (b % 16) c), .bool (subR a b c == 0), .bool (subR a b c / 2147483648 == 1), .bool (subO a b c)] 24)).alloc (.cells #[.bool (subC a b c), .bool (par (subR a b c)), .bool (subC (a % 16) (b % 16) c), .bool (subR a b c == 0), .bool (subR a b c / 2147483648 == 1), .bool (subO a b c)] 24) = w' := by
  have ea := and15_bd a ha0 ha1
  have eb := and15_bd b hb0 hb1
  have hr := subR_bd a b c
  go_enter Try.func49, Try.ntmps49
  go_wp2_with fail
  refine (bits_SubC _ _ _ (by omega) (by omega) (by omega) (by omega) _).mono ?_; rintro e w' ⟨rfl, rfl⟩
  go_wp2_with fail
  refine (bits_SubC _ _ _ (by omega) (by omega) (by omega) (by omega) _).mono ?_; rintro e w' ⟨rfl, rfl⟩
  go_wp2_with fail
  refine (alu_by _ _ _ _ _ _ _ hr.1 hr.2 _).mono ?_; rintro e w1 ⟨rfl, rfl⟩
  go_wp2_with fail
  exact bodyPost_ret (v := .tuple #[.int .u32 (subR a b c), .agg #[.bool (subC a b c), .bool (par (subR a b c)), .bool (subC (a % 16) (b % 16) c), .bool (subR a b c == 0), .bool (subR a b c / 2147483648 == 1), .bool (subO a b c)]]) (by simp [results, Try.results49, go_sem]) rfl ⟨rfl, rfl⟩

end Go.Proofs.Ytndfcpkmchjncaa
