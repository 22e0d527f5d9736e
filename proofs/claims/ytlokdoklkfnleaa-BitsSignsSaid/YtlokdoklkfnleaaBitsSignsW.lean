/- The walk of the law BitsSigns. -/
import Derived.Test.YtlokdoklkfnleaaBitsKnown
namespace Go.Proofs.Ytlokdoklkfnleaa
open Go.ChangeShapes Go.WideShapes Go.ChangeAt Go.RowKit
set_option linter.unusedVariables false

theorem pow_dvd (m n : Nat) (h : m ≤ n) : (2 : Int) ^ m ∣ 2 ^ n := ⟨2 ^ (n - m), by rw [← Int.pow_add]; congr 1; omega⟩

theorem sgm_mod (m : Nat) (x : Int) (h1 : 1 ≤ m) : sgm m x % 2 ^ m = x % 2 ^ m := by
  unfold sgm
  rw [Int.emod_sub_emod]
  congr 1; omega

theorem sgm_of_mod (m : Nat) (x y : Int) (h : x % 2 ^ m = y % 2 ^ m) : sgm m x = sgm m y := by
  unfold sgm
  rw [← Int.emod_add_emod, h, Int.emod_add_emod]

theorem sgm_wrap (m : Nat) (x : Int) (h2 : m ≤ 32) : sgm m (x % 4294967296) = sgm m x := by
  apply sgm_of_mod
  exact Int.emod_emod_of_dvd _ (by have := pow_dvd m 32 h2; simpa using this)

theorem BitsSigns_walk (a0 : Int) (a1 : Int) (w0 : (Lit.int .u32 a0).wf = true) (w1 : (Lit.int .u8 a1).wf = true) (w : World) :
    Calls Try.prog 6 #[.int .u32 a0, .int .u8 a1] w fun e w' => e = .returned (.bool true) ∧ Grown w w' := by
  have b0 := bounds_u32 w0
  have b1 := bounds_u8 w1
  clear w0 w1
  have hb := sgn_bd a0 (a1 % 32 + 1)
  have hb8 := sgn_bd a0 8
  have e1 : sgn (sgn a0 (a1 % 32 + 1) % 4294967296) (a1 % 32 + 1) = sgn a0 (a1 % 32 + 1) := by
    have hc := clamp1_bd (a1 % 32 + 1)
    unfold sgn
    rw [sgm_wrap _ _ hc.2]
    exact sgm_of_mod _ _ _ (sgm_mod _ _ hc.1)
  have e2 : sgn (sgn a0 8 % 4294967296) 8 = sgn a0 8 := by
    show sgm 8 (sgm 8 a0 % 4294967296) = sgm 8 a0
    unfold sgm; omega
  have e3 : sgn (sgn a0 8 % 4294967296) 12 = sgn a0 8 := by
    show sgm 12 (sgm 8 a0 % 4294967296) = sgm 8 a0
    unfold sgm; omega
  have e4 : sgn a0 32 = wrap32 a0 := by rw [wrap32_sgm]; rfl
  have e5 : sgn a0 40 = wrap32 a0 := by rw [wrap32_sgm]; rfl
  have e6 : sgn a0 0 = sgn a0 1 := rfl
  go_enter Try.func6, Try.ntmps6
  go_wp2_with fail
  refine (known1 _).mono ?_; rintro e w1 ⟨rfl, hg⟩
  go_wp2_with fail
  refine (bits_Signed _ _ (by omega) (by omega) _).mono ?_; rintro e w' ⟨rfl, rfl⟩
  go_wp2_with fail
  refine (bits_Signed _ _ (by omega) (by omega) _).mono ?_; rintro e w' ⟨rfl, rfl⟩
  go_wp2_with fail
  refine (bits_Sign8 _ (by omega) (by omega) _).mono ?_; rintro e w' ⟨rfl, rfl⟩
  go_wp2_with fail
  refine (bits_Sign8 _ (by omega) (by omega) _).mono ?_; rintro e w' ⟨rfl, rfl⟩
  go_wp2_with fail
  refine (bits_Sign8 _ (by omega) (by omega) _).mono ?_; rintro e w' ⟨rfl, rfl⟩
  go_wp2_with fail
  refine (bits_Sign8 _ (by omega) (by omega) _).mono ?_; rintro e w' ⟨rfl, rfl⟩
  go_wp2_with fail
  refine (bits_Sign12 _ (by omega) (by omega) _).mono ?_; rintro e w' ⟨rfl, rfl⟩
  go_wp2_with fail
  refine (bits_Sign8 _ (by omega) (by omega) _).mono ?_; rintro e w' ⟨rfl, rfl⟩
  go_wp2_with fail
  refine (bits_Signed _ _ (by omega) (by omega) _).mono ?_; rintro e w' ⟨rfl, rfl⟩
  go_wp2_with fail
  refine (bits_Signed _ _ (by omega) (by omega) _).mono ?_; rintro e w' ⟨rfl, rfl⟩
  go_wp2_with fail
  refine (bits_Signed _ _ (by omega) (by omega) _).mono ?_; rintro e w' ⟨rfl, rfl⟩
  go_wp2_with fail
  refine (bits_Signed _ _ (by omega) (by omega) _).mono ?_; rintro e w' ⟨rfl, rfl⟩
  go_wp2_with fail
  go_ret
  exact ⟨rfl, hg⟩
end Go.Proofs.Ytlokdoklkfnleaa
