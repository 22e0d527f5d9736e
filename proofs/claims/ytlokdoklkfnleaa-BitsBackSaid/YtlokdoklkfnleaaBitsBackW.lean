/- The walk of the law BitsBack. -/
import Derived.Test.YtlokdoklkfnleaaBitsKnown
namespace Go.Proofs.Ytlokdoklkfnleaa
open Go.ChangeShapes Go.WideShapes Go.ChangeAt Go.RowKit
set_option linter.unusedVariables false

theorem addR_bd (a b : Int) (c : Bool) : 0 ≤ addR a b c ∧ addR a b c < 4294967296 := by unfold addR; omega
theorem subR_bd (a b : Int) (c : Bool) : 0 ≤ subR a b c ∧ subR a b c < 4294967296 := by unfold subR; omega

theorem not_u32 (b : Int) (h0 : 0 ≤ b) (h1 : b < 4294967296) : bits .xor .u32 IntKind.u32.max b = 4294967295 - b := by
  obtain ⟨n, rfl⟩ := Int.eq_ofNat_of_zero_le h0
  have a : (BitVec.ofInt 32 (n : Int)).toNat = n := by
    rw [BitVec.ofInt_natCast, BitVec.toNat_ofNat]; exact Nat.mod_eq_of_lt (by omega)
  show IntKind.u32.wrap ((BitVec.ofInt 32 4294967295 ^^^ BitVec.ofInt 32 (n : Int)).toNat : Int) = _
  rw [show (BitVec.ofInt 32 4294967295) = BitVec.allOnes 32 by decide, BitVec.allOnes_xor, BitVec.toNat_not, a, IntKind.wrap_u32']
  omega

theorem BitsBack_walk (a0 : Int) (a1 : Int) (a2 : Bool) (w0 : (Lit.int .u32 a0).wf = true) (w1 : (Lit.int .u32 a1).wf = true) (w : World) :
    Calls Try.prog 8 #[.int .u32 a0, .int .u32 a1, .bool a2] w fun e w' => e = .returned (.bool true) ∧ Grown w w' := by
  have b0 := bounds_u32 w0
  have b1 := bounds_u32 w1
  clear w0 w1
  have hr := addR_bd a0 a1 a2
  go_enter Try.func8, Try.ntmps8
  go_wp2_with fail
  refine (known1 _).mono ?_; rintro e w1 ⟨rfl, hg⟩
  go_wp2_with fail
  refine (bits_AddC _ _ _ (by omega) (by omega) (by omega) (by omega) _).mono ?_; rintro e w' ⟨rfl, rfl⟩
  go_wp2_with fail
  refine (bits_SubC _ _ _ (by omega) (by omega) (by omega) (by omega) _).mono ?_; rintro e w' ⟨rfl, rfl⟩
  go_wp2_with fail
  refine (bits_SubC _ _ _ (by omega) (by omega) (by omega) (by omega) _).mono ?_; rintro e w' ⟨rfl, rfl⟩
  go_wp2_with fail
  rw [not_u32 a1 (by omega) (by omega)]
  refine (bits_AddC _ _ _ (by omega) (by omega) (by omega) (by omega) _).mono ?_; rintro e w' ⟨rfl, rfl⟩
  have h1 : subR (addR a0 a1 a2) a1 a2 = a0 := by unfold subR addR; omega
  have hc := c2i_bd a2
  have hcn : c2i (!a2) = 1 - c2i a2 := by cases a2 <;> rfl
  have h2 : subC (addR a0 a1 a2) a1 a2 = addC a0 a1 a2 := by unfold subC addR addC; rw [decide_eq_decide]; omega
  have h3 : subR a0 a1 a2 = addR a0 (4294967295 - a1) !a2 := by unfold subR addR; rw [hcn]; omega
  have h4 : subC a0 a1 a2 = !addC a0 (4294967295 - a1) !a2 := by
    unfold subC addC; rw [hcn, ← decide_not, decide_eq_decide]; omega
  have h5 : subO a0 a1 a2 = addO a0 (4294967295 - a1) !a2 := by
    unfold subO addO wideB; rw [hcn]; congr 1
    · unfold wrap32; omega
    · unfold wrap32; omega
  clear hcn hc
  go_wp2_with fail
  go_ret
  exact ⟨rfl, hg⟩
end Go.Proofs.Ytlokdoklkfnleaa
