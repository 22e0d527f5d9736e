/- The law's own look at known values ('known'): it returns true and only makes memory. -/
import Derived.Test.YtlokdoklkfnleaaBitsWord
namespace Go.Proofs.Ytlokdoklkfnleaa
open Go.ChangeShapes Go.WideShapes Go.ChangeAt Go.RowKit
set_option linter.unusedVariables false

set_option maxHeartbeats 1000000 in
theorem known1_both (w : World) : Calls Try.prog 10 #[] w fun e w' => e = .returned (.bool true) ∧ Grown w w' ∧ Below w.heap.size w w' := by
  have h0 : (addR 4294967295 1 false == 0) = true := by decide +kernel
  have h1 : addC 4294967295 1 false = true := by decide +kernel
  have h2 : addO 4294967295 1 false = false := by decide +kernel
  have h3 : (sgn 128 8 % 4294967296 == 4294967168) = true := by decide +kernel
  have h4 : (sgn 2047 12 % 4294967296 == 2047) = true := by decide +kernel
  have h5 : (sgn 4095 12 == -1) = true := by decide +kernel
  have h6 : (fld 240 4 4 == 15) = true := by decide +kernel
  have h7 : par 768 = true := by decide +kernel
  have h8 : (mulSl 4294967295 2 == 4294967294) = true := by decide +kernel
  have h9 : (mulSh 4294967295 2 == 4294967295) = true := by decide +kernel
  have h10 : (wordOf [1, 2] == 513) = true := by decide +kernel
  have h11 : ∀ w : World, (Op.equalIn 10000 25 (.agg (bytesOf 513)) (.agg #[.int .u8 1, .int .u8 2, .int .u8 0, .int .u8 0])).run Try.prog w = .ok true w := fun _ => by kernel_rfl
  go_enter Try.func10, Try.ntmps10
  go_wp2_with fail
  refine (bits_AddC _ _ _ (by decide) (by decide) (by decide) (by decide) _).mono ?_; rintro e w' ⟨rfl, rfl⟩
  go_wp2_with fail
  refine (bits_MulS _ _ (by decide) (by decide) (by decide) (by decide) _).mono ?_; rintro e w' ⟨rfl, rfl⟩
  go_wp2_with fail
  refine (bits_Sign8 _ (by decide) (by decide) _).mono ?_; rintro e w' ⟨rfl, rfl⟩
  go_wp2_with fail
  refine (bits_Sign12 _ (by decide) (by decide) _).mono ?_; rintro e w' ⟨rfl, rfl⟩
  go_wp2_with fail
  refine (bits_Signed _ _ (by decide) (by decide) _).mono ?_; rintro e w' ⟨rfl, rfl⟩
  go_wp2_with fail
  refine (bits_Field _ _ _ (by decide) (by decide) _).mono ?_; rintro e w' ⟨rfl, rfl⟩
  go_wp2_with fail
  refine (bits_Parity _ (by decide) (by decide) _).mono ?_; rintro e w' ⟨rfl, rfl⟩
  go_wp2_with fail
  refine (bits_Word [1, 2] _ _ (Bts_new w _ _ 0 2 [1, 2] (fun i hi => by match i, hi with | 0, _ => rfl | 1, _ => rfl) (by decide))).mono ?_; rintro e w' ⟨rfl, rfl⟩
  go_wp2_with fail
  refine (bits_Bytes 513 (by decide) (by decide) _).mono ?_; rintro e w' ⟨rfl, rfl⟩
  go_wp2_with fail
  go_ret
  exact ⟨rfl, by repeat (first | exact Grown.refl _ | apply Grown.drew | apply Grown.alloc), (((Below.refl _ _).alloc (by simp) _).alloc (by simp) _).alloc (by simp; omega) _⟩

theorem known1 (w : World) : Calls Try.prog 10 #[] w fun e w' => e = .returned (.bool true) ∧ Grown w w' :=
  (known1_both w).mono fun _ _ h => ⟨h.1, h.2.1⟩
theorem known1_below (w : World) : Calls Try.prog 10 #[] w fun e w' => e = .returned (.bool true) ∧ Below w.heap.size w w' :=
  (known1_both w).mono fun _ _ h => ⟨h.1, h.2.2⟩

end Go.Proofs.Ytlokdoklkfnleaa
