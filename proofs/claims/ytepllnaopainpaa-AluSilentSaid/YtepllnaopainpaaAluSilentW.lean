/-
  The walk of the law AluSilent, out of its ways.
-/
import Derived.Test.YtepllnaopainpaaAluSilentX
import Derived.OpenShut
namespace Go.Proofs.Ytepllnaopainpaa
open Go.Sx Go.RowKit
set_option linter.unusedVariables false

theorem wf_bounds {k : IntKind} {a : Int} (h : (Lit.int k a).wf = true) : k.min ≤ a ∧ a ≤ k.max := by
  simpa [Lit.wf] using h

theorem AluSilent_walk (a0 a1 a2 : Int) (fc fp fa fz fs fo : Bool) (w0 : (Lit.int .u8 a0).wf = true) (w1 : (Lit.int .u32 a1).wf = true) (w2 : (Lit.int .u32 a2).wf = true) (w : World) :
    Calls Try.prog 8 #[.int .u8 a0, .int .u32 a1, .int .u32 a2, .agg #[.bool fc, .bool fp, .bool fa, .bool fz, .bool fs, .bool fo]] w fun e w' => e = .returned (.bool true) ∧ Below w.heap.size w w' := by
  have b0 := wf_bounds w0
  have b2 := wf_bounds w2
  have e0 : IntKind.u8.min = 0 := by decide
  have e1 : IntKind.u8.max = 255 := by decide
  have e2 : IntKind.u32.min = 0 := by decide
  have e3 : IntKind.u32.max = 4294967295 := by decide
  rw [e0, e1] at b0
  rw [e2, e3] at b2
  have hm : ibin .rem .u8 a0 17 = a0 % 17 := by simp only [ibin]; exact Int.tmod_eq_emod_of_nonneg b0.1
  have hn : ibin .rem .u32 a2 32 = a2 % 32 := by simp only [ibin]; exact Int.tmod_eq_emod_of_nonneg b2.1
  have hs : (0 : Int) ≤ ibin .rem .u32 a2 32 := by rw [hn]; omega
  have hs2 : (0 : Int) ≤ ibin .sub .u32 32 (ibin .rem .u32 a2 32) := by
    rw [hn]; simp only [ibin, IntKind.wrap_u32]; omega
  have hs3 : (0 : Int) ≤ ibin .sub .u32 (ibin .rem .u32 a2 32) 1 := by
    rw [hn]; simp only [ibin, IntKind.wrap_u32]; omega
  have hcase : a0 % 17 = 0 ∨ a0 % 17 = 1 ∨ a0 % 17 = 2 ∨ a0 % 17 = 3 ∨ a0 % 17 = 4 ∨ a0 % 17 = 5 ∨ a0 % 17 = 6 ∨ a0 % 17 = 7 ∨ a0 % 17 = 8 ∨ a0 % 17 = 9 ∨ a0 % 17 = 10 ∨ a0 % 17 = 11 ∨ a0 % 17 = 12 ∨ a0 % 17 = 13 ∨ a0 % 17 = 14 ∨ a0 % 17 = 15 ∨ a0 % 17 = 16 := by omega
  rw [← hm] at hcase
  rcases hcase with h | h | h | h | h | h | h | h | h | h | h | h | h | h | h | h | h
  · exact silent_0 a0 a1 a2 fc fp fa fz fs fo h w
  · exact silent_1 a0 a1 a2 fc fp fa fz fs fo h w
  · exact silent_2 a0 a1 a2 fc fp fa fz fs fo h w
  · exact silent_3 a0 a1 a2 fc fp fa fz fs fo h w
  · exact silent_4 a0 a1 a2 fc fp fa fz fs fo h w
  · exact silent_5 a0 a1 a2 fc fp fa fz fs fo h w
  · exact silent_6 a0 a1 a2 fc fp fa fz fs fo h w
  · exact silent_7 a0 a1 a2 fc fp fa fz fs fo h w
  · exact silent_8 a0 a1 a2 fc fp fa fz fs fo h w
  · exact silent_9 a0 a1 a2 fc fp fa fz fs fo h w
  · exact silent_10 a0 a1 a2 fc fp fa fz fs fo h w
  · exact silent_11 a0 a1 a2 fc fp fa fz fs fo h w
  · exact silent_12 a0 a1 a2 fc fp fa fz fs fo h w
  · cases hz : icmp .eql (ibin .rem .u32 a2 32) 0
    · cases ho : icmp .neq (ibin .rem .u32 a2 32) 1
      · exact silent_15 a0 a1 a2 fc fp fa fz fs fo h hz hs hs2 ho w
      · exact silent_14 a0 a1 a2 fc fp fa fz fs fo h hz hs hs2 ho w
    · exact silent_13 a0 a1 a2 fc fp fa fz fs fo h hz w
  · cases hz : icmp .eql (ibin .rem .u32 a2 32) 0
    · cases ho : icmp .neq (ibin .rem .u32 a2 32) 1
      · exact silent_18 a0 a1 a2 fc fp fa fz fs fo h hz hs hs2 ho w
      · exact silent_17 a0 a1 a2 fc fp fa fz fs fo h hz hs hs2 ho w
    · exact silent_16 a0 a1 a2 fc fp fa fz fs fo h hz w
  · cases hz : icmp .eql (ibin .rem .u32 a2 32) 0
    · cases ho : icmp .neq (ibin .rem .u32 a2 32) 1
      · exact silent_21 a0 a1 a2 fc fp fa fz fs fo h hz hs hs2 ho w
      · exact silent_20 a0 a1 a2 fc fp fa fz fs fo h hz hs hs2 ho w
    · exact silent_19 a0 a1 a2 fc fp fa fz fs fo h hz w
  · cases hz : icmp .eql (ibin .rem .u32 a2 32) 0
    · cases ho : icmp .neq (ibin .rem .u32 a2 32) 1
      · exact silent_24 a0 a1 a2 fc fp fa fz fs fo h hz hs hs3 ho w
      · exact silent_23 a0 a1 a2 fc fp fa fz fs fo h hz hs hs3 ho w
    · exact silent_22 a0 a1 a2 fc fp fa fz fs fo h hz w
end Go.Proofs.Ytepllnaopainpaa
