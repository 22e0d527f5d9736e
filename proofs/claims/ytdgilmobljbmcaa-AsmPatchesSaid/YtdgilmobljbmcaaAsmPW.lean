/-
  The law AsmPatches: what a call answers.
-/
import Derived.Test.YtdgilmobljbmcaaAsmP
import Derived.Test.YtdgilmobljbmcaaVAsmPatches
namespace Go.Proofs.Ytdgilmobljbmcaa
open Go.Sx Go.RowKit
set_option linter.unusedVariables false

theorem wf_has {k : IntKind} {a : Int} (h : (Lit.int k a).wf = true) : IntKind.has k a := by
  simpa [Lit.wf, IntKind.has] using h
theorem cells3 {a0 a1 a2 : Int} (h0 : IntKind.has .u32 a0) (h1 : IntKind.has .u32 a1) (h2 : IntKind.has .u32 a2) : TypedCells [.ri .u32, .ri .u32, .ri .u32] [.int .u32 a0, .int .u32 a1, .int .u32 a2] :=
  ⟨⟨a0, rfl, h0⟩, ⟨a1, rfl, h1⟩, ⟨a2, rfl, h2⟩, trivial⟩
theorem AsmPatches_walk (a0 : Int) (a1 : Int) (a2 : Int) (w0 : (Lit.int .u32 a0).wf = true) (w1 : (Lit.int .u32 a1).wf = true) (w2 : (Lit.int .u32 a2).wf = true) (w : World) :
    Calls Try.prog 4 #[.int .u32 a0, .int .u32 a1, .int .u32 a2] w fun e w' => e = .returned (.bool true) ∧ Below w.heap.size w w' := by
  have e : sumRes AsmPatchesS (phiCells phi 4 [.int .u32 a0, .int .u32 a1, .int .u32 a2] 0 AsmPatchesS.ks) = .bool (AsmPatches a0 a1 a2) := by kernel_rfl
  rw [AsmPatches_true (wf_has w0) (wf_has w1) (wf_has w2)] at e
  exact AsmPatches_ok.calls (vs := [.int .u32 a0, .int .u32 a1, .int .u32 a2]) (cells3 (wf_has w0) (wf_has w1) (wf_has w2)) rfl e w
end Go.Proofs.Ytdgilmobljbmcaa
