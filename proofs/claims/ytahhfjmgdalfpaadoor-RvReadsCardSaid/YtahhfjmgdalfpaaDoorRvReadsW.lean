/-
  The walks of the laws, out of the trees and the plain laws.
-/
import Derived.Test.YtahhfjmgdalfpaaDoorRvL
import Derived.Test.YtahhfjmgdalfpaaDoorVRvReads
namespace Go.Proofs.YtahhfjmgdalfpaaDoor
open Go.Sx Go.RowKit
set_option linter.unusedVariables false
set_option maxRecDepth 100000
theorem wf_has {k : IntKind} {a : Int} (h : (Lit.int k a).wf = true) : IntKind.has k a := by
  simpa [Lit.wf, IntKind.has] using h
theorem mk_has {k : IntKind} {a : Int} (h0 : k.min ≤ a) (h1 : a ≤ k.max) : IntKind.has k a := ⟨h0, h1⟩
theorem RvReads_walk (a0 : Int) (w0 : (Lit.int .u32 a0).wf = true) (w : World) (htab : PinI w) :
    Calls Tryd.prog 4 #[.int .u32 a0] w fun e w' => e = .returned (.bool true) ∧ RowKit.Below w.heap.size w w' := by
  have h0 : IntKind.has .u32 a0 := wf_has w0
  have e : sumRes RvReadsS (phiCells phi 4 [.int .u32 a0] 0 RvReadsS.ks) = .bool (RvReads a0) := by kernel_rfl
  rw [RvReads_true  h0] at e
  exact RvReads_ok.calls (vs := [.int .u32 a0]) (show TypedCells [.ri .u32] [.int .u32 a0] from ⟨⟨a0, rfl, h0⟩, trivial⟩) rfl e w (pin_room htab) htab
end Go.Proofs.YtahhfjmgdalfpaaDoor
