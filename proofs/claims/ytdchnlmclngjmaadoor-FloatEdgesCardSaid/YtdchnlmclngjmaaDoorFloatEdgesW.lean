/-
  The walks of the laws, out of the trees and the plain laws.
-/
import Derived.Test.YtdchnlmclngjmaaDoorFlC
import Derived.Test.YtdchnlmclngjmaaDoorVFloatEdges
namespace Go.Proofs.YtdchnlmclngjmaaDoor
open Go.Sx Go.RowKit
set_option linter.unusedVariables false
set_option maxRecDepth 100000
theorem wf_has {k : IntKind} {a : Int} (h : (Lit.int k a).wf = true) : IntKind.has k a := by
  simpa [Lit.wf, IntKind.has] using h
theorem mk_has {k : IntKind} {a : Int} (h0 : k.min ≤ a) (h1 : a ≤ k.max) : IntKind.has k a := ⟨h0, h1⟩
theorem FloatEdges_walk (a0 : Int) (a1 : Bool) (a2 : Bool) (w0 : (Lit.int .u64 a0).wf = true) (w : World) (htab : PinI w) :
    Calls Tryd.prog 6 #[.int .u64 a0, .bool a1, .bool a2] w fun e w' => e = .returned (.bool true) ∧ RowKit.Below w.heap.size w w' := by
  have h0 : IntKind.has .u64 a0 := wf_has w0
  have e : sumRes FloatEdgesS (phiCells phi 6 [.int .u64 a0, .bool a1, .bool a2] 0 FloatEdgesS.ks) = .bool (FloatEdges a0 a1 a2) := by kernel_rfl
  rw [FloatEdges_true a1 a2 h0] at e
  exact FloatEdges_ok.calls (vs := [.int .u64 a0, .bool a1, .bool a2]) (show TypedCells [.ri .u64, .rb, .rb] [.int .u64 a0, .bool a1, .bool a2] from ⟨⟨a0, rfl, h0⟩, ⟨a1, rfl⟩, ⟨a2, rfl⟩, trivial⟩) rfl e w (pin_room htab) htab
end Go.Proofs.YtdchnlmclngjmaaDoor
