/-
  The walks of the laws, out of the trees and the plain laws.
-/
import Derived.Test.YtdchnlmclngjmaaDoorFlC
import Derived.Test.YtdchnlmclngjmaaDoorVFloatSmall
namespace Go.Proofs.YtdchnlmclngjmaaDoor
open Go.Sx Go.RowKit
set_option linter.unusedVariables false
set_option maxRecDepth 100000
theorem wf_has {k : IntKind} {a : Int} (h : (Lit.int k a).wf = true) : IntKind.has k a := by
  simpa [Lit.wf, IntKind.has] using h
theorem mk_has {k : IntKind} {a : Int} (h0 : k.min ≤ a) (h1 : a ≤ k.max) : IntKind.has k a := ⟨h0, h1⟩
theorem FloatSmall_walk (a0 : Int) (a1 : Int) (a2 : Bool) (w0 : (Lit.int .u32 a0).wf = true) (w1 : (Lit.int .u32 a1).wf = true) (w : World) (htab : PinI w) :
    Calls Tryd.prog 10 #[.int .u32 a0, .int .u32 a1, .bool a2] w fun e w' => e = .returned (.bool true) ∧ RowKit.Below w.heap.size w w' := by
  have h0 : IntKind.has .u32 a0 := wf_has w0
  have h1 : IntKind.has .u32 a1 := wf_has w1
  have e : sumRes FloatSmallS (phiCells phi 10 [.int .u32 a0, .int .u32 a1, .bool a2] 0 FloatSmallS.ks) = .bool (FloatSmall a0 a1 a2) := by kernel_rfl
  rw [FloatSmall_true a2 h0 h1] at e
  exact FloatSmall_ok.calls (vs := [.int .u32 a0, .int .u32 a1, .bool a2]) (show TypedCells [.ri .u32, .ri .u32, .rb] [.int .u32 a0, .int .u32 a1, .bool a2] from ⟨⟨a0, rfl, h0⟩, ⟨a1, rfl, h1⟩, ⟨a2, rfl⟩, trivial⟩) rfl e w (pin_room htab) htab
end Go.Proofs.YtdchnlmclngjmaaDoor
