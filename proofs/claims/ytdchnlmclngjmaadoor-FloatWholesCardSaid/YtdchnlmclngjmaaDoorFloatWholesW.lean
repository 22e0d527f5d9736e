/-
  The walks of the laws, out of the trees and the plain laws.
-/
import Derived.Test.YtdchnlmclngjmaaDoorFlD
import Derived.Test.YtdchnlmclngjmaaDoorVFloatWholes
namespace Go.Proofs.YtdchnlmclngjmaaDoor
open Go.Sx Go.RowKit
set_option linter.unusedVariables false
set_option maxRecDepth 100000
theorem wf_has {k : IntKind} {a : Int} (h : (Lit.int k a).wf = true) : IntKind.has k a := by
  simpa [Lit.wf, IntKind.has] using h
theorem mk_has {k : IntKind} {a : Int} (h0 : k.min ≤ a) (h1 : a ≤ k.max) : IntKind.has k a := ⟨h0, h1⟩
theorem FloatWholes_walk (a0 : Int) (a1 : Int) (w0 : (Lit.int .i16 a0).wf = true) (w1 : (Lit.int .i16 a1).wf = true) (w : World) (htab : PinI w) :
    Calls Tryd.prog 9 #[.int .i16 a0, .int .i16 a1] w fun e w' => e = .returned (.bool true) ∧ RowKit.Below w.heap.size w w' := by
  have h0 : IntKind.has .i16 a0 := wf_has w0
  have h1 : IntKind.has .i16 a1 := wf_has w1
  have e : sumRes FloatWholesS (phiCells phi 9 [.int .i16 a0, .int .i16 a1] 0 FloatWholesS.ks) = .bool (FloatWholes a0 a1) := by kernel_rfl
  rw [FloatWholes_true  h0 h1] at e
  exact FloatWholes_ok.calls (vs := [.int .i16 a0, .int .i16 a1]) (show TypedCells [.ri .i16, .ri .i16] [.int .i16 a0, .int .i16 a1] from ⟨⟨a0, rfl, h0⟩, ⟨a1, rfl, h1⟩, trivial⟩) rfl e w (pin_room htab) htab
end Go.Proofs.YtdchnlmclngjmaaDoor
