/-
  The walks of the laws, out of the trees and the plain laws.
-/
import Derived.Test.YtdchnlmclngjmaaDoorFlB
import Derived.Test.YtdchnlmclngjmaaDoorVFloatSame
namespace Go.Proofs.YtdchnlmclngjmaaDoor
open Go.Sx Go.RowKit
set_option linter.unusedVariables false
set_option maxRecDepth 100000
theorem wf_has {k : IntKind} {a : Int} (h : (Lit.int k a).wf = true) : IntKind.has k a := by
  simpa [Lit.wf, IntKind.has] using h
theorem mk_has {k : IntKind} {a : Int} (h0 : k.min ≤ a) (h1 : a ≤ k.max) : IntKind.has k a := ⟨h0, h1⟩
theorem FloatSame_walk (a0 : Int) (w0 : (Lit.int .u64 a0).wf = true) (w : World) (htab : PinI w) :
    Calls Tryd.prog 8 #[.int .u64 a0] w fun e w' => e = .returned (.bool true) ∧ RowKit.Below w.heap.size w w' := by
  have h0 : IntKind.has .u64 a0 := wf_has w0
  have e : sumRes FloatSameS (phiCells phi 8 [.int .u64 a0] 0 FloatSameS.ks) = .bool (FloatSame a0) := by kernel_rfl
  rw [FloatSame_true  h0] at e
  exact FloatSame_ok.calls (vs := [.int .u64 a0]) (show TypedCells [.ri .u64] [.int .u64 a0] from ⟨⟨a0, rfl, h0⟩, trivial⟩) rfl e w (pin_room htab) htab
end Go.Proofs.YtdchnlmclngjmaaDoor
