/-
  The walks of the laws, out of the trees and the plain laws.
-/
import Derived.Test.YtahhfjmgdalfpaaDoorRvL
import Derived.Test.YtahhfjmgdalfpaaDoorVRvFields
namespace Go.Proofs.YtahhfjmgdalfpaaDoor
open Go.Sx Go.RowKit
set_option linter.unusedVariables false
set_option maxRecDepth 100000
theorem wf_has {k : IntKind} {a : Int} (h : (Lit.int k a).wf = true) : IntKind.has k a := by
  simpa [Lit.wf, IntKind.has] using h
theorem mk_has {k : IntKind} {a : Int} (h0 : k.min ≤ a) (h1 : a ≤ k.max) : IntKind.has k a := ⟨h0, h1⟩
theorem RvFields_walk (a0 : Int) (a1 : Int) (a2 : Int) (a3 : Int) (a4 : Int) (w0 : (Lit.int .u8 a0).wf = true) (w1 : (Lit.int .u8 a1).wf = true) (w2 : (Lit.int .u8 a2).wf = true) (w3 : (Lit.int .u8 a3).wf = true) (w4 : (Lit.int .u8 a4).wf = true) (w : World) (htab : PinI w) :
    Calls Tryd.prog 8 #[.int .u8 a0, .int .u8 a1, .int .u8 a2, .int .u8 a3, .int .u8 a4] w fun e w' => e = .returned (.bool true) ∧ RowKit.Below w.heap.size w w' := by
  have h0 : IntKind.has .u8 a0 := wf_has w0
  have h1 : IntKind.has .u8 a1 := wf_has w1
  have h2 : IntKind.has .u8 a2 := wf_has w2
  have h3 : IntKind.has .u8 a3 := wf_has w3
  have h4 : IntKind.has .u8 a4 := wf_has w4
  have e : sumRes RvFieldsS (phiCells phi 8 [.int .u8 a0, .int .u8 a1, .int .u8 a2, .int .u8 a3, .int .u8 a4] 0 RvFieldsS.ks) = .bool (RvFields a0 a1 a2 a3 a4) := by kernel_rfl
  rw [RvFields_true  h0 h1 h2 h3 h4] at e
  exact RvFields_ok.calls (vs := [.int .u8 a0, .int .u8 a1, .int .u8 a2, .int .u8 a3, .int .u8 a4]) (show TypedCells [.ri .u8, .ri .u8, .ri .u8, .ri .u8, .ri .u8] [.int .u8 a0, .int .u8 a1, .int .u8 a2, .int .u8 a3, .int .u8 a4] from ⟨⟨a0, rfl, h0⟩, ⟨a1, rfl, h1⟩, ⟨a2, rfl, h2⟩, ⟨a3, rfl, h3⟩, ⟨a4, rfl, h4⟩, trivial⟩) rfl e w (pin_room htab) htab
end Go.Proofs.YtahhfjmgdalfpaaDoor
