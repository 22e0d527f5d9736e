/-
  The walks of the laws, out of the trees and the plain laws.
-/
import Derived.Test.YtahhfjmgdalfpaaDoorRvX
import Derived.Test.YtahhfjmgdalfpaaDoorVRvBack
namespace Go.Proofs.YtahhfjmgdalfpaaDoor
open Go.Sx Go.RowKit
set_option linter.unusedVariables false
set_option maxRecDepth 100000
theorem wf_has {k : IntKind} {a : Int} (h : (Lit.int k a).wf = true) : IntKind.has k a := by
  simpa [Lit.wf, IntKind.has] using h
theorem mk_has {k : IntKind} {a : Int} (h0 : k.min ≤ a) (h1 : a ≤ k.max) : IntKind.has k a := ⟨h0, h1⟩
theorem RvBack_walk (a0 : Int) (a1 : Int) (a2 : Int) (a3 : Int) (a4 : Int) (a5 : Int) (w0 : (-9223372036854775808 ≤ a0 ∧ a0 ≤ 9223372036854775807) ∧ (-9223372036854775808 ≤ a1 ∧ a1 ≤ 9223372036854775807) ∧ (-9223372036854775808 ≤ a2 ∧ a2 ≤ 9223372036854775807) ∧ (-9223372036854775808 ≤ a3 ∧ a3 ≤ 9223372036854775807) ∧ (-2147483648 ≤ a4 ∧ a4 ≤ 2147483647)) (w1 : (Lit.int .u32 a5).wf = true) (w : World) (htab : PinI w) :
    Calls Tryd.prog 5 #[.agg #[.int .i64 a0, .int .i64 a1, .int .i64 a2, .int .i64 a3, .int .i32 a4], .int .u32 a5] w fun e w' => e = .returned (.bool true) ∧ RowKit.Below w.heap.size w w' := by
  obtain ⟨v0, v1, v2, v3, v4⟩ := w0
  have h0 : IntKind.has .i64 a0 := mk_has v0.1 v0.2
  have h1 : IntKind.has .i64 a1 := mk_has v1.1 v1.2
  have h2 : IntKind.has .i64 a2 := mk_has v2.1 v2.2
  have h3 : IntKind.has .i64 a3 := mk_has v3.1 v3.2
  have h4 : IntKind.has .i32 a4 := mk_has v4.1 v4.2
  have h5 : IntKind.has .u32 a5 := wf_has w1
  have e : sumRes RvBackS (phiCells phi 5 [.int .i64 a0, .int .i64 a1, .int .i64 a2, .int .i64 a3, .int .i32 a4, .int .u32 a5] 0 RvBackS.ks) = .bool (RvBack a0 a1 a2 a3 a4 a5) := by kernel_rfl
  rw [RvBack_true  h4 h5] at e
  exact RvBack_ok.calls (vs := [.int .i64 a0, .int .i64 a1, .int .i64 a2, .int .i64 a3, .int .i32 a4, .int .u32 a5]) (show TypedCells [.ri .i64, .ri .i64, .ri .i64, .ri .i64, .ri .i32, .ri .u32] [.int .i64 a0, .int .i64 a1, .int .i64 a2, .int .i64 a3, .int .i32 a4, .int .u32 a5] from ⟨⟨a0, rfl, h0⟩, ⟨a1, rfl, h1⟩, ⟨a2, rfl, h2⟩, ⟨a3, rfl, h3⟩, ⟨a4, rfl, h4⟩, ⟨a5, rfl, h5⟩, trivial⟩) rfl e w (pin_room htab) htab
end Go.Proofs.YtahhfjmgdalfpaaDoor
