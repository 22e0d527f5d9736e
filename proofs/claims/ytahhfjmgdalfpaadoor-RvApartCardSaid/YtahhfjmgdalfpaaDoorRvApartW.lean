/-
  The walks of the laws, out of the trees and the plain laws.
-/
import Derived.Test.YtahhfjmgdalfpaaDoorRvX
import Derived.Test.YtahhfjmgdalfpaaDoorVRvApart
namespace Go.Proofs.YtahhfjmgdalfpaaDoor
open Go.Sx Go.RowKit
set_option linter.unusedVariables false
set_option maxRecDepth 100000
theorem wf_has {k : IntKind} {a : Int} (h : (Lit.int k a).wf = true) : IntKind.has k a := by
  simpa [Lit.wf, IntKind.has] using h
theorem mk_has {k : IntKind} {a : Int} (h0 : k.min ≤ a) (h1 : a ≤ k.max) : IntKind.has k a := ⟨h0, h1⟩
theorem RvApart_walk (a0 : Int) (a1 : Int) (a2 : Int) (a3 : Int) (a4 : Int) (a5 : Int) (a6 : Int) (a7 : Int) (a8 : Int) (a9 : Int) (w0 : (-9223372036854775808 ≤ a0 ∧ a0 ≤ 9223372036854775807) ∧ (-9223372036854775808 ≤ a1 ∧ a1 ≤ 9223372036854775807) ∧ (-9223372036854775808 ≤ a2 ∧ a2 ≤ 9223372036854775807) ∧ (-9223372036854775808 ≤ a3 ∧ a3 ≤ 9223372036854775807) ∧ (-2147483648 ≤ a4 ∧ a4 ≤ 2147483647)) (w1 : (-9223372036854775808 ≤ a5 ∧ a5 ≤ 9223372036854775807) ∧ (-9223372036854775808 ≤ a6 ∧ a6 ≤ 9223372036854775807) ∧ (-9223372036854775808 ≤ a7 ∧ a7 ≤ 9223372036854775807) ∧ (-9223372036854775808 ≤ a8 ∧ a8 ≤ 9223372036854775807) ∧ (-2147483648 ≤ a9 ∧ a9 ≤ 2147483647)) (w : World) (htab : PinI w) :
    Calls Tryd.prog 6 #[.agg #[.int .i64 a0, .int .i64 a1, .int .i64 a2, .int .i64 a3, .int .i32 a4], .agg #[.int .i64 a5, .int .i64 a6, .int .i64 a7, .int .i64 a8, .int .i32 a9]] w fun e w' => e = .returned (.bool true) ∧ RowKit.Below w.heap.size w w' := by
  obtain ⟨v0, v1, v2, v3, v4⟩ := w0
  have h0 : IntKind.has .i64 a0 := mk_has v0.1 v0.2
  have h1 : IntKind.has .i64 a1 := mk_has v1.1 v1.2
  have h2 : IntKind.has .i64 a2 := mk_has v2.1 v2.2
  have h3 : IntKind.has .i64 a3 := mk_has v3.1 v3.2
  have h4 : IntKind.has .i32 a4 := mk_has v4.1 v4.2
  obtain ⟨v5, v6, v7, v8, v9⟩ := w1
  have h5 : IntKind.has .i64 a5 := mk_has v5.1 v5.2
  have h6 : IntKind.has .i64 a6 := mk_has v6.1 v6.2
  have h7 : IntKind.has .i64 a7 := mk_has v7.1 v7.2
  have h8 : IntKind.has .i64 a8 := mk_has v8.1 v8.2
  have h9 : IntKind.has .i32 a9 := mk_has v9.1 v9.2
  have e : sumRes RvApartS (phiCells phi 6 [.int .i64 a0, .int .i64 a1, .int .i64 a2, .int .i64 a3, .int .i32 a4, .int .i64 a5, .int .i64 a6, .int .i64 a7, .int .i64 a8, .int .i32 a9] 0 RvApartS.ks) = .bool (RvApart a0 a1 a2 a3 a4 a5 a6 a7 a8 a9) := by kernel_rfl
  rw [RvApart_true  h4 h9] at e
  exact RvApart_ok.calls (vs := [.int .i64 a0, .int .i64 a1, .int .i64 a2, .int .i64 a3, .int .i32 a4, .int .i64 a5, .int .i64 a6, .int .i64 a7, .int .i64 a8, .int .i32 a9]) (show TypedCells [.ri .i64, .ri .i64, .ri .i64, .ri .i64, .ri .i32, .ri .i64, .ri .i64, .ri .i64, .ri .i64, .ri .i32] [.int .i64 a0, .int .i64 a1, .int .i64 a2, .int .i64 a3, .int .i32 a4, .int .i64 a5, .int .i64 a6, .int .i64 a7, .int .i64 a8, .int .i32 a9] from ⟨⟨a0, rfl, h0⟩, ⟨a1, rfl, h1⟩, ⟨a2, rfl, h2⟩, ⟨a3, rfl, h3⟩, ⟨a4, rfl, h4⟩, ⟨a5, rfl, h5⟩, ⟨a6, rfl, h6⟩, ⟨a7, rfl, h7⟩, ⟨a8, rfl, h8⟩, ⟨a9, rfl, h9⟩, trivial⟩) rfl e w (pin_room htab) htab
end Go.Proofs.YtahhfjmgdalfpaaDoor
