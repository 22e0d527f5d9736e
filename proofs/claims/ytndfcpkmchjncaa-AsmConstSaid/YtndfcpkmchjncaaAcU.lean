/-
  Contracts out of trees, for AsmConst. Printed by con2.py.
-/
import Derived.Test.YtndfcpkmchjncaaVrfDec
import Derived.Test.YtndfcpkmchjncaaVrhAlu
import Derived.Test.YtndfcpkmchjncaaVkaKnown
namespace Go.Proofs.Ytndfcpkmchjncaa
open Go Go.Sx
set_option linter.unusedVariables false
set_option maxRecDepth 100000

theorem ref_Decode (a0 : Int) (h0 : IntKind.has .u32 a0) (w : World) :
    Calls Try.prog 43 #[.int .u32 a0] w fun e w' => e = .returned (.tuple #[.agg #[.int .i64 (rfDec_0 a0), .int .i64 (rfDec_1 a0), .int .i64 (rfDec_2 a0), .int .i64 (rfDec_3 a0), .int .i32 (rfDec_4 a0)], .bool (rfDec_5 a0)]) ∧ RowKit.Below w.heap.size w w' := by
  have e : sumRes rfDecS (phiCells phi 43 [.int .u32 a0] 0 rfDecS.ks) = .tuple #[.agg #[.int .i64 (rfDec_0 a0), .int .i64 (rfDec_1 a0), .int .i64 (rfDec_2 a0), .int .i64 (rfDec_3 a0), .int .i32 (rfDec_4 a0)], .bool (rfDec_5 a0)] := by kernel_rfl
  exact rfDec_ok.calls (vs := [.int .u32 a0]) (show TypedCells [.ri .u32] [.int .u32 a0] from ⟨⟨a0, rfl, h0⟩, trivial⟩) rfl e w (Nat.zero_le _) trivial

theorem ref_Alu (a0 : Int) (a1 : Int) (a2 : Int) (h0 : IntKind.has .i64 a0) (h1 : IntKind.has .u32 a1) (h2 : IntKind.has .u32 a2) (w : World) :
    Calls Try.prog 47 #[.int .i64 a0, .int .u32 a1, .int .u32 a2] w fun e w' => e = .returned (.int .u32 (rhAlu a0 a1 a2)) ∧ RowKit.Below w.heap.size w w' := by
  have e : sumRes rhAluS (phiCells phi 47 [.int .i64 a0, .int .u32 a1, .int .u32 a2] 0 rhAluS.ks) = .int .u32 (rhAlu a0 a1 a2) := by kernel_rfl
  exact rhAlu_ok.calls (vs := [.int .i64 a0, .int .u32 a1, .int .u32 a2]) (show TypedCells [.ri .i64, .ri .u32, .ri .u32] [.int .i64 a0, .int .u32 a1, .int .u32 a2] from ⟨⟨a0, rfl, h0⟩, ⟨a1, rfl, h1⟩, ⟨a2, rfl, h2⟩, trivial⟩) rfl e w (Nat.zero_le _) trivial

theorem ka_known   (w : World) :
    Calls Try.prog 11 #[] w fun e w' => e = .returned (.bool (kaKnown)) ∧ RowKit.Below w.heap.size w w' := by
  have e : sumRes kaKnownS (phiCells phi 11 [] 0 kaKnownS.ks) = .bool (kaKnown) := by kernel_rfl
  exact kaKnown_ok.calls (vs := []) (show TypedCells [] [] from trivial) rfl e w (Nat.zero_le _) trivial

end Go.Proofs.Ytndfcpkmchjncaa
