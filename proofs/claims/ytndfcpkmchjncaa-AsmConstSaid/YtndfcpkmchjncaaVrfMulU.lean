/-
  ferryman/ferrymanref1.MulU: all its ways, printed by a program of this repo.
-/
import Derived.Test.YtndfcpkmchjncaaBase
namespace Go.Proofs.Ytndfcpkmchjncaa
open Go.Sx
set_option linter.unusedVariables false
set_option linter.unusedSimpArgs false
set_option maxRecDepth 100000
set_option maxHeartbeats 20000000
noncomputable def rfMulUC : Ctx := ⟨tys, fns, (.e : Tr Sum)⟩
theorem rfMulUC_ok : CtxT Try.prog phi rfMulUC := ⟨tys_ok, fns_ok, SumsT.e, mix_ok⟩
noncomputable def rfMulUR (ds : List D) : R (SV × St) := fnRun rfMulUC 1000 50 90 (symArgs rfMulUS.args 0) (st0 ds 2)
noncomputable def rfMulUT : LT :=
 (.leaf [.setI0 2 (.conv .u64 (.var 0)), .setI0 3 (.conv .u64 (.var 1)), .setI0 4 (.bin .mul .u64 (.var 2) (.var 3)), .setI0 5 (.conv .u32 (.var 4)), .setI0 6 (.bin .shr .u64 (.var 4) (.lit 32)), .setI0 7 (.conv .u32 (.var 6))] (.tup [(.c (.ivar .u32 5)), (.c (.ivar .u32 7))]))
theorem rfMulUT_ok : LT.Ok rfMulUR rfMulUT [] [] :=
 (LT.ok_leaf (by kernel_rfl))
theorem rfMulU_ok : SumT Try.prog phi 90 rfMulUS := treeSum (t := rfMulUT) (lf := 1000) (d := 50) rfMulUC_ok (fun xs w => Try.call90 xs w)
 rfMulUT_ok
 (by kernel_rfl)
 (by
  intro a0 h0 a1 h1
  exact ⟨obl_nil (by kernel_rfl), by kernel_rfl⟩)
end Go.Proofs.Ytndfcpkmchjncaa
