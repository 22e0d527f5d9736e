/-
  ferryman/ferrymanref1.MulS: all its ways, printed by a program of this repo.
-/
import Derived.Test.YtndfcpkmchjncaaBase
namespace Go.Proofs.Ytndfcpkmchjncaa
open Go.Sx
set_option linter.unusedVariables false
set_option linter.unusedSimpArgs false
set_option maxRecDepth 100000
set_option maxHeartbeats 20000000
noncomputable def rfMulSC : Ctx := ⟨tys, fns, (.e : Tr Sum)⟩
theorem rfMulSC_ok : CtxT Try.prog phi rfMulSC := ⟨tys_ok, fns_ok, SumsT.e, mix_ok⟩
noncomputable def rfMulSR (ds : List D) : R (SV × St) := fnRun rfMulSC 1000 50 91 (symArgs rfMulSS.args 0) (st0 ds 2)
noncomputable def rfMulST : LT :=
 (.leaf [.setI0 2 (.conv .i32 (.var 0)), .setI0 3 (.conv .i64 (.var 2)), .setI0 4 (.conv .i32 (.var 1)), .setI0 5 (.conv .i64 (.var 4)), .setI0 6 (.bin .mul .i64 (.var 3) (.var 5)), .setI0 7 (.conv .u32 (.var 6)), .setI0 8 (.conv .u64 (.var 6)), .setI0 9 (.bin .shr .u64 (.var 8) (.lit 32)), .setI0 10 (.conv .u32 (.var 9))] (.tup [(.c (.ivar .u32 7)), (.c (.ivar .u32 10))]))
theorem rfMulST_ok : LT.Ok rfMulSR rfMulST [] [] :=
 (LT.ok_leaf (by kernel_rfl))
theorem rfMulS_ok : SumT Try.prog phi 91 rfMulSS := treeSum (t := rfMulST) (lf := 1000) (d := 50) rfMulSC_ok (fun xs w => Try.call91 xs w)
 rfMulST_ok
 (by kernel_rfl)
 (by
  intro a0 h0 a1 h1
  exact ⟨obl_nil (by kernel_rfl), by kernel_rfl⟩)
end Go.Proofs.Ytndfcpkmchjncaa
