/-
  ferryman/asm.Jump: all its ways, printed by a program of this repo.
-/
import Derived.Test.YtdgilmobljbmcaaBase
import Derived.Test.YtdgilmobljbmcaaVrvEnc
namespace Go.Proofs.Ytdgilmobljbmcaa
open Go.Sx
set_option linter.unusedVariables false
set_option linter.unusedSimpArgs false
set_option maxRecDepth 100000
noncomputable def asJumpC : Ctx := ⟨tys, fns, ((.e : Tr Sum).set 32 rvEncS)⟩
theorem asJumpC_ok : CtxT Try.prog phi asJumpC := ⟨tys_ok, fns_ok, (SumsT.e.set rvEnc_ok), mix_ok⟩
noncomputable def asJumpR (ds : List D) : R (SV × St) := fnRun asJumpC 1000 50 16 (symArgs asJumpS.args 0) (st0 ds 2)
noncomputable def asJumpT0 : LT :=
 (.leaf [.setI0 2 (.bin .sub .u32 (.var 1) (.var 0)), .setI0 3 (.conv .i32 (.var 2)), .call 32 [(.lit (.int .i64 3)), (.lit (.int .i64 0)), (.lit (.int .i64 0)), (.lit (.int .i64 0)), (.ivar .i32 3)] 4 [(.ri .u32), (.ri .i64)], .setB0 6 (.cmp .eql (.var 5) (.lit 0))] (.tup [(.c (.ivar .u32 4)), (.c (.bvar 6 false))]))
theorem asJumpT0_ok : LT.Ok asJumpR asJumpT0 [] [] :=
 (LT.ok_leaf (by kernel_rfl))
noncomputable def asJumpT : LT :=
 asJumpT0
theorem asJumpT_ok : LT.Ok asJumpR asJumpT [] [] :=
 asJumpT0_ok
theorem asJump_ok : SumT Try.prog phi 16 asJumpS := treeSum (t := asJumpT) (lf := 1000) (d := 50) asJumpC_ok (fun xs w => Try.call16 xs w)
 asJumpT_ok
 (by kernel_rfl)
 (by
  intro a0 h0 a1 h1
  exact ⟨obl_nil (by kernel_rfl), by kernel_rfl⟩)
end Go.Proofs.Ytdgilmobljbmcaa
