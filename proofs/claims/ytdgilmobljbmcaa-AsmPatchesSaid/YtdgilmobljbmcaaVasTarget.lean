/-
  ferryman/asm.Target: all its ways, printed by a program of this repo.
-/
import Derived.Test.YtdgilmobljbmcaaBase
import Derived.Test.YtdgilmobljbmcaaVrvDec
namespace Go.Proofs.Ytdgilmobljbmcaa
open Go.Sx
set_option linter.unusedVariables false
set_option linter.unusedSimpArgs false
set_option maxRecDepth 100000
noncomputable def asTargetC : Ctx := ⟨tys, fns, ((.e : Tr Sum).set 30 rvDecS)⟩
theorem asTargetC_ok : CtxT Try.prog phi asTargetC := ⟨tys_ok, fns_ok, (SumsT.e.set rvDec_ok), mix_ok⟩
noncomputable def asTargetR (ds : List D) : R (SV × St) := fnRun asTargetC 1000 50 13 (symArgs asTargetS.args 0) (st0 ds 2)
noncomputable def asTargetT : LT :=
 (.nb [.call 30 [(.ivar .u32 1)] 2 [(.ri .i64), (.ri .i64), (.ri .i64), (.ri .i64), (.ri .i32), .rb]] 7
 (.nb [.setB0 8 (.cmp .neq (.var 2) (.lit 3))] 8
 (.nb [.setB0 9 (.cmp .geq (.var 2) (.lit 5))] 9
 (.nb [.setB0 10 (.cmp .leq (.var 2) (.lit 10))] 10
 (.leaf [.setI0 11 (.conv .u32 (.var 6)), .setI0 12 (.bin .add .u32 (.var 0) (.var 11))] (.tup [(.c (.ivar .u32 12)), (.c (.lit (.bool true)))]))
 (.leaf [] (.tup [(.c (.lit (.int .u32 0))), (.c (.lit (.bool false)))])))
 (.leaf [] (.tup [(.c (.lit (.int .u32 0))), (.c (.lit (.bool false)))])))
 (.leaf [.setI0 9 (.conv .u32 (.var 6)), .setI0 10 (.bin .add .u32 (.var 0) (.var 9))] (.tup [(.c (.ivar .u32 10)), (.c (.lit (.bool true)))])))
 (.leaf [] (.tup [(.c (.lit (.int .u32 0))), (.c (.lit (.bool false)))])))
theorem asTargetT_ok : LT.Ok asTargetR asTargetT [] [] :=
 (LT.ok_nb (LT.ok_nb (LT.ok_nb (LT.ok_nb (LT.ok_leaf (by kernel_rfl))
 (LT.ok_leaf (by kernel_rfl)))
 (LT.ok_leaf (by kernel_rfl)))
 (LT.ok_leaf (by kernel_rfl)))
 (LT.ok_leaf (by kernel_rfl)))
theorem asTarget_ok : SumT Try.prog phi 13 asTargetS := treeSum (t := asTargetT) (lf := 1000) (d := 50) asTargetC_ok (fun xs w => Try.call13 xs w)
 asTargetT_ok
 (by kernel_rfl)
 (by
  intro a0 h0 a1 h1
  exact ⟨obl_nil (by kernel_rfl), by kernel_rfl⟩)
end Go.Proofs.Ytdgilmobljbmcaa
