/-
  ferryman/asm.Patch: all its ways, printed by a program of this repo.
-/
import Derived.Test.YtdgilmobljbmcaaBase
import Derived.Test.YtdgilmobljbmcaaVrvEnc
import Derived.Test.YtdgilmobljbmcaaVrvDec
import Derived.Test.YtdgilmobljbmcaaVasTarget
namespace Go.Proofs.Ytdgilmobljbmcaa
open Go.Sx
set_option linter.unusedVariables false
set_option linter.unusedSimpArgs false
set_option maxRecDepth 100000
noncomputable def asPatchC : Ctx := ⟨tys, fns, ((((.e : Tr Sum).set 32 rvEncS).set 30 rvDecS).set 13 asTargetS)⟩
theorem asPatchC_ok : CtxT Try.prog phi asPatchC := ⟨tys_ok, fns_ok, (((SumsT.e.set rvEnc_ok).set rvDec_ok).set asTarget_ok), mix_ok⟩
noncomputable def asPatchR (ds : List D) : R (SV × St) := fnRun asPatchC 1000 50 14 (symArgs asPatchS.args 0) (st0 ds 3)
noncomputable def asPatchT : LT :=
 (.nb [.call 13 [(.ivar .u32 1), (.ivar .u32 0)] 3 [(.ri .u32), .rb]] 4
 (.nb [.call 30 [(.ivar .u32 0)] 5 [(.ri .i64), (.ri .i64), (.ri .i64), (.ri .i64), (.ri .i32), .rb], .setI0 11 (.bin .sub .u32 (.var 2) (.var 1)), .setI0 12 (.conv .i32 (.var 11)), .call 32 [(.ivar .i64 5), (.ivar .i64 6), (.ivar .i64 7), (.ivar .i64 8), (.ivar .i32 12)] 13 [(.ri .u32), (.ri .i64)], .setB0 15 (.cmp .neq (.var 14) (.lit 0))] 15
 (.leaf [] (.tup [(.c (.lit (.int .u32 0))), (.c (.lit (.int .i64 50)))]))
 (.leaf [] (.tup [(.c (.ivar .u32 13)), (.c (.lit (.int .i64 0)))])))
 (.leaf [] (.tup [(.c (.lit (.int .u32 0))), (.c (.lit (.int .i64 12)))])))
theorem asPatchT_ok : LT.Ok asPatchR asPatchT [] [] :=
 (LT.ok_nb (LT.ok_nb (LT.ok_leaf (by kernel_rfl))
 (LT.ok_leaf (by kernel_rfl)))
 (LT.ok_leaf (by kernel_rfl)))
theorem asPatch_ok : SumT Try.prog phi 14 asPatchS := treeSum (t := asPatchT) (lf := 1000) (d := 50) asPatchC_ok (fun xs w => Try.call14 xs w)
 asPatchT_ok
 (by kernel_rfl)
 (by
  intro a0 h0 a1 h1 a2 h2
  exact ⟨obl_nil (by kernel_rfl), by kernel_rfl⟩)
end Go.Proofs.Ytdgilmobljbmcaa
