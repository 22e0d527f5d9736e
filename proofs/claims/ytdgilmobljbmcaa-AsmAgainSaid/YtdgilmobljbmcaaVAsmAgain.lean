/-
  ferryman/ferrymanlaw5.AsmAgain: all its ways, printed by a program of this repo.
-/
import Derived.Test.YtdgilmobljbmcaaBase
import Derived.Test.YtdgilmobljbmcaaVasJump
import Derived.Test.YtdgilmobljbmcaaVasTarget
import Derived.Test.YtdgilmobljbmcaaVasPatch
import Derived.Test.YtdgilmobljbmcaaVlwKnown
namespace Go.Proofs.Ytdgilmobljbmcaa
open Go.Sx
set_option linter.unusedVariables false
set_option linter.unusedSimpArgs false
set_option maxRecDepth 100000
noncomputable def AsmAgainC : Ctx := ⟨tys, fns, (((((.e : Tr Sum).set 16 asJumpS).set 13 asTargetS).set 14 asPatchS).set 7 lwKnownS)⟩
theorem AsmAgainC_ok : CtxT Try.prog phi AsmAgainC := ⟨tys_ok, fns_ok, ((((SumsT.e.set asJump_ok).set asTarget_ok).set asPatch_ok).set lwKnown_ok), mix_ok⟩
noncomputable def AsmAgainR (ds : List D) : R (SV × St) := fnRun AsmAgainC 1000 50 5 (symArgs AsmAgainS.args 0) (st0 ds 3)
noncomputable def AsmAgainT0 : LT :=
 (.nb [.call 7 [] 3 [.rb]] 3
 (.nb [.call 16 [(.ivar .u32 0), (.ivar .u32 1)] 4 [(.ri .u32), .rb]] 5
 (.nb [.call 14 [(.ivar .u32 4), (.ivar .u32 0), (.ivar .u32 2)] 6 [(.ri .u32), (.ri .i64)], .setB0 8 (.cmp .neq (.var 7) (.lit 0))] 8
 (.leaf [.setB0 9 (.cmp .eql (.var 6) (.lit 0))] (.w (.c (.bvar 9 false))))
 (.nb [.call 14 [(.ivar .u32 6), (.ivar .u32 0), (.ivar .u32 1)] 9 [(.ri .u32), (.ri .i64)], .call 13 [(.ivar .u32 0), (.ivar .u32 6)] 11 [(.ri .u32), .rb], .setB0 13 (.cmp .eql (.var 10) (.lit 0))] 13
 (.nb [.setB0 14 (.cmp .eql (.var 9) (.var 4))] 14
 (.nb [] 12
 (.leaf [.setB0 15 (.cmp .eql (.var 11) (.var 2))] (.w (.c (.bvar 15 false))))
 (.leaf [] (.w (.c (.lit (.bool false))))))
 (.leaf [] (.w (.c (.lit (.bool false))))))
 (.leaf [] (.w (.c (.lit (.bool false)))))))
 (.leaf [] (.w (.c (.lit (.bool true))))))
 (.leaf [] (.w (.c (.lit (.bool false))))))
theorem AsmAgainT0_ok : LT.Ok AsmAgainR AsmAgainT0 [] [] :=
 (LT.ok_nb (LT.ok_nb (LT.ok_nb (LT.ok_leaf (by kernel_rfl))
 (LT.ok_nb (LT.ok_nb (LT.ok_nb (LT.ok_leaf (by kernel_rfl))
 (LT.ok_leaf (by kernel_rfl)))
 (LT.ok_leaf (by kernel_rfl)))
 (LT.ok_leaf (by kernel_rfl))))
 (LT.ok_leaf (by kernel_rfl)))
 (LT.ok_leaf (by kernel_rfl)))
noncomputable def AsmAgainT : LT :=
 AsmAgainT0
theorem AsmAgainT_ok : LT.Ok AsmAgainR AsmAgainT [] [] :=
 AsmAgainT0_ok
theorem AsmAgain_ok : SumT Try.prog phi 5 AsmAgainS := treeSum (t := AsmAgainT) (lf := 1000) (d := 50) AsmAgainC_ok (fun xs w => Try.call5 xs w)
 AsmAgainT_ok
 (by kernel_rfl)
 (by
  intro a0 h0 a1 h1 a2 h2
  exact ⟨obl_nil (by kernel_rfl), by kernel_rfl⟩)
end Go.Proofs.Ytdgilmobljbmcaa
