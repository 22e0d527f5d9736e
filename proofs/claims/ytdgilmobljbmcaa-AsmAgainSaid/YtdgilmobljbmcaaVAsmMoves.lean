/-
  ferryman/ferrymanlaw5.AsmMoves: all its ways, printed by a program of this repo.
-/
import Derived.Test.YtdgilmobljbmcaaBase
import Derived.Test.YtdgilmobljbmcaaVasJump
import Derived.Test.YtdgilmobljbmcaaVasTarget
import Derived.Test.YtdgilmobljbmcaaVlwKnown
namespace Go.Proofs.Ytdgilmobljbmcaa
open Go.Sx
set_option linter.unusedVariables false
set_option linter.unusedSimpArgs false
set_option maxRecDepth 100000
noncomputable def AsmMovesC : Ctx := ⟨tys, fns, ((((.e : Tr Sum).set 16 asJumpS).set 13 asTargetS).set 7 lwKnownS)⟩
theorem AsmMovesC_ok : CtxT Try.prog phi AsmMovesC := ⟨tys_ok, fns_ok, (((SumsT.e.set asJump_ok).set asTarget_ok).set lwKnown_ok), mix_ok⟩
noncomputable def AsmMovesR (ds : List D) : R (SV × St) := fnRun AsmMovesC 1000 50 6 (symArgs AsmMovesS.args 0) (st0 ds 3)
noncomputable def AsmMovesT0 : LT :=
 (.nb [.call 7 [] 3 [.rb]] 3
 (.nb [.call 16 [(.ivar .u32 0), (.ivar .u32 1)] 4 [(.ri .u32), .rb], .call 13 [(.ivar .u32 2), (.ivar .u32 4)] 6 [(.ri .u32), .rb]] 5
 (.nb [] 7
 (.leaf [.setI0 8 (.bin .sub .u32 (.var 1) (.var 0)), .setI0 9 (.bin .add .u32 (.var 2) (.var 8)), .setB0 10 (.cmp .eql (.var 6) (.var 9))] (.w (.c (.bvar 10 false))))
 (.leaf [] (.w (.c (.lit (.bool false))))))
 (.nb [.setB0 8 (.cmp .eql (.var 4) (.lit 0))] 8
 (.leaf [] (.w (.c (.lit (.bool true)))))
 (.leaf [] (.w (.c (.lit (.bool false)))))))
 (.leaf [] (.w (.c (.lit (.bool false))))))
theorem AsmMovesT0_ok : LT.Ok AsmMovesR AsmMovesT0 [] [] :=
 (LT.ok_nb (LT.ok_nb (LT.ok_nb (LT.ok_leaf (by kernel_rfl))
 (LT.ok_leaf (by kernel_rfl)))
 (LT.ok_nb (LT.ok_leaf (by kernel_rfl))
 (LT.ok_leaf (by kernel_rfl))))
 (LT.ok_leaf (by kernel_rfl)))
noncomputable def AsmMovesT : LT :=
 AsmMovesT0
theorem AsmMovesT_ok : LT.Ok AsmMovesR AsmMovesT [] [] :=
 AsmMovesT0_ok
theorem AsmMoves_ok : SumT Try.prog phi 6 AsmMovesS := treeSum (t := AsmMovesT) (lf := 1000) (d := 50) AsmMovesC_ok (fun xs w => Try.call6 xs w)
 AsmMovesT_ok
 (by kernel_rfl)
 (by
  intro a0 h0 a1 h1 a2 h2
  exact ⟨obl_nil (by kernel_rfl), by kernel_rfl⟩)
end Go.Proofs.Ytdgilmobljbmcaa
