/-
  ferryman/ferrymanlaw3.RvReads: all its ways, printed by a program of this repo.
-/
import Derived.Test.YtahhfjmgdalfpaaDoorBase
import Derived.Test.YtahhfjmgdalfpaaDoorVrvDec
import Derived.Test.YtahhfjmgdalfpaaDoorVrfDec
import Derived.Test.YtahhfjmgdalfpaaDoorVlwKnown
namespace Go.Proofs.YtahhfjmgdalfpaaDoor
open Go.Sx
set_option linter.unusedVariables false
set_option linter.unusedSimpArgs false
set_option maxRecDepth 100000
set_option maxHeartbeats 20000000
noncomputable def RvReadsC : Ctx := ⟨tys, fns, ((((.e : Tr Sum).set 17 rvDecS).set 18 rfDecS).set 10 lwKnownS)⟩
theorem RvReadsC_ok : CtxT Tryd.prog phi RvReadsC := ⟨tys_ok, fns_ok, (((SumsT.e.set rvDec_ok).set rfDec_ok).set lwKnown_ok), mix_ok⟩
noncomputable def RvReadsR (ds : List D) : R (SV × St) := fnRun RvReadsC 1000 50 4 (symArgs RvReadsS.args 0) (st0 ds 1)
noncomputable def RvReadsT : LT :=
 (.nb [.call 10 [] 1 [.rb]] 1
 (.nb [.call 17 [(.ivar .u32 0)] 2 [(.ri .i64), (.ri .i64), (.ri .i64), (.ri .i64), (.ri .i32), .rb], .call 18 [(.ivar .u32 0)] 8 [(.ri .i64), (.ri .i64), (.ri .i64), (.ri .i64), (.ri .i32), .rb], .setB0 14 (.all [(.ii (.var 2) (.var 8)), (.ii (.var 3) (.var 9)), (.ii (.var 4) (.var 10)), (.ii (.var 5) (.var 11)), (.ii (.var 6) (.var 12))])] 14
 (.leaf [.setB0 15 (.all [(.bb (.var 7 false) (.var 13 false))])] (.w (.c (.bvar 15 false))))
 (.leaf [] (.w (.c (.lit (.bool false))))))
 (.leaf [] (.w (.c (.lit (.bool false))))))
theorem RvReadsT_ok : LT.Ok RvReadsR RvReadsT [] [] :=
 (LT.ok_nb (LT.ok_nb (LT.ok_leaf (by kernel_rfl))
 (LT.ok_leaf (by kernel_rfl)))
 (LT.ok_leaf (by kernel_rfl)))
theorem RvReads_ok : SumT Tryd.prog phi 4 RvReadsS := treeSum (t := RvReadsT) (lf := 1000) (d := 50) RvReadsC_ok (fun xs w => Tryd.call4 xs w)
 RvReadsT_ok
 (by kernel_rfl)
 (by
  intro a0 h0
  exact ⟨obl_nil (by kernel_rfl), by kernel_rfl⟩)
end Go.Proofs.YtahhfjmgdalfpaaDoor
