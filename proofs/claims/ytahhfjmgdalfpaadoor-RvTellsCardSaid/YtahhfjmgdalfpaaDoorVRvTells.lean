/-
  ferryman/ferrymanlaw3.RvTells: all its ways, printed by a program of this repo.
-/
import Derived.Test.YtahhfjmgdalfpaaDoorBase
import Derived.Test.YtahhfjmgdalfpaaDoorVrvIs
import Derived.Test.YtahhfjmgdalfpaaDoorVrvEnc
import Derived.Test.YtahhfjmgdalfpaaDoorVrvText
import Derived.Test.YtahhfjmgdalfpaaDoorVrfIs
import Derived.Test.YtahhfjmgdalfpaaDoorVrfEnc
import Derived.Test.YtahhfjmgdalfpaaDoorVrfText
import Derived.Test.YtahhfjmgdalfpaaDoorVlwKnown
namespace Go.Proofs.YtahhfjmgdalfpaaDoor
open Go.Sx
set_option linter.unusedVariables false
set_option linter.unusedSimpArgs false
set_option maxRecDepth 100000
set_option maxHeartbeats 20000000
noncomputable def RvTellsC : Ctx := ⟨tys, fns, ((((((((.e : Tr Sum).set 13 rvIsS).set 11 rvEncS).set 15 rvTextS).set 14 rfIsS).set 12 rfEncS).set 16 rfTextS).set 10 lwKnownS)⟩
theorem RvTellsC_ok : CtxT Tryd.prog phi RvTellsC := ⟨tys_ok, fns_ok, (((((((SumsT.e.set rvIs_ok).set rvEnc_ok).set rvText_ok).set rfIs_ok).set rfEnc_ok).set rfText_ok).set lwKnown_ok), mix_ok⟩
noncomputable def RvTellsR (ds : List D) : R (SV × St) := fnRun RvTellsC 1000 50 3 (symArgs RvTellsS.args 0) (st0 ds 5)
noncomputable def RvTellsT : LT :=
 (.nb [.call 10 [] 5 [.rb]] 5
 (.nb [.call 11 [(.ivar .i64 0), (.ivar .i64 1), (.ivar .i64 2), (.ivar .i64 3), (.ivar .i32 4)] 6 [(.ri .u32), (.ri .i64)], .call 12 [(.ivar .i64 0), (.ivar .i64 1), (.ivar .i64 2), (.ivar .i64 3), (.ivar .i32 4)] 8 [(.ri .u32), .rb], .call 13 [(.ivar .i64 0), (.ivar .i64 1), (.ivar .i64 2), (.ivar .i64 3), (.ivar .i32 4)] 10 [.rb], .call 14 [(.ivar .i64 0), (.ivar .i64 1), (.ivar .i64 2), (.ivar .i64 3), (.ivar .i32 4)] 11 [.rb], .setB0 12 (.all [(.bb (.var 10 false) (.var 11 false))])] 12
 (.nb [.setB0 13 (.cmp .eql (.var 6) (.var 8))] 13
 (.nb [.setB0 14 (.cmp .eql (.var 7) (.lit 0)), .setB0 15 (.all [(.bb (.var 14 false) (.var 9 false))])] 15
 (.nb [.setB0 16 (.cmp .eql (.var 7) (.lit 0))] 16
 (.leaf [.call 15 [(.ivar .i64 0), (.ivar .i64 1), (.ivar .i64 2), (.ivar .i64 3), (.ivar .i32 4)] 17 [.rs], .call 16 [(.ivar .i64 0), (.ivar .i64 1), (.ivar .i64 2), (.ivar .i64 3), (.ivar .i32 4)] 18 [.rs], .setB0 19 (.all [(.ss (.var 17) (.var 18))])] (.w (.c (.bvar 19 false))))
 (.nb [.setB0 17 (.cmp .eql (.var 7) (.lit 12))] 17
 (.leaf [.call 15 [(.ivar .i64 0), (.ivar .i64 1), (.ivar .i64 2), (.ivar .i64 3), (.ivar .i32 4)] 18 [.rs], .call 16 [(.ivar .i64 0), (.ivar .i64 1), (.ivar .i64 2), (.ivar .i64 3), (.ivar .i32 4)] 19 [.rs], .setB0 20 (.all [(.ss (.var 18) (.var 19))])] (.w (.c (.bvar 20 false))))
 (.leaf [] (.w (.c (.lit (.bool false)))))))
 (.leaf [] (.w (.c (.lit (.bool false))))))
 (.leaf [] (.w (.c (.lit (.bool false))))))
 (.leaf [] (.w (.c (.lit (.bool false))))))
 (.leaf [] (.w (.c (.lit (.bool false))))))
theorem RvTellsT_ok : LT.Ok RvTellsR RvTellsT [] [] :=
 (LT.ok_nb (LT.ok_nb (LT.ok_nb (LT.ok_nb (LT.ok_nb (LT.ok_leaf (by kernel_rfl))
 (LT.ok_nb (LT.ok_leaf (by kernel_rfl))
 (LT.ok_leaf (by kernel_rfl))))
 (LT.ok_leaf (by kernel_rfl)))
 (LT.ok_leaf (by kernel_rfl)))
 (LT.ok_leaf (by kernel_rfl)))
 (LT.ok_leaf (by kernel_rfl)))
theorem RvTells_ok : SumT Tryd.prog phi 3 RvTellsS := treeSum (t := RvTellsT) (lf := 1000) (d := 50) RvTellsC_ok (fun xs w => Tryd.call3 xs w)
 RvTellsT_ok
 (by kernel_rfl)
 (by
  intro a0 h0 a1 h1 a2 h2 a3 h3 a4 h4
  exact ⟨obl_nil (by kernel_rfl), by kernel_rfl⟩)
end Go.Proofs.YtahhfjmgdalfpaaDoor
