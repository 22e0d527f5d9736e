/-
  ferryman/ferrymanlaw3.RvRanges: all its ways, printed by a program of this repo.
-/
import Derived.Test.YtahhfjmgdalfpaaDoorBase
import Derived.Test.YtahhfjmgdalfpaaDoorVrvIs
import Derived.Test.YtahhfjmgdalfpaaDoorVlwKnown
namespace Go.Proofs.YtahhfjmgdalfpaaDoor
open Go.Sx
set_option linter.unusedVariables false
set_option linter.unusedSimpArgs false
set_option maxRecDepth 100000
set_option maxHeartbeats 20000000
noncomputable def RvRangesC : Ctx := ⟨tys, fns, (((.e : Tr Sum).set 13 rvIsS).set 10 lwKnownS)⟩
theorem RvRangesC_ok : CtxT Tryd.prog phi RvRangesC := ⟨tys_ok, fns_ok, ((SumsT.e.set rvIs_ok).set lwKnown_ok), mix_ok⟩
noncomputable def RvRangesR (ds : List D) : R (SV × St) := fnRun RvRangesC 1000 50 7 (symArgs RvRangesS.args 0) (st0 ds 5)
noncomputable def RvRangesT : LT :=
 (.nb [.call 10 [] 5 [.rb]] 5
 (.nb [.setI0 6 (.bin .rem .u8 (.var 1) (.lit 32)), .setI0 7 (.conv .i64 (.var 6)), .setI0 8 (.bin .rem .u8 (.var 2) (.lit 32)), .setI0 9 (.conv .i64 (.var 8)), .setI0 10 (.bin .rem .u8 (.var 3) (.lit 32)), .setI0 11 (.conv .i64 (.var 10))] 4
 (.nb [.setI0 12 (.bin .rem .u8 (.var 0) (.lit 6)), .setI0 13 (.conv .i64 (.var 12)), .setI0 14 (.bin .add .i64 (.lit 5) (.var 13)), .setI0 15 (.bin .rem .u8 (.var 0) (.lit 5)), .setI0 16 (.conv .i64 (.var 15)), .setI0 17 (.bin .add .i64 (.lit 11) (.var 16)), .setI0 18 (.bin .rem .u8 (.var 0) (.lit 3)), .setI0 19 (.conv .i64 (.var 18)), .setI0 20 (.bin .add .i64 (.lit 25) (.var 19)), .setI0 21 (.bin .rem .u8 (.var 0) (.lit 3)), .setI0 22 (.conv .i64 (.var 21)), .setI0 23 (.bin .add .i64 (.lit 16) (.var 22)), .call 13 [(.lit (.int .i64 3)), (.ivar .i64 11), (.lit (.int .i64 0)), (.lit (.int .i64 0)), (.lit (.int .i32 1048576))] 24 [.rb], .setB0 25 (.all [(.bb (.var 24 false) (.lit false))])] 25
 (.nb [.call 13 [(.ivar .i64 14), (.lit (.int .i64 0)), (.ivar .i64 7), (.ivar .i64 9), (.lit (.int .i32 (-4098)))] 26 [.rb], .setB0 27 (.all [(.bb (.var 26 false) (.lit false))])] 27
 (.nb [.call 13 [(.ivar .i64 17), (.ivar .i64 11), (.ivar .i64 7), (.lit (.int .i64 0)), (.lit (.int .i32 2048))] 28 [.rb], .setB0 29 (.all [(.bb (.var 28 false) (.lit false))])] 29
 (.nb [.call 13 [(.ivar .i64 20), (.ivar .i64 11), (.ivar .i64 7), (.lit (.int .i64 0)), (.lit (.int .i32 32))] 30 [.rb], .setB0 31 (.all [(.bb (.var 30 false) (.lit false))])] 31
 (.nb [.call 13 [(.ivar .i64 23), (.lit (.int .i64 0)), (.ivar .i64 7), (.ivar .i64 9), (.lit (.int .i32 (-2049)))] 32 [.rb], .setB0 33 (.all [(.bb (.var 32 false) (.lit false))])] 33
 (.nb [.call 13 [(.lit (.int .i64 1)), (.ivar .i64 11), (.lit (.int .i64 0)), (.lit (.int .i64 0)), (.lit (.int .i32 4095))] 34 [.rb]] 34
 (.leaf [] (.w (.c (.lit (.bool false)))))
 (.nb [.call 13 [(.lit (.int .i64 28)), (.ivar .i64 11), (.lit (.int .i64 32)), (.lit (.int .i64 0)), (.lit (.int .i32 0))] 35 [.rb]] 35
 (.leaf [] (.w (.c (.lit (.bool false)))))
 (.nb [.call 13 [(.lit (.int .i64 46)), (.lit (.int .i64 0)), (.lit (.int .i64 0)), (.lit (.int .i64 0)), (.lit (.int .i32 0))] 36 [.rb]] 36
 (.leaf [.call 13 [(.lit (.int .i64 46)), (.lit (.int .i64 1)), (.lit (.int .i64 0)), (.lit (.int .i64 0)), (.lit (.int .i32 0))] 37 [.rb]] (.w (.c (.bvar 37 true))))
 (.leaf [] (.w (.c (.lit (.bool false))))))))
 (.leaf [] (.w (.c (.lit (.bool false))))))
 (.leaf [] (.w (.c (.lit (.bool false))))))
 (.leaf [] (.w (.c (.lit (.bool false))))))
 (.leaf [] (.w (.c (.lit (.bool false))))))
 (.leaf [] (.w (.c (.lit (.bool false))))))
 (.nb [.setI0 12 (.bin .rem .u8 (.var 0) (.lit 6)), .setI0 13 (.conv .i64 (.var 12)), .setI0 14 (.bin .add .i64 (.lit 5) (.var 13)), .setI0 15 (.bin .rem .u8 (.var 0) (.lit 5)), .setI0 16 (.conv .i64 (.var 15)), .setI0 17 (.bin .add .i64 (.lit 11) (.var 16)), .setI0 18 (.bin .rem .u8 (.var 0) (.lit 3)), .setI0 19 (.conv .i64 (.var 18)), .setI0 20 (.bin .add .i64 (.lit 25) (.var 19)), .setI0 21 (.bin .rem .u8 (.var 0) (.lit 3)), .setI0 22 (.conv .i64 (.var 21)), .setI0 23 (.bin .add .i64 (.lit 16) (.var 22)), .call 13 [(.lit (.int .i64 3)), (.ivar .i64 11), (.lit (.int .i64 0)), (.lit (.int .i64 0)), (.lit (.int .i32 1048574))] 24 [.rb], .setB0 25 (.all [(.bb (.var 24 false) (.lit true))])] 25
 (.nb [.call 13 [(.ivar .i64 14), (.lit (.int .i64 0)), (.ivar .i64 7), (.ivar .i64 9), (.lit (.int .i32 (-4096)))] 26 [.rb], .setB0 27 (.all [(.bb (.var 26 false) (.lit true))])] 27
 (.nb [.call 13 [(.ivar .i64 17), (.ivar .i64 11), (.ivar .i64 7), (.lit (.int .i64 0)), (.lit (.int .i32 2047))] 28 [.rb], .setB0 29 (.all [(.bb (.var 28 false) (.lit true))])] 29
 (.nb [.call 13 [(.ivar .i64 20), (.ivar .i64 11), (.ivar .i64 7), (.lit (.int .i64 0)), (.lit (.int .i32 31))] 30 [.rb], .setB0 31 (.all [(.bb (.var 30 false) (.lit true))])] 31
 (.nb [.call 13 [(.ivar .i64 23), (.lit (.int .i64 0)), (.ivar .i64 7), (.ivar .i64 9), (.lit (.int .i32 (-2048)))] 32 [.rb], .setB0 33 (.all [(.bb (.var 32 false) (.lit true))])] 33
 (.nb [.call 13 [(.lit (.int .i64 1)), (.ivar .i64 11), (.lit (.int .i64 0)), (.lit (.int .i64 0)), (.lit (.int .i32 4095))] 34 [.rb]] 34
 (.leaf [] (.w (.c (.lit (.bool false)))))
 (.nb [.call 13 [(.lit (.int .i64 28)), (.ivar .i64 11), (.lit (.int .i64 32)), (.lit (.int .i64 0)), (.lit (.int .i32 0))] 35 [.rb]] 35
 (.leaf [] (.w (.c (.lit (.bool false)))))
 (.nb [.call 13 [(.lit (.int .i64 46)), (.lit (.int .i64 0)), (.lit (.int .i64 0)), (.lit (.int .i64 0)), (.lit (.int .i32 0))] 36 [.rb]] 36
 (.leaf [.call 13 [(.lit (.int .i64 46)), (.lit (.int .i64 1)), (.lit (.int .i64 0)), (.lit (.int .i64 0)), (.lit (.int .i32 0))] 37 [.rb]] (.w (.c (.bvar 37 true))))
 (.leaf [] (.w (.c (.lit (.bool false))))))))
 (.leaf [] (.w (.c (.lit (.bool false))))))
 (.leaf [] (.w (.c (.lit (.bool false))))))
 (.leaf [] (.w (.c (.lit (.bool false))))))
 (.leaf [] (.w (.c (.lit (.bool false))))))
 (.leaf [] (.w (.c (.lit (.bool false)))))))
 (.leaf [] (.w (.c (.lit (.bool false))))))
theorem RvRangesT_ok : LT.Ok RvRangesR RvRangesT [] [] :=
 (LT.ok_nb (LT.ok_nb (LT.ok_nb (LT.ok_nb (LT.ok_nb (LT.ok_nb (LT.ok_nb (LT.ok_nb (LT.ok_leaf (by kernel_rfl))
 (LT.ok_nb (LT.ok_leaf (by kernel_rfl))
 (LT.ok_nb (LT.ok_leaf (by kernel_rfl))
 (LT.ok_leaf (by kernel_rfl)))))
 (LT.ok_leaf (by kernel_rfl)))
 (LT.ok_leaf (by kernel_rfl)))
 (LT.ok_leaf (by kernel_rfl)))
 (LT.ok_leaf (by kernel_rfl)))
 (LT.ok_leaf (by kernel_rfl)))
 (LT.ok_nb (LT.ok_nb (LT.ok_nb (LT.ok_nb (LT.ok_nb (LT.ok_nb (LT.ok_leaf (by kernel_rfl))
 (LT.ok_nb (LT.ok_leaf (by kernel_rfl))
 (LT.ok_nb (LT.ok_leaf (by kernel_rfl))
 (LT.ok_leaf (by kernel_rfl)))))
 (LT.ok_leaf (by kernel_rfl)))
 (LT.ok_leaf (by kernel_rfl)))
 (LT.ok_leaf (by kernel_rfl)))
 (LT.ok_leaf (by kernel_rfl)))
 (LT.ok_leaf (by kernel_rfl))))
 (LT.ok_leaf (by kernel_rfl)))
theorem RvRanges_ok : SumT Tryd.prog phi 7 RvRangesS := treeSum (t := RvRangesT) (lf := 1000) (d := 50) RvRangesC_ok (fun xs w => Tryd.call7 xs w)
 RvRangesT_ok
 (by kernel_rfl)
 (by
  intro a0 h0 a1 h1 a2 h2 a3 h3 a4
  exact ⟨obl_nil (by kernel_rfl), by kernel_rfl⟩)
end Go.Proofs.YtahhfjmgdalfpaaDoor
