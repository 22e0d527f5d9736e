/-
  ferryman/ferrymanlaw3.RvNumbers: all its ways, printed by a program of this repo.
-/
import Derived.Test.YtahhfjmgdalfpaaDoorBase
import Derived.Test.YtahhfjmgdalfpaaDoorVrvEnc
import Derived.Test.YtahhfjmgdalfpaaDoorVrvDec
import Derived.Test.YtahhfjmgdalfpaaDoorVlwKnown
namespace Go.Proofs.YtahhfjmgdalfpaaDoor
open Go.Sx
set_option linter.unusedVariables false
set_option linter.unusedSimpArgs false
set_option maxRecDepth 100000
set_option maxHeartbeats 20000000
noncomputable def RvNumbersC : Ctx := ⟨tys, fns, ((((.e : Tr Sum).set 11 rvEncS).set 17 rvDecS).set 10 lwKnownS)⟩
theorem RvNumbersC_ok : CtxT Tryd.prog phi RvNumbersC := ⟨tys_ok, fns_ok, (((SumsT.e.set rvEnc_ok).set rvDec_ok).set lwKnown_ok), mix_ok⟩
noncomputable def RvNumbersR (ds : List D) : R (SV × St) := fnRun RvNumbersC 1000 50 9 (symArgs RvNumbersS.args 0) (st0 ds 2)
noncomputable def RvNumbersT : LT :=
 (.nb [.call 10 [] 2 [.rb]] 2
 (.nb [.setI0 3 (.bin .rem .u8 (.var 1) (.lit 32)), .setI0 4 (.conv .i64 (.var 3)), .setI0 5 (.bin .shl .i32 (.var 0) (.lit 20)), .setI0 6 (.bin .shr .i32 (.var 5) (.lit 20)), .setI0 7 (.bin .shl .i32 (.var 0) (.lit 20)), .setI0 8 (.bin .shr .i32 (.var 7) (.lit 20)), .setI0 9 (.bin .shl .i32 (.var 0) (.lit 19)), .setI0 10 (.bin .shr .i32 (.var 9) (.lit 19)), .setI0 11 (.bin .andNot .i32 (.var 10) (.lit 1)), .setI0 12 (.bin .shl .i32 (.var 0) (.lit 11)), .setI0 13 (.bin .shr .i32 (.var 12) (.lit 11)), .setI0 14 (.bin .andNot .i32 (.var 13) (.lit 1)), .setI0 15 (.bin .andNot .i32 (.var 0) (.lit 4095)), .call 11 [(.lit (.int .i64 19)), (.ivar .i64 4), (.ivar .i64 4), (.lit (.int .i64 0)), (.ivar .i32 6)] 16 [(.ri .u32), (.ri .i64)], .call 17 [(.ivar .u32 16)] 18 [(.ri .i64), (.ri .i64), (.ri .i64), (.ri .i64), (.ri .i32), .rb], .setB0 24 (.cmp .neq (.var 17) (.lit 0))] 24
 (.leaf [] (.w (.c (.lit (.bool false)))))
 (.nb [] 23
 (.nb [.setB0 25 (.all [(.ii (.var 18) (.lit 19)), (.ii (.var 19) (.var 4)), (.ii (.var 20) (.var 4)), (.ii (.var 21) (.lit 0)), (.ii (.var 22) (.var 6))])] 25
 (.nb [.call 11 [(.lit (.int .i64 18)), (.lit (.int .i64 0)), (.ivar .i64 4), (.ivar .i64 4), (.ivar .i32 8)] 26 [(.ri .u32), (.ri .i64)], .call 17 [(.ivar .u32 26)] 28 [(.ri .i64), (.ri .i64), (.ri .i64), (.ri .i64), (.ri .i32), .rb], .setB0 34 (.cmp .neq (.var 27) (.lit 0))] 34
 (.leaf [] (.w (.c (.lit (.bool false)))))
 (.nb [] 33
 (.nb [.setB0 35 (.all [(.ii (.var 28) (.lit 18)), (.ii (.var 29) (.lit 0)), (.ii (.var 30) (.var 4)), (.ii (.var 31) (.var 4)), (.ii (.var 32) (.var 8))])] 35
 (.nb [.call 11 [(.lit (.int .i64 6)), (.lit (.int .i64 0)), (.ivar .i64 4), (.ivar .i64 4), (.ivar .i32 11)] 36 [(.ri .u32), (.ri .i64)], .call 17 [(.ivar .u32 36)] 38 [(.ri .i64), (.ri .i64), (.ri .i64), (.ri .i64), (.ri .i32), .rb], .setB0 44 (.cmp .neq (.var 37) (.lit 0))] 44
 (.leaf [] (.w (.c (.lit (.bool false)))))
 (.nb [] 43
 (.nb [.setB0 45 (.all [(.ii (.var 38) (.lit 6)), (.ii (.var 39) (.lit 0)), (.ii (.var 40) (.var 4)), (.ii (.var 41) (.var 4)), (.ii (.var 42) (.var 11))])] 45
 (.nb [.call 11 [(.lit (.int .i64 3)), (.ivar .i64 4), (.lit (.int .i64 0)), (.lit (.int .i64 0)), (.ivar .i32 14)] 46 [(.ri .u32), (.ri .i64)], .call 17 [(.ivar .u32 46)] 48 [(.ri .i64), (.ri .i64), (.ri .i64), (.ri .i64), (.ri .i32), .rb], .setB0 54 (.cmp .neq (.var 47) (.lit 0))] 54
 (.leaf [] (.w (.c (.lit (.bool false)))))
 (.nb [] 53
 (.nb [.setB0 55 (.all [(.ii (.var 48) (.lit 3)), (.ii (.var 49) (.var 4)), (.ii (.var 50) (.lit 0)), (.ii (.var 51) (.lit 0)), (.ii (.var 52) (.var 14))])] 55
 (.nb [.call 11 [(.lit (.int .i64 1)), (.ivar .i64 4), (.lit (.int .i64 0)), (.lit (.int .i64 0)), (.ivar .i32 15)] 56 [(.ri .u32), (.ri .i64)], .call 17 [(.ivar .u32 56)] 58 [(.ri .i64), (.ri .i64), (.ri .i64), (.ri .i64), (.ri .i32), .rb], .setB0 64 (.cmp .neq (.var 57) (.lit 0))] 64
 (.leaf [] (.w (.c (.lit (.bool false)))))
 (.nb [] 63
 (.nb [.setB0 65 (.all [(.ii (.var 58) (.lit 1)), (.ii (.var 59) (.var 4)), (.ii (.var 60) (.lit 0)), (.ii (.var 61) (.lit 0)), (.ii (.var 62) (.var 15))])] 65
 (.leaf [] (.w (.c (.lit (.bool true)))))
 (.leaf [] (.w (.c (.lit (.bool false))))))
 (.leaf [] (.w (.c (.lit (.bool false)))))))
 (.leaf [] (.w (.c (.lit (.bool false))))))
 (.leaf [] (.w (.c (.lit (.bool false)))))))
 (.leaf [] (.w (.c (.lit (.bool false))))))
 (.leaf [] (.w (.c (.lit (.bool false)))))))
 (.leaf [] (.w (.c (.lit (.bool false))))))
 (.leaf [] (.w (.c (.lit (.bool false)))))))
 (.leaf [] (.w (.c (.lit (.bool false))))))
 (.leaf [] (.w (.c (.lit (.bool false)))))))
 (.leaf [] (.w (.c (.lit (.bool false))))))
theorem RvNumbersT_ok : LT.Ok RvNumbersR RvNumbersT [] [] :=
 (LT.ok_nb (LT.ok_nb (LT.ok_leaf (by kernel_rfl))
 (LT.ok_nb (LT.ok_nb (LT.ok_nb (LT.ok_leaf (by kernel_rfl))
 (LT.ok_nb (LT.ok_nb (LT.ok_nb (LT.ok_leaf (by kernel_rfl))
 (LT.ok_nb (LT.ok_nb (LT.ok_nb (LT.ok_leaf (by kernel_rfl))
 (LT.ok_nb (LT.ok_nb (LT.ok_nb (LT.ok_leaf (by kernel_rfl))
 (LT.ok_nb (LT.ok_nb (LT.ok_leaf (by kernel_rfl))
 (LT.ok_leaf (by kernel_rfl)))
 (LT.ok_leaf (by kernel_rfl))))
 (LT.ok_leaf (by kernel_rfl)))
 (LT.ok_leaf (by kernel_rfl))))
 (LT.ok_leaf (by kernel_rfl)))
 (LT.ok_leaf (by kernel_rfl))))
 (LT.ok_leaf (by kernel_rfl)))
 (LT.ok_leaf (by kernel_rfl))))
 (LT.ok_leaf (by kernel_rfl)))
 (LT.ok_leaf (by kernel_rfl))))
 (LT.ok_leaf (by kernel_rfl)))
theorem RvNumbers_ok : SumT Tryd.prog phi 9 RvNumbersS := treeSum (t := RvNumbersT) (lf := 1000) (d := 50) RvNumbersC_ok (fun xs w => Tryd.call9 xs w)
 RvNumbersT_ok
 (by kernel_rfl)
 (by
  intro a0 h0 a1 h1
  exact ⟨obl_nil (by kernel_rfl), by kernel_rfl⟩)
end Go.Proofs.YtahhfjmgdalfpaaDoor
