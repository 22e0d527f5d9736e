/-
  ferryman/ferrymanlaw3.RvBack: all its ways, printed by a program of this repo.
-/
import Derived.Test.YtahhfjmgdalfpaaDoorBase
import Derived.Test.YtahhfjmgdalfpaaDoorVrvIs
import Derived.Test.YtahhfjmgdalfpaaDoorVrvEnc
import Derived.Test.YtahhfjmgdalfpaaDoorVrvDec
import Derived.Test.YtahhfjmgdalfpaaDoorVrvText
import Derived.Test.YtahhfjmgdalfpaaDoorVlwKnown
namespace Go.Proofs.YtahhfjmgdalfpaaDoor
open Go.Sx
set_option linter.unusedVariables false
set_option linter.unusedSimpArgs false
set_option maxRecDepth 100000
set_option maxHeartbeats 20000000
noncomputable def RvBackC : Ctx := ⟨tys, fns, ((((((.e : Tr Sum).set 13 rvIsS).set 11 rvEncS).set 17 rvDecS).set 15 rvTextS).set 10 lwKnownS)⟩
theorem RvBackC_ok : CtxT Tryd.prog phi RvBackC := ⟨tys_ok, fns_ok, (((((SumsT.e.set rvIs_ok).set rvEnc_ok).set rvDec_ok).set rvText_ok).set lwKnown_ok), mix_ok⟩
noncomputable def RvBackR (ds : List D) : R (SV × St) := fnRun RvBackC 1000 50 5 (symArgs RvBackS.args 0) (st0 ds 6)
noncomputable def RvBackT : LT :=
 (.nb [.call 10 [] 6 [.rb]] 6
 (.nb [.call 11 [(.ivar .i64 0), (.ivar .i64 1), (.ivar .i64 2), (.ivar .i64 3), (.ivar .i32 4)] 7 [(.ri .u32), (.ri .i64)], .call 13 [(.ivar .i64 0), (.ivar .i64 1), (.ivar .i64 2), (.ivar .i64 3), (.ivar .i32 4)] 9 [.rb], .setB0 10 (.cmp .eql (.var 8) (.lit 0)), .setB0 11 (.all [(.bb (.var 9 false) (.var 10 false))])] 11
 (.nb [.setB0 12 (.cmp .eql (.var 8) (.lit 0))] 12
 (.nb [.call 17 [(.ivar .u32 7)] 13 [(.ri .i64), (.ri .i64), (.ri .i64), (.ri .i64), (.ri .i32), .rb]] 18
 (.nb [.setB0 19 (.all [(.ii (.var 13) (.var 0)), (.ii (.var 14) (.var 1)), (.ii (.var 15) (.var 2)), (.ii (.var 16) (.var 3)), (.ii (.var 17) (.var 4))])] 19
 (.nb [.call 15 [(.ivar .i64 0), (.ivar .i64 1), (.ivar .i64 2), (.ivar .i64 3), (.ivar .i32 4)] 20 [.rs], .setB0 21 (.all [(.ss (.var 20) (.lit ⟨#[]⟩))])] 21
 (.leaf [] (.w (.c (.lit (.bool false)))))
 (.nb [.call 17 [(.ivar .u32 5)] 22 [(.ri .i64), (.ri .i64), (.ri .i64), (.ri .i64), (.ri .i32), .rb]] 27
 (.nb [.call 11 [(.ivar .i64 22), (.ivar .i64 23), (.ivar .i64 24), (.ivar .i64 25), (.ivar .i32 26)] 28 [(.ri .u32), (.ri .i64)], .setB0 30 (.cmp .eql (.var 29) (.lit 0))] 30
 (.leaf [.setB0 31 (.cmp .eql (.var 28) (.var 5))] (.w (.c (.bvar 31 false))))
 (.leaf [] (.w (.c (.lit (.bool false))))))
 (.leaf [] (.w (.c (.lit (.bool true)))))))
 (.leaf [] (.w (.c (.lit (.bool false))))))
 (.leaf [] (.w (.c (.lit (.bool false))))))
 (.nb [.call 17 [(.ivar .u32 5)] 13 [(.ri .i64), (.ri .i64), (.ri .i64), (.ri .i64), (.ri .i32), .rb]] 18
 (.nb [.call 11 [(.ivar .i64 13), (.ivar .i64 14), (.ivar .i64 15), (.ivar .i64 16), (.ivar .i32 17)] 19 [(.ri .u32), (.ri .i64)], .setB0 21 (.cmp .eql (.var 20) (.lit 0))] 21
 (.leaf [.setB0 22 (.cmp .eql (.var 19) (.var 5))] (.w (.c (.bvar 22 false))))
 (.leaf [] (.w (.c (.lit (.bool false))))))
 (.leaf [] (.w (.c (.lit (.bool true)))))))
 (.leaf [] (.w (.c (.lit (.bool false))))))
 (.leaf [] (.w (.c (.lit (.bool false))))))
theorem RvBackT_ok : LT.Ok RvBackR RvBackT [] [] :=
 (LT.ok_nb (LT.ok_nb (LT.ok_nb (LT.ok_nb (LT.ok_nb (LT.ok_nb (LT.ok_leaf (by kernel_rfl))
 (LT.ok_nb (LT.ok_nb (LT.ok_leaf (by kernel_rfl))
 (LT.ok_leaf (by kernel_rfl)))
 (LT.ok_leaf (by kernel_rfl))))
 (LT.ok_leaf (by kernel_rfl)))
 (LT.ok_leaf (by kernel_rfl)))
 (LT.ok_nb (LT.ok_nb (LT.ok_leaf (by kernel_rfl))
 (LT.ok_leaf (by kernel_rfl)))
 (LT.ok_leaf (by kernel_rfl))))
 (LT.ok_leaf (by kernel_rfl)))
 (LT.ok_leaf (by kernel_rfl)))
theorem RvBack_ok : SumT Tryd.prog phi 5 RvBackS := treeSum (t := RvBackT) (lf := 1000) (d := 50) RvBackC_ok (fun xs w => Tryd.call5 xs w)
 RvBackT_ok
 (by kernel_rfl)
 (by
  intro a0 h0 a1 h1 a2 h2 a3 h3 a4 h4 a5 h5
  exact ⟨obl_nil (by kernel_rfl), by kernel_rfl⟩)
end Go.Proofs.YtahhfjmgdalfpaaDoor
