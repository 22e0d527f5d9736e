/-
  ferryman/ferrymanlaw2.FloatWholes: all its ways, printed by a program of this repo.
-/
import Derived.Test.YtdchnlmclngjmaaDoorBase
import Derived.Test.YtdchnlmclngjmaaDoorHand
import Derived.Test.YtdchnlmclngjmaaDoorVfAbs
import Derived.Test.YtdchnlmclngjmaaDoorVlwKnown
import Derived.Test.YtdchnlmclngjmaaDoorHandW
namespace Go.Proofs.YtdchnlmclngjmaaDoor
open Go.Sx
set_option linter.unusedVariables false
set_option linter.unusedSimpArgs false
set_option maxRecDepth 100000
set_option maxHeartbeats 20000000
noncomputable def FloatWholesC : Ctx := ⟨tys, fns, (((((((((.e : Tr Sum).set 16 fAddS).set 18 fSubS).set 19 fMulS).set 20 fDivS).set 14 fCmpS).set 22 fAbsS).set 25 wholeS).set 11 lwKnownS)⟩
theorem FloatWholesC_ok : CtxT Tryd.prog phi FloatWholesC := ⟨tys_ok, fns_ok, ((((((((SumsT.e.set fAdd_ok).set fSub_ok).set fMul_ok).set fDiv_ok).set fCmp_ok).set fAbs_ok).set whole_ok).set lwKnown_ok), mix_ok⟩
noncomputable def FloatWholesR (ds : List D) : R (SV × St) := fnRun FloatWholesC 1000 50 9 (symArgs FloatWholesS.args 0) (st0 ds 2)
noncomputable def FloatWholesT : LT :=
 (.nb [.call 11 [] 2 [.rb]] 2
 (.nb [.setI0 3 (.conv .i64 (.var 0)), .call 25 [(.ivar .i64 3)] 4 [(.ri .u64)], .setI0 5 (.conv .i64 (.var 1)), .call 25 [(.ivar .i64 5)] 6 [(.ri .u64)], .call 14 [(.ivar .u64 4), (.ivar .u64 6)] 7 [.rb, .rb, .rb], .call 16 [(.ivar .u64 4), (.ivar .u64 6)] 10 [(.ri .u64)], .setI0 11 (.conv .i64 (.var 0)), .setI0 12 (.conv .i64 (.var 1)), .setI0 13 (.bin .add .i64 (.var 11) (.var 12)), .call 25 [(.ivar .i64 13)] 14 [(.ri .u64)], .setB0 15 (.cmp .eql (.var 10) (.var 14))] 15
 (.nb [.call 18 [(.ivar .u64 4), (.ivar .u64 6)] 16 [(.ri .u64)], .setI0 17 (.conv .i64 (.var 0)), .setI0 18 (.conv .i64 (.var 1)), .setI0 19 (.bin .sub .i64 (.var 17) (.var 18)), .call 25 [(.ivar .i64 19)] 20 [(.ri .u64)], .setB0 21 (.cmp .eql (.var 16) (.var 20))] 21
 (.nb [.call 19 [(.ivar .u64 4), (.ivar .u64 6)] 22 [(.ri .u64)], .call 22 [(.ivar .u64 22)] 23 [(.ri .u64)], .setI0 24 (.conv .i64 (.var 0)), .setI0 25 (.conv .i64 (.var 1)), .setI0 26 (.bin .mul .i64 (.var 24) (.var 25)), .call 25 [(.ivar .i64 26)] 27 [(.ri .u64)], .call 22 [(.ivar .u64 27)] 28 [(.ri .u64)], .setB0 29 (.cmp .eql (.var 23) (.var 28))] 29
 (.nb [.setB0 30 (.cmp .eql (.var 0) (.var 1)), .setB0 31 (.all [(.bb (.var 7 false) (.var 30 false))])] 31
 (.nb [.setB0 32 (.cmp .lss (.var 0) (.var 1)), .setB0 33 (.all [(.bb (.var 9 false) (.var 32 false))])] 33
 (.nb [.setB0 34 (.cmp .eql (.var 1) (.lit 0))] 34
 (.leaf [] (.w (.c (.lit (.bool true)))))
 (.nb [.call 19 [(.ivar .u64 4), (.ivar .u64 6)] 35 [(.ri .u64)], .call 20 [(.ivar .u64 35), (.ivar .u64 6)] 36 [(.ri .u64)], .setB0 37 (.cmp .eql (.var 36) (.var 4))] 37
 (.leaf [] (.w (.c (.lit (.bool true)))))
 (.leaf [.setB0 38 (.cmp .eql (.var 0) (.lit 0))] (.w (.c (.bvar 38 false))))))
 (.leaf [] (.w (.c (.lit (.bool false))))))
 (.leaf [] (.w (.c (.lit (.bool false))))))
 (.leaf [] (.w (.c (.lit (.bool false))))))
 (.leaf [] (.w (.c (.lit (.bool false))))))
 (.leaf [] (.w (.c (.lit (.bool false))))))
 (.leaf [] (.w (.c (.lit (.bool false))))))
theorem FloatWholesT_ok : LT.Ok FloatWholesR FloatWholesT [] [] :=
 (LT.ok_nb (LT.ok_nb (LT.ok_nb (LT.ok_nb (LT.ok_nb (LT.ok_nb (LT.ok_nb (LT.ok_leaf (by kernel_rfl))
 (LT.ok_nb (LT.ok_leaf (by kernel_rfl))
 (LT.ok_leaf (by kernel_rfl))))
 (LT.ok_leaf (by kernel_rfl)))
 (LT.ok_leaf (by kernel_rfl)))
 (LT.ok_leaf (by kernel_rfl)))
 (LT.ok_leaf (by kernel_rfl)))
 (LT.ok_leaf (by kernel_rfl)))
 (LT.ok_leaf (by kernel_rfl)))
theorem FloatWholes_ok : SumT Tryd.prog phi 9 FloatWholesS := treeSum (t := FloatWholesT) (lf := 1000) (d := 50) FloatWholesC_ok (fun xs w => Tryd.call9 xs w)
 FloatWholesT_ok
 (by kernel_rfl)
 (by
  intro a0 h0 a1 h1
  exact ⟨obl_nil (by kernel_rfl), by kernel_rfl⟩)
end Go.Proofs.YtdchnlmclngjmaaDoor
