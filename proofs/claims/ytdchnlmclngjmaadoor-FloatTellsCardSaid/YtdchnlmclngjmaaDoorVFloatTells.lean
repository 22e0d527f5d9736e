/-
  ferryman/ferrymanlaw2.FloatTells: all its ways, printed by a program of this repo.
-/
import Derived.Test.YtdchnlmclngjmaaDoorBase
import Derived.Test.YtdchnlmclngjmaaDoorHand
import Derived.Test.YtdchnlmclngjmaaDoorVfNeg
import Derived.Test.YtdchnlmclngjmaaDoorVfAbs
import Derived.Test.YtdchnlmclngjmaaDoorVfKind
import Derived.Test.YtdchnlmclngjmaaDoorVrKind
import Derived.Test.YtdchnlmclngjmaaDoorVfText
import Derived.Test.YtdchnlmclngjmaaDoorVrText
import Derived.Test.YtdchnlmclngjmaaDoorVlwKnown
namespace Go.Proofs.YtdchnlmclngjmaaDoor
open Go.Sx
set_option linter.unusedVariables false
set_option linter.unusedSimpArgs false
set_option maxRecDepth 100000
set_option maxHeartbeats 20000000
noncomputable def FloatTellsC : Ctx := ⟨tys, fns, (((((((((((((((.e : Tr Sum).set 16 fAddS).set 18 fSubS).set 19 fMulS).set 20 fDivS).set 14 fCmpS).set 17 rDoS).set 15 rCmpS).set 21 fNegS).set 22 fAbsS).set 12 fKindS).set 23 rKindS).set 13 fTextS).set 24 rTextS).set 11 lwKnownS)⟩
theorem FloatTellsC_ok : CtxT Tryd.prog phi FloatTellsC := ⟨tys_ok, fns_ok, ((((((((((((((SumsT.e.set fAdd_ok).set fSub_ok).set fMul_ok).set fDiv_ok).set fCmp_ok).set rDo_ok).set rCmp_ok).set fNeg_ok).set fAbs_ok).set fKind_ok).set rKind_ok).set fText_ok).set rText_ok).set lwKnown_ok), mix_ok⟩
noncomputable def FloatTellsR (ds : List D) : R (SV × St) := fnRun FloatTellsC 1000 50 4 (symArgs FloatTellsS.args 0) (st0 ds 2)
noncomputable def FloatTellsT : LT :=
 (.nb [.call 11 [] 2 [.rb]] 2
 (.nb [.call 14 [(.ivar .u64 0), (.ivar .u64 1)] 3 [.rb, .rb, .rb], .call 15 [(.ivar .u64 0), (.ivar .u64 1)] 6 [.rb, .rb, .rb], .call 16 [(.ivar .u64 0), (.ivar .u64 1)] 9 [(.ri .u64)], .call 17 [(.lit (.int .i64 0)), (.ivar .u64 0), (.ivar .u64 1)] 10 [(.ri .u64)], .setB0 11 (.cmp .eql (.var 9) (.var 10))] 11
 (.nb [.call 18 [(.ivar .u64 0), (.ivar .u64 1)] 12 [(.ri .u64)], .call 17 [(.lit (.int .i64 1)), (.ivar .u64 0), (.ivar .u64 1)] 13 [(.ri .u64)], .setB0 14 (.cmp .eql (.var 12) (.var 13))] 14
 (.nb [.call 19 [(.ivar .u64 0), (.ivar .u64 1)] 15 [(.ri .u64)], .call 17 [(.lit (.int .i64 2)), (.ivar .u64 0), (.ivar .u64 1)] 16 [(.ri .u64)], .setB0 17 (.cmp .eql (.var 15) (.var 16))] 17
 (.nb [.call 20 [(.ivar .u64 0), (.ivar .u64 1)] 18 [(.ri .u64)], .call 17 [(.lit (.int .i64 3)), (.ivar .u64 0), (.ivar .u64 1)] 19 [(.ri .u64)], .setB0 20 (.cmp .eql (.var 18) (.var 19))] 20
 (.nb [.call 21 [(.ivar .u64 0)] 21 [(.ri .u64)], .setI0 22 (.bin .xor .u64 (.var 0) (.lit 9223372036854775808)), .setB0 23 (.cmp .eql (.var 21) (.var 22))] 23
 (.nb [.call 22 [(.ivar .u64 0)] 24 [(.ri .u64)], .setI0 25 (.bin .andNot .u64 (.var 0) (.lit 9223372036854775808)), .setB0 26 (.cmp .eql (.var 24) (.var 25))] 26
 (.nb [.setB0 27 (.all [(.bb (.var 3 false) (.var 6 false))])] 27
 (.nb [.setB0 28 (.all [(.bb (.var 4 false) (.var 7 false))])] 28
 (.nb [.setB0 29 (.all [(.bb (.var 5 false) (.var 8 false))])] 29
 (.nb [.call 12 [(.ivar .u64 0)] 30 [(.ri .i64)], .call 23 [(.ivar .u64 0)] 31 [(.ri .i64)], .setB0 32 (.cmp .eql (.var 30) (.var 31))] 32
 (.leaf [.call 13 [(.ivar .u64 0)] 33 [.rs], .call 24 [(.ivar .u64 0)] 34 [.rs], .setB0 35 (.all [(.ss (.var 33) (.var 34))])] (.w (.c (.bvar 35 false))))
 (.leaf [] (.w (.c (.lit (.bool false))))))
 (.leaf [] (.w (.c (.lit (.bool false))))))
 (.leaf [] (.w (.c (.lit (.bool false))))))
 (.leaf [] (.w (.c (.lit (.bool false))))))
 (.leaf [] (.w (.c (.lit (.bool false))))))
 (.leaf [] (.w (.c (.lit (.bool false))))))
 (.leaf [] (.w (.c (.lit (.bool false))))))
 (.leaf [] (.w (.c (.lit (.bool false))))))
 (.leaf [] (.w (.c (.lit (.bool false))))))
 (.leaf [] (.w (.c (.lit (.bool false))))))
 (.leaf [] (.w (.c (.lit (.bool false))))))
theorem FloatTellsT_ok : LT.Ok FloatTellsR FloatTellsT [] [] :=
 (LT.ok_nb (LT.ok_nb (LT.ok_nb (LT.ok_nb (LT.ok_nb (LT.ok_nb (LT.ok_nb (LT.ok_nb (LT.ok_nb (LT.ok_nb (LT.ok_nb (LT.ok_leaf (by kernel_rfl))
 (LT.ok_leaf (by kernel_rfl)))
 (LT.ok_leaf (by kernel_rfl)))
 (LT.ok_leaf (by kernel_rfl)))
 (LT.ok_leaf (by kernel_rfl)))
 (LT.ok_leaf (by kernel_rfl)))
 (LT.ok_leaf (by kernel_rfl)))
 (LT.ok_leaf (by kernel_rfl)))
 (LT.ok_leaf (by kernel_rfl)))
 (LT.ok_leaf (by kernel_rfl)))
 (LT.ok_leaf (by kernel_rfl)))
 (LT.ok_leaf (by kernel_rfl)))
theorem FloatTells_ok : SumT Tryd.prog phi 4 FloatTellsS := treeSum (t := FloatTellsT) (lf := 1000) (d := 50) FloatTellsC_ok (fun xs w => Tryd.call4 xs w)
 FloatTellsT_ok
 (by kernel_rfl)
 (by
  intro a0 h0 a1 h1
  exact ⟨obl_nil (by kernel_rfl), by kernel_rfl⟩)
end Go.Proofs.YtdchnlmclngjmaaDoor
