/-
  ferryman/ferrymanlaw2.FloatSmall: all its ways, printed by a program of this repo.
-/
import Derived.Test.YtdchnlmclngjmaaDoorBase
import Derived.Test.YtdchnlmclngjmaaDoorHand
import Derived.Test.YtdchnlmclngjmaaDoorVfKind
import Derived.Test.YtdchnlmclngjmaaDoorVlwKnown
namespace Go.Proofs.YtdchnlmclngjmaaDoor
open Go.Sx
set_option linter.unusedVariables false
set_option linter.unusedSimpArgs false
set_option maxRecDepth 100000
set_option maxHeartbeats 20000000
noncomputable def FloatSmallC : Ctx := ⟨tys, fns, ((((((.e : Tr Sum).set 16 fAddS).set 18 fSubS).set 19 fMulS).set 12 fKindS).set 11 lwKnownS)⟩
theorem FloatSmallC_ok : CtxT Tryd.prog phi FloatSmallC := ⟨tys_ok, fns_ok, (((((SumsT.e.set fAdd_ok).set fSub_ok).set fMul_ok).set fKind_ok).set lwKnown_ok), mix_ok⟩
noncomputable def FloatSmallR (ds : List D) : R (SV × St) := fnRun FloatSmallC 1000 50 10 (symArgs FloatSmallS.args 0) (st0 ds 3)
noncomputable def FloatSmallT : LT :=
 (.nb [.call 11 [] 3 [.rb]] 3
 (.nb [.setI0 4 (.conv .u64 (.var 0)), .setI0 5 (.conv .u64 (.var 1))] 2
 (.nb [.setI0 6 (.bin .or .u64 (.var 4) (.lit 9223372036854775808)), .setI0 7 (.bin .or .u64 (.var 5) (.lit 9223372036854775808)), .call 16 [(.ivar .u64 6), (.ivar .u64 7)] 8 [(.ri .u64)], .setI0 9 (.bin .add .u64 (.var 4) (.var 5)), .setI0 10 (.bin .or .u64 (.var 9) (.lit 9223372036854775808)), .setB0 11 (.cmp .eql (.var 8) (.var 10))] 11
 (.nb [.call 18 [(.ivar .u64 4), (.ivar .u64 4)] 12 [(.ri .u64)], .setB0 13 (.cmp .eql (.var 12) (.lit 0))] 13
 (.nb [.call 19 [(.lit (.int .u64 9223372036854775809)), (.lit (.int .u64 4602678819172646912))] 14 [(.ri .u64)], .setB0 15 (.cmp .eql (.var 14) (.lit 9223372036854775808))] 15
 (.nb [.setB0 16 (.cmp .eql (.var 4) (.lit 0))] 16
 (.leaf [.call 19 [(.ivar .u64 4), (.lit (.int .u64 0))] 17 [(.ri .u64)], .setB0 18 (.cmp .eql (.var 17) (.lit 0))] (.w (.c (.bvar 18 false))))
 (.nb [.setI0 17 (.bin .or .u64 (.var 4) (.lit 9223372036854775808)), .call 12 [(.ivar .u64 17)] 18 [(.ri .i64)], .setB0 19 (.cmp .eql (.var 18) (.lit 1))] 19
 (.leaf [.call 19 [(.ivar .u64 4), (.lit (.int .u64 0))] 20 [(.ri .u64)], .setB0 21 (.cmp .eql (.var 20) (.lit 0))] (.w (.c (.bvar 21 false))))
 (.leaf [] (.w (.c (.lit (.bool false)))))))
 (.leaf [] (.w (.c (.lit (.bool false))))))
 (.leaf [] (.w (.c (.lit (.bool false))))))
 (.leaf [] (.w (.c (.lit (.bool false))))))
 (.nb [.setI0 6 (.bin .or .u64 (.var 4) (.lit 0)), .setI0 7 (.bin .or .u64 (.var 5) (.lit 0)), .call 16 [(.ivar .u64 6), (.ivar .u64 7)] 8 [(.ri .u64)], .setI0 9 (.bin .add .u64 (.var 4) (.var 5)), .setI0 10 (.bin .or .u64 (.var 9) (.lit 0)), .setB0 11 (.cmp .eql (.var 8) (.var 10))] 11
 (.nb [.call 18 [(.ivar .u64 4), (.ivar .u64 4)] 12 [(.ri .u64)], .setB0 13 (.cmp .eql (.var 12) (.lit 0))] 13
 (.nb [.call 19 [(.lit (.int .u64 1)), (.lit (.int .u64 4602678819172646912))] 14 [(.ri .u64)], .setB0 15 (.cmp .eql (.var 14) (.lit 0))] 15
 (.nb [.setB0 16 (.cmp .eql (.var 4) (.lit 0))] 16
 (.leaf [.call 19 [(.ivar .u64 4), (.lit (.int .u64 0))] 17 [(.ri .u64)], .setB0 18 (.cmp .eql (.var 17) (.lit 0))] (.w (.c (.bvar 18 false))))
 (.nb [.setI0 17 (.bin .or .u64 (.var 4) (.lit 0)), .call 12 [(.ivar .u64 17)] 18 [(.ri .i64)], .setB0 19 (.cmp .eql (.var 18) (.lit 1))] 19
 (.leaf [.call 19 [(.ivar .u64 4), (.lit (.int .u64 0))] 20 [(.ri .u64)], .setB0 21 (.cmp .eql (.var 20) (.lit 0))] (.w (.c (.bvar 21 false))))
 (.leaf [] (.w (.c (.lit (.bool false)))))))
 (.leaf [] (.w (.c (.lit (.bool false))))))
 (.leaf [] (.w (.c (.lit (.bool false))))))
 (.leaf [] (.w (.c (.lit (.bool false)))))))
 (.leaf [] (.w (.c (.lit (.bool false))))))
theorem FloatSmallT_ok : LT.Ok FloatSmallR FloatSmallT [] [] :=
 (LT.ok_nb (LT.ok_nb (LT.ok_nb (LT.ok_nb (LT.ok_nb (LT.ok_nb (LT.ok_leaf (by kernel_rfl))
 (LT.ok_nb (LT.ok_leaf (by kernel_rfl))
 (LT.ok_leaf (by kernel_rfl))))
 (LT.ok_leaf (by kernel_rfl)))
 (LT.ok_leaf (by kernel_rfl)))
 (LT.ok_leaf (by kernel_rfl)))
 (LT.ok_nb (LT.ok_nb (LT.ok_nb (LT.ok_nb (LT.ok_leaf (by kernel_rfl))
 (LT.ok_nb (LT.ok_leaf (by kernel_rfl))
 (LT.ok_leaf (by kernel_rfl))))
 (LT.ok_leaf (by kernel_rfl)))
 (LT.ok_leaf (by kernel_rfl)))
 (LT.ok_leaf (by kernel_rfl))))
 (LT.ok_leaf (by kernel_rfl)))
theorem FloatSmall_ok : SumT Tryd.prog phi 10 FloatSmallS := treeSum (t := FloatSmallT) (lf := 1000) (d := 50) FloatSmallC_ok (fun xs w => Tryd.call10 xs w)
 FloatSmallT_ok
 (by kernel_rfl)
 (by
  intro a0 h0 a1 h1 a2
  exact ⟨obl_nil (by kernel_rfl), by kernel_rfl⟩)
end Go.Proofs.YtdchnlmclngjmaaDoor
