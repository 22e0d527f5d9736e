/-
  ferryman/ferrymanlaw2.FloatEdges: all its ways, printed by a program of this repo.
-/
import Derived.Test.YtdchnlmclngjmaaDoorBase
import Derived.Test.YtdchnlmclngjmaaDoorHand
import Derived.Test.YtdchnlmclngjmaaDoorVfKind
import Derived.Test.YtdchnlmclngjmaaDoorVlwKnown
namespace Go.Proofs.YtdchnlmclngjmaaDoor
open Go.Sx
set_option linter.unusedVariables false
set_option linter.unusedSimpArgs false
set_option maxRecDepth 100000
set_option maxHeartbeats 20000000
noncomputable def FloatEdgesC : Ctx := ⟨tys, fns, (((((((.e : Tr Sum).set 16 fAddS).set 18 fSubS).set 19 fMulS).set 20 fDivS).set 12 fKindS).set 11 lwKnownS)⟩
theorem FloatEdgesC_ok : CtxT Tryd.prog phi FloatEdgesC := ⟨tys_ok, fns_ok, ((((((SumsT.e.set fAdd_ok).set fSub_ok).set fMul_ok).set fDiv_ok).set fKind_ok).set lwKnown_ok), mix_ok⟩
noncomputable def FloatEdgesR (ds : List D) : R (SV × St) := fnRun FloatEdgesC 1000 50 6 (symArgs FloatEdgesS.args 0) (st0 ds 3)
noncomputable def FloatEdgesT0 : LT :=
 (.nb [.setI0 7 (.bin .shr .u64 (.var 0) (.lit 63)), .setB0 8 (.cmp .eql (.var 7) (.lit 1)), .setB0 9 (.all [(.bb (.var 8 false) (.lit true))])] 9
 (.nb [.setB0 10 (.all [(.bb (.var 8 false) (.lit true))])] 10
 (.nb [.setB0 11 (.all [(.bb (.var 8 false) (.lit true))])] 11
 (.nb [.setB0 12 (.all [(.bb (.var 8 false) (.lit true))])] 12
 (.nb [.call 16 [(.ivar .u64 0), (.lit (.int .u64 9223372036854775808))] 13 [(.ri .u64)], .setB0 14 (.cmp .eql (.var 13) (.var 0))] 14
 (.nb [.call 16 [(.ivar .u64 0), (.lit (.int .u64 18442240474082181120))] 15 [(.ri .u64)], .setB0 16 (.cmp .eql (.var 15) (.lit 18442240474082181120))] 16
 (.nb [.call 19 [(.ivar .u64 0), (.lit (.int .u64 9223372036854775808))] 17 [(.ri .u64)], .setB0 18 (.cmp .eql (.var 17) (.lit 0))] 18
 (.nb [.call 19 [(.ivar .u64 0), (.lit (.int .u64 18442240474082181120))] 19 [(.ri .u64)], .setB0 20 (.cmp .eql (.var 19) (.lit 9218868437227405312))] 20
 (.nb [.call 20 [(.ivar .u64 0), (.lit (.int .u64 9223372036854775808))] 21 [(.ri .u64)], .setB0 22 (.cmp .eql (.var 21) (.lit 9218868437227405312))] 22
 (.nb [.call 20 [(.ivar .u64 0), (.lit (.int .u64 18442240474082181120))] 23 [(.ri .u64)], .setB0 24 (.cmp .eql (.var 23) (.lit 0))] 24
 (.leaf [.call 18 [(.ivar .u64 0), (.ivar .u64 0)] 25 [(.ri .u64)], .setB0 26 (.cmp .eql (.var 25) (.lit 0))] (.w (.c (.bvar 26 false))))
 (.leaf [] (.w (.c (.lit (.bool false))))))
 (.leaf [] (.w (.c (.lit (.bool false))))))
 (.leaf [] (.w (.c (.lit (.bool false))))))
 (.leaf [] (.w (.c (.lit (.bool false))))))
 (.leaf [] (.w (.c (.lit (.bool false))))))
 (.leaf [] (.w (.c (.lit (.bool false))))))
 (.nb [.call 16 [(.ivar .u64 0), (.lit (.int .u64 9223372036854775808))] 13 [(.ri .u64)], .setB0 14 (.cmp .eql (.var 13) (.var 0))] 14
 (.nb [.call 16 [(.ivar .u64 0), (.lit (.int .u64 18442240474082181120))] 15 [(.ri .u64)], .setB0 16 (.cmp .eql (.var 15) (.lit 18442240474082181120))] 16
 (.nb [.call 19 [(.ivar .u64 0), (.lit (.int .u64 9223372036854775808))] 17 [(.ri .u64)], .setB0 18 (.cmp .eql (.var 17) (.lit 0))] 18
 (.nb [.call 19 [(.ivar .u64 0), (.lit (.int .u64 18442240474082181120))] 19 [(.ri .u64)], .setB0 20 (.cmp .eql (.var 19) (.lit 9218868437227405312))] 20
 (.nb [.call 20 [(.ivar .u64 0), (.lit (.int .u64 9223372036854775808))] 21 [(.ri .u64)], .setB0 22 (.cmp .eql (.var 21) (.lit 9218868437227405312))] 22
 (.nb [.call 20 [(.ivar .u64 0), (.lit (.int .u64 18442240474082181120))] 23 [(.ri .u64)], .setB0 24 (.cmp .eql (.var 23) (.lit 9223372036854775808))] 24
 (.leaf [.call 18 [(.ivar .u64 0), (.ivar .u64 0)] 25 [(.ri .u64)], .setB0 26 (.cmp .eql (.var 25) (.lit 0))] (.w (.c (.bvar 26 false))))
 (.leaf [] (.w (.c (.lit (.bool false))))))
 (.leaf [] (.w (.c (.lit (.bool false))))))
 (.leaf [] (.w (.c (.lit (.bool false))))))
 (.leaf [] (.w (.c (.lit (.bool false))))))
 (.leaf [] (.w (.c (.lit (.bool false))))))
 (.leaf [] (.w (.c (.lit (.bool false)))))))
 (.nb [.setB0 12 (.all [(.bb (.var 8 false) (.lit true))])] 12
 (.nb [.call 16 [(.ivar .u64 0), (.lit (.int .u64 9223372036854775808))] 13 [(.ri .u64)], .setB0 14 (.cmp .eql (.var 13) (.var 0))] 14
 (.nb [.call 16 [(.ivar .u64 0), (.lit (.int .u64 18442240474082181120))] 15 [(.ri .u64)], .setB0 16 (.cmp .eql (.var 15) (.lit 18442240474082181120))] 16
 (.nb [.call 19 [(.ivar .u64 0), (.lit (.int .u64 9223372036854775808))] 17 [(.ri .u64)], .setB0 18 (.cmp .eql (.var 17) (.lit 0))] 18
 (.nb [.call 19 [(.ivar .u64 0), (.lit (.int .u64 18442240474082181120))] 19 [(.ri .u64)], .setB0 20 (.cmp .eql (.var 19) (.lit 9218868437227405312))] 20
 (.nb [.call 20 [(.ivar .u64 0), (.lit (.int .u64 9223372036854775808))] 21 [(.ri .u64)], .setB0 22 (.cmp .eql (.var 21) (.lit 18442240474082181120))] 22
 (.nb [.call 20 [(.ivar .u64 0), (.lit (.int .u64 18442240474082181120))] 23 [(.ri .u64)], .setB0 24 (.cmp .eql (.var 23) (.lit 0))] 24
 (.leaf [.call 18 [(.ivar .u64 0), (.ivar .u64 0)] 25 [(.ri .u64)], .setB0 26 (.cmp .eql (.var 25) (.lit 0))] (.w (.c (.bvar 26 false))))
 (.leaf [] (.w (.c (.lit (.bool false))))))
 (.leaf [] (.w (.c (.lit (.bool false))))))
 (.leaf [] (.w (.c (.lit (.bool false))))))
 (.leaf [] (.w (.c (.lit (.bool false))))))
 (.leaf [] (.w (.c (.lit (.bool false))))))
 (.leaf [] (.w (.c (.lit (.bool false))))))
 (.nb [.call 16 [(.ivar .u64 0), (.lit (.int .u64 9223372036854775808))] 13 [(.ri .u64)], .setB0 14 (.cmp .eql (.var 13) (.var 0))] 14
 (.nb [.call 16 [(.ivar .u64 0), (.lit (.int .u64 18442240474082181120))] 15 [(.ri .u64)], .setB0 16 (.cmp .eql (.var 15) (.lit 18442240474082181120))] 16
 (.nb [.call 19 [(.ivar .u64 0), (.lit (.int .u64 9223372036854775808))] 17 [(.ri .u64)], .setB0 18 (.cmp .eql (.var 17) (.lit 0))] 18
 (.nb [.call 19 [(.ivar .u64 0), (.lit (.int .u64 18442240474082181120))] 19 [(.ri .u64)], .setB0 20 (.cmp .eql (.var 19) (.lit 9218868437227405312))] 20
 (.nb [.call 20 [(.ivar .u64 0), (.lit (.int .u64 9223372036854775808))] 21 [(.ri .u64)], .setB0 22 (.cmp .eql (.var 21) (.lit 18442240474082181120))] 22
 (.nb [.call 20 [(.ivar .u64 0), (.lit (.int .u64 18442240474082181120))] 23 [(.ri .u64)], .setB0 24 (.cmp .eql (.var 23) (.lit 9223372036854775808))] 24
 (.leaf [.call 18 [(.ivar .u64 0), (.ivar .u64 0)] 25 [(.ri .u64)], .setB0 26 (.cmp .eql (.var 25) (.lit 0))] (.w (.c (.bvar 26 false))))
 (.leaf [] (.w (.c (.lit (.bool false))))))
 (.leaf [] (.w (.c (.lit (.bool false))))))
 (.leaf [] (.w (.c (.lit (.bool false))))))
 (.leaf [] (.w (.c (.lit (.bool false))))))
 (.leaf [] (.w (.c (.lit (.bool false))))))
 (.leaf [] (.w (.c (.lit (.bool false))))))))
 (.nb [.setB0 11 (.all [(.bb (.var 8 false) (.lit true))])] 11
 (.nb [.setB0 12 (.all [(.bb (.var 8 false) (.lit true))])] 12
 (.nb [.call 16 [(.ivar .u64 0), (.lit (.int .u64 9223372036854775808))] 13 [(.ri .u64)], .setB0 14 (.cmp .eql (.var 13) (.var 0))] 14
 (.nb [.call 16 [(.ivar .u64 0), (.lit (.int .u64 18442240474082181120))] 15 [(.ri .u64)], .setB0 16 (.cmp .eql (.var 15) (.lit 18442240474082181120))] 16
 (.nb [.call 19 [(.ivar .u64 0), (.lit (.int .u64 9223372036854775808))] 17 [(.ri .u64)], .setB0 18 (.cmp .eql (.var 17) (.lit 0))] 18
 (.nb [.call 19 [(.ivar .u64 0), (.lit (.int .u64 18442240474082181120))] 19 [(.ri .u64)], .setB0 20 (.cmp .eql (.var 19) (.lit 18442240474082181120))] 20
 (.nb [.call 20 [(.ivar .u64 0), (.lit (.int .u64 9223372036854775808))] 21 [(.ri .u64)], .setB0 22 (.cmp .eql (.var 21) (.lit 9218868437227405312))] 22
 (.nb [.call 20 [(.ivar .u64 0), (.lit (.int .u64 18442240474082181120))] 23 [(.ri .u64)], .setB0 24 (.cmp .eql (.var 23) (.lit 0))] 24
 (.leaf [.call 18 [(.ivar .u64 0), (.ivar .u64 0)] 25 [(.ri .u64)], .setB0 26 (.cmp .eql (.var 25) (.lit 0))] (.w (.c (.bvar 26 false))))
 (.leaf [] (.w (.c (.lit (.bool false))))))
 (.leaf [] (.w (.c (.lit (.bool false))))))
 (.leaf [] (.w (.c (.lit (.bool false))))))
 (.leaf [] (.w (.c (.lit (.bool false))))))
 (.leaf [] (.w (.c (.lit (.bool false))))))
 (.leaf [] (.w (.c (.lit (.bool false))))))
 (.nb [.call 16 [(.ivar .u64 0), (.lit (.int .u64 9223372036854775808))] 13 [(.ri .u64)], .setB0 14 (.cmp .eql (.var 13) (.var 0))] 14
 (.nb [.call 16 [(.ivar .u64 0), (.lit (.int .u64 18442240474082181120))] 15 [(.ri .u64)], .setB0 16 (.cmp .eql (.var 15) (.lit 18442240474082181120))] 16
 (.nb [.call 19 [(.ivar .u64 0), (.lit (.int .u64 9223372036854775808))] 17 [(.ri .u64)], .setB0 18 (.cmp .eql (.var 17) (.lit 0))] 18
 (.nb [.call 19 [(.ivar .u64 0), (.lit (.int .u64 18442240474082181120))] 19 [(.ri .u64)], .setB0 20 (.cmp .eql (.var 19) (.lit 18442240474082181120))] 20
 (.nb [.call 20 [(.ivar .u64 0), (.lit (.int .u64 9223372036854775808))] 21 [(.ri .u64)], .setB0 22 (.cmp .eql (.var 21) (.lit 9218868437227405312))] 22
 (.nb [.call 20 [(.ivar .u64 0), (.lit (.int .u64 18442240474082181120))] 23 [(.ri .u64)], .setB0 24 (.cmp .eql (.var 23) (.lit 9223372036854775808))] 24
 (.leaf [.call 18 [(.ivar .u64 0), (.ivar .u64 0)] 25 [(.ri .u64)], .setB0 26 (.cmp .eql (.var 25) (.lit 0))] (.w (.c (.bvar 26 false))))
 (.leaf [] (.w (.c (.lit (.bool false))))))
 (.leaf [] (.w (.c (.lit (.bool false))))))
 (.leaf [] (.w (.c (.lit (.bool false))))))
 (.leaf [] (.w (.c (.lit (.bool false))))))
 (.leaf [] (.w (.c (.lit (.bool false))))))
 (.leaf [] (.w (.c (.lit (.bool false)))))))
 (.nb [.setB0 12 (.all [(.bb (.var 8 false) (.lit true))])] 12
 (.nb [.call 16 [(.ivar .u64 0), (.lit (.int .u64 9223372036854775808))] 13 [(.ri .u64)], .setB0 14 (.cmp .eql (.var 13) (.var 0))] 14
 (.nb [.call 16 [(.ivar .u64 0), (.lit (.int .u64 18442240474082181120))] 15 [(.ri .u64)], .setB0 16 (.cmp .eql (.var 15) (.lit 18442240474082181120))] 16
 (.nb [.call 19 [(.ivar .u64 0), (.lit (.int .u64 9223372036854775808))] 17 [(.ri .u64)], .setB0 18 (.cmp .eql (.var 17) (.lit 0))] 18
 (.nb [.call 19 [(.ivar .u64 0), (.lit (.int .u64 18442240474082181120))] 19 [(.ri .u64)], .setB0 20 (.cmp .eql (.var 19) (.lit 18442240474082181120))] 20
 (.nb [.call 20 [(.ivar .u64 0), (.lit (.int .u64 9223372036854775808))] 21 [(.ri .u64)], .setB0 22 (.cmp .eql (.var 21) (.lit 18442240474082181120))] 22
 (.nb [.call 20 [(.ivar .u64 0), (.lit (.int .u64 18442240474082181120))] 23 [(.ri .u64)], .setB0 24 (.cmp .eql (.var 23) (.lit 0))] 24
 (.leaf [.call 18 [(.ivar .u64 0), (.ivar .u64 0)] 25 [(.ri .u64)], .setB0 26 (.cmp .eql (.var 25) (.lit 0))] (.w (.c (.bvar 26 false))))
 (.leaf [] (.w (.c (.lit (.bool false))))))
 (.leaf [] (.w (.c (.lit (.bool false))))))
 (.leaf [] (.w (.c (.lit (.bool false))))))
 (.leaf [] (.w (.c (.lit (.bool false))))))
 (.leaf [] (.w (.c (.lit (.bool false))))))
 (.leaf [] (.w (.c (.lit (.bool false))))))
 (.nb [.call 16 [(.ivar .u64 0), (.lit (.int .u64 9223372036854775808))] 13 [(.ri .u64)], .setB0 14 (.cmp .eql (.var 13) (.var 0))] 14
 (.nb [.call 16 [(.ivar .u64 0), (.lit (.int .u64 18442240474082181120))] 15 [(.ri .u64)], .setB0 16 (.cmp .eql (.var 15) (.lit 18442240474082181120))] 16
 (.nb [.call 19 [(.ivar .u64 0), (.lit (.int .u64 9223372036854775808))] 17 [(.ri .u64)], .setB0 18 (.cmp .eql (.var 17) (.lit 0))] 18
 (.nb [.call 19 [(.ivar .u64 0), (.lit (.int .u64 18442240474082181120))] 19 [(.ri .u64)], .setB0 20 (.cmp .eql (.var 19) (.lit 18442240474082181120))] 20
 (.nb [.call 20 [(.ivar .u64 0), (.lit (.int .u64 9223372036854775808))] 21 [(.ri .u64)], .setB0 22 (.cmp .eql (.var 21) (.lit 18442240474082181120))] 22
 (.nb [.call 20 [(.ivar .u64 0), (.lit (.int .u64 18442240474082181120))] 23 [(.ri .u64)], .setB0 24 (.cmp .eql (.var 23) (.lit 9223372036854775808))] 24
 (.leaf [.call 18 [(.ivar .u64 0), (.ivar .u64 0)] 25 [(.ri .u64)], .setB0 26 (.cmp .eql (.var 25) (.lit 0))] (.w (.c (.bvar 26 false))))
 (.leaf [] (.w (.c (.lit (.bool false))))))
 (.leaf [] (.w (.c (.lit (.bool false))))))
 (.leaf [] (.w (.c (.lit (.bool false))))))
 (.leaf [] (.w (.c (.lit (.bool false))))))
 (.leaf [] (.w (.c (.lit (.bool false))))))
 (.leaf [] (.w (.c (.lit (.bool false)))))))))
 (.nb [.setB0 10 (.all [(.bb (.var 8 false) (.lit true))])] 10
 (.nb [.setB0 11 (.all [(.bb (.var 8 false) (.lit true))])] 11
 (.nb [.setB0 12 (.all [(.bb (.var 8 false) (.lit true))])] 12
 (.nb [.call 16 [(.ivar .u64 0), (.lit (.int .u64 9223372036854775808))] 13 [(.ri .u64)], .setB0 14 (.cmp .eql (.var 13) (.var 0))] 14
 (.nb [.call 16 [(.ivar .u64 0), (.lit (.int .u64 18442240474082181120))] 15 [(.ri .u64)], .setB0 16 (.cmp .eql (.var 15) (.lit 18442240474082181120))] 16
 (.nb [.call 19 [(.ivar .u64 0), (.lit (.int .u64 9223372036854775808))] 17 [(.ri .u64)], .setB0 18 (.cmp .eql (.var 17) (.lit 9223372036854775808))] 18
 (.nb [.call 19 [(.ivar .u64 0), (.lit (.int .u64 18442240474082181120))] 19 [(.ri .u64)], .setB0 20 (.cmp .eql (.var 19) (.lit 9218868437227405312))] 20
 (.nb [.call 20 [(.ivar .u64 0), (.lit (.int .u64 9223372036854775808))] 21 [(.ri .u64)], .setB0 22 (.cmp .eql (.var 21) (.lit 9218868437227405312))] 22
 (.nb [.call 20 [(.ivar .u64 0), (.lit (.int .u64 18442240474082181120))] 23 [(.ri .u64)], .setB0 24 (.cmp .eql (.var 23) (.lit 0))] 24
 (.leaf [.call 18 [(.ivar .u64 0), (.ivar .u64 0)] 25 [(.ri .u64)], .setB0 26 (.cmp .eql (.var 25) (.lit 0))] (.w (.c (.bvar 26 false))))
 (.leaf [] (.w (.c (.lit (.bool false))))))
 (.leaf [] (.w (.c (.lit (.bool false))))))
 (.leaf [] (.w (.c (.lit (.bool false))))))
 (.leaf [] (.w (.c (.lit (.bool false))))))
 (.leaf [] (.w (.c (.lit (.bool false))))))
 (.leaf [] (.w (.c (.lit (.bool false))))))
 (.nb [.call 16 [(.ivar .u64 0), (.lit (.int .u64 9223372036854775808))] 13 [(.ri .u64)], .setB0 14 (.cmp .eql (.var 13) (.var 0))] 14
 (.nb [.call 16 [(.ivar .u64 0), (.lit (.int .u64 18442240474082181120))] 15 [(.ri .u64)], .setB0 16 (.cmp .eql (.var 15) (.lit 18442240474082181120))] 16
 (.nb [.call 19 [(.ivar .u64 0), (.lit (.int .u64 9223372036854775808))] 17 [(.ri .u64)], .setB0 18 (.cmp .eql (.var 17) (.lit 9223372036854775808))] 18
 (.nb [.call 19 [(.ivar .u64 0), (.lit (.int .u64 18442240474082181120))] 19 [(.ri .u64)], .setB0 20 (.cmp .eql (.var 19) (.lit 9218868437227405312))] 20
 (.nb [.call 20 [(.ivar .u64 0), (.lit (.int .u64 9223372036854775808))] 21 [(.ri .u64)], .setB0 22 (.cmp .eql (.var 21) (.lit 9218868437227405312))] 22
 (.nb [.call 20 [(.ivar .u64 0), (.lit (.int .u64 18442240474082181120))] 23 [(.ri .u64)], .setB0 24 (.cmp .eql (.var 23) (.lit 9223372036854775808))] 24
 (.leaf [.call 18 [(.ivar .u64 0), (.ivar .u64 0)] 25 [(.ri .u64)], .setB0 26 (.cmp .eql (.var 25) (.lit 0))] (.w (.c (.bvar 26 false))))
 (.leaf [] (.w (.c (.lit (.bool false))))))
 (.leaf [] (.w (.c (.lit (.bool false))))))
 (.leaf [] (.w (.c (.lit (.bool false))))))
 (.leaf [] (.w (.c (.lit (.bool false))))))
 (.leaf [] (.w (.c (.lit (.bool false))))))
 (.leaf [] (.w (.c (.lit (.bool false)))))))
 (.nb [.setB0 12 (.all [(.bb (.var 8 false) (.lit true))])] 12
 (.nb [.call 16 [(.ivar .u64 0), (.lit (.int .u64 9223372036854775808))] 13 [(.ri .u64)], .setB0 14 (.cmp .eql (.var 13) (.var 0))] 14
 (.nb [.call 16 [(.ivar .u64 0), (.lit (.int .u64 18442240474082181120))] 15 [(.ri .u64)], .setB0 16 (.cmp .eql (.var 15) (.lit 18442240474082181120))] 16
 (.nb [.call 19 [(.ivar .u64 0), (.lit (.int .u64 9223372036854775808))] 17 [(.ri .u64)], .setB0 18 (.cmp .eql (.var 17) (.lit 9223372036854775808))] 18
 (.nb [.call 19 [(.ivar .u64 0), (.lit (.int .u64 18442240474082181120))] 19 [(.ri .u64)], .setB0 20 (.cmp .eql (.var 19) (.lit 9218868437227405312))] 20
 (.nb [.call 20 [(.ivar .u64 0), (.lit (.int .u64 9223372036854775808))] 21 [(.ri .u64)], .setB0 22 (.cmp .eql (.var 21) (.lit 18442240474082181120))] 22
 (.nb [.call 20 [(.ivar .u64 0), (.lit (.int .u64 18442240474082181120))] 23 [(.ri .u64)], .setB0 24 (.cmp .eql (.var 23) (.lit 0))] 24
 (.leaf [.call 18 [(.ivar .u64 0), (.ivar .u64 0)] 25 [(.ri .u64)], .setB0 26 (.cmp .eql (.var 25) (.lit 0))] (.w (.c (.bvar 26 false))))
 (.leaf [] (.w (.c (.lit (.bool false))))))
 (.leaf [] (.w (.c (.lit (.bool false))))))
 (.leaf [] (.w (.c (.lit (.bool false))))))
 (.leaf [] (.w (.c (.lit (.bool false))))))
 (.leaf [] (.w (.c (.lit (.bool false))))))
 (.leaf [] (.w (.c (.lit (.bool false))))))
 (.nb [.call 16 [(.ivar .u64 0), (.lit (.int .u64 9223372036854775808))] 13 [(.ri .u64)], .setB0 14 (.cmp .eql (.var 13) (.var 0))] 14
 (.nb [.call 16 [(.ivar .u64 0), (.lit (.int .u64 18442240474082181120))] 15 [(.ri .u64)], .setB0 16 (.cmp .eql (.var 15) (.lit 18442240474082181120))] 16
 (.nb [.call 19 [(.ivar .u64 0), (.lit (.int .u64 9223372036854775808))] 17 [(.ri .u64)], .setB0 18 (.cmp .eql (.var 17) (.lit 9223372036854775808))] 18
 (.nb [.call 19 [(.ivar .u64 0), (.lit (.int .u64 18442240474082181120))] 19 [(.ri .u64)], .setB0 20 (.cmp .eql (.var 19) (.lit 9218868437227405312))] 20
 (.nb [.call 20 [(.ivar .u64 0), (.lit (.int .u64 9223372036854775808))] 21 [(.ri .u64)], .setB0 22 (.cmp .eql (.var 21) (.lit 18442240474082181120))] 22
 (.nb [.call 20 [(.ivar .u64 0), (.lit (.int .u64 18442240474082181120))] 23 [(.ri .u64)], .setB0 24 (.cmp .eql (.var 23) (.lit 9223372036854775808))] 24
 (.leaf [.call 18 [(.ivar .u64 0), (.ivar .u64 0)] 25 [(.ri .u64)], .setB0 26 (.cmp .eql (.var 25) (.lit 0))] (.w (.c (.bvar 26 false))))
 (.leaf [] (.w (.c (.lit (.bool false))))))
 (.leaf [] (.w (.c (.lit (.bool false))))))
 (.leaf [] (.w (.c (.lit (.bool false))))))
 (.leaf [] (.w (.c (.lit (.bool false))))))
 (.leaf [] (.w (.c (.lit (.bool false))))))
 (.leaf [] (.w (.c (.lit (.bool false))))))))
 (.nb [.setB0 11 (.all [(.bb (.var 8 false) (.lit true))])] 11
 (.nb [.setB0 12 (.all [(.bb (.var 8 false) (.lit true))])] 12
 (.nb [.call 16 [(.ivar .u64 0), (.lit (.int .u64 9223372036854775808))] 13 [(.ri .u64)], .setB0 14 (.cmp .eql (.var 13) (.var 0))] 14
 (.nb [.call 16 [(.ivar .u64 0), (.lit (.int .u64 18442240474082181120))] 15 [(.ri .u64)], .setB0 16 (.cmp .eql (.var 15) (.lit 18442240474082181120))] 16
 (.nb [.call 19 [(.ivar .u64 0), (.lit (.int .u64 9223372036854775808))] 17 [(.ri .u64)], .setB0 18 (.cmp .eql (.var 17) (.lit 9223372036854775808))] 18
 (.nb [.call 19 [(.ivar .u64 0), (.lit (.int .u64 18442240474082181120))] 19 [(.ri .u64)], .setB0 20 (.cmp .eql (.var 19) (.lit 18442240474082181120))] 20
 (.nb [.call 20 [(.ivar .u64 0), (.lit (.int .u64 9223372036854775808))] 21 [(.ri .u64)], .setB0 22 (.cmp .eql (.var 21) (.lit 9218868437227405312))] 22
 (.nb [.call 20 [(.ivar .u64 0), (.lit (.int .u64 18442240474082181120))] 23 [(.ri .u64)], .setB0 24 (.cmp .eql (.var 23) (.lit 0))] 24
 (.leaf [.call 18 [(.ivar .u64 0), (.ivar .u64 0)] 25 [(.ri .u64)], .setB0 26 (.cmp .eql (.var 25) (.lit 0))] (.w (.c (.bvar 26 false))))
 (.leaf [] (.w (.c (.lit (.bool false))))))
 (.leaf [] (.w (.c (.lit (.bool false))))))
 (.leaf [] (.w (.c (.lit (.bool false))))))
 (.leaf [] (.w (.c (.lit (.bool false))))))
 (.leaf [] (.w (.c (.lit (.bool false))))))
 (.leaf [] (.w (.c (.lit (.bool false))))))
 (.nb [.call 16 [(.ivar .u64 0), (.lit (.int .u64 9223372036854775808))] 13 [(.ri .u64)], .setB0 14 (.cmp .eql (.var 13) (.var 0))] 14
 (.nb [.call 16 [(.ivar .u64 0), (.lit (.int .u64 18442240474082181120))] 15 [(.ri .u64)], .setB0 16 (.cmp .eql (.var 15) (.lit 18442240474082181120))] 16
 (.nb [.call 19 [(.ivar .u64 0), (.lit (.int .u64 9223372036854775808))] 17 [(.ri .u64)], .setB0 18 (.cmp .eql (.var 17) (.lit 9223372036854775808))] 18
 (.nb [.call 19 [(.ivar .u64 0), (.lit (.int .u64 18442240474082181120))] 19 [(.ri .u64)], .setB0 20 (.cmp .eql (.var 19) (.lit 18442240474082181120))] 20
 (.nb [.call 20 [(.ivar .u64 0), (.lit (.int .u64 9223372036854775808))] 21 [(.ri .u64)], .setB0 22 (.cmp .eql (.var 21) (.lit 9218868437227405312))] 22
 (.nb [.call 20 [(.ivar .u64 0), (.lit (.int .u64 18442240474082181120))] 23 [(.ri .u64)], .setB0 24 (.cmp .eql (.var 23) (.lit 9223372036854775808))] 24
 (.leaf [.call 18 [(.ivar .u64 0), (.ivar .u64 0)] 25 [(.ri .u64)], .setB0 26 (.cmp .eql (.var 25) (.lit 0))] (.w (.c (.bvar 26 false))))
 (.leaf [] (.w (.c (.lit (.bool false))))))
 (.leaf [] (.w (.c (.lit (.bool false))))))
 (.leaf [] (.w (.c (.lit (.bool false))))))
 (.leaf [] (.w (.c (.lit (.bool false))))))
 (.leaf [] (.w (.c (.lit (.bool false))))))
 (.leaf [] (.w (.c (.lit (.bool false)))))))
 (.nb [.setB0 12 (.all [(.bb (.var 8 false) (.lit true))])] 12
 (.nb [.call 16 [(.ivar .u64 0), (.lit (.int .u64 9223372036854775808))] 13 [(.ri .u64)], .setB0 14 (.cmp .eql (.var 13) (.var 0))] 14
 (.nb [.call 16 [(.ivar .u64 0), (.lit (.int .u64 18442240474082181120))] 15 [(.ri .u64)], .setB0 16 (.cmp .eql (.var 15) (.lit 18442240474082181120))] 16
 (.nb [.call 19 [(.ivar .u64 0), (.lit (.int .u64 9223372036854775808))] 17 [(.ri .u64)], .setB0 18 (.cmp .eql (.var 17) (.lit 9223372036854775808))] 18
 (.nb [.call 19 [(.ivar .u64 0), (.lit (.int .u64 18442240474082181120))] 19 [(.ri .u64)], .setB0 20 (.cmp .eql (.var 19) (.lit 18442240474082181120))] 20
 (.nb [.call 20 [(.ivar .u64 0), (.lit (.int .u64 9223372036854775808))] 21 [(.ri .u64)], .setB0 22 (.cmp .eql (.var 21) (.lit 18442240474082181120))] 22
 (.nb [.call 20 [(.ivar .u64 0), (.lit (.int .u64 18442240474082181120))] 23 [(.ri .u64)], .setB0 24 (.cmp .eql (.var 23) (.lit 0))] 24
 (.leaf [.call 18 [(.ivar .u64 0), (.ivar .u64 0)] 25 [(.ri .u64)], .setB0 26 (.cmp .eql (.var 25) (.lit 0))] (.w (.c (.bvar 26 false))))
 (.leaf [] (.w (.c (.lit (.bool false))))))
 (.leaf [] (.w (.c (.lit (.bool false))))))
 (.leaf [] (.w (.c (.lit (.bool false))))))
 (.leaf [] (.w (.c (.lit (.bool false))))))
 (.leaf [] (.w (.c (.lit (.bool false))))))
 (.leaf [] (.w (.c (.lit (.bool false))))))
 (.nb [.call 16 [(.ivar .u64 0), (.lit (.int .u64 9223372036854775808))] 13 [(.ri .u64)], .setB0 14 (.cmp .eql (.var 13) (.var 0))] 14
 (.nb [.call 16 [(.ivar .u64 0), (.lit (.int .u64 18442240474082181120))] 15 [(.ri .u64)], .setB0 16 (.cmp .eql (.var 15) (.lit 18442240474082181120))] 16
 (.nb [.call 19 [(.ivar .u64 0), (.lit (.int .u64 9223372036854775808))] 17 [(.ri .u64)], .setB0 18 (.cmp .eql (.var 17) (.lit 9223372036854775808))] 18
 (.nb [.call 19 [(.ivar .u64 0), (.lit (.int .u64 18442240474082181120))] 19 [(.ri .u64)], .setB0 20 (.cmp .eql (.var 19) (.lit 18442240474082181120))] 20
 (.nb [.call 20 [(.ivar .u64 0), (.lit (.int .u64 9223372036854775808))] 21 [(.ri .u64)], .setB0 22 (.cmp .eql (.var 21) (.lit 18442240474082181120))] 22
 (.nb [.call 20 [(.ivar .u64 0), (.lit (.int .u64 18442240474082181120))] 23 [(.ri .u64)], .setB0 24 (.cmp .eql (.var 23) (.lit 9223372036854775808))] 24
 (.leaf [.call 18 [(.ivar .u64 0), (.ivar .u64 0)] 25 [(.ri .u64)], .setB0 26 (.cmp .eql (.var 25) (.lit 0))] (.w (.c (.bvar 26 false))))
 (.leaf [] (.w (.c (.lit (.bool false))))))
 (.leaf [] (.w (.c (.lit (.bool false))))))
 (.leaf [] (.w (.c (.lit (.bool false))))))
 (.leaf [] (.w (.c (.lit (.bool false))))))
 (.leaf [] (.w (.c (.lit (.bool false))))))
 (.leaf [] (.w (.c (.lit (.bool false))))))))))
theorem FloatEdgesT0_ok : LT.Ok FloatEdgesR FloatEdgesT0 [.db false, .db true, .db true, .db true, .db true] [.decB 6 false, .setB0 6 (.cmp .neq (.var 4) (.lit 2)), .decB 5 true, .setB0 5 (.cmp .neq (.var 4) (.lit 1)), .call 12 [(.ivar .u64 0)] 4 [(.ri .i64)], .decB 2 true, .decB 1 true, .decB 3 true, .call 11 [] 3 [.rb]] :=
 (LT.ok_nb (LT.ok_nb (LT.ok_nb (LT.ok_nb (LT.ok_nb (LT.ok_nb (LT.ok_nb (LT.ok_nb (LT.ok_nb (LT.ok_nb (LT.ok_leaf (by kernel_rfl))
 (LT.ok_leaf (by kernel_rfl)))
 (LT.ok_leaf (by kernel_rfl)))
 (LT.ok_leaf (by kernel_rfl)))
 (LT.ok_leaf (by kernel_rfl)))
 (LT.ok_leaf (by kernel_rfl)))
 (LT.ok_leaf (by kernel_rfl)))
 (LT.ok_nb (LT.ok_nb (LT.ok_nb (LT.ok_nb (LT.ok_nb (LT.ok_nb (LT.ok_leaf (by kernel_rfl))
 (LT.ok_leaf (by kernel_rfl)))
 (LT.ok_leaf (by kernel_rfl)))
 (LT.ok_leaf (by kernel_rfl)))
 (LT.ok_leaf (by kernel_rfl)))
 (LT.ok_leaf (by kernel_rfl)))
 (LT.ok_leaf (by kernel_rfl))))
 (LT.ok_nb (LT.ok_nb (LT.ok_nb (LT.ok_nb (LT.ok_nb (LT.ok_nb (LT.ok_nb (LT.ok_leaf (by kernel_rfl))
 (LT.ok_leaf (by kernel_rfl)))
 (LT.ok_leaf (by kernel_rfl)))
 (LT.ok_leaf (by kernel_rfl)))
 (LT.ok_leaf (by kernel_rfl)))
 (LT.ok_leaf (by kernel_rfl)))
 (LT.ok_leaf (by kernel_rfl)))
 (LT.ok_nb (LT.ok_nb (LT.ok_nb (LT.ok_nb (LT.ok_nb (LT.ok_nb (LT.ok_leaf (by kernel_rfl))
 (LT.ok_leaf (by kernel_rfl)))
 (LT.ok_leaf (by kernel_rfl)))
 (LT.ok_leaf (by kernel_rfl)))
 (LT.ok_leaf (by kernel_rfl)))
 (LT.ok_leaf (by kernel_rfl)))
 (LT.ok_leaf (by kernel_rfl)))))
 (LT.ok_nb (LT.ok_nb (LT.ok_nb (LT.ok_nb (LT.ok_nb (LT.ok_nb (LT.ok_nb (LT.ok_nb (LT.ok_leaf (by kernel_rfl))
 (LT.ok_leaf (by kernel_rfl)))
 (LT.ok_leaf (by kernel_rfl)))
 (LT.ok_leaf (by kernel_rfl)))
 (LT.ok_leaf (by kernel_rfl)))
 (LT.ok_leaf (by kernel_rfl)))
 (LT.ok_leaf (by kernel_rfl)))
 (LT.ok_nb (LT.ok_nb (LT.ok_nb (LT.ok_nb (LT.ok_nb (LT.ok_nb (LT.ok_leaf (by kernel_rfl))
 (LT.ok_leaf (by kernel_rfl)))
 (LT.ok_leaf (by kernel_rfl)))
 (LT.ok_leaf (by kernel_rfl)))
 (LT.ok_leaf (by kernel_rfl)))
 (LT.ok_leaf (by kernel_rfl)))
 (LT.ok_leaf (by kernel_rfl))))
 (LT.ok_nb (LT.ok_nb (LT.ok_nb (LT.ok_nb (LT.ok_nb (LT.ok_nb (LT.ok_nb (LT.ok_leaf (by kernel_rfl))
 (LT.ok_leaf (by kernel_rfl)))
 (LT.ok_leaf (by kernel_rfl)))
 (LT.ok_leaf (by kernel_rfl)))
 (LT.ok_leaf (by kernel_rfl)))
 (LT.ok_leaf (by kernel_rfl)))
 (LT.ok_leaf (by kernel_rfl)))
 (LT.ok_nb (LT.ok_nb (LT.ok_nb (LT.ok_nb (LT.ok_nb (LT.ok_nb (LT.ok_leaf (by kernel_rfl))
 (LT.ok_leaf (by kernel_rfl)))
 (LT.ok_leaf (by kernel_rfl)))
 (LT.ok_leaf (by kernel_rfl)))
 (LT.ok_leaf (by kernel_rfl)))
 (LT.ok_leaf (by kernel_rfl)))
 (LT.ok_leaf (by kernel_rfl))))))
 (LT.ok_nb (LT.ok_nb (LT.ok_nb (LT.ok_nb (LT.ok_nb (LT.ok_nb (LT.ok_nb (LT.ok_nb (LT.ok_nb (LT.ok_leaf (by kernel_rfl))
 (LT.ok_leaf (by kernel_rfl)))
 (LT.ok_leaf (by kernel_rfl)))
 (LT.ok_leaf (by kernel_rfl)))
 (LT.ok_leaf (by kernel_rfl)))
 (LT.ok_leaf (by kernel_rfl)))
 (LT.ok_leaf (by kernel_rfl)))
 (LT.ok_nb (LT.ok_nb (LT.ok_nb (LT.ok_nb (LT.ok_nb (LT.ok_nb (LT.ok_leaf (by kernel_rfl))
 (LT.ok_leaf (by kernel_rfl)))
 (LT.ok_leaf (by kernel_rfl)))
 (LT.ok_leaf (by kernel_rfl)))
 (LT.ok_leaf (by kernel_rfl)))
 (LT.ok_leaf (by kernel_rfl)))
 (LT.ok_leaf (by kernel_rfl))))
 (LT.ok_nb (LT.ok_nb (LT.ok_nb (LT.ok_nb (LT.ok_nb (LT.ok_nb (LT.ok_nb (LT.ok_leaf (by kernel_rfl))
 (LT.ok_leaf (by kernel_rfl)))
 (LT.ok_leaf (by kernel_rfl)))
 (LT.ok_leaf (by kernel_rfl)))
 (LT.ok_leaf (by kernel_rfl)))
 (LT.ok_leaf (by kernel_rfl)))
 (LT.ok_leaf (by kernel_rfl)))
 (LT.ok_nb (LT.ok_nb (LT.ok_nb (LT.ok_nb (LT.ok_nb (LT.ok_nb (LT.ok_leaf (by kernel_rfl))
 (LT.ok_leaf (by kernel_rfl)))
 (LT.ok_leaf (by kernel_rfl)))
 (LT.ok_leaf (by kernel_rfl)))
 (LT.ok_leaf (by kernel_rfl)))
 (LT.ok_leaf (by kernel_rfl)))
 (LT.ok_leaf (by kernel_rfl)))))
 (LT.ok_nb (LT.ok_nb (LT.ok_nb (LT.ok_nb (LT.ok_nb (LT.ok_nb (LT.ok_nb (LT.ok_nb (LT.ok_leaf (by kernel_rfl))
 (LT.ok_leaf (by kernel_rfl)))
 (LT.ok_leaf (by kernel_rfl)))
 (LT.ok_leaf (by kernel_rfl)))
 (LT.ok_leaf (by kernel_rfl)))
 (LT.ok_leaf (by kernel_rfl)))
 (LT.ok_leaf (by kernel_rfl)))
 (LT.ok_nb (LT.ok_nb (LT.ok_nb (LT.ok_nb (LT.ok_nb (LT.ok_nb (LT.ok_leaf (by kernel_rfl))
 (LT.ok_leaf (by kernel_rfl)))
 (LT.ok_leaf (by kernel_rfl)))
 (LT.ok_leaf (by kernel_rfl)))
 (LT.ok_leaf (by kernel_rfl)))
 (LT.ok_leaf (by kernel_rfl)))
 (LT.ok_leaf (by kernel_rfl))))
 (LT.ok_nb (LT.ok_nb (LT.ok_nb (LT.ok_nb (LT.ok_nb (LT.ok_nb (LT.ok_nb (LT.ok_leaf (by kernel_rfl))
 (LT.ok_leaf (by kernel_rfl)))
 (LT.ok_leaf (by kernel_rfl)))
 (LT.ok_leaf (by kernel_rfl)))
 (LT.ok_leaf (by kernel_rfl)))
 (LT.ok_leaf (by kernel_rfl)))
 (LT.ok_leaf (by kernel_rfl)))
 (LT.ok_nb (LT.ok_nb (LT.ok_nb (LT.ok_nb (LT.ok_nb (LT.ok_nb (LT.ok_leaf (by kernel_rfl))
 (LT.ok_leaf (by kernel_rfl)))
 (LT.ok_leaf (by kernel_rfl)))
 (LT.ok_leaf (by kernel_rfl)))
 (LT.ok_leaf (by kernel_rfl)))
 (LT.ok_leaf (by kernel_rfl)))
 (LT.ok_leaf (by kernel_rfl)))))))
noncomputable def FloatEdgesT1 : LT :=
 (.nb [.setI0 6 (.bin .shr .u64 (.var 0) (.lit 63)), .setB0 7 (.cmp .eql (.var 6) (.lit 1)), .setB0 8 (.all [(.bb (.var 7 false) (.lit true))])] 8
 (.nb [.setB0 9 (.all [(.bb (.var 7 false) (.lit true))])] 9
 (.nb [.setB0 10 (.all [(.bb (.var 7 false) (.lit true))])] 10
 (.nb [.setB0 11 (.all [(.bb (.var 7 false) (.lit true))])] 11
 (.nb [.call 16 [(.ivar .u64 0), (.lit (.int .u64 9223372036854775808))] 12 [(.ri .u64)], .setB0 13 (.cmp .eql (.var 12) (.var 0))] 13
 (.nb [.call 16 [(.ivar .u64 0), (.lit (.int .u64 18442240474082181120))] 14 [(.ri .u64)], .setB0 15 (.cmp .eql (.var 14) (.lit 18442240474082181120))] 15
 (.nb [.call 19 [(.ivar .u64 0), (.lit (.int .u64 9223372036854775808))] 16 [(.ri .u64)], .setB0 17 (.cmp .eql (.var 16) (.lit 0))] 17
 (.nb [.call 19 [(.ivar .u64 0), (.lit (.int .u64 18442240474082181120))] 18 [(.ri .u64)], .setB0 19 (.cmp .eql (.var 18) (.lit 9218868437227405312))] 19
 (.nb [.call 20 [(.ivar .u64 0), (.lit (.int .u64 9223372036854775808))] 20 [(.ri .u64)], .setB0 21 (.cmp .eql (.var 20) (.lit 9218868437227405312))] 21
 (.nb [.call 20 [(.ivar .u64 0), (.lit (.int .u64 18442240474082181120))] 22 [(.ri .u64)], .setB0 23 (.cmp .eql (.var 22) (.lit 0))] 23
 (.leaf [.call 18 [(.ivar .u64 0), (.ivar .u64 0)] 24 [(.ri .u64)], .setB0 25 (.cmp .eql (.var 24) (.lit 0))] (.w (.c (.bvar 25 false))))
 (.leaf [] (.w (.c (.lit (.bool false))))))
 (.leaf [] (.w (.c (.lit (.bool false))))))
 (.leaf [] (.w (.c (.lit (.bool false))))))
 (.leaf [] (.w (.c (.lit (.bool false))))))
 (.leaf [] (.w (.c (.lit (.bool false))))))
 (.leaf [] (.w (.c (.lit (.bool false))))))
 (.nb [.call 16 [(.ivar .u64 0), (.lit (.int .u64 9223372036854775808))] 12 [(.ri .u64)], .setB0 13 (.cmp .eql (.var 12) (.var 0))] 13
 (.nb [.call 16 [(.ivar .u64 0), (.lit (.int .u64 18442240474082181120))] 14 [(.ri .u64)], .setB0 15 (.cmp .eql (.var 14) (.lit 18442240474082181120))] 15
 (.nb [.call 19 [(.ivar .u64 0), (.lit (.int .u64 9223372036854775808))] 16 [(.ri .u64)], .setB0 17 (.cmp .eql (.var 16) (.lit 0))] 17
 (.nb [.call 19 [(.ivar .u64 0), (.lit (.int .u64 18442240474082181120))] 18 [(.ri .u64)], .setB0 19 (.cmp .eql (.var 18) (.lit 9218868437227405312))] 19
 (.nb [.call 20 [(.ivar .u64 0), (.lit (.int .u64 9223372036854775808))] 20 [(.ri .u64)], .setB0 21 (.cmp .eql (.var 20) (.lit 9218868437227405312))] 21
 (.nb [.call 20 [(.ivar .u64 0), (.lit (.int .u64 18442240474082181120))] 22 [(.ri .u64)], .setB0 23 (.cmp .eql (.var 22) (.lit 9223372036854775808))] 23
 (.leaf [.call 18 [(.ivar .u64 0), (.ivar .u64 0)] 24 [(.ri .u64)], .setB0 25 (.cmp .eql (.var 24) (.lit 0))] (.w (.c (.bvar 25 false))))
 (.leaf [] (.w (.c (.lit (.bool false))))))
 (.leaf [] (.w (.c (.lit (.bool false))))))
 (.leaf [] (.w (.c (.lit (.bool false))))))
 (.leaf [] (.w (.c (.lit (.bool false))))))
 (.leaf [] (.w (.c (.lit (.bool false))))))
 (.leaf [] (.w (.c (.lit (.bool false)))))))
 (.nb [.setB0 11 (.all [(.bb (.var 7 false) (.lit true))])] 11
 (.nb [.call 16 [(.ivar .u64 0), (.lit (.int .u64 9223372036854775808))] 12 [(.ri .u64)], .setB0 13 (.cmp .eql (.var 12) (.var 0))] 13
 (.nb [.call 16 [(.ivar .u64 0), (.lit (.int .u64 18442240474082181120))] 14 [(.ri .u64)], .setB0 15 (.cmp .eql (.var 14) (.lit 18442240474082181120))] 15
 (.nb [.call 19 [(.ivar .u64 0), (.lit (.int .u64 9223372036854775808))] 16 [(.ri .u64)], .setB0 17 (.cmp .eql (.var 16) (.lit 0))] 17
 (.nb [.call 19 [(.ivar .u64 0), (.lit (.int .u64 18442240474082181120))] 18 [(.ri .u64)], .setB0 19 (.cmp .eql (.var 18) (.lit 9218868437227405312))] 19
 (.nb [.call 20 [(.ivar .u64 0), (.lit (.int .u64 9223372036854775808))] 20 [(.ri .u64)], .setB0 21 (.cmp .eql (.var 20) (.lit 18442240474082181120))] 21
 (.nb [.call 20 [(.ivar .u64 0), (.lit (.int .u64 18442240474082181120))] 22 [(.ri .u64)], .setB0 23 (.cmp .eql (.var 22) (.lit 0))] 23
 (.leaf [.call 18 [(.ivar .u64 0), (.ivar .u64 0)] 24 [(.ri .u64)], .setB0 25 (.cmp .eql (.var 24) (.lit 0))] (.w (.c (.bvar 25 false))))
 (.leaf [] (.w (.c (.lit (.bool false))))))
 (.leaf [] (.w (.c (.lit (.bool false))))))
 (.leaf [] (.w (.c (.lit (.bool false))))))
 (.leaf [] (.w (.c (.lit (.bool false))))))
 (.leaf [] (.w (.c (.lit (.bool false))))))
 (.leaf [] (.w (.c (.lit (.bool false))))))
 (.nb [.call 16 [(.ivar .u64 0), (.lit (.int .u64 9223372036854775808))] 12 [(.ri .u64)], .setB0 13 (.cmp .eql (.var 12) (.var 0))] 13
 (.nb [.call 16 [(.ivar .u64 0), (.lit (.int .u64 18442240474082181120))] 14 [(.ri .u64)], .setB0 15 (.cmp .eql (.var 14) (.lit 18442240474082181120))] 15
 (.nb [.call 19 [(.ivar .u64 0), (.lit (.int .u64 9223372036854775808))] 16 [(.ri .u64)], .setB0 17 (.cmp .eql (.var 16) (.lit 0))] 17
 (.nb [.call 19 [(.ivar .u64 0), (.lit (.int .u64 18442240474082181120))] 18 [(.ri .u64)], .setB0 19 (.cmp .eql (.var 18) (.lit 9218868437227405312))] 19
 (.nb [.call 20 [(.ivar .u64 0), (.lit (.int .u64 9223372036854775808))] 20 [(.ri .u64)], .setB0 21 (.cmp .eql (.var 20) (.lit 18442240474082181120))] 21
 (.nb [.call 20 [(.ivar .u64 0), (.lit (.int .u64 18442240474082181120))] 22 [(.ri .u64)], .setB0 23 (.cmp .eql (.var 22) (.lit 9223372036854775808))] 23
 (.leaf [.call 18 [(.ivar .u64 0), (.ivar .u64 0)] 24 [(.ri .u64)], .setB0 25 (.cmp .eql (.var 24) (.lit 0))] (.w (.c (.bvar 25 false))))
 (.leaf [] (.w (.c (.lit (.bool false))))))
 (.leaf [] (.w (.c (.lit (.bool false))))))
 (.leaf [] (.w (.c (.lit (.bool false))))))
 (.leaf [] (.w (.c (.lit (.bool false))))))
 (.leaf [] (.w (.c (.lit (.bool false))))))
 (.leaf [] (.w (.c (.lit (.bool false))))))))
 (.nb [.setB0 10 (.all [(.bb (.var 7 false) (.lit true))])] 10
 (.nb [.setB0 11 (.all [(.bb (.var 7 false) (.lit true))])] 11
 (.nb [.call 16 [(.ivar .u64 0), (.lit (.int .u64 9223372036854775808))] 12 [(.ri .u64)], .setB0 13 (.cmp .eql (.var 12) (.var 0))] 13
 (.nb [.call 16 [(.ivar .u64 0), (.lit (.int .u64 18442240474082181120))] 14 [(.ri .u64)], .setB0 15 (.cmp .eql (.var 14) (.lit 18442240474082181120))] 15
 (.nb [.call 19 [(.ivar .u64 0), (.lit (.int .u64 9223372036854775808))] 16 [(.ri .u64)], .setB0 17 (.cmp .eql (.var 16) (.lit 0))] 17
 (.nb [.call 19 [(.ivar .u64 0), (.lit (.int .u64 18442240474082181120))] 18 [(.ri .u64)], .setB0 19 (.cmp .eql (.var 18) (.lit 18442240474082181120))] 19
 (.nb [.call 20 [(.ivar .u64 0), (.lit (.int .u64 9223372036854775808))] 20 [(.ri .u64)], .setB0 21 (.cmp .eql (.var 20) (.lit 9218868437227405312))] 21
 (.nb [.call 20 [(.ivar .u64 0), (.lit (.int .u64 18442240474082181120))] 22 [(.ri .u64)], .setB0 23 (.cmp .eql (.var 22) (.lit 0))] 23
 (.leaf [.call 18 [(.ivar .u64 0), (.ivar .u64 0)] 24 [(.ri .u64)], .setB0 25 (.cmp .eql (.var 24) (.lit 0))] (.w (.c (.bvar 25 false))))
 (.leaf [] (.w (.c (.lit (.bool false))))))
 (.leaf [] (.w (.c (.lit (.bool false))))))
 (.leaf [] (.w (.c (.lit (.bool false))))))
 (.leaf [] (.w (.c (.lit (.bool false))))))
 (.leaf [] (.w (.c (.lit (.bool false))))))
 (.leaf [] (.w (.c (.lit (.bool false))))))
 (.nb [.call 16 [(.ivar .u64 0), (.lit (.int .u64 9223372036854775808))] 12 [(.ri .u64)], .setB0 13 (.cmp .eql (.var 12) (.var 0))] 13
 (.nb [.call 16 [(.ivar .u64 0), (.lit (.int .u64 18442240474082181120))] 14 [(.ri .u64)], .setB0 15 (.cmp .eql (.var 14) (.lit 18442240474082181120))] 15
 (.nb [.call 19 [(.ivar .u64 0), (.lit (.int .u64 9223372036854775808))] 16 [(.ri .u64)], .setB0 17 (.cmp .eql (.var 16) (.lit 0))] 17
 (.nb [.call 19 [(.ivar .u64 0), (.lit (.int .u64 18442240474082181120))] 18 [(.ri .u64)], .setB0 19 (.cmp .eql (.var 18) (.lit 18442240474082181120))] 19
 (.nb [.call 20 [(.ivar .u64 0), (.lit (.int .u64 9223372036854775808))] 20 [(.ri .u64)], .setB0 21 (.cmp .eql (.var 20) (.lit 9218868437227405312))] 21
 (.nb [.call 20 [(.ivar .u64 0), (.lit (.int .u64 18442240474082181120))] 22 [(.ri .u64)], .setB0 23 (.cmp .eql (.var 22) (.lit 9223372036854775808))] 23
 (.leaf [.call 18 [(.ivar .u64 0), (.ivar .u64 0)] 24 [(.ri .u64)], .setB0 25 (.cmp .eql (.var 24) (.lit 0))] (.w (.c (.bvar 25 false))))
 (.leaf [] (.w (.c (.lit (.bool false))))))
 (.leaf [] (.w (.c (.lit (.bool false))))))
 (.leaf [] (.w (.c (.lit (.bool false))))))
 (.leaf [] (.w (.c (.lit (.bool false))))))
 (.leaf [] (.w (.c (.lit (.bool false))))))
 (.leaf [] (.w (.c (.lit (.bool false)))))))
 (.nb [.setB0 11 (.all [(.bb (.var 7 false) (.lit true))])] 11
 (.nb [.call 16 [(.ivar .u64 0), (.lit (.int .u64 9223372036854775808))] 12 [(.ri .u64)], .setB0 13 (.cmp .eql (.var 12) (.var 0))] 13
 (.nb [.call 16 [(.ivar .u64 0), (.lit (.int .u64 18442240474082181120))] 14 [(.ri .u64)], .setB0 15 (.cmp .eql (.var 14) (.lit 18442240474082181120))] 15
 (.nb [.call 19 [(.ivar .u64 0), (.lit (.int .u64 9223372036854775808))] 16 [(.ri .u64)], .setB0 17 (.cmp .eql (.var 16) (.lit 0))] 17
 (.nb [.call 19 [(.ivar .u64 0), (.lit (.int .u64 18442240474082181120))] 18 [(.ri .u64)], .setB0 19 (.cmp .eql (.var 18) (.lit 18442240474082181120))] 19
 (.nb [.call 20 [(.ivar .u64 0), (.lit (.int .u64 9223372036854775808))] 20 [(.ri .u64)], .setB0 21 (.cmp .eql (.var 20) (.lit 18442240474082181120))] 21
 (.nb [.call 20 [(.ivar .u64 0), (.lit (.int .u64 18442240474082181120))] 22 [(.ri .u64)], .setB0 23 (.cmp .eql (.var 22) (.lit 0))] 23
 (.leaf [.call 18 [(.ivar .u64 0), (.ivar .u64 0)] 24 [(.ri .u64)], .setB0 25 (.cmp .eql (.var 24) (.lit 0))] (.w (.c (.bvar 25 false))))
 (.leaf [] (.w (.c (.lit (.bool false))))))
 (.leaf [] (.w (.c (.lit (.bool false))))))
 (.leaf [] (.w (.c (.lit (.bool false))))))
 (.leaf [] (.w (.c (.lit (.bool false))))))
 (.leaf [] (.w (.c (.lit (.bool false))))))
 (.leaf [] (.w (.c (.lit (.bool false))))))
 (.nb [.call 16 [(.ivar .u64 0), (.lit (.int .u64 9223372036854775808))] 12 [(.ri .u64)], .setB0 13 (.cmp .eql (.var 12) (.var 0))] 13
 (.nb [.call 16 [(.ivar .u64 0), (.lit (.int .u64 18442240474082181120))] 14 [(.ri .u64)], .setB0 15 (.cmp .eql (.var 14) (.lit 18442240474082181120))] 15
 (.nb [.call 19 [(.ivar .u64 0), (.lit (.int .u64 9223372036854775808))] 16 [(.ri .u64)], .setB0 17 (.cmp .eql (.var 16) (.lit 0))] 17
 (.nb [.call 19 [(.ivar .u64 0), (.lit (.int .u64 18442240474082181120))] 18 [(.ri .u64)], .setB0 19 (.cmp .eql (.var 18) (.lit 18442240474082181120))] 19
 (.nb [.call 20 [(.ivar .u64 0), (.lit (.int .u64 9223372036854775808))] 20 [(.ri .u64)], .setB0 21 (.cmp .eql (.var 20) (.lit 18442240474082181120))] 21
 (.nb [.call 20 [(.ivar .u64 0), (.lit (.int .u64 18442240474082181120))] 22 [(.ri .u64)], .setB0 23 (.cmp .eql (.var 22) (.lit 9223372036854775808))] 23
 (.leaf [.call 18 [(.ivar .u64 0), (.ivar .u64 0)] 24 [(.ri .u64)], .setB0 25 (.cmp .eql (.var 24) (.lit 0))] (.w (.c (.bvar 25 false))))
 (.leaf [] (.w (.c (.lit (.bool false))))))
 (.leaf [] (.w (.c (.lit (.bool false))))))
 (.leaf [] (.w (.c (.lit (.bool false))))))
 (.leaf [] (.w (.c (.lit (.bool false))))))
 (.leaf [] (.w (.c (.lit (.bool false))))))
 (.leaf [] (.w (.c (.lit (.bool false)))))))))
 (.nb [.setB0 9 (.all [(.bb (.var 7 false) (.lit true))])] 9
 (.nb [.setB0 10 (.all [(.bb (.var 7 false) (.lit true))])] 10
 (.nb [.setB0 11 (.all [(.bb (.var 7 false) (.lit true))])] 11
 (.nb [.call 16 [(.ivar .u64 0), (.lit (.int .u64 9223372036854775808))] 12 [(.ri .u64)], .setB0 13 (.cmp .eql (.var 12) (.var 0))] 13
 (.nb [.call 16 [(.ivar .u64 0), (.lit (.int .u64 18442240474082181120))] 14 [(.ri .u64)], .setB0 15 (.cmp .eql (.var 14) (.lit 18442240474082181120))] 15
 (.nb [.call 19 [(.ivar .u64 0), (.lit (.int .u64 9223372036854775808))] 16 [(.ri .u64)], .setB0 17 (.cmp .eql (.var 16) (.lit 9223372036854775808))] 17
 (.nb [.call 19 [(.ivar .u64 0), (.lit (.int .u64 18442240474082181120))] 18 [(.ri .u64)], .setB0 19 (.cmp .eql (.var 18) (.lit 9218868437227405312))] 19
 (.nb [.call 20 [(.ivar .u64 0), (.lit (.int .u64 9223372036854775808))] 20 [(.ri .u64)], .setB0 21 (.cmp .eql (.var 20) (.lit 9218868437227405312))] 21
 (.nb [.call 20 [(.ivar .u64 0), (.lit (.int .u64 18442240474082181120))] 22 [(.ri .u64)], .setB0 23 (.cmp .eql (.var 22) (.lit 0))] 23
 (.leaf [.call 18 [(.ivar .u64 0), (.ivar .u64 0)] 24 [(.ri .u64)], .setB0 25 (.cmp .eql (.var 24) (.lit 0))] (.w (.c (.bvar 25 false))))
 (.leaf [] (.w (.c (.lit (.bool false))))))
 (.leaf [] (.w (.c (.lit (.bool false))))))
 (.leaf [] (.w (.c (.lit (.bool false))))))
 (.leaf [] (.w (.c (.lit (.bool false))))))
 (.leaf [] (.w (.c (.lit (.bool false))))))
 (.leaf [] (.w (.c (.lit (.bool false))))))
 (.nb [.call 16 [(.ivar .u64 0), (.lit (.int .u64 9223372036854775808))] 12 [(.ri .u64)], .setB0 13 (.cmp .eql (.var 12) (.var 0))] 13
 (.nb [.call 16 [(.ivar .u64 0), (.lit (.int .u64 18442240474082181120))] 14 [(.ri .u64)], .setB0 15 (.cmp .eql (.var 14) (.lit 18442240474082181120))] 15
 (.nb [.call 19 [(.ivar .u64 0), (.lit (.int .u64 9223372036854775808))] 16 [(.ri .u64)], .setB0 17 (.cmp .eql (.var 16) (.lit 9223372036854775808))] 17
 (.nb [.call 19 [(.ivar .u64 0), (.lit (.int .u64 18442240474082181120))] 18 [(.ri .u64)], .setB0 19 (.cmp .eql (.var 18) (.lit 9218868437227405312))] 19
 (.nb [.call 20 [(.ivar .u64 0), (.lit (.int .u64 9223372036854775808))] 20 [(.ri .u64)], .setB0 21 (.cmp .eql (.var 20) (.lit 9218868437227405312))] 21
 (.nb [.call 20 [(.ivar .u64 0), (.lit (.int .u64 18442240474082181120))] 22 [(.ri .u64)], .setB0 23 (.cmp .eql (.var 22) (.lit 9223372036854775808))] 23
 (.leaf [.call 18 [(.ivar .u64 0), (.ivar .u64 0)] 24 [(.ri .u64)], .setB0 25 (.cmp .eql (.var 24) (.lit 0))] (.w (.c (.bvar 25 false))))
 (.leaf [] (.w (.c (.lit (.bool false))))))
 (.leaf [] (.w (.c (.lit (.bool false))))))
 (.leaf [] (.w (.c (.lit (.bool false))))))
 (.leaf [] (.w (.c (.lit (.bool false))))))
 (.leaf [] (.w (.c (.lit (.bool false))))))
 (.leaf [] (.w (.c (.lit (.bool false)))))))
 (.nb [.setB0 11 (.all [(.bb (.var 7 false) (.lit true))])] 11
 (.nb [.call 16 [(.ivar .u64 0), (.lit (.int .u64 9223372036854775808))] 12 [(.ri .u64)], .setB0 13 (.cmp .eql (.var 12) (.var 0))] 13
 (.nb [.call 16 [(.ivar .u64 0), (.lit (.int .u64 18442240474082181120))] 14 [(.ri .u64)], .setB0 15 (.cmp .eql (.var 14) (.lit 18442240474082181120))] 15
 (.nb [.call 19 [(.ivar .u64 0), (.lit (.int .u64 9223372036854775808))] 16 [(.ri .u64)], .setB0 17 (.cmp .eql (.var 16) (.lit 9223372036854775808))] 17
 (.nb [.call 19 [(.ivar .u64 0), (.lit (.int .u64 18442240474082181120))] 18 [(.ri .u64)], .setB0 19 (.cmp .eql (.var 18) (.lit 9218868437227405312))] 19
 (.nb [.call 20 [(.ivar .u64 0), (.lit (.int .u64 9223372036854775808))] 20 [(.ri .u64)], .setB0 21 (.cmp .eql (.var 20) (.lit 18442240474082181120))] 21
 (.nb [.call 20 [(.ivar .u64 0), (.lit (.int .u64 18442240474082181120))] 22 [(.ri .u64)], .setB0 23 (.cmp .eql (.var 22) (.lit 0))] 23
 (.leaf [.call 18 [(.ivar .u64 0), (.ivar .u64 0)] 24 [(.ri .u64)], .setB0 25 (.cmp .eql (.var 24) (.lit 0))] (.w (.c (.bvar 25 false))))
 (.leaf [] (.w (.c (.lit (.bool false))))))
 (.leaf [] (.w (.c (.lit (.bool false))))))
 (.leaf [] (.w (.c (.lit (.bool false))))))
 (.leaf [] (.w (.c (.lit (.bool false))))))
 (.leaf [] (.w (.c (.lit (.bool false))))))
 (.leaf [] (.w (.c (.lit (.bool false))))))
 (.nb [.call 16 [(.ivar .u64 0), (.lit (.int .u64 9223372036854775808))] 12 [(.ri .u64)], .setB0 13 (.cmp .eql (.var 12) (.var 0))] 13
 (.nb [.call 16 [(.ivar .u64 0), (.lit (.int .u64 18442240474082181120))] 14 [(.ri .u64)], .setB0 15 (.cmp .eql (.var 14) (.lit 18442240474082181120))] 15
 (.nb [.call 19 [(.ivar .u64 0), (.lit (.int .u64 9223372036854775808))] 16 [(.ri .u64)], .setB0 17 (.cmp .eql (.var 16) (.lit 9223372036854775808))] 17
 (.nb [.call 19 [(.ivar .u64 0), (.lit (.int .u64 18442240474082181120))] 18 [(.ri .u64)], .setB0 19 (.cmp .eql (.var 18) (.lit 9218868437227405312))] 19
 (.nb [.call 20 [(.ivar .u64 0), (.lit (.int .u64 9223372036854775808))] 20 [(.ri .u64)], .setB0 21 (.cmp .eql (.var 20) (.lit 18442240474082181120))] 21
 (.nb [.call 20 [(.ivar .u64 0), (.lit (.int .u64 18442240474082181120))] 22 [(.ri .u64)], .setB0 23 (.cmp .eql (.var 22) (.lit 9223372036854775808))] 23
 (.leaf [.call 18 [(.ivar .u64 0), (.ivar .u64 0)] 24 [(.ri .u64)], .setB0 25 (.cmp .eql (.var 24) (.lit 0))] (.w (.c (.bvar 25 false))))
 (.leaf [] (.w (.c (.lit (.bool false))))))
 (.leaf [] (.w (.c (.lit (.bool false))))))
 (.leaf [] (.w (.c (.lit (.bool false))))))
 (.leaf [] (.w (.c (.lit (.bool false))))))
 (.leaf [] (.w (.c (.lit (.bool false))))))
 (.leaf [] (.w (.c (.lit (.bool false))))))))
 (.nb [.setB0 10 (.all [(.bb (.var 7 false) (.lit true))])] 10
 (.nb [.setB0 11 (.all [(.bb (.var 7 false) (.lit true))])] 11
 (.nb [.call 16 [(.ivar .u64 0), (.lit (.int .u64 9223372036854775808))] 12 [(.ri .u64)], .setB0 13 (.cmp .eql (.var 12) (.var 0))] 13
 (.nb [.call 16 [(.ivar .u64 0), (.lit (.int .u64 18442240474082181120))] 14 [(.ri .u64)], .setB0 15 (.cmp .eql (.var 14) (.lit 18442240474082181120))] 15
 (.nb [.call 19 [(.ivar .u64 0), (.lit (.int .u64 9223372036854775808))] 16 [(.ri .u64)], .setB0 17 (.cmp .eql (.var 16) (.lit 9223372036854775808))] 17
 (.nb [.call 19 [(.ivar .u64 0), (.lit (.int .u64 18442240474082181120))] 18 [(.ri .u64)], .setB0 19 (.cmp .eql (.var 18) (.lit 18442240474082181120))] 19
 (.nb [.call 20 [(.ivar .u64 0), (.lit (.int .u64 9223372036854775808))] 20 [(.ri .u64)], .setB0 21 (.cmp .eql (.var 20) (.lit 9218868437227405312))] 21
 (.nb [.call 20 [(.ivar .u64 0), (.lit (.int .u64 18442240474082181120))] 22 [(.ri .u64)], .setB0 23 (.cmp .eql (.var 22) (.lit 0))] 23
 (.leaf [.call 18 [(.ivar .u64 0), (.ivar .u64 0)] 24 [(.ri .u64)], .setB0 25 (.cmp .eql (.var 24) (.lit 0))] (.w (.c (.bvar 25 false))))
 (.leaf [] (.w (.c (.lit (.bool false))))))
 (.leaf [] (.w (.c (.lit (.bool false))))))
 (.leaf [] (.w (.c (.lit (.bool false))))))
 (.leaf [] (.w (.c (.lit (.bool false))))))
 (.leaf [] (.w (.c (.lit (.bool false))))))
 (.leaf [] (.w (.c (.lit (.bool false))))))
 (.nb [.call 16 [(.ivar .u64 0), (.lit (.int .u64 9223372036854775808))] 12 [(.ri .u64)], .setB0 13 (.cmp .eql (.var 12) (.var 0))] 13
 (.nb [.call 16 [(.ivar .u64 0), (.lit (.int .u64 18442240474082181120))] 14 [(.ri .u64)], .setB0 15 (.cmp .eql (.var 14) (.lit 18442240474082181120))] 15
 (.nb [.call 19 [(.ivar .u64 0), (.lit (.int .u64 9223372036854775808))] 16 [(.ri .u64)], .setB0 17 (.cmp .eql (.var 16) (.lit 9223372036854775808))] 17
 (.nb [.call 19 [(.ivar .u64 0), (.lit (.int .u64 18442240474082181120))] 18 [(.ri .u64)], .setB0 19 (.cmp .eql (.var 18) (.lit 18442240474082181120))] 19
 (.nb [.call 20 [(.ivar .u64 0), (.lit (.int .u64 9223372036854775808))] 20 [(.ri .u64)], .setB0 21 (.cmp .eql (.var 20) (.lit 9218868437227405312))] 21
 (.nb [.call 20 [(.ivar .u64 0), (.lit (.int .u64 18442240474082181120))] 22 [(.ri .u64)], .setB0 23 (.cmp .eql (.var 22) (.lit 9223372036854775808))] 23
 (.leaf [.call 18 [(.ivar .u64 0), (.ivar .u64 0)] 24 [(.ri .u64)], .setB0 25 (.cmp .eql (.var 24) (.lit 0))] (.w (.c (.bvar 25 false))))
 (.leaf [] (.w (.c (.lit (.bool false))))))
 (.leaf [] (.w (.c (.lit (.bool false))))))
 (.leaf [] (.w (.c (.lit (.bool false))))))
 (.leaf [] (.w (.c (.lit (.bool false))))))
 (.leaf [] (.w (.c (.lit (.bool false))))))
 (.leaf [] (.w (.c (.lit (.bool false)))))))
 (.nb [.setB0 11 (.all [(.bb (.var 7 false) (.lit true))])] 11
 (.nb [.call 16 [(.ivar .u64 0), (.lit (.int .u64 9223372036854775808))] 12 [(.ri .u64)], .setB0 13 (.cmp .eql (.var 12) (.var 0))] 13
 (.nb [.call 16 [(.ivar .u64 0), (.lit (.int .u64 18442240474082181120))] 14 [(.ri .u64)], .setB0 15 (.cmp .eql (.var 14) (.lit 18442240474082181120))] 15
 (.nb [.call 19 [(.ivar .u64 0), (.lit (.int .u64 9223372036854775808))] 16 [(.ri .u64)], .setB0 17 (.cmp .eql (.var 16) (.lit 9223372036854775808))] 17
 (.nb [.call 19 [(.ivar .u64 0), (.lit (.int .u64 18442240474082181120))] 18 [(.ri .u64)], .setB0 19 (.cmp .eql (.var 18) (.lit 18442240474082181120))] 19
 (.nb [.call 20 [(.ivar .u64 0), (.lit (.int .u64 9223372036854775808))] 20 [(.ri .u64)], .setB0 21 (.cmp .eql (.var 20) (.lit 18442240474082181120))] 21
 (.nb [.call 20 [(.ivar .u64 0), (.lit (.int .u64 18442240474082181120))] 22 [(.ri .u64)], .setB0 23 (.cmp .eql (.var 22) (.lit 0))] 23
 (.leaf [.call 18 [(.ivar .u64 0), (.ivar .u64 0)] 24 [(.ri .u64)], .setB0 25 (.cmp .eql (.var 24) (.lit 0))] (.w (.c (.bvar 25 false))))
 (.leaf [] (.w (.c (.lit (.bool false))))))
 (.leaf [] (.w (.c (.lit (.bool false))))))
 (.leaf [] (.w (.c (.lit (.bool false))))))
 (.leaf [] (.w (.c (.lit (.bool false))))))
 (.leaf [] (.w (.c (.lit (.bool false))))))
 (.leaf [] (.w (.c (.lit (.bool false))))))
 (.nb [.call 16 [(.ivar .u64 0), (.lit (.int .u64 9223372036854775808))] 12 [(.ri .u64)], .setB0 13 (.cmp .eql (.var 12) (.var 0))] 13
 (.nb [.call 16 [(.ivar .u64 0), (.lit (.int .u64 18442240474082181120))] 14 [(.ri .u64)], .setB0 15 (.cmp .eql (.var 14) (.lit 18442240474082181120))] 15
 (.nb [.call 19 [(.ivar .u64 0), (.lit (.int .u64 9223372036854775808))] 16 [(.ri .u64)], .setB0 17 (.cmp .eql (.var 16) (.lit 9223372036854775808))] 17
 (.nb [.call 19 [(.ivar .u64 0), (.lit (.int .u64 18442240474082181120))] 18 [(.ri .u64)], .setB0 19 (.cmp .eql (.var 18) (.lit 18442240474082181120))] 19
 (.nb [.call 20 [(.ivar .u64 0), (.lit (.int .u64 9223372036854775808))] 20 [(.ri .u64)], .setB0 21 (.cmp .eql (.var 20) (.lit 18442240474082181120))] 21
 (.nb [.call 20 [(.ivar .u64 0), (.lit (.int .u64 18442240474082181120))] 22 [(.ri .u64)], .setB0 23 (.cmp .eql (.var 22) (.lit 9223372036854775808))] 23
 (.leaf [.call 18 [(.ivar .u64 0), (.ivar .u64 0)] 24 [(.ri .u64)], .setB0 25 (.cmp .eql (.var 24) (.lit 0))] (.w (.c (.bvar 25 false))))
 (.leaf [] (.w (.c (.lit (.bool false))))))
 (.leaf [] (.w (.c (.lit (.bool false))))))
 (.leaf [] (.w (.c (.lit (.bool false))))))
 (.leaf [] (.w (.c (.lit (.bool false))))))
 (.leaf [] (.w (.c (.lit (.bool false))))))
 (.leaf [] (.w (.c (.lit (.bool false))))))))))
theorem FloatEdgesT1_ok : LT.Ok FloatEdgesR FloatEdgesT1 [.db false, .db true, .db true, .db true] [.decB 5 false, .setB0 5 (.cmp .neq (.var 4) (.lit 1)), .call 12 [(.ivar .u64 0)] 4 [(.ri .i64)], .decB 2 true, .decB 1 true, .decB 3 true, .call 11 [] 3 [.rb]] :=
 (LT.ok_nb (LT.ok_nb (LT.ok_nb (LT.ok_nb (LT.ok_nb (LT.ok_nb (LT.ok_nb (LT.ok_nb (LT.ok_nb (LT.ok_nb (LT.ok_leaf (by kernel_rfl))
 (LT.ok_leaf (by kernel_rfl)))
 (LT.ok_leaf (by kernel_rfl)))
 (LT.ok_leaf (by kernel_rfl)))
 (LT.ok_leaf (by kernel_rfl)))
 (LT.ok_leaf (by kernel_rfl)))
 (LT.ok_leaf (by kernel_rfl)))
 (LT.ok_nb (LT.ok_nb (LT.ok_nb (LT.ok_nb (LT.ok_nb (LT.ok_nb (LT.ok_leaf (by kernel_rfl))
 (LT.ok_leaf (by kernel_rfl)))
 (LT.ok_leaf (by kernel_rfl)))
 (LT.ok_leaf (by kernel_rfl)))
 (LT.ok_leaf (by kernel_rfl)))
 (LT.ok_leaf (by kernel_rfl)))
 (LT.ok_leaf (by kernel_rfl))))
 (LT.ok_nb (LT.ok_nb (LT.ok_nb (LT.ok_nb (LT.ok_nb (LT.ok_nb (LT.ok_nb (LT.ok_leaf (by kernel_rfl))
 (LT.ok_leaf (by kernel_rfl)))
 (LT.ok_leaf (by kernel_rfl)))
 (LT.ok_leaf (by kernel_rfl)))
 (LT.ok_leaf (by kernel_rfl)))
 (LT.ok_leaf (by kernel_rfl)))
 (LT.ok_leaf (by kernel_rfl)))
 (LT.ok_nb (LT.ok_nb (LT.ok_nb (LT.ok_nb (LT.ok_nb (LT.ok_nb (LT.ok_leaf (by kernel_rfl))
 (LT.ok_leaf (by kernel_rfl)))
 (LT.ok_leaf (by kernel_rfl)))
 (LT.ok_leaf (by kernel_rfl)))
 (LT.ok_leaf (by kernel_rfl)))
 (LT.ok_leaf (by kernel_rfl)))
 (LT.ok_leaf (by kernel_rfl)))))
 (LT.ok_nb (LT.ok_nb (LT.ok_nb (LT.ok_nb (LT.ok_nb (LT.ok_nb (LT.ok_nb (LT.ok_nb (LT.ok_leaf (by kernel_rfl))
 (LT.ok_leaf (by kernel_rfl)))
 (LT.ok_leaf (by kernel_rfl)))
 (LT.ok_leaf (by kernel_rfl)))
 (LT.ok_leaf (by kernel_rfl)))
 (LT.ok_leaf (by kernel_rfl)))
 (LT.ok_leaf (by kernel_rfl)))
 (LT.ok_nb (LT.ok_nb (LT.ok_nb (LT.ok_nb (LT.ok_nb (LT.ok_nb (LT.ok_leaf (by kernel_rfl))
 (LT.ok_leaf (by kernel_rfl)))
 (LT.ok_leaf (by kernel_rfl)))
 (LT.ok_leaf (by kernel_rfl)))
 (LT.ok_leaf (by kernel_rfl)))
 (LT.ok_leaf (by kernel_rfl)))
 (LT.ok_leaf (by kernel_rfl))))
 (LT.ok_nb (LT.ok_nb (LT.ok_nb (LT.ok_nb (LT.ok_nb (LT.ok_nb (LT.ok_nb (LT.ok_leaf (by kernel_rfl))
 (LT.ok_leaf (by kernel_rfl)))
 (LT.ok_leaf (by kernel_rfl)))
 (LT.ok_leaf (by kernel_rfl)))
 (LT.ok_leaf (by kernel_rfl)))
 (LT.ok_leaf (by kernel_rfl)))
 (LT.ok_leaf (by kernel_rfl)))
 (LT.ok_nb (LT.ok_nb (LT.ok_nb (LT.ok_nb (LT.ok_nb (LT.ok_nb (LT.ok_leaf (by kernel_rfl))
 (LT.ok_leaf (by kernel_rfl)))
 (LT.ok_leaf (by kernel_rfl)))
 (LT.ok_leaf (by kernel_rfl)))
 (LT.ok_leaf (by kernel_rfl)))
 (LT.ok_leaf (by kernel_rfl)))
 (LT.ok_leaf (by kernel_rfl))))))
 (LT.ok_nb (LT.ok_nb (LT.ok_nb (LT.ok_nb (LT.ok_nb (LT.ok_nb (LT.ok_nb (LT.ok_nb (LT.ok_nb (LT.ok_leaf (by kernel_rfl))
 (LT.ok_leaf (by kernel_rfl)))
 (LT.ok_leaf (by kernel_rfl)))
 (LT.ok_leaf (by kernel_rfl)))
 (LT.ok_leaf (by kernel_rfl)))
 (LT.ok_leaf (by kernel_rfl)))
 (LT.ok_leaf (by kernel_rfl)))
 (LT.ok_nb (LT.ok_nb (LT.ok_nb (LT.ok_nb (LT.ok_nb (LT.ok_nb (LT.ok_leaf (by kernel_rfl))
 (LT.ok_leaf (by kernel_rfl)))
 (LT.ok_leaf (by kernel_rfl)))
 (LT.ok_leaf (by kernel_rfl)))
 (LT.ok_leaf (by kernel_rfl)))
 (LT.ok_leaf (by kernel_rfl)))
 (LT.ok_leaf (by kernel_rfl))))
 (LT.ok_nb (LT.ok_nb (LT.ok_nb (LT.ok_nb (LT.ok_nb (LT.ok_nb (LT.ok_nb (LT.ok_leaf (by kernel_rfl))
 (LT.ok_leaf (by kernel_rfl)))
 (LT.ok_leaf (by kernel_rfl)))
 (LT.ok_leaf (by kernel_rfl)))
 (LT.ok_leaf (by kernel_rfl)))
 (LT.ok_leaf (by kernel_rfl)))
 (LT.ok_leaf (by kernel_rfl)))
 (LT.ok_nb (LT.ok_nb (LT.ok_nb (LT.ok_nb (LT.ok_nb (LT.ok_nb (LT.ok_leaf (by kernel_rfl))
 (LT.ok_leaf (by kernel_rfl)))
 (LT.ok_leaf (by kernel_rfl)))
 (LT.ok_leaf (by kernel_rfl)))
 (LT.ok_leaf (by kernel_rfl)))
 (LT.ok_leaf (by kernel_rfl)))
 (LT.ok_leaf (by kernel_rfl)))))
 (LT.ok_nb (LT.ok_nb (LT.ok_nb (LT.ok_nb (LT.ok_nb (LT.ok_nb (LT.ok_nb (LT.ok_nb (LT.ok_leaf (by kernel_rfl))
 (LT.ok_leaf (by kernel_rfl)))
 (LT.ok_leaf (by kernel_rfl)))
 (LT.ok_leaf (by kernel_rfl)))
 (LT.ok_leaf (by kernel_rfl)))
 (LT.ok_leaf (by kernel_rfl)))
 (LT.ok_leaf (by kernel_rfl)))
 (LT.ok_nb (LT.ok_nb (LT.ok_nb (LT.ok_nb (LT.ok_nb (LT.ok_nb (LT.ok_leaf (by kernel_rfl))
 (LT.ok_leaf (by kernel_rfl)))
 (LT.ok_leaf (by kernel_rfl)))
 (LT.ok_leaf (by kernel_rfl)))
 (LT.ok_leaf (by kernel_rfl)))
 (LT.ok_leaf (by kernel_rfl)))
 (LT.ok_leaf (by kernel_rfl))))
 (LT.ok_nb (LT.ok_nb (LT.ok_nb (LT.ok_nb (LT.ok_nb (LT.ok_nb (LT.ok_nb (LT.ok_leaf (by kernel_rfl))
 (LT.ok_leaf (by kernel_rfl)))
 (LT.ok_leaf (by kernel_rfl)))
 (LT.ok_leaf (by kernel_rfl)))
 (LT.ok_leaf (by kernel_rfl)))
 (LT.ok_leaf (by kernel_rfl)))
 (LT.ok_leaf (by kernel_rfl)))
 (LT.ok_nb (LT.ok_nb (LT.ok_nb (LT.ok_nb (LT.ok_nb (LT.ok_nb (LT.ok_leaf (by kernel_rfl))
 (LT.ok_leaf (by kernel_rfl)))
 (LT.ok_leaf (by kernel_rfl)))
 (LT.ok_leaf (by kernel_rfl)))
 (LT.ok_leaf (by kernel_rfl)))
 (LT.ok_leaf (by kernel_rfl)))
 (LT.ok_leaf (by kernel_rfl)))))))
noncomputable def FloatEdgesT2 : LT :=
 (.nb [.setI0 7 (.bin .shr .u64 (.var 0) (.lit 63)), .setB0 8 (.cmp .eql (.var 7) (.lit 1)), .setB0 9 (.all [(.bb (.var 8 false) (.lit true))])] 9
 (.nb [.setB0 10 (.all [(.bb (.var 8 false) (.lit false))])] 10
 (.nb [.setB0 11 (.all [(.bb (.var 8 false) (.lit true))])] 11
 (.nb [.setB0 12 (.all [(.bb (.var 8 false) (.lit false))])] 12
 (.nb [.call 16 [(.ivar .u64 0), (.lit (.int .u64 9223372036854775808))] 13 [(.ri .u64)], .setB0 14 (.cmp .eql (.var 13) (.var 0))] 14
 (.nb [.call 16 [(.ivar .u64 0), (.lit (.int .u64 9218868437227405312))] 15 [(.ri .u64)], .setB0 16 (.cmp .eql (.var 15) (.lit 9218868437227405312))] 16
 (.nb [.call 19 [(.ivar .u64 0), (.lit (.int .u64 9223372036854775808))] 17 [(.ri .u64)], .setB0 18 (.cmp .eql (.var 17) (.lit 0))] 18
 (.nb [.call 19 [(.ivar .u64 0), (.lit (.int .u64 9218868437227405312))] 19 [(.ri .u64)], .setB0 20 (.cmp .eql (.var 19) (.lit 9218868437227405312))] 20
 (.nb [.call 20 [(.ivar .u64 0), (.lit (.int .u64 9223372036854775808))] 21 [(.ri .u64)], .setB0 22 (.cmp .eql (.var 21) (.lit 9218868437227405312))] 22
 (.nb [.call 20 [(.ivar .u64 0), (.lit (.int .u64 9218868437227405312))] 23 [(.ri .u64)], .setB0 24 (.cmp .eql (.var 23) (.lit 0))] 24
 (.leaf [.call 18 [(.ivar .u64 0), (.ivar .u64 0)] 25 [(.ri .u64)], .setB0 26 (.cmp .eql (.var 25) (.lit 0))] (.w (.c (.bvar 26 false))))
 (.leaf [] (.w (.c (.lit (.bool false))))))
 (.leaf [] (.w (.c (.lit (.bool false))))))
 (.leaf [] (.w (.c (.lit (.bool false))))))
 (.leaf [] (.w (.c (.lit (.bool false))))))
 (.leaf [] (.w (.c (.lit (.bool false))))))
 (.leaf [] (.w (.c (.lit (.bool false))))))
 (.nb [.call 16 [(.ivar .u64 0), (.lit (.int .u64 9223372036854775808))] 13 [(.ri .u64)], .setB0 14 (.cmp .eql (.var 13) (.var 0))] 14
 (.nb [.call 16 [(.ivar .u64 0), (.lit (.int .u64 9218868437227405312))] 15 [(.ri .u64)], .setB0 16 (.cmp .eql (.var 15) (.lit 9218868437227405312))] 16
 (.nb [.call 19 [(.ivar .u64 0), (.lit (.int .u64 9223372036854775808))] 17 [(.ri .u64)], .setB0 18 (.cmp .eql (.var 17) (.lit 0))] 18
 (.nb [.call 19 [(.ivar .u64 0), (.lit (.int .u64 9218868437227405312))] 19 [(.ri .u64)], .setB0 20 (.cmp .eql (.var 19) (.lit 9218868437227405312))] 20
 (.nb [.call 20 [(.ivar .u64 0), (.lit (.int .u64 9223372036854775808))] 21 [(.ri .u64)], .setB0 22 (.cmp .eql (.var 21) (.lit 9218868437227405312))] 22
 (.nb [.call 20 [(.ivar .u64 0), (.lit (.int .u64 9218868437227405312))] 23 [(.ri .u64)], .setB0 24 (.cmp .eql (.var 23) (.lit 9223372036854775808))] 24
 (.leaf [.call 18 [(.ivar .u64 0), (.ivar .u64 0)] 25 [(.ri .u64)], .setB0 26 (.cmp .eql (.var 25) (.lit 0))] (.w (.c (.bvar 26 false))))
 (.leaf [] (.w (.c (.lit (.bool false))))))
 (.leaf [] (.w (.c (.lit (.bool false))))))
 (.leaf [] (.w (.c (.lit (.bool false))))))
 (.leaf [] (.w (.c (.lit (.bool false))))))
 (.leaf [] (.w (.c (.lit (.bool false))))))
 (.leaf [] (.w (.c (.lit (.bool false)))))))
 (.nb [.setB0 12 (.all [(.bb (.var 8 false) (.lit false))])] 12
 (.nb [.call 16 [(.ivar .u64 0), (.lit (.int .u64 9223372036854775808))] 13 [(.ri .u64)], .setB0 14 (.cmp .eql (.var 13) (.var 0))] 14
 (.nb [.call 16 [(.ivar .u64 0), (.lit (.int .u64 9218868437227405312))] 15 [(.ri .u64)], .setB0 16 (.cmp .eql (.var 15) (.lit 9218868437227405312))] 16
 (.nb [.call 19 [(.ivar .u64 0), (.lit (.int .u64 9223372036854775808))] 17 [(.ri .u64)], .setB0 18 (.cmp .eql (.var 17) (.lit 0))] 18
 (.nb [.call 19 [(.ivar .u64 0), (.lit (.int .u64 9218868437227405312))] 19 [(.ri .u64)], .setB0 20 (.cmp .eql (.var 19) (.lit 9218868437227405312))] 20
 (.nb [.call 20 [(.ivar .u64 0), (.lit (.int .u64 9223372036854775808))] 21 [(.ri .u64)], .setB0 22 (.cmp .eql (.var 21) (.lit 18442240474082181120))] 22
 (.nb [.call 20 [(.ivar .u64 0), (.lit (.int .u64 9218868437227405312))] 23 [(.ri .u64)], .setB0 24 (.cmp .eql (.var 23) (.lit 0))] 24
 (.leaf [.call 18 [(.ivar .u64 0), (.ivar .u64 0)] 25 [(.ri .u64)], .setB0 26 (.cmp .eql (.var 25) (.lit 0))] (.w (.c (.bvar 26 false))))
 (.leaf [] (.w (.c (.lit (.bool false))))))
 (.leaf [] (.w (.c (.lit (.bool false))))))
 (.leaf [] (.w (.c (.lit (.bool false))))))
 (.leaf [] (.w (.c (.lit (.bool false))))))
 (.leaf [] (.w (.c (.lit (.bool false))))))
 (.leaf [] (.w (.c (.lit (.bool false))))))
 (.nb [.call 16 [(.ivar .u64 0), (.lit (.int .u64 9223372036854775808))] 13 [(.ri .u64)], .setB0 14 (.cmp .eql (.var 13) (.var 0))] 14
 (.nb [.call 16 [(.ivar .u64 0), (.lit (.int .u64 9218868437227405312))] 15 [(.ri .u64)], .setB0 16 (.cmp .eql (.var 15) (.lit 9218868437227405312))] 16
 (.nb [.call 19 [(.ivar .u64 0), (.lit (.int .u64 9223372036854775808))] 17 [(.ri .u64)], .setB0 18 (.cmp .eql (.var 17) (.lit 0))] 18
 (.nb [.call 19 [(.ivar .u64 0), (.lit (.int .u64 9218868437227405312))] 19 [(.ri .u64)], .setB0 20 (.cmp .eql (.var 19) (.lit 9218868437227405312))] 20
 (.nb [.call 20 [(.ivar .u64 0), (.lit (.int .u64 9223372036854775808))] 21 [(.ri .u64)], .setB0 22 (.cmp .eql (.var 21) (.lit 18442240474082181120))] 22
 (.nb [.call 20 [(.ivar .u64 0), (.lit (.int .u64 9218868437227405312))] 23 [(.ri .u64)], .setB0 24 (.cmp .eql (.var 23) (.lit 9223372036854775808))] 24
 (.leaf [.call 18 [(.ivar .u64 0), (.ivar .u64 0)] 25 [(.ri .u64)], .setB0 26 (.cmp .eql (.var 25) (.lit 0))] (.w (.c (.bvar 26 false))))
 (.leaf [] (.w (.c (.lit (.bool false))))))
 (.leaf [] (.w (.c (.lit (.bool false))))))
 (.leaf [] (.w (.c (.lit (.bool false))))))
 (.leaf [] (.w (.c (.lit (.bool false))))))
 (.leaf [] (.w (.c (.lit (.bool false))))))
 (.leaf [] (.w (.c (.lit (.bool false))))))))
 (.nb [.setB0 11 (.all [(.bb (.var 8 false) (.lit true))])] 11
 (.nb [.setB0 12 (.all [(.bb (.var 8 false) (.lit false))])] 12
 (.nb [.call 16 [(.ivar .u64 0), (.lit (.int .u64 9223372036854775808))] 13 [(.ri .u64)], .setB0 14 (.cmp .eql (.var 13) (.var 0))] 14
 (.nb [.call 16 [(.ivar .u64 0), (.lit (.int .u64 9218868437227405312))] 15 [(.ri .u64)], .setB0 16 (.cmp .eql (.var 15) (.lit 9218868437227405312))] 16
 (.nb [.call 19 [(.ivar .u64 0), (.lit (.int .u64 9223372036854775808))] 17 [(.ri .u64)], .setB0 18 (.cmp .eql (.var 17) (.lit 0))] 18
 (.nb [.call 19 [(.ivar .u64 0), (.lit (.int .u64 9218868437227405312))] 19 [(.ri .u64)], .setB0 20 (.cmp .eql (.var 19) (.lit 18442240474082181120))] 20
 (.nb [.call 20 [(.ivar .u64 0), (.lit (.int .u64 9223372036854775808))] 21 [(.ri .u64)], .setB0 22 (.cmp .eql (.var 21) (.lit 9218868437227405312))] 22
 (.nb [.call 20 [(.ivar .u64 0), (.lit (.int .u64 9218868437227405312))] 23 [(.ri .u64)], .setB0 24 (.cmp .eql (.var 23) (.lit 0))] 24
 (.leaf [.call 18 [(.ivar .u64 0), (.ivar .u64 0)] 25 [(.ri .u64)], .setB0 26 (.cmp .eql (.var 25) (.lit 0))] (.w (.c (.bvar 26 false))))
 (.leaf [] (.w (.c (.lit (.bool false))))))
 (.leaf [] (.w (.c (.lit (.bool false))))))
 (.leaf [] (.w (.c (.lit (.bool false))))))
 (.leaf [] (.w (.c (.lit (.bool false))))))
 (.leaf [] (.w (.c (.lit (.bool false))))))
 (.leaf [] (.w (.c (.lit (.bool false))))))
 (.nb [.call 16 [(.ivar .u64 0), (.lit (.int .u64 9223372036854775808))] 13 [(.ri .u64)], .setB0 14 (.cmp .eql (.var 13) (.var 0))] 14
 (.nb [.call 16 [(.ivar .u64 0), (.lit (.int .u64 9218868437227405312))] 15 [(.ri .u64)], .setB0 16 (.cmp .eql (.var 15) (.lit 9218868437227405312))] 16
 (.nb [.call 19 [(.ivar .u64 0), (.lit (.int .u64 9223372036854775808))] 17 [(.ri .u64)], .setB0 18 (.cmp .eql (.var 17) (.lit 0))] 18
 (.nb [.call 19 [(.ivar .u64 0), (.lit (.int .u64 9218868437227405312))] 19 [(.ri .u64)], .setB0 20 (.cmp .eql (.var 19) (.lit 18442240474082181120))] 20
 (.nb [.call 20 [(.ivar .u64 0), (.lit (.int .u64 9223372036854775808))] 21 [(.ri .u64)], .setB0 22 (.cmp .eql (.var 21) (.lit 9218868437227405312))] 22
 (.nb [.call 20 [(.ivar .u64 0), (.lit (.int .u64 9218868437227405312))] 23 [(.ri .u64)], .setB0 24 (.cmp .eql (.var 23) (.lit 9223372036854775808))] 24
 (.leaf [.call 18 [(.ivar .u64 0), (.ivar .u64 0)] 25 [(.ri .u64)], .setB0 26 (.cmp .eql (.var 25) (.lit 0))] (.w (.c (.bvar 26 false))))
 (.leaf [] (.w (.c (.lit (.bool false))))))
 (.leaf [] (.w (.c (.lit (.bool false))))))
 (.leaf [] (.w (.c (.lit (.bool false))))))
 (.leaf [] (.w (.c (.lit (.bool false))))))
 (.leaf [] (.w (.c (.lit (.bool false))))))
 (.leaf [] (.w (.c (.lit (.bool false)))))))
 (.nb [.setB0 12 (.all [(.bb (.var 8 false) (.lit false))])] 12
 (.nb [.call 16 [(.ivar .u64 0), (.lit (.int .u64 9223372036854775808))] 13 [(.ri .u64)], .setB0 14 (.cmp .eql (.var 13) (.var 0))] 14
 (.nb [.call 16 [(.ivar .u64 0), (.lit (.int .u64 9218868437227405312))] 15 [(.ri .u64)], .setB0 16 (.cmp .eql (.var 15) (.lit 9218868437227405312))] 16
 (.nb [.call 19 [(.ivar .u64 0), (.lit (.int .u64 9223372036854775808))] 17 [(.ri .u64)], .setB0 18 (.cmp .eql (.var 17) (.lit 0))] 18
 (.nb [.call 19 [(.ivar .u64 0), (.lit (.int .u64 9218868437227405312))] 19 [(.ri .u64)], .setB0 20 (.cmp .eql (.var 19) (.lit 18442240474082181120))] 20
 (.nb [.call 20 [(.ivar .u64 0), (.lit (.int .u64 9223372036854775808))] 21 [(.ri .u64)], .setB0 22 (.cmp .eql (.var 21) (.lit 18442240474082181120))] 22
 (.nb [.call 20 [(.ivar .u64 0), (.lit (.int .u64 9218868437227405312))] 23 [(.ri .u64)], .setB0 24 (.cmp .eql (.var 23) (.lit 0))] 24
 (.leaf [.call 18 [(.ivar .u64 0), (.ivar .u64 0)] 25 [(.ri .u64)], .setB0 26 (.cmp .eql (.var 25) (.lit 0))] (.w (.c (.bvar 26 false))))
 (.leaf [] (.w (.c (.lit (.bool false))))))
 (.leaf [] (.w (.c (.lit (.bool false))))))
 (.leaf [] (.w (.c (.lit (.bool false))))))
 (.leaf [] (.w (.c (.lit (.bool false))))))
 (.leaf [] (.w (.c (.lit (.bool false))))))
 (.leaf [] (.w (.c (.lit (.bool false))))))
 (.nb [.call 16 [(.ivar .u64 0), (.lit (.int .u64 9223372036854775808))] 13 [(.ri .u64)], .setB0 14 (.cmp .eql (.var 13) (.var 0))] 14
 (.nb [.call 16 [(.ivar .u64 0), (.lit (.int .u64 9218868437227405312))] 15 [(.ri .u64)], .setB0 16 (.cmp .eql (.var 15) (.lit 9218868437227405312))] 16
 (.nb [.call 19 [(.ivar .u64 0), (.lit (.int .u64 9223372036854775808))] 17 [(.ri .u64)], .setB0 18 (.cmp .eql (.var 17) (.lit 0))] 18
 (.nb [.call 19 [(.ivar .u64 0), (.lit (.int .u64 9218868437227405312))] 19 [(.ri .u64)], .setB0 20 (.cmp .eql (.var 19) (.lit 18442240474082181120))] 20
 (.nb [.call 20 [(.ivar .u64 0), (.lit (.int .u64 9223372036854775808))] 21 [(.ri .u64)], .setB0 22 (.cmp .eql (.var 21) (.lit 18442240474082181120))] 22
 (.nb [.call 20 [(.ivar .u64 0), (.lit (.int .u64 9218868437227405312))] 23 [(.ri .u64)], .setB0 24 (.cmp .eql (.var 23) (.lit 9223372036854775808))] 24
 (.leaf [.call 18 [(.ivar .u64 0), (.ivar .u64 0)] 25 [(.ri .u64)], .setB0 26 (.cmp .eql (.var 25) (.lit 0))] (.w (.c (.bvar 26 false))))
 (.leaf [] (.w (.c (.lit (.bool false))))))
 (.leaf [] (.w (.c (.lit (.bool false))))))
 (.leaf [] (.w (.c (.lit (.bool false))))))
 (.leaf [] (.w (.c (.lit (.bool false))))))
 (.leaf [] (.w (.c (.lit (.bool false))))))
 (.leaf [] (.w (.c (.lit (.bool false)))))))))
 (.nb [.setB0 10 (.all [(.bb (.var 8 false) (.lit false))])] 10
 (.nb [.setB0 11 (.all [(.bb (.var 8 false) (.lit true))])] 11
 (.nb [.setB0 12 (.all [(.bb (.var 8 false) (.lit false))])] 12
 (.nb [.call 16 [(.ivar .u64 0), (.lit (.int .u64 9223372036854775808))] 13 [(.ri .u64)], .setB0 14 (.cmp .eql (.var 13) (.var 0))] 14
 (.nb [.call 16 [(.ivar .u64 0), (.lit (.int .u64 9218868437227405312))] 15 [(.ri .u64)], .setB0 16 (.cmp .eql (.var 15) (.lit 9218868437227405312))] 16
 (.nb [.call 19 [(.ivar .u64 0), (.lit (.int .u64 9223372036854775808))] 17 [(.ri .u64)], .setB0 18 (.cmp .eql (.var 17) (.lit 9223372036854775808))] 18
 (.nb [.call 19 [(.ivar .u64 0), (.lit (.int .u64 9218868437227405312))] 19 [(.ri .u64)], .setB0 20 (.cmp .eql (.var 19) (.lit 9218868437227405312))] 20
 (.nb [.call 20 [(.ivar .u64 0), (.lit (.int .u64 9223372036854775808))] 21 [(.ri .u64)], .setB0 22 (.cmp .eql (.var 21) (.lit 9218868437227405312))] 22
 (.nb [.call 20 [(.ivar .u64 0), (.lit (.int .u64 9218868437227405312))] 23 [(.ri .u64)], .setB0 24 (.cmp .eql (.var 23) (.lit 0))] 24
 (.leaf [.call 18 [(.ivar .u64 0), (.ivar .u64 0)] 25 [(.ri .u64)], .setB0 26 (.cmp .eql (.var 25) (.lit 0))] (.w (.c (.bvar 26 false))))
 (.leaf [] (.w (.c (.lit (.bool false))))))
 (.leaf [] (.w (.c (.lit (.bool false))))))
 (.leaf [] (.w (.c (.lit (.bool false))))))
 (.leaf [] (.w (.c (.lit (.bool false))))))
 (.leaf [] (.w (.c (.lit (.bool false))))))
 (.leaf [] (.w (.c (.lit (.bool false))))))
 (.nb [.call 16 [(.ivar .u64 0), (.lit (.int .u64 9223372036854775808))] 13 [(.ri .u64)], .setB0 14 (.cmp .eql (.var 13) (.var 0))] 14
 (.nb [.call 16 [(.ivar .u64 0), (.lit (.int .u64 9218868437227405312))] 15 [(.ri .u64)], .setB0 16 (.cmp .eql (.var 15) (.lit 9218868437227405312))] 16
 (.nb [.call 19 [(.ivar .u64 0), (.lit (.int .u64 9223372036854775808))] 17 [(.ri .u64)], .setB0 18 (.cmp .eql (.var 17) (.lit 9223372036854775808))] 18
 (.nb [.call 19 [(.ivar .u64 0), (.lit (.int .u64 9218868437227405312))] 19 [(.ri .u64)], .setB0 20 (.cmp .eql (.var 19) (.lit 9218868437227405312))] 20
 (.nb [.call 20 [(.ivar .u64 0), (.lit (.int .u64 9223372036854775808))] 21 [(.ri .u64)], .setB0 22 (.cmp .eql (.var 21) (.lit 9218868437227405312))] 22
 (.nb [.call 20 [(.ivar .u64 0), (.lit (.int .u64 9218868437227405312))] 23 [(.ri .u64)], .setB0 24 (.cmp .eql (.var 23) (.lit 9223372036854775808))] 24
 (.leaf [.call 18 [(.ivar .u64 0), (.ivar .u64 0)] 25 [(.ri .u64)], .setB0 26 (.cmp .eql (.var 25) (.lit 0))] (.w (.c (.bvar 26 false))))
 (.leaf [] (.w (.c (.lit (.bool false))))))
 (.leaf [] (.w (.c (.lit (.bool false))))))
 (.leaf [] (.w (.c (.lit (.bool false))))))
 (.leaf [] (.w (.c (.lit (.bool false))))))
 (.leaf [] (.w (.c (.lit (.bool false))))))
 (.leaf [] (.w (.c (.lit (.bool false)))))))
 (.nb [.setB0 12 (.all [(.bb (.var 8 false) (.lit false))])] 12
 (.nb [.call 16 [(.ivar .u64 0), (.lit (.int .u64 9223372036854775808))] 13 [(.ri .u64)], .setB0 14 (.cmp .eql (.var 13) (.var 0))] 14
 (.nb [.call 16 [(.ivar .u64 0), (.lit (.int .u64 9218868437227405312))] 15 [(.ri .u64)], .setB0 16 (.cmp .eql (.var 15) (.lit 9218868437227405312))] 16
 (.nb [.call 19 [(.ivar .u64 0), (.lit (.int .u64 9223372036854775808))] 17 [(.ri .u64)], .setB0 18 (.cmp .eql (.var 17) (.lit 9223372036854775808))] 18
 (.nb [.call 19 [(.ivar .u64 0), (.lit (.int .u64 9218868437227405312))] 19 [(.ri .u64)], .setB0 20 (.cmp .eql (.var 19) (.lit 9218868437227405312))] 20
 (.nb [.call 20 [(.ivar .u64 0), (.lit (.int .u64 9223372036854775808))] 21 [(.ri .u64)], .setB0 22 (.cmp .eql (.var 21) (.lit 18442240474082181120))] 22
 (.nb [.call 20 [(.ivar .u64 0), (.lit (.int .u64 9218868437227405312))] 23 [(.ri .u64)], .setB0 24 (.cmp .eql (.var 23) (.lit 0))] 24
 (.leaf [.call 18 [(.ivar .u64 0), (.ivar .u64 0)] 25 [(.ri .u64)], .setB0 26 (.cmp .eql (.var 25) (.lit 0))] (.w (.c (.bvar 26 false))))
 (.leaf [] (.w (.c (.lit (.bool false))))))
 (.leaf [] (.w (.c (.lit (.bool false))))))
 (.leaf [] (.w (.c (.lit (.bool false))))))
 (.leaf [] (.w (.c (.lit (.bool false))))))
 (.leaf [] (.w (.c (.lit (.bool false))))))
 (.leaf [] (.w (.c (.lit (.bool false))))))
 (.nb [.call 16 [(.ivar .u64 0), (.lit (.int .u64 9223372036854775808))] 13 [(.ri .u64)], .setB0 14 (.cmp .eql (.var 13) (.var 0))] 14
 (.nb [.call 16 [(.ivar .u64 0), (.lit (.int .u64 9218868437227405312))] 15 [(.ri .u64)], .setB0 16 (.cmp .eql (.var 15) (.lit 9218868437227405312))] 16
 (.nb [.call 19 [(.ivar .u64 0), (.lit (.int .u64 9223372036854775808))] 17 [(.ri .u64)], .setB0 18 (.cmp .eql (.var 17) (.lit 9223372036854775808))] 18
 (.nb [.call 19 [(.ivar .u64 0), (.lit (.int .u64 9218868437227405312))] 19 [(.ri .u64)], .setB0 20 (.cmp .eql (.var 19) (.lit 9218868437227405312))] 20
 (.nb [.call 20 [(.ivar .u64 0), (.lit (.int .u64 9223372036854775808))] 21 [(.ri .u64)], .setB0 22 (.cmp .eql (.var 21) (.lit 18442240474082181120))] 22
 (.nb [.call 20 [(.ivar .u64 0), (.lit (.int .u64 9218868437227405312))] 23 [(.ri .u64)], .setB0 24 (.cmp .eql (.var 23) (.lit 9223372036854775808))] 24
 (.leaf [.call 18 [(.ivar .u64 0), (.ivar .u64 0)] 25 [(.ri .u64)], .setB0 26 (.cmp .eql (.var 25) (.lit 0))] (.w (.c (.bvar 26 false))))
 (.leaf [] (.w (.c (.lit (.bool false))))))
 (.leaf [] (.w (.c (.lit (.bool false))))))
 (.leaf [] (.w (.c (.lit (.bool false))))))
 (.leaf [] (.w (.c (.lit (.bool false))))))
 (.leaf [] (.w (.c (.lit (.bool false))))))
 (.leaf [] (.w (.c (.lit (.bool false))))))))
 (.nb [.setB0 11 (.all [(.bb (.var 8 false) (.lit true))])] 11
 (.nb [.setB0 12 (.all [(.bb (.var 8 false) (.lit false))])] 12
 (.nb [.call 16 [(.ivar .u64 0), (.lit (.int .u64 9223372036854775808))] 13 [(.ri .u64)], .setB0 14 (.cmp .eql (.var 13) (.var 0))] 14
 (.nb [.call 16 [(.ivar .u64 0), (.lit (.int .u64 9218868437227405312))] 15 [(.ri .u64)], .setB0 16 (.cmp .eql (.var 15) (.lit 9218868437227405312))] 16
 (.nb [.call 19 [(.ivar .u64 0), (.lit (.int .u64 9223372036854775808))] 17 [(.ri .u64)], .setB0 18 (.cmp .eql (.var 17) (.lit 9223372036854775808))] 18
 (.nb [.call 19 [(.ivar .u64 0), (.lit (.int .u64 9218868437227405312))] 19 [(.ri .u64)], .setB0 20 (.cmp .eql (.var 19) (.lit 18442240474082181120))] 20
 (.nb [.call 20 [(.ivar .u64 0), (.lit (.int .u64 9223372036854775808))] 21 [(.ri .u64)], .setB0 22 (.cmp .eql (.var 21) (.lit 9218868437227405312))] 22
 (.nb [.call 20 [(.ivar .u64 0), (.lit (.int .u64 9218868437227405312))] 23 [(.ri .u64)], .setB0 24 (.cmp .eql (.var 23) (.lit 0))] 24
 (.leaf [.call 18 [(.ivar .u64 0), (.ivar .u64 0)] 25 [(.ri .u64)], .setB0 26 (.cmp .eql (.var 25) (.lit 0))] (.w (.c (.bvar 26 false))))
 (.leaf [] (.w (.c (.lit (.bool false))))))
 (.leaf [] (.w (.c (.lit (.bool false))))))
 (.leaf [] (.w (.c (.lit (.bool false))))))
 (.leaf [] (.w (.c (.lit (.bool false))))))
 (.leaf [] (.w (.c (.lit (.bool false))))))
 (.leaf [] (.w (.c (.lit (.bool false))))))
 (.nb [.call 16 [(.ivar .u64 0), (.lit (.int .u64 9223372036854775808))] 13 [(.ri .u64)], .setB0 14 (.cmp .eql (.var 13) (.var 0))] 14
 (.nb [.call 16 [(.ivar .u64 0), (.lit (.int .u64 9218868437227405312))] 15 [(.ri .u64)], .setB0 16 (.cmp .eql (.var 15) (.lit 9218868437227405312))] 16
 (.nb [.call 19 [(.ivar .u64 0), (.lit (.int .u64 9223372036854775808))] 17 [(.ri .u64)], .setB0 18 (.cmp .eql (.var 17) (.lit 9223372036854775808))] 18
 (.nb [.call 19 [(.ivar .u64 0), (.lit (.int .u64 9218868437227405312))] 19 [(.ri .u64)], .setB0 20 (.cmp .eql (.var 19) (.lit 18442240474082181120))] 20
 (.nb [.call 20 [(.ivar .u64 0), (.lit (.int .u64 9223372036854775808))] 21 [(.ri .u64)], .setB0 22 (.cmp .eql (.var 21) (.lit 9218868437227405312))] 22
 (.nb [.call 20 [(.ivar .u64 0), (.lit (.int .u64 9218868437227405312))] 23 [(.ri .u64)], .setB0 24 (.cmp .eql (.var 23) (.lit 9223372036854775808))] 24
 (.leaf [.call 18 [(.ivar .u64 0), (.ivar .u64 0)] 25 [(.ri .u64)], .setB0 26 (.cmp .eql (.var 25) (.lit 0))] (.w (.c (.bvar 26 false))))
 (.leaf [] (.w (.c (.lit (.bool false))))))
 (.leaf [] (.w (.c (.lit (.bool false))))))
 (.leaf [] (.w (.c (.lit (.bool false))))))
 (.leaf [] (.w (.c (.lit (.bool false))))))
 (.leaf [] (.w (.c (.lit (.bool false))))))
 (.leaf [] (.w (.c (.lit (.bool false)))))))
 (.nb [.setB0 12 (.all [(.bb (.var 8 false) (.lit false))])] 12
 (.nb [.call 16 [(.ivar .u64 0), (.lit (.int .u64 9223372036854775808))] 13 [(.ri .u64)], .setB0 14 (.cmp .eql (.var 13) (.var 0))] 14
 (.nb [.call 16 [(.ivar .u64 0), (.lit (.int .u64 9218868437227405312))] 15 [(.ri .u64)], .setB0 16 (.cmp .eql (.var 15) (.lit 9218868437227405312))] 16
 (.nb [.call 19 [(.ivar .u64 0), (.lit (.int .u64 9223372036854775808))] 17 [(.ri .u64)], .setB0 18 (.cmp .eql (.var 17) (.lit 9223372036854775808))] 18
 (.nb [.call 19 [(.ivar .u64 0), (.lit (.int .u64 9218868437227405312))] 19 [(.ri .u64)], .setB0 20 (.cmp .eql (.var 19) (.lit 18442240474082181120))] 20
 (.nb [.call 20 [(.ivar .u64 0), (.lit (.int .u64 9223372036854775808))] 21 [(.ri .u64)], .setB0 22 (.cmp .eql (.var 21) (.lit 18442240474082181120))] 22
 (.nb [.call 20 [(.ivar .u64 0), (.lit (.int .u64 9218868437227405312))] 23 [(.ri .u64)], .setB0 24 (.cmp .eql (.var 23) (.lit 0))] 24
 (.leaf [.call 18 [(.ivar .u64 0), (.ivar .u64 0)] 25 [(.ri .u64)], .setB0 26 (.cmp .eql (.var 25) (.lit 0))] (.w (.c (.bvar 26 false))))
 (.leaf [] (.w (.c (.lit (.bool false))))))
 (.leaf [] (.w (.c (.lit (.bool false))))))
 (.leaf [] (.w (.c (.lit (.bool false))))))
 (.leaf [] (.w (.c (.lit (.bool false))))))
 (.leaf [] (.w (.c (.lit (.bool false))))))
 (.leaf [] (.w (.c (.lit (.bool false))))))
 (.nb [.call 16 [(.ivar .u64 0), (.lit (.int .u64 9223372036854775808))] 13 [(.ri .u64)], .setB0 14 (.cmp .eql (.var 13) (.var 0))] 14
 (.nb [.call 16 [(.ivar .u64 0), (.lit (.int .u64 9218868437227405312))] 15 [(.ri .u64)], .setB0 16 (.cmp .eql (.var 15) (.lit 9218868437227405312))] 16
 (.nb [.call 19 [(.ivar .u64 0), (.lit (.int .u64 9223372036854775808))] 17 [(.ri .u64)], .setB0 18 (.cmp .eql (.var 17) (.lit 9223372036854775808))] 18
 (.nb [.call 19 [(.ivar .u64 0), (.lit (.int .u64 9218868437227405312))] 19 [(.ri .u64)], .setB0 20 (.cmp .eql (.var 19) (.lit 18442240474082181120))] 20
 (.nb [.call 20 [(.ivar .u64 0), (.lit (.int .u64 9223372036854775808))] 21 [(.ri .u64)], .setB0 22 (.cmp .eql (.var 21) (.lit 18442240474082181120))] 22
 (.nb [.call 20 [(.ivar .u64 0), (.lit (.int .u64 9218868437227405312))] 23 [(.ri .u64)], .setB0 24 (.cmp .eql (.var 23) (.lit 9223372036854775808))] 24
 (.leaf [.call 18 [(.ivar .u64 0), (.ivar .u64 0)] 25 [(.ri .u64)], .setB0 26 (.cmp .eql (.var 25) (.lit 0))] (.w (.c (.bvar 26 false))))
 (.leaf [] (.w (.c (.lit (.bool false))))))
 (.leaf [] (.w (.c (.lit (.bool false))))))
 (.leaf [] (.w (.c (.lit (.bool false))))))
 (.leaf [] (.w (.c (.lit (.bool false))))))
 (.leaf [] (.w (.c (.lit (.bool false))))))
 (.leaf [] (.w (.c (.lit (.bool false))))))))))
theorem FloatEdgesT2_ok : LT.Ok FloatEdgesR FloatEdgesT2 [.db false, .db true, .db false, .db true, .db true] [.decB 6 false, .setB0 6 (.cmp .neq (.var 4) (.lit 2)), .decB 5 true, .setB0 5 (.cmp .neq (.var 4) (.lit 1)), .call 12 [(.ivar .u64 0)] 4 [(.ri .i64)], .decB 2 false, .decB 1 true, .decB 3 true, .call 11 [] 3 [.rb]] :=
 (LT.ok_nb (LT.ok_nb (LT.ok_nb (LT.ok_nb (LT.ok_nb (LT.ok_nb (LT.ok_nb (LT.ok_nb (LT.ok_nb (LT.ok_nb (LT.ok_leaf (by kernel_rfl))
 (LT.ok_leaf (by kernel_rfl)))
 (LT.ok_leaf (by kernel_rfl)))
 (LT.ok_leaf (by kernel_rfl)))
 (LT.ok_leaf (by kernel_rfl)))
 (LT.ok_leaf (by kernel_rfl)))
 (LT.ok_leaf (by kernel_rfl)))
 (LT.ok_nb (LT.ok_nb (LT.ok_nb (LT.ok_nb (LT.ok_nb (LT.ok_nb (LT.ok_leaf (by kernel_rfl))
 (LT.ok_leaf (by kernel_rfl)))
 (LT.ok_leaf (by kernel_rfl)))
 (LT.ok_leaf (by kernel_rfl)))
 (LT.ok_leaf (by kernel_rfl)))
 (LT.ok_leaf (by kernel_rfl)))
 (LT.ok_leaf (by kernel_rfl))))
 (LT.ok_nb (LT.ok_nb (LT.ok_nb (LT.ok_nb (LT.ok_nb (LT.ok_nb (LT.ok_nb (LT.ok_leaf (by kernel_rfl))
 (LT.ok_leaf (by kernel_rfl)))
 (LT.ok_leaf (by kernel_rfl)))
 (LT.ok_leaf (by kernel_rfl)))
 (LT.ok_leaf (by kernel_rfl)))
 (LT.ok_leaf (by kernel_rfl)))
 (LT.ok_leaf (by kernel_rfl)))
 (LT.ok_nb (LT.ok_nb (LT.ok_nb (LT.ok_nb (LT.ok_nb (LT.ok_nb (LT.ok_leaf (by kernel_rfl))
 (LT.ok_leaf (by kernel_rfl)))
 (LT.ok_leaf (by kernel_rfl)))
 (LT.ok_leaf (by kernel_rfl)))
 (LT.ok_leaf (by kernel_rfl)))
 (LT.ok_leaf (by kernel_rfl)))
 (LT.ok_leaf (by kernel_rfl)))))
 (LT.ok_nb (LT.ok_nb (LT.ok_nb (LT.ok_nb (LT.ok_nb (LT.ok_nb (LT.ok_nb (LT.ok_nb (LT.ok_leaf (by kernel_rfl))
 (LT.ok_leaf (by kernel_rfl)))
 (LT.ok_leaf (by kernel_rfl)))
 (LT.ok_leaf (by kernel_rfl)))
 (LT.ok_leaf (by kernel_rfl)))
 (LT.ok_leaf (by kernel_rfl)))
 (LT.ok_leaf (by kernel_rfl)))
 (LT.ok_nb (LT.ok_nb (LT.ok_nb (LT.ok_nb (LT.ok_nb (LT.ok_nb (LT.ok_leaf (by kernel_rfl))
 (LT.ok_leaf (by kernel_rfl)))
 (LT.ok_leaf (by kernel_rfl)))
 (LT.ok_leaf (by kernel_rfl)))
 (LT.ok_leaf (by kernel_rfl)))
 (LT.ok_leaf (by kernel_rfl)))
 (LT.ok_leaf (by kernel_rfl))))
 (LT.ok_nb (LT.ok_nb (LT.ok_nb (LT.ok_nb (LT.ok_nb (LT.ok_nb (LT.ok_nb (LT.ok_leaf (by kernel_rfl))
 (LT.ok_leaf (by kernel_rfl)))
 (LT.ok_leaf (by kernel_rfl)))
 (LT.ok_leaf (by kernel_rfl)))
 (LT.ok_leaf (by kernel_rfl)))
 (LT.ok_leaf (by kernel_rfl)))
 (LT.ok_leaf (by kernel_rfl)))
 (LT.ok_nb (LT.ok_nb (LT.ok_nb (LT.ok_nb (LT.ok_nb (LT.ok_nb (LT.ok_leaf (by kernel_rfl))
 (LT.ok_leaf (by kernel_rfl)))
 (LT.ok_leaf (by kernel_rfl)))
 (LT.ok_leaf (by kernel_rfl)))
 (LT.ok_leaf (by kernel_rfl)))
 (LT.ok_leaf (by kernel_rfl)))
 (LT.ok_leaf (by kernel_rfl))))))
 (LT.ok_nb (LT.ok_nb (LT.ok_nb (LT.ok_nb (LT.ok_nb (LT.ok_nb (LT.ok_nb (LT.ok_nb (LT.ok_nb (LT.ok_leaf (by kernel_rfl))
 (LT.ok_leaf (by kernel_rfl)))
 (LT.ok_leaf (by kernel_rfl)))
 (LT.ok_leaf (by kernel_rfl)))
 (LT.ok_leaf (by kernel_rfl)))
 (LT.ok_leaf (by kernel_rfl)))
 (LT.ok_leaf (by kernel_rfl)))
 (LT.ok_nb (LT.ok_nb (LT.ok_nb (LT.ok_nb (LT.ok_nb (LT.ok_nb (LT.ok_leaf (by kernel_rfl))
 (LT.ok_leaf (by kernel_rfl)))
 (LT.ok_leaf (by kernel_rfl)))
 (LT.ok_leaf (by kernel_rfl)))
 (LT.ok_leaf (by kernel_rfl)))
 (LT.ok_leaf (by kernel_rfl)))
 (LT.ok_leaf (by kernel_rfl))))
 (LT.ok_nb (LT.ok_nb (LT.ok_nb (LT.ok_nb (LT.ok_nb (LT.ok_nb (LT.ok_nb (LT.ok_leaf (by kernel_rfl))
 (LT.ok_leaf (by kernel_rfl)))
 (LT.ok_leaf (by kernel_rfl)))
 (LT.ok_leaf (by kernel_rfl)))
 (LT.ok_leaf (by kernel_rfl)))
 (LT.ok_leaf (by kernel_rfl)))
 (LT.ok_leaf (by kernel_rfl)))
 (LT.ok_nb (LT.ok_nb (LT.ok_nb (LT.ok_nb (LT.ok_nb (LT.ok_nb (LT.ok_leaf (by kernel_rfl))
 (LT.ok_leaf (by kernel_rfl)))
 (LT.ok_leaf (by kernel_rfl)))
 (LT.ok_leaf (by kernel_rfl)))
 (LT.ok_leaf (by kernel_rfl)))
 (LT.ok_leaf (by kernel_rfl)))
 (LT.ok_leaf (by kernel_rfl)))))
 (LT.ok_nb (LT.ok_nb (LT.ok_nb (LT.ok_nb (LT.ok_nb (LT.ok_nb (LT.ok_nb (LT.ok_nb (LT.ok_leaf (by kernel_rfl))
 (LT.ok_leaf (by kernel_rfl)))
 (LT.ok_leaf (by kernel_rfl)))
 (LT.ok_leaf (by kernel_rfl)))
 (LT.ok_leaf (by kernel_rfl)))
 (LT.ok_leaf (by kernel_rfl)))
 (LT.ok_leaf (by kernel_rfl)))
 (LT.ok_nb (LT.ok_nb (LT.ok_nb (LT.ok_nb (LT.ok_nb (LT.ok_nb (LT.ok_leaf (by kernel_rfl))
 (LT.ok_leaf (by kernel_rfl)))
 (LT.ok_leaf (by kernel_rfl)))
 (LT.ok_leaf (by kernel_rfl)))
 (LT.ok_leaf (by kernel_rfl)))
 (LT.ok_leaf (by kernel_rfl)))
 (LT.ok_leaf (by kernel_rfl))))
 (LT.ok_nb (LT.ok_nb (LT.ok_nb (LT.ok_nb (LT.ok_nb (LT.ok_nb (LT.ok_nb (LT.ok_leaf (by kernel_rfl))
 (LT.ok_leaf (by kernel_rfl)))
 (LT.ok_leaf (by kernel_rfl)))
 (LT.ok_leaf (by kernel_rfl)))
 (LT.ok_leaf (by kernel_rfl)))
 (LT.ok_leaf (by kernel_rfl)))
 (LT.ok_leaf (by kernel_rfl)))
 (LT.ok_nb (LT.ok_nb (LT.ok_nb (LT.ok_nb (LT.ok_nb (LT.ok_nb (LT.ok_leaf (by kernel_rfl))
 (LT.ok_leaf (by kernel_rfl)))
 (LT.ok_leaf (by kernel_rfl)))
 (LT.ok_leaf (by kernel_rfl)))
 (LT.ok_leaf (by kernel_rfl)))
 (LT.ok_leaf (by kernel_rfl)))
 (LT.ok_leaf (by kernel_rfl)))))))
noncomputable def FloatEdgesT3 : LT :=
 (.nb [.setI0 6 (.bin .shr .u64 (.var 0) (.lit 63)), .setB0 7 (.cmp .eql (.var 6) (.lit 1)), .setB0 8 (.all [(.bb (.var 7 false) (.lit true))])] 8
 (.nb [.setB0 9 (.all [(.bb (.var 7 false) (.lit false))])] 9
 (.nb [.setB0 10 (.all [(.bb (.var 7 false) (.lit true))])] 10
 (.nb [.setB0 11 (.all [(.bb (.var 7 false) (.lit false))])] 11
 (.nb [.call 16 [(.ivar .u64 0), (.lit (.int .u64 9223372036854775808))] 12 [(.ri .u64)], .setB0 13 (.cmp .eql (.var 12) (.var 0))] 13
 (.nb [.call 16 [(.ivar .u64 0), (.lit (.int .u64 9218868437227405312))] 14 [(.ri .u64)], .setB0 15 (.cmp .eql (.var 14) (.lit 9218868437227405312))] 15
 (.nb [.call 19 [(.ivar .u64 0), (.lit (.int .u64 9223372036854775808))] 16 [(.ri .u64)], .setB0 17 (.cmp .eql (.var 16) (.lit 0))] 17
 (.nb [.call 19 [(.ivar .u64 0), (.lit (.int .u64 9218868437227405312))] 18 [(.ri .u64)], .setB0 19 (.cmp .eql (.var 18) (.lit 9218868437227405312))] 19
 (.nb [.call 20 [(.ivar .u64 0), (.lit (.int .u64 9223372036854775808))] 20 [(.ri .u64)], .setB0 21 (.cmp .eql (.var 20) (.lit 9218868437227405312))] 21
 (.nb [.call 20 [(.ivar .u64 0), (.lit (.int .u64 9218868437227405312))] 22 [(.ri .u64)], .setB0 23 (.cmp .eql (.var 22) (.lit 0))] 23
 (.leaf [.call 18 [(.ivar .u64 0), (.ivar .u64 0)] 24 [(.ri .u64)], .setB0 25 (.cmp .eql (.var 24) (.lit 0))] (.w (.c (.bvar 25 false))))
 (.leaf [] (.w (.c (.lit (.bool false))))))
 (.leaf [] (.w (.c (.lit (.bool false))))))
 (.leaf [] (.w (.c (.lit (.bool false))))))
 (.leaf [] (.w (.c (.lit (.bool false))))))
 (.leaf [] (.w (.c (.lit (.bool false))))))
 (.leaf [] (.w (.c (.lit (.bool false))))))
 (.nb [.call 16 [(.ivar .u64 0), (.lit (.int .u64 9223372036854775808))] 12 [(.ri .u64)], .setB0 13 (.cmp .eql (.var 12) (.var 0))] 13
 (.nb [.call 16 [(.ivar .u64 0), (.lit (.int .u64 9218868437227405312))] 14 [(.ri .u64)], .setB0 15 (.cmp .eql (.var 14) (.lit 9218868437227405312))] 15
 (.nb [.call 19 [(.ivar .u64 0), (.lit (.int .u64 9223372036854775808))] 16 [(.ri .u64)], .setB0 17 (.cmp .eql (.var 16) (.lit 0))] 17
 (.nb [.call 19 [(.ivar .u64 0), (.lit (.int .u64 9218868437227405312))] 18 [(.ri .u64)], .setB0 19 (.cmp .eql (.var 18) (.lit 9218868437227405312))] 19
 (.nb [.call 20 [(.ivar .u64 0), (.lit (.int .u64 9223372036854775808))] 20 [(.ri .u64)], .setB0 21 (.cmp .eql (.var 20) (.lit 9218868437227405312))] 21
 (.nb [.call 20 [(.ivar .u64 0), (.lit (.int .u64 9218868437227405312))] 22 [(.ri .u64)], .setB0 23 (.cmp .eql (.var 22) (.lit 9223372036854775808))] 23
 (.leaf [.call 18 [(.ivar .u64 0), (.ivar .u64 0)] 24 [(.ri .u64)], .setB0 25 (.cmp .eql (.var 24) (.lit 0))] (.w (.c (.bvar 25 false))))
 (.leaf [] (.w (.c (.lit (.bool false))))))
 (.leaf [] (.w (.c (.lit (.bool false))))))
 (.leaf [] (.w (.c (.lit (.bool false))))))
 (.leaf [] (.w (.c (.lit (.bool false))))))
 (.leaf [] (.w (.c (.lit (.bool false))))))
 (.leaf [] (.w (.c (.lit (.bool false)))))))
 (.nb [.setB0 11 (.all [(.bb (.var 7 false) (.lit false))])] 11
 (.nb [.call 16 [(.ivar .u64 0), (.lit (.int .u64 9223372036854775808))] 12 [(.ri .u64)], .setB0 13 (.cmp .eql (.var 12) (.var 0))] 13
 (.nb [.call 16 [(.ivar .u64 0), (.lit (.int .u64 9218868437227405312))] 14 [(.ri .u64)], .setB0 15 (.cmp .eql (.var 14) (.lit 9218868437227405312))] 15
 (.nb [.call 19 [(.ivar .u64 0), (.lit (.int .u64 9223372036854775808))] 16 [(.ri .u64)], .setB0 17 (.cmp .eql (.var 16) (.lit 0))] 17
 (.nb [.call 19 [(.ivar .u64 0), (.lit (.int .u64 9218868437227405312))] 18 [(.ri .u64)], .setB0 19 (.cmp .eql (.var 18) (.lit 9218868437227405312))] 19
 (.nb [.call 20 [(.ivar .u64 0), (.lit (.int .u64 9223372036854775808))] 20 [(.ri .u64)], .setB0 21 (.cmp .eql (.var 20) (.lit 18442240474082181120))] 21
 (.nb [.call 20 [(.ivar .u64 0), (.lit (.int .u64 9218868437227405312))] 22 [(.ri .u64)], .setB0 23 (.cmp .eql (.var 22) (.lit 0))] 23
 (.leaf [.call 18 [(.ivar .u64 0), (.ivar .u64 0)] 24 [(.ri .u64)], .setB0 25 (.cmp .eql (.var 24) (.lit 0))] (.w (.c (.bvar 25 false))))
 (.leaf [] (.w (.c (.lit (.bool false))))))
 (.leaf [] (.w (.c (.lit (.bool false))))))
 (.leaf [] (.w (.c (.lit (.bool false))))))
 (.leaf [] (.w (.c (.lit (.bool false))))))
 (.leaf [] (.w (.c (.lit (.bool false))))))
 (.leaf [] (.w (.c (.lit (.bool false))))))
 (.nb [.call 16 [(.ivar .u64 0), (.lit (.int .u64 9223372036854775808))] 12 [(.ri .u64)], .setB0 13 (.cmp .eql (.var 12) (.var 0))] 13
 (.nb [.call 16 [(.ivar .u64 0), (.lit (.int .u64 9218868437227405312))] 14 [(.ri .u64)], .setB0 15 (.cmp .eql (.var 14) (.lit 9218868437227405312))] 15
 (.nb [.call 19 [(.ivar .u64 0), (.lit (.int .u64 9223372036854775808))] 16 [(.ri .u64)], .setB0 17 (.cmp .eql (.var 16) (.lit 0))] 17
 (.nb [.call 19 [(.ivar .u64 0), (.lit (.int .u64 9218868437227405312))] 18 [(.ri .u64)], .setB0 19 (.cmp .eql (.var 18) (.lit 9218868437227405312))] 19
 (.nb [.call 20 [(.ivar .u64 0), (.lit (.int .u64 9223372036854775808))] 20 [(.ri .u64)], .setB0 21 (.cmp .eql (.var 20) (.lit 18442240474082181120))] 21
 (.nb [.call 20 [(.ivar .u64 0), (.lit (.int .u64 9218868437227405312))] 22 [(.ri .u64)], .setB0 23 (.cmp .eql (.var 22) (.lit 9223372036854775808))] 23
 (.leaf [.call 18 [(.ivar .u64 0), (.ivar .u64 0)] 24 [(.ri .u64)], .setB0 25 (.cmp .eql (.var 24) (.lit 0))] (.w (.c (.bvar 25 false))))
 (.leaf [] (.w (.c (.lit (.bool false))))))
 (.leaf [] (.w (.c (.lit (.bool false))))))
 (.leaf [] (.w (.c (.lit (.bool false))))))
 (.leaf [] (.w (.c (.lit (.bool false))))))
 (.leaf [] (.w (.c (.lit (.bool false))))))
 (.leaf [] (.w (.c (.lit (.bool false))))))))
 (.nb [.setB0 10 (.all [(.bb (.var 7 false) (.lit true))])] 10
 (.nb [.setB0 11 (.all [(.bb (.var 7 false) (.lit false))])] 11
 (.nb [.call 16 [(.ivar .u64 0), (.lit (.int .u64 9223372036854775808))] 12 [(.ri .u64)], .setB0 13 (.cmp .eql (.var 12) (.var 0))] 13
 (.nb [.call 16 [(.ivar .u64 0), (.lit (.int .u64 9218868437227405312))] 14 [(.ri .u64)], .setB0 15 (.cmp .eql (.var 14) (.lit 9218868437227405312))] 15
 (.nb [.call 19 [(.ivar .u64 0), (.lit (.int .u64 9223372036854775808))] 16 [(.ri .u64)], .setB0 17 (.cmp .eql (.var 16) (.lit 0))] 17
 (.nb [.call 19 [(.ivar .u64 0), (.lit (.int .u64 9218868437227405312))] 18 [(.ri .u64)], .setB0 19 (.cmp .eql (.var 18) (.lit 18442240474082181120))] 19
 (.nb [.call 20 [(.ivar .u64 0), (.lit (.int .u64 9223372036854775808))] 20 [(.ri .u64)], .setB0 21 (.cmp .eql (.var 20) (.lit 9218868437227405312))] 21
 (.nb [.call 20 [(.ivar .u64 0), (.lit (.int .u64 9218868437227405312))] 22 [(.ri .u64)], .setB0 23 (.cmp .eql (.var 22) (.lit 0))] 23
 (.leaf [.call 18 [(.ivar .u64 0), (.ivar .u64 0)] 24 [(.ri .u64)], .setB0 25 (.cmp .eql (.var 24) (.lit 0))] (.w (.c (.bvar 25 false))))
 (.leaf [] (.w (.c (.lit (.bool false))))))
 (.leaf [] (.w (.c (.lit (.bool false))))))
 (.leaf [] (.w (.c (.lit (.bool false))))))
 (.leaf [] (.w (.c (.lit (.bool false))))))
 (.leaf [] (.w (.c (.lit (.bool false))))))
 (.leaf [] (.w (.c (.lit (.bool false))))))
 (.nb [.call 16 [(.ivar .u64 0), (.lit (.int .u64 9223372036854775808))] 12 [(.ri .u64)], .setB0 13 (.cmp .eql (.var 12) (.var 0))] 13
 (.nb [.call 16 [(.ivar .u64 0), (.lit (.int .u64 9218868437227405312))] 14 [(.ri .u64)], .setB0 15 (.cmp .eql (.var 14) (.lit 9218868437227405312))] 15
 (.nb [.call 19 [(.ivar .u64 0), (.lit (.int .u64 9223372036854775808))] 16 [(.ri .u64)], .setB0 17 (.cmp .eql (.var 16) (.lit 0))] 17
 (.nb [.call 19 [(.ivar .u64 0), (.lit (.int .u64 9218868437227405312))] 18 [(.ri .u64)], .setB0 19 (.cmp .eql (.var 18) (.lit 18442240474082181120))] 19
 (.nb [.call 20 [(.ivar .u64 0), (.lit (.int .u64 9223372036854775808))] 20 [(.ri .u64)], .setB0 21 (.cmp .eql (.var 20) (.lit 9218868437227405312))] 21
 (.nb [.call 20 [(.ivar .u64 0), (.lit (.int .u64 9218868437227405312))] 22 [(.ri .u64)], .setB0 23 (.cmp .eql (.var 22) (.lit 9223372036854775808))] 23
 (.leaf [.call 18 [(.ivar .u64 0), (.ivar .u64 0)] 24 [(.ri .u64)], .setB0 25 (.cmp .eql (.var 24) (.lit 0))] (.w (.c (.bvar 25 false))))
 (.leaf [] (.w (.c (.lit (.bool false))))))
 (.leaf [] (.w (.c (.lit (.bool false))))))
 (.leaf [] (.w (.c (.lit (.bool false))))))
 (.leaf [] (.w (.c (.lit (.bool false))))))
 (.leaf [] (.w (.c (.lit (.bool false))))))
 (.leaf [] (.w (.c (.lit (.bool false)))))))
 (.nb [.setB0 11 (.all [(.bb (.var 7 false) (.lit false))])] 11
 (.nb [.call 16 [(.ivar .u64 0), (.lit (.int .u64 9223372036854775808))] 12 [(.ri .u64)], .setB0 13 (.cmp .eql (.var 12) (.var 0))] 13
 (.nb [.call 16 [(.ivar .u64 0), (.lit (.int .u64 9218868437227405312))] 14 [(.ri .u64)], .setB0 15 (.cmp .eql (.var 14) (.lit 9218868437227405312))] 15
 (.nb [.call 19 [(.ivar .u64 0), (.lit (.int .u64 9223372036854775808))] 16 [(.ri .u64)], .setB0 17 (.cmp .eql (.var 16) (.lit 0))] 17
 (.nb [.call 19 [(.ivar .u64 0), (.lit (.int .u64 9218868437227405312))] 18 [(.ri .u64)], .setB0 19 (.cmp .eql (.var 18) (.lit 18442240474082181120))] 19
 (.nb [.call 20 [(.ivar .u64 0), (.lit (.int .u64 9223372036854775808))] 20 [(.ri .u64)], .setB0 21 (.cmp .eql (.var 20) (.lit 18442240474082181120))] 21
 (.nb [.call 20 [(.ivar .u64 0), (.lit (.int .u64 9218868437227405312))] 22 [(.ri .u64)], .setB0 23 (.cmp .eql (.var 22) (.lit 0))] 23
 (.leaf [.call 18 [(.ivar .u64 0), (.ivar .u64 0)] 24 [(.ri .u64)], .setB0 25 (.cmp .eql (.var 24) (.lit 0))] (.w (.c (.bvar 25 false))))
 (.leaf [] (.w (.c (.lit (.bool false))))))
 (.leaf [] (.w (.c (.lit (.bool false))))))
 (.leaf [] (.w (.c (.lit (.bool false))))))
 (.leaf [] (.w (.c (.lit (.bool false))))))
 (.leaf [] (.w (.c (.lit (.bool false))))))
 (.leaf [] (.w (.c (.lit (.bool false))))))
 (.nb [.call 16 [(.ivar .u64 0), (.lit (.int .u64 9223372036854775808))] 12 [(.ri .u64)], .setB0 13 (.cmp .eql (.var 12) (.var 0))] 13
 (.nb [.call 16 [(.ivar .u64 0), (.lit (.int .u64 9218868437227405312))] 14 [(.ri .u64)], .setB0 15 (.cmp .eql (.var 14) (.lit 9218868437227405312))] 15
 (.nb [.call 19 [(.ivar .u64 0), (.lit (.int .u64 9223372036854775808))] 16 [(.ri .u64)], .setB0 17 (.cmp .eql (.var 16) (.lit 0))] 17
 (.nb [.call 19 [(.ivar .u64 0), (.lit (.int .u64 9218868437227405312))] 18 [(.ri .u64)], .setB0 19 (.cmp .eql (.var 18) (.lit 18442240474082181120))] 19
 (.nb [.call 20 [(.ivar .u64 0), (.lit (.int .u64 9223372036854775808))] 20 [(.ri .u64)], .setB0 21 (.cmp .eql (.var 20) (.lit 18442240474082181120))] 21
 (.nb [.call 20 [(.ivar .u64 0), (.lit (.int .u64 9218868437227405312))] 22 [(.ri .u64)], .setB0 23 (.cmp .eql (.var 22) (.lit 9223372036854775808))] 23
 (.leaf [.call 18 [(.ivar .u64 0), (.ivar .u64 0)] 24 [(.ri .u64)], .setB0 25 (.cmp .eql (.var 24) (.lit 0))] (.w (.c (.bvar 25 false))))
 (.leaf [] (.w (.c (.lit (.bool false))))))
 (.leaf [] (.w (.c (.lit (.bool false))))))
 (.leaf [] (.w (.c (.lit (.bool false))))))
 (.leaf [] (.w (.c (.lit (.bool false))))))
 (.leaf [] (.w (.c (.lit (.bool false))))))
 (.leaf [] (.w (.c (.lit (.bool false)))))))))
 (.nb [.setB0 9 (.all [(.bb (.var 7 false) (.lit false))])] 9
 (.nb [.setB0 10 (.all [(.bb (.var 7 false) (.lit true))])] 10
 (.nb [.setB0 11 (.all [(.bb (.var 7 false) (.lit false))])] 11
 (.nb [.call 16 [(.ivar .u64 0), (.lit (.int .u64 9223372036854775808))] 12 [(.ri .u64)], .setB0 13 (.cmp .eql (.var 12) (.var 0))] 13
 (.nb [.call 16 [(.ivar .u64 0), (.lit (.int .u64 9218868437227405312))] 14 [(.ri .u64)], .setB0 15 (.cmp .eql (.var 14) (.lit 9218868437227405312))] 15
 (.nb [.call 19 [(.ivar .u64 0), (.lit (.int .u64 9223372036854775808))] 16 [(.ri .u64)], .setB0 17 (.cmp .eql (.var 16) (.lit 9223372036854775808))] 17
 (.nb [.call 19 [(.ivar .u64 0), (.lit (.int .u64 9218868437227405312))] 18 [(.ri .u64)], .setB0 19 (.cmp .eql (.var 18) (.lit 9218868437227405312))] 19
 (.nb [.call 20 [(.ivar .u64 0), (.lit (.int .u64 9223372036854775808))] 20 [(.ri .u64)], .setB0 21 (.cmp .eql (.var 20) (.lit 9218868437227405312))] 21
 (.nb [.call 20 [(.ivar .u64 0), (.lit (.int .u64 9218868437227405312))] 22 [(.ri .u64)], .setB0 23 (.cmp .eql (.var 22) (.lit 0))] 23
 (.leaf [.call 18 [(.ivar .u64 0), (.ivar .u64 0)] 24 [(.ri .u64)], .setB0 25 (.cmp .eql (.var 24) (.lit 0))] (.w (.c (.bvar 25 false))))
 (.leaf [] (.w (.c (.lit (.bool false))))))
 (.leaf [] (.w (.c (.lit (.bool false))))))
 (.leaf [] (.w (.c (.lit (.bool false))))))
 (.leaf [] (.w (.c (.lit (.bool false))))))
 (.leaf [] (.w (.c (.lit (.bool false))))))
 (.leaf [] (.w (.c (.lit (.bool false))))))
 (.nb [.call 16 [(.ivar .u64 0), (.lit (.int .u64 9223372036854775808))] 12 [(.ri .u64)], .setB0 13 (.cmp .eql (.var 12) (.var 0))] 13
 (.nb [.call 16 [(.ivar .u64 0), (.lit (.int .u64 9218868437227405312))] 14 [(.ri .u64)], .setB0 15 (.cmp .eql (.var 14) (.lit 9218868437227405312))] 15
 (.nb [.call 19 [(.ivar .u64 0), (.lit (.int .u64 9223372036854775808))] 16 [(.ri .u64)], .setB0 17 (.cmp .eql (.var 16) (.lit 9223372036854775808))] 17
 (.nb [.call 19 [(.ivar .u64 0), (.lit (.int .u64 9218868437227405312))] 18 [(.ri .u64)], .setB0 19 (.cmp .eql (.var 18) (.lit 9218868437227405312))] 19
 (.nb [.call 20 [(.ivar .u64 0), (.lit (.int .u64 9223372036854775808))] 20 [(.ri .u64)], .setB0 21 (.cmp .eql (.var 20) (.lit 9218868437227405312))] 21
 (.nb [.call 20 [(.ivar .u64 0), (.lit (.int .u64 9218868437227405312))] 22 [(.ri .u64)], .setB0 23 (.cmp .eql (.var 22) (.lit 9223372036854775808))] 23
 (.leaf [.call 18 [(.ivar .u64 0), (.ivar .u64 0)] 24 [(.ri .u64)], .setB0 25 (.cmp .eql (.var 24) (.lit 0))] (.w (.c (.bvar 25 false))))
 (.leaf [] (.w (.c (.lit (.bool false))))))
 (.leaf [] (.w (.c (.lit (.bool false))))))
 (.leaf [] (.w (.c (.lit (.bool false))))))
 (.leaf [] (.w (.c (.lit (.bool false))))))
 (.leaf [] (.w (.c (.lit (.bool false))))))
 (.leaf [] (.w (.c (.lit (.bool false)))))))
 (.nb [.setB0 11 (.all [(.bb (.var 7 false) (.lit false))])] 11
 (.nb [.call 16 [(.ivar .u64 0), (.lit (.int .u64 9223372036854775808))] 12 [(.ri .u64)], .setB0 13 (.cmp .eql (.var 12) (.var 0))] 13
 (.nb [.call 16 [(.ivar .u64 0), (.lit (.int .u64 9218868437227405312))] 14 [(.ri .u64)], .setB0 15 (.cmp .eql (.var 14) (.lit 9218868437227405312))] 15
 (.nb [.call 19 [(.ivar .u64 0), (.lit (.int .u64 9223372036854775808))] 16 [(.ri .u64)], .setB0 17 (.cmp .eql (.var 16) (.lit 9223372036854775808))] 17
 (.nb [.call 19 [(.ivar .u64 0), (.lit (.int .u64 9218868437227405312))] 18 [(.ri .u64)], .setB0 19 (.cmp .eql (.var 18) (.lit 9218868437227405312))] 19
 (.nb [.call 20 [(.ivar .u64 0), (.lit (.int .u64 9223372036854775808))] 20 [(.ri .u64)], .setB0 21 (.cmp .eql (.var 20) (.lit 18442240474082181120))] 21
 (.nb [.call 20 [(.ivar .u64 0), (.lit (.int .u64 9218868437227405312))] 22 [(.ri .u64)], .setB0 23 (.cmp .eql (.var 22) (.lit 0))] 23
 (.leaf [.call 18 [(.ivar .u64 0), (.ivar .u64 0)] 24 [(.ri .u64)], .setB0 25 (.cmp .eql (.var 24) (.lit 0))] (.w (.c (.bvar 25 false))))
 (.leaf [] (.w (.c (.lit (.bool false))))))
 (.leaf [] (.w (.c (.lit (.bool false))))))
 (.leaf [] (.w (.c (.lit (.bool false))))))
 (.leaf [] (.w (.c (.lit (.bool false))))))
 (.leaf [] (.w (.c (.lit (.bool false))))))
 (.leaf [] (.w (.c (.lit (.bool false))))))
 (.nb [.call 16 [(.ivar .u64 0), (.lit (.int .u64 9223372036854775808))] 12 [(.ri .u64)], .setB0 13 (.cmp .eql (.var 12) (.var 0))] 13
 (.nb [.call 16 [(.ivar .u64 0), (.lit (.int .u64 9218868437227405312))] 14 [(.ri .u64)], .setB0 15 (.cmp .eql (.var 14) (.lit 9218868437227405312))] 15
 (.nb [.call 19 [(.ivar .u64 0), (.lit (.int .u64 9223372036854775808))] 16 [(.ri .u64)], .setB0 17 (.cmp .eql (.var 16) (.lit 9223372036854775808))] 17
 (.nb [.call 19 [(.ivar .u64 0), (.lit (.int .u64 9218868437227405312))] 18 [(.ri .u64)], .setB0 19 (.cmp .eql (.var 18) (.lit 9218868437227405312))] 19
 (.nb [.call 20 [(.ivar .u64 0), (.lit (.int .u64 9223372036854775808))] 20 [(.ri .u64)], .setB0 21 (.cmp .eql (.var 20) (.lit 18442240474082181120))] 21
 (.nb [.call 20 [(.ivar .u64 0), (.lit (.int .u64 9218868437227405312))] 22 [(.ri .u64)], .setB0 23 (.cmp .eql (.var 22) (.lit 9223372036854775808))] 23
 (.leaf [.call 18 [(.ivar .u64 0), (.ivar .u64 0)] 24 [(.ri .u64)], .setB0 25 (.cmp .eql (.var 24) (.lit 0))] (.w (.c (.bvar 25 false))))
 (.leaf [] (.w (.c (.lit (.bool false))))))
 (.leaf [] (.w (.c (.lit (.bool false))))))
 (.leaf [] (.w (.c (.lit (.bool false))))))
 (.leaf [] (.w (.c (.lit (.bool false))))))
 (.leaf [] (.w (.c (.lit (.bool false))))))
 (.leaf [] (.w (.c (.lit (.bool false))))))))
 (.nb [.setB0 10 (.all [(.bb (.var 7 false) (.lit true))])] 10
 (.nb [.setB0 11 (.all [(.bb (.var 7 false) (.lit false))])] 11
 (.nb [.call 16 [(.ivar .u64 0), (.lit (.int .u64 9223372036854775808))] 12 [(.ri .u64)], .setB0 13 (.cmp .eql (.var 12) (.var 0))] 13
 (.nb [.call 16 [(.ivar .u64 0), (.lit (.int .u64 9218868437227405312))] 14 [(.ri .u64)], .setB0 15 (.cmp .eql (.var 14) (.lit 9218868437227405312))] 15
 (.nb [.call 19 [(.ivar .u64 0), (.lit (.int .u64 9223372036854775808))] 16 [(.ri .u64)], .setB0 17 (.cmp .eql (.var 16) (.lit 9223372036854775808))] 17
 (.nb [.call 19 [(.ivar .u64 0), (.lit (.int .u64 9218868437227405312))] 18 [(.ri .u64)], .setB0 19 (.cmp .eql (.var 18) (.lit 18442240474082181120))] 19
 (.nb [.call 20 [(.ivar .u64 0), (.lit (.int .u64 9223372036854775808))] 20 [(.ri .u64)], .setB0 21 (.cmp .eql (.var 20) (.lit 9218868437227405312))] 21
 (.nb [.call 20 [(.ivar .u64 0), (.lit (.int .u64 9218868437227405312))] 22 [(.ri .u64)], .setB0 23 (.cmp .eql (.var 22) (.lit 0))] 23
 (.leaf [.call 18 [(.ivar .u64 0), (.ivar .u64 0)] 24 [(.ri .u64)], .setB0 25 (.cmp .eql (.var 24) (.lit 0))] (.w (.c (.bvar 25 false))))
 (.leaf [] (.w (.c (.lit (.bool false))))))
 (.leaf [] (.w (.c (.lit (.bool false))))))
 (.leaf [] (.w (.c (.lit (.bool false))))))
 (.leaf [] (.w (.c (.lit (.bool false))))))
 (.leaf [] (.w (.c (.lit (.bool false))))))
 (.leaf [] (.w (.c (.lit (.bool false))))))
 (.nb [.call 16 [(.ivar .u64 0), (.lit (.int .u64 9223372036854775808))] 12 [(.ri .u64)], .setB0 13 (.cmp .eql (.var 12) (.var 0))] 13
 (.nb [.call 16 [(.ivar .u64 0), (.lit (.int .u64 9218868437227405312))] 14 [(.ri .u64)], .setB0 15 (.cmp .eql (.var 14) (.lit 9218868437227405312))] 15
 (.nb [.call 19 [(.ivar .u64 0), (.lit (.int .u64 9223372036854775808))] 16 [(.ri .u64)], .setB0 17 (.cmp .eql (.var 16) (.lit 9223372036854775808))] 17
 (.nb [.call 19 [(.ivar .u64 0), (.lit (.int .u64 9218868437227405312))] 18 [(.ri .u64)], .setB0 19 (.cmp .eql (.var 18) (.lit 18442240474082181120))] 19
 (.nb [.call 20 [(.ivar .u64 0), (.lit (.int .u64 9223372036854775808))] 20 [(.ri .u64)], .setB0 21 (.cmp .eql (.var 20) (.lit 9218868437227405312))] 21
 (.nb [.call 20 [(.ivar .u64 0), (.lit (.int .u64 9218868437227405312))] 22 [(.ri .u64)], .setB0 23 (.cmp .eql (.var 22) (.lit 9223372036854775808))] 23
 (.leaf [.call 18 [(.ivar .u64 0), (.ivar .u64 0)] 24 [(.ri .u64)], .setB0 25 (.cmp .eql (.var 24) (.lit 0))] (.w (.c (.bvar 25 false))))
 (.leaf [] (.w (.c (.lit (.bool false))))))
 (.leaf [] (.w (.c (.lit (.bool false))))))
 (.leaf [] (.w (.c (.lit (.bool false))))))
 (.leaf [] (.w (.c (.lit (.bool false))))))
 (.leaf [] (.w (.c (.lit (.bool false))))))
 (.leaf [] (.w (.c (.lit (.bool false)))))))
 (.nb [.setB0 11 (.all [(.bb (.var 7 false) (.lit false))])] 11
 (.nb [.call 16 [(.ivar .u64 0), (.lit (.int .u64 9223372036854775808))] 12 [(.ri .u64)], .setB0 13 (.cmp .eql (.var 12) (.var 0))] 13
 (.nb [.call 16 [(.ivar .u64 0), (.lit (.int .u64 9218868437227405312))] 14 [(.ri .u64)], .setB0 15 (.cmp .eql (.var 14) (.lit 9218868437227405312))] 15
 (.nb [.call 19 [(.ivar .u64 0), (.lit (.int .u64 9223372036854775808))] 16 [(.ri .u64)], .setB0 17 (.cmp .eql (.var 16) (.lit 9223372036854775808))] 17
 (.nb [.call 19 [(.ivar .u64 0), (.lit (.int .u64 9218868437227405312))] 18 [(.ri .u64)], .setB0 19 (.cmp .eql (.var 18) (.lit 18442240474082181120))] 19
 (.nb [.call 20 [(.ivar .u64 0), (.lit (.int .u64 9223372036854775808))] 20 [(.ri .u64)], .setB0 21 (.cmp .eql (.var 20) (.lit 18442240474082181120))] 21
 (.nb [.call 20 [(.ivar .u64 0), (.lit (.int .u64 9218868437227405312))] 22 [(.ri .u64)], .setB0 23 (.cmp .eql (.var 22) (.lit 0))] 23
 (.leaf [.call 18 [(.ivar .u64 0), (.ivar .u64 0)] 24 [(.ri .u64)], .setB0 25 (.cmp .eql (.var 24) (.lit 0))] (.w (.c (.bvar 25 false))))
 (.leaf [] (.w (.c (.lit (.bool false))))))
 (.leaf [] (.w (.c (.lit (.bool false))))))
 (.leaf [] (.w (.c (.lit (.bool false))))))
 (.leaf [] (.w (.c (.lit (.bool false))))))
 (.leaf [] (.w (.c (.lit (.bool false))))))
 (.leaf [] (.w (.c (.lit (.bool false))))))
 (.nb [.call 16 [(.ivar .u64 0), (.lit (.int .u64 9223372036854775808))] 12 [(.ri .u64)], .setB0 13 (.cmp .eql (.var 12) (.var 0))] 13
 (.nb [.call 16 [(.ivar .u64 0), (.lit (.int .u64 9218868437227405312))] 14 [(.ri .u64)], .setB0 15 (.cmp .eql (.var 14) (.lit 9218868437227405312))] 15
 (.nb [.call 19 [(.ivar .u64 0), (.lit (.int .u64 9223372036854775808))] 16 [(.ri .u64)], .setB0 17 (.cmp .eql (.var 16) (.lit 9223372036854775808))] 17
 (.nb [.call 19 [(.ivar .u64 0), (.lit (.int .u64 9218868437227405312))] 18 [(.ri .u64)], .setB0 19 (.cmp .eql (.var 18) (.lit 18442240474082181120))] 19
 (.nb [.call 20 [(.ivar .u64 0), (.lit (.int .u64 9223372036854775808))] 20 [(.ri .u64)], .setB0 21 (.cmp .eql (.var 20) (.lit 18442240474082181120))] 21
 (.nb [.call 20 [(.ivar .u64 0), (.lit (.int .u64 9218868437227405312))] 22 [(.ri .u64)], .setB0 23 (.cmp .eql (.var 22) (.lit 9223372036854775808))] 23
 (.leaf [.call 18 [(.ivar .u64 0), (.ivar .u64 0)] 24 [(.ri .u64)], .setB0 25 (.cmp .eql (.var 24) (.lit 0))] (.w (.c (.bvar 25 false))))
 (.leaf [] (.w (.c (.lit (.bool false))))))
 (.leaf [] (.w (.c (.lit (.bool false))))))
 (.leaf [] (.w (.c (.lit (.bool false))))))
 (.leaf [] (.w (.c (.lit (.bool false))))))
 (.leaf [] (.w (.c (.lit (.bool false))))))
 (.leaf [] (.w (.c (.lit (.bool false))))))))))
theorem FloatEdgesT3_ok : LT.Ok FloatEdgesR FloatEdgesT3 [.db false, .db false, .db true, .db true] [.decB 5 false, .setB0 5 (.cmp .neq (.var 4) (.lit 1)), .call 12 [(.ivar .u64 0)] 4 [(.ri .i64)], .decB 2 false, .decB 1 true, .decB 3 true, .call 11 [] 3 [.rb]] :=
 (LT.ok_nb (LT.ok_nb (LT.ok_nb (LT.ok_nb (LT.ok_nb (LT.ok_nb (LT.ok_nb (LT.ok_nb (LT.ok_nb (LT.ok_nb (LT.ok_leaf (by kernel_rfl))
 (LT.ok_leaf (by kernel_rfl)))
 (LT.ok_leaf (by kernel_rfl)))
 (LT.ok_leaf (by kernel_rfl)))
 (LT.ok_leaf (by kernel_rfl)))
 (LT.ok_leaf (by kernel_rfl)))
 (LT.ok_leaf (by kernel_rfl)))
 (LT.ok_nb (LT.ok_nb (LT.ok_nb (LT.ok_nb (LT.ok_nb (LT.ok_nb (LT.ok_leaf (by kernel_rfl))
 (LT.ok_leaf (by kernel_rfl)))
 (LT.ok_leaf (by kernel_rfl)))
 (LT.ok_leaf (by kernel_rfl)))
 (LT.ok_leaf (by kernel_rfl)))
 (LT.ok_leaf (by kernel_rfl)))
 (LT.ok_leaf (by kernel_rfl))))
 (LT.ok_nb (LT.ok_nb (LT.ok_nb (LT.ok_nb (LT.ok_nb (LT.ok_nb (LT.ok_nb (LT.ok_leaf (by kernel_rfl))
 (LT.ok_leaf (by kernel_rfl)))
 (LT.ok_leaf (by kernel_rfl)))
 (LT.ok_leaf (by kernel_rfl)))
 (LT.ok_leaf (by kernel_rfl)))
 (LT.ok_leaf (by kernel_rfl)))
 (LT.ok_leaf (by kernel_rfl)))
 (LT.ok_nb (LT.ok_nb (LT.ok_nb (LT.ok_nb (LT.ok_nb (LT.ok_nb (LT.ok_leaf (by kernel_rfl))
 (LT.ok_leaf (by kernel_rfl)))
 (LT.ok_leaf (by kernel_rfl)))
 (LT.ok_leaf (by kernel_rfl)))
 (LT.ok_leaf (by kernel_rfl)))
 (LT.ok_leaf (by kernel_rfl)))
 (LT.ok_leaf (by kernel_rfl)))))
 (LT.ok_nb (LT.ok_nb (LT.ok_nb (LT.ok_nb (LT.ok_nb (LT.ok_nb (LT.ok_nb (LT.ok_nb (LT.ok_leaf (by kernel_rfl))
 (LT.ok_leaf (by kernel_rfl)))
 (LT.ok_leaf (by kernel_rfl)))
 (LT.ok_leaf (by kernel_rfl)))
 (LT.ok_leaf (by kernel_rfl)))
 (LT.ok_leaf (by kernel_rfl)))
 (LT.ok_leaf (by kernel_rfl)))
 (LT.ok_nb (LT.ok_nb (LT.ok_nb (LT.ok_nb (LT.ok_nb (LT.ok_nb (LT.ok_leaf (by kernel_rfl))
 (LT.ok_leaf (by kernel_rfl)))
 (LT.ok_leaf (by kernel_rfl)))
 (LT.ok_leaf (by kernel_rfl)))
 (LT.ok_leaf (by kernel_rfl)))
 (LT.ok_leaf (by kernel_rfl)))
 (LT.ok_leaf (by kernel_rfl))))
 (LT.ok_nb (LT.ok_nb (LT.ok_nb (LT.ok_nb (LT.ok_nb (LT.ok_nb (LT.ok_nb (LT.ok_leaf (by kernel_rfl))
 (LT.ok_leaf (by kernel_rfl)))
 (LT.ok_leaf (by kernel_rfl)))
 (LT.ok_leaf (by kernel_rfl)))
 (LT.ok_leaf (by kernel_rfl)))
 (LT.ok_leaf (by kernel_rfl)))
 (LT.ok_leaf (by kernel_rfl)))
 (LT.ok_nb (LT.ok_nb (LT.ok_nb (LT.ok_nb (LT.ok_nb (LT.ok_nb (LT.ok_leaf (by kernel_rfl))
 (LT.ok_leaf (by kernel_rfl)))
 (LT.ok_leaf (by kernel_rfl)))
 (LT.ok_leaf (by kernel_rfl)))
 (LT.ok_leaf (by kernel_rfl)))
 (LT.ok_leaf (by kernel_rfl)))
 (LT.ok_leaf (by kernel_rfl))))))
 (LT.ok_nb (LT.ok_nb (LT.ok_nb (LT.ok_nb (LT.ok_nb (LT.ok_nb (LT.ok_nb (LT.ok_nb (LT.ok_nb (LT.ok_leaf (by kernel_rfl))
 (LT.ok_leaf (by kernel_rfl)))
 (LT.ok_leaf (by kernel_rfl)))
 (LT.ok_leaf (by kernel_rfl)))
 (LT.ok_leaf (by kernel_rfl)))
 (LT.ok_leaf (by kernel_rfl)))
 (LT.ok_leaf (by kernel_rfl)))
 (LT.ok_nb (LT.ok_nb (LT.ok_nb (LT.ok_nb (LT.ok_nb (LT.ok_nb (LT.ok_leaf (by kernel_rfl))
 (LT.ok_leaf (by kernel_rfl)))
 (LT.ok_leaf (by kernel_rfl)))
 (LT.ok_leaf (by kernel_rfl)))
 (LT.ok_leaf (by kernel_rfl)))
 (LT.ok_leaf (by kernel_rfl)))
 (LT.ok_leaf (by kernel_rfl))))
 (LT.ok_nb (LT.ok_nb (LT.ok_nb (LT.ok_nb (LT.ok_nb (LT.ok_nb (LT.ok_nb (LT.ok_leaf (by kernel_rfl))
 (LT.ok_leaf (by kernel_rfl)))
 (LT.ok_leaf (by kernel_rfl)))
 (LT.ok_leaf (by kernel_rfl)))
 (LT.ok_leaf (by kernel_rfl)))
 (LT.ok_leaf (by kernel_rfl)))
 (LT.ok_leaf (by kernel_rfl)))
 (LT.ok_nb (LT.ok_nb (LT.ok_nb (LT.ok_nb (LT.ok_nb (LT.ok_nb (LT.ok_leaf (by kernel_rfl))
 (LT.ok_leaf (by kernel_rfl)))
 (LT.ok_leaf (by kernel_rfl)))
 (LT.ok_leaf (by kernel_rfl)))
 (LT.ok_leaf (by kernel_rfl)))
 (LT.ok_leaf (by kernel_rfl)))
 (LT.ok_leaf (by kernel_rfl)))))
 (LT.ok_nb (LT.ok_nb (LT.ok_nb (LT.ok_nb (LT.ok_nb (LT.ok_nb (LT.ok_nb (LT.ok_nb (LT.ok_leaf (by kernel_rfl))
 (LT.ok_leaf (by kernel_rfl)))
 (LT.ok_leaf (by kernel_rfl)))
 (LT.ok_leaf (by kernel_rfl)))
 (LT.ok_leaf (by kernel_rfl)))
 (LT.ok_leaf (by kernel_rfl)))
 (LT.ok_leaf (by kernel_rfl)))
 (LT.ok_nb (LT.ok_nb (LT.ok_nb (LT.ok_nb (LT.ok_nb (LT.ok_nb (LT.ok_leaf (by kernel_rfl))
 (LT.ok_leaf (by kernel_rfl)))
 (LT.ok_leaf (by kernel_rfl)))
 (LT.ok_leaf (by kernel_rfl)))
 (LT.ok_leaf (by kernel_rfl)))
 (LT.ok_leaf (by kernel_rfl)))
 (LT.ok_leaf (by kernel_rfl))))
 (LT.ok_nb (LT.ok_nb (LT.ok_nb (LT.ok_nb (LT.ok_nb (LT.ok_nb (LT.ok_nb (LT.ok_leaf (by kernel_rfl))
 (LT.ok_leaf (by kernel_rfl)))
 (LT.ok_leaf (by kernel_rfl)))
 (LT.ok_leaf (by kernel_rfl)))
 (LT.ok_leaf (by kernel_rfl)))
 (LT.ok_leaf (by kernel_rfl)))
 (LT.ok_leaf (by kernel_rfl)))
 (LT.ok_nb (LT.ok_nb (LT.ok_nb (LT.ok_nb (LT.ok_nb (LT.ok_nb (LT.ok_leaf (by kernel_rfl))
 (LT.ok_leaf (by kernel_rfl)))
 (LT.ok_leaf (by kernel_rfl)))
 (LT.ok_leaf (by kernel_rfl)))
 (LT.ok_leaf (by kernel_rfl)))
 (LT.ok_leaf (by kernel_rfl)))
 (LT.ok_leaf (by kernel_rfl)))))))
noncomputable def FloatEdgesT4 : LT :=
 (.nb [.setI0 7 (.bin .shr .u64 (.var 0) (.lit 63)), .setB0 8 (.cmp .eql (.var 7) (.lit 1)), .setB0 9 (.all [(.bb (.var 8 false) (.lit false))])] 9
 (.nb [.setB0 10 (.all [(.bb (.var 8 false) (.lit true))])] 10
 (.nb [.setB0 11 (.all [(.bb (.var 8 false) (.lit false))])] 11
 (.nb [.setB0 12 (.all [(.bb (.var 8 false) (.lit true))])] 12
 (.nb [.call 16 [(.ivar .u64 0), (.lit (.int .u64 0))] 13 [(.ri .u64)], .setB0 14 (.cmp .eql (.var 13) (.var 0))] 14
 (.nb [.call 16 [(.ivar .u64 0), (.lit (.int .u64 18442240474082181120))] 15 [(.ri .u64)], .setB0 16 (.cmp .eql (.var 15) (.lit 18442240474082181120))] 16
 (.nb [.call 19 [(.ivar .u64 0), (.lit (.int .u64 0))] 17 [(.ri .u64)], .setB0 18 (.cmp .eql (.var 17) (.lit 0))] 18
 (.nb [.call 19 [(.ivar .u64 0), (.lit (.int .u64 18442240474082181120))] 19 [(.ri .u64)], .setB0 20 (.cmp .eql (.var 19) (.lit 9218868437227405312))] 20
 (.nb [.call 20 [(.ivar .u64 0), (.lit (.int .u64 0))] 21 [(.ri .u64)], .setB0 22 (.cmp .eql (.var 21) (.lit 9218868437227405312))] 22
 (.nb [.call 20 [(.ivar .u64 0), (.lit (.int .u64 18442240474082181120))] 23 [(.ri .u64)], .setB0 24 (.cmp .eql (.var 23) (.lit 0))] 24
 (.leaf [.call 18 [(.ivar .u64 0), (.ivar .u64 0)] 25 [(.ri .u64)], .setB0 26 (.cmp .eql (.var 25) (.lit 0))] (.w (.c (.bvar 26 false))))
 (.leaf [] (.w (.c (.lit (.bool false))))))
 (.leaf [] (.w (.c (.lit (.bool false))))))
 (.leaf [] (.w (.c (.lit (.bool false))))))
 (.leaf [] (.w (.c (.lit (.bool false))))))
 (.leaf [] (.w (.c (.lit (.bool false))))))
 (.leaf [] (.w (.c (.lit (.bool false))))))
 (.nb [.call 16 [(.ivar .u64 0), (.lit (.int .u64 0))] 13 [(.ri .u64)], .setB0 14 (.cmp .eql (.var 13) (.var 0))] 14
 (.nb [.call 16 [(.ivar .u64 0), (.lit (.int .u64 18442240474082181120))] 15 [(.ri .u64)], .setB0 16 (.cmp .eql (.var 15) (.lit 18442240474082181120))] 16
 (.nb [.call 19 [(.ivar .u64 0), (.lit (.int .u64 0))] 17 [(.ri .u64)], .setB0 18 (.cmp .eql (.var 17) (.lit 0))] 18
 (.nb [.call 19 [(.ivar .u64 0), (.lit (.int .u64 18442240474082181120))] 19 [(.ri .u64)], .setB0 20 (.cmp .eql (.var 19) (.lit 9218868437227405312))] 20
 (.nb [.call 20 [(.ivar .u64 0), (.lit (.int .u64 0))] 21 [(.ri .u64)], .setB0 22 (.cmp .eql (.var 21) (.lit 9218868437227405312))] 22
 (.nb [.call 20 [(.ivar .u64 0), (.lit (.int .u64 18442240474082181120))] 23 [(.ri .u64)], .setB0 24 (.cmp .eql (.var 23) (.lit 9223372036854775808))] 24
 (.leaf [.call 18 [(.ivar .u64 0), (.ivar .u64 0)] 25 [(.ri .u64)], .setB0 26 (.cmp .eql (.var 25) (.lit 0))] (.w (.c (.bvar 26 false))))
 (.leaf [] (.w (.c (.lit (.bool false))))))
 (.leaf [] (.w (.c (.lit (.bool false))))))
 (.leaf [] (.w (.c (.lit (.bool false))))))
 (.leaf [] (.w (.c (.lit (.bool false))))))
 (.leaf [] (.w (.c (.lit (.bool false))))))
 (.leaf [] (.w (.c (.lit (.bool false)))))))
 (.nb [.setB0 12 (.all [(.bb (.var 8 false) (.lit true))])] 12
 (.nb [.call 16 [(.ivar .u64 0), (.lit (.int .u64 0))] 13 [(.ri .u64)], .setB0 14 (.cmp .eql (.var 13) (.var 0))] 14
 (.nb [.call 16 [(.ivar .u64 0), (.lit (.int .u64 18442240474082181120))] 15 [(.ri .u64)], .setB0 16 (.cmp .eql (.var 15) (.lit 18442240474082181120))] 16
 (.nb [.call 19 [(.ivar .u64 0), (.lit (.int .u64 0))] 17 [(.ri .u64)], .setB0 18 (.cmp .eql (.var 17) (.lit 0))] 18
 (.nb [.call 19 [(.ivar .u64 0), (.lit (.int .u64 18442240474082181120))] 19 [(.ri .u64)], .setB0 20 (.cmp .eql (.var 19) (.lit 9218868437227405312))] 20
 (.nb [.call 20 [(.ivar .u64 0), (.lit (.int .u64 0))] 21 [(.ri .u64)], .setB0 22 (.cmp .eql (.var 21) (.lit 18442240474082181120))] 22
 (.nb [.call 20 [(.ivar .u64 0), (.lit (.int .u64 18442240474082181120))] 23 [(.ri .u64)], .setB0 24 (.cmp .eql (.var 23) (.lit 0))] 24
 (.leaf [.call 18 [(.ivar .u64 0), (.ivar .u64 0)] 25 [(.ri .u64)], .setB0 26 (.cmp .eql (.var 25) (.lit 0))] (.w (.c (.bvar 26 false))))
 (.leaf [] (.w (.c (.lit (.bool false))))))
 (.leaf [] (.w (.c (.lit (.bool false))))))
 (.leaf [] (.w (.c (.lit (.bool false))))))
 (.leaf [] (.w (.c (.lit (.bool false))))))
 (.leaf [] (.w (.c (.lit (.bool false))))))
 (.leaf [] (.w (.c (.lit (.bool false))))))
 (.nb [.call 16 [(.ivar .u64 0), (.lit (.int .u64 0))] 13 [(.ri .u64)], .setB0 14 (.cmp .eql (.var 13) (.var 0))] 14
 (.nb [.call 16 [(.ivar .u64 0), (.lit (.int .u64 18442240474082181120))] 15 [(.ri .u64)], .setB0 16 (.cmp .eql (.var 15) (.lit 18442240474082181120))] 16
 (.nb [.call 19 [(.ivar .u64 0), (.lit (.int .u64 0))] 17 [(.ri .u64)], .setB0 18 (.cmp .eql (.var 17) (.lit 0))] 18
 (.nb [.call 19 [(.ivar .u64 0), (.lit (.int .u64 18442240474082181120))] 19 [(.ri .u64)], .setB0 20 (.cmp .eql (.var 19) (.lit 9218868437227405312))] 20
 (.nb [.call 20 [(.ivar .u64 0), (.lit (.int .u64 0))] 21 [(.ri .u64)], .setB0 22 (.cmp .eql (.var 21) (.lit 18442240474082181120))] 22
 (.nb [.call 20 [(.ivar .u64 0), (.lit (.int .u64 18442240474082181120))] 23 [(.ri .u64)], .setB0 24 (.cmp .eql (.var 23) (.lit 9223372036854775808))] 24
 (.leaf [.call 18 [(.ivar .u64 0), (.ivar .u64 0)] 25 [(.ri .u64)], .setB0 26 (.cmp .eql (.var 25) (.lit 0))] (.w (.c (.bvar 26 false))))
 (.leaf [] (.w (.c (.lit (.bool false))))))
 (.leaf [] (.w (.c (.lit (.bool false))))))
 (.leaf [] (.w (.c (.lit (.bool false))))))
 (.leaf [] (.w (.c (.lit (.bool false))))))
 (.leaf [] (.w (.c (.lit (.bool false))))))
 (.leaf [] (.w (.c (.lit (.bool false))))))))
 (.nb [.setB0 11 (.all [(.bb (.var 8 false) (.lit false))])] 11
 (.nb [.setB0 12 (.all [(.bb (.var 8 false) (.lit true))])] 12
 (.nb [.call 16 [(.ivar .u64 0), (.lit (.int .u64 0))] 13 [(.ri .u64)], .setB0 14 (.cmp .eql (.var 13) (.var 0))] 14
 (.nb [.call 16 [(.ivar .u64 0), (.lit (.int .u64 18442240474082181120))] 15 [(.ri .u64)], .setB0 16 (.cmp .eql (.var 15) (.lit 18442240474082181120))] 16
 (.nb [.call 19 [(.ivar .u64 0), (.lit (.int .u64 0))] 17 [(.ri .u64)], .setB0 18 (.cmp .eql (.var 17) (.lit 0))] 18
 (.nb [.call 19 [(.ivar .u64 0), (.lit (.int .u64 18442240474082181120))] 19 [(.ri .u64)], .setB0 20 (.cmp .eql (.var 19) (.lit 18442240474082181120))] 20
 (.nb [.call 20 [(.ivar .u64 0), (.lit (.int .u64 0))] 21 [(.ri .u64)], .setB0 22 (.cmp .eql (.var 21) (.lit 9218868437227405312))] 22
 (.nb [.call 20 [(.ivar .u64 0), (.lit (.int .u64 18442240474082181120))] 23 [(.ri .u64)], .setB0 24 (.cmp .eql (.var 23) (.lit 0))] 24
 (.leaf [.call 18 [(.ivar .u64 0), (.ivar .u64 0)] 25 [(.ri .u64)], .setB0 26 (.cmp .eql (.var 25) (.lit 0))] (.w (.c (.bvar 26 false))))
 (.leaf [] (.w (.c (.lit (.bool false))))))
 (.leaf [] (.w (.c (.lit (.bool false))))))
 (.leaf [] (.w (.c (.lit (.bool false))))))
 (.leaf [] (.w (.c (.lit (.bool false))))))
 (.leaf [] (.w (.c (.lit (.bool false))))))
 (.leaf [] (.w (.c (.lit (.bool false))))))
 (.nb [.call 16 [(.ivar .u64 0), (.lit (.int .u64 0))] 13 [(.ri .u64)], .setB0 14 (.cmp .eql (.var 13) (.var 0))] 14
 (.nb [.call 16 [(.ivar .u64 0), (.lit (.int .u64 18442240474082181120))] 15 [(.ri .u64)], .setB0 16 (.cmp .eql (.var 15) (.lit 18442240474082181120))] 16
 (.nb [.call 19 [(.ivar .u64 0), (.lit (.int .u64 0))] 17 [(.ri .u64)], .setB0 18 (.cmp .eql (.var 17) (.lit 0))] 18
 (.nb [.call 19 [(.ivar .u64 0), (.lit (.int .u64 18442240474082181120))] 19 [(.ri .u64)], .setB0 20 (.cmp .eql (.var 19) (.lit 18442240474082181120))] 20
 (.nb [.call 20 [(.ivar .u64 0), (.lit (.int .u64 0))] 21 [(.ri .u64)], .setB0 22 (.cmp .eql (.var 21) (.lit 9218868437227405312))] 22
 (.nb [.call 20 [(.ivar .u64 0), (.lit (.int .u64 18442240474082181120))] 23 [(.ri .u64)], .setB0 24 (.cmp .eql (.var 23) (.lit 9223372036854775808))] 24
 (.leaf [.call 18 [(.ivar .u64 0), (.ivar .u64 0)] 25 [(.ri .u64)], .setB0 26 (.cmp .eql (.var 25) (.lit 0))] (.w (.c (.bvar 26 false))))
 (.leaf [] (.w (.c (.lit (.bool false))))))
 (.leaf [] (.w (.c (.lit (.bool false))))))
 (.leaf [] (.w (.c (.lit (.bool false))))))
 (.leaf [] (.w (.c (.lit (.bool false))))))
 (.leaf [] (.w (.c (.lit (.bool false))))))
 (.leaf [] (.w (.c (.lit (.bool false)))))))
 (.nb [.setB0 12 (.all [(.bb (.var 8 false) (.lit true))])] 12
 (.nb [.call 16 [(.ivar .u64 0), (.lit (.int .u64 0))] 13 [(.ri .u64)], .setB0 14 (.cmp .eql (.var 13) (.var 0))] 14
 (.nb [.call 16 [(.ivar .u64 0), (.lit (.int .u64 18442240474082181120))] 15 [(.ri .u64)], .setB0 16 (.cmp .eql (.var 15) (.lit 18442240474082181120))] 16
 (.nb [.call 19 [(.ivar .u64 0), (.lit (.int .u64 0))] 17 [(.ri .u64)], .setB0 18 (.cmp .eql (.var 17) (.lit 0))] 18
 (.nb [.call 19 [(.ivar .u64 0), (.lit (.int .u64 18442240474082181120))] 19 [(.ri .u64)], .setB0 20 (.cmp .eql (.var 19) (.lit 18442240474082181120))] 20
 (.nb [.call 20 [(.ivar .u64 0), (.lit (.int .u64 0))] 21 [(.ri .u64)], .setB0 22 (.cmp .eql (.var 21) (.lit 18442240474082181120))] 22
 (.nb [.call 20 [(.ivar .u64 0), (.lit (.int .u64 18442240474082181120))] 23 [(.ri .u64)], .setB0 24 (.cmp .eql (.var 23) (.lit 0))] 24
 (.leaf [.call 18 [(.ivar .u64 0), (.ivar .u64 0)] 25 [(.ri .u64)], .setB0 26 (.cmp .eql (.var 25) (.lit 0))] (.w (.c (.bvar 26 false))))
 (.leaf [] (.w (.c (.lit (.bool false))))))
 (.leaf [] (.w (.c (.lit (.bool false))))))
 (.leaf [] (.w (.c (.lit (.bool false))))))
 (.leaf [] (.w (.c (.lit (.bool false))))))
 (.leaf [] (.w (.c (.lit (.bool false))))))
 (.leaf [] (.w (.c (.lit (.bool false))))))
 (.nb [.call 16 [(.ivar .u64 0), (.lit (.int .u64 0))] 13 [(.ri .u64)], .setB0 14 (.cmp .eql (.var 13) (.var 0))] 14
 (.nb [.call 16 [(.ivar .u64 0), (.lit (.int .u64 18442240474082181120))] 15 [(.ri .u64)], .setB0 16 (.cmp .eql (.var 15) (.lit 18442240474082181120))] 16
 (.nb [.call 19 [(.ivar .u64 0), (.lit (.int .u64 0))] 17 [(.ri .u64)], .setB0 18 (.cmp .eql (.var 17) (.lit 0))] 18
 (.nb [.call 19 [(.ivar .u64 0), (.lit (.int .u64 18442240474082181120))] 19 [(.ri .u64)], .setB0 20 (.cmp .eql (.var 19) (.lit 18442240474082181120))] 20
 (.nb [.call 20 [(.ivar .u64 0), (.lit (.int .u64 0))] 21 [(.ri .u64)], .setB0 22 (.cmp .eql (.var 21) (.lit 18442240474082181120))] 22
 (.nb [.call 20 [(.ivar .u64 0), (.lit (.int .u64 18442240474082181120))] 23 [(.ri .u64)], .setB0 24 (.cmp .eql (.var 23) (.lit 9223372036854775808))] 24
 (.leaf [.call 18 [(.ivar .u64 0), (.ivar .u64 0)] 25 [(.ri .u64)], .setB0 26 (.cmp .eql (.var 25) (.lit 0))] (.w (.c (.bvar 26 false))))
 (.leaf [] (.w (.c (.lit (.bool false))))))
 (.leaf [] (.w (.c (.lit (.bool false))))))
 (.leaf [] (.w (.c (.lit (.bool false))))))
 (.leaf [] (.w (.c (.lit (.bool false))))))
 (.leaf [] (.w (.c (.lit (.bool false))))))
 (.leaf [] (.w (.c (.lit (.bool false)))))))))
 (.nb [.setB0 10 (.all [(.bb (.var 8 false) (.lit true))])] 10
 (.nb [.setB0 11 (.all [(.bb (.var 8 false) (.lit false))])] 11
 (.nb [.setB0 12 (.all [(.bb (.var 8 false) (.lit true))])] 12
 (.nb [.call 16 [(.ivar .u64 0), (.lit (.int .u64 0))] 13 [(.ri .u64)], .setB0 14 (.cmp .eql (.var 13) (.var 0))] 14
 (.nb [.call 16 [(.ivar .u64 0), (.lit (.int .u64 18442240474082181120))] 15 [(.ri .u64)], .setB0 16 (.cmp .eql (.var 15) (.lit 18442240474082181120))] 16
 (.nb [.call 19 [(.ivar .u64 0), (.lit (.int .u64 0))] 17 [(.ri .u64)], .setB0 18 (.cmp .eql (.var 17) (.lit 9223372036854775808))] 18
 (.nb [.call 19 [(.ivar .u64 0), (.lit (.int .u64 18442240474082181120))] 19 [(.ri .u64)], .setB0 20 (.cmp .eql (.var 19) (.lit 9218868437227405312))] 20
 (.nb [.call 20 [(.ivar .u64 0), (.lit (.int .u64 0))] 21 [(.ri .u64)], .setB0 22 (.cmp .eql (.var 21) (.lit 9218868437227405312))] 22
 (.nb [.call 20 [(.ivar .u64 0), (.lit (.int .u64 18442240474082181120))] 23 [(.ri .u64)], .setB0 24 (.cmp .eql (.var 23) (.lit 0))] 24
 (.leaf [.call 18 [(.ivar .u64 0), (.ivar .u64 0)] 25 [(.ri .u64)], .setB0 26 (.cmp .eql (.var 25) (.lit 0))] (.w (.c (.bvar 26 false))))
 (.leaf [] (.w (.c (.lit (.bool false))))))
 (.leaf [] (.w (.c (.lit (.bool false))))))
 (.leaf [] (.w (.c (.lit (.bool false))))))
 (.leaf [] (.w (.c (.lit (.bool false))))))
 (.leaf [] (.w (.c (.lit (.bool false))))))
 (.leaf [] (.w (.c (.lit (.bool false))))))
 (.nb [.call 16 [(.ivar .u64 0), (.lit (.int .u64 0))] 13 [(.ri .u64)], .setB0 14 (.cmp .eql (.var 13) (.var 0))] 14
 (.nb [.call 16 [(.ivar .u64 0), (.lit (.int .u64 18442240474082181120))] 15 [(.ri .u64)], .setB0 16 (.cmp .eql (.var 15) (.lit 18442240474082181120))] 16
 (.nb [.call 19 [(.ivar .u64 0), (.lit (.int .u64 0))] 17 [(.ri .u64)], .setB0 18 (.cmp .eql (.var 17) (.lit 9223372036854775808))] 18
 (.nb [.call 19 [(.ivar .u64 0), (.lit (.int .u64 18442240474082181120))] 19 [(.ri .u64)], .setB0 20 (.cmp .eql (.var 19) (.lit 9218868437227405312))] 20
 (.nb [.call 20 [(.ivar .u64 0), (.lit (.int .u64 0))] 21 [(.ri .u64)], .setB0 22 (.cmp .eql (.var 21) (.lit 9218868437227405312))] 22
 (.nb [.call 20 [(.ivar .u64 0), (.lit (.int .u64 18442240474082181120))] 23 [(.ri .u64)], .setB0 24 (.cmp .eql (.var 23) (.lit 9223372036854775808))] 24
 (.leaf [.call 18 [(.ivar .u64 0), (.ivar .u64 0)] 25 [(.ri .u64)], .setB0 26 (.cmp .eql (.var 25) (.lit 0))] (.w (.c (.bvar 26 false))))
 (.leaf [] (.w (.c (.lit (.bool false))))))
 (.leaf [] (.w (.c (.lit (.bool false))))))
 (.leaf [] (.w (.c (.lit (.bool false))))))
 (.leaf [] (.w (.c (.lit (.bool false))))))
 (.leaf [] (.w (.c (.lit (.bool false))))))
 (.leaf [] (.w (.c (.lit (.bool false)))))))
 (.nb [.setB0 12 (.all [(.bb (.var 8 false) (.lit true))])] 12
 (.nb [.call 16 [(.ivar .u64 0), (.lit (.int .u64 0))] 13 [(.ri .u64)], .setB0 14 (.cmp .eql (.var 13) (.var 0))] 14
 (.nb [.call 16 [(.ivar .u64 0), (.lit (.int .u64 18442240474082181120))] 15 [(.ri .u64)], .setB0 16 (.cmp .eql (.var 15) (.lit 18442240474082181120))] 16
 (.nb [.call 19 [(.ivar .u64 0), (.lit (.int .u64 0))] 17 [(.ri .u64)], .setB0 18 (.cmp .eql (.var 17) (.lit 9223372036854775808))] 18
 (.nb [.call 19 [(.ivar .u64 0), (.lit (.int .u64 18442240474082181120))] 19 [(.ri .u64)], .setB0 20 (.cmp .eql (.var 19) (.lit 9218868437227405312))] 20
 (.nb [.call 20 [(.ivar .u64 0), (.lit (.int .u64 0))] 21 [(.ri .u64)], .setB0 22 (.cmp .eql (.var 21) (.lit 18442240474082181120))] 22
 (.nb [.call 20 [(.ivar .u64 0), (.lit (.int .u64 18442240474082181120))] 23 [(.ri .u64)], .setB0 24 (.cmp .eql (.var 23) (.lit 0))] 24
 (.leaf [.call 18 [(.ivar .u64 0), (.ivar .u64 0)] 25 [(.ri .u64)], .setB0 26 (.cmp .eql (.var 25) (.lit 0))] (.w (.c (.bvar 26 false))))
 (.leaf [] (.w (.c (.lit (.bool false))))))
 (.leaf [] (.w (.c (.lit (.bool false))))))
 (.leaf [] (.w (.c (.lit (.bool false))))))
 (.leaf [] (.w (.c (.lit (.bool false))))))
 (.leaf [] (.w (.c (.lit (.bool false))))))
 (.leaf [] (.w (.c (.lit (.bool false))))))
 (.nb [.call 16 [(.ivar .u64 0), (.lit (.int .u64 0))] 13 [(.ri .u64)], .setB0 14 (.cmp .eql (.var 13) (.var 0))] 14
 (.nb [.call 16 [(.ivar .u64 0), (.lit (.int .u64 18442240474082181120))] 15 [(.ri .u64)], .setB0 16 (.cmp .eql (.var 15) (.lit 18442240474082181120))] 16
 (.nb [.call 19 [(.ivar .u64 0), (.lit (.int .u64 0))] 17 [(.ri .u64)], .setB0 18 (.cmp .eql (.var 17) (.lit 9223372036854775808))] 18
 (.nb [.call 19 [(.ivar .u64 0), (.lit (.int .u64 18442240474082181120))] 19 [(.ri .u64)], .setB0 20 (.cmp .eql (.var 19) (.lit 9218868437227405312))] 20
 (.nb [.call 20 [(.ivar .u64 0), (.lit (.int .u64 0))] 21 [(.ri .u64)], .setB0 22 (.cmp .eql (.var 21) (.lit 18442240474082181120))] 22
 (.nb [.call 20 [(.ivar .u64 0), (.lit (.int .u64 18442240474082181120))] 23 [(.ri .u64)], .setB0 24 (.cmp .eql (.var 23) (.lit 9223372036854775808))] 24
 (.leaf [.call 18 [(.ivar .u64 0), (.ivar .u64 0)] 25 [(.ri .u64)], .setB0 26 (.cmp .eql (.var 25) (.lit 0))] (.w (.c (.bvar 26 false))))
 (.leaf [] (.w (.c (.lit (.bool false))))))
 (.leaf [] (.w (.c (.lit (.bool false))))))
 (.leaf [] (.w (.c (.lit (.bool false))))))
 (.leaf [] (.w (.c (.lit (.bool false))))))
 (.leaf [] (.w (.c (.lit (.bool false))))))
 (.leaf [] (.w (.c (.lit (.bool false))))))))
 (.nb [.setB0 11 (.all [(.bb (.var 8 false) (.lit false))])] 11
 (.nb [.setB0 12 (.all [(.bb (.var 8 false) (.lit true))])] 12
 (.nb [.call 16 [(.ivar .u64 0), (.lit (.int .u64 0))] 13 [(.ri .u64)], .setB0 14 (.cmp .eql (.var 13) (.var 0))] 14
 (.nb [.call 16 [(.ivar .u64 0), (.lit (.int .u64 18442240474082181120))] 15 [(.ri .u64)], .setB0 16 (.cmp .eql (.var 15) (.lit 18442240474082181120))] 16
 (.nb [.call 19 [(.ivar .u64 0), (.lit (.int .u64 0))] 17 [(.ri .u64)], .setB0 18 (.cmp .eql (.var 17) (.lit 9223372036854775808))] 18
 (.nb [.call 19 [(.ivar .u64 0), (.lit (.int .u64 18442240474082181120))] 19 [(.ri .u64)], .setB0 20 (.cmp .eql (.var 19) (.lit 18442240474082181120))] 20
 (.nb [.call 20 [(.ivar .u64 0), (.lit (.int .u64 0))] 21 [(.ri .u64)], .setB0 22 (.cmp .eql (.var 21) (.lit 9218868437227405312))] 22
 (.nb [.call 20 [(.ivar .u64 0), (.lit (.int .u64 18442240474082181120))] 23 [(.ri .u64)], .setB0 24 (.cmp .eql (.var 23) (.lit 0))] 24
 (.leaf [.call 18 [(.ivar .u64 0), (.ivar .u64 0)] 25 [(.ri .u64)], .setB0 26 (.cmp .eql (.var 25) (.lit 0))] (.w (.c (.bvar 26 false))))
 (.leaf [] (.w (.c (.lit (.bool false))))))
 (.leaf [] (.w (.c (.lit (.bool false))))))
 (.leaf [] (.w (.c (.lit (.bool false))))))
 (.leaf [] (.w (.c (.lit (.bool false))))))
 (.leaf [] (.w (.c (.lit (.bool false))))))
 (.leaf [] (.w (.c (.lit (.bool false))))))
 (.nb [.call 16 [(.ivar .u64 0), (.lit (.int .u64 0))] 13 [(.ri .u64)], .setB0 14 (.cmp .eql (.var 13) (.var 0))] 14
 (.nb [.call 16 [(.ivar .u64 0), (.lit (.int .u64 18442240474082181120))] 15 [(.ri .u64)], .setB0 16 (.cmp .eql (.var 15) (.lit 18442240474082181120))] 16
 (.nb [.call 19 [(.ivar .u64 0), (.lit (.int .u64 0))] 17 [(.ri .u64)], .setB0 18 (.cmp .eql (.var 17) (.lit 9223372036854775808))] 18
 (.nb [.call 19 [(.ivar .u64 0), (.lit (.int .u64 18442240474082181120))] 19 [(.ri .u64)], .setB0 20 (.cmp .eql (.var 19) (.lit 18442240474082181120))] 20
 (.nb [.call 20 [(.ivar .u64 0), (.lit (.int .u64 0))] 21 [(.ri .u64)], .setB0 22 (.cmp .eql (.var 21) (.lit 9218868437227405312))] 22
 (.nb [.call 20 [(.ivar .u64 0), (.lit (.int .u64 18442240474082181120))] 23 [(.ri .u64)], .setB0 24 (.cmp .eql (.var 23) (.lit 9223372036854775808))] 24
 (.leaf [.call 18 [(.ivar .u64 0), (.ivar .u64 0)] 25 [(.ri .u64)], .setB0 26 (.cmp .eql (.var 25) (.lit 0))] (.w (.c (.bvar 26 false))))
 (.leaf [] (.w (.c (.lit (.bool false))))))
 (.leaf [] (.w (.c (.lit (.bool false))))))
 (.leaf [] (.w (.c (.lit (.bool false))))))
 (.leaf [] (.w (.c (.lit (.bool false))))))
 (.leaf [] (.w (.c (.lit (.bool false))))))
 (.leaf [] (.w (.c (.lit (.bool false)))))))
 (.nb [.setB0 12 (.all [(.bb (.var 8 false) (.lit true))])] 12
 (.nb [.call 16 [(.ivar .u64 0), (.lit (.int .u64 0))] 13 [(.ri .u64)], .setB0 14 (.cmp .eql (.var 13) (.var 0))] 14
 (.nb [.call 16 [(.ivar .u64 0), (.lit (.int .u64 18442240474082181120))] 15 [(.ri .u64)], .setB0 16 (.cmp .eql (.var 15) (.lit 18442240474082181120))] 16
 (.nb [.call 19 [(.ivar .u64 0), (.lit (.int .u64 0))] 17 [(.ri .u64)], .setB0 18 (.cmp .eql (.var 17) (.lit 9223372036854775808))] 18
 (.nb [.call 19 [(.ivar .u64 0), (.lit (.int .u64 18442240474082181120))] 19 [(.ri .u64)], .setB0 20 (.cmp .eql (.var 19) (.lit 18442240474082181120))] 20
 (.nb [.call 20 [(.ivar .u64 0), (.lit (.int .u64 0))] 21 [(.ri .u64)], .setB0 22 (.cmp .eql (.var 21) (.lit 18442240474082181120))] 22
 (.nb [.call 20 [(.ivar .u64 0), (.lit (.int .u64 18442240474082181120))] 23 [(.ri .u64)], .setB0 24 (.cmp .eql (.var 23) (.lit 0))] 24
 (.leaf [.call 18 [(.ivar .u64 0), (.ivar .u64 0)] 25 [(.ri .u64)], .setB0 26 (.cmp .eql (.var 25) (.lit 0))] (.w (.c (.bvar 26 false))))
 (.leaf [] (.w (.c (.lit (.bool false))))))
 (.leaf [] (.w (.c (.lit (.bool false))))))
 (.leaf [] (.w (.c (.lit (.bool false))))))
 (.leaf [] (.w (.c (.lit (.bool false))))))
 (.leaf [] (.w (.c (.lit (.bool false))))))
 (.leaf [] (.w (.c (.lit (.bool false))))))
 (.nb [.call 16 [(.ivar .u64 0), (.lit (.int .u64 0))] 13 [(.ri .u64)], .setB0 14 (.cmp .eql (.var 13) (.var 0))] 14
 (.nb [.call 16 [(.ivar .u64 0), (.lit (.int .u64 18442240474082181120))] 15 [(.ri .u64)], .setB0 16 (.cmp .eql (.var 15) (.lit 18442240474082181120))] 16
 (.nb [.call 19 [(.ivar .u64 0), (.lit (.int .u64 0))] 17 [(.ri .u64)], .setB0 18 (.cmp .eql (.var 17) (.lit 9223372036854775808))] 18
 (.nb [.call 19 [(.ivar .u64 0), (.lit (.int .u64 18442240474082181120))] 19 [(.ri .u64)], .setB0 20 (.cmp .eql (.var 19) (.lit 18442240474082181120))] 20
 (.nb [.call 20 [(.ivar .u64 0), (.lit (.int .u64 0))] 21 [(.ri .u64)], .setB0 22 (.cmp .eql (.var 21) (.lit 18442240474082181120))] 22
 (.nb [.call 20 [(.ivar .u64 0), (.lit (.int .u64 18442240474082181120))] 23 [(.ri .u64)], .setB0 24 (.cmp .eql (.var 23) (.lit 9223372036854775808))] 24
 (.leaf [.call 18 [(.ivar .u64 0), (.ivar .u64 0)] 25 [(.ri .u64)], .setB0 26 (.cmp .eql (.var 25) (.lit 0))] (.w (.c (.bvar 26 false))))
 (.leaf [] (.w (.c (.lit (.bool false))))))
 (.leaf [] (.w (.c (.lit (.bool false))))))
 (.leaf [] (.w (.c (.lit (.bool false))))))
 (.leaf [] (.w (.c (.lit (.bool false))))))
 (.leaf [] (.w (.c (.lit (.bool false))))))
 (.leaf [] (.w (.c (.lit (.bool false))))))))))
theorem FloatEdgesT4_ok : LT.Ok FloatEdgesR FloatEdgesT4 [.db false, .db true, .db true, .db false, .db true] [.decB 6 false, .setB0 6 (.cmp .neq (.var 4) (.lit 2)), .decB 5 true, .setB0 5 (.cmp .neq (.var 4) (.lit 1)), .call 12 [(.ivar .u64 0)] 4 [(.ri .i64)], .decB 2 true, .decB 1 false, .decB 3 true, .call 11 [] 3 [.rb]] :=
 (LT.ok_nb (LT.ok_nb (LT.ok_nb (LT.ok_nb (LT.ok_nb (LT.ok_nb (LT.ok_nb (LT.ok_nb (LT.ok_nb (LT.ok_nb (LT.ok_leaf (by kernel_rfl))
 (LT.ok_leaf (by kernel_rfl)))
 (LT.ok_leaf (by kernel_rfl)))
 (LT.ok_leaf (by kernel_rfl)))
 (LT.ok_leaf (by kernel_rfl)))
 (LT.ok_leaf (by kernel_rfl)))
 (LT.ok_leaf (by kernel_rfl)))
 (LT.ok_nb (LT.ok_nb (LT.ok_nb (LT.ok_nb (LT.ok_nb (LT.ok_nb (LT.ok_leaf (by kernel_rfl))
 (LT.ok_leaf (by kernel_rfl)))
 (LT.ok_leaf (by kernel_rfl)))
 (LT.ok_leaf (by kernel_rfl)))
 (LT.ok_leaf (by kernel_rfl)))
 (LT.ok_leaf (by kernel_rfl)))
 (LT.ok_leaf (by kernel_rfl))))
 (LT.ok_nb (LT.ok_nb (LT.ok_nb (LT.ok_nb (LT.ok_nb (LT.ok_nb (LT.ok_nb (LT.ok_leaf (by kernel_rfl))
 (LT.ok_leaf (by kernel_rfl)))
 (LT.ok_leaf (by kernel_rfl)))
 (LT.ok_leaf (by kernel_rfl)))
 (LT.ok_leaf (by kernel_rfl)))
 (LT.ok_leaf (by kernel_rfl)))
 (LT.ok_leaf (by kernel_rfl)))
 (LT.ok_nb (LT.ok_nb (LT.ok_nb (LT.ok_nb (LT.ok_nb (LT.ok_nb (LT.ok_leaf (by kernel_rfl))
 (LT.ok_leaf (by kernel_rfl)))
 (LT.ok_leaf (by kernel_rfl)))
 (LT.ok_leaf (by kernel_rfl)))
 (LT.ok_leaf (by kernel_rfl)))
 (LT.ok_leaf (by kernel_rfl)))
 (LT.ok_leaf (by kernel_rfl)))))
 (LT.ok_nb (LT.ok_nb (LT.ok_nb (LT.ok_nb (LT.ok_nb (LT.ok_nb (LT.ok_nb (LT.ok_nb (LT.ok_leaf (by kernel_rfl))
 (LT.ok_leaf (by kernel_rfl)))
 (LT.ok_leaf (by kernel_rfl)))
 (LT.ok_leaf (by kernel_rfl)))
 (LT.ok_leaf (by kernel_rfl)))
 (LT.ok_leaf (by kernel_rfl)))
 (LT.ok_leaf (by kernel_rfl)))
 (LT.ok_nb (LT.ok_nb (LT.ok_nb (LT.ok_nb (LT.ok_nb (LT.ok_nb (LT.ok_leaf (by kernel_rfl))
 (LT.ok_leaf (by kernel_rfl)))
 (LT.ok_leaf (by kernel_rfl)))
 (LT.ok_leaf (by kernel_rfl)))
 (LT.ok_leaf (by kernel_rfl)))
 (LT.ok_leaf (by kernel_rfl)))
 (LT.ok_leaf (by kernel_rfl))))
 (LT.ok_nb (LT.ok_nb (LT.ok_nb (LT.ok_nb (LT.ok_nb (LT.ok_nb (LT.ok_nb (LT.ok_leaf (by kernel_rfl))
 (LT.ok_leaf (by kernel_rfl)))
 (LT.ok_leaf (by kernel_rfl)))
 (LT.ok_leaf (by kernel_rfl)))
 (LT.ok_leaf (by kernel_rfl)))
 (LT.ok_leaf (by kernel_rfl)))
 (LT.ok_leaf (by kernel_rfl)))
 (LT.ok_nb (LT.ok_nb (LT.ok_nb (LT.ok_nb (LT.ok_nb (LT.ok_nb (LT.ok_leaf (by kernel_rfl))
 (LT.ok_leaf (by kernel_rfl)))
 (LT.ok_leaf (by kernel_rfl)))
 (LT.ok_leaf (by kernel_rfl)))
 (LT.ok_leaf (by kernel_rfl)))
 (LT.ok_leaf (by kernel_rfl)))
 (LT.ok_leaf (by kernel_rfl))))))
 (LT.ok_nb (LT.ok_nb (LT.ok_nb (LT.ok_nb (LT.ok_nb (LT.ok_nb (LT.ok_nb (LT.ok_nb (LT.ok_nb (LT.ok_leaf (by kernel_rfl))
 (LT.ok_leaf (by kernel_rfl)))
 (LT.ok_leaf (by kernel_rfl)))
 (LT.ok_leaf (by kernel_rfl)))
 (LT.ok_leaf (by kernel_rfl)))
 (LT.ok_leaf (by kernel_rfl)))
 (LT.ok_leaf (by kernel_rfl)))
 (LT.ok_nb (LT.ok_nb (LT.ok_nb (LT.ok_nb (LT.ok_nb (LT.ok_nb (LT.ok_leaf (by kernel_rfl))
 (LT.ok_leaf (by kernel_rfl)))
 (LT.ok_leaf (by kernel_rfl)))
 (LT.ok_leaf (by kernel_rfl)))
 (LT.ok_leaf (by kernel_rfl)))
 (LT.ok_leaf (by kernel_rfl)))
 (LT.ok_leaf (by kernel_rfl))))
 (LT.ok_nb (LT.ok_nb (LT.ok_nb (LT.ok_nb (LT.ok_nb (LT.ok_nb (LT.ok_nb (LT.ok_leaf (by kernel_rfl))
 (LT.ok_leaf (by kernel_rfl)))
 (LT.ok_leaf (by kernel_rfl)))
 (LT.ok_leaf (by kernel_rfl)))
 (LT.ok_leaf (by kernel_rfl)))
 (LT.ok_leaf (by kernel_rfl)))
 (LT.ok_leaf (by kernel_rfl)))
 (LT.ok_nb (LT.ok_nb (LT.ok_nb (LT.ok_nb (LT.ok_nb (LT.ok_nb (LT.ok_leaf (by kernel_rfl))
 (LT.ok_leaf (by kernel_rfl)))
 (LT.ok_leaf (by kernel_rfl)))
 (LT.ok_leaf (by kernel_rfl)))
 (LT.ok_leaf (by kernel_rfl)))
 (LT.ok_leaf (by kernel_rfl)))
 (LT.ok_leaf (by kernel_rfl)))))
 (LT.ok_nb (LT.ok_nb (LT.ok_nb (LT.ok_nb (LT.ok_nb (LT.ok_nb (LT.ok_nb (LT.ok_nb (LT.ok_leaf (by kernel_rfl))
 (LT.ok_leaf (by kernel_rfl)))
 (LT.ok_leaf (by kernel_rfl)))
 (LT.ok_leaf (by kernel_rfl)))
 (LT.ok_leaf (by kernel_rfl)))
 (LT.ok_leaf (by kernel_rfl)))
 (LT.ok_leaf (by kernel_rfl)))
 (LT.ok_nb (LT.ok_nb (LT.ok_nb (LT.ok_nb (LT.ok_nb (LT.ok_nb (LT.ok_leaf (by kernel_rfl))
 (LT.ok_leaf (by kernel_rfl)))
 (LT.ok_leaf (by kernel_rfl)))
 (LT.ok_leaf (by kernel_rfl)))
 (LT.ok_leaf (by kernel_rfl)))
 (LT.ok_leaf (by kernel_rfl)))
 (LT.ok_leaf (by kernel_rfl))))
 (LT.ok_nb (LT.ok_nb (LT.ok_nb (LT.ok_nb (LT.ok_nb (LT.ok_nb (LT.ok_nb (LT.ok_leaf (by kernel_rfl))
 (LT.ok_leaf (by kernel_rfl)))
 (LT.ok_leaf (by kernel_rfl)))
 (LT.ok_leaf (by kernel_rfl)))
 (LT.ok_leaf (by kernel_rfl)))
 (LT.ok_leaf (by kernel_rfl)))
 (LT.ok_leaf (by kernel_rfl)))
 (LT.ok_nb (LT.ok_nb (LT.ok_nb (LT.ok_nb (LT.ok_nb (LT.ok_nb (LT.ok_leaf (by kernel_rfl))
 (LT.ok_leaf (by kernel_rfl)))
 (LT.ok_leaf (by kernel_rfl)))
 (LT.ok_leaf (by kernel_rfl)))
 (LT.ok_leaf (by kernel_rfl)))
 (LT.ok_leaf (by kernel_rfl)))
 (LT.ok_leaf (by kernel_rfl)))))))
noncomputable def FloatEdgesT5 : LT :=
 (.nb [.setI0 6 (.bin .shr .u64 (.var 0) (.lit 63)), .setB0 7 (.cmp .eql (.var 6) (.lit 1)), .setB0 8 (.all [(.bb (.var 7 false) (.lit false))])] 8
 (.nb [.setB0 9 (.all [(.bb (.var 7 false) (.lit true))])] 9
 (.nb [.setB0 10 (.all [(.bb (.var 7 false) (.lit false))])] 10
 (.nb [.setB0 11 (.all [(.bb (.var 7 false) (.lit true))])] 11
 (.nb [.call 16 [(.ivar .u64 0), (.lit (.int .u64 0))] 12 [(.ri .u64)], .setB0 13 (.cmp .eql (.var 12) (.var 0))] 13
 (.nb [.call 16 [(.ivar .u64 0), (.lit (.int .u64 18442240474082181120))] 14 [(.ri .u64)], .setB0 15 (.cmp .eql (.var 14) (.lit 18442240474082181120))] 15
 (.nb [.call 19 [(.ivar .u64 0), (.lit (.int .u64 0))] 16 [(.ri .u64)], .setB0 17 (.cmp .eql (.var 16) (.lit 0))] 17
 (.nb [.call 19 [(.ivar .u64 0), (.lit (.int .u64 18442240474082181120))] 18 [(.ri .u64)], .setB0 19 (.cmp .eql (.var 18) (.lit 9218868437227405312))] 19
 (.nb [.call 20 [(.ivar .u64 0), (.lit (.int .u64 0))] 20 [(.ri .u64)], .setB0 21 (.cmp .eql (.var 20) (.lit 9218868437227405312))] 21
 (.nb [.call 20 [(.ivar .u64 0), (.lit (.int .u64 18442240474082181120))] 22 [(.ri .u64)], .setB0 23 (.cmp .eql (.var 22) (.lit 0))] 23
 (.leaf [.call 18 [(.ivar .u64 0), (.ivar .u64 0)] 24 [(.ri .u64)], .setB0 25 (.cmp .eql (.var 24) (.lit 0))] (.w (.c (.bvar 25 false))))
 (.leaf [] (.w (.c (.lit (.bool false))))))
 (.leaf [] (.w (.c (.lit (.bool false))))))
 (.leaf [] (.w (.c (.lit (.bool false))))))
 (.leaf [] (.w (.c (.lit (.bool false))))))
 (.leaf [] (.w (.c (.lit (.bool false))))))
 (.leaf [] (.w (.c (.lit (.bool false))))))
 (.nb [.call 16 [(.ivar .u64 0), (.lit (.int .u64 0))] 12 [(.ri .u64)], .setB0 13 (.cmp .eql (.var 12) (.var 0))] 13
 (.nb [.call 16 [(.ivar .u64 0), (.lit (.int .u64 18442240474082181120))] 14 [(.ri .u64)], .setB0 15 (.cmp .eql (.var 14) (.lit 18442240474082181120))] 15
 (.nb [.call 19 [(.ivar .u64 0), (.lit (.int .u64 0))] 16 [(.ri .u64)], .setB0 17 (.cmp .eql (.var 16) (.lit 0))] 17
 (.nb [.call 19 [(.ivar .u64 0), (.lit (.int .u64 18442240474082181120))] 18 [(.ri .u64)], .setB0 19 (.cmp .eql (.var 18) (.lit 9218868437227405312))] 19
 (.nb [.call 20 [(.ivar .u64 0), (.lit (.int .u64 0))] 20 [(.ri .u64)], .setB0 21 (.cmp .eql (.var 20) (.lit 9218868437227405312))] 21
 (.nb [.call 20 [(.ivar .u64 0), (.lit (.int .u64 18442240474082181120))] 22 [(.ri .u64)], .setB0 23 (.cmp .eql (.var 22) (.lit 9223372036854775808))] 23
 (.leaf [.call 18 [(.ivar .u64 0), (.ivar .u64 0)] 24 [(.ri .u64)], .setB0 25 (.cmp .eql (.var 24) (.lit 0))] (.w (.c (.bvar 25 false))))
 (.leaf [] (.w (.c (.lit (.bool false))))))
 (.leaf [] (.w (.c (.lit (.bool false))))))
 (.leaf [] (.w (.c (.lit (.bool false))))))
 (.leaf [] (.w (.c (.lit (.bool false))))))
 (.leaf [] (.w (.c (.lit (.bool false))))))
 (.leaf [] (.w (.c (.lit (.bool false)))))))
 (.nb [.setB0 11 (.all [(.bb (.var 7 false) (.lit true))])] 11
 (.nb [.call 16 [(.ivar .u64 0), (.lit (.int .u64 0))] 12 [(.ri .u64)], .setB0 13 (.cmp .eql (.var 12) (.var 0))] 13
 (.nb [.call 16 [(.ivar .u64 0), (.lit (.int .u64 18442240474082181120))] 14 [(.ri .u64)], .setB0 15 (.cmp .eql (.var 14) (.lit 18442240474082181120))] 15
 (.nb [.call 19 [(.ivar .u64 0), (.lit (.int .u64 0))] 16 [(.ri .u64)], .setB0 17 (.cmp .eql (.var 16) (.lit 0))] 17
 (.nb [.call 19 [(.ivar .u64 0), (.lit (.int .u64 18442240474082181120))] 18 [(.ri .u64)], .setB0 19 (.cmp .eql (.var 18) (.lit 9218868437227405312))] 19
 (.nb [.call 20 [(.ivar .u64 0), (.lit (.int .u64 0))] 20 [(.ri .u64)], .setB0 21 (.cmp .eql (.var 20) (.lit 18442240474082181120))] 21
 (.nb [.call 20 [(.ivar .u64 0), (.lit (.int .u64 18442240474082181120))] 22 [(.ri .u64)], .setB0 23 (.cmp .eql (.var 22) (.lit 0))] 23
 (.leaf [.call 18 [(.ivar .u64 0), (.ivar .u64 0)] 24 [(.ri .u64)], .setB0 25 (.cmp .eql (.var 24) (.lit 0))] (.w (.c (.bvar 25 false))))
 (.leaf [] (.w (.c (.lit (.bool false))))))
 (.leaf [] (.w (.c (.lit (.bool false))))))
 (.leaf [] (.w (.c (.lit (.bool false))))))
 (.leaf [] (.w (.c (.lit (.bool false))))))
 (.leaf [] (.w (.c (.lit (.bool false))))))
 (.leaf [] (.w (.c (.lit (.bool false))))))
 (.nb [.call 16 [(.ivar .u64 0), (.lit (.int .u64 0))] 12 [(.ri .u64)], .setB0 13 (.cmp .eql (.var 12) (.var 0))] 13
 (.nb [.call 16 [(.ivar .u64 0), (.lit (.int .u64 18442240474082181120))] 14 [(.ri .u64)], .setB0 15 (.cmp .eql (.var 14) (.lit 18442240474082181120))] 15
 (.nb [.call 19 [(.ivar .u64 0), (.lit (.int .u64 0))] 16 [(.ri .u64)], .setB0 17 (.cmp .eql (.var 16) (.lit 0))] 17
 (.nb [.call 19 [(.ivar .u64 0), (.lit (.int .u64 18442240474082181120))] 18 [(.ri .u64)], .setB0 19 (.cmp .eql (.var 18) (.lit 9218868437227405312))] 19
 (.nb [.call 20 [(.ivar .u64 0), (.lit (.int .u64 0))] 20 [(.ri .u64)], .setB0 21 (.cmp .eql (.var 20) (.lit 18442240474082181120))] 21
 (.nb [.call 20 [(.ivar .u64 0), (.lit (.int .u64 18442240474082181120))] 22 [(.ri .u64)], .setB0 23 (.cmp .eql (.var 22) (.lit 9223372036854775808))] 23
 (.leaf [.call 18 [(.ivar .u64 0), (.ivar .u64 0)] 24 [(.ri .u64)], .setB0 25 (.cmp .eql (.var 24) (.lit 0))] (.w (.c (.bvar 25 false))))
 (.leaf [] (.w (.c (.lit (.bool false))))))
 (.leaf [] (.w (.c (.lit (.bool false))))))
 (.leaf [] (.w (.c (.lit (.bool false))))))
 (.leaf [] (.w (.c (.lit (.bool false))))))
 (.leaf [] (.w (.c (.lit (.bool false))))))
 (.leaf [] (.w (.c (.lit (.bool false))))))))
 (.nb [.setB0 10 (.all [(.bb (.var 7 false) (.lit false))])] 10
 (.nb [.setB0 11 (.all [(.bb (.var 7 false) (.lit true))])] 11
 (.nb [.call 16 [(.ivar .u64 0), (.lit (.int .u64 0))] 12 [(.ri .u64)], .setB0 13 (.cmp .eql (.var 12) (.var 0))] 13
 (.nb [.call 16 [(.ivar .u64 0), (.lit (.int .u64 18442240474082181120))] 14 [(.ri .u64)], .setB0 15 (.cmp .eql (.var 14) (.lit 18442240474082181120))] 15
 (.nb [.call 19 [(.ivar .u64 0), (.lit (.int .u64 0))] 16 [(.ri .u64)], .setB0 17 (.cmp .eql (.var 16) (.lit 0))] 17
 (.nb [.call 19 [(.ivar .u64 0), (.lit (.int .u64 18442240474082181120))] 18 [(.ri .u64)], .setB0 19 (.cmp .eql (.var 18) (.lit 18442240474082181120))] 19
 (.nb [.call 20 [(.ivar .u64 0), (.lit (.int .u64 0))] 20 [(.ri .u64)], .setB0 21 (.cmp .eql (.var 20) (.lit 9218868437227405312))] 21
 (.nb [.call 20 [(.ivar .u64 0), (.lit (.int .u64 18442240474082181120))] 22 [(.ri .u64)], .setB0 23 (.cmp .eql (.var 22) (.lit 0))] 23
 (.leaf [.call 18 [(.ivar .u64 0), (.ivar .u64 0)] 24 [(.ri .u64)], .setB0 25 (.cmp .eql (.var 24) (.lit 0))] (.w (.c (.bvar 25 false))))
 (.leaf [] (.w (.c (.lit (.bool false))))))
 (.leaf [] (.w (.c (.lit (.bool false))))))
 (.leaf [] (.w (.c (.lit (.bool false))))))
 (.leaf [] (.w (.c (.lit (.bool false))))))
 (.leaf [] (.w (.c (.lit (.bool false))))))
 (.leaf [] (.w (.c (.lit (.bool false))))))
 (.nb [.call 16 [(.ivar .u64 0), (.lit (.int .u64 0))] 12 [(.ri .u64)], .setB0 13 (.cmp .eql (.var 12) (.var 0))] 13
 (.nb [.call 16 [(.ivar .u64 0), (.lit (.int .u64 18442240474082181120))] 14 [(.ri .u64)], .setB0 15 (.cmp .eql (.var 14) (.lit 18442240474082181120))] 15
 (.nb [.call 19 [(.ivar .u64 0), (.lit (.int .u64 0))] 16 [(.ri .u64)], .setB0 17 (.cmp .eql (.var 16) (.lit 0))] 17
 (.nb [.call 19 [(.ivar .u64 0), (.lit (.int .u64 18442240474082181120))] 18 [(.ri .u64)], .setB0 19 (.cmp .eql (.var 18) (.lit 18442240474082181120))] 19
 (.nb [.call 20 [(.ivar .u64 0), (.lit (.int .u64 0))] 20 [(.ri .u64)], .setB0 21 (.cmp .eql (.var 20) (.lit 9218868437227405312))] 21
 (.nb [.call 20 [(.ivar .u64 0), (.lit (.int .u64 18442240474082181120))] 22 [(.ri .u64)], .setB0 23 (.cmp .eql (.var 22) (.lit 9223372036854775808))] 23
 (.leaf [.call 18 [(.ivar .u64 0), (.ivar .u64 0)] 24 [(.ri .u64)], .setB0 25 (.cmp .eql (.var 24) (.lit 0))] (.w (.c (.bvar 25 false))))
 (.leaf [] (.w (.c (.lit (.bool false))))))
 (.leaf [] (.w (.c (.lit (.bool false))))))
 (.leaf [] (.w (.c (.lit (.bool false))))))
 (.leaf [] (.w (.c (.lit (.bool false))))))
 (.leaf [] (.w (.c (.lit (.bool false))))))
 (.leaf [] (.w (.c (.lit (.bool false)))))))
 (.nb [.setB0 11 (.all [(.bb (.var 7 false) (.lit true))])] 11
 (.nb [.call 16 [(.ivar .u64 0), (.lit (.int .u64 0))] 12 [(.ri .u64)], .setB0 13 (.cmp .eql (.var 12) (.var 0))] 13
 (.nb [.call 16 [(.ivar .u64 0), (.lit (.int .u64 18442240474082181120))] 14 [(.ri .u64)], .setB0 15 (.cmp .eql (.var 14) (.lit 18442240474082181120))] 15
 (.nb [.call 19 [(.ivar .u64 0), (.lit (.int .u64 0))] 16 [(.ri .u64)], .setB0 17 (.cmp .eql (.var 16) (.lit 0))] 17
 (.nb [.call 19 [(.ivar .u64 0), (.lit (.int .u64 18442240474082181120))] 18 [(.ri .u64)], .setB0 19 (.cmp .eql (.var 18) (.lit 18442240474082181120))] 19
 (.nb [.call 20 [(.ivar .u64 0), (.lit (.int .u64 0))] 20 [(.ri .u64)], .setB0 21 (.cmp .eql (.var 20) (.lit 18442240474082181120))] 21
 (.nb [.call 20 [(.ivar .u64 0), (.lit (.int .u64 18442240474082181120))] 22 [(.ri .u64)], .setB0 23 (.cmp .eql (.var 22) (.lit 0))] 23
 (.leaf [.call 18 [(.ivar .u64 0), (.ivar .u64 0)] 24 [(.ri .u64)], .setB0 25 (.cmp .eql (.var 24) (.lit 0))] (.w (.c (.bvar 25 false))))
 (.leaf [] (.w (.c (.lit (.bool false))))))
 (.leaf [] (.w (.c (.lit (.bool false))))))
 (.leaf [] (.w (.c (.lit (.bool false))))))
 (.leaf [] (.w (.c (.lit (.bool false))))))
 (.leaf [] (.w (.c (.lit (.bool false))))))
 (.leaf [] (.w (.c (.lit (.bool false))))))
 (.nb [.call 16 [(.ivar .u64 0), (.lit (.int .u64 0))] 12 [(.ri .u64)], .setB0 13 (.cmp .eql (.var 12) (.var 0))] 13
 (.nb [.call 16 [(.ivar .u64 0), (.lit (.int .u64 18442240474082181120))] 14 [(.ri .u64)], .setB0 15 (.cmp .eql (.var 14) (.lit 18442240474082181120))] 15
 (.nb [.call 19 [(.ivar .u64 0), (.lit (.int .u64 0))] 16 [(.ri .u64)], .setB0 17 (.cmp .eql (.var 16) (.lit 0))] 17
 (.nb [.call 19 [(.ivar .u64 0), (.lit (.int .u64 18442240474082181120))] 18 [(.ri .u64)], .setB0 19 (.cmp .eql (.var 18) (.lit 18442240474082181120))] 19
 (.nb [.call 20 [(.ivar .u64 0), (.lit (.int .u64 0))] 20 [(.ri .u64)], .setB0 21 (.cmp .eql (.var 20) (.lit 18442240474082181120))] 21
 (.nb [.call 20 [(.ivar .u64 0), (.lit (.int .u64 18442240474082181120))] 22 [(.ri .u64)], .setB0 23 (.cmp .eql (.var 22) (.lit 9223372036854775808))] 23
 (.leaf [.call 18 [(.ivar .u64 0), (.ivar .u64 0)] 24 [(.ri .u64)], .setB0 25 (.cmp .eql (.var 24) (.lit 0))] (.w (.c (.bvar 25 false))))
 (.leaf [] (.w (.c (.lit (.bool false))))))
 (.leaf [] (.w (.c (.lit (.bool false))))))
 (.leaf [] (.w (.c (.lit (.bool false))))))
 (.leaf [] (.w (.c (.lit (.bool false))))))
 (.leaf [] (.w (.c (.lit (.bool false))))))
 (.leaf [] (.w (.c (.lit (.bool false)))))))))
 (.nb [.setB0 9 (.all [(.bb (.var 7 false) (.lit true))])] 9
 (.nb [.setB0 10 (.all [(.bb (.var 7 false) (.lit false))])] 10
 (.nb [.setB0 11 (.all [(.bb (.var 7 false) (.lit true))])] 11
 (.nb [.call 16 [(.ivar .u64 0), (.lit (.int .u64 0))] 12 [(.ri .u64)], .setB0 13 (.cmp .eql (.var 12) (.var 0))] 13
 (.nb [.call 16 [(.ivar .u64 0), (.lit (.int .u64 18442240474082181120))] 14 [(.ri .u64)], .setB0 15 (.cmp .eql (.var 14) (.lit 18442240474082181120))] 15
 (.nb [.call 19 [(.ivar .u64 0), (.lit (.int .u64 0))] 16 [(.ri .u64)], .setB0 17 (.cmp .eql (.var 16) (.lit 9223372036854775808))] 17
 (.nb [.call 19 [(.ivar .u64 0), (.lit (.int .u64 18442240474082181120))] 18 [(.ri .u64)], .setB0 19 (.cmp .eql (.var 18) (.lit 9218868437227405312))] 19
 (.nb [.call 20 [(.ivar .u64 0), (.lit (.int .u64 0))] 20 [(.ri .u64)], .setB0 21 (.cmp .eql (.var 20) (.lit 9218868437227405312))] 21
 (.nb [.call 20 [(.ivar .u64 0), (.lit (.int .u64 18442240474082181120))] 22 [(.ri .u64)], .setB0 23 (.cmp .eql (.var 22) (.lit 0))] 23
 (.leaf [.call 18 [(.ivar .u64 0), (.ivar .u64 0)] 24 [(.ri .u64)], .setB0 25 (.cmp .eql (.var 24) (.lit 0))] (.w (.c (.bvar 25 false))))
 (.leaf [] (.w (.c (.lit (.bool false))))))
 (.leaf [] (.w (.c (.lit (.bool false))))))
 (.leaf [] (.w (.c (.lit (.bool false))))))
 (.leaf [] (.w (.c (.lit (.bool false))))))
 (.leaf [] (.w (.c (.lit (.bool false))))))
 (.leaf [] (.w (.c (.lit (.bool false))))))
 (.nb [.call 16 [(.ivar .u64 0), (.lit (.int .u64 0))] 12 [(.ri .u64)], .setB0 13 (.cmp .eql (.var 12) (.var 0))] 13
 (.nb [.call 16 [(.ivar .u64 0), (.lit (.int .u64 18442240474082181120))] 14 [(.ri .u64)], .setB0 15 (.cmp .eql (.var 14) (.lit 18442240474082181120))] 15
 (.nb [.call 19 [(.ivar .u64 0), (.lit (.int .u64 0))] 16 [(.ri .u64)], .setB0 17 (.cmp .eql (.var 16) (.lit 9223372036854775808))] 17
 (.nb [.call 19 [(.ivar .u64 0), (.lit (.int .u64 18442240474082181120))] 18 [(.ri .u64)], .setB0 19 (.cmp .eql (.var 18) (.lit 9218868437227405312))] 19
 (.nb [.call 20 [(.ivar .u64 0), (.lit (.int .u64 0))] 20 [(.ri .u64)], .setB0 21 (.cmp .eql (.var 20) (.lit 9218868437227405312))] 21
 (.nb [.call 20 [(.ivar .u64 0), (.lit (.int .u64 18442240474082181120))] 22 [(.ri .u64)], .setB0 23 (.cmp .eql (.var 22) (.lit 9223372036854775808))] 23
 (.leaf [.call 18 [(.ivar .u64 0), (.ivar .u64 0)] 24 [(.ri .u64)], .setB0 25 (.cmp .eql (.var 24) (.lit 0))] (.w (.c (.bvar 25 false))))
 (.leaf [] (.w (.c (.lit (.bool false))))))
 (.leaf [] (.w (.c (.lit (.bool false))))))
 (.leaf [] (.w (.c (.lit (.bool false))))))
 (.leaf [] (.w (.c (.lit (.bool false))))))
 (.leaf [] (.w (.c (.lit (.bool false))))))
 (.leaf [] (.w (.c (.lit (.bool false)))))))
 (.nb [.setB0 11 (.all [(.bb (.var 7 false) (.lit true))])] 11
 (.nb [.call 16 [(.ivar .u64 0), (.lit (.int .u64 0))] 12 [(.ri .u64)], .setB0 13 (.cmp .eql (.var 12) (.var 0))] 13
 (.nb [.call 16 [(.ivar .u64 0), (.lit (.int .u64 18442240474082181120))] 14 [(.ri .u64)], .setB0 15 (.cmp .eql (.var 14) (.lit 18442240474082181120))] 15
 (.nb [.call 19 [(.ivar .u64 0), (.lit (.int .u64 0))] 16 [(.ri .u64)], .setB0 17 (.cmp .eql (.var 16) (.lit 9223372036854775808))] 17
 (.nb [.call 19 [(.ivar .u64 0), (.lit (.int .u64 18442240474082181120))] 18 [(.ri .u64)], .setB0 19 (.cmp .eql (.var 18) (.lit 9218868437227405312))] 19
 (.nb [.call 20 [(.ivar .u64 0), (.lit (.int .u64 0))] 20 [(.ri .u64)], .setB0 21 (.cmp .eql (.var 20) (.lit 18442240474082181120))] 21
 (.nb [.call 20 [(.ivar .u64 0), (.lit (.int .u64 18442240474082181120))] 22 [(.ri .u64)], .setB0 23 (.cmp .eql (.var 22) (.lit 0))] 23
 (.leaf [.call 18 [(.ivar .u64 0), (.ivar .u64 0)] 24 [(.ri .u64)], .setB0 25 (.cmp .eql (.var 24) (.lit 0))] (.w (.c (.bvar 25 false))))
 (.leaf [] (.w (.c (.lit (.bool false))))))
 (.leaf [] (.w (.c (.lit (.bool false))))))
 (.leaf [] (.w (.c (.lit (.bool false))))))
 (.leaf [] (.w (.c (.lit (.bool false))))))
 (.leaf [] (.w (.c (.lit (.bool false))))))
 (.leaf [] (.w (.c (.lit (.bool false))))))
 (.nb [.call 16 [(.ivar .u64 0), (.lit (.int .u64 0))] 12 [(.ri .u64)], .setB0 13 (.cmp .eql (.var 12) (.var 0))] 13
 (.nb [.call 16 [(.ivar .u64 0), (.lit (.int .u64 18442240474082181120))] 14 [(.ri .u64)], .setB0 15 (.cmp .eql (.var 14) (.lit 18442240474082181120))] 15
 (.nb [.call 19 [(.ivar .u64 0), (.lit (.int .u64 0))] 16 [(.ri .u64)], .setB0 17 (.cmp .eql (.var 16) (.lit 9223372036854775808))] 17
 (.nb [.call 19 [(.ivar .u64 0), (.lit (.int .u64 18442240474082181120))] 18 [(.ri .u64)], .setB0 19 (.cmp .eql (.var 18) (.lit 9218868437227405312))] 19
 (.nb [.call 20 [(.ivar .u64 0), (.lit (.int .u64 0))] 20 [(.ri .u64)], .setB0 21 (.cmp .eql (.var 20) (.lit 18442240474082181120))] 21
 (.nb [.call 20 [(.ivar .u64 0), (.lit (.int .u64 18442240474082181120))] 22 [(.ri .u64)], .setB0 23 (.cmp .eql (.var 22) (.lit 9223372036854775808))] 23
 (.leaf [.call 18 [(.ivar .u64 0), (.ivar .u64 0)] 24 [(.ri .u64)], .setB0 25 (.cmp .eql (.var 24) (.lit 0))] (.w (.c (.bvar 25 false))))
 (.leaf [] (.w (.c (.lit (.bool false))))))
 (.leaf [] (.w (.c (.lit (.bool false))))))
 (.leaf [] (.w (.c (.lit (.bool false))))))
 (.leaf [] (.w (.c (.lit (.bool false))))))
 (.leaf [] (.w (.c (.lit (.bool false))))))
 (.leaf [] (.w (.c (.lit (.bool false))))))))
 (.nb [.setB0 10 (.all [(.bb (.var 7 false) (.lit false))])] 10
 (.nb [.setB0 11 (.all [(.bb (.var 7 false) (.lit true))])] 11
 (.nb [.call 16 [(.ivar .u64 0), (.lit (.int .u64 0))] 12 [(.ri .u64)], .setB0 13 (.cmp .eql (.var 12) (.var 0))] 13
 (.nb [.call 16 [(.ivar .u64 0), (.lit (.int .u64 18442240474082181120))] 14 [(.ri .u64)], .setB0 15 (.cmp .eql (.var 14) (.lit 18442240474082181120))] 15
 (.nb [.call 19 [(.ivar .u64 0), (.lit (.int .u64 0))] 16 [(.ri .u64)], .setB0 17 (.cmp .eql (.var 16) (.lit 9223372036854775808))] 17
 (.nb [.call 19 [(.ivar .u64 0), (.lit (.int .u64 18442240474082181120))] 18 [(.ri .u64)], .setB0 19 (.cmp .eql (.var 18) (.lit 18442240474082181120))] 19
 (.nb [.call 20 [(.ivar .u64 0), (.lit (.int .u64 0))] 20 [(.ri .u64)], .setB0 21 (.cmp .eql (.var 20) (.lit 9218868437227405312))] 21
 (.nb [.call 20 [(.ivar .u64 0), (.lit (.int .u64 18442240474082181120))] 22 [(.ri .u64)], .setB0 23 (.cmp .eql (.var 22) (.lit 0))] 23
 (.leaf [.call 18 [(.ivar .u64 0), (.ivar .u64 0)] 24 [(.ri .u64)], .setB0 25 (.cmp .eql (.var 24) (.lit 0))] (.w (.c (.bvar 25 false))))
 (.leaf [] (.w (.c (.lit (.bool false))))))
 (.leaf [] (.w (.c (.lit (.bool false))))))
 (.leaf [] (.w (.c (.lit (.bool false))))))
 (.leaf [] (.w (.c (.lit (.bool false))))))
 (.leaf [] (.w (.c (.lit (.bool false))))))
 (.leaf [] (.w (.c (.lit (.bool false))))))
 (.nb [.call 16 [(.ivar .u64 0), (.lit (.int .u64 0))] 12 [(.ri .u64)], .setB0 13 (.cmp .eql (.var 12) (.var 0))] 13
 (.nb [.call 16 [(.ivar .u64 0), (.lit (.int .u64 18442240474082181120))] 14 [(.ri .u64)], .setB0 15 (.cmp .eql (.var 14) (.lit 18442240474082181120))] 15
 (.nb [.call 19 [(.ivar .u64 0), (.lit (.int .u64 0))] 16 [(.ri .u64)], .setB0 17 (.cmp .eql (.var 16) (.lit 9223372036854775808))] 17
 (.nb [.call 19 [(.ivar .u64 0), (.lit (.int .u64 18442240474082181120))] 18 [(.ri .u64)], .setB0 19 (.cmp .eql (.var 18) (.lit 18442240474082181120))] 19
 (.nb [.call 20 [(.ivar .u64 0), (.lit (.int .u64 0))] 20 [(.ri .u64)], .setB0 21 (.cmp .eql (.var 20) (.lit 9218868437227405312))] 21
 (.nb [.call 20 [(.ivar .u64 0), (.lit (.int .u64 18442240474082181120))] 22 [(.ri .u64)], .setB0 23 (.cmp .eql (.var 22) (.lit 9223372036854775808))] 23
 (.leaf [.call 18 [(.ivar .u64 0), (.ivar .u64 0)] 24 [(.ri .u64)], .setB0 25 (.cmp .eql (.var 24) (.lit 0))] (.w (.c (.bvar 25 false))))
 (.leaf [] (.w (.c (.lit (.bool false))))))
 (.leaf [] (.w (.c (.lit (.bool false))))))
 (.leaf [] (.w (.c (.lit (.bool false))))))
 (.leaf [] (.w (.c (.lit (.bool false))))))
 (.leaf [] (.w (.c (.lit (.bool false))))))
 (.leaf [] (.w (.c (.lit (.bool false)))))))
 (.nb [.setB0 11 (.all [(.bb (.var 7 false) (.lit true))])] 11
 (.nb [.call 16 [(.ivar .u64 0), (.lit (.int .u64 0))] 12 [(.ri .u64)], .setB0 13 (.cmp .eql (.var 12) (.var 0))] 13
 (.nb [.call 16 [(.ivar .u64 0), (.lit (.int .u64 18442240474082181120))] 14 [(.ri .u64)], .setB0 15 (.cmp .eql (.var 14) (.lit 18442240474082181120))] 15
 (.nb [.call 19 [(.ivar .u64 0), (.lit (.int .u64 0))] 16 [(.ri .u64)], .setB0 17 (.cmp .eql (.var 16) (.lit 9223372036854775808))] 17
 (.nb [.call 19 [(.ivar .u64 0), (.lit (.int .u64 18442240474082181120))] 18 [(.ri .u64)], .setB0 19 (.cmp .eql (.var 18) (.lit 18442240474082181120))] 19
 (.nb [.call 20 [(.ivar .u64 0), (.lit (.int .u64 0))] 20 [(.ri .u64)], .setB0 21 (.cmp .eql (.var 20) (.lit 18442240474082181120))] 21
 (.nb [.call 20 [(.ivar .u64 0), (.lit (.int .u64 18442240474082181120))] 22 [(.ri .u64)], .setB0 23 (.cmp .eql (.var 22) (.lit 0))] 23
 (.leaf [.call 18 [(.ivar .u64 0), (.ivar .u64 0)] 24 [(.ri .u64)], .setB0 25 (.cmp .eql (.var 24) (.lit 0))] (.w (.c (.bvar 25 false))))
 (.leaf [] (.w (.c (.lit (.bool false))))))
 (.leaf [] (.w (.c (.lit (.bool false))))))
 (.leaf [] (.w (.c (.lit (.bool false))))))
 (.leaf [] (.w (.c (.lit (.bool false))))))
 (.leaf [] (.w (.c (.lit (.bool false))))))
 (.leaf [] (.w (.c (.lit (.bool false))))))
 (.nb [.call 16 [(.ivar .u64 0), (.lit (.int .u64 0))] 12 [(.ri .u64)], .setB0 13 (.cmp .eql (.var 12) (.var 0))] 13
 (.nb [.call 16 [(.ivar .u64 0), (.lit (.int .u64 18442240474082181120))] 14 [(.ri .u64)], .setB0 15 (.cmp .eql (.var 14) (.lit 18442240474082181120))] 15
 (.nb [.call 19 [(.ivar .u64 0), (.lit (.int .u64 0))] 16 [(.ri .u64)], .setB0 17 (.cmp .eql (.var 16) (.lit 9223372036854775808))] 17
 (.nb [.call 19 [(.ivar .u64 0), (.lit (.int .u64 18442240474082181120))] 18 [(.ri .u64)], .setB0 19 (.cmp .eql (.var 18) (.lit 18442240474082181120))] 19
 (.nb [.call 20 [(.ivar .u64 0), (.lit (.int .u64 0))] 20 [(.ri .u64)], .setB0 21 (.cmp .eql (.var 20) (.lit 18442240474082181120))] 21
 (.nb [.call 20 [(.ivar .u64 0), (.lit (.int .u64 18442240474082181120))] 22 [(.ri .u64)], .setB0 23 (.cmp .eql (.var 22) (.lit 9223372036854775808))] 23
 (.leaf [.call 18 [(.ivar .u64 0), (.ivar .u64 0)] 24 [(.ri .u64)], .setB0 25 (.cmp .eql (.var 24) (.lit 0))] (.w (.c (.bvar 25 false))))
 (.leaf [] (.w (.c (.lit (.bool false))))))
 (.leaf [] (.w (.c (.lit (.bool false))))))
 (.leaf [] (.w (.c (.lit (.bool false))))))
 (.leaf [] (.w (.c (.lit (.bool false))))))
 (.leaf [] (.w (.c (.lit (.bool false))))))
 (.leaf [] (.w (.c (.lit (.bool false))))))))))
theorem FloatEdgesT5_ok : LT.Ok FloatEdgesR FloatEdgesT5 [.db false, .db true, .db false, .db true] [.decB 5 false, .setB0 5 (.cmp .neq (.var 4) (.lit 1)), .call 12 [(.ivar .u64 0)] 4 [(.ri .i64)], .decB 2 true, .decB 1 false, .decB 3 true, .call 11 [] 3 [.rb]] :=
 (LT.ok_nb (LT.ok_nb (LT.ok_nb (LT.ok_nb (LT.ok_nb (LT.ok_nb (LT.ok_nb (LT.ok_nb (LT.ok_nb (LT.ok_nb (LT.ok_leaf (by kernel_rfl))
 (LT.ok_leaf (by kernel_rfl)))
 (LT.ok_leaf (by kernel_rfl)))
 (LT.ok_leaf (by kernel_rfl)))
 (LT.ok_leaf (by kernel_rfl)))
 (LT.ok_leaf (by kernel_rfl)))
 (LT.ok_leaf (by kernel_rfl)))
 (LT.ok_nb (LT.ok_nb (LT.ok_nb (LT.ok_nb (LT.ok_nb (LT.ok_nb (LT.ok_leaf (by kernel_rfl))
 (LT.ok_leaf (by kernel_rfl)))
 (LT.ok_leaf (by kernel_rfl)))
 (LT.ok_leaf (by kernel_rfl)))
 (LT.ok_leaf (by kernel_rfl)))
 (LT.ok_leaf (by kernel_rfl)))
 (LT.ok_leaf (by kernel_rfl))))
 (LT.ok_nb (LT.ok_nb (LT.ok_nb (LT.ok_nb (LT.ok_nb (LT.ok_nb (LT.ok_nb (LT.ok_leaf (by kernel_rfl))
 (LT.ok_leaf (by kernel_rfl)))
 (LT.ok_leaf (by kernel_rfl)))
 (LT.ok_leaf (by kernel_rfl)))
 (LT.ok_leaf (by kernel_rfl)))
 (LT.ok_leaf (by kernel_rfl)))
 (LT.ok_leaf (by kernel_rfl)))
 (LT.ok_nb (LT.ok_nb (LT.ok_nb (LT.ok_nb (LT.ok_nb (LT.ok_nb (LT.ok_leaf (by kernel_rfl))
 (LT.ok_leaf (by kernel_rfl)))
 (LT.ok_leaf (by kernel_rfl)))
 (LT.ok_leaf (by kernel_rfl)))
 (LT.ok_leaf (by kernel_rfl)))
 (LT.ok_leaf (by kernel_rfl)))
 (LT.ok_leaf (by kernel_rfl)))))
 (LT.ok_nb (LT.ok_nb (LT.ok_nb (LT.ok_nb (LT.ok_nb (LT.ok_nb (LT.ok_nb (LT.ok_nb (LT.ok_leaf (by kernel_rfl))
 (LT.ok_leaf (by kernel_rfl)))
 (LT.ok_leaf (by kernel_rfl)))
 (LT.ok_leaf (by kernel_rfl)))
 (LT.ok_leaf (by kernel_rfl)))
 (LT.ok_leaf (by kernel_rfl)))
 (LT.ok_leaf (by kernel_rfl)))
 (LT.ok_nb (LT.ok_nb (LT.ok_nb (LT.ok_nb (LT.ok_nb (LT.ok_nb (LT.ok_leaf (by kernel_rfl))
 (LT.ok_leaf (by kernel_rfl)))
 (LT.ok_leaf (by kernel_rfl)))
 (LT.ok_leaf (by kernel_rfl)))
 (LT.ok_leaf (by kernel_rfl)))
 (LT.ok_leaf (by kernel_rfl)))
 (LT.ok_leaf (by kernel_rfl))))
 (LT.ok_nb (LT.ok_nb (LT.ok_nb (LT.ok_nb (LT.ok_nb (LT.ok_nb (LT.ok_nb (LT.ok_leaf (by kernel_rfl))
 (LT.ok_leaf (by kernel_rfl)))
 (LT.ok_leaf (by kernel_rfl)))
 (LT.ok_leaf (by kernel_rfl)))
 (LT.ok_leaf (by kernel_rfl)))
 (LT.ok_leaf (by kernel_rfl)))
 (LT.ok_leaf (by kernel_rfl)))
 (LT.ok_nb (LT.ok_nb (LT.ok_nb (LT.ok_nb (LT.ok_nb (LT.ok_nb (LT.ok_leaf (by kernel_rfl))
 (LT.ok_leaf (by kernel_rfl)))
 (LT.ok_leaf (by kernel_rfl)))
 (LT.ok_leaf (by kernel_rfl)))
 (LT.ok_leaf (by kernel_rfl)))
 (LT.ok_leaf (by kernel_rfl)))
 (LT.ok_leaf (by kernel_rfl))))))
 (LT.ok_nb (LT.ok_nb (LT.ok_nb (LT.ok_nb (LT.ok_nb (LT.ok_nb (LT.ok_nb (LT.ok_nb (LT.ok_nb (LT.ok_leaf (by kernel_rfl))
 (LT.ok_leaf (by kernel_rfl)))
 (LT.ok_leaf (by kernel_rfl)))
 (LT.ok_leaf (by kernel_rfl)))
 (LT.ok_leaf (by kernel_rfl)))
 (LT.ok_leaf (by kernel_rfl)))
 (LT.ok_leaf (by kernel_rfl)))
 (LT.ok_nb (LT.ok_nb (LT.ok_nb (LT.ok_nb (LT.ok_nb (LT.ok_nb (LT.ok_leaf (by kernel_rfl))
 (LT.ok_leaf (by kernel_rfl)))
 (LT.ok_leaf (by kernel_rfl)))
 (LT.ok_leaf (by kernel_rfl)))
 (LT.ok_leaf (by kernel_rfl)))
 (LT.ok_leaf (by kernel_rfl)))
 (LT.ok_leaf (by kernel_rfl))))
 (LT.ok_nb (LT.ok_nb (LT.ok_nb (LT.ok_nb (LT.ok_nb (LT.ok_nb (LT.ok_nb (LT.ok_leaf (by kernel_rfl))
 (LT.ok_leaf (by kernel_rfl)))
 (LT.ok_leaf (by kernel_rfl)))
 (LT.ok_leaf (by kernel_rfl)))
 (LT.ok_leaf (by kernel_rfl)))
 (LT.ok_leaf (by kernel_rfl)))
 (LT.ok_leaf (by kernel_rfl)))
 (LT.ok_nb (LT.ok_nb (LT.ok_nb (LT.ok_nb (LT.ok_nb (LT.ok_nb (LT.ok_leaf (by kernel_rfl))
 (LT.ok_leaf (by kernel_rfl)))
 (LT.ok_leaf (by kernel_rfl)))
 (LT.ok_leaf (by kernel_rfl)))
 (LT.ok_leaf (by kernel_rfl)))
 (LT.ok_leaf (by kernel_rfl)))
 (LT.ok_leaf (by kernel_rfl)))))
 (LT.ok_nb (LT.ok_nb (LT.ok_nb (LT.ok_nb (LT.ok_nb (LT.ok_nb (LT.ok_nb (LT.ok_nb (LT.ok_leaf (by kernel_rfl))
 (LT.ok_leaf (by kernel_rfl)))
 (LT.ok_leaf (by kernel_rfl)))
 (LT.ok_leaf (by kernel_rfl)))
 (LT.ok_leaf (by kernel_rfl)))
 (LT.ok_leaf (by kernel_rfl)))
 (LT.ok_leaf (by kernel_rfl)))
 (LT.ok_nb (LT.ok_nb (LT.ok_nb (LT.ok_nb (LT.ok_nb (LT.ok_nb (LT.ok_leaf (by kernel_rfl))
 (LT.ok_leaf (by kernel_rfl)))
 (LT.ok_leaf (by kernel_rfl)))
 (LT.ok_leaf (by kernel_rfl)))
 (LT.ok_leaf (by kernel_rfl)))
 (LT.ok_leaf (by kernel_rfl)))
 (LT.ok_leaf (by kernel_rfl))))
 (LT.ok_nb (LT.ok_nb (LT.ok_nb (LT.ok_nb (LT.ok_nb (LT.ok_nb (LT.ok_nb (LT.ok_leaf (by kernel_rfl))
 (LT.ok_leaf (by kernel_rfl)))
 (LT.ok_leaf (by kernel_rfl)))
 (LT.ok_leaf (by kernel_rfl)))
 (LT.ok_leaf (by kernel_rfl)))
 (LT.ok_leaf (by kernel_rfl)))
 (LT.ok_leaf (by kernel_rfl)))
 (LT.ok_nb (LT.ok_nb (LT.ok_nb (LT.ok_nb (LT.ok_nb (LT.ok_nb (LT.ok_leaf (by kernel_rfl))
 (LT.ok_leaf (by kernel_rfl)))
 (LT.ok_leaf (by kernel_rfl)))
 (LT.ok_leaf (by kernel_rfl)))
 (LT.ok_leaf (by kernel_rfl)))
 (LT.ok_leaf (by kernel_rfl)))
 (LT.ok_leaf (by kernel_rfl)))))))
noncomputable def FloatEdgesT6 : LT :=
 (.nb [.setI0 7 (.bin .shr .u64 (.var 0) (.lit 63)), .setB0 8 (.cmp .eql (.var 7) (.lit 1)), .setB0 9 (.all [(.bb (.var 8 false) (.lit false))])] 9
 (.nb [.setB0 10 (.all [(.bb (.var 8 false) (.lit false))])] 10
 (.nb [.setB0 11 (.all [(.bb (.var 8 false) (.lit false))])] 11
 (.nb [.setB0 12 (.all [(.bb (.var 8 false) (.lit false))])] 12
 (.nb [.call 16 [(.ivar .u64 0), (.lit (.int .u64 0))] 13 [(.ri .u64)], .setB0 14 (.cmp .eql (.var 13) (.var 0))] 14
 (.nb [.call 16 [(.ivar .u64 0), (.lit (.int .u64 9218868437227405312))] 15 [(.ri .u64)], .setB0 16 (.cmp .eql (.var 15) (.lit 9218868437227405312))] 16
 (.nb [.call 19 [(.ivar .u64 0), (.lit (.int .u64 0))] 17 [(.ri .u64)], .setB0 18 (.cmp .eql (.var 17) (.lit 0))] 18
 (.nb [.call 19 [(.ivar .u64 0), (.lit (.int .u64 9218868437227405312))] 19 [(.ri .u64)], .setB0 20 (.cmp .eql (.var 19) (.lit 9218868437227405312))] 20
 (.nb [.call 20 [(.ivar .u64 0), (.lit (.int .u64 0))] 21 [(.ri .u64)], .setB0 22 (.cmp .eql (.var 21) (.lit 9218868437227405312))] 22
 (.nb [.call 20 [(.ivar .u64 0), (.lit (.int .u64 9218868437227405312))] 23 [(.ri .u64)], .setB0 24 (.cmp .eql (.var 23) (.lit 0))] 24
 (.leaf [.call 18 [(.ivar .u64 0), (.ivar .u64 0)] 25 [(.ri .u64)], .setB0 26 (.cmp .eql (.var 25) (.lit 0))] (.w (.c (.bvar 26 false))))
 (.leaf [] (.w (.c (.lit (.bool false))))))
 (.leaf [] (.w (.c (.lit (.bool false))))))
 (.leaf [] (.w (.c (.lit (.bool false))))))
 (.leaf [] (.w (.c (.lit (.bool false))))))
 (.leaf [] (.w (.c (.lit (.bool false))))))
 (.leaf [] (.w (.c (.lit (.bool false))))))
 (.nb [.call 16 [(.ivar .u64 0), (.lit (.int .u64 0))] 13 [(.ri .u64)], .setB0 14 (.cmp .eql (.var 13) (.var 0))] 14
 (.nb [.call 16 [(.ivar .u64 0), (.lit (.int .u64 9218868437227405312))] 15 [(.ri .u64)], .setB0 16 (.cmp .eql (.var 15) (.lit 9218868437227405312))] 16
 (.nb [.call 19 [(.ivar .u64 0), (.lit (.int .u64 0))] 17 [(.ri .u64)], .setB0 18 (.cmp .eql (.var 17) (.lit 0))] 18
 (.nb [.call 19 [(.ivar .u64 0), (.lit (.int .u64 9218868437227405312))] 19 [(.ri .u64)], .setB0 20 (.cmp .eql (.var 19) (.lit 9218868437227405312))] 20
 (.nb [.call 20 [(.ivar .u64 0), (.lit (.int .u64 0))] 21 [(.ri .u64)], .setB0 22 (.cmp .eql (.var 21) (.lit 9218868437227405312))] 22
 (.nb [.call 20 [(.ivar .u64 0), (.lit (.int .u64 9218868437227405312))] 23 [(.ri .u64)], .setB0 24 (.cmp .eql (.var 23) (.lit 9223372036854775808))] 24
 (.leaf [.call 18 [(.ivar .u64 0), (.ivar .u64 0)] 25 [(.ri .u64)], .setB0 26 (.cmp .eql (.var 25) (.lit 0))] (.w (.c (.bvar 26 false))))
 (.leaf [] (.w (.c (.lit (.bool false))))))
 (.leaf [] (.w (.c (.lit (.bool false))))))
 (.leaf [] (.w (.c (.lit (.bool false))))))
 (.leaf [] (.w (.c (.lit (.bool false))))))
 (.leaf [] (.w (.c (.lit (.bool false))))))
 (.leaf [] (.w (.c (.lit (.bool false)))))))
 (.nb [.setB0 12 (.all [(.bb (.var 8 false) (.lit false))])] 12
 (.nb [.call 16 [(.ivar .u64 0), (.lit (.int .u64 0))] 13 [(.ri .u64)], .setB0 14 (.cmp .eql (.var 13) (.var 0))] 14
 (.nb [.call 16 [(.ivar .u64 0), (.lit (.int .u64 9218868437227405312))] 15 [(.ri .u64)], .setB0 16 (.cmp .eql (.var 15) (.lit 9218868437227405312))] 16
 (.nb [.call 19 [(.ivar .u64 0), (.lit (.int .u64 0))] 17 [(.ri .u64)], .setB0 18 (.cmp .eql (.var 17) (.lit 0))] 18
 (.nb [.call 19 [(.ivar .u64 0), (.lit (.int .u64 9218868437227405312))] 19 [(.ri .u64)], .setB0 20 (.cmp .eql (.var 19) (.lit 9218868437227405312))] 20
 (.nb [.call 20 [(.ivar .u64 0), (.lit (.int .u64 0))] 21 [(.ri .u64)], .setB0 22 (.cmp .eql (.var 21) (.lit 18442240474082181120))] 22
 (.nb [.call 20 [(.ivar .u64 0), (.lit (.int .u64 9218868437227405312))] 23 [(.ri .u64)], .setB0 24 (.cmp .eql (.var 23) (.lit 0))] 24
 (.leaf [.call 18 [(.ivar .u64 0), (.ivar .u64 0)] 25 [(.ri .u64)], .setB0 26 (.cmp .eql (.var 25) (.lit 0))] (.w (.c (.bvar 26 false))))
 (.leaf [] (.w (.c (.lit (.bool false))))))
 (.leaf [] (.w (.c (.lit (.bool false))))))
 (.leaf [] (.w (.c (.lit (.bool false))))))
 (.leaf [] (.w (.c (.lit (.bool false))))))
 (.leaf [] (.w (.c (.lit (.bool false))))))
 (.leaf [] (.w (.c (.lit (.bool false))))))
 (.nb [.call 16 [(.ivar .u64 0), (.lit (.int .u64 0))] 13 [(.ri .u64)], .setB0 14 (.cmp .eql (.var 13) (.var 0))] 14
 (.nb [.call 16 [(.ivar .u64 0), (.lit (.int .u64 9218868437227405312))] 15 [(.ri .u64)], .setB0 16 (.cmp .eql (.var 15) (.lit 9218868437227405312))] 16
 (.nb [.call 19 [(.ivar .u64 0), (.lit (.int .u64 0))] 17 [(.ri .u64)], .setB0 18 (.cmp .eql (.var 17) (.lit 0))] 18
 (.nb [.call 19 [(.ivar .u64 0), (.lit (.int .u64 9218868437227405312))] 19 [(.ri .u64)], .setB0 20 (.cmp .eql (.var 19) (.lit 9218868437227405312))] 20
 (.nb [.call 20 [(.ivar .u64 0), (.lit (.int .u64 0))] 21 [(.ri .u64)], .setB0 22 (.cmp .eql (.var 21) (.lit 18442240474082181120))] 22
 (.nb [.call 20 [(.ivar .u64 0), (.lit (.int .u64 9218868437227405312))] 23 [(.ri .u64)], .setB0 24 (.cmp .eql (.var 23) (.lit 9223372036854775808))] 24
 (.leaf [.call 18 [(.ivar .u64 0), (.ivar .u64 0)] 25 [(.ri .u64)], .setB0 26 (.cmp .eql (.var 25) (.lit 0))] (.w (.c (.bvar 26 false))))
 (.leaf [] (.w (.c (.lit (.bool false))))))
 (.leaf [] (.w (.c (.lit (.bool false))))))
 (.leaf [] (.w (.c (.lit (.bool false))))))
 (.leaf [] (.w (.c (.lit (.bool false))))))
 (.leaf [] (.w (.c (.lit (.bool false))))))
 (.leaf [] (.w (.c (.lit (.bool false))))))))
 (.nb [.setB0 11 (.all [(.bb (.var 8 false) (.lit false))])] 11
 (.nb [.setB0 12 (.all [(.bb (.var 8 false) (.lit false))])] 12
 (.nb [.call 16 [(.ivar .u64 0), (.lit (.int .u64 0))] 13 [(.ri .u64)], .setB0 14 (.cmp .eql (.var 13) (.var 0))] 14
 (.nb [.call 16 [(.ivar .u64 0), (.lit (.int .u64 9218868437227405312))] 15 [(.ri .u64)], .setB0 16 (.cmp .eql (.var 15) (.lit 9218868437227405312))] 16
 (.nb [.call 19 [(.ivar .u64 0), (.lit (.int .u64 0))] 17 [(.ri .u64)], .setB0 18 (.cmp .eql (.var 17) (.lit 0))] 18
 (.nb [.call 19 [(.ivar .u64 0), (.lit (.int .u64 9218868437227405312))] 19 [(.ri .u64)], .setB0 20 (.cmp .eql (.var 19) (.lit 18442240474082181120))] 20
 (.nb [.call 20 [(.ivar .u64 0), (.lit (.int .u64 0))] 21 [(.ri .u64)], .setB0 22 (.cmp .eql (.var 21) (.lit 9218868437227405312))] 22
 (.nb [.call 20 [(.ivar .u64 0), (.lit (.int .u64 9218868437227405312))] 23 [(.ri .u64)], .setB0 24 (.cmp .eql (.var 23) (.lit 0))] 24
 (.leaf [.call 18 [(.ivar .u64 0), (.ivar .u64 0)] 25 [(.ri .u64)], .setB0 26 (.cmp .eql (.var 25) (.lit 0))] (.w (.c (.bvar 26 false))))
 (.leaf [] (.w (.c (.lit (.bool false))))))
 (.leaf [] (.w (.c (.lit (.bool false))))))
 (.leaf [] (.w (.c (.lit (.bool false))))))
 (.leaf [] (.w (.c (.lit (.bool false))))))
 (.leaf [] (.w (.c (.lit (.bool false))))))
 (.leaf [] (.w (.c (.lit (.bool false))))))
 (.nb [.call 16 [(.ivar .u64 0), (.lit (.int .u64 0))] 13 [(.ri .u64)], .setB0 14 (.cmp .eql (.var 13) (.var 0))] 14
 (.nb [.call 16 [(.ivar .u64 0), (.lit (.int .u64 9218868437227405312))] 15 [(.ri .u64)], .setB0 16 (.cmp .eql (.var 15) (.lit 9218868437227405312))] 16
 (.nb [.call 19 [(.ivar .u64 0), (.lit (.int .u64 0))] 17 [(.ri .u64)], .setB0 18 (.cmp .eql (.var 17) (.lit 0))] 18
 (.nb [.call 19 [(.ivar .u64 0), (.lit (.int .u64 9218868437227405312))] 19 [(.ri .u64)], .setB0 20 (.cmp .eql (.var 19) (.lit 18442240474082181120))] 20
 (.nb [.call 20 [(.ivar .u64 0), (.lit (.int .u64 0))] 21 [(.ri .u64)], .setB0 22 (.cmp .eql (.var 21) (.lit 9218868437227405312))] 22
 (.nb [.call 20 [(.ivar .u64 0), (.lit (.int .u64 9218868437227405312))] 23 [(.ri .u64)], .setB0 24 (.cmp .eql (.var 23) (.lit 9223372036854775808))] 24
 (.leaf [.call 18 [(.ivar .u64 0), (.ivar .u64 0)] 25 [(.ri .u64)], .setB0 26 (.cmp .eql (.var 25) (.lit 0))] (.w (.c (.bvar 26 false))))
 (.leaf [] (.w (.c (.lit (.bool false))))))
 (.leaf [] (.w (.c (.lit (.bool false))))))
 (.leaf [] (.w (.c (.lit (.bool false))))))
 (.leaf [] (.w (.c (.lit (.bool false))))))
 (.leaf [] (.w (.c (.lit (.bool false))))))
 (.leaf [] (.w (.c (.lit (.bool false)))))))
 (.nb [.setB0 12 (.all [(.bb (.var 8 false) (.lit false))])] 12
 (.nb [.call 16 [(.ivar .u64 0), (.lit (.int .u64 0))] 13 [(.ri .u64)], .setB0 14 (.cmp .eql (.var 13) (.var 0))] 14
 (.nb [.call 16 [(.ivar .u64 0), (.lit (.int .u64 9218868437227405312))] 15 [(.ri .u64)], .setB0 16 (.cmp .eql (.var 15) (.lit 9218868437227405312))] 16
 (.nb [.call 19 [(.ivar .u64 0), (.lit (.int .u64 0))] 17 [(.ri .u64)], .setB0 18 (.cmp .eql (.var 17) (.lit 0))] 18
 (.nb [.call 19 [(.ivar .u64 0), (.lit (.int .u64 9218868437227405312))] 19 [(.ri .u64)], .setB0 20 (.cmp .eql (.var 19) (.lit 18442240474082181120))] 20
 (.nb [.call 20 [(.ivar .u64 0), (.lit (.int .u64 0))] 21 [(.ri .u64)], .setB0 22 (.cmp .eql (.var 21) (.lit 18442240474082181120))] 22
 (.nb [.call 20 [(.ivar .u64 0), (.lit (.int .u64 9218868437227405312))] 23 [(.ri .u64)], .setB0 24 (.cmp .eql (.var 23) (.lit 0))] 24
 (.leaf [.call 18 [(.ivar .u64 0), (.ivar .u64 0)] 25 [(.ri .u64)], .setB0 26 (.cmp .eql (.var 25) (.lit 0))] (.w (.c (.bvar 26 false))))
 (.leaf [] (.w (.c (.lit (.bool false))))))
 (.leaf [] (.w (.c (.lit (.bool false))))))
 (.leaf [] (.w (.c (.lit (.bool false))))))
 (.leaf [] (.w (.c (.lit (.bool false))))))
 (.leaf [] (.w (.c (.lit (.bool false))))))
 (.leaf [] (.w (.c (.lit (.bool false))))))
 (.nb [.call 16 [(.ivar .u64 0), (.lit (.int .u64 0))] 13 [(.ri .u64)], .setB0 14 (.cmp .eql (.var 13) (.var 0))] 14
 (.nb [.call 16 [(.ivar .u64 0), (.lit (.int .u64 9218868437227405312))] 15 [(.ri .u64)], .setB0 16 (.cmp .eql (.var 15) (.lit 9218868437227405312))] 16
 (.nb [.call 19 [(.ivar .u64 0), (.lit (.int .u64 0))] 17 [(.ri .u64)], .setB0 18 (.cmp .eql (.var 17) (.lit 0))] 18
 (.nb [.call 19 [(.ivar .u64 0), (.lit (.int .u64 9218868437227405312))] 19 [(.ri .u64)], .setB0 20 (.cmp .eql (.var 19) (.lit 18442240474082181120))] 20
 (.nb [.call 20 [(.ivar .u64 0), (.lit (.int .u64 0))] 21 [(.ri .u64)], .setB0 22 (.cmp .eql (.var 21) (.lit 18442240474082181120))] 22
 (.nb [.call 20 [(.ivar .u64 0), (.lit (.int .u64 9218868437227405312))] 23 [(.ri .u64)], .setB0 24 (.cmp .eql (.var 23) (.lit 9223372036854775808))] 24
 (.leaf [.call 18 [(.ivar .u64 0), (.ivar .u64 0)] 25 [(.ri .u64)], .setB0 26 (.cmp .eql (.var 25) (.lit 0))] (.w (.c (.bvar 26 false))))
 (.leaf [] (.w (.c (.lit (.bool false))))))
 (.leaf [] (.w (.c (.lit (.bool false))))))
 (.leaf [] (.w (.c (.lit (.bool false))))))
 (.leaf [] (.w (.c (.lit (.bool false))))))
 (.leaf [] (.w (.c (.lit (.bool false))))))
 (.leaf [] (.w (.c (.lit (.bool false)))))))))
 (.nb [.setB0 10 (.all [(.bb (.var 8 false) (.lit false))])] 10
 (.nb [.setB0 11 (.all [(.bb (.var 8 false) (.lit false))])] 11
 (.nb [.setB0 12 (.all [(.bb (.var 8 false) (.lit false))])] 12
 (.nb [.call 16 [(.ivar .u64 0), (.lit (.int .u64 0))] 13 [(.ri .u64)], .setB0 14 (.cmp .eql (.var 13) (.var 0))] 14
 (.nb [.call 16 [(.ivar .u64 0), (.lit (.int .u64 9218868437227405312))] 15 [(.ri .u64)], .setB0 16 (.cmp .eql (.var 15) (.lit 9218868437227405312))] 16
 (.nb [.call 19 [(.ivar .u64 0), (.lit (.int .u64 0))] 17 [(.ri .u64)], .setB0 18 (.cmp .eql (.var 17) (.lit 9223372036854775808))] 18
 (.nb [.call 19 [(.ivar .u64 0), (.lit (.int .u64 9218868437227405312))] 19 [(.ri .u64)], .setB0 20 (.cmp .eql (.var 19) (.lit 9218868437227405312))] 20
 (.nb [.call 20 [(.ivar .u64 0), (.lit (.int .u64 0))] 21 [(.ri .u64)], .setB0 22 (.cmp .eql (.var 21) (.lit 9218868437227405312))] 22
 (.nb [.call 20 [(.ivar .u64 0), (.lit (.int .u64 9218868437227405312))] 23 [(.ri .u64)], .setB0 24 (.cmp .eql (.var 23) (.lit 0))] 24
 (.leaf [.call 18 [(.ivar .u64 0), (.ivar .u64 0)] 25 [(.ri .u64)], .setB0 26 (.cmp .eql (.var 25) (.lit 0))] (.w (.c (.bvar 26 false))))
 (.leaf [] (.w (.c (.lit (.bool false))))))
 (.leaf [] (.w (.c (.lit (.bool false))))))
 (.leaf [] (.w (.c (.lit (.bool false))))))
 (.leaf [] (.w (.c (.lit (.bool false))))))
 (.leaf [] (.w (.c (.lit (.bool false))))))
 (.leaf [] (.w (.c (.lit (.bool false))))))
 (.nb [.call 16 [(.ivar .u64 0), (.lit (.int .u64 0))] 13 [(.ri .u64)], .setB0 14 (.cmp .eql (.var 13) (.var 0))] 14
 (.nb [.call 16 [(.ivar .u64 0), (.lit (.int .u64 9218868437227405312))] 15 [(.ri .u64)], .setB0 16 (.cmp .eql (.var 15) (.lit 9218868437227405312))] 16
 (.nb [.call 19 [(.ivar .u64 0), (.lit (.int .u64 0))] 17 [(.ri .u64)], .setB0 18 (.cmp .eql (.var 17) (.lit 9223372036854775808))] 18
 (.nb [.call 19 [(.ivar .u64 0), (.lit (.int .u64 9218868437227405312))] 19 [(.ri .u64)], .setB0 20 (.cmp .eql (.var 19) (.lit 9218868437227405312))] 20
 (.nb [.call 20 [(.ivar .u64 0), (.lit (.int .u64 0))] 21 [(.ri .u64)], .setB0 22 (.cmp .eql (.var 21) (.lit 9218868437227405312))] 22
 (.nb [.call 20 [(.ivar .u64 0), (.lit (.int .u64 9218868437227405312))] 23 [(.ri .u64)], .setB0 24 (.cmp .eql (.var 23) (.lit 9223372036854775808))] 24
 (.leaf [.call 18 [(.ivar .u64 0), (.ivar .u64 0)] 25 [(.ri .u64)], .setB0 26 (.cmp .eql (.var 25) (.lit 0))] (.w (.c (.bvar 26 false))))
 (.leaf [] (.w (.c (.lit (.bool false))))))
 (.leaf [] (.w (.c (.lit (.bool false))))))
 (.leaf [] (.w (.c (.lit (.bool false))))))
 (.leaf [] (.w (.c (.lit (.bool false))))))
 (.leaf [] (.w (.c (.lit (.bool false))))))
 (.leaf [] (.w (.c (.lit (.bool false)))))))
 (.nb [.setB0 12 (.all [(.bb (.var 8 false) (.lit false))])] 12
 (.nb [.call 16 [(.ivar .u64 0), (.lit (.int .u64 0))] 13 [(.ri .u64)], .setB0 14 (.cmp .eql (.var 13) (.var 0))] 14
 (.nb [.call 16 [(.ivar .u64 0), (.lit (.int .u64 9218868437227405312))] 15 [(.ri .u64)], .setB0 16 (.cmp .eql (.var 15) (.lit 9218868437227405312))] 16
 (.nb [.call 19 [(.ivar .u64 0), (.lit (.int .u64 0))] 17 [(.ri .u64)], .setB0 18 (.cmp .eql (.var 17) (.lit 9223372036854775808))] 18
 (.nb [.call 19 [(.ivar .u64 0), (.lit (.int .u64 9218868437227405312))] 19 [(.ri .u64)], .setB0 20 (.cmp .eql (.var 19) (.lit 9218868437227405312))] 20
 (.nb [.call 20 [(.ivar .u64 0), (.lit (.int .u64 0))] 21 [(.ri .u64)], .setB0 22 (.cmp .eql (.var 21) (.lit 18442240474082181120))] 22
 (.nb [.call 20 [(.ivar .u64 0), (.lit (.int .u64 9218868437227405312))] 23 [(.ri .u64)], .setB0 24 (.cmp .eql (.var 23) (.lit 0))] 24
 (.leaf [.call 18 [(.ivar .u64 0), (.ivar .u64 0)] 25 [(.ri .u64)], .setB0 26 (.cmp .eql (.var 25) (.lit 0))] (.w (.c (.bvar 26 false))))
 (.leaf [] (.w (.c (.lit (.bool false))))))
 (.leaf [] (.w (.c (.lit (.bool false))))))
 (.leaf [] (.w (.c (.lit (.bool false))))))
 (.leaf [] (.w (.c (.lit (.bool false))))))
 (.leaf [] (.w (.c (.lit (.bool false))))))
 (.leaf [] (.w (.c (.lit (.bool false))))))
 (.nb [.call 16 [(.ivar .u64 0), (.lit (.int .u64 0))] 13 [(.ri .u64)], .setB0 14 (.cmp .eql (.var 13) (.var 0))] 14
 (.nb [.call 16 [(.ivar .u64 0), (.lit (.int .u64 9218868437227405312))] 15 [(.ri .u64)], .setB0 16 (.cmp .eql (.var 15) (.lit 9218868437227405312))] 16
 (.nb [.call 19 [(.ivar .u64 0), (.lit (.int .u64 0))] 17 [(.ri .u64)], .setB0 18 (.cmp .eql (.var 17) (.lit 9223372036854775808))] 18
 (.nb [.call 19 [(.ivar .u64 0), (.lit (.int .u64 9218868437227405312))] 19 [(.ri .u64)], .setB0 20 (.cmp .eql (.var 19) (.lit 9218868437227405312))] 20
 (.nb [.call 20 [(.ivar .u64 0), (.lit (.int .u64 0))] 21 [(.ri .u64)], .setB0 22 (.cmp .eql (.var 21) (.lit 18442240474082181120))] 22
 (.nb [.call 20 [(.ivar .u64 0), (.lit (.int .u64 9218868437227405312))] 23 [(.ri .u64)], .setB0 24 (.cmp .eql (.var 23) (.lit 9223372036854775808))] 24
 (.leaf [.call 18 [(.ivar .u64 0), (.ivar .u64 0)] 25 [(.ri .u64)], .setB0 26 (.cmp .eql (.var 25) (.lit 0))] (.w (.c (.bvar 26 false))))
 (.leaf [] (.w (.c (.lit (.bool false))))))
 (.leaf [] (.w (.c (.lit (.bool false))))))
 (.leaf [] (.w (.c (.lit (.bool false))))))
 (.leaf [] (.w (.c (.lit (.bool false))))))
 (.leaf [] (.w (.c (.lit (.bool false))))))
 (.leaf [] (.w (.c (.lit (.bool false))))))))
 (.nb [.setB0 11 (.all [(.bb (.var 8 false) (.lit false))])] 11
 (.nb [.setB0 12 (.all [(.bb (.var 8 false) (.lit false))])] 12
 (.nb [.call 16 [(.ivar .u64 0), (.lit (.int .u64 0))] 13 [(.ri .u64)], .setB0 14 (.cmp .eql (.var 13) (.var 0))] 14
 (.nb [.call 16 [(.ivar .u64 0), (.lit (.int .u64 9218868437227405312))] 15 [(.ri .u64)], .setB0 16 (.cmp .eql (.var 15) (.lit 9218868437227405312))] 16
 (.nb [.call 19 [(.ivar .u64 0), (.lit (.int .u64 0))] 17 [(.ri .u64)], .setB0 18 (.cmp .eql (.var 17) (.lit 9223372036854775808))] 18
 (.nb [.call 19 [(.ivar .u64 0), (.lit (.int .u64 9218868437227405312))] 19 [(.ri .u64)], .setB0 20 (.cmp .eql (.var 19) (.lit 18442240474082181120))] 20
 (.nb [.call 20 [(.ivar .u64 0), (.lit (.int .u64 0))] 21 [(.ri .u64)], .setB0 22 (.cmp .eql (.var 21) (.lit 9218868437227405312))] 22
 (.nb [.call 20 [(.ivar .u64 0), (.lit (.int .u64 9218868437227405312))] 23 [(.ri .u64)], .setB0 24 (.cmp .eql (.var 23) (.lit 0))] 24
 (.leaf [.call 18 [(.ivar .u64 0), (.ivar .u64 0)] 25 [(.ri .u64)], .setB0 26 (.cmp .eql (.var 25) (.lit 0))] (.w (.c (.bvar 26 false))))
 (.leaf [] (.w (.c (.lit (.bool false))))))
 (.leaf [] (.w (.c (.lit (.bool false))))))
 (.leaf [] (.w (.c (.lit (.bool false))))))
 (.leaf [] (.w (.c (.lit (.bool false))))))
 (.leaf [] (.w (.c (.lit (.bool false))))))
 (.leaf [] (.w (.c (.lit (.bool false))))))
 (.nb [.call 16 [(.ivar .u64 0), (.lit (.int .u64 0))] 13 [(.ri .u64)], .setB0 14 (.cmp .eql (.var 13) (.var 0))] 14
 (.nb [.call 16 [(.ivar .u64 0), (.lit (.int .u64 9218868437227405312))] 15 [(.ri .u64)], .setB0 16 (.cmp .eql (.var 15) (.lit 9218868437227405312))] 16
 (.nb [.call 19 [(.ivar .u64 0), (.lit (.int .u64 0))] 17 [(.ri .u64)], .setB0 18 (.cmp .eql (.var 17) (.lit 9223372036854775808))] 18
 (.nb [.call 19 [(.ivar .u64 0), (.lit (.int .u64 9218868437227405312))] 19 [(.ri .u64)], .setB0 20 (.cmp .eql (.var 19) (.lit 18442240474082181120))] 20
 (.nb [.call 20 [(.ivar .u64 0), (.lit (.int .u64 0))] 21 [(.ri .u64)], .setB0 22 (.cmp .eql (.var 21) (.lit 9218868437227405312))] 22
 (.nb [.call 20 [(.ivar .u64 0), (.lit (.int .u64 9218868437227405312))] 23 [(.ri .u64)], .setB0 24 (.cmp .eql (.var 23) (.lit 9223372036854775808))] 24
 (.leaf [.call 18 [(.ivar .u64 0), (.ivar .u64 0)] 25 [(.ri .u64)], .setB0 26 (.cmp .eql (.var 25) (.lit 0))] (.w (.c (.bvar 26 false))))
 (.leaf [] (.w (.c (.lit (.bool false))))))
 (.leaf [] (.w (.c (.lit (.bool false))))))
 (.leaf [] (.w (.c (.lit (.bool false))))))
 (.leaf [] (.w (.c (.lit (.bool false))))))
 (.leaf [] (.w (.c (.lit (.bool false))))))
 (.leaf [] (.w (.c (.lit (.bool false)))))))
 (.nb [.setB0 12 (.all [(.bb (.var 8 false) (.lit false))])] 12
 (.nb [.call 16 [(.ivar .u64 0), (.lit (.int .u64 0))] 13 [(.ri .u64)], .setB0 14 (.cmp .eql (.var 13) (.var 0))] 14
 (.nb [.call 16 [(.ivar .u64 0), (.lit (.int .u64 9218868437227405312))] 15 [(.ri .u64)], .setB0 16 (.cmp .eql (.var 15) (.lit 9218868437227405312))] 16
 (.nb [.call 19 [(.ivar .u64 0), (.lit (.int .u64 0))] 17 [(.ri .u64)], .setB0 18 (.cmp .eql (.var 17) (.lit 9223372036854775808))] 18
 (.nb [.call 19 [(.ivar .u64 0), (.lit (.int .u64 9218868437227405312))] 19 [(.ri .u64)], .setB0 20 (.cmp .eql (.var 19) (.lit 18442240474082181120))] 20
 (.nb [.call 20 [(.ivar .u64 0), (.lit (.int .u64 0))] 21 [(.ri .u64)], .setB0 22 (.cmp .eql (.var 21) (.lit 18442240474082181120))] 22
 (.nb [.call 20 [(.ivar .u64 0), (.lit (.int .u64 9218868437227405312))] 23 [(.ri .u64)], .setB0 24 (.cmp .eql (.var 23) (.lit 0))] 24
 (.leaf [.call 18 [(.ivar .u64 0), (.ivar .u64 0)] 25 [(.ri .u64)], .setB0 26 (.cmp .eql (.var 25) (.lit 0))] (.w (.c (.bvar 26 false))))
 (.leaf [] (.w (.c (.lit (.bool false))))))
 (.leaf [] (.w (.c (.lit (.bool false))))))
 (.leaf [] (.w (.c (.lit (.bool false))))))
 (.leaf [] (.w (.c (.lit (.bool false))))))
 (.leaf [] (.w (.c (.lit (.bool false))))))
 (.leaf [] (.w (.c (.lit (.bool false))))))
 (.nb [.call 16 [(.ivar .u64 0), (.lit (.int .u64 0))] 13 [(.ri .u64)], .setB0 14 (.cmp .eql (.var 13) (.var 0))] 14
 (.nb [.call 16 [(.ivar .u64 0), (.lit (.int .u64 9218868437227405312))] 15 [(.ri .u64)], .setB0 16 (.cmp .eql (.var 15) (.lit 9218868437227405312))] 16
 (.nb [.call 19 [(.ivar .u64 0), (.lit (.int .u64 0))] 17 [(.ri .u64)], .setB0 18 (.cmp .eql (.var 17) (.lit 9223372036854775808))] 18
 (.nb [.call 19 [(.ivar .u64 0), (.lit (.int .u64 9218868437227405312))] 19 [(.ri .u64)], .setB0 20 (.cmp .eql (.var 19) (.lit 18442240474082181120))] 20
 (.nb [.call 20 [(.ivar .u64 0), (.lit (.int .u64 0))] 21 [(.ri .u64)], .setB0 22 (.cmp .eql (.var 21) (.lit 18442240474082181120))] 22
 (.nb [.call 20 [(.ivar .u64 0), (.lit (.int .u64 9218868437227405312))] 23 [(.ri .u64)], .setB0 24 (.cmp .eql (.var 23) (.lit 9223372036854775808))] 24
 (.leaf [.call 18 [(.ivar .u64 0), (.ivar .u64 0)] 25 [(.ri .u64)], .setB0 26 (.cmp .eql (.var 25) (.lit 0))] (.w (.c (.bvar 26 false))))
 (.leaf [] (.w (.c (.lit (.bool false))))))
 (.leaf [] (.w (.c (.lit (.bool false))))))
 (.leaf [] (.w (.c (.lit (.bool false))))))
 (.leaf [] (.w (.c (.lit (.bool false))))))
 (.leaf [] (.w (.c (.lit (.bool false))))))
 (.leaf [] (.w (.c (.lit (.bool false))))))))))
theorem FloatEdgesT6_ok : LT.Ok FloatEdgesR FloatEdgesT6 [.db false, .db true, .db false, .db false, .db true] [.decB 6 false, .setB0 6 (.cmp .neq (.var 4) (.lit 2)), .decB 5 true, .setB0 5 (.cmp .neq (.var 4) (.lit 1)), .call 12 [(.ivar .u64 0)] 4 [(.ri .i64)], .decB 2 false, .decB 1 false, .decB 3 true, .call 11 [] 3 [.rb]] :=
 (LT.ok_nb (LT.ok_nb (LT.ok_nb (LT.ok_nb (LT.ok_nb (LT.ok_nb (LT.ok_nb (LT.ok_nb (LT.ok_nb (LT.ok_nb (LT.ok_leaf (by kernel_rfl))
 (LT.ok_leaf (by kernel_rfl)))
 (LT.ok_leaf (by kernel_rfl)))
 (LT.ok_leaf (by kernel_rfl)))
 (LT.ok_leaf (by kernel_rfl)))
 (LT.ok_leaf (by kernel_rfl)))
 (LT.ok_leaf (by kernel_rfl)))
 (LT.ok_nb (LT.ok_nb (LT.ok_nb (LT.ok_nb (LT.ok_nb (LT.ok_nb (LT.ok_leaf (by kernel_rfl))
 (LT.ok_leaf (by kernel_rfl)))
 (LT.ok_leaf (by kernel_rfl)))
 (LT.ok_leaf (by kernel_rfl)))
 (LT.ok_leaf (by kernel_rfl)))
 (LT.ok_leaf (by kernel_rfl)))
 (LT.ok_leaf (by kernel_rfl))))
 (LT.ok_nb (LT.ok_nb (LT.ok_nb (LT.ok_nb (LT.ok_nb (LT.ok_nb (LT.ok_nb (LT.ok_leaf (by kernel_rfl))
 (LT.ok_leaf (by kernel_rfl)))
 (LT.ok_leaf (by kernel_rfl)))
 (LT.ok_leaf (by kernel_rfl)))
 (LT.ok_leaf (by kernel_rfl)))
 (LT.ok_leaf (by kernel_rfl)))
 (LT.ok_leaf (by kernel_rfl)))
 (LT.ok_nb (LT.ok_nb (LT.ok_nb (LT.ok_nb (LT.ok_nb (LT.ok_nb (LT.ok_leaf (by kernel_rfl))
 (LT.ok_leaf (by kernel_rfl)))
 (LT.ok_leaf (by kernel_rfl)))
 (LT.ok_leaf (by kernel_rfl)))
 (LT.ok_leaf (by kernel_rfl)))
 (LT.ok_leaf (by kernel_rfl)))
 (LT.ok_leaf (by kernel_rfl)))))
 (LT.ok_nb (LT.ok_nb (LT.ok_nb (LT.ok_nb (LT.ok_nb (LT.ok_nb (LT.ok_nb (LT.ok_nb (LT.ok_leaf (by kernel_rfl))
 (LT.ok_leaf (by kernel_rfl)))
 (LT.ok_leaf (by kernel_rfl)))
 (LT.ok_leaf (by kernel_rfl)))
 (LT.ok_leaf (by kernel_rfl)))
 (LT.ok_leaf (by kernel_rfl)))
 (LT.ok_leaf (by kernel_rfl)))
 (LT.ok_nb (LT.ok_nb (LT.ok_nb (LT.ok_nb (LT.ok_nb (LT.ok_nb (LT.ok_leaf (by kernel_rfl))
 (LT.ok_leaf (by kernel_rfl)))
 (LT.ok_leaf (by kernel_rfl)))
 (LT.ok_leaf (by kernel_rfl)))
 (LT.ok_leaf (by kernel_rfl)))
 (LT.ok_leaf (by kernel_rfl)))
 (LT.ok_leaf (by kernel_rfl))))
 (LT.ok_nb (LT.ok_nb (LT.ok_nb (LT.ok_nb (LT.ok_nb (LT.ok_nb (LT.ok_nb (LT.ok_leaf (by kernel_rfl))
 (LT.ok_leaf (by kernel_rfl)))
 (LT.ok_leaf (by kernel_rfl)))
 (LT.ok_leaf (by kernel_rfl)))
 (LT.ok_leaf (by kernel_rfl)))
 (LT.ok_leaf (by kernel_rfl)))
 (LT.ok_leaf (by kernel_rfl)))
 (LT.ok_nb (LT.ok_nb (LT.ok_nb (LT.ok_nb (LT.ok_nb (LT.ok_nb (LT.ok_leaf (by kernel_rfl))
 (LT.ok_leaf (by kernel_rfl)))
 (LT.ok_leaf (by kernel_rfl)))
 (LT.ok_leaf (by kernel_rfl)))
 (LT.ok_leaf (by kernel_rfl)))
 (LT.ok_leaf (by kernel_rfl)))
 (LT.ok_leaf (by kernel_rfl))))))
 (LT.ok_nb (LT.ok_nb (LT.ok_nb (LT.ok_nb (LT.ok_nb (LT.ok_nb (LT.ok_nb (LT.ok_nb (LT.ok_nb (LT.ok_leaf (by kernel_rfl))
 (LT.ok_leaf (by kernel_rfl)))
 (LT.ok_leaf (by kernel_rfl)))
 (LT.ok_leaf (by kernel_rfl)))
 (LT.ok_leaf (by kernel_rfl)))
 (LT.ok_leaf (by kernel_rfl)))
 (LT.ok_leaf (by kernel_rfl)))
 (LT.ok_nb (LT.ok_nb (LT.ok_nb (LT.ok_nb (LT.ok_nb (LT.ok_nb (LT.ok_leaf (by kernel_rfl))
 (LT.ok_leaf (by kernel_rfl)))
 (LT.ok_leaf (by kernel_rfl)))
 (LT.ok_leaf (by kernel_rfl)))
 (LT.ok_leaf (by kernel_rfl)))
 (LT.ok_leaf (by kernel_rfl)))
 (LT.ok_leaf (by kernel_rfl))))
 (LT.ok_nb (LT.ok_nb (LT.ok_nb (LT.ok_nb (LT.ok_nb (LT.ok_nb (LT.ok_nb (LT.ok_leaf (by kernel_rfl))
 (LT.ok_leaf (by kernel_rfl)))
 (LT.ok_leaf (by kernel_rfl)))
 (LT.ok_leaf (by kernel_rfl)))
 (LT.ok_leaf (by kernel_rfl)))
 (LT.ok_leaf (by kernel_rfl)))
 (LT.ok_leaf (by kernel_rfl)))
 (LT.ok_nb (LT.ok_nb (LT.ok_nb (LT.ok_nb (LT.ok_nb (LT.ok_nb (LT.ok_leaf (by kernel_rfl))
 (LT.ok_leaf (by kernel_rfl)))
 (LT.ok_leaf (by kernel_rfl)))
 (LT.ok_leaf (by kernel_rfl)))
 (LT.ok_leaf (by kernel_rfl)))
 (LT.ok_leaf (by kernel_rfl)))
 (LT.ok_leaf (by kernel_rfl)))))
 (LT.ok_nb (LT.ok_nb (LT.ok_nb (LT.ok_nb (LT.ok_nb (LT.ok_nb (LT.ok_nb (LT.ok_nb (LT.ok_leaf (by kernel_rfl))
 (LT.ok_leaf (by kernel_rfl)))
 (LT.ok_leaf (by kernel_rfl)))
 (LT.ok_leaf (by kernel_rfl)))
 (LT.ok_leaf (by kernel_rfl)))
 (LT.ok_leaf (by kernel_rfl)))
 (LT.ok_leaf (by kernel_rfl)))
 (LT.ok_nb (LT.ok_nb (LT.ok_nb (LT.ok_nb (LT.ok_nb (LT.ok_nb (LT.ok_leaf (by kernel_rfl))
 (LT.ok_leaf (by kernel_rfl)))
 (LT.ok_leaf (by kernel_rfl)))
 (LT.ok_leaf (by kernel_rfl)))
 (LT.ok_leaf (by kernel_rfl)))
 (LT.ok_leaf (by kernel_rfl)))
 (LT.ok_leaf (by kernel_rfl))))
 (LT.ok_nb (LT.ok_nb (LT.ok_nb (LT.ok_nb (LT.ok_nb (LT.ok_nb (LT.ok_nb (LT.ok_leaf (by kernel_rfl))
 (LT.ok_leaf (by kernel_rfl)))
 (LT.ok_leaf (by kernel_rfl)))
 (LT.ok_leaf (by kernel_rfl)))
 (LT.ok_leaf (by kernel_rfl)))
 (LT.ok_leaf (by kernel_rfl)))
 (LT.ok_leaf (by kernel_rfl)))
 (LT.ok_nb (LT.ok_nb (LT.ok_nb (LT.ok_nb (LT.ok_nb (LT.ok_nb (LT.ok_leaf (by kernel_rfl))
 (LT.ok_leaf (by kernel_rfl)))
 (LT.ok_leaf (by kernel_rfl)))
 (LT.ok_leaf (by kernel_rfl)))
 (LT.ok_leaf (by kernel_rfl)))
 (LT.ok_leaf (by kernel_rfl)))
 (LT.ok_leaf (by kernel_rfl)))))))
noncomputable def FloatEdgesT7 : LT :=
 (.nb [.setI0 6 (.bin .shr .u64 (.var 0) (.lit 63)), .setB0 7 (.cmp .eql (.var 6) (.lit 1)), .setB0 8 (.all [(.bb (.var 7 false) (.lit false))])] 8
 (.nb [.setB0 9 (.all [(.bb (.var 7 false) (.lit false))])] 9
 (.nb [.setB0 10 (.all [(.bb (.var 7 false) (.lit false))])] 10
 (.nb [.setB0 11 (.all [(.bb (.var 7 false) (.lit false))])] 11
 (.nb [.call 16 [(.ivar .u64 0), (.lit (.int .u64 0))] 12 [(.ri .u64)], .setB0 13 (.cmp .eql (.var 12) (.var 0))] 13
 (.nb [.call 16 [(.ivar .u64 0), (.lit (.int .u64 9218868437227405312))] 14 [(.ri .u64)], .setB0 15 (.cmp .eql (.var 14) (.lit 9218868437227405312))] 15
 (.nb [.call 19 [(.ivar .u64 0), (.lit (.int .u64 0))] 16 [(.ri .u64)], .setB0 17 (.cmp .eql (.var 16) (.lit 0))] 17
 (.nb [.call 19 [(.ivar .u64 0), (.lit (.int .u64 9218868437227405312))] 18 [(.ri .u64)], .setB0 19 (.cmp .eql (.var 18) (.lit 9218868437227405312))] 19
 (.nb [.call 20 [(.ivar .u64 0), (.lit (.int .u64 0))] 20 [(.ri .u64)], .setB0 21 (.cmp .eql (.var 20) (.lit 9218868437227405312))] 21
 (.nb [.call 20 [(.ivar .u64 0), (.lit (.int .u64 9218868437227405312))] 22 [(.ri .u64)], .setB0 23 (.cmp .eql (.var 22) (.lit 0))] 23
 (.leaf [.call 18 [(.ivar .u64 0), (.ivar .u64 0)] 24 [(.ri .u64)], .setB0 25 (.cmp .eql (.var 24) (.lit 0))] (.w (.c (.bvar 25 false))))
 (.leaf [] (.w (.c (.lit (.bool false))))))
 (.leaf [] (.w (.c (.lit (.bool false))))))
 (.leaf [] (.w (.c (.lit (.bool false))))))
 (.leaf [] (.w (.c (.lit (.bool false))))))
 (.leaf [] (.w (.c (.lit (.bool false))))))
 (.leaf [] (.w (.c (.lit (.bool false))))))
 (.nb [.call 16 [(.ivar .u64 0), (.lit (.int .u64 0))] 12 [(.ri .u64)], .setB0 13 (.cmp .eql (.var 12) (.var 0))] 13
 (.nb [.call 16 [(.ivar .u64 0), (.lit (.int .u64 9218868437227405312))] 14 [(.ri .u64)], .setB0 15 (.cmp .eql (.var 14) (.lit 9218868437227405312))] 15
 (.nb [.call 19 [(.ivar .u64 0), (.lit (.int .u64 0))] 16 [(.ri .u64)], .setB0 17 (.cmp .eql (.var 16) (.lit 0))] 17
 (.nb [.call 19 [(.ivar .u64 0), (.lit (.int .u64 9218868437227405312))] 18 [(.ri .u64)], .setB0 19 (.cmp .eql (.var 18) (.lit 9218868437227405312))] 19
 (.nb [.call 20 [(.ivar .u64 0), (.lit (.int .u64 0))] 20 [(.ri .u64)], .setB0 21 (.cmp .eql (.var 20) (.lit 9218868437227405312))] 21
 (.nb [.call 20 [(.ivar .u64 0), (.lit (.int .u64 9218868437227405312))] 22 [(.ri .u64)], .setB0 23 (.cmp .eql (.var 22) (.lit 9223372036854775808))] 23
 (.leaf [.call 18 [(.ivar .u64 0), (.ivar .u64 0)] 24 [(.ri .u64)], .setB0 25 (.cmp .eql (.var 24) (.lit 0))] (.w (.c (.bvar 25 false))))
 (.leaf [] (.w (.c (.lit (.bool false))))))
 (.leaf [] (.w (.c (.lit (.bool false))))))
 (.leaf [] (.w (.c (.lit (.bool false))))))
 (.leaf [] (.w (.c (.lit (.bool false))))))
 (.leaf [] (.w (.c (.lit (.bool false))))))
 (.leaf [] (.w (.c (.lit (.bool false)))))))
 (.nb [.setB0 11 (.all [(.bb (.var 7 false) (.lit false))])] 11
 (.nb [.call 16 [(.ivar .u64 0), (.lit (.int .u64 0))] 12 [(.ri .u64)], .setB0 13 (.cmp .eql (.var 12) (.var 0))] 13
 (.nb [.call 16 [(.ivar .u64 0), (.lit (.int .u64 9218868437227405312))] 14 [(.ri .u64)], .setB0 15 (.cmp .eql (.var 14) (.lit 9218868437227405312))] 15
 (.nb [.call 19 [(.ivar .u64 0), (.lit (.int .u64 0))] 16 [(.ri .u64)], .setB0 17 (.cmp .eql (.var 16) (.lit 0))] 17
 (.nb [.call 19 [(.ivar .u64 0), (.lit (.int .u64 9218868437227405312))] 18 [(.ri .u64)], .setB0 19 (.cmp .eql (.var 18) (.lit 9218868437227405312))] 19
 (.nb [.call 20 [(.ivar .u64 0), (.lit (.int .u64 0))] 20 [(.ri .u64)], .setB0 21 (.cmp .eql (.var 20) (.lit 18442240474082181120))] 21
 (.nb [.call 20 [(.ivar .u64 0), (.lit (.int .u64 9218868437227405312))] 22 [(.ri .u64)], .setB0 23 (.cmp .eql (.var 22) (.lit 0))] 23
 (.leaf [.call 18 [(.ivar .u64 0), (.ivar .u64 0)] 24 [(.ri .u64)], .setB0 25 (.cmp .eql (.var 24) (.lit 0))] (.w (.c (.bvar 25 false))))
 (.leaf [] (.w (.c (.lit (.bool false))))))
 (.leaf [] (.w (.c (.lit (.bool false))))))
 (.leaf [] (.w (.c (.lit (.bool false))))))
 (.leaf [] (.w (.c (.lit (.bool false))))))
 (.leaf [] (.w (.c (.lit (.bool false))))))
 (.leaf [] (.w (.c (.lit (.bool false))))))
 (.nb [.call 16 [(.ivar .u64 0), (.lit (.int .u64 0))] 12 [(.ri .u64)], .setB0 13 (.cmp .eql (.var 12) (.var 0))] 13
 (.nb [.call 16 [(.ivar .u64 0), (.lit (.int .u64 9218868437227405312))] 14 [(.ri .u64)], .setB0 15 (.cmp .eql (.var 14) (.lit 9218868437227405312))] 15
 (.nb [.call 19 [(.ivar .u64 0), (.lit (.int .u64 0))] 16 [(.ri .u64)], .setB0 17 (.cmp .eql (.var 16) (.lit 0))] 17
 (.nb [.call 19 [(.ivar .u64 0), (.lit (.int .u64 9218868437227405312))] 18 [(.ri .u64)], .setB0 19 (.cmp .eql (.var 18) (.lit 9218868437227405312))] 19
 (.nb [.call 20 [(.ivar .u64 0), (.lit (.int .u64 0))] 20 [(.ri .u64)], .setB0 21 (.cmp .eql (.var 20) (.lit 18442240474082181120))] 21
 (.nb [.call 20 [(.ivar .u64 0), (.lit (.int .u64 9218868437227405312))] 22 [(.ri .u64)], .setB0 23 (.cmp .eql (.var 22) (.lit 9223372036854775808))] 23
 (.leaf [.call 18 [(.ivar .u64 0), (.ivar .u64 0)] 24 [(.ri .u64)], .setB0 25 (.cmp .eql (.var 24) (.lit 0))] (.w (.c (.bvar 25 false))))
 (.leaf [] (.w (.c (.lit (.bool false))))))
 (.leaf [] (.w (.c (.lit (.bool false))))))
 (.leaf [] (.w (.c (.lit (.bool false))))))
 (.leaf [] (.w (.c (.lit (.bool false))))))
 (.leaf [] (.w (.c (.lit (.bool false))))))
 (.leaf [] (.w (.c (.lit (.bool false))))))))
 (.nb [.setB0 10 (.all [(.bb (.var 7 false) (.lit false))])] 10
 (.nb [.setB0 11 (.all [(.bb (.var 7 false) (.lit false))])] 11
 (.nb [.call 16 [(.ivar .u64 0), (.lit (.int .u64 0))] 12 [(.ri .u64)], .setB0 13 (.cmp .eql (.var 12) (.var 0))] 13
 (.nb [.call 16 [(.ivar .u64 0), (.lit (.int .u64 9218868437227405312))] 14 [(.ri .u64)], .setB0 15 (.cmp .eql (.var 14) (.lit 9218868437227405312))] 15
 (.nb [.call 19 [(.ivar .u64 0), (.lit (.int .u64 0))] 16 [(.ri .u64)], .setB0 17 (.cmp .eql (.var 16) (.lit 0))] 17
 (.nb [.call 19 [(.ivar .u64 0), (.lit (.int .u64 9218868437227405312))] 18 [(.ri .u64)], .setB0 19 (.cmp .eql (.var 18) (.lit 18442240474082181120))] 19
 (.nb [.call 20 [(.ivar .u64 0), (.lit (.int .u64 0))] 20 [(.ri .u64)], .setB0 21 (.cmp .eql (.var 20) (.lit 9218868437227405312))] 21
 (.nb [.call 20 [(.ivar .u64 0), (.lit (.int .u64 9218868437227405312))] 22 [(.ri .u64)], .setB0 23 (.cmp .eql (.var 22) (.lit 0))] 23
 (.leaf [.call 18 [(.ivar .u64 0), (.ivar .u64 0)] 24 [(.ri .u64)], .setB0 25 (.cmp .eql (.var 24) (.lit 0))] (.w (.c (.bvar 25 false))))
 (.leaf [] (.w (.c (.lit (.bool false))))))
 (.leaf [] (.w (.c (.lit (.bool false))))))
 (.leaf [] (.w (.c (.lit (.bool false))))))
 (.leaf [] (.w (.c (.lit (.bool false))))))
 (.leaf [] (.w (.c (.lit (.bool false))))))
 (.leaf [] (.w (.c (.lit (.bool false))))))
 (.nb [.call 16 [(.ivar .u64 0), (.lit (.int .u64 0))] 12 [(.ri .u64)], .setB0 13 (.cmp .eql (.var 12) (.var 0))] 13
 (.nb [.call 16 [(.ivar .u64 0), (.lit (.int .u64 9218868437227405312))] 14 [(.ri .u64)], .setB0 15 (.cmp .eql (.var 14) (.lit 9218868437227405312))] 15
 (.nb [.call 19 [(.ivar .u64 0), (.lit (.int .u64 0))] 16 [(.ri .u64)], .setB0 17 (.cmp .eql (.var 16) (.lit 0))] 17
 (.nb [.call 19 [(.ivar .u64 0), (.lit (.int .u64 9218868437227405312))] 18 [(.ri .u64)], .setB0 19 (.cmp .eql (.var 18) (.lit 18442240474082181120))] 19
 (.nb [.call 20 [(.ivar .u64 0), (.lit (.int .u64 0))] 20 [(.ri .u64)], .setB0 21 (.cmp .eql (.var 20) (.lit 9218868437227405312))] 21
 (.nb [.call 20 [(.ivar .u64 0), (.lit (.int .u64 9218868437227405312))] 22 [(.ri .u64)], .setB0 23 (.cmp .eql (.var 22) (.lit 9223372036854775808))] 23
 (.leaf [.call 18 [(.ivar .u64 0), (.ivar .u64 0)] 24 [(.ri .u64)], .setB0 25 (.cmp .eql (.var 24) (.lit 0))] (.w (.c (.bvar 25 false))))
 (.leaf [] (.w (.c (.lit (.bool false))))))
 (.leaf [] (.w (.c (.lit (.bool false))))))
 (.leaf [] (.w (.c (.lit (.bool false))))))
 (.leaf [] (.w (.c (.lit (.bool false))))))
 (.leaf [] (.w (.c (.lit (.bool false))))))
 (.leaf [] (.w (.c (.lit (.bool false)))))))
 (.nb [.setB0 11 (.all [(.bb (.var 7 false) (.lit false))])] 11
 (.nb [.call 16 [(.ivar .u64 0), (.lit (.int .u64 0))] 12 [(.ri .u64)], .setB0 13 (.cmp .eql (.var 12) (.var 0))] 13
 (.nb [.call 16 [(.ivar .u64 0), (.lit (.int .u64 9218868437227405312))] 14 [(.ri .u64)], .setB0 15 (.cmp .eql (.var 14) (.lit 9218868437227405312))] 15
 (.nb [.call 19 [(.ivar .u64 0), (.lit (.int .u64 0))] 16 [(.ri .u64)], .setB0 17 (.cmp .eql (.var 16) (.lit 0))] 17
 (.nb [.call 19 [(.ivar .u64 0), (.lit (.int .u64 9218868437227405312))] 18 [(.ri .u64)], .setB0 19 (.cmp .eql (.var 18) (.lit 18442240474082181120))] 19
 (.nb [.call 20 [(.ivar .u64 0), (.lit (.int .u64 0))] 20 [(.ri .u64)], .setB0 21 (.cmp .eql (.var 20) (.lit 18442240474082181120))] 21
 (.nb [.call 20 [(.ivar .u64 0), (.lit (.int .u64 9218868437227405312))] 22 [(.ri .u64)], .setB0 23 (.cmp .eql (.var 22) (.lit 0))] 23
 (.leaf [.call 18 [(.ivar .u64 0), (.ivar .u64 0)] 24 [(.ri .u64)], .setB0 25 (.cmp .eql (.var 24) (.lit 0))] (.w (.c (.bvar 25 false))))
 (.leaf [] (.w (.c (.lit (.bool false))))))
 (.leaf [] (.w (.c (.lit (.bool false))))))
 (.leaf [] (.w (.c (.lit (.bool false))))))
 (.leaf [] (.w (.c (.lit (.bool false))))))
 (.leaf [] (.w (.c (.lit (.bool false))))))
 (.leaf [] (.w (.c (.lit (.bool false))))))
 (.nb [.call 16 [(.ivar .u64 0), (.lit (.int .u64 0))] 12 [(.ri .u64)], .setB0 13 (.cmp .eql (.var 12) (.var 0))] 13
 (.nb [.call 16 [(.ivar .u64 0), (.lit (.int .u64 9218868437227405312))] 14 [(.ri .u64)], .setB0 15 (.cmp .eql (.var 14) (.lit 9218868437227405312))] 15
 (.nb [.call 19 [(.ivar .u64 0), (.lit (.int .u64 0))] 16 [(.ri .u64)], .setB0 17 (.cmp .eql (.var 16) (.lit 0))] 17
 (.nb [.call 19 [(.ivar .u64 0), (.lit (.int .u64 9218868437227405312))] 18 [(.ri .u64)], .setB0 19 (.cmp .eql (.var 18) (.lit 18442240474082181120))] 19
 (.nb [.call 20 [(.ivar .u64 0), (.lit (.int .u64 0))] 20 [(.ri .u64)], .setB0 21 (.cmp .eql (.var 20) (.lit 18442240474082181120))] 21
 (.nb [.call 20 [(.ivar .u64 0), (.lit (.int .u64 9218868437227405312))] 22 [(.ri .u64)], .setB0 23 (.cmp .eql (.var 22) (.lit 9223372036854775808))] 23
 (.leaf [.call 18 [(.ivar .u64 0), (.ivar .u64 0)] 24 [(.ri .u64)], .setB0 25 (.cmp .eql (.var 24) (.lit 0))] (.w (.c (.bvar 25 false))))
 (.leaf [] (.w (.c (.lit (.bool false))))))
 (.leaf [] (.w (.c (.lit (.bool false))))))
 (.leaf [] (.w (.c (.lit (.bool false))))))
 (.leaf [] (.w (.c (.lit (.bool false))))))
 (.leaf [] (.w (.c (.lit (.bool false))))))
 (.leaf [] (.w (.c (.lit (.bool false)))))))))
 (.nb [.setB0 9 (.all [(.bb (.var 7 false) (.lit false))])] 9
 (.nb [.setB0 10 (.all [(.bb (.var 7 false) (.lit false))])] 10
 (.nb [.setB0 11 (.all [(.bb (.var 7 false) (.lit false))])] 11
 (.nb [.call 16 [(.ivar .u64 0), (.lit (.int .u64 0))] 12 [(.ri .u64)], .setB0 13 (.cmp .eql (.var 12) (.var 0))] 13
 (.nb [.call 16 [(.ivar .u64 0), (.lit (.int .u64 9218868437227405312))] 14 [(.ri .u64)], .setB0 15 (.cmp .eql (.var 14) (.lit 9218868437227405312))] 15
 (.nb [.call 19 [(.ivar .u64 0), (.lit (.int .u64 0))] 16 [(.ri .u64)], .setB0 17 (.cmp .eql (.var 16) (.lit 9223372036854775808))] 17
 (.nb [.call 19 [(.ivar .u64 0), (.lit (.int .u64 9218868437227405312))] 18 [(.ri .u64)], .setB0 19 (.cmp .eql (.var 18) (.lit 9218868437227405312))] 19
 (.nb [.call 20 [(.ivar .u64 0), (.lit (.int .u64 0))] 20 [(.ri .u64)], .setB0 21 (.cmp .eql (.var 20) (.lit 9218868437227405312))] 21
 (.nb [.call 20 [(.ivar .u64 0), (.lit (.int .u64 9218868437227405312))] 22 [(.ri .u64)], .setB0 23 (.cmp .eql (.var 22) (.lit 0))] 23
 (.leaf [.call 18 [(.ivar .u64 0), (.ivar .u64 0)] 24 [(.ri .u64)], .setB0 25 (.cmp .eql (.var 24) (.lit 0))] (.w (.c (.bvar 25 false))))
 (.leaf [] (.w (.c (.lit (.bool false))))))
 (.leaf [] (.w (.c (.lit (.bool false))))))
 (.leaf [] (.w (.c (.lit (.bool false))))))
 (.leaf [] (.w (.c (.lit (.bool false))))))
 (.leaf [] (.w (.c (.lit (.bool false))))))
 (.leaf [] (.w (.c (.lit (.bool false))))))
 (.nb [.call 16 [(.ivar .u64 0), (.lit (.int .u64 0))] 12 [(.ri .u64)], .setB0 13 (.cmp .eql (.var 12) (.var 0))] 13
 (.nb [.call 16 [(.ivar .u64 0), (.lit (.int .u64 9218868437227405312))] 14 [(.ri .u64)], .setB0 15 (.cmp .eql (.var 14) (.lit 9218868437227405312))] 15
 (.nb [.call 19 [(.ivar .u64 0), (.lit (.int .u64 0))] 16 [(.ri .u64)], .setB0 17 (.cmp .eql (.var 16) (.lit 9223372036854775808))] 17
 (.nb [.call 19 [(.ivar .u64 0), (.lit (.int .u64 9218868437227405312))] 18 [(.ri .u64)], .setB0 19 (.cmp .eql (.var 18) (.lit 9218868437227405312))] 19
 (.nb [.call 20 [(.ivar .u64 0), (.lit (.int .u64 0))] 20 [(.ri .u64)], .setB0 21 (.cmp .eql (.var 20) (.lit 9218868437227405312))] 21
 (.nb [.call 20 [(.ivar .u64 0), (.lit (.int .u64 9218868437227405312))] 22 [(.ri .u64)], .setB0 23 (.cmp .eql (.var 22) (.lit 9223372036854775808))] 23
 (.leaf [.call 18 [(.ivar .u64 0), (.ivar .u64 0)] 24 [(.ri .u64)], .setB0 25 (.cmp .eql (.var 24) (.lit 0))] (.w (.c (.bvar 25 false))))
 (.leaf [] (.w (.c (.lit (.bool false))))))
 (.leaf [] (.w (.c (.lit (.bool false))))))
 (.leaf [] (.w (.c (.lit (.bool false))))))
 (.leaf [] (.w (.c (.lit (.bool false))))))
 (.leaf [] (.w (.c (.lit (.bool false))))))
 (.leaf [] (.w (.c (.lit (.bool false)))))))
 (.nb [.setB0 11 (.all [(.bb (.var 7 false) (.lit false))])] 11
 (.nb [.call 16 [(.ivar .u64 0), (.lit (.int .u64 0))] 12 [(.ri .u64)], .setB0 13 (.cmp .eql (.var 12) (.var 0))] 13
 (.nb [.call 16 [(.ivar .u64 0), (.lit (.int .u64 9218868437227405312))] 14 [(.ri .u64)], .setB0 15 (.cmp .eql (.var 14) (.lit 9218868437227405312))] 15
 (.nb [.call 19 [(.ivar .u64 0), (.lit (.int .u64 0))] 16 [(.ri .u64)], .setB0 17 (.cmp .eql (.var 16) (.lit 9223372036854775808))] 17
 (.nb [.call 19 [(.ivar .u64 0), (.lit (.int .u64 9218868437227405312))] 18 [(.ri .u64)], .setB0 19 (.cmp .eql (.var 18) (.lit 9218868437227405312))] 19
 (.nb [.call 20 [(.ivar .u64 0), (.lit (.int .u64 0))] 20 [(.ri .u64)], .setB0 21 (.cmp .eql (.var 20) (.lit 18442240474082181120))] 21
 (.nb [.call 20 [(.ivar .u64 0), (.lit (.int .u64 9218868437227405312))] 22 [(.ri .u64)], .setB0 23 (.cmp .eql (.var 22) (.lit 0))] 23
 (.leaf [.call 18 [(.ivar .u64 0), (.ivar .u64 0)] 24 [(.ri .u64)], .setB0 25 (.cmp .eql (.var 24) (.lit 0))] (.w (.c (.bvar 25 false))))
 (.leaf [] (.w (.c (.lit (.bool false))))))
 (.leaf [] (.w (.c (.lit (.bool false))))))
 (.leaf [] (.w (.c (.lit (.bool false))))))
 (.leaf [] (.w (.c (.lit (.bool false))))))
 (.leaf [] (.w (.c (.lit (.bool false))))))
 (.leaf [] (.w (.c (.lit (.bool false))))))
 (.nb [.call 16 [(.ivar .u64 0), (.lit (.int .u64 0))] 12 [(.ri .u64)], .setB0 13 (.cmp .eql (.var 12) (.var 0))] 13
 (.nb [.call 16 [(.ivar .u64 0), (.lit (.int .u64 9218868437227405312))] 14 [(.ri .u64)], .setB0 15 (.cmp .eql (.var 14) (.lit 9218868437227405312))] 15
 (.nb [.call 19 [(.ivar .u64 0), (.lit (.int .u64 0))] 16 [(.ri .u64)], .setB0 17 (.cmp .eql (.var 16) (.lit 9223372036854775808))] 17
 (.nb [.call 19 [(.ivar .u64 0), (.lit (.int .u64 9218868437227405312))] 18 [(.ri .u64)], .setB0 19 (.cmp .eql (.var 18) (.lit 9218868437227405312))] 19
 (.nb [.call 20 [(.ivar .u64 0), (.lit (.int .u64 0))] 20 [(.ri .u64)], .setB0 21 (.cmp .eql (.var 20) (.lit 18442240474082181120))] 21
 (.nb [.call 20 [(.ivar .u64 0), (.lit (.int .u64 9218868437227405312))] 22 [(.ri .u64)], .setB0 23 (.cmp .eql (.var 22) (.lit 9223372036854775808))] 23
 (.leaf [.call 18 [(.ivar .u64 0), (.ivar .u64 0)] 24 [(.ri .u64)], .setB0 25 (.cmp .eql (.var 24) (.lit 0))] (.w (.c (.bvar 25 false))))
 (.leaf [] (.w (.c (.lit (.bool false))))))
 (.leaf [] (.w (.c (.lit (.bool false))))))
 (.leaf [] (.w (.c (.lit (.bool false))))))
 (.leaf [] (.w (.c (.lit (.bool false))))))
 (.leaf [] (.w (.c (.lit (.bool false))))))
 (.leaf [] (.w (.c (.lit (.bool false))))))))
 (.nb [.setB0 10 (.all [(.bb (.var 7 false) (.lit false))])] 10
 (.nb [.setB0 11 (.all [(.bb (.var 7 false) (.lit false))])] 11
 (.nb [.call 16 [(.ivar .u64 0), (.lit (.int .u64 0))] 12 [(.ri .u64)], .setB0 13 (.cmp .eql (.var 12) (.var 0))] 13
 (.nb [.call 16 [(.ivar .u64 0), (.lit (.int .u64 9218868437227405312))] 14 [(.ri .u64)], .setB0 15 (.cmp .eql (.var 14) (.lit 9218868437227405312))] 15
 (.nb [.call 19 [(.ivar .u64 0), (.lit (.int .u64 0))] 16 [(.ri .u64)], .setB0 17 (.cmp .eql (.var 16) (.lit 9223372036854775808))] 17
 (.nb [.call 19 [(.ivar .u64 0), (.lit (.int .u64 9218868437227405312))] 18 [(.ri .u64)], .setB0 19 (.cmp .eql (.var 18) (.lit 18442240474082181120))] 19
 (.nb [.call 20 [(.ivar .u64 0), (.lit (.int .u64 0))] 20 [(.ri .u64)], .setB0 21 (.cmp .eql (.var 20) (.lit 9218868437227405312))] 21
 (.nb [.call 20 [(.ivar .u64 0), (.lit (.int .u64 9218868437227405312))] 22 [(.ri .u64)], .setB0 23 (.cmp .eql (.var 22) (.lit 0))] 23
 (.leaf [.call 18 [(.ivar .u64 0), (.ivar .u64 0)] 24 [(.ri .u64)], .setB0 25 (.cmp .eql (.var 24) (.lit 0))] (.w (.c (.bvar 25 false))))
 (.leaf [] (.w (.c (.lit (.bool false))))))
 (.leaf [] (.w (.c (.lit (.bool false))))))
 (.leaf [] (.w (.c (.lit (.bool false))))))
 (.leaf [] (.w (.c (.lit (.bool false))))))
 (.leaf [] (.w (.c (.lit (.bool false))))))
 (.leaf [] (.w (.c (.lit (.bool false))))))
 (.nb [.call 16 [(.ivar .u64 0), (.lit (.int .u64 0))] 12 [(.ri .u64)], .setB0 13 (.cmp .eql (.var 12) (.var 0))] 13
 (.nb [.call 16 [(.ivar .u64 0), (.lit (.int .u64 9218868437227405312))] 14 [(.ri .u64)], .setB0 15 (.cmp .eql (.var 14) (.lit 9218868437227405312))] 15
 (.nb [.call 19 [(.ivar .u64 0), (.lit (.int .u64 0))] 16 [(.ri .u64)], .setB0 17 (.cmp .eql (.var 16) (.lit 9223372036854775808))] 17
 (.nb [.call 19 [(.ivar .u64 0), (.lit (.int .u64 9218868437227405312))] 18 [(.ri .u64)], .setB0 19 (.cmp .eql (.var 18) (.lit 18442240474082181120))] 19
 (.nb [.call 20 [(.ivar .u64 0), (.lit (.int .u64 0))] 20 [(.ri .u64)], .setB0 21 (.cmp .eql (.var 20) (.lit 9218868437227405312))] 21
 (.nb [.call 20 [(.ivar .u64 0), (.lit (.int .u64 9218868437227405312))] 22 [(.ri .u64)], .setB0 23 (.cmp .eql (.var 22) (.lit 9223372036854775808))] 23
 (.leaf [.call 18 [(.ivar .u64 0), (.ivar .u64 0)] 24 [(.ri .u64)], .setB0 25 (.cmp .eql (.var 24) (.lit 0))] (.w (.c (.bvar 25 false))))
 (.leaf [] (.w (.c (.lit (.bool false))))))
 (.leaf [] (.w (.c (.lit (.bool false))))))
 (.leaf [] (.w (.c (.lit (.bool false))))))
 (.leaf [] (.w (.c (.lit (.bool false))))))
 (.leaf [] (.w (.c (.lit (.bool false))))))
 (.leaf [] (.w (.c (.lit (.bool false)))))))
 (.nb [.setB0 11 (.all [(.bb (.var 7 false) (.lit false))])] 11
 (.nb [.call 16 [(.ivar .u64 0), (.lit (.int .u64 0))] 12 [(.ri .u64)], .setB0 13 (.cmp .eql (.var 12) (.var 0))] 13
 (.nb [.call 16 [(.ivar .u64 0), (.lit (.int .u64 9218868437227405312))] 14 [(.ri .u64)], .setB0 15 (.cmp .eql (.var 14) (.lit 9218868437227405312))] 15
 (.nb [.call 19 [(.ivar .u64 0), (.lit (.int .u64 0))] 16 [(.ri .u64)], .setB0 17 (.cmp .eql (.var 16) (.lit 9223372036854775808))] 17
 (.nb [.call 19 [(.ivar .u64 0), (.lit (.int .u64 9218868437227405312))] 18 [(.ri .u64)], .setB0 19 (.cmp .eql (.var 18) (.lit 18442240474082181120))] 19
 (.nb [.call 20 [(.ivar .u64 0), (.lit (.int .u64 0))] 20 [(.ri .u64)], .setB0 21 (.cmp .eql (.var 20) (.lit 18442240474082181120))] 21
 (.nb [.call 20 [(.ivar .u64 0), (.lit (.int .u64 9218868437227405312))] 22 [(.ri .u64)], .setB0 23 (.cmp .eql (.var 22) (.lit 0))] 23
 (.leaf [.call 18 [(.ivar .u64 0), (.ivar .u64 0)] 24 [(.ri .u64)], .setB0 25 (.cmp .eql (.var 24) (.lit 0))] (.w (.c (.bvar 25 false))))
 (.leaf [] (.w (.c (.lit (.bool false))))))
 (.leaf [] (.w (.c (.lit (.bool false))))))
 (.leaf [] (.w (.c (.lit (.bool false))))))
 (.leaf [] (.w (.c (.lit (.bool false))))))
 (.leaf [] (.w (.c (.lit (.bool false))))))
 (.leaf [] (.w (.c (.lit (.bool false))))))
 (.nb [.call 16 [(.ivar .u64 0), (.lit (.int .u64 0))] 12 [(.ri .u64)], .setB0 13 (.cmp .eql (.var 12) (.var 0))] 13
 (.nb [.call 16 [(.ivar .u64 0), (.lit (.int .u64 9218868437227405312))] 14 [(.ri .u64)], .setB0 15 (.cmp .eql (.var 14) (.lit 9218868437227405312))] 15
 (.nb [.call 19 [(.ivar .u64 0), (.lit (.int .u64 0))] 16 [(.ri .u64)], .setB0 17 (.cmp .eql (.var 16) (.lit 9223372036854775808))] 17
 (.nb [.call 19 [(.ivar .u64 0), (.lit (.int .u64 9218868437227405312))] 18 [(.ri .u64)], .setB0 19 (.cmp .eql (.var 18) (.lit 18442240474082181120))] 19
 (.nb [.call 20 [(.ivar .u64 0), (.lit (.int .u64 0))] 20 [(.ri .u64)], .setB0 21 (.cmp .eql (.var 20) (.lit 18442240474082181120))] 21
 (.nb [.call 20 [(.ivar .u64 0), (.lit (.int .u64 9218868437227405312))] 22 [(.ri .u64)], .setB0 23 (.cmp .eql (.var 22) (.lit 9223372036854775808))] 23
 (.leaf [.call 18 [(.ivar .u64 0), (.ivar .u64 0)] 24 [(.ri .u64)], .setB0 25 (.cmp .eql (.var 24) (.lit 0))] (.w (.c (.bvar 25 false))))
 (.leaf [] (.w (.c (.lit (.bool false))))))
 (.leaf [] (.w (.c (.lit (.bool false))))))
 (.leaf [] (.w (.c (.lit (.bool false))))))
 (.leaf [] (.w (.c (.lit (.bool false))))))
 (.leaf [] (.w (.c (.lit (.bool false))))))
 (.leaf [] (.w (.c (.lit (.bool false))))))))))
theorem FloatEdgesT7_ok : LT.Ok FloatEdgesR FloatEdgesT7 [.db false, .db false, .db false, .db true] [.decB 5 false, .setB0 5 (.cmp .neq (.var 4) (.lit 1)), .call 12 [(.ivar .u64 0)] 4 [(.ri .i64)], .decB 2 false, .decB 1 false, .decB 3 true, .call 11 [] 3 [.rb]] :=
 (LT.ok_nb (LT.ok_nb (LT.ok_nb (LT.ok_nb (LT.ok_nb (LT.ok_nb (LT.ok_nb (LT.ok_nb (LT.ok_nb (LT.ok_nb (LT.ok_leaf (by kernel_rfl))
 (LT.ok_leaf (by kernel_rfl)))
 (LT.ok_leaf (by kernel_rfl)))
 (LT.ok_leaf (by kernel_rfl)))
 (LT.ok_leaf (by kernel_rfl)))
 (LT.ok_leaf (by kernel_rfl)))
 (LT.ok_leaf (by kernel_rfl)))
 (LT.ok_nb (LT.ok_nb (LT.ok_nb (LT.ok_nb (LT.ok_nb (LT.ok_nb (LT.ok_leaf (by kernel_rfl))
 (LT.ok_leaf (by kernel_rfl)))
 (LT.ok_leaf (by kernel_rfl)))
 (LT.ok_leaf (by kernel_rfl)))
 (LT.ok_leaf (by kernel_rfl)))
 (LT.ok_leaf (by kernel_rfl)))
 (LT.ok_leaf (by kernel_rfl))))
 (LT.ok_nb (LT.ok_nb (LT.ok_nb (LT.ok_nb (LT.ok_nb (LT.ok_nb (LT.ok_nb (LT.ok_leaf (by kernel_rfl))
 (LT.ok_leaf (by kernel_rfl)))
 (LT.ok_leaf (by kernel_rfl)))
 (LT.ok_leaf (by kernel_rfl)))
 (LT.ok_leaf (by kernel_rfl)))
 (LT.ok_leaf (by kernel_rfl)))
 (LT.ok_leaf (by kernel_rfl)))
 (LT.ok_nb (LT.ok_nb (LT.ok_nb (LT.ok_nb (LT.ok_nb (LT.ok_nb (LT.ok_leaf (by kernel_rfl))
 (LT.ok_leaf (by kernel_rfl)))
 (LT.ok_leaf (by kernel_rfl)))
 (LT.ok_leaf (by kernel_rfl)))
 (LT.ok_leaf (by kernel_rfl)))
 (LT.ok_leaf (by kernel_rfl)))
 (LT.ok_leaf (by kernel_rfl)))))
 (LT.ok_nb (LT.ok_nb (LT.ok_nb (LT.ok_nb (LT.ok_nb (LT.ok_nb (LT.ok_nb (LT.ok_nb (LT.ok_leaf (by kernel_rfl))
 (LT.ok_leaf (by kernel_rfl)))
 (LT.ok_leaf (by kernel_rfl)))
 (LT.ok_leaf (by kernel_rfl)))
 (LT.ok_leaf (by kernel_rfl)))
 (LT.ok_leaf (by kernel_rfl)))
 (LT.ok_leaf (by kernel_rfl)))
 (LT.ok_nb (LT.ok_nb (LT.ok_nb (LT.ok_nb (LT.ok_nb (LT.ok_nb (LT.ok_leaf (by kernel_rfl))
 (LT.ok_leaf (by kernel_rfl)))
 (LT.ok_leaf (by kernel_rfl)))
 (LT.ok_leaf (by kernel_rfl)))
 (LT.ok_leaf (by kernel_rfl)))
 (LT.ok_leaf (by kernel_rfl)))
 (LT.ok_leaf (by kernel_rfl))))
 (LT.ok_nb (LT.ok_nb (LT.ok_nb (LT.ok_nb (LT.ok_nb (LT.ok_nb (LT.ok_nb (LT.ok_leaf (by kernel_rfl))
 (LT.ok_leaf (by kernel_rfl)))
 (LT.ok_leaf (by kernel_rfl)))
 (LT.ok_leaf (by kernel_rfl)))
 (LT.ok_leaf (by kernel_rfl)))
 (LT.ok_leaf (by kernel_rfl)))
 (LT.ok_leaf (by kernel_rfl)))
 (LT.ok_nb (LT.ok_nb (LT.ok_nb (LT.ok_nb (LT.ok_nb (LT.ok_nb (LT.ok_leaf (by kernel_rfl))
 (LT.ok_leaf (by kernel_rfl)))
 (LT.ok_leaf (by kernel_rfl)))
 (LT.ok_leaf (by kernel_rfl)))
 (LT.ok_leaf (by kernel_rfl)))
 (LT.ok_leaf (by kernel_rfl)))
 (LT.ok_leaf (by kernel_rfl))))))
 (LT.ok_nb (LT.ok_nb (LT.ok_nb (LT.ok_nb (LT.ok_nb (LT.ok_nb (LT.ok_nb (LT.ok_nb (LT.ok_nb (LT.ok_leaf (by kernel_rfl))
 (LT.ok_leaf (by kernel_rfl)))
 (LT.ok_leaf (by kernel_rfl)))
 (LT.ok_leaf (by kernel_rfl)))
 (LT.ok_leaf (by kernel_rfl)))
 (LT.ok_leaf (by kernel_rfl)))
 (LT.ok_leaf (by kernel_rfl)))
 (LT.ok_nb (LT.ok_nb (LT.ok_nb (LT.ok_nb (LT.ok_nb (LT.ok_nb (LT.ok_leaf (by kernel_rfl))
 (LT.ok_leaf (by kernel_rfl)))
 (LT.ok_leaf (by kernel_rfl)))
 (LT.ok_leaf (by kernel_rfl)))
 (LT.ok_leaf (by kernel_rfl)))
 (LT.ok_leaf (by kernel_rfl)))
 (LT.ok_leaf (by kernel_rfl))))
 (LT.ok_nb (LT.ok_nb (LT.ok_nb (LT.ok_nb (LT.ok_nb (LT.ok_nb (LT.ok_nb (LT.ok_leaf (by kernel_rfl))
 (LT.ok_leaf (by kernel_rfl)))
 (LT.ok_leaf (by kernel_rfl)))
 (LT.ok_leaf (by kernel_rfl)))
 (LT.ok_leaf (by kernel_rfl)))
 (LT.ok_leaf (by kernel_rfl)))
 (LT.ok_leaf (by kernel_rfl)))
 (LT.ok_nb (LT.ok_nb (LT.ok_nb (LT.ok_nb (LT.ok_nb (LT.ok_nb (LT.ok_leaf (by kernel_rfl))
 (LT.ok_leaf (by kernel_rfl)))
 (LT.ok_leaf (by kernel_rfl)))
 (LT.ok_leaf (by kernel_rfl)))
 (LT.ok_leaf (by kernel_rfl)))
 (LT.ok_leaf (by kernel_rfl)))
 (LT.ok_leaf (by kernel_rfl)))))
 (LT.ok_nb (LT.ok_nb (LT.ok_nb (LT.ok_nb (LT.ok_nb (LT.ok_nb (LT.ok_nb (LT.ok_nb (LT.ok_leaf (by kernel_rfl))
 (LT.ok_leaf (by kernel_rfl)))
 (LT.ok_leaf (by kernel_rfl)))
 (LT.ok_leaf (by kernel_rfl)))
 (LT.ok_leaf (by kernel_rfl)))
 (LT.ok_leaf (by kernel_rfl)))
 (LT.ok_leaf (by kernel_rfl)))
 (LT.ok_nb (LT.ok_nb (LT.ok_nb (LT.ok_nb (LT.ok_nb (LT.ok_nb (LT.ok_leaf (by kernel_rfl))
 (LT.ok_leaf (by kernel_rfl)))
 (LT.ok_leaf (by kernel_rfl)))
 (LT.ok_leaf (by kernel_rfl)))
 (LT.ok_leaf (by kernel_rfl)))
 (LT.ok_leaf (by kernel_rfl)))
 (LT.ok_leaf (by kernel_rfl))))
 (LT.ok_nb (LT.ok_nb (LT.ok_nb (LT.ok_nb (LT.ok_nb (LT.ok_nb (LT.ok_nb (LT.ok_leaf (by kernel_rfl))
 (LT.ok_leaf (by kernel_rfl)))
 (LT.ok_leaf (by kernel_rfl)))
 (LT.ok_leaf (by kernel_rfl)))
 (LT.ok_leaf (by kernel_rfl)))
 (LT.ok_leaf (by kernel_rfl)))
 (LT.ok_leaf (by kernel_rfl)))
 (LT.ok_nb (LT.ok_nb (LT.ok_nb (LT.ok_nb (LT.ok_nb (LT.ok_nb (LT.ok_leaf (by kernel_rfl))
 (LT.ok_leaf (by kernel_rfl)))
 (LT.ok_leaf (by kernel_rfl)))
 (LT.ok_leaf (by kernel_rfl)))
 (LT.ok_leaf (by kernel_rfl)))
 (LT.ok_leaf (by kernel_rfl)))
 (LT.ok_leaf (by kernel_rfl)))))))
noncomputable def FloatEdgesT : LT :=
 (.nb [.call 11 [] 3 [.rb]] 3
 (.nb [] 1
 (.nb [] 2
 (.nb [.call 12 [(.ivar .u64 0)] 4 [(.ri .i64)], .setB0 5 (.cmp .neq (.var 4) (.lit 1))] 5
 (.nb [.setB0 6 (.cmp .neq (.var 4) (.lit 2))] 6
 (.nb [.call 19 [(.lit (.int .u64 9223372036854775808)), (.lit (.int .u64 18442240474082181120))] 7 [(.ri .u64)], .setB0 8 (.cmp .eql (.var 7) (.lit 9221120237041090560))] 8
 (.nb [.call 20 [(.lit (.int .u64 18442240474082181120)), (.lit (.int .u64 18442240474082181120))] 9 [(.ri .u64)], .setB0 10 (.cmp .eql (.var 9) (.lit 9221120237041090560))] 10
 (.leaf [.call 20 [(.lit (.int .u64 9223372036854775808)), (.lit (.int .u64 9223372036854775808))] 11 [(.ri .u64)], .setB0 12 (.cmp .eql (.var 11) (.lit 9221120237041090560))] (.w (.c (.bvar 12 false))))
 (.leaf [] (.w (.c (.lit (.bool false))))))
 (.leaf [] (.w (.c (.lit (.bool false))))))
 FloatEdgesT0)
 FloatEdgesT1)
 (.nb [.call 12 [(.ivar .u64 0)] 4 [(.ri .i64)], .setB0 5 (.cmp .neq (.var 4) (.lit 1))] 5
 (.nb [.setB0 6 (.cmp .neq (.var 4) (.lit 2))] 6
 (.nb [.call 19 [(.lit (.int .u64 9223372036854775808)), (.lit (.int .u64 9218868437227405312))] 7 [(.ri .u64)], .setB0 8 (.cmp .eql (.var 7) (.lit 9221120237041090560))] 8
 (.nb [.call 20 [(.lit (.int .u64 9218868437227405312)), (.lit (.int .u64 9218868437227405312))] 9 [(.ri .u64)], .setB0 10 (.cmp .eql (.var 9) (.lit 9221120237041090560))] 10
 (.leaf [.call 20 [(.lit (.int .u64 9223372036854775808)), (.lit (.int .u64 9223372036854775808))] 11 [(.ri .u64)], .setB0 12 (.cmp .eql (.var 11) (.lit 9221120237041090560))] (.w (.c (.bvar 12 false))))
 (.leaf [] (.w (.c (.lit (.bool false))))))
 (.leaf [] (.w (.c (.lit (.bool false))))))
 FloatEdgesT2)
 FloatEdgesT3))
 (.nb [] 2
 (.nb [.call 12 [(.ivar .u64 0)] 4 [(.ri .i64)], .setB0 5 (.cmp .neq (.var 4) (.lit 1))] 5
 (.nb [.setB0 6 (.cmp .neq (.var 4) (.lit 2))] 6
 (.nb [.call 19 [(.lit (.int .u64 0)), (.lit (.int .u64 18442240474082181120))] 7 [(.ri .u64)], .setB0 8 (.cmp .eql (.var 7) (.lit 9221120237041090560))] 8
 (.nb [.call 20 [(.lit (.int .u64 18442240474082181120)), (.lit (.int .u64 18442240474082181120))] 9 [(.ri .u64)], .setB0 10 (.cmp .eql (.var 9) (.lit 9221120237041090560))] 10
 (.leaf [.call 20 [(.lit (.int .u64 0)), (.lit (.int .u64 0))] 11 [(.ri .u64)], .setB0 12 (.cmp .eql (.var 11) (.lit 9221120237041090560))] (.w (.c (.bvar 12 false))))
 (.leaf [] (.w (.c (.lit (.bool false))))))
 (.leaf [] (.w (.c (.lit (.bool false))))))
 FloatEdgesT4)
 FloatEdgesT5)
 (.nb [.call 12 [(.ivar .u64 0)] 4 [(.ri .i64)], .setB0 5 (.cmp .neq (.var 4) (.lit 1))] 5
 (.nb [.setB0 6 (.cmp .neq (.var 4) (.lit 2))] 6
 (.nb [.call 19 [(.lit (.int .u64 0)), (.lit (.int .u64 9218868437227405312))] 7 [(.ri .u64)], .setB0 8 (.cmp .eql (.var 7) (.lit 9221120237041090560))] 8
 (.nb [.call 20 [(.lit (.int .u64 9218868437227405312)), (.lit (.int .u64 9218868437227405312))] 9 [(.ri .u64)], .setB0 10 (.cmp .eql (.var 9) (.lit 9221120237041090560))] 10
 (.leaf [.call 20 [(.lit (.int .u64 0)), (.lit (.int .u64 0))] 11 [(.ri .u64)], .setB0 12 (.cmp .eql (.var 11) (.lit 9221120237041090560))] (.w (.c (.bvar 12 false))))
 (.leaf [] (.w (.c (.lit (.bool false))))))
 (.leaf [] (.w (.c (.lit (.bool false))))))
 FloatEdgesT6)
 FloatEdgesT7)))
 (.leaf [] (.w (.c (.lit (.bool false))))))
theorem FloatEdgesT_ok : LT.Ok FloatEdgesR FloatEdgesT [] [] :=
 (LT.ok_nb (LT.ok_nb (LT.ok_nb (LT.ok_nb (LT.ok_nb (LT.ok_nb (LT.ok_nb (LT.ok_leaf (by kernel_rfl))
 (LT.ok_leaf (by kernel_rfl)))
 (LT.ok_leaf (by kernel_rfl)))
 FloatEdgesT0_ok)
 FloatEdgesT1_ok)
 (LT.ok_nb (LT.ok_nb (LT.ok_nb (LT.ok_nb (LT.ok_leaf (by kernel_rfl))
 (LT.ok_leaf (by kernel_rfl)))
 (LT.ok_leaf (by kernel_rfl)))
 FloatEdgesT2_ok)
 FloatEdgesT3_ok))
 (LT.ok_nb (LT.ok_nb (LT.ok_nb (LT.ok_nb (LT.ok_nb (LT.ok_leaf (by kernel_rfl))
 (LT.ok_leaf (by kernel_rfl)))
 (LT.ok_leaf (by kernel_rfl)))
 FloatEdgesT4_ok)
 FloatEdgesT5_ok)
 (LT.ok_nb (LT.ok_nb (LT.ok_nb (LT.ok_nb (LT.ok_leaf (by kernel_rfl))
 (LT.ok_leaf (by kernel_rfl)))
 (LT.ok_leaf (by kernel_rfl)))
 FloatEdgesT6_ok)
 FloatEdgesT7_ok)))
 (LT.ok_leaf (by kernel_rfl)))
theorem FloatEdges_ok : SumT Tryd.prog phi 6 FloatEdgesS := treeSum (t := FloatEdgesT) (lf := 1000) (d := 50) FloatEdgesC_ok (fun xs w => Tryd.call6 xs w)
 FloatEdgesT_ok
 (by kernel_rfl)
 (by
  intro a0 h0 a1 a2
  exact ⟨obl_nil (by kernel_rfl), by kernel_rfl⟩)
end Go.Proofs.YtdchnlmclngjmaaDoor
