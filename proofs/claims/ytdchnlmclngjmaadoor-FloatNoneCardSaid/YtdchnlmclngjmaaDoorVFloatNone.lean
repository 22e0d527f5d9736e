/-
  ferryman/ferrymanlaw2.FloatNone: all its ways, printed by a program of this repo.
-/
import Derived.Test.YtdchnlmclngjmaaDoorBase
import Derived.Test.YtdchnlmclngjmaaDoorHand
import Derived.Test.YtdchnlmclngjmaaDoorVfNeg
import Derived.Test.YtdchnlmclngjmaaDoorVfKind
import Derived.Test.YtdchnlmclngjmaaDoorVfText
import Derived.Test.YtdchnlmclngjmaaDoorVlwKnown
namespace Go.Proofs.YtdchnlmclngjmaaDoor
open Go.Sx
set_option linter.unusedVariables false
set_option linter.unusedSimpArgs false
set_option maxRecDepth 100000
set_option maxHeartbeats 20000000
noncomputable def FloatNoneC : Ctx := ⟨tys, fns, ((((((((((.e : Tr Sum).set 16 fAddS).set 18 fSubS).set 19 fMulS).set 20 fDivS).set 14 fCmpS).set 21 fNegS).set 12 fKindS).set 13 fTextS).set 11 lwKnownS)⟩
theorem FloatNoneC_ok : CtxT Tryd.prog phi FloatNoneC := ⟨tys_ok, fns_ok, (((((((((SumsT.e.set fAdd_ok).set fSub_ok).set fMul_ok).set fDiv_ok).set fCmp_ok).set fNeg_ok).set fKind_ok).set fText_ok).set lwKnown_ok), mix_ok⟩
noncomputable def FloatNoneR (ds : List D) : R (SV × St) := fnRun FloatNoneC 1000 50 5 (symArgs FloatNoneS.args 0) (st0 ds 3)
noncomputable def FloatNoneT : LT :=
 (.nb [.call 11 [] 3 [.rb]] 3
 (.nb [.setI0 4 (.bin .shl .u64 (.var 1) (.lit 12)), .setI0 5 (.bin .shr .u64 (.var 4) (.lit 12)), .setI0 6 (.bin .or .u64 (.lit 9218868437227405312) (.var 5)), .setI0 7 (.bin .shl .u64 (.var 1) (.lit 12)), .setB0 8 (.cmp .eql (.var 7) (.lit 0))] 8
 (.nb [] 2
 (.nb [.call 14 [(.lit (.int .u64 18444492273895866368)), (.ivar .u64 0)] 9 [.rb, .rb, .rb], .call 14 [(.ivar .u64 0), (.lit (.int .u64 18444492273895866368))] 12 [.rb, .rb, .rb], .call 16 [(.lit (.int .u64 18444492273895866368)), (.ivar .u64 0)] 15 [(.ri .u64)], .setB0 16 (.cmp .eql (.var 15) (.lit 9221120237041090560))] 16
 (.nb [.call 18 [(.ivar .u64 0), (.lit (.int .u64 18444492273895866368))] 17 [(.ri .u64)], .setB0 18 (.cmp .eql (.var 17) (.lit 9221120237041090560))] 18
 (.nb [.call 19 [(.lit (.int .u64 18444492273895866368)), (.ivar .u64 0)] 19 [(.ri .u64)], .setB0 20 (.cmp .eql (.var 19) (.lit 9221120237041090560))] 20
 (.nb [.call 20 [(.ivar .u64 0), (.lit (.int .u64 18444492273895866368))] 21 [(.ri .u64)], .setB0 22 (.cmp .eql (.var 21) (.lit 9221120237041090560))] 22
 (.nb [] 9
 (.nb [] 10
 (.nb [] 11
 (.nb [] 12
 (.nb [] 13
 (.nb [] 14
 (.nb [.call 12 [(.lit (.int .u64 18444492273895866368))] 23 [(.ri .i64)], .setB0 24 (.cmp .eql (.var 23) (.lit 4))] 24
 (.nb [.call 13 [(.lit (.int .u64 18444492273895866368))] 25 [.rs], .setB0 26 (.all [(.ss (.var 25) (.lit ⟨#[110, 97, 110]⟩))])] 26
 (.leaf [.call 21 [(.lit (.int .u64 18444492273895866368))] 27 [(.ri .u64)], .call 21 [(.ivar .u64 27)] 28 [(.ri .u64)], .setB0 29 (.cmp .eql (.var 28) (.lit 18444492273895866368))] (.w (.c (.bvar 29 false))))
 (.leaf [] (.w (.c (.lit (.bool false))))))
 (.leaf [] (.w (.c (.lit (.bool false))))))
 (.leaf [] (.w (.c (.lit (.bool false))))))
 (.leaf [] (.w (.c (.lit (.bool false))))))
 (.leaf [] (.w (.c (.lit (.bool false))))))
 (.leaf [] (.w (.c (.lit (.bool false))))))
 (.leaf [] (.w (.c (.lit (.bool false))))))
 (.leaf [] (.w (.c (.lit (.bool false))))))
 (.leaf [] (.w (.c (.lit (.bool false))))))
 (.leaf [] (.w (.c (.lit (.bool false))))))
 (.leaf [] (.w (.c (.lit (.bool false))))))
 (.leaf [] (.w (.c (.lit (.bool false))))))
 (.nb [.call 14 [(.lit (.int .u64 9221120237041090560)), (.ivar .u64 0)] 9 [.rb, .rb, .rb], .call 14 [(.ivar .u64 0), (.lit (.int .u64 9221120237041090560))] 12 [.rb, .rb, .rb], .call 16 [(.lit (.int .u64 9221120237041090560)), (.ivar .u64 0)] 15 [(.ri .u64)], .setB0 16 (.cmp .eql (.var 15) (.lit 9221120237041090560))] 16
 (.nb [.call 18 [(.ivar .u64 0), (.lit (.int .u64 9221120237041090560))] 17 [(.ri .u64)], .setB0 18 (.cmp .eql (.var 17) (.lit 9221120237041090560))] 18
 (.nb [.call 19 [(.lit (.int .u64 9221120237041090560)), (.ivar .u64 0)] 19 [(.ri .u64)], .setB0 20 (.cmp .eql (.var 19) (.lit 9221120237041090560))] 20
 (.nb [.call 20 [(.ivar .u64 0), (.lit (.int .u64 9221120237041090560))] 21 [(.ri .u64)], .setB0 22 (.cmp .eql (.var 21) (.lit 9221120237041090560))] 22
 (.nb [] 9
 (.nb [] 10
 (.nb [] 11
 (.nb [] 12
 (.nb [] 13
 (.nb [] 14
 (.nb [.call 12 [(.lit (.int .u64 9221120237041090560))] 23 [(.ri .i64)], .setB0 24 (.cmp .eql (.var 23) (.lit 4))] 24
 (.nb [.call 13 [(.lit (.int .u64 9221120237041090560))] 25 [.rs], .setB0 26 (.all [(.ss (.var 25) (.lit ⟨#[110, 97, 110]⟩))])] 26
 (.leaf [.call 21 [(.lit (.int .u64 9221120237041090560))] 27 [(.ri .u64)], .call 21 [(.ivar .u64 27)] 28 [(.ri .u64)], .setB0 29 (.cmp .eql (.var 28) (.lit 9221120237041090560))] (.w (.c (.bvar 29 false))))
 (.leaf [] (.w (.c (.lit (.bool false))))))
 (.leaf [] (.w (.c (.lit (.bool false))))))
 (.leaf [] (.w (.c (.lit (.bool false))))))
 (.leaf [] (.w (.c (.lit (.bool false))))))
 (.leaf [] (.w (.c (.lit (.bool false))))))
 (.leaf [] (.w (.c (.lit (.bool false))))))
 (.leaf [] (.w (.c (.lit (.bool false))))))
 (.leaf [] (.w (.c (.lit (.bool false))))))
 (.leaf [] (.w (.c (.lit (.bool false))))))
 (.leaf [] (.w (.c (.lit (.bool false))))))
 (.leaf [] (.w (.c (.lit (.bool false))))))
 (.leaf [] (.w (.c (.lit (.bool false)))))))
 (.nb [] 2
 (.nb [.setI0 9 (.bin .or .u64 (.var 6) (.lit 9223372036854775808)), .call 14 [(.ivar .u64 9), (.ivar .u64 0)] 10 [.rb, .rb, .rb], .call 14 [(.ivar .u64 0), (.ivar .u64 9)] 13 [.rb, .rb, .rb], .call 16 [(.ivar .u64 9), (.ivar .u64 0)] 16 [(.ri .u64)], .setB0 17 (.cmp .eql (.var 16) (.lit 9221120237041090560))] 17
 (.nb [.call 18 [(.ivar .u64 0), (.ivar .u64 9)] 18 [(.ri .u64)], .setB0 19 (.cmp .eql (.var 18) (.lit 9221120237041090560))] 19
 (.nb [.call 19 [(.ivar .u64 9), (.ivar .u64 0)] 20 [(.ri .u64)], .setB0 21 (.cmp .eql (.var 20) (.lit 9221120237041090560))] 21
 (.nb [.call 20 [(.ivar .u64 0), (.ivar .u64 9)] 22 [(.ri .u64)], .setB0 23 (.cmp .eql (.var 22) (.lit 9221120237041090560))] 23
 (.nb [] 10
 (.nb [] 11
 (.nb [] 12
 (.nb [] 13
 (.nb [] 14
 (.nb [] 15
 (.nb [.call 12 [(.ivar .u64 9)] 24 [(.ri .i64)], .setB0 25 (.cmp .eql (.var 24) (.lit 4))] 25
 (.nb [.call 13 [(.ivar .u64 9)] 26 [.rs], .setB0 27 (.all [(.ss (.var 26) (.lit ⟨#[110, 97, 110]⟩))])] 27
 (.leaf [.call 21 [(.ivar .u64 9)] 28 [(.ri .u64)], .call 21 [(.ivar .u64 28)] 29 [(.ri .u64)], .setB0 30 (.cmp .eql (.var 29) (.var 9))] (.w (.c (.bvar 30 false))))
 (.leaf [] (.w (.c (.lit (.bool false))))))
 (.leaf [] (.w (.c (.lit (.bool false))))))
 (.leaf [] (.w (.c (.lit (.bool false))))))
 (.leaf [] (.w (.c (.lit (.bool false))))))
 (.leaf [] (.w (.c (.lit (.bool false))))))
 (.leaf [] (.w (.c (.lit (.bool false))))))
 (.leaf [] (.w (.c (.lit (.bool false))))))
 (.leaf [] (.w (.c (.lit (.bool false))))))
 (.leaf [] (.w (.c (.lit (.bool false))))))
 (.leaf [] (.w (.c (.lit (.bool false))))))
 (.leaf [] (.w (.c (.lit (.bool false))))))
 (.leaf [] (.w (.c (.lit (.bool false))))))
 (.nb [.call 14 [(.ivar .u64 6), (.ivar .u64 0)] 9 [.rb, .rb, .rb], .call 14 [(.ivar .u64 0), (.ivar .u64 6)] 12 [.rb, .rb, .rb], .call 16 [(.ivar .u64 6), (.ivar .u64 0)] 15 [(.ri .u64)], .setB0 16 (.cmp .eql (.var 15) (.lit 9221120237041090560))] 16
 (.nb [.call 18 [(.ivar .u64 0), (.ivar .u64 6)] 17 [(.ri .u64)], .setB0 18 (.cmp .eql (.var 17) (.lit 9221120237041090560))] 18
 (.nb [.call 19 [(.ivar .u64 6), (.ivar .u64 0)] 19 [(.ri .u64)], .setB0 20 (.cmp .eql (.var 19) (.lit 9221120237041090560))] 20
 (.nb [.call 20 [(.ivar .u64 0), (.ivar .u64 6)] 21 [(.ri .u64)], .setB0 22 (.cmp .eql (.var 21) (.lit 9221120237041090560))] 22
 (.nb [] 9
 (.nb [] 10
 (.nb [] 11
 (.nb [] 12
 (.nb [] 13
 (.nb [] 14
 (.nb [.call 12 [(.ivar .u64 6)] 23 [(.ri .i64)], .setB0 24 (.cmp .eql (.var 23) (.lit 4))] 24
 (.nb [.call 13 [(.ivar .u64 6)] 25 [.rs], .setB0 26 (.all [(.ss (.var 25) (.lit ⟨#[110, 97, 110]⟩))])] 26
 (.leaf [.call 21 [(.ivar .u64 6)] 27 [(.ri .u64)], .call 21 [(.ivar .u64 27)] 28 [(.ri .u64)], .setB0 29 (.cmp .eql (.var 28) (.var 6))] (.w (.c (.bvar 29 false))))
 (.leaf [] (.w (.c (.lit (.bool false))))))
 (.leaf [] (.w (.c (.lit (.bool false))))))
 (.leaf [] (.w (.c (.lit (.bool false))))))
 (.leaf [] (.w (.c (.lit (.bool false))))))
 (.leaf [] (.w (.c (.lit (.bool false))))))
 (.leaf [] (.w (.c (.lit (.bool false))))))
 (.leaf [] (.w (.c (.lit (.bool false))))))
 (.leaf [] (.w (.c (.lit (.bool false))))))
 (.leaf [] (.w (.c (.lit (.bool false))))))
 (.leaf [] (.w (.c (.lit (.bool false))))))
 (.leaf [] (.w (.c (.lit (.bool false))))))
 (.leaf [] (.w (.c (.lit (.bool false))))))))
 (.leaf [] (.w (.c (.lit (.bool false))))))
theorem FloatNoneT_ok : LT.Ok FloatNoneR FloatNoneT [] [] :=
 (LT.ok_nb (LT.ok_nb (LT.ok_nb (LT.ok_nb (LT.ok_nb (LT.ok_nb (LT.ok_nb (LT.ok_nb (LT.ok_nb (LT.ok_nb (LT.ok_nb (LT.ok_nb (LT.ok_nb (LT.ok_nb (LT.ok_nb (LT.ok_leaf (by kernel_rfl))
 (LT.ok_leaf (by kernel_rfl)))
 (LT.ok_leaf (by kernel_rfl)))
 (LT.ok_leaf (by kernel_rfl)))
 (LT.ok_leaf (by kernel_rfl)))
 (LT.ok_leaf (by kernel_rfl)))
 (LT.ok_leaf (by kernel_rfl)))
 (LT.ok_leaf (by kernel_rfl)))
 (LT.ok_leaf (by kernel_rfl)))
 (LT.ok_leaf (by kernel_rfl)))
 (LT.ok_leaf (by kernel_rfl)))
 (LT.ok_leaf (by kernel_rfl)))
 (LT.ok_leaf (by kernel_rfl)))
 (LT.ok_nb (LT.ok_nb (LT.ok_nb (LT.ok_nb (LT.ok_nb (LT.ok_nb (LT.ok_nb (LT.ok_nb (LT.ok_nb (LT.ok_nb (LT.ok_nb (LT.ok_nb (LT.ok_leaf (by kernel_rfl))
 (LT.ok_leaf (by kernel_rfl)))
 (LT.ok_leaf (by kernel_rfl)))
 (LT.ok_leaf (by kernel_rfl)))
 (LT.ok_leaf (by kernel_rfl)))
 (LT.ok_leaf (by kernel_rfl)))
 (LT.ok_leaf (by kernel_rfl)))
 (LT.ok_leaf (by kernel_rfl)))
 (LT.ok_leaf (by kernel_rfl)))
 (LT.ok_leaf (by kernel_rfl)))
 (LT.ok_leaf (by kernel_rfl)))
 (LT.ok_leaf (by kernel_rfl)))
 (LT.ok_leaf (by kernel_rfl))))
 (LT.ok_nb (LT.ok_nb (LT.ok_nb (LT.ok_nb (LT.ok_nb (LT.ok_nb (LT.ok_nb (LT.ok_nb (LT.ok_nb (LT.ok_nb (LT.ok_nb (LT.ok_nb (LT.ok_nb (LT.ok_leaf (by kernel_rfl))
 (LT.ok_leaf (by kernel_rfl)))
 (LT.ok_leaf (by kernel_rfl)))
 (LT.ok_leaf (by kernel_rfl)))
 (LT.ok_leaf (by kernel_rfl)))
 (LT.ok_leaf (by kernel_rfl)))
 (LT.ok_leaf (by kernel_rfl)))
 (LT.ok_leaf (by kernel_rfl)))
 (LT.ok_leaf (by kernel_rfl)))
 (LT.ok_leaf (by kernel_rfl)))
 (LT.ok_leaf (by kernel_rfl)))
 (LT.ok_leaf (by kernel_rfl)))
 (LT.ok_leaf (by kernel_rfl)))
 (LT.ok_nb (LT.ok_nb (LT.ok_nb (LT.ok_nb (LT.ok_nb (LT.ok_nb (LT.ok_nb (LT.ok_nb (LT.ok_nb (LT.ok_nb (LT.ok_nb (LT.ok_nb (LT.ok_leaf (by kernel_rfl))
 (LT.ok_leaf (by kernel_rfl)))
 (LT.ok_leaf (by kernel_rfl)))
 (LT.ok_leaf (by kernel_rfl)))
 (LT.ok_leaf (by kernel_rfl)))
 (LT.ok_leaf (by kernel_rfl)))
 (LT.ok_leaf (by kernel_rfl)))
 (LT.ok_leaf (by kernel_rfl)))
 (LT.ok_leaf (by kernel_rfl)))
 (LT.ok_leaf (by kernel_rfl)))
 (LT.ok_leaf (by kernel_rfl)))
 (LT.ok_leaf (by kernel_rfl)))
 (LT.ok_leaf (by kernel_rfl)))))
 (LT.ok_leaf (by kernel_rfl)))
theorem FloatNone_ok : SumT Tryd.prog phi 5 FloatNoneS := treeSum (t := FloatNoneT) (lf := 1000) (d := 50) FloatNoneC_ok (fun xs w => Tryd.call5 xs w)
 FloatNoneT_ok
 (by kernel_rfl)
 (by
  intro a0 h0 a1 h1 a2
  exact ⟨obl_nil (by kernel_rfl), by kernel_rfl⟩)
end Go.Proofs.YtdchnlmclngjmaaDoor
