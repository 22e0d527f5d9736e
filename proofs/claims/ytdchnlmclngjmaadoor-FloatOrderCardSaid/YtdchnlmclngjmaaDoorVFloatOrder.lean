/-
  ferryman/ferrymanlaw2.FloatOrder: all its ways, printed by a program of this repo.
-/
import Derived.Test.YtdchnlmclngjmaaDoorBase
import Derived.Test.YtdchnlmclngjmaaDoorHand
import Derived.Test.YtdchnlmclngjmaaDoorVfNeg
import Derived.Test.YtdchnlmclngjmaaDoorVfKind
import Derived.Test.YtdchnlmclngjmaaDoorVlwKnown
namespace Go.Proofs.YtdchnlmclngjmaaDoor
open Go.Sx
set_option linter.unusedVariables false
set_option linter.unusedSimpArgs false
set_option maxRecDepth 100000
set_option maxHeartbeats 20000000
noncomputable def FloatOrderC : Ctx := ⟨tys, fns, (((((((.e : Tr Sum).set 16 fAddS).set 19 fMulS).set 14 fCmpS).set 21 fNegS).set 12 fKindS).set 11 lwKnownS)⟩
theorem FloatOrderC_ok : CtxT Tryd.prog phi FloatOrderC := ⟨tys_ok, fns_ok, ((((((SumsT.e.set fAdd_ok).set fMul_ok).set fCmp_ok).set fNeg_ok).set fKind_ok).set lwKnown_ok), mix_ok⟩
noncomputable def FloatOrderR (ds : List D) : R (SV × St) := fnRun FloatOrderC 1000 50 7 (symArgs FloatOrderS.args 0) (st0 ds 2)
noncomputable def FloatOrderT : LT :=
 (.nb [.call 11 [] 2 [.rb]] 2
 (.nb [.call 12 [(.ivar .u64 0)] 3 [(.ri .i64)], .setB0 4 (.cmp .eql (.var 3) (.lit 4))] 4
 (.leaf [] (.w (.c (.lit (.bool true)))))
 (.nb [.call 12 [(.ivar .u64 1)] 5 [(.ri .i64)], .setB0 6 (.cmp .eql (.var 5) (.lit 4))] 6
 (.leaf [] (.w (.c (.lit (.bool true)))))
 (.nb [.call 14 [(.ivar .u64 0), (.ivar .u64 1)] 7 [.rb, .rb, .rb], .call 14 [(.ivar .u64 1), (.ivar .u64 0)] 10 [.rb, .rb, .rb], .call 21 [(.ivar .u64 1)] 13 [(.ri .u64)], .call 21 [(.ivar .u64 0)] 14 [(.ri .u64)], .call 14 [(.ivar .u64 13), (.ivar .u64 14)] 15 [.rb, .rb, .rb]] 7
 (.nb [] 9
 (.nb [] 12
 (.leaf [] (.w (.c (.lit (.bool false)))))
 (.leaf [] (.w (.c (.lit (.bool false))))))
 (.nb [] 12
 (.leaf [] (.w (.c (.lit (.bool false)))))
 (.nb [.setB0 18 (.all [(.bb (.lit true) (.var 10 false))])] 18
 (.nb [] 8
 (.leaf [] (.w (.c (.lit (.bool false)))))
 (.nb [] 11
 (.leaf [] (.w (.c (.lit (.bool false)))))
 (.nb [.setB0 19 (.all [(.bb (.var 17 false) (.lit false))])] 19
 (.nb [.call 16 [(.ivar .u64 0), (.ivar .u64 1)] 20 [(.ri .u64)], .call 16 [(.ivar .u64 1), (.ivar .u64 0)] 21 [(.ri .u64)], .setB0 22 (.cmp .eql (.var 20) (.var 21))] 22
 (.leaf [.call 19 [(.ivar .u64 0), (.ivar .u64 1)] 23 [(.ri .u64)], .call 19 [(.ivar .u64 1), (.ivar .u64 0)] 24 [(.ri .u64)], .setB0 25 (.cmp .eql (.var 23) (.var 24))] (.w (.c (.bvar 25 false))))
 (.leaf [] (.w (.c (.lit (.bool false))))))
 (.leaf [] (.w (.c (.lit (.bool false))))))))
 (.leaf [] (.w (.c (.lit (.bool false))))))))
 (.nb [] 9
 (.nb [] 12
 (.leaf [] (.w (.c (.lit (.bool false)))))
 (.nb [.setB0 18 (.all [(.bb (.lit false) (.var 10 false))])] 18
 (.nb [] 8
 (.leaf [] (.w (.c (.lit (.bool false)))))
 (.nb [] 11
 (.leaf [] (.w (.c (.lit (.bool false)))))
 (.nb [.setB0 19 (.all [(.bb (.var 17 false) (.lit true))])] 19
 (.nb [.call 16 [(.ivar .u64 0), (.ivar .u64 1)] 20 [(.ri .u64)], .call 16 [(.ivar .u64 1), (.ivar .u64 0)] 21 [(.ri .u64)], .setB0 22 (.cmp .eql (.var 20) (.var 21))] 22
 (.leaf [.call 19 [(.ivar .u64 0), (.ivar .u64 1)] 23 [(.ri .u64)], .call 19 [(.ivar .u64 1), (.ivar .u64 0)] 24 [(.ri .u64)], .setB0 25 (.cmp .eql (.var 23) (.var 24))] (.w (.c (.bvar 25 false))))
 (.leaf [] (.w (.c (.lit (.bool false))))))
 (.leaf [] (.w (.c (.lit (.bool false))))))))
 (.leaf [] (.w (.c (.lit (.bool false)))))))
 (.nb [] 12
 (.nb [.setB0 18 (.all [(.bb (.lit false) (.var 10 false))])] 18
 (.nb [] 8
 (.leaf [] (.w (.c (.lit (.bool false)))))
 (.nb [] 11
 (.leaf [] (.w (.c (.lit (.bool false)))))
 (.nb [.setB0 19 (.all [(.bb (.var 17 false) (.lit false))])] 19
 (.nb [.call 16 [(.ivar .u64 0), (.ivar .u64 1)] 20 [(.ri .u64)], .call 16 [(.ivar .u64 1), (.ivar .u64 0)] 21 [(.ri .u64)], .setB0 22 (.cmp .eql (.var 20) (.var 21))] 22
 (.leaf [.call 19 [(.ivar .u64 0), (.ivar .u64 1)] 23 [(.ri .u64)], .call 19 [(.ivar .u64 1), (.ivar .u64 0)] 24 [(.ri .u64)], .setB0 25 (.cmp .eql (.var 23) (.var 24))] (.w (.c (.bvar 25 false))))
 (.leaf [] (.w (.c (.lit (.bool false))))))
 (.leaf [] (.w (.c (.lit (.bool false))))))))
 (.leaf [] (.w (.c (.lit (.bool false))))))
 (.leaf [] (.w (.c (.lit (.bool false))))))))))
 (.leaf [] (.w (.c (.lit (.bool false))))))
theorem FloatOrderT_ok : LT.Ok FloatOrderR FloatOrderT [] [] :=
 (LT.ok_nb (LT.ok_nb (LT.ok_leaf (by kernel_rfl))
 (LT.ok_nb (LT.ok_leaf (by kernel_rfl))
 (LT.ok_nb (LT.ok_nb (LT.ok_nb (LT.ok_leaf (by kernel_rfl))
 (LT.ok_leaf (by kernel_rfl)))
 (LT.ok_nb (LT.ok_leaf (by kernel_rfl))
 (LT.ok_nb (LT.ok_nb (LT.ok_leaf (by kernel_rfl))
 (LT.ok_nb (LT.ok_leaf (by kernel_rfl))
 (LT.ok_nb (LT.ok_nb (LT.ok_leaf (by kernel_rfl))
 (LT.ok_leaf (by kernel_rfl)))
 (LT.ok_leaf (by kernel_rfl)))))
 (LT.ok_leaf (by kernel_rfl)))))
 (LT.ok_nb (LT.ok_nb (LT.ok_leaf (by kernel_rfl))
 (LT.ok_nb (LT.ok_nb (LT.ok_leaf (by kernel_rfl))
 (LT.ok_nb (LT.ok_leaf (by kernel_rfl))
 (LT.ok_nb (LT.ok_nb (LT.ok_leaf (by kernel_rfl))
 (LT.ok_leaf (by kernel_rfl)))
 (LT.ok_leaf (by kernel_rfl)))))
 (LT.ok_leaf (by kernel_rfl))))
 (LT.ok_nb (LT.ok_nb (LT.ok_nb (LT.ok_leaf (by kernel_rfl))
 (LT.ok_nb (LT.ok_leaf (by kernel_rfl))
 (LT.ok_nb (LT.ok_nb (LT.ok_leaf (by kernel_rfl))
 (LT.ok_leaf (by kernel_rfl)))
 (LT.ok_leaf (by kernel_rfl)))))
 (LT.ok_leaf (by kernel_rfl)))
 (LT.ok_leaf (by kernel_rfl)))))))
 (LT.ok_leaf (by kernel_rfl)))
theorem FloatOrder_ok : SumT Tryd.prog phi 7 FloatOrderS := treeSum (t := FloatOrderT) (lf := 1000) (d := 50) FloatOrderC_ok (fun xs w => Tryd.call7 xs w)
 FloatOrderT_ok
 (by kernel_rfl)
 (by
  intro a0 h0 a1 h1
  exact ⟨obl_nil (by kernel_rfl), by kernel_rfl⟩)
end Go.Proofs.YtdchnlmclngjmaaDoor
