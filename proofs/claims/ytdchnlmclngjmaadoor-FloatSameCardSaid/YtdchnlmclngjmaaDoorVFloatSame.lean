/-
  ferryman/ferrymanlaw2.FloatSame: all its ways, printed by a program of this repo.
-/
import Derived.Test.YtdchnlmclngjmaaDoorBase
import Derived.Test.YtdchnlmclngjmaaDoorHand
import Derived.Test.YtdchnlmclngjmaaDoorVfNeg
import Derived.Test.YtdchnlmclngjmaaDoorVfAbs
import Derived.Test.YtdchnlmclngjmaaDoorVfKind
import Derived.Test.YtdchnlmclngjmaaDoorVlwKnown
namespace Go.Proofs.YtdchnlmclngjmaaDoor
open Go.Sx
set_option linter.unusedVariables false
set_option linter.unusedSimpArgs false
set_option maxRecDepth 100000
set_option maxHeartbeats 20000000
noncomputable def FloatSameC : Ctx := ⟨tys, fns, (((((((((.e : Tr Sum).set 16 fAddS).set 18 fSubS).set 19 fMulS).set 20 fDivS).set 21 fNegS).set 22 fAbsS).set 12 fKindS).set 11 lwKnownS)⟩
theorem FloatSameC_ok : CtxT Tryd.prog phi FloatSameC := ⟨tys_ok, fns_ok, ((((((((SumsT.e.set fAdd_ok).set fSub_ok).set fMul_ok).set fDiv_ok).set fNeg_ok).set fAbs_ok).set fKind_ok).set lwKnown_ok), mix_ok⟩
noncomputable def FloatSameR (ds : List D) : R (SV × St) := fnRun FloatSameC 1000 50 8 (symArgs FloatSameS.args 0) (st0 ds 1)
noncomputable def FloatSameT : LT :=
 (.nb [.call 11 [] 1 [.rb]] 1
 (.nb [.call 12 [(.ivar .u64 0)] 2 [(.ri .i64)], .setB0 3 (.cmp .eql (.var 2) (.lit 4))] 3
 (.leaf [] (.w (.c (.lit (.bool true)))))
 (.nb [.call 19 [(.ivar .u64 0), (.lit (.int .u64 4607182418800017408))] 4 [(.ri .u64)], .setB0 5 (.cmp .eql (.var 4) (.var 0))] 5
 (.nb [.call 20 [(.ivar .u64 0), (.lit (.int .u64 4607182418800017408))] 6 [(.ri .u64)], .setB0 7 (.cmp .eql (.var 6) (.var 0))] 7
 (.nb [.call 18 [(.ivar .u64 0), (.lit (.int .u64 0))] 8 [(.ri .u64)], .setB0 9 (.cmp .eql (.var 8) (.var 0))] 9
 (.nb [.call 19 [(.ivar .u64 0), (.lit (.int .u64 4611686018427387904))] 10 [(.ri .u64)], .call 16 [(.ivar .u64 0), (.ivar .u64 0)] 11 [(.ri .u64)], .setB0 12 (.cmp .eql (.var 10) (.var 11))] 12
 (.nb [.call 21 [(.ivar .u64 0)] 13 [(.ri .u64)], .call 22 [(.ivar .u64 13)] 14 [(.ri .u64)], .call 22 [(.ivar .u64 0)] 15 [(.ri .u64)], .setB0 16 (.cmp .eql (.var 14) (.var 15))] 16
 (.leaf [.call 21 [(.ivar .u64 0)] 17 [(.ri .u64)], .setB0 18 (.cmp .neq (.var 17) (.var 0))] (.w (.c (.bvar 18 false))))
 (.leaf [] (.w (.c (.lit (.bool false))))))
 (.leaf [] (.w (.c (.lit (.bool false))))))
 (.leaf [] (.w (.c (.lit (.bool false))))))
 (.leaf [] (.w (.c (.lit (.bool false))))))
 (.leaf [] (.w (.c (.lit (.bool false)))))))
 (.leaf [] (.w (.c (.lit (.bool false))))))
theorem FloatSameT_ok : LT.Ok FloatSameR FloatSameT [] [] :=
 (LT.ok_nb (LT.ok_nb (LT.ok_leaf (by kernel_rfl))
 (LT.ok_nb (LT.ok_nb (LT.ok_nb (LT.ok_nb (LT.ok_nb (LT.ok_leaf (by kernel_rfl))
 (LT.ok_leaf (by kernel_rfl)))
 (LT.ok_leaf (by kernel_rfl)))
 (LT.ok_leaf (by kernel_rfl)))
 (LT.ok_leaf (by kernel_rfl)))
 (LT.ok_leaf (by kernel_rfl))))
 (LT.ok_leaf (by kernel_rfl)))
theorem FloatSame_ok : SumT Tryd.prog phi 8 FloatSameS := treeSum (t := FloatSameT) (lf := 1000) (d := 50) FloatSameC_ok (fun xs w => Tryd.call8 xs w)
 FloatSameT_ok
 (by kernel_rfl)
 (by
  intro a0 h0
  exact ⟨obl_nil (by kernel_rfl), by kernel_rfl⟩)
end Go.Proofs.YtdchnlmclngjmaaDoor
