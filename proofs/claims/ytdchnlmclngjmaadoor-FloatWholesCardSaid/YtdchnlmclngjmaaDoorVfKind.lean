/-
  ferryman/float.Kind: all its ways, printed by a program of this repo.
-/
import Derived.Test.YtdchnlmclngjmaaDoorBase
import Derived.Test.YtdchnlmclngjmaaDoorVfAbs
namespace Go.Proofs.YtdchnlmclngjmaaDoor
open Go.Sx
set_option linter.unusedVariables false
set_option linter.unusedSimpArgs false
set_option maxRecDepth 100000
set_option maxHeartbeats 20000000
noncomputable def fKindC : Ctx := ⟨tys, fns, ((.e : Tr Sum).set 22 fAbsS)⟩
theorem fKindC_ok : CtxT Tryd.prog phi fKindC := ⟨tys_ok, fns_ok, (SumsT.e.set fAbs_ok), mix_ok⟩
noncomputable def fKindR (ds : List D) : R (SV × St) := fnRun fKindC 1000 50 12 (symArgs fKindS.args 0) (st0 ds 1)
noncomputable def fKindT : LT :=
 (.nb [.call 22 [(.ivar .u64 0)] 1 [(.ri .u64)], .setI0 2 (.bin .shr .u64 (.var 1) (.lit 52)), .setI0 3 (.bin .shl .u64 (.var 0) (.lit 12)), .setB0 4 (.cmp .eql (.var 3) (.lit 0))] 4
 (.nb [.setB0 5 (.cmp .eql (.var 2) (.lit 0))] 5
 (.leaf [] (.w (.c (.lit (.int .i64 0)))))
 (.nb [.setB0 6 (.cmp .eql (.var 2) (.lit 2047))] 6
 (.leaf [] (.w (.c (.lit (.int .i64 3)))))
 (.leaf [] (.w (.c (.lit (.int .i64 2)))))))
 (.nb [.setB0 5 (.cmp .eql (.var 2) (.lit 0))] 5
 (.leaf [] (.w (.c (.lit (.int .i64 1)))))
 (.nb [.setB0 6 (.cmp .eql (.var 2) (.lit 2047))] 6
 (.leaf [] (.w (.c (.lit (.int .i64 4)))))
 (.leaf [] (.w (.c (.lit (.int .i64 2))))))))
theorem fKindT_ok : LT.Ok fKindR fKindT [] [] :=
 (LT.ok_nb (LT.ok_nb (LT.ok_leaf (by kernel_rfl))
 (LT.ok_nb (LT.ok_leaf (by kernel_rfl))
 (LT.ok_leaf (by kernel_rfl))))
 (LT.ok_nb (LT.ok_leaf (by kernel_rfl))
 (LT.ok_nb (LT.ok_leaf (by kernel_rfl))
 (LT.ok_leaf (by kernel_rfl)))))
theorem fKind_ok : SumT Tryd.prog phi 12 fKindS := treeSum (t := fKindT) (lf := 1000) (d := 50) fKindC_ok (fun xs w => Tryd.call12 xs w)
 fKindT_ok
 (by kernel_rfl)
 (by
  intro a0 h0
  exact ⟨obl_nil (by kernel_rfl), by kernel_rfl⟩)
end Go.Proofs.YtdchnlmclngjmaaDoor
