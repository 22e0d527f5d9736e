/-
  ferryman/float.Abs: all its ways, printed by a program of this repo.
-/
import Derived.Test.YtdchnlmclngjmaaDoorBase
namespace Go.Proofs.YtdchnlmclngjmaaDoor
open Go.Sx
set_option linter.unusedVariables false
set_option linter.unusedSimpArgs false
set_option maxRecDepth 100000
set_option maxHeartbeats 20000000
noncomputable def fAbsC : Ctx := ⟨tys, fns, (.e : Tr Sum)⟩
theorem fAbsC_ok : CtxT Tryd.prog phi fAbsC := ⟨tys_ok, fns_ok, SumsT.e, mix_ok⟩
noncomputable def fAbsR (ds : List D) : R (SV × St) := fnRun fAbsC 1000 50 22 (symArgs fAbsS.args 0) (st0 ds 1)
noncomputable def fAbsT : LT :=
 (.leaf [.setI0 1 (.bin .andNot .u64 (.var 0) (.lit 9223372036854775808))] (.w (.c (.ivar .u64 1))))
theorem fAbsT_ok : LT.Ok fAbsR fAbsT [] [] :=
 (LT.ok_leaf (by kernel_rfl))
theorem fAbs_ok : SumT Tryd.prog phi 22 fAbsS := treeSum (t := fAbsT) (lf := 1000) (d := 50) fAbsC_ok (fun xs w => Tryd.call22 xs w)
 fAbsT_ok
 (by kernel_rfl)
 (by
  intro a0 h0
  exact ⟨obl_nil (by kernel_rfl), by kernel_rfl⟩)
end Go.Proofs.YtdchnlmclngjmaaDoor
