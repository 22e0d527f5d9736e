/-
  ferryman/float.Neg: all its ways, printed by a program of this repo.
-/
import Derived.Test.YtdchnlmclngjmaaDoorBase
namespace Go.Proofs.YtdchnlmclngjmaaDoor
open Go.Sx
set_option linter.unusedVariables false
set_option linter.unusedSimpArgs false
set_option maxRecDepth 100000
set_option maxHeartbeats 20000000
noncomputable def fNegC : Ctx := ⟨tys, fns, (.e : Tr Sum)⟩
theorem fNegC_ok : CtxT Tryd.prog phi fNegC := ⟨tys_ok, fns_ok, SumsT.e, mix_ok⟩
noncomputable def fNegR (ds : List D) : R (SV × St) := fnRun fNegC 1000 50 21 (symArgs fNegS.args 0) (st0 ds 1)
noncomputable def fNegT : LT :=
 (.leaf [.setI0 1 (.bin .xor .u64 (.var 0) (.lit 9223372036854775808))] (.w (.c (.ivar .u64 1))))
theorem fNegT_ok : LT.Ok fNegR fNegT [] [] :=
 (LT.ok_leaf (by kernel_rfl))
theorem fNeg_ok : SumT Tryd.prog phi 21 fNegS := treeSum (t := fNegT) (lf := 1000) (d := 50) fNegC_ok (fun xs w => Tryd.call21 xs w)
 fNegT_ok
 (by kernel_rfl)
 (by
  intro a0 h0
  exact ⟨obl_nil (by kernel_rfl), by kernel_rfl⟩)
end Go.Proofs.YtdchnlmclngjmaaDoor
