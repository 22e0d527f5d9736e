/-
  ferryman/ferrymanref4.one: all its ways, printed by a program of this repo.
-/
import Derived.Test.YtndfcpkmchjncaaBase
namespace Go.Proofs.Ytndfcpkmchjncaa
open Go.Sx
set_option linter.unusedVariables false
set_option linter.unusedSimpArgs false
set_option maxRecDepth 100000
set_option maxHeartbeats 20000000
noncomputable def rhOneC : Ctx := ⟨tys, fns, (.e : Tr Sum)⟩
theorem rhOneC_ok : CtxT Try.prog phi rhOneC := ⟨tys_ok, fns_ok, SumsT.e, mix_ok⟩
noncomputable def rhOneR (ds : List D) : R (SV × St) := fnRun rhOneC 1000 50 73 (symArgs rhOneS.args 0) (st0 ds 1)
noncomputable def rhOneT : LT :=
 (.nb [] 0
 (.leaf [] (.w (.c (.lit (.int .u32 1)))))
 (.leaf [] (.w (.c (.lit (.int .u32 0))))))
theorem rhOneT_ok : LT.Ok rhOneR rhOneT [] [] :=
 (LT.ok_nb (LT.ok_leaf (by kernel_rfl))
 (LT.ok_leaf (by kernel_rfl)))
theorem rhOne_ok : SumT Try.prog phi 73 rhOneS := treeSum (t := rhOneT) (lf := 1000) (d := 50) rhOneC_ok (fun xs w => Try.call73 xs w)
 rhOneT_ok
 (by kernel_rfl)
 (by
  intro a0
  exact ⟨obl_nil (by kernel_rfl), by kernel_rfl⟩)
end Go.Proofs.Ytndfcpkmchjncaa
