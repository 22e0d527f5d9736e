/-
  ferryman/ferrymanlaw5.known: all its ways, printed by a program of this repo.
-/
import Derived.Test.YtndfcpkmchjncaaBase
namespace Go.Proofs.Ytndfcpkmchjncaa
open Go.Sx
set_option linter.unusedVariables false
set_option linter.unusedSimpArgs false
set_option maxRecDepth 100000
set_option maxHeartbeats 20000000
noncomputable def kaKnownC : Ctx := ⟨tys, fns, (.e : Tr Sum)⟩
theorem kaKnownC_ok : CtxT Try.prog phi kaKnownC := ⟨tys_ok, fns_ok, SumsT.e, mix_ok⟩
noncomputable def kaKnownR (ds : List D) : R (SV × St) := fnRun kaKnownC 1000 50 11 (symArgs kaKnownS.args 0) (st0 ds 0)
noncomputable def kaKnownT : LT :=
 (.leaf [] (.w (.c (.lit (.bool true)))))
theorem kaKnownT_ok : LT.Ok kaKnownR kaKnownT [] [] :=
 (LT.ok_leaf (by kernel_rfl))
theorem kaKnown_ok : SumT Try.prog phi 11 kaKnownS := treeSum (t := kaKnownT) (lf := 1000) (d := 50) kaKnownC_ok (fun xs w => Try.call11 xs w)
 kaKnownT_ok
 (by kernel_rfl)
 (by
  exact ⟨obl_nil (by kernel_rfl), by kernel_rfl⟩)
end Go.Proofs.Ytndfcpkmchjncaa
