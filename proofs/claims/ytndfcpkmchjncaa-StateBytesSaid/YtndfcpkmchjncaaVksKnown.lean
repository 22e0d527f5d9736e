/-
  ferryman/ferrymanlaw7.known: all its ways, printed by a program of this repo.
-/
import Derived.Test.YtndfcpkmchjncaaBase
namespace Go.Proofs.Ytndfcpkmchjncaa
open Go.Sx
set_option linter.unusedVariables false
set_option linter.unusedSimpArgs false
set_option maxRecDepth 100000
set_option maxHeartbeats 20000000
noncomputable def ksKnownC : Ctx := ⟨tys, fns, (.e : Tr Sum)⟩
theorem ksKnownC_ok : CtxT Try.prog phi ksKnownC := ⟨tys_ok, fns_ok, SumsT.e, mix_ok⟩
noncomputable def ksKnownR (ds : List D) : R (SV × St) := fnRun ksKnownC 1000 50 8 (symArgs ksKnownS.args 0) (st0 ds 0)
noncomputable def ksKnownT : LT :=
 (.leaf [] (.w (.c (.lit (.bool true)))))
theorem ksKnownT_ok : LT.Ok ksKnownR ksKnownT [] [] :=
 (LT.ok_leaf (by kernel_rfl))
theorem ksKnown_ok : SumT Try.prog phi 8 ksKnownS := treeSum (t := ksKnownT) (lf := 1000) (d := 50) ksKnownC_ok (fun xs w => Try.call8 xs w)
 ksKnownT_ok
 (by kernel_rfl)
 (by
  exact ⟨obl_nil (by kernel_rfl), by kernel_rfl⟩)
end Go.Proofs.Ytndfcpkmchjncaa
