/-
  ferryman/ferrymanlaw5.known: all its ways, printed by a program of this repo.
-/
import Derived.Test.YtdgilmobljbmcaaBase
namespace Go.Proofs.Ytdgilmobljbmcaa
open Go.Sx
set_option linter.unusedVariables false
set_option linter.unusedSimpArgs false
set_option maxRecDepth 100000
noncomputable def lwKnownC : Ctx := ⟨tys, fns, (.e : Tr Sum)⟩
theorem lwKnownC_ok : CtxT Try.prog phi lwKnownC := ⟨tys_ok, fns_ok, SumsT.e, mix_ok⟩
noncomputable def lwKnownR (ds : List D) : R (SV × St) := fnRun lwKnownC 1000 50 7 (symArgs lwKnownS.args 0) (st0 ds 0)
noncomputable def lwKnownT : LT :=
 (.leaf [] (.w (.c (.lit (.bool true)))))
theorem lwKnownT_ok : LT.Ok lwKnownR lwKnownT [] [] :=
 (LT.ok_leaf (by kernel_rfl))
theorem lwKnown_ok : SumT Try.prog phi 7 lwKnownS := treeSum (t := lwKnownT) (lf := 1000) (d := 50) lwKnownC_ok (fun xs w => Try.call7 xs w)
 lwKnownT_ok
 (by kernel_rfl)
 (by
  exact ⟨obl_nil (by kernel_rfl), by kernel_rfl⟩)
end Go.Proofs.Ytdgilmobljbmcaa
