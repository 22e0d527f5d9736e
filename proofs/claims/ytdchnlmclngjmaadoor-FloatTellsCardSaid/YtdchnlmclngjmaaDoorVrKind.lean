/-
  ferryman/ferrymanref2.Kind: all its ways, printed by a program of this repo.
-/
import Derived.Test.YtdchnlmclngjmaaDoorBase
namespace Go.Proofs.YtdchnlmclngjmaaDoor
open Go.Sx
set_option linter.unusedVariables false
set_option linter.unusedSimpArgs false
set_option maxRecDepth 100000
set_option maxHeartbeats 20000000
noncomputable def rKindC : Ctx := ⟨tys, fns, (.e : Tr Sum)⟩
theorem rKindC_ok : CtxT Tryd.prog phi rKindC := ⟨tys_ok, fns_ok, SumsT.e, mix_ok⟩
noncomputable def rKindR (ds : List D) : R (SV × St) := fnRun rKindC 1000 50 23 (symArgs rKindS.args 0) (st0 ds 1)
noncomputable def rKindT : LT :=
 (.nb [.setI0 1 (.bin .shl .u64 (.var 0) (.lit 1)), .setI0 2 (.bin .shr .u64 (.var 1) (.lit 1)), .setB0 3 (.cmp .eql (.var 2) (.lit 0))] 3
 (.leaf [] (.w (.c (.lit (.int .i64 0)))))
 (.nb [.setB0 4 (.cmp .lss (.var 2) (.lit 4503599627370496))] 4
 (.leaf [] (.w (.c (.lit (.int .i64 1)))))
 (.nb [.setB0 5 (.cmp .lss (.var 2) (.lit 9218868437227405312))] 5
 (.leaf [] (.w (.c (.lit (.int .i64 2)))))
 (.nb [.setB0 6 (.cmp .eql (.var 2) (.lit 9218868437227405312))] 6
 (.leaf [] (.w (.c (.lit (.int .i64 3)))))
 (.leaf [] (.w (.c (.lit (.int .i64 4)))))))))
theorem rKindT_ok : LT.Ok rKindR rKindT [] [] :=
 (LT.ok_nb (LT.ok_leaf (by kernel_rfl))
 (LT.ok_nb (LT.ok_leaf (by kernel_rfl))
 (LT.ok_nb (LT.ok_leaf (by kernel_rfl))
 (LT.ok_nb (LT.ok_leaf (by kernel_rfl))
 (LT.ok_leaf (by kernel_rfl))))))
theorem rKind_ok : SumT Tryd.prog phi 23 rKindS := treeSum (t := rKindT) (lf := 1000) (d := 50) rKindC_ok (fun xs w => Tryd.call23 xs w)
 rKindT_ok
 (by kernel_rfl)
 (by
  intro a0 h0
  exact ⟨obl_nil (by kernel_rfl), by kernel_rfl⟩)
end Go.Proofs.YtdchnlmclngjmaaDoor
