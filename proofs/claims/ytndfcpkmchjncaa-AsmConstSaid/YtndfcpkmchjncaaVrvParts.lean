/-
  ferryman/rv.parts: all its ways, printed by a program of this repo.
-/
import Derived.Test.YtndfcpkmchjncaaBase
namespace Go.Proofs.Ytndfcpkmchjncaa
open Go.Sx
set_option linter.unusedVariables false
set_option linter.unusedSimpArgs false
set_option maxRecDepth 100000
set_option maxHeartbeats 20000000
noncomputable def rvPartsC : Ctx := ⟨tys, fns, (.e : Tr Sum)⟩
theorem rvPartsC_ok : CtxT Try.prog phi rvPartsC := ⟨tys_ok, fns_ok, SumsT.e, mix_ok⟩
noncomputable def rvPartsR (ds : List D) : R (SV × St) := fnRun rvPartsC 1000 50 83 (symArgs rvPartsS.args 0) (st0 ds 1)
noncomputable def rvPartsT : LT :=
 (.nb [.setB0 1 (.cmp .eql (.var 0) (.lit 1))] 1
 (.leaf [] (.w (.agg [(.lit (.bool true)), (.lit (.bool true)), (.lit (.bool true))])))
 (.nb [.setB0 2 (.cmp .eql (.var 0) (.lit 2))] 2
 (.leaf [] (.w (.agg [(.lit (.bool true)), (.lit (.bool true)), (.lit (.bool false))])))
 (.nb [.setB0 3 (.cmp .eql (.var 0) (.lit 3))] 3
 (.leaf [] (.w (.agg [(.lit (.bool true)), (.lit (.bool true)), (.lit (.bool false))])))
 (.nb [.setB0 4 (.cmp .eql (.var 0) (.lit 4))] 4
 (.leaf [] (.w (.agg [(.lit (.bool true)), (.lit (.bool true)), (.lit (.bool false))])))
 (.nb [.setB0 5 (.cmp .eql (.var 0) (.lit 5))] 5
 (.leaf [] (.w (.agg [(.lit (.bool false)), (.lit (.bool true)), (.lit (.bool true))])))
 (.nb [.setB0 6 (.cmp .eql (.var 0) (.lit 6))] 6
 (.leaf [] (.w (.agg [(.lit (.bool false)), (.lit (.bool true)), (.lit (.bool true))])))
 (.nb [.setB0 7 (.cmp .eql (.var 0) (.lit 7))] 7
 (.leaf [] (.w (.agg [(.lit (.bool true)), (.lit (.bool false)), (.lit (.bool false))])))
 (.nb [.setB0 8 (.cmp .eql (.var 0) (.lit 8))] 8
 (.leaf [] (.w (.agg [(.lit (.bool true)), (.lit (.bool false)), (.lit (.bool false))])))
 (.leaf [] (.w (.agg [(.lit (.bool false)), (.lit (.bool false)), (.lit (.bool false))])))))))))))
theorem rvPartsT_ok : LT.Ok rvPartsR rvPartsT [] [] :=
 (LT.ok_nb (LT.ok_leaf (by kernel_rfl))
 (LT.ok_nb (LT.ok_leaf (by kernel_rfl))
 (LT.ok_nb (LT.ok_leaf (by kernel_rfl))
 (LT.ok_nb (LT.ok_leaf (by kernel_rfl))
 (LT.ok_nb (LT.ok_leaf (by kernel_rfl))
 (LT.ok_nb (LT.ok_leaf (by kernel_rfl))
 (LT.ok_nb (LT.ok_leaf (by kernel_rfl))
 (LT.ok_nb (LT.ok_leaf (by kernel_rfl))
 (LT.ok_leaf (by kernel_rfl))))))))))
theorem rvParts_ok : SumT Try.prog phi 83 rvPartsS := treeSum (t := rvPartsT) (lf := 1000) (d := 50) rvPartsC_ok (fun xs w => Try.call83 xs w)
 rvPartsT_ok
 (by kernel_rfl)
 (by
  intro a0 h0
  exact ⟨obl_nil (by kernel_rfl), by kernel_rfl⟩)
end Go.Proofs.Ytndfcpkmchjncaa
