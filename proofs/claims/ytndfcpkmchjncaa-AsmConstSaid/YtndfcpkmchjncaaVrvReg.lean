/-
  ferryman/rv.register: all its ways, printed by a program of this repo.
-/
import Derived.Test.YtndfcpkmchjncaaBase
namespace Go.Proofs.Ytndfcpkmchjncaa
open Go.Sx
set_option linter.unusedVariables false
set_option linter.unusedSimpArgs false
set_option maxRecDepth 100000
set_option maxHeartbeats 20000000
noncomputable def rvRegC : Ctx := ⟨tys, fns, (.e : Tr Sum)⟩
theorem rvRegC_ok : CtxT Try.prog phi rvRegC := ⟨tys_ok, fns_ok, SumsT.e, mix_ok⟩
noncomputable def rvRegR (ds : List D) : R (SV × St) := fnRun rvRegC 1000 50 98 (symArgs rvRegS.args 0) (st0 ds 2)
noncomputable def rvRegT : LT :=
 (.nb [.setB0 2 (.cmp .eql (.var 0) (.lit 0))] 2
 (.leaf [] (.w (.c (.lit (.bool true)))))
 (.nb [] 1
 (.nb [.setB0 3 (.cmp .gtr (.var 0) (.lit 0))] 3
 (.leaf [.setB0 4 (.cmp .lss (.var 0) (.lit 32))] (.w (.c (.bvar 4 false))))
 (.leaf [] (.w (.c (.lit (.bool false))))))
 (.leaf [] (.w (.c (.lit (.bool false)))))))
theorem rvRegT_ok : LT.Ok rvRegR rvRegT [] [] :=
 (LT.ok_nb (LT.ok_leaf (by kernel_rfl))
 (LT.ok_nb (LT.ok_nb (LT.ok_leaf (by kernel_rfl))
 (LT.ok_leaf (by kernel_rfl)))
 (LT.ok_leaf (by kernel_rfl))))
theorem rvReg_ok : SumT Try.prog phi 98 rvRegS := treeSum (t := rvRegT) (lf := 1000) (d := 50) rvRegC_ok (fun xs w => Try.call98 xs w)
 rvRegT_ok
 (by kernel_rfl)
 (by
  intro a0 h0 a1
  exact ⟨obl_nil (by kernel_rfl), by kernel_rfl⟩)
end Go.Proofs.Ytndfcpkmchjncaa
