/-
  ferryman/asm.register: all its ways, printed by a program of this repo.
-/
import Derived.Test.YtndfcpkmchjncaaBase
namespace Go.Proofs.Ytndfcpkmchjncaa
open Go.Sx
set_option linter.unusedVariables false
set_option linter.unusedSimpArgs false
set_option maxRecDepth 100000
set_option maxHeartbeats 20000000
noncomputable def asRegC : Ctx := ⟨tys, fns, (.e : Tr Sum)⟩
theorem asRegC_ok : CtxT Try.prog phi asRegC := ⟨tys_ok, fns_ok, SumsT.e, mix_ok⟩
noncomputable def asRegR (ds : List D) : R (SV × St) := fnRun asRegC 1000 50 38 (symArgs asRegS.args 0) (st0 ds 1)
noncomputable def asRegT : LT :=
 (.nb [.setB0 1 (.cmp .geq (.var 0) (.lit 1))] 1
 (.leaf [.setB0 2 (.cmp .lss (.var 0) (.lit 32))] (.w (.c (.bvar 2 false))))
 (.leaf [] (.w (.c (.lit (.bool false))))))
theorem asRegT_ok : LT.Ok asRegR asRegT [] [] :=
 (LT.ok_nb (LT.ok_leaf (by kernel_rfl))
 (LT.ok_leaf (by kernel_rfl)))
theorem asReg_ok : SumT Try.prog phi 38 asRegS := treeSum (t := asRegT) (lf := 1000) (d := 50) asRegC_ok (fun xs w => Try.call38 xs w)
 asRegT_ok
 (by kernel_rfl)
 (by
  intro a0 h0
  exact ⟨obl_nil (by kernel_rfl), by kernel_rfl⟩)
end Go.Proofs.Ytndfcpkmchjncaa
