/-
  ferryman/asm.halves: all its ways, printed by a program of this repo.
-/
import Derived.Test.YtndfcpkmchjncaaBase
import Derived.Test.YtndfcpkmchjncaaHand
namespace Go.Proofs.Ytndfcpkmchjncaa
open Go.Sx
set_option linter.unusedVariables false
set_option linter.unusedSimpArgs false
set_option maxRecDepth 100000
set_option maxHeartbeats 20000000
noncomputable def asHalvesC : Ctx := ⟨tys, fns, ((.e : Tr Sum).set 67 btSign12S)⟩
theorem asHalvesC_ok : CtxT Try.prog phi asHalvesC := ⟨tys_ok, fns_ok, (SumsT.e.set btSign12_ok), mix_ok⟩
noncomputable def asHalvesR (ds : List D) : R (SV × St) := fnRun asHalvesC 1000 50 39 (symArgs asHalvesS.args 0) (st0 ds 1)
noncomputable def asHalvesT : LT :=
 (.leaf [.call 67 [(.ivar .u32 0)] 1 [(.ri .u32)], .setI0 2 (.bin .sub .u32 (.var 0) (.var 1)), .setI0 3 (.conv .i32 (.var 2)), .setI0 4 (.conv .i32 (.var 1))] (.tup [(.c (.ivar .i32 3)), (.c (.ivar .i32 4))]))
theorem asHalvesT_ok : LT.Ok asHalvesR asHalvesT [] [] :=
 (LT.ok_leaf (by kernel_rfl))
theorem asHalves_ok : SumT Try.prog phi 39 asHalvesS := treeSum (t := asHalvesT) (lf := 1000) (d := 50) asHalvesC_ok (fun xs w => Try.call39 xs w)
 asHalvesT_ok
 (by kernel_rfl)
 (by
  intro a0 h0
  exact ⟨obl_nil (by kernel_rfl), by kernel_rfl⟩)
end Go.Proofs.Ytndfcpkmchjncaa
