/-
  ferryman/state.Reg8: all its ways, printed by a program of this repo.
-/
import Derived.Test.YtndfcpkmchjncaaBase
import Derived.Test.YtndfcpkmchjncaaHand
import Derived.Test.YtndfcpkmchjncaaStQ
namespace Go.Proofs.Ytndfcpkmchjncaa
open Go.Sx
set_option linter.unusedVariables false
set_option linter.unusedSimpArgs false
set_option maxRecDepth 100000
set_option maxHeartbeats 20000000
noncomputable def stRegC : Ctx := ⟨tys, fns, ((.e : Tr Sum).set 33 btFieldS)⟩
theorem stRegC_ok : CtxT Try.prog phi stRegC := ⟨tys_ok, fns_ok, (SumsT.e.set btField_ok), mix_ok⟩
noncomputable def stRegR (ds : List D) : R (SV × St) := fnRun stRegC 1000 50 9 (symArgs stRegS.args 0) (st0 ds 18)
noncomputable def stRegT : LT :=
 (.ni [.setI0 18 (.bin .rem .i64 (.var 17) (.lit 8)), .setI0 19 (.bin .add .i64 (.var 18) (.lit 8)), .setI0 20 (.bin .rem .i64 (.var 19) (.lit 8)), .setI0 21 (.bin .rem .i64 (.var 20) (.lit 4))] 21 0
 (.leaf [.setI0 22 (.bin .quo .i64 (.var 20) (.lit 4)), .setI0 23 (.bin .mul .i64 (.var 22) (.lit 8)), .call 33 [(.ivar .u32 0), (.ivar .i64 23), (.lit (.int .i64 8))] 24 [(.ri .u32)]] (.w (.c (.ivar .u32 24))))
 (.ni [] 21 1
 (.leaf [.setI0 22 (.bin .quo .i64 (.var 20) (.lit 4)), .setI0 23 (.bin .mul .i64 (.var 22) (.lit 8)), .call 33 [(.ivar .u32 1), (.ivar .i64 23), (.lit (.int .i64 8))] 24 [(.ri .u32)]] (.w (.c (.ivar .u32 24))))
 (.ni [] 21 2
 (.leaf [.setI0 22 (.bin .quo .i64 (.var 20) (.lit 4)), .setI0 23 (.bin .mul .i64 (.var 22) (.lit 8)), .call 33 [(.ivar .u32 2), (.ivar .i64 23), (.lit (.int .i64 8))] 24 [(.ri .u32)]] (.w (.c (.ivar .u32 24))))
 (.ni [] 21 3
 (.leaf [.setI0 22 (.bin .quo .i64 (.var 20) (.lit 4)), .setI0 23 (.bin .mul .i64 (.var 22) (.lit 8)), .call 33 [(.ivar .u32 3), (.ivar .i64 23), (.lit (.int .i64 8))] 24 [(.ri .u32)]] (.w (.c (.ivar .u32 24))))
 (.dead [])))))
theorem stRegT_ok : LT.Ok stRegR stRegT [] [] :=
 (LT.ok_ni (LT.ok_leaf (by kernel_rfl))
 (LT.ok_ni (LT.ok_leaf (by kernel_rfl))
 (LT.ok_ni (LT.ok_leaf (by kernel_rfl))
 (LT.ok_ni (LT.ok_leaf (by kernel_rfl))
 LT.ok_dead))))
theorem stReg_ok : SumT Try.prog phi 9 stRegS := treeSum (t := stRegT) (lf := 1000) (d := 50) stRegC_ok (fun xs w => Try.call9 xs w)
 stRegT_ok
 (by kernel_rfl)
 (by
  intro a0 h0 a1 h1 a2 h2 a3 h3 a4 h4 a5 h5 a6 h6 a7 h7 a8 h8 a9 a10 a11 a12 a13 a14 a15 a16 h16 a17 h17
  exact ⟨obl_list (m := [(((ibin .rem .i64 (ibin .rem .i64 (ibin .add .i64 (ibin .rem .i64 a17 8) 8) 8) 4) ≠ 0) → (((ibin .rem .i64 (ibin .rem .i64 (ibin .add .i64 (ibin .rem .i64 a17 8) 8) 8) 4) ≠ 1) → (((ibin .rem .i64 (ibin .rem .i64 (ibin .add .i64 (ibin .rem .i64 a17 8) 8) 8) 4) ≠ 2) → (((ibin .rem .i64 (ibin .rem .i64 (ibin .add .i64 (ibin .rem .i64 a17 8) 8) 8) 4) ≠ 3) → False))))]) (by kernel_rfl) (by obtain ⟨m0, m1⟩ := m8 a17; revert m0 m1; generalize ibin .rem .i64 (ibin .add .i64 (ibin .rem .i64 a17 8) 8) 8 = m; intro m0 m1; have hm : m = 0 ∨ m = 1 ∨ m = 2 ∨ m = 3 ∨ m = 4 ∨ m = 5 ∨ m = 6 ∨ m = 7 := (by omega); clear m0 m1; (rcases hm with rfl | rfl | rfl | rfl | rfl | rfl | rfl | rfl) <;> (simp only [allL]; decide +kernel)), by kernel_rfl⟩)
end Go.Proofs.Ytndfcpkmchjncaa
