/-
  ferryman/rv.number: all its ways, printed by a program of this repo.
-/
import Derived.Test.YtndfcpkmchjncaaBase
import Derived.Test.YtndfcpkmchjncaaHand
namespace Go.Proofs.Ytndfcpkmchjncaa
open Go.Sx
set_option linter.unusedVariables false
set_option linter.unusedSimpArgs false
set_option maxRecDepth 100000
set_option maxHeartbeats 20000000
noncomputable def rvNumC : Ctx := ⟨tys, fns, ((.e : Tr Sum).set 97 btSignedS)⟩
theorem rvNumC_ok : CtxT Try.prog phi rvNumC := ⟨tys_ok, fns_ok, (SumsT.e.set btSigned_ok), mix_ok⟩
noncomputable def rvNumR (ds : List D) : R (SV × St) := fnRun rvNumC 1000 50 99 (symArgs rvNumS.args 0) (st0 ds 2)
noncomputable def rvNumT : LT :=
 (.nb [.setB0 2 (.cmp .eql (.var 0) (.lit 2))] 2
 (.leaf [.setI0 3 (.conv .u32 (.var 1)), .call 97 [(.ivar .u32 3), (.lit (.int .i64 12))] 4 [(.ri .i32)], .setB0 5 (.cmp .eql (.var 4) (.var 1))] (.w (.c (.bvar 5 false))))
 (.nb [.setB0 3 (.cmp .eql (.var 0) (.lit 3))] 3
 (.leaf [.setI0 4 (.conv .u32 (.var 1)), .call 97 [(.ivar .u32 4), (.lit (.int .i64 12))] 5 [(.ri .i32)], .setB0 6 (.cmp .eql (.var 5) (.var 1))] (.w (.c (.bvar 6 false))))
 (.nb [.setB0 4 (.cmp .eql (.var 0) (.lit 5))] 4
 (.leaf [.setI0 5 (.conv .u32 (.var 1)), .call 97 [(.ivar .u32 5), (.lit (.int .i64 12))] 6 [(.ri .i32)], .setB0 7 (.cmp .eql (.var 6) (.var 1))] (.w (.c (.bvar 7 false))))
 (.nb [.setB0 5 (.cmp .eql (.var 0) (.lit 4))] 5
 (.nb [.setB0 6 (.cmp .geq (.var 1) (.lit 0))] 6
 (.leaf [.setB0 7 (.cmp .lss (.var 1) (.lit 32))] (.w (.c (.bvar 7 false))))
 (.leaf [] (.w (.c (.lit (.bool false))))))
 (.nb [.setB0 6 (.cmp .eql (.var 0) (.lit 6))] 6
 (.nb [.setI0 7 (.conv .u32 (.var 1)), .call 97 [(.ivar .u32 7), (.lit (.int .i64 13))] 8 [(.ri .i32)], .setB0 9 (.cmp .eql (.var 8) (.var 1))] 9
 (.leaf [.setI0 10 (.bin .and .i32 (.var 1) (.lit 1)), .setB0 11 (.cmp .eql (.var 10) (.lit 0))] (.w (.c (.bvar 11 false))))
 (.leaf [] (.w (.c (.lit (.bool false))))))
 (.nb [.setB0 7 (.cmp .eql (.var 0) (.lit 7))] 7
 (.leaf [.setI0 8 (.bin .and .i32 (.var 1) (.lit 4095)), .setB0 9 (.cmp .eql (.var 8) (.lit 0))] (.w (.c (.bvar 9 false))))
 (.nb [.setB0 8 (.cmp .eql (.var 0) (.lit 8))] 8
 (.nb [.setI0 9 (.conv .u32 (.var 1)), .call 97 [(.ivar .u32 9), (.lit (.int .i64 21))] 10 [(.ri .i32)], .setB0 11 (.cmp .eql (.var 10) (.var 1))] 11
 (.leaf [.setI0 12 (.bin .and .i32 (.var 1) (.lit 1)), .setB0 13 (.cmp .eql (.var 12) (.lit 0))] (.w (.c (.bvar 13 false))))
 (.leaf [] (.w (.c (.lit (.bool false))))))
 (.leaf [.setB0 9 (.cmp .eql (.var 1) (.lit 0))] (.w (.c (.bvar 9 false)))))))))))
theorem rvNumT_ok : LT.Ok rvNumR rvNumT [] [] :=
 (LT.ok_nb (LT.ok_leaf (by kernel_rfl))
 (LT.ok_nb (LT.ok_leaf (by kernel_rfl))
 (LT.ok_nb (LT.ok_leaf (by kernel_rfl))
 (LT.ok_nb (LT.ok_nb (LT.ok_leaf (by kernel_rfl))
 (LT.ok_leaf (by kernel_rfl)))
 (LT.ok_nb (LT.ok_nb (LT.ok_leaf (by kernel_rfl))
 (LT.ok_leaf (by kernel_rfl)))
 (LT.ok_nb (LT.ok_leaf (by kernel_rfl))
 (LT.ok_nb (LT.ok_nb (LT.ok_leaf (by kernel_rfl))
 (LT.ok_leaf (by kernel_rfl)))
 (LT.ok_leaf (by kernel_rfl)))))))))
theorem rvNum_ok : SumT Try.prog phi 99 rvNumS := treeSum (t := rvNumT) (lf := 1000) (d := 50) rvNumC_ok (fun xs w => Try.call99 xs w)
 rvNumT_ok
 (by kernel_rfl)
 (by
  intro a0 h0 a1 h1
  exact ⟨obl_nil (by kernel_rfl), by kernel_rfl⟩)
end Go.Proofs.Ytndfcpkmchjncaa
