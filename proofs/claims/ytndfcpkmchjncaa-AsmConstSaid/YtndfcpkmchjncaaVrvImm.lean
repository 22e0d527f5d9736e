/-
  ferryman/rv.immediate: all its ways, printed by a program of this repo.
-/
import Derived.Test.YtndfcpkmchjncaaBase
import Derived.Test.YtndfcpkmchjncaaHand
namespace Go.Proofs.Ytndfcpkmchjncaa
open Go.Sx
set_option linter.unusedVariables false
set_option linter.unusedSimpArgs false
set_option maxRecDepth 100000
set_option maxHeartbeats 20000000
noncomputable def rvImmC : Ctx := ⟨tys, fns, ((.e : Tr Sum).set 33 btFieldS)⟩
theorem rvImmC_ok : CtxT Try.prog phi rvImmC := ⟨tys_ok, fns_ok, (SumsT.e.set btField_ok), mix_ok⟩
noncomputable def rvImmR (ds : List D) : R (SV × St) := fnRun rvImmC 1000 50 85 (symArgs rvImmS.args 0) (st0 ds 2)
noncomputable def rvImmT : LT :=
 (.nb [.setI0 2 (.conv .u32 (.var 1)), .setB0 3 (.cmp .eql (.var 0) (.lit 2))] 3
 (.leaf [.call 33 [(.ivar .u32 2), (.lit (.int .i64 0)), (.lit (.int .i64 12))] 4 [(.ri .u32)], .setI0 5 (.bin .shl .u32 (.var 4) (.lit 20))] (.w (.c (.ivar .u32 5))))
 (.nb [.setB0 4 (.cmp .eql (.var 0) (.lit 3))] 4
 (.leaf [.call 33 [(.ivar .u32 2), (.lit (.int .i64 0)), (.lit (.int .i64 12))] 5 [(.ri .u32)], .setI0 6 (.bin .shl .u32 (.var 5) (.lit 20))] (.w (.c (.ivar .u32 6))))
 (.nb [.setB0 5 (.cmp .eql (.var 0) (.lit 4))] 5
 (.leaf [.call 33 [(.ivar .u32 2), (.lit (.int .i64 0)), (.lit (.int .i64 12))] 6 [(.ri .u32)], .setI0 7 (.bin .shl .u32 (.var 6) (.lit 20))] (.w (.c (.ivar .u32 7))))
 (.nb [.setB0 6 (.cmp .eql (.var 0) (.lit 5))] 6
 (.leaf [.call 33 [(.ivar .u32 2), (.lit (.int .i64 5)), (.lit (.int .i64 7))] 7 [(.ri .u32)], .setI0 8 (.bin .shl .u32 (.var 7) (.lit 25)), .call 33 [(.ivar .u32 2), (.lit (.int .i64 0)), (.lit (.int .i64 5))] 9 [(.ri .u32)], .setI0 10 (.bin .shl .u32 (.var 9) (.lit 7)), .setI0 11 (.bin .or .u32 (.var 8) (.var 10))] (.w (.c (.ivar .u32 11))))
 (.nb [.setB0 7 (.cmp .eql (.var 0) (.lit 6))] 7
 (.leaf [.call 33 [(.ivar .u32 2), (.lit (.int .i64 12)), (.lit (.int .i64 1))] 8 [(.ri .u32)], .setI0 9 (.bin .shl .u32 (.var 8) (.lit 31)), .call 33 [(.ivar .u32 2), (.lit (.int .i64 5)), (.lit (.int .i64 6))] 10 [(.ri .u32)], .setI0 11 (.bin .shl .u32 (.var 10) (.lit 25)), .setI0 12 (.bin .or .u32 (.var 9) (.var 11)), .call 33 [(.ivar .u32 2), (.lit (.int .i64 1)), (.lit (.int .i64 4))] 13 [(.ri .u32)], .setI0 14 (.bin .shl .u32 (.var 13) (.lit 8)), .setI0 15 (.bin .or .u32 (.var 12) (.var 14)), .call 33 [(.ivar .u32 2), (.lit (.int .i64 11)), (.lit (.int .i64 1))] 16 [(.ri .u32)], .setI0 17 (.bin .shl .u32 (.var 16) (.lit 7)), .setI0 18 (.bin .or .u32 (.var 15) (.var 17))] (.w (.c (.ivar .u32 18))))
 (.nb [.setB0 8 (.cmp .eql (.var 0) (.lit 7))] 8
 (.leaf [] (.w (.c (.ivar .u32 2))))
 (.nb [.setB0 9 (.cmp .eql (.var 0) (.lit 8))] 9
 (.leaf [.call 33 [(.ivar .u32 2), (.lit (.int .i64 20)), (.lit (.int .i64 1))] 10 [(.ri .u32)], .setI0 11 (.bin .shl .u32 (.var 10) (.lit 31)), .call 33 [(.ivar .u32 2), (.lit (.int .i64 1)), (.lit (.int .i64 10))] 12 [(.ri .u32)], .setI0 13 (.bin .shl .u32 (.var 12) (.lit 21)), .setI0 14 (.bin .or .u32 (.var 11) (.var 13)), .call 33 [(.ivar .u32 2), (.lit (.int .i64 11)), (.lit (.int .i64 1))] 15 [(.ri .u32)], .setI0 16 (.bin .shl .u32 (.var 15) (.lit 20)), .setI0 17 (.bin .or .u32 (.var 14) (.var 16)), .call 33 [(.ivar .u32 2), (.lit (.int .i64 12)), (.lit (.int .i64 8))] 18 [(.ri .u32)], .setI0 19 (.bin .shl .u32 (.var 18) (.lit 12)), .setI0 20 (.bin .or .u32 (.var 17) (.var 19))] (.w (.c (.ivar .u32 20))))
 (.leaf [] (.w (.c (.lit (.int .u32 0))))))))))))
theorem rvImmT_ok : LT.Ok rvImmR rvImmT [] [] :=
 (LT.ok_nb (LT.ok_leaf (by kernel_rfl))
 (LT.ok_nb (LT.ok_leaf (by kernel_rfl))
 (LT.ok_nb (LT.ok_leaf (by kernel_rfl))
 (LT.ok_nb (LT.ok_leaf (by kernel_rfl))
 (LT.ok_nb (LT.ok_leaf (by kernel_rfl))
 (LT.ok_nb (LT.ok_leaf (by kernel_rfl))
 (LT.ok_nb (LT.ok_leaf (by kernel_rfl))
 (LT.ok_leaf (by kernel_rfl)))))))))
theorem rvImm_ok : SumT Try.prog phi 85 rvImmS := treeSum (t := rvImmT) (lf := 1000) (d := 50) rvImmC_ok (fun xs w => Try.call85 xs w)
 rvImmT_ok
 (by kernel_rfl)
 (by
  intro a0 h0 a1 h1
  exact ⟨obl_nil (by kernel_rfl), by kernel_rfl⟩)
end Go.Proofs.Ytndfcpkmchjncaa
