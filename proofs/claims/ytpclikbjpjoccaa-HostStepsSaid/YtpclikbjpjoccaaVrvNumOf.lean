/-
  ferryman/rv.numberOf: all its ways, printed by a program of this repo.
-/
import Derived.Test.YtpclikbjpjoccaaBase
import Derived.Test.YtpclikbjpjoccaaHand
namespace Go.Proofs.Ytpclikbjpjoccaa
open Go.Sx
set_option linter.unusedVariables false
set_option linter.unusedSimpArgs false
set_option maxRecDepth 100000
set_option maxHeartbeats 20000000
noncomputable def rvNumOfC : Ctx := ⟨tys, fns, (((.e : Tr Sum).set 57 btFieldS).set 73 btSignedS)⟩
theorem rvNumOfC_ok : CtxT Try.prog phi rvNumOfC := ⟨tys_ok, fns_ok, ((SumsT.e.set btField_ok).set btSigned_ok), mix_ok⟩
noncomputable def rvNumOfR (ds : List D) : R (SV × St) := fnRun rvNumOfC 1000 50 55 (symArgs rvNumOfS.args 0) (st0 ds 2)
noncomputable def rvNumOfT : LT :=
 (.nb [.setB0 2 (.cmp .eql (.var 0) (.lit 2))] 2
 (.leaf [.call 57 [(.ivar .u32 1), (.lit (.int .i64 20)), (.lit (.int .i64 12))] 3 [(.ri .u32)], .setI0 4 (.bin .shl .u32 (.var 3) (.lit 0)), .call 73 [(.ivar .u32 4), (.lit (.int .i64 12))] 5 [(.ri .i32)]] (.w (.c (.ivar .i32 5))))
 (.nb [.setB0 3 (.cmp .eql (.var 0) (.lit 3))] 3
 (.leaf [.call 57 [(.ivar .u32 1), (.lit (.int .i64 20)), (.lit (.int .i64 12))] 4 [(.ri .u32)], .setI0 5 (.bin .shl .u32 (.var 4) (.lit 0)), .call 73 [(.ivar .u32 5), (.lit (.int .i64 12))] 6 [(.ri .i32)]] (.w (.c (.ivar .i32 6))))
 (.nb [.setB0 4 (.cmp .eql (.var 0) (.lit 4))] 4
 (.leaf [.call 57 [(.ivar .u32 1), (.lit (.int .i64 20)), (.lit (.int .i64 5))] 5 [(.ri .u32)], .setI0 6 (.bin .shl .u32 (.var 5) (.lit 0)), .setI0 7 (.conv .i32 (.var 6))] (.w (.c (.ivar .i32 7))))
 (.nb [.setB0 5 (.cmp .eql (.var 0) (.lit 5))] 5
 (.leaf [.call 57 [(.ivar .u32 1), (.lit (.int .i64 25)), (.lit (.int .i64 7))] 6 [(.ri .u32)], .setI0 7 (.bin .shl .u32 (.var 6) (.lit 5)), .call 57 [(.ivar .u32 1), (.lit (.int .i64 7)), (.lit (.int .i64 5))] 8 [(.ri .u32)], .setI0 9 (.bin .shl .u32 (.var 8) (.lit 0)), .setI0 10 (.bin .or .u32 (.var 7) (.var 9)), .call 73 [(.ivar .u32 10), (.lit (.int .i64 12))] 11 [(.ri .i32)]] (.w (.c (.ivar .i32 11))))
 (.nb [.setB0 6 (.cmp .eql (.var 0) (.lit 6))] 6
 (.leaf [.call 57 [(.ivar .u32 1), (.lit (.int .i64 31)), (.lit (.int .i64 1))] 7 [(.ri .u32)], .setI0 8 (.bin .shl .u32 (.var 7) (.lit 12)), .call 57 [(.ivar .u32 1), (.lit (.int .i64 25)), (.lit (.int .i64 6))] 9 [(.ri .u32)], .setI0 10 (.bin .shl .u32 (.var 9) (.lit 5)), .setI0 11 (.bin .or .u32 (.var 8) (.var 10)), .call 57 [(.ivar .u32 1), (.lit (.int .i64 8)), (.lit (.int .i64 4))] 12 [(.ri .u32)], .setI0 13 (.bin .shl .u32 (.var 12) (.lit 1)), .setI0 14 (.bin .or .u32 (.var 11) (.var 13)), .call 57 [(.ivar .u32 1), (.lit (.int .i64 7)), (.lit (.int .i64 1))] 15 [(.ri .u32)], .setI0 16 (.bin .shl .u32 (.var 15) (.lit 11)), .setI0 17 (.bin .or .u32 (.var 14) (.var 16)), .call 73 [(.ivar .u32 17), (.lit (.int .i64 13))] 18 [(.ri .i32)]] (.w (.c (.ivar .i32 18))))
 (.nb [.setB0 7 (.cmp .eql (.var 0) (.lit 7))] 7
 (.leaf [.setI0 8 (.bin .andNot .u32 (.var 1) (.lit 4095)), .setI0 9 (.conv .i32 (.var 8))] (.w (.c (.ivar .i32 9))))
 (.nb [.setB0 8 (.cmp .eql (.var 0) (.lit 8))] 8
 (.leaf [.call 57 [(.ivar .u32 1), (.lit (.int .i64 31)), (.lit (.int .i64 1))] 9 [(.ri .u32)], .setI0 10 (.bin .shl .u32 (.var 9) (.lit 20)), .call 57 [(.ivar .u32 1), (.lit (.int .i64 21)), (.lit (.int .i64 10))] 11 [(.ri .u32)], .setI0 12 (.bin .shl .u32 (.var 11) (.lit 1)), .setI0 13 (.bin .or .u32 (.var 10) (.var 12)), .call 57 [(.ivar .u32 1), (.lit (.int .i64 20)), (.lit (.int .i64 1))] 14 [(.ri .u32)], .setI0 15 (.bin .shl .u32 (.var 14) (.lit 11)), .setI0 16 (.bin .or .u32 (.var 13) (.var 15)), .call 57 [(.ivar .u32 1), (.lit (.int .i64 12)), (.lit (.int .i64 8))] 17 [(.ri .u32)], .setI0 18 (.bin .shl .u32 (.var 17) (.lit 12)), .setI0 19 (.bin .or .u32 (.var 16) (.var 18)), .call 73 [(.ivar .u32 19), (.lit (.int .i64 21))] 20 [(.ri .i32)]] (.w (.c (.ivar .i32 20))))
 (.leaf [] (.w (.c (.lit (.int .i32 0))))))))))))
theorem rvNumOfT_ok : LT.Ok rvNumOfR rvNumOfT [] [] :=
 (LT.ok_nb (LT.ok_leaf (by kernel_rfl))
 (LT.ok_nb (LT.ok_leaf (by kernel_rfl))
 (LT.ok_nb (LT.ok_leaf (by kernel_rfl))
 (LT.ok_nb (LT.ok_leaf (by kernel_rfl))
 (LT.ok_nb (LT.ok_leaf (by kernel_rfl))
 (LT.ok_nb (LT.ok_leaf (by kernel_rfl))
 (LT.ok_nb (LT.ok_leaf (by kernel_rfl))
 (LT.ok_leaf (by kernel_rfl)))))))))
theorem rvNumOf_ok : SumT Try.prog phi 55 rvNumOfS := treeSum (t := rvNumOfT) (lf := 1000) (d := 50) rvNumOfC_ok (fun xs w => Try.call55 xs w)
 rvNumOfT_ok
 (by kernel_rfl)
 (by
  intro a0 h0 a1 h1
  exact ⟨obl_nil (by kernel_rfl), by kernel_rfl⟩)
end Go.Proofs.Ytpclikbjpjoccaa
