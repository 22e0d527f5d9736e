/-
  ferryman/rv.opOf: all its ways, printed by a program of this repo.
-/
import Derived.Test.YtpclikbjpjoccaaBase
import Derived.Test.YtpclikbjpjoccaaHand
import Derived.Test.YtpclikbjpjoccaaVrvFind
namespace Go.Proofs.Ytpclikbjpjoccaa
open Go.Sx
set_option linter.unusedVariables false
set_option linter.unusedSimpArgs false
set_option maxRecDepth 100000
set_option maxHeartbeats 20000000
noncomputable def rvOpOfC : Ctx := ⟨tys, fns, (((.e : Tr Sum).set 57 btFieldS).set 70 rvFindS)⟩
theorem rvOpOfC_ok : CtxT Try.prog phi rvOpOfC := ⟨tys_ok, fns_ok, ((SumsT.e.set btField_ok).set rvFind_ok), mix_ok⟩
noncomputable def rvOpOfR (ds : List D) : R (SV × St) := fnRun rvOpOfC 1000 50 53 (symArgs rvOpOfS.args 0) (st0 ds 1)
noncomputable def rvOpOfT : LT :=
 (.nb [.setI0 1 (.bin .and .u32 (.var 0) (.lit 127)), .setB0 2 (.cmp .eql (.var 1) (.lit 115))] 2
 (.leaf [.call 57 [(.ivar .u32 0), (.lit (.int .i64 20)), (.lit (.int .i64 1))] 3 [(.ri .u32)], .setI0 4 (.conv .i64 (.var 3)), .setI0 5 (.bin .add .i64 (.lit 46) (.var 4))] (.w (.c (.ivar .i64 5))))
 (.nb [.setB0 3 (.cmp .eql (.var 1) (.lit 55))] 3
 (.leaf [.call 70 [(.ivar .u32 1), (.lit (.int .u32 0)), (.lit (.int .u32 0))] 4 [(.ri .i64)]] (.w (.c (.ivar .i64 4))))
 (.nb [.setB0 4 (.cmp .eql (.var 1) (.lit 23))] 4
 (.leaf [.call 70 [(.ivar .u32 1), (.lit (.int .u32 0)), (.lit (.int .u32 0))] 5 [(.ri .i64)]] (.w (.c (.ivar .i64 5))))
 (.nb [.setB0 5 (.cmp .eql (.var 1) (.lit 111))] 5
 (.leaf [.call 70 [(.ivar .u32 1), (.lit (.int .u32 0)), (.lit (.int .u32 0))] 6 [(.ri .i64)]] (.w (.c (.ivar .i64 6))))
 (.nb [.setB0 6 (.cmp .eql (.var 1) (.lit 51))] 6
 (.leaf [.call 57 [(.ivar .u32 0), (.lit (.int .i64 12)), (.lit (.int .i64 3))] 7 [(.ri .u32)], .call 57 [(.ivar .u32 0), (.lit (.int .i64 25)), (.lit (.int .i64 7))] 8 [(.ri .u32)], .call 70 [(.ivar .u32 1), (.ivar .u32 7), (.ivar .u32 8)] 9 [(.ri .i64)]] (.w (.c (.ivar .i64 9))))
 (.nb [.call 57 [(.ivar .u32 0), (.lit (.int .i64 12)), (.lit (.int .i64 3))] 7 [(.ri .u32)], .setB0 8 (.cmp .eql (.var 1) (.lit 19))] 8
 (.nb [.setI0 9 (.bin .and .u32 (.var 7) (.lit 3)), .setB0 10 (.cmp .eql (.var 9) (.lit 1))] 10
 (.leaf [.call 57 [(.ivar .u32 0), (.lit (.int .i64 25)), (.lit (.int .i64 7))] 11 [(.ri .u32)], .call 70 [(.ivar .u32 1), (.ivar .u32 7), (.ivar .u32 11)] 12 [(.ri .i64)]] (.w (.c (.ivar .i64 12))))
 (.leaf [.call 70 [(.ivar .u32 1), (.ivar .u32 7), (.lit (.int .u32 0))] 11 [(.ri .i64)]] (.w (.c (.ivar .i64 11)))))
 (.leaf [.call 70 [(.ivar .u32 1), (.ivar .u32 7), (.lit (.int .u32 0))] 9 [(.ri .i64)]] (.w (.c (.ivar .i64 9))))))))))
theorem rvOpOfT_ok : LT.Ok rvOpOfR rvOpOfT [] [] :=
 (LT.ok_nb (LT.ok_leaf (by kernel_rfl))
 (LT.ok_nb (LT.ok_leaf (by kernel_rfl))
 (LT.ok_nb (LT.ok_leaf (by kernel_rfl))
 (LT.ok_nb (LT.ok_leaf (by kernel_rfl))
 (LT.ok_nb (LT.ok_leaf (by kernel_rfl))
 (LT.ok_nb (LT.ok_nb (LT.ok_leaf (by kernel_rfl))
 (LT.ok_leaf (by kernel_rfl)))
 (LT.ok_leaf (by kernel_rfl))))))))
theorem rvOpOf_ok : SumT Try.prog phi 53 rvOpOfS := treeSum (t := rvOpOfT) (lf := 1000) (d := 50) rvOpOfC_ok (fun xs w => Try.call53 xs w)
 rvOpOfT_ok
 (by kernel_rfl)
 (by
  intro a0 h0
  exact ⟨obl_nil (by kernel_rfl), by kernel_rfl⟩)
end Go.Proofs.Ytpclikbjpjoccaa
