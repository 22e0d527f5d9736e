/-
  ferryman/rv.Encode: all its ways, printed by a program of this repo.
-/
import Derived.Test.YtndfcpkmchjncaaBase
import Derived.Test.YtndfcpkmchjncaaVrvOf
import Derived.Test.YtndfcpkmchjncaaVrvIs
import Derived.Test.YtndfcpkmchjncaaVrvImm
namespace Go.Proofs.Ytndfcpkmchjncaa
open Go.Sx
set_option linter.unusedVariables false
set_option linter.unusedSimpArgs false
set_option maxRecDepth 100000
set_option maxHeartbeats 20000000
noncomputable def rvEncC : Ctx := ⟨tys, fns, ((((.e : Tr Sum).set 80 rvOfS).set 84 rvIsS).set 85 rvImmS)⟩
theorem rvEncC_ok : CtxT Try.prog phi rvEncC := ⟨tys_ok, fns_ok, (((SumsT.e.set rvOf_ok).set rvIs_ok).set rvImm_ok), mix_ok⟩
noncomputable def rvEncR (ds : List D) : R (SV × St) := fnRun rvEncC 1000 50 66 (symArgs rvEncS.args 0) (st0 ds 5)
noncomputable def rvEncT : LT :=
 (.nb [.call 84 [(.ivar .i64 0), (.ivar .i64 1), (.ivar .i64 2), (.ivar .i64 3), (.ivar .i32 4)] 5 [.rb]] 5
 (.nb [.call 80 [(.ivar .i64 0)] 6 [.rs, (.ri .i64), (.ri .u32), (.ri .u32), (.ri .u32), .rb], .setI0 12 (.conv .u32 (.var 1)), .setI0 13 (.bin .shl .u32 (.var 12) (.lit 7)), .setI0 14 (.bin .or .u32 (.var 8) (.var 13)), .setI0 15 (.bin .shl .u32 (.var 9) (.lit 12)), .setI0 16 (.bin .or .u32 (.var 14) (.var 15)), .setI0 17 (.conv .u32 (.var 2)), .setI0 18 (.bin .shl .u32 (.var 17) (.lit 15)), .setI0 19 (.bin .or .u32 (.var 16) (.var 18)), .setI0 20 (.conv .u32 (.var 3)), .setI0 21 (.bin .shl .u32 (.var 20) (.lit 20)), .setI0 22 (.bin .or .u32 (.var 19) (.var 21)), .setI0 23 (.bin .shl .u32 (.var 10) (.lit 25)), .setI0 24 (.bin .or .u32 (.var 22) (.var 23)), .call 85 [(.ivar .i64 7), (.ivar .i32 4)] 25 [(.ri .u32)], .setI0 26 (.bin .or .u32 (.var 24) (.var 25)), .setB0 27 (.cmp .eql (.var 0) (.lit 47))] 27
 (.leaf [.setI0 28 (.bin .or .u32 (.var 26) (.lit 1048576))] (.tup [(.c (.ivar .u32 28)), (.c (.lit (.int .i64 0)))]))
 (.leaf [] (.tup [(.c (.ivar .u32 26)), (.c (.lit (.int .i64 0)))])))
 (.leaf [] (.tup [(.c (.lit (.int .u32 0))), (.c (.lit (.int .i64 12)))])))
theorem rvEncT_ok : LT.Ok rvEncR rvEncT [] [] :=
 (LT.ok_nb (LT.ok_nb (LT.ok_leaf (by kernel_rfl))
 (LT.ok_leaf (by kernel_rfl)))
 (LT.ok_leaf (by kernel_rfl)))
theorem rvEnc_ok : SumT Try.prog phi 66 rvEncS := treeSum (t := rvEncT) (lf := 1000) (d := 50) rvEncC_ok (fun xs w => Try.call66 xs w)
 rvEncT_ok
 (by kernel_rfl)
 (by
  intro a0 h0 a1 h1 a2 h2 a3 h3 a4 h4
  exact ⟨obl_nil (by kernel_rfl), by kernel_rfl⟩)
end Go.Proofs.Ytndfcpkmchjncaa
