/-
  ferryman/ferrymanref4.Alu: all its ways, printed by a program of this repo.
-/
import Derived.Test.YtndfcpkmchjncaaBase
import Derived.Test.YtndfcpkmchjncaaVrhOne
import Derived.Test.YtndfcpkmchjncaaVrhMuldiv
namespace Go.Proofs.Ytndfcpkmchjncaa
open Go.Sx
set_option linter.unusedVariables false
set_option linter.unusedSimpArgs false
set_option maxRecDepth 100000
set_option maxHeartbeats 20000000
noncomputable def rhAluC : Ctx := ⟨tys, fns, (((.e : Tr Sum).set 73 rhOneS).set 74 rhMuldivS)⟩
theorem rhAluC_ok : CtxT Try.prog phi rhAluC := ⟨tys_ok, fns_ok, ((SumsT.e.set rhOne_ok).set rhMuldiv_ok), mix_ok⟩
noncomputable def rhAluR (ds : List D) : R (SV × St) := fnRun rhAluC 1000 50 47 (symArgs rhAluS.args 0) (st0 ds 3)
noncomputable def rhAluT : LT :=
 (.nb [.setB0 3 (.cmp .eql (.var 0) (.lit 28))] 3
 (.leaf [.setI0 4 (.bin .add .u32 (.var 1) (.var 2))] (.w (.c (.ivar .u32 4))))
 (.nb [.setB0 4 (.cmp .eql (.var 0) (.lit 29))] 4
 (.leaf [.setI0 5 (.bin .sub .u32 (.var 1) (.var 2))] (.w (.c (.ivar .u32 5))))
 (.nb [.setB0 5 (.cmp .eql (.var 0) (.lit 30))] 5
 (.leaf [.setI0 6 (.bin .and .u32 (.var 2) (.lit 31)), .setI0 7 (.bin .shl .u32 (.var 1) (.var 6))] (.w (.c (.ivar .u32 7))))
 (.nb [.setB0 6 (.cmp .eql (.var 0) (.lit 31))] 6
 (.leaf [.setI0 7 (.conv .i32 (.var 1)), .setI0 8 (.conv .i32 (.var 2)), .setB0 9 (.cmp .lss (.var 7) (.var 8)), .call 73 [(.bvar 9 false)] 10 [(.ri .u32)]] (.w (.c (.ivar .u32 10))))
 (.nb [.setB0 7 (.cmp .eql (.var 0) (.lit 32))] 7
 (.leaf [.setB0 8 (.cmp .lss (.var 1) (.var 2)), .call 73 [(.bvar 8 false)] 9 [(.ri .u32)]] (.w (.c (.ivar .u32 9))))
 (.nb [.setB0 8 (.cmp .eql (.var 0) (.lit 33))] 8
 (.leaf [.setI0 9 (.bin .xor .u32 (.var 1) (.var 2))] (.w (.c (.ivar .u32 9))))
 (.nb [.setB0 9 (.cmp .eql (.var 0) (.lit 34))] 9
 (.leaf [.setI0 10 (.bin .and .u32 (.var 2) (.lit 31)), .setI0 11 (.bin .shr .u32 (.var 1) (.var 10))] (.w (.c (.ivar .u32 11))))
 (.nb [.setB0 10 (.cmp .eql (.var 0) (.lit 35))] 10
 (.leaf [.setI0 11 (.conv .i32 (.var 1)), .setI0 12 (.bin .and .u32 (.var 2) (.lit 31)), .setI0 13 (.bin .shr .i32 (.var 11) (.var 12)), .setI0 14 (.conv .u32 (.var 13))] (.w (.c (.ivar .u32 14))))
 (.nb [.setB0 11 (.cmp .eql (.var 0) (.lit 36))] 11
 (.leaf [.setI0 12 (.bin .or .u32 (.var 1) (.var 2))] (.w (.c (.ivar .u32 12))))
 (.nb [.setB0 12 (.cmp .eql (.var 0) (.lit 37))] 12
 (.leaf [.setI0 13 (.bin .and .u32 (.var 1) (.var 2))] (.w (.c (.ivar .u32 13))))
 (.leaf [.call 74 [(.ivar .i64 0), (.ivar .u32 1), (.ivar .u32 2)] 13 [(.ri .u32)]] (.w (.c (.ivar .u32 13))))))))))))))
theorem rhAluT_ok : LT.Ok rhAluR rhAluT [] [] :=
 (LT.ok_nb (LT.ok_leaf (by kernel_rfl))
 (LT.ok_nb (LT.ok_leaf (by kernel_rfl))
 (LT.ok_nb (LT.ok_leaf (by kernel_rfl))
 (LT.ok_nb (LT.ok_leaf (by kernel_rfl))
 (LT.ok_nb (LT.ok_leaf (by kernel_rfl))
 (LT.ok_nb (LT.ok_leaf (by kernel_rfl))
 (LT.ok_nb (LT.ok_leaf (by kernel_rfl))
 (LT.ok_nb (LT.ok_leaf (by kernel_rfl))
 (LT.ok_nb (LT.ok_leaf (by kernel_rfl))
 (LT.ok_nb (LT.ok_leaf (by kernel_rfl))
 (LT.ok_leaf (by kernel_rfl))))))))))))
theorem rhAlu_ok : SumT Try.prog phi 47 rhAluS := treeSum (t := rhAluT) (lf := 1000) (d := 50) rhAluC_ok (fun xs w => Try.call47 xs w)
 rhAluT_ok
 (by kernel_rfl)
 (by
  intro a0 h0 a1 h1 a2 h2
  exact ⟨obl_nil (by kernel_rfl), by kernel_rfl⟩)
end Go.Proofs.Ytndfcpkmchjncaa
