/-
  ferryman/ferrymanref3.Is: all its ways, printed by a program of this repo.
-/
import Derived.Test.YtndfcpkmchjncaaBase
import Derived.Test.YtndfcpkmchjncaaHand
import Derived.Test.YtndfcpkmchjncaaVrfOf
namespace Go.Proofs.Ytndfcpkmchjncaa
open Go.Sx
set_option linter.unusedVariables false
set_option linter.unusedSimpArgs false
set_option maxRecDepth 100000
set_option maxHeartbeats 20000000
noncomputable def rfIsC : Ctx := ⟨tys, fns, (((.e : Tr Sum).set 71 rfSignedS).set 69 rfOfS)⟩
theorem rfIsC_ok : CtxT Try.prog phi rfIsC := ⟨tys_ok, fns_ok, ((SumsT.e.set rfSigned_ok).set rfOf_ok), mix_ok⟩
noncomputable def rfIsR (ds : List D) : R (SV × St) := fnRun rfIsC 1000 50 89 (symArgs rfIsS.args 0) (st0 ds 5)
noncomputable def rfIsT : LT :=
 (.nb [.setB0 5 (.cmp .eql (.var 1) (.lit 0)), .setB0 6 (.cmp .eql (.var 2) (.lit 0)), .setB0 7 (.cmp .eql (.var 3) (.lit 0)), .call 69 [(.ivar .i64 0)] 8 [(.ri .u8), (.ri .u32), (.ri .u32), (.ri .u32)], .setB0 12 (.cmp .eql (.var 8) (.lit 85))] 12
 (.nb [.setB0 13 (.cmp .geq (.var 1) (.lit 0))] 13
 (.nb [.setB0 14 (.cmp .lss (.var 1) (.lit 32))] 14
 (.nb [] 6
 (.nb [] 7
 (.leaf [.setI0 15 (.conv .u32 (.var 4)), .setI0 16 (.bin .and .u32 (.var 15) (.lit 4095)), .setB0 17 (.cmp .eql (.var 16) (.lit 0))] (.w (.c (.bvar 17 false))))
 (.leaf [] (.w (.c (.lit (.bool false))))))
 (.leaf [] (.w (.c (.lit (.bool false))))))
 (.leaf [] (.w (.c (.lit (.bool false))))))
 (.leaf [] (.w (.c (.lit (.bool false))))))
 (.nb [.setB0 13 (.cmp .eql (.var 8) (.lit 74))] 13
 (.nb [.setB0 14 (.cmp .geq (.var 1) (.lit 0))] 14
 (.nb [.setB0 15 (.cmp .lss (.var 1) (.lit 32))] 15
 (.nb [] 6
 (.nb [] 7
 (.nb [.setI0 16 (.bin .and .i32 (.var 4) (.lit 1)), .setB0 17 (.cmp .eql (.var 16) (.lit 0))] 17
 (.leaf [.setI0 18 (.conv .u32 (.var 4)), .call 71 [(.ivar .u32 18), (.lit (.int .i64 21))] 19 [(.ri .i32)], .setB0 20 (.cmp .eql (.var 19) (.var 4))] (.w (.c (.bvar 20 false))))
 (.leaf [] (.w (.c (.lit (.bool false))))))
 (.leaf [] (.w (.c (.lit (.bool false))))))
 (.leaf [] (.w (.c (.lit (.bool false))))))
 (.leaf [] (.w (.c (.lit (.bool false))))))
 (.leaf [] (.w (.c (.lit (.bool false))))))
 (.nb [.setB0 14 (.cmp .eql (.var 8) (.lit 73))] 14
 (.nb [.setB0 15 (.cmp .geq (.var 1) (.lit 0))] 15
 (.nb [.setB0 16 (.cmp .lss (.var 1) (.lit 32))] 16
 (.nb [.setB0 17 (.cmp .geq (.var 2) (.lit 0))] 17
 (.nb [.setB0 18 (.cmp .lss (.var 2) (.lit 32))] 18
 (.nb [] 7
 (.leaf [.setI0 19 (.conv .u32 (.var 4)), .call 71 [(.ivar .u32 19), (.lit (.int .i64 12))] 20 [(.ri .i32)], .setB0 21 (.cmp .eql (.var 20) (.var 4))] (.w (.c (.bvar 21 false))))
 (.leaf [] (.w (.c (.lit (.bool false))))))
 (.leaf [] (.w (.c (.lit (.bool false))))))
 (.leaf [] (.w (.c (.lit (.bool false))))))
 (.leaf [] (.w (.c (.lit (.bool false))))))
 (.leaf [] (.w (.c (.lit (.bool false))))))
 (.nb [.setB0 15 (.cmp .eql (.var 8) (.lit 72))] 15
 (.nb [.setB0 16 (.cmp .geq (.var 1) (.lit 0))] 16
 (.nb [.setB0 17 (.cmp .lss (.var 1) (.lit 32))] 17
 (.nb [.setB0 18 (.cmp .geq (.var 2) (.lit 0))] 18
 (.nb [.setB0 19 (.cmp .lss (.var 2) (.lit 32))] 19
 (.nb [] 7
 (.nb [.setB0 20 (.cmp .geq (.var 4) (.lit 0))] 20
 (.leaf [.setB0 21 (.cmp .lss (.var 4) (.lit 32))] (.w (.c (.bvar 21 false))))
 (.leaf [] (.w (.c (.lit (.bool false))))))
 (.leaf [] (.w (.c (.lit (.bool false))))))
 (.leaf [] (.w (.c (.lit (.bool false))))))
 (.leaf [] (.w (.c (.lit (.bool false))))))
 (.leaf [] (.w (.c (.lit (.bool false))))))
 (.leaf [] (.w (.c (.lit (.bool false))))))
 (.nb [.setB0 16 (.cmp .eql (.var 8) (.lit 66))] 16
 (.nb [] 5
 (.nb [.setB0 17 (.cmp .geq (.var 2) (.lit 0))] 17
 (.nb [.setB0 18 (.cmp .lss (.var 2) (.lit 32))] 18
 (.nb [.setB0 19 (.cmp .geq (.var 3) (.lit 0))] 19
 (.nb [.setB0 20 (.cmp .lss (.var 3) (.lit 32))] 20
 (.nb [.setI0 21 (.bin .and .i32 (.var 4) (.lit 1)), .setB0 22 (.cmp .eql (.var 21) (.lit 0))] 22
 (.leaf [.setI0 23 (.conv .u32 (.var 4)), .call 71 [(.ivar .u32 23), (.lit (.int .i64 13))] 24 [(.ri .i32)], .setB0 25 (.cmp .eql (.var 24) (.var 4))] (.w (.c (.bvar 25 false))))
 (.leaf [] (.w (.c (.lit (.bool false))))))
 (.leaf [] (.w (.c (.lit (.bool false))))))
 (.leaf [] (.w (.c (.lit (.bool false))))))
 (.leaf [] (.w (.c (.lit (.bool false))))))
 (.leaf [] (.w (.c (.lit (.bool false))))))
 (.leaf [] (.w (.c (.lit (.bool false))))))
 (.nb [.setB0 17 (.cmp .eql (.var 8) (.lit 83))] 17
 (.nb [] 5
 (.nb [.setB0 18 (.cmp .geq (.var 2) (.lit 0))] 18
 (.nb [.setB0 19 (.cmp .lss (.var 2) (.lit 32))] 19
 (.nb [.setB0 20 (.cmp .geq (.var 3) (.lit 0))] 20
 (.nb [.setB0 21 (.cmp .lss (.var 3) (.lit 32))] 21
 (.leaf [.setI0 22 (.conv .u32 (.var 4)), .call 71 [(.ivar .u32 22), (.lit (.int .i64 12))] 23 [(.ri .i32)], .setB0 24 (.cmp .eql (.var 23) (.var 4))] (.w (.c (.bvar 24 false))))
 (.leaf [] (.w (.c (.lit (.bool false))))))
 (.leaf [] (.w (.c (.lit (.bool false))))))
 (.leaf [] (.w (.c (.lit (.bool false))))))
 (.leaf [] (.w (.c (.lit (.bool false))))))
 (.leaf [] (.w (.c (.lit (.bool false))))))
 (.nb [.setB0 18 (.cmp .eql (.var 8) (.lit 82))] 18
 (.nb [.setB0 19 (.cmp .geq (.var 1) (.lit 0))] 19
 (.nb [.setB0 20 (.cmp .lss (.var 1) (.lit 32))] 20
 (.nb [.setB0 21 (.cmp .geq (.var 2) (.lit 0))] 21
 (.nb [.setB0 22 (.cmp .lss (.var 2) (.lit 32))] 22
 (.nb [.setB0 23 (.cmp .geq (.var 3) (.lit 0))] 23
 (.nb [.setB0 24 (.cmp .lss (.var 3) (.lit 32))] 24
 (.leaf [.setB0 25 (.cmp .eql (.var 4) (.lit 0))] (.w (.c (.bvar 25 false))))
 (.leaf [] (.w (.c (.lit (.bool false))))))
 (.leaf [] (.w (.c (.lit (.bool false))))))
 (.leaf [] (.w (.c (.lit (.bool false))))))
 (.leaf [] (.w (.c (.lit (.bool false))))))
 (.leaf [] (.w (.c (.lit (.bool false))))))
 (.leaf [] (.w (.c (.lit (.bool false))))))
 (.nb [.setB0 19 (.cmp .eql (.var 8) (.lit 69))] 19
 (.nb [] 5
 (.nb [] 6
 (.nb [] 7
 (.leaf [.setB0 20 (.cmp .eql (.var 4) (.lit 0))] (.w (.c (.bvar 20 false))))
 (.leaf [] (.w (.c (.lit (.bool false))))))
 (.leaf [] (.w (.c (.lit (.bool false))))))
 (.leaf [] (.w (.c (.lit (.bool false))))))
 (.leaf [] (.w (.c (.lit (.bool false)))))))))))))
theorem rfIsT_ok : LT.Ok rfIsR rfIsT [] [] :=
 (LT.ok_nb (LT.ok_nb (LT.ok_nb (LT.ok_nb (LT.ok_nb (LT.ok_leaf (by kernel_rfl))
 (LT.ok_leaf (by kernel_rfl)))
 (LT.ok_leaf (by kernel_rfl)))
 (LT.ok_leaf (by kernel_rfl)))
 (LT.ok_leaf (by kernel_rfl)))
 (LT.ok_nb (LT.ok_nb (LT.ok_nb (LT.ok_nb (LT.ok_nb (LT.ok_nb (LT.ok_leaf (by kernel_rfl))
 (LT.ok_leaf (by kernel_rfl)))
 (LT.ok_leaf (by kernel_rfl)))
 (LT.ok_leaf (by kernel_rfl)))
 (LT.ok_leaf (by kernel_rfl)))
 (LT.ok_leaf (by kernel_rfl)))
 (LT.ok_nb (LT.ok_nb (LT.ok_nb (LT.ok_nb (LT.ok_nb (LT.ok_nb (LT.ok_leaf (by kernel_rfl))
 (LT.ok_leaf (by kernel_rfl)))
 (LT.ok_leaf (by kernel_rfl)))
 (LT.ok_leaf (by kernel_rfl)))
 (LT.ok_leaf (by kernel_rfl)))
 (LT.ok_leaf (by kernel_rfl)))
 (LT.ok_nb (LT.ok_nb (LT.ok_nb (LT.ok_nb (LT.ok_nb (LT.ok_nb (LT.ok_nb (LT.ok_leaf (by kernel_rfl))
 (LT.ok_leaf (by kernel_rfl)))
 (LT.ok_leaf (by kernel_rfl)))
 (LT.ok_leaf (by kernel_rfl)))
 (LT.ok_leaf (by kernel_rfl)))
 (LT.ok_leaf (by kernel_rfl)))
 (LT.ok_leaf (by kernel_rfl)))
 (LT.ok_nb (LT.ok_nb (LT.ok_nb (LT.ok_nb (LT.ok_nb (LT.ok_nb (LT.ok_nb (LT.ok_leaf (by kernel_rfl))
 (LT.ok_leaf (by kernel_rfl)))
 (LT.ok_leaf (by kernel_rfl)))
 (LT.ok_leaf (by kernel_rfl)))
 (LT.ok_leaf (by kernel_rfl)))
 (LT.ok_leaf (by kernel_rfl)))
 (LT.ok_leaf (by kernel_rfl)))
 (LT.ok_nb (LT.ok_nb (LT.ok_nb (LT.ok_nb (LT.ok_nb (LT.ok_nb (LT.ok_leaf (by kernel_rfl))
 (LT.ok_leaf (by kernel_rfl)))
 (LT.ok_leaf (by kernel_rfl)))
 (LT.ok_leaf (by kernel_rfl)))
 (LT.ok_leaf (by kernel_rfl)))
 (LT.ok_leaf (by kernel_rfl)))
 (LT.ok_nb (LT.ok_nb (LT.ok_nb (LT.ok_nb (LT.ok_nb (LT.ok_nb (LT.ok_nb (LT.ok_leaf (by kernel_rfl))
 (LT.ok_leaf (by kernel_rfl)))
 (LT.ok_leaf (by kernel_rfl)))
 (LT.ok_leaf (by kernel_rfl)))
 (LT.ok_leaf (by kernel_rfl)))
 (LT.ok_leaf (by kernel_rfl)))
 (LT.ok_leaf (by kernel_rfl)))
 (LT.ok_nb (LT.ok_nb (LT.ok_nb (LT.ok_nb (LT.ok_leaf (by kernel_rfl))
 (LT.ok_leaf (by kernel_rfl)))
 (LT.ok_leaf (by kernel_rfl)))
 (LT.ok_leaf (by kernel_rfl)))
 (LT.ok_leaf (by kernel_rfl))))))))))
theorem rfIs_ok : SumT Try.prog phi 89 rfIsS := treeSum (t := rfIsT) (lf := 1000) (d := 50) rfIsC_ok (fun xs w => Try.call89 xs w)
 rfIsT_ok
 (by kernel_rfl)
 (by
  intro a0 h0 a1 h1 a2 h2 a3 h3 a4 h4
  exact ⟨obl_nil (by kernel_rfl), by kernel_rfl⟩)
end Go.Proofs.Ytndfcpkmchjncaa
