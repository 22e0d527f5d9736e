/-
  ferryman/ferrymanref3.Encode: all its ways, printed by a program of this repo.
-/
import Derived.Test.YtndfcpkmchjncaaBase
import Derived.Test.YtndfcpkmchjncaaHand
import Derived.Test.YtndfcpkmchjncaaVrfOf
import Derived.Test.YtndfcpkmchjncaaVrfIs
namespace Go.Proofs.Ytndfcpkmchjncaa
open Go.Sx
set_option linter.unusedVariables false
set_option linter.unusedSimpArgs false
set_option maxRecDepth 100000
set_option maxHeartbeats 20000000
noncomputable def rfEncC : Ctx := ⟨tys, fns, ((((.e : Tr Sum).set 88 rfFieldS).set 69 rfOfS).set 89 rfIsS)⟩
theorem rfEncC_ok : CtxT Try.prog phi rfEncC := ⟨tys_ok, fns_ok, (((SumsT.e.set rfField_ok).set rfOf_ok).set rfIs_ok), mix_ok⟩
noncomputable def rfEncR (ds : List D) : R (SV × St) := fnRun rfEncC 1000 50 72 (symArgs rfEncS.args 0) (st0 ds 5)
noncomputable def rfEncT : LT :=
 (.nb [.call 89 [(.ivar .i64 0), (.ivar .i64 1), (.ivar .i64 2), (.ivar .i64 3), (.ivar .i32 4)] 5 [.rb]] 5
 (.nb [.call 69 [(.ivar .i64 0)] 6 [(.ri .u8), (.ri .u32), (.ri .u32), (.ri .u32)], .setI0 10 (.conv .u32 (.var 4)), .setI0 11 (.bin .shl .u32 (.var 8) (.lit 12)), .setI0 12 (.bin .or .u32 (.var 7) (.var 11)), .setI0 13 (.conv .u32 (.var 1)), .setI0 14 (.bin .shl .u32 (.var 13) (.lit 7)), .setI0 15 (.conv .u32 (.var 2)), .setI0 16 (.bin .shl .u32 (.var 15) (.lit 15)), .setI0 17 (.conv .u32 (.var 3)), .setI0 18 (.bin .shl .u32 (.var 17) (.lit 20)), .setB0 19 (.cmp .eql (.var 6) (.lit 85))] 19
 (.leaf [.setI0 20 (.bin .or .u32 (.var 7) (.var 14)), .setI0 21 (.bin .or .u32 (.var 20) (.var 10))] (.tup [(.c (.ivar .u32 21)), (.c (.lit (.bool true)))]))
 (.nb [.setB0 20 (.cmp .eql (.var 6) (.lit 74))] 20
 (.leaf [.setI0 21 (.bin .or .u32 (.var 7) (.var 14)), .call 88 [(.ivar .u32 10), (.lit (.int .i64 12)), (.lit (.int .i64 8))] 22 [(.ri .u32)], .setI0 23 (.bin .shl .u32 (.var 22) (.lit 12)), .setI0 24 (.bin .or .u32 (.var 21) (.var 23)), .call 88 [(.ivar .u32 10), (.lit (.int .i64 11)), (.lit (.int .i64 1))] 25 [(.ri .u32)], .setI0 26 (.bin .shl .u32 (.var 25) (.lit 20)), .setI0 27 (.bin .or .u32 (.var 24) (.var 26)), .call 88 [(.ivar .u32 10), (.lit (.int .i64 1)), (.lit (.int .i64 10))] 28 [(.ri .u32)], .setI0 29 (.bin .shl .u32 (.var 28) (.lit 21)), .setI0 30 (.bin .or .u32 (.var 27) (.var 29)), .call 88 [(.ivar .u32 10), (.lit (.int .i64 20)), (.lit (.int .i64 1))] 31 [(.ri .u32)], .setI0 32 (.bin .shl .u32 (.var 31) (.lit 31)), .setI0 33 (.bin .or .u32 (.var 30) (.var 32))] (.tup [(.c (.ivar .u32 33)), (.c (.lit (.bool true)))]))
 (.nb [.setB0 21 (.cmp .eql (.var 6) (.lit 73))] 21
 (.leaf [.setI0 22 (.bin .or .u32 (.var 12) (.var 14)), .setI0 23 (.bin .or .u32 (.var 22) (.var 16)), .setI0 24 (.bin .shl .u32 (.var 10) (.lit 20)), .setI0 25 (.bin .or .u32 (.var 23) (.var 24))] (.tup [(.c (.ivar .u32 25)), (.c (.lit (.bool true)))]))
 (.nb [.setB0 22 (.cmp .eql (.var 6) (.lit 72))] 22
 (.leaf [.setI0 23 (.bin .or .u32 (.var 12) (.var 14)), .setI0 24 (.bin .or .u32 (.var 23) (.var 16)), .setI0 25 (.bin .shl .u32 (.var 10) (.lit 20)), .setI0 26 (.bin .or .u32 (.var 24) (.var 25)), .setI0 27 (.bin .shl .u32 (.var 9) (.lit 25)), .setI0 28 (.bin .or .u32 (.var 26) (.var 27))] (.tup [(.c (.ivar .u32 28)), (.c (.lit (.bool true)))]))
 (.nb [.setB0 23 (.cmp .eql (.var 6) (.lit 66))] 23
 (.leaf [.setI0 24 (.bin .or .u32 (.var 12) (.var 16)), .setI0 25 (.bin .or .u32 (.var 24) (.var 18)), .call 88 [(.ivar .u32 10), (.lit (.int .i64 11)), (.lit (.int .i64 1))] 26 [(.ri .u32)], .setI0 27 (.bin .shl .u32 (.var 26) (.lit 7)), .setI0 28 (.bin .or .u32 (.var 25) (.var 27)), .call 88 [(.ivar .u32 10), (.lit (.int .i64 1)), (.lit (.int .i64 4))] 29 [(.ri .u32)], .setI0 30 (.bin .shl .u32 (.var 29) (.lit 8)), .setI0 31 (.bin .or .u32 (.var 28) (.var 30)), .call 88 [(.ivar .u32 10), (.lit (.int .i64 5)), (.lit (.int .i64 6))] 32 [(.ri .u32)], .setI0 33 (.bin .shl .u32 (.var 32) (.lit 25)), .setI0 34 (.bin .or .u32 (.var 31) (.var 33)), .call 88 [(.ivar .u32 10), (.lit (.int .i64 12)), (.lit (.int .i64 1))] 35 [(.ri .u32)], .setI0 36 (.bin .shl .u32 (.var 35) (.lit 31)), .setI0 37 (.bin .or .u32 (.var 34) (.var 36))] (.tup [(.c (.ivar .u32 37)), (.c (.lit (.bool true)))]))
 (.nb [.setB0 24 (.cmp .eql (.var 6) (.lit 83))] 24
 (.leaf [.setI0 25 (.bin .or .u32 (.var 12) (.var 16)), .setI0 26 (.bin .or .u32 (.var 25) (.var 18)), .call 88 [(.ivar .u32 10), (.lit (.int .i64 0)), (.lit (.int .i64 5))] 27 [(.ri .u32)], .setI0 28 (.bin .shl .u32 (.var 27) (.lit 7)), .setI0 29 (.bin .or .u32 (.var 26) (.var 28)), .call 88 [(.ivar .u32 10), (.lit (.int .i64 5)), (.lit (.int .i64 7))] 30 [(.ri .u32)], .setI0 31 (.bin .shl .u32 (.var 30) (.lit 25)), .setI0 32 (.bin .or .u32 (.var 29) (.var 31))] (.tup [(.c (.ivar .u32 32)), (.c (.lit (.bool true)))]))
 (.nb [.setB0 25 (.cmp .eql (.var 6) (.lit 82))] 25
 (.leaf [.setI0 26 (.bin .or .u32 (.var 12) (.var 14)), .setI0 27 (.bin .or .u32 (.var 26) (.var 16)), .setI0 28 (.bin .or .u32 (.var 27) (.var 18)), .setI0 29 (.bin .shl .u32 (.var 9) (.lit 25)), .setI0 30 (.bin .or .u32 (.var 28) (.var 29))] (.tup [(.c (.ivar .u32 30)), (.c (.lit (.bool true)))]))
 (.leaf [.setI0 26 (.bin .shl .u32 (.var 9) (.lit 20)), .setI0 27 (.bin .or .u32 (.var 7) (.var 26))] (.tup [(.c (.ivar .u32 27)), (.c (.lit (.bool true)))])))))))))
 (.leaf [] (.tup [(.c (.lit (.int .u32 0))), (.c (.lit (.bool false)))])))
theorem rfEncT_ok : LT.Ok rfEncR rfEncT [] [] :=
 (LT.ok_nb (LT.ok_nb (LT.ok_leaf (by kernel_rfl))
 (LT.ok_nb (LT.ok_leaf (by kernel_rfl))
 (LT.ok_nb (LT.ok_leaf (by kernel_rfl))
 (LT.ok_nb (LT.ok_leaf (by kernel_rfl))
 (LT.ok_nb (LT.ok_leaf (by kernel_rfl))
 (LT.ok_nb (LT.ok_leaf (by kernel_rfl))
 (LT.ok_nb (LT.ok_leaf (by kernel_rfl))
 (LT.ok_leaf (by kernel_rfl)))))))))
 (LT.ok_leaf (by kernel_rfl)))
theorem rfEnc_ok : SumT Try.prog phi 72 rfEncS := treeSum (t := rfEncT) (lf := 1000) (d := 50) rfEncC_ok (fun xs w => Try.call72 xs w)
 rfEncT_ok
 (by kernel_rfl)
 (by
  intro a0 h0 a1 h1 a2 h2 a3 h3 a4 h4
  exact ⟨obl_nil (by kernel_rfl), by kernel_rfl⟩)
end Go.Proofs.Ytndfcpkmchjncaa
