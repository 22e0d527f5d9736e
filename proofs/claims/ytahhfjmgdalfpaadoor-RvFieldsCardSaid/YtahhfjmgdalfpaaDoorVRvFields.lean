/-
  ferryman/ferrymanlaw3.RvFields: all its ways, printed by a program of this repo.
-/
import Derived.Test.YtahhfjmgdalfpaaDoorBase
import Derived.Test.YtahhfjmgdalfpaaDoorVrvEnc
import Derived.Test.YtahhfjmgdalfpaaDoorVlwKnown
namespace Go.Proofs.YtahhfjmgdalfpaaDoor
open Go.Sx
set_option linter.unusedVariables false
set_option linter.unusedSimpArgs false
set_option maxRecDepth 100000
set_option maxHeartbeats 20000000
noncomputable def RvFieldsC : Ctx := ⟨tys, fns, (((.e : Tr Sum).set 11 rvEncS).set 10 lwKnownS)⟩
theorem RvFieldsC_ok : CtxT Tryd.prog phi RvFieldsC := ⟨tys_ok, fns_ok, ((SumsT.e.set rvEnc_ok).set lwKnown_ok), mix_ok⟩
noncomputable def RvFieldsR (ds : List D) : R (SV × St) := fnRun RvFieldsC 1000 50 8 (symArgs RvFieldsS.args 0) (st0 ds 5)
noncomputable def RvFieldsT : LT :=
 (.nb [.call 10 [] 5 [.rb]] 5
 (.nb [.setI0 6 (.bin .rem .u8 (.var 0) (.lit 18)), .setI0 7 (.conv .i64 (.var 6)), .setI0 8 (.bin .add .i64 (.lit 28) (.var 7)), .setI0 9 (.bin .rem .u8 (.var 1) (.lit 32)), .setI0 10 (.conv .i64 (.var 9)), .setI0 11 (.bin .rem .u8 (.var 2) (.lit 32)), .setI0 12 (.conv .i64 (.var 11)), .setI0 13 (.bin .rem .u8 (.var 3) (.lit 32)), .setI0 14 (.conv .i64 (.var 13)), .call 11 [(.ivar .i64 8), (.ivar .i64 10), (.ivar .i64 12), (.ivar .i64 14), (.lit (.int .i32 0))] 15 [(.ri .u32), (.ri .i64)], .setI0 17 (.bin .rem .u8 (.var 4) (.lit 32)), .setI0 18 (.conv .i64 (.var 17)), .setI0 19 (.bin .rem .u8 (.var 2) (.lit 32)), .setI0 20 (.conv .i64 (.var 19)), .setI0 21 (.bin .rem .u8 (.var 3) (.lit 32)), .setI0 22 (.conv .i64 (.var 21)), .call 11 [(.ivar .i64 8), (.ivar .i64 18), (.ivar .i64 20), (.ivar .i64 22), (.lit (.int .i32 0))] 23 [(.ri .u32), (.ri .i64)], .call 11 [(.ivar .i64 8), (.lit (.int .i64 0)), (.lit (.int .i64 0)), (.lit (.int .i64 0)), (.lit (.int .i32 0))] 25 [(.ri .u32), (.ri .i64)], .setB0 27 (.cmp .eql (.var 16) (.lit 0))] 27
 (.nb [.setB0 28 (.cmp .eql (.var 24) (.lit 0))] 28
 (.nb [.setB0 29 (.cmp .eql (.var 26) (.lit 0))] 29
 (.nb [.setI0 30 (.bin .xor .u32 (.var 15) (.var 23)), .setI0 31 (.bin .rem .u8 (.var 1) (.lit 32)), .setI0 32 (.bin .rem .u8 (.var 4) (.lit 32)), .setI0 33 (.bin .xor .u8 (.var 31) (.var 32)), .setI0 34 (.conv .u32 (.var 33)), .setI0 35 (.bin .shl .u32 (.var 34) (.lit 7)), .setB0 36 (.cmp .eql (.var 30) (.var 35))] 36
 (.leaf [.setI0 37 (.bin .rem .u8 (.var 1) (.lit 32)), .setI0 38 (.conv .u32 (.var 37)), .setI0 39 (.bin .shl .u32 (.var 38) (.lit 7)), .setI0 40 (.bin .or .u32 (.var 25) (.var 39)), .setI0 41 (.bin .rem .u8 (.var 2) (.lit 32)), .setI0 42 (.conv .u32 (.var 41)), .setI0 43 (.bin .shl .u32 (.var 42) (.lit 15)), .setI0 44 (.bin .or .u32 (.var 40) (.var 43)), .setI0 45 (.bin .rem .u8 (.var 3) (.lit 32)), .setI0 46 (.conv .u32 (.var 45)), .setI0 47 (.bin .shl .u32 (.var 46) (.lit 20)), .setI0 48 (.bin .or .u32 (.var 44) (.var 47)), .setB0 49 (.cmp .eql (.var 15) (.var 48))] (.w (.c (.bvar 49 false))))
 (.leaf [] (.w (.c (.lit (.bool false))))))
 (.leaf [] (.w (.c (.lit (.bool false))))))
 (.leaf [] (.w (.c (.lit (.bool false))))))
 (.leaf [] (.w (.c (.lit (.bool false))))))
 (.leaf [] (.w (.c (.lit (.bool false))))))
theorem RvFieldsT_ok : LT.Ok RvFieldsR RvFieldsT [] [] :=
 (LT.ok_nb (LT.ok_nb (LT.ok_nb (LT.ok_nb (LT.ok_nb (LT.ok_leaf (by kernel_rfl))
 (LT.ok_leaf (by kernel_rfl)))
 (LT.ok_leaf (by kernel_rfl)))
 (LT.ok_leaf (by kernel_rfl)))
 (LT.ok_leaf (by kernel_rfl)))
 (LT.ok_leaf (by kernel_rfl)))
theorem RvFields_ok : SumT Tryd.prog phi 8 RvFieldsS := treeSum (t := RvFieldsT) (lf := 1000) (d := 50) RvFieldsC_ok (fun xs w => Tryd.call8 xs w)
 RvFieldsT_ok
 (by kernel_rfl)
 (by
  intro a0 h0 a1 h1 a2 h2 a3 h3 a4 h4
  exact ⟨obl_nil (by kernel_rfl), by kernel_rfl⟩)
end Go.Proofs.YtahhfjmgdalfpaaDoor
