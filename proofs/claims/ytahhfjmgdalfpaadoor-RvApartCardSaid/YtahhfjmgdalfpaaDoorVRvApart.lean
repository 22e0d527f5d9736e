/-
  ferryman/ferrymanlaw3.RvApart: all its ways, printed by a program of this repo.
-/
import Derived.Test.YtahhfjmgdalfpaaDoorBase
import Derived.Test.YtahhfjmgdalfpaaDoorVrvEnc
import Derived.Test.YtahhfjmgdalfpaaDoorVrvText
import Derived.Test.YtahhfjmgdalfpaaDoorVlwKnown
namespace Go.Proofs.YtahhfjmgdalfpaaDoor
open Go.Sx
set_option linter.unusedVariables false
set_option linter.unusedSimpArgs false
set_option maxRecDepth 100000
set_option maxHeartbeats 20000000
noncomputable def RvApartC : Ctx := ⟨tys, fns, ((((.e : Tr Sum).set 11 rvEncS).set 15 rvTextS).set 10 lwKnownS)⟩
theorem RvApartC_ok : CtxT Tryd.prog phi RvApartC := ⟨tys_ok, fns_ok, (((SumsT.e.set rvEnc_ok).set rvText_ok).set lwKnown_ok), mix_ok⟩
noncomputable def RvApartR (ds : List D) : R (SV × St) := fnRun RvApartC 1000 50 6 (symArgs RvApartS.args 0) (st0 ds 10)
noncomputable def RvApartT : LT :=
 (.nb [.call 10 [] 10 [.rb]] 10
 (.nb [.call 11 [(.ivar .i64 0), (.ivar .i64 1), (.ivar .i64 2), (.ivar .i64 3), (.ivar .i32 4)] 11 [(.ri .u32), (.ri .i64)], .call 11 [(.ivar .i64 5), (.ivar .i64 6), (.ivar .i64 7), (.ivar .i64 8), (.ivar .i32 9)] 13 [(.ri .u32), (.ri .i64)], .setB0 15 (.cmp .neq (.var 12) (.lit 0))] 15
 (.leaf [] (.w (.c (.lit (.bool true)))))
 (.nb [.setB0 16 (.cmp .neq (.var 14) (.lit 0))] 16
 (.leaf [] (.w (.c (.lit (.bool true)))))
 (.nb [.setB0 17 (.cmp .eql (.var 11) (.var 13)), .setB0 18 (.all [(.ii (.var 0) (.var 5)), (.ii (.var 1) (.var 6)), (.ii (.var 2) (.var 7)), (.ii (.var 3) (.var 8)), (.ii (.var 4) (.var 9))]), .setB0 19 (.all [(.bb (.var 17 false) (.var 18 false))])] 19
 (.leaf [.call 15 [(.ivar .i64 0), (.ivar .i64 1), (.ivar .i64 2), (.ivar .i64 3), (.ivar .i32 4)] 20 [.rs], .call 15 [(.ivar .i64 5), (.ivar .i64 6), (.ivar .i64 7), (.ivar .i64 8), (.ivar .i32 9)] 21 [.rs], .setB0 22 (.all [(.ss (.var 20) (.var 21))]), .setB0 23 (.all [(.ii (.var 0) (.var 5)), (.ii (.var 1) (.var 6)), (.ii (.var 2) (.var 7)), (.ii (.var 3) (.var 8)), (.ii (.var 4) (.var 9))]), .setB0 24 (.all [(.bb (.var 22 false) (.var 23 false))])] (.w (.c (.bvar 24 false))))
 (.leaf [] (.w (.c (.lit (.bool false))))))))
 (.leaf [] (.w (.c (.lit (.bool false))))))
theorem RvApartT_ok : LT.Ok RvApartR RvApartT [] [] :=
 (LT.ok_nb (LT.ok_nb (LT.ok_leaf (by kernel_rfl))
 (LT.ok_nb (LT.ok_leaf (by kernel_rfl))
 (LT.ok_nb (LT.ok_leaf (by kernel_rfl))
 (LT.ok_leaf (by kernel_rfl)))))
 (LT.ok_leaf (by kernel_rfl)))
theorem RvApart_ok : SumT Tryd.prog phi 6 RvApartS := treeSum (t := RvApartT) (lf := 1000) (d := 50) RvApartC_ok (fun xs w => Tryd.call6 xs w)
 RvApartT_ok
 (by kernel_rfl)
 (by
  intro a0 h0 a1 h1 a2 h2 a3 h3 a4 h4 a5 h5 a6 h6 a7 h7 a8 h8 a9 h9
  exact ⟨obl_nil (by kernel_rfl), by kernel_rfl⟩)
end Go.Proofs.YtahhfjmgdalfpaaDoor
