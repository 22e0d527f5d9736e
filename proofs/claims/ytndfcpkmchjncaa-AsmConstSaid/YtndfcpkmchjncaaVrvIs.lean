/-
  ferryman/rv.Is: all its ways, printed by a program of this repo.
-/
import Derived.Test.YtndfcpkmchjncaaBase
import Derived.Test.YtndfcpkmchjncaaVrvReg
import Derived.Test.YtndfcpkmchjncaaVrvParts
import Derived.Test.YtndfcpkmchjncaaVrvNum
import Derived.Test.YtndfcpkmchjncaaVrvOf
namespace Go.Proofs.Ytndfcpkmchjncaa
open Go.Sx
set_option linter.unusedVariables false
set_option linter.unusedSimpArgs false
set_option maxRecDepth 100000
set_option maxHeartbeats 20000000
noncomputable def rvIsC : Ctx := ⟨tys, fns, (((((.e : Tr Sum).set 98 rvRegS).set 83 rvPartsS).set 99 rvNumS).set 80 rvOfS)⟩
theorem rvIsC_ok : CtxT Try.prog phi rvIsC := ⟨tys_ok, fns_ok, ((((SumsT.e.set rvReg_ok).set rvParts_ok).set rvNum_ok).set rvOf_ok), mix_ok⟩
noncomputable def rvIsR (ds : List D) : R (SV × St) := fnRun rvIsC 1000 50 84 (symArgs rvIsS.args 0) (st0 ds 5)
noncomputable def rvIsT : LT :=
 (.nb [.call 80 [(.ivar .i64 0)] 5 [.rs, (.ri .i64), (.ri .u32), (.ri .u32), (.ri .u32), .rb], .call 83 [(.ivar .i64 6)] 11 [.rb, .rb, .rb]] 10
 (.nb [.call 98 [(.ivar .i64 1), (.bvar 11 false)] 14 [.rb]] 14
 (.nb [.call 98 [(.ivar .i64 2), (.bvar 12 false)] 15 [.rb]] 15
 (.nb [.call 98 [(.ivar .i64 3), (.bvar 13 false)] 16 [.rb]] 16
 (.leaf [.call 99 [(.ivar .i64 6), (.ivar .i32 4)] 17 [.rb]] (.w (.c (.bvar 17 false))))
 (.leaf [] (.w (.c (.lit (.bool false))))))
 (.leaf [] (.w (.c (.lit (.bool false))))))
 (.leaf [] (.w (.c (.lit (.bool false))))))
 (.leaf [] (.w (.c (.lit (.bool false))))))
theorem rvIsT_ok : LT.Ok rvIsR rvIsT [] [] :=
 (LT.ok_nb (LT.ok_nb (LT.ok_nb (LT.ok_nb (LT.ok_leaf (by kernel_rfl))
 (LT.ok_leaf (by kernel_rfl)))
 (LT.ok_leaf (by kernel_rfl)))
 (LT.ok_leaf (by kernel_rfl)))
 (LT.ok_leaf (by kernel_rfl)))
theorem rvIs_ok : SumT Try.prog phi 84 rvIsS := treeSum (t := rvIsT) (lf := 1000) (d := 50) rvIsC_ok (fun xs w => Try.call84 xs w)
 rvIsT_ok
 (by kernel_rfl)
 (by
  intro a0 h0 a1 h1 a2 h2 a3 h3 a4 h4
  exact ⟨obl_nil (by kernel_rfl), by kernel_rfl⟩)
end Go.Proofs.Ytndfcpkmchjncaa
