/-
  ferryman/rv.Decode: all its ways, printed by a program of this repo.
-/
import Derived.Test.YtpclikbjpjoccaaBase
import Derived.Test.YtpclikbjpjoccaaHand
import Derived.Test.YtpclikbjpjoccaaVrvParts
import Derived.Test.YtpclikbjpjoccaaVrvOf
import Derived.Test.YtpclikbjpjoccaaVrvEnc
import Derived.Test.YtpclikbjpjoccaaVrvOpOf
import Derived.Test.YtpclikbjpjoccaaVrvNumOf
namespace Go.Proofs.Ytpclikbjpjoccaa
open Go.Sx
set_option linter.unusedVariables false
set_option linter.unusedSimpArgs false
set_option maxRecDepth 100000
set_option maxHeartbeats 20000000
noncomputable def rvDecC : Ctx := ⟨tys, fns, (((((((.e : Tr Sum).set 57 btFieldS).set 58 rvPartsS).set 54 rvOfS).set 59 rvEncS).set 53 rvOpOfS).set 55 rvNumOfS)⟩
theorem rvDecC_ok : CtxT Try.prog phi rvDecC := ⟨tys_ok, fns_ok, ((((((SumsT.e.set btField_ok).set rvParts_ok).set rvOf_ok).set rvEnc_ok).set rvOpOf_ok).set rvNumOf_ok), mix_ok⟩
noncomputable def rvDecR (ds : List D) : R (SV × St) := fnRun rvDecC 1000 50 40 (symArgs rvDecS.args 0) (st0 ds 1)
noncomputable def rvDecT : LT :=
 (.nb [.call 53 [(.ivar .u32 0)] 1 [(.ri .i64)], .call 54 [(.ivar .i64 1)] 2 [.rs, (.ri .i64), (.ri .u32), (.ri .u32), (.ri .u32), .rb]] 7
 (.nb [.call 55 [(.ivar .i64 3), (.ivar .u32 0)] 8 [(.ri .i32)], .call 58 [(.ivar .i64 3)] 9 [.rb, .rb, .rb]] 9
 (.nb [.call 57 [(.ivar .u32 0), (.lit (.int .i64 7)), (.lit (.int .i64 5))] 12 [(.ri .u32)], .setI0 13 (.conv .i64 (.var 12))] 10
 (.nb [.call 57 [(.ivar .u32 0), (.lit (.int .i64 15)), (.lit (.int .i64 5))] 14 [(.ri .u32)], .setI0 15 (.conv .i64 (.var 14))] 11
 (.nb [.call 57 [(.ivar .u32 0), (.lit (.int .i64 20)), (.lit (.int .i64 5))] 16 [(.ri .u32)], .setI0 17 (.conv .i64 (.var 16)), .call 59 [(.ivar .i64 1), (.ivar .i64 13), (.ivar .i64 15), (.ivar .i64 17), (.ivar .i32 8)] 18 [(.ri .u32), (.ri .i64)], .setB0 20 (.cmp .neq (.var 19) (.lit 0))] 20
 (.leaf [] (.tup [(.agg [(.lit (.int .i64 0)), (.lit (.int .i64 0)), (.lit (.int .i64 0)), (.lit (.int .i64 0)), (.lit (.int .i32 0))]), (.c (.lit (.bool false)))]))
 (.nb [.setB0 21 (.cmp .neq (.var 18) (.var 0))] 21
 (.leaf [] (.tup [(.agg [(.lit (.int .i64 0)), (.lit (.int .i64 0)), (.lit (.int .i64 0)), (.lit (.int .i64 0)), (.lit (.int .i32 0))]), (.c (.lit (.bool false)))]))
 (.leaf [] (.tup [(.agg [(.ivar .i64 1), (.ivar .i64 13), (.ivar .i64 15), (.ivar .i64 17), (.ivar .i32 8)]), (.c (.lit (.bool true)))]))))
 (.nb [.call 59 [(.ivar .i64 1), (.ivar .i64 13), (.ivar .i64 15), (.lit (.int .i64 0)), (.ivar .i32 8)] 16 [(.ri .u32), (.ri .i64)], .setB0 18 (.cmp .neq (.var 17) (.lit 0))] 18
 (.leaf [] (.tup [(.agg [(.lit (.int .i64 0)), (.lit (.int .i64 0)), (.lit (.int .i64 0)), (.lit (.int .i64 0)), (.lit (.int .i32 0))]), (.c (.lit (.bool false)))]))
 (.nb [.setB0 19 (.cmp .neq (.var 16) (.var 0))] 19
 (.leaf [] (.tup [(.agg [(.lit (.int .i64 0)), (.lit (.int .i64 0)), (.lit (.int .i64 0)), (.lit (.int .i64 0)), (.lit (.int .i32 0))]), (.c (.lit (.bool false)))]))
 (.leaf [] (.tup [(.agg [(.ivar .i64 1), (.ivar .i64 13), (.ivar .i64 15), (.lit (.int .i64 0)), (.ivar .i32 8)]), (.c (.lit (.bool true)))])))))
 (.nb [] 11
 (.nb [.call 57 [(.ivar .u32 0), (.lit (.int .i64 20)), (.lit (.int .i64 5))] 14 [(.ri .u32)], .setI0 15 (.conv .i64 (.var 14)), .call 59 [(.ivar .i64 1), (.ivar .i64 13), (.lit (.int .i64 0)), (.ivar .i64 15), (.ivar .i32 8)] 16 [(.ri .u32), (.ri .i64)], .setB0 18 (.cmp .neq (.var 17) (.lit 0))] 18
 (.leaf [] (.tup [(.agg [(.lit (.int .i64 0)), (.lit (.int .i64 0)), (.lit (.int .i64 0)), (.lit (.int .i64 0)), (.lit (.int .i32 0))]), (.c (.lit (.bool false)))]))
 (.nb [.setB0 19 (.cmp .neq (.var 16) (.var 0))] 19
 (.leaf [] (.tup [(.agg [(.lit (.int .i64 0)), (.lit (.int .i64 0)), (.lit (.int .i64 0)), (.lit (.int .i64 0)), (.lit (.int .i32 0))]), (.c (.lit (.bool false)))]))
 (.leaf [] (.tup [(.agg [(.ivar .i64 1), (.ivar .i64 13), (.lit (.int .i64 0)), (.ivar .i64 15), (.ivar .i32 8)]), (.c (.lit (.bool true)))]))))
 (.nb [.call 59 [(.ivar .i64 1), (.ivar .i64 13), (.lit (.int .i64 0)), (.lit (.int .i64 0)), (.ivar .i32 8)] 14 [(.ri .u32), (.ri .i64)], .setB0 16 (.cmp .neq (.var 15) (.lit 0))] 16
 (.leaf [] (.tup [(.agg [(.lit (.int .i64 0)), (.lit (.int .i64 0)), (.lit (.int .i64 0)), (.lit (.int .i64 0)), (.lit (.int .i32 0))]), (.c (.lit (.bool false)))]))
 (.nb [.setB0 17 (.cmp .neq (.var 14) (.var 0))] 17
 (.leaf [] (.tup [(.agg [(.lit (.int .i64 0)), (.lit (.int .i64 0)), (.lit (.int .i64 0)), (.lit (.int .i64 0)), (.lit (.int .i32 0))]), (.c (.lit (.bool false)))]))
 (.leaf [] (.tup [(.agg [(.ivar .i64 1), (.ivar .i64 13), (.lit (.int .i64 0)), (.lit (.int .i64 0)), (.ivar .i32 8)]), (.c (.lit (.bool true)))]))))))
 (.nb [] 10
 (.nb [.call 57 [(.ivar .u32 0), (.lit (.int .i64 15)), (.lit (.int .i64 5))] 12 [(.ri .u32)], .setI0 13 (.conv .i64 (.var 12))] 11
 (.nb [.call 57 [(.ivar .u32 0), (.lit (.int .i64 20)), (.lit (.int .i64 5))] 14 [(.ri .u32)], .setI0 15 (.conv .i64 (.var 14)), .call 59 [(.ivar .i64 1), (.lit (.int .i64 0)), (.ivar .i64 13), (.ivar .i64 15), (.ivar .i32 8)] 16 [(.ri .u32), (.ri .i64)], .setB0 18 (.cmp .neq (.var 17) (.lit 0))] 18
 (.leaf [] (.tup [(.agg [(.lit (.int .i64 0)), (.lit (.int .i64 0)), (.lit (.int .i64 0)), (.lit (.int .i64 0)), (.lit (.int .i32 0))]), (.c (.lit (.bool false)))]))
 (.nb [.setB0 19 (.cmp .neq (.var 16) (.var 0))] 19
 (.leaf [] (.tup [(.agg [(.lit (.int .i64 0)), (.lit (.int .i64 0)), (.lit (.int .i64 0)), (.lit (.int .i64 0)), (.lit (.int .i32 0))]), (.c (.lit (.bool false)))]))
 (.leaf [] (.tup [(.agg [(.ivar .i64 1), (.lit (.int .i64 0)), (.ivar .i64 13), (.ivar .i64 15), (.ivar .i32 8)]), (.c (.lit (.bool true)))]))))
 (.nb [.call 59 [(.ivar .i64 1), (.lit (.int .i64 0)), (.ivar .i64 13), (.lit (.int .i64 0)), (.ivar .i32 8)] 14 [(.ri .u32), (.ri .i64)], .setB0 16 (.cmp .neq (.var 15) (.lit 0))] 16
 (.leaf [] (.tup [(.agg [(.lit (.int .i64 0)), (.lit (.int .i64 0)), (.lit (.int .i64 0)), (.lit (.int .i64 0)), (.lit (.int .i32 0))]), (.c (.lit (.bool false)))]))
 (.nb [.setB0 17 (.cmp .neq (.var 14) (.var 0))] 17
 (.leaf [] (.tup [(.agg [(.lit (.int .i64 0)), (.lit (.int .i64 0)), (.lit (.int .i64 0)), (.lit (.int .i64 0)), (.lit (.int .i32 0))]), (.c (.lit (.bool false)))]))
 (.leaf [] (.tup [(.agg [(.ivar .i64 1), (.lit (.int .i64 0)), (.ivar .i64 13), (.lit (.int .i64 0)), (.ivar .i32 8)]), (.c (.lit (.bool true)))])))))
 (.nb [] 11
 (.nb [.call 57 [(.ivar .u32 0), (.lit (.int .i64 20)), (.lit (.int .i64 5))] 12 [(.ri .u32)], .setI0 13 (.conv .i64 (.var 12)), .call 59 [(.ivar .i64 1), (.lit (.int .i64 0)), (.lit (.int .i64 0)), (.ivar .i64 13), (.ivar .i32 8)] 14 [(.ri .u32), (.ri .i64)], .setB0 16 (.cmp .neq (.var 15) (.lit 0))] 16
 (.leaf [] (.tup [(.agg [(.lit (.int .i64 0)), (.lit (.int .i64 0)), (.lit (.int .i64 0)), (.lit (.int .i64 0)), (.lit (.int .i32 0))]), (.c (.lit (.bool false)))]))
 (.nb [.setB0 17 (.cmp .neq (.var 14) (.var 0))] 17
 (.leaf [] (.tup [(.agg [(.lit (.int .i64 0)), (.lit (.int .i64 0)), (.lit (.int .i64 0)), (.lit (.int .i64 0)), (.lit (.int .i32 0))]), (.c (.lit (.bool false)))]))
 (.leaf [] (.tup [(.agg [(.ivar .i64 1), (.lit (.int .i64 0)), (.lit (.int .i64 0)), (.ivar .i64 13), (.ivar .i32 8)]), (.c (.lit (.bool true)))]))))
 (.nb [.call 59 [(.ivar .i64 1), (.lit (.int .i64 0)), (.lit (.int .i64 0)), (.lit (.int .i64 0)), (.ivar .i32 8)] 12 [(.ri .u32), (.ri .i64)], .setB0 14 (.cmp .neq (.var 13) (.lit 0))] 14
 (.leaf [] (.tup [(.agg [(.lit (.int .i64 0)), (.lit (.int .i64 0)), (.lit (.int .i64 0)), (.lit (.int .i64 0)), (.lit (.int .i32 0))]), (.c (.lit (.bool false)))]))
 (.nb [.setB0 15 (.cmp .neq (.var 12) (.var 0))] 15
 (.leaf [] (.tup [(.agg [(.lit (.int .i64 0)), (.lit (.int .i64 0)), (.lit (.int .i64 0)), (.lit (.int .i64 0)), (.lit (.int .i32 0))]), (.c (.lit (.bool false)))]))
 (.leaf [] (.tup [(.agg [(.ivar .i64 1), (.lit (.int .i64 0)), (.lit (.int .i64 0)), (.lit (.int .i64 0)), (.ivar .i32 8)]), (.c (.lit (.bool true)))])))))))
 (.leaf [] (.tup [(.agg [(.lit (.int .i64 0)), (.lit (.int .i64 0)), (.lit (.int .i64 0)), (.lit (.int .i64 0)), (.lit (.int .i32 0))]), (.c (.lit (.bool false)))])))
theorem rvDecT_ok : LT.Ok rvDecR rvDecT [] [] :=
 (LT.ok_nb (LT.ok_nb (LT.ok_nb (LT.ok_nb (LT.ok_nb (LT.ok_leaf (by kernel_rfl))
 (LT.ok_nb (LT.ok_leaf (by kernel_rfl))
 (LT.ok_leaf (by kernel_rfl))))
 (LT.ok_nb (LT.ok_leaf (by kernel_rfl))
 (LT.ok_nb (LT.ok_leaf (by kernel_rfl))
 (LT.ok_leaf (by kernel_rfl)))))
 (LT.ok_nb (LT.ok_nb (LT.ok_leaf (by kernel_rfl))
 (LT.ok_nb (LT.ok_leaf (by kernel_rfl))
 (LT.ok_leaf (by kernel_rfl))))
 (LT.ok_nb (LT.ok_leaf (by kernel_rfl))
 (LT.ok_nb (LT.ok_leaf (by kernel_rfl))
 (LT.ok_leaf (by kernel_rfl))))))
 (LT.ok_nb (LT.ok_nb (LT.ok_nb (LT.ok_leaf (by kernel_rfl))
 (LT.ok_nb (LT.ok_leaf (by kernel_rfl))
 (LT.ok_leaf (by kernel_rfl))))
 (LT.ok_nb (LT.ok_leaf (by kernel_rfl))
 (LT.ok_nb (LT.ok_leaf (by kernel_rfl))
 (LT.ok_leaf (by kernel_rfl)))))
 (LT.ok_nb (LT.ok_nb (LT.ok_leaf (by kernel_rfl))
 (LT.ok_nb (LT.ok_leaf (by kernel_rfl))
 (LT.ok_leaf (by kernel_rfl))))
 (LT.ok_nb (LT.ok_leaf (by kernel_rfl))
 (LT.ok_nb (LT.ok_leaf (by kernel_rfl))
 (LT.ok_leaf (by kernel_rfl)))))))
 (LT.ok_leaf (by kernel_rfl)))
theorem rvDec_ok : SumT Try.prog phi 40 rvDecS := treeSum (t := rvDecT) (lf := 1000) (d := 50) rvDecC_ok (fun xs w => Try.call40 xs w)
 rvDecT_ok
 (by kernel_rfl)
 (by
  intro a0 h0
  exact ⟨obl_nil (by kernel_rfl), by kernel_rfl⟩)
end Go.Proofs.Ytpclikbjpjoccaa
