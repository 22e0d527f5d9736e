/-
  ferryman/rv.of: all its ways, printed by a program of this repo.
-/
import Derived.Test.YtndfcpkmchjncaaBase
namespace Go.Proofs.Ytndfcpkmchjncaa
open Go.Sx
set_option linter.unusedVariables false
set_option linter.unusedSimpArgs false
set_option maxRecDepth 100000
set_option maxHeartbeats 20000000
noncomputable def rvOfC : Ctx := ⟨tys, fns, (.e : Tr Sum)⟩
theorem rvOfC_ok : CtxT Try.prog phi rvOfC := ⟨tys_ok, fns_ok, SumsT.e, mix_ok⟩
noncomputable def rvOfR (ds : List D) : R (SV × St) := fnRun rvOfC 1000 50 80 (symArgs rvOfS.args 0) (st0 ds 1)
noncomputable def rvOfT : LT :=
 (.nb [.setB0 1 (.cmp .lss (.var 0) (.lit 1))] 1
 (.leaf [] (.tup [(.agg [(.lit (.string ⟨#[]⟩)), (.lit (.int .i64 0)), (.lit (.int .u32 0)), (.lit (.int .u32 0)), (.lit (.int .u32 0))]), (.c (.lit (.bool false)))]))
 (.nb [.setB0 2 (.cmp .gtr (.var 0) (.lit 47))] 2
 (.leaf [] (.tup [(.agg [(.lit (.string ⟨#[]⟩)), (.lit (.int .i64 0)), (.lit (.int .u32 0)), (.lit (.int .u32 0)), (.lit (.int .u32 0))]), (.c (.lit (.bool false)))]))
 (.ni [] 0 1
 (.leaf [] (.tup [(.agg [(.lit (.string ⟨#[108, 117, 105]⟩)), (.lit (.int .i64 7)), (.lit (.int .u32 55)), (.lit (.int .u32 0)), (.lit (.int .u32 0))]), (.c (.lit (.bool true)))]))
 (.ni [] 0 2
 (.leaf [] (.tup [(.agg [(.lit (.string ⟨#[97, 117, 105, 112, 99]⟩)), (.lit (.int .i64 7)), (.lit (.int .u32 23)), (.lit (.int .u32 0)), (.lit (.int .u32 0))]), (.c (.lit (.bool true)))]))
 (.ni [] 0 3
 (.leaf [] (.tup [(.agg [(.lit (.string ⟨#[106, 97, 108]⟩)), (.lit (.int .i64 8)), (.lit (.int .u32 111)), (.lit (.int .u32 0)), (.lit (.int .u32 0))]), (.c (.lit (.bool true)))]))
 (.ni [] 0 4
 (.leaf [] (.tup [(.agg [(.lit (.string ⟨#[106, 97, 108, 114]⟩)), (.lit (.int .i64 2)), (.lit (.int .u32 103)), (.lit (.int .u32 0)), (.lit (.int .u32 0))]), (.c (.lit (.bool true)))]))
 (.ni [] 0 5
 (.leaf [] (.tup [(.agg [(.lit (.string ⟨#[98, 101, 113]⟩)), (.lit (.int .i64 6)), (.lit (.int .u32 99)), (.lit (.int .u32 0)), (.lit (.int .u32 0))]), (.c (.lit (.bool true)))]))
 (.ni [] 0 6
 (.leaf [] (.tup [(.agg [(.lit (.string ⟨#[98, 110, 101]⟩)), (.lit (.int .i64 6)), (.lit (.int .u32 99)), (.lit (.int .u32 1)), (.lit (.int .u32 0))]), (.c (.lit (.bool true)))]))
 (.ni [] 0 7
 (.leaf [] (.tup [(.agg [(.lit (.string ⟨#[98, 108, 116]⟩)), (.lit (.int .i64 6)), (.lit (.int .u32 99)), (.lit (.int .u32 4)), (.lit (.int .u32 0))]), (.c (.lit (.bool true)))]))
 (.ni [] 0 8
 (.leaf [] (.tup [(.agg [(.lit (.string ⟨#[98, 103, 101]⟩)), (.lit (.int .i64 6)), (.lit (.int .u32 99)), (.lit (.int .u32 5)), (.lit (.int .u32 0))]), (.c (.lit (.bool true)))]))
 (.ni [] 0 9
 (.leaf [] (.tup [(.agg [(.lit (.string ⟨#[98, 108, 116, 117]⟩)), (.lit (.int .i64 6)), (.lit (.int .u32 99)), (.lit (.int .u32 6)), (.lit (.int .u32 0))]), (.c (.lit (.bool true)))]))
 (.ni [] 0 10
 (.leaf [] (.tup [(.agg [(.lit (.string ⟨#[98, 103, 101, 117]⟩)), (.lit (.int .i64 6)), (.lit (.int .u32 99)), (.lit (.int .u32 7)), (.lit (.int .u32 0))]), (.c (.lit (.bool true)))]))
 (.ni [] 0 11
 (.leaf [] (.tup [(.agg [(.lit (.string ⟨#[108, 98]⟩)), (.lit (.int .i64 3)), (.lit (.int .u32 3)), (.lit (.int .u32 0)), (.lit (.int .u32 0))]), (.c (.lit (.bool true)))]))
 (.ni [] 0 12
 (.leaf [] (.tup [(.agg [(.lit (.string ⟨#[108, 104]⟩)), (.lit (.int .i64 3)), (.lit (.int .u32 3)), (.lit (.int .u32 1)), (.lit (.int .u32 0))]), (.c (.lit (.bool true)))]))
 (.ni [] 0 13
 (.leaf [] (.tup [(.agg [(.lit (.string ⟨#[108, 119]⟩)), (.lit (.int .i64 3)), (.lit (.int .u32 3)), (.lit (.int .u32 2)), (.lit (.int .u32 0))]), (.c (.lit (.bool true)))]))
 (.ni [] 0 14
 (.leaf [] (.tup [(.agg [(.lit (.string ⟨#[108, 98, 117]⟩)), (.lit (.int .i64 3)), (.lit (.int .u32 3)), (.lit (.int .u32 4)), (.lit (.int .u32 0))]), (.c (.lit (.bool true)))]))
 (.ni [] 0 15
 (.leaf [] (.tup [(.agg [(.lit (.string ⟨#[108, 104, 117]⟩)), (.lit (.int .i64 3)), (.lit (.int .u32 3)), (.lit (.int .u32 5)), (.lit (.int .u32 0))]), (.c (.lit (.bool true)))]))
 (.ni [] 0 16
 (.leaf [] (.tup [(.agg [(.lit (.string ⟨#[115, 98]⟩)), (.lit (.int .i64 5)), (.lit (.int .u32 35)), (.lit (.int .u32 0)), (.lit (.int .u32 0))]), (.c (.lit (.bool true)))]))
 (.ni [] 0 17
 (.leaf [] (.tup [(.agg [(.lit (.string ⟨#[115, 104]⟩)), (.lit (.int .i64 5)), (.lit (.int .u32 35)), (.lit (.int .u32 1)), (.lit (.int .u32 0))]), (.c (.lit (.bool true)))]))
 (.ni [] 0 18
 (.leaf [] (.tup [(.agg [(.lit (.string ⟨#[115, 119]⟩)), (.lit (.int .i64 5)), (.lit (.int .u32 35)), (.lit (.int .u32 2)), (.lit (.int .u32 0))]), (.c (.lit (.bool true)))]))
 (.ni [] 0 19
 (.leaf [] (.tup [(.agg [(.lit (.string ⟨#[97, 100, 100, 105]⟩)), (.lit (.int .i64 2)), (.lit (.int .u32 19)), (.lit (.int .u32 0)), (.lit (.int .u32 0))]), (.c (.lit (.bool true)))]))
 (.ni [] 0 20
 (.leaf [] (.tup [(.agg [(.lit (.string ⟨#[115, 108, 116, 105]⟩)), (.lit (.int .i64 2)), (.lit (.int .u32 19)), (.lit (.int .u32 2)), (.lit (.int .u32 0))]), (.c (.lit (.bool true)))]))
 (.ni [] 0 21
 (.leaf [] (.tup [(.agg [(.lit (.string ⟨#[115, 108, 116, 105, 117]⟩)), (.lit (.int .i64 2)), (.lit (.int .u32 19)), (.lit (.int .u32 3)), (.lit (.int .u32 0))]), (.c (.lit (.bool true)))]))
 (.ni [] 0 22
 (.leaf [] (.tup [(.agg [(.lit (.string ⟨#[120, 111, 114, 105]⟩)), (.lit (.int .i64 2)), (.lit (.int .u32 19)), (.lit (.int .u32 4)), (.lit (.int .u32 0))]), (.c (.lit (.bool true)))]))
 (.ni [] 0 23
 (.leaf [] (.tup [(.agg [(.lit (.string ⟨#[111, 114, 105]⟩)), (.lit (.int .i64 2)), (.lit (.int .u32 19)), (.lit (.int .u32 6)), (.lit (.int .u32 0))]), (.c (.lit (.bool true)))]))
 (.ni [] 0 24
 (.leaf [] (.tup [(.agg [(.lit (.string ⟨#[97, 110, 100, 105]⟩)), (.lit (.int .i64 2)), (.lit (.int .u32 19)), (.lit (.int .u32 7)), (.lit (.int .u32 0))]), (.c (.lit (.bool true)))]))
 (.ni [] 0 25
 (.leaf [] (.tup [(.agg [(.lit (.string ⟨#[115, 108, 108, 105]⟩)), (.lit (.int .i64 4)), (.lit (.int .u32 19)), (.lit (.int .u32 1)), (.lit (.int .u32 0))]), (.c (.lit (.bool true)))]))
 (.ni [] 0 26
 (.leaf [] (.tup [(.agg [(.lit (.string ⟨#[115, 114, 108, 105]⟩)), (.lit (.int .i64 4)), (.lit (.int .u32 19)), (.lit (.int .u32 5)), (.lit (.int .u32 0))]), (.c (.lit (.bool true)))]))
 (.ni [] 0 27
 (.leaf [] (.tup [(.agg [(.lit (.string ⟨#[115, 114, 97, 105]⟩)), (.lit (.int .i64 4)), (.lit (.int .u32 19)), (.lit (.int .u32 5)), (.lit (.int .u32 32))]), (.c (.lit (.bool true)))]))
 (.ni [] 0 28
 (.leaf [] (.tup [(.agg [(.lit (.string ⟨#[97, 100, 100]⟩)), (.lit (.int .i64 1)), (.lit (.int .u32 51)), (.lit (.int .u32 0)), (.lit (.int .u32 0))]), (.c (.lit (.bool true)))]))
 (.ni [] 0 29
 (.leaf [] (.tup [(.agg [(.lit (.string ⟨#[115, 117, 98]⟩)), (.lit (.int .i64 1)), (.lit (.int .u32 51)), (.lit (.int .u32 0)), (.lit (.int .u32 32))]), (.c (.lit (.bool true)))]))
 (.ni [] 0 30
 (.leaf [] (.tup [(.agg [(.lit (.string ⟨#[115, 108, 108]⟩)), (.lit (.int .i64 1)), (.lit (.int .u32 51)), (.lit (.int .u32 1)), (.lit (.int .u32 0))]), (.c (.lit (.bool true)))]))
 (.ni [] 0 31
 (.leaf [] (.tup [(.agg [(.lit (.string ⟨#[115, 108, 116]⟩)), (.lit (.int .i64 1)), (.lit (.int .u32 51)), (.lit (.int .u32 2)), (.lit (.int .u32 0))]), (.c (.lit (.bool true)))]))
 (.ni [] 0 32
 (.leaf [] (.tup [(.agg [(.lit (.string ⟨#[115, 108, 116, 117]⟩)), (.lit (.int .i64 1)), (.lit (.int .u32 51)), (.lit (.int .u32 3)), (.lit (.int .u32 0))]), (.c (.lit (.bool true)))]))
 (.ni [] 0 33
 (.leaf [] (.tup [(.agg [(.lit (.string ⟨#[120, 111, 114]⟩)), (.lit (.int .i64 1)), (.lit (.int .u32 51)), (.lit (.int .u32 4)), (.lit (.int .u32 0))]), (.c (.lit (.bool true)))]))
 (.ni [] 0 34
 (.leaf [] (.tup [(.agg [(.lit (.string ⟨#[115, 114, 108]⟩)), (.lit (.int .i64 1)), (.lit (.int .u32 51)), (.lit (.int .u32 5)), (.lit (.int .u32 0))]), (.c (.lit (.bool true)))]))
 (.ni [] 0 35
 (.leaf [] (.tup [(.agg [(.lit (.string ⟨#[115, 114, 97]⟩)), (.lit (.int .i64 1)), (.lit (.int .u32 51)), (.lit (.int .u32 5)), (.lit (.int .u32 32))]), (.c (.lit (.bool true)))]))
 (.ni [] 0 36
 (.leaf [] (.tup [(.agg [(.lit (.string ⟨#[111, 114]⟩)), (.lit (.int .i64 1)), (.lit (.int .u32 51)), (.lit (.int .u32 6)), (.lit (.int .u32 0))]), (.c (.lit (.bool true)))]))
 (.ni [] 0 37
 (.leaf [] (.tup [(.agg [(.lit (.string ⟨#[97, 110, 100]⟩)), (.lit (.int .i64 1)), (.lit (.int .u32 51)), (.lit (.int .u32 7)), (.lit (.int .u32 0))]), (.c (.lit (.bool true)))]))
 (.ni [] 0 38
 (.leaf [] (.tup [(.agg [(.lit (.string ⟨#[109, 117, 108]⟩)), (.lit (.int .i64 1)), (.lit (.int .u32 51)), (.lit (.int .u32 0)), (.lit (.int .u32 1))]), (.c (.lit (.bool true)))]))
 (.ni [] 0 39
 (.leaf [] (.tup [(.agg [(.lit (.string ⟨#[109, 117, 108, 104]⟩)), (.lit (.int .i64 1)), (.lit (.int .u32 51)), (.lit (.int .u32 1)), (.lit (.int .u32 1))]), (.c (.lit (.bool true)))]))
 (.ni [] 0 40
 (.leaf [] (.tup [(.agg [(.lit (.string ⟨#[109, 117, 108, 104, 115, 117]⟩)), (.lit (.int .i64 1)), (.lit (.int .u32 51)), (.lit (.int .u32 2)), (.lit (.int .u32 1))]), (.c (.lit (.bool true)))]))
 (.ni [] 0 41
 (.leaf [] (.tup [(.agg [(.lit (.string ⟨#[109, 117, 108, 104, 117]⟩)), (.lit (.int .i64 1)), (.lit (.int .u32 51)), (.lit (.int .u32 3)), (.lit (.int .u32 1))]), (.c (.lit (.bool true)))]))
 (.ni [] 0 42
 (.leaf [] (.tup [(.agg [(.lit (.string ⟨#[100, 105, 118]⟩)), (.lit (.int .i64 1)), (.lit (.int .u32 51)), (.lit (.int .u32 4)), (.lit (.int .u32 1))]), (.c (.lit (.bool true)))]))
 (.ni [] 0 43
 (.leaf [] (.tup [(.agg [(.lit (.string ⟨#[100, 105, 118, 117]⟩)), (.lit (.int .i64 1)), (.lit (.int .u32 51)), (.lit (.int .u32 5)), (.lit (.int .u32 1))]), (.c (.lit (.bool true)))]))
 (.ni [] 0 44
 (.leaf [] (.tup [(.agg [(.lit (.string ⟨#[114, 101, 109]⟩)), (.lit (.int .i64 1)), (.lit (.int .u32 51)), (.lit (.int .u32 6)), (.lit (.int .u32 1))]), (.c (.lit (.bool true)))]))
 (.ni [] 0 45
 (.leaf [] (.tup [(.agg [(.lit (.string ⟨#[114, 101, 109, 117]⟩)), (.lit (.int .i64 1)), (.lit (.int .u32 51)), (.lit (.int .u32 7)), (.lit (.int .u32 1))]), (.c (.lit (.bool true)))]))
 (.ni [] 0 46
 (.leaf [] (.tup [(.agg [(.lit (.string ⟨#[101, 99, 97, 108, 108]⟩)), (.lit (.int .i64 9)), (.lit (.int .u32 115)), (.lit (.int .u32 0)), (.lit (.int .u32 0))]), (.c (.lit (.bool true)))]))
 (.ni [] 0 47
 (.leaf [] (.tup [(.agg [(.lit (.string ⟨#[101, 98, 114, 101, 97, 107]⟩)), (.lit (.int .i64 9)), (.lit (.int .u32 115)), (.lit (.int .u32 0)), (.lit (.int .u32 0))]), (.c (.lit (.bool true)))]))
 (.dead []))))))))))))))))))))))))))))))))))))))))))))))))))
theorem rvOfT_ok : LT.Ok rvOfR rvOfT [] [] :=
 (LT.ok_nb (LT.ok_leaf (by kernel_rfl))
 (LT.ok_nb (LT.ok_leaf (by kernel_rfl))
 (LT.ok_ni (LT.ok_leaf (by kernel_rfl))
 (LT.ok_ni (LT.ok_leaf (by kernel_rfl))
 (LT.ok_ni (LT.ok_leaf (by kernel_rfl))
 (LT.ok_ni (LT.ok_leaf (by kernel_rfl))
 (LT.ok_ni (LT.ok_leaf (by kernel_rfl))
 (LT.ok_ni (LT.ok_leaf (by kernel_rfl))
 (LT.ok_ni (LT.ok_leaf (by kernel_rfl))
 (LT.ok_ni (LT.ok_leaf (by kernel_rfl))
 (LT.ok_ni (LT.ok_leaf (by kernel_rfl))
 (LT.ok_ni (LT.ok_leaf (by kernel_rfl))
 (LT.ok_ni (LT.ok_leaf (by kernel_rfl))
 (LT.ok_ni (LT.ok_leaf (by kernel_rfl))
 (LT.ok_ni (LT.ok_leaf (by kernel_rfl))
 (LT.ok_ni (LT.ok_leaf (by kernel_rfl))
 (LT.ok_ni (LT.ok_leaf (by kernel_rfl))
 (LT.ok_ni (LT.ok_leaf (by kernel_rfl))
 (LT.ok_ni (LT.ok_leaf (by kernel_rfl))
 (LT.ok_ni (LT.ok_leaf (by kernel_rfl))
 (LT.ok_ni (LT.ok_leaf (by kernel_rfl))
 (LT.ok_ni (LT.ok_leaf (by kernel_rfl))
 (LT.ok_ni (LT.ok_leaf (by kernel_rfl))
 (LT.ok_ni (LT.ok_leaf (by kernel_rfl))
 (LT.ok_ni (LT.ok_leaf (by kernel_rfl))
 (LT.ok_ni (LT.ok_leaf (by kernel_rfl))
 (LT.ok_ni (LT.ok_leaf (by kernel_rfl))
 (LT.ok_ni (LT.ok_leaf (by kernel_rfl))
 (LT.ok_ni (LT.ok_leaf (by kernel_rfl))
 (LT.ok_ni (LT.ok_leaf (by kernel_rfl))
 (LT.ok_ni (LT.ok_leaf (by kernel_rfl))
 (LT.ok_ni (LT.ok_leaf (by kernel_rfl))
 (LT.ok_ni (LT.ok_leaf (by kernel_rfl))
 (LT.ok_ni (LT.ok_leaf (by kernel_rfl))
 (LT.ok_ni (LT.ok_leaf (by kernel_rfl))
 (LT.ok_ni (LT.ok_leaf (by kernel_rfl))
 (LT.ok_ni (LT.ok_leaf (by kernel_rfl))
 (LT.ok_ni (LT.ok_leaf (by kernel_rfl))
 (LT.ok_ni (LT.ok_leaf (by kernel_rfl))
 (LT.ok_ni (LT.ok_leaf (by kernel_rfl))
 (LT.ok_ni (LT.ok_leaf (by kernel_rfl))
 (LT.ok_ni (LT.ok_leaf (by kernel_rfl))
 (LT.ok_ni (LT.ok_leaf (by kernel_rfl))
 (LT.ok_ni (LT.ok_leaf (by kernel_rfl))
 (LT.ok_ni (LT.ok_leaf (by kernel_rfl))
 (LT.ok_ni (LT.ok_leaf (by kernel_rfl))
 (LT.ok_ni (LT.ok_leaf (by kernel_rfl))
 (LT.ok_ni (LT.ok_leaf (by kernel_rfl))
 (LT.ok_ni (LT.ok_leaf (by kernel_rfl))
 LT.ok_dead)))))))))))))))))))))))))))))))))))))))))))))))))
theorem rvOf_ok : SumT Try.prog phi 80 rvOfS := treeSum (t := rvOfT) (lf := 1000) (d := 50) rvOfC_ok (fun xs w => Try.call80 xs w)
 rvOfT_ok
 (by kernel_rfl)
 (by
  intro a0 h0
  exact ⟨obl_nil (by kernel_rfl), by kernel_rfl⟩)
end Go.Proofs.Ytndfcpkmchjncaa
