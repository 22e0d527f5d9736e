/-
  ferryman/ferrymanref3.of: all its ways, printed by a program of this repo.
-/
import Derived.Test.YtndfcpkmchjncaaBase
namespace Go.Proofs.Ytndfcpkmchjncaa
open Go.Sx
set_option linter.unusedVariables false
set_option linter.unusedSimpArgs false
set_option maxRecDepth 100000
set_option maxHeartbeats 20000000
noncomputable def rfOfC : Ctx := ⟨tys, fns, (.e : Tr Sum)⟩
theorem rfOfC_ok : CtxT Try.prog phi rfOfC := ⟨tys_ok, fns_ok, SumsT.e, mix_ok⟩
noncomputable def rfOfR (ds : List D) : R (SV × St) := fnRun rfOfC 1000 50 69 (symArgs rfOfS.args 0) (st0 ds 1)
noncomputable def rfOfT : LT :=
 (.nb [.setB0 1 (.cmp .lss (.var 0) (.lit 1))] 1
 (.leaf [] (.w (.agg [(.lit (.int .u8 0)), (.lit (.int .u32 0)), (.lit (.int .u32 0)), (.lit (.int .u32 0))])))
 (.nb [.setB0 2 (.cmp .gtr (.var 0) (.lit 47))] 2
 (.leaf [] (.w (.agg [(.lit (.int .u8 0)), (.lit (.int .u32 0)), (.lit (.int .u32 0)), (.lit (.int .u32 0))])))
 (.nb [.setB0 3 (.cmp .eql (.var 0) (.lit 47))] 3
 (.leaf [] (.w (.agg [(.lit (.int .u8 69)), (.lit (.int .u32 115)), (.lit (.int .u32 0)), (.lit (.int .u32 1))])))
 (.ni [] 0 1
 (.leaf [] (.w (.agg [(.lit (.int .u8 85)), (.lit (.int .u32 55)), (.lit (.int .u32 0)), (.lit (.int .u32 0))])))
 (.ni [] 0 2
 (.leaf [] (.w (.agg [(.lit (.int .u8 85)), (.lit (.int .u32 23)), (.lit (.int .u32 0)), (.lit (.int .u32 0))])))
 (.ni [] 0 3
 (.leaf [] (.w (.agg [(.lit (.int .u8 74)), (.lit (.int .u32 111)), (.lit (.int .u32 0)), (.lit (.int .u32 0))])))
 (.ni [] 0 4
 (.leaf [] (.w (.agg [(.lit (.int .u8 73)), (.lit (.int .u32 103)), (.lit (.int .u32 0)), (.lit (.int .u32 0))])))
 (.ni [] 0 5
 (.leaf [] (.w (.agg [(.lit (.int .u8 66)), (.lit (.int .u32 99)), (.lit (.int .u32 0)), (.lit (.int .u32 0))])))
 (.ni [] 0 6
 (.leaf [] (.w (.agg [(.lit (.int .u8 66)), (.lit (.int .u32 99)), (.lit (.int .u32 1)), (.lit (.int .u32 0))])))
 (.ni [] 0 7
 (.leaf [] (.w (.agg [(.lit (.int .u8 66)), (.lit (.int .u32 99)), (.lit (.int .u32 4)), (.lit (.int .u32 0))])))
 (.ni [] 0 8
 (.leaf [] (.w (.agg [(.lit (.int .u8 66)), (.lit (.int .u32 99)), (.lit (.int .u32 5)), (.lit (.int .u32 0))])))
 (.ni [] 0 9
 (.leaf [] (.w (.agg [(.lit (.int .u8 66)), (.lit (.int .u32 99)), (.lit (.int .u32 6)), (.lit (.int .u32 0))])))
 (.ni [] 0 10
 (.leaf [] (.w (.agg [(.lit (.int .u8 66)), (.lit (.int .u32 99)), (.lit (.int .u32 7)), (.lit (.int .u32 0))])))
 (.ni [] 0 11
 (.leaf [] (.w (.agg [(.lit (.int .u8 73)), (.lit (.int .u32 3)), (.lit (.int .u32 0)), (.lit (.int .u32 0))])))
 (.ni [] 0 12
 (.leaf [] (.w (.agg [(.lit (.int .u8 73)), (.lit (.int .u32 3)), (.lit (.int .u32 1)), (.lit (.int .u32 0))])))
 (.ni [] 0 13
 (.leaf [] (.w (.agg [(.lit (.int .u8 73)), (.lit (.int .u32 3)), (.lit (.int .u32 2)), (.lit (.int .u32 0))])))
 (.ni [] 0 14
 (.leaf [] (.w (.agg [(.lit (.int .u8 73)), (.lit (.int .u32 3)), (.lit (.int .u32 4)), (.lit (.int .u32 0))])))
 (.ni [] 0 15
 (.leaf [] (.w (.agg [(.lit (.int .u8 73)), (.lit (.int .u32 3)), (.lit (.int .u32 5)), (.lit (.int .u32 0))])))
 (.ni [] 0 16
 (.leaf [] (.w (.agg [(.lit (.int .u8 83)), (.lit (.int .u32 35)), (.lit (.int .u32 0)), (.lit (.int .u32 0))])))
 (.ni [] 0 17
 (.leaf [] (.w (.agg [(.lit (.int .u8 83)), (.lit (.int .u32 35)), (.lit (.int .u32 1)), (.lit (.int .u32 0))])))
 (.ni [] 0 18
 (.leaf [] (.w (.agg [(.lit (.int .u8 83)), (.lit (.int .u32 35)), (.lit (.int .u32 2)), (.lit (.int .u32 0))])))
 (.ni [] 0 19
 (.leaf [] (.w (.agg [(.lit (.int .u8 73)), (.lit (.int .u32 19)), (.lit (.int .u32 0)), (.lit (.int .u32 0))])))
 (.ni [] 0 20
 (.leaf [] (.w (.agg [(.lit (.int .u8 73)), (.lit (.int .u32 19)), (.lit (.int .u32 2)), (.lit (.int .u32 0))])))
 (.ni [] 0 21
 (.leaf [] (.w (.agg [(.lit (.int .u8 73)), (.lit (.int .u32 19)), (.lit (.int .u32 3)), (.lit (.int .u32 0))])))
 (.ni [] 0 22
 (.leaf [] (.w (.agg [(.lit (.int .u8 73)), (.lit (.int .u32 19)), (.lit (.int .u32 4)), (.lit (.int .u32 0))])))
 (.ni [] 0 23
 (.leaf [] (.w (.agg [(.lit (.int .u8 73)), (.lit (.int .u32 19)), (.lit (.int .u32 6)), (.lit (.int .u32 0))])))
 (.ni [] 0 24
 (.leaf [] (.w (.agg [(.lit (.int .u8 73)), (.lit (.int .u32 19)), (.lit (.int .u32 7)), (.lit (.int .u32 0))])))
 (.ni [] 0 25
 (.leaf [] (.w (.agg [(.lit (.int .u8 72)), (.lit (.int .u32 19)), (.lit (.int .u32 1)), (.lit (.int .u32 0))])))
 (.ni [] 0 26
 (.leaf [] (.w (.agg [(.lit (.int .u8 72)), (.lit (.int .u32 19)), (.lit (.int .u32 5)), (.lit (.int .u32 0))])))
 (.ni [] 0 27
 (.leaf [] (.w (.agg [(.lit (.int .u8 72)), (.lit (.int .u32 19)), (.lit (.int .u32 5)), (.lit (.int .u32 32))])))
 (.ni [] 0 28
 (.leaf [] (.w (.agg [(.lit (.int .u8 82)), (.lit (.int .u32 51)), (.lit (.int .u32 0)), (.lit (.int .u32 0))])))
 (.ni [] 0 29
 (.leaf [] (.w (.agg [(.lit (.int .u8 82)), (.lit (.int .u32 51)), (.lit (.int .u32 0)), (.lit (.int .u32 32))])))
 (.ni [] 0 30
 (.leaf [] (.w (.agg [(.lit (.int .u8 82)), (.lit (.int .u32 51)), (.lit (.int .u32 1)), (.lit (.int .u32 0))])))
 (.ni [] 0 31
 (.leaf [] (.w (.agg [(.lit (.int .u8 82)), (.lit (.int .u32 51)), (.lit (.int .u32 2)), (.lit (.int .u32 0))])))
 (.ni [] 0 32
 (.leaf [] (.w (.agg [(.lit (.int .u8 82)), (.lit (.int .u32 51)), (.lit (.int .u32 3)), (.lit (.int .u32 0))])))
 (.ni [] 0 33
 (.leaf [] (.w (.agg [(.lit (.int .u8 82)), (.lit (.int .u32 51)), (.lit (.int .u32 4)), (.lit (.int .u32 0))])))
 (.ni [] 0 34
 (.leaf [] (.w (.agg [(.lit (.int .u8 82)), (.lit (.int .u32 51)), (.lit (.int .u32 5)), (.lit (.int .u32 0))])))
 (.ni [] 0 35
 (.leaf [] (.w (.agg [(.lit (.int .u8 82)), (.lit (.int .u32 51)), (.lit (.int .u32 5)), (.lit (.int .u32 32))])))
 (.ni [] 0 36
 (.leaf [] (.w (.agg [(.lit (.int .u8 82)), (.lit (.int .u32 51)), (.lit (.int .u32 6)), (.lit (.int .u32 0))])))
 (.ni [] 0 37
 (.leaf [] (.w (.agg [(.lit (.int .u8 82)), (.lit (.int .u32 51)), (.lit (.int .u32 7)), (.lit (.int .u32 0))])))
 (.ni [] 0 38
 (.leaf [] (.w (.agg [(.lit (.int .u8 82)), (.lit (.int .u32 51)), (.lit (.int .u32 0)), (.lit (.int .u32 1))])))
 (.ni [] 0 39
 (.leaf [] (.w (.agg [(.lit (.int .u8 82)), (.lit (.int .u32 51)), (.lit (.int .u32 1)), (.lit (.int .u32 1))])))
 (.ni [] 0 40
 (.leaf [] (.w (.agg [(.lit (.int .u8 82)), (.lit (.int .u32 51)), (.lit (.int .u32 2)), (.lit (.int .u32 1))])))
 (.ni [] 0 41
 (.leaf [] (.w (.agg [(.lit (.int .u8 82)), (.lit (.int .u32 51)), (.lit (.int .u32 3)), (.lit (.int .u32 1))])))
 (.ni [] 0 42
 (.leaf [] (.w (.agg [(.lit (.int .u8 82)), (.lit (.int .u32 51)), (.lit (.int .u32 4)), (.lit (.int .u32 1))])))
 (.ni [] 0 43
 (.leaf [] (.w (.agg [(.lit (.int .u8 82)), (.lit (.int .u32 51)), (.lit (.int .u32 5)), (.lit (.int .u32 1))])))
 (.ni [] 0 44
 (.leaf [] (.w (.agg [(.lit (.int .u8 82)), (.lit (.int .u32 51)), (.lit (.int .u32 6)), (.lit (.int .u32 1))])))
 (.ni [] 0 45
 (.leaf [] (.w (.agg [(.lit (.int .u8 82)), (.lit (.int .u32 51)), (.lit (.int .u32 7)), (.lit (.int .u32 1))])))
 (.ni [] 0 46
 (.leaf [] (.w (.agg [(.lit (.int .u8 69)), (.lit (.int .u32 115)), (.lit (.int .u32 0)), (.lit (.int .u32 0))])))
 (.dead []))))))))))))))))))))))))))))))))))))))))))))))))))
theorem rfOfT_ok : LT.Ok rfOfR rfOfT [] [] :=
 (LT.ok_nb (LT.ok_leaf (by kernel_rfl))
 (LT.ok_nb (LT.ok_leaf (by kernel_rfl))
 (LT.ok_nb (LT.ok_leaf (by kernel_rfl))
 (LT.ok_ni (LT.ok_leaf (by kernel_rfl))
 (LT.ok_ni (LT.ok_leaf (by kernel_rfl))
 (LT.ok_ni (LT.ok_leaf (by kernel_rfl))
 (LT.ok_ni (LT.ok_leaf (by kernel_rfl))
 (LT.ok_ni (LT.ok_leaf (by kernel_rfl))
 (LT.ok_ni (LT.ok_leaf (by kernel_rfl))
 (LT.ok_ni (LT.ok_leaf (by kernel_rfl))
 (LT.ok_ni (LT.ok_leaf (by kernel_rfl))
 (LT.ok_ni (LT.ok_leaf (by kernel_rfl))
 (LT.ok_ni (LT.ok_leaf (by kernel_rfl))
 (LT.ok_ni (LT.ok_leaf (by kernel_rfl))
 (LT.ok_ni (LT.ok_leaf (by kernel_rfl))
 (LT.ok_ni (LT.ok_leaf (by kernel_rfl))
 (LT.ok_ni (LT.ok_leaf (by kernel_rfl))
 (LT.ok_ni (LT.ok_leaf (by kernel_rfl))
 (LT.ok_ni (LT.ok_leaf (by kernel_rfl))
 (LT.ok_ni (LT.ok_leaf (by kernel_rfl))
 (LT.ok_ni (LT.ok_leaf (by kernel_rfl))
 (LT.ok_ni (LT.ok_leaf (by kernel_rfl))
 (LT.ok_ni (LT.ok_leaf (by kernel_rfl))
 (LT.ok_ni (LT.ok_leaf (by kernel_rfl))
 (LT.ok_ni (LT.ok_leaf (by kernel_rfl))
 (LT.ok_ni (LT.ok_leaf (by kernel_rfl))
 (LT.ok_ni (LT.ok_leaf (by kernel_rfl))
 (LT.ok_ni (LT.ok_leaf (by kernel_rfl))
 (LT.ok_ni (LT.ok_leaf (by kernel_rfl))
 (LT.ok_ni (LT.ok_leaf (by kernel_rfl))
 (LT.ok_ni (LT.ok_leaf (by kernel_rfl))
 (LT.ok_ni (LT.ok_leaf (by kernel_rfl))
 (LT.ok_ni (LT.ok_leaf (by kernel_rfl))
 (LT.ok_ni (LT.ok_leaf (by kernel_rfl))
 (LT.ok_ni (LT.ok_leaf (by kernel_rfl))
 (LT.ok_ni (LT.ok_leaf (by kernel_rfl))
 (LT.ok_ni (LT.ok_leaf (by kernel_rfl))
 (LT.ok_ni (LT.ok_leaf (by kernel_rfl))
 (LT.ok_ni (LT.ok_leaf (by kernel_rfl))
 (LT.ok_ni (LT.ok_leaf (by kernel_rfl))
 (LT.ok_ni (LT.ok_leaf (by kernel_rfl))
 (LT.ok_ni (LT.ok_leaf (by kernel_rfl))
 (LT.ok_ni (LT.ok_leaf (by kernel_rfl))
 (LT.ok_ni (LT.ok_leaf (by kernel_rfl))
 (LT.ok_ni (LT.ok_leaf (by kernel_rfl))
 (LT.ok_ni (LT.ok_leaf (by kernel_rfl))
 (LT.ok_ni (LT.ok_leaf (by kernel_rfl))
 (LT.ok_ni (LT.ok_leaf (by kernel_rfl))
 (LT.ok_ni (LT.ok_leaf (by kernel_rfl))
 LT.ok_dead)))))))))))))))))))))))))))))))))))))))))))))))))
theorem rfOf_ok : SumT Try.prog phi 69 rfOfS := treeSum (t := rfOfT) (lf := 1000) (d := 50) rfOfC_ok (fun xs w => Try.call69 xs w)
 rfOfT_ok
 (by kernel_rfl)
 (by
  intro a0 h0
  exact ⟨obl_nil (by kernel_rfl), by kernel_rfl⟩)
end Go.Proofs.Ytndfcpkmchjncaa
