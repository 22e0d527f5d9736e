/-
  ferryman/state.SetReg8: all its ways, printed by a program of this repo.
-/
import Derived.Test.YtndfcpkmchjncaaBase
import Derived.Test.YtndfcpkmchjncaaStQ
namespace Go.Proofs.Ytndfcpkmchjncaa
open Go.Sx
set_option linter.unusedVariables false
set_option linter.unusedSimpArgs false
set_option maxRecDepth 100000
set_option maxHeartbeats 20000000
noncomputable def stSetC : Ctx := ⟨tys, fns, (.e : Tr Sum)⟩
theorem stSetC_ok : CtxT Try.prog phi stSetC := ⟨tys_ok, fns_ok, SumsT.e, mix_ok⟩
noncomputable def stSetR (ds : List D) : R (SV × St) := fnRun stSetC 1000 50 10 (symArgs stSetS.args 0) (st0 ds 19)
noncomputable def stSetT : LT :=
 (.ni [.setI0 19 (.bin .rem .i64 (.var 17) (.lit 8)), .setI0 20 (.bin .add .i64 (.var 19) (.lit 8)), .setI0 21 (.bin .rem .i64 (.var 20) (.lit 8)), .setI0 22 (.bin .quo .i64 (.var 21) (.lit 4)), .setI0 23 (.bin .mul .i64 (.var 22) (.lit 8)), .setI0 24 (.bin .rem .i64 (.var 21) (.lit 4)), .setI0 25 (.bin .rem .i64 (.var 21) (.lit 4))] 25 0
 (.ni [.setI0 26 (.bin .shl .u32 (.lit 255) (.var 23)), .setI0 27 (.bin .andNot .u32 (.var 0) (.var 26)), .setI0 28 (.bin .and .u32 (.var 18) (.lit 255)), .setI0 29 (.bin .shl .u32 (.var 28) (.var 23)), .setI0 30 (.bin .or .u32 (.var 27) (.var 29))] 24 0
 (.leaf [] (.w (.agg [(.ivar .u32 30), (.ivar .u32 1), (.ivar .u32 2), (.ivar .u32 3), (.ivar .u32 4), (.ivar .u32 5), (.ivar .u32 6), (.ivar .u32 7), (.ivar .u32 8), (.bvar 9 false), (.bvar 10 false), (.bvar 11 false), (.bvar 12 false), (.bvar 13 false), (.bvar 14 false), (.bvar 15 false), (.ivar .u64 16)])))
 (.ni [] 24 1
 (.leaf [] (.w (.agg [(.ivar .u32 0), (.ivar .u32 30), (.ivar .u32 2), (.ivar .u32 3), (.ivar .u32 4), (.ivar .u32 5), (.ivar .u32 6), (.ivar .u32 7), (.ivar .u32 8), (.bvar 9 false), (.bvar 10 false), (.bvar 11 false), (.bvar 12 false), (.bvar 13 false), (.bvar 14 false), (.bvar 15 false), (.ivar .u64 16)])))
 (.ni [] 24 2
 (.leaf [] (.w (.agg [(.ivar .u32 0), (.ivar .u32 1), (.ivar .u32 30), (.ivar .u32 3), (.ivar .u32 4), (.ivar .u32 5), (.ivar .u32 6), (.ivar .u32 7), (.ivar .u32 8), (.bvar 9 false), (.bvar 10 false), (.bvar 11 false), (.bvar 12 false), (.bvar 13 false), (.bvar 14 false), (.bvar 15 false), (.ivar .u64 16)])))
 (.ni [] 24 3
 (.leaf [] (.w (.agg [(.ivar .u32 0), (.ivar .u32 1), (.ivar .u32 2), (.ivar .u32 30), (.ivar .u32 4), (.ivar .u32 5), (.ivar .u32 6), (.ivar .u32 7), (.ivar .u32 8), (.bvar 9 false), (.bvar 10 false), (.bvar 11 false), (.bvar 12 false), (.bvar 13 false), (.bvar 14 false), (.bvar 15 false), (.ivar .u64 16)])))
 (.dead [])))))
 (.ni [] 25 1
 (.ni [.setI0 26 (.bin .shl .u32 (.lit 255) (.var 23)), .setI0 27 (.bin .andNot .u32 (.var 1) (.var 26)), .setI0 28 (.bin .and .u32 (.var 18) (.lit 255)), .setI0 29 (.bin .shl .u32 (.var 28) (.var 23)), .setI0 30 (.bin .or .u32 (.var 27) (.var 29))] 24 0
 (.leaf [] (.w (.agg [(.ivar .u32 30), (.ivar .u32 1), (.ivar .u32 2), (.ivar .u32 3), (.ivar .u32 4), (.ivar .u32 5), (.ivar .u32 6), (.ivar .u32 7), (.ivar .u32 8), (.bvar 9 false), (.bvar 10 false), (.bvar 11 false), (.bvar 12 false), (.bvar 13 false), (.bvar 14 false), (.bvar 15 false), (.ivar .u64 16)])))
 (.ni [] 24 1
 (.leaf [] (.w (.agg [(.ivar .u32 0), (.ivar .u32 30), (.ivar .u32 2), (.ivar .u32 3), (.ivar .u32 4), (.ivar .u32 5), (.ivar .u32 6), (.ivar .u32 7), (.ivar .u32 8), (.bvar 9 false), (.bvar 10 false), (.bvar 11 false), (.bvar 12 false), (.bvar 13 false), (.bvar 14 false), (.bvar 15 false), (.ivar .u64 16)])))
 (.ni [] 24 2
 (.leaf [] (.w (.agg [(.ivar .u32 0), (.ivar .u32 1), (.ivar .u32 30), (.ivar .u32 3), (.ivar .u32 4), (.ivar .u32 5), (.ivar .u32 6), (.ivar .u32 7), (.ivar .u32 8), (.bvar 9 false), (.bvar 10 false), (.bvar 11 false), (.bvar 12 false), (.bvar 13 false), (.bvar 14 false), (.bvar 15 false), (.ivar .u64 16)])))
 (.ni [] 24 3
 (.leaf [] (.w (.agg [(.ivar .u32 0), (.ivar .u32 1), (.ivar .u32 2), (.ivar .u32 30), (.ivar .u32 4), (.ivar .u32 5), (.ivar .u32 6), (.ivar .u32 7), (.ivar .u32 8), (.bvar 9 false), (.bvar 10 false), (.bvar 11 false), (.bvar 12 false), (.bvar 13 false), (.bvar 14 false), (.bvar 15 false), (.ivar .u64 16)])))
 (.dead [])))))
 (.ni [] 25 2
 (.ni [.setI0 26 (.bin .shl .u32 (.lit 255) (.var 23)), .setI0 27 (.bin .andNot .u32 (.var 2) (.var 26)), .setI0 28 (.bin .and .u32 (.var 18) (.lit 255)), .setI0 29 (.bin .shl .u32 (.var 28) (.var 23)), .setI0 30 (.bin .or .u32 (.var 27) (.var 29))] 24 0
 (.leaf [] (.w (.agg [(.ivar .u32 30), (.ivar .u32 1), (.ivar .u32 2), (.ivar .u32 3), (.ivar .u32 4), (.ivar .u32 5), (.ivar .u32 6), (.ivar .u32 7), (.ivar .u32 8), (.bvar 9 false), (.bvar 10 false), (.bvar 11 false), (.bvar 12 false), (.bvar 13 false), (.bvar 14 false), (.bvar 15 false), (.ivar .u64 16)])))
 (.ni [] 24 1
 (.leaf [] (.w (.agg [(.ivar .u32 0), (.ivar .u32 30), (.ivar .u32 2), (.ivar .u32 3), (.ivar .u32 4), (.ivar .u32 5), (.ivar .u32 6), (.ivar .u32 7), (.ivar .u32 8), (.bvar 9 false), (.bvar 10 false), (.bvar 11 false), (.bvar 12 false), (.bvar 13 false), (.bvar 14 false), (.bvar 15 false), (.ivar .u64 16)])))
 (.ni [] 24 2
 (.leaf [] (.w (.agg [(.ivar .u32 0), (.ivar .u32 1), (.ivar .u32 30), (.ivar .u32 3), (.ivar .u32 4), (.ivar .u32 5), (.ivar .u32 6), (.ivar .u32 7), (.ivar .u32 8), (.bvar 9 false), (.bvar 10 false), (.bvar 11 false), (.bvar 12 false), (.bvar 13 false), (.bvar 14 false), (.bvar 15 false), (.ivar .u64 16)])))
 (.ni [] 24 3
 (.leaf [] (.w (.agg [(.ivar .u32 0), (.ivar .u32 1), (.ivar .u32 2), (.ivar .u32 30), (.ivar .u32 4), (.ivar .u32 5), (.ivar .u32 6), (.ivar .u32 7), (.ivar .u32 8), (.bvar 9 false), (.bvar 10 false), (.bvar 11 false), (.bvar 12 false), (.bvar 13 false), (.bvar 14 false), (.bvar 15 false), (.ivar .u64 16)])))
 (.dead [])))))
 (.ni [] 25 3
 (.ni [.setI0 26 (.bin .shl .u32 (.lit 255) (.var 23)), .setI0 27 (.bin .andNot .u32 (.var 3) (.var 26)), .setI0 28 (.bin .and .u32 (.var 18) (.lit 255)), .setI0 29 (.bin .shl .u32 (.var 28) (.var 23)), .setI0 30 (.bin .or .u32 (.var 27) (.var 29))] 24 0
 (.leaf [] (.w (.agg [(.ivar .u32 30), (.ivar .u32 1), (.ivar .u32 2), (.ivar .u32 3), (.ivar .u32 4), (.ivar .u32 5), (.ivar .u32 6), (.ivar .u32 7), (.ivar .u32 8), (.bvar 9 false), (.bvar 10 false), (.bvar 11 false), (.bvar 12 false), (.bvar 13 false), (.bvar 14 false), (.bvar 15 false), (.ivar .u64 16)])))
 (.ni [] 24 1
 (.leaf [] (.w (.agg [(.ivar .u32 0), (.ivar .u32 30), (.ivar .u32 2), (.ivar .u32 3), (.ivar .u32 4), (.ivar .u32 5), (.ivar .u32 6), (.ivar .u32 7), (.ivar .u32 8), (.bvar 9 false), (.bvar 10 false), (.bvar 11 false), (.bvar 12 false), (.bvar 13 false), (.bvar 14 false), (.bvar 15 false), (.ivar .u64 16)])))
 (.ni [] 24 2
 (.leaf [] (.w (.agg [(.ivar .u32 0), (.ivar .u32 1), (.ivar .u32 30), (.ivar .u32 3), (.ivar .u32 4), (.ivar .u32 5), (.ivar .u32 6), (.ivar .u32 7), (.ivar .u32 8), (.bvar 9 false), (.bvar 10 false), (.bvar 11 false), (.bvar 12 false), (.bvar 13 false), (.bvar 14 false), (.bvar 15 false), (.ivar .u64 16)])))
 (.ni [] 24 3
 (.leaf [] (.w (.agg [(.ivar .u32 0), (.ivar .u32 1), (.ivar .u32 2), (.ivar .u32 30), (.ivar .u32 4), (.ivar .u32 5), (.ivar .u32 6), (.ivar .u32 7), (.ivar .u32 8), (.bvar 9 false), (.bvar 10 false), (.bvar 11 false), (.bvar 12 false), (.bvar 13 false), (.bvar 14 false), (.bvar 15 false), (.ivar .u64 16)])))
 (.dead [])))))
 (.dead [])))))
theorem stSetT_ok : LT.Ok stSetR stSetT [] [] :=
 (LT.ok_ni (LT.ok_ni (LT.ok_leaf (by kernel_rfl))
 (LT.ok_ni (LT.ok_leaf (by kernel_rfl))
 (LT.ok_ni (LT.ok_leaf (by kernel_rfl))
 (LT.ok_ni (LT.ok_leaf (by kernel_rfl))
 LT.ok_dead))))
 (LT.ok_ni (LT.ok_ni (LT.ok_leaf (by kernel_rfl))
 (LT.ok_ni (LT.ok_leaf (by kernel_rfl))
 (LT.ok_ni (LT.ok_leaf (by kernel_rfl))
 (LT.ok_ni (LT.ok_leaf (by kernel_rfl))
 LT.ok_dead))))
 (LT.ok_ni (LT.ok_ni (LT.ok_leaf (by kernel_rfl))
 (LT.ok_ni (LT.ok_leaf (by kernel_rfl))
 (LT.ok_ni (LT.ok_leaf (by kernel_rfl))
 (LT.ok_ni (LT.ok_leaf (by kernel_rfl))
 LT.ok_dead))))
 (LT.ok_ni (LT.ok_ni (LT.ok_leaf (by kernel_rfl))
 (LT.ok_ni (LT.ok_leaf (by kernel_rfl))
 (LT.ok_ni (LT.ok_leaf (by kernel_rfl))
 (LT.ok_ni (LT.ok_leaf (by kernel_rfl))
 LT.ok_dead))))
 LT.ok_dead))))
theorem stSet_ok : SumT Try.prog phi 10 stSetS := treeSum (t := stSetT) (lf := 1000) (d := 50) stSetC_ok (fun xs w => Try.call10 xs w)
 stSetT_ok
 (by kernel_rfl)
 (by
  intro a0 h0 a1 h1 a2 h2 a3 h3 a4 h4 a5 h5 a6 h6 a7 h7 a8 h8 a9 a10 a11 a12 a13 a14 a15 a16 h16 a17 h17 a18 h18
  exact ⟨obl_list (m := [(((ibin .rem .i64 (ibin .rem .i64 (ibin .add .i64 (ibin .rem .i64 a17 8) 8) 8) 4) = 0) → ((0 : Int) ≤ (ibin .mul .i64 (ibin .quo .i64 (ibin .rem .i64 (ibin .add .i64 (ibin .rem .i64 a17 8) 8) 8) 4) 8))),
    (((ibin .rem .i64 (ibin .rem .i64 (ibin .add .i64 (ibin .rem .i64 a17 8) 8) 8) 4) = 0) → ((0 : Int) ≤ (ibin .mul .i64 (ibin .quo .i64 (ibin .rem .i64 (ibin .add .i64 (ibin .rem .i64 a17 8) 8) 8) 4) 8))),
    (((ibin .rem .i64 (ibin .rem .i64 (ibin .add .i64 (ibin .rem .i64 a17 8) 8) 8) 4) = 0) → (((ibin .rem .i64 (ibin .rem .i64 (ibin .add .i64 (ibin .rem .i64 a17 8) 8) 8) 4) ≠ 0) → (((ibin .rem .i64 (ibin .rem .i64 (ibin .add .i64 (ibin .rem .i64 a17 8) 8) 8) 4) ≠ 1) → (((ibin .rem .i64 (ibin .rem .i64 (ibin .add .i64 (ibin .rem .i64 a17 8) 8) 8) 4) ≠ 2) → (((ibin .rem .i64 (ibin .rem .i64 (ibin .add .i64 (ibin .rem .i64 a17 8) 8) 8) 4) ≠ 3) → False))))),
    (((ibin .rem .i64 (ibin .rem .i64 (ibin .add .i64 (ibin .rem .i64 a17 8) 8) 8) 4) ≠ 0) → (((ibin .rem .i64 (ibin .rem .i64 (ibin .add .i64 (ibin .rem .i64 a17 8) 8) 8) 4) = 1) → ((0 : Int) ≤ (ibin .mul .i64 (ibin .quo .i64 (ibin .rem .i64 (ibin .add .i64 (ibin .rem .i64 a17 8) 8) 8) 4) 8)))),
    (((ibin .rem .i64 (ibin .rem .i64 (ibin .add .i64 (ibin .rem .i64 a17 8) 8) 8) 4) ≠ 0) → (((ibin .rem .i64 (ibin .rem .i64 (ibin .add .i64 (ibin .rem .i64 a17 8) 8) 8) 4) = 1) → ((0 : Int) ≤ (ibin .mul .i64 (ibin .quo .i64 (ibin .rem .i64 (ibin .add .i64 (ibin .rem .i64 a17 8) 8) 8) 4) 8)))),
    (((ibin .rem .i64 (ibin .rem .i64 (ibin .add .i64 (ibin .rem .i64 a17 8) 8) 8) 4) ≠ 0) → (((ibin .rem .i64 (ibin .rem .i64 (ibin .add .i64 (ibin .rem .i64 a17 8) 8) 8) 4) = 1) → (((ibin .rem .i64 (ibin .rem .i64 (ibin .add .i64 (ibin .rem .i64 a17 8) 8) 8) 4) ≠ 0) → (((ibin .rem .i64 (ibin .rem .i64 (ibin .add .i64 (ibin .rem .i64 a17 8) 8) 8) 4) ≠ 1) → (((ibin .rem .i64 (ibin .rem .i64 (ibin .add .i64 (ibin .rem .i64 a17 8) 8) 8) 4) ≠ 2) → (((ibin .rem .i64 (ibin .rem .i64 (ibin .add .i64 (ibin .rem .i64 a17 8) 8) 8) 4) ≠ 3) → False)))))),
    (((ibin .rem .i64 (ibin .rem .i64 (ibin .add .i64 (ibin .rem .i64 a17 8) 8) 8) 4) ≠ 0) → (((ibin .rem .i64 (ibin .rem .i64 (ibin .add .i64 (ibin .rem .i64 a17 8) 8) 8) 4) ≠ 1) → (((ibin .rem .i64 (ibin .rem .i64 (ibin .add .i64 (ibin .rem .i64 a17 8) 8) 8) 4) = 2) → ((0 : Int) ≤ (ibin .mul .i64 (ibin .quo .i64 (ibin .rem .i64 (ibin .add .i64 (ibin .rem .i64 a17 8) 8) 8) 4) 8))))),
    (((ibin .rem .i64 (ibin .rem .i64 (ibin .add .i64 (ibin .rem .i64 a17 8) 8) 8) 4) ≠ 0) → (((ibin .rem .i64 (ibin .rem .i64 (ibin .add .i64 (ibin .rem .i64 a17 8) 8) 8) 4) ≠ 1) → (((ibin .rem .i64 (ibin .rem .i64 (ibin .add .i64 (ibin .rem .i64 a17 8) 8) 8) 4) = 2) → ((0 : Int) ≤ (ibin .mul .i64 (ibin .quo .i64 (ibin .rem .i64 (ibin .add .i64 (ibin .rem .i64 a17 8) 8) 8) 4) 8))))),
    (((ibin .rem .i64 (ibin .rem .i64 (ibin .add .i64 (ibin .rem .i64 a17 8) 8) 8) 4) ≠ 0) → (((ibin .rem .i64 (ibin .rem .i64 (ibin .add .i64 (ibin .rem .i64 a17 8) 8) 8) 4) ≠ 1) → (((ibin .rem .i64 (ibin .rem .i64 (ibin .add .i64 (ibin .rem .i64 a17 8) 8) 8) 4) = 2) → (((ibin .rem .i64 (ibin .rem .i64 (ibin .add .i64 (ibin .rem .i64 a17 8) 8) 8) 4) ≠ 0) → (((ibin .rem .i64 (ibin .rem .i64 (ibin .add .i64 (ibin .rem .i64 a17 8) 8) 8) 4) ≠ 1) → (((ibin .rem .i64 (ibin .rem .i64 (ibin .add .i64 (ibin .rem .i64 a17 8) 8) 8) 4) ≠ 2) → (((ibin .rem .i64 (ibin .rem .i64 (ibin .add .i64 (ibin .rem .i64 a17 8) 8) 8) 4) ≠ 3) → False))))))),
    (((ibin .rem .i64 (ibin .rem .i64 (ibin .add .i64 (ibin .rem .i64 a17 8) 8) 8) 4) ≠ 0) → (((ibin .rem .i64 (ibin .rem .i64 (ibin .add .i64 (ibin .rem .i64 a17 8) 8) 8) 4) ≠ 1) → (((ibin .rem .i64 (ibin .rem .i64 (ibin .add .i64 (ibin .rem .i64 a17 8) 8) 8) 4) ≠ 2) → (((ibin .rem .i64 (ibin .rem .i64 (ibin .add .i64 (ibin .rem .i64 a17 8) 8) 8) 4) = 3) → ((0 : Int) ≤ (ibin .mul .i64 (ibin .quo .i64 (ibin .rem .i64 (ibin .add .i64 (ibin .rem .i64 a17 8) 8) 8) 4) 8)))))),
    (((ibin .rem .i64 (ibin .rem .i64 (ibin .add .i64 (ibin .rem .i64 a17 8) 8) 8) 4) ≠ 0) → (((ibin .rem .i64 (ibin .rem .i64 (ibin .add .i64 (ibin .rem .i64 a17 8) 8) 8) 4) ≠ 1) → (((ibin .rem .i64 (ibin .rem .i64 (ibin .add .i64 (ibin .rem .i64 a17 8) 8) 8) 4) ≠ 2) → (((ibin .rem .i64 (ibin .rem .i64 (ibin .add .i64 (ibin .rem .i64 a17 8) 8) 8) 4) = 3) → ((0 : Int) ≤ (ibin .mul .i64 (ibin .quo .i64 (ibin .rem .i64 (ibin .add .i64 (ibin .rem .i64 a17 8) 8) 8) 4) 8)))))),
    (((ibin .rem .i64 (ibin .rem .i64 (ibin .add .i64 (ibin .rem .i64 a17 8) 8) 8) 4) ≠ 0) → (((ibin .rem .i64 (ibin .rem .i64 (ibin .add .i64 (ibin .rem .i64 a17 8) 8) 8) 4) ≠ 1) → (((ibin .rem .i64 (ibin .rem .i64 (ibin .add .i64 (ibin .rem .i64 a17 8) 8) 8) 4) ≠ 2) → (((ibin .rem .i64 (ibin .rem .i64 (ibin .add .i64 (ibin .rem .i64 a17 8) 8) 8) 4) = 3) → (((ibin .rem .i64 (ibin .rem .i64 (ibin .add .i64 (ibin .rem .i64 a17 8) 8) 8) 4) ≠ 0) → (((ibin .rem .i64 (ibin .rem .i64 (ibin .add .i64 (ibin .rem .i64 a17 8) 8) 8) 4) ≠ 1) → (((ibin .rem .i64 (ibin .rem .i64 (ibin .add .i64 (ibin .rem .i64 a17 8) 8) 8) 4) ≠ 2) → (((ibin .rem .i64 (ibin .rem .i64 (ibin .add .i64 (ibin .rem .i64 a17 8) 8) 8) 4) ≠ 3) → False)))))))),
    (((ibin .rem .i64 (ibin .rem .i64 (ibin .add .i64 (ibin .rem .i64 a17 8) 8) 8) 4) ≠ 0) → (((ibin .rem .i64 (ibin .rem .i64 (ibin .add .i64 (ibin .rem .i64 a17 8) 8) 8) 4) ≠ 1) → (((ibin .rem .i64 (ibin .rem .i64 (ibin .add .i64 (ibin .rem .i64 a17 8) 8) 8) 4) ≠ 2) → (((ibin .rem .i64 (ibin .rem .i64 (ibin .add .i64 (ibin .rem .i64 a17 8) 8) 8) 4) ≠ 3) → False))))]) (by kernel_rfl) (by obtain ⟨m0, m1⟩ := m8 a17; revert m0 m1; generalize ibin .rem .i64 (ibin .add .i64 (ibin .rem .i64 a17 8) 8) 8 = m; intro m0 m1; have hm : m = 0 ∨ m = 1 ∨ m = 2 ∨ m = 3 ∨ m = 4 ∨ m = 5 ∨ m = 6 ∨ m = 7 := (by omega); clear m0 m1; (rcases hm with rfl | rfl | rfl | rfl | rfl | rfl | rfl | rfl) <;> simp [allL, mr0, mq0, mr1, mq1, mr2, mq2, mr3, mq3, mr4, mq4, mr5, mq5, mr6, mq6, mr7, mq7]), by kernel_rfl⟩)
end Go.Proofs.Ytndfcpkmchjncaa
