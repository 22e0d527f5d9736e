/-
  Texts of this claim, laid together by a program: VrhTaken VrhOne VrfMulS VrfMulU VrhMuldiv VrhAlu HrU.
-/
import Derived.Test.YtpclikbjpjoccaaBase
import Derived.Test.YtpclikbjpjoccaaM3
import Derived.Test.YtpclikbjpjoccaaVrfDec
namespace Go.Proofs.Ytpclikbjpjoccaa
open Go.Sx
set_option linter.unusedVariables false
set_option linter.unusedSimpArgs false
set_option maxRecDepth 100000
set_option maxHeartbeats 20000000
noncomputable def rhTakenC : Ctx := ⟨tys, fns, (.e : Tr Sum)⟩
theorem rhTakenC_ok : CtxT Try.prog phi rhTakenC := ⟨tys_ok, fns_ok, SumsT.e, mix_ok⟩
noncomputable def rhTakenR (ds : List D) : R (SV × St) := fnRun rhTakenC 1000 50 46 (symArgs rhTakenS.args 0) (st0 ds 3)
noncomputable def rhTakenT : LT :=
 (.nb [.setB0 3 (.cmp .eql (.var 0) (.lit 5))] 3
 (.leaf [.setB0 4 (.cmp .eql (.var 1) (.var 2))] (.w (.c (.bvar 4 false))))
 (.nb [.setB0 4 (.cmp .eql (.var 0) (.lit 6))] 4
 (.leaf [.setB0 5 (.cmp .neq (.var 1) (.var 2))] (.w (.c (.bvar 5 false))))
 (.nb [.setB0 5 (.cmp .eql (.var 0) (.lit 7))] 5
 (.leaf [.setI0 6 (.conv .i32 (.var 1)), .setI0 7 (.conv .i32 (.var 2)), .setB0 8 (.cmp .lss (.var 6) (.var 7))] (.w (.c (.bvar 8 false))))
 (.nb [.setB0 6 (.cmp .eql (.var 0) (.lit 8))] 6
 (.leaf [.setI0 7 (.conv .i32 (.var 1)), .setI0 8 (.conv .i32 (.var 2)), .setB0 9 (.cmp .geq (.var 7) (.var 8))] (.w (.c (.bvar 9 false))))
 (.nb [.setB0 7 (.cmp .eql (.var 0) (.lit 9))] 7
 (.leaf [.setB0 8 (.cmp .lss (.var 1) (.var 2))] (.w (.c (.bvar 8 false))))
 (.leaf [.setB0 8 (.cmp .geq (.var 1) (.var 2))] (.w (.c (.bvar 8 false)))))))))
theorem rhTakenT_ok : LT.Ok rhTakenR rhTakenT [] [] :=
 (LT.ok_nb (LT.ok_leaf (by kernel_rfl))
 (LT.ok_nb (LT.ok_leaf (by kernel_rfl))
 (LT.ok_nb (LT.ok_leaf (by kernel_rfl))
 (LT.ok_nb (LT.ok_leaf (by kernel_rfl))
 (LT.ok_nb (LT.ok_leaf (by kernel_rfl))
 (LT.ok_leaf (by kernel_rfl)))))))
theorem rhTaken_ok : SumT Try.prog phi 46 rhTakenS := treeSum (t := rhTakenT) (lf := 1000) (d := 50) rhTakenC_ok (fun xs w => Try.call46 xs w)
 rhTakenT_ok
 (by kernel_rfl)
 (by
  intro a0 h0 a1 h1 a2 h2
  exact ⟨obl_nil (by kernel_rfl), by kernel_rfl⟩)
end Go.Proofs.Ytpclikbjpjoccaa
namespace Go.Proofs.Ytpclikbjpjoccaa
open Go.Sx
set_option linter.unusedVariables false
set_option linter.unusedSimpArgs false
set_option maxRecDepth 100000
set_option maxHeartbeats 20000000
noncomputable def rhOneC : Ctx := ⟨tys, fns, (.e : Tr Sum)⟩
theorem rhOneC_ok : CtxT Try.prog phi rhOneC := ⟨tys_ok, fns_ok, SumsT.e, mix_ok⟩
noncomputable def rhOneR (ds : List D) : R (SV × St) := fnRun rhOneC 1000 50 68 (symArgs rhOneS.args 0) (st0 ds 1)
noncomputable def rhOneT : LT :=
 (.nb [] 0
 (.leaf [] (.w (.c (.lit (.int .u32 1)))))
 (.leaf [] (.w (.c (.lit (.int .u32 0))))))
theorem rhOneT_ok : LT.Ok rhOneR rhOneT [] [] :=
 (LT.ok_nb (LT.ok_leaf (by kernel_rfl))
 (LT.ok_leaf (by kernel_rfl)))
theorem rhOne_ok : SumT Try.prog phi 68 rhOneS := treeSum (t := rhOneT) (lf := 1000) (d := 50) rhOneC_ok (fun xs w => Try.call68 xs w)
 rhOneT_ok
 (by kernel_rfl)
 (by
  intro a0
  exact ⟨obl_nil (by kernel_rfl), by kernel_rfl⟩)
end Go.Proofs.Ytpclikbjpjoccaa
namespace Go.Proofs.Ytpclikbjpjoccaa
open Go.Sx
set_option linter.unusedVariables false
set_option linter.unusedSimpArgs false
set_option maxRecDepth 100000
set_option maxHeartbeats 20000000
noncomputable def rfMulSC : Ctx := ⟨tys, fns, (.e : Tr Sum)⟩
theorem rfMulSC_ok : CtxT Try.prog phi rfMulSC := ⟨tys_ok, fns_ok, SumsT.e, mix_ok⟩
noncomputable def rfMulSR (ds : List D) : R (SV × St) := fnRun rfMulSC 1000 50 79 (symArgs rfMulSS.args 0) (st0 ds 2)
noncomputable def rfMulST : LT :=
 (.leaf [.setI0 2 (.conv .i32 (.var 0)), .setI0 3 (.conv .i64 (.var 2)), .setI0 4 (.conv .i32 (.var 1)), .setI0 5 (.conv .i64 (.var 4)), .setI0 6 (.bin .mul .i64 (.var 3) (.var 5)), .setI0 7 (.conv .u32 (.var 6)), .setI0 8 (.conv .u64 (.var 6)), .setI0 9 (.bin .shr .u64 (.var 8) (.lit 32)), .setI0 10 (.conv .u32 (.var 9))] (.tup [(.c (.ivar .u32 7)), (.c (.ivar .u32 10))]))
theorem rfMulST_ok : LT.Ok rfMulSR rfMulST [] [] :=
 (LT.ok_leaf (by kernel_rfl))
theorem rfMulS_ok : SumT Try.prog phi 79 rfMulSS := treeSum (t := rfMulST) (lf := 1000) (d := 50) rfMulSC_ok (fun xs w => Try.call79 xs w)
 rfMulST_ok
 (by kernel_rfl)
 (by
  intro a0 h0 a1 h1
  exact ⟨obl_nil (by kernel_rfl), by kernel_rfl⟩)
end Go.Proofs.Ytpclikbjpjoccaa
namespace Go.Proofs.Ytpclikbjpjoccaa
open Go.Sx
set_option linter.unusedVariables false
set_option linter.unusedSimpArgs false
set_option maxRecDepth 100000
set_option maxHeartbeats 20000000
noncomputable def rfMulUC : Ctx := ⟨tys, fns, (.e : Tr Sum)⟩
theorem rfMulUC_ok : CtxT Try.prog phi rfMulUC := ⟨tys_ok, fns_ok, SumsT.e, mix_ok⟩
noncomputable def rfMulUR (ds : List D) : R (SV × St) := fnRun rfMulUC 1000 50 78 (symArgs rfMulUS.args 0) (st0 ds 2)
noncomputable def rfMulUT : LT :=
 (.leaf [.setI0 2 (.conv .u64 (.var 0)), .setI0 3 (.conv .u64 (.var 1)), .setI0 4 (.bin .mul .u64 (.var 2) (.var 3)), .setI0 5 (.conv .u32 (.var 4)), .setI0 6 (.bin .shr .u64 (.var 4) (.lit 32)), .setI0 7 (.conv .u32 (.var 6))] (.tup [(.c (.ivar .u32 5)), (.c (.ivar .u32 7))]))
theorem rfMulUT_ok : LT.Ok rfMulUR rfMulUT [] [] :=
 (LT.ok_leaf (by kernel_rfl))
theorem rfMulU_ok : SumT Try.prog phi 78 rfMulUS := treeSum (t := rfMulUT) (lf := 1000) (d := 50) rfMulUC_ok (fun xs w => Try.call78 xs w)
 rfMulUT_ok
 (by kernel_rfl)
 (by
  intro a0 h0 a1 h1
  exact ⟨obl_nil (by kernel_rfl), by kernel_rfl⟩)
end Go.Proofs.Ytpclikbjpjoccaa
namespace Go.Proofs.Ytpclikbjpjoccaa
open Go.Sx
set_option linter.unusedVariables false
set_option linter.unusedSimpArgs false
set_option maxRecDepth 100000
set_option maxHeartbeats 20000000
noncomputable def rhMuldivC : Ctx := ⟨tys, fns, (((.e : Tr Sum).set 79 rfMulSS).set 78 rfMulUS)⟩
theorem rhMuldivC_ok : CtxT Try.prog phi rhMuldivC := ⟨tys_ok, fns_ok, ((SumsT.e.set rfMulS_ok).set rfMulU_ok), mix_ok⟩
noncomputable def rhMuldivR (ds : List D) : R (SV × St) := fnRun rhMuldivC 1000 50 69 (symArgs rhMuldivS.args 0) (st0 ds 3)
noncomputable def rhMuldivT : LT :=
 (.nb [.call 78 [(.ivar .u32 1), (.ivar .u32 2)] 3 [(.ri .u32), (.ri .u32)], .call 79 [(.ivar .u32 1), (.ivar .u32 2)] 5 [(.ri .u32), (.ri .u32)], .setB0 7 (.cmp .eql (.var 1) (.lit 2147483648))] 7
 (.nb [.setB0 8 (.cmp .eql (.var 2) (.lit 4294967295)), .setB0 9 (.cmp .eql (.var 0) (.lit 38))] 9
 (.leaf [] (.w (.c (.ivar .u32 3))))
 (.nb [.setB0 10 (.cmp .eql (.var 0) (.lit 39))] 10
 (.leaf [] (.w (.c (.ivar .u32 6))))
 (.nb [.setB0 11 (.cmp .eql (.var 0) (.lit 40))] 11
 (.leaf [.setI0 12 (.conv .i32 (.var 1)), .setI0 13 (.conv .i64 (.var 12)), .setI0 14 (.conv .i64 (.var 2)), .setI0 15 (.bin .mul .i64 (.var 13) (.var 14)), .setI0 16 (.conv .u64 (.var 15)), .setI0 17 (.bin .shr .u64 (.var 16) (.lit 32)), .setI0 18 (.conv .u32 (.var 17))] (.w (.c (.ivar .u32 18))))
 (.nb [.setB0 12 (.cmp .eql (.var 0) (.lit 41))] 12
 (.leaf [] (.w (.c (.ivar .u32 4))))
 (.nb [.setB0 13 (.cmp .eql (.var 0) (.lit 42))] 13
 (.nb [.setB0 14 (.cmp .eql (.var 2) (.lit 0))] 14
 (.leaf [] (.w (.c (.lit (.int .u32 4294967295)))))
 (.nb [] 8
 (.leaf [] (.w (.c (.ivar .u32 1))))
 (.leaf [.setI0 15 (.conv .i32 (.var 1)), .setI0 16 (.conv .i32 (.var 2)), .setI0 17 (.bin .quo .i32 (.var 15) (.var 16)), .setI0 18 (.conv .u32 (.var 17))] (.w (.c (.ivar .u32 18))))))
 (.nb [.setB0 14 (.cmp .eql (.var 0) (.lit 43))] 14
 (.nb [.setB0 15 (.cmp .eql (.var 2) (.lit 0))] 15
 (.leaf [] (.w (.c (.lit (.int .u32 4294967295)))))
 (.leaf [.setI0 16 (.bin .quo .u32 (.var 1) (.var 2))] (.w (.c (.ivar .u32 16)))))
 (.nb [.setB0 15 (.cmp .eql (.var 0) (.lit 44))] 15
 (.nb [.setB0 16 (.cmp .eql (.var 2) (.lit 0))] 16
 (.leaf [] (.w (.c (.ivar .u32 1))))
 (.nb [] 8
 (.leaf [] (.w (.c (.lit (.int .u32 0)))))
 (.leaf [.setI0 17 (.conv .i32 (.var 1)), .setI0 18 (.conv .i32 (.var 2)), .setI0 19 (.bin .rem .i32 (.var 17) (.var 18)), .setI0 20 (.conv .u32 (.var 19))] (.w (.c (.ivar .u32 20))))))
 (.nb [.setB0 16 (.cmp .eql (.var 2) (.lit 0))] 16
 (.leaf [] (.w (.c (.ivar .u32 1))))
 (.leaf [.setI0 17 (.bin .rem .u32 (.var 1) (.var 2))] (.w (.c (.ivar .u32 17))))))))))))
 (.nb [.setB0 8 (.cmp .eql (.var 0) (.lit 38))] 8
 (.leaf [] (.w (.c (.ivar .u32 3))))
 (.nb [.setB0 9 (.cmp .eql (.var 0) (.lit 39))] 9
 (.leaf [] (.w (.c (.ivar .u32 6))))
 (.nb [.setB0 10 (.cmp .eql (.var 0) (.lit 40))] 10
 (.leaf [.setI0 11 (.conv .i32 (.var 1)), .setI0 12 (.conv .i64 (.var 11)), .setI0 13 (.conv .i64 (.var 2)), .setI0 14 (.bin .mul .i64 (.var 12) (.var 13)), .setI0 15 (.conv .u64 (.var 14)), .setI0 16 (.bin .shr .u64 (.var 15) (.lit 32)), .setI0 17 (.conv .u32 (.var 16))] (.w (.c (.ivar .u32 17))))
 (.nb [.setB0 11 (.cmp .eql (.var 0) (.lit 41))] 11
 (.leaf [] (.w (.c (.ivar .u32 4))))
 (.nb [.setB0 12 (.cmp .eql (.var 0) (.lit 42))] 12
 (.nb [.setB0 13 (.cmp .eql (.var 2) (.lit 0))] 13
 (.leaf [] (.w (.c (.lit (.int .u32 4294967295)))))
 (.leaf [.setI0 14 (.conv .i32 (.var 1)), .setI0 15 (.conv .i32 (.var 2)), .setI0 16 (.bin .quo .i32 (.var 14) (.var 15)), .setI0 17 (.conv .u32 (.var 16))] (.w (.c (.ivar .u32 17)))))
 (.nb [.setB0 13 (.cmp .eql (.var 0) (.lit 43))] 13
 (.nb [.setB0 14 (.cmp .eql (.var 2) (.lit 0))] 14
 (.leaf [] (.w (.c (.lit (.int .u32 4294967295)))))
 (.leaf [.setI0 15 (.bin .quo .u32 (.var 1) (.var 2))] (.w (.c (.ivar .u32 15)))))
 (.nb [.setB0 14 (.cmp .eql (.var 0) (.lit 44))] 14
 (.nb [.setB0 15 (.cmp .eql (.var 2) (.lit 0))] 15
 (.leaf [] (.w (.c (.ivar .u32 1))))
 (.leaf [.setI0 16 (.conv .i32 (.var 1)), .setI0 17 (.conv .i32 (.var 2)), .setI0 18 (.bin .rem .i32 (.var 16) (.var 17)), .setI0 19 (.conv .u32 (.var 18))] (.w (.c (.ivar .u32 19)))))
 (.nb [.setB0 15 (.cmp .eql (.var 2) (.lit 0))] 15
 (.leaf [] (.w (.c (.ivar .u32 1))))
 (.leaf [.setI0 16 (.bin .rem .u32 (.var 1) (.var 2))] (.w (.c (.ivar .u32 16)))))))))))))
theorem rhMuldivT_ok : LT.Ok rhMuldivR rhMuldivT [] [] :=
 (LT.ok_nb (LT.ok_nb (LT.ok_leaf (by kernel_rfl))
 (LT.ok_nb (LT.ok_leaf (by kernel_rfl))
 (LT.ok_nb (LT.ok_leaf (by kernel_rfl))
 (LT.ok_nb (LT.ok_leaf (by kernel_rfl))
 (LT.ok_nb (LT.ok_nb (LT.ok_leaf (by kernel_rfl))
 (LT.ok_nb (LT.ok_leaf (by kernel_rfl))
 (LT.ok_leaf (by kernel_rfl))))
 (LT.ok_nb (LT.ok_nb (LT.ok_leaf (by kernel_rfl))
 (LT.ok_leaf (by kernel_rfl)))
 (LT.ok_nb (LT.ok_nb (LT.ok_leaf (by kernel_rfl))
 (LT.ok_nb (LT.ok_leaf (by kernel_rfl))
 (LT.ok_leaf (by kernel_rfl))))
 (LT.ok_nb (LT.ok_leaf (by kernel_rfl))
 (LT.ok_leaf (by kernel_rfl))))))))))
 (LT.ok_nb (LT.ok_leaf (by kernel_rfl))
 (LT.ok_nb (LT.ok_leaf (by kernel_rfl))
 (LT.ok_nb (LT.ok_leaf (by kernel_rfl))
 (LT.ok_nb (LT.ok_leaf (by kernel_rfl))
 (LT.ok_nb (LT.ok_nb (LT.ok_leaf (by kernel_rfl))
 (LT.ok_leaf (by kernel_rfl)))
 (LT.ok_nb (LT.ok_nb (LT.ok_leaf (by kernel_rfl))
 (LT.ok_leaf (by kernel_rfl)))
 (LT.ok_nb (LT.ok_nb (LT.ok_leaf (by kernel_rfl))
 (LT.ok_leaf (by kernel_rfl)))
 (LT.ok_nb (LT.ok_leaf (by kernel_rfl))
 (LT.ok_leaf (by kernel_rfl)))))))))))
theorem rhMuldiv_ok : SumT Try.prog phi 69 rhMuldivS := treeSum (t := rhMuldivT) (lf := 1000) (d := 50) rhMuldivC_ok (fun xs w => Try.call69 xs w)
 rhMuldivT_ok
 (by kernel_rfl)
 (by
  intro a0 h0 a1 h1 a2 h2
  exact ⟨obl_list (m := [(((icmp .eql a1 2147483648) = true) → (((icmp .eql a0 38) = false) → (((icmp .eql a0 39) = false) → (((icmp .eql a0 40) = false) → (((icmp .eql a0 41) = false) → (((icmp .eql a0 42) = true) → (((icmp .eql a2 0) = false) → (((icmp .eql a2 4294967295) = false) → (((IntKind.wrap .i32 a2) : Int) ≠ 0))))))))),
    (((icmp .eql a1 2147483648) = true) → (((icmp .eql a0 38) = false) → (((icmp .eql a0 39) = false) → (((icmp .eql a0 40) = false) → (((icmp .eql a0 41) = false) → (((icmp .eql a0 42) = false) → (((icmp .eql a0 43) = true) → (((icmp .eql a2 0) = false) → ((a2 : Int) ≠ 0))))))))),
    (((icmp .eql a1 2147483648) = true) → (((icmp .eql a0 38) = false) → (((icmp .eql a0 39) = false) → (((icmp .eql a0 40) = false) → (((icmp .eql a0 41) = false) → (((icmp .eql a0 42) = false) → (((icmp .eql a0 43) = false) → (((icmp .eql a0 44) = true) → (((icmp .eql a2 0) = false) → (((icmp .eql a2 4294967295) = false) → (((IntKind.wrap .i32 a2) : Int) ≠ 0))))))))))),
    (((icmp .eql a1 2147483648) = true) → (((icmp .eql a0 38) = false) → (((icmp .eql a0 39) = false) → (((icmp .eql a0 40) = false) → (((icmp .eql a0 41) = false) → (((icmp .eql a0 42) = false) → (((icmp .eql a0 43) = false) → (((icmp .eql a0 44) = false) → (((icmp .eql a2 0) = false) → ((a2 : Int) ≠ 0)))))))))),
    (((icmp .eql a1 2147483648) = false) → (((icmp .eql a0 38) = false) → (((icmp .eql a0 39) = false) → (((icmp .eql a0 40) = false) → (((icmp .eql a0 41) = false) → (((icmp .eql a0 42) = true) → (((icmp .eql a2 0) = false) → (((IntKind.wrap .i32 a2) : Int) ≠ 0)))))))),
    (((icmp .eql a1 2147483648) = false) → (((icmp .eql a0 38) = false) → (((icmp .eql a0 39) = false) → (((icmp .eql a0 40) = false) → (((icmp .eql a0 41) = false) → (((icmp .eql a0 42) = false) → (((icmp .eql a0 43) = true) → (((icmp .eql a2 0) = false) → ((a2 : Int) ≠ 0))))))))),
    (((icmp .eql a1 2147483648) = false) → (((icmp .eql a0 38) = false) → (((icmp .eql a0 39) = false) → (((icmp .eql a0 40) = false) → (((icmp .eql a0 41) = false) → (((icmp .eql a0 42) = false) → (((icmp .eql a0 43) = false) → (((icmp .eql a0 44) = true) → (((icmp .eql a2 0) = false) → (((IntKind.wrap .i32 a2) : Int) ≠ 0)))))))))),
    (((icmp .eql a1 2147483648) = false) → (((icmp .eql a0 38) = false) → (((icmp .eql a0 39) = false) → (((icmp .eql a0 40) = false) → (((icmp .eql a0 41) = false) → (((icmp .eql a0 42) = false) → (((icmp .eql a0 43) = false) → (((icmp .eql a0 44) = false) → (((icmp .eql a2 0) = false) → ((a2 : Int) ≠ 0))))))))))]) (by kernel_rfl) (by simp only [allL]; (repeat' apply And.intro); all_goals first | exact trivial | (intros; simp_all [icmp]; done) | (intros; simp_all [icmp]; first | exact wnz a2 h2 (by assumption) | exact wnz32 a2 h2 (by assumption) | omega)), by kernel_rfl⟩)
end Go.Proofs.Ytpclikbjpjoccaa
namespace Go.Proofs.Ytpclikbjpjoccaa
open Go.Sx
set_option linter.unusedVariables false
set_option linter.unusedSimpArgs false
set_option maxRecDepth 100000
set_option maxHeartbeats 20000000
noncomputable def rhAluC : Ctx := ⟨tys, fns, (((.e : Tr Sum).set 68 rhOneS).set 69 rhMuldivS)⟩
theorem rhAluC_ok : CtxT Try.prog phi rhAluC := ⟨tys_ok, fns_ok, ((SumsT.e.set rhOne_ok).set rhMuldiv_ok), mix_ok⟩
noncomputable def rhAluR (ds : List D) : R (SV × St) := fnRun rhAluC 1000 50 47 (symArgs rhAluS.args 0) (st0 ds 3)
noncomputable def rhAluT : LT :=
 (.nb [.setB0 3 (.cmp .eql (.var 0) (.lit 28))] 3
 (.leaf [.setI0 4 (.bin .add .u32 (.var 1) (.var 2))] (.w (.c (.ivar .u32 4))))
 (.nb [.setB0 4 (.cmp .eql (.var 0) (.lit 29))] 4
 (.leaf [.setI0 5 (.bin .sub .u32 (.var 1) (.var 2))] (.w (.c (.ivar .u32 5))))
 (.nb [.setB0 5 (.cmp .eql (.var 0) (.lit 30))] 5
 (.leaf [.setI0 6 (.bin .and .u32 (.var 2) (.lit 31)), .setI0 7 (.bin .shl .u32 (.var 1) (.var 6))] (.w (.c (.ivar .u32 7))))
 (.nb [.setB0 6 (.cmp .eql (.var 0) (.lit 31))] 6
 (.leaf [.setI0 7 (.conv .i32 (.var 1)), .setI0 8 (.conv .i32 (.var 2)), .setB0 9 (.cmp .lss (.var 7) (.var 8)), .call 68 [(.bvar 9 false)] 10 [(.ri .u32)]] (.w (.c (.ivar .u32 10))))
 (.nb [.setB0 7 (.cmp .eql (.var 0) (.lit 32))] 7
 (.leaf [.setB0 8 (.cmp .lss (.var 1) (.var 2)), .call 68 [(.bvar 8 false)] 9 [(.ri .u32)]] (.w (.c (.ivar .u32 9))))
 (.nb [.setB0 8 (.cmp .eql (.var 0) (.lit 33))] 8
 (.leaf [.setI0 9 (.bin .xor .u32 (.var 1) (.var 2))] (.w (.c (.ivar .u32 9))))
 (.nb [.setB0 9 (.cmp .eql (.var 0) (.lit 34))] 9
 (.leaf [.setI0 10 (.bin .and .u32 (.var 2) (.lit 31)), .setI0 11 (.bin .shr .u32 (.var 1) (.var 10))] (.w (.c (.ivar .u32 11))))
 (.nb [.setB0 10 (.cmp .eql (.var 0) (.lit 35))] 10
 (.leaf [.setI0 11 (.conv .i32 (.var 1)), .setI0 12 (.bin .and .u32 (.var 2) (.lit 31)), .setI0 13 (.bin .shr .i32 (.var 11) (.var 12)), .setI0 14 (.conv .u32 (.var 13))] (.w (.c (.ivar .u32 14))))
 (.nb [.setB0 11 (.cmp .eql (.var 0) (.lit 36))] 11
 (.leaf [.setI0 12 (.bin .or .u32 (.var 1) (.var 2))] (.w (.c (.ivar .u32 12))))
 (.nb [.setB0 12 (.cmp .eql (.var 0) (.lit 37))] 12
 (.leaf [.setI0 13 (.bin .and .u32 (.var 1) (.var 2))] (.w (.c (.ivar .u32 13))))
 (.leaf [.call 69 [(.ivar .i64 0), (.ivar .u32 1), (.ivar .u32 2)] 13 [(.ri .u32)]] (.w (.c (.ivar .u32 13))))))))))))))
theorem rhAluT_ok : LT.Ok rhAluR rhAluT [] [] :=
 (LT.ok_nb (LT.ok_leaf (by kernel_rfl))
 (LT.ok_nb (LT.ok_leaf (by kernel_rfl))
 (LT.ok_nb (LT.ok_leaf (by kernel_rfl))
 (LT.ok_nb (LT.ok_leaf (by kernel_rfl))
 (LT.ok_nb (LT.ok_leaf (by kernel_rfl))
 (LT.ok_nb (LT.ok_leaf (by kernel_rfl))
 (LT.ok_nb (LT.ok_leaf (by kernel_rfl))
 (LT.ok_nb (LT.ok_leaf (by kernel_rfl))
 (LT.ok_nb (LT.ok_leaf (by kernel_rfl))
 (LT.ok_nb (LT.ok_leaf (by kernel_rfl))
 (LT.ok_leaf (by kernel_rfl))))))))))))
theorem rhAlu_ok : SumT Try.prog phi 47 rhAluS := treeSum (t := rhAluT) (lf := 1000) (d := 50) rhAluC_ok (fun xs w => Try.call47 xs w)
 rhAluT_ok
 (by kernel_rfl)
 (by
  intro a0 h0 a1 h1 a2 h2
  exact ⟨obl_nil (by kernel_rfl), by kernel_rfl⟩)
end Go.Proofs.Ytpclikbjpjoccaa
namespace Go.Proofs.Ytpclikbjpjoccaa
open Go.Sx
set_option linter.unusedVariables false
set_option maxRecDepth 100000
theorem ref_Decode (a0 : Int) (h0 : IntKind.has .u32 a0) (w : World) :
    Calls Try.prog 43 #[.int .u32 a0] w fun e w' => e = .returned (.tuple #[.agg #[.int .i64 (rfDec_0 a0), .int .i64 (rfDec_1 a0), .int .i64 (rfDec_2 a0), .int .i64 (rfDec_3 a0), .int .i32 (rfDec_4 a0)], .bool (rfDec_5 a0)]) ∧ RowKit.Below w.heap.size w w' := by
  have e : sumRes rfDecS (phiCells phi 43 [.int .u32 a0] 0 rfDecS.ks) = .tuple #[.agg #[.int .i64 (rfDec_0 a0), .int .i64 (rfDec_1 a0), .int .i64 (rfDec_2 a0), .int .i64 (rfDec_3 a0), .int .i32 (rfDec_4 a0)], .bool (rfDec_5 a0)] := by kernel_rfl
  exact rfDec_ok.calls (vs := [.int .u32 a0]) (show TypedCells [.ri .u32] [.int .u32 a0] from ⟨⟨a0, rfl, h0⟩, trivial⟩) rfl e w (Nat.zero_le _) trivial
theorem ref_taken (a0 : Int) (a1 : Int) (a2 : Int) (h0 : IntKind.has .i64 a0) (h1 : IntKind.has .u32 a1) (h2 : IntKind.has .u32 a2) (w : World) :
    Calls Try.prog 46 #[.int .i64 a0, .int .u32 a1, .int .u32 a2] w fun e w' => e = .returned (.bool (rhTaken a0 a1 a2)) ∧ RowKit.Below w.heap.size w w' := by
  have e : sumRes rhTakenS (phiCells phi 46 [.int .i64 a0, .int .u32 a1, .int .u32 a2] 0 rhTakenS.ks) = .bool (rhTaken a0 a1 a2) := by kernel_rfl
  exact rhTaken_ok.calls (vs := [.int .i64 a0, .int .u32 a1, .int .u32 a2]) (show TypedCells [.ri .i64, .ri .u32, .ri .u32] [.int .i64 a0, .int .u32 a1, .int .u32 a2] from ⟨⟨a0, rfl, h0⟩, ⟨a1, rfl, h1⟩, ⟨a2, rfl, h2⟩, trivial⟩) rfl e w (Nat.zero_le _) trivial
theorem ref_Alu (a0 : Int) (a1 : Int) (a2 : Int) (h0 : IntKind.has .i64 a0) (h1 : IntKind.has .u32 a1) (h2 : IntKind.has .u32 a2) (w : World) :
    Calls Try.prog 47 #[.int .i64 a0, .int .u32 a1, .int .u32 a2] w fun e w' => e = .returned (.int .u32 (rhAlu a0 a1 a2)) ∧ RowKit.Below w.heap.size w w' := by
  have e : sumRes rhAluS (phiCells phi 47 [.int .i64 a0, .int .u32 a1, .int .u32 a2] 0 rhAluS.ks) = .int .u32 (rhAlu a0 a1 a2) := by kernel_rfl
  exact rhAlu_ok.calls (vs := [.int .i64 a0, .int .u32 a1, .int .u32 a2]) (show TypedCells [.ri .i64, .ri .u32, .ri .u32] [.int .i64 a0, .int .u32 a1, .int .u32 a2] from ⟨⟨a0, rfl, h0⟩, ⟨a1, rfl, h1⟩, ⟨a2, rfl, h2⟩, trivial⟩) rfl e w (Nat.zero_le _) trivial
end Go.Proofs.Ytpclikbjpjoccaa
