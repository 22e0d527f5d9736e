/-
  ferryman/ferrymanref4.muldiv: all its ways, printed by a program of this repo.
-/
import Derived.Test.YtndfcpkmchjncaaBase
import Derived.Test.YtndfcpkmchjncaaVrfMulS
import Derived.Test.YtndfcpkmchjncaaVrfMulU
import Derived.Test.YtndfcpkmchjncaaHoQ
namespace Go.Proofs.Ytndfcpkmchjncaa
open Go.Sx
set_option linter.unusedVariables false
set_option linter.unusedSimpArgs false
set_option maxRecDepth 100000
set_option maxHeartbeats 20000000
noncomputable def rhMuldivC : Ctx := ⟨tys, fns, (((.e : Tr Sum).set 91 rfMulSS).set 90 rfMulUS)⟩
theorem rhMuldivC_ok : CtxT Try.prog phi rhMuldivC := ⟨tys_ok, fns_ok, ((SumsT.e.set rfMulS_ok).set rfMulU_ok), mix_ok⟩
noncomputable def rhMuldivR (ds : List D) : R (SV × St) := fnRun rhMuldivC 1000 50 74 (symArgs rhMuldivS.args 0) (st0 ds 3)
noncomputable def rhMuldivT : LT :=
 (.nb [.call 90 [(.ivar .u32 1), (.ivar .u32 2)] 3 [(.ri .u32), (.ri .u32)], .call 91 [(.ivar .u32 1), (.ivar .u32 2)] 5 [(.ri .u32), (.ri .u32)], .setB0 7 (.cmp .eql (.var 1) (.lit 2147483648))] 7
 (.nb [.setB0 8 (.cmp .eql (.var 2) (.lit 4294967295)), .setB0 9 (.cmp .eql (.var 0) (.lit 38))] 9
 (.leaf [] (.w (.c (.ivar .u32 3))))
 (.nb [.setB0 10 (.cmp .eql (.var 0) (.lit 39))] 10
 (.leaf [] (.w (.c (.ivar .u32 6))))
 (.nb [.setB0 11 (.cmp .eql (.var 0) (.lit 40))] 11
 (.leaf [.setI0 12 (.conv .i32 (.var 1)), .setI0 13 (.conv .i64 (.var 12)), .setI0 14 (.conv .i64 (.var 2)), .setI0 15 (.bin .mul .i64 (.var 13) (.var 14)), .setI0 16 (.conv .u64 (.var 15)), .setI0 17 (.bin .shr .u64 (.var 16) (.lit 32)), .setI0 18 (.conv .u32 (.var 17))] (.w (.c (.ivar .u32 18))))
 (.nb [.setB0 12 (.cmp .eql (.var 0) (.lit 41))] 12
 (.leaf [] (.w (.c (.ivar .u32 4))))
 (.nb [.setB0 13 (.cmp .eql (.var 0) (.lit 42))] 13
 (.nb [.setB0 14 (.cmp .eql (.var 2) (.lit 0))] 14
 (.leaf [] (.w (.c (.lit (.int .u32 4294967295)))))
 (.nb [] 8
 (.leaf [] (.w (.c (.ivar .u32 1))))
 (.leaf [.setI0 15 (.conv .i32 (.var 1)), .setI0 16 (.conv .i32 (.var 2)), .setI0 17 (.bin .quo .i32 (.var 15) (.var 16)), .setI0 18 (.conv .u32 (.var 17))] (.w (.c (.ivar .u32 18))))))
 (.nb [.setB0 14 (.cmp .eql (.var 0) (.lit 43))] 14
 (.nb [.setB0 15 (.cmp .eql (.var 2) (.lit 0))] 15
 (.leaf [] (.w (.c (.lit (.int .u32 4294967295)))))
 (.leaf [.setI0 16 (.bin .quo .u32 (.var 1) (.var 2))] (.w (.c (.ivar .u32 16)))))
 (.nb [.setB0 15 (.cmp .eql (.var 0) (.lit 44))] 15
 (.nb [.setB0 16 (.cmp .eql (.var 2) (.lit 0))] 16
 (.leaf [] (.w (.c (.ivar .u32 1))))
 (.nb [] 8
 (.leaf [] (.w (.c (.lit (.int .u32 0)))))
 (.leaf [.setI0 17 (.conv .i32 (.var 1)), .setI0 18 (.conv .i32 (.var 2)), .setI0 19 (.bin .rem .i32 (.var 17) (.var 18)), .setI0 20 (.conv .u32 (.var 19))] (.w (.c (.ivar .u32 20))))))
 (.nb [.setB0 16 (.cmp .eql (.var 2) (.lit 0))] 16
 (.leaf [] (.w (.c (.ivar .u32 1))))
 (.leaf [.setI0 17 (.bin .rem .u32 (.var 1) (.var 2))] (.w (.c (.ivar .u32 17))))))))))))
 (.nb [.setB0 8 (.cmp .eql (.var 0) (.lit 38))] 8
 (.leaf [] (.w (.c (.ivar .u32 3))))
 (.nb [.setB0 9 (.cmp .eql (.var 0) (.lit 39))] 9
 (.leaf [] (.w (.c (.ivar .u32 6))))
 (.nb [.setB0 10 (.cmp .eql (.var 0) (.lit 40))] 10
 (.leaf [.setI0 11 (.conv .i32 (.var 1)), .setI0 12 (.conv .i64 (.var 11)), .setI0 13 (.conv .i64 (.var 2)), .setI0 14 (.bin .mul .i64 (.var 12) (.var 13)), .setI0 15 (.conv .u64 (.var 14)), .setI0 16 (.bin .shr .u64 (.var 15) (.lit 32)), .setI0 17 (.conv .u32 (.var 16))] (.w (.c (.ivar .u32 17))))
 (.nb [.setB0 11 (.cmp .eql (.var 0) (.lit 41))] 11
 (.leaf [] (.w (.c (.ivar .u32 4))))
 (.nb [.setB0 12 (.cmp .eql (.var 0) (.lit 42))] 12
 (.nb [.setB0 13 (.cmp .eql (.var 2) (.lit 0))] 13
 (.leaf [] (.w (.c (.lit (.int .u32 4294967295)))))
 (.leaf [.setI0 14 (.conv .i32 (.var 1)), .setI0 15 (.conv .i32 (.var 2)), .setI0 16 (.bin .quo .i32 (.var 14) (.var 15)), .setI0 17 (.conv .u32 (.var 16))] (.w (.c (.ivar .u32 17)))))
 (.nb [.setB0 13 (.cmp .eql (.var 0) (.lit 43))] 13
 (.nb [.setB0 14 (.cmp .eql (.var 2) (.lit 0))] 14
 (.leaf [] (.w (.c (.lit (.int .u32 4294967295)))))
 (.leaf [.setI0 15 (.bin .quo .u32 (.var 1) (.var 2))] (.w (.c (.ivar .u32 15)))))
 (.nb [.setB0 14 (.cmp .eql (.var 0) (.lit 44))] 14
 (.nb [.setB0 15 (.cmp .eql (.var 2) (.lit 0))] 15
 (.leaf [] (.w (.c (.ivar .u32 1))))
 (.leaf [.setI0 16 (.conv .i32 (.var 1)), .setI0 17 (.conv .i32 (.var 2)), .setI0 18 (.bin .rem .i32 (.var 16) (.var 17)), .setI0 19 (.conv .u32 (.var 18))] (.w (.c (.ivar .u32 19)))))
 (.nb [.setB0 15 (.cmp .eql (.var 2) (.lit 0))] 15
 (.leaf [] (.w (.c (.ivar .u32 1))))
 (.leaf [.setI0 16 (.bin .rem .u32 (.var 1) (.var 2))] (.w (.c (.ivar .u32 16)))))))))))))
theorem rhMuldivT_ok : LT.Ok rhMuldivR rhMuldivT [] [] :=
 (LT.ok_nb (LT.ok_nb (LT.ok_leaf (by kernel_rfl))
 (LT.ok_nb (LT.ok_leaf (by kernel_rfl))
 (LT.ok_nb (LT.ok_leaf (by kernel_rfl))
 (LT.ok_nb (LT.ok_leaf (by kernel_rfl))
 (LT.ok_nb (LT.ok_nb (LT.ok_leaf (by kernel_rfl))
 (LT.ok_nb (LT.ok_leaf (by kernel_rfl))
 (LT.ok_leaf (by kernel_rfl))))
 (LT.ok_nb (LT.ok_nb (LT.ok_leaf (by kernel_rfl))
 (LT.ok_leaf (by kernel_rfl)))
 (LT.ok_nb (LT.ok_nb (LT.ok_leaf (by kernel_rfl))
 (LT.ok_nb (LT.ok_leaf (by kernel_rfl))
 (LT.ok_leaf (by kernel_rfl))))
 (LT.ok_nb (LT.ok_leaf (by kernel_rfl))
 (LT.ok_leaf (by kernel_rfl))))))))))
 (LT.ok_nb (LT.ok_leaf (by kernel_rfl))
 (LT.ok_nb (LT.ok_leaf (by kernel_rfl))
 (LT.ok_nb (LT.ok_leaf (by kernel_rfl))
 (LT.ok_nb (LT.ok_leaf (by kernel_rfl))
 (LT.ok_nb (LT.ok_nb (LT.ok_leaf (by kernel_rfl))
 (LT.ok_leaf (by kernel_rfl)))
 (LT.ok_nb (LT.ok_nb (LT.ok_leaf (by kernel_rfl))
 (LT.ok_leaf (by kernel_rfl)))
 (LT.ok_nb (LT.ok_nb (LT.ok_leaf (by kernel_rfl))
 (LT.ok_leaf (by kernel_rfl)))
 (LT.ok_nb (LT.ok_leaf (by kernel_rfl))
 (LT.ok_leaf (by kernel_rfl)))))))))))
theorem rhMuldiv_ok : SumT Try.prog phi 74 rhMuldivS := treeSum (t := rhMuldivT) (lf := 1000) (d := 50) rhMuldivC_ok (fun xs w => Try.call74 xs w)
 rhMuldivT_ok
 (by kernel_rfl)
 (by
  intro a0 h0 a1 h1 a2 h2
  exact ⟨obl_list (m := [(((icmp .eql a1 2147483648) = true) → (((icmp .eql a0 38) = false) → (((icmp .eql a0 39) = false) → (((icmp .eql a0 40) = false) → (((icmp .eql a0 41) = false) → (((icmp .eql a0 42) = true) → (((icmp .eql a2 0) = false) → (((icmp .eql a2 4294967295) = false) → (((IntKind.wrap .i32 a2) : Int) ≠ 0))))))))),
    (((icmp .eql a1 2147483648) = true) → (((icmp .eql a0 38) = false) → (((icmp .eql a0 39) = false) → (((icmp .eql a0 40) = false) → (((icmp .eql a0 41) = false) → (((icmp .eql a0 42) = false) → (((icmp .eql a0 43) = true) → (((icmp .eql a2 0) = false) → ((a2 : Int) ≠ 0))))))))),
    (((icmp .eql a1 2147483648) = true) → (((icmp .eql a0 38) = false) → (((icmp .eql a0 39) = false) → (((icmp .eql a0 40) = false) → (((icmp .eql a0 41) = false) → (((icmp .eql a0 42) = false) → (((icmp .eql a0 43) = false) → (((icmp .eql a0 44) = true) → (((icmp .eql a2 0) = false) → (((icmp .eql a2 4294967295) = false) → (((IntKind.wrap .i32 a2) : Int) ≠ 0))))))))))),
    (((icmp .eql a1 2147483648) = true) → (((icmp .eql a0 38) = false) → (((icmp .eql a0 39) = false) → (((icmp .eql a0 40) = false) → (((icmp .eql a0 41) = false) → (((icmp .eql a0 42) = false) → (((icmp .eql a0 43) = false) → (((icmp .eql a0 44) = false) → (((icmp .eql a2 0) = false) → ((a2 : Int) ≠ 0)))))))))),
    (((icmp .eql a1 2147483648) = false) → (((icmp .eql a0 38) = false) → (((icmp .eql a0 39) = false) → (((icmp .eql a0 40) = false) → (((icmp .eql a0 41) = false) → (((icmp .eql a0 42) = true) → (((icmp .eql a2 0) = false) → (((IntKind.wrap .i32 a2) : Int) ≠ 0)))))))),
    (((icmp .eql a1 2147483648) = false) → (((icmp .eql a0 38) = false) → (((icmp .eql a0 39) = false) → (((icmp .eql a0 40) = false) → (((icmp .eql a0 41) = false) → (((icmp .eql a0 42) = false) → (((icmp .eql a0 43) = true) → (((icmp .eql a2 0) = false) → ((a2 : Int) ≠ 0))))))))),
    (((icmp .eql a1 2147483648) = false) → (((icmp .eql a0 38) = false) → (((icmp .eql a0 39) = false) → (((icmp .eql a0 40) = false) → (((icmp .eql a0 41) = false) → (((icmp .eql a0 42) = false) → (((icmp .eql a0 43) = false) → (((icmp .eql a0 44) = true) → (((icmp .eql a2 0) = false) → (((IntKind.wrap .i32 a2) : Int) ≠ 0)))))))))),
    (((icmp .eql a1 2147483648) = false) → (((icmp .eql a0 38) = false) → (((icmp .eql a0 39) = false) → (((icmp .eql a0 40) = false) → (((icmp .eql a0 41) = false) → (((icmp .eql a0 42) = false) → (((icmp .eql a0 43) = false) → (((icmp .eql a0 44) = false) → (((icmp .eql a2 0) = false) → ((a2 : Int) ≠ 0))))))))))]) (by kernel_rfl) (by simp only [allL]; (repeat' apply And.intro); all_goals first | exact trivial | (intros; simp_all [icmp]; done) | (intros; simp_all [icmp]; first | exact wnz a2 h2 (by assumption) | exact wnz32 a2 h2 (by assumption) | omega)), by kernel_rfl⟩)
end Go.Proofs.Ytndfcpkmchjncaa
