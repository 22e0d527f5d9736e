/-
  The walk of the law StateRegs, out of its ways; printed by a program of this repo.
-/
import Derived.Test.YtjdjjhjehlnjaaaRegsX
import Derived.Test.YtjdjjhjehlnjaaaRegsX2
import Derived.Test.YtjdjjhjehlnjaaaRegsX3
import Derived.Test.YtjdjjhjehlnjaaaRegsX4
import Derived.Test.YtjdjjhjehlnjaaaP7d
import Derived.OpenShut
namespace Go.Proofs.Ytjdjjhjehlnjaaa
open Go.Sx Go.RowKit
set_option linter.unusedVariables false

theorem StateRegs_walk (a0 : Int) (a1 : Int) (a2 : Int) (a3 : Int) (a4 : Int) (a5 : Int) (a6 : Int) (a7 : Int) (a8 : Int) (b9 : Bool) (b10 : Bool) (b11 : Bool) (b12 : Bool) (b13 : Bool) (b14 : Bool) (b15 : Bool) (a16 : Int) (a17 : Int) (a18 : Int) (w0 : (0 ≤ a0 ∧ a0 ≤ 4294967295) ∧ (0 ≤ a1 ∧ a1 ≤ 4294967295) ∧ (0 ≤ a2 ∧ a2 ≤ 4294967295) ∧ (0 ≤ a3 ∧ a3 ≤ 4294967295) ∧ (0 ≤ a4 ∧ a4 ≤ 4294967295) ∧ (0 ≤ a5 ∧ a5 ≤ 4294967295) ∧ (0 ≤ a6 ∧ a6 ≤ 4294967295) ∧ (0 ≤ a7 ∧ a7 ≤ 4294967295) ∧ (0 ≤ a8 ∧ a8 ≤ 4294967295) ∧ (0 ≤ a16 ∧ a16 ≤ 18446744073709551615)) (w1 : (Lit.int .i64 a17).wf = true) (w2 : (Lit.int .u32 a18).wf = true) (w : World) :
    Calls Try.prog 6 #[.agg #[.int .u32 a0, .int .u32 a1, .int .u32 a2, .int .u32 a3, .int .u32 a4, .int .u32 a5, .int .u32 a6, .int .u32 a7, .int .u32 a8, .bool b9, .bool b10, .bool b11, .bool b12, .bool b13, .bool b14, .bool b15, .int .u64 a16], .int .i64 a17, .int .u32 a18] w fun e w' => e = .returned (.bool true) ∧ Below w.heap.size w w' := by
  obtain ⟨v0, v1, v2, v3, v4, v5, v6, v7, v8, v16⟩ := w0
  have v18 := wf_u32 w2
  have hk := modE8 a17
  have hk2 := and7 a17
  have hc : a17 % 8 = 0 ∨ a17 % 8 = 1 ∨ a17 % 8 = 2 ∨ a17 % 8 = 3 ∨ a17 % 8 = 4 ∨ a17 % 8 = 5 ∨ a17 % 8 = 6 ∨ a17 % 8 = 7 := by omega
  rcases hc with h | h | h | h | h | h | h | h <;> rw [h] at hk hk2
  · cases hs : icmp .lss a17 0
    · refine calls_bool (regs_0_0 a0 a1 a2 a3 a4 a5 a6 a7 a8 b9 b10 b11 b12 b13 b14 b15 a16 a17 a18 hs (by rw [hk]; decide) (by rw [hk]; decide) (by rw [hk]; decide) hk w) ?_
      rw [word_back a18 v18.1 v18.2, word_back a1 v1.1 v1.2, word_back a2 v2.1 v2.2, word_back a3 v3.1 v3.2, word_back a4 v4.1 v4.2, word_back a5 v5.1 v5.2, word_back a6 v6.1 v6.2, word_back a7 v7.1 v7.2, word_back a8 v8.1 v8.2, word_back _ (u32_in a16).1 (u32_in a16).2, word_back _ (u32_in _).1 (u32_in _).2, wide_back a16 v16.1 v16.2]
      simp only [word_truth, neq_truth, beq_self_eq_true, Bool.and_self]
    · refine calls_bool (regs_1_0 a0 a1 a2 a3 a4 a5 a6 a7 a8 b9 b10 b11 b12 b13 b14 b15 a16 a17 a18 hs (by rw [hk]; decide) (by rw [hk]; decide) (by rw [hk]; decide) hk2 w) ?_
      rw [word_back a18 v18.1 v18.2, word_back a1 v1.1 v1.2, word_back a2 v2.1 v2.2, word_back a3 v3.1 v3.2, word_back a4 v4.1 v4.2, word_back a5 v5.1 v5.2, word_back a6 v6.1 v6.2, word_back a7 v7.1 v7.2, word_back a8 v8.1 v8.2, word_back _ (u32_in a16).1 (u32_in a16).2, word_back _ (u32_in _).1 (u32_in _).2, wide_back a16 v16.1 v16.2]
      simp only [word_truth, neq_truth, beq_self_eq_true, Bool.and_self]
  · cases hs : icmp .lss a17 0
    · refine calls_bool (regs_0_1 a0 a1 a2 a3 a4 a5 a6 a7 a8 b9 b10 b11 b12 b13 b14 b15 a16 a17 a18 hs (by rw [hk]; decide) (by rw [hk]; decide) (by rw [hk]; decide) hk w) ?_
      rw [word_back a0 v0.1 v0.2, word_back a18 v18.1 v18.2, word_back a2 v2.1 v2.2, word_back a3 v3.1 v3.2, word_back a4 v4.1 v4.2, word_back a5 v5.1 v5.2, word_back a6 v6.1 v6.2, word_back a7 v7.1 v7.2, word_back a8 v8.1 v8.2, word_back _ (u32_in a16).1 (u32_in a16).2, word_back _ (u32_in _).1 (u32_in _).2, wide_back a16 v16.1 v16.2]
      simp only [word_truth, neq_truth, beq_self_eq_true, Bool.and_self]
    · refine calls_bool (regs_1_1 a0 a1 a2 a3 a4 a5 a6 a7 a8 b9 b10 b11 b12 b13 b14 b15 a16 a17 a18 hs (by rw [hk]; decide) (by rw [hk]; decide) (by rw [hk]; decide) hk2 w) ?_
      rw [word_back a0 v0.1 v0.2, word_back a18 v18.1 v18.2, word_back a2 v2.1 v2.2, word_back a3 v3.1 v3.2, word_back a4 v4.1 v4.2, word_back a5 v5.1 v5.2, word_back a6 v6.1 v6.2, word_back a7 v7.1 v7.2, word_back a8 v8.1 v8.2, word_back _ (u32_in a16).1 (u32_in a16).2, word_back _ (u32_in _).1 (u32_in _).2, wide_back a16 v16.1 v16.2]
      simp only [word_truth, neq_truth, beq_self_eq_true, Bool.and_self]
  · cases hs : icmp .lss a17 0
    · refine calls_bool (regs_0_2 a0 a1 a2 a3 a4 a5 a6 a7 a8 b9 b10 b11 b12 b13 b14 b15 a16 a17 a18 hs (by rw [hk]; decide) (by rw [hk]; decide) (by rw [hk]; decide) hk w) ?_
      rw [word_back a0 v0.1 v0.2, word_back a1 v1.1 v1.2, word_back a18 v18.1 v18.2, word_back a3 v3.1 v3.2, word_back a4 v4.1 v4.2, word_back a5 v5.1 v5.2, word_back a6 v6.1 v6.2, word_back a7 v7.1 v7.2, word_back a8 v8.1 v8.2, word_back _ (u32_in a16).1 (u32_in a16).2, word_back _ (u32_in _).1 (u32_in _).2, wide_back a16 v16.1 v16.2]
      simp only [word_truth, neq_truth, beq_self_eq_true, Bool.and_self]
    · refine calls_bool (regs_1_2 a0 a1 a2 a3 a4 a5 a6 a7 a8 b9 b10 b11 b12 b13 b14 b15 a16 a17 a18 hs (by rw [hk]; decide) (by rw [hk]; decide) (by rw [hk]; decide) hk2 w) ?_
      rw [word_back a0 v0.1 v0.2, word_back a1 v1.1 v1.2, word_back a18 v18.1 v18.2, word_back a3 v3.1 v3.2, word_back a4 v4.1 v4.2, word_back a5 v5.1 v5.2, word_back a6 v6.1 v6.2, word_back a7 v7.1 v7.2, word_back a8 v8.1 v8.2, word_back _ (u32_in a16).1 (u32_in a16).2, word_back _ (u32_in _).1 (u32_in _).2, wide_back a16 v16.1 v16.2]
      simp only [word_truth, neq_truth, beq_self_eq_true, Bool.and_self]
  · cases hs : icmp .lss a17 0
    · refine calls_bool (regs_0_3 a0 a1 a2 a3 a4 a5 a6 a7 a8 b9 b10 b11 b12 b13 b14 b15 a16 a17 a18 hs (by rw [hk]; decide) (by rw [hk]; decide) (by rw [hk]; decide) hk w) ?_
      rw [word_back a0 v0.1 v0.2, word_back a1 v1.1 v1.2, word_back a2 v2.1 v2.2, word_back a18 v18.1 v18.2, word_back a4 v4.1 v4.2, word_back a5 v5.1 v5.2, word_back a6 v6.1 v6.2, word_back a7 v7.1 v7.2, word_back a8 v8.1 v8.2, word_back _ (u32_in a16).1 (u32_in a16).2, word_back _ (u32_in _).1 (u32_in _).2, wide_back a16 v16.1 v16.2]
      simp only [word_truth, neq_truth, beq_self_eq_true, Bool.and_self]
    · refine calls_bool (regs_1_3 a0 a1 a2 a3 a4 a5 a6 a7 a8 b9 b10 b11 b12 b13 b14 b15 a16 a17 a18 hs (by rw [hk]; decide) (by rw [hk]; decide) (by rw [hk]; decide) hk2 w) ?_
      rw [word_back a0 v0.1 v0.2, word_back a1 v1.1 v1.2, word_back a2 v2.1 v2.2, word_back a18 v18.1 v18.2, word_back a4 v4.1 v4.2, word_back a5 v5.1 v5.2, word_back a6 v6.1 v6.2, word_back a7 v7.1 v7.2, word_back a8 v8.1 v8.2, word_back _ (u32_in a16).1 (u32_in a16).2, word_back _ (u32_in _).1 (u32_in _).2, wide_back a16 v16.1 v16.2]
      simp only [word_truth, neq_truth, beq_self_eq_true, Bool.and_self]
  · cases hs : icmp .lss a17 0
    · refine calls_bool (regs_0_4 a0 a1 a2 a3 a4 a5 a6 a7 a8 b9 b10 b11 b12 b13 b14 b15 a16 a17 a18 hs (by rw [hk]; decide) (by rw [hk]; decide) (by rw [hk]; decide) hk w) ?_
      rw [word_back a0 v0.1 v0.2, word_back a1 v1.1 v1.2, word_back a2 v2.1 v2.2, word_back a3 v3.1 v3.2, word_back a18 v18.1 v18.2, word_back a5 v5.1 v5.2, word_back a6 v6.1 v6.2, word_back a7 v7.1 v7.2, word_back a8 v8.1 v8.2, word_back _ (u32_in a16).1 (u32_in a16).2, word_back _ (u32_in _).1 (u32_in _).2, wide_back a16 v16.1 v16.2]
      simp only [word_truth, neq_truth, beq_self_eq_true, Bool.and_self]
    · refine calls_bool (regs_1_4 a0 a1 a2 a3 a4 a5 a6 a7 a8 b9 b10 b11 b12 b13 b14 b15 a16 a17 a18 hs (by rw [hk]; decide) (by rw [hk]; decide) (by rw [hk]; decide) hk2 w) ?_
      rw [word_back a0 v0.1 v0.2, word_back a1 v1.1 v1.2, word_back a2 v2.1 v2.2, word_back a3 v3.1 v3.2, word_back a18 v18.1 v18.2, word_back a5 v5.1 v5.2, word_back a6 v6.1 v6.2, word_back a7 v7.1 v7.2, word_back a8 v8.1 v8.2, word_back _ (u32_in a16).1 (u32_in a16).2, word_back _ (u32_in _).1 (u32_in _).2, wide_back a16 v16.1 v16.2]
      simp only [word_truth, neq_truth, beq_self_eq_true, Bool.and_self]
  · cases hs : icmp .lss a17 0
    · refine calls_bool (regs_0_5 a0 a1 a2 a3 a4 a5 a6 a7 a8 b9 b10 b11 b12 b13 b14 b15 a16 a17 a18 hs (by rw [hk]; decide) (by rw [hk]; decide) (by rw [hk]; decide) hk w) ?_
      rw [word_back a0 v0.1 v0.2, word_back a1 v1.1 v1.2, word_back a2 v2.1 v2.2, word_back a3 v3.1 v3.2, word_back a4 v4.1 v4.2, word_back a18 v18.1 v18.2, word_back a6 v6.1 v6.2, word_back a7 v7.1 v7.2, word_back a8 v8.1 v8.2, word_back _ (u32_in a16).1 (u32_in a16).2, word_back _ (u32_in _).1 (u32_in _).2, wide_back a16 v16.1 v16.2]
      simp only [word_truth, neq_truth, beq_self_eq_true, Bool.and_self]
    · refine calls_bool (regs_1_5 a0 a1 a2 a3 a4 a5 a6 a7 a8 b9 b10 b11 b12 b13 b14 b15 a16 a17 a18 hs (by rw [hk]; decide) (by rw [hk]; decide) (by rw [hk]; decide) hk2 w) ?_
      rw [word_back a0 v0.1 v0.2, word_back a1 v1.1 v1.2, word_back a2 v2.1 v2.2, word_back a3 v3.1 v3.2, word_back a4 v4.1 v4.2, word_back a18 v18.1 v18.2, word_back a6 v6.1 v6.2, word_back a7 v7.1 v7.2, word_back a8 v8.1 v8.2, word_back _ (u32_in a16).1 (u32_in a16).2, word_back _ (u32_in _).1 (u32_in _).2, wide_back a16 v16.1 v16.2]
      simp only [word_truth, neq_truth, beq_self_eq_true, Bool.and_self]
  · cases hs : icmp .lss a17 0
    · refine calls_bool (regs_0_6 a0 a1 a2 a3 a4 a5 a6 a7 a8 b9 b10 b11 b12 b13 b14 b15 a16 a17 a18 hs (by rw [hk]; decide) (by rw [hk]; decide) (by rw [hk]; decide) hk w) ?_
      rw [word_back a0 v0.1 v0.2, word_back a1 v1.1 v1.2, word_back a2 v2.1 v2.2, word_back a3 v3.1 v3.2, word_back a4 v4.1 v4.2, word_back a5 v5.1 v5.2, word_back a18 v18.1 v18.2, word_back a7 v7.1 v7.2, word_back a8 v8.1 v8.2, word_back _ (u32_in a16).1 (u32_in a16).2, word_back _ (u32_in _).1 (u32_in _).2, wide_back a16 v16.1 v16.2]
      simp only [word_truth, neq_truth, beq_self_eq_true, Bool.and_self]
    · refine calls_bool (regs_1_6 a0 a1 a2 a3 a4 a5 a6 a7 a8 b9 b10 b11 b12 b13 b14 b15 a16 a17 a18 hs (by rw [hk]; decide) (by rw [hk]; decide) (by rw [hk]; decide) hk2 w) ?_
      rw [word_back a0 v0.1 v0.2, word_back a1 v1.1 v1.2, word_back a2 v2.1 v2.2, word_back a3 v3.1 v3.2, word_back a4 v4.1 v4.2, word_back a5 v5.1 v5.2, word_back a18 v18.1 v18.2, word_back a7 v7.1 v7.2, word_back a8 v8.1 v8.2, word_back _ (u32_in a16).1 (u32_in a16).2, word_back _ (u32_in _).1 (u32_in _).2, wide_back a16 v16.1 v16.2]
      simp only [word_truth, neq_truth, beq_self_eq_true, Bool.and_self]
  · cases hs : icmp .lss a17 0
    · refine calls_bool (regs_0_7 a0 a1 a2 a3 a4 a5 a6 a7 a8 b9 b10 b11 b12 b13 b14 b15 a16 a17 a18 hs (by rw [hk]; decide) (by rw [hk]; decide) (by rw [hk]; decide) hk w) ?_
      rw [word_back a0 v0.1 v0.2, word_back a1 v1.1 v1.2, word_back a2 v2.1 v2.2, word_back a3 v3.1 v3.2, word_back a4 v4.1 v4.2, word_back a5 v5.1 v5.2, word_back a6 v6.1 v6.2, word_back a18 v18.1 v18.2, word_back a8 v8.1 v8.2, word_back _ (u32_in a16).1 (u32_in a16).2, word_back _ (u32_in _).1 (u32_in _).2, wide_back a16 v16.1 v16.2]
      simp only [word_truth, neq_truth, beq_self_eq_true, Bool.and_self]
    · refine calls_bool (regs_1_7 a0 a1 a2 a3 a4 a5 a6 a7 a8 b9 b10 b11 b12 b13 b14 b15 a16 a17 a18 hs (by rw [hk]; decide) (by rw [hk]; decide) (by rw [hk]; decide) hk2 w) ?_
      rw [word_back a0 v0.1 v0.2, word_back a1 v1.1 v1.2, word_back a2 v2.1 v2.2, word_back a3 v3.1 v3.2, word_back a4 v4.1 v4.2, word_back a5 v5.1 v5.2, word_back a6 v6.1 v6.2, word_back a18 v18.1 v18.2, word_back a8 v8.1 v8.2, word_back _ (u32_in a16).1 (u32_in a16).2, word_back _ (u32_in _).1 (u32_in _).2, wide_back a16 v16.1 v16.2]
      simp only [word_truth, neq_truth, beq_self_eq_true, Bool.and_self]
end Go.Proofs.Ytjdjjhjehlnjaaa
