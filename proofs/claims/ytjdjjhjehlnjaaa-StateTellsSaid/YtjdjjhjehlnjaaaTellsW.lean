/-
  The walk of the law StateTells, out of its ways; printed by a program of this repo.
-/
import Derived.Test.YtjdjjhjehlnjaaaTellsX
import Derived.Test.YtjdjjhjehlnjaaaP7b
import Derived.OpenShut
namespace Go.Proofs.Ytjdjjhjehlnjaaa
open Go.Sx Go.RowKit
set_option linter.unusedVariables false

theorem StateTells_walk (a0 : Int) (a1 : Int) (a2 : Int) (a3 : Int) (a4 : Int) (a5 : Int) (a6 : Int) (a7 : Int) (a8 : Int) (b9 : Bool) (b10 : Bool) (b11 : Bool) (b12 : Bool) (b13 : Bool) (b14 : Bool) (b15 : Bool) (a16 : Int) (a17 : Int) (a18 : Int) (a19 : Int) (a20 : Int) (w0 : (0 ≤ a0 ∧ a0 ≤ 4294967295) ∧ (0 ≤ a1 ∧ a1 ≤ 4294967295) ∧ (0 ≤ a2 ∧ a2 ≤ 4294967295) ∧ (0 ≤ a3 ∧ a3 ≤ 4294967295) ∧ (0 ≤ a4 ∧ a4 ≤ 4294967295) ∧ (0 ≤ a5 ∧ a5 ≤ 4294967295) ∧ (0 ≤ a6 ∧ a6 ≤ 4294967295) ∧ (0 ≤ a7 ∧ a7 ≤ 4294967295) ∧ (0 ≤ a8 ∧ a8 ≤ 4294967295) ∧ (0 ≤ a16 ∧ a16 ≤ 18446744073709551615)) (w1 : (Lit.int .i64 a17).wf = true) (w2 : (Lit.int .u32 a18).wf = true) (w3 : (Lit.int .i64 a19).wf = true) (w4 : (Lit.int .u32 a20).wf = true) (w : World) :
    Calls Try.prog 7 #[.agg #[.int .u32 a0, .int .u32 a1, .int .u32 a2, .int .u32 a3, .int .u32 a4, .int .u32 a5, .int .u32 a6, .int .u32 a7, .int .u32 a8, .bool b9, .bool b10, .bool b11, .bool b12, .bool b13, .bool b14, .bool b15, .int .u64 a16], .int .i64 a17, .int .u32 a18, .int .i64 a19, .int .u32 a20] w fun e w' => e = .returned (.bool true) ∧ Below w.heap.size w w' := by
  obtain ⟨v0, v1, v2, v3, v4, v5, v6, v7, v8, v16⟩ := w0
  have hk := modE8 a17
  have hk2 := and7 a17
  have hc : a17 % 8 = 0 ∨ a17 % 8 = 1 ∨ a17 % 8 = 2 ∨ a17 % 8 = 3 ∨ a17 % 8 = 4 ∨ a17 % 8 = 5 ∨ a17 % 8 = 6 ∨ a17 % 8 = 7 := by omega
  have e0 : ibin .mul .i64 0 8 = 0 := by decide
  rcases hc with h | h | h | h | h | h | h | h <;> rw [h] at hk hk2
  · have hm : ibin .mul .i64 (ibin .quo .i64 0 4) 8 = 0 := by decide
    have hs : ibin .shl .u32 255 0 = 255 := by decide
    refine calls_bool (tells_0 a0 a1 a2 a3 a4 a5 a6 a7 a8 b9 b10 b11 b12 b13 b14 b15 a16 a17 a18 a19 a20 ?_ ?_ ?_ ?_ ?_ ?_ ?_ ?_ ?_ ?_ ?_ ?_ w) ?_
    · rw [hk]; decide
    · rw [hk, hm]; decide
    · rw [hk, hm]; decide
    · rw [hk, hm]; decide
    · rw [hk, hm]; decide
    · rw [hk2]; decide
    · rw [hk2]
    · rw [hk, hm, field_low a0 v0.1 v0.2]; simp only [icmp, beq_self_eq_true]
    · rw [hk, hm, hs]; simp only [shl0]; simp only [beq_self_eq_true, Bool.and_self]
    · exact wf_bounds w3
    · show ((condF b9 b10 b11 b12 b13 b14 a19 == condF b9 b10 b11 b12 b13 b14 a19) && true) = true
      simp only [beq_self_eq_true, Bool.and_self]
    · show icmp .eql (wordF b9 b10 b11 b12 b13 b14) (wordF b9 b10 b11 b12 b13 b14) = true
      simp only [icmp, beq_self_eq_true]
    · rw [bit_eq0, bit_eq, bit_eq, bit_eq, bit_eq, bit_eq]; rfl
  · have hm : ibin .mul .i64 (ibin .quo .i64 1 4) 8 = 0 := by decide
    have hs : ibin .shl .u32 255 0 = 255 := by decide
    refine calls_bool (tells_1 a0 a1 a2 a3 a4 a5 a6 a7 a8 b9 b10 b11 b12 b13 b14 b15 a16 a17 a18 a19 a20 ?_ ?_ ?_ ?_ ?_ ?_ ?_ ?_ ?_ ?_ ?_ ?_ w) ?_
    · rw [hk]; decide
    · rw [hk, hm]; decide
    · rw [hk, hm]; decide
    · rw [hk, hm]; decide
    · rw [hk, hm]; decide
    · rw [hk2]; decide
    · rw [hk2]
    · rw [hk, hm, field_low a1 v1.1 v1.2]; simp only [icmp, beq_self_eq_true]
    · rw [hk, hm, hs]; simp only [shl0]; simp only [beq_self_eq_true, Bool.and_self]
    · exact wf_bounds w3
    · show ((condF b9 b10 b11 b12 b13 b14 a19 == condF b9 b10 b11 b12 b13 b14 a19) && true) = true
      simp only [beq_self_eq_true, Bool.and_self]
    · show icmp .eql (wordF b9 b10 b11 b12 b13 b14) (wordF b9 b10 b11 b12 b13 b14) = true
      simp only [icmp, beq_self_eq_true]
    · rw [bit_eq0, bit_eq, bit_eq, bit_eq, bit_eq, bit_eq]; rfl
  · have hm : ibin .mul .i64 (ibin .quo .i64 2 4) 8 = 0 := by decide
    have hs : ibin .shl .u32 255 0 = 255 := by decide
    refine calls_bool (tells_2 a0 a1 a2 a3 a4 a5 a6 a7 a8 b9 b10 b11 b12 b13 b14 b15 a16 a17 a18 a19 a20 ?_ ?_ ?_ ?_ ?_ ?_ ?_ ?_ ?_ ?_ ?_ ?_ w) ?_
    · rw [hk]; decide
    · rw [hk, hm]; decide
    · rw [hk, hm]; decide
    · rw [hk, hm]; decide
    · rw [hk, hm]; decide
    · rw [hk2]; decide
    · rw [hk2]
    · rw [hk, hm, field_low a2 v2.1 v2.2]; simp only [icmp, beq_self_eq_true]
    · rw [hk, hm, hs]; simp only [shl0]; simp only [beq_self_eq_true, Bool.and_self]
    · exact wf_bounds w3
    · show ((condF b9 b10 b11 b12 b13 b14 a19 == condF b9 b10 b11 b12 b13 b14 a19) && true) = true
      simp only [beq_self_eq_true, Bool.and_self]
    · show icmp .eql (wordF b9 b10 b11 b12 b13 b14) (wordF b9 b10 b11 b12 b13 b14) = true
      simp only [icmp, beq_self_eq_true]
    · rw [bit_eq0, bit_eq, bit_eq, bit_eq, bit_eq, bit_eq]; rfl
  · have hm : ibin .mul .i64 (ibin .quo .i64 3 4) 8 = 0 := by decide
    have hs : ibin .shl .u32 255 0 = 255 := by decide
    refine calls_bool (tells_3 a0 a1 a2 a3 a4 a5 a6 a7 a8 b9 b10 b11 b12 b13 b14 b15 a16 a17 a18 a19 a20 ?_ ?_ ?_ ?_ ?_ ?_ ?_ ?_ ?_ ?_ ?_ ?_ w) ?_
    · rw [hk]; decide
    · rw [hk, hm]; decide
    · rw [hk, hm]; decide
    · rw [hk, hm]; decide
    · rw [hk, hm]; decide
    · rw [hk2]; decide
    · rw [hk2]
    · rw [hk, hm, field_low a3 v3.1 v3.2]; simp only [icmp, beq_self_eq_true]
    · rw [hk, hm, hs]; simp only [shl0]; simp only [beq_self_eq_true, Bool.and_self]
    · exact wf_bounds w3
    · show ((condF b9 b10 b11 b12 b13 b14 a19 == condF b9 b10 b11 b12 b13 b14 a19) && true) = true
      simp only [beq_self_eq_true, Bool.and_self]
    · show icmp .eql (wordF b9 b10 b11 b12 b13 b14) (wordF b9 b10 b11 b12 b13 b14) = true
      simp only [icmp, beq_self_eq_true]
    · rw [bit_eq0, bit_eq, bit_eq, bit_eq, bit_eq, bit_eq]; rfl
  · have hm : ibin .mul .i64 (ibin .quo .i64 4 4) 8 = 8 := by decide
    have hs : ibin .shl .u32 255 8 = 65280 := by decide
    refine calls_bool (tells_4 a0 a1 a2 a3 a4 a5 a6 a7 a8 b9 b10 b11 b12 b13 b14 b15 a16 a17 a18 a19 a20 ?_ ?_ ?_ ?_ ?_ ?_ ?_ ?_ ?_ ?_ ?_ ?_ w) ?_
    · rw [hk]; decide
    · rw [hk, hm]; decide
    · rw [hk, hm]; decide
    · rw [hk, hm]; decide
    · rw [hk, hm]; decide
    · rw [hk2]; decide
    · rw [hk2]; decide
    · rw [hk, hm, field_high a0 v0.1 v0.2]; simp only [icmp, beq_self_eq_true]
    · rw [hk, hm, hs]; simp only [beq_self_eq_true, Bool.and_self]
    · exact wf_bounds w3
    · show ((condF b9 b10 b11 b12 b13 b14 a19 == condF b9 b10 b11 b12 b13 b14 a19) && true) = true
      simp only [beq_self_eq_true, Bool.and_self]
    · show icmp .eql (wordF b9 b10 b11 b12 b13 b14) (wordF b9 b10 b11 b12 b13 b14) = true
      simp only [icmp, beq_self_eq_true]
    · rw [bit_eq0, bit_eq, bit_eq, bit_eq, bit_eq, bit_eq]; rfl
  · have hm : ibin .mul .i64 (ibin .quo .i64 5 4) 8 = 8 := by decide
    have hs : ibin .shl .u32 255 8 = 65280 := by decide
    refine calls_bool (tells_5 a0 a1 a2 a3 a4 a5 a6 a7 a8 b9 b10 b11 b12 b13 b14 b15 a16 a17 a18 a19 a20 ?_ ?_ ?_ ?_ ?_ ?_ ?_ ?_ ?_ ?_ ?_ ?_ w) ?_
    · rw [hk]; decide
    · rw [hk, hm]; decide
    · rw [hk, hm]; decide
    · rw [hk, hm]; decide
    · rw [hk, hm]; decide
    · rw [hk2]; decide
    · rw [hk2]; decide
    · rw [hk, hm, field_high a1 v1.1 v1.2]; simp only [icmp, beq_self_eq_true]
    · rw [hk, hm, hs]; simp only [beq_self_eq_true, Bool.and_self]
    · exact wf_bounds w3
    · show ((condF b9 b10 b11 b12 b13 b14 a19 == condF b9 b10 b11 b12 b13 b14 a19) && true) = true
      simp only [beq_self_eq_true, Bool.and_self]
    · show icmp .eql (wordF b9 b10 b11 b12 b13 b14) (wordF b9 b10 b11 b12 b13 b14) = true
      simp only [icmp, beq_self_eq_true]
    · rw [bit_eq0, bit_eq, bit_eq, bit_eq, bit_eq, bit_eq]; rfl
  · have hm : ibin .mul .i64 (ibin .quo .i64 6 4) 8 = 8 := by decide
    have hs : ibin .shl .u32 255 8 = 65280 := by decide
    refine calls_bool (tells_6 a0 a1 a2 a3 a4 a5 a6 a7 a8 b9 b10 b11 b12 b13 b14 b15 a16 a17 a18 a19 a20 ?_ ?_ ?_ ?_ ?_ ?_ ?_ ?_ ?_ ?_ ?_ ?_ w) ?_
    · rw [hk]; decide
    · rw [hk, hm]; decide
    · rw [hk, hm]; decide
    · rw [hk, hm]; decide
    · rw [hk, hm]; decide
    · rw [hk2]; decide
    · rw [hk2]; decide
    · rw [hk, hm, field_high a2 v2.1 v2.2]; simp only [icmp, beq_self_eq_true]
    · rw [hk, hm, hs]; simp only [beq_self_eq_true, Bool.and_self]
    · exact wf_bounds w3
    · show ((condF b9 b10 b11 b12 b13 b14 a19 == condF b9 b10 b11 b12 b13 b14 a19) && true) = true
      simp only [beq_self_eq_true, Bool.and_self]
    · show icmp .eql (wordF b9 b10 b11 b12 b13 b14) (wordF b9 b10 b11 b12 b13 b14) = true
      simp only [icmp, beq_self_eq_true]
    · rw [bit_eq0, bit_eq, bit_eq, bit_eq, bit_eq, bit_eq]; rfl
  · have hm : ibin .mul .i64 (ibin .quo .i64 7 4) 8 = 8 := by decide
    have hs : ibin .shl .u32 255 8 = 65280 := by decide
    refine calls_bool (tells_7 a0 a1 a2 a3 a4 a5 a6 a7 a8 b9 b10 b11 b12 b13 b14 b15 a16 a17 a18 a19 a20 ?_ ?_ ?_ ?_ ?_ ?_ ?_ ?_ ?_ ?_ ?_ ?_ w) ?_
    · rw [hk]; decide
    · rw [hk, hm]; decide
    · rw [hk, hm]; decide
    · rw [hk, hm]; decide
    · rw [hk, hm]; decide
    · rw [hk2]; decide
    · rw [hk2]; decide
    · rw [hk, hm, field_high a3 v3.1 v3.2]; simp only [icmp, beq_self_eq_true]
    · rw [hk, hm, hs]; simp only [beq_self_eq_true, Bool.and_self]
    · exact wf_bounds w3
    · show ((condF b9 b10 b11 b12 b13 b14 a19 == condF b9 b10 b11 b12 b13 b14 a19) && true) = true
      simp only [beq_self_eq_true, Bool.and_self]
    · show icmp .eql (wordF b9 b10 b11 b12 b13 b14) (wordF b9 b10 b11 b12 b13 b14) = true
      simp only [icmp, beq_self_eq_true]
    · rw [bit_eq0, bit_eq, bit_eq, bit_eq, bit_eq, bit_eq]; rfl
end Go.Proofs.Ytjdjjhjehlnjaaa
