/-
  The walk of the law StatePuts, out of its way; printed by a program of this repo.
-/
import Derived.Test.YtjdjjhjehlnjaaaPutsX
import Derived.Test.YtjdjjhjehlnjaaaP7d
import Derived.OpenShut
namespace Go.Proofs.Ytjdjjhjehlnjaaa
open Go.Sx Go.RowKit
set_option linter.unusedVariables false

theorem StatePuts_walk (a0 : Int) (a1 : Int) (a2 : Int) (a3 : Int) (a4 : Int) (a5 : Int) (a6 : Int) (a7 : Int) (a8 : Int) (b9 : Bool) (b10 : Bool) (b11 : Bool) (b12 : Bool) (b13 : Bool) (b14 : Bool) (b15 : Bool) (a16 : Int) (a17 : Int) (a18 : Int) (a19 : Int) (a20 : Int) (a21 : Int) (a22 : Int) (a23 : Int) (a24 : Int) (a25 : Int) (b26 : Bool) (b27 : Bool) (b28 : Bool) (b29 : Bool) (b30 : Bool) (b31 : Bool) (b32 : Bool) (a33 : Int) (a34 : Int) (w0 : (0 ≤ a0 ∧ a0 ≤ 4294967295) ∧ (0 ≤ a1 ∧ a1 ≤ 4294967295) ∧ (0 ≤ a2 ∧ a2 ≤ 4294967295) ∧ (0 ≤ a3 ∧ a3 ≤ 4294967295) ∧ (0 ≤ a4 ∧ a4 ≤ 4294967295) ∧ (0 ≤ a5 ∧ a5 ≤ 4294967295) ∧ (0 ≤ a6 ∧ a6 ≤ 4294967295) ∧ (0 ≤ a7 ∧ a7 ≤ 4294967295) ∧ (0 ≤ a8 ∧ a8 ≤ 4294967295) ∧ (0 ≤ a16 ∧ a16 ≤ 18446744073709551615)) (w1 : (0 ≤ a17 ∧ a17 ≤ 4294967295) ∧ (0 ≤ a18 ∧ a18 ≤ 4294967295) ∧ (0 ≤ a19 ∧ a19 ≤ 4294967295) ∧ (0 ≤ a20 ∧ a20 ≤ 4294967295) ∧ (0 ≤ a21 ∧ a21 ≤ 4294967295) ∧ (0 ≤ a22 ∧ a22 ≤ 4294967295) ∧ (0 ≤ a23 ∧ a23 ≤ 4294967295) ∧ (0 ≤ a24 ∧ a24 ≤ 4294967295) ∧ (0 ≤ a25 ∧ a25 ≤ 4294967295) ∧ (0 ≤ a33 ∧ a33 ≤ 18446744073709551615)) (w2 : (Lit.int .u32 a34).wf = true) (w : World) :
    Calls Try.prog 3 #[.agg #[.int .u32 a0, .int .u32 a1, .int .u32 a2, .int .u32 a3, .int .u32 a4, .int .u32 a5, .int .u32 a6, .int .u32 a7, .int .u32 a8, .bool b9, .bool b10, .bool b11, .bool b12, .bool b13, .bool b14, .bool b15, .int .u64 a16], .agg #[.int .u32 a17, .int .u32 a18, .int .u32 a19, .int .u32 a20, .int .u32 a21, .int .u32 a22, .int .u32 a23, .int .u32 a24, .int .u32 a25, .bool b26, .bool b27, .bool b28, .bool b29, .bool b30, .bool b31, .bool b32, .int .u64 a33], .int .u32 a34] w fun e w' => e = .returned (.bool true) ∧ Below w.heap.size w w' := by
  obtain ⟨v0, v1, v2, v3, v4, v5, v6, v7, v8, v16⟩ := w0
  obtain ⟨v17, v18, v19, v20, v21, v22, v23, v24, v25, v33⟩ := w1
  have v34 := wf_u32 w2
  refine calls_bool (puts_way a0 a1 a2 a3 a4 a5 a6 a7 a8 b9 b10 b11 b12 b13 b14 b15 a16 a17 a18 a19 a20 a21 a22 a23 a24 a25 b26 b27 b28 b29 b30 b31 b32 a33 a34 ?_ ?_ ?_ ?_ ?_ ?_ ?_ ?_ ?_ ?_ ?_ ?_ ?_ ?_ ?_ ?_ ?_ ?_ ?_ ?_ ?_ ?_ ?_ ?_ ?_ ?_ w) ?_
  · rw [word_back a0 v0.1 v0.2, word_back a1 v1.1 v1.2, word_back a2 v2.1 v2.2, word_back a3 v3.1 v3.2, word_back a4 v4.1 v4.2, word_back a5 v5.1 v5.2, word_back a6 v6.1 v6.2, word_back a7 v7.1 v7.2, word_back a8 v8.1 v8.2, word_back _ (u32_in a16).1 (u32_in a16).2, word_back _ (u32_in _).1 (u32_in _).2, wide_back a16 v16.1 v16.2]
    simp only [word_truth, neq_truth, beq_self_eq_true, Bool.and_self]
  · rw [word_back a0 v0.1 v0.2]; exact neq_self _
  · rw [word_back a1 v1.1 v1.2]; exact neq_self _
  · rw [word_back a2 v2.1 v2.2]; exact neq_self _
  · rw [word_back a3 v3.1 v3.2]; exact neq_self _
  · rw [word_back a4 v4.1 v4.2]; exact neq_self _
  · rw [word_back a5 v5.1 v5.2]; exact neq_self _
  · rw [word_back a6 v6.1 v6.2]; exact neq_self _
  · rw [word_back a7 v7.1 v7.2]; exact neq_self _
  · rw [word_truth]; cases b9 <;> rfl
  · rw [word_truth]; exact gtr_truth _
  · rw [word_truth]; cases b10 <;> rfl
  · rw [word_truth]; exact gtr_truth _
  · rw [word_truth]; cases b11 <;> rfl
  · rw [word_truth]; exact gtr_truth _
  · rw [word_truth]; cases b12 <;> rfl
  · rw [word_truth]; exact gtr_truth _
  · rw [word_truth]; cases b13 <;> rfl
  · rw [word_truth]; exact gtr_truth _
  · rw [word_truth]; cases b14 <;> rfl
  · rw [word_truth]; exact gtr_truth _
  · rw [word_truth]; cases b15 <;> rfl
  · rw [word_truth]; exact gtr_truth _
  · rw [word_back a8 v8.1 v8.2]; exact eql_self _
  · rw [word_back _ (u32_in a16).1 (u32_in a16).2, word_back _ (u32_in _).1 (u32_in _).2, wide_back2 a16 v16.1 v16.2]; exact eql_self _
  · rw [word_back a34 v34.1 v34.2]; exact eql_self _
  · rw [word_back a34 v34.1 v34.2]; exact eql_self _
end Go.Proofs.Ytjdjjhjehlnjaaa
