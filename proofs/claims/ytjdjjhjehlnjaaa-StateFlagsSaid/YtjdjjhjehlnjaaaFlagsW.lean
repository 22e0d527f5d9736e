/-
  The walk of the law StateFlags, out of its way; printed by a program of this repo.
-/
import Derived.Test.YtjdjjhjehlnjaaaFlagsX
import Derived.Test.YtjdjjhjehlnjaaaP7c
import Derived.OpenShut
namespace Go.Proofs.Ytjdjjhjehlnjaaa
open Go.Sx Go.RowKit
set_option linter.unusedVariables false

theorem StateFlags_walk (a0 : Int) (a1 : Int) (a2 : Int) (a3 : Int) (a4 : Int) (a5 : Int) (a6 : Int) (a7 : Int) (a8 : Int) (b9 : Bool) (b10 : Bool) (b11 : Bool) (b12 : Bool) (b13 : Bool) (b14 : Bool) (b15 : Bool) (a16 : Int) (a17 : Int) (a18 : Int) (a19 : Int) (a20 : Int) (a21 : Int) (a22 : Int) (a23 : Int) (w0 : (0 ≤ a0 ∧ a0 ≤ 4294967295) ∧ (0 ≤ a1 ∧ a1 ≤ 4294967295) ∧ (0 ≤ a2 ∧ a2 ≤ 4294967295) ∧ (0 ≤ a3 ∧ a3 ≤ 4294967295) ∧ (0 ≤ a4 ∧ a4 ≤ 4294967295) ∧ (0 ≤ a5 ∧ a5 ≤ 4294967295) ∧ (0 ≤ a6 ∧ a6 ≤ 4294967295) ∧ (0 ≤ a7 ∧ a7 ≤ 4294967295) ∧ (0 ≤ a8 ∧ a8 ≤ 4294967295) ∧ (0 ≤ a16 ∧ a16 ≤ 18446744073709551615)) (w1 : (0 ≤ a17 ∧ a17 ≤ 4294967295) ∧ (0 ≤ a18 ∧ a18 ≤ 4294967295) ∧ (0 ≤ a19 ∧ a19 ≤ 4294967295) ∧ (0 ≤ a20 ∧ a20 ≤ 4294967295) ∧ (0 ≤ a21 ∧ a21 ≤ 4294967295) ∧ (0 ≤ a22 ∧ a22 ≤ 4294967295) ∧ (0 ≤ a23 ∧ a23 ≤ 4294967295)) (w : World) :
    Calls Try.prog 5 #[.agg #[.int .u32 a0, .int .u32 a1, .int .u32 a2, .int .u32 a3, .int .u32 a4, .int .u32 a5, .int .u32 a6, .int .u32 a7, .int .u32 a8, .bool b9, .bool b10, .bool b11, .bool b12, .bool b13, .bool b14, .bool b15, .int .u64 a16], .agg #[.int .u32 a17, .int .u32 a18, .int .u32 a19, .int .u32 a20, .int .u32 a21, .int .u32 a22, .int .u32 a23]] w fun e w' => e = .returned (.bool true) ∧ Below w.heap.size w w' := by
  obtain ⟨v0, v1, v2, v3, v4, v5, v6, v7, v8, v16⟩ := w0
  obtain ⟨v17, v18, v19, v20, v21, v22, v23⟩ := w1
  refine calls_bool (flags_way a0 a1 a2 a3 a4 a5 a6 a7 a8 b9 b10 b11 b12 b13 b14 b15 a16 a17 a18 a19 a20 a21 a22 a23 w) ?_
  rw [word_back a0 v0.1 v0.2, word_back a1 v1.1 v1.2, word_back a2 v2.1 v2.2, word_back a3 v3.1 v3.2, word_back a4 v4.1 v4.2, word_back a5 v5.1 v5.2, word_back a6 v6.1 v6.2, word_back a7 v7.1 v7.2, word_back a8 v8.1 v8.2, word_back a17 v17.1 v17.2, word_back a18 v18.1 v18.2, word_back a19 v19.1 v19.2, word_back a20 v20.1 v20.2, word_back a21 v21.1 v21.2, word_back a22 v22.1 v22.2, word_back a23 v23.1 v23.2, word_back _ (u32_in a16).1 (u32_in a16).2, word_back _ (u32_in _).1 (u32_in _).2, wide_back a16 v16.1 v16.2]
  simp only [beq_self_eq_true, Bool.and_self]
end Go.Proofs.Ytjdjjhjehlnjaaa

