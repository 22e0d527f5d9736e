/-
  Plain laws of the words of the host machine: which words may be, their bits as sums, what is read back. No program in sight.
-/
import Derived.Test.YtndfcpkmchjncaaBase
import Derived.Test.YtndfcpkmchjncaaBitP
namespace Go.Proofs.Ytndfcpkmchjncaa
open Go.Sx
set_option linter.unusedVariables false
set_option linter.unusedSimpArgs false
set_option maxRecDepth 100000

def Rg (r : Int) : Prop := 0 ≤ r ∧ r < 32
/-- a word that may be -/
def W (op d a b n : Int) : Prop :=
  (1 ≤ op ∧ op ≤ 47) ∧
  ((rvOf_1 op = 1 ∧ Rg d ∧ Rg a ∧ Rg b ∧ n = 0)
  ∨ ((rvOf_1 op = 2 ∨ rvOf_1 op = 3) ∧ Rg d ∧ Rg a ∧ b = 0 ∧ -2048 ≤ n ∧ n < 2048)
  ∨ (rvOf_1 op = 4 ∧ Rg d ∧ Rg a ∧ b = 0 ∧ 0 ≤ n ∧ n < 32)
  ∨ (rvOf_1 op = 5 ∧ d = 0 ∧ Rg a ∧ Rg b ∧ -2048 ≤ n ∧ n < 2048)
  ∨ (rvOf_1 op = 6 ∧ d = 0 ∧ Rg a ∧ Rg b ∧ (-4096 ≤ n ∧ n < 4096) ∧ n % 2 = 0)
  ∨ (rvOf_1 op = 7 ∧ Rg d ∧ a = 0 ∧ b = 0 ∧ n % 4096 = 0)
  ∨ (rvOf_1 op = 8 ∧ Rg d ∧ a = 0 ∧ b = 0 ∧ (-1048576 ≤ n ∧ n < 1048576) ∧ n % 2 = 0)
  ∨ (rvOf_1 op = 9 ∧ d = 0 ∧ a = 0 ∧ b = 0 ∧ n = 0))

theorem row {op : Int} (h1 : 1 ≤ op) (h2 : op ≤ 47) : rvOf_5 op = true ∧ (0 ≤ rvOf_2 op ∧ rvOf_2 op < 128 ∧ 0 ≤ rvOf_3 op ∧ rvOf_3 op < 8 ∧ 0 ≤ rvOf_4 op ∧ rvOf_4 op < 128) ∧ (rfOf_1 op = rvOf_2 op ∧ rfOf_2 op = rvOf_3 op) ∧
    ((rvOf_1 op = 1 ∧ rfOf_0 op = 82 ∧ rfOf_3 op = rvOf_4 op ∧ op ≠ 47)
    ∨ ((rvOf_1 op = 2 ∨ rvOf_1 op = 3) ∧ rfOf_0 op = 73 ∧ rvOf_4 op = 0 ∧ op ≠ 47)
    ∨ (rvOf_1 op = 4 ∧ rfOf_0 op = 72 ∧ rfOf_3 op = rvOf_4 op ∧ op ≠ 47)
    ∨ (rvOf_1 op = 5 ∧ rfOf_0 op = 83 ∧ rvOf_4 op = 0 ∧ op ≠ 47)
    ∨ (rvOf_1 op = 6 ∧ rfOf_0 op = 66 ∧ rvOf_4 op = 0 ∧ op ≠ 47)
    ∨ (rvOf_1 op = 7 ∧ rfOf_0 op = 85 ∧ (rvOf_3 op = 0 ∧ rvOf_4 op = 0) ∧ op ≠ 47)
    ∨ (rvOf_1 op = 8 ∧ rfOf_0 op = 74 ∧ (rvOf_3 op = 0 ∧ rvOf_4 op = 0) ∧ op ≠ 47)
    ∨ (rvOf_1 op = 9 ∧ rfOf_0 op = 69 ∧ (rvOf_3 op = 0 ∧ rvOf_4 op = 0) ∧ (op = 46 ∨ op = 47))) := by
  have := fin47 (fun op => decide (rvOf_5 op = true ∧ (0 ≤ rvOf_2 op ∧ rvOf_2 op < 128 ∧ 0 ≤ rvOf_3 op ∧ rvOf_3 op < 8 ∧ 0 ≤ rvOf_4 op ∧ rvOf_4 op < 128) ∧ (rfOf_1 op = rvOf_2 op ∧ rfOf_2 op = rvOf_3 op) ∧
    ((rvOf_1 op = 1 ∧ rfOf_0 op = 82 ∧ rfOf_3 op = rvOf_4 op ∧ op ≠ 47)
    ∨ ((rvOf_1 op = 2 ∨ rvOf_1 op = 3) ∧ rfOf_0 op = 73 ∧ rvOf_4 op = 0 ∧ op ≠ 47)
    ∨ (rvOf_1 op = 4 ∧ rfOf_0 op = 72 ∧ rfOf_3 op = rvOf_4 op ∧ op ≠ 47)
    ∨ (rvOf_1 op = 5 ∧ rfOf_0 op = 83 ∧ rvOf_4 op = 0 ∧ op ≠ 47)
    ∨ (rvOf_1 op = 6 ∧ rfOf_0 op = 66 ∧ rvOf_4 op = 0 ∧ op ≠ 47)
    ∨ (rvOf_1 op = 7 ∧ rfOf_0 op = 85 ∧ (rvOf_3 op = 0 ∧ rvOf_4 op = 0) ∧ op ≠ 47)
    ∨ (rvOf_1 op = 8 ∧ rfOf_0 op = 74 ∧ (rvOf_3 op = 0 ∧ rvOf_4 op = 0) ∧ op ≠ 47)
    ∨ (rvOf_1 op = 9 ∧ rfOf_0 op = 69 ∧ (rvOf_3 op = 0 ∧ rvOf_4 op = 0) ∧ (op = 46 ∨ op = 47))))) (by kernel_rfl) h1 h2
  exact of_decide_eq_true this
theorem noRow {op : Int} (h : ¬ (1 ≤ op ∧ op ≤ 47)) : rvOf_5 op = false ∧ rfOf_0 op = 0 := by
  unfold rvOf_5 rfOf_0
  simp only [ic_lt, ic_gt]
  by_cases h1 : op < 1
  · simp only [h1, decide_true, cond_true, and_self]
  · have h2 : 47 < op := by omega
    simp only [h1, h2, decide_true, decide_false, cond_true, cond_false, and_self]

theorem rvReg_t (r : Int) : rvReg r true = true ↔ Rg r := by
  unfold rvReg Rg
  simp only [ic_eq, ic_gt, ic_lt, Bool.cond_decide, cond_true]
  split
  · simp; omega
  · split <;> simp <;> omega
theorem rvReg_f (r : Int) : rvReg r false = true ↔ r = 0 := by
  unfold rvReg
  simp only [ic_eq, ic_gt, ic_lt, Bool.cond_decide, cond_false]
  split <;> simp <;> omega
theorem rvNum_0 (f n : Int) (h : f = 1 ∨ f = 9) : rvNum f n = true ↔ n = 0 := by
  rcases h with rfl | rfl <;> simp [rvNum, ic_eq]
theorem rvNum_12 (f n : Int) (h : f = 2 ∨ f = 3 ∨ f = 5) : rvNum f n = true ↔ -2048 ≤ n ∧ n < 2048 := by
  rcases h with rfl | rfl | rfl <;> (simp [rvNum, ic_eq, btSigned, sgn_12, IntKind.wrap_u32]; omega)
theorem rvNum_4 (n : Int) : rvNum 4 n = true ↔ 0 ≤ n ∧ n < 32 := by
  simp [rvNum, ic_eq, ic_ge, ic_lt]
theorem rvNum_6 (n : Int) : rvNum 6 n = true ↔ (-4096 ≤ n ∧ n < 4096) ∧ n % 2 = 0 := by
  simp [rvNum, ic_eq, btSigned, sgn_13, IntKind.wrap_u32, and1_i32]; omega
theorem rvNum_7 (n : Int) : rvNum 7 n = true ↔ n % 4096 = 0 := by
  simp [rvNum, ic_eq, and4095_i32]
theorem rvNum_8 (n : Int) : rvNum 8 n = true ↔ (-1048576 ≤ n ∧ n < 1048576) ∧ n % 2 = 0 := by
  simp [rvNum, ic_eq, btSigned, sgn_21, IntKind.wrap_u32, and1_i32]; omega

theorem rvIs_iff (op d a b n : Int) : rvIs op d a b n = true ↔ W op d a b n := by
  by_cases h : 1 ≤ op ∧ op ≤ 47
  · obtain ⟨h5, -, -, hf⟩ := row h.1 h.2
    unfold rvIs W
    rw [h5]
    rcases hf with ⟨f, -, -⟩ | ⟨f | f, -, -⟩ | ⟨f, -, -⟩ | ⟨f, -, -⟩ | ⟨f, -, -⟩ | ⟨f, -, -⟩ | ⟨f, -, -⟩ | ⟨f, -, -⟩ <;> rw [f]
    · have e0 : rvParts_0 1 = true := rfl
      have e1 : rvParts_1 1 = true := rfl
      have e2 : rvParts_2 1 = true := rfl
      simp [h, e0, e1, e2, rvReg_t, rvReg_f, rvNum_0]
    · have e0 : rvParts_0 2 = true := rfl
      have e1 : rvParts_1 2 = true := rfl
      have e2 : rvParts_2 2 = false := rfl
      simp [h, e0, e1, e2, rvReg_t, rvReg_f, rvNum_12]
    · have e0 : rvParts_0 3 = true := rfl
      have e1 : rvParts_1 3 = true := rfl
      have e2 : rvParts_2 3 = false := rfl
      simp [h, e0, e1, e2, rvReg_t, rvReg_f, rvNum_12]
    · have e0 : rvParts_0 4 = true := rfl
      have e1 : rvParts_1 4 = true := rfl
      have e2 : rvParts_2 4 = false := rfl
      simp [h, e0, e1, e2, rvReg_t, rvReg_f, rvNum_4]
    · have e0 : rvParts_0 5 = false := rfl
      have e1 : rvParts_1 5 = true := rfl
      have e2 : rvParts_2 5 = true := rfl
      simp [h, e0, e1, e2, rvReg_t, rvReg_f, rvNum_12]
    · have e0 : rvParts_0 6 = false := rfl
      have e1 : rvParts_1 6 = true := rfl
      have e2 : rvParts_2 6 = true := rfl
      simp [h, e0, e1, e2, rvReg_t, rvReg_f, rvNum_6]
    · have e0 : rvParts_0 7 = true := rfl
      have e1 : rvParts_1 7 = false := rfl
      have e2 : rvParts_2 7 = false := rfl
      simp [h, e0, e1, e2, rvReg_t, rvReg_f, rvNum_7]
    · have e0 : rvParts_0 8 = true := rfl
      have e1 : rvParts_1 8 = false := rfl
      have e2 : rvParts_2 8 = false := rfl
      simp [h, e0, e1, e2, rvReg_t, rvReg_f, rvNum_8]
    · have e0 : rvParts_0 9 = false := rfl
      have e1 : rvParts_1 9 = false := rfl
      have e2 : rvParts_2 9 = false := rfl
      simp [h, e0, e1, e2, rvReg_t, rvReg_f, rvNum_0]
  · unfold rvIs W
    rw [(noRow h).1]
    simp [h]

theorem rfIs_iff (op d a b n : Int) : rfIs op d a b n = true ↔ W op d a b n := by
  by_cases h : 1 ≤ op ∧ op ≤ 47
  · obtain ⟨-, -, -, hf⟩ := row h.1 h.2
    unfold rfIs W Rg
    simp only [ic_eq, ic_ge, ic_lt, Bool.cond_decide, rfSigned, sgn_12, sgn_13, sgn_21, IntKind.wrap_u32, and1_i32, and4095]
    rcases hf with ⟨f, g, -⟩ | ⟨f | f, g, -⟩ | ⟨f, g, -⟩ | ⟨f, g, -⟩ | ⟨f, g, -⟩ | ⟨f, g, -⟩ | ⟨f, g, -⟩ | ⟨f, g, -⟩ <;> rw [f, g] <;> simp [h] <;> omega
  · unfold rfIs W
    rw [(noRow h).2]
    simp [h, ic_eq]
end Go.Proofs.Ytndfcpkmchjncaa
