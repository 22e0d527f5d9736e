/-
  Plain laws of the words' texts. No program in sight.
-/
import Derived.Test.YtahhfjmgdalfpaaDoorRvP
import Derived.Test.YtahhfjmgdalfpaaDoorItoaB
namespace Go.Proofs.YtahhfjmgdalfpaaDoor
open Go.Sx
set_option linter.unusedVariables false
set_option linter.unusedSimpArgs false
set_option maxRecDepth 100000

theorem scItoa_size (n : Int) : (scItoa n).size ≤ 21 := itoaB_size n
theorem rfDigits_size (n : Int) : (rfDigits n).size ≤ 21 := itoaB_size n
theorem rvOf_0_size (op : Int) : (rvOf_0 op).size ≤ 6 := by
  by_cases h : 1 ≤ op ∧ op ≤ 47
  · have := fin47 (fun op => decide ((rvOf_0 op).size ≤ 6)) (by kernel_rfl) h.1 h.2
    exact of_decide_eq_true this
  · unfold rvOf_0
    simp only [ic_lt, ic_gt]
    by_cases h1 : op < 1
    · simp only [h1, decide_true, cond_true]; decide
    · have h2 : 47 < op := by omega
      simp only [h1, h2, decide_true, decide_false, cond_true, cond_false]; decide
theorem ba_size (l : List UInt8) : (⟨l.toArray⟩ : ByteArray).size = l.length := by
  show l.toArray.size = l.length
  simp
theorem imp_any {p q : Prop} (h : q) : p → q := fun _ => h
def andL : List Prop → Prop
  | [] => True
  | [p] => p
  | p :: l => p ∧ andL l
theorem allL_of {l : List Prop} (h : allL l) : allL l := h
theorem itoa_neg4 : Lib.itoa (-4) = [45, 52] := by
  unfold Lib.itoa
  rw [if_pos (by decide)]
  have e : (-4 : Int).natAbs = 4 := by decide
  rw [e, Lib.decDigits_one (by decide)]; rfl
theorem itoa_one : Lib.itoa 1 = [49] := by
  unfold Lib.itoa
  rw [if_neg (by decide)]
  have e : (1 : Int).toNat = 1 := by decide
  rw [e, Lib.decDigits_one (by decide)]; rfl
theorem itoa_two : Lib.itoa 2 = [50] := by
  unfold Lib.itoa
  rw [if_neg (by decide)]
  have e : (2 : Int).toNat = 2 := by decide
  rw [e, Lib.decDigits_one (by decide)]; rfl
theorem scItoa_m4 : scItoa (-4) = ⟨#[45, 52]⟩ := by
  unfold scItoa
  rw [itoaB_of (by decide) (by decide), itoa_neg4]
theorem scItoa_1 : scItoa 1 = ⟨#[49]⟩ := by
  unfold scItoa
  rw [itoaB_of (by decide) (by decide), itoa_one]
theorem scItoa_2 : scItoa 2 = ⟨#[50]⟩ := by
  unfold scItoa
  rw [itoaB_of (by decide) (by decide), itoa_two]
end Go.Proofs.YtahhfjmgdalfpaaDoor
