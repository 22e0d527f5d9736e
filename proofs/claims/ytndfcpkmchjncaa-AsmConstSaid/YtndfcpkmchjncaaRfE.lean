/-
  Plain laws of the words of the host machine: the document's reader reads the same. No program in sight.
-/
import Derived.Test.YtndfcpkmchjncaaRfD
namespace Go.Proofs.Ytndfcpkmchjncaa
open Go.Sx
set_option linter.unusedVariables false
set_option linter.unusedSimpArgs false
set_option maxRecDepth 100000
theorem rfDec_0_eq (x : Int) : rfDec_0 x = tryA x (fun op => op) 0 ops := by kernel_rfl
theorem rfDec_1_eq (x : Int) : rfDec_1 x = tryA x (fun op => tD op x) 0 ops := by kernel_rfl
theorem rfDec_2_eq (x : Int) : rfDec_2 x = tryA x (fun op => tA op x) 0 ops := by kernel_rfl
theorem rfDec_3_eq (x : Int) : rfDec_3 x = tryA x (fun op => tB op x) 0 ops := by kernel_rfl
theorem rfDec_4_eq (x : Int) : rfDec_4 x = tryA x (fun op => tN op x) 0 ops := by kernel_rfl
theorem rfDec_5_eq (x : Int) : rfDec_5 x = tryA x (fun _ => true) false ops := by kernel_rfl

/-- both read the same -/
theorem dec_same {x : Int} (h0 : 0 ≤ x) (h1 : x < 4294967296) :
    rfDec_5 x = rvDec_5 x ∧ rfDec_0 x = rvDec_0 x ∧ rfDec_1 x = rvDec_1 x ∧ rfDec_2 x = rvDec_2 x ∧ rfDec_3 x = rvDec_3 x ∧ rfDec_4 x = rvDec_4 x := by
  rw [rfDec_0_eq, rfDec_1_eq, rfDec_2_eq, rfDec_3_eq, rfDec_4_eq, rfDec_5_eq]
  rcases tryA_spec x ops with ⟨op, hm, ht, hg⟩ | ⟨hn, hz⟩
  · have ho := ops_all hm
    have w := t_W ho.1 ho.2 h0 h1
    have e : encS op (tD op x) (tA op x) (tB op x) (tN op x) = x := by
      rw [← rfEnc_sum w]
      unfold tryC at ht
      rw [ic_eq] at ht
      exact of_decide_eq_true ht
    have b : -2147483648 ≤ tN op x ∧ tN op x < 2147483648 := by rw [(t_form ho.1 ho.2 h0 h1).2.2.2]; exact fN_bd _ _
    obtain ⟨r5, r0, r1, r2, r3, r4⟩ := rvDec_enc w b e
    rw [hg, hg, hg, hg, hg, hg, r0, r1, r2, r3, r4, r5]
    exact ⟨rfl, rfl, rfl, rfl, rfl, rfl⟩
  · rw [hz, hz, hz, hz, hz, hz]
    cases h5 : rvDec_5 x
    · obtain ⟨r0, r1, r2, r3, r4⟩ := rvDec_none h5
      rw [r0, r1, r2, r3, r4]
      exact ⟨rfl, rfl, rfl, rfl, rfl, rfl⟩
    · exfalso
      obtain ⟨w, b, e⟩ := rvDec_was h0 h1 h5
      have k := back w b e
      have ho := w.1
      have := hn _ (ops_mem ho.1 ho.2)
      obtain ⟨e1, e2, e3, e4⟩ := t_form ho.1 ho.2 h0 h1
      unfold tryC at this
      rw [e1, e2, e3, e4, k.kd, k.ka, k.kb, k.kn, rfEnc_sum w, e, ic_eq] at this
      simp at this
theorem u32_bd {x : Int} (h : IntKind.has .u32 x) : 0 ≤ x ∧ x < 4294967296 := by
  obtain ⟨a, b⟩ := h
  have e1 : IntKind.u32.min = 0 := by decide
  have e2 : IntKind.u32.max = 4294967295 := by decide
  rw [e1] at a; rw [e2] at b
  omega
theorem tried {x : Int} (h : IntKind.has .u32 x) (op : Int) (h1 : 1 ≤ op) (h2 : op ≤ 47) : rfEnc_1 op (tD op x) (tA op x) (tB op x) (tN op x) = true :=
  rfEnc_ok' (t_W h1 h2 (u32_bd h).1 (u32_bd h).2)
end Go.Proofs.Ytndfcpkmchjncaa
