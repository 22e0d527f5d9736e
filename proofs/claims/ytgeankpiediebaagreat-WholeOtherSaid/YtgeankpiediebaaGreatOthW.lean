/-
  WholeOther is true whatever the numbers: its 120 ways joined.
-/
import Derived.Test.YtgeankpiediebaaGreatOth0
import Derived.Test.YtgeankpiediebaaGreatOth1
import Derived.Test.YtgeankpiediebaaGreatOth2
import Derived.Test.YtgeankpiediebaaGreatOth3
import Derived.Test.YtgeankpiediebaaGreatOth4
import Derived.Test.YtgeankpiediebaaGreatOth5
import Derived.Test.YtgeankpiediebaaGreatOth6
import Derived.Test.YtgeankpiediebaaGreatOth7
import Derived.Test.YtgeankpiediebaaGreatOth8
import Derived.Test.YtgeankpiediebaaGreatOth9
import Derived.Test.YtgeankpiediebaaGreatOth10
import Derived.Test.YtgeankpiediebaaGreatOth11
import Derived.Test.YtgeankpiediebaaGreatOth12
import Derived.Test.YtgeankpiediebaaGreatOth13
import Derived.Test.YtgeankpiediebaaGreatOth14
import Derived.Test.YtgeankpiediebaaGreatOth15
import Derived.Test.YtgeankpiediebaaGreatOth16
import Derived.Test.YtgeankpiediebaaGreatOth17
import Derived.Test.YtgeankpiediebaaGreatOth18
import Derived.Test.YtgeankpiediebaaGreatOth19
import Derived.Test.YtgeankpiediebaaGreatOth20
import Derived.Test.YtgeankpiediebaaGreatOth21
import Derived.Test.YtgeankpiediebaaGreatOth22
import Derived.Test.YtgeankpiediebaaGreatOth23
import Derived.Test.YtgeankpiediebaaGreatOth24
import Derived.Test.YtgeankpiediebaaGreatOth25
import Derived.Test.YtgeankpiediebaaGreatOth26
import Derived.Test.YtgeankpiediebaaGreatOth27
import Derived.Laws.Runes
namespace Go.Proofs.YtgeankpiediebaaGreat
open Go.Fx Go.RowKit
theorem othw0_0 : othWay 0 0 := by
  have h := oth0_012345
  simp only [List.cons.injEq] at h
  exact h.1
theorem othw0_1 : othWay 0 1 := by
  have h := oth0_012345
  simp only [List.cons.injEq] at h
  exact h.2.1
theorem othw0_2 : othWay 0 2 := by
  have h := oth0_012345
  simp only [List.cons.injEq] at h
  exact h.2.2.1
theorem othw0_3 : othWay 0 3 := by
  have h := oth0_012345
  simp only [List.cons.injEq] at h
  exact h.2.2.2.1
theorem othw0_4 : othWay 0 4 := by
  have h := oth0_012345
  simp only [List.cons.injEq] at h
  exact h.2.2.2.2.1
theorem othw0_5 : othWay 0 5 := by
  have h := oth0_012345
  simp only [List.cons.injEq] at h
  exact h.2.2.2.2.2.1
theorem othw1_0 : othWay 1 0 := by
  have h := oth1_012345
  simp only [List.cons.injEq] at h
  exact h.1
theorem othw1_1 : othWay 1 1 := by
  have h := oth1_012345
  simp only [List.cons.injEq] at h
  exact h.2.1
theorem othw1_2 : othWay 1 2 := by
  have h := oth1_012345
  simp only [List.cons.injEq] at h
  exact h.2.2.1
theorem othw1_3 : othWay 1 3 := by
  have h := oth1_012345
  simp only [List.cons.injEq] at h
  exact h.2.2.2.1
theorem othw1_4 : othWay 1 4 := by
  have h := oth1_012345
  simp only [List.cons.injEq] at h
  exact h.2.2.2.2.1
theorem othw1_5 : othWay 1 5 := by
  have h := oth1_012345
  simp only [List.cons.injEq] at h
  exact h.2.2.2.2.2.1
theorem othw2_0 : othWay 2 0 := by
  have h := oth2_012345
  simp only [List.cons.injEq] at h
  exact h.1
theorem othw2_1 : othWay 2 1 := by
  have h := oth2_012345
  simp only [List.cons.injEq] at h
  exact h.2.1
theorem othw2_2 : othWay 2 2 := by
  have h := oth2_012345
  simp only [List.cons.injEq] at h
  exact h.2.2.1
theorem othw2_3 : othWay 2 3 := by
  have h := oth2_012345
  simp only [List.cons.injEq] at h
  exact h.2.2.2.1
theorem othw2_4 : othWay 2 4 := by
  have h := oth2_012345
  simp only [List.cons.injEq] at h
  exact h.2.2.2.2.1
theorem othw2_5 : othWay 2 5 := by
  have h := oth2_012345
  simp only [List.cons.injEq] at h
  exact h.2.2.2.2.2.1
theorem othw3_0 : othWay 3 0 := by
  have h := oth3_012
  simp only [List.cons.injEq] at h
  exact h.1
theorem othw3_1 : othWay 3 1 := by
  have h := oth3_012
  simp only [List.cons.injEq] at h
  exact h.2.1
theorem othw3_2 : othWay 3 2 := by
  have h := oth3_012
  simp only [List.cons.injEq] at h
  exact h.2.2.1
theorem othw3_3 : othWay 3 3 := by
  have h := oth3_345
  simp only [List.cons.injEq] at h
  exact h.1
theorem othw3_4 : othWay 3 4 := by
  have h := oth3_345
  simp only [List.cons.injEq] at h
  exact h.2.1
theorem othw3_5 : othWay 3 5 := by
  have h := oth3_345
  simp only [List.cons.injEq] at h
  exact h.2.2.1
theorem othw4_0 : othWay 4 0 := by
  have h := oth4_012
  simp only [List.cons.injEq] at h
  exact h.1
theorem othw4_1 : othWay 4 1 := by
  have h := oth4_012
  simp only [List.cons.injEq] at h
  exact h.2.1
theorem othw4_2 : othWay 4 2 := by
  have h := oth4_012
  simp only [List.cons.injEq] at h
  exact h.2.2.1
theorem othw4_3 : othWay 4 3 := by
  have h := oth4_345
  simp only [List.cons.injEq] at h
  exact h.1
theorem othw4_4 : othWay 4 4 := by
  have h := oth4_345
  simp only [List.cons.injEq] at h
  exact h.2.1
theorem othw4_5 : othWay 4 5 := by
  have h := oth4_345
  simp only [List.cons.injEq] at h
  exact h.2.2.1
theorem othw5_0 : othWay 5 0 := by
  have h := oth5_012
  simp only [List.cons.injEq] at h
  exact h.1
theorem othw5_1 : othWay 5 1 := by
  have h := oth5_012
  simp only [List.cons.injEq] at h
  exact h.2.1
theorem othw5_2 : othWay 5 2 := by
  have h := oth5_012
  simp only [List.cons.injEq] at h
  exact h.2.2.1
theorem othw5_3 : othWay 5 3 := by
  have h := oth5_345
  simp only [List.cons.injEq] at h
  exact h.1
theorem othw5_4 : othWay 5 4 := by
  have h := oth5_345
  simp only [List.cons.injEq] at h
  exact h.2.1
theorem othw5_5 : othWay 5 5 := by
  have h := oth5_345
  simp only [List.cons.injEq] at h
  exact h.2.2.1
theorem othw6_0 : othWay 6 0 := by
  have h := oth6_012
  simp only [List.cons.injEq] at h
  exact h.1
theorem othw6_1 : othWay 6 1 := by
  have h := oth6_012
  simp only [List.cons.injEq] at h
  exact h.2.1
theorem othw6_2 : othWay 6 2 := by
  have h := oth6_012
  simp only [List.cons.injEq] at h
  exact h.2.2.1
theorem othw6_3 : othWay 6 3 := by
  have h := oth6_345
  simp only [List.cons.injEq] at h
  exact h.1
theorem othw6_4 : othWay 6 4 := by
  have h := oth6_345
  simp only [List.cons.injEq] at h
  exact h.2.1
theorem othw6_5 : othWay 6 5 := by
  have h := oth6_345
  simp only [List.cons.injEq] at h
  exact h.2.2.1
theorem othw7_0 : othWay 7 0 := by
  have h := oth7_01
  simp only [List.cons.injEq] at h
  exact h.1
theorem othw7_1 : othWay 7 1 := by
  have h := oth7_01
  simp only [List.cons.injEq] at h
  exact h.2.1
theorem othw7_2 : othWay 7 2 := by
  have h := oth7_23
  simp only [List.cons.injEq] at h
  exact h.1
theorem othw7_3 : othWay 7 3 := by
  have h := oth7_23
  simp only [List.cons.injEq] at h
  exact h.2.1
theorem othw7_4 : othWay 7 4 := by
  have h := oth7_45
  simp only [List.cons.injEq] at h
  exact h.1
theorem othw7_5 : othWay 7 5 := by
  have h := oth7_45
  simp only [List.cons.injEq] at h
  exact h.2.1
theorem othw8_0 : othWay 8 0 := by
  have h := oth8_01
  simp only [List.cons.injEq] at h
  exact h.1
theorem othw8_1 : othWay 8 1 := by
  have h := oth8_01
  simp only [List.cons.injEq] at h
  exact h.2.1
theorem othw8_2 : othWay 8 2 := by
  have h := oth8_23
  simp only [List.cons.injEq] at h
  exact h.1
theorem othw8_3 : othWay 8 3 := by
  have h := oth8_23
  simp only [List.cons.injEq] at h
  exact h.2.1
theorem othw8_4 : othWay 8 4 := by
  have h := oth8_45
  simp only [List.cons.injEq] at h
  exact h.1
theorem othw8_5 : othWay 8 5 := by
  have h := oth8_45
  simp only [List.cons.injEq] at h
  exact h.2.1
theorem othw9_0 : othWay 9 0 := by
  have h := oth9_01
  simp only [List.cons.injEq] at h
  exact h.1
theorem othw9_1 : othWay 9 1 := by
  have h := oth9_01
  simp only [List.cons.injEq] at h
  exact h.2.1
theorem othw9_2 : othWay 9 2 := by
  have h := oth9_23
  simp only [List.cons.injEq] at h
  exact h.1
theorem othw9_3 : othWay 9 3 := by
  have h := oth9_23
  simp only [List.cons.injEq] at h
  exact h.2.1
theorem othw9_4 : othWay 9 4 := by
  have h := oth9_45
  simp only [List.cons.injEq] at h
  exact h.1
theorem othw9_5 : othWay 9 5 := by
  have h := oth9_45
  simp only [List.cons.injEq] at h
  exact h.2.1
theorem othw10_0 : othWay 10 0 := by
  have h := oth10_01
  simp only [List.cons.injEq] at h
  exact h.1
theorem othw10_1 : othWay 10 1 := by
  have h := oth10_01
  simp only [List.cons.injEq] at h
  exact h.2.1
theorem othw10_2 : othWay 10 2 := by
  have h := oth10_23
  simp only [List.cons.injEq] at h
  exact h.1
theorem othw10_3 : othWay 10 3 := by
  have h := oth10_23
  simp only [List.cons.injEq] at h
  exact h.2.1
theorem othw10_4 : othWay 10 4 := by
  have h := oth10_45
  simp only [List.cons.injEq] at h
  exact h.1
theorem othw10_5 : othWay 10 5 := by
  have h := oth10_45
  simp only [List.cons.injEq] at h
  exact h.2.1
theorem othw11_0 : othWay 11 0 := by
  have h := oth11_01
  simp only [List.cons.injEq] at h
  exact h.1
theorem othw11_1 : othWay 11 1 := by
  have h := oth11_01
  simp only [List.cons.injEq] at h
  exact h.2.1
theorem othw11_2 : othWay 11 2 := by
  have h := oth11_23
  simp only [List.cons.injEq] at h
  exact h.1
theorem othw11_3 : othWay 11 3 := by
  have h := oth11_23
  simp only [List.cons.injEq] at h
  exact h.2.1
theorem othw11_4 : othWay 11 4 := by
  have h := oth11_45
  simp only [List.cons.injEq] at h
  exact h.1
theorem othw11_5 : othWay 11 5 := by
  have h := oth11_45
  simp only [List.cons.injEq] at h
  exact h.2.1
theorem othw12_0 : othWay 12 0 := oth12_0
theorem othw12_1 : othWay 12 1 := oth12_1
theorem othw12_2 : othWay 12 2 := oth12_2
theorem othw12_3 : othWay 12 3 := oth12_3
theorem othw12_4 : othWay 12 4 := oth12_4
theorem othw12_5 : othWay 12 5 := oth12_5
theorem othw13_0 : othWay 13 0 := oth13_0
theorem othw13_1 : othWay 13 1 := oth13_1
theorem othw13_2 : othWay 13 2 := oth13_2
theorem othw13_3 : othWay 13 3 := oth13_3
theorem othw13_4 : othWay 13 4 := oth13_4
theorem othw13_5 : othWay 13 5 := oth13_5
theorem othw14_0 : othWay 14 0 := oth14_0
theorem othw14_1 : othWay 14 1 := oth14_1
theorem othw14_2 : othWay 14 2 := oth14_2
theorem othw14_3 : othWay 14 3 := oth14_3
theorem othw14_4 : othWay 14 4 := oth14_4
theorem othw14_5 : othWay 14 5 := oth14_5
theorem othw15_0 : othWay 15 0 := oth15_0
theorem othw15_1 : othWay 15 1 := oth15_1
theorem othw15_2 : othWay 15 2 := oth15_2
theorem othw15_3 : othWay 15 3 := oth15_3
theorem othw15_4 : othWay 15 4 := oth15_4
theorem othw15_5 : othWay 15 5 := oth15_5
theorem othw16_0 : othWay 16 0 := oth16_0
theorem othw16_1 : othWay 16 1 := oth16_1
theorem othw16_2 : othWay 16 2 := oth16_2
theorem othw16_3 : othWay 16 3 := oth16_3
theorem othw16_4 : othWay 16 4 := oth16_4
theorem othw16_5 : othWay 16 5 := oth16_5
theorem othw17_0 : othWay 17 0 := oth17_0
theorem othw17_1 : othWay 17 1 := oth17_1
theorem othw17_2 : othWay 17 2 := oth17_2
theorem othw17_3 : othWay 17 3 := oth17_3
theorem othw17_4 : othWay 17 4 := oth17_4
theorem othw17_5 : othWay 17 5 := oth17_5
theorem othw18_0 : othWay 18 0 := oth18_0
theorem othw18_1 : othWay 18 1 := oth18_1
theorem othw18_2 : othWay 18 2 := oth18_2
theorem othw18_3 : othWay 18 3 := oth18_3
theorem othw18_4 : othWay 18 4 := oth18_4
theorem othw18_5 : othWay 18 5 := oth18_5
theorem othw19_0 : othWay 19 0 := oth19_0
theorem othw19_1 : othWay 19 1 := oth19_1
theorem othw19_2 : othWay 19 2 := oth19_2
theorem othw19_3 : othWay 19 3 := oth19_3
theorem othw19_4 : othWay 19 4 := oth19_4
theorem othw19_5 : othWay 19 5 := oth19_5
def othEnv (a b : Int) : Env := ⟨fun x => [a, b].getD x 0, fun _ => false⟩
theorem othK_i {a b : Int} (h : 0 ≤ b ∧ b ≤ 255) : (othEnv a b).i othK = b.tmod 20 := by
  show (IntKind.u8.wrap b).tmod 20 = b.tmod 20
  rw [IntKind.wrap_u8, Int.emod_eq_of_lt h.1 (by omega)]
theorem othQ_i {a b : Int} (h : 0 ≤ a ∧ a ≤ 255) : (othEnv a b).i othQ = a.tmod 6 := by
  show (IntKind.u8.wrap a).tmod 6 = a.tmod 6
  rw [IntKind.wrap_u8, Int.emod_eq_of_lt h.1 (by omega)]
theorem othMet_ok {a b k q : Int} (ha : 0 ≤ a ∧ a ≤ 255) (hb : 0 ≤ b ∧ b ≤ 255) (hk : b.tmod 20 = k) (hq : a.tmod 6 = q) : (othMet k q).ok (othEnv a b) isT := by
  refine ⟨fun e he => (by cases he), fun x t hx => (by cases hx), fun x n hx => ?_, rfl⟩
  have hx : (x, n) ∈ [(othK, k), (othQ, q), (othQ, q)] := hx
  simp only [List.mem_cons, Prod.mk.injEq, List.not_mem_nil, or_false] at hx
  rcases hx with ⟨rfl, rfl⟩ | ⟨rfl, rfl⟩ | ⟨rfl, rfl⟩
  · rw [othK_i hb, hk]
  · rw [othQ_i ha, hq]
  · rw [othQ_i ha, hq]
theorem wf_u8 {a : Int} (h : (Lit.int .u8 a).wf = true) : 0 ≤ a ∧ a ≤ 255 := by
  have b : IntKind.u8.min ≤ a ∧ a ≤ IntKind.u8.max := by simpa [Lit.wf] using h
  have e1 : IntKind.u8.min = 0 := by decide
  have e2 : IntKind.u8.max = 255 := by decide
  rw [e1, e2] at b
  exact b
theorem oth_bare : ∀ x ∈ othArgs, x.bare := by
  intro x hx
  simp only [othArgs, List.mem_cons, List.not_mem_nil, or_false] at hx
  rcases hx with rfl | rfl <;> exact fun _ _ => trivial
theorem oth_args {a b : Int} (ha : 0 ≤ a ∧ a ≤ 255) (hb : 0 ≤ b ∧ b ≤ 255) : (othArgs.map (V.den (othEnv a b) noloc)).toArray = #[.int .u8 a, .int .u8 b] := by
  have e0 : IntKind.u8.wrap a = a := by rw [IntKind.wrap_u8, Int.emod_eq_of_lt ha.1 (by omega)]
  have e1 : IntKind.u8.wrap b = b := by rw [IntKind.wrap_u8, Int.emod_eq_of_lt hb.1 (by omega)]
  show #[Value.int .u8 (IntKind.u8.wrap a), Value.int .u8 (IntKind.u8.wrap b)] = _
  rw [e0, e1]
theorem WholeOther_walk (a0 : Int) (a1 : Int) (w0 : (Lit.int .u8 a0).wf = true) (w1 : (Lit.int .u8 a1).wf = true) (w : World) :
    Calls Tryz.prog 8 #[.int .u8 a0, .int .u8 a1] w fun e w' => e = .returned (.bool true) ∧ Below w.heap.size w w' := by
  have h0 := wf_u8 w0
  have h1 := wf_u8 w1
  have hq : a0.tmod 6 = 0 ∨ a0.tmod 6 = 1 ∨ a0.tmod 6 = 2 ∨ a0.tmod 6 = 3 ∨ a0.tmod 6 = 4 ∨ a0.tmod 6 = 5 := by
    rw [Int.tmod_eq_emod_of_nonneg h0.1]; omega
  have hk : a1.tmod 20 = 0 ∨ a1.tmod 20 = 1 ∨ a1.tmod 20 = 2 ∨ a1.tmod 20 = 3 ∨ a1.tmod 20 = 4 ∨ a1.tmod 20 = 5 ∨ a1.tmod 20 = 6 ∨ a1.tmod 20 = 7 ∨ a1.tmod 20 = 8 ∨ a1.tmod 20 = 9 ∨ a1.tmod 20 = 10 ∨ a1.tmod 20 = 11 ∨ a1.tmod 20 = 12 ∨ a1.tmod 20 = 13 ∨ a1.tmod 20 = 14 ∨ a1.tmod 20 = 15 ∨ a1.tmod 20 = 16 ∨ a1.tmod 20 = 17 ∨ a1.tmod 20 = 18 ∨ a1.tmod 20 = 19 := by
    rw [Int.tmod_eq_emod_of_nonneg h1.1]; omega
  rw [← oth_args h0 h1]
  rcases hk with hk | hk | hk | hk | hk | hk | hk | hk | hk | hk | hk | hk | hk | hk | hk | hk | hk | hk | hk | hk
  · rcases hq with hq | hq | hq | hq | hq | hq
    · exact law_way (ρ := othEnv a0 a1) othw0_0 (othMet_ok h0 h1 hk hq) oth_bare w
    · exact law_way (ρ := othEnv a0 a1) othw0_1 (othMet_ok h0 h1 hk hq) oth_bare w
    · exact law_way (ρ := othEnv a0 a1) othw0_2 (othMet_ok h0 h1 hk hq) oth_bare w
    · exact law_way (ρ := othEnv a0 a1) othw0_3 (othMet_ok h0 h1 hk hq) oth_bare w
    · exact law_way (ρ := othEnv a0 a1) othw0_4 (othMet_ok h0 h1 hk hq) oth_bare w
    · exact law_way (ρ := othEnv a0 a1) othw0_5 (othMet_ok h0 h1 hk hq) oth_bare w
  · rcases hq with hq | hq | hq | hq | hq | hq
    · exact law_way (ρ := othEnv a0 a1) othw1_0 (othMet_ok h0 h1 hk hq) oth_bare w
    · exact law_way (ρ := othEnv a0 a1) othw1_1 (othMet_ok h0 h1 hk hq) oth_bare w
    · exact law_way (ρ := othEnv a0 a1) othw1_2 (othMet_ok h0 h1 hk hq) oth_bare w
    · exact law_way (ρ := othEnv a0 a1) othw1_3 (othMet_ok h0 h1 hk hq) oth_bare w
    · exact law_way (ρ := othEnv a0 a1) othw1_4 (othMet_ok h0 h1 hk hq) oth_bare w
    · exact law_way (ρ := othEnv a0 a1) othw1_5 (othMet_ok h0 h1 hk hq) oth_bare w
  · rcases hq with hq | hq | hq | hq | hq | hq
    · exact law_way (ρ := othEnv a0 a1) othw2_0 (othMet_ok h0 h1 hk hq) oth_bare w
    · exact law_way (ρ := othEnv a0 a1) othw2_1 (othMet_ok h0 h1 hk hq) oth_bare w
    · exact law_way (ρ := othEnv a0 a1) othw2_2 (othMet_ok h0 h1 hk hq) oth_bare w
    · exact law_way (ρ := othEnv a0 a1) othw2_3 (othMet_ok h0 h1 hk hq) oth_bare w
    · exact law_way (ρ := othEnv a0 a1) othw2_4 (othMet_ok h0 h1 hk hq) oth_bare w
    · exact law_way (ρ := othEnv a0 a1) othw2_5 (othMet_ok h0 h1 hk hq) oth_bare w
  · rcases hq with hq | hq | hq | hq | hq | hq
    · exact law_way (ρ := othEnv a0 a1) othw3_0 (othMet_ok h0 h1 hk hq) oth_bare w
    · exact law_way (ρ := othEnv a0 a1) othw3_1 (othMet_ok h0 h1 hk hq) oth_bare w
    · exact law_way (ρ := othEnv a0 a1) othw3_2 (othMet_ok h0 h1 hk hq) oth_bare w
    · exact law_way (ρ := othEnv a0 a1) othw3_3 (othMet_ok h0 h1 hk hq) oth_bare w
    · exact law_way (ρ := othEnv a0 a1) othw3_4 (othMet_ok h0 h1 hk hq) oth_bare w
    · exact law_way (ρ := othEnv a0 a1) othw3_5 (othMet_ok h0 h1 hk hq) oth_bare w
  · rcases hq with hq | hq | hq | hq | hq | hq
    · exact law_way (ρ := othEnv a0 a1) othw4_0 (othMet_ok h0 h1 hk hq) oth_bare w
    · exact law_way (ρ := othEnv a0 a1) othw4_1 (othMet_ok h0 h1 hk hq) oth_bare w
    · exact law_way (ρ := othEnv a0 a1) othw4_2 (othMet_ok h0 h1 hk hq) oth_bare w
    · exact law_way (ρ := othEnv a0 a1) othw4_3 (othMet_ok h0 h1 hk hq) oth_bare w
    · exact law_way (ρ := othEnv a0 a1) othw4_4 (othMet_ok h0 h1 hk hq) oth_bare w
    · exact law_way (ρ := othEnv a0 a1) othw4_5 (othMet_ok h0 h1 hk hq) oth_bare w
  · rcases hq with hq | hq | hq | hq | hq | hq
    · exact law_way (ρ := othEnv a0 a1) othw5_0 (othMet_ok h0 h1 hk hq) oth_bare w
    · exact law_way (ρ := othEnv a0 a1) othw5_1 (othMet_ok h0 h1 hk hq) oth_bare w
    · exact law_way (ρ := othEnv a0 a1) othw5_2 (othMet_ok h0 h1 hk hq) oth_bare w
    · exact law_way (ρ := othEnv a0 a1) othw5_3 (othMet_ok h0 h1 hk hq) oth_bare w
    · exact law_way (ρ := othEnv a0 a1) othw5_4 (othMet_ok h0 h1 hk hq) oth_bare w
    · exact law_way (ρ := othEnv a0 a1) othw5_5 (othMet_ok h0 h1 hk hq) oth_bare w
  · rcases hq with hq | hq | hq | hq | hq | hq
    · exact law_way (ρ := othEnv a0 a1) othw6_0 (othMet_ok h0 h1 hk hq) oth_bare w
    · exact law_way (ρ := othEnv a0 a1) othw6_1 (othMet_ok h0 h1 hk hq) oth_bare w
    · exact law_way (ρ := othEnv a0 a1) othw6_2 (othMet_ok h0 h1 hk hq) oth_bare w
    · exact law_way (ρ := othEnv a0 a1) othw6_3 (othMet_ok h0 h1 hk hq) oth_bare w
    · exact law_way (ρ := othEnv a0 a1) othw6_4 (othMet_ok h0 h1 hk hq) oth_bare w
    · exact law_way (ρ := othEnv a0 a1) othw6_5 (othMet_ok h0 h1 hk hq) oth_bare w
  · rcases hq with hq | hq | hq | hq | hq | hq
    · exact law_way (ρ := othEnv a0 a1) othw7_0 (othMet_ok h0 h1 hk hq) oth_bare w
    · exact law_way (ρ := othEnv a0 a1) othw7_1 (othMet_ok h0 h1 hk hq) oth_bare w
    · exact law_way (ρ := othEnv a0 a1) othw7_2 (othMet_ok h0 h1 hk hq) oth_bare w
    · exact law_way (ρ := othEnv a0 a1) othw7_3 (othMet_ok h0 h1 hk hq) oth_bare w
    · exact law_way (ρ := othEnv a0 a1) othw7_4 (othMet_ok h0 h1 hk hq) oth_bare w
    · exact law_way (ρ := othEnv a0 a1) othw7_5 (othMet_ok h0 h1 hk hq) oth_bare w
  · rcases hq with hq | hq | hq | hq | hq | hq
    · exact law_way (ρ := othEnv a0 a1) othw8_0 (othMet_ok h0 h1 hk hq) oth_bare w
    · exact law_way (ρ := othEnv a0 a1) othw8_1 (othMet_ok h0 h1 hk hq) oth_bare w
    · exact law_way (ρ := othEnv a0 a1) othw8_2 (othMet_ok h0 h1 hk hq) oth_bare w
    · exact law_way (ρ := othEnv a0 a1) othw8_3 (othMet_ok h0 h1 hk hq) oth_bare w
    · exact law_way (ρ := othEnv a0 a1) othw8_4 (othMet_ok h0 h1 hk hq) oth_bare w
    · exact law_way (ρ := othEnv a0 a1) othw8_5 (othMet_ok h0 h1 hk hq) oth_bare w
  · rcases hq with hq | hq | hq | hq | hq | hq
    · exact law_way (ρ := othEnv a0 a1) othw9_0 (othMet_ok h0 h1 hk hq) oth_bare w
    · exact law_way (ρ := othEnv a0 a1) othw9_1 (othMet_ok h0 h1 hk hq) oth_bare w
    · exact law_way (ρ := othEnv a0 a1) othw9_2 (othMet_ok h0 h1 hk hq) oth_bare w
    · exact law_way (ρ := othEnv a0 a1) othw9_3 (othMet_ok h0 h1 hk hq) oth_bare w
    · exact law_way (ρ := othEnv a0 a1) othw9_4 (othMet_ok h0 h1 hk hq) oth_bare w
    · exact law_way (ρ := othEnv a0 a1) othw9_5 (othMet_ok h0 h1 hk hq) oth_bare w
  · rcases hq with hq | hq | hq | hq | hq | hq
    · exact law_way (ρ := othEnv a0 a1) othw10_0 (othMet_ok h0 h1 hk hq) oth_bare w
    · exact law_way (ρ := othEnv a0 a1) othw10_1 (othMet_ok h0 h1 hk hq) oth_bare w
    · exact law_way (ρ := othEnv a0 a1) othw10_2 (othMet_ok h0 h1 hk hq) oth_bare w
    · exact law_way (ρ := othEnv a0 a1) othw10_3 (othMet_ok h0 h1 hk hq) oth_bare w
    · exact law_way (ρ := othEnv a0 a1) othw10_4 (othMet_ok h0 h1 hk hq) oth_bare w
    · exact law_way (ρ := othEnv a0 a1) othw10_5 (othMet_ok h0 h1 hk hq) oth_bare w
  · rcases hq with hq | hq | hq | hq | hq | hq
    · exact law_way (ρ := othEnv a0 a1) othw11_0 (othMet_ok h0 h1 hk hq) oth_bare w
    · exact law_way (ρ := othEnv a0 a1) othw11_1 (othMet_ok h0 h1 hk hq) oth_bare w
    · exact law_way (ρ := othEnv a0 a1) othw11_2 (othMet_ok h0 h1 hk hq) oth_bare w
    · exact law_way (ρ := othEnv a0 a1) othw11_3 (othMet_ok h0 h1 hk hq) oth_bare w
    · exact law_way (ρ := othEnv a0 a1) othw11_4 (othMet_ok h0 h1 hk hq) oth_bare w
    · exact law_way (ρ := othEnv a0 a1) othw11_5 (othMet_ok h0 h1 hk hq) oth_bare w
  · rcases hq with hq | hq | hq | hq | hq | hq
    · exact law_way (ρ := othEnv a0 a1) othw12_0 (othMet_ok h0 h1 hk hq) oth_bare w
    · exact law_way (ρ := othEnv a0 a1) othw12_1 (othMet_ok h0 h1 hk hq) oth_bare w
    · exact law_way (ρ := othEnv a0 a1) othw12_2 (othMet_ok h0 h1 hk hq) oth_bare w
    · exact law_way (ρ := othEnv a0 a1) othw12_3 (othMet_ok h0 h1 hk hq) oth_bare w
    · exact law_way (ρ := othEnv a0 a1) othw12_4 (othMet_ok h0 h1 hk hq) oth_bare w
    · exact law_way (ρ := othEnv a0 a1) othw12_5 (othMet_ok h0 h1 hk hq) oth_bare w
  · rcases hq with hq | hq | hq | hq | hq | hq
    · exact law_way (ρ := othEnv a0 a1) othw13_0 (othMet_ok h0 h1 hk hq) oth_bare w
    · exact law_way (ρ := othEnv a0 a1) othw13_1 (othMet_ok h0 h1 hk hq) oth_bare w
    · exact law_way (ρ := othEnv a0 a1) othw13_2 (othMet_ok h0 h1 hk hq) oth_bare w
    · exact law_way (ρ := othEnv a0 a1) othw13_3 (othMet_ok h0 h1 hk hq) oth_bare w
    · exact law_way (ρ := othEnv a0 a1) othw13_4 (othMet_ok h0 h1 hk hq) oth_bare w
    · exact law_way (ρ := othEnv a0 a1) othw13_5 (othMet_ok h0 h1 hk hq) oth_bare w
  · rcases hq with hq | hq | hq | hq | hq | hq
    · exact law_way (ρ := othEnv a0 a1) othw14_0 (othMet_ok h0 h1 hk hq) oth_bare w
    · exact law_way (ρ := othEnv a0 a1) othw14_1 (othMet_ok h0 h1 hk hq) oth_bare w
    · exact law_way (ρ := othEnv a0 a1) othw14_2 (othMet_ok h0 h1 hk hq) oth_bare w
    · exact law_way (ρ := othEnv a0 a1) othw14_3 (othMet_ok h0 h1 hk hq) oth_bare w
    · exact law_way (ρ := othEnv a0 a1) othw14_4 (othMet_ok h0 h1 hk hq) oth_bare w
    · exact law_way (ρ := othEnv a0 a1) othw14_5 (othMet_ok h0 h1 hk hq) oth_bare w
  · rcases hq with hq | hq | hq | hq | hq | hq
    · exact law_way (ρ := othEnv a0 a1) othw15_0 (othMet_ok h0 h1 hk hq) oth_bare w
    · exact law_way (ρ := othEnv a0 a1) othw15_1 (othMet_ok h0 h1 hk hq) oth_bare w
    · exact law_way (ρ := othEnv a0 a1) othw15_2 (othMet_ok h0 h1 hk hq) oth_bare w
    · exact law_way (ρ := othEnv a0 a1) othw15_3 (othMet_ok h0 h1 hk hq) oth_bare w
    · exact law_way (ρ := othEnv a0 a1) othw15_4 (othMet_ok h0 h1 hk hq) oth_bare w
    · exact law_way (ρ := othEnv a0 a1) othw15_5 (othMet_ok h0 h1 hk hq) oth_bare w
  · rcases hq with hq | hq | hq | hq | hq | hq
    · exact law_way (ρ := othEnv a0 a1) othw16_0 (othMet_ok h0 h1 hk hq) oth_bare w
    · exact law_way (ρ := othEnv a0 a1) othw16_1 (othMet_ok h0 h1 hk hq) oth_bare w
    · exact law_way (ρ := othEnv a0 a1) othw16_2 (othMet_ok h0 h1 hk hq) oth_bare w
    · exact law_way (ρ := othEnv a0 a1) othw16_3 (othMet_ok h0 h1 hk hq) oth_bare w
    · exact law_way (ρ := othEnv a0 a1) othw16_4 (othMet_ok h0 h1 hk hq) oth_bare w
    · exact law_way (ρ := othEnv a0 a1) othw16_5 (othMet_ok h0 h1 hk hq) oth_bare w
  · rcases hq with hq | hq | hq | hq | hq | hq
    · exact law_way (ρ := othEnv a0 a1) othw17_0 (othMet_ok h0 h1 hk hq) oth_bare w
    · exact law_way (ρ := othEnv a0 a1) othw17_1 (othMet_ok h0 h1 hk hq) oth_bare w
    · exact law_way (ρ := othEnv a0 a1) othw17_2 (othMet_ok h0 h1 hk hq) oth_bare w
    · exact law_way (ρ := othEnv a0 a1) othw17_3 (othMet_ok h0 h1 hk hq) oth_bare w
    · exact law_way (ρ := othEnv a0 a1) othw17_4 (othMet_ok h0 h1 hk hq) oth_bare w
    · exact law_way (ρ := othEnv a0 a1) othw17_5 (othMet_ok h0 h1 hk hq) oth_bare w
  · rcases hq with hq | hq | hq | hq | hq | hq
    · exact law_way (ρ := othEnv a0 a1) othw18_0 (othMet_ok h0 h1 hk hq) oth_bare w
    · exact law_way (ρ := othEnv a0 a1) othw18_1 (othMet_ok h0 h1 hk hq) oth_bare w
    · exact law_way (ρ := othEnv a0 a1) othw18_2 (othMet_ok h0 h1 hk hq) oth_bare w
    · exact law_way (ρ := othEnv a0 a1) othw18_3 (othMet_ok h0 h1 hk hq) oth_bare w
    · exact law_way (ρ := othEnv a0 a1) othw18_4 (othMet_ok h0 h1 hk hq) oth_bare w
    · exact law_way (ρ := othEnv a0 a1) othw18_5 (othMet_ok h0 h1 hk hq) oth_bare w
  · rcases hq with hq | hq | hq | hq | hq | hq
    · exact law_way (ρ := othEnv a0 a1) othw19_0 (othMet_ok h0 h1 hk hq) oth_bare w
    · exact law_way (ρ := othEnv a0 a1) othw19_1 (othMet_ok h0 h1 hk hq) oth_bare w
    · exact law_way (ρ := othEnv a0 a1) othw19_2 (othMet_ok h0 h1 hk hq) oth_bare w
    · exact law_way (ρ := othEnv a0 a1) othw19_3 (othMet_ok h0 h1 hk hq) oth_bare w
    · exact law_way (ρ := othEnv a0 a1) othw19_4 (othMet_ok h0 h1 hk hq) oth_bare w
    · exact law_way (ρ := othEnv a0 a1) othw19_5 (othMet_ok h0 h1 hk hq) oth_bare w
end Go.Proofs.YtgeankpiediebaaGreat
