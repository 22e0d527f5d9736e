/-
  WholeJumps is true whatever the number and the cache: its four ways joined.
-/
import Derived.Test.YtgeankpiediebaaGreatJmpX
import Derived.Laws.Runes
namespace Go.Proofs.YtgeankpiediebaaGreat
open Go.Fx Go.RowKit
def jmpEnv (a b : Int) : Env := ⟨fun x => [a, b, a.tmod 4, b.tmod 5000, b.tmod 5000, 1600 + b.tmod 5000, 0, 0, 1600 + b.tmod 5000, 0, 1586 + b.tmod 5000].getD x 0, fun _ => false⟩
theorem jmpMet_ok {a b m : Int} (h0 : 0 ≤ b) (hm : a.tmod 4 = m) : (jmpMet m).ok (jmpEnv a b) isT := by
  have v0 : 0 ≤ b.tmod 5000 := by rw [Int.tmod_eq_emod_of_nonneg h0]; omega
  have v1 : b.tmod 5000 < 5000 := by rw [Int.tmod_eq_emod_of_nonneg h0]; omega
  refine ⟨fun e he => ?_, fun x t hx => ?_, fun x n hx => ?_, rfl⟩
  · have he : e ∈ jmpEvs := he
    simp only [jmpEvs, List.mem_cons, List.not_mem_nil, or_false] at he
    rcases he with rfl | rfl | rfl | rfl | rfl | rfl | rfl | rfl | rfl | rfl
    · exact ⟨rfl, fun _ => (show (4 : Int) ≠ 0 by decide), fun h => by rcases h with h | h <;> cases h⟩
    · exact ⟨rfl, fun _ => (show (5000 : Int) ≠ 0 by decide), fun h => by rcases h with h | h <;> cases h⟩
    · exact ⟨(wrap_small _ v0 (by omega)).symm, trivial⟩
    · exact ⟨(show 1600 + b.tmod 5000 = IntKind.i64.wrap (1600 + b.tmod 5000) from (wrap_small _ (by omega) (by omega)).symm), fun h => (by rcases h with h | h <;> cases h), fun h => by rcases h with h | h <;> cases h⟩
    · show false = decide (1600 + b.tmod 5000 < 1600)
      simp; omega
    · show false = decide (1600 + b.tmod 5000 > 7000)
      simp; omega
    · refine ⟨?_, fun h => (by rcases h with h | h <;> cases h), fun h => by rcases h with h | h <;> cases h⟩
      show 1600 + b.tmod 5000 = IntKind.i64.wrap (1600 + b.tmod 5000 - 0)
      rw [wrap_small _ (by omega) (by omega)]; omega
    · show false = decide ((14 : Int) > 1600 + b.tmod 5000)
      simp; omega
    · refine ⟨?_, fun h => (by rcases h with h | h <;> cases h), fun h => by rcases h with h | h <;> cases h⟩
      show 1586 + b.tmod 5000 = IntKind.i64.wrap (1600 + b.tmod 5000 - 14)
      rw [wrap_small _ (by omega) (by omega)]; omega
    · show false = decide ((8 : Int) > 1586 + b.tmod 5000)
      simp; omega
  · have hx : (x, t) ∈ [(6, false), (7, false), (9, false), (11, false)] := hx
    simp only [List.mem_cons, Prod.mk.injEq, List.not_mem_nil, or_false] at hx
    rcases hx with h | h | h | h <;> exact h.2.symm
  · have hx : (x, n) ∈ [(2, m)] := hx
    simp only [List.mem_cons, Prod.mk.injEq, List.not_mem_nil, or_false] at hx
    obtain ⟨rfl, rfl⟩ := hx
    exact hm
theorem wf_u8 {a : Int} (h : (Lit.int .u8 a).wf = true) : 0 ≤ a ∧ a ≤ 255 := by
  have b : IntKind.u8.min ≤ a ∧ a ≤ IntKind.u8.max := by simpa [Lit.wf] using h
  have e1 : IntKind.u8.min = 0 := by decide
  have e2 : IntKind.u8.max = 255 := by decide
  rw [e1, e2] at b
  exact b
theorem wf_u16 {a : Int} (h : (Lit.int .u16 a).wf = true) : 0 ≤ a ∧ a ≤ 65535 := by
  have b : IntKind.u16.min ≤ a ∧ a ≤ IntKind.u16.max := by simpa [Lit.wf] using h
  have e1 : IntKind.u16.min = 0 := by decide
  have e2 : IntKind.u16.max = 65535 := by decide
  rw [e1, e2] at b
  exact b
theorem jmp_bare : ∀ x ∈ ([.c (.ivar .u8 0), .c (.ivar .u16 1)] : List V), x.bare := by
  intro x hx
  simp only [List.mem_cons, List.not_mem_nil, or_false] at hx
  rcases hx with rfl | rfl <;> exact fun _ _ => trivial
theorem WholeJumps_walk (a0 : Int) (a1 : Int) (w0 : (Lit.int .u8 a0).wf = true) (w1 : (Lit.int .u16 a1).wf = true) (w : World) :
    Calls Tryz.prog 4 #[.int .u8 a0, .int .u16 a1] w fun e w' => e = .returned (.bool true) ∧ Below w.heap.size w w' := by
  have h0 := wf_u8 w0
  have h1 := wf_u16 w1
  have hm : a0.tmod 4 = 0 ∨ a0.tmod 4 = 1 ∨ a0.tmod 4 = 2 ∨ a0.tmod 4 = 3 := by
    rw [Int.tmod_eq_emod_of_nonneg h0.1]; omega
  rcases hm with hm | hm | hm | hm
  · exact law_way (ρ := jmpEnv a0 a1) jmp0 (jmpMet_ok h1.1 hm) jmp_bare w
  · exact law_way (ρ := jmpEnv a0 a1) jmp1 (jmpMet_ok h1.1 hm) jmp_bare w
  · exact law_way (ρ := jmpEnv a0 a1) jmp2 (jmpMet_ok h1.1 hm) jmp_bare w
  · exact law_way (ρ := jmpEnv a0 a1) jmp3 (jmpMet_ok h1.1 hm) jmp_bare w
end Go.Proofs.YtgeankpiediebaaGreat
