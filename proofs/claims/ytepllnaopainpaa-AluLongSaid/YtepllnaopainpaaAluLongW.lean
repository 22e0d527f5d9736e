/- The walk of the law AluLong. -/
import Derived.Test.YtepllnaopainpaaAluKnown
import Derived.OpenShut
import Derived.Test.YtepllnaopainpaaRows6
namespace Go.Proofs.Ytepllnaopainpaa
open Go.ChangeShapes Go.WideShapes Go.ChangeAt Go.RowKit
set_option linter.unusedVariables false

theorem c2i_dec (p : Prop) [Decidable p] : c2i (decide p) = if p then 1 else 0 := by unfold c2i; by_cases h : p <;> simp [h]
theorem long_add (a b : Int) (h0 : 0 ≤ a) (h1 : a ≤ 18446744073709551615) (k0 : 0 ≤ b) (k1 : b ≤ 18446744073709551615) :
    bits .or .u64 (addR (a / 4294967296) (b / 4294967296) (addC (a % 4294967296) (b % 4294967296) false) * 4294967296) (addR (a % 4294967296) (b % 4294967296) false) = IntKind.u64.wrap (a + b) := by
  have r1 := addR_bd (a % 4294967296) (b % 4294967296) false
  have r2 := addR_bd (a / 4294967296) (b / 4294967296) (addC (a % 4294967296) (b % 4294967296) false)
  rw [hi_lo _ _ r1.1 r1.2 r2.1 r2.2, IntKind.wrap_u64]
  unfold nOf addR addC
  rw [c2i_dec]
  have e : c2i false = 0 := rfl
  rw [e]
  split <;> omega
theorem long_sub (a b : Int) (h0 : 0 ≤ a) (h1 : a ≤ 18446744073709551615) (k0 : 0 ≤ b) (k1 : b ≤ 18446744073709551615) :
    bits .or .u64 (subR (a / 4294967296) (b / 4294967296) (subC (a % 4294967296) (b % 4294967296) false) * 4294967296) (subR (a % 4294967296) (b % 4294967296) false) = IntKind.u64.wrap (a - b) := by
  have r1 := subR_bd (a % 4294967296) (b % 4294967296) false
  have r2 := subR_bd (a / 4294967296) (b / 4294967296) (subC (a % 4294967296) (b % 4294967296) false)
  rw [hi_lo _ _ r1.1 r1.2 r2.1 r2.2, IntKind.wrap_u64]
  unfold nOf subR subC
  rw [c2i_dec]
  have e : c2i false = 0 := rfl
  rw [e]
  split <;> omega
theorem long_less (a b : Int) (h0 : 0 ≤ a) (h1 : a ≤ 18446744073709551615) (k0 : 0 ≤ b) (k1 : b ≤ 18446744073709551615) :
    subC (a / 4294967296) (b / 4294967296) (subC (a % 4294967296) (b % 4294967296) false) = decide (a < b) := by
  unfold subC
  rw [c2i_dec, decide_eq_decide]
  have e : c2i false = 0 := rfl
  rw [e]
  split <;> omega

set_option maxHeartbeats 1000000 in
theorem AluLong_walk (a0 a1 : Int) (fc fp fa fz fs fo : Bool) (w0 : (Lit.int .u64 a0).wf = true) (w1 : (Lit.int .u64 a1).wf = true) (w : World) :
    Calls Try.prog 5 #[.int .u64 a0, .int .u64 a1, .agg #[.bool fc, .bool fp, .bool fa, .bool fz, .bool fs, .bool fo]] w fun e w' => e = .returned (.bool true) ∧ Below w.heap.size w w' := by
  have b0 := bounds_u64 w0
  have b1 := bounds_u64 w1
  clear w0 w1
  go_enter Try.func5, Try.ntmps5
  go_wp2_with fail
  refine (known8 _).mono ?_; rintro e w1 ⟨rfl, hb1⟩
  have B1 : Below w.heap.size w w1 := below_then (by repeat (first | exact below_refl _ | apply below_alloc | apply below_drew)) hb1
  have R_f := row_keep hb1 (by repeat (first | exact row_new _ _ _ | apply row_alloc | apply row_drew))
  clear hb1
  obtain ⟨l_f, c_f0, c_f1, c_f2, c_f3, c_f4, c_f5⟩ := row6 R_f
  go_wp2_with fail
  refine (do_OAdd _ _ _ _ _ _ _ _ (by omega) (by omega) (by omega) (by omega) _).mono ?_; rintro e w2 ⟨rfl, hb2⟩
  have B2 : Below w.heap.size w w2 := below_then (by repeat (first | exact B1 | apply below_alloc | apply below_drew)) hb2
  clear l_f c_f0 c_f1 c_f2 c_f3 c_f4 c_f5
  replace R_f := row_keep hb2 (by repeat (first | exact R_f | apply row_alloc | apply row_drew))
  clear hb2 B1
  obtain ⟨l_f, c_f0, c_f1, c_f2, c_f3, c_f4, c_f5⟩ := row6 R_f
  go_wp2_with fail
  refine (do_OAdc _ _ _ _ _ _ _ _ (by omega) (by omega) (by omega) (by omega) _).mono ?_; rintro e w3 ⟨rfl, hb3⟩
  have B3 : Below w.heap.size w w3 := below_then (by repeat (first | exact B2 | apply below_alloc | apply below_drew)) hb3
  clear l_f c_f0 c_f1 c_f2 c_f3 c_f4 c_f5
  replace R_f := row_keep hb3 (by repeat (first | exact R_f | apply row_alloc | apply row_drew))
  have R_g := row_keep hb3 (by repeat (first | exact row_new _ _ _ | apply row_alloc | apply row_drew))
  clear hb3 B2
  obtain ⟨l_f, c_f0, c_f1, c_f2, c_f3, c_f4, c_f5⟩ := row6 R_f
  obtain ⟨l_g, c_g0, c_g1, c_g2, c_g3, c_g4, c_g5⟩ := row6 R_g
  go_wp2_with fail
  refine (do_OSub _ _ _ _ _ _ _ _ (by omega) (by omega) (by omega) (by omega) _).mono ?_; rintro e w4 ⟨rfl, hb4⟩
  have B4 : Below w.heap.size w w4 := below_then (by repeat (first | exact B3 | apply below_alloc | apply below_drew)) hb4
  clear l_f c_f0 c_f1 c_f2 c_f3 c_f4 c_f5
  replace R_f := row_keep hb4 (by repeat (first | exact R_f | apply row_alloc | apply row_drew))
  clear l_g c_g0 c_g1 c_g2 c_g3 c_g4 c_g5
  replace R_g := row_keep hb4 (by repeat (first | exact R_g | apply row_alloc | apply row_drew))
  clear hb4 B3
  obtain ⟨l_f, c_f0, c_f1, c_f2, c_f3, c_f4, c_f5⟩ := row6 R_f
  obtain ⟨l_g, c_g0, c_g1, c_g2, c_g3, c_g4, c_g5⟩ := row6 R_g
  go_wp2_with fail
  refine (do_OSbb _ _ _ _ _ _ _ _ (by omega) (by omega) (by omega) (by omega) _).mono ?_; rintro e w5 ⟨rfl, hb5⟩
  have B5 : Below w.heap.size w w5 := below_then (by repeat (first | exact B4 | apply below_alloc | apply below_drew)) hb5
  clear l_f c_f0 c_f1 c_f2 c_f3 c_f4 c_f5
  replace R_f := row_keep hb5 (by repeat (first | exact R_f | apply row_alloc | apply row_drew))
  clear l_g c_g0 c_g1 c_g2 c_g3 c_g4 c_g5
  replace R_g := row_keep hb5 (by repeat (first | exact R_g | apply row_alloc | apply row_drew))
  have R_h := row_keep hb5 (by repeat (first | exact row_new _ _ _ | apply row_alloc | apply row_drew))
  clear hb5 B4
  obtain ⟨l_f, c_f0, c_f1, c_f2, c_f3, c_f4, c_f5⟩ := row6 R_f
  obtain ⟨l_g, c_g0, c_g1, c_g2, c_g3, c_g4, c_g5⟩ := row6 R_g
  obtain ⟨l_h, c_h0, c_h1, c_h2, c_h3, c_h4, c_h5⟩ := row6 R_h
  have r1 := addR_bd (a0 % 4294967296) (a1 % 4294967296) false
  have r2 := addR_bd (a0 / 4294967296) (a1 / 4294967296) (addC (a0 % 4294967296) (a1 % 4294967296) false)
  have r3 := subR_bd (a0 % 4294967296) (a1 % 4294967296) false
  have r4 := subR_bd (a0 / 4294967296) (a1 / 4294967296) (subC (a0 % 4294967296) (a1 % 4294967296) false)
  have e1 := long_add a0 a1 b0.1 b0.2 b1.1 b1.2
  have e2 := long_sub a0 a1 b0.1 b0.2 b1.1 b1.2
  have e3 := long_less a0 a1 b0.1 b0.2 b1.1 b1.2
  go_wp2_with fail
  go_ret
  exact ⟨rfl, by repeat (first | exact B5 | exact below_refl _ | apply below_alloc | apply below_drew)⟩

end Go.Proofs.Ytepllnaopainpaa
