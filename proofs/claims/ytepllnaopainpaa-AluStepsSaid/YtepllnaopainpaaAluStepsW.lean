/- The walk of the law AluSteps. -/
import Derived.Test.YtepllnaopainpaaAluKnown
import Derived.OpenShut
import Derived.Test.YtepllnaopainpaaRows6
namespace Go.Proofs.Ytepllnaopainpaa
open Go.ChangeShapes Go.WideShapes Go.ChangeAt Go.RowKit
set_option linter.unusedVariables false

theorem steps_over (a : Int) (h0 : 0 ≤ a) (h1 : a ≤ 4294967295) : addO a 1 false = (a == 2147483647) := by
  unfold addO wideB c2i wrap32
  rw [Bool.eq_iff_iff, bne_iff_ne, beq_iff_eq]
  simp
  omega
theorem steps_neg (a : Int) (h0 : 0 ≤ a) (h1 : a ≤ 4294967295) : subO 0 a false = (a == 2147483648) := by
  unfold subO wideB c2i wrap32
  rw [Bool.eq_iff_iff, bne_iff_ne, beq_iff_eq]
  simp
  omega

set_option maxHeartbeats 1000000 in
theorem AluSteps_walk (a0 : Int) (fc fp fa fz fs fo : Bool) (w0 : (Lit.int .u32 a0).wf = true) (w : World) :
    Calls Try.prog 9 #[.int .u32 a0, .agg #[.bool fc, .bool fp, .bool fa, .bool fz, .bool fs, .bool fo]] w fun e w' => e = .returned (.bool true) ∧ Below w.heap.size w w' := by
  have b0 := bounds_u32 w0
  clear w0
  have r1 := addR_bd a0 1 false
  have r2 := subR_bd 0 a0 false
  go_enter Try.func9, Try.ntmps9
  go_wp2_with fail
  refine (known8 _).mono ?_; rintro e w1 ⟨rfl, hb1⟩
  have B1 : Below w.heap.size w w1 := below_then (by repeat (first | exact below_refl _ | apply below_alloc | apply below_drew)) hb1
  have R_f := row_keep hb1 (by repeat (first | exact row_new _ _ _ | apply row_alloc | apply row_drew))
  clear hb1
  obtain ⟨l_f, c_f0, c_f1, c_f2, c_f3, c_f4, c_f5⟩ := row6 R_f
  go_wp2_with fail
  refine (do_OInc _ _ _ _ _ _ _ _ (by omega) (by omega) (by omega) (by omega) _).mono ?_; rintro e w2 ⟨rfl, hb2⟩
  have B2 : Below w.heap.size w w2 := below_then (by repeat (first | exact B1 | apply below_alloc | apply below_drew)) hb2
  clear l_f c_f0 c_f1 c_f2 c_f3 c_f4 c_f5
  replace R_f := row_keep hb2 (by repeat (first | exact R_f | apply row_alloc | apply row_drew))
  clear hb2 B1
  obtain ⟨l_f, c_f0, c_f1, c_f2, c_f3, c_f4, c_f5⟩ := row6 R_f
  go_wp2_with fail
  refine (do_ODec _ _ _ _ _ _ _ _ (by omega) (by omega) (by omega) (by omega) _).mono ?_; rintro e w3 ⟨rfl, hb3⟩
  have B3 : Below w.heap.size w w3 := below_then (by repeat (first | exact B2 | apply below_alloc | apply below_drew)) hb3
  clear l_f c_f0 c_f1 c_f2 c_f3 c_f4 c_f5
  replace R_f := row_keep hb3 (by repeat (first | exact R_f | apply row_alloc | apply row_drew))
  have R_g := row_keep hb3 (by repeat (first | exact row_new _ _ _ | apply row_alloc | apply row_drew))
  clear hb3 B2
  obtain ⟨l_f, c_f0, c_f1, c_f2, c_f3, c_f4, c_f5⟩ := row6 R_f
  obtain ⟨l_g, c_g0, c_g1, c_g2, c_g3, c_g4, c_g5⟩ := row6 R_g
  go_wp2_with fail
  refine (do_ONeg _ _ _ _ _ _ _ _ (by omega) (by omega) (by omega) (by omega) _).mono ?_; rintro e w4 ⟨rfl, hb4⟩
  have B4 : Below w.heap.size w w4 := below_then (by repeat (first | exact B3 | apply below_alloc | apply below_drew)) hb4
  clear l_f c_f0 c_f1 c_f2 c_f3 c_f4 c_f5
  replace R_f := row_keep hb4 (by repeat (first | exact R_f | apply row_alloc | apply row_drew))
  clear l_g c_g0 c_g1 c_g2 c_g3 c_g4 c_g5
  replace R_g := row_keep hb4 (by repeat (first | exact R_g | apply row_alloc | apply row_drew))
  have R_h := row_keep hb4 (by repeat (first | exact row_new _ _ _ | apply row_alloc | apply row_drew))
  clear hb4 B3
  obtain ⟨l_f, c_f0, c_f1, c_f2, c_f3, c_f4, c_f5⟩ := row6 R_f
  obtain ⟨l_g, c_g0, c_g1, c_g2, c_g3, c_g4, c_g5⟩ := row6 R_g
  obtain ⟨l_h, c_h0, c_h1, c_h2, c_h3, c_h4, c_h5⟩ := row6 R_h
  go_wp2_with fail
  refine (do_ONeg _ _ _ _ _ _ _ _ (by omega) (by omega) (by omega) (by omega) _).mono ?_; rintro e w5 ⟨rfl, hb5⟩
  have B5 : Below w.heap.size w w5 := below_then (by repeat (first | exact B4 | apply below_alloc | apply below_drew)) hb5
  clear l_f c_f0 c_f1 c_f2 c_f3 c_f4 c_f5
  replace R_f := row_keep hb5 (by repeat (first | exact R_f | apply row_alloc | apply row_drew))
  clear l_g c_g0 c_g1 c_g2 c_g3 c_g4 c_g5
  replace R_g := row_keep hb5 (by repeat (first | exact R_g | apply row_alloc | apply row_drew))
  clear l_h c_h0 c_h1 c_h2 c_h3 c_h4 c_h5
  replace R_h := row_keep hb5 (by repeat (first | exact R_h | apply row_alloc | apply row_drew))
  have R_i := row_keep hb5 (by repeat (first | exact row_new _ _ _ | apply row_alloc | apply row_drew))
  clear hb5 B4
  obtain ⟨l_f, c_f0, c_f1, c_f2, c_f3, c_f4, c_f5⟩ := row6 R_f
  obtain ⟨l_g, c_g0, c_g1, c_g2, c_g3, c_g4, c_g5⟩ := row6 R_g
  obtain ⟨l_h, c_h0, c_h1, c_h2, c_h3, c_h4, c_h5⟩ := row6 R_h
  obtain ⟨l_i, c_i0, c_i1, c_i2, c_i3, c_i4, c_i5⟩ := row6 R_i
  go_wp2_with fail
  refine (do_ONot _ _ _ _ _ _ _ _ (by omega) (by omega) (by omega) (by omega) _).mono ?_; rintro e w6 ⟨rfl, hb6⟩
  have B6 : Below w.heap.size w w6 := below_then (by repeat (first | exact B5 | apply below_alloc | apply below_drew)) hb6
  clear l_f c_f0 c_f1 c_f2 c_f3 c_f4 c_f5
  replace R_f := row_keep hb6 (by repeat (first | exact R_f | apply row_alloc | apply row_drew))
  clear l_g c_g0 c_g1 c_g2 c_g3 c_g4 c_g5
  replace R_g := row_keep hb6 (by repeat (first | exact R_g | apply row_alloc | apply row_drew))
  clear l_h c_h0 c_h1 c_h2 c_h3 c_h4 c_h5
  replace R_h := row_keep hb6 (by repeat (first | exact R_h | apply row_alloc | apply row_drew))
  clear l_i c_i0 c_i1 c_i2 c_i3 c_i4 c_i5
  replace R_i := row_keep hb6 (by repeat (first | exact R_i | apply row_alloc | apply row_drew))
  clear hb6 B5
  obtain ⟨l_f, c_f0, c_f1, c_f2, c_f3, c_f4, c_f5⟩ := row6 R_f
  obtain ⟨l_g, c_g0, c_g1, c_g2, c_g3, c_g4, c_g5⟩ := row6 R_g
  obtain ⟨l_h, c_h0, c_h1, c_h2, c_h3, c_h4, c_h5⟩ := row6 R_h
  obtain ⟨l_i, c_i0, c_i1, c_i2, c_i3, c_i4, c_i5⟩ := row6 R_i
  go_wp2_with fail
  refine (do_ONot _ _ _ _ _ _ _ _ (by omega) (by omega) (by omega) (by omega) _).mono ?_; rintro e w7 ⟨rfl, hb7⟩
  have B7 : Below w.heap.size w w7 := below_then (by repeat (first | exact B6 | apply below_alloc | apply below_drew)) hb7
  clear l_f c_f0 c_f1 c_f2 c_f3 c_f4 c_f5
  replace R_f := row_keep hb7 (by repeat (first | exact R_f | apply row_alloc | apply row_drew))
  clear l_g c_g0 c_g1 c_g2 c_g3 c_g4 c_g5
  replace R_g := row_keep hb7 (by repeat (first | exact R_g | apply row_alloc | apply row_drew))
  clear l_h c_h0 c_h1 c_h2 c_h3 c_h4 c_h5
  replace R_h := row_keep hb7 (by repeat (first | exact R_h | apply row_alloc | apply row_drew))
  clear l_i c_i0 c_i1 c_i2 c_i3 c_i4 c_i5
  replace R_i := row_keep hb7 (by repeat (first | exact R_i | apply row_alloc | apply row_drew))
  have R_j := row_keep hb7 (by repeat (first | exact row_new _ _ _ | apply row_alloc | apply row_drew))
  clear hb7 B6
  obtain ⟨l_f, c_f0, c_f1, c_f2, c_f3, c_f4, c_f5⟩ := row6 R_f
  obtain ⟨l_g, c_g0, c_g1, c_g2, c_g3, c_g4, c_g5⟩ := row6 R_g
  obtain ⟨l_h, c_h0, c_h1, c_h2, c_h3, c_h4, c_h5⟩ := row6 R_h
  obtain ⟨l_i, c_i0, c_i1, c_i2, c_i3, c_i4, c_i5⟩ := row6 R_i
  obtain ⟨l_j, c_j0, c_j1, c_j2, c_j3, c_j4, c_j5⟩ := row6 R_j
  have e1 : (addR a0 1 false == (a0 + 1) % 4294967296) = true := by unfold addR c2i; simp
  have e2 : (subR (addR a0 1 false) 1 false == a0) = true := by unfold addR subR c2i; rw [beq_iff_eq]; simp; omega
  have e5 : addO a0 1 false = (a0 == 2147483647) := steps_over a0 b0.1 b0.2
  have e7 : subC 0 a0 false = (a0 != 0) := by unfold subC c2i; rw [Bool.eq_iff_iff, bne_iff_ne, decide_eq_true_iff]; simp; omega
  have e8 : subO 0 a0 false = (a0 == 2147483648) := steps_neg a0 b0.1 b0.2
  have e9 : (subR 0 (subR 0 a0 false) false == a0) = true := by unfold subR c2i; rw [beq_iff_eq]; simp; omega
  have e11 : (4294967295 - (4294967295 - a0) == a0) = true := by rw [beq_iff_eq]; omega
  have e12 : (subR 0 a0 false == (4294967295 - a0 + 1) % 4294967296) = true := by unfold subR c2i; rw [beq_iff_eq]; simp; omega
  go_wp2_with fail
  go_ret
  exact ⟨rfl, by repeat (first | exact B7 | exact below_refl _ | apply below_alloc | apply below_drew)⟩

end Go.Proofs.Ytepllnaopainpaa
