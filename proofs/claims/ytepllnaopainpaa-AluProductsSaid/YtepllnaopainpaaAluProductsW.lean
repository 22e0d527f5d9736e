/- The walk of the law AluProducts. -/
import Derived.Test.YtepllnaopainpaaAluKnown
import Derived.OpenShut
import Derived.Test.YtepllnaopainpaaRows6
namespace Go.Proofs.Ytepllnaopainpaa
open Go.ChangeShapes Go.WideShapes Go.ChangeAt Go.RowKit
set_option linter.unusedVariables false

theorem prod_wide (a b : Int) (h : -4611686018427387904 ≤ wrap32 a * wrap32 b ∧ wrap32 a * wrap32 b ≤ 4611686018427387904) :
    mulC a b = (wrap32 a * wrap32 b != wrap32 (wrap32 a * wrap32 b)) := by
  have e : mulSl a b = wrap32 a * wrap32 b % 4294967296 := by unfold mulSl; rw [Int.mul_emod (wrap32 a), wrap32_mod, wrap32_mod, ← Int.mul_emod]
  unfold mulC mulSh
  rw [e]
  generalize wrap32 a * wrap32 b = t at h
  rw [Bool.eq_iff_iff, bne_iff_ne, bne_iff_ne]
  unfold wrap32
  omega

set_option maxRecDepth 100000 in
set_option maxHeartbeats 1000000 in
theorem AluProducts_walk (a0 a1 : Int) (fc fp fa fz fs fo : Bool) (w0 : (Lit.int .u32 a0).wf = true) (w1 : (Lit.int .u32 a1).wf = true) (w : World) :
    Calls Try.prog 12 #[.int .u32 a0, .int .u32 a1, .agg #[.bool fc, .bool fp, .bool fa, .bool fz, .bool fs, .bool fo]] w fun e w' => e = .returned (.bool true) ∧ Below w.heap.size w w' := by
  have b0 := bounds_u32 w0
  have b1 := bounds_u32 w1
  clear w0 w1
  have r1 := mulUl_bd a0 a1
  have r2 := mulUh_bd a0 a1 b0.1 (by omega) b1.1 (by omega)
  have r3 := mulSl_bd a0 a1
  have r4 := mulSh_bd a0 a1
  have r5 := mulU_bd a0 a1 b0.1 (by omega) b1.1 (by omega)
  have q0 := wrap32_bd a0
  have q1 := wrap32_bd a1
  have r6 := mulS_bd (wrap32 a0) (wrap32 a1) q0.1 (by omega) q1.1 (by omega)
  go_enter Try.func12, Try.ntmps12
  go_wp2_with fail
  refine (known8 _).mono ?_; rintro e w1 ⟨rfl, hb1⟩
  have B1 : Below w.heap.size w w1 := below_then (by repeat (first | exact below_refl _ | apply below_alloc | apply below_drew)) hb1
  have R_f := row_keep hb1 (by repeat (first | exact row_new _ _ _ | apply row_alloc | apply row_drew))
  clear hb1
  obtain ⟨l_f, c_f0, c_f1, c_f2, c_f3, c_f4, c_f5⟩ := row6 R_f
  go_wp2_with fail
  refine (mul_OMul _ _ _ _ _ _ _ _ (by omega) (by omega) (by omega) (by omega) _).mono ?_; rintro e w2 ⟨rfl, hb2⟩
  have B2 : Below w.heap.size w w2 := below_then (by repeat (first | exact B1 | apply below_alloc | apply below_drew)) hb2
  clear l_f c_f0 c_f1 c_f2 c_f3 c_f4 c_f5
  replace R_f := row_keep hb2 (by repeat (first | exact R_f | apply row_alloc | apply row_drew))
  clear hb2 B1
  obtain ⟨l_f, c_f0, c_f1, c_f2, c_f3, c_f4, c_f5⟩ := row6 R_f
  go_wp2_with fail
  refine (mul_OImul _ _ _ _ _ _ _ _ (by omega) (by omega) (by omega) (by omega) _).mono ?_; rintro e w3 ⟨rfl, hb3⟩
  have B3 : Below w.heap.size w w3 := below_then (by repeat (first | exact B2 | apply below_alloc | apply below_drew)) hb3
  clear l_f c_f0 c_f1 c_f2 c_f3 c_f4 c_f5
  replace R_f := row_keep hb3 (by repeat (first | exact R_f | apply row_alloc | apply row_drew))
  have R_g := row_keep hb3 (by repeat (first | exact row_new _ _ _ | apply row_alloc | apply row_drew))
  clear hb3 B2
  obtain ⟨l_f, c_f0, c_f1, c_f2, c_f3, c_f4, c_f5⟩ := row6 R_f
  obtain ⟨l_g, c_g0, c_g1, c_g2, c_g3, c_g4, c_g5⟩ := row6 R_g
  go_wp2_with fail
  refine (mul_OImul2 _ _ _ _ _ _ _ _ (by omega) (by omega) (by omega) (by omega) _).mono ?_; rintro e w4 ⟨rfl, hb4⟩
  have B4 : Below w.heap.size w w4 := below_then (by repeat (first | exact B3 | apply below_alloc | apply below_drew)) hb4
  clear l_f c_f0 c_f1 c_f2 c_f3 c_f4 c_f5
  replace R_f := row_keep hb4 (by repeat (first | exact R_f | apply row_alloc | apply row_drew))
  clear l_g c_g0 c_g1 c_g2 c_g3 c_g4 c_g5
  replace R_g := row_keep hb4 (by repeat (first | exact R_g | apply row_alloc | apply row_drew))
  have R_h := row_keep hb4 (by repeat (first | exact row_new _ _ _ | apply row_alloc | apply row_drew))
  clear hb4 B3
  obtain ⟨l_f, c_f0, c_f1, c_f2, c_f3, c_f4, c_f5⟩ := row6 R_f
  obtain ⟨l_g, c_g0, c_g1, c_g2, c_g3, c_g4, c_g5⟩ := row6 R_g
  obtain ⟨l_h, c_h0, c_h1, c_h2, c_h3, c_h4, c_h5⟩ := row6 R_h
  have e1 : (bits .or .u64 (mulUh a0 a1 * 4294967296) (mulUl a0 a1) == a0 * a1) = true := by
    rw [hi_lo _ _ r1.1 r1.2 r2.1 (by omega), beq_iff_eq]; unfold nOf mulUh mulUl; omega
  have e2 : (bits .or .u64 (mulSh a0 a1 * 4294967296) (mulSl a0 a1) == IntKind.u64.wrap (wrap32 a0 * wrap32 a1)) = true := by
    rw [hi_lo _ _ r3.1 r3.2 r4.1 r4.2, beq_iff_eq, IntKind.wrap_u64]; unfold nOf mulSh
    have e : mulSl a0 a1 = wrap32 a0 * wrap32 a1 % 4294967296 := by unfold mulSl; rw [Int.mul_emod (wrap32 a0), wrap32_mod, wrap32_mod, ← Int.mul_emod]
    rw [e]; omega
  have q2 := wrap32_bd (wrap32 a0 * wrap32 a1)
  have e3 : (a0 * a1 / 4294967296 != 0) = (mulUh a0 a1 != 0) := rfl
  have e4 : mulC a0 a1 = (wrap32 a0 * wrap32 a1 != wrap32 (wrap32 a0 * wrap32 a1)) := prod_wide a0 a1 r6
  go_wp2_with fail
  go_ret
  exact ⟨rfl, by repeat (first | exact B4 | exact below_refl _ | apply below_alloc | apply below_drew)⟩

end Go.Proofs.Ytepllnaopainpaa
