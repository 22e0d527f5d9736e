/- The walk of the law AluCompares. -/
import Derived.Test.YtepllnaopainpaaAluKnown
import Derived.OpenShut
import Derived.Test.YtepllnaopainpaaRows6
namespace Go.Proofs.Ytepllnaopainpaa
open Go.ChangeShapes Go.WideShapes Go.ChangeAt Go.RowKit
set_option linter.unusedVariables false

theorem cmp_less (a b : Int) (h0 : 0 ≤ a) (h1 : a ≤ 4294967295) (k0 : 0 ≤ b) (k1 : b ≤ 4294967295) :
    ((subR a b false / 2147483648 == 1) != subO a b false) = decide (wrap32 a < wrap32 b) := by
  unfold subO wideB
  have e : subR a b false = (a - b) % 4294967296 := by unfold subR c2i; simp
  have e2 : c2i false = 0 := rfl
  rw [e, e2]
  rcases wrap32_cases a h0 (by omega) with ⟨p1, p2⟩ | ⟨p1, p2⟩ <;> rcases wrap32_cases b k0 (by omega) with ⟨q1, q2⟩ | ⟨q1, q2⟩ <;> rw [p2, q2] <;> (
    rw [Bool.eq_iff_iff, bne_iff_ne, decide_eq_true_iff, ne_eq, Bool.eq_iff_iff, beq_iff_eq, bne_iff_ne]
    unfold wrap32
    omega)

set_option maxHeartbeats 1000000 in
theorem AluCompares_walk (a0 a1 : Int) (fc fp fa fz fs fo : Bool) (w0 : (Lit.int .u32 a0).wf = true) (w1 : (Lit.int .u32 a1).wf = true) (w : World) :
    Calls Try.prog 4 #[.int .u32 a0, .int .u32 a1, .agg #[.bool fc, .bool fp, .bool fa, .bool fz, .bool fs, .bool fo]] w fun e w' => e = .returned (.bool true) ∧ Below w.heap.size w w' := by
  have b0 := bounds_u32 w0
  have b1 := bounds_u32 w1
  clear w0 w1
  have ea := and15_bd a0 b0.1 (by omega)
  have eb := and15_bd a1 b1.1 (by omega)
  go_enter Try.func4, Try.ntmps4
  go_wp2_with fail
  refine (known8 _).mono ?_; rintro e w1 ⟨rfl, hb1⟩
  have B1 : Below w.heap.size w w1 := below_then (by repeat (first | exact below_refl _ | apply below_alloc | apply below_drew)) hb1
  have R_f := row_keep hb1 (by repeat (first | exact row_new _ _ _ | apply row_alloc | apply row_drew))
  clear hb1
  obtain ⟨l_f, c_f0, c_f1, c_f2, c_f3, c_f4, c_f5⟩ := row6 R_f
  go_wp2_with fail
  refine (do_OCmp _ _ _ _ _ _ _ _ (by omega) (by omega) (by omega) (by omega) _).mono ?_; rintro e w2 ⟨rfl, hb2⟩
  have B2 : Below w.heap.size w w2 := below_then (by repeat (first | exact B1 | apply below_alloc | apply below_drew)) hb2
  clear l_f c_f0 c_f1 c_f2 c_f3 c_f4 c_f5
  replace R_f := row_keep hb2 (by repeat (first | exact R_f | apply row_alloc | apply row_drew))
  clear hb2 B1
  obtain ⟨l_f, c_f0, c_f1, c_f2, c_f3, c_f4, c_f5⟩ := row6 R_f
  go_wp2_with fail
  refine (do_OSub _ _ _ _ _ _ _ _ (by omega) (by omega) (by omega) (by omega) _).mono ?_; rintro e w3 ⟨rfl, hb3⟩
  have B3 : Below w.heap.size w w3 := below_then (by repeat (first | exact B2 | apply below_alloc | apply below_drew)) hb3
  clear l_f c_f0 c_f1 c_f2 c_f3 c_f4 c_f5
  replace R_f := row_keep hb3 (by repeat (first | exact R_f | apply row_alloc | apply row_drew))
  have R_g := row_keep hb3 (by repeat (first | exact row_new _ _ _ | apply row_alloc | apply row_drew))
  clear hb3 B2
  obtain ⟨l_f, c_f0, c_f1, c_f2, c_f3, c_f4, c_f5⟩ := row6 R_f
  obtain ⟨l_g, c_g0, c_g1, c_g2, c_g3, c_g4, c_g5⟩ := row6 R_g
  have e1 : (subR a0 a1 false == (a0 - a1) % 4294967296) = true := by unfold subR c2i; simp
  have e2 : subC a0 a1 false = decide (a0 < a1) := by unfold subC c2i; rw [decide_eq_decide]; simp; omega
  have e3 : (subR a0 a1 false == 0) = (a0 == a1) := by unfold subR c2i; rw [Bool.eq_iff_iff, beq_iff_eq, beq_iff_eq]; simp; omega
  have e4 : ((subR a0 a1 false / 2147483648 == 1) == subO a0 a1 false) = !decide (wrap32 a0 < wrap32 a1) := by
    rw [← cmp_less a0 a1 b0.1 b0.2 b1.1 b1.2]; simp [bne]
  have e5 : subC (a0 % 16) (a1 % 16) false = decide (a0 % 16 < a1 % 16) := by unfold subC c2i; rw [decide_eq_decide]; simp; omega
  go_wp2_with fail
  go_ret
  exact ⟨rfl, by repeat (first | exact B3 | exact below_refl _ | apply below_alloc | apply below_drew)⟩

end Go.Proofs.Ytepllnaopainpaa
