/- The walk of the law AluDivides. -/
import Derived.Test.YtepllnaopainpaaAluKnown
import Derived.OpenShut
import Derived.Test.YtepllnaopainpaaRows6
namespace Go.Proofs.Ytepllnaopainpaa
open Go.ChangeShapes Go.WideShapes Go.ChangeAt Go.RowKit
set_option linter.unusedVariables false

theorem u_ok (lo hi d : Int) (hl0 : 0 ≤ lo) (hl1 : lo ≤ 4294967295) (hh0 : 0 ≤ hi) (hh1 : hi ≤ 4294967295) (hd0 : 0 ≤ d) (hd1 : d ≤ 4294967295) : uOk lo hi d = decide (hi < d) := by
  unfold uOk nOf
  rw [decide_eq_decide]
  constructor
  · rintro ⟨h1, h2⟩
    have h3 := Int.lt_mul_of_ediv_lt (show 0 < d by omega) (show (hi * 4294967296 + lo) / d < 4294967296 by omega)
    omega
  · intro h
    have h3 : (hi * 4294967296 + lo) / d < 4294967296 := Int.ediv_lt_of_lt_mul (by omega) (by omega)
    omega
theorem u_yes (lo hi d : Int) (hl0 : 0 ≤ lo) (hl1 : lo ≤ 4294967295) (hh0 : 0 ≤ hi) (hh1 : hi ≤ 4294967295) (hd0 : 0 ≤ d) (hd1 : d ≤ 4294967295) (h : hi < d) :
    divK 19 lo hi d = true ∧ (0 ≤ divQ 19 lo hi d ∧ divQ 19 lo hi d ≤ 4294967295) ∧ (0 ≤ divR 19 lo hi d ∧ divR 19 lo hi d < d) ∧ divQ 19 lo hi d * d + divR 19 lo hi d = nOf lo hi := by
  have hk : uOk lo hi d = true := by rw [u_ok lo hi d hl0 hl1 hh0 hh1 hd0 hd1, decide_eq_true_iff]; exact h
  have hk2 := hk
  unfold uOk at hk2
  rw [decide_eq_true_iff] at hk2
  have e1 : divQ 19 lo hi d = nOf lo hi / d := by show uQ lo hi d = _; unfold uQ; rw [hk]; rfl
  have e2 : divR 19 lo hi d = nOf lo hi % d := by show uR lo hi d = _; unfold uR; rw [hk]; rfl
  have hn := nOf_bd lo hi hl0 (by omega) hh0 (by omega)
  rw [e1, e2]
  exact ⟨hk, ⟨Int.ediv_nonneg hn.1 hd0, hk2.2⟩, ⟨Int.emod_nonneg _ (by omega), Int.emod_lt_of_pos _ (by omega)⟩, by rw [Int.mul_comm]; exact Int.mul_ediv_add_emod _ _⟩
theorem u_no (lo hi d : Int) (hl0 : 0 ≤ lo) (hl1 : lo ≤ 4294967295) (hh0 : 0 ≤ hi) (hh1 : hi ≤ 4294967295) (hd0 : 0 ≤ d) (hd1 : d ≤ 4294967295) (h : d ≤ hi) : divK 19 lo hi d = false := by
  show uOk lo hi d = false
  rw [u_ok lo hi d hl0 hl1 hh0 hh1 hd0 hd1, decide_eq_false_iff_not]; omega
theorem s_no (lo hi d : Int) (h : divK 20 lo hi d = false) : (divQ 20 lo hi d == 0) = true ∧ (divR 20 lo hi d == 0) = true := by
  have hk : sOkN (wrap64 (nOf lo hi)) (wrap32 d) = false := h
  have e1 : divQ 20 lo hi d = 0 := by show sQN _ _ = _; unfold sQN; rw [hk]; rfl
  have e2 : divR 20 lo hi d = 0 := by show sRN _ _ = _; unfold sRN; rw [hk]; rfl
  rw [e1, e2]; exact ⟨rfl, rfl⟩
theorem s_yes (lo hi d : Int) (hl0 : 0 ≤ lo) (hl1 : lo ≤ 4294967295) (hh0 : 0 ≤ hi) (hh1 : hi ≤ 4294967295) (hd0 : 0 ≤ d) (hd1 : d ≤ 4294967295) (h : divK 20 lo hi d = true) :
    (d != 0) = true ∧ wrap32 (divQ 20 lo hi d) * wrap32 d + wrap32 (divR 20 lo hi d) = wrap64 (nOf lo hi) ∧ (IntKind.u64.wrap (wrap64 (nOf lo hi)) == nOf lo hi) = true ∧
    ((divR 20 lo hi d == 0) = false → decide (wrap32 (divR 20 lo hi d) < 0) = decide (wrap64 (nOf lo hi) < 0)) ∧ (0 ≤ divQ 20 lo hi d ∧ divQ 20 lo hi d < 4294967296) ∧ (0 ≤ divR 20 lo hi d ∧ divR 20 lo hi d < 4294967296) := by
  have hk : sOkN (wrap64 (nOf lo hi)) (wrap32 d) = true := h
  have e1 : divQ 20 lo hi d = (wrap64 (nOf lo hi)).tdiv (wrap32 d) % 4294967296 := by show sQN _ _ = _; unfold sQN; rw [hk]; rfl
  have e2 : divR 20 lo hi d = (wrap64 (nOf lo hi)).tmod (wrap32 d) % 4294967296 := by show sRN _ _ = _; unfold sRN; rw [hk]; rfl
  unfold sOkN at hk
  rw [decide_eq_true_iff] at hk
  obtain ⟨hz, hm, hq⟩ := hk
  have hn := nOf_bd lo hi hl0 (by omega) hh0 (by omega)
  have hu : IntKind.u64.wrap (wrap64 (nOf lo hi)) = nOf lo hi := by rw [IntKind.wrap_u64]; unfold wrap64; omega
  have hwd := wrap32_bd d
  have hqb := wrap32_bd ((wrap64 (nOf lo hi)).tdiv (wrap32 d))
  have hr1 := Int.natAbs_tmod (wrap64 (nOf lo hi)) (wrap32 d)
  have hr2 := Nat.mod_lt (wrap64 (nOf lo hi)).natAbs (show 0 < (wrap32 d).natAbs by omega)
  have hsum := Int.mul_tdiv_add_tmod (wrap64 (nOf lo hi)) (wrap32 d)
  have hsg1 : 0 ≤ wrap64 (nOf lo hi) → 0 ≤ (wrap64 (nOf lo hi)).tmod (wrap32 d) := fun h => Int.tmod_nonneg _ h
  have hsg2 : wrap64 (nOf lo hi) ≤ 0 → (wrap64 (nOf lo hi)).tmod (wrap32 d) ≤ 0 := fun h => by
    have := Int.tmod_nonneg (a := -wrap64 (nOf lo hi)) (wrap32 d) (by omega)
    rw [Int.neg_tmod] at this; omega
  have hd : d ≠ 0 := fun e => hz (by rw [e]; unfold wrap32; rfl)
  rw [e1, e2, hu]
  generalize wrap64 (nOf lo hi) = N at *
  generalize hQ : N.tdiv (wrap32 d) = Q at *
  generalize hR : N.tmod (wrap32 d) = R at *
  have w1 : wrap32 (Q % 4294967296) = Q := by rw [hq] at *; unfold wrap32 at *; omega
  have w2 : wrap32 (R % 4294967296) = R := by unfold wrap32; omega
  rw [w1, w2]
  refine ⟨by rw [bne_iff_ne]; exact hd, by rw [Int.mul_comm]; exact hsum, by rw [beq_iff_eq], fun h0 => ?_, by omega, by omega⟩
  rw [beq_eq_false_iff_ne] at h0
  rw [decide_eq_decide]
  omega

set_option maxRecDepth 100000 in
set_option maxHeartbeats 2000000 in
theorem div_yn (a0 a1 a2 : Int) (b0 : 0 ≤ a0 ∧ a0 ≤ 4294967295) (b1 : 0 ≤ a1 ∧ a1 ≤ 4294967295) (b2 : 0 ≤ a2 ∧ a2 ≤ 4294967295) (hu : a1 < a2) (hs : divK 20 a0 a1 a2 = false) (w : World) :
    Calls Try.prog 7 #[.int .u32 a0, .int .u32 a1, .int .u32 a2] w fun e w' => e = .returned (.bool true) ∧ Below w.heap.size w w' := by
  have HL := hi_lo a0 a1 b0.1 (by omega) b1.1 (by omega)
  have hn := nOf_bd a0 a1 b0.1 (by omega) b1.1 (by omega)
  obtain ⟨u1, u2, u3, u4⟩ := u_yes a0 a1 a2 b0.1 b0.2 b1.1 b1.2 b2.1 b2.2 hu
  have u5 := mulU_bd (divQ 19 a0 a1 a2) a2 u2.1 (by omega) b2.1 (by omega)
  have u6 : (divQ 19 a0 a1 a2 * a2 + divR 19 a0 a1 a2 != nOf a0 a1) = false := by rw [u4]; exact bne_self_eq_false _
  have u7 : 0 ≤ divQ 19 a0 a1 a2 * a2 + divR 19 a0 a1 a2 ∧ divQ 19 a0 a1 a2 * a2 + divR 19 a0 a1 a2 ≤ 18446744073709551615 := by rw [u4]; exact hn
  clear u4
  obtain ⟨q1, q2⟩ := s_no a0 a1 a2 hs
  go_enter Try.func7, Try.ntmps7
  go_wp2_with fail
  refine (known8 _).mono ?_; rintro e w1 ⟨rfl, hb1⟩
  have B1 : Below w.heap.size w w1 := below_then (by repeat (first | exact below_refl _ | apply below_alloc | apply below_drew)) hb1
  clear hb1
  go_wp2_with fail
  refine (alu_Div_below _ _ _ _ (by omega) (by omega) (by omega) (by omega) (by omega) (by omega) _).mono ?_; rintro e w2 ⟨rfl, hb2⟩
  have B2 : Below w.heap.size w w2 := below_then (by repeat (first | exact B1 | apply below_alloc | apply below_drew)) hb2
  clear hb2 B1
  go_wp2_with fail
  refine (alu_Div_below _ _ _ _ (by omega) (by omega) (by omega) (by omega) (by omega) (by omega) _).mono ?_; rintro e w3 ⟨rfl, hb3⟩
  have B3 : Below w.heap.size w w3 := below_then (by repeat (first | exact B2 | apply below_alloc | apply below_drew)) hb3
  clear hb3 B2
  go_wp2_with fail
  go_ret
  exact ⟨rfl, by repeat (first | exact B3 | exact below_refl _ | apply below_alloc | apply below_drew)⟩

set_option maxRecDepth 100000 in
set_option maxHeartbeats 2000000 in
theorem div_yr (a0 a1 a2 : Int) (b0 : 0 ≤ a0 ∧ a0 ≤ 4294967295) (b1 : 0 ≤ a1 ∧ a1 ≤ 4294967295) (b2 : 0 ≤ a2 ∧ a2 ≤ 4294967295) (hu : a1 < a2) (hs : divK 20 a0 a1 a2 = true) (hr : (divR 20 a0 a1 a2 == 0) = false) (w : World) :
    Calls Try.prog 7 #[.int .u32 a0, .int .u32 a1, .int .u32 a2] w fun e w' => e = .returned (.bool true) ∧ Below w.heap.size w w' := by
  have HL := hi_lo a0 a1 b0.1 (by omega) b1.1 (by omega)
  have hn := nOf_bd a0 a1 b0.1 (by omega) b1.1 (by omega)
  obtain ⟨u1, u2, u3, u4⟩ := u_yes a0 a1 a2 b0.1 b0.2 b1.1 b1.2 b2.1 b2.2 hu
  have u5 := mulU_bd (divQ 19 a0 a1 a2) a2 u2.1 (by omega) b2.1 (by omega)
  have u6 : (divQ 19 a0 a1 a2 * a2 + divR 19 a0 a1 a2 != nOf a0 a1) = false := by rw [u4]; exact bne_self_eq_false _
  have u7 : 0 ≤ divQ 19 a0 a1 a2 * a2 + divR 19 a0 a1 a2 ∧ divQ 19 a0 a1 a2 * a2 + divR 19 a0 a1 a2 ≤ 18446744073709551615 := by rw [u4]; exact hn
  clear u4
  obtain ⟨q1, q2, q3, q4, q5, q6⟩ := s_yes a0 a1 a2 b0.1 b0.2 b1.1 b1.2 b2.1 b2.2 hs
  have v0 := wrap32_bd (divQ 20 a0 a1 a2)
  have v1 := wrap32_bd a2
  have v2 := wrap32_bd (divR 20 a0 a1 a2)
  have v3 := mulS_bd (wrap32 (divQ 20 a0 a1 a2)) (wrap32 a2) v0.1 (by omega) v1.1 (by omega)
  have v4 : -9223372036854775808 ≤ wrap32 (divQ 20 a0 a1 a2) * wrap32 a2 + wrap32 (divR 20 a0 a1 a2) ∧ wrap32 (divQ 20 a0 a1 a2) * wrap32 a2 + wrap32 (divR 20 a0 a1 a2) ≤ 9223372036854775807 := by rw [q2]; unfold wrap64; omega
  have Q2 := Lib.hid q2; clear q2
  have q7 := q4 hr
  clear q4
  go_enter Try.func7, Try.ntmps7
  go_wp2_with fail
  refine (known8 _).mono ?_; rintro e w1 ⟨rfl, hb1⟩
  have B1 : Below w.heap.size w w1 := below_then (by repeat (first | exact below_refl _ | apply below_alloc | apply below_drew)) hb1
  clear hb1
  go_wp2_with fail
  refine (alu_Div_below _ _ _ _ (by omega) (by omega) (by omega) (by omega) (by omega) (by omega) _).mono ?_; rintro e w2 ⟨rfl, hb2⟩
  have B2 : Below w.heap.size w w2 := below_then (by repeat (first | exact B1 | apply below_alloc | apply below_drew)) hb2
  clear hb2 B1
  go_wp2_with fail
  refine (alu_Div_below _ _ _ _ (by omega) (by omega) (by omega) (by omega) (by omega) (by omega) _).mono ?_; rintro e w3 ⟨rfl, hb3⟩
  have B3 : Below w.heap.size w w3 := below_then (by repeat (first | exact B2 | apply below_alloc | apply below_drew)) hb3
  clear hb3 B2
  have q2 := Q2.out
  go_wp2_with fail
  go_ret
  exact ⟨rfl, by repeat (first | exact B3 | exact below_refl _ | apply below_alloc | apply below_drew)⟩

set_option maxRecDepth 100000 in
set_option maxHeartbeats 2000000 in
theorem div_yz (a0 a1 a2 : Int) (b0 : 0 ≤ a0 ∧ a0 ≤ 4294967295) (b1 : 0 ≤ a1 ∧ a1 ≤ 4294967295) (b2 : 0 ≤ a2 ∧ a2 ≤ 4294967295) (hu : a1 < a2) (hs : divK 20 a0 a1 a2 = true) (hr : (divR 20 a0 a1 a2 == 0) = true) (w : World) :
    Calls Try.prog 7 #[.int .u32 a0, .int .u32 a1, .int .u32 a2] w fun e w' => e = .returned (.bool true) ∧ Below w.heap.size w w' := by
  have HL := hi_lo a0 a1 b0.1 (by omega) b1.1 (by omega)
  have hn := nOf_bd a0 a1 b0.1 (by omega) b1.1 (by omega)
  obtain ⟨u1, u2, u3, u4⟩ := u_yes a0 a1 a2 b0.1 b0.2 b1.1 b1.2 b2.1 b2.2 hu
  have u5 := mulU_bd (divQ 19 a0 a1 a2) a2 u2.1 (by omega) b2.1 (by omega)
  have u6 : (divQ 19 a0 a1 a2 * a2 + divR 19 a0 a1 a2 != nOf a0 a1) = false := by rw [u4]; exact bne_self_eq_false _
  have u7 : 0 ≤ divQ 19 a0 a1 a2 * a2 + divR 19 a0 a1 a2 ∧ divQ 19 a0 a1 a2 * a2 + divR 19 a0 a1 a2 ≤ 18446744073709551615 := by rw [u4]; exact hn
  clear u4
  obtain ⟨q1, q2, q3, q4, q5, q6⟩ := s_yes a0 a1 a2 b0.1 b0.2 b1.1 b1.2 b2.1 b2.2 hs
  have v0 := wrap32_bd (divQ 20 a0 a1 a2)
  have v1 := wrap32_bd a2
  have v2 := wrap32_bd (divR 20 a0 a1 a2)
  have v3 := mulS_bd (wrap32 (divQ 20 a0 a1 a2)) (wrap32 a2) v0.1 (by omega) v1.1 (by omega)
  have v4 : -9223372036854775808 ≤ wrap32 (divQ 20 a0 a1 a2) * wrap32 a2 + wrap32 (divR 20 a0 a1 a2) ∧ wrap32 (divQ 20 a0 a1 a2) * wrap32 a2 + wrap32 (divR 20 a0 a1 a2) ≤ 9223372036854775807 := by rw [q2]; unfold wrap64; omega
  have Q2 := Lib.hid q2; clear q2
  clear q4
  go_enter Try.func7, Try.ntmps7
  go_wp2_with fail
  refine (known8 _).mono ?_; rintro e w1 ⟨rfl, hb1⟩
  have B1 : Below w.heap.size w w1 := below_then (by repeat (first | exact below_refl _ | apply below_alloc | apply below_drew)) hb1
  clear hb1
  go_wp2_with fail
  refine (alu_Div_below _ _ _ _ (by omega) (by omega) (by omega) (by omega) (by omega) (by omega) _).mono ?_; rintro e w2 ⟨rfl, hb2⟩
  have B2 : Below w.heap.size w w2 := below_then (by repeat (first | exact B1 | apply below_alloc | apply below_drew)) hb2
  clear hb2 B1
  go_wp2_with fail
  refine (alu_Div_below _ _ _ _ (by omega) (by omega) (by omega) (by omega) (by omega) (by omega) _).mono ?_; rintro e w3 ⟨rfl, hb3⟩
  have B3 : Below w.heap.size w w3 := below_then (by repeat (first | exact B2 | apply below_alloc | apply below_drew)) hb3
  clear hb3 B2
  have q2 := Q2.out
  go_wp2_with fail
  go_ret
  exact ⟨rfl, by repeat (first | exact B3 | exact below_refl _ | apply below_alloc | apply below_drew)⟩

set_option maxRecDepth 100000 in
set_option maxHeartbeats 2000000 in
theorem div_nn (a0 a1 a2 : Int) (b0 : 0 ≤ a0 ∧ a0 ≤ 4294967295) (b1 : 0 ≤ a1 ∧ a1 ≤ 4294967295) (b2 : 0 ≤ a2 ∧ a2 ≤ 4294967295) (hu : a2 ≤ a1) (hs : divK 20 a0 a1 a2 = false) (w : World) :
    Calls Try.prog 7 #[.int .u32 a0, .int .u32 a1, .int .u32 a2] w fun e w' => e = .returned (.bool true) ∧ Below w.heap.size w w' := by
  have HL := hi_lo a0 a1 b0.1 (by omega) b1.1 (by omega)
  have hn := nOf_bd a0 a1 b0.1 (by omega) b1.1 (by omega)
  have u1 := u_no a0 a1 a2 b0.1 b0.2 b1.1 b1.2 b2.1 b2.2 hu
  obtain ⟨q1, q2⟩ := s_no a0 a1 a2 hs
  go_enter Try.func7, Try.ntmps7
  go_wp2_with fail
  refine (known8 _).mono ?_; rintro e w1 ⟨rfl, hb1⟩
  have B1 : Below w.heap.size w w1 := below_then (by repeat (first | exact below_refl _ | apply below_alloc | apply below_drew)) hb1
  clear hb1
  go_wp2_with fail
  refine (alu_Div_below _ _ _ _ (by omega) (by omega) (by omega) (by omega) (by omega) (by omega) _).mono ?_; rintro e w2 ⟨rfl, hb2⟩
  have B2 : Below w.heap.size w w2 := below_then (by repeat (first | exact B1 | apply below_alloc | apply below_drew)) hb2
  clear hb2 B1
  go_wp2_with fail
  refine (alu_Div_below _ _ _ _ (by omega) (by omega) (by omega) (by omega) (by omega) (by omega) _).mono ?_; rintro e w3 ⟨rfl, hb3⟩
  have B3 : Below w.heap.size w w3 := below_then (by repeat (first | exact B2 | apply below_alloc | apply below_drew)) hb3
  clear hb3 B2
  go_wp2_with fail
  go_ret
  exact ⟨rfl, by repeat (first | exact B3 | exact below_refl _ | apply below_alloc | apply below_drew)⟩

set_option maxRecDepth 100000 in
set_option maxHeartbeats 2000000 in
theorem div_nr (a0 a1 a2 : Int) (b0 : 0 ≤ a0 ∧ a0 ≤ 4294967295) (b1 : 0 ≤ a1 ∧ a1 ≤ 4294967295) (b2 : 0 ≤ a2 ∧ a2 ≤ 4294967295) (hu : a2 ≤ a1) (hs : divK 20 a0 a1 a2 = true) (hr : (divR 20 a0 a1 a2 == 0) = false) (w : World) :
    Calls Try.prog 7 #[.int .u32 a0, .int .u32 a1, .int .u32 a2] w fun e w' => e = .returned (.bool true) ∧ Below w.heap.size w w' := by
  have HL := hi_lo a0 a1 b0.1 (by omega) b1.1 (by omega)
  have hn := nOf_bd a0 a1 b0.1 (by omega) b1.1 (by omega)
  have u1 := u_no a0 a1 a2 b0.1 b0.2 b1.1 b1.2 b2.1 b2.2 hu
  obtain ⟨q1, q2, q3, q4, q5, q6⟩ := s_yes a0 a1 a2 b0.1 b0.2 b1.1 b1.2 b2.1 b2.2 hs
  have v0 := wrap32_bd (divQ 20 a0 a1 a2)
  have v1 := wrap32_bd a2
  have v2 := wrap32_bd (divR 20 a0 a1 a2)
  have v3 := mulS_bd (wrap32 (divQ 20 a0 a1 a2)) (wrap32 a2) v0.1 (by omega) v1.1 (by omega)
  have v4 : -9223372036854775808 ≤ wrap32 (divQ 20 a0 a1 a2) * wrap32 a2 + wrap32 (divR 20 a0 a1 a2) ∧ wrap32 (divQ 20 a0 a1 a2) * wrap32 a2 + wrap32 (divR 20 a0 a1 a2) ≤ 9223372036854775807 := by rw [q2]; unfold wrap64; omega
  have Q2 := Lib.hid q2; clear q2
  have q7 := q4 hr
  clear q4
  go_enter Try.func7, Try.ntmps7
  go_wp2_with fail
  refine (known8 _).mono ?_; rintro e w1 ⟨rfl, hb1⟩
  have B1 : Below w.heap.size w w1 := below_then (by repeat (first | exact below_refl _ | apply below_alloc | apply below_drew)) hb1
  clear hb1
  go_wp2_with fail
  refine (alu_Div_below _ _ _ _ (by omega) (by omega) (by omega) (by omega) (by omega) (by omega) _).mono ?_; rintro e w2 ⟨rfl, hb2⟩
  have B2 : Below w.heap.size w w2 := below_then (by repeat (first | exact B1 | apply below_alloc | apply below_drew)) hb2
  clear hb2 B1
  go_wp2_with fail
  refine (alu_Div_below _ _ _ _ (by omega) (by omega) (by omega) (by omega) (by omega) (by omega) _).mono ?_; rintro e w3 ⟨rfl, hb3⟩
  have B3 : Below w.heap.size w w3 := below_then (by repeat (first | exact B2 | apply below_alloc | apply below_drew)) hb3
  clear hb3 B2
  have q2 := Q2.out
  go_wp2_with fail
  go_ret
  exact ⟨rfl, by repeat (first | exact B3 | exact below_refl _ | apply below_alloc | apply below_drew)⟩

set_option maxRecDepth 100000 in
set_option maxHeartbeats 2000000 in
theorem div_nz (a0 a1 a2 : Int) (b0 : 0 ≤ a0 ∧ a0 ≤ 4294967295) (b1 : 0 ≤ a1 ∧ a1 ≤ 4294967295) (b2 : 0 ≤ a2 ∧ a2 ≤ 4294967295) (hu : a2 ≤ a1) (hs : divK 20 a0 a1 a2 = true) (hr : (divR 20 a0 a1 a2 == 0) = true) (w : World) :
    Calls Try.prog 7 #[.int .u32 a0, .int .u32 a1, .int .u32 a2] w fun e w' => e = .returned (.bool true) ∧ Below w.heap.size w w' := by
  have HL := hi_lo a0 a1 b0.1 (by omega) b1.1 (by omega)
  have hn := nOf_bd a0 a1 b0.1 (by omega) b1.1 (by omega)
  have u1 := u_no a0 a1 a2 b0.1 b0.2 b1.1 b1.2 b2.1 b2.2 hu
  obtain ⟨q1, q2, q3, q4, q5, q6⟩ := s_yes a0 a1 a2 b0.1 b0.2 b1.1 b1.2 b2.1 b2.2 hs
  have v0 := wrap32_bd (divQ 20 a0 a1 a2)
  have v1 := wrap32_bd a2
  have v2 := wrap32_bd (divR 20 a0 a1 a2)
  have v3 := mulS_bd (wrap32 (divQ 20 a0 a1 a2)) (wrap32 a2) v0.1 (by omega) v1.1 (by omega)
  have v4 : -9223372036854775808 ≤ wrap32 (divQ 20 a0 a1 a2) * wrap32 a2 + wrap32 (divR 20 a0 a1 a2) ∧ wrap32 (divQ 20 a0 a1 a2) * wrap32 a2 + wrap32 (divR 20 a0 a1 a2) ≤ 9223372036854775807 := by rw [q2]; unfold wrap64; omega
  have Q2 := Lib.hid q2; clear q2
  clear q4
  go_enter Try.func7, Try.ntmps7
  go_wp2_with fail
  refine (known8 _).mono ?_; rintro e w1 ⟨rfl, hb1⟩
  have B1 : Below w.heap.size w w1 := below_then (by repeat (first | exact below_refl _ | apply below_alloc | apply below_drew)) hb1
  clear hb1
  go_wp2_with fail
  refine (alu_Div_below _ _ _ _ (by omega) (by omega) (by omega) (by omega) (by omega) (by omega) _).mono ?_; rintro e w2 ⟨rfl, hb2⟩
  have B2 : Below w.heap.size w w2 := below_then (by repeat (first | exact B1 | apply below_alloc | apply below_drew)) hb2
  clear hb2 B1
  go_wp2_with fail
  refine (alu_Div_below _ _ _ _ (by omega) (by omega) (by omega) (by omega) (by omega) (by omega) _).mono ?_; rintro e w3 ⟨rfl, hb3⟩
  have B3 : Below w.heap.size w w3 := below_then (by repeat (first | exact B2 | apply below_alloc | apply below_drew)) hb3
  clear hb3 B2
  have q2 := Q2.out
  go_wp2_with fail
  go_ret
  exact ⟨rfl, by repeat (first | exact B3 | exact below_refl _ | apply below_alloc | apply below_drew)⟩

set_option maxRecDepth 100000 in
set_option maxHeartbeats 1000000 in
theorem AluDivides_walk (a0 a1 a2 : Int) (w0 : (Lit.int .u32 a0).wf = true) (w1 : (Lit.int .u32 a1).wf = true) (w2 : (Lit.int .u32 a2).wf = true) (w : World) :
    Calls Try.prog 7 #[.int .u32 a0, .int .u32 a1, .int .u32 a2] w fun e w' => e = .returned (.bool true) ∧ Below w.heap.size w w' := by
  have b0 := bounds_u32 w0
  have b1 := bounds_u32 w1
  have b2 := bounds_u32 w2
  clear w0 w1 w2
  by_cases hu : a1 < a2
  · rcases hs : divK 20 a0 a1 a2 with _ | _
    · exact div_yn a0 a1 a2 b0 b1 b2 hu hs w
    · rcases hr : (divR 20 a0 a1 a2 == 0) with _ | _
      · exact div_yr a0 a1 a2 b0 b1 b2 hu hs hr w
      · exact div_yz a0 a1 a2 b0 b1 b2 hu hs hr w
  · have hu' : a2 ≤ a1 := by omega
    rcases hs : divK 20 a0 a1 a2 with _ | _
    · exact div_nn a0 a1 a2 b0 b1 b2 hu' hs w
    · rcases hr : (divR 20 a0 a1 a2 == 0) with _ | _
      · exact div_nr a0 a1 a2 b0 b1 b2 hu' hs hr w
      · exact div_nz a0 a1 a2 b0 b1 b2 hu' hs hr w

end Go.Proofs.Ytepllnaopainpaa
