/- The law's own look at known values ('known', layer 8): it returns true and only makes memory. -/
import Derived.Test.YtndfcpkmchjncaaAluDo
import Derived.Test.YtndfcpkmchjncaaAluShift
import Derived.Test.YtndfcpkmchjncaaAluMul
import Derived.Test.YtndfcpkmchjncaaAluDiv
import Derived.Test.YtndfcpkmchjncaaAluRows
import Derived.Test.YtndfcpkmchjncaaRows6
namespace Go.Proofs.Ytndfcpkmchjncaa
open Go.ChangeShapes Go.WideShapes Go.ChangeAt Go.RowKit
set_option linter.unusedVariables false

theorem below_drewN {w w' : World} (h : ∃ k, w.drewN k = w') : Below w.heap.size w w' := by
  obtain ⟨k, rfl⟩ := h
  induction k with
  | zero => exact Below.refl _ _
  | succ k ih => exact Below.drew ih

theorem alu_Div_below (op : Int) (lo hi d : Int) (hl0 : 0 ≤ lo) (hl1 : lo < 4294967296) (hh0 : 0 ≤ hi) (hh1 : hi < 4294967296) (hd0 : 0 ≤ d) (hd1 : d < 4294967296) (w : World) :
    Calls Try.prog 18 #[.int .i64 op, .int .u32 lo, .int .u32 hi, .int .u32 d] w fun e w' => e = .returned (.tuple #[.int .u32 (divQ op lo hi d), .int .u32 (divR op lo hi d), .bool (divK op lo hi d)]) ∧ Below w.heap.size w w' :=
  (alu_Div op lo hi d hl0 hl1 hh0 hh1 hd0 hd1 w).mono fun _ _ h => ⟨h.1, below_drewN h.2⟩

set_option maxHeartbeats 2000000 in
theorem known8 (w : World) : Calls Try.prog 6 #[] w fun e w' => e = .returned (.bool true) ∧ Below w.heap.size w w' := by
  have a1 : addR 4294967295 1 false = 0 := by decide +kernel
  have a2 : addC 4294967295 1 false = true := by decide +kernel
  have a3 : addO 4294967295 1 false = false := by decide +kernel
  have a4 : addR 15 1 false = 16 := by decide +kernel
  have a5 : par 0 = true := by decide +kernel
  have s1 : shlR 2147483649 1 = 2 := by decide +kernel
  have s2 : bt 2147483649 31 = true := by decide +kernel
  have s3 : bt 2 31 = false := by decide +kernel
  have m1 : mulUl 2147483648 2 = 0 := by decide +kernel
  have m2 : mulUh 2147483648 2 = 1 := by decide +kernel
  have d1 : divQ 19 7 0 2 = 3 := by decide +kernel
  have d2 : divR 19 7 0 2 = 1 := by decide +kernel
  have d3 : divK 19 7 0 2 = true := by decide +kernel
  have d4 : divK 19 7 2 2 = false := by decide +kernel
  go_enter Try.func6, Try.ntmps6
  go_wp2_with fail
  refine (do_OAdd _ _ _ _ _ _ _ _ (by decide) (by decide) (by decide) (by decide) _).mono ?_; rintro e w1 ⟨rfl, hb1⟩
  have B1 : Below w.heap.size w w1 := below_then (by repeat (first | exact below_refl _ | apply below_alloc | apply below_drew)) hb1
  clear hb1
  go_wp2_with fail
  refine (shift_OShl_one _ _ 1 _ _ _ _ _ _ (by decide) (by decide) (by decide) (by decide) (by decide) (by decide) rfl _).mono ?_; rintro e w2 ⟨rfl, hb2⟩
  have B2 : Below w.heap.size w w2 := below_then (by repeat (first | exact B1 | apply below_alloc | apply below_drew)) hb2
  have R_f := row_keep hb2 (by repeat (first | exact row_new _ _ _ | apply row_alloc | apply row_drew))
  clear hb2 B1
  obtain ⟨l_f, c_f0, c_f1, c_f2, c_f3, c_f4, c_f5⟩ := row6 R_f
  go_wp2_with fail
  refine (mul_OMul _ _ _ _ _ _ _ _ (by decide) (by decide) (by decide) (by decide) _).mono ?_; rintro e w3 ⟨rfl, hb3⟩
  have B3 : Below w.heap.size w w3 := below_then (by repeat (first | exact B2 | apply below_alloc | apply below_drew)) hb3
  clear l_f c_f0 c_f1 c_f2 c_f3 c_f4 c_f5
  replace R_f := row_keep hb3 (by repeat (first | exact R_f | apply row_alloc | apply row_drew))
  have R_g := row_keep hb3 (by repeat (first | exact row_new _ _ _ | apply row_alloc | apply row_drew))
  clear hb3 B2
  obtain ⟨l_f, c_f0, c_f1, c_f2, c_f3, c_f4, c_f5⟩ := row6 R_f
  obtain ⟨l_g, c_g0, c_g1, c_g2, c_g3, c_g4, c_g5⟩ := row6 R_g
  go_wp2_with fail
  refine (alu_Div_below _ _ _ _ (by decide) (by decide) (by decide) (by decide) (by decide) (by decide) _).mono ?_; rintro e w4 ⟨rfl, hb4⟩
  have B4 : Below w.heap.size w w4 := below_then (by repeat (first | exact B3 | apply below_alloc | apply below_drew)) hb4
  clear l_f c_f0 c_f1 c_f2 c_f3 c_f4 c_f5
  replace R_f := row_keep hb4 (by repeat (first | exact R_f | apply row_alloc | apply row_drew))
  clear l_g c_g0 c_g1 c_g2 c_g3 c_g4 c_g5
  replace R_g := row_keep hb4 (by repeat (first | exact R_g | apply row_alloc | apply row_drew))
  have R_h := row_keep hb4 (by repeat (first | exact row_new _ _ _ | apply row_alloc | apply row_drew))
  clear hb4 B3
  obtain ⟨l_f, c_f0, c_f1, c_f2, c_f3, c_f4, c_f5⟩ := row6 R_f
  obtain ⟨l_g, c_g0, c_g1, c_g2, c_g3, c_g4, c_g5⟩ := row6 R_g
  obtain ⟨l_h, c_h0, c_h1, c_h2, c_h3, c_h4, c_h5⟩ := row6 R_h
  go_wp2_with fail
  refine (alu_Div_below _ _ _ _ (by decide) (by decide) (by decide) (by decide) (by decide) (by decide) _).mono ?_; rintro e w5 ⟨rfl, hb5⟩
  have B5 : Below w.heap.size w w5 := below_then (by repeat (first | exact B4 | apply below_alloc | apply below_drew)) hb5
  clear l_f c_f0 c_f1 c_f2 c_f3 c_f4 c_f5
  replace R_f := row_keep hb5 (by repeat (first | exact R_f | apply row_alloc | apply row_drew))
  clear l_g c_g0 c_g1 c_g2 c_g3 c_g4 c_g5
  replace R_g := row_keep hb5 (by repeat (first | exact R_g | apply row_alloc | apply row_drew))
  clear l_h c_h0 c_h1 c_h2 c_h3 c_h4 c_h5
  replace R_h := row_keep hb5 (by repeat (first | exact R_h | apply row_alloc | apply row_drew))
  clear hb5 B4
  obtain ⟨l_f, c_f0, c_f1, c_f2, c_f3, c_f4, c_f5⟩ := row6 R_f
  obtain ⟨l_g, c_g0, c_g1, c_g2, c_g3, c_g4, c_g5⟩ := row6 R_g
  obtain ⟨l_h, c_h0, c_h1, c_h2, c_h3, c_h4, c_h5⟩ := row6 R_h
  go_wp2_with fail
  trace_state
  refine (Writes_3 _).mono ?_; rintro e w6 ⟨rfl, hb6⟩
  have B6 : Below w.heap.size w w6 := below_then (by repeat (first | exact B5 | apply below_alloc | apply below_drew)) hb6
  clear l_f c_f0 c_f1 c_f2 c_f3 c_f4 c_f5
  replace R_f := row_keep hb6 (by repeat (first | exact R_f | apply row_alloc | apply row_drew))
  clear l_g c_g0 c_g1 c_g2 c_g3 c_g4 c_g5
  replace R_g := row_keep hb6 (by repeat (first | exact R_g | apply row_alloc | apply row_drew))
  clear l_h c_h0 c_h1 c_h2 c_h3 c_h4 c_h5
  replace R_h := row_keep hb6 (by repeat (first | exact R_h | apply row_alloc | apply row_drew))
  clear hb6 B5
  obtain ⟨l_f, c_f0, c_f1, c_f2, c_f3, c_f4, c_f5⟩ := row6 R_f
  obtain ⟨l_g, c_g0, c_g1, c_g2, c_g3, c_g4, c_g5⟩ := row6 R_g
  obtain ⟨l_h, c_h0, c_h1, c_h2, c_h3, c_h4, c_h5⟩ := row6 R_h
  go_wp2_with fail
  refine (Reads_5 _).mono ?_; rintro e w7 ⟨rfl, hb7⟩
  have B7 : Below w.heap.size w w7 := below_then (by repeat (first | exact B6 | apply below_alloc | apply below_drew)) hb7
  clear l_f c_f0 c_f1 c_f2 c_f3 c_f4 c_f5
  replace R_f := row_keep hb7 (by repeat (first | exact R_f | apply row_alloc | apply row_drew))
  clear l_g c_g0 c_g1 c_g2 c_g3 c_g4 c_g5
  replace R_g := row_keep hb7 (by repeat (first | exact R_g | apply row_alloc | apply row_drew))
  clear l_h c_h0 c_h1 c_h2 c_h3 c_h4 c_h5
  replace R_h := row_keep hb7 (by repeat (first | exact R_h | apply row_alloc | apply row_drew))
  clear hb7 B6
  obtain ⟨l_f, c_f0, c_f1, c_f2, c_f3, c_f4, c_f5⟩ := row6 R_f
  obtain ⟨l_g, c_g0, c_g1, c_g2, c_g3, c_g4, c_g5⟩ := row6 R_g
  obtain ⟨l_h, c_h0, c_h1, c_h2, c_h3, c_h4, c_h5⟩ := row6 R_h
  go_wp2_with fail
  go_ret
  exact ⟨rfl, by repeat (first | exact B7 | exact below_refl _ | apply below_alloc | apply below_drew)⟩

end Go.Proofs.Ytndfcpkmchjncaa
