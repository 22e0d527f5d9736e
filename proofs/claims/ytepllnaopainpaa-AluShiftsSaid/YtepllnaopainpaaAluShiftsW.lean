/- The walk of the law AluShifts. -/
import Derived.Test.YtepllnaopainpaaAluKnown
import Derived.OpenShut
import Derived.Test.YtepllnaopainpaaRows6
namespace Go.Proofs.Ytepllnaopainpaa
open Go.ChangeShapes Go.WideShapes Go.ChangeAt Go.RowKit
set_option linter.unusedVariables false

theorem and_one (x k : Int) (h0 : 0 ≤ x) (h1 : x < 4294967296) : bits .and .u32 (x / 2 ^ k.toNat) 1 = x / 2 ^ k.toNat % 2 := by
  have hp := pow_pos k.toNat
  have h2 : 0 ≤ x / 2 ^ k.toNat := Int.ediv_nonneg h0 (Int.le_of_lt hp)
  have h3 : x / 2 ^ k.toNat ≤ x := Int.ediv_le_self _ h0
  exact and_one_u32 _ h2 (by omega)
theorem bt31 (x : Int) (h0 : 0 ≤ x) (h1 : x < 4294967296) : bt x 31 = (x / 2147483648 == 1) := by
  unfold bt
  have e : (2 : Int) ^ (31 : Int).toNat = 2147483648 := rfl
  rw [e, Bool.eq_iff_iff, beq_iff_eq, beq_iff_eq]; omega

set_option maxRecDepth 100000 in
set_option maxHeartbeats 2000000 in
theorem shifts_one (a0 a1 k : Int) (fc fp fa fz fs fo : Bool) (b0 : 0 ≤ a0 ∧ a0 ≤ 4294967295) (b1 : 0 ≤ a1 ∧ a1 ≤ 255) (hK : a1 % 31 + 1 = k) (k0 : 1 ≤ k) (k1 : k ≤ 31) (hk : k = 1) (w : World) :
    Calls Try.prog 11 #[.int .u32 a0, .int .u8 a1, .agg #[.bool fc, .bool fp, .bool fa, .bool fz, .bool fs, .bool fo]] w fun e w' => e = .returned (.bool true) ∧ Below w.heap.size w w' := by
  have Hk := Lib.hid hk
  have ho : (k == 1) = true := by rw [beq_iff_eq]; exact hk
  have ho' : (k != 1) = false := by rw [bne, ho]; rfl
  clear hk
  have r1 := shlR_bd a0 k
  go_enter Try.func11, Try.ntmps11
  go_wp2_with fail
  refine (known8 _).mono ?_; rintro e w1 ⟨rfl, hb1⟩
  have B1 : Below w.heap.size w w1 := below_then (by repeat (first | exact below_refl _ | apply below_alloc | apply below_drew)) hb1
  have R_f := row_keep hb1 (by repeat (first | exact row_new _ _ _ | apply row_alloc | apply row_drew))
  clear hb1
  obtain ⟨l_f, c_f0, c_f1, c_f2, c_f3, c_f4, c_f5⟩ := row6 R_f
  go_wp2_with fail
  refine (shift_OShl_one a0 _ k _ _ _ _ _ _ (by omega) (by omega) (by omega) (by omega) (by omega) (by omega) Hk.out _).mono ?_; rintro e w2 ⟨rfl, hb2⟩
  have B2 : Below w.heap.size w w2 := below_then (by repeat (first | exact B1 | apply below_alloc | apply below_drew)) hb2
  clear l_f c_f0 c_f1 c_f2 c_f3 c_f4 c_f5
  replace R_f := row_keep hb2 (by repeat (first | exact R_f | apply row_alloc | apply row_drew))
  clear hb2 B1
  obtain ⟨l_f, c_f0, c_f1, c_f2, c_f3, c_f4, c_f5⟩ := row6 R_f
  go_wp2_with fail
  refine (shift_OShr_one a0 _ k _ _ _ _ _ _ (by omega) (by omega) (by omega) (by omega) (by omega) (by omega) Hk.out _).mono ?_; rintro e w3 ⟨rfl, hb3⟩
  have B3 : Below w.heap.size w w3 := below_then (by repeat (first | exact B2 | apply below_alloc | apply below_drew)) hb3
  clear l_f c_f0 c_f1 c_f2 c_f3 c_f4 c_f5
  replace R_f := row_keep hb3 (by repeat (first | exact R_f | apply row_alloc | apply row_drew))
  have R_g := row_keep hb3 (by repeat (first | exact row_new _ _ _ | apply row_alloc | apply row_drew))
  clear hb3 B2
  obtain ⟨l_f, c_f0, c_f1, c_f2, c_f3, c_f4, c_f5⟩ := row6 R_f
  obtain ⟨l_g, c_g0, c_g1, c_g2, c_g3, c_g4, c_g5⟩ := row6 R_g
  go_wp2_with fail
  refine (shift_OSar_one a0 _ k _ _ _ _ _ _ (by omega) (by omega) (by omega) (by omega) (by omega) (by omega) Hk.out _).mono ?_; rintro e w4 ⟨rfl, hb4⟩
  have B4 : Below w.heap.size w w4 := below_then (by repeat (first | exact B3 | apply below_alloc | apply below_drew)) hb4
  clear l_f c_f0 c_f1 c_f2 c_f3 c_f4 c_f5
  replace R_f := row_keep hb4 (by repeat (first | exact R_f | apply row_alloc | apply row_drew))
  clear l_g c_g0 c_g1 c_g2 c_g3 c_g4 c_g5
  replace R_g := row_keep hb4 (by repeat (first | exact R_g | apply row_alloc | apply row_drew))
  have R_h := row_keep hb4 (by repeat (first | exact row_new _ _ _ | apply row_alloc | apply row_drew))
  clear hb4 B3
  obtain ⟨l_f, c_f0, c_f1, c_f2, c_f3, c_f4, c_f5⟩ := row6 R_f
  obtain ⟨l_g, c_g0, c_g1, c_g2, c_g3, c_g4, c_g5⟩ := row6 R_g
  obtain ⟨l_h, c_h0, c_h1, c_h2, c_h3, c_h4, c_h5⟩ := row6 R_h
  go_wp2_with fail
  refine (shift_none _ _ _ _ _ _ _ _ _ (by omega) (by omega) (by omega) _).mono ?_; rintro e w5 ⟨rfl, hb5⟩
  have B5 : Below w.heap.size w w5 := below_then (by repeat (first | exact B4 | apply below_alloc | apply below_drew)) hb5
  clear l_f c_f0 c_f1 c_f2 c_f3 c_f4 c_f5
  replace R_f := row_keep hb5 (by repeat (first | exact R_f | apply row_alloc | apply row_drew))
  clear l_g c_g0 c_g1 c_g2 c_g3 c_g4 c_g5
  replace R_g := row_keep hb5 (by repeat (first | exact R_g | apply row_alloc | apply row_drew))
  clear l_h c_h0 c_h1 c_h2 c_h3 c_h4 c_h5
  replace R_h := row_keep hb5 (by repeat (first | exact R_h | apply row_alloc | apply row_drew))
  have R_i := row_keep hb5 (by repeat (first | exact row_new _ _ _ | apply row_alloc | apply row_drew))
  clear hb5 B4
  obtain ⟨l_f, c_f0, c_f1, c_f2, c_f3, c_f4, c_f5⟩ := row6 R_f
  obtain ⟨l_g, c_g0, c_g1, c_g2, c_g3, c_g4, c_g5⟩ := row6 R_g
  obtain ⟨l_h, c_h0, c_h1, c_h2, c_h3, c_h4, c_h5⟩ := row6 R_h
  obtain ⟨l_i, c_i0, c_i1, c_i2, c_i3, c_i4, c_i5⟩ := row6 R_i
  have p1 := and_one a0 (32 - k) b0.1 (by omega)
  have p2 := and_one a0 (k - 1) b0.1 (by omega)
  have e1 : (shlR a0 k == a0 * 2 ^ k.toNat % 4294967296) = true := by rw [beq_iff_eq]; rfl
  have e2 : bt a0 (32 - k) = (bits .and .u32 (a0 / 2 ^ (32 - k).toNat) 1 == 1) := by rw [p1]; rfl
  have e3 : (shrR a0 k == a0 / 2 ^ k.toNat) = true := by rw [beq_iff_eq]; rfl
  have e4 : bt a0 (k - 1) = (bits .and .u32 (a0 / 2 ^ (k - 1).toNat) 1 == 1) := by rw [p2]; rfl
  have e5 : (sarR a0 k == wrap32 a0 / 2 ^ k.toNat % 4294967296) = true := by rw [beq_iff_eq]; rfl
  have e6 : bt (shlR a0 k) 31 = (shlR a0 k / 2147483648 == 1) := bt31 _ r1.1 r1.2
  have e7 : bt a0 31 = (a0 / 2147483648 == 1) := bt31 _ b0.1 (by omega)
  clear p1 p2
  have hb : ∀ p q : Bool, (p != q) = !(p == q) := fun _ _ => rfl
  have hg : ∀ b : Bool, (some undef = some (Value.bool b)) = False := fun b => eq_false (fun h => by cases h)
  go_wp2_with fail
  go_ret
  exact ⟨rfl, by repeat (first | exact B5 | exact below_refl _ | apply below_alloc | apply below_drew)⟩

set_option maxRecDepth 100000 in
set_option maxHeartbeats 2000000 in
theorem shifts_more (a0 a1 k : Int) (fc fp fa fz fs fo : Bool) (b0 : 0 ≤ a0 ∧ a0 ≤ 4294967295) (b1 : 0 ≤ a1 ∧ a1 ≤ 255) (hK : a1 % 31 + 1 = k) (k0 : 1 ≤ k) (k1 : k ≤ 31) (hk : k ≠ 1) (w : World) :
    Calls Try.prog 11 #[.int .u32 a0, .int .u8 a1, .agg #[.bool fc, .bool fp, .bool fa, .bool fz, .bool fs, .bool fo]] w fun e w' => e = .returned (.bool true) ∧ Below w.heap.size w w' := by
  have Hk := Lib.hid hk
  have ho : (k == 1) = false := by rw [beq_eq_false_iff_ne]; exact hk
  have ho' : (k != 1) = true := by rw [bne, ho]; rfl
  clear hk
  have r1 := shlR_bd a0 k
  go_enter Try.func11, Try.ntmps11
  go_wp2_with fail
  refine (known8 _).mono ?_; rintro e w1 ⟨rfl, hb1⟩
  have B1 : Below w.heap.size w w1 := below_then (by repeat (first | exact below_refl _ | apply below_alloc | apply below_drew)) hb1
  have R_f := row_keep hb1 (by repeat (first | exact row_new _ _ _ | apply row_alloc | apply row_drew))
  clear hb1
  obtain ⟨l_f, c_f0, c_f1, c_f2, c_f3, c_f4, c_f5⟩ := row6 R_f
  go_wp2_with fail
  refine (shift_OShl_more a0 _ k _ _ _ _ _ _ (by omega) (by omega) (by omega) (by omega) (by omega) (by omega) Hk.out _).mono ?_; rintro e w2 ⟨rfl, hb2⟩
  have B2 : Below w.heap.size w w2 := below_then (by repeat (first | exact B1 | apply below_alloc | apply below_drew)) hb2
  clear l_f c_f0 c_f1 c_f2 c_f3 c_f4 c_f5
  replace R_f := row_keep hb2 (by repeat (first | exact R_f | apply row_alloc | apply row_drew))
  clear hb2 B1
  obtain ⟨l_f, c_f0, c_f1, c_f2, c_f3, c_f4, c_f5⟩ := row6 R_f
  go_wp2_with fail
  refine (shift_OShr_more a0 _ k _ _ _ _ _ _ (by omega) (by omega) (by omega) (by omega) (by omega) (by omega) Hk.out _).mono ?_; rintro e w3 ⟨rfl, hb3⟩
  have B3 : Below w.heap.size w w3 := below_then (by repeat (first | exact B2 | apply below_alloc | apply below_drew)) hb3
  clear l_f c_f0 c_f1 c_f2 c_f3 c_f4 c_f5
  replace R_f := row_keep hb3 (by repeat (first | exact R_f | apply row_alloc | apply row_drew))
  have R_g := row_keep hb3 (by repeat (first | exact row_new _ _ _ | apply row_alloc | apply row_drew))
  clear hb3 B2
  obtain ⟨l_f, c_f0, c_f1, c_f2, c_f3, c_f4, c_f5⟩ := row6 R_f
  obtain ⟨l_g, c_g0, c_g1, c_g2, c_g3, c_g4, c_g5⟩ := row6 R_g
  go_wp2_with fail
  refine (shift_OSar_more a0 _ k _ _ _ _ _ _ (by omega) (by omega) (by omega) (by omega) (by omega) (by omega) Hk.out _).mono ?_; rintro e w4 ⟨rfl, hb4⟩
  have B4 : Below w.heap.size w w4 := below_then (by repeat (first | exact B3 | apply below_alloc | apply below_drew)) hb4
  clear l_f c_f0 c_f1 c_f2 c_f3 c_f4 c_f5
  replace R_f := row_keep hb4 (by repeat (first | exact R_f | apply row_alloc | apply row_drew))
  clear l_g c_g0 c_g1 c_g2 c_g3 c_g4 c_g5
  replace R_g := row_keep hb4 (by repeat (first | exact R_g | apply row_alloc | apply row_drew))
  have R_h := row_keep hb4 (by repeat (first | exact row_new _ _ _ | apply row_alloc | apply row_drew))
  clear hb4 B3
  obtain ⟨l_f, c_f0, c_f1, c_f2, c_f3, c_f4, c_f5⟩ := row6 R_f
  obtain ⟨l_g, c_g0, c_g1, c_g2, c_g3, c_g4, c_g5⟩ := row6 R_g
  obtain ⟨l_h, c_h0, c_h1, c_h2, c_h3, c_h4, c_h5⟩ := row6 R_h
  go_wp2_with fail
  refine (shift_none _ _ _ _ _ _ _ _ _ (by omega) (by omega) (by omega) _).mono ?_; rintro e w5 ⟨rfl, hb5⟩
  have B5 : Below w.heap.size w w5 := below_then (by repeat (first | exact B4 | apply below_alloc | apply below_drew)) hb5
  clear l_f c_f0 c_f1 c_f2 c_f3 c_f4 c_f5
  replace R_f := row_keep hb5 (by repeat (first | exact R_f | apply row_alloc | apply row_drew))
  clear l_g c_g0 c_g1 c_g2 c_g3 c_g4 c_g5
  replace R_g := row_keep hb5 (by repeat (first | exact R_g | apply row_alloc | apply row_drew))
  clear l_h c_h0 c_h1 c_h2 c_h3 c_h4 c_h5
  replace R_h := row_keep hb5 (by repeat (first | exact R_h | apply row_alloc | apply row_drew))
  have R_i := row_keep hb5 (by repeat (first | exact row_new _ _ _ | apply row_alloc | apply row_drew))
  clear hb5 B4
  obtain ⟨l_f, c_f0, c_f1, c_f2, c_f3, c_f4, c_f5⟩ := row6 R_f
  obtain ⟨l_g, c_g0, c_g1, c_g2, c_g3, c_g4, c_g5⟩ := row6 R_g
  obtain ⟨l_h, c_h0, c_h1, c_h2, c_h3, c_h4, c_h5⟩ := row6 R_h
  obtain ⟨l_i, c_i0, c_i1, c_i2, c_i3, c_i4, c_i5⟩ := row6 R_i
  have p1 := and_one a0 (32 - k) b0.1 (by omega)
  have p2 := and_one a0 (k - 1) b0.1 (by omega)
  have e1 : (shlR a0 k == a0 * 2 ^ k.toNat % 4294967296) = true := by rw [beq_iff_eq]; rfl
  have e2 : bt a0 (32 - k) = (bits .and .u32 (a0 / 2 ^ (32 - k).toNat) 1 == 1) := by rw [p1]; rfl
  have e3 : (shrR a0 k == a0 / 2 ^ k.toNat) = true := by rw [beq_iff_eq]; rfl
  have e4 : bt a0 (k - 1) = (bits .and .u32 (a0 / 2 ^ (k - 1).toNat) 1 == 1) := by rw [p2]; rfl
  have e5 : (sarR a0 k == wrap32 a0 / 2 ^ k.toNat % 4294967296) = true := by rw [beq_iff_eq]; rfl
  have e6 : bt (shlR a0 k) 31 = (shlR a0 k / 2147483648 == 1) := bt31 _ r1.1 r1.2
  have e7 : bt a0 31 = (a0 / 2147483648 == 1) := bt31 _ b0.1 (by omega)
  clear p1 p2
  have hb : ∀ p q : Bool, (p != q) = !(p == q) := fun _ _ => rfl
  have hg : ∀ b : Bool, (some undef = some (Value.bool b)) = False := fun b => eq_false (fun h => by cases h)
  go_wp2_with fail
  go_ret
  exact ⟨rfl, by repeat (first | exact B5 | exact below_refl _ | apply below_alloc | apply below_drew)⟩

set_option maxRecDepth 100000 in
set_option maxHeartbeats 1000000 in
theorem AluShifts_walk (a0 a1 : Int) (fc fp fa fz fs fo : Bool) (w0 : (Lit.int .u32 a0).wf = true) (w1 : (Lit.int .u8 a1).wf = true) (w : World) :
    Calls Try.prog 11 #[.int .u32 a0, .int .u8 a1, .agg #[.bool fc, .bool fp, .bool fa, .bool fz, .bool fs, .bool fo]] w fun e w' => e = .returned (.bool true) ∧ Below w.heap.size w w' := by
  have b0 := bounds_u32 w0
  have b1 := bounds_u8 w1
  clear w0 w1
  by_cases hk : a1 % 31 + 1 = 1
  · exact shifts_one a0 a1 _ fc fp fa fz fs fo b0 b1 rfl (by omega) (by omega) hk w
  · exact shifts_more a0 a1 _ fc fp fa fz fs fo b0 b1 rfl (by omega) (by omega) hk w

end Go.Proofs.Ytepllnaopainpaa
