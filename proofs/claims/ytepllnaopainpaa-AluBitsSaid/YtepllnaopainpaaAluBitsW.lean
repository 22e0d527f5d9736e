/- The walk of the law AluBits. -/
import Derived.Test.YtepllnaopainpaaAluKnown
import Derived.Laws.BitsAll
import Derived.OpenShut
import Derived.Test.YtepllnaopainpaaRows6
namespace Go.Proofs.Ytepllnaopainpaa
open Go.ChangeShapes Go.WideShapes Go.ChangeAt Go.RowKit
set_option linter.unusedVariables false

theorem and_one (x k : Int) (h0 : 0 ≤ x) (h1 : x < 4294967296) : bits .and .u32 (x / 2 ^ k.toNat) 1 = x / 2 ^ k.toNat % 2 := by
  have hp := pow_pos k.toNat
  have h2 : 0 ≤ x / 2 ^ k.toNat := Int.ediv_nonneg h0 (Int.le_of_lt hp)
  have h3 : x / 2 ^ k.toNat ≤ x := Int.ediv_le_self _ h0
  exact and_one_u32 _ h2 (by omega)
theorem tb (n k : Nat) : ((n : Int) / 2 ^ k % 2 == 1) = n.testBit k := by
  rw [Nat.testBit_eq_decide_div_mod_eq, Bool.eq_iff_iff, beq_iff_eq, decide_eq_true_iff]
  have e : ((n : Int) / 2 ^ k) = ((n / 2 ^ k : Nat) : Int) := by simp
  rw [e]; omega
theorem bits_nat (op : BinOp) (f : Nat → Nat → Nat) (hf : ∀ x y : BitVec 32, (match op with | .and => x &&& y | .or => x ||| y | _ => x ^^^ y).toNat = f x.toNat y.toNat) (ho : op = .and ∨ op = .or ∨ op = .xor)
    (a b : Nat) (ha : a < 4294967296) (hb : b < 4294967296) : bits op .u32 (a : Int) (b : Int) = ((f a b : Nat) : Int) := by
  have h1 : (BitVec.ofInt 32 (a : Int)).toNat = a := by
    rw [BitVec.ofInt_natCast, BitVec.toNat_ofNat]; exact Nat.mod_eq_of_lt (by omega)
  have h2 : (BitVec.ofInt 32 (b : Int)).toNat = b := by
    rw [BitVec.ofInt_natCast, BitVec.toNat_ofNat]; exact Nat.mod_eq_of_lt (by omega)
  have h3 := hf (BitVec.ofInt 32 (a : Int)) (BitVec.ofInt 32 (b : Int))
  rw [h1, h2] at h3
  have hl := (match op with | .and => BitVec.ofInt 32 (a : Int) &&& BitVec.ofInt 32 (b : Int) | .or => BitVec.ofInt 32 (a : Int) ||| BitVec.ofInt 32 (b : Int) | _ => BitVec.ofInt 32 (a : Int) ^^^ BitVec.ofInt 32 (b : Int)).isLt
  rcases ho with rfl | rfl | rfl
  all_goals
    show IntKind.u32.wrap _ = _
    simp only [] at h3 hl
    rw [h3] at hl
    have e : ∀ n : Nat, n < 2 ^ 32 → IntKind.u32.wrap (n : Int) = n := fun n hn => by rw [IntKind.wrap_u32']; omega
    first | (rw [show (BitVec.ofInt IntKind.u32.bits (a : Int) &&& BitVec.ofInt IntKind.u32.bits (b : Int)).toNat = f a b from h3]; exact e _ hl) | (rw [show (BitVec.ofInt IntKind.u32.bits (a : Int) ||| BitVec.ofInt IntKind.u32.bits (b : Int)).toNat = f a b from h3]; exact e _ hl) | (rw [show (BitVec.ofInt IntKind.u32.bits (a : Int) ^^^ BitVec.ofInt IntKind.u32.bits (b : Int)).toNat = f a b from h3]; exact e _ hl)
theorem and_nat (a b : Nat) (ha : a < 4294967296) (hb : b < 4294967296) : bits .and .u32 (a : Int) (b : Int) = ((a &&& b : Nat) : Int) := bits_nat .and (· &&& ·) (fun x y => BitVec.toNat_and x y) (by simp) a b ha hb
theorem or_nat (a b : Nat) (ha : a < 4294967296) (hb : b < 4294967296) : bits .or .u32 (a : Int) (b : Int) = ((a ||| b : Nat) : Int) := bits_nat .or (· ||| ·) (fun x y => BitVec.toNat_or x y) (by simp) a b ha hb
theorem xor_nat (a b : Nat) (ha : a < 4294967296) (hb : b < 4294967296) : bits .xor .u32 (a : Int) (b : Int) = ((a ^^^ b : Nat) : Int) := bits_nat .xor (· ^^^ ·) (fun x y => BitVec.toNat_xor x y) (by simp) a b ha hb
theorem bit_and (a b : Int) (k : Nat) (h0 : 0 ≤ a) (h1 : a < 4294967296) (k0 : 0 ≤ b) (k1 : b < 4294967296) : (bits .and .u32 a b / 2 ^ k % 2 == 1) = ((a / 2 ^ k % 2 == 1) && (b / 2 ^ k % 2 == 1)) := by
  obtain ⟨a, rfl⟩ := Int.eq_ofNat_of_zero_le h0
  obtain ⟨b, rfl⟩ := Int.eq_ofNat_of_zero_le k0
  rw [and_nat a b (by omega) (by omega), tb, tb, tb, Nat.testBit_and]
theorem bit_or (a b : Int) (k : Nat) (h0 : 0 ≤ a) (h1 : a < 4294967296) (k0 : 0 ≤ b) (k1 : b < 4294967296) : (bits .or .u32 a b / 2 ^ k % 2 == 1) = ((a / 2 ^ k % 2 == 1) || (b / 2 ^ k % 2 == 1)) := by
  obtain ⟨a, rfl⟩ := Int.eq_ofNat_of_zero_le h0
  obtain ⟨b, rfl⟩ := Int.eq_ofNat_of_zero_le k0
  rw [or_nat a b (by omega) (by omega), tb, tb, tb, Nat.testBit_or]
theorem bit_xor (a b : Int) (k : Nat) (h0 : 0 ≤ a) (h1 : a < 4294967296) (k0 : 0 ≤ b) (k1 : b < 4294967296) : (bits .xor .u32 a b / 2 ^ k % 2 == 1) = !((a / 2 ^ k % 2 == 1) == (b / 2 ^ k % 2 == 1)) := by
  obtain ⟨a, rfl⟩ := Int.eq_ofNat_of_zero_le h0
  obtain ⟨b, rfl⟩ := Int.eq_ofNat_of_zero_le k0
  rw [xor_nat a b (by omega) (by omega), tb, tb, tb, Nat.testBit_xor]
  cases a.testBit k <;> cases b.testBit k <;> rfl
theorem nat_sum (n : Nat) : ∀ a b : Nat, a < 2 ^ n → b < 2 ^ n → (a &&& b) + (a ||| b) = a + b ∧ (a ^^^ b) + (a &&& b) = (a ||| b) := by
  induction n with
  | zero =>
    intro a b ha hb
    have ha0 : a = 0 := by omega
    have hb0 : b = 0 := by omega
    rw [ha0, hb0]; decide
  | succ n ih =>
    intro a b ha hb
    have h := ih (a / 2) (b / 2) (by omega) (by omega)
    have d1 : (a &&& b) / 2 = a / 2 &&& b / 2 := by have := Nat.and_div_two_pow (a := a) (b := b) (n := 1); simpa using this
    have d2 : (a ||| b) / 2 = a / 2 ||| b / 2 := by have := Nat.or_div_two_pow (a := a) (b := b) (n := 1); simpa using this
    have d3 : (a ^^^ b) / 2 = a / 2 ^^^ b / 2 := by have := Nat.xor_div_two_pow (a := a) (b := b) (n := 1); simpa using this
    have m1 : (a &&& b) % 2 = a % 2 &&& b % 2 := by have := Nat.and_mod_two_pow (a := a) (b := b) (n := 1); simpa using this
    have m2 : (a ||| b) % 2 = a % 2 ||| b % 2 := by have := Nat.or_mod_two_pow (a := a) (b := b) (n := 1); simpa using this
    have m3 : (a ^^^ b) % 2 = a % 2 ^^^ b % 2 := by have := Nat.xor_mod_two_pow (a := a) (b := b) (n := 1); simpa using this
    rw [← d1, ← d2, ← d3] at h
    have z00 : (0 : Nat) &&& 0 = 0 := rfl
    have z01 : (0 : Nat) &&& 1 = 0 := rfl
    have z10 : (1 : Nat) &&& 0 = 0 := rfl
    have z11 : (1 : Nat) &&& 1 = 1 := rfl
    have o00 : (0 : Nat) ||| 0 = 0 := rfl
    have o01 : (0 : Nat) ||| 1 = 1 := rfl
    have o10 : (1 : Nat) ||| 0 = 1 := rfl
    have o11 : (1 : Nat) ||| 1 = 1 := rfl
    have x00 : (0 : Nat) ^^^ 0 = 0 := rfl
    have x01 : (0 : Nat) ^^^ 1 = 1 := rfl
    have x10 : (1 : Nat) ^^^ 0 = 1 := rfl
    have x11 : (1 : Nat) ^^^ 1 = 0 := rfl
    have pa : a % 2 = 0 ∨ a % 2 = 1 := by omega
    have pb : b % 2 = 0 ∨ b % 2 = 1 := by omega
    rcases pa with pa | pa <;> rcases pb with pb | pb <;> rw [pa, pb] at m1 m2 m3 <;> simp only [z00, z01, z10, z11, o00, o01, o10, o11, x00, x01, x10, x11] at m1 m2 m3 <;> omega
theorem and_or_sum (a b : Int) (h0 : 0 ≤ a) (h1 : a < 4294967296) (k0 : 0 ≤ b) (k1 : b < 4294967296) : ((bits .and .u32 a b + bits .or .u32 a b) % 4294967296 == (a + b) % 4294967296) = true := by
  obtain ⟨a, rfl⟩ := Int.eq_ofNat_of_zero_le h0
  obtain ⟨b, rfl⟩ := Int.eq_ofNat_of_zero_le k0
  rw [and_nat a b (by omega) (by omega), or_nat a b (by omega) (by omega), beq_iff_eq]
  have := (nat_sum 32 a b (by omega) (by omega)).1
  omega
theorem xor_diff (a b : Int) (h0 : 0 ≤ a) (h1 : a < 4294967296) (k0 : 0 ≤ b) (k1 : b < 4294967296) : (bits .xor .u32 a b == (bits .or .u32 a b - bits .and .u32 a b) % 4294967296) = true := by
  obtain ⟨a, rfl⟩ := Int.eq_ofNat_of_zero_le h0
  obtain ⟨b, rfl⟩ := Int.eq_ofNat_of_zero_le k0
  rw [and_nat a b (by omega) (by omega), or_nat a b (by omega) (by omega), xor_nat a b (by omega) (by omega), beq_iff_eq]
  have h := (nat_sum 32 a b (by omega) (by omega)).2
  have hl : a ^^^ b < 2 ^ 32 := Nat.xor_lt_two_pow (by omega) (by omega)
  omega

set_option maxRecDepth 100000 in
set_option maxHeartbeats 2000000 in
theorem bits_case_00 (a0 a1 a2 : Int) (fc fp fa fz fs fo : Bool) (b0 : 0 ≤ a0 ∧ a0 ≤ 4294967295) (b1 : 0 ≤ a1 ∧ a1 ≤ 4294967295) (b2 : 0 ≤ a2 ∧ a2 ≤ 255)
    (r1 : 0 ≤ bits .and .u32 a0 a1 ∧ bits .and .u32 a0 a1 < 4294967296) (r2 : 0 ≤ bits .or .u32 a0 a1 ∧ bits .or .u32 a0 a1 < 4294967296) (r3 : 0 ≤ bits .xor .u32 a0 a1 ∧ bits .xor .u32 a0 a1 < 4294967296)
    (hP : (bits .and .u32 (a0 / 2 ^ (a2 % 32).toNat) 1 == 1) = false) (hQ : (bits .and .u32 (a1 / 2 ^ (a2 % 32).toNat) 1 == 1) = false) (h1 : (bits .and .u32 (bits .and .u32 a0 a1 / 2 ^ (a2 % 32).toNat) 1 == 1) = false) (h2 : (bits .and .u32 (bits .or .u32 a0 a1 / 2 ^ (a2 % 32).toNat) 1 == 1) = false) (h3 : (bits .and .u32 (bits .xor .u32 a0 a1 / 2 ^ (a2 % 32).toNat) 1 == 1) = false)
    (g4 : ((bits .and .u32 a0 a1 + bits .or .u32 a0 a1) % 4294967296 == (a0 + a1) % 4294967296) = true) (g5 : (bits .xor .u32 a0 a1 == (bits .or .u32 a0 a1 - bits .and .u32 a0 a1) % 4294967296) = true) (w : World) :
    Calls Try.prog 10 #[.int .u32 a0, .int .u32 a1, .int .u8 a2, .agg #[.bool fc, .bool fp, .bool fa, .bool fz, .bool fs, .bool fo]] w fun e w' => e = .returned (.bool true) ∧ Below w.heap.size w w' := by
  have hk : 0 ≤ a2 % 32 ∧ a2 % 32 < 32 := by omega
  go_enter Try.func10, Try.ntmps10
  go_wp2_with fail
  refine (known8 _).mono ?_; rintro e w1 ⟨rfl, hb1⟩
  have B1 : Below w.heap.size w w1 := below_then (by repeat (first | exact below_refl _ | apply below_alloc | apply below_drew)) hb1
  have R_f := row_keep hb1 (by repeat (first | exact row_new _ _ _ | apply row_alloc | apply row_drew))
  clear hb1
  obtain ⟨l_f, c_f0, c_f1, c_f2, c_f3, c_f4, c_f5⟩ := row6 R_f
  go_wp2_with fail
  refine (do_OAnd _ _ _ _ _ _ _ _ (by omega) (by omega) (by omega) (by omega) _).mono ?_; rintro e w2 ⟨rfl, hb2⟩
  have B2 : Below w.heap.size w w2 := below_then (by repeat (first | exact B1 | apply below_alloc | apply below_drew)) hb2
  clear l_f c_f0 c_f1 c_f2 c_f3 c_f4 c_f5
  replace R_f := row_keep hb2 (by repeat (first | exact R_f | apply row_alloc | apply row_drew))
  clear hb2 B1
  obtain ⟨l_f, c_f0, c_f1, c_f2, c_f3, c_f4, c_f5⟩ := row6 R_f
  go_wp2_with fail
  refine (do_OOr _ _ _ _ _ _ _ _ (by omega) (by omega) (by omega) (by omega) _).mono ?_; rintro e w3 ⟨rfl, hb3⟩
  have B3 : Below w.heap.size w w3 := below_then (by repeat (first | exact B2 | apply below_alloc | apply below_drew)) hb3
  clear l_f c_f0 c_f1 c_f2 c_f3 c_f4 c_f5
  replace R_f := row_keep hb3 (by repeat (first | exact R_f | apply row_alloc | apply row_drew))
  have R_g := row_keep hb3 (by repeat (first | exact row_new _ _ _ | apply row_alloc | apply row_drew))
  clear hb3 B2
  obtain ⟨l_f, c_f0, c_f1, c_f2, c_f3, c_f4, c_f5⟩ := row6 R_f
  obtain ⟨l_g, c_g0, c_g1, c_g2, c_g3, c_g4, c_g5⟩ := row6 R_g
  go_wp2_with fail
  refine (do_OXor _ _ _ _ _ _ _ _ (by omega) (by omega) (by omega) (by omega) _).mono ?_; rintro e w4 ⟨rfl, hb4⟩
  have B4 : Below w.heap.size w w4 := below_then (by repeat (first | exact B3 | apply below_alloc | apply below_drew)) hb4
  clear l_f c_f0 c_f1 c_f2 c_f3 c_f4 c_f5
  replace R_f := row_keep hb4 (by repeat (first | exact R_f | apply row_alloc | apply row_drew))
  clear l_g c_g0 c_g1 c_g2 c_g3 c_g4 c_g5
  replace R_g := row_keep hb4 (by repeat (first | exact R_g | apply row_alloc | apply row_drew))
  have R_h := row_keep hb4 (by repeat (first | exact row_new _ _ _ | apply row_alloc | apply row_drew))
  clear hb4 B3
  obtain ⟨l_f, c_f0, c_f1, c_f2, c_f3, c_f4, c_f5⟩ := row6 R_f
  obtain ⟨l_g, c_g0, c_g1, c_g2, c_g3, c_g4, c_g5⟩ := row6 R_g
  obtain ⟨l_h, c_h0, c_h1, c_h2, c_h3, c_h4, c_h5⟩ := row6 R_h
  go_wp2_with fail
  refine (do_OTest _ _ _ _ _ _ _ _ (by omega) (by omega) (by omega) (by omega) _).mono ?_; rintro e w5 ⟨rfl, hb5⟩
  have B5 : Below w.heap.size w w5 := below_then (by repeat (first | exact B4 | apply below_alloc | apply below_drew)) hb5
  clear l_f c_f0 c_f1 c_f2 c_f3 c_f4 c_f5
  replace R_f := row_keep hb5 (by repeat (first | exact R_f | apply row_alloc | apply row_drew))
  clear l_g c_g0 c_g1 c_g2 c_g3 c_g4 c_g5
  replace R_g := row_keep hb5 (by repeat (first | exact R_g | apply row_alloc | apply row_drew))
  clear l_h c_h0 c_h1 c_h2 c_h3 c_h4 c_h5
  replace R_h := row_keep hb5 (by repeat (first | exact R_h | apply row_alloc | apply row_drew))
  have R_i := row_keep hb5 (by repeat (first | exact row_new _ _ _ | apply row_alloc | apply row_drew))
  clear hb5 B4
  obtain ⟨l_f, c_f0, c_f1, c_f2, c_f3, c_f4, c_f5⟩ := row6 R_f
  obtain ⟨l_g, c_g0, c_g1, c_g2, c_g3, c_g4, c_g5⟩ := row6 R_g
  obtain ⟨l_h, c_h0, c_h1, c_h2, c_h3, c_h4, c_h5⟩ := row6 R_h
  obtain ⟨l_i, c_i0, c_i1, c_i2, c_i3, c_i4, c_i5⟩ := row6 R_i
  go_wp2_with fail
  go_ret
  exact ⟨rfl, by repeat (first | exact B5 | exact below_refl _ | apply below_alloc | apply below_drew)⟩

set_option maxRecDepth 100000 in
set_option maxHeartbeats 2000000 in
theorem bits_case_01 (a0 a1 a2 : Int) (fc fp fa fz fs fo : Bool) (b0 : 0 ≤ a0 ∧ a0 ≤ 4294967295) (b1 : 0 ≤ a1 ∧ a1 ≤ 4294967295) (b2 : 0 ≤ a2 ∧ a2 ≤ 255)
    (r1 : 0 ≤ bits .and .u32 a0 a1 ∧ bits .and .u32 a0 a1 < 4294967296) (r2 : 0 ≤ bits .or .u32 a0 a1 ∧ bits .or .u32 a0 a1 < 4294967296) (r3 : 0 ≤ bits .xor .u32 a0 a1 ∧ bits .xor .u32 a0 a1 < 4294967296)
    (hP : (bits .and .u32 (a0 / 2 ^ (a2 % 32).toNat) 1 == 1) = false) (hQ : (bits .and .u32 (a1 / 2 ^ (a2 % 32).toNat) 1 == 1) = true) (h1 : (bits .and .u32 (bits .and .u32 a0 a1 / 2 ^ (a2 % 32).toNat) 1 == 1) = false) (h2 : (bits .and .u32 (bits .or .u32 a0 a1 / 2 ^ (a2 % 32).toNat) 1 == 1) = true) (h3 : (bits .and .u32 (bits .xor .u32 a0 a1 / 2 ^ (a2 % 32).toNat) 1 == 1) = true)
    (g4 : ((bits .and .u32 a0 a1 + bits .or .u32 a0 a1) % 4294967296 == (a0 + a1) % 4294967296) = true) (g5 : (bits .xor .u32 a0 a1 == (bits .or .u32 a0 a1 - bits .and .u32 a0 a1) % 4294967296) = true) (w : World) :
    Calls Try.prog 10 #[.int .u32 a0, .int .u32 a1, .int .u8 a2, .agg #[.bool fc, .bool fp, .bool fa, .bool fz, .bool fs, .bool fo]] w fun e w' => e = .returned (.bool true) ∧ Below w.heap.size w w' := by
  have hk : 0 ≤ a2 % 32 ∧ a2 % 32 < 32 := by omega
  go_enter Try.func10, Try.ntmps10
  go_wp2_with fail
  refine (known8 _).mono ?_; rintro e w1 ⟨rfl, hb1⟩
  have B1 : Below w.heap.size w w1 := below_then (by repeat (first | exact below_refl _ | apply below_alloc | apply below_drew)) hb1
  have R_f := row_keep hb1 (by repeat (first | exact row_new _ _ _ | apply row_alloc | apply row_drew))
  clear hb1
  obtain ⟨l_f, c_f0, c_f1, c_f2, c_f3, c_f4, c_f5⟩ := row6 R_f
  go_wp2_with fail
  refine (do_OAnd _ _ _ _ _ _ _ _ (by omega) (by omega) (by omega) (by omega) _).mono ?_; rintro e w2 ⟨rfl, hb2⟩
  have B2 : Below w.heap.size w w2 := below_then (by repeat (first | exact B1 | apply below_alloc | apply below_drew)) hb2
  clear l_f c_f0 c_f1 c_f2 c_f3 c_f4 c_f5
  replace R_f := row_keep hb2 (by repeat (first | exact R_f | apply row_alloc | apply row_drew))
  clear hb2 B1
  obtain ⟨l_f, c_f0, c_f1, c_f2, c_f3, c_f4, c_f5⟩ := row6 R_f
  go_wp2_with fail
  refine (do_OOr _ _ _ _ _ _ _ _ (by omega) (by omega) (by omega) (by omega) _).mono ?_; rintro e w3 ⟨rfl, hb3⟩
  have B3 : Below w.heap.size w w3 := below_then (by repeat (first | exact B2 | apply below_alloc | apply below_drew)) hb3
  clear l_f c_f0 c_f1 c_f2 c_f3 c_f4 c_f5
  replace R_f := row_keep hb3 (by repeat (first | exact R_f | apply row_alloc | apply row_drew))
  have R_g := row_keep hb3 (by repeat (first | exact row_new _ _ _ | apply row_alloc | apply row_drew))
  clear hb3 B2
  obtain ⟨l_f, c_f0, c_f1, c_f2, c_f3, c_f4, c_f5⟩ := row6 R_f
  obtain ⟨l_g, c_g0, c_g1, c_g2, c_g3, c_g4, c_g5⟩ := row6 R_g
  go_wp2_with fail
  refine (do_OXor _ _ _ _ _ _ _ _ (by omega) (by omega) (by omega) (by omega) _).mono ?_; rintro e w4 ⟨rfl, hb4⟩
  have B4 : Below w.heap.size w w4 := below_then (by repeat (first | exact B3 | apply below_alloc | apply below_drew)) hb4
  clear l_f c_f0 c_f1 c_f2 c_f3 c_f4 c_f5
  replace R_f := row_keep hb4 (by repeat (first | exact R_f | apply row_alloc | apply row_drew))
  clear l_g c_g0 c_g1 c_g2 c_g3 c_g4 c_g5
  replace R_g := row_keep hb4 (by repeat (first | exact R_g | apply row_alloc | apply row_drew))
  have R_h := row_keep hb4 (by repeat (first | exact row_new _ _ _ | apply row_alloc | apply row_drew))
  clear hb4 B3
  obtain ⟨l_f, c_f0, c_f1, c_f2, c_f3, c_f4, c_f5⟩ := row6 R_f
  obtain ⟨l_g, c_g0, c_g1, c_g2, c_g3, c_g4, c_g5⟩ := row6 R_g
  obtain ⟨l_h, c_h0, c_h1, c_h2, c_h3, c_h4, c_h5⟩ := row6 R_h
  go_wp2_with fail
  refine (do_OTest _ _ _ _ _ _ _ _ (by omega) (by omega) (by omega) (by omega) _).mono ?_; rintro e w5 ⟨rfl, hb5⟩
  have B5 : Below w.heap.size w w5 := below_then (by repeat (first | exact B4 | apply below_alloc | apply below_drew)) hb5
  clear l_f c_f0 c_f1 c_f2 c_f3 c_f4 c_f5
  replace R_f := row_keep hb5 (by repeat (first | exact R_f | apply row_alloc | apply row_drew))
  clear l_g c_g0 c_g1 c_g2 c_g3 c_g4 c_g5
  replace R_g := row_keep hb5 (by repeat (first | exact R_g | apply row_alloc | apply row_drew))
  clear l_h c_h0 c_h1 c_h2 c_h3 c_h4 c_h5
  replace R_h := row_keep hb5 (by repeat (first | exact R_h | apply row_alloc | apply row_drew))
  have R_i := row_keep hb5 (by repeat (first | exact row_new _ _ _ | apply row_alloc | apply row_drew))
  clear hb5 B4
  obtain ⟨l_f, c_f0, c_f1, c_f2, c_f3, c_f4, c_f5⟩ := row6 R_f
  obtain ⟨l_g, c_g0, c_g1, c_g2, c_g3, c_g4, c_g5⟩ := row6 R_g
  obtain ⟨l_h, c_h0, c_h1, c_h2, c_h3, c_h4, c_h5⟩ := row6 R_h
  obtain ⟨l_i, c_i0, c_i1, c_i2, c_i3, c_i4, c_i5⟩ := row6 R_i
  go_wp2_with fail
  go_ret
  exact ⟨rfl, by repeat (first | exact B5 | exact below_refl _ | apply below_alloc | apply below_drew)⟩

set_option maxRecDepth 100000 in
set_option maxHeartbeats 2000000 in
theorem bits_case_10 (a0 a1 a2 : Int) (fc fp fa fz fs fo : Bool) (b0 : 0 ≤ a0 ∧ a0 ≤ 4294967295) (b1 : 0 ≤ a1 ∧ a1 ≤ 4294967295) (b2 : 0 ≤ a2 ∧ a2 ≤ 255)
    (r1 : 0 ≤ bits .and .u32 a0 a1 ∧ bits .and .u32 a0 a1 < 4294967296) (r2 : 0 ≤ bits .or .u32 a0 a1 ∧ bits .or .u32 a0 a1 < 4294967296) (r3 : 0 ≤ bits .xor .u32 a0 a1 ∧ bits .xor .u32 a0 a1 < 4294967296)
    (hP : (bits .and .u32 (a0 / 2 ^ (a2 % 32).toNat) 1 == 1) = true) (hQ : (bits .and .u32 (a1 / 2 ^ (a2 % 32).toNat) 1 == 1) = false) (h1 : (bits .and .u32 (bits .and .u32 a0 a1 / 2 ^ (a2 % 32).toNat) 1 == 1) = false) (h2 : (bits .and .u32 (bits .or .u32 a0 a1 / 2 ^ (a2 % 32).toNat) 1 == 1) = true) (h3 : (bits .and .u32 (bits .xor .u32 a0 a1 / 2 ^ (a2 % 32).toNat) 1 == 1) = true)
    (g4 : ((bits .and .u32 a0 a1 + bits .or .u32 a0 a1) % 4294967296 == (a0 + a1) % 4294967296) = true) (g5 : (bits .xor .u32 a0 a1 == (bits .or .u32 a0 a1 - bits .and .u32 a0 a1) % 4294967296) = true) (w : World) :
    Calls Try.prog 10 #[.int .u32 a0, .int .u32 a1, .int .u8 a2, .agg #[.bool fc, .bool fp, .bool fa, .bool fz, .bool fs, .bool fo]] w fun e w' => e = .returned (.bool true) ∧ Below w.heap.size w w' := by
  have hk : 0 ≤ a2 % 32 ∧ a2 % 32 < 32 := by omega
  go_enter Try.func10, Try.ntmps10
  go_wp2_with fail
  refine (known8 _).mono ?_; rintro e w1 ⟨rfl, hb1⟩
  have B1 : Below w.heap.size w w1 := below_then (by repeat (first | exact below_refl _ | apply below_alloc | apply below_drew)) hb1
  have R_f := row_keep hb1 (by repeat (first | exact row_new _ _ _ | apply row_alloc | apply row_drew))
  clear hb1
  obtain ⟨l_f, c_f0, c_f1, c_f2, c_f3, c_f4, c_f5⟩ := row6 R_f
  go_wp2_with fail
  refine (do_OAnd _ _ _ _ _ _ _ _ (by omega) (by omega) (by omega) (by omega) _).mono ?_; rintro e w2 ⟨rfl, hb2⟩
  have B2 : Below w.heap.size w w2 := below_then (by repeat (first | exact B1 | apply below_alloc | apply below_drew)) hb2
  clear l_f c_f0 c_f1 c_f2 c_f3 c_f4 c_f5
  replace R_f := row_keep hb2 (by repeat (first | exact R_f | apply row_alloc | apply row_drew))
  clear hb2 B1
  obtain ⟨l_f, c_f0, c_f1, c_f2, c_f3, c_f4, c_f5⟩ := row6 R_f
  go_wp2_with fail
  refine (do_OOr _ _ _ _ _ _ _ _ (by omega) (by omega) (by omega) (by omega) _).mono ?_; rintro e w3 ⟨rfl, hb3⟩
  have B3 : Below w.heap.size w w3 := below_then (by repeat (first | exact B2 | apply below_alloc | apply below_drew)) hb3
  clear l_f c_f0 c_f1 c_f2 c_f3 c_f4 c_f5
  replace R_f := row_keep hb3 (by repeat (first | exact R_f | apply row_alloc | apply row_drew))
  have R_g := row_keep hb3 (by repeat (first | exact row_new _ _ _ | apply row_alloc | apply row_drew))
  clear hb3 B2
  obtain ⟨l_f, c_f0, c_f1, c_f2, c_f3, c_f4, c_f5⟩ := row6 R_f
  obtain ⟨l_g, c_g0, c_g1, c_g2, c_g3, c_g4, c_g5⟩ := row6 R_g
  go_wp2_with fail
  refine (do_OXor _ _ _ _ _ _ _ _ (by omega) (by omega) (by omega) (by omega) _).mono ?_; rintro e w4 ⟨rfl, hb4⟩
  have B4 : Below w.heap.size w w4 := below_then (by repeat (first | exact B3 | apply below_alloc | apply below_drew)) hb4
  clear l_f c_f0 c_f1 c_f2 c_f3 c_f4 c_f5
  replace R_f := row_keep hb4 (by repeat (first | exact R_f | apply row_alloc | apply row_drew))
  clear l_g c_g0 c_g1 c_g2 c_g3 c_g4 c_g5
  replace R_g := row_keep hb4 (by repeat (first | exact R_g | apply row_alloc | apply row_drew))
  have R_h := row_keep hb4 (by repeat (first | exact row_new _ _ _ | apply row_alloc | apply row_drew))
  clear hb4 B3
  obtain ⟨l_f, c_f0, c_f1, c_f2, c_f3, c_f4, c_f5⟩ := row6 R_f
  obtain ⟨l_g, c_g0, c_g1, c_g2, c_g3, c_g4, c_g5⟩ := row6 R_g
  obtain ⟨l_h, c_h0, c_h1, c_h2, c_h3, c_h4, c_h5⟩ := row6 R_h
  go_wp2_with fail
  refine (do_OTest _ _ _ _ _ _ _ _ (by omega) (by omega) (by omega) (by omega) _).mono ?_; rintro e w5 ⟨rfl, hb5⟩
  have B5 : Below w.heap.size w w5 := below_then (by repeat (first | exact B4 | apply below_alloc | apply below_drew)) hb5
  clear l_f c_f0 c_f1 c_f2 c_f3 c_f4 c_f5
  replace R_f := row_keep hb5 (by repeat (first | exact R_f | apply row_alloc | apply row_drew))
  clear l_g c_g0 c_g1 c_g2 c_g3 c_g4 c_g5
  replace R_g := row_keep hb5 (by repeat (first | exact R_g | apply row_alloc | apply row_drew))
  clear l_h c_h0 c_h1 c_h2 c_h3 c_h4 c_h5
  replace R_h := row_keep hb5 (by repeat (first | exact R_h | apply row_alloc | apply row_drew))
  have R_i := row_keep hb5 (by repeat (first | exact row_new _ _ _ | apply row_alloc | apply row_drew))
  clear hb5 B4
  obtain ⟨l_f, c_f0, c_f1, c_f2, c_f3, c_f4, c_f5⟩ := row6 R_f
  obtain ⟨l_g, c_g0, c_g1, c_g2, c_g3, c_g4, c_g5⟩ := row6 R_g
  obtain ⟨l_h, c_h0, c_h1, c_h2, c_h3, c_h4, c_h5⟩ := row6 R_h
  obtain ⟨l_i, c_i0, c_i1, c_i2, c_i3, c_i4, c_i5⟩ := row6 R_i
  go_wp2_with fail
  go_ret
  exact ⟨rfl, by repeat (first | exact B5 | exact below_refl _ | apply below_alloc | apply below_drew)⟩

set_option maxRecDepth 100000 in
set_option maxHeartbeats 2000000 in
theorem bits_case_11 (a0 a1 a2 : Int) (fc fp fa fz fs fo : Bool) (b0 : 0 ≤ a0 ∧ a0 ≤ 4294967295) (b1 : 0 ≤ a1 ∧ a1 ≤ 4294967295) (b2 : 0 ≤ a2 ∧ a2 ≤ 255)
    (r1 : 0 ≤ bits .and .u32 a0 a1 ∧ bits .and .u32 a0 a1 < 4294967296) (r2 : 0 ≤ bits .or .u32 a0 a1 ∧ bits .or .u32 a0 a1 < 4294967296) (r3 : 0 ≤ bits .xor .u32 a0 a1 ∧ bits .xor .u32 a0 a1 < 4294967296)
    (hP : (bits .and .u32 (a0 / 2 ^ (a2 % 32).toNat) 1 == 1) = true) (hQ : (bits .and .u32 (a1 / 2 ^ (a2 % 32).toNat) 1 == 1) = true) (h1 : (bits .and .u32 (bits .and .u32 a0 a1 / 2 ^ (a2 % 32).toNat) 1 == 1) = true) (h2 : (bits .and .u32 (bits .or .u32 a0 a1 / 2 ^ (a2 % 32).toNat) 1 == 1) = true) (h3 : (bits .and .u32 (bits .xor .u32 a0 a1 / 2 ^ (a2 % 32).toNat) 1 == 1) = false)
    (g4 : ((bits .and .u32 a0 a1 + bits .or .u32 a0 a1) % 4294967296 == (a0 + a1) % 4294967296) = true) (g5 : (bits .xor .u32 a0 a1 == (bits .or .u32 a0 a1 - bits .and .u32 a0 a1) % 4294967296) = true) (w : World) :
    Calls Try.prog 10 #[.int .u32 a0, .int .u32 a1, .int .u8 a2, .agg #[.bool fc, .bool fp, .bool fa, .bool fz, .bool fs, .bool fo]] w fun e w' => e = .returned (.bool true) ∧ Below w.heap.size w w' := by
  have hk : 0 ≤ a2 % 32 ∧ a2 % 32 < 32 := by omega
  go_enter Try.func10, Try.ntmps10
  go_wp2_with fail
  refine (known8 _).mono ?_; rintro e w1 ⟨rfl, hb1⟩
  have B1 : Below w.heap.size w w1 := below_then (by repeat (first | exact below_refl _ | apply below_alloc | apply below_drew)) hb1
  have R_f := row_keep hb1 (by repeat (first | exact row_new _ _ _ | apply row_alloc | apply row_drew))
  clear hb1
  obtain ⟨l_f, c_f0, c_f1, c_f2, c_f3, c_f4, c_f5⟩ := row6 R_f
  go_wp2_with fail
  refine (do_OAnd _ _ _ _ _ _ _ _ (by omega) (by omega) (by omega) (by omega) _).mono ?_; rintro e w2 ⟨rfl, hb2⟩
  have B2 : Below w.heap.size w w2 := below_then (by repeat (first | exact B1 | apply below_alloc | apply below_drew)) hb2
  clear l_f c_f0 c_f1 c_f2 c_f3 c_f4 c_f5
  replace R_f := row_keep hb2 (by repeat (first | exact R_f | apply row_alloc | apply row_drew))
  clear hb2 B1
  obtain ⟨l_f, c_f0, c_f1, c_f2, c_f3, c_f4, c_f5⟩ := row6 R_f
  go_wp2_with fail
  refine (do_OOr _ _ _ _ _ _ _ _ (by omega) (by omega) (by omega) (by omega) _).mono ?_; rintro e w3 ⟨rfl, hb3⟩
  have B3 : Below w.heap.size w w3 := below_then (by repeat (first | exact B2 | apply below_alloc | apply below_drew)) hb3
  clear l_f c_f0 c_f1 c_f2 c_f3 c_f4 c_f5
  replace R_f := row_keep hb3 (by repeat (first | exact R_f | apply row_alloc | apply row_drew))
  have R_g := row_keep hb3 (by repeat (first | exact row_new _ _ _ | apply row_alloc | apply row_drew))
  clear hb3 B2
  obtain ⟨l_f, c_f0, c_f1, c_f2, c_f3, c_f4, c_f5⟩ := row6 R_f
  obtain ⟨l_g, c_g0, c_g1, c_g2, c_g3, c_g4, c_g5⟩ := row6 R_g
  go_wp2_with fail
  refine (do_OXor _ _ _ _ _ _ _ _ (by omega) (by omega) (by omega) (by omega) _).mono ?_; rintro e w4 ⟨rfl, hb4⟩
  have B4 : Below w.heap.size w w4 := below_then (by repeat (first | exact B3 | apply below_alloc | apply below_drew)) hb4
  clear l_f c_f0 c_f1 c_f2 c_f3 c_f4 c_f5
  replace R_f := row_keep hb4 (by repeat (first | exact R_f | apply row_alloc | apply row_drew))
  clear l_g c_g0 c_g1 c_g2 c_g3 c_g4 c_g5
  replace R_g := row_keep hb4 (by repeat (first | exact R_g | apply row_alloc | apply row_drew))
  have R_h := row_keep hb4 (by repeat (first | exact row_new _ _ _ | apply row_alloc | apply row_drew))
  clear hb4 B3
  obtain ⟨l_f, c_f0, c_f1, c_f2, c_f3, c_f4, c_f5⟩ := row6 R_f
  obtain ⟨l_g, c_g0, c_g1, c_g2, c_g3, c_g4, c_g5⟩ := row6 R_g
  obtain ⟨l_h, c_h0, c_h1, c_h2, c_h3, c_h4, c_h5⟩ := row6 R_h
  go_wp2_with fail
  refine (do_OTest _ _ _ _ _ _ _ _ (by omega) (by omega) (by omega) (by omega) _).mono ?_; rintro e w5 ⟨rfl, hb5⟩
  have B5 : Below w.heap.size w w5 := below_then (by repeat (first | exact B4 | apply below_alloc | apply below_drew)) hb5
  clear l_f c_f0 c_f1 c_f2 c_f3 c_f4 c_f5
  replace R_f := row_keep hb5 (by repeat (first | exact R_f | apply row_alloc | apply row_drew))
  clear l_g c_g0 c_g1 c_g2 c_g3 c_g4 c_g5
  replace R_g := row_keep hb5 (by repeat (first | exact R_g | apply row_alloc | apply row_drew))
  clear l_h c_h0 c_h1 c_h2 c_h3 c_h4 c_h5
  replace R_h := row_keep hb5 (by repeat (first | exact R_h | apply row_alloc | apply row_drew))
  have R_i := row_keep hb5 (by repeat (first | exact row_new _ _ _ | apply row_alloc | apply row_drew))
  clear hb5 B4
  obtain ⟨l_f, c_f0, c_f1, c_f2, c_f3, c_f4, c_f5⟩ := row6 R_f
  obtain ⟨l_g, c_g0, c_g1, c_g2, c_g3, c_g4, c_g5⟩ := row6 R_g
  obtain ⟨l_h, c_h0, c_h1, c_h2, c_h3, c_h4, c_h5⟩ := row6 R_h
  obtain ⟨l_i, c_i0, c_i1, c_i2, c_i3, c_i4, c_i5⟩ := row6 R_i
  go_wp2_with fail
  go_ret
  exact ⟨rfl, by repeat (first | exact B5 | exact below_refl _ | apply below_alloc | apply below_drew)⟩

set_option maxRecDepth 100000 in
set_option maxHeartbeats 1000000 in
theorem AluBits_walk (a0 a1 a2 : Int) (fc fp fa fz fs fo : Bool) (w0 : (Lit.int .u32 a0).wf = true) (w1 : (Lit.int .u32 a1).wf = true) (w2 : (Lit.int .u8 a2).wf = true) (w : World) :
    Calls Try.prog 10 #[.int .u32 a0, .int .u32 a1, .int .u8 a2, .agg #[.bool fc, .bool fp, .bool fa, .bool fz, .bool fs, .bool fo]] w fun e w' => e = .returned (.bool true) ∧ Below w.heap.size w w' := by
  have b0 := bounds_u32 w0
  have b1 := bounds_u32 w1
  have b2 := bounds_u8 w2
  clear w0 w1 w2
  have r1 := bits_u32_bd .and a0 a1
  have r2 := bits_u32_bd .or a0 a1
  have r3 := bits_u32_bd .xor a0 a1
  have hk : 0 ≤ a2 % 32 ∧ a2 % 32 < 32 := by omega
  have f1 := and_one (bits .and .u32 a0 a1) (a2 % 32) r1.1 r1.2
  have f2 := and_one (bits .or .u32 a0 a1) (a2 % 32) r2.1 r2.2
  have f3 := and_one (bits .xor .u32 a0 a1) (a2 % 32) r3.1 r3.2
  have f4 := and_one a0 (a2 % 32) b0.1 (by omega)
  have f5 := and_one a1 (a2 % 32) b1.1 (by omega)
  have g1 := bit_and a0 a1 (a2 % 32).toNat b0.1 (by omega) b1.1 (by omega)
  have g2 := bit_or a0 a1 (a2 % 32).toNat b0.1 (by omega) b1.1 (by omega)
  have g3 := bit_xor a0 a1 (a2 % 32).toNat b0.1 (by omega) b1.1 (by omega)
  rw [← f1, ← f4, ← f5] at g1
  rw [← f2, ← f4, ← f5] at g2
  rw [← f3, ← f4, ← f5] at g3
  have g4 := and_or_sum a0 a1 b0.1 (by omega) b1.1 (by omega)
  have g5 := xor_diff a0 a1 b0.1 (by omega) b1.1 (by omega)
  clear f1 f2 f3 f4 f5
  rcases hP : (bits .and .u32 (a0 / 2 ^ (a2 % 32).toNat) 1 == 1) with _ | _ <;> rcases hQ : (bits .and .u32 (a1 / 2 ^ (a2 % 32).toNat) 1 == 1) with _ | _
  · exact bits_case_00 a0 a1 a2 fc fp fa fz fs fo b0 b1 b2 r1 r2 r3 hP hQ (by rw [g1, hP, hQ]; rfl) (by rw [g2, hP, hQ]; rfl) (by rw [g3, hP, hQ]; rfl) g4 g5 w
  · exact bits_case_01 a0 a1 a2 fc fp fa fz fs fo b0 b1 b2 r1 r2 r3 hP hQ (by rw [g1, hP, hQ]; rfl) (by rw [g2, hP, hQ]; rfl) (by rw [g3, hP, hQ]; rfl) g4 g5 w
  · exact bits_case_10 a0 a1 a2 fc fp fa fz fs fo b0 b1 b2 r1 r2 r3 hP hQ (by rw [g1, hP, hQ]; rfl) (by rw [g2, hP, hQ]; rfl) (by rw [g3, hP, hQ]; rfl) g4 g5 w
  · exact bits_case_11 a0 a1 a2 fc fp fa fz fs fo b0 b1 b2 r1 r2 r3 hP hQ (by rw [g1, hP, hQ]; rfl) (by rw [g2, hP, hQ]; rfl) (by rw [g3, hP, hQ]; rfl) g4 g5 w

end Go.Proofs.Ytepllnaopainpaa
