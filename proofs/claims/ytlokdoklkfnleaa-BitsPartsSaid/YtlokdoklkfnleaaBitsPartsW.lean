/- The walk of the law BitsParts. -/
import Derived.Test.YtlokdoklkfnleaaBitsKnown
namespace Go.Proofs.Ytlokdoklkfnleaa
open Go.ChangeShapes Go.WideShapes Go.ChangeAt Go.RowKit
set_option linter.unusedVariables false

theorem xor_low (x c : Nat) (hx : x < 4294967296) (hc : c < 4) : bits .xor .u32 (x : Int) (c : Int) = ((x / 4 * 4 + (x % 4 ^^^ c) : Nat) : Int) := by
  have h1 : (BitVec.ofInt 32 (x : Int)).toNat = x := by
    rw [BitVec.ofInt_natCast, BitVec.toNat_ofNat]; exact Nat.mod_eq_of_lt (by omega)
  have h2 : (BitVec.ofInt 32 (c : Int)).toNat = c := by
    rw [BitVec.ofInt_natCast, BitVec.toNat_ofNat]; exact Nat.mod_eq_of_lt (by omega)
  show IntKind.u32.wrap ((BitVec.ofInt 32 (x : Int) ^^^ BitVec.ofInt 32 (c : Int)).toNat : Int) = _
  have hb : x ^^^ c < 2 ^ 32 := Nat.xor_lt_two_pow (by omega) (by omega)
  rw [BitVec.toNat_xor, h1, h2, IntKind.wrap_u32']
  have e1 : (x ^^^ c) / 4 = x / 4 := by
    have := Nat.xor_div_two_pow (a := x) (b := c) (n := 2)
    rw [show (2 ^ 2 : Nat) = 4 by decide, show c / 4 = 0 by omega] at this
    simpa using this
  have e2 : (x ^^^ c) % 4 = x % 4 ^^^ c := by
    have := Nat.xor_mod_two_pow (a := x) (b := c) (n := 2)
    rw [show (2 ^ 2 : Nat) = 4 by decide, show c % 4 = c by omega] at this
    exact this
  omega

theorem par_bits (x : Int) : par x = !(((((((((false != (x / 1 % 2 == 1)) != (x / 2 % 2 == 1)) != (x / 4 % 2 == 1)) != (x / 8 % 2 == 1)) != (x / 16 % 2 == 1)) != (x / 32 % 2 == 1)) != (x / 64 % 2 == 1)) != (x / 128 % 2 == 1))) := rfl

theorem par_xor (x c : Nat) (hx : x < 4294967296) (hc : c < 4) : par (bits .xor .u32 (x : Int) (c : Int)) = (par x != (((c : Int) % 2 == 1) != ((c : Int) / 2 % 2 == 1))) := by
  rw [xor_low x c hx hc]
  have hr : x % 4 = 0 ∨ x % 4 = 1 ∨ x % 4 = 2 ∨ x % 4 = 3 := by omega
  have hs : c = 0 ∨ c = 1 ∨ c = 2 ∨ c = 3 := by omega
  have hy : (x % 4 ^^^ c) < 4 := by rcases hr with h | h | h | h <;> rcases hs with g | g | g | g <;> rw [h, g] <;> decide
  have h0 : ((x / 4 * 4 + (x % 4 ^^^ c) : Nat) : Int) / 1 % 2 = (x % 4 ^^^ c : Nat) % 2 := by omega
  have h1 : ((x / 4 * 4 + (x % 4 ^^^ c) : Nat) : Int) / 2 % 2 = (x % 4 ^^^ c : Nat) / 2 := by omega
  have h2 : ((x / 4 * 4 + (x % 4 ^^^ c) : Nat) : Int) / 4 % 2 = (x : Int) / 4 % 2 := by omega
  have h3 : ((x / 4 * 4 + (x % 4 ^^^ c) : Nat) : Int) / 8 % 2 = (x : Int) / 8 % 2 := by omega
  have h4 : ((x / 4 * 4 + (x % 4 ^^^ c) : Nat) : Int) / 16 % 2 = (x : Int) / 16 % 2 := by omega
  have h5 : ((x / 4 * 4 + (x % 4 ^^^ c) : Nat) : Int) / 32 % 2 = (x : Int) / 32 % 2 := by omega
  have h6 : ((x / 4 * 4 + (x % 4 ^^^ c) : Nat) : Int) / 64 % 2 = (x : Int) / 64 % 2 := by omega
  have h7 : ((x / 4 * 4 + (x % 4 ^^^ c) : Nat) : Int) / 128 % 2 = (x : Int) / 128 % 2 := by omega
  have g0 : (x : Int) / 1 % 2 = (x % 4 : Nat) % 2 := by omega
  have g1 : (x : Int) / 2 % 2 = (x % 4 : Nat) / 2 := by omega
  rw [par_bits, par_bits, h0, h1, h2, h3, h4, h5, h6, h7, g0, g1]
  generalize ((x : Int) / 4 % 2 == 1) = p2
  generalize ((x : Int) / 8 % 2 == 1) = p3
  generalize ((x : Int) / 16 % 2 == 1) = p4
  generalize ((x : Int) / 32 % 2 == 1) = p5
  generalize ((x : Int) / 64 % 2 == 1) = p6
  generalize ((x : Int) / 128 % 2 == 1) = p7
  clear h0 h1 h2 h3 h4 h5 h6 h7 g0 g1 hy
  rcases hr with h | h | h | h <;> rw [h] <;> clear h <;> rcases hs with g | g | g | g <;> subst g <;> revert p2 p3 p4 p5 p6 p7 <;> decide

theorem xor_bd (x c : Nat) (hx : x < 4294967296) (hc : c < 4) : 0 ≤ bits .xor .u32 (x : Int) (c : Int) ∧ bits .xor .u32 (x : Int) (c : Int) < 4294967296 := by
  have hr : x % 4 = 0 ∨ x % 4 = 1 ∨ x % 4 = 2 ∨ x % 4 = 3 := by omega
  have hs : c = 0 ∨ c = 1 ∨ c = 2 ∨ c = 3 := by omega
  have hy : (x % 4 ^^^ c) < 4 := by rcases hr with h | h | h | h <;> rcases hs with g | g | g | g <;> rw [h, g] <;> decide
  rw [xor_low x c hx hc]; omega

theorem sgm_neg (m : Nat) (x : Int) (h1 : 1 ≤ m) : (x / 2 ^ (m - 1) % 2 == 1) = decide (sgm m x < 0) := by
  have hp := pow_pos (m - 1)
  have hs : (2 : Int) ^ m = 2 ^ (m - 1) * 2 := by rw [← Int.pow_succ]; congr 1; omega
  unfold sgm
  rw [hs]
  generalize (2 : Int) ^ (m - 1) = p at hp
  clear hs h1
  have hx := Int.mul_ediv_add_emod x (p * 2)
  have hr0 := Int.emod_nonneg x (show p * 2 ≠ 0 by omega)
  have hr1 := Int.emod_lt_of_pos x (show 0 < p * 2 by omega)
  generalize x / (p * 2) = q at hx
  generalize x % (p * 2) = r at hx hr0 hr1
  subst hx
  have e1 : (p * 2 * q + r) / p = 2 * q + r / p := by
    rw [Int.mul_assoc, Int.add_comm, Int.add_mul_ediv_left _ _ (by omega)]; omega
  have e2 : (p * 2 * q + r + p) % (p * 2) = (r + p) % (p * 2) := by
    rw [Int.add_assoc, Int.add_comm, Int.add_mul_emod_self_left]
  rw [e1, e2, Bool.eq_iff_iff, beq_iff_eq, decide_eq_true_iff]
  by_cases h : r < p
  · rw [Int.ediv_eq_zero_of_lt hr0 h, Int.emod_eq_of_lt (show 0 ≤ r + p by omega) (by omega)]; omega
  · have e3 : r / p = 1 := by
      have : r = (r - p) + p * 1 := by omega
      rw [this, Int.add_mul_ediv_left _ _ (by omega), Int.ediv_eq_zero_of_lt (by omega) (by omega)]; rfl
    have e4 : (r + p) % (p * 2) = r - p := by
      have : r + p = (r - p) + (p * 2) * 1 := by omega
      rw [this, Int.add_mul_emod_self_left, Int.emod_eq_of_lt (by omega) (by omega)]
    rw [e3, e4]; omega

theorem pow_dvd (m n : Nat) (h : m ≤ n) : (2 : Int) ^ m ∣ 2 ^ n := ⟨2 ^ (n - m), by rw [← Int.pow_add]; congr 1; omega⟩

theorem fld_low (x n : Int) (h0 : 0 ≤ n) (h1 : n ≤ 32) : fld x 0 n = x % 2 ^ n.toNat := by
  unfold fld clamp0
  rw [if_neg (by omega), if_neg (by omega), if_neg (by omega), if_neg (by omega)]
  simp
theorem fld_pos (x a n : Int) (ha0 : 0 ≤ a) (ha1 : a < 32) (h0 : 0 ≤ n) (h1 : n ≤ 32) : fld x a n = x / 2 ^ a.toNat % 2 ^ n.toNat := by
  unfold fld clamp0
  rw [if_neg (by omega), if_neg (by omega), if_neg (by omega), if_neg (by omega)]

theorem div_bd (x : Int) (k : Nat) (h0 : 0 ≤ x) (h1 : x < 4294967296) (hk : k ≤ 32) : 0 ≤ x / 2 ^ k ∧ x / 2 ^ k < 2 ^ (32 - k) := by
  have hp := pow_pos k
  have e : (4294967296 : Int) = 2 ^ (32 - k) * 2 ^ k := by rw [← Int.pow_add, show 32 - k + k = 32 by omega]; rfl
  exact ⟨Int.ediv_nonneg h0 (Int.le_of_lt hp), Int.ediv_lt_of_lt_mul hp (by rw [← e]; exact h1)⟩

/-- the two parts together -/
theorem parts_all (x k : Int) (h0 : 0 ≤ x) (h1 : x < 4294967296) (hk0 : 0 ≤ k) (hk1 : k < 32) :
    bits .or .u32 (fld x 0 k) (fld x k (32 - k) * 2 ^ k.toNat % 4294967296) = x := by
  obtain ⟨n, rfl⟩ := Int.eq_ofNat_of_zero_le hk0
  rw [fld_low x _ hk0 (by omega), fld_pos x _ _ hk0 hk1 (by omega) (by omega), Int.toNat_natCast]
  have e : (32 - (n : Int)).toNat = 32 - n := by omega
  have hd := div_bd x n h0 h1 (by omega)
  have hp := pow_pos n
  rw [e, Int.emod_eq_of_lt hd.1 hd.2]
  have hm := Int.mul_ediv_add_emod x (2 ^ n)
  have hm0 := Int.emod_nonneg x (Int.ne_of_gt hp)
  have hm1 := Int.emod_lt_of_pos x hp
  have hc : x / 2 ^ n * 2 ^ n = 2 ^ n * (x / 2 ^ n) := Int.mul_comm _ _
  rw [Int.emod_eq_of_lt (Int.mul_nonneg hd.1 (Int.le_of_lt hp)) (by omega), or_sum _ _ n hm0 hm1 hd.1 (by omega) (by omega)]
  omega

theorem sgm_mod (m : Nat) (x : Int) (h1 : 1 ≤ m) : sgm m x % 2 ^ m = x % 2 ^ m := by
  unfold sgm
  rw [Int.emod_sub_emod]
  congr 1; omega

theorem parts_facts (x n : Int) (h0 : 0 ≤ x) (h1 : x < 4294967296) (hn0 : 1 ≤ n) (hn1 : n ≤ 32) :
    (fld x (n - 1) 1 == 1) = decide (sgn x n < 0) ∧ fld (sgn x n % 4294967296) 0 n = fld x 0 n := by
  obtain ⟨k, rfl⟩ := Int.eq_ofNat_of_zero_le (show 0 ≤ n by omega)
  have hc : clamp1 (k : Int) = k := by unfold clamp1; rw [if_neg (by omega), if_neg (by omega)]; rfl
  constructor
  · rw [fld_pos x _ _ (by omega) (by omega) (by omega) (by omega), show ((k : Int) - 1).toNat = k - 1 by omega]
    have := sgm_neg k x (by omega)
    unfold sgn; rw [hc]; exact this
  · rw [fld_low _ _ (by omega) (by omega), fld_low _ _ (by omega) (by omega)]
    unfold sgn; rw [hc, Int.toNat_natCast]
    rw [Int.emod_emod_of_dvd _ (by have := pow_dvd k 32 (by omega); simpa using this)]
    exact sgm_mod k x (by omega)

theorem parts_par (x : Int) (h0 : 0 ≤ x) (h1 : x < 4294967296) :
    par (bits .xor .u32 x 3) = par x ∧ par (bits .xor .u32 x 1) = !par x ∧ (0 ≤ bits .xor .u32 x 3 ∧ bits .xor .u32 x 3 < 4294967296) ∧ (0 ≤ bits .xor .u32 x 1 ∧ bits .xor .u32 x 1 < 4294967296) := by
  obtain ⟨n, rfl⟩ := Int.eq_ofNat_of_zero_le h0
  have h3 := par_xor n 3 (by omega) (by omega)
  have h4 := par_xor n 1 (by omega) (by omega)
  refine ⟨h3.trans ?_, h4.trans ?_, xor_bd n 3 (by omega) (by omega), xor_bd n 1 (by omega) (by omega)⟩
  · cases par (n : Int) <;> decide
  · cases par (n : Int) <;> decide

theorem BitsParts_walk (a0 : Int) (a1 : Int) (w0 : (Lit.int .u32 a0).wf = true) (w1 : (Lit.int .u8 a1).wf = true) (w : World) :
    Calls Try.prog 4 #[.int .u32 a0, .int .u8 a1] w fun e w' => e = .returned (.bool true) ∧ Grown w w' := by
  have b0 := bounds_u32 w0
  have b1 := bounds_u8 w1
  clear w0 w1
  obtain ⟨p1, p2, p3, p4⟩ := parts_par a0 b0.1 (by omega)
  have P1 := Lib.hid p1
  have P2 := Lib.hid p2
  clear p1 p2
  have z1 : fld a0 32 5 = 0 := rfl
  have z2 : fld a0 (-40) 5 = 0 := rfl
  by_cases hk : a1 % 33 < 32
  · have E1 := Lib.hid (parts_all a0 (a1 % 33) b0.1 (by omega) (by omega) hk)
    by_cases hz : a1 % 33 = 0
    · have hz' : (a1 % 33 == 0) = true := by rw [hz]; rfl
      have E2 := Lib.hid (parts_facts a0 1 b0.1 (by omega) (by omega) (by omega))
      have hs := sgn_bd a0 1
      clear hz
      go_enter Try.func4, Try.ntmps4
      go_wp2_with fail
      refine (known1 _).mono ?_; rintro e w1 ⟨rfl, hg⟩
      go_wp2_with fail
      refine (bits_Field _ _ _ (by omega) (by omega) _).mono ?_; rintro e w' ⟨rfl, rfl⟩
      go_wp2_with fail
      refine (bits_Field _ _ _ (by omega) (by omega) _).mono ?_; rintro e w' ⟨rfl, rfl⟩
      go_wp2_with fail
      refine (bits_Signed _ _ (by omega) (by omega) _).mono ?_; rintro e w' ⟨rfl, rfl⟩
      go_wp2_with fail
      refine (bits_Field _ _ _ (by omega) (by omega) _).mono ?_; rintro e w' ⟨rfl, rfl⟩
      rw [E1.out]
      have e2 := E2.out.1
      have e2' : (fld a0 0 1 == 1) = decide (sgn a0 1 < 0) := e2
      go_wp2_with fail
      refine (bits_Field _ _ _ (by omega) (by omega) _).mono ?_; rintro e w' ⟨rfl, rfl⟩
      go_wp2_with fail
      refine (bits_Field _ _ _ (by omega) (by omega) _).mono ?_; rintro e w' ⟨rfl, rfl⟩
      have e3 := E2.out.2
      go_wp2_with fail
      refine (bits_Parity _ (by omega) (by omega) _).mono ?_; rintro e w' ⟨rfl, rfl⟩
      go_wp2_with fail
      refine (bits_Parity _ (by omega) (by omega) _).mono ?_; rintro e w' ⟨rfl, rfl⟩
      have p1 := P1.out
      go_wp2_with fail
      refine (bits_Parity _ (by omega) (by omega) _).mono ?_; rintro e w' ⟨rfl, rfl⟩
      go_wp2_with fail
      refine (bits_Parity _ (by omega) (by omega) _).mono ?_; rintro e w' ⟨rfl, rfl⟩
      have p2 := P2.out
      go_wp2_with fail
      refine (bits_Field _ _ _ (by omega) (by omega) _).mono ?_; rintro e w' ⟨rfl, rfl⟩
      go_wp2_with fail
      refine (bits_Field _ _ _ (by omega) (by omega) _).mono ?_; rintro e w' ⟨rfl, rfl⟩
      go_wp2_with fail
      go_ret
      exact ⟨rfl, hg⟩
    · have hz' : (a1 % 33 == 0) = false := by simpa using hz
      have E2 := Lib.hid (parts_facts a0 (a1 % 33) b0.1 (by omega) (by omega) (by omega))
      have hs := sgn_bd a0 (a1 % 33)
      clear hz
      go_enter Try.func4, Try.ntmps4
      go_wp2_with fail
      refine (known1 _).mono ?_; rintro e w1 ⟨rfl, hg⟩
      go_wp2_with fail
      refine (bits_Field _ _ _ (by omega) (by omega) _).mono ?_; rintro e w' ⟨rfl, rfl⟩
      go_wp2_with fail
      refine (bits_Field _ _ _ (by omega) (by omega) _).mono ?_; rintro e w' ⟨rfl, rfl⟩
      go_wp2_with fail
      refine (bits_Signed _ _ (by omega) (by omega) _).mono ?_; rintro e w' ⟨rfl, rfl⟩
      go_wp2_with fail
      refine (bits_Field _ _ _ (by omega) (by omega) _).mono ?_; rintro e w' ⟨rfl, rfl⟩
      rw [E1.out]
      have e2 := E2.out.1
      go_wp2_with fail
      refine (bits_Field _ _ _ (by omega) (by omega) _).mono ?_; rintro e w' ⟨rfl, rfl⟩
      go_wp2_with fail
      refine (bits_Field _ _ _ (by omega) (by omega) _).mono ?_; rintro e w' ⟨rfl, rfl⟩
      have e3 := E2.out.2
      go_wp2_with fail
      refine (bits_Parity _ (by omega) (by omega) _).mono ?_; rintro e w' ⟨rfl, rfl⟩
      go_wp2_with fail
      refine (bits_Parity _ (by omega) (by omega) _).mono ?_; rintro e w' ⟨rfl, rfl⟩
      have p1 := P1.out
      go_wp2_with fail
      refine (bits_Parity _ (by omega) (by omega) _).mono ?_; rintro e w' ⟨rfl, rfl⟩
      go_wp2_with fail
      refine (bits_Parity _ (by omega) (by omega) _).mono ?_; rintro e w' ⟨rfl, rfl⟩
      have p2 := P2.out
      go_wp2_with fail
      refine (bits_Field _ _ _ (by omega) (by omega) _).mono ?_; rintro e w' ⟨rfl, rfl⟩
      go_wp2_with fail
      refine (bits_Field _ _ _ (by omega) (by omega) _).mono ?_; rintro e w' ⟨rfl, rfl⟩
      go_wp2_with fail
      go_ret
      exact ⟨rfl, hg⟩
  · have hz' : (a1 % 33 == 0) = false := by rw [beq_eq_false_iff_ne]; omega
    have hk' : a1 % 33 = 32 := by omega
    have E2 := Lib.hid (parts_facts a0 (a1 % 33) b0.1 (by omega) (by omega) (by omega))
    have hs := sgn_bd a0 (a1 % 33)
    have e1 : fld a0 0 (a1 % 33) = a0 := by rw [hk']; exact (fld_low a0 32 (by omega) (by omega)).trans (Int.emod_eq_of_lt b0.1 (by show a0 < 4294967296; omega))
    have E1 := Lib.hid e1
    clear e1 hk'
    go_enter Try.func4, Try.ntmps4
    go_wp2_with fail
    refine (known1 _).mono ?_; rintro e w1 ⟨rfl, hg⟩
    go_wp2_with fail
    refine (bits_Field _ _ _ (by omega) (by omega) _).mono ?_; rintro e w' ⟨rfl, rfl⟩
    go_wp2_with fail
    refine (bits_Field _ _ _ (by omega) (by omega) _).mono ?_; rintro e w' ⟨rfl, rfl⟩
    go_wp2_with fail
    refine (bits_Signed _ _ (by omega) (by omega) _).mono ?_; rintro e w' ⟨rfl, rfl⟩
    go_wp2_with fail
    refine (bits_Field _ _ _ (by omega) (by omega) _).mono ?_; rintro e w' ⟨rfl, rfl⟩
    have e1 := E1.out
    have e2 := E2.out.1
    go_wp2_with fail
    refine (bits_Field _ _ _ (by omega) (by omega) _).mono ?_; rintro e w' ⟨rfl, rfl⟩
    go_wp2_with fail
    refine (bits_Field _ _ _ (by omega) (by omega) _).mono ?_; rintro e w' ⟨rfl, rfl⟩
    have e3 := E2.out.2
    go_wp2_with fail
    refine (bits_Parity _ (by omega) (by omega) _).mono ?_; rintro e w' ⟨rfl, rfl⟩
    go_wp2_with fail
    refine (bits_Parity _ (by omega) (by omega) _).mono ?_; rintro e w' ⟨rfl, rfl⟩
    have p1 := P1.out
    go_wp2_with fail
    refine (bits_Parity _ (by omega) (by omega) _).mono ?_; rintro e w' ⟨rfl, rfl⟩
    go_wp2_with fail
    refine (bits_Parity _ (by omega) (by omega) _).mono ?_; rintro e w' ⟨rfl, rfl⟩
    have p2 := P2.out
    go_wp2_with fail
    refine (bits_Field _ _ _ (by omega) (by omega) _).mono ?_; rintro e w' ⟨rfl, rfl⟩
    go_wp2_with fail
    refine (bits_Field _ _ _ (by omega) (by omega) _).mono ?_; rintro e w' ⟨rfl, rfl⟩
    go_wp2_with fail
    go_ret
    exact ⟨rfl, hg⟩
end Go.Proofs.Ytlokdoklkfnleaa
