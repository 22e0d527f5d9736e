/-
  Plain laws of words of 32 bits: and with a mask, or as a sum, shifts, fields, signs. No program in sight.
-/
import Derived.Test.YtndfcpkmchjncaaDig
import Derived.Test.YtndfcpkmchjncaaBitsMath
namespace Go.Proofs.Ytndfcpkmchjncaa
open Go.Sx
set_option linter.unusedVariables false
set_option linter.unusedSimpArgs false

theorem ic_eq (a b : Int) : icmp .eql a b = decide (a = b) := by
  show (a == b) = _
  by_cases h : a = b <;> simp [h]
theorem ic_ne (a b : Int) : icmp .neq a b = !decide (a = b) := by
  show (a != b) = _
  by_cases h : a = b <;> simp [h]
theorem ic_lt (a b : Int) : icmp .lss a b = decide (a < b) := rfl
theorem ic_le (a b : Int) : icmp .leq a b = decide (a ≤ b) := rfl
theorem ic_gt (a b : Int) : icmp .gtr a b = decide (b < a) := rfl
theorem ic_ge (a b : Int) : icmp .geq a b = decide (b ≤ a) := rfl
theorem eq_dec (a b : Int) : (a == b) = decide (a = b) := by by_cases h : a = b <;> simp [h]

theorem shr_l (k : IntKind) (a n : Int) (m : Nat) (d : Int) (h : min n.toNat k.bits = m) (hd : (2 : Int) ^ m = d) (h0 : 0 ≤ d) : ibin .shr k a n = a / d := by
  show a.fdiv (2 ^ (min n.toNat k.bits)) = a / d
  rw [h, hd, Int.fdiv_eq_ediv_of_nonneg a h0]
theorem shl_u32 (a n : Int) (m : Nat) (d : Int) (h : min n.toNat 32 = m) (hd : (2 : Int) ^ m = d) : ibin .shl .u32 a n = a * d % 4294967296 := by
  show IntKind.u32.wrap (a * 2 ^ (min n.toNat 32)) = _
  rw [h, hd, IntKind.wrap_u32]
theorem fld_l (x a k : Int) (A K : Int) (ha : 0 ≤ a) (ha2 : a < 32) (hk : 0 ≤ k) (hk2 : k ≤ 32) (hA : (2 : Int) ^ a.toNat = A) (hK : (2 : Int) ^ k.toNat = K) : fld x a k = x / A % K := by
  have c : clamp0 k = k.toNat := by unfold clamp0; rw [if_neg (by omega), if_neg (by omega)]
  unfold fld
  rw [if_neg (by omega), if_neg (by omega), c, hA, hK]
theorem sgn_12 (x : Int) : sgn x 12 = (x + 2048) % 4096 - 2048 := rfl
theorem sgn_13 (x : Int) : sgn x 13 = (x + 4096) % 8192 - 4096 := rfl
theorem sgn_21 (x : Int) : sgn x 21 = (x + 1048576) % 2097152 - 1048576 := rfl
theorem sgn_8 (x : Int) : sgn x 8 = (x + 128) % 256 - 128 := rfl
theorem sgn_16 (x : Int) : sgn x 16 = (x + 32768) % 65536 - 32768 := rfl
theorem sgn_32 (x : Int) : sgn x 32 = (x + 2147483648) % 4294967296 - 2147483648 := rfl

theorem and_u32 (a M : Int) (m : Nat) (P : Int) (hb : (BitVec.ofInt 32 M).toNat = 2 ^ m - 1) (hm : m ≤ 32) (hP : ((2 ^ m : Nat) : Int) = P) : ibin .and .u32 a M = a % P := by
  have e : ((BitVec.ofInt 32 a) &&& (BitVec.ofInt 32 M)).toNat = (a % 4294967296).toNat % 2 ^ m := by
    rw [BitVec.toNat_and, hb, Nat.and_two_pow_sub_one_eq_mod, BitVec.toNat_ofInt]
    rfl
  show IntKind.u32.wrap (((BitVec.ofInt 32 a) &&& (BitVec.ofInt 32 M)).toNat : Int) = _
  rw [e, IntKind.wrap_u32]
  have hd : (P : Int) ∣ 4294967296 := by
    rw [← hP]
    have : (2 ^ m : Nat) ∣ 2 ^ 32 := Nat.pow_dvd_pow 2 hm
    exact Int.ofNat_dvd.2 this
  have hp : 0 < P := by rw [← hP]; exact Int.ofNat_lt.2 (Nat.two_pow_pos m)
  have h1 : ((((a % 4294967296).toNat % 2 ^ m : Nat)) : Int) = a % P := by
    rw [Int.natCast_emod, hP, Int.toNat_of_nonneg (by omega), Int.emod_emod_of_dvd _ hd]
  rw [h1]
  have h2 := Int.emod_nonneg a (Int.ne_of_gt hp)
  have h3 := Int.emod_lt_of_pos a hp
  have h4 : P ≤ 4294967296 := Int.le_of_dvd (by decide) hd
  omega
theorem and1_i32 (a : Int) : ibin .and .i32 a 1 = a % 2 := by
  have hb : (BitVec.ofInt 32 1).toNat = 2 ^ 1 - 1 := by decide
  have e : ((BitVec.ofInt 32 a) &&& (BitVec.ofInt 32 1)).toNat = (a % 4294967296).toNat % 2 := by
    rw [BitVec.toNat_and, hb, Nat.and_two_pow_sub_one_eq_mod, BitVec.toNat_ofInt]
    rfl
  show IntKind.i32.wrap (((BitVec.ofInt 32 a) &&& (BitVec.ofInt 32 1)).toNat : Int) = _
  rw [e, IntKind.wrap_i32]
  omega
theorem and4095_i32 (a : Int) : ibin .and .i32 a 4095 = a % 4096 := by
  have hb : (BitVec.ofInt 32 4095).toNat = 2 ^ 12 - 1 := by decide
  have e : ((BitVec.ofInt 32 a) &&& (BitVec.ofInt 32 4095)).toNat = (a % 4294967296).toNat % 4096 := by
    rw [BitVec.toNat_and, hb, Nat.and_two_pow_sub_one_eq_mod, BitVec.toNat_ofInt]
    rfl
  show IntKind.i32.wrap (((BitVec.ofInt 32 a) &&& (BitVec.ofInt 32 4095)).toNat : Int) = _
  rw [e, IntKind.wrap_i32]
  omega
theorem and127 (a : Int) : ibin .and .u32 a 127 = a % 128 := and_u32 a 127 7 128 (by decide) (by decide) (by decide)
theorem and31 (a : Int) : ibin .and .u32 a 31 = a % 32 := and_u32 a 31 5 32 (by decide) (by decide) (by decide)
theorem and3 (a : Int) : ibin .and .u32 a 3 = a % 4 := and_u32 a 3 2 4 (by decide) (by decide) (by decide)
theorem and4095 (a : Int) : ibin .and .u32 a 4095 = a % 4096 := and_u32 a 4095 12 4096 (by decide) (by decide) (by decide)
theorem and1 (a : Int) : ibin .and .u32 a 1 = a % 2 := and_u32 a 1 1 2 (by decide) (by decide) (by decide)

theorem bv_split (x m : BitVec 32) : (x &&& m) + (x &&& ~~~m) = x := by
  have h : (x &&& m) &&& (x &&& ~~~m) = 0#32 := by
    apply BitVec.eq_of_getLsbD_eq
    intro i hi
    simp only [BitVec.getLsbD_and, BitVec.getLsbD_not, BitVec.getLsbD_zero]
    cases x.getLsbD i <;> cases m.getLsbD i <;> simp
  rw [BitVec.add_eq_or_of_and_eq_zero _ _ h]
  apply BitVec.eq_of_getLsbD_eq
  intro i hi
  simp only [BitVec.getLsbD_and, BitVec.getLsbD_or, BitVec.getLsbD_not, hi, decide_true, Bool.true_and]
  cases x.getLsbD i <;> cases m.getLsbD i <;> simp
theorem high_u32 (a : Int) (h0 : 0 ≤ a) (h1 : a < 4294967296) (M : BitVec 32) (hM : ~~~M = 4095#32) :
    (((BitVec.ofInt 32 a) &&& M).toNat : Int) = a - a % 4096 := by
  have s := bv_split (BitVec.ofInt 32 a) M
  rw [hM] at s
  have t := congrArg BitVec.toNat s
  rw [BitVec.toNat_add] at t
  have e : ((BitVec.ofInt 32 a) &&& 4095#32).toNat = (a % 4294967296).toNat % 4096 := by
    have hb : (4095#32).toNat = 2 ^ 12 - 1 := by decide
    rw [BitVec.toNat_and, hb, Nat.and_two_pow_sub_one_eq_mod, BitVec.toNat_ofInt]
    rfl
  have e2 : (BitVec.ofInt 32 a).toNat = a.toNat := by
    rw [BitVec.toNat_ofInt]
    have : (a % ((2 ^ 32 : Nat) : Int)) = a := Int.emod_eq_of_lt h0 h1
    rw [this]
  have l := ((BitVec.ofInt 32 a) &&& M).isLt
  have e3 : ((BitVec.ofInt 32 a) &&& M).toNat ≤ a.toNat := by
    rw [← e2, BitVec.toNat_and]; exact Nat.and_le_left
  rw [e, e2] at t
  generalize ((BitVec.ofInt 32 a) &&& M).toNat = q at *
  omega
theorem and_high (a : Int) (h0 : 0 ≤ a) (h1 : a < 4294967296) : ibin .and .u32 a 4294963200 = a - a % 4096 := by
  show IntKind.u32.wrap (((BitVec.ofInt 32 a) &&& (BitVec.ofInt 32 4294963200)).toNat : Int) = _
  rw [high_u32 a h0 h1 _ (by decide), IntKind.wrap_u32]; omega
theorem andNot_low (a : Int) (h0 : 0 ≤ a) (h1 : a < 4294967296) : ibin .andNot .u32 a 4095 = a - a % 4096 := by
  show IntKind.u32.wrap (((BitVec.ofInt 32 a) &&& ~~~(BitVec.ofInt 32 4095)).toNat : Int) = _
  rw [high_u32 a h0 h1 _ (by decide), IntKind.wrap_u32]; omega

/-- the bits of x lie within M -/
def In (M : Nat) (x : Int) : Prop := ∃ n : Nat, x = n ∧ ∀ i, n.testBit i = true → M.testBit i = true
theorem In.bd {M : Nat} {x : Int} (h : In M x) : 0 ≤ x ∧ x ≤ M := by
  obtain ⟨n, rfl, h⟩ := h
  have : n &&& M = n := by
    apply Nat.eq_of_testBit_eq
    intro i
    rw [Nat.testBit_and]
    have := h i
    cases hn : n.testBit i
    · rfl
    · rw [this hn]; rfl
  have : n ≤ M := by rw [← this]; exact Nat.and_le_right
  omega
theorem or_in {M1 M2 : Nat} {a b : Int} (h1 : In M1 a) (h2 : In M2 b) (hd : M1 &&& M2 = 0) (hl : M1 ||| M2 < 4294967296) :
    ibin .or .u32 a b = a + b ∧ In (M1 ||| M2) (a + b) := by
  have b1 := h1.bd
  have b2 := h2.bd
  obtain ⟨n, rfl, h1⟩ := h1
  obtain ⟨m, rfl, h2⟩ := h2
  have l1 : M1 ≤ M1 ||| M2 := Nat.left_le_or
  have l2 : M2 ≤ M1 ||| M2 := Nat.right_le_or
  have z : n &&& m = 0 := by
    apply Nat.eq_of_testBit_eq
    intro i
    rw [Nat.testBit_and, Nat.zero_testBit]
    have q : (M1 &&& M2).testBit i = false := by rw [hd, Nat.zero_testBit]
    rw [Nat.testBit_and] at q
    cases hn : n.testBit i
    · rfl
    · cases hm : m.testBit i
      · rfl
      · rw [h1 i hn, h2 i hm] at q; cases q
  have e1 : (BitVec.ofInt 32 (n : Int)).toNat = n := by
    rw [BitVec.toNat_ofInt]
    have : (n : Int) % ((2 ^ 32 : Nat) : Int) = n := Int.emod_eq_of_lt (by omega) (by omega)
    rw [this]; rfl
  have e2 : (BitVec.ofInt 32 (m : Int)).toNat = m := by
    rw [BitVec.toNat_ofInt]
    have : (m : Int) % ((2 ^ 32 : Nat) : Int) = m := Int.emod_eq_of_lt (by omega) (by omega)
    rw [this]; rfl
  have lor : n ||| m ≤ M1 ||| M2 := by
    have : (n ||| m) &&& (M1 ||| M2) = n ||| m := by
      apply Nat.eq_of_testBit_eq
      intro i
      rw [Nat.testBit_and, Nat.testBit_or, Nat.testBit_or]
      have p := h1 i
      have q := h2 i
      cases hn : n.testBit i <;> cases hm : m.testBit i <;> simp_all
    rw [← this]; exact Nat.and_le_right
  have sum : n + m = n ||| m := by
    have hz : BitVec.ofNat 64 n &&& BitVec.ofNat 64 m = 0#64 := by
      apply BitVec.eq_of_toNat_eq
      rw [BitVec.toNat_and, BitVec.toNat_ofNat, BitVec.toNat_ofNat, Nat.mod_eq_of_lt (by omega), Nat.mod_eq_of_lt (by omega), z]; rfl
    have := congrArg BitVec.toNat (BitVec.add_eq_or_of_and_eq_zero _ _ hz)
    rw [BitVec.toNat_add, BitVec.toNat_or, BitVec.toNat_ofNat, BitVec.toNat_ofNat, Nat.mod_eq_of_lt (a := n) (by omega), Nat.mod_eq_of_lt (a := m) (by omega), Nat.mod_eq_of_lt (by omega)] at this
    exact this
  refine ⟨?_, n + m, by omega, ?_⟩
  · show IntKind.u32.wrap (((BitVec.ofInt 32 (n : Int)) ||| (BitVec.ofInt 32 (m : Int))).toNat : Int) = _
    rw [BitVec.toNat_or, e1, e2, ← sum, IntKind.wrap_u32]
    omega
  · intro i hi
    rw [sum, Nat.testBit_or] at hi
    rw [Nat.testBit_or]
    cases hn : n.testBit i
    · rw [hn, Bool.false_or] at hi; rw [h2 i hi, Bool.or_true]
    · rw [h1 i hn, Bool.true_or]
/-- x equals s, whose bits lie within M -/
def Om (M : Nat) (x s : Int) : Prop := x = s ∧ In M s
theorem Om.or {M1 M2 : Nat} {x s y t : Int} (h1 : Om M1 x s) (h2 : Om M2 y t) (hd : (M1 &&& M2 == 0 && decide (M1 ||| M2 < 4294967296)) = true) : Om (M1 ||| M2) (ibin .or .u32 x y) (s + t) := by
  obtain ⟨rfl, h1⟩ := h1
  obtain ⟨rfl, h2⟩ := h2
  simp only [Bool.and_eq_true, beq_iff_eq, decide_eq_true_eq] at hd
  exact or_in h1 h2 hd.1 hd.2
theorem Om.zero : Om 0 0 0 := ⟨rfl, 0, rfl, fun i h => by rw [Nat.zero_testBit] at h; cases h⟩
theorem in_low {k : Nat} {x : Int} (h0 : 0 ≤ x) (h1 : x < 2 ^ k) (M : Nat) (hM : M = 2 ^ k - 1) : In M x := by
  obtain ⟨n, rfl⟩ := Int.eq_ofNat_of_zero_le h0
  refine ⟨n, rfl, fun i hi => ?_⟩
  have hn : n < 2 ^ k := by
    have : ((n : Nat) : Int) < ((2 ^ k : Nat) : Int) := by simpa using h1
    exact Int.ofNat_lt.1 this
  rw [hM, Nat.testBit_two_pow_sub_one, decide_eq_true_eq]
  cases Nat.lt_or_ge i k with
  | inl h => exact h
  | inr h =>
    have := Nat.testBit_lt_two_pow (Nat.lt_of_lt_of_le hn (Nat.pow_le_pow_right (by decide) h))
    rw [this] at hi; cases hi
theorem in_shift {k : Nat} {x : Int} (h0 : 0 ≤ x) (h1 : x < 2 ^ k) (s M : Nat) (P : Int) (hP : (2 : Int) ^ s = P) (hM : M = (2 ^ k - 1) * 2 ^ s) : In M (x * P) := by
  obtain ⟨n, e, h⟩ := in_low h0 h1 (2 ^ k - 1) rfl
  refine ⟨n * 2 ^ s, by rw [e, ← hP]; simp, fun i hi => ?_⟩
  rw [Nat.testBit_mul_two_pow] at hi
  rw [hM, Nat.testBit_mul_two_pow]
  cases hs : decide (s ≤ i)
  · rw [hs, Bool.false_and] at hi; cases hi
  · rw [hs, Bool.true_and] at hi; rw [Bool.true_and]; exact h _ hi
/-- a piece of k bits, at place s -/
theorem Om.shl {x : Int} (k : Nat) (n : Int) (s M : Nat) (P : Int) (h0 : 0 ≤ x) (h1 : x < 2 ^ k) (hs : min n.toNat 32 = s) (hP : (2 : Int) ^ s = P) (hM : M = (2 ^ k - 1) * 2 ^ s) (hl : k + s ≤ 32) :
    Om M (ibin .shl .u32 x n) (x * P) := by
  have i := in_shift h0 h1 s M P hP hM
  have b := i.bd
  have : M < 4294967296 := by
    rw [hM]
    have h : (2 ^ k - 1) * 2 ^ s < 2 ^ k * 2 ^ s := by
      have := Nat.two_pow_pos s
      have := Nat.two_pow_pos k
      exact Nat.mul_lt_mul_of_pos_right (by omega) (by omega)
    rw [← Nat.pow_add] at h
    exact Nat.lt_of_lt_of_le h (Nat.pow_le_pow_right (by decide) hl)
  refine ⟨?_, i⟩
  rw [shl_u32 x n s P hs hP]
  omega
theorem Om.low {x : Int} (k M : Nat) (h0 : 0 ≤ x) (h1 : x < 2 ^ k) (hM : M = 2 ^ k - 1) : Om M x x := ⟨rfl, in_low h0 h1 M hM⟩
/-- all but the lowest bits -/
theorem in_high {x : Int} (s k M : Nat) (P : Int) (h0 : 0 ≤ x) (hm : x % P = 0) (h1 : x / P < 2 ^ k) (hP : (2 : Int) ^ s = P) (hM : M = (2 ^ k - 1) * 2 ^ s) : In M x := by
  have hp : 0 < P := by rw [← hP]; exact Int.pow_pos (by decide)
  have := in_shift (k := k) (x := x / P) (Int.ediv_nonneg h0 (by omega)) h1 s M P hP hM
  have e : x / P * P = x := by have := Int.emod_add_mul_ediv x P; rw [hm, Int.mul_comm] at this; omega
  rw [e] at this; exact this

theorem fin47 (P : Int → Bool) (h : (List.range 47).all (fun k => P (Int.ofNat k + 1)) = true) {op : Int} (h1 : 1 ≤ op) (h2 : op ≤ 47) : P op = true := by
  have := List.all_eq_true.1 h (op - 1).toNat (List.mem_range.2 (by omega))
  have e : Int.ofNat (op - 1).toNat + 1 = op := by
    show ((op - 1).toNat : Int) + 1 = op
    omega
  rw [e] at this; exact this
end Go.Proofs.Ytndfcpkmchjncaa
