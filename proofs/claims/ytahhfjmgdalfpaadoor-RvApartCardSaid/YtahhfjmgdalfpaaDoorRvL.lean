/-
  The laws RvReads, RvRanges, RvFields, RvNumbers: what they say of plain functions. No program in sight.
-/
import Derived.Test.YtahhfjmgdalfpaaDoorRfE
namespace Go.Proofs.YtahhfjmgdalfpaaDoor
open Go.Sx
set_option linter.unusedVariables false
set_option linter.unusedSimpArgs false
set_option maxRecDepth 100000

theorem u8_bd {x : Int} (h : IntKind.has .u8 x) : 0 ≤ x ∧ x < 256 := by
  obtain ⟨a, b⟩ := h
  have e1 : IntKind.u8.min = 0 := rfl
  have e2 : IntKind.u8.max = 255 := rfl
  omega
theorem i32_bd {x : Int} (h : IntKind.has .i32 x) : -2147483648 ≤ x ∧ x < 2147483648 := by
  obtain ⟨a, b⟩ := h
  have e1 : IntKind.i32.min = -2147483648 := rfl
  have e2 : IntKind.i32.max = 2147483647 := rfl
  omega
theorem RvReads_true {a0 : Int} (h0 : IntKind.has .u32 a0) : RvReads a0 = true := by
  have b := u32_bd h0
  obtain ⟨d5, d0, d1, d2, d3, d4⟩ := dec_same b.1 b.2
  unfold RvReads
  rw [show lwKnown = true from rfl, cond_true, d5, d0, d1, d2, d3, d4]
  simp
theorem rem8 {a m : Int} (h : 0 ≤ a) (hm : 0 < m) (hm2 : m < 1000) : IntKind.wrap .i64 (ibin .rem .u8 a m) = a % m := by
  show IntKind.wrap .i64 (a.tmod m) = _
  rw [Int.tmod_eq_emod_of_nonneg h, IntKind.wrap_i64]
  have h1 := Int.emod_nonneg a (show m ≠ 0 by omega)
  have h2 := Int.emod_lt_of_pos a hm
  omega
theorem remK {a m : Int} (h : 0 ≤ a) : ibin .rem .u8 a m = a % m := Int.tmod_eq_emod_of_nonneg h
theorem addS {a m : Int} (h : 0 ≤ a) (h1 : a < 1000) (hm : 0 ≤ m) (hm2 : m < 1000) : ibin .add .i64 a m = a + m := by
  show IntKind.i64.wrap (a + m) = _
  rw [IntKind.wrap_i64]; omega
theorem rvIs_t {op d a b n : Int} (h : W op d a b n) : rvIs op d a b n = true := (rvIs_iff op d a b n).2 h
theorem rvIs_f {op d a b n : Int} (h : ¬ W op d a b n) : rvIs op d a b n = false := by
  cases c : rvIs op d a b n
  · rfl
  · exact (h ((rvIs_iff op d a b n).1 c)).elim
theorem kinds {op : Int} (h1 : 1 ≤ op) (h2 : op ≤ 47) : (5 ≤ op → op ≤ 10 → rvOf_1 op = 6) ∧ (11 ≤ op → op ≤ 15 → rvOf_1 op = 3) ∧ (16 ≤ op → op ≤ 18 → rvOf_1 op = 5) ∧ (25 ≤ op → op ≤ 27 → rvOf_1 op = 4)
    ∧ (28 ≤ op → op ≤ 45 → rvOf_1 op = 1) ∧ (op = 1 → rvOf_1 op = 7) ∧ (op = 3 → rvOf_1 op = 8) ∧ (op = 19 → rvOf_1 op = 2) ∧ (46 ≤ op → rvOf_1 op = 9) := by
  have := fin47 (fun op => decide ((5 ≤ op → op ≤ 10 → rvOf_1 op = 6) ∧ (11 ≤ op → op ≤ 15 → rvOf_1 op = 3) ∧ (16 ≤ op → op ≤ 18 → rvOf_1 op = 5) ∧ (25 ≤ op → op ≤ 27 → rvOf_1 op = 4)
    ∧ (28 ≤ op → op ≤ 45 → rvOf_1 op = 1) ∧ (op = 1 → rvOf_1 op = 7) ∧ (op = 3 → rvOf_1 op = 8) ∧ (op = 19 → rvOf_1 op = 2) ∧ (46 ≤ op → rvOf_1 op = 9))) (by kernel_rfl) h1 h2
  exact of_decide_eq_true this
theorem form6 {op : Int} (h : 5 ≤ op ∧ op ≤ 10) : rvOf_1 op = 6 := (kinds (by omega) (by omega)).1 h.1 h.2
theorem form3 {op : Int} (h : 11 ≤ op ∧ op ≤ 15) : rvOf_1 op = 3 := (kinds (by omega) (by omega)).2.1 h.1 h.2
theorem form5 {op : Int} (h : 16 ≤ op ∧ op ≤ 18) : rvOf_1 op = 5 := (kinds (by omega) (by omega)).2.2.1 h.1 h.2
theorem form4 {op : Int} (h : 25 ≤ op ∧ op ≤ 27) : rvOf_1 op = 4 := (kinds (by omega) (by omega)).2.2.2.1 h.1 h.2
theorem form1 {op : Int} (h : 28 ≤ op ∧ op ≤ 45) : rvOf_1 op = 1 := (kinds (by omega) (by omega)).2.2.2.2.1 h.1 h.2
theorem form7 : rvOf_1 1 = 7 := by kernel_rfl
theorem form8 : rvOf_1 3 = 8 := by kernel_rfl
theorem form2 : rvOf_1 19 = 2 := by kernel_rfl
theorem form9 : rvOf_1 46 = 9 := by kernel_rfl

theorem RvRanges_true {a0 a1 a2 a3 : Int} (a4 : Bool) (h0 : IntKind.has .u8 a0) (h1 : IntKind.has .u8 a1) (h2 : IntKind.has .u8 a2) (h3 : IntKind.has .u8 a3) : RvRanges a0 a1 a2 a3 a4 = true := by
  have b0 := u8_bd h0; have b1 := u8_bd h1; have b2 := u8_bd h2; have b3 := u8_bd h3
  have k6 : 0 ≤ a0 % 6 ∧ a0 % 6 < 6 := by omega
  have k5 : 0 ≤ a0 % 5 ∧ a0 % 5 < 5 := by omega
  have k3 : 0 ≤ a0 % 3 ∧ a0 % 3 < 3 := by omega
  have r1 : 0 ≤ a1 % 32 ∧ a1 % 32 < 32 := by omega
  have r2 : 0 ≤ a2 % 32 ∧ a2 % 32 < 32 := by omega
  have r3 : 0 ≤ a3 % 32 ∧ a3 % 32 < 32 := by omega
  unfold RvRanges
  rw [show lwKnown = true from rfl, cond_true]
  simp only [rem8 b0.1 (show (0:Int) < 6 by decide) (by decide), rem8 b0.1 (show (0:Int) < 5 by decide) (by decide), rem8 b0.1 (show (0:Int) < 3 by decide) (by decide),
    rem8 b1.1 (show (0:Int) < 32 by decide) (by decide), rem8 b2.1 (show (0:Int) < 32 by decide) (by decide), rem8 b3.1 (show (0:Int) < 32 by decide) (by decide)]
  generalize a0 % 6 = m6 at *
  generalize a0 % 5 = m5 at *
  generalize a0 % 3 = m3 at *
  generalize a1 % 32 = x1 at *
  generalize a2 % 32 = x2 at *
  generalize a3 % 32 = x3 at *
  rw [addS (a := 5) (by decide) (by decide) k6.1 (by omega), addS (a := 11) (by decide) (by decide) k5.1 (by omega), addS (a := 25) (by decide) (by decide) k3.1 (by omega), addS (a := 16) (by decide) (by decide) k3.1 (by omega)]
  have f6 := form6 (op := 5 + m6) (by omega)
  have f3 := form3 (op := 11 + m5) (by omega)
  have f4 := form4 (op := 25 + m3) (by omega)
  have f5 := form5 (op := 16 + m3) (by omega)
  have f7 := form7
  have f8 := form8
  have f1 := form1 (op := 28) (by decide)
  have f9 := form9
  have e1 : rvIs 1 x3 0 0 4095 = false := rvIs_f (by unfold W Rg; omega)
  have e2 : rvIs 28 x3 32 0 0 = false := rvIs_f (by unfold W Rg; omega)
  have e3 : rvIs 46 0 0 0 0 = true := rvIs_t (by unfold W Rg; omega)
  have e4 : rvIs 46 1 0 0 0 = false := rvIs_f (by unfold W Rg; omega)
  rw [e1, e2, e3, e4]
  cases a4
  · rw [cond_false, rvIs_t (op := 3) (n := 1048574) (by unfold W Rg; omega), rvIs_t (op := 5 + m6) (by unfold W Rg; omega), rvIs_t (op := 11 + m5) (by unfold W Rg; omega), rvIs_t (op := 25 + m3) (by unfold W Rg; omega), rvIs_t (op := 16 + m3) (by unfold W Rg; omega)]
    rfl
  · rw [cond_true, rvIs_f (op := 3) (n := 1048576) (by unfold W Rg; omega), rvIs_f (op := 5 + m6) (by unfold W Rg; omega), rvIs_f (op := 11 + m5) (by unfold W Rg; omega), rvIs_f (op := 25 + m3) (by unfold W Rg; omega), rvIs_f (op := 16 + m3) (by unfold W Rg; omega)]
    rfl

theorem nat_xor (k A B l : Nat) (h : l < 2 ^ k) : (2 ^ k * A + l) ^^^ (2 ^ k * B + l) = 2 ^ k * (A ^^^ B) := by
  apply Nat.eq_of_testBit_eq
  intro i
  have e : 2 ^ k * (A ^^^ B) = 2 ^ k * (A ^^^ B) + 0 := rfl
  rw [Nat.testBit_xor, e, Nat.testBit_two_pow_mul_add _ h, Nat.testBit_two_pow_mul_add _ h, Nat.testBit_two_pow_mul_add _ (Nat.two_pow_pos k)]
  split
  · simp
  · rw [Nat.testBit_xor]
theorem nat_xor_top (k d e H : Nat) (hd : d < 2 ^ k) (he : e < 2 ^ k) : (2 ^ k * H + d) ^^^ (2 ^ k * H + e) = d ^^^ e := by
  apply Nat.eq_of_testBit_eq
  intro i
  rw [Nat.testBit_xor, Nat.testBit_xor, Nat.testBit_two_pow_mul_add _ hd, Nat.testBit_two_pow_mul_add _ he]
  split
  · rfl
  · rename_i h
    have h1 : d.testBit i = false := Nat.testBit_lt_two_pow (Nat.lt_of_lt_of_le hd (Nat.pow_le_pow_right (by decide) (by omega)))
    have h2 : e.testBit i = false := Nat.testBit_lt_two_pow (Nat.lt_of_lt_of_le he (Nat.pow_le_pow_right (by decide) (by omega)))
    rw [h1, h2]; simp
theorem xor_nat (k : IntKind) (x y : Nat) (hk : k.bits ≤ 64) (hx : x < 2 ^ k.bits) (hy : y < 2 ^ k.bits) : ibin .xor k (x : Int) (y : Int) = k.wrap (((x ^^^ y : Nat)) : Int) := by
  show k.wrap (((BitVec.ofInt k.bits x ^^^ BitVec.ofInt k.bits y).toNat : Nat) : Int) = _
  rw [BitVec.toNat_xor, BitVec.toNat_ofInt, BitVec.toNat_ofInt]
  have e1 : ((x : Int) % ((2 ^ k.bits : Nat) : Int)).toNat = x := by
    rw [← Int.natCast_emod, Nat.mod_eq_of_lt hx]; rfl
  have e2 : ((y : Int) % ((2 ^ k.bits : Nat) : Int)).toNat = y := by
    rw [← Int.natCast_emod, Nat.mod_eq_of_lt hy]; rfl
  rw [e1, e2]
theorem fields_xor {d e L H : Int} (hd : Rg d) (he : Rg e) (hL : 0 ≤ L ∧ L < 128) (hH : 0 ≤ H ∧ H < 1048576) :
    ibin .xor .u32 (L + 128 * d + 4096 * H) (L + 128 * e + 4096 * H) = ibin .shl .u32 (IntKind.wrap .u32 (ibin .xor .u8 d e)) 7 := by
  obtain ⟨d, rfl⟩ : ∃ n : Nat, d = n := ⟨d.toNat, by have := hd.1; omega⟩
  obtain ⟨e, rfl⟩ : ∃ n : Nat, e = n := ⟨e.toNat, by have := he.1; omega⟩
  obtain ⟨L, rfl⟩ : ∃ n : Nat, L = n := ⟨L.toNat, by omega⟩
  obtain ⟨H, rfl⟩ : ∃ n : Nat, H = n := ⟨H.toNat, by omega⟩
  have d1 : d < 32 := by have := hd.2; omega
  have e1 : e < 32 := by have := he.2; omega
  have x1 : ((L : Int) + 128 * d + 4096 * H) = ((2 ^ 7 * (2 ^ 5 * H + d) + L : Nat) : Int) := by omega
  have x2 : ((L : Int) + 128 * e + 4096 * H) = ((2 ^ 7 * (2 ^ 5 * H + e) + L : Nat) : Int) := by omega
  rw [x1, x2, xor_nat .u32 _ _ (by decide) (by show _ < 4294967296; omega) (by show _ < 4294967296; omega), xor_nat .u8 d e (by decide) (by show _ < 256; omega) (by show _ < 256; omega),
    nat_xor 7 _ _ L (by omega), nat_xor_top 5 d e H (by omega) (by omega)]
  have hx : d ^^^ e < 32 := Nat.xor_lt_two_pow (n := 5) d1 e1
  generalize d ^^^ e = q at *
  rw [shl_u32 _ 7 7 128 (by decide) (by decide), IntKind.wrap_u32, IntKind.wrap_u32, IntKind.wrap_u8]
  omega
theorem encS_R {k d a b : Int} (h : 28 ≤ k ∧ k ≤ 45) : encS k d a b 0 = rvOf_2 k + 128 * d + 4096 * (rvOf_3 k + 8 * a + 256 * b + 8192 * rvOf_4 k) := by
  unfold encS immS
  rw [form1 h, if_neg (show ¬ k = 47 by omega)]
  simp only [Int.reduceEq, or_self, if_false]
  omega
theorem RvFields_true {a0 a1 a2 a3 a4 : Int} (h0 : IntKind.has .u8 a0) (h1 : IntKind.has .u8 a1) (h2 : IntKind.has .u8 a2) (h3 : IntKind.has .u8 a3) (h4 : IntKind.has .u8 a4) : RvFields a0 a1 a2 a3 a4 = true := by
  have b0 := u8_bd h0; have b1 := u8_bd h1; have b2 := u8_bd h2; have b3 := u8_bd h3; have b4 := u8_bd h4
  have k18 : 0 ≤ a0 % 18 ∧ a0 % 18 < 18 := by omega
  have r1 : Rg (a1 % 32) := by unfold Rg; omega
  have r2 : Rg (a2 % 32) := by unfold Rg; omega
  have r3 : Rg (a3 % 32) := by unfold Rg; omega
  have r4 : Rg (a4 % 32) := by unfold Rg; omega
  unfold RvFields
  rw [show lwKnown = true from rfl, cond_true]
  simp only [rem8 b0.1 (show (0:Int) < 18 by decide) (by decide), rem8 b1.1 (show (0:Int) < 32 by decide) (by decide), rem8 b2.1 (show (0:Int) < 32 by decide) (by decide), rem8 b3.1 (show (0:Int) < 32 by decide) (by decide), rem8 b4.1 (show (0:Int) < 32 by decide) (by decide)]
  simp only [remK b1.1, remK b2.1, remK b3.1, remK b4.1]
  generalize a0 % 18 = m at *
  generalize a1 % 32 = x1 at *
  generalize a2 % 32 = x2 at *
  generalize a3 % 32 = x3 at *
  generalize a4 % 32 = x4 at *
  rw [addS (a := 28) (by decide) (by decide) k18.1 (by omega)]
  have hk : 28 ≤ 28 + m ∧ 28 + m ≤ 45 := by omega
  generalize 28 + m = k at *
  have f := form1 hk
  have z : Rg 0 := ⟨by decide, by decide⟩
  have w (d a b : Int) (hd : Rg d) (ha : Rg a) (hb : Rg b) : W k d a b 0 := ⟨by omega, Or.inl ⟨f, hd, ha, hb, rfl⟩⟩
  obtain ⟨-, ⟨o0, o1, t0, t1, s0, s1⟩, -, -⟩ := row (show 1 ≤ k by omega) (show k ≤ 47 by omega)
  rw [rvEnc_err (w _ _ _ r1 r2 r3), rvEnc_err (w _ _ _ r4 r2 r3), rvEnc_err (w _ _ _ z z z), rvEnc_sum (w _ _ _ r1 r2 r3), rvEnc_sum (w _ _ _ r4 r2 r3), rvEnc_sum (w _ _ _ z z z),
    encS_R hk, encS_R hk, encS_R hk]
  have hx := fields_xor (L := rvOf_2 k) (H := rvOf_3 k + 8 * x2 + 256 * x3 + 8192 * rvOf_4 k) r1 r4 ⟨o0, o1⟩ (by have := r2; have := r3; unfold Rg at *; omega)
  have zz := (((pO o0 o1).or (p3 t0 t1) (by decide)).or (p7 s0 s1) (by decide))
  have zi : Om (127 ||| 28672 ||| 4261412864) (rvOf_2 k + 128 * 0 + 4096 * (rvOf_3 k + 8 * 0 + 256 * 0 + 8192 * rvOf_4 k)) (rvOf_2 k + rvOf_3 k * 4096 + rvOf_4 k * 33554432) := ⟨by omega, zz.2⟩
  have all := (((zi.or (pD r1) (by decide)).or (pA r2) (by decide)).or (pB r3) (by decide)).1
  rw [hx, all]
  simp only [ic_eq]
  simp
  omega

theorem bv_low (k : Nat) (hk : k ≤ 32) (a : Int) (m : Int) (hm : (BitVec.ofInt 32 m).toNat = 2 ^ k - 1) : (((BitVec.ofInt 32 a) &&& ~~~(BitVec.ofInt 32 m)).toNat : Int) = a % 4294967296 - a % ((2 ^ k : Nat) : Int) := by
  have s := bv_split (BitVec.ofInt 32 a) (BitVec.ofInt 32 m)
  have t := congrArg BitVec.toNat s
  rw [BitVec.toNat_add] at t
  have e2 : (BitVec.ofInt 32 a).toNat = (a % 4294967296).toNat := by rw [BitVec.toNat_ofInt]; rfl
  have e : ((BitVec.ofInt 32 a) &&& BitVec.ofInt 32 m).toNat = (a % 4294967296).toNat % 2 ^ k := by
    rw [BitVec.toNat_and, hm, Nat.and_two_pow_sub_one_eq_mod, e2]
  have l := ((BitVec.ofInt 32 a) &&& ~~~(BitVec.ofInt 32 m)).isLt
  have e3 : ((BitVec.ofInt 32 a) &&& ~~~(BitVec.ofInt 32 m)).toNat ≤ (a % 4294967296).toNat := by
    rw [← e2, BitVec.toNat_and]; exact Nat.and_le_left
  rw [e, e2] at t
  have hd : (2 ^ k : Nat) ∣ 4294967296 := ⟨2 ^ (32 - k), by rw [← Nat.pow_add, show k + (32 - k) = 32 by omega]⟩
  have e4 : (((a % 4294967296).toNat % 2 ^ k : Nat) : Int) = a % ((2 ^ k : Nat) : Int) := by
    rw [Int.natCast_emod, Int.toNat_of_nonneg (by omega)]
    exact Int.emod_emod_of_dvd a (Int.natCast_dvd_natCast.2 hd : ((2 ^ k : Nat) : Int) ∣ ((4294967296 : Nat) : Int))
  have le : (a % 4294967296).toNat % 2 ^ k ≤ (a % 4294967296).toNat := Nat.mod_le _ _
  rw [← e4]
  generalize ((BitVec.ofInt 32 a) &&& ~~~(BitVec.ofInt 32 m)).toNat = q at *
  generalize (a % 4294967296).toNat % 2 ^ k = r at *
  omega
theorem andNot1_i32 (a : Int) (h : -2147483648 ≤ a ∧ a < 2147483648) : ibin .andNot .i32 a 1 = a - a % 2 := by
  show IntKind.i32.wrap (((BitVec.ofInt 32 a) &&& ~~~(BitVec.ofInt 32 1)).toNat : Int) = _
  rw [bv_low 1 (by decide) a 1 (by decide), IntKind.wrap_i32]
  show (a % 4294967296 - a % 2 + 2147483648) % 4294967296 - 2147483648 = _
  omega
theorem andNot4095_i32 (a : Int) (h : -2147483648 ≤ a ∧ a < 2147483648) : ibin .andNot .i32 a 4095 = a - a % 4096 := by
  show IntKind.i32.wrap (((BitVec.ofInt 32 a) &&& ~~~(BitVec.ofInt 32 4095)).toNat : Int) = _
  rw [bv_low 12 (by decide) a 4095 (by decide), IntKind.wrap_i32]
  show (a % 4294967296 - a % 4096 + 2147483648) % 4294967296 - 2147483648 = _
  omega
theorem shlr (a n : Int) (m : Nat) (d : Int) (h : min n.toNat 32 = m) (hd : (2 : Int) ^ m = d) (h0 : 0 < d) (hd2 : d ∣ 2147483648) :
    -2147483648 / d ≤ ibin .shr .i32 (ibin .shl .i32 a n) n ∧ ibin .shr .i32 (ibin .shl .i32 a n) n < 2147483648 / d := by
  rw [shr_l .i32 _ n m d h hd (by omega)]
  have e : ibin .shl .i32 a n = IntKind.i32.wrap (a * d) := by
    show IntKind.i32.wrap (a * 2 ^ (min n.toNat 32)) = _
    rw [h, hd]
  rw [e, IntKind.wrap_i32]
  have lo : -2147483648 ≤ (a * d + 2147483648) % 4294967296 - 2147483648 := by omega
  have hi : (a * d + 2147483648) % 4294967296 - 2147483648 < 2147483648 := by omega
  generalize (a * d + 2147483648) % 4294967296 - 2147483648 = x at *
  refine ⟨Int.ediv_le_ediv h0 lo, ?_⟩
  obtain ⟨c, hc⟩ := hd2
  rw [hc, Int.mul_ediv_cancel_left _ (by omega)]
  apply Int.ediv_lt_of_lt_mul h0
  rw [Int.mul_comm]; omega
theorem numbers_step {op d a b n : Int} (w : W op d a b n) (hb : -2147483648 ≤ n ∧ n < 2147483648) :
    icmp .neq (rvEnc_1 op d a b n) 0 = false ∧ rvDec_5 (rvEnc_0 op d a b n) = true ∧ ((((rvDec_0 (rvEnc_0 op d a b n)) : Int) == op) && ((((rvDec_1 (rvEnc_0 op d a b n)) : Int) == d) && ((((rvDec_2 (rvEnc_0 op d a b n)) : Int) == a) && ((((rvDec_3 (rvEnc_0 op d a b n)) : Int) == b) && ((((rvDec_4 (rvEnc_0 op d a b n)) : Int) == n) && true))))) = true := by
  obtain ⟨r5, r0, r1, r2, r3, r4⟩ := rvDec_enc w hb rfl
  rw [rvEnc_err w, rvEnc_sum w, r5, r0, r1, r2, r3, r4]
  simp [ic_ne]
theorem RvNumbers_true {a0 a1 : Int} (h0 : IntKind.has .i32 a0) (h1 : IntKind.has .u8 a1) : RvNumbers a0 a1 = true := by
  have b0 := i32_bd h0; have b1 := u8_bd h1
  have r : Rg (a1 % 32) := by unfold Rg; omega
  unfold RvNumbers
  rw [show lwKnown = true from rfl, cond_true]
  simp only [rem8 b1.1 (show (0:Int) < 32 by decide) (by decide), andNot4095_i32 a0 b0]
  have s20 := shlr a0 20 20 1048576 (by decide) (by decide) (by decide) ⟨2048, by decide⟩
  have s19 := shlr a0 19 19 524288 (by decide) (by decide) (by decide) ⟨4096, by decide⟩
  have s11 := shlr a0 11 11 2048 (by decide) (by decide) (by decide) ⟨1048576, by decide⟩
  generalize ibin .shr .i32 (ibin .shl .i32 a0 20) 20 = n20 at *
  generalize ibin .shr .i32 (ibin .shl .i32 a0 19) 19 = n19 at *
  generalize ibin .shr .i32 (ibin .shl .i32 a0 11) 11 = n11 at *
  have e20 : -2048 ≤ n20 ∧ n20 < 2048 := by omega
  have e19 : -4096 ≤ n19 ∧ n19 < 4096 := by omega
  have e11 : -1048576 ≤ n11 ∧ n11 < 1048576 := by omega
  rw [andNot1_i32 n19 (by omega), andNot1_i32 n11 (by omega)]
  generalize a1 % 32 = x at *
  have hf2 := form2
  have hf5 := form5 (op := 18) (by decide)
  have hf6 := form6 (op := 6) (by decide)
  have hf8 := form8
  have hf7 := form7
  have z : Rg 0 := ⟨by decide, by decide⟩
  have w1 : W 19 x x 0 n20 := ⟨by decide, Or.inr (Or.inl ⟨Or.inl hf2, r, r, rfl, e20⟩)⟩
  have w2 : W 18 0 x x n20 := ⟨by decide, Or.inr (Or.inr (Or.inr (Or.inl ⟨hf5, rfl, r, r, e20⟩)))⟩
  have w3 : W 6 0 x x (n19 - n19 % 2) := ⟨by decide, Or.inr (Or.inr (Or.inr (Or.inr (Or.inl ⟨hf6, rfl, r, r, by omega, by omega⟩))))⟩
  have w4 : W 3 x 0 0 (n11 - n11 % 2) := ⟨by decide, Or.inr (Or.inr (Or.inr (Or.inr (Or.inr (Or.inr (Or.inl ⟨hf8, r, rfl, rfl, by omega, by omega⟩))))))⟩
  have w5 : W 1 x 0 0 (a0 - a0 % 4096) := ⟨by decide, Or.inr (Or.inr (Or.inr (Or.inr (Or.inr (Or.inl ⟨hf7, r, rfl, rfl, by omega⟩)))))⟩
  obtain ⟨p1, p2, p3⟩ := numbers_step w1 (by omega)
  obtain ⟨q1, q2, q3⟩ := numbers_step w2 (by omega)
  obtain ⟨r1, r2, r3⟩ := numbers_step w3 (by omega)
  obtain ⟨s1, s2, s3⟩ := numbers_step w4 (by omega)
  obtain ⟨t1, t2, t3⟩ := numbers_step w5 (by omega)
  rw [p1, p2, p3, q1, q2, q3, r1, r2, r3, s1, s2, s3, t1, t2, t3]
  rfl
end Go.Proofs.YtahhfjmgdalfpaaDoor
