/-
  The laws FloatNone, FloatSmall, FloatEdges: what they say of plain functions. No program in sight.
-/
import Derived.Test.YtdchnlmclngjmaaDoorFlB
namespace Go.Proofs.YtdchnlmclngjmaaDoor
open Go.Sx
open Ieee (Datum Format Toward)
set_option linter.unusedVariables false
set_option linter.unusedSimpArgs false
set_option maxRecDepth 100000

theorem or_nat (k A l : Nat) (hl : l < 2 ^ k) (h : 2 ^ k * A + l < 18446744073709551616) : ibin .or .u64 ((2 ^ k * A : Nat) : Int) (l : Int) = ((2 ^ k * A + l : Nat) : Int) := by
  show IntKind.u64.wrap (((BitVec.ofInt 64 ((2 ^ k * A : Nat) : Int) ||| BitVec.ofInt 64 (l : Int)).toNat : Nat) : Int) = _
  rw [BitVec.toNat_or, BitVec.toNat_ofInt, BitVec.toNat_ofInt]
  have p64 : ((2 ^ 64 : Nat) : Int) = 18446744073709551616 := by decide
  have hor : 2 ^ k * A ||| l = 2 ^ k * A + l := (Nat.two_pow_add_eq_or_of_lt hl A).symm
  generalize 2 ^ k * A = B at *
  have e1 : ((B : Int) % ((2 ^ 64 : Nat) : Int)).toNat = B := by rw [p64]; omega
  have e2 : ((l : Int) % ((2 ^ 64 : Nat) : Int)).toNat = l := by rw [p64]; omega
  rw [e1, e2, hor, IntKind.wrap_u64]
  omega
theorem or_comm (a b : Int) : ibin .or .u64 a b = ibin .or .u64 b a := by
  show IntKind.u64.wrap (((BitVec.ofInt 64 a ||| BitVec.ofInt 64 b).toNat : Nat) : Int) = IntKind.u64.wrap (((BitVec.ofInt 64 b ||| BitVec.ofInt 64 a).toNat : Nat) : Int)
  rw [BitVec.toNat_or, BitVec.toNat_or, Nat.or_comm]
theorem or_hi {x : Int} (h : 0 ≤ x ∧ x < 9223372036854775808) : ibin .or .u64 x 9223372036854775808 = x + 9223372036854775808 := by
  obtain ⟨n, rfl⟩ : ∃ n : Nat, x = n := Int.eq_ofNat_of_zero_le h.1
  rw [or_comm]
  have p63 : (2 : Nat) ^ 63 * 1 = 9223372036854775808 := by decide
  have p63' : (2 : Nat) ^ 63 = 9223372036854775808 := by decide
  have := or_nat 63 1 n (by rw [p63']; omega) (by rw [p63]; omega)
  rw [p63] at this
  have e : ((9223372036854775808 : Nat) : Int) = 9223372036854775808 := rfl
  rw [e] at this
  rw [this]; omega
theorem or_inf {x : Int} (h : 0 ≤ x ∧ x < 4503599627370496) : ibin .or .u64 9218868437227405312 x = 9218868437227405312 + x := by
  obtain ⟨n, rfl⟩ : ∃ n : Nat, x = n := Int.eq_ofNat_of_zero_le h.1
  have p : (2 : Nat) ^ 52 * 2047 = 9218868437227405312 := by decide
  have p' : (2 : Nat) ^ 52 = 4503599627370496 := by decide
  have := or_nat 52 2047 n (by rw [p']; omega) (by rw [p]; omega)
  rw [p] at this
  have e : ((9218868437227405312 : Nat) : Int) = 9218868437227405312 := rfl
  rw [e] at this
  rw [this]; omega
theorem or_zero {x : Int} (h : 0 ≤ x ∧ x < 18446744073709551616) : ibin .or .u64 x 0 = x := by
  obtain ⟨n, rfl⟩ : ∃ n : Nat, x = n := Int.eq_ofNat_of_zero_le h.1
  rw [or_comm]
  have := or_nat 64 0 n (by have : (2 : Nat) ^ 64 = 18446744073709551616 := by decide
                            rw [this]; omega) (by rw [Nat.mul_zero, Nat.zero_add]; omega)
  rw [Nat.mul_zero, Nat.zero_add] at this
  exact this

/-! ### What is no number -/
theorem sum_nan1 (s : Bool) (f : Nat) (d : Datum) : Datum.sum (.nan s f) d = none := by cases d <;> rfl
theorem sum_nan2 (s : Bool) (f : Nat) (d : Datum) : Datum.sum d (.nan s f) = none := by cases d <;> rfl
theorem product_nan (s : Bool) (f : Nat) (d : Datum) : Datum.product (.nan s f) d = none := by cases d <;> rfl
theorem quotient_nan (s : Bool) (f : Nat) (d : Datum) : Datum.quotient 54 d (.nan s f) = none := by cases d <;> rfl
structure NoNum (N a : Int) : Prop where
  add : fAdd N a = 9221120237041090560
  sub : fSub a N = 9221120237041090560
  mul : fMul N a = 9221120237041090560
  div : fDiv a N = 9221120237041090560
  c0 : fCmp_0 N a = true
  c1 : fCmp_1 N a = true
  c2 : fCmp_2 N a = true
  d0 : fCmp_0 a N = true
  d1 : fCmp_1 a N = true
  d2 : fCmp_2 a N = true
  kind : fKind N = 4
  text : (fText N).data.toList = [110, 97, 110]
  neg : fNeg (fNeg N) = N
theorem noNum {N : Int} (a : Int) (h : 0 ≤ N ∧ N < 18446744073709551616) (hr : 9218868437227405312 < N % 9223372036854775808) : NoNum N a := by
  have k : kindF (N % 9223372036854775808) = 4 := (kind4 (by omega)).2 hr
  have i : isN N = false := by rw [isN_eq h]; exact decide_eq_false (by omega)
  have hd : ∃ s f, Ieee.double.read N.toNat = .nan s f := by
    obtain ⟨f, e⟩ := read_nan' (n := N.toNat) (by omega) (by omega)
    exact ⟨_, f, e⟩
  obtain ⟨s, f, hd⟩ := hd
  have hneg : fNeg (fNeg N) = N := by
    have e1 := fNeg_eq h
    have b : 0 ≤ fNeg N ∧ fNeg N < 18446744073709551616 := by rw [e1]; split <;> omega
    have e2 := fNeg_eq b
    generalize fNeg N = v at *
    rw [e2]
    split at e1 <;> split <;> omega
  refine ⟨?_, ?_, ?_, ?_, ?_, ?_, ?_, ?_, ?_, ?_, ?_, ?_, hneg⟩
  · show arith .add N a = _
    rw [arith_add, hd, sum_nan1]; rfl
  · show arith .sub a N = _
    rw [arith_sub, hd]
    show outD (Datum.sum _ (.nan (!s) f)) = _
    rw [sum_nan2]; rfl
  · show arith .mul N a = _
    rw [arith_mul, hd, product_nan]; rfl
  · show arith .quo a N = _
    rw [arith_div, hd, quotient_nan]; rfl
  · show cz N a = true
    unfold cz; rw [i]; rfl
  · show cp N a = true
    unfold cp; rw [i]; rfl
  · show cc N a = true
    unfold cc; rw [i]; rfl
  · show cz a N = true
    unfold cz; rw [i]; cases isN a <;> rfl
  · show cp a N = true
    unfold cp; rw [i]; cases isN a <;> rfl
  · show cc a N = true
    unfold cc; rw [i]; cases isN a <;> rfl
  · rw [fKind_eq h, k]
  · rw [fText_list h]; exact txtF_nan.2 k
theorem FloatNone_true {a0 a1 : Int} (a2 : Bool) (h0 : IntKind.has .u64 a0) (h1 : IntKind.has .u64 a1) : FloatNone a0 a1 a2 = true := by
  have b1 := has_u64.1 h1
  have hn : (⟨#[110, 97, 110]⟩ : ByteArray).data.toList = [110, 97, 110] := rfl
  unfold FloatNone
  rw [known_true, cond_true, shl12, shr12]
  simp only [ic_eq, hn]
  by_cases c : a1 * 4096 % 18446744073709551616 = 0
  · rw [decide_eq_true c, cond_true]
    cases a2
    · rw [cond_false]
      obtain ⟨p1, p2, p3, p4, p5, p6, p7, p8, p9, p10, p11, p12, p13⟩ := noNum (N := 9221120237041090560) a0 (by decide) (by decide)
      simp [p1, p2, p3, p4, p5, p6, p7, p8, p9, p10, p11, p12, p13]
    · rw [cond_true]
      obtain ⟨p1, p2, p3, p4, p5, p6, p7, p8, p9, p10, p11, p12, p13⟩ := noNum (N := 18444492273895866368) a0 (by decide) (by decide)
      simp [p1, p2, p3, p4, p5, p6, p7, p8, p9, p10, p11, p12, p13]
  · rw [decide_eq_false c, cond_false]
    have ht : 0 < a1 * 4096 % 18446744073709551616 / 4096 ∧ a1 * 4096 % 18446744073709551616 / 4096 < 4503599627370496 := by omega
    generalize a1 * 4096 % 18446744073709551616 / 4096 = t at *
    rw [or_inf ⟨by omega, ht.2⟩]
    cases a2
    · rw [cond_false]
      obtain ⟨p1, p2, p3, p4, p5, p6, p7, p8, p9, p10, p11, p12, p13⟩ := noNum (N := 9218868437227405312 + t) a0 (by omega) (by omega)
      simp [p1, p2, p3, p4, p5, p6, p7, p8, p9, p10, p11, p12, p13]
    · rw [cond_true, or_hi (by omega)]
      obtain ⟨p1, p2, p3, p4, p5, p6, p7, p8, p9, p10, p11, p12, p13⟩ := noNum (N := 9218868437227405312 + t + 9223372036854775808) a0 (by omega) (by omega)
      simp [p1, p2, p3, p4, p5, p6, p7, p8, p9, p10, p11, p12, p13]

/-! ### The least numbers -/
theorem sub_word (s : Bool) {r : Nat} (h : r < 4503599627370496) : Ieee.double.nearest s r (-1074) = wd s r := by
  have hb : wd s r < 18446744073709551616 := by unfold wd; split <;> omega
  have hm : wd s r % 9223372036854775808 = r := by unfold wd; split <;> omega
  have hs : sg (wd s r) = s := by
    unfold sg wd
    cases s
    · rw [if_neg (by decide)]; exact decide_eq_false (by omega)
    · rw [if_pos rfl]; exact decide_eq_true (by omega)
  obtain ⟨m, p, hd, hn, -⟩ := fin_word hb (by rw [hm]; omega)
  have := read_eq hb
  rw [hm, if_pos h, hs, hd, hs] at this
  injection this with e1 e2 e3
  rw [hs, e2, e3] at hn
  exact hn
theorem sub_read (s : Bool) {r : Nat} (h : r < 4503599627370496) : Ieee.double.read (wd s r) = .number s r (-1074) := by
  have hb : wd s r < 18446744073709551616 := by unfold wd; split <;> omega
  have hm : wd s r % 9223372036854775808 = r := by unfold wd; split <;> omega
  have hs : sg (wd s r) = s := by
    unfold sg wd
    cases s
    · rw [if_neg (by decide)]; exact decide_eq_false (by omega)
    · rw [if_pos rfl]; exact decide_eq_true (by omega)
  rw [read_eq hb, hm, if_pos h, hs]
theorem sum_same (s : Bool) (m k : Nat) : Datum.sum (.number s m (-1074)) (.number s k (-1074)) = some (.number s (m + k) (-1074)) := by
  unfold Datum.sum
  have hb : min (-1074 : Int) (-1074) = -1074 := by decide
  have e : (-1074 - -1074 : Int).toNat = 0 := by decide
  simp only [hb, e]
  unfold Ieee.signed
  cases s
  · simp only [Bool.false_eq_true, if_false, Nat.shiftLeft_zero]
    have h1 : ((m : Int) + (k : Int)).natAbs = m + k := by omega
    rw [h1]
    by_cases z : (m : Int) + k = 0
    · rw [if_pos z]; rfl
    · rw [if_neg z]
      have : decide ((m : Int) + (k : Int) < 0) = false := decide_eq_false (by omega)
      rw [this]
  · simp only [if_true, Nat.shiftLeft_zero]
    have h1 : (-(m : Int) + -(k : Int)).natAbs = m + k := by omega
    rw [h1]
    by_cases z : -(m : Int) + -(k : Int) = 0
    · rw [if_pos z]; rfl
    · rw [if_neg z]
      have : decide (-(m : Int) + -(k : Int) < 0) = true := decide_eq_true (by omega)
      rw [this]
theorem small_add (s : Bool) {m k : Nat} (hm : m < 4294967296) (hk : k < 4294967296) : arith .add (wd s m : Int) (wd s k : Int) = (wd s (m + k) : Int) := by
  rw [arith_add]
  have e1 : ((wd s m : Nat) : Int).toNat = wd s m := rfl
  have e2 : ((wd s k : Nat) : Int).toNat = wd s k := rfl
  rw [e1, e2, sub_read s (by omega), sub_read s (by omega), sum_same, out_num, sub_word s (by omega)]
theorem sum_gone (s : Bool) (m : Nat) (p : Int) : Datum.sum (.number s m p) (.number (!s) m p) = some (.number false 0 p) := by
  unfold Datum.sum
  have hb : min p p = p := by omega
  simp only [hb, signed_not]
  have e : Ieee.signed s m (p - p).toNat + -Ieee.signed s m (p - p).toNat = 0 := by omega
  rw [e, if_pos rfl]
  cases s <;> rfl
theorem near_zero (s : Bool) (p : Int) : Ieee.double.nearest s 0 p = wd s 0 := by
  unfold Format.nearest
  rw [if_pos rfl, word_wd]
theorem sub_self {n : Nat} (h : n < 18446744073709551616) (hr : n % 9223372036854775808 < 9218868437227405312) : arith .sub (n : Int) n = 0 := by
  rw [arith_sub]
  have e1 : ((n : Int)).toNat = n := rfl
  obtain ⟨m, p, hd, -⟩ := fin_word h hr
  rw [e1, hd]
  show outD (Datum.sum (.number (sg n) m p) (.number (!sg n) m p)) = _
  rw [sum_gone, out_num, near_zero]; rfl
theorem half_pos : fMul 1 4602678819172646912 = 0 := by kernel_rfl
theorem half_neg : fMul 9223372036854775809 4602678819172646912 = 9223372036854775808 := by kernel_rfl
theorem mul_zero {n : Nat} (h : n < 4294967296) : fMul (n : Int) 0 = 0 := by
  show arith .mul (n : Int) 0 = 0
  rw [arith_mul]
  have e1 : ((n : Int)).toNat = wd false n := by simp [wd]
  have e2 : (0 : Int).toNat = 0 := rfl
  rw [e1, e2, zero_read, sub_read false (by omega)]
  show outD (some (.number (false ^^ false) (n * 0) (-1074 + -1074))) = _
  rw [out_num, Nat.mul_zero, near_zero]; rfl
theorem kind_small {r : Int} (h : 0 < r ∧ r < 4294967296) : kindF r = 1 := by
  unfold kindF
  rw [if_neg (by omega), if_pos (by omega)]
theorem FloatSmall_true {a0 a1 : Int} (a2 : Bool) (h0 : IntKind.has .u32 a0) (h1 : IntKind.has .u32 a1) : FloatSmall a0 a1 a2 = true := by
  have b0 := has_u32.1 h0
  have b1 := has_u32.1 h1
  have w0 : IntKind.wrap .u64 a0 = a0 := by rw [IntKind.wrap_u64]; omega
  have w1 : IntKind.wrap .u64 a1 = a1 := by rw [IntKind.wrap_u64]; omega
  have ad : ibin .add .u64 a0 a1 = a0 + a1 := by
    show IntKind.u64.wrap (a0 + a1) = _
    rw [IntKind.wrap_u64]; omega
  unfold FloatSmall
  rw [known_true, cond_true]
  simp only [w0, w1, ad, ic_eq]
  rw [or_hi (x := a0) (by omega), or_hi (x := a1) (by omega), or_hi (x := a0 + a1) (by omega), or_zero (x := a0) (by omega), or_zero (x := a1) (by omega), or_zero (x := a0 + a1) (by omega), half_pos, half_neg]
  obtain ⟨m, rfl⟩ : ∃ n : Nat, a0 = n := Int.eq_ofNat_of_zero_le b0.1
  obtain ⟨k, rfl⟩ : ∃ n : Nat, a1 = n := Int.eq_ofNat_of_zero_le b1.1
  have s1 : fAdd ((m : Int) + 9223372036854775808) ((k : Int) + 9223372036854775808) = (m : Int) + k + 9223372036854775808 := by
    have := small_add true (m := m) (k := k) (by omega) (by omega)
    have e (n : Nat) : ((wd true n : Nat) : Int) = (n : Int) + 9223372036854775808 := by unfold wd; rw [if_pos rfl]; omega
    rw [e, e, e] at this
    exact this.trans (by omega)
  have s2 : fAdd (m : Int) (k : Int) = (m : Int) + k := by
    have := small_add false (m := m) (k := k) (by omega) (by omega)
    have e (n : Nat) : ((wd false n : Nat) : Int) = (n : Int) := by unfold wd; rw [if_neg (by decide)]; omega
    rw [e, e, e] at this
    exact this.trans (by omega)
  have s3 : fSub (m : Int) m = 0 := sub_self (by omega) (by omega)
  have s4 : fMul (m : Int) 0 = 0 := mul_zero (by omega)
  rw [s1, s2, s3, s4]
  by_cases z : (m : Int) = 0
  · cases a2 <;> simp [z]
  · have k1 : fKind (m : Int) = 1 := by rw [fKind_eq (by omega)]; exact kind_small (by omega)
    have k2 : fKind ((m : Int) + 9223372036854775808) = 1 := by rw [fKind_eq (by omega)]; exact kind_small (by omega)
    rw [k1, k2]
    cases a2 <;> simp [z]

/-! ### Noughts and infinities -/
theorem nz_read (t : Bool) : Ieee.double.read (wd t 0) = .number t 0 (-1074) := sub_read t (by decide)
theorem inf_read (t : Bool) : Ieee.double.read (wd t 9218868437227405312) = .infinity t := by cases t <;> decide +kernel
structure Edges (n : Nat) (s t : Bool) : Prop where
  a1 : arith .add (n : Int) (wd s 0 : Int) = n
  a2 : arith .add (n : Int) (wd t 9218868437227405312 : Int) = (wd t 9218868437227405312 : Int)
  m1 : arith .mul (n : Int) (wd s 0 : Int) = (wd (sg n ^^ s) 0 : Int)
  m2 : arith .mul (n : Int) (wd t 9218868437227405312 : Int) = (wd (sg n ^^ t) 9218868437227405312 : Int)
  q1 : arith .quo (n : Int) (wd s 0 : Int) = (wd (sg n ^^ s) 9218868437227405312 : Int)
  q2 : arith .quo (n : Int) (wd t 9218868437227405312 : Int) = (wd (sg n ^^ t) 0 : Int)
theorem edges {n : Nat} (h : n < 18446744073709551616) (h0 : n % 9223372036854775808 ≠ 0) (hr : n % 9223372036854775808 < 9218868437227405312) (s t : Bool) : Edges n s t := by
  obtain ⟨m, p, hd, hn, hm, hp, -, hz⟩ := fin_word h hr
  have hm0 : m ≠ 0 := fun q => h0 (hz.1 q)
  have e0 : ((n : Int)).toNat = n := rfl
  have e1 (k : Nat) : ((k : Nat) : Int).toNat = k := rfl
  refine ⟨?_, ?_, ?_, ?_, ?_, ?_⟩
  · rw [arith_add, e0, e1, hd, nz_read, sum_zero _ _ _ hp, if_neg hm0, out_num, near_back _ _ hp, hn]
  · rw [arith_add, e0, e1, hd, inf_read]
    show outD (some (.infinity t)) = _
    rw [out_inf]
  · rw [arith_mul, e0, e1, hd, nz_read]
    show outD (some (.number (sg n ^^ s) (m * 0) (p + -1074))) = _
    rw [out_num, Nat.mul_zero, near_zero]
  · rw [arith_mul, e0, e1, hd, inf_read]
    show outD (if m = 0 then none else some (.infinity (t ^^ sg n))) = _
    rw [if_neg hm0, out_inf, Bool.xor_comm]
  · rw [arith_div, e0, e1, hd, nz_read]
    have hq : Datum.quotient 54 (.number (sg n) m p) (.number s 0 (-1074)) = some (.infinity (sg n ^^ s)) := by
      unfold Datum.quotient
      simp only [if_true]
      rw [if_neg hm0]
    rw [hq, out_inf]
  · rw [arith_div, e0, e1, hd, inf_read]
    show outD (some (.number (sg n ^^ t) 0 0)) = _
    rw [out_num, near_zero]
theorem lit1 : fMul 9223372036854775808 18442240474082181120 = 9221120237041090560 := by kernel_rfl
theorem lit2 : fMul 9223372036854775808 9218868437227405312 = 9221120237041090560 := by kernel_rfl
theorem lit3 : fMul 0 18442240474082181120 = 9221120237041090560 := by kernel_rfl
theorem lit4 : fMul 0 9218868437227405312 = 9221120237041090560 := by kernel_rfl
theorem lit5 : fDiv 18442240474082181120 18442240474082181120 = 9221120237041090560 := by kernel_rfl
theorem lit6 : fDiv 9218868437227405312 9218868437227405312 = 9221120237041090560 := by kernel_rfl
theorem lit7 : fDiv 9223372036854775808 9223372036854775808 = 9221120237041090560 := by kernel_rfl
theorem lit8 : fDiv 0 0 = 9221120237041090560 := by kernel_rfl
theorem wds : ((wd false 0 : Nat) : Int) = 0 ∧ ((wd true 0 : Nat) : Int) = 9223372036854775808 ∧ ((wd false 9218868437227405312 : Nat) : Int) = 9218868437227405312 ∧ ((wd true 9218868437227405312 : Nat) : Int) = 18442240474082181120 := by decide
theorem kind12 {r : Int} (h0 : 0 ≤ r) (h : kindF r = 1 ∨ kindF r = 2) : r ≠ 0 ∧ r < 9218868437227405312 := by
  unfold kindF at h
  split at h
  · omega
  split at h
  · omega
  split at h
  · omega
  split at h <;> omega
theorem FloatEdges_true {a0 : Int} (a1 a2 : Bool) (h0 : IntKind.has .u64 a0) : FloatEdges a0 a1 a2 = true := by
  have b0 := has_u64.1 h0
  unfold FloatEdges
  rw [known_true, cond_true, fKind_eq b0, shr63, lit1, lit2, lit3, lit4, lit5, lit6, lit7, lit8]
  simp only [ic_eq, ic_ne]
  by_cases k : kindF (a0 % 9223372036854775808) = 1 ∨ kindF (a0 % 9223372036854775808) = 2
  · have hk := kind12 (by omega) k
    obtain ⟨n, rfl⟩ : ∃ n : Nat, a0 = n := Int.eq_ofNat_of_zero_le b0.1
    have hb : n < 18446744073709551616 := by omega
    have hr0 : n % 9223372036854775808 ≠ 0 := by omega
    have hr : n % 9223372036854775808 < 9218868437227405312 := by omega
    have F := edges hb hr0 hr false false
    have T := edges hb hr0 hr true true
    have f1 : fAdd (n : Int) _ = _ := F.a1
    have f2 : fAdd (n : Int) _ = _ := F.a2
    have f3 : fMul (n : Int) _ = _ := F.m1
    have f4 : fMul (n : Int) _ = _ := F.m2
    have f5 : fDiv (n : Int) _ = _ := F.q1
    have f6 : fDiv (n : Int) _ = _ := F.q2
    have t1 : fAdd (n : Int) _ = _ := T.a1
    have t2 : fAdd (n : Int) _ = _ := T.a2
    have t3 : fMul (n : Int) _ = _ := T.m1
    have t4 : fMul (n : Int) _ = _ := T.m2
    have t5 : fDiv (n : Int) _ = _ := T.q1
    have t6 : fDiv (n : Int) _ = _ := T.q2
    have sb : fSub (n : Int) n = 0 := sub_self hb hr
    have hkk : (!decide (kindF ((n : Int) % 9223372036854775808) = 1)) = false ∨ ((!decide (kindF ((n : Int) % 9223372036854775808) = 1)) = true ∧ (!decide (kindF ((n : Int) % 9223372036854775808) = 2)) = false) := by
      by_cases q1 : kindF ((n : Int) % 9223372036854775808) = 1
      · left; simp [q1]
      · right
        have q2 : kindF ((n : Int) % 9223372036854775808) = 2 := by omega
        simp [q1, q2]
    by_cases hs : (n : Int) / 9223372036854775808 = 1
    · have sgn : sg n = true := by unfold sg; exact decide_eq_true (by omega)
      simp only [wds.1, wds.2.1, wds.2.2.1, wds.2.2.2, sgn, Bool.true_xor, Bool.not_true, Bool.not_false] at f1 f2 f3 f4 f5 f6 t1 t2 t3 t4 t5 t6
      rw [decide_eq_true hs, f1, f2, f3, f4, f5, f6, t1, t2, t3, t4, t5, t6, sb]
      rcases hkk with q | ⟨q1, q2⟩
      · rw [q]; cases a1 <;> cases a2 <;> simp
      · rw [q1, q2]; cases a1 <;> cases a2 <;> simp
    · have sgn : sg n = false := by unfold sg; exact decide_eq_false (by omega)
      simp only [wds.1, wds.2.1, wds.2.2.1, wds.2.2.2, sgn, Bool.false_xor] at f1 f2 f3 f4 f5 f6 t1 t2 t3 t4 t5 t6
      rw [decide_eq_false hs, f1, f2, f3, f4, f5, f6, t1, t2, t3, t4, t5, t6, sb]
      rcases hkk with q | ⟨q1, q2⟩
      · rw [q]; cases a1 <;> cases a2 <;> simp
      · rw [q1, q2]; cases a1 <;> cases a2 <;> simp
  · have q1 : ¬ kindF (a0 % 9223372036854775808) = 1 := fun q => k (Or.inl q)
    have q2 : ¬ kindF (a0 % 9223372036854775808) = 2 := fun q => k (Or.inr q)
    rw [decide_eq_false q1, decide_eq_false q2]
    cases a1 <;> cases a2 <;> rfl
end Go.Proofs.YtdchnlmclngjmaaDoor
