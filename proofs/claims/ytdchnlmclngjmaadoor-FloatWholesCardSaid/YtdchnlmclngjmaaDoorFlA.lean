/-
  The laws FloatTells, FloatTexts: what they say of plain functions; how a word is read. No program in sight.
-/
import Derived.Test.YtdchnlmclngjmaaDoorFlT
namespace Go.Proofs.YtdchnlmclngjmaaDoor
open Go.Sx
set_option linter.unusedVariables false
set_option linter.unusedSimpArgs false
set_option maxRecDepth 100000

theorem w1 : Ieee.double.signWeight = 9223372036854775808 := by decide
theorem w2 : Ieee.double.binade = 4503599627370496 := by decide
theorem w3 : Ieee.double.infRung = 9218868437227405312 := by decide
theorem w4 : Ieee.double.leastPlace = -1074 := by decide
/-- a word's sign -/
def sg (n : Nat) : Bool := decide (9223372036854775808 ≤ n)
theorem read_eq {n : Nat} (h : n < 18446744073709551616) : Ieee.double.read n =
    if n % 9223372036854775808 < 4503599627370496 then .number (sg n) (n % 9223372036854775808) (-1074)
    else if n % 9223372036854775808 < 9218868437227405312 then .number (sg n) (4503599627370496 + n % 9223372036854775808 % 4503599627370496) (-1074 + ((n % 9223372036854775808 / 4503599627370496 - 1 : Nat) : Int))
    else if n % 9223372036854775808 = 9218868437227405312 then .infinity (sg n) else .nan (sg n) (n % 9223372036854775808 - 9218868437227405312) := by
  have e : (n / 9223372036854775808 % 2 == 1) = sg n := by
    unfold sg
    by_cases c : 9223372036854775808 ≤ n
    · have : n / 9223372036854775808 % 2 = 1 := by omega
      simp [this, c]
    · have : n / 9223372036854775808 % 2 = 0 := by omega
      simp [this, c]
  unfold Ieee.Format.read
  simp only [w1, w2, w3, w4, e]
theorem read_num {n : Nat} (h : n < 18446744073709551616) (hr : n % 9223372036854775808 < 9218868437227405312) : ∃ m p, Ieee.double.read n = .number (sg n) m p := by
  rw [read_eq h]
  split
  · exact ⟨_, _, rfl⟩
  · exact ⟨_, _, rfl⟩
theorem read_inf {n : Nat} (h : n < 18446744073709551616) (hr : n % 9223372036854775808 = 9218868437227405312) : Ieee.double.read n = .infinity (sg n) := by
  rw [read_eq h, if_neg (by omega), if_neg (by omega), if_pos hr]
theorem read_nan' {n : Nat} (h : n < 18446744073709551616) (hr : 9218868437227405312 < n % 9223372036854775808) : ∃ f, Ieee.double.read n = .nan (sg n) f := by
  rw [read_eq h, if_neg (by omega), if_neg (by omega), if_neg (by omega)]; exact ⟨_, rfl⟩
theorem cmp_self (x : Int) : compare x x = .eq := by simp [compare, compareOfLessAndEq]
theorem order_self {n : Nat} (h : n < 18446744073709551616) : (Ieee.double.order n n == some .eq) = decide (n % 9223372036854775808 ≤ 9218868437227405312) := by
  unfold Ieee.Format.order
  by_cases c : n % 9223372036854775808 < 9218868437227405312
  · obtain ⟨m, p, e⟩ := read_num h c
    rw [e, decide_eq_true (by omega)]
    simp [Ieee.Datum.order, cmp_self]
  · by_cases c2 : n % 9223372036854775808 = 9218868437227405312
    · rw [read_inf h c2, decide_eq_true (by omega)]
      cases sg n <;> decide
    · obtain ⟨f, e⟩ := read_nan' h (by omega)
      rw [e, decide_eq_false (by omega)]
      rfl
theorem isN_eq {a : Int} (h : 0 ≤ a ∧ a < 18446744073709551616) : isN a = decide (a % 9223372036854775808 ≤ 9218868437227405312) := by
  obtain ⟨n, rfl⟩ : ∃ n : Nat, a = n := ⟨a.toNat, by omega⟩
  unfold isN
  have hn : ((n : Int)).toNat = n := rfl
  rw [hn, order_self (by omega)]
  by_cases c : n % 9223372036854775808 ≤ 9218868437227405312
  · rw [decide_eq_true c, decide_eq_true (by omega)]
  · rw [decide_eq_false c, decide_eq_false (by omega)]
theorem noN_eq {a : Int} (h : 0 ≤ a ∧ a < 18446744073709551616) : noN a = !(isN a) := by
  rw [isN_eq h]
  unfold noN
  rw [IntKind.wrap_u64]
  by_cases c : a % 9223372036854775808 ≤ 9218868437227405312
  · rw [decide_eq_true c, decide_eq_false (by omega)]; rfl
  · rw [decide_eq_false c, decide_eq_true (by omega)]; rfl
theorem known_true : lwKnown = true := by kernel_rfl
theorem FloatTells_true {a0 a1 : Int} (h0 : IntKind.has .u64 a0) (h1 : IntKind.has .u64 a1) : FloatTells a0 a1 = true := by
  have b0 := has_u64.1 h0
  have b1 := has_u64.1 h1
  have c0 : fCmp_0 a0 a1 = rCmp_0 a0 a1 := by
    show cz a0 a1 = rz a0 a1
    unfold cz rz
    rw [noN_eq b0, noN_eq b1]
    cases isN a0 <;> cases isN a1 <;> rfl
  have c1 : fCmp_1 a0 a1 = rCmp_1 a0 a1 := by
    show cp a0 a1 = rp a0 a1
    unfold cp rp
    rw [noN_eq b0, noN_eq b1]
    cases isN a0 <;> cases isN a1 <;> rfl
  have c2 : fCmp_2 a0 a1 = rCmp_2 a0 a1 := by
    show cc a0 a1 = rc a0 a1
    unfold cc rc
    rw [noN_eq b0, noN_eq b1]
    cases isN a0 <;> cases isN a1 <;> rfl
  have d0 : rDo 0 a0 a1 = fAdd a0 a1 := rfl
  have d1 : rDo 1 a0 a1 = fSub a0 a1 := rfl
  have d2 : rDo 2 a0 a1 = fMul a0 a1 := rfl
  have d3 : rDo 3 a0 a1 = fDiv a0 a1 := rfl
  have n0 : ibin .xor .u64 a0 9223372036854775808 = fNeg a0 := rfl
  have n1 : ibin .andNot .u64 a0 9223372036854775808 = fAbs a0 := rfl
  unfold FloatTells
  rw [known_true, cond_true, d0, d1, d2, d3, n0, n1, c0, c1, c2, rKind_eq b0, fKind_eq b0, fText_list b0, rText_list b0]
  simp [ic_eq]

/-! ### Texts tell their numbers -/
def uv (b : UInt8) : Nat := if b.toNat < 58 then b.toNat - 48 else b.toNat - 87
def valX (l : List UInt8) : Nat := l.foldl (fun a b => 16 * a + uv b) 0
theorem valX_snoc (l : List UInt8) (b : UInt8) : valX (l ++ [b]) = 16 * valX l + uv b := by simp [valX]
theorem hd_ok : ∀ c : Nat, c < 16 → uv (hd c) = c ∧ hd c ≠ 45 ∧ hd c ≠ 105 := by
  intro c h
  have := List.all_eq_true.1 (show (List.range 16).all (fun c : Nat => decide (uv (hd c) = c ∧ hd c ≠ 45 ∧ hd c ≠ 105)) = true from by decide +kernel) c (by simpa using h)
  exact of_decide_eq_true this
theorem valX_hx (n : Nat) : valX (hx n) = n := by
  induction n using Nat.strongRecOn with
  | _ n ih =>
    by_cases h : n < 16
    · rw [hx_small h]
      show 16 * 0 + uv (hd n) = n
      rw [(hd_ok n h).1]; omega
    · rw [hx_big h, valX_snoc, ih (n / 16) (by omega), (hd_ok _ (by omega)).1]; omega
theorem hx_mem (n : Nat) : ∀ b ∈ hx n, b ≠ 45 ∧ b ≠ 105 := by
  induction n using Nat.strongRecOn with
  | _ n ih =>
    intro b hb
    by_cases h : n < 16
    · rw [hx_small h] at hb
      rw [List.mem_singleton.1 hb]; exact (hd_ok n h).2
    · rw [hx_big h] at hb
      rcases List.mem_append.1 hb with hb | hb
      · exact ih (n / 16) (by omega) b hb
      · rw [List.mem_singleton.1 hb]; exact (hd_ok _ (by omega)).2
theorem hx_inj {m n : Nat} (h : hx m = hx n) : m = n := by
  have := congrArg valX h
  rwa [valX_hx, valX_hx] at this
/-- without the sign -/
def body (r : Int) : List UInt8 := if kindF r = 3 then [105, 110, 102] else hx r.toNat
theorem body_head (r : Int) : ∃ b l, body r = b :: l ∧ b ≠ 45 := by
  unfold body
  split
  · exact ⟨_, _, rfl, by decide⟩
  · cases c : hx r.toNat with
    | nil => exact absurd c (hx_ne _)
    | cons b l => exact ⟨b, l, rfl, (hx_mem r.toNat b (by rw [c]; exact List.mem_cons_self)).1⟩
theorem kind3 {r : Int} (h : kindF r = 3) : r = 9218868437227405312 := by
  unfold kindF at h
  split at h
  · omega
  split at h
  · omega
  split at h
  · omega
  split at h
  · assumption
  · omega
theorem body_inj {r s : Int} (hr : 0 ≤ r) (hs : 0 ≤ s) (h : body r = body s) : r = s := by
  unfold body at h
  split at h
  · rename_i c
    split at h
    · rename_i d
      rw [kind3 c, kind3 d]
    · exact absurd ((hx_mem s.toNat 105 (by rw [← h]; exact List.mem_cons_self)).2 rfl) (fun q => q)
  · split at h
    · exact absurd ((hx_mem r.toNat 105 (by rw [h]; exact List.mem_cons_self)).2 rfl) (fun q => q)
    · have := hx_inj h
      omega
theorem txtF_num {a : Int} (h : ¬ kindF (a % 9223372036854775808) = 4) : txtF a = (if a < 9223372036854775808 then [] else [45]) ++ body (a % 9223372036854775808) := by
  unfold txtF body
  rw [if_neg h]
theorem txtF_inj {a b : Int} (ha : 0 ≤ a ∧ a < 18446744073709551616) (hb : 0 ≤ b ∧ b < 18446744073709551616) (h1 : ¬ kindF (a % 9223372036854775808) = 4) (h2 : ¬ kindF (b % 9223372036854775808) = 4) (h : txtF a = txtF b) : a = b := by
  rw [txtF_num h1, txtF_num h2] at h
  obtain ⟨x, l, e1, n1⟩ := body_head (a % 9223372036854775808)
  obtain ⟨y, m, e2, n2⟩ := body_head (b % 9223372036854775808)
  split at h <;> split at h
  · have := body_inj (by omega) (by omega) h
    omega
  · rw [e1] at h
    exact absurd (List.cons.inj h).1 n1
  · rw [e2] at h
    exact absurd (List.cons.inj h).1.symm n2
  · have := body_inj (by omega) (by omega) (List.cons.inj h).2
    omega
theorem txtF_sign {a : Int} (ha : 0 ≤ a ∧ a < 18446744073709551616) (h1 : ¬ kindF (a % 9223372036854775808) = 4) : ((((txtF a).getD 0 0).toNat : Nat) : Int) = 45 ↔ a / 9223372036854775808 = 1 := by
  rw [txtF_num h1]
  obtain ⟨x, l, e1, n1⟩ := body_head (a % 9223372036854775808)
  rw [e1]
  split
  · show ((x.toNat : Nat) : Int) = 45 ↔ _
    have : x.toNat ≠ 45 := fun q => n1 (UInt8.toNat_inj.1 q)
    omega
  · show (((45 : UInt8).toNat : Nat) : Int) = 45 ↔ _
    have : (45 : UInt8).toNat = 45 := rfl
    omega
theorem txtF_nan {a : Int} : txtF a = [110, 97, 110] ↔ kindF (a % 9223372036854775808) = 4 := by
  constructor
  · intro h
    apply Classical.byContradiction
    intro c
    rw [txtF_num c] at h
    unfold body at h
    split at h
    · split at h
      · exact absurd h (by decide)
      · have := hx_mem (a % 9223372036854775808).toNat
        have e : hx (a % 9223372036854775808).toNat = [110, 97, 110] := h
        have v := valX_hx (a % 9223372036854775808).toNat
        have hb : hx (valX [110, 97, 110]) = [110, 97, 110] := by rw [e] at v; rw [v]; exact e
        exact absurd hb (by decide +kernel)
    · exact absurd (List.cons.inj h).1 (by decide)
  · intro c
    unfold txtF
    rw [if_pos c]
theorem FloatTexts_true {a0 a1 : Int} (h0 : IntKind.has .u64 a0) (h1 : IntKind.has .u64 a1) : FloatTexts a0 a1 = true := by
  have b0 := has_u64.1 h0
  have b1 := has_u64.1 h1
  unfold FloatTexts
  rw [known_true, cond_true, fKind_eq b0, fKind_eq b1, fText_list b0, fText_list b1, shr63]
  have hz : ((0 : Int)).toNat = 0 := rfl
  have hn : (⟨#[110, 97, 110]⟩ : ByteArray).data.toList = [110, 97, 110] := rfl
  simp only [ic_eq, hz, hn]
  by_cases c0 : kindF (a0 % 9223372036854775808) = 4
  · have := txtF_nan.2 c0
    simp [c0, this]
  · have t0 : ¬ txtF a0 = [110, 97, 110] := fun q => c0 (txtF_nan.1 q)
    by_cases c1 : kindF (a1 % 9223372036854775808) = 4
    · simp [c0, c1, t0]
    · have sgn := txtF_sign b0 c0
      simp only [List.getD_eq_getElem?_getD] at sgn
      by_cases e : a0 = a1
      · subst e
        simp [c0, sgn]
      · have ne : ¬ txtF a0 = txtF a1 := fun q => e (txtF_inj b0 b1 c0 c1 q)
        simp [c0, c1, e, ne, sgn]
end Go.Proofs.YtdchnlmclngjmaaDoor
