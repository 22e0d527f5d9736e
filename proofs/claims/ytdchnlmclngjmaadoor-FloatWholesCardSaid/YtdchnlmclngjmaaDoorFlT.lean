/-
  Plain laws of words of 64 bits and of the numbers' texts. No program in sight.
-/
import Derived.Test.YtdchnlmclngjmaaDoorBase
import Derived.WalkKit
namespace Go.Proofs.YtdchnlmclngjmaaDoor
open Go.Sx
set_option linter.unusedVariables false
set_option linter.unusedSimpArgs false
set_option maxRecDepth 100000

/-- a shift, written shorter -/
def h4 (x n : Int) : Int := ibin .shr .u64 x n
theorem ic_eq (a b : Int) : icmp .eql a b = decide (a = b) := by
  show (a == b) = _
  by_cases h : a = b <;> simp [h]
theorem ic_ne (a b : Int) : icmp .neq a b = !decide (a = b) := by
  show (a != b) = _
  by_cases h : a = b <;> simp [h]
theorem ic_lt (a b : Int) : icmp .lss a b = decide (a < b) := rfl
theorem ic_le (a b : Int) : icmp .leq a b = decide (a ≤ b) := rfl
theorem ic_gt (a b : Int) : icmp .gtr a b = decide (b < a) := rfl
theorem ic_ge (a b : Int) : icmp .geq a b = decide (b ≤ a) := rfl
theorem shr_l (k : IntKind) (a n : Int) (m : Nat) (d : Int) (h : min n.toNat k.bits = m) (hd : (2 : Int) ^ m = d) (h0 : 0 ≤ d) : ibin .shr k a n = a / d := by
  show a.fdiv (2 ^ (min n.toNat k.bits)) = a / d
  rw [h, hd, Int.fdiv_eq_ediv_of_nonneg a h0]
theorem shl_u64 (a n : Int) (m : Nat) (d : Int) (h : min n.toNat 64 = m) (hd : (2 : Int) ^ m = d) : ibin .shl .u64 a n = a * d % 18446744073709551616 := by
  show IntKind.u64.wrap (a * 2 ^ (min n.toNat 64)) = _
  rw [h, hd, IntKind.wrap_u64]
theorem shr4 (a : Int) : ibin .shr .u64 a 4 = a / 16 := shr_l .u64 a 4 4 16 (by decide) (by decide) (by decide)
theorem shr1 (a : Int) : ibin .shr .u64 a 1 = a / 2 := shr_l .u64 a 1 1 2 (by decide) (by decide) (by decide)
theorem shr52 (a : Int) : ibin .shr .u64 a 52 = a / 4503599627370496 := shr_l .u64 a 52 52 4503599627370496 (by decide) (by decide) (by decide)
theorem shr12 (a : Int) : ibin .shr .u64 a 12 = a / 4096 := shr_l .u64 a 12 12 4096 (by decide) (by decide) (by decide)
theorem shr63 (a : Int) : ibin .shr .u64 a 63 = a / 9223372036854775808 := shr_l .u64 a 63 63 9223372036854775808 (by decide) (by decide) (by decide)
theorem shl1 (a : Int) : ibin .shl .u64 a 1 = a * 2 % 18446744073709551616 := shl_u64 a 1 1 2 (by decide) (by decide)
theorem shl12 (a : Int) : ibin .shl .u64 a 12 = a * 4096 % 18446744073709551616 := shl_u64 a 12 12 4096 (by decide) (by decide)
theorem and_nat (k : Nat) (hk : k ≤ 64) (a M : Int) (hM : (BitVec.ofInt 64 M).toNat = 2 ^ k - 1) (P : Int) (hP : ((2 ^ k : Nat) : Int) = P) : (((BitVec.ofInt 64 a) &&& (BitVec.ofInt 64 M)).toNat : Int) = a % P := by
  have e : ((BitVec.ofInt 64 a) &&& (BitVec.ofInt 64 M)).toNat = (a % 18446744073709551616).toNat % 2 ^ k := by
    rw [BitVec.toNat_and, hM, Nat.and_two_pow_sub_one_eq_mod, BitVec.toNat_ofInt]
    rfl
  have hd : (P : Int) ∣ 18446744073709551616 := by
    rw [← hP]
    have : (2 ^ k : Nat) ∣ 2 ^ 64 := Nat.pow_dvd_pow 2 hk
    exact Int.ofNat_dvd.2 this
  rw [e, Int.natCast_emod, hP, Int.toNat_of_nonneg (by omega), Int.emod_emod_of_dvd _ hd]
theorem and15 (a : Int) : ibin .and .u64 a 15 = a % 16 := by
  show IntKind.u64.wrap (((BitVec.ofInt 64 a) &&& (BitVec.ofInt 64 15)).toNat : Int) = _
  rw [and_nat 4 (by decide) a 15 (by decide) 16 (by decide), IntKind.wrap_u64]; omega
theorem add16 (x : Int) : ibin .add .u64 (x % 16) 1 = x % 16 + 1 := by
  show IntKind.u64.wrap (x % 16 + 1) = _
  rw [IntKind.wrap_u64]; omega
theorem bv_split (x m : BitVec 64) : (x &&& m) + (x &&& ~~~m) = x := by
  have h : (x &&& m) &&& (x &&& ~~~m) = 0#64 := by
    apply BitVec.eq_of_getLsbD_eq
    intro i hi
    simp only [BitVec.getLsbD_and, BitVec.getLsbD_not, BitVec.getLsbD_zero]
    cases x.getLsbD i <;> cases m.getLsbD i <;> simp
  rw [BitVec.add_eq_or_of_and_eq_zero _ _ h]
  apply BitVec.eq_of_getLsbD_eq
  intro i hi
  simp only [BitVec.getLsbD_and, BitVec.getLsbD_or, BitVec.getLsbD_not, hi, decide_true, Bool.true_and]
  cases x.getLsbD i <;> cases m.getLsbD i <;> simp
theorem fAbs_eq (a : Int) : fAbs a = a % 9223372036854775808 := by
  have hm : ~~~(BitVec.ofInt 64 9223372036854775808) = BitVec.ofInt 64 9223372036854775807 := by decide
  show IntKind.u64.wrap (((BitVec.ofInt 64 a) &&& ~~~(BitVec.ofInt 64 9223372036854775808)).toNat : Int) = _
  rw [hm, and_nat 63 (by decide) a 9223372036854775807 (by decide) 9223372036854775808 (by decide), IntKind.wrap_u64]; omega
theorem high_eq (a : Int) (h0 : 0 ≤ a) (h1 : a < 18446744073709551616) : ibin .and .u64 a 9223372036854775808 = a - a % 9223372036854775808 := by
  have s := bv_split (BitVec.ofInt 64 a) (BitVec.ofInt 64 9223372036854775808)
  have t := congrArg BitVec.toNat s
  rw [BitVec.toNat_add] at t
  have hm : ~~~(BitVec.ofInt 64 9223372036854775808) = BitVec.ofInt 64 9223372036854775807 := by decide
  have e := and_nat 63 (by decide) a 9223372036854775807 (by decide) 9223372036854775808 (by decide)
  rw [hm] at t
  have e2 : (BitVec.ofInt 64 a).toNat = a.toNat := by
    rw [BitVec.toNat_ofInt]
    have : (a % ((2 ^ 64 : Nat) : Int)) = a := Int.emod_eq_of_lt h0 h1
    rw [this]
  have l := ((BitVec.ofInt 64 a) &&& BitVec.ofInt 64 9223372036854775808).isLt
  have e3 : ((BitVec.ofInt 64 a) &&& BitVec.ofInt 64 9223372036854775808).toNat ≤ a.toNat := by
    rw [← e2, BitVec.toNat_and]; exact Nat.and_le_left
  rw [e2] at t
  show IntKind.u64.wrap (((BitVec.ofInt 64 a) &&& (BitVec.ofInt 64 9223372036854775808)).toNat : Int) = _
  rw [IntKind.wrap_u64]
  generalize ((BitVec.ofInt 64 a) &&& BitVec.ofInt 64 9223372036854775808).toNat = q at *
  generalize ((BitVec.ofInt 64 a) &&& BitVec.ofInt 64 9223372036854775807).toNat = r at *
  omega

theorem byte_lt (b : UInt8) : ((b.toNat : Nat) : Int) < 256 := by have := b.toNat_lt; omega
theorem ba_size (l : List UInt8) : (⟨l.toArray⟩ : ByteArray).size = l.length := by
  show l.toArray.size = l.length
  simp
/-! ### Numerals of base sixteen -/
def hd (c : Nat) : UInt8 := UInt8.ofNat (if c < 10 then 48 + c else 87 + c)
def hx (n : Nat) : List UInt8 := if h : n < 16 then [hd n] else hx (n / 16) ++ [hd (n % 16)]
termination_by n
theorem hx_small {n : Nat} (h : n < 16) : hx n = [hd n] := by rw [hx, dif_pos h]
theorem hx_big {n : Nat} (h : ¬ n < 16) : hx n = hx (n / 16) ++ [hd (n % 16)] := by rw [hx, dif_neg h]
abbrev dig36 : ByteArray := dg36
abbrev dig16 : ByteArray := dg16
def sat (u : Int) : Int := ((dig36.data.toList.getD u.toNat 0).toNat : Int)
theorem sat_at : ∀ c : Nat, c < 16 → UInt8.ofNat (sat (c : Int)).toNat = hd c := by
  intro c h
  have := List.all_eq_true.1 (show (List.range 16).all (fun c : Nat => decide (UInt8.ofNat (sat (Int.ofNat c)).toNat = hd c)) = true from by decide +kernel) c (by simpa using h)
  exact of_decide_eq_true this
theorem sub_at : ∀ c : Nat, c < 16 → (dig16.extract c (c + 1)).data.toList = [hd c] := by
  intro c h
  have := List.all_eq_true.1 (show (List.range 16).all (fun c : Nat => decide ((dig16.extract c (c + 1)).data.toList = [hd c])) = true from by decide +kernel) c (by simpa using h)
  exact of_decide_eq_true this
/-- the library's digits, as the tree has them -/
def goT (pre : ByteArray) : Nat → Int → List Int → ByteArray
  | 0, u, acc => pre ++ ⟨(UInt8.ofNat (sat u).toNat :: acc.map fun n => UInt8.ofNat n.toNat).toArray⟩
  | k + 1, u, acc => bif icmp .geq u 16 then goT pre k (ibin .shr .u64 u 4) (sat (ibin .and .u64 u 15) :: acc) else pre ++ ⟨(UInt8.ofNat (sat u).toNat :: acc.map fun n => UInt8.ofNat n.toNat).toArray⟩
theorem app_list (a b : ByteArray) : (a ++ b).data.toList = a.data.toList ++ b.data.toList := by simp
theorem goT_hx (pre : ByteArray) : ∀ (k : Nat) (u : Int) (acc : List Int), 0 ≤ u → u < 16 ^ (k + 1) → (goT pre k u acc).data.toList = pre.data.toList ++ (hx u.toNat ++ acc.map fun n => UInt8.ofNat n.toNat)
  | 0, u, acc, h0, h1 => by
    have h2 : u.toNat < 16 := by simp at h1; omega
    obtain ⟨c, rfl⟩ : ∃ c : Nat, u = c := ⟨u.toNat, by omega⟩
    unfold goT
    rw [app_list, sat_at c (by omega), hx_small h2]
    rfl
  | k + 1, u, acc, h0, h1 => by
    obtain ⟨c, rfl⟩ : ∃ c : Nat, u = c := ⟨u.toNat, by omega⟩
    unfold goT
    rw [ic_ge]
    by_cases h : (16 : Int) ≤ c
    · have e : ((c : Int) % 16).toNat = c % 16 := by omega
      have e2 : ((c : Int) / 16).toNat = c / 16 := by omega
      have e3 : ((c : Int) % 16) = ((c % 16 : Nat) : Int) := by omega
      have h4 : (c : Int) / 16 < 16 ^ (k + 1) := by
        have : (16 : Int) ^ (k + 1 + 1) = 16 ^ (k + 1) * 16 := rfl
        rw [this] at h1
        exact Int.ediv_lt_of_lt_mul (by decide) h1
      rw [decide_eq_true h, cond_true, shr4, and15, goT_hx pre k _ _ (by omega) h4, e2, e3, List.map_cons, sat_at (c % 16) (by omega)]
      have hc : ((c : Int)).toNat = c := rfl
      rw [hc, hx_big (show ¬ c < 16 by omega), List.append_assoc]
      rfl
    · have h2 : c < 16 := by omega
      rw [decide_eq_false h, cond_false, app_list, sat_at c h2]
      have hc : ((c : Int)).toNat = c := rfl
      rw [hc, hx_small h2]
      rfl
/-- the document's digits -/
def goR (pre : ByteArray) : Nat → Int → ByteArray → ByteArray
  | 0, m, h => pre ++ (dig16.extract (ibin .and .u64 m 15).toNat (ibin .add .u64 (ibin .and .u64 m 15) 1).toNat ++ h)
  | k + 1, m, h => bif icmp .lss m 16 then pre ++ (dig16.extract (ibin .and .u64 m 15).toNat (ibin .add .u64 (ibin .and .u64 m 15) 1).toNat ++ h)
      else goR pre k (ibin .shr .u64 m 4) (dig16.extract (ibin .and .u64 m 15).toNat (ibin .add .u64 (ibin .and .u64 m 15) 1).toNat ++ h)
theorem dg16_size : dg16.size = 16 := rfl
theorem sub_size (x : Int) : (dg16.extract (x % 16).toNat (x % 16 + 1).toNat).size = 1 := by
  obtain ⟨c, hc, hc2⟩ : ∃ c : Nat, x % 16 = c ∧ c < 16 := ⟨(x % 16).toNat, by omega, by omega⟩
  have e1 : ((c : Int)).toNat = c := rfl
  have e2 : ((c : Int) + 1).toNat = c + 1 := rfl
  rw [hc, e1, e2]
  have := congrArg List.length (sub_at c hc2)
  exact this
theorem ext_hd (c : Nat) : (dig16.extract (ibin .and .u64 (c : Int) 15).toNat (ibin .add .u64 (ibin .and .u64 (c : Int) 15) 1).toNat).data.toList = [hd (c % 16)] := by
  have e : ibin .add .u64 (ibin .and .u64 (c : Int) 15) 1 = (c : Int) % 16 + 1 := by
    rw [and15]
    show IntKind.u64.wrap ((c : Int) % 16 + 1) = _
    rw [IntKind.wrap_u64]; omega
  rw [e, and15]
  have e1 : ((c : Int) % 16).toNat = c % 16 := by omega
  have e2 : ((c : Int) % 16 + 1).toNat = c % 16 + 1 := by omega
  rw [e1, e2]
  exact sub_at _ (by omega)
theorem goR_hx (pre : ByteArray) : ∀ (k : Nat) (u : Int) (h : ByteArray), 0 ≤ u → u < 16 ^ (k + 1) → (goR pre k u h).data.toList = pre.data.toList ++ (hx u.toNat ++ h.data.toList)
  | 0, u, h, h0, h1 => by
    have h2 : u.toNat < 16 := by simp at h1; omega
    obtain ⟨c, rfl⟩ : ∃ c : Nat, u = c := ⟨u.toNat, by omega⟩
    have hc : ((c : Int)).toNat = c := rfl
    rw [hc] at h2
    unfold goR
    rw [app_list, app_list, ext_hd, hc, hx_small h2, Nat.mod_eq_of_lt h2]
  | k + 1, u, h, h0, h1 => by
    obtain ⟨c, rfl⟩ : ∃ c : Nat, u = c := ⟨u.toNat, by omega⟩
    have hc : ((c : Int)).toNat = c := rfl
    unfold goR
    rw [ic_lt]
    by_cases hl : (c : Int) < 16
    · have h2 : c < 16 := by omega
      rw [decide_eq_true hl, cond_true, app_list, app_list, ext_hd, hc, hx_small h2, Nat.mod_eq_of_lt h2]
    · have e2 : ((c : Int) / 16).toNat = c / 16 := by omega
      have h4 : (c : Int) / 16 < 16 ^ (k + 1) := by
        have : (16 : Int) ^ (k + 1 + 1) = 16 ^ (k + 1) * 16 := rfl
        rw [this] at h1
        exact Int.ediv_lt_of_lt_mul (by decide) h1
      rw [decide_eq_false hl, cond_false, shr4, goR_hx pre k _ _ (by omega) h4, e2, app_list, ext_hd, hc, hx_big (show ¬ c < 16 by omega), List.append_assoc]
theorem fText_go (a : Int) : fText a =
    bif icmp .neq (ibin .and .u64 a 9223372036854775808) 0 then (bif icmp .eql (fKind a) 4 then (⟨#[110, 97, 110]⟩ : ByteArray) else bif icmp .eql (fKind a) 3 then (⟨#[45, 105, 110, 102]⟩ : ByteArray) else bif decide (tz 16 = 4) then goT ⟨#[45]⟩ 15 (fAbs a) [] else .empty)
    else (bif icmp .eql (fKind a) 4 then (⟨#[110, 97, 110]⟩ : ByteArray) else bif icmp .eql (fKind a) 3 then (⟨#[105, 110, 102]⟩ : ByteArray) else bif decide (tz 16 = 4) then goT ⟨#[]⟩ 15 (fAbs a) [] else .empty) := by kernel_rfl
theorem rText_go (a : Int) : rText a =
    bif icmp .eql (rKind a) 4 then (⟨#[110, 97, 110]⟩ : ByteArray)
    else bif icmp .eql (ibin .shr .u64 a 63) 1 then (bif icmp .eql (rKind a) 3 then (⟨#[45, 105, 110, 102]⟩ : ByteArray) else goR ⟨#[45]⟩ 15 (ibin .shr .u64 (ibin .shl .u64 a 1) 1) ⟨#[]⟩)
    else (bif icmp .eql (rKind a) 3 then (⟨#[105, 110, 102]⟩ : ByteArray) else goR ⟨#[]⟩ 15 (ibin .shr .u64 (ibin .shl .u64 a 1) 1) ⟨#[]⟩) := by kernel_rfl

theorem shr1_shl1 (a : Int) : ibin .shr .u64 (ibin .shl .u64 a 1) 1 = a % 9223372036854775808 := by rw [shr1, shl1]; omega
theorem tz16 : tz 16 = 4 := by kernel_rfl
/-- what a number is -/
def kindF (r : Int) : Int := if r = 0 then 0 else if r < 4503599627370496 then 1 else if r < 9218868437227405312 then 2 else if r = 9218868437227405312 then 3 else 4
theorem fKind_eq {a : Int} (h : 0 ≤ a ∧ a < 18446744073709551616) : fKind a = kindF (a % 9223372036854775808) := by
  unfold fKind kindF
  rw [fAbs_eq, shl12, shr52]
  simp only [ic_eq]
  have e : a * 4096 % 18446744073709551616 = 0 ↔ a % 9223372036854775808 % 4503599627370496 = 0 := by omega
  have hr : 0 ≤ a % 9223372036854775808 ∧ a % 9223372036854775808 < 9223372036854775808 := by omega
  generalize a % 9223372036854775808 = r at *
  by_cases c : r % 4503599627370496 = 0
  · rw [decide_eq_true (e.2 c), cond_true]
    by_cases c1 : r / 4503599627370496 = 0
    · simp only [c1, decide_true, cond_true]; rw [if_pos (by omega)]
    · by_cases c2 : r / 4503599627370496 = 2047
      · simp only [c2, decide_true, cond_true]; rw [if_neg (by omega), if_neg (by omega), if_neg (by omega), if_pos (by omega)]; rfl
      · simp only [c1, c2, decide_false, cond_false]; rw [if_neg (by omega), if_neg (by omega), if_pos (by omega)]
  · rw [decide_eq_false (fun q => c (e.1 q)), cond_false]
    by_cases c1 : r / 4503599627370496 = 0
    · simp only [c1, decide_true, cond_true]; rw [if_neg (by omega), if_pos (by omega)]
    · by_cases c2 : r / 4503599627370496 = 2047
      · simp only [c2, decide_true, cond_true]; rw [if_neg (by omega), if_neg (by omega), if_neg (by omega), if_neg (by omega)]; rfl
      · simp only [c1, c2, decide_false, cond_false]; rw [if_neg (by omega), if_neg (by omega), if_pos (by omega)]
theorem rKind_eq {a : Int} (h : 0 ≤ a ∧ a < 18446744073709551616) : rKind a = kindF (a % 9223372036854775808) := by
  unfold rKind kindF
  rw [shr1_shl1]
  simp only [ic_eq, ic_lt, Bool.cond_decide]
/-- a number's text -/
def txtF (a : Int) : List UInt8 :=
  if kindF (a % 9223372036854775808) = 4 then [110, 97, 110]
  else (if a < 9223372036854775808 then [] else [45]) ++ (if kindF (a % 9223372036854775808) = 3 then [105, 110, 102] else hx (a % 9223372036854775808).toNat)
theorem r_lt (a : Int) : 0 ≤ a % 9223372036854775808 ∧ a % 9223372036854775808 < 16 ^ (15 + 1) := by
  have : (16 : Int) ^ (15 + 1) = 18446744073709551616 := by decide
  rw [this]; omega
theorem fText_list {a : Int} (h : 0 ≤ a ∧ a < 18446744073709551616) : (fText a).data.toList = txtF a := by
  rw [fText_go, fKind_eq h, fAbs_eq, high_eq a h.1 h.2, tz16]
  unfold txtF
  simp only [ic_eq, ic_ne, decide_true, cond_true]
  have g1 := goT_hx ⟨#[45]⟩ 15 (a % 9223372036854775808) [] (r_lt a).1 (r_lt a).2
  have g2 := goT_hx ⟨#[]⟩ 15 (a % 9223372036854775808) [] (r_lt a).1 (r_lt a).2
  by_cases hs : a < 9223372036854775808
  · have e : a - a % 9223372036854775808 = 0 := by omega
    rw [decide_eq_true e]
    simp only [Bool.not_true, cond_false, hs, if_true, Bool.cond_decide]
    split
    · rfl
    · split
      · rfl
      · rw [g2]; simp
  · have e : ¬ a - a % 9223372036854775808 = 0 := by omega
    rw [decide_eq_false e]
    simp only [Bool.not_false, cond_true, hs, if_false, Bool.cond_decide]
    split
    · rfl
    · split
      · rfl
      · rw [g1]; simp
theorem rText_list {a : Int} (h : 0 ≤ a ∧ a < 18446744073709551616) : (rText a).data.toList = txtF a := by
  rw [rText_go, rKind_eq h, shr1_shl1, shr63]
  unfold txtF
  simp only [ic_eq]
  have g1 := goR_hx ⟨#[45]⟩ 15 (a % 9223372036854775808) ⟨#[]⟩ (r_lt a).1 (r_lt a).2
  have g2 := goR_hx ⟨#[]⟩ 15 (a % 9223372036854775808) ⟨#[]⟩ (r_lt a).1 (r_lt a).2
  by_cases hs : a < 9223372036854775808
  · have e : ¬ a / 9223372036854775808 = 1 := by omega
    rw [decide_eq_false e]
    simp only [cond_false, hs, if_true, Bool.cond_decide]
    split
    · rfl
    · split
      · rfl
      · rw [g2]; simp
  · have e : a / 9223372036854775808 = 1 := by omega
    rw [decide_eq_true e]
    simp only [cond_true, hs, if_false, Bool.cond_decide]
    split
    · rfl
    · split
      · rfl
      · rw [g1]; simp
theorem hx_ne (n : Nat) : hx n ≠ [] := by
  by_cases h : n < 16
  · rw [hx_small h]; simp
  · rw [hx_big h]; simp
theorem txtF_ne (a : Int) : txtF a ≠ [] := by
  unfold txtF
  split
  · simp
  · intro h
    have h2 := (List.append_eq_nil_iff.1 h).2
    split at h2
    · simp at h2
    · exact hx_ne _ h2
theorem fText_pos {a : Int} (h : IntKind.has .u64 a) : (0 : Int) < (((fText a).size : Nat) : Int) := by
  have e := fText_list (has_u64.1 h)
  have l : (fText a).size = (txtF a).length := by rw [← e]; rfl
  have := List.length_pos_iff.2 (txtF_ne a)
  omega
end Go.Proofs.YtdchnlmclngjmaaDoor
