/- What the document's Field and Word (layer 1) return: the walks of their loops. -/
import Derived.Test.YtndfcpkmchjncaaBitsWord
namespace Go.Proofs.Ytndfcpkmchjncaa
open Go.ChangeShapes Go.WideShapes Go.ChangeAt Go.RowKit
set_option linter.unusedVariables false

/-- what the document's Field has put together after k rounds -/
def fldN (x a : Int) (k : Nat) : Int := if a < 0 then x * 2 ^ (-a).toNat % 2 ^ k else x / 2 ^ a.toNat % 2 ^ k

theorem mod_step (y : Int) (k : Nat) : y % 2 ^ (k + 1) = y % 2 ^ k + y / 2 ^ k % 2 * 2 ^ k := by
  have hp := pow_pos k
  rw [Int.pow_succ]
  generalize (2 : Int) ^ k = p at hp
  have h1 := Int.mul_ediv_add_emod y (p * 2)
  have h2 := Int.mul_ediv_add_emod y p
  have h3 := Int.mul_ediv_add_emod (y / p) 2
  have h4 : y / (p * 2) = y / p / 2 := (Int.ediv_ediv_of_nonneg (Int.le_of_lt hp)).symm
  rw [h4] at h1
  have e1 : p * 2 * (y / p / 2) = p * (2 * (y / p / 2)) := by rw [Int.mul_assoc]
  have e2 : p * (y / p) = p * (2 * (y / p / 2)) + p * (y / p % 2) := by rw [← Int.mul_add, h3]
  have e3 : y / p % 2 * p = p * (y / p % 2) := Int.mul_comm _ _
  omega

theorem div_pow (x : Int) (m n : Nat) : x / 2 ^ m / 2 ^ n = x / 2 ^ (m + n) := by
  rw [Int.ediv_ediv_of_nonneg (Int.le_of_lt (pow_pos m)), Int.pow_add]

theorem mul_div_hi (x : Int) (m k : Nat) (h : m ≤ k) : x * 2 ^ m / 2 ^ k = x / 2 ^ (k - m) := by
  have e : (2 : Int) ^ k = 2 ^ m * 2 ^ (k - m) := by rw [← Int.pow_add]; congr 1; omega
  rw [e, ← Int.ediv_ediv_of_nonneg (Int.le_of_lt (pow_pos m)), Int.mul_ediv_cancel _ (Int.ne_of_gt (pow_pos m))]

theorem mul_div_lo (x : Int) (m k : Nat) (h : k < m) : x * 2 ^ m / 2 ^ k % 2 = 0 := by
  have e : (2 : Int) ^ m = 2 ^ (m - k - 1) * 2 * 2 ^ k := by rw [← Int.pow_succ, ← Int.pow_add]; congr 1; omega
  rw [e, ← Int.mul_assoc, Int.mul_ediv_cancel _ (Int.ne_of_gt (pow_pos k)), ← Int.mul_assoc, Int.mul_emod_left]

theorem big_div (x : Int) (m : Nat) (h0 : 0 ≤ x) (h1 : x < 4294967296) (h : 32 ≤ m) : x / 2 ^ m = 0 := by
  apply Int.ediv_eq_zero_of_lt h0
  have : (2 : Int) ^ 32 ≤ 2 ^ m := by
    have := Nat.pow_le_pow_right (n := 2) (by decide) h
    have h2 : ((2 ^ 32 : Nat) : Int) ≤ ((2 ^ m : Nat) : Int) := Int.ofNat_le.2 this
    simpa using h2
  have e : (2 : Int) ^ 32 = 4294967296 := rfl
  omega

theorem fldN_zero (x a : Int) : fldN x a 0 = 0 := by unfold fldN; split <;> simp <;> omega

/-- one more round: the bit is there -/
theorem fldN_yes (x a : Int) (k : Nat) (h0 : 0 ≤ x) (h1 : x < 4294967296) (ha : 0 ≤ a + k) (hb : x / 2 ^ (a + k).toNat % 2 = 1) : fldN x a (k + 1) = fldN x a k + 1 * 2 ^ k := by
  unfold fldN
  split
  · rw [mod_step, mul_div_hi _ _ _ (by omega), show k - (-a).toNat = (a + k).toNat by omega, hb]
  · rw [mod_step, div_pow, show a.toNat + k = (a + k).toNat by omega, hb]
theorem fldN_no (x a : Int) (k : Nat) (h0 : 0 ≤ x) (h1 : x < 4294967296) (ha : 0 ≤ a + k) (hb : x / 2 ^ (a + k).toNat % 2 ≠ 1) : fldN x a (k + 1) = fldN x a k := by
  have hz : x / 2 ^ (a + k).toNat % 2 = 0 := by omega
  unfold fldN
  split
  · rw [mod_step, mul_div_hi _ _ _ (by omega), show k - (-a).toNat = (a + k).toNat by omega, hz]; omega
  · rw [mod_step, div_pow, show a.toNat + k = (a + k).toNat by omega, hz]; omega
theorem fldN_below (x a : Int) (k : Nat) (ha : a + k < 0) : fldN x a (k + 1) = fldN x a k := by
  unfold fldN
  rw [if_pos (by omega), if_pos (by omega), mod_step, mul_div_lo _ _ _ (by omega)]; omega
theorem fldN_above (x a : Int) (k : Nat) (h0 : 0 ≤ x) (h1 : x < 4294967296) (hk : k ≤ 32) (ha : 32 ≤ a + k) : fldN x a (k + 1) = fldN x a k := by
  unfold fldN
  rw [if_neg (by omega), if_neg (by omega), mod_step, div_pow, big_div x (a.toNat + k) h0 h1 (by omega)]; simp
theorem fldN_bd (x a : Int) (k : Nat) : 0 ≤ fldN x a k ∧ fldN x a k < 2 ^ k := by
  have hp := pow_pos k
  unfold fldN; split
  · exact ⟨Int.emod_nonneg _ (Int.ne_of_gt hp), Int.emod_lt_of_pos _ hp⟩
  · exact ⟨Int.emod_nonneg _ (Int.ne_of_gt hp), Int.emod_lt_of_pos _ hp⟩
theorem fld_of_fldN (x a n : Int) (ha0 : -32 ≤ a) (ha1 : a < 32) : fld x a n = fldN x a (clamp0 n) := by
  unfold fld fldN
  by_cases h : a = -32
  · subst h
    rw [if_pos (by omega), if_pos (by omega)]
    have hc := clamp0_bd n
    have e : (2 : Int) ^ (-(-32 : Int)).toNat = 2 ^ (32 - clamp0 n) * 2 ^ clamp0 n := by rw [← Int.pow_add]; congr 1; omega
    rw [e, ← Int.mul_assoc, Int.mul_emod_left]
  · rw [if_neg (by omega)]
theorem fld_out (x a n : Int) (h : a < -32 ∨ 31 < a) : fld x a n = 0 := by unfold fld; rw [if_pos (by omega)]

set_option maxHeartbeats 800000 in
theorem ref1_Field_in (x a n : Int) (hn0 : 0 < n) (hn1 : n ≤ 32) (hx0 : 0 ≤ x) (hx1 : x < 4294967296) (ha0 : -32 ≤ a) (ha1 : a < 32) (w : World) :
    Calls Try.prog 88 #[.int .u32 x, .int .i64 a, .int .i64 n] w fun e w' => e = .returned (.int .u32 (fld x a n)) ∧ w = w' := by
  have hN : clamp0 n = n.toNat := by unfold clamp0; rw [if_neg (by omega), if_neg (by omega)]
  have HF := Lib.hid (fld_of_fldN x a n ha0 ha1)
  have HN := Lib.hid hN; clear hN
  go_enter Try.func88, Try.ntmps88
  go_wp2
  go_loop [8, 9, 10] (fun y i _ => ∃ k : Nat, k ≤ n.toNat ∧ i = .int .i64 k ∧ y = .int .u32 (fldN x a k)) (fun _ i _ => n.toNat - (intOf i).toNat)
  case atStart => exact ⟨0, Nat.zero_le _, rfl, by rw [fldN_zero]⟩
  case round =>
    obtain ⟨k, hk, rfl, rfl⟩ := hrel
    by_cases hlt : k < n.toNat
    · have hf := fldN_bd x a k
      have hp2 := pow_le_32 (k := k) (by omega)
      by_cases hl : a + k < 0
      · have h3 := Lib.hid (fldN_below x a k hl)
        go_wp2
        all_goals
          go_round
          case rel => exact ⟨k + 1, by omega, by go_num, by rw [h3.out]⟩
          case measure => simp [intOf]; omega
      · by_cases hh : 32 ≤ a + k
        · have h3 := Lib.hid (fldN_above x a k hx0 hx1 (by omega) hh)
          go_wp2
          all_goals
            go_round
            case rel => exact ⟨k + 1, by omega, by go_num, by rw [h3.out]⟩
            case measure => simp [intOf]; omega
        · have hp := pow_pos (a + k).toNat
          have e1 : bits .and .u32 (x / 2 ^ (a + k).toNat) 1 = x / 2 ^ (a + k).toNat % 2 := by
            have h0 : 0 ≤ x / 2 ^ (a + k).toNat := Int.ediv_nonneg hx0 (Int.le_of_lt hp)
            have h1 : x / 2 ^ (a + k).toNat ≤ x := Int.ediv_le_self _ hx0
            exact and_one_u32 _ h0 (by omega)
          by_cases hb : x / 2 ^ (a + k).toNat % 2 = 1
          · have h2 : (bits .and .u32 (x / 2 ^ (a + k).toNat) 1 == 1) = true := by rw [e1, hb]; rfl
            have h3 := Lib.hid (fldN_yes x a k hx0 hx1 (by omega) hb)
            have h5 : (1 : Int) * 2 ^ k < 4294967296 := by
              have : k ≤ 31 := by omega
              have e : (2 : Int) ^ 32 = 2 ^ (32 - k - 1) * 2 * 2 ^ k := by rw [← Int.pow_succ, ← Int.pow_add]; congr 1; omega
              have e2 : (2 : Int) ^ 32 = 4294967296 := rfl
              have hq := pow_pos (32 - k - 1)
              have hr := pow_pos k
              have := Int.mul_le_mul_of_nonneg_right (show (2 : Int) ≤ 2 ^ (32 - k - 1) * 2 by omega) (Int.le_of_lt hr)
              omega
            have h4 := Lib.hid (or_sum (fldN x a k) 1 k hf.1 hf.2 (by omega) h5 (by omega))
            have h6 : (2 : Int) ^ k < 4294967296 := by omega
            have h7 := Lib.hid (Int.emod_eq_of_lt (Int.le_of_lt (pow_pos k)) h6)
            clear e1 hb hp hp2 h5 h6
            go_wp2
            all_goals
              go_round
              case rel => exact ⟨k + 1, by omega, by go_num, by rw [h3.out, h7.out, ← h4.out, Int.one_mul]⟩
              case measure => simp [intOf]; omega
          · have h2 : (bits .and .u32 (x / 2 ^ (a + k).toNat) 1 == 1) = false := by rw [e1]; simpa using hb
            have h3 := Lib.hid (fldN_no x a k hx0 hx1 (by omega) hb)
            clear e1 hb hp hp2
            go_wp2
            all_goals
              go_round
              case rel => exact ⟨k + 1, by omega, by go_num, by rw [h3.out]⟩
              case measure => simp [intOf]; omega
    · go_wp2
      obtain rfl : k = n.toNat := by omega
      go_ret
      exact ⟨ret_int (by rw [HF.out, HN.out]), rfl⟩

set_option maxHeartbeats 800000 in
theorem ref1_Field_over (x a n : Int) (hn0 : 32 < n) (hx0 : 0 ≤ x) (hx1 : x < 4294967296) (ha0 : -32 ≤ a) (ha1 : a < 32) (w : World) :
    Calls Try.prog 88 #[.int .u32 x, .int .i64 a, .int .i64 n] w fun e w' => e = .returned (.int .u32 (fld x a n)) ∧ w = w' := by
  have hN : clamp0 n = 32 := by unfold clamp0; rw [if_neg (by omega), if_pos (by omega)]
  have HF := Lib.hid (fld_of_fldN x a n ha0 ha1)
  have HN := Lib.hid hN; clear hN
  go_enter Try.func88, Try.ntmps88
  go_wp2
  go_loop [8, 9, 10] (fun y i _ => ∃ k : Nat, k ≤ 32 ∧ i = .int .i64 k ∧ y = .int .u32 (fldN x a k)) (fun _ i _ => 32 - (intOf i).toNat)
  case atStart => exact ⟨0, Nat.zero_le _, rfl, by rw [fldN_zero]⟩
  case round =>
    obtain ⟨k, hk, rfl, rfl⟩ := hrel
    by_cases hlt : k < 32
    · have hf := fldN_bd x a k
      have hp2 := pow_le_32 (k := k) (by omega)
      by_cases hl : a + k < 0
      · have h3 := Lib.hid (fldN_below x a k hl)
        go_wp2
        all_goals
          go_round
          case rel => exact ⟨k + 1, by omega, by go_num, by rw [h3.out]⟩
          case measure => simp [intOf]; omega
      · by_cases hh : 32 ≤ a + k
        · have h3 := Lib.hid (fldN_above x a k hx0 hx1 (by omega) hh)
          go_wp2
          all_goals
            go_round
            case rel => exact ⟨k + 1, by omega, by go_num, by rw [h3.out]⟩
            case measure => simp [intOf]; omega
        · have hp := pow_pos (a + k).toNat
          have e1 : bits .and .u32 (x / 2 ^ (a + k).toNat) 1 = x / 2 ^ (a + k).toNat % 2 := by
            have h0 : 0 ≤ x / 2 ^ (a + k).toNat := Int.ediv_nonneg hx0 (Int.le_of_lt hp)
            have h1 : x / 2 ^ (a + k).toNat ≤ x := Int.ediv_le_self _ hx0
            exact and_one_u32 _ h0 (by omega)
          by_cases hb : x / 2 ^ (a + k).toNat % 2 = 1
          · have h2 : (bits .and .u32 (x / 2 ^ (a + k).toNat) 1 == 1) = true := by rw [e1, hb]; rfl
            have h3 := Lib.hid (fldN_yes x a k hx0 hx1 (by omega) hb)
            have h5 : (1 : Int) * 2 ^ k < 4294967296 := by
              have : k ≤ 31 := by omega
              have e : (2 : Int) ^ 32 = 2 ^ (32 - k - 1) * 2 * 2 ^ k := by rw [← Int.pow_succ, ← Int.pow_add]; congr 1; omega
              have e2 : (2 : Int) ^ 32 = 4294967296 := rfl
              have hq := pow_pos (32 - k - 1)
              have hr := pow_pos k
              have := Int.mul_le_mul_of_nonneg_right (show (2 : Int) ≤ 2 ^ (32 - k - 1) * 2 by omega) (Int.le_of_lt hr)
              omega
            have h4 := Lib.hid (or_sum (fldN x a k) 1 k hf.1 hf.2 (by omega) h5 (by omega))
            have h6 : (2 : Int) ^ k < 4294967296 := by omega
            have h7 := Lib.hid (Int.emod_eq_of_lt (Int.le_of_lt (pow_pos k)) h6)
            clear e1 hb hp hp2 h5 h6
            go_wp2
            all_goals
              go_round
              case rel => exact ⟨k + 1, by omega, by go_num, by rw [h3.out, h7.out, ← h4.out, Int.one_mul]⟩
              case measure => simp [intOf]; omega
          · have h2 : (bits .and .u32 (x / 2 ^ (a + k).toNat) 1 == 1) = false := by rw [e1]; simpa using hb
            have h3 := Lib.hid (fldN_no x a k hx0 hx1 (by omega) hb)
            clear e1 hb hp hp2
            go_wp2
            all_goals
              go_round
              case rel => exact ⟨k + 1, by omega, by go_num, by rw [h3.out]⟩
              case measure => simp [intOf]; omega
    · go_wp2
      obtain rfl : k = 32 := by omega
      go_ret
      exact ⟨ret_int (by rw [HF.out, HN.out]), rfl⟩

theorem ref1_Field_none (x a n : Int) (hn0 : n ≤ 0) (hx0 : 0 ≤ x) (hx1 : x < 4294967296) (w : World) :
    Calls Try.prog 88 #[.int .u32 x, .int .i64 a, .int .i64 n] w fun e w' => e = .returned (.int .u32 (fld x a n)) ∧ w = w' := by
  have hc : clamp0 n = 0 := by unfold clamp0; split <;> (try split) <;> omega
  have h0 : fld x a n = 0 := by unfold fld; rw [hc]; split <;> (try split) <;> simp <;> omega
  have HF := Lib.hid h0
  clear hc h0
  by_cases hn : n < 0
  all_goals
    go_enter Try.func88, Try.ntmps88
    go_wp2
    go_loop [8, 9, 10] (fun y i _ => y = .int .u32 0 ∧ i = .int .i64 0) (fun _ i _ => 0)
    case atStart => exact ⟨rfl, rfl⟩
    case round =>
      obtain ⟨rfl, rfl⟩ := hrel
      go_wp2
      go_ret
      exact ⟨ret_int HF.out.symm, rfl⟩

theorem ref1_Field_out (x a n : Int) (hn0 : 0 < n) (ha : a < -32 ∨ 31 < a) (hx0 : 0 ≤ x) (hx1 : x < 4294967296) (w : World) :
    Calls Try.prog 88 #[.int .u32 x, .int .i64 a, .int .i64 n] w fun e w' => e = .returned (.int .u32 (fld x a n)) ∧ w = w' := by
  have HF := Lib.hid (fld_out x a n ha)
  by_cases hn : n ≤ 32
  all_goals
    rcases ha with ha | ha
    all_goals
      go_enter Try.func88, Try.ntmps88
      go_wp2
      go_loop [8, 9, 10] (fun y i _ => y = .int .u32 0 ∧ i = .int .i64 0) (fun _ i _ => 0)
      case atStart => exact ⟨rfl, rfl⟩
      case round =>
        obtain ⟨rfl, rfl⟩ := hrel
        go_wp2
        go_ret
        exact ⟨ret_int HF.out.symm, rfl⟩

theorem ref1_Field (x a n : Int) (hx0 : 0 ≤ x) (hx1 : x < 4294967296) (w : World) :
    Calls Try.prog 88 #[.int .u32 x, .int .i64 a, .int .i64 n] w fun e w' => e = .returned (.int .u32 (fld x a n)) ∧ w = w' := by
  by_cases hn : n ≤ 0
  · exact ref1_Field_none x a n hn hx0 hx1 w
  · by_cases ha : a < -32 ∨ 31 < a
    · exact ref1_Field_out x a n (by omega) ha hx0 hx1 w
    · by_cases h2 : n ≤ 32
      · exact ref1_Field_in x a n (by omega) h2 hx0 hx1 (by omega) (by omega) w
      · exact ref1_Field_over x a n (by omega) hx0 hx1 (by omega) (by omega) w

def wordK (bs : List Int) : Nat → Int
  | 0 => 0
  | k + 1 => wordK bs k + bs.getD k 0 * 2 ^ (8 * k)

theorem wordK_bd {bs : List Int} (h : ∀ x ∈ bs, 0 ≤ x ∧ x < 256) (k : Nat) : 0 ≤ wordK bs k ∧ wordK bs k < 2 ^ (8 * k) := by
  induction k with
  | zero => simp [wordK]
  | succ k ih =>
    have hb := byte_bd h k
    have hp := pow_pos (8 * k)
    have e : (2 : Int) ^ (8 * (k + 1)) = 256 * 2 ^ (8 * k) := by rw [show 8 * (k + 1) = 8 + 8 * k by omega, Int.pow_add]; rfl
    have h1 := Int.mul_nonneg hb.1 (Int.le_of_lt hp)
    have h2 := Int.mul_le_mul_of_nonneg_right (show bs.getD k 0 ≤ 255 by omega) (Int.le_of_lt hp)
    unfold wordK
    rw [e]
    omega

theorem wordK_four (bs : List Int) : wordK bs 4 = wordOf bs := by unfold wordOf; simp [wordK]; omega
theorem wordK_short (bs : List Int) (k : Nat) (h : bs.length ≤ k) (hk : k ≤ 4) : wordK bs k = wordOf bs := by
  have hz : ∀ j, k ≤ j → bs.getD j 0 = 0 := fun j hj => by rw [List.getD_eq_getElem?_getD, List.getElem?_eq_none (by omega)]; rfl
  rw [← wordK_four]
  match k, hk with
  | 0, _ => simp only [wordK, hz 0 (by omega), hz 1 (by omega), hz 2 (by omega), hz 3 (by omega)]; simp
  | 1, _ => simp only [wordK, hz 1 (by omega), hz 2 (by omega), hz 3 (by omega)]; simp
  | 2, _ => simp only [wordK, hz 2 (by omega), hz 3 (by omega)]; simp
  | 3, _ => simp only [wordK, hz 3 (by omega)]; simp
  | 4, _ => rfl

theorem step8 (y b : Int) (k : Nat) (hk : k < 4) (hb : 0 ≤ b ∧ b < 256) (hw : 0 ≤ y ∧ y < 2 ^ (8 * k)) :
    bits .or .u32 y (b % 4294967296 * 2 ^ (8 * k) % 4294967296) = y + b * 2 ^ (8 * k) := by
  have hp := pow_pos (8 * k)
  have h2 : (2 : Int) ^ (8 * k) ≤ 16777216 := by
    have h := Nat.pow_le_pow_right (n := 2) (by decide) (show 8 * k ≤ 24 by omega)
    have h2 : ((2 ^ (8 * k) : Nat) : Int) ≤ ((2 ^ 24 : Nat) : Int) := Int.ofNat_le.2 h
    have e : ((2 ^ 24 : Nat) : Int) = 16777216 := rfl
    have e3 : ((2 ^ (8 * k) : Nat) : Int) = (2 : Int) ^ (8 * k) := by simp
    omega
  have h0 := Int.mul_nonneg hb.1 (Int.le_of_lt hp)
  have h1 := Int.mul_le_mul_of_nonneg_right (show b ≤ 255 by omega) (Int.le_of_lt hp)
  have e1 : b % 4294967296 = b := Int.emod_eq_of_lt hb.1 (by omega)
  have e2 : b * 2 ^ (8 * k) % 4294967296 = b * 2 ^ (8 * k) := Int.emod_eq_of_lt h0 (by omega)
  rw [e1, e2]
  exact or_sum y b (8 * k) hw.1 hw.2 hb.1 (by omega) (by omega)

theorem wordK_step {bs : List Int} (h : ∀ x ∈ bs, 0 ≤ x ∧ x < 256) (k : Nat) (hk : k < 4) (hl : k < bs.length) :
    bits .or .u32 (wordK bs k) (bs[k] % 4294967296 * 2 ^ (8 * k) % 4294967296) = wordK bs (k + 1) := by
  have e : bs.getD k 0 = bs[k] := by rw [List.getD_eq_getElem?_getD, List.getElem?_eq_getElem hl]; rfl
  have e2 : wordK bs (k + 1) = wordK bs k + bs.getD k 0 * 2 ^ (8 * k) := rfl
  rw [e2, e]
  exact step8 _ _ k hk (by rw [← e]; exact byte_bd h k) (wordK_bd h k)

set_option maxHeartbeats 800000 in
theorem ref1_Word (bs : List Int) (v : Value) (w : World) (h : Bts w v bs) (hl : bs.length ≤ maxLen) :
    Calls Try.prog 68 #[v] w fun e w' => e = .returned (.int .u32 (wordOf bs)) ∧ w = w' := by
  obtain ⟨a, cap, rfl, hc, hb⟩ := h
  unfold maxLen at hl
  go_enter Try.func68, Try.ntmps68
  go_wp2
  go_loop [3, 4] (fun y i => ∃ k : Nat, k ≤ 4 ∧ k ≤ bs.length ∧ i = .int .i64 k ∧ y = .int .u32 (wordK bs k)) (fun _ i => 4 - (intOf i).toNat)
  case atStart => exact ⟨0, by omega, by omega, rfl, rfl⟩
  case round =>
    obtain ⟨k, hk, hk2, rfl, rfl⟩ := hrel
    by_cases hlt : k < 4
    · by_cases hlt2 : k < bs.length
      · obtain ⟨b, o, rfl, hbl, hcell⟩ := hc k hlt2
        have hbd := byte_bd hb k
        have hwd := wordK_bd hb k
        have H3 := Lib.hid (wordK_step hb k hlt hlt2)
        go_wp2
        go_round
        case rel => exact ⟨k + 1, by omega, by omega, by go_num, by rw [H3.out]⟩
        case measure => simp [intOf]; omega
      · have H1 := Lib.hid (wordK_short bs k (by omega) hk)
        go_wp2
        go_ret
        exact ⟨ret_int H1.out, rfl⟩
    · obtain rfl : k = 4 := by omega
      have H1 := Lib.hid (wordK_four bs)
      go_wp2
      go_ret
      exact ⟨ret_int H1.out, rfl⟩

end Go.Proofs.Ytndfcpkmchjncaa
