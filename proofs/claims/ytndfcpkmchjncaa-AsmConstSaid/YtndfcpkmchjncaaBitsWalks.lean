/- What the functions of package bits return, by the walk of their text: signed, Sign8, Sign12, Signed, Field, Parity, carry, wide, AddC, SubC, MulU, MulS. -/
import Derived.Test.YtndfcpkmchjncaaRows
import Derived.Test.YtndfcpkmchjncaaBitsMath
import Derived.WalkKit
import Derived.ProofKit
import Derived.OpenShut
import Derived.Lib.Hide
namespace Go.Proofs.Ytndfcpkmchjncaa
open Go.ChangeShapes Go.WideShapes Go.ChangeAt Go.RowKit
set_option linter.unusedVariables false

theorem ret_int {k : IntKind} {a b : Int} (h : a = b) : Ending.returned (.int k a) = .returned (.int k b) := by rw [h]
theorem ret_ibb {k : IntKind} {a a' : Int} {b b' c c' : Bool} (h1 : a = a') (h2 : b = b') (h3 : c = c') : Ending.returned (.tuple #[.int k a, .bool b, .bool c]) = .returned (.tuple #[.int k a', .bool b', .bool c']) := by rw [h1, h2, h3]
theorem ret_ii {k l : IntKind} {a a' b b' : Int} (h1 : a = a') (h2 : b = b') : Ending.returned (.tuple #[.int k a, .int l b]) = .returned (.tuple #[.int k a', .int l b']) := by rw [h1, h2]
theorem ret_bool {a b : Bool} (h : a = b) : Ending.returned (.bool a) = .returned (.bool b) := by rw [h]

theorem bits_signed (x n : Int) (hx0 : 0 ≤ x) (hx1 : x < 4294967296) (w : World) :
    Calls Try.prog 86 #[.int .u32 x, .int .i64 n] w fun e w' => e = .returned (.int .i32 (sgn x n)) ∧ w = w' := by
  by_cases h1 : n < 1
  · have e : sgn x n = sgm (32 - 31) x := by unfold sgn clamp1; rw [if_pos h1]
    have E := Lib.hid e; clear e
    go_enter Try.func86, Try.ntmps86
    go_wp2
    go_ret
    exact ⟨ret_int (by rw [E.out, ← shl_sar x 31 (by omega)]; rfl), rfl⟩
  · have h1' : 1 ≤ n := by omega
    by_cases h2 : 32 < n
    · have e : sgn x n = sgm 32 x := by unfold sgn clamp1; rw [if_neg h1, if_pos h2]
      have E := Lib.hid e; clear e
      have h3 : ¬ n ≤ 32 := by omega
      go_enter Try.func86, Try.ntmps86
      go_wp2
      go_ret
      exact ⟨ret_int (by rw [E.out, ← wrap32_sgm]), rfl⟩
    · have h2' : n ≤ 32 := by omega
      have e : sgn x n = sgm (32 - (32 - n).toNat) x := by
        unfold sgn clamp1; rw [if_neg h1, if_neg h2]; congr 1; omega
      have E := Lib.hid e; clear e
      go_enter Try.func86, Try.ntmps86
      go_wp2
      go_ret
      exact ⟨ret_int (by rw [E.out, ← shl_sar x _ (by omega)]), rfl⟩

theorem bits_Signed (x n : Int) (hx0 : 0 ≤ x) (hx1 : x < 4294967296) (w : World) :
    Calls Try.prog 97 #[.int .u32 x, .int .i64 n] w fun e w' => e = .returned (.int .i32 (sgn x n)) ∧ w = w' := by
  go_enter Try.func97, Try.ntmps97
  go_wp2_with fail
  refine (bits_signed x n hx0 hx1 _).mono ?_; rintro e w' ⟨rfl, rfl⟩
  go_wp2_with fail
  go_ret
  exact ⟨rfl, rfl⟩

theorem bits_Sign12 (x : Int) (hx0 : 0 ≤ x) (hx1 : x < 4294967296) (w : World) :
    Calls Try.prog 67 #[.int .u32 x] w fun e w' => e = .returned (.int .u32 (sgn x 12 % 4294967296)) ∧ w = w' := by
  go_enter Try.func67, Try.ntmps67
  go_wp2_with fail
  refine (bits_signed x 12 hx0 hx1 _).mono ?_; rintro e w' ⟨rfl, rfl⟩
  go_wp2_with fail
  go_ret
  exact ⟨rfl, rfl⟩

theorem fld_walk_neg (x n : Int) (j k : Nat) (hx0 : 0 ≤ x) (hx1 : x < 4294967296) (hj : j < 32) (hk : k ≤ 32) :
    bits .and .u64 (IntKind.u64.wrap (x * 2 ^ j)) (IntKind.u64.wrap (IntKind.u64.wrap (2 ^ k) - 1)) % 4294967296 = x * 2 ^ j % 2 ^ k := by
  have hp := pow_pos j
  have hq := pow_pos k
  have hl : (2 : Int) ^ j ≤ 4294967296 := pow_le_32 (by omega)
  have hl2 : (2 : Int) ^ k ≤ 4294967296 := pow_le_32 (by omega)
  have h0 : 0 ≤ x * 2 ^ j := Int.mul_nonneg hx0 (Int.le_of_lt hp)
  have h1 : x * 2 ^ j < 18446744073709551616 := by
    have a := Int.mul_le_mul (show x ≤ 4294967295 by omega) hl (Int.le_of_lt hp) (by omega)
    omega
  have e : IntKind.u64.wrap (x * 2 ^ j) = x * 2 ^ j := by rw [IntKind.wrap_u64]; exact Int.emod_eq_of_lt h0 h1
  rw [e, and_mask _ k h0 h1 hk]
  have := Int.emod_nonneg (x * 2 ^ j) (Int.ne_of_gt hq); have := Int.emod_lt_of_pos (x * 2 ^ j) hq
  exact Int.emod_eq_of_lt (by omega) (by omega)

theorem fld_walk_pos (x : Int) (j k : Nat) (hx0 : 0 ≤ x) (hx1 : x < 4294967296) (hk : k ≤ 32) :
    bits .and .u64 (x / 2 ^ j) (IntKind.u64.wrap (IntKind.u64.wrap (2 ^ k) - 1)) % 4294967296 = x / 2 ^ j % 2 ^ k := by
  have hp := pow_pos j
  have hq := pow_pos k
  have hl2 : (2 : Int) ^ k ≤ 4294967296 := pow_le_32 (by omega)
  have h0 : 0 ≤ x / 2 ^ j := Int.ediv_nonneg hx0 (Int.le_of_lt hp)
  have h1 : x / 2 ^ j ≤ x := Int.ediv_le_self _ hx0
  rw [and_mask _ k h0 (by omega) hk]
  have := Int.emod_nonneg (x / 2 ^ j) (Int.ne_of_gt hq); have := Int.emod_lt_of_pos (x / 2 ^ j) hq
  exact Int.emod_eq_of_lt (by omega) (by omega)

set_option maxHeartbeats 400000 in
theorem bits_Field (x a n : Int) (hx0 : 0 ≤ x) (hx1 : x < 4294967296) (w : World) :
    Calls Try.prog 33 #[.int .u32 x, .int .i64 a, .int .i64 n] w fun e w' => e = .returned (.int .u32 (fld x a n)) ∧ w = w' := by
  by_cases ha : 32 ≤ a ∨ a ≤ -32
  · have e : fld x a n = 0 := by unfold fld; rw [if_pos ha]
    have E := Lib.hid e; clear e
    rcases ha with ha | ha
    all_goals
      by_cases hn : n < 0
      · go_enter Try.func33, Try.ntmps33
        go_wp2
        go_ret
        exact ⟨ret_int E.out.symm, rfl⟩
      · by_cases hn2 : 32 < n
        all_goals
          go_enter Try.func33, Try.ntmps33
          go_wp2
          go_ret
          exact ⟨ret_int E.out.symm, rfl⟩
  · have ha1 : a < 32 := by omega
    have ha2 : -32 < a := by omega
    by_cases hs : a < 0
    · by_cases hn : n < 0
      · have e : fld x a n = x * 2 ^ (-a).toNat % 2 ^ 0 := by unfold fld clamp0; rw [if_neg ha, if_pos hs, if_pos hn]
        have E := Lib.hid e; clear e
        clear ha
        go_enter Try.func33, Try.ntmps33
        go_wp2
        go_ret
        exact ⟨ret_int (by rw [E.out, ← fld_walk_neg x n _ 0 hx0 hx1 (by omega) (by omega)]; first | done | rfl), rfl⟩
      · by_cases hn2 : 32 < n
        · have e : fld x a n = x * 2 ^ (-a).toNat % 2 ^ 32 := by unfold fld clamp0; rw [if_neg ha, if_pos hs, if_neg hn, if_pos hn2]
          have E := Lib.hid e; clear e
          clear ha
          go_enter Try.func33, Try.ntmps33
          go_wp2
          go_ret
          exact ⟨ret_int (by rw [E.out, ← fld_walk_neg x n _ 32 hx0 hx1 (by omega) (by omega)]; first | done | rfl), rfl⟩
        · have e : fld x a n = x * 2 ^ (-a).toNat % 2 ^ n.toNat := by unfold fld clamp0; rw [if_neg ha, if_pos hs, if_neg hn, if_neg hn2]
          have E := Lib.hid e; clear e
          clear ha
          have hn' : 0 ≤ n := by omega
          go_enter Try.func33, Try.ntmps33
          go_wp2
          go_ret
          exact ⟨ret_int (by rw [E.out, ← fld_walk_neg x n _ _ hx0 hx1 (by omega) (by omega)]), rfl⟩
    · have hs' : 0 ≤ a := by omega
      by_cases hn : n < 0
      · have e : fld x a n = x / 2 ^ a.toNat % 2 ^ 0 := by unfold fld clamp0; rw [if_neg ha, if_neg hs, if_pos hn]
        have E := Lib.hid e; clear e
        clear ha
        go_enter Try.func33, Try.ntmps33
        go_wp2
        go_ret
        exact ⟨ret_int (by rw [E.out, ← fld_walk_pos x _ 0 hx0 hx1 (by omega)]; rfl), rfl⟩
      · by_cases hn2 : 32 < n
        · have e : fld x a n = x / 2 ^ a.toNat % 2 ^ 32 := by unfold fld clamp0; rw [if_neg ha, if_neg hs, if_neg hn, if_pos hn2]
          have E := Lib.hid e; clear e
          clear ha
          go_enter Try.func33, Try.ntmps33
          go_wp2
          go_ret
          exact ⟨ret_int (by rw [E.out, ← fld_walk_pos x _ 32 hx0 hx1 (by omega)]; rfl), rfl⟩
        · have e : fld x a n = x / 2 ^ a.toNat % 2 ^ n.toNat := by unfold fld clamp0; rw [if_neg ha, if_neg hs, if_neg hn, if_neg hn2]
          have E := Lib.hid e; clear e
          clear ha
          have hn' : 0 ≤ n := by omega
          go_enter Try.func33, Try.ntmps33
          go_wp2
          go_ret
          exact ⟨ret_int (by rw [E.out, ← fld_walk_pos x _ _ hx0 hx1 (by omega)]), rfl⟩

theorem bits_carry (c : Bool) (w : World) : Calls Try.prog 92 #[.bool c] w fun e w' => e = .returned (.int .u64 (c2i c)) ∧ w = w' := by
  cases c
  all_goals
    go_enter Try.func92, Try.ntmps92
    go_wp2
    go_ret
    exact ⟨rfl, rfl⟩

theorem bits_wide (n : Int) (h1 : -9223372036854775808 ≤ n) (h2 : n ≤ 9223372036854775807) (w : World) :
    Calls Try.prog 93 #[.int .i64 n] w fun e w' => e = .returned (.bool (wideB n)) ∧ w = w' := by
  have hb := wrap32_bd n
  go_enter Try.func93, Try.ntmps93
  go_wp2
  go_ret
  exact ⟨rfl, rfl⟩

theorem bits_AddC (a b : Int) (c : Bool) (ha0 : 0 ≤ a) (ha1 : a < 4294967296) (hb0 : 0 ≤ b) (hb1 : b < 4294967296) (w : World) :
    Calls Try.prog 75 #[.int .u32 a, .int .u32 b, .bool c] w
      fun e w' => e = .returned (.tuple #[.int .u32 (addR a b c), .bool (addC a b c), .bool (addO a b c)]) ∧ w = w' := by
  have hc := c2i_bd c
  have ra := wrap32_bd a
  have rb := wrap32_bd b
  have hd : ((a + b + c2i c) / 4294967296 != 0) = addC a b c := by
    unfold addC; rw [Bool.eq_iff_iff, bne_iff_ne, decide_eq_true_iff]; omega
  have Hd := Lib.hid hd; clear hd
  go_enter Try.func75, Try.ntmps75
  go_wp2_with fail
  refine (bits_carry c _).mono ?_; rintro e w' ⟨rfl, rfl⟩
  go_wp2_with fail
  refine (bits_carry c _).mono ?_; rintro e w' ⟨rfl, rfl⟩
  go_wp2_with fail
  refine (bits_wide _ (by omega) (by omega) _).mono ?_; rintro e w' ⟨rfl, rfl⟩
  go_wp2_with fail
  go_ret3
  exact ⟨ret_ibb rfl Hd.out rfl, rfl⟩

theorem bits_SubC (a b : Int) (c : Bool) (ha0 : 0 ≤ a) (ha1 : a < 4294967296) (hb0 : 0 ≤ b) (hb1 : b < 4294967296) (w : World) :
    Calls Try.prog 76 #[.int .u32 a, .int .u32 b, .bool c] w
      fun e w' => e = .returned (.tuple #[.int .u32 (subR a b c), .bool (subC a b c), .bool (subO a b c)]) ∧ w = w' := by
  have hc := c2i_bd c
  have ra := wrap32_bd a
  have rb := wrap32_bd b
  have hr : IntKind.u64.wrap (IntKind.u64.wrap (a - b) - c2i c) % 4294967296 = subR a b c := by
    unfold subR; simp only [IntKind.wrap_u64]; omega
  have Hr := Lib.hid hr; clear hr
  have hd : (IntKind.u64.wrap (IntKind.u64.wrap (a - b) - c2i c) / 4294967296 != 0) = subC a b c := by
    unfold subC; rw [Bool.eq_iff_iff, bne_iff_ne, decide_eq_true_iff]; simp only [IntKind.wrap_u64]; omega
  have Hd := Lib.hid hd; clear hd
  go_enter Try.func76, Try.ntmps76
  go_wp2_with fail
  refine (bits_carry c _).mono ?_; rintro e w' ⟨rfl, rfl⟩
  go_wp2_with fail
  refine (bits_carry c _).mono ?_; rintro e w' ⟨rfl, rfl⟩
  go_wp2_with fail
  refine (bits_wide _ (by omega) (by omega) _).mono ?_; rintro e w' ⟨rfl, rfl⟩
  go_wp2_with fail
  go_ret3
  exact ⟨ret_ibb Hr.out Hd.out rfl, rfl⟩

theorem bits_MulU (a b : Int) (ha0 : 0 ≤ a) (ha1 : a < 4294967296) (hb0 : 0 ≤ b) (hb1 : b < 4294967296) (w : World) :
    Calls Try.prog 50 #[.int .u32 a, .int .u32 b] w
      fun e w' => e = .returned (.tuple #[.int .u32 (mulUl a b), .int .u32 (mulUh a b)]) ∧ w = w' := by
  have hp := mulU_bd a b ha0 ha1 hb0 hb1
  go_enter Try.func50, Try.ntmps50
  go_wp2_with fail
  go_ret2
  exact ⟨rfl, rfl⟩

theorem bits_MulS (a b : Int) (ha0 : 0 ≤ a) (ha1 : a < 4294967296) (hb0 : 0 ≤ b) (hb1 : b < 4294967296) (w : World) :
    Calls Try.prog 51 #[.int .u32 a, .int .u32 b] w
      fun e w' => e = .returned (.tuple #[.int .u32 (mulSl a b), .int .u32 (mulSh a b)]) ∧ w = w' := by
  have ra := wrap32_bd a
  have rb := wrap32_bd b
  have hp := mulS_bd (wrap32 a) (wrap32 b) ra.1 (by omega) rb.1 (by omega)
  have hq : wrap32 a * wrap32 b % 4294967296 = mulSl a b := by
    unfold mulSl; rw [Int.mul_emod, wrap32_mod, wrap32_mod, ← Int.mul_emod]
  have Hq := Lib.hid hq; clear hq
  go_enter Try.func51, Try.ntmps51
  go_wp2_with fail
  go_ret2
  exact ⟨ret_ii Hq.out rfl, rfl⟩

theorem parN_succ_walk (x : Int) (k : Nat) : ((x / 2 ^ k % 2 == 1) = true) ∨ ((x / 2 ^ k % 2 == 1) = false) := by cases h : (x / 2 ^ k % 2 == 1) <;> simp

theorem and_one_u32 (x : Int) (h0 : 0 ≤ x) (h1 : x < 4294967296) : bits .and .u32 x 1 = x % 2 := by
  obtain ⟨n, rfl⟩ := Int.eq_ofNat_of_zero_le h0
  have a : (BitVec.ofInt 32 (n : Int)).toNat = n := by
    rw [BitVec.ofInt_natCast, BitVec.toNat_ofNat]; exact Nat.mod_eq_of_lt (by omega)
  have b : (BitVec.ofInt 32 1).toNat = 1 := by decide
  show IntKind.u32.wrap ((BitVec.ofInt 32 (n : Int) &&& BitVec.ofInt 32 1).toNat : Int) = _
  rw [BitVec.toNat_and, a, b, IntKind.wrap_u32', Nat.and_one_is_mod]
  omega

theorem bits_Parity (x : Int) (hx0 : 0 ≤ x) (hx1 : x < 4294967296) (w : World) :
    Calls Try.prog 54 #[.int .u32 x] w fun e w' => e = .returned (.bool (par x)) ∧ w = w' := by
  go_enter Try.func54, Try.ntmps54
  go_wp2
  go_loop [3, 5] (fun o i => ∃ k : Nat, k ≤ 8 ∧ i = .int .i64 k ∧ o = .bool (parN x k)) (fun _ i => 8 - (intOf i).toNat)
  case atStart => exact ⟨0, by omega, rfl, rfl⟩
  case round =>
    obtain ⟨k, hk, rfl, rfl⟩ := hrel
    by_cases hlt : k < 8
    · have e1 : bits .and .u32 (x / 2 ^ k) 1 = x / 2 ^ k % 2 := by
        have hp := pow_pos k
        have h0 : 0 ≤ x / 2 ^ k := Int.ediv_nonneg hx0 (Int.le_of_lt hp)
        have h1 : x / 2 ^ k ≤ x := Int.ediv_le_self _ hx0
        exact and_one_u32 _ h0 (by omega)
      have E1 := Lib.hid e1; clear e1
      go_wp2
      all_goals
        go_round
        case rel => exact ⟨k + 1, by omega, by go_num, congrArg Value.bool (by rw [E1.out]; rfl)⟩
        case measure => simp [intOf]; omega
    · go_wp2
      obtain rfl : k = 8 := by omega
      go_ret
      exact ⟨rfl, rfl⟩

abbrev bytesOf (x : Int) : Array Value := #[.int .u8 (x % 256), .int .u8 (x / 256 % 256), .int .u8 (x / 65536 % 256), .int .u8 (x / 16777216)]

theorem bits_Bytes (x : Int) (hx0 : 0 ≤ x) (hx1 : x < 4294967296) (w : World) :
    Calls Try.prog 78 #[.int .u32 x] w fun e w' => e = .returned (.agg (bytesOf x)) ∧ w.alloc (.cells (bytesOf x) 122) = w' := by
  go_enter Try.func78, Try.ntmps78
  go_wp2
  exact bodyPost_ret (v := .agg (bytesOf x)) (by simp [results, Try.results78, go_sem]) rfl ⟨rfl, rfl⟩

theorem ref1_Signed (x n : Int) (hx0 : 0 ≤ x) (hx1 : x < 4294967296) (w : World) :
    Calls Try.prog 71 #[.int .u32 x, .int .i64 n] w fun e w' => e = .returned (.int .i32 (sgn x n)) ∧ w = w' := by
  by_cases h1 : n < 1
  · have e : sgn x n = sgm (32 - 31) x := by unfold sgn clamp1; rw [if_pos h1]
    have E := Lib.hid e; clear e
    go_enter Try.func71, Try.ntmps71
    go_wp2
    go_ret
    exact ⟨ret_int (by rw [E.out, ← shl_sar x 31 (by omega)]; rfl), rfl⟩
  · have h1' : 1 ≤ n := by omega
    by_cases h2 : 32 < n
    · have e : sgn x n = sgm 32 x := by unfold sgn clamp1; rw [if_neg h1, if_pos h2]
      have E := Lib.hid e; clear e
      have h3 : ¬ n ≤ 32 := by omega
      go_enter Try.func71, Try.ntmps71
      go_wp2
      go_ret
      exact ⟨ret_int (by rw [E.out, ← wrap32_sgm]), rfl⟩
    · have h2' : n ≤ 32 := by omega
      by_cases h3 : n = 1
      · subst h3
        have e : sgn x 1 = sgm (32 - 31) x := rfl
        have E := Lib.hid e; clear e
        go_enter Try.func71, Try.ntmps71
        go_wp2
        go_ret
        exact ⟨ret_int (by rw [E.out, ← shl_sar x 31 (by omega)]; rfl), rfl⟩
      · have h4 : 1 < n := by omega
        clear h3
        have e : sgn x n = sgm (32 - (32 - n).toNat) x := by
          unfold sgn clamp1; rw [if_neg h1, if_neg h2]; congr 1; omega
        have E := Lib.hid e; clear e
        go_enter Try.func71, Try.ntmps71
        go_wp2
        go_ret
        exact ⟨ret_int (by rw [E.out, ← shl_sar x _ (by omega)]), rfl⟩

theorem ref1_sign (x : Int) (hx0 : 0 ≤ x) (hx1 : x < 4294967296) (w : World) :
    Calls Try.prog 103 #[.int .u32 x] w fun e w' => e = .returned (.int .i64 (wrap32 x)) ∧ w = w' := by
  have hb := wrap32_bd x
  go_enter Try.func103, Try.ntmps103
  go_wp2
  go_ret
  exact ⟨rfl, rfl⟩

theorem wide_ref (s a b c : Int) (h : s % 4294967296 = (a + b + c) % 4294967296) : wrap32 (s % 4294967296) = wrap32 (a + b + c) := by unfold wrap32; omega

theorem ref1_MulU (a b : Int) (ha0 : 0 ≤ a) (ha1 : a < 4294967296) (hb0 : 0 ≤ b) (hb1 : b < 4294967296) (w : World) :
    Calls Try.prog 90 #[.int .u32 a, .int .u32 b] w
      fun e w' => e = .returned (.tuple #[.int .u32 (mulUl a b), .int .u32 (mulUh a b)]) ∧ w = w' := by
  have hp := mulU_bd a b ha0 ha1 hb0 hb1
  go_enter Try.func90, Try.ntmps90
  go_wp2_with fail
  go_ret2
  exact ⟨rfl, rfl⟩

theorem ref1_MulS (a b : Int) (ha0 : 0 ≤ a) (ha1 : a < 4294967296) (hb0 : 0 ≤ b) (hb1 : b < 4294967296) (w : World) :
    Calls Try.prog 91 #[.int .u32 a, .int .u32 b] w
      fun e w' => e = .returned (.tuple #[.int .u32 (mulSl a b), .int .u32 (mulSh a b)]) ∧ w = w' := by
  have ra := wrap32_bd a
  have rb := wrap32_bd b
  have hp := mulS_bd (wrap32 a) (wrap32 b) ra.1 (by omega) rb.1 (by omega)
  have hq : wrap32 a * wrap32 b % 4294967296 = mulSl a b := by
    unfold mulSl; rw [Int.mul_emod, wrap32_mod, wrap32_mod, ← Int.mul_emod]
  have Hq := Lib.hid hq; clear hq
  have hr : IntKind.u64.wrap (wrap32 a * wrap32 b) / 4294967296 % 4294967296 = mulSh a b := by
    unfold mulSh; rw [IntKind.wrap_u64]; omega
  have Hr := Lib.hid hr; clear hr
  go_enter Try.func91, Try.ntmps91
  go_wp2_with fail
  refine (ref1_sign a ha0 ha1 _).mono ?_; rintro e w' ⟨rfl, rfl⟩
  go_wp2_with fail
  refine (ref1_sign b hb0 hb1 _).mono ?_; rintro e w' ⟨rfl, rfl⟩
  go_wp2_with fail
  go_ret2
  exact ⟨ret_ii Hq.out Hr.out, rfl⟩

/-- what the document's Field has put together after k rounds -/
def fldK (x a : Int) (k : Nat) : Int := if 32 ≤ a ∨ a ≤ -33 then 0 else if a < 0 then x * 2 ^ (-a).toNat % 2 ^ k else x / 2 ^ a.toNat % 2 ^ k

end Go.Proofs.Ytndfcpkmchjncaa
