/- The walk of the law BitsLong. -/
import Derived.Test.YtlokdoklkfnleaaBitsKnown
namespace Go.Proofs.Ytlokdoklkfnleaa
open Go.ChangeShapes Go.WideShapes Go.ChangeAt Go.RowKit
set_option linter.unusedVariables false

/-- with signs the higher words differ by what signs are worth -/
theorem long_high (a b : Int) (ha0 : 0 ≤ a) (ha1 : a < 4294967296) (hb0 : 0 ≤ b) (hb1 : b < 4294967296) :
    mulSh a b = (mulUh a b - (if 2147483648 ≤ a then b else 0) - (if 2147483648 ≤ b then a else 0)) % 4294967296 := by
  unfold mulSh mulUh
  rcases wrap32_cases a ha0 ha1 with ⟨h1, e1⟩ | ⟨h1, e1⟩ <;> rcases wrap32_cases b hb0 hb1 with ⟨h2, e2⟩ | ⟨h2, e2⟩ <;> rw [e1, e2]
  · rw [if_neg (by omega), if_neg (by omega)]; omega
  · rw [if_neg (by omega), if_pos (by omega), Int.mul_sub]; omega
  · rw [if_pos (by omega), if_neg (by omega), Int.sub_mul]; omega
  · rw [if_pos (by omega), if_pos (by omega), Int.sub_mul, Int.mul_sub]; omega

theorem mulUl_zero (a : Int) : mulUl a ((0 : Nat) : Int) = 0 := by unfold mulUl; simp
theorem mulUh_zero (a : Int) : mulUh a ((0 : Nat) : Int) = 0 := by unfold mulUh; simp

theorem long_step (a : Int) (k : Nat) (ha0 : 0 ≤ a) (ha1 : a < 4294967296) :
    addR (mulUl a k) a false = mulUl a ((k + 1 : Nat) : Int) ∧
    (addC (mulUl a k) a false = true → mulUh a ((k + 1 : Nat) : Int) = mulUh a k + 1) ∧ (addC (mulUl a k) a false = false → mulUh a ((k + 1 : Nat) : Int) = mulUh a k) := by
  have e : a * ((k + 1 : Nat) : Int) = a * k + a := by rw [Int.natCast_add, Int.mul_add]; simp
  unfold mulUl mulUh addR addC c2i
  rw [e]
  generalize a * (k : Int) = t
  refine ⟨by simp, fun h => ?_, fun h => ?_⟩
  · simp at h; omega
  · simp at h; omega

theorem mulUh_bd (a b : Int) (ha0 : 0 ≤ a) (ha1 : a < 4294967296) (hb0 : 0 ≤ b) (hb1 : b < 4294967296) : 0 ≤ mulUh a b ∧ mulUh a b ≤ 4294967294 := by
  have := mulU_bd a b ha0 ha1 hb0 hb1
  unfold mulUh; omega
theorem mulUl_bd (a b : Int) : 0 ≤ mulUl a b ∧ mulUl a b < 4294967296 := by unfold mulUl; omega

set_option maxHeartbeats 400000 in
theorem BitsLong_walk (a0 : Int) (a1 : Int) (a2 : Int) (w0 : (Lit.int .u32 a0).wf = true) (w1 : (Lit.int .u32 a1).wf = true) (w2 : (Lit.int .u8 a2).wf = true) (w : World) :
    Calls Try.prog 7 #[.int .u32 a0, .int .u32 a1, .int .u8 a2] w fun e w' => e = .returned (.bool true) ∧ Grown w w' := by
  have b0 := bounds_u32 w0
  have b1 := bounds_u32 w1
  have b2 := bounds_u8 w2
  clear w0 w1 w2
  go_enter Try.func7, Try.ntmps7
  go_wp2_with fail
  refine (known1 _).mono ?_; rintro e w1 ⟨rfl, hg⟩
  go_wp2_with (go_at_call 22; refine (bits_MulU _ _ (by omega) (by omega) (by omega) (by omega) _).mono ?_; rintro e w' ⟨rfl, rfl⟩)
  go_loopw [10, 11, 12] (fun s h i wr => ∃ k : Nat, (k : Int) ≤ a2 % 20 ∧ i = .int .u32 k ∧ s = .int .u32 (mulUl a0 k) ∧ h = .int .u32 (mulUh a0 k) ∧ wr = w1) (fun _ _ i _ => 20 - (intOf i).toNat)
  case atStart => exact ⟨0, by omega, rfl, by rw [mulUl_zero], by rw [mulUh_zero], rfl⟩
  case round =>
    obtain ⟨k, hk, rfl, rfl, rfl, rfl⟩ := hrel
    by_cases hlt : (k : Int) < a2 % 20
    · have hst := long_step a0 k b0.1 (by omega)
      have hl := mulUl_bd a0 k
      have hh := mulUh_bd a0 k b0.1 (by omega) (by omega) (by omega)
      have Hst := Lib.hid hst; clear hst
      by_cases hc : addC (mulUl a0 k) a0 false = true
      · have Hc := Lib.hid hc
        go_wp2_with (go_at_call 23; refine (bits_AddC _ _ _ (by omega) (by omega) (by omega) (by omega) _).mono ?_; rintro e w' ⟨rfl, rfl⟩)
        all_goals
          go_roundw
          case rel => exact ⟨k + 1, by omega, by go_num, by rw [Hst.out.1], by rw [Hst.out.2.1 Hc.out], trivial⟩
          case measure => simp [intOf]; omega
      · have hc := Bool.eq_false_iff.2 hc
        have Hc := Lib.hid hc
        go_wp2_with (go_at_call 23; refine (bits_AddC _ _ _ (by omega) (by omega) (by omega) (by omega) _).mono ?_; rintro e w' ⟨rfl, rfl⟩)
        all_goals
          go_roundw
          case rel => exact ⟨k + 1, by omega, by go_num, by rw [Hst.out.1], by rw [Hst.out.2.2 Hc.out], trivial⟩
          case measure => simp [intOf]; omega
    · have hk2 : a2 % 20 = k := by omega
      have E1 : mulUl a0 (a2 % 20) = mulUl a0 k := by rw [hk2]
      have E2 : mulUh a0 (a2 % 20) = mulUh a0 k := by rw [hk2]
      have hm := long_high a0 a1 b0.1 (by omega) b1.1 (by omega)
      have he : mulUl a0 a1 = mulSl a0 a1 := rfl
      have hh := mulUh_bd a0 a1 b0.1 (by omega) b1.1 (by omega)
      clear hk2
      by_cases s0 : 2147483648 ≤ a0 <;> by_cases s1 : 2147483648 ≤ a1
      · have t0 : (a0 / 2147483648 == 1) = true := by rw [beq_iff_eq]; omega
        have t1 : (a1 / 2147483648 == 1) = true := by rw [beq_iff_eq]; omega
        have hm' : mulSh a0 a1 = (mulUh a0 a1 - a1 - a0) % 4294967296 := by
          rw [if_pos s0, if_pos s1] at hm; omega
        clear hm s0 s1
        go_wp2_with (first | (go_at_call 22; refine (bits_MulU _ _ (by omega) (by omega) (by omega) (by omega) _).mono ?_; rintro e w' ⟨rfl, rfl⟩) | (go_at_call 24; refine (bits_MulS _ _ (by omega) (by omega) (by omega) (by omega) _).mono ?_; rintro e w' ⟨rfl, rfl⟩))
        go_ret
        exact ⟨rfl, hg⟩
      · have t0 : (a0 / 2147483648 == 1) = true := by rw [beq_iff_eq]; omega
        have t1 : (a1 / 2147483648 == 1) = false := by rw [beq_eq_false_iff_ne]; omega
        have hm' : mulSh a0 a1 = (mulUh a0 a1 - a1) % 4294967296 := by
          rw [if_pos s0, if_neg s1] at hm; omega
        clear hm s0 s1
        go_wp2_with (first | (go_at_call 22; refine (bits_MulU _ _ (by omega) (by omega) (by omega) (by omega) _).mono ?_; rintro e w' ⟨rfl, rfl⟩) | (go_at_call 24; refine (bits_MulS _ _ (by omega) (by omega) (by omega) (by omega) _).mono ?_; rintro e w' ⟨rfl, rfl⟩))
        go_ret
        exact ⟨rfl, hg⟩
      · have t0 : (a0 / 2147483648 == 1) = false := by rw [beq_eq_false_iff_ne]; omega
        have t1 : (a1 / 2147483648 == 1) = true := by rw [beq_iff_eq]; omega
        have hm' : mulSh a0 a1 = (mulUh a0 a1 - a0) % 4294967296 := by
          rw [if_neg s0, if_pos s1] at hm; omega
        clear hm s0 s1
        go_wp2_with (first | (go_at_call 22; refine (bits_MulU _ _ (by omega) (by omega) (by omega) (by omega) _).mono ?_; rintro e w' ⟨rfl, rfl⟩) | (go_at_call 24; refine (bits_MulS _ _ (by omega) (by omega) (by omega) (by omega) _).mono ?_; rintro e w' ⟨rfl, rfl⟩))
        go_ret
        exact ⟨rfl, hg⟩
      · have t0 : (a0 / 2147483648 == 1) = false := by rw [beq_eq_false_iff_ne]; omega
        have t1 : (a1 / 2147483648 == 1) = false := by rw [beq_eq_false_iff_ne]; omega
        have hm' : mulSh a0 a1 = mulUh a0 a1 := by
          rw [if_neg s0, if_neg s1] at hm; omega
        clear hm s0 s1
        go_wp2_with (first | (go_at_call 22; refine (bits_MulU _ _ (by omega) (by omega) (by omega) (by omega) _).mono ?_; rintro e w' ⟨rfl, rfl⟩) | (go_at_call 24; refine (bits_MulS _ _ (by omega) (by omega) (by omega) (by omega) _).mono ?_; rintro e w' ⟨rfl, rfl⟩))
        go_ret
        exact ⟨rfl, hg⟩
end Go.Proofs.Ytlokdoklkfnleaa
