/-
  A whole number's bits: what the call answers.
-/
import Derived.Test.YtdchnlmclngjmaaDoorFl
namespace Go.Proofs.YtdchnlmclngjmaaDoor
open Go.Sx
open Go.ChangeShapes Go.WideShapes Go.ChangeAt Go.RowKit
set_option linter.unusedVariables false
set_option maxRecDepth 100000
set_option maxHeartbeats 1000000

theorem up52_stop {k : Nat} {m e : Int} (h : ¬ m / 4503599627370496 = 0) : up52 k m e = (m, e) := by
  cases k with
  | zero => rfl
  | succ k => unfold up52; rw [if_neg h]
theorem up52_go {k : Nat} {m e : Int} (h : m / 4503599627370496 = 0) : up52 (k + 1) m e = up52 k (IntKind.wrap .u64 (m * 2)) (IntKind.wrap .u64 (e - 1)) := by
  rw [up52, if_pos h]
def Up (u M : Int) (k : Nat) : Prop := k ≤ 60 ∧ 1 ≤ M ∧ M < 18446744073709551616 ∧ (M < 9007199254740992 ∨ k = 60) ∧ 2 ^ (60 - k) ≤ M ∧ up52 60 u 1075 = up52 k M (1015 + k)
theorem up_step {u M : Int} {k : Nat} (h : Up u M k) (hz : M / 4503599627370496 = 0) : ∃ j, k = j + 1 ∧ Up u (M * 2) j ∧ IntKind.wrap .u64 (M * 2) = M * 2 ∧ IntKind.wrap .u64 (1015 + (k : Int) - 1) = 1015 + (j : Int) := by
  obtain ⟨h1, h2, h3, h4, h5, h6⟩ := h
  have hk : k ≠ 0 := by
    intro q
    subst q
    have : (2 : Int) ^ (60 - 0) = 1152921504606846976 := by decide
    rw [this] at h5
    omega
  obtain ⟨j, rfl⟩ : ∃ j, k = j + 1 := ⟨k - 1, by omega⟩
  have e1 : IntKind.wrap .u64 (M * 2) = M * 2 := by rw [IntKind.wrap_u64]; omega
  have e2 : IntKind.wrap .u64 (1015 + ((j + 1 : Nat) : Int) - 1) = 1015 + (j : Int) := by rw [IntKind.wrap_u64]; omega
  refine ⟨j, rfl, ⟨by omega, by omega, by omega, Or.inl (by omega), ?_, ?_⟩, e1, e2⟩
  · have : (2 : Int) ^ (60 - j) = 2 ^ (60 - (j + 1)) * 2 := by rw [show 60 - j = 60 - (j + 1) + 1 by omega]; rfl
    rw [this]; omega
  · rw [h6, up52_go hz, e1, e2]
theorem wholeU_eq {s u M : Int} {k : Nat} (h : Up u M k) (hz : ¬ M / 4503599627370496 = 0) : wholeU s u = ibin .or .u64 (ibin .or .u64 s (ibin .shl .u64 (1015 + (k : Int)) 52)) (ibin .and .u64 M 4503599627370495) := by
  unfold wholeU
  rw [h.2.2.2.2.2, up52_stop hz]
def UpE (u M E : Int) (k : Nat) : Prop := E = 1015 + (k : Int) ∧ Up u M k
theorem upE_step {u M E : Int} {k : Nat} (h : UpE u M E k) (hz : M / 4503599627370496 = 0) : ∃ j, UpE u (M * 2) (E - 1) j ∧ IntKind.wrap .u64 (M * 2) = M * 2 ∧ IntKind.wrap .u64 (E - 1) = E - 1 ∧ 1 ≤ E := by
  obtain ⟨he, hu⟩ := h
  obtain ⟨j, rfl, h1, h2, h3⟩ := up_step hu hz
  have := hu.1
  refine ⟨j, ⟨by omega, h1⟩, h2, by rw [IntKind.wrap_u64]; omega, by omega⟩
theorem upE_end {s u M E : Int} {k : Nat} (h : UpE u M E k) (hz : ¬ M / 4503599627370496 = 0) : wholeU s u = ibin .or .u64 (ibin .or .u64 s (ibin .shl .u64 E 52)) (ibin .and .u64 M 4503599627370495) := by
  rw [h.1]; exact wholeU_eq h.2 hz
theorem shlE (E : Int) : ibin .shl .u64 E 52 = IntKind.wrap .u64 (E * 4503599627370496) := rfl
theorem fl_whole_pos (n : Int) (h0 : 0 < n) (h1 : n < 9223372036854775808) (h2 : -9223372036854775808 ≤ n) (w : World) : Calls Tryd.prog 25 #[.int .i64 n] w fun e w' => e = .returned (.int .u64 (wholeU 0 n)) ∧ w = w' := by
  have c0 : (n == 0) = false := by simp; omega
  have c1 : decide (n < 0) = false := decide_eq_false (by omega)
  obtain ⟨u, hu0⟩ : ∃ u, u = IntKind.wrap .u64 n := ⟨_, rfl⟩
  have hub : 1 ≤ u ∧ u < 18446744073709551616 := by rw [hu0]; rw [IntKind.wrap_u64]; omega
  have hw := hu0.symm
  clear hu0
  have st : UpE u u 1075 60 := ⟨by decide, by omega, by omega, by omega, Or.inr rfl, by simp; omega, rfl⟩
  go_enter Tryd.func25, Tryd.ntmps25
  go_wp2
  go_loop [4, 5] (fun m e => ∃ (k : Nat) (M E : Int), m = .int .u64 M ∧ e = .int .u64 E ∧ UpE u M E k) (fun _ e => (intOf e).toNat)
  case atStart => exact ⟨60, u, 1075, rfl, rfl, st⟩
  case round =>
    obtain ⟨k, M, E, rfl, rfl, hu⟩ := hrel
    by_cases hz : M / 4503599627370496 = 0
    · obtain ⟨j, hu', e1, e2, e3⟩ := upE_step hu hz
      have hq : (M / 4503599627370496 == 0) = true := by simp [hz]
      go_wp2
      all_goals
        go_round
        case rel => exact ⟨j, M * 2, E - 1, rfl, rfl, hu'⟩
        case measure => simp [intOf]; omega
    · have hq : (M / 4503599627370496 == 0) = false := by simp [hz]
      have hend := upE_end (s := 0) hu hz
      clear hz
      go_wp2
      go_ret
      exact ⟨by rw [show n = u from (by rw [← hw, IntKind.wrap_u64]; omega)]; exact congrArg (fun x => Ending.returned (.int .u64 x)) hend.symm, rfl⟩
theorem fl_whole_neg (n : Int) (h0 : n < 0) (h1 : n < 9223372036854775808) (h2 : -9223372036854775808 ≤ n) (w : World) : Calls Tryd.prog 25 #[.int .i64 n] w fun e w' => e = .returned (.int .u64 (wholeU 9223372036854775808 (IntKind.wrap .u64 (IntKind.wrap .i64 (-n))))) ∧ w = w' := by
  have c0 : (n == 0) = false := by simp; omega
  have c1 : decide (n < 0) = true := decide_eq_true (by omega)
  have ew : IntKind.wrap .i64 (-n) = wrap64 (-n) := by (rw [IntKind.wrap_i64]; unfold wrap64; omega)
  rw [ew]
  obtain ⟨u, hu0⟩ : ∃ u, u = IntKind.wrap .u64 (wrap64 (-n)) := ⟨_, rfl⟩
  have hub : 1 ≤ u ∧ u < 18446744073709551616 := by rw [hu0, ← ew]; rw [IntKind.wrap_u64, IntKind.wrap_i64]; omega
  have hw := hu0.symm
  clear hu0 ew
  rw [hw]
  have st : UpE u u 1075 60 := ⟨by decide, by omega, by omega, by omega, Or.inr rfl, by simp; omega, rfl⟩
  go_enter Tryd.func25, Tryd.ntmps25
  go_wp2
  go_loop [4, 5] (fun m e => ∃ (k : Nat) (M E : Int), m = .int .u64 M ∧ e = .int .u64 E ∧ UpE u M E k) (fun _ e => (intOf e).toNat)
  case atStart => exact ⟨60, u, 1075, rfl, rfl, st⟩
  case round =>
    obtain ⟨k, M, E, rfl, rfl, hu⟩ := hrel
    by_cases hz : M / 4503599627370496 = 0
    · obtain ⟨j, hu', e1, e2, e3⟩ := upE_step hu hz
      have hq : (M / 4503599627370496 == 0) = true := by simp [hz]
      go_wp2
      all_goals
        go_round
        case rel => exact ⟨j, M * 2, E - 1, rfl, rfl, hu'⟩
        case measure => simp [intOf]; omega
    · have hq : (M / 4503599627370496 == 0) = false := by simp [hz]
      have hend := upE_end (s := 9223372036854775808) hu hz
      clear hz
      go_wp2
      go_ret
      exact ⟨rfl, rfl⟩
theorem fl_whole (n : Int) (h2 : -9223372036854775808 ≤ n) (h1 : n < 9223372036854775808) (w : World) : Calls Tryd.prog 25 #[.int .i64 n] w fun e w' => e = .returned (.int .u64 (wholeF n)) ∧ w = w' := by
  unfold wholeF
  by_cases c : n = 0
  · subst c
    rw [if_pos rfl]
    go_enter Tryd.func25, Tryd.ntmps25
    go_wp2
    go_ret
    exact ⟨rfl, rfl⟩
  · rw [if_neg c]
    by_cases d : n < 0
    · rw [if_pos d]; exact fl_whole_neg n d h1 h2 w
    · have e : IntKind.wrap .u64 n = n := by rw [IntKind.wrap_u64]; omega
      rw [if_neg d, e]; exact fl_whole_pos n (by omega) h1 h2 w
end Go.Proofs.YtdchnlmclngjmaaDoor
