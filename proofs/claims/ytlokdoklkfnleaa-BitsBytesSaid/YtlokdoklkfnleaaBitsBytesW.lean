/- The walk of the law BitsBytes. -/
import Derived.Test.YtlokdoklkfnleaaBitsKnown
namespace Go.Proofs.Ytlokdoklkfnleaa
open Go.ChangeShapes Go.WideShapes Go.ChangeAt Go.RowKit
set_option linter.unusedVariables false

theorem Bts_at {w : World} (t : TypeId) (cs : Array Value) (g o cap : Nat) (bs : List Int) (hg : g = w.heap.size) (hc : ∀ i, i < bs.length → cs[o + i]? = some (.int .u8 (bs.getD i 0))) (hb : ∀ x ∈ bs, 0 ≤ x ∧ x < 256) :
    Bts (w.alloc (.cells cs t)) (.slice (some ⟨g, o, none⟩) bs.length cap) bs := by subst hg; exact Bts_new w t cs o cap bs hc hb

theorem app7 (x y z t p q r : Value) (Z : Array Value) (i : Nat) (hi : i < 7) : (#[x, y, z, t] ++ (#[p, q, r] ++ Z))[0 + i]? = [x, y, z, t, p, q, r][i]? := by
  match i, hi with
  | 0, _ => simp [Array.getElem?_append]
  | 1, _ => simp [Array.getElem?_append]
  | 2, _ => simp [Array.getElem?_append]
  | 3, _ => simp [Array.getElem?_append]
  | 4, _ => simp [Array.getElem?_append]
  | 5, _ => simp [Array.getElem?_append]
  | 6, _ => simp [Array.getElem?_append]

theorem Bts_drew {w : World} {v : Value} {bs : List Int} (h : Bts w v bs) : Bts w.drew v bs := h
theorem Bts_nil (w : World) : Bts w (.slice none 0 0) [] := ⟨none, 0, rfl, fun i hi => absurd hi (Nat.not_lt_zero _), by simp⟩

set_option maxHeartbeats 400000 in
theorem BitsBytes_walk0 (a0 : Int) (a1 : Int) (b0 : 0 ≤ a0 ∧ a0 ≤ 4294967295) (b1 : 0 ≤ a1 ∧ a1 ≤ 255) (h0 : a1 % 5 = 0) (w : World) :
    Calls Try.prog 5 #[.int .u32 a0, .int .u8 a1] w fun e w' => e = .returned (.bool true) ∧ Grown w w' := by
  have q0 : 0 ≤ a0 % 256 ∧ a0 % 256 < 256 := by omega
  have q1 : 0 ≤ a0 / 256 % 256 ∧ a0 / 256 % 256 < 256 := by omega
  have q2 : 0 ≤ a0 / 65536 % 256 ∧ a0 / 65536 % 256 < 256 := by omega
  have q3 : 0 ≤ a0 / 16777216 ∧ a0 / 16777216 < 256 := by omega
  go_enter Try.func5, Try.ntmps5
  go_wp2_with fail
  refine (known1 _).mono ?_; rintro e w1 ⟨rfl, hg⟩
  go_wp2_with fail
  refine (bits_Bytes _ (by omega) (by omega) _).mono ?_; rintro e w' ⟨rfl, rfl⟩
  go_wp2_with fail
  refine (bits_Word [] _ _ (Bts_at _ _ _ 0 4 _ (by simp) (fun i hi => by exact absurd hi (Nat.not_lt_zero _)) (by simp))).mono ?_; rintro e w' ⟨rfl, rfl⟩
  go_wp2_with fail
  refine (bits_Word [a0 % 256, a0 / 256 % 256, a0 / 65536 % 256, a0 / 16777216] _ _ (Bts_alloc (Bts_at _ _ _ 0 4 _ (by simp) (fun i hi => by match i, hi with | 0, _ => rfl | 1, _ => rfl | 2, _ => rfl | 3, _ => rfl) (by simp [q0, q1, q2, q3])) _)).mono ?_; rintro e w' ⟨rfl, rfl⟩
  have e0 : wordOf [] = 0 := rfl
  have e1 : wordOf [a0 % 256, a0 / 256 % 256, a0 / 65536 % 256, a0 / 16777216] % 4294967296 = a0 := by unfold wordOf; simp <;> omega
  have e2 : bits .or .u32 0 a0 = a0 := by rw [or_u32 0 a0 (by omega) (by omega) (by omega) (by omega), Int.toNat_zero, Nat.zero_or]; omega
  go_wp2_with fail
  refine (bits_Word [a0 % 256, a0 / 256 % 256, a0 / 65536 % 256, a0 / 16777216, 1, 2, 3] _ _ (Bts_drew (Bts_at _ _ _ 0 _ _ (by simp) (fun i hi => by match i, hi with | 0, _ => exact app7 _ _ _ _ _ _ _ _ 0 (by omega) | 1, _ => exact app7 _ _ _ _ _ _ _ _ 1 (by omega) | 2, _ => exact app7 _ _ _ _ _ _ _ _ 2 (by omega) | 3, _ => exact app7 _ _ _ _ _ _ _ _ 3 (by omega) | 4, _ => exact app7 _ _ _ _ _ _ _ _ 4 (by omega) | 5, _ => exact app7 _ _ _ _ _ _ _ _ 5 (by omega) | 6, _ => exact app7 _ _ _ _ _ _ _ _ 6 (by omega)) (by simp [q0, q1, q2, q3])))).mono ?_; rintro e w' ⟨rfl, rfl⟩
  have e3 : wordOf [a0 % 256, a0 / 256 % 256, a0 / 65536 % 256, a0 / 16777216, 1, 2, 3] = a0 := by unfold wordOf; simp <;> omega
  go_wp2_with fail
  refine (bits_Word [] _ _ (Bts_nil _)).mono ?_; rintro e w' ⟨rfl, rfl⟩
  have e4 : wordOf [] = 0 := rfl
  go_wp2_with fail
  go_ret
  exact ⟨rfl, by repeat (first | exact hg | apply Grown.drew | apply Grown.alloc)⟩

set_option maxHeartbeats 400000 in
theorem BitsBytes_walk1 (a0 : Int) (a1 : Int) (b0 : 0 ≤ a0 ∧ a0 ≤ 4294967295) (b1 : 0 ≤ a1 ∧ a1 ≤ 255) (h0 : a1 % 5 = 1) (w : World) :
    Calls Try.prog 5 #[.int .u32 a0, .int .u8 a1] w fun e w' => e = .returned (.bool true) ∧ Grown w w' := by
  have q0 : 0 ≤ a0 % 256 ∧ a0 % 256 < 256 := by omega
  have q1 : 0 ≤ a0 / 256 % 256 ∧ a0 / 256 % 256 < 256 := by omega
  have q2 : 0 ≤ a0 / 65536 % 256 ∧ a0 / 65536 % 256 < 256 := by omega
  have q3 : 0 ≤ a0 / 16777216 ∧ a0 / 16777216 < 256 := by omega
  go_enter Try.func5, Try.ntmps5
  go_wp2_with fail
  refine (known1 _).mono ?_; rintro e w1 ⟨rfl, hg⟩
  go_wp2_with fail
  refine (bits_Bytes _ (by omega) (by omega) _).mono ?_; rintro e w' ⟨rfl, rfl⟩
  go_wp2_with fail
  refine (bits_Word [a0 % 256] _ _ (Bts_at _ _ _ 0 4 _ (by simp) (fun i hi => by match i, hi with | 0, _ => rfl) (by simp [q0]))).mono ?_; rintro e w' ⟨rfl, rfl⟩
  go_wp2_with fail
  refine (bits_Word [a0 / 256 % 256, a0 / 65536 % 256, a0 / 16777216] _ _ (Bts_alloc (Bts_at _ _ _ 1 3 _ (by simp) (fun i hi => by match i, hi with | 0, _ => rfl | 1, _ => rfl | 2, _ => rfl) (by simp [q1, q2, q3])) _)).mono ?_; rintro e w' ⟨rfl, rfl⟩
  have e1 : bits .or .u32 (wordOf [a0 % 256]) (wordOf [a0 / 256 % 256, a0 / 65536 % 256, a0 / 16777216] * 256 % 4294967296) = a0 := by
    have := or_sum (a0 % 256) (a0 / 256) 8 (by omega) (by omega) (by omega) (by omega) (by omega)
    have g1 : wordOf [a0 % 256] = a0 % 256 := by unfold wordOf; simp <;> omega
    have g2 : wordOf [a0 / 256 % 256, a0 / 65536 % 256, a0 / 16777216] * 256 % 4294967296 = a0 / 256 * 256 := by unfold wordOf; simp <;> omega
    rw [g1, g2]
    exact this.trans (by omega)
  go_wp2_with fail
  refine (bits_Word [a0 % 256, a0 / 256 % 256, a0 / 65536 % 256, a0 / 16777216, 1, 2, 3] _ _ (Bts_drew (Bts_at _ _ _ 0 _ _ (by simp) (fun i hi => by match i, hi with | 0, _ => exact app7 _ _ _ _ _ _ _ _ 0 (by omega) | 1, _ => exact app7 _ _ _ _ _ _ _ _ 1 (by omega) | 2, _ => exact app7 _ _ _ _ _ _ _ _ 2 (by omega) | 3, _ => exact app7 _ _ _ _ _ _ _ _ 3 (by omega) | 4, _ => exact app7 _ _ _ _ _ _ _ _ 4 (by omega) | 5, _ => exact app7 _ _ _ _ _ _ _ _ 5 (by omega) | 6, _ => exact app7 _ _ _ _ _ _ _ _ 6 (by omega)) (by simp [q0, q1, q2, q3])))).mono ?_; rintro e w' ⟨rfl, rfl⟩
  have e3 : wordOf [a0 % 256, a0 / 256 % 256, a0 / 65536 % 256, a0 / 16777216, 1, 2, 3] = a0 := by unfold wordOf; simp <;> omega
  go_wp2_with fail
  refine (bits_Word [] _ _ (Bts_nil _)).mono ?_; rintro e w' ⟨rfl, rfl⟩
  have e4 : wordOf [] = 0 := rfl
  go_wp2_with fail
  go_ret
  exact ⟨rfl, by repeat (first | exact hg | apply Grown.drew | apply Grown.alloc)⟩

set_option maxHeartbeats 400000 in
theorem BitsBytes_walk2 (a0 : Int) (a1 : Int) (b0 : 0 ≤ a0 ∧ a0 ≤ 4294967295) (b1 : 0 ≤ a1 ∧ a1 ≤ 255) (h0 : a1 % 5 = 2) (w : World) :
    Calls Try.prog 5 #[.int .u32 a0, .int .u8 a1] w fun e w' => e = .returned (.bool true) ∧ Grown w w' := by
  have q0 : 0 ≤ a0 % 256 ∧ a0 % 256 < 256 := by omega
  have q1 : 0 ≤ a0 / 256 % 256 ∧ a0 / 256 % 256 < 256 := by omega
  have q2 : 0 ≤ a0 / 65536 % 256 ∧ a0 / 65536 % 256 < 256 := by omega
  have q3 : 0 ≤ a0 / 16777216 ∧ a0 / 16777216 < 256 := by omega
  go_enter Try.func5, Try.ntmps5
  go_wp2_with fail
  refine (known1 _).mono ?_; rintro e w1 ⟨rfl, hg⟩
  go_wp2_with fail
  refine (bits_Bytes _ (by omega) (by omega) _).mono ?_; rintro e w' ⟨rfl, rfl⟩
  go_wp2_with fail
  refine (bits_Word [a0 % 256, a0 / 256 % 256] _ _ (Bts_at _ _ _ 0 4 _ (by simp) (fun i hi => by match i, hi with | 0, _ => rfl | 1, _ => rfl) (by simp [q0, q1]))).mono ?_; rintro e w' ⟨rfl, rfl⟩
  go_wp2_with fail
  refine (bits_Word [a0 / 65536 % 256, a0 / 16777216] _ _ (Bts_alloc (Bts_at _ _ _ 2 2 _ (by simp) (fun i hi => by match i, hi with | 0, _ => rfl | 1, _ => rfl) (by simp [q2, q3])) _)).mono ?_; rintro e w' ⟨rfl, rfl⟩
  have e1 : bits .or .u32 (wordOf [a0 % 256, a0 / 256 % 256]) (wordOf [a0 / 65536 % 256, a0 / 16777216] * 65536 % 4294967296) = a0 := by
    have := or_sum (a0 % 65536) (a0 / 65536) 16 (by omega) (by omega) (by omega) (by omega) (by omega)
    have g1 : wordOf [a0 % 256, a0 / 256 % 256] = a0 % 65536 := by unfold wordOf; simp <;> omega
    have g2 : wordOf [a0 / 65536 % 256, a0 / 16777216] * 65536 % 4294967296 = a0 / 65536 * 65536 := by unfold wordOf; simp <;> omega
    rw [g1, g2]
    exact this.trans (by omega)
  go_wp2_with fail
  refine (bits_Word [a0 % 256, a0 / 256 % 256, a0 / 65536 % 256, a0 / 16777216, 1, 2, 3] _ _ (Bts_drew (Bts_at _ _ _ 0 _ _ (by simp) (fun i hi => by match i, hi with | 0, _ => exact app7 _ _ _ _ _ _ _ _ 0 (by omega) | 1, _ => exact app7 _ _ _ _ _ _ _ _ 1 (by omega) | 2, _ => exact app7 _ _ _ _ _ _ _ _ 2 (by omega) | 3, _ => exact app7 _ _ _ _ _ _ _ _ 3 (by omega) | 4, _ => exact app7 _ _ _ _ _ _ _ _ 4 (by omega) | 5, _ => exact app7 _ _ _ _ _ _ _ _ 5 (by omega) | 6, _ => exact app7 _ _ _ _ _ _ _ _ 6 (by omega)) (by simp [q0, q1, q2, q3])))).mono ?_; rintro e w' ⟨rfl, rfl⟩
  have e3 : wordOf [a0 % 256, a0 / 256 % 256, a0 / 65536 % 256, a0 / 16777216, 1, 2, 3] = a0 := by unfold wordOf; simp <;> omega
  go_wp2_with fail
  refine (bits_Word [] _ _ (Bts_nil _)).mono ?_; rintro e w' ⟨rfl, rfl⟩
  have e4 : wordOf [] = 0 := rfl
  go_wp2_with fail
  go_ret
  exact ⟨rfl, by repeat (first | exact hg | apply Grown.drew | apply Grown.alloc)⟩

set_option maxHeartbeats 400000 in
theorem BitsBytes_walk3 (a0 : Int) (a1 : Int) (b0 : 0 ≤ a0 ∧ a0 ≤ 4294967295) (b1 : 0 ≤ a1 ∧ a1 ≤ 255) (h0 : a1 % 5 = 3) (w : World) :
    Calls Try.prog 5 #[.int .u32 a0, .int .u8 a1] w fun e w' => e = .returned (.bool true) ∧ Grown w w' := by
  have q0 : 0 ≤ a0 % 256 ∧ a0 % 256 < 256 := by omega
  have q1 : 0 ≤ a0 / 256 % 256 ∧ a0 / 256 % 256 < 256 := by omega
  have q2 : 0 ≤ a0 / 65536 % 256 ∧ a0 / 65536 % 256 < 256 := by omega
  have q3 : 0 ≤ a0 / 16777216 ∧ a0 / 16777216 < 256 := by omega
  go_enter Try.func5, Try.ntmps5
  go_wp2_with fail
  refine (known1 _).mono ?_; rintro e w1 ⟨rfl, hg⟩
  go_wp2_with fail
  refine (bits_Bytes _ (by omega) (by omega) _).mono ?_; rintro e w' ⟨rfl, rfl⟩
  go_wp2_with fail
  refine (bits_Word [a0 % 256, a0 / 256 % 256, a0 / 65536 % 256] _ _ (Bts_at _ _ _ 0 4 _ (by simp) (fun i hi => by match i, hi with | 0, _ => rfl | 1, _ => rfl | 2, _ => rfl) (by simp [q0, q1, q2]))).mono ?_; rintro e w' ⟨rfl, rfl⟩
  go_wp2_with fail
  refine (bits_Word [a0 / 16777216] _ _ (Bts_alloc (Bts_at _ _ _ 3 1 _ (by simp) (fun i hi => by match i, hi with | 0, _ => rfl) (by simp [q3])) _)).mono ?_; rintro e w' ⟨rfl, rfl⟩
  have e1 : bits .or .u32 (wordOf [a0 % 256, a0 / 256 % 256, a0 / 65536 % 256]) (wordOf [a0 / 16777216] * 16777216 % 4294967296) = a0 := by
    have := or_sum (a0 % 16777216) (a0 / 16777216) 24 (by omega) (by omega) (by omega) (by omega) (by omega)
    have g1 : wordOf [a0 % 256, a0 / 256 % 256, a0 / 65536 % 256] = a0 % 16777216 := by unfold wordOf; simp <;> omega
    have g2 : wordOf [a0 / 16777216] * 16777216 % 4294967296 = a0 / 16777216 * 16777216 := by unfold wordOf; simp <;> omega
    rw [g1, g2]
    exact this.trans (by omega)
  go_wp2_with fail
  refine (bits_Word [a0 % 256, a0 / 256 % 256, a0 / 65536 % 256, a0 / 16777216, 1, 2, 3] _ _ (Bts_drew (Bts_at _ _ _ 0 _ _ (by simp) (fun i hi => by match i, hi with | 0, _ => exact app7 _ _ _ _ _ _ _ _ 0 (by omega) | 1, _ => exact app7 _ _ _ _ _ _ _ _ 1 (by omega) | 2, _ => exact app7 _ _ _ _ _ _ _ _ 2 (by omega) | 3, _ => exact app7 _ _ _ _ _ _ _ _ 3 (by omega) | 4, _ => exact app7 _ _ _ _ _ _ _ _ 4 (by omega) | 5, _ => exact app7 _ _ _ _ _ _ _ _ 5 (by omega) | 6, _ => exact app7 _ _ _ _ _ _ _ _ 6 (by omega)) (by simp [q0, q1, q2, q3])))).mono ?_; rintro e w' ⟨rfl, rfl⟩
  have e3 : wordOf [a0 % 256, a0 / 256 % 256, a0 / 65536 % 256, a0 / 16777216, 1, 2, 3] = a0 := by unfold wordOf; simp <;> omega
  go_wp2_with fail
  refine (bits_Word [] _ _ (Bts_nil _)).mono ?_; rintro e w' ⟨rfl, rfl⟩
  have e4 : wordOf [] = 0 := rfl
  go_wp2_with fail
  go_ret
  exact ⟨rfl, by repeat (first | exact hg | apply Grown.drew | apply Grown.alloc)⟩

set_option maxHeartbeats 400000 in
theorem BitsBytes_walk4 (a0 : Int) (a1 : Int) (b0 : 0 ≤ a0 ∧ a0 ≤ 4294967295) (b1 : 0 ≤ a1 ∧ a1 ≤ 255) (h0 : a1 % 5 = 4) (w : World) :
    Calls Try.prog 5 #[.int .u32 a0, .int .u8 a1] w fun e w' => e = .returned (.bool true) ∧ Grown w w' := by
  have q0 : 0 ≤ a0 % 256 ∧ a0 % 256 < 256 := by omega
  have q1 : 0 ≤ a0 / 256 % 256 ∧ a0 / 256 % 256 < 256 := by omega
  have q2 : 0 ≤ a0 / 65536 % 256 ∧ a0 / 65536 % 256 < 256 := by omega
  have q3 : 0 ≤ a0 / 16777216 ∧ a0 / 16777216 < 256 := by omega
  go_enter Try.func5, Try.ntmps5
  go_wp2_with fail
  refine (known1 _).mono ?_; rintro e w1 ⟨rfl, hg⟩
  go_wp2_with fail
  refine (bits_Bytes _ (by omega) (by omega) _).mono ?_; rintro e w' ⟨rfl, rfl⟩
  go_wp2_with fail
  refine (bits_Word [a0 % 256, a0 / 256 % 256, a0 / 65536 % 256, a0 / 16777216] _ _ (Bts_at _ _ _ 0 4 _ (by simp) (fun i hi => by match i, hi with | 0, _ => rfl | 1, _ => rfl | 2, _ => rfl | 3, _ => rfl) (by simp [q0, q1, q2, q3]))).mono ?_; rintro e w' ⟨rfl, rfl⟩
  have e0 : wordOf [a0 % 256, a0 / 256 % 256, a0 / 65536 % 256, a0 / 16777216] = a0 := by unfold wordOf; simp <;> omega
  have e2 : bits .or .u32 a0 0 = a0 := by rw [or_u32 a0 0 (by omega) (by omega) (by omega) (by omega), Int.toNat_zero, Nat.or_zero]; omega
  go_wp2_with fail
  refine (bits_Word [a0 % 256, a0 / 256 % 256, a0 / 65536 % 256, a0 / 16777216, 1, 2, 3] _ _ (Bts_drew (Bts_at _ _ _ 0 _ _ (by simp) (fun i hi => by match i, hi with | 0, _ => exact app7 _ _ _ _ _ _ _ _ 0 (by omega) | 1, _ => exact app7 _ _ _ _ _ _ _ _ 1 (by omega) | 2, _ => exact app7 _ _ _ _ _ _ _ _ 2 (by omega) | 3, _ => exact app7 _ _ _ _ _ _ _ _ 3 (by omega) | 4, _ => exact app7 _ _ _ _ _ _ _ _ 4 (by omega) | 5, _ => exact app7 _ _ _ _ _ _ _ _ 5 (by omega) | 6, _ => exact app7 _ _ _ _ _ _ _ _ 6 (by omega)) (by simp [q0, q1, q2, q3])))).mono ?_; rintro e w' ⟨rfl, rfl⟩
  have e3 : wordOf [a0 % 256, a0 / 256 % 256, a0 / 65536 % 256, a0 / 16777216, 1, 2, 3] = a0 := by unfold wordOf; simp <;> omega
  go_wp2_with fail
  refine (bits_Word [] _ _ (Bts_nil _)).mono ?_; rintro e w' ⟨rfl, rfl⟩
  have e4 : wordOf [] = 0 := rfl
  go_wp2_with fail
  go_ret
  exact ⟨rfl, by repeat (first | exact hg | apply Grown.drew | apply Grown.alloc)⟩

theorem BitsBytes_walk (a0 : Int) (a1 : Int) (w0 : (Lit.int .u32 a0).wf = true) (w1 : (Lit.int .u8 a1).wf = true) (w : World) :
    Calls Try.prog 5 #[.int .u32 a0, .int .u8 a1] w fun e w' => e = .returned (.bool true) ∧ Grown w w' := by
  have b0 := bounds_u32 w0
  have b1 := bounds_u8 w1
  have h : a1 % 5 = 0 ∨ a1 % 5 = 1 ∨ a1 % 5 = 2 ∨ a1 % 5 = 3 ∨ a1 % 5 = 4 := by omega
  rcases h with h | h | h | h | h
  · exact BitsBytes_walk0 a0 a1 b0 b1 h w
  · exact BitsBytes_walk1 a0 a1 b0 b1 h w
  · exact BitsBytes_walk2 a0 a1 b0 b1 h w
  · exact BitsBytes_walk3 a0 a1 b0 b1 h w
  · exact BitsBytes_walk4 a0 a1 b0 b1 h w
end Go.Proofs.Ytlokdoklkfnleaa
