/-
  The host of the document runs: a loop of steps.
-/
import Derived.Test.YtpclikbjpjoccaaR5
namespace Go.Proofs.Ytpclikbjpjoccaa
open Go Go.RowKit Go.Sx
set_option linter.unusedVariables false
set_option linter.unusedSimpArgs false

set_option maxHeartbeats 2000000 in
theorem ref_Run (w : World) (hb mb : Nat) (S : HS) (hH : RefAt w hb mb S) (hG : Good S) (f : Int) (hf : I64 f) :
    Calls Try.prog 30 #[.pointer (some ⟨hb, 0, none⟩), .int .i64 f] w fun e w' => e = .returned (.tuple #[.int .i64 (hrun (fuelN f) S).1, .int .i64 ((hrun (fuelN f) S).2.1 : Nat)]) ∧ MakesR w hb mb (hrun (fuelN f) S).2.2 w' := by
  obtain ⟨N, hN⟩ : ∃ N, N = fuelN f := ⟨_, rfl⟩
  rw [← hN]
  have HS := Lib.hid hH; clear hH
  by_cases hneg : f ≤ 0
  · have hle : f ≤ 0 := by omega
    have hle2 : f ≤ 1000000 := by omega
    obtain rfl : N = 0 := by rw [hN]; unfold fuelN; omega
    have HN := Lib.hid hN; clear hN
    go_enter Try.func30, Try.ntmps30
    go_wp2
    go_loopw [7] (fun i wr => ∃ k T, At 0 S k T ∧ i = .int .i64 (k : Nat) ∧ MakesR w hb mb T wr) (fun i _ => 0 - (intOf i).toNat)
    case atStart => exact ⟨0, S, At.start hG _, rfl, HS.out, Turn.refl _ _⟩
    case round =>
      obtain ⟨k, T, hat, rfl, hm⟩ := hrel
      have hkN := hat.1
      have hm' := Lib.hid hm; clear hm
      have hat' := Lib.hid hat; clear hat
      by_cases hlt : k < 0
      · have hlt2 : (k : Int) < (0 : Int) := by omega
        by_cases h0 : (hstep T).1 = 0
        · have H0 := Lib.hid h0; clear h0
          go_wp2_with (go_at_call 26; refine (ref_Step _ hb mb T hm'.out.at_ hat'.out.2.1).mono ?_; rw [H0.out]; rintro e w1 ⟨rfl, hM⟩; have HM := Lib.hid hM; clear hM)
          go_roundw
          case rel => exact ⟨k + 1, _, hat'.out.next hlt H0.out, by go_num, hm'.out.then HM.out⟩
          case measure => simp [intOf]; omega
        · have q : ((hstep T).1 != 0) = true := by simp [h0]
          have H0 := Lib.hid h0; clear h0
          go_wp2_with (go_at_call 26; refine (ref_Step _ hb mb T hm'.out.at_ hat'.out.2.1).mono ?_; rintro e w1 ⟨rfl, hM⟩; have HM := Lib.hid hM; clear hM)
          go_ret2
          exact ⟨by rw [hat'.out.stop hlt H0.out]; rfl, by rw [hat'.out.stop hlt H0.out]; exact hm'.out.then HM.out⟩
      · obtain rfl : k = 0 := by omega
        go_wp2
        go_ret2
        exact ⟨by rw [hat'.out.done]; rfl, by rw [hat'.out.done]; exact hm'.out⟩
  · by_cases hbig : f ≤ 1000000
    · have hfN : f = (N : Int) := by rw [hN]; unfold fuelN; omega
      have hpos : (0 : Int) < (N : Int) := by omega
      have hpos2 : (N : Int) ≤ 1000000 := by omega
      have hpos3 : 0 < N := by omega
      subst hfN
      have HN := Lib.hid hN; clear hN
      go_enter Try.func30, Try.ntmps30
      go_wp2
      go_loopw [7] (fun i wr => ∃ k T, At N S k T ∧ i = .int .i64 (k : Nat) ∧ MakesR w hb mb T wr) (fun i _ => N - (intOf i).toNat)
      case atStart => exact ⟨0, S, At.start hG _, rfl, HS.out, Turn.refl _ _⟩
      case round =>
        obtain ⟨k, T, hat, rfl, hm⟩ := hrel
        have hkN := hat.1
        have hm' := Lib.hid hm; clear hm
        have hat' := Lib.hid hat; clear hat
        by_cases hlt : k < N
        · have hlt2 : (k : Int) < (N : Int) := by omega
          by_cases h0 : (hstep T).1 = 0
          · have H0 := Lib.hid h0; clear h0
            go_wp2_with (go_at_call 26; refine (ref_Step _ hb mb T hm'.out.at_ hat'.out.2.1).mono ?_; rw [H0.out]; rintro e w1 ⟨rfl, hM⟩; have HM := Lib.hid hM; clear hM)
            go_roundw
            case rel => exact ⟨k + 1, _, hat'.out.next hlt H0.out, by go_num, hm'.out.then HM.out⟩
            case measure => simp [intOf]; omega
          · have q : ((hstep T).1 != 0) = true := by simp [h0]
            have H0 := Lib.hid h0; clear h0
            go_wp2_with (go_at_call 26; refine (ref_Step _ hb mb T hm'.out.at_ hat'.out.2.1).mono ?_; rintro e w1 ⟨rfl, hM⟩; have HM := Lib.hid hM; clear hM)
            go_ret2
            exact ⟨by rw [hat'.out.stop hlt H0.out]; rfl, by rw [hat'.out.stop hlt H0.out]; exact hm'.out.then HM.out⟩
        · obtain rfl : k = N := by omega
          go_wp2
          go_ret2
          exact ⟨by rw [hat'.out.done]; rfl, by rw [hat'.out.done]; exact hm'.out⟩
    · have hgt : 1000000 < f := by omega
      obtain rfl : N = 1000000 := by rw [hN]; unfold fuelN; omega
      have HN := Lib.hid hN; clear hN
      go_enter Try.func30, Try.ntmps30
      go_wp2
      go_loopw [7] (fun i wr => ∃ k T, At 1000000 S k T ∧ i = .int .i64 (k : Nat) ∧ MakesR w hb mb T wr) (fun i _ => 1000000 - (intOf i).toNat)
      case atStart => exact ⟨0, S, At.start hG _, rfl, HS.out, Turn.refl _ _⟩
      case round =>
        obtain ⟨k, T, hat, rfl, hm⟩ := hrel
        have hkN := hat.1
        have hm' := Lib.hid hm; clear hm
        have hat' := Lib.hid hat; clear hat
        by_cases hlt : k < 1000000
        · have hlt2 : (k : Int) < (1000000 : Int) := by omega
          by_cases h0 : (hstep T).1 = 0
          · have H0 := Lib.hid h0; clear h0
            go_wp2_with (go_at_call 26; refine (ref_Step _ hb mb T hm'.out.at_ hat'.out.2.1).mono ?_; rw [H0.out]; rintro e w1 ⟨rfl, hM⟩; have HM := Lib.hid hM; clear hM)
            go_roundw
            case rel => exact ⟨k + 1, _, hat'.out.next hlt H0.out, by go_num, hm'.out.then HM.out⟩
            case measure => simp [intOf]; omega
          · have q : ((hstep T).1 != 0) = true := by simp [h0]
            have H0 := Lib.hid h0; clear h0
            go_wp2_with (go_at_call 26; refine (ref_Step _ hb mb T hm'.out.at_ hat'.out.2.1).mono ?_; rintro e w1 ⟨rfl, hM⟩; have HM := Lib.hid hM; clear hM)
            go_ret2
            exact ⟨by rw [hat'.out.stop hlt H0.out]; rfl, by rw [hat'.out.stop hlt H0.out]; exact hm'.out.then HM.out⟩
        · obtain rfl : k = 1000000 := by omega
          go_wp2
          go_ret2
          exact ⟨by rw [hat'.out.done]; rfl, by rw [hat'.out.done]; exact hm'.out⟩

end Go.Proofs.Ytpclikbjpjoccaa
