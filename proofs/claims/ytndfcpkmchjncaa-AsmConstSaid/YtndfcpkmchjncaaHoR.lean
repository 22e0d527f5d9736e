/-
  The host of the document: its small functions, loads and stores, read by their walks.
-/
import Derived.Test.YtndfcpkmchjncaaHoB
import Derived.Test.YtndfcpkmchjncaaRef1Loops
namespace Go.Proofs.Ytndfcpkmchjncaa
open Go Go.RowKit
set_option linter.unusedVariables false
set_option linter.unusedSimpArgs false

theorem ref_fits (a n : Int) (ha0 : 0 ≤ a) (ha1 : a ≤ 4294967295) (hn0 : -9223372036854775808 ≤ n) (hn1 : n ≤ 9223372036854775807) (w : World) :
    Calls Try.prog 41 #[.int .u32 a, .int .i64 n] w fun e w' => e = .returned (.bool (canB a n)) ∧ w = w' := by
  by_cases h : n = 1 ∨ n = 2 ∨ n = 4
  · by_cases hm : a % n = 0
    · by_cases hl : a ≤ 32768 - n
      · have hc : canB a n = true := (canB_iff a n).2 ⟨h, hm, hl⟩
        have H := Lib.hid hc; clear hc
        rcases h with rfl | rfl | rfl
        all_goals
          go_enter Try.func41, Try.ntmps41
          go_wp2
          go_ret
          exact ⟨by rw [H.out]; simp [hm, hl]; try omega, rfl⟩
      · have hc : canB a n = false := by rw [← Bool.not_eq_true, canB_iff]; omega
        have H := Lib.hid hc; clear hc
        rcases h with rfl | rfl | rfl
        all_goals
          go_enter Try.func41, Try.ntmps41
          go_wp2
          go_ret
          exact ⟨by rw [H.out]; simp [hm, hl]; try omega, rfl⟩
    · have hc : canB a n = false := by rw [← Bool.not_eq_true, canB_iff]; omega
      have H := Lib.hid hc; clear hc
      rcases h with rfl | rfl | rfl
      · omega
      all_goals
        go_enter Try.func41, Try.ntmps41
        go_wp2
        go_ret
        exact ⟨by rw [H.out]; simp [hm], rfl⟩
  · have hc : canB a n = false := by rw [← Bool.not_eq_true, canB_iff]; omega
    have H := Lib.hid hc; clear hc
    have h1 : (n == 1) = false := by simp; omega
    have h2 : (n == 2) = false := by simp; omega
    have h4 : (n == 4) = false := by simp; omega
    go_enter Try.func41, Try.ntmps41
    go_wp2
    go_ret
    exact ⟨by rw [H.out]; rfl, rfl⟩

theorem ref_Load (w : World) (hb mb : Nat) (S : HS) (hH : RefAt w hb mb S) (hG : Good S) (a n : Int) (ha0 : 0 ≤ a) (ha1 : a ≤ 4294967295) (hn0 : -9223372036854775808 ≤ n) (hn1 : n ≤ 9223372036854775807) :
    Calls Try.prog 42 #[.pointer (some ⟨hb, 0, none⟩), .int .u32 a, .int .i64 n] w fun e w' => e = .returned (.tuple #[.int .u32 (ldV S a n), .bool (canB a n)]) ∧ w = w' := by
  cases hc : canB a n with
  | false =>
    have hv : ldV S a n = 0 := by unfold ldV; rw [hc]; rfl
    have HV := Lib.hid hv; clear hv
    have HC := Lib.hid hc; clear hc
    go_enter Try.func42, Try.ntmps42
    go_wp2_with (go_at_call 41; refine (ref_fits a n ha0 ha1 hn0 hn1 _).mono ?_; rw [HC.out]; rintro e w' ⟨rfl, rfl⟩)
    go_ret2
    exact ⟨by rw [HV.out]; rfl, rfl⟩
  | true =>
    have hv : ldV S a n = rdM S.m a.toNat n.toNat := by unfold ldV; rw [hc]; rfl
    have HV := Lib.hid hv; clear hv
    obtain ⟨h1, h2, h3⟩ := (canB_iff a n).1 hc
    have hs := hH.sl
    have HB := bts_mem (fun i hi => hH.m.cell hi) hH.m.lt hG.m a.toNat n.toNat (32768 - a.toNat) (by omega)
    have HL : Hid ((bytesAt S.m a.toNat n.toNat).length ≤ maxLen) := Lib.hid (by rw [bytesAt_length]; unfold maxLen; omega)
    have HC := Lib.hid hc; clear hc
    have E := Lib.hid (show (a + n).toNat - a.toNat = n.toNat by omega)
    rcases h1 with rfl | rfl | rfl
    all_goals
      clear h2
      go_enter Try.func42, Try.ntmps42
      go_wp2_with (first | (go_at_call 41; refine (ref_fits a _ ha0 ha1 hn0 hn1 _).mono ?_; rw [HC.out]; rintro e w' ⟨rfl, rfl⟩) | (go_at_call 68; rw [E.out]; refine (ref1_Word _ _ _ HB HL.out).mono ?_; rintro e w' ⟨rfl, rfl⟩))
      go_ret2
      exact ⟨by rw [HV.out]; rfl, rfl⟩

/-- what a call makes of a host of the document, and of nothing else -/
structure MakesR (w : World) (hb mb : Nat) (S' : HS) (w' : World) : Prop where
  at_ : RefAt w' hb mb S'
  turn : Turn (Own hb mb) w w'

theorem ref_set (w : World) (hb mb : Nat) (S : HS) (hH : RefAt w hb mb S) (i v : Int) (hi0 : 0 ≤ i) (hi1 : i < 32) :
    Calls Try.prog 45 #[.pointer (some ⟨hb, 0, none⟩), .int .i64 i, .int .u32 v] w fun e w' => e = .returned (.tuple #[]) ∧ MakesR w hb mb (putX S i v) w' := by
  by_cases h1 : i = 0
  · have H : MakesR w hb mb (putX S i v) w := ⟨by unfold putX; rw [if_neg (by omega)]; exact hH, Turn.refl _ _⟩
    subst h1
    go_enter Try.func45, Try.ntmps45
    go_wp2
    go_end0
    exact ⟨rfl, H⟩
  · have hc := hH.reg (i := i.toNat) (by omega)
    have hf := hH.h.free i.toNat
    have hq : (i != 0) = true := by simp [h1]
    have H : MakesR w hb mb (putX S i v) (w.setCell ⟨hb, i.toNat, none⟩ (.int .u32 v)) := ⟨by unfold putX; rw [if_pos (by omega)]; exact hH.put (by omega) v, (Turn.refl _ _).set (Or.inl rfl) _⟩
    go_enter Try.func45, Try.ntmps45
    go_wp2
    go_end0
    exact ⟨rfl, H⟩

end Go.Proofs.Ytndfcpkmchjncaa
