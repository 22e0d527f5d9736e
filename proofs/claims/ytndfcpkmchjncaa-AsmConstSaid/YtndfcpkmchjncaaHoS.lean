/-
  The host of the document: its stores (a loop); both hosts made new.
-/
import Derived.Test.YtndfcpkmchjncaaHoR
import Derived.Laws.MakeOwn
namespace Go.Proofs.Ytndfcpkmchjncaa
open Go Go.RowKit
set_option linter.unusedVariables false
set_option linter.unusedSimpArgs false

theorem wrM_zero (m : Nat → Int) (a : Nat) (v : Int) : wrM m a 0 v = m := by
  funext i; unfold wrM; rw [if_neg (by omega)]
theorem wrM_succ (m : Nat → Int) (a k : Nat) (v : Int) : wrM m a (k + 1) v = upd (wrM m a k v) (a + k) (v / 2 ^ (8 * k) % 256) := by
  funext i
  show wrM m a (k + 1) v i = if i = a + k then _ else wrM m a k v i
  unfold wrM
  by_cases h : i = a + k
  · rw [if_pos (by omega), if_pos h, h, show a + k - a = k by omega]
  · rw [if_neg h]
    by_cases h2 : a ≤ i ∧ i < a + k
    · rw [if_pos (by omega), if_pos h2]
    · rw [if_neg (by omega), if_neg h2]

set_option maxHeartbeats 800000 in
theorem ref_Store (w : World) (hb mb : Nat) (S : HS) (hH : RefAt w hb mb S) (a n v : Int) (ha0 : 0 ≤ a) (ha1 : a ≤ 4294967295) (hv0 : 0 ≤ v) (hv1 : v ≤ 4294967295) (hn0 : -9223372036854775808 ≤ n) (hn1 : n ≤ 9223372036854775807) :
    Calls Try.prog 14 #[.pointer (some ⟨hb, 0, none⟩), .int .u32 a, .int .i64 n, .int .u32 v] w fun e w' => e = .returned (.bool (canB a n)) ∧ MakesR w hb mb (stM S a n v) w' := by
  cases hc : canB a n with
  | false =>
    have hv : MakesR w hb mb (stM S a n v) w := ⟨by unfold stM; rw [hc]; exact hH, Turn.refl _ _⟩
    have HC := Lib.hid hc; clear hc
    go_enter Try.func14, Try.ntmps14
    go_wp2_with (go_at_call 41; refine (ref_fits a n ha0 ha1 hn0 hn1 _).mono ?_; rw [HC.out]; rintro e w' ⟨rfl, rfl⟩)
    go_ret
    exact ⟨rfl, hv⟩
  | true =>
    obtain ⟨h1, h2, h3⟩ := (canB_iff a n).1 hc
    obtain ⟨A, rfl⟩ : ∃ A : Nat, a = (A : Int) := ⟨a.toNat, by omega⟩
    obtain ⟨N, rfl, hN4⟩ : ∃ N : Nat, n = (N : Int) ∧ N ≤ 4 := ⟨n.toNat, by omega, by omega⟩
    have HC := Lib.hid hc; clear hc
    have HS : Hid (stM S A N v = S.setM (wrM S.m A N v)) := Lib.hid (by unfold stM; rw [HC.out, if_pos rfl]; rfl)
    clear h1 h2
    go_enter Try.func14, Try.ntmps14
    go_wp2_with (go_at_call 41; refine (ref_fits _ _ ha0 ha1 hn0 hn1 _).mono ?_; rw [HC.out]; rintro e w' ⟨rfl, rfl⟩)
    go_loopw [9] (fun i wr => ∃ k : Nat, k ≤ N ∧ i = .int .i64 k ∧ MakesR w hb mb (S.setM (wrM S.m A k v)) wr) (fun i _ => N - (intOf i).toNat)
    case atStart => exact ⟨0, Nat.zero_le _, rfl, by rw [wrM_zero]; exact ⟨hH, Turn.refl _ _⟩⟩
    case round =>
      obtain ⟨k, hk, rfl, hm⟩ := hrel
      by_cases hlt : k < N
      · have hs := hm.at_.sl
        have hby := hm.at_.m.cell (i := A + k) (by omega)
        have hfr := hm.at_.m.free (A + k)
        go_wp2
        go_roundw
        case rel => exact ⟨k + 1, by omega, by go_num, by rw [wrM_succ]; exact ⟨hm.at_.setByte (A + k) _, hm.turn.set (Or.inr rfl) _⟩⟩
        case measure => simp [intOf]; omega
      · obtain rfl : k = N := by omega
        go_wp2
        go_ret
        exact ⟨rfl, by rw [HS.out]; exact hm⟩

def S0 : HS := ⟨fun _ => 0, fun _ => 0, 1024, 0⟩
theorem S0_good : Good S0 := ⟨rfl, fun _ => by show (0 : Int) ≤ 0 ∧ (0 : Int) ≤ _; decide, fun _ => by show (0 : Int) ≤ 0 ∧ (0 : Int) ≤ _; decide, by show (0 : Int) ≤ 1024 ∧ (1024 : Int) ≤ _; decide, by show (0 : Int) ≤ 0 ∧ (0 : Int) ≤ _; decide⟩

theorem info_u8 : (Try.prog.info? 5).map (fun i => (i.zero, i.size, i.bytes)) = some (some (.int .u8 0), 1, 1) := by kernel_rfl
theorem made_zero (n : Nat) : madeCells (Value.cells (.int .u8 0)) n = arrOf n (memF fun _ => 0) := by
  apply Array.ext
  · simp [madeCells, arrOf_size]
  · intro i h1 h2
    simp [madeCells, arrOf, memF, Value.cells, Nat.mod_one]

theorem run_make (w : World) : (Instr.makeSlice 34 (.int .i64 32768) (.int .i64 32768)).run Try.prog w =
    .ok (.slice (some ⟨w.heap.size, 0, none⟩) 32768 32768) (w.alloc (.cells (arrOf 32768 (memF fun _ => 0)) 5)) := by
  obtain ⟨i0, hi, hz0, hz1, hz2⟩ := info_parts info_u8
  have h := Go.run_make (P := Try.prog) w 34 5 i0 (.int .u8 0) Try.underlying34 hi hz0 .i64 .i64 32768 32768 (by decide) (by decide) (by rw [hz2]; decide) (by decide)
  rw [hz1, Nat.mul_one, made_zero] at h
  exact h

theorem host_row (mb : Nat) : #[.int .u32 0, .int .u32 0, .int .u32 0, .int .u32 0, .int .u32 0, .int .u32 0, .int .u32 0, .int .u32 0, .int .u32 0, .int .u32 0, .int .u32 0, .int .u32 0, .int .u32 0, .int .u32 0, .int .u32 0, .int .u32 0, .int .u32 0, .int .u32 0, .int .u32 0, .int .u32 0, .int .u32 0, .int .u32 0, .int .u32 0, .int .u32 0, .int .u32 0, .int .u32 0, .int .u32 0, .int .u32 0, .int .u32 0, .int .u32 0, .int .u32 0, .int .u32 0, .slice (some ⟨mb, 0, none⟩) 32768 32768, .int .u32 1024, .int .u32 0] = arrOf 35 (hostF S0 mb 32768) := by kernel_rfl
theorem ref_row (mb : Nat) : #[.int .u32 0, .int .u32 0, .int .u32 0, .int .u32 0, .int .u32 0, .int .u32 0, .int .u32 0, .int .u32 0, .int .u32 0, .int .u32 0, .int .u32 0, .int .u32 0, .int .u32 0, .int .u32 0, .int .u32 0, .int .u32 0, .int .u32 0, .int .u32 0, .int .u32 0, .int .u32 0, .int .u32 0, .int .u32 0, .int .u32 0, .int .u32 0, .int .u32 0, .int .u32 0, .int .u32 0, .int .u32 0, .int .u32 0, .int .u32 0, .int .u32 0, .int .u32 0, .int .u32 1024, .slice (some ⟨mb, 0, none⟩) 32768 32768, .int .u32 0] = arrOf 35 (refF S0 mb) := by kernel_rfl

theorem host_New (w : World) : Calls Try.prog 23 #[] w fun e w' => (e = .returned (.pointer (some ⟨w.heap.size + 1, 0, none⟩)) ∧ HostAt w' (w.heap.size + 1) w.heap.size S0) ∧ Below w.heap.size w w' := by
  have hmk := run_make
  have HR := Lib.hid (host_row w.heap.size)
  go_enter Try.func23, Try.ntmps23
  go_wp2
  go_ret
  refine ⟨⟨rfl, ?_⟩, ((Below.refl _ _).alloc (Nat.le_refl _) _).alloc (by simp) _⟩
  rw [HR.out]
  have e1 := (Blk.new w 32768 5 (memF S0.m)).alloc (.cells (arrOf 35 (hostF S0 w.heap.size 32768)) 99)
  have e2 := Blk.new (w.alloc (.cells (arrOf 32768 (memF S0.m)) 5)) 35 99 (hostF S0 w.heap.size 32768)
  rw [World.size_alloc] at e2
  exact HostAt.mk' (by omega) (Nat.le_refl _) e2 (e1.ext (g := memT S0.m (fun _ => undef)) fun i hi => by unfold memT memF; rw [if_pos hi])

theorem ref_New (w : World) : Calls Try.prog 13 #[] w fun e w' => (e = .returned (.pointer (some ⟨w.heap.size + 1, 0, none⟩)) ∧ RefAt w' (w.heap.size + 1) w.heap.size S0) ∧ Below w.heap.size w w' := by
  have hmk := run_make
  have HR := Lib.hid (ref_row w.heap.size)
  go_enter Try.func13, Try.ntmps13
  go_wp2
  go_ret
  refine ⟨⟨rfl, ?_⟩, ((Below.refl _ _).alloc (Nat.le_refl _) _).alloc (by simp) _⟩
  rw [HR.out]
  have e1 := (Blk.new w 32768 5 (memF S0.m)).alloc (.cells (arrOf 35 (refF S0 w.heap.size)) 46)
  have e2 := Blk.new (w.alloc (.cells (arrOf 32768 (memF S0.m)) 5)) 35 46 (refF S0 w.heap.size)
  rw [World.size_alloc] at e2
  exact ⟨by omega, e2, e1⟩

end Go.Proofs.Ytndfcpkmchjncaa
