/-
  HostMemory: the walk.
-/
import Derived.Test.YtpclikbjpjoccaaHlB
import Derived.BigQuiet
namespace Go.Proofs.Ytpclikbjpjoccaa
open Go Go.RowKit Go.Sx
set_option linter.unusedVariables false
set_option linter.unusedSimpArgs false

theorem Two.drewN {w : World} {hb mb rb nb : Nat} {S T : HS} (k : Two w hb mb rb nb S T) (n : Nat) : Two (w.drewN n) hb mb rb nb S T := ⟨k.h.drewN n, k.r.drewN n, k.a1, k.a2, k.a3, k.a4⟩
/-- a row of the list: where it lies, what it holds -/
def Row3 (w : World) (a : Option Addr) (k : Nat) : Prop :=
  ∃ b o x0 x1 x2, a = some ⟨b, o, none⟩ ∧ b < w.heap.size ∧ w.cell? ⟨b, o + k * 3, none⟩ = some (.int .u32 x0) ∧ w.cell? ⟨b, o + k * 3 + 1, none⟩ = some (.int .u32 x1) ∧ w.cell? ⟨b, o + k * 3 + 2, none⟩ = some (.int .u32 x2) ∧ (0 ≤ x0 ∧ x0 ≤ 4294967295) ∧ (0 ≤ x1 ∧ x1 ≤ 4294967295) ∧ (0 ≤ x2 ∧ x2 ≤ 4294967295)

set_option maxHeartbeats 4000000 in
set_option maxRecDepth 100000 in
theorem mem_main (w : World) (a : Option Addr) (n cap : Nat) (hl : n ≤ 40) (hx : ∀ i, i < n → Row3 w a i) :
    Calls Try.prog 3 #[.slice a n cap] w fun e w' => e = .returned (.bool true) ∧ Below w.heap.size w w' := by
  have l40 : (n : Int) ≤ 40 := by omega
  have n40 : ¬ ((n : Int) > 40) := by omega
  have HX := Lib.hid hx; have HL := Lib.hid hl
  clear hx hl
  go_enter Try.func3, Try.ntmps3
  go_wp2_with (first
    | (go_at_call 12; (with_reducible refine (ref_New _).mono ?_); obtain ⟨nb, hnb⟩ : ∃ nb, nb = v1.heap.size := ⟨_, rfl⟩; rw [← hnb]; rintro e v2 ⟨⟨rfl, r2⟩, hB⟩; have h2 := h1.below (hnb ▸ hB); have B2 := Lib.hid hB; have HNB := Lib.hid hnb; clear hB hnb)
    | (go_at_call 11; (with_reducible refine (host_New _).mono ?_); obtain ⟨mb, hmb⟩ : ∃ mb, mb = v0.heap.size := ⟨_, rfl⟩; rw [← hmb]; rintro e v1 ⟨⟨rfl, h1⟩, hB⟩; have B1 := Lib.hid hB; have HMB := Lib.hid hmb; clear hB hmb)
    | (go_at_call 10; (with_reducible refine (law_known _).mono ?_); rintro e v0 ⟨rfl, hB⟩; have B0 := Lib.hid hB; clear hB))
  have hz1 : mb + 1 < v1.heap.size := h1.h.lt
  have hz2 := B2.out.size
  have two : Two v2 (mb + 1) mb (nb + 1) nb S0 S0 := ⟨h2, r2, by have := HNB.out; omega, by have := HNB.out; omega, by have := HNB.out; omega, by have := HNB.out; omega⟩
  have hb2 : Below v0.heap.size v0 v2 := (HMB.out ▸ B1.out).trans (Below.mono (HNB.out ▸ B2.out) (by have := HMB.out; omega))
  have TWO := Lib.hid two; have HB2 := Lib.hid hb2
  have HV1 : Hid (v0.heap.size ≤ v1.heap.size) := Lib.hid (by have := HMB.out; omega)
  clear two hb2 h1 h2 r2 hz1 hz2
  go_loopw [5] (fun i wr => ∃ (k : Nat) (S : HS), k ≤ n ∧ i = .int .i64 (k : Nat) ∧ Good S ∧ Two wr (mb + 1) mb (nb + 1) nb S S ∧ Below v0.heap.size v0 wr) (fun i _ => n - (intOf i).toNat)
  case atStart => exact ⟨0, S0, by omega, rfl, S0_good, TWO.out, HB2.out⟩
  case round =>
    obtain ⟨k, S, hk, rfl, hG, hT, hB⟩ := hrel
    have HT := Lib.hid hT; have HB := Lib.hid hB; have HG := Lib.hid hG; clear hT hB hG
    by_cases hlt : k < n
    · obtain ⟨b, o, x0, x1, x2, rfl, hbl, c0, c1, c2, e0, e1, e2⟩ := HX.out k hlt
      have hbw : Below w.heap.size w wr := B0.out.trans (HB.out.mono B0.out.size)
      have d0 : wr.cell? ⟨b, o + k * 3, none⟩ = some (.int .u32 x0) := (hbw.cell (p := ⟨b, o + k * 3, none⟩) hbl).trans c0
      have d1 : wr.cell? ⟨b, o + k * 3 + 1, none⟩ = some (.int .u32 x1) := (hbw.cell (p := ⟨b, o + k * 3 + 1, none⟩) hbl).trans c1
      have d2 : wr.cell? ⟨b, o + k * 3 + 2, none⟩ = some (.int .u32 x2) := (hbw.cell (p := ⟨b, o + k * 3 + 2, none⟩) hbl).trans c2
      have D2 := Lib.hid d2
      have hlt2 : (k : Int) < (n : Int) := by omega
      have hk0 : (0 : Int) ≤ (k : Int) := by omega
      obtain ⟨q, hq⟩ : ∃ q, x1.tmod 6 = q := ⟨_, rfl⟩
      have hq0 : 0 ≤ q ∧ q < 6 := by rw [← hq, Int.tmod_eq_emod_of_nonneg e1.1]; omega
      have hqw : IntKind.i64.wrap q = q := by rw [IntKind.wrap_i64]; omega
      have E0 := Lib.hid e0; have E2 := Lib.hid e2; have HQ := Lib.hid hq0
      have HX2 : Hid (b < w.heap.size ∧ w.heap.size ≤ v0.heap.size) := Lib.hid ⟨hbl, B0.out.size⟩
      have NO : Hid (¬ Own (mb + 1) mb b ∧ b < wr.heap.size) := Lib.hid ⟨fun e => by have := HMB.out; have := B0.out.size; rcases e with rfl | rfl <;> omega, by have := hbw.size; omega⟩
      have HKN := Lib.hid hk
      clear c0 c1 c2 e0 e1 e2 hbl hbw hq0 hk
      go_wp2_with fail
      go_quiet (fail)
      rename_i nq _
      obtain ⟨V, hV⟩ : ∃ V, V = wr.drewN nq := ⟨_, rfl⟩
      rw [← hV]
      have TV : Hid (Two V (mb + 1) mb (nb + 1) nb S S) := Lib.hid (hV ▸ HT.out.drewN nq)
      have e2 : V.cell? ⟨b, o + k * 3 + 2, none⟩ = some (.int .u32 x2) := by rw [hV]; exact D2.out
      have BV : Hid (Below v0.heap.size v0 V) := Lib.hid (by rw [hV]; exact HB.out.trans ⟨rfl, rfl, rfl, Nat.le_refl _, fun _ _ => rfl⟩)
      have NV : Hid (¬ Own (mb + 1) mb b ∧ ¬ Own (nb + 1) nb b ∧ b < V.heap.size) := Lib.hid ⟨NO.out.1, fun e => by have := HNB.out; have := HV1.out; have := HX2.out; rcases e with e | e <;> omega, by rw [hV]; exact NO.out.2⟩
      clear hV d0 d1 d2
      obtain ⟨cb, hcb⟩ : ∃ c, canB x0 q = c := ⟨_, rfl⟩
      obtain ⟨S1, hS1⟩ : ∃ c, stM S x0 q x2 = c := ⟨_, rfl⟩
      have HCB := Lib.hid hcb; have HS1 := Lib.hid hS1
      have G1 : Hid (Good S1) := Lib.hid (by rw [← hS1]; exact stM_good HG.out _ _ _)
      clear hcb hS1
      go_wp2_with fail
      have K := Lib.hid e2
      have hh := TV.out.h.drew
      go_region_held3 (fun w' => w'.cell? ⟨b, o + k * 3 + 2, none⟩ = some (.int .u32 x2)) (first | exact K.out | exact K1 | exact K2) (first | (go_at_call 14; refine (ref_Store _ _ nb S r1 x0 q x2 E0.out.1 E0.out.2 E2.out.1 E2.out.2 (by have := HQ.out; omega) (by have := HQ.out; omega)).mono ?_; rw [HCB.out, HS1.out]; rintro e w2 ⟨rfl, hM⟩; have K2 := (hM.turn.cell (i := o + k * 3 + 2) z1 NV.out.2.1).trans K1; have T2 := Lib.hid (T1.out.rm hM); have M2 := Lib.hid hM; clear hM) | (go_at_call 13; refine (sto_is _ _ mb S hh (a := x0) (n := q) (v := x2) (b := cb) (S' := S1) E0.out E2.out HCB.out HS1.out).mono ?_; rintro e w1 ⟨rfl, hM⟩; have K1 := (hM.turn.cell (i := o + k * 3 + 2) NV.out.2.2 NV.out.1).trans K.out; have z1 : b < w1.heap.size := Nat.lt_of_lt_of_le NV.out.2.2 hM.turn.size; have t1 := TV.out.drew.hm hM; have r1 := t1.r; have M1 := Lib.hid hM; have T1 := Lib.hid t1; clear hM t1))
      go_wp2_with fail
      have B2 : Hid (Below v0.heap.size v0 w2) := Lib.hid (by
        have q0 := BV.out.size
        have q1 := HMB.out; have q2 := HNB.out; have q3 := HV1.out
        have h1 : Below v0.heap.size v0 V.drew := BV.out.drew
        exact h1.trans ((own_above M1.out.turn q0 (by omega) (by omega)).trans (own_above M2.out.turn (Nat.le_trans q0 M1.out.turn.size) (by omega) (by omega))))
      go_loopw [8] (fun i ws => ∃ j : Nat, j ≤ 6 ∧ i = .int .i64 (j : Nat) ∧ Two ws (mb + 1) mb (nb + 1) nb S1 S1 ∧ Below v0.heap.size v0 ws) (fun i _ => 6 - (intOf i).toNat)
      case atStart => exact ⟨0, by omega, rfl, T2.out, B2.out⟩
      case round =>
        obtain ⟨j, hj, rfl, hT, hB⟩ := hrel
        have hh := hT.h
        have HT' := Lib.hid hT; have HB' := Lib.hid hB; clear hT hB
        by_cases hj6 : j < 6
        · have l1 : (j : Int) < 6 := by omega
          have l0 : (0 : Int) ≤ (j : Int) := by omega
          obtain ⟨L, hL⟩ : ∃ c, ldV S1 x0 (j : Int) = c := ⟨_, rfl⟩
          obtain ⟨c, hc⟩ : ∃ c, canB x0 (j : Int) = c := ⟨_, rfl⟩
          have HL' := Lib.hid hL; have HC' := Lib.hid hc
          clear hL hc
          go_wp2_with (first
            | (go_at_call 16; refine (ref_Load _ _ nb S1 r3 G1.out x0 (j : Int) E0.out.1 E0.out.2 (by omega) (by omega)).mono ?_; rw [HL'.out, HC'.out]; rintro e wq ⟨rfl, rfl⟩)
            | (go_at_call 15; refine (ld_is _ _ mb S1 hh G1.out (a := x0) (n := (j : Int)) (v := L) (b := c) E0.out HL'.out HC'.out).mono ?_; rintro e w3 ⟨rfl, hB⟩; have t3 := HT'.out.below hB; have r3 := t3.r; have B3 := Lib.hid hB; have T3 := Lib.hid t3; clear hB t3))
          go_roundw
          case rel => exact ⟨j + 1, by omega, by go_num, T3.out, HB'.out.trans (B3.out.mono HB'.out.size)⟩
          case measure => simp [intOf]; omega
        · obtain rfl : j = 6 := by omega
          go_wp2_with fail
          have kn := HKN.out
          go_roundw
          case rel => exact ⟨k + 1, S1, by omega, by go_num, G1.out, HT'.out, HB'.out⟩
          case measure => simp [intOf]; omega
    · obtain rfl : k = n := by omega
      go_wp2_with (go_at_call 17; refine (law_memory _ _ mb _ nb S S HT.out.h HT.out.r HG.out HG.out rfl).mono ?_; rintro e w9 ⟨rfl, hB⟩; have B9 := Lib.hid hB; clear hB)
      go_ret
      exact ⟨rfl, B0.out.trans ((HB.out.mono B0.out.size).trans (B9.out.mono (Nat.le_trans B0.out.size HB.out.size)))⟩

set_option maxHeartbeats 2000000 in
theorem mem_long (w : World) (a : Option Addr) (n cap : Nat) (hl : 40 < n) :
    Calls Try.prog 3 #[.slice a n cap] w fun e w' => e = .returned (.bool true) ∧ Below w.heap.size w w' := by
  have l40 : (40 : Int) < (n : Int) := by omega
  clear hl
  go_enter Try.func3, Try.ntmps3
  go_wp2_with (go_at_call 10; (with_reducible refine (law_known _).mono ?_); rintro e v0 ⟨rfl, hB⟩; have B0 := Lib.hid hB; clear hB)
  go_ret
  exact ⟨rfl, B0.out⟩

theorem HostMemory_walk (w : World) (v : Value) (w0 : ∃ a n cap, v = .slice a n cap ∧ ∀ i, i < n → Row3 w a i) :
    Calls Try.prog 3 #[v] w fun e w' => e = .returned (.bool true) ∧ Below w.heap.size w w' := by
  obtain ⟨a, n, cap, rfl, hx⟩ := w0
  by_cases hl : 40 < n
  · exact mem_long w a n cap hl
  · exact mem_main w a n cap (by omega) hx

end Go.Proofs.Ytpclikbjpjoccaa
