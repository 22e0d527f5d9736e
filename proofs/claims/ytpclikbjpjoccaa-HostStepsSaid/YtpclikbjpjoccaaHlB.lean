/-
  Both hosts, with the same words and registers.
-/
import Derived.Test.YtpclikbjpjoccaaR5
import Derived.Laws.Rows
namespace Go.Proofs.Ytpclikbjpjoccaa
open Go Go.RowKit Go.Sx
set_option linter.unusedVariables false
set_option linter.unusedSimpArgs false

/-- a slice of words that can be read -/
def Wds (w : World) (v : Value) (ws : List Int) : Prop :=
  ∃ a cap, v = .slice a ws.length cap ∧ (∀ i, i < ws.length → ∃ b o, a = some ⟨b, o, none⟩ ∧ b < w.heap.size ∧ w.cell? ⟨b, o + i, none⟩ = some (.int .u32 (ws.getD i 0))) ∧ ∀ x ∈ ws, 0 ≤ x ∧ x ≤ 4294967295
theorem Wds.below {w w' : World} {v : Value} {ws : List Int} (h : Wds w v ws) (hb : Below w.heap.size w w') : Wds w' v ws := by
  obtain ⟨a, cap, e, hc, hx⟩ := h
  refine ⟨a, cap, e, fun i hi => ?_, hx⟩
  obtain ⟨b, o, ea, hl, hcell⟩ := hc i hi
  exact ⟨b, o, ea, Nat.lt_of_lt_of_le hl hb.size, (hb.cell (p := ⟨b, o + i, none⟩) hl).trans hcell⟩
theorem getD_bd {ws : List Int} (h : ∀ x ∈ ws, 0 ≤ x ∧ x ≤ 4294967295) (i : Nat) : 0 ≤ ws.getD i 0 ∧ ws.getD i 0 ≤ 4294967295 := by
  by_cases hi : i < ws.length
  · rw [List.getD_eq_getElem?_getD, List.getElem?_eq_getElem hi]; exact h _ (List.getElem_mem hi)
  · rw [List.getD_eq_getElem?_getD, List.getElem?_eq_none (by omega)]; decide

def wordsS (S : HS) (ws : List Int) : Nat → HS
  | 0 => S
  | k + 1 => stM (wordsS S ws k) (1024 + 4 * (k : Int)) 4 (ws.getD k 0)
def regsS (S : HS) (rs : List Int) : Nat → HS
  | 0 => S
  | k + 1 => putX (regsS S rs k) ((k : Int) + 1) (rs.getD k 0)
def bothS (ws rs : List Int) (pc : Int) : HS := (regsS (wordsS S0 ws ws.length) rs 31).setPC pc
theorem wordsS_good {S : HS} (h : Good S) (ws : List Int) : ∀ k, Good (wordsS S ws k)
  | 0 => h
  | k + 1 => stM_good (wordsS_good h ws k) _ _ _
theorem regsS_good {S : HS} (h : Good S) {rs : List Int} (hr : ∀ x ∈ rs, 0 ≤ x ∧ x ≤ 4294967295) : ∀ k, Good (regsS S rs k)
  | 0 => h
  | k + 1 => (regsS_good h hr k).putX _ (getD_bd hr k)
theorem bothS_good {ws rs : List Int} (hr : ∀ x ∈ rs, 0 ≤ x ∧ x ≤ 4294967295) {pc : Int} (hp : 0 ≤ pc ∧ pc ≤ 4294967295) : Good (bothS ws rs pc) := (regsS_good (wordsS_good S0_good ws _) hr _).setPC hp

/-- a host of the program and one of the document, side by side -/
structure Two (w : World) (hb mb rb nb : Nat) (S T : HS) : Prop where
  h : HostAt w hb mb S
  r : RefAt w rb nb T
  a1 : hb ≠ rb
  a2 : hb ≠ nb
  a3 : mb ≠ rb
  a4 : mb ≠ nb
section
variable {w w' : World} {hb mb rb nb : Nat} {S S' T T' : HS}
theorem Two.hm (k : Two w hb mb rb nb S T) (m : Makes w hb mb S' w') : Two w' hb mb rb nb S' T :=
  ⟨m.at_, k.r.keep m.turn (fun e => e.elim (fun e => k.a1 e.symm) (fun e => k.a3 e.symm)) (fun e => e.elim (fun e => k.a2 e.symm) (fun e => k.a4 e.symm)), k.a1, k.a2, k.a3, k.a4⟩
theorem Two.rm (k : Two w hb mb rb nb S T) (m : MakesR w rb nb T' w') : Two w' hb mb rb nb S T' :=
  ⟨k.h.keep m.turn (fun e => e.elim k.a1 k.a2) (fun e => e.elim k.a3 k.a4), m.at_, k.a1, k.a2, k.a3, k.a4⟩
theorem Two.below (k : Two w hb mb rb nb S T) (b : Below w.heap.size w w') : Two w' hb mb rb nb S T := ⟨k.h.below b, k.r.below b, k.a1, k.a2, k.a3, k.a4⟩
theorem Two.drew (k : Two w hb mb rb nb S T) : Two w.drew hb mb rb nb S T := ⟨k.h.drew, k.r.drew, k.a1, k.a2, k.a3, k.a4⟩
end

/-- what both gives: two hosts of the call's own, alike -/
def BothPost (w : World) (S : HS) (e : Ending) (w' : World) : Prop :=
  ∃ hb mb rb nb, e = .returned (.tuple #[.pointer (some ⟨hb, 0, none⟩), .pointer (some ⟨rb, 0, none⟩)]) ∧ Two w' hb mb rb nb S S ∧ Below w.heap.size w w' ∧ (w.heap.size ≤ hb ∧ w.heap.size ≤ mb ∧ w.heap.size ≤ rb ∧ w.heap.size ≤ nb)
/-- below all hosts of the call's own -/
def Four (B hb mb rb nb : Nat) : Prop := B ≤ hb ∧ B ≤ mb ∧ B ≤ rb ∧ B ≤ nb
theorem below_mk {w w1 w2 : World} {B hb mb rb nb : Nat} (h : Below B w w1) (f : Four B hb mb rb nb) (hB : B ≤ w1.heap.size) (k : Turn (Own hb mb) w1 w2) : Below B w w2 :=
  h.trans (k.below hB (fun i _ hi => by obtain ⟨f1, f2, _⟩ := f; rcases hi with rfl | rfl <;> assumption))
theorem below_mr {w w1 w2 : World} {B hb mb rb nb : Nat} (h : Below B w w1) (f : Four B hb mb rb nb) (hB : B ≤ w1.heap.size) (k : Turn (Own rb nb) w1 w2) : Below B w w2 :=
  h.trans (k.below hB (fun i _ hi => by obtain ⟨_, _, f1, f2⟩ := f; rcases hi with rfl | rfl <;> assumption))

theorem cell_of_row {w : World} {b j : Nat} {A : Array Value} {t : TypeId} {v : Value} (h : w.heap[b]? = some (.cells A t (0, 0))) (hv : A[j]? = some v) : w.cell? ⟨b, j, none⟩ = some v := by
  simp [World.cell?, h, hv]
theorem own_above {B : Nat} {w w1 : World} {hb mb : Nat} (k : Turn (Own hb mb) w w1) (hB : B ≤ w.heap.size) (h1 : B ≤ hb) (h2 : B ≤ mb) : Below B w w1 :=
  k.below hB (fun i _ hi => by rcases hi with rfl | rfl <;> assumption)

set_option maxHeartbeats 4000000 in
set_option maxRecDepth 100000 in
theorem law_both (w : World) (v : Value) (ws rs : List Int) (A : Array Value) (hv : Wds w v ws) (hl : ws.length ≤ 40) (hA : A.size = 31 ∧ ∀ j, j < 31 → A[j]? = some (.int .u32 (rs.getD j 0))) (hr : ∀ x ∈ rs, 0 ≤ x ∧ x ≤ 4294967295) (pc : Int) (hp : 0 ≤ pc ∧ pc ≤ 4294967295) :
    Calls Try.prog 25 #[v, .agg A, .int .u32 pc] w (BothPost w (bothS ws rs pc)) := by
  obtain ⟨a, cap, rfl, hc, hx⟩ := hv
  have HC := Lib.hid hc; have HX := Lib.hid hx; have HA := Lib.hid hA; have HR := Lib.hid hr
  clear hc hx hA hr
  obtain ⟨wA, hwA⟩ : ∃ wA, wA = w.alloc (.cells A 48) := ⟨_, rfl⟩
  have hA0 : wA.heap[w.heap.size]? = some (.cells A 48 (0, 0)) := by rw [hwA]; exact heap_alloc_new _ _
  have hzA : wA.heap.size = w.heap.size + 1 := by rw [hwA, World.size_alloc]
  have hbA : Below w.heap.size w wA := by rw [hwA]; exact (Below.refl _ _).alloc (Nat.le_refl _) _
  have HW := Lib.hid hwA; have HA0 := Lib.hid hA0; have HZ := Lib.hid hzA; have HBA := Lib.hid hbA
  clear hwA hA0 hzA hbA
  go_enter Try.func25, Try.ntmps25
  go_wp2_with (first
    | (go_at_call 12; (with_reducible refine (ref_New _).mono ?_); obtain ⟨nb, hnb⟩ : ∃ nb, nb = v1.heap.size := ⟨_, rfl⟩; rw [← hnb]; rintro e v2 ⟨⟨rfl, r2⟩, hB⟩; have h2 := h1.below (hnb ▸ hB); have B2 := Lib.hid hB; have HNB := Lib.hid hnb; clear hB hnb)
    | (go_at_call 11; rw [← HW.out]; (with_reducible refine (host_New _).mono ?_); obtain ⟨mb, hmb⟩ : ∃ mb, mb = wA.heap.size := ⟨_, rfl⟩; rw [← hmb]; rintro e v1 ⟨⟨rfl, h1⟩, hB⟩; have B1 := Lib.hid hB; have HMB := Lib.hid hmb; clear hB hmb))
  have hz1 : mb + 1 < v1.heap.size := h1.h.lt
  have hz2 := B2.out.size
  have two : Two v2 (mb + 1) mb (nb + 1) nb S0 S0 := ⟨h2, r2, by have := HNB.out; omega, by have := HNB.out; omega, by have := HNB.out; omega, by have := HNB.out; omega⟩
  have hb2 : Below wA.heap.size wA v2 := (HMB.out ▸ B1.out).trans (Below.mono (HNB.out ▸ B2.out) (by have := HMB.out; omega))
  have TWO := Lib.hid two; have HB2 := Lib.hid hb2
  have HV1 : Hid (wA.heap.size ≤ v1.heap.size) := Lib.hid (by have := HMB.out; omega)
  clear two hb2 h1 h2 r2 hz1 hz2
  go_loopw [10] (fun i wr => ∃ k : Nat, k ≤ ws.length ∧ i = .int .i64 (k : Nat) ∧ Two wr (mb + 1) mb (nb + 1) nb (wordsS S0 ws k) (wordsS S0 ws k) ∧ Below wA.heap.size wA wr) (fun i _ => ws.length - (intOf i).toNat)
  case atStart => exact ⟨0, by omega, rfl, TWO.out, HB2.out⟩
  case round =>
    obtain ⟨k, hk, rfl, hT, hB⟩ := hrel
    have hH := hT.h
    have HT := Lib.hid hT; have HB := Lib.hid hB; clear hT hB
    by_cases hlt : k < ws.length
    · obtain ⟨b, o, rfl, hbl, hcell⟩ := HC.out k hlt
      have hcell : wr.cell? ⟨b, o + k, none⟩ = some (.int .u32 (ws.getD k 0)) := ((HBA.out.trans (HB.out.mono HBA.out.size)).cell (p := ⟨b, o + k, none⟩) hbl).trans hcell
      have hbd := getD_bd HX.out k
      obtain ⟨x, hx⟩ : ∃ x, x = ws.getD k 0 := ⟨_, rfl⟩
      rw [← hx] at hcell hbd
      have hlt2 : (k : Int) < (ws.length : Int) := by omega
      have hk40 : (k : Int) < 40 := by omega
      have hk0 : (0 : Int) ≤ (k : Int) := by omega
      have HXE := Lib.hid hx; have HBD := Lib.hid hbd; have HAD : Hid (0 ≤ 1024 + 4 * (k : Int) ∧ 1024 + 4 * (k : Int) ≤ 4294967295) := Lib.hid (by omega)
      have HCELL := Lib.hid hcell
      have HBL := Lib.hid hbl
      have hsz := HB.out.size
      have NO : Hid (¬ Own (mb + 1) mb b ∧ b < wr.heap.size) := Lib.hid ⟨fun e => by have := HMB.out; have := HZ.out; rcases e with rfl | rfl <;> omega, by have := HZ.out; omega⟩
      clear hx hbd hbl hsz
      go_wp2_with (first
        | (go_at_call 14; (with_reducible refine (ref_Store _ _ nb _ r3 _ 4 x HAD.out.1 HAD.out.2 HBD.out.1 HBD.out.2 (by decide) (by decide)).mono ?_); rintro e v4 ⟨rfl, hM⟩; have M4 := Lib.hid hM; clear hM)
        | (go_at_call 13; (with_reducible refine (host_Store _ _ mb _ hH _ 4 x HAD.out.1 HAD.out.2 HBD.out.1 HBD.out.2).mono ?_); rintro e v3 ⟨rfl, hM⟩; have t3 := HT.out.hm hM; have r3 := t3.r; have hcell3 : v3.cell? ⟨b, o + k, none⟩ = some (.int .u32 x) := (hM.turn.cell NO.out.2 NO.out.1).trans HCELL.out; have T3 := Lib.hid t3; have M3 := Lib.hid hM; clear hM t3))
      have q := HXE.out
      go_roundw
      case rel => exact ⟨k + 1, by omega, by go_num, by have t := T3.out.rm M4.out; rw [HXE.out] at t; exact t, HB.out.trans ((own_above M3.out.turn HB.out.size (by have := HMB.out; omega) (by have := HMB.out; omega)).trans (own_above M4.out.turn (Nat.le_trans HB.out.size M3.out.turn.size) (by have := HNB.out; have := HV1.out; omega) (by have := HNB.out; have := HV1.out; omega)))⟩
      case measure => simp [intOf]; omega
    · obtain rfl : k = ws.length := by omega
      have H1 := Lib.hid hH; clear hH
      go_wp2_with fail
      go_loopw [11] (fun i wr => ∃ (k : Nat) (j : Int), k ≤ 31 ∧ j = (k : Int) + 1 ∧ i = .int .i64 j ∧ Two wr (mb + 1) mb (nb + 1) nb (regsS (wordsS S0 ws ws.length) rs k) (regsS (wordsS S0 ws ws.length) rs k) ∧ Below wA.heap.size wA wr) (fun i _ => 32 - (intOf i).toNat)
      case atStart => exact ⟨0, 1, by omega, rfl, rfl, HT.out, HB.out⟩
      case round =>
        obtain ⟨k, j, hk, hj, rfl, hT, hB⟩ := hrel
        have hH := hT.h
        have HT := Lib.hid hT; have HB := Lib.hid hB; clear hT hB
        have HJ := Lib.hid hj
        by_cases hlt : k < 31
        · have hlt2 : j < 32 := by omega
          have hj1 : 1 ≤ j := by omega
          obtain ⟨x, hx⟩ : ∃ x, x = rs.getD k 0 := ⟨_, rfl⟩
          have hbd := getD_bd HR.out k
          have hcell : wr.cell? ⟨w.heap.size, k, none⟩ = some (.int .u32 x) := by rw [hx]; exact cell_of_row ((HB.out.block _ (by have := HZ.out; omega)).trans HA0.out) (HA.out.2 k hlt)
          have hI : Hid (I64 j) := Lib.hid ⟨by omega, by omega⟩
          have hki : j - 1 = (k : Int) := by omega
          have HX2 := Lib.hid hx; have HBD := Lib.hid hbd
          have HP1 : Hid (putX (regsS (wordsS S0 ws ws.length) rs k) j x = regsS (wordsS S0 ws ws.length) rs (k + 1)) := Lib.hid (by rw [hx, hj]; rfl)
          have NO : Hid (¬ Own (mb + 1) mb w.heap.size ∧ w.heap.size < wr.heap.size) := Lib.hid ⟨fun e => by have := HMB.out; have := HZ.out; rcases e with e | e <;> omega, by have := HZ.out; have := HB.out.size; omega⟩
          have HCELL := Lib.hid hcell
          have hj0 : 0 ≤ j := by omega
          have hj2 : j - 1 < 31 := by omega
          have hj3 : 0 ≤ j - 1 := by omega
          have hjN : (j - 1).toNat = k := by omega
          have hjM : Hid (j.toNat = k + 1) := Lib.hid (by omega)
          clear hx hbd hk hj
          go_wp2_with (first
            | (go_at_call 19; (with_reducible refine (sx_is _ _ mb _ hH hI.out HP1.out).mono ?_); rintro e v3 ⟨rfl, hM⟩; have t3 := HT.out.hm hM; have r3 := t3.r; have hcell3 : v3.cell? ⟨w.heap.size, k, none⟩ = some (.int .u32 x) := (hM.turn.cell NO.out.2 NO.out.1).trans HCELL.out; have T3 := Lib.hid t3; have M3 := Lib.hid hM; clear hM t3))
          have hjm := hjM.out
          have hwk : IntKind.i64.wrap (k : Int) = (k : Int) := by rw [IntKind.wrap_i64]; omega
          have hk31 : (k : Int) < 31 := by omega
          have hk30 : (0 : Int) ≤ (k : Int) := by omega
          have hc3 := T3.out.r.reg (i := k + 1) (by omega)
          have hf3 := T3.out.r.h.free (k + 1)
          go_still_tail 9, (by kernel_rfl)
          change wpList _ _ _ _ _ v3.drew
          obtain ⟨V, hV⟩ : ∃ V, V = v3.drew := ⟨_, rfl⟩
          rw [← hV]
          have rV : RefAt V (nb + 1) nb (regsS (wordsS S0 ws ws.length) rs k) := hV ▸ T3.out.r.drew
          have tV : Turn (Own (nb + 1) nb) v3 V := hV ▸ (Turn.refl _ v3).drew
          have cV := rV.reg (i := k + 1) (by omega)
          have fV := rV.h.free (k + 1)
          have RV := Lib.hid rV; have TV := Lib.hid tV; have HV := Lib.hid hV
          clear hc3 hf3 hcell3 hV rV tV r3
          go_wp2
          have q := HJ.out
          have HMR : MakesR v3 (nb + 1) nb (regsS (wordsS S0 ws ws.length) rs (k + 1)) (V.setCell ⟨nb + 1, k + 1, none⟩ (.int .u32 x)) := by
            refine ⟨?_, TV.out.set (Or.inl rfl) _⟩
            have t := RV.out.put (i := k + 1) (by omega) x
            rw [← HP1.out]
            unfold putX
            rw [if_pos (by omega), show j.toNat = k + 1 by omega]
            exact t
          go_roundw
          case rel => exact ⟨k + 1, j + 1, by omega, by omega, by go_num, T3.out.rm HMR, HB.out.trans ((own_above M3.out.turn HB.out.size (by have := HMB.out; omega) (by have := HMB.out; omega)).trans (own_above HMR.turn (Nat.le_trans HB.out.size M3.out.turn.size) (by have := HNB.out; have := HV1.out; omega) (by have := HNB.out; have := HV1.out; omega)))⟩
          case measure => simp [intOf]; omega
        · obtain rfl : k = 31 := by omega
          obtain rfl : j = 32 := by omega
          clear hj hk HJ hlt
          obtain ⟨Z, hZ⟩ : ∃ Z, Z = regsS (wordsS S0 ws ws.length) rs 31 := ⟨_, rfl⟩
          rw [← hZ] at hH HT
          have HZE := Lib.hid hZ; clear hZ
          go_wp2_with (first
            | (go_at_call 42; (with_reducible refine (host_SetPC _ _ mb _ hH pc).mono ?_); rintro e v3 ⟨rfl, hM⟩; have t3 := HT.out.hm hM; have r3 := t3.r; have c3 := r3.pc; have f3 := r3.h.free 32; have T3 := Lib.hid t3; have M3 := Lib.hid hM; clear hM t3 r3))
          have HMR : MakesR v3 (nb + 1) nb (Z.setPC pc) (v3.setCell ⟨nb + 1, 32, none⟩ (.int .u32 pc)) := ⟨T3.out.r.setPC pc, (Turn.refl _ v3).set (Or.inl rfl) _⟩
          have fin : Two (v3.setCell ⟨nb + 1, 32, none⟩ (.int .u32 pc)) (mb + 1) mb (nb + 1) nb (bothS ws rs pc) (bothS ws rs pc) := by
            have t := T3.out.rm HMR
            rw [HZE.out] at t
            exact t
          have bel : Below wA.heap.size wA (v3.setCell ⟨nb + 1, 32, none⟩ (.int .u32 pc)) := HB.out.trans ((own_above M3.out.turn HB.out.size (by have := HMB.out; omega) (by have := HMB.out; omega)).trans (own_above HMR.turn (Nat.le_trans HB.out.size M3.out.turn.size) (by have := HNB.out; have := HV1.out; omega) (by have := HNB.out; have := HV1.out; omega)))
          have z := HZ.out; have zm := HMB.out; have zn := HNB.out; have zv := HV1.out
          go_ret2
          exact ⟨mb + 1, mb, nb + 1, nb, rfl, fin, HBA.out.trans (bel.mono HBA.out.size), by omega, by omega, by omega, by omega⟩

end Go.Proofs.Ytpclikbjpjoccaa
