/- The walk of the law AsmConst. -/
import Derived.Test.YtndfcpkmchjncaaAcE
import Derived.Test.YtndfcpkmchjncaaKit
import Derived.BigQuiet
import Derived.StillTailTactics
namespace Go.Proofs.Ytndfcpkmchjncaa
open Go Go.RowKit Go.Sx
set_option linter.unusedVariables false
set_option linter.unusedSimpArgs false

theorem sws_x (S : HS) (ws : List Int) : ∀ k, (sws S ws k).x = S.x
  | 0 => rfl
  | k + 1 => (stM_x _ _ _ _).trans (sws_x S ws k)

set_option maxRecDepth 100000 in
set_option maxHeartbeats 8000000 in
theorem const_main (w : World) (rd v : Int) (rs : List Int) (A : Array Value) (hA : A.size = 31 ∧ ∀ j, j < 31 → A[j]? = some (.int .u32 (rs.getD j 0))) (hr : ∀ x ∈ rs, 0 ≤ x ∧ x ≤ 4294967295) (hrd : 1 ≤ rd ∧ rd < 32) (hv : 0 ≤ v ∧ v ≤ 4294967295) :
    Calls Try.prog 5 #[.int .i64 rd, .int .u32 v, .agg A] w fun e w' => e = .returned (.bool true) ∧ Below w.heap.size w w' := by
  obtain ⟨rN, rfl⟩ : ∃ rN : Nat, rd = (rN : Int) := ⟨rd.toNat, by omega⟩
  have CI := Lib.hid (fun w' => const_is (rN : Int) v hrd hv w')
  obtain ⟨T, hT0, hT, hTx, hTp⟩ := chain_ex rs (rN : Int) v (u32of hr) hrd hv
  obtain ⟨sv, hsv, hways⟩ := cws_ways (rN : Int) v hv
  have hLb : Hid (∀ i, 0 ≤ (cws (rN : Int) v).getD i 0 ∧ (cws (rN : Int) v).getD i 0 ≤ 4294967295) := Lib.hid (cws_bd hrd hv)
  unfold ConstPost at CI
  generalize cws (rN : Int) v = L at *
  have hL2 : L.length ≤ 2 := by rcases hways with h | h <;> omega
  obtain ⟨wA, hwA⟩ : ∃ wA, wA = w.alloc (.cells A 39) := ⟨_, rfl⟩
  have hA0 : wA.heap[w.heap.size]? = some (.cells A 39 (0, 0)) := by rw [hwA]; exact heap_alloc_new _ _
  have hzA : wA.heap.size = w.heap.size + 1 := by rw [hwA, World.size_alloc]
  have hbA : Below w.heap.size w wA := by rw [hwA]; exact (Below.refl _ _).alloc (Nat.le_refl _) _
  have hand := and_4095 v
  have HW := Lib.hid hwA; have HA0 := Lib.hid hA0; have HZ := Lib.hid hzA; have HBA := Lib.hid hbA; have HWAYS := Lib.hid hways; have HSV := Lib.hid hsv; have HAND := Lib.hid hand
  have HT0 := Lib.hid hT0; have HT := Lib.hid hT; have HTX := Lib.hid hTx; have HTP := Lib.hid hTp; have HL2 := Lib.hid hL2; have HR := Lib.hid hr; have HA := Lib.hid hA; have HV := Lib.hid hv
  have hr1 : (1 : Int) ≤ (rN : Int) := hrd.1
  have hr2 : (rN : Int) ≤ 31 := by omega
  have hn1 : decide ((rN : Int) < 1) = false := decide_eq_false (by omega)
  have hn2 : decide ((31 : Int) < (rN : Int)) = false := decide_eq_false (by omega)
  have hkn : kaKnown = true := rfl
  have HRD := Lib.hid hrd
  clear hwA hA0 hzA hbA hways hsv hand hT0 hT hTx hTp hL2 hr hA hv hrd
  go_enter Try.func5, Try.ntmps5
  go_wp2_with (first
    | (go_at_call 13; (with_reducible refine (ref_New _).mono ?_); obtain ⟨nb, hnb⟩ : ∃ nb, nb = v2.heap.size := ⟨_, rfl⟩; rw [← hnb]; rintro e v3 ⟨⟨rfl, r3⟩, hB⟩; have R3 := Lib.hid r3; have B3 := Lib.hid hB; have HNB := Lib.hid hnb; clear hB hnb r3)
    | (go_at_call 12; refine (CI.out _).mono ?_; rintro e v2 ⟨g, cap, rfl, hc, hg1, hg2, hB⟩; have B2 := Lib.hid hB; have HC := Lib.hid hc; have HG : Hid (v1.heap.size ≤ g ∧ g < v2.heap.size) := Lib.hid ⟨hg1, hg2⟩; clear hB hc hg1 hg2)
    | (go_at_call 11; rw [← HW.out]; refine (ka_known _).mono ?_; rintro e v1 ⟨rfl, hB⟩; have B1 := Lib.hid hB; clear hB))
  clear hn1 hn2 hkn
  have s1 := B1.out.size; have s2 := B2.out.size; have s3 := B3.out.size; have s0 := HZ.out; have sn := HNB.out; have sg := HG.out
  have SZ : Hid (w.heap.size < nb ∧ g < nb ∧ w.heap.size < g ∧ nb + 1 < v3.heap.size) := Lib.hid ⟨by omega, by omega, by omega, R3.out.h.lt⟩
  have RC : Hid (∀ j, j < 31 → v3.cell? ⟨w.heap.size, j, none⟩ = some (.int .u32 (rs.getD j 0))) := Lib.hid (arr_cells ((B3.out.block _ (by omega)).trans ((B2.out.block _ (by omega)).trans ((B1.out.block _ (by omega)).trans HA0.out))) HA.out.2)
  have LC : Hid (∀ i, i < L.length → v3.cell? ⟨g, i, none⟩ = some (.int .u32 (L.getD i 0))) := Lib.hid (fun i hi => (B3.out.cell (p := ⟨g, i, none⟩) (by show g < _; omega)).trans (HC.out i hi))
  have B03 : Hid (Below w.heap.size w v3) := Lib.hid (HBA.out.trans ((B1.out.mono (by omega)).trans ((B2.out.mono (by omega)).trans (B3.out.mono (by omega)))))
  have ST : Hid (MakesR v3 (nb + 1) nb (rgs rs 0) v3) := Lib.hid ⟨R3.out, Turn.refl _ _⟩
  clear s1 s2 s3 s0 sn sg
  go_loopw [9] (fun i wr => ∃ (k : Nat) (j : Int), k ≤ 31 ∧ j = (k : Int) + 1 ∧ i = .int .i64 j ∧ MakesR v3 (nb + 1) nb (rgs rs k) wr) (fun i _ => 32 - (intOf i).toNat)
  case atStart => exact ⟨0, 1, by omega, rfl, rfl, ST.out⟩
  case round =>
    obtain ⟨k, j, hk, hj, rfl, hM⟩ := hrel
    have HM := Lib.hid hM; clear hM
    have HJ := Lib.hid hj
    by_cases hlt : k < 31
    · have hlt2 : j < 32 := by omega
      have hj1 : 1 ≤ j := by omega
      obtain ⟨x, hx⟩ : ∃ x, x = rs.getD k 0 := ⟨_, rfl⟩
      have NO : Hid (¬ Own (nb + 1) nb w.heap.size ∧ w.heap.size < v3.heap.size) := Lib.hid ⟨fun e => by have := SZ.out; rcases e with e | e <;> omega, by have := SZ.out; omega⟩
      have hcell : wr.drew.cell? ⟨w.heap.size, k, none⟩ = some (.int .u32 x) := by rw [hx]; exact (HM.out.turn.cell NO.out.2 NO.out.1).trans (RC.out k hlt)
      have hki : j - 1 = (k : Int) := by omega
      have HX2 := Lib.hid hx
      have hj0 : 0 ≤ j := by omega
      have hj2 : j - 1 < 31 := by omega
      have hj3 : 0 ≤ j - 1 := by omega
      have hjN : (j - 1).toNat = k := by omega
      have hjm : j.toNat = k + 1 := by omega
      have hwk : IntKind.i64.wrap (k : Int) = (k : Int) := by rw [IntKind.wrap_i64]; omega
      have hk31 : (k : Int) < 31 := by omega
      have hk30 : (0 : Int) ≤ (k : Int) := by omega
      have hc3 : wr.drew.cell? ⟨nb + 1, k + 1, none⟩ = _ := HM.out.at_.drew.reg (i := k + 1) (by omega)
      have hf3 := HM.out.at_.drew.h.free (k + 1)
      have HK := Lib.hid hk
      clear hx hk hj
      go_wp2_with fail
      go_still_tail 9, (by kernel_rfl)
      change wpList _ _ _ _ _ wr.drew
      generalize hV : wr.drew = V at *
      have HVV := Lib.hid hV; clear hV
      go_wp2
      have q := HJ.out
      have HMR : MakesR wr (nb + 1) nb (rgs rs (k + 1)) (V.setCell ⟨nb + 1, k + 1, none⟩ (.int .u32 x)) := by
        rw [← HVV.out, HX2.out]
        exact ⟨HM.out.at_.drew.put (i := k + 1) (by omega) _, ((Turn.refl _ wr).drew).set (Or.inl rfl) _⟩
      go_roundw
      case rel => exact ⟨k + 1, j + 1, by omega, by omega, by go_num, makes_trans HM.out HMR⟩
      case measure => simp [intOf]; omega
    · obtain rfl : k = 31 := by omega
      obtain rfl : j = 32 := by omega
      clear hj hk HJ hlt ST
      go_wp2_with fail
      go_loopw [10] (fun i wr => ∃ k : Nat, k ≤ L.length ∧ i = .int .i64 (k : Nat) ∧ MakesR v3 (nb + 1) nb (sws (rgs rs 31) L k) wr) (fun i _ => L.length - (intOf i).toNat)
      case atStart => exact ⟨0, by omega, rfl, HM.out⟩
      case round =>
        clear HM
        obtain ⟨k, hk, rfl, hM⟩ := hrel
        have HM := Lib.hid hM; clear hM
        by_cases hlt : k < L.length
        · obtain ⟨x, hx⟩ : ∃ x, x = L.getD k 0 := ⟨_, rfl⟩
          have HBD : Hid (0 ≤ x ∧ x ≤ 4294967295) := Lib.hid (hx ▸ hLb.out k)
          have NO : Hid (¬ Own (nb + 1) nb g ∧ g < v3.heap.size) := Lib.hid ⟨fun e => by have := SZ.out; rcases e with e | e <;> omega, by have := SZ.out; omega⟩
          have hcell : wr.cell? ⟨g, k, none⟩ = some (.int .u32 x) := by rw [hx]; exact (HM.out.turn.cell NO.out.2 NO.out.1).trans (LC.out k hlt)
          have hlt2 : (k : Int) < (L.length : Int) := by omega
          have hk40 : (k : Int) < 40 := by have := HL2.out; omega
          have hk0 : (0 : Int) ≤ (k : Int) := by omega
          have HXE := Lib.hid hx
          have HAD : Hid (0 ≤ 1024 + 4 * (k : Int) ∧ 1024 + 4 * (k : Int) ≤ 4294967295) := Lib.hid (by omega)
          have hH := HM.out.at_
          clear hx
          go_wp2_with (go_at_call 14; (with_reducible refine (ref_Store _ _ nb _ hH _ 4 x HAD.out.1 HAD.out.2 HBD.out.1 HBD.out.2 (by decide) (by decide)).mono ?_); rintro e v4 ⟨rfl, hM⟩; have M4 := Lib.hid hM; clear hM)
          have q := HXE.out
          go_roundw
          case rel => exact ⟨k + 1, by omega, by go_num, makes_trans HM.out (by have t := M4.out; rw [HXE.out] at t; exact t)⟩
          case measure => simp [intOf]; omega
        · obtain rfl : k = L.length := by omega
          clear hk hlt
          obtain ⟨S, hS⟩ : ∃ S, S = sws (rgs rs 31) L L.length := ⟨_, rfl⟩
          have HM2 : Hid (MakesR v3 (nb + 1) nb (T 0) wr) := Lib.hid (by rw [HT0.out]; exact HM.out)
          have HSX : Hid (S.x = (T 0).x) := Lib.hid (by rw [HT0.out, hS])
          have BW : Hid (Below w.heap.size w wr) := Lib.hid (B03.out.trans (HM.out.turn.below (by have := SZ.out; omega) (fun i _ hi => by have := SZ.out; rcases hi with rfl | rfl <;> omega)))
          clear HM hS HSX
          have hsv := HSV.out
          have hand := HAND.out
          generalize v % 4096 = q at *
          rcases HWAYS.out with ⟨hw, tn⟩ | ⟨hw, tn⟩
          · rcases hw with ⟨t1, t2⟩ | ⟨t1, t2, t3⟩ | ⟨t1, t3⟩
            all_goals
              rw [tn]
              have z0 := SZ.out
              have zz := HM2.out.turn.size
              obtain ⟨x, hx⟩ : ∃ x, x = (T 0).x := ⟨_, rfl⟩
              have HX := Lib.hid hx
              have HLD : Hid ((loadVar 44 ⟨nb + 1, 0, none⟩).run Try.prog wr = .ok (.agg (A32 x)) wr) := Lib.hid (A32_load (fun i hi => by rw [hx]; exact HM2.out.at_.reg hi))
              obtain ⟨Z, hZ⟩ : ∃ Z : Array Value, Z = Array.replicate 32 (.int .u32 0) := ⟨_, rfl⟩
              have HZV : Hid (∀ w, (zeroValue 44).run Try.prog w = .ok (.agg Z) w) := Lib.hid (by rw [hZ]; exact fun _ => by kernel_rfl)
              have HZS : Hid (Z.size = (A32 x).size) := Lib.hid (by rw [hZ, A32_size]; rfl)
              have HI32 : Hid ((Try.prog.info? 44).map (·.size) = some (A32 x).size) := Lib.hid (by rw [A32_size]; kernel_rfl)
              obtain ⟨V, hV⟩ : ∃ V, V = wr.alloc (.cells (A32 x) 44) := ⟨_, rfl⟩
              obtain ⟨W, hW⟩ : ∃ W, W = V.setCell ⟨wr.heap.size, rN, none⟩ (.int .u32 v) := ⟨_, rfl⟩
              have bn : Blk V wr.heap.size 32 44 (fun i => .int .u32 (x i)) := by rw [hV]; exact Blk.new _ _ _ _
              have d1 := bn.cell (i := rN) (by have := HRD.out; omega)
              have d2 := bn.free rN
              have BLK : Hid (Blk W wr.heap.size 32 44 (upd (fun i => .int .u32 (x i)) rN (.int .u32 v))) := Lib.hid (by rw [hW]; exact bn.set _ _)
              have REF : Hid (RefAt W (nb + 1) nb (T 0)) := Lib.hid (by rw [hW, hV]; exact (HM2.out.at_.alloc _).other (by show wr.heap.size ≠ _; omega) (by show wr.heap.size ≠ _; omega) _)
              have BEL : Hid (Below w.heap.size w W) := Lib.hid (by rw [hW, hV]; exact BW.out.trans ((((Turn.refl (fun _ => False) wr).alloc _).setNew (Nat.le_refl _) _).below BW.out.size (fun _ _ h => h.elim)))
              have ZW : Hid (nb + 1 < wr.heap.size) := Lib.hid (by omega)
              have hr31 : (rN : Int) < 32 := HRD.out.2
              have hr30 : (0 : Int) ≤ (rN : Int) := by omega
              have HWE := Lib.hid hW; have HVE := Lib.hid hV
              clear hZ hx hW hV bn z0 zz HM2
              go_wp2_with (first
                | (refine wpList_load_is rfl 44 _ rfl _ rfl _ HLD.out ?_)
                | (refine Kit.wpList_alloc_as rfl 44 rfl Z (HZV.out _) ?_)
                | (refine Kit.wpList_store_new rfl 44 _ _ rfl wr Z 44 rfl rfl (A32 x) rfl HZS.out HI32.out (A32_one x) ?_; rw [← HVE.out]))
              rw [← HWE.out]
              clear d1 d2
              generalize hgw : wr.heap.size = gw at *
              go_loopw [14] (fun i wq => ∃ k : Nat, k ≤ L.length ∧ i = .int .i64 (k : Nat) ∧ MakesR W (nb + 1) nb (T k) wq) (fun i _ => L.length - (intOf i).toNat)
              case atStart => exact ⟨0, by omega, rfl, REF.out, Turn.refl _ _⟩
              case round =>
                obtain ⟨k, hk, rfl, hM⟩ := hrel
                have HM := Lib.hid hM; clear hM
                by_cases hlt : k < L.length
                · have hH := HM.out.at_
                  have hlt2 : (k : Int) < 1 := by omega
                  have HLT := Lib.hid hlt
                  clear hlt hk
                  go_wp2_with (go_at_call 15; refine (HT.out k HLT.out _ (nb + 1) nb hH).mono ?_; rintro e v4 ⟨rfl, hM⟩; have M4 := Lib.hid hM; clear hM)
                  go_roundw
                  case rel => exact ⟨k + 1, HLT.out, by go_num, makes_trans HM.out M4.out⟩
                  case measure => simp [intOf]; have := HLT.out; omega
                · obtain ⟨y, hy⟩ : ∃ y, y = (T k).x := ⟨_, rfl⟩
                  obtain rfl : k = 1 := by omega
                  clear hlt hk
                  have hp := HTP.out
                  have hx := HTX.out
                  rw [tn] at hp hx
                  replace hp : (T 1).pc = 1028 := by omega
                  have hpc := HM.out.at_.drew.pc
                  rw [hp] at hpc
                  have HLD2 : Hid ((loadVar 44 ⟨nb + 1, 0, none⟩).run Try.prog wr.drew = .ok (.agg (A32 y)) wr.drew) := Lib.hid (A32_load (fun i hi => by rw [hy]; exact HM.out.at_.drew.reg hi))
                  have hbk : Blk wr.drew gw 32 44 _ := (BLK.out.keep HM.out.turn (fun e => by have := ZW.out; rcases e with e | e <;> omega)).drew
                  have HLD3 : Hid ((loadVar 44 ⟨gw, 0, none⟩).run Try.prog wr.drew = .ok (.agg (A32 y)) wr.drew) := Lib.hid (A32_load (fun i hi => (hbk.cell hi).trans (by rw [hy, hx i, ← sws_x (rgs rs 31) L L.length, ← HT0.out, ← HX.out, Int.toNat_natCast]; unfold upd; split <;> rfl)))
                  have hbp : ∀ b : Bool, (b == b) = true := fun b => by simp
                  have hq := A32_guard
                  have hz := HM.out.turn.below (B := w.heap.size) BEL.out.size (fun i _ hi => by have := SZ.out; rcases hi with rfl | rfl <;> omega)
                  have HE : Hid (Below w.heap.size w { heap := wr.heap, tape := wr.tape, drawn := wr.drawn + 1, os := wr.os, output := wr.output }) := Lib.hid (BEL.out.trans hz).drew
                  have heq := A32_same y
                  clear hx hy hbk hp hz
                  go_wp2_with fail
                  refine wp_region_still_lit (by kernel_rfl) (by kernel_rfl) ?_
                  change wpStill _ _ wr.drew _ _ _
                  change wpStill _ _ wr.drew (fun a' => _) _ _
                  generalize wr.drew = V at *
                  still_step
                  still_step
                  still_step
                  refine wpStill_load_is rfl 44 _ rfl _ rfl _ HLD2.out ?_
                  refine wpStill_load_is rfl 44 _ rfl _ rfl _ HLD3.out ?_
                  repeat still_step
                  refine wpStill_nil ?_
                  go_wp2_with fail
                  go_ret
                  exact ⟨rfl, HE.out⟩
          · rcases hw with ⟨t1, t2, t3⟩ | ⟨t1, t3⟩
            all_goals
              rw [tn]
              have z0 := SZ.out
              have zz := HM2.out.turn.size
              obtain ⟨x, hx⟩ : ∃ x, x = (T 0).x := ⟨_, rfl⟩
              have HX := Lib.hid hx
              have HLD : Hid ((loadVar 44 ⟨nb + 1, 0, none⟩).run Try.prog wr = .ok (.agg (A32 x)) wr) := Lib.hid (A32_load (fun i hi => by rw [hx]; exact HM2.out.at_.reg hi))
              obtain ⟨Z, hZ⟩ : ∃ Z : Array Value, Z = Array.replicate 32 (.int .u32 0) := ⟨_, rfl⟩
              have HZV : Hid (∀ w, (zeroValue 44).run Try.prog w = .ok (.agg Z) w) := Lib.hid (by rw [hZ]; exact fun _ => by kernel_rfl)
              have HZS : Hid (Z.size = (A32 x).size) := Lib.hid (by rw [hZ, A32_size]; rfl)
              have HI32 : Hid ((Try.prog.info? 44).map (·.size) = some (A32 x).size) := Lib.hid (by rw [A32_size]; kernel_rfl)
              obtain ⟨V, hV⟩ : ∃ V, V = wr.alloc (.cells (A32 x) 44) := ⟨_, rfl⟩
              obtain ⟨W, hW⟩ : ∃ W, W = V.setCell ⟨wr.heap.size, rN, none⟩ (.int .u32 v) := ⟨_, rfl⟩
              have bn : Blk V wr.heap.size 32 44 (fun i => .int .u32 (x i)) := by rw [hV]; exact Blk.new _ _ _ _
              have d1 := bn.cell (i := rN) (by have := HRD.out; omega)
              have d2 := bn.free rN
              have BLK : Hid (Blk W wr.heap.size 32 44 (upd (fun i => .int .u32 (x i)) rN (.int .u32 v))) := Lib.hid (by rw [hW]; exact bn.set _ _)
              have REF : Hid (RefAt W (nb + 1) nb (T 0)) := Lib.hid (by rw [hW, hV]; exact (HM2.out.at_.alloc _).other (by show wr.heap.size ≠ _; omega) (by show wr.heap.size ≠ _; omega) _)
              have BEL : Hid (Below w.heap.size w W) := Lib.hid (by rw [hW, hV]; exact BW.out.trans ((((Turn.refl (fun _ => False) wr).alloc _).setNew (Nat.le_refl _) _).below BW.out.size (fun _ _ h => h.elim)))
              have ZW : Hid (nb + 1 < wr.heap.size) := Lib.hid (by omega)
              have hr31 : (rN : Int) < 32 := HRD.out.2
              have hr30 : (0 : Int) ≤ (rN : Int) := by omega
              have HWE := Lib.hid hW; have HVE := Lib.hid hV
              clear hZ hx hW hV bn z0 zz HM2
              go_wp2_with (first
                | (refine wpList_load_is rfl 44 _ rfl _ rfl _ HLD.out ?_)
                | (refine Kit.wpList_alloc_as rfl 44 rfl Z (HZV.out _) ?_)
                | (refine Kit.wpList_store_new rfl 44 _ _ rfl wr Z 44 rfl rfl (A32 x) rfl HZS.out HI32.out (A32_one x) ?_; rw [← HVE.out]))
              rw [← HWE.out]
              clear d1 d2
              generalize hgw : wr.heap.size = gw at *
              go_loopw [14] (fun i wq => ∃ k : Nat, k ≤ L.length ∧ i = .int .i64 (k : Nat) ∧ MakesR W (nb + 1) nb (T k) wq) (fun i _ => L.length - (intOf i).toNat)
              case atStart => exact ⟨0, by omega, rfl, REF.out, Turn.refl _ _⟩
              case round =>
                obtain ⟨k, hk, rfl, hM⟩ := hrel
                have HM := Lib.hid hM; clear hM
                by_cases hlt : k < L.length
                · have hH := HM.out.at_
                  have hlt2 : (k : Int) < 2 := by omega
                  have HLT := Lib.hid hlt
                  clear hlt hk
                  go_wp2_with (go_at_call 15; refine (HT.out k HLT.out _ (nb + 1) nb hH).mono ?_; rintro e v4 ⟨rfl, hM⟩; have M4 := Lib.hid hM; clear hM)
                  go_roundw
                  case rel => exact ⟨k + 1, HLT.out, by go_num, makes_trans HM.out M4.out⟩
                  case measure => simp [intOf]; have := HLT.out; omega
                · obtain ⟨y, hy⟩ : ∃ y, y = (T k).x := ⟨_, rfl⟩
                  obtain rfl : k = 2 := by omega
                  clear hlt hk
                  have hp := HTP.out
                  have hx := HTX.out
                  rw [tn] at hp hx
                  replace hp : (T 2).pc = 1032 := by omega
                  have hpc := HM.out.at_.drew.pc
                  rw [hp] at hpc
                  have HLD2 : Hid ((loadVar 44 ⟨nb + 1, 0, none⟩).run Try.prog wr.drew = .ok (.agg (A32 y)) wr.drew) := Lib.hid (A32_load (fun i hi => by rw [hy]; exact HM.out.at_.drew.reg hi))
                  have hbk : Blk wr.drew gw 32 44 _ := (BLK.out.keep HM.out.turn (fun e => by have := ZW.out; rcases e with e | e <;> omega)).drew
                  have HLD3 : Hid ((loadVar 44 ⟨gw, 0, none⟩).run Try.prog wr.drew = .ok (.agg (A32 y)) wr.drew) := Lib.hid (A32_load (fun i hi => (hbk.cell hi).trans (by rw [hy, hx i, ← sws_x (rgs rs 31) L L.length, ← HT0.out, ← HX.out, Int.toNat_natCast]; unfold upd; split <;> rfl)))
                  have hbp : ∀ b : Bool, (b == b) = true := fun b => by simp
                  have hq := A32_guard
                  have hz := HM.out.turn.below (B := w.heap.size) BEL.out.size (fun i _ hi => by have := SZ.out; rcases hi with rfl | rfl <;> omega)
                  have HE : Hid (Below w.heap.size w { heap := wr.heap, tape := wr.tape, drawn := wr.drawn + 1, os := wr.os, output := wr.output }) := Lib.hid (BEL.out.trans hz).drew
                  have heq := A32_same y
                  clear hx hy hbk hp hz
                  go_wp2_with fail
                  refine wp_region_still_lit (by kernel_rfl) (by kernel_rfl) ?_
                  change wpStill _ _ wr.drew _ _ _
                  change wpStill _ _ wr.drew (fun a' => _) _ _
                  generalize wr.drew = V at *
                  still_step
                  still_step
                  still_step
                  refine wpStill_load_is rfl 44 _ rfl _ rfl _ HLD2.out ?_
                  refine wpStill_load_is rfl 44 _ rfl _ rfl _ HLD3.out ?_
                  repeat still_step
                  refine wpStill_nil ?_
                  go_wp2_with fail
                  go_ret
                  exact ⟨rfl, HE.out⟩

set_option maxHeartbeats 2000000 in
theorem const_out (w : World) (rd v : Int) (A : Array Value) (h : ¬ (1 ≤ rd ∧ rd < 32)) (hi : -9223372036854775808 ≤ rd ∧ rd ≤ 9223372036854775807) :
    Calls Try.prog 5 #[.int .i64 rd, .int .u32 v, .agg A] w fun e w' => e = .returned (.bool true) ∧ Below w.heap.size w w' := by
  have CN := Lib.hid (fun w' => const_none rd v h hi w')
  have hbA : Below w.heap.size w (w.alloc (.cells A 39)) := (Below.refl _ _).alloc (Nat.le_refl _) _
  have HBA := Lib.hid hbA
  have hkn : kaKnown = true := rfl
  clear hbA
  by_cases h1 : rd < 1
  · clear h hi
    go_enter Try.func5, Try.ntmps5
    go_wp2_with (first
      | (go_at_call 12; refine (CN.out _).mono ?_; rintro e v2 ⟨rfl, hB⟩; have B2 := Lib.hid hB; clear hB)
      | (go_at_call 11; refine (ka_known _).mono ?_; rintro e v1 ⟨rfl, hB⟩; have B1 := Lib.hid hB; clear hB))
    go_ret
    exact ⟨rfl, below_next (below_next HBA.out B1.out) B2.out⟩
  · have h0 : decide (rd < 1) = false := decide_eq_false h1
    have h2 : 31 < rd := by omega
    clear h h1 hi
    go_enter Try.func5, Try.ntmps5
    go_wp2_with (first
      | (go_at_call 12; refine (CN.out _).mono ?_; rintro e v2 ⟨rfl, hB⟩; have B2 := Lib.hid hB; clear hB)
      | (go_at_call 11; refine (ka_known _).mono ?_; rintro e v1 ⟨rfl, hB⟩; have B1 := Lib.hid hB; clear hB))
    go_ret
    exact ⟨rfl, below_next (below_next HBA.out B1.out) B2.out⟩

theorem AsmConst_walk (rd v : Int) (x0 x1 x2 x3 x4 x5 x6 x7 x8 x9 x10 x11 x12 x13 x14 x15 x16 x17 x18 x19 x20 x21 x22 x23 x24 x25 x26 x27 x28 x29 x30 : Int) (w0 : (Lit.int .i64 rd).wf = true) (w1 : (Lit.int .u32 v).wf = true) (w2 : (0 ≤ x0 ∧ x0 ≤ 4294967295) ∧ (0 ≤ x1 ∧ x1 ≤ 4294967295) ∧ (0 ≤ x2 ∧ x2 ≤ 4294967295) ∧ (0 ≤ x3 ∧ x3 ≤ 4294967295) ∧ (0 ≤ x4 ∧ x4 ≤ 4294967295) ∧ (0 ≤ x5 ∧ x5 ≤ 4294967295) ∧ (0 ≤ x6 ∧ x6 ≤ 4294967295) ∧ (0 ≤ x7 ∧ x7 ≤ 4294967295) ∧ (0 ≤ x8 ∧ x8 ≤ 4294967295) ∧ (0 ≤ x9 ∧ x9 ≤ 4294967295) ∧ (0 ≤ x10 ∧ x10 ≤ 4294967295) ∧ (0 ≤ x11 ∧ x11 ≤ 4294967295) ∧ (0 ≤ x12 ∧ x12 ≤ 4294967295) ∧ (0 ≤ x13 ∧ x13 ≤ 4294967295) ∧ (0 ≤ x14 ∧ x14 ≤ 4294967295) ∧ (0 ≤ x15 ∧ x15 ≤ 4294967295) ∧ (0 ≤ x16 ∧ x16 ≤ 4294967295) ∧ (0 ≤ x17 ∧ x17 ≤ 4294967295) ∧ (0 ≤ x18 ∧ x18 ≤ 4294967295) ∧ (0 ≤ x19 ∧ x19 ≤ 4294967295) ∧ (0 ≤ x20 ∧ x20 ≤ 4294967295) ∧ (0 ≤ x21 ∧ x21 ≤ 4294967295) ∧ (0 ≤ x22 ∧ x22 ≤ 4294967295) ∧ (0 ≤ x23 ∧ x23 ≤ 4294967295) ∧ (0 ≤ x24 ∧ x24 ≤ 4294967295) ∧ (0 ≤ x25 ∧ x25 ≤ 4294967295) ∧ (0 ≤ x26 ∧ x26 ≤ 4294967295) ∧ (0 ≤ x27 ∧ x27 ≤ 4294967295) ∧ (0 ≤ x28 ∧ x28 ≤ 4294967295) ∧ (0 ≤ x29 ∧ x29 ≤ 4294967295) ∧ (0 ≤ x30 ∧ x30 ≤ 4294967295)) (w : World) :
    Calls Try.prog 5 #[.int .i64 rd, .int .u32 v, .agg #[.int .u32 x0, .int .u32 x1, .int .u32 x2, .int .u32 x3, .int .u32 x4, .int .u32 x5, .int .u32 x6, .int .u32 x7, .int .u32 x8, .int .u32 x9, .int .u32 x10, .int .u32 x11, .int .u32 x12, .int .u32 x13, .int .u32 x14, .int .u32 x15, .int .u32 x16, .int .u32 x17, .int .u32 x18, .int .u32 x19, .int .u32 x20, .int .u32 x21, .int .u32 x22, .int .u32 x23, .int .u32 x24, .int .u32 x25, .int .u32 x26, .int .u32 x27, .int .u32 x28, .int .u32 x29, .int .u32 x30]] w fun e w' => e = .returned (.bool true) ∧ Below w.heap.size w w' := by
  have q0 : -9223372036854775808 ≤ rd ∧ rd ≤ 9223372036854775807 := by simpa [Lit.wf, IntKind.min, IntKind.max, IntKind.bits, IntKind.signed] using w0
  have q1 : 0 ≤ v ∧ v ≤ 4294967295 := by simpa [Lit.wf, IntKind.min, IntKind.max, IntKind.bits, IntKind.signed] using w1
  have hr : ∀ y ∈ [x0, x1, x2, x3, x4, x5, x6, x7, x8, x9, x10, x11, x12, x13, x14, x15, x16, x17, x18, x19, x20, x21, x22, x23, x24, x25, x26, x27, x28, x29, x30], 0 ≤ y ∧ y ≤ 4294967295 := (List.forall_mem_cons.2 ⟨w2.1, (List.forall_mem_cons.2 ⟨w2.2.1, (List.forall_mem_cons.2 ⟨w2.2.2.1, (List.forall_mem_cons.2 ⟨w2.2.2.2.1, (List.forall_mem_cons.2 ⟨w2.2.2.2.2.1, (List.forall_mem_cons.2 ⟨w2.2.2.2.2.2.1, (List.forall_mem_cons.2 ⟨w2.2.2.2.2.2.2.1, (List.forall_mem_cons.2 ⟨w2.2.2.2.2.2.2.2.1, (List.forall_mem_cons.2 ⟨w2.2.2.2.2.2.2.2.2.1, (List.forall_mem_cons.2 ⟨w2.2.2.2.2.2.2.2.2.2.1, (List.forall_mem_cons.2 ⟨w2.2.2.2.2.2.2.2.2.2.2.1, (List.forall_mem_cons.2 ⟨w2.2.2.2.2.2.2.2.2.2.2.2.1, (List.forall_mem_cons.2 ⟨w2.2.2.2.2.2.2.2.2.2.2.2.2.1, (List.forall_mem_cons.2 ⟨w2.2.2.2.2.2.2.2.2.2.2.2.2.2.1, (List.forall_mem_cons.2 ⟨w2.2.2.2.2.2.2.2.2.2.2.2.2.2.2.1, (List.forall_mem_cons.2 ⟨w2.2.2.2.2.2.2.2.2.2.2.2.2.2.2.2.1, (List.forall_mem_cons.2 ⟨w2.2.2.2.2.2.2.2.2.2.2.2.2.2.2.2.2.1, (List.forall_mem_cons.2 ⟨w2.2.2.2.2.2.2.2.2.2.2.2.2.2.2.2.2.2.1, (List.forall_mem_cons.2 ⟨w2.2.2.2.2.2.2.2.2.2.2.2.2.2.2.2.2.2.2.1, (List.forall_mem_cons.2 ⟨w2.2.2.2.2.2.2.2.2.2.2.2.2.2.2.2.2.2.2.2.1, (List.forall_mem_cons.2 ⟨w2.2.2.2.2.2.2.2.2.2.2.2.2.2.2.2.2.2.2.2.2.1, (List.forall_mem_cons.2 ⟨w2.2.2.2.2.2.2.2.2.2.2.2.2.2.2.2.2.2.2.2.2.2.1, (List.forall_mem_cons.2 ⟨w2.2.2.2.2.2.2.2.2.2.2.2.2.2.2.2.2.2.2.2.2.2.2.1, (List.forall_mem_cons.2 ⟨w2.2.2.2.2.2.2.2.2.2.2.2.2.2.2.2.2.2.2.2.2.2.2.2.1, (List.forall_mem_cons.2 ⟨w2.2.2.2.2.2.2.2.2.2.2.2.2.2.2.2.2.2.2.2.2.2.2.2.2.1, (List.forall_mem_cons.2 ⟨w2.2.2.2.2.2.2.2.2.2.2.2.2.2.2.2.2.2.2.2.2.2.2.2.2.2.1, (List.forall_mem_cons.2 ⟨w2.2.2.2.2.2.2.2.2.2.2.2.2.2.2.2.2.2.2.2.2.2.2.2.2.2.2.1, (List.forall_mem_cons.2 ⟨w2.2.2.2.2.2.2.2.2.2.2.2.2.2.2.2.2.2.2.2.2.2.2.2.2.2.2.2.1, (List.forall_mem_cons.2 ⟨w2.2.2.2.2.2.2.2.2.2.2.2.2.2.2.2.2.2.2.2.2.2.2.2.2.2.2.2.2.1, (List.forall_mem_cons.2 ⟨w2.2.2.2.2.2.2.2.2.2.2.2.2.2.2.2.2.2.2.2.2.2.2.2.2.2.2.2.2.2.1, (List.forall_mem_cons.2 ⟨w2.2.2.2.2.2.2.2.2.2.2.2.2.2.2.2.2.2.2.2.2.2.2.2.2.2.2.2.2.2.2, (fun y hy => by cases hy)⟩)⟩)⟩)⟩)⟩)⟩)⟩)⟩)⟩)⟩)⟩)⟩)⟩)⟩)⟩)⟩)⟩)⟩)⟩)⟩)⟩)⟩)⟩)⟩)⟩)⟩)⟩)⟩)⟩)⟩)⟩)
  by_cases h : 1 ≤ rd ∧ rd < 32
  · exact const_main w rd v [x0, x1, x2, x3, x4, x5, x6, x7, x8, x9, x10, x11, x12, x13, x14, x15, x16, x17, x18, x19, x20, x21, x22, x23, x24, x25, x26, x27, x28, x29, x30] _ (arr_of_list [x0, x1, x2, x3, x4, x5, x6, x7, x8, x9, x10, x11, x12, x13, x14, x15, x16, x17, x18, x19, x20, x21, x22, x23, x24, x25, x26, x27, x28, x29, x30]) hr h q1
  · exact const_out w rd v _ h q0
end Go.Proofs.Ytndfcpkmchjncaa
