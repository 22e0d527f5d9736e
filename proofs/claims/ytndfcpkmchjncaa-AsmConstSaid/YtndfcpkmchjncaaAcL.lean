/-
  The host of the document does the two words that make a number.
-/
import Derived.Test.YtndfcpkmchjncaaHoT
import Derived.Test.YtndfcpkmchjncaaAcU
import Derived.Test.YtndfcpkmchjncaaRfE
import Derived.Test.YtndfcpkmchjncaaRvD
import Derived.Deep.QuietTactic
import Derived.BigQuiet
import Derived.StillTailTactics
import Derived.Deep.RegionHeld3
namespace Go.Proofs.Ytndfcpkmchjncaa
open Go Go.RowKit Go.Sx
set_option linter.unusedVariables false
set_option linter.unusedSimpArgs false

def nxt (S : HS) : Int := (S.pc + 4) % 4294967296

theorem imOp_bd (k : Int) : 0 ≤ imOp k ∧ imOp k ≤ 45 := by
  unfold imOp
  repeat' split
  all_goals omega

theorem getX_reg {S : HS} (hG : Good S) {r : Int} (h : 0 ≤ r ∧ r < 32) : getX S r = S.x r.toNat := by
  unfold getX
  by_cases h0 : r = 0
  · subst h0; rw [if_neg (by omega)]; exact hG.zero.symm
  · rw [if_pos (by omega)]

theorem putX_pc (S : HS) (i v : Int) : (putX S i v).pc = S.pc := by unfold putX; split <;> rfl

theorem RefAt.below {w w' : World} {hb mb : Nat} {S : HS} (k : RefAt w hb mb S) (h : Below w.heap.size w w') : RefAt w' hb mb S := k.keep (p := fun _ => False) (Turn.of_below h) id id

theorem ref_Dec (x : Int) (h0 : 0 ≤ x) (h1 : x < 4294967296) (w : World) :
    Calls Try.prog 43 #[.int .u32 x] w fun e w' => e = .returned (.tuple #[.agg #[.int .i64 (rvDec_0 x), .int .i64 (rvDec_1 x), .int .i64 (rvDec_2 x), .int .i64 (rvDec_3 x), .int .i32 (rvDec_4 x)], .bool (rvDec_5 x)]) ∧ RowKit.Below w.heap.size w w' := by
  have h := ref_Decode x (has_u32.2 ⟨h0, h1⟩) w
  obtain ⟨e5, e0, e1, e2, e3, e4⟩ := dec_same h0 h1
  rw [e5, e0, e1, e2, e3, e4] at h
  exact h

set_option maxHeartbeats 2000000 in
set_option maxRecDepth 100000 in
theorem rs_lui (w : World) (hb mb : Nat) (S : HS) (hH : RefAt w hb mb S) (hG : Good S) (hc : canB S.pc 4 = true) (X : Int) (hX : X = ldV S S.pc 4) (hd : rvDec_5 X = true) (rd r1 r2 n : Int) (e0 : rvDec_0 X = 1) (e1 : rvDec_1 X = rd) (e2 : rvDec_2 X = r1) (e3 : rvDec_3 X = r2) (e4 : rvDec_4 X = n) (hr : 0 ≤ rd ∧ rd < 32) (h1 : 0 ≤ r1 ∧ r1 < 32) (h2 : 0 ≤ r2 ∧ r2 < 32) (hn : -2147483648 ≤ n ∧ n ≤ 2147483647) :
    Calls Try.prog 15 #[.pointer (some ⟨hb, 0, none⟩)] w fun e w' => e = .returned (.int .i64 0) ∧ MakesR w hb mb ((putX S rd (n % 4294967296)).setPC (nxt S)) w' := by
  have hXb : 0 ≤ X ∧ X ≤ 4294967295 := hX ▸ ldV_bd hG _ _
  have HX := Lib.hid hX; clear hX
  have HC := Lib.hid hc; clear hc
  have HD := Lib.hid hd; clear hd
  have E0 := Lib.hid e0; have E1 := Lib.hid e1; have E2 := Lib.hid e2; have E3 := Lib.hid e3; have E4 := Lib.hid e4; clear e0 e1 e2 e3 e4
  have hp := hG.pc
  have a0 := getX_bd hG r1
  have b0 := getX_bd hG r2
  have G1 := Lib.hid (getX_reg hG h1)
  have G2 := Lib.hid (getX_reg hG h2)
  have kp := hH.pc
  go_enter Try.func15, Try.ntmps15
  go_wp2_with (first | (go_at_call 42; refine (ref_Load _ hb mb S hH hG S.pc 4 hp.1 hp.2 (by decide) (by decide)).mono ?_; rw [HC.out, ← HX.out]; rintro e w1 ⟨rfl, rfl⟩) | (go_at_call 43; refine (ref_Dec X hXb.1 (by omega) _).mono ?_; rw [HD.out, E0.out, E1.out, E2.out, E3.out, E4.out]; rintro e w2 ⟨rfl, hB⟩; have HB := Lib.hid hB; clear hB))
  obtain ⟨W, hW⟩ : ∃ W, W = w2.alloc (.cells #[.int .i64 1, .int .i64 rd, .int .i64 r1, .int .i64 r2, .int .i32 n] 79) := ⟨_, rfl⟩
  rw [← hW]
  have K5 := Lib.hid (W5.new hW)
  obtain ⟨k0, k1, k2, k3, k4⟩ := K5.out
  have hHW : RefAt W hb mb S := hW ▸ (hH.below HB.out).alloc _
  have hT : Turn (Own hb mb) w W := hW ▸ ((Turn.of_below HB.out).alloc _)
  have hz : w2.heap.size < W.heap.size := by rw [hW]; simp
  have m1 : W.cell? ⟨hb, r1.toNat, none⟩ = some (.int .u32 (getX S r1)) := by rw [G1.out]; exact hHW.reg (by omega)
  have m2 : W.cell? ⟨hb, r2.toNat, none⟩ = some (.int .u32 (getX S r2)) := by rw [G2.out]; exact hHW.reg (by omega)
  have l1 := hH.h.lt
  have l2 := hH.m.lt
  have l3 := HB.out.size
  have HW := Lib.hid hW; clear hW kp
  go_quiet (fail)
  rename_i nq _
  obtain ⟨V, hV⟩ : ∃ V, V = W.drewN nq := ⟨_, rfl⟩
  rw [← hV]
  clear k0 k1 k2 k3 k4
  have K5V : W5 V w2.heap.size 1 rd r1 r2 n := hV ▸ K5.out.drewN nq
  obtain ⟨k0, k1, k2, k3, k4⟩ := K5V
  replace hHW : RefAt V hb mb S := hV ▸ hHW.drewN nq
  replace hT : Turn (Own hb mb) w V := hV ▸ hT.drewN nq
  replace hz : w2.heap.size < V.heap.size := by rw [hV]; exact hz
  have HV := Lib.hid hV; clear hV m1 m2
  have hpc := hHW.pc
  have hfr := hHW.h.free 32
  have hwy := hHW.why
  have hfw := hHW.h.free 34
  have nh : ¬ Own hb mb w2.heap.size := fun h => by rcases h with h | h <;> omega
  go_wp2_with (go_at_call 45; refine (ref_set _ hb mb S hHW rd _ hr.1 hr.2).mono ?_; rintro e w3 ⟨rfl, hM⟩; have c1 := hM.at_.pc; have c2 := hM.at_.h.free 32; have HM := Lib.hid hM; clear hM)
  go_ret
  exact ⟨rfl, by unfold nxt; simpa using HM.out.at_.setPC _, (hT.trans HM.out.turn).set (Or.inl rfl) _⟩

set_option maxHeartbeats 2000000 in
set_option maxRecDepth 100000 in
theorem rs_imm (w : World) (hb mb : Nat) (S : HS) (hH : RefAt w hb mb S) (hG : Good S) (hc : canB S.pc 4 = true) (X : Int) (hX : X = ldV S S.pc 4) (hd : rvDec_5 X = true) (op rd r1 r2 n : Int) (e0 : rvDec_0 X = op) (e1 : rvDec_1 X = rd) (e2 : rvDec_2 X = r1) (e3 : rvDec_3 X = r2) (e4 : rvDec_4 X = n) (hr : 0 ≤ rd ∧ rd < 32) (h1 : 0 ≤ r1 ∧ r1 < 32) (h2 : 0 ≤ r2 ∧ r2 < 32) (hn : -2147483648 ≤ n ∧ n ≤ 2147483647) (ho : 19 ≤ op ∧ op ≤ 27) :
    Calls Try.prog 15 #[.pointer (some ⟨hb, 0, none⟩)] w fun e w' => e = .returned (.int .i64 0) ∧ MakesR w hb mb ((putX S rd (rhAlu (imOp (op - 19)) (getX S r1) (n % 4294967296))).setPC (nxt S)) w' := by
  have ib : ∀ w, (Instr.build 88 #[(0, .int .i64 28), (1, .int .i64 31), (2, .int .i64 32), (3, .int .i64 33), (4, .int .i64 36), (5, .int .i64 37), (6, .int .i64 30), (7, .int .i64 34), (8, .int .i64 35)]).run Try.prog w = .ok (.agg #[.int .i64 28, .int .i64 31, .int .i64 32, .int .i64 33, .int .i64 36, .int .i64 37, .int .i64 30, .int .i64 34, .int .i64 35]) w := fun _ => by kernel_rfl
  have hXb : 0 ≤ X ∧ X ≤ 4294967295 := hX ▸ ldV_bd hG _ _
  have HX := Lib.hid hX; clear hX
  have HC := Lib.hid hc; clear hc
  have HD := Lib.hid hd; clear hd
  have E0 := Lib.hid e0; have E1 := Lib.hid e1; have E2 := Lib.hid e2; have E3 := Lib.hid e3; have E4 := Lib.hid e4; clear e0 e1 e2 e3 e4
  have hp := hG.pc
  have a0 := getX_bd hG r1
  have b0 := getX_bd hG r2
  have G1 := Lib.hid (getX_reg hG h1)
  have G2 := Lib.hid (getX_reg hG h2)
  have kp := hH.pc
  go_enter Try.func15, Try.ntmps15
  go_wp2_with (first | (go_at_call 42; refine (ref_Load _ hb mb S hH hG S.pc 4 hp.1 hp.2 (by decide) (by decide)).mono ?_; rw [HC.out, ← HX.out]; rintro e w1 ⟨rfl, rfl⟩) | (go_at_call 43; refine (ref_Dec X hXb.1 (by omega) _).mono ?_; rw [HD.out, E0.out, E1.out, E2.out, E3.out, E4.out]; rintro e w2 ⟨rfl, hB⟩; have HB := Lib.hid hB; clear hB))
  obtain ⟨W, hW⟩ : ∃ W, W = w2.alloc (.cells #[.int .i64 op, .int .i64 rd, .int .i64 r1, .int .i64 r2, .int .i32 n] 79) := ⟨_, rfl⟩
  rw [← hW]
  have K5 := Lib.hid (W5.new hW)
  obtain ⟨k0, k1, k2, k3, k4⟩ := K5.out
  have hHW : RefAt W hb mb S := hW ▸ (hH.below HB.out).alloc _
  have hT : Turn (Own hb mb) w W := hW ▸ ((Turn.of_below HB.out).alloc _)
  have hz : w2.heap.size < W.heap.size := by rw [hW]; simp
  have m1 : W.cell? ⟨hb, r1.toNat, none⟩ = some (.int .u32 (getX S r1)) := by rw [G1.out]; exact hHW.reg (by omega)
  have m2 : W.cell? ⟨hb, r2.toNat, none⟩ = some (.int .u32 (getX S r2)) := by rw [G2.out]; exact hHW.reg (by omega)
  have l1 := hH.h.lt
  have l2 := hH.m.lt
  have l3 := HB.out.size
  have HW := Lib.hid hW; clear hW kp
  go_quiet (fail)
  rename_i nq _
  obtain ⟨V, hV⟩ : ∃ V, V = W.drewN nq := ⟨_, rfl⟩
  rw [← hV]
  clear k0 k1 k2 k3 k4
  have K5V : W5 V w2.heap.size op rd r1 r2 n := hV ▸ K5.out.drewN nq
  obtain ⟨k0, k1, k2, k3, k4⟩ := K5V
  replace hHW : RefAt V hb mb S := hV ▸ hHW.drewN nq
  replace hT : Turn (Own hb mb) w V := hV ▸ hT.drewN nq
  replace hz : w2.heap.size < V.heap.size := by rw [hV]; exact hz
  have HV := Lib.hid hV; clear hV m1 m2
  have hpc := hHW.pc
  have hfr := hHW.h.free 32
  have hwy := hHW.why
  have hfw := hHW.h.free 34
  have nh : ¬ Own hb mb w2.heap.size := fun h => by rcases h with h | h <;> omega
  have g0 : (op == 46) = false := by simp; omega
  have g1 : (op == 47) = false := by simp; omega
  have g2 : decide (11 ≤ op) = true := by simp; omega
  have g3 : decide (op ≤ 15) = false := by simp; omega
  have g4 : decide (16 ≤ op) = true := by simp; omega
  have g5 : decide (op ≤ 18) = false := by simp; omega
  have g6 : (op == 3) = false := by simp; omega
  have g7 : (op == 4) = false := by simp; omega
  have g8 : decide (5 ≤ op) = true := by simp; omega
  have g9 : decide (op ≤ 10) = false := by simp; omega
  have g10 : (op == 1) = false := by simp; omega
  have g11 : (op == 2) = false := by simp; omega
  have g12 : decide (19 ≤ op) = true := by simp; omega
  have g13 : decide (op ≤ 27) = true := by simp; omega
  have hio := imOp_bd (op - 19)
  have hk9 : op = 19 ∨ op = 20 ∨ op = 21 ∨ op = 22 ∨ op = 23 ∨ op = 24 ∨ op = 25 ∨ op = 26 ∨ op = 27 := by omega
  go_wp2_with fail
  obtain ⟨Y, hY⟩ : ∃ Y, Y = V.alloc (.cells #[.int .i64 28, .int .i64 31, .int .i64 32, .int .i64 33, .int .i64 36, .int .i64 37, .int .i64 30, .int .i64 34, .int .i64 35] 88) := ⟨_, rfl⟩
  rw [← hY]
  have y0 : Y.cell? ⟨w2.heap.size, 0, none⟩ = some (.int .i64 op) := by rw [hY, World.cell?_alloc_lt _ _ _ hz]; exact k0
  have y1 : Y.cell? ⟨w2.heap.size, 1, none⟩ = some (.int .i64 rd) := by rw [hY, World.cell?_alloc_lt _ _ _ hz]; exact k1
  have y2 : Y.cell? ⟨V.heap.size, (op - 19).toNat, none⟩ = some (.int .i64 (imOp (op - 19))) := by
    rw [hY, World.cell?_alloc_new]
    clear hY
    rcases hk9 with h | h | h | h | h | h | h | h | h <;> rw [h] <;> rfl
  replace hHW : RefAt Y hb mb S := hY ▸ hHW.alloc _
  replace hT : Turn (Own hb mb) w Y := hY ▸ hT.alloc _
  have hzY : w2.heap.size < Y.heap.size := by rw [hY, World.size_alloc]; omega
  have hzV : V.heap.size < Y.heap.size := by rw [hY, World.size_alloc]; omega
  have nv : ¬ Own hb mb V.heap.size := fun h => by rcases h with h | h <;> omega
  have HY := Lib.hid hY; clear hY hpc hfr hwy hfw k0 k1 k2 k3 k4
  have K := Lib.hid (⟨y0, y1, y2⟩ : (Y.cell? ⟨w2.heap.size, 0, none⟩ = some (.int .i64 op) ∧ Y.cell? ⟨w2.heap.size, 1, none⟩ = some (.int .i64 rd) ∧ Y.cell? ⟨V.heap.size, (op - 19).toNat, none⟩ = some (.int .i64 (imOp (op - 19)))))
  have es := IntWalk.i64_in (op - 19) (by omega)
  have HK9 := Lib.hid hk9; clear hk9
  refine wp_region_held_drew (S := fun w' => (w'.cell? ⟨w2.heap.size, 0, none⟩ = some (.int .i64 op) ∧ w'.cell? ⟨w2.heap.size, 1, none⟩ = some (.int .i64 rd) ∧ w'.cell? ⟨V.heap.size, (op - 19).toNat, none⟩ = some (.int .i64 (imOp (op - 19))))) (by kernel_rfl) K.out (fun hHeld => ?_)
  refine wpAnyH_take (i := 0) (v := .pointer (some ⟨hb, 0, none⟩)) rfl (by kernel_rfl) (by kernel_rfl) (by kernel_rfl) (fun _ _ _ h => h) (Or.inl ⟨by rfl, ?_⟩) (by assumption) ?_
  · intro w' hSw; obtain ⟨s0, s1, s4⟩ := hSw; clear hHeld; go_simp
  try simp only [Act.put, List.setIfInBounds_toArray, List.set_cons_zero, List.set_cons_succ]
  refine wpAnyH_take (i := 1) (v := .pointer (some ⟨w2.heap.size, 1, none⟩)) rfl (by kernel_rfl) (by kernel_rfl) (by kernel_rfl) (fun _ _ _ h => h) (Or.inl ⟨by rfl, ?_⟩) (by assumption) ?_
  · intro w' hSw; obtain ⟨s0, s1, s4⟩ := hSw; clear hHeld; go_simp
  try simp only [Act.put, List.setIfInBounds_toArray, List.set_cons_zero, List.set_cons_succ]
  refine wpAnyH_take (i := 2) (v := .int .i64 rd) rfl (by kernel_rfl) (by kernel_rfl) (by kernel_rfl) (fun _ _ _ h => h) (Or.inl ⟨by rfl, ?_⟩) (by assumption) ?_
  · intro w' hSw; obtain ⟨s0, s1, s4⟩ := hSw; clear hHeld; go_simp
  try simp only [Act.put, List.setIfInBounds_toArray, List.set_cons_zero, List.set_cons_succ]
  refine wpAnyH_take (i := 3) (v := .pointer (some ⟨w2.heap.size, 0, none⟩)) rfl (by kernel_rfl) (by kernel_rfl) (by kernel_rfl) (fun _ _ _ h => h) (Or.inl ⟨by rfl, ?_⟩) (by assumption) ?_
  · intro w' hSw; obtain ⟨s0, s1, s4⟩ := hSw; clear hHeld; go_simp
  try simp only [Act.put, List.setIfInBounds_toArray, List.set_cons_zero, List.set_cons_succ]
  refine wpAnyH_take (i := 4) (v := .int .i64 op) rfl (by kernel_rfl) (by kernel_rfl) (by kernel_rfl) (fun _ _ _ h => h) (Or.inl ⟨by rfl, ?_⟩) (by assumption) ?_
  · intro w' hSw; obtain ⟨s0, s1, s4⟩ := hSw; clear hHeld; go_simp
  try simp only [Act.put, List.setIfInBounds_toArray, List.set_cons_zero, List.set_cons_succ]
  refine wpAnyH_take (i := 5) (v := .int .i64 (op - 19)) rfl (by kernel_rfl) (by kernel_rfl) (by kernel_rfl) (fun _ _ _ h => h) (Or.inl ⟨by rfl, ?_⟩) (by assumption) ?_
  · intro w' hSw; obtain ⟨s0, s1, s4⟩ := hSw; clear hHeld; go_simp
  try simp only [Act.put, List.setIfInBounds_toArray, List.set_cons_zero, List.set_cons_succ]
  refine wpAnyH_take (i := 6) (v := .pointer (some ⟨V.heap.size, (op - 19).toNat, none⟩)) rfl (by kernel_rfl) (by kernel_rfl) (by kernel_rfl) (fun _ _ _ h => h) (Or.inl ⟨by rfl, ?_⟩) (by assumption) ?_
  · intro w' hSw; clear hSw hHeld; rcases HK9.out with rfl | rfl | rfl | rfl | rfl | rfl | rfl | rfl | rfl <;> kernel_rfl
  try simp only [Act.put, List.setIfInBounds_toArray, List.set_cons_zero, List.set_cons_succ]
  refine wpAnyH_take (i := 7) (v := .int .i64 (imOp (op - 19))) rfl (by kernel_rfl) (by kernel_rfl) (by kernel_rfl) (fun _ _ _ h => h) (Or.inl ⟨by rfl, ?_⟩) (by assumption) ?_
  · intro w' hSw; obtain ⟨s0, s1, s4⟩ := hSw; clear hHeld; go_simp
  try simp only [Act.put, List.setIfInBounds_toArray, List.set_cons_zero, List.set_cons_succ]
  refine wpAnyH_take (i := 8) (v := .int .u32 (getX S r1)) rfl (by kernel_rfl) (by kernel_rfl) (by kernel_rfl) (fun _ _ _ h => h) (Or.inl ⟨by rfl, ?_⟩) (by assumption) ?_
  · intro w' hSw; obtain ⟨s0, s1, s4⟩ := hSw; clear hHeld; go_simp
  try simp only [Act.put, List.setIfInBounds_toArray, List.set_cons_zero, List.set_cons_succ]
  refine wpAnyH_take (i := 9) (v := .int .u32 (n % 4294967296)) rfl (by kernel_rfl) (by kernel_rfl) (by kernel_rfl) (fun _ _ _ h => h) (Or.inl ⟨by rfl, ?_⟩) (by assumption) ?_
  · intro w' hSw; obtain ⟨s0, s1, s4⟩ := hSw; clear hHeld; go_simp
  try simp only [Act.put, List.setIfInBounds_toArray, List.set_cons_zero, List.set_cons_succ]
  refine wpAnyH_ready (rs := [10]) (by kernel_rfl) (by simp) ?_
  refine AllReadyH.cons (o := _) rfl (fun K' hK => ?_) AllReadyH.nil
  go_simp
  refine (ref_Alu (imOp (op - 19)) (getX S r1) (n % 4294967296) (has_i64.2 (by omega)) (has_u32.2 (by omega)) (has_u32.2 (by omega)) _).mono ?_
  rintro e w3 ⟨rfl, hB⟩
  have K1 := (⟨(hB.cell (p := ⟨w2.heap.size, 0, none⟩) hzY).trans K.out.1, (hB.cell (p := ⟨w2.heap.size, 1, none⟩) hzY).trans K.out.2.1, (hB.cell (p := ⟨V.heap.size, (op - 19).toNat, none⟩) hzV).trans K.out.2.2⟩ : (w3.cell? ⟨w2.heap.size, 0, none⟩ = some (.int .i64 op) ∧ w3.cell? ⟨w2.heap.size, 1, none⟩ = some (.int .i64 rd) ∧ w3.cell? ⟨V.heap.size, (op - 19).toNat, none⟩ = some (.int .i64 (imOp (op - 19)))))
  have hz3 : w2.heap.size < w3.heap.size := Nat.lt_of_lt_of_le hzY hB.size
  have hz4 : V.heap.size < w3.heap.size := Nat.lt_of_lt_of_le hzV hB.size
  have hH3 := hHW.drew.below hB
  have hT3 := hT.drew.trans (Turn.of_below (p := Own hb mb) hB)
  have HB3 := Lib.hid hB
  clear hB
  refine hK.out _ _ K1 (fun hHeld2 => ?_)
  clear hK K'
  try simp only [Act.put, List.setIfInBounds_toArray, List.set_cons_zero, List.set_cons_succ]
  refine wpAnyH_ready (rs := [11]) (by kernel_rfl) (by simp) ?_
  refine AllReadyH.cons (o := _) rfl (fun K' hK => ?_) AllReadyH.nil
  go_simp
  refine (ref_set _ hb mb S hH3 rd _ hr.1 hr.2).mono ?_
  rintro e w4 ⟨rfl, hM⟩
  have K2 := (⟨(hM.turn.cell (i := 0) hz3 nh).trans K1.1, (hM.turn.cell (i := 1) hz3 nh).trans K1.2.1, (hM.turn.cell (i := (op - 19).toNat) hz4 nv).trans K1.2.2⟩ : (w4.cell? ⟨w2.heap.size, 0, none⟩ = some (.int .i64 op) ∧ w4.cell? ⟨w2.heap.size, 1, none⟩ = some (.int .i64 rd) ∧ w4.cell? ⟨V.heap.size, (op - 19).toNat, none⟩ = some (.int .i64 (imOp (op - 19)))))
  have c1 := hM.at_.pc
  have c2 := hM.at_.h.free 32
  have HM := Lib.hid hM
  clear hM
  refine hK.out _ _ K2 (fun hHeld3 => ?_)
  clear hK K'
  try simp only [Act.put, List.setIfInBounds_toArray, List.set_cons_zero, List.set_cons_succ]
  refine wpAnyH_done (by kernel_rfl) ?_ _
  go_wp2_with fail
  go_ret
  exact ⟨rfl, by unfold nxt; simpa using HM.out.at_.setPC _, (hT3.trans HM.out.turn).set (Or.inl rfl) _⟩

theorem rd4 (m : Nat → Int) (a : Nat) : rdM m a 4 = m a + 256 * m (a + 1) + 65536 * m (a + 2) + 16777216 * m (a + 3) := rfl

theorem putX_m (S : HS) (i v : Int) : (putX S i v).m = S.m := by unfold putX; split <;> rfl

theorem putX_x (S : HS) (i v : Int) : (putX S i v).x = if 1 ≤ i ∧ i < 32 then upd S.x i.toNat v else S.x := by unfold putX; split <;> rfl

theorem stM_x (S : HS) (a n v : Int) : (stM S a n v).x = S.x := by unfold stM; split <;> rfl

theorem stM_pc (S : HS) (a n v : Int) : (stM S a n v).pc = S.pc := by unfold stM; split <;> rfl

theorem ldV_m {S T : HS} (h : S.m = T.m) (a n : Int) : ldV S a n = ldV T a n := by unfold ldV; rw [h]

theorem getX_x {S T : HS} (h : S.x = T.x) (i : Int) : getX S i = getX T i := by unfold getX; rw [h]

theorem ld_st4 (S : HS) {a v : Int} (ha : 0 ≤ a) (hc : canB a 4 = true) (h0 : 0 ≤ v) (h1 : v < 4294967296) : ldV (stM S a 4 v) a 4 = v := by
  unfold ldV stM
  rw [if_pos hc, if_pos hc]
  show rdM (wrM S.m a.toNat 4 v) a.toNat 4 = v
  rw [rd4]
  unfold wrM
  rw [if_pos (by omega), if_pos (by omega), if_pos (by omega), if_pos (by omega)]
  rw [show a.toNat - a.toNat = 0 by omega, show a.toNat + 1 - a.toNat = 1 by omega, show a.toNat + 2 - a.toNat = 2 by omega, show a.toNat + 3 - a.toNat = 3 by omega]
  show v / 1 % 256 + 256 * (v / 256 % 256) + 65536 * (v / 65536 % 256) + 16777216 * (v / 16777216 % 256) = v
  omega

theorem ld_st_ne (S : HS) {a b v : Int} (ha : 0 ≤ a) (hb : 0 ≤ b) (hc : canB a 4 = true) (hd : canB b 4 = true) (hab : a ≠ b) : ldV (stM S a 4 v) b 4 = ldV S b 4 := by
  have k1 := (canB_iff a 4).1 hc
  have k2 := (canB_iff b 4).1 hd
  unfold ldV stM
  rw [if_pos hd, if_pos hd, if_pos hc]
  show rdM (wrM S.m a.toNat 4 v) b.toNat 4 = rdM S.m b.toNat 4
  rw [rd4, rd4]
  unfold wrM
  have e : ∀ j : Nat, j < 4 → ¬ (a.toNat ≤ b.toNat + j ∧ b.toNat + j < a.toNat + 4) := fun j hj => by omega
  rw [if_neg (by have := e 0 (by omega); simpa using this), if_neg (e 1 (by omega)), if_neg (e 2 (by omega)), if_neg (e 3 (by omega))]

end Go.Proofs.Ytndfcpkmchjncaa
