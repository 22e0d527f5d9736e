/-
  Texts of this claim, laid together by a program: HrL HrS HrT.
-/
import Derived.Test.YtpclikbjpjoccaaM6
import Derived.Test.YtpclikbjpjoccaaR1
import Derived.Test.YtpclikbjpjoccaaRfE
namespace Go.Proofs.Ytpclikbjpjoccaa
open Go Go.RowKit Go.Sx
set_option linter.unusedVariables false
set_option linter.unusedSimpArgs false
theorem getX_reg {S : HS} (hG : Good S) {r : Int} (h : 0 ≤ r ∧ r < 32) : getX S r = S.x r.toNat := by
  unfold getX
  by_cases h0 : r = 0
  · subst h0; rw [if_neg (by omega)]; exact hG.zero.symm
  · rw [if_pos (by omega)]
theorem putX_pc (S : HS) (i v : Int) : (putX S i v).pc = S.pc := by unfold putX; split <;> rfl
theorem RefAt.below {w w' : World} {hb mb : Nat} {S : HS} (k : RefAt w hb mb S) (h : Below w.heap.size w w') : RefAt w' hb mb S := k.keep (p := fun _ => False) (Turn.of_below h) id id
set_option maxHeartbeats 1000000 in
set_option maxRecDepth 20000 in
theorem ref_load (w : World) (hb mb : Nat) (S : HS) (hH : RefAt w hb mb S) (hG : Good S) (op rd r1 r2 n a : Int) (ho : 11 ≤ op ∧ op ≤ 15) (hd : 0 ≤ rd ∧ rd < 32) (h0 : 0 ≤ a) (h1 : a ≤ 4294967295) (hc : canB a (lsz op) = true) :
    Calls Try.prog 44 #[.pointer (some ⟨hb, 0, none⟩), .agg #[.int .i64 op, .int .i64 rd, .int .i64 r1, .int .i64 r2, .int .i32 n], .int .u32 a] w fun e w' => e = .returned (.int .i64 0) ∧ MakesR w hb mb ((putX S rd (lvl S op a)).setPC (nxt S)) w' := by
  have hL := ldV_bd hG a (lsz op)
  have hp := hG.pc
  obtain ⟨L, hLe⟩ : ∃ L, L = ldV S a (lsz op) := ⟨_, rfl⟩
  have HV : Hid (lvl S op a = if op ≤ 13 then sgn L (8 * lsz op) % 4294967296 else L) := Lib.hid (by unfold lvl; rw [hLe])
  rw [← hLe] at hL
  have H32 : Hid (sgn L 32 % 4294967296 = L) := Lib.hid (by rw [sgn_32]; omega)
  have HC := Lib.hid hc; clear hc
  have HLe := Lib.hid hLe; clear hLe
  have hop : op = 11 ∨ op = 12 ∨ op = 13 ∨ op = 14 ∨ op = 15 := by omega
  clear ho
  have ib : ∀ w, (Instr.build 109 #[(0, .int .i64 1), (1, .int .i64 2), (2, .int .i64 4), (3, .int .i64 1), (4, .int .i64 2)]).run Try.prog w = .ok (.agg #[.int .i64 1, .int .i64 2, .int .i64 4, .int .i64 1, .int .i64 2]) w := fun _ => by kernel_rfl
  have i0 : ∀ w, (Instr.index 109 (.agg #[.int .i64 1, .int .i64 2, .int .i64 4, .int .i64 1, .int .i64 2]) (.int .i64 0)).run Try.prog w = .ok (.int .i64 1) w := fun _ => by kernel_rfl
  have i1 : ∀ w, (Instr.index 109 (.agg #[.int .i64 1, .int .i64 2, .int .i64 4, .int .i64 1, .int .i64 2]) (.int .i64 1)).run Try.prog w = .ok (.int .i64 2) w := fun _ => by kernel_rfl
  have i2 : ∀ w, (Instr.index 109 (.agg #[.int .i64 1, .int .i64 2, .int .i64 4, .int .i64 1, .int .i64 2]) (.int .i64 2)).run Try.prog w = .ok (.int .i64 4) w := fun _ => by kernel_rfl
  have i3 : ∀ w, (Instr.index 109 (.agg #[.int .i64 1, .int .i64 2, .int .i64 4, .int .i64 1, .int .i64 2]) (.int .i64 3)).run Try.prog w = .ok (.int .i64 1) w := fun _ => by kernel_rfl
  have i4 : ∀ w, (Instr.index 109 (.agg #[.int .i64 1, .int .i64 2, .int .i64 4, .int .i64 1, .int .i64 2]) (.int .i64 4)).run Try.prog w = .ok (.int .i64 2) w := fun _ => by kernel_rfl
  rcases hop with rfl | rfl | rfl | rfl | rfl
  all_goals
    simp only [lsz, Int.reduceEq, or_false, false_or, or_true, true_or, or_self, if_true, if_false, Int.reduceLE, Int.reduceMul] at HC HLe HV
    go_enter Try.func44, Try.ntmps44
    go_wp2_with (first | (go_at_call 16; refine (ref_Load _ hb mb S (hH.alloc _) hG a _ h0 h1 (by decide) (by decide)).mono ?_; rw [HC.out, ← HLe.out]; rintro e w1 ⟨rfl, rfl⟩) | (go_at_call 67; refine (ref1_Signed L _ hL.1 (by omega) _).mono ?_; rintro e w' ⟨rfl, rfl⟩) | (go_at_call 45; refine (ref_set _ hb mb S (hH.alloc _) rd _ hd.1 hd.2).mono ?_; rintro e w2 ⟨rfl, hM⟩; have c1 : w2.cell? ⟨hb, 32, none⟩ = some (.int .u32 S.pc) := (by rw [hM.at_.pc, putX_pc]); have c2 := hM.at_.h.free 32; have HM := Lib.hid hM; clear hM))
    go_ret
    exact ⟨rfl, by first | (rw [HV.out, H32.out]; exact HM.out.at_.setPC _) | (rw [HV.out]; exact HM.out.at_.setPC _), (((Turn.refl _ w).alloc _).trans HM.out.turn).set (Or.inl rfl) _⟩
set_option maxHeartbeats 1000000 in
set_option maxRecDepth 20000 in
theorem ref_load_no (w : World) (hb mb : Nat) (S : HS) (hH : RefAt w hb mb S) (hG : Good S) (op rd r1 r2 n a : Int) (ho : 11 ≤ op ∧ op ≤ 15) (h0 : 0 ≤ a) (h1 : a ≤ 4294967295) (hc : canB a (lsz op) = false) :
    Calls Try.prog 44 #[.pointer (some ⟨hb, 0, none⟩), .agg #[.int .i64 op, .int .i64 rd, .int .i64 r1, .int .i64 r2, .int .i32 n], .int .u32 a] w fun e w' => e = .returned (.int .i64 3) ∧ MakesR w hb mb (S.setWhy a) w' := by
  have hw : ∀ o, (w.alloc o).cell? ⟨hb, 34, none⟩ = some (.int .u32 S.why) := fun o => (hH.alloc o).why
  have hf : ∀ o, (w.alloc o).frozen? ⟨hb, 34, none⟩ = false := fun o => (hH.alloc o).h.free 34
  have HC := Lib.hid hc; clear hc
  have hop : op = 11 ∨ op = 12 ∨ op = 13 ∨ op = 14 ∨ op = 15 := by omega
  clear ho
  have ib : ∀ w, (Instr.build 109 #[(0, .int .i64 1), (1, .int .i64 2), (2, .int .i64 4), (3, .int .i64 1), (4, .int .i64 2)]).run Try.prog w = .ok (.agg #[.int .i64 1, .int .i64 2, .int .i64 4, .int .i64 1, .int .i64 2]) w := fun _ => by kernel_rfl
  have i0 : ∀ w, (Instr.index 109 (.agg #[.int .i64 1, .int .i64 2, .int .i64 4, .int .i64 1, .int .i64 2]) (.int .i64 0)).run Try.prog w = .ok (.int .i64 1) w := fun _ => by kernel_rfl
  have i1 : ∀ w, (Instr.index 109 (.agg #[.int .i64 1, .int .i64 2, .int .i64 4, .int .i64 1, .int .i64 2]) (.int .i64 1)).run Try.prog w = .ok (.int .i64 2) w := fun _ => by kernel_rfl
  have i2 : ∀ w, (Instr.index 109 (.agg #[.int .i64 1, .int .i64 2, .int .i64 4, .int .i64 1, .int .i64 2]) (.int .i64 2)).run Try.prog w = .ok (.int .i64 4) w := fun _ => by kernel_rfl
  have i3 : ∀ w, (Instr.index 109 (.agg #[.int .i64 1, .int .i64 2, .int .i64 4, .int .i64 1, .int .i64 2]) (.int .i64 3)).run Try.prog w = .ok (.int .i64 1) w := fun _ => by kernel_rfl
  have i4 : ∀ w, (Instr.index 109 (.agg #[.int .i64 1, .int .i64 2, .int .i64 4, .int .i64 1, .int .i64 2]) (.int .i64 4)).run Try.prog w = .ok (.int .i64 2) w := fun _ => by kernel_rfl
  rcases hop with rfl | rfl | rfl | rfl | rfl
  all_goals
    simp only [lsz, Int.reduceEq, or_false, false_or, or_true, true_or, or_self, if_true, if_false, Int.reduceLE, Int.reduceMul] at HC
    go_enter Try.func44, Try.ntmps44
    go_wp2_with (first | (go_at_call 16; refine (ref_Load _ hb mb S (hH.alloc _) hG a _ h0 h1 (by decide) (by decide)).mono ?_; rw [HC.out]; rintro e w1 ⟨rfl, rfl⟩))
    go_ret
    exact ⟨rfl, (hH.alloc _).setWhy a, ((Turn.refl _ w).alloc _).set (Or.inl rfl) _⟩
theorem ref_Dec (x : Int) (h0 : 0 ≤ x) (h1 : x < 4294967296) (w : World) :
    Calls Try.prog 43 #[.int .u32 x] w fun e w' => e = .returned (.tuple #[.agg #[.int .i64 (rvDec_0 x), .int .i64 (rvDec_1 x), .int .i64 (rvDec_2 x), .int .i64 (rvDec_3 x), .int .i32 (rvDec_4 x)], .bool (rvDec_5 x)]) ∧ RowKit.Below w.heap.size w w' := by
  have h := ref_Decode x (has_u32.2 ⟨h0, h1⟩) w
  obtain ⟨e5, e0, e1, e2, e3, e4⟩ := dec_same h0 h1
  rw [e5, e0, e1, e2, e3, e4] at h
  exact h
end Go.Proofs.Ytpclikbjpjoccaa
namespace Go.Proofs.Ytpclikbjpjoccaa
open Go Go.RowKit Go.Sx
set_option linter.unusedVariables false
set_option linter.unusedSimpArgs false
set_option maxHeartbeats 2000000 in
set_option maxRecDepth 100000 in
theorem rs_ecall (w : World) (hb mb : Nat) (S : HS) (hH : RefAt w hb mb S) (hG : Good S) (hc : canB S.pc 4 = true) (X : Int) (hX : X = ldV S S.pc 4) (hd : rvDec_5 X = true) (rd r1 r2 n : Int) (e0 : rvDec_0 X = 46) (e1 : rvDec_1 X = rd) (e2 : rvDec_2 X = r1) (e3 : rvDec_3 X = r2) (e4 : rvDec_4 X = n) (hr : 0 ≤ rd ∧ rd < 32) (h1 : 0 ≤ r1 ∧ r1 < 32) (h2 : 0 ≤ r2 ∧ r2 < 32) (hn : -2147483648 ≤ n ∧ n ≤ 2147483647) :
    Calls Try.prog 26 #[.pointer (some ⟨hb, 0, none⟩)] w fun e w' => e = .returned (.int .i64 1) ∧ MakesR w hb mb (S.setPC (nxt S)) w' := by
  have hXb : 0 ≤ X ∧ X ≤ 4294967295 := hX ▸ ldV_bd hG _ _
  have HX := Lib.hid hX; clear hX
  have HC := Lib.hid hc; clear hc
  have HD := Lib.hid hd; clear hd
  have E0 := Lib.hid e0; have E1 := Lib.hid e1; have E2 := Lib.hid e2; have E3 := Lib.hid e3; have E4 := Lib.hid e4; clear e0 e1 e2 e3 e4
  have hp := hG.pc
  have a0 := getX_bd hG r1
  have b0 := getX_bd hG r2
  have G1 := Lib.hid (getX_reg hG h1)
  have G2 := Lib.hid (getX_reg hG h2)
  have kp := hH.pc
  go_enter Try.func26, Try.ntmps26
  go_wp2_with (first | (go_at_call 16; refine (ref_Load _ hb mb S hH hG S.pc 4 hp.1 hp.2 (by decide) (by decide)).mono ?_; rw [HC.out, ← HX.out]; rintro e w1 ⟨rfl, rfl⟩) | (go_at_call 43; refine (ref_Dec X hXb.1 (by omega) _).mono ?_; rw [HD.out, E0.out, E1.out, E2.out, E3.out, E4.out]; rintro e w2 ⟨rfl, hB⟩; have HB := Lib.hid hB; clear hB))
  obtain ⟨W, hW⟩ : ∃ W, W = w2.alloc (.cells #[.int .i64 46, .int .i64 rd, .int .i64 r1, .int .i64 r2, .int .i32 n] 39) := ⟨_, rfl⟩
  rw [← hW]
  have K5 := Lib.hid (W5.new hW)
  obtain ⟨k0, k1, k2, k3, k4⟩ := K5.out
  have hHW : RefAt W hb mb S := hW ▸ (hH.below HB.out).alloc _
  have hT : Turn (Own hb mb) w W := hW ▸ ((Turn.of_below HB.out).alloc _)
  have hz : w2.heap.size < W.heap.size := by rw [hW]; simp
  have m1 : W.cell? ⟨hb, r1.toNat, none⟩ = some (.int .u32 (getX S r1)) := by rw [G1.out]; exact hHW.reg (by omega)
  have m2 : W.cell? ⟨hb, r2.toNat, none⟩ = some (.int .u32 (getX S r2)) := by rw [G2.out]; exact hHW.reg (by omega)
  have l1 := hH.h.lt
  have l2 := hH.m.lt
  have l3 := HB.out.size
  have HW := Lib.hid hW; clear hW kp
  go_quiet (fail)
  rename_i nq _
  obtain ⟨V, hV⟩ : ∃ V, V = W.drewN nq := ⟨_, rfl⟩
  rw [← hV]
  clear k0 k1 k2 k3 k4
  have K5V : W5 V w2.heap.size 46 rd r1 r2 n := hV ▸ K5.out.drewN nq
  obtain ⟨k0, k1, k2, k3, k4⟩ := K5V
  replace hHW : RefAt V hb mb S := hV ▸ hHW.drewN nq
  replace hT : Turn (Own hb mb) w V := hV ▸ hT.drewN nq
  replace hz : w2.heap.size < V.heap.size := by rw [hV]; exact hz
  have HV := Lib.hid hV; clear hV m1 m2
  have hpc := hHW.pc
  have hfr := hHW.h.free 32
  have hwy := hHW.why
  have hfw := hHW.h.free 34
  have nh : ¬ Own hb mb w2.heap.size := fun h => by rcases h with h | h <;> omega
  go_wp2_with fail
  go_ret
  exact ⟨rfl, hHW.setPC _, hT.set (Or.inl rfl) _⟩
set_option maxHeartbeats 2000000 in
set_option maxRecDepth 100000 in
theorem rs_ebreak (w : World) (hb mb : Nat) (S : HS) (hH : RefAt w hb mb S) (hG : Good S) (hc : canB S.pc 4 = true) (X : Int) (hX : X = ldV S S.pc 4) (hd : rvDec_5 X = true) (rd r1 r2 n : Int) (e0 : rvDec_0 X = 47) (e1 : rvDec_1 X = rd) (e2 : rvDec_2 X = r1) (e3 : rvDec_3 X = r2) (e4 : rvDec_4 X = n) (hr : 0 ≤ rd ∧ rd < 32) (h1 : 0 ≤ r1 ∧ r1 < 32) (h2 : 0 ≤ r2 ∧ r2 < 32) (hn : -2147483648 ≤ n ∧ n ≤ 2147483647) :
    Calls Try.prog 26 #[.pointer (some ⟨hb, 0, none⟩)] w fun e w' => e = .returned (.int .i64 2) ∧ MakesR w hb mb (S.setPC (nxt S)) w' := by
  have hXb : 0 ≤ X ∧ X ≤ 4294967295 := hX ▸ ldV_bd hG _ _
  have HX := Lib.hid hX; clear hX
  have HC := Lib.hid hc; clear hc
  have HD := Lib.hid hd; clear hd
  have E0 := Lib.hid e0; have E1 := Lib.hid e1; have E2 := Lib.hid e2; have E3 := Lib.hid e3; have E4 := Lib.hid e4; clear e0 e1 e2 e3 e4
  have hp := hG.pc
  have a0 := getX_bd hG r1
  have b0 := getX_bd hG r2
  have G1 := Lib.hid (getX_reg hG h1)
  have G2 := Lib.hid (getX_reg hG h2)
  have kp := hH.pc
  go_enter Try.func26, Try.ntmps26
  go_wp2_with (first | (go_at_call 16; refine (ref_Load _ hb mb S hH hG S.pc 4 hp.1 hp.2 (by decide) (by decide)).mono ?_; rw [HC.out, ← HX.out]; rintro e w1 ⟨rfl, rfl⟩) | (go_at_call 43; refine (ref_Dec X hXb.1 (by omega) _).mono ?_; rw [HD.out, E0.out, E1.out, E2.out, E3.out, E4.out]; rintro e w2 ⟨rfl, hB⟩; have HB := Lib.hid hB; clear hB))
  obtain ⟨W, hW⟩ : ∃ W, W = w2.alloc (.cells #[.int .i64 47, .int .i64 rd, .int .i64 r1, .int .i64 r2, .int .i32 n] 39) := ⟨_, rfl⟩
  rw [← hW]
  have K5 := Lib.hid (W5.new hW)
  obtain ⟨k0, k1, k2, k3, k4⟩ := K5.out
  have hHW : RefAt W hb mb S := hW ▸ (hH.below HB.out).alloc _
  have hT : Turn (Own hb mb) w W := hW ▸ ((Turn.of_below HB.out).alloc _)
  have hz : w2.heap.size < W.heap.size := by rw [hW]; simp
  have m1 : W.cell? ⟨hb, r1.toNat, none⟩ = some (.int .u32 (getX S r1)) := by rw [G1.out]; exact hHW.reg (by omega)
  have m2 : W.cell? ⟨hb, r2.toNat, none⟩ = some (.int .u32 (getX S r2)) := by rw [G2.out]; exact hHW.reg (by omega)
  have l1 := hH.h.lt
  have l2 := hH.m.lt
  have l3 := HB.out.size
  have HW := Lib.hid hW; clear hW kp
  go_quiet (fail)
  rename_i nq _
  obtain ⟨V, hV⟩ : ∃ V, V = W.drewN nq := ⟨_, rfl⟩
  rw [← hV]
  clear k0 k1 k2 k3 k4
  have K5V : W5 V w2.heap.size 47 rd r1 r2 n := hV ▸ K5.out.drewN nq
  obtain ⟨k0, k1, k2, k3, k4⟩ := K5V
  replace hHW : RefAt V hb mb S := hV ▸ hHW.drewN nq
  replace hT : Turn (Own hb mb) w V := hV ▸ hT.drewN nq
  replace hz : w2.heap.size < V.heap.size := by rw [hV]; exact hz
  have HV := Lib.hid hV; clear hV m1 m2
  have hpc := hHW.pc
  have hfr := hHW.h.free 32
  have hwy := hHW.why
  have hfw := hHW.h.free 34
  have nh : ¬ Own hb mb w2.heap.size := fun h => by rcases h with h | h <;> omega
  go_wp2_with fail
  go_ret
  exact ⟨rfl, hHW.setPC _, hT.set (Or.inl rfl) _⟩
set_option maxHeartbeats 2000000 in
set_option maxRecDepth 100000 in
theorem rs_load (w : World) (hb mb : Nat) (S : HS) (hH : RefAt w hb mb S) (hG : Good S) (hc : canB S.pc 4 = true) (X : Int) (hX : X = ldV S S.pc 4) (hd : rvDec_5 X = true) (op rd r1 r2 n : Int) (e0 : rvDec_0 X = op) (e1 : rvDec_1 X = rd) (e2 : rvDec_2 X = r1) (e3 : rvDec_3 X = r2) (e4 : rvDec_4 X = n) (hr : 0 ≤ rd ∧ rd < 32) (h1 : 0 ≤ r1 ∧ r1 < 32) (h2 : 0 ≤ r2 ∧ r2 < 32) (hn : -2147483648 ≤ n ∧ n ≤ 2147483647) (ho : 11 ≤ op ∧ op ≤ 15) (hc2 : canB (adr S r1 n) (lsz op) = true) :
    Calls Try.prog 26 #[.pointer (some ⟨hb, 0, none⟩)] w fun e w' => e = .returned (.int .i64 0) ∧ MakesR w hb mb ((putX S rd (lvl S op (adr S r1 n))).setPC (nxt S)) w' := by
  have hXb : 0 ≤ X ∧ X ≤ 4294967295 := hX ▸ ldV_bd hG _ _
  have HX := Lib.hid hX; clear hX
  have HC := Lib.hid hc; clear hc
  have HD := Lib.hid hd; clear hd
  have E0 := Lib.hid e0; have E1 := Lib.hid e1; have E2 := Lib.hid e2; have E3 := Lib.hid e3; have E4 := Lib.hid e4; clear e0 e1 e2 e3 e4
  have hp := hG.pc
  have a0 := getX_bd hG r1
  have b0 := getX_bd hG r2
  have G1 := Lib.hid (getX_reg hG h1)
  have G2 := Lib.hid (getX_reg hG h2)
  have kp := hH.pc
  go_enter Try.func26, Try.ntmps26
  go_wp2_with (first | (go_at_call 16; refine (ref_Load _ hb mb S hH hG S.pc 4 hp.1 hp.2 (by decide) (by decide)).mono ?_; rw [HC.out, ← HX.out]; rintro e w1 ⟨rfl, rfl⟩) | (go_at_call 43; refine (ref_Dec X hXb.1 (by omega) _).mono ?_; rw [HD.out, E0.out, E1.out, E2.out, E3.out, E4.out]; rintro e w2 ⟨rfl, hB⟩; have HB := Lib.hid hB; clear hB))
  obtain ⟨W, hW⟩ : ∃ W, W = w2.alloc (.cells #[.int .i64 op, .int .i64 rd, .int .i64 r1, .int .i64 r2, .int .i32 n] 39) := ⟨_, rfl⟩
  rw [← hW]
  have K5 := Lib.hid (W5.new hW)
  obtain ⟨k0, k1, k2, k3, k4⟩ := K5.out
  have hHW : RefAt W hb mb S := hW ▸ (hH.below HB.out).alloc _
  have hT : Turn (Own hb mb) w W := hW ▸ ((Turn.of_below HB.out).alloc _)
  have hz : w2.heap.size < W.heap.size := by rw [hW]; simp
  have m1 : W.cell? ⟨hb, r1.toNat, none⟩ = some (.int .u32 (getX S r1)) := by rw [G1.out]; exact hHW.reg (by omega)
  have m2 : W.cell? ⟨hb, r2.toNat, none⟩ = some (.int .u32 (getX S r2)) := by rw [G2.out]; exact hHW.reg (by omega)
  have l1 := hH.h.lt
  have l2 := hH.m.lt
  have l3 := HB.out.size
  have HW := Lib.hid hW; clear hW kp
  go_quiet (fail)
  rename_i nq _
  obtain ⟨V, hV⟩ : ∃ V, V = W.drewN nq := ⟨_, rfl⟩
  rw [← hV]
  clear k0 k1 k2 k3 k4
  have K5V : W5 V w2.heap.size op rd r1 r2 n := hV ▸ K5.out.drewN nq
  obtain ⟨k0, k1, k2, k3, k4⟩ := K5V
  replace hHW : RefAt V hb mb S := hV ▸ hHW.drewN nq
  replace hT : Turn (Own hb mb) w V := hV ▸ hT.drewN nq
  replace hz : w2.heap.size < V.heap.size := by rw [hV]; exact hz
  have HV := Lib.hid hV; clear hV m1 m2
  have hpc := hHW.pc
  have hfr := hHW.h.free 32
  have hwy := hHW.why
  have hfw := hHW.h.free 34
  have nh : ¬ Own hb mb w2.heap.size := fun h => by rcases h with h | h <;> omega
  have g0 : (op == 46) = false := by simp; omega
  have g1 : (op == 47) = false := by simp; omega
  have g2 : decide (11 ≤ op) = true := by simp; omega
  have g3 : decide (op ≤ 15) = true := by simp; omega
  have g4 : decide (16 ≤ op) = false := by simp; omega
  have g5 : decide (op ≤ 18) = true := by simp; omega
  have g6 : (op == 3) = false := by simp; omega
  have g7 : (op == 4) = false := by simp; omega
  have g8 : decide (5 ≤ op) = true := by simp; omega
  have g9 : decide (op ≤ 10) = false := by simp; omega
  have g10 : (op == 1) = false := by simp; omega
  have g11 : (op == 2) = false := by simp; omega
  have g12 : decide (19 ≤ op) = false := by simp; omega
  have g13 : decide (op ≤ 27) = true := by simp; omega
  unfold adr at hc2
  go_wp2_with (go_at_call 44; refine (ref_load _ hb mb S hHW hG op rd r1 r2 n _ ho hr (by omega) (by omega) (by first | assumption | (simpa using hc2))).mono ?_; rintro e w3 ⟨rfl, hM⟩; have HM := Lib.hid hM; clear hM)
  go_ret
  exact ⟨rfl, by unfold adr; simpa using HM.out.at_, hT.trans HM.out.turn⟩
set_option maxHeartbeats 2000000 in
set_option maxRecDepth 100000 in
theorem rs_load_no (w : World) (hb mb : Nat) (S : HS) (hH : RefAt w hb mb S) (hG : Good S) (hc : canB S.pc 4 = true) (X : Int) (hX : X = ldV S S.pc 4) (hd : rvDec_5 X = true) (op rd r1 r2 n : Int) (e0 : rvDec_0 X = op) (e1 : rvDec_1 X = rd) (e2 : rvDec_2 X = r1) (e3 : rvDec_3 X = r2) (e4 : rvDec_4 X = n) (hr : 0 ≤ rd ∧ rd < 32) (h1 : 0 ≤ r1 ∧ r1 < 32) (h2 : 0 ≤ r2 ∧ r2 < 32) (hn : -2147483648 ≤ n ∧ n ≤ 2147483647) (ho : 11 ≤ op ∧ op ≤ 15) (hc2 : canB (adr S r1 n) (lsz op) = false) :
    Calls Try.prog 26 #[.pointer (some ⟨hb, 0, none⟩)] w fun e w' => e = .returned (.int .i64 3) ∧ MakesR w hb mb (S.setWhy (adr S r1 n)) w' := by
  have hXb : 0 ≤ X ∧ X ≤ 4294967295 := hX ▸ ldV_bd hG _ _
  have HX := Lib.hid hX; clear hX
  have HC := Lib.hid hc; clear hc
  have HD := Lib.hid hd; clear hd
  have E0 := Lib.hid e0; have E1 := Lib.hid e1; have E2 := Lib.hid e2; have E3 := Lib.hid e3; have E4 := Lib.hid e4; clear e0 e1 e2 e3 e4
  have hp := hG.pc
  have a0 := getX_bd hG r1
  have b0 := getX_bd hG r2
  have G1 := Lib.hid (getX_reg hG h1)
  have G2 := Lib.hid (getX_reg hG h2)
  have kp := hH.pc
  go_enter Try.func26, Try.ntmps26
  go_wp2_with (first | (go_at_call 16; refine (ref_Load _ hb mb S hH hG S.pc 4 hp.1 hp.2 (by decide) (by decide)).mono ?_; rw [HC.out, ← HX.out]; rintro e w1 ⟨rfl, rfl⟩) | (go_at_call 43; refine (ref_Dec X hXb.1 (by omega) _).mono ?_; rw [HD.out, E0.out, E1.out, E2.out, E3.out, E4.out]; rintro e w2 ⟨rfl, hB⟩; have HB := Lib.hid hB; clear hB))
  obtain ⟨W, hW⟩ : ∃ W, W = w2.alloc (.cells #[.int .i64 op, .int .i64 rd, .int .i64 r1, .int .i64 r2, .int .i32 n] 39) := ⟨_, rfl⟩
  rw [← hW]
  have K5 := Lib.hid (W5.new hW)
  obtain ⟨k0, k1, k2, k3, k4⟩ := K5.out
  have hHW : RefAt W hb mb S := hW ▸ (hH.below HB.out).alloc _
  have hT : Turn (Own hb mb) w W := hW ▸ ((Turn.of_below HB.out).alloc _)
  have hz : w2.heap.size < W.heap.size := by rw [hW]; simp
  have m1 : W.cell? ⟨hb, r1.toNat, none⟩ = some (.int .u32 (getX S r1)) := by rw [G1.out]; exact hHW.reg (by omega)
  have m2 : W.cell? ⟨hb, r2.toNat, none⟩ = some (.int .u32 (getX S r2)) := by rw [G2.out]; exact hHW.reg (by omega)
  have l1 := hH.h.lt
  have l2 := hH.m.lt
  have l3 := HB.out.size
  have HW := Lib.hid hW; clear hW kp
  go_quiet (fail)
  rename_i nq _
  obtain ⟨V, hV⟩ : ∃ V, V = W.drewN nq := ⟨_, rfl⟩
  rw [← hV]
  clear k0 k1 k2 k3 k4
  have K5V : W5 V w2.heap.size op rd r1 r2 n := hV ▸ K5.out.drewN nq
  obtain ⟨k0, k1, k2, k3, k4⟩ := K5V
  replace hHW : RefAt V hb mb S := hV ▸ hHW.drewN nq
  replace hT : Turn (Own hb mb) w V := hV ▸ hT.drewN nq
  replace hz : w2.heap.size < V.heap.size := by rw [hV]; exact hz
  have HV := Lib.hid hV; clear hV m1 m2
  have hpc := hHW.pc
  have hfr := hHW.h.free 32
  have hwy := hHW.why
  have hfw := hHW.h.free 34
  have nh : ¬ Own hb mb w2.heap.size := fun h => by rcases h with h | h <;> omega
  have g0 : (op == 46) = false := by simp; omega
  have g1 : (op == 47) = false := by simp; omega
  have g2 : decide (11 ≤ op) = true := by simp; omega
  have g3 : decide (op ≤ 15) = true := by simp; omega
  have g4 : decide (16 ≤ op) = false := by simp; omega
  have g5 : decide (op ≤ 18) = true := by simp; omega
  have g6 : (op == 3) = false := by simp; omega
  have g7 : (op == 4) = false := by simp; omega
  have g8 : decide (5 ≤ op) = true := by simp; omega
  have g9 : decide (op ≤ 10) = false := by simp; omega
  have g10 : (op == 1) = false := by simp; omega
  have g11 : (op == 2) = false := by simp; omega
  have g12 : decide (19 ≤ op) = false := by simp; omega
  have g13 : decide (op ≤ 27) = true := by simp; omega
  unfold adr at hc2
  go_wp2_with (go_at_call 44; refine (ref_load_no _ hb mb S hHW hG op rd r1 r2 n _ ho (by omega) (by omega) (by first | assumption | (simpa using hc2))).mono ?_; rintro e w3 ⟨rfl, hM⟩; have HM := Lib.hid hM; clear hM)
  go_ret
  exact ⟨rfl, by unfold adr; simpa using HM.out.at_, hT.trans HM.out.turn⟩
set_option maxHeartbeats 2000000 in
set_option maxRecDepth 100000 in
theorem rs_store16 (w : World) (hb mb : Nat) (S : HS) (hH : RefAt w hb mb S) (hG : Good S) (hc : canB S.pc 4 = true) (X : Int) (hX : X = ldV S S.pc 4) (hd : rvDec_5 X = true) (rd r1 r2 n : Int) (e0 : rvDec_0 X = 16) (e1 : rvDec_1 X = rd) (e2 : rvDec_2 X = r1) (e3 : rvDec_3 X = r2) (e4 : rvDec_4 X = n) (hr : 0 ≤ rd ∧ rd < 32) (h1 : 0 ≤ r1 ∧ r1 < 32) (h2 : 0 ≤ r2 ∧ r2 < 32) (hn : -2147483648 ≤ n ∧ n ≤ 2147483647) (hc2 : canB (adr S r1 n) 1 = true) :
    Calls Try.prog 26 #[.pointer (some ⟨hb, 0, none⟩)] w fun e w' => e = .returned (.int .i64 0) ∧ MakesR w hb mb ((stM S (adr S r1 n) 1 (getX S r2)).setPC (nxt S)) w' := by
  have ib : ∀ w, (Instr.build 81 #[(0, .int .i64 1), (1, .int .i64 2), (2, .int .i64 4)]).run Try.prog w = .ok (.agg #[.int .i64 1, .int .i64 2, .int .i64 4]) w := fun _ => by kernel_rfl
  have ix : ∀ w, (Instr.index 81 (.agg #[.int .i64 1, .int .i64 2, .int .i64 4]) (.int .i64 0)).run Try.prog w = .ok (.int .i64 1) w := fun _ => by kernel_rfl
  have hXb : 0 ≤ X ∧ X ≤ 4294967295 := hX ▸ ldV_bd hG _ _
  have HX := Lib.hid hX; clear hX
  have HC := Lib.hid hc; clear hc
  have HD := Lib.hid hd; clear hd
  have E0 := Lib.hid e0; have E1 := Lib.hid e1; have E2 := Lib.hid e2; have E3 := Lib.hid e3; have E4 := Lib.hid e4; clear e0 e1 e2 e3 e4
  have hp := hG.pc
  have a0 := getX_bd hG r1
  have b0 := getX_bd hG r2
  have G1 := Lib.hid (getX_reg hG h1)
  have G2 := Lib.hid (getX_reg hG h2)
  have kp := hH.pc
  go_enter Try.func26, Try.ntmps26
  go_wp2_with (first | (go_at_call 16; refine (ref_Load _ hb mb S hH hG S.pc 4 hp.1 hp.2 (by decide) (by decide)).mono ?_; rw [HC.out, ← HX.out]; rintro e w1 ⟨rfl, rfl⟩) | (go_at_call 43; refine (ref_Dec X hXb.1 (by omega) _).mono ?_; rw [HD.out, E0.out, E1.out, E2.out, E3.out, E4.out]; rintro e w2 ⟨rfl, hB⟩; have HB := Lib.hid hB; clear hB))
  obtain ⟨W, hW⟩ : ∃ W, W = w2.alloc (.cells #[.int .i64 16, .int .i64 rd, .int .i64 r1, .int .i64 r2, .int .i32 n] 39) := ⟨_, rfl⟩
  rw [← hW]
  have K5 := Lib.hid (W5.new hW)
  obtain ⟨k0, k1, k2, k3, k4⟩ := K5.out
  have hHW : RefAt W hb mb S := hW ▸ (hH.below HB.out).alloc _
  have hT : Turn (Own hb mb) w W := hW ▸ ((Turn.of_below HB.out).alloc _)
  have hz : w2.heap.size < W.heap.size := by rw [hW]; simp
  have m1 : W.cell? ⟨hb, r1.toNat, none⟩ = some (.int .u32 (getX S r1)) := by rw [G1.out]; exact hHW.reg (by omega)
  have m2 : W.cell? ⟨hb, r2.toNat, none⟩ = some (.int .u32 (getX S r2)) := by rw [G2.out]; exact hHW.reg (by omega)
  have l1 := hH.h.lt
  have l2 := hH.m.lt
  have l3 := HB.out.size
  have HW := Lib.hid hW; clear hW kp
  go_quiet (fail)
  rename_i nq _
  obtain ⟨V, hV⟩ : ∃ V, V = W.drewN nq := ⟨_, rfl⟩
  rw [← hV]
  clear k0 k1 k2 k3 k4
  have K5V : W5 V w2.heap.size 16 rd r1 r2 n := hV ▸ K5.out.drewN nq
  obtain ⟨k0, k1, k2, k3, k4⟩ := K5V
  replace hHW : RefAt V hb mb S := hV ▸ hHW.drewN nq
  replace hT : Turn (Own hb mb) w V := hV ▸ hT.drewN nq
  replace hz : w2.heap.size < V.heap.size := by rw [hV]; exact hz
  have HV := Lib.hid hV; clear hV m1 m2
  have hpc := hHW.pc
  have hfr := hHW.h.free 32
  have hwy := hHW.why
  have hfw := hHW.h.free 34
  have nh : ¬ Own hb mb w2.heap.size := fun h => by rcases h with h | h <;> omega
  unfold adr at hc2
  have HC2 := Lib.hid hc2; clear hc2
  go_wp2_with (go_at_call 14; refine (ref_Store _ hb mb S hHW _ 1 _ (by omega) (by omega) b0.1 b0.2 (by decide) (by decide)).mono ?_; rw [HC2.out]; rintro e w3 ⟨rfl, hM⟩; have c1 := hM.at_.pc; have c2 := hM.at_.h.free 32; have c3 := hM.at_.why; have c4 := hM.at_.h.free 34; have HM := Lib.hid hM; clear hM)
  go_ret
  exact ⟨rfl, by unfold adr nxt; simpa using HM.out.at_.setPC _, (hT.trans HM.out.turn).set (Or.inl rfl) _⟩
set_option maxHeartbeats 2000000 in
set_option maxRecDepth 100000 in
theorem rs_store16_no (w : World) (hb mb : Nat) (S : HS) (hH : RefAt w hb mb S) (hG : Good S) (hc : canB S.pc 4 = true) (X : Int) (hX : X = ldV S S.pc 4) (hd : rvDec_5 X = true) (rd r1 r2 n : Int) (e0 : rvDec_0 X = 16) (e1 : rvDec_1 X = rd) (e2 : rvDec_2 X = r1) (e3 : rvDec_3 X = r2) (e4 : rvDec_4 X = n) (hr : 0 ≤ rd ∧ rd < 32) (h1 : 0 ≤ r1 ∧ r1 < 32) (h2 : 0 ≤ r2 ∧ r2 < 32) (hn : -2147483648 ≤ n ∧ n ≤ 2147483647) (hc2 : canB (adr S r1 n) 1 = false) :
    Calls Try.prog 26 #[.pointer (some ⟨hb, 0, none⟩)] w fun e w' => e = .returned (.int .i64 4) ∧ MakesR w hb mb (S.setWhy (adr S r1 n)) w' := by
  have ib : ∀ w, (Instr.build 81 #[(0, .int .i64 1), (1, .int .i64 2), (2, .int .i64 4)]).run Try.prog w = .ok (.agg #[.int .i64 1, .int .i64 2, .int .i64 4]) w := fun _ => by kernel_rfl
  have ix : ∀ w, (Instr.index 81 (.agg #[.int .i64 1, .int .i64 2, .int .i64 4]) (.int .i64 0)).run Try.prog w = .ok (.int .i64 1) w := fun _ => by kernel_rfl
  have hXb : 0 ≤ X ∧ X ≤ 4294967295 := hX ▸ ldV_bd hG _ _
  have HX := Lib.hid hX; clear hX
  have HC := Lib.hid hc; clear hc
  have HD := Lib.hid hd; clear hd
  have E0 := Lib.hid e0; have E1 := Lib.hid e1; have E2 := Lib.hid e2; have E3 := Lib.hid e3; have E4 := Lib.hid e4; clear e0 e1 e2 e3 e4
  have hp := hG.pc
  have a0 := getX_bd hG r1
  have b0 := getX_bd hG r2
  have G1 := Lib.hid (getX_reg hG h1)
  have G2 := Lib.hid (getX_reg hG h2)
  have kp := hH.pc
  go_enter Try.func26, Try.ntmps26
  go_wp2_with (first | (go_at_call 16; refine (ref_Load _ hb mb S hH hG S.pc 4 hp.1 hp.2 (by decide) (by decide)).mono ?_; rw [HC.out, ← HX.out]; rintro e w1 ⟨rfl, rfl⟩) | (go_at_call 43; refine (ref_Dec X hXb.1 (by omega) _).mono ?_; rw [HD.out, E0.out, E1.out, E2.out, E3.out, E4.out]; rintro e w2 ⟨rfl, hB⟩; have HB := Lib.hid hB; clear hB))
  obtain ⟨W, hW⟩ : ∃ W, W = w2.alloc (.cells #[.int .i64 16, .int .i64 rd, .int .i64 r1, .int .i64 r2, .int .i32 n] 39) := ⟨_, rfl⟩
  rw [← hW]
  have K5 := Lib.hid (W5.new hW)
  obtain ⟨k0, k1, k2, k3, k4⟩ := K5.out
  have hHW : RefAt W hb mb S := hW ▸ (hH.below HB.out).alloc _
  have hT : Turn (Own hb mb) w W := hW ▸ ((Turn.of_below HB.out).alloc _)
  have hz : w2.heap.size < W.heap.size := by rw [hW]; simp
  have m1 : W.cell? ⟨hb, r1.toNat, none⟩ = some (.int .u32 (getX S r1)) := by rw [G1.out]; exact hHW.reg (by omega)
  have m2 : W.cell? ⟨hb, r2.toNat, none⟩ = some (.int .u32 (getX S r2)) := by rw [G2.out]; exact hHW.reg (by omega)
  have l1 := hH.h.lt
  have l2 := hH.m.lt
  have l3 := HB.out.size
  have HW := Lib.hid hW; clear hW kp
  go_quiet (fail)
  rename_i nq _
  obtain ⟨V, hV⟩ : ∃ V, V = W.drewN nq := ⟨_, rfl⟩
  rw [← hV]
  clear k0 k1 k2 k3 k4
  have K5V : W5 V w2.heap.size 16 rd r1 r2 n := hV ▸ K5.out.drewN nq
  obtain ⟨k0, k1, k2, k3, k4⟩ := K5V
  replace hHW : RefAt V hb mb S := hV ▸ hHW.drewN nq
  replace hT : Turn (Own hb mb) w V := hV ▸ hT.drewN nq
  replace hz : w2.heap.size < V.heap.size := by rw [hV]; exact hz
  have HV := Lib.hid hV; clear hV m1 m2
  have hpc := hHW.pc
  have hfr := hHW.h.free 32
  have hwy := hHW.why
  have hfw := hHW.h.free 34
  have nh : ¬ Own hb mb w2.heap.size := fun h => by rcases h with h | h <;> omega
  unfold adr at hc2
  have HC2 := Lib.hid hc2; have hst : stM S ((getX S r1 + n) % 4294967296) 1 (getX S r2) = S := by unfold stM; rw [hc2]; rfl
  have HS2 := Lib.hid hst; clear hc2 hst
  go_wp2_with (go_at_call 14; refine (ref_Store _ hb mb S hHW _ 1 _ (by omega) (by omega) b0.1 b0.2 (by decide) (by decide)).mono ?_; rw [HC2.out, HS2.out]; rintro e w3 ⟨rfl, hM⟩; have c1 := hM.at_.pc; have c2 := hM.at_.h.free 32; have c3 := hM.at_.why; have c4 := hM.at_.h.free 34; have HM := Lib.hid hM; clear hM)
  go_ret
  exact ⟨rfl, by unfold adr; simpa using HM.out.at_.setWhy _, (hT.trans HM.out.turn).set (Or.inl rfl) _⟩
set_option maxHeartbeats 2000000 in
set_option maxRecDepth 100000 in
theorem rs_store17 (w : World) (hb mb : Nat) (S : HS) (hH : RefAt w hb mb S) (hG : Good S) (hc : canB S.pc 4 = true) (X : Int) (hX : X = ldV S S.pc 4) (hd : rvDec_5 X = true) (rd r1 r2 n : Int) (e0 : rvDec_0 X = 17) (e1 : rvDec_1 X = rd) (e2 : rvDec_2 X = r1) (e3 : rvDec_3 X = r2) (e4 : rvDec_4 X = n) (hr : 0 ≤ rd ∧ rd < 32) (h1 : 0 ≤ r1 ∧ r1 < 32) (h2 : 0 ≤ r2 ∧ r2 < 32) (hn : -2147483648 ≤ n ∧ n ≤ 2147483647) (hc2 : canB (adr S r1 n) 2 = true) :
    Calls Try.prog 26 #[.pointer (some ⟨hb, 0, none⟩)] w fun e w' => e = .returned (.int .i64 0) ∧ MakesR w hb mb ((stM S (adr S r1 n) 2 (getX S r2)).setPC (nxt S)) w' := by
  have ib : ∀ w, (Instr.build 81 #[(0, .int .i64 1), (1, .int .i64 2), (2, .int .i64 4)]).run Try.prog w = .ok (.agg #[.int .i64 1, .int .i64 2, .int .i64 4]) w := fun _ => by kernel_rfl
  have ix : ∀ w, (Instr.index 81 (.agg #[.int .i64 1, .int .i64 2, .int .i64 4]) (.int .i64 1)).run Try.prog w = .ok (.int .i64 2) w := fun _ => by kernel_rfl
  have hXb : 0 ≤ X ∧ X ≤ 4294967295 := hX ▸ ldV_bd hG _ _
  have HX := Lib.hid hX; clear hX
  have HC := Lib.hid hc; clear hc
  have HD := Lib.hid hd; clear hd
  have E0 := Lib.hid e0; have E1 := Lib.hid e1; have E2 := Lib.hid e2; have E3 := Lib.hid e3; have E4 := Lib.hid e4; clear e0 e1 e2 e3 e4
  have hp := hG.pc
  have a0 := getX_bd hG r1
  have b0 := getX_bd hG r2
  have G1 := Lib.hid (getX_reg hG h1)
  have G2 := Lib.hid (getX_reg hG h2)
  have kp := hH.pc
  go_enter Try.func26, Try.ntmps26
  go_wp2_with (first | (go_at_call 16; refine (ref_Load _ hb mb S hH hG S.pc 4 hp.1 hp.2 (by decide) (by decide)).mono ?_; rw [HC.out, ← HX.out]; rintro e w1 ⟨rfl, rfl⟩) | (go_at_call 43; refine (ref_Dec X hXb.1 (by omega) _).mono ?_; rw [HD.out, E0.out, E1.out, E2.out, E3.out, E4.out]; rintro e w2 ⟨rfl, hB⟩; have HB := Lib.hid hB; clear hB))
  obtain ⟨W, hW⟩ : ∃ W, W = w2.alloc (.cells #[.int .i64 17, .int .i64 rd, .int .i64 r1, .int .i64 r2, .int .i32 n] 39) := ⟨_, rfl⟩
  rw [← hW]
  have K5 := Lib.hid (W5.new hW)
  obtain ⟨k0, k1, k2, k3, k4⟩ := K5.out
  have hHW : RefAt W hb mb S := hW ▸ (hH.below HB.out).alloc _
  have hT : Turn (Own hb mb) w W := hW ▸ ((Turn.of_below HB.out).alloc _)
  have hz : w2.heap.size < W.heap.size := by rw [hW]; simp
  have m1 : W.cell? ⟨hb, r1.toNat, none⟩ = some (.int .u32 (getX S r1)) := by rw [G1.out]; exact hHW.reg (by omega)
  have m2 : W.cell? ⟨hb, r2.toNat, none⟩ = some (.int .u32 (getX S r2)) := by rw [G2.out]; exact hHW.reg (by omega)
  have l1 := hH.h.lt
  have l2 := hH.m.lt
  have l3 := HB.out.size
  have HW := Lib.hid hW; clear hW kp
  go_quiet (fail)
  rename_i nq _
  obtain ⟨V, hV⟩ : ∃ V, V = W.drewN nq := ⟨_, rfl⟩
  rw [← hV]
  clear k0 k1 k2 k3 k4
  have K5V : W5 V w2.heap.size 17 rd r1 r2 n := hV ▸ K5.out.drewN nq
  obtain ⟨k0, k1, k2, k3, k4⟩ := K5V
  replace hHW : RefAt V hb mb S := hV ▸ hHW.drewN nq
  replace hT : Turn (Own hb mb) w V := hV ▸ hT.drewN nq
  replace hz : w2.heap.size < V.heap.size := by rw [hV]; exact hz
  have HV := Lib.hid hV; clear hV m1 m2
  have hpc := hHW.pc
  have hfr := hHW.h.free 32
  have hwy := hHW.why
  have hfw := hHW.h.free 34
  have nh : ¬ Own hb mb w2.heap.size := fun h => by rcases h with h | h <;> omega
  unfold adr at hc2
  have HC2 := Lib.hid hc2; clear hc2
  go_wp2_with (go_at_call 14; refine (ref_Store _ hb mb S hHW _ 2 _ (by omega) (by omega) b0.1 b0.2 (by decide) (by decide)).mono ?_; rw [HC2.out]; rintro e w3 ⟨rfl, hM⟩; have c1 := hM.at_.pc; have c2 := hM.at_.h.free 32; have c3 := hM.at_.why; have c4 := hM.at_.h.free 34; have HM := Lib.hid hM; clear hM)
  go_ret
  exact ⟨rfl, by unfold adr nxt; simpa using HM.out.at_.setPC _, (hT.trans HM.out.turn).set (Or.inl rfl) _⟩
set_option maxHeartbeats 2000000 in
set_option maxRecDepth 100000 in
theorem rs_store17_no (w : World) (hb mb : Nat) (S : HS) (hH : RefAt w hb mb S) (hG : Good S) (hc : canB S.pc 4 = true) (X : Int) (hX : X = ldV S S.pc 4) (hd : rvDec_5 X = true) (rd r1 r2 n : Int) (e0 : rvDec_0 X = 17) (e1 : rvDec_1 X = rd) (e2 : rvDec_2 X = r1) (e3 : rvDec_3 X = r2) (e4 : rvDec_4 X = n) (hr : 0 ≤ rd ∧ rd < 32) (h1 : 0 ≤ r1 ∧ r1 < 32) (h2 : 0 ≤ r2 ∧ r2 < 32) (hn : -2147483648 ≤ n ∧ n ≤ 2147483647) (hc2 : canB (adr S r1 n) 2 = false) :
    Calls Try.prog 26 #[.pointer (some ⟨hb, 0, none⟩)] w fun e w' => e = .returned (.int .i64 4) ∧ MakesR w hb mb (S.setWhy (adr S r1 n)) w' := by
  have ib : ∀ w, (Instr.build 81 #[(0, .int .i64 1), (1, .int .i64 2), (2, .int .i64 4)]).run Try.prog w = .ok (.agg #[.int .i64 1, .int .i64 2, .int .i64 4]) w := fun _ => by kernel_rfl
  have ix : ∀ w, (Instr.index 81 (.agg #[.int .i64 1, .int .i64 2, .int .i64 4]) (.int .i64 1)).run Try.prog w = .ok (.int .i64 2) w := fun _ => by kernel_rfl
  have hXb : 0 ≤ X ∧ X ≤ 4294967295 := hX ▸ ldV_bd hG _ _
  have HX := Lib.hid hX; clear hX
  have HC := Lib.hid hc; clear hc
  have HD := Lib.hid hd; clear hd
  have E0 := Lib.hid e0; have E1 := Lib.hid e1; have E2 := Lib.hid e2; have E3 := Lib.hid e3; have E4 := Lib.hid e4; clear e0 e1 e2 e3 e4
  have hp := hG.pc
  have a0 := getX_bd hG r1
  have b0 := getX_bd hG r2
  have G1 := Lib.hid (getX_reg hG h1)
  have G2 := Lib.hid (getX_reg hG h2)
  have kp := hH.pc
  go_enter Try.func26, Try.ntmps26
  go_wp2_with (first | (go_at_call 16; refine (ref_Load _ hb mb S hH hG S.pc 4 hp.1 hp.2 (by decide) (by decide)).mono ?_; rw [HC.out, ← HX.out]; rintro e w1 ⟨rfl, rfl⟩) | (go_at_call 43; refine (ref_Dec X hXb.1 (by omega) _).mono ?_; rw [HD.out, E0.out, E1.out, E2.out, E3.out, E4.out]; rintro e w2 ⟨rfl, hB⟩; have HB := Lib.hid hB; clear hB))
  obtain ⟨W, hW⟩ : ∃ W, W = w2.alloc (.cells #[.int .i64 17, .int .i64 rd, .int .i64 r1, .int .i64 r2, .int .i32 n] 39) := ⟨_, rfl⟩
  rw [← hW]
  have K5 := Lib.hid (W5.new hW)
  obtain ⟨k0, k1, k2, k3, k4⟩ := K5.out
  have hHW : RefAt W hb mb S := hW ▸ (hH.below HB.out).alloc _
  have hT : Turn (Own hb mb) w W := hW ▸ ((Turn.of_below HB.out).alloc _)
  have hz : w2.heap.size < W.heap.size := by rw [hW]; simp
  have m1 : W.cell? ⟨hb, r1.toNat, none⟩ = some (.int .u32 (getX S r1)) := by rw [G1.out]; exact hHW.reg (by omega)
  have m2 : W.cell? ⟨hb, r2.toNat, none⟩ = some (.int .u32 (getX S r2)) := by rw [G2.out]; exact hHW.reg (by omega)
  have l1 := hH.h.lt
  have l2 := hH.m.lt
  have l3 := HB.out.size
  have HW := Lib.hid hW; clear hW kp
  go_quiet (fail)
  rename_i nq _
  obtain ⟨V, hV⟩ : ∃ V, V = W.drewN nq := ⟨_, rfl⟩
  rw [← hV]
  clear k0 k1 k2 k3 k4
  have K5V : W5 V w2.heap.size 17 rd r1 r2 n := hV ▸ K5.out.drewN nq
  obtain ⟨k0, k1, k2, k3, k4⟩ := K5V
  replace hHW : RefAt V hb mb S := hV ▸ hHW.drewN nq
  replace hT : Turn (Own hb mb) w V := hV ▸ hT.drewN nq
  replace hz : w2.heap.size < V.heap.size := by rw [hV]; exact hz
  have HV := Lib.hid hV; clear hV m1 m2
  have hpc := hHW.pc
  have hfr := hHW.h.free 32
  have hwy := hHW.why
  have hfw := hHW.h.free 34
  have nh : ¬ Own hb mb w2.heap.size := fun h => by rcases h with h | h <;> omega
  unfold adr at hc2
  have HC2 := Lib.hid hc2; have hst : stM S ((getX S r1 + n) % 4294967296) 2 (getX S r2) = S := by unfold stM; rw [hc2]; rfl
  have HS2 := Lib.hid hst; clear hc2 hst
  go_wp2_with (go_at_call 14; refine (ref_Store _ hb mb S hHW _ 2 _ (by omega) (by omega) b0.1 b0.2 (by decide) (by decide)).mono ?_; rw [HC2.out, HS2.out]; rintro e w3 ⟨rfl, hM⟩; have c1 := hM.at_.pc; have c2 := hM.at_.h.free 32; have c3 := hM.at_.why; have c4 := hM.at_.h.free 34; have HM := Lib.hid hM; clear hM)
  go_ret
  exact ⟨rfl, by unfold adr; simpa using HM.out.at_.setWhy _, (hT.trans HM.out.turn).set (Or.inl rfl) _⟩
set_option maxHeartbeats 2000000 in
set_option maxRecDepth 100000 in
theorem rs_store18 (w : World) (hb mb : Nat) (S : HS) (hH : RefAt w hb mb S) (hG : Good S) (hc : canB S.pc 4 = true) (X : Int) (hX : X = ldV S S.pc 4) (hd : rvDec_5 X = true) (rd r1 r2 n : Int) (e0 : rvDec_0 X = 18) (e1 : rvDec_1 X = rd) (e2 : rvDec_2 X = r1) (e3 : rvDec_3 X = r2) (e4 : rvDec_4 X = n) (hr : 0 ≤ rd ∧ rd < 32) (h1 : 0 ≤ r1 ∧ r1 < 32) (h2 : 0 ≤ r2 ∧ r2 < 32) (hn : -2147483648 ≤ n ∧ n ≤ 2147483647) (hc2 : canB (adr S r1 n) 4 = true) :
    Calls Try.prog 26 #[.pointer (some ⟨hb, 0, none⟩)] w fun e w' => e = .returned (.int .i64 0) ∧ MakesR w hb mb ((stM S (adr S r1 n) 4 (getX S r2)).setPC (nxt S)) w' := by
  have ib : ∀ w, (Instr.build 81 #[(0, .int .i64 1), (1, .int .i64 2), (2, .int .i64 4)]).run Try.prog w = .ok (.agg #[.int .i64 1, .int .i64 2, .int .i64 4]) w := fun _ => by kernel_rfl
  have ix : ∀ w, (Instr.index 81 (.agg #[.int .i64 1, .int .i64 2, .int .i64 4]) (.int .i64 2)).run Try.prog w = .ok (.int .i64 4) w := fun _ => by kernel_rfl
  have hXb : 0 ≤ X ∧ X ≤ 4294967295 := hX ▸ ldV_bd hG _ _
  have HX := Lib.hid hX; clear hX
  have HC := Lib.hid hc; clear hc
  have HD := Lib.hid hd; clear hd
  have E0 := Lib.hid e0; have E1 := Lib.hid e1; have E2 := Lib.hid e2; have E3 := Lib.hid e3; have E4 := Lib.hid e4; clear e0 e1 e2 e3 e4
  have hp := hG.pc
  have a0 := getX_bd hG r1
  have b0 := getX_bd hG r2
  have G1 := Lib.hid (getX_reg hG h1)
  have G2 := Lib.hid (getX_reg hG h2)
  have kp := hH.pc
  go_enter Try.func26, Try.ntmps26
  go_wp2_with (first | (go_at_call 16; refine (ref_Load _ hb mb S hH hG S.pc 4 hp.1 hp.2 (by decide) (by decide)).mono ?_; rw [HC.out, ← HX.out]; rintro e w1 ⟨rfl, rfl⟩) | (go_at_call 43; refine (ref_Dec X hXb.1 (by omega) _).mono ?_; rw [HD.out, E0.out, E1.out, E2.out, E3.out, E4.out]; rintro e w2 ⟨rfl, hB⟩; have HB := Lib.hid hB; clear hB))
  obtain ⟨W, hW⟩ : ∃ W, W = w2.alloc (.cells #[.int .i64 18, .int .i64 rd, .int .i64 r1, .int .i64 r2, .int .i32 n] 39) := ⟨_, rfl⟩
  rw [← hW]
  have K5 := Lib.hid (W5.new hW)
  obtain ⟨k0, k1, k2, k3, k4⟩ := K5.out
  have hHW : RefAt W hb mb S := hW ▸ (hH.below HB.out).alloc _
  have hT : Turn (Own hb mb) w W := hW ▸ ((Turn.of_below HB.out).alloc _)
  have hz : w2.heap.size < W.heap.size := by rw [hW]; simp
  have m1 : W.cell? ⟨hb, r1.toNat, none⟩ = some (.int .u32 (getX S r1)) := by rw [G1.out]; exact hHW.reg (by omega)
  have m2 : W.cell? ⟨hb, r2.toNat, none⟩ = some (.int .u32 (getX S r2)) := by rw [G2.out]; exact hHW.reg (by omega)
  have l1 := hH.h.lt
  have l2 := hH.m.lt
  have l3 := HB.out.size
  have HW := Lib.hid hW; clear hW kp
  go_quiet (fail)
  rename_i nq _
  obtain ⟨V, hV⟩ : ∃ V, V = W.drewN nq := ⟨_, rfl⟩
  rw [← hV]
  clear k0 k1 k2 k3 k4
  have K5V : W5 V w2.heap.size 18 rd r1 r2 n := hV ▸ K5.out.drewN nq
  obtain ⟨k0, k1, k2, k3, k4⟩ := K5V
  replace hHW : RefAt V hb mb S := hV ▸ hHW.drewN nq
  replace hT : Turn (Own hb mb) w V := hV ▸ hT.drewN nq
  replace hz : w2.heap.size < V.heap.size := by rw [hV]; exact hz
  have HV := Lib.hid hV; clear hV m1 m2
  have hpc := hHW.pc
  have hfr := hHW.h.free 32
  have hwy := hHW.why
  have hfw := hHW.h.free 34
  have nh : ¬ Own hb mb w2.heap.size := fun h => by rcases h with h | h <;> omega
  unfold adr at hc2
  have HC2 := Lib.hid hc2; clear hc2
  go_wp2_with (go_at_call 14; refine (ref_Store _ hb mb S hHW _ 4 _ (by omega) (by omega) b0.1 b0.2 (by decide) (by decide)).mono ?_; rw [HC2.out]; rintro e w3 ⟨rfl, hM⟩; have c1 := hM.at_.pc; have c2 := hM.at_.h.free 32; have c3 := hM.at_.why; have c4 := hM.at_.h.free 34; have HM := Lib.hid hM; clear hM)
  go_ret
  exact ⟨rfl, by unfold adr nxt; simpa using HM.out.at_.setPC _, (hT.trans HM.out.turn).set (Or.inl rfl) _⟩
set_option maxHeartbeats 2000000 in
set_option maxRecDepth 100000 in
theorem rs_store18_no (w : World) (hb mb : Nat) (S : HS) (hH : RefAt w hb mb S) (hG : Good S) (hc : canB S.pc 4 = true) (X : Int) (hX : X = ldV S S.pc 4) (hd : rvDec_5 X = true) (rd r1 r2 n : Int) (e0 : rvDec_0 X = 18) (e1 : rvDec_1 X = rd) (e2 : rvDec_2 X = r1) (e3 : rvDec_3 X = r2) (e4 : rvDec_4 X = n) (hr : 0 ≤ rd ∧ rd < 32) (h1 : 0 ≤ r1 ∧ r1 < 32) (h2 : 0 ≤ r2 ∧ r2 < 32) (hn : -2147483648 ≤ n ∧ n ≤ 2147483647) (hc2 : canB (adr S r1 n) 4 = false) :
    Calls Try.prog 26 #[.pointer (some ⟨hb, 0, none⟩)] w fun e w' => e = .returned (.int .i64 4) ∧ MakesR w hb mb (S.setWhy (adr S r1 n)) w' := by
  have ib : ∀ w, (Instr.build 81 #[(0, .int .i64 1), (1, .int .i64 2), (2, .int .i64 4)]).run Try.prog w = .ok (.agg #[.int .i64 1, .int .i64 2, .int .i64 4]) w := fun _ => by kernel_rfl
  have ix : ∀ w, (Instr.index 81 (.agg #[.int .i64 1, .int .i64 2, .int .i64 4]) (.int .i64 2)).run Try.prog w = .ok (.int .i64 4) w := fun _ => by kernel_rfl
  have hXb : 0 ≤ X ∧ X ≤ 4294967295 := hX ▸ ldV_bd hG _ _
  have HX := Lib.hid hX; clear hX
  have HC := Lib.hid hc; clear hc
  have HD := Lib.hid hd; clear hd
  have E0 := Lib.hid e0; have E1 := Lib.hid e1; have E2 := Lib.hid e2; have E3 := Lib.hid e3; have E4 := Lib.hid e4; clear e0 e1 e2 e3 e4
  have hp := hG.pc
  have a0 := getX_bd hG r1
  have b0 := getX_bd hG r2
  have G1 := Lib.hid (getX_reg hG h1)
  have G2 := Lib.hid (getX_reg hG h2)
  have kp := hH.pc
  go_enter Try.func26, Try.ntmps26
  go_wp2_with (first | (go_at_call 16; refine (ref_Load _ hb mb S hH hG S.pc 4 hp.1 hp.2 (by decide) (by decide)).mono ?_; rw [HC.out, ← HX.out]; rintro e w1 ⟨rfl, rfl⟩) | (go_at_call 43; refine (ref_Dec X hXb.1 (by omega) _).mono ?_; rw [HD.out, E0.out, E1.out, E2.out, E3.out, E4.out]; rintro e w2 ⟨rfl, hB⟩; have HB := Lib.hid hB; clear hB))
  obtain ⟨W, hW⟩ : ∃ W, W = w2.alloc (.cells #[.int .i64 18, .int .i64 rd, .int .i64 r1, .int .i64 r2, .int .i32 n] 39) := ⟨_, rfl⟩
  rw [← hW]
  have K5 := Lib.hid (W5.new hW)
  obtain ⟨k0, k1, k2, k3, k4⟩ := K5.out
  have hHW : RefAt W hb mb S := hW ▸ (hH.below HB.out).alloc _
  have hT : Turn (Own hb mb) w W := hW ▸ ((Turn.of_below HB.out).alloc _)
  have hz : w2.heap.size < W.heap.size := by rw [hW]; simp
  have m1 : W.cell? ⟨hb, r1.toNat, none⟩ = some (.int .u32 (getX S r1)) := by rw [G1.out]; exact hHW.reg (by omega)
  have m2 : W.cell? ⟨hb, r2.toNat, none⟩ = some (.int .u32 (getX S r2)) := by rw [G2.out]; exact hHW.reg (by omega)
  have l1 := hH.h.lt
  have l2 := hH.m.lt
  have l3 := HB.out.size
  have HW := Lib.hid hW; clear hW kp
  go_quiet (fail)
  rename_i nq _
  obtain ⟨V, hV⟩ : ∃ V, V = W.drewN nq := ⟨_, rfl⟩
  rw [← hV]
  clear k0 k1 k2 k3 k4
  have K5V : W5 V w2.heap.size 18 rd r1 r2 n := hV ▸ K5.out.drewN nq
  obtain ⟨k0, k1, k2, k3, k4⟩ := K5V
  replace hHW : RefAt V hb mb S := hV ▸ hHW.drewN nq
  replace hT : Turn (Own hb mb) w V := hV ▸ hT.drewN nq
  replace hz : w2.heap.size < V.heap.size := by rw [hV]; exact hz
  have HV := Lib.hid hV; clear hV m1 m2
  have hpc := hHW.pc
  have hfr := hHW.h.free 32
  have hwy := hHW.why
  have hfw := hHW.h.free 34
  have nh : ¬ Own hb mb w2.heap.size := fun h => by rcases h with h | h <;> omega
  unfold adr at hc2
  have HC2 := Lib.hid hc2; have hst : stM S ((getX S r1 + n) % 4294967296) 4 (getX S r2) = S := by unfold stM; rw [hc2]; rfl
  have HS2 := Lib.hid hst; clear hc2 hst
  go_wp2_with (go_at_call 14; refine (ref_Store _ hb mb S hHW _ 4 _ (by omega) (by omega) b0.1 b0.2 (by decide) (by decide)).mono ?_; rw [HC2.out, HS2.out]; rintro e w3 ⟨rfl, hM⟩; have c1 := hM.at_.pc; have c2 := hM.at_.h.free 32; have c3 := hM.at_.why; have c4 := hM.at_.h.free 34; have HM := Lib.hid hM; clear hM)
  go_ret
  exact ⟨rfl, by unfold adr; simpa using HM.out.at_.setWhy _, (hT.trans HM.out.turn).set (Or.inl rfl) _⟩
set_option maxHeartbeats 2000000 in
set_option maxRecDepth 100000 in
theorem rs_jal (w : World) (hb mb : Nat) (S : HS) (hH : RefAt w hb mb S) (hG : Good S) (hc : canB S.pc 4 = true) (X : Int) (hX : X = ldV S S.pc 4) (hd : rvDec_5 X = true) (rd r1 r2 n : Int) (e0 : rvDec_0 X = 3) (e1 : rvDec_1 X = rd) (e2 : rvDec_2 X = r1) (e3 : rvDec_3 X = r2) (e4 : rvDec_4 X = n) (hr : 0 ≤ rd ∧ rd < 32) (h1 : 0 ≤ r1 ∧ r1 < 32) (h2 : 0 ≤ r2 ∧ r2 < 32) (hn : -2147483648 ≤ n ∧ n ≤ 2147483647) (hm : rel S n % 4 = 0) :
    Calls Try.prog 26 #[.pointer (some ⟨hb, 0, none⟩)] w fun e w' => e = .returned (.int .i64 0) ∧ MakesR w hb mb ((putX S rd (nxt S)).setPC (rel S n)) w' := by
  have hXb : 0 ≤ X ∧ X ≤ 4294967295 := hX ▸ ldV_bd hG _ _
  have HX := Lib.hid hX; clear hX
  have HC := Lib.hid hc; clear hc
  have HD := Lib.hid hd; clear hd
  have E0 := Lib.hid e0; have E1 := Lib.hid e1; have E2 := Lib.hid e2; have E3 := Lib.hid e3; have E4 := Lib.hid e4; clear e0 e1 e2 e3 e4
  have hp := hG.pc
  have a0 := getX_bd hG r1
  have b0 := getX_bd hG r2
  have G1 := Lib.hid (getX_reg hG h1)
  have G2 := Lib.hid (getX_reg hG h2)
  have kp := hH.pc
  go_enter Try.func26, Try.ntmps26
  go_wp2_with (first | (go_at_call 16; refine (ref_Load _ hb mb S hH hG S.pc 4 hp.1 hp.2 (by decide) (by decide)).mono ?_; rw [HC.out, ← HX.out]; rintro e w1 ⟨rfl, rfl⟩) | (go_at_call 43; refine (ref_Dec X hXb.1 (by omega) _).mono ?_; rw [HD.out, E0.out, E1.out, E2.out, E3.out, E4.out]; rintro e w2 ⟨rfl, hB⟩; have HB := Lib.hid hB; clear hB))
  obtain ⟨W, hW⟩ : ∃ W, W = w2.alloc (.cells #[.int .i64 3, .int .i64 rd, .int .i64 r1, .int .i64 r2, .int .i32 n] 39) := ⟨_, rfl⟩
  rw [← hW]
  have K5 := Lib.hid (W5.new hW)
  obtain ⟨k0, k1, k2, k3, k4⟩ := K5.out
  have hHW : RefAt W hb mb S := hW ▸ (hH.below HB.out).alloc _
  have hT : Turn (Own hb mb) w W := hW ▸ ((Turn.of_below HB.out).alloc _)
  have hz : w2.heap.size < W.heap.size := by rw [hW]; simp
  have m1 : W.cell? ⟨hb, r1.toNat, none⟩ = some (.int .u32 (getX S r1)) := by rw [G1.out]; exact hHW.reg (by omega)
  have m2 : W.cell? ⟨hb, r2.toNat, none⟩ = some (.int .u32 (getX S r2)) := by rw [G2.out]; exact hHW.reg (by omega)
  have l1 := hH.h.lt
  have l2 := hH.m.lt
  have l3 := HB.out.size
  have HW := Lib.hid hW; clear hW kp
  go_quiet (fail)
  rename_i nq _
  obtain ⟨V, hV⟩ : ∃ V, V = W.drewN nq := ⟨_, rfl⟩
  rw [← hV]
  clear k0 k1 k2 k3 k4
  have K5V : W5 V w2.heap.size 3 rd r1 r2 n := hV ▸ K5.out.drewN nq
  obtain ⟨k0, k1, k2, k3, k4⟩ := K5V
  replace hHW : RefAt V hb mb S := hV ▸ hHW.drewN nq
  replace hT : Turn (Own hb mb) w V := hV ▸ hT.drewN nq
  replace hz : w2.heap.size < V.heap.size := by rw [hV]; exact hz
  have HV := Lib.hid hV; clear hV m1 m2
  have hpc := hHW.pc
  have hfr := hHW.h.free 32
  have hwy := hHW.why
  have hfw := hHW.h.free 34
  have nh : ¬ Own hb mb w2.heap.size := fun h => by rcases h with h | h <;> omega
  unfold rel at hm
  have q : ((S.pc + n) % 4294967296 % 4 != 0) = false := by simp only [bne_iff_ne, bne_eq_false_iff_eq, ne_eq]; exact hm
  have HMM := Lib.hid hm; clear hm
  go_wp2_with (go_at_call 45; refine (ref_set _ hb mb S hHW rd _ hr.1 hr.2).mono ?_; rintro e w3 ⟨rfl, hM⟩; have c1 := hM.at_.pc; have c2 := hM.at_.h.free 32; have HM := Lib.hid hM; clear hM)
  go_ret
  exact ⟨rfl, by unfold rel nxt; simpa using HM.out.at_.setPC _, (hT.trans HM.out.turn).set (Or.inl rfl) _⟩
set_option maxHeartbeats 2000000 in
set_option maxRecDepth 100000 in
theorem rs_jal_no (w : World) (hb mb : Nat) (S : HS) (hH : RefAt w hb mb S) (hG : Good S) (hc : canB S.pc 4 = true) (X : Int) (hX : X = ldV S S.pc 4) (hd : rvDec_5 X = true) (rd r1 r2 n : Int) (e0 : rvDec_0 X = 3) (e1 : rvDec_1 X = rd) (e2 : rvDec_2 X = r1) (e3 : rvDec_3 X = r2) (e4 : rvDec_4 X = n) (hr : 0 ≤ rd ∧ rd < 32) (h1 : 0 ≤ r1 ∧ r1 < 32) (h2 : 0 ≤ r2 ∧ r2 < 32) (hn : -2147483648 ≤ n ∧ n ≤ 2147483647) (hm : rel S n % 4 ≠ 0) :
    Calls Try.prog 26 #[.pointer (some ⟨hb, 0, none⟩)] w fun e w' => e = .returned (.int .i64 5) ∧ MakesR w hb mb (S.setWhy (rel S n)) w' := by
  have hXb : 0 ≤ X ∧ X ≤ 4294967295 := hX ▸ ldV_bd hG _ _
  have HX := Lib.hid hX; clear hX
  have HC := Lib.hid hc; clear hc
  have HD := Lib.hid hd; clear hd
  have E0 := Lib.hid e0; have E1 := Lib.hid e1; have E2 := Lib.hid e2; have E3 := Lib.hid e3; have E4 := Lib.hid e4; clear e0 e1 e2 e3 e4
  have hp := hG.pc
  have a0 := getX_bd hG r1
  have b0 := getX_bd hG r2
  have G1 := Lib.hid (getX_reg hG h1)
  have G2 := Lib.hid (getX_reg hG h2)
  have kp := hH.pc
  go_enter Try.func26, Try.ntmps26
  go_wp2_with (first | (go_at_call 16; refine (ref_Load _ hb mb S hH hG S.pc 4 hp.1 hp.2 (by decide) (by decide)).mono ?_; rw [HC.out, ← HX.out]; rintro e w1 ⟨rfl, rfl⟩) | (go_at_call 43; refine (ref_Dec X hXb.1 (by omega) _).mono ?_; rw [HD.out, E0.out, E1.out, E2.out, E3.out, E4.out]; rintro e w2 ⟨rfl, hB⟩; have HB := Lib.hid hB; clear hB))
  obtain ⟨W, hW⟩ : ∃ W, W = w2.alloc (.cells #[.int .i64 3, .int .i64 rd, .int .i64 r1, .int .i64 r2, .int .i32 n] 39) := ⟨_, rfl⟩
  rw [← hW]
  have K5 := Lib.hid (W5.new hW)
  obtain ⟨k0, k1, k2, k3, k4⟩ := K5.out
  have hHW : RefAt W hb mb S := hW ▸ (hH.below HB.out).alloc _
  have hT : Turn (Own hb mb) w W := hW ▸ ((Turn.of_below HB.out).alloc _)
  have hz : w2.heap.size < W.heap.size := by rw [hW]; simp
  have m1 : W.cell? ⟨hb, r1.toNat, none⟩ = some (.int .u32 (getX S r1)) := by rw [G1.out]; exact hHW.reg (by omega)
  have m2 : W.cell? ⟨hb, r2.toNat, none⟩ = some (.int .u32 (getX S r2)) := by rw [G2.out]; exact hHW.reg (by omega)
  have l1 := hH.h.lt
  have l2 := hH.m.lt
  have l3 := HB.out.size
  have HW := Lib.hid hW; clear hW kp
  go_quiet (fail)
  rename_i nq _
  obtain ⟨V, hV⟩ : ∃ V, V = W.drewN nq := ⟨_, rfl⟩
  rw [← hV]
  clear k0 k1 k2 k3 k4
  have K5V : W5 V w2.heap.size 3 rd r1 r2 n := hV ▸ K5.out.drewN nq
  obtain ⟨k0, k1, k2, k3, k4⟩ := K5V
  replace hHW : RefAt V hb mb S := hV ▸ hHW.drewN nq
  replace hT : Turn (Own hb mb) w V := hV ▸ hT.drewN nq
  replace hz : w2.heap.size < V.heap.size := by rw [hV]; exact hz
  have HV := Lib.hid hV; clear hV m1 m2
  have hpc := hHW.pc
  have hfr := hHW.h.free 32
  have hwy := hHW.why
  have hfw := hHW.h.free 34
  have nh : ¬ Own hb mb w2.heap.size := fun h => by rcases h with h | h <;> omega
  unfold rel at hm
  have q : ((S.pc + n) % 4294967296 % 4 != 0) = true := by simp only [bne_iff_ne, bne_eq_false_iff_eq, ne_eq]; exact hm
  have HMM := Lib.hid hm; clear hm
  go_wp2_with fail
  go_ret
  exact ⟨rfl, by unfold rel; simpa using hHW.setWhy _, hT.set (Or.inl rfl) _⟩
set_option maxHeartbeats 2000000 in
set_option maxRecDepth 100000 in
theorem rs_jalr (w : World) (hb mb : Nat) (S : HS) (hH : RefAt w hb mb S) (hG : Good S) (hc : canB S.pc 4 = true) (X : Int) (hX : X = ldV S S.pc 4) (hd : rvDec_5 X = true) (rd r1 r2 n : Int) (e0 : rvDec_0 X = 4) (e1 : rvDec_1 X = rd) (e2 : rvDec_2 X = r1) (e3 : rvDec_3 X = r2) (e4 : rvDec_4 X = n) (hr : 0 ≤ rd ∧ rd < 32) (h1 : 0 ≤ r1 ∧ r1 < 32) (h2 : 0 ≤ r2 ∧ r2 < 32) (hn : -2147483648 ≤ n ∧ n ≤ 2147483647) (hm : evn (adr S r1 n) % 4 = 0) :
    Calls Try.prog 26 #[.pointer (some ⟨hb, 0, none⟩)] w fun e w' => e = .returned (.int .i64 0) ∧ MakesR w hb mb ((putX S rd (nxt S)).setPC (evn (adr S r1 n))) w' := by
  have hXb : 0 ≤ X ∧ X ≤ 4294967295 := hX ▸ ldV_bd hG _ _
  have HX := Lib.hid hX; clear hX
  have HC := Lib.hid hc; clear hc
  have HD := Lib.hid hd; clear hd
  have E0 := Lib.hid e0; have E1 := Lib.hid e1; have E2 := Lib.hid e2; have E3 := Lib.hid e3; have E4 := Lib.hid e4; clear e0 e1 e2 e3 e4
  have hp := hG.pc
  have a0 := getX_bd hG r1
  have b0 := getX_bd hG r2
  have G1 := Lib.hid (getX_reg hG h1)
  have G2 := Lib.hid (getX_reg hG h2)
  have kp := hH.pc
  go_enter Try.func26, Try.ntmps26
  go_wp2_with (first | (go_at_call 16; refine (ref_Load _ hb mb S hH hG S.pc 4 hp.1 hp.2 (by decide) (by decide)).mono ?_; rw [HC.out, ← HX.out]; rintro e w1 ⟨rfl, rfl⟩) | (go_at_call 43; refine (ref_Dec X hXb.1 (by omega) _).mono ?_; rw [HD.out, E0.out, E1.out, E2.out, E3.out, E4.out]; rintro e w2 ⟨rfl, hB⟩; have HB := Lib.hid hB; clear hB))
  obtain ⟨W, hW⟩ : ∃ W, W = w2.alloc (.cells #[.int .i64 4, .int .i64 rd, .int .i64 r1, .int .i64 r2, .int .i32 n] 39) := ⟨_, rfl⟩
  rw [← hW]
  have K5 := Lib.hid (W5.new hW)
  obtain ⟨k0, k1, k2, k3, k4⟩ := K5.out
  have hHW : RefAt W hb mb S := hW ▸ (hH.below HB.out).alloc _
  have hT : Turn (Own hb mb) w W := hW ▸ ((Turn.of_below HB.out).alloc _)
  have hz : w2.heap.size < W.heap.size := by rw [hW]; simp
  have m1 : W.cell? ⟨hb, r1.toNat, none⟩ = some (.int .u32 (getX S r1)) := by rw [G1.out]; exact hHW.reg (by omega)
  have m2 : W.cell? ⟨hb, r2.toNat, none⟩ = some (.int .u32 (getX S r2)) := by rw [G2.out]; exact hHW.reg (by omega)
  have l1 := hH.h.lt
  have l2 := hH.m.lt
  have l3 := HB.out.size
  have HW := Lib.hid hW; clear hW kp
  go_quiet (fail)
  rename_i nq _
  obtain ⟨V, hV⟩ : ∃ V, V = W.drewN nq := ⟨_, rfl⟩
  rw [← hV]
  clear k0 k1 k2 k3 k4
  have K5V : W5 V w2.heap.size 4 rd r1 r2 n := hV ▸ K5.out.drewN nq
  obtain ⟨k0, k1, k2, k3, k4⟩ := K5V
  replace hHW : RefAt V hb mb S := hV ▸ hHW.drewN nq
  replace hT : Turn (Own hb mb) w V := hV ▸ hT.drewN nq
  replace hz : w2.heap.size < V.heap.size := by rw [hV]; exact hz
  have HV := Lib.hid hV; clear hV m1 m2
  have hpc := hHW.pc
  have hfr := hHW.h.free 32
  have hwy := hHW.why
  have hfw := hHW.h.free 34
  have nh : ¬ Own hb mb w2.heap.size := fun h => by rcases h with h | h <;> omega
  unfold evn adr at hm
  have E := even_u32 ((getX S r1 + n) % 4294967296) (by omega) (by omega)
  have q : (((getX S r1 + n) % 4294967296 - (getX S r1 + n) % 4294967296 % 2) % 4 != 0) = false := by simp only [bne_iff_ne, bne_eq_false_iff_eq, ne_eq]; exact hm
  have HMM := Lib.hid hm; clear hm
  go_wp2_with (go_at_call 45; refine (ref_set _ hb mb S hHW rd _ hr.1 hr.2).mono ?_; rintro e w3 ⟨rfl, hM⟩; have c1 := hM.at_.pc; have c2 := hM.at_.h.free 32; have HM := Lib.hid hM; clear hM)
  go_ret
  exact ⟨rfl, by unfold evn adr nxt; simpa using HM.out.at_.setPC _, (hT.trans HM.out.turn).set (Or.inl rfl) _⟩
set_option maxHeartbeats 2000000 in
set_option maxRecDepth 100000 in
theorem rs_jalr_no (w : World) (hb mb : Nat) (S : HS) (hH : RefAt w hb mb S) (hG : Good S) (hc : canB S.pc 4 = true) (X : Int) (hX : X = ldV S S.pc 4) (hd : rvDec_5 X = true) (rd r1 r2 n : Int) (e0 : rvDec_0 X = 4) (e1 : rvDec_1 X = rd) (e2 : rvDec_2 X = r1) (e3 : rvDec_3 X = r2) (e4 : rvDec_4 X = n) (hr : 0 ≤ rd ∧ rd < 32) (h1 : 0 ≤ r1 ∧ r1 < 32) (h2 : 0 ≤ r2 ∧ r2 < 32) (hn : -2147483648 ≤ n ∧ n ≤ 2147483647) (hm : evn (adr S r1 n) % 4 ≠ 0) :
    Calls Try.prog 26 #[.pointer (some ⟨hb, 0, none⟩)] w fun e w' => e = .returned (.int .i64 5) ∧ MakesR w hb mb (S.setWhy (evn (adr S r1 n))) w' := by
  have hXb : 0 ≤ X ∧ X ≤ 4294967295 := hX ▸ ldV_bd hG _ _
  have HX := Lib.hid hX; clear hX
  have HC := Lib.hid hc; clear hc
  have HD := Lib.hid hd; clear hd
  have E0 := Lib.hid e0; have E1 := Lib.hid e1; have E2 := Lib.hid e2; have E3 := Lib.hid e3; have E4 := Lib.hid e4; clear e0 e1 e2 e3 e4
  have hp := hG.pc
  have a0 := getX_bd hG r1
  have b0 := getX_bd hG r2
  have G1 := Lib.hid (getX_reg hG h1)
  have G2 := Lib.hid (getX_reg hG h2)
  have kp := hH.pc
  go_enter Try.func26, Try.ntmps26
  go_wp2_with (first | (go_at_call 16; refine (ref_Load _ hb mb S hH hG S.pc 4 hp.1 hp.2 (by decide) (by decide)).mono ?_; rw [HC.out, ← HX.out]; rintro e w1 ⟨rfl, rfl⟩) | (go_at_call 43; refine (ref_Dec X hXb.1 (by omega) _).mono ?_; rw [HD.out, E0.out, E1.out, E2.out, E3.out, E4.out]; rintro e w2 ⟨rfl, hB⟩; have HB := Lib.hid hB; clear hB))
  obtain ⟨W, hW⟩ : ∃ W, W = w2.alloc (.cells #[.int .i64 4, .int .i64 rd, .int .i64 r1, .int .i64 r2, .int .i32 n] 39) := ⟨_, rfl⟩
  rw [← hW]
  have K5 := Lib.hid (W5.new hW)
  obtain ⟨k0, k1, k2, k3, k4⟩ := K5.out
  have hHW : RefAt W hb mb S := hW ▸ (hH.below HB.out).alloc _
  have hT : Turn (Own hb mb) w W := hW ▸ ((Turn.of_below HB.out).alloc _)
  have hz : w2.heap.size < W.heap.size := by rw [hW]; simp
  have m1 : W.cell? ⟨hb, r1.toNat, none⟩ = some (.int .u32 (getX S r1)) := by rw [G1.out]; exact hHW.reg (by omega)
  have m2 : W.cell? ⟨hb, r2.toNat, none⟩ = some (.int .u32 (getX S r2)) := by rw [G2.out]; exact hHW.reg (by omega)
  have l1 := hH.h.lt
  have l2 := hH.m.lt
  have l3 := HB.out.size
  have HW := Lib.hid hW; clear hW kp
  go_quiet (fail)
  rename_i nq _
  obtain ⟨V, hV⟩ : ∃ V, V = W.drewN nq := ⟨_, rfl⟩
  rw [← hV]
  clear k0 k1 k2 k3 k4
  have K5V : W5 V w2.heap.size 4 rd r1 r2 n := hV ▸ K5.out.drewN nq
  obtain ⟨k0, k1, k2, k3, k4⟩ := K5V
  replace hHW : RefAt V hb mb S := hV ▸ hHW.drewN nq
  replace hT : Turn (Own hb mb) w V := hV ▸ hT.drewN nq
  replace hz : w2.heap.size < V.heap.size := by rw [hV]; exact hz
  have HV := Lib.hid hV; clear hV m1 m2
  have hpc := hHW.pc
  have hfr := hHW.h.free 32
  have hwy := hHW.why
  have hfw := hHW.h.free 34
  have nh : ¬ Own hb mb w2.heap.size := fun h => by rcases h with h | h <;> omega
  unfold evn adr at hm
  have E := even_u32 ((getX S r1 + n) % 4294967296) (by omega) (by omega)
  have q : (((getX S r1 + n) % 4294967296 - (getX S r1 + n) % 4294967296 % 2) % 4 != 0) = true := by simp only [bne_iff_ne, bne_eq_false_iff_eq, ne_eq]; exact hm
  have HMM := Lib.hid hm; clear hm
  go_wp2_with fail
  go_ret
  exact ⟨rfl, by unfold evn adr; simpa using hHW.setWhy _, hT.set (Or.inl rfl) _⟩
set_option maxHeartbeats 2000000 in
set_option maxRecDepth 100000 in
theorem rs_branch_not (w : World) (hb mb : Nat) (S : HS) (hH : RefAt w hb mb S) (hG : Good S) (hc : canB S.pc 4 = true) (X : Int) (hX : X = ldV S S.pc 4) (hd : rvDec_5 X = true) (op rd r1 r2 n : Int) (e0 : rvDec_0 X = op) (e1 : rvDec_1 X = rd) (e2 : rvDec_2 X = r1) (e3 : rvDec_3 X = r2) (e4 : rvDec_4 X = n) (hr : 0 ≤ rd ∧ rd < 32) (h1 : 0 ≤ r1 ∧ r1 < 32) (h2 : 0 ≤ r2 ∧ r2 < 32) (hn : -2147483648 ≤ n ∧ n ≤ 2147483647) (ho : 5 ≤ op ∧ op ≤ 10) (hk : rhTaken op (getX S r1) (getX S r2) = false) :
    Calls Try.prog 26 #[.pointer (some ⟨hb, 0, none⟩)] w fun e w' => e = .returned (.int .i64 0) ∧ MakesR w hb mb (S.setPC (nxt S)) w' := by
  have hXb : 0 ≤ X ∧ X ≤ 4294967295 := hX ▸ ldV_bd hG _ _
  have HX := Lib.hid hX; clear hX
  have HC := Lib.hid hc; clear hc
  have HD := Lib.hid hd; clear hd
  have E0 := Lib.hid e0; have E1 := Lib.hid e1; have E2 := Lib.hid e2; have E3 := Lib.hid e3; have E4 := Lib.hid e4; clear e0 e1 e2 e3 e4
  have hp := hG.pc
  have a0 := getX_bd hG r1
  have b0 := getX_bd hG r2
  have G1 := Lib.hid (getX_reg hG h1)
  have G2 := Lib.hid (getX_reg hG h2)
  have kp := hH.pc
  go_enter Try.func26, Try.ntmps26
  go_wp2_with (first | (go_at_call 16; refine (ref_Load _ hb mb S hH hG S.pc 4 hp.1 hp.2 (by decide) (by decide)).mono ?_; rw [HC.out, ← HX.out]; rintro e w1 ⟨rfl, rfl⟩) | (go_at_call 43; refine (ref_Dec X hXb.1 (by omega) _).mono ?_; rw [HD.out, E0.out, E1.out, E2.out, E3.out, E4.out]; rintro e w2 ⟨rfl, hB⟩; have HB := Lib.hid hB; clear hB))
  obtain ⟨W, hW⟩ : ∃ W, W = w2.alloc (.cells #[.int .i64 op, .int .i64 rd, .int .i64 r1, .int .i64 r2, .int .i32 n] 39) := ⟨_, rfl⟩
  rw [← hW]
  have K5 := Lib.hid (W5.new hW)
  obtain ⟨k0, k1, k2, k3, k4⟩ := K5.out
  have hHW : RefAt W hb mb S := hW ▸ (hH.below HB.out).alloc _
  have hT : Turn (Own hb mb) w W := hW ▸ ((Turn.of_below HB.out).alloc _)
  have hz : w2.heap.size < W.heap.size := by rw [hW]; simp
  have m1 : W.cell? ⟨hb, r1.toNat, none⟩ = some (.int .u32 (getX S r1)) := by rw [G1.out]; exact hHW.reg (by omega)
  have m2 : W.cell? ⟨hb, r2.toNat, none⟩ = some (.int .u32 (getX S r2)) := by rw [G2.out]; exact hHW.reg (by omega)
  have l1 := hH.h.lt
  have l2 := hH.m.lt
  have l3 := HB.out.size
  have HW := Lib.hid hW; clear hW kp
  go_quiet (fail)
  rename_i nq _
  obtain ⟨V, hV⟩ : ∃ V, V = W.drewN nq := ⟨_, rfl⟩
  rw [← hV]
  clear k0 k1 k2 k3 k4
  have K5V : W5 V w2.heap.size op rd r1 r2 n := hV ▸ K5.out.drewN nq
  obtain ⟨k0, k1, k2, k3, k4⟩ := K5V
  replace hHW : RefAt V hb mb S := hV ▸ hHW.drewN nq
  replace hT : Turn (Own hb mb) w V := hV ▸ hT.drewN nq
  replace hz : w2.heap.size < V.heap.size := by rw [hV]; exact hz
  have HV := Lib.hid hV; clear hV m1 m2
  have hpc := hHW.pc
  have hfr := hHW.h.free 32
  have hwy := hHW.why
  have hfw := hHW.h.free 34
  have nh : ¬ Own hb mb w2.heap.size := fun h => by rcases h with h | h <;> omega
  have g0 : (op == 46) = false := by simp; omega
  have g1 : (op == 47) = false := by simp; omega
  have g2 : decide (11 ≤ op) = false := by simp; omega
  have g3 : decide (op ≤ 15) = true := by simp; omega
  have g4 : decide (16 ≤ op) = false := by simp; omega
  have g5 : decide (op ≤ 18) = true := by simp; omega
  have g6 : (op == 3) = false := by simp; omega
  have g7 : (op == 4) = false := by simp; omega
  have g8 : decide (5 ≤ op) = true := by simp; omega
  have g9 : decide (op ≤ 10) = true := by simp; omega
  have g10 : (op == 1) = false := by simp; omega
  have g11 : (op == 2) = false := by simp; omega
  have g12 : decide (19 ≤ op) = false := by simp; omega
  have g13 : decide (op ≤ 27) = true := by simp; omega
  have HK := Lib.hid hk; clear hk
  have hal := ((canB_iff _ _).1 HC.out).2.1
  have q : ((S.pc + 4) % 4294967296 % 4 != 0) = false := by simp; omega
  clear hal
  go_wp2_with (go_at_call 46; refine (ref_taken op _ _ (has_i64.2 (by omega)) (has_u32.2 (by omega)) (has_u32.2 (by omega)) _).mono ?_; rw [HK.out]; rintro e w3 ⟨rfl, hB⟩; have hH3 := hHW.below hB; have hT3 := hT.trans (Turn.of_below (p := Own hb mb) hB); have p3 := hH3.pc; have f3 := hH3.h.free 32; have y3 := hH3.why; have z3 := hH3.h.free 34; have m4 := (hB.cell (p := ⟨w2.heap.size, 4, none⟩) hz).trans k4; have HB3 := Lib.hid hB; clear hB)
  go_ret
  exact ⟨rfl, by unfold nxt; simpa using hH3.setPC _, hT3.set (Or.inl rfl) _⟩
set_option maxHeartbeats 2000000 in
set_option maxRecDepth 100000 in
theorem rs_branch (w : World) (hb mb : Nat) (S : HS) (hH : RefAt w hb mb S) (hG : Good S) (hc : canB S.pc 4 = true) (X : Int) (hX : X = ldV S S.pc 4) (hd : rvDec_5 X = true) (op rd r1 r2 n : Int) (e0 : rvDec_0 X = op) (e1 : rvDec_1 X = rd) (e2 : rvDec_2 X = r1) (e3 : rvDec_3 X = r2) (e4 : rvDec_4 X = n) (hr : 0 ≤ rd ∧ rd < 32) (h1 : 0 ≤ r1 ∧ r1 < 32) (h2 : 0 ≤ r2 ∧ r2 < 32) (hn : -2147483648 ≤ n ∧ n ≤ 2147483647) (ho : 5 ≤ op ∧ op ≤ 10) (hk : rhTaken op (getX S r1) (getX S r2) = true) (hm : rel S n % 4 = 0) :
    Calls Try.prog 26 #[.pointer (some ⟨hb, 0, none⟩)] w fun e w' => e = .returned (.int .i64 0) ∧ MakesR w hb mb (S.setPC (rel S n)) w' := by
  have hXb : 0 ≤ X ∧ X ≤ 4294967295 := hX ▸ ldV_bd hG _ _
  have HX := Lib.hid hX; clear hX
  have HC := Lib.hid hc; clear hc
  have HD := Lib.hid hd; clear hd
  have E0 := Lib.hid e0; have E1 := Lib.hid e1; have E2 := Lib.hid e2; have E3 := Lib.hid e3; have E4 := Lib.hid e4; clear e0 e1 e2 e3 e4
  have hp := hG.pc
  have a0 := getX_bd hG r1
  have b0 := getX_bd hG r2
  have G1 := Lib.hid (getX_reg hG h1)
  have G2 := Lib.hid (getX_reg hG h2)
  have kp := hH.pc
  go_enter Try.func26, Try.ntmps26
  go_wp2_with (first | (go_at_call 16; refine (ref_Load _ hb mb S hH hG S.pc 4 hp.1 hp.2 (by decide) (by decide)).mono ?_; rw [HC.out, ← HX.out]; rintro e w1 ⟨rfl, rfl⟩) | (go_at_call 43; refine (ref_Dec X hXb.1 (by omega) _).mono ?_; rw [HD.out, E0.out, E1.out, E2.out, E3.out, E4.out]; rintro e w2 ⟨rfl, hB⟩; have HB := Lib.hid hB; clear hB))
  obtain ⟨W, hW⟩ : ∃ W, W = w2.alloc (.cells #[.int .i64 op, .int .i64 rd, .int .i64 r1, .int .i64 r2, .int .i32 n] 39) := ⟨_, rfl⟩
  rw [← hW]
  have K5 := Lib.hid (W5.new hW)
  obtain ⟨k0, k1, k2, k3, k4⟩ := K5.out
  have hHW : RefAt W hb mb S := hW ▸ (hH.below HB.out).alloc _
  have hT : Turn (Own hb mb) w W := hW ▸ ((Turn.of_below HB.out).alloc _)
  have hz : w2.heap.size < W.heap.size := by rw [hW]; simp
  have m1 : W.cell? ⟨hb, r1.toNat, none⟩ = some (.int .u32 (getX S r1)) := by rw [G1.out]; exact hHW.reg (by omega)
  have m2 : W.cell? ⟨hb, r2.toNat, none⟩ = some (.int .u32 (getX S r2)) := by rw [G2.out]; exact hHW.reg (by omega)
  have l1 := hH.h.lt
  have l2 := hH.m.lt
  have l3 := HB.out.size
  have HW := Lib.hid hW; clear hW kp
  go_quiet (fail)
  rename_i nq _
  obtain ⟨V, hV⟩ : ∃ V, V = W.drewN nq := ⟨_, rfl⟩
  rw [← hV]
  clear k0 k1 k2 k3 k4
  have K5V : W5 V w2.heap.size op rd r1 r2 n := hV ▸ K5.out.drewN nq
  obtain ⟨k0, k1, k2, k3, k4⟩ := K5V
  replace hHW : RefAt V hb mb S := hV ▸ hHW.drewN nq
  replace hT : Turn (Own hb mb) w V := hV ▸ hT.drewN nq
  replace hz : w2.heap.size < V.heap.size := by rw [hV]; exact hz
  have HV := Lib.hid hV; clear hV m1 m2
  have hpc := hHW.pc
  have hfr := hHW.h.free 32
  have hwy := hHW.why
  have hfw := hHW.h.free 34
  have nh : ¬ Own hb mb w2.heap.size := fun h => by rcases h with h | h <;> omega
  have g0 : (op == 46) = false := by simp; omega
  have g1 : (op == 47) = false := by simp; omega
  have g2 : decide (11 ≤ op) = false := by simp; omega
  have g3 : decide (op ≤ 15) = true := by simp; omega
  have g4 : decide (16 ≤ op) = false := by simp; omega
  have g5 : decide (op ≤ 18) = true := by simp; omega
  have g6 : (op == 3) = false := by simp; omega
  have g7 : (op == 4) = false := by simp; omega
  have g8 : decide (5 ≤ op) = true := by simp; omega
  have g9 : decide (op ≤ 10) = true := by simp; omega
  have g10 : (op == 1) = false := by simp; omega
  have g11 : (op == 2) = false := by simp; omega
  have g12 : decide (19 ≤ op) = false := by simp; omega
  have g13 : decide (op ≤ 27) = true := by simp; omega
  have HK := Lib.hid hk; clear hk
  unfold rel at hm
  have q : ((S.pc + n) % 4294967296 % 4 != 0) = false := by simp only [bne_iff_ne, bne_eq_false_iff_eq, ne_eq]; exact hm
  have HMM := Lib.hid hm; clear hm
  go_wp2_with (go_at_call 46; refine (ref_taken op _ _ (has_i64.2 (by omega)) (has_u32.2 (by omega)) (has_u32.2 (by omega)) _).mono ?_; rw [HK.out]; rintro e w3 ⟨rfl, hB⟩; have hH3 := hHW.below hB; have hT3 := hT.trans (Turn.of_below (p := Own hb mb) hB); have p3 := hH3.pc; have f3 := hH3.h.free 32; have y3 := hH3.why; have z3 := hH3.h.free 34; have m4 := (hB.cell (p := ⟨w2.heap.size, 4, none⟩) hz).trans k4; have HB3 := Lib.hid hB; clear hB)
  go_ret
  exact ⟨rfl, by unfold rel; simpa using hH3.setPC _, hT3.set (Or.inl rfl) _⟩
set_option maxHeartbeats 2000000 in
set_option maxRecDepth 100000 in
theorem rs_branch_no (w : World) (hb mb : Nat) (S : HS) (hH : RefAt w hb mb S) (hG : Good S) (hc : canB S.pc 4 = true) (X : Int) (hX : X = ldV S S.pc 4) (hd : rvDec_5 X = true) (op rd r1 r2 n : Int) (e0 : rvDec_0 X = op) (e1 : rvDec_1 X = rd) (e2 : rvDec_2 X = r1) (e3 : rvDec_3 X = r2) (e4 : rvDec_4 X = n) (hr : 0 ≤ rd ∧ rd < 32) (h1 : 0 ≤ r1 ∧ r1 < 32) (h2 : 0 ≤ r2 ∧ r2 < 32) (hn : -2147483648 ≤ n ∧ n ≤ 2147483647) (ho : 5 ≤ op ∧ op ≤ 10) (hk : rhTaken op (getX S r1) (getX S r2) = true) (hm : rel S n % 4 ≠ 0) :
    Calls Try.prog 26 #[.pointer (some ⟨hb, 0, none⟩)] w fun e w' => e = .returned (.int .i64 5) ∧ MakesR w hb mb (S.setWhy (rel S n)) w' := by
  have hXb : 0 ≤ X ∧ X ≤ 4294967295 := hX ▸ ldV_bd hG _ _
  have HX := Lib.hid hX; clear hX
  have HC := Lib.hid hc; clear hc
  have HD := Lib.hid hd; clear hd
  have E0 := Lib.hid e0; have E1 := Lib.hid e1; have E2 := Lib.hid e2; have E3 := Lib.hid e3; have E4 := Lib.hid e4; clear e0 e1 e2 e3 e4
  have hp := hG.pc
  have a0 := getX_bd hG r1
  have b0 := getX_bd hG r2
  have G1 := Lib.hid (getX_reg hG h1)
  have G2 := Lib.hid (getX_reg hG h2)
  have kp := hH.pc
  go_enter Try.func26, Try.ntmps26
  go_wp2_with (first | (go_at_call 16; refine (ref_Load _ hb mb S hH hG S.pc 4 hp.1 hp.2 (by decide) (by decide)).mono ?_; rw [HC.out, ← HX.out]; rintro e w1 ⟨rfl, rfl⟩) | (go_at_call 43; refine (ref_Dec X hXb.1 (by omega) _).mono ?_; rw [HD.out, E0.out, E1.out, E2.out, E3.out, E4.out]; rintro e w2 ⟨rfl, hB⟩; have HB := Lib.hid hB; clear hB))
  obtain ⟨W, hW⟩ : ∃ W, W = w2.alloc (.cells #[.int .i64 op, .int .i64 rd, .int .i64 r1, .int .i64 r2, .int .i32 n] 39) := ⟨_, rfl⟩
  rw [← hW]
  have K5 := Lib.hid (W5.new hW)
  obtain ⟨k0, k1, k2, k3, k4⟩ := K5.out
  have hHW : RefAt W hb mb S := hW ▸ (hH.below HB.out).alloc _
  have hT : Turn (Own hb mb) w W := hW ▸ ((Turn.of_below HB.out).alloc _)
  have hz : w2.heap.size < W.heap.size := by rw [hW]; simp
  have m1 : W.cell? ⟨hb, r1.toNat, none⟩ = some (.int .u32 (getX S r1)) := by rw [G1.out]; exact hHW.reg (by omega)
  have m2 : W.cell? ⟨hb, r2.toNat, none⟩ = some (.int .u32 (getX S r2)) := by rw [G2.out]; exact hHW.reg (by omega)
  have l1 := hH.h.lt
  have l2 := hH.m.lt
  have l3 := HB.out.size
  have HW := Lib.hid hW; clear hW kp
  go_quiet (fail)
  rename_i nq _
  obtain ⟨V, hV⟩ : ∃ V, V = W.drewN nq := ⟨_, rfl⟩
  rw [← hV]
  clear k0 k1 k2 k3 k4
  have K5V : W5 V w2.heap.size op rd r1 r2 n := hV ▸ K5.out.drewN nq
  obtain ⟨k0, k1, k2, k3, k4⟩ := K5V
  replace hHW : RefAt V hb mb S := hV ▸ hHW.drewN nq
  replace hT : Turn (Own hb mb) w V := hV ▸ hT.drewN nq
  replace hz : w2.heap.size < V.heap.size := by rw [hV]; exact hz
  have HV := Lib.hid hV; clear hV m1 m2
  have hpc := hHW.pc
  have hfr := hHW.h.free 32
  have hwy := hHW.why
  have hfw := hHW.h.free 34
  have nh : ¬ Own hb mb w2.heap.size := fun h => by rcases h with h | h <;> omega
  have g0 : (op == 46) = false := by simp; omega
  have g1 : (op == 47) = false := by simp; omega
  have g2 : decide (11 ≤ op) = false := by simp; omega
  have g3 : decide (op ≤ 15) = true := by simp; omega
  have g4 : decide (16 ≤ op) = false := by simp; omega
  have g5 : decide (op ≤ 18) = true := by simp; omega
  have g6 : (op == 3) = false := by simp; omega
  have g7 : (op == 4) = false := by simp; omega
  have g8 : decide (5 ≤ op) = true := by simp; omega
  have g9 : decide (op ≤ 10) = true := by simp; omega
  have g10 : (op == 1) = false := by simp; omega
  have g11 : (op == 2) = false := by simp; omega
  have g12 : decide (19 ≤ op) = false := by simp; omega
  have g13 : decide (op ≤ 27) = true := by simp; omega
  have HK := Lib.hid hk; clear hk
  unfold rel at hm
  have q : ((S.pc + n) % 4294967296 % 4 != 0) = true := by simp only [bne_iff_ne, bne_eq_false_iff_eq, ne_eq]; exact hm
  have HMM := Lib.hid hm; clear hm
  go_wp2_with (go_at_call 46; refine (ref_taken op _ _ (has_i64.2 (by omega)) (has_u32.2 (by omega)) (has_u32.2 (by omega)) _).mono ?_; rw [HK.out]; rintro e w3 ⟨rfl, hB⟩; have hH3 := hHW.below hB; have hT3 := hT.trans (Turn.of_below (p := Own hb mb) hB); have p3 := hH3.pc; have f3 := hH3.h.free 32; have y3 := hH3.why; have z3 := hH3.h.free 34; have m4 := (hB.cell (p := ⟨w2.heap.size, 4, none⟩) hz).trans k4; have HB3 := Lib.hid hB; clear hB)
  go_ret
  exact ⟨rfl, by unfold rel; simpa using hH3.setWhy _, hT3.set (Or.inl rfl) _⟩
set_option maxHeartbeats 2000000 in
set_option maxRecDepth 100000 in
theorem rs_lui (w : World) (hb mb : Nat) (S : HS) (hH : RefAt w hb mb S) (hG : Good S) (hc : canB S.pc 4 = true) (X : Int) (hX : X = ldV S S.pc 4) (hd : rvDec_5 X = true) (rd r1 r2 n : Int) (e0 : rvDec_0 X = 1) (e1 : rvDec_1 X = rd) (e2 : rvDec_2 X = r1) (e3 : rvDec_3 X = r2) (e4 : rvDec_4 X = n) (hr : 0 ≤ rd ∧ rd < 32) (h1 : 0 ≤ r1 ∧ r1 < 32) (h2 : 0 ≤ r2 ∧ r2 < 32) (hn : -2147483648 ≤ n ∧ n ≤ 2147483647) :
    Calls Try.prog 26 #[.pointer (some ⟨hb, 0, none⟩)] w fun e w' => e = .returned (.int .i64 0) ∧ MakesR w hb mb ((putX S rd (n % 4294967296)).setPC (nxt S)) w' := by
  have hXb : 0 ≤ X ∧ X ≤ 4294967295 := hX ▸ ldV_bd hG _ _
  have HX := Lib.hid hX; clear hX
  have HC := Lib.hid hc; clear hc
  have HD := Lib.hid hd; clear hd
  have E0 := Lib.hid e0; have E1 := Lib.hid e1; have E2 := Lib.hid e2; have E3 := Lib.hid e3; have E4 := Lib.hid e4; clear e0 e1 e2 e3 e4
  have hp := hG.pc
  have a0 := getX_bd hG r1
  have b0 := getX_bd hG r2
  have G1 := Lib.hid (getX_reg hG h1)
  have G2 := Lib.hid (getX_reg hG h2)
  have kp := hH.pc
  go_enter Try.func26, Try.ntmps26
  go_wp2_with (first | (go_at_call 16; refine (ref_Load _ hb mb S hH hG S.pc 4 hp.1 hp.2 (by decide) (by decide)).mono ?_; rw [HC.out, ← HX.out]; rintro e w1 ⟨rfl, rfl⟩) | (go_at_call 43; refine (ref_Dec X hXb.1 (by omega) _).mono ?_; rw [HD.out, E0.out, E1.out, E2.out, E3.out, E4.out]; rintro e w2 ⟨rfl, hB⟩; have HB := Lib.hid hB; clear hB))
  obtain ⟨W, hW⟩ : ∃ W, W = w2.alloc (.cells #[.int .i64 1, .int .i64 rd, .int .i64 r1, .int .i64 r2, .int .i32 n] 39) := ⟨_, rfl⟩
  rw [← hW]
  have K5 := Lib.hid (W5.new hW)
  obtain ⟨k0, k1, k2, k3, k4⟩ := K5.out
  have hHW : RefAt W hb mb S := hW ▸ (hH.below HB.out).alloc _
  have hT : Turn (Own hb mb) w W := hW ▸ ((Turn.of_below HB.out).alloc _)
  have hz : w2.heap.size < W.heap.size := by rw [hW]; simp
  have m1 : W.cell? ⟨hb, r1.toNat, none⟩ = some (.int .u32 (getX S r1)) := by rw [G1.out]; exact hHW.reg (by omega)
  have m2 : W.cell? ⟨hb, r2.toNat, none⟩ = some (.int .u32 (getX S r2)) := by rw [G2.out]; exact hHW.reg (by omega)
  have l1 := hH.h.lt
  have l2 := hH.m.lt
  have l3 := HB.out.size
  have HW := Lib.hid hW; clear hW kp
  go_quiet (fail)
  rename_i nq _
  obtain ⟨V, hV⟩ : ∃ V, V = W.drewN nq := ⟨_, rfl⟩
  rw [← hV]
  clear k0 k1 k2 k3 k4
  have K5V : W5 V w2.heap.size 1 rd r1 r2 n := hV ▸ K5.out.drewN nq
  obtain ⟨k0, k1, k2, k3, k4⟩ := K5V
  replace hHW : RefAt V hb mb S := hV ▸ hHW.drewN nq
  replace hT : Turn (Own hb mb) w V := hV ▸ hT.drewN nq
  replace hz : w2.heap.size < V.heap.size := by rw [hV]; exact hz
  have HV := Lib.hid hV; clear hV m1 m2
  have hpc := hHW.pc
  have hfr := hHW.h.free 32
  have hwy := hHW.why
  have hfw := hHW.h.free 34
  have nh : ¬ Own hb mb w2.heap.size := fun h => by rcases h with h | h <;> omega
  go_wp2_with (go_at_call 45; refine (ref_set _ hb mb S hHW rd _ hr.1 hr.2).mono ?_; rintro e w3 ⟨rfl, hM⟩; have c1 := hM.at_.pc; have c2 := hM.at_.h.free 32; have HM := Lib.hid hM; clear hM)
  go_ret
  exact ⟨rfl, by unfold nxt; simpa using HM.out.at_.setPC _, (hT.trans HM.out.turn).set (Or.inl rfl) _⟩
set_option maxHeartbeats 2000000 in
set_option maxRecDepth 100000 in
theorem rs_auipc (w : World) (hb mb : Nat) (S : HS) (hH : RefAt w hb mb S) (hG : Good S) (hc : canB S.pc 4 = true) (X : Int) (hX : X = ldV S S.pc 4) (hd : rvDec_5 X = true) (rd r1 r2 n : Int) (e0 : rvDec_0 X = 2) (e1 : rvDec_1 X = rd) (e2 : rvDec_2 X = r1) (e3 : rvDec_3 X = r2) (e4 : rvDec_4 X = n) (hr : 0 ≤ rd ∧ rd < 32) (h1 : 0 ≤ r1 ∧ r1 < 32) (h2 : 0 ≤ r2 ∧ r2 < 32) (hn : -2147483648 ≤ n ∧ n ≤ 2147483647) :
    Calls Try.prog 26 #[.pointer (some ⟨hb, 0, none⟩)] w fun e w' => e = .returned (.int .i64 0) ∧ MakesR w hb mb ((putX S rd (rel S n)).setPC (nxt S)) w' := by
  have hXb : 0 ≤ X ∧ X ≤ 4294967295 := hX ▸ ldV_bd hG _ _
  have HX := Lib.hid hX; clear hX
  have HC := Lib.hid hc; clear hc
  have HD := Lib.hid hd; clear hd
  have E0 := Lib.hid e0; have E1 := Lib.hid e1; have E2 := Lib.hid e2; have E3 := Lib.hid e3; have E4 := Lib.hid e4; clear e0 e1 e2 e3 e4
  have hp := hG.pc
  have a0 := getX_bd hG r1
  have b0 := getX_bd hG r2
  have G1 := Lib.hid (getX_reg hG h1)
  have G2 := Lib.hid (getX_reg hG h2)
  have kp := hH.pc
  go_enter Try.func26, Try.ntmps26
  go_wp2_with (first | (go_at_call 16; refine (ref_Load _ hb mb S hH hG S.pc 4 hp.1 hp.2 (by decide) (by decide)).mono ?_; rw [HC.out, ← HX.out]; rintro e w1 ⟨rfl, rfl⟩) | (go_at_call 43; refine (ref_Dec X hXb.1 (by omega) _).mono ?_; rw [HD.out, E0.out, E1.out, E2.out, E3.out, E4.out]; rintro e w2 ⟨rfl, hB⟩; have HB := Lib.hid hB; clear hB))
  obtain ⟨W, hW⟩ : ∃ W, W = w2.alloc (.cells #[.int .i64 2, .int .i64 rd, .int .i64 r1, .int .i64 r2, .int .i32 n] 39) := ⟨_, rfl⟩
  rw [← hW]
  have K5 := Lib.hid (W5.new hW)
  obtain ⟨k0, k1, k2, k3, k4⟩ := K5.out
  have hHW : RefAt W hb mb S := hW ▸ (hH.below HB.out).alloc _
  have hT : Turn (Own hb mb) w W := hW ▸ ((Turn.of_below HB.out).alloc _)
  have hz : w2.heap.size < W.heap.size := by rw [hW]; simp
  have m1 : W.cell? ⟨hb, r1.toNat, none⟩ = some (.int .u32 (getX S r1)) := by rw [G1.out]; exact hHW.reg (by omega)
  have m2 : W.cell? ⟨hb, r2.toNat, none⟩ = some (.int .u32 (getX S r2)) := by rw [G2.out]; exact hHW.reg (by omega)
  have l1 := hH.h.lt
  have l2 := hH.m.lt
  have l3 := HB.out.size
  have HW := Lib.hid hW; clear hW kp
  go_quiet (fail)
  rename_i nq _
  obtain ⟨V, hV⟩ : ∃ V, V = W.drewN nq := ⟨_, rfl⟩
  rw [← hV]
  clear k0 k1 k2 k3 k4
  have K5V : W5 V w2.heap.size 2 rd r1 r2 n := hV ▸ K5.out.drewN nq
  obtain ⟨k0, k1, k2, k3, k4⟩ := K5V
  replace hHW : RefAt V hb mb S := hV ▸ hHW.drewN nq
  replace hT : Turn (Own hb mb) w V := hV ▸ hT.drewN nq
  replace hz : w2.heap.size < V.heap.size := by rw [hV]; exact hz
  have HV := Lib.hid hV; clear hV m1 m2
  have hpc := hHW.pc
  have hfr := hHW.h.free 32
  have hwy := hHW.why
  have hfw := hHW.h.free 34
  have nh : ¬ Own hb mb w2.heap.size := fun h => by rcases h with h | h <;> omega
  go_wp2_with fail
  go_still_tail 9, (by kernel_rfl)
  change wpList _ _ _ _ _ V.drew
  obtain ⟨V2, hV2⟩ : ∃ V2, V2 = V.drew := ⟨_, rfl⟩
  rw [← hV2]
  replace hHW : RefAt V2 hb mb S := hV2 ▸ hHW.drew
  replace hT : Turn (Own hb mb) w V2 := hV2 ▸ hT.drew
  clear hpc hfr hwy hfw
  have HV2 := Lib.hid hV2; clear hV2
  go_wp2_with (go_at_call 45; refine (ref_set _ hb mb S hHW rd _ hr.1 hr.2).mono ?_; rintro e w3 ⟨rfl, hM⟩; have c1 := hM.at_.pc; have c2 := hM.at_.h.free 32; have HM := Lib.hid hM; clear hM)
  go_ret
  exact ⟨rfl, by unfold rel nxt; simpa using HM.out.at_.setPC _, (hT.trans HM.out.turn).set (Or.inl rfl) _⟩
set_option maxHeartbeats 2000000 in
set_option maxRecDepth 100000 in
theorem rs_reg (w : World) (hb mb : Nat) (S : HS) (hH : RefAt w hb mb S) (hG : Good S) (hc : canB S.pc 4 = true) (X : Int) (hX : X = ldV S S.pc 4) (hd : rvDec_5 X = true) (op rd r1 r2 n : Int) (e0 : rvDec_0 X = op) (e1 : rvDec_1 X = rd) (e2 : rvDec_2 X = r1) (e3 : rvDec_3 X = r2) (e4 : rvDec_4 X = n) (hr : 0 ≤ rd ∧ rd < 32) (h1 : 0 ≤ r1 ∧ r1 < 32) (h2 : 0 ≤ r2 ∧ r2 < 32) (hn : -2147483648 ≤ n ∧ n ≤ 2147483647) (ho : 28 ≤ op ∧ op ≤ 45) :
    Calls Try.prog 26 #[.pointer (some ⟨hb, 0, none⟩)] w fun e w' => e = .returned (.int .i64 0) ∧ MakesR w hb mb ((putX S rd (rhAlu op (getX S r1) (getX S r2))).setPC (nxt S)) w' := by
  have hXb : 0 ≤ X ∧ X ≤ 4294967295 := hX ▸ ldV_bd hG _ _
  have HX := Lib.hid hX; clear hX
  have HC := Lib.hid hc; clear hc
  have HD := Lib.hid hd; clear hd
  have E0 := Lib.hid e0; have E1 := Lib.hid e1; have E2 := Lib.hid e2; have E3 := Lib.hid e3; have E4 := Lib.hid e4; clear e0 e1 e2 e3 e4
  have hp := hG.pc
  have a0 := getX_bd hG r1
  have b0 := getX_bd hG r2
  have G1 := Lib.hid (getX_reg hG h1)
  have G2 := Lib.hid (getX_reg hG h2)
  have kp := hH.pc
  go_enter Try.func26, Try.ntmps26
  go_wp2_with (first | (go_at_call 16; refine (ref_Load _ hb mb S hH hG S.pc 4 hp.1 hp.2 (by decide) (by decide)).mono ?_; rw [HC.out, ← HX.out]; rintro e w1 ⟨rfl, rfl⟩) | (go_at_call 43; refine (ref_Dec X hXb.1 (by omega) _).mono ?_; rw [HD.out, E0.out, E1.out, E2.out, E3.out, E4.out]; rintro e w2 ⟨rfl, hB⟩; have HB := Lib.hid hB; clear hB))
  obtain ⟨W, hW⟩ : ∃ W, W = w2.alloc (.cells #[.int .i64 op, .int .i64 rd, .int .i64 r1, .int .i64 r2, .int .i32 n] 39) := ⟨_, rfl⟩
  rw [← hW]
  have K5 := Lib.hid (W5.new hW)
  obtain ⟨k0, k1, k2, k3, k4⟩ := K5.out
  have hHW : RefAt W hb mb S := hW ▸ (hH.below HB.out).alloc _
  have hT : Turn (Own hb mb) w W := hW ▸ ((Turn.of_below HB.out).alloc _)
  have hz : w2.heap.size < W.heap.size := by rw [hW]; simp
  have m1 : W.cell? ⟨hb, r1.toNat, none⟩ = some (.int .u32 (getX S r1)) := by rw [G1.out]; exact hHW.reg (by omega)
  have m2 : W.cell? ⟨hb, r2.toNat, none⟩ = some (.int .u32 (getX S r2)) := by rw [G2.out]; exact hHW.reg (by omega)
  have l1 := hH.h.lt
  have l2 := hH.m.lt
  have l3 := HB.out.size
  have HW := Lib.hid hW; clear hW kp
  go_quiet (fail)
  rename_i nq _
  obtain ⟨V, hV⟩ : ∃ V, V = W.drewN nq := ⟨_, rfl⟩
  rw [← hV]
  clear k0 k1 k2 k3 k4
  have K5V : W5 V w2.heap.size op rd r1 r2 n := hV ▸ K5.out.drewN nq
  obtain ⟨k0, k1, k2, k3, k4⟩ := K5V
  replace hHW : RefAt V hb mb S := hV ▸ hHW.drewN nq
  replace hT : Turn (Own hb mb) w V := hV ▸ hT.drewN nq
  replace hz : w2.heap.size < V.heap.size := by rw [hV]; exact hz
  have HV := Lib.hid hV; clear hV m1 m2
  have hpc := hHW.pc
  have hfr := hHW.h.free 32
  have hwy := hHW.why
  have hfw := hHW.h.free 34
  have nh : ¬ Own hb mb w2.heap.size := fun h => by rcases h with h | h <;> omega
  have g0 : (op == 46) = false := by simp; omega
  have g1 : (op == 47) = false := by simp; omega
  have g2 : decide (11 ≤ op) = true := by simp; omega
  have g3 : decide (op ≤ 15) = false := by simp; omega
  have g4 : decide (16 ≤ op) = true := by simp; omega
  have g5 : decide (op ≤ 18) = false := by simp; omega
  have g6 : (op == 3) = false := by simp; omega
  have g7 : (op == 4) = false := by simp; omega
  have g8 : decide (5 ≤ op) = true := by simp; omega
  have g9 : decide (op ≤ 10) = false := by simp; omega
  have g10 : (op == 1) = false := by simp; omega
  have g11 : (op == 2) = false := by simp; omega
  have g12 : decide (19 ≤ op) = true := by simp; omega
  have g13 : decide (op ≤ 27) = false := by simp; omega
  go_wp2_with fail
  have K := Lib.hid (⟨k0, k1⟩ : (V.cell? ⟨w2.heap.size, 0, none⟩ = some (.int .i64 op) ∧ V.cell? ⟨w2.heap.size, 1, none⟩ = some (.int .i64 rd)))
  go_region_held3 (fun w' => (w'.cell? ⟨w2.heap.size, 0, none⟩ = some (.int .i64 op) ∧ w'.cell? ⟨w2.heap.size, 1, none⟩ = some (.int .i64 rd))) (first | exact K.out | exact K1 | exact K2) (first | (go_at_call 47; refine (ref_Alu op (getX S r1) (getX S r2) (has_i64.2 (by omega)) (has_u32.2 (by omega)) (has_u32.2 (by omega)) _).mono ?_; rintro e w3 ⟨rfl, hB⟩; have K1 := (⟨(hB.cell (p := ⟨w2.heap.size, 0, none⟩) hz).trans K.out.1, (hB.cell (p := ⟨w2.heap.size, 1, none⟩) hz).trans K.out.2⟩ : (w3.cell? ⟨w2.heap.size, 0, none⟩ = some (.int .i64 op) ∧ w3.cell? ⟨w2.heap.size, 1, none⟩ = some (.int .i64 rd))); have hz3 : w2.heap.size < w3.heap.size := Nat.lt_of_lt_of_le hz hB.size; have hH3 := hHW.drew.below hB; have hT3 := hT.drew.trans (Turn.of_below (p := Own hb mb) hB); have HB3 := Lib.hid hB; clear hB) | (go_at_call 45; refine (ref_set _ hb mb S hH3 rd _ hr.1 hr.2).mono ?_; rintro e w4 ⟨rfl, hM⟩; have K2 := (⟨(hM.turn.cell (i := 0) hz3 nh).trans K1.1, (hM.turn.cell (i := 1) hz3 nh).trans K1.2⟩ : (w4.cell? ⟨w2.heap.size, 0, none⟩ = some (.int .i64 op) ∧ w4.cell? ⟨w2.heap.size, 1, none⟩ = some (.int .i64 rd))); have c1 := hM.at_.pc; have c2 := hM.at_.h.free 32; have HM := Lib.hid hM; clear hM))
  go_wp2_with fail
  go_ret
  exact ⟨rfl, by unfold nxt; simpa using HM.out.at_.setPC _, (hT3.trans HM.out.turn).set (Or.inl rfl) _⟩
end Go.Proofs.Ytpclikbjpjoccaa
namespace Go.Proofs.Ytpclikbjpjoccaa
open Go Go.RowKit Go.Sx
set_option linter.unusedVariables false
set_option linter.unusedSimpArgs false
set_option maxHeartbeats 2000000 in
set_option maxRecDepth 100000 in
theorem rs_imm (w : World) (hb mb : Nat) (S : HS) (hH : RefAt w hb mb S) (hG : Good S) (hc : canB S.pc 4 = true) (X : Int) (hX : X = ldV S S.pc 4) (hd : rvDec_5 X = true) (op rd r1 r2 n : Int) (e0 : rvDec_0 X = op) (e1 : rvDec_1 X = rd) (e2 : rvDec_2 X = r1) (e3 : rvDec_3 X = r2) (e4 : rvDec_4 X = n) (hr : 0 ≤ rd ∧ rd < 32) (h1 : 0 ≤ r1 ∧ r1 < 32) (h2 : 0 ≤ r2 ∧ r2 < 32) (hn : -2147483648 ≤ n ∧ n ≤ 2147483647) (ho : 19 ≤ op ∧ op ≤ 27) :
    Calls Try.prog 26 #[.pointer (some ⟨hb, 0, none⟩)] w fun e w' => e = .returned (.int .i64 0) ∧ MakesR w hb mb ((putX S rd (rhAlu (imOp (op - 19)) (getX S r1) (n % 4294967296))).setPC (nxt S)) w' := by
  have ib : ∀ w, (Instr.build 83 #[(0, .int .i64 28), (1, .int .i64 31), (2, .int .i64 32), (3, .int .i64 33), (4, .int .i64 36), (5, .int .i64 37), (6, .int .i64 30), (7, .int .i64 34), (8, .int .i64 35)]).run Try.prog w = .ok (.agg #[.int .i64 28, .int .i64 31, .int .i64 32, .int .i64 33, .int .i64 36, .int .i64 37, .int .i64 30, .int .i64 34, .int .i64 35]) w := fun _ => by kernel_rfl
  have hXb : 0 ≤ X ∧ X ≤ 4294967295 := hX ▸ ldV_bd hG _ _
  have HX := Lib.hid hX; clear hX
  have HC := Lib.hid hc; clear hc
  have HD := Lib.hid hd; clear hd
  have E0 := Lib.hid e0; have E1 := Lib.hid e1; have E2 := Lib.hid e2; have E3 := Lib.hid e3; have E4 := Lib.hid e4; clear e0 e1 e2 e3 e4
  have hp := hG.pc
  have a0 := getX_bd hG r1
  have b0 := getX_bd hG r2
  have G1 := Lib.hid (getX_reg hG h1)
  have G2 := Lib.hid (getX_reg hG h2)
  have kp := hH.pc
  go_enter Try.func26, Try.ntmps26
  go_wp2_with (first | (go_at_call 16; refine (ref_Load _ hb mb S hH hG S.pc 4 hp.1 hp.2 (by decide) (by decide)).mono ?_; rw [HC.out, ← HX.out]; rintro e w1 ⟨rfl, rfl⟩) | (go_at_call 43; refine (ref_Dec X hXb.1 (by omega) _).mono ?_; rw [HD.out, E0.out, E1.out, E2.out, E3.out, E4.out]; rintro e w2 ⟨rfl, hB⟩; have HB := Lib.hid hB; clear hB))
  obtain ⟨W, hW⟩ : ∃ W, W = w2.alloc (.cells #[.int .i64 op, .int .i64 rd, .int .i64 r1, .int .i64 r2, .int .i32 n] 39) := ⟨_, rfl⟩
  rw [← hW]
  have K5 := Lib.hid (W5.new hW)
  obtain ⟨k0, k1, k2, k3, k4⟩ := K5.out
  have hHW : RefAt W hb mb S := hW ▸ (hH.below HB.out).alloc _
  have hT : Turn (Own hb mb) w W := hW ▸ ((Turn.of_below HB.out).alloc _)
  have hz : w2.heap.size < W.heap.size := by rw [hW]; simp
  have m1 : W.cell? ⟨hb, r1.toNat, none⟩ = some (.int .u32 (getX S r1)) := by rw [G1.out]; exact hHW.reg (by omega)
  have m2 : W.cell? ⟨hb, r2.toNat, none⟩ = some (.int .u32 (getX S r2)) := by rw [G2.out]; exact hHW.reg (by omega)
  have l1 := hH.h.lt
  have l2 := hH.m.lt
  have l3 := HB.out.size
  have HW := Lib.hid hW; clear hW kp
  go_quiet (fail)
  rename_i nq _
  obtain ⟨V, hV⟩ : ∃ V, V = W.drewN nq := ⟨_, rfl⟩
  rw [← hV]
  clear k0 k1 k2 k3 k4
  have K5V : W5 V w2.heap.size op rd r1 r2 n := hV ▸ K5.out.drewN nq
  obtain ⟨k0, k1, k2, k3, k4⟩ := K5V
  replace hHW : RefAt V hb mb S := hV ▸ hHW.drewN nq
  replace hT : Turn (Own hb mb) w V := hV ▸ hT.drewN nq
  replace hz : w2.heap.size < V.heap.size := by rw [hV]; exact hz
  have HV := Lib.hid hV; clear hV m1 m2
  have hpc := hHW.pc
  have hfr := hHW.h.free 32
  have hwy := hHW.why
  have hfw := hHW.h.free 34
  have nh : ¬ Own hb mb w2.heap.size := fun h => by rcases h with h | h <;> omega
  have g0 : (op == 46) = false := by simp; omega
  have g1 : (op == 47) = false := by simp; omega
  have g2 : decide (11 ≤ op) = true := by simp; omega
  have g3 : decide (op ≤ 15) = false := by simp; omega
  have g4 : decide (16 ≤ op) = true := by simp; omega
  have g5 : decide (op ≤ 18) = false := by simp; omega
  have g6 : (op == 3) = false := by simp; omega
  have g7 : (op == 4) = false := by simp; omega
  have g8 : decide (5 ≤ op) = true := by simp; omega
  have g9 : decide (op ≤ 10) = false := by simp; omega
  have g10 : (op == 1) = false := by simp; omega
  have g11 : (op == 2) = false := by simp; omega
  have g12 : decide (19 ≤ op) = true := by simp; omega
  have g13 : decide (op ≤ 27) = true := by simp; omega
  have hio := imOp_bd (op - 19)
  have hk9 : op = 19 ∨ op = 20 ∨ op = 21 ∨ op = 22 ∨ op = 23 ∨ op = 24 ∨ op = 25 ∨ op = 26 ∨ op = 27 := by omega
  go_wp2_with fail
  obtain ⟨Y, hY⟩ : ∃ Y, Y = V.alloc (.cells #[.int .i64 28, .int .i64 31, .int .i64 32, .int .i64 33, .int .i64 36, .int .i64 37, .int .i64 30, .int .i64 34, .int .i64 35] 83) := ⟨_, rfl⟩
  rw [← hY]
  have y0 : Y.cell? ⟨w2.heap.size, 0, none⟩ = some (.int .i64 op) := by rw [hY, World.cell?_alloc_lt _ _ _ hz]; exact k0
  have y1 : Y.cell? ⟨w2.heap.size, 1, none⟩ = some (.int .i64 rd) := by rw [hY, World.cell?_alloc_lt _ _ _ hz]; exact k1
  have y2 : Y.cell? ⟨V.heap.size, (op - 19).toNat, none⟩ = some (.int .i64 (imOp (op - 19))) := by
    rw [hY, World.cell?_alloc_new]
    clear hY
    rcases hk9 with h | h | h | h | h | h | h | h | h <;> rw [h] <;> rfl
  replace hHW : RefAt Y hb mb S := hY ▸ hHW.alloc _
  replace hT : Turn (Own hb mb) w Y := hY ▸ hT.alloc _
  have hzY : w2.heap.size < Y.heap.size := by rw [hY, World.size_alloc]; omega
  have hzV : V.heap.size < Y.heap.size := by rw [hY, World.size_alloc]; omega
  have nv : ¬ Own hb mb V.heap.size := fun h => by rcases h with h | h <;> omega
  have HY := Lib.hid hY; clear hY hpc hfr hwy hfw k0 k1 k2 k3 k4
  have K := Lib.hid (⟨y0, y1, y2⟩ : (Y.cell? ⟨w2.heap.size, 0, none⟩ = some (.int .i64 op) ∧ Y.cell? ⟨w2.heap.size, 1, none⟩ = some (.int .i64 rd) ∧ Y.cell? ⟨V.heap.size, (op - 19).toNat, none⟩ = some (.int .i64 (imOp (op - 19)))))
  have es := IntWalk.i64_in (op - 19) (by omega)
  have HK9 := Lib.hid hk9; clear hk9
  refine wp_region_held_drew (S := fun w' => (w'.cell? ⟨w2.heap.size, 0, none⟩ = some (.int .i64 op) ∧ w'.cell? ⟨w2.heap.size, 1, none⟩ = some (.int .i64 rd) ∧ w'.cell? ⟨V.heap.size, (op - 19).toNat, none⟩ = some (.int .i64 (imOp (op - 19))))) (by kernel_rfl) K.out (fun hHeld => ?_)
  refine wpAnyH_take (i := 0) (v := .pointer (some ⟨hb, 0, none⟩)) rfl (by kernel_rfl) (by kernel_rfl) (by kernel_rfl) (fun _ _ _ h => h) (Or.inl ⟨by rfl, ?_⟩) (by assumption) ?_
  · intro w' hSw; obtain ⟨s0, s1, s4⟩ := hSw; clear hHeld; go_simp
  try simp only [Act.put, List.setIfInBounds_toArray, List.set_cons_zero, List.set_cons_succ]
  refine wpAnyH_take (i := 1) (v := .pointer (some ⟨w2.heap.size, 1, none⟩)) rfl (by kernel_rfl) (by kernel_rfl) (by kernel_rfl) (fun _ _ _ h => h) (Or.inl ⟨by rfl, ?_⟩) (by assumption) ?_
  · intro w' hSw; obtain ⟨s0, s1, s4⟩ := hSw; clear hHeld; go_simp
  try simp only [Act.put, List.setIfInBounds_toArray, List.set_cons_zero, List.set_cons_succ]
  refine wpAnyH_take (i := 2) (v := .int .i64 rd) rfl (by kernel_rfl) (by kernel_rfl) (by kernel_rfl) (fun _ _ _ h => h) (Or.inl ⟨by rfl, ?_⟩) (by assumption) ?_
  · intro w' hSw; obtain ⟨s0, s1, s4⟩ := hSw; clear hHeld; go_simp
  try simp only [Act.put, List.setIfInBounds_toArray, List.set_cons_zero, List.set_cons_succ]
  refine wpAnyH_take (i := 3) (v := .pointer (some ⟨w2.heap.size, 0, none⟩)) rfl (by kernel_rfl) (by kernel_rfl) (by kernel_rfl) (fun _ _ _ h => h) (Or.inl ⟨by rfl, ?_⟩) (by assumption) ?_
  · intro w' hSw; obtain ⟨s0, s1, s4⟩ := hSw; clear hHeld; go_simp
  try simp only [Act.put, List.setIfInBounds_toArray, List.set_cons_zero, List.set_cons_succ]
  refine wpAnyH_take (i := 4) (v := .int .i64 op) rfl (by kernel_rfl) (by kernel_rfl) (by kernel_rfl) (fun _ _ _ h => h) (Or.inl ⟨by rfl, ?_⟩) (by assumption) ?_
  · intro w' hSw; obtain ⟨s0, s1, s4⟩ := hSw; clear hHeld; go_simp
  try simp only [Act.put, List.setIfInBounds_toArray, List.set_cons_zero, List.set_cons_succ]
  refine wpAnyH_take (i := 5) (v := .int .i64 (op - 19)) rfl (by kernel_rfl) (by kernel_rfl) (by kernel_rfl) (fun _ _ _ h => h) (Or.inl ⟨by rfl, ?_⟩) (by assumption) ?_
  · intro w' hSw; obtain ⟨s0, s1, s4⟩ := hSw; clear hHeld; go_simp
  try simp only [Act.put, List.setIfInBounds_toArray, List.set_cons_zero, List.set_cons_succ]
  refine wpAnyH_take (i := 6) (v := .pointer (some ⟨V.heap.size, (op - 19).toNat, none⟩)) rfl (by kernel_rfl) (by kernel_rfl) (by kernel_rfl) (fun _ _ _ h => h) (Or.inl ⟨by rfl, ?_⟩) (by assumption) ?_
  · intro w' hSw; clear hSw hHeld; rcases HK9.out with rfl | rfl | rfl | rfl | rfl | rfl | rfl | rfl | rfl <;> kernel_rfl
  try simp only [Act.put, List.setIfInBounds_toArray, List.set_cons_zero, List.set_cons_succ]
  refine wpAnyH_take (i := 7) (v := .int .i64 (imOp (op - 19))) rfl (by kernel_rfl) (by kernel_rfl) (by kernel_rfl) (fun _ _ _ h => h) (Or.inl ⟨by rfl, ?_⟩) (by assumption) ?_
  · intro w' hSw; obtain ⟨s0, s1, s4⟩ := hSw; clear hHeld; go_simp
  try simp only [Act.put, List.setIfInBounds_toArray, List.set_cons_zero, List.set_cons_succ]
  refine wpAnyH_take (i := 8) (v := .int .u32 (getX S r1)) rfl (by kernel_rfl) (by kernel_rfl) (by kernel_rfl) (fun _ _ _ h => h) (Or.inl ⟨by rfl, ?_⟩) (by assumption) ?_
  · intro w' hSw; obtain ⟨s0, s1, s4⟩ := hSw; clear hHeld; go_simp
  try simp only [Act.put, List.setIfInBounds_toArray, List.set_cons_zero, List.set_cons_succ]
  refine wpAnyH_take (i := 9) (v := .int .u32 (n % 4294967296)) rfl (by kernel_rfl) (by kernel_rfl) (by kernel_rfl) (fun _ _ _ h => h) (Or.inl ⟨by rfl, ?_⟩) (by assumption) ?_
  · intro w' hSw; obtain ⟨s0, s1, s4⟩ := hSw; clear hHeld; go_simp
  try simp only [Act.put, List.setIfInBounds_toArray, List.set_cons_zero, List.set_cons_succ]
  refine wpAnyH_ready (rs := [10]) (by kernel_rfl) (by simp) ?_
  refine AllReadyH.cons (o := _) rfl (fun K' hK => ?_) AllReadyH.nil
  go_simp
  refine (ref_Alu (imOp (op - 19)) (getX S r1) (n % 4294967296) (has_i64.2 (by omega)) (has_u32.2 (by omega)) (has_u32.2 (by omega)) _).mono ?_
  rintro e w3 ⟨rfl, hB⟩
  have K1 := (⟨(hB.cell (p := ⟨w2.heap.size, 0, none⟩) hzY).trans K.out.1, (hB.cell (p := ⟨w2.heap.size, 1, none⟩) hzY).trans K.out.2.1, (hB.cell (p := ⟨V.heap.size, (op - 19).toNat, none⟩) hzV).trans K.out.2.2⟩ : (w3.cell? ⟨w2.heap.size, 0, none⟩ = some (.int .i64 op) ∧ w3.cell? ⟨w2.heap.size, 1, none⟩ = some (.int .i64 rd) ∧ w3.cell? ⟨V.heap.size, (op - 19).toNat, none⟩ = some (.int .i64 (imOp (op - 19)))))
  have hz3 : w2.heap.size < w3.heap.size := Nat.lt_of_lt_of_le hzY hB.size
  have hz4 : V.heap.size < w3.heap.size := Nat.lt_of_lt_of_le hzV hB.size
  have hH3 := hHW.drew.below hB
  have hT3 := hT.drew.trans (Turn.of_below (p := Own hb mb) hB)
  have HB3 := Lib.hid hB
  clear hB
  refine hK.out _ _ K1 (fun hHeld2 => ?_)
  clear hK K'
  try simp only [Act.put, List.setIfInBounds_toArray, List.set_cons_zero, List.set_cons_succ]
  refine wpAnyH_ready (rs := [11]) (by kernel_rfl) (by simp) ?_
  refine AllReadyH.cons (o := _) rfl (fun K' hK => ?_) AllReadyH.nil
  go_simp
  refine (ref_set _ hb mb S hH3 rd _ hr.1 hr.2).mono ?_
  rintro e w4 ⟨rfl, hM⟩
  have K2 := (⟨(hM.turn.cell (i := 0) hz3 nh).trans K1.1, (hM.turn.cell (i := 1) hz3 nh).trans K1.2.1, (hM.turn.cell (i := (op - 19).toNat) hz4 nv).trans K1.2.2⟩ : (w4.cell? ⟨w2.heap.size, 0, none⟩ = some (.int .i64 op) ∧ w4.cell? ⟨w2.heap.size, 1, none⟩ = some (.int .i64 rd) ∧ w4.cell? ⟨V.heap.size, (op - 19).toNat, none⟩ = some (.int .i64 (imOp (op - 19)))))
  have c1 := hM.at_.pc
  have c2 := hM.at_.h.free 32
  have HM := Lib.hid hM
  clear hM
  refine hK.out _ _ K2 (fun hHeld3 => ?_)
  clear hK K'
  try simp only [Act.put, List.setIfInBounds_toArray, List.set_cons_zero, List.set_cons_succ]
  refine wpAnyH_done (by kernel_rfl) ?_ _
  go_wp2_with fail
  go_ret
  exact ⟨rfl, by unfold nxt; simpa using HM.out.at_.setPC _, (hT3.trans HM.out.turn).set (Or.inl rfl) _⟩
end Go.Proofs.Ytpclikbjpjoccaa
