/-
  Texts of this claim, laid together by a program: HoD HoE HoC.
-/
import Derived.Test.YtpclikbjpjoccaaM4
import Derived.Test.YtpclikbjpjoccaaM3
import Derived.Test.YtpclikbjpjoccaaBitP
import Derived.Deep.QuietTactic
import Derived.BigQuiet
import Derived.StillTailTactics
import Derived.Deep.RegionHeld3
import Derived.Defers
import Derived.Recover
import Derived.Laws.Pointers
namespace Go.Proofs.Ytpclikbjpjoccaa
open Go Go.RowKit Go.Sx
set_option linter.unusedVariables false
set_option linter.unusedSimpArgs false
abbrev I64 (a : Int) : Prop := -9223372036854775808 ≤ a ∧ a ≤ 9223372036854775807
theorem q_X (W : World) (hb mb : Nat) (S : HS) (hH : HostAt W hb mb S) (i : Int) (hi : I64 i) :
    Calls Try.prog 21 #[.pointer (some ⟨hb, 0, none⟩), .int .i64 i] W fun e w' => e = .returned (.int .u32 (getX S i)) ∧ w' = W :=
  (host_X W hb mb S hH i hi.1 hi.2).mono fun _ _ h => ⟨h.1, h.2.symm⟩
theorem even_u32 (a : Int) (h0 : 0 ≤ a) (h1 : a < 4294967296) : bits .andNot .u32 a 1 = a - a % 2 := by
  show IntKind.u32.wrap (((BitVec.ofInt 32 a) &&& ~~~(BitVec.ofInt 32 1)).toNat : Int) = _
  have s := bv_split (BitVec.ofInt 32 a) (~~~(BitVec.ofInt 32 1))
  have hM : ~~~(~~~(BitVec.ofInt 32 1)) = 1#32 := by decide
  rw [hM] at s
  have t := congrArg BitVec.toNat s
  rw [BitVec.toNat_add] at t
  have e : ((BitVec.ofInt 32 a) &&& 1#32).toNat = (a % 4294967296).toNat % 2 := by
    have hb : (1#32).toNat = 2 ^ 1 - 1 := by decide
    rw [BitVec.toNat_and, hb, Nat.and_two_pow_sub_one_eq_mod, BitVec.toNat_ofInt]
    rfl
  have e2 : (BitVec.ofInt 32 a).toNat = a.toNat := by
    rw [BitVec.toNat_ofInt]
    have : (a % ((2 ^ 32 : Nat) : Int)) = a := Int.emod_eq_of_lt h0 h1
    rw [this]
  have e3 : ((BitVec.ofInt 32 a) &&& ~~~(BitVec.ofInt 32 1)).toNat ≤ a.toNat := by
    rw [← e2, BitVec.toNat_and]; exact Nat.and_le_left
  rw [e, e2] at t
  rw [IntKind.wrap_u32]
  generalize ((BitVec.ofInt 32 a) &&& ~~~(BitVec.ofInt 32 1)).toNat = q at *
  omega
theorem HostAt.below {w w' : World} {hb mb : Nat} {S : HS} (k : HostAt w hb mb S) (h : Below w.heap.size w w') : HostAt w' hb mb S := k.keep (p := fun _ => False) (Turn.of_below h) id id
set_option maxHeartbeats 2000000 in
set_option maxRecDepth 100000 in
theorem does_lui (w : World) (hb mb : Nat) (S : HS) (hH : HostAt w hb mb S) (hG : Good S) (rd r1 r2 n : Int) (hd : I64 rd) (h1 : I64 r1) (h2 : I64 r2) (hn : -2147483648 ≤ n ∧ n ≤ 2147483647) :
    Calls Try.prog 41 #[.pointer (some ⟨hb, 0, none⟩), .agg #[.int .i64 1, .int .i64 rd, .int .i64 r1, .int .i64 r2, .int .i32 n]] w fun e w' => e = .returned (.int .i64 0) ∧ Makes w hb mb ((putX S rd (n % 4294967296)).setPC ((S.pc + 4) % 4294967296)) w' := by
  have hpc : ∀ o, (w.alloc o).cell? ⟨hb, 33, none⟩ = some (.int .u32 S.pc) := fun o => (hH.alloc o).pc
  have hp0 := hG.pc
  have a0 := getX_bd hG r1
  have b0 := getX_bd hG r2
  go_enter Try.func41, Try.ntmps41
  go_wp2_with fail
  obtain ⟨W, hW⟩ : ∃ W, W = w.alloc (.cells #[.int .i64 1, .int .i64 rd, .int .i64 r1, .int .i64 r2, .int .i32 n] 39) := ⟨_, rfl⟩
  rw [← hW]
  have K5 := Lib.hid (W5.new hW)
  obtain ⟨k0, k1, k2, k3, k4⟩ := K5.out
  have hHW : HostAt W hb mb S := hW ▸ hH.alloc _
  have hT : Turn (Own hb mb) w W := hW ▸ (Turn.refl _ w).alloc _
  have hz : w.heap.size < W.heap.size := by rw [hW]; simp
  have HW := Lib.hid hW; clear hW hpc
  go_quiet ((go_at_call 21; exact Calls.quiet_of_same (q_X _ hb mb S (hHW.drewN _) _ (by assumption))))
  rename_i nq _
  obtain ⟨V, hV⟩ : ∃ V, V = W.drewN nq := ⟨_, rfl⟩
  rw [← hV]
  clear k0 k1 k2 k3 k4
  have K5V : W5 V w.heap.size 1 rd r1 r2 n := hV ▸ K5.out.drewN nq
  obtain ⟨k0, k1, k2, k3, k4⟩ := K5V
  replace hHW : HostAt V hb mb S := hV ▸ hHW.drewN nq
  replace hT : Turn (Own hb mb) w V := hV ▸ hT.drewN nq
  replace hz : w.heap.size < V.heap.size := by rw [hV]; exact hz
  have HV := Lib.hid hV; clear hV
  have hpc := hHW.pc
  have hfr := hHW.h.free 33
  have nh : ¬ Own hb mb w.heap.size := fun h => by have := hH.h.lt; have := hH.m.lt; rcases h with h | h <;> omega
  go_wp2_with (go_at_call 19; refine (host_SetX _ hb mb S hHW rd _ hd.1 hd.2).mono ?_; rintro e w1 ⟨rfl, hM⟩; have c1 := hM.at_.pc; have c2 := hM.at_.h.free 33; have HM := Lib.hid hM; clear hM)
  go_ret
  exact ⟨rfl, HM.out.at_.setPC _, (hT.trans HM.out.turn).set (Or.inl rfl) _⟩
set_option maxHeartbeats 2000000 in
set_option maxRecDepth 100000 in
theorem does_auipc (w : World) (hb mb : Nat) (S : HS) (hH : HostAt w hb mb S) (hG : Good S) (rd r1 r2 n : Int) (hd : I64 rd) (h1 : I64 r1) (h2 : I64 r2) (hn : -2147483648 ≤ n ∧ n ≤ 2147483647) :
    Calls Try.prog 41 #[.pointer (some ⟨hb, 0, none⟩), .agg #[.int .i64 2, .int .i64 rd, .int .i64 r1, .int .i64 r2, .int .i32 n]] w fun e w' => e = .returned (.int .i64 0) ∧ Makes w hb mb ((putX S rd ((S.pc + n) % 4294967296)).setPC ((S.pc + 4) % 4294967296)) w' := by
  have hpc : ∀ o, (w.alloc o).cell? ⟨hb, 33, none⟩ = some (.int .u32 S.pc) := fun o => (hH.alloc o).pc
  have hp0 := hG.pc
  have a0 := getX_bd hG r1
  have b0 := getX_bd hG r2
  go_enter Try.func41, Try.ntmps41
  go_wp2_with fail
  obtain ⟨W, hW⟩ : ∃ W, W = w.alloc (.cells #[.int .i64 2, .int .i64 rd, .int .i64 r1, .int .i64 r2, .int .i32 n] 39) := ⟨_, rfl⟩
  rw [← hW]
  have K5 := Lib.hid (W5.new hW)
  obtain ⟨k0, k1, k2, k3, k4⟩ := K5.out
  have hHW : HostAt W hb mb S := hW ▸ hH.alloc _
  have hT : Turn (Own hb mb) w W := hW ▸ (Turn.refl _ w).alloc _
  have hz : w.heap.size < W.heap.size := by rw [hW]; simp
  have HW := Lib.hid hW; clear hW hpc
  go_quiet ((go_at_call 21; exact Calls.quiet_of_same (q_X _ hb mb S (hHW.drewN _) _ (by assumption))))
  rename_i nq _
  obtain ⟨V, hV⟩ : ∃ V, V = W.drewN nq := ⟨_, rfl⟩
  rw [← hV]
  clear k0 k1 k2 k3 k4
  have K5V : W5 V w.heap.size 2 rd r1 r2 n := hV ▸ K5.out.drewN nq
  obtain ⟨k0, k1, k2, k3, k4⟩ := K5V
  replace hHW : HostAt V hb mb S := hV ▸ hHW.drewN nq
  replace hT : Turn (Own hb mb) w V := hV ▸ hT.drewN nq
  replace hz : w.heap.size < V.heap.size := by rw [hV]; exact hz
  have HV := Lib.hid hV; clear hV
  have hpc := hHW.pc
  have hfr := hHW.h.free 33
  have nh : ¬ Own hb mb w.heap.size := fun h => by have := hH.h.lt; have := hH.m.lt; rcases h with h | h <;> omega
  go_wp2_with fail
  go_still_tail 11, (by kernel_rfl)
  change wpList _ _ _ _ _ V.drew
  obtain ⟨V2, hV2⟩ : ∃ V2, V2 = V.drew := ⟨_, rfl⟩
  rw [← hV2]
  have hH2 : HostAt V2 hb mb S := hV2 ▸ hHW.drew
  have hT2 : Turn (Own hb mb) w V2 := hV2 ▸ hT.drew
  have p2 := hH2.pc
  have f2 := hH2.h.free 33
  have HV2 := Lib.hid hV2; clear hV2
  go_wp2_with (go_at_call 19; refine (host_SetX _ hb mb S hH2 rd _ hd.1 hd.2).mono ?_; rintro e w1 ⟨rfl, hM⟩; have c1 := hM.at_.pc; have c2 := hM.at_.h.free 33; have HM := Lib.hid hM; clear hM)
  go_ret
  exact ⟨rfl, by simpa using HM.out.at_.setPC _, (hT2.trans HM.out.turn).set (Or.inl rfl) _⟩
set_option maxHeartbeats 2000000 in
set_option maxRecDepth 100000 in
theorem does_jal (w : World) (hb mb : Nat) (S : HS) (hH : HostAt w hb mb S) (hG : Good S) (rd r1 r2 n : Int) (hd : I64 rd) (h1 : I64 r1) (h2 : I64 r2) (hn : -2147483648 ≤ n ∧ n ≤ 2147483647) (hm : ((S.pc + n) % 4294967296) % 4 = 0) :
    Calls Try.prog 41 #[.pointer (some ⟨hb, 0, none⟩), .agg #[.int .i64 3, .int .i64 rd, .int .i64 r1, .int .i64 r2, .int .i32 n]] w fun e w' => e = .returned (.int .i64 0) ∧ Makes w hb mb ((putX S rd ((S.pc + 4) % 4294967296)).setPC ((S.pc + n) % 4294967296)) w' := by
  have hpc : ∀ o, (w.alloc o).cell? ⟨hb, 33, none⟩ = some (.int .u32 S.pc) := fun o => (hH.alloc o).pc
  have hp0 := hG.pc
  have a0 := getX_bd hG r1
  have b0 := getX_bd hG r2
  go_enter Try.func41, Try.ntmps41
  go_wp2_with fail
  obtain ⟨W, hW⟩ : ∃ W, W = w.alloc (.cells #[.int .i64 3, .int .i64 rd, .int .i64 r1, .int .i64 r2, .int .i32 n] 39) := ⟨_, rfl⟩
  rw [← hW]
  have K5 := Lib.hid (W5.new hW)
  obtain ⟨k0, k1, k2, k3, k4⟩ := K5.out
  have hHW : HostAt W hb mb S := hW ▸ hH.alloc _
  have hT : Turn (Own hb mb) w W := hW ▸ (Turn.refl _ w).alloc _
  have hz : w.heap.size < W.heap.size := by rw [hW]; simp
  have HW := Lib.hid hW; clear hW hpc
  go_quiet ((go_at_call 21; exact Calls.quiet_of_same (q_X _ hb mb S (hHW.drewN _) _ (by assumption))))
  rename_i nq _
  obtain ⟨V, hV⟩ : ∃ V, V = W.drewN nq := ⟨_, rfl⟩
  rw [← hV]
  clear k0 k1 k2 k3 k4
  have K5V : W5 V w.heap.size 3 rd r1 r2 n := hV ▸ K5.out.drewN nq
  obtain ⟨k0, k1, k2, k3, k4⟩ := K5V
  replace hHW : HostAt V hb mb S := hV ▸ hHW.drewN nq
  replace hT : Turn (Own hb mb) w V := hV ▸ hT.drewN nq
  replace hz : w.heap.size < V.heap.size := by rw [hV]; exact hz
  have HV := Lib.hid hV; clear hV
  have hpc := hHW.pc
  have hfr := hHW.h.free 33
  have nh : ¬ Own hb mb w.heap.size := fun h => by have := hH.h.lt; have := hH.m.lt; rcases h with h | h <;> omega
  go_wp2_with fail
  go_still_tail 11, (by kernel_rfl)
  change wpList _ _ _ _ _ V.drew
  obtain ⟨V2, hV2⟩ : ∃ V2, V2 = V.drew := ⟨_, rfl⟩
  rw [← hV2]
  have hH2 : HostAt V2 hb mb S := hV2 ▸ hHW.drew
  have hT2 : Turn (Own hb mb) w V2 := hV2 ▸ hT.drew
  have p2 := hH2.pc
  have f2 := hH2.h.free 33
  have HV2 := Lib.hid hV2; clear hV2
  go_wp2_with (go_at_call 60; refine (host_links _ hb mb S hH2 hG rd _ hd.1 hd.2 (by omega) (by omega) (by first | assumption | (simpa using hm))).mono ?_; rintro e w1 ⟨rfl, hM⟩; have HM := Lib.hid hM; clear hM)
  go_ret
  exact ⟨rfl, by simpa using HM.out.at_, hT2.trans HM.out.turn⟩
set_option maxHeartbeats 2000000 in
set_option maxRecDepth 100000 in
theorem does_jal_no (w : World) (hb mb : Nat) (S : HS) (hH : HostAt w hb mb S) (hG : Good S) (rd r1 r2 n : Int) (hd : I64 rd) (h1 : I64 r1) (h2 : I64 r2) (hn : -2147483648 ≤ n ∧ n ≤ 2147483647) (hm : ((S.pc + n) % 4294967296) % 4 ≠ 0) :
    Calls Try.prog 41 #[.pointer (some ⟨hb, 0, none⟩), .agg #[.int .i64 3, .int .i64 rd, .int .i64 r1, .int .i64 r2, .int .i32 n]] w fun e w' => e = trapE 5 ((S.pc + n) % 4294967296) ∧ Makes w hb mb S w' := by
  have hpc : ∀ o, (w.alloc o).cell? ⟨hb, 33, none⟩ = some (.int .u32 S.pc) := fun o => (hH.alloc o).pc
  have hp0 := hG.pc
  have a0 := getX_bd hG r1
  have b0 := getX_bd hG r2
  go_enter Try.func41, Try.ntmps41
  go_wp2_with fail
  obtain ⟨W, hW⟩ : ∃ W, W = w.alloc (.cells #[.int .i64 3, .int .i64 rd, .int .i64 r1, .int .i64 r2, .int .i32 n] 39) := ⟨_, rfl⟩
  rw [← hW]
  have K5 := Lib.hid (W5.new hW)
  obtain ⟨k0, k1, k2, k3, k4⟩ := K5.out
  have hHW : HostAt W hb mb S := hW ▸ hH.alloc _
  have hT : Turn (Own hb mb) w W := hW ▸ (Turn.refl _ w).alloc _
  have hz : w.heap.size < W.heap.size := by rw [hW]; simp
  have HW := Lib.hid hW; clear hW hpc
  go_quiet ((go_at_call 21; exact Calls.quiet_of_same (q_X _ hb mb S (hHW.drewN _) _ (by assumption))))
  rename_i nq _
  obtain ⟨V, hV⟩ : ∃ V, V = W.drewN nq := ⟨_, rfl⟩
  rw [← hV]
  clear k0 k1 k2 k3 k4
  have K5V : W5 V w.heap.size 3 rd r1 r2 n := hV ▸ K5.out.drewN nq
  obtain ⟨k0, k1, k2, k3, k4⟩ := K5V
  replace hHW : HostAt V hb mb S := hV ▸ hHW.drewN nq
  replace hT : Turn (Own hb mb) w V := hV ▸ hT.drewN nq
  replace hz : w.heap.size < V.heap.size := by rw [hV]; exact hz
  have HV := Lib.hid hV; clear hV
  have hpc := hHW.pc
  have hfr := hHW.h.free 33
  have nh : ¬ Own hb mb w.heap.size := fun h => by have := hH.h.lt; have := hH.m.lt; rcases h with h | h <;> omega
  go_wp2_with fail
  go_still_tail 11, (by kernel_rfl)
  change wpList _ _ _ _ _ V.drew
  obtain ⟨V2, hV2⟩ : ∃ V2, V2 = V.drew := ⟨_, rfl⟩
  rw [← hV2]
  have hH2 : HostAt V2 hb mb S := hV2 ▸ hHW.drew
  have hT2 : Turn (Own hb mb) w V2 := hV2 ▸ hT.drew
  have p2 := hH2.pc
  have f2 := hH2.h.free 33
  have HV2 := Lib.hid hV2; clear hV2
  go_wp2_with (go_at_call 60; refine (host_links_no _ hb rd _ (by omega) (by omega) (by first | assumption | (simpa using hm))).mono ?_; rintro e w1 ⟨rfl, rfl⟩)
  exact ⟨rfl, by simp, hH2, hT2⟩
set_option maxHeartbeats 2000000 in
set_option maxRecDepth 100000 in
theorem does_jalr (w : World) (hb mb : Nat) (S : HS) (hH : HostAt w hb mb S) (hG : Good S) (rd r1 r2 n : Int) (hd : I64 rd) (h1 : I64 r1) (h2 : I64 r2) (hn : -2147483648 ≤ n ∧ n ≤ 2147483647) (hm : ((getX S r1 + n) % 4294967296 - (getX S r1 + n) % 4294967296 % 2) % 4 = 0) :
    Calls Try.prog 41 #[.pointer (some ⟨hb, 0, none⟩), .agg #[.int .i64 4, .int .i64 rd, .int .i64 r1, .int .i64 r2, .int .i32 n]] w fun e w' => e = .returned (.int .i64 0) ∧ Makes w hb mb ((putX S rd ((S.pc + 4) % 4294967296)).setPC ((getX S r1 + n) % 4294967296 - (getX S r1 + n) % 4294967296 % 2)) w' := by
  have hpc : ∀ o, (w.alloc o).cell? ⟨hb, 33, none⟩ = some (.int .u32 S.pc) := fun o => (hH.alloc o).pc
  have hp0 := hG.pc
  have a0 := getX_bd hG r1
  have b0 := getX_bd hG r2
  go_enter Try.func41, Try.ntmps41
  go_wp2_with fail
  obtain ⟨W, hW⟩ : ∃ W, W = w.alloc (.cells #[.int .i64 4, .int .i64 rd, .int .i64 r1, .int .i64 r2, .int .i32 n] 39) := ⟨_, rfl⟩
  rw [← hW]
  have K5 := Lib.hid (W5.new hW)
  obtain ⟨k0, k1, k2, k3, k4⟩ := K5.out
  have hHW : HostAt W hb mb S := hW ▸ hH.alloc _
  have hT : Turn (Own hb mb) w W := hW ▸ (Turn.refl _ w).alloc _
  have hz : w.heap.size < W.heap.size := by rw [hW]; simp
  have HW := Lib.hid hW; clear hW hpc
  go_quiet ((go_at_call 21; exact Calls.quiet_of_same (q_X _ hb mb S (hHW.drewN _) _ (by assumption))))
  rename_i nq _
  obtain ⟨V, hV⟩ : ∃ V, V = W.drewN nq := ⟨_, rfl⟩
  rw [← hV]
  clear k0 k1 k2 k3 k4
  have K5V : W5 V w.heap.size 4 rd r1 r2 n := hV ▸ K5.out.drewN nq
  obtain ⟨k0, k1, k2, k3, k4⟩ := K5V
  replace hHW : HostAt V hb mb S := hV ▸ hHW.drewN nq
  replace hT : Turn (Own hb mb) w V := hV ▸ hT.drewN nq
  replace hz : w.heap.size < V.heap.size := by rw [hV]; exact hz
  have HV := Lib.hid hV; clear hV
  have hpc := hHW.pc
  have hfr := hHW.h.free 33
  have nh : ¬ Own hb mb w.heap.size := fun h => by have := hH.h.lt; have := hH.m.lt; rcases h with h | h <;> omega
  have a0 := getX_bd hG r1
  have E := Lib.hid (even_u32 ((getX S r1 + n) % 4294967296) (by omega) (by omega))
  go_wp2_with (go_at_call 60; rw [E.out]; refine (host_links _ hb mb S hHW hG rd _ hd.1 hd.2 (by omega) (by omega) (by first | assumption | (simpa using hm))).mono ?_; rintro e w1 ⟨rfl, hM⟩; have HM := Lib.hid hM; clear hM)
  go_ret
  exact ⟨rfl, HM.out.at_, hT.trans HM.out.turn⟩
set_option maxHeartbeats 2000000 in
set_option maxRecDepth 100000 in
theorem does_jalr_no (w : World) (hb mb : Nat) (S : HS) (hH : HostAt w hb mb S) (hG : Good S) (rd r1 r2 n : Int) (hd : I64 rd) (h1 : I64 r1) (h2 : I64 r2) (hn : -2147483648 ≤ n ∧ n ≤ 2147483647) (hm : ((getX S r1 + n) % 4294967296 - (getX S r1 + n) % 4294967296 % 2) % 4 ≠ 0) :
    Calls Try.prog 41 #[.pointer (some ⟨hb, 0, none⟩), .agg #[.int .i64 4, .int .i64 rd, .int .i64 r1, .int .i64 r2, .int .i32 n]] w fun e w' => e = trapE 5 ((getX S r1 + n) % 4294967296 - (getX S r1 + n) % 4294967296 % 2) ∧ Makes w hb mb S w' := by
  have hpc : ∀ o, (w.alloc o).cell? ⟨hb, 33, none⟩ = some (.int .u32 S.pc) := fun o => (hH.alloc o).pc
  have hp0 := hG.pc
  have a0 := getX_bd hG r1
  have b0 := getX_bd hG r2
  go_enter Try.func41, Try.ntmps41
  go_wp2_with fail
  obtain ⟨W, hW⟩ : ∃ W, W = w.alloc (.cells #[.int .i64 4, .int .i64 rd, .int .i64 r1, .int .i64 r2, .int .i32 n] 39) := ⟨_, rfl⟩
  rw [← hW]
  have K5 := Lib.hid (W5.new hW)
  obtain ⟨k0, k1, k2, k3, k4⟩ := K5.out
  have hHW : HostAt W hb mb S := hW ▸ hH.alloc _
  have hT : Turn (Own hb mb) w W := hW ▸ (Turn.refl _ w).alloc _
  have hz : w.heap.size < W.heap.size := by rw [hW]; simp
  have HW := Lib.hid hW; clear hW hpc
  go_quiet ((go_at_call 21; exact Calls.quiet_of_same (q_X _ hb mb S (hHW.drewN _) _ (by assumption))))
  rename_i nq _
  obtain ⟨V, hV⟩ : ∃ V, V = W.drewN nq := ⟨_, rfl⟩
  rw [← hV]
  clear k0 k1 k2 k3 k4
  have K5V : W5 V w.heap.size 4 rd r1 r2 n := hV ▸ K5.out.drewN nq
  obtain ⟨k0, k1, k2, k3, k4⟩ := K5V
  replace hHW : HostAt V hb mb S := hV ▸ hHW.drewN nq
  replace hT : Turn (Own hb mb) w V := hV ▸ hT.drewN nq
  replace hz : w.heap.size < V.heap.size := by rw [hV]; exact hz
  have HV := Lib.hid hV; clear hV
  have hpc := hHW.pc
  have hfr := hHW.h.free 33
  have nh : ¬ Own hb mb w.heap.size := fun h => by have := hH.h.lt; have := hH.m.lt; rcases h with h | h <;> omega
  have a0 := getX_bd hG r1
  have E := Lib.hid (even_u32 ((getX S r1 + n) % 4294967296) (by omega) (by omega))
  go_wp2_with (go_at_call 60; rw [E.out]; refine (host_links_no _ hb rd _ (by omega) (by omega) (by first | assumption | (simpa using hm))).mono ?_; rintro e w1 ⟨rfl, rfl⟩)
  exact ⟨rfl, by simp, hHW, hT⟩
set_option maxHeartbeats 2000000 in
set_option maxRecDepth 100000 in
theorem does_branch_not (w : World) (hb mb : Nat) (S : HS) (hH : HostAt w hb mb S) (hG : Good S) (op rd r1 r2 n : Int) (hd : I64 rd) (h1 : I64 r1) (h2 : I64 r2) (hn : -2147483648 ≤ n ∧ n ≤ 2147483647) (ho : 5 ≤ op ∧ op ≤ 10) (hk : hoTaken op (getX S r1) (getX S r2) = false) :
    Calls Try.prog 41 #[.pointer (some ⟨hb, 0, none⟩), .agg #[.int .i64 op, .int .i64 rd, .int .i64 r1, .int .i64 r2, .int .i32 n]] w fun e w' => e = .returned (.int .i64 0) ∧ Makes w hb mb (S.setPC ((S.pc + 4) % 4294967296)) w' := by
  have hpc : ∀ o, (w.alloc o).cell? ⟨hb, 33, none⟩ = some (.int .u32 S.pc) := fun o => (hH.alloc o).pc
  have hp0 := hG.pc
  have a0 := getX_bd hG r1
  have b0 := getX_bd hG r2
  go_enter Try.func41, Try.ntmps41
  go_wp2_with fail
  obtain ⟨W, hW⟩ : ∃ W, W = w.alloc (.cells #[.int .i64 op, .int .i64 rd, .int .i64 r1, .int .i64 r2, .int .i32 n] 39) := ⟨_, rfl⟩
  rw [← hW]
  have K5 := Lib.hid (W5.new hW)
  obtain ⟨k0, k1, k2, k3, k4⟩ := K5.out
  have hHW : HostAt W hb mb S := hW ▸ hH.alloc _
  have hT : Turn (Own hb mb) w W := hW ▸ (Turn.refl _ w).alloc _
  have hz : w.heap.size < W.heap.size := by rw [hW]; simp
  have HW := Lib.hid hW; clear hW hpc
  go_quiet ((go_at_call 21; exact Calls.quiet_of_same (q_X _ hb mb S (hHW.drewN _) _ (by assumption))))
  rename_i nq _
  obtain ⟨V, hV⟩ : ∃ V, V = W.drewN nq := ⟨_, rfl⟩
  rw [← hV]
  clear k0 k1 k2 k3 k4
  have K5V : W5 V w.heap.size op rd r1 r2 n := hV ▸ K5.out.drewN nq
  obtain ⟨k0, k1, k2, k3, k4⟩ := K5V
  replace hHW : HostAt V hb mb S := hV ▸ hHW.drewN nq
  replace hT : Turn (Own hb mb) w V := hV ▸ hT.drewN nq
  replace hz : w.heap.size < V.heap.size := by rw [hV]; exact hz
  have HV := Lib.hid hV; clear hV
  have hpc := hHW.pc
  have hfr := hHW.h.free 33
  have nh : ¬ Own hb mb w.heap.size := fun h => by have := hH.h.lt; have := hH.m.lt; rcases h with h | h <;> omega
  have a0 := getX_bd hG r1
  have b0 := getX_bd hG r2
  have HK := Lib.hid hk; clear hk
  have o1 : (op == 1) = false := by simp; omega
  have o2 : (op == 2) = false := by simp; omega
  have o3 : (op == 3) = false := by simp; omega
  have o4 : (op == 4) = false := by simp; omega
  have o5 : op ≤ 10 := by omega
  go_wp2_with (go_at_call 61; refine (host_taken op _ _ (has_i64.2 (by omega)) (has_u32.2 (by omega)) (has_u32.2 (by omega)) _).mono ?_; rw [HK.out]; rintro e w1 ⟨rfl, hB⟩; have hH1 := hHW.below hB; have hT1 := hT.trans (Turn.of_below (p := Own hb mb) hB); have p1 := hH1.pc; have f1 := hH1.h.free 33; have m4 := (hB.cell (p := ⟨w.heap.size, 4, none⟩) hz).trans k4; have HB := Lib.hid hB; clear hB)
  go_ret
  exact ⟨rfl, hH1.setPC _, hT1.set (Or.inl rfl) _⟩
set_option maxHeartbeats 2000000 in
set_option maxRecDepth 100000 in
theorem does_branch (w : World) (hb mb : Nat) (S : HS) (hH : HostAt w hb mb S) (hG : Good S) (op rd r1 r2 n : Int) (hd : I64 rd) (h1 : I64 r1) (h2 : I64 r2) (hn : -2147483648 ≤ n ∧ n ≤ 2147483647) (ho : 5 ≤ op ∧ op ≤ 10) (hk : hoTaken op (getX S r1) (getX S r2) = true) (hm : ((S.pc + n) % 4294967296) % 4 = 0) :
    Calls Try.prog 41 #[.pointer (some ⟨hb, 0, none⟩), .agg #[.int .i64 op, .int .i64 rd, .int .i64 r1, .int .i64 r2, .int .i32 n]] w fun e w' => e = .returned (.int .i64 0) ∧ Makes w hb mb (S.setPC ((S.pc + n) % 4294967296)) w' := by
  have hpc : ∀ o, (w.alloc o).cell? ⟨hb, 33, none⟩ = some (.int .u32 S.pc) := fun o => (hH.alloc o).pc
  have hp0 := hG.pc
  have a0 := getX_bd hG r1
  have b0 := getX_bd hG r2
  go_enter Try.func41, Try.ntmps41
  go_wp2_with fail
  obtain ⟨W, hW⟩ : ∃ W, W = w.alloc (.cells #[.int .i64 op, .int .i64 rd, .int .i64 r1, .int .i64 r2, .int .i32 n] 39) := ⟨_, rfl⟩
  rw [← hW]
  have K5 := Lib.hid (W5.new hW)
  obtain ⟨k0, k1, k2, k3, k4⟩ := K5.out
  have hHW : HostAt W hb mb S := hW ▸ hH.alloc _
  have hT : Turn (Own hb mb) w W := hW ▸ (Turn.refl _ w).alloc _
  have hz : w.heap.size < W.heap.size := by rw [hW]; simp
  have HW := Lib.hid hW; clear hW hpc
  go_quiet ((go_at_call 21; exact Calls.quiet_of_same (q_X _ hb mb S (hHW.drewN _) _ (by assumption))))
  rename_i nq _
  obtain ⟨V, hV⟩ : ∃ V, V = W.drewN nq := ⟨_, rfl⟩
  rw [← hV]
  clear k0 k1 k2 k3 k4
  have K5V : W5 V w.heap.size op rd r1 r2 n := hV ▸ K5.out.drewN nq
  obtain ⟨k0, k1, k2, k3, k4⟩ := K5V
  replace hHW : HostAt V hb mb S := hV ▸ hHW.drewN nq
  replace hT : Turn (Own hb mb) w V := hV ▸ hT.drewN nq
  replace hz : w.heap.size < V.heap.size := by rw [hV]; exact hz
  have HV := Lib.hid hV; clear hV
  have hpc := hHW.pc
  have hfr := hHW.h.free 33
  have nh : ¬ Own hb mb w.heap.size := fun h => by have := hH.h.lt; have := hH.m.lt; rcases h with h | h <;> omega
  have a0 := getX_bd hG r1
  have b0 := getX_bd hG r2
  have HK := Lib.hid hk; clear hk
  have o1 : (op == 1) = false := by simp; omega
  have o2 : (op == 2) = false := by simp; omega
  have o3 : (op == 3) = false := by simp; omega
  have o4 : (op == 4) = false := by simp; omega
  have o5 : op ≤ 10 := by omega
  go_wp2_with (go_at_call 61; refine (host_taken op _ _ (has_i64.2 (by omega)) (has_u32.2 (by omega)) (has_u32.2 (by omega)) _).mono ?_; rw [HK.out]; rintro e w1 ⟨rfl, hB⟩; have hH1 := hHW.below hB; have hT1 := hT.trans (Turn.of_below (p := Own hb mb) hB); have p1 := hH1.pc; have f1 := hH1.h.free 33; have m4 := (hB.cell (p := ⟨w.heap.size, 4, none⟩) hz).trans k4; have HB := Lib.hid hB; clear hB)
  go_still_tail 8, (by kernel_rfl)
  change wpList _ _ _ _ _ w1.drew
  obtain ⟨V2, hV2⟩ : ∃ V2, V2 = w1.drew := ⟨_, rfl⟩
  rw [← hV2]
  have hH2 : HostAt V2 hb mb S := hV2 ▸ hH1.drew
  have hT2 : Turn (Own hb mb) w V2 := hV2 ▸ hT1.drew
  have p2 := hH2.pc
  have f2 := hH2.h.free 33
  have HV2 := Lib.hid hV2; clear hV2
  go_wp2_with (go_at_call 62; refine (host_aligned _ (by omega) (by omega) (by first | assumption | (simpa using hm)) _).mono ?_; rintro e w3 ⟨rfl, rfl⟩)
  go_ret
  exact ⟨rfl, by simpa using hH2.setPC _, hT2.set (Or.inl rfl) _⟩
set_option maxHeartbeats 2000000 in
set_option maxRecDepth 100000 in
theorem does_branch_no (w : World) (hb mb : Nat) (S : HS) (hH : HostAt w hb mb S) (hG : Good S) (op rd r1 r2 n : Int) (hd : I64 rd) (h1 : I64 r1) (h2 : I64 r2) (hn : -2147483648 ≤ n ∧ n ≤ 2147483647) (ho : 5 ≤ op ∧ op ≤ 10) (hk : hoTaken op (getX S r1) (getX S r2) = true) (hm : ((S.pc + n) % 4294967296) % 4 ≠ 0) :
    Calls Try.prog 41 #[.pointer (some ⟨hb, 0, none⟩), .agg #[.int .i64 op, .int .i64 rd, .int .i64 r1, .int .i64 r2, .int .i32 n]] w fun e w' => e = trapE 5 ((S.pc + n) % 4294967296) ∧ Makes w hb mb S w' := by
  have hpc : ∀ o, (w.alloc o).cell? ⟨hb, 33, none⟩ = some (.int .u32 S.pc) := fun o => (hH.alloc o).pc
  have hp0 := hG.pc
  have a0 := getX_bd hG r1
  have b0 := getX_bd hG r2
  go_enter Try.func41, Try.ntmps41
  go_wp2_with fail
  obtain ⟨W, hW⟩ : ∃ W, W = w.alloc (.cells #[.int .i64 op, .int .i64 rd, .int .i64 r1, .int .i64 r2, .int .i32 n] 39) := ⟨_, rfl⟩
  rw [← hW]
  have K5 := Lib.hid (W5.new hW)
  obtain ⟨k0, k1, k2, k3, k4⟩ := K5.out
  have hHW : HostAt W hb mb S := hW ▸ hH.alloc _
  have hT : Turn (Own hb mb) w W := hW ▸ (Turn.refl _ w).alloc _
  have hz : w.heap.size < W.heap.size := by rw [hW]; simp
  have HW := Lib.hid hW; clear hW hpc
  go_quiet ((go_at_call 21; exact Calls.quiet_of_same (q_X _ hb mb S (hHW.drewN _) _ (by assumption))))
  rename_i nq _
  obtain ⟨V, hV⟩ : ∃ V, V = W.drewN nq := ⟨_, rfl⟩
  rw [← hV]
  clear k0 k1 k2 k3 k4
  have K5V : W5 V w.heap.size op rd r1 r2 n := hV ▸ K5.out.drewN nq
  obtain ⟨k0, k1, k2, k3, k4⟩ := K5V
  replace hHW : HostAt V hb mb S := hV ▸ hHW.drewN nq
  replace hT : Turn (Own hb mb) w V := hV ▸ hT.drewN nq
  replace hz : w.heap.size < V.heap.size := by rw [hV]; exact hz
  have HV := Lib.hid hV; clear hV
  have hpc := hHW.pc
  have hfr := hHW.h.free 33
  have nh : ¬ Own hb mb w.heap.size := fun h => by have := hH.h.lt; have := hH.m.lt; rcases h with h | h <;> omega
  have a0 := getX_bd hG r1
  have b0 := getX_bd hG r2
  have HK := Lib.hid hk; clear hk
  have o1 : (op == 1) = false := by simp; omega
  have o2 : (op == 2) = false := by simp; omega
  have o3 : (op == 3) = false := by simp; omega
  have o4 : (op == 4) = false := by simp; omega
  have o5 : op ≤ 10 := by omega
  go_wp2_with (go_at_call 61; refine (host_taken op _ _ (has_i64.2 (by omega)) (has_u32.2 (by omega)) (has_u32.2 (by omega)) _).mono ?_; rw [HK.out]; rintro e w1 ⟨rfl, hB⟩; have hH1 := hHW.below hB; have hT1 := hT.trans (Turn.of_below (p := Own hb mb) hB); have p1 := hH1.pc; have f1 := hH1.h.free 33; have m4 := (hB.cell (p := ⟨w.heap.size, 4, none⟩) hz).trans k4; have HB := Lib.hid hB; clear hB)
  go_still_tail 8, (by kernel_rfl)
  change wpList _ _ _ _ _ w1.drew
  obtain ⟨V2, hV2⟩ : ∃ V2, V2 = w1.drew := ⟨_, rfl⟩
  rw [← hV2]
  have hH2 : HostAt V2 hb mb S := hV2 ▸ hH1.drew
  have hT2 : Turn (Own hb mb) w V2 := hV2 ▸ hT1.drew
  have p2 := hH2.pc
  have f2 := hH2.h.free 33
  have HV2 := Lib.hid hV2; clear hV2
  go_wp2_with (go_at_call 62; refine (host_aligned_no _ (by omega) (by omega) (by first | assumption | (simpa using hm)) _).mono ?_; rintro e w3 ⟨rfl, rfl⟩)
  exact ⟨rfl, by simp, hH2, hT2⟩
set_option maxHeartbeats 2000000 in
set_option maxRecDepth 100000 in
theorem does_stores (w : World) (hb mb : Nat) (S : HS) (hH : HostAt w hb mb S) (hG : Good S) (op rd r1 r2 n : Int) (hd : I64 rd) (h1 : I64 r1) (h2 : I64 r2) (hn : -2147483648 ≤ n ∧ n ≤ 2147483647) (ho : 16 ≤ op ∧ op ≤ 18) (hc : canB ((getX S r1 + n) % 4294967296) (ssz op) = true) :
    Calls Try.prog 41 #[.pointer (some ⟨hb, 0, none⟩), .agg #[.int .i64 op, .int .i64 rd, .int .i64 r1, .int .i64 r2, .int .i32 n]] w fun e w' => e = .returned (.int .i64 0) ∧ Makes w hb mb ((stM S ((getX S r1 + n) % 4294967296) (ssz op) (getX S r2)).setPC ((S.pc + 4) % 4294967296)) w' := by
  have hpc : ∀ o, (w.alloc o).cell? ⟨hb, 33, none⟩ = some (.int .u32 S.pc) := fun o => (hH.alloc o).pc
  have hp0 := hG.pc
  have a0 := getX_bd hG r1
  have b0 := getX_bd hG r2
  go_enter Try.func41, Try.ntmps41
  go_wp2_with fail
  obtain ⟨W, hW⟩ : ∃ W, W = w.alloc (.cells #[.int .i64 op, .int .i64 rd, .int .i64 r1, .int .i64 r2, .int .i32 n] 39) := ⟨_, rfl⟩
  rw [← hW]
  have K5 := Lib.hid (W5.new hW)
  obtain ⟨k0, k1, k2, k3, k4⟩ := K5.out
  have hHW : HostAt W hb mb S := hW ▸ hH.alloc _
  have hT : Turn (Own hb mb) w W := hW ▸ (Turn.refl _ w).alloc _
  have hz : w.heap.size < W.heap.size := by rw [hW]; simp
  have HW := Lib.hid hW; clear hW hpc
  go_quiet ((go_at_call 21; exact Calls.quiet_of_same (q_X _ hb mb S (hHW.drewN _) _ (by assumption))))
  rename_i nq _
  obtain ⟨V, hV⟩ : ∃ V, V = W.drewN nq := ⟨_, rfl⟩
  rw [← hV]
  clear k0 k1 k2 k3 k4
  have K5V : W5 V w.heap.size op rd r1 r2 n := hV ▸ K5.out.drewN nq
  obtain ⟨k0, k1, k2, k3, k4⟩ := K5V
  replace hHW : HostAt V hb mb S := hV ▸ hHW.drewN nq
  replace hT : Turn (Own hb mb) w V := hV ▸ hT.drewN nq
  replace hz : w.heap.size < V.heap.size := by rw [hV]; exact hz
  have HV := Lib.hid hV; clear hV
  have hpc := hHW.pc
  have hfr := hHW.h.free 33
  have nh : ¬ Own hb mb w.heap.size := fun h => by have := hH.h.lt; have := hH.m.lt; rcases h with h | h <;> omega
  have a0 := getX_bd hG r1
  have b0 := getX_bd hG r2
  have o1 : (op == 1) = false := by simp; omega
  have o2 : (op == 2) = false := by simp; omega
  have o3 : (op == 3) = false := by simp; omega
  have o4 : (op == 4) = false := by simp; omega
  have o5 : ¬ op ≤ 10 := by omega
  have o6 : ¬ op ≤ 15 := by omega
  have o7 : op ≤ 18 := by omega
  go_wp2_with (go_at_call 64; refine (host_stores _ hb mb S hHW op _ _ ho (by omega) (by omega) b0.1 b0.2 (by first | assumption | (simpa using hc))).mono ?_; rintro e w1 ⟨rfl, hM⟩; have c1 := hM.at_.pc; have c2 := hM.at_.h.free 33; have HM := Lib.hid hM; clear hM)
  go_ret
  exact ⟨rfl, by simpa using HM.out.at_.setPC _, (hT.trans HM.out.turn).set (Or.inl rfl) _⟩
set_option maxHeartbeats 2000000 in
set_option maxRecDepth 100000 in
theorem does_stores_no (w : World) (hb mb : Nat) (S : HS) (hH : HostAt w hb mb S) (hG : Good S) (op rd r1 r2 n : Int) (hd : I64 rd) (h1 : I64 r1) (h2 : I64 r2) (hn : -2147483648 ≤ n ∧ n ≤ 2147483647) (ho : 16 ≤ op ∧ op ≤ 18) (hc : canB ((getX S r1 + n) % 4294967296) (ssz op) = false) :
    Calls Try.prog 41 #[.pointer (some ⟨hb, 0, none⟩), .agg #[.int .i64 op, .int .i64 rd, .int .i64 r1, .int .i64 r2, .int .i32 n]] w fun e w' => e = trapE 4 ((getX S r1 + n) % 4294967296) ∧ Makes w hb mb S w' := by
  have hpc : ∀ o, (w.alloc o).cell? ⟨hb, 33, none⟩ = some (.int .u32 S.pc) := fun o => (hH.alloc o).pc
  have hp0 := hG.pc
  have a0 := getX_bd hG r1
  have b0 := getX_bd hG r2
  go_enter Try.func41, Try.ntmps41
  go_wp2_with fail
  obtain ⟨W, hW⟩ : ∃ W, W = w.alloc (.cells #[.int .i64 op, .int .i64 rd, .int .i64 r1, .int .i64 r2, .int .i32 n] 39) := ⟨_, rfl⟩
  rw [← hW]
  have K5 := Lib.hid (W5.new hW)
  obtain ⟨k0, k1, k2, k3, k4⟩ := K5.out
  have hHW : HostAt W hb mb S := hW ▸ hH.alloc _
  have hT : Turn (Own hb mb) w W := hW ▸ (Turn.refl _ w).alloc _
  have hz : w.heap.size < W.heap.size := by rw [hW]; simp
  have HW := Lib.hid hW; clear hW hpc
  go_quiet ((go_at_call 21; exact Calls.quiet_of_same (q_X _ hb mb S (hHW.drewN _) _ (by assumption))))
  rename_i nq _
  obtain ⟨V, hV⟩ : ∃ V, V = W.drewN nq := ⟨_, rfl⟩
  rw [← hV]
  clear k0 k1 k2 k3 k4
  have K5V : W5 V w.heap.size op rd r1 r2 n := hV ▸ K5.out.drewN nq
  obtain ⟨k0, k1, k2, k3, k4⟩ := K5V
  replace hHW : HostAt V hb mb S := hV ▸ hHW.drewN nq
  replace hT : Turn (Own hb mb) w V := hV ▸ hT.drewN nq
  replace hz : w.heap.size < V.heap.size := by rw [hV]; exact hz
  have HV := Lib.hid hV; clear hV
  have hpc := hHW.pc
  have hfr := hHW.h.free 33
  have nh : ¬ Own hb mb w.heap.size := fun h => by have := hH.h.lt; have := hH.m.lt; rcases h with h | h <;> omega
  have a0 := getX_bd hG r1
  have b0 := getX_bd hG r2
  have o1 : (op == 1) = false := by simp; omega
  have o2 : (op == 2) = false := by simp; omega
  have o3 : (op == 3) = false := by simp; omega
  have o4 : (op == 4) = false := by simp; omega
  have o5 : ¬ op ≤ 10 := by omega
  have o6 : ¬ op ≤ 15 := by omega
  have o7 : op ≤ 18 := by omega
  go_wp2_with (go_at_call 64; refine (host_stores_no _ hb mb S hHW op _ _ ho (by omega) (by omega) b0.1 b0.2 (by first | assumption | (simpa using hc))).mono ?_; rintro e w1 ⟨rfl, hM⟩; have c1 := hM.at_.pc; have c2 := hM.at_.h.free 33; have HM := Lib.hid hM; clear hM)
  exact ⟨rfl, by simp, HM.out.at_, hT.trans HM.out.turn⟩
set_option maxHeartbeats 2000000 in
set_option maxRecDepth 100000 in
theorem does_ecall (w : World) (hb mb : Nat) (S : HS) (hH : HostAt w hb mb S) (hG : Good S) (rd r1 r2 n : Int) (hd : I64 rd) (h1 : I64 r1) (h2 : I64 r2) (hn : -2147483648 ≤ n ∧ n ≤ 2147483647) :
    Calls Try.prog 41 #[.pointer (some ⟨hb, 0, none⟩), .agg #[.int .i64 46, .int .i64 rd, .int .i64 r1, .int .i64 r2, .int .i32 n]] w fun e w' => e = .returned (.int .i64 1) ∧ Makes w hb mb (S.setPC ((S.pc + 4) % 4294967296)) w' := by
  have hpc : ∀ o, (w.alloc o).cell? ⟨hb, 33, none⟩ = some (.int .u32 S.pc) := fun o => (hH.alloc o).pc
  have hp0 := hG.pc
  have a0 := getX_bd hG r1
  have b0 := getX_bd hG r2
  go_enter Try.func41, Try.ntmps41
  go_wp2_with fail
  obtain ⟨W, hW⟩ : ∃ W, W = w.alloc (.cells #[.int .i64 46, .int .i64 rd, .int .i64 r1, .int .i64 r2, .int .i32 n] 39) := ⟨_, rfl⟩
  rw [← hW]
  have K5 := Lib.hid (W5.new hW)
  obtain ⟨k0, k1, k2, k3, k4⟩ := K5.out
  have hHW : HostAt W hb mb S := hW ▸ hH.alloc _
  have hT : Turn (Own hb mb) w W := hW ▸ (Turn.refl _ w).alloc _
  have hz : w.heap.size < W.heap.size := by rw [hW]; simp
  have HW := Lib.hid hW; clear hW hpc
  go_quiet ((go_at_call 21; exact Calls.quiet_of_same (q_X _ hb mb S (hHW.drewN _) _ (by assumption))))
  rename_i nq _
  obtain ⟨V, hV⟩ : ∃ V, V = W.drewN nq := ⟨_, rfl⟩
  rw [← hV]
  clear k0 k1 k2 k3 k4
  have K5V : W5 V w.heap.size 46 rd r1 r2 n := hV ▸ K5.out.drewN nq
  obtain ⟨k0, k1, k2, k3, k4⟩ := K5V
  replace hHW : HostAt V hb mb S := hV ▸ hHW.drewN nq
  replace hT : Turn (Own hb mb) w V := hV ▸ hT.drewN nq
  replace hz : w.heap.size < V.heap.size := by rw [hV]; exact hz
  have HV := Lib.hid hV; clear hV
  have hpc := hHW.pc
  have hfr := hHW.h.free 33
  have nh : ¬ Own hb mb w.heap.size := fun h => by have := hH.h.lt; have := hH.m.lt; rcases h with h | h <;> omega
  go_wp2_with fail
  go_ret
  exact ⟨rfl, hHW.setPC _, hT.set (Or.inl rfl) _⟩
set_option maxHeartbeats 2000000 in
set_option maxRecDepth 100000 in
theorem does_ebreak (w : World) (hb mb : Nat) (S : HS) (hH : HostAt w hb mb S) (hG : Good S) (rd r1 r2 n : Int) (hd : I64 rd) (h1 : I64 r1) (h2 : I64 r2) (hn : -2147483648 ≤ n ∧ n ≤ 2147483647) :
    Calls Try.prog 41 #[.pointer (some ⟨hb, 0, none⟩), .agg #[.int .i64 47, .int .i64 rd, .int .i64 r1, .int .i64 r2, .int .i32 n]] w fun e w' => e = .returned (.int .i64 2) ∧ Makes w hb mb (S.setPC ((S.pc + 4) % 4294967296)) w' := by
  have hpc : ∀ o, (w.alloc o).cell? ⟨hb, 33, none⟩ = some (.int .u32 S.pc) := fun o => (hH.alloc o).pc
  have hp0 := hG.pc
  have a0 := getX_bd hG r1
  have b0 := getX_bd hG r2
  go_enter Try.func41, Try.ntmps41
  go_wp2_with fail
  obtain ⟨W, hW⟩ : ∃ W, W = w.alloc (.cells #[.int .i64 47, .int .i64 rd, .int .i64 r1, .int .i64 r2, .int .i32 n] 39) := ⟨_, rfl⟩
  rw [← hW]
  have K5 := Lib.hid (W5.new hW)
  obtain ⟨k0, k1, k2, k3, k4⟩ := K5.out
  have hHW : HostAt W hb mb S := hW ▸ hH.alloc _
  have hT : Turn (Own hb mb) w W := hW ▸ (Turn.refl _ w).alloc _
  have hz : w.heap.size < W.heap.size := by rw [hW]; simp
  have HW := Lib.hid hW; clear hW hpc
  go_quiet ((go_at_call 21; exact Calls.quiet_of_same (q_X _ hb mb S (hHW.drewN _) _ (by assumption))))
  rename_i nq _
  obtain ⟨V, hV⟩ : ∃ V, V = W.drewN nq := ⟨_, rfl⟩
  rw [← hV]
  clear k0 k1 k2 k3 k4
  have K5V : W5 V w.heap.size 47 rd r1 r2 n := hV ▸ K5.out.drewN nq
  obtain ⟨k0, k1, k2, k3, k4⟩ := K5V
  replace hHW : HostAt V hb mb S := hV ▸ hHW.drewN nq
  replace hT : Turn (Own hb mb) w V := hV ▸ hT.drewN nq
  replace hz : w.heap.size < V.heap.size := by rw [hV]; exact hz
  have HV := Lib.hid hV; clear hV
  have hpc := hHW.pc
  have hfr := hHW.h.free 33
  have nh : ¬ Own hb mb w.heap.size := fun h => by have := hH.h.lt; have := hH.m.lt; rcases h with h | h <;> omega
  go_wp2_with fail
  go_ret
  exact ⟨rfl, hHW.setPC _, hT.set (Or.inl rfl) _⟩
end Go.Proofs.Ytpclikbjpjoccaa
namespace Go.Proofs.Ytpclikbjpjoccaa
open Go Go.RowKit Go.Sx
set_option linter.unusedVariables false
set_option linter.unusedSimpArgs false
theorem imOp_bd (k : Int) : 0 ≤ imOp k ∧ imOp k ≤ 45 := by
  unfold imOp
  repeat' split
  all_goals omega
set_option maxHeartbeats 2000000 in
set_option maxRecDepth 100000 in
theorem does_loads (w : World) (hb mb : Nat) (S : HS) (hH : HostAt w hb mb S) (hG : Good S) (op rd r1 r2 n : Int) (hd : I64 rd) (h1 : I64 r1) (h2 : I64 r2) (hn : -2147483648 ≤ n ∧ n ≤ 2147483647) (ho : 11 ≤ op ∧ op ≤ 15) (hc : canB ((getX S r1 + n) % 4294967296) (lsz op) = true) :
    Calls Try.prog 41 #[.pointer (some ⟨hb, 0, none⟩), .agg #[.int .i64 op, .int .i64 rd, .int .i64 r1, .int .i64 r2, .int .i32 n]] w fun e w' => e = .returned (.int .i64 0) ∧ Makes w hb mb ((putX S rd (lvl S op ((getX S r1 + n) % 4294967296))).setPC ((S.pc + 4) % 4294967296)) w' := by
  have hpc : ∀ o, (w.alloc o).cell? ⟨hb, 33, none⟩ = some (.int .u32 S.pc) := fun o => (hH.alloc o).pc
  have hp0 := hG.pc
  have a0 := getX_bd hG r1
  have b0 := getX_bd hG r2
  go_enter Try.func41, Try.ntmps41
  go_wp2_with fail
  obtain ⟨W, hW⟩ : ∃ W, W = w.alloc (.cells #[.int .i64 op, .int .i64 rd, .int .i64 r1, .int .i64 r2, .int .i32 n] 39) := ⟨_, rfl⟩
  rw [← hW]
  have K5 := Lib.hid (W5.new hW)
  obtain ⟨k0, k1, k2, k3, k4⟩ := K5.out
  have hHW : HostAt W hb mb S := hW ▸ hH.alloc _
  have hT : Turn (Own hb mb) w W := hW ▸ (Turn.refl _ w).alloc _
  have hz : w.heap.size < W.heap.size := by rw [hW]; simp
  have HW := Lib.hid hW; clear hW hpc
  go_quiet ((go_at_call 21; exact Calls.quiet_of_same (q_X _ hb mb S (hHW.drewN _) _ (by assumption))))
  rename_i nq _
  obtain ⟨V, hV⟩ : ∃ V, V = W.drewN nq := ⟨_, rfl⟩
  rw [← hV]
  clear k0 k1 k2 k3 k4
  have K5V : W5 V w.heap.size op rd r1 r2 n := hV ▸ K5.out.drewN nq
  obtain ⟨k0, k1, k2, k3, k4⟩ := K5V
  replace hHW : HostAt V hb mb S := hV ▸ hHW.drewN nq
  replace hT : Turn (Own hb mb) w V := hV ▸ hT.drewN nq
  replace hz : w.heap.size < V.heap.size := by rw [hV]; exact hz
  have HV := Lib.hid hV; clear hV
  have hpc := hHW.pc
  have hfr := hHW.h.free 33
  have nh : ¬ Own hb mb w.heap.size := fun h => by have := hH.h.lt; have := hH.m.lt; rcases h with h | h <;> omega
  have a0 := getX_bd hG r1
  have o1 : (op == 1) = false := by simp; omega
  have o2 : (op == 2) = false := by simp; omega
  have o3 : (op == 3) = false := by simp; omega
  have o4 : (op == 4) = false := by simp; omega
  have o5 : ¬ op ≤ 10 := by omega
  have o6 : op ≤ 15 := by omega
  go_wp2_with fail
  have K := Lib.hid (⟨k0, k1, k4⟩ : (V.cell? ⟨w.heap.size, 0, none⟩ = some (.int .i64 op) ∧ V.cell? ⟨w.heap.size, 1, none⟩ = some (.int .i64 rd) ∧ V.cell? ⟨w.heap.size, 4, none⟩ = some (.int .i32 n)))
  have EW : Hid (IntKind.u32.wrap (getX S r1 + IntKind.u32.wrap n) = (getX S r1 + n) % 4294967296) := Lib.hid (by rw [IntKind.wrap_u32, IntKind.wrap_u32]; omega)
  go_region_held3 (fun w' => (w'.cell? ⟨w.heap.size, 0, none⟩ = some (.int .i64 op) ∧ w'.cell? ⟨w.heap.size, 1, none⟩ = some (.int .i64 rd) ∧ w'.cell? ⟨w.heap.size, 4, none⟩ = some (.int .i32 n))) (first | exact K.out | exact K1 | exact K2) (first | (go_at_call 63; rw [EW.out]; refine (host_loads _ hb mb S hHW.drew hG op _ ho (by omega) (by omega) hc).mono ?_; rintro e w1 ⟨rfl, hB⟩; have K1 := (⟨(hB.cell (p := ⟨w.heap.size, 0, none⟩) hz).trans (K.out).1, (hB.cell (p := ⟨w.heap.size, 1, none⟩) hz).trans (K.out).2.1, (hB.cell (p := ⟨w.heap.size, 4, none⟩) hz).trans (K.out).2.2⟩ : (w1.cell? ⟨w.heap.size, 0, none⟩ = some (.int .i64 op) ∧ w1.cell? ⟨w.heap.size, 1, none⟩ = some (.int .i64 rd) ∧ w1.cell? ⟨w.heap.size, 4, none⟩ = some (.int .i32 n))); have hz1 : w.heap.size < w1.heap.size := Nat.lt_of_lt_of_le hz hB.size; have hH1 := hHW.drew.below hB; have hT1 := hT.drew.trans (Turn.of_below (p := Own hb mb) hB); have HB := Lib.hid hB; clear hB) | (go_at_call 19; refine (host_SetX _ hb mb S hH1 rd _ hd.1 hd.2).mono ?_; rintro e w2 ⟨rfl, hM⟩; have K2 := (⟨(hM.turn.cell (i := 0) hz1 nh).trans (K1).1, (hM.turn.cell (i := 1) hz1 nh).trans (K1).2.1, (hM.turn.cell (i := 4) hz1 nh).trans (K1).2.2⟩ : (w2.cell? ⟨w.heap.size, 0, none⟩ = some (.int .i64 op) ∧ w2.cell? ⟨w.heap.size, 1, none⟩ = some (.int .i64 rd) ∧ w2.cell? ⟨w.heap.size, 4, none⟩ = some (.int .i32 n))); have c1 := hM.at_.pc; have c2 := hM.at_.h.free 33; have HM := Lib.hid hM; clear hM))
  go_wp2_with fail
  go_ret
  exact ⟨rfl, HM.out.at_.setPC _, (hT1.trans HM.out.turn).set (Or.inl rfl) _⟩
set_option maxHeartbeats 2000000 in
set_option maxRecDepth 100000 in
theorem does_imm (w : World) (hb mb : Nat) (S : HS) (hH : HostAt w hb mb S) (hG : Good S) (op rd r1 r2 n : Int) (hd : I64 rd) (h1 : I64 r1) (h2 : I64 r2) (hn : -2147483648 ≤ n ∧ n ≤ 2147483647) (ho : 19 ≤ op ∧ op ≤ 27) :
    Calls Try.prog 41 #[.pointer (some ⟨hb, 0, none⟩), .agg #[.int .i64 op, .int .i64 rd, .int .i64 r1, .int .i64 r2, .int .i32 n]] w fun e w' => e = .returned (.int .i64 0) ∧ Makes w hb mb ((putX S rd (hoReckons (imOp (op - 19)) (getX S r1) (n % 4294967296))).setPC ((S.pc + 4) % 4294967296)) w' := by
  have hpc : ∀ o, (w.alloc o).cell? ⟨hb, 33, none⟩ = some (.int .u32 S.pc) := fun o => (hH.alloc o).pc
  have hp0 := hG.pc
  have a0 := getX_bd hG r1
  have b0 := getX_bd hG r2
  go_enter Try.func41, Try.ntmps41
  go_wp2_with fail
  obtain ⟨W, hW⟩ : ∃ W, W = w.alloc (.cells #[.int .i64 op, .int .i64 rd, .int .i64 r1, .int .i64 r2, .int .i32 n] 39) := ⟨_, rfl⟩
  rw [← hW]
  have K5 := Lib.hid (W5.new hW)
  obtain ⟨k0, k1, k2, k3, k4⟩ := K5.out
  have hHW : HostAt W hb mb S := hW ▸ hH.alloc _
  have hT : Turn (Own hb mb) w W := hW ▸ (Turn.refl _ w).alloc _
  have hz : w.heap.size < W.heap.size := by rw [hW]; simp
  have HW := Lib.hid hW; clear hW hpc
  go_quiet ((go_at_call 21; exact Calls.quiet_of_same (q_X _ hb mb S (hHW.drewN _) _ (by assumption))))
  rename_i nq _
  obtain ⟨V, hV⟩ : ∃ V, V = W.drewN nq := ⟨_, rfl⟩
  rw [← hV]
  clear k0 k1 k2 k3 k4
  have K5V : W5 V w.heap.size op rd r1 r2 n := hV ▸ K5.out.drewN nq
  obtain ⟨k0, k1, k2, k3, k4⟩ := K5V
  replace hHW : HostAt V hb mb S := hV ▸ hHW.drewN nq
  replace hT : Turn (Own hb mb) w V := hV ▸ hT.drewN nq
  replace hz : w.heap.size < V.heap.size := by rw [hV]; exact hz
  have HV := Lib.hid hV; clear hV
  have hpc := hHW.pc
  have hfr := hHW.h.free 33
  have nh : ¬ Own hb mb w.heap.size := fun h => by have := hH.h.lt; have := hH.m.lt; rcases h with h | h <;> omega
  have a0 := getX_bd hG r1
  have b0 := getX_bd hG r2
  have o1 : (op == 1) = false := by simp; omega
  have o2 : (op == 2) = false := by simp; omega
  have o3 : (op == 3) = false := by simp; omega
  have o4 : (op == 4) = false := by simp; omega
  have o5 : ¬ op ≤ 10 := by omega
  have o6 : ¬ op ≤ 15 := by omega
  have o7 : ¬ op ≤ 18 := by omega
  have o8 : op ≤ 27 := by omega
  go_wp2_with fail
  have K := Lib.hid (⟨k0, k1, k4⟩ : (V.cell? ⟨w.heap.size, 0, none⟩ = some (.int .i64 op) ∧ V.cell? ⟨w.heap.size, 1, none⟩ = some (.int .i64 rd) ∧ V.cell? ⟨w.heap.size, 4, none⟩ = some (.int .i32 n)))
  have ES : Hid (IntKind.i64.wrap (op - 19) = op - 19) := Lib.hid (IntWalk.i64_in _ (by omega))
  have EN : Hid (IntKind.u32.wrap n = n % 4294967296) := Lib.hid (IntKind.wrap_u32 n)
  have hio := imOp_bd (op - 19)
  go_region_held3 (fun w' => (w'.cell? ⟨w.heap.size, 0, none⟩ = some (.int .i64 op) ∧ w'.cell? ⟨w.heap.size, 1, none⟩ = some (.int .i64 rd) ∧ w'.cell? ⟨w.heap.size, 4, none⟩ = some (.int .i32 n))) (first | exact K.out | exact K1 | exact K2) (first | (go_at_call 66; rw [ES.out]; refine (host_immediateOp _ (by omega) _).mono ?_; rintro e w' ⟨rfl, rfl⟩) | (go_at_call 65; rw [EN.out]; refine (host_reckons (imOp (op - 19)) (getX S r1) (n % 4294967296) (has_i64.2 (by omega)) (has_u32.2 (by omega)) (has_u32.2 (by omega)) _).mono ?_; rintro e w1 ⟨rfl, hB⟩; have K1 := (⟨(hB.cell (p := ⟨w.heap.size, 0, none⟩) hz).trans (K.out).1, (hB.cell (p := ⟨w.heap.size, 1, none⟩) hz).trans (K.out).2.1, (hB.cell (p := ⟨w.heap.size, 4, none⟩) hz).trans (K.out).2.2⟩ : (w1.cell? ⟨w.heap.size, 0, none⟩ = some (.int .i64 op) ∧ w1.cell? ⟨w.heap.size, 1, none⟩ = some (.int .i64 rd) ∧ w1.cell? ⟨w.heap.size, 4, none⟩ = some (.int .i32 n))); have hz1 : w.heap.size < w1.heap.size := Nat.lt_of_lt_of_le hz hB.size; have hH1 := hHW.drew.below hB; have hT1 := hT.drew.trans (Turn.of_below (p := Own hb mb) hB); have HB := Lib.hid hB; clear hB) | (go_at_call 19; refine (host_SetX _ hb mb S hH1 rd _ hd.1 hd.2).mono ?_; rintro e w2 ⟨rfl, hM⟩; have K2 := (⟨(hM.turn.cell (i := 0) hz1 nh).trans (K1).1, (hM.turn.cell (i := 1) hz1 nh).trans (K1).2.1, (hM.turn.cell (i := 4) hz1 nh).trans (K1).2.2⟩ : (w2.cell? ⟨w.heap.size, 0, none⟩ = some (.int .i64 op) ∧ w2.cell? ⟨w.heap.size, 1, none⟩ = some (.int .i64 rd) ∧ w2.cell? ⟨w.heap.size, 4, none⟩ = some (.int .i32 n))); have c1 := hM.at_.pc; have c2 := hM.at_.h.free 33; have HM := Lib.hid hM; clear hM))
  go_wp2_with fail
  go_ret
  exact ⟨rfl, HM.out.at_.setPC _, (hT1.trans HM.out.turn).set (Or.inl rfl) _⟩
set_option maxHeartbeats 2000000 in
set_option maxRecDepth 100000 in
theorem does_reg (w : World) (hb mb : Nat) (S : HS) (hH : HostAt w hb mb S) (hG : Good S) (op rd r1 r2 n : Int) (hd : I64 rd) (h1 : I64 r1) (h2 : I64 r2) (hn : -2147483648 ≤ n ∧ n ≤ 2147483647) (ho : 28 ≤ op ∧ op ≤ 45) :
    Calls Try.prog 41 #[.pointer (some ⟨hb, 0, none⟩), .agg #[.int .i64 op, .int .i64 rd, .int .i64 r1, .int .i64 r2, .int .i32 n]] w fun e w' => e = .returned (.int .i64 0) ∧ Makes w hb mb ((putX S rd (hoReckons op (getX S r1) (getX S r2))).setPC ((S.pc + 4) % 4294967296)) w' := by
  have hpc : ∀ o, (w.alloc o).cell? ⟨hb, 33, none⟩ = some (.int .u32 S.pc) := fun o => (hH.alloc o).pc
  have hp0 := hG.pc
  have a0 := getX_bd hG r1
  have b0 := getX_bd hG r2
  go_enter Try.func41, Try.ntmps41
  go_wp2_with fail
  obtain ⟨W, hW⟩ : ∃ W, W = w.alloc (.cells #[.int .i64 op, .int .i64 rd, .int .i64 r1, .int .i64 r2, .int .i32 n] 39) := ⟨_, rfl⟩
  rw [← hW]
  have K5 := Lib.hid (W5.new hW)
  obtain ⟨k0, k1, k2, k3, k4⟩ := K5.out
  have hHW : HostAt W hb mb S := hW ▸ hH.alloc _
  have hT : Turn (Own hb mb) w W := hW ▸ (Turn.refl _ w).alloc _
  have hz : w.heap.size < W.heap.size := by rw [hW]; simp
  have HW := Lib.hid hW; clear hW hpc
  go_quiet ((go_at_call 21; exact Calls.quiet_of_same (q_X _ hb mb S (hHW.drewN _) _ (by assumption))))
  rename_i nq _
  obtain ⟨V, hV⟩ : ∃ V, V = W.drewN nq := ⟨_, rfl⟩
  rw [← hV]
  clear k0 k1 k2 k3 k4
  have K5V : W5 V w.heap.size op rd r1 r2 n := hV ▸ K5.out.drewN nq
  obtain ⟨k0, k1, k2, k3, k4⟩ := K5V
  replace hHW : HostAt V hb mb S := hV ▸ hHW.drewN nq
  replace hT : Turn (Own hb mb) w V := hV ▸ hT.drewN nq
  replace hz : w.heap.size < V.heap.size := by rw [hV]; exact hz
  have HV := Lib.hid hV; clear hV
  have hpc := hHW.pc
  have hfr := hHW.h.free 33
  have nh : ¬ Own hb mb w.heap.size := fun h => by have := hH.h.lt; have := hH.m.lt; rcases h with h | h <;> omega
  have a0 := getX_bd hG r1
  have b0 := getX_bd hG r2
  have o1 : (op == 1) = false := by simp; omega
  have o2 : (op == 2) = false := by simp; omega
  have o3 : (op == 3) = false := by simp; omega
  have o4 : (op == 4) = false := by simp; omega
  have o5 : ¬ op ≤ 10 := by omega
  have o6 : ¬ op ≤ 15 := by omega
  have o7 : ¬ op ≤ 18 := by omega
  have o8 : ¬ op ≤ 27 := by omega
  have o9 : op ≤ 45 := by omega
  go_wp2_with fail
  have K := Lib.hid (⟨k0, k1, k4⟩ : (V.cell? ⟨w.heap.size, 0, none⟩ = some (.int .i64 op) ∧ V.cell? ⟨w.heap.size, 1, none⟩ = some (.int .i64 rd) ∧ V.cell? ⟨w.heap.size, 4, none⟩ = some (.int .i32 n)))
  go_region_held3 (fun w' => (w'.cell? ⟨w.heap.size, 0, none⟩ = some (.int .i64 op) ∧ w'.cell? ⟨w.heap.size, 1, none⟩ = some (.int .i64 rd) ∧ w'.cell? ⟨w.heap.size, 4, none⟩ = some (.int .i32 n))) (first | exact K.out | exact K1 | exact K2) (first | (go_at_call 65; refine (host_reckons op (getX S r1) (getX S r2) (has_i64.2 (by omega)) (has_u32.2 (by omega)) (has_u32.2 (by omega)) _).mono ?_; rintro e w1 ⟨rfl, hB⟩; have K1 := (⟨(hB.cell (p := ⟨w.heap.size, 0, none⟩) hz).trans (K.out).1, (hB.cell (p := ⟨w.heap.size, 1, none⟩) hz).trans (K.out).2.1, (hB.cell (p := ⟨w.heap.size, 4, none⟩) hz).trans (K.out).2.2⟩ : (w1.cell? ⟨w.heap.size, 0, none⟩ = some (.int .i64 op) ∧ w1.cell? ⟨w.heap.size, 1, none⟩ = some (.int .i64 rd) ∧ w1.cell? ⟨w.heap.size, 4, none⟩ = some (.int .i32 n))); have hz1 : w.heap.size < w1.heap.size := Nat.lt_of_lt_of_le hz hB.size; have hH1 := hHW.drew.below hB; have hT1 := hT.drew.trans (Turn.of_below (p := Own hb mb) hB); have HB := Lib.hid hB; clear hB) | (go_at_call 19; refine (host_SetX _ hb mb S hH1 rd _ hd.1 hd.2).mono ?_; rintro e w2 ⟨rfl, hM⟩; have K2 := (⟨(hM.turn.cell (i := 0) hz1 nh).trans (K1).1, (hM.turn.cell (i := 1) hz1 nh).trans (K1).2.1, (hM.turn.cell (i := 4) hz1 nh).trans (K1).2.2⟩ : (w2.cell? ⟨w.heap.size, 0, none⟩ = some (.int .i64 op) ∧ w2.cell? ⟨w.heap.size, 1, none⟩ = some (.int .i64 rd) ∧ w2.cell? ⟨w.heap.size, 4, none⟩ = some (.int .i32 n))); have c1 := hM.at_.pc; have c2 := hM.at_.h.free 33; have HM := Lib.hid hM; clear hM))
  go_wp2_with fail
  go_ret
  exact ⟨rfl, HM.out.at_.setPC _, (hT1.trans HM.out.turn).set (Or.inl rfl) _⟩
set_option maxHeartbeats 2000000 in
set_option maxRecDepth 100000 in
theorem does_loads_no (w : World) (hb mb : Nat) (S : HS) (hH : HostAt w hb mb S) (hG : Good S) (op rd r1 r2 n : Int) (hd : I64 rd) (h1 : I64 r1) (h2 : I64 r2) (hn : -2147483648 ≤ n ∧ n ≤ 2147483647) (ho : 11 ≤ op ∧ op ≤ 15) (hc : canB ((getX S r1 + n) % 4294967296) (lsz op) = false) :
    Calls Try.prog 41 #[.pointer (some ⟨hb, 0, none⟩), .agg #[.int .i64 op, .int .i64 rd, .int .i64 r1, .int .i64 r2, .int .i32 n]] w fun e w' => e = trapE 3 ((getX S r1 + n) % 4294967296) ∧ Makes w hb mb S w' := by
  have hpc : ∀ o, (w.alloc o).cell? ⟨hb, 33, none⟩ = some (.int .u32 S.pc) := fun o => (hH.alloc o).pc
  have hp0 := hG.pc
  have a0 := getX_bd hG r1
  have b0 := getX_bd hG r2
  go_enter Try.func41, Try.ntmps41
  go_wp2_with fail
  obtain ⟨W, hW⟩ : ∃ W, W = w.alloc (.cells #[.int .i64 op, .int .i64 rd, .int .i64 r1, .int .i64 r2, .int .i32 n] 39) := ⟨_, rfl⟩
  rw [← hW]
  have K5 := Lib.hid (W5.new hW)
  obtain ⟨k0, k1, k2, k3, k4⟩ := K5.out
  have hHW : HostAt W hb mb S := hW ▸ hH.alloc _
  have hT : Turn (Own hb mb) w W := hW ▸ (Turn.refl _ w).alloc _
  have hz : w.heap.size < W.heap.size := by rw [hW]; simp
  have HW := Lib.hid hW; clear hW hpc
  go_quiet ((go_at_call 21; exact Calls.quiet_of_same (q_X _ hb mb S (hHW.drewN _) _ (by assumption))))
  rename_i nq _
  obtain ⟨V, hV⟩ : ∃ V, V = W.drewN nq := ⟨_, rfl⟩
  rw [← hV]
  clear k0 k1 k2 k3 k4
  have K5V : W5 V w.heap.size op rd r1 r2 n := hV ▸ K5.out.drewN nq
  obtain ⟨k0, k1, k2, k3, k4⟩ := K5V
  replace hHW : HostAt V hb mb S := hV ▸ hHW.drewN nq
  replace hT : Turn (Own hb mb) w V := hV ▸ hT.drewN nq
  replace hz : w.heap.size < V.heap.size := by rw [hV]; exact hz
  have HV := Lib.hid hV; clear hV
  have hpc := hHW.pc
  have hfr := hHW.h.free 33
  have nh : ¬ Own hb mb w.heap.size := fun h => by have := hH.h.lt; have := hH.m.lt; rcases h with h | h <;> omega
  have a0 := getX_bd hG r1
  have o1 : (op == 1) = false := by simp; omega
  have o2 : (op == 2) = false := by simp; omega
  have o3 : (op == 3) = false := by simp; omega
  have o4 : (op == 4) = false := by simp; omega
  have o5 : ¬ op ≤ 10 := by omega
  have o6 : op ≤ 15 := by omega
  go_wp2_with fail
  have K := Lib.hid (⟨k0, k1, k4⟩ : (V.cell? ⟨w.heap.size, 0, none⟩ = some (.int .i64 op) ∧ V.cell? ⟨w.heap.size, 1, none⟩ = some (.int .i64 rd) ∧ V.cell? ⟨w.heap.size, 4, none⟩ = some (.int .i32 n)))
  have EW : Hid (IntKind.u32.wrap (getX S r1 + IntKind.u32.wrap n) = (getX S r1 + n) % 4294967296) := Lib.hid (by rw [IntKind.wrap_u32, IntKind.wrap_u32]; omega)
  refine wp_region_held_drew (S := fun w' => (w'.cell? ⟨w.heap.size, 0, none⟩ = some (.int .i64 op) ∧ w'.cell? ⟨w.heap.size, 1, none⟩ = some (.int .i64 rd) ∧ w'.cell? ⟨w.heap.size, 4, none⟩ = some (.int .i32 n))) (by kernel_rfl) K.out (fun hHeld => ?_)
  refine wpAnyH_take (i := 0) (v := .pointer (some ⟨hb, 0, none⟩)) rfl (by kernel_rfl) (by kernel_rfl) (by kernel_rfl) (fun _ _ _ h => h) (Or.inl ⟨by rfl, ?_⟩) (by assumption) ?_
  · intro w' hSw; obtain ⟨s0, s1, s4⟩ := hSw; clear hHeld; go_simp
  simp only [Act.put, List.setIfInBounds_toArray, List.set_cons_zero, List.set_cons_succ]
  refine wpAnyH_take (i := 1) (v := .pointer (some ⟨w.heap.size, 1, none⟩)) rfl (by kernel_rfl) (by kernel_rfl) (by kernel_rfl) (fun _ _ _ h => h) (Or.inl ⟨by rfl, ?_⟩) (by assumption) ?_
  · intro w' hSw; obtain ⟨s0, s1, s4⟩ := hSw; clear hHeld; go_simp
  simp only [Act.put, List.setIfInBounds_toArray, List.set_cons_zero, List.set_cons_succ]
  refine wpAnyH_take (i := 2) (v := .int .i64 rd) rfl (by kernel_rfl) (by kernel_rfl) (by kernel_rfl) (fun _ _ _ h => h) (Or.inl ⟨by rfl, ?_⟩) (by assumption) ?_
  · intro w' hSw; obtain ⟨s0, s1, s4⟩ := hSw; clear hHeld; go_simp
  simp only [Act.put, List.setIfInBounds_toArray, List.set_cons_zero, List.set_cons_succ]
  refine wpAnyH_take (i := 3) (v := .pointer (some ⟨hb, 0, none⟩)) rfl (by kernel_rfl) (by kernel_rfl) (by kernel_rfl) (fun _ _ _ h => h) (Or.inl ⟨by rfl, ?_⟩) (by assumption) ?_
  · intro w' hSw; obtain ⟨s0, s1, s4⟩ := hSw; clear hHeld; go_simp
  simp only [Act.put, List.setIfInBounds_toArray, List.set_cons_zero, List.set_cons_succ]
  refine wpAnyH_take (i := 4) (v := .pointer (some ⟨w.heap.size, 0, none⟩)) rfl (by kernel_rfl) (by kernel_rfl) (by kernel_rfl) (fun _ _ _ h => h) (Or.inl ⟨by rfl, ?_⟩) (by assumption) ?_
  · intro w' hSw; obtain ⟨s0, s1, s4⟩ := hSw; clear hHeld; go_simp
  simp only [Act.put, List.setIfInBounds_toArray, List.set_cons_zero, List.set_cons_succ]
  refine wpAnyH_take (i := 5) (v := .int .i64 op) rfl (by kernel_rfl) (by kernel_rfl) (by kernel_rfl) (fun _ _ _ h => h) (Or.inl ⟨by rfl, ?_⟩) (by assumption) ?_
  · intro w' hSw; obtain ⟨s0, s1, s4⟩ := hSw; clear hHeld; go_simp
  simp only [Act.put, List.setIfInBounds_toArray, List.set_cons_zero, List.set_cons_succ]
  refine wpAnyH_take (i := 6) (v := .int .u32 (getX S r1)) rfl (by kernel_rfl) (by kernel_rfl) (by kernel_rfl) (fun _ _ _ h => h) (Or.inl ⟨by rfl, ?_⟩) (by assumption) ?_
  · intro w' hSw; obtain ⟨s0, s1, s4⟩ := hSw; clear hHeld; go_simp
  simp only [Act.put, List.setIfInBounds_toArray, List.set_cons_zero, List.set_cons_succ]
  refine wpAnyH_take (i := 7) (v := .pointer (some ⟨w.heap.size, 4, none⟩)) rfl (by kernel_rfl) (by kernel_rfl) (by kernel_rfl) (fun _ _ _ h => h) (Or.inl ⟨by rfl, ?_⟩) (by assumption) ?_
  · intro w' hSw; obtain ⟨s0, s1, s4⟩ := hSw; clear hHeld; go_simp
  simp only [Act.put, List.setIfInBounds_toArray, List.set_cons_zero, List.set_cons_succ]
  refine wpAnyH_take (i := 8) (v := .int .i32 n) rfl (by kernel_rfl) (by kernel_rfl) (by kernel_rfl) (fun _ _ _ h => h) (Or.inl ⟨by rfl, ?_⟩) (by assumption) ?_
  · intro w' hSw; obtain ⟨s0, s1, s4⟩ := hSw; clear hHeld; go_simp
  simp only [Act.put, List.setIfInBounds_toArray, List.set_cons_zero, List.set_cons_succ]
  refine wpAnyH_take (i := 9) (v := .int .u32 (IntKind.u32.wrap n)) rfl (by kernel_rfl) (by kernel_rfl) (by kernel_rfl) (fun _ _ _ h => h) (Or.inl ⟨by rfl, ?_⟩) (by assumption) ?_
  · intro w' hSw; obtain ⟨s0, s1, s4⟩ := hSw; clear hHeld; go_simp
  simp only [Act.put, List.setIfInBounds_toArray, List.set_cons_zero, List.set_cons_succ]
  refine wpAnyH_take (i := 10) (v := .int .u32 (IntKind.u32.wrap (getX S r1 + IntKind.u32.wrap n))) rfl (by kernel_rfl) (by kernel_rfl) (by kernel_rfl) (fun _ _ _ h => h) (Or.inl ⟨by rfl, ?_⟩) (by assumption) ?_
  · intro w' hSw; obtain ⟨s0, s1, s4⟩ := hSw; clear hHeld; go_simp
  simp only [Act.put, List.setIfInBounds_toArray, List.set_cons_zero, List.set_cons_succ]
  refine wpAnyH_ready (rs := [11]) (by kernel_rfl) (by simp) ?_
  refine AllReadyH.cons (o := _) rfl (fun K hK => ?_) AllReadyH.nil
  go_simp
  (go_at_call 63; rw [EW.out]; refine (host_loads_no _ hb mb S hHW.drew hG op _ ho (by omega) (by omega) hc).mono ?_; rintro e w1 ⟨rfl, hB⟩)
  exact ⟨rfl, rfl, hHW.drew.below hB, hT.drew.trans (Turn.of_below hB)⟩
end Go.Proofs.Ytpclikbjpjoccaa
namespace Go.Proofs.Ytpclikbjpjoccaa
open Go Go.RowKit Go.Sx
set_option linter.unusedVariables false
set_option linter.unusedSimpArgs false
theorem wpS_gen {P : Program} {c : Code} {Q : Exit → Act → List Frame → World → Prop} {a : Act} {cs : List Frame} {w : World}
    (h : ∀ Q' : Exit → Act → World → Prop, (∀ e a' w', Q e a' cs w' → Q' e a' w') → c.wp P Q' a w) : c.wpS P Q a cs w := wpS_of_wp (h _ (fun _ _ _ h => h))
theorem catch_idle (p q : Addr) (w : World) :
    CallsD Try.prog 39 #[.pointer (some p), .pointer (some q)] .returning w fun e u' w' => e = .returned (.tuple #[]) ∧ u' = .returning ∧ w' = w := by
  refine callsD_of_wpS Try.func39 rfl fun c₀ cs hu => ?_
  apply wpS_seq
  apply wpS_region
  simp [wpOpsS, go_sem, recoverD, hu, Try.ntmps39, Exit.thenS]
  refine wpS_gen fun Q' hQ' => ?_
  have HQ := Lib.hid hQ'; clear hQ'
  simp only [List.size_toArray, List.length_cons, List.length_nil, Nat.reduceAdd, Nat.reduceSub, Array.replicate_succ, Array.replicate_zero, List.push_toArray, List.setIfInBounds_toArray, List.set_cons_zero, List.set_cons_succ, List.append_toArray, List.nil_append, List.cons_append]
  go_wp2
  exact HQ.out _ _ _ ⟨rfl, .returning, by rw [← hu], .tuple #[], results_none rfl _ _ _, rfl, rfl, rfl⟩
structure Caught (w : World) (pb hb mb : Nat) (k : Int) (S' : HS) (w' : World) : Prop where
  kind : w'.cell? ⟨pb, 0, none⟩ = some (.int .i64 k)
  at_ : HostAt w' hb mb S'
  turn : Turn (fun b => b = pb ∨ Own hb mb b) w w'
set_option maxRecDepth 20000 in
theorem catch_trap (k y : Int) (pb qb hb mb : Nat) (S : HS) (w : World) (x : Int) (hc : w.cell? ⟨pb, 0, none⟩ = some (.int .i64 x)) (hz : w.frozen? ⟨pb, 0, none⟩ = false) (hq : w.cell? ⟨qb, 0, none⟩ = some (.pointer (some ⟨hb, 0, none⟩))) (hH : HostAt w hb mb S) (h1 : pb ≠ qb) (h2 : pb ≠ hb) (h3 : pb ≠ mb) (hk : (k != 6) = true) :
    CallsD Try.prog 39 #[.pointer (some ⟨pb, 0, none⟩), .pointer (some ⟨qb, 0, none⟩)] (.panicking [{ v := trapV k y, recovered := false }]) w fun e u' w' => e = .returned (.tuple #[]) ∧ u' = .panicking [{ v := trapV k y, recovered := true }] ∧ Caught w pb hb mb k (S.setWhy y) w' := by
  have hta : ∀ w, (Instr.typeAssert (trapV k y) 20 75 true).run Try.prog w = .ok (.tuple #[.agg #[.int .i64 k, .int .u32 y], .bool true]) w := fun _ => by kernel_rfl
  have g1 : ∀ o, (w.alloc o).cell? ⟨pb, 0, none⟩ = some (.int .i64 x) := fun o => by rw [World.cell?_alloc_lt _ _ _ (World.block_lt_of_cell? _ _ hc)]; exact hc
  have g2 : ∀ o, (w.alloc o).frozen? ⟨pb, 0, none⟩ = false := fun o => by rw [World.frozen?_alloc_old _ _ _ (Nat.ne_of_lt (World.block_lt_of_cell? _ _ hc))]; exact hz
  have g3 : ∀ o v, ((w.alloc o).setCell ⟨pb, 0, none⟩ v).cell? ⟨qb, 0, none⟩ = some (.pointer (some ⟨hb, 0, none⟩)) := fun o v => by rw [World.cell?_setCell_other _ _ _ _ (fun e => h1 (by injection e)), World.cell?_alloc_lt _ _ _ (World.block_lt_of_cell? _ _ hq)]; exact hq
  have g4 : ∀ o v, ((w.alloc o).setCell ⟨pb, 0, none⟩ v).cell? ⟨pb, 0, none⟩ = some v := fun o v => World.cell?_setCell_same _ _ _ (g1 o)
  have g5 : ∀ o v i, ((w.alloc o).setCell ⟨pb, 0, none⟩ v).cell? ⟨w.heap.size, i, none⟩ = (w.alloc o).cell? ⟨w.heap.size, i, none⟩ := fun o v i => World.cell?_setCell_other _ _ _ _ (fun e => by have := World.block_lt_of_cell? _ _ hc; injection e with e; simp at this; omega)
  have g6 : ∀ o v, ((w.alloc o).setCell ⟨pb, 0, none⟩ v).cell? ⟨hb, 34, none⟩ = some (.int .u32 S.why) := fun o v => ((hH.alloc o).other (a := ⟨pb, 0, none⟩) h2 h3 v).why
  have g7 : ∀ o v, ((w.alloc o).setCell ⟨pb, 0, none⟩ v).frozen? ⟨hb, 34, none⟩ = false := fun o v => ((hH.alloc o).other (a := ⟨pb, 0, none⟩) h2 h3 v).h.free 34
  refine callsD_of_wpS Try.func39 rfl fun c₀ cs hu => ?_
  apply wpS_seq
  apply wpS_region
  simp [wpOpsS, go_sem, recoverD, hu, Try.ntmps39, Exit.thenS]
  refine wpS_gen fun Q' hQ' => ?_
  have HQ := Lib.hid hQ'; clear hQ'
  simp only [List.size_toArray, List.length_cons, List.length_nil, Nat.reduceAdd, Nat.reduceSub, Array.replicate_succ, Array.replicate_zero, List.push_toArray, List.setIfInBounds_toArray, List.set_cons_zero, List.set_cons_succ, List.append_toArray, List.nil_append, List.cons_append]
  go_wp2
  exact HQ.out _ _ _ ⟨rfl, .panicking [{ v := trapV k y, recovered := true }], rfl, .tuple #[], results_none rfl _ _ _, rfl, rfl,
    ⟨(World.cell?_setCell_other _ _ _ _ (fun e => h2 (by injection e with e; exact e.symm))).trans (g4 _ _), ((hH.alloc _).other (a := ⟨pb, 0, none⟩) h2 h3 _).setWhy y, (((Turn.refl _ w).alloc _).set (Or.inl rfl) _).set (Or.inr (Or.inl rfl)) _⟩⟩
set_option maxRecDepth 20000 in
theorem catch_six (y : Int) (pb qb hb mb : Nat) (S : HS) (w : World) (x : Int) (hc : w.cell? ⟨pb, 0, none⟩ = some (.int .i64 x)) (hz : w.frozen? ⟨pb, 0, none⟩ = false) (hH : HostAt w hb mb S) (h2 : pb ≠ hb) (h3 : pb ≠ mb) :
    CallsD Try.prog 39 #[.pointer (some ⟨pb, 0, none⟩), .pointer (some ⟨qb, 0, none⟩)] (.panicking [{ v := trapV 6 y, recovered := false }]) w fun e u' w' => e = .returned (.tuple #[]) ∧ u' = .panicking [{ v := trapV 6 y, recovered := true }] ∧ Caught w pb hb mb 6 S w' := by
  have hta : ∀ w, (Instr.typeAssert (trapV 6 y) 20 75 true).run Try.prog w = .ok (.tuple #[.agg #[.int .i64 6, .int .u32 y], .bool true]) w := fun _ => by kernel_rfl
  have g1 : ∀ o, (w.alloc o).cell? ⟨pb, 0, none⟩ = some (.int .i64 x) := fun o => by rw [World.cell?_alloc_lt _ _ _ (World.block_lt_of_cell? _ _ hc)]; exact hc
  have g2 : ∀ o, (w.alloc o).frozen? ⟨pb, 0, none⟩ = false := fun o => by rw [World.frozen?_alloc_old _ _ _ (Nat.ne_of_lt (World.block_lt_of_cell? _ _ hc))]; exact hz
  have g4 : ∀ o v, ((w.alloc o).setCell ⟨pb, 0, none⟩ v).cell? ⟨pb, 0, none⟩ = some v := fun o v => World.cell?_setCell_same _ _ _ (g1 o)
  have g5 : ∀ o v i, ((w.alloc o).setCell ⟨pb, 0, none⟩ v).cell? ⟨w.heap.size, i, none⟩ = (w.alloc o).cell? ⟨w.heap.size, i, none⟩ := fun o v i => World.cell?_setCell_other _ _ _ _ (fun e => by have := World.block_lt_of_cell? _ _ hc; injection e with e; simp at this; omega)
  have g6 : ∀ o v, ((w.alloc o).setCell ⟨pb, 0, none⟩ v).cell? ⟨hb, 34, none⟩ = some (.int .u32 S.why) := fun o v => ((hH.alloc o).other (a := ⟨pb, 0, none⟩) h2 h3 v).why
  have g7 : ∀ o v, ((w.alloc o).setCell ⟨pb, 0, none⟩ v).frozen? ⟨hb, 34, none⟩ = false := fun o v => ((hH.alloc o).other (a := ⟨pb, 0, none⟩) h2 h3 v).h.free 34
  refine callsD_of_wpS Try.func39 rfl fun c₀ cs hu => ?_
  apply wpS_seq
  apply wpS_region
  simp [wpOpsS, go_sem, recoverD, hu, Try.ntmps39, Exit.thenS]
  refine wpS_gen fun Q' hQ' => ?_
  have HQ := Lib.hid hQ'; clear hQ'
  simp only [List.size_toArray, List.length_cons, List.length_nil, Nat.reduceAdd, Nat.reduceSub, Array.replicate_succ, Array.replicate_zero, List.push_toArray, List.setIfInBounds_toArray, List.set_cons_zero, List.set_cons_succ, List.append_toArray, List.nil_append, List.cons_append]
  go_wp2
  exact HQ.out _ _ _ ⟨rfl, .panicking [{ v := trapV 6 y, recovered := true }], rfl, .tuple #[], results_none rfl _ _ _, rfl, rfl,
    ⟨g4 _ _, (hH.alloc _).other (a := ⟨pb, 0, none⟩) h2 h3 _, ((Turn.refl _ w).alloc _).set (Or.inl rfl) _⟩⟩
end Go.Proofs.Ytpclikbjpjoccaa
