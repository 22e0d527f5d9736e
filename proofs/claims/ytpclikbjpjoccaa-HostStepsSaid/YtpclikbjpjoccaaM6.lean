/-
  Texts of this claim, laid together by a program: HoF HoG HoH HoM HoI HlK.
-/
import Derived.Test.YtpclikbjpjoccaaM5
import Derived.Test.YtpclikbjpjoccaaRvD
namespace Go.Proofs.Ytpclikbjpjoccaa
open Go Go.RowKit Go.Sx
set_option linter.unusedVariables false
set_option linter.unusedSimpArgs false
def nxt (S : HS) : Int := (S.pc + 4) % 4294967296
def rel (S : HS) (n : Int) : Int := (S.pc + n) % 4294967296
def adr (S : HS) (r n : Int) : Int := (getX S r + n) % 4294967296
def evn (x : Int) : Int := x - x % 2
def hdo (S : HS) (op rd r1 r2 n : Int) : Int × Int × HS :=
  if op = 1 then (0, 0, (putX S rd (n % 4294967296)).setPC (nxt S))
  else if op = 2 then (0, 0, (putX S rd (rel S n)).setPC (nxt S))
  else if op = 3 then (if rel S n % 4 = 0 then (0, 0, (putX S rd (nxt S)).setPC (rel S n)) else (5, rel S n, S))
  else if op = 4 then (if evn (adr S r1 n) % 4 = 0 then (0, 0, (putX S rd (nxt S)).setPC (evn (adr S r1 n))) else (5, evn (adr S r1 n), S))
  else if op ≤ 10 then (if hoTaken op (getX S r1) (getX S r2) = true then (if rel S n % 4 = 0 then (0, 0, S.setPC (rel S n)) else (5, rel S n, S)) else (0, 0, S.setPC (nxt S)))
  else if op ≤ 15 then (if canB (adr S r1 n) (lsz op) = true then (0, 0, (putX S rd (lvl S op (adr S r1 n))).setPC (nxt S)) else (3, adr S r1 n, S))
  else if op ≤ 18 then (if canB (adr S r1 n) (ssz op) = true then (0, 0, (stM S (adr S r1 n) (ssz op) (getX S r2)).setPC (nxt S)) else (4, adr S r1 n, S))
  else if op ≤ 27 then (0, 0, (putX S rd (hoReckons (imOp (op - 19)) (getX S r1) (n % 4294967296))).setPC (nxt S))
  else if op ≤ 45 then (0, 0, (putX S rd (hoReckons op (getX S r1) (getX S r2))).setPC (nxt S))
  else if op = 46 then (1, 0, S.setPC (nxt S)) else (2, 0, S.setPC (nxt S))
def DoesPost (w : World) (hb mb : Nat) (r : Int × Int × HS) (e : Ending) (w' : World) : Prop :=
  Makes w hb mb r.2.2 w' ∧ ((r.1 ≤ 2 ∧ e = .returned (.int .i64 r.1)) ∨ (3 ≤ r.1 ∧ r.1 ≤ 5 ∧ e = trapE r.1 r.2.1))
theorem host_does (w : World) (hb mb : Nat) (S : HS) (hH : HostAt w hb mb S) (hG : Good S) (op rd r1 r2 n : Int) (ho : 1 ≤ op ∧ op ≤ 47) (hd : I64 rd) (h1 : I64 r1) (h2 : I64 r2) (hn : -2147483648 ≤ n ∧ n ≤ 2147483647) :
    Calls Try.prog 41 #[.pointer (some ⟨hb, 0, none⟩), .agg #[.int .i64 op, .int .i64 rd, .int .i64 r1, .int .i64 r2, .int .i32 n]] w (DoesPost w hb mb (hdo S op rd r1 r2 n)) := by
  have ok : ∀ {k : Int} {S' : HS} {y : Int}, hdo S op rd r1 r2 n = (k, y, S') → k ≤ 2 →
      Calls Try.prog 41 #[.pointer (some ⟨hb, 0, none⟩), .agg #[.int .i64 op, .int .i64 rd, .int .i64 r1, .int .i64 r2, .int .i32 n]] w (fun e w' => e = .returned (.int .i64 k) ∧ Makes w hb mb S' w') →
      Calls Try.prog 41 #[.pointer (some ⟨hb, 0, none⟩), .agg #[.int .i64 op, .int .i64 rd, .int .i64 r1, .int .i64 r2, .int .i32 n]] w (DoesPost w hb mb (hdo S op rd r1 r2 n)) :=
    fun {k S' y} he hk hc => hc.mono fun e w' h => by rw [he]; exact ⟨h.2, Or.inl ⟨hk, h.1⟩⟩
  have no : ∀ {k y : Int}, hdo S op rd r1 r2 n = (k, y, S) → 3 ≤ k → k ≤ 5 →
      Calls Try.prog 41 #[.pointer (some ⟨hb, 0, none⟩), .agg #[.int .i64 op, .int .i64 rd, .int .i64 r1, .int .i64 r2, .int .i32 n]] w (fun e w' => e = trapE k y ∧ Makes w hb mb S w') →
      Calls Try.prog 41 #[.pointer (some ⟨hb, 0, none⟩), .agg #[.int .i64 op, .int .i64 rd, .int .i64 r1, .int .i64 r2, .int .i32 n]] w (DoesPost w hb mb (hdo S op rd r1 r2 n)) :=
    fun {k y} he hk hk2 hc => hc.mono fun e w' h => by rw [he]; exact ⟨h.2, Or.inr ⟨hk, hk2, h.1⟩⟩
  by_cases q1 : op = 1
  · exact ok (by unfold hdo; rw [if_pos q1]; try rfl) (by decide) (by subst q1; exact does_lui w hb mb S hH hG rd r1 r2 n hd h1 h2 hn)
  by_cases q2 : op = 2
  · exact ok (by unfold hdo; rw [if_neg q1, if_pos q2]; try rfl) (by decide) (by subst q2; exact does_auipc w hb mb S hH hG rd r1 r2 n hd h1 h2 hn)
  by_cases q3 : op = 3
  · by_cases m : rel S n % 4 = 0
    · exact ok (by unfold hdo; rw [if_neg q1, if_neg q2, if_pos q3, if_pos m]; try rfl) (by decide) (by subst q3; exact does_jal w hb mb S hH hG rd r1 r2 n hd h1 h2 hn m)
    · exact no (by unfold hdo; rw [if_neg q1, if_neg q2, if_pos q3, if_neg m]; try rfl) (by decide) (by decide) (by subst q3; exact does_jal_no w hb mb S hH hG rd r1 r2 n hd h1 h2 hn m)
  by_cases q4 : op = 4
  · by_cases m : evn (adr S r1 n) % 4 = 0
    · exact ok (by unfold hdo; rw [if_neg q1, if_neg q2, if_neg q3, if_pos q4, if_pos m]; try rfl) (by decide) (by subst q4; exact does_jalr w hb mb S hH hG rd r1 r2 n hd h1 h2 hn m)
    · exact no (by unfold hdo; rw [if_neg q1, if_neg q2, if_neg q3, if_pos q4, if_neg m]; try rfl) (by decide) (by decide) (by subst q4; exact does_jalr_no w hb mb S hH hG rd r1 r2 n hd h1 h2 hn m)
  by_cases q5 : op ≤ 10
  · by_cases t : hoTaken op (getX S r1) (getX S r2) = true
    · by_cases m : rel S n % 4 = 0
      · exact ok (by unfold hdo; rw [if_neg q1, if_neg q2, if_neg q3, if_neg q4, if_pos q5, if_pos t, if_pos m]; try rfl) (by decide) (does_branch w hb mb S hH hG op rd r1 r2 n hd h1 h2 hn (by omega) t m)
      · exact no (by unfold hdo; rw [if_neg q1, if_neg q2, if_neg q3, if_neg q4, if_pos q5, if_pos t, if_neg m]; try rfl) (by decide) (by decide) (does_branch_no w hb mb S hH hG op rd r1 r2 n hd h1 h2 hn (by omega) t m)
    · exact ok (by unfold hdo; rw [if_neg q1, if_neg q2, if_neg q3, if_neg q4, if_pos q5, if_neg t]; try rfl) (by decide) (does_branch_not w hb mb S hH hG op rd r1 r2 n hd h1 h2 hn (by omega) (Bool.eq_false_iff.2 t))
  by_cases q6 : op ≤ 15
  · by_cases c : canB (adr S r1 n) (lsz op) = true
    · exact ok (by unfold hdo; rw [if_neg q1, if_neg q2, if_neg q3, if_neg q4, if_neg q5, if_pos q6, if_pos c]; try rfl) (by decide) (does_loads w hb mb S hH hG op rd r1 r2 n hd h1 h2 hn (by omega) c)
    · exact no (by unfold hdo; rw [if_neg q1, if_neg q2, if_neg q3, if_neg q4, if_neg q5, if_pos q6, if_neg c]; try rfl) (by decide) (by decide) (does_loads_no w hb mb S hH hG op rd r1 r2 n hd h1 h2 hn (by omega) (Bool.eq_false_iff.2 c))
  by_cases q7 : op ≤ 18
  · by_cases c : canB (adr S r1 n) (ssz op) = true
    · exact ok (by unfold hdo; rw [if_neg q1, if_neg q2, if_neg q3, if_neg q4, if_neg q5, if_neg q6, if_pos q7, if_pos c]; try rfl) (by decide) (does_stores w hb mb S hH hG op rd r1 r2 n hd h1 h2 hn (by omega) c)
    · exact no (by unfold hdo; rw [if_neg q1, if_neg q2, if_neg q3, if_neg q4, if_neg q5, if_neg q6, if_pos q7, if_neg c]; try rfl) (by decide) (by decide) (does_stores_no w hb mb S hH hG op rd r1 r2 n hd h1 h2 hn (by omega) (Bool.eq_false_iff.2 c))
  by_cases q8 : op ≤ 27
  · exact ok (by unfold hdo; rw [if_neg q1, if_neg q2, if_neg q3, if_neg q4, if_neg q5, if_neg q6, if_neg q7, if_pos q8]; try rfl) (by decide) (does_imm w hb mb S hH hG op rd r1 r2 n hd h1 h2 hn (by omega))
  by_cases q9 : op ≤ 45
  · exact ok (by unfold hdo; rw [if_neg q1, if_neg q2, if_neg q3, if_neg q4, if_neg q5, if_neg q6, if_neg q7, if_neg q8, if_pos q9]; try rfl) (by decide) (does_reg w hb mb S hH hG op rd r1 r2 n hd h1 h2 hn (by omega))
  by_cases q10 : op = 46
  · exact ok (by unfold hdo; rw [if_neg q1, if_neg q2, if_neg q3, if_neg q4, if_neg q5, if_neg q6, if_neg q7, if_neg q8, if_neg q9, if_pos q10]; try rfl) (by decide) (by subst q10; exact does_ecall w hb mb S hH hG rd r1 r2 n hd h1 h2 hn)
  · have q : op = 47 := by omega
    exact ok (by unfold hdo; rw [if_neg q1, if_neg q2, if_neg q3, if_neg q4, if_neg q5, if_neg q6, if_neg q7, if_neg q8, if_neg q9, if_neg q10]; try rfl) (by decide) (by subst q; exact does_ebreak w hb mb S hH hG rd r1 r2 n hd h1 h2 hn)
end Go.Proofs.Ytpclikbjpjoccaa
namespace Go.Proofs.Ytpclikbjpjoccaa
open Go Go.RowKit Go.Sx
set_option linter.unusedVariables false
set_option linter.unusedSimpArgs false
theorem Turn.transNew {p : Nat → Prop} {c : Nat} {w w1 w2 : World} (h : Turn p w w1) (k : Turn (fun b => b = c ∨ p b) w1 w2) (hc : w.heap.size ≤ c) : Turn p w w2 :=
  ⟨k.os.trans h.os, k.tape.trans h.tape, k.output.trans h.output, Nat.le_trans h.size k.size, fun i hi hp =>
    (k.block i (Nat.lt_of_lt_of_le hi h.size) (fun e => e.elim (fun e => by omega) hp)).trans (h.block i hi hp)⟩
theorem W_regs {op d a b n : Int} (h : W op d a b n) : I64 d ∧ I64 a ∧ I64 b := by
  unfold I64
  obtain ⟨_, h⟩ := h
  unfold Rg at h
  omega
set_option maxHeartbeats 2000000 in
set_option maxRecDepth 100000 in
theorem step_fetch (w : World) (hb mb : Nat) (S : HS) (hH : HostAt w hb mb S) (hG : Good S) (hc : canB S.pc 4 = false) :
    Calls Try.prog 20 #[.pointer (some ⟨hb, 0, none⟩)] w fun e w' => e = .returned (.int .i64 5) ∧ Makes w hb mb (S.setWhy S.pc) w' := by
  have hmf : ∀ (fn : Fn) (first cap : Array Value) (w : World), (Instr.makeFunc fn first cap).run Try.prog w = .ok (.func fn first cap) w := fun _ _ _ _ => rfl
  have HC := Lib.hid hc; clear hc
  have hp := hG.pc
  go_enter_defers Try.func20, Try.ntmps20
  go_wp2_with fail
  obtain ⟨W, hW⟩ : ∃ W, W = (w.alloc (.cells #[.pointer (some ⟨hb, 0, none⟩)] 24)).alloc (.cells #[.int .i64 0] 3) := ⟨_, rfl⟩
  rw [← hW]
  have k0 : W.cell? ⟨w.heap.size, 0, none⟩ = some (.pointer (some ⟨hb, 0, none⟩)) := by rw [hW, World.cell?_alloc_lt _ _ _ (by simp), World.cell?_alloc_new]; rfl
  have k1 : W.cell? ⟨w.heap.size + 1, 0, none⟩ = some (.int .i64 0) := by rw [hW, show w.heap.size + 1 = (w.alloc (.cells #[.pointer (some ⟨hb, 0, none⟩)] 24)).heap.size by simp, World.cell?_alloc_new]; rfl
  have z1 : W.frozen? ⟨w.heap.size + 1, 0, none⟩ = false := by rw [hW, show w.heap.size + 1 = (w.alloc (.cells #[.pointer (some ⟨hb, 0, none⟩)] 24)).heap.size by simp, World.frozen?_alloc_new]
  have hHW : HostAt W hb mb S := hW ▸ (hH.alloc _).alloc _
  have hT : Turn (Own hb mb) w W := hW ▸ ((Turn.refl _ w).alloc _).alloc _
  have hz : w.heap.size + 1 < W.heap.size := by rw [hW]; simp
  have l1 := hH.h.lt
  have l2 := hH.m.lt
  have HW := Lib.hid hW; clear hW
  have kp := hHW.pc
  have K := Lib.hid (⟨k0, kp⟩ : W.cell? ⟨w.heap.size, 0, none⟩ = some (.pointer (some ⟨hb, 0, none⟩)) ∧ W.cell? ⟨hb, 33, none⟩ = some (.int .u32 S.pc))
  go_region_held3 (fun w' => (w'.cell? ⟨w.heap.size, 0, none⟩ = some (.pointer (some ⟨hb, 0, none⟩)) ∧ w'.cell? ⟨hb, 33, none⟩ = some (.int .u32 S.pc))) (first | exact K.out | exact K1) (first | (go_at_call 15; refine (host_Load _ hb mb S hHW.drew hG S.pc 4 hp.1 hp.2).mono ?_; rw [HC.out]; rintro e w1 ⟨rfl, hB⟩; have q0 := (hB.cell (p := ⟨w.heap.size, 0, none⟩) (by simp; omega)).trans k0; have q1 := (hB.cell (p := ⟨w.heap.size + 1, 0, none⟩) hz).trans k1; have y1 := (hB.frozen (p := ⟨w.heap.size + 1, 0, none⟩) hz).trans z1; have hH1 := hHW.drew.below hB; have hp1 := hH1.pc; have hT1 := hT.drew.trans (Turn.of_below (p := Own hb mb) hB); have hz1 : w.heap.size + 1 < w1.heap.size := Nat.lt_of_lt_of_le hz hB.size; have K1 := (⟨q0, hp1⟩ : w1.cell? ⟨w.heap.size, 0, none⟩ = some (.pointer (some ⟨hb, 0, none⟩)) ∧ w1.cell? ⟨hb, 33, none⟩ = some (.int .u32 S.pc)); have HB := Lib.hid hB; clear hB))
  go_wp2_with fail
  refine leaves_cons (f := 39) (args := #[.pointer (some ⟨w.heap.size + 1, 0, none⟩), .pointer (some ⟨w.heap.size, 0, none⟩)]) (by simp) (by simp [go_sem]) ?_
  refine (catch_trap 5 S.pc _ w.heap.size hb mb S w1 0 q1 y1 q0 hH1 (by omega) (by omega) (by omega) rfl).mono ?_
  rintro e u' w9 ⟨rfl, rfl, hC⟩
  have c0 := hC.kind
  simp [Leaves, settle, results, Try.results20, go_sem, c0]
  exact ⟨hC.at_, hT1.transNew hC.turn (by omega)⟩
set_option maxHeartbeats 2000000 in
set_option maxRecDepth 100000 in
theorem step_illegal (w : World) (hb mb : Nat) (S : HS) (hH : HostAt w hb mb S) (hG : Good S) (hc : canB S.pc 4 = true) (hd : rvDec_5 (ldV S S.pc 4) = false) :
    Calls Try.prog 20 #[.pointer (some ⟨hb, 0, none⟩)] w fun e w' => e = .returned (.int .i64 6) ∧ Makes w hb mb S w' := by
  have hmf : ∀ (fn : Fn) (first cap : Array Value) (w : World), (Instr.makeFunc fn first cap).run Try.prog w = .ok (.func fn first cap) w := fun _ _ _ _ => rfl
  have HC := Lib.hid hc; clear hc
  have hp := hG.pc
  go_enter_defers Try.func20, Try.ntmps20
  go_wp2_with fail
  obtain ⟨W, hW⟩ : ∃ W, W = (w.alloc (.cells #[.pointer (some ⟨hb, 0, none⟩)] 24)).alloc (.cells #[.int .i64 0] 3) := ⟨_, rfl⟩
  rw [← hW]
  have k0 : W.cell? ⟨w.heap.size, 0, none⟩ = some (.pointer (some ⟨hb, 0, none⟩)) := by rw [hW, World.cell?_alloc_lt _ _ _ (by simp), World.cell?_alloc_new]; rfl
  have k1 : W.cell? ⟨w.heap.size + 1, 0, none⟩ = some (.int .i64 0) := by rw [hW, show w.heap.size + 1 = (w.alloc (.cells #[.pointer (some ⟨hb, 0, none⟩)] 24)).heap.size by simp, World.cell?_alloc_new]; rfl
  have z1 : W.frozen? ⟨w.heap.size + 1, 0, none⟩ = false := by rw [hW, show w.heap.size + 1 = (w.alloc (.cells #[.pointer (some ⟨hb, 0, none⟩)] 24)).heap.size by simp, World.frozen?_alloc_new]
  have hHW : HostAt W hb mb S := hW ▸ (hH.alloc _).alloc _
  have hT : Turn (Own hb mb) w W := hW ▸ ((Turn.refl _ w).alloc _).alloc _
  have hz : w.heap.size + 1 < W.heap.size := by rw [hW]; simp
  have l1 := hH.h.lt
  have l2 := hH.m.lt
  have HW := Lib.hid hW; clear hW
  have kp := hHW.pc
  have K := Lib.hid (⟨k0, kp⟩ : W.cell? ⟨w.heap.size, 0, none⟩ = some (.pointer (some ⟨hb, 0, none⟩)) ∧ W.cell? ⟨hb, 33, none⟩ = some (.int .u32 S.pc))
  go_region_held3 (fun w' => (w'.cell? ⟨w.heap.size, 0, none⟩ = some (.pointer (some ⟨hb, 0, none⟩)) ∧ w'.cell? ⟨hb, 33, none⟩ = some (.int .u32 S.pc))) (first | exact K.out | exact K1) (first | (go_at_call 15; refine (host_Load _ hb mb S hHW.drew hG S.pc 4 hp.1 hp.2).mono ?_; rw [HC.out]; rintro e w1 ⟨rfl, hB⟩; have q0 := (hB.cell (p := ⟨w.heap.size, 0, none⟩) (by simp; omega)).trans k0; have q1 := (hB.cell (p := ⟨w.heap.size + 1, 0, none⟩) hz).trans k1; have y1 := (hB.frozen (p := ⟨w.heap.size + 1, 0, none⟩) hz).trans z1; have hH1 := hHW.drew.below hB; have hp1 := hH1.pc; have hT1 := hT.drew.trans (Turn.of_below (p := Own hb mb) hB); have hz1 : w.heap.size + 1 < w1.heap.size := Nat.lt_of_lt_of_le hz hB.size; have K1 := (⟨q0, hp1⟩ : w1.cell? ⟨w.heap.size, 0, none⟩ = some (.pointer (some ⟨hb, 0, none⟩)) ∧ w1.cell? ⟨hb, 33, none⟩ = some (.int .u32 S.pc)); have HB := Lib.hid hB; clear hB))
  obtain ⟨X, hX⟩ : ∃ X, X = ldV S S.pc 4 := ⟨_, rfl⟩
  rw [← hX]
  have hXb : 0 ≤ X ∧ X ≤ 4294967295 := hX ▸ ldV_bd hG _ _
  rw [← hX] at hd
  have HD := Lib.hid hd; clear hd
  have HX := Lib.hid hX; clear hX
  go_wp2_with (go_at_call 40; refine (host_Decode X (has_u32.2 (by omega)) _).mono ?_; rw [HD.out]; rintro e w2 ⟨rfl, hB⟩; have r0 := (hB.cell (p := ⟨w.heap.size, 0, none⟩) (by simp; omega)).trans q0; have r1 := (hB.cell (p := ⟨w.heap.size + 1, 0, none⟩) hz1).trans q1; have s1 := (hB.frozen (p := ⟨w.heap.size + 1, 0, none⟩) hz1).trans y1; have hH2 := hH1.below hB; have hT2 := hT1.trans (Turn.of_below (p := Own hb mb) hB); have hz2 : w.heap.size + 1 < w2.heap.size := Nat.lt_of_lt_of_le hz1 hB.size; have R0 : ∀ o, (w2.alloc o).cell? ⟨w.heap.size, 0, none⟩ = some (.pointer (some ⟨hb, 0, none⟩)) := (fun o => by rw [World.cell?_alloc_lt _ _ _ (by simp; omega)]; exact r0); have R1 : ∀ o, (w2.alloc o).cell? ⟨w.heap.size + 1, 0, none⟩ = some (.int .i64 0) := (fun o => by rw [World.cell?_alloc_lt _ _ _ (by simp; omega)]; exact r1); have R2 : ∀ o, (w2.alloc o).frozen? ⟨w.heap.size + 1, 0, none⟩ = false := (fun o => by rw [World.frozen?_alloc_old _ _ _ (by simp; omega)]; exact s1); have HB2 := Lib.hid hB; clear hB)
  refine leaves_cons (f := 39) (args := #[.pointer (some ⟨w.heap.size + 1, 0, none⟩), .pointer (some ⟨w.heap.size, 0, none⟩)]) (by simp) (by simp [go_sem]) ?_
  refine (catch_six 0 _ w.heap.size hb mb S _ 0 (R1 _) (R2 _) (hH2.alloc _) (by omega) (by omega)).mono ?_
  rintro e u' w9 ⟨rfl, rfl, hC⟩
  have c0 := hC.kind
  simp [Leaves, settle, results, Try.results20, go_sem, c0]
  exact ⟨hC.at_, (hT2.alloc _).transNew hC.turn (by omega)⟩
set_option maxHeartbeats 2000000 in
set_option maxRecDepth 100000 in
theorem step_trap (w : World) (hb mb : Nat) (S : HS) (hH : HostAt w hb mb S) (hG : Good S) (X : Int) (hX : X = ldV S S.pc 4) (hc : canB S.pc 4 = true) (hd : rvDec_5 X = true) (r : Int × Int × HS) (hre : r = (hdo S (rvDec_0 X) (rvDec_1 X) (rvDec_2 X) (rvDec_3 X) (rvDec_4 X))) (hr : 3 ≤ r.1 ∧ r.1 ≤ 5) :
    Calls Try.prog 20 #[.pointer (some ⟨hb, 0, none⟩)] w fun e w' => e = .returned (.int .i64 r.1) ∧ Makes w hb mb (r.2.2.setWhy r.2.1) w' := by
  have hXb : 0 ≤ X ∧ X ≤ 4294967295 := hX ▸ ldV_bd hG _ _
  have HX := Lib.hid hX; clear hX
  obtain ⟨hw, hn, _⟩ := rvDec_was hXb.1 (by omega) hd
  have hop := hw.1
  obtain ⟨b1, b2, b3⟩ := W_regs hw
  have hn2 : -2147483648 ≤ rvDec_4 X ∧ rvDec_4 X ≤ 2147483647 := by omega
  have HR := Lib.hid hre; clear hre
  clear hw hn
  have HD := Lib.hid hd; clear hd
  have hlt1 := hH.h.lt
  have hlt2 := hH.m.lt
  have nown0 : ¬ Own hb mb w.heap.size := fun h => by rcases h with h | h <;> omega
  have nown1 : ¬ Own hb mb (w.heap.size + 1) := fun h => by rcases h with h | h <;> omega
  have hmf : ∀ (fn : Fn) (first cap : Array Value) (w : World), (Instr.makeFunc fn first cap).run Try.prog w = .ok (.func fn first cap) w := fun _ _ _ _ => rfl
  have HC := Lib.hid hc; clear hc
  have hp := hG.pc
  go_enter_defers Try.func20, Try.ntmps20
  go_wp2_with fail
  obtain ⟨W, hW⟩ : ∃ W, W = (w.alloc (.cells #[.pointer (some ⟨hb, 0, none⟩)] 24)).alloc (.cells #[.int .i64 0] 3) := ⟨_, rfl⟩
  rw [← hW]
  have k0 : W.cell? ⟨w.heap.size, 0, none⟩ = some (.pointer (some ⟨hb, 0, none⟩)) := by rw [hW, World.cell?_alloc_lt _ _ _ (by simp), World.cell?_alloc_new]; rfl
  have k1 : W.cell? ⟨w.heap.size + 1, 0, none⟩ = some (.int .i64 0) := by rw [hW, show w.heap.size + 1 = (w.alloc (.cells #[.pointer (some ⟨hb, 0, none⟩)] 24)).heap.size by simp, World.cell?_alloc_new]; rfl
  have z1 : W.frozen? ⟨w.heap.size + 1, 0, none⟩ = false := by rw [hW, show w.heap.size + 1 = (w.alloc (.cells #[.pointer (some ⟨hb, 0, none⟩)] 24)).heap.size by simp, World.frozen?_alloc_new]
  have hHW : HostAt W hb mb S := hW ▸ (hH.alloc _).alloc _
  have hT : Turn (Own hb mb) w W := hW ▸ ((Turn.refl _ w).alloc _).alloc _
  have hz : w.heap.size + 1 < W.heap.size := by rw [hW]; simp
  have l1 := hH.h.lt
  have l2 := hH.m.lt
  have HW := Lib.hid hW; clear hW
  have kp := hHW.pc
  have K := Lib.hid (⟨k0, kp⟩ : W.cell? ⟨w.heap.size, 0, none⟩ = some (.pointer (some ⟨hb, 0, none⟩)) ∧ W.cell? ⟨hb, 33, none⟩ = some (.int .u32 S.pc))
  go_region_held3 (fun w' => (w'.cell? ⟨w.heap.size, 0, none⟩ = some (.pointer (some ⟨hb, 0, none⟩)) ∧ w'.cell? ⟨hb, 33, none⟩ = some (.int .u32 S.pc))) (first | exact K.out | exact K1) (first | (go_at_call 15; refine (host_Load _ hb mb S hHW.drew hG S.pc 4 hp.1 hp.2).mono ?_; rw [HC.out, ← HX.out]; rintro e w1 ⟨rfl, hB⟩; have q0 := (hB.cell (p := ⟨w.heap.size, 0, none⟩) (by simp; omega)).trans k0; have q1 := (hB.cell (p := ⟨w.heap.size + 1, 0, none⟩) hz).trans k1; have y1 := (hB.frozen (p := ⟨w.heap.size + 1, 0, none⟩) hz).trans z1; have hH1 := hHW.drew.below hB; have hp1 := hH1.pc; have hT1 := hT.drew.trans (Turn.of_below (p := Own hb mb) hB); have hz1 : w.heap.size + 1 < w1.heap.size := Nat.lt_of_lt_of_le hz hB.size; have K1 := (⟨q0, hp1⟩ : w1.cell? ⟨w.heap.size, 0, none⟩ = some (.pointer (some ⟨hb, 0, none⟩)) ∧ w1.cell? ⟨hb, 33, none⟩ = some (.int .u32 S.pc)); have HB := Lib.hid hB; clear hB))
  go_wp2_with (first | (go_at_call 40; refine (host_Decode X (has_u32.2 (by omega)) _).mono ?_; rw [HD.out]; rintro e w2 ⟨rfl, hB⟩; have r0 := (hB.cell (p := ⟨w.heap.size, 0, none⟩) (by simp; omega)).trans q0; have r1 := (hB.cell (p := ⟨w.heap.size + 1, 0, none⟩) hz1).trans q1; have s1 := (hB.frozen (p := ⟨w.heap.size + 1, 0, none⟩) hz1).trans y1; have hH2 := hH1.below hB; have hT2 := hT1.trans (Turn.of_below (p := Own hb mb) hB); have hz2 : w.heap.size + 1 < w2.heap.size := Nat.lt_of_lt_of_le hz1 hB.size; have R0 : ∀ o, (w2.alloc o).cell? ⟨w.heap.size, 0, none⟩ = some (.pointer (some ⟨hb, 0, none⟩)) := (fun o => by rw [World.cell?_alloc_lt _ _ _ (by simp; omega)]; exact r0); have R1 : ∀ o, (w2.alloc o).cell? ⟨w.heap.size + 1, 0, none⟩ = some (.int .i64 0) := (fun o => by rw [World.cell?_alloc_lt _ _ _ (by simp; omega)]; exact r1); have R2 : ∀ o, (w2.alloc o).frozen? ⟨w.heap.size + 1, 0, none⟩ = false := (fun o => by rw [World.frozen?_alloc_old _ _ _ (by simp; omega)]; exact s1); have HB2 := Lib.hid hB; clear hB) | (go_at_call 41; refine (host_does _ hb mb S (hH2.alloc _) hG _ _ _ _ _ hop b1 b2 b3 hn2).mono ?_; rw [← HR.out]; rintro e w3 ⟨hM, hE⟩; obtain rfl : e = trapE r.1 r.2.1 := hE.elim (fun h => absurd h.1 (by omega)) (fun h => h.2.2); have t0 := (hM.turn.cell (b := w.heap.size) (i := 0) (by simp; omega) nown0).trans (R0 _); have t1 := (hM.turn.cell (b := w.heap.size + 1) (i := 0) (by simp; omega) nown1).trans (R1 _); have t2 := (hM.turn.frozen (b := w.heap.size + 1) (i := 0) (by simp; omega) nown1).trans (R2 _); have HM := Lib.hid hM; clear hM hE))
  refine leaves_cons (f := 39) (args := #[.pointer (some ⟨w.heap.size + 1, 0, none⟩), .pointer (some ⟨w.heap.size, 0, none⟩)]) (by simp) (by simp [go_sem]) ?_
  refine (catch_trap r.1 r.2.1 _ w.heap.size hb mb r.2.2 w3 0 t1 t2 t0 HM.out.at_ (by omega) (by omega) (by omega) (by simp; omega)).mono ?_
  rintro e u' w9 ⟨rfl, rfl, hC⟩
  have c0 := hC.kind
  simp [Leaves, settle, results, Try.results20, go_sem, c0]
  exact ⟨hC.at_, ((hT2.alloc _).trans HM.out.turn).transNew hC.turn (by omega)⟩
set_option maxHeartbeats 2000000 in
set_option maxRecDepth 100000 in
theorem step_ret (w : World) (hb mb : Nat) (S : HS) (hH : HostAt w hb mb S) (hG : Good S) (X : Int) (hX : X = ldV S S.pc 4) (hc : canB S.pc 4 = true) (hd : rvDec_5 X = true) (r : Int × Int × HS) (hre : r = (hdo S (rvDec_0 X) (rvDec_1 X) (rvDec_2 X) (rvDec_3 X) (rvDec_4 X))) (hr : r.1 ≤ 2) :
    Calls Try.prog 20 #[.pointer (some ⟨hb, 0, none⟩)] w fun e w' => e = .returned (.int .i64 r.1) ∧ Makes w hb mb r.2.2 w' := by
  have hXb : 0 ≤ X ∧ X ≤ 4294967295 := hX ▸ ldV_bd hG _ _
  have HX := Lib.hid hX; clear hX
  obtain ⟨hw, hn, _⟩ := rvDec_was hXb.1 (by omega) hd
  have hop := hw.1
  obtain ⟨b1, b2, b3⟩ := W_regs hw
  have hn2 : -2147483648 ≤ rvDec_4 X ∧ rvDec_4 X ≤ 2147483647 := by omega
  have HR := Lib.hid hre; clear hre
  clear hw hn
  have HD := Lib.hid hd; clear hd
  have hlt1 := hH.h.lt
  have hlt2 := hH.m.lt
  have nown0 : ¬ Own hb mb w.heap.size := fun h => by rcases h with h | h <;> omega
  have nown1 : ¬ Own hb mb (w.heap.size + 1) := fun h => by rcases h with h | h <;> omega
  have hmf : ∀ (fn : Fn) (first cap : Array Value) (w : World), (Instr.makeFunc fn first cap).run Try.prog w = .ok (.func fn first cap) w := fun _ _ _ _ => rfl
  have HC := Lib.hid hc; clear hc
  have hp := hG.pc
  go_enter_defers Try.func20, Try.ntmps20
  go_wp2_with fail
  obtain ⟨W, hW⟩ : ∃ W, W = (w.alloc (.cells #[.pointer (some ⟨hb, 0, none⟩)] 24)).alloc (.cells #[.int .i64 0] 3) := ⟨_, rfl⟩
  rw [← hW]
  have k0 : W.cell? ⟨w.heap.size, 0, none⟩ = some (.pointer (some ⟨hb, 0, none⟩)) := by rw [hW, World.cell?_alloc_lt _ _ _ (by simp), World.cell?_alloc_new]; rfl
  have k1 : W.cell? ⟨w.heap.size + 1, 0, none⟩ = some (.int .i64 0) := by rw [hW, show w.heap.size + 1 = (w.alloc (.cells #[.pointer (some ⟨hb, 0, none⟩)] 24)).heap.size by simp, World.cell?_alloc_new]; rfl
  have z1 : W.frozen? ⟨w.heap.size + 1, 0, none⟩ = false := by rw [hW, show w.heap.size + 1 = (w.alloc (.cells #[.pointer (some ⟨hb, 0, none⟩)] 24)).heap.size by simp, World.frozen?_alloc_new]
  have hHW : HostAt W hb mb S := hW ▸ (hH.alloc _).alloc _
  have hT : Turn (Own hb mb) w W := hW ▸ ((Turn.refl _ w).alloc _).alloc _
  have hz : w.heap.size + 1 < W.heap.size := by rw [hW]; simp
  have l1 := hH.h.lt
  have l2 := hH.m.lt
  have HW := Lib.hid hW; clear hW
  have kp := hHW.pc
  have K := Lib.hid (⟨k0, kp⟩ : W.cell? ⟨w.heap.size, 0, none⟩ = some (.pointer (some ⟨hb, 0, none⟩)) ∧ W.cell? ⟨hb, 33, none⟩ = some (.int .u32 S.pc))
  go_region_held3 (fun w' => (w'.cell? ⟨w.heap.size, 0, none⟩ = some (.pointer (some ⟨hb, 0, none⟩)) ∧ w'.cell? ⟨hb, 33, none⟩ = some (.int .u32 S.pc))) (first | exact K.out | exact K1) (first | (go_at_call 15; refine (host_Load _ hb mb S hHW.drew hG S.pc 4 hp.1 hp.2).mono ?_; rw [HC.out, ← HX.out]; rintro e w1 ⟨rfl, hB⟩; have q0 := (hB.cell (p := ⟨w.heap.size, 0, none⟩) (by simp; omega)).trans k0; have q1 := (hB.cell (p := ⟨w.heap.size + 1, 0, none⟩) hz).trans k1; have y1 := (hB.frozen (p := ⟨w.heap.size + 1, 0, none⟩) hz).trans z1; have hH1 := hHW.drew.below hB; have hp1 := hH1.pc; have hT1 := hT.drew.trans (Turn.of_below (p := Own hb mb) hB); have hz1 : w.heap.size + 1 < w1.heap.size := Nat.lt_of_lt_of_le hz hB.size; have K1 := (⟨q0, hp1⟩ : w1.cell? ⟨w.heap.size, 0, none⟩ = some (.pointer (some ⟨hb, 0, none⟩)) ∧ w1.cell? ⟨hb, 33, none⟩ = some (.int .u32 S.pc)); have HB := Lib.hid hB; clear hB))
  go_wp2_with (first | (go_at_call 40; refine (host_Decode X (has_u32.2 (by omega)) _).mono ?_; rw [HD.out]; rintro e w2 ⟨rfl, hB⟩; have r0 := (hB.cell (p := ⟨w.heap.size, 0, none⟩) (by simp; omega)).trans q0; have r1 := (hB.cell (p := ⟨w.heap.size + 1, 0, none⟩) hz1).trans q1; have s1 := (hB.frozen (p := ⟨w.heap.size + 1, 0, none⟩) hz1).trans y1; have hH2 := hH1.below hB; have hT2 := hT1.trans (Turn.of_below (p := Own hb mb) hB); have hz2 : w.heap.size + 1 < w2.heap.size := Nat.lt_of_lt_of_le hz1 hB.size; have R0 : ∀ o, (w2.alloc o).cell? ⟨w.heap.size, 0, none⟩ = some (.pointer (some ⟨hb, 0, none⟩)) := (fun o => by rw [World.cell?_alloc_lt _ _ _ (by simp; omega)]; exact r0); have R1 : ∀ o, (w2.alloc o).cell? ⟨w.heap.size + 1, 0, none⟩ = some (.int .i64 0) := (fun o => by rw [World.cell?_alloc_lt _ _ _ (by simp; omega)]; exact r1); have R2 : ∀ o, (w2.alloc o).frozen? ⟨w.heap.size + 1, 0, none⟩ = false := (fun o => by rw [World.frozen?_alloc_old _ _ _ (by simp; omega)]; exact s1); have HB2 := Lib.hid hB; clear hB) | (go_at_call 41; refine (host_does _ hb mb S (hH2.alloc _) hG _ _ _ _ _ hop b1 b2 b3 hn2).mono ?_; rw [← HR.out]; rintro e w3 ⟨hM, hE⟩; obtain rfl : e = .returned (.int .i64 r.1) := hE.elim (fun h => h.2) (fun h => absurd h.1 (by omega)); have t0 := (hM.turn.cell (b := w.heap.size) (i := 0) (by simp; omega) nown0).trans (R0 _); have t1 := (hM.turn.cell (b := w.heap.size + 1) (i := 0) (by simp; omega) nown1).trans (R1 _); have t2 := (hM.turn.frozen (b := w.heap.size + 1) (i := 0) (by simp; omega) nown1).trans (R2 _); have HM := Lib.hid hM; clear hM hE))
  refine leaves_cons (f := 39) (args := #[.pointer (some ⟨w.heap.size + 1, 0, none⟩), .pointer (some ⟨w.heap.size, 0, none⟩)]) (by simp) (by simp [go_sem]) ?_
  refine (catch_idle ⟨w.heap.size + 1, 0, none⟩ ⟨w.heap.size, 0, none⟩ _).mono ?_
  rintro e u' w9 ⟨rfl, rfl, rfl⟩
  have c0 : (w3.setCell ⟨w.heap.size + 1, 0, none⟩ (.int .i64 r.1)).cell? ⟨w.heap.size + 1, 0, none⟩ = some (.int .i64 r.1) := World.cell?_setCell_same _ _ _ t1
  simp [Leaves, settle, results, Try.results20, go_sem, c0]
  exact ⟨HM.out.at_.other (a := ⟨w.heap.size + 1, 0, none⟩) (show w.heap.size + 1 ≠ hb by omega) (show w.heap.size + 1 ≠ mb by omega) _, ((hT2.alloc _).trans HM.out.turn).setNew (by simp) _⟩
end Go.Proofs.Ytpclikbjpjoccaa
namespace Go.Proofs.Ytpclikbjpjoccaa
open Go Go.RowKit Go.Sx
set_option linter.unusedVariables false
set_option linter.unusedSimpArgs false
theorem hoReckons_bd {op a b : Int} (h0 : IntKind.has .i64 op) (h1 : IntKind.has .u32 a) (h2 : IntKind.has .u32 b) : 0 ≤ hoReckons op a b ∧ hoReckons op a b ≤ 4294967295 := by
  have h := hoReckons_ok.rng [.int .i64 op, .int .u32 a, .int .u32 b] ⟨⟨op, rfl, h0⟩, ⟨a, rfl, h1⟩, ⟨b, rfl, h2⟩, trivial⟩ 0 .u32 rfl
  have e : phi.i 65 [.int .i64 op, .int .u32 a, .int .u32 b] 0 = hoReckons op a b := by kernel_rfl
  rw [e] at h
  exact ⟨h.1, h.2⟩
theorem nxt_bd (S : HS) : 0 ≤ nxt S ∧ nxt S ≤ 4294967295 := by unfold nxt; omega
theorem rel_bd (S : HS) (n : Int) : 0 ≤ rel S n ∧ rel S n ≤ 4294967295 := by unfold rel; omega
theorem adr_bd (S : HS) (r n : Int) : 0 ≤ adr S r n ∧ adr S r n ≤ 4294967295 := by unfold adr; omega
theorem evn_bd {x : Int} (h : 0 ≤ x ∧ x ≤ 4294967295) : 0 ≤ evn x ∧ evn x ≤ 4294967295 := by unfold evn; omega
theorem z0 : (0 : Int) ≤ 0 ∧ (0 : Int) ≤ 4294967295 := by decide
theorem q0 : (0 : Int) ≤ 0 ∧ (0 : Int) ≤ 5 := by decide
theorem q1 : (0 : Int) ≤ 1 ∧ (1 : Int) ≤ 5 := by decide
theorem q2 : (0 : Int) ≤ 2 ∧ (2 : Int) ≤ 5 := by decide
theorem q3 : (0 : Int) ≤ 3 ∧ (3 : Int) ≤ 5 := by decide
theorem q4 : (0 : Int) ≤ 4 ∧ (4 : Int) ≤ 5 := by decide
theorem q5 : (0 : Int) ≤ 5 ∧ (5 : Int) ≤ 5 := by decide
theorem hdo_good {S : HS} (hG : Good S) (op rd r1 r2 n : Int) (ho : 1 ≤ op ∧ op ≤ 47) : Good (hdo S op rd r1 r2 n).2.2 ∧ (0 ≤ (hdo S op rd r1 r2 n).2.1 ∧ (hdo S op rd r1 r2 n).2.1 ≤ 4294967295) ∧ (0 ≤ (hdo S op rd r1 r2 n).1 ∧ (hdo S op rd r1 r2 n).1 ≤ 5) := by
  have n0 := nxt_bd S
  have n1 := rel_bd S n
  have n2 := adr_bd S r1 n
  have n3 := evn_bd n2
  have a0 := getX_bd hG r1
  have b0 := getX_bd hG r2
  unfold hdo
  split
  · exact ⟨(hG.putX _ (by omega)).setPC n0, z0, q0⟩
  split
  · exact ⟨(hG.putX _ n1).setPC n0, z0, q0⟩
  split
  · split
    · exact ⟨(hG.putX _ n0).setPC n1, z0, q0⟩
    · exact ⟨hG, n1, q5⟩
  split
  · split
    · exact ⟨(hG.putX _ n0).setPC n3, z0, q0⟩
    · exact ⟨hG, n3, q5⟩
  split
  · split
    · split
      · exact ⟨hG.setPC n1, z0, q0⟩
      · exact ⟨hG, n1, q5⟩
    · exact ⟨hG.setPC n0, z0, q0⟩
  split
  · split
    · exact ⟨(hG.putX _ (lvl_bd hG _ _)).setPC n0, z0, q0⟩
    · exact ⟨hG, n2, q3⟩
  split
  · split
    · exact ⟨(stM_good hG _ _ _).setPC n0, z0, q0⟩
    · exact ⟨hG, n2, q4⟩
  split
  · have q := imOp_bd (op - 19)
    exact ⟨(hG.putX _ (hoReckons_bd (has_i64.2 (by omega)) (has_u32.2 (by omega)) (has_u32.2 (by omega)))).setPC n0, z0, q0⟩
  split
  · exact ⟨(hG.putX _ (hoReckons_bd (has_i64.2 (by omega)) (has_u32.2 (by omega)) (has_u32.2 (by omega)))).setPC n0, z0, q0⟩
  split
  · exact ⟨hG.setPC n0, z0, q1⟩
  · exact ⟨hG.setPC n0, z0, q2⟩
def wrd (S : HS) : Int := ldV S S.pc 4
def hdoS (S : HS) : Int × Int × HS := hdo S (rvDec_0 (wrd S)) (rvDec_1 (wrd S)) (rvDec_2 (wrd S)) (rvDec_3 (wrd S)) (rvDec_4 (wrd S))
def hstep (S : HS) : Int × HS :=
  if canB S.pc 4 = true then
    if rvDec_5 (wrd S) = true then
      if (hdoS S).1 ≤ 2 then ((hdoS S).1, (hdoS S).2.2) else ((hdoS S).1, (hdoS S).2.2.setWhy (hdoS S).2.1)
    else (6, S)
  else (5, S.setWhy S.pc)
theorem wrd_bd {S : HS} (hG : Good S) : 0 ≤ wrd S ∧ wrd S < 4294967296 := by have := ldV_bd hG S.pc 4; unfold wrd; omega
theorem dec_op {x : Int} (h0 : 0 ≤ x ∧ x < 4294967296) (h : rvDec_5 x = true) : 1 ≤ rvDec_0 x ∧ rvDec_0 x ≤ 47 := (rvDec_was h0.1 h0.2 h).1.1
theorem hstep_good {S : HS} (hG : Good S) : Good (hstep S).2 ∧ 0 ≤ (hstep S).1 ∧ (hstep S).1 ≤ 6 := by
  unfold hstep
  split
  · split
    · rename_i h5
      obtain ⟨g1, g2, g3⟩ := hdo_good hG (rvDec_0 (wrd S)) (rvDec_1 (wrd S)) (rvDec_2 (wrd S)) (rvDec_3 (wrd S)) (rvDec_4 (wrd S)) (dec_op (wrd_bd hG) h5)
      split
      · exact ⟨g1, g3.1, by show (hdoS S).1 ≤ 6; have : (hdoS S).1 ≤ 5 := g3.2; omega⟩
      · exact ⟨g1.setWhy g2, g3.1, by show (hdoS S).1 ≤ 6; have : (hdoS S).1 ≤ 5 := g3.2; omega⟩
    · exact ⟨hG, show (0 : Int) ≤ 6 by decide, show (6 : Int) ≤ 6 by decide⟩
  · exact ⟨hG.setWhy hG.pc, show (0 : Int) ≤ 5 by decide, show (5 : Int) ≤ 6 by decide⟩
theorem host_Step (w : World) (hb mb : Nat) (S : HS) (hH : HostAt w hb mb S) (hG : Good S) :
    Calls Try.prog 20 #[.pointer (some ⟨hb, 0, none⟩)] w fun e w' => e = .returned (.int .i64 (hstep S).1) ∧ Makes w hb mb (hstep S).2 w' := by
  unfold hstep
  by_cases hc : canB S.pc 4 = true
  · rw [if_pos hc]
    by_cases hd : rvDec_5 (wrd S) = true
    · rw [if_pos hd]
      obtain ⟨_, _, g3⟩ := hdo_good hG (rvDec_0 (wrd S)) (rvDec_1 (wrd S)) (rvDec_2 (wrd S)) (rvDec_3 (wrd S)) (rvDec_4 (wrd S)) (dec_op (wrd_bd hG) hd)
      by_cases hr : (hdoS S).1 ≤ 2
      · rw [if_pos hr]
        exact step_ret w hb mb S hH hG (wrd S) rfl hc hd (hdoS S) rfl hr
      · rw [if_neg hr]
        exact step_trap w hb mb S hH hG (wrd S) rfl hc hd (hdoS S) rfl ⟨by omega, g3.2⟩
    · rw [if_neg hd]
      exact step_illegal w hb mb S hH hG hc (Bool.eq_false_iff.2 hd)
  · rw [if_neg hc]
    exact step_fetch w hb mb S hH hG (Bool.eq_false_iff.2 hc)
end Go.Proofs.Ytpclikbjpjoccaa
namespace Go.Proofs.Ytpclikbjpjoccaa
open Go Go.RowKit Go.Sx
set_option linter.unusedVariables false
set_option linter.unusedSimpArgs false
theorem rd4 (m : Nat → Int) (a : Nat) : rdM m a 4 = m a + 256 * m (a + 1) + 65536 * m (a + 2) + 16777216 * m (a + 3) := rfl
theorem putX_m (S : HS) (i v : Int) : (putX S i v).m = S.m := by unfold putX; split <;> rfl
theorem putX_x (S : HS) (i v : Int) : (putX S i v).x = if 1 ≤ i ∧ i < 32 then upd S.x i.toNat v else S.x := by unfold putX; split <;> rfl
theorem putX_why (S : HS) (i v : Int) : (putX S i v).why = S.why := by unfold putX; split <;> rfl
theorem stM_x (S : HS) (a n v : Int) : (stM S a n v).x = S.x := by unfold stM; split <;> rfl
theorem stM_pc (S : HS) (a n v : Int) : (stM S a n v).pc = S.pc := by unfold stM; split <;> rfl
theorem stM_why (S : HS) (a n v : Int) : (stM S a n v).why = S.why := by unfold stM; split <;> rfl
theorem setPC_x (S : HS) (v : Int) : (S.setPC v).x = S.x := rfl
theorem setPC_m (S : HS) (v : Int) : (S.setPC v).m = S.m := rfl
theorem setPC_pc (S : HS) (v : Int) : (S.setPC v).pc = v := rfl
theorem setPC_why (S : HS) (v : Int) : (S.setPC v).why = S.why := rfl
theorem ldV_m {S T : HS} (h : S.m = T.m) (a n : Int) : ldV S a n = ldV T a n := by unfold ldV; rw [h]
theorem getX_x {S T : HS} (h : S.x = T.x) (i : Int) : getX S i = getX T i := by unfold getX; rw [h]
theorem getX_0 (S : HS) : getX S 0 = 0 := by unfold getX; rw [if_neg (by omega)]
theorem getX_put {S : HS} {i : Int} (h : 1 ≤ i ∧ i < 32) (v : Int) : getX (putX S i v) i = v := by
  unfold getX; rw [if_pos h, putX_x, if_pos h, upd_at]
theorem getX_other {S : HS} {i j : Int} (h : i ≠ j) (v : Int) : getX (putX S i v) j = getX S j := by
  unfold getX
  by_cases hj : 1 ≤ j ∧ j < 32
  · rw [if_pos hj, if_pos hj, putX_x]
    by_cases hi : 1 ≤ i ∧ i < 32
    · rw [if_pos hi, upd_ne _ _ (by omega)]
    · rw [if_neg hi]
  · rw [if_neg hj, if_neg hj]
theorem getX_setPC (S : HS) (v i : Int) : getX (S.setPC v) i = getX S i := getX_x rfl i
theorem getX_stM (S : HS) (a n v i : Int) : getX (stM S a n v) i = getX S i := getX_x (stM_x S a n v) i
theorem ldV_putX (S : HS) (i v a n : Int) : ldV (putX S i v) a n = ldV S a n := ldV_m (putX_m S i v) a n
theorem ldV_setPC (S : HS) (v a n : Int) : ldV (S.setPC v) a n = ldV S a n := ldV_m rfl a n
theorem ld_st4 (S : HS) {a v : Int} (ha : 0 ≤ a) (hc : canB a 4 = true) (h0 : 0 ≤ v) (h1 : v < 4294967296) : ldV (stM S a 4 v) a 4 = v := by
  unfold ldV stM
  rw [if_pos hc, if_pos hc]
  show rdM (wrM S.m a.toNat 4 v) a.toNat 4 = v
  rw [rd4]
  unfold wrM
  rw [if_pos (by omega), if_pos (by omega), if_pos (by omega), if_pos (by omega)]
  rw [show a.toNat - a.toNat = 0 by omega, show a.toNat + 1 - a.toNat = 1 by omega, show a.toNat + 2 - a.toNat = 2 by omega, show a.toNat + 3 - a.toNat = 3 by omega]
  show v / 1 % 256 + 256 * (v / 256 % 256) + 65536 * (v / 65536 % 256) + 16777216 * (v / 16777216 % 256) = v
  omega
theorem ld_st_ne (S : HS) {a b v : Int} (ha : 0 ≤ a) (hb : 0 ≤ b) (hc : canB a 4 = true) (hd : canB b 4 = true) (hab : a ≠ b) : ldV (stM S a 4 v) b 4 = ldV S b 4 := by
  have k1 := (canB_iff a 4).1 hc
  have k2 := (canB_iff b 4).1 hd
  unfold ldV stM
  rw [if_pos hd, if_pos hd, if_pos hc]
  show rdM (wrM S.m a.toNat 4 v) b.toNat 4 = rdM S.m b.toNat 4
  rw [rd4, rd4]
  unfold wrM
  have e : ∀ j : Nat, j < 4 → ¬ (a.toNat ≤ b.toNat + j ∧ b.toNat + j < a.toNat + 4) := fun j hj => by omega
  rw [if_neg (by have := e 0 (by omega); simpa using this), if_neg (e 1 (by omega)), if_neg (e 2 (by omega)), if_neg (e 3 (by omega))]
theorem hstep_word {S : HS} {op d a b n y : Int} (hw : W op d a b n) (hn : -2147483648 ≤ n ∧ n < 2147483648) (hy : encS op d a b n = y) (hc : canB S.pc 4 = true) (hl : ldV S S.pc 4 = y) :
    hstep S = if (hdo S op d a b n).1 ≤ 2 then ((hdo S op d a b n).1, (hdo S op d a b n).2.2) else ((hdo S op d a b n).1, (hdo S op d a b n).2.2.setWhy (hdo S op d a b n).2.1) := by
  obtain ⟨r5, r0, r1, r2, r3, r4⟩ := rvDec_enc hw hn hy
  unfold hstep hdoS wrd
  rw [if_pos hc, hl, if_pos r5, r0, r1, r2, r3, r4]
theorem hstep_to {S S' : HS} {op d a b n y k : Int} (hw : W op d a b n) (hn : -2147483648 ≤ n ∧ n < 2147483648) (hy : encS op d a b n = y) (hc : canB S.pc 4 = true) (hl : ldV S S.pc 4 = y) (hr : hdo S op d a b n = (k, 0, S')) (hk : k ≤ 2) :
    hstep S = (k, S') := by
  rw [hstep_word hw hn hy hc hl, hr]
  exact if_pos hk
end Go.Proofs.Ytpclikbjpjoccaa
namespace Go.Proofs.Ytpclikbjpjoccaa
open Go Go.RowKit Go.Sx
set_option linter.unusedVariables false
set_option linter.unusedSimpArgs false
def hrun : Nat → HS → Int × Nat × HS
  | 0, S => (0, 0, S)
  | k + 1, S => if (hstep S).1 = 0 then ((hrun k (hstep S).2).1, (hrun k (hstep S).2).2.1 + 1, (hrun k (hstep S).2).2.2) else ((hstep S).1, 1, (hstep S).2)
def fuelN (f : Int) : Nat := (min (max f 0) 1000000).toNat
theorem fuelN_le (f : Int) : fuelN f ≤ 1000000 := by unfold fuelN; omega
theorem hrun_go {S : HS} (h : (hstep S).1 = 0) (k : Nat) : hrun (k + 1) S = ((hrun k (hstep S).2).1, (hrun k (hstep S).2).2.1 + 1, (hrun k (hstep S).2).2.2) := if_pos h
theorem hrun_stop {S : HS} (h : ¬ (hstep S).1 = 0) (k : Nat) : hrun (k + 1) S = ((hstep S).1, 1, (hstep S).2) := if_neg h
theorem hrun_bd : ∀ k {S : HS}, Good S → Good (hrun k S).2.2 ∧ (hrun k S).2.1 ≤ k
  | 0, S, hG => ⟨hG, Nat.le_refl _⟩
  | k + 1, S, hG => by
    have h := hrun_bd k (hstep_good hG).1
    by_cases h0 : (hstep S).1 = 0
    · rw [hrun_go h0]; exact ⟨h.1, Nat.succ_le_succ h.2⟩
    · rw [hrun_stop h0]; exact ⟨(hstep_good hG).1, by show 1 ≤ _; omega⟩
def At (N : Nat) (S : HS) (k : Nat) (T : HS) : Prop := k ≤ N ∧ Good T ∧ hrun N S = ((hrun (N - k) T).1, (hrun (N - k) T).2.1 + k, (hrun (N - k) T).2.2)
theorem At.start {S : HS} (hG : Good S) (N : Nat) : At N S 0 S := ⟨Nat.zero_le _, hG, rfl⟩
theorem At.next {N k : Nat} {S T : HS} (h : At N S k T) (hk : k < N) (h0 : (hstep T).1 = 0) : At N S (k + 1) (hstep T).2 := by
  obtain ⟨_, hG, he⟩ := h
  refine ⟨hk, (hstep_good hG).1, ?_⟩
  rw [he, show N - k = (N - (k + 1)) + 1 by omega, hrun_go h0]
  show ((hrun (N - (k + 1)) (hstep T).2).1, (hrun (N - (k + 1)) (hstep T).2).2.1 + 1 + k, (hrun (N - (k + 1)) (hstep T).2).2.2) = _
  rw [show ∀ q, q + 1 + k = q + (k + 1) from fun q => by omega]
theorem At.stop {N k : Nat} {S T : HS} (h : At N S k T) (hk : k < N) (h0 : ¬ (hstep T).1 = 0) : hrun N S = ((hstep T).1, k + 1, (hstep T).2) := by
  obtain ⟨_, hG, he⟩ := h
  rw [he, show N - k = (N - (k + 1)) + 1 by omega, hrun_stop h0]
  show ((hstep T).1, 1 + k, (hstep T).2) = _
  rw [Nat.add_comm]
theorem At.done {N : Nat} {S T : HS} (h : At N S N T) : hrun N S = (0, N, T) := by
  obtain ⟨_, hG, he⟩ := h
  rw [he, Nat.sub_self]
  show (0, 0 + N, T) = _
  rw [Nat.zero_add]
theorem Makes.then {w w1 w2 : World} {hb mb : Nat} {S T : HS} (h : Makes w hb mb S w1) (k : Makes w1 hb mb T w2) : Makes w hb mb T w2 := ⟨k.at_, h.turn.trans k.turn⟩
theorem MakesR.then {w w1 w2 : World} {hb mb : Nat} {S T : HS} (h : MakesR w hb mb S w1) (k : MakesR w1 hb mb T w2) : MakesR w hb mb T w2 := ⟨k.at_, h.turn.trans k.turn⟩
set_option maxHeartbeats 2000000 in
theorem host_Run (w : World) (hb mb : Nat) (S : HS) (hH : HostAt w hb mb S) (hG : Good S) (f : Int) (hf : I64 f) :
    Calls Try.prog 28 #[.pointer (some ⟨hb, 0, none⟩), .int .i64 f] w fun e w' => e = .returned (.tuple #[.int .i64 (hrun (fuelN f) S).1, .int .i64 ((hrun (fuelN f) S).2.1 : Nat)]) ∧ Makes w hb mb (hrun (fuelN f) S).2.2 w' := by
  obtain ⟨N, hN⟩ : ∃ N, N = fuelN f := ⟨_, rfl⟩
  rw [← hN]
  have HS := Lib.hid hH; clear hH
  by_cases hneg : f < 0
  · have hle : f < 0 := by omega
    obtain rfl : N = 0 := by rw [hN]; unfold fuelN; omega
    have HN := Lib.hid hN; clear hN
    go_enter Try.func28, Try.ntmps28
    go_wp2
    go_loopw [13] (fun i wr => ∃ k T, At 0 S k T ∧ i = .int .i64 (k : Nat) ∧ Makes w hb mb T wr) (fun i _ => 0 - (intOf i).toNat)
    case atStart => exact ⟨0, S, At.start hG _, rfl, HS.out, Turn.refl _ _⟩
    case round =>
      obtain ⟨k, T, hat, rfl, hm⟩ := hrel
      have hkN := hat.1
      have hm' := Lib.hid hm; clear hm
      have hat' := Lib.hid hat; clear hat
      by_cases hlt : k < 0
      · have hlt2 : (k : Int) < (0 : Int) := by omega
        by_cases h0 : (hstep T).1 = 0
        · have H0 := Lib.hid h0; clear h0
          go_wp2_with (go_at_call 20; refine (host_Step _ hb mb T hm'.out.at_ hat'.out.2.1).mono ?_; rw [H0.out]; rintro e w1 ⟨rfl, hM⟩; have HM := Lib.hid hM; clear hM)
          go_roundw
          case rel => exact ⟨k + 1, _, hat'.out.next hlt H0.out, by go_num, hm'.out.then HM.out⟩
          case measure => simp [intOf]; omega
        · have q : ((hstep T).1 != 0) = true := by simp [h0]
          have H0 := Lib.hid h0; clear h0
          go_wp2_with (go_at_call 20; refine (host_Step _ hb mb T hm'.out.at_ hat'.out.2.1).mono ?_; rintro e w1 ⟨rfl, hM⟩; have HM := Lib.hid hM; clear hM)
          go_ret2
          exact ⟨by rw [hat'.out.stop hlt H0.out]; rfl, by rw [hat'.out.stop hlt H0.out]; exact hm'.out.then HM.out⟩
      · obtain rfl : k = 0 := by omega
        go_wp2
        go_ret2
        exact ⟨by rw [hat'.out.done]; rfl, by rw [hat'.out.done]; exact hm'.out⟩
  · by_cases hbig : f ≤ 1000000
    · have hfN : f = (N : Int) := by rw [hN]; unfold fuelN; omega
      have hpos : (0 : Int) ≤ (N : Int) := by omega
      subst hfN
      have HN := Lib.hid hN; clear hN
      go_enter Try.func28, Try.ntmps28
      go_wp2
      go_loopw [13] (fun i wr => ∃ k T, At N S k T ∧ i = .int .i64 (k : Nat) ∧ Makes w hb mb T wr) (fun i _ => N - (intOf i).toNat)
      case atStart => exact ⟨0, S, At.start hG _, rfl, HS.out, Turn.refl _ _⟩
      case round =>
        obtain ⟨k, T, hat, rfl, hm⟩ := hrel
        have hkN := hat.1
        have hm' := Lib.hid hm; clear hm
        have hat' := Lib.hid hat; clear hat
        by_cases hlt : k < N
        · have hlt2 : (k : Int) < (N : Int) := by omega
          by_cases h0 : (hstep T).1 = 0
          · have H0 := Lib.hid h0; clear h0
            go_wp2_with (go_at_call 20; refine (host_Step _ hb mb T hm'.out.at_ hat'.out.2.1).mono ?_; rw [H0.out]; rintro e w1 ⟨rfl, hM⟩; have HM := Lib.hid hM; clear hM)
            go_roundw
            case rel => exact ⟨k + 1, _, hat'.out.next hlt H0.out, by go_num, hm'.out.then HM.out⟩
            case measure => simp [intOf]; omega
          · have q : ((hstep T).1 != 0) = true := by simp [h0]
            have H0 := Lib.hid h0; clear h0
            go_wp2_with (go_at_call 20; refine (host_Step _ hb mb T hm'.out.at_ hat'.out.2.1).mono ?_; rintro e w1 ⟨rfl, hM⟩; have HM := Lib.hid hM; clear hM)
            go_ret2
            exact ⟨by rw [hat'.out.stop hlt H0.out]; rfl, by rw [hat'.out.stop hlt H0.out]; exact hm'.out.then HM.out⟩
        · obtain rfl : k = N := by omega
          go_wp2
          go_ret2
          exact ⟨by rw [hat'.out.done]; rfl, by rw [hat'.out.done]; exact hm'.out⟩
    · have hgt : 1000000 < f := by omega
      obtain rfl : N = 1000000 := by rw [hN]; unfold fuelN; omega
      have HN := Lib.hid hN; clear hN
      go_enter Try.func28, Try.ntmps28
      go_wp2
      go_loopw [13] (fun i wr => ∃ k T, At 1000000 S k T ∧ i = .int .i64 (k : Nat) ∧ Makes w hb mb T wr) (fun i _ => 1000000 - (intOf i).toNat)
      case atStart => exact ⟨0, S, At.start hG _, rfl, HS.out, Turn.refl _ _⟩
      case round =>
        obtain ⟨k, T, hat, rfl, hm⟩ := hrel
        have hkN := hat.1
        have hm' := Lib.hid hm; clear hm
        have hat' := Lib.hid hat; clear hat
        by_cases hlt : k < 1000000
        · have hlt2 : (k : Int) < (1000000 : Int) := by omega
          by_cases h0 : (hstep T).1 = 0
          · have H0 := Lib.hid h0; clear h0
            go_wp2_with (go_at_call 20; refine (host_Step _ hb mb T hm'.out.at_ hat'.out.2.1).mono ?_; rw [H0.out]; rintro e w1 ⟨rfl, hM⟩; have HM := Lib.hid hM; clear hM)
            go_roundw
            case rel => exact ⟨k + 1, _, hat'.out.next hlt H0.out, by go_num, hm'.out.then HM.out⟩
            case measure => simp [intOf]; omega
          · have q : ((hstep T).1 != 0) = true := by simp [h0]
            have H0 := Lib.hid h0; clear h0
            go_wp2_with (go_at_call 20; refine (host_Step _ hb mb T hm'.out.at_ hat'.out.2.1).mono ?_; rintro e w1 ⟨rfl, hM⟩; have HM := Lib.hid hM; clear hM)
            go_ret2
            exact ⟨by rw [hat'.out.stop hlt H0.out]; rfl, by rw [hat'.out.stop hlt H0.out]; exact hm'.out.then HM.out⟩
        · obtain rfl : k = 1000000 := by omega
          go_wp2
          go_ret2
          exact ⟨by rw [hat'.out.done]; rfl, by rw [hat'.out.done]; exact hm'.out⟩
end Go.Proofs.Ytpclikbjpjoccaa
namespace Go.Proofs.Ytpclikbjpjoccaa
open Go Go.RowKit Go.Sx
set_option linter.unusedVariables false
set_option linter.unusedSimpArgs false
def K1 : HS := stM S0 1024 4 5243027
def K2 : HS := (putX K1 1 5).setPC 1028
theorem k_step0 : hstep S0 = (6, S0) := by
  have h1 : canB S0.pc 4 = true := by decide
  have h2 : wrd S0 = 0 := by unfold wrd ldV; rw [if_pos h1]; rfl
  have h3 : rvDec_5 0 = false := by kernel_rfl
  unfold hstep
  rw [if_pos h1, h2, if_neg (by rw [h3]; decide)]
theorem k_step1 : hstep K1 = (0, K2) := by
  have hc : canB K1.pc 4 = true := by decide
  refine hstep_to (op := 19) (d := 1) (a := 0) (b := 0) (n := 5) (y := 5243027) ?_ (by decide) (by kernel_rfl) hc ?_ ?_ (by decide)
  · refine ⟨by decide, Or.inr (Or.inl ⟨Or.inl (by kernel_rfl), by unfold Rg; decide, by unfold Rg; decide, rfl, by decide, by decide⟩)⟩
  · exact ld_st4 S0 (by decide) (by decide) (by decide) (by decide)
  · kernel_rfl
theorem below_own {w w1 w2 : World} {hb mb : Nat} (h : Below w.heap.size w w1) (k : Turn (Own hb mb) w1 w2) (h1 : w.heap.size ≤ hb) (h2 : w.heap.size ≤ mb) : Below w.heap.size w w2 :=
  h.trans (k.below h.size (fun i _ hi => by rcases hi with rfl | rfl <;> assumption))
theorem below3 {w v0 v1 v2 : World} {mb : Nat} (h0 : Below w.heap.size w v0) (h1 : Below mb v0 v1) (e : mb = v0.heap.size) (k : Turn (Own (mb + 1) mb) v1 v2) : Below w.heap.size w v2 := by
  subst e
  exact (h0.trans (h1.mono h0.size)).trans ((k.below (B := w.heap.size) (Nat.le_trans h0.size h1.size) (fun i _ hi => by have := h0.size; rcases hi with rfl | rfl <;> omega)))
section
variable (w : World) (hb mb : Nat) (S : HS) (hH : HostAt w hb mb S)
include hH
theorem st_is (hG : Good S) {k : Int} {S' : HS} (h : hstep S = (k, S')) :
    Calls Try.prog 20 #[.pointer (some ⟨hb, 0, none⟩)] w fun e w' => e = .returned (.int .i64 k) ∧ Makes w hb mb S' w' := by
  have := host_Step w hb mb S hH hG; rw [h] at this; exact this
theorem x_is {i v : Int} (hi : I64 i) (h : getX S i = v) :
    Calls Try.prog 21 #[.pointer (some ⟨hb, 0, none⟩), .int .i64 i] w fun e w' => e = .returned (.int .u32 v) ∧ w = w' := by
  have := host_X w hb mb S hH i hi.1 hi.2; rw [h] at this; exact this
theorem pc_is {v : Int} (h : S.pc = v) :
    Calls Try.prog 24 #[.pointer (some ⟨hb, 0, none⟩)] w fun e w' => e = .returned (.int .u32 v) ∧ w = w' := by
  have := host_PC w hb mb S hH; rw [h] at this; exact this
theorem why_is {v : Int} (h : S.why = v) :
    Calls Try.prog 23 #[.pointer (some ⟨hb, 0, none⟩)] w fun e w' => e = .returned (.int .u32 v) ∧ w = w' := by
  have := host_Why w hb mb S hH; rw [h] at this; exact this
theorem ld_is (hG : Good S) {a n v : Int} {b : Bool} (ha : 0 ≤ a ∧ a ≤ 4294967295) (h1 : ldV S a n = v) (h2 : canB a n = b) :
    Calls Try.prog 15 #[.pointer (some ⟨hb, 0, none⟩), .int .u32 a, .int .i64 n] w fun e w' => e = .returned (.tuple #[.int .u32 v, .bool b]) ∧ Below w.heap.size w w' := by
  have := host_Load w hb mb S hH hG a n ha.1 ha.2; rw [h1, h2] at this; exact this
theorem sto_is {a n v : Int} {b : Bool} {S' : HS} (ha : 0 ≤ a ∧ a ≤ 4294967295) (hv : 0 ≤ v ∧ v ≤ 4294967295) (h1 : canB a n = b) (h2 : stM S a n v = S') :
    Calls Try.prog 13 #[.pointer (some ⟨hb, 0, none⟩), .int .u32 a, .int .i64 n, .int .u32 v] w fun e w' => e = .returned (.bool b) ∧ Makes w hb mb S' w' := by
  have := host_Store w hb mb S hH a n v ha.1 ha.2 hv.1 hv.2; rw [h1, h2] at this; exact this
theorem run_is (hG : Good S) {f k c : Int} {n : Nat} {S' : HS} (hf : I64 f) (h : hrun (fuelN f) S = (k, n, S') ∧ (n : Int) = c) :
    Calls Try.prog 28 #[.pointer (some ⟨hb, 0, none⟩), .int .i64 f] w fun e w' => e = .returned (.tuple #[.int .i64 k, .int .i64 c]) ∧ Makes w hb mb S' w' := by
  have := host_Run w hb mb S hH hG f hf; rw [h.1] at this; rw [← h.2]; exact this
theorem sx_is {i v : Int} {S' : HS} (hi : I64 i) (h : putX S i v = S') :
    Calls Try.prog 19 #[.pointer (some ⟨hb, 0, none⟩), .int .i64 i, .int .u32 v] w fun e w' => e = .returned (.tuple #[]) ∧ Makes w hb mb S' w' := by
  have := host_SetX w hb mb S hH i v hi.1 hi.2; rw [h] at this; exact this
end
theorem word_is (w : World) {op d a b n y : Int} (hw : W op d a b n) (hn : -2147483648 ≤ n ∧ n < 2147483648) (hy : encS op d a b n = y) :
    Calls Try.prog 22 #[.agg #[.int .i64 op, .int .i64 d, .int .i64 a, .int .i64 b, .int .i32 n]] w fun e w' => e = .returned (.int .u32 y) ∧ Below w.heap.size w w' := by
  obtain ⟨c1, c2, c3⟩ := W_regs hw
  have ho := hw.1
  have h := law_word op d a b n (has_i64.2 (by omega)) (has_i64.2 (by unfold I64 at *; omega)) (has_i64.2 (by unfold I64 at *; omega)) (has_i64.2 (by unfold I64 at *; omega)) (has_i32.2 hn) w
  rw [show lwWord op d a b n = y from (rfEnc_sum hw).trans hy] at h
  exact h
theorem K1_good : Good K1 := stM_good S0_good _ _ _
theorem K2_good : Good K2 := (K1_good.putX 1 (by decide)).setPC (by decide)
theorem I64_lit : I64 0 ∧ I64 1 ∧ I64 2 ∧ I64 3 := ⟨by decide, by decide, by decide, by decide⟩
set_option maxHeartbeats 2000000 in
set_option maxRecDepth 100000 in
theorem law_known (w : World) : Calls Try.prog 10 #[] w fun e w' => e = .returned (.bool true) ∧ Below w.heap.size w w' := by
  have hx1 : getX K2 1 = 5 := by decide
  have hx0 : getX K2 0 = 0 := by decide
  have hl2 : ldV K2 1024 2 = 147 := by kernel_rfl
  have hc2 : canB 1024 2 = true := by decide
  have hc1 : canB 32768 1 = false := by decide
  have hl1 : ldV K2 32768 1 = 0 := by kernel_rfl
  have hc4 : canB 1024 4 = true := by decide
  have hc5 : canB 1 4 = false := by decide
  have hs5 : stM K2 1 4 0 = K2 := by unfold stM; rw [hc5]; rfl
  have hp0 : putX K2 0 7 = K2 := by unfold putX; rw [if_neg (by decide)]
  have F := Lib.hid (And.intro hx1 (And.intro hx0 (And.intro hl2 (And.intro hc2 (And.intro hc1 (And.intro hl1 (And.intro hc4 (And.intro hc5 (And.intro hs5 hp0)))))))))
  clear hx1 hx0 hl2 hc2 hc1 hl1 hc4 hc5 hs5 hp0
  obtain ⟨mb, hmb⟩ : ∃ mb, mb = w.heap.size := ⟨_, rfl⟩
  have HMB := Lib.hid hmb; clear hmb
  go_enter Try.func10, Try.ntmps10
  go_wp2_with (first
    | (go_at_call 13; refine (sto_is _ _ mb K2 h9 (a := 1) (n := 4) (v := 0) (by decide) (by decide) F.out.2.2.2.2.2.2.2.1 F.out.2.2.2.2.2.2.2.2.1).mono ?_; rintro e wz ⟨rfl, hM⟩; have MZ := Lib.hid hM; clear hM)
    | (go_at_call 24; refine (pc_is _ _ mb K2 h9 rfl).mono ?_; rintro e wq ⟨rfl, rfl⟩)
    | (go_at_call 21; refine (x_is _ _ mb K2 h9 I64_lit.1 F.out.2.1).mono ?_; rintro e wq ⟨rfl, rfl⟩)
    | (go_at_call 19; refine (sx_is _ _ mb K2 h8 (v := 7) I64_lit.1 F.out.2.2.2.2.2.2.2.2.2).mono ?_; rintro e w9 ⟨rfl, hM⟩; have h9 := hM.at_; have M9 := Lib.hid hM; clear hM)
    | (go_at_call 15; refine (ld_is _ _ mb K2 h7 K2_good (a := 32768) (n := 1) (by decide) F.out.2.2.2.2.2.1 F.out.2.2.2.2.1).mono ?_; rintro e w8 ⟨rfl, hB⟩; have h8 := h7.below hB; have B8 := Lib.hid hB; clear hB)
    | (go_at_call 15; refine (ld_is _ _ mb K2 h4 K2_good (a := 1024) (n := 2) (by decide) F.out.2.2.1 F.out.2.2.2.1).mono ?_; rintro e w7 ⟨rfl, hB⟩; have h7 := h4.below hB; have B7 := Lib.hid hB; clear hB)
    | (go_at_call 21; refine (x_is _ _ mb K2 h4 I64_lit.2.1 F.out.1).mono ?_; rintro e wq ⟨rfl, rfl⟩)
    | (go_at_call 20; refine (st_is _ _ mb K1 h3 K1_good k_step1).mono ?_; rintro e w4 ⟨rfl, hM⟩; have h4 := hM.at_; have M4 := Lib.hid hM; clear hM)
    | (go_at_call 13; refine (sto_is _ _ mb S0 h2 (a := 1024) (n := 4) (v := 5243027) (S' := K1) (by decide) (by decide) F.out.2.2.2.2.2.2.1 rfl).mono ?_; rintro e w3 ⟨rfl, hM⟩; have h3 := hM.at_; have M3 := Lib.hid hM; clear hM)
    | (go_at_call 20; refine (st_is _ _ mb S0 h1 S0_good k_step0).mono ?_; rintro e w2 ⟨rfl, hM⟩; have h2 := hM.at_; have M2 := Lib.hid hM; clear hM)
    | (go_at_call 24; refine (pc_is _ _ mb S0 h1 rfl).mono ?_; rintro e wq ⟨rfl, rfl⟩)
    | (go_at_call 11; refine (host_New w).mono ?_; rw [← HMB.out]; rintro e w1 ⟨⟨rfl, h1⟩, hB⟩; have B1 := Lib.hid hB; clear hB))
  go_ret
  have B1' : Below w.heap.size w w1 := HMB.out ▸ B1.out
  have q := HMB.out
  exact ⟨rfl, below_own B1' (M2.out.turn.trans (M3.out.turn.trans (M4.out.turn.trans ((Turn.of_below B7.out).trans ((Turn.of_below B8.out).trans (M9.out.turn.trans MZ.out.turn)))))) (by omega) (by omega)⟩
end Go.Proofs.Ytpclikbjpjoccaa
