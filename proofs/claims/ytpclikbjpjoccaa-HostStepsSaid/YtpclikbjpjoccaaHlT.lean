/-
  HostSteps: the walks. Printed by gen/hoststeps.py.
-/
import Derived.Test.YtpclikbjpjoccaaHlB
namespace Go.Proofs.Ytpclikbjpjoccaa
open Go Go.RowKit Go.Sx
set_option linter.unusedVariables false
set_option linter.unusedSimpArgs false

theorem rfEnc_bd {op d a b n : Int} (h0 : IntKind.has .i64 op) (h1 : IntKind.has .i64 d) (h2 : IntKind.has .i64 a) (h3 : IntKind.has .i64 b) (h4 : IntKind.has .i32 n) : 0 ≤ rfEnc_0 op d a b n ∧ rfEnc_0 op d a b n ≤ 4294967295 := by
  have h := rfEnc_ok.rng [.int .i64 op, .int .i64 d, .int .i64 a, .int .i64 b, .int .i32 n] ⟨⟨op, rfl, h0⟩, ⟨d, rfl, h1⟩, ⟨a, rfl, h2⟩, ⟨b, rfl, h3⟩, ⟨n, rfl, h4⟩, trivial⟩ 0 .u32 rfl
  have e : phi.i 18 [.int .i64 op, .int .i64 d, .int .i64 a, .int .i64 b, .int .i32 n] 0 = rfEnc_0 op d a b n := by kernel_rfl
  rw [e] at h
  exact ⟨h.1, h.2⟩
theorem wds_one {w : World} {x : Int} {t : TypeId} (hx : 0 ≤ x ∧ x ≤ 4294967295) : Wds (w.alloc (.cells #[.int .u32 x] t)) (.slice (some ⟨w.heap.size, 0, none⟩) 1 1) [x] := by
  refine ⟨_, 1, rfl, fun i hi => ⟨w.heap.size, 0, rfl, by rw [World.size_alloc]; omega, ?_⟩, fun y hy => by rw [List.mem_singleton] at hy; subst hy; exact hx⟩
  have : i = 0 := by simpa using hi
  subst this
  rw [World.cell?_alloc_new]; rfl
theorem and_bd (a b : Int) : 0 ≤ bits .andNot .u32 a b := by
  show 0 ≤ IntKind.wrap .u32 _
  rw [IntKind.wrap_u32]; omega
/-- a block that is kept -/
theorem row_keep {w w2 : World} {b : Nat} {o : Obj} (h : w.heap[b]? = some o) (k : Below w.heap.size w w2) (hb : b < w.heap.size) : w2.heap[b]? = some o := (k.block b hb).trans h
theorem alloc_thenT {w w2 : World} {o : Obj} (h : Below (w.alloc o).heap.size (w.alloc o) w2) : Below w.heap.size w w2 :=
  have k : Below w.heap.size w (w.alloc o) := (Below.refl _ _).alloc (Nat.le_refl _) o
  k.trans (h.mono k.size)

set_option maxHeartbeats 4000000 in
set_option maxRecDepth 100000 in
theorem steps_rl (op d a b n x : Int) (raw : Bool) (A : Array Value) (rs : List Int) (v : Int) (h0 : IntKind.has .i64 op) (h1 : IntKind.has .i64 d) (h2 : IntKind.has .i64 a) (h3 : IntKind.has .i64 b) (h4 : IntKind.has .i32 n) (qx : 0 ≤ x ∧ x ≤ 4294967295) (qv : 0 ≤ v ∧ v ≤ 4294967295) (hA : A.size = 31 ∧ ∀ j, j < 31 → A[j]? = some (.int .u32 (rs.getD j 0))) (hr : ∀ x ∈ rs, 0 ≤ x ∧ x ≤ 4294967295) (hraw : raw = true) (at_ : Int) (ea : (bits .andNot .u32 (rs.getD 0 0) 3) % 32768 = at_) (hc : at_ < 1024) (w : World) :
    Calls Try.prog 6 #[.agg #[.int .i64 op, .int .i64 d, .int .i64 a, .int .i64 b, .int .i32 n], .int .u32 x, .bool raw, .agg A, .int .u32 v] w fun e w' => e = .returned (.bool true) ∧ Below w.heap.size w w' := by
  have hyb := rfEnc_bd h0 h1 h2 h3 h4
  obtain ⟨y, hy⟩ : ∃ y, rfEnc_0 op d a b n = y := ⟨_, rfl⟩
  obtain ⟨ok, hok⟩ : ∃ ok, rfEnc_1 op d a b n = ok := ⟨_, rfl⟩
  rw [hy] at hyb
  subst hraw
  obtain ⟨r0, hr0⟩ : ∃ r, rs.getD 0 0 = r := ⟨_, rfl⟩
  obtain ⟨q, hq⟩ : ∃ q, bits .andNot .u32 r0 3 = q := ⟨_, rfl⟩
  have hq0 : 0 ≤ q := by rw [← hq]; exact and_bd _ _
  rw [hr0, hq] at ea
  have ea2 : q.tmod 32768 = at_ := by rw [Int.tmod_eq_emod_of_nonneg hq0]; exact ea
  have hat : 0 ≤ at_ ∧ at_ ≤ 4294967295 := by omega
  obtain ⟨cb, hcb⟩ : ∃ c, canB at_ 4 = c := ⟨_, rfl⟩
  obtain ⟨W, hW⟩ : ∃ W, W = (w.alloc (.cells #[.int .i64 op, .int .i64 d, .int .i64 a, .int .i64 b, .int .i32 n] 39)).alloc (.cells A 48) := ⟨_, rfl⟩
  have hzW : W.heap.size = w.heap.size + 2 := by rw [hW, World.size_alloc, World.size_alloc]
  have hbW : Below w.heap.size w W := by rw [hW]; exact ((Below.refl _ _).alloc (Nat.le_refl _) _).alloc (by rw [World.size_alloc]; omega) _
  have rw0 : W.heap[w.heap.size]? = some (.cells #[.int .i64 op, .int .i64 d, .int .i64 a, .int .i64 b, .int .i32 n] 39 (0, 0)) := by rw [hW]; exact heap_alloc2_old _ _ _
  have rw1 : W.heap[w.heap.size + 1]? = some (.cells A 48 (0, 0)) := by rw [hW]; exact heap_alloc2_new _ _ _
  have HI : Hid ((Try.prog.info? 48).map (·.size) = some A.size) := Lib.hid (by rw [hA.1]; kernel_rfl)
  have HW := Lib.hid hW; have HZ := Lib.hid hzW; have HBW := Lib.hid hbW; have R0 := Lib.hid rw0; have R1 := Lib.hid rw1
  have HY := Lib.hid hy; have HOK := Lib.hid hok; have HA := Lib.hid hA; have HR := Lib.hid hr; have HYB := Lib.hid hyb; have QX := Lib.hid qx; have QV := Lib.hid qv; have HAT := Lib.hid hat; have HCB := Lib.hid hcb; have HR0 := Lib.hid hr0
  have GB : Hid (Good (bothS [x] rs 1024)) := Lib.hid (bothS_good hr (by decide))
  have H5 := Lib.hid (And.intro h0 (And.intro h1 (And.intro h2 (And.intro h3 h4))))
  clear hW hzW hbW rw0 rw1 hy hok hA hr hyb qx qv hcb hr0 h0 h1 h2 h3 h4 hq0 hat
  obtain ⟨S, hS⟩ : ∃ S, S = stM (bothS [x] rs 1024) at_ 4 v := ⟨_, rfl⟩
  obtain ⟨S0', hS0⟩ : ∃ S, S = bothS [x] rs 1024 := ⟨_, rfl⟩
  rw [← hS0] at GB hS
  have GS : Hid (Good S) := Lib.hid (by rw [hS]; exact stM_good GB.out _ _ _)
  have GT : Hid (Good (hstep S).2) := Lib.hid (hstep_good GS.out).1
  obtain ⟨kk, hkk⟩ : ∃ k, (hstep S).1 = k := ⟨_, rfl⟩
  have HKK := Lib.hid hkk; have HS := Lib.hid hS; have HS0 := Lib.hid hS0; clear hkk hS hS0
  go_enter Try.func6, Try.ntmps6
  go_wp2_with (first
    | (go_at_call 17; refine (law_memory _ hb mb rb nb _ _ T7.out.h T7.out.r GT.out GT.out rfl).mono ?_; rintro e v8 ⟨rfl, hB⟩; have B8 := Lib.hid hB; clear hB)
    | (go_at_call 27; refine (law_alike _ hb mb rb nb _ T6.out.h T6.out.r GT.out).mono ?_; rintro e v7 ⟨rfl, hB⟩; have T7 := Lib.hid (T6.out.below hB); have B7 := Lib.hid hB; clear hB)
    | (go_at_call 26; refine (ref_Step _ _ nb S r5 GS.out).mono ?_; rw [HKK.out]; rintro e v6 ⟨rfl, hM⟩; have t6 := T5.out.rm hM; have M6 := Lib.hid hM; have T6 := Lib.hid t6; clear hM t6)
    | (go_at_call 20; refine (host_Step _ _ mb S h4 GS.out).mono ?_; rw [HKK.out]; rintro e v5 ⟨rfl, hM⟩; have t5 := T4.out.hm hM; have r5 := t5.r; have M5 := Lib.hid hM; have T5 := Lib.hid t5; clear hM t5)
    | (go_at_call 14; refine (ref_Store _ _ nb _ r3 at_ 4 v HAT.out.1 HAT.out.2 QV.out.1 QV.out.2 (by decide) (by decide)).mono ?_; rw [HCB.out, ← HS.out]; rintro e v4 ⟨rfl, hM⟩; have t4 := T3.out.rm hM; have h4 := t4.h; have M4 := Lib.hid hM; have T4 := Lib.hid t4; clear hM t4)
    | (go_at_call 13; refine (sto_is _ _ mb _ h2 (a := at_) (n := 4) (v := v) (b := cb) HAT.out QV.out HCB.out HS.out.symm).mono ?_; rintro e v3 ⟨rfl, hM⟩; have t3 := T2.out.hm hM; have r3 := t3.r; have M3 := Lib.hid hM; have T3 := Lib.hid t3; clear hM t3)
    | (go_at_call 25; refine (law_both _ _ [x] rs A (wds_one QX.out) (show 1 ≤ 40 by decide) HA.out HR.out 1024 (by decide)).mono ?_; rw [← HS0.out]; rintro e v2 ⟨hb, mb, rb, nb, rfl, hT, hB, f1, f2, f3, f4⟩; have z1 := World.size_alloc v1 (.cells #[.int .u32 x] 28); have hB2 := alloc_thenT hB; have t2 := row_keep T1.out hB2 (by have := B0.out.size; have := B1.out.size; have := HZ.out; omega); have cr : v2.cell? ⟨w.heap.size + 1, 0, none⟩ = some (.int .u32 r0) := (by rw [← HR0.out]; exact cell_of_row t2 (HA.out.2 0 (by decide))); have F4 : Hid (Four v1.heap.size hb mb rb nb) := Lib.hid ⟨by omega, by omega, by omega, by omega⟩; have B2 := Lib.hid hB2; have T2 := Lib.hid hT; have h2 := hT.h; clear hB hB2 hT f1 f2 f3 f4 z1 t2)
    | (refine wpList_load_row rfl 48 (.tmp 8) rfl (w.heap.size + 1) rfl _ A (0, 0) _ ((heap_alloc_old _ _ (by have := B0.out.size; have := B1.out.size; have := HZ.out; omega)).trans T1.out) Try.underlying48 rfl HI.out ?_)
    | (go_at_call 18; refine (ref_Encode op d a b n H5.out.1 H5.out.2.1 H5.out.2.2.1 H5.out.2.2.2.1 H5.out.2.2.2.2 _).mono ?_; rw [HY.out, HOK.out]; rintro e v1 ⟨rfl, hB⟩; have t1 := row_keep S1.out hB (by have := B0.out.size; have := HZ.out; omega); have T1 := Lib.hid t1; have B1 := Lib.hid hB; clear hB t1)
    | (go_at_call 10; rw [← HW.out]; (with_reducible refine (law_known _).mono ?_); rintro e v0 ⟨rfl, hB⟩; have s0 := row_keep R0.out hB (by have := HZ.out; omega); have s1 := row_keep R1.out hB (by have := HZ.out; omega); have k0 : v0.cell? ⟨w.heap.size, 0, none⟩ = some (.int .i64 op) := cell_of_row s0 rfl; have k1 : v0.cell? ⟨w.heap.size, 1, none⟩ = some (.int .i64 d) := cell_of_row s0 rfl; have k2 : v0.cell? ⟨w.heap.size, 2, none⟩ = some (.int .i64 a) := cell_of_row s0 rfl; have k3 : v0.cell? ⟨w.heap.size, 3, none⟩ = some (.int .i64 b) := cell_of_row s0 rfl; have k4 : v0.cell? ⟨w.heap.size, 4, none⟩ = some (.int .i32 n) := cell_of_row s0 rfl; have S1 := Lib.hid s1; have B0 := Lib.hid hB; clear hB s0 s1))
  go_ret
  have k2 : Below w.heap.size w v2 := HBW.out.trans ((B0.out.mono HBW.out.size).trans ((B1.out.mono (Nat.le_trans HBW.out.size B0.out.size)).trans (B2.out.mono (Nat.le_trans HBW.out.size (Nat.le_trans B0.out.size B1.out.size)))))
  have hz := Nat.le_trans HBW.out.size (Nat.le_trans B0.out.size B1.out.size)
  have f4 : Four w.heap.size hb mb rb nb := ⟨Nat.le_trans hz F4.out.1, Nat.le_trans hz F4.out.2.1, Nat.le_trans hz F4.out.2.2.1, Nat.le_trans hz F4.out.2.2.2⟩
  have k3 := below_mk k2 f4 k2.size M3.out.turn
  have k4 := below_mr k3 f4 k3.size M4.out.turn
  have k5 := below_mk k4 f4 k4.size M5.out.turn
  have k6 := below_mr k5 f4 k5.size M6.out.turn
  have k7 := k6.trans (B7.out.mono k6.size)
  exact ⟨rfl, k7.trans (B8.out.mono k7.size)⟩

set_option maxHeartbeats 4000000 in
set_option maxRecDepth 100000 in
theorem steps_rh (op d a b n x : Int) (raw : Bool) (A : Array Value) (rs : List Int) (v : Int) (h0 : IntKind.has .i64 op) (h1 : IntKind.has .i64 d) (h2 : IntKind.has .i64 a) (h3 : IntKind.has .i64 b) (h4 : IntKind.has .i32 n) (qx : 0 ≤ x ∧ x ≤ 4294967295) (qv : 0 ≤ v ∧ v ≤ 4294967295) (hA : A.size = 31 ∧ ∀ j, j < 31 → A[j]? = some (.int .u32 (rs.getD j 0))) (hr : ∀ x ∈ rs, 0 ≤ x ∧ x ≤ 4294967295) (hraw : raw = true) (at_ : Int) (ea : (bits .andNot .u32 (rs.getD 0 0) 3) % 32768 = at_) (hc0 : ¬ at_ < 1024) (hc : 1028 ≤ at_) (w : World) :
    Calls Try.prog 6 #[.agg #[.int .i64 op, .int .i64 d, .int .i64 a, .int .i64 b, .int .i32 n], .int .u32 x, .bool raw, .agg A, .int .u32 v] w fun e w' => e = .returned (.bool true) ∧ Below w.heap.size w w' := by
  have hyb := rfEnc_bd h0 h1 h2 h3 h4
  obtain ⟨y, hy⟩ : ∃ y, rfEnc_0 op d a b n = y := ⟨_, rfl⟩
  obtain ⟨ok, hok⟩ : ∃ ok, rfEnc_1 op d a b n = ok := ⟨_, rfl⟩
  rw [hy] at hyb
  subst hraw
  obtain ⟨r0, hr0⟩ : ∃ r, rs.getD 0 0 = r := ⟨_, rfl⟩
  obtain ⟨q, hq⟩ : ∃ q, bits .andNot .u32 r0 3 = q := ⟨_, rfl⟩
  have hq0 : 0 ≤ q := by rw [← hq]; exact and_bd _ _
  rw [hr0, hq] at ea
  have ea2 : q.tmod 32768 = at_ := by rw [Int.tmod_eq_emod_of_nonneg hq0]; exact ea
  have hat : 0 ≤ at_ ∧ at_ ≤ 4294967295 := by omega
  obtain ⟨cb, hcb⟩ : ∃ c, canB at_ 4 = c := ⟨_, rfl⟩
  obtain ⟨W, hW⟩ : ∃ W, W = (w.alloc (.cells #[.int .i64 op, .int .i64 d, .int .i64 a, .int .i64 b, .int .i32 n] 39)).alloc (.cells A 48) := ⟨_, rfl⟩
  have hzW : W.heap.size = w.heap.size + 2 := by rw [hW, World.size_alloc, World.size_alloc]
  have hbW : Below w.heap.size w W := by rw [hW]; exact ((Below.refl _ _).alloc (Nat.le_refl _) _).alloc (by rw [World.size_alloc]; omega) _
  have rw0 : W.heap[w.heap.size]? = some (.cells #[.int .i64 op, .int .i64 d, .int .i64 a, .int .i64 b, .int .i32 n] 39 (0, 0)) := by rw [hW]; exact heap_alloc2_old _ _ _
  have rw1 : W.heap[w.heap.size + 1]? = some (.cells A 48 (0, 0)) := by rw [hW]; exact heap_alloc2_new _ _ _
  have HI : Hid ((Try.prog.info? 48).map (·.size) = some A.size) := Lib.hid (by rw [hA.1]; kernel_rfl)
  have HW := Lib.hid hW; have HZ := Lib.hid hzW; have HBW := Lib.hid hbW; have R0 := Lib.hid rw0; have R1 := Lib.hid rw1
  have HY := Lib.hid hy; have HOK := Lib.hid hok; have HA := Lib.hid hA; have HR := Lib.hid hr; have HYB := Lib.hid hyb; have QX := Lib.hid qx; have QV := Lib.hid qv; have HAT := Lib.hid hat; have HCB := Lib.hid hcb; have HR0 := Lib.hid hr0
  have GB : Hid (Good (bothS [x] rs 1024)) := Lib.hid (bothS_good hr (by decide))
  have H5 := Lib.hid (And.intro h0 (And.intro h1 (And.intro h2 (And.intro h3 h4))))
  clear hW hzW hbW rw0 rw1 hy hok hA hr hyb qx qv hcb hr0 h0 h1 h2 h3 h4 hq0 hat
  obtain ⟨S, hS⟩ : ∃ S, S = stM (bothS [x] rs 1024) at_ 4 v := ⟨_, rfl⟩
  obtain ⟨S0', hS0⟩ : ∃ S, S = bothS [x] rs 1024 := ⟨_, rfl⟩
  rw [← hS0] at GB hS
  have GS : Hid (Good S) := Lib.hid (by rw [hS]; exact stM_good GB.out _ _ _)
  have GT : Hid (Good (hstep S).2) := Lib.hid (hstep_good GS.out).1
  obtain ⟨kk, hkk⟩ : ∃ k, (hstep S).1 = k := ⟨_, rfl⟩
  have HKK := Lib.hid hkk; have HS := Lib.hid hS; have HS0 := Lib.hid hS0; clear hkk hS hS0
  go_enter Try.func6, Try.ntmps6
  go_wp2_with (first
    | (go_at_call 17; refine (law_memory _ hb mb rb nb _ _ T7.out.h T7.out.r GT.out GT.out rfl).mono ?_; rintro e v8 ⟨rfl, hB⟩; have B8 := Lib.hid hB; clear hB)
    | (go_at_call 27; refine (law_alike _ hb mb rb nb _ T6.out.h T6.out.r GT.out).mono ?_; rintro e v7 ⟨rfl, hB⟩; have T7 := Lib.hid (T6.out.below hB); have B7 := Lib.hid hB; clear hB)
    | (go_at_call 26; refine (ref_Step _ _ nb S r5 GS.out).mono ?_; rw [HKK.out]; rintro e v6 ⟨rfl, hM⟩; have t6 := T5.out.rm hM; have M6 := Lib.hid hM; have T6 := Lib.hid t6; clear hM t6)
    | (go_at_call 20; refine (host_Step _ _ mb S h4 GS.out).mono ?_; rw [HKK.out]; rintro e v5 ⟨rfl, hM⟩; have t5 := T4.out.hm hM; have r5 := t5.r; have M5 := Lib.hid hM; have T5 := Lib.hid t5; clear hM t5)
    | (go_at_call 14; refine (ref_Store _ _ nb _ r3 at_ 4 v HAT.out.1 HAT.out.2 QV.out.1 QV.out.2 (by decide) (by decide)).mono ?_; rw [HCB.out, ← HS.out]; rintro e v4 ⟨rfl, hM⟩; have t4 := T3.out.rm hM; have h4 := t4.h; have M4 := Lib.hid hM; have T4 := Lib.hid t4; clear hM t4)
    | (go_at_call 13; refine (sto_is _ _ mb _ h2 (a := at_) (n := 4) (v := v) (b := cb) HAT.out QV.out HCB.out HS.out.symm).mono ?_; rintro e v3 ⟨rfl, hM⟩; have t3 := T2.out.hm hM; have r3 := t3.r; have M3 := Lib.hid hM; have T3 := Lib.hid t3; clear hM t3)
    | (go_at_call 25; refine (law_both _ _ [x] rs A (wds_one QX.out) (show 1 ≤ 40 by decide) HA.out HR.out 1024 (by decide)).mono ?_; rw [← HS0.out]; rintro e v2 ⟨hb, mb, rb, nb, rfl, hT, hB, f1, f2, f3, f4⟩; have z1 := World.size_alloc v1 (.cells #[.int .u32 x] 28); have hB2 := alloc_thenT hB; have t2 := row_keep T1.out hB2 (by have := B0.out.size; have := B1.out.size; have := HZ.out; omega); have cr : v2.cell? ⟨w.heap.size + 1, 0, none⟩ = some (.int .u32 r0) := (by rw [← HR0.out]; exact cell_of_row t2 (HA.out.2 0 (by decide))); have F4 : Hid (Four v1.heap.size hb mb rb nb) := Lib.hid ⟨by omega, by omega, by omega, by omega⟩; have B2 := Lib.hid hB2; have T2 := Lib.hid hT; have h2 := hT.h; clear hB hB2 hT f1 f2 f3 f4 z1 t2)
    | (refine wpList_load_row rfl 48 (.tmp 8) rfl (w.heap.size + 1) rfl _ A (0, 0) _ ((heap_alloc_old _ _ (by have := B0.out.size; have := B1.out.size; have := HZ.out; omega)).trans T1.out) Try.underlying48 rfl HI.out ?_)
    | (go_at_call 18; refine (ref_Encode op d a b n H5.out.1 H5.out.2.1 H5.out.2.2.1 H5.out.2.2.2.1 H5.out.2.2.2.2 _).mono ?_; rw [HY.out, HOK.out]; rintro e v1 ⟨rfl, hB⟩; have t1 := row_keep S1.out hB (by have := B0.out.size; have := HZ.out; omega); have T1 := Lib.hid t1; have B1 := Lib.hid hB; clear hB t1)
    | (go_at_call 10; rw [← HW.out]; (with_reducible refine (law_known _).mono ?_); rintro e v0 ⟨rfl, hB⟩; have s0 := row_keep R0.out hB (by have := HZ.out; omega); have s1 := row_keep R1.out hB (by have := HZ.out; omega); have k0 : v0.cell? ⟨w.heap.size, 0, none⟩ = some (.int .i64 op) := cell_of_row s0 rfl; have k1 : v0.cell? ⟨w.heap.size, 1, none⟩ = some (.int .i64 d) := cell_of_row s0 rfl; have k2 : v0.cell? ⟨w.heap.size, 2, none⟩ = some (.int .i64 a) := cell_of_row s0 rfl; have k3 : v0.cell? ⟨w.heap.size, 3, none⟩ = some (.int .i64 b) := cell_of_row s0 rfl; have k4 : v0.cell? ⟨w.heap.size, 4, none⟩ = some (.int .i32 n) := cell_of_row s0 rfl; have S1 := Lib.hid s1; have B0 := Lib.hid hB; clear hB s0 s1))
  go_ret
  have k2 : Below w.heap.size w v2 := HBW.out.trans ((B0.out.mono HBW.out.size).trans ((B1.out.mono (Nat.le_trans HBW.out.size B0.out.size)).trans (B2.out.mono (Nat.le_trans HBW.out.size (Nat.le_trans B0.out.size B1.out.size)))))
  have hz := Nat.le_trans HBW.out.size (Nat.le_trans B0.out.size B1.out.size)
  have f4 : Four w.heap.size hb mb rb nb := ⟨Nat.le_trans hz F4.out.1, Nat.le_trans hz F4.out.2.1, Nat.le_trans hz F4.out.2.2.1, Nat.le_trans hz F4.out.2.2.2⟩
  have k3 := below_mk k2 f4 k2.size M3.out.turn
  have k4 := below_mr k3 f4 k3.size M4.out.turn
  have k5 := below_mk k4 f4 k4.size M5.out.turn
  have k6 := below_mr k5 f4 k5.size M6.out.turn
  have k7 := k6.trans (B7.out.mono k6.size)
  exact ⟨rfl, k7.trans (B8.out.mono k7.size)⟩

set_option maxHeartbeats 4000000 in
set_option maxRecDepth 100000 in
theorem steps_rm (op d a b n x : Int) (raw : Bool) (A : Array Value) (rs : List Int) (v : Int) (h0 : IntKind.has .i64 op) (h1 : IntKind.has .i64 d) (h2 : IntKind.has .i64 a) (h3 : IntKind.has .i64 b) (h4 : IntKind.has .i32 n) (qx : 0 ≤ x ∧ x ≤ 4294967295) (qv : 0 ≤ v ∧ v ≤ 4294967295) (hA : A.size = 31 ∧ ∀ j, j < 31 → A[j]? = some (.int .u32 (rs.getD j 0))) (hr : ∀ x ∈ rs, 0 ≤ x ∧ x ≤ 4294967295) (hraw : raw = true) (at_ : Int) (ea : (bits .andNot .u32 (rs.getD 0 0) 3) % 32768 = at_) (hc0 : ¬ at_ < 1024) (hc : ¬ 1028 ≤ at_) (w : World) :
    Calls Try.prog 6 #[.agg #[.int .i64 op, .int .i64 d, .int .i64 a, .int .i64 b, .int .i32 n], .int .u32 x, .bool raw, .agg A, .int .u32 v] w fun e w' => e = .returned (.bool true) ∧ Below w.heap.size w w' := by
  have hyb := rfEnc_bd h0 h1 h2 h3 h4
  obtain ⟨y, hy⟩ : ∃ y, rfEnc_0 op d a b n = y := ⟨_, rfl⟩
  obtain ⟨ok, hok⟩ : ∃ ok, rfEnc_1 op d a b n = ok := ⟨_, rfl⟩
  rw [hy] at hyb
  subst hraw
  obtain ⟨r0, hr0⟩ : ∃ r, rs.getD 0 0 = r := ⟨_, rfl⟩
  obtain ⟨q, hq⟩ : ∃ q, bits .andNot .u32 r0 3 = q := ⟨_, rfl⟩
  have hq0 : 0 ≤ q := by rw [← hq]; exact and_bd _ _
  rw [hr0, hq] at ea
  have ea2 : q.tmod 32768 = at_ := by rw [Int.tmod_eq_emod_of_nonneg hq0]; exact ea
  have hat : 0 ≤ at_ ∧ at_ ≤ 4294967295 := by omega
  obtain ⟨cb, hcb⟩ : ∃ c, canB at_ 4 = c := ⟨_, rfl⟩
  obtain ⟨W, hW⟩ : ∃ W, W = (w.alloc (.cells #[.int .i64 op, .int .i64 d, .int .i64 a, .int .i64 b, .int .i32 n] 39)).alloc (.cells A 48) := ⟨_, rfl⟩
  have hzW : W.heap.size = w.heap.size + 2 := by rw [hW, World.size_alloc, World.size_alloc]
  have hbW : Below w.heap.size w W := by rw [hW]; exact ((Below.refl _ _).alloc (Nat.le_refl _) _).alloc (by rw [World.size_alloc]; omega) _
  have rw0 : W.heap[w.heap.size]? = some (.cells #[.int .i64 op, .int .i64 d, .int .i64 a, .int .i64 b, .int .i32 n] 39 (0, 0)) := by rw [hW]; exact heap_alloc2_old _ _ _
  have rw1 : W.heap[w.heap.size + 1]? = some (.cells A 48 (0, 0)) := by rw [hW]; exact heap_alloc2_new _ _ _
  have HI : Hid ((Try.prog.info? 48).map (·.size) = some A.size) := Lib.hid (by rw [hA.1]; kernel_rfl)
  have HW := Lib.hid hW; have HZ := Lib.hid hzW; have HBW := Lib.hid hbW; have R0 := Lib.hid rw0; have R1 := Lib.hid rw1
  have HY := Lib.hid hy; have HOK := Lib.hid hok; have HA := Lib.hid hA; have HR := Lib.hid hr; have HYB := Lib.hid hyb; have QX := Lib.hid qx; have QV := Lib.hid qv; have HAT := Lib.hid hat; have HCB := Lib.hid hcb; have HR0 := Lib.hid hr0
  have GB : Hid (Good (bothS [x] rs 1024)) := Lib.hid (bothS_good hr (by decide))
  have H5 := Lib.hid (And.intro h0 (And.intro h1 (And.intro h2 (And.intro h3 h4))))
  clear hW hzW hbW rw0 rw1 hy hok hA hr hyb qx qv hcb hr0 h0 h1 h2 h3 h4 hq0 hat
  obtain ⟨S, hS⟩ : ∃ S, S = bothS [x] rs 1024 := ⟨_, rfl⟩
  obtain ⟨S0', hS0⟩ : ∃ S, S = bothS [x] rs 1024 := ⟨_, rfl⟩
  rw [← hS0] at GB hS
  have GS : Hid (Good S) := Lib.hid (by rw [hS]; exact GB.out)
  have GT : Hid (Good (hstep S).2) := Lib.hid (hstep_good GS.out).1
  obtain ⟨kk, hkk⟩ : ∃ k, (hstep S).1 = k := ⟨_, rfl⟩
  have HKK := Lib.hid hkk; have HS := Lib.hid hS; have HS0 := Lib.hid hS0; clear hkk hS hS0
  go_enter Try.func6, Try.ntmps6
  go_wp2_with (first
    | (go_at_call 17; refine (law_memory _ hb mb rb nb _ _ T7.out.h T7.out.r GT.out GT.out rfl).mono ?_; rintro e v8 ⟨rfl, hB⟩; have B8 := Lib.hid hB; clear hB)
    | (go_at_call 27; refine (law_alike _ hb mb rb nb _ T6.out.h T6.out.r GT.out).mono ?_; rintro e v7 ⟨rfl, hB⟩; have T7 := Lib.hid (T6.out.below hB); have B7 := Lib.hid hB; clear hB)
    | (go_at_call 26; refine (ref_Step _ _ nb S r5 GS.out).mono ?_; rw [HKK.out]; rintro e v6 ⟨rfl, hM⟩; have t6 := T5.out.rm hM; have M6 := Lib.hid hM; have T6 := Lib.hid t6; clear hM t6)
    | (go_at_call 20; have h4 : HostAt v2 hb mb S := HS.out.symm ▸ h2; have T4 : Hid (Two v2 hb mb rb nb S S) := Lib.hid (HS.out.symm ▸ T2.out); refine (host_Step _ _ mb S h4 GS.out).mono ?_; rw [HKK.out]; rintro e v5 ⟨rfl, hM⟩; have t5 := T4.out.hm hM; have r5 := t5.r; have M5 := Lib.hid hM; have T5 := Lib.hid t5; clear hM t5)
    | (go_at_call 25; refine (law_both _ _ [x] rs A (wds_one QX.out) (show 1 ≤ 40 by decide) HA.out HR.out 1024 (by decide)).mono ?_; rw [← HS0.out]; rintro e v2 ⟨hb, mb, rb, nb, rfl, hT, hB, f1, f2, f3, f4⟩; have z1 := World.size_alloc v1 (.cells #[.int .u32 x] 28); have hB2 := alloc_thenT hB; have t2 := row_keep T1.out hB2 (by have := B0.out.size; have := B1.out.size; have := HZ.out; omega); have cr : v2.cell? ⟨w.heap.size + 1, 0, none⟩ = some (.int .u32 r0) := (by rw [← HR0.out]; exact cell_of_row t2 (HA.out.2 0 (by decide))); have F4 : Hid (Four v1.heap.size hb mb rb nb) := Lib.hid ⟨by omega, by omega, by omega, by omega⟩; have B2 := Lib.hid hB2; have T2 := Lib.hid hT; have h2 := hT.h; clear hB hB2 hT f1 f2 f3 f4 z1 t2)
    | (refine wpList_load_row rfl 48 (.tmp 8) rfl (w.heap.size + 1) rfl _ A (0, 0) _ ((heap_alloc_old _ _ (by have := B0.out.size; have := B1.out.size; have := HZ.out; omega)).trans T1.out) Try.underlying48 rfl HI.out ?_)
    | (go_at_call 18; refine (ref_Encode op d a b n H5.out.1 H5.out.2.1 H5.out.2.2.1 H5.out.2.2.2.1 H5.out.2.2.2.2 _).mono ?_; rw [HY.out, HOK.out]; rintro e v1 ⟨rfl, hB⟩; have t1 := row_keep S1.out hB (by have := B0.out.size; have := HZ.out; omega); have T1 := Lib.hid t1; have B1 := Lib.hid hB; clear hB t1)
    | (go_at_call 10; rw [← HW.out]; (with_reducible refine (law_known _).mono ?_); rintro e v0 ⟨rfl, hB⟩; have s0 := row_keep R0.out hB (by have := HZ.out; omega); have s1 := row_keep R1.out hB (by have := HZ.out; omega); have k0 : v0.cell? ⟨w.heap.size, 0, none⟩ = some (.int .i64 op) := cell_of_row s0 rfl; have k1 : v0.cell? ⟨w.heap.size, 1, none⟩ = some (.int .i64 d) := cell_of_row s0 rfl; have k2 : v0.cell? ⟨w.heap.size, 2, none⟩ = some (.int .i64 a) := cell_of_row s0 rfl; have k3 : v0.cell? ⟨w.heap.size, 3, none⟩ = some (.int .i64 b) := cell_of_row s0 rfl; have k4 : v0.cell? ⟨w.heap.size, 4, none⟩ = some (.int .i32 n) := cell_of_row s0 rfl; have S1 := Lib.hid s1; have B0 := Lib.hid hB; clear hB s0 s1))
  go_ret
  have k2 : Below w.heap.size w v2 := HBW.out.trans ((B0.out.mono HBW.out.size).trans ((B1.out.mono (Nat.le_trans HBW.out.size B0.out.size)).trans (B2.out.mono (Nat.le_trans HBW.out.size (Nat.le_trans B0.out.size B1.out.size)))))
  have hz := Nat.le_trans HBW.out.size (Nat.le_trans B0.out.size B1.out.size)
  have f4 : Four w.heap.size hb mb rb nb := ⟨Nat.le_trans hz F4.out.1, Nat.le_trans hz F4.out.2.1, Nat.le_trans hz F4.out.2.2.1, Nat.le_trans hz F4.out.2.2.2⟩
  have k5 := below_mk k2 f4 k2.size M5.out.turn
  have k6 := below_mr k5 f4 k5.size M6.out.turn
  have k7 := k6.trans (B7.out.mono k6.size)
  exact ⟨rfl, k7.trans (B8.out.mono k7.size)⟩

set_option maxHeartbeats 4000000 in
set_option maxRecDepth 100000 in
theorem steps_nl (op d a b n x : Int) (raw : Bool) (A : Array Value) (rs : List Int) (v : Int) (h0 : IntKind.has .i64 op) (h1 : IntKind.has .i64 d) (h2 : IntKind.has .i64 a) (h3 : IntKind.has .i64 b) (h4 : IntKind.has .i32 n) (qx : 0 ≤ x ∧ x ≤ 4294967295) (qv : 0 ≤ v ∧ v ≤ 4294967295) (hA : A.size = 31 ∧ ∀ j, j < 31 → A[j]? = some (.int .u32 (rs.getD j 0))) (hr : ∀ x ∈ rs, 0 ≤ x ∧ x ≤ 4294967295) (hraw : raw = false) (hok1 : rfEnc_1 op d a b n = false) (at_ : Int) (ea : (bits .andNot .u32 (rs.getD 0 0) 3) % 32768 = at_) (hc : at_ < 1024) (w : World) :
    Calls Try.prog 6 #[.agg #[.int .i64 op, .int .i64 d, .int .i64 a, .int .i64 b, .int .i32 n], .int .u32 x, .bool raw, .agg A, .int .u32 v] w fun e w' => e = .returned (.bool true) ∧ Below w.heap.size w w' := by
  have hyb := rfEnc_bd h0 h1 h2 h3 h4
  obtain ⟨y, hy⟩ : ∃ y, rfEnc_0 op d a b n = y := ⟨_, rfl⟩
  obtain ⟨ok, hok⟩ : ∃ ok, rfEnc_1 op d a b n = ok := ⟨_, rfl⟩
  rw [hy] at hyb
  rw [hok] at hok1
  subst hok1
  subst hraw
  obtain ⟨r0, hr0⟩ : ∃ r, rs.getD 0 0 = r := ⟨_, rfl⟩
  obtain ⟨q, hq⟩ : ∃ q, bits .andNot .u32 r0 3 = q := ⟨_, rfl⟩
  have hq0 : 0 ≤ q := by rw [← hq]; exact and_bd _ _
  rw [hr0, hq] at ea
  have ea2 : q.tmod 32768 = at_ := by rw [Int.tmod_eq_emod_of_nonneg hq0]; exact ea
  have hat : 0 ≤ at_ ∧ at_ ≤ 4294967295 := by omega
  obtain ⟨cb, hcb⟩ : ∃ c, canB at_ 4 = c := ⟨_, rfl⟩
  obtain ⟨W, hW⟩ : ∃ W, W = (w.alloc (.cells #[.int .i64 op, .int .i64 d, .int .i64 a, .int .i64 b, .int .i32 n] 39)).alloc (.cells A 48) := ⟨_, rfl⟩
  have hzW : W.heap.size = w.heap.size + 2 := by rw [hW, World.size_alloc, World.size_alloc]
  have hbW : Below w.heap.size w W := by rw [hW]; exact ((Below.refl _ _).alloc (Nat.le_refl _) _).alloc (by rw [World.size_alloc]; omega) _
  have rw0 : W.heap[w.heap.size]? = some (.cells #[.int .i64 op, .int .i64 d, .int .i64 a, .int .i64 b, .int .i32 n] 39 (0, 0)) := by rw [hW]; exact heap_alloc2_old _ _ _
  have rw1 : W.heap[w.heap.size + 1]? = some (.cells A 48 (0, 0)) := by rw [hW]; exact heap_alloc2_new _ _ _
  have HI : Hid ((Try.prog.info? 48).map (·.size) = some A.size) := Lib.hid (by rw [hA.1]; kernel_rfl)
  have HW := Lib.hid hW; have HZ := Lib.hid hzW; have HBW := Lib.hid hbW; have R0 := Lib.hid rw0; have R1 := Lib.hid rw1
  have HY := Lib.hid hy; have HOK := Lib.hid hok; have HA := Lib.hid hA; have HR := Lib.hid hr; have HYB := Lib.hid hyb; have QX := Lib.hid qx; have QV := Lib.hid qv; have HAT := Lib.hid hat; have HCB := Lib.hid hcb; have HR0 := Lib.hid hr0
  have GB : Hid (Good (bothS [x] rs 1024)) := Lib.hid (bothS_good hr (by decide))
  have H5 := Lib.hid (And.intro h0 (And.intro h1 (And.intro h2 (And.intro h3 h4))))
  clear hW hzW hbW rw0 rw1 hy hok hA hr hyb qx qv hcb hr0 h0 h1 h2 h3 h4 hq0 hat
  obtain ⟨S, hS⟩ : ∃ S, S = stM (bothS [x] rs 1024) at_ 4 v := ⟨_, rfl⟩
  obtain ⟨S0', hS0⟩ : ∃ S, S = bothS [x] rs 1024 := ⟨_, rfl⟩
  rw [← hS0] at GB hS
  have GS : Hid (Good S) := Lib.hid (by rw [hS]; exact stM_good GB.out _ _ _)
  have GT : Hid (Good (hstep S).2) := Lib.hid (hstep_good GS.out).1
  obtain ⟨kk, hkk⟩ : ∃ k, (hstep S).1 = k := ⟨_, rfl⟩
  have HKK := Lib.hid hkk; have HS := Lib.hid hS; have HS0 := Lib.hid hS0; clear hkk hS hS0
  go_enter Try.func6, Try.ntmps6
  go_wp2_with (first
    | (go_at_call 17; refine (law_memory _ hb mb rb nb _ _ T7.out.h T7.out.r GT.out GT.out rfl).mono ?_; rintro e v8 ⟨rfl, hB⟩; have B8 := Lib.hid hB; clear hB)
    | (go_at_call 27; refine (law_alike _ hb mb rb nb _ T6.out.h T6.out.r GT.out).mono ?_; rintro e v7 ⟨rfl, hB⟩; have T7 := Lib.hid (T6.out.below hB); have B7 := Lib.hid hB; clear hB)
    | (go_at_call 26; refine (ref_Step _ _ nb S r5 GS.out).mono ?_; rw [HKK.out]; rintro e v6 ⟨rfl, hM⟩; have t6 := T5.out.rm hM; have M6 := Lib.hid hM; have T6 := Lib.hid t6; clear hM t6)
    | (go_at_call 20; refine (host_Step _ _ mb S h4 GS.out).mono ?_; rw [HKK.out]; rintro e v5 ⟨rfl, hM⟩; have t5 := T4.out.hm hM; have r5 := t5.r; have M5 := Lib.hid hM; have T5 := Lib.hid t5; clear hM t5)
    | (go_at_call 14; refine (ref_Store _ _ nb _ r3 at_ 4 v HAT.out.1 HAT.out.2 QV.out.1 QV.out.2 (by decide) (by decide)).mono ?_; rw [HCB.out, ← HS.out]; rintro e v4 ⟨rfl, hM⟩; have t4 := T3.out.rm hM; have h4 := t4.h; have M4 := Lib.hid hM; have T4 := Lib.hid t4; clear hM t4)
    | (go_at_call 13; refine (sto_is _ _ mb _ h2 (a := at_) (n := 4) (v := v) (b := cb) HAT.out QV.out HCB.out HS.out.symm).mono ?_; rintro e v3 ⟨rfl, hM⟩; have t3 := T2.out.hm hM; have r3 := t3.r; have M3 := Lib.hid hM; have T3 := Lib.hid t3; clear hM t3)
    | (go_at_call 25; refine (law_both _ _ [x] rs A (wds_one QX.out) (show 1 ≤ 40 by decide) HA.out HR.out 1024 (by decide)).mono ?_; rw [← HS0.out]; rintro e v2 ⟨hb, mb, rb, nb, rfl, hT, hB, f1, f2, f3, f4⟩; have z1 := World.size_alloc v1 (.cells #[.int .u32 x] 28); have hB2 := alloc_thenT hB; have t2 := row_keep T1.out hB2 (by have := B0.out.size; have := B1.out.size; have := HZ.out; omega); have cr : v2.cell? ⟨w.heap.size + 1, 0, none⟩ = some (.int .u32 r0) := (by rw [← HR0.out]; exact cell_of_row t2 (HA.out.2 0 (by decide))); have F4 : Hid (Four v1.heap.size hb mb rb nb) := Lib.hid ⟨by omega, by omega, by omega, by omega⟩; have B2 := Lib.hid hB2; have T2 := Lib.hid hT; have h2 := hT.h; clear hB hB2 hT f1 f2 f3 f4 z1 t2)
    | (refine wpList_load_row rfl 48 (.tmp 8) rfl (w.heap.size + 1) rfl _ A (0, 0) _ ((heap_alloc_old _ _ (by have := B0.out.size; have := B1.out.size; have := HZ.out; omega)).trans T1.out) Try.underlying48 rfl HI.out ?_)
    | (go_at_call 18; refine (ref_Encode op d a b n H5.out.1 H5.out.2.1 H5.out.2.2.1 H5.out.2.2.2.1 H5.out.2.2.2.2 _).mono ?_; rw [HY.out, HOK.out]; rintro e v1 ⟨rfl, hB⟩; have t1 := row_keep S1.out hB (by have := B0.out.size; have := HZ.out; omega); have T1 := Lib.hid t1; have B1 := Lib.hid hB; clear hB t1)
    | (go_at_call 10; rw [← HW.out]; (with_reducible refine (law_known _).mono ?_); rintro e v0 ⟨rfl, hB⟩; have s0 := row_keep R0.out hB (by have := HZ.out; omega); have s1 := row_keep R1.out hB (by have := HZ.out; omega); have k0 : v0.cell? ⟨w.heap.size, 0, none⟩ = some (.int .i64 op) := cell_of_row s0 rfl; have k1 : v0.cell? ⟨w.heap.size, 1, none⟩ = some (.int .i64 d) := cell_of_row s0 rfl; have k2 : v0.cell? ⟨w.heap.size, 2, none⟩ = some (.int .i64 a) := cell_of_row s0 rfl; have k3 : v0.cell? ⟨w.heap.size, 3, none⟩ = some (.int .i64 b) := cell_of_row s0 rfl; have k4 : v0.cell? ⟨w.heap.size, 4, none⟩ = some (.int .i32 n) := cell_of_row s0 rfl; have S1 := Lib.hid s1; have B0 := Lib.hid hB; clear hB s0 s1))
  go_ret
  have k2 : Below w.heap.size w v2 := HBW.out.trans ((B0.out.mono HBW.out.size).trans ((B1.out.mono (Nat.le_trans HBW.out.size B0.out.size)).trans (B2.out.mono (Nat.le_trans HBW.out.size (Nat.le_trans B0.out.size B1.out.size)))))
  have hz := Nat.le_trans HBW.out.size (Nat.le_trans B0.out.size B1.out.size)
  have f4 : Four w.heap.size hb mb rb nb := ⟨Nat.le_trans hz F4.out.1, Nat.le_trans hz F4.out.2.1, Nat.le_trans hz F4.out.2.2.1, Nat.le_trans hz F4.out.2.2.2⟩
  have k3 := below_mk k2 f4 k2.size M3.out.turn
  have k4 := below_mr k3 f4 k3.size M4.out.turn
  have k5 := below_mk k4 f4 k4.size M5.out.turn
  have k6 := below_mr k5 f4 k5.size M6.out.turn
  have k7 := k6.trans (B7.out.mono k6.size)
  exact ⟨rfl, k7.trans (B8.out.mono k7.size)⟩

set_option maxHeartbeats 4000000 in
set_option maxRecDepth 100000 in
theorem steps_nh (op d a b n x : Int) (raw : Bool) (A : Array Value) (rs : List Int) (v : Int) (h0 : IntKind.has .i64 op) (h1 : IntKind.has .i64 d) (h2 : IntKind.has .i64 a) (h3 : IntKind.has .i64 b) (h4 : IntKind.has .i32 n) (qx : 0 ≤ x ∧ x ≤ 4294967295) (qv : 0 ≤ v ∧ v ≤ 4294967295) (hA : A.size = 31 ∧ ∀ j, j < 31 → A[j]? = some (.int .u32 (rs.getD j 0))) (hr : ∀ x ∈ rs, 0 ≤ x ∧ x ≤ 4294967295) (hraw : raw = false) (hok1 : rfEnc_1 op d a b n = false) (at_ : Int) (ea : (bits .andNot .u32 (rs.getD 0 0) 3) % 32768 = at_) (hc0 : ¬ at_ < 1024) (hc : 1028 ≤ at_) (w : World) :
    Calls Try.prog 6 #[.agg #[.int .i64 op, .int .i64 d, .int .i64 a, .int .i64 b, .int .i32 n], .int .u32 x, .bool raw, .agg A, .int .u32 v] w fun e w' => e = .returned (.bool true) ∧ Below w.heap.size w w' := by
  have hyb := rfEnc_bd h0 h1 h2 h3 h4
  obtain ⟨y, hy⟩ : ∃ y, rfEnc_0 op d a b n = y := ⟨_, rfl⟩
  obtain ⟨ok, hok⟩ : ∃ ok, rfEnc_1 op d a b n = ok := ⟨_, rfl⟩
  rw [hy] at hyb
  rw [hok] at hok1
  subst hok1
  subst hraw
  obtain ⟨r0, hr0⟩ : ∃ r, rs.getD 0 0 = r := ⟨_, rfl⟩
  obtain ⟨q, hq⟩ : ∃ q, bits .andNot .u32 r0 3 = q := ⟨_, rfl⟩
  have hq0 : 0 ≤ q := by rw [← hq]; exact and_bd _ _
  rw [hr0, hq] at ea
  have ea2 : q.tmod 32768 = at_ := by rw [Int.tmod_eq_emod_of_nonneg hq0]; exact ea
  have hat : 0 ≤ at_ ∧ at_ ≤ 4294967295 := by omega
  obtain ⟨cb, hcb⟩ : ∃ c, canB at_ 4 = c := ⟨_, rfl⟩
  obtain ⟨W, hW⟩ : ∃ W, W = (w.alloc (.cells #[.int .i64 op, .int .i64 d, .int .i64 a, .int .i64 b, .int .i32 n] 39)).alloc (.cells A 48) := ⟨_, rfl⟩
  have hzW : W.heap.size = w.heap.size + 2 := by rw [hW, World.size_alloc, World.size_alloc]
  have hbW : Below w.heap.size w W := by rw [hW]; exact ((Below.refl _ _).alloc (Nat.le_refl _) _).alloc (by rw [World.size_alloc]; omega) _
  have rw0 : W.heap[w.heap.size]? = some (.cells #[.int .i64 op, .int .i64 d, .int .i64 a, .int .i64 b, .int .i32 n] 39 (0, 0)) := by rw [hW]; exact heap_alloc2_old _ _ _
  have rw1 : W.heap[w.heap.size + 1]? = some (.cells A 48 (0, 0)) := by rw [hW]; exact heap_alloc2_new _ _ _
  have HI : Hid ((Try.prog.info? 48).map (·.size) = some A.size) := Lib.hid (by rw [hA.1]; kernel_rfl)
  have HW := Lib.hid hW; have HZ := Lib.hid hzW; have HBW := Lib.hid hbW; have R0 := Lib.hid rw0; have R1 := Lib.hid rw1
  have HY := Lib.hid hy; have HOK := Lib.hid hok; have HA := Lib.hid hA; have HR := Lib.hid hr; have HYB := Lib.hid hyb; have QX := Lib.hid qx; have QV := Lib.hid qv; have HAT := Lib.hid hat; have HCB := Lib.hid hcb; have HR0 := Lib.hid hr0
  have GB : Hid (Good (bothS [x] rs 1024)) := Lib.hid (bothS_good hr (by decide))
  have H5 := Lib.hid (And.intro h0 (And.intro h1 (And.intro h2 (And.intro h3 h4))))
  clear hW hzW hbW rw0 rw1 hy hok hA hr hyb qx qv hcb hr0 h0 h1 h2 h3 h4 hq0 hat
  obtain ⟨S, hS⟩ : ∃ S, S = stM (bothS [x] rs 1024) at_ 4 v := ⟨_, rfl⟩
  obtain ⟨S0', hS0⟩ : ∃ S, S = bothS [x] rs 1024 := ⟨_, rfl⟩
  rw [← hS0] at GB hS
  have GS : Hid (Good S) := Lib.hid (by rw [hS]; exact stM_good GB.out _ _ _)
  have GT : Hid (Good (hstep S).2) := Lib.hid (hstep_good GS.out).1
  obtain ⟨kk, hkk⟩ : ∃ k, (hstep S).1 = k := ⟨_, rfl⟩
  have HKK := Lib.hid hkk; have HS := Lib.hid hS; have HS0 := Lib.hid hS0; clear hkk hS hS0
  go_enter Try.func6, Try.ntmps6
  go_wp2_with (first
    | (go_at_call 17; refine (law_memory _ hb mb rb nb _ _ T7.out.h T7.out.r GT.out GT.out rfl).mono ?_; rintro e v8 ⟨rfl, hB⟩; have B8 := Lib.hid hB; clear hB)
    | (go_at_call 27; refine (law_alike _ hb mb rb nb _ T6.out.h T6.out.r GT.out).mono ?_; rintro e v7 ⟨rfl, hB⟩; have T7 := Lib.hid (T6.out.below hB); have B7 := Lib.hid hB; clear hB)
    | (go_at_call 26; refine (ref_Step _ _ nb S r5 GS.out).mono ?_; rw [HKK.out]; rintro e v6 ⟨rfl, hM⟩; have t6 := T5.out.rm hM; have M6 := Lib.hid hM; have T6 := Lib.hid t6; clear hM t6)
    | (go_at_call 20; refine (host_Step _ _ mb S h4 GS.out).mono ?_; rw [HKK.out]; rintro e v5 ⟨rfl, hM⟩; have t5 := T4.out.hm hM; have r5 := t5.r; have M5 := Lib.hid hM; have T5 := Lib.hid t5; clear hM t5)
    | (go_at_call 14; refine (ref_Store _ _ nb _ r3 at_ 4 v HAT.out.1 HAT.out.2 QV.out.1 QV.out.2 (by decide) (by decide)).mono ?_; rw [HCB.out, ← HS.out]; rintro e v4 ⟨rfl, hM⟩; have t4 := T3.out.rm hM; have h4 := t4.h; have M4 := Lib.hid hM; have T4 := Lib.hid t4; clear hM t4)
    | (go_at_call 13; refine (sto_is _ _ mb _ h2 (a := at_) (n := 4) (v := v) (b := cb) HAT.out QV.out HCB.out HS.out.symm).mono ?_; rintro e v3 ⟨rfl, hM⟩; have t3 := T2.out.hm hM; have r3 := t3.r; have M3 := Lib.hid hM; have T3 := Lib.hid t3; clear hM t3)
    | (go_at_call 25; refine (law_both _ _ [x] rs A (wds_one QX.out) (show 1 ≤ 40 by decide) HA.out HR.out 1024 (by decide)).mono ?_; rw [← HS0.out]; rintro e v2 ⟨hb, mb, rb, nb, rfl, hT, hB, f1, f2, f3, f4⟩; have z1 := World.size_alloc v1 (.cells #[.int .u32 x] 28); have hB2 := alloc_thenT hB; have t2 := row_keep T1.out hB2 (by have := B0.out.size; have := B1.out.size; have := HZ.out; omega); have cr : v2.cell? ⟨w.heap.size + 1, 0, none⟩ = some (.int .u32 r0) := (by rw [← HR0.out]; exact cell_of_row t2 (HA.out.2 0 (by decide))); have F4 : Hid (Four v1.heap.size hb mb rb nb) := Lib.hid ⟨by omega, by omega, by omega, by omega⟩; have B2 := Lib.hid hB2; have T2 := Lib.hid hT; have h2 := hT.h; clear hB hB2 hT f1 f2 f3 f4 z1 t2)
    | (refine wpList_load_row rfl 48 (.tmp 8) rfl (w.heap.size + 1) rfl _ A (0, 0) _ ((heap_alloc_old _ _ (by have := B0.out.size; have := B1.out.size; have := HZ.out; omega)).trans T1.out) Try.underlying48 rfl HI.out ?_)
    | (go_at_call 18; refine (ref_Encode op d a b n H5.out.1 H5.out.2.1 H5.out.2.2.1 H5.out.2.2.2.1 H5.out.2.2.2.2 _).mono ?_; rw [HY.out, HOK.out]; rintro e v1 ⟨rfl, hB⟩; have t1 := row_keep S1.out hB (by have := B0.out.size; have := HZ.out; omega); have T1 := Lib.hid t1; have B1 := Lib.hid hB; clear hB t1)
    | (go_at_call 10; rw [← HW.out]; (with_reducible refine (law_known _).mono ?_); rintro e v0 ⟨rfl, hB⟩; have s0 := row_keep R0.out hB (by have := HZ.out; omega); have s1 := row_keep R1.out hB (by have := HZ.out; omega); have k0 : v0.cell? ⟨w.heap.size, 0, none⟩ = some (.int .i64 op) := cell_of_row s0 rfl; have k1 : v0.cell? ⟨w.heap.size, 1, none⟩ = some (.int .i64 d) := cell_of_row s0 rfl; have k2 : v0.cell? ⟨w.heap.size, 2, none⟩ = some (.int .i64 a) := cell_of_row s0 rfl; have k3 : v0.cell? ⟨w.heap.size, 3, none⟩ = some (.int .i64 b) := cell_of_row s0 rfl; have k4 : v0.cell? ⟨w.heap.size, 4, none⟩ = some (.int .i32 n) := cell_of_row s0 rfl; have S1 := Lib.hid s1; have B0 := Lib.hid hB; clear hB s0 s1))
  go_ret
  have k2 : Below w.heap.size w v2 := HBW.out.trans ((B0.out.mono HBW.out.size).trans ((B1.out.mono (Nat.le_trans HBW.out.size B0.out.size)).trans (B2.out.mono (Nat.le_trans HBW.out.size (Nat.le_trans B0.out.size B1.out.size)))))
  have hz := Nat.le_trans HBW.out.size (Nat.le_trans B0.out.size B1.out.size)
  have f4 : Four w.heap.size hb mb rb nb := ⟨Nat.le_trans hz F4.out.1, Nat.le_trans hz F4.out.2.1, Nat.le_trans hz F4.out.2.2.1, Nat.le_trans hz F4.out.2.2.2⟩
  have k3 := below_mk k2 f4 k2.size M3.out.turn
  have k4 := below_mr k3 f4 k3.size M4.out.turn
  have k5 := below_mk k4 f4 k4.size M5.out.turn
  have k6 := below_mr k5 f4 k5.size M6.out.turn
  have k7 := k6.trans (B7.out.mono k6.size)
  exact ⟨rfl, k7.trans (B8.out.mono k7.size)⟩

set_option maxHeartbeats 4000000 in
set_option maxRecDepth 100000 in
theorem steps_nm (op d a b n x : Int) (raw : Bool) (A : Array Value) (rs : List Int) (v : Int) (h0 : IntKind.has .i64 op) (h1 : IntKind.has .i64 d) (h2 : IntKind.has .i64 a) (h3 : IntKind.has .i64 b) (h4 : IntKind.has .i32 n) (qx : 0 ≤ x ∧ x ≤ 4294967295) (qv : 0 ≤ v ∧ v ≤ 4294967295) (hA : A.size = 31 ∧ ∀ j, j < 31 → A[j]? = some (.int .u32 (rs.getD j 0))) (hr : ∀ x ∈ rs, 0 ≤ x ∧ x ≤ 4294967295) (hraw : raw = false) (hok1 : rfEnc_1 op d a b n = false) (at_ : Int) (ea : (bits .andNot .u32 (rs.getD 0 0) 3) % 32768 = at_) (hc0 : ¬ at_ < 1024) (hc : ¬ 1028 ≤ at_) (w : World) :
    Calls Try.prog 6 #[.agg #[.int .i64 op, .int .i64 d, .int .i64 a, .int .i64 b, .int .i32 n], .int .u32 x, .bool raw, .agg A, .int .u32 v] w fun e w' => e = .returned (.bool true) ∧ Below w.heap.size w w' := by
  have hyb := rfEnc_bd h0 h1 h2 h3 h4
  obtain ⟨y, hy⟩ : ∃ y, rfEnc_0 op d a b n = y := ⟨_, rfl⟩
  obtain ⟨ok, hok⟩ : ∃ ok, rfEnc_1 op d a b n = ok := ⟨_, rfl⟩
  rw [hy] at hyb
  rw [hok] at hok1
  subst hok1
  subst hraw
  obtain ⟨r0, hr0⟩ : ∃ r, rs.getD 0 0 = r := ⟨_, rfl⟩
  obtain ⟨q, hq⟩ : ∃ q, bits .andNot .u32 r0 3 = q := ⟨_, rfl⟩
  have hq0 : 0 ≤ q := by rw [← hq]; exact and_bd _ _
  rw [hr0, hq] at ea
  have ea2 : q.tmod 32768 = at_ := by rw [Int.tmod_eq_emod_of_nonneg hq0]; exact ea
  have hat : 0 ≤ at_ ∧ at_ ≤ 4294967295 := by omega
  obtain ⟨cb, hcb⟩ : ∃ c, canB at_ 4 = c := ⟨_, rfl⟩
  obtain ⟨W, hW⟩ : ∃ W, W = (w.alloc (.cells #[.int .i64 op, .int .i64 d, .int .i64 a, .int .i64 b, .int .i32 n] 39)).alloc (.cells A 48) := ⟨_, rfl⟩
  have hzW : W.heap.size = w.heap.size + 2 := by rw [hW, World.size_alloc, World.size_alloc]
  have hbW : Below w.heap.size w W := by rw [hW]; exact ((Below.refl _ _).alloc (Nat.le_refl _) _).alloc (by rw [World.size_alloc]; omega) _
  have rw0 : W.heap[w.heap.size]? = some (.cells #[.int .i64 op, .int .i64 d, .int .i64 a, .int .i64 b, .int .i32 n] 39 (0, 0)) := by rw [hW]; exact heap_alloc2_old _ _ _
  have rw1 : W.heap[w.heap.size + 1]? = some (.cells A 48 (0, 0)) := by rw [hW]; exact heap_alloc2_new _ _ _
  have HI : Hid ((Try.prog.info? 48).map (·.size) = some A.size) := Lib.hid (by rw [hA.1]; kernel_rfl)
  have HW := Lib.hid hW; have HZ := Lib.hid hzW; have HBW := Lib.hid hbW; have R0 := Lib.hid rw0; have R1 := Lib.hid rw1
  have HY := Lib.hid hy; have HOK := Lib.hid hok; have HA := Lib.hid hA; have HR := Lib.hid hr; have HYB := Lib.hid hyb; have QX := Lib.hid qx; have QV := Lib.hid qv; have HAT := Lib.hid hat; have HCB := Lib.hid hcb; have HR0 := Lib.hid hr0
  have GB : Hid (Good (bothS [x] rs 1024)) := Lib.hid (bothS_good hr (by decide))
  have H5 := Lib.hid (And.intro h0 (And.intro h1 (And.intro h2 (And.intro h3 h4))))
  clear hW hzW hbW rw0 rw1 hy hok hA hr hyb qx qv hcb hr0 h0 h1 h2 h3 h4 hq0 hat
  obtain ⟨S, hS⟩ : ∃ S, S = bothS [x] rs 1024 := ⟨_, rfl⟩
  obtain ⟨S0', hS0⟩ : ∃ S, S = bothS [x] rs 1024 := ⟨_, rfl⟩
  rw [← hS0] at GB hS
  have GS : Hid (Good S) := Lib.hid (by rw [hS]; exact GB.out)
  have GT : Hid (Good (hstep S).2) := Lib.hid (hstep_good GS.out).1
  obtain ⟨kk, hkk⟩ : ∃ k, (hstep S).1 = k := ⟨_, rfl⟩
  have HKK := Lib.hid hkk; have HS := Lib.hid hS; have HS0 := Lib.hid hS0; clear hkk hS hS0
  go_enter Try.func6, Try.ntmps6
  go_wp2_with (first
    | (go_at_call 17; refine (law_memory _ hb mb rb nb _ _ T7.out.h T7.out.r GT.out GT.out rfl).mono ?_; rintro e v8 ⟨rfl, hB⟩; have B8 := Lib.hid hB; clear hB)
    | (go_at_call 27; refine (law_alike _ hb mb rb nb _ T6.out.h T6.out.r GT.out).mono ?_; rintro e v7 ⟨rfl, hB⟩; have T7 := Lib.hid (T6.out.below hB); have B7 := Lib.hid hB; clear hB)
    | (go_at_call 26; refine (ref_Step _ _ nb S r5 GS.out).mono ?_; rw [HKK.out]; rintro e v6 ⟨rfl, hM⟩; have t6 := T5.out.rm hM; have M6 := Lib.hid hM; have T6 := Lib.hid t6; clear hM t6)
    | (go_at_call 20; have h4 : HostAt v2 hb mb S := HS.out.symm ▸ h2; have T4 : Hid (Two v2 hb mb rb nb S S) := Lib.hid (HS.out.symm ▸ T2.out); refine (host_Step _ _ mb S h4 GS.out).mono ?_; rw [HKK.out]; rintro e v5 ⟨rfl, hM⟩; have t5 := T4.out.hm hM; have r5 := t5.r; have M5 := Lib.hid hM; have T5 := Lib.hid t5; clear hM t5)
    | (go_at_call 25; refine (law_both _ _ [x] rs A (wds_one QX.out) (show 1 ≤ 40 by decide) HA.out HR.out 1024 (by decide)).mono ?_; rw [← HS0.out]; rintro e v2 ⟨hb, mb, rb, nb, rfl, hT, hB, f1, f2, f3, f4⟩; have z1 := World.size_alloc v1 (.cells #[.int .u32 x] 28); have hB2 := alloc_thenT hB; have t2 := row_keep T1.out hB2 (by have := B0.out.size; have := B1.out.size; have := HZ.out; omega); have cr : v2.cell? ⟨w.heap.size + 1, 0, none⟩ = some (.int .u32 r0) := (by rw [← HR0.out]; exact cell_of_row t2 (HA.out.2 0 (by decide))); have F4 : Hid (Four v1.heap.size hb mb rb nb) := Lib.hid ⟨by omega, by omega, by omega, by omega⟩; have B2 := Lib.hid hB2; have T2 := Lib.hid hT; have h2 := hT.h; clear hB hB2 hT f1 f2 f3 f4 z1 t2)
    | (refine wpList_load_row rfl 48 (.tmp 8) rfl (w.heap.size + 1) rfl _ A (0, 0) _ ((heap_alloc_old _ _ (by have := B0.out.size; have := B1.out.size; have := HZ.out; omega)).trans T1.out) Try.underlying48 rfl HI.out ?_)
    | (go_at_call 18; refine (ref_Encode op d a b n H5.out.1 H5.out.2.1 H5.out.2.2.1 H5.out.2.2.2.1 H5.out.2.2.2.2 _).mono ?_; rw [HY.out, HOK.out]; rintro e v1 ⟨rfl, hB⟩; have t1 := row_keep S1.out hB (by have := B0.out.size; have := HZ.out; omega); have T1 := Lib.hid t1; have B1 := Lib.hid hB; clear hB t1)
    | (go_at_call 10; rw [← HW.out]; (with_reducible refine (law_known _).mono ?_); rintro e v0 ⟨rfl, hB⟩; have s0 := row_keep R0.out hB (by have := HZ.out; omega); have s1 := row_keep R1.out hB (by have := HZ.out; omega); have k0 : v0.cell? ⟨w.heap.size, 0, none⟩ = some (.int .i64 op) := cell_of_row s0 rfl; have k1 : v0.cell? ⟨w.heap.size, 1, none⟩ = some (.int .i64 d) := cell_of_row s0 rfl; have k2 : v0.cell? ⟨w.heap.size, 2, none⟩ = some (.int .i64 a) := cell_of_row s0 rfl; have k3 : v0.cell? ⟨w.heap.size, 3, none⟩ = some (.int .i64 b) := cell_of_row s0 rfl; have k4 : v0.cell? ⟨w.heap.size, 4, none⟩ = some (.int .i32 n) := cell_of_row s0 rfl; have S1 := Lib.hid s1; have B0 := Lib.hid hB; clear hB s0 s1))
  go_ret
  have k2 : Below w.heap.size w v2 := HBW.out.trans ((B0.out.mono HBW.out.size).trans ((B1.out.mono (Nat.le_trans HBW.out.size B0.out.size)).trans (B2.out.mono (Nat.le_trans HBW.out.size (Nat.le_trans B0.out.size B1.out.size)))))
  have hz := Nat.le_trans HBW.out.size (Nat.le_trans B0.out.size B1.out.size)
  have f4 : Four w.heap.size hb mb rb nb := ⟨Nat.le_trans hz F4.out.1, Nat.le_trans hz F4.out.2.1, Nat.le_trans hz F4.out.2.2.1, Nat.le_trans hz F4.out.2.2.2⟩
  have k5 := below_mk k2 f4 k2.size M5.out.turn
  have k6 := below_mr k5 f4 k5.size M6.out.turn
  have k7 := k6.trans (B7.out.mono k6.size)
  exact ⟨rfl, k7.trans (B8.out.mono k7.size)⟩

set_option maxHeartbeats 4000000 in
set_option maxRecDepth 100000 in
theorem steps_kl (op d a b n x : Int) (raw : Bool) (A : Array Value) (rs : List Int) (v : Int) (h0 : IntKind.has .i64 op) (h1 : IntKind.has .i64 d) (h2 : IntKind.has .i64 a) (h3 : IntKind.has .i64 b) (h4 : IntKind.has .i32 n) (qx : 0 ≤ x ∧ x ≤ 4294967295) (qv : 0 ≤ v ∧ v ≤ 4294967295) (hA : A.size = 31 ∧ ∀ j, j < 31 → A[j]? = some (.int .u32 (rs.getD j 0))) (hr : ∀ x ∈ rs, 0 ≤ x ∧ x ≤ 4294967295) (hraw : raw = false) (hok1 : rfEnc_1 op d a b n = true) (at_ : Int) (ea : (bits .andNot .u32 (rs.getD 0 0) 3) % 32768 = at_) (hc : at_ < 1024) (w : World) :
    Calls Try.prog 6 #[.agg #[.int .i64 op, .int .i64 d, .int .i64 a, .int .i64 b, .int .i32 n], .int .u32 x, .bool raw, .agg A, .int .u32 v] w fun e w' => e = .returned (.bool true) ∧ Below w.heap.size w w' := by
  have hyb := rfEnc_bd h0 h1 h2 h3 h4
  obtain ⟨y, hy⟩ : ∃ y, rfEnc_0 op d a b n = y := ⟨_, rfl⟩
  obtain ⟨ok, hok⟩ : ∃ ok, rfEnc_1 op d a b n = ok := ⟨_, rfl⟩
  rw [hy] at hyb
  rw [hok] at hok1
  subst hok1
  subst hraw
  obtain ⟨r0, hr0⟩ : ∃ r, rs.getD 0 0 = r := ⟨_, rfl⟩
  obtain ⟨q, hq⟩ : ∃ q, bits .andNot .u32 r0 3 = q := ⟨_, rfl⟩
  have hq0 : 0 ≤ q := by rw [← hq]; exact and_bd _ _
  rw [hr0, hq] at ea
  have ea2 : q.tmod 32768 = at_ := by rw [Int.tmod_eq_emod_of_nonneg hq0]; exact ea
  have hat : 0 ≤ at_ ∧ at_ ≤ 4294967295 := by omega
  obtain ⟨cb, hcb⟩ : ∃ c, canB at_ 4 = c := ⟨_, rfl⟩
  obtain ⟨W, hW⟩ : ∃ W, W = (w.alloc (.cells #[.int .i64 op, .int .i64 d, .int .i64 a, .int .i64 b, .int .i32 n] 39)).alloc (.cells A 48) := ⟨_, rfl⟩
  have hzW : W.heap.size = w.heap.size + 2 := by rw [hW, World.size_alloc, World.size_alloc]
  have hbW : Below w.heap.size w W := by rw [hW]; exact ((Below.refl _ _).alloc (Nat.le_refl _) _).alloc (by rw [World.size_alloc]; omega) _
  have rw0 : W.heap[w.heap.size]? = some (.cells #[.int .i64 op, .int .i64 d, .int .i64 a, .int .i64 b, .int .i32 n] 39 (0, 0)) := by rw [hW]; exact heap_alloc2_old _ _ _
  have rw1 : W.heap[w.heap.size + 1]? = some (.cells A 48 (0, 0)) := by rw [hW]; exact heap_alloc2_new _ _ _
  have HI : Hid ((Try.prog.info? 48).map (·.size) = some A.size) := Lib.hid (by rw [hA.1]; kernel_rfl)
  have HW := Lib.hid hW; have HZ := Lib.hid hzW; have HBW := Lib.hid hbW; have R0 := Lib.hid rw0; have R1 := Lib.hid rw1
  have HY := Lib.hid hy; have HOK := Lib.hid hok; have HA := Lib.hid hA; have HR := Lib.hid hr; have HYB := Lib.hid hyb; have QX := Lib.hid qx; have QV := Lib.hid qv; have HAT := Lib.hid hat; have HCB := Lib.hid hcb; have HR0 := Lib.hid hr0
  have GB : Hid (Good (bothS [y] rs 1024)) := Lib.hid (bothS_good hr (by decide))
  have H5 := Lib.hid (And.intro h0 (And.intro h1 (And.intro h2 (And.intro h3 h4))))
  clear hW hzW hbW rw0 rw1 hy hok hA hr hyb qx qv hcb hr0 h0 h1 h2 h3 h4 hq0 hat
  obtain ⟨S, hS⟩ : ∃ S, S = stM (bothS [y] rs 1024) at_ 4 v := ⟨_, rfl⟩
  obtain ⟨S0', hS0⟩ : ∃ S, S = bothS [y] rs 1024 := ⟨_, rfl⟩
  rw [← hS0] at GB hS
  have GS : Hid (Good S) := Lib.hid (by rw [hS]; exact stM_good GB.out _ _ _)
  have GT : Hid (Good (hstep S).2) := Lib.hid (hstep_good GS.out).1
  obtain ⟨kk, hkk⟩ : ∃ k, (hstep S).1 = k := ⟨_, rfl⟩
  have HKK := Lib.hid hkk; have HS := Lib.hid hS; have HS0 := Lib.hid hS0; clear hkk hS hS0
  go_enter Try.func6, Try.ntmps6
  go_wp2_with (first
    | (go_at_call 17; refine (law_memory _ hb mb rb nb _ _ T7.out.h T7.out.r GT.out GT.out rfl).mono ?_; rintro e v8 ⟨rfl, hB⟩; have B8 := Lib.hid hB; clear hB)
    | (go_at_call 27; refine (law_alike _ hb mb rb nb _ T6.out.h T6.out.r GT.out).mono ?_; rintro e v7 ⟨rfl, hB⟩; have T7 := Lib.hid (T6.out.below hB); have B7 := Lib.hid hB; clear hB)
    | (go_at_call 26; refine (ref_Step _ _ nb S r5 GS.out).mono ?_; rw [HKK.out]; rintro e v6 ⟨rfl, hM⟩; have t6 := T5.out.rm hM; have M6 := Lib.hid hM; have T6 := Lib.hid t6; clear hM t6)
    | (go_at_call 20; refine (host_Step _ _ mb S h4 GS.out).mono ?_; rw [HKK.out]; rintro e v5 ⟨rfl, hM⟩; have t5 := T4.out.hm hM; have r5 := t5.r; have M5 := Lib.hid hM; have T5 := Lib.hid t5; clear hM t5)
    | (go_at_call 14; refine (ref_Store _ _ nb _ r3 at_ 4 v HAT.out.1 HAT.out.2 QV.out.1 QV.out.2 (by decide) (by decide)).mono ?_; rw [HCB.out, ← HS.out]; rintro e v4 ⟨rfl, hM⟩; have t4 := T3.out.rm hM; have h4 := t4.h; have M4 := Lib.hid hM; have T4 := Lib.hid t4; clear hM t4)
    | (go_at_call 13; refine (sto_is _ _ mb _ h2 (a := at_) (n := 4) (v := v) (b := cb) HAT.out QV.out HCB.out HS.out.symm).mono ?_; rintro e v3 ⟨rfl, hM⟩; have t3 := T2.out.hm hM; have r3 := t3.r; have M3 := Lib.hid hM; have T3 := Lib.hid t3; clear hM t3)
    | (go_at_call 25; refine (law_both _ _ [y] rs A (wds_one HYB.out) (show 1 ≤ 40 by decide) HA.out HR.out 1024 (by decide)).mono ?_; rw [← HS0.out]; rintro e v2 ⟨hb, mb, rb, nb, rfl, hT, hB, f1, f2, f3, f4⟩; have z1 := World.size_alloc v1 (.cells #[.int .u32 y] 28); have hB2 := alloc_thenT hB; have t2 := row_keep T1.out hB2 (by have := B0.out.size; have := B1.out.size; have := HZ.out; omega); have cr : v2.cell? ⟨w.heap.size + 1, 0, none⟩ = some (.int .u32 r0) := (by rw [← HR0.out]; exact cell_of_row t2 (HA.out.2 0 (by decide))); have F4 : Hid (Four v1.heap.size hb mb rb nb) := Lib.hid ⟨by omega, by omega, by omega, by omega⟩; have B2 := Lib.hid hB2; have T2 := Lib.hid hT; have h2 := hT.h; clear hB hB2 hT f1 f2 f3 f4 z1 t2)
    | (refine wpList_load_row rfl 48 (.tmp 8) rfl (w.heap.size + 1) rfl _ A (0, 0) _ ((heap_alloc_old _ _ (by have := B0.out.size; have := B1.out.size; have := HZ.out; omega)).trans T1.out) Try.underlying48 rfl HI.out ?_)
    | (go_at_call 18; refine (ref_Encode op d a b n H5.out.1 H5.out.2.1 H5.out.2.2.1 H5.out.2.2.2.1 H5.out.2.2.2.2 _).mono ?_; rw [HY.out, HOK.out]; rintro e v1 ⟨rfl, hB⟩; have t1 := row_keep S1.out hB (by have := B0.out.size; have := HZ.out; omega); have T1 := Lib.hid t1; have B1 := Lib.hid hB; clear hB t1)
    | (go_at_call 10; rw [← HW.out]; (with_reducible refine (law_known _).mono ?_); rintro e v0 ⟨rfl, hB⟩; have s0 := row_keep R0.out hB (by have := HZ.out; omega); have s1 := row_keep R1.out hB (by have := HZ.out; omega); have k0 : v0.cell? ⟨w.heap.size, 0, none⟩ = some (.int .i64 op) := cell_of_row s0 rfl; have k1 : v0.cell? ⟨w.heap.size, 1, none⟩ = some (.int .i64 d) := cell_of_row s0 rfl; have k2 : v0.cell? ⟨w.heap.size, 2, none⟩ = some (.int .i64 a) := cell_of_row s0 rfl; have k3 : v0.cell? ⟨w.heap.size, 3, none⟩ = some (.int .i64 b) := cell_of_row s0 rfl; have k4 : v0.cell? ⟨w.heap.size, 4, none⟩ = some (.int .i32 n) := cell_of_row s0 rfl; have S1 := Lib.hid s1; have B0 := Lib.hid hB; clear hB s0 s1))
  go_ret
  have k2 : Below w.heap.size w v2 := HBW.out.trans ((B0.out.mono HBW.out.size).trans ((B1.out.mono (Nat.le_trans HBW.out.size B0.out.size)).trans (B2.out.mono (Nat.le_trans HBW.out.size (Nat.le_trans B0.out.size B1.out.size)))))
  have hz := Nat.le_trans HBW.out.size (Nat.le_trans B0.out.size B1.out.size)
  have f4 : Four w.heap.size hb mb rb nb := ⟨Nat.le_trans hz F4.out.1, Nat.le_trans hz F4.out.2.1, Nat.le_trans hz F4.out.2.2.1, Nat.le_trans hz F4.out.2.2.2⟩
  have k3 := below_mk k2 f4 k2.size M3.out.turn
  have k4 := below_mr k3 f4 k3.size M4.out.turn
  have k5 := below_mk k4 f4 k4.size M5.out.turn
  have k6 := below_mr k5 f4 k5.size M6.out.turn
  have k7 := k6.trans (B7.out.mono k6.size)
  exact ⟨rfl, k7.trans (B8.out.mono k7.size)⟩

set_option maxHeartbeats 4000000 in
set_option maxRecDepth 100000 in
theorem steps_kh (op d a b n x : Int) (raw : Bool) (A : Array Value) (rs : List Int) (v : Int) (h0 : IntKind.has .i64 op) (h1 : IntKind.has .i64 d) (h2 : IntKind.has .i64 a) (h3 : IntKind.has .i64 b) (h4 : IntKind.has .i32 n) (qx : 0 ≤ x ∧ x ≤ 4294967295) (qv : 0 ≤ v ∧ v ≤ 4294967295) (hA : A.size = 31 ∧ ∀ j, j < 31 → A[j]? = some (.int .u32 (rs.getD j 0))) (hr : ∀ x ∈ rs, 0 ≤ x ∧ x ≤ 4294967295) (hraw : raw = false) (hok1 : rfEnc_1 op d a b n = true) (at_ : Int) (ea : (bits .andNot .u32 (rs.getD 0 0) 3) % 32768 = at_) (hc0 : ¬ at_ < 1024) (hc : 1028 ≤ at_) (w : World) :
    Calls Try.prog 6 #[.agg #[.int .i64 op, .int .i64 d, .int .i64 a, .int .i64 b, .int .i32 n], .int .u32 x, .bool raw, .agg A, .int .u32 v] w fun e w' => e = .returned (.bool true) ∧ Below w.heap.size w w' := by
  have hyb := rfEnc_bd h0 h1 h2 h3 h4
  obtain ⟨y, hy⟩ : ∃ y, rfEnc_0 op d a b n = y := ⟨_, rfl⟩
  obtain ⟨ok, hok⟩ : ∃ ok, rfEnc_1 op d a b n = ok := ⟨_, rfl⟩
  rw [hy] at hyb
  rw [hok] at hok1
  subst hok1
  subst hraw
  obtain ⟨r0, hr0⟩ : ∃ r, rs.getD 0 0 = r := ⟨_, rfl⟩
  obtain ⟨q, hq⟩ : ∃ q, bits .andNot .u32 r0 3 = q := ⟨_, rfl⟩
  have hq0 : 0 ≤ q := by rw [← hq]; exact and_bd _ _
  rw [hr0, hq] at ea
  have ea2 : q.tmod 32768 = at_ := by rw [Int.tmod_eq_emod_of_nonneg hq0]; exact ea
  have hat : 0 ≤ at_ ∧ at_ ≤ 4294967295 := by omega
  obtain ⟨cb, hcb⟩ : ∃ c, canB at_ 4 = c := ⟨_, rfl⟩
  obtain ⟨W, hW⟩ : ∃ W, W = (w.alloc (.cells #[.int .i64 op, .int .i64 d, .int .i64 a, .int .i64 b, .int .i32 n] 39)).alloc (.cells A 48) := ⟨_, rfl⟩
  have hzW : W.heap.size = w.heap.size + 2 := by rw [hW, World.size_alloc, World.size_alloc]
  have hbW : Below w.heap.size w W := by rw [hW]; exact ((Below.refl _ _).alloc (Nat.le_refl _) _).alloc (by rw [World.size_alloc]; omega) _
  have rw0 : W.heap[w.heap.size]? = some (.cells #[.int .i64 op, .int .i64 d, .int .i64 a, .int .i64 b, .int .i32 n] 39 (0, 0)) := by rw [hW]; exact heap_alloc2_old _ _ _
  have rw1 : W.heap[w.heap.size + 1]? = some (.cells A 48 (0, 0)) := by rw [hW]; exact heap_alloc2_new _ _ _
  have HI : Hid ((Try.prog.info? 48).map (·.size) = some A.size) := Lib.hid (by rw [hA.1]; kernel_rfl)
  have HW := Lib.hid hW; have HZ := Lib.hid hzW; have HBW := Lib.hid hbW; have R0 := Lib.hid rw0; have R1 := Lib.hid rw1
  have HY := Lib.hid hy; have HOK := Lib.hid hok; have HA := Lib.hid hA; have HR := Lib.hid hr; have HYB := Lib.hid hyb; have QX := Lib.hid qx; have QV := Lib.hid qv; have HAT := Lib.hid hat; have HCB := Lib.hid hcb; have HR0 := Lib.hid hr0
  have GB : Hid (Good (bothS [y] rs 1024)) := Lib.hid (bothS_good hr (by decide))
  have H5 := Lib.hid (And.intro h0 (And.intro h1 (And.intro h2 (And.intro h3 h4))))
  clear hW hzW hbW rw0 rw1 hy hok hA hr hyb qx qv hcb hr0 h0 h1 h2 h3 h4 hq0 hat
  obtain ⟨S, hS⟩ : ∃ S, S = stM (bothS [y] rs 1024) at_ 4 v := ⟨_, rfl⟩
  obtain ⟨S0', hS0⟩ : ∃ S, S = bothS [y] rs 1024 := ⟨_, rfl⟩
  rw [← hS0] at GB hS
  have GS : Hid (Good S) := Lib.hid (by rw [hS]; exact stM_good GB.out _ _ _)
  have GT : Hid (Good (hstep S).2) := Lib.hid (hstep_good GS.out).1
  obtain ⟨kk, hkk⟩ : ∃ k, (hstep S).1 = k := ⟨_, rfl⟩
  have HKK := Lib.hid hkk; have HS := Lib.hid hS; have HS0 := Lib.hid hS0; clear hkk hS hS0
  go_enter Try.func6, Try.ntmps6
  go_wp2_with (first
    | (go_at_call 17; refine (law_memory _ hb mb rb nb _ _ T7.out.h T7.out.r GT.out GT.out rfl).mono ?_; rintro e v8 ⟨rfl, hB⟩; have B8 := Lib.hid hB; clear hB)
    | (go_at_call 27; refine (law_alike _ hb mb rb nb _ T6.out.h T6.out.r GT.out).mono ?_; rintro e v7 ⟨rfl, hB⟩; have T7 := Lib.hid (T6.out.below hB); have B7 := Lib.hid hB; clear hB)
    | (go_at_call 26; refine (ref_Step _ _ nb S r5 GS.out).mono ?_; rw [HKK.out]; rintro e v6 ⟨rfl, hM⟩; have t6 := T5.out.rm hM; have M6 := Lib.hid hM; have T6 := Lib.hid t6; clear hM t6)
    | (go_at_call 20; refine (host_Step _ _ mb S h4 GS.out).mono ?_; rw [HKK.out]; rintro e v5 ⟨rfl, hM⟩; have t5 := T4.out.hm hM; have r5 := t5.r; have M5 := Lib.hid hM; have T5 := Lib.hid t5; clear hM t5)
    | (go_at_call 14; refine (ref_Store _ _ nb _ r3 at_ 4 v HAT.out.1 HAT.out.2 QV.out.1 QV.out.2 (by decide) (by decide)).mono ?_; rw [HCB.out, ← HS.out]; rintro e v4 ⟨rfl, hM⟩; have t4 := T3.out.rm hM; have h4 := t4.h; have M4 := Lib.hid hM; have T4 := Lib.hid t4; clear hM t4)
    | (go_at_call 13; refine (sto_is _ _ mb _ h2 (a := at_) (n := 4) (v := v) (b := cb) HAT.out QV.out HCB.out HS.out.symm).mono ?_; rintro e v3 ⟨rfl, hM⟩; have t3 := T2.out.hm hM; have r3 := t3.r; have M3 := Lib.hid hM; have T3 := Lib.hid t3; clear hM t3)
    | (go_at_call 25; refine (law_both _ _ [y] rs A (wds_one HYB.out) (show 1 ≤ 40 by decide) HA.out HR.out 1024 (by decide)).mono ?_; rw [← HS0.out]; rintro e v2 ⟨hb, mb, rb, nb, rfl, hT, hB, f1, f2, f3, f4⟩; have z1 := World.size_alloc v1 (.cells #[.int .u32 y] 28); have hB2 := alloc_thenT hB; have t2 := row_keep T1.out hB2 (by have := B0.out.size; have := B1.out.size; have := HZ.out; omega); have cr : v2.cell? ⟨w.heap.size + 1, 0, none⟩ = some (.int .u32 r0) := (by rw [← HR0.out]; exact cell_of_row t2 (HA.out.2 0 (by decide))); have F4 : Hid (Four v1.heap.size hb mb rb nb) := Lib.hid ⟨by omega, by omega, by omega, by omega⟩; have B2 := Lib.hid hB2; have T2 := Lib.hid hT; have h2 := hT.h; clear hB hB2 hT f1 f2 f3 f4 z1 t2)
    | (refine wpList_load_row rfl 48 (.tmp 8) rfl (w.heap.size + 1) rfl _ A (0, 0) _ ((heap_alloc_old _ _ (by have := B0.out.size; have := B1.out.size; have := HZ.out; omega)).trans T1.out) Try.underlying48 rfl HI.out ?_)
    | (go_at_call 18; refine (ref_Encode op d a b n H5.out.1 H5.out.2.1 H5.out.2.2.1 H5.out.2.2.2.1 H5.out.2.2.2.2 _).mono ?_; rw [HY.out, HOK.out]; rintro e v1 ⟨rfl, hB⟩; have t1 := row_keep S1.out hB (by have := B0.out.size; have := HZ.out; omega); have T1 := Lib.hid t1; have B1 := Lib.hid hB; clear hB t1)
    | (go_at_call 10; rw [← HW.out]; (with_reducible refine (law_known _).mono ?_); rintro e v0 ⟨rfl, hB⟩; have s0 := row_keep R0.out hB (by have := HZ.out; omega); have s1 := row_keep R1.out hB (by have := HZ.out; omega); have k0 : v0.cell? ⟨w.heap.size, 0, none⟩ = some (.int .i64 op) := cell_of_row s0 rfl; have k1 : v0.cell? ⟨w.heap.size, 1, none⟩ = some (.int .i64 d) := cell_of_row s0 rfl; have k2 : v0.cell? ⟨w.heap.size, 2, none⟩ = some (.int .i64 a) := cell_of_row s0 rfl; have k3 : v0.cell? ⟨w.heap.size, 3, none⟩ = some (.int .i64 b) := cell_of_row s0 rfl; have k4 : v0.cell? ⟨w.heap.size, 4, none⟩ = some (.int .i32 n) := cell_of_row s0 rfl; have S1 := Lib.hid s1; have B0 := Lib.hid hB; clear hB s0 s1))
  go_ret
  have k2 : Below w.heap.size w v2 := HBW.out.trans ((B0.out.mono HBW.out.size).trans ((B1.out.mono (Nat.le_trans HBW.out.size B0.out.size)).trans (B2.out.mono (Nat.le_trans HBW.out.size (Nat.le_trans B0.out.size B1.out.size)))))
  have hz := Nat.le_trans HBW.out.size (Nat.le_trans B0.out.size B1.out.size)
  have f4 : Four w.heap.size hb mb rb nb := ⟨Nat.le_trans hz F4.out.1, Nat.le_trans hz F4.out.2.1, Nat.le_trans hz F4.out.2.2.1, Nat.le_trans hz F4.out.2.2.2⟩
  have k3 := below_mk k2 f4 k2.size M3.out.turn
  have k4 := below_mr k3 f4 k3.size M4.out.turn
  have k5 := below_mk k4 f4 k4.size M5.out.turn
  have k6 := below_mr k5 f4 k5.size M6.out.turn
  have k7 := k6.trans (B7.out.mono k6.size)
  exact ⟨rfl, k7.trans (B8.out.mono k7.size)⟩

set_option maxHeartbeats 4000000 in
set_option maxRecDepth 100000 in
theorem steps_km (op d a b n x : Int) (raw : Bool) (A : Array Value) (rs : List Int) (v : Int) (h0 : IntKind.has .i64 op) (h1 : IntKind.has .i64 d) (h2 : IntKind.has .i64 a) (h3 : IntKind.has .i64 b) (h4 : IntKind.has .i32 n) (qx : 0 ≤ x ∧ x ≤ 4294967295) (qv : 0 ≤ v ∧ v ≤ 4294967295) (hA : A.size = 31 ∧ ∀ j, j < 31 → A[j]? = some (.int .u32 (rs.getD j 0))) (hr : ∀ x ∈ rs, 0 ≤ x ∧ x ≤ 4294967295) (hraw : raw = false) (hok1 : rfEnc_1 op d a b n = true) (at_ : Int) (ea : (bits .andNot .u32 (rs.getD 0 0) 3) % 32768 = at_) (hc0 : ¬ at_ < 1024) (hc : ¬ 1028 ≤ at_) (w : World) :
    Calls Try.prog 6 #[.agg #[.int .i64 op, .int .i64 d, .int .i64 a, .int .i64 b, .int .i32 n], .int .u32 x, .bool raw, .agg A, .int .u32 v] w fun e w' => e = .returned (.bool true) ∧ Below w.heap.size w w' := by
  have hyb := rfEnc_bd h0 h1 h2 h3 h4
  obtain ⟨y, hy⟩ : ∃ y, rfEnc_0 op d a b n = y := ⟨_, rfl⟩
  obtain ⟨ok, hok⟩ : ∃ ok, rfEnc_1 op d a b n = ok := ⟨_, rfl⟩
  rw [hy] at hyb
  rw [hok] at hok1
  subst hok1
  subst hraw
  obtain ⟨r0, hr0⟩ : ∃ r, rs.getD 0 0 = r := ⟨_, rfl⟩
  obtain ⟨q, hq⟩ : ∃ q, bits .andNot .u32 r0 3 = q := ⟨_, rfl⟩
  have hq0 : 0 ≤ q := by rw [← hq]; exact and_bd _ _
  rw [hr0, hq] at ea
  have ea2 : q.tmod 32768 = at_ := by rw [Int.tmod_eq_emod_of_nonneg hq0]; exact ea
  have hat : 0 ≤ at_ ∧ at_ ≤ 4294967295 := by omega
  obtain ⟨cb, hcb⟩ : ∃ c, canB at_ 4 = c := ⟨_, rfl⟩
  obtain ⟨W, hW⟩ : ∃ W, W = (w.alloc (.cells #[.int .i64 op, .int .i64 d, .int .i64 a, .int .i64 b, .int .i32 n] 39)).alloc (.cells A 48) := ⟨_, rfl⟩
  have hzW : W.heap.size = w.heap.size + 2 := by rw [hW, World.size_alloc, World.size_alloc]
  have hbW : Below w.heap.size w W := by rw [hW]; exact ((Below.refl _ _).alloc (Nat.le_refl _) _).alloc (by rw [World.size_alloc]; omega) _
  have rw0 : W.heap[w.heap.size]? = some (.cells #[.int .i64 op, .int .i64 d, .int .i64 a, .int .i64 b, .int .i32 n] 39 (0, 0)) := by rw [hW]; exact heap_alloc2_old _ _ _
  have rw1 : W.heap[w.heap.size + 1]? = some (.cells A 48 (0, 0)) := by rw [hW]; exact heap_alloc2_new _ _ _
  have HI : Hid ((Try.prog.info? 48).map (·.size) = some A.size) := Lib.hid (by rw [hA.1]; kernel_rfl)
  have HW := Lib.hid hW; have HZ := Lib.hid hzW; have HBW := Lib.hid hbW; have R0 := Lib.hid rw0; have R1 := Lib.hid rw1
  have HY := Lib.hid hy; have HOK := Lib.hid hok; have HA := Lib.hid hA; have HR := Lib.hid hr; have HYB := Lib.hid hyb; have QX := Lib.hid qx; have QV := Lib.hid qv; have HAT := Lib.hid hat; have HCB := Lib.hid hcb; have HR0 := Lib.hid hr0
  have GB : Hid (Good (bothS [y] rs 1024)) := Lib.hid (bothS_good hr (by decide))
  have H5 := Lib.hid (And.intro h0 (And.intro h1 (And.intro h2 (And.intro h3 h4))))
  clear hW hzW hbW rw0 rw1 hy hok hA hr hyb qx qv hcb hr0 h0 h1 h2 h3 h4 hq0 hat
  obtain ⟨S, hS⟩ : ∃ S, S = bothS [y] rs 1024 := ⟨_, rfl⟩
  obtain ⟨S0', hS0⟩ : ∃ S, S = bothS [y] rs 1024 := ⟨_, rfl⟩
  rw [← hS0] at GB hS
  have GS : Hid (Good S) := Lib.hid (by rw [hS]; exact GB.out)
  have GT : Hid (Good (hstep S).2) := Lib.hid (hstep_good GS.out).1
  obtain ⟨kk, hkk⟩ : ∃ k, (hstep S).1 = k := ⟨_, rfl⟩
  have HKK := Lib.hid hkk; have HS := Lib.hid hS; have HS0 := Lib.hid hS0; clear hkk hS hS0
  go_enter Try.func6, Try.ntmps6
  go_wp2_with (first
    | (go_at_call 17; refine (law_memory _ hb mb rb nb _ _ T7.out.h T7.out.r GT.out GT.out rfl).mono ?_; rintro e v8 ⟨rfl, hB⟩; have B8 := Lib.hid hB; clear hB)
    | (go_at_call 27; refine (law_alike _ hb mb rb nb _ T6.out.h T6.out.r GT.out).mono ?_; rintro e v7 ⟨rfl, hB⟩; have T7 := Lib.hid (T6.out.below hB); have B7 := Lib.hid hB; clear hB)
    | (go_at_call 26; refine (ref_Step _ _ nb S r5 GS.out).mono ?_; rw [HKK.out]; rintro e v6 ⟨rfl, hM⟩; have t6 := T5.out.rm hM; have M6 := Lib.hid hM; have T6 := Lib.hid t6; clear hM t6)
    | (go_at_call 20; have h4 : HostAt v2 hb mb S := HS.out.symm ▸ h2; have T4 : Hid (Two v2 hb mb rb nb S S) := Lib.hid (HS.out.symm ▸ T2.out); refine (host_Step _ _ mb S h4 GS.out).mono ?_; rw [HKK.out]; rintro e v5 ⟨rfl, hM⟩; have t5 := T4.out.hm hM; have r5 := t5.r; have M5 := Lib.hid hM; have T5 := Lib.hid t5; clear hM t5)
    | (go_at_call 25; refine (law_both _ _ [y] rs A (wds_one HYB.out) (show 1 ≤ 40 by decide) HA.out HR.out 1024 (by decide)).mono ?_; rw [← HS0.out]; rintro e v2 ⟨hb, mb, rb, nb, rfl, hT, hB, f1, f2, f3, f4⟩; have z1 := World.size_alloc v1 (.cells #[.int .u32 y] 28); have hB2 := alloc_thenT hB; have t2 := row_keep T1.out hB2 (by have := B0.out.size; have := B1.out.size; have := HZ.out; omega); have cr : v2.cell? ⟨w.heap.size + 1, 0, none⟩ = some (.int .u32 r0) := (by rw [← HR0.out]; exact cell_of_row t2 (HA.out.2 0 (by decide))); have F4 : Hid (Four v1.heap.size hb mb rb nb) := Lib.hid ⟨by omega, by omega, by omega, by omega⟩; have B2 := Lib.hid hB2; have T2 := Lib.hid hT; have h2 := hT.h; clear hB hB2 hT f1 f2 f3 f4 z1 t2)
    | (refine wpList_load_row rfl 48 (.tmp 8) rfl (w.heap.size + 1) rfl _ A (0, 0) _ ((heap_alloc_old _ _ (by have := B0.out.size; have := B1.out.size; have := HZ.out; omega)).trans T1.out) Try.underlying48 rfl HI.out ?_)
    | (go_at_call 18; refine (ref_Encode op d a b n H5.out.1 H5.out.2.1 H5.out.2.2.1 H5.out.2.2.2.1 H5.out.2.2.2.2 _).mono ?_; rw [HY.out, HOK.out]; rintro e v1 ⟨rfl, hB⟩; have t1 := row_keep S1.out hB (by have := B0.out.size; have := HZ.out; omega); have T1 := Lib.hid t1; have B1 := Lib.hid hB; clear hB t1)
    | (go_at_call 10; rw [← HW.out]; (with_reducible refine (law_known _).mono ?_); rintro e v0 ⟨rfl, hB⟩; have s0 := row_keep R0.out hB (by have := HZ.out; omega); have s1 := row_keep R1.out hB (by have := HZ.out; omega); have k0 : v0.cell? ⟨w.heap.size, 0, none⟩ = some (.int .i64 op) := cell_of_row s0 rfl; have k1 : v0.cell? ⟨w.heap.size, 1, none⟩ = some (.int .i64 d) := cell_of_row s0 rfl; have k2 : v0.cell? ⟨w.heap.size, 2, none⟩ = some (.int .i64 a) := cell_of_row s0 rfl; have k3 : v0.cell? ⟨w.heap.size, 3, none⟩ = some (.int .i64 b) := cell_of_row s0 rfl; have k4 : v0.cell? ⟨w.heap.size, 4, none⟩ = some (.int .i32 n) := cell_of_row s0 rfl; have S1 := Lib.hid s1; have B0 := Lib.hid hB; clear hB s0 s1))
  go_ret
  have k2 : Below w.heap.size w v2 := HBW.out.trans ((B0.out.mono HBW.out.size).trans ((B1.out.mono (Nat.le_trans HBW.out.size B0.out.size)).trans (B2.out.mono (Nat.le_trans HBW.out.size (Nat.le_trans B0.out.size B1.out.size)))))
  have hz := Nat.le_trans HBW.out.size (Nat.le_trans B0.out.size B1.out.size)
  have f4 : Four w.heap.size hb mb rb nb := ⟨Nat.le_trans hz F4.out.1, Nat.le_trans hz F4.out.2.1, Nat.le_trans hz F4.out.2.2.1, Nat.le_trans hz F4.out.2.2.2⟩
  have k5 := below_mk k2 f4 k2.size M5.out.turn
  have k6 := below_mr k5 f4 k5.size M6.out.turn
  have k7 := k6.trans (B7.out.mono k6.size)
  exact ⟨rfl, k7.trans (B8.out.mono k7.size)⟩

theorem steps_any (op d a b n x : Int) (raw : Bool) (A : Array Value) (rs : List Int) (v : Int) (h0 : IntKind.has .i64 op) (h1 : IntKind.has .i64 d) (h2 : IntKind.has .i64 a) (h3 : IntKind.has .i64 b) (h4 : IntKind.has .i32 n) (qx : 0 ≤ x ∧ x ≤ 4294967295) (qv : 0 ≤ v ∧ v ≤ 4294967295) (hA : A.size = 31 ∧ ∀ j, j < 31 → A[j]? = some (.int .u32 (rs.getD j 0))) (hr : ∀ x ∈ rs, 0 ≤ x ∧ x ≤ 4294967295) (w : World) :
    Calls Try.prog 6 #[.agg #[.int .i64 op, .int .i64 d, .int .i64 a, .int .i64 b, .int .i32 n], .int .u32 x, .bool raw, .agg A, .int .u32 v] w fun e w' => e = .returned (.bool true) ∧ Below w.heap.size w w' := by
  obtain ⟨at_, ea⟩ : ∃ t, (bits .andNot .u32 (rs.getD 0 0) 3) % 32768 = t := ⟨_, rfl⟩
  obtain ⟨ok, hok⟩ : ∃ t, rfEnc_1 op d a b n = t := ⟨_, rfl⟩
  by_cases c1 : at_ < 1024
  · cases raw with
    | true => exact steps_rl op d a b n x true A rs v h0 h1 h2 h3 h4 qx qv hA hr rfl at_ ea c1 w
    | false =>
      cases ok with
      | false => exact steps_nl op d a b n x false A rs v h0 h1 h2 h3 h4 qx qv hA hr rfl hok at_ ea c1 w
      | true => exact steps_kl op d a b n x false A rs v h0 h1 h2 h3 h4 qx qv hA hr rfl hok at_ ea c1 w
  · by_cases c2 : 1028 ≤ at_
    · cases raw with
      | true => exact steps_rh op d a b n x true A rs v h0 h1 h2 h3 h4 qx qv hA hr rfl at_ ea c1 c2 w
      | false =>
        cases ok with
        | false => exact steps_nh op d a b n x false A rs v h0 h1 h2 h3 h4 qx qv hA hr rfl hok at_ ea c1 c2 w
        | true => exact steps_kh op d a b n x false A rs v h0 h1 h2 h3 h4 qx qv hA hr rfl hok at_ ea c1 c2 w
    · cases raw with
      | true => exact steps_rm op d a b n x true A rs v h0 h1 h2 h3 h4 qx qv hA hr rfl at_ ea c1 c2 w
      | false =>
        cases ok with
        | false => exact steps_nm op d a b n x false A rs v h0 h1 h2 h3 h4 qx qv hA hr rfl hok at_ ea c1 c2 w
        | true => exact steps_km op d a b n x false A rs v h0 h1 h2 h3 h4 qx qv hA hr rfl hok at_ ea c1 c2 w
theorem arr_of_list (rs : List Int) : (rs.map (fun x => Value.int .u32 x)).toArray.size = rs.length ∧ ∀ j, j < rs.length → (rs.map (fun x => Value.int .u32 x)).toArray[j]? = some (.int .u32 (rs.getD j 0)) := by
  refine ⟨by simp, fun j hj => ?_⟩
  simp [hj]

theorem HostSteps_walk (s0 s1 s2 s3 s4 x : Int) (raw : Bool) (x0 x1 x2 x3 x4 x5 x6 x7 x8 x9 x10 x11 x12 x13 x14 x15 x16 x17 x18 x19 x20 x21 x22 x23 x24 x25 x26 x27 x28 x29 x30 v : Int) (w0 : (-9223372036854775808 ≤ s0 ∧ s0 ≤ 9223372036854775807) ∧ (-9223372036854775808 ≤ s1 ∧ s1 ≤ 9223372036854775807) ∧ (-9223372036854775808 ≤ s2 ∧ s2 ≤ 9223372036854775807) ∧ (-9223372036854775808 ≤ s3 ∧ s3 ≤ 9223372036854775807) ∧ (-2147483648 ≤ s4 ∧ s4 ≤ 2147483647)) (w1 : (Lit.int .u32 x).wf = true) (w3 : (0 ≤ x0 ∧ x0 ≤ 4294967295) ∧ (0 ≤ x1 ∧ x1 ≤ 4294967295) ∧ (0 ≤ x2 ∧ x2 ≤ 4294967295) ∧ (0 ≤ x3 ∧ x3 ≤ 4294967295) ∧ (0 ≤ x4 ∧ x4 ≤ 4294967295) ∧ (0 ≤ x5 ∧ x5 ≤ 4294967295) ∧ (0 ≤ x6 ∧ x6 ≤ 4294967295) ∧ (0 ≤ x7 ∧ x7 ≤ 4294967295) ∧ (0 ≤ x8 ∧ x8 ≤ 4294967295) ∧ (0 ≤ x9 ∧ x9 ≤ 4294967295) ∧ (0 ≤ x10 ∧ x10 ≤ 4294967295) ∧ (0 ≤ x11 ∧ x11 ≤ 4294967295) ∧ (0 ≤ x12 ∧ x12 ≤ 4294967295) ∧ (0 ≤ x13 ∧ x13 ≤ 4294967295) ∧ (0 ≤ x14 ∧ x14 ≤ 4294967295) ∧ (0 ≤ x15 ∧ x15 ≤ 4294967295) ∧ (0 ≤ x16 ∧ x16 ≤ 4294967295) ∧ (0 ≤ x17 ∧ x17 ≤ 4294967295) ∧ (0 ≤ x18 ∧ x18 ≤ 4294967295) ∧ (0 ≤ x19 ∧ x19 ≤ 4294967295) ∧ (0 ≤ x20 ∧ x20 ≤ 4294967295) ∧ (0 ≤ x21 ∧ x21 ≤ 4294967295) ∧ (0 ≤ x22 ∧ x22 ≤ 4294967295) ∧ (0 ≤ x23 ∧ x23 ≤ 4294967295) ∧ (0 ≤ x24 ∧ x24 ≤ 4294967295) ∧ (0 ≤ x25 ∧ x25 ≤ 4294967295) ∧ (0 ≤ x26 ∧ x26 ≤ 4294967295) ∧ (0 ≤ x27 ∧ x27 ≤ 4294967295) ∧ (0 ≤ x28 ∧ x28 ≤ 4294967295) ∧ (0 ≤ x29 ∧ x29 ≤ 4294967295) ∧ (0 ≤ x30 ∧ x30 ≤ 4294967295)) (w4 : (Lit.int .u32 v).wf = true) (w : World) :
    Calls Try.prog 6 #[.agg #[.int .i64 s0, .int .i64 s1, .int .i64 s2, .int .i64 s3, .int .i32 s4], .int .u32 x, .bool raw, .agg #[.int .u32 x0, .int .u32 x1, .int .u32 x2, .int .u32 x3, .int .u32 x4, .int .u32 x5, .int .u32 x6, .int .u32 x7, .int .u32 x8, .int .u32 x9, .int .u32 x10, .int .u32 x11, .int .u32 x12, .int .u32 x13, .int .u32 x14, .int .u32 x15, .int .u32 x16, .int .u32 x17, .int .u32 x18, .int .u32 x19, .int .u32 x20, .int .u32 x21, .int .u32 x22, .int .u32 x23, .int .u32 x24, .int .u32 x25, .int .u32 x26, .int .u32 x27, .int .u32 x28, .int .u32 x29, .int .u32 x30], .int .u32 v] w fun e w' => e = .returned (.bool true) ∧ Below w.heap.size w w' := by
  have q1 : 0 ≤ x ∧ x ≤ 4294967295 := by simpa [Lit.wf, IntKind.min, IntKind.max, IntKind.bits, IntKind.signed] using w1
  have q4 : 0 ≤ v ∧ v ≤ 4294967295 := by simpa [Lit.wf, IntKind.min, IntKind.max, IntKind.bits, IntKind.signed] using w4
  obtain ⟨b0, b1, b2, b3, b4⟩ := w0
  have hr : ∀ y ∈ [x0, x1, x2, x3, x4, x5, x6, x7, x8, x9, x10, x11, x12, x13, x14, x15, x16, x17, x18, x19, x20, x21, x22, x23, x24, x25, x26, x27, x28, x29, x30], 0 ≤ y ∧ y ≤ 4294967295 := by
    exact (List.forall_mem_cons.2 ⟨w3.1, (List.forall_mem_cons.2 ⟨w3.2.1, (List.forall_mem_cons.2 ⟨w3.2.2.1, (List.forall_mem_cons.2 ⟨w3.2.2.2.1, (List.forall_mem_cons.2 ⟨w3.2.2.2.2.1, (List.forall_mem_cons.2 ⟨w3.2.2.2.2.2.1, (List.forall_mem_cons.2 ⟨w3.2.2.2.2.2.2.1, (List.forall_mem_cons.2 ⟨w3.2.2.2.2.2.2.2.1, (List.forall_mem_cons.2 ⟨w3.2.2.2.2.2.2.2.2.1, (List.forall_mem_cons.2 ⟨w3.2.2.2.2.2.2.2.2.2.1, (List.forall_mem_cons.2 ⟨w3.2.2.2.2.2.2.2.2.2.2.1, (List.forall_mem_cons.2 ⟨w3.2.2.2.2.2.2.2.2.2.2.2.1, (List.forall_mem_cons.2 ⟨w3.2.2.2.2.2.2.2.2.2.2.2.2.1, (List.forall_mem_cons.2 ⟨w3.2.2.2.2.2.2.2.2.2.2.2.2.2.1, (List.forall_mem_cons.2 ⟨w3.2.2.2.2.2.2.2.2.2.2.2.2.2.2.1, (List.forall_mem_cons.2 ⟨w3.2.2.2.2.2.2.2.2.2.2.2.2.2.2.2.1, (List.forall_mem_cons.2 ⟨w3.2.2.2.2.2.2.2.2.2.2.2.2.2.2.2.2.1, (List.forall_mem_cons.2 ⟨w3.2.2.2.2.2.2.2.2.2.2.2.2.2.2.2.2.2.1, (List.forall_mem_cons.2 ⟨w3.2.2.2.2.2.2.2.2.2.2.2.2.2.2.2.2.2.2.1, (List.forall_mem_cons.2 ⟨w3.2.2.2.2.2.2.2.2.2.2.2.2.2.2.2.2.2.2.2.1, (List.forall_mem_cons.2 ⟨w3.2.2.2.2.2.2.2.2.2.2.2.2.2.2.2.2.2.2.2.2.1, (List.forall_mem_cons.2 ⟨w3.2.2.2.2.2.2.2.2.2.2.2.2.2.2.2.2.2.2.2.2.2.1, (List.forall_mem_cons.2 ⟨w3.2.2.2.2.2.2.2.2.2.2.2.2.2.2.2.2.2.2.2.2.2.2.1, (List.forall_mem_cons.2 ⟨w3.2.2.2.2.2.2.2.2.2.2.2.2.2.2.2.2.2.2.2.2.2.2.2.1, (List.forall_mem_cons.2 ⟨w3.2.2.2.2.2.2.2.2.2.2.2.2.2.2.2.2.2.2.2.2.2.2.2.2.1, (List.forall_mem_cons.2 ⟨w3.2.2.2.2.2.2.2.2.2.2.2.2.2.2.2.2.2.2.2.2.2.2.2.2.2.1, (List.forall_mem_cons.2 ⟨w3.2.2.2.2.2.2.2.2.2.2.2.2.2.2.2.2.2.2.2.2.2.2.2.2.2.2.1, (List.forall_mem_cons.2 ⟨w3.2.2.2.2.2.2.2.2.2.2.2.2.2.2.2.2.2.2.2.2.2.2.2.2.2.2.2.1, (List.forall_mem_cons.2 ⟨w3.2.2.2.2.2.2.2.2.2.2.2.2.2.2.2.2.2.2.2.2.2.2.2.2.2.2.2.2.1, (List.forall_mem_cons.2 ⟨w3.2.2.2.2.2.2.2.2.2.2.2.2.2.2.2.2.2.2.2.2.2.2.2.2.2.2.2.2.2.1, (List.forall_mem_cons.2 ⟨w3.2.2.2.2.2.2.2.2.2.2.2.2.2.2.2.2.2.2.2.2.2.2.2.2.2.2.2.2.2.2, (fun _ h => by cases h)⟩)⟩)⟩)⟩)⟩)⟩)⟩)⟩)⟩)⟩)⟩)⟩)⟩)⟩)⟩)⟩)⟩)⟩)⟩)⟩)⟩)⟩)⟩)⟩)⟩)⟩)⟩)⟩)⟩)⟩)⟩)
  exact steps_any s0 s1 s2 s3 s4 x raw _ [x0, x1, x2, x3, x4, x5, x6, x7, x8, x9, x10, x11, x12, x13, x14, x15, x16, x17, x18, x19, x20, x21, x22, x23, x24, x25, x26, x27, x28, x29, x30] v b0 b1 b2 b3 b4 q1 q4 (arr_of_list [x0, x1, x2, x3, x4, x5, x6, x7, x8, x9, x10, x11, x12, x13, x14, x15, x16, x17, x18, x19, x20, x21, x22, x23, x24, x25, x26, x27, x28, x29, x30]) hr w

end Go.Proofs.Ytpclikbjpjoccaa
