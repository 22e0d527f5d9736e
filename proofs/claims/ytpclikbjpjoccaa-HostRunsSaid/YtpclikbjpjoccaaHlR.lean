/-
  HostRuns: the walk. Printed by gen/hostruns.py.
-/
import Derived.Test.YtpclikbjpjoccaaHlB
import Derived.Test.YtpclikbjpjoccaaHlC
import Derived.Test.YtpclikbjpjoccaaHrI
namespace Go.Proofs.Ytpclikbjpjoccaa
open Go Go.RowKit Go.Sx
set_option linter.unusedVariables false
set_option linter.unusedSimpArgs false

/-- both hosts, and a copy of the first -/
structure Three (w : World) (hb mb rb nb cb cm : Nat) (S T U : HS) : Prop where
  two : Two w hb mb rb nb S T
  c : HostAt w cb cm U
  o1 : ¬ Own hb mb cb ∧ ¬ Own hb mb cm
  o2 : ¬ Own rb nb cb ∧ ¬ Own rb nb cm
  o3 : ¬ Own cb cm hb ∧ ¬ Own cb cm mb ∧ ¬ Own cb cm rb ∧ ¬ Own cb cm nb
section
variable {w w' : World} {hb mb rb nb cb cm : Nat} {S S' T T' U U' : HS}
theorem Three.hm (k : Three w hb mb rb nb cb cm S T U) (m : Makes w hb mb S' w') : Three w' hb mb rb nb cb cm S' T U := ⟨k.two.hm m, k.c.keep m.turn k.o1.1 k.o1.2, k.o1, k.o2, k.o3⟩
theorem Three.rm (k : Three w hb mb rb nb cb cm S T U) (m : MakesR w rb nb T' w') : Three w' hb mb rb nb cb cm S T' U := ⟨k.two.rm m, k.c.keep m.turn k.o2.1 k.o2.2, k.o1, k.o2, k.o3⟩
theorem Three.copy (k : Three w hb mb rb nb cb cm S T U) (m : Makes w cb cm U' w') : Three w' hb mb rb nb cb cm S T U' :=
  ⟨⟨k.two.h.keep m.turn k.o3.1 k.o3.2.1, k.two.r.keep m.turn k.o3.2.2.1 k.o3.2.2.2, k.two.a1, k.two.a2, k.two.a3, k.two.a4⟩, m.at_, k.o1, k.o2, k.o3⟩
theorem Three.below (k : Three w hb mb rb nb cb cm S T U) (b : Below w.heap.size w w') : Three w' hb mb rb nb cb cm S T U := ⟨k.two.below b, k.c.below b, k.o1, k.o2, k.o3⟩
end
theorem three_mk {w w' : World} {hb mb rb nb cb cm : Nat} {S T U : HS} (k : Two w hb mb rb nb S T) (b : Below w.heap.size w w') (c : HostAt w' cb cm U) (h1 : w.heap.size ≤ cb) (h2 : w.heap.size ≤ cm) : Three w' hb mb rb nb cb cm S T U := by
  have l1 := k.h.h.lt; have l2 := k.h.m.lt; have l3 := k.r.h.lt; have l4 := k.r.m.lt
  refine ⟨k.below b, c, ⟨fun e => ?_, fun e => ?_⟩, ⟨fun e => ?_, fun e => ?_⟩, ⟨fun e => ?_, fun e => ?_, fun e => ?_, fun e => ?_⟩⟩ <;> (rcases e with e | e <;> omega)

theorem rrun_is (w : World) (hb mb : Nat) (S : HS) (hH : RefAt w hb mb S) (hG : Good S) {f k c : Int} {n : Nat} {S' : HS} (hf : I64 f) (h : hrun (fuelN f) S = (k, n, S') ∧ (n : Int) = c) :
    Calls Try.prog 30 #[.pointer (some ⟨hb, 0, none⟩), .int .i64 f] w fun e w' => e = .returned (.tuple #[.int .i64 k, .int .i64 c]) ∧ MakesR w hb mb S' w' := by
  have := ref_Run w hb mb S hH hG f hf; rw [h.1] at this; rw [← h.2]; exact this

set_option maxHeartbeats 4000000 in
set_option maxRecDepth 100000 in
theorem runs_main (w : World) (a : Option Addr) (cap : Nat) (ws rs : List Int) (A : Array Value) (pc f : Int) (hv : Wds w (.slice a ws.length cap) ws) (hl : ws.length ≤ 40) (hA : A.size = 31 ∧ ∀ j, j < 31 → A[j]? = some (.int .u32 (rs.getD j 0))) (hr : ∀ x ∈ rs, 0 ≤ x ∧ x ≤ 4294967295) (hp : 0 ≤ pc ∧ pc ≤ 4294967295) (hf : I64 f) (hf3 : f ≤ 300) :
    Calls Try.prog 9 #[.slice a ws.length cap, .agg A, .int .u32 pc, .int .i64 f] w fun e w' => e = .returned (.bool true) ∧ Below w.heap.size w w' := by
  obtain ⟨W, hW⟩ : ∃ W, W = w.alloc (.cells A 48) := ⟨_, rfl⟩
  have hzW : W.heap.size = w.heap.size + 1 := by rw [hW, World.size_alloc]
  have hbW : Below w.heap.size w W := by rw [hW]; exact (Below.refl _ _).alloc (Nat.le_refl _) _
  have rw1 : W.heap[w.heap.size]? = some (.cells A 48 (0, 0)) := by rw [hW]; exact heap_alloc_new _ _
  have HI : Hid ((Try.prog.info? 48).map (·.size) = some A.size) := Lib.hid (by rw [hA.1]; kernel_rfl)
  have l40 : (ws.length : Int) ≤ 40 := by omega
  have n40 : ¬ ((ws.length : Int) > 40) := by omega
  have n300 : ¬ (f > 300) := by omega
  obtain ⟨S, hS⟩ : ∃ S, S = bothS ws rs pc := ⟨_, rfl⟩
  have GS : Hid (Good S) := Lib.hid (by rw [hS]; exact bothS_good hr hp)
  obtain ⟨k, n, S', hru⟩ : ∃ k n S', hrun (fuelN f) S = (k, n, S') := ⟨_, _, _, rfl⟩
  have GT : Hid (Good S') := Lib.hid (by have := (hrun_bd (fuelN f) GS.out).1; rw [hru] at this; exact this)
  obtain ⟨c, hc⟩ : ∃ c : Int, (n : Int) = c := ⟨_, rfl⟩
  have HRUN : Hid (hrun (fuelN f) S = (k, n, S') ∧ (n : Int) = c) := Lib.hid ⟨hru, hc⟩
  have I5 : Hid (I64 5) := Lib.hid ⟨by decide, by decide⟩
  have HC0 : Hid (canB 0 4 = true) := Lib.hid (by decide)
  have HW := Lib.hid hW; have HZ := Lib.hid hzW; have HBW := Lib.hid hbW; have R1 := Lib.hid rw1
  have HV := Lib.hid hv; have HL := Lib.hid hl; have HA := Lib.hid hA; have HR := Lib.hid hr; have HP := Lib.hid hp; have HF := Lib.hid hf; have HS := Lib.hid hS
  clear hW hzW hbW rw1 hv hl hA hr hp hf hS hru hc
  go_enter Try.func9, Try.ntmps9
  go_wp2_with (first
    | (go_at_call 17; (with_reducible refine (law_memory _ cb cm rb nb _ _ T11.out.c T11.out.two.r GT.out GT.out rfl).mono ?_); rintro e v12 ⟨rfl, hB⟩; have B12 := Lib.hid hB; clear hB)
    | (go_at_call 27; (with_reducible refine (law_alike _ cb cm rb nb _ T10.out.c T10.out.two.r GT.out).mono ?_); rintro e v11 ⟨rfl, hB⟩; have t11 := T10.out.below hB; have B11 := Lib.hid hB; have T11 := Lib.hid t11; clear hB t11)
    | (go_at_call 28; (with_reducible refine (run_is _ _ cm _ c9 GS.out HF.out HRUN.out).mono ?_); rintro e v10 ⟨rfl, hM⟩; have t10 := T9.out.copy hM; have M10 := Lib.hid hM; have T10 := Lib.hid t10; clear hM t10)
    | (go_at_call 13; (with_reducible refine (sto_is _ _ mb _ h8 (a := 0) (n := 4) (v := 77) (b := true) (by decide) (by decide) HC0.out rfl).mono ?_); rintro e v9 ⟨rfl, hM⟩; have t9 := T8.out.hm hM; have c9 := t9.c; have M9 := Lib.hid hM; have T9 := Lib.hid t9; clear hM t9)
    | (go_at_call 19; (with_reducible refine (sx_is _ _ mb _ h7 (i := 5) (v := 99) I5.out rfl).mono ?_); rintro e v8 ⟨rfl, hM⟩; have t8 := T7.out.hm hM; have h8 := t8.two.h; have M8 := Lib.hid hM; have T8 := Lib.hid t8; clear hM t8)
    | (go_at_call 17; (with_reducible refine (law_memory _ hb mb rb nb _ _ T6.out.two.h T6.out.two.r GT.out GT.out rfl).mono ?_); rintro e v7 ⟨rfl, hB⟩; have t7 := T6.out.below hB; have h7 := t7.two.h; have B7 := Lib.hid hB; have T7 := Lib.hid t7; clear hB t7)
    | (go_at_call 27; (with_reducible refine (law_alike _ hb mb rb nb _ T5.out.two.h T5.out.two.r GT.out).mono ?_); rintro e v6 ⟨rfl, hB⟩; have t6 := T5.out.below hB; have B6 := Lib.hid hB; have T6 := Lib.hid t6; clear hB t6)
    | (go_at_call 30; (with_reducible refine (rrun_is _ _ nb _ r4 GS.out HF.out HRUN.out).mono ?_); rintro e v5 ⟨rfl, hM⟩; have t5 := T4.out.rm hM; have M5 := Lib.hid hM; have T5 := Lib.hid t5; clear hM t5)
    | (go_at_call 28; (with_reducible refine (run_is _ _ mb _ h3 GS.out HF.out HRUN.out).mono ?_); rintro e v4 ⟨rfl, hM⟩; have t4 := T3.out.hm hM; have r4 := t4.two.r; have M4 := Lib.hid hM; have T4 := Lib.hid t4; clear hM t4)
    | (go_at_call 29; (with_reducible refine (host_Copy _ _ mb _ h2).mono ?_); rintro e v3 ⟨cb, cm, rfl, hC, hB, g1, g2⟩; have t3 := three_mk T2.out hB hC g1 g2; have h3 := t3.two.h; have B3 := Lib.hid hB; have T3 := Lib.hid t3; have G3 : Hid (v2.heap.size ≤ cb ∧ v2.heap.size ≤ cm) := Lib.hid ⟨g1, g2⟩; clear hB hC g1 g2 t3)
    | (go_at_call 25; (with_reducible refine (law_both _ _ ws rs A (HV.out.below (below_trans HBW.out B0.out)) HL.out HA.out HR.out pc HP.out).mono ?_); rw [← HS.out]; rintro e v2 ⟨hb, mb, rb, nb, rfl, hT, hB, f1, f2, f3, f4⟩; have B2 := Lib.hid hB; have T2 := Lib.hid hT; have h2 := hT.h; have F4 : Hid (Four v0.heap.size hb mb rb nb) := Lib.hid ⟨f1, f2, f3, f4⟩; clear hB hT f1 f2 f3 f4)
    | (refine wpList_load_row rfl 48 _ rfl w.heap.size rfl _ A (0, 0) _ S1.out Try.underlying48 rfl HI.out ?_)
    | (go_at_call 10; rw [← HW.out]; (with_reducible refine (law_known _).mono ?_); rintro e v0 ⟨rfl, hB⟩; have B0 := Lib.hid hB; have s1 := (hB.block w.heap.size (by have := HZ.out; omega)).trans R1.out; have S1 := Lib.hid s1; clear hB s1))
  go_ret
  have z0 := HBW.out.size; have z1 := B0.out.size; have z2 := B2.out.size; have z3 := B3.out.size; have z4 := M4.out.turn.size; have z5 := M5.out.turn.size; have z6 := B6.out.size; have z7 := B7.out.size; have z8 := M8.out.turn.size; have z9 := M9.out.turn.size; have z10 := M10.out.turn.size; have z11 := B11.out.size
  obtain ⟨f1, f2, f3, f4⟩ := F4.out
  obtain ⟨g1, g2⟩ := G3.out
  exact ⟨rfl, HBW.out.trans ((B0.out.mono z0).trans ((B2.out.mono (by omega)).trans ((B3.out.mono (by omega)).trans ((own_above M4.out.turn (by omega) (by omega) (by omega)).trans ((own_above M5.out.turn (by omega) (by omega) (by omega)).trans ((B6.out.mono (by omega)).trans ((B7.out.mono (by omega)).trans ((own_above M8.out.turn (by omega) (by omega) (by omega)).trans ((own_above M9.out.turn (by omega) (by omega) (by omega)).trans ((own_above M10.out.turn (by omega) (by omega) (by omega)).trans ((B11.out.mono (by omega)).trans (B12.out.mono (by omega)))))))))))))⟩

set_option maxHeartbeats 2000000 in
set_option maxRecDepth 100000 in
theorem runs_long (w : World) (a : Option Addr) (cap n : Nat) (A : Array Value) (pc f : Int) (hl : 40 < n) (hA : A.size = 31) :
    Calls Try.prog 9 #[.slice a n cap, .agg A, .int .u32 pc, .int .i64 f] w fun e w' => e = .returned (.bool true) ∧ Below w.heap.size w w' := by
  have l40 : (40 : Int) < (n : Int) := by omega
  have hbW : Below w.heap.size w (w.alloc (.cells A 48)) := (Below.refl _ _).alloc (Nat.le_refl _) _
  have HBW := Lib.hid hbW
  clear hl hbW
  go_enter Try.func9, Try.ntmps9
  go_wp2_with (go_at_call 10; (with_reducible refine (law_known _).mono ?_); rintro e v0 ⟨rfl, hB⟩; have B0 := Lib.hid hB; clear hB)
  go_ret
  exact ⟨rfl, below_trans HBW.out B0.out⟩

set_option maxHeartbeats 2000000 in
set_option maxRecDepth 100000 in
theorem runs_fuel (w : World) (a : Option Addr) (cap n : Nat) (A : Array Value) (pc f : Int) (hl : n ≤ 40) (hf : 300 < f) :
    Calls Try.prog 9 #[.slice a n cap, .agg A, .int .u32 pc, .int .i64 f] w fun e w' => e = .returned (.bool true) ∧ Below w.heap.size w w' := by
  have l40 : (n : Int) ≤ 40 := by omega
  have n40 : ¬ ((n : Int) > 40) := by omega
  have hbW : Below w.heap.size w (w.alloc (.cells A 48)) := (Below.refl _ _).alloc (Nat.le_refl _) _
  have HBW := Lib.hid hbW
  clear hl hbW
  go_enter Try.func9, Try.ntmps9
  go_wp2_with (go_at_call 10; (with_reducible refine (law_known _).mono ?_); rintro e v0 ⟨rfl, hB⟩; have B0 := Lib.hid hB; clear hB)
  go_ret
  exact ⟨rfl, below_trans HBW.out B0.out⟩

theorem arr_of_list (rs : List Int) : (rs.map (fun x => Value.int .u32 x)).toArray.size = rs.length ∧ ∀ j, j < rs.length → (rs.map (fun x => Value.int .u32 x)).toArray[j]? = some (.int .u32 (rs.getD j 0)) := by
  refine ⟨by simp, fun j hj => ?_⟩
  simp [hj]

theorem HostRuns_walk (w : World) (v : Value) (ws : List Int) (x0 x1 x2 x3 x4 x5 x6 x7 x8 x9 x10 x11 x12 x13 x14 x15 x16 x17 x18 x19 x20 x21 x22 x23 x24 x25 x26 x27 x28 x29 x30 pc f : Int) (w0 : Wds w v ws) (w1 : (0 ≤ x0 ∧ x0 ≤ 4294967295) ∧ (0 ≤ x1 ∧ x1 ≤ 4294967295) ∧ (0 ≤ x2 ∧ x2 ≤ 4294967295) ∧ (0 ≤ x3 ∧ x3 ≤ 4294967295) ∧ (0 ≤ x4 ∧ x4 ≤ 4294967295) ∧ (0 ≤ x5 ∧ x5 ≤ 4294967295) ∧ (0 ≤ x6 ∧ x6 ≤ 4294967295) ∧ (0 ≤ x7 ∧ x7 ≤ 4294967295) ∧ (0 ≤ x8 ∧ x8 ≤ 4294967295) ∧ (0 ≤ x9 ∧ x9 ≤ 4294967295) ∧ (0 ≤ x10 ∧ x10 ≤ 4294967295) ∧ (0 ≤ x11 ∧ x11 ≤ 4294967295) ∧ (0 ≤ x12 ∧ x12 ≤ 4294967295) ∧ (0 ≤ x13 ∧ x13 ≤ 4294967295) ∧ (0 ≤ x14 ∧ x14 ≤ 4294967295) ∧ (0 ≤ x15 ∧ x15 ≤ 4294967295) ∧ (0 ≤ x16 ∧ x16 ≤ 4294967295) ∧ (0 ≤ x17 ∧ x17 ≤ 4294967295) ∧ (0 ≤ x18 ∧ x18 ≤ 4294967295) ∧ (0 ≤ x19 ∧ x19 ≤ 4294967295) ∧ (0 ≤ x20 ∧ x20 ≤ 4294967295) ∧ (0 ≤ x21 ∧ x21 ≤ 4294967295) ∧ (0 ≤ x22 ∧ x22 ≤ 4294967295) ∧ (0 ≤ x23 ∧ x23 ≤ 4294967295) ∧ (0 ≤ x24 ∧ x24 ≤ 4294967295) ∧ (0 ≤ x25 ∧ x25 ≤ 4294967295) ∧ (0 ≤ x26 ∧ x26 ≤ 4294967295) ∧ (0 ≤ x27 ∧ x27 ≤ 4294967295) ∧ (0 ≤ x28 ∧ x28 ≤ 4294967295) ∧ (0 ≤ x29 ∧ x29 ≤ 4294967295) ∧ (0 ≤ x30 ∧ x30 ≤ 4294967295)) (w2 : (Lit.int .u32 pc).wf = true) (w3 : (Lit.int .i64 f).wf = true) :
    Calls Try.prog 9 #[v, .agg #[.int .u32 x0, .int .u32 x1, .int .u32 x2, .int .u32 x3, .int .u32 x4, .int .u32 x5, .int .u32 x6, .int .u32 x7, .int .u32 x8, .int .u32 x9, .int .u32 x10, .int .u32 x11, .int .u32 x12, .int .u32 x13, .int .u32 x14, .int .u32 x15, .int .u32 x16, .int .u32 x17, .int .u32 x18, .int .u32 x19, .int .u32 x20, .int .u32 x21, .int .u32 x22, .int .u32 x23, .int .u32 x24, .int .u32 x25, .int .u32 x26, .int .u32 x27, .int .u32 x28, .int .u32 x29, .int .u32 x30], .int .u32 pc, .int .i64 f] w fun e w' => e = .returned (.bool true) ∧ Below w.heap.size w w' := by
  have q2 : 0 ≤ pc ∧ pc ≤ 4294967295 := by simpa [Lit.wf, IntKind.min, IntKind.max, IntKind.bits, IntKind.signed] using w2
  have q3 : -9223372036854775808 ≤ f ∧ f ≤ 9223372036854775807 := by simpa [Lit.wf, IntKind.min, IntKind.max, IntKind.bits, IntKind.signed] using w3
  have hr : ∀ y ∈ [x0, x1, x2, x3, x4, x5, x6, x7, x8, x9, x10, x11, x12, x13, x14, x15, x16, x17, x18, x19, x20, x21, x22, x23, x24, x25, x26, x27, x28, x29, x30], 0 ≤ y ∧ y ≤ 4294967295 := (List.forall_mem_cons.2 ⟨w1.1, (List.forall_mem_cons.2 ⟨w1.2.1, (List.forall_mem_cons.2 ⟨w1.2.2.1, (List.forall_mem_cons.2 ⟨w1.2.2.2.1, (List.forall_mem_cons.2 ⟨w1.2.2.2.2.1, (List.forall_mem_cons.2 ⟨w1.2.2.2.2.2.1, (List.forall_mem_cons.2 ⟨w1.2.2.2.2.2.2.1, (List.forall_mem_cons.2 ⟨w1.2.2.2.2.2.2.2.1, (List.forall_mem_cons.2 ⟨w1.2.2.2.2.2.2.2.2.1, (List.forall_mem_cons.2 ⟨w1.2.2.2.2.2.2.2.2.2.1, (List.forall_mem_cons.2 ⟨w1.2.2.2.2.2.2.2.2.2.2.1, (List.forall_mem_cons.2 ⟨w1.2.2.2.2.2.2.2.2.2.2.2.1, (List.forall_mem_cons.2 ⟨w1.2.2.2.2.2.2.2.2.2.2.2.2.1, (List.forall_mem_cons.2 ⟨w1.2.2.2.2.2.2.2.2.2.2.2.2.2.1, (List.forall_mem_cons.2 ⟨w1.2.2.2.2.2.2.2.2.2.2.2.2.2.2.1, (List.forall_mem_cons.2 ⟨w1.2.2.2.2.2.2.2.2.2.2.2.2.2.2.2.1, (List.forall_mem_cons.2 ⟨w1.2.2.2.2.2.2.2.2.2.2.2.2.2.2.2.2.1, (List.forall_mem_cons.2 ⟨w1.2.2.2.2.2.2.2.2.2.2.2.2.2.2.2.2.2.1, (List.forall_mem_cons.2 ⟨w1.2.2.2.2.2.2.2.2.2.2.2.2.2.2.2.2.2.2.1, (List.forall_mem_cons.2 ⟨w1.2.2.2.2.2.2.2.2.2.2.2.2.2.2.2.2.2.2.2.1, (List.forall_mem_cons.2 ⟨w1.2.2.2.2.2.2.2.2.2.2.2.2.2.2.2.2.2.2.2.2.1, (List.forall_mem_cons.2 ⟨w1.2.2.2.2.2.2.2.2.2.2.2.2.2.2.2.2.2.2.2.2.2.1, (List.forall_mem_cons.2 ⟨w1.2.2.2.2.2.2.2.2.2.2.2.2.2.2.2.2.2.2.2.2.2.2.1, (List.forall_mem_cons.2 ⟨w1.2.2.2.2.2.2.2.2.2.2.2.2.2.2.2.2.2.2.2.2.2.2.2.1, (List.forall_mem_cons.2 ⟨w1.2.2.2.2.2.2.2.2.2.2.2.2.2.2.2.2.2.2.2.2.2.2.2.2.1, (List.forall_mem_cons.2 ⟨w1.2.2.2.2.2.2.2.2.2.2.2.2.2.2.2.2.2.2.2.2.2.2.2.2.2.1, (List.forall_mem_cons.2 ⟨w1.2.2.2.2.2.2.2.2.2.2.2.2.2.2.2.2.2.2.2.2.2.2.2.2.2.2.1, (List.forall_mem_cons.2 ⟨w1.2.2.2.2.2.2.2.2.2.2.2.2.2.2.2.2.2.2.2.2.2.2.2.2.2.2.2.1, (List.forall_mem_cons.2 ⟨w1.2.2.2.2.2.2.2.2.2.2.2.2.2.2.2.2.2.2.2.2.2.2.2.2.2.2.2.2.1, (List.forall_mem_cons.2 ⟨w1.2.2.2.2.2.2.2.2.2.2.2.2.2.2.2.2.2.2.2.2.2.2.2.2.2.2.2.2.2.1, (List.forall_mem_cons.2 ⟨w1.2.2.2.2.2.2.2.2.2.2.2.2.2.2.2.2.2.2.2.2.2.2.2.2.2.2.2.2.2.2, (fun y hy => by cases hy)⟩)⟩)⟩)⟩)⟩)⟩)⟩)⟩)⟩)⟩)⟩)⟩)⟩)⟩)⟩)⟩)⟩)⟩)⟩)⟩)⟩)⟩)⟩)⟩)⟩)⟩)⟩)⟩)⟩)⟩)⟩)
  have hv := w0
  obtain ⟨a, cap, rfl, _, _⟩ := w0
  by_cases hl : 40 < ws.length
  · exact runs_long w a cap ws.length _ pc f hl rfl
  · by_cases hf : 300 < f
    · exact runs_fuel w a cap ws.length _ pc f (by omega) hf
    · exact runs_main w a cap ws [x0, x1, x2, x3, x4, x5, x6, x7, x8, x9, x10, x11, x12, x13, x14, x15, x16, x17, x18, x19, x20, x21, x22, x23, x24, x25, x26, x27, x28, x29, x30] _ pc f hv (by omega) (arr_of_list [x0, x1, x2, x3, x4, x5, x6, x7, x8, x9, x10, x11, x12, x13, x14, x15, x16, x17, x18, x19, x20, x21, x22, x23, x24, x25, x26, x27, x28, x29, x30]) hr q2 ⟨by omega, by omega⟩ (by omega)

end Go.Proofs.Ytpclikbjpjoccaa
