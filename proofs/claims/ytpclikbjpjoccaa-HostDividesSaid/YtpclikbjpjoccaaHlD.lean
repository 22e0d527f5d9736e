/-
  HostDivides: what four words make of two numbers, and the walk. Printed by gen/hostdiv.py.
-/
import Derived.Test.YtpclikbjpjoccaaM6
import Derived.Test.YtpclikbjpjoccaaHlDm
import Derived.ChangeKeysEq
namespace Go.Proofs.Ytpclikbjpjoccaa
open Go Go.RowKit Go.Sx
set_option linter.unusedVariables false
set_option linter.unusedSimpArgs false

theorem W_D {op : Int} (ho : 42 ≤ op ∧ op ≤ 45) : W op 3 1 2 0 := by
  refine ⟨by omega, Or.inl ⟨?_, by unfold Rg; decide, by unfold Rg; decide, by unfold Rg; decide, rfl⟩⟩
  have h := fin47 (fun op => decide (28 ≤ op → op ≤ 45 → rvOf_1 op = 1)) (by kernel_rfl) (show 1 ≤ op by omega) (by omega)
  exact of_decide_eq_true h (by omega) ho.2
theorem enc_is (w : World) {op d a b n y : Int} {c : Bool} (hw : W op d a b n) (hn : -2147483648 ≤ n ∧ n < 2147483648) (hy : encS op d a b n = y) (hc : rfEnc_1 op d a b n = c) :
    Calls Try.prog 18 #[.agg #[.int .i64 op, .int .i64 d, .int .i64 a, .int .i64 b, .int .i32 n]] w fun e w' => e = .returned (.tuple #[.int .u32 y, .bool c]) ∧ Below w.heap.size w w' := by
  obtain ⟨c1, c2, c3⟩ := W_regs hw
  have ho := hw.1
  have h := ref_Encode op d a b n (has_i64.2 (by omega)) (has_i64.2 (by unfold I64 at *; omega)) (has_i64.2 (by unfold I64 at *; omega)) (has_i64.2 (by unfold I64 at *; omega)) (has_i32.2 hn) w
  rw [show rfEnc_0 op d a b n = y from (rfEnc_sum hw).trans hy, hc] at h
  exact h
def dS (a b y : Int) : HS := putX (putX (stM S0 1024 4 y) 1 a) 2 b
theorem dS_pc (a b y : Int) : (dS a b y).pc = 1024 := by unfold dS putX; rfl
theorem d_step {a b op y : Int} {k : Nat} (hk : k < 4) (ho : op = 42 + (k : Int)) (e : encS op 3 1 2 0 = y) : hstep (dS a b y) = (0, (putX (dS a b y) 3 (dQ k a b)).setPC 1028) := by
  have hw := W_D (op := op) (by omega)
  have bk := back hw (by decide) e
  refine hstep_to hw (by decide) e (by rw [dS_pc]; decide) ?_ ?_ (by decide)
  · rw [dS_pc]; unfold dS; rw [ldV_putX, ldV_putX]; exact ld_st4 _ (by decide) (by decide) bk.lo bk.hi
  · unfold hdo
    rw [if_neg (by omega), if_neg (by omega), if_neg (by omega), if_neg (by omega), if_neg (by omega), if_neg (by omega), if_neg (by omega), if_neg (by omega), if_pos (by omega)]
    have g1 : getX (dS a b y) 1 = a := by unfold dS; rw [getX_other (by decide), getX_put (by decide)]
    have g2 : getX (dS a b y) 2 = b := by unfold dS; rw [getX_put (by decide)]
    rw [g1, g2, ho, show nxt (dS a b y) = 1028 by unfold nxt; rw [dS_pc]; rfl]
    rfl
theorem d_x {a b y v : Int} : getX ((putX (dS a b y) 3 v).setPC 1028) 3 = v := by rw [getX_setPC, getX_put (by decide)]
theorem below_out {w v0 wr v6 : World} {k : Nat} {v : Value} (h0 : Below w.heap.size w v0) (h : Below w.heap.size w wr) (k6 : Below wr.heap.size wr v6) : Below w.heap.size w (v6.setCell ⟨v0.heap.size, k, none⟩ v) :=
  Turn.below (Turn.setNew (Turn.of_below (p := fun _ => False) (h.trans (k6.mono h.size))) (a := ⟨v0.heap.size, k, none⟩) h0.size v) (Nat.le_refl _) (fun _ _ h => h.elim)
def outF (a b : Int) (k : Nat) (j : Nat) : Value := .int .u32 (if j < k then dQ j a b else 0)
theorem outF_up (a b : Int) (k : Nat) : ∀ i, i < 4 → upd (outF a b k) k (.int .u32 (dQ k a b)) i = outF a b (k + 1) i := by
  intro i hi
  unfold upd outF
  by_cases h : i = k
  · subst h; rw [if_pos rfl, if_pos (by omega)]
  · rw [if_neg h]
    by_cases h2 : i < k
    · rw [if_pos h2, if_pos (by omega)]
    · rw [if_neg h2, if_neg (by omega)]
theorem out_row (a b : Int) : #[.int .u32 0, .int .u32 0, .int .u32 0, .int .u32 0] = arrOf 4 (outF a b 0) := by
  apply Array.ext
  · rw [arrOf_size]; rfl
  · intro i h1 h2
    rw [arrOf_size] at h2
    simp only [arrOf, Array.getElem_ofFn]
    unfold outF; rw [if_neg (by omega)]
    rcases (by omega : i = 0 ∨ i = 1 ∨ i = 2 ∨ i = 3) with rfl | rfl | rfl | rfl <;> rfl
set_option maxRecDepth 100000 in
theorem eq4 (w : World) (a : Int) : (binOp .eql 35 (.agg #[.int .u32 4294967295, .int .u32 4294967295, .int .u32 a, .int .u32 a]) (.agg #[.int .u32 4294967295, .int .u32 4294967295, .int .u32 a, .int .u32 a])).run Try.prog w = .ok (.bool true) w := by
  rw [run_eql_struct]
  have hu : Try.prog.underlying 35 = some (.array 4 28) := by kernel_rfl
  have h28 : Try.prog.underlying 28 = some (.int .u32) := by kernel_rfl
  have hpl : Try.prog.plainKey 28 = true := by kernel_rfl
  have hp : ∀ (cs : Array Value) (i : Nat) (v : Value) (w : World), cs[i]? = some v → (part 28 cs i).run Try.prog w = .ok v w := fun cs i v w h => run_part_plain w hpl h
  have hs : ∀ w : World, (sizeOf 28).run Try.prog w = .ok 1 w := fun w => by kernel_rfl
  obtain ⟨cs, hcs⟩ : ∃ cs : Array Value, cs = #[.int .u32 4294967295, .int .u32 4294967295, .int .u32 a, .int .u32 a] := ⟨_, rfl⟩
  have p0 : ∀ w, (part 28 cs 0).run Try.prog w = .ok (.int .u32 4294967295) w := fun w => hp _ _ _ _ (by rw [hcs]; rfl)
  have p1 : ∀ w, (part 28 cs 1).run Try.prog w = .ok (.int .u32 4294967295) w := fun w => hp _ _ _ _ (by rw [hcs]; rfl)
  have p2 : ∀ w, (part 28 cs 2).run Try.prog w = .ok (.int .u32 a) w := fun w => hp _ _ _ _ (by rw [hcs]; rfl)
  have p3 : ∀ w, (part 28 cs 3).run Try.prog w = .ok (.int .u32 a) w := fun w => hp _ _ _ _ (by rw [hcs]; rfl)
  rw [← hcs]
  have e : ∀ m, (∀ (x : Int) (w : World), (Op.equalIn m 28 (.int .u32 x) (.int .u32 x)).run Try.prog w = .ok true w) → (Op.equalIn (m + 1) 35 (.agg cs) (.agg cs)).run Try.prog w = .ok true w := by
    intro m hi
    simp only [Op.equalIn, Sem.run_bind, run_underlying hu, Result.andThen_ok, hs]
    simp only [Std.Legacy.Range.forIn_eq_forIn_range', Std.Legacy.Range.size, Nat.sub_zero, Nat.add_one_sub_one, Nat.div_one, show List.range' 0 4 1 = [0, 1, 2, 3] from rfl]
    simp only [List.forIn_cons, Sem.run_bind, Nat.mul_one, p0, p1, p2, p3, Result.andThen_ok, hi, Bool.not_true, Bool.false_eq_true, if_false, Sem.run_pure, List.forIn_nil]
  rw [e 9999 (fun x w => by rw [run_equalIn_int w 9998 28 .u32 .u32 x x h28, beq_self_eq_true])]; rfl
theorem eqg : Try.prog.eqGuardType Try.prog.depth 35 = false := by kernel_rfl
theorem ix0 (w : World) : (Instr.index 36 (.agg #[.int .i64 42, .int .i64 43, .int .i64 44, .int .i64 45]) (.int .i64 0)).run Try.prog w = .ok (.int .i64 42) w := by kernel_rfl
theorem ix1 (w : World) : (Instr.index 36 (.agg #[.int .i64 42, .int .i64 43, .int .i64 44, .int .i64 45]) (.int .i64 1)).run Try.prog w = .ok (.int .i64 43) w := by kernel_rfl
theorem ix2 (w : World) : (Instr.index 36 (.agg #[.int .i64 42, .int .i64 43, .int .i64 44, .int .i64 45]) (.int .i64 2)).run Try.prog w = .ok (.int .i64 44) w := by kernel_rfl
theorem ix3 (w : World) : (Instr.index 36 (.agg #[.int .i64 42, .int .i64 43, .int .i64 44, .int .i64 45]) (.int .i64 3)).run Try.prog w = .ok (.int .i64 45) w := by kernel_rfl

set_option maxHeartbeats 4000000 in
set_option maxRecDepth 100000 in
theorem HostDivides_walk (a b : Int) (w0 : (Lit.int .u32 a).wf = true) (w1 : (Lit.int .u32 b).wf = true) (w : World) :
    Calls Try.prog 4 #[.int .u32 a, .int .u32 b] w fun e w' => e = .returned (.bool true) ∧ Below w.heap.size w w' := by
  have q0 : 0 ≤ a ∧ a ≤ 4294967295 := by simpa [Lit.wf, IntKind.min, IntKind.max, IntKind.bits, IntKind.signed] using w0
  have q1 : 0 ≤ b ∧ b ≤ 4294967295 := by simpa [Lit.wf, IntKind.min, IntKind.max, IntKind.bits, IntKind.signed] using w1
  clear w0 w1
  have i0 := ix0; have i1 := ix1; have i2 := ix2; have i3 := ix3
  obtain ⟨y0, e0⟩ : ∃ y, encS 42 3 1 2 0 = y := ⟨_, rfl⟩
  obtain ⟨c0, ec0⟩ : ∃ c, rfEnc_1 42 3 1 2 0 = c := ⟨_, rfl⟩
  have E0 : Hid (encS 42 3 1 2 0 = y0 ∧ rfEnc_1 42 3 1 2 0 = c0 ∧ (0 ≤ y0 ∧ y0 ≤ 4294967295)) := Lib.hid ⟨e0, ec0, by have k := back (W_D (op := 42) (by decide)) (by decide) e0; have l := k.lo; have h := k.hi; omega⟩
  have G0 : Hid (Good (dS a b y0)) := Lib.hid (((stM_good S0_good _ _ _).putX 1 q0).putX 2 q1)
  clear e0 ec0
  obtain ⟨y1, e1⟩ : ∃ y, encS 43 3 1 2 0 = y := ⟨_, rfl⟩
  obtain ⟨c1, ec1⟩ : ∃ c, rfEnc_1 43 3 1 2 0 = c := ⟨_, rfl⟩
  have E1 : Hid (encS 43 3 1 2 0 = y1 ∧ rfEnc_1 43 3 1 2 0 = c1 ∧ (0 ≤ y1 ∧ y1 ≤ 4294967295)) := Lib.hid ⟨e1, ec1, by have k := back (W_D (op := 43) (by decide)) (by decide) e1; have l := k.lo; have h := k.hi; omega⟩
  have G1 : Hid (Good (dS a b y1)) := Lib.hid (((stM_good S0_good _ _ _).putX 1 q0).putX 2 q1)
  clear e1 ec1
  obtain ⟨y2, e2⟩ : ∃ y, encS 44 3 1 2 0 = y := ⟨_, rfl⟩
  obtain ⟨c2, ec2⟩ : ∃ c, rfEnc_1 44 3 1 2 0 = c := ⟨_, rfl⟩
  have E2 : Hid (encS 44 3 1 2 0 = y2 ∧ rfEnc_1 44 3 1 2 0 = c2 ∧ (0 ≤ y2 ∧ y2 ≤ 4294967295)) := Lib.hid ⟨e2, ec2, by have k := back (W_D (op := 44) (by decide)) (by decide) e2; have l := k.lo; have h := k.hi; omega⟩
  have G2 : Hid (Good (dS a b y2)) := Lib.hid (((stM_good S0_good _ _ _).putX 1 q0).putX 2 q1)
  clear e2 ec2
  obtain ⟨y3, e3⟩ : ∃ y, encS 45 3 1 2 0 = y := ⟨_, rfl⟩
  obtain ⟨c3, ec3⟩ : ∃ c, rfEnc_1 45 3 1 2 0 = c := ⟨_, rfl⟩
  have E3 : Hid (encS 45 3 1 2 0 = y3 ∧ rfEnc_1 45 3 1 2 0 = c3 ∧ (0 ≤ y3 ∧ y3 ≤ 4294967295)) := Lib.hid ⟨e3, ec3, by have k := back (W_D (op := 45) (by decide)) (by decide) e3; have l := k.lo; have h := k.hi; omega⟩
  have G3 : Hid (Good (dS a b y3)) := Lib.hid (((stM_good S0_good _ _ _).putX 1 q0).putX 2 q1)
  clear e3 ec3
  go_enter Try.func4, Try.ntmps4
  go_wp2_with (go_at_call 10; (with_reducible refine (law_known _).mono ?_); rintro e v0 ⟨rfl, hB⟩; have B0 := Lib.hid hB; clear hB)
  go_loopw [14] (fun i wr => ∃ (k : Nat) (j : Int), k ≤ 4 ∧ j = (k : Int) ∧ i = .int .i64 j ∧ Blk wr v0.heap.size 4 35 (outF a b k) ∧ Below w.heap.size w wr) (fun i _ => 4 - (intOf i).toNat)
  case atStart => exact ⟨0, 0, by omega, rfl, rfl, ⟨by rw [← out_row a b]; exact heap_alloc_new _ _⟩, B0.out.alloc B0.out.size _⟩
  case round =>
    obtain ⟨k, j, hk, hj, rfl, hO, hB⟩ := hrel
    have hO := Lib.hid hO; have HB := Lib.hid hB; clear hB
    rcases (by omega : k = 0 ∨ k = 1 ∨ k = 2 ∨ k = 3 ∨ k = 4) with rfl | rfl | rfl | rfl | rfl
    · obtain rfl : j = 0 := by omega
      clear hj hk
      go_wp2_with (first
    | (go_at_call 21; (with_reducible refine (x_is _ _ mb _ h6 (i := 3) (v := dQ 0 a b) (by decide) d_x).mono ?_); rintro e wq ⟨rfl, rfl⟩)
    | (go_at_call 20; (with_reducible refine (st_is _ _ mb _ h5 G0.out (d_step (op := 42) (k := 0) (by decide) (by decide) E0.out.1)).mono ?_); rintro e v6 ⟨rfl, hM⟩; have h6 := hM.at_; have M6 := Lib.hid hM; clear hM; have hb6 := below3 B1.out B2.out HMB.out (M3.out.turn.trans (M4.out.turn.trans (M5.out.turn.trans M6.out.turn))); have hO6 := Blk.keep (p := fun _ => False) (Turn.of_below hb6) hO.out id; have c6 := hO6.cell (i := 0) (by decide); have f6 := hO6.free 0; have HB6 := Lib.hid hb6; have HO6 := Lib.hid hO6; clear hb6 hO6)
    | (go_at_call 19; (with_reducible refine (sx_is _ _ mb _ h4 (i := 2) (v := b) (S' := dS a b y0) (by decide) rfl).mono ?_); rintro e v5 ⟨rfl, hM⟩; have h5 := hM.at_; have M5 := Lib.hid hM; clear hM)
    | (go_at_call 19; (with_reducible refine (sx_is _ _ mb _ h3 (i := 1) (v := a) (by decide) rfl).mono ?_); rintro e v4 ⟨rfl, hM⟩; have h4 := hM.at_; have M4 := Lib.hid hM; clear hM)
    | (go_at_call 13; (with_reducible refine (sto_is _ _ mb _ h2 (a := 1024) (n := 4) (v := y0) (b := true) (by decide) E0.out.2.2 (by decide) rfl).mono ?_); rintro e v3 ⟨rfl, hM⟩; have h3 := hM.at_; have M3 := Lib.hid hM; clear hM)
    | (go_at_call 11; (with_reducible refine (host_New _).mono ?_); obtain ⟨mb, hmb⟩ : ∃ mb, mb = v1.heap.size := ⟨_, rfl⟩; rw [← hmb]; rintro e v2 ⟨⟨rfl, h2⟩, hB⟩; have B2 := Lib.hid hB; have HMB := Lib.hid hmb; clear hB hmb)
    | (go_at_call 18; (with_reducible refine (enc_is _ (W_D (op := 42) (by decide)) (by decide) E0.out.1 E0.out.2.1).mono ?_); rintro e v1 ⟨rfl, hB⟩; have B1 := Lib.hid hB; clear hB))
      go_roundw
      case rel => exact ⟨1, 1, by omega, rfl, by go_num, (HO6.out.set 0 _).ext (outF_up a b 0), below_out B0.out HB.out HB6.out⟩
      case measure => simp [intOf]
    · obtain rfl : j = 1 := by omega
      clear hj hk
      go_wp2_with (first
    | (go_at_call 21; (with_reducible refine (x_is _ _ mb _ h6 (i := 3) (v := dQ 1 a b) (by decide) d_x).mono ?_); rintro e wq ⟨rfl, rfl⟩)
    | (go_at_call 20; (with_reducible refine (st_is _ _ mb _ h5 G1.out (d_step (op := 43) (k := 1) (by decide) (by decide) E1.out.1)).mono ?_); rintro e v6 ⟨rfl, hM⟩; have h6 := hM.at_; have M6 := Lib.hid hM; clear hM; have hb6 := below3 B1.out B2.out HMB.out (M3.out.turn.trans (M4.out.turn.trans (M5.out.turn.trans M6.out.turn))); have hO6 := Blk.keep (p := fun _ => False) (Turn.of_below hb6) hO.out id; have c6 := hO6.cell (i := 1) (by decide); have f6 := hO6.free 1; have HB6 := Lib.hid hb6; have HO6 := Lib.hid hO6; clear hb6 hO6)
    | (go_at_call 19; (with_reducible refine (sx_is _ _ mb _ h4 (i := 2) (v := b) (S' := dS a b y1) (by decide) rfl).mono ?_); rintro e v5 ⟨rfl, hM⟩; have h5 := hM.at_; have M5 := Lib.hid hM; clear hM)
    | (go_at_call 19; (with_reducible refine (sx_is _ _ mb _ h3 (i := 1) (v := a) (by decide) rfl).mono ?_); rintro e v4 ⟨rfl, hM⟩; have h4 := hM.at_; have M4 := Lib.hid hM; clear hM)
    | (go_at_call 13; (with_reducible refine (sto_is _ _ mb _ h2 (a := 1024) (n := 4) (v := y1) (b := true) (by decide) E1.out.2.2 (by decide) rfl).mono ?_); rintro e v3 ⟨rfl, hM⟩; have h3 := hM.at_; have M3 := Lib.hid hM; clear hM)
    | (go_at_call 11; (with_reducible refine (host_New _).mono ?_); obtain ⟨mb, hmb⟩ : ∃ mb, mb = v1.heap.size := ⟨_, rfl⟩; rw [← hmb]; rintro e v2 ⟨⟨rfl, h2⟩, hB⟩; have B2 := Lib.hid hB; have HMB := Lib.hid hmb; clear hB hmb)
    | (go_at_call 18; (with_reducible refine (enc_is _ (W_D (op := 43) (by decide)) (by decide) E1.out.1 E1.out.2.1).mono ?_); rintro e v1 ⟨rfl, hB⟩; have B1 := Lib.hid hB; clear hB))
      go_roundw
      case rel => exact ⟨2, 2, by omega, rfl, by go_num, (HO6.out.set 1 _).ext (outF_up a b 1), below_out B0.out HB.out HB6.out⟩
      case measure => simp [intOf]
    · obtain rfl : j = 2 := by omega
      clear hj hk
      go_wp2_with (first
    | (go_at_call 21; (with_reducible refine (x_is _ _ mb _ h6 (i := 3) (v := dQ 2 a b) (by decide) d_x).mono ?_); rintro e wq ⟨rfl, rfl⟩)
    | (go_at_call 20; (with_reducible refine (st_is _ _ mb _ h5 G2.out (d_step (op := 44) (k := 2) (by decide) (by decide) E2.out.1)).mono ?_); rintro e v6 ⟨rfl, hM⟩; have h6 := hM.at_; have M6 := Lib.hid hM; clear hM; have hb6 := below3 B1.out B2.out HMB.out (M3.out.turn.trans (M4.out.turn.trans (M5.out.turn.trans M6.out.turn))); have hO6 := Blk.keep (p := fun _ => False) (Turn.of_below hb6) hO.out id; have c6 := hO6.cell (i := 2) (by decide); have f6 := hO6.free 2; have HB6 := Lib.hid hb6; have HO6 := Lib.hid hO6; clear hb6 hO6)
    | (go_at_call 19; (with_reducible refine (sx_is _ _ mb _ h4 (i := 2) (v := b) (S' := dS a b y2) (by decide) rfl).mono ?_); rintro e v5 ⟨rfl, hM⟩; have h5 := hM.at_; have M5 := Lib.hid hM; clear hM)
    | (go_at_call 19; (with_reducible refine (sx_is _ _ mb _ h3 (i := 1) (v := a) (by decide) rfl).mono ?_); rintro e v4 ⟨rfl, hM⟩; have h4 := hM.at_; have M4 := Lib.hid hM; clear hM)
    | (go_at_call 13; (with_reducible refine (sto_is _ _ mb _ h2 (a := 1024) (n := 4) (v := y2) (b := true) (by decide) E2.out.2.2 (by decide) rfl).mono ?_); rintro e v3 ⟨rfl, hM⟩; have h3 := hM.at_; have M3 := Lib.hid hM; clear hM)
    | (go_at_call 11; (with_reducible refine (host_New _).mono ?_); obtain ⟨mb, hmb⟩ : ∃ mb, mb = v1.heap.size := ⟨_, rfl⟩; rw [← hmb]; rintro e v2 ⟨⟨rfl, h2⟩, hB⟩; have B2 := Lib.hid hB; have HMB := Lib.hid hmb; clear hB hmb)
    | (go_at_call 18; (with_reducible refine (enc_is _ (W_D (op := 44) (by decide)) (by decide) E2.out.1 E2.out.2.1).mono ?_); rintro e v1 ⟨rfl, hB⟩; have B1 := Lib.hid hB; clear hB))
      go_roundw
      case rel => exact ⟨3, 3, by omega, rfl, by go_num, (HO6.out.set 2 _).ext (outF_up a b 2), below_out B0.out HB.out HB6.out⟩
      case measure => simp [intOf]
    · obtain rfl : j = 3 := by omega
      clear hj hk
      go_wp2_with (first
    | (go_at_call 21; (with_reducible refine (x_is _ _ mb _ h6 (i := 3) (v := dQ 3 a b) (by decide) d_x).mono ?_); rintro e wq ⟨rfl, rfl⟩)
    | (go_at_call 20; (with_reducible refine (st_is _ _ mb _ h5 G3.out (d_step (op := 45) (k := 3) (by decide) (by decide) E3.out.1)).mono ?_); rintro e v6 ⟨rfl, hM⟩; have h6 := hM.at_; have M6 := Lib.hid hM; clear hM; have hb6 := below3 B1.out B2.out HMB.out (M3.out.turn.trans (M4.out.turn.trans (M5.out.turn.trans M6.out.turn))); have hO6 := Blk.keep (p := fun _ => False) (Turn.of_below hb6) hO.out id; have c6 := hO6.cell (i := 3) (by decide); have f6 := hO6.free 3; have HB6 := Lib.hid hb6; have HO6 := Lib.hid hO6; clear hb6 hO6)
    | (go_at_call 19; (with_reducible refine (sx_is _ _ mb _ h4 (i := 2) (v := b) (S' := dS a b y3) (by decide) rfl).mono ?_); rintro e v5 ⟨rfl, hM⟩; have h5 := hM.at_; have M5 := Lib.hid hM; clear hM)
    | (go_at_call 19; (with_reducible refine (sx_is _ _ mb _ h3 (i := 1) (v := a) (by decide) rfl).mono ?_); rintro e v4 ⟨rfl, hM⟩; have h4 := hM.at_; have M4 := Lib.hid hM; clear hM)
    | (go_at_call 13; (with_reducible refine (sto_is _ _ mb _ h2 (a := 1024) (n := 4) (v := y3) (b := true) (by decide) E3.out.2.2 (by decide) rfl).mono ?_); rintro e v3 ⟨rfl, hM⟩; have h3 := hM.at_; have M3 := Lib.hid hM; clear hM)
    | (go_at_call 11; (with_reducible refine (host_New _).mono ?_); obtain ⟨mb, hmb⟩ : ∃ mb, mb = v1.heap.size := ⟨_, rfl⟩; rw [← hmb]; rintro e v2 ⟨⟨rfl, h2⟩, hB⟩; have B2 := Lib.hid hB; have HMB := Lib.hid hmb; clear hB hmb)
    | (go_at_call 18; (with_reducible refine (enc_is _ (W_D (op := 45) (by decide)) (by decide) E3.out.1 E3.out.2.1).mono ?_); rintro e v1 ⟨rfl, hB⟩; have B1 := Lib.hid hB; clear hB))
      go_roundw
      case rel => exact ⟨4, 4, by omega, rfl, by go_num, (HO6.out.set 3 _).ext (outF_up a b 3), below_out B0.out HB.out HB6.out⟩
      case measure => simp [intOf]
    · obtain rfl : j = 4 := by omega
      clear hj hk
      by_cases hb0 : b = 0
      · subst hb0
        have c0 : wr.cell? ⟨v0.heap.size, 0, none⟩ = some (.int .u32 4294967295) := hO.out.cell (i := 0) (by decide)
        have c1 : wr.cell? ⟨v0.heap.size, 1, none⟩ = some (.int .u32 4294967295) := hO.out.cell (i := 1) (by decide)
        have c2 : wr.cell? ⟨v0.heap.size, 2, none⟩ = some (.int .u32 a) := hO.out.cell (i := 2) (by decide)
        have c3 : wr.cell? ⟨v0.heap.size, 3, none⟩ = some (.int .u32 a) := hO.out.cell (i := 3) (by decide)
        have he := eq4; have hg := eqg
        go_wp2_with fail
        go_ret
        exact ⟨rfl, HB.out⟩
      · have c0 : wr.cell? ⟨v0.heap.size, 0, none⟩ = some (.int .u32 (dQ 0 a b)) := hO.out.cell (i := 0) (by decide)
        have c1 : wr.cell? ⟨v0.heap.size, 1, none⟩ = some (.int .u32 (dQ 1 a b)) := hO.out.cell (i := 1) (by decide)
        have c2 : wr.cell? ⟨v0.heap.size, 2, none⟩ = some (.int .u32 (dQ 2 a b)) := hO.out.cell (i := 2) (by decide)
        have c3 : wr.cell? ⟨v0.heap.size, 3, none⟩ = some (.int .u32 (dQ 3 a b)) := hO.out.cell (i := 3) (by decide)
        have d1 := div_s' q0 q1 hb0; have d2 := div_u' q0 q1 hb0; have d3 := rem_u (a := a) hb0 q1.1
        by_cases ha : a = 2147483648
        · subst ha
          by_cases hb : b = 4294967295
          · subst hb
            have c0 : wr.cell? ⟨v0.heap.size, 0, none⟩ = some (.int .u32 2147483648) := c0.trans (by kernel_rfl)
            have c1 : wr.cell? ⟨v0.heap.size, 1, none⟩ = some (.int .u32 0) := c1.trans (by kernel_rfl)
            have c2 : wr.cell? ⟨v0.heap.size, 2, none⟩ = some (.int .u32 0) := c2.trans (by kernel_rfl)
            have c3 : wr.cell? ⟨v0.heap.size, 3, none⟩ = some (.int .u32 2147483648) := c3.trans (by kernel_rfl)
            clear d1 d2 d3
            go_wp2_with fail
            go_ret
            exact ⟨rfl, HB.out⟩
          · go_wp2_with fail
            go_ret
            exact ⟨rfl, HB.out⟩
        · go_wp2_with fail
          go_ret
          exact ⟨rfl, HB.out⟩

end Go.Proofs.Ytpclikbjpjoccaa
