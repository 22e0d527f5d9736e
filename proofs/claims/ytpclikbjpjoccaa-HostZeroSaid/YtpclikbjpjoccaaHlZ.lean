/-
  HostZero: the plain law, and its walk.
-/
import Derived.Test.YtpclikbjpjoccaaM6
namespace Go.Proofs.Ytpclikbjpjoccaa
open Go Go.RowKit Go.Sx
set_option linter.unusedVariables false
set_option linter.unusedSimpArgs false

theorem putX_pc' (S : HS) (i v : Int) : (putX S i v).pc = S.pc := by unfold putX; split <;> rfl
theorem W_R {op d a b : Int} (ho : 28 ≤ op ∧ op ≤ 45) (hd : 0 ≤ d ∧ d < 32) (ha : 0 ≤ a ∧ a < 32) (hb : 0 ≤ b ∧ b < 32) : W op d a b 0 := by
  refine ⟨by omega, Or.inl ⟨?_, hd, ha, hb, rfl⟩⟩
  have h := fin47 (fun op => decide (28 ≤ op → op ≤ 45 → rvOf_1 op = 1)) (by kernel_rfl) (show 1 ≤ op by omega) (by omega)
  exact of_decide_eq_true h ho.1 ho.2

def zS (a b y0 y1 y2 : Int) : HS := stM (stM (stM (putX (putX S0 1 a) 2 b) 1024 4 y0) 1028 4 y1) 1032 4 y2
theorem zS_x (a b y0 y1 y2 : Int) (i : Int) : getX (zS a b y0 y1 y2) i = getX (putX (putX S0 1 a) 2 b) i := by
  unfold zS; rw [getX_stM, getX_stM, getX_stM]
theorem zS_0 {a b y0 y1 y2 : Int} (h : 0 ≤ y0 ∧ y0 < 4294967296) : ldV (zS a b y0 y1 y2) 1024 4 = y0 := by
  unfold zS
  rw [ld_st_ne _ (by decide) (by decide) (by decide) (by decide) (by decide), ld_st_ne _ (by decide) (by decide) (by decide) (by decide) (by decide), ld_st4 _ (by decide) (by decide) h.1 h.2]
theorem zS_1 {a b y0 y1 y2 : Int} (h : 0 ≤ y1 ∧ y1 < 4294967296) : ldV (zS a b y0 y1 y2) 1028 4 = y1 := by
  unfold zS
  rw [ld_st_ne _ (by decide) (by decide) (by decide) (by decide) (by decide), ld_st4 _ (by decide) (by decide) h.1 h.2]
theorem zS_2 {a b y0 y1 y2 : Int} (h : 0 ≤ y2 ∧ y2 < 4294967296) : ldV (zS a b y0 y1 y2) 1032 4 = y2 := by
  unfold zS
  rw [ld_st4 _ (by decide) (by decide) h.1 h.2]

theorem putX_0 (S : HS) (v : Int) : putX S 0 v = S := by unfold putX; rw [if_neg (by decide)]
theorem W_I {op d a n : Int} (ho : 19 ≤ op ∧ op ≤ 24) (hd : 0 ≤ d ∧ d < 32) (ha : 0 ≤ a ∧ a < 32) (hn : -2048 ≤ n ∧ n < 2048) : W op d a 0 n := by
  refine ⟨by omega, Or.inr (Or.inl ⟨Or.inl ?_, hd, ha, rfl, hn.1, hn.2⟩)⟩
  have h := fin47 (fun op => decide (19 ≤ op → op ≤ 24 → rvOf_1 op = 2)) (by kernel_rfl) (show 1 ≤ op by omega) (by omega)
  exact of_decide_eq_true h ho.1 ho.2
theorem W_J : W 3 0 0 0 8 := by
  refine ⟨by decide, Or.inr (Or.inr (Or.inr (Or.inr (Or.inr (Or.inr (Or.inl ⟨by kernel_rfl, by unfold Rg; decide, rfl, rfl, by decide, by decide⟩))))))⟩

theorem z_run {a b op m y0 y1 y2 : Int} (ho : 28 ≤ op ∧ op ≤ 45) (hm : -2048 ≤ m ∧ m < 2048) (e0 : encS op 0 1 2 0 = y0) (e1 : encS 19 0 1 0 m = y1) (e2 : encS 3 0 0 0 8 = y2) :
    hrun 3 (zS a b y0 y1 y2) = (0, 3, (zS a b y0 y1 y2).setPC 1040) := by
  have w0 := W_R ho (d := 0) (a := 1) (b := 2) (by decide) (by decide) (by decide)
  have w1 := W_I (op := 19) (d := 0) (a := 1) (by decide) (by decide) (by decide) hm
  have b0 := back w0 (by decide) e0
  have b1 := back w1 (by omega) e1
  have b2 := back W_J (by decide) e2
  have hpc : (zS a b y0 y1 y2).pc = 1024 := by unfold zS; rw [stM_pc, stM_pc, stM_pc, putX_pc', putX_pc']; rfl
  have s1 : hstep (zS a b y0 y1 y2) = (0, (zS a b y0 y1 y2).setPC 1028) := by
    refine hstep_to w0 (by decide) e0 (by rw [hpc]; decide) (by rw [hpc]; exact zS_0 ⟨b0.lo, b0.hi⟩) ?_ (by decide)
    unfold hdo
    rw [if_neg (by omega), if_neg (by omega), if_neg (by omega), if_neg (by omega), if_neg (by omega), if_neg (by omega), if_neg (by omega), if_neg (by omega), if_pos (by omega), putX_0, show nxt (zS a b y0 y1 y2) = 1028 by unfold nxt; rw [hpc]; rfl]
  have s2 : hstep ((zS a b y0 y1 y2).setPC 1028) = (0, (zS a b y0 y1 y2).setPC 1032) := by
    refine hstep_to w1 (by omega) e1 (by rw [setPC_pc]; decide) (by rw [setPC_pc, ldV_setPC]; exact zS_1 ⟨b1.lo, b1.hi⟩) ?_ (by decide)
    unfold hdo
    rw [if_neg (by decide), if_neg (by decide), if_neg (by decide), if_neg (by decide), if_neg (by decide), if_neg (by decide), if_neg (by decide), if_pos (by decide), putX_0]
    rfl
  have s3 : hstep ((zS a b y0 y1 y2).setPC 1032) = (0, (zS a b y0 y1 y2).setPC 1040) := by
    refine hstep_to W_J (by decide) e2 (by rw [setPC_pc]; decide) (by rw [setPC_pc, ldV_setPC]; exact zS_2 ⟨b2.lo, b2.hi⟩) ?_ (by decide)
    unfold hdo
    rw [if_neg (by decide), if_neg (by decide), if_pos rfl, putX_0, show rel ((zS a b y0 y1 y2).setPC 1032) 8 = 1040 by unfold rel; rfl, if_pos (by decide)]
    rfl
  rw [hrun_go (by rw [s1]), s1, hrun_go (by rw [s2]), s2, hrun_go (by rw [s3]), s3]
  rfl

set_option maxHeartbeats 2000000 in
set_option maxRecDepth 100000 in
theorem HostZero_walk (o a b imm : Int) (w0 : (Lit.int .u8 o).wf = true) (w1 : (Lit.int .u32 a).wf = true) (w2 : (Lit.int .u32 b).wf = true) (w3 : (Lit.int .i32 imm).wf = true) (w : World) :
    Calls Try.prog 8 #[.int .u8 o, .int .u32 a, .int .u32 b, .int .i32 imm] w fun e w' => e = .returned (.bool true) ∧ Below w.heap.size w w' := by
  have q0 : 0 ≤ o ∧ o ≤ 255 := by simpa [Lit.wf, IntKind.min, IntKind.max, IntKind.bits, IntKind.signed] using w0
  have q1 : 0 ≤ a ∧ a ≤ 4294967295 := by simpa [Lit.wf, IntKind.min, IntKind.max, IntKind.bits, IntKind.signed] using w1
  have q2 : 0 ≤ b ∧ b ≤ 4294967295 := by simpa [Lit.wf, IntKind.min, IntKind.max, IntKind.bits, IntKind.signed] using w2
  have q3 : -2147483648 ≤ imm ∧ imm ≤ 2147483647 := by simpa [Lit.wf, IntKind.min, IntKind.max, IntKind.bits, IntKind.signed] using w3
  clear w0 w1 w2 w3
  have hs1 : putX (putX (putX S0 1 a) 2 b) 0 5 = putX (putX S0 1 a) 2 b := putX_0 _ _
  have hs2 : putX (putX (putX S0 1 a) 2 b) 32 5 = putX (putX S0 1 a) 2 b := by unfold putX; rw [if_neg (by decide)]
  have hs3 : putX (putX (putX S0 1 a) 2 b) (-1) 5 = putX (putX S0 1 a) 2 b := by unfold putX; rw [if_neg (by decide)]
  have F := Lib.hid (And.intro hs1 (And.intro hs2 hs3)); clear hs1 hs2 hs3
  have hop : 28 ≤ 28 + o % 18 ∧ 28 + o % 18 ≤ 45 := by omega
  have hw0 := W_R hop (d := 0) (a := 1) (b := 2) (by decide) (by decide) (by decide)
  obtain ⟨y0, e0⟩ : ∃ y0, encS (28 + o % 18) 0 1 2 0 = y0 := ⟨_, rfl⟩
  have g0 : 0 ≤ y0 ∧ y0 ≤ 4294967295 := by have k := back hw0 (by decide) e0; have l := k.lo; have h := k.hi; omega
  have hem : ∃ m, wrap32 (imm * 1048576) / 1048576 = m := ⟨_, rfl⟩
  obtain ⟨m, hem⟩ := hem
  have hm : -2048 ≤ m ∧ m < 2048 := by rw [← hem]; unfold wrap32; omega
  have hw1 := W_I (op := 19) (d := 0) (a := 1) (by decide) (by decide) (by decide) hm
  obtain ⟨y1, e1⟩ : ∃ y1, encS 19 0 1 0 m = y1 := ⟨_, rfl⟩
  have g1 : 0 ≤ y1 ∧ y1 ≤ 4294967295 := by have k := back hw1 (by omega) e1; have l := k.lo; have h := k.hi; omega
  obtain ⟨y2, e2⟩ : ∃ y2, encS 3 0 0 0 8 = y2 := ⟨_, rfl⟩
  have g2 : 0 ≤ y2 ∧ y2 ≤ 4294967295 := by have k := back W_J (by decide) e2; have l := k.lo; have h := k.hi; omega
  have hrn := z_run (a := a) (b := b) hop hm e0 e1 e2
  have hgz : Good (zS a b y0 y1 y2) := stM_good (stM_good (stM_good ((S0_good.putX 1 q1).putX 2 q2) _ _ _) _ _ _) _ _ _
  have hx : ∀ i, getX ((zS a b y0 y1 y2).setPC 1040) i = getX (putX (putX S0 1 a) 2 b) i := fun i => by rw [getX_setPC, zS_x]
  have x0 : getX ((zS a b y0 y1 y2).setPC 1040) 0 = 0 := getX_0 _
  have x32 : getX ((zS a b y0 y1 y2).setPC 1040) 32 = 0 := by unfold getX; rw [if_neg (by decide)]
  have xm : getX ((zS a b y0 y1 y2).setPC 1040) (-1) = 0 := by unfold getX; rw [if_neg (by decide)]
  have x1 : getX ((zS a b y0 y1 y2).setPC 1040) 1 = a := by rw [hx, getX_other (by decide), getX_put (by decide)]
  have x2 : getX ((zS a b y0 y1 y2).setPC 1040) 2 = b := by rw [hx, getX_put (by decide)]
  have hrn2 : hrun (fuelN 3) (zS a b y0 y1 y2) = (0, 3, (zS a b y0 y1 y2).setPC 1040) ∧ ((3 : Nat) : Int) = 3 := ⟨hrn, rfl⟩
  have F0 := Lib.hid (And.intro hw0 e0)
  have F1 : Hid (W 19 0 1 0 m ∧ encS 19 0 1 0 m = y1 ∧ (-2147483648 ≤ m ∧ m < 2147483648)) := Lib.hid ⟨hw1, e1, by omega⟩
  have F2 := Lib.hid e2
  have F3 := Lib.hid (And.intro hgz (And.intro hrn2 (And.intro x0 (And.intro x32 (And.intro xm (And.intro x1 x2))))))
  have EM := Lib.hid hem
  clear hw0 e0 hw1 e1 e2 hrn hgz hx x0 x32 xm x1 x2 hrn2 hem hm hop
  go_enter Try.func8, Try.ntmps8
  go_wp2_with (first
    | (go_at_call 24; (with_reducible refine (pc_is _ _ mb _ h13 (v := 1040) rfl).mono ?_); rintro e wq ⟨rfl, rfl⟩)
    | (go_at_call 21; (with_reducible refine (x_is _ _ mb _ h13 (i := 2) (v := b) (by decide) (F3.out.2.2.2.2.2.2)).mono ?_); rintro e wq ⟨rfl, rfl⟩)
    | (go_at_call 21; (with_reducible refine (x_is _ _ mb _ h13 (i := 1) (v := a) (by decide) (F3.out.2.2.2.2.2.1)).mono ?_); rintro e wq ⟨rfl, rfl⟩)
    | (go_at_call 21; (with_reducible refine (x_is _ _ mb _ h13 (i := -1) (v := 0) (by decide) (F3.out.2.2.2.2.1)).mono ?_); rintro e wq ⟨rfl, rfl⟩)
    | (go_at_call 21; (with_reducible refine (x_is _ _ mb _ h13 (i := 32) (v := 0) (by decide) (F3.out.2.2.2.1)).mono ?_); rintro e wq ⟨rfl, rfl⟩)
    | (go_at_call 21; (with_reducible refine (x_is _ _ mb _ h13 (i := 0) (v := 0) (by decide) (F3.out.2.2.1)).mono ?_); rintro e wq ⟨rfl, rfl⟩)
    | (go_at_call 28; (with_reducible refine (run_is _ _ mb _ h12 F3.out.1 (f := 3) (by decide) F3.out.2.1).mono ?_); rintro e v13 ⟨rfl, hM⟩; have h13 := hM.at_; have M13 := Lib.hid hM; clear hM)
    | (go_at_call 13; (with_reducible refine (sto_is _ _ mb _ h11 (a := 1032) (n := 4) (v := y2) (b := true) (S' := zS a b y0 y1 y2) (by decide) g2 (by decide) rfl).mono ?_); rintro e v12 ⟨rfl, hM⟩; have h12 := hM.at_; have M12 := Lib.hid hM; clear hM)
    | (go_at_call 22; (with_reducible refine (word_is _ W_J (by decide) F2.out).mono ?_); rintro e v11 ⟨rfl, hB⟩; have h11 := h10.below hB; have B11 := Lib.hid hB; clear hB)
    | (go_at_call 13; (with_reducible refine (sto_is _ _ mb _ h9 (a := 1028) (n := 4) (v := y1) (b := true) (by decide) g1 (by decide) rfl).mono ?_); rintro e v10 ⟨rfl, hM⟩; have h10 := hM.at_; have M10 := Lib.hid hM; clear hM)
    | (go_at_call 22; rw [EM.out]; (with_reducible refine (word_is _ F1.out.1 F1.out.2.2 F1.out.2.1).mono ?_); rintro e v9 ⟨rfl, hB⟩; have h9 := h8.below hB; have B9 := Lib.hid hB; clear hB)
    | (go_at_call 13; (with_reducible refine (sto_is _ _ mb _ h7 (a := 1024) (n := 4) (v := y0) (b := true) (by decide) g0 (by decide) rfl).mono ?_); rintro e v8 ⟨rfl, hM⟩; have h8 := hM.at_; have M8 := Lib.hid hM; clear hM)
    | (go_at_call 22; (with_reducible refine (word_is _ F0.out.1 (by decide) F0.out.2).mono ?_); rintro e v7 ⟨rfl, hB⟩; have h7 := h6.below hB; have B7 := Lib.hid hB; clear hB)
    | (go_at_call 19; (with_reducible refine (sx_is _ _ mb _ h5 (i := -1) (v := 5) (by decide) F.out.2.2).mono ?_); rintro e v6 ⟨rfl, hM⟩; have h6 := hM.at_; have M6 := Lib.hid hM; clear hM)
    | (go_at_call 19; (with_reducible refine (sx_is _ _ mb _ h4 (i := 32) (v := 5) (by decide) F.out.2.1).mono ?_); rintro e v5 ⟨rfl, hM⟩; have h5 := hM.at_; have M5 := Lib.hid hM; clear hM)
    | (go_at_call 19; (with_reducible refine (sx_is _ _ mb _ h3 (i := 0) (v := 5) (by decide) F.out.1).mono ?_); rintro e v4 ⟨rfl, hM⟩; have h4 := hM.at_; have M4 := Lib.hid hM; clear hM)
    | (go_at_call 19; (with_reducible refine (sx_is _ _ mb _ h2 (i := 2) (v := b) (by decide) rfl).mono ?_); rintro e v3 ⟨rfl, hM⟩; have h3 := hM.at_; have M3 := Lib.hid hM; clear hM)
    | (go_at_call 19; (with_reducible refine (sx_is _ _ mb _ h1 (i := 1) (v := a) (by decide) rfl).mono ?_); rintro e v2 ⟨rfl, hM⟩; have h2 := hM.at_; have M2 := Lib.hid hM; clear hM)
    | (go_at_call 11; (with_reducible refine (host_New _).mono ?_); obtain ⟨mb, hmb⟩ : ∃ mb, mb = v0.heap.size := ⟨_, rfl⟩; rw [← hmb]; rintro e v1 ⟨⟨rfl, h1⟩, hB⟩; have B1 := Lib.hid hB; have HMB := Lib.hid hmb; clear hB hmb)
    | (go_at_call 10; (with_reducible refine (law_known _).mono ?_); rintro e v0 ⟨rfl, hB⟩; have B0 := Lib.hid hB; clear hB))
  go_ret
  exact ⟨rfl, below3 B0.out B1.out HMB.out (M2.out.turn.trans (M3.out.turn.trans (M4.out.turn.trans (M5.out.turn.trans (M6.out.turn.trans ((Turn.of_below B7.out).trans (M8.out.turn.trans ((Turn.of_below B9.out).trans (M10.out.turn.trans ((Turn.of_below B11.out).trans (M12.out.turn.trans M13.out.turn)))))))))))⟩

end Go.Proofs.Ytpclikbjpjoccaa
