/-
  HostStops: what a step tells of a word that can't, and the walk. Printed by gen/hoststops.py.
-/
import Derived.Test.YtpclikbjpjoccaaM6
import Derived.Test.YtpclikbjpjoccaaKit
namespace Go.Proofs.Ytpclikbjpjoccaa
open Go Go.RowKit Go.Sx
set_option linter.unusedVariables false
set_option linter.unusedSimpArgs false

def sS (at_ v y : Int) : HS := stM (putX (putX S0 1 at_) 2 v) 1024 4 y
theorem sS_pc (a v y : Int) : (sS a v y).pc = 1024 := by unfold sS putX; rfl
theorem sS_1 (a v y : Int) : getX (sS a v y) 1 = a := by unfold sS; rw [getX_stM, getX_other (by decide), getX_put (by decide)]
theorem sS_2 (a v y : Int) : getX (sS a v y) 2 = v := by unfold sS; rw [getX_stM, getX_put (by decide)]
theorem sS_3 (a v y : Int) : getX (sS a v y) 3 = 0 := by unfold sS; rw [getX_stM, getX_other (by decide), getX_other (by decide)]; rfl
theorem sS_adr {a : Int} (h : 0 ≤ a ∧ a ≤ 4294967295) (v y : Int) : adr (sS a v y) 1 0 = a := by unfold adr; rw [sS_1]; omega
theorem sS_good {a v : Int} (h : 0 ≤ a ∧ a ≤ 4294967295) (k : 0 ≤ v ∧ v ≤ 4294967295) (y : Int) : Good (sS a v y) := stM_good ((S0_good.putX 1 h).putX 2 k) _ _ _
theorem sS_step {a v y op d b : Int} (hw : W op d 1 b 0) (hy : encS op d 1 b 0 = y) :
    hstep (sS a v y) = if (hdo (sS a v y) op d 1 b 0).1 ≤ 2 then ((hdo (sS a v y) op d 1 b 0).1, (hdo (sS a v y) op d 1 b 0).2.2) else ((hdo (sS a v y) op d 1 b 0).1, (hdo (sS a v y) op d 1 b 0).2.2.setWhy (hdo (sS a v y) op d 1 b 0).2.1) := by
  have bk := back hw (by decide) hy
  exact hstep_word hw (by decide) hy (by rw [sS_pc]; decide) (by rw [sS_pc]; unfold sS; exact ld_st4 _ (by decide) (by decide) bk.lo bk.hi)
theorem W_lw : W 13 3 1 0 0 := ⟨by decide, Or.inr (Or.inl ⟨Or.inr (by kernel_rfl), by unfold Rg; decide, by unfold Rg; decide, rfl, by decide, by decide⟩)⟩
theorem W_lh : W 12 3 1 0 0 := ⟨by decide, Or.inr (Or.inl ⟨Or.inr (by kernel_rfl), by unfold Rg; decide, by unfold Rg; decide, rfl, by decide, by decide⟩)⟩
theorem W_jr : W 4 3 1 0 0 := ⟨by decide, Or.inr (Or.inl ⟨Or.inl (by kernel_rfl), by unfold Rg; decide, by unfold Rg; decide, rfl, by decide, by decide⟩)⟩
theorem W_sw : W 18 0 1 2 0 := ⟨by decide, Or.inr (Or.inr (Or.inr (Or.inl ⟨by kernel_rfl, rfl, by unfold Rg; decide, by unfold Rg; decide, by decide, by decide⟩)))⟩
section
variable {a v y : Int} (ha : 0 ≤ a ∧ a ≤ 4294967295)
include ha
theorem st_lw (hy : encS 13 3 1 0 0 = y) (h : canB a 4 = true) : ∃ T, hstep (sS a v y) = (0, T) := by
  refine ⟨(putX (sS a v y) 3 (lvl (sS a v y) 13 a)).setPC (nxt (sS a v y)), ?_⟩
  rw [sS_step W_lw hy]; unfold hdo
  rw [if_neg (show ¬ (13 : Int) = 1 by decide), if_neg (show ¬ (13 : Int) = 2 by decide), if_neg (show ¬ (13 : Int) = 3 by decide), if_neg (show ¬ (13 : Int) = 4 by decide), if_neg (show ¬ (13 : Int) ≤ 10 by decide), if_pos (show (13 : Int) ≤ 15 by decide), sS_adr ha, show lsz 13 = 4 by decide, if_pos h]
  rw [if_pos (show (0 : Int) ≤ 2 by decide)]
theorem no_lw (hy : encS 13 3 1 0 0 = y) (h : canB a 4 = false) : hstep (sS a v y) = (3, (sS a v y).setWhy a) := by
  rw [sS_step W_lw hy]; unfold hdo
  rw [if_neg (show ¬ (13 : Int) = 1 by decide), if_neg (show ¬ (13 : Int) = 2 by decide), if_neg (show ¬ (13 : Int) = 3 by decide), if_neg (show ¬ (13 : Int) = 4 by decide), if_neg (show ¬ (13 : Int) ≤ 10 by decide), if_pos (show (13 : Int) ≤ 15 by decide), sS_adr ha, show lsz 13 = 4 by decide, if_neg (show ¬ canB a 4 = true by rw [h]; decide)]
  exact if_neg (show ¬ (3 : Int) ≤ 2 by decide)
theorem st_lh (hy : encS 12 3 1 0 0 = y) (h : canB a 2 = true) : ∃ T, hstep (sS a v y) = (0, T) := by
  refine ⟨(putX (sS a v y) 3 (lvl (sS a v y) 12 a)).setPC (nxt (sS a v y)), ?_⟩
  rw [sS_step W_lh hy]; unfold hdo
  rw [if_neg (show ¬ (12 : Int) = 1 by decide), if_neg (show ¬ (12 : Int) = 2 by decide), if_neg (show ¬ (12 : Int) = 3 by decide), if_neg (show ¬ (12 : Int) = 4 by decide), if_neg (show ¬ (12 : Int) ≤ 10 by decide), if_pos (show (12 : Int) ≤ 15 by decide), sS_adr ha, show lsz 12 = 2 by decide, if_pos h]
  rw [if_pos (show (0 : Int) ≤ 2 by decide)]
theorem no_lh (hy : encS 12 3 1 0 0 = y) (h : canB a 2 = false) : hstep (sS a v y) = (3, (sS a v y).setWhy a) := by
  rw [sS_step W_lh hy]; unfold hdo
  rw [if_neg (show ¬ (12 : Int) = 1 by decide), if_neg (show ¬ (12 : Int) = 2 by decide), if_neg (show ¬ (12 : Int) = 3 by decide), if_neg (show ¬ (12 : Int) = 4 by decide), if_neg (show ¬ (12 : Int) ≤ 10 by decide), if_pos (show (12 : Int) ≤ 15 by decide), sS_adr ha, show lsz 12 = 2 by decide, if_neg (show ¬ canB a 2 = true by rw [h]; decide)]
  exact if_neg (show ¬ (3 : Int) ≤ 2 by decide)
theorem st_sw (hy : encS 18 0 1 2 0 = y) (h : canB a 4 = true) : hstep (sS a v y) = (0, (stM (sS a v y) a 4 v).setPC 1028) := by
  rw [sS_step W_sw hy]; unfold hdo
  rw [if_neg (show ¬ (18 : Int) = 1 by decide), if_neg (show ¬ (18 : Int) = 2 by decide), if_neg (show ¬ (18 : Int) = 3 by decide), if_neg (show ¬ (18 : Int) = 4 by decide), if_neg (show ¬ (18 : Int) ≤ 10 by decide), if_neg (show ¬ (18 : Int) ≤ 15 by decide), if_pos (show (18 : Int) ≤ 18 by decide), sS_adr ha, show ssz 18 = 4 by decide, if_pos h, sS_2, show nxt (sS a v y) = 1028 by unfold nxt; rw [sS_pc]; rfl]
  rw [if_pos (show (0 : Int) ≤ 2 by decide)]
theorem no_sw (hy : encS 18 0 1 2 0 = y) (h : canB a 4 = false) : hstep (sS a v y) = (4, (sS a v y).setWhy a) := by
  rw [sS_step W_sw hy]; unfold hdo
  rw [if_neg (show ¬ (18 : Int) = 1 by decide), if_neg (show ¬ (18 : Int) = 2 by decide), if_neg (show ¬ (18 : Int) = 3 by decide), if_neg (show ¬ (18 : Int) = 4 by decide), if_neg (show ¬ (18 : Int) ≤ 10 by decide), if_neg (show ¬ (18 : Int) ≤ 15 by decide), if_pos (show (18 : Int) ≤ 18 by decide), sS_adr ha, show ssz 18 = 4 by decide, if_neg (show ¬ canB a 4 = true by rw [h]; decide)]
  exact if_neg (show ¬ (4 : Int) ≤ 2 by decide)
theorem st_jr (hy : encS 4 3 1 0 0 = y) (h : evn a % 4 = 0) : hstep (sS a v y) = (0, (putX (sS a v y) 3 1028).setPC (evn a)) := by
  rw [sS_step W_jr hy]; unfold hdo
  rw [if_neg (show ¬ (4 : Int) = 1 by decide), if_neg (show ¬ (4 : Int) = 2 by decide), if_neg (show ¬ (4 : Int) = 3 by decide), if_pos (show (4 : Int) = 4 by decide), sS_adr ha, if_pos h, show nxt (sS a v y) = 1028 by unfold nxt; rw [sS_pc]; rfl]
  rw [if_pos (show (0 : Int) ≤ 2 by decide)]
theorem no_jr (hy : encS 4 3 1 0 0 = y) (h : ¬ evn a % 4 = 0) : hstep (sS a v y) = (5, (sS a v y).setWhy (evn a)) := by
  rw [sS_step W_jr hy]; unfold hdo
  rw [if_neg (show ¬ (4 : Int) = 1 by decide), if_neg (show ¬ (4 : Int) = 2 by decide), if_neg (show ¬ (4 : Int) = 3 by decide), if_pos (show (4 : Int) = 4 by decide), sS_adr ha, if_neg h]
  exact if_neg (show ¬ (5 : Int) ≤ 2 by decide)
end
theorem sw_ld {a v y : Int} (ha : 0 ≤ a ∧ a ≤ 4294967295) (hv : 0 ≤ v ∧ v ≤ 4294967295) (h : canB a 4 = true) : ldV ((stM (sS a v y) a 4 v).setPC 1028) a 4 = v := by
  rw [ldV_setPC]; exact ld_st4 _ ha.1 h hv.1 (by omega)
theorem getX_why (S : HS) (v i : Int) : getX (S.setWhy v) i = getX S i := getX_x rfl i

theorem alloc_then {w w2 : World} {o : Obj} (h : Below (w.alloc o).heap.size (w.alloc o) w2) : Below w.heap.size w w2 :=
  have k : Below w.heap.size w (w.alloc o) := (Below.refl _ _).alloc (Nat.le_refl _) o
  k.trans (h.mono k.size)

def lArr : Array Value := #[.int .i64 13, .int .i64 3, .int .i64 1, .int .i64 0, .int .i32 0, .int .i64 18, .int .i64 0, .int .i64 1, .int .i64 2, .int .i32 0, .int .i64 4, .int .i64 3, .int .i64 1, .int .i64 0, .int .i32 0, .int .i64 12, .int .i64 3, .int .i64 1, .int .i64 0, .int .i32 0]
def lZero : Array Value := #[.int .i64 0, .int .i64 0, .int .i64 0, .int .i64 0, .int .i32 0, .int .i64 0, .int .i64 0, .int .i64 0, .int .i64 0, .int .i32 0, .int .i64 0, .int .i64 0, .int .i64 0, .int .i64 0, .int .i32 0, .int .i64 0, .int .i64 0, .int .i64 0, .int .i64 0, .int .i32 0]
theorem l_zero (w : World) : (zeroValue 44).run Try.prog w = .ok (.agg lZero) w := by kernel_rfl
theorem l_size : (Try.prog.info? 44).map (·.size) = some lArr.size := by kernel_rfl
theorem l_one : ∀ v ∈ lArr.toList, v.oneCell' = true := by decide +kernel
theorem l_cell (w : World) (i : Nat) {v : Value} (h : lArr[i]? = some v) : (w.alloc (.cells lArr 44)).cell? ⟨w.heap.size, i, none⟩ = some v := by
  rw [World.cell?_alloc_new, h]

set_option maxHeartbeats 4000000 in
set_option maxRecDepth 100000 in
theorem stops_0y (a o v : Int) (q0 : 0 ≤ a ∧ a ≤ 4294967295) (q1 : 0 ≤ o ∧ o ≤ 255) (q2 : 0 ≤ v ∧ v ≤ 4294967295) (hk : o % 4 = 0) (hc : canB a 4 = true) (w : World) :
    Calls Try.prog 5 #[.int .u32 a, .int .u8 o, .int .u32 v] w fun e w' => e = .returned (.bool true) ∧ Below w.heap.size w w' := by
  have hk2 : o.tmod 4 = 0 := by rw [Int.tmod_eq_emod_of_nonneg q1.1]; exact hk
  obtain ⟨y, hy⟩ : ∃ y, encS 13 3 1 0 0 = y := ⟨_, rfl⟩
  have gy : 0 ≤ y ∧ y ≤ 4294967295 := by have k := back W_lw (by decide) hy; have l := k.lo; have h := k.hi; omega
  have hg : Good (sS a v y) := sS_good q0 q2 y
  obtain ⟨x4, hx4⟩ : ∃ x, ldV (sS a v y) a 4 = x := ⟨_, rfl⟩
  obtain ⟨x2, hx2⟩ : ∃ x, ldV (sS a v y) a 2 = x := ⟨_, rfl⟩
  obtain ⟨t4, ht4⟩ : ∃ t, canB a 4 = t := ⟨_, rfl⟩
  obtain ⟨t2, ht2⟩ : ∃ t, canB a 2 = t := ⟨_, rfl⟩
  obtain ⟨T, hst⟩ := st_lw (v := v) q0 hy hc
  obtain rfl : t4 = true := by rw [← ht4]; exact hc
  have E := Lib.hid (And.intro hy gy)
  have G := Lib.hid hg
  have Q0 := Lib.hid q0; have X4 := Lib.hid hx4; have X2 := Lib.hid hx2; have T4 := Lib.hid ht4; have T2 := Lib.hid ht2; have ST := Lib.hid hst
  clear hy gy hg hx4 hx2 ht4 ht2 hst
  clear hc
  go_enter Try.func5, Try.ntmps5
  go_wp2_with (first
    | (go_at_call 20; (with_reducible refine (st_is _ _ mb _ h8 G.out ST.out).mono ?_); rintro e v9 ⟨rfl, hM⟩; have h9 := hM.at_; have M9 := Lib.hid hM; clear hM)
    | (go_at_call 15; (with_reducible refine (ld_is _ _ mb _ h7 G.out (a := a) (n := 2) (v := x2) (b := t2) Q0.out X2.out T2.out).mono ?_); rintro e v8 ⟨rfl, hB⟩; have h8 := h7.below hB; have B8 := Lib.hid hB; clear hB)
    | (go_at_call 15; (with_reducible refine (ld_is _ _ mb _ h6 G.out (a := a) (n := 4) (v := x4) (b := true) Q0.out X4.out T4.out).mono ?_); rintro e v7 ⟨rfl, hB⟩; have h7 := h6.below hB; have B7 := Lib.hid hB; clear hB)
    | (go_at_call 13; (with_reducible refine (sto_is _ _ mb _ h5 (a := 1024) (n := 4) (v := y) (b := true) (S' := sS a v y) (by decide) E.out.2 (by decide) rfl).mono ?_); rintro e v6 ⟨rfl, hM⟩; have h6 := hM.at_; have M6 := Lib.hid hM; clear hM)
    | (go_at_call 22; (with_reducible refine (word_is _ W_lw (by decide) E.out.1).mono ?_); rintro e v5 ⟨rfl, hB⟩; have hB' := alloc_then hB; have h5 := h3.below hB'; have B5 := Lib.hid hB'; clear hB hB')
    | (refine Kit.wpList_store_new rfl 44 _ _ rfl v3 lZero 44 rfl rfl lArr rfl (by decide +kernel) l_size l_one ?_; have k0 : (v3.alloc (.cells lArr 44)).cell? ⟨v3.heap.size, 0, none⟩ = some (.int .i64 13) := l_cell v3 0 (by kernel_rfl); have k1 : (v3.alloc (.cells lArr 44)).cell? ⟨v3.heap.size, 1, none⟩ = some (.int .i64 3) := l_cell v3 1 (by kernel_rfl); have k2 : (v3.alloc (.cells lArr 44)).cell? ⟨v3.heap.size, 2, none⟩ = some (.int .i64 1) := l_cell v3 2 (by kernel_rfl); have k3 : (v3.alloc (.cells lArr 44)).cell? ⟨v3.heap.size, 3, none⟩ = some (.int .i64 0) := l_cell v3 3 (by kernel_rfl); have k4 : (v3.alloc (.cells lArr 44)).cell? ⟨v3.heap.size, 4, none⟩ = some (.int .i32 0) := l_cell v3 4 (by kernel_rfl))
    | (refine Kit.wpList_alloc_as (t := 44) rfl rfl lZero (l_zero _) ?_)
    | (refine Kit.wpList_build_as (t := 44) rfl _ rfl (.agg lArr) (by kernel_rfl) ?_)
    | (go_at_call 19; (with_reducible refine (sx_is _ _ mb _ h2 (i := 2) (v := v) (by decide) rfl).mono ?_); rintro e v3 ⟨rfl, hM⟩; have h3 := hM.at_; have M3 := Lib.hid hM; clear hM)
    | (go_at_call 19; (with_reducible refine (sx_is _ _ mb _ h1 (i := 1) (v := a) (by decide) rfl).mono ?_); rintro e v2 ⟨rfl, hM⟩; have h2 := hM.at_; have M2 := Lib.hid hM; clear hM)
    | (go_at_call 11; (with_reducible refine (host_New _).mono ?_); obtain ⟨mb, hmb⟩ : ∃ mb, mb = v0.heap.size := ⟨_, rfl⟩; rw [← hmb]; rintro e v1 ⟨⟨rfl, h1⟩, hB⟩; have B1 := Lib.hid hB; have HMB := Lib.hid hmb; clear hB hmb)
    | (go_at_call 10; (with_reducible refine (law_known _).mono ?_); rintro e v0 ⟨rfl, hB⟩; have B0 := Lib.hid hB; clear hB))
  go_ret
  exact ⟨rfl, below3 B0.out B1.out HMB.out (M2.out.turn.trans (M3.out.turn.trans ((Turn.of_below B5.out).trans (M6.out.turn.trans ((Turn.of_below B7.out).trans ((Turn.of_below B8.out).trans M9.out.turn))))))⟩

set_option maxHeartbeats 4000000 in
set_option maxRecDepth 100000 in
theorem stops_0n (a o v : Int) (q0 : 0 ≤ a ∧ a ≤ 4294967295) (q1 : 0 ≤ o ∧ o ≤ 255) (q2 : 0 ≤ v ∧ v ≤ 4294967295) (hk : o % 4 = 0) (hc : canB a 4 = false) (w : World) :
    Calls Try.prog 5 #[.int .u32 a, .int .u8 o, .int .u32 v] w fun e w' => e = .returned (.bool true) ∧ Below w.heap.size w w' := by
  have hk2 : o.tmod 4 = 0 := by rw [Int.tmod_eq_emod_of_nonneg q1.1]; exact hk
  obtain ⟨y, hy⟩ : ∃ y, encS 13 3 1 0 0 = y := ⟨_, rfl⟩
  have gy : 0 ≤ y ∧ y ≤ 4294967295 := by have k := back W_lw (by decide) hy; have l := k.lo; have h := k.hi; omega
  have hg : Good (sS a v y) := sS_good q0 q2 y
  obtain ⟨x4, hx4⟩ : ∃ x, ldV (sS a v y) a 4 = x := ⟨_, rfl⟩
  obtain ⟨x2, hx2⟩ : ∃ x, ldV (sS a v y) a 2 = x := ⟨_, rfl⟩
  obtain ⟨t4, ht4⟩ : ∃ t, canB a 4 = t := ⟨_, rfl⟩
  obtain ⟨t2, ht2⟩ : ∃ t, canB a 2 = t := ⟨_, rfl⟩
  have hst := no_lw (v := v) q0 hy hc
  obtain rfl : t4 = false := by rw [← ht4]; exact hc
  have E := Lib.hid (And.intro hy gy)
  have G := Lib.hid hg
  have Q0 := Lib.hid q0; have X4 := Lib.hid hx4; have X2 := Lib.hid hx2; have T4 := Lib.hid ht4; have T2 := Lib.hid ht2; have ST := Lib.hid hst
  have PCF := Lib.hid (show ((sS a v y).setWhy a).pc = 1024 from sS_pc a v y)
  have X3 := Lib.hid ((getX_why (sS a v y) a 3).trans (sS_3 a v y))
  clear hy gy hg hx4 hx2 ht4 ht2 hst
  clear hc
  go_enter Try.func5, Try.ntmps5
  go_wp2_with (first
    | (go_at_call 21; (with_reducible refine (x_is _ _ mb _ h9 (i := 3) (v := 0) (by decide) X3.out).mono ?_); rintro e wq ⟨rfl, rfl⟩)
    | (go_at_call 24; (with_reducible refine (pc_is _ _ mb _ h9 (v := 1024) PCF.out).mono ?_); rintro e wq ⟨rfl, rfl⟩)
    | (go_at_call 23; (with_reducible refine (why_is _ _ mb _ h9 (v := a) rfl).mono ?_); rintro e wq ⟨rfl, rfl⟩)
    | (go_at_call 20; (with_reducible refine (st_is _ _ mb _ h8 G.out ST.out).mono ?_); rintro e v9 ⟨rfl, hM⟩; have h9 := hM.at_; have M9 := Lib.hid hM; clear hM)
    | (go_at_call 15; (with_reducible refine (ld_is _ _ mb _ h7 G.out (a := a) (n := 2) (v := x2) (b := t2) Q0.out X2.out T2.out).mono ?_); rintro e v8 ⟨rfl, hB⟩; have h8 := h7.below hB; have B8 := Lib.hid hB; clear hB)
    | (go_at_call 15; (with_reducible refine (ld_is _ _ mb _ h6 G.out (a := a) (n := 4) (v := x4) (b := false) Q0.out X4.out T4.out).mono ?_); rintro e v7 ⟨rfl, hB⟩; have h7 := h6.below hB; have B7 := Lib.hid hB; clear hB)
    | (go_at_call 13; (with_reducible refine (sto_is _ _ mb _ h5 (a := 1024) (n := 4) (v := y) (b := true) (S' := sS a v y) (by decide) E.out.2 (by decide) rfl).mono ?_); rintro e v6 ⟨rfl, hM⟩; have h6 := hM.at_; have M6 := Lib.hid hM; clear hM)
    | (go_at_call 22; (with_reducible refine (word_is _ W_lw (by decide) E.out.1).mono ?_); rintro e v5 ⟨rfl, hB⟩; have hB' := alloc_then hB; have h5 := h3.below hB'; have B5 := Lib.hid hB'; clear hB hB')
    | (refine Kit.wpList_store_new rfl 44 _ _ rfl v3 lZero 44 rfl rfl lArr rfl (by decide +kernel) l_size l_one ?_; have k0 : (v3.alloc (.cells lArr 44)).cell? ⟨v3.heap.size, 0, none⟩ = some (.int .i64 13) := l_cell v3 0 (by kernel_rfl); have k1 : (v3.alloc (.cells lArr 44)).cell? ⟨v3.heap.size, 1, none⟩ = some (.int .i64 3) := l_cell v3 1 (by kernel_rfl); have k2 : (v3.alloc (.cells lArr 44)).cell? ⟨v3.heap.size, 2, none⟩ = some (.int .i64 1) := l_cell v3 2 (by kernel_rfl); have k3 : (v3.alloc (.cells lArr 44)).cell? ⟨v3.heap.size, 3, none⟩ = some (.int .i64 0) := l_cell v3 3 (by kernel_rfl); have k4 : (v3.alloc (.cells lArr 44)).cell? ⟨v3.heap.size, 4, none⟩ = some (.int .i32 0) := l_cell v3 4 (by kernel_rfl))
    | (refine Kit.wpList_alloc_as (t := 44) rfl rfl lZero (l_zero _) ?_)
    | (refine Kit.wpList_build_as (t := 44) rfl _ rfl (.agg lArr) (by kernel_rfl) ?_)
    | (go_at_call 19; (with_reducible refine (sx_is _ _ mb _ h2 (i := 2) (v := v) (by decide) rfl).mono ?_); rintro e v3 ⟨rfl, hM⟩; have h3 := hM.at_; have M3 := Lib.hid hM; clear hM)
    | (go_at_call 19; (with_reducible refine (sx_is _ _ mb _ h1 (i := 1) (v := a) (by decide) rfl).mono ?_); rintro e v2 ⟨rfl, hM⟩; have h2 := hM.at_; have M2 := Lib.hid hM; clear hM)
    | (go_at_call 11; (with_reducible refine (host_New _).mono ?_); obtain ⟨mb, hmb⟩ : ∃ mb, mb = v0.heap.size := ⟨_, rfl⟩; rw [← hmb]; rintro e v1 ⟨⟨rfl, h1⟩, hB⟩; have B1 := Lib.hid hB; have HMB := Lib.hid hmb; clear hB hmb)
    | (go_at_call 10; (with_reducible refine (law_known _).mono ?_); rintro e v0 ⟨rfl, hB⟩; have B0 := Lib.hid hB; clear hB))
  go_ret
  exact ⟨rfl, below3 B0.out B1.out HMB.out (M2.out.turn.trans (M3.out.turn.trans ((Turn.of_below B5.out).trans (M6.out.turn.trans ((Turn.of_below B7.out).trans ((Turn.of_below B8.out).trans M9.out.turn))))))⟩

set_option maxHeartbeats 4000000 in
set_option maxRecDepth 100000 in
theorem stops_1y (a o v : Int) (q0 : 0 ≤ a ∧ a ≤ 4294967295) (q1 : 0 ≤ o ∧ o ≤ 255) (q2 : 0 ≤ v ∧ v ≤ 4294967295) (hk : o % 4 = 1) (hc : canB a 4 = true) (w : World) :
    Calls Try.prog 5 #[.int .u32 a, .int .u8 o, .int .u32 v] w fun e w' => e = .returned (.bool true) ∧ Below w.heap.size w w' := by
  have hk2 : o.tmod 4 = 1 := by rw [Int.tmod_eq_emod_of_nonneg q1.1]; exact hk
  obtain ⟨y, hy⟩ : ∃ y, encS 18 0 1 2 0 = y := ⟨_, rfl⟩
  have gy : 0 ≤ y ∧ y ≤ 4294967295 := by have k := back W_sw (by decide) hy; have l := k.lo; have h := k.hi; omega
  have hg : Good (sS a v y) := sS_good q0 q2 y
  obtain ⟨x4, hx4⟩ : ∃ x, ldV (sS a v y) a 4 = x := ⟨_, rfl⟩
  obtain ⟨x2, hx2⟩ : ∃ x, ldV (sS a v y) a 2 = x := ⟨_, rfl⟩
  obtain ⟨t4, ht4⟩ : ∃ t, canB a 4 = t := ⟨_, rfl⟩
  obtain ⟨t2, ht2⟩ : ∃ t, canB a 2 = t := ⟨_, rfl⟩
  have hst := st_sw (v := v) q0 hy hc
  obtain rfl : t4 = true := by rw [← ht4]; exact hc
  have E := Lib.hid (And.intro hy gy)
  have G := Lib.hid hg
  have Q0 := Lib.hid q0; have X4 := Lib.hid hx4; have X2 := Lib.hid hx2; have T4 := Lib.hid ht4; have T2 := Lib.hid ht2; have ST := Lib.hid hst
  have GT := Lib.hid (show Good ((stM (sS a v y) a 4 v).setPC 1028) from (stM_good hg _ _ _).setPC (by decide))
  have X5 := Lib.hid (sw_ld (y := y) q0 q2 hc)
  clear hy gy hg hx4 hx2 ht4 ht2 hst
  clear hc
  go_enter Try.func5, Try.ntmps5
  go_wp2_with (first
    | (go_at_call 15; (with_reducible refine (ld_is _ _ mb _ h9 GT.out (a := a) (n := 4) (v := v) (b := true) Q0.out X5.out T4.out).mono ?_); rintro e v10 ⟨rfl, hB⟩; have h10 := h9.below hB; have B10 := Lib.hid hB; clear hB)
    | (go_at_call 20; (with_reducible refine (st_is _ _ mb _ h8 G.out ST.out).mono ?_); rintro e v9 ⟨rfl, hM⟩; have h9 := hM.at_; have M9 := Lib.hid hM; clear hM)
    | (go_at_call 15; (with_reducible refine (ld_is _ _ mb _ h7 G.out (a := a) (n := 2) (v := x2) (b := t2) Q0.out X2.out T2.out).mono ?_); rintro e v8 ⟨rfl, hB⟩; have h8 := h7.below hB; have B8 := Lib.hid hB; clear hB)
    | (go_at_call 15; (with_reducible refine (ld_is _ _ mb _ h6 G.out (a := a) (n := 4) (v := x4) (b := true) Q0.out X4.out T4.out).mono ?_); rintro e v7 ⟨rfl, hB⟩; have h7 := h6.below hB; have B7 := Lib.hid hB; clear hB)
    | (go_at_call 13; (with_reducible refine (sto_is _ _ mb _ h5 (a := 1024) (n := 4) (v := y) (b := true) (S' := sS a v y) (by decide) E.out.2 (by decide) rfl).mono ?_); rintro e v6 ⟨rfl, hM⟩; have h6 := hM.at_; have M6 := Lib.hid hM; clear hM)
    | (go_at_call 22; (with_reducible refine (word_is _ W_sw (by decide) E.out.1).mono ?_); rintro e v5 ⟨rfl, hB⟩; have hB' := alloc_then hB; have h5 := h3.below hB'; have B5 := Lib.hid hB'; clear hB hB')
    | (refine Kit.wpList_store_new rfl 44 _ _ rfl v3 lZero 44 rfl rfl lArr rfl (by decide +kernel) l_size l_one ?_; have k0 : (v3.alloc (.cells lArr 44)).cell? ⟨v3.heap.size, 5, none⟩ = some (.int .i64 18) := l_cell v3 5 (by kernel_rfl); have k1 : (v3.alloc (.cells lArr 44)).cell? ⟨v3.heap.size, 6, none⟩ = some (.int .i64 0) := l_cell v3 6 (by kernel_rfl); have k2 : (v3.alloc (.cells lArr 44)).cell? ⟨v3.heap.size, 7, none⟩ = some (.int .i64 1) := l_cell v3 7 (by kernel_rfl); have k3 : (v3.alloc (.cells lArr 44)).cell? ⟨v3.heap.size, 8, none⟩ = some (.int .i64 2) := l_cell v3 8 (by kernel_rfl); have k4 : (v3.alloc (.cells lArr 44)).cell? ⟨v3.heap.size, 9, none⟩ = some (.int .i32 0) := l_cell v3 9 (by kernel_rfl))
    | (refine Kit.wpList_alloc_as (t := 44) rfl rfl lZero (l_zero _) ?_)
    | (refine Kit.wpList_build_as (t := 44) rfl _ rfl (.agg lArr) (by kernel_rfl) ?_)
    | (go_at_call 19; (with_reducible refine (sx_is _ _ mb _ h2 (i := 2) (v := v) (by decide) rfl).mono ?_); rintro e v3 ⟨rfl, hM⟩; have h3 := hM.at_; have M3 := Lib.hid hM; clear hM)
    | (go_at_call 19; (with_reducible refine (sx_is _ _ mb _ h1 (i := 1) (v := a) (by decide) rfl).mono ?_); rintro e v2 ⟨rfl, hM⟩; have h2 := hM.at_; have M2 := Lib.hid hM; clear hM)
    | (go_at_call 11; (with_reducible refine (host_New _).mono ?_); obtain ⟨mb, hmb⟩ : ∃ mb, mb = v0.heap.size := ⟨_, rfl⟩; rw [← hmb]; rintro e v1 ⟨⟨rfl, h1⟩, hB⟩; have B1 := Lib.hid hB; have HMB := Lib.hid hmb; clear hB hmb)
    | (go_at_call 10; (with_reducible refine (law_known _).mono ?_); rintro e v0 ⟨rfl, hB⟩; have B0 := Lib.hid hB; clear hB))
  go_ret
  exact ⟨rfl, below3 B0.out B1.out HMB.out (M2.out.turn.trans (M3.out.turn.trans ((Turn.of_below B5.out).trans (M6.out.turn.trans ((Turn.of_below B7.out).trans ((Turn.of_below B8.out).trans (M9.out.turn.trans (Turn.of_below B10.out))))))))⟩

set_option maxHeartbeats 4000000 in
set_option maxRecDepth 100000 in
theorem stops_1n (a o v : Int) (q0 : 0 ≤ a ∧ a ≤ 4294967295) (q1 : 0 ≤ o ∧ o ≤ 255) (q2 : 0 ≤ v ∧ v ≤ 4294967295) (hk : o % 4 = 1) (hc : canB a 4 = false) (w : World) :
    Calls Try.prog 5 #[.int .u32 a, .int .u8 o, .int .u32 v] w fun e w' => e = .returned (.bool true) ∧ Below w.heap.size w w' := by
  have hk2 : o.tmod 4 = 1 := by rw [Int.tmod_eq_emod_of_nonneg q1.1]; exact hk
  obtain ⟨y, hy⟩ : ∃ y, encS 18 0 1 2 0 = y := ⟨_, rfl⟩
  have gy : 0 ≤ y ∧ y ≤ 4294967295 := by have k := back W_sw (by decide) hy; have l := k.lo; have h := k.hi; omega
  have hg : Good (sS a v y) := sS_good q0 q2 y
  obtain ⟨x4, hx4⟩ : ∃ x, ldV (sS a v y) a 4 = x := ⟨_, rfl⟩
  obtain ⟨x2, hx2⟩ : ∃ x, ldV (sS a v y) a 2 = x := ⟨_, rfl⟩
  obtain ⟨t4, ht4⟩ : ∃ t, canB a 4 = t := ⟨_, rfl⟩
  obtain ⟨t2, ht2⟩ : ∃ t, canB a 2 = t := ⟨_, rfl⟩
  have hst := no_sw (v := v) q0 hy hc
  obtain rfl : t4 = false := by rw [← ht4]; exact hc
  have E := Lib.hid (And.intro hy gy)
  have G := Lib.hid hg
  have Q0 := Lib.hid q0; have X4 := Lib.hid hx4; have X2 := Lib.hid hx2; have T4 := Lib.hid ht4; have T2 := Lib.hid ht2; have ST := Lib.hid hst
  have GT := Lib.hid (show Good ((sS a v y).setWhy a) from hg.setWhy q0)
  obtain ⟨x5, hx5⟩ : ∃ x, ldV ((sS a v y).setWhy a) a 4 = x := ⟨_, rfl⟩
  have X5 := Lib.hid hx5; clear hx5
  have PCF := Lib.hid (show ((sS a v y).setWhy a).pc = 1024 from sS_pc a v y)
  clear hy gy hg hx4 hx2 ht4 ht2 hst
  clear hc
  go_enter Try.func5, Try.ntmps5
  go_wp2_with (first
    | (go_at_call 24; (with_reducible refine (pc_is _ _ mb _ h10 (v := 1024) PCF.out).mono ?_); rintro e wq ⟨rfl, rfl⟩)
    | (go_at_call 23; (with_reducible refine (why_is _ _ mb _ h10 (v := a) rfl).mono ?_); rintro e wq ⟨rfl, rfl⟩)
    | (go_at_call 15; (with_reducible refine (ld_is _ _ mb _ h9 GT.out (a := a) (n := 4) (v := x5) (b := false) Q0.out X5.out T4.out).mono ?_); rintro e v10 ⟨rfl, hB⟩; have h10 := h9.below hB; have B10 := Lib.hid hB; clear hB)
    | (go_at_call 20; (with_reducible refine (st_is _ _ mb _ h8 G.out ST.out).mono ?_); rintro e v9 ⟨rfl, hM⟩; have h9 := hM.at_; have M9 := Lib.hid hM; clear hM)
    | (go_at_call 15; (with_reducible refine (ld_is _ _ mb _ h7 G.out (a := a) (n := 2) (v := x2) (b := t2) Q0.out X2.out T2.out).mono ?_); rintro e v8 ⟨rfl, hB⟩; have h8 := h7.below hB; have B8 := Lib.hid hB; clear hB)
    | (go_at_call 15; (with_reducible refine (ld_is _ _ mb _ h6 G.out (a := a) (n := 4) (v := x4) (b := false) Q0.out X4.out T4.out).mono ?_); rintro e v7 ⟨rfl, hB⟩; have h7 := h6.below hB; have B7 := Lib.hid hB; clear hB)
    | (go_at_call 13; (with_reducible refine (sto_is _ _ mb _ h5 (a := 1024) (n := 4) (v := y) (b := true) (S' := sS a v y) (by decide) E.out.2 (by decide) rfl).mono ?_); rintro e v6 ⟨rfl, hM⟩; have h6 := hM.at_; have M6 := Lib.hid hM; clear hM)
    | (go_at_call 22; (with_reducible refine (word_is _ W_sw (by decide) E.out.1).mono ?_); rintro e v5 ⟨rfl, hB⟩; have hB' := alloc_then hB; have h5 := h3.below hB'; have B5 := Lib.hid hB'; clear hB hB')
    | (refine Kit.wpList_store_new rfl 44 _ _ rfl v3 lZero 44 rfl rfl lArr rfl (by decide +kernel) l_size l_one ?_; have k0 : (v3.alloc (.cells lArr 44)).cell? ⟨v3.heap.size, 5, none⟩ = some (.int .i64 18) := l_cell v3 5 (by kernel_rfl); have k1 : (v3.alloc (.cells lArr 44)).cell? ⟨v3.heap.size, 6, none⟩ = some (.int .i64 0) := l_cell v3 6 (by kernel_rfl); have k2 : (v3.alloc (.cells lArr 44)).cell? ⟨v3.heap.size, 7, none⟩ = some (.int .i64 1) := l_cell v3 7 (by kernel_rfl); have k3 : (v3.alloc (.cells lArr 44)).cell? ⟨v3.heap.size, 8, none⟩ = some (.int .i64 2) := l_cell v3 8 (by kernel_rfl); have k4 : (v3.alloc (.cells lArr 44)).cell? ⟨v3.heap.size, 9, none⟩ = some (.int .i32 0) := l_cell v3 9 (by kernel_rfl))
    | (refine Kit.wpList_alloc_as (t := 44) rfl rfl lZero (l_zero _) ?_)
    | (refine Kit.wpList_build_as (t := 44) rfl _ rfl (.agg lArr) (by kernel_rfl) ?_)
    | (go_at_call 19; (with_reducible refine (sx_is _ _ mb _ h2 (i := 2) (v := v) (by decide) rfl).mono ?_); rintro e v3 ⟨rfl, hM⟩; have h3 := hM.at_; have M3 := Lib.hid hM; clear hM)
    | (go_at_call 19; (with_reducible refine (sx_is _ _ mb _ h1 (i := 1) (v := a) (by decide) rfl).mono ?_); rintro e v2 ⟨rfl, hM⟩; have h2 := hM.at_; have M2 := Lib.hid hM; clear hM)
    | (go_at_call 11; (with_reducible refine (host_New _).mono ?_); obtain ⟨mb, hmb⟩ : ∃ mb, mb = v0.heap.size := ⟨_, rfl⟩; rw [← hmb]; rintro e v1 ⟨⟨rfl, h1⟩, hB⟩; have B1 := Lib.hid hB; have HMB := Lib.hid hmb; clear hB hmb)
    | (go_at_call 10; (with_reducible refine (law_known _).mono ?_); rintro e v0 ⟨rfl, hB⟩; have B0 := Lib.hid hB; clear hB))
  go_ret
  exact ⟨rfl, below3 B0.out B1.out HMB.out (M2.out.turn.trans (M3.out.turn.trans ((Turn.of_below B5.out).trans (M6.out.turn.trans ((Turn.of_below B7.out).trans ((Turn.of_below B8.out).trans (M9.out.turn.trans (Turn.of_below B10.out))))))))⟩

set_option maxHeartbeats 4000000 in
set_option maxRecDepth 100000 in
theorem stops_2y (a o v : Int) (q0 : 0 ≤ a ∧ a ≤ 4294967295) (q1 : 0 ≤ o ∧ o ≤ 255) (q2 : 0 ≤ v ∧ v ≤ 4294967295) (hk : o % 4 = 2) (hc : evn a % 4 = 0) (w : World) :
    Calls Try.prog 5 #[.int .u32 a, .int .u8 o, .int .u32 v] w fun e w' => e = .returned (.bool true) ∧ Below w.heap.size w w' := by
  have hk2 : o.tmod 4 = 2 := by rw [Int.tmod_eq_emod_of_nonneg q1.1]; exact hk
  obtain ⟨y, hy⟩ : ∃ y, encS 4 3 1 0 0 = y := ⟨_, rfl⟩
  have gy : 0 ≤ y ∧ y ≤ 4294967295 := by have k := back W_jr (by decide) hy; have l := k.lo; have h := k.hi; omega
  have hg : Good (sS a v y) := sS_good q0 q2 y
  obtain ⟨x4, hx4⟩ : ∃ x, ldV (sS a v y) a 4 = x := ⟨_, rfl⟩
  obtain ⟨x2, hx2⟩ : ∃ x, ldV (sS a v y) a 2 = x := ⟨_, rfl⟩
  obtain ⟨t4, ht4⟩ : ∃ t, canB a 4 = t := ⟨_, rfl⟩
  obtain ⟨t2, ht2⟩ : ∃ t, canB a 2 = t := ⟨_, rfl⟩
  have hst := st_jr (v := v) q0 hy hc
  have E := Lib.hid (And.intro hy gy)
  have G := Lib.hid hg
  have Q0 := Lib.hid q0; have X4 := Lib.hid hx4; have X2 := Lib.hid hx2; have T4 := Lib.hid ht4; have T2 := Lib.hid ht2; have ST := Lib.hid hst
  have PCF := Lib.hid (show ((putX (sS a v y) 3 1028).setPC (evn a)).pc = evn a from rfl)
  have X3 := Lib.hid (show getX ((putX (sS a v y) 3 1028).setPC (evn a)) 3 = 1028 by rw [getX_setPC, getX_put (by decide)])
  have hev : bits .andNot .u32 a 1 = evn a := even_u32 a q0.1 (by omega)
  have hm : (evn a).tmod 4 = evn a % 4 := Int.tmod_eq_emod_of_nonneg (evn_bd q0).1
  clear hy gy hg hx4 hx2 ht4 ht2 hst
  go_enter Try.func5, Try.ntmps5
  go_wp2_with (first
    | (go_at_call 21; (with_reducible refine (x_is _ _ mb _ h9 (i := 3) (v := 1028) (by decide) X3.out).mono ?_); rintro e wq ⟨rfl, rfl⟩)
    | (go_at_call 24; (with_reducible refine (pc_is _ _ mb _ h9 (v := evn a) PCF.out).mono ?_); rintro e wq ⟨rfl, rfl⟩)
    | (go_at_call 20; (with_reducible refine (st_is _ _ mb _ h8 G.out ST.out).mono ?_); rintro e v9 ⟨rfl, hM⟩; have h9 := hM.at_; have M9 := Lib.hid hM; clear hM)
    | (go_at_call 15; (with_reducible refine (ld_is _ _ mb _ h7 G.out (a := a) (n := 2) (v := x2) (b := t2) Q0.out X2.out T2.out).mono ?_); rintro e v8 ⟨rfl, hB⟩; have h8 := h7.below hB; have B8 := Lib.hid hB; clear hB)
    | (go_at_call 15; (with_reducible refine (ld_is _ _ mb _ h6 G.out (a := a) (n := 4) (v := x4) (b := t4) Q0.out X4.out T4.out).mono ?_); rintro e v7 ⟨rfl, hB⟩; have h7 := h6.below hB; have B7 := Lib.hid hB; clear hB)
    | (go_at_call 13; (with_reducible refine (sto_is _ _ mb _ h5 (a := 1024) (n := 4) (v := y) (b := true) (S' := sS a v y) (by decide) E.out.2 (by decide) rfl).mono ?_); rintro e v6 ⟨rfl, hM⟩; have h6 := hM.at_; have M6 := Lib.hid hM; clear hM)
    | (go_at_call 22; (with_reducible refine (word_is _ W_jr (by decide) E.out.1).mono ?_); rintro e v5 ⟨rfl, hB⟩; have hB' := alloc_then hB; have h5 := h3.below hB'; have B5 := Lib.hid hB'; clear hB hB')
    | (refine Kit.wpList_store_new rfl 44 _ _ rfl v3 lZero 44 rfl rfl lArr rfl (by decide +kernel) l_size l_one ?_; have k0 : (v3.alloc (.cells lArr 44)).cell? ⟨v3.heap.size, 10, none⟩ = some (.int .i64 4) := l_cell v3 10 (by kernel_rfl); have k1 : (v3.alloc (.cells lArr 44)).cell? ⟨v3.heap.size, 11, none⟩ = some (.int .i64 3) := l_cell v3 11 (by kernel_rfl); have k2 : (v3.alloc (.cells lArr 44)).cell? ⟨v3.heap.size, 12, none⟩ = some (.int .i64 1) := l_cell v3 12 (by kernel_rfl); have k3 : (v3.alloc (.cells lArr 44)).cell? ⟨v3.heap.size, 13, none⟩ = some (.int .i64 0) := l_cell v3 13 (by kernel_rfl); have k4 : (v3.alloc (.cells lArr 44)).cell? ⟨v3.heap.size, 14, none⟩ = some (.int .i32 0) := l_cell v3 14 (by kernel_rfl))
    | (refine Kit.wpList_alloc_as (t := 44) rfl rfl lZero (l_zero _) ?_)
    | (refine Kit.wpList_build_as (t := 44) rfl _ rfl (.agg lArr) (by kernel_rfl) ?_)
    | (go_at_call 19; (with_reducible refine (sx_is _ _ mb _ h2 (i := 2) (v := v) (by decide) rfl).mono ?_); rintro e v3 ⟨rfl, hM⟩; have h3 := hM.at_; have M3 := Lib.hid hM; clear hM)
    | (go_at_call 19; (with_reducible refine (sx_is _ _ mb _ h1 (i := 1) (v := a) (by decide) rfl).mono ?_); rintro e v2 ⟨rfl, hM⟩; have h2 := hM.at_; have M2 := Lib.hid hM; clear hM)
    | (go_at_call 11; (with_reducible refine (host_New _).mono ?_); obtain ⟨mb, hmb⟩ : ∃ mb, mb = v0.heap.size := ⟨_, rfl⟩; rw [← hmb]; rintro e v1 ⟨⟨rfl, h1⟩, hB⟩; have B1 := Lib.hid hB; have HMB := Lib.hid hmb; clear hB hmb)
    | (go_at_call 10; (with_reducible refine (law_known _).mono ?_); rintro e v0 ⟨rfl, hB⟩; have B0 := Lib.hid hB; clear hB))
  go_ret
  exact ⟨by simp [hc], below3 B0.out B1.out HMB.out (M2.out.turn.trans (M3.out.turn.trans ((Turn.of_below B5.out).trans (M6.out.turn.trans ((Turn.of_below B7.out).trans ((Turn.of_below B8.out).trans M9.out.turn))))))⟩

set_option maxHeartbeats 4000000 in
set_option maxRecDepth 100000 in
theorem stops_2n (a o v : Int) (q0 : 0 ≤ a ∧ a ≤ 4294967295) (q1 : 0 ≤ o ∧ o ≤ 255) (q2 : 0 ≤ v ∧ v ≤ 4294967295) (hk : o % 4 = 2) (hc : ¬ evn a % 4 = 0) (w : World) :
    Calls Try.prog 5 #[.int .u32 a, .int .u8 o, .int .u32 v] w fun e w' => e = .returned (.bool true) ∧ Below w.heap.size w w' := by
  have hk2 : o.tmod 4 = 2 := by rw [Int.tmod_eq_emod_of_nonneg q1.1]; exact hk
  obtain ⟨y, hy⟩ : ∃ y, encS 4 3 1 0 0 = y := ⟨_, rfl⟩
  have gy : 0 ≤ y ∧ y ≤ 4294967295 := by have k := back W_jr (by decide) hy; have l := k.lo; have h := k.hi; omega
  have hg : Good (sS a v y) := sS_good q0 q2 y
  obtain ⟨x4, hx4⟩ : ∃ x, ldV (sS a v y) a 4 = x := ⟨_, rfl⟩
  obtain ⟨x2, hx2⟩ : ∃ x, ldV (sS a v y) a 2 = x := ⟨_, rfl⟩
  obtain ⟨t4, ht4⟩ : ∃ t, canB a 4 = t := ⟨_, rfl⟩
  obtain ⟨t2, ht2⟩ : ∃ t, canB a 2 = t := ⟨_, rfl⟩
  have hst := no_jr (v := v) q0 hy hc
  have E := Lib.hid (And.intro hy gy)
  have G := Lib.hid hg
  have Q0 := Lib.hid q0; have X4 := Lib.hid hx4; have X2 := Lib.hid hx2; have T4 := Lib.hid ht4; have T2 := Lib.hid ht2; have ST := Lib.hid hst
  have X3 := Lib.hid ((getX_why (sS a v y) (evn a) 3).trans (sS_3 a v y))
  have hev : bits .andNot .u32 a 1 = evn a := even_u32 a q0.1 (by omega)
  have hm : (evn a).tmod 4 = evn a % 4 := Int.tmod_eq_emod_of_nonneg (evn_bd q0).1
  clear hy gy hg hx4 hx2 ht4 ht2 hst
  go_enter Try.func5, Try.ntmps5
  go_wp2_with (first
    | (go_at_call 21; (with_reducible refine (x_is _ _ mb _ h9 (i := 3) (v := 0) (by decide) X3.out).mono ?_); rintro e wq ⟨rfl, rfl⟩)
    | (go_at_call 23; (with_reducible refine (why_is _ _ mb _ h9 (v := evn a) rfl).mono ?_); rintro e wq ⟨rfl, rfl⟩)
    | (go_at_call 20; (with_reducible refine (st_is _ _ mb _ h8 G.out ST.out).mono ?_); rintro e v9 ⟨rfl, hM⟩; have h9 := hM.at_; have M9 := Lib.hid hM; clear hM)
    | (go_at_call 15; (with_reducible refine (ld_is _ _ mb _ h7 G.out (a := a) (n := 2) (v := x2) (b := t2) Q0.out X2.out T2.out).mono ?_); rintro e v8 ⟨rfl, hB⟩; have h8 := h7.below hB; have B8 := Lib.hid hB; clear hB)
    | (go_at_call 15; (with_reducible refine (ld_is _ _ mb _ h6 G.out (a := a) (n := 4) (v := x4) (b := t4) Q0.out X4.out T4.out).mono ?_); rintro e v7 ⟨rfl, hB⟩; have h7 := h6.below hB; have B7 := Lib.hid hB; clear hB)
    | (go_at_call 13; (with_reducible refine (sto_is _ _ mb _ h5 (a := 1024) (n := 4) (v := y) (b := true) (S' := sS a v y) (by decide) E.out.2 (by decide) rfl).mono ?_); rintro e v6 ⟨rfl, hM⟩; have h6 := hM.at_; have M6 := Lib.hid hM; clear hM)
    | (go_at_call 22; (with_reducible refine (word_is _ W_jr (by decide) E.out.1).mono ?_); rintro e v5 ⟨rfl, hB⟩; have hB' := alloc_then hB; have h5 := h3.below hB'; have B5 := Lib.hid hB'; clear hB hB')
    | (refine Kit.wpList_store_new rfl 44 _ _ rfl v3 lZero 44 rfl rfl lArr rfl (by decide +kernel) l_size l_one ?_; have k0 : (v3.alloc (.cells lArr 44)).cell? ⟨v3.heap.size, 10, none⟩ = some (.int .i64 4) := l_cell v3 10 (by kernel_rfl); have k1 : (v3.alloc (.cells lArr 44)).cell? ⟨v3.heap.size, 11, none⟩ = some (.int .i64 3) := l_cell v3 11 (by kernel_rfl); have k2 : (v3.alloc (.cells lArr 44)).cell? ⟨v3.heap.size, 12, none⟩ = some (.int .i64 1) := l_cell v3 12 (by kernel_rfl); have k3 : (v3.alloc (.cells lArr 44)).cell? ⟨v3.heap.size, 13, none⟩ = some (.int .i64 0) := l_cell v3 13 (by kernel_rfl); have k4 : (v3.alloc (.cells lArr 44)).cell? ⟨v3.heap.size, 14, none⟩ = some (.int .i32 0) := l_cell v3 14 (by kernel_rfl))
    | (refine Kit.wpList_alloc_as (t := 44) rfl rfl lZero (l_zero _) ?_)
    | (refine Kit.wpList_build_as (t := 44) rfl _ rfl (.agg lArr) (by kernel_rfl) ?_)
    | (go_at_call 19; (with_reducible refine (sx_is _ _ mb _ h2 (i := 2) (v := v) (by decide) rfl).mono ?_); rintro e v3 ⟨rfl, hM⟩; have h3 := hM.at_; have M3 := Lib.hid hM; clear hM)
    | (go_at_call 19; (with_reducible refine (sx_is _ _ mb _ h1 (i := 1) (v := a) (by decide) rfl).mono ?_); rintro e v2 ⟨rfl, hM⟩; have h2 := hM.at_; have M2 := Lib.hid hM; clear hM)
    | (go_at_call 11; (with_reducible refine (host_New _).mono ?_); obtain ⟨mb, hmb⟩ : ∃ mb, mb = v0.heap.size := ⟨_, rfl⟩; rw [← hmb]; rintro e v1 ⟨⟨rfl, h1⟩, hB⟩; have B1 := Lib.hid hB; have HMB := Lib.hid hmb; clear hB hmb)
    | (go_at_call 10; (with_reducible refine (law_known _).mono ?_); rintro e v0 ⟨rfl, hB⟩; have B0 := Lib.hid hB; clear hB))
  go_ret
  exact ⟨by simp [hc], below3 B0.out B1.out HMB.out (M2.out.turn.trans (M3.out.turn.trans ((Turn.of_below B5.out).trans (M6.out.turn.trans ((Turn.of_below B7.out).trans ((Turn.of_below B8.out).trans M9.out.turn))))))⟩

set_option maxHeartbeats 4000000 in
set_option maxRecDepth 100000 in
theorem stops_3y (a o v : Int) (q0 : 0 ≤ a ∧ a ≤ 4294967295) (q1 : 0 ≤ o ∧ o ≤ 255) (q2 : 0 ≤ v ∧ v ≤ 4294967295) (hk : o % 4 = 3) (hc : canB a 2 = true) (w : World) :
    Calls Try.prog 5 #[.int .u32 a, .int .u8 o, .int .u32 v] w fun e w' => e = .returned (.bool true) ∧ Below w.heap.size w w' := by
  have hk2 : o.tmod 4 = 3 := by rw [Int.tmod_eq_emod_of_nonneg q1.1]; exact hk
  obtain ⟨y, hy⟩ : ∃ y, encS 12 3 1 0 0 = y := ⟨_, rfl⟩
  have gy : 0 ≤ y ∧ y ≤ 4294967295 := by have k := back W_lh (by decide) hy; have l := k.lo; have h := k.hi; omega
  have hg : Good (sS a v y) := sS_good q0 q2 y
  obtain ⟨x4, hx4⟩ : ∃ x, ldV (sS a v y) a 4 = x := ⟨_, rfl⟩
  obtain ⟨x2, hx2⟩ : ∃ x, ldV (sS a v y) a 2 = x := ⟨_, rfl⟩
  obtain ⟨t4, ht4⟩ : ∃ t, canB a 4 = t := ⟨_, rfl⟩
  obtain ⟨t2, ht2⟩ : ∃ t, canB a 2 = t := ⟨_, rfl⟩
  obtain ⟨T, hst⟩ := st_lh (v := v) q0 hy hc
  obtain rfl : t2 = true := by rw [← ht2]; exact hc
  have E := Lib.hid (And.intro hy gy)
  have G := Lib.hid hg
  have Q0 := Lib.hid q0; have X4 := Lib.hid hx4; have X2 := Lib.hid hx2; have T4 := Lib.hid ht4; have T2 := Lib.hid ht2; have ST := Lib.hid hst
  clear hy gy hg hx4 hx2 ht4 ht2 hst
  clear hc
  go_enter Try.func5, Try.ntmps5
  go_wp2_with (first
    | (go_at_call 20; (with_reducible refine (st_is _ _ mb _ h8 G.out ST.out).mono ?_); rintro e v9 ⟨rfl, hM⟩; have h9 := hM.at_; have M9 := Lib.hid hM; clear hM)
    | (go_at_call 15; (with_reducible refine (ld_is _ _ mb _ h7 G.out (a := a) (n := 2) (v := x2) (b := true) Q0.out X2.out T2.out).mono ?_); rintro e v8 ⟨rfl, hB⟩; have h8 := h7.below hB; have B8 := Lib.hid hB; clear hB)
    | (go_at_call 15; (with_reducible refine (ld_is _ _ mb _ h6 G.out (a := a) (n := 4) (v := x4) (b := t4) Q0.out X4.out T4.out).mono ?_); rintro e v7 ⟨rfl, hB⟩; have h7 := h6.below hB; have B7 := Lib.hid hB; clear hB)
    | (go_at_call 13; (with_reducible refine (sto_is _ _ mb _ h5 (a := 1024) (n := 4) (v := y) (b := true) (S' := sS a v y) (by decide) E.out.2 (by decide) rfl).mono ?_); rintro e v6 ⟨rfl, hM⟩; have h6 := hM.at_; have M6 := Lib.hid hM; clear hM)
    | (go_at_call 22; (with_reducible refine (word_is _ W_lh (by decide) E.out.1).mono ?_); rintro e v5 ⟨rfl, hB⟩; have hB' := alloc_then hB; have h5 := h3.below hB'; have B5 := Lib.hid hB'; clear hB hB')
    | (refine Kit.wpList_store_new rfl 44 _ _ rfl v3 lZero 44 rfl rfl lArr rfl (by decide +kernel) l_size l_one ?_; have k0 : (v3.alloc (.cells lArr 44)).cell? ⟨v3.heap.size, 15, none⟩ = some (.int .i64 12) := l_cell v3 15 (by kernel_rfl); have k1 : (v3.alloc (.cells lArr 44)).cell? ⟨v3.heap.size, 16, none⟩ = some (.int .i64 3) := l_cell v3 16 (by kernel_rfl); have k2 : (v3.alloc (.cells lArr 44)).cell? ⟨v3.heap.size, 17, none⟩ = some (.int .i64 1) := l_cell v3 17 (by kernel_rfl); have k3 : (v3.alloc (.cells lArr 44)).cell? ⟨v3.heap.size, 18, none⟩ = some (.int .i64 0) := l_cell v3 18 (by kernel_rfl); have k4 : (v3.alloc (.cells lArr 44)).cell? ⟨v3.heap.size, 19, none⟩ = some (.int .i32 0) := l_cell v3 19 (by kernel_rfl))
    | (refine Kit.wpList_alloc_as (t := 44) rfl rfl lZero (l_zero _) ?_)
    | (refine Kit.wpList_build_as (t := 44) rfl _ rfl (.agg lArr) (by kernel_rfl) ?_)
    | (go_at_call 19; (with_reducible refine (sx_is _ _ mb _ h2 (i := 2) (v := v) (by decide) rfl).mono ?_); rintro e v3 ⟨rfl, hM⟩; have h3 := hM.at_; have M3 := Lib.hid hM; clear hM)
    | (go_at_call 19; (with_reducible refine (sx_is _ _ mb _ h1 (i := 1) (v := a) (by decide) rfl).mono ?_); rintro e v2 ⟨rfl, hM⟩; have h2 := hM.at_; have M2 := Lib.hid hM; clear hM)
    | (go_at_call 11; (with_reducible refine (host_New _).mono ?_); obtain ⟨mb, hmb⟩ : ∃ mb, mb = v0.heap.size := ⟨_, rfl⟩; rw [← hmb]; rintro e v1 ⟨⟨rfl, h1⟩, hB⟩; have B1 := Lib.hid hB; have HMB := Lib.hid hmb; clear hB hmb)
    | (go_at_call 10; (with_reducible refine (law_known _).mono ?_); rintro e v0 ⟨rfl, hB⟩; have B0 := Lib.hid hB; clear hB))
  go_ret
  exact ⟨rfl, below3 B0.out B1.out HMB.out (M2.out.turn.trans (M3.out.turn.trans ((Turn.of_below B5.out).trans (M6.out.turn.trans ((Turn.of_below B7.out).trans ((Turn.of_below B8.out).trans M9.out.turn))))))⟩

set_option maxHeartbeats 4000000 in
set_option maxRecDepth 100000 in
theorem stops_3n (a o v : Int) (q0 : 0 ≤ a ∧ a ≤ 4294967295) (q1 : 0 ≤ o ∧ o ≤ 255) (q2 : 0 ≤ v ∧ v ≤ 4294967295) (hk : o % 4 = 3) (hc : canB a 2 = false) (w : World) :
    Calls Try.prog 5 #[.int .u32 a, .int .u8 o, .int .u32 v] w fun e w' => e = .returned (.bool true) ∧ Below w.heap.size w w' := by
  have hk2 : o.tmod 4 = 3 := by rw [Int.tmod_eq_emod_of_nonneg q1.1]; exact hk
  obtain ⟨y, hy⟩ : ∃ y, encS 12 3 1 0 0 = y := ⟨_, rfl⟩
  have gy : 0 ≤ y ∧ y ≤ 4294967295 := by have k := back W_lh (by decide) hy; have l := k.lo; have h := k.hi; omega
  have hg : Good (sS a v y) := sS_good q0 q2 y
  obtain ⟨x4, hx4⟩ : ∃ x, ldV (sS a v y) a 4 = x := ⟨_, rfl⟩
  obtain ⟨x2, hx2⟩ : ∃ x, ldV (sS a v y) a 2 = x := ⟨_, rfl⟩
  obtain ⟨t4, ht4⟩ : ∃ t, canB a 4 = t := ⟨_, rfl⟩
  obtain ⟨t2, ht2⟩ : ∃ t, canB a 2 = t := ⟨_, rfl⟩
  have hst := no_lh (v := v) q0 hy hc
  obtain rfl : t2 = false := by rw [← ht2]; exact hc
  have E := Lib.hid (And.intro hy gy)
  have G := Lib.hid hg
  have Q0 := Lib.hid q0; have X4 := Lib.hid hx4; have X2 := Lib.hid hx2; have T4 := Lib.hid ht4; have T2 := Lib.hid ht2; have ST := Lib.hid hst
  clear hy gy hg hx4 hx2 ht4 ht2 hst
  clear hc
  go_enter Try.func5, Try.ntmps5
  go_wp2_with (first
    | (go_at_call 20; (with_reducible refine (st_is _ _ mb _ h8 G.out ST.out).mono ?_); rintro e v9 ⟨rfl, hM⟩; have h9 := hM.at_; have M9 := Lib.hid hM; clear hM)
    | (go_at_call 15; (with_reducible refine (ld_is _ _ mb _ h7 G.out (a := a) (n := 2) (v := x2) (b := false) Q0.out X2.out T2.out).mono ?_); rintro e v8 ⟨rfl, hB⟩; have h8 := h7.below hB; have B8 := Lib.hid hB; clear hB)
    | (go_at_call 15; (with_reducible refine (ld_is _ _ mb _ h6 G.out (a := a) (n := 4) (v := x4) (b := t4) Q0.out X4.out T4.out).mono ?_); rintro e v7 ⟨rfl, hB⟩; have h7 := h6.below hB; have B7 := Lib.hid hB; clear hB)
    | (go_at_call 13; (with_reducible refine (sto_is _ _ mb _ h5 (a := 1024) (n := 4) (v := y) (b := true) (S' := sS a v y) (by decide) E.out.2 (by decide) rfl).mono ?_); rintro e v6 ⟨rfl, hM⟩; have h6 := hM.at_; have M6 := Lib.hid hM; clear hM)
    | (go_at_call 22; (with_reducible refine (word_is _ W_lh (by decide) E.out.1).mono ?_); rintro e v5 ⟨rfl, hB⟩; have hB' := alloc_then hB; have h5 := h3.below hB'; have B5 := Lib.hid hB'; clear hB hB')
    | (refine Kit.wpList_store_new rfl 44 _ _ rfl v3 lZero 44 rfl rfl lArr rfl (by decide +kernel) l_size l_one ?_; have k0 : (v3.alloc (.cells lArr 44)).cell? ⟨v3.heap.size, 15, none⟩ = some (.int .i64 12) := l_cell v3 15 (by kernel_rfl); have k1 : (v3.alloc (.cells lArr 44)).cell? ⟨v3.heap.size, 16, none⟩ = some (.int .i64 3) := l_cell v3 16 (by kernel_rfl); have k2 : (v3.alloc (.cells lArr 44)).cell? ⟨v3.heap.size, 17, none⟩ = some (.int .i64 1) := l_cell v3 17 (by kernel_rfl); have k3 : (v3.alloc (.cells lArr 44)).cell? ⟨v3.heap.size, 18, none⟩ = some (.int .i64 0) := l_cell v3 18 (by kernel_rfl); have k4 : (v3.alloc (.cells lArr 44)).cell? ⟨v3.heap.size, 19, none⟩ = some (.int .i32 0) := l_cell v3 19 (by kernel_rfl))
    | (refine Kit.wpList_alloc_as (t := 44) rfl rfl lZero (l_zero _) ?_)
    | (refine Kit.wpList_build_as (t := 44) rfl _ rfl (.agg lArr) (by kernel_rfl) ?_)
    | (go_at_call 19; (with_reducible refine (sx_is _ _ mb _ h2 (i := 2) (v := v) (by decide) rfl).mono ?_); rintro e v3 ⟨rfl, hM⟩; have h3 := hM.at_; have M3 := Lib.hid hM; clear hM)
    | (go_at_call 19; (with_reducible refine (sx_is _ _ mb _ h1 (i := 1) (v := a) (by decide) rfl).mono ?_); rintro e v2 ⟨rfl, hM⟩; have h2 := hM.at_; have M2 := Lib.hid hM; clear hM)
    | (go_at_call 11; (with_reducible refine (host_New _).mono ?_); obtain ⟨mb, hmb⟩ : ∃ mb, mb = v0.heap.size := ⟨_, rfl⟩; rw [← hmb]; rintro e v1 ⟨⟨rfl, h1⟩, hB⟩; have B1 := Lib.hid hB; have HMB := Lib.hid hmb; clear hB hmb)
    | (go_at_call 10; (with_reducible refine (law_known _).mono ?_); rintro e v0 ⟨rfl, hB⟩; have B0 := Lib.hid hB; clear hB))
  go_ret
  exact ⟨rfl, below3 B0.out B1.out HMB.out (M2.out.turn.trans (M3.out.turn.trans ((Turn.of_below B5.out).trans (M6.out.turn.trans ((Turn.of_below B7.out).trans ((Turn.of_below B8.out).trans M9.out.turn))))))⟩

theorem HostStops_walk (a o v : Int) (w0 : (Lit.int .u32 a).wf = true) (w1 : (Lit.int .u8 o).wf = true) (w2 : (Lit.int .u32 v).wf = true) (w : World) :
    Calls Try.prog 5 #[.int .u32 a, .int .u8 o, .int .u32 v] w fun e w' => e = .returned (.bool true) ∧ Below w.heap.size w w' := by
  have q0 : 0 ≤ a ∧ a ≤ 4294967295 := by simpa [Lit.wf, IntKind.min, IntKind.max, IntKind.bits, IntKind.signed] using w0
  have q1 : 0 ≤ o ∧ o ≤ 255 := by simpa [Lit.wf, IntKind.min, IntKind.max, IntKind.bits, IntKind.signed] using w1
  have q2 : 0 ≤ v ∧ v ≤ 4294967295 := by simpa [Lit.wf, IntKind.min, IntKind.max, IntKind.bits, IntKind.signed] using w2
  rcases (by omega : o % 4 = 0 ∨ o % 4 = 1 ∨ o % 4 = 2 ∨ o % 4 = 3) with h | h | h | h
  · by_cases hc : canB a 4 = true
    · exact stops_0y a o v q0 q1 q2 h hc w
    · exact stops_0n a o v q0 q1 q2 h (by simpa using hc) w
  · by_cases hc : canB a 4 = true
    · exact stops_1y a o v q0 q1 q2 h hc w
    · exact stops_1n a o v q0 q1 q2 h (by simpa using hc) w
  · by_cases hc : evn a % 4 = 0
    · exact stops_2y a o v q0 q1 q2 h hc w
    · exact stops_2n a o v q0 q1 q2 h hc w
  · by_cases hc : canB a 2 = true
    · exact stops_3y a o v q0 q1 q2 h hc w
    · exact stops_3n a o v q0 q1 q2 h (by simpa using hc) w

end Go.Proofs.Ytpclikbjpjoccaa
