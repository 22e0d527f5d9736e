/-
  HostLoops: how a loop that counts down runs, as far as it goes. Plain.
-/
import Derived.Test.YtpclikbjpjoccaaM6
namespace Go.Proofs.Ytpclikbjpjoccaa
open Go Go.RowKit Go.Sx
set_option linter.unusedVariables false
set_option linter.unusedSimpArgs false

theorem W_a3 : W 19 2 2 0 3 := ⟨by decide, Or.inr (Or.inl ⟨Or.inl (by kernel_rfl), by unfold Rg; decide, by unfold Rg; decide, rfl, by decide, by decide⟩)⟩
theorem W_a1 : W 19 1 1 0 (-1) := ⟨by decide, Or.inr (Or.inl ⟨Or.inl (by kernel_rfl), by unfold Rg; decide, by unfold Rg; decide, rfl, by decide, by decide⟩)⟩
theorem W_bn : W 6 0 1 0 (-8) := ⟨by decide, Or.inr (Or.inr (Or.inr (Or.inr (Or.inl ⟨by kernel_rfl, rfl, by unfold Rg; decide, by unfold Rg; decide, by decide, by decide⟩))))⟩
theorem W_ec : W 46 0 0 0 0 := ⟨by decide, Or.inr (Or.inr (Or.inr (Or.inr (Or.inr (Or.inr (Or.inr ⟨by kernel_rfl, rfl, rfl, rfl, rfl⟩))))))⟩

/-- the four words -/
structure Ys (y0 y1 y2 y3 : Int) : Prop where
  e0 : encS 19 2 2 0 3 = y0
  e1 : encS 19 1 1 0 (-1) = y1
  e2 : encS 6 0 1 0 (-8) = y2
  e3 : encS 46 0 0 0 0 = y3
theorem Ys.b0 {y0 y1 y2 y3 : Int} (h : Ys y0 y1 y2 y3) : 0 ≤ y0 ∧ y0 ≤ 4294967295 := by have k := back W_a3 (by decide) h.e0; have l := k.lo; have h := k.hi; omega
theorem Ys.b1 {y0 y1 y2 y3 : Int} (h : Ys y0 y1 y2 y3) : 0 ≤ y1 ∧ y1 ≤ 4294967295 := by have k := back W_a1 (by decide) h.e1; have l := k.lo; have h := k.hi; omega
theorem Ys.b2 {y0 y1 y2 y3 : Int} (h : Ys y0 y1 y2 y3) : 0 ≤ y2 ∧ y2 ≤ 4294967295 := by have k := back W_bn (by decide) h.e2; have l := k.lo; have h := k.hi; omega
theorem Ys.b3 {y0 y1 y2 y3 : Int} (h : Ys y0 y1 y2 y3) : 0 ≤ y3 ∧ y3 ≤ 4294967295 := by have k := back W_ec (by decide) h.e3; have l := k.lo; have h := k.hi; omega

def l0 (k : Int) : HS := putX S0 1 k
def l1 (k y0 : Int) : HS := stM (l0 k) 1024 4 y0
def l2 (k y0 y1 : Int) : HS := stM (l1 k y0) 1028 4 y1
def l3 (k y0 y1 y2 : Int) : HS := stM (l2 k y0 y1) 1032 4 y2
def lS (k y0 y1 y2 y3 : Int) : HS := stM (l3 k y0 y1 y2) 1036 4 y3

section
variable {k y0 y1 y2 y3 : Int} (hy : Ys y0 y1 y2 y3)
include hy
theorem lS_0 : ldV (lS k y0 y1 y2 y3) 1024 4 = y0 := by
  have := hy.b0
  unfold lS l3 l2 l1
  rw [ld_st_ne _ (by decide) (by decide) (by decide) (by decide) (by decide), ld_st_ne _ (by decide) (by decide) (by decide) (by decide) (by decide), ld_st_ne _ (by decide) (by decide) (by decide) (by decide) (by decide), ld_st4 _ (by decide) (by decide) (by omega) (by omega)]
theorem lS_1 : ldV (lS k y0 y1 y2 y3) 1028 4 = y1 := by
  have := hy.b1
  unfold lS l3 l2
  rw [ld_st_ne _ (by decide) (by decide) (by decide) (by decide) (by decide), ld_st_ne _ (by decide) (by decide) (by decide) (by decide) (by decide), ld_st4 _ (by decide) (by decide) (by omega) (by omega)]
theorem lS_2 : ldV (lS k y0 y1 y2 y3) 1032 4 = y2 := by
  have := hy.b2
  unfold lS l3
  rw [ld_st_ne _ (by decide) (by decide) (by decide) (by decide) (by decide), ld_st4 _ (by decide) (by decide) (by omega) (by omega)]
theorem lS_3 : ldV (lS k y0 y1 y2 y3) 1036 4 = y3 := by
  have := hy.b3
  unfold lS
  rw [ld_st4 _ (by decide) (by decide) (by omega) (by omega)]
end

/-- behind j steps -/
structure LP (M : Nat → Int) (k j : Nat) (S : HS) : Prop where
  m : S.m = M
  pc : S.pc = if j = 3 * k then 1036 else 1024 + 4 * ((j % 3 : Nat) : Int)
  x2 : getX S 2 = 3 * (((j + 2) / 3 : Nat) : Int)
  x1 : getX S 1 = (k : Int) - (((j + 1) / 3 : Nat) : Int)
  good : Good S

theorem add_im (x n : Int) : hoReckons (imOp (19 - 19)) x n = (x + n) % 4294967296 := by
  rw [show imOp (19 - 19) = 28 by decide]
  show IntKind.wrap .u32 (x + n) = _
  rw [IntKind.wrap_u32]
theorem bne_im (x : Int) (h : x ≠ 0) : hoTaken 6 x 0 = true := by
  show icmp .neq x 0 = true
  simp [icmp, h]
theorem bne_no : hoTaken 6 0 0 = false := rfl

section
variable {k : Nat} {y0 y1 y2 y3 : Int} (hk : k ≤ 50) (hy : Ys y0 y1 y2 y3)
include hk hy
theorem l_step {j : Nat} {S : HS} (h : LP (lS k y0 y1 y2 y3).m k j S) (hj : j < 3 * k) : (hstep S).1 = 0 ∧ LP (lS k y0 y1 y2 y3).m k (j + 1) (hstep S).2 := by
  have hl : ∀ a, ldV S a 4 = ldV (lS k y0 y1 y2 y3) a 4 := fun a => ldV_m h.m a 4
  have hp := h.pc
  have h1 := h.x1
  have h2 := h.x2
  rw [if_neg (by omega)] at hp
  have hg : Good (hstep S).2 := (hstep_good h.good).1
  rcases (by omega : j % 3 = 0 ∨ j % 3 = 1 ∨ j % 3 = 2) with r | r | r
  · have hpc : S.pc = 1024 := by rw [hp, r]; rfl
    have e : hstep S = (0, (putX S 2 (3 * (((j + 2) / 3 : Nat) : Int) + 3)).setPC 1028) := by
      refine hstep_to W_a3 (by decide) hy.e0 (by rw [hpc]; decide) (by rw [hpc, hl]; exact lS_0 hy) ?_ (by decide)
      unfold hdo
      rw [if_neg (show ¬ (19 : Int) = 1 by decide), if_neg (show ¬ (19 : Int) = 2 by decide), if_neg (show ¬ (19 : Int) = 3 by decide), if_neg (show ¬ (19 : Int) = 4 by decide), if_neg (show ¬ (19 : Int) ≤ 10 by decide), if_neg (show ¬ (19 : Int) ≤ 15 by decide), if_neg (show ¬ (19 : Int) ≤ 18 by decide), if_pos (show (19 : Int) ≤ 27 by decide), add_im, h2, show nxt S = 1028 by unfold nxt; rw [hpc]; rfl]
      rw [show (3 * (((j + 2) / 3 : Nat) : Int) + 3 % 4294967296) % 4294967296 = 3 * (((j + 2) / 3 : Nat) : Int) + 3 by omega]
    rw [e] at hg ⊢
    refine ⟨rfl, ⟨?_, ?_, ?_, ?_, hg⟩⟩
    · rw [setPC_m, putX_m]; exact h.m
    · rw [setPC_pc, if_neg (by omega), show (j + 1) % 3 = 1 by omega]; rfl
    · rw [getX_setPC, getX_put (by decide)]; omega
    · rw [getX_setPC, getX_other (by decide), h1]; omega
  · have hpc : S.pc = 1028 := by rw [hp, r]; rfl
    have e : hstep S = (0, (putX S 1 ((k : Int) - (((j + 1) / 3 : Nat) : Int) - 1)).setPC 1032) := by
      refine hstep_to W_a1 (by decide) hy.e1 (by rw [hpc]; decide) (by rw [hpc, hl]; exact lS_1 hy) ?_ (by decide)
      unfold hdo
      rw [if_neg (show ¬ (19 : Int) = 1 by decide), if_neg (show ¬ (19 : Int) = 2 by decide), if_neg (show ¬ (19 : Int) = 3 by decide), if_neg (show ¬ (19 : Int) = 4 by decide), if_neg (show ¬ (19 : Int) ≤ 10 by decide), if_neg (show ¬ (19 : Int) ≤ 15 by decide), if_neg (show ¬ (19 : Int) ≤ 18 by decide), if_pos (show (19 : Int) ≤ 27 by decide), add_im, h1, show nxt S = 1032 by unfold nxt; rw [hpc]; rfl]
      rw [show ((k : Int) - (((j + 1) / 3 : Nat) : Int) + -1 % 4294967296) % 4294967296 = (k : Int) - (((j + 1) / 3 : Nat) : Int) - 1 by omega]
    rw [e] at hg ⊢
    refine ⟨rfl, ⟨?_, ?_, ?_, ?_, hg⟩⟩
    · rw [setPC_m, putX_m]; exact h.m
    · rw [setPC_pc, if_neg (by omega), show (j + 1) % 3 = 2 by omega]; rfl
    · rw [getX_setPC, getX_other (by decide), h2]; omega
    · rw [getX_setPC, getX_put (by decide)]; omega
  · have hpc : S.pc = 1032 := by rw [hp, r]; rfl
    by_cases hz : j + 1 = 3 * k
    · have e : hstep S = (0, S.setPC 1036) := by
        refine hstep_to W_bn (by decide) hy.e2 (by rw [hpc]; decide) (by rw [hpc, hl]; exact lS_2 hy) ?_ (by decide)
        unfold hdo
        rw [if_neg (show ¬ (6 : Int) = 1 by decide), if_neg (show ¬ (6 : Int) = 2 by decide), if_neg (show ¬ (6 : Int) = 3 by decide), if_neg (show ¬ (6 : Int) = 4 by decide), if_pos (show (6 : Int) ≤ 10 by decide), getX_0, h1, show (k : Int) - (((j + 1) / 3 : Nat) : Int) = 0 by omega, bne_no, if_neg (by decide), show nxt S = 1036 by unfold nxt; rw [hpc]; rfl]
      rw [e] at hg ⊢
      refine ⟨rfl, ⟨?_, ?_, ?_, ?_, hg⟩⟩
      · rw [setPC_m]; exact h.m
      · rw [setPC_pc, if_pos hz]
      · rw [getX_setPC, h2]; omega
      · rw [getX_setPC, h1]; omega
    · have e : hstep S = (0, S.setPC 1024) := by
        refine hstep_to W_bn (by decide) hy.e2 (by rw [hpc]; decide) (by rw [hpc, hl]; exact lS_2 hy) ?_ (by decide)
        unfold hdo
        rw [if_neg (show ¬ (6 : Int) = 1 by decide), if_neg (show ¬ (6 : Int) = 2 by decide), if_neg (show ¬ (6 : Int) = 3 by decide), if_neg (show ¬ (6 : Int) = 4 by decide), if_pos (show (6 : Int) ≤ 10 by decide), getX_0, h1, bne_im _ (by omega), if_pos rfl, show rel S (-8) = 1024 by unfold rel; rw [hpc]; rfl, if_pos (by decide)]
      rw [e] at hg ⊢
      refine ⟨rfl, ⟨?_, ?_, ?_, ?_, hg⟩⟩
      · rw [setPC_m]; exact h.m
      · rw [setPC_pc, if_neg hz, show (j + 1) % 3 = 0 by omega]; rfl
      · rw [getX_setPC, h2]; omega
      · rw [getX_setPC, h1]; omega
omit hk in
theorem l_last {S : HS} (h : LP (lS k y0 y1 y2 y3).m k (3 * k) S) : hstep S = (1, S.setPC 1040) := by
  have hpc : S.pc = 1036 := by rw [h.pc, if_pos rfl]
  refine hstep_to W_ec (by decide) hy.e3 (by rw [hpc]; decide) (by rw [hpc, ldV_m h.m]; exact lS_3 hy) ?_ (by decide)
  unfold hdo
  rw [if_neg (show ¬ (46 : Int) = 1 by decide), if_neg (show ¬ (46 : Int) = 2 by decide), if_neg (show ¬ (46 : Int) = 3 by decide), if_neg (show ¬ (46 : Int) = 4 by decide), if_neg (show ¬ (46 : Int) ≤ 10 by decide), if_neg (show ¬ (46 : Int) ≤ 15 by decide), if_neg (show ¬ (46 : Int) ≤ 18 by decide), if_neg (show ¬ (46 : Int) ≤ 27 by decide), if_neg (show ¬ (46 : Int) ≤ 45 by decide), if_pos rfl, show nxt S = 1040 by unfold nxt; rw [hpc]; rfl]
theorem l_part : ∀ n {j : Nat} {S : HS}, LP (lS k y0 y1 y2 y3).m k j S → j + n ≤ 3 * k → ∃ T, hrun n S = (0, n, T) ∧ LP (lS k y0 y1 y2 y3).m k (j + n) T := by
  intro n
  induction n with
  | zero => intro j S h _; exact ⟨S, rfl, h⟩
  | succ n ih =>
    intro j S h hn
    obtain ⟨h0, h1⟩ := l_step hk hy h (by omega)
    obtain ⟨T, e, hT⟩ := ih h1 (by omega)
    refine ⟨T, ?_, by rw [show j + (n + 1) = j + 1 + n by omega]; exact hT⟩
    rw [hrun_go h0, e]
theorem l_all : ∀ n {j : Nat} {S : HS}, LP (lS k y0 y1 y2 y3).m k j S → j ≤ 3 * k → 3 * k < j + n → ∃ T, hrun n S = (1, 3 * k - j + 1, T) ∧ T.pc = 1040 ∧ getX T 2 = 3 * (k : Int) ∧ getX T 1 = 0 := by
  intro n
  induction n with
  | zero => intro j S h h1 h2; omega
  | succ n ih =>
    intro j S h hj hn
    by_cases hz : j = 3 * k
    · subst hz
      have e := l_last hy h
      refine ⟨S.setPC 1040, ?_, rfl, ?_, ?_⟩
      · rw [hrun_stop (by rw [e]; exact (by decide : ¬ (1 : Int) = 0)), e, show 3 * k - 3 * k + 1 = 1 by omega]
      · rw [getX_setPC, h.x2]; omega
      · rw [getX_setPC, h.x1]; omega
    · obtain ⟨h0, h1⟩ := l_step hk hy h (by omega)
      obtain ⟨T, e, r⟩ := ih h1 (by omega) (by omega)
      refine ⟨T, ?_, r⟩
      rw [hrun_go h0, e, show 3 * k - (j + 1) + 1 + 1 = 3 * k - j + 1 by omega]
end

theorem lS_good {k : Int} (hk : 0 ≤ k ∧ k ≤ 4294967295) (y0 y1 y2 y3 : Int) : Good (lS k y0 y1 y2 y3) := stM_good (stM_good (stM_good (stM_good (S0_good.putX 1 hk) _ _ _) _ _ _) _ _ _) _ _ _
theorem lS_start {k : Nat} (hk : 1 ≤ k ∧ k ≤ 50) (y0 y1 y2 y3 : Int) : LP (lS k y0 y1 y2 y3).m k 0 (lS k y0 y1 y2 y3) := by
  refine ⟨rfl, ?_, ?_, ?_, lS_good (by omega) _ _ _ _⟩
  · rw [if_neg (by omega)]; unfold lS l3 l2 l1 l0; rw [stM_pc, stM_pc, stM_pc, stM_pc]; unfold putX; rfl
  · unfold lS l3 l2 l1 l0; rw [getX_stM, getX_stM, getX_stM, getX_stM, getX_other (by decide)]; rfl
  · unfold lS l3 l2 l1 l0; rw [getX_stM, getX_stM, getX_stM, getX_stM, getX_put (by decide)]; omega

/-- both runs -/
theorem l_runs {k f : Nat} {y0 y1 y2 y3 : Int} (hk : 1 ≤ k ∧ k ≤ 50) (hy : Ys y0 y1 y2 y3) (hf : f ≤ 3 * k) :
    ∃ T U, hrun (fuelN (f : Int)) (lS k y0 y1 y2 y3) = (0, f, T) ∧ Good T ∧ hrun (fuelN 1000) T = (1, 3 * k - f + 1, U) ∧ U.pc = 1040 ∧ getX U 2 = 3 * (k : Int) ∧ getX U 1 = 0 := by
  obtain ⟨T, e, hT⟩ := l_part hk.2 hy f (lS_start hk y0 y1 y2 y3) (by omega)
  rw [Nat.zero_add] at hT
  obtain ⟨U, e2, r⟩ := l_all hk.2 hy 1000 hT hf (by omega)
  exact ⟨T, U, by rw [show fuelN (f : Int) = f by unfold fuelN; omega]; exact e, hT.good, e2, r⟩

end Go.Proofs.Ytpclikbjpjoccaa
