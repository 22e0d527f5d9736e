/-
  The laws of jumps: patched, moved, patched back. No program in sight.
-/
import Derived.Test.YtdgilmobljbmcaaRfE
namespace Go.Proofs.Ytdgilmobljbmcaa
open Go.Sx
set_option linter.unusedVariables false
set_option linter.unusedSimpArgs false
set_option maxRecDepth 100000

/-- whether a word of these bits has a place to go to -/
def goes (x : Int) : Bool := rvDec_5 x && (decide (rvDec_0 x = 3) || (decide (5 ≤ rvDec_0 x) && decide (rvDec_0 x ≤ 10)))
/-- how far from one place to another -/
def far (a b : Int) : Int := IntKind.wrap .i32 (ibin .sub .u32 b a)
theorem far_eq (a b : Int) : far a b = (b - a + 2147483648) % 4294967296 - 2147483648 := by
  unfold far
  show IntKind.i32.wrap (IntKind.u32.wrap (b - a)) = _
  rw [IntKind.wrap_u32, IntKind.wrap_i32]; omega
theorem far_bd (a b : Int) : -2147483648 ≤ far a b ∧ far a b < 2147483648 := by rw [far_eq]; omega
theorem add_far {a b : Int} (h : IntKind.has .u32 b) : ibin .add .u32 a (IntKind.wrap .u32 (far a b)) = b := by
  have := u32_bd h
  show IntKind.u32.wrap (a + IntKind.u32.wrap (far a b)) = b
  rw [far_eq, IntKind.wrap_u32, IntKind.wrap_u32]; omega
theorem target_1 (f x : Int) : asTarget_1 f x = goes x := by
  unfold asTarget_1 goes
  simp only [ic_ne, ic_ge, ic_le]
  cases rvDec_5 x
  · rfl
  · by_cases h : rvDec_0 x = 3
    · simp [h]
    · by_cases h5 : 5 ≤ rvDec_0 x <;> by_cases h10 : rvDec_0 x ≤ 10 <;> simp [h, h5, h10]
theorem target_0 (f x : Int) : asTarget_0 f x = bif goes x then ibin .add .u32 f (IntKind.wrap .u32 (rvDec_4 x)) else 0 := by
  unfold asTarget_0 goes
  simp only [ic_ne, ic_ge, ic_le]
  cases rvDec_5 x
  · rfl
  · by_cases h : rvDec_0 x = 3
    · simp [h]
    · by_cases h5 : 5 ≤ rvDec_0 x <;> by_cases h10 : rvDec_0 x ≤ 10 <;> simp [h, h5, h10]
theorem patch_no {x f t : Int} (h : goes x = false) : asPatch_0 x f t = 0 ∧ asPatch_1 x f t = 12 := by
  unfold asPatch_0 asPatch_1
  rw [target_1, h]; exact ⟨rfl, rfl⟩
theorem patch_far {x f t : Int} (h : goes x = true) (w : ¬ W (rvDec_0 x) (rvDec_1 x) (rvDec_2 x) (rvDec_3 x) (far f t)) : asPatch_0 x f t = 0 ∧ asPatch_1 x f t = 50 := by
  unfold far at w
  unfold asPatch_0 asPatch_1
  rw [target_1, h]
  simp only [cond_true, (rvEnc_no w).2, (rvEnc_no w).1]
  exact ⟨rfl, rfl⟩
theorem patch_ok {x f t : Int} (h : goes x = true) (w : W (rvDec_0 x) (rvDec_1 x) (rvDec_2 x) (rvDec_3 x) (far f t)) : asPatch_0 x f t = encS (rvDec_0 x) (rvDec_1 x) (rvDec_2 x) (rvDec_3 x) (far f t) ∧ asPatch_1 x f t = 0 := by
  have e := rvEnc_err w
  have s := rvEnc_sum w
  unfold far at e s ⊢
  unfold asPatch_0 asPatch_1
  rw [target_1, h]
  simp only [cond_true, e, s]
  exact ⟨rfl, rfl⟩
theorem goes_enc {op d a b n x : Int} (w : W op d a b n) (hb : -2147483648 ≤ n ∧ n < 2147483648) (hx : encS op d a b n = x) (j : op = 3 ∨ (5 ≤ op ∧ op ≤ 10)) : goes x = true := by
  obtain ⟨r5, r0, -⟩ := rvDec_enc w hb hx
  unfold goes
  rw [r5, r0]
  simpa using j
theorem AsmPatches_true {a0 a1 a2 : Int} (h0 : IntKind.has .u32 a0) (h1 : IntKind.has .u32 a1) (h2 : IntKind.has .u32 a2) : AsmPatches a0 a1 a2 = true := by
  have b0 := u32_bd h0
  obtain ⟨d5, d0, d1, d2, d3, d4⟩ := dec_same b0.1 b0.2
  unfold AsmPatches
  rw [show lwKnown = true from rfl, cond_true, d5, d0, d1, d2, d3, d4]
  simp only [ic_eq, ic_ne, ic_ge, ic_le, target_0, target_1]
  have far' : IntKind.wrap .i32 (ibin .sub .u32 a2 a1) = far a1 a2 := rfl
  rw [far']
  cases hg : goes a0
  · obtain ⟨p0, p1⟩ := patch_no (f := a1) (t := a2) hg
    rw [p0, p1]
    unfold goes at hg
    cases c5 : rvDec_5 a0
    · simp
    · rw [c5] at hg
      simp only [Bool.true_and, Bool.or_eq_false_iff, Bool.and_eq_false_iff, decide_eq_false_iff_not] at hg
      obtain ⟨n3, n5⟩ := hg
      rcases n5 with n5 | n10
      · simp [n3, n5]
      · by_cases n5 : 5 ≤ rvDec_0 a0 <;> simp [n3, n5, n10]
  · have hg' := hg
    unfold goes at hg
    simp only [Bool.and_eq_true, Bool.or_eq_true, decide_eq_true_eq] at hg
    obtain ⟨c5, cj⟩ := hg
    by_cases w : W (rvDec_0 a0) (rvDec_1 a0) (rvDec_2 a0) (rvDec_3 a0) (far a1 a2)
    · obtain ⟨p0, p1⟩ := patch_ok hg' w
      have g := goes_enc w (far_bd a1 a2) p0.symm cj
      obtain ⟨-, -, -, -, -, r4⟩ := rvDec_enc w (far_bd a1 a2) p0.symm
      rw [g, r4, rfEnc_ok' w, rfEnc_sum w, p1, c5]
      simp only [cond_true, add_far h2]
      rw [p0]
      rcases cj with c | c <;> simp [c]
    · obtain ⟨p0, p1⟩ := patch_far hg' w
      rw [p0, p1, (rfEnc_no w).2, c5]
      rcases cj with c | c <;> simp [c]
theorem W3 {op d a b n : Int} (w : W op d a b n) : True := trivial
theorem jump_ok {f t : Int} (w : W 3 0 0 0 (far f t)) : asJump_0 f t = encS 3 0 0 0 (far f t) ∧ asJump_1 f t = true := by
  have e := rvEnc_err w
  have s := rvEnc_sum w
  unfold far at e s ⊢
  unfold asJump_0 asJump_1
  exact ⟨s, by show icmp .eql (rvEnc_1 3 0 0 0 (IntKind.wrap .i32 (ibin .sub .u32 t f))) 0 = true; rw [e]; rfl⟩
theorem jump_no {f t : Int} (w : ¬ W 3 0 0 0 (far f t)) : asJump_0 f t = 0 ∧ asJump_1 f t = false := by
  have e := (rvEnc_no w).2
  have s := (rvEnc_no w).1
  unfold far at e s
  unfold asJump_0 asJump_1
  exact ⟨s, by show icmp .eql (rvEnc_1 3 0 0 0 (IntKind.wrap .i32 (ibin .sub .u32 t f))) 0 = false; rw [e]; rfl⟩
theorem AsmAgain_true {a0 a1 a2 : Int} (h0 : IntKind.has .u32 a0) (h1 : IntKind.has .u32 a1) (h2 : IntKind.has .u32 a2) : AsmAgain a0 a1 a2 = true := by
  unfold AsmAgain
  rw [show lwKnown = true from rfl, cond_true]
  simp only [ic_eq, ic_ne]
  by_cases w : W 3 0 0 0 (far a0 a1)
  · obtain ⟨j0, j1⟩ := jump_ok w
    obtain ⟨r5, r0, r1, r2, r3, r4⟩ := rvDec_enc w (far_bd a0 a1) j0.symm
    have g := goes_enc w (far_bd a0 a1) j0.symm (Or.inl rfl)
    rw [j1, cond_true]
    by_cases v : W 3 0 0 0 (far a0 a2)
    · have v' : W (rvDec_0 (asJump_0 a0 a1)) (rvDec_1 (asJump_0 a0 a1)) (rvDec_2 (asJump_0 a0 a1)) (rvDec_3 (asJump_0 a0 a1)) (far a0 a2) := by rw [r0, r1, r2, r3]; exact v
      obtain ⟨p0, p1⟩ := patch_ok g v'
      rw [r0, r1, r2, r3] at p0
      obtain ⟨s5, s0, s1, s2, s3, s4⟩ := rvDec_enc v (far_bd a0 a2) p0.symm
      have g2 := goes_enc v (far_bd a0 a2) p0.symm (Or.inl rfl)
      have w' : W (rvDec_0 (asPatch_0 (asJump_0 a0 a1) a0 a2)) (rvDec_1 (asPatch_0 (asJump_0 a0 a1) a0 a2)) (rvDec_2 (asPatch_0 (asJump_0 a0 a1) a0 a2)) (rvDec_3 (asPatch_0 (asJump_0 a0 a1) a0 a2)) (far a0 a1) := by rw [s0, s1, s2, s3]; exact w
      obtain ⟨q0, q1⟩ := patch_ok g2 w'
      rw [s0, s1, s2, s3, ← j0] at q0
      rw [p1, target_0, target_1, g2, s4, q0, q1]
      simp only [cond_true, add_far h2]
      simp
    · have v' : ¬ W (rvDec_0 (asJump_0 a0 a1)) (rvDec_1 (asJump_0 a0 a1)) (rvDec_2 (asJump_0 a0 a1)) (rvDec_3 (asJump_0 a0 a1)) (far a0 a2) := by rw [r0, r1, r2, r3]; exact v
      obtain ⟨p0, p1⟩ := patch_far g v'
      rw [p0, p1]; simp
  · rw [(jump_no w).2, cond_false]
theorem AsmMoves_true {a0 a1 a2 : Int} (h0 : IntKind.has .u32 a0) (h1 : IntKind.has .u32 a1) (h2 : IntKind.has .u32 a2) : AsmMoves a0 a1 a2 = true := by
  unfold AsmMoves
  rw [show lwKnown = true from rfl, cond_true]
  simp only [ic_eq, ic_ne]
  by_cases w : W 3 0 0 0 (far a0 a1)
  · obtain ⟨j0, j1⟩ := jump_ok w
    obtain ⟨r5, r0, r1, r2, r3, r4⟩ := rvDec_enc w (far_bd a0 a1) j0.symm
    have g := goes_enc w (far_bd a0 a1) j0.symm (Or.inl rfl)
    have e : ibin .add .u32 a2 (IntKind.wrap .u32 (far a0 a1)) = ibin .add .u32 a2 (ibin .sub .u32 a1 a0) := by
      show IntKind.u32.wrap (a2 + IntKind.u32.wrap (far a0 a1)) = IntKind.u32.wrap (a2 + IntKind.u32.wrap (a1 - a0))
      rw [far_eq]
      simp only [IntKind.wrap_u32]
      omega
    rw [j1, target_0, target_1, g, r4, e]
    simp
  · rw [(jump_no w).1, (jump_no w).2]; simp
end Go.Proofs.Ytdgilmobljbmcaa
