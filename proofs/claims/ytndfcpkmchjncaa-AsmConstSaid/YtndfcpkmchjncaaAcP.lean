/-
  The two words that make a number: plain laws; what asm.Const gives.
-/
import Derived.Test.YtndfcpkmchjncaaAcL
import Derived.Test.YtndfcpkmchjncaaAcX
namespace Go.Proofs.Ytndfcpkmchjncaa
open Go Go.RowKit Go.Sx
set_option linter.unusedVariables false
set_option linter.unusedSimpArgs false

def lo12 (v : Int) : Int := (v + 2048) % 4096 - 2048
def hi20 (v : Int) : Int := (v - lo12 v + 2147483648) % 4294967296 - 2147483648
theorem lo_bd (v : Int) : -2048 ≤ lo12 v ∧ lo12 v < 2048 := by unfold lo12; omega
theorem hi_bd (v : Int) : -2147483648 ≤ hi20 v ∧ hi20 v < 2147483648 := by unfold hi20; omega
theorem hi_mul (v : Int) : hi20 v % 4096 = 0 := by unfold hi20 lo12; omega
theorem parts_sum (v : Int) (h0 : 0 ≤ v) (h1 : v ≤ 4294967295) : (hi20 v % 4294967296 + lo12 v % 4294967296) % 4294967296 = v := by
  have h2 := hi_mul v
  unfold hi20 lo12; omega
theorem halves_1 (v : Int) (h0 : 0 ≤ v) (h1 : v ≤ 4294967295) : asHalves_1 v = lo12 v := by
  show IntKind.wrap .i32 (lo12 v % 4294967296) = _
  rw [IntKind.wrap_i32]
  have := lo_bd v
  omega
theorem halves_0 (v : Int) (h0 : 0 ≤ v) (h1 : v ≤ 4294967295) : asHalves_0 v = hi20 v := by
  show IntKind.wrap .i32 (IntKind.wrap .u32 (v - lo12 v % 4294967296)) = _
  rw [IntKind.wrap_i32, IntKind.wrap_u32]
  unfold hi20
  have := lo_bd v
  omega
theorem W_addi {d a n : Int} (hd : Rg d) (ha : Rg a) (hn : -2048 ≤ n ∧ n < 2048) : W 19 d a 0 n := ⟨by decide, Or.inr (Or.inl ⟨Or.inl (by kernel_rfl), hd, ha, rfl, hn.1, hn.2⟩)⟩
theorem W_lui {d n : Int} (hd : Rg d) (hn : n % 4096 = 0) : W 1 d 0 0 n := ⟨by decide, Or.inr (Or.inr (Or.inr (Or.inr (Or.inr (Or.inl ⟨by kernel_rfl, hd, rfl, rfl, hn⟩)))))⟩
theorem Rg0 : Rg 0 := ⟨by decide, by decide⟩

/-- the words that make a number -/
def cws (rd v : Int) : List Int := if hi20 v = 0 then [encS 19 rd 0 0 (lo12 v)] else if lo12 v = 0 then [encS 1 rd 0 0 (hi20 v)] else [encS 1 rd 0 0 (hi20 v), encS 19 rd rd 0 (lo12 v)]
theorem asReg_iff (rd : Int) : asReg rd = true ↔ 1 ≤ rd ∧ rd < 32 := by
  unfold asReg
  simp only [ic_ge, ic_lt]
  by_cases h1 : 1 ≤ rd <;> by_cases h2 : rd < 32 <;> simp [h1, h2]
def ConstPost (rd v : Int) (w : World) (e : Ending) (w' : World) : Prop :=
  ∃ g cap, e = .returned (.slice (some ⟨g, 0, none⟩) (cws rd v).length cap) ∧ (∀ i, i < (cws rd v).length → w'.cell? ⟨g, i, none⟩ = some (.int .u32 ((cws rd v).getD i 0))) ∧ w.heap.size ≤ g ∧ g < w'.heap.size ∧ Below w.heap.size w w'
theorem const_is (rd v : Int) (hr : 1 ≤ rd ∧ rd < 32) (hv : 0 ≤ v ∧ v ≤ 4294967295) (w : World) :
    Calls Try.prog 12 #[.int .i64 rd, .int .u32 v] w (ConstPost rd v w) := by
  have h0 : IntKind.has .i64 rd := has_i64.2 (by omega)
  have h2 : IntKind.has .u32 v := has_u32.2 (by omega)
  have h1 : phi.b 38 [(.int .i64 rd)] 0 = true := (asReg_iff rd).2 hr
  have e0 : phi.i 39 [(.int .u32 v)] 0 = hi20 v := halves_0 v hv.1 hv.2
  have e1 : phi.i 39 [(.int .u32 v)] 1 = lo12 v := halves_1 v hv.1 hv.2
  have hR : Rg rd := ⟨by omega, hr.2⟩
  have b1 := lo_bd v
  have b0 := hi_bd v
  have wA0 := W_addi hR Rg0 b1
  have wA1 := W_addi hR hR b1
  have wL := W_lui hR (hi_mul v)
  have k0 : phi.i 66 [.int .i64 19, .int .i64 rd, .int .i64 0, .int .i64 0, .int .i32 (lo12 v)] 1 = 0 := rvEnc_err wA0
  have k1 : phi.i 66 [.int .i64 1, .int .i64 rd, .int .i64 0, .int .i64 0, .int .i32 (hi20 v)] 1 = 0 := rvEnc_err wL
  have k2 : phi.i 66 [.int .i64 19, .int .i64 rd, .int .i64 rd, .int .i64 0, .int .i32 (lo12 v)] 1 = 0 := rvEnc_err wA1
  have s0 : phi.i 66 [.int .i64 19, .int .i64 rd, .int .i64 0, .int .i64 0, .int .i32 (lo12 v)] 0 = encS 19 rd 0 0 (lo12 v) := rvEnc_sum wA0
  have s1 : phi.i 66 [.int .i64 1, .int .i64 rd, .int .i64 0, .int .i64 0, .int .i32 (hi20 v)] 0 = encS 1 rd 0 0 (hi20 v) := rvEnc_sum wL
  have s2 : phi.i 66 [.int .i64 19, .int .i64 rd, .int .i64 rd, .int .i64 0, .int .i32 (lo12 v)] 0 = encS 19 rd rd 0 (lo12 v) := rvEnc_sum wA1
  have H1 : IntKind.has .i32 (lo12 v) := has_i32.2 (by omega)
  have H0 : IntKind.has .i32 (hi20 v) := has_i32.2 (by omega)
  have z : icmp .eql 0 0 = true := rfl
  by_cases hz : hi20 v = 0
  · have h := const_0 rd v h0 h1 h2 (by rw [e0, hz]; rfl) (by rw [e1]; exact H1) (by rw [e1, k0]; rfl) w
    rw [e1, s0] at h
    refine h.mono fun e w' ⟨g, cap, he, hc, h3, h4, h5⟩ => ?_
    have hc' : cws rd v = [encS 19 rd 0 0 (lo12 v)] := by unfold cws; rw [if_pos hz]
    refine ⟨g, cap, by rw [hc']; exact he, fun i hi => ?_, h3, h4, h5⟩
    rw [hc'] at hi ⊢
    have : i = 0 := by simpa using hi
    subst this
    exact hc 0 (by decide)
  · by_cases hl : lo12 v = 0
    · have h := const_1 rd v h0 h1 h2 (by rw [e0, ic_eq]; exact decide_eq_false hz) (by rw [e1, hl]; rfl) (by rw [e0]; exact H0) (by rw [e0, k1]; rfl) w
      rw [e0, s1] at h
      refine h.mono fun e w' ⟨g, cap, he, hc, h3, h4, h5⟩ => ?_
      have hc' : cws rd v = [encS 1 rd 0 0 (hi20 v)] := by unfold cws; rw [if_neg hz, if_pos hl]
      refine ⟨g, cap, by rw [hc']; exact he, fun i hi => ?_, h3, h4, h5⟩
      rw [hc'] at hi ⊢
      have : i = 0 := by simpa using hi
      subst this
      exact hc 0 (by decide)
    · have h := const_2 rd v h0 h1 h2 (by rw [e0, ic_eq]; exact decide_eq_false hz) (by rw [e1, ic_ne, decide_eq_false hl]; rfl) (by rw [e0]; exact H0) (by rw [e0, k1]; rfl) (by rw [e1]; exact H1) (by rw [e1, k2]; rfl) w
      rw [e0, e1, s1, s2] at h
      refine h.mono fun e w' ⟨g, cap, he, hc, h3, h4, h5⟩ => ?_
      have hc' : cws rd v = [encS 1 rd 0 0 (hi20 v), encS 19 rd rd 0 (lo12 v)] := by unfold cws; rw [if_neg hz, if_neg hl]
      refine ⟨g, cap, by rw [hc']; exact he, fun i hi => ?_, h3, h4, h5⟩
      rw [hc'] at hi ⊢
      have : i = 0 ∨ i = 1 := by have : i < 2 := hi; omega
      rcases this with rfl | rfl
      · exact hc 0 (by decide)
      · exact hc 1 (by decide)
theorem const_none (rd v : Int) (hr : ¬ (1 ≤ rd ∧ rd < 32)) (hi : -9223372036854775808 ≤ rd ∧ rd ≤ 9223372036854775807) (w : World) :
    Calls Try.prog 12 #[.int .i64 rd, .int .u32 v] w fun e w' => e = .returned (.slice none 0 0) ∧ Below w.heap.size w w' :=
  const_no rd v (has_i64.2 (by omega)) (by
    have : asReg rd = false := by
      cases h : asReg rd with
      | false => rfl
      | true => exact absurd ((asReg_iff rd).1 h) hr
    exact this) w

/-! ### The steps -/
theorem alu28 (x y : Int) : rhAlu 28 x y = (x + y) % 4294967296 := by
  show IntKind.wrap .u32 (x + y) = _
  rw [IntKind.wrap_u32]
section
variable (w : World) (rb nb : Nat) (S : HS) (hH : RefAt w rb nb S) (hG : Good S) (hc : canB S.pc 4 = true) (rd n : Int) (hr : 1 ≤ rd ∧ rd < 32)
include hH hG hc hr
theorem step_lui (hn : n % 4096 = 0 ∧ -2147483648 ≤ n ∧ n < 2147483648) (hl : ldV S S.pc 4 = encS 1 rd 0 0 n) :
    Calls Try.prog 15 #[.pointer (some ⟨rb, 0, none⟩)] w fun e w' => e = .returned (.int .i64 0) ∧ MakesR w rb nb ((putX S rd (n % 4294967296)).setPC (nxt S)) w' := by
  obtain ⟨r5, r0, r1, r2, r3, r4⟩ := rvDec_enc (W_lui (d := rd) ⟨by omega, hr.2⟩ hn.1) hn.2 rfl
  exact rs_lui w rb nb S hH hG hc _ hl.symm r5 rd 0 0 n r0 r1 r2 r3 r4 ⟨by omega, hr.2⟩ (by decide) (by decide) (by omega)
theorem step_addi (a : Int) (ha : 0 ≤ a ∧ a < 32) (hn : -2048 ≤ n ∧ n < 2048) (hl : ldV S S.pc 4 = encS 19 rd a 0 n) :
    Calls Try.prog 15 #[.pointer (some ⟨rb, 0, none⟩)] w fun e w' => e = .returned (.int .i64 0) ∧ MakesR w rb nb ((putX S rd ((getX S a + n % 4294967296) % 4294967296)).setPC (nxt S)) w' := by
  obtain ⟨r5, r0, r1, r2, r3, r4⟩ := rvDec_enc (W_addi (d := rd) (a := a) ⟨by omega, hr.2⟩ ha hn) ⟨by omega, by omega⟩ rfl
  have h := rs_imm w rb nb S hH hG hc _ hl.symm r5 19 rd a 0 n r0 r1 r2 r3 r4 ⟨by omega, hr.2⟩ ha (by decide) (by omega) (by decide)
  rw [show imOp (19 - 19) = 28 from rfl, alu28] at h
  exact h
end

end Go.Proofs.Ytndfcpkmchjncaa
