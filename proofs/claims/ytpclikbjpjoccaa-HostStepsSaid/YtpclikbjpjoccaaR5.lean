/-
  Texts of this claim, laid together by a program: HrP HrW HlA.
-/
import Derived.Test.YtpclikbjpjoccaaBase
import Derived.Test.YtpclikbjpjoccaaBitP
import Derived.Laws.BitsLemmas
import Derived.KernelRfl
import Derived.Test.YtpclikbjpjoccaaR2
import Derived.Test.YtpclikbjpjoccaaM6
namespace Go.Proofs.Ytpclikbjpjoccaa
open Go.Sx
set_option linter.unusedVariables false
set_option linter.unusedSimpArgs false
set_option maxRecDepth 100000
theorem taken_same (op a b : Int) : rhTaken op a b = hoTaken op a b := rfl
theorem and31r (a : Int) (h0 : 0 ≤ a) : ibin .and .u32 a 31 = ibin .rem .u32 a 32 := by
  have e1 : ibin .rem .u32 a 32 = a % 32 := by show a.tmod 32 = _; exact Int.tmod_eq_emod_of_nonneg h0
  rw [e1, and31]
theorem w32 (q : Int) : IntKind.wrap .u32 (IntKind.wrap .i32 q) = q % 4294967296 := by rw [IntKind.wrap_u32, IntKind.wrap_i32]; omega
theorem w64 (q : Int) : IntKind.wrap .u32 (IntKind.wrap .i64 q) = q % 4294967296 := by rw [IntKind.wrap_u32, IntKind.wrap_i64]; omega
theorem quo_same (x y : Int) : IntKind.wrap .u32 (ibin .quo .i32 x y) = IntKind.wrap .u32 (ibin .quo .i64 x y) := by
  show IntKind.wrap .u32 (IntKind.wrap .i32 (x.tdiv y)) = IntKind.wrap .u32 (IntKind.wrap .i64 (x.tdiv y))
  rw [w32, w64]
theorem i32_64 (x : Int) : IntKind.wrap .i64 (IntKind.wrap .i32 x) = IntKind.wrap .i32 x := by rw [IntKind.wrap_i32, IntKind.wrap_i64]; omega
theorem hi_same (p : Int) : IntKind.wrap .u32 (ibin .shr .u64 (IntKind.wrap .u64 p) 32) = IntKind.wrap .u32 (ibin .shr .i64 p 32) := by
  show IntKind.wrap .u32 ((IntKind.wrap .u64 p).fdiv 4294967296) = IntKind.wrap .u32 (p.fdiv 4294967296)
  rw [IntKind.wrap_u32, IntKind.wrap_u32, Int.fdiv_eq_ediv_of_nonneg _ (by decide), Int.fdiv_eq_ediv_of_nonneg _ (by decide)]
  have e : IntKind.wrap .u64 p = p % 18446744073709551616 := by simp [IntKind.wrap, IntKind.bits, IntKind.signed]
  rw [e]; omega
theorem lo_same (a b : Int) (ha : 0 ≤ a ∧ a < 4294967296) (hb : 0 ≤ b ∧ b < 4294967296) : rfMulU_0 a b = btMulS_0 a b := by
  have e : ∀ p : Int, IntKind.wrap .u64 p = p % 18446744073709551616 := fun p => by simp [IntKind.wrap, IntKind.bits, IntKind.signed]
  show IntKind.wrap .u32 (IntKind.wrap .u64 (IntKind.wrap .u64 a * IntKind.wrap .u64 b)) = IntKind.wrap .u32 (IntKind.wrap .i64 (IntKind.wrap .i64 (IntKind.wrap .i32 a) * IntKind.wrap .i64 (IntKind.wrap .i32 b)))
  rw [w64, i32_64, i32_64, e, e, e, IntKind.wrap_u32]
  have h1 : ∀ x : Int, x % 18446744073709551616 % 4294967296 = x % 4294967296 := fun x => by omega
  rw [h1, Int.mul_emod, h1, h1, ← Int.mul_emod, Int.mul_emod (IntKind.wrap .i32 a)]
  have h2 : ∀ x : Int, IntKind.wrap .i32 x % 4294967296 = x % 4294967296 := fun x => by rw [IntKind.wrap_i32]; omega
  rw [h2, h2, ← Int.mul_emod]
theorem alu_same (op a b : Int) (ho : 28 ≤ op ∧ op ≤ 45) (ha : 0 ≤ a ∧ a < 4294967296) (hb : 0 ≤ b ∧ b < 4294967296) : rhAlu op a b = hoReckons op a b := by
  have h : op = 28 ∨ op = 29 ∨ op = 30 ∨ op = 31 ∨ op = 32 ∨ op = 33 ∨ op = 34 ∨ op = 35 ∨ op = 36 ∨ op = 37 ∨ op = 38 ∨ op = 39 ∨ op = 40 ∨ op = 41 ∨ op = 42 ∨ op = 43 ∨ op = 44 ∨ op = 45 := by omega
  have e31 := and31r b hb.1
  rcases h with rfl | rfl | rfl | rfl | rfl | rfl | rfl | rfl | rfl | rfl | rfl | rfl | rfl | rfl | rfl | rfl | rfl | rfl
  · rfl
  · rfl
  · show ibin .shl .u32 a (ibin .and .u32 b 31) = ibin .shl .u32 a (ibin .rem .u32 b 32); rw [e31]
  · rfl
  · rfl
  · rfl
  · show ibin .shr .u32 a (ibin .and .u32 b 31) = ibin .shr .u32 a (ibin .rem .u32 b 32); rw [e31]
  · show IntKind.wrap .u32 (ibin .shr .i32 (IntKind.wrap .i32 a) (ibin .and .u32 b 31)) = IntKind.wrap .u32 (ibin .shr .i32 (IntKind.wrap .i32 a) (ibin .rem .u32 b 32)); rw [e31]
  · rfl
  · rfl
  · show rhMuldiv 38 a b = hoMultiplies 38 a b
    have e1 : rhMuldiv 38 a b = rfMulU_0 a b := by unfold rhMuldiv; cases icmp .eql a 2147483648 <;> rfl
    have e2 : hoMultiplies 38 a b = btMulS_0 a b := rfl
    rw [e1, e2]; exact lo_same a b ha hb
  · show rhMuldiv 39 a b = hoMultiplies 39 a b
    have e1 : rhMuldiv 39 a b = rfMulS_1 a b := by unfold rhMuldiv; cases icmp .eql a 2147483648 <;> rfl
    have e2 : hoMultiplies 39 a b = btMulS_1 a b := rfl
    rw [e1, e2]
    exact hi_same _
  · show rhMuldiv 40 a b = hoMultiplies 40 a b
    unfold rhMuldiv; cases icmp .eql a 2147483648 <;> rfl
  · show rhMuldiv 41 a b = hoMultiplies 41 a b
    unfold rhMuldiv; cases icmp .eql a 2147483648 <;> rfl
  · show rhMuldiv 42 a b = hoDivides 42 a b
    have e2 : hoDivides 42 a b = bif icmp .eql b 0 then 4294967295 else (bif icmp .eql b 0 then 0 else IntKind.wrap .u32 (ibin .quo .i64 (IntKind.wrap .i64 (IntKind.wrap .i32 a)) (IntKind.wrap .i64 (IntKind.wrap .i32 b)))) := rfl
    rw [e2, i32_64, i32_64, ← quo_same]
    unfold rhMuldiv
    by_cases h0 : b = 0
    · subst h0; cases icmp .eql a 2147483648 <;> rfl
    · have f0 : icmp .eql b 0 = false := by simp [icmp, h0]
      by_cases h1 : a = 2147483648
      · subst h1
        by_cases h2 : b = 4294967295
        · subst h2; rfl
        · have f2 : icmp .eql b 4294967295 = false := by simp [icmp, h2]
          simp only [f0, f2, cond_false]
          rfl
      · have f1 : icmp .eql a 2147483648 = false := by simp [icmp, h1]
        simp only [f0, f1, cond_false]
        rfl
  · show rhMuldiv 43 a b = hoDivides 43 a b
    have e2 : hoDivides 43 a b = bif icmp .eql b 0 then 4294967295 else (bif icmp .eql b 0 then 0 else ibin .quo .u32 a b) := rfl
    rw [e2]
    unfold rhMuldiv
    cases icmp .eql a 2147483648 <;> cases icmp .eql b 0 <;> rfl
  · show rhMuldiv 44 a b = hoDivides 44 a b
    have e2 : hoDivides 44 a b = bif icmp .eql b 0 then (bif icmp .eql b 0 then a else 0) else (bif icmp .eql b 0 then 0 else IntKind.wrap .u32 (ibin .rem .i64 (IntKind.wrap .i64 (IntKind.wrap .i32 a)) (IntKind.wrap .i64 (IntKind.wrap .i32 b)))) := rfl
    rw [e2, i32_64, i32_64]
    unfold rhMuldiv
    by_cases h0 : b = 0
    · subst h0; cases icmp .eql a 2147483648 <;> rfl
    · have f0 : icmp .eql b 0 = false := by simp [icmp, h0]
      by_cases h1 : a = 2147483648
      · subst h1
        by_cases h2 : b = 4294967295
        · subst h2; rfl
        · have f2 : icmp .eql b 4294967295 = false := by simp [icmp, h2]
          simp only [f0, f2, cond_false]
          rfl
      · have f1 : icmp .eql a 2147483648 = false := by simp [icmp, h1]
        simp only [f0, f1, cond_false]
        rfl
  · show rhMuldiv 45 a b = hoDivides 45 a b
    have e2 : hoDivides 45 a b = bif icmp .eql b 0 then (bif icmp .eql b 0 then a else 0) else (bif icmp .eql b 0 then 0 else ibin .rem .u32 a b) := rfl
    rw [e2]
    unfold rhMuldiv
    cases icmp .eql a 2147483648 <;> cases icmp .eql b 0 <;> rfl
end Go.Proofs.Ytpclikbjpjoccaa
namespace Go.Proofs.Ytpclikbjpjoccaa
open Go Go.RowKit Go.Sx
set_option linter.unusedVariables false
set_option linter.unusedSimpArgs false
set_option maxHeartbeats 1000000 in
set_option maxRecDepth 100000 in
theorem rs_fetch (w : World) (hb mb : Nat) (S : HS) (hH : RefAt w hb mb S) (hG : Good S) (hc : canB S.pc 4 = false) :
    Calls Try.prog 26 #[.pointer (some ⟨hb, 0, none⟩)] w fun e w' => e = .returned (.int .i64 5) ∧ MakesR w hb mb (S.setWhy S.pc) w' := by
  have HC := Lib.hid hc; clear hc
  have hp := hG.pc
  have kp := hH.pc
  have ky := hH.why
  have kf := hH.h.free 34
  go_enter Try.func26, Try.ntmps26
  go_wp2_with (first | (go_at_call 16; refine (ref_Load _ hb mb S hH hG S.pc 4 hp.1 hp.2 (by decide) (by decide)).mono ?_; rw [HC.out]; rintro e w1 ⟨rfl, rfl⟩))
  go_ret
  exact ⟨rfl, hH.setWhy _, (Turn.refl _ w).set (Or.inl rfl) _⟩
set_option maxHeartbeats 1000000 in
set_option maxRecDepth 100000 in
theorem rs_illegal (w : World) (hb mb : Nat) (S : HS) (hH : RefAt w hb mb S) (hG : Good S) (hc : canB S.pc 4 = true) (hd : rvDec_5 (ldV S S.pc 4) = false) :
    Calls Try.prog 26 #[.pointer (some ⟨hb, 0, none⟩)] w fun e w' => e = .returned (.int .i64 6) ∧ MakesR w hb mb S w' := by
  obtain ⟨X, hX⟩ : ∃ X, X = ldV S S.pc 4 := ⟨_, rfl⟩
  rw [← hX] at hd
  have hXb : 0 ≤ X ∧ X ≤ 4294967295 := hX ▸ ldV_bd hG _ _
  have HX := Lib.hid hX; clear hX
  have HC := Lib.hid hc; clear hc
  have HD := Lib.hid hd; clear hd
  have hp := hG.pc
  have kp := hH.pc
  go_enter Try.func26, Try.ntmps26
  go_wp2_with (first | (go_at_call 16; refine (ref_Load _ hb mb S hH hG S.pc 4 hp.1 hp.2 (by decide) (by decide)).mono ?_; rw [HC.out, ← HX.out]; rintro e w1 ⟨rfl, rfl⟩) | (go_at_call 43; refine (ref_Dec X hXb.1 (by omega) _).mono ?_; rw [HD.out]; rintro e w2 ⟨rfl, hB⟩; have HB := Lib.hid hB; clear hB))
  go_ret
  exact ⟨rfl, (hH.below HB.out).alloc _, (Turn.of_below HB.out).alloc _⟩
theorem W_rg {op d a b n : Int} (h : W op d a b n) : (0 ≤ d ∧ d < 32) ∧ (0 ≤ a ∧ a < 32) ∧ (0 ≤ b ∧ b < 32) := by
  obtain ⟨_, h⟩ := h
  unfold Rg at h
  omega
theorem rs_word (w : World) (hb mb : Nat) (S : HS) (hH : RefAt w hb mb S) (hG : Good S) (hc : canB S.pc 4 = true) (X : Int) (hX : X = ldV S S.pc 4) (hd : rvDec_5 X = true) (op rd r1 r2 n : Int) (e0 : rvDec_0 X = op) (e1 : rvDec_1 X = rd) (e2 : rvDec_2 X = r1) (e3 : rvDec_3 X = r2) (e4 : rvDec_4 X = n) (hop : 1 ≤ op ∧ op ≤ 47) (hr : 0 ≤ rd ∧ rd < 32) (h1 : 0 ≤ r1 ∧ r1 < 32) (h2 : 0 ≤ r2 ∧ r2 < 32) (hn : -2147483648 ≤ n ∧ n ≤ 2147483647) :
    Calls Try.prog 26 #[.pointer (some ⟨hb, 0, none⟩)] w fun e w' => e = .returned (.int .i64 (hdo S op rd r1 r2 n).1) ∧ MakesR w hb mb (if (hdo S op rd r1 r2 n).1 ≤ 2 then (hdo S op rd r1 r2 n).2.2 else (hdo S op rd r1 r2 n).2.2.setWhy (hdo S op rd r1 r2 n).2.1) w' := by
  have ok : ∀ {k : Int} {S' : HS} {y : Int}, hdo S op rd r1 r2 n = (k, y, S') → k ≤ 2 →
      Calls Try.prog 26 #[.pointer (some ⟨hb, 0, none⟩)] w (fun e w' => e = .returned (.int .i64 k) ∧ MakesR w hb mb S' w') →
      Calls Try.prog 26 #[.pointer (some ⟨hb, 0, none⟩)] w fun e w' => e = .returned (.int .i64 (hdo S op rd r1 r2 n).1) ∧ MakesR w hb mb (if (hdo S op rd r1 r2 n).1 ≤ 2 then (hdo S op rd r1 r2 n).2.2 else (hdo S op rd r1 r2 n).2.2.setWhy (hdo S op rd r1 r2 n).2.1) w' :=
    fun {k S' y} he hk hc => by rw [he]; show Calls _ _ _ _ fun e w' => e = .returned (.int .i64 k) ∧ MakesR w hb mb (if k ≤ 2 then S' else S'.setWhy y) w'; rw [if_pos hk]; exact hc
  have no : ∀ {k y : Int}, hdo S op rd r1 r2 n = (k, y, S) → 3 ≤ k →
      Calls Try.prog 26 #[.pointer (some ⟨hb, 0, none⟩)] w (fun e w' => e = .returned (.int .i64 k) ∧ MakesR w hb mb (S.setWhy y) w') →
      Calls Try.prog 26 #[.pointer (some ⟨hb, 0, none⟩)] w fun e w' => e = .returned (.int .i64 (hdo S op rd r1 r2 n).1) ∧ MakesR w hb mb (if (hdo S op rd r1 r2 n).1 ≤ 2 then (hdo S op rd r1 r2 n).2.2 else (hdo S op rd r1 r2 n).2.2.setWhy (hdo S op rd r1 r2 n).2.1) w' :=
    fun {k y} he hk hc => by rw [he]; show Calls _ _ _ _ fun e w' => e = .returned (.int .i64 k) ∧ MakesR w hb mb (if k ≤ 2 then S else S.setWhy y) w'; rw [if_neg (by omega)]; exact hc
  by_cases q1 : op = 1
  · subst q1; exact ok (by unfold hdo; rw [if_pos rfl]; try rfl) (by decide) (rs_lui w hb mb S hH hG hc X hX hd rd r1 r2 n e0 e1 e2 e3 e4 hr h1 h2 hn)
  by_cases q2 : op = 2
  · subst q2; exact ok (by unfold hdo; rw [if_neg q1, if_pos rfl]; try rfl) (by decide) (rs_auipc w hb mb S hH hG hc X hX hd rd r1 r2 n e0 e1 e2 e3 e4 hr h1 h2 hn)
  by_cases q3 : op = 3
  · subst q3
    by_cases m : rel S n % 4 = 0
    · exact ok (by unfold hdo; rw [if_neg q1, if_neg q2, if_pos rfl, if_pos m]; try rfl) (by decide) (rs_jal w hb mb S hH hG hc X hX hd rd r1 r2 n e0 e1 e2 e3 e4 hr h1 h2 hn m)
    · exact no (by unfold hdo; rw [if_neg q1, if_neg q2, if_pos rfl, if_neg m]; try rfl) (by decide) (rs_jal_no w hb mb S hH hG hc X hX hd rd r1 r2 n e0 e1 e2 e3 e4 hr h1 h2 hn m)
  by_cases q4 : op = 4
  · subst q4
    by_cases m : evn (adr S r1 n) % 4 = 0
    · exact ok (by unfold hdo; rw [if_neg q1, if_neg q2, if_neg q3, if_pos rfl, if_pos m]; try rfl) (by decide) (rs_jalr w hb mb S hH hG hc X hX hd rd r1 r2 n e0 e1 e2 e3 e4 hr h1 h2 hn m)
    · exact no (by unfold hdo; rw [if_neg q1, if_neg q2, if_neg q3, if_pos rfl, if_neg m]; try rfl) (by decide) (rs_jalr_no w hb mb S hH hG hc X hX hd rd r1 r2 n e0 e1 e2 e3 e4 hr h1 h2 hn m)
  by_cases q5 : op ≤ 10
  · by_cases t : hoTaken op (getX S r1) (getX S r2) = true
    · by_cases m : rel S n % 4 = 0
      · exact ok (by unfold hdo; rw [if_neg q1, if_neg q2, if_neg q3, if_neg q4, if_pos q5, if_pos t, if_pos m]; try rfl) (by decide) (rs_branch w hb mb S hH hG hc X hX hd op rd r1 r2 n e0 e1 e2 e3 e4 hr h1 h2 hn (by omega) t m)
      · exact no (by unfold hdo; rw [if_neg q1, if_neg q2, if_neg q3, if_neg q4, if_pos q5, if_pos t, if_neg m]; try rfl) (by decide) (rs_branch_no w hb mb S hH hG hc X hX hd op rd r1 r2 n e0 e1 e2 e3 e4 hr h1 h2 hn (by omega) t m)
    · exact ok (by unfold hdo; rw [if_neg q1, if_neg q2, if_neg q3, if_neg q4, if_pos q5, if_neg t]; try rfl) (by decide) (rs_branch_not w hb mb S hH hG hc X hX hd op rd r1 r2 n e0 e1 e2 e3 e4 hr h1 h2 hn (by omega) (Bool.eq_false_iff.2 t))
  by_cases q6 : op ≤ 15
  · by_cases c : canB (adr S r1 n) (lsz op) = true
    · exact ok (by unfold hdo; rw [if_neg q1, if_neg q2, if_neg q3, if_neg q4, if_neg q5, if_pos q6, if_pos c]; try rfl) (by decide) (rs_load w hb mb S hH hG hc X hX hd op rd r1 r2 n e0 e1 e2 e3 e4 hr h1 h2 hn (by omega) c)
    · exact no (by unfold hdo; rw [if_neg q1, if_neg q2, if_neg q3, if_neg q4, if_neg q5, if_pos q6, if_neg c]; try rfl) (by decide) (rs_load_no w hb mb S hH hG hc X hX hd op rd r1 r2 n e0 e1 e2 e3 e4 hr h1 h2 hn (by omega) (Bool.eq_false_iff.2 c))
  by_cases q7 : op ≤ 18
  · have k : op = 16 ∨ op = 17 ∨ op = 18 := by omega
    rcases k with rfl | rfl | rfl
    · by_cases c : canB (adr S r1 n) (ssz 16) = true
      · exact ok (by unfold hdo; rw [if_neg q1, if_neg q2, if_neg q3, if_neg q4, if_neg q5, if_neg q6, if_pos q7, if_pos c]; try rfl) (by decide) (rs_store16 w hb mb S hH hG hc X hX hd rd r1 r2 n e0 e1 e2 e3 e4 hr h1 h2 hn c)
      · exact no (by unfold hdo; rw [if_neg q1, if_neg q2, if_neg q3, if_neg q4, if_neg q5, if_neg q6, if_pos q7, if_neg c]; try rfl) (by decide) (rs_store16_no w hb mb S hH hG hc X hX hd rd r1 r2 n e0 e1 e2 e3 e4 hr h1 h2 hn (Bool.eq_false_iff.2 c))
    · by_cases c : canB (adr S r1 n) (ssz 17) = true
      · exact ok (by unfold hdo; rw [if_neg q1, if_neg q2, if_neg q3, if_neg q4, if_neg q5, if_neg q6, if_pos q7, if_pos c]; try rfl) (by decide) (rs_store17 w hb mb S hH hG hc X hX hd rd r1 r2 n e0 e1 e2 e3 e4 hr h1 h2 hn c)
      · exact no (by unfold hdo; rw [if_neg q1, if_neg q2, if_neg q3, if_neg q4, if_neg q5, if_neg q6, if_pos q7, if_neg c]; try rfl) (by decide) (rs_store17_no w hb mb S hH hG hc X hX hd rd r1 r2 n e0 e1 e2 e3 e4 hr h1 h2 hn (Bool.eq_false_iff.2 c))
    · by_cases c : canB (adr S r1 n) (ssz 18) = true
      · exact ok (by unfold hdo; rw [if_neg q1, if_neg q2, if_neg q3, if_neg q4, if_neg q5, if_neg q6, if_pos q7, if_pos c]; try rfl) (by decide) (rs_store18 w hb mb S hH hG hc X hX hd rd r1 r2 n e0 e1 e2 e3 e4 hr h1 h2 hn c)
      · exact no (by unfold hdo; rw [if_neg q1, if_neg q2, if_neg q3, if_neg q4, if_neg q5, if_neg q6, if_pos q7, if_neg c]; try rfl) (by decide) (rs_store18_no w hb mb S hH hG hc X hX hd rd r1 r2 n e0 e1 e2 e3 e4 hr h1 h2 hn (Bool.eq_false_iff.2 c))
  have a0 := getX_bd hG r1
  have b0 := getX_bd hG r2
  by_cases q8 : op ≤ 27
  · have qi : 28 ≤ imOp (op - 19) ∧ imOp (op - 19) ≤ 45 := by unfold imOp; (repeat' split) <;> omega
    exact ok (S' := (putX S rd (hoReckons (imOp (op - 19)) (getX S r1) (n % 4294967296))).setPC (nxt S)) (by unfold hdo; rw [if_neg q1, if_neg q2, if_neg q3, if_neg q4, if_neg q5, if_neg q6, if_neg q7, if_pos q8]; try rfl) (by decide) (by rw [← alu_same (imOp (op - 19)) (getX S r1) (n % 4294967296) qi (by omega) (by omega)]; exact rs_imm w hb mb S hH hG hc X hX hd op rd r1 r2 n e0 e1 e2 e3 e4 hr h1 h2 hn (by omega))
  by_cases q9 : op ≤ 45
  · exact ok (S' := (putX S rd (hoReckons op (getX S r1) (getX S r2))).setPC (nxt S)) (by unfold hdo; rw [if_neg q1, if_neg q2, if_neg q3, if_neg q4, if_neg q5, if_neg q6, if_neg q7, if_neg q8, if_pos q9]; try rfl) (by decide) (by rw [← alu_same op (getX S r1) (getX S r2) (by omega) (by omega) (by omega)]; exact rs_reg w hb mb S hH hG hc X hX hd op rd r1 r2 n e0 e1 e2 e3 e4 hr h1 h2 hn (by omega))
  by_cases q10 : op = 46
  · subst q10; exact ok (by unfold hdo; rw [if_neg q1, if_neg q2, if_neg q3, if_neg q4, if_neg q5, if_neg q6, if_neg q7, if_neg q8, if_neg q9, if_pos rfl]; try rfl) (by decide) (rs_ecall w hb mb S hH hG hc X hX hd rd r1 r2 n e0 e1 e2 e3 e4 hr h1 h2 hn)
  have q11 : op = 47 := by omega
  subst q11
  exact ok (by unfold hdo; rw [if_neg q1, if_neg q2, if_neg q3, if_neg q4, if_neg q5, if_neg q6, if_neg q7, if_neg q8, if_neg q9, if_neg q10]; try rfl) (by decide) (rs_ebreak w hb mb S hH hG hc X hX hd rd r1 r2 n e0 e1 e2 e3 e4 hr h1 h2 hn)
theorem ref_Step (w : World) (hb mb : Nat) (S : HS) (hH : RefAt w hb mb S) (hG : Good S) :
    Calls Try.prog 26 #[.pointer (some ⟨hb, 0, none⟩)] w fun e w' => e = .returned (.int .i64 (hstep S).1) ∧ MakesR w hb mb (hstep S).2 w' := by
  unfold hstep
  by_cases hc : canB S.pc 4 = true
  · rw [if_pos hc]
    by_cases hd : rvDec_5 (wrd S) = true
    · rw [if_pos hd]
      obtain ⟨hw, hn, _⟩ := rvDec_was (wrd_bd hG).1 (wrd_bd hG).2 hd
      obtain ⟨b1, b2, b3⟩ := W_rg hw
      have h := rs_word w hb mb S hH hG hc (wrd S) rfl hd _ _ _ _ _ rfl rfl rfl rfl rfl hw.1 b1 b2 b3 ⟨hn.1, by omega⟩
      refine h.mono fun e w' k => ?_
      by_cases hr : (hdoS S).1 ≤ 2
      · rw [if_pos hr]; rw [if_pos (show (hdo S (rvDec_0 (wrd S)) (rvDec_1 (wrd S)) (rvDec_2 (wrd S)) (rvDec_3 (wrd S)) (rvDec_4 (wrd S))).1 ≤ 2 from hr)] at k; exact k
      · rw [if_neg hr]; rw [if_neg (show ¬ (hdo S (rvDec_0 (wrd S)) (rvDec_1 (wrd S)) (rvDec_2 (wrd S)) (rvDec_3 (wrd S)) (rvDec_4 (wrd S))).1 ≤ 2 from hr)] at k; exact k
    · rw [if_neg hd]
      exact rs_illegal w hb mb S hH hG hc (Bool.eq_false_iff.2 hd)
  · rw [if_neg hc]
    exact rs_fetch w hb mb S hH hG (Bool.eq_false_iff.2 hc)
end Go.Proofs.Ytpclikbjpjoccaa
namespace Go.Proofs.Ytpclikbjpjoccaa
open Go Go.RowKit Go.Sx
set_option linter.unusedVariables false
set_option linter.unusedSimpArgs false
theorem below_trans {a b c : World} (h : Below a.heap.size a b) (k : Below b.heap.size b c) : Below a.heap.size a c := h.trans (k.mono h.size)
set_option maxHeartbeats 2000000 in
theorem law_memory (w : World) (hb mb rb nb : Nat) (S T : HS) (hH : HostAt w hb mb S) (hR : RefAt w rb nb T) (hS : Good S) (hT : Good T) (e : S.m = T.m) :
    Calls Try.prog 17 #[.pointer (some ⟨hb, 0, none⟩), .pointer (some ⟨rb, 0, none⟩)] w fun e w' => e = .returned (.bool true) ∧ Below w.heap.size w w' := by
  have he : ∀ a, ldV S a 4 = ldV T a 4 := fun a => ldV_m e a 4
  have HE := Lib.hid he; clear he e
  have H0 := Lib.hid hH; have R0 := Lib.hid hR; clear hH hR
  go_enter Try.func17, Try.ntmps17
  go_wp2
  go_loopw [5] (fun i wr => ∃ k : Nat, k ≤ 8192 ∧ i = .int .u32 ((4 * k : Nat) : Int) ∧ Below w.heap.size w wr) (fun i _ => 32768 - (intOf i).toNat)
  case atStart => exact ⟨0, by omega, rfl, Below.refl _ _⟩
  case round =>
    obtain ⟨k, hk, rfl, hB⟩ := hrel
    have hH := H0.out.below hB
    have hR := R0.out.below hB
    have HB := Lib.hid hB; clear hB
    by_cases hlt : k < 8192
    · have h1 : ((4 * k : Nat) : Int) < 32768 := by omega
      have h0 : (0 : Int) ≤ ((4 * k : Nat) : Int) := by omega
      obtain ⟨a, ha⟩ : ∃ a : Int, a = ((4 * k : Nat) : Int) := ⟨_, rfl⟩
      rw [← ha] at h0 h1 ⊢
      have HA := Lib.hid ha; clear ha
      obtain ⟨b, hb'⟩ : ∃ b, b = canB a 4 := ⟨_, rfl⟩
      have HBB := Lib.hid hb'; clear hb'
      go_wp2_with (first | (go_at_call 16; refine (ref_Load _ rb nb T hR2 hT a 4 h0 (by omega) (by decide) (by decide)).mono ?_; rw [← HE.out]; rintro e wq ⟨rfl, rfl⟩) | (go_at_call 15; refine (host_Load _ hb mb S hH hS a 4 h0 (by omega)).mono ?_; rintro e w2 ⟨rfl, hB2⟩; have hR2 := hR.below hB2; have HB2 := Lib.hid hB2; clear hB2))
      have q := HA.out
      go_roundw
      case rel => exact ⟨k + 1, by omega, by congr 1; omega, below_trans HB.out HB2.out⟩
      case measure => simp [intOf]; omega
    · obtain rfl : k = 8192 := by omega
      go_wp2
      go_ret
      exact ⟨rfl, HB.out⟩
set_option maxHeartbeats 2000000 in
theorem law_alike (w : World) (hb mb rb nb : Nat) (S : HS) (hH : HostAt w hb mb S) (hR : RefAt w rb nb S) (hS : Good S) :
    Calls Try.prog 27 #[.pointer (some ⟨hb, 0, none⟩), .pointer (some ⟨rb, 0, none⟩)] w fun e w' => e = .returned (.bool true) ∧ Below w.heap.size w w' := by
  have hp := hR.pc
  have hy := hR.why
  have H0 := Lib.hid hH; have R0 := Lib.hid hR; clear hH hR
  go_enter Try.func27, Try.ntmps27
  go_wp2_with fail
  go_quiet (first | (go_at_call 24; exact Calls.quiet_of_same ((host_PC _ hb mb S (H0.out.drewN _)).mono fun _ _ h => ⟨h.1, h.2.symm⟩)) | (go_at_call 23; exact Calls.quiet_of_same ((host_Why _ hb mb S (H0.out.drewN _)).mono fun _ _ h => ⟨h.1, h.2.symm⟩)))
  rename_i nq _
  have hBn : Below w.heap.size w (w.drewN nq) := ⟨rfl, rfl, rfl, Nat.le_refl _, fun _ _ => rfl⟩
  have HBN := Lib.hid hBn; clear hBn hp hy
  go_wp2_with fail
  go_loopw [5] (fun i wr => ∃ k : Nat, k ≤ 32 ∧ i = .int .i64 (k : Nat) ∧ Below w.heap.size w wr) (fun i _ => 32 - (intOf i).toNat)
  case atStart => exact ⟨0, by omega, rfl, HBN.out⟩
  case round =>
    obtain ⟨k, hk, rfl, hB⟩ := hrel
    have hH := H0.out.below hB
    have hR := R0.out.below hB
    have HB := Lib.hid hB; clear hB
    by_cases hlt : k < 32
    · have hx : getX S (k : Int) = S.x k := by
        have := getX_reg hS (r := (k : Int)) ⟨by omega, by omega⟩
        rw [this, Int.toNat_natCast]
      have hc := hR.reg hlt
      have l1 : (0 : Int) ≤ (k : Int) := by omega
      have l2 : (k : Int) < 32 := by omega
      have HX := Lib.hid hx; clear hx
      have hI : Hid (I64 (k : Int)) := Lib.hid ⟨by omega, by omega⟩
      go_wp2_with fail
      go_quiet (first | (go_at_call 21; exact Calls.quiet_of_same ((x_is _ hb mb S (hH.drewN _) hI.out HX.out).mono fun _ _ h => ⟨h.1, h.2.symm⟩)))
      rename_i nq2 _
      go_wp2_with fail
      go_roundw
      case rel => exact ⟨k + 1, by omega, by go_num, HB.out.trans ⟨rfl, rfl, rfl, Nat.le_refl _, fun _ _ => rfl⟩⟩
      case measure => simp [intOf]; omega
    · obtain rfl : k = 32 := by omega
      go_wp2
      go_ret
      exact ⟨rfl, HB.out⟩
end Go.Proofs.Ytpclikbjpjoccaa
