/- What alu.Div returns: the walks. -/
import Derived.Test.YtndfcpkmchjncaaAluWalks
import Derived.Test.YtndfcpkmchjncaaAluDivMath
import Derived.Deep.QuietTactic
import Derived.BigQuiet
namespace Go.Proofs.Ytndfcpkmchjncaa
open Go.ChangeShapes Go.WideShapes Go.ChangeAt Go.RowKit
set_option linter.unusedVariables false

theorem ret_iib {k l : IntKind} {a a' b b' : Int} {c c' : Bool} (h1 : a = a') (h2 : b = b') (h3 : c = c') : Ending.returned (.tuple #[.int k a, .int l b, .bool c]) = .returned (.tuple #[.int k a', .int l b', .bool c']) := by rw [h1, h2, h3]

theorem divs_low (n d : Int) (hn0 : -9223372036854775808 ≤ n) (hn1 : n ≤ 9223372036854775807) (hd0 : -2147483648 ≤ d) (hd1 : d ≤ 2147483647) (hz : d ≠ 0) (hm : n = -9223372036854775808 ∧ d = -1) (w : World) :
    Calls Try.prog 52 #[.int .i64 n, .int .i64 d] w fun e w' => e = .returned (.tuple #[.int .u32 (sQN n d), .int .u32 (sRN n d), .bool (sOkN n d)]) ∧ ∃ k, w.drewN k = w' := by
  have e1 : sOkN n d = false := by unfold sOkN; rw [decide_eq_false_iff_not]; exact fun h => h.2.1 hm
  have e2 : sQN n d = 0 := by unfold sQN; rw [e1]; rfl
  have e3 : sRN n d = 0 := by unfold sRN; rw [e1]; rfl
  have E1 := Lib.hid e1; have E2 := Lib.hid e2; have E3 := Lib.hid e3
  clear e1 e2 e3
  have g1 : (n == -9223372036854775808) = true := by rw [beq_iff_eq]; exact hm.1
  have g2 : (d == -1) = true := by rw [beq_iff_eq]; exact hm.2
  clear hm hz
  go_enter Try.func52, Try.ntmps52
  go_wp2_with fail
  go_ret3
  exact ⟨ret_iib E2.out.symm E3.out.symm E1.out.symm, 0, rfl⟩

theorem divs_no_a (n d : Int) (hn0 : -9223372036854775808 ≤ n) (hn1 : n ≤ 9223372036854775807) (hd0 : -2147483648 ≤ d) (hd1 : d ≤ 2147483647) (hz : d ≠ 0) (hn : n = -9223372036854775808) (hd : d ≠ -1) (hq : n.tdiv d ≠ wrap32 (n.tdiv d)) (w : World) :
    Calls Try.prog 52 #[.int .i64 n, .int .i64 d] w fun e w' => e = .returned (.tuple #[.int .u32 (sQN n d), .int .u32 (sRN n d), .bool (sOkN n d)]) ∧ ∃ k, w.drewN k = w' := by
  have hm : ¬ (n = -9223372036854775808 ∧ d = -1) := fun h => hd h.2
  have hb := tdiv_bd n d hn0 hn1 hm
  have hw := wrap32_bd (n.tdiv d)
  have hr := tmod_bd n d hz hd0 hd1
  have e1 : sOkN n d = false := by unfold sOkN; rw [decide_eq_false_iff_not]; exact fun h => hq h.2.2
  have e2 : sQN n d = 0 := by unfold sQN; rw [e1]; rfl
  have e3 : sRN n d = 0 := by unfold sRN; rw [e1]; rfl
  have E1 := Lib.hid e1; have E2 := Lib.hid e2; have E3 := Lib.hid e3
  have g1 : (n == -9223372036854775808) = true := by rw [beq_iff_eq]; exact hn
  have g2 : (d == -1) = false := by rw [beq_eq_false_iff_ne]; exact hd
  have g3 : (n.tdiv d != wrap32 (n.tdiv d)) = true := by rw [bne_iff_ne]; exact hq
  have g4 : (d == 0) = false := by rw [beq_eq_false_iff_ne]; exact hz
  clear e1 e2 e3 hm hq hn hd
  go_enter Try.func52, Try.ntmps52
  go_wp2_with fail
  go_ret3
  exact ⟨ret_iib E2.out.symm E3.out.symm E1.out.symm, 0, rfl⟩

theorem divs_no_b (n d : Int) (hn0 : -9223372036854775808 ≤ n) (hn1 : n ≤ 9223372036854775807) (hd0 : -2147483648 ≤ d) (hd1 : d ≤ 2147483647) (hz : d ≠ 0) (hn : n ≠ -9223372036854775808) (hq : n.tdiv d ≠ wrap32 (n.tdiv d)) (w : World) :
    Calls Try.prog 52 #[.int .i64 n, .int .i64 d] w fun e w' => e = .returned (.tuple #[.int .u32 (sQN n d), .int .u32 (sRN n d), .bool (sOkN n d)]) ∧ ∃ k, w.drewN k = w' := by
  have hm : ¬ (n = -9223372036854775808 ∧ d = -1) := fun h => hn h.1
  have hb := tdiv_bd n d hn0 hn1 hm
  have hw := wrap32_bd (n.tdiv d)
  have hr := tmod_bd n d hz hd0 hd1
  have e1 : sOkN n d = false := by unfold sOkN; rw [decide_eq_false_iff_not]; exact fun h => hq h.2.2
  have e2 : sQN n d = 0 := by unfold sQN; rw [e1]; rfl
  have e3 : sRN n d = 0 := by unfold sRN; rw [e1]; rfl
  have E1 := Lib.hid e1; have E2 := Lib.hid e2; have E3 := Lib.hid e3
  have g1 : (n == -9223372036854775808) = false := by rw [beq_eq_false_iff_ne]; exact hn
  have g3 : (n.tdiv d != wrap32 (n.tdiv d)) = true := by rw [bne_iff_ne]; exact hq
  have g4 : (d == 0) = false := by rw [beq_eq_false_iff_ne]; exact hz
  clear e1 e2 e3 hm hq hn 
  go_enter Try.func52, Try.ntmps52
  go_wp2_with fail
  go_ret3
  exact ⟨ret_iib E2.out.symm E3.out.symm E1.out.symm, 0, rfl⟩

theorem divs_yes_a (n d : Int) (hn0 : -9223372036854775808 ≤ n) (hn1 : n ≤ 9223372036854775807) (hd0 : -2147483648 ≤ d) (hd1 : d ≤ 2147483647) (hz : d ≠ 0) (hn : n = -9223372036854775808) (hd : d ≠ -1) (hq : n.tdiv d = wrap32 (n.tdiv d)) (w : World) :
    Calls Try.prog 52 #[.int .i64 n, .int .i64 d] w fun e w' => e = .returned (.tuple #[.int .u32 (sQN n d), .int .u32 (sRN n d), .bool (sOkN n d)]) ∧ ∃ k, w.drewN k = w' := by
  have hm : ¬ (n = -9223372036854775808 ∧ d = -1) := fun h => hd h.2
  have hb := tdiv_bd n d hn0 hn1 hm
  have hw := wrap32_bd (n.tdiv d)
  have hr := tmod_bd n d hz hd0 hd1
  have e1 : sOkN n d = true := by unfold sOkN; rw [decide_eq_true_iff]; exact ⟨hz, hm, hq⟩
  have e2 : sQN n d = n.tdiv d % 4294967296 := by unfold sQN; rw [e1]; rfl
  have e3 : sRN n d = n.tmod d % 4294967296 := by unfold sRN; rw [e1]; rfl
  have E1 := Lib.hid e1; have E2 := Lib.hid e2; have E3 := Lib.hid e3
  have g1 : (n == -9223372036854775808) = true := by rw [beq_iff_eq]; exact hn
  have g2 : (d == -1) = false := by rw [beq_eq_false_iff_ne]; exact hd
  have g3 : (n.tdiv d != wrap32 (n.tdiv d)) = false := by rw [bne_eq_false_iff_eq]; exact hq
  have g4 : (d == 0) = false := by rw [beq_eq_false_iff_ne]; exact hz
  clear e1 e2 e3 hm hq hn hd
  go_enter Try.func52, Try.ntmps52
  go_wp2_with fail
  go_quiet (fail)
  go_wp2_with fail
  go_ret3
  exact ⟨ret_iib E2.out.symm E3.out.symm E1.out.symm, _, rfl⟩

theorem divs_yes_b (n d : Int) (hn0 : -9223372036854775808 ≤ n) (hn1 : n ≤ 9223372036854775807) (hd0 : -2147483648 ≤ d) (hd1 : d ≤ 2147483647) (hz : d ≠ 0) (hn : n ≠ -9223372036854775808) (hq : n.tdiv d = wrap32 (n.tdiv d)) (w : World) :
    Calls Try.prog 52 #[.int .i64 n, .int .i64 d] w fun e w' => e = .returned (.tuple #[.int .u32 (sQN n d), .int .u32 (sRN n d), .bool (sOkN n d)]) ∧ ∃ k, w.drewN k = w' := by
  have hm : ¬ (n = -9223372036854775808 ∧ d = -1) := fun h => hn h.1
  have hb := tdiv_bd n d hn0 hn1 hm
  have hw := wrap32_bd (n.tdiv d)
  have hr := tmod_bd n d hz hd0 hd1
  have e1 : sOkN n d = true := by unfold sOkN; rw [decide_eq_true_iff]; exact ⟨hz, hm, hq⟩
  have e2 : sQN n d = n.tdiv d % 4294967296 := by unfold sQN; rw [e1]; rfl
  have e3 : sRN n d = n.tmod d % 4294967296 := by unfold sRN; rw [e1]; rfl
  have E1 := Lib.hid e1; have E2 := Lib.hid e2; have E3 := Lib.hid e3
  have g1 : (n == -9223372036854775808) = false := by rw [beq_eq_false_iff_ne]; exact hn
  have g3 : (n.tdiv d != wrap32 (n.tdiv d)) = false := by rw [bne_eq_false_iff_eq]; exact hq
  have g4 : (d == 0) = false := by rw [beq_eq_false_iff_ne]; exact hz
  clear e1 e2 e3 hm hq hn 
  go_enter Try.func52, Try.ntmps52
  go_wp2_with fail
  go_quiet (fail)
  go_wp2_with fail
  go_ret3
  exact ⟨ret_iib E2.out.symm E3.out.symm E1.out.symm, _, rfl⟩

theorem alu_divs (n d : Int) (hn0 : -9223372036854775808 ≤ n) (hn1 : n ≤ 9223372036854775807) (hd0 : -2147483648 ≤ d) (hd1 : d ≤ 2147483647) (hz : d ≠ 0) (w : World) :
    Calls Try.prog 52 #[.int .i64 n, .int .i64 d] w fun e w' => e = .returned (.tuple #[.int .u32 (sQN n d), .int .u32 (sRN n d), .bool (sOkN n d)]) ∧ ∃ k, w.drewN k = w' := by
  by_cases hm : n = -9223372036854775808 ∧ d = -1
  · exact divs_low n d hn0 hn1 hd0 hd1 hz hm w
  · by_cases hq : n.tdiv d = wrap32 (n.tdiv d)
    · by_cases hn : n = -9223372036854775808
      · exact divs_yes_a n d hn0 hn1 hd0 hd1 hz hn (fun h => hm ⟨hn, h⟩) hq w
      · exact divs_yes_b n d hn0 hn1 hd0 hd1 hz hn hq w
    · by_cases hn : n = -9223372036854775808
      · exact divs_no_a n d hn0 hn1 hd0 hd1 hz hn (fun h => hm ⟨hn, h⟩) hq w
      · exact divs_no_b n d hn0 hn1 hd0 hd1 hz hn hq w

def divQ (op lo hi d : Int) : Int := if op = 19 then uQ lo hi d else if op = 20 then sQN (wrap64 (nOf lo hi)) (wrap32 d) else 0
def divR (op lo hi d : Int) : Int := if op = 19 then uR lo hi d else if op = 20 then sRN (wrap64 (nOf lo hi)) (wrap32 d) else 0
def divK (op lo hi d : Int) : Bool := if op = 19 then uOk lo hi d else if op = 20 then sOkN (wrap64 (nOf lo hi)) (wrap32 d) else false

theorem div_zero (op lo hi : Int) : divQ op lo hi 0 = 0 ∧ divR op lo hi 0 = 0 ∧ divK op lo hi 0 = false := by
  have e1 : uOk lo hi 0 = false := by unfold uOk; rw [decide_eq_false_iff_not]; exact fun h => h.1 rfl
  have e2 : ∀ n, sOkN n 0 = false := fun n => by unfold sOkN; rw [decide_eq_false_iff_not]; exact fun h => h.1 rfl
  have e3 : wrap32 0 = 0 := by unfold wrap32; rfl
  unfold divQ divR divK uQ uR sQN sRN
  rw [e3, e1, e2]
  simp
theorem div_other (op lo hi d : Int) (h1 : op ≠ 19) (h2 : op ≠ 20) : divQ op lo hi d = 0 ∧ divR op lo hi d = 0 ∧ divK op lo hi d = false := by
  unfold divQ divR divK
  rw [if_neg h1, if_neg h2, if_neg h1, if_neg h2, if_neg h1, if_neg h2]
  exact ⟨rfl, rfl, rfl⟩

theorem Div_zero (op : Int) (lo hi d : Int) (hl0 : 0 ≤ lo) (hl1 : lo < 4294967296) (hh0 : 0 ≤ hi) (hh1 : hi < 4294967296) (hd0 : 0 ≤ d) (hd1 : d < 4294967296) (hz : d = 0) (w : World) :
    Calls Try.prog 18 #[.int .i64 op, .int .u32 lo, .int .u32 hi, .int .u32 d] w fun e w' => e = .returned (.tuple #[.int .u32 (divQ op lo hi d), .int .u32 (divR op lo hi d), .bool (divK op lo hi d)]) ∧ ∃ k, w.drewN k = w' := by
  subst hz
  obtain ⟨e1, e2, e3⟩ := div_zero op lo hi
  have E1 := Lib.hid e1; have E2 := Lib.hid e2; have E3 := Lib.hid e3
  clear e1 e2 e3
  go_enter Try.func18, Try.ntmps18
  go_wp2_with fail
  go_ret3
  exact ⟨ret_iib E1.out.symm E2.out.symm E3.out.symm, 0, rfl⟩

theorem Div_other (op : Int) (lo hi d : Int) (hl0 : 0 ≤ lo) (hl1 : lo < 4294967296) (hh0 : 0 ≤ hi) (hh1 : hi < 4294967296) (hd0 : 0 ≤ d) (hd1 : d < 4294967296) (hz : d ≠ 0) (h1 : op ≠ 19) (h2 : op ≠ 20) (w : World) :
    Calls Try.prog 18 #[.int .i64 op, .int .u32 lo, .int .u32 hi, .int .u32 d] w fun e w' => e = .returned (.tuple #[.int .u32 (divQ op lo hi d), .int .u32 (divR op lo hi d), .bool (divK op lo hi d)]) ∧ ∃ k, w.drewN k = w' := by
  obtain ⟨e1, e2, e3⟩ := div_other op lo hi d h1 h2
  have E1 := Lib.hid e1; have E2 := Lib.hid e2; have E3 := Lib.hid e3
  have g0 : (d == 0) = false := by rw [beq_eq_false_iff_ne]; exact hz
  have g1 : (op != 19) = true := by rw [bne_iff_ne]; exact h1
  have g2 : (op != 20) = true := by rw [bne_iff_ne]; exact h2
  clear e1 e2 e3 h1 h2 hz
  go_enter Try.func18, Try.ntmps18
  go_wp2_with fail
  go_ret3
  exact ⟨ret_iib E1.out.symm E2.out.symm E3.out.symm, 0, rfl⟩

theorem Div_19_no (lo hi d : Int) (hl0 : 0 ≤ lo) (hl1 : lo < 4294967296) (hh0 : 0 ≤ hi) (hh1 : hi < 4294967296) (hd0 : 0 ≤ d) (hd1 : d < 4294967296) (hz : d ≠ 0) (hq : 4294967295 < nOf lo hi / d) (w : World) :
    Calls Try.prog 18 #[.int .i64 19, .int .u32 lo, .int .u32 hi, .int .u32 d] w fun e w' => e = .returned (.tuple #[.int .u32 (divQ 19 lo hi d), .int .u32 (divR 19 lo hi d), .bool (divK 19 lo hi d)]) ∧ ∃ k, w.drewN k = w' := by
  have hn := nOf_bd lo hi hl0 hl1 hh0 hh1
  have HL := hi_lo lo hi hl0 hl1 hh0 hh1
  have g0 : (d == 0) = false := by rw [beq_eq_false_iff_ne]; exact hz
  have hz1 : 1 ≤ d := by omega
  have e0 : uOk lo hi d = false := by unfold uOk; rw [decide_eq_false_iff_not]; exact fun h => by have := h.2; omega
  have e1 : divQ 19 lo hi d = 0 := by show uQ lo hi d = 0; unfold uQ; rw [e0]; rfl
  have e2 : divR 19 lo hi d = 0 := by show uR lo hi d = 0; unfold uR; rw [e0]; rfl
  have e3 : divK 19 lo hi d = false := e0
  have E1 := Lib.hid e1; have E2 := Lib.hid e2; have E3 := Lib.hid e3
  clear e0 e1 e2 e3 hz
  go_enter Try.func18, Try.ntmps18
  go_wp2_with fail
  go_ret3
  exact ⟨ret_iib E1.out.symm E2.out.symm E3.out.symm, 0, rfl⟩

theorem Div_19_yes (lo hi d : Int) (hl0 : 0 ≤ lo) (hl1 : lo < 4294967296) (hh0 : 0 ≤ hi) (hh1 : hi < 4294967296) (hd0 : 0 ≤ d) (hd1 : d < 4294967296) (hz : d ≠ 0) (hq : nOf lo hi / d ≤ 4294967295) (w : World) :
    Calls Try.prog 18 #[.int .i64 19, .int .u32 lo, .int .u32 hi, .int .u32 d] w fun e w' => e = .returned (.tuple #[.int .u32 (divQ 19 lo hi d), .int .u32 (divR 19 lo hi d), .bool (divK 19 lo hi d)]) ∧ ∃ k, w.drewN k = w' := by
  have hn := nOf_bd lo hi hl0 hl1 hh0 hh1
  have HL := hi_lo lo hi hl0 hl1 hh0 hh1
  have g0 : (d == 0) = false := by rw [beq_eq_false_iff_ne]; exact hz
  have hz1 : 1 ≤ d := by omega
  have e0 : uOk lo hi d = true := by unfold uOk; rw [decide_eq_true_iff]; exact ⟨hz, hq⟩
  have hq0 : 0 ≤ nOf lo hi / d := Int.ediv_nonneg hn.1 (by omega)
  have hr0 : 0 ≤ nOf lo hi % d := Int.emod_nonneg _ hz
  have hr1 : nOf lo hi % d < d := Int.emod_lt_of_pos _ (by omega)
  have e1 : divQ 19 lo hi d = nOf lo hi / d := by show uQ lo hi d = _; unfold uQ; rw [e0]; rfl
  have e2 : divR 19 lo hi d = nOf lo hi % d := by show uR lo hi d = _; unfold uR; rw [e0]; rfl
  have e3 : divK 19 lo hi d = true := e0
  have E1 := Lib.hid e1; have E2 := Lib.hid e2; have E3 := Lib.hid e3
  clear e0 e1 e2 e3 hz
  go_enter Try.func18, Try.ntmps18
  go_wp2_with fail
  go_quiet (fail)
  go_wp2_with fail
  go_ret3
  exact ⟨ret_iib E1.out.symm E2.out.symm E3.out.symm, _, rfl⟩

theorem Div_20 (lo hi d : Int) (hl0 : 0 ≤ lo) (hl1 : lo < 4294967296) (hh0 : 0 ≤ hi) (hh1 : hi < 4294967296) (hd0 : 0 ≤ d) (hd1 : d < 4294967296) (hz : d ≠ 0) (w : World) :
    Calls Try.prog 18 #[.int .i64 20, .int .u32 lo, .int .u32 hi, .int .u32 d] w fun e w' => e = .returned (.tuple #[.int .u32 (divQ 20 lo hi d), .int .u32 (divR 20 lo hi d), .bool (divK 20 lo hi d)]) ∧ ∃ k, w.drewN k = w' := by
  have HL := hi_lo lo hi hl0 hl1 hh0 hh1
  have g0 : (d == 0) = false := by rw [beq_eq_false_iff_ne]; exact hz
  have hw := wrap32_bd d
  have hw0 : wrap32 d ≠ 0 := by unfold wrap32; omega
  have hn := nOf_bd lo hi hl0 hl1 hh0 hh1
  have hn2 : -9223372036854775808 ≤ wrap64 (nOf lo hi) ∧ wrap64 (nOf lo hi) ≤ 9223372036854775807 := by unfold wrap64; omega
  clear hz
  go_enter Try.func18, Try.ntmps18
  go_wp2_with fail
  refine (alu_divs _ _ hn2.1 hn2.2 hw.1 hw.2 hw0 _).mono ?_; rintro e w1 ⟨rfl, k, rfl⟩
  go_wp2_with fail
  go_ret3
  exact ⟨rfl, k, rfl⟩

theorem alu_Div (op : Int) (lo hi d : Int) (hl0 : 0 ≤ lo) (hl1 : lo < 4294967296) (hh0 : 0 ≤ hi) (hh1 : hi < 4294967296) (hd0 : 0 ≤ d) (hd1 : d < 4294967296) (w : World) :
    Calls Try.prog 18 #[.int .i64 op, .int .u32 lo, .int .u32 hi, .int .u32 d] w fun e w' => e = .returned (.tuple #[.int .u32 (divQ op lo hi d), .int .u32 (divR op lo hi d), .bool (divK op lo hi d)]) ∧ ∃ k, w.drewN k = w' := by
  by_cases hz : d = 0
  · exact Div_zero op lo hi d hl0 hl1 hh0 hh1 hd0 hd1 hz w
  · by_cases h1 : op = 19
    · subst h1
      by_cases hq : nOf lo hi / d ≤ 4294967295
      · exact Div_19_yes lo hi d hl0 hl1 hh0 hh1 hd0 hd1 hz hq w
      · exact Div_19_no lo hi d hl0 hl1 hh0 hh1 hd0 hd1 hz (by omega) w
    · by_cases h2 : op = 20
      · subst h2
        exact Div_20 lo hi d hl0 hl1 hh0 hh1 hd0 hd1 hz w
      · exact Div_other op lo hi d hl0 hl1 hh0 hh1 hd0 hd1 hz h1 h2 w

end Go.Proofs.Ytndfcpkmchjncaa
