/- What the document's Mul and Div (layer 8) return: the walks. -/
import Derived.Test.YtepllnaopainpaaAluKnown
import Derived.Deep.QuietTactic
import Derived.BigQuiet
import Derived.Test.YtepllnaopainpaaRows6
namespace Go.Proofs.Ytepllnaopainpaa
open Go.ChangeShapes Go.WideShapes Go.ChangeAt Go.RowKit
set_option linter.unusedVariables false

set_option maxHeartbeats 400000 in
theorem rmul_OMul (a b : Int) (fc fp fa fz fs fo : Bool) (ha0 : 0 ≤ a) (ha1 : a < 4294967296) (hb0 : 0 ≤ b) (hb1 : b < 4294967296) (w : World) :
    Calls Try.prog 15 #[.int .i64 16, .int .u32 a, .int .u32 b, .agg #[.bool fc, .bool fp, .bool fa, .bool fz, .bool fs, .bool fo]] w fun e w' => e = .returned (.tuple #[.int .u32 (mulUl a b), .int .u32 (mulUh a b), .agg #[.bool (mulUh a b != 0), .bool fp, .bool fa, .bool fz, .bool fs, .bool (mulUh a b != 0)]]) ∧ Below w.heap.size w w' := by
  have hl := mulSl_bd a b
  go_enter Try.func15, Try.ntmps15
  go_wp2_with fail
  refine (ref1_MulU _ _ (by omega) (by omega) (by omega) (by omega) _).mono ?_; rintro e w1 ⟨rfl, rfl⟩
  go_wp2_with fail
  go_region
  all_goals
    go_wp2_with fail
    refine bodyPost_ret (v := .tuple #[.int .u32 (mulUl a b), .int .u32 (mulUh a b), .agg #[.bool (mulUh a b != 0), .bool fp, .bool fa, .bool fz, .bool fs, .bool (mulUh a b != 0)]]) (by simp [results, Try.results15, go_sem]) rfl ⟨rfl, ?_⟩
    repeat (first | exact Below.refl _ _ | apply Below.drew | (refine Below.alloc ?_ (by simp; try omega) _))

set_option maxHeartbeats 400000 in
theorem rmul_OImul (a b : Int) (fc fp fa fz fs fo : Bool) (ha0 : 0 ≤ a) (ha1 : a < 4294967296) (hb0 : 0 ≤ b) (hb1 : b < 4294967296) (w : World) :
    Calls Try.prog 15 #[.int .i64 17, .int .u32 a, .int .u32 b, .agg #[.bool fc, .bool fp, .bool fa, .bool fz, .bool fs, .bool fo]] w fun e w' => e = .returned (.tuple #[.int .u32 (mulSl a b), .int .u32 (mulSh a b), .agg #[.bool (mulC a b), .bool fp, .bool fa, .bool fz, .bool fs, .bool (mulC a b)]]) ∧ Below w.heap.size w w' := by
  have hl := mulSl_bd a b
  go_enter Try.func15, Try.ntmps15
  go_wp2_with fail
  refine (ref1_MulS _ _ (by omega) (by omega) (by omega) (by omega) _).mono ?_; rintro e w1 ⟨rfl, rfl⟩
  go_wp2_with fail
  go_region
  all_goals
    go_wp2_with fail
    refine bodyPost_ret (v := .tuple #[.int .u32 (mulSl a b), .int .u32 (mulSh a b), .agg #[.bool (mulC a b), .bool fp, .bool fa, .bool fz, .bool fs, .bool (mulC a b)]]) (by simp [results, Try.results15, go_sem, mulC]) rfl ⟨rfl, ?_⟩
    repeat (first | exact Below.refl _ _ | apply Below.drew | (refine Below.alloc ?_ (by simp; try omega) _))

set_option maxHeartbeats 400000 in
theorem rmul_OImul2 (a b : Int) (fc fp fa fz fs fo : Bool) (ha0 : 0 ≤ a) (ha1 : a < 4294967296) (hb0 : 0 ≤ b) (hb1 : b < 4294967296) (w : World) :
    Calls Try.prog 15 #[.int .i64 18, .int .u32 a, .int .u32 b, .agg #[.bool fc, .bool fp, .bool fa, .bool fz, .bool fs, .bool fo]] w fun e w' => e = .returned (.tuple #[.int .u32 (mulSl a b), .int .u32 (0), .agg #[.bool (mulC a b), .bool fp, .bool fa, .bool fz, .bool fs, .bool (mulC a b)]]) ∧ Below w.heap.size w w' := by
  have hl := mulSl_bd a b
  go_enter Try.func15, Try.ntmps15
  go_wp2_with fail
  refine (ref1_MulS _ _ (by omega) (by omega) (by omega) (by omega) _).mono ?_; rintro e w1 ⟨rfl, rfl⟩
  go_wp2_with fail
  go_region
  all_goals
    go_wp2_with fail
    refine bodyPost_ret (v := .tuple #[.int .u32 (mulSl a b), .int .u32 (0), .agg #[.bool (mulC a b), .bool fp, .bool fa, .bool fz, .bool fs, .bool (mulC a b)]]) (by simp [results, Try.results15, go_sem, mulC]) rfl ⟨rfl, ?_⟩
    repeat (first | exact Below.refl _ _ | apply Below.drew | (refine Below.alloc ?_ (by simp; try omega) _))

set_option maxHeartbeats 400000 in
theorem rmul_other (op a b : Int) (fc fp fa fz fs fo : Bool) (ha0 : 0 ≤ a) (ha1 : a < 4294967296) (hb0 : 0 ≤ b) (hb1 : b < 4294967296) (h1 : op ≠ 16) (h2 : op ≠ 17) (h3 : op ≠ 18) (w : World) :
    Calls Try.prog 15 #[.int .i64 op, .int .u32 a, .int .u32 b, .agg #[.bool fc, .bool fp, .bool fa, .bool fz, .bool fs, .bool fo]] w fun e w' => e = .returned (.tuple #[.int .u32 a, .int .u32 0, .agg #[.bool fc, .bool fp, .bool fa, .bool fz, .bool fs, .bool fo]]) ∧ Below w.heap.size w w' := by
  have g1 : (op == 16) = false := by rw [beq_eq_false_iff_ne]; exact h1
  have g2 : (op != 17) = true := by rw [bne_iff_ne]; exact h2
  have g3 : (op != 18) = true := by rw [bne_iff_ne]; exact h3
  clear h1 h2 h3
  go_enter Try.func15, Try.ntmps15
  go_wp2_with fail
  refine (ref1_MulS _ _ (by omega) (by omega) (by omega) (by omega) _).mono ?_; rintro e w1 ⟨rfl, rfl⟩
  go_wp2_with fail
  go_region
  all_goals
    go_wp2_with fail
    refine bodyPost_ret (v := .tuple #[.int .u32 a, .int .u32 0, .agg #[.bool fc, .bool fp, .bool fa, .bool fz, .bool fs, .bool fo]]) (by simp [results, Try.results15, go_sem]) rfl ⟨rfl, ?_⟩
    repeat (first | exact Below.refl _ _ | apply Below.drew | (refine Below.alloc ?_ (by simp; try omega) _))

theorem rDiv_zero (op : Int) (lo hi d : Int) (hl0 : 0 ≤ lo) (hl1 : lo < 4294967296) (hh0 : 0 ≤ hi) (hh1 : hi < 4294967296) (hd0 : 0 ≤ d) (hd1 : d < 4294967296) (hz : d = 0) (w : World) :
    Calls Try.prog 17 #[.int .i64 op, .int .u32 lo, .int .u32 hi, .int .u32 d] w fun e w' => e = .returned (.tuple #[.int .u32 (divQ op lo hi d), .int .u32 (divR op lo hi d), .bool (divK op lo hi d)]) ∧ ∃ k, w.drewN k = w' := by
  subst hz
  obtain ⟨e1, e2, e3⟩ := div_zero op lo hi
  have E1 := Lib.hid e1; have E2 := Lib.hid e2; have E3 := Lib.hid e3
  clear e1 e2 e3
  go_enter Try.func17, Try.ntmps17
  go_wp2_with fail
  go_ret3
  exact ⟨ret_iib E1.out.symm E2.out.symm E3.out.symm, 0, rfl⟩

theorem rDiv_other (op : Int) (lo hi d : Int) (hl0 : 0 ≤ lo) (hl1 : lo < 4294967296) (hh0 : 0 ≤ hi) (hh1 : hi < 4294967296) (hd0 : 0 ≤ d) (hd1 : d < 4294967296) (hz : d ≠ 0) (h1 : op ≠ 19) (h2 : op ≠ 20) (w : World) :
    Calls Try.prog 17 #[.int .i64 op, .int .u32 lo, .int .u32 hi, .int .u32 d] w fun e w' => e = .returned (.tuple #[.int .u32 (divQ op lo hi d), .int .u32 (divR op lo hi d), .bool (divK op lo hi d)]) ∧ ∃ k, w.drewN k = w' := by
  obtain ⟨e1, e2, e3⟩ := div_other op lo hi d h1 h2
  have E1 := Lib.hid e1; have E2 := Lib.hid e2; have E3 := Lib.hid e3
  have g0 : (d == 0) = false := by rw [beq_eq_false_iff_ne]; exact hz
  have g1 : (op != 19) = true := by rw [bne_iff_ne]; exact h1
  have g2 : (op != 20) = true := by rw [bne_iff_ne]; exact h2
  clear e1 e2 e3 h1 h2 hz
  go_enter Try.func17, Try.ntmps17
  go_wp2_with fail
  go_ret3
  exact ⟨ret_iib E1.out.symm E2.out.symm E3.out.symm, 0, rfl⟩

theorem rDiv_19_no (lo hi d : Int) (hl0 : 0 ≤ lo) (hl1 : lo < 4294967296) (hh0 : 0 ≤ hi) (hh1 : hi < 4294967296) (hd0 : 0 ≤ d) (hd1 : d < 4294967296) (hz : d ≠ 0) (hq : 4294967295 < nOf lo hi / d) (w : World) :
    Calls Try.prog 17 #[.int .i64 19, .int .u32 lo, .int .u32 hi, .int .u32 d] w fun e w' => e = .returned (.tuple #[.int .u32 (divQ 19 lo hi d), .int .u32 (divR 19 lo hi d), .bool (divK 19 lo hi d)]) ∧ ∃ k, w.drewN k = w' := by
  have hn := nOf_bd lo hi hl0 hl1 hh0 hh1
  have HL := hi_lo lo hi hl0 hl1 hh0 hh1
  have g0 : (d == 0) = false := by rw [beq_eq_false_iff_ne]; exact hz
  have hz1 : 1 ≤ d := by omega
  have e0 : uOk lo hi d = false := by unfold uOk; rw [decide_eq_false_iff_not]; exact fun h => by have := h.2; omega
  have e1 : divQ 19 lo hi d = 0 := by show uQ lo hi d = 0; unfold uQ; rw [e0]; rfl
  have e2 : divR 19 lo hi d = 0 := by show uR lo hi d = 0; unfold uR; rw [e0]; rfl
  have e3 : divK 19 lo hi d = false := e0
  have E1 := Lib.hid e1; have E2 := Lib.hid e2; have E3 := Lib.hid e3
  have hsh : (nOf lo hi / d / 4294967296 != 0) = true := by rw [bne_iff_ne]; omega
  clear e0 e1 e2 e3 hz
  go_enter Try.func17, Try.ntmps17
  go_wp2_with fail
  go_ret3
  exact ⟨ret_iib E1.out.symm E2.out.symm E3.out.symm, 0, rfl⟩

theorem rDiv_19_yes (lo hi d : Int) (hl0 : 0 ≤ lo) (hl1 : lo < 4294967296) (hh0 : 0 ≤ hi) (hh1 : hi < 4294967296) (hd0 : 0 ≤ d) (hd1 : d < 4294967296) (hz : d ≠ 0) (hq : nOf lo hi / d ≤ 4294967295) (w : World) :
    Calls Try.prog 17 #[.int .i64 19, .int .u32 lo, .int .u32 hi, .int .u32 d] w fun e w' => e = .returned (.tuple #[.int .u32 (divQ 19 lo hi d), .int .u32 (divR 19 lo hi d), .bool (divK 19 lo hi d)]) ∧ ∃ k, w.drewN k = w' := by
  have hn := nOf_bd lo hi hl0 hl1 hh0 hh1
  have HL := hi_lo lo hi hl0 hl1 hh0 hh1
  have g0 : (d == 0) = false := by rw [beq_eq_false_iff_ne]; exact hz
  have hz1 : 1 ≤ d := by omega
  have e0 : uOk lo hi d = true := by unfold uOk; rw [decide_eq_true_iff]; exact ⟨hz, hq⟩
  have hq0 : 0 ≤ nOf lo hi / d := Int.ediv_nonneg hn.1 (by omega)
  have hr0 : 0 ≤ nOf lo hi % d := Int.emod_nonneg _ hz
  have hr1 : nOf lo hi % d < d := Int.emod_lt_of_pos _ (by omega)
  have e1 : divQ 19 lo hi d = nOf lo hi / d := by show uQ lo hi d = _; unfold uQ; rw [e0]; rfl
  have e2 : divR 19 lo hi d = nOf lo hi % d := by show uR lo hi d = _; unfold uR; rw [e0]; rfl
  have e3 : divK 19 lo hi d = true := e0
  have E1 := Lib.hid e1; have E2 := Lib.hid e2; have E3 := Lib.hid e3
  have hsh : (nOf lo hi / d / 4294967296 != 0) = false := by rw [bne_eq_false_iff_eq]; omega
  clear e0 e1 e2 e3 hz
  go_enter Try.func17, Try.ntmps17
  go_wp2_with fail
  go_quiet (fail)
  go_wp2_with fail
  go_ret3
  exact ⟨ret_iib E1.out.symm E2.out.symm E3.out.symm, _, rfl⟩

theorem rDiv_20_low (lo hi d : Int) (hl0 : 0 ≤ lo) (hl1 : lo < 4294967296) (hh0 : 0 ≤ hi) (hh1 : hi < 4294967296) (hd0 : 0 ≤ d) (hd1 : d < 4294967296) (hz : d ≠ 0) (hm : wrap64 (nOf lo hi) = -9223372036854775808 ∧ wrap32 d = -1) (w : World) :
    Calls Try.prog 17 #[.int .i64 20, .int .u32 lo, .int .u32 hi, .int .u32 d] w fun e w' => e = .returned (.tuple #[.int .u32 (divQ 20 lo hi d), .int .u32 (divR 20 lo hi d), .bool (divK 20 lo hi d)]) ∧ ∃ k, w.drewN k = w' := by
  have HL := hi_lo lo hi hl0 hl1 hh0 hh1
  have g0 : (d == 0) = false := by rw [beq_eq_false_iff_ne]; exact hz
  have e1 : sOkN (wrap64 (nOf lo hi)) (wrap32 d) = false := by unfold sOkN; rw [decide_eq_false_iff_not]; exact fun h => h.2.1 hm
  have e2 : divQ 20 lo hi d = 0 := by show sQN _ _ = 0; unfold sQN; rw [e1]; rfl
  have e3 : divR 20 lo hi d = 0 := by show sRN _ _ = 0; unfold sRN; rw [e1]; rfl
  have e4 : divK 20 lo hi d = false := e1
  have E1 := Lib.hid e4; have E2 := Lib.hid e2; have E3 := Lib.hid e3
  have g1 : (wrap64 (nOf lo hi) == -9223372036854775808) = true := by rw [beq_iff_eq]; exact hm.1
  have g2 : (wrap32 d == -1) = true := by rw [beq_iff_eq]; exact hm.2
  have hn := nOf_bd lo hi hl0 hl1 hh0 hh1
  have hw := wrap32_bd d
  clear e1 e2 e3 e4 hm hz
  go_enter Try.func17, Try.ntmps17
  go_wp2_with fail
  go_ret3
  exact ⟨ret_iib E2.out.symm E3.out.symm E1.out.symm, 0, rfl⟩

theorem rDiv_20_no_a (lo hi d : Int) (hl0 : 0 ≤ lo) (hl1 : lo < 4294967296) (hh0 : 0 ≤ hi) (hh1 : hi < 4294967296) (hd0 : 0 ≤ d) (hd1 : d < 4294967296) (hz : d ≠ 0) (hd : wrap32 d = -1) (hn : wrap64 (nOf lo hi) ≠ -9223372036854775808) (hq : (wrap64 (nOf lo hi)).tdiv (wrap32 d) ≠ wrap32 ((wrap64 (nOf lo hi)).tdiv (wrap32 d))) (w : World) :
    Calls Try.prog 17 #[.int .i64 20, .int .u32 lo, .int .u32 hi, .int .u32 d] w fun e w' => e = .returned (.tuple #[.int .u32 (divQ 20 lo hi d), .int .u32 (divR 20 lo hi d), .bool (divK 20 lo hi d)]) ∧ ∃ k, w.drewN k = w' := by
  have HL := hi_lo lo hi hl0 hl1 hh0 hh1
  have hz0 : wrap32 d ≠ 0 := by unfold wrap32; omega
  have hm : ¬ (wrap64 (nOf lo hi) = -9223372036854775808 ∧ wrap32 d = -1) := fun h => hn h.1
  have hw := wrap32_bd d
  have hN := nOf_bd lo hi hl0 hl1 hh0 hh1
  have hN2 : -9223372036854775808 ≤ wrap64 (nOf lo hi) ∧ wrap64 (nOf lo hi) ≤ 9223372036854775807 := by unfold wrap64; omega
  have hb := tdiv_bd (wrap64 (nOf lo hi)) (wrap32 d) hN2.1 hN2.2 hm
  have hx := wrap32_bd ((wrap64 (nOf lo hi)).tdiv (wrap32 d))
  have hr := tmod_bd (wrap64 (nOf lo hi)) (wrap32 d) hz0 hw.1 hw.2
  have e1 : sOkN (wrap64 (nOf lo hi)) (wrap32 d) = false := by unfold sOkN; rw [decide_eq_false_iff_not]; exact fun h => hq h.2.2
  have e2 : divQ 20 lo hi d = 0 := by show sQN _ _ = _; unfold sQN; rw [e1]; rfl
  have e3 : divR 20 lo hi d = 0 := by show sRN _ _ = _; unfold sRN; rw [e1]; rfl
  have e4 : divK 20 lo hi d = false := e1
  have E1 := Lib.hid e4; have E2 := Lib.hid e2; have E3 := Lib.hid e3
  have g0 : (d == 0) = false := by rw [beq_eq_false_iff_ne]; exact hz
  have g2 : (wrap32 d == -1) = true := by rw [beq_iff_eq]; exact hd
  have g1 : (wrap64 (nOf lo hi) == -9223372036854775808) = false := by rw [beq_eq_false_iff_ne]; exact hn
  have g3 : ((wrap64 (nOf lo hi)).tdiv (wrap32 d) != wrap32 ((wrap64 (nOf lo hi)).tdiv (wrap32 d))) = true := by rw [bne_iff_ne]; exact hq
  have g4 : (wrap32 d == 0) = false := by rw [beq_eq_false_iff_ne]; exact hz0
  clear e1 e2 e3 e4 hm hq hd hz hn
  go_enter Try.func17, Try.ntmps17
  go_wp2_with fail
  go_ret3
  exact ⟨ret_iib E2.out.symm E3.out.symm E1.out.symm, 0, rfl⟩

theorem rDiv_20_no_b (lo hi d : Int) (hl0 : 0 ≤ lo) (hl1 : lo < 4294967296) (hh0 : 0 ≤ hi) (hh1 : hi < 4294967296) (hd0 : 0 ≤ d) (hd1 : d < 4294967296) (hz : d ≠ 0) (hd : wrap32 d ≠ -1) (hq : (wrap64 (nOf lo hi)).tdiv (wrap32 d) ≠ wrap32 ((wrap64 (nOf lo hi)).tdiv (wrap32 d))) (w : World) :
    Calls Try.prog 17 #[.int .i64 20, .int .u32 lo, .int .u32 hi, .int .u32 d] w fun e w' => e = .returned (.tuple #[.int .u32 (divQ 20 lo hi d), .int .u32 (divR 20 lo hi d), .bool (divK 20 lo hi d)]) ∧ ∃ k, w.drewN k = w' := by
  have HL := hi_lo lo hi hl0 hl1 hh0 hh1
  have hz0 : wrap32 d ≠ 0 := by unfold wrap32; omega
  have hm : ¬ (wrap64 (nOf lo hi) = -9223372036854775808 ∧ wrap32 d = -1) := fun h => hd h.2
  have hw := wrap32_bd d
  have hN := nOf_bd lo hi hl0 hl1 hh0 hh1
  have hN2 : -9223372036854775808 ≤ wrap64 (nOf lo hi) ∧ wrap64 (nOf lo hi) ≤ 9223372036854775807 := by unfold wrap64; omega
  have hb := tdiv_bd (wrap64 (nOf lo hi)) (wrap32 d) hN2.1 hN2.2 hm
  have hx := wrap32_bd ((wrap64 (nOf lo hi)).tdiv (wrap32 d))
  have hr := tmod_bd (wrap64 (nOf lo hi)) (wrap32 d) hz0 hw.1 hw.2
  have e1 : sOkN (wrap64 (nOf lo hi)) (wrap32 d) = false := by unfold sOkN; rw [decide_eq_false_iff_not]; exact fun h => hq h.2.2
  have e2 : divQ 20 lo hi d = 0 := by show sQN _ _ = _; unfold sQN; rw [e1]; rfl
  have e3 : divR 20 lo hi d = 0 := by show sRN _ _ = _; unfold sRN; rw [e1]; rfl
  have e4 : divK 20 lo hi d = false := e1
  have E1 := Lib.hid e4; have E2 := Lib.hid e2; have E3 := Lib.hid e3
  have g0 : (d == 0) = false := by rw [beq_eq_false_iff_ne]; exact hz
  have g2 : (wrap32 d == -1) = false := by rw [beq_eq_false_iff_ne]; exact hd
  have g5 := True.intro
  have g3 : ((wrap64 (nOf lo hi)).tdiv (wrap32 d) != wrap32 ((wrap64 (nOf lo hi)).tdiv (wrap32 d))) = true := by rw [bne_iff_ne]; exact hq
  have g4 : (wrap32 d == 0) = false := by rw [beq_eq_false_iff_ne]; exact hz0
  clear e1 e2 e3 e4 hm hq hd hz 
  go_enter Try.func17, Try.ntmps17
  go_wp2_with fail
  go_ret3
  exact ⟨ret_iib E2.out.symm E3.out.symm E1.out.symm, 0, rfl⟩

theorem rDiv_20_yes_a (lo hi d : Int) (hl0 : 0 ≤ lo) (hl1 : lo < 4294967296) (hh0 : 0 ≤ hi) (hh1 : hi < 4294967296) (hd0 : 0 ≤ d) (hd1 : d < 4294967296) (hz : d ≠ 0) (hd : wrap32 d = -1) (hn : wrap64 (nOf lo hi) ≠ -9223372036854775808) (hq : (wrap64 (nOf lo hi)).tdiv (wrap32 d) = wrap32 ((wrap64 (nOf lo hi)).tdiv (wrap32 d))) (w : World) :
    Calls Try.prog 17 #[.int .i64 20, .int .u32 lo, .int .u32 hi, .int .u32 d] w fun e w' => e = .returned (.tuple #[.int .u32 (divQ 20 lo hi d), .int .u32 (divR 20 lo hi d), .bool (divK 20 lo hi d)]) ∧ ∃ k, w.drewN k = w' := by
  have HL := hi_lo lo hi hl0 hl1 hh0 hh1
  have hz0 : wrap32 d ≠ 0 := by unfold wrap32; omega
  have hm : ¬ (wrap64 (nOf lo hi) = -9223372036854775808 ∧ wrap32 d = -1) := fun h => hn h.1
  have hw := wrap32_bd d
  have hN := nOf_bd lo hi hl0 hl1 hh0 hh1
  have hN2 : -9223372036854775808 ≤ wrap64 (nOf lo hi) ∧ wrap64 (nOf lo hi) ≤ 9223372036854775807 := by unfold wrap64; omega
  have hb := tdiv_bd (wrap64 (nOf lo hi)) (wrap32 d) hN2.1 hN2.2 hm
  have hx := wrap32_bd ((wrap64 (nOf lo hi)).tdiv (wrap32 d))
  have hr := tmod_bd (wrap64 (nOf lo hi)) (wrap32 d) hz0 hw.1 hw.2
  have e1 : sOkN (wrap64 (nOf lo hi)) (wrap32 d) = true := by unfold sOkN; rw [decide_eq_true_iff]; exact ⟨hz0, hm, hq⟩
  have e2 : divQ 20 lo hi d = (wrap64 (nOf lo hi)).tdiv (wrap32 d) % 4294967296 := by show sQN _ _ = _; unfold sQN; rw [e1]; rfl
  have e3 : divR 20 lo hi d = (wrap64 (nOf lo hi)).tmod (wrap32 d) % 4294967296 := by show sRN _ _ = _; unfold sRN; rw [e1]; rfl
  have e4 : divK 20 lo hi d = true := e1
  have E1 := Lib.hid e4; have E2 := Lib.hid e2; have E3 := Lib.hid e3
  have g0 : (d == 0) = false := by rw [beq_eq_false_iff_ne]; exact hz
  have g2 : (wrap32 d == -1) = true := by rw [beq_iff_eq]; exact hd
  have g1 : (wrap64 (nOf lo hi) == -9223372036854775808) = false := by rw [beq_eq_false_iff_ne]; exact hn
  have g3 : ((wrap64 (nOf lo hi)).tdiv (wrap32 d) != wrap32 ((wrap64 (nOf lo hi)).tdiv (wrap32 d))) = false := by rw [bne_eq_false_iff_eq]; exact hq
  have g4 : (wrap32 d == 0) = false := by rw [beq_eq_false_iff_ne]; exact hz0
  clear e1 e2 e3 e4 hm hq hd hz hn
  go_enter Try.func17, Try.ntmps17
  go_wp2_with fail
  go_quiet (fail)
  go_wp2_with fail
  go_ret3
  exact ⟨ret_iib E2.out.symm E3.out.symm E1.out.symm, _, rfl⟩

theorem rDiv_20_yes_b (lo hi d : Int) (hl0 : 0 ≤ lo) (hl1 : lo < 4294967296) (hh0 : 0 ≤ hi) (hh1 : hi < 4294967296) (hd0 : 0 ≤ d) (hd1 : d < 4294967296) (hz : d ≠ 0) (hd : wrap32 d ≠ -1) (hq : (wrap64 (nOf lo hi)).tdiv (wrap32 d) = wrap32 ((wrap64 (nOf lo hi)).tdiv (wrap32 d))) (w : World) :
    Calls Try.prog 17 #[.int .i64 20, .int .u32 lo, .int .u32 hi, .int .u32 d] w fun e w' => e = .returned (.tuple #[.int .u32 (divQ 20 lo hi d), .int .u32 (divR 20 lo hi d), .bool (divK 20 lo hi d)]) ∧ ∃ k, w.drewN k = w' := by
  have HL := hi_lo lo hi hl0 hl1 hh0 hh1
  have hz0 : wrap32 d ≠ 0 := by unfold wrap32; omega
  have hm : ¬ (wrap64 (nOf lo hi) = -9223372036854775808 ∧ wrap32 d = -1) := fun h => hd h.2
  have hw := wrap32_bd d
  have hN := nOf_bd lo hi hl0 hl1 hh0 hh1
  have hN2 : -9223372036854775808 ≤ wrap64 (nOf lo hi) ∧ wrap64 (nOf lo hi) ≤ 9223372036854775807 := by unfold wrap64; omega
  have hb := tdiv_bd (wrap64 (nOf lo hi)) (wrap32 d) hN2.1 hN2.2 hm
  have hx := wrap32_bd ((wrap64 (nOf lo hi)).tdiv (wrap32 d))
  have hr := tmod_bd (wrap64 (nOf lo hi)) (wrap32 d) hz0 hw.1 hw.2
  have e1 : sOkN (wrap64 (nOf lo hi)) (wrap32 d) = true := by unfold sOkN; rw [decide_eq_true_iff]; exact ⟨hz0, hm, hq⟩
  have e2 : divQ 20 lo hi d = (wrap64 (nOf lo hi)).tdiv (wrap32 d) % 4294967296 := by show sQN _ _ = _; unfold sQN; rw [e1]; rfl
  have e3 : divR 20 lo hi d = (wrap64 (nOf lo hi)).tmod (wrap32 d) % 4294967296 := by show sRN _ _ = _; unfold sRN; rw [e1]; rfl
  have e4 : divK 20 lo hi d = true := e1
  have E1 := Lib.hid e4; have E2 := Lib.hid e2; have E3 := Lib.hid e3
  have g0 : (d == 0) = false := by rw [beq_eq_false_iff_ne]; exact hz
  have g2 : (wrap32 d == -1) = false := by rw [beq_eq_false_iff_ne]; exact hd
  have g5 := True.intro
  have g3 : ((wrap64 (nOf lo hi)).tdiv (wrap32 d) != wrap32 ((wrap64 (nOf lo hi)).tdiv (wrap32 d))) = false := by rw [bne_eq_false_iff_eq]; exact hq
  have g4 : (wrap32 d == 0) = false := by rw [beq_eq_false_iff_ne]; exact hz0
  clear e1 e2 e3 e4 hm hq hd hz 
  go_enter Try.func17, Try.ntmps17
  go_wp2_with fail
  go_quiet (fail)
  go_wp2_with fail
  go_ret3
  exact ⟨ret_iib E2.out.symm E3.out.symm E1.out.symm, _, rfl⟩

theorem ref8_Div (op : Int) (lo hi d : Int) (hl0 : 0 ≤ lo) (hl1 : lo < 4294967296) (hh0 : 0 ≤ hi) (hh1 : hi < 4294967296) (hd0 : 0 ≤ d) (hd1 : d < 4294967296) (w : World) :
    Calls Try.prog 17 #[.int .i64 op, .int .u32 lo, .int .u32 hi, .int .u32 d] w fun e w' => e = .returned (.tuple #[.int .u32 (divQ op lo hi d), .int .u32 (divR op lo hi d), .bool (divK op lo hi d)]) ∧ ∃ k, w.drewN k = w' := by
  by_cases hz : d = 0
  · exact rDiv_zero op lo hi d hl0 hl1 hh0 hh1 hd0 hd1 hz w
  · by_cases h1 : op = 19
    · subst h1
      by_cases hq : nOf lo hi / d ≤ 4294967295
      · exact rDiv_19_yes lo hi d hl0 hl1 hh0 hh1 hd0 hd1 hz hq w
      · exact rDiv_19_no lo hi d hl0 hl1 hh0 hh1 hd0 hd1 hz (by omega) w
    · by_cases h2 : op = 20
      · subst h2
        by_cases hd : wrap32 d = -1
        · by_cases hn : wrap64 (nOf lo hi) = -9223372036854775808
          · exact rDiv_20_low lo hi d hl0 hl1 hh0 hh1 hd0 hd1 hz ⟨hn, hd⟩ w
          · by_cases hq : (wrap64 (nOf lo hi)).tdiv (wrap32 d) = wrap32 ((wrap64 (nOf lo hi)).tdiv (wrap32 d))
            · exact rDiv_20_yes_a lo hi d hl0 hl1 hh0 hh1 hd0 hd1 hz hd hn hq w
            · exact rDiv_20_no_a lo hi d hl0 hl1 hh0 hh1 hd0 hd1 hz hd hn hq w
        · by_cases hq : (wrap64 (nOf lo hi)).tdiv (wrap32 d) = wrap32 ((wrap64 (nOf lo hi)).tdiv (wrap32 d))
          · exact rDiv_20_yes_b lo hi d hl0 hl1 hh0 hh1 hd0 hd1 hz hd hq w
          · exact rDiv_20_no_b lo hi d hl0 hl1 hh0 hh1 hd0 hd1 hz hd hq w
      · exact rDiv_other op lo hi d hl0 hl1 hh0 hh1 hd0 hd1 hz h1 h2 w

theorem ref8_Div_below (op : Int) (lo hi d : Int) (hl0 : 0 ≤ lo) (hl1 : lo < 4294967296) (hh0 : 0 ≤ hi) (hh1 : hi < 4294967296) (hd0 : 0 ≤ d) (hd1 : d < 4294967296) (w : World) :
    Calls Try.prog 17 #[.int .i64 op, .int .u32 lo, .int .u32 hi, .int .u32 d] w fun e w' => e = .returned (.tuple #[.int .u32 (divQ op lo hi d), .int .u32 (divR op lo hi d), .bool (divK op lo hi d)]) ∧ Below w.heap.size w w' :=
  (ref8_Div op lo hi d hl0 hl1 hh0 hh1 hd0 hd1 w).mono fun _ _ h => ⟨h.1, below_drewN h.2⟩

end Go.Proofs.Ytepllnaopainpaa
