/-
  The operations on numbers: what each call answers.
-/
import Derived.Test.YtdchnlmclngjmaaDoorRows
import Derived.Test.YtdchnlmclngjmaaDoorFl0
import Derived.Test.YtdchnlmclngjmaaDoorPin
import Derived.WalkKit
import Derived.ProofKit
import Derived.OpenShut
import Derived.Lib.Hide
import Derived.Below
import Derived.Deep.QuietTactic
import Derived.Deep.RegionWith
import Derived.Laws.FloatArith
import Derived.WalkLawsBesides
namespace Go.Proofs.YtdchnlmclngjmaaDoor
open Go.Sx
open Go.ChangeShapes Go.WideShapes Go.ChangeAt Go.RowKit
set_option linter.unusedVariables false
set_option maxRecDepth 100000
set_option maxHeartbeats 1000000

theorem ext_of (n : Int) (w : World) : (callFunc 33 #[.int .u64 n]).run Tryd.prog w = .ok (.value (.float .f64 n.toNat)) w := by kernel_rfl
theorem ext_bits (n : Nat) (w : World) : (callFunc 34 #[.float .f64 n]).run Tryd.prog w = .ok (.value (.int .u64 n)) w := by kernel_rfl

theorem fl_of (a : Int) (w : World) : Calls Tryd.prog 27 #[.int .u64 a] w fun e w' => e = .returned (.float .f64 a.toNat) ∧ w' = w := by
  have h0 := ext_of
  go_enter Tryd.func27, Tryd.ntmps27
  go_wp2
  go_ret
  exact ⟨rfl, rfl⟩

theorem fl_num (a : Int) (w : World) : Calls Tryd.prog 29 #[.int .u64 a] w fun e w' => e = .returned (.float .f64 a.toNat) ∧ w' = w := by
  have h0 := ext_of
  go_enter Tryd.func29, Tryd.ntmps29
  go_wp2
  go_ret
  exact ⟨rfl, rfl⟩

theorem fl_bits (b : Nat) (w : World) : Calls Tryd.prog 30 #[.float .f64 b] w fun e w' => e = .returned (.int .u64 (nrm b)) ∧ w' = w := by
  have h0 := ext_bits
  have hd : FloatKind.f64.format = Ieee.double := rfl
  unfold nrm
  by_cases h : Ieee.double.order b b = some .eq
  · have h2 : (Ieee.double.order b b != some .eq) = false := by simp [h]
    rw [if_pos h]
    go_enter Tryd.func30, Tryd.ntmps30
    go_wp2
    all_goals first | (simp_all; done) | (go_ret; exact ⟨rfl, rfl⟩)
  · have h2 : (Ieee.double.order b b != some .eq) = true := by simp [h]
    rw [if_neg h]
    go_enter Tryd.func30, Tryd.ntmps30
    go_wp2
    all_goals first | (simp_all; done) | (go_ret; exact ⟨rfl, rfl⟩)
theorem fl_bits2 (b : Nat) (w : World) : Calls Tryd.prog 31 #[.float .f64 b] w fun e w' => e = .returned (.int .u64 (nrm b)) ∧ w' = w := by
  have h0 := ext_bits
  have hd : FloatKind.f64.format = Ieee.double := rfl
  unfold nrm
  by_cases h : Ieee.double.order b b = some .eq
  · have h2 : (Ieee.double.order b b != some .eq) = false := by simp [h]
    rw [if_pos h]
    go_enter Tryd.func31, Tryd.ntmps31
    go_wp2
    all_goals first | (simp_all; done) | (go_ret; exact ⟨rfl, rfl⟩)
  · have h2 : (Ieee.double.order b b != some .eq) = true := by simp [h]
    rw [if_neg h]
    go_enter Tryd.func31, Tryd.ntmps31
    go_wp2
    all_goals first | (simp_all; done) | (go_ret; exact ⟨rfl, rfl⟩)

theorem run_float_none {P : Program} (op : BinOp) (t : TypeId) (x y : Nat) (ho : op = .add ∨ op = .sub ∨ op = .mul ∨ op = .quo) (h : floatBits op .f64 x y = none) (w : World) :
    (binOp op t (.float .f64 x) (.float .f64 y)).run P w = .ok (.float .f64 (nanW (w.tape w.drawn (.nanBits .f64 x y)))) w.drew := by
  unfold floatBits at h
  rcases ho with rfl | rfl | rfl | rfl <;> simp only at h <;> simp [binOp, Op.floatArith, h, Question.forced, Question.cut, nanW]
theorem read_nan (t : Nat) : ∃ s f, Ieee.double.read (nanW t) = .nan s f := by
  have hq : t / 2 % 4503599627370495 < 4503599627370495 := Nat.mod_lt _ (by decide)
  have hp : t % 2 = 0 ∨ t % 2 = 1 := by omega
  have e1 : nanW t % 9223372036854775808 = 9218868437227405312 + 1 + t / 2 % 4503599627370495 := by unfold nanW; omega
  have w1 : Ieee.double.signWeight = 9223372036854775808 := by decide
  have w2 : Ieee.double.binade = 4503599627370496 := by decide
  have w3 : Ieee.double.infRung = 9218868437227405312 := by decide
  unfold Ieee.Format.read
  simp only [w1, w2, w3, e1]
  rw [if_neg (by omega), if_neg (by omega), if_neg (by omega)]
  exact ⟨_, _, rfl⟩
theorem order_nan (t : Nat) : Ieee.double.order (nanW t) (nanW t) = none := by
  obtain ⟨s, f, h⟩ := read_nan t
  unfold Ieee.Format.order
  rw [h]; rfl
theorem nrm_nan (t : Nat) : nrm (nanW t) = 9221120237041090560 := by
  unfold nrm
  rw [order_nan, if_neg (by decide)]
theorem below_drew (w : World) : Below w.heap.size w w.drew := ⟨rfl, rfl, rfl, Nat.le_refl _, fun _ _ => rfl⟩

theorem below_refl (w : World) : Below w.heap.size w w := ⟨rfl, rfl, rfl, Nat.le_refl _, fun _ _ => rfl⟩

theorem fl_Add (a b : Int) (w : World) : Calls Tryd.prog 16 #[.int .u64 a, .int .u64 b] w fun e w' => e = .returned (.int .u64 (arith .add a b)) ∧ Below w.heap.size w w' := by
  unfold arith
  cases h : floatBits .add .f64 a.toNat b.toNat with
  | some r =>
    have hr := fun t (w : World) => run_float_arith (P := Tryd.prog) w .add t .f64 _ _ r h
    go_enter Tryd.func16, Tryd.ntmps16
    go_wp2_with (first | (go_at_call 27; refine (fl_of _ _).mono ?_; rintro e w' ⟨rfl, rfl⟩) | (go_at_call 30; refine (fl_bits _ _).mono ?_; rintro e w' ⟨rfl, rfl⟩))
    go_ret
    exact ⟨rfl, below_refl _⟩
  | none =>
    have hr := fun t (w : World) => run_float_none (P := Tryd.prog) .add t _ _ (by decide) h w
    have hn := nrm_nan
    go_enter Tryd.func16, Tryd.ntmps16
    go_wp2_with (first | (go_at_call 27; refine (fl_of _ _).mono ?_; rintro e w' ⟨rfl, rfl⟩) | (go_at_call 30; refine (fl_bits _ _).mono ?_; rintro e w' ⟨rfl, rfl⟩))
    go_ret
    exact ⟨rfl, below_drew _⟩

theorem fl_Sub (a b : Int) (w : World) : Calls Tryd.prog 18 #[.int .u64 a, .int .u64 b] w fun e w' => e = .returned (.int .u64 (arith .sub a b)) ∧ Below w.heap.size w w' := by
  unfold arith
  cases h : floatBits .sub .f64 a.toNat b.toNat with
  | some r =>
    have hr := fun t (w : World) => run_float_arith (P := Tryd.prog) w .sub t .f64 _ _ r h
    go_enter Tryd.func18, Tryd.ntmps18
    go_wp2_with (first | (go_at_call 27; refine (fl_of _ _).mono ?_; rintro e w' ⟨rfl, rfl⟩) | (go_at_call 30; refine (fl_bits _ _).mono ?_; rintro e w' ⟨rfl, rfl⟩))
    go_ret
    exact ⟨rfl, below_refl _⟩
  | none =>
    have hr := fun t (w : World) => run_float_none (P := Tryd.prog) .sub t _ _ (by decide) h w
    have hn := nrm_nan
    go_enter Tryd.func18, Tryd.ntmps18
    go_wp2_with (first | (go_at_call 27; refine (fl_of _ _).mono ?_; rintro e w' ⟨rfl, rfl⟩) | (go_at_call 30; refine (fl_bits _ _).mono ?_; rintro e w' ⟨rfl, rfl⟩))
    go_ret
    exact ⟨rfl, below_drew _⟩

theorem fl_Mul (a b : Int) (w : World) : Calls Tryd.prog 19 #[.int .u64 a, .int .u64 b] w fun e w' => e = .returned (.int .u64 (arith .mul a b)) ∧ Below w.heap.size w w' := by
  unfold arith
  cases h : floatBits .mul .f64 a.toNat b.toNat with
  | some r =>
    have hr := fun t (w : World) => run_float_arith (P := Tryd.prog) w .mul t .f64 _ _ r h
    go_enter Tryd.func19, Tryd.ntmps19
    go_wp2_with (first | (go_at_call 27; refine (fl_of _ _).mono ?_; rintro e w' ⟨rfl, rfl⟩) | (go_at_call 30; refine (fl_bits _ _).mono ?_; rintro e w' ⟨rfl, rfl⟩))
    go_ret
    exact ⟨rfl, below_refl _⟩
  | none =>
    have hr := fun t (w : World) => run_float_none (P := Tryd.prog) .mul t _ _ (by decide) h w
    have hn := nrm_nan
    go_enter Tryd.func19, Tryd.ntmps19
    go_wp2_with (first | (go_at_call 27; refine (fl_of _ _).mono ?_; rintro e w' ⟨rfl, rfl⟩) | (go_at_call 30; refine (fl_bits _ _).mono ?_; rintro e w' ⟨rfl, rfl⟩))
    go_ret
    exact ⟨rfl, below_drew _⟩

theorem fl_Div (a b : Int) (w : World) : Calls Tryd.prog 20 #[.int .u64 a, .int .u64 b] w fun e w' => e = .returned (.int .u64 (arith .quo a b)) ∧ Below w.heap.size w w' := by
  unfold arith
  cases h : floatBits .quo .f64 a.toNat b.toNat with
  | some r =>
    have hr := fun t (w : World) => run_float_arith (P := Tryd.prog) w .quo t .f64 _ _ r h
    go_enter Tryd.func20, Tryd.ntmps20
    go_wp2_with (first | (go_at_call 27; refine (fl_of _ _).mono ?_; rintro e w' ⟨rfl, rfl⟩) | (go_at_call 30; refine (fl_bits _ _).mono ?_; rintro e w' ⟨rfl, rfl⟩))
    go_ret
    exact ⟨rfl, below_refl _⟩
  | none =>
    have hr := fun t (w : World) => run_float_none (P := Tryd.prog) .quo t _ _ (by decide) h w
    have hn := nrm_nan
    go_enter Tryd.func20, Tryd.ntmps20
    go_wp2_with (first | (go_at_call 27; refine (fl_of _ _).mono ?_; rintro e w' ⟨rfl, rfl⟩) | (go_at_call 30; refine (fl_bits _ _).mono ?_; rintro e w' ⟨rfl, rfl⟩))
    go_ret
    exact ⟨rfl, below_drew _⟩

theorem fl_Do0 (a b : Int) (w : World) : Calls Tryd.prog 17 #[.int .i64 0, .int .u64 a, .int .u64 b] w fun e w' => e = .returned (.int .u64 (arith .add a b)) ∧ Below w.heap.size w w' := by
  unfold arith
  cases h : floatBits .add .f64 a.toNat b.toNat with
  | some r =>
    have hr := fun t (w : World) => run_float_arith (P := Tryd.prog) w .add t .f64 _ _ r h
    go_enter Tryd.func17, Tryd.ntmps17
    go_wp2_with (first | (go_at_call 29; refine (fl_num _ _).mono ?_; rintro e w' ⟨rfl, rfl⟩) | (go_at_call 31; refine (fl_bits2 _ _).mono ?_; rintro e w' ⟨rfl, rfl⟩))
    go_ret
    exact ⟨rfl, below_refl _⟩
  | none =>
    have hr := fun t (w : World) => run_float_none (P := Tryd.prog) .add t _ _ (by decide) h w
    have hn := nrm_nan
    go_enter Tryd.func17, Tryd.ntmps17
    go_wp2_with (first | (go_at_call 29; refine (fl_num _ _).mono ?_; rintro e w' ⟨rfl, rfl⟩) | (go_at_call 31; refine (fl_bits2 _ _).mono ?_; rintro e w' ⟨rfl, rfl⟩))
    go_ret
    exact ⟨rfl, below_drew _⟩

theorem fl_Do1 (a b : Int) (w : World) : Calls Tryd.prog 17 #[.int .i64 1, .int .u64 a, .int .u64 b] w fun e w' => e = .returned (.int .u64 (arith .sub a b)) ∧ Below w.heap.size w w' := by
  unfold arith
  cases h : floatBits .sub .f64 a.toNat b.toNat with
  | some r =>
    have hr := fun t (w : World) => run_float_arith (P := Tryd.prog) w .sub t .f64 _ _ r h
    go_enter Tryd.func17, Tryd.ntmps17
    go_wp2_with (first | (go_at_call 29; refine (fl_num _ _).mono ?_; rintro e w' ⟨rfl, rfl⟩) | (go_at_call 31; refine (fl_bits2 _ _).mono ?_; rintro e w' ⟨rfl, rfl⟩))
    go_ret
    exact ⟨rfl, below_refl _⟩
  | none =>
    have hr := fun t (w : World) => run_float_none (P := Tryd.prog) .sub t _ _ (by decide) h w
    have hn := nrm_nan
    go_enter Tryd.func17, Tryd.ntmps17
    go_wp2_with (first | (go_at_call 29; refine (fl_num _ _).mono ?_; rintro e w' ⟨rfl, rfl⟩) | (go_at_call 31; refine (fl_bits2 _ _).mono ?_; rintro e w' ⟨rfl, rfl⟩))
    go_ret
    exact ⟨rfl, below_drew _⟩

theorem fl_Do2 (a b : Int) (w : World) : Calls Tryd.prog 17 #[.int .i64 2, .int .u64 a, .int .u64 b] w fun e w' => e = .returned (.int .u64 (arith .mul a b)) ∧ Below w.heap.size w w' := by
  unfold arith
  cases h : floatBits .mul .f64 a.toNat b.toNat with
  | some r =>
    have hr := fun t (w : World) => run_float_arith (P := Tryd.prog) w .mul t .f64 _ _ r h
    go_enter Tryd.func17, Tryd.ntmps17
    go_wp2_with (first | (go_at_call 29; refine (fl_num _ _).mono ?_; rintro e w' ⟨rfl, rfl⟩) | (go_at_call 31; refine (fl_bits2 _ _).mono ?_; rintro e w' ⟨rfl, rfl⟩))
    go_ret
    exact ⟨rfl, below_refl _⟩
  | none =>
    have hr := fun t (w : World) => run_float_none (P := Tryd.prog) .mul t _ _ (by decide) h w
    have hn := nrm_nan
    go_enter Tryd.func17, Tryd.ntmps17
    go_wp2_with (first | (go_at_call 29; refine (fl_num _ _).mono ?_; rintro e w' ⟨rfl, rfl⟩) | (go_at_call 31; refine (fl_bits2 _ _).mono ?_; rintro e w' ⟨rfl, rfl⟩))
    go_ret
    exact ⟨rfl, below_drew _⟩

theorem fl_Do3 (k : Int) (h0 : ¬ k = 0) (h1 : ¬ k = 1) (h2 : ¬ k = 2) (a b : Int) (w : World) : Calls Tryd.prog 17 #[.int .i64 k, .int .u64 a, .int .u64 b] w fun e w' => e = .returned (.int .u64 (arith .quo a b)) ∧ Below w.heap.size w w' := by
  unfold arith
  have q0 : (k == 0) = false := by simp [h0]
  have q1 : (k == 1) = false := by simp [h1]
  have q2 : (k == 2) = false := by simp [h2]
  cases h : floatBits .quo .f64 a.toNat b.toNat with
  | some r =>
    have hr := fun t (w : World) => run_float_arith (P := Tryd.prog) w .quo t .f64 _ _ r h
    go_enter Tryd.func17, Tryd.ntmps17
    go_wp2_with (first | (go_at_call 29; refine (fl_num _ _).mono ?_; rintro e w' ⟨rfl, rfl⟩) | (go_at_call 31; refine (fl_bits2 _ _).mono ?_; rintro e w' ⟨rfl, rfl⟩))
    go_ret
    exact ⟨rfl, below_refl _⟩
  | none =>
    have hr := fun t (w : World) => run_float_none (P := Tryd.prog) .quo t _ _ (by decide) h w
    have hn := nrm_nan
    go_enter Tryd.func17, Tryd.ntmps17
    go_wp2_with (first | (go_at_call 29; refine (fl_num _ _).mono ?_; rintro e w' ⟨rfl, rfl⟩) | (go_at_call 31; refine (fl_bits2 _ _).mono ?_; rintro e w' ⟨rfl, rfl⟩))
    go_ret
    exact ⟨rfl, below_drew _⟩

theorem fl_Compare (a b : Int) (w : World) : Calls Tryd.prog 14 #[.int .u64 a, .int .u64 b] w fun e w' => e = .returned (.tuple #[.bool (cz a b), .bool (cp a b), .bool (cc a b)]) ∧ w' = w := by
  have hf : FloatKind.f64.format = Ieee.double := rfl
  unfold cz cp cc
  cases ha : isN a <;> cases hb : isN b
  all_goals
    unfold isN at ha hb
    have ha2 : (Ieee.double.order a.toNat a.toNat != some Ordering.eq) = !(Ieee.double.order a.toNat a.toNat == some .eq) := rfl
    have hb2 : (Ieee.double.order b.toNat b.toNat != some Ordering.eq) = !(Ieee.double.order b.toNat b.toNat == some .eq) := rfl
    rw [ha] at ha2
    rw [hb] at hb2
    simp only [Bool.not_true, Bool.not_false] at ha2 hb2
    go_enter Tryd.func14, Tryd.ntmps14
    go_wp2_with (go_at_call 27; refine (fl_of _ _).mono ?_; rintro e w' ⟨rfl, rfl⟩)
  all_goals (go_ret3; exact ⟨rfl, rfl⟩)
theorem fl_None (a : Int) (w : World) : Calls Tryd.prog 28 #[.int .u64 a] w fun e w' => e = .returned (.bool (noN a)) ∧ w' = w := by
  unfold noN
  go_enter Tryd.func28, Tryd.ntmps28
  go_wp2
  go_ret
  exact ⟨rfl, rfl⟩
theorem fl_Compare2 (a b : Int) (w : World) : Calls Tryd.prog 15 #[.int .u64 a, .int .u64 b] w fun e w' => e = .returned (.tuple #[.bool (rz a b), .bool (rp a b), .bool (rc a b)]) ∧ w' = w := by
  have hf : FloatKind.f64.format = Ieee.double := rfl
  unfold rz rp rc
  cases ha : noN a <;> cases hb : noN b
  all_goals
    go_enter Tryd.func15, Tryd.ntmps15
    go_wp2_with (first | (go_at_call 29; refine (fl_num _ _).mono ?_; rintro e w' ⟨rfl, rfl⟩) | (go_at_call 28; refine (fl_None _ _).mono ?_; rintro e w' ⟨rfl, rfl⟩))
  all_goals (go_ret3; exact ⟨rfl, rfl⟩)

theorem pin_len : pinTab.length = 64 := by decide
theorem pin_all : ∀ n : Nat, 0 ≤ pinTab.getD n 0 ∧ pinTab.getD n 0 < 64 := by
  intro n
  by_cases h : n < 64
  · have := List.all_eq_true.1 (show (List.range 64).all (fun n => decide (0 ≤ pinTab.getD n 0 ∧ pinTab.getD n 0 < 64)) = true from by decide) n (by simpa using h)
    exact of_decide_eq_true this
  · have pin_len : pinTab.length = 64 := by decide
    rw [List.getD_eq_getElem?_getD, List.getElem?_eq_none (by rw [pin_len]; omega)]
    decide
theorem fl_tz64 (a : Int) (h0 : 0 ≤ a) (h1 : a < 18446744073709551616) (w : World) (hp : PinI w) : Calls Tryd.prog 45 #[.int .u64 a] w fun e w' => e = .returned (.int .i64 (tzF a)) ∧ w' = w := by
  by_cases hz : a = 0
  · subst hz
    go_enter Tryd.func45, Tryd.ntmps45
    go_wp2
    go_ret
    exact ⟨rfl, rfl⟩
  · have hq : (a == 0) = false := by simp [hz]
    have hm0 : 0 ≤ IntKind.wrap .u64 (ibin .and .u64 a (IntKind.wrap .u64 (-a)) * 285870213051353865) ∧ IntKind.wrap .u64 (ibin .and .u64 a (IntKind.wrap .u64 (-a)) * 285870213051353865) < 18446744073709551616 := by rw [IntKind.wrap_u64]; omega
    have hc := Lib.TabIs.cell hp pinG (IntKind.wrap .u64 (ibin .and .u64 a (IntKind.wrap .u64 (-a)) * 285870213051353865) / 288230376151711744).toNat (by rw [pin_len]; omega)
    have e0 : tzF a = pinTab.getD (IntKind.wrap .u64 (ibin .and .u64 a (IntKind.wrap .u64 (-a)) * 285870213051353865) / 288230376151711744).toNat 0 := by unfold tzF; rw [if_neg hz]
    rw [← e0] at hc
    have hb : 0 ≤ tzF a ∧ tzF a < 256 := by
      rw [e0]
      have := pin_all (IntKind.wrap .u64 (ibin .and .u64 a (IntKind.wrap .u64 (-a)) * 285870213051353865) / 288230376151711744).toNat
      omega
    have hw : IntKind.wrap .i64 (tzF a) = tzF a := by rw [IntKind.wrap_i64]; omega
    clear e0
    have e1 : bits .and .u64 a (IntKind.wrap .u64 (-a)) = ibin .and .u64 a (IntKind.wrap .u64 (-a)) := rfl
    go_enter Tryd.func45, Tryd.ntmps45
    go_wp2
    all_goals (go_ret; exact ⟨rfl, rfl⟩)
theorem fl_tz (a : Int) (h0 : 0 ≤ a) (h1 : a < 18446744073709551616) (w : World) (hp : PinI w) : Calls Tryd.prog 43 #[.int .u64 a] w fun e w' => e = .returned (.int .i64 (tzF a)) ∧ w' = w := by
  have hq := fl_tz64 a h0 h1 w hp
  go_enter Tryd.func43, Tryd.ntmps43
  go_wp2_with (go_at_call 45; refine hq.mono ?_; rintro e w' ⟨rfl, rfl⟩)
  go_ret
  exact ⟨rfl, rfl⟩
end Go.Proofs.YtdchnlmclngjmaaDoor
