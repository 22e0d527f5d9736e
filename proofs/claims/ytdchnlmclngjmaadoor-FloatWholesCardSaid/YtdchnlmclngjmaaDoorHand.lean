/- Summaries of the operations on numbers, out of their walks. -/
import Derived.Test.YtdchnlmclngjmaaDoorBase
import Derived.Test.YtdchnlmclngjmaaDoorFl
namespace Go.Proofs.YtdchnlmclngjmaaDoor
open Go.Sx
set_option linter.unusedVariables false

theorem nrm_bd {r : Nat} (h : r < 18446744073709551616) : 0 ≤ nrm r ∧ nrm r < 18446744073709551616 := by
  unfold nrm
  split <;> omega
theorem arith_bd (op : BinOp) (a b : Int) : 0 ≤ arith op a b ∧ arith op a b < 18446744073709551616 := by
  unfold arith
  split
  · rename_i r h
    refine nrm_bd ?_
    have hw := floatBits_wf h
    have : r < 2 ^ 64 := by
      unfold floatBits at h
      split at h
      · exact Ieee.Format.add_lt _ h
      · exact Ieee.Format.sub_lt _ h
      · exact Ieee.Format.mul_lt _ h
      · exact Ieee.Format.div_lt _ h
      · cases h
    exact this
  · decide
theorem arithD_bd (k a b : Int) : 0 ≤ arithD k a b ∧ arithD k a b < 18446744073709551616 := by
  unfold arithD
  split
  · exact arith_bd _ _ _
  split
  · exact arith_bd _ _ _
  split
  · exact arith_bd _ _ _
  · exact arith_bd _ _ _
theorem fAdd_ok : SumT Tryd.prog phi 16 fAddS := handSum (fun xs w => Tryd.call16 xs w) (by
  intro a0 h0 a1 h1
  exact ⟨fun w => (fl_Add a0 a1 w), has_u64.2 (arith_bd _ _ _), trivial⟩)
theorem fSub_ok : SumT Tryd.prog phi 18 fSubS := handSum (fun xs w => Tryd.call18 xs w) (by
  intro a0 h0 a1 h1
  exact ⟨fun w => (fl_Sub a0 a1 w), has_u64.2 (arith_bd _ _ _), trivial⟩)
theorem fMul_ok : SumT Tryd.prog phi 19 fMulS := handSum (fun xs w => Tryd.call19 xs w) (by
  intro a0 h0 a1 h1
  exact ⟨fun w => (fl_Mul a0 a1 w), has_u64.2 (arith_bd _ _ _), trivial⟩)
theorem fDiv_ok : SumT Tryd.prog phi 20 fDivS := handSum (fun xs w => Tryd.call20 xs w) (by
  intro a0 h0 a1 h1
  exact ⟨fun w => (fl_Div a0 a1 w), has_u64.2 (arith_bd _ _ _), trivial⟩)
theorem fCmp_ok : SumT Tryd.prog phi 14 fCmpS := handSum (fun xs w => Tryd.call14 xs w) (by
  intro a0 h0 a1 h1
  exact ⟨fun w => (fl_Compare a0 a1 w).mono fun e w' h => ⟨h.1, below_eq h.2.symm⟩, trivial⟩)
theorem rCmp_ok : SumT Tryd.prog phi 15 rCmpS := handSum (fun xs w => Tryd.call15 xs w) (by
  intro a0 h0 a1 h1
  exact ⟨fun w => (fl_Compare2 a0 a1 w).mono fun e w' h => ⟨h.1, below_eq h.2.symm⟩, trivial⟩)
theorem rDo_ok : SumT Tryd.prog phi 17 rDoS := handSum (fun xs w => Tryd.call17 xs w) (by
  intro a0 h0 a1 h1 a2 h2
  refine ⟨fun w => ?_, has_u64.2 (arithD_bd _ _ _), trivial⟩
  show Calls Tryd.prog _ #[.int .i64 a0, .int .u64 a1, .int .u64 a2] w fun e w' => e = .returned (.int .u64 (arithD a0 a1 a2)) ∧ RowKit.Below w.heap.size w w'
  unfold arithD
  by_cases c0 : a0 = 0
  · subst c0; rw [if_pos rfl]; exact fl_Do0 a1 a2 w
  · rw [if_neg c0]
    by_cases c1 : a0 = 1
    · subst c1; rw [if_pos rfl]; exact fl_Do1 a1 a2 w
    · rw [if_neg c1]
      by_cases c2 : a0 = 2
      · subst c2; rw [if_pos rfl]; exact fl_Do2 a1 a2 w
      · rw [if_neg c2]; exact fl_Do3 a0 c0 c1 c2 a1 a2 w)
theorem tzF_bd (a : Int) : 0 ≤ tzF a ∧ tzF a ≤ 64 := by
  unfold tzF
  split
  · decide
  · have := pin_all (IntKind.wrap .u64 (ibin .and .u64 a (IntKind.wrap .u64 (-a)) * 285870213051353865) / 288230376151711744).toNat
    omega
theorem tz_ok : SumT Tryd.prog phi 43 tzS := handSumP (fun xs w => Tryd.call43 xs w) (by
  intro a0 h0
  exact ⟨fun w p1 p2 => (fl_tz a0 (has_u64.1 h0).1 (has_u64.1 h0).2 w p2).mono fun e w' h => ⟨h.1, below_eq h.2.symm⟩, has_i64.2 (by have := tzF_bd a0; show _ ≤ tzF a0 ∧ tzF a0 < _; omega), trivial⟩)
end Go.Proofs.YtdchnlmclngjmaaDoor
