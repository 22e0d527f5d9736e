/- A rest by 8 is one of eight numbers. -/
import Derived.Test.YtndfcpkmchjncaaDig
import Derived.Test.YtndfcpkmchjncaaBitsMath
namespace Go.Proofs.Ytndfcpkmchjncaa
open Go.Sx
theorem m8_eq (a : Int) : ibin .rem .i64 (ibin .add .i64 (ibin .rem .i64 a 8) 8) 8 = a % 8 := by
  show (IntKind.i64.wrap (a.tmod 8 + 8)).tmod 8 = a % 8
  have h1 : -8 < a.tmod 8 ∧ a.tmod 8 < 8 ∧ (a.tmod 8) % 8 = a % 8 := by
    rcases Int.le_total 0 a with h | h
    · rw [Int.tmod_eq_emod_of_nonneg h]; omega
    · have e : a.tmod 8 = -((-a).tmod 8) := by rw [Int.neg_tmod, Int.neg_neg]
      rw [e, Int.tmod_eq_emod_of_nonneg (by omega : 0 ≤ -a)]; omega
  rw [IntKind.wrap_i64, Int.tmod_eq_emod_of_nonneg (by omega)]
  omega
theorem m8 (a : Int) : 0 ≤ ibin .rem .i64 (ibin .add .i64 (ibin .rem .i64 a 8) 8) 8 ∧ ibin .rem .i64 (ibin .add .i64 (ibin .rem .i64 a 8) 8) 8 < 8 := by
  rw [m8_eq]; omega
theorem mr0 : ibin .rem .i64 0 4 = 0 := by decide +kernel
theorem mq0 : ibin .mul .i64 (ibin .quo .i64 0 4) 8 = 0 := by decide +kernel
theorem mr1 : ibin .rem .i64 1 4 = 1 := by decide +kernel
theorem mq1 : ibin .mul .i64 (ibin .quo .i64 1 4) 8 = 0 := by decide +kernel
theorem mr2 : ibin .rem .i64 2 4 = 2 := by decide +kernel
theorem mq2 : ibin .mul .i64 (ibin .quo .i64 2 4) 8 = 0 := by decide +kernel
theorem mr3 : ibin .rem .i64 3 4 = 3 := by decide +kernel
theorem mq3 : ibin .mul .i64 (ibin .quo .i64 3 4) 8 = 0 := by decide +kernel
theorem mr4 : ibin .rem .i64 4 4 = 0 := by decide +kernel
theorem mq4 : ibin .mul .i64 (ibin .quo .i64 4 4) 8 = 8 := by decide +kernel
theorem mr5 : ibin .rem .i64 5 4 = 1 := by decide +kernel
theorem mq5 : ibin .mul .i64 (ibin .quo .i64 5 4) 8 = 8 := by decide +kernel
theorem mr6 : ibin .rem .i64 6 4 = 2 := by decide +kernel
theorem mq6 : ibin .mul .i64 (ibin .quo .i64 6 4) 8 = 8 := by decide +kernel
theorem mr7 : ibin .rem .i64 7 4 = 3 := by decide +kernel
theorem mq7 : ibin .mul .i64 (ibin .quo .i64 7 4) 8 = 8 := by decide +kernel
end Go.Proofs.Ytndfcpkmchjncaa
