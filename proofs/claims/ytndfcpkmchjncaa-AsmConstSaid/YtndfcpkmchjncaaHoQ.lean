/- A word that is not nought is no nought as a number with a sign. -/
import Derived.Test.YtndfcpkmchjncaaDig
import Derived.Test.YtndfcpkmchjncaaBitsMath
namespace Go.Proofs.Ytndfcpkmchjncaa
open Go.Sx
theorem wnz32 (a : Int) (h : IntKind.has .u32 a) (h0 : ¬ a = 0) : ¬ IntKind.wrap .i32 a = 0 := by
  have h1 : 0 ≤ a := h.1
  have h2 : a ≤ 4294967295 := h.2
  rw [IntKind.wrap_i32]
  omega
theorem wnz (a : Int) (h : IntKind.has .u32 a) (h0 : ¬ a = 0) : ¬ IntKind.wrap .i64 (IntKind.wrap .i32 a) = 0 := by
  have h1 : 0 ≤ a := h.1
  have h2 : a ≤ 4294967295 := h.2
  rw [IntKind.wrap_i32, IntKind.wrap_i64]
  omega
end Go.Proofs.Ytndfcpkmchjncaa
