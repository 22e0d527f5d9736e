/-
  A number's decimal text.
-/
import Derived.Test.YtahhfjmgdalfpaaDoorDig
import Derived.Lib.ItoaNum
import Derived.Lib.ItoaLen
namespace Go.Proofs.YtahhfjmgdalfpaaDoor
def itoaB (n : Int) : ByteArray := ⟨(Lib.itoa (IntKind.wrap .i64 n)).toArray⟩
theorem itoaB_size (n : Int) : (itoaB n).size ≤ 21 := by
  unfold itoaB
  have h := IntKind.wrap_i64 n
  have := Lib.itoa_length_le (IntKind.wrap .i64 n) (by rw [h]; omega) (by rw [h]; omega)
  show ((Lib.itoa (IntKind.wrap .i64 n)).toArray).size ≤ 21
  simpa using this
theorem itoaB_of {n : Int} (h0 : -9223372036854775808 ≤ n) (h1 : n < 9223372036854775808) : itoaB n = ⟨(Lib.itoa n).toArray⟩ := by
  unfold itoaB
  have h : IntKind.wrap .i64 n = n := by rw [IntKind.wrap_i64]; omega
  rw [h]
end Go.Proofs.YtahhfjmgdalfpaaDoor
