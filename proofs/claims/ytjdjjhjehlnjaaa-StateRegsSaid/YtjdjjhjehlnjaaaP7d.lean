/-
  Plain laws: a truth laid as a word and read again.
-/
import Derived.Test.YtjdjjhjehlnjaaaSums
import Derived.Test.YtjdjjhjehlnjaaaP7c
namespace Go.Proofs.Ytjdjjhjehlnjaaa
open Go.Sx
theorem word_truth (b : Bool) : (ibin .or .u32 (ibin .or .u32 (ibin .or .u32 (IntKind.wrap .u32 (IntKind.wrap .u8 (phi.i 28 [(.bool b)] 0))) (ibin .shl .u32 (IntKind.wrap .u32 (IntKind.wrap .u8 (ibin .shr .u32 (phi.i 28 [(.bool b)] 0) 8))) 8)) (ibin .shl .u32 (IntKind.wrap .u32 (IntKind.wrap .u8 (ibin .shr .u32 (phi.i 28 [(.bool b)] 0) 16))) 16)) (ibin .shl .u32 (IntKind.wrap .u32 (IntKind.wrap .u8 (ibin .shr .u32 (phi.i 28 [(.bool b)] 0) 24))) 24)) = if b then 1 else 0 := by
  cases b <;> decide +kernel
theorem neq_truth (b : Bool) : icmp .neq (if b then 1 else 0) 0 = b := by cases b <;> rfl
theorem eql_truth (b : Bool) : icmp .eql (if b then 1 else 0) 1 = b := by cases b <;> rfl
theorem gtr_truth (b : Bool) : icmp .gtr (if b then 1 else 0) 1 = false := by cases b <;> rfl
end Go.Proofs.Ytjdjjhjehlnjaaa
