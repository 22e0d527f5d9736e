/-
  The host's words that make numbers, whatever the numbers: how they are read and written.
-/
import Derived.Test.YtgeankpiediebaaGreatHnd
import Derived.KernelRfl
noncomputable section
namespace Go.Proofs.YtgeankpiediebaaGreat
open Go.Fx
set_option maxRecDepth 100000
theorem decs20 : s20.all (decSChk XN 132 20) = true := by kernel_rfl
theorem decs12 : s12.all (decSChk XN 132 12) = true := by kernel_rfl
theorem encs20 : s20.all (encSChk XN 203 20) = true := by kernel_rfl
theorem encs12 : s12.all (encSChk XN 203 12) = true := by kernel_rfl
end Go.Proofs.YtgeankpiediebaaGreat
end
