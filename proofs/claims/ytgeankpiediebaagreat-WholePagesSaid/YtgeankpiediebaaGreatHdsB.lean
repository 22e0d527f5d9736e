/-
  The host's words that the laws come to are written as said.
-/
import Derived.Test.YtgeankpiediebaaGreatHdsA
import Derived.KernelRfl
noncomputable section
namespace Go.Proofs.YtgeankpiediebaaGreat
open Go.Fx
set_option maxRecDepth 100000
theorem enc0 : ws0.all (encChk XN 203) = true := by kernel_rfl
theorem enc1 : ws1.all (encChk XN 203) = true := by kernel_rfl
theorem enc2 : ws2.all (encChk XN 203) = true := by kernel_rfl
theorem enc3 : ws3.all (encChk XN 203) = true := by kernel_rfl
theorem enc4 : ws4.all (encChk XN 203) = true := by kernel_rfl
theorem enc5 : ws5.all (encChk XN 203) = true := by kernel_rfl
theorem enc6 : ws6.all (encChk XN 203) = true := by kernel_rfl
theorem encs : ws.all (encChk XN 203) = true := by
  simp only [ws, List.all_append, enc0, enc1, enc2, enc3, enc4, enc5, enc6, Bool.and_self]
end Go.Proofs.YtgeankpiediebaaGreat
end
