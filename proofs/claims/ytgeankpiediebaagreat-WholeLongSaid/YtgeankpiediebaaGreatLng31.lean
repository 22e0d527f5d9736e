/-
  WholeLong, run by some of its ways.
-/
import Derived.Test.YtgeankpiediebaaGreatLngB
noncomputable section
namespace Go.Proofs.YtgeankpiediebaaGreat
open Go.Fx
set_option maxRecDepth 100000
theorem lng_31 : [lngRun true (lngDs .r .h none none), lngRun true (lngDs .r .r none none), lngRun true (lngDs .r .n none none)] = [some (lngMet true .r .h none none), some (lngMet true .r .r none none), some (lngMet true .r .n none none)] := by kernel_rfl
theorem lng_63 : [lngRun false (lngDs .h .h none none), lngRun false (lngDs .h .r none none), lngRun false (lngDs .h .n none none)] = [some (lngMet false .h .h none none), some (lngMet false .h .r none none), some (lngMet false .h .n none none)] := by kernel_rfl
theorem lng_95 : [lngRun false (lngDs .n .h none none), lngRun false (lngDs .n .r none none), lngRun false (lngDs .n .n none none)] = [some (lngMet false .n .h none none), some (lngMet false .n .r none none), some (lngMet false .n .n none none)] := by kernel_rfl
end Go.Proofs.YtgeankpiediebaaGreat
end
