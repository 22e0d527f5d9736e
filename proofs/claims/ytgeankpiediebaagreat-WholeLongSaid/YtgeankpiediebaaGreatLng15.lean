/-
  WholeLong, run by some of its ways.
-/
import Derived.Test.YtgeankpiediebaaGreatLngB
noncomputable section
namespace Go.Proofs.YtgeankpiediebaaGreat
open Go.Fx
set_option maxRecDepth 100000
theorem lng_15 : [lngRun true (lngDs .h .h none none), lngRun true (lngDs .h .r none none), lngRun true (lngDs .h .n none none)] = [some (lngMet true .h .h none none), some (lngMet true .h .r none none), some (lngMet true .h .n none none)] := by kernel_rfl
theorem lng_47 : [lngRun true (lngDs .n .h none none), lngRun true (lngDs .n .r none none), lngRun true (lngDs .n .n none none)] = [some (lngMet true .n .h none none), some (lngMet true .n .r none none), some (lngMet true .n .n none none)] := by kernel_rfl
theorem lng_79 : [lngRun false (lngDs .r .h none none), lngRun false (lngDs .r .r none none), lngRun false (lngDs .r .n none none)] = [some (lngMet false .r .h none none), some (lngMet false .r .r none none), some (lngMet false .r .n none none)] := by kernel_rfl
end Go.Proofs.YtgeankpiediebaaGreat
end
