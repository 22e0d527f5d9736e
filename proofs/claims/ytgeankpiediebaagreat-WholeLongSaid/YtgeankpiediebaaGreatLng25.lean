/-
  WholeLong, run by some of its ways.
-/
import Derived.Test.YtgeankpiediebaaGreatLngB
noncomputable section
namespace Go.Proofs.YtgeankpiediebaaGreat
open Go.Fx
set_option maxRecDepth 100000
theorem lng_25 : [lngRun true (lngDs .r .r (some .h) none), lngRun true (lngDs .r .r (some .r) none), lngRun true (lngDs .r .r (some .n) none)] = [some (lngMet true .r .r (some .h) none), some (lngMet true .r .r (some .r) none), some (lngMet true .r .r (some .n) none)] := by kernel_rfl
theorem lng_57 : [lngRun false (lngDs .h .r (some .h) none), lngRun false (lngDs .h .r (some .r) none), lngRun false (lngDs .h .r (some .n) none)] = [some (lngMet false .h .r (some .h) none), some (lngMet false .h .r (some .r) none), some (lngMet false .h .r (some .n) none)] := by kernel_rfl
theorem lng_89 : [lngRun false (lngDs .n .r (some .h) none), lngRun false (lngDs .n .r (some .r) none), lngRun false (lngDs .n .r (some .n) none)] = [some (lngMet false .n .r (some .h) none), some (lngMet false .n .r (some .r) none), some (lngMet false .n .r (some .n) none)] := by kernel_rfl
end Go.Proofs.YtgeankpiediebaaGreat
end
