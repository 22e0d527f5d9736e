/-
  WholeLong, run by some of its ways.
-/
import Derived.Test.YtgeankpiediebaaGreatLngB
noncomputable section
namespace Go.Proofs.YtgeankpiediebaaGreat
open Go.Fx
set_option maxRecDepth 100000
theorem lng_9 : [lngRun true (lngDs .h .r (some .h) none), lngRun true (lngDs .h .r (some .r) none), lngRun true (lngDs .h .r (some .n) none)] = [some (lngMet true .h .r (some .h) none), some (lngMet true .h .r (some .r) none), some (lngMet true .h .r (some .n) none)] := by kernel_rfl
theorem lng_41 : [lngRun true (lngDs .n .r (some .h) none), lngRun true (lngDs .n .r (some .r) none), lngRun true (lngDs .n .r (some .n) none)] = [some (lngMet true .n .r (some .h) none), some (lngMet true .n .r (some .r) none), some (lngMet true .n .r (some .n) none)] := by kernel_rfl
theorem lng_73 : [lngRun false (lngDs .r .r (some .h) none), lngRun false (lngDs .r .r (some .r) none), lngRun false (lngDs .r .r (some .n) none)] = [some (lngMet false .r .r (some .h) none), some (lngMet false .r .r (some .r) none), some (lngMet false .r .r (some .n) none)] := by kernel_rfl
end Go.Proofs.YtgeankpiediebaaGreat
end
