/-
  WholeLong, run by some of its ways.
-/
import Derived.Test.YtgeankpiediebaaGreatLngB
noncomputable section
namespace Go.Proofs.YtgeankpiediebaaGreat
open Go.Fx
set_option maxRecDepth 100000
theorem lng_20 : [lngRun true (lngDs .r .h (some .h) none), lngRun true (lngDs .r .h (some .r) none), lngRun true (lngDs .r .h (some .n) none)] = [some (lngMet true .r .h (some .h) none), some (lngMet true .r .h (some .r) none), some (lngMet true .r .h (some .n) none)] := by kernel_rfl
theorem lng_52 : [lngRun false (lngDs .h .h (some .h) none), lngRun false (lngDs .h .h (some .r) none), lngRun false (lngDs .h .h (some .n) none)] = [some (lngMet false .h .h (some .h) none), some (lngMet false .h .h (some .r) none), some (lngMet false .h .h (some .n) none)] := by kernel_rfl
theorem lng_84 : [lngRun false (lngDs .n .h (some .h) none), lngRun false (lngDs .n .h (some .r) none), lngRun false (lngDs .n .h (some .n) none)] = [some (lngMet false .n .h (some .h) none), some (lngMet false .n .h (some .r) none), some (lngMet false .n .h (some .n) none)] := by kernel_rfl
end Go.Proofs.YtgeankpiediebaaGreat
end
