/-
  WholeLong, run by some of its ways.
-/
import Derived.Test.YtgeankpiediebaaGreatLngB
noncomputable section
namespace Go.Proofs.YtgeankpiediebaaGreat
open Go.Fx
set_option maxRecDepth 100000
theorem lng_14 : [lngRun true (lngDs .h .n (some .h) none), lngRun true (lngDs .h .n (some .r) none), lngRun true (lngDs .h .n (some .n) none)] = [some (lngMet true .h .n (some .h) none), some (lngMet true .h .n (some .r) none), some (lngMet true .h .n (some .n) none)] := by kernel_rfl
theorem lng_46 : [lngRun true (lngDs .n .n (some .h) none), lngRun true (lngDs .n .n (some .r) none), lngRun true (lngDs .n .n (some .n) none)] = [some (lngMet true .n .n (some .h) none), some (lngMet true .n .n (some .r) none), some (lngMet true .n .n (some .n) none)] := by kernel_rfl
theorem lng_78 : [lngRun false (lngDs .r .n (some .h) none), lngRun false (lngDs .r .n (some .r) none), lngRun false (lngDs .r .n (some .n) none)] = [some (lngMet false .r .n (some .h) none), some (lngMet false .r .n (some .r) none), some (lngMet false .r .n (some .n) none)] := by kernel_rfl
end Go.Proofs.YtgeankpiediebaaGreat
end
