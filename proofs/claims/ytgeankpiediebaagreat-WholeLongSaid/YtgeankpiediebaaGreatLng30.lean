/-
  WholeLong, run by some of its ways.
-/
import Derived.Test.YtgeankpiediebaaGreatLngB
noncomputable section
namespace Go.Proofs.YtgeankpiediebaaGreat
open Go.Fx
set_option maxRecDepth 100000
theorem lng_30 : [lngRun true (lngDs .r .n (some .h) none), lngRun true (lngDs .r .n (some .r) none), lngRun true (lngDs .r .n (some .n) none)] = [some (lngMet true .r .n (some .h) none), some (lngMet true .r .n (some .r) none), some (lngMet true .r .n (some .n) none)] := by kernel_rfl
theorem lng_62 : [lngRun false (lngDs .h .n (some .h) none), lngRun false (lngDs .h .n (some .r) none), lngRun false (lngDs .h .n (some .n) none)] = [some (lngMet false .h .n (some .h) none), some (lngMet false .h .n (some .r) none), some (lngMet false .h .n (some .n) none)] := by kernel_rfl
theorem lng_94 : [lngRun false (lngDs .n .n (some .h) none), lngRun false (lngDs .n .n (some .r) none), lngRun false (lngDs .n .n (some .n) none)] = [some (lngMet false .n .n (some .h) none), some (lngMet false .n .n (some .r) none), some (lngMet false .n .n (some .n) none)] := by kernel_rfl
end Go.Proofs.YtgeankpiediebaaGreat
end
