/-
  WholeLong, run by some of its ways.
-/
import Derived.Test.YtgeankpiediebaaGreatLngB
noncomputable section
namespace Go.Proofs.YtgeankpiediebaaGreat
open Go.Fx
set_option maxRecDepth 100000
theorem lng_4 : [lngRun true (lngDs .h .h (some .h) none), lngRun true (lngDs .h .h (some .r) none), lngRun true (lngDs .h .h (some .n) none)] = [some (lngMet true .h .h (some .h) none), some (lngMet true .h .h (some .r) none), some (lngMet true .h .h (some .n) none)] := by kernel_rfl
theorem lng_36 : [lngRun true (lngDs .n .h (some .h) none), lngRun true (lngDs .n .h (some .r) none), lngRun true (lngDs .n .h (some .n) none)] = [some (lngMet true .n .h (some .h) none), some (lngMet true .n .h (some .r) none), some (lngMet true .n .h (some .n) none)] := by kernel_rfl
theorem lng_68 : [lngRun false (lngDs .r .h (some .h) none), lngRun false (lngDs .r .h (some .r) none), lngRun false (lngDs .r .h (some .n) none)] = [some (lngMet false .r .h (some .h) none), some (lngMet false .r .h (some .r) none), some (lngMet false .r .h (some .n) none)] := by kernel_rfl
end Go.Proofs.YtgeankpiediebaaGreat
end
