/-
  WholeLong, run by some of its ways.
-/
import Derived.Test.YtgeankpiediebaaGreatLngB
noncomputable section
namespace Go.Proofs.YtgeankpiediebaaGreat
open Go.Fx
set_option maxRecDepth 100000
theorem lng_1 : [lngRun true (lngDs .h .h (some .h) (some .h)), lngRun true (lngDs .h .h (some .h) (some .r)), lngRun true (lngDs .h .h (some .h) (some .n))] = [some (lngMet true .h .h (some .h) (some .h)), some (lngMet true .h .h (some .h) (some .r)), some (lngMet true .h .h (some .h) (some .n))] := by kernel_rfl
theorem lng_33 : [lngRun true (lngDs .n .h (some .h) (some .h)), lngRun true (lngDs .n .h (some .h) (some .r)), lngRun true (lngDs .n .h (some .h) (some .n))] = [some (lngMet true .n .h (some .h) (some .h)), some (lngMet true .n .h (some .h) (some .r)), some (lngMet true .n .h (some .h) (some .n))] := by kernel_rfl
theorem lng_65 : [lngRun false (lngDs .r .h (some .h) (some .h)), lngRun false (lngDs .r .h (some .h) (some .r)), lngRun false (lngDs .r .h (some .h) (some .n))] = [some (lngMet false .r .h (some .h) (some .h)), some (lngMet false .r .h (some .h) (some .r)), some (lngMet false .r .h (some .h) (some .n))] := by kernel_rfl
end Go.Proofs.YtgeankpiediebaaGreat
end
