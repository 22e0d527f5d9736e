/-
  WholeLong, run by some of its ways.
-/
import Derived.Test.YtgeankpiediebaaGreatLngB
noncomputable section
namespace Go.Proofs.YtgeankpiediebaaGreat
open Go.Fx
set_option maxRecDepth 100000
theorem lng_27 : [lngRun true (lngDs .r .n (some .h) (some .h)), lngRun true (lngDs .r .n (some .h) (some .r)), lngRun true (lngDs .r .n (some .h) (some .n))] = [some (lngMet true .r .n (some .h) (some .h)), some (lngMet true .r .n (some .h) (some .r)), some (lngMet true .r .n (some .h) (some .n))] := by kernel_rfl
theorem lng_59 : [lngRun false (lngDs .h .n (some .h) (some .h)), lngRun false (lngDs .h .n (some .h) (some .r)), lngRun false (lngDs .h .n (some .h) (some .n))] = [some (lngMet false .h .n (some .h) (some .h)), some (lngMet false .h .n (some .h) (some .r)), some (lngMet false .h .n (some .h) (some .n))] := by kernel_rfl
theorem lng_91 : [lngRun false (lngDs .n .n (some .h) (some .h)), lngRun false (lngDs .n .n (some .h) (some .r)), lngRun false (lngDs .n .n (some .h) (some .n))] = [some (lngMet false .n .n (some .h) (some .h)), some (lngMet false .n .n (some .h) (some .r)), some (lngMet false .n .n (some .h) (some .n))] := by kernel_rfl
end Go.Proofs.YtgeankpiediebaaGreat
end
