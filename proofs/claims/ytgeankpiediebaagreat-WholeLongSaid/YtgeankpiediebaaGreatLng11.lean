/-
  WholeLong, run by some of its ways.
-/
import Derived.Test.YtgeankpiediebaaGreatLngB
noncomputable section
namespace Go.Proofs.YtgeankpiediebaaGreat
open Go.Fx
set_option maxRecDepth 100000
theorem lng_11 : [lngRun true (lngDs .h .n (some .h) (some .h)), lngRun true (lngDs .h .n (some .h) (some .r)), lngRun true (lngDs .h .n (some .h) (some .n))] = [some (lngMet true .h .n (some .h) (some .h)), some (lngMet true .h .n (some .h) (some .r)), some (lngMet true .h .n (some .h) (some .n))] := by kernel_rfl
theorem lng_43 : [lngRun true (lngDs .n .n (some .h) (some .h)), lngRun true (lngDs .n .n (some .h) (some .r)), lngRun true (lngDs .n .n (some .h) (some .n))] = [some (lngMet true .n .n (some .h) (some .h)), some (lngMet true .n .n (some .h) (some .r)), some (lngMet true .n .n (some .h) (some .n))] := by kernel_rfl
theorem lng_75 : [lngRun false (lngDs .r .n (some .h) (some .h)), lngRun false (lngDs .r .n (some .h) (some .r)), lngRun false (lngDs .r .n (some .h) (some .n))] = [some (lngMet false .r .n (some .h) (some .h)), some (lngMet false .r .n (some .h) (some .r)), some (lngMet false .r .n (some .h) (some .n))] := by kernel_rfl
end Go.Proofs.YtgeankpiediebaaGreat
end
