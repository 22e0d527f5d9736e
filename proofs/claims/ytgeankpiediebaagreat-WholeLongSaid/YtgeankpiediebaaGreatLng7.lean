/-
  WholeLong, run by some of its ways.
-/
import Derived.Test.YtgeankpiediebaaGreatLngB
noncomputable section
namespace Go.Proofs.YtgeankpiediebaaGreat
open Go.Fx
set_option maxRecDepth 100000
theorem lng_7 : [lngRun true (lngDs .h .r (some .r) (some .h)), lngRun true (lngDs .h .r (some .r) (some .r)), lngRun true (lngDs .h .r (some .r) (some .n))] = [some (lngMet true .h .r (some .r) (some .h)), some (lngMet true .h .r (some .r) (some .r)), some (lngMet true .h .r (some .r) (some .n))] := by kernel_rfl
theorem lng_39 : [lngRun true (lngDs .n .r (some .r) (some .h)), lngRun true (lngDs .n .r (some .r) (some .r)), lngRun true (lngDs .n .r (some .r) (some .n))] = [some (lngMet true .n .r (some .r) (some .h)), some (lngMet true .n .r (some .r) (some .r)), some (lngMet true .n .r (some .r) (some .n))] := by kernel_rfl
theorem lng_71 : [lngRun false (lngDs .r .r (some .r) (some .h)), lngRun false (lngDs .r .r (some .r) (some .r)), lngRun false (lngDs .r .r (some .r) (some .n))] = [some (lngMet false .r .r (some .r) (some .h)), some (lngMet false .r .r (some .r) (some .r)), some (lngMet false .r .r (some .r) (some .n))] := by kernel_rfl
end Go.Proofs.YtgeankpiediebaaGreat
end
