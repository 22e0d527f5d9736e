/-
  WholeLong, run by some of its ways.
-/
import Derived.Test.YtgeankpiediebaaGreatLngB
noncomputable section
namespace Go.Proofs.YtgeankpiediebaaGreat
open Go.Fx
set_option maxRecDepth 100000
theorem lng_24 : [lngRun true (lngDs .r .r (some .n) (some .h)), lngRun true (lngDs .r .r (some .n) (some .r)), lngRun true (lngDs .r .r (some .n) (some .n))] = [some (lngMet true .r .r (some .n) (some .h)), some (lngMet true .r .r (some .n) (some .r)), some (lngMet true .r .r (some .n) (some .n))] := by kernel_rfl
theorem lng_56 : [lngRun false (lngDs .h .r (some .n) (some .h)), lngRun false (lngDs .h .r (some .n) (some .r)), lngRun false (lngDs .h .r (some .n) (some .n))] = [some (lngMet false .h .r (some .n) (some .h)), some (lngMet false .h .r (some .n) (some .r)), some (lngMet false .h .r (some .n) (some .n))] := by kernel_rfl
theorem lng_88 : [lngRun false (lngDs .n .r (some .n) (some .h)), lngRun false (lngDs .n .r (some .n) (some .r)), lngRun false (lngDs .n .r (some .n) (some .n))] = [some (lngMet false .n .r (some .n) (some .h)), some (lngMet false .n .r (some .n) (some .r)), some (lngMet false .n .r (some .n) (some .n))] := by kernel_rfl
end Go.Proofs.YtgeankpiediebaaGreat
end
