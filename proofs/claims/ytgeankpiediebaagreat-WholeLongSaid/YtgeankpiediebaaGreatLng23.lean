/-
  WholeLong, run by some of its ways.
-/
import Derived.Test.YtgeankpiediebaaGreatLngB
noncomputable section
namespace Go.Proofs.YtgeankpiediebaaGreat
open Go.Fx
set_option maxRecDepth 100000
theorem lng_23 : [lngRun true (lngDs .r .r (some .r) (some .h)), lngRun true (lngDs .r .r (some .r) (some .r)), lngRun true (lngDs .r .r (some .r) (some .n))] = [some (lngMet true .r .r (some .r) (some .h)), some (lngMet true .r .r (some .r) (some .r)), some (lngMet true .r .r (some .r) (some .n))] := by kernel_rfl
theorem lng_55 : [lngRun false (lngDs .h .r (some .r) (some .h)), lngRun false (lngDs .h .r (some .r) (some .r)), lngRun false (lngDs .h .r (some .r) (some .n))] = [some (lngMet false .h .r (some .r) (some .h)), some (lngMet false .h .r (some .r) (some .r)), some (lngMet false .h .r (some .r) (some .n))] := by kernel_rfl
theorem lng_87 : [lngRun false (lngDs .n .r (some .r) (some .h)), lngRun false (lngDs .n .r (some .r) (some .r)), lngRun false (lngDs .n .r (some .r) (some .n))] = [some (lngMet false .n .r (some .r) (some .h)), some (lngMet false .n .r (some .r) (some .r)), some (lngMet false .n .r (some .r) (some .n))] := by kernel_rfl
end Go.Proofs.YtgeankpiediebaaGreat
end
