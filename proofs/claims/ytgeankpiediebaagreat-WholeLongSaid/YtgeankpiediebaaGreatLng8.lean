/-
  WholeLong, run by some of its ways.
-/
import Derived.Test.YtgeankpiediebaaGreatLngB
noncomputable section
namespace Go.Proofs.YtgeankpiediebaaGreat
open Go.Fx
set_option maxRecDepth 100000
theorem lng_8 : [lngRun true (lngDs .h .r (some .n) (some .h)), lngRun true (lngDs .h .r (some .n) (some .r)), lngRun true (lngDs .h .r (some .n) (some .n))] = [some (lngMet true .h .r (some .n) (some .h)), some (lngMet true .h .r (some .n) (some .r)), some (lngMet true .h .r (some .n) (some .n))] := by kernel_rfl
theorem lng_40 : [lngRun true (lngDs .n .r (some .n) (some .h)), lngRun true (lngDs .n .r (some .n) (some .r)), lngRun true (lngDs .n .r (some .n) (some .n))] = [some (lngMet true .n .r (some .n) (some .h)), some (lngMet true .n .r (some .n) (some .r)), some (lngMet true .n .r (some .n) (some .n))] := by kernel_rfl
theorem lng_72 : [lngRun false (lngDs .r .r (some .n) (some .h)), lngRun false (lngDs .r .r (some .n) (some .r)), lngRun false (lngDs .r .r (some .n) (some .n))] = [some (lngMet false .r .r (some .n) (some .h)), some (lngMet false .r .r (some .n) (some .r)), some (lngMet false .r .r (some .n) (some .n))] := by kernel_rfl
end Go.Proofs.YtgeankpiediebaaGreat
end
