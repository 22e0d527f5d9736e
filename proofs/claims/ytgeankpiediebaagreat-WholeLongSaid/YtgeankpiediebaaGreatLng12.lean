/-
  WholeLong, run by some of its ways.
-/
import Derived.Test.YtgeankpiediebaaGreatLngB
noncomputable section
namespace Go.Proofs.YtgeankpiediebaaGreat
open Go.Fx
set_option maxRecDepth 100000
theorem lng_12 : [lngRun true (lngDs .h .n (some .r) (some .h)), lngRun true (lngDs .h .n (some .r) (some .r)), lngRun true (lngDs .h .n (some .r) (some .n))] = [some (lngMet true .h .n (some .r) (some .h)), some (lngMet true .h .n (some .r) (some .r)), some (lngMet true .h .n (some .r) (some .n))] := by kernel_rfl
theorem lng_44 : [lngRun true (lngDs .n .n (some .r) (some .h)), lngRun true (lngDs .n .n (some .r) (some .r)), lngRun true (lngDs .n .n (some .r) (some .n))] = [some (lngMet true .n .n (some .r) (some .h)), some (lngMet true .n .n (some .r) (some .r)), some (lngMet true .n .n (some .r) (some .n))] := by kernel_rfl
theorem lng_76 : [lngRun false (lngDs .r .n (some .r) (some .h)), lngRun false (lngDs .r .n (some .r) (some .r)), lngRun false (lngDs .r .n (some .r) (some .n))] = [some (lngMet false .r .n (some .r) (some .h)), some (lngMet false .r .n (some .r) (some .r)), some (lngMet false .r .n (some .r) (some .n))] := by kernel_rfl
end Go.Proofs.YtgeankpiediebaaGreat
end
