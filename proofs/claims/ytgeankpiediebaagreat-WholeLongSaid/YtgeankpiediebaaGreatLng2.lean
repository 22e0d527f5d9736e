/-
  WholeLong, run by some of its ways.
-/
import Derived.Test.YtgeankpiediebaaGreatLngB
noncomputable section
namespace Go.Proofs.YtgeankpiediebaaGreat
open Go.Fx
set_option maxRecDepth 100000
theorem lng_2 : [lngRun true (lngDs .h .h (some .r) (some .h)), lngRun true (lngDs .h .h (some .r) (some .r)), lngRun true (lngDs .h .h (some .r) (some .n))] = [some (lngMet true .h .h (some .r) (some .h)), some (lngMet true .h .h (some .r) (some .r)), some (lngMet true .h .h (some .r) (some .n))] := by kernel_rfl
theorem lng_34 : [lngRun true (lngDs .n .h (some .r) (some .h)), lngRun true (lngDs .n .h (some .r) (some .r)), lngRun true (lngDs .n .h (some .r) (some .n))] = [some (lngMet true .n .h (some .r) (some .h)), some (lngMet true .n .h (some .r) (some .r)), some (lngMet true .n .h (some .r) (some .n))] := by kernel_rfl
theorem lng_66 : [lngRun false (lngDs .r .h (some .r) (some .h)), lngRun false (lngDs .r .h (some .r) (some .r)), lngRun false (lngDs .r .h (some .r) (some .n))] = [some (lngMet false .r .h (some .r) (some .h)), some (lngMet false .r .h (some .r) (some .r)), some (lngMet false .r .h (some .r) (some .n))] := by kernel_rfl
end Go.Proofs.YtgeankpiediebaaGreat
end
