/-
  WholeLong, run by some of its ways.
-/
import Derived.Test.YtgeankpiediebaaGreatLngB
noncomputable section
namespace Go.Proofs.YtgeankpiediebaaGreat
open Go.Fx
set_option maxRecDepth 100000
theorem lng_28 : [lngRun true (lngDs .r .n (some .r) (some .h)), lngRun true (lngDs .r .n (some .r) (some .r)), lngRun true (lngDs .r .n (some .r) (some .n))] = [some (lngMet true .r .n (some .r) (some .h)), some (lngMet true .r .n (some .r) (some .r)), some (lngMet true .r .n (some .r) (some .n))] := by kernel_rfl
theorem lng_60 : [lngRun false (lngDs .h .n (some .r) (some .h)), lngRun false (lngDs .h .n (some .r) (some .r)), lngRun false (lngDs .h .n (some .r) (some .n))] = [some (lngMet false .h .n (some .r) (some .h)), some (lngMet false .h .n (some .r) (some .r)), some (lngMet false .h .n (some .r) (some .n))] := by kernel_rfl
theorem lng_92 : [lngRun false (lngDs .n .n (some .r) (some .h)), lngRun false (lngDs .n .n (some .r) (some .r)), lngRun false (lngDs .n .n (some .r) (some .n))] = [some (lngMet false .n .n (some .r) (some .h)), some (lngMet false .n .n (some .r) (some .r)), some (lngMet false .n .n (some .r) (some .n))] := by kernel_rfl
end Go.Proofs.YtgeankpiediebaaGreat
end
