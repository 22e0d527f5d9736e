/-
  WholeLong, run by some of its ways.
-/
import Derived.Test.YtgeankpiediebaaGreatLngB
noncomputable section
namespace Go.Proofs.YtgeankpiediebaaGreat
open Go.Fx
set_option maxRecDepth 100000
theorem lng_29 : [lngRun true (lngDs .r .n (some .n) (some .h)), lngRun true (lngDs .r .n (some .n) (some .r)), lngRun true (lngDs .r .n (some .n) (some .n))] = [some (lngMet true .r .n (some .n) (some .h)), some (lngMet true .r .n (some .n) (some .r)), some (lngMet true .r .n (some .n) (some .n))] := by kernel_rfl
theorem lng_61 : [lngRun false (lngDs .h .n (some .n) (some .h)), lngRun false (lngDs .h .n (some .n) (some .r)), lngRun false (lngDs .h .n (some .n) (some .n))] = [some (lngMet false .h .n (some .n) (some .h)), some (lngMet false .h .n (some .n) (some .r)), some (lngMet false .h .n (some .n) (some .n))] := by kernel_rfl
theorem lng_93 : [lngRun false (lngDs .n .n (some .n) (some .h)), lngRun false (lngDs .n .n (some .n) (some .r)), lngRun false (lngDs .n .n (some .n) (some .n))] = [some (lngMet false .n .n (some .n) (some .h)), some (lngMet false .n .n (some .n) (some .r)), some (lngMet false .n .n (some .n) (some .n))] := by kernel_rfl
end Go.Proofs.YtgeankpiediebaaGreat
end
