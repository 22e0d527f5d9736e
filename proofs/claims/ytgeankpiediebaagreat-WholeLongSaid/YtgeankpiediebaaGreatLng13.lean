/-
  WholeLong, run by some of its ways.
-/
import Derived.Test.YtgeankpiediebaaGreatLngB
noncomputable section
namespace Go.Proofs.YtgeankpiediebaaGreat
open Go.Fx
set_option maxRecDepth 100000
theorem lng_13 : [lngRun true (lngDs .h .n (some .n) (some .h)), lngRun true (lngDs .h .n (some .n) (some .r)), lngRun true (lngDs .h .n (some .n) (some .n))] = [some (lngMet true .h .n (some .n) (some .h)), some (lngMet true .h .n (some .n) (some .r)), some (lngMet true .h .n (some .n) (some .n))] := by kernel_rfl
theorem lng_45 : [lngRun true (lngDs .n .n (some .n) (some .h)), lngRun true (lngDs .n .n (some .n) (some .r)), lngRun true (lngDs .n .n (some .n) (some .n))] = [some (lngMet true .n .n (some .n) (some .h)), some (lngMet true .n .n (some .n) (some .r)), some (lngMet true .n .n (some .n) (some .n))] := by kernel_rfl
theorem lng_77 : [lngRun false (lngDs .r .n (some .n) (some .h)), lngRun false (lngDs .r .n (some .n) (some .r)), lngRun false (lngDs .r .n (some .n) (some .n))] = [some (lngMet false .r .n (some .n) (some .h)), some (lngMet false .r .n (some .n) (some .r)), some (lngMet false .r .n (some .n) (some .n))] := by kernel_rfl
end Go.Proofs.YtgeankpiediebaaGreat
end
