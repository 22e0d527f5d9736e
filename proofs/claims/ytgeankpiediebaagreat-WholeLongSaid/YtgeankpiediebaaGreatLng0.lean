/-
  WholeLong, run by some of its ways.
-/
import Derived.Test.YtgeankpiediebaaGreatLngB
noncomputable section
namespace Go.Proofs.YtgeankpiediebaaGreat
open Go.Fx
set_option maxRecDepth 100000
theorem lng_0 : [lngRun true (lngDs .h .h none (some .h)), lngRun true (lngDs .h .h none (some .r)), lngRun true (lngDs .h .h none (some .n))] = [some (lngMet true .h .h none (some .h)), some (lngMet true .h .h none (some .r)), some (lngMet true .h .h none (some .n))] := by kernel_rfl
theorem lng_32 : [lngRun true (lngDs .n .h none (some .h)), lngRun true (lngDs .n .h none (some .r)), lngRun true (lngDs .n .h none (some .n))] = [some (lngMet true .n .h none (some .h)), some (lngMet true .n .h none (some .r)), some (lngMet true .n .h none (some .n))] := by kernel_rfl
theorem lng_64 : [lngRun false (lngDs .r .h none (some .h)), lngRun false (lngDs .r .h none (some .r)), lngRun false (lngDs .r .h none (some .n))] = [some (lngMet false .r .h none (some .h)), some (lngMet false .r .h none (some .r)), some (lngMet false .r .h none (some .n))] := by kernel_rfl
end Go.Proofs.YtgeankpiediebaaGreat
end
