/-
  WholeLong, run by some of its ways.
-/
import Derived.Test.YtgeankpiediebaaGreatLngB
noncomputable section
namespace Go.Proofs.YtgeankpiediebaaGreat
open Go.Fx
set_option maxRecDepth 100000
theorem lng_16 : [lngRun true (lngDs .r .h none (some .h)), lngRun true (lngDs .r .h none (some .r)), lngRun true (lngDs .r .h none (some .n))] = [some (lngMet true .r .h none (some .h)), some (lngMet true .r .h none (some .r)), some (lngMet true .r .h none (some .n))] := by kernel_rfl
theorem lng_48 : [lngRun false (lngDs .h .h none (some .h)), lngRun false (lngDs .h .h none (some .r)), lngRun false (lngDs .h .h none (some .n))] = [some (lngMet false .h .h none (some .h)), some (lngMet false .h .h none (some .r)), some (lngMet false .h .h none (some .n))] := by kernel_rfl
theorem lng_80 : [lngRun false (lngDs .n .h none (some .h)), lngRun false (lngDs .n .h none (some .r)), lngRun false (lngDs .n .h none (some .n))] = [some (lngMet false .n .h none (some .h)), some (lngMet false .n .h none (some .r)), some (lngMet false .n .h none (some .n))] := by kernel_rfl
end Go.Proofs.YtgeankpiediebaaGreat
end
