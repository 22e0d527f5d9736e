/-
  WholeLong, run by some of its ways.
-/
import Derived.Test.YtgeankpiediebaaGreatLngB
noncomputable section
namespace Go.Proofs.YtgeankpiediebaaGreat
open Go.Fx
set_option maxRecDepth 100000
theorem lng_5 : [lngRun true (lngDs .h .r none (some .h)), lngRun true (lngDs .h .r none (some .r)), lngRun true (lngDs .h .r none (some .n))] = [some (lngMet true .h .r none (some .h)), some (lngMet true .h .r none (some .r)), some (lngMet true .h .r none (some .n))] := by kernel_rfl
theorem lng_37 : [lngRun true (lngDs .n .r none (some .h)), lngRun true (lngDs .n .r none (some .r)), lngRun true (lngDs .n .r none (some .n))] = [some (lngMet true .n .r none (some .h)), some (lngMet true .n .r none (some .r)), some (lngMet true .n .r none (some .n))] := by kernel_rfl
theorem lng_69 : [lngRun false (lngDs .r .r none (some .h)), lngRun false (lngDs .r .r none (some .r)), lngRun false (lngDs .r .r none (some .n))] = [some (lngMet false .r .r none (some .h)), some (lngMet false .r .r none (some .r)), some (lngMet false .r .r none (some .n))] := by kernel_rfl
end Go.Proofs.YtgeankpiediebaaGreat
end
