/-
  WholeLong, run by some of its ways.
-/
import Derived.Test.YtgeankpiediebaaGreatLngB
noncomputable section
namespace Go.Proofs.YtgeankpiediebaaGreat
open Go.Fx
set_option maxRecDepth 100000
theorem lng_21 : [lngRun true (lngDs .r .r none (some .h)), lngRun true (lngDs .r .r none (some .r)), lngRun true (lngDs .r .r none (some .n))] = [some (lngMet true .r .r none (some .h)), some (lngMet true .r .r none (some .r)), some (lngMet true .r .r none (some .n))] := by kernel_rfl
theorem lng_53 : [lngRun false (lngDs .h .r none (some .h)), lngRun false (lngDs .h .r none (some .r)), lngRun false (lngDs .h .r none (some .n))] = [some (lngMet false .h .r none (some .h)), some (lngMet false .h .r none (some .r)), some (lngMet false .h .r none (some .n))] := by kernel_rfl
theorem lng_85 : [lngRun false (lngDs .n .r none (some .h)), lngRun false (lngDs .n .r none (some .r)), lngRun false (lngDs .n .r none (some .n))] = [some (lngMet false .n .r none (some .h)), some (lngMet false .n .r none (some .r)), some (lngMet false .n .r none (some .n))] := by kernel_rfl
end Go.Proofs.YtgeankpiediebaaGreat
end
