/-
  WholeLong, run by some of its ways.
-/
import Derived.Test.YtgeankpiediebaaGreatLngB
noncomputable section
namespace Go.Proofs.YtgeankpiediebaaGreat
open Go.Fx
set_option maxRecDepth 100000
theorem lng_26 : [lngRun true (lngDs .r .n none (some .h)), lngRun true (lngDs .r .n none (some .r)), lngRun true (lngDs .r .n none (some .n))] = [some (lngMet true .r .n none (some .h)), some (lngMet true .r .n none (some .r)), some (lngMet true .r .n none (some .n))] := by kernel_rfl
theorem lng_58 : [lngRun false (lngDs .h .n none (some .h)), lngRun false (lngDs .h .n none (some .r)), lngRun false (lngDs .h .n none (some .n))] = [some (lngMet false .h .n none (some .h)), some (lngMet false .h .n none (some .r)), some (lngMet false .h .n none (some .n))] := by kernel_rfl
theorem lng_90 : [lngRun false (lngDs .n .n none (some .h)), lngRun false (lngDs .n .n none (some .r)), lngRun false (lngDs .n .n none (some .n))] = [some (lngMet false .n .n none (some .h)), some (lngMet false .n .n none (some .r)), some (lngMet false .n .n none (some .n))] := by kernel_rfl
end Go.Proofs.YtgeankpiediebaaGreat
end
