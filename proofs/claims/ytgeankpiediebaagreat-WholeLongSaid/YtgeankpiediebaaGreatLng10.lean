/-
  WholeLong, run by some of its ways.
-/
import Derived.Test.YtgeankpiediebaaGreatLngB
noncomputable section
namespace Go.Proofs.YtgeankpiediebaaGreat
open Go.Fx
set_option maxRecDepth 100000
theorem lng_10 : [lngRun true (lngDs .h .n none (some .h)), lngRun true (lngDs .h .n none (some .r)), lngRun true (lngDs .h .n none (some .n))] = [some (lngMet true .h .n none (some .h)), some (lngMet true .h .n none (some .r)), some (lngMet true .h .n none (some .n))] := by kernel_rfl
theorem lng_42 : [lngRun true (lngDs .n .n none (some .h)), lngRun true (lngDs .n .n none (some .r)), lngRun true (lngDs .n .n none (some .n))] = [some (lngMet true .n .n none (some .h)), some (lngMet true .n .n none (some .r)), some (lngMet true .n .n none (some .n))] := by kernel_rfl
theorem lng_74 : [lngRun false (lngDs .r .n none (some .h)), lngRun false (lngDs .r .n none (some .r)), lngRun false (lngDs .r .n none (some .n))] = [some (lngMet false .r .n none (some .h)), some (lngMet false .r .n none (some .r)), some (lngMet false .r .n none (some .n))] := by kernel_rfl
end Go.Proofs.YtgeankpiediebaaGreat
end
