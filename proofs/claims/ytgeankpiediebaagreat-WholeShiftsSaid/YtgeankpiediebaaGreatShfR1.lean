/-
  WholeShifts, run by two of its ways.
-/
import Derived.Test.YtgeankpiediebaaGreatShfC
noncomputable section
namespace Go.Proofs.YtgeankpiediebaaGreat
open Go.Fx
set_option maxRecDepth 100000
theorem sf_41 : [sfRun .ror .one (sfDs .ror .one .r .z), sfRun .ror .by1 (sfDs .ror .by1 .r .z)] = [some (sfMetT .ror .one .r .z), some (sfMetT .ror .by1 .r .z)] := by kernel_rfl
end Go.Proofs.YtgeankpiediebaaGreat
end
