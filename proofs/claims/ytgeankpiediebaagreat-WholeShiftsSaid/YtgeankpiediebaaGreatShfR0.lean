/-
  WholeShifts, run by two of its ways.
-/
import Derived.Test.YtgeankpiediebaaGreatShfC
noncomputable section
namespace Go.Proofs.YtgeankpiediebaaGreat
open Go.Fx
set_option maxRecDepth 100000
theorem sf_38 : [sfRun .ror .one (sfDs .ror .one .h .z), sfRun .ror .by1 (sfDs .ror .by1 .h .z)] = [some (sfMetT .ror .one .h .z), some (sfMetT .ror .by1 .h .z)] := by kernel_rfl
end Go.Proofs.YtgeankpiediebaaGreat
end
