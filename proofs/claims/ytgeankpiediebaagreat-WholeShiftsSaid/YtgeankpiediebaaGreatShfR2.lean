/-
  WholeShifts, run by two of its ways.
-/
import Derived.Test.YtgeankpiediebaaGreatShfC
noncomputable section
namespace Go.Proofs.YtgeankpiediebaaGreat
open Go.Fx
set_option maxRecDepth 100000
theorem sf_44 : [sfRun .ror .one (sfDs .ror .one .n .z), sfRun .ror .by1 (sfDs .ror .by1 .n .z)] = [some (sfMetT .ror .one .n .z), some (sfMetT .ror .by1 .n .z)] := by kernel_rfl
end Go.Proofs.YtgeankpiediebaaGreat
end
