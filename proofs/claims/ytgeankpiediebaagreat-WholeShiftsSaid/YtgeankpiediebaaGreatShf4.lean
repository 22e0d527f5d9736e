/-
  WholeShifts, run by some of its ways.
-/
import Derived.Test.YtgeankpiediebaaGreatShfB
noncomputable section
namespace Go.Proofs.YtgeankpiediebaaGreat
open Go.Fx
set_option maxRecDepth 100000
theorem sf_12 : [sfRun .shr .im (sfDs .shr .im .r .z), sfRun .shr .im (sfDs .shr .im .r .o), sfRun .shr .im (sfDs .shr .im .r .m)] = [some (sfMet .shr .im .r .z), some (sfMet .shr .im .r .o), some (sfMet .shr .im .r .m)] := by kernel_rfl
theorem sf_13 : [sfRun .shr .reg (sfDs .shr .reg .r .z), sfRun .shr .reg (sfDs .shr .reg .r .o), sfRun .shr .reg (sfDs .shr .reg .r .m)] = [some (sfMet .shr .reg .r .z), some (sfMet .shr .reg .r .o), some (sfMet .shr .reg .r .m)] := by kernel_rfl
theorem sf_14 : [sfRun .shr .one (sfDs .shr .one .r .z), sfRun .shr .by1 (sfDs .shr .by1 .r .z)] = [some (sfMet .shr .one .r .z), some (sfMet .shr .by1 .r .z)] := by kernel_rfl
end Go.Proofs.YtgeankpiediebaaGreat
end
