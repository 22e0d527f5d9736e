/-
  WholeShifts, run by some of its ways.
-/
import Derived.Test.YtgeankpiediebaaGreatShfB
noncomputable section
namespace Go.Proofs.YtgeankpiediebaaGreat
open Go.Fx
set_option maxRecDepth 100000
theorem sf_3 : [sfRun .shl .im (sfDs .shl .im .r .z), sfRun .shl .im (sfDs .shl .im .r .o), sfRun .shl .im (sfDs .shl .im .r .m)] = [some (sfMet .shl .im .r .z), some (sfMet .shl .im .r .o), some (sfMet .shl .im .r .m)] := by kernel_rfl
theorem sf_4 : [sfRun .shl .reg (sfDs .shl .reg .r .z), sfRun .shl .reg (sfDs .shl .reg .r .o), sfRun .shl .reg (sfDs .shl .reg .r .m)] = [some (sfMet .shl .reg .r .z), some (sfMet .shl .reg .r .o), some (sfMet .shl .reg .r .m)] := by kernel_rfl
theorem sf_5 : [sfRun .shl .one (sfDs .shl .one .r .z), sfRun .shl .by1 (sfDs .shl .by1 .r .z)] = [some (sfMet .shl .one .r .z), some (sfMet .shl .by1 .r .z)] := by kernel_rfl
end Go.Proofs.YtgeankpiediebaaGreat
end
