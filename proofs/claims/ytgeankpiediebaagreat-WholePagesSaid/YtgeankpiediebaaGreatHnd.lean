/-
  What the laws of the whole are run with: what is known at once.
-/
import Derived.Test.YtgeankpiediebaaGreatHdsA
import Derived.Test.YtgeankpiediebaaGreatHxF
noncomputable section
namespace Go.Proofs.YtgeankpiediebaaGreat
open Go.Fx
set_option maxRecDepth 100000
def s20 : List Nat := [659, 787, 1171, 1299, 1427, 1555, 1683, 2195, 2323, 2451, 2579, 2707, 2835, 164499, 197395, 296083, 328979, 361875, 394771, 427667, 559251, 592147, 625043, 657939, 690835, 723731]
def s12 : List Nat := [695, 823, 1207, 1335, 1463, 1591, 1719, 2231, 2359, 2487, 2615, 2743, 2871]
def XK : XC := { X0 with intr := Tr.set (pa 311) ⟨truthI .u32⟩ (Tr.set (pa 37) ⟨truthI .u32⟩ (Tr.set (pa 47) ⟨truthI .u64⟩ (Tr.set (pa 49) ⟨parI⟩
  (Tr.set (pa 191) ⟨sortedI 303 23⟩
  (Tr.set (pa 132) ⟨selI (decP (setOf ws)) ⟨decM (setOf ws)⟩ ⟨selI (decSP (setOf s20) (setOf s12)) ⟨decS (setOf s20) (setOf s12)⟩ ⟨natI XN 132⟩⟩⟩ (Tr.set (pa 203) ⟨selI (encP (setOf ws)) ⟨encM (setOf ws)⟩ ⟨selI (encSP (setOf s20) (setOf s12)) ⟨encS (setOf s20) (setOf s12)⟩ ⟨natI XN 203⟩⟩⟩ .e)))))) }
def XL : XC := { X0 with intr := Tr.set (pa 11) ⟨sureI⟩ XK.intr }
/-- and the numbers that a way is parted by -/
def XP (cs : List (SE × List Int)) : XC := { XL with cs := cs }
end Go.Proofs.YtgeankpiediebaaGreat
end
