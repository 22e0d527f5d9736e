/-
  No package-level tables are needed here.
-/
import Derived.Test.YtpclikbjpjoccaaSxT
namespace Go.Proofs.Ytpclikbjpjoccaa
open Go.Sx
instance : Pins := noPins
end Go.Proofs.Ytpclikbjpjoccaa
