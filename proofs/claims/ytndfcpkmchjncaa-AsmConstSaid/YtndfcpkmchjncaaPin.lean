/-
  No package-level tables are needed here.
-/
import Derived.Test.YtndfcpkmchjncaaSxT
namespace Go.Proofs.Ytndfcpkmchjncaa
open Go.Sx
instance : Pins := noPins
end Go.Proofs.Ytndfcpkmchjncaa
