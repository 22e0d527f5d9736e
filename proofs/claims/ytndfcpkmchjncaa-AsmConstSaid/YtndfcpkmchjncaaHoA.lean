/-
  The host of the program: its small functions, read by their walks.
-/
import Derived.Test.YtndfcpkmchjncaaHoK

namespace Go.Proofs.Ytndfcpkmchjncaa
open Go Go.RowKit
set_option linter.unusedVariables false

/-- what a call makes of a host, and of nothing else -/
structure Makes (w : World) (hb mb : Nat) (S' : HS) (w' : World) : Prop where
  at_ : HostAt w' hb mb S'
  turn : Turn (Own hb mb) w w'

end Go.Proofs.Ytndfcpkmchjncaa
