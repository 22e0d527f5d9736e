/- Summaries of functions of layer 1 (program and document), out of their walks. -/
import Derived.Test.YtndfcpkmchjncaaBase
import Derived.Test.YtndfcpkmchjncaaBitsWalks
import Derived.Test.YtndfcpkmchjncaaRef1Loops
namespace Go.Proofs.Ytndfcpkmchjncaa
open Go.Sx
set_option linter.unusedVariables false

theorem btField_ok : SumT Try.prog phi 33 btFieldS := handSum (fun xs w => Try.call33 xs w) (by
  intro a0 h0 a1 h1 a2 h2
  exact ⟨fun w => (bits_Field a0 a1 a2 (has_u32.1 h0).1 (has_u32.1 h0).2 w).mono fun e w' h => ⟨h.1, below_eq h.2⟩, has_u32.2 (fld_bd a0 a1 a2), trivial⟩)

theorem btSigned_ok : SumT Try.prog phi 97 btSignedS := handSum (fun xs w => Try.call97 xs w) (by
  intro a0 h0 a1 h1
  exact ⟨fun w => (bits_Signed a0 a1 (has_u32.1 h0).1 (has_u32.1 h0).2 w).mono fun e w' h => ⟨h.1, below_eq h.2⟩, has_i32.2 ⟨(sgn_bd a0 a1).1, by have := (sgn_bd a0 a1).2; show sgn a0 a1 < _; omega⟩, trivial⟩)

theorem btSign12_ok : SumT Try.prog phi 67 btSign12S := handSum (fun xs w => Try.call67 xs w) (by
  intro a0 h0
  exact ⟨fun w => (bits_Sign12 a0 (has_u32.1 h0).1 (has_u32.1 h0).2 w).mono fun e w' h => ⟨h.1, below_eq h.2⟩, has_u32.2 (by show 0 ≤ sgn a0 12 % 4294967296 ∧ sgn a0 12 % 4294967296 < _; omega), trivial⟩)

theorem rfField_ok : SumT Try.prog phi 88 rfFieldS := handSum (fun xs w => Try.call88 xs w) (by
  intro a0 h0 a1 h1 a2 h2
  exact ⟨fun w => (ref1_Field a0 a1 a2 (has_u32.1 h0).1 (has_u32.1 h0).2 w).mono fun e w' h => ⟨h.1, below_eq h.2⟩, has_u32.2 (fld_bd a0 a1 a2), trivial⟩)

theorem rfSigned_ok : SumT Try.prog phi 71 rfSignedS := handSum (fun xs w => Try.call71 xs w) (by
  intro a0 h0 a1 h1
  exact ⟨fun w => (ref1_Signed a0 a1 (has_u32.1 h0).1 (has_u32.1 h0).2 w).mono fun e w' h => ⟨h.1, below_eq h.2⟩, has_i32.2 ⟨(sgn_bd a0 a1).1, by have := (sgn_bd a0 a1).2; show sgn a0 a1 < _; omega⟩, trivial⟩)

end Go.Proofs.Ytndfcpkmchjncaa
