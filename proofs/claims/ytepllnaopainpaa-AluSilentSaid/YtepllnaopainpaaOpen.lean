/- Arguments opened: structs and arrays of scalars by value; a slice of bytes. -/
import Derived.Test.YtepllnaopainpaaRows
import Derived.WalkKit
import Derived.ProofKit
import Derived.OpenShut
import Derived.Lib.SmallJoins
namespace Go.Proofs.Ytepllnaopainpaa
open Go.Joins Go.ChangeShapes Go.WideShapes Go.RowKit Go.Deep
set_option linter.unusedVariables false
set_option maxRecDepth 100000

theorem open_flags {H : Type} {enc : TypeId × Value → H} {w : World} {base b0 : Nat} {spare : Nat → Bool} {held : Bool} {r : Reach} {v : Value} {d : DataW H} {p : List MemPlace}
    (hv : Value.okWide Try.prog w r b0 24 v) (h : DataW.Trod enc Try.prog w base spare held 24 v d p) :
    ∃ (x0 : Bool) (x1 : Bool) (x2 : Bool) (x3 : Bool) (x4 : Bool) (x5 : Bool), v = .agg #[.bool x0, .bool x1, .bool x2, .bool x3, .bool x4, .bool x5] := by
  have hC : Try.prog.cellsOf 24 = 6 := by kernel_rfl
  have hC_b : Try.prog.cellsOf 4 = 1 := by kernel_rfl
  obtain ⟨cs, rfl, hsz⟩ := okWide_struct Try.underlying24 hv
  obtain ⟨l⟩ := cs
  match l, hsz.trans hC with
  | [c0, c1, c2, c3, c4, c5], _ =>
    obtain ⟨fuel, hf⟩ := h
    obtain ⟨xs, n, _, hx, _, hlen, hg⟩ := DataW.trod_struct Try.underlying24 hf
    match xs, hlen with
    | [y0, y1, y2, y3, y4, y5], _ =>
      obtain ⟨b0, e0, _⟩ := DataW.trod_bool Try.underlying4 (hg 0 _ rfl)
      simp [Value.cells, hC_b] at e0
      subst e0
      obtain ⟨b1, e1, _⟩ := DataW.trod_bool Try.underlying4 (hg 1 _ rfl)
      simp [Value.cells, hC_b] at e1
      subst e1
      obtain ⟨b2, e2, _⟩ := DataW.trod_bool Try.underlying4 (hg 2 _ rfl)
      simp [Value.cells, hC_b] at e2
      subst e2
      obtain ⟨b3, e3, _⟩ := DataW.trod_bool Try.underlying4 (hg 3 _ rfl)
      simp [Value.cells, hC_b] at e3
      subst e3
      obtain ⟨b4, e4, _⟩ := DataW.trod_bool Try.underlying4 (hg 4 _ rfl)
      simp [Value.cells, hC_b] at e4
      subst e4
      obtain ⟨b5, e5, _⟩ := DataW.trod_bool Try.underlying4 (hg 5 _ rfl)
      simp [Value.cells, hC_b] at e5
      subst e5
      exact ⟨b0, b1, b2, b3, b4, b5, rfl⟩

end Go.Proofs.Ytepllnaopainpaa
