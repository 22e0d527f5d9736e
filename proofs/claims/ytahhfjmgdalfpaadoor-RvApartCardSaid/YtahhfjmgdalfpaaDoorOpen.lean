/- Arguments opened: structs and arrays of scalars by value; a slice of bytes. -/
import Derived.Test.YtahhfjmgdalfpaaDoorRows
import Derived.WalkKit
import Derived.ProofKit
import Derived.OpenShut
import Derived.Lib.SmallJoins
namespace Go.Proofs.YtahhfjmgdalfpaaDoor
open Go.Joins Go.ChangeShapes Go.WideShapes Go.RowKit Go.Deep
set_option linter.unusedVariables false
set_option maxRecDepth 100000

theorem okWide_array {P : Program} {w : World} {r : Reach} {base : Nat} {t : TypeId} {v : Value} {n : Nat} {e : TypeId} (ht : P.underlying t = some (.array n e)) (h : Value.okWide P w r base t v) : ∃ cs, v = .agg cs ∧ cs.size = P.cellsOf t := by
  simp only [Value.okWide, ht] at h
  obtain ⟨cs, h1, h2, _⟩ := h
  exact ⟨cs, h1, h2⟩

theorem cells_word {H : Type} {enc : TypeId × Value → H} {w : World} {base fuel : Nat} {spare : Nat → Bool} {held : Bool} {cs : List Value} {x : DataW H × List MemPlace}
    (hf : DataW.trod enc Tryd.prog w base spare held fuel 23 cs = some x) :
    ∃ (x0 : Int) (x1 : Int) (x2 : Int) (x3 : Int) (x4 : Int), cs = [.int .i64 x0, .int .i64 x1, .int .i64 x2, .int .i64 x3, .int .i32 x4] ∧ (-9223372036854775808 ≤ x0 ∧ x0 ≤ 9223372036854775807) ∧ (-9223372036854775808 ≤ x1 ∧ x1 ≤ 9223372036854775807) ∧ (-9223372036854775808 ≤ x2 ∧ x2 ≤ 9223372036854775807) ∧ (-9223372036854775808 ≤ x3 ∧ x3 ≤ 9223372036854775807) ∧ (-2147483648 ≤ x4 ∧ x4 ≤ 2147483647) := by
  have hC : Tryd.prog.cellsOf 23 = 5 := by kernel_rfl
  have hC_0 : Tryd.prog.cellsOf 3 = 1 := by kernel_rfl
  have hC_1 : Tryd.prog.cellsOf 21 = 1 := by kernel_rfl
  obtain ⟨xs, n, _, hx, hl, hlen, hg⟩ := DataW.trod_struct Tryd.underlying23 hf
  match cs, hl.trans hC with
  | [c0, c1, c2, c3, c4], _ =>
    match xs, hlen with
    | [y0, y1, y2, y3, y4], _ =>
      obtain ⟨b0, e0, _, wf0⟩ := DataW.trod_int Tryd.underlying3 (hg 0 _ rfl)
      have bd0 := bounds_i64 wf0
      simp [hC_0] at e0
      subst e0
      obtain ⟨b1, e1, _, wf1⟩ := DataW.trod_int Tryd.underlying3 (hg 1 _ rfl)
      have bd1 := bounds_i64 wf1
      simp [hC_0] at e1
      subst e1
      obtain ⟨b2, e2, _, wf2⟩ := DataW.trod_int Tryd.underlying3 (hg 2 _ rfl)
      have bd2 := bounds_i64 wf2
      simp [hC_0] at e2
      subst e2
      obtain ⟨b3, e3, _, wf3⟩ := DataW.trod_int Tryd.underlying3 (hg 3 _ rfl)
      have bd3 := bounds_i64 wf3
      simp [hC_0] at e3
      subst e3
      obtain ⟨b4, e4, _, wf4⟩ := DataW.trod_int Tryd.underlying21 (hg 4 _ rfl)
      have bd4 := bounds_i32 wf4
      simp [hC_1] at e4
      subst e4
      exact ⟨b0, b1, b2, b3, b4, rfl, bd0, bd1, bd2, bd3, bd4⟩

theorem open_word {H : Type} {enc : TypeId × Value → H} {w : World} {base b0 : Nat} {spare : Nat → Bool} {held : Bool} {r : Reach} {v : Value} {d : DataW H} {p : List MemPlace}
    (hv : Value.okWide Tryd.prog w r b0 23 v) (h : DataW.Trod enc Tryd.prog w base spare held 23 v d p) :
    ∃ (x0 : Int) (x1 : Int) (x2 : Int) (x3 : Int) (x4 : Int), v = .agg #[.int .i64 x0, .int .i64 x1, .int .i64 x2, .int .i64 x3, .int .i32 x4] ∧ (-9223372036854775808 ≤ x0 ∧ x0 ≤ 9223372036854775807) ∧ (-9223372036854775808 ≤ x1 ∧ x1 ≤ 9223372036854775807) ∧ (-9223372036854775808 ≤ x2 ∧ x2 ≤ 9223372036854775807) ∧ (-9223372036854775808 ≤ x3 ∧ x3 ≤ 9223372036854775807) ∧ (-2147483648 ≤ x4 ∧ x4 ≤ 2147483647) := by
  obtain ⟨cs, rfl, hsz⟩ := okWide_struct Tryd.underlying23 hv
  obtain ⟨l⟩ := cs
  obtain ⟨fuel, hf⟩ := h
  obtain ⟨b0, b1, b2, b3, b4, e, bds⟩ := cells_word hf
  have e2 : l = _ := e
  subst e2
  exact ⟨b0, b1, b2, b3, b4, rfl, bds⟩

end Go.Proofs.YtahhfjmgdalfpaaDoor
