/- Arguments opened: structs and arrays of scalars by value; a slice of bytes. -/
import Derived.Test.YtjdjjhjehlnjaaaRows
import Derived.WalkKit
import Derived.ProofKit
import Derived.OpenShut
import Derived.Lib.SmallJoins
namespace Go.Proofs.Ytjdjjhjehlnjaaa
open Go.Joins Go.ChangeShapes Go.WideShapes Go.RowKit Go.Deep
set_option linter.unusedVariables false
set_option maxRecDepth 100000

theorem okWide_array {P : Program} {w : World} {r : Reach} {base : Nat} {t : TypeId} {v : Value} {n : Nat} {e : TypeId} (ht : P.underlying t = some (.array n e)) (h : Value.okWide P w r base t v) : ∃ cs, v = .agg cs ∧ cs.size = P.cellsOf t := by
  simp only [Value.okWide, ht] at h
  obtain ⟨cs, h1, h2, _⟩ := h
  exact ⟨cs, h1, h2⟩

theorem cells_flags {H : Type} {enc : TypeId × Value → H} {w : World} {base fuel : Nat} {spare : Nat → Bool} {held : Bool} {cs : List Value} {x : DataW H × List MemPlace}
    (hf : DataW.trod enc Try.prog w base spare held fuel 25 cs = some x) :
    ∃ (x0 : Bool) (x1 : Bool) (x2 : Bool) (x3 : Bool) (x4 : Bool) (x5 : Bool), cs = [.bool x0, .bool x1, .bool x2, .bool x3, .bool x4, .bool x5] := by
  have hC : Try.prog.cellsOf 25 = 6 := by kernel_rfl
  have hC_0 : Try.prog.cellsOf 4 = 1 := by kernel_rfl
  obtain ⟨xs, n, _, hx, hl, hlen, hg⟩ := DataW.trod_struct Try.underlying25 hf
  match cs, hl.trans hC with
  | [c0, c1, c2, c3, c4, c5], _ =>
    match xs, hlen with
    | [y0, y1, y2, y3, y4, y5], _ =>
      obtain ⟨b0, e0, _⟩ := DataW.trod_bool Try.underlying4 (hg 0 _ rfl)
      simp [hC_0] at e0
      subst e0
      obtain ⟨b1, e1, _⟩ := DataW.trod_bool Try.underlying4 (hg 1 _ rfl)
      simp [hC_0] at e1
      subst e1
      obtain ⟨b2, e2, _⟩ := DataW.trod_bool Try.underlying4 (hg 2 _ rfl)
      simp [hC_0] at e2
      subst e2
      obtain ⟨b3, e3, _⟩ := DataW.trod_bool Try.underlying4 (hg 3 _ rfl)
      simp [hC_0] at e3
      subst e3
      obtain ⟨b4, e4, _⟩ := DataW.trod_bool Try.underlying4 (hg 4 _ rfl)
      simp [hC_0] at e4
      subst e4
      obtain ⟨b5, e5, _⟩ := DataW.trod_bool Try.underlying4 (hg 5 _ rfl)
      simp [hC_0] at e5
      subst e5
      exact ⟨b0, b1, b2, b3, b4, b5, rfl⟩

theorem open_flags {H : Type} {enc : TypeId × Value → H} {w : World} {base b0 : Nat} {spare : Nat → Bool} {held : Bool} {r : Reach} {v : Value} {d : DataW H} {p : List MemPlace}
    (hv : Value.okWide Try.prog w r b0 25 v) (h : DataW.Trod enc Try.prog w base spare held 25 v d p) :
    ∃ (x0 : Bool) (x1 : Bool) (x2 : Bool) (x3 : Bool) (x4 : Bool) (x5 : Bool), v = .agg #[.bool x0, .bool x1, .bool x2, .bool x3, .bool x4, .bool x5] := by
  obtain ⟨cs, rfl, hsz⟩ := okWide_struct Try.underlying25 hv
  obtain ⟨l⟩ := cs
  obtain ⟨fuel, hf⟩ := h
  obtain ⟨b0, b1, b2, b3, b4, b5, e⟩ := cells_flags hf
  have e2 : l = _ := e
  subst e2
  exact ⟨b0, b1, b2, b3, b4, b5, rfl⟩

theorem cells_arr7 {H : Type} {enc : TypeId × Value → H} {w : World} {base fuel : Nat} {spare : Nat → Bool} {held : Bool} {cs : List Value} {x : DataW H × List MemPlace}
    (hf : DataW.trod enc Try.prog w base spare held fuel 46 cs = some x) :
    ∃ (x0 : Int) (x1 : Int) (x2 : Int) (x3 : Int) (x4 : Int) (x5 : Int) (x6 : Int), cs = [.int .u32 x0, .int .u32 x1, .int .u32 x2, .int .u32 x3, .int .u32 x4, .int .u32 x5, .int .u32 x6] ∧ (0 ≤ x0 ∧ x0 ≤ 4294967295) ∧ (0 ≤ x1 ∧ x1 ≤ 4294967295) ∧ (0 ≤ x2 ∧ x2 ≤ 4294967295) ∧ (0 ≤ x3 ∧ x3 ≤ 4294967295) ∧ (0 ≤ x4 ∧ x4 ≤ 4294967295) ∧ (0 ≤ x5 ∧ x5 ≤ 4294967295) ∧ (0 ≤ x6 ∧ x6 ≤ 4294967295) := by
  have hC : Try.prog.cellsOf 46 = 7 := by kernel_rfl
  have hC_0 : Try.prog.cellsOf 22 = 1 := by kernel_rfl
  obtain ⟨xs, n, _, hx, hl, hlen, hg⟩ := DataW.trod_array Try.underlying46 hf
  match cs, hl.trans hC with
  | [c0, c1, c2, c3, c4, c5, c6], _ =>
    match xs, hlen with
    | [y0, y1, y2, y3, y4, y5, y6], _ =>
      obtain ⟨b0, e0, _, wf0⟩ := DataW.trod_int Try.underlying22 ((hg 0 (by decide)).trans rfl)
      have bd0 := bounds_u32 wf0
      simp [hC_0] at e0
      subst e0
      obtain ⟨b1, e1, _, wf1⟩ := DataW.trod_int Try.underlying22 ((hg 1 (by decide)).trans rfl)
      have bd1 := bounds_u32 wf1
      simp [hC_0] at e1
      subst e1
      obtain ⟨b2, e2, _, wf2⟩ := DataW.trod_int Try.underlying22 ((hg 2 (by decide)).trans rfl)
      have bd2 := bounds_u32 wf2
      simp [hC_0] at e2
      subst e2
      obtain ⟨b3, e3, _, wf3⟩ := DataW.trod_int Try.underlying22 ((hg 3 (by decide)).trans rfl)
      have bd3 := bounds_u32 wf3
      simp [hC_0] at e3
      subst e3
      obtain ⟨b4, e4, _, wf4⟩ := DataW.trod_int Try.underlying22 ((hg 4 (by decide)).trans rfl)
      have bd4 := bounds_u32 wf4
      simp [hC_0] at e4
      subst e4
      obtain ⟨b5, e5, _, wf5⟩ := DataW.trod_int Try.underlying22 ((hg 5 (by decide)).trans rfl)
      have bd5 := bounds_u32 wf5
      simp [hC_0] at e5
      subst e5
      obtain ⟨b6, e6, _, wf6⟩ := DataW.trod_int Try.underlying22 ((hg 6 (by decide)).trans rfl)
      have bd6 := bounds_u32 wf6
      simp [hC_0] at e6
      subst e6
      exact ⟨b0, b1, b2, b3, b4, b5, b6, rfl, bd0, bd1, bd2, bd3, bd4, bd5, bd6⟩

theorem open_arr7 {H : Type} {enc : TypeId × Value → H} {w : World} {base b0 : Nat} {spare : Nat → Bool} {held : Bool} {r : Reach} {v : Value} {d : DataW H} {p : List MemPlace}
    (hv : Value.okWide Try.prog w r b0 46 v) (h : DataW.Trod enc Try.prog w base spare held 46 v d p) :
    ∃ (x0 : Int) (x1 : Int) (x2 : Int) (x3 : Int) (x4 : Int) (x5 : Int) (x6 : Int), v = .agg #[.int .u32 x0, .int .u32 x1, .int .u32 x2, .int .u32 x3, .int .u32 x4, .int .u32 x5, .int .u32 x6] ∧ (0 ≤ x0 ∧ x0 ≤ 4294967295) ∧ (0 ≤ x1 ∧ x1 ≤ 4294967295) ∧ (0 ≤ x2 ∧ x2 ≤ 4294967295) ∧ (0 ≤ x3 ∧ x3 ≤ 4294967295) ∧ (0 ≤ x4 ∧ x4 ≤ 4294967295) ∧ (0 ≤ x5 ∧ x5 ≤ 4294967295) ∧ (0 ≤ x6 ∧ x6 ≤ 4294967295) := by
  obtain ⟨cs, rfl, hsz⟩ := okWide_array Try.underlying46 hv
  obtain ⟨l⟩ := cs
  obtain ⟨fuel, hf⟩ := h
  obtain ⟨b0, b1, b2, b3, b4, b5, b6, e, bds⟩ := cells_arr7 hf
  have e2 : l = _ := e
  subst e2
  exact ⟨b0, b1, b2, b3, b4, b5, b6, rfl, bds⟩

theorem cells_arr8 {H : Type} {enc : TypeId × Value → H} {w : World} {base fuel : Nat} {spare : Nat → Bool} {held : Bool} {cs : List Value} {x : DataW H × List MemPlace}
    (hf : DataW.trod enc Try.prog w base spare held fuel 23 cs = some x) :
    ∃ (x0 : Int) (x1 : Int) (x2 : Int) (x3 : Int) (x4 : Int) (x5 : Int) (x6 : Int) (x7 : Int), cs = [.int .u32 x0, .int .u32 x1, .int .u32 x2, .int .u32 x3, .int .u32 x4, .int .u32 x5, .int .u32 x6, .int .u32 x7] ∧ (0 ≤ x0 ∧ x0 ≤ 4294967295) ∧ (0 ≤ x1 ∧ x1 ≤ 4294967295) ∧ (0 ≤ x2 ∧ x2 ≤ 4294967295) ∧ (0 ≤ x3 ∧ x3 ≤ 4294967295) ∧ (0 ≤ x4 ∧ x4 ≤ 4294967295) ∧ (0 ≤ x5 ∧ x5 ≤ 4294967295) ∧ (0 ≤ x6 ∧ x6 ≤ 4294967295) ∧ (0 ≤ x7 ∧ x7 ≤ 4294967295) := by
  have hC : Try.prog.cellsOf 23 = 8 := by kernel_rfl
  have hC_0 : Try.prog.cellsOf 22 = 1 := by kernel_rfl
  obtain ⟨xs, n, _, hx, hl, hlen, hg⟩ := DataW.trod_array Try.underlying23 hf
  match cs, hl.trans hC with
  | [c0, c1, c2, c3, c4, c5, c6, c7], _ =>
    match xs, hlen with
    | [y0, y1, y2, y3, y4, y5, y6, y7], _ =>
      obtain ⟨b0, e0, _, wf0⟩ := DataW.trod_int Try.underlying22 ((hg 0 (by decide)).trans rfl)
      have bd0 := bounds_u32 wf0
      simp [hC_0] at e0
      subst e0
      obtain ⟨b1, e1, _, wf1⟩ := DataW.trod_int Try.underlying22 ((hg 1 (by decide)).trans rfl)
      have bd1 := bounds_u32 wf1
      simp [hC_0] at e1
      subst e1
      obtain ⟨b2, e2, _, wf2⟩ := DataW.trod_int Try.underlying22 ((hg 2 (by decide)).trans rfl)
      have bd2 := bounds_u32 wf2
      simp [hC_0] at e2
      subst e2
      obtain ⟨b3, e3, _, wf3⟩ := DataW.trod_int Try.underlying22 ((hg 3 (by decide)).trans rfl)
      have bd3 := bounds_u32 wf3
      simp [hC_0] at e3
      subst e3
      obtain ⟨b4, e4, _, wf4⟩ := DataW.trod_int Try.underlying22 ((hg 4 (by decide)).trans rfl)
      have bd4 := bounds_u32 wf4
      simp [hC_0] at e4
      subst e4
      obtain ⟨b5, e5, _, wf5⟩ := DataW.trod_int Try.underlying22 ((hg 5 (by decide)).trans rfl)
      have bd5 := bounds_u32 wf5
      simp [hC_0] at e5
      subst e5
      obtain ⟨b6, e6, _, wf6⟩ := DataW.trod_int Try.underlying22 ((hg 6 (by decide)).trans rfl)
      have bd6 := bounds_u32 wf6
      simp [hC_0] at e6
      subst e6
      obtain ⟨b7, e7, _, wf7⟩ := DataW.trod_int Try.underlying22 ((hg 7 (by decide)).trans rfl)
      have bd7 := bounds_u32 wf7
      simp [hC_0] at e7
      subst e7
      exact ⟨b0, b1, b2, b3, b4, b5, b6, b7, rfl, bd0, bd1, bd2, bd3, bd4, bd5, bd6, bd7⟩

theorem open_arr8 {H : Type} {enc : TypeId × Value → H} {w : World} {base b0 : Nat} {spare : Nat → Bool} {held : Bool} {r : Reach} {v : Value} {d : DataW H} {p : List MemPlace}
    (hv : Value.okWide Try.prog w r b0 23 v) (h : DataW.Trod enc Try.prog w base spare held 23 v d p) :
    ∃ (x0 : Int) (x1 : Int) (x2 : Int) (x3 : Int) (x4 : Int) (x5 : Int) (x6 : Int) (x7 : Int), v = .agg #[.int .u32 x0, .int .u32 x1, .int .u32 x2, .int .u32 x3, .int .u32 x4, .int .u32 x5, .int .u32 x6, .int .u32 x7] ∧ (0 ≤ x0 ∧ x0 ≤ 4294967295) ∧ (0 ≤ x1 ∧ x1 ≤ 4294967295) ∧ (0 ≤ x2 ∧ x2 ≤ 4294967295) ∧ (0 ≤ x3 ∧ x3 ≤ 4294967295) ∧ (0 ≤ x4 ∧ x4 ≤ 4294967295) ∧ (0 ≤ x5 ∧ x5 ≤ 4294967295) ∧ (0 ≤ x6 ∧ x6 ≤ 4294967295) ∧ (0 ≤ x7 ∧ x7 ≤ 4294967295) := by
  obtain ⟨cs, rfl, hsz⟩ := okWide_array Try.underlying23 hv
  obtain ⟨l⟩ := cs
  obtain ⟨fuel, hf⟩ := h
  obtain ⟨b0, b1, b2, b3, b4, b5, b6, b7, e, bds⟩ := cells_arr8 hf
  have e2 : l = _ := e
  subst e2
  exact ⟨b0, b1, b2, b3, b4, b5, b6, b7, rfl, bds⟩

theorem cells_state {H : Type} {enc : TypeId × Value → H} {w : World} {base fuel : Nat} {spare : Nat → Bool} {held : Bool} {cs : List Value} {x : DataW H × List MemPlace}
    (hf : DataW.trod enc Try.prog w base spare held fuel 28 cs = some x) :
    ∃ (x0 : Int) (x1 : Int) (x2 : Int) (x3 : Int) (x4 : Int) (x5 : Int) (x6 : Int) (x7 : Int) (x8 : Int) (x9 : Bool) (x10 : Bool) (x11 : Bool) (x12 : Bool) (x13 : Bool) (x14 : Bool) (x15 : Bool) (x16 : Int), cs = [.int .u32 x0, .int .u32 x1, .int .u32 x2, .int .u32 x3, .int .u32 x4, .int .u32 x5, .int .u32 x6, .int .u32 x7, .int .u32 x8, .bool x9, .bool x10, .bool x11, .bool x12, .bool x13, .bool x14, .bool x15, .int .u64 x16] ∧ (0 ≤ x0 ∧ x0 ≤ 4294967295) ∧ (0 ≤ x1 ∧ x1 ≤ 4294967295) ∧ (0 ≤ x2 ∧ x2 ≤ 4294967295) ∧ (0 ≤ x3 ∧ x3 ≤ 4294967295) ∧ (0 ≤ x4 ∧ x4 ≤ 4294967295) ∧ (0 ≤ x5 ∧ x5 ≤ 4294967295) ∧ (0 ≤ x6 ∧ x6 ≤ 4294967295) ∧ (0 ≤ x7 ∧ x7 ≤ 4294967295) ∧ (0 ≤ x8 ∧ x8 ≤ 4294967295) ∧ (0 ≤ x16 ∧ x16 ≤ 18446744073709551615) := by
  have hC : Try.prog.cellsOf 28 = 17 := by kernel_rfl
  have hC_0 : Try.prog.cellsOf 23 = 8 := by kernel_rfl
  have hC_1 : Try.prog.cellsOf 22 = 1 := by kernel_rfl
  have hC_2 : Try.prog.cellsOf 25 = 6 := by kernel_rfl
  have hC_3 : Try.prog.cellsOf 4 = 1 := by kernel_rfl
  have hC_4 : Try.prog.cellsOf 26 = 1 := by kernel_rfl
  obtain ⟨xs, n, _, hx, hl, hlen, hg⟩ := DataW.trod_struct Try.underlying28 hf
  match cs, hl.trans hC with
  | [c0, c1, c2, c3, c4, c5, c6, c7, c8, c9, c10, c11, c12, c13, c14, c15, c16], _ =>
    match xs, hlen with
    | [y0, y1, y2, y3, y4], _ =>
      obtain ⟨b0, b1, b2, b3, b4, b5, b6, b7, e0, bd0, bd1, bd2, bd3, bd4, bd5, bd6, bd7⟩ := cells_arr8 (hg 0 _ rfl)
      simp [hC_0] at e0
      obtain ⟨rfl, rfl, rfl, rfl, rfl, rfl, rfl, rfl⟩ := e0
      obtain ⟨b8, e1, _, wf1⟩ := DataW.trod_int Try.underlying22 (hg 1 _ rfl)
      have bd8 := bounds_u32 wf1
      simp [hC_1] at e1
      subst e1
      obtain ⟨b9, b10, b11, b12, b13, b14, e2⟩ := cells_flags (hg 2 _ rfl)
      simp [hC_2] at e2
      obtain ⟨rfl, rfl, rfl, rfl, rfl, rfl⟩ := e2
      obtain ⟨b15, e3, _⟩ := DataW.trod_bool Try.underlying4 (hg 3 _ rfl)
      simp [hC_3] at e3
      subst e3
      obtain ⟨b16, e4, _, wf4⟩ := DataW.trod_int Try.underlying26 (hg 4 _ rfl)
      have bd16 := bounds_u64 wf4
      simp [hC_4] at e4
      subst e4
      exact ⟨b0, b1, b2, b3, b4, b5, b6, b7, b8, b9, b10, b11, b12, b13, b14, b15, b16, rfl, bd0, bd1, bd2, bd3, bd4, bd5, bd6, bd7, bd8, bd16⟩

theorem open_state {H : Type} {enc : TypeId × Value → H} {w : World} {base b0 : Nat} {spare : Nat → Bool} {held : Bool} {r : Reach} {v : Value} {d : DataW H} {p : List MemPlace}
    (hv : Value.okWide Try.prog w r b0 28 v) (h : DataW.Trod enc Try.prog w base spare held 28 v d p) :
    ∃ (x0 : Int) (x1 : Int) (x2 : Int) (x3 : Int) (x4 : Int) (x5 : Int) (x6 : Int) (x7 : Int) (x8 : Int) (x9 : Bool) (x10 : Bool) (x11 : Bool) (x12 : Bool) (x13 : Bool) (x14 : Bool) (x15 : Bool) (x16 : Int), v = .agg #[.int .u32 x0, .int .u32 x1, .int .u32 x2, .int .u32 x3, .int .u32 x4, .int .u32 x5, .int .u32 x6, .int .u32 x7, .int .u32 x8, .bool x9, .bool x10, .bool x11, .bool x12, .bool x13, .bool x14, .bool x15, .int .u64 x16] ∧ (0 ≤ x0 ∧ x0 ≤ 4294967295) ∧ (0 ≤ x1 ∧ x1 ≤ 4294967295) ∧ (0 ≤ x2 ∧ x2 ≤ 4294967295) ∧ (0 ≤ x3 ∧ x3 ≤ 4294967295) ∧ (0 ≤ x4 ∧ x4 ≤ 4294967295) ∧ (0 ≤ x5 ∧ x5 ≤ 4294967295) ∧ (0 ≤ x6 ∧ x6 ≤ 4294967295) ∧ (0 ≤ x7 ∧ x7 ≤ 4294967295) ∧ (0 ≤ x8 ∧ x8 ≤ 4294967295) ∧ (0 ≤ x16 ∧ x16 ≤ 18446744073709551615) := by
  obtain ⟨cs, rfl, hsz⟩ := okWide_struct Try.underlying28 hv
  obtain ⟨l⟩ := cs
  obtain ⟨fuel, hf⟩ := h
  obtain ⟨b0, b1, b2, b3, b4, b5, b6, b7, b8, b9, b10, b11, b12, b13, b14, b15, b16, e, bds⟩ := cells_state hf
  have e2 : l = _ := e
  subst e2
  exact ⟨b0, b1, b2, b3, b4, b5, b6, b7, b8, b9, b10, b11, b12, b13, b14, b15, b16, rfl, bds⟩

end Go.Proofs.Ytjdjjhjehlnjaaa
