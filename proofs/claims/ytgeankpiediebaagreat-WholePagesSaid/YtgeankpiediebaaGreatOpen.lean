/- Arguments opened: structs and arrays of scalars by value; a slice of bytes. -/
import Derived.Test.YtgeankpiediebaaGreatRows
import Derived.WalkKit
import Derived.ProofKit
import Derived.OpenShut
import Derived.Lib.SmallJoins
namespace Go.Proofs.YtgeankpiediebaaGreat
open Go.Joins Go.ChangeShapes Go.WideShapes Go.RowKit Go.Deep
set_option linter.unusedVariables false
set_option maxRecDepth 100000

theorem okWide_array {P : Program} {w : World} {r : Reach} {base : Nat} {t : TypeId} {v : Value} {n : Nat} {e : TypeId} (ht : P.underlying t = some (.array n e)) (h : Value.okWide P w r base t v) : ∃ cs, v = .agg cs ∧ cs.size = P.cellsOf t := by
  simp only [Value.okWide, ht] at h
  obtain ⟨cs, h1, h2, _⟩ := h
  exact ⟨cs, h1, h2⟩

theorem cells_flags {H : Type} {enc : TypeId × Value → H} {w : World} {base fuel : Nat} {spare : Nat → Bool} {held : Bool} {cs : List Value} {x : DataW H × List MemPlace}
    (hf : DataW.trod enc Tryz.prog w base spare held fuel 48 cs = some x) :
    ∃ (x0 : Bool) (x1 : Bool) (x2 : Bool) (x3 : Bool) (x4 : Bool) (x5 : Bool), cs = [.bool x0, .bool x1, .bool x2, .bool x3, .bool x4, .bool x5] := by
  have hC : Tryz.prog.cellsOf 48 = 6 := by kernel_rfl
  have hC_0 : Tryz.prog.cellsOf 4 = 1 := by kernel_rfl
  obtain ⟨xs, n, _, hx, hl, hlen, hg⟩ := DataW.trod_struct Tryz.underlying48 hf
  match cs, hl.trans hC with
  | [c0, c1, c2, c3, c4, c5], _ =>
    match xs, hlen with
    | [y0, y1, y2, y3, y4, y5], _ =>
      obtain ⟨b0, e0, _⟩ := DataW.trod_bool Tryz.underlying4 (hg 0 _ rfl)
      simp [hC_0] at e0
      subst e0
      obtain ⟨b1, e1, _⟩ := DataW.trod_bool Tryz.underlying4 (hg 1 _ rfl)
      simp [hC_0] at e1
      subst e1
      obtain ⟨b2, e2, _⟩ := DataW.trod_bool Tryz.underlying4 (hg 2 _ rfl)
      simp [hC_0] at e2
      subst e2
      obtain ⟨b3, e3, _⟩ := DataW.trod_bool Tryz.underlying4 (hg 3 _ rfl)
      simp [hC_0] at e3
      subst e3
      obtain ⟨b4, e4, _⟩ := DataW.trod_bool Tryz.underlying4 (hg 4 _ rfl)
      simp [hC_0] at e4
      subst e4
      obtain ⟨b5, e5, _⟩ := DataW.trod_bool Tryz.underlying4 (hg 5 _ rfl)
      simp [hC_0] at e5
      subst e5
      exact ⟨b0, b1, b2, b3, b4, b5, rfl⟩

theorem open_flags {H : Type} {enc : TypeId × Value → H} {w : World} {base b0 : Nat} {spare : Nat → Bool} {held : Bool} {r : Reach} {v : Value} {d : DataW H} {p : List MemPlace}
    (hv : Value.okWide Tryz.prog w r b0 48 v) (h : DataW.Trod enc Tryz.prog w base spare held 48 v d p) :
    ∃ (x0 : Bool) (x1 : Bool) (x2 : Bool) (x3 : Bool) (x4 : Bool) (x5 : Bool), v = .agg #[.bool x0, .bool x1, .bool x2, .bool x3, .bool x4, .bool x5] := by
  obtain ⟨cs, rfl, hsz⟩ := okWide_struct Tryz.underlying48 hv
  obtain ⟨l⟩ := cs
  obtain ⟨fuel, hf⟩ := h
  obtain ⟨b0, b1, b2, b3, b4, b5, e⟩ := cells_flags hf
  have e2 : l = _ := e
  subst e2
  exact ⟨b0, b1, b2, b3, b4, b5, rfl⟩

theorem cells_word {H : Type} {enc : TypeId × Value → H} {w : World} {base fuel : Nat} {spare : Nat → Bool} {held : Bool} {cs : List Value} {x : DataW H × List MemPlace}
    (hf : DataW.trod enc Tryz.prog w base spare held fuel 222 cs = some x) :
    ∃ (x0 : Int) (x1 : Int) (x2 : Int) (x3 : Int) (x4 : Int), cs = [.int .i64 x0, .int .i64 x1, .int .i64 x2, .int .i64 x3, .int .i32 x4] ∧ (-9223372036854775808 ≤ x0 ∧ x0 ≤ 9223372036854775807) ∧ (-9223372036854775808 ≤ x1 ∧ x1 ≤ 9223372036854775807) ∧ (-9223372036854775808 ≤ x2 ∧ x2 ≤ 9223372036854775807) ∧ (-9223372036854775808 ≤ x3 ∧ x3 ≤ 9223372036854775807) ∧ (-2147483648 ≤ x4 ∧ x4 ≤ 2147483647) := by
  have hC : Tryz.prog.cellsOf 222 = 5 := by kernel_rfl
  have hC_0 : Tryz.prog.cellsOf 3 = 1 := by kernel_rfl
  have hC_1 : Tryz.prog.cellsOf 21 = 1 := by kernel_rfl
  obtain ⟨xs, n, _, hx, hl, hlen, hg⟩ := DataW.trod_struct Tryz.underlying222 hf
  match cs, hl.trans hC with
  | [c0, c1, c2, c3, c4], _ =>
    match xs, hlen with
    | [y0, y1, y2, y3, y4], _ =>
      obtain ⟨b0, e0, _, wf0⟩ := DataW.trod_int Tryz.underlying3 (hg 0 _ rfl)
      have bd0 := bounds_i64 wf0
      simp [hC_0] at e0
      subst e0
      obtain ⟨b1, e1, _, wf1⟩ := DataW.trod_int Tryz.underlying3 (hg 1 _ rfl)
      have bd1 := bounds_i64 wf1
      simp [hC_0] at e1
      subst e1
      obtain ⟨b2, e2, _, wf2⟩ := DataW.trod_int Tryz.underlying3 (hg 2 _ rfl)
      have bd2 := bounds_i64 wf2
      simp [hC_0] at e2
      subst e2
      obtain ⟨b3, e3, _, wf3⟩ := DataW.trod_int Tryz.underlying3 (hg 3 _ rfl)
      have bd3 := bounds_i64 wf3
      simp [hC_0] at e3
      subst e3
      obtain ⟨b4, e4, _, wf4⟩ := DataW.trod_int Tryz.underlying21 (hg 4 _ rfl)
      have bd4 := bounds_i32 wf4
      simp [hC_1] at e4
      subst e4
      exact ⟨b0, b1, b2, b3, b4, rfl, bd0, bd1, bd2, bd3, bd4⟩

theorem open_word {H : Type} {enc : TypeId × Value → H} {w : World} {base b0 : Nat} {spare : Nat → Bool} {held : Bool} {r : Reach} {v : Value} {d : DataW H} {p : List MemPlace}
    (hv : Value.okWide Tryz.prog w r b0 222 v) (h : DataW.Trod enc Tryz.prog w base spare held 222 v d p) :
    ∃ (x0 : Int) (x1 : Int) (x2 : Int) (x3 : Int) (x4 : Int), v = .agg #[.int .i64 x0, .int .i64 x1, .int .i64 x2, .int .i64 x3, .int .i32 x4] ∧ (-9223372036854775808 ≤ x0 ∧ x0 ≤ 9223372036854775807) ∧ (-9223372036854775808 ≤ x1 ∧ x1 ≤ 9223372036854775807) ∧ (-9223372036854775808 ≤ x2 ∧ x2 ≤ 9223372036854775807) ∧ (-9223372036854775808 ≤ x3 ∧ x3 ≤ 9223372036854775807) ∧ (-2147483648 ≤ x4 ∧ x4 ≤ 2147483647) := by
  obtain ⟨cs, rfl, hsz⟩ := okWide_struct Tryz.underlying222 hv
  obtain ⟨l⟩ := cs
  obtain ⟨fuel, hf⟩ := h
  obtain ⟨b0, b1, b2, b3, b4, e, bds⟩ := cells_word hf
  have e2 : l = _ := e
  subst e2
  exact ⟨b0, b1, b2, b3, b4, rfl, bds⟩

theorem cells_arr3 {H : Type} {enc : TypeId × Value → H} {w : World} {base fuel : Nat} {spare : Nat → Bool} {held : Bool} {cs : List Value} {x : DataW H × List MemPlace}
    (hf : DataW.trod enc Tryz.prog w base spare held fuel 357 cs = some x) :
    ∃ (x0 : Int) (x1 : Int) (x2 : Int), cs = [.int .u32 x0, .int .u32 x1, .int .u32 x2] ∧ (0 ≤ x0 ∧ x0 ≤ 4294967295) ∧ (0 ≤ x1 ∧ x1 ≤ 4294967295) ∧ (0 ≤ x2 ∧ x2 ≤ 4294967295) := by
  have hC : Tryz.prog.cellsOf 357 = 3 := by kernel_rfl
  have hC_0 : Tryz.prog.cellsOf 23 = 1 := by kernel_rfl
  obtain ⟨xs, n, _, hx, hl, hlen, hg⟩ := DataW.trod_array Tryz.underlying357 hf
  match cs, hl.trans hC with
  | [c0, c1, c2], _ =>
    match xs, hlen with
    | [y0, y1, y2], _ =>
      obtain ⟨b0, e0, _, wf0⟩ := DataW.trod_int Tryz.underlying23 ((hg 0 (by decide)).trans rfl)
      have bd0 := bounds_u32 wf0
      simp [hC_0] at e0
      subst e0
      obtain ⟨b1, e1, _, wf1⟩ := DataW.trod_int Tryz.underlying23 ((hg 1 (by decide)).trans rfl)
      have bd1 := bounds_u32 wf1
      simp [hC_0] at e1
      subst e1
      obtain ⟨b2, e2, _, wf2⟩ := DataW.trod_int Tryz.underlying23 ((hg 2 (by decide)).trans rfl)
      have bd2 := bounds_u32 wf2
      simp [hC_0] at e2
      subst e2
      exact ⟨b0, b1, b2, rfl, bd0, bd1, bd2⟩

theorem open_arr3 {H : Type} {enc : TypeId × Value → H} {w : World} {base b0 : Nat} {spare : Nat → Bool} {held : Bool} {r : Reach} {v : Value} {d : DataW H} {p : List MemPlace}
    (hv : Value.okWide Tryz.prog w r b0 357 v) (h : DataW.Trod enc Tryz.prog w base spare held 357 v d p) :
    ∃ (x0 : Int) (x1 : Int) (x2 : Int), v = .agg #[.int .u32 x0, .int .u32 x1, .int .u32 x2] ∧ (0 ≤ x0 ∧ x0 ≤ 4294967295) ∧ (0 ≤ x1 ∧ x1 ≤ 4294967295) ∧ (0 ≤ x2 ∧ x2 ≤ 4294967295) := by
  obtain ⟨cs, rfl, hsz⟩ := okWide_array Tryz.underlying357 hv
  obtain ⟨l⟩ := cs
  obtain ⟨fuel, hf⟩ := h
  obtain ⟨b0, b1, b2, e, bds⟩ := cells_arr3 hf
  have e2 : l = _ := e
  subst e2
  exact ⟨b0, b1, b2, rfl, bds⟩

theorem cells_arr8 {H : Type} {enc : TypeId × Value → H} {w : World} {base fuel : Nat} {spare : Nat → Bool} {held : Bool} {cs : List Value} {x : DataW H × List MemPlace}
    (hf : DataW.trod enc Tryz.prog w base spare held fuel 46 cs = some x) :
    ∃ (x0 : Int) (x1 : Int) (x2 : Int) (x3 : Int) (x4 : Int) (x5 : Int) (x6 : Int) (x7 : Int), cs = [.int .u32 x0, .int .u32 x1, .int .u32 x2, .int .u32 x3, .int .u32 x4, .int .u32 x5, .int .u32 x6, .int .u32 x7] ∧ (0 ≤ x0 ∧ x0 ≤ 4294967295) ∧ (0 ≤ x1 ∧ x1 ≤ 4294967295) ∧ (0 ≤ x2 ∧ x2 ≤ 4294967295) ∧ (0 ≤ x3 ∧ x3 ≤ 4294967295) ∧ (0 ≤ x4 ∧ x4 ≤ 4294967295) ∧ (0 ≤ x5 ∧ x5 ≤ 4294967295) ∧ (0 ≤ x6 ∧ x6 ≤ 4294967295) ∧ (0 ≤ x7 ∧ x7 ≤ 4294967295) := by
  have hC : Tryz.prog.cellsOf 46 = 8 := by kernel_rfl
  have hC_0 : Tryz.prog.cellsOf 23 = 1 := by kernel_rfl
  obtain ⟨xs, n, _, hx, hl, hlen, hg⟩ := DataW.trod_array Tryz.underlying46 hf
  match cs, hl.trans hC with
  | [c0, c1, c2, c3, c4, c5, c6, c7], _ =>
    match xs, hlen with
    | [y0, y1, y2, y3, y4, y5, y6, y7], _ =>
      obtain ⟨b0, e0, _, wf0⟩ := DataW.trod_int Tryz.underlying23 ((hg 0 (by decide)).trans rfl)
      have bd0 := bounds_u32 wf0
      simp [hC_0] at e0
      subst e0
      obtain ⟨b1, e1, _, wf1⟩ := DataW.trod_int Tryz.underlying23 ((hg 1 (by decide)).trans rfl)
      have bd1 := bounds_u32 wf1
      simp [hC_0] at e1
      subst e1
      obtain ⟨b2, e2, _, wf2⟩ := DataW.trod_int Tryz.underlying23 ((hg 2 (by decide)).trans rfl)
      have bd2 := bounds_u32 wf2
      simp [hC_0] at e2
      subst e2
      obtain ⟨b3, e3, _, wf3⟩ := DataW.trod_int Tryz.underlying23 ((hg 3 (by decide)).trans rfl)
      have bd3 := bounds_u32 wf3
      simp [hC_0] at e3
      subst e3
      obtain ⟨b4, e4, _, wf4⟩ := DataW.trod_int Tryz.underlying23 ((hg 4 (by decide)).trans rfl)
      have bd4 := bounds_u32 wf4
      simp [hC_0] at e4
      subst e4
      obtain ⟨b5, e5, _, wf5⟩ := DataW.trod_int Tryz.underlying23 ((hg 5 (by decide)).trans rfl)
      have bd5 := bounds_u32 wf5
      simp [hC_0] at e5
      subst e5
      obtain ⟨b6, e6, _, wf6⟩ := DataW.trod_int Tryz.underlying23 ((hg 6 (by decide)).trans rfl)
      have bd6 := bounds_u32 wf6
      simp [hC_0] at e6
      subst e6
      obtain ⟨b7, e7, _, wf7⟩ := DataW.trod_int Tryz.underlying23 ((hg 7 (by decide)).trans rfl)
      have bd7 := bounds_u32 wf7
      simp [hC_0] at e7
      subst e7
      exact ⟨b0, b1, b2, b3, b4, b5, b6, b7, rfl, bd0, bd1, bd2, bd3, bd4, bd5, bd6, bd7⟩

theorem open_arr8 {H : Type} {enc : TypeId × Value → H} {w : World} {base b0 : Nat} {spare : Nat → Bool} {held : Bool} {r : Reach} {v : Value} {d : DataW H} {p : List MemPlace}
    (hv : Value.okWide Tryz.prog w r b0 46 v) (h : DataW.Trod enc Tryz.prog w base spare held 46 v d p) :
    ∃ (x0 : Int) (x1 : Int) (x2 : Int) (x3 : Int) (x4 : Int) (x5 : Int) (x6 : Int) (x7 : Int), v = .agg #[.int .u32 x0, .int .u32 x1, .int .u32 x2, .int .u32 x3, .int .u32 x4, .int .u32 x5, .int .u32 x6, .int .u32 x7] ∧ (0 ≤ x0 ∧ x0 ≤ 4294967295) ∧ (0 ≤ x1 ∧ x1 ≤ 4294967295) ∧ (0 ≤ x2 ∧ x2 ≤ 4294967295) ∧ (0 ≤ x3 ∧ x3 ≤ 4294967295) ∧ (0 ≤ x4 ∧ x4 ≤ 4294967295) ∧ (0 ≤ x5 ∧ x5 ≤ 4294967295) ∧ (0 ≤ x6 ∧ x6 ≤ 4294967295) ∧ (0 ≤ x7 ∧ x7 ≤ 4294967295) := by
  obtain ⟨cs, rfl, hsz⟩ := okWide_array Tryz.underlying46 hv
  obtain ⟨l⟩ := cs
  obtain ⟨fuel, hf⟩ := h
  obtain ⟨b0, b1, b2, b3, b4, b5, b6, b7, e, bds⟩ := cells_arr8 hf
  have e2 : l = _ := e
  subst e2
  exact ⟨b0, b1, b2, b3, b4, b5, b6, b7, rfl, bds⟩

theorem cells_state {H : Type} {enc : TypeId × Value → H} {w : World} {base fuel : Nat} {spare : Nat → Bool} {held : Bool} {cs : List Value} {x : DataW H × List MemPlace}
    (hf : DataW.trod enc Tryz.prog w base spare held fuel 51 cs = some x) :
    ∃ (x0 : Int) (x1 : Int) (x2 : Int) (x3 : Int) (x4 : Int) (x5 : Int) (x6 : Int) (x7 : Int) (x8 : Int) (x9 : Bool) (x10 : Bool) (x11 : Bool) (x12 : Bool) (x13 : Bool) (x14 : Bool) (x15 : Bool) (x16 : Int), cs = [.int .u32 x0, .int .u32 x1, .int .u32 x2, .int .u32 x3, .int .u32 x4, .int .u32 x5, .int .u32 x6, .int .u32 x7, .int .u32 x8, .bool x9, .bool x10, .bool x11, .bool x12, .bool x13, .bool x14, .bool x15, .int .u64 x16] ∧ (0 ≤ x0 ∧ x0 ≤ 4294967295) ∧ (0 ≤ x1 ∧ x1 ≤ 4294967295) ∧ (0 ≤ x2 ∧ x2 ≤ 4294967295) ∧ (0 ≤ x3 ∧ x3 ≤ 4294967295) ∧ (0 ≤ x4 ∧ x4 ≤ 4294967295) ∧ (0 ≤ x5 ∧ x5 ≤ 4294967295) ∧ (0 ≤ x6 ∧ x6 ≤ 4294967295) ∧ (0 ≤ x7 ∧ x7 ≤ 4294967295) ∧ (0 ≤ x8 ∧ x8 ≤ 4294967295) ∧ (0 ≤ x16 ∧ x16 ≤ 18446744073709551615) := by
  have hC : Tryz.prog.cellsOf 51 = 17 := by kernel_rfl
  have hC_0 : Tryz.prog.cellsOf 46 = 8 := by kernel_rfl
  have hC_1 : Tryz.prog.cellsOf 23 = 1 := by kernel_rfl
  have hC_2 : Tryz.prog.cellsOf 48 = 6 := by kernel_rfl
  have hC_3 : Tryz.prog.cellsOf 4 = 1 := by kernel_rfl
  have hC_4 : Tryz.prog.cellsOf 49 = 1 := by kernel_rfl
  obtain ⟨xs, n, _, hx, hl, hlen, hg⟩ := DataW.trod_struct Tryz.underlying51 hf
  match cs, hl.trans hC with
  | [c0, c1, c2, c3, c4, c5, c6, c7, c8, c9, c10, c11, c12, c13, c14, c15, c16], _ =>
    match xs, hlen with
    | [y0, y1, y2, y3, y4], _ =>
      obtain ⟨b0, b1, b2, b3, b4, b5, b6, b7, e0, bd0, bd1, bd2, bd3, bd4, bd5, bd6, bd7⟩ := cells_arr8 (hg 0 _ rfl)
      simp [hC_0] at e0
      obtain ⟨rfl, rfl, rfl, rfl, rfl, rfl, rfl, rfl⟩ := e0
      obtain ⟨b8, e1, _, wf1⟩ := DataW.trod_int Tryz.underlying23 (hg 1 _ rfl)
      have bd8 := bounds_u32 wf1
      simp [hC_1] at e1
      subst e1
      obtain ⟨b9, b10, b11, b12, b13, b14, e2⟩ := cells_flags (hg 2 _ rfl)
      simp [hC_2] at e2
      obtain ⟨rfl, rfl, rfl, rfl, rfl, rfl⟩ := e2
      obtain ⟨b15, e3, _⟩ := DataW.trod_bool Tryz.underlying4 (hg 3 _ rfl)
      simp [hC_3] at e3
      subst e3
      obtain ⟨b16, e4, _, wf4⟩ := DataW.trod_int Tryz.underlying49 (hg 4 _ rfl)
      have bd16 := bounds_u64 wf4
      simp [hC_4] at e4
      subst e4
      exact ⟨b0, b1, b2, b3, b4, b5, b6, b7, b8, b9, b10, b11, b12, b13, b14, b15, b16, rfl, bd0, bd1, bd2, bd3, bd4, bd5, bd6, bd7, bd8, bd16⟩

theorem open_state {H : Type} {enc : TypeId × Value → H} {w : World} {base b0 : Nat} {spare : Nat → Bool} {held : Bool} {r : Reach} {v : Value} {d : DataW H} {p : List MemPlace}
    (hv : Value.okWide Tryz.prog w r b0 51 v) (h : DataW.Trod enc Tryz.prog w base spare held 51 v d p) :
    ∃ (x0 : Int) (x1 : Int) (x2 : Int) (x3 : Int) (x4 : Int) (x5 : Int) (x6 : Int) (x7 : Int) (x8 : Int) (x9 : Bool) (x10 : Bool) (x11 : Bool) (x12 : Bool) (x13 : Bool) (x14 : Bool) (x15 : Bool) (x16 : Int), v = .agg #[.int .u32 x0, .int .u32 x1, .int .u32 x2, .int .u32 x3, .int .u32 x4, .int .u32 x5, .int .u32 x6, .int .u32 x7, .int .u32 x8, .bool x9, .bool x10, .bool x11, .bool x12, .bool x13, .bool x14, .bool x15, .int .u64 x16] ∧ (0 ≤ x0 ∧ x0 ≤ 4294967295) ∧ (0 ≤ x1 ∧ x1 ≤ 4294967295) ∧ (0 ≤ x2 ∧ x2 ≤ 4294967295) ∧ (0 ≤ x3 ∧ x3 ≤ 4294967295) ∧ (0 ≤ x4 ∧ x4 ≤ 4294967295) ∧ (0 ≤ x5 ∧ x5 ≤ 4294967295) ∧ (0 ≤ x6 ∧ x6 ≤ 4294967295) ∧ (0 ≤ x7 ∧ x7 ≤ 4294967295) ∧ (0 ≤ x8 ∧ x8 ≤ 4294967295) ∧ (0 ≤ x16 ∧ x16 ≤ 18446744073709551615) := by
  obtain ⟨cs, rfl, hsz⟩ := okWide_struct Tryz.underlying51 hv
  obtain ⟨l⟩ := cs
  obtain ⟨fuel, hf⟩ := h
  obtain ⟨b0, b1, b2, b3, b4, b5, b6, b7, b8, b9, b10, b11, b12, b13, b14, b15, b16, e, bds⟩ := cells_state hf
  have e2 : l = _ := e
  subst e2
  exact ⟨b0, b1, b2, b3, b4, b5, b6, b7, b8, b9, b10, b11, b12, b13, b14, b15, b16, rfl, bds⟩

theorem cell_spot {w : World} {a : Addr} {v : Value} (h : w.cell? a = some v) : a.spot = none ∧ a.block < w.heap.size := by
  unfold World.cell? at h
  split at h
  · rename_i c e fr hb
    refine ⟨?_, ?_⟩
    · by_cases hs : a.spot.isSome
      · rw [if_pos hs] at h; cases h
      · simpa using hs
    · rcases Nat.lt_or_ge a.block w.heap.size with h' | h'
      · exact h'
      · rw [Array.getElem?_eq_none h'] at hb; cases hb
  · cases h

theorem open_intsAt {H : Type} {enc : TypeId × Value → H} {P : Program} {w : World} {base b0 : Nat} {spare : Nat → Bool} {held : Bool} {r : Reach} {v : Value} {d : DataW H} {p : List MemPlace} {T E : TypeId} {k : IntKind}
    (ht : P.underlying T = some (.slice E)) (he : P.underlying E = some (.int k)) (hc : P.cellsOf E = 1)
    (hv : Value.okWide P w r b0 T v) (h : DataW.Trod enc P w base spare held T v d p) :
    ∃ ws : List Int, (∃ a cap, v = .slice a ws.length cap ∧ ∀ i, i < ws.length → ∃ b o, a = some ⟨b, o, none⟩ ∧ b < w.heap.size ∧ w.cell? ⟨b, o + i, none⟩ = some (.int k (ws.getD i 0))) ∧ ∀ x ∈ ws, (Lit.int k x).wf = true := by
  obtain ⟨a0, len, cap, rfl⟩ := okWide_slice ht hv
  obtain ⟨fuel, hf⟩ := h
  rcases open_ints ht he hc hf with ⟨hcs, hx⟩ | ⟨a, len', cap', zs, hcs, _, hle, hmax, hall, hx, hcell, hwf⟩
  · simp [Value.cells] at hcs
    obtain ⟨rfl, rfl, rfl⟩ := hcs
    exact ⟨[], ⟨none, 0, rfl, fun i hi => absurd hi (Nat.not_lt_zero _)⟩, fun x hx => by cases hx⟩
  · simp [Value.cells] at hcs
    obtain ⟨rfl, rfl, rfl⟩ := hcs
    have hlz : len ≤ zs.length := by rw [hall]; split <;> omega
    have hlen : (zs.take len).length = len := by rw [List.length_take]; omega
    have key : ∀ i, i < len → ∃ b o, some a = some ⟨b, o, none⟩ ∧ b < w.heap.size ∧ w.cell? ⟨b, o + i, none⟩ = some (.int k ((zs.take len).getD i 0)) := by
      intro i hi
      have h0 := hcell 0 (by omega)
      rw [show a.add 0 = a from rfl] at h0
      obtain ⟨hs, hb⟩ := cell_spot h0
      obtain ⟨b, o, sp⟩ := a
      have hs' : sp = none := hs
      subst hs'
      refine ⟨b, o, rfl, hb, ?_⟩
      have h1 := hcell i (by omega)
      rw [Addr.add_lit] at h1
      rw [h1, List.getD_eq_getElem?_getD, List.getD_eq_getElem?_getD, List.getElem?_take, if_pos hi]
    refine ⟨zs.take len, ⟨some a, cap, by rw [hlen], fun i hi => key i (by rw [hlen] at hi; exact hi)⟩, fun x hx => hwf x (List.mem_of_mem_take hx)⟩

theorem open_u32s {H : Type} {enc : TypeId × Value → H} {w : World} {base b0 : Nat} {spare : Nat → Bool} {held : Bool} {r : Reach} {v : Value} {d : DataW H} {p : List MemPlace}
    (hv : Value.okWide Tryz.prog w r b0 78 v) (h : DataW.Trod enc Tryz.prog w base spare held 78 v d p) :
    ∃ ws : List Int, ∃ a cap, v = .slice a ws.length cap ∧ (∀ i, i < ws.length → ∃ b o, a = some ⟨b, o, none⟩ ∧ b < w.heap.size ∧ w.cell? ⟨b, o + i, none⟩ = some (.int .u32 (ws.getD i 0))) ∧ ∀ x ∈ ws, 0 ≤ x ∧ x ≤ 4294967295 := by
  obtain ⟨ws, ⟨a, cap, e, hc⟩, hw⟩ := open_intsAt Tryz.underlying78 Tryz.underlying23 (by kernel_rfl) hv h
  exact ⟨ws, a, cap, e, hc, fun x hx => bounds_u32 (hw x hx)⟩

theorem open_u8s {H : Type} {enc : TypeId × Value → H} {w : World} {base b0 : Nat} {spare : Nat → Bool} {held : Bool} {r : Reach} {v : Value} {d : DataW H} {p : List MemPlace}
    (hv : Value.okWide Tryz.prog w r b0 43 v) (h : DataW.Trod enc Tryz.prog w base spare held 43 v d p) :
    ∃ ws : List Int, ∃ a cap, v = .slice a ws.length cap ∧ (∀ i, i < ws.length → ∃ b o, a = some ⟨b, o, none⟩ ∧ b < w.heap.size ∧ w.cell? ⟨b, o + i, none⟩ = some (.int .u8 (ws.getD i 0))) ∧ ∀ x ∈ ws, 0 ≤ x ∧ x ≤ 255 := by
  obtain ⟨ws, ⟨a, cap, e, hc⟩, hw⟩ := open_intsAt Tryz.underlying43 Tryz.underlying5 (by kernel_rfl) hv h
  exact ⟨ws, a, cap, e, hc, fun x hx => bounds_u8 (hw x hx)⟩

end Go.Proofs.YtgeankpiediebaaGreat
