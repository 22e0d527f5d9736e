/- Arguments opened: structs and arrays of scalars by value; a slice of bytes. -/
import Derived.Test.YtndfcpkmchjncaaRows
import Derived.WalkKit
import Derived.ProofKit
import Derived.OpenShut
import Derived.Lib.SmallJoins
namespace Go.Proofs.Ytndfcpkmchjncaa
open Go.Joins Go.ChangeShapes Go.WideShapes Go.RowKit Go.Deep
set_option linter.unusedVariables false
set_option maxRecDepth 100000

theorem okWide_array {P : Program} {w : World} {r : Reach} {base : Nat} {t : TypeId} {v : Value} {n : Nat} {e : TypeId} (ht : P.underlying t = some (.array n e)) (h : Value.okWide P w r base t v) : ∃ cs, v = .agg cs ∧ cs.size = P.cellsOf t := by
  simp only [Value.okWide, ht] at h
  obtain ⟨cs, h1, h2, _⟩ := h
  exact ⟨cs, h1, h2⟩

theorem cells_flags {H : Type} {enc : TypeId × Value → H} {w : World} {base fuel : Nat} {spare : Nat → Bool} {held : Bool} {cs : List Value} {x : DataW H × List MemPlace}
    (hf : DataW.trod enc Try.prog w base spare held fuel 24 cs = some x) :
    ∃ (x0 : Bool) (x1 : Bool) (x2 : Bool) (x3 : Bool) (x4 : Bool) (x5 : Bool), cs = [.bool x0, .bool x1, .bool x2, .bool x3, .bool x4, .bool x5] := by
  have hC : Try.prog.cellsOf 24 = 6 := by kernel_rfl
  have hC_0 : Try.prog.cellsOf 4 = 1 := by kernel_rfl
  obtain ⟨xs, n, _, hx, hl, hlen, hg⟩ := DataW.trod_struct Try.underlying24 hf
  match cs, hl.trans hC with
  | [c0, c1, c2, c3, c4, c5], _ =>
    match xs, hlen with
    | [y0, y1, y2, y3, y4, y5], _ =>
      obtain ⟨b0, e0, _⟩ := DataW.trod_bool Try.underlying4 (hg 0 _ rfl)
      simp [hC_0] at e0
      subst e0
      obtain ⟨b1, e1, _⟩ := DataW.trod_bool Try.underlying4 (hg 1 _ rfl)
      simp [hC_0] at e1
      subst e1
      obtain ⟨b2, e2, _⟩ := DataW.trod_bool Try.underlying4 (hg 2 _ rfl)
      simp [hC_0] at e2
      subst e2
      obtain ⟨b3, e3, _⟩ := DataW.trod_bool Try.underlying4 (hg 3 _ rfl)
      simp [hC_0] at e3
      subst e3
      obtain ⟨b4, e4, _⟩ := DataW.trod_bool Try.underlying4 (hg 4 _ rfl)
      simp [hC_0] at e4
      subst e4
      obtain ⟨b5, e5, _⟩ := DataW.trod_bool Try.underlying4 (hg 5 _ rfl)
      simp [hC_0] at e5
      subst e5
      exact ⟨b0, b1, b2, b3, b4, b5, rfl⟩

theorem open_flags {H : Type} {enc : TypeId × Value → H} {w : World} {base b0 : Nat} {spare : Nat → Bool} {held : Bool} {r : Reach} {v : Value} {d : DataW H} {p : List MemPlace}
    (hv : Value.okWide Try.prog w r b0 24 v) (h : DataW.Trod enc Try.prog w base spare held 24 v d p) :
    ∃ (x0 : Bool) (x1 : Bool) (x2 : Bool) (x3 : Bool) (x4 : Bool) (x5 : Bool), v = .agg #[.bool x0, .bool x1, .bool x2, .bool x3, .bool x4, .bool x5] := by
  obtain ⟨cs, rfl, hsz⟩ := okWide_struct Try.underlying24 hv
  obtain ⟨l⟩ := cs
  obtain ⟨fuel, hf⟩ := h
  obtain ⟨b0, b1, b2, b3, b4, b5, e⟩ := cells_flags hf
  have e2 : l = _ := e
  subst e2
  exact ⟨b0, b1, b2, b3, b4, b5, rfl⟩

theorem cells_word {H : Type} {enc : TypeId × Value → H} {w : World} {base fuel : Nat} {spare : Nat → Bool} {held : Bool} {cs : List Value} {x : DataW H × List MemPlace}
    (hf : DataW.trod enc Try.prog w base spare held fuel 79 cs = some x) :
    ∃ (x0 : Int) (x1 : Int) (x2 : Int) (x3 : Int) (x4 : Int), cs = [.int .i64 x0, .int .i64 x1, .int .i64 x2, .int .i64 x3, .int .i32 x4] ∧ (-9223372036854775808 ≤ x0 ∧ x0 ≤ 9223372036854775807) ∧ (-9223372036854775808 ≤ x1 ∧ x1 ≤ 9223372036854775807) ∧ (-9223372036854775808 ≤ x2 ∧ x2 ≤ 9223372036854775807) ∧ (-9223372036854775808 ≤ x3 ∧ x3 ≤ 9223372036854775807) ∧ (-2147483648 ≤ x4 ∧ x4 ≤ 2147483647) := by
  have hC : Try.prog.cellsOf 79 = 5 := by kernel_rfl
  have hC_0 : Try.prog.cellsOf 3 = 1 := by kernel_rfl
  have hC_1 : Try.prog.cellsOf 21 = 1 := by kernel_rfl
  obtain ⟨xs, n, _, hx, hl, hlen, hg⟩ := DataW.trod_struct Try.underlying79 hf
  match cs, hl.trans hC with
  | [c0, c1, c2, c3, c4], _ =>
    match xs, hlen with
    | [y0, y1, y2, y3, y4], _ =>
      obtain ⟨b0, e0, _, wf0⟩ := DataW.trod_int Try.underlying3 (hg 0 _ rfl)
      have bd0 := bounds_i64 wf0
      simp [hC_0] at e0
      subst e0
      obtain ⟨b1, e1, _, wf1⟩ := DataW.trod_int Try.underlying3 (hg 1 _ rfl)
      have bd1 := bounds_i64 wf1
      simp [hC_0] at e1
      subst e1
      obtain ⟨b2, e2, _, wf2⟩ := DataW.trod_int Try.underlying3 (hg 2 _ rfl)
      have bd2 := bounds_i64 wf2
      simp [hC_0] at e2
      subst e2
      obtain ⟨b3, e3, _, wf3⟩ := DataW.trod_int Try.underlying3 (hg 3 _ rfl)
      have bd3 := bounds_i64 wf3
      simp [hC_0] at e3
      subst e3
      obtain ⟨b4, e4, _, wf4⟩ := DataW.trod_int Try.underlying21 (hg 4 _ rfl)
      have bd4 := bounds_i32 wf4
      simp [hC_1] at e4
      subst e4
      exact ⟨b0, b1, b2, b3, b4, rfl, bd0, bd1, bd2, bd3, bd4⟩

theorem open_word {H : Type} {enc : TypeId × Value → H} {w : World} {base b0 : Nat} {spare : Nat → Bool} {held : Bool} {r : Reach} {v : Value} {d : DataW H} {p : List MemPlace}
    (hv : Value.okWide Try.prog w r b0 79 v) (h : DataW.Trod enc Try.prog w base spare held 79 v d p) :
    ∃ (x0 : Int) (x1 : Int) (x2 : Int) (x3 : Int) (x4 : Int), v = .agg #[.int .i64 x0, .int .i64 x1, .int .i64 x2, .int .i64 x3, .int .i32 x4] ∧ (-9223372036854775808 ≤ x0 ∧ x0 ≤ 9223372036854775807) ∧ (-9223372036854775808 ≤ x1 ∧ x1 ≤ 9223372036854775807) ∧ (-9223372036854775808 ≤ x2 ∧ x2 ≤ 9223372036854775807) ∧ (-9223372036854775808 ≤ x3 ∧ x3 ≤ 9223372036854775807) ∧ (-2147483648 ≤ x4 ∧ x4 ≤ 2147483647) := by
  obtain ⟨cs, rfl, hsz⟩ := okWide_struct Try.underlying79 hv
  obtain ⟨l⟩ := cs
  obtain ⟨fuel, hf⟩ := h
  obtain ⟨b0, b1, b2, b3, b4, e, bds⟩ := cells_word hf
  have e2 : l = _ := e
  subst e2
  exact ⟨b0, b1, b2, b3, b4, rfl, bds⟩

theorem cells_arr31 {H : Type} {enc : TypeId × Value → H} {w : World} {base fuel : Nat} {spare : Nat → Bool} {held : Bool} {cs : List Value} {x : DataW H × List MemPlace}
    (hf : DataW.trod enc Try.prog w base spare held fuel 39 cs = some x) :
    ∃ (x0 : Int) (x1 : Int) (x2 : Int) (x3 : Int) (x4 : Int) (x5 : Int) (x6 : Int) (x7 : Int) (x8 : Int) (x9 : Int) (x10 : Int) (x11 : Int) (x12 : Int) (x13 : Int) (x14 : Int) (x15 : Int) (x16 : Int) (x17 : Int) (x18 : Int) (x19 : Int) (x20 : Int) (x21 : Int) (x22 : Int) (x23 : Int) (x24 : Int) (x25 : Int) (x26 : Int) (x27 : Int) (x28 : Int) (x29 : Int) (x30 : Int), cs = [.int .u32 x0, .int .u32 x1, .int .u32 x2, .int .u32 x3, .int .u32 x4, .int .u32 x5, .int .u32 x6, .int .u32 x7, .int .u32 x8, .int .u32 x9, .int .u32 x10, .int .u32 x11, .int .u32 x12, .int .u32 x13, .int .u32 x14, .int .u32 x15, .int .u32 x16, .int .u32 x17, .int .u32 x18, .int .u32 x19, .int .u32 x20, .int .u32 x21, .int .u32 x22, .int .u32 x23, .int .u32 x24, .int .u32 x25, .int .u32 x26, .int .u32 x27, .int .u32 x28, .int .u32 x29, .int .u32 x30] ∧ (0 ≤ x0 ∧ x0 ≤ 4294967295) ∧ (0 ≤ x1 ∧ x1 ≤ 4294967295) ∧ (0 ≤ x2 ∧ x2 ≤ 4294967295) ∧ (0 ≤ x3 ∧ x3 ≤ 4294967295) ∧ (0 ≤ x4 ∧ x4 ≤ 4294967295) ∧ (0 ≤ x5 ∧ x5 ≤ 4294967295) ∧ (0 ≤ x6 ∧ x6 ≤ 4294967295) ∧ (0 ≤ x7 ∧ x7 ≤ 4294967295) ∧ (0 ≤ x8 ∧ x8 ≤ 4294967295) ∧ (0 ≤ x9 ∧ x9 ≤ 4294967295) ∧ (0 ≤ x10 ∧ x10 ≤ 4294967295) ∧ (0 ≤ x11 ∧ x11 ≤ 4294967295) ∧ (0 ≤ x12 ∧ x12 ≤ 4294967295) ∧ (0 ≤ x13 ∧ x13 ≤ 4294967295) ∧ (0 ≤ x14 ∧ x14 ≤ 4294967295) ∧ (0 ≤ x15 ∧ x15 ≤ 4294967295) ∧ (0 ≤ x16 ∧ x16 ≤ 4294967295) ∧ (0 ≤ x17 ∧ x17 ≤ 4294967295) ∧ (0 ≤ x18 ∧ x18 ≤ 4294967295) ∧ (0 ≤ x19 ∧ x19 ≤ 4294967295) ∧ (0 ≤ x20 ∧ x20 ≤ 4294967295) ∧ (0 ≤ x21 ∧ x21 ≤ 4294967295) ∧ (0 ≤ x22 ∧ x22 ≤ 4294967295) ∧ (0 ≤ x23 ∧ x23 ≤ 4294967295) ∧ (0 ≤ x24 ∧ x24 ≤ 4294967295) ∧ (0 ≤ x25 ∧ x25 ≤ 4294967295) ∧ (0 ≤ x26 ∧ x26 ≤ 4294967295) ∧ (0 ≤ x27 ∧ x27 ≤ 4294967295) ∧ (0 ≤ x28 ∧ x28 ≤ 4294967295) ∧ (0 ≤ x29 ∧ x29 ≤ 4294967295) ∧ (0 ≤ x30 ∧ x30 ≤ 4294967295) := by
  have hC : Try.prog.cellsOf 39 = 31 := by kernel_rfl
  have hC_0 : Try.prog.cellsOf 22 = 1 := by kernel_rfl
  obtain ⟨xs, n, _, hx, hl, hlen, hg⟩ := DataW.trod_array Try.underlying39 hf
  match cs, hl.trans hC with
  | [c0, c1, c2, c3, c4, c5, c6, c7, c8, c9, c10, c11, c12, c13, c14, c15, c16, c17, c18, c19, c20, c21, c22, c23, c24, c25, c26, c27, c28, c29, c30], _ =>
    match xs, hlen with
    | [y0, y1, y2, y3, y4, y5, y6, y7, y8, y9, y10, y11, y12, y13, y14, y15, y16, y17, y18, y19, y20, y21, y22, y23, y24, y25, y26, y27, y28, y29, y30], _ =>
      obtain ⟨b0, e0, _, wf0⟩ := DataW.trod_int Try.underlying22 ((hg 0 (by decide)).trans rfl)
      have bd0 := bounds_u32 wf0
      simp [hC_0] at e0
      subst e0
      obtain ⟨b1, e1, _, wf1⟩ := DataW.trod_int Try.underlying22 ((hg 1 (by decide)).trans rfl)
      have bd1 := bounds_u32 wf1
      simp [hC_0] at e1
      subst e1
      obtain ⟨b2, e2, _, wf2⟩ := DataW.trod_int Try.underlying22 ((hg 2 (by decide)).trans rfl)
      have bd2 := bounds_u32 wf2
      simp [hC_0] at e2
      subst e2
      obtain ⟨b3, e3, _, wf3⟩ := DataW.trod_int Try.underlying22 ((hg 3 (by decide)).trans rfl)
      have bd3 := bounds_u32 wf3
      simp [hC_0] at e3
      subst e3
      obtain ⟨b4, e4, _, wf4⟩ := DataW.trod_int Try.underlying22 ((hg 4 (by decide)).trans rfl)
      have bd4 := bounds_u32 wf4
      simp [hC_0] at e4
      subst e4
      obtain ⟨b5, e5, _, wf5⟩ := DataW.trod_int Try.underlying22 ((hg 5 (by decide)).trans rfl)
      have bd5 := bounds_u32 wf5
      simp [hC_0] at e5
      subst e5
      obtain ⟨b6, e6, _, wf6⟩ := DataW.trod_int Try.underlying22 ((hg 6 (by decide)).trans rfl)
      have bd6 := bounds_u32 wf6
      simp [hC_0] at e6
      subst e6
      obtain ⟨b7, e7, _, wf7⟩ := DataW.trod_int Try.underlying22 ((hg 7 (by decide)).trans rfl)
      have bd7 := bounds_u32 wf7
      simp [hC_0] at e7
      subst e7
      obtain ⟨b8, e8, _, wf8⟩ := DataW.trod_int Try.underlying22 ((hg 8 (by decide)).trans rfl)
      have bd8 := bounds_u32 wf8
      simp [hC_0] at e8
      subst e8
      obtain ⟨b9, e9, _, wf9⟩ := DataW.trod_int Try.underlying22 ((hg 9 (by decide)).trans rfl)
      have bd9 := bounds_u32 wf9
      simp [hC_0] at e9
      subst e9
      obtain ⟨b10, e10, _, wf10⟩ := DataW.trod_int Try.underlying22 ((hg 10 (by decide)).trans rfl)
      have bd10 := bounds_u32 wf10
      simp [hC_0] at e10
      subst e10
      obtain ⟨b11, e11, _, wf11⟩ := DataW.trod_int Try.underlying22 ((hg 11 (by decide)).trans rfl)
      have bd11 := bounds_u32 wf11
      simp [hC_0] at e11
      subst e11
      obtain ⟨b12, e12, _, wf12⟩ := DataW.trod_int Try.underlying22 ((hg 12 (by decide)).trans rfl)
      have bd12 := bounds_u32 wf12
      simp [hC_0] at e12
      subst e12
      obtain ⟨b13, e13, _, wf13⟩ := DataW.trod_int Try.underlying22 ((hg 13 (by decide)).trans rfl)
      have bd13 := bounds_u32 wf13
      simp [hC_0] at e13
      subst e13
      obtain ⟨b14, e14, _, wf14⟩ := DataW.trod_int Try.underlying22 ((hg 14 (by decide)).trans rfl)
      have bd14 := bounds_u32 wf14
      simp [hC_0] at e14
      subst e14
      obtain ⟨b15, e15, _, wf15⟩ := DataW.trod_int Try.underlying22 ((hg 15 (by decide)).trans rfl)
      have bd15 := bounds_u32 wf15
      simp [hC_0] at e15
      subst e15
      obtain ⟨b16, e16, _, wf16⟩ := DataW.trod_int Try.underlying22 ((hg 16 (by decide)).trans rfl)
      have bd16 := bounds_u32 wf16
      simp [hC_0] at e16
      subst e16
      obtain ⟨b17, e17, _, wf17⟩ := DataW.trod_int Try.underlying22 ((hg 17 (by decide)).trans rfl)
      have bd17 := bounds_u32 wf17
      simp [hC_0] at e17
      subst e17
      obtain ⟨b18, e18, _, wf18⟩ := DataW.trod_int Try.underlying22 ((hg 18 (by decide)).trans rfl)
      have bd18 := bounds_u32 wf18
      simp [hC_0] at e18
      subst e18
      obtain ⟨b19, e19, _, wf19⟩ := DataW.trod_int Try.underlying22 ((hg 19 (by decide)).trans rfl)
      have bd19 := bounds_u32 wf19
      simp [hC_0] at e19
      subst e19
      obtain ⟨b20, e20, _, wf20⟩ := DataW.trod_int Try.underlying22 ((hg 20 (by decide)).trans rfl)
      have bd20 := bounds_u32 wf20
      simp [hC_0] at e20
      subst e20
      obtain ⟨b21, e21, _, wf21⟩ := DataW.trod_int Try.underlying22 ((hg 21 (by decide)).trans rfl)
      have bd21 := bounds_u32 wf21
      simp [hC_0] at e21
      subst e21
      obtain ⟨b22, e22, _, wf22⟩ := DataW.trod_int Try.underlying22 ((hg 22 (by decide)).trans rfl)
      have bd22 := bounds_u32 wf22
      simp [hC_0] at e22
      subst e22
      obtain ⟨b23, e23, _, wf23⟩ := DataW.trod_int Try.underlying22 ((hg 23 (by decide)).trans rfl)
      have bd23 := bounds_u32 wf23
      simp [hC_0] at e23
      subst e23
      obtain ⟨b24, e24, _, wf24⟩ := DataW.trod_int Try.underlying22 ((hg 24 (by decide)).trans rfl)
      have bd24 := bounds_u32 wf24
      simp [hC_0] at e24
      subst e24
      obtain ⟨b25, e25, _, wf25⟩ := DataW.trod_int Try.underlying22 ((hg 25 (by decide)).trans rfl)
      have bd25 := bounds_u32 wf25
      simp [hC_0] at e25
      subst e25
      obtain ⟨b26, e26, _, wf26⟩ := DataW.trod_int Try.underlying22 ((hg 26 (by decide)).trans rfl)
      have bd26 := bounds_u32 wf26
      simp [hC_0] at e26
      subst e26
      obtain ⟨b27, e27, _, wf27⟩ := DataW.trod_int Try.underlying22 ((hg 27 (by decide)).trans rfl)
      have bd27 := bounds_u32 wf27
      simp [hC_0] at e27
      subst e27
      obtain ⟨b28, e28, _, wf28⟩ := DataW.trod_int Try.underlying22 ((hg 28 (by decide)).trans rfl)
      have bd28 := bounds_u32 wf28
      simp [hC_0] at e28
      subst e28
      obtain ⟨b29, e29, _, wf29⟩ := DataW.trod_int Try.underlying22 ((hg 29 (by decide)).trans rfl)
      have bd29 := bounds_u32 wf29
      simp [hC_0] at e29
      subst e29
      obtain ⟨b30, e30, _, wf30⟩ := DataW.trod_int Try.underlying22 ((hg 30 (by decide)).trans rfl)
      have bd30 := bounds_u32 wf30
      simp [hC_0] at e30
      subst e30
      exact ⟨b0, b1, b2, b3, b4, b5, b6, b7, b8, b9, b10, b11, b12, b13, b14, b15, b16, b17, b18, b19, b20, b21, b22, b23, b24, b25, b26, b27, b28, b29, b30, rfl, bd0, bd1, bd2, bd3, bd4, bd5, bd6, bd7, bd8, bd9, bd10, bd11, bd12, bd13, bd14, bd15, bd16, bd17, bd18, bd19, bd20, bd21, bd22, bd23, bd24, bd25, bd26, bd27, bd28, bd29, bd30⟩

theorem open_arr31 {H : Type} {enc : TypeId × Value → H} {w : World} {base b0 : Nat} {spare : Nat → Bool} {held : Bool} {r : Reach} {v : Value} {d : DataW H} {p : List MemPlace}
    (hv : Value.okWide Try.prog w r b0 39 v) (h : DataW.Trod enc Try.prog w base spare held 39 v d p) :
    ∃ (x0 : Int) (x1 : Int) (x2 : Int) (x3 : Int) (x4 : Int) (x5 : Int) (x6 : Int) (x7 : Int) (x8 : Int) (x9 : Int) (x10 : Int) (x11 : Int) (x12 : Int) (x13 : Int) (x14 : Int) (x15 : Int) (x16 : Int) (x17 : Int) (x18 : Int) (x19 : Int) (x20 : Int) (x21 : Int) (x22 : Int) (x23 : Int) (x24 : Int) (x25 : Int) (x26 : Int) (x27 : Int) (x28 : Int) (x29 : Int) (x30 : Int), v = .agg #[.int .u32 x0, .int .u32 x1, .int .u32 x2, .int .u32 x3, .int .u32 x4, .int .u32 x5, .int .u32 x6, .int .u32 x7, .int .u32 x8, .int .u32 x9, .int .u32 x10, .int .u32 x11, .int .u32 x12, .int .u32 x13, .int .u32 x14, .int .u32 x15, .int .u32 x16, .int .u32 x17, .int .u32 x18, .int .u32 x19, .int .u32 x20, .int .u32 x21, .int .u32 x22, .int .u32 x23, .int .u32 x24, .int .u32 x25, .int .u32 x26, .int .u32 x27, .int .u32 x28, .int .u32 x29, .int .u32 x30] ∧ (0 ≤ x0 ∧ x0 ≤ 4294967295) ∧ (0 ≤ x1 ∧ x1 ≤ 4294967295) ∧ (0 ≤ x2 ∧ x2 ≤ 4294967295) ∧ (0 ≤ x3 ∧ x3 ≤ 4294967295) ∧ (0 ≤ x4 ∧ x4 ≤ 4294967295) ∧ (0 ≤ x5 ∧ x5 ≤ 4294967295) ∧ (0 ≤ x6 ∧ x6 ≤ 4294967295) ∧ (0 ≤ x7 ∧ x7 ≤ 4294967295) ∧ (0 ≤ x8 ∧ x8 ≤ 4294967295) ∧ (0 ≤ x9 ∧ x9 ≤ 4294967295) ∧ (0 ≤ x10 ∧ x10 ≤ 4294967295) ∧ (0 ≤ x11 ∧ x11 ≤ 4294967295) ∧ (0 ≤ x12 ∧ x12 ≤ 4294967295) ∧ (0 ≤ x13 ∧ x13 ≤ 4294967295) ∧ (0 ≤ x14 ∧ x14 ≤ 4294967295) ∧ (0 ≤ x15 ∧ x15 ≤ 4294967295) ∧ (0 ≤ x16 ∧ x16 ≤ 4294967295) ∧ (0 ≤ x17 ∧ x17 ≤ 4294967295) ∧ (0 ≤ x18 ∧ x18 ≤ 4294967295) ∧ (0 ≤ x19 ∧ x19 ≤ 4294967295) ∧ (0 ≤ x20 ∧ x20 ≤ 4294967295) ∧ (0 ≤ x21 ∧ x21 ≤ 4294967295) ∧ (0 ≤ x22 ∧ x22 ≤ 4294967295) ∧ (0 ≤ x23 ∧ x23 ≤ 4294967295) ∧ (0 ≤ x24 ∧ x24 ≤ 4294967295) ∧ (0 ≤ x25 ∧ x25 ≤ 4294967295) ∧ (0 ≤ x26 ∧ x26 ≤ 4294967295) ∧ (0 ≤ x27 ∧ x27 ≤ 4294967295) ∧ (0 ≤ x28 ∧ x28 ≤ 4294967295) ∧ (0 ≤ x29 ∧ x29 ≤ 4294967295) ∧ (0 ≤ x30 ∧ x30 ≤ 4294967295) := by
  obtain ⟨cs, rfl, hsz⟩ := okWide_array Try.underlying39 hv
  obtain ⟨l⟩ := cs
  obtain ⟨fuel, hf⟩ := h
  obtain ⟨b0, b1, b2, b3, b4, b5, b6, b7, b8, b9, b10, b11, b12, b13, b14, b15, b16, b17, b18, b19, b20, b21, b22, b23, b24, b25, b26, b27, b28, b29, b30, e, bds⟩ := cells_arr31 hf
  have e2 : l = _ := e
  subst e2
  exact ⟨b0, b1, b2, b3, b4, b5, b6, b7, b8, b9, b10, b11, b12, b13, b14, b15, b16, b17, b18, b19, b20, b21, b22, b23, b24, b25, b26, b27, b28, b29, b30, rfl, bds⟩

theorem cells_arr8 {H : Type} {enc : TypeId × Value → H} {w : World} {base fuel : Nat} {spare : Nat → Bool} {held : Bool} {cs : List Value} {x : DataW H × List MemPlace}
    (hf : DataW.trod enc Try.prog w base spare held fuel 30 cs = some x) :
    ∃ (x0 : Int) (x1 : Int) (x2 : Int) (x3 : Int) (x4 : Int) (x5 : Int) (x6 : Int) (x7 : Int), cs = [.int .u32 x0, .int .u32 x1, .int .u32 x2, .int .u32 x3, .int .u32 x4, .int .u32 x5, .int .u32 x6, .int .u32 x7] ∧ (0 ≤ x0 ∧ x0 ≤ 4294967295) ∧ (0 ≤ x1 ∧ x1 ≤ 4294967295) ∧ (0 ≤ x2 ∧ x2 ≤ 4294967295) ∧ (0 ≤ x3 ∧ x3 ≤ 4294967295) ∧ (0 ≤ x4 ∧ x4 ≤ 4294967295) ∧ (0 ≤ x5 ∧ x5 ≤ 4294967295) ∧ (0 ≤ x6 ∧ x6 ≤ 4294967295) ∧ (0 ≤ x7 ∧ x7 ≤ 4294967295) := by
  have hC : Try.prog.cellsOf 30 = 8 := by kernel_rfl
  have hC_0 : Try.prog.cellsOf 22 = 1 := by kernel_rfl
  obtain ⟨xs, n, _, hx, hl, hlen, hg⟩ := DataW.trod_array Try.underlying30 hf
  match cs, hl.trans hC with
  | [c0, c1, c2, c3, c4, c5, c6, c7], _ =>
    match xs, hlen with
    | [y0, y1, y2, y3, y4, y5, y6, y7], _ =>
      obtain ⟨b0, e0, _, wf0⟩ := DataW.trod_int Try.underlying22 ((hg 0 (by decide)).trans rfl)
      have bd0 := bounds_u32 wf0
      simp [hC_0] at e0
      subst e0
      obtain ⟨b1, e1, _, wf1⟩ := DataW.trod_int Try.underlying22 ((hg 1 (by decide)).trans rfl)
      have bd1 := bounds_u32 wf1
      simp [hC_0] at e1
      subst e1
      obtain ⟨b2, e2, _, wf2⟩ := DataW.trod_int Try.underlying22 ((hg 2 (by decide)).trans rfl)
      have bd2 := bounds_u32 wf2
      simp [hC_0] at e2
      subst e2
      obtain ⟨b3, e3, _, wf3⟩ := DataW.trod_int Try.underlying22 ((hg 3 (by decide)).trans rfl)
      have bd3 := bounds_u32 wf3
      simp [hC_0] at e3
      subst e3
      obtain ⟨b4, e4, _, wf4⟩ := DataW.trod_int Try.underlying22 ((hg 4 (by decide)).trans rfl)
      have bd4 := bounds_u32 wf4
      simp [hC_0] at e4
      subst e4
      obtain ⟨b5, e5, _, wf5⟩ := DataW.trod_int Try.underlying22 ((hg 5 (by decide)).trans rfl)
      have bd5 := bounds_u32 wf5
      simp [hC_0] at e5
      subst e5
      obtain ⟨b6, e6, _, wf6⟩ := DataW.trod_int Try.underlying22 ((hg 6 (by decide)).trans rfl)
      have bd6 := bounds_u32 wf6
      simp [hC_0] at e6
      subst e6
      obtain ⟨b7, e7, _, wf7⟩ := DataW.trod_int Try.underlying22 ((hg 7 (by decide)).trans rfl)
      have bd7 := bounds_u32 wf7
      simp [hC_0] at e7
      subst e7
      exact ⟨b0, b1, b2, b3, b4, b5, b6, b7, rfl, bd0, bd1, bd2, bd3, bd4, bd5, bd6, bd7⟩

theorem open_arr8 {H : Type} {enc : TypeId × Value → H} {w : World} {base b0 : Nat} {spare : Nat → Bool} {held : Bool} {r : Reach} {v : Value} {d : DataW H} {p : List MemPlace}
    (hv : Value.okWide Try.prog w r b0 30 v) (h : DataW.Trod enc Try.prog w base spare held 30 v d p) :
    ∃ (x0 : Int) (x1 : Int) (x2 : Int) (x3 : Int) (x4 : Int) (x5 : Int) (x6 : Int) (x7 : Int), v = .agg #[.int .u32 x0, .int .u32 x1, .int .u32 x2, .int .u32 x3, .int .u32 x4, .int .u32 x5, .int .u32 x6, .int .u32 x7] ∧ (0 ≤ x0 ∧ x0 ≤ 4294967295) ∧ (0 ≤ x1 ∧ x1 ≤ 4294967295) ∧ (0 ≤ x2 ∧ x2 ≤ 4294967295) ∧ (0 ≤ x3 ∧ x3 ≤ 4294967295) ∧ (0 ≤ x4 ∧ x4 ≤ 4294967295) ∧ (0 ≤ x5 ∧ x5 ≤ 4294967295) ∧ (0 ≤ x6 ∧ x6 ≤ 4294967295) ∧ (0 ≤ x7 ∧ x7 ≤ 4294967295) := by
  obtain ⟨cs, rfl, hsz⟩ := okWide_array Try.underlying30 hv
  obtain ⟨l⟩ := cs
  obtain ⟨fuel, hf⟩ := h
  obtain ⟨b0, b1, b2, b3, b4, b5, b6, b7, e, bds⟩ := cells_arr8 hf
  have e2 : l = _ := e
  subst e2
  exact ⟨b0, b1, b2, b3, b4, b5, b6, b7, rfl, bds⟩

theorem cells_state {H : Type} {enc : TypeId × Value → H} {w : World} {base fuel : Nat} {spare : Nat → Bool} {held : Bool} {cs : List Value} {x : DataW H × List MemPlace}
    (hf : DataW.trod enc Try.prog w base spare held fuel 33 cs = some x) :
    ∃ (x0 : Int) (x1 : Int) (x2 : Int) (x3 : Int) (x4 : Int) (x5 : Int) (x6 : Int) (x7 : Int) (x8 : Int) (x9 : Bool) (x10 : Bool) (x11 : Bool) (x12 : Bool) (x13 : Bool) (x14 : Bool) (x15 : Bool) (x16 : Int), cs = [.int .u32 x0, .int .u32 x1, .int .u32 x2, .int .u32 x3, .int .u32 x4, .int .u32 x5, .int .u32 x6, .int .u32 x7, .int .u32 x8, .bool x9, .bool x10, .bool x11, .bool x12, .bool x13, .bool x14, .bool x15, .int .u64 x16] ∧ (0 ≤ x0 ∧ x0 ≤ 4294967295) ∧ (0 ≤ x1 ∧ x1 ≤ 4294967295) ∧ (0 ≤ x2 ∧ x2 ≤ 4294967295) ∧ (0 ≤ x3 ∧ x3 ≤ 4294967295) ∧ (0 ≤ x4 ∧ x4 ≤ 4294967295) ∧ (0 ≤ x5 ∧ x5 ≤ 4294967295) ∧ (0 ≤ x6 ∧ x6 ≤ 4294967295) ∧ (0 ≤ x7 ∧ x7 ≤ 4294967295) ∧ (0 ≤ x8 ∧ x8 ≤ 4294967295) ∧ (0 ≤ x16 ∧ x16 ≤ 18446744073709551615) := by
  have hC : Try.prog.cellsOf 33 = 17 := by kernel_rfl
  have hC_0 : Try.prog.cellsOf 30 = 8 := by kernel_rfl
  have hC_1 : Try.prog.cellsOf 22 = 1 := by kernel_rfl
  have hC_2 : Try.prog.cellsOf 24 = 6 := by kernel_rfl
  have hC_3 : Try.prog.cellsOf 4 = 1 := by kernel_rfl
  have hC_4 : Try.prog.cellsOf 31 = 1 := by kernel_rfl
  obtain ⟨xs, n, _, hx, hl, hlen, hg⟩ := DataW.trod_struct Try.underlying33 hf
  match cs, hl.trans hC with
  | [c0, c1, c2, c3, c4, c5, c6, c7, c8, c9, c10, c11, c12, c13, c14, c15, c16], _ =>
    match xs, hlen with
    | [y0, y1, y2, y3, y4], _ =>
      obtain ⟨b0, b1, b2, b3, b4, b5, b6, b7, e0, bd0, bd1, bd2, bd3, bd4, bd5, bd6, bd7⟩ := cells_arr8 (hg 0 _ rfl)
      simp [hC_0] at e0
      obtain ⟨rfl, rfl, rfl, rfl, rfl, rfl, rfl, rfl⟩ := e0
      obtain ⟨b8, e1, _, wf1⟩ := DataW.trod_int Try.underlying22 (hg 1 _ rfl)
      have bd8 := bounds_u32 wf1
      simp [hC_1] at e1
      subst e1
      obtain ⟨b9, b10, b11, b12, b13, b14, e2⟩ := cells_flags (hg 2 _ rfl)
      simp [hC_2] at e2
      obtain ⟨rfl, rfl, rfl, rfl, rfl, rfl⟩ := e2
      obtain ⟨b15, e3, _⟩ := DataW.trod_bool Try.underlying4 (hg 3 _ rfl)
      simp [hC_3] at e3
      subst e3
      obtain ⟨b16, e4, _, wf4⟩ := DataW.trod_int Try.underlying31 (hg 4 _ rfl)
      have bd16 := bounds_u64 wf4
      simp [hC_4] at e4
      subst e4
      exact ⟨b0, b1, b2, b3, b4, b5, b6, b7, b8, b9, b10, b11, b12, b13, b14, b15, b16, rfl, bd0, bd1, bd2, bd3, bd4, bd5, bd6, bd7, bd8, bd16⟩

theorem open_state {H : Type} {enc : TypeId × Value → H} {w : World} {base b0 : Nat} {spare : Nat → Bool} {held : Bool} {r : Reach} {v : Value} {d : DataW H} {p : List MemPlace}
    (hv : Value.okWide Try.prog w r b0 33 v) (h : DataW.Trod enc Try.prog w base spare held 33 v d p) :
    ∃ (x0 : Int) (x1 : Int) (x2 : Int) (x3 : Int) (x4 : Int) (x5 : Int) (x6 : Int) (x7 : Int) (x8 : Int) (x9 : Bool) (x10 : Bool) (x11 : Bool) (x12 : Bool) (x13 : Bool) (x14 : Bool) (x15 : Bool) (x16 : Int), v = .agg #[.int .u32 x0, .int .u32 x1, .int .u32 x2, .int .u32 x3, .int .u32 x4, .int .u32 x5, .int .u32 x6, .int .u32 x7, .int .u32 x8, .bool x9, .bool x10, .bool x11, .bool x12, .bool x13, .bool x14, .bool x15, .int .u64 x16] ∧ (0 ≤ x0 ∧ x0 ≤ 4294967295) ∧ (0 ≤ x1 ∧ x1 ≤ 4294967295) ∧ (0 ≤ x2 ∧ x2 ≤ 4294967295) ∧ (0 ≤ x3 ∧ x3 ≤ 4294967295) ∧ (0 ≤ x4 ∧ x4 ≤ 4294967295) ∧ (0 ≤ x5 ∧ x5 ≤ 4294967295) ∧ (0 ≤ x6 ∧ x6 ≤ 4294967295) ∧ (0 ≤ x7 ∧ x7 ≤ 4294967295) ∧ (0 ≤ x8 ∧ x8 ≤ 4294967295) ∧ (0 ≤ x16 ∧ x16 ≤ 18446744073709551615) := by
  obtain ⟨cs, rfl, hsz⟩ := okWide_struct Try.underlying33 hv
  obtain ⟨l⟩ := cs
  obtain ⟨fuel, hf⟩ := h
  obtain ⟨b0, b1, b2, b3, b4, b5, b6, b7, b8, b9, b10, b11, b12, b13, b14, b15, b16, e, bds⟩ := cells_state hf
  have e2 : l = _ := e
  subst e2
  exact ⟨b0, b1, b2, b3, b4, b5, b6, b7, b8, b9, b10, b11, b12, b13, b14, b15, b16, rfl, bds⟩

theorem cell_spot {w : World} {a : Addr} {v : Value} (h : w.cell? a = some v) : a.spot = none ∧ a.block < w.heap.size := by
  unfold World.cell? at h
  split at h
  · rename_i c e fr hb
    refine ⟨?_, ?_⟩
    · by_cases hs : a.spot.isSome
      · rw [if_pos hs] at h; cases h
      · simpa using hs
    · rcases Nat.lt_or_ge a.block w.heap.size with h' | h'
      · exact h'
      · rw [Array.getElem?_eq_none h'] at hb; cases hb
  · cases h

theorem open_intsAt {H : Type} {enc : TypeId × Value → H} {P : Program} {w : World} {base b0 : Nat} {spare : Nat → Bool} {held : Bool} {r : Reach} {v : Value} {d : DataW H} {p : List MemPlace} {T E : TypeId} {k : IntKind}
    (ht : P.underlying T = some (.slice E)) (he : P.underlying E = some (.int k)) (hc : P.cellsOf E = 1)
    (hv : Value.okWide P w r b0 T v) (h : DataW.Trod enc P w base spare held T v d p) :
    ∃ ws : List Int, (∃ a cap, v = .slice a ws.length cap ∧ ∀ i, i < ws.length → ∃ b o, a = some ⟨b, o, none⟩ ∧ b < w.heap.size ∧ w.cell? ⟨b, o + i, none⟩ = some (.int k (ws.getD i 0))) ∧ ∀ x ∈ ws, (Lit.int k x).wf = true := by
  obtain ⟨a0, len, cap, rfl⟩ := okWide_slice ht hv
  obtain ⟨fuel, hf⟩ := h
  rcases open_ints ht he hc hf with ⟨hcs, hx⟩ | ⟨a, len', cap', zs, hcs, _, hle, hmax, hall, hx, hcell, hwf⟩
  · simp [Value.cells] at hcs
    obtain ⟨rfl, rfl, rfl⟩ := hcs
    exact ⟨[], ⟨none, 0, rfl, fun i hi => absurd hi (Nat.not_lt_zero _)⟩, fun x hx => by cases hx⟩
  · simp [Value.cells] at hcs
    obtain ⟨rfl, rfl, rfl⟩ := hcs
    have hlz : len ≤ zs.length := by rw [hall]; split <;> omega
    have hlen : (zs.take len).length = len := by rw [List.length_take]; omega
    have key : ∀ i, i < len → ∃ b o, some a = some ⟨b, o, none⟩ ∧ b < w.heap.size ∧ w.cell? ⟨b, o + i, none⟩ = some (.int k ((zs.take len).getD i 0)) := by
      intro i hi
      have h0 := hcell 0 (by omega)
      rw [show a.add 0 = a from rfl] at h0
      obtain ⟨hs, hb⟩ := cell_spot h0
      obtain ⟨b, o, sp⟩ := a
      have hs' : sp = none := hs
      subst hs'
      refine ⟨b, o, rfl, hb, ?_⟩
      have h1 := hcell i (by omega)
      rw [Addr.add_lit] at h1
      rw [h1, List.getD_eq_getElem?_getD, List.getD_eq_getElem?_getD, List.getElem?_take, if_pos hi]
    refine ⟨zs.take len, ⟨some a, cap, by rw [hlen], fun i hi => key i (by rw [hlen] at hi; exact hi)⟩, fun x hx => hwf x (List.mem_of_mem_take hx)⟩

theorem open_u32s {H : Type} {enc : TypeId × Value → H} {w : World} {base b0 : Nat} {spare : Nat → Bool} {held : Bool} {r : Reach} {v : Value} {d : DataW H} {p : List MemPlace}
    (hv : Value.okWide Try.prog w r b0 40 v) (h : DataW.Trod enc Try.prog w base spare held 40 v d p) :
    ∃ ws : List Int, ∃ a cap, v = .slice a ws.length cap ∧ (∀ i, i < ws.length → ∃ b o, a = some ⟨b, o, none⟩ ∧ b < w.heap.size ∧ w.cell? ⟨b, o + i, none⟩ = some (.int .u32 (ws.getD i 0))) ∧ ∀ x ∈ ws, 0 ≤ x ∧ x ≤ 4294967295 := by
  obtain ⟨ws, ⟨a, cap, e, hc⟩, hw⟩ := open_intsAt Try.underlying40 Try.underlying22 (by kernel_rfl) hv h
  exact ⟨ws, a, cap, e, hc, fun x hx => bounds_u32 (hw x hx)⟩

theorem open_u8s {H : Type} {enc : TypeId × Value → H} {w : World} {base b0 : Nat} {spare : Nat → Bool} {held : Bool} {r : Reach} {v : Value} {d : DataW H} {p : List MemPlace}
    (hv : Value.okWide Try.prog w r b0 34 v) (h : DataW.Trod enc Try.prog w base spare held 34 v d p) :
    ∃ ws : List Int, ∃ a cap, v = .slice a ws.length cap ∧ (∀ i, i < ws.length → ∃ b o, a = some ⟨b, o, none⟩ ∧ b < w.heap.size ∧ w.cell? ⟨b, o + i, none⟩ = some (.int .u8 (ws.getD i 0))) ∧ ∀ x ∈ ws, 0 ≤ x ∧ x ≤ 255 := by
  obtain ⟨ws, ⟨a, cap, e, hc⟩, hw⟩ := open_intsAt Try.underlying34 Try.underlying5 (by kernel_rfl) hv h
  exact ⟨ws, a, cap, e, hc, fun x hx => bounds_u8 (hw x hx)⟩

end Go.Proofs.Ytndfcpkmchjncaa
