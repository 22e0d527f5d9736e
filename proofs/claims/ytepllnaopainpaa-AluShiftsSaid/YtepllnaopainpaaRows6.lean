/- Blocks of cells that a walk carries along: 'Row w g A': block g of the world w holds the cells A. Over any program. -/
import Derived.WalkKit
import Derived.Below
namespace Go.Proofs.Ytepllnaopainpaa
open Go Go.RowKit

/-- block g of w holds (at least) the cells A -/
structure Row (w : World) (g : Nat) (A : Array Value) : Prop where
  lt : g < w.heap.size
  cell : ∀ j v, A[j]? = some v → w.cell? ⟨g, j, none⟩ = some v

theorem row_new (w : World) (A : Array Value) (t : TypeId) : Row (w.alloc (.cells A t)) w.heap.size A :=
  ⟨by simp, fun j v h => by rw [World.cell?_alloc_new]; exact h⟩
theorem row_alloc {w : World} {g : Nat} {A : Array Value} (h : Row w g A) (o : Obj) : Row (w.alloc o) g A :=
  ⟨by have := h.lt; simp; omega, fun j v hj => by rw [World.cell?_alloc_lt _ _ _ h.lt]; exact h.cell j v hj⟩
theorem row_drew {w : World} {g : Nat} {A : Array Value} (h : Row w g A) : Row w.drew g A := ⟨h.lt, h.cell⟩
theorem row_keep {w w1 : World} {g : Nat} {A : Array Value} (hb : Below w.heap.size w w1) (h : Row w g A) : Row w1 g A :=
  ⟨Nat.lt_of_lt_of_le h.lt hb.size, fun j v hj => by rw [hb.cell (p := ⟨g, j, none⟩) h.lt]; exact h.cell j v hj⟩
theorem row6 {w : World} {g : Nat} {v0 v1 v2 v3 v4 v5 : Value} (h : Row w g #[v0, v1, v2, v3, v4, v5]) :
    g < w.heap.size ∧ w.cell? ⟨g, 0, none⟩ = some v0 ∧ w.cell? ⟨g, 1, none⟩ = some v1 ∧ w.cell? ⟨g, 2, none⟩ = some v2 ∧ w.cell? ⟨g, 3, none⟩ = some v3 ∧ w.cell? ⟨g, 4, none⟩ = some v4 ∧ w.cell? ⟨g, 5, none⟩ = some v5 :=
  ⟨h.lt, h.cell 0 _ rfl, h.cell 1 _ rfl, h.cell 2 _ rfl, h.cell 3 _ rfl, h.cell 4 _ rfl, h.cell 5 _ rfl⟩

/-- 'Below' as a chain from the first world on: no side conditions -/
theorem below_refl (w : World) : Below w.heap.size w w := Below.refl _ _
theorem below_alloc {a w : World} (h : Below a.heap.size a w) (o : Obj) : Below a.heap.size a (w.alloc o) := h.alloc h.size o
theorem below_drew {a w : World} (h : Below a.heap.size a w) : Below a.heap.size a w.drew := h.drew
theorem below_then {a w w1 : World} (h : Below a.heap.size a w) (k : Below w.heap.size w w1) : Below a.heap.size a w1 := h.trans (k.mono h.size)

end Go.Proofs.Ytepllnaopainpaa
