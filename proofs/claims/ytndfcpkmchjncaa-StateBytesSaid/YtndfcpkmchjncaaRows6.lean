/- Blocks of cells that a walk carries along: 'Row w g A': block g of the world w holds the cells A. Over any program. -/
import Derived.WalkKit
import Derived.Below
namespace Go.Proofs.Ytndfcpkmchjncaa
open Go Go.RowKit

/-- block g of w holds (at least) the cells A -/
structure Row (w : World) (g : Nat) (A : Array Value) : Prop where
  lt : g < w.heap.size
  cell : ∀ j v, A[j]? = some v → w.cell? ⟨g, j, none⟩ = some v
  free : ∀ j, w.frozen? ⟨g, j, none⟩ = false

theorem row_new (w : World) (A : Array Value) (t : TypeId) : Row (w.alloc (.cells A t)) w.heap.size A :=
  ⟨by simp, fun j v h => by rw [World.cell?_alloc_new]; exact h, fun j => World.frozen?_alloc_new _ _ _ _⟩
theorem row_at (w : World) (g : Nat) (A : Array Value) (t : TypeId) (h : g = w.heap.size) : Row (w.alloc (.cells A t)) g A := by subst h; exact row_new w A t
theorem row_alloc {w : World} {g : Nat} {A : Array Value} (h : Row w g A) (o : Obj) : Row (w.alloc o) g A :=
  ⟨by have := h.lt; simp; omega, fun j v hj => by rw [World.cell?_alloc_lt _ _ _ h.lt]; exact h.cell j v hj,
    fun j => by rw [World.frozen?_alloc_old _ _ _ (Nat.ne_of_lt h.lt)]; exact h.free j⟩
theorem row_drew {w : World} {g : Nat} {A : Array Value} (h : Row w g A) : Row w.drew g A := ⟨h.lt, h.cell, h.free⟩
theorem row_keep {w w1 : World} {g : Nat} {A : Array Value} (hb : Below w.heap.size w w1) (h : Row w g A) : Row w1 g A :=
  ⟨Nat.lt_of_lt_of_le h.lt hb.size, fun j v hj => by rw [hb.cell (p := ⟨g, j, none⟩) h.lt]; exact h.cell j v hj,
    fun j => by rw [hb.frozen (p := ⟨g, j, none⟩) h.lt]; exact h.free j⟩
theorem row6 {w : World} {g : Nat} {v0 v1 v2 v3 v4 v5 : Value} (h : Row w g #[v0, v1, v2, v3, v4, v5]) :
    g < w.heap.size ∧ w.cell? ⟨g, 0, none⟩ = some v0 ∧ w.cell? ⟨g, 1, none⟩ = some v1 ∧ w.cell? ⟨g, 2, none⟩ = some v2 ∧ w.cell? ⟨g, 3, none⟩ = some v3 ∧ w.cell? ⟨g, 4, none⟩ = some v4 ∧ w.cell? ⟨g, 5, none⟩ = some v5 :=
  ⟨h.lt, h.cell 0 _ rfl, h.cell 1 _ rfl, h.cell 2 _ rfl, h.cell 3 _ rfl, h.cell 4 _ rfl, h.cell 5 _ rfl⟩

/-- 'Below' as a chain from the first world on: no side conditions -/
theorem below_refl (w : World) : Below w.heap.size w w := Below.refl _ _
theorem below_alloc {a w : World} (h : Below a.heap.size a w) (o : Obj) : Below a.heap.size a (w.alloc o) := h.alloc h.size o
theorem below_drew {a w : World} (h : Below a.heap.size a w) : Below a.heap.size a w.drew := h.drew
theorem below_then {a w w1 : World} (h : Below a.heap.size a w) (k : Below w.heap.size w w1) : Below a.heap.size a w1 := h.trans (k.mono h.size)
theorem below_set {a w : World} (h : Below a.heap.size a w) {p : Addr} (hp : a.heap.size ≤ p.block) (v : Value) : Below a.heap.size a (w.setCell p v) := h.setCell hp v
theorem row_free6 {w : World} {g : Nat} {A : Array Value} (h : Row w g A) : w.frozen? ⟨g, 0, none⟩ = false ∧ w.frozen? ⟨g, 1, none⟩ = false ∧ w.frozen? ⟨g, 2, none⟩ = false ∧ w.frozen? ⟨g, 3, none⟩ = false ∧ w.frozen? ⟨g, 4, none⟩ = false ∧ w.frozen? ⟨g, 5, none⟩ = false :=
  ⟨h.free 0, h.free 1, h.free 2, h.free 3, h.free 4, h.free 5⟩
/-- a row while another block, or a cell beyond it, is written -/
theorem row_set {w : World} {g : Nat} {A : Array Value} (h : Row w g A) {p : Addr} (hp : p.block ≠ g) (v : Value) : Row (w.setCell p v) g A :=
  ⟨by simpa [World.setCell] using h.lt, fun j u hj => by rw [World.cell?_setCell_other _ _ _ _ (fun e => hp (by rw [e]))]; exact h.cell j u hj, fun j => by rw [World.frozen?_setCell]; exact h.free j⟩

end Go.Proofs.Ytndfcpkmchjncaa
