/-
  Blocks that are known whole, what a call may have turned, and what a host is. Over any program.
-/
import Derived.Test.YtndfcpkmchjncaaBitsWord
import Derived.Deep.Quiet
namespace Go.Proofs.Ytndfcpkmchjncaa
open Go Go.RowKit
set_option linter.unusedVariables false

/-! ### Rows -/
def arrOf (n : Nat) (f : Nat → Value) : Array Value := Array.ofFn (n := n) (fun i => f i.val)
theorem arrOf_size (n : Nat) (f : Nat → Value) : (arrOf n f).size = n := by simp [arrOf]
theorem arrOf_get {n i : Nat} (f : Nat → Value) (h : i < n) : (arrOf n f)[i]? = some (f i) := by simp [arrOf, h]
theorem arrOf_ext {n : Nat} {f g : Nat → Value} (h : ∀ i, i < n → f i = g i) : arrOf n f = arrOf n g := by
  apply Array.ext
  · simp [arrOf_size]
  · intro i h1 h2
    simp only [arrOf_size] at h1
    simp [arrOf, h i h1]
def upd {α : Type} (f : Nat → α) (i : Nat) (v : α) : Nat → α := fun j => if j = i then v else f j
theorem upd_at {α : Type} (f : Nat → α) (i : Nat) (v : α) : upd f i v i = v := by simp [upd]
theorem upd_ne {α : Type} (f : Nat → α) {i j : Nat} (v : α) (h : j ≠ i) : upd f i v j = f j := by simp [upd, h]
theorem arrOf_set (n : Nat) (f : Nat → Value) (i : Nat) (v : Value) : (arrOf n f).setIfInBounds i v = arrOf n (upd f i v) := by
  apply Array.ext
  · simp [arrOf_size]
  · intro j h1 h2
    have hj : j < n := by simpa [arrOf_size] using h2
    have e1 : (arrOf n f)[j]'(by simpa [arrOf_size] using hj) = f j := by simp [arrOf]
    have e2 : (arrOf n (upd f i v))[j] = upd f i v j := by simp [arrOf]
    rw [e2, Array.getElem_setIfInBounds (by simpa [arrOf_size] using hj)]
    unfold upd
    by_cases h : i = j
    · simp [h]
    · simp [h, e1, Ne.symm h]

/-- block b of w is known whole -/
structure Blk (w : World) (b n : Nat) (T : TypeId) (f : Nat → Value) : Prop where
  blk : w.heap[b]? = some (.cells (arrOf n f) T (0, 0))

section
variable {w w' : World} {b n : Nat} {T : TypeId} {f g : Nat → Value}
theorem Blk.lt (h : Blk w b n T f) : b < w.heap.size := by
  rcases Nat.lt_or_ge b w.heap.size with h' | h'
  · exact h'
  · have := h.blk; rw [Array.getElem?_eq_none h'] at this; cases this
theorem Blk.cell (h : Blk w b n T f) {i : Nat} (hi : i < n) : w.cell? ⟨b, i, none⟩ = some (f i) := by
  simp [World.cell?, h.blk, arrOf_get f hi]
theorem Blk.free (h : Blk w b n T f) (i : Nat) : w.frozen? ⟨b, i, none⟩ = false := by
  simp [World.frozen?, h.blk]
theorem Blk.ext (h : Blk w b n T f) (e : ∀ i, i < n → f i = g i) : Blk w b n T g := ⟨by rw [h.blk, arrOf_ext e]⟩
theorem Blk.set (h : Blk w b n T f) (i : Nat) (v : Value) : Blk (w.setCell ⟨b, i, none⟩ v) b n T (upd f i v) := by
  constructor
  simp only [World.setCell, Array.getElem?_modify, ↓reduceIte, h.blk, Option.map_some, Option.isSome_none, Bool.false_eq_true, arrOf_set]
theorem Blk.other (h : Blk w b n T f) {a : Addr} (ha : a.block ≠ b) (v : Value) : Blk (w.setCell a v) b n T f :=
  ⟨by rw [Below.heap_setCell _ _ _ _ (Ne.symm ha)]; exact h.blk⟩
theorem Blk.alloc (h : Blk w b n T f) (o : Obj) : Blk (w.alloc o) b n T f := ⟨by rw [Below.heap_alloc _ _ _ h.lt]; exact h.blk⟩
theorem Blk.drew (h : Blk w b n T f) : Blk w.drew b n T f := ⟨h.blk⟩
theorem Blk.drewN (h : Blk w b n T f) (k : Nat) : Blk (w.drewN k) b n T f := ⟨h.blk⟩
theorem Blk.new (w : World) (n : Nat) (T : TypeId) (f : Nat → Value) : Blk (w.alloc (.cells (arrOf n f) T)) w.heap.size n T f := ⟨heap_alloc_new _ _⟩
theorem Blk.rowOther (h : Blk w b n T f) {g' : Nat} (hg : g' ≠ b) (c : Array Value) : Blk (w.setRow g' c) b n T f := ⟨by unfold World.setRow; simp only [Array.getElem?_modify]; rw [if_neg hg]; exact h.blk⟩
theorem Blk.row (h : Blk w b n T f) {c : Array Value} (e : c = arrOf n g) : Blk (w.setRow b c) b n T g := ⟨by rw [setRow_heap w b _ c T _ h.blk, e]⟩
end

/-! ### What a call may have turned -/
structure Turn (p : Nat → Prop) (w w' : World) : Prop where
  os : w'.os = w.os
  tape : w'.tape = w.tape
  output : w'.output = w.output
  size : w.heap.size ≤ w'.heap.size
  block : ∀ k, k < w.heap.size → ¬ p k → w'.heap[k]? = w.heap[k]?

section
variable {p q : Nat → Prop} {w w1 w2 : World}
theorem Turn.refl (p : Nat → Prop) (w : World) : Turn p w w := ⟨rfl, rfl, rfl, Nat.le_refl _, fun _ _ _ => rfl⟩
theorem Turn.trans (h : Turn p w w1) (k : Turn p w1 w2) : Turn p w w2 :=
  ⟨k.os.trans h.os, k.tape.trans h.tape, k.output.trans h.output, Nat.le_trans h.size k.size, fun i hi hp => (k.block i (Nat.lt_of_lt_of_le hi h.size) hp).trans (h.block i hi hp)⟩
theorem Turn.mono (h : Turn p w w1) (hq : ∀ k, k < w.heap.size → p k → q k) : Turn q w w1 := ⟨h.os, h.tape, h.output, h.size, fun k hk hn => h.block k hk (fun hp => hn (hq k hk hp))⟩
theorem Turn.of_below (h : Below w.heap.size w w1) : Turn p w w1 := ⟨h.os, h.tape, h.output, h.size, fun k hk _ => h.block k hk⟩
theorem Turn.below {B : Nat} (h : Turn p w w1) (hB : B ≤ w.heap.size) (hp : ∀ k, k < w.heap.size → p k → B ≤ k) : Below B w w1 :=
  ⟨h.os, h.tape, h.output, h.size, fun k hk => h.block k (by omega) (fun hpk => by have := hp k (by omega) hpk; omega)⟩
theorem Turn.alloc (h : Turn p w w1) (o : Obj) : Turn p w (w1.alloc o) := h.trans (Turn.of_below ((Below.refl _ _).alloc (Nat.le_refl _) o))
theorem Turn.drew (h : Turn p w w1) : Turn p w w1.drew := ⟨h.os, h.tape, h.output, h.size, h.block⟩
theorem Turn.drewN (h : Turn p w w1) (k : Nat) : Turn p w (w1.drewN k) := ⟨h.os, h.tape, h.output, h.size, h.block⟩
theorem Turn.set (h : Turn p w w1) {a : Addr} (ha : p a.block) (v : Value) : Turn p w (w1.setCell a v) :=
  h.trans ⟨rfl, rfl, rfl, by simp, fun k hk hn => Below.heap_setCell _ _ _ _ (fun e => hn (e ▸ ha))⟩
/-- a store into a block that is newer than w -/
theorem Turn.setNew (h : Turn p w w1) {a : Addr} (ha : w.heap.size ≤ a.block) (v : Value) : Turn p w (w1.setCell a v) :=
  ⟨h.os, h.tape, h.output, by simpa using h.size, fun k hk hn => by rw [Below.heap_setCell _ _ _ _ (by omega)]; exact h.block k hk hn⟩
theorem Turn.row (h : Turn p w w1) {g : Nat} (hg : p g) (c : Array Value) : Turn p w (w1.setRow g c) :=
  h.trans ⟨rfl, rfl, rfl, by simp [World.setRow], fun k hk hn => by
    show (w1.setRow g c).heap[k]? = _
    unfold World.setRow
    simp only [Array.getElem?_modify]
    rw [if_neg (fun e => hn (by rw [← e]; exact hg))]⟩
theorem Turn.cell (h : Turn p w w1) {b i : Nat} (hb : b < w.heap.size) (hp : ¬ p b) : w1.cell? ⟨b, i, none⟩ = w.cell? ⟨b, i, none⟩ := World.cell?_of_block (w := w) (h.block b hb hp)
theorem Turn.frozen (h : Turn p w w1) {b i : Nat} (hb : b < w.heap.size) (hp : ¬ p b) : w1.frozen? ⟨b, i, none⟩ = w.frozen? ⟨b, i, none⟩ := World.frozen?_of_block (w := w) (h.block b hb hp)
theorem Blk.keep {b n : Nat} {T : TypeId} {f : Nat → Value} (h : Turn p w w1) (k : Blk w b n T f) (hp : ¬ p b) : Blk w1 b n T f := ⟨by rw [h.block b k.lt hp]; exact k.blk⟩
end

/-- a word of the host in a block -/
structure W5 (w : World) (b : Nat) (op d a c n : Int) : Prop where
  k0 : w.cell? ⟨b, 0, none⟩ = some (.int .i64 op)
  k1 : w.cell? ⟨b, 1, none⟩ = some (.int .i64 d)
  k2 : w.cell? ⟨b, 2, none⟩ = some (.int .i64 a)
  k3 : w.cell? ⟨b, 3, none⟩ = some (.int .i64 c)
  k4 : w.cell? ⟨b, 4, none⟩ = some (.int .i32 n)
theorem W5.new {w W : World} {T : TypeId} {op d a c n : Int} (h : W = w.alloc (.cells #[.int .i64 op, .int .i64 d, .int .i64 a, .int .i64 c, .int .i32 n] T)) : W5 W w.heap.size op d a c n := by
  subst h
  constructor <;> rw [World.cell?_alloc_new] <;> rfl

theorem W5.drewN {w : World} {b : Nat} {op d a c n : Int} (h : W5 w b op d a c n) (k : Nat) : W5 (w.drewN k) b op d a c n := ⟨h.k0, h.k1, h.k2, h.k3, h.k4⟩

/-! ### Hosts -/
/-- registers, bytes, the place, the place of the last trap -/
structure HS where
  x : Nat → Int
  m : Nat → Int
  pc : Int
  why : Int

def memF (m : Nat → Int) (i : Nat) : Value := .int .u8 (m i)
/-- a memory, and what lies behind it in its array -/
def memT (m : Nat → Int) (t : Nat → Value) (i : Nat) : Value := if i < 32768 then .int .u8 (m i) else t i
def hostF (S : HS) (mb cap i : Nat) : Value := if i < 32 then .int .u32 (S.x i) else if i = 32 then .slice (some ⟨mb, 0, none⟩) 32768 cap else if i = 33 then .int .u32 S.pc else .int .u32 S.why
def refF (S : HS) (mb i : Nat) : Value := if i < 32 then .int .u32 (S.x i) else if i = 32 then .int .u32 S.pc else if i = 33 then .slice (some ⟨mb, 0, none⟩) 32768 32768 else .int .u32 S.why

structure Good (S : HS) : Prop where
  zero : S.x 0 = 0
  x : ∀ i, 0 ≤ S.x i ∧ S.x i ≤ 4294967295
  m : ∀ i, 0 ≤ S.m i ∧ S.m i ≤ 255
  pc : 0 ≤ S.pc ∧ S.pc ≤ 4294967295
  why : 0 ≤ S.why ∧ S.why ≤ 4294967295

def Own (hb mb : Nat) (k : Nat) : Prop := k = hb ∨ k = mb

def getX (S : HS) (i : Int) : Int := if 1 ≤ i ∧ i < 32 then S.x i.toNat else 0
def HS.put (S : HS) (i : Nat) (v : Int) : HS := { S with x := upd S.x i v }
def putX (S : HS) (i v : Int) : HS := if 1 ≤ i ∧ i < 32 then S.put i.toNat v else S
def HS.setPC (S : HS) (v : Int) : HS := { S with pc := v }
def HS.setWhy (S : HS) (v : Int) : HS := { S with why := v }
def HS.setM (S : HS) (m : Nat → Int) : HS := { S with m := m }

theorem hostF_reg (S : HS) (mb cap : Nat) {i : Nat} (h : i < 32) : hostF S mb cap i = .int .u32 (S.x i) := by simp [hostF, h]
theorem refF_reg (S : HS) (mb : Nat) {i : Nat} (h : i < 32) : refF S mb i = .int .u32 (S.x i) := by simp [refF, h]

def bytesAt (m : Nat → Int) (a n : Nat) : List Int := (List.range n).map fun i => m (a + i)
/-- so many bytes as a word -/
def rdM (m : Nat → Int) (a n : Nat) : Int := wordOf (bytesAt m a n)
def wrM (m : Nat → Int) (a n : Nat) (v : Int) : Nat → Int := fun i => if a ≤ i ∧ i < a + n then v / 2 ^ (8 * (i - a)) % 256 else m i

theorem bytesAt_length (m : Nat → Int) (a n : Nat) : (bytesAt m a n).length = n := by simp [bytesAt]
theorem bytesAt_get (m : Nat → Int) (a n : Nat) {i : Nat} (h : i < n) : (bytesAt m a n).getD i 0 = m (a + i) := by
  rw [List.getD_eq_getElem?_getD, bytesAt, List.getElem?_map, List.getElem?_range h]; rfl
theorem bytesAt_bd {m : Nat → Int} (h : ∀ i, 0 ≤ m i ∧ m i ≤ 255) (a n : Nat) : ∀ x ∈ bytesAt m a n, 0 ≤ x ∧ x < 256 := by
  intro x hx
  obtain ⟨i, _, rfl⟩ := List.mem_map.1 hx
  have := h (a + i); omega
theorem rdM_bd {m : Nat → Int} (h : ∀ i, 0 ≤ m i ∧ m i ≤ 255) (a n : Nat) : 0 ≤ rdM m a n ∧ rdM m a n < 4294967296 := wordOf_bd (bytesAt_bd h a n)
theorem wrM_bd {m : Nat → Int} (h : ∀ i, 0 ≤ m i ∧ m i ≤ 255) (a n : Nat) (v : Int) (i : Nat) : 0 ≤ wrM m a n v i ∧ wrM m a n v i ≤ 255 := by
  unfold wrM; split
  · have h1 := Int.emod_nonneg (v / 2 ^ (8 * (i - a))) (show (256 : Int) ≠ 0 by decide)
    have h2 := Int.emod_lt_of_pos (v / 2 ^ (8 * (i - a))) (show (0 : Int) < 256 by decide)
    omega
  · exact h i

theorem Good.put {S : HS} (h : Good S) {i : Nat} (hi : i ≠ 0) {v : Int} (hv : 0 ≤ v ∧ v ≤ 4294967295) : Good (S.put i v) :=
  ⟨by show upd S.x i v 0 = 0; rw [upd_ne _ _ (Ne.symm hi)]; exact h.zero, fun j => by show 0 ≤ upd S.x i v j ∧ upd S.x i v j ≤ _; unfold upd; split; exact hv; exact h.x j, h.m, h.pc, h.why⟩
theorem Good.putX {S : HS} (h : Good S) (i : Int) {v : Int} (hv : 0 ≤ v ∧ v ≤ 4294967295) : Good (putX S i v) := by
  unfold Go.Proofs.Ytndfcpkmchjncaa.putX; split
  · exact h.put (by omega) hv
  · exact h
theorem Good.setPC {S : HS} (h : Good S) {v : Int} (hv : 0 ≤ v ∧ v ≤ 4294967295) : Good (S.setPC v) := ⟨h.zero, h.x, h.m, hv, h.why⟩
theorem Good.setWhy {S : HS} (h : Good S) {v : Int} (hv : 0 ≤ v ∧ v ≤ 4294967295) : Good (S.setWhy v) := ⟨h.zero, h.x, h.m, h.pc, hv⟩
theorem Good.wr {S : HS} (h : Good S) (a n : Nat) (v : Int) : Good (S.setM (wrM S.m a n v)) := ⟨h.zero, h.x, wrM_bd h.m a n v, h.pc, h.why⟩
theorem getX_bd {S : HS} (h : Good S) (i : Int) : 0 ≤ getX S i ∧ getX S i ≤ 4294967295 := by
  unfold getX; split
  · exact h.x _
  · decide

/-- how much a host's memory's array holds; what lies behind the memory -/
def capOf (w : World) (hb : Nat) : Nat := match w.cell? ⟨hb, 32, none⟩ with
  | some (.slice _ _ c) => c
  | _ => 0
def tailOf (w : World) (mb i : Nat) : Value := (w.cell? ⟨mb, i, none⟩).getD undef

/-- a host of the program: its block, its memory -/
structure HostAt (w : World) (hb mb : Nat) (S : HS) : Prop where
  ne : hb ≠ mb
  ge : 32768 ≤ capOf w hb
  h : Blk w hb 35 99 (hostF S mb (capOf w hb))
  m : Blk w mb (capOf w hb) 5 (memT S.m (tailOf w mb))

section
variable {w w' : World} {hb mb : Nat} {S : HS}
theorem HostAt.mk' {c : Nat} {t : Nat → Value} (ne : hb ≠ mb) (ge : 32768 ≤ c) (h : Blk w hb 35 99 (hostF S mb c)) (m : Blk w mb c 5 (memT S.m t)) : HostAt w hb mb S := by
  have e : capOf w hb = c := by
    unfold capOf
    rw [h.cell (i := 32) (by decide)]
    rfl
  refine ⟨ne, by rw [e]; exact ge, by rw [e]; exact h, ?_⟩
  rw [e]
  refine m.ext fun i hi => ?_
  unfold memT tailOf
  by_cases hlt : i < 32768
  · rw [if_pos hlt, if_pos hlt]
  · rw [if_neg hlt, if_neg hlt, m.cell hi]
    unfold memT
    rw [if_neg hlt]; rfl
theorem HostAt.keep {p : Nat → Prop} (k : HostAt w hb mb S) (h : Turn p w w') (h1 : ¬ p hb) (h2 : ¬ p mb) : HostAt w' hb mb S := .mk' k.ne k.ge (k.h.keep h h1) (k.m.keep h h2)
theorem HostAt.reg (k : HostAt w hb mb S) {i : Nat} (h : i < 32) : w.cell? ⟨hb, i, none⟩ = some (.int .u32 (S.x i)) := by rw [k.h.cell (by omega), hostF_reg S mb _ h]
theorem HostAt.sl (k : HostAt w hb mb S) : w.cell? ⟨hb, 32, none⟩ = some (.slice (some ⟨mb, 0, none⟩) 32768 (capOf w hb)) := k.h.cell (by decide)
theorem HostAt.pc (k : HostAt w hb mb S) : w.cell? ⟨hb, 33, none⟩ = some (.int .u32 S.pc) := k.h.cell (by decide)
theorem HostAt.why (k : HostAt w hb mb S) : w.cell? ⟨hb, 34, none⟩ = some (.int .u32 S.why) := k.h.cell (by decide)
theorem HostAt.mem (k : HostAt w hb mb S) (i : Nat) (hi : i < 32768) : w.cell? ⟨mb, i, none⟩ = some (.int .u8 (S.m i)) := by
  rw [k.m.cell (Nat.lt_of_lt_of_le hi k.ge)]; unfold memT; rw [if_pos hi]
theorem HostAt.alloc (k : HostAt w hb mb S) (o : Obj) : HostAt (w.alloc o) hb mb S := .mk' k.ne k.ge (k.h.alloc o) (k.m.alloc o)
theorem HostAt.drew (k : HostAt w hb mb S) : HostAt w.drew hb mb S := .mk' k.ne k.ge k.h.drew k.m.drew
theorem HostAt.drewN (k : HostAt w hb mb S) (n : Nat) : HostAt (w.drewN n) hb mb S := .mk' k.ne k.ge (k.h.drewN n) (k.m.drewN n)
theorem HostAt.other (k : HostAt w hb mb S) {a : Addr} (h1 : a.block ≠ hb) (h2 : a.block ≠ mb) (v : Value) : HostAt (w.setCell a v) hb mb S := .mk' k.ne k.ge (k.h.other h1 v) (k.m.other h2 v)
theorem HostAt.put (k : HostAt w hb mb S) {i : Nat} (hi : i < 32) (v : Int) : HostAt (w.setCell ⟨hb, i, none⟩ (.int .u32 v)) hb mb (S.put i v) :=
  .mk' k.ne k.ge ((k.h.set i _).ext fun j hj => by
    unfold upd hostF HS.put
    by_cases e : j = i
    · subst e; simp [hi, upd]
    · simp [e, upd]) (k.m.other (a := ⟨hb, i, none⟩) k.ne _)
theorem HostAt.setPC (k : HostAt w hb mb S) (v : Int) : HostAt (w.setCell ⟨hb, 33, none⟩ (.int .u32 v)) hb mb (S.setPC v) :=
  .mk' k.ne k.ge ((k.h.set 33 _).ext fun j hj => by
    unfold upd hostF HS.setPC
    by_cases e : j = 33
    · subst e; simp
    · simp [e]) (k.m.other (a := ⟨hb, 33, none⟩) k.ne _)
theorem HostAt.setWhy (k : HostAt w hb mb S) (v : Int) : HostAt (w.setCell ⟨hb, 34, none⟩ (.int .u32 v)) hb mb (S.setWhy v) :=
  .mk' k.ne k.ge ((k.h.set 34 _).ext fun j hj => by
    unfold upd hostF HS.setWhy
    by_cases e : j = 34
    · subst e; simp
    · by_cases e2 : j < 32
      · simp [e, e2]
      · by_cases e3 : j = 32
        · simp [e3]
        · have : j = 33 := by omega
          simp [this]) (k.m.other (a := ⟨hb, 34, none⟩) k.ne _)
end

/-- a host of the document -/
structure RefAt (w : World) (hb mb : Nat) (S : HS) : Prop where
  ne : hb ≠ mb
  h : Blk w hb 35 46 (refF S mb)
  m : Blk w mb 32768 5 (memF S.m)

section
variable {w w' : World} {hb mb : Nat} {S : HS}
theorem RefAt.keep {p : Nat → Prop} (k : RefAt w hb mb S) (h : Turn p w w') (h1 : ¬ p hb) (h2 : ¬ p mb) : RefAt w' hb mb S := ⟨k.ne, k.h.keep h h1, k.m.keep h h2⟩
theorem RefAt.reg (k : RefAt w hb mb S) {i : Nat} (h : i < 32) : w.cell? ⟨hb, i, none⟩ = some (.int .u32 (S.x i)) := by rw [k.h.cell (by omega), refF_reg S mb h]
theorem RefAt.pc (k : RefAt w hb mb S) : w.cell? ⟨hb, 32, none⟩ = some (.int .u32 S.pc) := k.h.cell (by decide)
theorem RefAt.sl (k : RefAt w hb mb S) : w.cell? ⟨hb, 33, none⟩ = some (.slice (some ⟨mb, 0, none⟩) 32768 32768) := k.h.cell (by decide)
theorem RefAt.why (k : RefAt w hb mb S) : w.cell? ⟨hb, 34, none⟩ = some (.int .u32 S.why) := k.h.cell (by decide)
theorem RefAt.alloc (k : RefAt w hb mb S) (o : Obj) : RefAt (w.alloc o) hb mb S := ⟨k.ne, k.h.alloc o, k.m.alloc o⟩
theorem RefAt.drew (k : RefAt w hb mb S) : RefAt w.drew hb mb S := ⟨k.ne, k.h.drew, k.m.drew⟩
theorem RefAt.drewN (k : RefAt w hb mb S) (n : Nat) : RefAt (w.drewN n) hb mb S := ⟨k.ne, k.h.drewN n, k.m.drewN n⟩
theorem RefAt.other (k : RefAt w hb mb S) {a : Addr} (h1 : a.block ≠ hb) (h2 : a.block ≠ mb) (v : Value) : RefAt (w.setCell a v) hb mb S := ⟨k.ne, k.h.other h1 v, k.m.other h2 v⟩
theorem RefAt.put (k : RefAt w hb mb S) {i : Nat} (hi : i < 32) (v : Int) : RefAt (w.setCell ⟨hb, i, none⟩ (.int .u32 v)) hb mb (S.put i v) :=
  ⟨k.ne, (k.h.set i _).ext fun j hj => by
    unfold upd refF HS.put
    by_cases e : j = i
    · subst e; simp [hi, upd]
    · simp [e, upd], k.m.other (a := ⟨hb, i, none⟩) k.ne _⟩
theorem RefAt.setPC (k : RefAt w hb mb S) (v : Int) : RefAt (w.setCell ⟨hb, 32, none⟩ (.int .u32 v)) hb mb (S.setPC v) :=
  ⟨k.ne, (k.h.set 32 _).ext fun j hj => by
    unfold upd refF HS.setPC
    by_cases e : j = 32
    · subst e; simp
    · simp [e], k.m.other (a := ⟨hb, 32, none⟩) k.ne _⟩
theorem RefAt.setWhy (k : RefAt w hb mb S) (v : Int) : RefAt (w.setCell ⟨hb, 34, none⟩ (.int .u32 v)) hb mb (S.setWhy v) :=
  ⟨k.ne, (k.h.set 34 _).ext fun j hj => by
    unfold upd refF HS.setWhy
    by_cases e : j = 34
    · subst e; simp
    · by_cases e2 : j < 32
      · simp [e, e2]
      · by_cases e3 : j = 32
        · simp [e3]
        · have : j = 33 := by omega
          simp [this], k.m.other (a := ⟨hb, 34, none⟩) k.ne _⟩
/-- a cell of the memory -/
theorem RefAt.setByte (k : RefAt w hb mb S) (i : Nat) (v : Int) : RefAt (w.setCell ⟨mb, i, none⟩ (.int .u8 v)) hb mb (S.setM (upd S.m i v)) :=
  ⟨k.ne, k.h.other (a := ⟨mb, i, none⟩) (Ne.symm k.ne) _, (k.m.set i _).ext fun j hj => by
    unfold upd memF HS.setM
    by_cases e : j = i <;> simp [e]⟩
end

end Go.Proofs.Ytndfcpkmchjncaa
