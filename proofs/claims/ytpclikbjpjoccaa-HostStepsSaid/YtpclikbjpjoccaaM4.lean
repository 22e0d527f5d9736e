/-
  Texts of this claim, laid together by a program: HoK HoA HoB HoR HoS HoT.
-/
import Derived.Test.YtpclikbjpjoccaaBitsWord
import Derived.Deep.Quiet
import Derived.StillTailTactics
import Derived.Test.YtpclikbjpjoccaaRef1Loops
import Derived.Laws.MakeOwn
import Derived.WalkLawsBesides
namespace Go.Proofs.Ytpclikbjpjoccaa
open Go Go.RowKit
set_option linter.unusedVariables false
def arrOf (n : Nat) (f : Nat → Value) : Array Value := Array.ofFn (n := n) (fun i => f i.val)
theorem arrOf_size (n : Nat) (f : Nat → Value) : (arrOf n f).size = n := by simp [arrOf]
theorem arrOf_get {n i : Nat} (f : Nat → Value) (h : i < n) : (arrOf n f)[i]? = some (f i) := by simp [arrOf, h]
theorem arrOf_ext {n : Nat} {f g : Nat → Value} (h : ∀ i, i < n → f i = g i) : arrOf n f = arrOf n g := by
  apply Array.ext
  · simp [arrOf_size]
  · intro i h1 h2
    simp only [arrOf_size] at h1
    simp [arrOf, h i h1]
def upd {α : Type} (f : Nat → α) (i : Nat) (v : α) : Nat → α := fun j => if j = i then v else f j
theorem upd_at {α : Type} (f : Nat → α) (i : Nat) (v : α) : upd f i v i = v := by simp [upd]
theorem upd_ne {α : Type} (f : Nat → α) {i j : Nat} (v : α) (h : j ≠ i) : upd f i v j = f j := by simp [upd, h]
theorem arrOf_set (n : Nat) (f : Nat → Value) (i : Nat) (v : Value) : (arrOf n f).setIfInBounds i v = arrOf n (upd f i v) := by
  apply Array.ext
  · simp [arrOf_size]
  · intro j h1 h2
    have hj : j < n := by simpa [arrOf_size] using h2
    have e1 : (arrOf n f)[j]'(by simpa [arrOf_size] using hj) = f j := by simp [arrOf]
    have e2 : (arrOf n (upd f i v))[j] = upd f i v j := by simp [arrOf]
    rw [e2, Array.getElem_setIfInBounds (by simpa [arrOf_size] using hj)]
    unfold upd
    by_cases h : i = j
    · simp [h]
    · simp [h, e1, Ne.symm h]
structure Blk (w : World) (b n : Nat) (T : TypeId) (f : Nat → Value) : Prop where
  blk : w.heap[b]? = some (.cells (arrOf n f) T (0, 0))
section
variable {w w' : World} {b n : Nat} {T : TypeId} {f g : Nat → Value}
theorem Blk.lt (h : Blk w b n T f) : b < w.heap.size := by
  rcases Nat.lt_or_ge b w.heap.size with h' | h'
  · exact h'
  · have := h.blk; rw [Array.getElem?_eq_none h'] at this; cases this
theorem Blk.cell (h : Blk w b n T f) {i : Nat} (hi : i < n) : w.cell? ⟨b, i, none⟩ = some (f i) := by
  simp [World.cell?, h.blk, arrOf_get f hi]
theorem Blk.free (h : Blk w b n T f) (i : Nat) : w.frozen? ⟨b, i, none⟩ = false := by
  simp [World.frozen?, h.blk]
theorem Blk.ext (h : Blk w b n T f) (e : ∀ i, i < n → f i = g i) : Blk w b n T g := ⟨by rw [h.blk, arrOf_ext e]⟩
theorem Blk.set (h : Blk w b n T f) (i : Nat) (v : Value) : Blk (w.setCell ⟨b, i, none⟩ v) b n T (upd f i v) := by
  constructor
  simp only [World.setCell, Array.getElem?_modify, ↓reduceIte, h.blk, Option.map_some, Option.isSome_none, Bool.false_eq_true, arrOf_set]
theorem Blk.other (h : Blk w b n T f) {a : Addr} (ha : a.block ≠ b) (v : Value) : Blk (w.setCell a v) b n T f :=
  ⟨by rw [Below.heap_setCell _ _ _ _ (Ne.symm ha)]; exact h.blk⟩
theorem Blk.alloc (h : Blk w b n T f) (o : Obj) : Blk (w.alloc o) b n T f := ⟨by rw [Below.heap_alloc _ _ _ h.lt]; exact h.blk⟩
theorem Blk.drew (h : Blk w b n T f) : Blk w.drew b n T f := ⟨h.blk⟩
theorem Blk.drewN (h : Blk w b n T f) (k : Nat) : Blk (w.drewN k) b n T f := ⟨h.blk⟩
theorem Blk.new (w : World) (n : Nat) (T : TypeId) (f : Nat → Value) : Blk (w.alloc (.cells (arrOf n f) T)) w.heap.size n T f := ⟨heap_alloc_new _ _⟩
theorem Blk.rowOther (h : Blk w b n T f) {g' : Nat} (hg : g' ≠ b) (c : Array Value) : Blk (w.setRow g' c) b n T f := ⟨by unfold World.setRow; simp only [Array.getElem?_modify]; rw [if_neg hg]; exact h.blk⟩
theorem Blk.row (h : Blk w b n T f) {c : Array Value} (e : c = arrOf n g) : Blk (w.setRow b c) b n T g := ⟨by rw [setRow_heap w b _ c T _ h.blk, e]⟩
end
structure Turn (p : Nat → Prop) (w w' : World) : Prop where
  os : w'.os = w.os
  tape : w'.tape = w.tape
  output : w'.output = w.output
  size : w.heap.size ≤ w'.heap.size
  block : ∀ k, k < w.heap.size → ¬ p k → w'.heap[k]? = w.heap[k]?
section
variable {p q : Nat → Prop} {w w1 w2 : World}
theorem Turn.refl (p : Nat → Prop) (w : World) : Turn p w w := ⟨rfl, rfl, rfl, Nat.le_refl _, fun _ _ _ => rfl⟩
theorem Turn.trans (h : Turn p w w1) (k : Turn p w1 w2) : Turn p w w2 :=
  ⟨k.os.trans h.os, k.tape.trans h.tape, k.output.trans h.output, Nat.le_trans h.size k.size, fun i hi hp => (k.block i (Nat.lt_of_lt_of_le hi h.size) hp).trans (h.block i hi hp)⟩
theorem Turn.mono (h : Turn p w w1) (hq : ∀ k, k < w.heap.size → p k → q k) : Turn q w w1 := ⟨h.os, h.tape, h.output, h.size, fun k hk hn => h.block k hk (fun hp => hn (hq k hk hp))⟩
theorem Turn.of_below (h : Below w.heap.size w w1) : Turn p w w1 := ⟨h.os, h.tape, h.output, h.size, fun k hk _ => h.block k hk⟩
theorem Turn.below {B : Nat} (h : Turn p w w1) (hB : B ≤ w.heap.size) (hp : ∀ k, k < w.heap.size → p k → B ≤ k) : Below B w w1 :=
  ⟨h.os, h.tape, h.output, h.size, fun k hk => h.block k (by omega) (fun hpk => by have := hp k (by omega) hpk; omega)⟩
theorem Turn.alloc (h : Turn p w w1) (o : Obj) : Turn p w (w1.alloc o) := h.trans (Turn.of_below ((Below.refl _ _).alloc (Nat.le_refl _) o))
theorem Turn.drew (h : Turn p w w1) : Turn p w w1.drew := ⟨h.os, h.tape, h.output, h.size, h.block⟩
theorem Turn.drewN (h : Turn p w w1) (k : Nat) : Turn p w (w1.drewN k) := ⟨h.os, h.tape, h.output, h.size, h.block⟩
theorem Turn.set (h : Turn p w w1) {a : Addr} (ha : p a.block) (v : Value) : Turn p w (w1.setCell a v) :=
  h.trans ⟨rfl, rfl, rfl, by simp, fun k hk hn => Below.heap_setCell _ _ _ _ (fun e => hn (e ▸ ha))⟩
theorem Turn.setNew (h : Turn p w w1) {a : Addr} (ha : w.heap.size ≤ a.block) (v : Value) : Turn p w (w1.setCell a v) :=
  ⟨h.os, h.tape, h.output, by simpa using h.size, fun k hk hn => by rw [Below.heap_setCell _ _ _ _ (by omega)]; exact h.block k hk hn⟩
theorem Turn.row (h : Turn p w w1) {g : Nat} (hg : p g) (c : Array Value) : Turn p w (w1.setRow g c) :=
  h.trans ⟨rfl, rfl, rfl, by simp [World.setRow], fun k hk hn => by
    show (w1.setRow g c).heap[k]? = _
    unfold World.setRow
    simp only [Array.getElem?_modify]
    rw [if_neg (fun e => hn (by rw [← e]; exact hg))]⟩
theorem Turn.cell (h : Turn p w w1) {b i : Nat} (hb : b < w.heap.size) (hp : ¬ p b) : w1.cell? ⟨b, i, none⟩ = w.cell? ⟨b, i, none⟩ := World.cell?_of_block (w := w) (h.block b hb hp)
theorem Turn.frozen (h : Turn p w w1) {b i : Nat} (hb : b < w.heap.size) (hp : ¬ p b) : w1.frozen? ⟨b, i, none⟩ = w.frozen? ⟨b, i, none⟩ := World.frozen?_of_block (w := w) (h.block b hb hp)
theorem Blk.keep {b n : Nat} {T : TypeId} {f : Nat → Value} (h : Turn p w w1) (k : Blk w b n T f) (hp : ¬ p b) : Blk w1 b n T f := ⟨by rw [h.block b k.lt hp]; exact k.blk⟩
end
structure W5 (w : World) (b : Nat) (op d a c n : Int) : Prop where
  k0 : w.cell? ⟨b, 0, none⟩ = some (.int .i64 op)
  k1 : w.cell? ⟨b, 1, none⟩ = some (.int .i64 d)
  k2 : w.cell? ⟨b, 2, none⟩ = some (.int .i64 a)
  k3 : w.cell? ⟨b, 3, none⟩ = some (.int .i64 c)
  k4 : w.cell? ⟨b, 4, none⟩ = some (.int .i32 n)
theorem W5.new {w W : World} {T : TypeId} {op d a c n : Int} (h : W = w.alloc (.cells #[.int .i64 op, .int .i64 d, .int .i64 a, .int .i64 c, .int .i32 n] T)) : W5 W w.heap.size op d a c n := by
  subst h
  constructor <;> rw [World.cell?_alloc_new] <;> rfl
theorem W5.drewN {w : World} {b : Nat} {op d a c n : Int} (h : W5 w b op d a c n) (k : Nat) : W5 (w.drewN k) b op d a c n := ⟨h.k0, h.k1, h.k2, h.k3, h.k4⟩
structure HS where
  x : Nat → Int
  m : Nat → Int
  pc : Int
  why : Int
def memF (m : Nat → Int) (i : Nat) : Value := .int .u8 (m i)
def memT (m : Nat → Int) (t : Nat → Value) (i : Nat) : Value := if i < 32768 then .int .u8 (m i) else t i
def hostF (S : HS) (mb cap i : Nat) : Value := if i < 32 then .int .u32 (S.x i) else if i = 32 then .slice (some ⟨mb, 0, none⟩) 32768 cap else if i = 33 then .int .u32 S.pc else .int .u32 S.why
def refF (S : HS) (mb i : Nat) : Value := if i < 32 then .int .u32 (S.x i) else if i = 32 then .int .u32 S.pc else if i = 33 then .slice (some ⟨mb, 0, none⟩) 32768 32768 else .int .u32 S.why
structure Good (S : HS) : Prop where
  zero : S.x 0 = 0
  x : ∀ i, 0 ≤ S.x i ∧ S.x i ≤ 4294967295
  m : ∀ i, 0 ≤ S.m i ∧ S.m i ≤ 255
  pc : 0 ≤ S.pc ∧ S.pc ≤ 4294967295
  why : 0 ≤ S.why ∧ S.why ≤ 4294967295
def Own (hb mb : Nat) (k : Nat) : Prop := k = hb ∨ k = mb
def getX (S : HS) (i : Int) : Int := if 1 ≤ i ∧ i < 32 then S.x i.toNat else 0
def HS.put (S : HS) (i : Nat) (v : Int) : HS := { S with x := upd S.x i v }
def putX (S : HS) (i v : Int) : HS := if 1 ≤ i ∧ i < 32 then S.put i.toNat v else S
def HS.setPC (S : HS) (v : Int) : HS := { S with pc := v }
def HS.setWhy (S : HS) (v : Int) : HS := { S with why := v }
def HS.setM (S : HS) (m : Nat → Int) : HS := { S with m := m }
theorem hostF_reg (S : HS) (mb cap : Nat) {i : Nat} (h : i < 32) : hostF S mb cap i = .int .u32 (S.x i) := by simp [hostF, h]
theorem refF_reg (S : HS) (mb : Nat) {i : Nat} (h : i < 32) : refF S mb i = .int .u32 (S.x i) := by simp [refF, h]
def bytesAt (m : Nat → Int) (a n : Nat) : List Int := (List.range n).map fun i => m (a + i)
def rdM (m : Nat → Int) (a n : Nat) : Int := wordOf (bytesAt m a n)
def wrM (m : Nat → Int) (a n : Nat) (v : Int) : Nat → Int := fun i => if a ≤ i ∧ i < a + n then v / 2 ^ (8 * (i - a)) % 256 else m i
theorem bytesAt_length (m : Nat → Int) (a n : Nat) : (bytesAt m a n).length = n := by simp [bytesAt]
theorem bytesAt_get (m : Nat → Int) (a n : Nat) {i : Nat} (h : i < n) : (bytesAt m a n).getD i 0 = m (a + i) := by
  rw [List.getD_eq_getElem?_getD, bytesAt, List.getElem?_map, List.getElem?_range h]; rfl
theorem bytesAt_bd {m : Nat → Int} (h : ∀ i, 0 ≤ m i ∧ m i ≤ 255) (a n : Nat) : ∀ x ∈ bytesAt m a n, 0 ≤ x ∧ x < 256 := by
  intro x hx
  obtain ⟨i, _, rfl⟩ := List.mem_map.1 hx
  have := h (a + i); omega
theorem rdM_bd {m : Nat → Int} (h : ∀ i, 0 ≤ m i ∧ m i ≤ 255) (a n : Nat) : 0 ≤ rdM m a n ∧ rdM m a n < 4294967296 := wordOf_bd (bytesAt_bd h a n)
theorem wrM_bd {m : Nat → Int} (h : ∀ i, 0 ≤ m i ∧ m i ≤ 255) (a n : Nat) (v : Int) (i : Nat) : 0 ≤ wrM m a n v i ∧ wrM m a n v i ≤ 255 := by
  unfold wrM; split
  · have h1 := Int.emod_nonneg (v / 2 ^ (8 * (i - a))) (show (256 : Int) ≠ 0 by decide)
    have h2 := Int.emod_lt_of_pos (v / 2 ^ (8 * (i - a))) (show (0 : Int) < 256 by decide)
    omega
  · exact h i
theorem Good.put {S : HS} (h : Good S) {i : Nat} (hi : i ≠ 0) {v : Int} (hv : 0 ≤ v ∧ v ≤ 4294967295) : Good (S.put i v) :=
  ⟨by show upd S.x i v 0 = 0; rw [upd_ne _ _ (Ne.symm hi)]; exact h.zero, fun j => by show 0 ≤ upd S.x i v j ∧ upd S.x i v j ≤ _; unfold upd; split; exact hv; exact h.x j, h.m, h.pc, h.why⟩
theorem Good.putX {S : HS} (h : Good S) (i : Int) {v : Int} (hv : 0 ≤ v ∧ v ≤ 4294967295) : Good (putX S i v) := by
  unfold Go.Proofs.Ytpclikbjpjoccaa.putX; split
  · exact h.put (by omega) hv
  · exact h
theorem Good.setPC {S : HS} (h : Good S) {v : Int} (hv : 0 ≤ v ∧ v ≤ 4294967295) : Good (S.setPC v) := ⟨h.zero, h.x, h.m, hv, h.why⟩
theorem Good.setWhy {S : HS} (h : Good S) {v : Int} (hv : 0 ≤ v ∧ v ≤ 4294967295) : Good (S.setWhy v) := ⟨h.zero, h.x, h.m, h.pc, hv⟩
theorem Good.wr {S : HS} (h : Good S) (a n : Nat) (v : Int) : Good (S.setM (wrM S.m a n v)) := ⟨h.zero, h.x, wrM_bd h.m a n v, h.pc, h.why⟩
theorem getX_bd {S : HS} (h : Good S) (i : Int) : 0 ≤ getX S i ∧ getX S i ≤ 4294967295 := by
  unfold getX; split
  · exact h.x _
  · decide
def capOf (w : World) (hb : Nat) : Nat := match w.cell? ⟨hb, 32, none⟩ with
  | some (.slice _ _ c) => c
  | _ => 0
def tailOf (w : World) (mb i : Nat) : Value := (w.cell? ⟨mb, i, none⟩).getD undef
structure HostAt (w : World) (hb mb : Nat) (S : HS) : Prop where
  ne : hb ≠ mb
  ge : 32768 ≤ capOf w hb
  h : Blk w hb 35 62 (hostF S mb (capOf w hb))
  m : Blk w mb (capOf w hb) 5 (memT S.m (tailOf w mb))
section
variable {w w' : World} {hb mb : Nat} {S : HS}
theorem HostAt.mk' {c : Nat} {t : Nat → Value} (ne : hb ≠ mb) (ge : 32768 ≤ c) (h : Blk w hb 35 62 (hostF S mb c)) (m : Blk w mb c 5 (memT S.m t)) : HostAt w hb mb S := by
  have e : capOf w hb = c := by
    unfold capOf
    rw [h.cell (i := 32) (by decide)]
    rfl
  refine ⟨ne, by rw [e]; exact ge, by rw [e]; exact h, ?_⟩
  rw [e]
  refine m.ext fun i hi => ?_
  unfold memT tailOf
  by_cases hlt : i < 32768
  · rw [if_pos hlt, if_pos hlt]
  · rw [if_neg hlt, if_neg hlt, m.cell hi]
    unfold memT
    rw [if_neg hlt]; rfl
theorem HostAt.keep {p : Nat → Prop} (k : HostAt w hb mb S) (h : Turn p w w') (h1 : ¬ p hb) (h2 : ¬ p mb) : HostAt w' hb mb S := .mk' k.ne k.ge (k.h.keep h h1) (k.m.keep h h2)
theorem HostAt.reg (k : HostAt w hb mb S) {i : Nat} (h : i < 32) : w.cell? ⟨hb, i, none⟩ = some (.int .u32 (S.x i)) := by rw [k.h.cell (by omega), hostF_reg S mb _ h]
theorem HostAt.sl (k : HostAt w hb mb S) : w.cell? ⟨hb, 32, none⟩ = some (.slice (some ⟨mb, 0, none⟩) 32768 (capOf w hb)) := k.h.cell (by decide)
theorem HostAt.pc (k : HostAt w hb mb S) : w.cell? ⟨hb, 33, none⟩ = some (.int .u32 S.pc) := k.h.cell (by decide)
theorem HostAt.why (k : HostAt w hb mb S) : w.cell? ⟨hb, 34, none⟩ = some (.int .u32 S.why) := k.h.cell (by decide)
theorem HostAt.mem (k : HostAt w hb mb S) (i : Nat) (hi : i < 32768) : w.cell? ⟨mb, i, none⟩ = some (.int .u8 (S.m i)) := by
  rw [k.m.cell (Nat.lt_of_lt_of_le hi k.ge)]; unfold memT; rw [if_pos hi]
theorem HostAt.alloc (k : HostAt w hb mb S) (o : Obj) : HostAt (w.alloc o) hb mb S := .mk' k.ne k.ge (k.h.alloc o) (k.m.alloc o)
theorem HostAt.drew (k : HostAt w hb mb S) : HostAt w.drew hb mb S := .mk' k.ne k.ge k.h.drew k.m.drew
theorem HostAt.drewN (k : HostAt w hb mb S) (n : Nat) : HostAt (w.drewN n) hb mb S := .mk' k.ne k.ge (k.h.drewN n) (k.m.drewN n)
theorem HostAt.other (k : HostAt w hb mb S) {a : Addr} (h1 : a.block ≠ hb) (h2 : a.block ≠ mb) (v : Value) : HostAt (w.setCell a v) hb mb S := .mk' k.ne k.ge (k.h.other h1 v) (k.m.other h2 v)
theorem HostAt.put (k : HostAt w hb mb S) {i : Nat} (hi : i < 32) (v : Int) : HostAt (w.setCell ⟨hb, i, none⟩ (.int .u32 v)) hb mb (S.put i v) :=
  .mk' k.ne k.ge ((k.h.set i _).ext fun j hj => by
    unfold upd hostF HS.put
    by_cases e : j = i
    · subst e; simp [hi, upd]
    · simp [e, upd]) (k.m.other (a := ⟨hb, i, none⟩) k.ne _)
theorem HostAt.setPC (k : HostAt w hb mb S) (v : Int) : HostAt (w.setCell ⟨hb, 33, none⟩ (.int .u32 v)) hb mb (S.setPC v) :=
  .mk' k.ne k.ge ((k.h.set 33 _).ext fun j hj => by
    unfold upd hostF HS.setPC
    by_cases e : j = 33
    · subst e; simp
    · simp [e]) (k.m.other (a := ⟨hb, 33, none⟩) k.ne _)
theorem HostAt.setWhy (k : HostAt w hb mb S) (v : Int) : HostAt (w.setCell ⟨hb, 34, none⟩ (.int .u32 v)) hb mb (S.setWhy v) :=
  .mk' k.ne k.ge ((k.h.set 34 _).ext fun j hj => by
    unfold upd hostF HS.setWhy
    by_cases e : j = 34
    · subst e; simp
    · by_cases e2 : j < 32
      · simp [e, e2]
      · by_cases e3 : j = 32
        · simp [e3]
        · have : j = 33 := by omega
          simp [this]) (k.m.other (a := ⟨hb, 34, none⟩) k.ne _)
end
structure RefAt (w : World) (hb mb : Nat) (S : HS) : Prop where
  ne : hb ≠ mb
  h : Blk w hb 35 64 (refF S mb)
  m : Blk w mb 32768 5 (memF S.m)
section
variable {w w' : World} {hb mb : Nat} {S : HS}
theorem RefAt.keep {p : Nat → Prop} (k : RefAt w hb mb S) (h : Turn p w w') (h1 : ¬ p hb) (h2 : ¬ p mb) : RefAt w' hb mb S := ⟨k.ne, k.h.keep h h1, k.m.keep h h2⟩
theorem RefAt.reg (k : RefAt w hb mb S) {i : Nat} (h : i < 32) : w.cell? ⟨hb, i, none⟩ = some (.int .u32 (S.x i)) := by rw [k.h.cell (by omega), refF_reg S mb h]
theorem RefAt.pc (k : RefAt w hb mb S) : w.cell? ⟨hb, 32, none⟩ = some (.int .u32 S.pc) := k.h.cell (by decide)
theorem RefAt.sl (k : RefAt w hb mb S) : w.cell? ⟨hb, 33, none⟩ = some (.slice (some ⟨mb, 0, none⟩) 32768 32768) := k.h.cell (by decide)
theorem RefAt.why (k : RefAt w hb mb S) : w.cell? ⟨hb, 34, none⟩ = some (.int .u32 S.why) := k.h.cell (by decide)
theorem RefAt.alloc (k : RefAt w hb mb S) (o : Obj) : RefAt (w.alloc o) hb mb S := ⟨k.ne, k.h.alloc o, k.m.alloc o⟩
theorem RefAt.drew (k : RefAt w hb mb S) : RefAt w.drew hb mb S := ⟨k.ne, k.h.drew, k.m.drew⟩
theorem RefAt.drewN (k : RefAt w hb mb S) (n : Nat) : RefAt (w.drewN n) hb mb S := ⟨k.ne, k.h.drewN n, k.m.drewN n⟩
theorem RefAt.other (k : RefAt w hb mb S) {a : Addr} (h1 : a.block ≠ hb) (h2 : a.block ≠ mb) (v : Value) : RefAt (w.setCell a v) hb mb S := ⟨k.ne, k.h.other h1 v, k.m.other h2 v⟩
theorem RefAt.put (k : RefAt w hb mb S) {i : Nat} (hi : i < 32) (v : Int) : RefAt (w.setCell ⟨hb, i, none⟩ (.int .u32 v)) hb mb (S.put i v) :=
  ⟨k.ne, (k.h.set i _).ext fun j hj => by
    unfold upd refF HS.put
    by_cases e : j = i
    · subst e; simp [hi, upd]
    · simp [e, upd], k.m.other (a := ⟨hb, i, none⟩) k.ne _⟩
theorem RefAt.setPC (k : RefAt w hb mb S) (v : Int) : RefAt (w.setCell ⟨hb, 32, none⟩ (.int .u32 v)) hb mb (S.setPC v) :=
  ⟨k.ne, (k.h.set 32 _).ext fun j hj => by
    unfold upd refF HS.setPC
    by_cases e : j = 32
    · subst e; simp
    · simp [e], k.m.other (a := ⟨hb, 32, none⟩) k.ne _⟩
theorem RefAt.setWhy (k : RefAt w hb mb S) (v : Int) : RefAt (w.setCell ⟨hb, 34, none⟩ (.int .u32 v)) hb mb (S.setWhy v) :=
  ⟨k.ne, (k.h.set 34 _).ext fun j hj => by
    unfold upd refF HS.setWhy
    by_cases e : j = 34
    · subst e; simp
    · by_cases e2 : j < 32
      · simp [e, e2]
      · by_cases e3 : j = 32
        · simp [e3]
        · have : j = 33 := by omega
          simp [this], k.m.other (a := ⟨hb, 34, none⟩) k.ne _⟩
theorem RefAt.setByte (k : RefAt w hb mb S) (i : Nat) (v : Int) : RefAt (w.setCell ⟨mb, i, none⟩ (.int .u8 v)) hb mb (S.setM (upd S.m i v)) :=
  ⟨k.ne, k.h.other (a := ⟨mb, i, none⟩) (Ne.symm k.ne) _, (k.m.set i _).ext fun j hj => by
    unfold upd memF HS.setM
    by_cases e : j = i <;> simp [e]⟩
end
end Go.Proofs.Ytpclikbjpjoccaa
namespace Go.Proofs.Ytpclikbjpjoccaa
open Go Go.RowKit
set_option linter.unusedVariables false
theorem host_X (w : World) (hb mb : Nat) (S : HS) (hH : HostAt w hb mb S) (i : Int) (hi0 : -9223372036854775808 ≤ i) (hi1 : i ≤ 9223372036854775807) :
    Calls Try.prog 21 #[.pointer (some ⟨hb, 0, none⟩), .int .i64 i] w fun e w' => e = .returned (.int .u32 (getX S i)) ∧ w = w' := by
  by_cases h1 : i < 1
  · have hg : getX S i = 0 := by unfold getX; rw [if_neg (by omega)]
    have H := Lib.hid hg; clear hg
    go_enter Try.func21, Try.ntmps21
    go_wp2
    go_ret
    exact ⟨by rw [H.out]; rfl, rfl⟩
  · by_cases h2 : i < 32
    · have hg : getX S i = S.x i.toNat := by unfold getX; rw [if_pos (by omega)]
      have hc := hH.reg (i := i.toNat) (by omega)
      have H := Lib.hid hg; clear hg
      go_enter Try.func21, Try.ntmps21
      go_wp2
      go_ret
      exact ⟨by rw [H.out]; rfl, rfl⟩
    · have hg : getX S i = 0 := by unfold getX; rw [if_neg (by omega)]
      have H := Lib.hid hg; clear hg
      go_enter Try.func21, Try.ntmps21
      go_wp2
      go_ret
      exact ⟨by rw [H.out]; rfl, rfl⟩
structure Makes (w : World) (hb mb : Nat) (S' : HS) (w' : World) : Prop where
  at_ : HostAt w' hb mb S'
  turn : Turn (Own hb mb) w w'
theorem host_SetX (w : World) (hb mb : Nat) (S : HS) (hH : HostAt w hb mb S) (i v : Int) (hi0 : -9223372036854775808 ≤ i) (hi1 : i ≤ 9223372036854775807) :
    Calls Try.prog 19 #[.pointer (some ⟨hb, 0, none⟩), .int .i64 i, .int .u32 v] w fun e w' => e = .returned (.tuple #[]) ∧ Makes w hb mb (putX S i v) w' := by
  by_cases h1 : i < 1
  · have H : Makes w hb mb (putX S i v) w := ⟨by unfold putX; rw [if_neg (by omega)]; exact hH, Turn.refl _ _⟩
    go_enter Try.func19, Try.ntmps19
    go_wp2
    go_end0
    exact ⟨rfl, H⟩
  · by_cases h2 : i < 32
    · have hc := hH.reg (i := i.toNat) (by omega)
      have hf := hH.h.free i.toNat
      have H : Makes w hb mb (putX S i v) (w.setCell ⟨hb, i.toNat, none⟩ (.int .u32 v)) := ⟨by unfold putX; rw [if_pos (by omega)]; exact hH.put (by omega) v, (Turn.refl _ _).set (Or.inl rfl) _⟩
      go_enter Try.func19, Try.ntmps19
      go_wp2
      go_end0
      exact ⟨rfl, H⟩
    · have H : Makes w hb mb (putX S i v) w := ⟨by unfold putX; rw [if_neg (by omega)]; exact hH, Turn.refl _ _⟩
      go_enter Try.func19, Try.ntmps19
      go_wp2
      go_end0
      exact ⟨rfl, H⟩
theorem host_PC (w : World) (hb mb : Nat) (S : HS) (hH : HostAt w hb mb S) :
    Calls Try.prog 24 #[.pointer (some ⟨hb, 0, none⟩)] w fun e w' => e = .returned (.int .u32 S.pc) ∧ w = w' := by
  have hc := hH.pc
  go_enter Try.func24, Try.ntmps24
  go_wp2
  go_ret
  exact ⟨rfl, rfl⟩
theorem host_Why (w : World) (hb mb : Nat) (S : HS) (hH : HostAt w hb mb S) :
    Calls Try.prog 23 #[.pointer (some ⟨hb, 0, none⟩)] w fun e w' => e = .returned (.int .u32 S.why) ∧ w = w' := by
  have hc := hH.why
  go_enter Try.func23, Try.ntmps23
  go_wp2
  go_ret
  exact ⟨rfl, rfl⟩
theorem host_SetPC (w : World) (hb mb : Nat) (S : HS) (hH : HostAt w hb mb S) (v : Int) :
    Calls Try.prog 42 #[.pointer (some ⟨hb, 0, none⟩), .int .u32 v] w fun e w' => e = .returned (.tuple #[]) ∧ Makes w hb mb (S.setPC v) w' := by
  have hc := hH.pc
  have hf := hH.h.free 33
  have H : Makes w hb mb (S.setPC v) (w.setCell ⟨hb, 33, none⟩ (.int .u32 v)) := ⟨hH.setPC v, (Turn.refl _ _).set (Or.inl rfl) _⟩
  go_enter Try.func42, Try.ntmps42
  go_wp2
  go_end0
  exact ⟨rfl, H⟩
end Go.Proofs.Ytpclikbjpjoccaa
namespace Go.Proofs.Ytpclikbjpjoccaa
open Go Go.RowKit
set_option linter.unusedVariables false
set_option linter.unusedSimpArgs false
def canB (a n : Int) : Bool := decide ((n = 1 ∨ n = 2 ∨ n = 4) ∧ a % n = 0 ∧ a ≤ 32768 - n)
theorem canB_iff (a n : Int) : canB a n = true ↔ (n = 1 ∨ n = 2 ∨ n = 4) ∧ a % n = 0 ∧ a ≤ 32768 - n := by unfold canB; exact decide_eq_true_iff
theorem host_can (a n : Int) (ha0 : 0 ≤ a) (ha1 : a ≤ 4294967295) (w : World) :
    Calls Try.prog 31 #[.int .u32 a, .int .i64 n] w fun e w' => e = .returned (.bool (canB a n)) ∧ w = w' := by
  by_cases h : n = 1 ∨ n = 2 ∨ n = 4
  · by_cases hm : a % n = 0
    · by_cases hl : a ≤ 32768 - n
      · have hc : canB a n = true := (canB_iff a n).2 ⟨h, hm, hl⟩
        have H := Lib.hid hc; clear hc
        rcases h with rfl | rfl | rfl
        all_goals
          go_enter Try.func31, Try.ntmps31
          go_wp2
          go_ret
          exact ⟨by rw [H.out]; simp [hm, hl]; try omega, rfl⟩
      · have hc : canB a n = false := by rw [← Bool.not_eq_true, canB_iff]; omega
        have H := Lib.hid hc; clear hc
        rcases h with rfl | rfl | rfl
        all_goals
          go_enter Try.func31, Try.ntmps31
          go_wp2
          go_ret
          exact ⟨by rw [H.out]; simp [hm, hl]; try omega, rfl⟩
    · have hc : canB a n = false := by rw [← Bool.not_eq_true, canB_iff]; omega
      have H := Lib.hid hc; clear hc
      rcases h with rfl | rfl | rfl
      · omega
      all_goals
        go_enter Try.func31, Try.ntmps31
        go_wp2
        go_ret
        exact ⟨by rw [H.out]; simp [hm], rfl⟩
  · have hc : canB a n = false := by rw [← Bool.not_eq_true, canB_iff]; omega
    have H := Lib.hid hc; clear hc
    have h1 : n ≠ 1 := by omega
    have h2 : n ≠ 2 := by omega
    have h4 : n ≠ 4 := by omega
    go_enter Try.func31, Try.ntmps31
    go_wp2
    go_ret
    exact ⟨by rw [H.out]; rfl, rfl⟩
def ldV (S : HS) (a n : Int) : Int := if canB a n = true then rdM S.m a.toNat n.toNat else 0
theorem ldV_bd {S : HS} (h : Good S) (a n : Int) : 0 ≤ ldV S a n ∧ ldV S a n ≤ 4294967295 := by
  unfold ldV; split
  · have := rdM_bd h.m a.toNat n.toNat; omega
  · decide
def stM (S : HS) (a n v : Int) : HS := if canB a n = true then S.setM (wrM S.m a.toNat n.toNat v) else S
theorem stM_good {S : HS} (h : Good S) (a n v : Int) : Good (stM S a n v) := by
  unfold stM; split
  · exact h.wr _ _ _
  · exact h
theorem bts_mem {w : World} {mb : Nat} {m : Nat → Int} (h : ∀ i, i < 32768 → w.cell? ⟨mb, i, none⟩ = some (.int .u8 (m i))) (hlt : mb < w.heap.size) (hm : ∀ i, 0 ≤ m i ∧ m i ≤ 255) (a n cap : Nat) (hl : a + n ≤ 32768) :
    Bts w (.slice (some ⟨mb, a, none⟩) n cap) (bytesAt m a n) := by
  refine ⟨some ⟨mb, a, none⟩, cap, by rw [bytesAt_length], fun i hi => ⟨mb, a, rfl, hlt, ?_⟩, bytesAt_bd hm a n⟩
  rw [bytesAt_length] at hi
  rw [h _ (by omega), bytesAt_get m a n hi]
theorem ret_vt {a b : Int} (h : a = b) : Ending.returned (.tuple #[.int .u32 a, .bool true]) = .returned (.tuple #[.int .u32 b, .bool true]) := by rw [h]
theorem host_Load (w : World) (hb mb : Nat) (S : HS) (hH : HostAt w hb mb S) (hG : Good S) (a n : Int) (ha0 : 0 ≤ a) (ha1 : a ≤ 4294967295) :
    Calls Try.prog 15 #[.pointer (some ⟨hb, 0, none⟩), .int .u32 a, .int .i64 n] w fun e w' => e = .returned (.tuple #[.int .u32 (ldV S a n), .bool (canB a n)]) ∧ Below w.heap.size w w' := by
  cases hc : canB a n with
  | false =>
    have hv : ldV S a n = 0 := by unfold ldV; rw [hc]; rfl
    have HV := Lib.hid hv; clear hv
    have HC := Lib.hid hc; clear hc
    go_enter Try.func15, Try.ntmps15
    go_wp2_with (go_at_call 31; refine (host_can a n ha0 ha1 _).mono ?_; rw [HC.out]; rintro e w' ⟨rfl, rfl⟩)
    go_ret2
    exact ⟨by rw [HV.out]; rfl, Below.refl _ _⟩
  | true =>
    have hv : ldV S a n = rdM S.m a.toNat n.toNat := by unfold ldV; rw [hc]; rfl
    have HV := Lib.hid hv; clear hv
    obtain ⟨h1, h2, h3⟩ := (canB_iff a n).1 hc
    obtain ⟨c, hcq, hge⟩ : ∃ c, c = capOf w hb ∧ 32768 ≤ c := ⟨_, rfl, hH.ge⟩
    have hs := hH.sl
    rw [← hcq] at hs
    have HCQ := Lib.hid hcq; clear hcq
    have HB := bts_mem hH.mem hH.m.lt hG.m a.toNat n.toNat (c - a.toNat) (by omega)
    have q1 : ¬ c = a.toNat := by omega
    have q3 : a + n ≤ (c : Int) := by omega
    have HC := Lib.hid hc; clear hc
    have E := Lib.hid (show (a + n).toNat - a.toNat = n.toNat by omega)
    rcases h1 with rfl | rfl | rfl
    all_goals
      clear h2
      go_enter Try.func15, Try.ntmps15
      go_wp2_with (first | (go_at_call 31; refine (host_can a _ ha0 ha1 _).mono ?_; rw [HC.out]; rintro e w' ⟨rfl, rfl⟩) | (go_at_call 34; rw [E.out]; refine (bits_Word _ _ _ HB).mono ?_; rintro e w' ⟨rfl, rfl⟩))
      go_ret2
      exact ⟨by rw [HV.out]; rfl, (Below.refl _ _).alloc (Nat.le_refl _) _⟩
theorem arrOf_list {k : Nat} (f : Nat → Value) (j : Nat) : (arrOf k f).toList[j]? = if j < k then some (f j) else none := by
  rw [Array.getElem?_toList]
  split
  · rename_i h; exact arrOf_get f h
  · rename_i h; exact Array.getElem?_eq_none (by rw [arrOf_size]; omega)
theorem bytesOf_get {v : Int} (hv0 : 0 ≤ v) (hv1 : v ≤ 4294967295) : ∀ i, i < 4 → (bytesOf v).toList[i]? = some (.int .u8 (v / 2 ^ (8 * i) % 256))
  | 0, _ => by simp
  | 1, _ => by simp
  | 2, _ => by simp
  | 3, _ => by simp; omega
  | n + 4, h => by omega
theorem take_get (v : Int) (n i : Nat) : ((bytesOf v).toList.take n)[i]? = if i < n then (bytesOf v).toList[i]? else none := by rw [List.getElem?_take]
theorem mem_splice {m : Nat → Int} {t : Nat → Value} {a n c : Nat} {v : Int} (h : a + n ≤ 32768) (hcc : 32768 ≤ c) (hn : n ≤ 4) (hv0 : 0 ≤ v) (hv1 : v ≤ 4294967295) :
    ((arrOf c (memT m t)).toList.take a ++ ((bytesOf v).toList.take n) ++ (arrOf c (memT m t)).toList.drop (a + ((bytesOf v).toList.take n).length)).toArray = arrOf c (memT (wrM m a n v) t) := by
  have hl : ((bytesOf v).toList.take n).length = n := by rw [List.length_take]; show min n 4 = n; omega
  have hl2 : ((arrOf c (memT m t)).toList.take a).length = a := by rw [List.length_take, Array.length_toList, arrOf_size]; omega
  rw [← Array.toList_inj]
  apply List.ext_getElem?
  intro j
  rw [arrOf_list, hl, List.getElem?_append, List.getElem?_append, List.length_append, hl, hl2, List.getElem?_take, List.getElem?_drop, take_get, arrOf_list, arrOf_list]
  unfold memT wrM
  by_cases h1 : j < a
  · rw [if_pos (by omega), if_pos h1, if_pos h1, if_pos (by omega), if_pos (by omega), if_pos (by omega), if_pos (by omega), if_neg (by omega)]
  · by_cases h2 : j < a + n
    · rw [if_pos h2, if_neg h1, if_pos (by omega), bytesOf_get hv0 hv1 _ (by omega), if_pos (by omega), if_pos (by omega), if_pos (by omega)]
    · rw [if_neg h2, show a + n + (j - (a + n)) = j by omega]
      by_cases h3 : j < c
      · rw [if_pos h3, if_pos h3]
        by_cases h4 : j < 32768
        · rw [if_pos h4, if_pos h4, if_neg (by omega)]
        · rw [if_neg h4, if_neg h4]
      · rw [if_neg h3, if_neg h3]
set_option maxRecDepth 10000 in
theorem host_Store (w : World) (hb mb : Nat) (S : HS) (hH : HostAt w hb mb S) (a n v : Int) (ha0 : 0 ≤ a) (ha1 : a ≤ 4294967295) (hv0 : 0 ≤ v) (hv1 : v ≤ 4294967295) :
    Calls Try.prog 13 #[.pointer (some ⟨hb, 0, none⟩), .int .u32 a, .int .i64 n, .int .u32 v] w fun e w' => e = .returned (.bool (canB a n)) ∧ Makes w hb mb (stM S a n v) w' := by
  cases hc : canB a n with
  | false =>
    have hv : Makes w hb mb (stM S a n v) w := ⟨by unfold stM; rw [hc]; exact hH, Turn.refl _ _⟩
    have HC := Lib.hid hc; clear hc
    go_enter Try.func13, Try.ntmps13
    go_wp2_with (go_at_call 31; refine (host_can a n ha0 ha1 _).mono ?_; rw [HC.out]; rintro e w' ⟨rfl, rfl⟩)
    go_ret
    exact ⟨rfl, hv⟩
  | true =>
    obtain ⟨h1, h2, h3⟩ := (canB_iff a n).1 hc
    obtain ⟨c, hcq, hge⟩ : ∃ c, c = capOf w hb ∧ 32768 ≤ c := ⟨_, rfl, hH.ge⟩
    obtain ⟨t, htq⟩ : ∃ t, t = tailOf w mb := ⟨_, rfl⟩
    have bh := hH.h
    have bm := hH.m
    rw [← hcq] at bh bm
    rw [← htq] at bm
    clear hcq htq
    have HC := Lib.hid hc; clear hc
    rcases h1 with rfl | rfl | rfl
    · clear h2
      go_enter Try.func13, Try.ntmps13
      go_wp2_with (first | (go_at_call 31; refine (host_can a _ ha0 ha1 _).mono ?_; rw [HC.out]; rintro e w' ⟨rfl, rfl⟩) | (go_at_call 32; refine (bits_Bytes v hv0 (by omega) _).mono ?_; rintro e w' ⟨rfl, rfl⟩))
      obtain ⟨W, hW⟩ : ∃ W, W = (w.alloc (.cells (bytesOf v) 66)).alloc (.cells (bytesOf v) 66) := ⟨_, rfl⟩
      rw [← hW]
      have hs : W.cell? ⟨hb, 32, none⟩ = some (.slice (some ⟨mb, 0, none⟩) 32768 c) := by rw [hW]; exact ((bh.alloc _).alloc _).cell (i := 32) (by decide)
      have hcp := run_copy_row Try.prog W.drew 59 59 3 5 mb a.toNat (32768 - a.toNat) (c - a.toNat) ⟨w.heap.size + 1, 0, none⟩ 1 4
        (arrOf c (memT S.m t)) 5 ((bytesOf v).toList.take 1) Try.underlying59 (by kernel_rfl) (hW ▸ (bm.alloc _ |>.alloc _).blk) (by rw [List.length_take]; show min 1 4 = min 1 (32768 - a.toNat); omega)
        (fun j u hj => by
          rw [take_get] at hj
          have hjn : j < 1 := by
            rcases Nat.lt_or_ge j 1 with h | h
            · exact h
            · rw [if_neg (by omega)] at hj; cases hj
          rw [if_pos hjn] at hj
          rw [addr_add, Nat.zero_add, World.cell?_drew, hW, show w.heap.size + 1 = (w.alloc (.cells (bytesOf v) 66)).heap.size by simp, World.cell?_alloc_new, ← hj, Array.getElem?_toList])
        (by rw [List.length_take, arrOf_size]; show a.toNat + min 1 4 ≤ c; omega)
        (fun u hu => by
          obtain ⟨j, hj⟩ := List.mem_iff_getElem?.1 (List.mem_of_mem_take hu)
          have hj4 : j < 4 := (List.getElem?_eq_some_iff.1 hj).1
          rw [bytesOf_get hv0 hv1 j hj4] at hj
          cases hj; rfl)
      rw [mem_splice (by omega) hge (by omega) hv0 hv1] at hcp
      have HM : Makes w hb mb (stM S a 1 v) (W.drew.setRow mb (arrOf c (memT (wrM S.m a.toNat 1 v) t))) := by
        refine ⟨?_, ?_⟩
        · unfold stM; rw [HC.out, if_pos rfl]
          exact HostAt.mk' hH.ne hge ((hW ▸ ((bh.alloc _).alloc _).drew).rowOther (Ne.symm hH.ne) _) ((hW ▸ ((bm.alloc _).alloc _).drew).row rfl)
        · exact Turn.row (hW ▸ (((Turn.refl _ w).alloc _).alloc _).drew) (Or.inr rfl) _
      have HM' := Lib.hid HM; clear HM
      have q1 : ¬ c = a.toNat := by omega
      have q2 : a ≤ 32768 := by omega
      have HW := Lib.hid hW; clear hW
      go_still_tail 8, (by kernel_rfl)
      change wpList _ _ _ _ _ W.drew
      clear hs
      go_wp2
      go_ret
      exact ⟨rfl, HM'.out⟩
    · clear h2
      go_enter Try.func13, Try.ntmps13
      go_wp2_with (first | (go_at_call 31; refine (host_can a _ ha0 ha1 _).mono ?_; rw [HC.out]; rintro e w' ⟨rfl, rfl⟩) | (go_at_call 32; refine (bits_Bytes v hv0 (by omega) _).mono ?_; rintro e w' ⟨rfl, rfl⟩))
      obtain ⟨W, hW⟩ : ∃ W, W = (w.alloc (.cells (bytesOf v) 66)).alloc (.cells (bytesOf v) 66) := ⟨_, rfl⟩
      rw [← hW]
      have hs : W.cell? ⟨hb, 32, none⟩ = some (.slice (some ⟨mb, 0, none⟩) 32768 c) := by rw [hW]; exact ((bh.alloc _).alloc _).cell (i := 32) (by decide)
      have hcp := run_copy_row Try.prog W.drew 59 59 3 5 mb a.toNat (32768 - a.toNat) (c - a.toNat) ⟨w.heap.size + 1, 0, none⟩ 2 4
        (arrOf c (memT S.m t)) 5 ((bytesOf v).toList.take 2) Try.underlying59 (by kernel_rfl) (hW ▸ (bm.alloc _ |>.alloc _).blk) (by rw [List.length_take]; show min 2 4 = min 2 (32768 - a.toNat); omega)
        (fun j u hj => by
          rw [take_get] at hj
          have hjn : j < 2 := by
            rcases Nat.lt_or_ge j 2 with h | h
            · exact h
            · rw [if_neg (by omega)] at hj; cases hj
          rw [if_pos hjn] at hj
          rw [addr_add, Nat.zero_add, World.cell?_drew, hW, show w.heap.size + 1 = (w.alloc (.cells (bytesOf v) 66)).heap.size by simp, World.cell?_alloc_new, ← hj, Array.getElem?_toList])
        (by rw [List.length_take, arrOf_size]; show a.toNat + min 2 4 ≤ c; omega)
        (fun u hu => by
          obtain ⟨j, hj⟩ := List.mem_iff_getElem?.1 (List.mem_of_mem_take hu)
          have hj4 : j < 4 := (List.getElem?_eq_some_iff.1 hj).1
          rw [bytesOf_get hv0 hv1 j hj4] at hj
          cases hj; rfl)
      rw [mem_splice (by omega) hge (by omega) hv0 hv1] at hcp
      have HM : Makes w hb mb (stM S a 2 v) (W.drew.setRow mb (arrOf c (memT (wrM S.m a.toNat 2 v) t))) := by
        refine ⟨?_, ?_⟩
        · unfold stM; rw [HC.out, if_pos rfl]
          exact HostAt.mk' hH.ne hge ((hW ▸ ((bh.alloc _).alloc _).drew).rowOther (Ne.symm hH.ne) _) ((hW ▸ ((bm.alloc _).alloc _).drew).row rfl)
        · exact Turn.row (hW ▸ (((Turn.refl _ w).alloc _).alloc _).drew) (Or.inr rfl) _
      have HM' := Lib.hid HM; clear HM
      have q1 : ¬ c = a.toNat := by omega
      have q2 : a ≤ 32768 := by omega
      have HW := Lib.hid hW; clear hW
      go_still_tail 8, (by kernel_rfl)
      change wpList _ _ _ _ _ W.drew
      clear hs
      go_wp2
      go_ret
      exact ⟨rfl, HM'.out⟩
    · clear h2
      go_enter Try.func13, Try.ntmps13
      go_wp2_with (first | (go_at_call 31; refine (host_can a _ ha0 ha1 _).mono ?_; rw [HC.out]; rintro e w' ⟨rfl, rfl⟩) | (go_at_call 32; refine (bits_Bytes v hv0 (by omega) _).mono ?_; rintro e w' ⟨rfl, rfl⟩))
      obtain ⟨W, hW⟩ : ∃ W, W = (w.alloc (.cells (bytesOf v) 66)).alloc (.cells (bytesOf v) 66) := ⟨_, rfl⟩
      rw [← hW]
      have hs : W.cell? ⟨hb, 32, none⟩ = some (.slice (some ⟨mb, 0, none⟩) 32768 c) := by rw [hW]; exact ((bh.alloc _).alloc _).cell (i := 32) (by decide)
      have hcp := run_copy_row Try.prog W.drew 59 59 3 5 mb a.toNat (32768 - a.toNat) (c - a.toNat) ⟨w.heap.size + 1, 0, none⟩ 4 4
        (arrOf c (memT S.m t)) 5 ((bytesOf v).toList.take 4) Try.underlying59 (by kernel_rfl) (hW ▸ (bm.alloc _ |>.alloc _).blk) (by rw [List.length_take]; show min 4 4 = min 4 (32768 - a.toNat); omega)
        (fun j u hj => by
          rw [take_get] at hj
          have hjn : j < 4 := by
            rcases Nat.lt_or_ge j 4 with h | h
            · exact h
            · rw [if_neg (by omega)] at hj; cases hj
          rw [if_pos hjn] at hj
          rw [addr_add, Nat.zero_add, World.cell?_drew, hW, show w.heap.size + 1 = (w.alloc (.cells (bytesOf v) 66)).heap.size by simp, World.cell?_alloc_new, ← hj, Array.getElem?_toList])
        (by rw [List.length_take, arrOf_size]; show a.toNat + min 4 4 ≤ c; omega)
        (fun u hu => by
          obtain ⟨j, hj⟩ := List.mem_iff_getElem?.1 (List.mem_of_mem_take hu)
          have hj4 : j < 4 := (List.getElem?_eq_some_iff.1 hj).1
          rw [bytesOf_get hv0 hv1 j hj4] at hj
          cases hj; rfl)
      rw [mem_splice (by omega) hge (by omega) hv0 hv1] at hcp
      have HM : Makes w hb mb (stM S a 4 v) (W.drew.setRow mb (arrOf c (memT (wrM S.m a.toNat 4 v) t))) := by
        refine ⟨?_, ?_⟩
        · unfold stM; rw [HC.out, if_pos rfl]
          exact HostAt.mk' hH.ne hge ((hW ▸ ((bh.alloc _).alloc _).drew).rowOther (Ne.symm hH.ne) _) ((hW ▸ ((bm.alloc _).alloc _).drew).row rfl)
        · exact Turn.row (hW ▸ (((Turn.refl _ w).alloc _).alloc _).drew) (Or.inr rfl) _
      have HM' := Lib.hid HM; clear HM
      have q1 : ¬ c = a.toNat := by omega
      have q2 : a ≤ 32768 := by omega
      have HW := Lib.hid hW; clear hW
      go_still_tail 8, (by kernel_rfl)
      change wpList _ _ _ _ _ W.drew
      clear hs
      go_wp2
      go_ret
      exact ⟨rfl, HM'.out⟩
end Go.Proofs.Ytpclikbjpjoccaa
namespace Go.Proofs.Ytpclikbjpjoccaa
open Go Go.RowKit
set_option linter.unusedVariables false
set_option linter.unusedSimpArgs false
theorem ref_fits (a n : Int) (ha0 : 0 ≤ a) (ha1 : a ≤ 4294967295) (hn0 : -9223372036854775808 ≤ n) (hn1 : n ≤ 9223372036854775807) (w : World) :
    Calls Try.prog 33 #[.int .u32 a, .int .i64 n] w fun e w' => e = .returned (.bool (canB a n)) ∧ w = w' := by
  by_cases h : n = 1 ∨ n = 2 ∨ n = 4
  · by_cases hm : a % n = 0
    · by_cases hl : a ≤ 32768 - n
      · have hc : canB a n = true := (canB_iff a n).2 ⟨h, hm, hl⟩
        have H := Lib.hid hc; clear hc
        rcases h with rfl | rfl | rfl
        all_goals
          go_enter Try.func33, Try.ntmps33
          go_wp2
          go_ret
          exact ⟨by rw [H.out]; simp [hm, hl]; try omega, rfl⟩
      · have hc : canB a n = false := by rw [← Bool.not_eq_true, canB_iff]; omega
        have H := Lib.hid hc; clear hc
        rcases h with rfl | rfl | rfl
        all_goals
          go_enter Try.func33, Try.ntmps33
          go_wp2
          go_ret
          exact ⟨by rw [H.out]; simp [hm, hl]; try omega, rfl⟩
    · have hc : canB a n = false := by rw [← Bool.not_eq_true, canB_iff]; omega
      have H := Lib.hid hc; clear hc
      rcases h with rfl | rfl | rfl
      · omega
      all_goals
        go_enter Try.func33, Try.ntmps33
        go_wp2
        go_ret
        exact ⟨by rw [H.out]; simp [hm], rfl⟩
  · have hc : canB a n = false := by rw [← Bool.not_eq_true, canB_iff]; omega
    have H := Lib.hid hc; clear hc
    have h1 : (n == 1) = false := by simp; omega
    have h2 : (n == 2) = false := by simp; omega
    have h4 : (n == 4) = false := by simp; omega
    go_enter Try.func33, Try.ntmps33
    go_wp2
    go_ret
    exact ⟨by rw [H.out]; rfl, rfl⟩
theorem ref_Load (w : World) (hb mb : Nat) (S : HS) (hH : RefAt w hb mb S) (hG : Good S) (a n : Int) (ha0 : 0 ≤ a) (ha1 : a ≤ 4294967295) (hn0 : -9223372036854775808 ≤ n) (hn1 : n ≤ 9223372036854775807) :
    Calls Try.prog 16 #[.pointer (some ⟨hb, 0, none⟩), .int .u32 a, .int .i64 n] w fun e w' => e = .returned (.tuple #[.int .u32 (ldV S a n), .bool (canB a n)]) ∧ w = w' := by
  cases hc : canB a n with
  | false =>
    have hv : ldV S a n = 0 := by unfold ldV; rw [hc]; rfl
    have HV := Lib.hid hv; clear hv
    have HC := Lib.hid hc; clear hc
    go_enter Try.func16, Try.ntmps16
    go_wp2_with (go_at_call 33; refine (ref_fits a n ha0 ha1 hn0 hn1 _).mono ?_; rw [HC.out]; rintro e w' ⟨rfl, rfl⟩)
    go_ret2
    exact ⟨by rw [HV.out]; rfl, rfl⟩
  | true =>
    have hv : ldV S a n = rdM S.m a.toNat n.toNat := by unfold ldV; rw [hc]; rfl
    have HV := Lib.hid hv; clear hv
    obtain ⟨h1, h2, h3⟩ := (canB_iff a n).1 hc
    have hs := hH.sl
    have HB := bts_mem (fun i hi => hH.m.cell hi) hH.m.lt hG.m a.toNat n.toNat (32768 - a.toNat) (by omega)
    have HL : Hid ((bytesAt S.m a.toNat n.toNat).length ≤ maxLen) := Lib.hid (by rw [bytesAt_length]; unfold maxLen; omega)
    have HC := Lib.hid hc; clear hc
    have E := Lib.hid (show (a + n).toNat - a.toNat = n.toNat by omega)
    rcases h1 with rfl | rfl | rfl
    all_goals
      clear h2
      go_enter Try.func16, Try.ntmps16
      go_wp2_with (first | (go_at_call 33; refine (ref_fits a _ ha0 ha1 hn0 hn1 _).mono ?_; rw [HC.out]; rintro e w' ⟨rfl, rfl⟩) | (go_at_call 35; rw [E.out]; refine (ref1_Word _ _ _ HB HL.out).mono ?_; rintro e w' ⟨rfl, rfl⟩))
      go_ret2
      exact ⟨by rw [HV.out]; rfl, rfl⟩
structure MakesR (w : World) (hb mb : Nat) (S' : HS) (w' : World) : Prop where
  at_ : RefAt w' hb mb S'
  turn : Turn (Own hb mb) w w'
theorem ref_set (w : World) (hb mb : Nat) (S : HS) (hH : RefAt w hb mb S) (i v : Int) (hi0 : 0 ≤ i) (hi1 : i < 32) :
    Calls Try.prog 45 #[.pointer (some ⟨hb, 0, none⟩), .int .i64 i, .int .u32 v] w fun e w' => e = .returned (.tuple #[]) ∧ MakesR w hb mb (putX S i v) w' := by
  by_cases h1 : i = 0
  · have H : MakesR w hb mb (putX S i v) w := ⟨by unfold putX; rw [if_neg (by omega)]; exact hH, Turn.refl _ _⟩
    subst h1
    go_enter Try.func45, Try.ntmps45
    go_wp2
    go_end0
    exact ⟨rfl, H⟩
  · have hc := hH.reg (i := i.toNat) (by omega)
    have hf := hH.h.free i.toNat
    have hq : (i != 0) = true := by simp [h1]
    have H : MakesR w hb mb (putX S i v) (w.setCell ⟨hb, i.toNat, none⟩ (.int .u32 v)) := ⟨by unfold putX; rw [if_pos (by omega)]; exact hH.put (by omega) v, (Turn.refl _ _).set (Or.inl rfl) _⟩
    go_enter Try.func45, Try.ntmps45
    go_wp2
    go_end0
    exact ⟨rfl, H⟩
end Go.Proofs.Ytpclikbjpjoccaa
namespace Go.Proofs.Ytpclikbjpjoccaa
open Go Go.RowKit
set_option linter.unusedVariables false
set_option linter.unusedSimpArgs false
theorem wrM_zero (m : Nat → Int) (a : Nat) (v : Int) : wrM m a 0 v = m := by
  funext i; unfold wrM; rw [if_neg (by omega)]
theorem wrM_succ (m : Nat → Int) (a k : Nat) (v : Int) : wrM m a (k + 1) v = upd (wrM m a k v) (a + k) (v / 2 ^ (8 * k) % 256) := by
  funext i
  show wrM m a (k + 1) v i = if i = a + k then _ else wrM m a k v i
  unfold wrM
  by_cases h : i = a + k
  · rw [if_pos (by omega), if_pos h, h, show a + k - a = k by omega]
  · rw [if_neg h]
    by_cases h2 : a ≤ i ∧ i < a + k
    · rw [if_pos (by omega), if_pos h2]
    · rw [if_neg (by omega), if_neg h2]
set_option maxHeartbeats 800000 in
theorem ref_Store (w : World) (hb mb : Nat) (S : HS) (hH : RefAt w hb mb S) (a n v : Int) (ha0 : 0 ≤ a) (ha1 : a ≤ 4294967295) (hv0 : 0 ≤ v) (hv1 : v ≤ 4294967295) (hn0 : -9223372036854775808 ≤ n) (hn1 : n ≤ 9223372036854775807) :
    Calls Try.prog 14 #[.pointer (some ⟨hb, 0, none⟩), .int .u32 a, .int .i64 n, .int .u32 v] w fun e w' => e = .returned (.bool (canB a n)) ∧ MakesR w hb mb (stM S a n v) w' := by
  cases hc : canB a n with
  | false =>
    have hv : MakesR w hb mb (stM S a n v) w := ⟨by unfold stM; rw [hc]; exact hH, Turn.refl _ _⟩
    have HC := Lib.hid hc; clear hc
    go_enter Try.func14, Try.ntmps14
    go_wp2_with (go_at_call 33; refine (ref_fits a n ha0 ha1 hn0 hn1 _).mono ?_; rw [HC.out]; rintro e w' ⟨rfl, rfl⟩)
    go_ret
    exact ⟨rfl, hv⟩
  | true =>
    obtain ⟨h1, h2, h3⟩ := (canB_iff a n).1 hc
    obtain ⟨A, rfl⟩ : ∃ A : Nat, a = (A : Int) := ⟨a.toNat, by omega⟩
    obtain ⟨N, rfl, hN4⟩ : ∃ N : Nat, n = (N : Int) ∧ N ≤ 4 := ⟨n.toNat, by omega, by omega⟩
    have HC := Lib.hid hc; clear hc
    have HS : Hid (stM S A N v = S.setM (wrM S.m A N v)) := Lib.hid (by unfold stM; rw [HC.out, if_pos rfl]; rfl)
    clear h1 h2
    go_enter Try.func14, Try.ntmps14
    go_wp2_with (go_at_call 33; refine (ref_fits _ _ ha0 ha1 hn0 hn1 _).mono ?_; rw [HC.out]; rintro e w' ⟨rfl, rfl⟩)
    go_loopw [9] (fun i wr => ∃ k : Nat, k ≤ N ∧ i = .int .i64 k ∧ MakesR w hb mb (S.setM (wrM S.m A k v)) wr) (fun i _ => N - (intOf i).toNat)
    case atStart => exact ⟨0, Nat.zero_le _, rfl, by rw [wrM_zero]; exact ⟨hH, Turn.refl _ _⟩⟩
    case round =>
      obtain ⟨k, hk, rfl, hm⟩ := hrel
      by_cases hlt : k < N
      · have hs := hm.at_.sl
        have hby := hm.at_.m.cell (i := A + k) (by omega)
        have hfr := hm.at_.m.free (A + k)
        go_wp2
        go_roundw
        case rel => exact ⟨k + 1, by omega, by go_num, by rw [wrM_succ]; exact ⟨hm.at_.setByte (A + k) _, hm.turn.set (Or.inr rfl) _⟩⟩
        case measure => simp [intOf]; omega
      · obtain rfl : k = N := by omega
        go_wp2
        go_ret
        exact ⟨rfl, by rw [HS.out]; exact hm⟩
def S0 : HS := ⟨fun _ => 0, fun _ => 0, 1024, 0⟩
theorem S0_good : Good S0 := ⟨rfl, fun _ => by show (0 : Int) ≤ 0 ∧ (0 : Int) ≤ _; decide, fun _ => by show (0 : Int) ≤ 0 ∧ (0 : Int) ≤ _; decide, by show (0 : Int) ≤ 1024 ∧ (1024 : Int) ≤ _; decide, by show (0 : Int) ≤ 0 ∧ (0 : Int) ≤ _; decide⟩
theorem info_u8 : (Try.prog.info? 5).map (fun i => (i.zero, i.size, i.bytes)) = some (some (.int .u8 0), 1, 1) := by kernel_rfl
theorem made_zero (n : Nat) : madeCells (Value.cells (.int .u8 0)) n = arrOf n (memF fun _ => 0) := by
  apply Array.ext
  · simp [madeCells, arrOf_size]
  · intro i h1 h2
    simp [madeCells, arrOf, memF, Value.cells, Nat.mod_one]
theorem run_make (w : World) : (Instr.makeSlice 59 (.int .i64 32768) (.int .i64 32768)).run Try.prog w =
    .ok (.slice (some ⟨w.heap.size, 0, none⟩) 32768 32768) (w.alloc (.cells (arrOf 32768 (memF fun _ => 0)) 5)) := by
  obtain ⟨i0, hi, hz0, hz1, hz2⟩ := info_parts info_u8
  have h := Go.run_make (P := Try.prog) w 59 5 i0 (.int .u8 0) Try.underlying59 hi hz0 .i64 .i64 32768 32768 (by decide) (by decide) (by rw [hz2]; decide) (by decide)
  rw [hz1, Nat.mul_one, made_zero] at h
  exact h
theorem host_row (mb : Nat) : #[.int .u32 0, .int .u32 0, .int .u32 0, .int .u32 0, .int .u32 0, .int .u32 0, .int .u32 0, .int .u32 0, .int .u32 0, .int .u32 0, .int .u32 0, .int .u32 0, .int .u32 0, .int .u32 0, .int .u32 0, .int .u32 0, .int .u32 0, .int .u32 0, .int .u32 0, .int .u32 0, .int .u32 0, .int .u32 0, .int .u32 0, .int .u32 0, .int .u32 0, .int .u32 0, .int .u32 0, .int .u32 0, .int .u32 0, .int .u32 0, .int .u32 0, .int .u32 0, .slice (some ⟨mb, 0, none⟩) 32768 32768, .int .u32 1024, .int .u32 0] = arrOf 35 (hostF S0 mb 32768) := by kernel_rfl
theorem ref_row (mb : Nat) : #[.int .u32 0, .int .u32 0, .int .u32 0, .int .u32 0, .int .u32 0, .int .u32 0, .int .u32 0, .int .u32 0, .int .u32 0, .int .u32 0, .int .u32 0, .int .u32 0, .int .u32 0, .int .u32 0, .int .u32 0, .int .u32 0, .int .u32 0, .int .u32 0, .int .u32 0, .int .u32 0, .int .u32 0, .int .u32 0, .int .u32 0, .int .u32 0, .int .u32 0, .int .u32 0, .int .u32 0, .int .u32 0, .int .u32 0, .int .u32 0, .int .u32 0, .int .u32 0, .int .u32 1024, .slice (some ⟨mb, 0, none⟩) 32768 32768, .int .u32 0] = arrOf 35 (refF S0 mb) := by kernel_rfl
theorem host_New (w : World) : Calls Try.prog 11 #[] w fun e w' => (e = .returned (.pointer (some ⟨w.heap.size + 1, 0, none⟩)) ∧ HostAt w' (w.heap.size + 1) w.heap.size S0) ∧ Below w.heap.size w w' := by
  have hmk := run_make
  have HR := Lib.hid (host_row w.heap.size)
  go_enter Try.func11, Try.ntmps11
  go_wp2
  go_ret
  refine ⟨⟨rfl, ?_⟩, ((Below.refl _ _).alloc (Nat.le_refl _) _).alloc (by simp) _⟩
  rw [HR.out]
  have e1 := (Blk.new w 32768 5 (memF S0.m)).alloc (.cells (arrOf 35 (hostF S0 w.heap.size 32768)) 62)
  have e2 := Blk.new (w.alloc (.cells (arrOf 32768 (memF S0.m)) 5)) 35 62 (hostF S0 w.heap.size 32768)
  rw [World.size_alloc] at e2
  exact HostAt.mk' (by omega) (Nat.le_refl _) e2 (e1.ext (g := memT S0.m (fun _ => undef)) fun i hi => by unfold memT memF; rw [if_pos hi])
theorem ref_New (w : World) : Calls Try.prog 12 #[] w fun e w' => (e = .returned (.pointer (some ⟨w.heap.size + 1, 0, none⟩)) ∧ RefAt w' (w.heap.size + 1) w.heap.size S0) ∧ Below w.heap.size w w' := by
  have hmk := run_make
  have HR := Lib.hid (ref_row w.heap.size)
  go_enter Try.func12, Try.ntmps12
  go_wp2
  go_ret
  refine ⟨⟨rfl, ?_⟩, ((Below.refl _ _).alloc (Nat.le_refl _) _).alloc (by simp) _⟩
  rw [HR.out]
  have e1 := (Blk.new w 32768 5 (memF S0.m)).alloc (.cells (arrOf 35 (refF S0 w.heap.size)) 64)
  have e2 := Blk.new (w.alloc (.cells (arrOf 32768 (memF S0.m)) 5)) 35 64 (refF S0 w.heap.size)
  rw [World.size_alloc] at e2
  exact ⟨by omega, e2, e1⟩
end Go.Proofs.Ytpclikbjpjoccaa
namespace Go.Proofs.Ytpclikbjpjoccaa
open Go Go.RowKit
set_option linter.unusedVariables false
set_option linter.unusedSimpArgs false
theorem host_aligned (to : Int) (h0 : 0 ≤ to) (h1 : to ≤ 4294967295) (h : to % 4 = 0) (w : World) :
    Calls Try.prog 62 #[.int .u32 to] w fun e w' => e = .returned (.int .u32 to) ∧ w = w' := by
  have hq : (to % 4 != 0) = false := by simp [h]
  go_enter Try.func62, Try.ntmps62
  go_wp2
  go_ret
  exact ⟨rfl, rfl⟩
abbrev trapV (k y : Int) : Value := .iface 75 (.agg #[.int .i64 k, .int .u32 y])
abbrev trapE (k y : Int) : Ending := .panicked [{ v := trapV k y, recovered := false }]
theorem host_aligned_no (to : Int) (h0 : 0 ≤ to) (h1 : to ≤ 4294967295) (h : to % 4 ≠ 0) (w : World) :
    Calls Try.prog 62 #[.int .u32 to] w fun e w' => e = trapE 5 to ∧ w = w' := by
  have hq : (to % 4 != 0) = true := by simp [h]
  go_enter Try.func62, Try.ntmps62
  go_wp2
  exact ⟨rfl, rfl, rfl⟩
theorem host_links (w : World) (hb mb : Nat) (S : HS) (hH : HostAt w hb mb S) (hG : Good S) (rd to : Int) (hr0 : -9223372036854775808 ≤ rd) (hr1 : rd ≤ 9223372036854775807) (h0 : 0 ≤ to) (h1 : to ≤ 4294967295) (h : to % 4 = 0) :
    Calls Try.prog 60 #[.pointer (some ⟨hb, 0, none⟩), .int .i64 rd, .int .u32 to] w fun e w' => e = .returned (.tuple #[]) ∧ Makes w hb mb ((putX S rd ((S.pc + 4) % 4294967296)).setPC to) w' := by
  have hpc := hH.pc
  have hp0 := hG.pc
  go_enter Try.func60, Try.ntmps60
  go_wp2_with (first | (go_at_call 62; refine (host_aligned to h0 h1 h _).mono ?_; rintro e w' ⟨rfl, rfl⟩) | (go_at_call 19; refine (host_SetX _ hb mb S hH rd _ hr0 hr1).mono ?_; rintro e w1 ⟨rfl, hM⟩; have c1 := hM.at_.pc; have c2 := hM.at_.h.free 33; have HM := Lib.hid hM; clear hM))
  go_end0
  exact ⟨rfl, HM.out.at_.setPC to, HM.out.turn.set (Or.inl rfl) _⟩
theorem host_links_no (w : World) (hb : Nat) (rd to : Int) (h0 : 0 ≤ to) (h1 : to ≤ 4294967295) (h : to % 4 ≠ 0) :
    Calls Try.prog 60 #[.pointer (some ⟨hb, 0, none⟩), .int .i64 rd, .int .u32 to] w fun e w' => e = trapE 5 to ∧ w = w' := by
  go_enter Try.func60, Try.ntmps60
  go_wp2_with (first | (go_at_call 62; refine (host_aligned_no to h0 h1 h _).mono ?_; rintro e w' ⟨rfl, rfl⟩))
  exact ⟨rfl, rfl, rfl⟩
def lsz (op : Int) : Int := if op = 11 ∨ op = 14 then 1 else if op = 12 ∨ op = 15 then 2 else 4
def lvl (S : HS) (op a : Int) : Int := if op ≤ 13 then sgn (ldV S a (lsz op)) (8 * lsz op) % 4294967296 else ldV S a (lsz op)
theorem lvl_bd {S : HS} (h : Good S) (op a : Int) : 0 ≤ lvl S op a ∧ lvl S op a ≤ 4294967295 := by
  unfold lvl; split
  · omega
  · exact ldV_bd h _ _
theorem host_loads (w : World) (hb mb : Nat) (S : HS) (hH : HostAt w hb mb S) (hG : Good S) (op a : Int) (ho : 11 ≤ op ∧ op ≤ 15) (h0 : 0 ≤ a) (h1 : a ≤ 4294967295) (hc : canB a (lsz op) = true) :
    Calls Try.prog 63 #[.pointer (some ⟨hb, 0, none⟩), .int .i64 op, .int .u32 a] w fun e w' => e = .returned (.int .u32 (lvl S op a)) ∧ Below w.heap.size w w' := by
  have hL := ldV_bd hG a (lsz op)
  obtain ⟨L, hLe⟩ : ∃ L, L = ldV S a (lsz op) := ⟨_, rfl⟩
  have HV : Hid (lvl S op a = if op ≤ 13 then sgn L (8 * lsz op) % 4294967296 else L) := Lib.hid (by unfold lvl; rw [hLe])
  rw [← hLe] at hL
  have HC := Lib.hid hc; clear hc
  have HLe := Lib.hid hLe; clear hLe
  have hop : op = 11 ∨ op = 12 ∨ op = 13 ∨ op = 14 ∨ op = 15 := by omega
  clear ho
  rcases hop with rfl | rfl | rfl | rfl | rfl
  all_goals
    simp only [lsz, Int.reduceEq, or_false, false_or, or_true, true_or, or_self, if_true, if_false, Int.reduceLE, Int.reduceMul] at HC HLe HV
    go_enter Try.func63, Try.ntmps63
    go_wp2_with (first | (go_at_call 15; refine (host_Load _ hb mb S (hH.alloc _) hG a _ h0 h1).mono ?_; rw [HC.out, ← HLe.out]; rintro e w1 ⟨rfl, hB⟩; have HB := Lib.hid hB; clear hB) | (go_at_call 73; refine (bits_Signed L _ hL.1 (by omega) _).mono ?_; rintro e w' ⟨rfl, rfl⟩))
    go_ret
    exact ⟨by rw [HV.out]; rfl, ((Below.refl _ _).alloc (Nat.le_refl _) _).trans (HB.out.mono (by simp))⟩
theorem host_loads_no (w : World) (hb mb : Nat) (S : HS) (hH : HostAt w hb mb S) (hG : Good S) (op a : Int) (ho : 11 ≤ op ∧ op ≤ 15) (h0 : 0 ≤ a) (h1 : a ≤ 4294967295) (hc : canB a (lsz op) = false) :
    Calls Try.prog 63 #[.pointer (some ⟨hb, 0, none⟩), .int .i64 op, .int .u32 a] w fun e w' => e = trapE 3 a ∧ Below w.heap.size w w' := by
  have HC := Lib.hid hc; clear hc
  have hop : op = 11 ∨ op = 12 ∨ op = 13 ∨ op = 14 ∨ op = 15 := by omega
  clear ho
  rcases hop with rfl | rfl | rfl | rfl | rfl
  all_goals
    simp only [lsz, Int.reduceEq, or_false, false_or, or_true, true_or, or_self, if_true, if_false, Int.reduceLE, Int.reduceMul] at HC
    go_enter Try.func63, Try.ntmps63
    go_wp2_with (first | (go_at_call 15; refine (host_Load _ hb mb S (hH.alloc _) hG a _ h0 h1).mono ?_; rw [HC.out]; rintro e w1 ⟨rfl, hB⟩; have HB := Lib.hid hB; clear hB))
    exact ⟨rfl, rfl, ((Below.refl _ _).alloc (Nat.le_refl _) _).trans (HB.out.mono (by simp))⟩
def ssz (op : Int) : Int := if op = 16 then 1 else if op = 17 then 2 else 4
theorem host_stores (w : World) (hb mb : Nat) (S : HS) (hH : HostAt w hb mb S) (op a v : Int) (ho : 16 ≤ op ∧ op ≤ 18) (h0 : 0 ≤ a) (h1 : a ≤ 4294967295) (hv0 : 0 ≤ v) (hv1 : v ≤ 4294967295) (hc : canB a (ssz op) = true) :
    Calls Try.prog 64 #[.pointer (some ⟨hb, 0, none⟩), .int .i64 op, .int .u32 a, .int .u32 v] w fun e w' => e = .returned (.tuple #[]) ∧ Makes w hb mb (stM S a (ssz op) v) w' := by
  have HC := Lib.hid hc; clear hc
  have hop : op = 16 ∨ op = 17 ∨ op = 18 := by omega
  clear ho
  rcases hop with rfl | rfl | rfl
  all_goals
    simp only [ssz, Int.reduceEq, if_true, if_false] at HC ⊢
    go_enter Try.func64, Try.ntmps64
    go_wp2_with (first | (go_at_call 13; refine (host_Store _ hb mb S hH a _ v h0 h1 hv0 hv1).mono ?_; rw [HC.out]; rintro e w1 ⟨rfl, hM⟩; have HM := Lib.hid hM; clear hM))
    go_end0
    exact ⟨rfl, HM.out⟩
theorem host_stores_no (w : World) (hb mb : Nat) (S : HS) (hH : HostAt w hb mb S) (op a v : Int) (ho : 16 ≤ op ∧ op ≤ 18) (h0 : 0 ≤ a) (h1 : a ≤ 4294967295) (hv0 : 0 ≤ v) (hv1 : v ≤ 4294967295) (hc : canB a (ssz op) = false) :
    Calls Try.prog 64 #[.pointer (some ⟨hb, 0, none⟩), .int .i64 op, .int .u32 a, .int .u32 v] w fun e w' => e = trapE 4 a ∧ Makes w hb mb S w' := by
  have HC := Lib.hid hc
  have HS : Hid (stM S a (ssz op) v = S) := Lib.hid (by unfold stM; rw [hc]; rfl)
  clear hc
  have hop : op = 16 ∨ op = 17 ∨ op = 18 := by omega
  clear ho
  rcases hop with rfl | rfl | rfl
  all_goals
    simp only [ssz, Int.reduceEq, if_true, if_false] at HC HS
    go_enter Try.func64, Try.ntmps64
    go_wp2_with (first | (go_at_call 13; refine (host_Store _ hb mb S hH a _ v h0 h1 hv0 hv1).mono ?_; rw [HC.out, HS.out]; rintro e w1 ⟨rfl, hM⟩; have HM := Lib.hid hM; clear hM))
    exact ⟨rfl, rfl, HM.out⟩
def imOp (k : Int) : Int := if k = 0 then 28 else if k = 1 then 31 else if k = 2 then 32 else if k = 3 then 33 else if k = 4 then 36 else if k = 5 then 37 else if k = 6 then 30 else if k = 7 then 34 else 35
set_option maxRecDepth 10000 in
theorem host_immediateOp (k : Int) (h : 0 ≤ k ∧ k ≤ 8) (w : World) :
    Calls Try.prog 66 #[.int .i64 k] w fun e w' => e = .returned (.int .i64 (imOp k)) ∧ w = w' := by
  have hk : k = 0 ∨ k = 1 ∨ k = 2 ∨ k = 3 ∨ k = 4 ∨ k = 5 ∨ k = 6 ∨ k = 7 ∨ k = 8 := by omega
  clear h
  have ib : ∀ w, (Instr.build 83 #[(0, .int .i64 28), (1, .int .i64 31), (2, .int .i64 32), (3, .int .i64 33), (4, .int .i64 36), (5, .int .i64 37), (6, .int .i64 30), (7, .int .i64 34), (8, .int .i64 35)]).run Try.prog w = .ok (.agg #[.int .i64 28, .int .i64 31, .int .i64 32, .int .i64 33, .int .i64 36, .int .i64 37, .int .i64 30, .int .i64 34, .int .i64 35]) w := fun _ => by kernel_rfl
  rcases hk with rfl | rfl | rfl | rfl | rfl | rfl | rfl | rfl | rfl
  · have ix : ∀ w, (Instr.index 83 (.agg #[.int .i64 28, .int .i64 31, .int .i64 32, .int .i64 33, .int .i64 36, .int .i64 37, .int .i64 30, .int .i64 34, .int .i64 35]) (.int .i64 0)).run Try.prog w = .ok (.int .i64 28) w := fun _ => by kernel_rfl
    go_enter Try.func66, Try.ntmps66
    go_wp2
    go_ret
    exact ⟨rfl, rfl⟩
  · have ix : ∀ w, (Instr.index 83 (.agg #[.int .i64 28, .int .i64 31, .int .i64 32, .int .i64 33, .int .i64 36, .int .i64 37, .int .i64 30, .int .i64 34, .int .i64 35]) (.int .i64 1)).run Try.prog w = .ok (.int .i64 31) w := fun _ => by kernel_rfl
    go_enter Try.func66, Try.ntmps66
    go_wp2
    go_ret
    exact ⟨rfl, rfl⟩
  · have ix : ∀ w, (Instr.index 83 (.agg #[.int .i64 28, .int .i64 31, .int .i64 32, .int .i64 33, .int .i64 36, .int .i64 37, .int .i64 30, .int .i64 34, .int .i64 35]) (.int .i64 2)).run Try.prog w = .ok (.int .i64 32) w := fun _ => by kernel_rfl
    go_enter Try.func66, Try.ntmps66
    go_wp2
    go_ret
    exact ⟨rfl, rfl⟩
  · have ix : ∀ w, (Instr.index 83 (.agg #[.int .i64 28, .int .i64 31, .int .i64 32, .int .i64 33, .int .i64 36, .int .i64 37, .int .i64 30, .int .i64 34, .int .i64 35]) (.int .i64 3)).run Try.prog w = .ok (.int .i64 33) w := fun _ => by kernel_rfl
    go_enter Try.func66, Try.ntmps66
    go_wp2
    go_ret
    exact ⟨rfl, rfl⟩
  · have ix : ∀ w, (Instr.index 83 (.agg #[.int .i64 28, .int .i64 31, .int .i64 32, .int .i64 33, .int .i64 36, .int .i64 37, .int .i64 30, .int .i64 34, .int .i64 35]) (.int .i64 4)).run Try.prog w = .ok (.int .i64 36) w := fun _ => by kernel_rfl
    go_enter Try.func66, Try.ntmps66
    go_wp2
    go_ret
    exact ⟨rfl, rfl⟩
  · have ix : ∀ w, (Instr.index 83 (.agg #[.int .i64 28, .int .i64 31, .int .i64 32, .int .i64 33, .int .i64 36, .int .i64 37, .int .i64 30, .int .i64 34, .int .i64 35]) (.int .i64 5)).run Try.prog w = .ok (.int .i64 37) w := fun _ => by kernel_rfl
    go_enter Try.func66, Try.ntmps66
    go_wp2
    go_ret
    exact ⟨rfl, rfl⟩
  · have ix : ∀ w, (Instr.index 83 (.agg #[.int .i64 28, .int .i64 31, .int .i64 32, .int .i64 33, .int .i64 36, .int .i64 37, .int .i64 30, .int .i64 34, .int .i64 35]) (.int .i64 6)).run Try.prog w = .ok (.int .i64 30) w := fun _ => by kernel_rfl
    go_enter Try.func66, Try.ntmps66
    go_wp2
    go_ret
    exact ⟨rfl, rfl⟩
  · have ix : ∀ w, (Instr.index 83 (.agg #[.int .i64 28, .int .i64 31, .int .i64 32, .int .i64 33, .int .i64 36, .int .i64 37, .int .i64 30, .int .i64 34, .int .i64 35]) (.int .i64 7)).run Try.prog w = .ok (.int .i64 34) w := fun _ => by kernel_rfl
    go_enter Try.func66, Try.ntmps66
    go_wp2
    go_ret
    exact ⟨rfl, rfl⟩
  · have ix : ∀ w, (Instr.index 83 (.agg #[.int .i64 28, .int .i64 31, .int .i64 32, .int .i64 33, .int .i64 36, .int .i64 37, .int .i64 30, .int .i64 34, .int .i64 35]) (.int .i64 8)).run Try.prog w = .ok (.int .i64 35) w := fun _ => by kernel_rfl
    go_enter Try.func66, Try.ntmps66
    go_wp2
    go_ret
    exact ⟨rfl, rfl⟩
end Go.Proofs.Ytpclikbjpjoccaa
