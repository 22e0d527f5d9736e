/- A state's cells, a block of them, its registers as bytes: the contracts. -/
import Derived.Test.YtndfcpkmchjncaaStU
import Derived.Test.YtndfcpkmchjncaaBitP
import Derived.Test.YtndfcpkmchjncaaRows6
import Derived.OpenShut
import Derived.Deep.RegionWith
namespace Go.Proofs.Ytndfcpkmchjncaa
open Go Go.RowKit Go.Sx
set_option linter.unusedVariables false
set_option linter.unusedSimpArgs false

structure F6 where
  c : Bool
  p : Bool
  a : Bool
  z : Bool
  s : Bool
  o : Bool
def upd {α : Type} (f : Nat → α) (i : Nat) (v : α) : Nat → α := fun j => if j = i then v else f j
def reg8 (R : Nat → Int) (i : Nat) : Int := if i < 4 then R i % 256 else R (i - 4) / 256 % 256
def set8 (R : Nat → Int) (i : Nat) (v : Int) : Nat → Int := if i < 4 then upd R i (R i - R i % 256 + v) else upd R (i - 4) (R (i - 4) - R (i - 4) / 256 % 256 * 256 + v * 256)
def Wd (R : Nat → Int) : Prop := ∀ i, i < 8 → 0 ≤ R i ∧ R i ≤ 4294967295
theorem reg8_bd {R : Nat → Int} (i : Nat) : 0 ≤ reg8 R i ∧ reg8 R i < 256 := by unfold reg8; split <;> omega
theorem set8_bd {R : Nat → Int} (h : Wd R) {i : Nat} (hi : i < 8) {v : Int} (hv : 0 ≤ v ∧ v < 256) : Wd (set8 R i v) := by
  intro j hj
  have h1 := h j hj
  unfold set8
  split
  · unfold upd; split
    · have := h i (by omega); omega
    · exact h1
  · unfold upd; split
    · have := h (i - 4) (by omega); omega
    · exact h1
theorem set8_same {R : Nat → Int} (h : Wd R) {i : Nat} (hi : i < 8) {v : Int} (hv : 0 ≤ v ∧ v < 256) : reg8 (set8 R i v) i = v := by
  unfold reg8 set8
  by_cases h4 : i < 4
  · rw [if_pos h4, if_pos h4]; unfold upd; rw [if_pos rfl]; have := h i hi; omega
  · rw [if_neg h4, if_neg h4]; unfold upd; rw [if_pos rfl]; have := h (i - 4) (by omega); omega
theorem set8_other {R : Nat → Int} (h : Wd R) {i j : Nat} (hi : i < 8) (hj : j < 8) (hij : j ≠ i) {v : Int} (hv : 0 ≤ v ∧ v < 256) : reg8 (set8 R i v) j = reg8 R j := by
  unfold reg8 set8
  by_cases h4 : i < 4 <;> by_cases k4 : j < 4
  · rw [if_pos h4, if_pos k4, if_pos k4]; unfold upd; rw [if_neg hij]
  · rw [if_pos h4, if_neg k4, if_neg k4]; unfold upd; split
    · have := h i hi; have e : j - 4 = i := by omega
      rw [e]; omega
    · rfl
  · rw [if_neg h4, if_pos k4, if_pos k4]; unfold upd; split
    · have e : j = i - 4 := by omega
      have := h (i - 4) (by omega); rw [e]; omega
    · rfl
  · rw [if_neg h4, if_neg k4, if_neg k4]; unfold upd; rw [if_neg (by omega)]
theorem set8_high {R : Nat → Int} (h : Wd R) {i : Nat} (hi : i < 8) {v : Int} (hv : 0 ≤ v ∧ v < 256) : (∀ j, j < 4 → set8 R i v j / 65536 = R j / 65536) ∧ ∀ j, 4 ≤ j → set8 R i v j = R j := by
  refine ⟨fun j hj => ?_, fun j hj => ?_⟩
  · unfold set8; split
    · unfold upd; split
      · have := h i hi; rename_i e; rw [e]; omega
      · rfl
    · unfold upd; split
      · have := h (i - 4) (by omega); rename_i e; rw [e]; omega
      · rfl
  · unfold set8; split
    · unfold upd; rw [if_neg (by omega)]
    · unfold upd; rw [if_neg (by omega)]

theorem row_setAt {w : World} {g i : Nat} {A : Array Value} (h : Row w g A) (u : Value) (hi : i < A.size) : Row (w.setCell ⟨g, i, none⟩ u) g (A.setIfInBounds i u) := by
  refine ⟨by simpa [World.setCell] using h.lt, fun j v hj => ?_, fun j => by rw [World.frozen?_setCell]; exact h.free j⟩
  by_cases hji : j = i
  · subst hji
    rw [Array.getElem?_setIfInBounds_self_of_lt hi] at hj
    obtain rfl := Option.some.inj hj
    exact World.cell?_setCell_same _ _ _ (by rw [h.cell j _ (Array.getElem?_eq_getElem hi)])
  · rw [Array.getElem?_setIfInBounds_ne (Ne.symm hji)] at hj
    rw [World.cell?_setCell_other _ _ _ _ (fun e => hji (congrArg Addr.off e).symm)]
    exact h.cell j v hj
theorem setCells_size (b : Nat) : ∀ (vs : List Value) (o : Nat) (w : World), (w.setCells b o vs).heap.size = w.heap.size
  | [], _, _ => rfl
  | v :: r, o, w => by rw [World.setCells, setCells_size b r]; simp [World.setCell]
theorem setCells_frozen (b : Nat) (p : Addr) : ∀ (vs : List Value) (o : Nat) (w : World), (w.setCells b o vs).frozen? p = w.frozen? p
  | [], _, _ => rfl
  | v :: r, o, w => by rw [World.setCells, setCells_frozen b p r, World.frozen?_setCell]
theorem row_puts {w : World} {g : Nat} {A : Array Value} (us : List Value) (h : Row w g A) (hs : us.length ≤ A.size) : Row (w.setCells g 0 us) g us.toArray := by
  refine ⟨by rw [setCells_size]; exact h.lt, fun j v hj => ?_, fun j => by rw [setCells_frozen]; exact h.free j⟩
  have hl : j < us.length := by
    rcases Nat.lt_or_ge j us.length with h' | h'
    · exact h'
    · rw [List.getElem?_toArray, List.getElem?_eq_none h'] at hj; cases hj
  have k := World.cell?_setCells_in g us 0 w (fun i hi => by rw [Nat.zero_add, h.cell i _ (Array.getElem?_eq_getElem (by omega))]; rfl) j hl
  rw [Nat.zero_add] at k
  rw [k]
  rw [List.getElem?_toArray, List.getElem?_eq_getElem hl] at hj
  exact hj
theorem row_put17 {w : World} {g : Nat} {v0 v1 v2 v3 v4 v5 v6 v7 v8 v9 v10 v11 v12 v13 v14 v15 v16 : Value} (u0 u1 u2 u3 u4 u5 u6 u7 u8 u9 u10 u11 u12 u13 u14 u15 u16 : Value) (h : Row w g #[v0, v1, v2, v3, v4, v5, v6, v7, v8, v9, v10, v11, v12, v13, v14, v15, v16]) : Row (((((((((((((((((w.setCell ⟨g, 0, none⟩ u0).setCell ⟨g, 1, none⟩ u1).setCell ⟨g, 2, none⟩ u2).setCell ⟨g, 3, none⟩ u3).setCell ⟨g, 4, none⟩ u4).setCell ⟨g, 5, none⟩ u5).setCell ⟨g, 6, none⟩ u6).setCell ⟨g, 7, none⟩ u7).setCell ⟨g, 8, none⟩ u8).setCell ⟨g, 9, none⟩ u9).setCell ⟨g, 10, none⟩ u10).setCell ⟨g, 11, none⟩ u11).setCell ⟨g, 12, none⟩ u12).setCell ⟨g, 13, none⟩ u13).setCell ⟨g, 14, none⟩ u14).setCell ⟨g, 15, none⟩ u15).setCell ⟨g, 16, none⟩ u16) g #[u0, u1, u2, u3, u4, u5, u6, u7, u8, u9, u10, u11, u12, u13, u14, u15, u16] :=
  row_puts [u0, u1, u2, u3, u4, u5, u6, u7, u8, u9, u10, u11, u12, u13, u14, u15, u16] h (Nat.le_refl 17)
theorem row_far17 {w : World} {g b : Nat} {A : Array Value} (u0 u1 u2 u3 u4 u5 u6 u7 u8 u9 u10 u11 u12 u13 u14 u15 u16 : Value) (hp : g ≠ b) (h : Row w b A) : Row (((((((((((((((((w.setCell ⟨g, 0, none⟩ u0).setCell ⟨g, 1, none⟩ u1).setCell ⟨g, 2, none⟩ u2).setCell ⟨g, 3, none⟩ u3).setCell ⟨g, 4, none⟩ u4).setCell ⟨g, 5, none⟩ u5).setCell ⟨g, 6, none⟩ u6).setCell ⟨g, 7, none⟩ u7).setCell ⟨g, 8, none⟩ u8).setCell ⟨g, 9, none⟩ u9).setCell ⟨g, 10, none⟩ u10).setCell ⟨g, 11, none⟩ u11).setCell ⟨g, 12, none⟩ u12).setCell ⟨g, 13, none⟩ u13).setCell ⟨g, 14, none⟩ u14).setCell ⟨g, 15, none⟩ u15).setCell ⟨g, 16, none⟩ u16) b A :=
  (row_set (row_set (row_set (row_set (row_set (row_set (row_set (row_set (row_set (row_set (row_set (row_set (row_set (row_set (row_set (row_set (row_set h hp _) hp _) hp _) hp _) hp _) hp _) hp _) hp _) hp _) hp _) hp _) hp _) hp _) hp _) hp _) hp _) hp _)
theorem below_put17 {a w : World} {g : Nat} (u0 u1 u2 u3 u4 u5 u6 u7 u8 u9 u10 u11 u12 u13 u14 u15 u16 : Value) (hp : a.heap.size ≤ g) (h : Below a.heap.size a w) : Below a.heap.size a (((((((((((((((((w.setCell ⟨g, 0, none⟩ u0).setCell ⟨g, 1, none⟩ u1).setCell ⟨g, 2, none⟩ u2).setCell ⟨g, 3, none⟩ u3).setCell ⟨g, 4, none⟩ u4).setCell ⟨g, 5, none⟩ u5).setCell ⟨g, 6, none⟩ u6).setCell ⟨g, 7, none⟩ u7).setCell ⟨g, 8, none⟩ u8).setCell ⟨g, 9, none⟩ u9).setCell ⟨g, 10, none⟩ u10).setCell ⟨g, 11, none⟩ u11).setCell ⟨g, 12, none⟩ u12).setCell ⟨g, 13, none⟩ u13).setCell ⟨g, 14, none⟩ u14).setCell ⟨g, 15, none⟩ u15).setCell ⟨g, 16, none⟩ u16) :=
  (below_set (below_set (below_set (below_set (below_set (below_set (below_set (below_set (below_set (below_set (below_set (below_set (below_set (below_set (below_set (below_set (below_set h hp _) hp _) hp _) hp _) hp _) hp _) hp _) hp _) hp _) hp _) hp _) hp _) hp _) hp _) hp _) hp _) hp _)
theorem row17 {w : World} {g : Nat} {v0 v1 v2 v3 v4 v5 v6 v7 v8 v9 v10 v11 v12 v13 v14 v15 v16 : Value} (h : Row w g #[v0, v1, v2, v3, v4, v5, v6, v7, v8, v9, v10, v11, v12, v13, v14, v15, v16]) : w.cell? ⟨g, 0, none⟩ = some v0 ∧ w.cell? ⟨g, 1, none⟩ = some v1 ∧ w.cell? ⟨g, 2, none⟩ = some v2 ∧ w.cell? ⟨g, 3, none⟩ = some v3 ∧ w.cell? ⟨g, 4, none⟩ = some v4 ∧ w.cell? ⟨g, 5, none⟩ = some v5 ∧ w.cell? ⟨g, 6, none⟩ = some v6 ∧ w.cell? ⟨g, 7, none⟩ = some v7 ∧ w.cell? ⟨g, 8, none⟩ = some v8 ∧ w.cell? ⟨g, 9, none⟩ = some v9 ∧ w.cell? ⟨g, 10, none⟩ = some v10 ∧ w.cell? ⟨g, 11, none⟩ = some v11 ∧ w.cell? ⟨g, 12, none⟩ = some v12 ∧ w.cell? ⟨g, 13, none⟩ = some v13 ∧ w.cell? ⟨g, 14, none⟩ = some v14 ∧ w.cell? ⟨g, 15, none⟩ = some v15 ∧ w.cell? ⟨g, 16, none⟩ = some v16 := ⟨h.cell 0 _ rfl, h.cell 1 _ rfl, h.cell 2 _ rfl, h.cell 3 _ rfl, h.cell 4 _ rfl, h.cell 5 _ rfl, h.cell 6 _ rfl, h.cell 7 _ rfl, h.cell 8 _ rfl, h.cell 9 _ rfl, h.cell 10 _ rfl, h.cell 11 _ rfl, h.cell 12 _ rfl, h.cell 13 _ rfl, h.cell 14 _ rfl, h.cell 15 _ rfl, h.cell 16 _ rfl⟩
theorem row8 {w : World} {g : Nat} {v0 v1 v2 v3 v4 v5 v6 v7 : Value} (h : Row w g #[v0, v1, v2, v3, v4, v5, v6, v7]) : w.cell? ⟨g, 0, none⟩ = some v0 ∧ w.cell? ⟨g, 1, none⟩ = some v1 ∧ w.cell? ⟨g, 2, none⟩ = some v2 ∧ w.cell? ⟨g, 3, none⟩ = some v3 ∧ w.cell? ⟨g, 4, none⟩ = some v4 ∧ w.cell? ⟨g, 5, none⟩ = some v5 ∧ w.cell? ⟨g, 6, none⟩ = some v6 ∧ w.cell? ⟨g, 7, none⟩ = some v7 := ⟨h.cell 0 _ rfl, h.cell 1 _ rfl, h.cell 2 _ rfl, h.cell 3 _ rfl, h.cell 4 _ rfl, h.cell 5 _ rfl, h.cell 6 _ rfl, h.cell 7 _ rfl⟩
theorem row_reg {w : World} {g : Nat} {R : Nat → Int} {pc : Int} {f : F6} {df : Bool} {fl : Int} (h : Row w g #[.int .u32 (R 0), .int .u32 (R 1), .int .u32 (R 2), .int .u32 (R 3), .int .u32 (R 4), .int .u32 (R 5), .int .u32 (R 6), .int .u32 (R 7), .int .u32 pc, .bool f.c, .bool f.p, .bool f.a, .bool f.z, .bool f.s, .bool f.o, .bool df, .int .u64 fl]) {i : Nat} (hi : i < 8) : w.cell? ⟨g, i, none⟩ = some (.int .u32 (R i)) := by
  refine h.cell i _ ?_
  have : i = 0 ∨ i = 1 ∨ i = 2 ∨ i = 3 ∨ i = 4 ∨ i = 5 ∨ i = 6 ∨ i = 7 := by omega
  rcases this with rfl | rfl | rfl | rfl | rfl | rfl | rfl | rfl <;> rfl
theorem row_want {w : World} {g : Nat} {W : Nat → Int} (h : Row w g #[.int .u32 (W 0), .int .u32 (W 1), .int .u32 (W 2), .int .u32 (W 3), .int .u32 (W 4), .int .u32 (W 5), .int .u32 (W 6), .int .u32 (W 7)]) {i : Nat} (hi : i < 8) : w.cell? ⟨g, i, none⟩ = some (.int .u32 (W i)) := by
  refine h.cell i _ ?_
  have : i = 0 ∨ i = 1 ∨ i = 2 ∨ i = 3 ∨ i = 4 ∨ i = 5 ∨ i = 6 ∨ i = 7 := by omega
  rcases this with rfl | rfl | rfl | rfl | rfl | rfl | rfl | rfl <;> rfl
theorem row_wset {w : World} {g : Nat} {W : Nat → Int} (h : Row w g #[.int .u32 (W 0), .int .u32 (W 1), .int .u32 (W 2), .int .u32 (W 3), .int .u32 (W 4), .int .u32 (W 5), .int .u32 (W 6), .int .u32 (W 7)]) {i : Nat} (hi : i < 8) (v : Int) : Row (w.setCell ⟨g, i, none⟩ (.int .u32 v)) g #[.int .u32 ((upd W i v) 0), .int .u32 ((upd W i v) 1), .int .u32 ((upd W i v) 2), .int .u32 ((upd W i v) 3), .int .u32 ((upd W i v) 4), .int .u32 ((upd W i v) 5), .int .u32 ((upd W i v) 6), .int .u32 ((upd W i v) 7)] := by
  have k := row_setAt h (.int .u32 v) (i := i) (by simpa using hi)
  have : i = 0 ∨ i = 1 ∨ i = 2 ∨ i = 3 ∨ i = 4 ∨ i = 5 ∨ i = 6 ∨ i = 7 := by omega
  rcases this with rfl | rfl | rfl | rfl | rfl | rfl | rfl | rfl <;> exact k

theorem fld_low (x : Int) : btField x (ibin .mul .i64 (ibin .quo .i64 0 4) 8) 8 = x % 256 := by
  show fld x 0 8 = _
  rw [fld_l x 0 8 1 256 (by decide) (by decide) (by decide) (by decide) rfl rfl]; omega
theorem fld_high (x : Int) : btField x (ibin .mul .i64 (ibin .quo .i64 4 4) 8) 8 = x / 256 % 256 := by
  show fld x 8 8 = _
  exact fld_l x 8 8 256 256 (by decide) (by decide) (by decide) (by decide) rfl rfl
theorem stReg_is {R : Nat → Int} (pc : Int) (f : F6) (df : Bool) (fl : Int) (z : Int) (i : Nat) (hi : i < 8) (hz : z % 8 = (i : Int)) : stReg (R 0) (R 1) (R 2) (R 3) (R 4) (R 5) (R 6) (R 7) pc f.c f.p f.a f.z f.s f.o df fl z = reg8 R i := by
  have hm := m8_eq z
  rw [hz] at hm
  unfold stReg
  rw [hm]
  have h8 : i = 0 ∨ i = 1 ∨ i = 2 ∨ i = 3 ∨ i = 4 ∨ i = 5 ∨ i = 6 ∨ i = 7 := by omega
  rcases h8 with rfl | rfl | rfl | rfl | rfl | rfl | rfl | rfl
  · exact fld_low _
  · exact fld_low _
  · exact fld_low _
  · exact fld_low _
  · exact fld_high _
  · exact fld_high _
  · exact fld_high _
  · exact fld_high _
theorem and255 (a : Int) : ibin .and .u32 a 255 = a % 256 := and_u32 a 255 8 256 (by decide) (by decide) (by decide)
theorem andNot_mask (a : Int) (h0 : 0 ≤ a) (h1 : a < 4294967296) (M : Int) (hM : 0 ≤ M ∧ M < 4294967296) : ibin .andNot .u32 a M = a - ibin .and .u32 a M := by
  have hs := bv_split (BitVec.ofInt 32 a) (BitVec.ofInt 32 M)
  have e1 : (BitVec.ofInt 32 a).toNat = a.toNat := by rw [BitVec.toNat_ofInt]; omega
  have l1 : (BitVec.ofInt 32 a &&& BitVec.ofInt 32 M).toNat ≤ a.toNat := by rw [BitVec.toNat_and, e1]; exact Nat.and_le_left
  have l2 : (BitVec.ofInt 32 a &&& ~~~(BitVec.ofInt 32 M)).toNat ≤ a.toNat := by rw [BitVec.toNat_and, e1]; exact Nat.and_le_left
  have hn := congrArg BitVec.toNat hs
  rw [BitVec.toNat_add, e1] at hn
  show IntKind.u32.wrap ((BitVec.ofInt 32 a &&& ~~~(BitVec.ofInt 32 M)).toNat : Int) = a - IntKind.u32.wrap ((BitVec.ofInt 32 a &&& BitVec.ofInt 32 M).toNat : Int)
  have hlt := (BitVec.ofInt 32 a &&& BitVec.ofInt 32 M).isLt
  have hlt2 := (BitVec.ofInt 32 a &&& ~~~(BitVec.ofInt 32 M)).isLt
  rw [IntKind.wrap_u32, IntKind.wrap_u32]
  by_cases hc : (BitVec.ofInt 32 a &&& BitVec.ofInt 32 M).toNat + (BitVec.ofInt 32 a &&& ~~~(BitVec.ofInt 32 M)).toNat < 2 ^ 32
  · rw [Nat.mod_eq_of_lt hc] at hn; omega
  · omega
theorem nat_mask (n : Nat) : n &&& 65280 = n / 256 % 256 * 256 := by
  have e : n &&& (255 <<< 8) = ((n >>> 8) &&& 255) <<< 8 := by
    apply Nat.eq_of_testBit_eq
    intro i
    simp only [Nat.testBit_and, Nat.testBit_shiftLeft, Nat.testBit_shiftRight]
    by_cases h : 8 ≤ i
    · simp only [h, decide_true, Bool.true_and]; rw [Nat.add_sub_cancel' h]
    · simp only [h, decide_false, Bool.false_and, Bool.and_false]
  have e2 : (n >>> 8) &&& 255 = n / 256 % 256 := by
    rw [Nat.shiftRight_eq_div_pow, show (255 : Nat) = 2 ^ 8 - 1 from rfl, Nat.and_two_pow_sub_one_eq_mod]
  rw [e2, Nat.shiftLeft_eq, Nat.shiftLeft_eq] at e
  exact e
theorem and_mid (a : Int) (h0 : 0 ≤ a) (h1 : a < 4294967296) : ibin .and .u32 a 65280 = a / 256 % 256 * 256 := by
  obtain ⟨n, rfl⟩ := Int.eq_ofNat_of_zero_le h0
  have e1 : (BitVec.ofInt 32 (n : Int)).toNat = n := by rw [BitVec.toNat_ofInt]; omega
  have e2 : (BitVec.ofInt 32 (65280 : Int)).toNat = 65280 := by decide
  show IntKind.u32.wrap ((BitVec.ofInt 32 (n : Int) &&& BitVec.ofInt 32 (65280 : Int)).toNat : Int) = _
  rw [BitVec.toNat_and, e1, e2, nat_mask, IntKind.wrap_u32]
  omega
theorem set_low (a v x : Int) (h0 : 0 ≤ a) (h1 : a ≤ 4294967295) (hv : v % 256 = x) : ibin .or .u32 (ibin .andNot .u32 a (ibin .shl .u32 255 (ibin .mul .i64 (ibin .quo .i64 0 4) 8))) (ibin .shl .u32 (ibin .and .u32 v 255) (ibin .mul .i64 (ibin .quo .i64 0 4) 8)) = a - a % 256 + x := by
  rw [mq0, shl_u32 255 0 0 1 rfl rfl, shl_u32 _ 0 0 1 rfl rfl, and255, hv]
  rw [show (255 * 1 % 4294967296 : Int) = 255 from rfl, andNot_mask a h0 (by omega) 255 (by decide), and255, show x * 1 % 4294967296 = x by omega]
  have A1 : Om 4294967040 (a - a % 256) (a - a % 256) := ⟨rfl, in_high 8 24 _ 256 (by omega) (by omega) (by omega) rfl rfl⟩
  have A2 : Om 255 x x := Om.low 8 255 (by omega) (by omega) rfl
  exact (Om.or A1 A2 (by decide)).1
theorem set_high (a v x : Int) (h0 : 0 ≤ a) (h1 : a ≤ 4294967295) (hv : v % 256 = x) : ibin .or .u32 (ibin .andNot .u32 a (ibin .shl .u32 255 (ibin .mul .i64 (ibin .quo .i64 4 4) 8))) (ibin .shl .u32 (ibin .and .u32 v 255) (ibin .mul .i64 (ibin .quo .i64 4 4) 8)) = a - a / 256 % 256 * 256 + x * 256 := by
  rw [mq4, shl_u32 255 8 8 256 rfl rfl, shl_u32 _ 8 8 256 rfl rfl, and255, hv]
  rw [show (255 * 256 % 4294967296 : Int) = 65280 from rfl, andNot_mask a h0 (by omega) 65280 (by decide), and_mid a h0 (by omega), show x * 256 % 4294967296 = x * 256 by omega]
  have A1 : Om 4294901760 (a - a % 65536) (a - a % 65536) := ⟨rfl, in_high 16 16 _ 65536 (by omega) (by omega) (by omega) rfl rfl⟩
  have A2 : Om 255 (a % 256) (a % 256) := Om.low 8 255 (by omega) (by omega) rfl
  have A3 : Om 65280 (x * 256) (x * 256) := ⟨rfl, in_high 8 8 _ 256 (by omega) (by omega) (by omega) rfl rfl⟩
  have A12 := Om.or A1 A2 (by decide)
  rw [show a - a / 256 % 256 * 256 = a - a % 65536 + a % 256 by omega, ← A12.1]
  have h := (Om.or A12 A3 (by decide)).1
  rw [h, A12.1]

theorem stSet_is {R : Nat → Int} (hR : Wd R) (pc : Int) (f : F6) (df : Bool) (fl : Int) (z : Int) (i : Nat) (hi : i < 8) (hz : z % 8 = (i : Int)) (v x : Int) (hv : v % 256 = x) :
    stSet_0 (R 0) (R 1) (R 2) (R 3) (R 4) (R 5) (R 6) (R 7) pc f.c f.p f.a f.z f.s f.o df fl z v = set8 R i x 0 ∧ stSet_1 (R 0) (R 1) (R 2) (R 3) (R 4) (R 5) (R 6) (R 7) pc f.c f.p f.a f.z f.s f.o df fl z v = set8 R i x 1 ∧ stSet_2 (R 0) (R 1) (R 2) (R 3) (R 4) (R 5) (R 6) (R 7) pc f.c f.p f.a f.z f.s f.o df fl z v = set8 R i x 2 ∧ stSet_3 (R 0) (R 1) (R 2) (R 3) (R 4) (R 5) (R 6) (R 7) pc f.c f.p f.a f.z f.s f.o df fl z v = set8 R i x 3 ∧ stSet_4 (R 0) (R 1) (R 2) (R 3) (R 4) (R 5) (R 6) (R 7) pc f.c f.p f.a f.z f.s f.o df fl z v = set8 R i x 4 ∧ stSet_5 (R 0) (R 1) (R 2) (R 3) (R 4) (R 5) (R 6) (R 7) pc f.c f.p f.a f.z f.s f.o df fl z v = set8 R i x 5 ∧ stSet_6 (R 0) (R 1) (R 2) (R 3) (R 4) (R 5) (R 6) (R 7) pc f.c f.p f.a f.z f.s f.o df fl z v = set8 R i x 6 ∧ stSet_7 (R 0) (R 1) (R 2) (R 3) (R 4) (R 5) (R 6) (R 7) pc f.c f.p f.a f.z f.s f.o df fl z v = set8 R i x 7 ∧ stSet_8 (R 0) (R 1) (R 2) (R 3) (R 4) (R 5) (R 6) (R 7) pc f.c f.p f.a f.z f.s f.o df fl z v = pc ∧ stSet_9 (R 0) (R 1) (R 2) (R 3) (R 4) (R 5) (R 6) (R 7) pc f.c f.p f.a f.z f.s f.o df fl z v = f.c ∧ stSet_10 (R 0) (R 1) (R 2) (R 3) (R 4) (R 5) (R 6) (R 7) pc f.c f.p f.a f.z f.s f.o df fl z v = f.p ∧ stSet_11 (R 0) (R 1) (R 2) (R 3) (R 4) (R 5) (R 6) (R 7) pc f.c f.p f.a f.z f.s f.o df fl z v = f.a ∧ stSet_12 (R 0) (R 1) (R 2) (R 3) (R 4) (R 5) (R 6) (R 7) pc f.c f.p f.a f.z f.s f.o df fl z v = f.z ∧ stSet_13 (R 0) (R 1) (R 2) (R 3) (R 4) (R 5) (R 6) (R 7) pc f.c f.p f.a f.z f.s f.o df fl z v = f.s ∧ stSet_14 (R 0) (R 1) (R 2) (R 3) (R 4) (R 5) (R 6) (R 7) pc f.c f.p f.a f.z f.s f.o df fl z v = f.o ∧ stSet_15 (R 0) (R 1) (R 2) (R 3) (R 4) (R 5) (R 6) (R 7) pc f.c f.p f.a f.z f.s f.o df fl z v = df ∧ stSet_16 (R 0) (R 1) (R 2) (R 3) (R 4) (R 5) (R 6) (R 7) pc f.c f.p f.a f.z f.s f.o df fl z v = fl := by
  have hm := m8_eq z
  rw [hz] at hm
  have h8 : i = 0 ∨ i = 1 ∨ i = 2 ∨ i = 3 ∨ i = 4 ∨ i = 5 ∨ i = 6 ∨ i = 7 := by omega
  rcases h8 with rfl | rfl | rfl | rfl | rfl | rfl | rfl | rfl
  · exact ⟨by unfold stSet_0; rw [hm]; exact set_low (R 0) v x (hR 0 (by decide)).1 (hR 0 (by decide)).2 hv, by unfold stSet_1; rw [hm]; rfl, by unfold stSet_2; rw [hm]; rfl, by unfold stSet_3; rw [hm]; rfl, by unfold stSet_4; rw [hm]; rfl, by unfold stSet_5; rw [hm]; rfl, by unfold stSet_6; rw [hm]; rfl, by unfold stSet_7; rw [hm]; rfl, by unfold stSet_8; rw [hm]; rfl, by unfold stSet_9; rw [hm]; rfl, by unfold stSet_10; rw [hm]; rfl, by unfold stSet_11; rw [hm]; rfl, by unfold stSet_12; rw [hm]; rfl, by unfold stSet_13; rw [hm]; rfl, by unfold stSet_14; rw [hm]; rfl, by unfold stSet_15; rw [hm]; rfl, by unfold stSet_16; rw [hm]; rfl⟩
  · exact ⟨by unfold stSet_0; rw [hm]; rfl, by unfold stSet_1; rw [hm]; exact set_low (R 1) v x (hR 1 (by decide)).1 (hR 1 (by decide)).2 hv, by unfold stSet_2; rw [hm]; rfl, by unfold stSet_3; rw [hm]; rfl, by unfold stSet_4; rw [hm]; rfl, by unfold stSet_5; rw [hm]; rfl, by unfold stSet_6; rw [hm]; rfl, by unfold stSet_7; rw [hm]; rfl, by unfold stSet_8; rw [hm]; rfl, by unfold stSet_9; rw [hm]; rfl, by unfold stSet_10; rw [hm]; rfl, by unfold stSet_11; rw [hm]; rfl, by unfold stSet_12; rw [hm]; rfl, by unfold stSet_13; rw [hm]; rfl, by unfold stSet_14; rw [hm]; rfl, by unfold stSet_15; rw [hm]; rfl, by unfold stSet_16; rw [hm]; rfl⟩
  · exact ⟨by unfold stSet_0; rw [hm]; rfl, by unfold stSet_1; rw [hm]; rfl, by unfold stSet_2; rw [hm]; exact set_low (R 2) v x (hR 2 (by decide)).1 (hR 2 (by decide)).2 hv, by unfold stSet_3; rw [hm]; rfl, by unfold stSet_4; rw [hm]; rfl, by unfold stSet_5; rw [hm]; rfl, by unfold stSet_6; rw [hm]; rfl, by unfold stSet_7; rw [hm]; rfl, by unfold stSet_8; rw [hm]; rfl, by unfold stSet_9; rw [hm]; rfl, by unfold stSet_10; rw [hm]; rfl, by unfold stSet_11; rw [hm]; rfl, by unfold stSet_12; rw [hm]; rfl, by unfold stSet_13; rw [hm]; rfl, by unfold stSet_14; rw [hm]; rfl, by unfold stSet_15; rw [hm]; rfl, by unfold stSet_16; rw [hm]; rfl⟩
  · exact ⟨by unfold stSet_0; rw [hm]; rfl, by unfold stSet_1; rw [hm]; rfl, by unfold stSet_2; rw [hm]; rfl, by unfold stSet_3; rw [hm]; exact set_low (R 3) v x (hR 3 (by decide)).1 (hR 3 (by decide)).2 hv, by unfold stSet_4; rw [hm]; rfl, by unfold stSet_5; rw [hm]; rfl, by unfold stSet_6; rw [hm]; rfl, by unfold stSet_7; rw [hm]; rfl, by unfold stSet_8; rw [hm]; rfl, by unfold stSet_9; rw [hm]; rfl, by unfold stSet_10; rw [hm]; rfl, by unfold stSet_11; rw [hm]; rfl, by unfold stSet_12; rw [hm]; rfl, by unfold stSet_13; rw [hm]; rfl, by unfold stSet_14; rw [hm]; rfl, by unfold stSet_15; rw [hm]; rfl, by unfold stSet_16; rw [hm]; rfl⟩
  · exact ⟨by unfold stSet_0; rw [hm]; exact set_high (R 0) v x (hR 0 (by decide)).1 (hR 0 (by decide)).2 hv, by unfold stSet_1; rw [hm]; rfl, by unfold stSet_2; rw [hm]; rfl, by unfold stSet_3; rw [hm]; rfl, by unfold stSet_4; rw [hm]; rfl, by unfold stSet_5; rw [hm]; rfl, by unfold stSet_6; rw [hm]; rfl, by unfold stSet_7; rw [hm]; rfl, by unfold stSet_8; rw [hm]; rfl, by unfold stSet_9; rw [hm]; rfl, by unfold stSet_10; rw [hm]; rfl, by unfold stSet_11; rw [hm]; rfl, by unfold stSet_12; rw [hm]; rfl, by unfold stSet_13; rw [hm]; rfl, by unfold stSet_14; rw [hm]; rfl, by unfold stSet_15; rw [hm]; rfl, by unfold stSet_16; rw [hm]; rfl⟩
  · exact ⟨by unfold stSet_0; rw [hm]; rfl, by unfold stSet_1; rw [hm]; exact set_high (R 1) v x (hR 1 (by decide)).1 (hR 1 (by decide)).2 hv, by unfold stSet_2; rw [hm]; rfl, by unfold stSet_3; rw [hm]; rfl, by unfold stSet_4; rw [hm]; rfl, by unfold stSet_5; rw [hm]; rfl, by unfold stSet_6; rw [hm]; rfl, by unfold stSet_7; rw [hm]; rfl, by unfold stSet_8; rw [hm]; rfl, by unfold stSet_9; rw [hm]; rfl, by unfold stSet_10; rw [hm]; rfl, by unfold stSet_11; rw [hm]; rfl, by unfold stSet_12; rw [hm]; rfl, by unfold stSet_13; rw [hm]; rfl, by unfold stSet_14; rw [hm]; rfl, by unfold stSet_15; rw [hm]; rfl, by unfold stSet_16; rw [hm]; rfl⟩
  · exact ⟨by unfold stSet_0; rw [hm]; rfl, by unfold stSet_1; rw [hm]; rfl, by unfold stSet_2; rw [hm]; exact set_high (R 2) v x (hR 2 (by decide)).1 (hR 2 (by decide)).2 hv, by unfold stSet_3; rw [hm]; rfl, by unfold stSet_4; rw [hm]; rfl, by unfold stSet_5; rw [hm]; rfl, by unfold stSet_6; rw [hm]; rfl, by unfold stSet_7; rw [hm]; rfl, by unfold stSet_8; rw [hm]; rfl, by unfold stSet_9; rw [hm]; rfl, by unfold stSet_10; rw [hm]; rfl, by unfold stSet_11; rw [hm]; rfl, by unfold stSet_12; rw [hm]; rfl, by unfold stSet_13; rw [hm]; rfl, by unfold stSet_14; rw [hm]; rfl, by unfold stSet_15; rw [hm]; rfl, by unfold stSet_16; rw [hm]; rfl⟩
  · exact ⟨by unfold stSet_0; rw [hm]; rfl, by unfold stSet_1; rw [hm]; rfl, by unfold stSet_2; rw [hm]; rfl, by unfold stSet_3; rw [hm]; exact set_high (R 3) v x (hR 3 (by decide)).1 (hR 3 (by decide)).2 hv, by unfold stSet_4; rw [hm]; rfl, by unfold stSet_5; rw [hm]; rfl, by unfold stSet_6; rw [hm]; rfl, by unfold stSet_7; rw [hm]; rfl, by unfold stSet_8; rw [hm]; rfl, by unfold stSet_9; rw [hm]; rfl, by unfold stSet_10; rw [hm]; rfl, by unfold stSet_11; rw [hm]; rfl, by unfold stSet_12; rw [hm]; rfl, by unfold stSet_13; rw [hm]; rfl, by unfold stSet_14; rw [hm]; rfl, by unfold stSet_15; rw [hm]; rfl, by unfold stSet_16; rw [hm]; rfl⟩

theorem Reg8_is {R : Nat → Int} (hR : Wd R) {pc : Int} {f : F6} {df : Bool} {fl : Int} (hp : 0 ≤ pc ∧ pc ≤ 4294967295) (hf : 0 ≤ fl ∧ fl ≤ 18446744073709551615) (z : Int) (i : Nat) (hz0 : 0 ≤ z ∧ z ≤ 255) (hi : i < 8) (hz : z % 8 = (i : Int)) {r : Int} (hr : reg8 R i = r) (w : World) :
    Calls Try.prog 9 #[.agg #[.int .u32 (R 0), .int .u32 (R 1), .int .u32 (R 2), .int .u32 (R 3), .int .u32 (R 4), .int .u32 (R 5), .int .u32 (R 6), .int .u32 (R 7), .int .u32 pc, .bool f.c, .bool f.p, .bool f.a, .bool f.z, .bool f.s, .bool f.o, .bool df, .int .u64 fl], .int .i64 z] w fun e w' => e = .returned (.int .u32 r) ∧ Below w.heap.size w w' := by
  have h := st_Reg8 (R 0) (R 1) (R 2) (R 3) (R 4) (R 5) (R 6) (R 7) pc f.c f.p f.a f.z f.s f.o df fl z (hR 0 (by decide)) (hR 1 (by decide)) (hR 2 (by decide)) (hR 3 (by decide)) (hR 4 (by decide)) (hR 5 (by decide)) (hR 6 (by decide)) (hR 7 (by decide)) hp hf (has_i64.2 (by omega)) w
  rw [stReg_is pc f df fl z i hi hz, hr] at h
  exact h
theorem SetReg8_is {R R' : Nat → Int} (hR : Wd R) {pc : Int} {f : F6} {df : Bool} {fl : Int} (hp : 0 ≤ pc ∧ pc ≤ 4294967295) (hf : 0 ≤ fl ∧ fl ≤ 18446744073709551615) (z : Int) (i : Nat) (hz0 : 0 ≤ z ∧ z ≤ 255) (hi : i < 8) (hz : z % 8 = (i : Int)) (v x : Int) (hv0 : 0 ≤ v ∧ v ≤ 4294967295) (hv : v % 256 = x) (hr : set8 R i x = R') (w : World) :
    Calls Try.prog 10 #[.agg #[.int .u32 (R 0), .int .u32 (R 1), .int .u32 (R 2), .int .u32 (R 3), .int .u32 (R 4), .int .u32 (R 5), .int .u32 (R 6), .int .u32 (R 7), .int .u32 pc, .bool f.c, .bool f.p, .bool f.a, .bool f.z, .bool f.s, .bool f.o, .bool df, .int .u64 fl], .int .i64 z, .int .u32 v] w fun e w' => e = .returned (.agg #[.int .u32 (R' 0), .int .u32 (R' 1), .int .u32 (R' 2), .int .u32 (R' 3), .int .u32 (R' 4), .int .u32 (R' 5), .int .u32 (R' 6), .int .u32 (R' 7), .int .u32 pc, .bool f.c, .bool f.p, .bool f.a, .bool f.z, .bool f.s, .bool f.o, .bool df, .int .u64 fl]) ∧ Below w.heap.size w w' := by
  have h := st_SetReg8 (R 0) (R 1) (R 2) (R 3) (R 4) (R 5) (R 6) (R 7) pc f.c f.p f.a f.z f.s f.o df fl z v (hR 0 (by decide)) (hR 1 (by decide)) (hR 2 (by decide)) (hR 3 (by decide)) (hR 4 (by decide)) (hR 5 (by decide)) (hR 6 (by decide)) (hR 7 (by decide)) hp hf (has_i64.2 (by omega)) hv0 w
  obtain ⟨e0, e1, e2, e3, e4, e5, e6, e7, e8, e9, e10, e11, e12, e13, e14, e15, e16⟩ := stSet_is hR pc f df fl z i hi hz v x hv
  rw [e0, e1, e2, e3, e4, e5, e6, e7, e8, e9, e10, e11, e12, e13, e14, e15, e16, hr] at h
  exact h

end Go.Proofs.Ytndfcpkmchjncaa
