/- What bits.Word returns, over a slice of bytes of whatever length: the walk. -/
import Derived.Test.YtndfcpkmchjncaaBitsWalks
namespace Go.Proofs.Ytndfcpkmchjncaa
open Go.ChangeShapes Go.WideShapes Go.ChangeAt Go.RowKit
set_option linter.unusedVariables false

/-- the slice v holds the bytes bs in w -/
def Bts (w : World) (v : Value) (bs : List Int) : Prop :=
  ∃ a cap, v = .slice a bs.length cap ∧ (∀ i, i < bs.length → ∃ b o, a = some ⟨b, o, none⟩ ∧ b < w.heap.size ∧ w.cell? ⟨b, o + i, none⟩ = some (.int .u8 (bs.getD i 0))) ∧ ∀ x ∈ bs, 0 ≤ x ∧ x < 256

def wordOf (bs : List Int) : Int := bs.getD 0 0 + 256 * bs.getD 1 0 + 65536 * bs.getD 2 0 + 16777216 * bs.getD 3 0

theorem byte_bd {bs : List Int} (h : ∀ x ∈ bs, 0 ≤ x ∧ x < 256) (i : Nat) : 0 ≤ bs.getD i 0 ∧ bs.getD i 0 < 256 := by
  by_cases hi : i < bs.length
  · rw [List.getD_eq_getElem?_getD, List.getElem?_eq_getElem hi]; exact h _ (List.getElem_mem hi)
  · rw [List.getD_eq_getElem?_getD, List.getElem?_eq_none (by omega)]; decide

theorem wordOf_bd {bs : List Int} (h : ∀ x ∈ bs, 0 ≤ x ∧ x < 256) : 0 ≤ wordOf bs ∧ wordOf bs < 4294967296 := by
  have := byte_bd h 0; have := byte_bd h 1; have := byte_bd h 2; have := byte_bd h 3
  unfold wordOf; omega

theorem or_disj (x y : Nat) (k : Nat) (hx : x < 2 ^ k) : x ||| y * 2 ^ k = x + y * 2 ^ k := by
  rw [Nat.mul_comm, Nat.or_comm, ← Nat.two_pow_add_eq_or_of_lt hx, Nat.add_comm]

theorem or_u32 (x y : Int) (hx0 : 0 ≤ x) (hx1 : x < 4294967296) (hy0 : 0 ≤ y) (hy1 : y < 4294967296) : bits .or .u32 x y = ((x.toNat ||| y.toNat : Nat) : Int) := by
  obtain ⟨a, rfl⟩ := Int.eq_ofNat_of_zero_le hx0
  obtain ⟨b, rfl⟩ := Int.eq_ofNat_of_zero_le hy0
  have h1 : (BitVec.ofInt 32 (a : Int)).toNat = a := by
    rw [BitVec.ofInt_natCast, BitVec.toNat_ofNat]; exact Nat.mod_eq_of_lt (by omega)
  have h2 : (BitVec.ofInt 32 (b : Int)).toNat = b := by
    rw [BitVec.ofInt_natCast, BitVec.toNat_ofNat]; exact Nat.mod_eq_of_lt (by omega)
  show IntKind.u32.wrap ((BitVec.ofInt 32 (a : Int) ||| BitVec.ofInt 32 (b : Int)).toNat : Int) = _
  have hb : a ||| b < 2 ^ 32 := Nat.or_lt_two_pow (by omega) (by omega)
  rw [BitVec.toNat_or, h1, h2, IntKind.wrap_u32', Int.toNat_natCast, Int.toNat_natCast]
  omega

/-- an or of what lies apart is a sum -/
theorem or_sum (x y : Int) (k : Nat) (hx0 : 0 ≤ x) (hx1 : x < 2 ^ k) (hy0 : 0 ≤ y) (hy1 : y * 2 ^ k < 4294967296) (hk : k ≤ 31) : bits .or .u32 x (y * 2 ^ k) = x + y * 2 ^ k := by
  have hp := pow_pos k
  have hq := pow_le_32 (k := k) (by omega)
  have hy : 0 ≤ y * 2 ^ k := Int.mul_nonneg hy0 (Int.le_of_lt hp)
  rw [or_u32 x _ hx0 (by omega) hy hy1]
  obtain ⟨a, rfl⟩ := Int.eq_ofNat_of_zero_le hx0
  obtain ⟨b, rfl⟩ := Int.eq_ofNat_of_zero_le hy0
  have e : ((b : Int) * 2 ^ k) = ((b * 2 ^ k : Nat) : Int) := by simp
  have e2 : ((2 : Int) ^ k) = ((2 ^ k : Nat) : Int) := by simp
  rw [e, Int.toNat_natCast, Int.toNat_natCast, or_disj a b k (by rw [e2] at hx1; exact Int.ofNat_lt.1 hx1)]
  simp

theorem word_or (a b c d : Int) (ha : 0 ≤ a ∧ a < 256) (hb : 0 ≤ b ∧ b < 256) (hc : 0 ≤ c ∧ c < 256) (hd : 0 ≤ d ∧ d < 256) :
    bits .or .u32 (bits .or .u32 (bits .or .u32 a (b * 256)) (c * 65536)) (d * 16777216) = a + 256 * b + 65536 * c + 16777216 * d := by
  have e1 := or_sum a b 8 ha.1 (by omega) hb.1 (by omega) (by omega)
  have e2 := or_sum (a + b * 2 ^ 8) c 16 (by omega) (by omega) hc.1 (by omega) (by omega)
  have e3 := or_sum (a + b * 2 ^ 8 + c * 2 ^ 16) d 24 (by omega) (by omega) hd.1 (by omega) (by omega)
  rw [← e2, ← e1] at e3
  exact e3.trans (by rw [e1, e2]; omega)

theorem setRow_alloc (w : World) (cs cs' : Array Value) (t : TypeId) : (w.alloc (.cells cs t)).setRow w.heap.size cs' = w.alloc (.cells cs' t) := by
  unfold World.setRow World.alloc
  congr 1
  apply Array.ext
  · simp
  · intro i h1 h2
    simp only [Array.getElem_modify, Array.getElem_push]
    split
    · rename_i h; subst h; simp
    · rename_i h
      have hlt : i < w.heap.size := by simp at h2; omega
      simp [hlt]

set_option maxHeartbeats 400000 in
theorem word_walk (w : World) (a : Option Addr) (n cap : Nat) (x y z t : Int) (hx : 0 ≤ x ∧ x < 256) (hy : 0 ≤ y ∧ y < 256) (hz : 0 ≤ z ∧ z < 256) (ht : 0 ≤ t ∧ t < 256) (r : Int)
    (hcp : (Builtin.copy_ #[34, 34] 3 #[.slice (some ⟨w.heap.size, 0, none⟩) 4 4, .slice a n cap]).run Try.prog (w.alloc (.cells #[.int .u8 0, .int .u8 0, .int .u8 0, .int .u8 0] 122))
      = .ok (.int .i64 r) (w.alloc (.cells #[.int .u8 x, .int .u8 y, .int .u8 z, .int .u8 t] 122))) :
    Calls Try.prog 59 #[.slice a n cap] w fun e w' => e = .returned (.int .u32 (x + 256 * y + 65536 * z + 16777216 * t)) ∧ w.alloc (.cells #[.int .u8 x, .int .u8 y, .int .u8 z, .int .u8 t] 122) = w' := by
  have e := word_or x y z t hx hy hz ht
  have E := Lib.hid e; clear e
  go_enter Try.func59, Try.ntmps59
  go_wp2
  go_ret
  exact ⟨ret_int E.out, rfl⟩

abbrev four (bs : List Int) : Array Value := #[.int .u8 (bs.getD 0 0), .int .u8 (bs.getD 1 0), .int .u8 (bs.getD 2 0), .int .u8 (bs.getD 3 0)]

theorem copy_four (bs : List Int) :
    (((#[.int .u8 0, .int .u8 0, .int .u8 0, .int .u8 0] : Array Value).toList.take 0 ++ (bs.take 4).map (Value.int .u8) ++ (#[.int .u8 0, .int .u8 0, .int .u8 0, .int .u8 0] : Array Value).toList.drop (0 + ((bs.take 4).map (Value.int .u8)).length))).toArray = four bs := by
  match bs with
  | [] => rfl
  | [_] => rfl
  | [_, _] => rfl
  | [_, _, _] => rfl
  | _ :: _ :: _ :: _ :: _ => rfl

theorem heap_alloc_new (w : World) (o : Obj) : (w.alloc o).heap[w.heap.size]? = some o := by simp [← World.alloc_eq]

theorem addr_add (b o j : Nat) : (⟨b, o, none⟩ : Addr).add j = ⟨b, o + j, none⟩ := by unfold Addr.add; split <;> simp_all

theorem bits_Word (bs : List Int) (v : Value) (w : World) (h : Bts w v bs) :
    Calls Try.prog 59 #[v] w fun e w' => e = .returned (.int .u32 (wordOf bs)) ∧ w.alloc (.cells (four bs) 122) = w' := by
  obtain ⟨a, cap, rfl, hc, hb⟩ := h
  unfold wordOf
  refine word_walk w a bs.length cap _ _ _ _ (byte_bd hb 0) (byte_bd hb 1) (byte_bd hb 2) (byte_bd hb 3) ((bs.take 4).length : Int) ?_
  by_cases h0 : bs.length = 0
  · obtain rfl : bs = [] := List.length_eq_zero_iff.1 h0
    exact run_copy_none _ 34 34 3 5 _ a 4 4 0 cap Try.underlying34 (by kernel_rfl) rfl
  · obtain ⟨b, o, rfl, _, _⟩ := hc 0 (by omega)
    have hl : ((bs.take 4).map (Value.int .u8)).length = Nat.min bs.length 4 := by simp [Nat.min_comm]
    have := run_copy_row Try.prog (w.alloc (.cells #[.int .u8 0, .int .u8 0, .int .u8 0, .int .u8 0] 122)) 34 34 3 5 w.heap.size 0 4 4 ⟨b, o, none⟩ bs.length cap
      #[.int .u8 0, .int .u8 0, .int .u8 0, .int .u8 0] 122 ((bs.take 4).map (Value.int .u8)) Try.underlying34 (by kernel_rfl) (heap_alloc_new _ _) hl
      (fun j v hj => by
        obtain ⟨b', o', e, hlt, hcell⟩ := hc j (by
          have := (List.getElem?_eq_some_iff.1 hj).1
          simp at this; omega)
        obtain ⟨rfl, rfl⟩ : b = b' ∧ o = o' := by simpa using e
        have hv : v = .int .u8 (bs.getD j 0) := by
          rw [List.getElem?_map, Option.map_eq_some_iff] at hj
          obtain ⟨y, hy, rfl⟩ := hj
          have hj4 : j < 4 := by
            have := (List.getElem?_eq_some_iff.1 hy).1
            rw [List.length_take] at this; omega
          rw [List.getElem?_take, if_pos hj4] at hy
          rw [List.getD_eq_getElem?_getD, hy]; rfl
        rw [hv, addr_add]
        rw [← hcell]
        exact World.cell?_alloc_lt _ _ _ hlt)
      (by rw [List.length_map, List.length_take]; show 0 + min 4 _ ≤ 4; omega) (fun x hx => by
        obtain ⟨y, _, rfl⟩ := List.mem_map.1 hx
        rfl)
    rw [copy_four, setRow_alloc] at this
    rw [this, List.length_map]
    rfl

/-- a part of a new block, as a slice -/
theorem Bts_new (w : World) (t : TypeId) (cs : Array Value) (o cap : Nat) (bs : List Int) (hc : ∀ i, i < bs.length → cs[o + i]? = some (.int .u8 (bs.getD i 0))) (hb : ∀ x ∈ bs, 0 ≤ x ∧ x < 256) :
    Bts (w.alloc (.cells cs t)) (.slice (some ⟨w.heap.size, o, none⟩) bs.length cap) bs :=
  ⟨_, cap, rfl, fun i hi => ⟨_, _, rfl, by simp, by rw [World.cell?_alloc_new]; exact hc i hi⟩, hb⟩

theorem Bts_alloc {w : World} {v : Value} {bs : List Int} (h : Bts w v bs) (o : Obj) : Bts (w.alloc o) v bs := by
  obtain ⟨a, cap, rfl, hc, hb⟩ := h
  refine ⟨a, cap, rfl, fun i hi => ?_, hb⟩
  obtain ⟨b, o', rfl, hlt, hcell⟩ := hc i hi
  exact ⟨b, o', rfl, by rw [World.size_alloc]; omega, by rw [World.cell?_alloc_lt _ _ _ hlt]; exact hcell⟩

end Go.Proofs.Ytndfcpkmchjncaa
