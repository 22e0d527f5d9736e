/-
  The host of the program copied: a slice cloned, a struct copied.
-/
import Derived.Test.YtpclikbjpjoccaaM6
import Derived.Test.YtpclikbjpjoccaaKit
import Derived.ArgAppend
namespace Go.Proofs.Ytpclikbjpjoccaa
open Go Go.RowKit Go.Sx
set_option linter.unusedVariables false
set_option linter.unusedSimpArgs false

theorem blk_of_row {w : World} {g cap : Nat} {T : TypeId} {cur : Array Value} {news : List Value} {m : Nat → Int} (hh : w.heap[g]? = some (.cells cur T (0, 0))) (hs : cur.size = cap) (ht : cur.toList.take 32768 = news) (hn : ∀ j, j < 32768 → news[j]? = some (.int .u8 (m j))) :
    Blk w g cap T (memT m (fun i => cur.getD i undef)) := by
  constructor
  rw [hh]
  congr 2
  apply Array.ext
  · rw [arrOf_size]; exact hs
  · intro i h1 h2
    have hi : i < cap := by rw [← hs]; exact h1
    have e : (arrOf cap (memT m fun i => cur.getD i undef))[i] = memT m (fun i => cur.getD i undef) i := by simp [arrOf]
    rw [e]
    unfold memT
    by_cases hlt : i < 32768
    · rw [if_pos hlt]
      have h3 := hn i hlt
      rw [← ht, List.getElem?_take, if_pos hlt] at h3
      have h4 : cur.toList[i]? = some cur[i] := by simp [h1]
      rw [h4] at h3
      exact Option.some.inj h3
    · rw [if_neg hlt]
      simp [Array.getD, h1]

set_option maxHeartbeats 2000000 in
set_option maxRecDepth 100000 in
theorem host_Clone (w : World) (b c : Nat) (m : Nat → Int) (hc : ∀ j, j < 32768 → w.cell? ⟨b, j, none⟩ = some (.int .u8 (m j))) :
    Calls Try.prog 48 #[.slice (some ⟨b, 0, none⟩) 32768 c] w fun e w' => ∃ g cap t, e = .returned (.slice (some ⟨g, 0, none⟩) 32768 cap) ∧ w.heap.size ≤ g ∧ 32768 ≤ cap ∧ Blk w' g cap 5 (memT m t) ∧ Below w.heap.size w w' := by
  obtain ⟨news, hlen, hget⟩ : ∃ news : List Value, news.length = 32768 * 1 ∧ ∀ j, j < 32768 → news[j]? = some (.int .u8 (m j)) :=
    ⟨(List.range 32768).map (fun j => .int .u8 (m j)), by simp, fun j hj => by rw [List.getElem?_map, List.getElem?_range hj]; rfl⟩
  obtain ⟨i0, hi, hz0, hz1, hz2⟩ := info_parts info_u8
  have q59 : ∀ (w : World) (a : Option Addr) (n c n' c' : Nat), (binOp .eql 59 (.slice a n c) (.slice none n' c')).run Try.prog w = .ok (.bool a.isNone) w := fun w a n c n' c' => Lib.run_eql_slice_nil w _ _ a n c n' c' Try.underlying59
  have HC := Lib.hid hc
  have HG := Lib.hid hget
  clear hc hget
  go_enter Try.func48, Try.ntmps48
  go_wp2_with (at_builtin; refine wpList_append_own _ rfl _ _ 59 rfl w.heap.size 5 i0 (.int .u8 0) 1 1 Try.underlying59 hi hz0 hz1 hz2 rfl (by decide) _ _ _ rfl (World.ownsRow_made w #[] 0 (Nat.le_refl _) (Nat.zero_le _) rfl) ⟨b, 0, none⟩ 32768 c news rfl ?qc1 ?qc2 ?qc3 ?qc4 ?qc5 ?qc6 ?_)
  case qc1 => exact hlen
  case qc2 =>
    intro j u hj
    have hjn : j < 32768 := by
      have := (List.getElem?_eq_some_iff.1 hj).1
      omega
    rw [Addr.add_lit]
    refine Lib.cell?_alloc_some _ ?_
    rw [Nat.zero_add, HC.out j hjn, ← HG.out j hjn]
    exact hj
  case qc3 =>
    intro u hu
    obtain ⟨j, hj, rfl⟩ := List.mem_iff_getElem.1 hu
    have := HG.out j (by omega)
    rw [List.getElem?_eq_getElem hj] at this
    rw [Option.some.inj this]; rfl
  case qc4 => unfold maxLen; omega
  case qc5 => omega
  case qc6 => simp
  intro v' w1 hown hgrow hnil
  go_wp2
  go_ret
  obtain ⟨_, h | ⟨g, cap, cur, rfl, hb, hh, hle, hm, hs, ht⟩⟩ := hown
  · exact absurd h.1 hnil
  · have hle' : 32768 ≤ cap := by simpa using hle
    refine ⟨g, cap, _, by simp, hb, hle', blk_of_row hh (by simpa using hs) ht (fun j hj => by simpa using HG.out j hj), ?_⟩
    exact ((Below.refl _ w).alloc (Nat.le_refl _) _).grown hgrow (by simp) (by intro k hk; simp [Value.ownBlock] at hk; omega)

theorem hostF_one (S : HS) (mb cap : Nat) : ∀ v ∈ (arrOf 35 (hostF S mb cap)).toList, v.oneCell' = true := by
  intro v hv
  simp only [arrOf, Array.toList_ofFn, List.mem_ofFn] at hv
  obtain ⟨i, rfl⟩ := hv
  unfold hostF
  repeat' split
  all_goals rfl

set_option maxHeartbeats 2000000 in
set_option maxRecDepth 100000 in
theorem host_Copy (w : World) (hb mb : Nat) (S : HS) (hH : HostAt w hb mb S) :
    Calls Try.prog 29 #[.pointer (some ⟨hb, 0, none⟩)] w fun e w' => ∃ cb cm, e = .returned (.pointer (some ⟨cb, 0, none⟩)) ∧ HostAt w' cb cm S ∧ Below w.heap.size w w' ∧ w.heap.size ≤ cb ∧ w.heap.size ≤ cm := by
  obtain ⟨c, hcd⟩ : ∃ c, c = capOf w hb := ⟨_, rfl⟩
  obtain ⟨A, hA⟩ : ∃ A, A = arrOf 35 (hostF S mb c) := ⟨_, rfl⟩
  have hrow : w.heap[hb]? = some (.cells A 62 (0, 0)) := by rw [hA, hcd]; exact hH.h.blk
  have hsz : A.size = 35 := by rw [hA, arrOf_size]
  have HI : Hid ((Try.prog.info? 62).map (·.size) = some A.size) := Lib.hid (by rw [hsz]; kernel_rfl)
  have H1 : Hid (∀ v ∈ A.toList, v.oneCell' = true) := Lib.hid (by rw [hA]; exact hostF_one S mb c)
  have HSZ := Lib.hid hsz
  have HA := Lib.hid hA
  have HR := Lib.hid hrow
  obtain ⟨W, hW⟩ : ∃ W, W = w.alloc (.cells A 62) := ⟨_, rfl⟩
  have hsl : W.cell? ⟨hb, 32, none⟩ = some (.slice (some ⟨mb, 0, none⟩) 32768 c) := by rw [hW, hcd]; exact (hH.h.alloc _).cell (i := 32) (by decide)
  have HM : Hid (∀ j, j < 32768 → W.cell? ⟨mb, j, none⟩ = some (.int .u8 (S.m j))) := Lib.hid (fun j hj => by rw [hW]; exact (hH.alloc _).mem j hj)
  have hlt : hb < w.heap.size := hH.h.lt
  have HW := Lib.hid hW
  have HLT := Lib.hid hlt
  clear hH hrow hsz hA hW hcd hlt
  obtain ⟨Z, hZ⟩ : ∃ Z, Z = arrOf 35 (fun i => if i = 32 then Value.slice none 0 0 else .int .u32 0) := ⟨_, rfl⟩
  have HZ : Hid (∀ w, (zeroValue 62).run Try.prog w = .ok (.agg Z) w) := Lib.hid (by rw [hZ]; exact fun _ => by kernel_rfl)
  have HZS : Hid (Z.size = A.size) := Lib.hid (by rw [hZ, arrOf_size, HSZ.out])
  clear hZ
  go_enter Try.func29, Try.ntmps29
  go_wp2_with (first
    | (refine wpList_load_row rfl 62 _ rfl hb rfl _ A (0, 0) _ HR.out Try.underlying62 rfl HI.out ?_)
    | (refine Kit.wpList_alloc_as rfl 62 rfl Z (HZ.out _) ?_)
    | (refine Kit.wpList_store_new rfl 62 _ _ rfl w Z 62 rfl rfl A rfl HZS.out HI.out H1.out ?_; rw [← HW.out])
    | (go_at_call 48; (with_reducible refine (host_Clone _ mb c S.m HM.out).mono ?_); rintro e w1 ⟨g, cap, t, rfl, hg, hcap, hblk, hB⟩; have hb0 : Blk W w.heap.size 35 62 (hostF S mb c) := (by rw [HW.out, HA.out]; exact Blk.new _ _ _ _); have hb1 : Blk w1 w.heap.size 35 62 (hostF S mb c) := hb0.keep (p := fun _ => False) (Turn.of_below hB) id; have c32 := hb1.cell (i := 32) (by decide); have f32 := hb1.free 32; have G := Lib.hid hg; have C := Lib.hid hcap; have B := Lib.hid hblk; have BB := Lib.hid hB; have B1 := Lib.hid hb1; clear hg hcap hblk hB hb0 hb1))
  go_ret
  have hws : W.heap.size = w.heap.size + 1 := by rw [HW.out, World.size_alloc]
  have hne : w.heap.size ≠ g := by have := G.out; omega
  have hbW : Below w.heap.size w W := by rw [HW.out]; exact (Below.refl _ _).alloc (Nat.le_refl _) _
  refine ⟨w.heap.size, g, rfl, HostAt.mk' (c := cap) (t := t) hne C.out ((B1.out.set 32 _).ext fun j hj => ?_) (B.out.other (a := ⟨w.heap.size, 32, none⟩) hne _), ?_, Nat.le_refl _, by have := G.out; omega⟩
  · unfold upd hostF
    by_cases e : j = 32
    · subst e; simp
    · simp [e]
  · have h1 : Turn (fun k => k = w.heap.size) w w1 := (Turn.of_below hbW).trans (Turn.of_below BB.out)
    exact (h1.set (a := ⟨w.heap.size, 32, none⟩) rfl _).below (Nat.le_refl _) (fun k _ hk => by omega)

end Go.Proofs.Ytpclikbjpjoccaa
