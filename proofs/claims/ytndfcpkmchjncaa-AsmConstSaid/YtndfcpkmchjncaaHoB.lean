/-
  The host of the program: loads and stores, read by their walks.
-/
import Derived.Test.YtndfcpkmchjncaaHoA
import Derived.StillTailTactics
namespace Go.Proofs.Ytndfcpkmchjncaa
open Go Go.RowKit
set_option linter.unusedVariables false
set_option linter.unusedSimpArgs false

/-- may so many bytes lie there? -/
def canB (a n : Int) : Bool := decide ((n = 1 ∨ n = 2 ∨ n = 4) ∧ a % n = 0 ∧ a ≤ 32768 - n)
theorem canB_iff (a n : Int) : canB a n = true ↔ (n = 1 ∨ n = 2 ∨ n = 4) ∧ a % n = 0 ∧ a ≤ 32768 - n := by unfold canB; exact decide_eq_true_iff

theorem host_can (a n : Int) (ha0 : 0 ≤ a) (ha1 : a ≤ 4294967295) (w : World) :
    Calls Try.prog 58 #[.int .u32 a, .int .i64 n] w fun e w' => e = .returned (.bool (canB a n)) ∧ w = w' := by
  by_cases h : n = 1 ∨ n = 2 ∨ n = 4
  · by_cases hm : a % n = 0
    · by_cases hl : a ≤ 32768 - n
      · have hc : canB a n = true := (canB_iff a n).2 ⟨h, hm, hl⟩
        have H := Lib.hid hc; clear hc
        rcases h with rfl | rfl | rfl
        all_goals
          go_enter Try.func58, Try.ntmps58
          go_wp2
          go_ret
          exact ⟨by rw [H.out]; simp [hm, hl]; try omega, rfl⟩
      · have hc : canB a n = false := by rw [← Bool.not_eq_true, canB_iff]; omega
        have H := Lib.hid hc; clear hc
        rcases h with rfl | rfl | rfl
        all_goals
          go_enter Try.func58, Try.ntmps58
          go_wp2
          go_ret
          exact ⟨by rw [H.out]; simp [hm, hl]; try omega, rfl⟩
    · have hc : canB a n = false := by rw [← Bool.not_eq_true, canB_iff]; omega
      have H := Lib.hid hc; clear hc
      rcases h with rfl | rfl | rfl
      · omega
      all_goals
        go_enter Try.func58, Try.ntmps58
        go_wp2
        go_ret
        exact ⟨by rw [H.out]; simp [hm], rfl⟩
  · have hc : canB a n = false := by rw [← Bool.not_eq_true, canB_iff]; omega
    have H := Lib.hid hc; clear hc
    have h1 : n ≠ 1 := by omega
    have h2 : n ≠ 2 := by omega
    have h4 : n ≠ 4 := by omega
    go_enter Try.func58, Try.ntmps58
    go_wp2
    go_ret
    exact ⟨by rw [H.out]; rfl, rfl⟩

/-- so many bytes from there on, as a word; 0 where they may not lie there -/
def ldV (S : HS) (a n : Int) : Int := if canB a n = true then rdM S.m a.toNat n.toNat else 0
theorem ldV_bd {S : HS} (h : Good S) (a n : Int) : 0 ≤ ldV S a n ∧ ldV S a n ≤ 4294967295 := by
  unfold ldV; split
  · have := rdM_bd h.m a.toNat n.toNat; omega
  · decide

/-- what is stored; nothing where it may not lie -/
def stM (S : HS) (a n v : Int) : HS := if canB a n = true then S.setM (wrM S.m a.toNat n.toNat v) else S
theorem stM_good {S : HS} (h : Good S) (a n v : Int) : Good (stM S a n v) := by
  unfold stM; split
  · exact h.wr _ _ _
  · exact h

theorem bts_mem {w : World} {mb : Nat} {m : Nat → Int} (h : ∀ i, i < 32768 → w.cell? ⟨mb, i, none⟩ = some (.int .u8 (m i))) (hlt : mb < w.heap.size) (hm : ∀ i, 0 ≤ m i ∧ m i ≤ 255) (a n cap : Nat) (hl : a + n ≤ 32768) :
    Bts w (.slice (some ⟨mb, a, none⟩) n cap) (bytesAt m a n) := by
  refine ⟨some ⟨mb, a, none⟩, cap, by rw [bytesAt_length], fun i hi => ⟨mb, a, rfl, hlt, ?_⟩, bytesAt_bd hm a n⟩
  rw [bytesAt_length] at hi
  rw [h _ (by omega), bytesAt_get m a n hi]

theorem ret_vt {a b : Int} (h : a = b) : Ending.returned (.tuple #[.int .u32 a, .bool true]) = .returned (.tuple #[.int .u32 b, .bool true]) := by rw [h]

theorem host_Load (w : World) (hb mb : Nat) (S : HS) (hH : HostAt w hb mb S) (hG : Good S) (a n : Int) (ha0 : 0 ≤ a) (ha1 : a ≤ 4294967295) :
    Calls Try.prog 25 #[.pointer (some ⟨hb, 0, none⟩), .int .u32 a, .int .i64 n] w fun e w' => e = .returned (.tuple #[.int .u32 (ldV S a n), .bool (canB a n)]) ∧ Below w.heap.size w w' := by
  cases hc : canB a n with
  | false =>
    have hv : ldV S a n = 0 := by unfold ldV; rw [hc]; rfl
    have HV := Lib.hid hv; clear hv
    have HC := Lib.hid hc; clear hc
    go_enter Try.func25, Try.ntmps25
    go_wp2_with (go_at_call 58; refine (host_can a n ha0 ha1 _).mono ?_; rw [HC.out]; rintro e w' ⟨rfl, rfl⟩)
    go_ret2
    exact ⟨by rw [HV.out]; rfl, Below.refl _ _⟩
  | true =>
    have hv : ldV S a n = rdM S.m a.toNat n.toNat := by unfold ldV; rw [hc]; rfl
    have HV := Lib.hid hv; clear hv
    obtain ⟨h1, h2, h3⟩ := (canB_iff a n).1 hc
    obtain ⟨c, hcq, hge⟩ : ∃ c, c = capOf w hb ∧ 32768 ≤ c := ⟨_, rfl, hH.ge⟩
    have hs := hH.sl
    rw [← hcq] at hs
    have HCQ := Lib.hid hcq; clear hcq
    have HB := bts_mem hH.mem hH.m.lt hG.m a.toNat n.toNat (c - a.toNat) (by omega)
    have q1 : ¬ c = a.toNat := by omega
    have q3 : a + n ≤ (c : Int) := by omega
    have HC := Lib.hid hc; clear hc
    have E := Lib.hid (show (a + n).toNat - a.toNat = n.toNat by omega)
    rcases h1 with rfl | rfl | rfl
    all_goals
      clear h2
      go_enter Try.func25, Try.ntmps25
      go_wp2_with (first | (go_at_call 58; refine (host_can a _ ha0 ha1 _).mono ?_; rw [HC.out]; rintro e w' ⟨rfl, rfl⟩) | (go_at_call 59; rw [E.out]; refine (bits_Word _ _ _ HB).mono ?_; rintro e w' ⟨rfl, rfl⟩))
      go_ret2
      exact ⟨by rw [HV.out]; rfl, (Below.refl _ _).alloc (Nat.le_refl _) _⟩

theorem arrOf_list {k : Nat} (f : Nat → Value) (j : Nat) : (arrOf k f).toList[j]? = if j < k then some (f j) else none := by
  rw [Array.getElem?_toList]
  split
  · rename_i h; exact arrOf_get f h
  · rename_i h; exact Array.getElem?_eq_none (by rw [arrOf_size]; omega)

theorem bytesOf_get {v : Int} (hv0 : 0 ≤ v) (hv1 : v ≤ 4294967295) : ∀ i, i < 4 → (bytesOf v).toList[i]? = some (.int .u8 (v / 2 ^ (8 * i) % 256))
  | 0, _ => by simp
  | 1, _ => by simp
  | 2, _ => by simp
  | 3, _ => by simp; omega
  | n + 4, h => by omega

theorem take_get (v : Int) (n i : Nat) : ((bytesOf v).toList.take n)[i]? = if i < n then (bytesOf v).toList[i]? else none := by rw [List.getElem?_take]

/-- the memory's row, with bytes written over a part of it -/
theorem mem_splice {m : Nat → Int} {t : Nat → Value} {a n c : Nat} {v : Int} (h : a + n ≤ 32768) (hcc : 32768 ≤ c) (hn : n ≤ 4) (hv0 : 0 ≤ v) (hv1 : v ≤ 4294967295) :
    ((arrOf c (memT m t)).toList.take a ++ ((bytesOf v).toList.take n) ++ (arrOf c (memT m t)).toList.drop (a + ((bytesOf v).toList.take n).length)).toArray = arrOf c (memT (wrM m a n v) t) := by
  have hl : ((bytesOf v).toList.take n).length = n := by rw [List.length_take]; show min n 4 = n; omega
  have hl2 : ((arrOf c (memT m t)).toList.take a).length = a := by rw [List.length_take, Array.length_toList, arrOf_size]; omega
  rw [← Array.toList_inj]
  apply List.ext_getElem?
  intro j
  rw [arrOf_list, hl, List.getElem?_append, List.getElem?_append, List.length_append, hl, hl2, List.getElem?_take, List.getElem?_drop, take_get, arrOf_list, arrOf_list]
  unfold memT wrM
  by_cases h1 : j < a
  · rw [if_pos (by omega), if_pos h1, if_pos h1, if_pos (by omega), if_pos (by omega), if_pos (by omega), if_pos (by omega), if_neg (by omega)]
  · by_cases h2 : j < a + n
    · rw [if_pos h2, if_neg h1, if_pos (by omega), bytesOf_get hv0 hv1 _ (by omega), if_pos (by omega), if_pos (by omega), if_pos (by omega)]
    · rw [if_neg h2, show a + n + (j - (a + n)) = j by omega]
      by_cases h3 : j < c
      · rw [if_pos h3, if_pos h3]
        by_cases h4 : j < 32768
        · rw [if_pos h4, if_pos h4, if_neg (by omega)]
        · rw [if_neg h4, if_neg h4]
      · rw [if_neg h3, if_neg h3]

set_option maxRecDepth 10000 in
theorem host_Store (w : World) (hb mb : Nat) (S : HS) (hH : HostAt w hb mb S) (a n v : Int) (ha0 : 0 ≤ a) (ha1 : a ≤ 4294967295) (hv0 : 0 ≤ v) (hv1 : v ≤ 4294967295) :
    Calls Try.prog 55 #[.pointer (some ⟨hb, 0, none⟩), .int .u32 a, .int .i64 n, .int .u32 v] w fun e w' => e = .returned (.bool (canB a n)) ∧ Makes w hb mb (stM S a n v) w' := by
  cases hc : canB a n with
  | false =>
    have hv : Makes w hb mb (stM S a n v) w := ⟨by unfold stM; rw [hc]; exact hH, Turn.refl _ _⟩
    have HC := Lib.hid hc; clear hc
    go_enter Try.func55, Try.ntmps55
    go_wp2_with (go_at_call 58; refine (host_can a n ha0 ha1 _).mono ?_; rw [HC.out]; rintro e w' ⟨rfl, rfl⟩)
    go_ret
    exact ⟨rfl, hv⟩
  | true =>
    obtain ⟨h1, h2, h3⟩ := (canB_iff a n).1 hc
    obtain ⟨c, hcq, hge⟩ : ∃ c, c = capOf w hb ∧ 32768 ≤ c := ⟨_, rfl, hH.ge⟩
    obtain ⟨t, htq⟩ : ∃ t, t = tailOf w mb := ⟨_, rfl⟩
    have bh := hH.h
    have bm := hH.m
    rw [← hcq] at bh bm
    rw [← htq] at bm
    clear hcq htq
    have HC := Lib.hid hc; clear hc
    rcases h1 with rfl | rfl | rfl
    · clear h2
      go_enter Try.func55, Try.ntmps55
      go_wp2_with (first | (go_at_call 58; refine (host_can a _ ha0 ha1 _).mono ?_; rw [HC.out]; rintro e w' ⟨rfl, rfl⟩) | (go_at_call 78; refine (bits_Bytes v hv0 (by omega) _).mono ?_; rintro e w' ⟨rfl, rfl⟩))
      obtain ⟨W, hW⟩ : ∃ W, W = (w.alloc (.cells (bytesOf v) 122)).alloc (.cells (bytesOf v) 122) := ⟨_, rfl⟩
      rw [← hW]
      have hs : W.cell? ⟨hb, 32, none⟩ = some (.slice (some ⟨mb, 0, none⟩) 32768 c) := by rw [hW]; exact ((bh.alloc _).alloc _).cell (i := 32) (by decide)
      have hcp := run_copy_row Try.prog W.drew 34 34 3 5 mb a.toNat (32768 - a.toNat) (c - a.toNat) ⟨w.heap.size + 1, 0, none⟩ 1 4
        (arrOf c (memT S.m t)) 5 ((bytesOf v).toList.take 1) Try.underlying34 (by kernel_rfl) (hW ▸ (bm.alloc _ |>.alloc _).blk) (by rw [List.length_take]; show min 1 4 = min 1 (32768 - a.toNat); omega)
        (fun j u hj => by
          rw [take_get] at hj
          have hjn : j < 1 := by
            rcases Nat.lt_or_ge j 1 with h | h
            · exact h
            · rw [if_neg (by omega)] at hj; cases hj
          rw [if_pos hjn] at hj
          rw [addr_add, Nat.zero_add, World.cell?_drew, hW, show w.heap.size + 1 = (w.alloc (.cells (bytesOf v) 122)).heap.size by simp, World.cell?_alloc_new, ← hj, Array.getElem?_toList])
        (by rw [List.length_take, arrOf_size]; show a.toNat + min 1 4 ≤ c; omega)
        (fun u hu => by
          obtain ⟨j, hj⟩ := List.mem_iff_getElem?.1 (List.mem_of_mem_take hu)
          have hj4 : j < 4 := (List.getElem?_eq_some_iff.1 hj).1
          rw [bytesOf_get hv0 hv1 j hj4] at hj
          cases hj; rfl)
      rw [mem_splice (by omega) hge (by omega) hv0 hv1] at hcp
      have HM : Makes w hb mb (stM S a 1 v) (W.drew.setRow mb (arrOf c (memT (wrM S.m a.toNat 1 v) t))) := by
        refine ⟨?_, ?_⟩
        · unfold stM; rw [HC.out, if_pos rfl]
          exact HostAt.mk' hH.ne hge ((hW ▸ ((bh.alloc _).alloc _).drew).rowOther (Ne.symm hH.ne) _) ((hW ▸ ((bm.alloc _).alloc _).drew).row rfl)
        · exact Turn.row (hW ▸ (((Turn.refl _ w).alloc _).alloc _).drew) (Or.inr rfl) _
      have HM' := Lib.hid HM; clear HM
      have q1 : ¬ c = a.toNat := by omega
      have q2 : a ≤ 32768 := by omega
      have HW := Lib.hid hW; clear hW
      go_still_tail 8, (by kernel_rfl)
      change wpList _ _ _ _ _ W.drew
      clear hs
      go_wp2
      go_ret
      exact ⟨rfl, HM'.out⟩
    · clear h2
      go_enter Try.func55, Try.ntmps55
      go_wp2_with (first | (go_at_call 58; refine (host_can a _ ha0 ha1 _).mono ?_; rw [HC.out]; rintro e w' ⟨rfl, rfl⟩) | (go_at_call 78; refine (bits_Bytes v hv0 (by omega) _).mono ?_; rintro e w' ⟨rfl, rfl⟩))
      obtain ⟨W, hW⟩ : ∃ W, W = (w.alloc (.cells (bytesOf v) 122)).alloc (.cells (bytesOf v) 122) := ⟨_, rfl⟩
      rw [← hW]
      have hs : W.cell? ⟨hb, 32, none⟩ = some (.slice (some ⟨mb, 0, none⟩) 32768 c) := by rw [hW]; exact ((bh.alloc _).alloc _).cell (i := 32) (by decide)
      have hcp := run_copy_row Try.prog W.drew 34 34 3 5 mb a.toNat (32768 - a.toNat) (c - a.toNat) ⟨w.heap.size + 1, 0, none⟩ 2 4
        (arrOf c (memT S.m t)) 5 ((bytesOf v).toList.take 2) Try.underlying34 (by kernel_rfl) (hW ▸ (bm.alloc _ |>.alloc _).blk) (by rw [List.length_take]; show min 2 4 = min 2 (32768 - a.toNat); omega)
        (fun j u hj => by
          rw [take_get] at hj
          have hjn : j < 2 := by
            rcases Nat.lt_or_ge j 2 with h | h
            · exact h
            · rw [if_neg (by omega)] at hj; cases hj
          rw [if_pos hjn] at hj
          rw [addr_add, Nat.zero_add, World.cell?_drew, hW, show w.heap.size + 1 = (w.alloc (.cells (bytesOf v) 122)).heap.size by simp, World.cell?_alloc_new, ← hj, Array.getElem?_toList])
        (by rw [List.length_take, arrOf_size]; show a.toNat + min 2 4 ≤ c; omega)
        (fun u hu => by
          obtain ⟨j, hj⟩ := List.mem_iff_getElem?.1 (List.mem_of_mem_take hu)
          have hj4 : j < 4 := (List.getElem?_eq_some_iff.1 hj).1
          rw [bytesOf_get hv0 hv1 j hj4] at hj
          cases hj; rfl)
      rw [mem_splice (by omega) hge (by omega) hv0 hv1] at hcp
      have HM : Makes w hb mb (stM S a 2 v) (W.drew.setRow mb (arrOf c (memT (wrM S.m a.toNat 2 v) t))) := by
        refine ⟨?_, ?_⟩
        · unfold stM; rw [HC.out, if_pos rfl]
          exact HostAt.mk' hH.ne hge ((hW ▸ ((bh.alloc _).alloc _).drew).rowOther (Ne.symm hH.ne) _) ((hW ▸ ((bm.alloc _).alloc _).drew).row rfl)
        · exact Turn.row (hW ▸ (((Turn.refl _ w).alloc _).alloc _).drew) (Or.inr rfl) _
      have HM' := Lib.hid HM; clear HM
      have q1 : ¬ c = a.toNat := by omega
      have q2 : a ≤ 32768 := by omega
      have HW := Lib.hid hW; clear hW
      go_still_tail 8, (by kernel_rfl)
      change wpList _ _ _ _ _ W.drew
      clear hs
      go_wp2
      go_ret
      exact ⟨rfl, HM'.out⟩
    · clear h2
      go_enter Try.func55, Try.ntmps55
      go_wp2_with (first | (go_at_call 58; refine (host_can a _ ha0 ha1 _).mono ?_; rw [HC.out]; rintro e w' ⟨rfl, rfl⟩) | (go_at_call 78; refine (bits_Bytes v hv0 (by omega) _).mono ?_; rintro e w' ⟨rfl, rfl⟩))
      obtain ⟨W, hW⟩ : ∃ W, W = (w.alloc (.cells (bytesOf v) 122)).alloc (.cells (bytesOf v) 122) := ⟨_, rfl⟩
      rw [← hW]
      have hs : W.cell? ⟨hb, 32, none⟩ = some (.slice (some ⟨mb, 0, none⟩) 32768 c) := by rw [hW]; exact ((bh.alloc _).alloc _).cell (i := 32) (by decide)
      have hcp := run_copy_row Try.prog W.drew 34 34 3 5 mb a.toNat (32768 - a.toNat) (c - a.toNat) ⟨w.heap.size + 1, 0, none⟩ 4 4
        (arrOf c (memT S.m t)) 5 ((bytesOf v).toList.take 4) Try.underlying34 (by kernel_rfl) (hW ▸ (bm.alloc _ |>.alloc _).blk) (by rw [List.length_take]; show min 4 4 = min 4 (32768 - a.toNat); omega)
        (fun j u hj => by
          rw [take_get] at hj
          have hjn : j < 4 := by
            rcases Nat.lt_or_ge j 4 with h | h
            · exact h
            · rw [if_neg (by omega)] at hj; cases hj
          rw [if_pos hjn] at hj
          rw [addr_add, Nat.zero_add, World.cell?_drew, hW, show w.heap.size + 1 = (w.alloc (.cells (bytesOf v) 122)).heap.size by simp, World.cell?_alloc_new, ← hj, Array.getElem?_toList])
        (by rw [List.length_take, arrOf_size]; show a.toNat + min 4 4 ≤ c; omega)
        (fun u hu => by
          obtain ⟨j, hj⟩ := List.mem_iff_getElem?.1 (List.mem_of_mem_take hu)
          have hj4 : j < 4 := (List.getElem?_eq_some_iff.1 hj).1
          rw [bytesOf_get hv0 hv1 j hj4] at hj
          cases hj; rfl)
      rw [mem_splice (by omega) hge (by omega) hv0 hv1] at hcp
      have HM : Makes w hb mb (stM S a 4 v) (W.drew.setRow mb (arrOf c (memT (wrM S.m a.toNat 4 v) t))) := by
        refine ⟨?_, ?_⟩
        · unfold stM; rw [HC.out, if_pos rfl]
          exact HostAt.mk' hH.ne hge ((hW ▸ ((bh.alloc _).alloc _).drew).rowOther (Ne.symm hH.ne) _) ((hW ▸ ((bm.alloc _).alloc _).drew).row rfl)
        · exact Turn.row (hW ▸ (((Turn.refl _ w).alloc _).alloc _).drew) (Or.inr rfl) _
      have HM' := Lib.hid HM; clear HM
      have q1 : ¬ c = a.toNat := by omega
      have q2 : a ≤ 32768 := by omega
      have HW := Lib.hid hW; clear hW
      go_still_tail 8, (by kernel_rfl)
      change wpList _ _ _ _ _ W.drew
      clear hs
      go_wp2
      go_ret
      exact ⟨rfl, HM'.out⟩

end Go.Proofs.Ytndfcpkmchjncaa
