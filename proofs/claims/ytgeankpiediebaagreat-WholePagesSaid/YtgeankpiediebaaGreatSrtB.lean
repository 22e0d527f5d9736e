/-
  slices.Sort at uint32, up to twelve elements.
-/
import Derived.Test.YtgeankpiediebaaGreatSrtA
import Derived.Sort.WalkA
namespace Go.Proofs.YtgeankpiediebaaGreat
open Go.Proofs Go.RowKit Go.Maps Go.Sort Go.Shelf
set_option linter.unusedVariables false

set_option maxHeartbeats 1000000 in
theorem srt_nan (x : Int) (w : World) : Calls Tryz.prog 451 #[.int .u32 x] w fun e w' => e = .returned (.bool false) ∧ w' = w := by
  go_enter Tryz.func451, Tryz.ntmps451
  go_wp2
  go_ret
  exact ⟨by simp, rfl⟩

set_option maxHeartbeats 1000000 in
theorem srt_less (x y : Int) (w : World) : Calls Tryz.prog 418 #[.int .u32 x, .int .u32 y] w fun e w' => e = .returned (.bool (Sort.ltInt x y)) ∧ w' = w := by
  go_enter Tryz.func418, Tryz.ntmps418
  go_wp2_with (go_at_call 451; refine (srt_nan _ _).mono ?_; rintro e w' ⟨rfl, rfl⟩)
  go_ret
  exact ⟨rfl, rfl⟩

set_option maxHeartbeats 4000000 in
set_option maxRecDepth 1000000 in
theorem srt_ins (blk off cap a b : Nat) (d : Array Int) (w : World) (hH : Holds (Value.int .u32) w blk off d) (hab : a ≤ b) (hb : b ≤ d.size) (hsz : d.size < 4611686018427387904) :
    Calls Tryz.prog 412 #[.slice (some ⟨blk, off, none⟩) d.size cap, .int .i64 a, .int .i64 b] w fun e w' =>
      e = .returned (.tuple #[]) ∧ ∃ n, w' = putRow (Value.int .u32) (Sort.ahead w n) blk off (Sort.insertionSort ltInt d a b) := by
  go_enter Tryz.func412, Tryz.ntmps412
  go_wp2
  go_loopw [6] (fun vi wr => ∃ (i n : Nat) (dk : Array Int), vi = .int .i64 i ∧ a < i ∧ i ≤ b + 1 ∧ dk.size = d.size ∧ wr = putRow (Value.int .u32) (Sort.ahead w n) blk off dk ∧
      insOuter ltInt a b i dk = insOuter ltInt a b (a + 1) d) (fun vi _ => b + 1 - (Go.Proofs.intOf vi).toNat)
  case atStart => exact ⟨a + 1, 0, d, by go_num, by omega, by omega, rfl, (putRow_self _ _ _ _ _ hH).symm, rfl⟩
  case round =>
    obtain ⟨i, n, dk, rfl, hai, hib, hsk, hwr, hO⟩ := hrel
    have HO : Hid (insOuter ltInt a b i dk = insOuter ltInt a b (a + 1) d) := hO
    clear hO
    go_wp2
    · go_loopw [7] (fun vj wr2 => ∃ (j m : Nat) (dj : Array Int), vj = .int .i64 j ∧ a ≤ j ∧ j ≤ i ∧ dj.size = d.size ∧ wr2 = putRow (Value.int .u32) (Sort.ahead w m) blk off dj ∧
          insInner ltInt a j dj = insInner ltInt a i dk) (fun vj _ => (Go.Proofs.intOf vj).toNat)
      case atStart => exact ⟨i, n, dk, rfl, by omega, Nat.le_refl _, hsk, rfl, rfl⟩
      case round =>
        obtain ⟨j, m, dj, rfl, haj, hji, hsj, hw2, hI⟩ := hrel
        have hlt : i < b := by assumption
        obtain ⟨G, hG⟩ : ∃ G : Nat → Int, ∀ t, G t = dj[t]! := ⟨fun t => dj[t]!, fun _ => rfl⟩
        have hcw : ∀ t, t < d.size → wr.cell? ⟨blk, off + t, none⟩ = some (.int .u32 (G t)) := fun t ht => by
          rw [hw2, hG]; exact cell?_putRow _ _ _ _ d dj (holds_ahead _ _ _ _ _ _ hH) hsj t (by omega)
        have hfw : ∀ t, t < d.size → wr.frozen? ⟨blk, off + t, none⟩ = false := fun t ht => by
          rw [hw2, frozen?_putRow]; exact ((holds_ahead _ _ m _ _ _ hH) t ht).2
        have HW : Hid (wr = putRow (Value.int .u32) (Sort.ahead w m) blk off dj) := hw2
        have HG : Hid (∀ t, G t = dj[t]!) := hG
        have HI : Hid (insInner ltInt a j dj = insInner ltInt a i dk) := hI
        clear hw2 hG hI hH
        have out : (j ≤ a ∨ ltInt dj[j]! dj[j - 1]! = false) → ∀ q, ∃ i' n' dk', Value.int .i64 ((i : Int) + 1) = .int .i64 (i' : Nat) ∧ a < i' ∧ i' ≤ b + 1 ∧ dk'.size = d.size ∧
            wr.drewN q = putRow (Value.int .u32) (Sort.ahead w n') blk off dk' ∧ insOuter ltInt a b i' dk' = insOuter ltInt a b (a + 1) d := fun hs q =>
          ⟨i + 1, m + q, dj, by go_num, by omega, by omega, hsj, by rw [HW.out]; exact putRow_drewN _ _ _ _ _ _ _,
            by rw [← HO.out, insOuter_go _ _ _ _ _ hlt, ← HI.out, insInner_stop _ _ _ _ hs]⟩
        have OUT : Hid _ := out
        clear out
        go_wp2
        by_cases hja : a < j
        · go_quiet (first | (go_at_call 418; refine Calls.quiet_of_same (srt_less _ _ _)))
          go_wp2
          · have hl : ltInt (G j) (G (j - 1)) = true := by assumption
            go_region
            all_goals go_wp2
            go_roundw
            case rel =>
              refine ⟨j - 1, m + (nq + 1), swp dj j (j - 1), by congr 1; omega, by omega, by omega, by rw [size_swp]; exact hsj, ?_, ?_⟩
              · rw [HW.out, HG.out, HG.out]
                exact swap_worldA _ w m (nq + 1) blk off dj j (j - 1) (by omega) (by omega)
              · rw [← HI.out, insInner_go ltInt a j dj hja (by rw [← HG.out, ← HG.out]; exact hl)]
            case measure => simp [Go.Proofs.intOf]; omega
          · have hl : ltInt (G j) (G (j - 1)) = false := by assumption
            go_roundw
            case rel => exact OUT.out (Or.inr (by rw [← HG.out, ← HG.out]; exact hl)) nq
            case measure => simp [Go.Proofs.intOf]; omega
        · go_quiet (first | (go_at_call 418; refine Calls.quiet_of_same (srt_less _ _ _)))
          go_wp2
          go_roundw
          case rel => exact OUT.out (Or.inl (by omega)) nq
          case measure => simp [Go.Proofs.intOf]; omega
    · have hge : ¬ i < b := by assumption
      go_end0
      exact ⟨rfl, n, by unfold Sort.insertionSort; rw [← HO.out, insOuter_stop _ _ _ _ _ hge]⟩

set_option maxHeartbeats 4000000 in
set_option maxRecDepth 1000000 in
theorem srt_pdq (blk off cap : Nat) (lim : Int) (d : Array Int) (w : World) (hH : Holds (Value.int .u32) w blk off d) (hsz : d.size ≤ 12) :
    Calls Tryz.prog 361 #[.slice (some ⟨blk, off, none⟩) d.size cap, .int .i64 0, .int .i64 d.size, .int .i64 lim] w fun e w' =>
      e = .returned (.tuple #[]) ∧ ∃ n, w' = putRow (Value.int .u32) (Sort.ahead w n) blk off (Sort.insertionSort ltInt d 0 d.size) := by
  have c12 : (d.size : Int) ≤ 12 := by omega
  go_enter Tryz.func361, Tryz.ntmps361
  go_wp2
  refine wp_loop_rounds 1 ?_
  rw [rounds_succ]
  go_wp2_with (go_at_call 412; refine (srt_ins blk off cap 0 d.size d _ hH (by omega) (Nat.le_refl _) (by omega)).mono ?_; rintro e w' ⟨rfl, n, rfl⟩)
  refine bodyPost_ret (results_none rfl _ _ _) rfl ?_
  exact ⟨rfl, n, rfl⟩

theorem srt_ins_nil (p : Option Addr) (cap : Nat) (w : World) :
    Calls Tryz.prog 412 #[.slice p 0 cap, .int .i64 0, .int .i64 0] w fun e w' => e = .returned (.tuple #[]) ∧ w' = w := by
  go_enter Tryz.func412, Tryz.ntmps412
  go_wp2
  refine wp_loop_rounds 1 ?_
  rw [rounds_succ]
  go_wp2
  go_end0
  exact ⟨rfl, rfl⟩

set_option maxRecDepth 100000 in
theorem srt_pdq_nil (p : Option Addr) (cap : Nat) (lim : Int) (w : World) :
    Calls Tryz.prog 361 #[.slice p 0 cap, .int .i64 0, .int .i64 0, .int .i64 lim] w fun e w' => e = .returned (.tuple #[]) ∧ w' = w := by
  go_enter Tryz.func361, Tryz.ntmps361
  go_wp2
  refine wp_loop_rounds 1 ?_
  rw [rounds_succ]
  go_wp2_with (first | (go_at_call 412; refine (srt_ins_nil p cap _).mono ?_; rintro e w' ⟨rfl, rfl⟩))
  refine bodyPost_ret (results_none rfl _ _ _) rfl ?_
  exact ⟨rfl, rfl⟩

set_option maxHeartbeats 4000000 in
set_option maxRecDepth 1000000 in
theorem srt_len64 (n : Nat) (h : n ≤ 12) (w : World) : Calls Tryz.prog 422 #[.int .u64 n] w fun e w' => (∃ k, e = .returned (.int .i64 k)) ∧ w' = w := by
  have : n = 0 ∨ n = 1 ∨ n = 2 ∨ n = 3 ∨ n = 4 ∨ n = 5 ∨ n = 6 ∨ n = 7 ∨ n = 8 ∨ n = 9 ∨ n = 10 ∨ n = 11 ∨ n = 12 := by omega
  rcases this with rfl | rfl | rfl | rfl | rfl | rfl | rfl | rfl | rfl | rfl | rfl | rfl | rfl
  all_goals
    go_enter Tryz.func422, Tryz.ntmps422
    go_wp2
    go_ret
    exact ⟨⟨_, rfl⟩, rfl⟩

set_option maxHeartbeats 4000000 in
theorem srt_len (n : Nat) (h : n ≤ 12) (w : World) : Calls Tryz.prog 362 #[.int .u64 n] w fun e w' => (∃ k, e = .returned (.int .i64 k)) ∧ w' = w := by
  go_enter Tryz.func362, Tryz.ntmps362
  go_wp2_with (go_at_call 422; refine (srt_len64 n h _).mono ?_; rintro e w' ⟨⟨k, rfl⟩, rfl⟩)
  go_ret
  exact ⟨⟨_, rfl⟩, rfl⟩

set_option maxHeartbeats 4000000 in
theorem srt_sort (blk off cap : Nat) (ss : List Int) (W : World) (hH : Holds encU W blk off ss.toArray) (h12 : ss.length ≤ 12) :
    Calls Tryz.prog 260 #[.slice (some ⟨blk, off, none⟩) ss.length cap] W fun e w' => e = .returned (.tuple #[]) ∧ ∃ k os, w' = grow (putRow encU (Sort.ahead W k) blk off (ss.mergeSort fun x y => decide (x ≤ y)).toArray) os := by
  have hz : ss.toArray.size = ss.length := by simp
  have cP : ∀ lim, Calls Tryz.prog 361 #[.slice (some ⟨blk, off, none⟩) ss.length cap, .int .i64 0, .int .i64 ss.length, .int .i64 lim] W fun e w' =>
      e = .returned (.tuple #[]) ∧ ∃ n, w' = putRow (Value.int .u32) (Sort.ahead W n) blk off (Sort.insertionSort ltInt ss.toArray 0 ss.toArray.size) := fun lim => by
    have := srt_pdq blk off cap lim ss.toArray W hH (by omega)
    rwa [hz] at this
  have c12 : (ss.length : Int) ≤ 12 := by omega
  go_enter Tryz.func260, Tryz.ntmps260
  go_wp2_with (first
    | (go_at_call 361; refine (cP _).mono ?_; rintro e w' ⟨rfl, n, rfl⟩)
    | (go_at_call 362; refine (srt_len ss.length h12 _).mono ?_; rintro e w' ⟨⟨k, rfl⟩, rfl⟩))
  go_end0
  refine ⟨rfl, n, #[], ?_⟩
  have e1 : (Sort.insertionSort ltInt ss.toArray 0 ss.toArray.size) = (ss.mergeSort fun x y => decide (x ≤ y)).toArray := by
    obtain ⟨h1, h2⟩ := insertionSort_holds (lt := ltInt) swo_ltInt ss.toArray 0 ss.toArray.size (Nat.zero_le _) (Nat.le_refl _)
    have hu := sorted_unique_holds (lt := ltInt) swo_ltInt (fun x y hx hy => by simp [ltInt] at hx hy; omega) ss.toArray _ h1 h2
    apply Array.ext'
    rw [hu]
    show ss.mergeSort _ = ss.mergeSort _
    congr 1
    funext x y
    by_cases hxy : x ≤ y
    · simp [ltInt, hxy]
    · have : y < x := by omega
      simp [ltInt, hxy, this]
  rw [hz] at e1
  simp only [e1]
  simp [grow]
  rfl

set_option maxHeartbeats 4000000 in
theorem srt_nil (p : Option Addr) (cap : Nat) (w : World) :
    Calls Tryz.prog 260 #[.slice p 0 cap] w fun e w' => e = .returned (.tuple #[]) ∧ w' = w := by
  have cP : ∀ lim, Calls Tryz.prog 361 #[.slice p 0 cap, .int .i64 0, .int .i64 0, .int .i64 lim] w fun e w' => e = .returned (.tuple #[]) ∧ w' = w := fun lim => srt_pdq_nil p cap lim w
  go_enter Tryz.func260, Tryz.ntmps260
  go_wp2_with (first
    | (go_at_call 361; refine (cP _).mono ?_; rintro e w' ⟨rfl, rfl⟩)
    | (go_at_call 362; refine (srt_len 0 (by omega) _).mono ?_; rintro e w' ⟨⟨k, rfl⟩, rfl⟩))
  go_end0
  exact ⟨rfl, rfl⟩

theorem srts_wide (m : Nat) : Srt.SortsIn Fence.wide m :=
  ⟨fun blk off cap ss W hH hblk hsz => callsIn_wide.2 (srt_sort blk off cap ss W hH hsz),
   fun p cap W => callsIn_wide.2 (srt_nil p cap W)⟩

end Go.Proofs.YtgeankpiediebaaGreat
