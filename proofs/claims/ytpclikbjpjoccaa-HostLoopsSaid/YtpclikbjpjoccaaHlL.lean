/-
  HostLoops: the walk. Printed by gen/hostloops.py.
-/
import Derived.Test.YtpclikbjpjoccaaHlLm
import Derived.Test.YtpclikbjpjoccaaKit
namespace Go.Proofs.Ytpclikbjpjoccaa
open Go Go.RowKit Go.Sx
set_option linter.unusedVariables false
set_option linter.unusedSimpArgs false

def wArr : Array Value := #[.int .i64 19, .int .i64 2, .int .i64 2, .int .i64 0, .int .i32 3, .int .i64 19, .int .i64 1, .int .i64 1, .int .i64 0, .int .i32 (-1), .int .i64 6, .int .i64 0, .int .i64 1, .int .i64 0, .int .i32 (-8), .int .i64 46, .int .i64 0, .int .i64 0, .int .i64 0, .int .i32 0]
theorem wx0 (w : World) : (Instr.index 44 (.agg wArr) (.int .i64 0)).run Try.prog w = .ok (.agg #[.int .i64 19, .int .i64 2, .int .i64 2, .int .i64 0, .int .i32 3]) w := by kernel_rfl
theorem wx1 (w : World) : (Instr.index 44 (.agg wArr) (.int .i64 1)).run Try.prog w = .ok (.agg #[.int .i64 19, .int .i64 1, .int .i64 1, .int .i64 0, .int .i32 (-1)]) w := by kernel_rfl
theorem wx2 (w : World) : (Instr.index 44 (.agg wArr) (.int .i64 2)).run Try.prog w = .ok (.agg #[.int .i64 6, .int .i64 0, .int .i64 1, .int .i64 0, .int .i32 (-8)]) w := by kernel_rfl
theorem wx3 (w : World) : (Instr.index 44 (.agg wArr) (.int .i64 3)).run Try.prog w = .ok (.agg #[.int .i64 46, .int .i64 0, .int .i64 0, .int .i64 0, .int .i32 0]) w := by kernel_rfl
theorem alloc_thenL {w w2 : World} {o : Obj} (h : Below (w.alloc o).heap.size (w.alloc o) w2) : Below w.heap.size w w2 :=
  have k : Below w.heap.size w (w.alloc o) := (Below.refl _ _).alloc (Nat.le_refl _) o
  k.trans (h.mono k.size)
def lN (k y0 y1 y2 y3 : Int) : Nat → HS
  | 0 => l0 k
  | 1 => l1 k y0
  | 2 => l2 k y0 y1
  | 3 => l3 k y0 y1 y2
  | _ => lS k y0 y1 y2 y3

set_option maxHeartbeats 4000000 in
set_option maxRecDepth 100000 in
theorem loops_go (n u Ki fi ci : Int) (K f c : Nat) (hK : n % 50 + 1 = Ki) (hK2 : n.tmod 50 = n % 50) (hF : u.tmod (3 * Ki + 1) = fi) (q0 : 0 ≤ n ∧ n ≤ 255) (q1 : 0 ≤ u ∧ u ≤ 255) (eK : (K : Int) = Ki) (ef : (f : Int) = fi) (ec : (c : Int) = ci) (bK : 1 ≤ Ki ∧ Ki ≤ 50) (bf : 0 ≤ fi ∧ fi ≤ 3 * Ki) (bc : ci = 3 * Ki - fi + 1) (ecn : c = 3 * K - f + 1) (w : World) :
    Calls Try.prog 7 #[.int .u8 n, .int .u8 u] w fun e w' => e = .returned (.bool true) ∧ Below w.heap.size w w' := by
  obtain ⟨y0, e0⟩ : ∃ y, encS 19 2 2 0 3 = y := ⟨_, rfl⟩
  obtain ⟨y1, e1⟩ : ∃ y, encS 19 1 1 0 (-1) = y := ⟨_, rfl⟩
  obtain ⟨y2, e2⟩ : ∃ y, encS 6 0 1 0 (-8) = y := ⟨_, rfl⟩
  obtain ⟨y3, e3⟩ : ∃ y, encS 46 0 0 0 0 = y := ⟨_, rfl⟩
  have hy : Ys y0 y1 y2 y3 := ⟨e0, e1, e2, e3⟩
  obtain ⟨T, U, r1, gT, r2, hp, g2, g1⟩ := l_runs (k := K) (f := f) (by omega) hy (by omega)
  rw [eK] at r1 g2; rw [ef] at r1; rw [← ecn] at r2
  have Y := Lib.hid hy
  have R1 : Hid (hrun (fuelN fi) (lS Ki y0 y1 y2 y3) = (0, f, T) ∧ (f : Int) = fi) := Lib.hid ⟨r1, ef⟩
  have R2 : Hid (hrun (fuelN 1000) T = (1, c, U) ∧ (c : Int) = ci) := Lib.hid ⟨r2, ec⟩
  have GT := Lib.hid gT; have HP := Lib.hid hp; have X2 := Lib.hid g2; have X1 := Lib.hid g1
  have GS : Hid (Good (lS Ki y0 y1 y2 y3)) := Lib.hid (lS_good (by omega) _ _ _ _)
  have BF : Hid (I64 fi) := Lib.hid ⟨by omega, by omega⟩
  have hs : fi + ci = 3 * Ki + 1 := by omega
  have BC := Lib.hid bc
  have KB : Hid (0 ≤ Ki ∧ Ki ≤ 4294967295) := Lib.hid (by omega)
  clear e0 e1 e2 e3 hy r1 gT r2 hp g2 g1 eK ef ec ecn bc
  have i0 := wx0; have i1 := wx1; have i2 := wx2; have i3 := wx3
  have c0 : 0 ≤ ci ∧ ci ≤ 151 := by have := BC.out; omega
  go_enter Try.func7, Try.ntmps7
  go_wp2_with (first
    | (refine Kit.wpList_build_as (t := 44) rfl _ rfl (.agg wArr) (by kernel_rfl) ?_)
    | (go_at_call 19; (with_reducible refine (sx_is _ _ mb _ h1 (i := 1) (v := Ki) (by decide) (S' := l0 Ki) rfl).mono ?_); rintro e v2 ⟨rfl, hM⟩; have h2 := hM.at_; have M2 := Lib.hid hM; clear hM)
    | (go_at_call 11; (with_reducible refine (host_New _).mono ?_); obtain ⟨mb, hmb⟩ : ∃ mb, mb = v0.heap.size := ⟨_, rfl⟩; rw [← hmb]; rintro e v1 ⟨⟨rfl, h1⟩, hB⟩; have B1 := Lib.hid hB; have HMB := Lib.hid hmb; clear hB hmb)
    | (go_at_call 10; (with_reducible refine (law_known _).mono ?_); rintro e v0 ⟨rfl, hB⟩; have B0 := Lib.hid hB; clear hB))
  go_loopw [30] (fun i wr => ∃ (c : Nat) (j : Int), c ≤ 4 ∧ j = (c : Int) ∧ i = .int .i64 j ∧ HostAt wr (mb + 1) mb (lN Ki y0 y1 y2 y3 c) ∧ Turn (Own (mb + 1) mb) v1 wr) (fun i _ => 4 - (intOf i).toNat)
  case atStart => exact ⟨0, 0, by omega, rfl, rfl, h2, M2.out.turn⟩
  case round =>
    obtain ⟨c, j, hc, hj, rfl, hH, hT⟩ := hrel
    have hT := Lib.hid hT
    rcases (by omega : c = 0 ∨ c = 1 ∨ c = 2 ∨ c = 3 ∨ c = 4) with rfl | rfl | rfl | rfl | rfl
    · obtain rfl : j = 0 := by omega
      clear hj hc
      go_wp2_with (first
    | (go_at_call 13; (with_reducible refine (sto_is _ _ mb _ h5 (a := 1024) (n := 4) (v := y0) (b := true) (S' := (l1 Ki y0)) (by decide) Y.out.b0 (by decide) rfl).mono ?_); rintro e v6 ⟨rfl, hM⟩; have h6 := hM.at_; have M6 := Lib.hid hM; clear hM)
    | (go_at_call 22; (with_reducible refine (word_is _ W_a3 (by decide) Y.out.e0).mono ?_); rintro e v5 ⟨rfl, hB⟩; have hB' := alloc_thenL hB; have h5 := hH.below hB'; have B5 := Lib.hid hB'; clear hB hB'))
      go_roundw
      case rel => exact ⟨1, 1, by omega, rfl, by go_num, h6, hT.out.trans ((Turn.of_below B5.out).trans M6.out.turn)⟩
      case measure => simp [intOf]
    · obtain rfl : j = 1 := by omega
      clear hj hc
      go_wp2_with (first
    | (go_at_call 13; (with_reducible refine (sto_is _ _ mb _ h5 (a := 1028) (n := 4) (v := y1) (b := true) (S' := (l2 Ki y0 y1)) (by decide) Y.out.b1 (by decide) rfl).mono ?_); rintro e v6 ⟨rfl, hM⟩; have h6 := hM.at_; have M6 := Lib.hid hM; clear hM)
    | (go_at_call 22; (with_reducible refine (word_is _ W_a1 (by decide) Y.out.e1).mono ?_); rintro e v5 ⟨rfl, hB⟩; have hB' := alloc_thenL hB; have h5 := hH.below hB'; have B5 := Lib.hid hB'; clear hB hB'))
      go_roundw
      case rel => exact ⟨2, 2, by omega, rfl, by go_num, h6, hT.out.trans ((Turn.of_below B5.out).trans M6.out.turn)⟩
      case measure => simp [intOf]
    · obtain rfl : j = 2 := by omega
      clear hj hc
      go_wp2_with (first
    | (go_at_call 13; (with_reducible refine (sto_is _ _ mb _ h5 (a := 1032) (n := 4) (v := y2) (b := true) (S' := (l3 Ki y0 y1 y2)) (by decide) Y.out.b2 (by decide) rfl).mono ?_); rintro e v6 ⟨rfl, hM⟩; have h6 := hM.at_; have M6 := Lib.hid hM; clear hM)
    | (go_at_call 22; (with_reducible refine (word_is _ W_bn (by decide) Y.out.e2).mono ?_); rintro e v5 ⟨rfl, hB⟩; have hB' := alloc_thenL hB; have h5 := hH.below hB'; have B5 := Lib.hid hB'; clear hB hB'))
      go_roundw
      case rel => exact ⟨3, 3, by omega, rfl, by go_num, h6, hT.out.trans ((Turn.of_below B5.out).trans M6.out.turn)⟩
      case measure => simp [intOf]
    · obtain rfl : j = 3 := by omega
      clear hj hc
      go_wp2_with (first
    | (go_at_call 13; (with_reducible refine (sto_is _ _ mb _ h5 (a := 1036) (n := 4) (v := y3) (b := true) (S' := (lS Ki y0 y1 y2 y3)) (by decide) Y.out.b3 (by decide) rfl).mono ?_); rintro e v6 ⟨rfl, hM⟩; have h6 := hM.at_; have M6 := Lib.hid hM; clear hM)
    | (go_at_call 22; (with_reducible refine (word_is _ W_ec (by decide) Y.out.e3).mono ?_); rintro e v5 ⟨rfl, hB⟩; have hB' := alloc_thenL hB; have h5 := hH.below hB'; have B5 := Lib.hid hB'; clear hB hB'))
      go_roundw
      case rel => exact ⟨4, 4, by omega, rfl, by go_num, h6, hT.out.trans ((Turn.of_below B5.out).trans M6.out.turn)⟩
      case measure => simp [intOf]
    · obtain rfl : j = 4 := by omega
      clear hj hc
      have hH : HostAt wr (mb + 1) mb (lS Ki y0 y1 y2 y3) := hH
      go_wp2_with (first
    | (go_at_call 24; (with_reducible refine (pc_is _ _ mb _ h8 (v := 1040) HP.out).mono ?_); rintro e wq ⟨rfl, rfl⟩)
    | (go_at_call 21; (with_reducible refine (x_is _ _ mb _ h8 (i := 1) (v := 0) (by decide) X1.out).mono ?_); rintro e wq ⟨rfl, rfl⟩)
    | (go_at_call 21; (with_reducible refine (x_is _ _ mb _ h8 (i := 2) (v := 3 * Ki) (by decide) X2.out).mono ?_); rintro e wq ⟨rfl, rfl⟩)
    | (go_at_call 28; (with_reducible refine (run_is _ _ mb _ h7 GT.out (f := 1000) (by decide) R2.out).mono ?_); rintro e v8 ⟨rfl, hM⟩; have h8 := hM.at_; have M8 := Lib.hid hM; clear hM)
    | (go_at_call 28; (with_reducible refine (run_is _ _ mb _ hH GS.out (f := fi) BF.out R1.out).mono ?_); rintro e v7 ⟨rfl, hM⟩; have h7 := hM.at_; have M7 := Lib.hid hM; clear hM))
      go_ret
      exact ⟨rfl, below3 B0.out B1.out HMB.out (hT.out.trans (M7.out.turn.trans M8.out.turn))⟩

theorem HostLoops_walk (n u : Int) (w0 : (Lit.int .u8 n).wf = true) (w1 : (Lit.int .u8 u).wf = true) (w : World) :
    Calls Try.prog 7 #[.int .u8 n, .int .u8 u] w fun e w' => e = .returned (.bool true) ∧ Below w.heap.size w w' := by
  have q0 : 0 ≤ n ∧ n ≤ 255 := by simpa [Lit.wf, IntKind.min, IntKind.max, IntKind.bits, IntKind.signed] using w0
  have q1 : 0 ≤ u ∧ u ≤ 255 := by simpa [Lit.wf, IntKind.min, IntKind.max, IntKind.bits, IntKind.signed] using w1
  have hm : 0 ≤ u % (3 * (n % 50 + 1) + 1) := Int.emod_nonneg _ (by omega)
  have hm2 : u % (3 * (n % 50 + 1) + 1) < 3 * (n % 50 + 1) + 1 := Int.emod_lt_of_pos _ (by omega)
  have ht : u.tmod (3 * (n % 50 + 1) + 1) = u % (3 * (n % 50 + 1) + 1) := Int.tmod_eq_emod_of_nonneg q1.1
  obtain ⟨fi, hfi⟩ : ∃ fi, u % (3 * (n % 50 + 1) + 1) = fi := ⟨_, rfl⟩
  rw [hfi] at hm hm2 ht
  exact loops_go n u (n % 50 + 1) fi (3 * (n % 50 + 1) - fi + 1) (n % 50 + 1).toNat fi.toNat (3 * (n % 50 + 1).toNat - fi.toNat + 1) rfl (Int.tmod_eq_emod_of_nonneg q0.1) ht q0 q1 (by omega) (by omega) (by omega) (by omega) (by omega) (by omega) (by omega) w

end Go.Proofs.Ytpclikbjpjoccaa
