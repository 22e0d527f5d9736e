/- The walk of the law BitsTell. -/
import Derived.Test.YtlokdoklkfnleaaBitsKnown
import Derived.Test.YtlokdoklkfnleaaRef1Loops
import Derived.Below
namespace Go.Proofs.Ytlokdoklkfnleaa
open Go.ChangeShapes Go.WideShapes Go.ChangeAt Go.RowKit
set_option linter.unusedVariables false

theorem Bts_at {w : World} (t : TypeId) (cs : Array Value) (g o cap : Nat) (bs : List Int) (hg : g = w.heap.size) (hc : ∀ i, i < bs.length → cs[o + i]? = some (.int .u8 (bs.getD i 0))) (hb : ∀ x ∈ bs, 0 ≤ x ∧ x < 256) :
    Bts (w.alloc (.cells cs t)) (.slice (some ⟨g, o, none⟩) bs.length cap) bs := by subst hg; exact Bts_new w t cs o cap bs hc hb

theorem Bts_below {w w' : World} {v : Value} {bs : List Int} (h : Bts w v bs) (hb : Below w.heap.size w w') : Bts w' v bs := by
  obtain ⟨a, cap, rfl, hc, hx⟩ := h
  refine ⟨a, cap, rfl, fun i hi => ?_, hx⟩
  obtain ⟨b, o', rfl, hlt, hcell⟩ := hc i hi
  exact ⟨b, o', rfl, Nat.lt_of_lt_of_le hlt hb.size, by rw [hb.cell (p := ⟨b, o' + i, none⟩) hlt]; exact hcell⟩

theorem BitsTell_walk (a0 : Int) (a1 : Int) (a2 : Int) (v : Value) (bs : List Int) (w : World) (w0 : (Lit.int .u32 a0).wf = true) (hv : Bts w v bs) (hl : bs.length ≤ maxLen) :
    Calls Try.prog 3 #[.int .u32 a0, .int .i64 a1, .int .i64 a2, v] w fun e w' => e = .returned (.bool true) ∧ Below w.heap.size w w' := by
  have b0 := bounds_u32 w0
  clear w0
  obtain ⟨a, cap, rfl, hc, hb⟩ := id hv
  have hl' : bs.length ≤ 9223372036854775807 := hl
  by_cases h100 : 100 < bs.length
  · go_enter Try.func3, Try.ntmps3
    go_wp2_with fail
    refine (known1_below _).mono ?_; rintro e w1 ⟨rfl, hg⟩
    go_wp2_with fail
    go_ret
    exact ⟨rfl, hg⟩
  · have h100' : bs.length ≤ 100 := by omega
    clear h100
    have hs : ∀ (w1 : World) (o p q : Obj), Below w.heap.size w w1 → Bts (((w1.alloc o).alloc p).alloc q) (.slice a bs.length cap) bs := fun w1 o p q hg => Bts_alloc (Bts_alloc (Bts_alloc (Bts_below hv hg) _) _) _
    have hs2 : ∀ (w1 : World) (o p : Obj), Below w.heap.size w w1 → Bts ((w1.alloc o).alloc p) (.slice a bs.length cap) bs := fun w1 o p hg => Bts_alloc (Bts_alloc (Bts_below hv hg) _) _
    have Hs := Lib.hid hs; clear hs
    have Hs2 := Lib.hid hs2; clear hs2 hc
    have Hv := Lib.hid hv; clear hv
    have Hb := Lib.hid hb; clear hb
    have q0 : 0 ≤ a0 % 256 ∧ a0 % 256 < 256 := by omega
    have q1 : 0 ≤ a0 / 256 % 256 ∧ a0 / 256 % 256 < 256 := by omega
    have q2 : 0 ≤ a0 / 65536 % 256 ∧ a0 / 65536 % 256 < 256 := by omega
    have q3 : 0 ≤ a0 / 16777216 ∧ a0 / 16777216 < 256 := by omega
    go_enter Try.func3, Try.ntmps3
    go_wp2_with fail
    refine (known1_below _).mono ?_; rintro e w1 ⟨rfl, hg⟩
    go_wp2_with fail
    refine (bits_Bytes _ (by omega) (by omega) _).mono ?_; rintro e w' ⟨rfl, rfl⟩
    go_wp2_with fail
    refine (bits_Sign8 _ (by omega) (by omega) _).mono ?_; rintro e w' ⟨rfl, rfl⟩
    go_wp2_with fail
    refine (ref1_Signed _ _ (by omega) (by omega) _).mono ?_; rintro e w' ⟨rfl, rfl⟩
    go_wp2_with fail
    refine (bits_Sign12 _ (by omega) (by omega) _).mono ?_; rintro e w' ⟨rfl, rfl⟩
    go_wp2_with fail
    refine (ref1_Signed _ _ (by omega) (by omega) _).mono ?_; rintro e w' ⟨rfl, rfl⟩
    go_wp2_with fail
    refine (bits_Signed _ _ (by omega) (by omega) _).mono ?_; rintro e w' ⟨rfl, rfl⟩
    go_wp2_with fail
    refine (ref1_Signed _ _ (by omega) (by omega) _).mono ?_; rintro e w' ⟨rfl, rfl⟩
    go_wp2_with fail
    refine (bits_Field _ _ _ (by omega) (by omega) _).mono ?_; rintro e w' ⟨rfl, rfl⟩
    go_wp2_with fail
    refine (ref1_Field _ _ _ (by omega) (by omega) _).mono ?_; rintro e w' ⟨rfl, rfl⟩
    go_wp2_with fail
    refine (bits_Parity _ (by omega) (by omega) _).mono ?_; rintro e w' ⟨rfl, rfl⟩
    go_wp2_with fail
    refine (ref1_Parity _ (by omega) (by omega) _).mono ?_; rintro e w' ⟨rfl, rfl⟩
    go_wp2_with fail
    refine (bits_Word bs _ _ (Hs2.out _ _ _ hg)).mono ?_; rintro e w' ⟨rfl, rfl⟩
    go_wp2_with fail
    refine (ref1_Word bs _ _ (Hs.out _ _ _ _ hg) hl).mono ?_; rintro e w' ⟨rfl, rfl⟩
    go_wp2_with fail
    refine (bits_Word [a0 % 256, a0 / 256 % 256, a0 / 65536 % 256, a0 / 16777216] _ _ (Bts_alloc (Bts_at _ _ _ 0 4 _ (by simp) (fun i hi => by match i, hi with | 0, _ => rfl | 1, _ => rfl | 2, _ => rfl | 3, _ => rfl) (by simp [q0, q1, q2, q3])) _)).mono ?_; rintro e w' ⟨rfl, rfl⟩
    have e9 : wordOf [a0 % 256, a0 / 256 % 256, a0 / 65536 % 256, a0 / 16777216] = a0 := by unfold wordOf; simp <;> omega
    go_wp2_with fail
    go_ret
    have hz := hg.size
    exact ⟨rfl, (((hg.alloc hz _).alloc (by simp; omega) _).alloc (by simp; omega) _).alloc (by simp; omega) _⟩
end Go.Proofs.Ytlokdoklkfnleaa
