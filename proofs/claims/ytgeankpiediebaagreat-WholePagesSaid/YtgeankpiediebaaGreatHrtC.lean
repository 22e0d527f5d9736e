/-
  What slices.Sorted gives of the keys of a map, in the executor's words.
-/
import Derived.Test.YtgeankpiediebaaGreatSrtB
import Derived.Test.YtgeankpiediebaaGreatDih
namespace Go.Proofs.YtgeankpiediebaaGreat
open Go.Proofs Go.RowKit Go.Maps Go.Sort Go.Shelf
open Go.Fx (SortOk encN sortN sortN_perm sortN_pairwise)
open Go.WideElems (Fit rd rg rd_mk rg_of)
set_option linter.unusedVariables false

/-- what a map's entries are read as: the values don't matter -/
def srtR (_ : Value) : Option (DataW Unit × List MemPlace) := some (.nil, [])
theorem srt_wf {n : Nat} (h : n < 4294967296) : (Lit.int .u32 (n : Int)).wf = true := by
  have e1 : IntKind.u32.min = 0 := by decide
  have e2 : IntKind.u32.max = 4294967295 := by decide
  simp only [Lit.wf, e1, e2, Bool.and_eq_true, decide_eq_true_eq]
  omega
def srtInt : Value → Int
  | .int _ a => a
  | _ => 0
theorem srt_own {b clock : Nat} {ents : List MapEntry} {ks : List Nat} {w : World} (h1 : ∀ k ∈ ks, k < 4294967296) (h2 : ks.Nodup) (h3 : ks.length ≤ 12) (hb : w.heap[b]? = some (.map ents.toArray clock))
    (hk : ents.map (·.key) = ks.map encN) (hlt : ∀ x ∈ ents, x.born < clock) (hn : (ents.map (·.born)).Nodup) :
    ∃ D0 : DataW Unit, w.ownsMap Tryz.prog 23 srtR b 12 D0 ∧ (u32Keys D0).Perm (ks.map fun (n : Nat) => (n : Int)) ∧ Maps.size D0 = ks.length := by
  have hl : ents.length = ks.length := by
    have := congrArg List.length hk
    simpa using this
  have hrd : ∀ x ∈ ents, ∃ n ∈ ks, x.key = encN n ∧ rd Tryz.prog 23 srtR x = some ((.int .u32 n, .nil) : Lit × DataW Unit) := fun x hx => by
    have : x.key ∈ ks.map encN := hk ▸ List.mem_map_of_mem hx
    obtain ⟨n, hn, he⟩ := List.mem_map.1 this
    refine ⟨n, hn, he.symm, ?_⟩
    cases x with
    | mk key val born =>
      have he : key = .int .u32 n := he.symm
      subst he
      exact rd_mk (keyOf_int_mk Tryz.underlying23 (srt_wf (h1 n hn))) (show srtR val = some (.nil, []) from rfl)
  refine ⟨.map ((ents.map (rg Tryz.prog 23 srtR)).foldr DataW.insert []), ⟨ents.toArray, clock, hb, ⟨?_, ⟨hlt, hn, ?_⟩, fun x hx => ?_⟩, ?_, rfl⟩, ?_, ?_⟩
  · simp only [List.size_toArray, hl]
    exact Nat.le_trans h3 (by decide)
  · show (ents.map (·.key)).Nodup
    rw [hk]
    exact List.Pairwise.map _ (fun a b h e => h (Int.ofNat.inj (by simpa [encN] using e))) h2
  · obtain ⟨n, _, _, h⟩ := hrd x hx
    exact ⟨_, h⟩
  · simp only [List.size_toArray, hl]; exact h3
  · show (((ents.map (rg Tryz.prog 23 srtR)).foldr DataW.insert []).map fun p => _root_.Go.intOf p.1).Perm _
    refine ((WideShapes.sorted_perm _).map _).trans ?_
    have : (ents.map (rg Tryz.prog 23 srtR)).map (fun p => _root_.Go.intOf p.1) = ks.map fun (n : Nat) => (n : Int) := by
      have e : (ents.map (rg Tryz.prog 23 srtR)).map (fun p => _root_.Go.intOf p.1) = (ents.map (·.key)).map srtInt := by
        rw [List.map_map, List.map_map]
        refine List.map_congr_left fun x hx => ?_
        obtain ⟨n, _, h4, h5⟩ := hrd x hx
        simp only [Function.comp_apply, rg_of h5, h4]
        rfl
      rw [e, hk, List.map_map]
      rfl
    rw [this]
  · show ((ents.map (rg Tryz.prog 23 srtR)).foldr DataW.insert []).length = _
    rw [length_sorted, List.length_map, hl]

theorem srt_ok : SortOk Tryz.prog 191 303 23 := by
  refine ⟨by kernel_rfl, enters_of Tryz.func191 (by kernel_rfl) rfl, ?_⟩
  intro B b clock ents ks w h1 h2 h3 hc hb hk hlt hn
  obtain ⟨D0, hown, hperm, hsz⟩ := srt_own h1 h2 h3 hb hk hlt hn
  have hB : B < w.heap.size := by
    rcases Nat.lt_or_ge B w.heap.size with h | h
    · exact h
    · simp [World.cell?, Array.getElem?_eq_none h] at hc
  have hseq := Srt.keys_gives Fence.wide 2 trivial rfl (by decide) B b 12 D0 w hB hc hown
  have cS := callsIn_wide.1 (Srt.sorted_in Fence.wide 5 trivial trivial trivial trivial rfl (by decide) (srts_wide _) (enters_of Tryz.func260 (by kernel_rfl) rfl) 303 #[.pointer (some ⟨B, 0, none⟩)] trivial (enters_of Tryz.func303 (by kernel_rfl) rfl) _ _ (by rw [hsz]; exact h3) w hseq)
  refine cS.mono ?_
  rintro r w' ⟨v, ss, rfl, hS, hrow, hnil, hbel⟩
  refine ⟨hbel, ?_⟩
  have hp : ss.Perm (ks.map fun (n : Nat) => (n : Int)) := hS.trans hperm
  have hlen : ss.length = ks.length := by rw [hp.length_eq, List.length_map]
  rcases hrow.2 with ⟨rfl, hz⟩ | ⟨g, cap, cur, rfl, hbase, hg, r1, r2, r3, r4⟩
  · have : ss = [] := hnil.1 rfl
    subst this
    refine .inl ⟨List.eq_nil_of_length_eq_zero (by simpa using hlen.symm), rfl⟩
  · have hne : ks ≠ [] := fun e => by
      subst e
      have : ss = [] := List.eq_nil_of_length_eq_zero hlen
      have := hnil.2 this
      cases this
    have e1 : ss.mergeSort (fun x y => decide (x ≤ y)) = (sortN ks).map fun (n : Nat) => (n : Int) := by
      have tr : ∀ a b c : Int, leI a b = true → leI b c = true → leI a c = true := fun a b c h1 h2 => by simp only [leI, decide_eq_true_eq] at *; exact Int.le_trans h1 h2
      have to : ∀ a b : Int, (leI a b || leI b a) = true := fun a b => by simp only [leI, Bool.or_eq_true, decide_eq_true_eq]; exact Int.le_total a b
      refine List.Perm.eq_of_pairwise (le := fun a b => leI a b = true) (fun a b _ _ h1 h2 => ?_) (List.pairwise_mergeSort tr to ss) (List.pairwise_map.2 ((sortN_pairwise ks).imp fun {a b} h => ?_)) (((List.mergeSort_perm ss leI).trans hp).trans ((sortN_perm ks).map _).symm)
      · simp only [leI, decide_eq_true_eq] at h1 h2
        exact Int.le_antisymm h1 h2
      · simp only [leI, decide_eq_true_eq]
        omega
    refine .inr ⟨g, cap, cur, hne, by rw [hlen], hbase, hg, by omega, by omega, ?_⟩
    rw [Nat.mul_one, hlen, e1, List.map_map] at r4
    exact r4

end Go.Proofs.YtgeankpiediebaaGreat
