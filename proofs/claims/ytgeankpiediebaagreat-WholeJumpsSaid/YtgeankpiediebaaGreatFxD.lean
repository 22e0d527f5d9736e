/-
  A fast symbolic executor for the model's code, proved right: part D.
-/
import Derived.Test.YtgeankpiediebaaGreatFxC
noncomputable section
namespace Go.Fx
set_option linter.unusedSimpArgs false
set_option linter.unusedVariables false
set_option linter.unusedSectionVars false

theorem insN_cons (x h : Nat) (t : List Nat) : insN x (h :: t) = if x ≤ h then x :: h :: t else h :: insN x t := by
  show (bif Nat.ble x h then x :: h :: t else h :: insN x t) = _
  cases hb : Nat.ble x h
  · have : ¬ x ≤ h := fun hle => by
      have h2 : Nat.ble x h = true := by rw [Nat.ble_eq]; exact hle
      rw [h2] at hb; cases hb
    simp [this]
  · have : x ≤ h := nle hb
    simp [this]
theorem insN_perm (x : Nat) : ∀ l : List Nat, (insN x l).Perm (x :: l)
  | [] => .refl _
  | h :: t => by
    rw [insN_cons]
    split
    · exact .refl _
    · exact ((insN_perm x t).cons h).trans (.swap x h t)
theorem sortN_cons (h : Nat) (t : List Nat) : sortN (h :: t) = insN h (sortN t) := rfl
theorem sortN_perm : ∀ l : List Nat, (sortN l).Perm l
  | [] => .refl _
  | h :: t => by
    rw [sortN_cons]
    exact (insN_perm h (sortN t)).trans ((sortN_perm t).cons h)
theorem insN_pairwise (x : Nat) : ∀ l : List Nat, l.Pairwise (· ≤ ·) → (insN x l).Pairwise (· ≤ ·)
  | [], _ => .cons (fun y hy => by cases hy) .nil
  | h :: t, hp => by
    obtain ⟨h1, h2⟩ := List.pairwise_cons.1 hp
    rw [insN_cons]
    split
    · rename_i hx
      refine List.pairwise_cons.2 ⟨fun y hy => ?_, hp⟩
      rcases List.mem_cons.1 hy with rfl | hy
      · exact hx
      · exact Nat.le_trans hx (h1 y hy)
    · rename_i hx
      refine List.pairwise_cons.2 ⟨fun y hy => ?_, insN_pairwise x t h2⟩
      rcases List.mem_cons.1 ((insN_perm x t).mem_iff.1 hy) with rfl | hy
      · omega
      · exact h1 y hy
theorem sortN_pairwise : ∀ l : List Nat, (sortN l).Pairwise (· ≤ ·)
  | [] => .nil
  | h :: t => by
    rw [sortN_cons]
    exact insN_pairwise h _ (sortN_pairwise t)
theorem incN_cons (h : Nat) (t : List Nat) (p : Nat) : incN (h :: t) p = (Nat.ble p h && incN t (h + 1)) := rfl
theorem incN_le : ∀ {l : List Nat} {p : Nat}, incN l p = true → ∀ x ∈ l, p ≤ x
  | [], _, _, x, hx => by cases hx
  | h :: t, p, hi, x, hx => by
    rw [incN_cons, Bool.and_eq_true] at hi
    have h1 : p ≤ h := nle hi.1
    rcases List.mem_cons.1 hx with rfl | hx
    · exact h1
    · have := incN_le hi.2 x hx; omega
theorem incN_pairwise : ∀ {l : List Nat} {p : Nat}, incN l p = true → l.Pairwise (· < ·)
  | [], _, _ => .nil
  | h :: t, p, hi => by
    rw [incN_cons, Bool.and_eq_true] at hi
    exact .cons (fun x hx => (by have := incN_le hi.2 x hx; omega)) (incN_pairwise hi.2)

def encN (n : Nat) : Value := .int .u32 n
/-- what slices.Sorted gives of the keys of a map -/
def SortOk (P : Program) (g keys1 e : Nat) : Prop := P.cellsOf e = 1 ∧ (∀ as w, (callFunc g as).run P w = .ok (.enter g as) w) ∧
  ∀ (B b clock : Nat) (ents : List MapEntry) (ks : List Nat) (w : World), (∀ k ∈ ks, k < M32) → ks.Nodup → ks.length ≤ 12 → w.cell? ⟨B, 0, none⟩ = some (.map (some b)) → w.heap[b]? = some (.map ents.toArray clock) →
    ents.map (·.key) = ks.map encN → (∀ x ∈ ents, x.born < clock) → (ents.map (·.born)).Nodup →
    Calls P g #[.func (.func keys1) #[] #[.pointer (some ⟨B, 0, none⟩)]] w fun r w' => RowKit.Below w.heap.size w w' ∧
      ((ks = [] ∧ r = .returned (.slice none 0 0)) ∨ ∃ q cap cur, ks ≠ [] ∧ r = .returned (.slice (some ⟨q, 0, none⟩) ks.length cap) ∧ w.heap.size ≤ q ∧ w'.heap[q]? = some (.cells cur e (0, 0)) ∧ ks.length ≤ cap ∧ cur.size = cap ∧
        cur.toList.take ks.length = (sortN ks).map encN)

section
variable {P : Program} {ρ : Env} {R : V → Prop}
theorem keyU_some {e : W × W} {n : Nat} (h : keyU e = some n) : e.1 = .c (.u32 n) := by
  unfold keyU at h
  split at h
  · rename_i m hm
    cases h
    exact hm
  · cases h
theorem keyU_den {es : List (W × W)} {ks : List Nat} (h : mapM keyU es = some ks) (ρ : Env) (ι : Loc) : es.map (fun e => e.1.den ρ ι) = ks.map encN :=
  (mapM_map (g := fun e => W.den ρ ι e.1) (g' := encN) h fun a b hb => by rw [keyU_some hb]; rfl).symm
theorem sortedI_at {g keys1 e : Nat} (hs : SortOk P g keys1 e) : IntrAt P ρ R g ⟨sortedI keys1 e⟩ := by
  obtain ⟨he, hen, hs⟩ := hs
  intro args st ko hf hk
  replace hk : Ok ρ R (sortedI keys1 e args st ko) := hk
  unfold sortedI at hk
  split at hk
  · rename_i q b
    rw [bif_eq] at hk
    split at hk
    · rename_i hq
      have hq := Nat.eq_of_beq_eq_true hq
      subst hq
      split at hk
      · rename_i B hB
        split at hk
        · rename_i m hm
          split at hk
          · rename_i es hes
            have go : ∀ ks, mapM keyU es = some ks → (∀ k ∈ ks, k < M32) → ks.Nodup → ks.length ≤ 12 → ∀ (out : Out) (st' : St), Le ρ st st' →
                (∀ A ι w, (∀ id : Pa, st.nb.num ≤ id.num → id.num < st'.nb.num → A id) → Rep P ρ ι A st.hp st.nb w → ∀ r w', RowKit.Below w.heap.size w w' ∧
                  ((ks = [] ∧ r = .returned (.slice none 0 0)) ∨ ∃ q cap cur, ks ≠ [] ∧ r = .returned (.slice (some ⟨q, 0, none⟩) ks.length cap) ∧ w.heap.size ≤ q ∧ w'.heap[q]? = some (.cells cur e (0, 0)) ∧ ks.length ≤ cap ∧ cur.size = cap ∧
                    cur.toList.take ks.length = (sortN ks).map encN) → ∃ ι', r = outEnd ρ ι' out ∧ Post P ρ ι A st w ι' st' w' ∧ out.on ι' (lim st'.nb A)) → CStep P ρ g [.c (.clo q [(b, 0)])] st out st' := by
              intro ks hks h1 h2 h3 out st' hle hout
              refine ⟨hle, fun A ι w hA hr hin => ?_⟩
              obtain ⟨c1, _⟩ := hr.load1 hB hm
              obtain ⟨ents, clock, hh, hm2⟩ := hr.blk m (.mp es) hes
              have hkeys : ents.map (·.key) = ks.map encN := hm2.keys.trans (keyU_den hks ρ ι)
              exact (hs (ι.blk b) (ι.blk m) clock ents ks w h1 h2 h3 c1 hh hkeys hm2.born hm2.nodup).mono fun r w' hh => hout A ι w hA hr r w' hh
            split at hk
            · rename_i hks
              refine ⟨_, st, hk, hen, go [] hks (fun k hk => by cases hk) .nil (by simp) _ st (.refl _ _) fun A ι w hA hr r w' hh => ?_⟩
              obtain ⟨hb, hh⟩ := hh
              rcases hh with ⟨_, rfl⟩ | ⟨q, cap, cur, hn, _⟩
              · exact ⟨ι, rfl, post_below hr hb, trivial⟩
              · exact (hn rfl).elim
            · rename_i ks hne hks
              obtain ⟨hc, hk⟩ := ok_bif hk
              simp only [Bool.and_eq_true] at hc
              obtain ⟨⟨h3, h2⟩, h1⟩ := hc
              have h3 : ks.length ≤ 12 := by rw [len_eq] at h3; exact nle h3
              have h1 : ∀ k ∈ ks, k < M32 := fun k hk => by
                rw [allL_eq] at h1
                have := List.all_eq_true.1 h1 k hk
                rwa [Nat.blt_eq] at this
              have h2 : ks.Nodup := (sortN_perm ks).nodup_iff.1 ((incN_pairwise h2).imp fun h => Nat.ne_of_lt h)
              have hne : ks ≠ [] := fun e => hne e
              refine ⟨_, _, hk, hen, go ks hks h1 h2 h3 _ _ newBlk_le fun A ι w hA hr r w' hh => ?_⟩
              obtain ⟨hb, hh⟩ := hh
              rcases hh with ⟨h0, _⟩ | ⟨q, cap, cur, _, rfl, hq, hheap, hcap, hsz, hcur⟩
              · exact (hne h0).elim
              have hA' : A st.nb := hA st.nb (Nat.le_refl _) (by show st.nb.num < st.nb.succ.num; rw [Pa.num_succ]; omega)
              have hl : (mp (fun n => C.u32 n) (sortN ks)).length = len ks := by rw [mp_eq, List.length_map, (sortN_perm ks).length_eq, len_eq]
              obtain ⟨b1, b2, b3, b4, b5, b6⟩ := layB_is (e := e) (esz := 1) hl true
              have b6' : ∀ k, k < (layB e 1 (len ks) (mp (fun n => C.u32 n) (sortN ks)) true).size → (layB e 1 (len ks) (mp (fun n => C.u32 n) (sortN ks)) true).at k = (mp (fun n => C.u32 n) (sortN ks)).getD k undefC := fun k hk => b6 k (by rw [← b5]; exact hk)
              have hbare : ∀ c ∈ mp (fun n => C.u32 n) (sortN ks), c.bare := fun c hc => by
                rw [mp_eq] at hc
                obtain ⟨n, hn, rfl⟩ := List.mem_map.1 hc
                exact fun ι A => h1 n ((sortN_perm ks).mem_iff.1 hn)
              have hcells : ∀ ι', (layB e 1 (len ks) (mp (fun n => C.u32 n) (sortN ks)) true).cells ρ ι' = (sortN ks).map encN := fun ι' => by
                rw [list_cells (by rw [b5, hl]) b6', mp_eq, List.map_map]
                rfl
              have hnb : (newBlk (layB e 1 (len ks) (mp (fun n => C.u32 n) (sortN ks)) true) st).nb.num = st.nb.num + 1 := Pa.num_succ _
              have hls : (sortN ks).length = ks.length := (sortN_perm ks).length_eq
              refine ⟨ι.set st.nb q cap default, ?_, ?_, ?_⟩
              · simp [outEnd, V.den, C.den, Loc.set, len_eq]
              · refine post_gen hr (l := []) (fun id => id = st.nb) rfl Loc.set_alike (by omega) (fun id h => by cases h) (fun id k hk => ?_) (fun id id' h h' _ => h.trans h'.symm) hb.os hb.tape hb.output hb.size (fun j hj _ => hb.block j hj) (fun id h1 h2 => ?_)
                · rw [hp_newBlk] at hk
                  split at hk
                  · rename_i e'
                    simp only [Option.some.injEq] at hk
                    subst hk; subst e'
                    refine .inr ⟨rfl, by omega, hA', ?_, list_on b1 (by rw [b5, hl]) b6' (fun c hc => hbare c hc _ _), .inl (by simp [Loc.set]; exact hq)⟩
                    have e1 : (ι.set st.nb q cap default).blk st.nb = q := by simp [Loc.set]
                    rw [e1, hheap]
                    refine .of_cells b1 ⟨b2, cur.toList.drop ks.length, (0, 0), ?_, .inl rfl, (fun h => by rw [b3] at h; cases h), fun _ => ?_⟩
                    · rw [hcells, ← hcur, List.take_append_drop, b4]
                    · rw [b5, b4, he, len_eq, List.length_drop]
                      have : cur.toList.length = cap := by simpa using hsz
                      simp only [Loc.set, if_true]
                      omega
                  · rename_i e'
                    exact .inl ⟨e', by simp, hk⟩
                · have : id = st.nb := Pa.num_inj (by omega)
                  subst this
                  exact .inl (by simp [Loc.set]; exact hq)
              · show lim _ A st.nb ∧ 0 + len ks ≤ (ι.set st.nb q cap default).cap st.nb
                refine ⟨⟨by omega, hA'⟩, ?_⟩
                simp only [Loc.set, if_true, len_eq]
                omega
            · cases hk
          · cases hk
        · cases hk
      · cases hk
    · cases hk
  · cases hk
end
end Go.Fx
end

noncomputable section
namespace Go.Fx
set_option linter.unusedSimpArgs false
set_option linter.unusedVariables false
set_option linter.unusedSectionVars false

theorem rev_eq {α : Type} : ∀ (l m : List α), rev l m = l.reverse ++ m
  | [], m => rfl
  | a :: l, m => by
    show rev l (a :: m) = _
    rw [rev_eq l (a :: m)]
    simp
/-- what a way has met: what was set, on which truths and numbers it hung, what came out -/
structure Met where
  evs : List Ev
  dec : List (Nat × Bool)
  num : List (Nat × Int)
  out : V
/-- nothing was left over -/
def allGood (a : Ans) : Bool :=
  Ans.rec (motive := fun _ => Bool) (fun _ _ => false) (fun _ => false) true (fun _ _ _ => false) (fun _ _ _ _ _ => false) (fun _ _ _ _ _ _ => false) (fun _ _ ia ib => ia && ib) a
theorem allGood_ok {ρ : Env} {R : V → Prop} : ∀ (a : Ans), allGood a = true → Ok ρ R a
  | .stop _ _, h => by cases h
  | .ret _, h => by cases h
  | .good, _ => trivial
  | .ev _ _, h => by cases h
  | .fork _ _ _, h => by cases h
  | .caseI _ _ _ _, h => by cases h
  | .both a b, h => by
    have h : (allGood a && allGood b) = true := h
    rw [Bool.and_eq_true] at h
    exact ⟨allGood_ok a h.1, allGood_ok b h.2⟩
abbrev Fol : Type := List Bool → List Ev → List (Nat × Bool) → List (Nat × Int) → Option Met
def metOf (a : Ans) : Fol :=
  Ans.rec (motive := fun _ => Fol)
    (fun _ _ _ _ _ _ => none)
    (fun v _ es dd ii => some ⟨rev es [], rev dd [], rev ii [], v⟩)
    (fun _ _ _ _ => none)
    (fun e _ ih ds es dd ii => ih ds (e :: es) dd ii)
    (fun x _ _ it jf ds es dd ii => List.rec (motive := fun _ => Option Met) none (fun d ds _ => Bool.rec (motive := fun _ => Option Met) (jf ds es ((x, false) :: dd) ii) (it ds es ((x, true) :: dd) ii) d) ds)
    (fun x n _ _ it _ ds es dd ii => it ds es dd ((x, n) :: ii))
    (fun a _ _ jf ds es dd ii => Bool.rec (motive := fun _ => Option Met) none (jf ds es dd ii) (allGood a)) a
/-- all that a way has met is so -/
structure Met.ok (ρ : Env) (R : V → Prop) (r : Met) : Prop where
  evs : ∀ e ∈ r.evs, e.ok ρ
  dec : ∀ x b, (x, b) ∈ r.dec → ρ.b x = b
  num : ∀ x n, (x, n) ∈ r.num → ρ.i x = n
  out : R r.out
theorem metOf_ok {ρ : Env} {R : V → Prop} : ∀ (a : Ans) {ds : List Bool} {es : List Ev} {dd : List (Nat × Bool)} {ii : List (Nat × Int)} {r : Met}, metOf a ds es dd ii = some r → r.ok ρ R →
    Ok ρ R a ∧ (∀ e ∈ es, e ∈ r.evs) ∧ (∀ p ∈ dd, p ∈ r.dec) ∧ (∀ p ∈ ii, p ∈ r.num)
  | .stop _ _, _, _, _, _, _, h, _ => by cases h
  | .ret v, ds, es, dd, ii, r, h, hr => by
    have h : some (Met.mk (rev es []) (rev dd []) (rev ii []) v) = some r := h
    cases h
    exact ⟨hr.out, (fun e m => by show e ∈ rev es []; rw [rev_eq]; simpa using m), (fun p m => by show p ∈ rev dd []; rw [rev_eq]; simpa using m), (fun p m => by show p ∈ rev ii []; rw [rev_eq]; simpa using m)⟩
  | .good, _, _, _, _, _, h, _ => by cases h
  | .ev e a, ds, es, dd, ii, r, h, hr => by
    obtain ⟨h1, h2, h3⟩ := metOf_ok a (show metOf a ds (e :: es) dd ii = some r from h) hr
    exact ⟨⟨hr.evs e (h2 e (List.mem_cons_self ..)), h1⟩, fun x m => h2 x (List.mem_cons_of_mem _ m), h3⟩
  | .fork x a b, [], es, dd, ii, r, h, hr => by cases h
  | .fork x a b, true :: ds, es, dd, ii, r, h, hr => by
    obtain ⟨h1, h2, h3, h4⟩ := metOf_ok a (show metOf a ds es ((x, true) :: dd) ii = some r from h) hr
    have := hr.dec x true (h3 _ (List.mem_cons_self ..))
    refine ⟨?_, h2, fun p m => h3 p (List.mem_cons_of_mem _ m), h4⟩
    show if ρ.b x = true then Ok ρ R a else Ok ρ R b
    rw [if_pos this]; exact h1
  | .fork x a b, false :: ds, es, dd, ii, r, h, hr => by
    obtain ⟨h1, h2, h3, h4⟩ := metOf_ok b (show metOf b ds es ((x, false) :: dd) ii = some r from h) hr
    have := hr.dec x false (h3 _ (List.mem_cons_self ..))
    refine ⟨?_, h2, fun p m => h3 p (List.mem_cons_of_mem _ m), h4⟩
    show if ρ.b x = true then Ok ρ R a else Ok ρ R b
    rw [if_neg (by rw [this]; decide)]; exact h1
  | .caseI x n a b, ds, es, dd, ii, r, h, hr => by
    obtain ⟨h1, h2, h3, h4⟩ := metOf_ok a (show metOf a ds es dd ((x, n) :: ii) = some r from h) hr
    have := hr.num x n (h4 _ (List.mem_cons_self ..))
    refine ⟨?_, h2, h3, fun p m => h4 p (List.mem_cons_of_mem _ m)⟩
    show if ρ.i x = n then Ok ρ R a else Ok ρ R b
    rw [if_pos this]; exact h1
  | .both a b, ds, es, dd, ii, r, h, hr => by
    have h : Bool.rec (motive := fun _ => Option Met) none (metOf b ds es dd ii) (allGood a) = some r := h
    cases hg : allGood a with
    | false => rw [hg] at h; cases h
    | true =>
      rw [hg] at h
      obtain ⟨h1, h2⟩ := metOf_ok b (show metOf b ds es dd ii = some r from h) hr
      exact ⟨⟨allGood_ok a hg, h1⟩, h2⟩
theorem met_ok {ρ : Env} {a : Ans} {ds : List Bool} {r : Met} (h : metOf a ds [] [] [] = some r) (hr : r.ok ρ isT) : Ok ρ isT a := (metOf_ok a h hr).1
/-- a run in which all is known -/
def sure (a : Ans) : Bool :=
  match metOf a [] [] [] [] with
  | some ⟨[], [], [], .c (.bool b)⟩ => b
  | _ => false
theorem sure_ok {ρ : Env} {a : Ans} (h : sure a = true) : Ok ρ isT a := by
  unfold sure at h
  split at h
  · rename_i b hb
    subst h
    exact met_ok hb ⟨fun e m => (by cases m), fun x b m => (by cases m), fun x n m => (by cases m), rfl⟩
  · cases h
/-- a law's run -/
theorem law_run {P : Program} {ρ : Env} {X : XC} (hX : XOk P X) (hI : IntrAll P ρ isT X.intr) (hmix : P.follows .mixedOrders = true) {d g : Nat} {args : List V} {nx : Nat} (hk : Ok ρ isT (run X d g args nx)) (hargs : ∀ x ∈ args, x.bare) (w : World) :
    Calls P g (args.map (V.den ρ noloc)).toArray w fun e w' => e = .returned (.bool true) ∧ RowKit.Below w.heap.size w w' :=
  (run_below hX (intrOk_mk hI) hmix hk hargs w).mono fun e w' hh => ⟨by obtain ⟨v, ι, h1, he⟩ := hh.1; rw [he, h1]; rfl, hh.2⟩
end Go.Fx
end

