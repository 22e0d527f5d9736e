/-
  A fast symbolic executor for the model's code, proved right: part D.
-/
import Derived.Test.YtgeankpiediebaaGreatHxC
noncomputable section
namespace Go.Fx
set_option linter.unusedSimpArgs false
set_option linter.unusedVariables false
set_option linter.unusedSectionVars false

section
variable {P : Program} {ρ : Env} {R : V → Prop}

theorem choose_run (n : Nat) (w : World) : ∃ j dr, (choose (.mapNext n)).run P w = .ok j { w with drawn := dr } ∧ (0 < n → j < n) ∧ (n ≤ 1 → j = 0 ∧ dr = w.drawn) := by
  by_cases h : n ≤ 1
  · exact ⟨0, w.drawn, by simp [choose, Sem.run, Question.forced, h], fun h => h, fun _ => ⟨rfl, rfl⟩⟩
  · refine ⟨w.tape w.drawn (.mapNext n) % n, w.drawn + 1, by simp [choose, Sem.run, Question.forced, h, Question.cut], fun h => Nat.mod_lt _ h, fun h' => absurd h' h⟩

def seenL (seen : Array Nat) (ents : List MapEntry) : List MapEntry := ents.filter fun e => !seen.contains e.born
/-- one step of a range over a map -/
theorem next_run {w : World} {r g : Nat} {since last clock : Nat} {seen : Array Nat} {ents : List MapEntry} (h1 : w.heap[r]? = some (.mapIter (some g) since seen last)) (h2 : w.heap[g]? = some (.map ents.toArray clock)) (hs : ∀ e ∈ ents, e.born < since)
    (hc : ∀ e ∈ ents, e.born < clock) (hl : seen = #[] ∨ last = clock) (ty : TypeId) :
    (seenL seen ents = [] ∧ (Instr.next (.pointer (some ⟨r, 0, none⟩)) false ty).run P w = .ok (.tuple #[.bool false]) w) ∨
    ∃ e dr, e ∈ ents ∧ seen.contains e.born = false ∧ (Instr.next (.pointer (some ⟨r, 0, none⟩)) false ty).run P w = .ok (.tuple #[.bool true, e.key, e.val]) { w with drawn := dr, heap := w.heap.setIfInBounds r (.mapIter (some g) since (seen.push e.born) clock) } := by
  have hguard : (!seen.isEmpty && !ents.toArray.isEmpty && ents.toArray.all fun e => decide (e.born ≥ last)) = false := by
    rcases hl with rfl | rfl
    · simp
    · cases ents with
      | nil => simp
      | cons x xs =>
        have := hc x (by simp)
        have hn : ¬ last ≤ x.born := by omega
        simp [hn]
  have hleft : (ents.toArray.filter fun e => !seen.contains e.born) = (seenL seen ents).toArray := by simp [seenL]
  have hold : ((seenL seen ents).toArray.filter fun e => decide (e.born < since)) = (seenL seen ents).toArray := by
    rw [List.filter_toArray]
    congr 1
    rw [List.filter_eq_self]
    intro e he
    simp [hs e (List.mem_filter.1 he).1]
  have hnew : ((seenL seen ents).toArray.filter fun e => decide (e.born ≥ since)) = #[] := by
    rw [List.filter_toArray]
    congr 1
    rw [List.filter_eq_nil_iff]
    intro e he
    have := hs e (List.mem_filter.1 he).1
    simp; omega
  cases hL : seenL seen ents with
  | nil =>
    refine .inl ⟨rfl, ?_⟩
    rw [hL] at hleft hold hnew
    unfold Instr.next
    simp only [Sem.run_bind, getObj_it h1, getObj_map h2, Result.andThen_ok, hguard, Bool.false_eq_true, if_false, hleft, hold, hnew]
    obtain ⟨j, dr, e1, _, e2⟩ := choose_run (P := P) 1 w
    obtain ⟨rfl, rfl⟩ := e2 (by omega)
    have e1 : (choose (.mapNext 1)).run P w = .ok 0 w := e1
    simp only [List.isEmpty_toArray, List.isEmpty_nil, if_true, Array.append_empty, List.map_toArray, List.map_nil, List.size_toArray, List.length_cons, List.length_nil, Nat.zero_add, e1, Result.andThen_ok]
    rfl
  | cons x xs =>
    refine .inr ?_
    rw [hL] at hleft hold hnew
    have hsz : ((if (x :: xs).toArray.isEmpty = true then #[none] else #[]) ++ Array.map some ((x :: xs).toArray ++ #[]) : Array (Option MapEntry)) = ((x :: xs).map some).toArray := by simp
    obtain ⟨j, dr, e1, e2, _⟩ := choose_run (P := P) ((x :: xs).map some).toArray.size w
    have hj : j < (x :: xs).length := by
      have := e2 (by simp)
      simpa using this
    have hget : (((x :: xs).map some).toArray)[j]? = some (some ((x :: xs)[j])) := by
      rw [List.getElem?_toArray, List.getElem?_map, List.getElem?_eq_getElem hj]; rfl
    have hmem : (x :: xs)[j] ∈ seenL seen ents := by rw [hL]; exact List.getElem_mem _
    have hm2 := List.mem_filter.1 hmem
    refine ⟨(x :: xs)[j], dr, hm2.1, by simpa using hm2.2, ?_⟩
    unfold Instr.next
    simp only [Sem.run_bind, getObj_it h1, getObj_map h2, Result.andThen_ok, hguard, Bool.false_eq_true, if_false, hleft, hold, hnew, hsz, e1, hget]
    have hset := setObj_it (P := P) (w := { w with drawn := dr }) (r := r) h1 (.mapIter (some g) since (seen.push ((x :: xs)[j]).born) clock)
    simp only [Sem.run_bind, hset, Result.andThen_ok]
    rfl

/-! ### What is the same -/
theorem isNilSl_eq {v : Value} (h : isNilSl v = true) : v = .slice none 0 0 := by
  unfold isNilSl at h
  split at h
  · rfl
  · cases h
theorem cSame_eq {x y : C} (h : cSame x y = true) : x = y := by
  unfold cSame at h
  split at h
  · rw [Nat.eq_of_beq_eq_true h]
  · rw [Nat.eq_of_beq_eq_true h]
  · rename_i a b; cases a <;> cases b <;> first | rfl | cases h
  · rw [Bool.and_eq_true] at h
    rw [Pa.beq_true h.1, Nat.eq_of_beq_eq_true h.2]
  · rw [Bool.and_eq_true] at h
    rw [isNilSl_eq h.1, isNilSl_eq h.2]
  · cases h
theorem vSame_eq {a b : Option V} (h : vSame a b = true) : a = b := by
  unfold vSame at h
  split at h
  · rw [cSame_eq h]
  · cases h
theorem sameL_eq : ∀ {l m : List V}, sameL l m = true → l = m
  | [], [], _ => rfl
  | [], _ :: _, h => by cases h
  | _ :: _, [], h => by cases h
  | x :: l, y :: m, h => by
    have h : (vSame (some x) (some y) && sameL l m) = true := h
    rw [Bool.and_eq_true] at h
    have := vSame_eq h.1
    cases this
    rw [sameL_eq h.2]
theorem sameD_eq : ∀ {l m : Df}, sameD l m = true → l = m
  | [], [], _ => rfl
  | [], _ :: _, h => by cases h
  | _ :: _, [], h => by cases h
  | (x, xs) :: l, (y, ys) :: m, h => by
    have h : (Nat.beq x y && sameL xs ys && sameD l m) = true := h
    rw [Bool.and_eq_true, Bool.and_eq_true] at h
    rw [Nat.eq_of_beq_eq_true h.1.1, sameL_eq h.1.2, sameD_eq h.2]
theorem sameS_spec {N : Nat} {l : List Nat} {tm tm' : Tr V} (h : sameS N l tm tm' = true) : ∀ t ∈ l, Nat.testBit N t = true → Tr.get (pa t) tm = Tr.get (pa t) tm' := by
  intro t ht hN
  unfold sameS at h
  rw [allL_eq, List.all_eq_true] at h
  have := h t ht
  rw [hN] at this
  exact vSame_eq (by simpa using this)
theorem dropS_cons (N t : Nat) (l : List Nat) (tm : Tr V) : dropS N (t :: l) tm = bif Nat.testBit N t then Tr.upd none (pa t) (dropS N l tm) else dropS N l tm := rfl
theorem dropS_same (N : Nat) : ∀ (l : List Nat) (tm : Tr V), Same l tm (dropS N l tm)
  | [], tm => .refl _ _
  | t :: l, tm => by
    intro p hp
    have ih := dropS_same N l tm p fun s hs => hp s (List.mem_cons_of_mem _ hs)
    rw [dropS_cons, bif_eq]
    split
    · rw [Tr.get_upd, if_neg (hp t (List.mem_cons_self ..))]; exact ih
    · exact ih
theorem dropS_get (N : Nat) : ∀ (l : List Nat) (tm : Tr V) (t : Nat) (v : V), Nat.testBit N t = true → Tr.get (pa t) (dropS N l tm) = some v → Tr.get (pa t) tm = some v ∧ t ∉ l
  | [], tm, t, v, _, h => ⟨h, by simp⟩
  | s :: l, tm, t, v, hN, h => by
    rw [dropS_cons, bif_eq] at h
    split at h
    · rw [Tr.get_upd] at h
      split at h
      · cases h
      · rename_i hne
        obtain ⟨h1, h2⟩ := dropS_get N l tm t v hN h
        refine ⟨h1, fun hm => ?_⟩
        rcases List.mem_cons.1 hm with rfl | hm
        · exact hne rfl
        · exact h2 hm
    · rename_i hs
      obtain ⟨h1, h2⟩ := dropS_get N l tm t v hN h
      refine ⟨h1, fun hm => ?_⟩
      rcases List.mem_cons.1 hm with rfl | hm
      · exact hs hN
      · exact h2 hm
theorem inOf_mem (m : Nat) : ∀ (l : List Nat) (t : Nat), t ∈ inOf m l ↔ t ∈ l ∧ Nat.testBit m t = true
  | [], t => by simp [inOf]
  | s :: l, t => by
    show t ∈ (bif Nat.testBit m s then s :: inOf m l else inOf m l) ↔ _
    rw [bif_eq]
    split
    · rename_i h
      rw [List.mem_cons, List.mem_cons, inOf_mem m l t]
      constructor
      · rintro (rfl | h1)
        · exact ⟨.inl rfl, h⟩
        · exact ⟨.inr h1.1, h1.2⟩
      · rintro ⟨rfl | h1, h2⟩
        · exact .inl rfl
        · exact .inr ⟨h1, h2⟩
    · rename_i h
      rw [inOf_mem m l t, List.mem_cons]
      constructor
      · rintro ⟨h1, h2⟩; exact ⟨.inr h1, h2⟩
      · rintro ⟨rfl | h1, h2⟩
        · exact absurd h2 h
        · exact ⟨h1, h2⟩
theorem outOf_mem (m : Nat) : ∀ (l : List Nat) (t : Nat), t ∈ outOf m l ↔ t ∈ l ∧ Nat.testBit m t = false
  | [], t => by simp [outOf]
  | s :: l, t => by
    show t ∈ (bif Nat.testBit m s then outOf m l else s :: outOf m l) ↔ _
    rw [bif_eq]
    split
    · rename_i h
      rw [outOf_mem m l t, List.mem_cons]
      constructor
      · rintro ⟨h1, h2⟩; exact ⟨.inr h1, h2⟩
      · rintro ⟨rfl | h1, h2⟩
        · rw [h] at h2; cases h2
        · exact ⟨h1, h2⟩
    · rename_i h
      rw [List.mem_cons, List.mem_cons, outOf_mem m l t]
      constructor
      · rintro (rfl | h1)
        · exact ⟨.inl rfl, by simpa using h⟩
        · exact ⟨.inr h1.1, h1.2⟩
      · rintro ⟨rfl | h1, h2⟩
        · exact .inl rfl
        · exact .inr ⟨h1, h2⟩
theorem itOf_some {v : V} {st : St} {b m : Pa} {es : List (W × W)} (h : itOf v st = some (b, m, es)) : v = .c (.ptr b 0) ∧ st.hp b = some (.it m none) ∧ st.hp m = some (.ml b es) := by
  unfold itOf at h
  split at h
  · rename_i b'
    split at h
    · rename_i m' hb
      split at h
      · rename_i b'' es' hm
        split at h
        · rw [bif_eq] at h
          split at h
          · rename_i e
            have := Pa.beq_true e
            subst this
            cases h
            exact ⟨rfl, hb, hm⟩
          · cases h
        · cases h
      · cases h
    · cases h
  · cases h
theorem probes_cons (b m : Pa) (f : V → St → KC → Ans) (q : KC) (st : St) (e : W × W) (es : List (W × W)) (i : Nat) (a : Ans) : probes b m f q st (e :: es) i a = .both (f (.t [.c (.bool true), e.1, e.2]) { st with heap := Tr.set b (.it m (some i)) st.heap, wr := [] } q) (probes b m f q st es (i + 1) a) := rfl
theorem probes_ok {b m : Pa} {f : V → St → KC → Ans} {q : KC} {st : St} {a : Ans} : ∀ {es : List (W × W)} {i : Nat}, Ok ρ R (probes b m f q st es i a) → Ok ρ R a ∧ ∀ j e, es[j]? = some e → Ok ρ R (f (.t [.c (.bool true), e.1, e.2]) { st with heap := Tr.set b (.it m (some (i + j))) st.heap, wr := [] } q)
  | [], i, h => ⟨h, fun j e he => by simp at he⟩
  | e :: es, i, h => by
    rw [probes_cons] at h
    obtain ⟨h1, h2⟩ := h
    obtain ⟨h3, h4⟩ := probes_ok h2
    refine ⟨h3, fun j x hx => ?_⟩
    cases j with
    | zero =>
      simp only [List.getElem?_cons_zero, Option.some.injEq] at hx
      subst hx
      exact h1
    | succ j =>
      simp only [List.getElem?_cons_succ] at hx
      have := h4 j x hx
      rw [show i + (j + 1) = i + 1 + j by omega]
      exact this
end
end Go.Fx
end

noncomputable section
namespace Go.Fx
set_option linter.unusedSimpArgs false
set_option linter.unusedVariables false
set_option linter.unusedSectionVars false

section
variable {P : Program} {ρ : Env} {R : V → Prop}

theorem filter_ltA {α : Type} {l : List α} {p q : α → Bool} (h : ∀ x, q x = true → p x = true) {y : α} (hy : y ∈ l) (hp : p y = true) (hq : q y = false) : (l.filter q).length < (l.filter p).length := by
  induction l with
  | nil => cases hy
  | cons x l ih =>
    have hle : ∀ l : List α, (l.filter q).length ≤ (l.filter p).length := by
      intro l
      induction l with
      | nil => simp
      | cons z l ih =>
        simp only [List.filter_cons]
        cases hz : q z with
        | true => rw [h z hz]; simpa using ih
        | false =>
          cases p z <;> simp <;> omega
    simp only [List.filter_cons]
    rcases List.mem_cons.1 hy with rfl | hy
    · rw [hp, hq]
      have := hle l
      simp
      omega
    · have := ih hy
      cases hx : q x with
      | true => rw [h x hx]; simpa using this
      | false => cases p x <;> simp <;> omega
theorem RepD.back {ι ι' : Loc} {nb : Pa} {A B' : Pa → Prop} (hal : Loc.alike (fun i => i.num < nb.num) ι ι') : ∀ {df : Df} {Ds Ds' : List Deferred}, RepD P ρ ι (lim nb A) df Ds → RepD P ρ ι' B' df Ds' → RepD P ρ ι (lim nb A) df Ds'
  | [], [], [], _, _ => trivial
  | [], [], _ :: _, _, h => h.elim
  | [], _ :: _, _, h, _ => h.elim
  | _ :: _, [], _, h, _ => h.elim
  | _ :: _, _ :: _, [], _, h => h.elim
  | d :: df, D :: Ds, D' :: Ds', h, h' => by
    have hall : Loc.alike (lim nb A) ι ι' := fun i hi => hal i hi.1
    refine ⟨⟨h'.1.1, fun w => ?_, h.1.2.2⟩, RepD.back hal h.2 h'.2⟩
    rw [h'.1.2.1 w, List.map_congr_left fun x hx => V.den_alike hall ρ (h.1.2.2 x hx)]
theorem isNext_some {o : Oper} {t d : Nat} (h : isNext o = some (t, d)) : o.op = .next (.tmp t) false ∧ o.dst = some d ∧ o.guard = none := by
  unfold isNext at h
  split at h
  · rename_i h1 h2 h3
    cases h
    exact ⟨h1, h2, h3⟩
  · cases h
theorem dstsC_region (id : Nat) (ops : Array Oper) (draw : Bool) : dstsC (.region id ops draw) = dstL ops.toList := by
  show (List.rec (motive := fun _ => List Nat) [] (fun o _ ih => match o.dst with | some t => t :: ih | none => ih) ops.toList) = dstL ops.toList
  induction ops.toList with
  | nil => rfl
  | cons o l ih =>
    show (match o.dst with | some t => t :: _ | none => _) = _
    rw [ih]
    have e : dstL (o :: l) = (match o.dst with | some t => [t] | none => []) ++ dstL l := rfl
    rw [e]
    cases o.dst <;> rfl
theorem dstsC_seq (a b : Code) : dstsC (.seq a b) = dstsC a ++ dstsC b := by
  show ap (dstsC a) (dstsC b) = _
  rw [ap_eq]

theorem mapLoop_ok {X : XC} (hX : XOk P X) {call : CallF} (hc : CallOk P ρ R call) {N ns : Nat} {id : Nat} {ops : Array Oper} {rest : Code} {o : Oper} {os : List Oper} (hops : ops.toList = o :: os) {t d : Nat} (hn : isNext o = some (t, d)) (hd : dsOk ns ops.toList)
    (hdN : Nat.testBit N d = false) (htN : Nat.testBit N t = true) {ts : List Nat} (hin : ∀ s ∈ ts, Nat.testBit N s = true) {tl : RunC}
    (htl : ∀ {tm : Tr V} {df : Df} {st : St} {k : KC}, Facts ρ st → Ok ρ R (tl call tm df st k) → ∃ e y, Ok ρ R (k e y.tm y.df y.st) ∧ Goes P ρ N ns (dstsC rest) ⟨tm, df, st⟩ y e noPre fun Q => rest.wp P Q)
    {ex : Nat} {tm : Tr V} {df : Df} {st : St} {k : KC} (hf : Facts ρ st) {b m : Pa} {es : List (W × W)} (hit : itOf (slotV (pa t) (dropS N (outOf ex (dstsC (.seq (.region id ops false) rest))) tm)) st = some (b, m, es))
    (hk : Ok ρ R (probes b m (fun v st k => LdT.run (ldT ts) (Lo.push v Lo.nil) (dropS N (outOf ex (dstsC (.seq (.region id ops false) rest))) tm) fun loc => RegT.run (opsT X N ops.toList os (envL ts [(d, .lv 0)] 1) (Nat.add (lenA ts) 1)) call loc (dropS N (outOf ex (dstsC (.seq (.region id ops false) rest))) tm) df st (tlE tl call k))
      (quietE N (inOf ex (dstsC (.seq (.region id ops false) rest))) tm df st.nb) st es 0
      (LdT.run (ldT ts) (Lo.push (.t [.c (.bool false)]) Lo.nil) (dropS N (outOf ex (dstsC (.seq (.region id ops false) rest))) tm) fun loc => RegT.run (opsT X N ops.toList os (envL ts [(d, .lv 0)] 1) (Nat.add (lenA ts) 1)) call loc (dropS N (outOf ex (dstsC (.seq (.region id ops false) rest))) tm) df (freeM b m es st) (tlE tl call (brkE k))))) :
    ∃ e y, Ok ρ R (k e y.tm y.df y.st) ∧ Goes P ρ N ns (dstsC (.seq (.region id ops false) rest)) ⟨tm, df, st⟩ y e noPre fun Q => (Code.loop (.seq (.region id ops false) rest)).wp P Q := by
  obtain ⟨hop, hdst, hg⟩ := isNext_some hn
  have hall : dstsC (.seq (.region id ops false) rest) = dstL ops.toList ++ dstsC rest := by rw [dstsC_seq, dstsC_region]
  have hsub : ∀ s ∈ dstL os ++ dstsC rest, s ∈ dstsC (.seq (.region id ops false) rest) := by
    intro s hs
    rw [hall, hops]
    rcases List.mem_append.1 hs with h | h
    · exact List.mem_append_left _ (List.mem_append_right _ h)
    · exact List.mem_append_right _ h
  generalize hds : outOf ex (dstsC (.seq (.region id ops false) rest)) = ds at hit hk
  generalize hks : inOf ex (dstsC (.seq (.region id ops false) rest)) = ks at hk
  generalize htmd : dropS N ds tm = tmd at hit hk
  obtain ⟨hsv, hB, hM⟩ := itOf_some hit
  have hdns : d < ns := hd o (by rw [hops]; simp) d hdst
  have hdos : dsOk ns os := by rw [hops] at hd; exact hd.tail
  obtain ⟨hkf, hkp⟩ := probes_ok hk
  -- a round's end
  have tail_ok : ∀ {v0 : V} {st1 : St} {k1 : KC}, Facts ρ st1 → Ok ρ R (LdT.run (ldT ts) (Lo.push v0 Lo.nil) tmd fun loc => RegT.run (opsT X N ops.toList os (envL ts [(d, .lv 0)] 1) (Nat.add (lenA ts) 1)) call loc tmd df st1 (tlE tl call k1)) →
      ∃ e y, Ok ρ R (k1 e y.tm y.df y.st) ∧ Goes P ρ N ns (dstL os ++ dstsC rest) ⟨tmd, df, st1⟩ y e (fun ι B a => a.tmps.getD d undef = v0.den ρ ι ∧ v0.on ι B) fun Q a w => wpList P ops (Exit.then (rest.wp P Q) Q) os a w := by
    intro v0 st1 k1 hf1 hk1
    obtain ⟨loc, hk1, henv, hv⟩ := ldT_ok (ρ := ρ) (R := R) ts hin (envOk_nil.push d v0) hk1
    have e1 : Nat.add (lenA ts) 1 = 0 + 1 + ts.length := by rw [lenA_eq]; show ts.length + 1 = _; omega
    rw [e1] at hk1
    obtain ⟨e, y, h1, h2⟩ := opsT_ok hX hc os hdos henv hf1 hk1
    have hview : ∀ A ι a, At P ρ N ns A ⟨tmd, df, st1⟩ ι a → a.tmps.getD d undef = v0.den ρ ι ∧ v0.on ι (lim st1.nb A) → inEnv ρ (envL ts [(d, .lv 0)] (0 + 1)) (0 + 1 + ts.length) loc ι (lim st1.nb A) a := by
      intro A ι a hat hp s v hs
      rcases hv s v hs with h | h
      · rw [view_push envOk_nil] at h
        split at h
        · rename_i e; cases h; rw [← e]; exact hp
        · cases h
      · exact hat.slots s v h
    cases e with
    | nrm =>
      have h1 : Ok ρ R (tl call y.tm y.df y.st k1) := h1
      obtain ⟨e2, y2, h3, h4⟩ := htl (h2.1.facts hf1) h1
      refine ⟨e2, y2, h3, h2.1.trans h4.1, (h2.2.1.mono fun s h => List.mem_append_left _ h).trans (h4.2.1.mono fun s h => List.mem_append_right _ h), fun A ι w a hA hr hat hp Q hQ => ?_⟩
      refine h2.2.2 A ι w a (fun id p q => hA id p (Nat.lt_of_lt_of_le q h4.1.nb)) hr hat (hview A ι a hat hp) _ fun ι1 w1 a1 hp1 hat1 _ => ?_
      refine h4.2.2 A ι1 w1 a1 (fun id p q => hA id (Nat.le_trans h2.1.nb p) q) hp1.rep hat1 trivial Q fun ι2 w2 a2 hp2 hat2 he2 => ?_
      exact hQ ι2 w2 a2 (hp1.trans h2.1 h4.1 hr hp2) hat2 he2
    | ret => exact ⟨.ret, y, h1, h2.1, h2.2.1.mono fun s h => List.mem_append_left _ h, fun A ι w a hA hr hat hp Q hQ => h2.2.2 A ι w a hA hr hat (hview A ι a hat hp) _ fun ι1 w1 a1 hp1 hat1 he => hQ ι1 w1 a1 hp1 hat1 he⟩
    | exit i => exact ⟨.exit i, y, h1, h2.1, h2.2.1.mono fun s h => List.mem_append_left _ h, fun A ι w a hA hr hat hp Q hQ => h2.2.2 A ι w a hA hr hat (hview A ι a hat hp) _ fun ι1 w1 a1 hp1 hat1 he => hQ ι1 w1 a1 hp1 hat1 he⟩
    | pan c => exact ⟨.pan c, y, h1, h2.1, h2.2.1.mono fun s h => List.mem_append_left _ h, fun A ι w a hA hr hat hp Q hQ => h2.2.2 A ι w a hA hr hat (hview A ι a hat hp) _ fun ι1 w1 a1 hp1 hat1 he => hQ ι1 w1 a1 hp1 hat1 he⟩
  have hle1 : Le ρ st (freeM b m es st) := freeM_le hB hM
  obtain ⟨e, y, h1, g⟩ := tail_ok (hle1.facts hf) hkf
  have hbrk : e ≠ .nrm ∧ Ok ρ R (k e y.tm y.df y.st) := by
    cases e with
    | nrm => cases h1
    | ret => exact ⟨by simp, h1⟩
    | exit i => exact ⟨by simp, h1⟩
    | pan c => exact ⟨by simp, h1⟩
  have hsame : Same (dstsC (.seq (.region id ops false) rest)) tm y.tm := by
    refine Same.trans (b := tmd) ?_ (g.2.1.mono hsub)
    rw [← htmd]
    refine (dropS_same N ds tm).mono fun s hs => ?_
    rw [← hds] at hs
    exact ((outOf_mem _ _ _).1 hs).1
  refine ⟨e, y, hbrk.2, hle1.trans g.1, hsame, fun A ι0 w0 a0 hA hr hat _ Q hQ => ?_⟩
  -- the blocks at hand
  obtain ⟨ents, clock, since0, seen0, last0, hi1, hi2, hi3, hi4, hi5, hi6, _⟩ := it_at hr hB hM
  have hseen0 := hi6 rfl
  have hbm : b ≠ m := fun e => by rw [e, hM] at hB; cases hB
  have hblt := hr.lt b _ hB
  have hmlt := hr.lt m _ hM
  have hinjb : ∀ id k, st.hp id = some k → id ≠ b → ι0.blk id ≠ ι0.blk b := fun id k hk hne he => hne (hr.inj id b k _ hk hB he)
  have htd : Tr.get (pa t) tmd = some (.c (.ptr b 0)) := by
    unfold slotV at hsv
    cases h : Tr.get (pa t) tmd with
    | none => rw [h] at hsv; cases hsv
    | some v => rw [h] at hsv; exact congrArg some hsv
  have hslotd : ∀ s v, viewN N tmd s = some v → Nat.testBit N s = true ∧ Tr.get (pa s) tmd = some v ∧ Tr.get (pa s) tm = some v ∧ s ∉ ds := by
    intro s v hs
    unfold viewN at hs
    split at hs
    · rename_i hN
      rw [← htmd] at hs
      obtain ⟨h3, h4⟩ := dropS_get N ds tm s v hN hs
      rw [htmd] at hs
      exact ⟨hN, hs, h3, h4⟩
    · cases hs
  let I : Act → World → Prop := fun a w => ∃ since seen last, w.heap[ι0.blk b]? = some (.mapIter (some (ι0.blk m)) since seen last) ∧ (seen = #[] ∨ last = clock) ∧ (∀ e ∈ ents, e.born < since) ∧ At P ρ N ns A ⟨tmd, df, st⟩ ι0 a ∧
    w.os = w0.os ∧ w.tape = w0.tape ∧ w.output = w0.output ∧ w0.heap.size ≤ w.heap.size ∧ (∀ g, g < w0.heap.size → (∀ id k, st.hp id = some k → ι0.blk id ≠ g) → w.heap[g]? = w0.heap[g]?) ∧ (∀ id k, st.hp id = some k → id ≠ b → w.heap[ι0.blk id]? = w0.heap[ι0.blk id]?)
  let μ : Act → World → Nat := fun _ w => match w.heap[ι0.blk b]? with | some (.mapIter _ _ seen _) => (seenL seen ents).length | _ => 0
  refine wp_loop I μ ?_ fun a w hI => ?_
  · refine ⟨since0, seen0, last0, hi1, .inl hseen0, hi5, ⟨fun s v hs => ?_, hat.size, hat.df⟩, rfl, rfl, rfl, Nat.le_refl _, fun _ _ _ => rfl, fun _ _ _ _ => rfl⟩
    obtain ⟨hN, _, h3, _⟩ := hslotd s v hs
    refine hat.slots s v ?_
    unfold viewN
    rw [if_pos hN]; exact h3
  · obtain ⟨since, seen, last, j1, j2, j3, j4, j5, j6, j7, j8, j9, j10⟩ := hI
    have hmw : w.heap[ι0.blk m]? = some (.map ents.toArray clock) := by rw [j10 m _ hM (Ne.symm hbm)]; exact hi2
    refine wp_seq (wp_region_list ?_)
    rw [hops]
    obtain ⟨dst, op, type, pos, after, guard⟩ := o
    have hop : op = .next (.tmp t) false := hop
    have hdst : dst = some d := hdst
    have hg : guard = none := hg
    subst hop; subst hdst; subst hg
    have hev : a.eval (.tmp t) = .pointer (some ⟨ι0.blk b, 0, none⟩) := by
      have := (j4.slots t (.c (.ptr b 0)) (by unfold viewN; rw [if_pos htN]; exact htd)).1
      exact this
    unfold wpList
    rw [wanted_none rfl]
    simp only [if_true]
    refine .inl ?_
    have hput : ∀ (v : Value) (A' : Pa → Prop) (st1 : St), st1.nb = st.nb → (∀ id, A id → A' id) → At P ρ N ns A' ⟨tmd, df, st1⟩ ι0 (a.put (some d) v) := by
      intro v A' st1 hnb hAA
      have hl : ∀ i, lim st.nb A i → lim st1.nb A' i := fun i h => ⟨by rw [hnb]; exact h.1, hAA i h.2⟩
      refine ⟨fun s x hs => ?_, by rw [put_size]; exact j4.size, ?_⟩
      · have hs : viewN N tmd s = some x := hs
        have hsd : d ≠ s := fun e => by
          obtain ⟨hN, _⟩ := hslotd s x hs
          rw [← e, hdN] at hN; cases hN
        rw [put_getD, if_neg (fun h => hsd (by simpa using h.1))]
        exact ⟨(j4.slots s x hs).1, V.on_mono hl (j4.slots s x hs).2⟩
      · rw [put_defers]
        have : ∀ {df : Df} {Ds : List Deferred}, RepD P ρ ι0 (lim st.nb A) df Ds → RepD P ρ ι0 (lim st1.nb A') df Ds := by
          intro df
          induction df with
          | nil => intro Ds h; cases Ds with | nil => trivial | cons _ _ => exact h.elim
          | cons d df ih => intro Ds h; cases Ds with | nil => exact h.elim | cons D Ds => exact ⟨⟨h.1.1, h.1.2.1, fun x hx => V.on_mono hl (h.1.2.2 x hx)⟩, ih h.2⟩
        exact this j4.df
    have hdsz : d < a.tmps.size := Nat.lt_of_lt_of_le hdns j4.size
    have hgetd : ∀ v : Value, (a.put (some d) v).tmps.getD d undef = v := fun v => by rw [put_getD, if_pos ⟨rfl, hdsz⟩]
    rcases next_run (P := P) j1 hmw j3 hi4.born j2 type with ⟨hL, hrun⟩ | ⟨x, dr, hx, hxs, hrun⟩
    · refine wp_of_run (v := .tuple #[.bool false]) (w' := w) ?_ ?_
      · simp only [execOp, hev, Sem.run_bind, hrun, Result.andThen_ok]
        rfl
      · have hp1 : Post P ρ ι0 A st w0 ι0 (freeM b m es st) w := by
          refine ⟨.refl _ _, ⟨fun id k hk => ?_, fun id k hk => ?_, fun id k hk => ?_, fun id id' k k' hk hk' he => ?_⟩, j5, j6, j7, j8, j9, fun l hl id k hk hn => ?_, fun id h3 h4 => absurd h3 (Nat.not_le_of_lt h4)⟩
          · rw [hp_freeM] at hk
            split at hk
            · rename_i e; rw [e]; exact hmlt
            · split at hk
              · cases hk
              · exact hr.lt id k hk
          · rw [hp_freeM] at hk
            split at hk
            · rename_i e
              cases hk
              subst e
              show MpAt ρ ι0 es w.heap[ι0.blk id]?
              rw [hmw]
              exact ⟨ents, clock, rfl, hi4⟩
            · split at hk
              · cases hk
              · rename_i h3 h4
                rw [j10 id k hk h4]
                exact hr.blk id k hk
          · rw [hp_freeM] at hk
            split at hk
            · cases hk
              exact (hr.on m _ hM).2
            · split at hk
              · cases hk
              · exact hr.on id k hk
          · have some_of : ∀ {i : Pa} {q : Blk}, (freeM b m es st).hp i = some q → ∃ q', st.hp i = some q' := by
              intro i q hq
              rw [hp_freeM] at hq
              split at hq
              · rename_i e; rw [e]; exact ⟨_, hM⟩
              · split at hq
                · cases hq
                · exact ⟨q, hq⟩
            obtain ⟨q, hq⟩ := some_of hk
            obtain ⟨q', hq'⟩ := some_of hk'
            exact hr.inj id id' q q' hq hq' he
          · have : l = [m, b] := List.append_cancel_right (show l ++ st.wr = [m, b] ++ st.wr from hl.symm)
            subst this
            exact j10 id k hk fun e => hn (by simp [e])
        refine g.2.2 A ι0 w (a.put (some d) (.tuple #[.bool false])) (fun id p q => hA id p q) hp1.rep (hput _ A _ rfl fun _ h => h) ⟨hgetd _, fun x hx => ?_⟩ _ fun ι' w' a' hp2 hat2 he2 => ?_
        · simp only [List.mem_singleton] at hx
          subst hx
          exact fun c hc => by simp only [W.cells, List.mem_singleton] at hc; subst hc; trivial
        · have := hQ ι' w' a' (hp1.trans hle1 g.1 hr hp2) hat2 he2
          cases e with
          | nrm => exact absurd rfl hbrk.1
          | ret => exact this
          | exit i => exact this
          | pan c => exact this
    · obtain ⟨i, hxi⟩ := List.mem_iff_getElem?.1 hx
      have hkey := congrArg (fun l => l[i]?) hi4.keys
      have hval := congrArg (fun l => l[i]?) hi4.vals
      simp only [List.getElem?_map, hxi, Option.map_some] at hkey hval
      obtain ⟨z, hz⟩ : ∃ z, es[i]? = some z := by
        cases h : es[i]? with
        | none => rw [h] at hkey; cases hkey
        | some z => exact ⟨z, rfl⟩
      rw [hz] at hkey hval
      simp only [Option.map_some, Option.some.injEq] at hkey hval
      have hk1 := hkp i z hz
      rw [Nat.zero_add] at hk1
      let sti : St := { st with heap := Tr.set b (.it m (some i)) st.heap, wr := [] }
      have hpi : ∀ id, sti.hp id = if id = b then some (.it m (some i)) else st.hp id := fun id => Tr.get_set _ _ _ _
      have hfi : Facts ρ sti := ⟨hf.bf, fun id k hk => by
        rw [hpi] at hk
        split at hk
        · rename_i e; rw [e]; exact hblt.1
        · exact hf.tidy id k hk⟩
      obtain ⟨e', y', h3, g'⟩ := tail_ok (st1 := sti) hfi hk1
      have hquiet : e' = .nrm ∧ sameS N ks tm y'.tm = true ∧ y'.df = df ∧ ∀ p ∈ y'.st.wr, st.nb.num ≤ p.num := by
        cases e' with
        | nrm =>
          obtain ⟨h4, _⟩ := ok_bif (show Ok ρ R (bif sameS N ks tm y'.tm && sameD df y'.df && allL (fun p => not (ltPa p st.nb)) y'.st.wr then .good else .stop 286 "") from h3)
          rw [Bool.and_eq_true, Bool.and_eq_true, allL_eq, List.all_eq_true] at h4
          refine ⟨rfl, h4.1.1, (sameD_eq h4.1.2).symm, fun p hp => ?_⟩
          have := h4.2 p hp
          rcases Nat.lt_or_ge p.num st.nb.num with h5 | h5
          · rw [ltPa_iff.2 h5] at this; cases this
          · exact h5
        | ret => cases h3
        | exit i => cases h3
        | pan c => cases h3
      obtain ⟨rfl, hq1, hq2, hq3⟩ := hquiet
      let w1 : World := { w with drawn := dr, heap := w.heap.setIfInBounds (ι0.blk b) (.mapIter (some (ι0.blk m)) since (seen.push x.born) clock) }
      have hbsz : ι0.blk b < w.heap.size := (Array.getElem?_eq_some_iff.1 j1).1
      have hw1b : w1.heap[ι0.blk b]? = some (.mapIter (some (ι0.blk m)) since (seen.push x.born) clock) := by simp [w1, hbsz]
      have hw1o : ∀ g, g ≠ ι0.blk b → w1.heap[g]? = w.heap[g]? := fun g hg => by simp [w1, Array.getElem?_setIfInBounds, Ne.symm hg]
      refine wp_of_run (v := .tuple #[.bool true, x.key, x.val]) (w' := w1) ?_ ?_
      · simp only [execOp, hev, Sem.run_bind, hrun, Result.andThen_ok]
        rfl
      · have hrep : Rep P ρ ι0 (fun _ => True) sti.hp sti.nb w1 := by
          refine ⟨fun id k hk => ?_, fun id k hk => ?_, fun id k hk => ?_, fun id id' k k' hk hk' he => ?_⟩
          · rw [hpi] at hk
            split at hk
            · rename_i e; rw [e]; exact ⟨hblt.1, trivial⟩
            · exact ⟨(hr.lt id k hk).1, trivial⟩
          · rw [hpi] at hk
            split at hk
            · rename_i e
              cases hk
              subst e
              rw [hw1b]
              exact ⟨since, seen.push x.born, clock, rfl, ents, clock, hi3, j3, hi4.nodup, hi4.born, rfl, x, hxi, by simp⟩
            · rename_i hne
              rw [hw1o _ (hinjb id k hk hne), j10 id k hk hne]
              exact hr.blk id k hk
          · rw [hpi] at hk
            split at hk
            · cases hk
              exact ⟨hmlt.1, trivial⟩
            · exact Blk.on_mono (fun i h => ⟨h.1, trivial⟩) (hr.on id k hk)
          · have some_of : ∀ {i' : Pa} {q : Blk}, sti.hp i' = some q → ∃ q', st.hp i' = some q' := by
              intro i' q hq
              rw [hpi] at hq
              split at hq
              · rename_i e; rw [e]; exact ⟨_, hB⟩
              · exact ⟨q, hq⟩
            obtain ⟨q, hq⟩ := some_of hk
            obtain ⟨q', hq'⟩ := some_of hk'
            exact hr.inj id id' q q' hq hq' he
        have hzon := (hr.on m _ hM).2 z (List.mem_of_getElem? hz)
        have hmono : ∀ i, lim st.nb A i → lim sti.nb (fun _ => True) i := fun i h => ⟨h.1, trivial⟩
        refine g'.2.2 (fun _ => True) ι0 w1 (a.put (some d) (.tuple #[.bool true, x.key, x.val])) (fun _ _ _ => trivial) hrep (hput _ _ _ rfl fun _ _ => trivial) ⟨?_, fun q hq => ?_⟩ _ fun ι' w' a' hp2 hat2 _ => ?_
        · rw [hgetd, hkey, hval]; rfl
        · simp only [List.mem_cons, List.not_mem_nil, or_false] at hq
          rcases hq with rfl | rfl | rfl
          · exact fun c hc => by simp only [W.cells, List.mem_singleton] at hc; subst hc; trivial
          · exact W.on_mono hmono hzon.1
          · exact W.on_mono hmono hzon.2
        · have hal : Loc.alike (fun i => i.num < st.nb.num) ι0 ι' := hp2.alike
          have hall' : Loc.alike (lim st.nb A) ι0 ι' := fun i hi => hal i hi.1
          obtain ⟨l, hl, _⟩ := g'.1.wr
          have hl' : y'.st.wr = l := by rw [hl]; exact List.append_nil l
          have hnl : ∀ id k, st.hp id = some k → id ∉ l := fun id k hk hm => by
            have h5 := hq3 id (by rw [hl']; exact hm)
            have h6 : id.num < st.nb.num := (hr.lt id k hk).1
            omega
          have hwb : w'.heap[ι0.blk b]? = some (.mapIter (some (ι0.blk m)) since (seen.push x.born) clock) := by
            rw [hp2.kept l hl b (.it m (some i)) (by rw [hpi, if_pos rfl]) (hnl b _ hB)]
            exact hw1b
          show I a' w' ∧ μ a' w' < μ a w
          refine ⟨⟨since, seen.push x.born, clock, hwb, .inr rfl, j3, ⟨fun s v hs => ?_, hat2.size, ?_⟩, hp2.os.trans j5, hp2.tape.trans j6, hp2.output.trans j7, Nat.le_trans j8 (Nat.le_trans (by simp [w1]) hp2.size), fun g hg hn' => ?_, fun id k hk hne => ?_⟩, ?_⟩
          · have hs' : viewN N tmd s = some v := hs
            obtain ⟨hN, h5, h6, h7⟩ := hslotd s v hs'
            have hy : Tr.get (pa s) y'.tm = some v := by
              by_cases hmem : s ∈ dstsC (.seq (.region id ops false) rest)
              · have : s ∈ ks := by
                  rw [← hks, inOf_mem]
                  refine ⟨hmem, ?_⟩
                  cases hex : Nat.testBit ex s with
                  | true => rfl
                  | false =>
                    exfalso
                    apply h7
                    rw [← hds, outOf_mem]
                    exact ⟨hmem, hex⟩
                rw [← sameS_spec hq1 s this hN]
                exact h6
              · rw [g'.2.1 (pa s) fun s' hs' e => hmem (by rw [pa_inj e]; exact hsub s' hs')]
                exact h5
            have h8 := hat2.slots s v (by unfold viewN; rw [if_pos hN]; exact hy)
            have h9 := (j4.slots s v hs').2
            exact ⟨by rw [h8.1, V.den_alike hall' ρ h9], h9⟩
          · have h5 := hat2.df
            rw [hq2] at h5
            exact RepD.back hal j4.df h5
          · rw [hp2.same g (by have : w1.heap.size = w.heap.size := by simp [w1]
                               omega) fun id k hk => ?_, hw1o g (fun e => hn' b _ hB e.symm)]
            · exact j9 g hg hn'
            · rw [hpi] at hk
              split at hk
              · rename_i e; rw [e]; exact hn' b _ hB
              · exact hn' id k hk
          · rw [hp2.kept l hl id k (by rw [hpi, if_neg hne]; exact hk) (hnl id k hk), hw1o _ (hinjb id k hk hne)]
            exact j10 id k hk hne
          · show (match w'.heap[ι0.blk b]? with | some (.mapIter _ _ seen _) => (seenL seen ents).length | _ => 0) < (match w.heap[ι0.blk b]? with | some (.mapIter _ _ seen _) => (seenL seen ents).length | _ => 0)
            rw [hwb, j1]
            refine filter_ltA (y := x) (fun q hq => ?_) hx (by simp only [hxs]; rfl) (by simp)
            cases hcq : seen.contains q.born with
            | false => rfl
            | true =>
              exfalso
              have : (seen.push x.born).contains q.born = true := by simp at hcq ⊢; exact .inl hcq
              rw [this] at hq
              cases hq
end
end Go.Fx
end

noncomputable section
namespace Go.Fx
set_option linter.unusedSimpArgs false
set_option linter.unusedVariables false
set_option linter.unusedSectionVars false

section
variable {P : Program} {ρ : Env} {R : V → Prop}

theorem codeT_seq (X : XC) (N : Nat) (a b : Code) : codeT X N (.seq a b) = ⟨fun call tm df st k => CdT.run (codeT X N a) call tm df st (seqE k fun tm df st => CdT.run (codeT X N b) call tm df st k), CdT.run (codeT X N b)⟩ := rfl
theorem codeT_region (X : XC) (N id : Nat) (ops : Array Oper) (draw : Bool) : codeT X N (.region id ops draw) = ⟨fun call tm df st k => RegT.run (regT X N ops.toList draw) call Lo.nil tm df st k, noTl⟩ := rfl
theorem codeT_cond (X : XC) (N : Nat) (c : Operand) (a b : Code) : codeT X N (.cond c a b) =
    (bif not (inN N (tmpsOf [c])) then ⟨fun _ _ _ _ _ => .stop 285 "", noTl⟩ else ⟨fun call tm df st k => kB (OpdT.f (opdT [] 0 c) Lo.nil tm) st fun t st => bif t then CdT.run (codeT X N a) call tm df st k else CdT.run (codeT X N b) call tm df st k, noTl⟩) := rfl
theorem codeT_block (X : XC) (N id : Nat) (b : Code) : codeT X N (.block id b) = ⟨fun call tm df st k => CdT.run (codeT X N b) call tm df st (blkE id k), noTl⟩ := rfl
theorem codeT_loop (X : XC) (N : Nat) (c : Code) : codeT X N (.loop c) = ⟨LpT.run (mapLoopT X N c (CdT.tl (codeT X N c)) (loopN (CdT.run (codeT X N c)) 100000)), noTl⟩ := rfl

variable (P ρ R) in
/-- a piece of the executor does what code does -/
def RunOk (call : CallF) (N ns : Nat) (c : Code) (run : RunC) : Prop :=
  ∀ (tm : Tr V) (df : Df) (st : St) (k : KC), Facts ρ st → Ok ρ R (run call tm df st k) → ∃ e y, Ok ρ R (k e y.tm y.df y.st) ∧ Goes P ρ N ns (dstsC c) ⟨tm, df, st⟩ y e noPre fun Q => c.wp P Q

theorem loopN_succ (b : RunC) (n : Nat) : loopN b (n + 1) = fun call tm df st k => b call tm df st (seqE k fun tm df st => loopN b n call tm df st k) := rfl
theorem loopN_ok {call : CallF} {N ns : Nat} {c : Code} {run : RunC} (h : RunOk P ρ R call N ns c run) : ∀ (n : Nat) {tm : Tr V} {df : Df} {st : St} {k : KC}, Facts ρ st → Ok ρ R (loopN run n call tm df st k) →
    ∃ e y, Ok ρ R (k e y.tm y.df y.st) ∧ Goes P ρ N ns (dstsC c) ⟨tm, df, st⟩ y e noPre fun Q => Code.rounds P c Q n
  | 0, tm, df, st, k, hf, hk => by cases hk
  | n + 1, tm, df, st, k, hf, hk => by
    rw [loopN_succ] at hk
    obtain ⟨e, y, h1, g⟩ := h _ _ _ _ hf hk
    have other : e ≠ .nrm → Ok ρ R (k e y.tm y.df y.st) → ∃ e y, Ok ρ R (k e y.tm y.df y.st) ∧ Goes P ρ N ns (dstsC c) ⟨tm, df, st⟩ y e noPre fun Q => Code.rounds P c Q (n + 1) := by
      intro hne h1
      refine ⟨e, y, h1, g.1, g.2.1, fun A ι w a hA hr hat hp Q hQ => ?_⟩
      refine g.2.2 A ι w a hA hr hat hp (Exit.then (Code.rounds P c Q n) Q) fun ι1 w1 a1 hp1 hat1 he1 => ?_
      have := hQ ι1 w1 a1 hp1 hat1 he1
      cases e with
      | nrm => exact absurd rfl hne
      | ret => exact this
      | exit i => exact this
      | pan c => exact this
    cases e with
    | nrm =>
      obtain ⟨e2, y2, h2, g2⟩ := loopN_ok h n (g.1.facts hf) h1
      refine ⟨e2, y2, h2, g.1.trans g2.1, g.2.1.trans g2.2.1, fun A ι w a hA hr hat hp Q hQ => ?_⟩
      refine g.2.2 A ι w a (fun id p q => hA id p (Nat.lt_of_lt_of_le q g2.1.nb)) hr hat hp (Exit.then (Code.rounds P c Q n) Q) fun ι1 w1 a1 hp1 hat1 _ => ?_
      refine g2.2.2 A ι1 w1 a1 (fun id p q => hA id (Nat.le_trans g.1.nb p) q) hp1.rep hat1 trivial Q fun ι2 w2 a2 hp2 hat2 he2 => ?_
      exact hQ ι2 w2 a2 (hp1.trans g.1 g2.1 hr hp2) hat2 he2
    | ret => exact other (by simp) h1
    | exit i => exact other (by simp) h1
    | pan c => exact other (by simp) h1

theorem mapLoopT_ok {X : XC} (hX : XOk P X) {call : CallF} (hc : CallOk P ρ R call) {N ns : Nat} {c : Code} (hdc : dokC ns c = true) {tl cd : RunC} (htl : ∀ a b, c = .seq a b → RunOk P ρ R call N ns b tl) (hcd : RunOk P ρ R call N ns (.loop c) cd) :
    RunOk P ρ R call N ns (.loop c) (LpT.run (mapLoopT X N c tl cd)) := by
  unfold mapLoopT
  split
  · rename_i id ops rest
    split
    · rename_i o os hops
      split
      · rename_i t d hn
        dsimp only
        rw [bif_eq]
        split
        · exact hcd
        · rename_i hN
          simp only [Bool.or_eq_true, Bool.not_eq_true', not_or, Bool.not_eq_true, Bool.not_eq_false] at hN
          obtain ⟨⟨hN1, hN2⟩, hN3⟩ := hN
          intro tm df st k hf hk
          dsimp only at hk
          split at hk
          · exact hcd _ _ _ _ hf hk
          · rename_i b m es hit
            have hdo : dokO ns ops.toList = true := by
              have h : (dokO ns ops.toList && dokC ns rest) = true := hdc
              rw [Bool.and_eq_true] at h
              exact h.1
            exact mapLoop_ok hX hc hops hn (dokO_spec hdo) hN1 hN2 (inN_spec hN3) (fun {tm df st k} hf hk => htl _ _ rfl _ _ _ _ hf hk) hf hit hk
      · exact hcd
    · exact hcd
  · exact hcd

theorem codeT_ok {X : XC} (hX : XOk P X) (hmix : P.follows .mixedOrders = true) {call : CallF} (hc : CallOk P ρ R call) {N ns : Nat} (c : Code) : dokC ns c = true → RunOk P ρ R call N ns c (CdT.run (codeT X N c)) ∧ ∀ a b, c = .seq a b → RunOk P ρ R call N ns b (CdT.tl (codeT X N c)) := by
  induction c with
  | skip =>
    intro _
    refine ⟨fun tm df st k hf hk => ⟨.nrm, ⟨tm, df, st⟩, hk, .refl _ _, .refl _ _, fun A ι w a hA hr hat hp Q hQ => wp_skip (hQ ι w a (.refl hr) hat trivial)⟩, fun a b h => by cases h⟩
  | region id ops draw =>
    intro hd
    refine ⟨fun tm df st k hf hk => ?_, fun a b h => by cases h⟩
    rw [codeT_region] at hk
    rw [dstsC_region]
    exact regT_ok hX hmix hc (dokO_spec hd) hf hk
  | seq x y ihx ihy =>
    intro hd
    have hd : (dokC ns x && dokC ns y) = true := hd
    rw [Bool.and_eq_true] at hd
    have hx := (ihx hd.1).1
    have hy := (ihy hd.2).1
    rw [codeT_seq]
    refine ⟨fun tm df st k hf hk => ?_, fun a b h => by cases h; exact hy⟩
    obtain ⟨e, y1, h1, g⟩ := hx _ _ _ _ hf hk
    have other : e ≠ .nrm → Ok ρ R (k e y1.tm y1.df y1.st) → ∃ e y', Ok ρ R (k e y'.tm y'.df y'.st) ∧ Goes P ρ N ns (dstsC (.seq x y)) ⟨tm, df, st⟩ y' e noPre fun Q => (Code.seq x y).wp P Q := by
      intro hne h1
      refine ⟨e, y1, h1, g.1, g.2.1.mono fun t h => by rw [dstsC_seq]; exact List.mem_append_left _ h, fun A ι w a hA hr hat hp Q hQ => wp_seq ?_⟩
      refine g.2.2 A ι w a hA hr hat hp _ fun ι1 w1 a1 hp1 hat1 he1 => ?_
      have := hQ ι1 w1 a1 hp1 hat1 he1
      cases e with
      | nrm => exact absurd rfl hne
      | ret => exact this
      | exit i => exact this
      | pan c => exact this
    cases e with
    | nrm =>
      obtain ⟨e2, y2, h2, g2⟩ := hy _ _ _ _ (g.1.facts hf) h1
      refine ⟨e2, y2, h2, ?_⟩
      rw [dstsC_seq]
      exact g.trans g2 (fun _ _ _ => trivial) fun Q a w h => wp_seq (wp_mono h fun e a w hh => by obtain ⟨rfl, h⟩ := hh; exact h)
    | ret => exact other (by simp) h1
    | exit i => exact other (by simp) h1
    | pan c => exact other (by simp) h1
  | cond c x y ihx ihy =>
    intro hd
    have hd : (dokC ns x && dokC ns y) = true := hd
    rw [Bool.and_eq_true] at hd
    have hx := (ihx hd.1).1
    have hy := (ihy hd.2).1
    refine ⟨fun tm df st k hf hk => ?_, fun a b h => by cases h⟩
    rw [codeT_cond, bif_eq] at hk
    split at hk
    · cases hk
    · rename_i hN
      have hN := inN_spec (by simpa using hN : inN N (tmpsOf [c]) = true)
      obtain ⟨b, st1, q, hden, hk⟩ := ok_b hf hk
      have hval : ∀ A ι (a : Act), At P ρ N ns A ⟨tm, df, st⟩ ι a → a.eval c = .bool b := by
        intro A ι a hat
        have hd := hden ι
        cases c with
        | tmp t =>
          have hNt := hN t (by simp [tmpsOf])
          have hd : (slotV (pa t) tm).den ρ ι = .bool b := hd
          unfold slotV at hd
          cases hg : Tr.get (pa t) tm with
          | none => rw [hg] at hd; cases hd
          | some v =>
            rw [hg] at hd
            have := (hat.slots t v (by unfold viewN; rw [if_pos hNt]; exact hg)).1
            rw [show a.eval (.tmp t) = a.tmps.getD t undef from rfl, this]
            exact hd
        | const v =>
          have hd : (ofVal v).den ρ ι = .bool b := hd
          rw [ofVal_den] at hd
          exact hd
        | global g => cases hd
        | func f => cases hd
      cases b with
      | true =>
        obtain ⟨e, y1, h1, g⟩ := hx _ _ _ _ (q.facts hf) hk
        have g' := (Goes.after (x := ⟨tm, df, st1⟩) q g).wide (es := dstsC (.cond c x y)) fun t h => by
          show t ∈ ap (dstsC x) (dstsC y)
          rw [ap_eq]; exact List.mem_append_left _ h
        exact ⟨e, y1, h1, g'.1, g'.2.1, fun A ι w a hA hr hat hp Q hQ => wp_cond_true (hval A ι a hat) (g'.2.2 A ι w a hA hr hat hp Q hQ)⟩
      | false =>
        obtain ⟨e, y1, h1, g⟩ := hy _ _ _ _ (q.facts hf) hk
        have g' := (Goes.after (x := ⟨tm, df, st1⟩) q g).wide (es := dstsC (.cond c x y)) fun t h => by
          show t ∈ ap (dstsC x) (dstsC y)
          rw [ap_eq]; exact List.mem_append_right _ h
        exact ⟨e, y1, h1, g'.1, g'.2.1, fun A ι w a hA hr hat hp Q hQ => wp_cond_false (hval A ι a hat) (g'.2.2 A ι w a hA hr hat hp Q hQ)⟩
  | block id x ihx =>
    intro hd
    have hx := (ihx hd).1
    refine ⟨fun tm df st k hf hk => ?_, fun a b h => by cases h⟩
    rw [codeT_block] at hk
    obtain ⟨e, y1, h1, g⟩ := hx _ _ _ _ hf hk
    have pass : ∀ e', (∀ Q : Exit → Act → World → Prop, ∀ ι a w, Q (e'.to ρ ι) a w → Exit.inBlock id Q (e.to ρ ι) a w) → (∀ ι B, e.on ι B → e'.on ι B) → Goes P ρ N ns (dstsC (.block id x)) ⟨tm, df, st⟩ y1 e' noPre fun Q => (Code.block id x).wp P Q := by
      intro e' hto hon
      refine ⟨g.1, g.2.1, fun A ι w a hA hr hat hp Q hQ => wp_block ?_⟩
      refine g.2.2 A ι w a hA hr hat hp _ fun ι1 w1 a1 hp1 hat1 he1 => ?_
      exact hto Q ι1 a1 w1 (hQ ι1 w1 a1 hp1 hat1 (hon _ _ he1))
    cases e with
    | nrm => exact ⟨.nrm, y1, h1, pass .nrm (fun _ _ _ _ h => h) fun _ _ h => h⟩
    | ret => exact ⟨.ret, y1, h1, pass .ret (fun _ _ _ _ h => h) fun _ _ h => h⟩
    | pan c => exact ⟨.pan c, y1, h1, pass (.pan c) (fun _ _ _ _ h => h) fun _ _ h => h⟩
    | exit i =>
      have h1 : Ok ρ R (bif Nat.beq i id then k .nrm y1.tm y1.df y1.st else k (.exit i) y1.tm y1.df y1.st) := h1
      rw [bif_eq] at h1
      split at h1
      · rename_i e
        have e : i = id := by simpa using e
        exact ⟨.nrm, y1, h1, pass .nrm (fun Q ι a w h => by
          show Exit.inBlock id Q (.exit i) a w
          simp only [Exit.inBlock, e, if_true]
          exact h) fun _ _ _ => trivial⟩
      · rename_i e
        have e : ¬ i = id := by simpa using e
        exact ⟨.exit i, y1, h1, pass (.exit i) (fun Q ι a w h => by
          show Exit.inBlock id Q (.exit i) a w
          simp only [Exit.inBlock, e, if_false]
          exact h) fun _ _ _ => trivial⟩
  | loop x ihx =>
    intro hd
    obtain ⟨hx, hxt⟩ := ihx hd
    rw [codeT_loop]
    refine ⟨mapLoopT_ok (c := x) hX hc hd hxt fun tm df st k hf hk => ?_, fun a b h => by cases h⟩
    obtain ⟨e, y1, h1, g⟩ := loopN_ok hx 100000 hf hk
    exact ⟨e, y1, h1, g.mono fun Q a w h => wp_loop_rounds 100000 h⟩
  | exit id =>
    intro _
    refine ⟨fun tm df st k hf hk => ⟨.exit id, ⟨tm, df, st⟩, hk, .refl _ _, .refl _ _, fun A ι w a hA hr hat hp Q hQ => wp_exit (hQ ι w a (.refl hr) hat trivial)⟩, fun a b h => by cases h⟩
  | label l =>
    intro _
    refine ⟨fun tm df st k hf hk => ⟨.nrm, ⟨tm, df, st⟩, hk, .refl _ _, .refl _ _, fun A ι w a hA hr hat hp Q hQ => wp_label (hQ ι w a (.refl hr) hat trivial)⟩, fun a b h => by cases h⟩
  | ret =>
    intro _
    refine ⟨fun tm df st k hf hk => ⟨.ret, ⟨tm, df, st⟩, hk, .refl _ _, .refl _ _, fun A ι w a hA hr hat hp Q hQ => wp_ret (hQ ι w a (.refl hr) hat trivial)⟩, fun a b h => by cases h⟩
  | rangeFunc f ps asg b _ _ => intro _; exact ⟨fun tm df st k hf hk => (by cases hk), fun a b h => by cases h⟩
  | scope b _ => intro _; exact ⟨fun tm df st k hf hk => (by cases hk), fun a b h => by cases h⟩
  | goto l => intro _; exact ⟨fun tm df st k hf hk => (by cases hk), fun a b h => by cases h⟩
  | refuse why => intro _; exact ⟨fun tm df st k hf hk => (by cases hk), fun a b h => by cases h⟩
end
end Go.Fx
end

noncomputable section
namespace Go.Fx
set_option linter.unusedSimpArgs false
set_option linter.unusedVariables false
set_option linter.unusedSectionVars false

section
variable {P : Program} {ρ : Env} {R : V → Prop}

/-! ### Results -/
theorem loadT_q {X : Cx} (hT : TysOk P X.toCtx) {t : TypeId} {v : V} {st : St} {kk : K} (hk : Ok ρ R (LT.run (loadT X t) v st kk)) :
    ∃ r b o, v = .c (.ptr b o) ∧ Ok ρ R (kk r st) ∧ ∀ A ι w, Rep P ρ ι A st.hp st.nb w → (loadVar t ⟨ι.blk b, o, none⟩).run P w = .ok (r.den ρ ι) w ∧ r.on ι (lim st.nb A) := by
  unfold loadT at hk
  split at hk
  · rename_i i hi
    have ht := hT t i hi
    rw [bif_eq] at hk
    split at hk
    · rename_i ha
      obtain ⟨b, o, rfl, hk⟩ := ok_ptr hk
      obtain ⟨B, hB, hk⟩ := ok_opt hk
      obtain ⟨l, hl, hk⟩ := ok_opt hk
      refine ⟨_, b, o, rfl, hk, fun A ι w hr => ⟨?_, ?_⟩⟩
      · simp only [loadVar, Sem.run_bind, ht.runAgg, ha, Result.andThen_ok, if_true, ht.runSize, Sem.run_pure]
        rw [loadCells_run hr hB hl]
        rfl
      · exact Blk.row_on hl (hr.wf hB) (hr.on b B hB)
    · rename_i ha
      simp only [Bool.not_eq_true] at ha
      obtain ⟨b, o, rfl, hk⟩ := ok_ptr hk
      obtain ⟨B, hB, hk⟩ := ok_opt hk
      obtain ⟨c, hc, hk⟩ := ok_opt hk
      refine ⟨_, b, o, rfl, hk, fun A ι w hr => ?_⟩
      obtain ⟨h1, h2⟩ := hr.load1 hB hc
      refine ⟨?_, h2⟩
      simp only [loadVar, Sem.run_bind, ht.runAgg, ha, Result.andThen_ok, Bool.false_eq_true, if_false, run_load, h1]
      rfl
  · cases hk
def resM (tmps : Array Value) : ResultVar → Sem Value
  | .tmp t => pure (tmps.getD t undef)
  | .cell x t => do loadVar t (← asAddr (tmps.getD x undef))
theorem results_eq (fn : Func) (tmps : Array Value) : results fn tmps = (do let vs ← fn.results.mapM (resM tmps); pure (if h : vs.size = 1 then vs[0] else .tuple vs)) := by
  unfold results
  congr 2
theorem resV_den (l : List W) (ρ : Env) (ι : Loc) :
    (if h : (l.map (W.den ρ ι)).toArray.size = 1 then (l.map (W.den ρ ι)).toArray[0] else Value.tuple (l.map (W.den ρ ι)).toArray) = (resV l).den ρ ι := by
  match l with
  | [] => rfl
  | [x] => exact (W.v_den x ρ ι).symm
  | x :: y :: t =>
    rw [dif_neg (by simp)]
    rfl
theorem resV_on {l : List W} {ι : Loc} {B : Pa → Prop} (h : ∀ x ∈ l, x.on ι B) : (resV l).on ι B := by
  match l with
  | [] => exact h
  | [x] => exact V.on_v.2 (h x (by simp))
  | x :: y :: t => exact h
theorem ok_kW {v : V} {k : W → Ans} (h : Ok ρ R (kW v k)) : ∃ w, v = w.v ∧ Ok ρ R (k w) := by
  cases v with
  | c x => exact ⟨.c x, rfl, h⟩
  | a xs => exact ⟨.a xs, rfl, h⟩
  | t xs => cases h
theorem slotV_some {p : Pa} {tm : Tr V} {w : W} (h : slotV p tm = w.v) : Tr.get p tm = some w.v := by
  unfold slotV at h
  cases hg : Tr.get p tm with
  | none =>
    rw [hg] at h
    have h : undefV = w.v := h
    cases w <;> cases h
  | some v => rw [hg] at h; exact congrArg some h
theorem resT_cons (X : XC) (N : Nat) (r : ResultVar) (l : List ResultVar) : resT X N (r :: l) = (match r with
      | .tmp t => bif not (Nat.testBit N t) then ⟨fun _ _ _ => .stop 289 ""⟩ else ⟨fun tm st k => kW (slotV (pa t) tm) fun w => ResT.run (resT X N l) tm st fun l => k (w :: l)⟩
      | .cell a t => bif not (Nat.testBit N a) then ⟨fun _ _ _ => .stop 289 ""⟩ else ⟨fun tm st k => LT.run (loadT X.toCx t) (slotV (pa a) tm) st fun v _ => kW v fun w => ResT.run (resT X N l) tm st fun l => k (w :: l)⟩) := rfl
theorem resT_ok {X : XC} (hX : XOk P X) {N : Nat} {tm : Tr V} {st : St} : ∀ (rs : List ResultVar) {k : List W → Ans}, Ok ρ R (ResT.run (resT X N rs) tm st k) →
    ∃ l, Ok ρ R (k l) ∧ ∀ A ι w (a : Act), Rep P ρ ι A st.hp st.nb w → Slots ρ ι (lim st.nb A) (viewN N tm) a → (rs.mapM (resM a.tmps)).run P w = .ok (l.map (W.den ρ ι)) w ∧ ∀ x ∈ l, x.on ι (lim st.nb A)
  | [], k, hk => ⟨[], hk, fun A ι w a hr hs => ⟨rfl, fun x hx => by cases hx⟩⟩
  | .tmp t :: rs, k, hk => by
    rw [resT_cons] at hk
    dsimp only at hk
    rw [bif_eq] at hk
    split at hk
    · cases hk
    · rename_i hN
      have hN : Nat.testBit N t = true := by simpa using hN
      have hk : Ok ρ R (kW (slotV (pa t) tm) fun w => ResT.run (resT X N rs) tm st fun l => k (w :: l)) := hk
      obtain ⟨x, hx, hk⟩ := ok_kW hk
      obtain ⟨l, h1, h2⟩ := resT_ok hX rs hk
      refine ⟨x :: l, h1, fun A ι w a hr hs => ?_⟩
      obtain ⟨h3, h4⟩ := h2 A ι w a hr hs
      obtain ⟨h5, h6⟩ := hs t x.v (by unfold viewN; rw [if_pos hN]; exact slotV_some hx)
      refine ⟨?_, fun y hy => ?_⟩
      · simp only [List.mapM_cons, resM, pure_bind, Sem.run_bind, h3, Result.andThen_ok, Sem.run_pure, List.map_cons, h5, W.v_den]
      · rcases List.mem_cons.1 hy with rfl | hy
        · exact V.on_v.1 h6
        · exact h4 y hy
  | .cell b t :: rs, k, hk => by
    rw [resT_cons] at hk
    dsimp only at hk
    rw [bif_eq] at hk
    split at hk
    · cases hk
    · rename_i hN
      have hN : Nat.testBit N b = true := by simpa using hN
      obtain ⟨r, p, o, e1, hk1, hl⟩ := loadT_q hX.tys hk
      obtain ⟨x, hx, hk2⟩ := ok_kW hk1
      subst hx
      obtain ⟨l, h1, h2⟩ := resT_ok hX rs hk2
      refine ⟨x :: l, h1, fun A ι w a hr hs => ?_⟩
      obtain ⟨h3, h4⟩ := h2 A ι w a hr hs
      obtain ⟨h7, h8⟩ := hl A ι w hr
      obtain ⟨h5, h6⟩ := hs b _ (by unfold viewN; rw [if_pos hN]; exact slotV_some (w := .c (.ptr p o)) e1)
      refine ⟨?_, fun y hy => ?_⟩
      · have h5 : a.tmps.getD b undef = .pointer (some ⟨ι.blk p, o, none⟩) := h5
        simp only [List.mapM_cons, resM, Sem.run_bind, h5, show asAddr (.pointer (some ⟨ι.blk p, o, none⟩)) = pure ⟨ι.blk p, o, none⟩ from rfl, Sem.run_pure, Result.andThen_ok, h7, h3, List.map_cons, W.v_den]
      · rcases List.mem_cons.1 hy with rfl | hy
        · exact V.on_v.1 h8
        · exact h4 y hy
theorem results_run {fn : Func} {tmps : Array Value} {l : List W} {ι : Loc} {w : World} (h : (fn.results.toList.mapM (resM tmps)).run P w = .ok (l.map (W.den ρ ι)) w) : (results fn tmps).run P w = .ok ((resV l).den ρ ι) w := by
  rw [results_eq]
  simp only [Sem.run_bind]
  rw [mapM_array (P := P) fn.results _ _ w h]
  simp only [Result.andThen_ok, Sem.run_pure]
  congr 1
  exact resV_den l ρ ι

/-! ### Where a function begins -/
theorem setArgs_cons (v : V) (l : List V) (i : Nat) (tm : Tr V) : setArgs (v :: l) i tm = setArgs l (i + 1) (Tr.set (pa i) v tm) := rfl
theorem setArgs_get : ∀ (l : List V) (i : Nat) (tm : Tr V) (t : Nat), Tr.get (pa t) (setArgs l i tm) = if i ≤ t ∧ t < i + l.length then l[t - i]? else Tr.get (pa t) tm
  | [], i, tm, t => by
    rw [if_neg (by simp)]; rfl
  | v :: l, i, tm, t => by
    rw [setArgs_cons, setArgs_get l (i + 1) _ t]
    by_cases h1 : t = i
    · subst h1
      rw [if_neg (by omega), if_pos (by simp), Tr.get_set, if_pos rfl]
      simp
    · by_cases h2 : i + 1 ≤ t ∧ t < i + 1 + l.length
      · rw [if_pos h2, if_pos (by simp; omega), show t - i = (t - (i + 1)) + 1 by omega]
        rfl
      · rw [if_neg h2, if_neg (by simp; omega), Tr.get_set, if_neg (pa_ne h1)]
def initAct (fn : Func) (args : Array Value) : Act := { tmps := args ++ Array.replicate (fn.ntmps - args.size) undef, defers := [] }
theorem at_init {N : Nat} {fn : Func} {A : Pa → Prop} {ι : Loc} {st : St} {args : List V} (h : ∀ x ∈ args, x.on ι (lim st.nb A)) : At P ρ N fn.ntmps A ⟨setArgs args 0 .e, [], st⟩ ι (initAct fn (args.map (V.den ρ ι)).toArray) := by
  refine ⟨fun t v hv => ?_, ?_, trivial⟩
  · unfold viewN at hv
    split at hv
    · rw [setArgs_get] at hv
      split at hv
      · rename_i ht
        rw [Nat.zero_add] at ht
        rw [Nat.sub_zero] at hv
        refine ⟨?_, h v (List.mem_of_getElem? hv)⟩
        rw [Array.getD_eq_getD_getElem?]
        have : (initAct fn (args.map (V.den ρ ι)).toArray).tmps[t]? = some (v.den ρ ι) := by
          show ((args.map (V.den ρ ι)).toArray ++ _)[t]? = _
          rw [Array.getElem?_append_left (by simp; exact ht.2)]
          simp [hv]
        rw [this]; rfl
      · rw [Tr.get_e] at hv; cases hv
    · cases hv
  · show _ ≤ ((args.map (V.den ρ ι)).toArray ++ _).size
    simp
    omega

/-! ### Deferred calls -/
def Md.den (ρ : Env) (ι : Loc) : Md → FrameMode
  | .retn => .returning
  | .pnk c r => .panicking [{ v := c.den ρ ι, recovered := r }]
def Md.on (ι : Loc) (B : Pa → Prop) : Md → Prop
  | .retn => True
  | .pnk c _ => c.on ι B
theorem Md.move {ι ι' : Loc} {nb nb' : Pa} {A : Pa → Prop} {u : Md} (h : u.on ι (lim nb A)) (hal : Loc.alike (fun i => i.num < nb.num) ι ι') (hnb : nb.num ≤ nb'.num) : u.on ι' (lim nb' A) ∧ u.den ρ ι' = u.den ρ ι := by
  have hall : Loc.alike (lim nb A) ι ι' := fun i hi => hal i hi.1
  cases u with
  | retn => exact ⟨trivial, rfl⟩
  | pnk c r => exact ⟨C.on_mono (lim_mono hnb) (C.on_alike hall h), by simp only [Md.den, C.den_alike hall ρ h]⟩
theorem settle_den (u : Md) (ρ : Env) (ι : Loc) : Go.settle (u.den ρ ι) = (Fx.settle u).den ρ ι := by
  cases u with
  | retn => rfl
  | pnk c r => cases r <;> rfl
theorem settle_on {u : Md} {ι : Loc} {B : Pa → Prop} (h : u.on ι B) : (Fx.settle u).on ι B := by
  cases u with
  | retn => trivial
  | pnk c r => cases r <;> first | exact h | trivial
theorem den_run (u : Md) (ρ : Env) (ι : Loc) : u.den ρ ι ≠ .run := by cases u <;> simp [Md.den]

/-- what a deferred call brings about -/
def DStep (P : Program) (ρ : Env) (g : Nat) (args : List V) (u : Md) (st : St) (u' : Md) (st' : St) : Prop :=
  Le ρ st st' ∧ ∀ A ι w, (∀ id : Pa, st.nb.num ≤ id.num → id.num < st'.nb.num → A id) → Rep P ρ ι A st.hp st.nb w → (∀ x ∈ args, x.on ι (lim st.nb A)) → u.on ι (lim st.nb A) →
    CallsD P g (args.map (V.den ρ ι)).toArray (u.den ρ ι) w fun e um w' => ∃ ι' v, e = .returned v ∧ um = u'.den ρ ι' ∧ Post P ρ ι A st w ι' st' w' ∧ u'.on ι' (lim st'.nb A)
theorem callFunc_run {X : XC} (hX : XOk P X) {g : Nat} {fn : Func} {c : Code} (h : X.fn g = some fn) (hb : fn.body = some c) (as : Array Value) (w : World) : (callFunc g as).run P w = .ok (.enter g as) w := by
  exact (hX.fns g fn h).2 as w
theorem isRecover_some {l : List Oper} {t : Nat} (h : isRecover l = some t) : ∃ o c, l = [o] ∧ o.op = .call c ∧ o.dst = some t ∧ o.guard = none ∧ c.callee = .builtin .recover := by
  unfold isRecover at h
  split at h
  · rename_i o
    split at h
    · rename_i c t' h1 h2 h3
      split at h
      · rename_i h4
        cases h
        exact ⟨o, c, rfl, h1, h2, h3, h4⟩
      · cases h
    · cases h
  · cases h
theorem results_none {fn : Func} (h : fn.results.toList = []) (tmps : Array Value) (w : World) : (results fn tmps).run P w = .ok (.tuple #[]) w := by
  have : fn.results = #[] := by simpa using h
  unfold results
  rw [this]
  simp

/-- a deferred body's end -/
def endD (fn : Func) (k : Md → St → Ans) (e : Ex) (df : Df) (u : Md) (st : St) : Ans :=
  match e, df, fn.results.toList with
  | .nrm, [], [] => k u st
  | .ret, [], [] => k u st
  | _, _, _ => .stop 291 ""
theorem endD_ok {fn : Func} {k : Md → St → Ans} {e : Ex} {df : Df} {u : Md} {st : St} (h : Ok ρ R (endD fn k e df u st)) : (e = .nrm ∨ e = .ret) ∧ df = [] ∧ fn.results.toList = [] ∧ Ok ρ R (k u st) := by
  unfold endD at h
  split at h
  · rename_i h1; exact ⟨.inl rfl, rfl, h1, h⟩
  · rename_i h1; exact ⟨.inr rfl, rfl, h1, h⟩
  · cases h
theorem repD_nil {ι : Loc} {B : Pa → Prop} {Ds : List Deferred} (h : RepD P ρ ι B [] Ds) : Ds = [] := by
  cases Ds with
  | nil => rfl
  | cons _ _ => exact h.elim

theorem codeD_cases (X : XC) (N : Nat) (c : Code) : (∃ id ops b t, c = .seq (.region id ops false) b ∧ isRecover ops.toList = some t ∧ codeD X N c = ⟨fun call tm df u st k => match recov u with | (v, u') => CdT.run (codeT X N b) call (Tr.set (pa t) v tm) df st fun e tm df st => k e tm df u' st⟩) ∨
    codeD X N c = ⟨fun call tm df u st k => CdT.run (codeT X N c) call tm df st fun e tm df st => k e tm df u st⟩ := by
  unfold codeD
  split
  · rename_i id ops b
    split
    · rename_i t ht
      exact .inl ⟨id, ops, b, t, rfl, ht, rfl⟩
    · exact .inr rfl
  · exact .inr rfl
theorem dbody_ok {X : XC} (hX : XOk P X) (hmix : P.follows .mixedOrders = true) {call : CallF} (hc : CallOk P ρ R call) {g : Nat} {args : List V} {u : Md} {st : St} {k : Md → St → Ans} (hf : Facts ρ st) (hk : Ok ρ R (DBodyT.run (dbodyT X g) call args u st k)) :
    ∃ u' st', Ok ρ R (k u' st') ∧ (∀ as w, (callFunc g as).run P w = .ok (.enter g as) w) ∧ DStep P ρ g args u st u' st' := by
  unfold dbodyT at hk
  split at hk
  · rename_i fn hfn
    split at hk
    · rename_i c hb
      dsimp only at hk
      rw [bif_eq] at hk
      split at hk
      · cases hk
      · rename_i hdc
        have hdc : dokC fn.ntmps c = true := by simpa using hdc
        obtain ⟨hf1, _⟩ := hX.fns g fn hfn
        have hk : Ok ρ R (CdD.run (codeD X (Nat.lor (needsCode c) (needsRes fn.results.toList)) c) call (setArgs args 0 .e) [] u st fun e tm df u st => endD fn k e df u st) := hk
        generalize Nat.lor (needsCode c) (needsRes fn.results.toList) = N at hk
        have plain : Ok ρ R (CdT.run (codeT X N c) call (setArgs args 0 .e) [] st fun e tm df st => endD fn k e df u st) → ∃ u' st', Ok ρ R (k u' st') ∧ (∀ as w, (callFunc g as).run P w = .ok (.enter g as) w) ∧ DStep P ρ g args u st u' st' := by
          intro hk
          obtain ⟨e, y, h1, gg⟩ := (codeT_ok (N := N) (ns := fn.ntmps) hX hmix hc c hdc).1 _ _ _ _ hf hk
          obtain ⟨he, hdf, hres, h1⟩ := endD_ok h1
          refine ⟨u, y.st, h1, callFunc_run hX hfn hb, gg.1, fun A ι w hA hr hin hu => ?_⟩
          refine (callsD_of_wp (R := fun e w' => ∃ ι' v, e = .returned v ∧ Post P ρ ι A st w ι' y.st w') hf1 hb ?_).mono fun e um w' hh => ?_
          · refine gg.2.2 A ι w (initAct fn (args.map (V.den ρ ι)).toArray) hA hr (at_init hin) trivial _ fun ι' w' a' hp hat _ => ?_
            have hdd : a'.defers = [] := by have := hat.df; rw [hdf] at this; exact repD_nil this
            rcases he with rfl | rfl
            · exact ⟨hdd, _, results_none hres _ _, ι', _, rfl, hp⟩
            · exact ⟨hdd, _, results_none hres _ _, ι', _, rfl, hp⟩
          · obtain ⟨rfl, ι', v, h3, h4⟩ := hh
            obtain ⟨h5, h6⟩ := Md.move (ρ := ρ) hu h4.alike gg.1.nb
            exact ⟨ι', v, h3, h6.symm, h4, h5⟩
        rcases codeD_cases X N c with ⟨id, ops, b, t, hcc, ht, hcd⟩ | hcd
        · subst hcc
          rw [hcd] at hk
          · obtain ⟨o, cc, hl, hop, hdst, hg, hcal⟩ := isRecover_some ht
            have hdc : (dokO fn.ntmps ops.toList && dokC fn.ntmps b) = true := hdc
            rw [Bool.and_eq_true] at hdc
            have htn : t < fn.ntmps := dokO_spec hdc.1 o (by rw [hl]; simp) t hdst
            cases hrec : recov u with
            | mk v u' =>
              have hk : Ok ρ R (match recov u with | (v, u') => CdT.run (codeT X N b) call (Tr.set (pa t) v (setArgs args 0 .e)) [] st fun e tm df st => endD fn k e df u' st) := hk
              rw [hrec] at hk
              have hk : Ok ρ R (CdT.run (codeT X N b) call (Tr.set (pa t) v (setArgs args 0 .e)) [] st fun e tm df st => endD fn k e df u' st) := hk
              obtain ⟨e, y, h1, gg⟩ := (codeT_ok (N := N) (ns := fn.ntmps) hX hmix hc b hdc.2).1 _ _ _ _ hf hk
              obtain ⟨he, hdf, hres, h1⟩ := endD_ok h1
              refine ⟨u', y.st, h1, callFunc_run hX hfn hb, gg.1, fun A ι w hA hr hin hu => ?_⟩
              have hu' : u'.on ι (lim st.nb A) ∧ v.on ι (lim st.nb A) := by
                unfold recov at hrec
                split at hrec
                · cases hrec; exact ⟨hu, hu⟩
                · cases hrec; exact ⟨hu, trivial⟩
              have hrcv : ∀ (c₀ : Frame) (cs : List Frame), c₀.mode = u.den ρ ι → (match recoverD (c₀ :: cs) with | some (x, cs') => x = v.den ρ ι ∧ cs' = { c₀ with mode := u'.den ρ ι } :: cs | none => v.den ρ ι = .nilIface ∧ (c₀ :: cs) = { c₀ with mode := u'.den ρ ι } :: cs) := by
                intro c₀ cs hm
                obtain ⟨x1, x2, x3, x4, cmode, x6, x7⟩ := c₀
                have hm : cmode = u.den ρ ι := hm
                subst hm
                cases u with
                | retn => cases hrec; exact ⟨rfl, rfl⟩
                | pnk c r =>
                  cases r with
                  | false => cases hrec; exact ⟨rfl, rfl⟩
                  | true => cases hrec; exact ⟨rfl, rfl⟩
              refine callsD_of_wpS hf1 hb fun c₀ cs hm => wpS_seq (wpS_region ?_)
              have hsz : ops = #[o] := list_array hl
              subst hsz
              obtain ⟨dst, op, type, pos, after, guard⟩ := o
              have hop : op = .call cc := hop
              have hdst : dst = some t := hdst
              have hg : guard = none := hg
              subst hop; subst hdst; subst hg
              obtain ⟨callee, cargs, ctys⟩ := cc
              have hcal : callee = .builtin .recover := hcal
              subst hcal
              have hrun : ∀ (a : Act) (w : World), (execOp a.eval ⟨some t, .call ⟨.builtin .recover, cargs, ctys⟩, type, pos, after, none⟩).run P w = .ok .recover w := fun a w => rfl
              have hat : At P ρ N fn.ntmps A ⟨Tr.set (pa t) v (setArgs args 0 .e), [], st⟩ ι ((initAct fn (args.map (V.den ρ ι)).toArray).put (some t) (v.den ρ ι)) := by
                have h0 := at_init (P := P) (ρ := ρ) (N := N) (fn := fn) (st := st) hin
                refine ⟨fun s y hy => ?_, by rw [put_size]; exact h0.size, trivial⟩
                rw [put_getD]
                unfold viewN at hy
                split at hy
                · rename_i hN
                  have hy : Tr.get (pa s) (Tr.set (pa t) v (setArgs args 0 .e)) = some y := hy
                  rw [Tr.get_set] at hy
                  split at hy
                  · rename_i e
                    cases hy
                    have := pa_inj e
                    subst this
                    rw [if_pos ⟨rfl, Nat.lt_of_lt_of_le htn h0.size⟩]
                    exact ⟨rfl, hu'.2⟩
                  · rename_i e
                    rw [if_neg (fun h => e (by rw [show t = s by simpa using h.1]))]
                    exact h0.slots s y (by unfold viewN; rw [if_pos hN]; exact hy)
                · cases hy
              have hb' : ∀ cs', cs' = { c₀ with mode := u'.den ρ ι } :: cs → b.wpS P (bodyPostS P fn c₀ cs fun e um w' => ∃ ι' v, e = .returned v ∧ um = u'.den ρ ι' ∧ Post P ρ ι A st w ι' y.st w' ∧ u'.on ι' (lim y.st.nb A)) ((initAct fn (args.map (V.den ρ ι)).toArray).put (some t) (v.den ρ ι)) cs' w := by
                intro cs' hcs
                subst hcs
                refine wpS_of_wp ?_
                refine gg.2.2 A ι w _ hA hr hat trivial _ fun ι' w' a' hp hat' _ => ?_
                have hdd : a'.defers = [] := by have := hat'.df; rw [hdf] at this; exact repD_nil this
                obtain ⟨h5, h6⟩ := Md.move (ρ := ρ) hu'.1 hp.alike gg.1.nb
                rcases he with rfl | rfl
                · exact ⟨hdd, _, rfl, _, results_none hres _ _, ι', _, rfl, h6.symm, hp, h5⟩
                · exact ⟨hdd, _, rfl, _, results_none hres _ _, ι', _, rfl, h6.symm, hp, h5⟩
              have hrg : List.range (#[(⟨some t, .call ⟨.builtin .recover, cargs, ctys⟩, type, pos, after, none⟩ : Oper)]).size = [0] := rfl
              rw [hrg]
              have hrc := hrcv c₀ cs hm
              unfold wpOpsS
              have hwt : ∀ y, Region.wanted (⟨some t, .call ⟨.builtin .recover, cargs, ctys⟩, type, pos, after, none⟩ : Oper) y = true := fun y => wanted_none rfl y
              simp only [List.getElem?_toArray, List.getElem?_cons_zero, hwt, if_true, hrun]
              split at hrc
              · rename_i x cs' hx
                simp only [hx]
                obtain ⟨rfl, rfl⟩ := hrc
                unfold wpOpsS
                exact hb' _ rfl
              · rename_i hx
                simp only [hx]
                unfold wpOpsS
                rw [← hrc.1]
                exact hb' _ hrc.2
        · rw [hcd] at hk
          exact plain hk
    · cases hk
  · cases hk
end
end Go.Fx
end

noncomputable section
namespace Go.Fx
set_option linter.unusedSimpArgs false
set_option linter.unusedVariables false
set_option linter.unusedSectionVars false

section
variable {P : Program} {ρ : Env} {R : V → Prop}

theorem leavesK_cons (X : XC) (call : CallF) (d : Nat × List V) (df : Df) (u : Md) (st : St) (k : Md → St → Ans) : leavesK X call (d :: df) u st k = DBodyT.run (dbodyT X d.1) call d.2 u st fun u st => leavesK X call df (Fx.settle u) st k := rfl
/-- the calls that come when a function ends -/
theorem dleaves_ok {X : XC} (hX : XOk P X) (hmix : P.follows .mixedOrders = true) {call : CallF} (hc : CallOk P ρ R call) {k : Md → St → Ans} : ∀ (df : Df) {u : Md} {st : St}, Facts ρ st → Ok ρ R (leavesK X call df u st k) →
    ∃ u' st', Ok ρ R (k u' st') ∧ Le ρ st st' ∧ ∀ A ι w Ds, (∀ id : Pa, st.nb.num ≤ id.num → id.num < st'.nb.num → A id) → Rep P ρ ι A st.hp st.nb w → RepD P ρ ι (lim st.nb A) df Ds → u.on ι (lim st.nb A) →
      ∀ (fn : Func) (tmps : Array Value) (R' : Ending → World → Prop), (∀ ι' w', Post P ρ ι A st w ι' st' w' → u'.on ι' (lim st'.nb A) → Leaves P fn tmps R' [] (u'.den ρ ι') w') → Leaves P fn tmps R' Ds (u.den ρ ι) w
  | [], u, st, hf, hk => ⟨u, st, hk, .refl _ _, fun A ι w Ds hA hr hD hu fn tmps R' h => by
      have := repD_nil hD
      subst this
      exact h ι w (.refl hr) hu⟩
  | d :: df, u, st, hf, hk => by
    rw [leavesK_cons] at hk
    obtain ⟨u1, st1, h1, h2, h3⟩ := dbody_ok hX hmix hc hf hk
    obtain ⟨u', st', h4, h5, h6⟩ := dleaves_ok hX hmix hc df (h3.1.facts hf) h1
    refine ⟨u', st', h4, h3.1.trans h5, fun A ι w Ds hA hr hD hu fn tmps R' h => ?_⟩
    cases Ds with
    | nil => exact hD.elim
    | cons D Ds =>
      obtain ⟨⟨⟨fv, cap, ht⟩, hi, hon⟩, hD⟩ := hD
      refine ⟨den_run u ρ ι, fv, cap, d.1, _, ht, (hi w).trans (h2 _ w), ?_⟩
      refine (h3.2 A ι w (fun id p q => hA id p (Nat.lt_of_lt_of_le q h5.nb)) hr hon hu).mono fun e um w' hh => ?_
      obtain ⟨ι', v, rfl, rfl, hp, hu1⟩ := hh
      show Leaves P fn tmps R' Ds (Go.settle (u1.den ρ ι')) w'
      rw [settle_den]
      refine h6 A ι' w' Ds (fun id p q => hA id (Nat.le_trans h3.1.nb p) q) hp.rep (hD.move hp.alike h3.1.nb) (settle_on hu1) fn tmps R' fun ι2 w2 hp2 hu2 => ?_
      exact h ι2 w2 (hp.trans h3.1 h5 hr hp2) hu2

theorem fin_ok {X : XC} (hX : XOk P X) {N : Nat} {rs : List ResultVar} {tm : Tr V} {ko : KO} {u : Md} {st : St} (hk : Ok ρ R (endK (resT X N rs) tm ko u st)) :
    (u = .retn ∧ ∃ l, Ok ρ R (ko (.ret (resV l)) st) ∧ ∀ A ι w (a : Act), Rep P ρ ι A st.hp st.nb w → Slots ρ ι (lim st.nb A) (viewN N tm) a → (rs.mapM (resM a.tmps)).run P w = .ok (l.map (W.den ρ ι)) w ∧ ∀ x ∈ l, x.on ι (lim st.nb A)) ∨
    ∃ c, u = .pnk c false ∧ Ok ρ R (ko (.pan c) st) := by
  unfold endK at hk
  split at hk
  · exact .inl ⟨rfl, resT_ok hX rs hk⟩
  · exact .inr ⟨_, rfl, hk⟩
  · cases hk

variable (P ρ R) in
/-- what is done at once does what its function does -/
def IntrOk (X : XC) : Prop := ∀ g i, Tr.get (pa g) X.intr = some i → ∀ args st ko, Facts ρ st → Ok ρ R (IntrT.run i args st ko) → ∃ out st', Ok ρ R (ko out st') ∧ (∀ as w, (callFunc g as).run P w = .ok (.enter g as) w) ∧ CStep P ρ g args st out st'

theorem fnT_ok {X : XC} (hX : XOk P X) (hI : IntrOk P ρ R X) (hmix : P.follows .mixedOrders = true) {call : CallF} (hc : CallOk P ρ R call) : CallOk P ρ R fun g args st ko => BodyT.run (fnT X g) call args st ko := by
  intro g args st ko hf hk
  have hk : Ok ρ R (BodyT.run (fnT X g) call args st ko) := hk
  unfold fnT at hk
  split at hk
  · rename_i i hi
    exact hI g i hi args st ko hf hk
  · split at hk
    · rename_i fn hfn
      split at hk
      · rename_i c hb
        dsimp only at hk
        rw [bif_eq] at hk
        split at hk
        · cases hk
        · rename_i hdc
          have hdc : dokC fn.ntmps c = true := by simpa using hdc
          obtain ⟨hf1, _⟩ := hX.fns g fn hfn
          have hk : Ok ρ R (CdT.run (codeT X (Nat.lor (needsCode c) (needsRes fn.results.toList)) c) call (setArgs args 0 .e) [] st (finK X (resT X (Nat.lor (needsCode c) (needsRes fn.results.toList)) fn.results.toList) call ko)) := hk
          generalize Nat.lor (needsCode c) (needsRes fn.results.toList) = N at hk
          obtain ⟨e, y, h1, gg⟩ := (codeT_ok (N := N) (ns := fn.ntmps) hX hmix hc c hdc).1 _ _ _ _ hf hk
          have hfy := gg.1.facts hf
          -- out of the code in a mode
          have main : ∀ u : Md, Ok ρ R (leavesK X call y.df u y.st (endK (resT X N fn.results.toList) y.tm ko)) →
              (∀ ι B, e.on ι B → u.on ι B) → (∀ (R' : Ending → World → Prop) ι (a : Act) w, Leaves P fn a.tmps R' a.defers (u.den ρ ι) w → bodyPostD P fn R' (e.to ρ ι) a w) → ∃ out st', Ok ρ R (ko out st') ∧ (∀ as w, (callFunc g as).run P w = .ok (.enter g as) w) ∧ CStep P ρ g args st out st' := by
            intro u hk hon hpost
            obtain ⟨u', st2, h2, h3, h4⟩ := dleaves_ok hX hmix hc y.df hfy hk
            have cs : ∀ (out : Out), (∀ A ι w (a : Act), Rep P ρ ι A st2.hp st2.nb w → Slots ρ ι (lim st2.nb A) (viewN N y.tm) a → u'.on ι (lim st2.nb A) →
                ∀ R' : Ending → World → Prop, (out.on ι (lim st2.nb A) → R' (outEnd ρ ι out) w) → Leaves P fn a.tmps R' [] (u'.den ρ ι) w) → CStep P ρ g args st out st2 := by
              intro out hout
              refine ⟨gg.1.trans h3, fun A ι w hA hr hin => calls_of_wp_defers hf1 hb ?_⟩
              refine gg.2.2 A ι w (initAct fn (args.map (V.den ρ ι)).toArray) (fun id p q => hA id p (Nat.lt_of_lt_of_le q h3.nb)) hr (at_init hin) trivial _ fun ι1 w1 a1 hp1 hat1 he1 => ?_
              refine hpost _ ι1 a1 w1 ?_
              refine h4 A ι1 w1 a1.defers (fun id p q => hA id (Nat.le_trans gg.1.nb p) q) hp1.rep hat1.df (hon _ _ he1) fn a1.tmps _ fun ι2 w2 hp2 hu2 => ?_
              refine hout A ι2 w2 a1 hp2.rep (hat1.slots.move hp2.alike h3.nb) hu2 _ fun ho => ?_
              exact ⟨ι2, rfl, hp1.trans gg.1 h3 hr hp2, ho⟩
            rcases fin_ok hX h2 with ⟨rfl, l, h5, h6⟩ | ⟨cc, rfl, h5⟩
            · refine ⟨.ret (resV l), st2, h5, callFunc_run hX hfn hb, cs _ fun A ι w a hr hs _ R' hR => ?_⟩
              obtain ⟨h7, h8⟩ := h6 A ι w a hr hs
              exact ⟨_, results_run h7, hR (resV_on h8)⟩
            · refine ⟨.pan cc, st2, h5, callFunc_run hX hfn hb, cs _ fun A ι w a hr hs hu R' hR => ?_⟩
              exact hR hu
          cases e with
          | nrm => exact main .retn h1 (fun _ _ _ => trivial) fun _ _ _ _ h => h
          | ret => exact main .retn h1 (fun _ _ _ => trivial) fun _ _ _ _ h => h
          | pan cc => exact main (.pnk cc false) h1 (fun _ _ h => h) fun _ _ _ _ h => h
          | exit i => cases h1
      · cases hk
    · cases hk
theorem callN_succ (X : XC) (d : Nat) : callN X (d + 1) = fun g args st ko => BodyT.run (fnT X g) (callN X d) args st ko := rfl
theorem callN_ok {X : XC} (hX : XOk P X) (hI : IntrOk P ρ R X) (hmix : P.follows .mixedOrders = true) : ∀ d, CallOk P ρ R (callN X d)
  | 0 => fun g args st ko hf hk => by cases hk
  | d + 1 => by
    rw [callN_succ]
    exact fnT_ok hX hI hmix (callN_ok hX hI hmix d)

def noloc : Loc := ⟨fun _ => 0, fun _ => 0, fun _ => default⟩
theorem st0_hp (nx : Nat) (id : Pa) : (st0 nx).hp id = none := Tr.get_e id
/-- A run from nothing. -/
theorem run_ok {X : XC} (hX : XOk P X) (hI : IntrOk P ρ R X) (hmix : P.follows .mixedOrders = true) {d g : Nat} {args : List V} {nx : Nat} (hk : Ok ρ R (run X d g args nx)) (hargs : ∀ x ∈ args, x.bare) (w : World) :
    Calls P g (args.map (V.den ρ noloc)).toArray w fun e _ => ∃ v ι, R v ∧ e = .returned (v.den ρ ι) := by
  have hf : Facts ρ (st0 nx) := ⟨fun x b h => (by cases h), fun id k hk => (by rw [st0_hp] at hk; cases hk)⟩
  obtain ⟨out, st', h1, _, h2⟩ := callN_ok hX hI hmix d g args (st0 nx) topK hf hk
  have h3 := h2.2 (fun _ => True) noloc w (fun _ _ _ => trivial) ⟨fun id k hk => (by rw [st0_hp] at hk; cases hk), fun id k hk => (by rw [st0_hp] at hk; cases hk), fun id k hk => (by rw [st0_hp] at hk; cases hk), fun id id' k k' hk => (by rw [st0_hp] at hk; cases hk)⟩ fun x hx => hargs x hx _ _
  refine h3.mono fun e w' hh => ?_
  obtain ⟨ι', rfl, _, hon⟩ := hh
  cases out with
  | ret v => exact ⟨v, ι', h1, rfl⟩
  | pan c => cases h1
end
end Go.Fx
end

noncomputable section
namespace Go.Fx
set_option linter.unusedSimpArgs false
set_option linter.unusedVariables false
set_option linter.unusedSectionVars false

/-! ### All that a trie holds -/
def Tr.Every {α : Type} (f : Nat → α → Prop) : Tr α → (Nat → Nat) → Prop
  | .e, _ => True
  | .n v c0 c1 c2 c3 c4 c5 c6 c7, k => (match v with | some x => f (k 0) x | none => True) ∧ Tr.Every f c0 (fun n => k (8 * n + 1)) ∧ Tr.Every f c1 (fun n => k (8 * n + 2)) ∧ Tr.Every f c2 (fun n => k (8 * n + 3)) ∧ Tr.Every f c3 (fun n => k (8 * n + 4)) ∧ Tr.Every f c4 (fun n => k (8 * n + 5)) ∧ Tr.Every f c5 (fun n => k (8 * n + 6)) ∧ Tr.Every f c6 (fun n => k (8 * n + 7)) ∧ Tr.Every f c7 (fun n => k (8 * n + 8))
theorem Tr.every_get {α : Type} {f : Nat → α → Prop} : ∀ (p : Pa) {t : Tr α} {k : Nat → Nat}, Tr.Every f t k → ∀ {x : α}, Tr.get p t = some x → f (k p.num) x
  | p, .e, k, h, x, hg => by rw [Tr.get_e] at hg; cases hg
  | .e, .n v c0 c1 c2 c3 c4 c5 c6 c7, k, h, x, hg => by
    have hg : v = some x := hg
    subst hg
    exact h.1
  | .d .d0 p, .n v c0 c1 c2 c3 c4 c5 c6 c7, k, h, x, hg => Tr.every_get p h.2.1 (show Tr.get p c0 = some x from hg)
  | .d .d1 p, .n v c0 c1 c2 c3 c4 c5 c6 c7, k, h, x, hg => Tr.every_get p h.2.2.1 (show Tr.get p c1 = some x from hg)
  | .d .d2 p, .n v c0 c1 c2 c3 c4 c5 c6 c7, k, h, x, hg => Tr.every_get p h.2.2.2.1 (show Tr.get p c2 = some x from hg)
  | .d .d3 p, .n v c0 c1 c2 c3 c4 c5 c6 c7, k, h, x, hg => Tr.every_get p h.2.2.2.2.1 (show Tr.get p c3 = some x from hg)
  | .d .d4 p, .n v c0 c1 c2 c3 c4 c5 c6 c7, k, h, x, hg => Tr.every_get p h.2.2.2.2.2.1 (show Tr.get p c4 = some x from hg)
  | .d .d5 p, .n v c0 c1 c2 c3 c4 c5 c6 c7, k, h, x, hg => Tr.every_get p h.2.2.2.2.2.2.1 (show Tr.get p c5 = some x from hg)
  | .d .d6 p, .n v c0 c1 c2 c3 c4 c5 c6 c7, k, h, x, hg => Tr.every_get p h.2.2.2.2.2.2.2.1 (show Tr.get p c6 = some x from hg)
  | .d .d7 p, .n v c0 c1 c2 c3 c4 c5 c6 c7, k, h, x, hg => Tr.every_get p h.2.2.2.2.2.2.2.2 (show Tr.get p c7 = some x from hg)
theorem Tr.every_at {α : Type} {f : Nat → α → Prop} {t : Tr α} (h : Tr.Every f t fun k => k) {n : Nat} {x : α} (hg : Tr.get (pa n) t = some x) : f n x := by
  have := Tr.every_get (pa n) h hg
  rwa [pa_num] at this
def allT {α : Type} (f : α → Bool) : Tr α → Bool
  | .e => true
  | .n v c0 c1 c2 c3 c4 c5 c6 c7 => (match v with | some x => f x | none => true) && (allT f c0 && (allT f c1 && (allT f c2 && (allT f c3 && (allT f c4 && (allT f c5 && (allT f c6 && (allT f c7))))))))
theorem allT_get {α : Type} {f : α → Bool} : ∀ (p : Pa) {t : Tr α}, allT f t = true → ∀ {x : α}, Tr.get p t = some x → f x = true
  | p, .e, h, x, hg => by rw [Tr.get_e] at hg; cases hg
  | .e, .n v c0 c1 c2 c3 c4 c5 c6 c7, h, x, hg => by
    have hg : v = some x := hg
    subst hg
    simp only [allT, Bool.and_eq_true] at h
    exact h.1
  | .d .d0 p, .n v c0 c1 c2 c3 c4 c5 c6 c7, h, x, hg => by
    simp only [allT, Bool.and_eq_true] at h
    exact allT_get p h.2.1 (show Tr.get p c0 = some x from hg)
  | .d .d1 p, .n v c0 c1 c2 c3 c4 c5 c6 c7, h, x, hg => by
    simp only [allT, Bool.and_eq_true] at h
    exact allT_get p h.2.2.1 (show Tr.get p c1 = some x from hg)
  | .d .d2 p, .n v c0 c1 c2 c3 c4 c5 c6 c7, h, x, hg => by
    simp only [allT, Bool.and_eq_true] at h
    exact allT_get p h.2.2.2.1 (show Tr.get p c2 = some x from hg)
  | .d .d3 p, .n v c0 c1 c2 c3 c4 c5 c6 c7, h, x, hg => by
    simp only [allT, Bool.and_eq_true] at h
    exact allT_get p h.2.2.2.2.1 (show Tr.get p c3 = some x from hg)
  | .d .d4 p, .n v c0 c1 c2 c3 c4 c5 c6 c7, h, x, hg => by
    simp only [allT, Bool.and_eq_true] at h
    exact allT_get p h.2.2.2.2.2.1 (show Tr.get p c4 = some x from hg)
  | .d .d5 p, .n v c0 c1 c2 c3 c4 c5 c6 c7, h, x, hg => by
    simp only [allT, Bool.and_eq_true] at h
    exact allT_get p h.2.2.2.2.2.2.1 (show Tr.get p c5 = some x from hg)
  | .d .d6 p, .n v c0 c1 c2 c3 c4 c5 c6 c7, h, x, hg => by
    simp only [allT, Bool.and_eq_true] at h
    exact allT_get p h.2.2.2.2.2.2.2.1 (show Tr.get p c6 = some x from hg)
  | .d .d7 p, .n v c0 c1 c2 c3 c4 c5 c6 c7, h, x, hg => by
    simp only [allT, Bool.and_eq_true] at h
    exact allT_get p h.2.2.2.2.2.2.2.2 (show Tr.get p c7 = some x from hg)

/-! ### Types -/
def isStruct : TypeDesc → Bool
  | .struct _ => true
  | _ => false
def named : TypeDesc → Bool
  | .struct fs => fs.toList.all fun f => f.name != "_"
  | _ => true
theorem tyAt_mk {P : Program} {t : TypeId} {i u : TypeInfo} {s : Bool} (h1 : P.underlying t = some u.desc) (h2 : P.info? t = some i)
    (h3 : s = true → P.eqGuardType P.depth t = false ∧ (isStruct u.desc = true → P.stoodInHeld t = false) ∧ named u.desc = true) : TyAt P t (tiOf i u s) := by
  refine ⟨h1, ⟨i, h2, rfl, rfl, rfl⟩, fun fs hd => ?_, fun hs => ?_⟩
  · have hd' : u.desc = .struct fs := hd
    simp only [tiOf, fieldsOf, hd']
  · obtain ⟨a, b, c⟩ := h3 hs
    refine ⟨a, fun fs hd => ?_⟩
    have hd' : u.desc = .struct fs := hd
    rw [hd'] at b c
    refine ⟨b rfl, fun f hf => ?_⟩
    have := List.all_eq_true.1 c f (by simpa using hf)
    simpa using this
theorem tyAt_plain {P : Program} {t : TypeId} {i u : TypeInfo} (h1 : P.underlying t = some u.desc) (h2 : P.info? t = some i) : TyAt P t (tiOf i u false) :=
  tyAt_mk h1 h2 fun h => by cases h
theorem tyAt_safe {P : Program} {t : TypeId} {i u : TypeInfo} (h1 : P.underlying t = some u.desc) (h2 : P.info? t = some i) (h3 : P.eqGuardType P.depth t = false) (h4 : P.stoodInHeld t = false)
    (h5 : named u.desc = true) : TyAt P t (tiOf i u true) :=
  tyAt_mk h1 h2 fun _ => ⟨h3, fun _ => h4, h5⟩
theorem tyAt_array {P : Program} {t : TypeId} {i u : TypeInfo} (h1 : P.underlying t = some u.desc) (h2 : P.info? t = some i) (h3 : P.eqGuardType P.depth t = false) (h4 : isStruct u.desc = false)
    (h5 : named u.desc = true) : TyAt P t (tiOf i u true) :=
  tyAt_mk h1 h2 fun _ => ⟨h3, fun h => by (rw [h4] at h; cases h), h5⟩
theorem tysOk_mk {P : Program} {C : Ctx} (h : Tr.Every (TyAt P) C.tys fun k => k) : TysOk P C := fun _ _ hg => Tr.every_at h hg

/-! ### Noughts -/
def eqZ : Value → Value → Bool
  | .bool a, .bool b => a == b
  | .int k a, .int k' b => decide (k = k') && decide (a = b)
  | .string s, .string t => match s, t with
    | ⟨⟨[]⟩⟩, ⟨⟨[]⟩⟩ => true
    | _, _ => false
  | .pointer none, .pointer none => true
  | .slice none 0 0, .slice none 0 0 => true
  | .map none, .map none => true
  | .nilFunc, .nilFunc => true
  | .nilIface, .nilIface => true
  | _, _ => false
theorem eqZ_eq {a b : Value} (h : eqZ a b = true) : a = b := by
  unfold eqZ at h
  split at h
  · simpa using h
  · simpa using h
  · split at h
    · rfl
    · cases h
  all_goals first | rfl | cases h
def eqZs : List Value → List Value → Bool
  | [], [] => true
  | a :: l, b :: m => eqZ a b && eqZs l m
  | _, _ => false
theorem eqZs_eq : ∀ {l m : List Value}, eqZs l m = true → l = m
  | [], [], _ => rfl
  | a :: l, b :: m, h => by
    simp only [eqZs, Bool.and_eq_true] at h
    rw [eqZ_eq h.1, eqZs_eq h.2]
  | [], _ :: _, h => by cases h
  | _ :: _, [], h => by cases h
def isAggV : Value → Bool
  | .agg _ => true
  | _ => false
def zB (i : TI) : Bool :=
  match i.zero with
  | none => true
  | some z => (isAggV z == aggD i.desc) && Nat.beq z.cells.toList.length i.size
def arrB (C : Ctx) (i : TI) : Bool :=
  match i.desc with
  | .array n e =>
    match i.zero with
    | none => true
    | some z =>
      match C.ty e with
      | none => true
      | some j =>
        match j.zero with
        | none => true
        | some y => eqZs z.cells.toList (reps y.cells.toList n []) && Nat.beq i.size (n * j.size)
  | _ => true
theorem shp_self {b : Bool} {z : Value} (h : isAggV z = b) : shp b z.cells.toList = z := by
  subst h
  cases z <;> simp [isAggV, shp, Value.cells]
theorem zOk_mk {C : Ctx} (h : allT zB C.tys = true) (ha : allT (arrB C) C.tys = true) : ZOk C where
  shape := fun t i z hi hz => by
    have := allT_get _ h hi
    unfold zB at this
    rw [hz] at this
    simp only [Bool.and_eq_true, beq_iff_eq] at this
    exact shp_self this.1
  len := fun t i z hi hz => by
    have := allT_get _ h hi
    unfold zB at this
    rw [hz] at this
    simp only [Bool.and_eq_true] at this
    have := Nat.eq_of_beq_eq_true this.2
    simpa using this
  arr := fun t i n e z j y hi hd hz hj hy => by
    have := allT_get _ ha hi
    unfold arrB at this
    rw [hd] at this
    simp only [hz, hj, hy, Bool.and_eq_true] at this
    refine ⟨?_, Nat.eq_of_beq_eq_true this.2⟩
    rw [eqZs_eq this.1, reps_eq, List.append_nil]
theorem fnsOk_mk {P : Program} {C : Ctx} (h : Tr.Every (fun g fn => P.funcs[g]? = some fn ∧ ∀ as w, (callFunc g as).run P w = .ok (.enter g as) w) C.fns fun k => k) :
    ∀ g fn, C.fn g = some fn → P.funcs[g]? = some fn ∧ ∀ as w, (callFunc g as).run P w = .ok (.enter g as) w := fun _ _ hg => Tr.every_at h hg

/-! ### A run, and what lay before -/
section
variable {P : Program} {ρ : Env} {R : V → Prop}
theorem run_below {X : XC} (hX : XOk P X) (hI : IntrOk P ρ R X) (hmix : P.follows .mixedOrders = true) {d g : Nat} {args : List V} {nx : Nat} (hk : Ok ρ R (run X d g args nx)) (hargs : ∀ x ∈ args, x.bare) (w : World) :
    Calls P g (args.map (V.den ρ noloc)).toArray w fun e w' => (∃ v ι, R v ∧ e = .returned (v.den ρ ι)) ∧ RowKit.Below w.heap.size w w' := by
  have hf : Facts ρ (st0 nx) := ⟨fun x b h => (by cases h), fun id k hk => (by rw [st0_hp] at hk; cases hk)⟩
  obtain ⟨out, st', h1, _, h2⟩ := callN_ok hX hI hmix d g args (st0 nx) topK hf hk
  have h3 := h2.2 (fun _ => True) noloc w (fun _ _ _ => trivial) ⟨fun id k hk => (by rw [st0_hp] at hk; cases hk), fun id k hk => (by rw [st0_hp] at hk; cases hk), fun id k hk => (by rw [st0_hp] at hk; cases hk), fun id id' k k' hk => (by rw [st0_hp] at hk; cases hk)⟩ fun x hx => hargs x hx _ _
  refine h3.mono fun e w' hh => ?_
  obtain ⟨ι', rfl, hp, hon⟩ := hh
  refine ⟨?_, hp.os, hp.tape, hp.output, hp.size, fun b hb => hp.same b hb fun id k hk => (by rw [st0_hp] at hk; cases hk)⟩
  cases out with
  | ret v => exact ⟨v, ι', h1, rfl⟩
  | pan c => cases h1
end
end Go.Fx
end

noncomputable section
namespace Go.Fx
set_option linter.unusedSimpArgs false
set_option linter.unusedVariables false
set_option linter.unusedSectionVars false

section
variable {P : Program} {ρ : Env} {R : V → Prop}
theorem rep_below {ι : Loc} {A : Pa → Prop} {H : Pa → Option Blk} {nb : Pa} {w w' : World} (h : Rep P ρ ι A H nb w) (hb : RowKit.Below w.heap.size w w') : Rep P ρ ι A H nb w' where
  lt := h.lt
  blk := fun id k hk => by
    rw [hb.block _ (h.size hk)]
    exact h.blk id k hk
  on := h.on
  inj := h.inj
theorem post_below {ι : Loc} {A : Pa → Prop} {st : St} {w w' : World} (h : Rep P ρ ι A st.hp st.nb w) (hb : RowKit.Below w.heap.size w w') : Post P ρ ι A st w ι st w' where
  alike := .refl _ _
  rep := rep_below h hb
  os := hb.os
  tape := hb.tape
  output := hb.output
  size := hb.size
  same := fun b hlt _ => hb.block b hlt
  kept := fun _ _ id k hk _ => hb.block _ (h.size hk)
  fresh := fun _ h1 h2 => absurd h1 (Nat.not_le_of_lt h2)
/-- a call that makes a plain value and leaves all that lay there as it was -/
theorem cstep_below {g : Nat} {args : List V} {v : V} {st : St} (hv : v.bare) (h : ∀ ι w, Calls P g (args.map (V.den ρ ι)).toArray w fun e w' => e = .returned (v.den ρ ι) ∧ RowKit.Below w.heap.size w w') : CStep P ρ g args st (.ret v) st :=
  ⟨.refl _ _, fun A ι w _ hr _ => (h ι w).mono fun e w' hh => ⟨ι, hh.1, post_below hr hh.2, hv _ _⟩⟩
end

/-! ### Plain values that are the same -/
def eqCB : C → C → Bool
  | .u8 a, .u8 b => Nat.beq a b
  | .u32 a, .u32 b => Nat.beq a b
  | .u64 a, .u64 b => Nat.beq a b
  | .i64 a, .i64 b => decide (a = b)
  | .i32 a, .i32 b => decide (a = b)
  | .bool a, .bool b => a == b
  | _, _ => false
theorem eqCB_eq {a b : C} (h : eqCB a b = true) : a = b := by
  unfold eqCB at h
  split at h <;> first | (cases h; done) | (have := Nat.eq_of_beq_eq_true h; subst this; rfl) | (have := of_decide_eq_true h; subst this; rfl) | (have := eq_of_beq h; subst this; rfl)
def eqLB : List C → List C → Bool
  | [], [] => true
  | a :: l, b :: m => eqCB a b && eqLB l m
  | _, _ => false
theorem eqLB_eq : ∀ {l m : List C}, eqLB l m = true → l = m
  | [], [], _ => rfl
  | a :: l, b :: m, h => by
    simp only [eqLB, Bool.and_eq_true] at h
    rw [eqCB_eq h.1, eqLB_eq h.2]
  | [], _ :: _, h => by cases h
  | _ :: _, [], h => by cases h

def bareB : C → Bool
  | .u8 n => Nat.blt n M8
  | .u32 n => Nat.blt n M32
  | .u64 n => Nat.blt n M64
  | .i64 n => inS M63 n
  | .i32 n => inS M31 n
  | .bool _ => true
  | _ => false
theorem inS_range {m : Nat} {n : Int} (h : inS m n = true) : -(m : Int) ≤ n ∧ n < m := by
  unfold inS at h
  cases n with
  | ofNat a =>
    have h : Nat.blt a m = true := h
    rw [Nat.blt_eq] at h
    show -(m : Int) ≤ (a : Int) ∧ (a : Int) < m
    omega
  | negSucc a =>
    have h : Nat.blt a m = true := h
    rw [Nat.blt_eq] at h
    rw [Int.negSucc_eq]
    omega
theorem bareB_bare {c : C} (h : bareB c = true) : c.bare := by
  intro ι A
  unfold bareB at h
  split at h
  · rw [Nat.blt_eq] at h; exact h
  · rw [Nat.blt_eq] at h; exact h
  · rw [Nat.blt_eq] at h; exact h
  · exact inS_range h
  · exact inS_range h
  · trivial
  · cases h

/-! ### Words of the host that were read -/
def decV (x : Nat) : V :=
  match decW x with
  | some l => .t [.a l, .c (.bool true)]
  | none => .t [.a [.i64 0, .i64 0, .i64 0, .i64 0, .i32 0], .c (.bool false)]
def isDec (v u : V) : Bool :=
  match v, u with
  | .t [.a l, .c b], .t [.a m, .c d] => eqLB l m && eqCB b d
  | _, _ => false
theorem isDec_eq {v u : V} (h : isDec v u = true) : v = u := by
  unfold isDec at h
  split at h
  · simp only [Bool.and_eq_true] at h
    rw [eqLB_eq h.1, eqCB_eq h.2]
  · cases h
def decB (x : Nat) : Bool := match decW x with | some l => l.all bareB | none => true
theorem decV_bare {x : Nat} (h : decB x = true) : (decV x).bare := by
  unfold decB at h
  unfold decV
  split
  · rename_i l hl
    simp only [hl] at h
    intro ι A y hy
    simp only [List.mem_cons, List.not_mem_nil, or_false] at hy
    rcases hy with rfl | rfl
    · exact fun c hc => bareB_bare (List.all_eq_true.1 h c hc) ι A
    · intro c hc
      simp only [W.cells, List.mem_cons, List.not_mem_nil, or_false] at hc
      subst hc
      trivial
  · intro ι A y hy
    simp only [List.mem_cons, List.not_mem_nil, or_false] at hy
    rcases hy with rfl | rfl
    · exact fun c hc => bareB_bare (List.all_eq_true.1 (show ([.i64 0, .i64 0, .i64 0, .i64 0, .i32 0] : List C).all bareB = true by decide) c hc) ι A
    · intro c hc
      simp only [W.cells, List.mem_cons, List.not_mem_nil, or_false] at hc
      subst hc
      trivial
/-- run: reading a word gives what decW says -/
def decChk (X : XC) (dec x : Nat) : Bool :=
  Nat.blt x M32 && decB x && (match run X 90 dec [.c (.u32 x)] 0 with
  | .ret v => isDec v (decV x)
  | _ => false)
/-- the words of a list, each at its place -/
def setOf (l : List Nat) : Tr Bool := List.rec (motive := fun _ => Tr Bool) .e (fun h _ ih => Tr.set (pa h) true ih) l
theorem setOf_mem : ∀ {l : List Nat} {x : Nat} {b : Bool}, Tr.get (pa x) (setOf l) = some b → x ∈ l
  | [], x, b, h => by
    have h : Tr.get (pa x) (Tr.e : Tr Bool) = some b := h
    rw [Tr.get_e] at h; cases h
  | a :: l, x, b, h => by
    have h : Tr.get (pa x) (Tr.set (pa a) true (setOf l)) = some b := h
    rw [Tr.get_set] at h
    split at h
    · rename_i e
      rw [pa_inj e]; exact List.mem_cons_self ..
    · exact List.mem_cons_of_mem _ (setOf_mem h)
def decM (s : Tr Bool) (args : List V) (st : St) (ko : KO) : Ans :=
  match args with
  | [.c (.u32 x)] => (match Tr.get (pa x) s with
    | some _ => (match decW x with
      | some l => ko (.ret (.t [.a l, .c (.bool true)])) st
      | none => ko (.ret (.t [.a [.i64 0, .i64 0, .i64 0, .i64 0, .i32 0], .c (.bool false)])) st)
    | none => .stop 312 "")
  | _ => .stop 310 ""
def encChk (X : XC) (enc x : Nat) : Bool :=
  match decW x with
  | some l => (match run X 90 enc [.a l] 0 with
    | .ret (.t [.c (.u32 y), .c (.i64 e)]) => Nat.beq y x && decide (e = 0)
    | _ => false) && Nat.blt x M32 && l.all bareB
  | none => false
def encM (s : Tr Bool) (args : List V) (st : St) (ko : KO) : Ans :=
  match args with
  | [.a [.i64 (.ofNat op), .i64 (.ofNat rd), .i64 (.ofNat r1), .i64 (.ofNat r2), .i32 n]] => (match encW op rd r1 r2 n with
    | some x => (match Tr.get (pa x) s with
      | some _ => (match decW x with
        | some l => bif eqLB l [.i64 (.ofNat op), .i64 (.ofNat rd), .i64 (.ofNat r1), .i64 (.ofNat r2), .i32 n] then ko (.ret (.t [.c (.u32 x), .c (.i64 (.ofNat 0))])) st else .stop 313 ""
        | none => .stop 314 "")
      | none => .stop 315 "")
    | none => .stop 316 "")
  | _ => .stop 311 ""
/-- a truth that was found once -/
def sureI (args : List V) (st : St) (ko : KO) : Ans :=
  match args with
  | [] => ko (.ret (.c (.bool true))) st
  | _ => .stop 317 ""
def sureChk (X : XC) (g : Nat) : Bool :=
  match run X 90 g [] 0 with
  | .ret (.c (.bool b)) => b
  | _ => false

/-! ### They do what their functions do -/
section
variable (P : Program) (ρ : Env) (R : V → Prop)
def IntrAt (g : Nat) (i : IntrT) : Prop := ∀ args st ko, Facts ρ st → Ok ρ R (IntrT.run i args st ko) → ∃ out st', Ok ρ R (ko out st') ∧ (∀ as w, (callFunc g as).run P w = .ok (.enter g as) w) ∧ CStep P ρ g args st out st'
def IntrAll (t : Tr IntrT) : Prop := ∀ g i, Tr.get (pa g) t = some i → IntrAt P ρ R g i
end
section
variable {P : Program} {ρ : Env} {R : V → Prop}
theorem intrOk_mk {X : XC} (h : IntrAll P ρ R X.intr) : IntrOk P ρ R X := fun g i hi => h g i hi
theorem intrAll_e : IntrAll P ρ R .e := fun g i hi => by rw [Tr.get_e] at hi; cases hi
theorem IntrAll.set {t : Tr IntrT} (h : IntrAll P ρ R t) {g : Nat} {i : IntrT} (hi : IntrAt P ρ R g i) : IntrAll P ρ R (Tr.set (pa g) i t) := fun f j hf => by
  rw [Tr.get_set] at hf
  split at hf
  · rename_i e
    cases hf
    rw [pa_inj e]; exact hi
  · exact h f j hf
variable {X : XC}
theorem ok_ret {v : V} {a : Ans} (h : a = .ret v) : Ok ρ (fun u => u = v) a := by
  subst h
  exact (rfl : v = v)
/-- a run that gives a plain value -/
theorem calls_ret (hX : XOk P X) (hI : X.intr = .e) (hmix : P.follows .mixedOrders = true) {d g : Nat} {args : List V} {v : V} (hk : run X d g args 0 = .ret v) (hargs : ∀ x ∈ args, x.bare) (ρ : Env) (w : World) :
    Calls P g (args.map (V.den ρ noloc)).toArray w fun e w' => (∃ ι, e = .returned (v.den ρ ι)) ∧ RowKit.Below w.heap.size w w' := by
  have hIn : IntrOk P ρ (fun u => u = v) X := intrOk_mk (by rw [hI]; exact intrAll_e)
  exact (run_below hX hIn hmix (ok_ret hk) hargs w).mono fun e w' hh => ⟨by obtain ⟨_, ι, rfl, he⟩ := hh.1; exact ⟨ι, he⟩, hh.2⟩
theorem decW_den (l : List C) (h : l.all bareB = true) (ρ : Env) (ι ι' : Loc) : l.map (C.den ρ ι) = l.map (C.den ρ ι') := by
  refine List.map_congr_left fun c hc => ?_
  have := List.all_eq_true.1 h c hc
  cases c <;> first | rfl | cases this
theorem decV_den {x : Nat} (h : decB x = true) (ρ : Env) (ι ι' : Loc) : (decV x).den ρ ι = (decV x).den ρ ι' := by
  unfold decB at h
  unfold decV
  split
  · rename_i l hl
    simp only [hl] at h
    simp only [V.den, List.map_cons, List.map_nil, W.den, C.den, decW_den l h ρ ι ι']
  · rfl
theorem decM_at (hX : XOk P X) (hI : X.intr = .e) (hmix : P.follows .mixedOrders = true) {dec : Nat} (hen : ∀ as w, (callFunc dec as).run P w = .ok (.enter dec as) w) {l : List Nat} (h : l.all (decChk X dec) = true) : IntrAt P ρ R dec ⟨decM (setOf l)⟩ := by
  intro args st ko hf hk
  replace hk : Ok ρ R (decM (setOf l) args st ko) := hk
  unfold decM at hk
  split at hk
  · rename_i x
    split at hk
    · rename_i b hb
      have hc := List.all_eq_true.1 h x (setOf_mem hb)
      unfold decChk at hc
      simp only [Bool.and_eq_true] at hc
      obtain ⟨⟨h1, h2⟩, h3⟩ := hc
      rw [Nat.blt_eq] at h1
      split at h3
      · rename_i v hv
        have hvd := isDec_eq h3
        subst hvd
        have key : CStep P ρ dec [.c (.u32 x)] st (.ret (decV x)) st := by
          refine cstep_below (decV_bare h2) fun ι w => ?_
          refine (calls_ret hX hI hmix hv (fun y hy => (by simp only [List.mem_cons, List.not_mem_nil, or_false] at hy; subst hy; exact fun ι A => h1)) ρ w).mono fun e w' hh => ⟨?_, hh.2⟩
          obtain ⟨ι', he⟩ := hh.1
          rw [he, decV_den h2 ρ ι' ι]
        split at hk
        · rename_i m hm
          refine ⟨_, st, hk, hen, ?_⟩
          have := key
          unfold decV at this
          rw [hm] at this
          exact this
        · rename_i hm
          refine ⟨_, st, hk, hen, ?_⟩
          have := key
          unfold decV at this
          rw [hm] at this
          exact this
      · cases h3
    · cases hk
  · cases hk
theorem encM_at (hX : XOk P X) (hI : X.intr = .e) (hmix : P.follows .mixedOrders = true) {enc : Nat} (hen : ∀ as w, (callFunc enc as).run P w = .ok (.enter enc as) w) {l : List Nat} (h : l.all (encChk X enc) = true) : IntrAt P ρ R enc ⟨encM (setOf l)⟩ := by
  intro args st ko hf hk
  replace hk : Ok ρ R (encM (setOf l) args st ko) := hk
  unfold encM at hk
  split at hk
  · rename_i op rd r1 r2 n
    split at hk
    · rename_i x hx
      split at hk
      · rename_i b hb
        have hc := List.all_eq_true.1 h x (setOf_mem hb)
        unfold encChk at hc
        split at hk
        · rename_i m hm
          rw [hm] at hc
          simp only [Bool.and_eq_true] at hc
          obtain ⟨⟨h1, h2⟩, h3⟩ := hc
          rw [Nat.blt_eq] at h2
          rw [bif_eq] at hk
          split at hk
          · rename_i he
            have he := eqLB_eq he
            subst he
            split at h1
            · rename_i y e0 hv
              simp only [Bool.and_eq_true, decide_eq_true_eq] at h1
              have e1 := Nat.eq_of_beq_eq_true h1.1
              have e2 := h1.2
              subst e1
              subst e2
              refine ⟨_, st, hk, hen, ?_⟩
              refine cstep_below (fun ι A z hz => ?_) fun ι w => ?_
              · simp only [List.mem_cons, List.not_mem_nil, or_false] at hz
                rcases hz with rfl | rfl
                · intro c hc
                  simp only [W.cells, List.mem_cons, List.not_mem_nil, or_false] at hc
                  subst hc
                  exact h2
                · intro c hc
                  simp only [W.cells, List.mem_cons, List.not_mem_nil, or_false] at hc
                  subst hc
                  exact bareB_bare (by decide) ι A
              · refine (calls_ret hX hI hmix hv (fun y hy => (by
                  simp only [List.mem_cons, List.not_mem_nil, or_false] at hy
                  subst hy
                  exact fun ι A c hc => bareB_bare (List.all_eq_true.1 h3 c hc) ι A)) ρ w).mono fun e w' hh => ⟨?_, hh.2⟩
                obtain ⟨ι', he⟩ := hh.1
                exact he
            · cases h1
          · cases hk
        · cases hk
      · cases hk
    · cases hk
  · cases hk
/-- it is true -/
def isT (v : V) : Prop := v = .c (.bool true)
theorem sureI_at (hX : XOk P X) (hI : IntrAll P ρ isT X.intr) (hmix : P.follows .mixedOrders = true) {g : Nat} (hen : ∀ as w, (callFunc g as).run P w = .ok (.enter g as) w)
    (h : Ok ρ isT (run X 90 g [] 0)) : IntrAt P ρ R g ⟨sureI⟩ := by
  intro args st ko hf hk
  replace hk : Ok ρ R (sureI args st ko) := hk
  unfold sureI at hk
  split at hk
  · refine ⟨_, st, hk, hen, cstep_below (fun _ _ => trivial) fun ι w => ?_⟩
    refine (run_below hX (intrOk_mk hI) hmix h (fun x hx => by cases hx) w).mono fun e w' hh => ⟨?_, hh.2⟩
    obtain ⟨_, ι', rfl, he⟩ := hh.1
    exact he
  · cases hk
end
end Go.Fx
end

noncomputable section
namespace Go.Fx
set_option linter.unusedSimpArgs false
set_option linter.unusedVariables false
set_option linter.unusedSectionVars false

theorem insN_cons (x h : Nat) (t : List Nat) : insN x (h :: t) = if x ≤ h then x :: h :: t else h :: insN x t := by
  show (bif Nat.ble x h then x :: h :: t else h :: insN x t) = _
  cases hb : Nat.ble x h
  · have : ¬ x ≤ h := fun hle => by
      have h2 : Nat.ble x h = true := by rw [Nat.ble_eq]; exact hle
      rw [h2] at hb; cases hb
    simp [this]
  · have : x ≤ h := nle hb
    simp [this]
theorem insN_perm (x : Nat) : ∀ l : List Nat, (insN x l).Perm (x :: l)
  | [] => .refl _
  | h :: t => by
    rw [insN_cons]
    split
    · exact .refl _
    · exact ((insN_perm x t).cons h).trans (.swap x h t)
theorem sortN_cons (h : Nat) (t : List Nat) : sortN (h :: t) = insN h (sortN t) := rfl
theorem sortN_perm : ∀ l : List Nat, (sortN l).Perm l
  | [] => .refl _
  | h :: t => by
    rw [sortN_cons]
    exact (insN_perm h (sortN t)).trans ((sortN_perm t).cons h)
theorem insN_pairwise (x : Nat) : ∀ l : List Nat, l.Pairwise (· ≤ ·) → (insN x l).Pairwise (· ≤ ·)
  | [], _ => .cons (fun y hy => by cases hy) .nil
  | h :: t, hp => by
    obtain ⟨h1, h2⟩ := List.pairwise_cons.1 hp
    rw [insN_cons]
    split
    · rename_i hx
      refine List.pairwise_cons.2 ⟨fun y hy => ?_, hp⟩
      rcases List.mem_cons.1 hy with rfl | hy
      · exact hx
      · exact Nat.le_trans hx (h1 y hy)
    · rename_i hx
      refine List.pairwise_cons.2 ⟨fun y hy => ?_, insN_pairwise x t h2⟩
      rcases List.mem_cons.1 ((insN_perm x t).mem_iff.1 hy) with rfl | hy
      · omega
      · exact h1 y hy
theorem sortN_pairwise : ∀ l : List Nat, (sortN l).Pairwise (· ≤ ·)
  | [] => .nil
  | h :: t => by
    rw [sortN_cons]
    exact insN_pairwise h _ (sortN_pairwise t)
theorem incN_cons (h : Nat) (t : List Nat) (p : Nat) : incN (h :: t) p = (Nat.ble p h && incN t (h + 1)) := rfl
theorem incN_le : ∀ {l : List Nat} {p : Nat}, incN l p = true → ∀ x ∈ l, p ≤ x
  | [], _, _, x, hx => by cases hx
  | h :: t, p, hi, x, hx => by
    rw [incN_cons, Bool.and_eq_true] at hi
    have h1 : p ≤ h := nle hi.1
    rcases List.mem_cons.1 hx with rfl | hx
    · exact h1
    · have := incN_le hi.2 x hx; omega
theorem incN_pairwise : ∀ {l : List Nat} {p : Nat}, incN l p = true → l.Pairwise (· < ·)
  | [], _, _ => .nil
  | h :: t, p, hi => by
    rw [incN_cons, Bool.and_eq_true] at hi
    exact .cons (fun x hx => (by have := incN_le hi.2 x hx; omega)) (incN_pairwise hi.2)

def encN (n : Nat) : Value := .int .u32 n
/-- what slices.Sorted gives of the keys of a map -/
def SortOk (P : Program) (g keys1 e : Nat) : Prop := P.cellsOf e = 1 ∧ (∀ as w, (callFunc g as).run P w = .ok (.enter g as) w) ∧
  ∀ (B b clock : Nat) (ents : List MapEntry) (ks : List Nat) (w : World), (∀ k ∈ ks, k < M32) → ks.Nodup → ks.length ≤ 12 → w.cell? ⟨B, 0, none⟩ = some (.map (some b)) → w.heap[b]? = some (.map ents.toArray clock) →
    ents.map (·.key) = ks.map encN → (∀ x ∈ ents, x.born < clock) → (ents.map (·.born)).Nodup →
    Calls P g #[.func (.func keys1) #[] #[.pointer (some ⟨B, 0, none⟩)]] w fun r w' => RowKit.Below w.heap.size w w' ∧
      ((ks = [] ∧ r = .returned (.slice none 0 0)) ∨ ∃ q cap cur, ks ≠ [] ∧ r = .returned (.slice (some ⟨q, 0, none⟩) ks.length cap) ∧ w.heap.size ≤ q ∧ w'.heap[q]? = some (.cells cur e (0, 0)) ∧ ks.length ≤ cap ∧ cur.size = cap ∧
        cur.toList.take ks.length = (sortN ks).map encN)

section
variable {P : Program} {ρ : Env} {R : V → Prop}
theorem keyU_some {e : W × W} {n : Nat} (h : keyU e = some n) : e.1 = .c (.u32 n) := by
  unfold keyU at h
  split at h
  · rename_i m hm
    cases h
    exact hm
  · cases h
theorem keyU_den {es : List (W × W)} {ks : List Nat} (h : mapM keyU es = some ks) (ρ : Env) (ι : Loc) : es.map (fun e => e.1.den ρ ι) = ks.map encN :=
  (mapM_map (g := fun e => W.den ρ ι e.1) (g' := encN) h fun a b hb => by rw [keyU_some hb]; rfl).symm
theorem sortedI_at {g keys1 e : Nat} (hs : SortOk P g keys1 e) : IntrAt P ρ R g ⟨sortedI keys1 e⟩ := by
  obtain ⟨he, hen, hs⟩ := hs
  intro args st ko hf hk
  replace hk : Ok ρ R (sortedI keys1 e args st ko) := hk
  unfold sortedI at hk
  split at hk
  · rename_i q b
    rw [bif_eq] at hk
    split at hk
    · rename_i hq
      have hq := Nat.eq_of_beq_eq_true hq
      subst hq
      split at hk
      · rename_i B hB
        split at hk
        · rename_i m hm
          split at hk
          · rename_i es hes
            have go : ∀ ks, mapM keyU es = some ks → (∀ k ∈ ks, k < M32) → ks.Nodup → ks.length ≤ 12 → ∀ (out : Out) (st' : St), Le ρ st st' →
                (∀ A ι w, (∀ id : Pa, st.nb.num ≤ id.num → id.num < st'.nb.num → A id) → Rep P ρ ι A st.hp st.nb w → ∀ r w', RowKit.Below w.heap.size w w' ∧
                  ((ks = [] ∧ r = .returned (.slice none 0 0)) ∨ ∃ q cap cur, ks ≠ [] ∧ r = .returned (.slice (some ⟨q, 0, none⟩) ks.length cap) ∧ w.heap.size ≤ q ∧ w'.heap[q]? = some (.cells cur e (0, 0)) ∧ ks.length ≤ cap ∧ cur.size = cap ∧
                    cur.toList.take ks.length = (sortN ks).map encN) → ∃ ι', r = outEnd ρ ι' out ∧ Post P ρ ι A st w ι' st' w' ∧ out.on ι' (lim st'.nb A)) → CStep P ρ g [.c (.clo q [(b, 0)])] st out st' := by
              intro ks hks h1 h2 h3 out st' hle hout
              refine ⟨hle, fun A ι w hA hr hin => ?_⟩
              obtain ⟨c1, _⟩ := hr.load1 hB hm
              obtain ⟨ents, clock, hh, hm2⟩ := hr.blk m (.mp es) hes
              have hkeys : ents.map (·.key) = ks.map encN := hm2.keys.trans (keyU_den hks ρ ι)
              exact (hs (ι.blk b) (ι.blk m) clock ents ks w h1 h2 h3 c1 hh hkeys hm2.born hm2.nodup).mono fun r w' hh => hout A ι w hA hr r w' hh
            split at hk
            · rename_i hks
              refine ⟨_, st, hk, hen, go [] hks (fun k hk => by cases hk) .nil (by simp) _ st (.refl _ _) fun A ι w hA hr r w' hh => ?_⟩
              obtain ⟨hb, hh⟩ := hh
              rcases hh with ⟨_, rfl⟩ | ⟨q, cap, cur, hn, _⟩
              · exact ⟨ι, rfl, post_below hr hb, trivial⟩
              · exact (hn rfl).elim
            · rename_i ks hne hks
              obtain ⟨hc, hk⟩ := ok_bif hk
              simp only [Bool.and_eq_true] at hc
              obtain ⟨⟨h3, h2⟩, h1⟩ := hc
              have h3 : ks.length ≤ 12 := by rw [len_eq] at h3; exact nle h3
              have h1 : ∀ k ∈ ks, k < M32 := fun k hk => by
                rw [allL_eq] at h1
                have := List.all_eq_true.1 h1 k hk
                rwa [Nat.blt_eq] at this
              have h2 : ks.Nodup := (sortN_perm ks).nodup_iff.1 ((incN_pairwise h2).imp fun h => Nat.ne_of_lt h)
              have hne : ks ≠ [] := fun e => hne e
              refine ⟨_, _, hk, hen, go ks hks h1 h2 h3 _ _ newBlk_le fun A ι w hA hr r w' hh => ?_⟩
              obtain ⟨hb, hh⟩ := hh
              rcases hh with ⟨h0, _⟩ | ⟨q, cap, cur, _, rfl, hq, hheap, hcap, hsz, hcur⟩
              · exact (hne h0).elim
              have hA' : A st.nb := hA st.nb (Nat.le_refl _) (by show st.nb.num < st.nb.succ.num; rw [Pa.num_succ]; omega)
              have hl : (mp (fun n => C.u32 n) (sortN ks)).length = len ks := by rw [mp_eq, List.length_map, (sortN_perm ks).length_eq, len_eq]
              obtain ⟨b1, b2, b3, b4, b5, b6⟩ := layB_is (e := e) (esz := 1) hl true
              have b6' : ∀ k, k < (layB e 1 (len ks) (mp (fun n => C.u32 n) (sortN ks)) true).size → (layB e 1 (len ks) (mp (fun n => C.u32 n) (sortN ks)) true).at k = (mp (fun n => C.u32 n) (sortN ks)).getD k undefC := fun k hk => b6 k (by rw [← b5]; exact hk)
              have hbare : ∀ c ∈ mp (fun n => C.u32 n) (sortN ks), c.bare := fun c hc => by
                rw [mp_eq] at hc
                obtain ⟨n, hn, rfl⟩ := List.mem_map.1 hc
                exact fun ι A => h1 n ((sortN_perm ks).mem_iff.1 hn)
              have hcells : ∀ ι', (layB e 1 (len ks) (mp (fun n => C.u32 n) (sortN ks)) true).cells ρ ι' = (sortN ks).map encN := fun ι' => by
                rw [list_cells (by rw [b5, hl]) b6', mp_eq, List.map_map]
                rfl
              have hnb : (newBlk (layB e 1 (len ks) (mp (fun n => C.u32 n) (sortN ks)) true) st).nb.num = st.nb.num + 1 := Pa.num_succ _
              have hls : (sortN ks).length = ks.length := (sortN_perm ks).length_eq
              refine ⟨ι.set st.nb q cap default, ?_, ?_, ?_⟩
              · simp [outEnd, V.den, C.den, Loc.set, len_eq]
              · refine post_gen hr (l := []) (fun id => id = st.nb) rfl Loc.set_alike (by omega) (fun id h => by cases h) (fun id k hk => ?_) (fun id id' h h' _ => h.trans h'.symm) hb.os hb.tape hb.output hb.size (fun j hj _ => hb.block j hj) (fun id h1 h2 => ?_)
                · rw [hp_newBlk] at hk
                  split at hk
                  · rename_i e'
                    simp only [Option.some.injEq] at hk
                    subst hk; subst e'
                    refine .inr ⟨rfl, by omega, hA', ?_, list_on b1 (by rw [b5, hl]) b6' (fun c hc => hbare c hc _ _), .inl (by simp [Loc.set]; exact hq)⟩
                    have e1 : (ι.set st.nb q cap default).blk st.nb = q := by simp [Loc.set]
                    rw [e1, hheap]
                    refine .of_cells b1 ⟨b2, cur.toList.drop ks.length, (0, 0), ?_, .inl rfl, (fun h => by rw [b3] at h; cases h), fun _ => ?_⟩
                    · rw [hcells, ← hcur, List.take_append_drop, b4]
                    · rw [b5, b4, he, len_eq, List.length_drop]
                      have : cur.toList.length = cap := by simpa using hsz
                      simp only [Loc.set, if_true]
                      omega
                  · rename_i e'
                    exact .inl ⟨e', by simp, hk⟩
                · have : id = st.nb := Pa.num_inj (by omega)
                  subst this
                  exact .inl (by simp [Loc.set]; exact hq)
              · show lim _ A st.nb ∧ 0 + len ks ≤ (ι.set st.nb q cap default).cap st.nb
                refine ⟨⟨by omega, hA'⟩, ?_⟩
                simp only [Loc.set, if_true, len_eq]
                omega
            · cases hk
          · cases hk
        · cases hk
      · cases hk
    · cases hk
  · cases hk
end
end Go.Fx
end

noncomputable section
namespace Go.Fx
set_option linter.unusedSimpArgs false
set_option linter.unusedVariables false
set_option linter.unusedSectionVars false

theorem rev_eq {α : Type} : ∀ (l m : List α), rev l m = l.reverse ++ m
  | [], m => rfl
  | a :: l, m => by
    show rev l (a :: m) = _
    rw [rev_eq l (a :: m)]
    simp
/-- what a way has met: what was set, on which truths and numbers it hung, what came out -/
structure Met where
  evs : List Ev
  dec : List (SE × Bool)
  num : List (SE × Int)
  out : V
/-- nothing was left over -/
def allGood (a : Ans) : Bool :=
  Ans.rec (motive := fun _ => Bool) (fun _ _ => false) (fun _ => false) true (fun _ _ _ => false) (fun _ _ _ _ _ => false) (fun _ _ _ _ _ _ => false) (fun _ _ ia ib => ia && ib) a
theorem allGood_ok {ρ : Env} {R : V → Prop} : ∀ (a : Ans), allGood a = true → Ok ρ R a
  | .stop _ _, h => by cases h
  | .ret _, h => by cases h
  | .good, _ => trivial
  | .ev _ _, h => by cases h
  | .fork _ _ _, h => by cases h
  | .caseI _ _ _ _, h => by cases h
  | .both a b, h => by
    have h : (allGood a && allGood b) = true := h
    rw [Bool.and_eq_true] at h
    exact ⟨allGood_ok a h.1, allGood_ok b h.2⟩
abbrev Fol : Type := List Bool → List Ev → List (SE × Bool) → List (SE × Int) → Option Met
def metOf (a : Ans) : Fol :=
  Ans.rec (motive := fun _ => Fol)
    (fun _ _ _ _ _ _ => none)
    (fun v _ es dd ii => some ⟨rev es [], rev dd [], rev ii [], v⟩)
    (fun _ _ _ _ => none)
    (fun e _ ih ds es dd ii => ih ds (e :: es) dd ii)
    (fun x _ _ it jf ds es dd ii => List.rec (motive := fun _ => Option Met) none (fun d ds _ => Bool.rec (motive := fun _ => Option Met) (jf ds es ((x, false) :: dd) ii) (it ds es ((x, true) :: dd) ii) d) ds)
    (fun x n _ _ it _ ds es dd ii => it ds es dd ((x, n) :: ii))
    (fun a _ _ jf ds es dd ii => Bool.rec (motive := fun _ => Option Met) none (jf ds es dd ii) (allGood a)) a
/-- all that a way has met is so -/
structure Met.ok (ρ : Env) (R : V → Prop) (r : Met) : Prop where
  evs : ∀ e ∈ r.evs, e.ok ρ
  dec : ∀ x b, (x, b) ∈ r.dec → ρ.b x = b
  num : ∀ x n, (x, n) ∈ r.num → ρ.i x = n
  out : R r.out
theorem metOf_ok {ρ : Env} {R : V → Prop} : ∀ (a : Ans) {ds : List Bool} {es : List Ev} {dd : List (SE × Bool)} {ii : List (SE × Int)} {r : Met}, metOf a ds es dd ii = some r → r.ok ρ R →
    Ok ρ R a ∧ (∀ e ∈ es, e ∈ r.evs) ∧ (∀ p ∈ dd, p ∈ r.dec) ∧ (∀ p ∈ ii, p ∈ r.num)
  | .stop _ _, _, _, _, _, _, h, _ => by cases h
  | .ret v, ds, es, dd, ii, r, h, hr => by
    have h : some (Met.mk (rev es []) (rev dd []) (rev ii []) v) = some r := h
    cases h
    exact ⟨hr.out, (fun e m => by show e ∈ rev es []; rw [rev_eq]; simpa using m), (fun p m => by show p ∈ rev dd []; rw [rev_eq]; simpa using m), (fun p m => by show p ∈ rev ii []; rw [rev_eq]; simpa using m)⟩
  | .good, _, _, _, _, _, h, _ => by cases h
  | .ev e a, ds, es, dd, ii, r, h, hr => by
    obtain ⟨h1, h2, h3⟩ := metOf_ok a (show metOf a ds (e :: es) dd ii = some r from h) hr
    exact ⟨⟨hr.evs e (h2 e (List.mem_cons_self ..)), h1⟩, fun x m => h2 x (List.mem_cons_of_mem _ m), h3⟩
  | .fork x a b, [], es, dd, ii, r, h, hr => by cases h
  | .fork x a b, true :: ds, es, dd, ii, r, h, hr => by
    obtain ⟨h1, h2, h3, h4⟩ := metOf_ok a (show metOf a ds es ((x, true) :: dd) ii = some r from h) hr
    have := hr.dec x true (h3 _ (List.mem_cons_self ..))
    refine ⟨?_, h2, fun p m => h3 p (List.mem_cons_of_mem _ m), h4⟩
    show if ρ.b x = true then Ok ρ R a else Ok ρ R b
    rw [if_pos this]; exact h1
  | .fork x a b, false :: ds, es, dd, ii, r, h, hr => by
    obtain ⟨h1, h2, h3, h4⟩ := metOf_ok b (show metOf b ds es ((x, false) :: dd) ii = some r from h) hr
    have := hr.dec x false (h3 _ (List.mem_cons_self ..))
    refine ⟨?_, h2, fun p m => h3 p (List.mem_cons_of_mem _ m), h4⟩
    show if ρ.b x = true then Ok ρ R a else Ok ρ R b
    rw [if_neg (by rw [this]; decide)]; exact h1
  | .caseI x n a b, ds, es, dd, ii, r, h, hr => by
    obtain ⟨h1, h2, h3, h4⟩ := metOf_ok a (show metOf a ds es dd ((x, n) :: ii) = some r from h) hr
    have := hr.num x n (h4 _ (List.mem_cons_self ..))
    refine ⟨?_, h2, h3, fun p m => h4 p (List.mem_cons_of_mem _ m)⟩
    show if ρ.i x = n then Ok ρ R a else Ok ρ R b
    rw [if_pos this]; exact h1
  | .both a b, ds, es, dd, ii, r, h, hr => by
    have h : Bool.rec (motive := fun _ => Option Met) none (metOf b ds es dd ii) (allGood a) = some r := h
    cases hg : allGood a with
    | false => rw [hg] at h; cases h
    | true =>
      rw [hg] at h
      obtain ⟨h1, h2⟩ := metOf_ok b (show metOf b ds es dd ii = some r from h) hr
      exact ⟨⟨allGood_ok a hg, h1⟩, h2⟩
theorem met_ok {ρ : Env} {a : Ans} {ds : List Bool} {r : Met} (h : metOf a ds [] [] [] = some r) (hr : r.ok ρ isT) : Ok ρ isT a := (metOf_ok a h hr).1
/-- a run in which all is known -/
def sure (a : Ans) : Bool :=
  match metOf a [] [] [] [] with
  | some ⟨[], [], [], .c (.bool b)⟩ => b
  | _ => false
theorem sure_ok {ρ : Env} {a : Ans} (h : sure a = true) : Ok ρ isT a := by
  unfold sure at h
  split at h
  · rename_i b hb
    subst h
    exact met_ok hb ⟨fun e m => (by cases m), fun x b m => (by cases m), fun x n m => (by cases m), rfl⟩
  · cases h
/-- a law's run -/
theorem law_run {P : Program} {ρ : Env} {X : XC} (hX : XOk P X) (hI : IntrAll P ρ isT X.intr) (hmix : P.follows .mixedOrders = true) {d g : Nat} {args : List V} {nx : Nat} (hk : Ok ρ isT (run X d g args nx)) (hargs : ∀ x ∈ args, x.bare) (w : World) :
    Calls P g (args.map (V.den ρ noloc)).toArray w fun e w' => e = .returned (.bool true) ∧ RowKit.Below w.heap.size w w' :=
  (run_below hX (intrOk_mk hI) hmix hk hargs w).mono fun e w' hh => ⟨by obtain ⟨v, ι, h1, he⟩ := hh.1; rw [he, h1]; rfl, hh.2⟩
end Go.Fx
end

noncomputable section
namespace Go.Fx
set_option linter.unusedSimpArgs false
set_option linter.unusedVariables false
set_option linter.unusedSectionVars false

/-- the function's own code -/
def natI (X : XC) (g : Nat) (args : List V) (st : St) (ko : KO) : Ans := callN X 30 g args st ko
/-- one of two, as the arguments are -/
def selI (p : List V → Bool) (a b : IntrT) (args : List V) (st : St) (ko : KO) : Ans := bif p args then IntrT.run a args st ko else IntrT.run b args st ko
/-- is it a word that was read, written once? -/
def decP (s : Tr Bool) (args : List V) : Bool :=
  match args with
  | [.c (.u32 x)] => (match Tr.get (pa x) s with | some _ => true | none => false)
  | _ => false
def encP (s : Tr Bool) (args : List V) : Bool :=
  match args with
  | [.a [.i64 (.ofNat op), .i64 (.ofNat rd), .i64 (.ofNat r1), .i64 (.ofNat r2), .i32 n]] => (match encW op rd r1 r2 n with
    | some x => (match Tr.get (pa x) s with | some _ => true | none => false)
    | none => false)
  | _ => false
/-- a truth as a number -/
def truthI (k : IntKind) (args : List V) (st : St) (ko : KO) : Ans :=
  match args with
  | [.c (.bool b)] => ko (.ret (.c (ofInt k (bif b then 1 else 0)))) st
  | [.c (.bvar x false)] => bif ubLe x 1 then ko (.ret (.c (.ivar k x))) st else .stop 320 ""
  | [.c (.bvar x true)] => ko (.ret (.c (.ivar k (.not x)))) st
  | _ => .stop 321 ""
def truthChk (X : XC) (k : IntKind) (g : Nat) : Bool :=
  (match run X 90 g [.c (.bool true)] 0 with
  | .ret (.c c) => eqCB c (ofInt k 1) && bareB c
  | _ => false) &&
  (match run X 90 g [.c (.bool false)] 0 with
  | .ret (.c c) => eqCB c (ofInt k 0) && bareB c
  | _ => false)
section
variable {P : Program} {ρ : Env} {R : V → Prop}
theorem natI_at {X : XC} (hX : XOk P X) (hI : IntrAll P ρ R X.intr) (hmix : P.follows .mixedOrders = true) (g : Nat) : IntrAt P ρ R g ⟨natI X g⟩ :=
  fun args st ko hf hk => callN_ok hX (intrOk_mk hI) hmix 30 g args st ko hf hk
theorem selI_at {g : Nat} {p : List V → Bool} {a b : IntrT} (ha : IntrAt P ρ R g a) (hb : IntrAt P ρ R g b) : IntrAt P ρ R g ⟨selI p a b⟩ := by
  intro args st ko hf hk
  replace hk : Ok ρ R (selI p a b args st ko) := hk
  unfold selI at hk
  rw [bif_eq] at hk
  split at hk
  · exact ha args st ko hf hk
  · exact hb args st ko hf hk
theorem truthI_at {X : XC} (hX : XOk P X) (hI : X.intr = .e) (hmix : P.follows .mixedOrders = true) {k : IntKind} {g : Nat} (hen : ∀ as w, (callFunc g as).run P w = .ok (.enter g as) w) (h : truthChk X k g = true) : IntrAt P ρ R g ⟨truthI k⟩ := by
  unfold truthChk at h
  simp only [Bool.and_eq_true] at h
  obtain ⟨h1, h0⟩ := h
  have key : ∀ b : Bool, ∀ w, Calls P g #[.bool b] w fun e w' => e = .returned (.int k (one01 b)) ∧ RowKit.Below w.heap.size w w' := by
    have go : ∀ (b : Bool) (c : C), run X 90 g [.c (.bool b)] 0 = .ret (.c c) → c = ofInt k (one01 b) → ∀ w, Calls P g #[.bool b] w fun e w' => e = .returned (.int k (one01 b)) ∧ RowKit.Below w.heap.size w w' := by
      intro b c hr hc w
      refine (calls_ret hX hI hmix hr (fun y hy => (by simp only [List.mem_cons, List.not_mem_nil, or_false] at hy; subst hy; exact fun _ _ => trivial)) ρ w).mono fun e w' hh => ⟨?_, hh.2⟩
      obtain ⟨ι, he⟩ := hh.1
      rw [he, hc]
      show Ending.returned (C.den ρ ι (ofInt k (one01 b))) = _
      rw [ofInt_den]
    intro b w
    cases b with
    | true =>
      split at h1
      · rename_i c hc
        simp only [Bool.and_eq_true] at h1
        exact go true c hc (eqCB_eq h1.1) w
      · cases h1
    | false =>
      split at h0
      · rename_i c hc
        simp only [Bool.and_eq_true] at h0
        exact go false c hc (eqCB_eq h0.1) w
      · cases h0
  intro args st ko hf hk
  replace hk : Ok ρ R (truthI k args st ko) := hk
  unfold truthI at hk
  split at hk
  · rename_i b
    refine ⟨_, st, hk, hen, cstep_below (ofInt_bare _ _) fun ι w => (key b w).mono fun e w' hh => ⟨?_, hh.2⟩⟩
    rw [hh.1]
    show _ = Ending.returned (C.den ρ ι (ofInt k _))
    rw [ofInt_den]; rfl
  · rename_i x
    rw [bif_eq] at hk
    split at hk
    · rename_i hu
      obtain ⟨u0, u1⟩ := ubLe_spec (ρ := ρ) hu
      refine ⟨_, st, hk, hen, cstep_below (fun _ _ => trivial) fun ι w => ?_⟩
      have e : (V.den ρ ι (.c (.bvar x false))) = .bool (ρ.b x) := by simp [V.den, C.den]
      simp only [List.map_cons, List.map_nil, e]
      refine (key (ρ.b x) w).mono fun e w' hh => ⟨?_, hh.2⟩
      rw [hh.1]
      show Ending.returned (.int k (one01 (ρ.b x))) = .returned (.int k (ρ.i x))
      congr 2
      show one01 (decide (x.eval ρ = 1)) = x.eval ρ
      simp only [Int.reducePow] at u1
      by_cases hx : x.eval ρ = 1
      · rw [hx]; rfl
      · rw [decide_eq_false hx]
        show (0 : Int) = _
        omega
    · cases hk
  · rename_i x
    refine ⟨_, st, hk, hen, cstep_below (fun _ _ => trivial) fun ι w => ?_⟩
    have e : (V.den ρ ι (.c (.bvar x true))) = .bool (!ρ.b x) := by simp [V.den, C.den]
    simp only [List.map_cons, List.map_nil, e]
    exact key (!ρ.b x) w
  · cases hk

/-! ### All ways of a plain function -/
def leafs (f : List (SE × Bool) → V → Bool) (a : Ans) : List (SE × Bool) → Bool :=
  Ans.rec (motive := fun _ => List (SE × Bool) → Bool) (fun _ _ _ => false) (fun v p => f p v) (fun _ => false) (fun _ _ _ _ => false)
    (fun x _ _ it jf p => it ((x, true) :: p) && jf ((x, false) :: p)) (fun _ _ _ _ _ _ _ => false) (fun _ _ _ _ _ => false) a
theorem leafs_ok {f : List (SE × Bool) → V → Bool} : ∀ (a : Ans) {p : List (SE × Bool)}, leafs f a p = true → Known ρ p → Ok ρ (fun v => ∃ q, Known ρ q ∧ f q v = true) a
  | .stop _ _, p, h, _ => by cases h
  | .ret v, p, h, hp => ⟨p, hp, h⟩
  | .good, p, h, _ => by cases h
  | .ev _ _, p, h, _ => by cases h
  | .caseI _ _ _ _, p, h, _ => by cases h
  | .both _ _, p, h, _ => by cases h
  | .fork x a b, p, h, hp => by
    have h : (leafs f a ((x, true) :: p) && leafs f b ((x, false) :: p)) = true := h
    rw [Bool.and_eq_true] at h
    show if ρ.b x = true then Ok ρ _ a else Ok ρ _ b
    split
    · rename_i hx
      exact leafs_ok a h.1 fun y c hy => by
        rcases List.mem_cons.1 hy with e | hy
        · cases e; exact hx
        · exact hp y c hy
    · rename_i hx
      exact leafs_ok b h.2 fun y c hy => by
        rcases List.mem_cons.1 hy with e | hy
        · cases e; simpa using hx
        · exact hp y c hy
/-- whether the lowest byte has an even number of ones -/
def parF (n : Nat) (b : Nat → Bool) : Bool := Nat.rec (motive := fun _ => Bool) true (fun i ih => ih == !(b i)) n
def parS (x : SE) (n : Nat) : SE := Nat.rec (motive := fun _ => SE) (.lit 1) (fun i ih => .same ih (.not (mkExt x i 1))) n
theorem parS_b (x : SE) : ∀ n, ρ.b (parS x n) = parF n fun i => decide ((x.eval ρ / 2 ^ i) % 2 = 1)
  | 0 => rfl
  | n + 1 => by
    have ih := parS_b x n
    show ρ.b (.same (parS x n) (.not (mkExt x n 1))) = (parF n _ == !_)
    rw [b_of _ (.same (parS x n) (.not (mkExt x n 1))) rfl, ← ih]
    have e : decide ((SE.not (mkExt x n 1)).eval ρ = 1) = !(decide ((x.eval ρ / 2 ^ n) % 2 = 1)) := by
      show decide (one01 (!decide ((mkExt x n 1).eval ρ = 1)) = 1) = _
      rw [one01_dec, mkExt_eval]
      rfl
    rw [e]
    rfl
def parChkF (q : List (SE × Bool)) (v : V) : Bool :=
  match v with
  | .c (.bool b) => allL (fun i => match findB (.ext (.v .u32 0) i 1) q with | some _ => true | none => false) [0, 1, 2, 3, 4, 5, 6, 7] &&
      (b == parF 8 fun i => orElseL false (findB (.ext (.v .u32 0) i 1) q))
  | _ => false
def parChk (X : XC) (g : Nat) : Bool := leafs parChkF (run X 90 g [.c (.ivar .u32 (.v .u32 0))] 0) []
def parI (args : List V) (st : St) (ko : KO) : Ans :=
  match args with
  | [.c (.ivar .u32 x)] => bif ubLe x 32 then ko (.ret (.c (.bvar (parS x 8) false))) st else .stop 322 ""
  | _ => .stop 323 ""
theorem parF_congr {f g : Nat → Bool} : ∀ n, (∀ i, i < n → f i = g i) → parF n f = parF n g
  | 0, _ => rfl
  | n + 1, h => by
    show (parF n f == !(f n)) = (parF n g == !(g n))
    rw [parF_congr n fun i hi => h i (by omega), h n (by omega)]
theorem parI_at {X : XC} (hX : XOk P X) (hI : X.intr = .e) (hmix : P.follows .mixedOrders = true) {g : Nat} (hen : ∀ as w, (callFunc g as).run P w = .ok (.enter g as) w) (h : parChk X g = true) : IntrAt P ρ R g ⟨parI⟩ := by
  have key : ∀ (n : Int) (w : World), 0 ≤ n → n < 4294967296 → Calls P g #[.int .u32 n] w fun e w' => e = .returned (.bool (parF 8 fun i => decide ((n / 2 ^ i) % 2 = 1))) ∧ RowKit.Below w.heap.size w w' := by
    intro n w h0 h1
    have hz : (SE.v .u32 0).eval (⟨fun _ => n, fun _ => false⟩ : Env) = n := by
      show IntKind.u32.wrap n = n
      rw [IntKind.wrap_u32]; omega
    have hk := leafs_ok (ρ := ⟨fun _ => n, fun _ => false⟩) _ h (fun x b hx => by cases hx)
    have hIn : ∀ R : V → Prop, IntrOk P (⟨fun _ => n, fun _ => false⟩ : Env) R X := fun R => intrOk_mk (by rw [hI]; exact intrAll_e)
    have hr := run_below hX (hIn _) hmix hk (fun y hy => (by simp only [List.mem_cons, List.not_mem_nil, or_false] at hy; subst hy; exact fun _ _ => trivial)) w
    have e : (V.den (⟨fun _ => n, fun _ => false⟩ : Env) noloc (.c (.ivar .u32 (.v .u32 0)))) = .int .u32 n := by
      show Value.int .u32 ((SE.v .u32 0).eval _) = _
      rw [hz]
    simp only [List.map_cons, List.map_nil, e] at hr
    refine hr.mono fun e w' hh => ⟨?_, hh.2⟩
    obtain ⟨v, ι, ⟨q, hq, hv⟩, rfl⟩ := hh.1
    unfold parChkF at hv
    split at hv
    · rename_i b
      simp only [Bool.and_eq_true] at hv
      obtain ⟨h2, h3⟩ := hv
      rw [allL_eq] at h2
      have h3 := eq_of_beq h3
      subst h3
      show Ending.returned (.bool _) = _
      congr 2
      refine parF_congr 8 fun i hi => ?_
      have h2 := List.all_eq_true.1 h2 i (by simp; omega)
      split at h2
      · rename_i c hc
        rw [hc]
        have := hq _ _ (findB_mem hc)
        show c = _
        rw [← this]
        show decide (((SE.v .u32 0).eval _ / 2 ^ i) % 2 ^ 1 = 1) = _
        rw [hz]
        rfl
      · cases h2
    · cases hv
  intro args st ko hf hk
  replace hk : Ok ρ R (parI args st ko) := hk
  unfold parI at hk
  split at hk
  · rename_i x
    rw [bif_eq] at hk
    split at hk
    · rename_i hu
      obtain ⟨u0, u1⟩ := ubLe_spec (ρ := ρ) hu
      refine ⟨_, st, hk, hen, cstep_below (fun _ _ => trivial) fun ι w => ?_⟩
      refine (key (ρ.i x) w u0 u1).mono fun e w' hh => ⟨?_, hh.2⟩
      rw [hh.1]
      show _ = Ending.returned (.bool (xor (ρ.b (parS x 8)) false))
      rw [Bool.xor_false, parS_b]
      rfl
    · cases hk
  · cases hk
end
end Go.Fx
end

