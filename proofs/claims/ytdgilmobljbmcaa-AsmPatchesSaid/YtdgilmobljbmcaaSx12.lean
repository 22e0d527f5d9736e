/-
  A symbolic executor for the model's code: a region in whatever order.
-/
import Derived.Test.YtdgilmobljbmcaaSx11
namespace Go.Sx
set_option linter.unusedSimpArgs false
set_option linter.unusedVariables false

section
variable {P : Program}

/-! ### Masks -/
theorem binds_any (e : Edge) : Region.binds .any e = bindsE e := by
  unfold Region.binds bindsE
  cases e.ground <;> rfl

theorem maskOf_bit (ms : List Nat) : ∀ (es : List Edge) (m j : Nat), Nat.testBit (maskOf ms es m) j = (Nat.testBit m j || es.any fun e => bindsE e && (decide (e.on = j) || Nat.testBit (ms.getD e.on 0) j))
  | [], m, j => by simp [maskOf]
  | e :: es, m, j => by
    simp only [maskOf]
    split
    · rename_i hb
      rw [maskOf_bit ms es, Nat.testBit_or, Nat.testBit_or, Nat.testBit_two_pow]
      simp [hb, Bool.or_assoc]
    · rename_i hb
      rw [maskOf_bit ms es]
      simp [hb]

theorem masksOf_append : ∀ (l : List Oper) (ms : List Nat), ∃ tl, masksOf l ms = ms ++ tl ∧ tl.length = l.length
  | [], ms => ⟨[], by simp [masksOf]⟩
  | o :: os, ms => by
    obtain ⟨tl, h1, h2⟩ := masksOf_append os (ms ++ [maskOf ms o.after.toList 0])
    exact ⟨maskOf ms o.after.toList 0 :: tl, by simp [masksOf, h1], by simp [h2]⟩

theorem getD_append {α : Type} (l m : List α) (d : α) {i : Nat} (h : i < l.length) : (l ++ m).getD i d = l.getD i d := by
  simp [List.getD_eq_getElem?_getD, List.getElem?_append_left h]

theorem any_congr_mem {α : Type} {l : List α} {p q : α → Bool} (h : ∀ x ∈ l, p x = q x) : l.any p = l.any q := by
  induction l with
  | nil => rfl
  | cons x l ih => simp only [List.any_cons, h x (List.mem_cons_self ..), ih fun y hy => h y (List.mem_cons_of_mem _ hy)]

/-- what a mask holds, over the list from ms on -/
theorem masksOf_bit : ∀ (l : List Oper) (ms : List Nat) (hb : backEdges l ms.length = true) (i : Nat) (o : Oper), l[i]? = some o → ∀ j,
    Nat.testBit ((masksOf l ms).getD (ms.length + i) 0) j = o.after.toList.any fun e => bindsE e && (decide (e.on = j) || Nat.testBit ((masksOf l ms).getD e.on 0) j)
  | [], ms, hb, i, o, h, j => by simp at h
  | p :: os, ms, hb, i, o, h, j => by
    simp only [backEdges, Bool.and_eq_true] at hb
    obtain ⟨hb1, hb2⟩ := hb
    simp only [masksOf]
    cases i with
    | zero =>
      simp only [List.getElem?_cons_zero, Option.some.injEq] at h
      subst h
      obtain ⟨tl, h1, h2⟩ := masksOf_append os (ms ++ [maskOf ms p.after.toList 0])
      rw [h1]
      simp only [Nat.add_zero]
      have e1 : ((ms ++ [maskOf ms p.after.toList 0]) ++ tl).getD ms.length 0 = maskOf ms p.after.toList 0 := by
        rw [getD_append _ _ _ (by simp)]
        simp [List.getD_eq_getElem?_getD]
      rw [e1, maskOf_bit]
      simp only [Nat.zero_testBit, Bool.false_or]
      refine any_congr_mem fun e he => ?_
      cases hbe : bindsE e with
      | false => rfl
      | true =>
        have hlt : e.on < ms.length := by
          have := List.all_eq_true.1 hb1 e he
          simpa [hbe] using this
        rw [List.append_assoc, getD_append _ _ _ hlt]
    | succ i =>
      simp only [List.getElem?_cons_succ] at h
      have := masksOf_bit os (ms ++ [maskOf ms p.after.toList 0]) (by simpa using hb2) i o h j
      simp only [List.length_append, List.length_singleton] at this
      rw [show ms.length + (i + 1) = ms.length + 1 + i by omega]
      exact this

theorem backEdges_at : ∀ (l : List Oper) (k : Nat), backEdges l k = true → ∀ i o, l[i]? = some o → ∀ e ∈ o.after, bindsE e = true → e.on < k + i
  | [], k, _, i, o, h, _, _, _ => by simp at h
  | p :: os, k, hb, i, o, h, e, he, hbe => by
    simp only [backEdges, Bool.and_eq_true] at hb
    cases i with
    | zero =>
      simp only [List.getElem?_cons_zero, Option.some.injEq] at h
      subst h
      have := List.all_eq_true.1 hb.1 e (by simpa using he)
      simpa [hbe] using this
    | succ i =>
      simp only [List.getElem?_cons_succ] at h
      have := backEdges_at os (k + 1) hb.2 i o h e he hbe
      omega

theorem apartRow_at (ops : Array Oper) (oi : Oper) (mask : Nat) : ∀ (l : List Oper) (k : Nat), apartRow ops oi mask l k = true → ∀ j oj, l[j]? = some oj → Nat.testBit mask (k + j) = false → oj.apart ops oi = true
  | [], k, _, j, oj, h, _ => by simp at h
  | p :: os, k, ha, j, oj, h, hm => by
    simp only [apartRow, Bool.and_eq_true, Bool.or_eq_true] at ha
    cases j with
    | zero =>
      simp only [List.getElem?_cons_zero, Option.some.injEq] at h
      subst h
      rcases ha.1 with h1 | h1
      · rw [Nat.add_zero] at hm; rw [hm] at h1; cases h1
      · exact h1
    | succ j =>
      simp only [List.getElem?_cons_succ] at h
      exact apartRow_at ops oi mask os (k + 1) ha.2 j oj h (by rw [← hm]; congr 1; omega)

theorem apartAll_at (ops : Array Oper) (L : List Oper) (ms : List Nat) : ∀ (l : List Oper) (k : Nat), apartAll ops L ms l k = true → ∀ i oi, l[i]? = some oi →
    ∀ j oj, j < k + i → L[j]? = some oj → Nat.testBit (ms.getD (k + i) 0) j = false → oj.apart ops oi = true
  | [], k, _, i, oi, h, _, _, _, _, _ => by simp at h
  | p :: os, k, ha, i, oi, h, j, oj, hj, hoj, hm => by
    simp only [apartAll, Bool.and_eq_true] at ha
    cases i with
    | zero =>
      simp only [List.getElem?_cons_zero, Option.some.injEq] at h
      subst h
      refine apartRow_at ops p _ (L.take k) 0 ha.1 j oj ?_ ?_
      · rw [List.getElem?_take, if_pos (by omega)]; exact hoj
      · rw [Nat.zero_add]; exact hm
    | succ i =>
      simp only [List.getElem?_cons_succ] at h
      exact apartAll_at ops L ms os (k + 1) ha.2 i oi h j oj (by omega) hoj (by rw [← hm]; congr 2; omega)

/-! ### The last that wrote -/
def lastN {β : Type} (D : Nat → Bool) (f : Rec → Option β) : List Rec → β → β
  | [], b => b
  | r :: rs, b => if D r.idx then (match f r with | some x => x | none => lastN D f rs b) else lastN D f rs b

theorem lastN_congr {β : Type} {D D' : Nat → Bool} {f : Rec → Option β} : ∀ (rs : List Rec) (b : β), (∀ r ∈ rs, D r.idx ≠ D' r.idx → f r = none) → lastN D f rs b = lastN D' f rs b
  | [], b, _ => rfl
  | r :: rs, b, h => by
    have ih := lastN_congr (D := D) (D' := D') rs b (fun q hq => h q (List.mem_cons_of_mem _ hq))
    have h1 := h r (List.mem_cons_self ..)
    simp only [lastN]
    cases hD : D r.idx <;> cases hD' : D' r.idx
    · simpa using ih
    · have := h1 (by rw [hD, hD']; simp)
      simp only [Bool.false_eq_true, if_false, if_true, this]
      exact ih
    · have := h1 (by rw [hD, hD']; simp)
      simp only [Bool.false_eq_true, if_false, if_true, this]
      exact ih
    · simp only [if_true]
      split
      · rfl
      · exact ih

theorem lastN_none {β : Type} {D : Nat → Bool} {f : Rec → Option β} : ∀ (rs : List Rec) (b : β), (∀ r ∈ rs, D r.idx = true → f r = none) → lastN D f rs b = b
  | [], b, _ => rfl
  | r :: rs, b, h => by
    have ih := lastN_none (D := D) rs b (fun q hq => h q (List.mem_cons_of_mem _ hq))
    simp only [lastN]
    split
    · rename_i hD
      rw [h r (List.mem_cons_self ..) hD]
      exact ih
    · exact ih

theorem lastN_skip {β : Type} {D : Nat → Bool} {f : Rec → Option β} : ∀ (late rs : List Rec) (b : β), (∀ r ∈ late, D r.idx = true → f r = none) → lastN D f (late ++ rs) b = lastN D f rs b
  | [], rs, b, _ => rfl
  | r :: late, rs, b, h => by
    have ih := lastN_skip (D := D) late rs b (fun q hq => h q (List.mem_cons_of_mem _ hq))
    simp only [List.cons_append, lastN]
    split
    · rename_i hD
      rw [h r (List.mem_cons_self ..) hD]
      exact ih
    · exact ih

/-- where the answer comes from -/
theorem lastN_from {β : Type} {D : Nat → Bool} {f : Rec → Option β} : ∀ (rs : List Rec) (b : β), lastN D f rs b = b ∨ ∃ r ∈ rs, D r.idx = true ∧ f r = some (lastN D f rs b)
  | [], b => .inl rfl
  | r :: rs, b => by
    simp only [lastN]
    split
    · rename_i hD
      split
      · rename_i x hx
        exact .inr ⟨r, List.mem_cons_self .., hD, hx⟩
      · rcases lastN_from rs b with h | ⟨q, hq, h1, h2⟩
        · exact .inl h
        · exact .inr ⟨q, List.mem_cons_of_mem _ hq, h1, h2⟩
    · rcases lastN_from rs b with h | ⟨q, hq, h1, h2⟩
      · exact .inl h
      · exact .inr ⟨q, List.mem_cons_of_mem _ hq, h1, h2⟩

def slotW (t n : Nat) (r : Rec) : Option SV := if r.o.dst = some t ∧ t < n then some r.v else none
def heapW (id : Nat) (r : Rec) : Option (Option Blk) := if id ∈ r.touched then some (r.st1.heap.get id) else none

/-! ### What the run has noted -/
abbrev top : Nat → Prop := fun _ => True

/-- a state's blocks are its own -/
structure Own (h : Nat → Option Blk) (nb : Nat) : Prop where
  lt : ∀ id k, h id = some k → id < nb
  on : ∀ id k, h id = some k → k.on (lim nb top)
  fine : ∀ id k, h id = some k → k.fine

structure RecOk (P : Program) (Φ : Phi) (ρ : Env) (ops : Array Oper) (ms : List Nat) (fr0 : Fr) (st0 : St) (r : Rec) (rs : List Rec) : Prop where
  idx : r.idx = rs.length
  op : ops[r.idx]? = some r.o
  n : r.fr.n = fr0.n
  fr : ∀ t, r.fr.get t = lastN (fun _ => true) (slotW t fr0.n) rs (fr0.get t)
  vis : ∀ id k, r.vis.get id = some k → lastN (fun _ => true) (heapW id) rs (st0.heap.get id) = some k
  lo : st0.nb ≤ r.st.nb
  hi : r.st.nb ≤ r.st1.nb
  behind : ∀ q ∈ rs, q.st1.nb ≤ r.st.nb
  off : r.on = false → r.v = sundef ∧ r.touched = [] ∧ r.st1.nb = r.st.nb
  want : ∃ stw, wantedS ops.toList r.fr r.o stw = .ok (r.on, r.st) ∧ Facts ρ stw
  facts : Facts ρ r.st
  logs : LogOk Φ ρ r.st.log ∧ LogOk Φ ρ r.st1.log
  ok : r.on = true → OpOk P Φ r.o r.fr { r.st with heap := r.vis, wr := [] } r.v r.st1
  frOn : ∀ t, (r.fr.get t).on (lim r.st.nb top)
  visOwn : Own r.vis.get r.st.nb
  tch : ∀ id, id ∈ r.touched → (r.st.nb ≤ id ∧ id < r.st1.nb) ∨ (id < r.st.nb ∧ r.vis.get id ≠ none)
  new : ∀ id, r.st.nb ≤ id → id < r.st1.nb → id ∈ r.touched
  keep : ∀ id k, r.vis.get id = some k → id ∉ r.touched → r.on = true → r.st1.heap.get id = some k
  apart : ∀ q ∈ rs, Nat.testBit (ms.getD r.idx 0) q.idx = false → (∀ id ∈ q.touched, r.vis.get id = none) ∧ (∀ id ∈ r.touched, id < r.st.nb → q.vis.get id = none)

def Good (P : Program) (Φ : Phi) (ρ : Env) (ops : Array Oper) (ms : List Nat) (fr0 : Fr) (st0 : St) : List Rec → Prop
  | [] => True
  | r :: rs => RecOk P Φ ρ ops ms fr0 st0 r rs ∧ Good P Φ ρ ops ms fr0 st0 rs

/-! ### A world made up, to read off what an operation's blocks mention -/
theorem wp_extract {o : Oper} {a : Act} {w : World} {p : Prop} (h : o.wp P a w (fun _ _ => p) (fun _ _ _ => p)) : p := by
  unfold Oper.wp at h
  generalize (execOp a.eval o).run P w = r at h
  cases r with
  | ok n w' =>
    cases n <;> simp only [Oper.upon] at h <;> first
      | exact h
      | exact h.elim
      | (obtain ⟨e, w2, fr, hR, _⟩ := h []
         cases e <;> first
           | exact hR
           | (obtain ⟨_, _, hq⟩ := hR; exact hq))
      | (obtain ⟨v, w2, hR, _⟩ := h default []; exact hR)
  | halt x w' =>
    cases x <;> simp only [Oper.upon] at h <;> first
      | exact h
      | exact h.elim

def fakeLoc : Loc := ⟨fun i => i, fun _ => 0⟩
def fakeObj (ρ : Env) : Option Blk → Obj
  | some k =>
    match k.mp with
    | none => .cells (k.cells ρ fakeLoc).toArray k.elem (0, 0)
    | some es => .map (entFrom ρ 0 es).toArray es.length
  | none => default

theorem fake_rep (ρ : Env) {h : Nat → Option Blk} {nb : Nat} (ho : Own h nb) : ∃ w : World, Rep ρ fakeLoc top h nb w := by
  refine ⟨{ (default : World) with heap := Array.ofFn fun i : Fin nb => fakeObj ρ (h i) }, fun id k hk => ⟨ho.lt id k hk, trivial⟩, fun id k hk => ?_, ho.on, fun id id' _ _ _ _ he => he⟩
  have hlt := ho.lt id k hk
  rcases ho.fine id k hk with hm | ⟨h1, es, h2, h3⟩
  · refine .inl ⟨hm, [], ?_, fun _ => rfl⟩
    simp only [fakeLoc, Array.getElem?_ofFn, hlt, dif_pos, hk, fakeObj, hm, List.append_nil]
  · refine .inr ⟨h1, es, h2, h3, ?_⟩
    simp only [fakeLoc, Array.getElem?_ofFn, hlt, dif_pos, hk, fakeObj, h2]

theorem exists_bound : ∀ l : List Operand, ∃ M : Nat, ∀ t : Nat, Operand.tmp t ∈ l → t < M
  | [] => ⟨0, fun t h => by cases h⟩
  | x :: l => by
    obtain ⟨M, hM⟩ := exists_bound l
    cases x with
    | tmp s =>
      refine ⟨M + (s : Nat) + 1, fun t h => ?_⟩
      rcases List.mem_cons.1 h with h | h
      · have h : t = s := by injection h
        omega
      · have := hM t h; omega
    | _ =>
      refine ⟨M, fun t h => ?_⟩
      rcases List.mem_cons.1 h with h | h
      · cases h
      · exact hM t h

theorem fake_act (ρ : Env) (fr : Fr) (l : List Operand) {nb : Nat} (hon : ∀ t, (fr.get t).on (lim nb top)) : ∃ a : Act, ∀ x ∈ l, a.eval x = (fr.eval x).den ρ fakeLoc ∧ (fr.eval x).on (lim nb top) := by
  obtain ⟨M, hM⟩ := exists_bound l
  refine ⟨{ tmps := Array.ofFn fun i : Fin M => (fr.get i).den ρ fakeLoc, defers := [] }, fun x hx => ?_⟩
  cases x with
  | tmp t =>
    have := hM t hx
    refine ⟨?_, hon t⟩
    simp [Act.eval, this, Fr.eval]
  | const v => exact ⟨(ofVal_den v ρ _).symm, ofVal_on v _⟩
  | global g => exact ⟨rfl, bare_c (x := .lit (.pointer (some ⟨g, 0, none⟩))) (fun _ => trivial) _⟩
  | func f => exact ⟨rfl, bare_c (x := .lit (.func (.func f) #[] #[])) (fun _ => trivial) _⟩

theorem OpOk.own {Φ : Phi} {o : Oper} {fr : Fr} {st st' : St} {v : SV} (h : OpOk P Φ o fr st v st') {ρ : Env} (hl : LogOk Φ ρ st'.log) (hf : Facts ρ st)
    (ho : Own st.heap.get st.nb) (hon : ∀ t, (fr.get t).on (lim st.nb top)) : v.on (lim st'.nb top) ∧ Own st'.heap.get st'.nb := by
  obtain ⟨w, hr⟩ := fake_rep ρ ho
  obtain ⟨a, ha⟩ := fake_act ρ fr o.op.operands.toList hon
  exact wp_extract (h.2 ρ hl hf top (fun _ _ _ => trivial) fakeLoc w a hr (fun x hx => ha x (by simpa using hx)) _ _ fun ι' w' hp hv => ⟨hv, fun id k hk => (hp.rep.lt id k hk).1, hp.rep.on, fun id k hk => (hp.rep.blk id k hk).fine⟩)

/-! ### The executor's lists -/
theorem get_delAll (h : Tr Blk) : ∀ (l : List Nat) (id : Nat), (delAll h l).get id = if id ∈ l then none else h.get id
  | [], id => by simp [delAll]
  | i :: is, id => by
    rw [delAll, get_delAll (h.del i) is id, Tr.get_del]
    by_cases h1 : id ∈ is
    · simp [h1]
    · by_cases h2 : id = i <;> simp [h1, h2]

theorem get_laid (f : Tr Blk) : ∀ (l : List Nat) (t : Tr Blk) (id : Nat), (laid f t l).get id = if id ∈ l then f.get id else t.get id
  | [], t, id => by simp [laid]
  | i :: is, t, id => by
    rw [laid, get_laid f is _ id, Tr.get_upd _ _ _ _ _ (Nat.lt_succ_self i)]
    by_cases h1 : id ∈ is
    · simp [h1]
    · by_cases h2 : id = i
      · subst h2; simp [h1]
      · simp [h1, h2]

theorem mem_newIds : ∀ (n a id : Nat), id ∈ newIds a n ↔ a ≤ id ∧ id < a + n
  | 0, a, id => by simp [newIds]
  | n + 1, a, id => by
    simp only [newIds, List.mem_cons, mem_newIds n (a + 1) id]
    omega

theorem mem_oldOnes (nb : Nat) : ∀ (l : List Nat) (id : Nat), id ∈ oldOnes nb l ↔ id < nb ∧ id ∈ l
  | [], id => by simp [oldOnes]
  | i :: is, id => by
    simp only [oldOnes]
    split
    · rename_i h
      have h : i < nb := by simpa using h
      rw [List.mem_cons, List.mem_cons, mem_oldOnes nb is id]
      constructor
      · rintro (rfl | h2)
        · exact ⟨h, .inl rfl⟩
        · exact ⟨h2.1, .inr h2.2⟩
      · rintro ⟨h1, rfl | h2⟩
        · exact .inl rfl
        · exact .inr ⟨h1, h2⟩
    · rename_i h
      have h : ¬ i < nb := by simpa using h
      rw [List.mem_cons, mem_oldOnes nb is id]
      constructor
      · rintro ⟨h1, h2⟩; exact ⟨h1, .inr h2⟩
      · rintro ⟨h1, rfl | h2⟩
        · exact absurd h1 h
        · exact ⟨h1, h2⟩

theorem elemN_mem {i : Nat} : ∀ {l : List Nat}, elemN i l = true → i ∈ l
  | [], h => by simp [elemN] at h
  | j :: l, h => by
    simp only [elemN, Bool.or_eq_true] at h
    rcases h with h | h
    · have : i = j := by simpa using h
      simp [this]
    · exact List.mem_cons_of_mem _ (elemN_mem h)

theorem mem_touchedBy (mask : Nat) : ∀ (rs : List Rec) (q : Rec), q ∈ rs → Nat.testBit mask q.idx = false → ∀ id ∈ q.touched, id ∈ touchedBy mask rs
  | [], q, h, _, _, _ => by cases h
  | r :: rs, q, h, hm, id, hid => by
    simp only [touchedBy]
    rcases List.mem_cons.1 h with rfl | h
    · rw [hm]
      simp [hid]
    · have := mem_touchedBy mask rs q h hm id hid
      split
      · exact this
      · exact List.mem_append_right _ this

theorem writesOk_at (mask : Nat) (wr : List Nat) : ∀ (rs : List Rec), writesOk mask wr rs = true → ∀ q ∈ rs, Nat.testBit mask q.idx = false → q.blind = true ∨ ∀ id ∈ wr, id ∈ q.hidden
  | [], _, q, h, _ => by cases h
  | r :: rs, hw, q, h, hm => by
    simp only [writesOk, Bool.and_eq_true, Bool.or_eq_true] at hw
    rcases List.mem_cons.1 h with rfl | h
    · rcases hw.1 with (h1 | h1) | h1
      · rw [hm] at h1; cases h1
      · exact .inl h1
      · exact .inr fun id hid => elemN_mem (List.all_eq_true.1 h1 id hid)
    · exact writesOk_at mask wr rs hw.2 q h hm

structure Inv (P : Program) (Φ : Phi) (ρ : Env) (ops : Array Oper) (ms : List Nat) (fr0 : Fr) (st0 : St) (i : Nat) (fr : Fr) (st : St) (recs : List Rec) : Prop where
  good : Good P Φ ρ ops ms fr0 st0 recs
  len : recs.length = i
  n : fr.n = fr0.n
  frEq : ∀ t, fr.get t = lastN (fun _ => true) (slotW t fr0.n) recs (fr0.get t)
  heap : ∀ id, st.heap.get id = lastN (fun _ => true) (heapW id) recs (st0.heap.get id)
  frOn : ∀ t, (fr.get t).on (lim st.nb top)
  own : Own st.heap.get st.nb
  behind : ∀ q ∈ recs, q.st1.nb ≤ st.nb
  lo : st0.nb ≤ st.nb
  hid : ∀ q ∈ recs, (q.blind = true → ∀ id, q.vis.get id = none) ∧ (∀ id ∈ q.hidden, q.vis.get id = none)
  cover : ∀ id, st0.nb ≤ id → id < st.nb → ∃ q ∈ recs, q.st.nb ≤ id ∧ id < q.st1.nb

theorem Inv.push {Φ : Phi} {ρ : Env} {ops : Array Oper} {ms : List Nat} {fr0 : Fr} {st0 : St} {i : Nat} {fr : Fr} {st : St} {recs : List Rec} (h : Inv P Φ ρ ops ms fr0 st0 i fr st recs)
    {r : Rec} {st' : St} (hr : RecOk P Φ ρ ops ms fr0 st0 r recs) (hfr : r.fr = fr) (hnb : r.st1.nb = st'.nb) (hlo : r.st.nb = st.nb)
    (hheap : ∀ id, st'.heap.get id = if id ∈ r.touched then r.st1.heap.get id else st.heap.get id)
    (hv : r.v.on (lim st'.nb top)) (hown : Own r.st1.heap.get st'.nb ∨ r.touched = [])
    (hhid : (r.blind = true → ∀ id, r.vis.get id = none) ∧ (∀ id ∈ r.hidden, r.vis.get id = none)) :
    Inv P Φ ρ ops ms fr0 st0 (i + 1) (fr.put r.o.dst r.v) st' (r :: recs) := by
  have hle : st.nb ≤ st'.nb := by rw [← hnb, ← hlo]; exact hr.hi
  have hmono : ∀ i, lim st.nb top i → lim st'.nb top i := fun i hi => ⟨Nat.lt_of_lt_of_le hi.1 hle, hi.2⟩
  refine ⟨⟨hr, h.good⟩, by simp [h.len], by rw [Fr.n_put, h.n], fun t => ?_, fun id => ?_, fun t => ?_, ⟨fun id k hk => ?_, fun id k hk => ?_, fun id k hk => ?_⟩, fun q hq => ?_, Nat.le_trans h.lo hle, fun q hq => ?_, fun id h1 h2 => ?_⟩
  · rw [Fr.get_put, h.n]
    simp only [lastN, if_true, slotW]
    split
    · rfl
    · exact h.frEq t
  · rw [hheap]
    simp only [lastN, if_true, heapW]
    split
    · rfl
    · exact h.heap id
  · rw [Fr.get_put]
    split
    · exact hv
    · exact SV.on_mono hmono (h.frOn t)
  · rw [hheap] at hk
    split at hk
    · rename_i ht
      rcases hown with ho | ho
      · exact ho.lt id k hk
      · rw [ho] at ht; cases ht
    · exact Nat.lt_of_lt_of_le (h.own.lt id k hk) hle
  · rw [hheap] at hk
    split at hk
    · rename_i ht
      rcases hown with ho | ho
      · exact ho.on id k hk
      · rw [ho] at ht; cases ht
    · exact fun j hj => SC.on_mono hmono (h.own.on id k hk j hj)
  · rw [hheap] at hk
    split at hk
    · rename_i ht
      rcases hown with ho | ho
      · exact ho.fine id k hk
      · rw [ho] at ht; cases ht
    · exact h.own.fine id k hk
  · rcases List.mem_cons.1 hq with rfl | hq
    · exact Nat.le_of_eq hnb
    · exact Nat.le_trans (h.behind q hq) hle
  · rcases List.mem_cons.1 hq with rfl | hq
    · exact hhid
    · exact h.hid q hq
  · by_cases h3 : id < st.nb
    · obtain ⟨q, hq, h4⟩ := h.cover id h1 h3
      exact ⟨q, List.mem_cons_of_mem _ hq, h4⟩
    · exact ⟨r, List.mem_cons_self .., by omega, by omega⟩

theorem own_e (nb : Nat) : Own (Tr.e : Tr Blk).get nb := ⟨fun id k hk => (by rw [Tr.get_e] at hk; cases hk), fun id k hk => (by rw [Tr.get_e] at hk; cases hk), fun id k hk => (by rw [Tr.get_e] at hk; cases hk)⟩

/-- the state behind an operation that saw no memory -/
theorem memless_le {Φ : Phi} {s s2 : St} (h : Le Φ { s with heap := .e, wr := [] } s2) (hnb : s2.nb = s.nb) : Le Φ s { s2 with heap := s.heap, wr := s.wr } :=
  ⟨h.log, Nat.le_of_eq hnb.symm, ⟨[], rfl, fun _ _ _ => rfl, fun _ h => by cases h⟩, fun _ _ h => h, h.facts⟩

theorem memful_le {Φ : Phi} {s s2 : St} {hidden : List Nat} (h : Le Φ { s with heap := delAll s.heap hidden, wr := [] } s2) :
    Le Φ s { s2 with heap := laid s2.heap s.heap (newIds s.nb (s2.nb - s.nb) ++ oldOnes s.nb s2.wr), wr := s2.wr ++ s.wr } := by
  obtain ⟨l, h1, h2, h3⟩ := h.wr
  simp only [List.append_nil] at h1
  refine ⟨h.log, h.nb, ⟨s2.wr, rfl, fun id hid hn => ?_, fun id hid hlt hnone => ?_⟩, fun id hid hnone => ?_, h.facts⟩
  · show (laid _ _ _).get id = _
    rw [get_laid, if_neg]
    rw [List.mem_append, mem_newIds, mem_oldOnes]
    rintro (⟨h4, _⟩ | ⟨_, h4⟩)
    · omega
    · exact hn h4
  · rw [h1] at hid
    apply h3 id hid hlt
    show (delAll s.heap hidden).get id = none
    rw [get_delAll]
    split
    · rfl
    · exact hnone
  · show (laid _ _ _).get id = _
    rw [get_laid]
    split
    · rename_i hm
      rw [List.mem_append, mem_newIds, mem_oldOnes] at hm
      rcases hm with ⟨h4, _⟩ | ⟨_, hm⟩
      · omega
      · rw [h1] at hm
        exact absurd (show (delAll s.heap hidden).get id = none by rw [get_delAll]; split <;> first | rfl | exact hnone) (h3 id hm hid)
    · exact hnone

theorem drop_head {α : Type} {l : List α} {i : Nat} {x : α} {rest : List α} (h : x :: rest = l.drop i) : l[i]? = some x ∧ rest = l.drop (i + 1) := by
  constructor
  · have : (l.drop i)[0]? = some x := by rw [← h]; rfl
    rw [List.getElem?_drop] at this
    exact this
  · have : (l.drop i).drop 1 = rest := by rw [← h]; rfl
    rw [List.drop_drop] at this
    rw [← this]

theorem drawRun_inv {Φ : Phi} {C : Ctx} (hT : TysOk P C.tys) {call : CallF} (hc : CallOk P Φ call) {ops : Array Oper} (ms : List Nat) (hints : List (List Nat)) (fr0 : Fr) (st0 : St) :
    ∀ (rest : List Oper) (i : Nat) (fr : Fr) (st : St) (recs : List Rec) (wrs : List (List Nat)) (good : Bool) (d : DrawOut), drawRun C call ops.toList ms hints rest i fr st recs wrs good = .ok d →
      Le Φ st d.st ∧ (d.good = true → good = true ∧ ∀ ρ, LogOk Φ ρ d.st.log → Facts ρ st → rest = ops.toList.drop i → Inv P Φ ρ ops ms fr0 st0 i fr st recs →
        Inv P Φ ρ ops ms fr0 st0 (i + rest.length) d.fr d.st d.recs ∧ Facts ρ d.st)
  | [], i, fr, st, recs, wrs, good, d, h => by
    simp only [drawRun, R.ok.injEq] at h
    subst h
    exact ⟨.refl _ _, fun hg => ⟨hg, fun ρ _ hf _ hi => ⟨hi, hf⟩⟩⟩
  | o :: rest, i, fr, st, recs, wrs, good, d, h => by
    simp only [drawRun] at h
    split at h
    · exact er_ne h
    · rename_i s1 hw
      obtain ⟨q, hq⟩ := wantedS_ok (Φ := Φ) (ops := ops) rfl hw
      obtain ⟨h1, h2⟩ := drawRun_inv hT hc ms hints fr0 st0 rest (i + 1) _ _ _ _ _ d h
      refine ⟨q.le.trans h1, fun hg => ?_⟩
      obtain ⟨h3, h4⟩ := h2 hg
      refine ⟨h3, fun ρ hl hf hrest hi => ?_⟩
      obtain ⟨e1, e2⟩ := drop_head hrest
      have hl1 := h1.logOk hl
      have hf1 := q.facts ρ hl1 hf
      have hrec : RecOk P Φ ρ ops ms fr0 st0 ⟨i, true, [], [], o, false, sundef, fr, s1, .e, s1⟩ recs :=
        { idx := hi.len.symm, op := by rw [← Array.getElem?_toList]; exact e1, n := hi.n, fr := hi.frEq, vis := fun id k hk => (by rw [Tr.get_e] at hk; cases hk), lo := by rw [q.nb]; exact hi.lo, hi := Nat.le_refl _,
          behind := fun p hp => by rw [q.nb]; exact hi.behind p hp, off := fun _ => ⟨rfl, rfl, rfl⟩, want := ⟨st, hw, hf⟩, facts := hf1, logs := ⟨hl1, hl1⟩, ok := fun h => (by cases h), frOn := fun t => by rw [q.nb]; exact hi.frOn t,
          visOwn := own_e _, tch := fun id hid => (by cases hid), new := fun id a b => absurd b (Nat.not_lt_of_le a), keep := fun id k hk => (by rw [Tr.get_e] at hk; cases hk), apart := fun p _ _ => ⟨fun id _ => Tr.get_e id, fun id hid => by cases hid⟩ }
      have hpush := hi.push (st' := s1) hrec rfl rfl q.nb (fun id => by rw [q.heap]; simp) (bare_undef _) (.inr rfl) ⟨fun _ id => Tr.get_e id, fun id hid => by cases hid⟩
      have := h4 ρ hl hf1 e2 hpush
      rw [show i + (o :: rest).length = i + 1 + rest.length by simp; omega]
      exact this
    · rename_i s1 hw
      obtain ⟨q, hq⟩ := wantedS_ok (Φ := Φ) (ops := ops) rfl hw
      split at h
      · rename_i hml
        split at h
        · exact er_ne h
        · rename_i v s2 ho
          split at h
          · rename_i hnb
            have hnb : s2.nb = s1.nb := by simpa using hnb
            have hok := op1_ok hT hc ho
            have hle2 := memless_le hok.1 hnb
            obtain ⟨h1, h2⟩ := drawRun_inv hT hc ms hints fr0 st0 rest (i + 1) _ _ _ _ _ d h
            refine ⟨(q.le.trans hle2).trans h1, fun hg => ?_⟩
            obtain ⟨h3, h4⟩ := h2 hg
            refine ⟨h3, fun ρ hl hf hrest hi => ?_⟩
            obtain ⟨e1, e2⟩ := drop_head hrest
            have hl2 : LogOk Φ ρ s2.log := h1.logOk hl
            have hl1 : LogOk Φ ρ s1.log := hok.1.logOk hl2
            have hf1 := q.facts ρ hl1 hf
            have hf2 : Facts ρ s2 := hok.1.facts ρ hl2 hf1
            have hfron : ∀ t, (fr.get t).on (lim s1.nb top) := fun t => by rw [q.nb]; exact hi.frOn t
            obtain ⟨hv, hown⟩ := hok.own hl2 hf1 (own_e _) hfron
            have hrec : RecOk P Φ ρ ops ms fr0 st0 ⟨i, true, [], [], o, true, v, fr, s1, .e, s2⟩ recs :=
              { idx := hi.len.symm, op := by rw [← Array.getElem?_toList]; exact e1, n := hi.n, fr := hi.frEq, vis := fun id k hk => (by rw [Tr.get_e] at hk; cases hk), lo := by rw [q.nb]; exact hi.lo, hi := Nat.le_of_eq hnb.symm,
                behind := fun p hp => by rw [q.nb]; exact hi.behind p hp, off := fun h => (by cases h), want := ⟨st, hw, hf⟩, facts := hf1, logs := ⟨hl1, hl2⟩, ok := fun _ => hok, frOn := hfron,
                visOwn := own_e _, tch := fun id hid => (by cases hid), new := fun id a b => absurd b (by show ¬ id < s2.nb; rw [hnb]; exact Nat.not_lt_of_le a), keep := fun id k hk => (by rw [Tr.get_e] at hk; cases hk), apart := fun p _ _ => ⟨fun id _ => Tr.get_e id, fun id hid => by cases hid⟩ }
            have hpush := hi.push (st' := { s2 with heap := s1.heap, wr := s1.wr }) hrec rfl rfl q.nb (fun id => by rw [← q.heap]; simp) hv (.inr rfl) ⟨fun _ id => Tr.get_e id, fun id hid => by cases hid⟩
            have := h4 ρ hl hf2 e2 hpush
            rw [show i + (o :: rest).length = i + 1 + rest.length by simp; omega]
            exact this
          · exact stop_ne h
      · split at h
        · exact er_ne h
        · rename_i v s2 ho
          have hok := op1_ok hT hc ho
          have hle2 := memful_le hok.1
          obtain ⟨h1, h2⟩ := drawRun_inv hT hc ms hints fr0 st0 rest (i + 1) _ _ _ _ _ d h
          refine ⟨(q.le.trans hle2).trans h1, fun hg => ?_⟩
          obtain ⟨h3, h4⟩ := h2 hg
          rw [Bool.and_eq_true] at h3
          refine ⟨h3.1, fun ρ hl hf hrest hi => ?_⟩
          obtain ⟨e1, e2⟩ := drop_head hrest
          have hl2 : LogOk Φ ρ s2.log := h1.logOk hl
          have hl1 : LogOk Φ ρ s1.log := hok.1.logOk hl2
          have hf1 := q.facts ρ hl1 hf
          have hf2 : Facts ρ s2 := hok.1.facts ρ hl2 hf1
          have hfron : ∀ t, (fr.get t).on (lim s1.nb top) := fun t => by rw [q.nb]; exact hi.frOn t
          have hvis : ∀ id k, (delAll s1.heap (touchedBy (ms.getD i 0) recs ++ hints.getD i [])).get id = some k → st.heap.get id = some k ∧ id ∉ touchedBy (ms.getD i 0) recs := by
            intro id k hk
            rw [get_delAll] at hk
            split at hk
            · cases hk
            · rename_i hn
              rw [List.mem_append, not_or] at hn
              rw [q.heap] at hk
              exact ⟨hk, hn.1⟩
          have hvown : Own (delAll s1.heap (touchedBy (ms.getD i 0) recs ++ hints.getD i [])).get s1.nb :=
            ⟨fun id k hk => by rw [q.nb]; exact hi.own.lt id k (hvis id k hk).1, fun id k hk => by rw [q.nb]; exact hi.own.on id k (hvis id k hk).1, fun id k hk => hi.own.fine id k (hvis id k hk).1⟩
          obtain ⟨hv, hown⟩ := hok.own hl2 hf1 hvown hfron
          obtain ⟨wl, w1, w2, w3⟩ := hok.1.wr
          simp only [List.append_nil] at w1
          have hle : s1.nb ≤ s2.nb := hok.1.nb
          have hmem : ∀ id, id ∈ newIds s1.nb (s2.nb - s1.nb) ++ oldOnes s1.nb s2.wr ↔ (s1.nb ≤ id ∧ id < s2.nb) ∨ (id < s1.nb ∧ id ∈ s2.wr) := by
            intro id
            rw [List.mem_append, mem_newIds, mem_oldOnes]
            constructor
            · rintro (h | h)
              · exact .inl ⟨h.1, by omega⟩
              · exact .inr h
            · rintro (h | h)
              · exact .inl ⟨h.1, by omega⟩
              · exact .inr h
          have htch : ∀ id, id ∈ newIds s1.nb (s2.nb - s1.nb) ++ oldOnes s1.nb s2.wr → (s1.nb ≤ id ∧ id < s2.nb) ∨ (id < s1.nb ∧ (delAll s1.heap (touchedBy (ms.getD i 0) recs ++ hints.getD i [])).get id ≠ none) := by
            intro id hid
            rcases (hmem id).1 hid with h | ⟨hlt, h⟩
            · exact .inl h
            · rw [w1] at h
              exact .inr ⟨hlt, w3 id h hlt⟩
          have hrec : RecOk P Φ ρ ops ms fr0 st0 ⟨i, false, touchedBy (ms.getD i 0) recs ++ hints.getD i [], newIds s1.nb (s2.nb - s1.nb) ++ oldOnes s1.nb s2.wr, o, true, v, fr, s1,
              delAll s1.heap (touchedBy (ms.getD i 0) recs ++ hints.getD i []), s2⟩ recs :=
            { idx := hi.len.symm, op := by rw [← Array.getElem?_toList]; exact e1, n := hi.n, fr := hi.frEq, vis := fun id k hk => by rw [← hi.heap]; exact (hvis id k hk).1, lo := by rw [q.nb]; exact hi.lo, hi := hle,
              behind := fun p hp => by rw [q.nb]; exact hi.behind p hp, off := fun h => (by cases h), want := ⟨st, hw, hf⟩, facts := hf1, logs := ⟨hl1, hl2⟩, ok := fun _ => hok, frOn := hfron,
              visOwn := hvown, tch := htch, new := fun id a b => (hmem id).2 (.inl ⟨a, b⟩),
              keep := fun id k hk hn _ => by
                have hlt := hvown.lt id k hk
                rw [← hk]
                exact w2 id hlt (fun hm => hn ((hmem id).2 (.inr ⟨hlt, by rw [w1]; exact hm⟩))),
              apart := fun p hp hbit => ⟨fun id hid => ?_, fun id hid hlt => ?_⟩ }
          · have hpush := hi.push (st' := { s2 with heap := laid s2.heap s1.heap (newIds s1.nb (s2.nb - s1.nb) ++ oldOnes s1.nb s2.wr), wr := s2.wr ++ s1.wr }) hrec rfl rfl q.nb
              (fun id => by show (laid _ _ _).get id = _; rw [get_laid, q.heap]) hv (.inl hown) ⟨fun h => (by cases h), fun id hid => by rw [get_delAll, if_pos hid]⟩
            have := h4 ρ hl hf2 e2 hpush
            rw [show i + (o :: rest).length = i + 1 + rest.length by simp; omega]
            exact this
          · show (delAll s1.heap _).get id = none
            rw [get_delAll, if_pos]
            exact List.mem_append_left _ (mem_touchedBy _ recs p hp hbit id hid)
          · have hwr : id ∈ s2.wr := by
              rcases (hmem id).1 hid with h | h
              · exact absurd hlt (Nat.not_lt_of_le h.1)
              · exact h.2
            rcases writesOk_at _ _ recs h3.2 p hp hbit with hb | hb
            · exact (hi.hid p hp).1 hb id
            · exact (hi.hid p hp).2 id (hb id hwr)

end
end Go.Sx
