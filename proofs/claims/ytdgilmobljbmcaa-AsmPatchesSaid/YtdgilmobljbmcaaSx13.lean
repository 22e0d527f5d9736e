/-
  A symbolic executor for the model's code: a region in whatever order, the proof.
-/
import Derived.Test.YtdgilmobljbmcaaSx12
namespace Go.Sx
set_option linter.unusedSimpArgs false
set_option linter.unusedVariables false

section
variable {P : Program} {Φ : Phi} {ρ : Env} {ops : Array Oper} {ms : List Nat} {fr0 : Fr} {st0 : St}

theorem Good.split : ∀ {recs : List Rec} (h : Good P Φ ρ ops ms fr0 st0 recs) {r : Rec}, r ∈ recs → ∃ late rs, recs = late ++ r :: rs ∧ RecOk P Φ ρ ops ms fr0 st0 r rs ∧ Good P Φ ρ ops ms fr0 st0 rs
  | [], h, r, hr => by cases hr
  | q :: recs, h, r, hr => by
    rcases List.mem_cons.1 hr with rfl | hr
    · exact ⟨[], recs, rfl, h.1, h.2⟩
    · obtain ⟨late, rs, e, h1, h2⟩ := Good.split h.2 hr
      exact ⟨q :: late, rs, by rw [e]; rfl, h1, h2⟩

theorem Good.late : ∀ {late : List Rec} {rs : List Rec}, Good P Φ ρ ops ms fr0 st0 (late ++ rs) → ∀ q ∈ late, ∃ rs', RecOk P Φ ρ ops ms fr0 st0 q rs' ∧ (∀ p ∈ rs, p ∈ rs') ∧ rs.length ≤ rs'.length
  | [], rs, _, q, hq => by cases hq
  | p :: late, rs, h, q, hq => by
    rcases List.mem_cons.1 hq with rfl | hq
    · exact ⟨late ++ rs, h.1, fun x hx => List.mem_append_right _ hx, by simp⟩
    · exact Good.late h.2 q hq

theorem Good.lt : ∀ {rs : List Rec}, Good P Φ ρ ops ms fr0 st0 rs → ∀ q ∈ rs, q.idx < rs.length
  | [], _, q, hq => by cases hq
  | p :: rs, h, q, hq => by
    rcases List.mem_cons.1 hq with rfl | hq
    · rw [h.1.idx]; simp
    · have := Good.lt h.2 q hq; simp; omega

/-- neither waits for the other -/
def Free (ms : List Nat) (r q : Rec) : Prop := q.idx ≠ r.idx ∧ (q.idx < r.idx → Nat.testBit (ms.getD r.idx 0) q.idx = false) ∧ (r.idx < q.idx → Nat.testBit (ms.getD q.idx 0) r.idx = false)

theorem Free.symm {r q : Rec} (h : Free ms r q) : Free ms q r := ⟨h.1.symm, h.2.2, h.2.1⟩

/-- what two such keep of each other: the earlier first -/
theorem free_pair {recs : List Rec} (hg : Good P Φ ρ ops ms fr0 st0 recs) {r q : Rec} (hr : r ∈ recs) (hq : q ∈ recs) (hf : Free ms r q) (hlt : q.idx < r.idx) :
    (∀ id ∈ q.touched, r.vis.get id = none) ∧ (∀ id ∈ r.touched, q.vis.get id = none) ∧ (∀ id ∈ r.touched, id ∉ q.touched) ∧ q.st1.nb ≤ r.st.nb := by
  obtain ⟨late, rs, e, h1, h2⟩ := hg.split hr
  have hqrs : q ∈ rs := by
    rw [e] at hq
    rcases List.mem_append.1 hq with hq | hq
    · rw [e] at hg
      obtain ⟨rs', h3, h4, h5⟩ := Good.late hg q hq
      rw [h3.idx, h1.idx] at hlt
      simp at h5
      omega
    · rcases List.mem_cons.1 hq with rfl | hq
      · exact absurd hlt (Nat.lt_irrefl _)
      · exact hq
  obtain ⟨a1, a2⟩ := h1.apart q hqrs (hf.2.1 hlt)
  have hb := h1.behind q hqrs
  obtain ⟨late2, rs2, e2, k1, k2⟩ := hg.split hq
  have hqt : ∀ id ∈ q.touched, id < q.st1.nb := fun id hid => by
    rcases k1.tch id hid with h | h
    · exact h.2
    · exact Nat.lt_of_lt_of_le h.1 k1.hi
  refine ⟨a1, fun id hid => ?_, fun id hid hid2 => ?_, hb⟩
  · rcases h1.tch id hid with h | h
    · cases hv : q.vis.get id with
      | none => rfl
      | some k =>
        have := k1.visOwn.lt id k hv
        have := k1.hi
        omega
    · exact a2 id hid h.1
  · rcases h1.tch id hid with h | h
    · have := hqt id hid2
      omega
    · exact h.2 (a1 id hid2)

theorem free_all {recs : List Rec} (hg : Good P Φ ρ ops ms fr0 st0 recs) {r q : Rec} (hr : r ∈ recs) (hq : q ∈ recs) (hf : Free ms r q) :
    (∀ id ∈ q.touched, r.vis.get id = none) ∧ (∀ id ∈ r.touched, id ∉ q.touched) := by
  rcases Nat.lt_or_gt_of_ne hf.1 with h | h
  · have := free_pair hg hr hq hf h
    exact ⟨this.1, this.2.2.1⟩
  · have := free_pair hg hq hr hf.symm h
    exact ⟨this.2.1, fun id h1 h2 => this.2.2.1 id h2 h1⟩

theorem Good.uniq {recs : List Rec} (hg : Good P Φ ρ ops ms fr0 st0 recs) {r q : Rec} (hr : r ∈ recs) (hq : q ∈ recs) (h : q.idx = r.idx) : q = r := by
  obtain ⟨late, rs, e, h1, h2⟩ := hg.split hr
  rw [e] at hq hg
  rcases List.mem_append.1 hq with hq | hq
  · obtain ⟨rs', h3, h4, h5⟩ := Good.late hg q hq
    rw [h3.idx, h1.idx] at h
    simp at h5
    omega
  · rcases List.mem_cons.1 hq with rfl | hq
    · rfl
    · have := Good.lt h2 q hq
      rw [h, h1.idx] at this
      omega

/-- closed downwards -/
def Closed (ms : List Nat) (recs : List Rec) (D : Nat → Bool) : Prop := ∀ q ∈ recs, D q.idx = true → ∀ j, Nat.testBit (ms.getD q.idx 0) j = true → D j = true
/-- may come up -/
def Ready (ms : List Nat) (D : Nat → Bool) (r : Rec) : Prop := D r.idx = false ∧ ∀ j, Nat.testBit (ms.getD r.idx 0) j = true → D j = true

def plus (D : Nat → Bool) (i : Nat) : Nat → Bool := fun j => D j || decide (j = i)

theorem free_of {recs : List Rec} {D : Nat → Bool} (hcl : Closed ms recs D) {r q : Rec} (hq : q ∈ recs) (hrd : Ready ms D r) (hne : q.idx ≠ r.idx)
    (h : (D q.idx = true ∧ r.idx < q.idx) ∨ (D q.idx = false ∧ q.idx < r.idx)) : Free ms r q := by
  refine ⟨hne, fun h1 => ?_, fun h1 => ?_⟩
  · rcases h with h | h
    · omega
    · cases hb : Nat.testBit (ms.getD r.idx 0) q.idx with
      | false => rfl
      | true => have := hrd.2 _ hb; rw [h.1] at this; cases this
  · rcases h with h | h
    · cases hb : Nat.testBit (ms.getD q.idx 0) r.idx with
      | false => rfl
      | true => have := hcl q hq h.1 _ hb; rw [hrd.1] at this; cases this
    · omega

/-- What r finds is what it found in the text's order. -/
theorem agree {β : Type} {recs : List Rec} (hg : Good P Φ ρ ops ms fr0 st0 recs) {D : Nat → Bool} (hcl : Closed ms recs D) {r : Rec} {late rs : List Rec} (e : recs = late ++ r :: rs)
    (hrec : RecOk P Φ ρ ops ms fr0 st0 r rs) (hrs : Good P Φ ρ ops ms fr0 st0 rs) (hrd : Ready ms D r) {f : Rec → Option β} (b : β) (hf : ∀ q ∈ recs, Free ms r q → f q = none) :
    lastN D f recs b = lastN (fun _ => true) f rs b := by
  have hlate : ∀ q ∈ late, r.idx < q.idx := by
    intro q hq
    have hg' := hg
    rw [e] at hg'
    obtain ⟨rs', h3, h4, h5⟩ := Good.late hg' q hq
    rw [h3.idx, hrec.idx]
    simp at h5
    omega
  have hearly : ∀ q ∈ rs, q.idx < r.idx := fun q hq => by rw [hrec.idx]; exact Good.lt hrs q hq
  have hin1 : ∀ q ∈ late, q ∈ recs := fun q hq => by rw [e]; exact List.mem_append_left _ hq
  have hin2 : ∀ q ∈ rs, q ∈ recs := fun q hq => by rw [e]; exact List.mem_append_right _ (List.mem_cons_of_mem _ hq)
  rw [e, lastN_skip late _ b (fun q hq hD => hf q (hin1 q hq) (free_of hcl (hin1 q hq) hrd (by have := hlate q hq; omega) (.inl ⟨hD, hlate q hq⟩)))]
  simp only [lastN, hrd.1, Bool.false_eq_true, if_false]
  refine lastN_congr rs b fun q hq hD => hf q (hin2 q hq) (free_of hcl (hin2 q hq) hrd (by have := hearly q hq; omega) (.inr ⟨?_, hearly q hq⟩))
  cases hd : D q.idx with
  | false => rfl
  | true => rw [hd] at hD; exact absurd rfl hD

/-- With r done too. -/
theorem lastN_plus {β : Type} {recs : List Rec} (hg : Good P Φ ρ ops ms fr0 st0 recs) {D : Nat → Bool} (hcl : Closed ms recs D) {r : Rec} (hr : r ∈ recs) (hrd : Ready ms D r) {f : Rec → Option β} (b : β)
    (hf : f r ≠ none → ∀ q ∈ recs, Free ms r q → f q = none) :
    lastN (plus D r.idx) f recs b = match f r with | some x => x | none => lastN D f recs b := by
  obtain ⟨late, rs, e, hrec, hrs⟩ := hg.split hr
  cases hfr : f r with
  | none =>
    simp only
    refine lastN_congr recs b fun q hq hD => ?_
    have : q.idx = r.idx := by
      by_cases h : q.idx = r.idx
      · exact h
      · simp [plus, h] at hD
    rw [hg.uniq hr hq this]
    exact hfr
  | some x =>
    simp only
    have hlate : ∀ q ∈ late, r.idx < q.idx := by
      intro q hq
      have hg' := hg
      rw [e] at hg'
      obtain ⟨rs', h3, h4, h5⟩ := Good.late hg' q hq
      rw [h3.idx, hrec.idx]
      simp at h5
      omega
    have hin1 : ∀ q ∈ late, q ∈ recs := fun q hq => by rw [e]; exact List.mem_append_left _ hq
    rw [e, lastN_skip late _ b (fun q hq hD => ?_)]
    · simp [lastN, plus, hfr]
    · have hne : q.idx ≠ r.idx := by have := hlate q hq; omega
      have hD : D q.idx = true := by simpa [plus, hne] using hD
      exact hf (by rw [hfr]; simp) q (hin1 q hq) (free_of hcl (hin1 q hq) hrd hne (.inl ⟨hD, hlate q hq⟩))

/-- blocks of old that stood nowhere are touched by nobody -/
theorem untouched : ∀ {recs : List Rec}, Good P Φ ρ ops ms fr0 st0 recs → ∀ id, id < st0.nb → st0.heap.get id = none → ∀ q ∈ recs, id ∉ q.touched
  | [], _, id, _, _, q, hq => by cases hq
  | r :: rs, h, id, hlt, hn, q, hq => by
    have ih := untouched h.2 id hlt hn
    rcases List.mem_cons.1 hq with rfl | hq
    · intro hid
      rcases h.1.tch id hid with h1 | h1
      · have := h.1.lo; omega
      · cases hv : q.vis.get id with
        | none => exact h1.2 hv
        | some k =>
          have := h.1.vis id k hv
          rw [lastN_none rs _ (fun p hp _ => by simp [heapW, ih p hp]), hn] at this
          cases this
    · exact ih q hq

/-- the blocks that are there when D is done -/
def live (A : Nat → Prop) (st0 : St) (recs : List Rec) (D : Nat → Bool) : Nat → Prop :=
  fun id => A id ∧ (id < st0.nb ∨ ∃ q ∈ recs, D q.idx = true ∧ q.st.nb ≤ id ∧ id < q.st1.nb)

def slotsOf (fr0 : Fr) (recs : List Rec) (D : Nat → Bool) (t : Nat) : SV := lastN D (slotW t fr0.n) recs (fr0.get t)
def heapOf (st0 : St) (recs : List Rec) (D : Nat → Bool) (id : Nat) : Option Blk := lastN D (heapW id) recs (st0.heap.get id)

structure DInv (ρ : Env) (A : Nat → Prop) (fr0 : Fr) (st0 : St) (recs : List Rec) (ι0 : Loc) (w0 : World) (a0 : Act) (D : Nat → Bool) (ι : Loc) (a : Act) (w : World) : Prop where
  alike : Loc.alike (fun i => i < st0.nb) ι0 ι
  size : a.tmps.size = fr0.n
  defers : a.defers = a0.defers
  slot : ∀ t, a.tmps.getD t undef = (slotsOf fr0 recs D t).den ρ ι
  son : ∀ t, (slotsOf fr0 recs D t).on (live A st0 recs D)
  blk : ∀ id k, heapOf st0 recs D id = some k → BlkAt ρ ι k w.heap[ι.blk id]?
  bon : ∀ id k, heapOf st0 recs D id = some k → k.on (live A st0 recs D) ∧ live A st0 recs D id
  inj : ∀ id id' k k', heapOf st0 recs D id = some k → heapOf st0 recs D id' = some k' → ι.blk id = ι.blk id' → id = id'
  os : w.os = w0.os
  tape : w.tape = w0.tape
  output : w.output = w0.output
  wsize : w0.heap.size ≤ w.heap.size
  fresh : ∀ q ∈ recs, D q.idx = true → ∀ id, q.st.nb ≤ id → id < q.st1.nb → w0.heap.size ≤ ι.blk id
  same : ∀ b, b < w0.heap.size → (∀ id k, st0.heap.get id = some k → ι0.blk id ≠ b) → w.heap[b]? = w0.heap[b]?

theorem live_plus {A : Nat → Prop} {recs : List Rec} {D : Nat → Bool} {i id : Nat} (h : live A st0 recs D id) : live A st0 recs (plus D i) id := by
  refine ⟨h.1, h.2.imp (fun h => h) fun ⟨q, hq, hD, h1⟩ => ⟨q, hq, by simp [plus, hD], h1⟩⟩

theorem SC.on_and {A B : Nat → Prop} {c : SC} (h1 : c.on A) (h2 : c.on B) : c.on (fun i => A i ∧ B i) := by
  cases c <;> simp only [SC.on] at * <;> first | exact ⟨h1, h2⟩ | (intro p hp; exact ⟨h1 p hp, h2 p hp⟩)
theorem SV.on_and {A B : Nat → Prop} {v : SV} (h1 : v.on A) (h2 : v.on B) : v.on (fun i => A i ∧ B i) := by
  cases v with
  | w x => exact fun c hc => SC.on_and (h1 c hc) (h2 c hc)
  | tup xs => exact fun x hx c hc => SC.on_and (h1 x hx c hc) (h2 x hx c hc)

/-- what the region's text says of its operations -/
structure Stat (ops : Array Oper) (ms : List Nat) : Prop where
  apart : ∀ i oi, ops[i]? = some oi → ∀ j oj, j < i → ops[j]? = some oj → Nat.testBit (ms.getD i 0) j = false → oj.apart ops oi = true

theorem Stat.free (hs : Stat ops ms) {recs : List Rec} (hg : Good P Φ ρ ops ms fr0 st0 recs) {r q : Rec} (hr : r ∈ recs) (hq : q ∈ recs) (hf : Free ms r q) :
    (∀ d, q.o.dst = some d → d ∉ r.o.looksAt ops) ∧ (∀ d, q.o.dst = some d → r.o.dst ≠ some d) := by
  obtain ⟨_, _, _, h1, _⟩ := hg.split hr
  obtain ⟨_, _, _, h2, _⟩ := hg.split hq
  rcases Nat.lt_or_gt_of_ne hf.1 with h | h
  · have := Oper.apart_spec (hs.apart r.idx r.o h1.op q.idx q.o h h2.op (hf.2.1 h))
    exact ⟨this.1, this.2.1⟩
  · have := Oper.apart_spec (hs.apart q.idx q.o h2.op r.idx r.o h h1.op (hf.2.2 h))
    exact ⟨this.2.2, fun d hd he => this.2.1 d he hd⟩

theorem slot_agree (hs : Stat ops ms) {recs : List Rec} (hg : Good P Φ ρ ops ms fr0 st0 recs) {D : Nat → Bool} (hcl : Closed ms recs D) {r : Rec} (hr : r ∈ recs) (hrd : Ready ms D r)
    {t : Nat} (ht : t ∈ r.o.looksAt ops) : slotsOf fr0 recs D t = r.fr.get t := by
  obtain ⟨late, rs, e, hrec, hrs⟩ := hg.split hr
  unfold slotsOf
  rw [agree hg hcl e hrec hrs hrd _ fun q hq hf => ?_, hrec.fr t]
  unfold slotW
  rw [if_neg]
  rintro ⟨hd, _⟩
  exact (hs.free hg hr hq hf).1 t hd ht

theorem vis_agree {recs : List Rec} (hg : Good P Φ ρ ops ms fr0 st0 recs) {D : Nat → Bool} (hcl : Closed ms recs D) {r : Rec} (hr : r ∈ recs) (hrd : Ready ms D r)
    {id : Nat} {k : Blk} (hk : r.vis.get id = some k) : heapOf st0 recs D id = some k := by
  obtain ⟨late, rs, e, hrec, hrs⟩ := hg.split hr
  unfold heapOf
  rw [agree hg hcl e hrec hrs hrd _ fun q hq hf => ?_]
  · exact hrec.vis id k hk
  · unfold heapW
    rw [if_neg]
    intro hid
    rw [(free_all hg hr hq hf).1 id hid] at hk
    cases hk

theorem slots_plus (hs : Stat ops ms) {recs : List Rec} (hg : Good P Φ ρ ops ms fr0 st0 recs) {D : Nat → Bool} (hcl : Closed ms recs D) {r : Rec} (hr : r ∈ recs) (hrd : Ready ms D r) (t : Nat) :
    slotsOf fr0 recs (plus D r.idx) t = if r.o.dst = some t ∧ t < fr0.n then r.v else slotsOf fr0 recs D t := by
  unfold slotsOf
  rw [lastN_plus hg hcl hr hrd _ fun hne q hq hf => ?_]
  · by_cases hc : r.o.dst = some t ∧ t < fr0.n
    · have : slotW t fr0.n r = some r.v := if_pos hc
      rw [this, if_pos hc]
    · have : slotW t fr0.n r = none := if_neg hc
      rw [this, if_neg hc]
  · unfold slotW
    rw [if_neg]
    rintro ⟨hd, _⟩
    apply hne
    unfold slotW
    rw [if_neg]
    rintro ⟨hd', _⟩
    exact (hs.free hg hr hq hf).2 t hd hd'

theorem heap_plus {recs : List Rec} (hg : Good P Φ ρ ops ms fr0 st0 recs) {D : Nat → Bool} (hcl : Closed ms recs D) {r : Rec} (hr : r ∈ recs) (hrd : Ready ms D r) (id : Nat) :
    heapOf st0 recs (plus D r.idx) id = if id ∈ r.touched then r.st1.heap.get id else heapOf st0 recs D id := by
  unfold heapOf
  rw [lastN_plus hg hcl hr hrd _ fun hne q hq hf => ?_]
  · unfold heapW
    split <;> simp_all
  · unfold heapW
    rw [if_neg]
    intro hid
    apply hne
    unfold heapW
    rw [if_neg]
    intro hid'
    exact (free_all hg hr hq hf).2 id hid' hid

theorem range_apart {recs : List Rec} (hg : Good P Φ ρ ops ms fr0 st0 recs) {r q : Rec} (hr : r ∈ recs) (hq : q ∈ recs) (hne : q.idx ≠ r.idx) : q.st1.nb ≤ r.st.nb ∨ r.st1.nb ≤ q.st.nb := by
  obtain ⟨late, rs, e, h1, h2⟩ := hg.split hr
  have hq' := hq
  rw [e] at hq'
  rcases List.mem_append.1 hq' with hql | hql
  · rw [e] at hg
    obtain ⟨rs', h3, h4, h5⟩ := Good.late hg q hql
    exact .inr (h3.behind r (h4 r (List.mem_cons_self ..)))
  · rcases List.mem_cons.1 hql with rfl | hql
    · exact absurd rfl hne
    · exact .inl (h1.behind q hql)

theorem draw_step (hs : Stat ops ms) {recs : List Rec} (hg : Good P Φ ρ ops ms fr0 st0 recs) {A : Nat → Prop} (hA : ∀ r ∈ recs, ∀ id, r.st.nb ≤ id → id < r.st1.nb → A id)
    {ι0 : Loc} {w0 : World} {a0 : Act} {D : Nat → Bool} (hcl : Closed ms recs D) {ι : Loc} {a : Act} {w : World} (hi : DInv ρ A fr0 st0 recs ι0 w0 a0 D ι a w) {r : Rec} (hr : r ∈ recs) (hrd : Ready ms D r)
    {K : Act → World → Prop} {Q : Exit → Act → World → Prop} (hK : ∀ ι' a' w', DInv ρ A fr0 st0 recs ι0 w0 a0 (plus D r.idx) ι' a' w' → K a' w') : wpOp P ops Q r.idx K a w := by
  obtain ⟨late, rs, e, hrec, hrs⟩ := hg.split hr
  have hlook : ∀ d, d ∈ r.o.looksAt ops → a.tmps.getD d undef = (r.fr.get d).den ρ ι := fun d hd => by rw [hi.slot d, slot_agree hs hg hcl hr hrd hd]
  obtain ⟨stw, hw, hfw⟩ := hrec.want
  obtain ⟨_, hwant⟩ := wantedS_ok (Φ := Φ) (ops := ops) rfl hw
  have hwant := hwant ρ hrec.logs.1 hfw ι a (by rw [hrec.n]; exact hi.size) hlook
  unfold wpOp
  simp only [hrec.op]
  rw [hwant]
  cases hon : r.on with
  | false =>
    simp only [Bool.false_eq_true, if_false]
    obtain ⟨hv, ht, hnb⟩ := hrec.off hon
    have hsl := slots_plus hs hg hcl hr hrd
    have hhp := heap_plus hg hcl hr hrd
    simp only [ht, List.not_mem_nil, if_false] at hhp
    refine hK ι _ w ⟨hi.alike, by rw [put_size]; exact hi.size, by rw [put_defers]; exact hi.defers, fun t => ?_, fun t => ?_, fun id k hk => ?_, fun id k hk => ?_, fun id id' k k' hk hk' he => ?_, hi.os, hi.tape, hi.output, hi.wsize, fun q hq hD id h1 h2 => ?_, hi.same⟩
    · rw [put_getD, hsl, hi.size, hi.slot t, hv]
      split <;> rfl
    · rw [hsl, hv]
      split
      · exact bare_undef _
      · exact SV.on_mono (fun i h => live_plus h) (hi.son t)
    · rw [hhp] at hk; exact hi.blk id k hk
    · rw [hhp] at hk
      obtain ⟨h1, h2⟩ := hi.bon id k hk
      exact ⟨fun j hj => SC.on_mono (fun i h => live_plus h) (h1 j hj), live_plus h2⟩
    · rw [hhp] at hk hk'; exact hi.inj id id' k k' hk hk' he
    · by_cases hne : q.idx = r.idx
      · rw [hg.uniq hr hq hne] at h1 h2
        omega
      · exact hi.fresh q hq (by simpa [plus, hne] using hD) id h1 h2
  | true =>
    simp only [if_true]
    refine .inl ?_
    have hvh : ∀ {id k}, r.vis.get id = some k → heapOf st0 recs D id = some k := fun hk => vis_agree hg hcl hr hrd hk
    -- the set of blocks at hand
    have hA1 : ∀ id, r.st.nb ≤ id → id < r.st1.nb → live A st0 recs (plus D r.idx) id := fun id h1 h2 => ⟨hA r hr id h1 h2, .inr ⟨r, hr, by simp [plus], h1, h2⟩⟩
    have hrep : Rep ρ ι (live A st0 recs (plus D r.idx)) r.vis.get r.st.nb w := by
      refine ⟨fun id k hk => ⟨hrec.visOwn.lt id k hk, live_plus (hi.bon id k (hvh hk)).2⟩, fun id k hk => hi.blk id k (hvh hk), fun id k hk j hj => ?_, fun id id' k k' hk hk' he => hi.inj id id' k k' (hvh hk) (hvh hk') he⟩
      have h1 := hrec.visOwn.on id k hk j hj
      have h2 := (hi.bon id k (hvh hk)).1 j hj
      exact SC.on_mono (fun i h => ⟨h.1.1, live_plus h.2⟩) (SC.on_and h1 h2)
    have hops : ∀ x ∈ r.o.op.operands, a.eval x = (r.fr.eval x).den ρ ι ∧ (r.fr.eval x).on (lim r.st.nb (live A st0 recs (plus D r.idx))) := by
      intro x hx
      cases x with
      | tmp t =>
        have hl : t ∈ r.o.looksAt ops := List.mem_append_left _ (List.mem_filterMap.2 ⟨.tmp t, by simpa using hx, rfl⟩)
        refine ⟨hlook t hl, ?_⟩
        have h1 := hrec.frOn t
        have h2 := hi.son t
        rw [slot_agree hs hg hcl hr hrd hl] at h2
        exact SV.on_mono (fun i h => ⟨h.1.1, live_plus h.2⟩) (SV.on_and h1 h2)
      | const v => exact ⟨(ofVal_den v ρ _).symm, ofVal_on v _⟩
      | global g => exact ⟨rfl, bare_c (x := .lit (.pointer (some ⟨g, 0, none⟩))) (fun _ => trivial) _⟩
      | func f => exact ⟨rfl, bare_c (x := .lit (.func (.func f) #[] #[])) (fun _ => trivial) _⟩
    refine (hrec.ok hon).2 ρ hrec.logs.2 hrec.facts (live A st0 recs (plus D r.idx)) hA1 ι w a hrep hops K Q fun ι1 w1 hp hv => ?_
    -- the places of the blocks from here on
    let ι2 : Loc := ⟨fun i => if i < r.st1.nb then ι1.blk i else ι.blk i, fun i => if i < r.st1.nb then ι1.cap i else ι.cap i⟩
    have h12 : Loc.alike (fun i => i < r.st1.nb) ι1 ι2 := fun i hi => by simp [ι2, hi]
    have h02 : Loc.alike (live A st0 recs D) ι ι2 := by
      intro i hl
      by_cases h : i < r.st1.nb
      · have hlt : i < r.st.nb := by
          rcases Nat.lt_or_ge i r.st.nb with h3 | h3
          · exact h3
          · exfalso
            rcases hl.2 with h4 | ⟨q, hq, hD, h5, h6⟩
            · have := hrec.lo; omega
            · have hne : q.idx ≠ r.idx := fun he => by rw [he, hrd.1] at hD; cases hD
              rcases range_apart hg hr hq hne with h7 | h7 <;> omega
        have := hp.alike i hlt
        simp only [ι2, h, if_true]
        exact this
      · simp [ι2, h]
    have hsl := slots_plus hs hg hcl hr hrd
    have hhp := heap_plus hg hcl hr hrd
    -- a block of the new heap is one of the operation's, or one that it did not see
    have hcase : ∀ id k, heapOf st0 recs (plus D r.idx) id = some k →
        (r.st1.heap.get id = some k ∧ (id < r.st.nb → ∃ k', heapOf st0 recs D id = some k')) ∨ (heapOf st0 recs D id = some k ∧ r.vis.get id = none) := by
      intro id k hk
      rw [hhp] at hk
      split at hk
      · rename_i ht
        refine .inl ⟨hk, fun hlt => ?_⟩
        rcases hrec.tch id ht with h | h
        · omega
        · cases hv' : r.vis.get id with
          | none => exact absurd hv' h.2
          | some k' => exact ⟨k', hvh hv'⟩
      · rename_i ht
        cases hv' : r.vis.get id with
        | none => exact .inr ⟨hk, rfl⟩
        | some k' =>
          have := hvh hv'
          rw [this] at hk
          simp only [Option.some.injEq] at hk
          subst hk
          exact .inl ⟨hrec.keep id k' hv' ht hon, fun _ => ⟨k', this⟩⟩
    have hwlt : ∀ id k, heapOf st0 recs D id = some k → ι.blk id < w.heap.size := by
      intro id k hk
      obtain ⟨x, h1⟩ := (hi.blk id k hk).obj
      exact (Array.getElem?_eq_some_iff.1 h1).1
    refine hK ι2 _ w1 ⟨fun i h => ?_, by rw [put_size]; exact hi.size, by rw [put_defers]; exact hi.defers, fun t => ?_, fun t => ?_, fun id k hk => ?_, fun id k hk => ?_, fun id id' k k' hk hk' he => ?_,
      hp.os.trans hi.os, hp.tape.trans hi.tape, hp.output.trans hi.output, Nat.le_trans hi.wsize hp.size, fun q hq hD id h1 h2 => ?_, fun b hb hn => ?_⟩
    · have h3 : i < r.st.nb := Nat.lt_of_lt_of_le h hrec.lo
      have h4 : i < r.st1.nb := Nat.lt_of_lt_of_le h3 hrec.hi
      have h5 := hi.alike i h
      have h6 := hp.alike i h3
      have h7 := h12 i h4
      exact ⟨by rw [h7.1, h6.1, h5.1], by rw [h7.2, h6.2, h5.2]⟩
    · rw [put_getD, hsl, hi.size, hi.slot t]
      split
      · exact (SV.den_alike (A := lim r.st1.nb (live A st0 recs (plus D r.idx))) (fun i h => h12 i h.1) ρ hv).symm
      · exact (SV.den_alike h02 ρ (hi.son t)).symm
    · rw [hsl]
      split
      · exact SV.on_mono (fun i h => h.2) hv
      · exact SV.on_mono (fun i h => live_plus h) (hi.son t)
    · rcases hcase id k hk with ⟨h1, _⟩ | ⟨h1, h2⟩
      · have hlt := (hp.rep.lt id k h1).1
        have := (hp.rep.blk id k h1).alike (A := lim r.st1.nb (live A st0 recs (plus D r.idx))) (fun i h => h12 i h.1) (hp.rep.on id k h1)
        rw [← (h12 id hlt).1] at this
        exact this
      · obtain ⟨b1, b2⟩ := hi.bon id k h1
        have := (hi.blk id k h1).alike h02 b1
        rw [(h02 id b2).1, hp.same _ (hwlt id k h1) fun id' k' hk' he' => ?_]
        · exact this
        · have hh := hvh (show r.vis.get id' = some k' from hk')
          have := hi.inj id' id k' k hh h1 he'
          rw [this, h2] at hk'
          cases hk'
    · rcases hcase id k hk with ⟨h1, _⟩ | ⟨h1, h2⟩
      · exact ⟨fun j hj => SC.on_mono (fun i h => h.2) (hp.rep.on id k h1 j hj), (hp.rep.lt id k h1).2⟩
      · obtain ⟨b1, b2⟩ := hi.bon id k h1
        exact ⟨fun j hj => SC.on_mono (fun i h => live_plus h) (b1 j hj), live_plus b2⟩
    · have cross : ∀ {x y kx ky}, r.st1.heap.get x = some kx → (x < r.st.nb → ∃ k', heapOf st0 recs D x = some k') → heapOf st0 recs D y = some ky → ι2.blk x = ι2.blk y → x = y := by
        intro x y kx ky hx hxo hy hxy
        have hltx := (hp.rep.lt x kx hx).1
        rw [(h12 x hltx).1, (h02 y (hi.bon y ky hy).2).1] at hxy
        by_cases hlt : x < r.st.nb
        · obtain ⟨k', hk'⟩ := hxo hlt
          rw [(hp.alike x hlt).1] at hxy
          exact hi.inj x y k' ky hk' hy hxy
        · have := hp.fresh x (Nat.le_of_not_lt hlt) hltx
          have := hwlt y ky hy
          omega
      rcases hcase id k hk with ⟨h1, h1'⟩ | ⟨h1, _⟩
      · rcases hcase id' k' hk' with ⟨h2, _⟩ | ⟨h2, _⟩
        · rw [(h12 id (hp.rep.lt id k h1).1).1, (h12 id' (hp.rep.lt id' k' h2).1).1] at he
          exact hp.rep.inj id id' k k' h1 h2 he
        · exact cross h1 h1' h2 he
      · rcases hcase id' k' hk' with ⟨h2, h2'⟩ | ⟨h2, _⟩
        · exact (cross h2 h2' h1 he.symm).symm
        · rw [(h02 id (hi.bon id k h1).2).1, (h02 id' (hi.bon id' k' h2).2).1] at he
          exact hi.inj id id' k k' h1 h2 he
    · by_cases hne : q.idx = r.idx
      · rw [hg.uniq hr hq hne] at h1 h2
        rw [(h12 id h2).1]
        exact Nat.le_trans hi.wsize (hp.fresh id h1 h2)
      · have hD' : D q.idx = true := by simpa [plus, hne] using hD
        have := hi.fresh q hq hD' id h1 h2
        rcases range_apart hg hr hq hne with h7 | h7
        · have h8 : id < r.st.nb := by omega
          rw [(h12 id (Nat.lt_of_lt_of_le h8 hrec.hi)).1, (hp.alike id h8).1]
          exact this
        · have h8 : ¬ id < r.st1.nb := by omega
          simp only [ι2, h8, if_false]
          exact this
    · rw [hp.same b (Nat.lt_of_lt_of_le hb hi.wsize) fun id k hk he => ?_]
      · exact hi.same b hb hn
      · have hh := hvh (show r.vis.get id = some k from hk)
        by_cases hlt : id < st0.nb
        · cases hg0 : st0.heap.get id with
          | none =>
            have hun := untouched hg id hlt hg0
            unfold heapOf at hh
            rw [lastN_none recs _ (fun q hq _ => by simp [heapW, hun q hq]), hg0] at hh
            cases hh
          | some k0 =>
            rw [(hi.alike id hlt).1] at he
            exact hn id k0 hg0 he
        · rcases (hi.bon id k hh).2.2 with h1 | ⟨q, hq, hD, h1, h2⟩
          · exact hlt h1
          · have := hi.fresh q hq hD id h1 h2
            omega

/-! ### All orders -/
def doneOf (listed : Array Bool) : Nat → Bool := fun j => listed.getD j false

theorem doneOf_set {listed : Array Bool} {i : Nat} (h : i < listed.size) : doneOf (listed.setIfInBounds i true) = plus (doneOf listed) i := by
  funext j
  unfold doneOf plus
  by_cases e : j = i
  · subst e; simp [h]
  · simp [e, Array.getElem?_setIfInBounds_ne (Ne.symm e)]

/-- how many have not come up -/
def openOf (n : Nat) (D : Nat → Bool) : Nat := ((List.range n).filter fun j => !D j).length

theorem filter_lt {l : List Nat} {p q : Nat → Bool} (h : ∀ x, q x = true → p x = true) {y : Nat} (hy : y ∈ l) (hp : p y = true) (hq : q y = false) : (l.filter q).length < (l.filter p).length := by
  induction l with
  | nil => cases hy
  | cons x l ih =>
    have hle : ∀ l : List Nat, (l.filter q).length ≤ (l.filter p).length := by
      intro l
      induction l with
      | nil => simp
      | cons z l ih =>
        simp only [List.filter_cons]
        cases hz : q z with
        | true => rw [h z hz]; simpa using ih
        | false =>
          cases p z <;> simp <;> omega
    simp only [List.filter_cons]
    rcases List.mem_cons.1 hy with rfl | hy
    · rw [hp, hq]
      have := hle l
      simp
      omega
    · have := ih hy
      cases hx : q x with
      | true => rw [h x hx]; simpa using this
      | false => cases p x <;> simp <;> omega

theorem openOf_plus {n i : Nat} {D : Nat → Bool} (hi : i < n) (hD : D i = false) : openOf n (plus D i) < openOf n D := by
  refine filter_lt (y := i) (fun x hx => ?_) (by simpa using hi) (by simp [hD]) (by simp [plus])
  simp only [plus, Bool.not_eq_true', Bool.or_eq_false_iff] at hx
  simp [hx.1]

theorem draw_any (hs : Stat ops ms) (hm : ∀ i o, ops[i]? = some o → ∀ j, Nat.testBit (ms.getD i 0) j = true ↔ ∃ e ∈ o.after, bindsE e = true ∧ (e.on = j ∨ Nat.testBit (ms.getD e.on 0) j = true))
    (hback : ∀ i o, ops[i]? = some o → ∀ e ∈ o.after, bindsE e = true → e.on < i)
    {recs : List Rec} (hg : Good P Φ ρ ops ms fr0 st0 recs) (hlen : recs.length = ops.size) {A : Nat → Prop} (hA : ∀ r ∈ recs, ∀ id, r.st.nb ≤ id → id < r.st1.nb → A id)
    {ι0 : Loc} {w0 : World} {a0 : Act} {Q : Exit → Act → World → Prop} (hQ : ∀ ι a w, DInv ρ A fr0 st0 recs ι0 w0 a0 (fun j => decide (j < ops.size)) ι a w → Q .normal a w) :
    ∀ (fuel : Nat) (listed : Array Bool) (ι : Loc) (a : Act) (w : World), listed.size = ops.size → openOf ops.size (doneOf listed) ≤ fuel → Closed ms recs (doneOf listed) →
      DInv ρ A fr0 st0 recs ι0 w0 a0 (doneOf listed) ι a w → wpAny P .any ops Q fuel listed a w := by
  have hrec : ∀ i, i < ops.size → ∃ r ∈ recs, r.idx = i := by
    intro i hi
    have : ∀ (l : List Rec), Good P Φ ρ ops ms fr0 st0 l → ∀ i, i < l.length → ∃ r ∈ l, r.idx = i := by
      intro l
      induction l with
      | nil => intro _ i hi; simp at hi
      | cons x l ih =>
        intro h i hi
        by_cases e : i = l.length
        · exact ⟨x, List.mem_cons_self .., by rw [h.1.idx, e]⟩
        · obtain ⟨r, h1, h2⟩ := ih h.2 i (by simp at hi; omega)
          exact ⟨r, List.mem_cons_of_mem _ h1, h2⟩
    exact this recs hg i (by omega)
  have hfull : ∀ (listed : Array Bool), listed.size = ops.size → (∀ j, j < ops.size → doneOf listed j = true) → doneOf listed = fun j => decide (j < ops.size) := by
    intro listed hsz h
    funext j
    by_cases hj : j < ops.size
    · rw [h j hj]; simp [hj]
    · simp [doneOf, hj, hsz]
  have hnone : ∀ (listed : Array Bool), listed.size = ops.size → Region.ready .any ops listed = [] → ∀ j, j < ops.size → doneOf listed j = true := by
    intro listed hsz hrd j
    induction j using Nat.strongRecOn with
    | _ j ih =>
      intro hj
      cases hd : doneOf listed j with
      | true => rfl
      | false =>
        exfalso
        have hj' : j < listed.size := by omega
        have hget : listed.getD j true = false := by
          unfold doneOf at hd
          simp [hj'] at hd ⊢
          exact hd
        have : j ∈ Region.ready .any ops listed := by
          rw [mem_ready]
          refine ⟨hget, ops[j], by simp [hj], fun e he hb => ?_⟩
          rw [binds_any] at hb
          have hlt := hback j ops[j] (by simp [hj]) e he hb
          exact ih e.on hlt (by omega)
        rw [hrd] at this
        cases this
  intro fuel
  induction fuel with
  | zero =>
    intro listed ι a w hsz hop hcl hi
    have hall : ∀ j, j < ops.size → doneOf listed j = true := by
      intro j hj
      cases hd : doneOf listed j with
      | true => rfl
      | false =>
        exfalso
        have : j ∈ (List.range ops.size).filter fun j => !doneOf listed j := by simp [hj, hd]
        have h0 : openOf ops.size (doneOf listed) = 0 := by omega
        unfold openOf at h0
        rw [List.length_eq_zero_iff] at h0
        rw [h0] at this
        cases this
    refine ⟨?_, ?_⟩
    · apply List.eq_nil_iff_forall_not_mem.2
      intro j hj
      rw [mem_ready] at hj
      obtain ⟨h1, o, h2, _⟩ := hj
      have hlt : j < ops.size := (Array.getElem?_eq_some_iff.1 h2).1
      have := hall j hlt
      have hj' : j < listed.size := by omega
      unfold doneOf at this
      simp [hj'] at this h1
      rw [this] at h1
      cases h1
    · rw [hfull listed hsz hall] at hi
      exact hQ ι a w hi
  | succ fuel ih =>
    intro listed ι a w hsz hop hcl hi
    refine ⟨fun hrd => ?_, fun i hir => ?_⟩
    · have := hnone listed hsz hrd
      rw [hfull listed hsz this] at hi
      exact hQ ι a w hi
    · rw [mem_ready] at hir
      obtain ⟨h1, o, h2, h3⟩ := hir
      have hlt : i < ops.size := (Array.getElem?_eq_some_iff.1 h2).1
      have hi' : i < listed.size := by omega
      obtain ⟨r, hr, hri⟩ := hrec i hlt
      have hD : doneOf listed i = false := by
        unfold doneOf
        simp [hi'] at h1 ⊢
        exact h1
      have hrd : Ready ms (doneOf listed) r := by
        refine ⟨by rw [hri]; exact hD, fun j hb => ?_⟩
        rw [hri, hm i o h2 j] at hb
        obtain ⟨e, he, hbe, hj⟩ := hb
        have hle := h3 e he (by rw [binds_any]; exact hbe)
        rcases hj with rfl | hj
        · exact hle
        · have hlt2 := hback i o h2 e he hbe
          obtain ⟨q, hq, hqi⟩ := hrec e.on (by omega)
          exact hcl q hq (by rw [hqi]; exact hle) j (by rw [hqi]; exact hj)
      rw [← hri]
      refine draw_step hs hg hA hcl hi hr hrd fun ι' a' w' hi2 => ?_
      rw [hri] at hi2 ⊢
      rw [← doneOf_set hi'] at hi2
      refine ih _ ι' a' w' (by simp [hsz]) ?_ ?_ hi2
      · rw [doneOf_set hi']
        have := openOf_plus (n := ops.size) hlt hD
        omega
      · rw [doneOf_set hi']
        intro q hq hqD j hb
        by_cases e : q.idx = i
        · have := hg.uniq hr hq (by rw [e, hri])
          subst this
          have := hrd.2 j hb
          simp [plus, this]
        · have : doneOf listed q.idx = true := by simpa [plus, e] using hqD
          have := hcl q hq this j hb
          simp [plus, this]

end
end Go.Sx
