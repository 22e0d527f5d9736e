/-
  A symbolic executor for the model's code: regions, code.
-/
import Derived.Test.YtdgilmobljbmcaaSx13
namespace Go.Sx
set_option linter.unusedSimpArgs false
set_option linter.unusedVariables false

section
variable {P : Program}

theorem lastN_false {β : Type} {D : Nat → Bool} (h : ∀ j, D j = false) (f : Rec → Option β) (b : β) : ∀ rs, lastN D f rs b = b
  | [] => rfl
  | r :: rs => by simp [lastN, h, lastN_false h f b rs]

theorem drawReg_ok {Φ : Phi} {C : Ctx} (hT : TysOk P C.tys) {call : CallF} (hc : CallOk P Φ call) (hmix : P.follows .mixedOrders = true) {id : Nat} {ops : Array Oper} {fr fr' : Fr} {st st' : St}
    (h : drawReg C call ops fr st = .ok (fr', st')) : Goes P Φ fr st fr' st' (fun Q => (Code.region id ops true).wp P Q) .normal := by
  have key : ∃ hints d, drawRun C call ops.toList (masksOf ops.toList []) hints ops.toList 0 fr st [] [] true = .ok d ∧ d.good = true ∧ d.fr = fr' ∧ d.st = st' ∧
      drawStat ops ops.toList (masksOf ops.toList []) = true := by
    unfold drawReg at h
    dsimp only at h
    split at h
    · rename_i hst
      split at h
      · exact er_ne h
      · rename_i d hd
        split at h
        · rename_i hg
          simp only [R.ok.injEq, Prod.mk.injEq] at h
          exact ⟨_, d, hd, hg, h.1, h.2, hst⟩
        · split at h
          · exact er_ne h
          · rename_i d2 hd2
            split at h
            · rename_i hg
              simp only [R.ok.injEq, Prod.mk.injEq] at h
              exact ⟨_, d2, hd2, hg, h.1, h.2, hst⟩
            · exact stop_ne h
    · exact stop_ne h
  obtain ⟨hints, d, hd, hg, rfl, rfl, hst⟩ := key
  obtain ⟨h1, h2⟩ := drawRun_inv hT hc (masksOf ops.toList []) hints fr st ops.toList 0 fr st [] [] true d hd
  refine ⟨h1, fun ρ hl hf A hA ι w a hr hfr Q hQ => ?_⟩
  unfold drawStat at hst
  simp only [Bool.and_eq_true] at hst
  obtain ⟨⟨s1, _⟩, s3⟩ := hst
  have hinv0 : Inv P Φ ρ ops (masksOf ops.toList []) fr st 0 fr st [] :=
    ⟨trivial, rfl, rfl, fun _ => rfl, fun _ => rfl, fun t => SV.on_mono (fun i h => ⟨h.1, trivial⟩) (hfr.on t),
      ⟨fun id k hk => (hr.lt id k hk).1, fun id k hk j hj => SC.on_mono (fun i h => ⟨h.1, trivial⟩) (hr.on id k hk j hj), fun id k hk => (hr.blk id k hk).fine⟩, (fun q hq => by cases hq), Nat.le_refl _, (fun q hq => by cases hq), fun id a b => by omega⟩
  obtain ⟨hinv, _⟩ := (h2 hg).2 ρ hl hf rfl hinv0
  have hlen : d.recs.length = ops.size := by rw [hinv.len]; simp
  have hback : ∀ i o, ops[i]? = some o → ∀ e ∈ o.after, bindsE e = true → e.on < i := fun i o ho e he hb => by
    have := backEdges_at ops.toList 0 s1 i o (by rw [Array.getElem?_toList]; exact ho) e he hb
    omega
  have hm : ∀ i o, ops[i]? = some o → ∀ j, Nat.testBit ((masksOf ops.toList []).getD i 0) j = true ↔ ∃ e ∈ o.after, bindsE e = true ∧ (e.on = j ∨ Nat.testBit ((masksOf ops.toList []).getD e.on 0) j = true) := by
    intro i o ho j
    have := masksOf_bit ops.toList [] s1 i o (by rw [Array.getElem?_toList]; exact ho) j
    simp only [List.length_nil, Nat.zero_add] at this
    rw [this, List.any_eq_true]
    simp
  have hstat : Stat ops (masksOf ops.toList []) := ⟨fun i oi hoi j oj hj hoj hb => by
    have := apartAll_at ops ops.toList (masksOf ops.toList []) ops.toList 0 s3 i oi (by rw [Array.getElem?_toList]; exact hoi) j oj (by omega) (by rw [Array.getElem?_toList]; exact hoj)
    rw [Nat.zero_add] at this
    exact this hb⟩
  have hbeh : ∀ r ∈ d.recs, st.nb ≤ r.st.nb ∧ r.st1.nb ≤ d.st.nb := fun r hr' => by
    obtain ⟨_, _, _, k1, _⟩ := hinv.good.split hr'
    exact ⟨k1.lo, hinv.behind r hr'⟩
  have hA' : ∀ r ∈ d.recs, ∀ id, r.st.nb ≤ id → id < r.st1.nb → A id := fun r hr' id a b => by
    have := hbeh r hr'
    exact hA id (by omega) (by omega)
  refine wp_region_any hmix ?_
  have hd0 : ∀ j, doneOf (Array.replicate ops.size false) j = false := by
    intro j
    unfold doneOf
    by_cases hj : j < ops.size <;> simp [hj]
  have hslots0 : ∀ t, slotsOf fr d.recs (doneOf (Array.replicate ops.size false)) t = fr.get t := fun t => lastN_false hd0 _ _ _
  have hheap0 : ∀ id, heapOf st d.recs (doneOf (Array.replicate ops.size false)) id = st.heap.get id := fun id => lastN_false hd0 _ _ _
  have hall : ∀ {β : Type} (f : Rec → Option β) (b : β), lastN (fun j => decide (j < ops.size)) f d.recs b = lastN (fun _ => true) f d.recs b := by
    intro β f b
    refine lastN_congr d.recs b fun q hq hne => ?_
    have := Good.lt hinv.good q hq
    rw [hlen] at this
    simp [this] at hne
  refine draw_any (ι0 := ι) (w0 := w) (a0 := a) hstat hm hback hinv.good hlen hA' (fun ι' a' w' hi => ?_) ops.size _ ι a _ (by simp) ?_ (fun q _ hq => by rw [hd0] at hq; cases hq) ?_
  · -- all have come up
    have hsl : ∀ t, slotsOf fr d.recs (fun j => decide (j < ops.size)) t = d.fr.get t := fun t => by rw [hinv.frEq t]; exact hall _ _
    have hhp : ∀ id, heapOf st d.recs (fun j => decide (j < ops.size)) id = d.st.heap.get id := fun id => by rw [hinv.heap id]; exact hall _ _
    have hdone : ∀ q ∈ d.recs, decide (q.idx < ops.size) = true := fun q hq => by
      have := Good.lt hinv.good q hq
      rw [hlen] at this
      simp [this]
    refine hQ ι' w' a' ⟨hi.alike, ⟨fun id k hk => ?_, fun id k hk => ?_, fun id k hk j hj => ?_, fun id id' k k' hk hk' he => ?_⟩, hi.os, hi.tape, hi.output, hi.wsize, hi.same, fun id a b => ?_⟩
      ⟨hi.size.trans hinv.n.symm, fun t => ?_, fun t => ?_⟩ hi.defers
    · exact ⟨hinv.own.lt id k hk, (hi.bon id k (by rw [hhp]; exact hk)).2.1⟩
    · exact hi.blk id k (by rw [hhp]; exact hk)
    · exact SC.on_mono (fun i h => ⟨h.1.1, h.2.1⟩) (SC.on_and (hinv.own.on id k hk j hj) ((hi.bon id k (by rw [hhp]; exact hk)).1 j hj))
    · exact hi.inj id id' k k' (by rw [hhp]; exact hk) (by rw [hhp]; exact hk') he
    · obtain ⟨q, hq, h3, h4⟩ := hinv.cover id a b
      exact hi.fresh q hq (hdone q hq) id h3 h4
    · rw [hi.slot t, hsl]
    · have h3 := hinv.frOn t
      have h4 := hi.son t
      rw [hsl] at h4
      exact SV.on_mono (fun i h => ⟨h.1.1, h.2.1⟩) (SV.on_and h3 h4)
  · unfold openOf
    have := List.length_filter_le (fun j => !doneOf (Array.replicate ops.size false) j) (List.range ops.size)
    simpa using this
  · refine ⟨.refl _ _, hfr.size, rfl, fun t => by rw [hslots0]; exact hfr.slot t, fun t => ?_, fun id k hk => ?_, fun id k hk => ?_, fun id id' k k' hk hk' he => ?_, rfl, rfl, rfl, Nat.le_refl _, fun q _ hq => (by rw [hd0] at hq; cases hq), fun _ _ _ => rfl⟩
    · rw [hslots0]
      exact SV.on_mono (fun i h => ⟨h.2, .inl h.1⟩) (hfr.on t)
    · rw [hheap0] at hk
      exact hr.blk id k hk
    · rw [hheap0] at hk
      exact ⟨fun j hj => SC.on_mono (fun i h => ⟨h.2, .inl h.1⟩) (hr.on id k hk j hj), (hr.lt id k hk).2, .inl (hr.lt id k hk).1⟩
    · rw [hheap0] at hk hk'
      exact hr.inj id id' k k' hk hk' he

def Ex.toExit : Ex → Exit
  | .normal => .normal
  | .ret => .ret
  | .exit id => .exit id

theorem Goes.mono {Φ : Phi} {fr fr' : Fr} {st st' : St} {Run Run' : (Exit → Act → World → Prop) → Act → World → Prop} {e : Exit} (h : Goes P Φ fr st fr' st' Run e)
    (hm : ∀ Q a w, Run Q a w → Run' Q a w) : Goes P Φ fr st fr' st' Run' e :=
  ⟨h.1, fun ρ hl hf A hA ι w a hr hfr Q hQ => hm Q a w (h.2 ρ hl hf A hA ι w a hr hfr Q hQ)⟩

theorem code_ok {Φ : Phi} {C : Ctx} (hT : TysOk P C.tys) {call : CallF} (hc : CallOk P Φ call) (hmix : P.follows .mixedOrders = true) {lf : Nat} : ∀ (c : Code) {fr fr' : Fr} {st st' : St} {e : Ex},
    code C call lf c fr st = .ok (e, fr', st') → Goes P Φ fr st fr' st' (fun Q => c.wp P Q) e.toExit := by
  intro c
  induction c with
  | skip =>
    intro fr fr' st st' e h
    simp only [code, R.ok.injEq, Prod.mk.injEq] at h
    obtain ⟨rfl, rfl, rfl⟩ := h
    exact ⟨.refl _ _, fun ρ _ _ A _ ι w a hr hf Q hQ => wp_skip (hQ ι w a (.refl hr) hf rfl)⟩
  | region id ops draw =>
    intro fr fr' st st' e h
    cases draw with
    | true =>
      simp only [code] at h
      split at h
      · exact er_ne h
      · rename_i f1 s1 hd
        simp only [R.ok.injEq, Prod.mk.injEq] at h
        obtain ⟨rfl, rfl, rfl⟩ := h
        exact drawReg_ok hT hc hmix hd
    | false =>
      simp only [code] at h
      split at h
      · exact er_ne h
      · rename_i f1 s1 hd
        simp only [R.ok.injEq, Prod.mk.injEq] at h
        obtain ⟨rfl, rfl, rfl⟩ := h
        exact (seqRun_ok hT hc (ops := ops) rfl ops.toList hd).mono fun Q a w hw => wp_region_list hw
  | seq x y ihx ihy =>
    intro fr fr' st st' e h
    simp only [code] at h
    split at h
    · exact er_ne h
    · rename_i f1 s1 hx
      have g1 := ihx hx
      have g2 := ihy h
      refine ⟨g1.1.trans g2.1, fun ρ hl hf A hA ι w a hr hfr Q hQ => wp_seq ?_⟩
      have hl1 := g2.1.logOk hl
      refine g1.2 ρ hl1 hf A (fun id p q => hA id p (Nat.lt_of_lt_of_le q g2.1.nb)) ι w a hr hfr _ fun ι1 w1 a1 hp1 hf1 hd1 => ?_
      refine g2.2 ρ hl (g1.1.facts ρ hl1 hf) A (fun id p q => hA id (Nat.le_trans g1.1.nb p) q) ι1 w1 a1 hp1.rep hf1 Q fun ι2 w2 a2 hp2 hf2 hd2 => ?_
      exact hQ ι2 w2 a2 (hp1.trans g1.1 hr hp2) hf2 (hd2.trans hd1)
    · rename_i e1 f1 s1 hne hx
      simp only [R.ok.injEq, Prod.mk.injEq] at h
      obtain ⟨rfl, rfl, rfl⟩ := h
      have g1 := ihx hx
      refine ⟨g1.1, fun ρ hl hf A hA ι w a hr hfr Q hQ => wp_seq ?_⟩
      refine g1.2 ρ hl hf A hA ι w a hr hfr _ fun ι1 w1 a1 hp1 hf1 hd1 => ?_
      have := hQ ι1 w1 a1 hp1 hf1 hd1
      cases e1 with
      | normal => exact (hne rfl).elim
      | ret => exact this
      | exit i => exact this
  | cond c x y ihx ihy =>
    intro fr fr' st st' e h
    simp only [code] at h
    split at h
    · exact er_ne h
    · rename_i s1 hg
      obtain ⟨q, hb⟩ := getB_ok (Φ := Φ) hg
      have g1 := ihx h
      refine ⟨q.le.trans g1.1, fun ρ hl hf A hA ι w a hr hfr Q hQ => ?_⟩
      have hl1 := g1.1.logOk hl
      refine wp_cond_true ((hfr.eval c).1.trans (hb ρ hl1 hf ι)) ?_
      refine g1.2 ρ hl (q.facts ρ hl1 hf) A (by rw [q.nb]; exact hA) ι w a (q.rep hr) (by rw [q.nb]; exact hfr) Q fun ι1 w1 a1 hp1 hf1 hd1 => ?_
      exact hQ ι1 w1 a1 ((q.post hr).trans q.le hr hp1) hf1 hd1
    · rename_i s1 hg
      obtain ⟨q, hb⟩ := getB_ok (Φ := Φ) hg
      have g1 := ihy h
      refine ⟨q.le.trans g1.1, fun ρ hl hf A hA ι w a hr hfr Q hQ => ?_⟩
      have hl1 := g1.1.logOk hl
      refine wp_cond_false ((hfr.eval c).1.trans (hb ρ hl1 hf ι)) ?_
      refine g1.2 ρ hl (q.facts ρ hl1 hf) A (by rw [q.nb]; exact hA) ι w a (q.rep hr) (by rw [q.nb]; exact hfr) Q fun ι1 w1 a1 hp1 hf1 hd1 => ?_
      exact hQ ι1 w1 a1 ((q.post hr).trans q.le hr hp1) hf1 hd1
  | block id x ihx =>
    intro fr fr' st st' e h
    simp only [code] at h
    split at h
    · exact er_ne h
    · rename_i i f1 s1 hx
      have g1 := ihx hx
      split at h
      · rename_i hid
        have hid : i = id := by simpa using hid
        simp only [R.ok.injEq, Prod.mk.injEq] at h
        obtain ⟨rfl, rfl, rfl⟩ := h
        refine ⟨g1.1, fun ρ hl hf A hA ι w a hr hfr Q hQ => wp_block ?_⟩
        refine g1.2 ρ hl hf A hA ι w a hr hfr _ fun ι1 w1 a1 hp1 hf1 hd1 => ?_
        have := hQ ι1 w1 a1 hp1 hf1 hd1
        simp only [Ex.toExit, Exit.inBlock, hid, if_true]
        exact this
      · rename_i hid
        have hid : ¬ i = id := by simpa using hid
        simp only [R.ok.injEq, Prod.mk.injEq] at h
        obtain ⟨rfl, rfl, rfl⟩ := h
        refine ⟨g1.1, fun ρ hl hf A hA ι w a hr hfr Q hQ => wp_block ?_⟩
        refine g1.2 ρ hl hf A hA ι w a hr hfr _ fun ι1 w1 a1 hp1 hf1 hd1 => ?_
        have := hQ ι1 w1 a1 hp1 hf1 hd1
        simp only [Ex.toExit, Exit.inBlock, hid, if_false]
        exact this
    · rename_i e1 f1 s1 hne hx
      have g1 := ihx hx
      simp only [R.ok.injEq, Prod.mk.injEq] at h
      obtain ⟨rfl, rfl, rfl⟩ := h
      refine ⟨g1.1, fun ρ hl hf A hA ι w a hr hfr Q hQ => wp_block ?_⟩
      refine g1.2 ρ hl hf A hA ι w a hr hfr _ fun ι1 w1 a1 hp1 hf1 hd1 => ?_
      have := hQ ι1 w1 a1 hp1 hf1 hd1
      cases e1 with
      | normal => exact this
      | ret => exact this
      | exit i => exact (hne _ rfl).elim
  | loop x ihx =>
    intro fr fr' st st' e h
    simp only [code] at h
    have rounds : ∀ (n : Nat) {fr fr' : Fr} {st st' : St} {e : Ex}, iterS (code C call lf x) n fr st = .ok (e, fr', st') → Goes P Φ fr st fr' st' (fun Q => Code.rounds P x Q n) e.toExit := by
      intro n
      induction n with
      | zero => intro fr fr' st st' e h; exact stop_ne h
      | succ n ih =>
        intro fr fr' st st' e h
        simp only [iterS] at h
        split at h
        · exact er_ne h
        · rename_i f1 s1 hx
          have g1 := ihx hx
          have g2 := ih h
          refine ⟨g1.1.trans g2.1, fun ρ hl hf A hA ι w a hr hfr Q hQ => ?_⟩
          have hl1 := g2.1.logOk hl
          refine g1.2 ρ hl1 hf A (fun id p q => hA id p (Nat.lt_of_lt_of_le q g2.1.nb)) ι w a hr hfr (Exit.then (Code.rounds P x Q n) Q) fun ι1 w1 a1 hp1 hf1 hd1 => ?_
          refine g2.2 ρ hl (g1.1.facts ρ hl1 hf) A (fun id p q => hA id (Nat.le_trans g1.1.nb p) q) ι1 w1 a1 hp1.rep hf1 Q fun ι2 w2 a2 hp2 hf2 hd2 => ?_
          exact hQ ι2 w2 a2 (hp1.trans g1.1 hr hp2) hf2 (hd2.trans hd1)
        · rename_i e1 f1 s1 hne hx
          simp only [R.ok.injEq, Prod.mk.injEq] at h
          obtain ⟨rfl, rfl, rfl⟩ := h
          have g1 := ihx hx
          refine ⟨g1.1, fun ρ hl hf A hA ι w a hr hfr Q hQ => ?_⟩
          refine g1.2 ρ hl hf A hA ι w a hr hfr (Exit.then (Code.rounds P x Q n) Q) fun ι1 w1 a1 hp1 hf1 hd1 => ?_
          have := hQ ι1 w1 a1 hp1 hf1 hd1
          cases e1 with
          | normal => exact (hne rfl).elim
          | ret => exact this
          | exit i => exact this
    exact (rounds lf h).mono fun Q a w hw => wp_loop_rounds lf hw
  | exit id =>
    intro fr fr' st st' e h
    simp only [code, R.ok.injEq, Prod.mk.injEq] at h
    obtain ⟨rfl, rfl, rfl⟩ := h
    exact ⟨.refl _ _, fun ρ _ _ A _ ι w a hr hf Q hQ => wp_exit (hQ ι w a (.refl hr) hf rfl)⟩
  | ret =>
    intro fr fr' st st' e h
    simp only [code, R.ok.injEq, Prod.mk.injEq] at h
    obtain ⟨rfl, rfl, rfl⟩ := h
    exact ⟨.refl _ _, fun ρ _ _ A _ ι w a hr hf Q hQ => wp_ret (hQ ι w a (.refl hr) hf rfl)⟩
  | label l =>
    intro fr fr' st st' e h
    simp only [code, R.ok.injEq, Prod.mk.injEq] at h
    obtain ⟨rfl, rfl, rfl⟩ := h
    exact ⟨.refl _ _, fun ρ _ _ A _ ι w a hr hf Q hQ => wp_label (hQ ι w a (.refl hr) hf rfl)⟩
  | rangeFunc f ps asg b _ _ =>
    intro fr fr' st st' e h
    exact stop_ne h
  | scope b _ =>
    intro fr fr' st st' e h
    exact stop_ne h
  | goto l =>
    intro fr fr' st st' e h
    exact stop_ne h
  | refuse why =>
    intro fr fr' st st' e h
    exact stop_ne h

end
end Go.Sx
