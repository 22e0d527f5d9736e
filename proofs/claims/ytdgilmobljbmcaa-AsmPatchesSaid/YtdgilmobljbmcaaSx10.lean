/-
  A symbolic executor for the model's code: one operation.
-/
import Derived.Test.YtdgilmobljbmcaaSxM
namespace Go.Sx
set_option linter.unusedSimpArgs false
set_option linter.unusedVariables false

section
variable {P : Program}

/-- What the executor of calls is to do. -/
def CallOk (P : Program) (Φ : Phi) (call : CallF) : Prop :=
  ∀ f args st v st', call f args st = .ok (v, st') → Le Φ st st' ∧ (∀ as w, (callFunc f as).run P w = .ok (.enter f as) w) ∧
    ∀ ρ, LogOk Φ ρ st'.log → Facts ρ st → ∀ A : Nat → Prop, (∀ id, st.nb ≤ id → id < st'.nb → A id) → ∀ ι w, Rep ρ ι A st.heap.get st.nb w →
      (∀ x ∈ args, x.on (lim st.nb A)) →
      Calls P f (args.map (SW.den ρ ι)).toArray w fun e w' => ∃ ι', e = .returned (v.den ρ ι') ∧ Post ρ ι A st w ι' st' w' ∧ v.on (lim st'.nb A)

/-- What an operation is to do. -/
def OpOk (P : Program) (Φ : Phi) (o : Oper) (fr : Fr) (st : St) (v : SV) (st' : St) : Prop :=
  Le Φ st st' ∧ ∀ ρ, LogOk Φ ρ st'.log → Facts ρ st → ∀ A : Nat → Prop, (∀ id, st.nb ≤ id → id < st'.nb → A id) → ∀ ι w (a : Act), Rep ρ ι A st.heap.get st.nb w →
    (∀ x ∈ o.op.operands, a.eval x = (fr.eval x).den ρ ι ∧ (fr.eval x).on (lim st.nb A)) →
    ∀ (next : Act → World → Prop) (Q : Exit → Act → World → Prop),
      (∀ ι' w', Post ρ ι A st w ι' st' w' → v.on (lim st'.nb A) → next (a.put o.dst (v.den ρ ι')) w') → o.wp P a w next Q

theorem wp_of_run {o : Oper} {a : Act} {w w' : World} {v : Value} {next : Act → World → Prop} {Q : Exit → Act → World → Prop} (h : (execOp a.eval o).run P w = .ok (.value v) w')
    (hn : next (a.put o.dst v) w') : o.wp P a w next Q := by
  unfold Oper.wp
  rw [h]
  exact hn

/-- Of an operation that makes a value. -/
theorem OpOk.of_does {Φ : Phi} {o : Oper} {fr : Fr} {st st' : St} {v : SV} {ins : List SV} {m : Env → Loc → Sem Value} (d : Does P Φ st v st' ins m)
    (hins : ∀ ρ ι A (a : Act), (∀ x ∈ o.op.operands, a.eval x = (fr.eval x).den ρ ι ∧ (fr.eval x).on (lim st.nb A)) →
      (∀ x ∈ ins, x.on (lim st.nb A)) ∧ execOp a.eval o = (m ρ ι).bind fun x => Sem.pure (.value x)) : OpOk P Φ o fr st v st' := by
  refine ⟨d.1, fun ρ hl hf A hA ι w a hr hop next Q hn => ?_⟩
  obtain ⟨h1, h2⟩ := hins ρ ι A a hop
  obtain ⟨ι', w', h3, h4, h5⟩ := d.2 ρ hl hf A hA ι w hr h1
  refine wp_of_run (v := v.den ρ ι') (w' := w') ?_ (hn ι' w' h4 h5)
  rw [h2, Sem.run_bind', h3]
  rfl

theorem map_eval {α : Type} (l : List (α × Operand)) (a : Act) (fr : Fr) (ρ : Env) (ι : Loc) (h : ∀ p ∈ l, a.eval p.2 = (fr.eval p.2).den ρ ι) :
    (l.map fun p => (p.1, a.eval p.2)) = (l.map fun p => (p.1, fr.eval p.2)).map fun p => (p.1, p.2.den ρ ι) := by
  rw [List.map_map]
  exact List.map_congr_left fun p hp => by simp [h p hp]

theorem map_eval' (l : List Operand) (a : Act) (fr : Fr) (ρ : Env) (ι : Loc) (h : ∀ p ∈ l, a.eval p = (fr.eval p).den ρ ι) :
    l.map a.eval = (l.map fr.eval).map (SV.den ρ ι) := by
  rw [List.map_map]
  exact List.map_congr_left fun p hp => by simp [h p hp]

theorem argsW_den : ∀ {l : List SV} {ws : List SW}, argsW l = some ws → ∀ ρ ι, l.map (SV.den ρ ι) = ws.map (SW.den ρ ι)
  | [], ws, h, ρ, ι => by simp [argsW] at h; subst h; rfl
  | .w x :: xs, ws, h, ρ, ι => by
    simp only [argsW] at h
    split at h
    · rename_i l hl
      simp only [Option.some.injEq] at h
      subst h
      simp [argsW_den hl ρ ι, SV.den_w]
    · cases h
  | .tup y :: xs, ws, h, ρ, ι => by simp [argsW] at h

theorem argsW_on {A : Nat → Prop} : ∀ {l : List SV} {ws : List SW}, argsW l = some ws → (∀ x ∈ l, x.on A) → ∀ x ∈ ws, x.on A
  | [], ws, h, _ => by simp [argsW] at h; subst h; intro x hx; cases hx
  | .w x :: xs, ws, h, hl => by
    simp only [argsW] at h
    split at h
    · rename_i l hl'
      simp only [Option.some.injEq] at h
      subst h
      intro y hy
      rcases List.mem_cons.1 hy with rfl | hy
      · exact hl (.w y) (List.mem_cons_self ..)
      · exact argsW_on hl' (fun z hz => hl z (List.mem_cons_of_mem _ hz)) y hy
    · cases h
  | .tup y :: xs, ws, h, _ => by simp [argsW] at h

theorem capsOf_den : ∀ {l : List SV} {ps : List (Nat × Nat)}, capsOf l = some ps → ∀ ρ ι, l.map (SV.den ρ ι) = ps.map fun p => Value.pointer (some ⟨ι.blk p.1, p.2, none⟩)
  | [], ps, h, ρ, ι => by simp [capsOf] at h; subst h; rfl
  | .w (.c (.ptr b o)) :: xs, ps, h, ρ, ι => by
    simp only [capsOf] at h
    split at h
    · rename_i l hl
      simp only [Option.some.injEq] at h
      subst h
      simp [capsOf_den hl ρ ι, SV.den_w, SW.den_ptr]
    · cases h
  | .tup y :: xs, ws, h, ρ, ι => by simp [capsOf] at h
  | .w (.agg y) :: xs, ws, h, ρ, ι => by simp [capsOf] at h
  | .w (.c (.lit y)) :: xs, ws, h, ρ, ι => by simp [capsOf] at h
  | .w (.c (.ivar y z)) :: xs, ws, h, ρ, ι => by simp [capsOf] at h
  | .w (.c (.bvar y z)) :: xs, ws, h, ρ, ι => by simp [capsOf] at h
  | .w (.c (.svar y)) :: xs, ws, h, ρ, ι => by simp [capsOf] at h
  | .w (.c (.slc y z u v)) :: xs, ws, h, ρ, ι => by simp [capsOf] at h
  | .w (.c (.slu y z)) :: xs, ws, h, ρ, ι => by simp [capsOf] at h
  | .w (.c (.clo y z)) :: xs, ws, h, ρ, ι => by simp [capsOf] at h

theorem capsOf_on {A : Nat → Prop} : ∀ {l : List SV} {ps : List (Nat × Nat)}, capsOf l = some ps → (∀ x ∈ l, x.on A) → ∀ p ∈ ps, A p.1
  | [], ps, h, _ => by simp [capsOf] at h; subst h; intro x hx; cases hx
  | .w (.c (.ptr b o)) :: xs, ps, h, hl => by
    simp only [capsOf] at h
    split at h
    · rename_i l hl'
      simp only [Option.some.injEq] at h
      subst h
      intro p hp
      rcases List.mem_cons.1 hp with rfl | hp
      · exact on_ptr.1 (hl (.w (.c (.ptr b o))) (List.mem_cons_self ..))
      · exact capsOf_on hl' (fun z hz => hl z (List.mem_cons_of_mem _ hz)) p hp
    · cases h
  | .tup y :: xs, ws, h, _ => by simp [capsOf] at h
  | .w (.agg y) :: xs, ws, h, _ => by simp [capsOf] at h
  | .w (.c (.lit y)) :: xs, ws, h, _ => by simp [capsOf] at h
  | .w (.c (.ivar y z)) :: xs, ws, h, _ => by simp [capsOf] at h
  | .w (.c (.bvar y z)) :: xs, ws, h, _ => by simp [capsOf] at h
  | .w (.c (.svar y)) :: xs, ws, h, _ => by simp [capsOf] at h
  | .w (.c (.slc y z u v)) :: xs, ws, h, _ => by simp [capsOf] at h
  | .w (.c (.slu y z)) :: xs, ws, h, _ => by simp [capsOf] at h
  | .w (.c (.clo y z)) :: xs, ws, h, _ => by simp [capsOf] at h
  | .w (.c (.mp y)) :: xs, ws, h, _ => by simp [capsOf] at h

/-- A call, by its executor. -/
theorem callS_ok {Φ : Phi} {call : CallF} (hc : CallOk P Φ call) {f : SV} {args : List SV} {st st' : St} {v : SV} (h : callS call f args st = .ok (v, st')) :
    Le Φ st st' ∧ ∀ ρ, LogOk Φ ρ st'.log → Facts ρ st → ∀ A : Nat → Prop, (∀ id, st.nb ≤ id → id < st'.nb → A id) → ∀ ι w, Rep ρ ι A st.heap.get st.nb w →
      f.on (lim st.nb A) → (∀ x ∈ args, x.on (lim st.nb A)) →
      ∃ g as, ((Deferred.ofValue (f.den ρ ι) (args.map (SV.den ρ ι)).toArray).bind fun d => invoke d.target d.args).run P w = .ok (.enter g as) w ∧
        Calls P g as w fun e w' => ∃ ι', e = .returned (v.den ρ ι') ∧ Post ρ ι A st w ι' st' w' ∧ v.on (lim st'.nb A) := by
  unfold callS at h
  split at h
  · exact stop_ne h
  · rename_i ws hws
    split at h
    · rename_i g fs cs
      split at h
      · rename_i e1 e2
        have e1 : fs = #[] := by simpa using e1
        have e2 : cs = #[] := by simpa using e2
        subst e1; subst e2
        obtain ⟨h1, h2, h3⟩ := hc g ws st v st' h
        refine ⟨h1, fun ρ hl hf A hA ι w hr _ hin => ⟨g, _, ?_, h3 ρ hl hf A hA ι w hr (argsW_on hws hin)⟩⟩
        rw [argsW_den hws ρ ι]
        simp only [SV.den_w, SW.den_lit, Deferred.ofValue]
        show ((invoke (.fn (.func g) #[]) (#[] ++ (ws.map (SW.den ρ ι)).toArray)).run P w) = _
        simp only [invoke, Array.append_empty, Array.empty_append]
        exact h2 _ w
      · exact stop_ne h
    · rename_i g caps
      obtain ⟨h1, h2, h3⟩ := hc g _ st v st' h
      refine ⟨h1, fun ρ hl hf A hA ι w hr hfon hin => ⟨g, _, ?_, h3 ρ hl hf A hA ι w hr (fun x hx => ?_)⟩⟩
      · rw [argsW_den hws ρ ι]
        simp only [SV.den_w, SW.den, SC.den, Deferred.ofValue]
        show ((invoke (.fn (.func g) (caps.map fun p => Value.pointer (some ⟨ι.blk p.1, p.2, none⟩)).toArray) (#[] ++ (ws.map (SW.den ρ ι)).toArray)).run P w) = _
        simp only [invoke, Array.empty_append]
        rw [h2 _ w]
        congr 2
        simp [List.map_append, SW.den_ptr, Function.comp_def]
      · rcases List.mem_append.1 hx with hx | hx
        · exact argsW_on hws hin x hx
        · obtain ⟨p, hp, rfl⟩ := List.mem_map.1 hx
          intro c hc
          simp only [SW.cells, List.mem_singleton] at hc
          subst hc
          exact hfon (.clo g caps) (by simp [SW.cells]) p hp
    · exact stop_ne h

theorem on_good {x : SW} (h : goodW x = true) : goodW x = true := h

/-- One operation, carried out. -/
theorem op1_ok {Φ : Phi} {C : Ctx} (hT : TysOk P C.tys) {call : CallF} (hc : CallOk P Φ call) {fr : Fr} {o : Oper} {st st' : St} {v : SV} (h : op1 C call fr o st = .ok (v, st')) :
    OpOk P Φ o fr st v st' := by
  obtain ⟨dst, op, type, pos, after, guard⟩ := o
  unfold op1 at h
  simp only at h
  split at h
  case h_1 x =>
    simp only [R.ok.injEq, Prod.mk.injEq] at h
    obtain ⟨rfl, rfl⟩ := h
    refine ⟨.refl _ _, fun ρ hl hf A hA ι w a hr hop next Q hn => ?_⟩
    obtain ⟨h1, h2⟩ := hop x (by simp [Op.operands])
    exact wp_of_run (v := (fr.eval x).den ρ ι) (by simp [execOp, h1]) (hn ι w (.refl hr) h2)
  case h_2 x =>
    simp only [R.ok.injEq, Prod.mk.injEq] at h
    obtain ⟨rfl, rfl⟩ := h
    refine ⟨.refl _ _, fun ρ hl hf A hA ι w a hr hop next Q hn => ?_⟩
    obtain ⟨h1, h2⟩ := hop x (by simp [Op.operands])
    exact wp_of_run (v := (fr.eval x).den ρ ι) (by simp [execOp, h1]) (hn ι w (.refl hr) h2)
  case h_3 c x y =>
    split at h
    · rename_i st1 hg
      obtain ⟨q, hb⟩ := getB_ok (Φ := Φ) hg
      simp only [R.ok.injEq, Prod.mk.injEq] at h
      obtain ⟨rfl, rfl⟩ := h
      refine ⟨q.le, fun ρ hl hf A hA ι w a hr hop next Q hn => ?_⟩
      obtain ⟨h1, h2⟩ := hop x (by simp [Op.operands])
      obtain ⟨h3, h4⟩ := hop c (by simp [Op.operands])
      refine wp_of_run (v := (fr.eval x).den ρ ι) (w' := w) ?_ (hn ι w (q.post hr) (by rw [q.nb]; exact h2))
      simp [execOp, h1, h3, hb ρ hl hf ι, asBool]
    · rename_i st1 hg
      obtain ⟨q, hb⟩ := getB_ok (Φ := Φ) hg
      simp only [R.ok.injEq, Prod.mk.injEq] at h
      obtain ⟨rfl, rfl⟩ := h
      refine ⟨q.le, fun ρ hl hf A hA ι w a hr hop next Q hn => ?_⟩
      obtain ⟨h1, h2⟩ := hop y (by simp [Op.operands])
      obtain ⟨h3, h4⟩ := hop c (by simp [Op.operands])
      refine wp_of_run (v := (fr.eval y).den ρ ι) (w' := w) ?_ (hn ι w (q.post hr) (by rw [q.nb]; exact h2))
      simp [execOp, h1, h3, hb ρ hl hf ι, asBool]
    · exact er_ne h
  case h_4 t =>
    split at h
    · rename_i z hz
      exact .of_does (alloc_does hT hz h) fun ρ ι A a hop => ⟨(fun x hx => by cases hx), rfl⟩
    · exact stop_ne h
  case h_5 t x =>
    split at h
    · rename_i w hw
      split at h
      · rename_i hg
        refine .of_does (box_does hg h) fun ρ ι A a hop => ?_
        obtain ⟨h1, h2⟩ := hop x (by simp [Op.operands])
        rw [hw] at h1 h2
        refine ⟨fun y hy => by simp only [List.mem_singleton] at hy; subst hy; exact h2, ?_⟩
        simp only [execOp, h1, SV.den_w]
        rfl
      · exact stop_ne h
    · exact stop_ne h
  case h_6 t ps =>
    refine .of_does (build_does hT h) fun ρ ι A a hop => ⟨fun x hx => ?_, ?_⟩
    · rw [List.map_map] at hx
      obtain ⟨p, hp, rfl⟩ := List.mem_map.1 hx
      exact (hop p.2 (by simp only [Op.operands, List.mem_toArray]; exact List.mem_map.2 ⟨p, hp, rfl⟩)).2
    · have he := map_eval ps.toList a fr ρ ι (fun p hp => (hop p.2 (by simp only [Op.operands, List.mem_toArray]; exact List.mem_map.2 ⟨p, hp, rfl⟩)).1)
      rw [← he]
      simp only [execOp]
      congr 2
      apply Array.toList_inj.1
      simp
  case h_7 t n ps =>
    refine .of_does (buildSlice_does hT h) fun ρ ι A a hop => ⟨fun x hx => ?_, ?_⟩
    · rw [List.map_map] at hx
      obtain ⟨p, hp, rfl⟩ := List.mem_map.1 hx
      exact (hop p.2 (by simp only [Op.operands, List.mem_toArray]; exact List.mem_map.2 ⟨p, hp, rfl⟩)).2
    · have he := map_eval ps.toList a fr ρ ι (fun p hp => (hop p.2 (by simp only [Op.operands, List.mem_toArray]; exact List.mem_map.2 ⟨p, hp, rfl⟩)).1)
      rw [← he]
      simp only [execOp]
      congr 2
      apply Array.toList_inj.1
      simp
  case h_8 t x =>
    refine .of_does (load_does hT h) fun ρ ι A a hop => ?_
    obtain ⟨h1, h2⟩ := hop x (by simp [Op.operands])
    refine ⟨fun y hy => by simp only [List.mem_singleton] at hy; subst hy; exact h2, ?_⟩
    simp only [execOp, h1]
    rfl
  case h_9 t x y =>
    split at h
    · obtain ⟨hle, hd⟩ := store_does (P := P) (Φ := Φ) hT h
      refine ⟨hle, fun ρ hl hf A hA ι w a hr hop next Q hn => ?_⟩
      obtain ⟨h1, h2⟩ := hop x (by simp [Op.operands])
      obtain ⟨h3, h4⟩ := hop y (by simp [Op.operands])
      obtain ⟨ι', w', e1, e2, e3⟩ := hd ρ hl hf A hA ι w hr (fun z hz => by
        rcases List.mem_cons.1 hz with rfl | hz
        · exact h2
        · simp only [List.mem_singleton] at hz; subst hz; exact h4)
      have hrun : (Instr.storeAt t ((fr.eval x).den ρ ι) ((fr.eval y).den ρ ι)).run P w = .ok () w' := by
        rw [Sem.run_bind'] at e1
        cases hx : (Instr.storeAt t ((fr.eval x).den ρ ι) ((fr.eval y).den ρ ι)).run P w with
        | ok u w2 =>
          rw [hx] at e1
          simp only [Result.andThen_ok, Sem.run_pure', Result.ok.injEq] at e1
          rw [e1.2]
        | halt q w2 => rw [hx] at e1; cases e1
      have : (execOp a.eval ⟨none, .store t x y, type, pos, after, guard⟩).run P w = .ok .skip w' := by
        simp only [execOp, h1, h3]
        rw [show ((do Instr.storeAt t ((fr.eval x).den ρ ι) ((fr.eval y).den ρ ι); pure Next.skip) : Sem Next) = (Instr.storeAt t ((fr.eval x).den ρ ι) ((fr.eval y).den ρ ι)).bind fun _ => Sem.pure .skip from rfl, Sem.run_bind', hrun]
        rfl
      unfold Oper.wp
      rw [this]
      exact hn ι' w' e2 e3
    · exact stop_ne h
  case h_10 x =>
    split at h
    · rename_i b f hx
      simp only [R.ok.injEq, Prod.mk.injEq] at h
      obtain ⟨rfl, rfl⟩ := h
      refine ⟨.refl _ _, fun ρ hl hf A hA ι w a hr hop next Q hn => ?_⟩
      obtain ⟨h1, h2⟩ := hop x (by simp [Op.operands])
      rw [hx] at h1 h2
      refine wp_of_run (v := (SV.w (.c (.ptr b f))).den ρ ι) ?_ (hn ι w (.refl hr) h2)
      simp only [execOp, h1, SV.den_w, SW.den_ptr]
      rfl
    · exact stop_ne h
  case h_11 op t x y yt =>
    have g := binS_gives (P := P) (Φ := Φ) hT h
    refine .of_does (.of_gives g [] (m := fun ρ ι => binM op t x y ((fr.eval x).den ρ ι) ((fr.eval y).den ρ ι)) fun ρ ι z hz w => hz w x y) fun ρ ι A a hop => ⟨(fun x hx => by cases hx), ?_⟩
    obtain ⟨h1, _⟩ := hop x (by simp [Op.operands])
    obtain ⟨h3, _⟩ := hop y (by simp [Op.operands])
    simp only [execOp, h1, h3]
    rfl
  case h_12 op t x =>
    have g := unS_gives (P := P) (Φ := Φ) h
    refine .of_does (.of_gives g [] (m := fun ρ ι => Op.unary op ((fr.eval x).den ρ ι)) fun ρ ι z hz w => hz w) fun ρ ι A a hop => ⟨(fun x hx => by cases hx), ?_⟩
    obtain ⟨h1, _⟩ := hop x (by simp [Op.operands])
    simp only [execOp, h1]
    rfl
  case h_13 s t x =>
    have g := convS_gives (P := P) (Φ := Φ) hT h
    refine .of_does (.of_gives g [] (m := fun ρ ι => convert s t ((fr.eval x).den ρ ι)) fun ρ ι z hz w => hz w) fun ρ ι A a hop => ⟨(fun x hx => by cases hx), ?_⟩
    obtain ⟨h1, _⟩ := hop x (by simp [Op.operands])
    simp only [execOp, h1]
    rfl
  case h_14 f fs cs =>
    split at h
    · rename_i l hfs hcap
      simp only [R.ok.injEq, Prod.mk.injEq] at h
      obtain ⟨rfl, rfl⟩ := h
      have e1 : fs = #[] := by simpa using hfs
      subst e1
      refine ⟨.refl _ _, fun ρ hl hf A hA ι w a hr hop next Q hn => ?_⟩
      have ho : ∀ x ∈ cs.toList, a.eval x = (fr.eval x).den ρ ι ∧ (fr.eval x).on (lim st.nb A) := fun x hx => hop x (by simp [Op.operands]; simpa using hx)
      refine wp_of_run (v := (SV.w (.c (.clo f l))).den ρ ι) (w' := w) ?_ (hn ι w (.refl hr) ?_)
      · have e2 := map_eval' cs.toList a fr ρ ι (fun x hx => (ho x hx).1)
        rw [capsOf_den hcap ρ ι] at e2
        have e3 : cs.map a.eval = (l.map fun p => Value.pointer (some ⟨ι.blk p.1, p.2, none⟩)).toArray := by
          apply Array.toList_inj.1
          rw [Array.toList_map, e2]
        simp only [execOp, Instr.makeFunc, Array.map_empty, e3, pure_bind, Sem.run_pure, SV.den_w, SW.den, SC.den]
      · intro c hc
        simp only [SW.cells, List.mem_singleton] at hc
        subst hc
        refine capsOf_on hcap fun x hx => ?_
        obtain ⟨y, hy, rfl⟩ := List.mem_map.1 hx
        exact (ho y hy).2
    · exact stop_ne h
  case h_15 t l c =>
    refine .of_does (makeSlice_does hT h) fun ρ ι A a hop => ?_
    obtain ⟨h1, h2⟩ := hop l (by simp [Op.operands])
    obtain ⟨h3, h4⟩ := hop c (by simp [Op.operands])
    refine ⟨fun y hy => ?_, ?_⟩
    · rcases List.mem_cons.1 hy with rfl | hy
      · exact h2
      · simp only [List.mem_singleton] at hy; subst hy; exact h4
    · simp only [execOp, h1, h3]
      rfl
  case h_16 t x lo hi mx =>
    refine .of_does (slice_does hT h) fun ρ ι A a hop => ?_
    obtain ⟨h1, h2⟩ := hop x (by simp [Op.operands])
    refine ⟨fun y hy => by simp only [List.mem_singleton] at hy; subst hy; exact h2, ?_⟩
    have hlo : lo.map a.eval = optDen ρ ι (lo.map fr.eval) := by
      cases lo with
      | none => rfl
      | some y => simp [optDen, (hop y (by simp [Op.operands])).1]
    have hhi : hi.map a.eval = optDen ρ ι (hi.map fr.eval) := by
      cases hi with
      | none => rfl
      | some y => simp [optDen, (hop y (by simp [Op.operands])).1]
    have hmx : mx.map a.eval = optDen ρ ι (mx.map fr.eval) := by
      cases mx with
      | none => rfl
      | some y => simp [optDen, (hop y (by simp [Op.operands])).1]
    simp only [execOp, h1, hlo, hhi, hmx]
    rfl
  case h_17 t x f =>
    refine .of_does (fieldAddr_does hT h) fun ρ ι A a hop => ?_
    obtain ⟨h1, h2⟩ := hop x (by simp [Op.operands])
    refine ⟨fun y hy => by simp only [List.mem_singleton] at hy; subst hy; exact h2, ?_⟩
    simp only [execOp, h1]
    rfl
  case h_18 t x f =>
    refine .of_does (field_does hT h) fun ρ ι A a hop => ?_
    obtain ⟨h1, h2⟩ := hop x (by simp [Op.operands])
    refine ⟨fun y hy => by simp only [List.mem_singleton] at hy; subst hy; exact h2, ?_⟩
    simp only [execOp, h1]
    rfl
  case h_19 t x i =>
    refine .of_does (indexAddr_does hT h) fun ρ ι A a hop => ?_
    obtain ⟨h1, h2⟩ := hop x (by simp [Op.operands])
    obtain ⟨h3, h4⟩ := hop i (by simp [Op.operands])
    refine ⟨fun y hy => ?_, ?_⟩
    · rcases List.mem_cons.1 hy with rfl | hy
      · exact h2
      · simp only [List.mem_singleton] at hy; subst hy; exact h4
    · simp only [execOp, h1, h3]
      rfl
  case h_20 t x i =>
    refine .of_does (index_does hT h) fun ρ ι A a hop => ?_
    obtain ⟨h1, h2⟩ := hop x (by simp [Op.operands])
    obtain ⟨h3, h4⟩ := hop i (by simp [Op.operands])
    refine ⟨fun y hy => ?_, ?_⟩
    · rcases List.mem_cons.1 hy with rfl | hy
      · exact h2
      · simp only [List.mem_singleton] at hy; subst hy; exact h4
    · simp only [execOp, h1, h3]
      rfl
  case h_21 x i =>
    refine .of_does (extract_does h) fun ρ ι A a hop => ?_
    obtain ⟨h1, h2⟩ := hop x (by simp [Op.operands])
    refine ⟨fun y hy => by simp only [List.mem_singleton] at hy; subst hy; exact h2, ?_⟩
    simp only [execOp, h1]
    rfl
  case h_22 t =>
    exact .of_does (makeMap_does (t := t) h) fun ρ ι A a hop => ⟨(fun x hx => by cases hx), rfl⟩
  case h_23 t x i ok =>
    refine .of_does (lookup_does hT h) fun ρ ι A a hop => ?_
    obtain ⟨h1, h2⟩ := hop x (by simp [Op.operands])
    obtain ⟨h3, h4⟩ := hop i (by simp [Op.operands])
    refine ⟨fun y hy => ?_, ?_⟩
    · rcases List.mem_cons.1 hy with rfl | hy
      · exact h2
      · simp only [List.mem_singleton] at hy; subst hy; exact h4
    · simp only [execOp, h1, h3]
      rfl
  case h_24 t m k x =>
    split at h
    · obtain ⟨hle, hd⟩ := mapUpd_does (P := P) (Φ := Φ) hT h
      refine ⟨hle, fun ρ hl hf A hA ι w a hr hop next Q hn => ?_⟩
      obtain ⟨h1, h2⟩ := hop m (by simp [Op.operands])
      obtain ⟨h3, h4⟩ := hop k (by simp [Op.operands])
      obtain ⟨h5, h6⟩ := hop x (by simp [Op.operands])
      obtain ⟨ι', w', e1, e2, e3⟩ := hd ρ hl hf A hA ι w hr (fun z hz => by
        rcases List.mem_cons.1 hz with rfl | hz
        · exact h2
        · rcases List.mem_cons.1 hz with rfl | hz
          · exact h4
          · simp only [List.mem_singleton] at hz; subst hz; exact h6)
      have hrun : (Instr.mapUpdate t ((fr.eval m).den ρ ι) ((fr.eval k).den ρ ι) ((fr.eval x).den ρ ι)).run P w = .ok () w' := by
        rw [Sem.run_bind'] at e1
        cases hx : (Instr.mapUpdate t ((fr.eval m).den ρ ι) ((fr.eval k).den ρ ι) ((fr.eval x).den ρ ι)).run P w with
        | ok u w2 =>
          rw [hx] at e1
          simp only [Result.andThen_ok, Sem.run_pure', Result.ok.injEq] at e1
          rw [e1.2]
        | halt q w2 => rw [hx] at e1; cases e1
      have : (execOp a.eval ⟨none, .mapUpdate t m k x, type, pos, after, guard⟩).run P w = .ok .skip w' := by
        simp only [execOp, h1, h3, h5]
        rw [show ((do Instr.mapUpdate t ((fr.eval m).den ρ ι) ((fr.eval k).den ρ ι) ((fr.eval x).den ρ ι); pure Next.skip) : Sem Next) = (Instr.mapUpdate t ((fr.eval m).den ρ ι) ((fr.eval k).den ρ ι) ((fr.eval x).den ρ ι)).bind fun _ => Sem.pure .skip from rfl, Sem.run_bind', hrun]
        rfl
      unfold Oper.wp
      rw [this]
      exact hn ι' w' e2 e3
    · exact stop_ne h
  case h_25 c =>
    obtain ⟨callee, args, argTypes⟩ := c
    simp only at h
    have hmap : ∀ ρ ι A (a : Act), (∀ x ∈ (Op.call ⟨callee, args, argTypes⟩).operands, a.eval x = (fr.eval x).den ρ ι ∧ (fr.eval x).on (lim st.nb A)) →
        args.map a.eval = ((args.toList.map fr.eval).map (SV.den ρ ι)).toArray ∧ ∀ x ∈ args.toList.map fr.eval, x.on (lim st.nb A) := by
      intro ρ ι A a hop
      have ho : ∀ x ∈ args.toList, a.eval x = (fr.eval x).den ρ ι ∧ (fr.eval x).on (lim st.nb A) := fun x hx => hop x (by simp only [Op.operands, Call.operands, Array.mem_append]; exact .inr (by simpa using hx))
      refine ⟨?_, fun x hx => ?_⟩
      · apply Array.toList_inj.1
        rw [Array.toList_map, map_eval' args.toList a fr ρ ι (fun x hx => (ho x hx).1)]
      · obtain ⟨y, hy, rfl⟩ := List.mem_map.1 hx
        exact (ho y hy).2
    split at h
    · rename_i b
      unfold builtinS at h
      have ht : ∀ l, argTypes.toList = l → argTypes = l.toArray := fun l hl => by rw [← hl]
      split at h
      · rename_i t ts x htys hargs
        refine .of_does (len_does (ts := ts) (ty := type) hT h) fun ρ ι A a hop => ?_
        obtain ⟨h1, h2⟩ := hmap ρ ι A a hop
        rw [hargs] at h1 h2
        refine ⟨h2, ?_⟩
        simp only [execOp, resolve, pure_bind, invoke, builtin, h1, ht _ htys, List.map_cons, List.map_nil]
        rfl
      · rename_i t ts x htys hargs
        refine .of_does (cap_does (ts := ts) (ty := type) hT h) fun ρ ι A a hop => ?_
        obtain ⟨h1, h2⟩ := hmap ρ ι A a hop
        rw [hargs] at h1 h2
        refine ⟨h2, ?_⟩
        simp only [execOp, resolve, pure_bind, invoke, builtin, h1, ht _ htys, List.map_cons, List.map_nil]
        rfl
      · rename_i t ts x y htys hargs
        refine .of_does (copy_does (ts := ts) (ty := type) hT h) fun ρ ι A a hop => ?_
        obtain ⟨h1, h2⟩ := hmap ρ ι A a hop
        rw [hargs] at h1 h2
        refine ⟨h2, ?_⟩
        simp only [execOp, resolve, pure_bind, invoke, builtin, h1, ht _ htys, List.map_cons, List.map_nil]
        rfl
      · rename_i t x y htys hargs
        refine .of_does (append_does (ts := []) (ty := type) hT h (by simp)) fun ρ ι A a hop => ?_
        obtain ⟨h1, h2⟩ := hmap ρ ι A a hop
        rw [hargs] at h1 h2
        refine ⟨h2, ?_⟩
        simp only [execOp, resolve, pure_bind, invoke, builtin, h1, ht _ htys, List.map_cons, List.map_nil]
        rfl
      · rename_i t u x y htys hargs
        refine .of_does (append_does (ts := [u]) (ty := type) hT h (by simp)) fun ρ ι A a hop => ?_
        obtain ⟨h1, h2⟩ := hmap ρ ι A a hop
        rw [hargs] at h1 h2
        refine ⟨h2, ?_⟩
        simp only [execOp, resolve, pure_bind, invoke, builtin, h1, ht _ htys, List.map_cons, List.map_nil]
        rfl
      · rename_i x y hargs
        refine .of_does (max_does (ts := argTypes) (ty := type) h) fun ρ ι A a hop => ?_
        obtain ⟨h1, h2⟩ := hmap ρ ι A a hop
        rw [hargs] at h1 h2
        refine ⟨h2, ?_⟩
        simp only [execOp, resolve, pure_bind, invoke, builtin, h1, List.map_cons, List.map_nil]
        rfl
      · rename_i x y hargs
        refine .of_does (min_does (ts := argTypes) (ty := type) h) fun ρ ι A a hop => ?_
        obtain ⟨h1, h2⟩ := hmap ρ ι A a hop
        rw [hargs] at h1 h2
        refine ⟨h2, ?_⟩
        simp only [execOp, resolve, pure_bind, invoke, builtin, h1, List.map_cons, List.map_nil]
        rfl
      · exact stop_ne h
    · rename_i f
      obtain ⟨hle, hcall⟩ := callS_ok hc h
      refine ⟨hle, fun ρ hl hf A hA ι w a hr hop next Q hn => ?_⟩
      obtain ⟨h1, h2⟩ := hmap ρ ι A a hop
      obtain ⟨h3, h4⟩ := hop f (by simp [Op.operands, Call.operands])
      obtain ⟨g, as, h5, h6⟩ := hcall ρ hl hf A hA ι w hr h4 h2
      have hrun : (execOp a.eval ⟨dst, .call ⟨.value f, args, argTypes⟩, type, pos, after, guard⟩).run P w = .ok (.enter g as) w := by
        simp only [execOp, resolve, h1, h3]
        exact h5
      unfold Oper.wp
      rw [hrun]
      refine h6.mono fun e w' he => ?_
      obtain ⟨ι', rfl, e2, e3⟩ := he
      exact hn ι' w' e2 e3
    · exact stop_ne h
  case h_26 => exact stop_ne h

end
end Go.Sx
