/-
  A symbolic executor for the model's code, proved right: second part.
-/
import Derived.Test.YtndfcpkmchjncaaSxA
import Derived.LoopN
namespace Go.Sx
set_option linter.unusedSectionVars false
variable [Pins]
set_option linter.unusedSimpArgs false
set_option linter.unusedVariables false
section
variable {P : Program}
def CallOk (P : Program) (Φ : Phi) (call : CallF) : Prop :=
 ∀ f args st v st', call f args st = .ok (v, st') → Le Φ st st' ∧ (∀ as w, (callFunc f as).run P w = .ok (.enter f as) w) ∧
  ∀ ρ, LogOk Φ ρ st'.log → Facts ρ st → ∀ A : Nat → Prop, (∀ id, st.nb ≤ id → id < st'.nb → A id) → ∀ ι w, Rep ρ ι A st.heap.get st.nb w →
   (∀ x ∈ args, x.on (lim st.nb A)) →
   Calls P f (args.map (SW.den ρ ι)).toArray w fun e w' => ∃ ι', e = .returned (v.den ρ ι') ∧ Post ρ ι A st w ι' st' w' ∧ v.on (lim st'.nb A)
def OpOk (P : Program) (Φ : Phi) (o : Oper) (fr : Fr) (st : St) (v : SV) (st' : St) : Prop :=
 Le Φ st st' ∧ ∀ ρ, LogOk Φ ρ st'.log → Facts ρ st → ∀ A : Nat → Prop, (∀ id, st.nb ≤ id → id < st'.nb → A id) → ∀ ι w (a : Act), Rep ρ ι A st.heap.get st.nb w →
  (∀ x ∈ o.op.operands, a.eval x = (fr.eval x).den ρ ι ∧ (fr.eval x).on (lim st.nb A)) →
  ∀ (next : Act → World → Prop) (Q : Exit → Act → World → Prop),
   (∀ ι' w', Post ρ ι A st w ι' st' w' → v.on (lim st'.nb A) → next (a.put o.dst (v.den ρ ι')) w') → o.wp P a w next Q
theorem wp_of_run {o : Oper} {a : Act} {w w' : World} {v : Value} {next : Act → World → Prop} {Q : Exit → Act → World → Prop} (h : (execOp a.eval o).run P w = .ok (.value v) w')
  (hn : next (a.put o.dst v) w') : o.wp P a w next Q := by
 unfold Oper.wp
 rw [h]
 exact hn
theorem OpOk.of_does {Φ : Phi} {o : Oper} {fr : Fr} {st st' : St} {v : SV} {ins : List SV} {m : Env → Loc → Sem Value} (d : Does P Φ st v st' ins m)
  (hins : ∀ ρ ι A (a : Act), (∀ x ∈ o.op.operands, a.eval x = (fr.eval x).den ρ ι ∧ (fr.eval x).on (lim st.nb A)) →
   (∀ x ∈ ins, x.on (lim st.nb A)) ∧ execOp a.eval o = (m ρ ι).bind fun x => Sem.pure (.value x)) : OpOk P Φ o fr st v st' := by
 refine ⟨d.1, fun ρ hl hf A hA ι w a hr hop next Q hn => ?_⟩
 obtain ⟨h1, h2⟩ := hins ρ ι A a hop
 obtain ⟨ι', w', h3, h4, h5⟩ := d.2 ρ hl hf A hA ι w hr h1
 refine wp_of_run (v := v.den ρ ι') (w' := w') ?_ (hn ι' w' h4 h5)
 rw [h2, Sem.run_bind', h3]
 rfl
theorem map_eval {α : Type} (l : List (α × Operand)) (a : Act) (fr : Fr) (ρ : Env) (ι : Loc) (h : ∀ p ∈ l, a.eval p.2 = (fr.eval p.2).den ρ ι) :
  (l.map fun p => (p.1, a.eval p.2)) = (l.map fun p => (p.1, fr.eval p.2)).map fun p => (p.1, p.2.den ρ ι) := by
 rw [List.map_map]
 exact List.map_congr_left fun p hp => by simp [h p hp]
theorem map_eval' (l : List Operand) (a : Act) (fr : Fr) (ρ : Env) (ι : Loc) (h : ∀ p ∈ l, a.eval p = (fr.eval p).den ρ ι) :
  l.map a.eval = (l.map fr.eval).map (SV.den ρ ι) := by
 rw [List.map_map]
 exact List.map_congr_left fun p hp => by simp [h p hp]
theorem argsW_den : ∀ {l : List SV} {ws : List SW}, argsW l = some ws → ∀ ρ ι, l.map (SV.den ρ ι) = ws.map (SW.den ρ ι)
 | [], ws, h, ρ, ι => by simp [argsW] at h; subst h; rfl
 | .w x :: xs, ws, h, ρ, ι => by
  simp only [argsW] at h
  split at h
  ·rename_i l hl
   simp only [Option.some.injEq] at h
   subst h
   simp [argsW_den hl ρ ι, SV.den_w]
  ·cases h
 | .tup y :: xs, ws, h, ρ, ι => by simp [argsW] at h
theorem argsW_on {A : Nat → Prop} : ∀ {l : List SV} {ws : List SW}, argsW l = some ws → (∀ x ∈ l, x.on A) → ∀ x ∈ ws, x.on A
 | [], ws, h, _ => by simp [argsW] at h; subst h; intro x hx; cases hx
 | .w x :: xs, ws, h, hl => by
  simp only [argsW] at h
  split at h
  ·rename_i l hl'
   simp only [Option.some.injEq] at h
   subst h
   intro y hy
   rcases List.mem_cons.1 hy with rfl | hy
   ·exact hl (.w y) (List.mem_cons_self ..)
   ·exact argsW_on hl' (fun z hz => hl z (List.mem_cons_of_mem _ hz)) y hy
  ·cases h
 | .tup y :: xs, ws, h, _ => by simp [argsW] at h
theorem capsOf_den : ∀ {l : List SV} {ps : List (Nat × Nat)}, capsOf l = some ps → ∀ ρ ι, l.map (SV.den ρ ι) = ps.map fun p => Value.pointer (some ⟨ι.blk p.1, p.2, none⟩)
 | [], ps, h, ρ, ι => by simp [capsOf] at h; subst h; rfl
 | .w (.c (.ptr b o)) :: xs, ps, h, ρ, ι => by
  simp only [capsOf] at h
  split at h
  ·rename_i l hl
   simp only [Option.some.injEq] at h
   subst h
   simp [capsOf_den hl ρ ι, SV.den_w, SW.den_ptr]
  ·cases h
 | .tup y :: xs, ws, h, ρ, ι => by simp [capsOf] at h
 | .w (.agg y) :: xs, ws, h, ρ, ι => by simp [capsOf] at h
 | .w (.c (.lit y)) :: xs, ws, h, ρ, ι => by simp [capsOf] at h
 | .w (.c (.ivar y z)) :: xs, ws, h, ρ, ι => by simp [capsOf] at h
 | .w (.c (.bvar y z)) :: xs, ws, h, ρ, ι => by simp [capsOf] at h
 | .w (.c (.svar y)) :: xs, ws, h, ρ, ι => by simp [capsOf] at h
 | .w (.c (.slc y z u v)) :: xs, ws, h, ρ, ι => by simp [capsOf] at h
 | .w (.c (.slu y z)) :: xs, ws, h, ρ, ι => by simp [capsOf] at h
 | .w (.c (.clo y z)) :: xs, ws, h, ρ, ι => by simp [capsOf] at h
theorem capsOf_on {A : Nat → Prop} : ∀ {l : List SV} {ps : List (Nat × Nat)}, capsOf l = some ps → (∀ x ∈ l, x.on A) → ∀ p ∈ ps, A p.1
 | [], ps, h, _ => by simp [capsOf] at h; subst h; intro x hx; cases hx
 | .w (.c (.ptr b o)) :: xs, ps, h, hl => by
  simp only [capsOf] at h
  split at h
  ·rename_i l hl'
   simp only [Option.some.injEq] at h
   subst h
   intro p hp
   rcases List.mem_cons.1 hp with rfl | hp
   ·exact on_ptr.1 (hl (.w (.c (.ptr b o))) (List.mem_cons_self ..))
   ·exact capsOf_on hl' (fun z hz => hl z (List.mem_cons_of_mem _ hz)) p hp
  ·cases h
 | .tup y :: xs, ws, h, _ => by simp [capsOf] at h
 | .w (.agg y) :: xs, ws, h, _ => by simp [capsOf] at h
 | .w (.c (.lit y)) :: xs, ws, h, _ => by simp [capsOf] at h
 | .w (.c (.ivar y z)) :: xs, ws, h, _ => by simp [capsOf] at h
 | .w (.c (.bvar y z)) :: xs, ws, h, _ => by simp [capsOf] at h
 | .w (.c (.svar y)) :: xs, ws, h, _ => by simp [capsOf] at h
 | .w (.c (.slc y z u v)) :: xs, ws, h, _ => by simp [capsOf] at h
 | .w (.c (.slu y z)) :: xs, ws, h, _ => by simp [capsOf] at h
 | .w (.c (.clo y z)) :: xs, ws, h, _ => by simp [capsOf] at h
 | .w (.c (.mp y)) :: xs, ws, h, _ => by simp [capsOf] at h
theorem callS_ok {Φ : Phi} {call : CallF} (hc : CallOk P Φ call) {f : SV} {args : List SV} {st st' : St} {v : SV} (h : callS call f args st = .ok (v, st')) :
  Le Φ st st' ∧ ∀ ρ, LogOk Φ ρ st'.log → Facts ρ st → ∀ A : Nat → Prop, (∀ id, st.nb ≤ id → id < st'.nb → A id) → ∀ ι w, Rep ρ ι A st.heap.get st.nb w →
   f.on (lim st.nb A) → (∀ x ∈ args, x.on (lim st.nb A)) →
   ∃ g as, ((Deferred.ofValue (f.den ρ ι) (args.map (SV.den ρ ι)).toArray).bind fun d => invoke d.target d.args).run P w = .ok (.enter g as) w ∧
    Calls P g as w fun e w' => ∃ ι', e = .returned (v.den ρ ι') ∧ Post ρ ι A st w ι' st' w' ∧ v.on (lim st'.nb A) := by
 unfold callS at h
 split at h
 ·exact stop_ne h
 ·rename_i ws hws
  split at h
  ·rename_i g fs cs
   split at h
   ·rename_i e1 e2
    have e1 : fs = #[] := by simpa using e1
    have e2 : cs = #[] := by simpa using e2
    subst e1; subst e2
    obtain ⟨h1, h2, h3⟩ := hc g ws st v st' h
    refine ⟨h1, fun ρ hl hf A hA ι w hr _ hin => ⟨g, _, ?_, h3 ρ hl hf A hA ι w hr (argsW_on hws hin)⟩⟩
    rw [argsW_den hws ρ ι]
    simp only [SV.den_w, SW.den_lit, Deferred.ofValue]
    show ((invoke (.fn (.func g) #[]) (#[] ++ (ws.map (SW.den ρ ι)).toArray)).run P w) = _
    simp only [invoke, Array.append_empty, Array.empty_append]
    exact h2 _ w
   ·exact stop_ne h
  ·rename_i g caps
   obtain ⟨h1, h2, h3⟩ := hc g _ st v st' h
   refine ⟨h1, fun ρ hl hf A hA ι w hr hfon hin => ⟨g, _, ?_, h3 ρ hl hf A hA ι w hr (fun x hx => ?_)⟩⟩
   ·rw [argsW_den hws ρ ι]
    simp only [SV.den_w, SW.den, SC.den, Deferred.ofValue]
    show ((invoke (.fn (.func g) (caps.map fun p => Value.pointer (some ⟨ι.blk p.1, p.2, none⟩)).toArray) (#[] ++ (ws.map (SW.den ρ ι)).toArray)).run P w) = _
    simp only [invoke, Array.empty_append]
    rw [h2 _ w]
    congr 2
    simp [List.map_append, SW.den_ptr, Function.comp_def]
   ·rcases List.mem_append.1 hx with hx | hx
    ·exact argsW_on hws hin x hx
    ·obtain ⟨p, hp, rfl⟩ := List.mem_map.1 hx
     intro c hc
     simp only [SW.cells, List.mem_singleton] at hc
     subst hc
     exact hfon (.clo g caps) (by simp [SW.cells]) p hp
  ·exact stop_ne h
theorem on_good {x : SW} (h : goodW x = true) : goodW x = true := h
theorem op1_ok {Φ : Phi} {C : Ctx} (hT : TysOk P C.tys) {call : CallF} (hc : CallOk P Φ call) {fr : Fr} {o : Oper} {st st' : St} {v : SV} (h : op1 C call fr o st = .ok (v, st')) :
  OpOk P Φ o fr st v st' := by
 obtain ⟨dst, op, type, pos, after, guard⟩ := o
 unfold op1 at h
 simp only at h
 split at h
 case h_1 x =>
  simp only [R.ok.injEq, Prod.mk.injEq] at h
  obtain ⟨rfl, rfl⟩ := h
  refine ⟨.refl _ _, fun ρ hl hf A hA ι w a hr hop next Q hn => ?_⟩
  obtain ⟨h1, h2⟩ := hop x (by simp [Op.operands])
  exact wp_of_run (v := (fr.eval x).den ρ ι) (by simp [execOp, h1]) (hn ι w (.refl hr) h2)
 case h_2 x =>
  simp only [R.ok.injEq, Prod.mk.injEq] at h
  obtain ⟨rfl, rfl⟩ := h
  refine ⟨.refl _ _, fun ρ hl hf A hA ι w a hr hop next Q hn => ?_⟩
  obtain ⟨h1, h2⟩ := hop x (by simp [Op.operands])
  exact wp_of_run (v := (fr.eval x).den ρ ι) (by simp [execOp, h1]) (hn ι w (.refl hr) h2)
 case h_3 c x y =>
  split at h
  ·rename_i st1 hg
   obtain ⟨q, hb⟩ := getB_ok (Φ := Φ) hg
   simp only [R.ok.injEq, Prod.mk.injEq] at h
   obtain ⟨rfl, rfl⟩ := h
   refine ⟨q.le, fun ρ hl hf A hA ι w a hr hop next Q hn => ?_⟩
   obtain ⟨h1, h2⟩ := hop x (by simp [Op.operands])
   obtain ⟨h3, h4⟩ := hop c (by simp [Op.operands])
   refine wp_of_run (v := (fr.eval x).den ρ ι) (w' := w) ?_ (hn ι w (q.post hr) (by rw [q.nb]; exact h2))
   simp [execOp, h1, h3, hb ρ hl hf ι, asBool]
  ·rename_i st1 hg
   obtain ⟨q, hb⟩ := getB_ok (Φ := Φ) hg
   simp only [R.ok.injEq, Prod.mk.injEq] at h
   obtain ⟨rfl, rfl⟩ := h
   refine ⟨q.le, fun ρ hl hf A hA ι w a hr hop next Q hn => ?_⟩
   obtain ⟨h1, h2⟩ := hop y (by simp [Op.operands])
   obtain ⟨h3, h4⟩ := hop c (by simp [Op.operands])
   refine wp_of_run (v := (fr.eval y).den ρ ι) (w' := w) ?_ (hn ι w (q.post hr) (by rw [q.nb]; exact h2))
   simp [execOp, h1, h3, hb ρ hl hf ι, asBool]
  ·exact er_ne h
 case h_4 t =>
  split at h
  ·rename_i z hz
   exact .of_does (alloc_does hT hz h) fun ρ ι A a hop => ⟨(fun x hx => by cases hx), rfl⟩
  ·exact stop_ne h
 case h_5 t x =>
  split at h
  ·rename_i w hw
   split at h
   ·rename_i hg
    refine .of_does (box_does hg h) fun ρ ι A a hop => ?_
    obtain ⟨h1, h2⟩ := hop x (by simp [Op.operands])
    rw [hw] at h1 h2
    refine ⟨fun y hy => by simp only [List.mem_singleton] at hy; subst hy; exact h2, ?_⟩
    simp only [execOp, h1, SV.den_w]
    rfl
   ·exact stop_ne h
  ·exact stop_ne h
 case h_6 t ps =>
  refine .of_does (build_does hT h) fun ρ ι A a hop => ⟨fun x hx => ?_, ?_⟩
  ·rw [List.map_map] at hx
   obtain ⟨p, hp, rfl⟩ := List.mem_map.1 hx
   exact (hop p.2 (by simp only [Op.operands, List.mem_toArray]; exact List.mem_map.2 ⟨p, hp, rfl⟩)).2
  ·have he := map_eval ps.toList a fr ρ ι (fun p hp => (hop p.2 (by simp only [Op.operands, List.mem_toArray]; exact List.mem_map.2 ⟨p, hp, rfl⟩)).1)
   rw [← he]
   simp only [execOp]
   congr 2
   apply Array.toList_inj.1
   simp
 case h_7 t n ps =>
  refine .of_does (buildSlice_does hT h) fun ρ ι A a hop => ⟨fun x hx => ?_, ?_⟩
  ·rw [List.map_map] at hx
   obtain ⟨p, hp, rfl⟩ := List.mem_map.1 hx
   exact (hop p.2 (by simp only [Op.operands, List.mem_toArray]; exact List.mem_map.2 ⟨p, hp, rfl⟩)).2
  ·have he := map_eval ps.toList a fr ρ ι (fun p hp => (hop p.2 (by simp only [Op.operands, List.mem_toArray]; exact List.mem_map.2 ⟨p, hp, rfl⟩)).1)
   rw [← he]
   simp only [execOp]
   congr 2
   apply Array.toList_inj.1
   simp
 case h_8 t x =>
  refine .of_does (load_does hT h) fun ρ ι A a hop => ?_
  obtain ⟨h1, h2⟩ := hop x (by simp [Op.operands])
  refine ⟨fun y hy => by simp only [List.mem_singleton] at hy; subst hy; exact h2, ?_⟩
  simp only [execOp, h1]
  rfl
 case h_9 t x y =>
  split at h
  ·obtain ⟨hle, hd⟩ := store_does (P := P) (Φ := Φ) hT h
   refine ⟨hle, fun ρ hl hf A hA ι w a hr hop next Q hn => ?_⟩
   obtain ⟨h1, h2⟩ := hop x (by simp [Op.operands])
   obtain ⟨h3, h4⟩ := hop y (by simp [Op.operands])
   obtain ⟨ι', w', e1, e2, e3⟩ := hd ρ hl hf A hA ι w hr (fun z hz => by
    rcases List.mem_cons.1 hz with rfl | hz
    ·exact h2
    ·simp only [List.mem_singleton] at hz; subst hz; exact h4)
   have hrun : (Instr.storeAt t ((fr.eval x).den ρ ι) ((fr.eval y).den ρ ι)).run P w = .ok () w' := by
    rw [Sem.run_bind'] at e1
    cases hx : (Instr.storeAt t ((fr.eval x).den ρ ι) ((fr.eval y).den ρ ι)).run P w with
    | ok u w2 =>
     rw [hx] at e1
     simp only [Result.andThen_ok, Sem.run_pure', Result.ok.injEq] at e1
     rw [e1.2]
    | halt q w2 => rw [hx] at e1; cases e1
   have : (execOp a.eval ⟨none, .store t x y, type, pos, after, guard⟩).run P w = .ok .skip w' := by
    simp only [execOp, h1, h3]
    rw [show ((do Instr.storeAt t ((fr.eval x).den ρ ι) ((fr.eval y).den ρ ι); pure Next.skip) : Sem Next) = (Instr.storeAt t ((fr.eval x).den ρ ι) ((fr.eval y).den ρ ι)).bind fun _ => Sem.pure .skip from rfl, Sem.run_bind', hrun]
    rfl
   unfold Oper.wp
   rw [this]
   exact hn ι' w' e2 e3
  ·exact stop_ne h
 case h_10 x =>
  split at h
  ·rename_i b f hx
   simp only [R.ok.injEq, Prod.mk.injEq] at h
   obtain ⟨rfl, rfl⟩ := h
   refine ⟨.refl _ _, fun ρ hl hf A hA ι w a hr hop next Q hn => ?_⟩
   obtain ⟨h1, h2⟩ := hop x (by simp [Op.operands])
   rw [hx] at h1 h2
   refine wp_of_run (v := (SV.w (.c (.ptr b f))).den ρ ι) ?_ (hn ι w (.refl hr) h2)
   simp only [execOp, h1, SV.den_w, SW.den_ptr]
   rfl
  ·exact stop_ne h
 case h_11 op t x y yt =>
  have g := binS_gives (P := P) (Φ := Φ) hT h
  refine .of_does (.of_gives g [] (m := fun ρ ι => binM op t x y ((fr.eval x).den ρ ι) ((fr.eval y).den ρ ι)) fun ρ ι z hz w => hz w x y) fun ρ ι A a hop => ⟨(fun x hx => by cases hx), ?_⟩
  obtain ⟨h1, _⟩ := hop x (by simp [Op.operands])
  obtain ⟨h3, _⟩ := hop y (by simp [Op.operands])
  simp only [execOp, h1, h3]
  rfl
 case h_12 op t x =>
  have g := unS_gives (P := P) (Φ := Φ) h
  refine .of_does (.of_gives g [] (m := fun ρ ι => Op.unary op ((fr.eval x).den ρ ι)) fun ρ ι z hz w => hz w) fun ρ ι A a hop => ⟨(fun x hx => by cases hx), ?_⟩
  obtain ⟨h1, _⟩ := hop x (by simp [Op.operands])
  simp only [execOp, h1]
  rfl
 case h_13 s t x =>
  split at h
  ·rename_i b off n cap hx
   have g := bytes_does (P := P) (Φ := Φ) (cap := cap) hT h
   refine .of_does g fun ρ ι A a hop => ?_
   obtain ⟨h1, h2⟩ := hop x (by simp [Op.operands])
   rw [hx] at h1 h2
   refine ⟨(fun x hx => by simp only [List.mem_singleton] at hx; subst hx; exact h2), ?_⟩
   simp only [execOp, h1]
   rfl
  ·have g := convS_gives (P := P) (Φ := Φ) hT h
   refine .of_does (.of_gives g [] (m := fun ρ ι => convert s t ((fr.eval x).den ρ ι)) fun ρ ι z hz w => hz w) fun ρ ι A a hop => ⟨(fun x hx => by cases hx), ?_⟩
   obtain ⟨h1, _⟩ := hop x (by simp [Op.operands])
   simp only [execOp, h1]
   rfl
 case h_14 f fs cs =>
  split at h
  ·rename_i l hfs hcap
   simp only [R.ok.injEq, Prod.mk.injEq] at h
   obtain ⟨rfl, rfl⟩ := h
   have e1 : fs = #[] := by simpa using hfs
   subst e1
   refine ⟨.refl _ _, fun ρ hl hf A hA ι w a hr hop next Q hn => ?_⟩
   have ho : ∀ x ∈ cs.toList, a.eval x = (fr.eval x).den ρ ι ∧ (fr.eval x).on (lim st.nb A) := fun x hx => hop x (by simp [Op.operands]; simpa using hx)
   refine wp_of_run (v := (SV.w (.c (.clo f l))).den ρ ι) (w' := w) ?_ (hn ι w (.refl hr) ?_)
   ·have e2 := map_eval' cs.toList a fr ρ ι (fun x hx => (ho x hx).1)
    rw [capsOf_den hcap ρ ι] at e2
    have e3 : cs.map a.eval = (l.map fun p => Value.pointer (some ⟨ι.blk p.1, p.2, none⟩)).toArray := by
     apply Array.toList_inj.1
     rw [Array.toList_map, e2]
    simp only [execOp, Instr.makeFunc, Array.map_empty, e3, pure_bind, Sem.run_pure, SV.den_w, SW.den, SC.den]
   ·intro c hc
    simp only [SW.cells, List.mem_singleton] at hc
    subst hc
    refine capsOf_on hcap fun x hx => ?_
    obtain ⟨y, hy, rfl⟩ := List.mem_map.1 hx
    exact (ho y hy).2
  ·exact stop_ne h
 case h_15 t l c =>
  refine .of_does (makeSlice_does hT h) fun ρ ι A a hop => ?_
  obtain ⟨h1, h2⟩ := hop l (by simp [Op.operands])
  obtain ⟨h3, h4⟩ := hop c (by simp [Op.operands])
  refine ⟨fun y hy => ?_, ?_⟩
  ·rcases List.mem_cons.1 hy with rfl | hy
   ·exact h2
   ·simp only [List.mem_singleton] at hy; subst hy; exact h4
  ·simp only [execOp, h1, h3]
   rfl
 case h_16 t x lo hi mx =>
  refine .of_does (slice_does hT h) fun ρ ι A a hop => ?_
  obtain ⟨h1, h2⟩ := hop x (by simp [Op.operands])
  refine ⟨fun y hy => by simp only [List.mem_singleton] at hy; subst hy; exact h2, ?_⟩
  have hlo : lo.map a.eval = optDen ρ ι (lo.map fr.eval) := by
   cases lo with
   | none => rfl
   | some y => simp [optDen, (hop y (by simp [Op.operands])).1]
  have hhi : hi.map a.eval = optDen ρ ι (hi.map fr.eval) := by
   cases hi with
   | none => rfl
   | some y => simp [optDen, (hop y (by simp [Op.operands])).1]
  have hmx : mx.map a.eval = optDen ρ ι (mx.map fr.eval) := by
   cases mx with
   | none => rfl
   | some y => simp [optDen, (hop y (by simp [Op.operands])).1]
  simp only [execOp, h1, hlo, hhi, hmx]
  rfl
 case h_17 t x f =>
  refine .of_does (fieldAddr_does hT h) fun ρ ι A a hop => ?_
  obtain ⟨h1, h2⟩ := hop x (by simp [Op.operands])
  refine ⟨fun y hy => by simp only [List.mem_singleton] at hy; subst hy; exact h2, ?_⟩
  simp only [execOp, h1]
  rfl
 case h_18 t x f =>
  refine .of_does (field_does hT h) fun ρ ι A a hop => ?_
  obtain ⟨h1, h2⟩ := hop x (by simp [Op.operands])
  refine ⟨fun y hy => by simp only [List.mem_singleton] at hy; subst hy; exact h2, ?_⟩
  simp only [execOp, h1]
  rfl
 case h_19 t x i =>
  refine .of_does (indexAddr_does hT h) fun ρ ι A a hop => ?_
  obtain ⟨h1, h2⟩ := hop x (by simp [Op.operands])
  obtain ⟨h3, h4⟩ := hop i (by simp [Op.operands])
  refine ⟨fun y hy => ?_, ?_⟩
  ·rcases List.mem_cons.1 hy with rfl | hy
   ·exact h2
   ·simp only [List.mem_singleton] at hy; subst hy; exact h4
  ·simp only [execOp, h1, h3]
   rfl
 case h_20 t x i =>
  refine .of_does (index_does hT h) fun ρ ι A a hop => ?_
  obtain ⟨h1, h2⟩ := hop x (by simp [Op.operands])
  obtain ⟨h3, h4⟩ := hop i (by simp [Op.operands])
  refine ⟨fun y hy => ?_, ?_⟩
  ·rcases List.mem_cons.1 hy with rfl | hy
   ·exact h2
   ·simp only [List.mem_singleton] at hy; subst hy; exact h4
  ·simp only [execOp, h1, h3]
   rfl
 case h_21 x i =>
  refine .of_does (extract_does h) fun ρ ι A a hop => ?_
  obtain ⟨h1, h2⟩ := hop x (by simp [Op.operands])
  refine ⟨fun y hy => by simp only [List.mem_singleton] at hy; subst hy; exact h2, ?_⟩
  simp only [execOp, h1]
  rfl
 case h_22 t =>
  exact .of_does (makeMap_does (t := t) h) fun ρ ι A a hop => ⟨(fun x hx => by cases hx), rfl⟩
 case h_23 t x i ok =>
  refine .of_does (lookup_does hT h) fun ρ ι A a hop => ?_
  obtain ⟨h1, h2⟩ := hop x (by simp [Op.operands])
  obtain ⟨h3, h4⟩ := hop i (by simp [Op.operands])
  refine ⟨fun y hy => ?_, ?_⟩
  ·rcases List.mem_cons.1 hy with rfl | hy
   ·exact h2
   ·simp only [List.mem_singleton] at hy; subst hy; exact h4
  ·simp only [execOp, h1, h3]
   rfl
 case h_24 t m k x =>
  split at h
  ·obtain ⟨hle, hd⟩ := mapUpd_does (P := P) (Φ := Φ) hT h
   refine ⟨hle, fun ρ hl hf A hA ι w a hr hop next Q hn => ?_⟩
   obtain ⟨h1, h2⟩ := hop m (by simp [Op.operands])
   obtain ⟨h3, h4⟩ := hop k (by simp [Op.operands])
   obtain ⟨h5, h6⟩ := hop x (by simp [Op.operands])
   obtain ⟨ι', w', e1, e2, e3⟩ := hd ρ hl hf A hA ι w hr (fun z hz => by
    rcases List.mem_cons.1 hz with rfl | hz
    ·exact h2
    ·rcases List.mem_cons.1 hz with rfl | hz
     ·exact h4
     ·simp only [List.mem_singleton] at hz; subst hz; exact h6)
   have hrun : (Instr.mapUpdate t ((fr.eval m).den ρ ι) ((fr.eval k).den ρ ι) ((fr.eval x).den ρ ι)).run P w = .ok () w' := by
    rw [Sem.run_bind'] at e1
    cases hx : (Instr.mapUpdate t ((fr.eval m).den ρ ι) ((fr.eval k).den ρ ι) ((fr.eval x).den ρ ι)).run P w with
    | ok u w2 =>
     rw [hx] at e1
     simp only [Result.andThen_ok, Sem.run_pure', Result.ok.injEq] at e1
     rw [e1.2]
    | halt q w2 => rw [hx] at e1; cases e1
   have : (execOp a.eval ⟨none, .mapUpdate t m k x, type, pos, after, guard⟩).run P w = .ok .skip w' := by
    simp only [execOp, h1, h3, h5]
    rw [show ((do Instr.mapUpdate t ((fr.eval m).den ρ ι) ((fr.eval k).den ρ ι) ((fr.eval x).den ρ ι); pure Next.skip) : Sem Next) = (Instr.mapUpdate t ((fr.eval m).den ρ ι) ((fr.eval k).den ρ ι) ((fr.eval x).den ρ ι)).bind fun _ => Sem.pure .skip from rfl, Sem.run_bind', hrun]
    rfl
   unfold Oper.wp
   rw [this]
   exact hn ι' w' e2 e3
  ·exact stop_ne h
 case h_25 c =>
  obtain ⟨callee, args, argTypes⟩ := c
  simp only at h
  have hmap : ∀ ρ ι A (a : Act), (∀ x ∈ (Op.call ⟨callee, args, argTypes⟩).operands, a.eval x = (fr.eval x).den ρ ι ∧ (fr.eval x).on (lim st.nb A)) →
    args.map a.eval = ((args.toList.map fr.eval).map (SV.den ρ ι)).toArray ∧ ∀ x ∈ args.toList.map fr.eval, x.on (lim st.nb A) := by
   intro ρ ι A a hop
   have ho : ∀ x ∈ args.toList, a.eval x = (fr.eval x).den ρ ι ∧ (fr.eval x).on (lim st.nb A) := fun x hx => hop x (by simp only [Op.operands, Call.operands, Array.mem_append]; exact .inr (by simpa using hx))
   refine ⟨?_, fun x hx => ?_⟩
   ·apply Array.toList_inj.1
    rw [Array.toList_map, map_eval' args.toList a fr ρ ι (fun x hx => (ho x hx).1)]
   ·obtain ⟨y, hy, rfl⟩ := List.mem_map.1 hx
    exact (ho y hy).2
  split at h
  ·rename_i b
   unfold builtinS at h
   have ht : ∀ l, argTypes.toList = l → argTypes = l.toArray := fun l hl => by rw [← hl]
   split at h
   ·rename_i t ts x htys hargs
    refine .of_does (len_does (ts := ts) (ty := type) hT h) fun ρ ι A a hop => ?_
    obtain ⟨h1, h2⟩ := hmap ρ ι A a hop
    rw [hargs] at h1 h2
    refine ⟨h2, ?_⟩
    simp only [execOp, resolve, pure_bind, invoke, builtin, h1, ht _ htys, List.map_cons, List.map_nil]
    rfl
   ·rename_i t ts x htys hargs
    refine .of_does (cap_does (ts := ts) (ty := type) hT h) fun ρ ι A a hop => ?_
    obtain ⟨h1, h2⟩ := hmap ρ ι A a hop
    rw [hargs] at h1 h2
    refine ⟨h2, ?_⟩
    simp only [execOp, resolve, pure_bind, invoke, builtin, h1, ht _ htys, List.map_cons, List.map_nil]
    rfl
   ·rename_i t ts x y htys hargs
    refine .of_does (copy_does (ts := ts) (ty := type) hT h) fun ρ ι A a hop => ?_
    obtain ⟨h1, h2⟩ := hmap ρ ι A a hop
    rw [hargs] at h1 h2
    refine ⟨h2, ?_⟩
    simp only [execOp, resolve, pure_bind, invoke, builtin, h1, ht _ htys, List.map_cons, List.map_nil]
    rfl
   ·rename_i t x y htys hargs
    refine .of_does (append_does (ts := []) (ty := type) hT h (by simp)) fun ρ ι A a hop => ?_
    obtain ⟨h1, h2⟩ := hmap ρ ι A a hop
    rw [hargs] at h1 h2
    refine ⟨h2, ?_⟩
    simp only [execOp, resolve, pure_bind, invoke, builtin, h1, ht _ htys, List.map_cons, List.map_nil]
    rfl
   ·rename_i t u x y htys hargs
    refine .of_does (append_does (ts := [u]) (ty := type) hT h (by simp)) fun ρ ι A a hop => ?_
    obtain ⟨h1, h2⟩ := hmap ρ ι A a hop
    rw [hargs] at h1 h2
    refine ⟨h2, ?_⟩
    simp only [execOp, resolve, pure_bind, invoke, builtin, h1, ht _ htys, List.map_cons, List.map_nil]
    rfl
   ·rename_i x y hargs
    refine .of_does (max_does (ts := argTypes) (ty := type) h) fun ρ ι A a hop => ?_
    obtain ⟨h1, h2⟩ := hmap ρ ι A a hop
    rw [hargs] at h1 h2
    refine ⟨h2, ?_⟩
    simp only [execOp, resolve, pure_bind, invoke, builtin, h1, List.map_cons, List.map_nil]
    rfl
   ·rename_i x y hargs
    refine .of_does (min_does (ts := argTypes) (ty := type) h) fun ρ ι A a hop => ?_
    obtain ⟨h1, h2⟩ := hmap ρ ι A a hop
    rw [hargs] at h1 h2
    refine ⟨h2, ?_⟩
    simp only [execOp, resolve, pure_bind, invoke, builtin, h1, List.map_cons, List.map_nil]
    rfl
   ·exact stop_ne h
  ·rename_i f
   obtain ⟨hle, hcall⟩ := callS_ok hc h
   refine ⟨hle, fun ρ hl hf A hA ι w a hr hop next Q hn => ?_⟩
   obtain ⟨h1, h2⟩ := hmap ρ ι A a hop
   obtain ⟨h3, h4⟩ := hop f (by simp [Op.operands, Call.operands])
   obtain ⟨g, as, h5, h6⟩ := hcall ρ hl hf A hA ι w hr h4 h2
   have hrun : (execOp a.eval ⟨dst, .call ⟨.value f, args, argTypes⟩, type, pos, after, guard⟩).run P w = .ok (.enter g as) w := by
    simp only [execOp, resolve, h1, h3]
    exact h5
   unfold Oper.wp
   rw [hrun]
   refine h6.mono fun e w' he => ?_
   obtain ⟨ι', rfl, e2, e3⟩ := he
   exact hn ι' w' e2 e3
  ·exact stop_ne h
 case h_26 => exact stop_ne h
end
end Go.Sx
namespace Go.Sx
set_option linter.unusedSectionVars false
variable [Pins]
set_option linter.unusedSimpArgs false
set_option linter.unusedVariables false
section
variable {P : Program}
structure RepF (ρ : Env) (ι : Loc) (A : Nat → Prop) (nb : Nat) (fr : Fr) (a : Act) : Prop where
 size : a.tmps.size = fr.n
 slot : ∀ t, a.tmps.getD t undef = (fr.get t).den ρ ι
 on : ∀ t, (fr.get t).on (lim nb A)
theorem ofVal_den (v : Value) (ρ : Env) (ι : Loc) : (ofVal v).den ρ ι = v := by
 cases v <;> simp [ofVal, SV.den, SW.den, SC.den, List.map_map, Function.comp_def]
theorem ofVal_on (v : Value) (A : Nat → Prop) : (ofVal v).on A := by
 unfold ofVal
 split
 ·intro c hc
  obtain ⟨x, _, rfl⟩ := List.mem_map.1 hc
  trivial
 ·intro x hx c hc
  obtain ⟨y, _, rfl⟩ := List.mem_map.1 hx
  simp only [SW.cells, List.mem_singleton] at hc
  subst hc
  trivial
 ·intro c hc
  simp only [SW.cells, List.mem_singleton] at hc
  subst hc
  trivial
theorem RepF.eval {ρ : Env} {ι : Loc} {A : Nat → Prop} {nb : Nat} {fr : Fr} {a : Act} (h : RepF ρ ι A nb fr a) (x : Operand) :
  a.eval x = (fr.eval x).den ρ ι ∧ (fr.eval x).on (lim nb A) := by
 cases x with
 | tmp t => exact ⟨h.slot t, h.on t⟩
 | const v => exact ⟨(ofVal_den v ρ ι).symm, ofVal_on v _⟩
 | global g => exact ⟨rfl, bare_c (x := .lit (.pointer (some ⟨g, 0, none⟩))) (fun _ => trivial) _⟩
 | func f => exact ⟨rfl, bare_c (x := .lit (.func (.func f) #[] #[])) (fun _ => trivial) _⟩
theorem Fr.get_put (fr : Fr) (d : Option Nat) (v : SV) (t : Nat) : (fr.put d v).get t = if d = some t ∧ t < fr.n then v else fr.get t := by
 unfold Fr.put
 cases d with
 | none => simp
 | some d =>
  simp only [Option.some.injEq]
  split
  ·rename_i hb
   have hb : d < fr.n := by simpa using hb
   unfold Fr.get
   simp only [Tr.get_set]
   by_cases e : t = d
   ·subst e; simp [hb]
   ·rw [if_neg e, if_neg (by rintro ⟨e1, h2⟩; exact e e1.symm)]
  ·rename_i hb
   have hb : ¬ d < fr.n := by simpa using hb
   rw [if_neg (by rintro ⟨e, h2⟩; subst e; exact hb h2)]
theorem Fr.n_put (fr : Fr) (d : Option Nat) (v : SV) : (fr.put d v).n = fr.n := by
 unfold Fr.put
 cases d with
 | none => rfl
 | some d => simp only; split <;> rfl
theorem put_getD (a : Act) (d : Option Nat) (v : Value) (t : Nat) : (a.put d v).tmps.getD t undef = if d = some t ∧ t < a.tmps.size then v else a.tmps.getD t undef := by
 cases d with
 | none => simp [Act.put]
 | some d =>
  simp only [Act.put, Option.some.injEq]
  by_cases e : d = t
  ·subst e
   by_cases hs : d < a.tmps.size
   ·simp [hs]
   ·simp [hs]
  ·simp [e, Array.getElem?_setIfInBounds_ne e]
theorem put_size (a : Act) (d : Option Nat) (v : Value) : (a.put d v).tmps.size = a.tmps.size := by
 cases d <;> simp [Act.put]
theorem RepF.put {ρ : Env} {ι : Loc} {A : Nat → Prop} {nb : Nat} {fr : Fr} {a : Act} (h : RepF ρ ι A nb fr a) (d : Option Nat) {v : SV} (hv : v.on (lim nb A)) :
  RepF ρ ι A nb (fr.put d v) (a.put d (v.den ρ ι)) := by
 refine ⟨by rw [put_size, Fr.n_put, h.size], fun t => ?_, fun t => ?_⟩
 ·rw [put_getD, Fr.get_put, h.size, h.slot t]
  split <;> rfl
 ·rw [Fr.get_put]
  split
  ·exact hv
  ·exact h.on t
theorem RepF.move {ρ : Env} {ι ι' : Loc} {A : Nat → Prop} {nb nb' : Nat} {fr : Fr} {a : Act} (h : RepF ρ ι A nb fr a) (hal : Loc.alike (fun i => i < nb) ι ι') (hnb : nb ≤ nb') :
  RepF ρ ι' A nb' fr a := by
 refine ⟨h.size, fun t => ?_, fun t => SV.on_mono (fun i hi => ⟨Nat.lt_of_lt_of_le hi.1 hnb, hi.2⟩) (h.on t)⟩
 rw [h.slot t]
 exact (SV.den_alike (A := lim nb A) (fun i hi => hal i hi.1) ρ (h.on t)).symm
theorem den_tuple_nil (ρ : Env) (ι : Loc) : sundef.den ρ ι = undef := rfl
theorem put_defers (a : Act) (d : Option Nat) (v : Value) : (a.put d v).defers = a.defers := by
 cases d <;> rfl
theorem wantedS_ok {Φ : Phi} {ops : Array Oper} {l : List Oper} (hops : ops.toList = l) {fr : Fr} {o : Oper} {st st' : St} {b : Bool} (h : wantedS l fr o st = .ok (b, st')) :
  Quiet Φ st st' ∧ ∀ ρ, LogOk Φ ρ st'.log → Facts ρ st → ∀ ι (a : Act), a.tmps.size = fr.n →
   (∀ d, d ∈ o.looksAt ops → a.tmps.getD d undef = (fr.get d).den ρ ι) → Region.wanted o (yielded ops a.tmps) = b := by
 unfold wantedS at h
 split at h
 ·rename_i hg
  simp only [R.ok.injEq, Prod.mk.injEq] at h
  obtain ⟨rfl, rfl⟩ := h
  exact ⟨.refl _ _, fun ρ _ _ ι a _ _ => by simp [Region.wanted, hg]⟩
 ·rename_i j want hg
  split at h
  ·rename_i p hp
   have hp' : ops[j]? = some p := by rw [← Array.getElem?_toList, hops]; exact hp
   split at h
   ·rename_i d hd
    have hlook : d ∈ o.looksAt ops := by simp [Oper.looksAt, hg, hp', hd]
    have key : ∀ (a : Act), Region.wanted o (yielded ops a.tmps) = (match a.tmps[d]? with | some (.bool b) => b == want | _ => false) := by
     intro a
     simp only [Region.wanted, hg, yielded, hp', Option.bind_some, hd]
     cases a.tmps[d]? with
     | none => rfl
     | some v => cases v <;> rfl
    split at h
    ·rename_i hv
     simp only [R.ok.injEq, Prod.mk.injEq] at h
     obtain ⟨rfl, rfl⟩ := h
     refine ⟨.refl _ _, fun ρ _ _ ι a hs hf => ?_⟩
     have := hf d hlook
     rw [hv] at this
     rw [key a]
     cases hx : a.tmps[d]? with
     | none => rfl
     | some v =>
      have hv' : a.tmps.getD d undef = v := by simp [hx]
      rw [hv'] at this
      rw [this]
      rfl
    ·rename_i v hv
     split at h
     ·rename_i b' st1 hb
      obtain ⟨q, hq⟩ := getB_ok (Φ := Φ) hb
      simp only [R.ok.injEq, Prod.mk.injEq] at h
      obtain ⟨rfl, rfl⟩ := h
      refine ⟨q, fun ρ hl hf ι a hs hfr => ?_⟩
      have h1 := hq ρ hl hf ι
      have h2 := hfr d hlook
      rw [h1] at h2
      rw [key a]
      cases hx : a.tmps[d]? with
      | none =>
       have hv' : a.tmps.getD d undef = undef := by simp [hx]
       rw [hv'] at h2
       cases h2
      | some v =>
       have hv' : a.tmps.getD d undef = v := by simp [hx]
       rw [hv'] at h2
       rw [h2]
     ·exact er_ne h
   ·exact stop_ne h
  ·exact stop_ne h
def Goes (P : Program) (Φ : Phi) (fr : Fr) (st : St) (fr' : Fr) (st' : St) (Run : (Exit → Act → World → Prop) → Act → World → Prop) (e : Exit) : Prop :=
 Le Φ st st' ∧ ∀ ρ, LogOk Φ ρ st'.log → Facts ρ st → ∀ A : Nat → Prop, (∀ id, st.nb ≤ id → id < st'.nb → A id) → ∀ ι w (a : Act), Rep ρ ι A st.heap.get st.nb w →
  RepF ρ ι A st.nb fr a → ∀ Q : Exit → Act → World → Prop,
   (∀ ι' w' a', Post ρ ι A st w ι' st' w' → RepF ρ ι' A st'.nb fr' a' → a'.defers = a.defers → Q e a' w') → Run Q a w
theorem seqRun_ok {Φ : Phi} {C : Ctx} (hT : TysOk P C.tys) {call : CallF} (hc : CallOk P Φ call) {ops : Array Oper} {l : List Oper} (hops : ops.toList = l) :
  ∀ (rest : List Oper) {fr fr' : Fr} {st st' : St}, seqRun C call l rest fr st = .ok (fr', st') → Goes P Φ fr st fr' st' (fun Q => wpList P ops Q rest) .normal
 | [], fr, fr', st, st', h => by
  simp only [seqRun, R.ok.injEq, Prod.mk.injEq] at h
  obtain ⟨rfl, rfl⟩ := h
  exact ⟨.refl _ _, fun ρ _ _ A _ ι w a hr hf Q hQ => hQ ι w a (.refl hr) hf rfl⟩
 | o :: rest, fr, fr', st, st', h => by
  simp only [seqRun] at h
  split at h
  ·exact er_ne h
  ·rename_i st1 hw
   obtain ⟨q, hq⟩ := wantedS_ok (Φ := Φ) hops hw
   obtain ⟨h1, h2⟩ := seqRun_ok hT hc hops rest h
   refine ⟨q.le.trans h1, fun ρ hl hf A hA ι w a hr hfr Q hQ => ?_⟩
   have hl1 := h1.logOk hl
   have hwant := hq ρ hl1 hf ι a hfr.size (fun d _ => hfr.slot d)
   show wpList P ops Q (o :: rest) a w
   unfold wpList
   rw [hwant]
   simp only [Bool.false_eq_true, if_false]
   have hfr1 : RepF ρ ι A st1.nb (fr.put o.dst sundef) (a.put o.dst undef) := by
    rw [q.nb]
    exact hfr.put o.dst (bare_undef _)
   refine h2 ρ hl (q.facts ρ hl1 hf) A (by rw [q.nb]; exact hA) ι w _ (q.rep hr) hfr1 Q fun ι' w' a' hp hf' hd => ?_
   exact hQ ι' w' a' ((q.post hr).trans q.le hr hp) hf' (hd.trans (put_defers _ _ _))
  ·rename_i st1 hw
   obtain ⟨q, hq⟩ := wantedS_ok (Φ := Φ) hops hw
   split at h
   ·exact er_ne h
   ·rename_i v st2 ho
    obtain ⟨o1, o2⟩ := op1_ok hT hc ho
    obtain ⟨h1, h2⟩ := seqRun_ok hT hc hops rest h
    refine ⟨(q.le.trans o1).trans h1, fun ρ hl hf A hA ι w a hr hfr Q hQ => ?_⟩
    have hl2 := h1.logOk hl
    have hl1 := o1.logOk hl2
    have hwant := hq ρ hl1 hf ι a hfr.size (fun d _ => hfr.slot d)
    have hf1 := q.facts ρ hl1 hf
    have hfr1 : RepF ρ ι A st1.nb fr a := by rw [q.nb]; exact hfr
    show wpList P ops Q (o :: rest) a w
    unfold wpList
    rw [hwant]
    simp only [if_true]
    refine .inl (o2 ρ hl2 hf1 A (fun id x y => hA id (by rw [← q.nb]; exact x) (Nat.lt_of_lt_of_le y h1.nb)) ι w a (q.rep hr) (fun x _ => hfr1.eval x) _ Q fun ι1 w1 hp hv => ?_)
    have hfr2 := (hfr1.move hp.alike o1.nb).put o.dst hv
    refine h2 ρ hl (o1.facts ρ hl2 hf1) A (fun id x y => hA id (Nat.le_trans (by rw [← q.nb]; exact o1.nb) x) y) ι1 w1 _ hp.rep hfr2 Q fun ι' w' a' hp' hf' hd => ?_
    exact hQ ι' w' a' (((q.post hr).trans q.le hr hp).trans (q.le.trans o1) hr hp') hf' (hd.trans (put_defers _ _ _))
end
end Go.Sx
namespace Go.Sx
set_option linter.unusedSectionVars false
variable [Pins]
set_option linter.unusedSimpArgs false
set_option linter.unusedVariables false
section
variable {P : Program}
theorem binds_any (e : Edge) : Region.binds .any e = bindsE e := by
 unfold Region.binds bindsE
 cases e.ground <;> rfl
theorem maskOf_bit (ms : List Nat) : ∀ (es : List Edge) (m j : Nat), Nat.testBit (maskOf ms es m) j = (Nat.testBit m j || es.any fun e => bindsE e && (decide (e.on = j) || Nat.testBit (ms.getD e.on 0) j))
 | [], m, j => by simp [maskOf]
 | e :: es, m, j => by
  simp only [maskOf]
  split
  ·rename_i hb
   rw [maskOf_bit ms es, Nat.testBit_or, Nat.testBit_or, Nat.testBit_two_pow]
   simp [hb, Bool.or_assoc]
  ·rename_i hb
   rw [maskOf_bit ms es]
   simp [hb]
theorem masksOf_append : ∀ (l : List Oper) (ms : List Nat), ∃ tl, masksOf l ms = ms ++ tl ∧ tl.length = l.length
 | [], ms => ⟨[], by simp [masksOf]⟩
 | o :: os, ms => by
  obtain ⟨tl, h1, h2⟩ := masksOf_append os (ms ++ [maskOf ms o.after.toList 0])
  exact ⟨maskOf ms o.after.toList 0 :: tl, by simp [masksOf, h1], by simp [h2]⟩
theorem getD_append {α : Type} (l m : List α) (d : α) {i : Nat} (h : i < l.length) : (l ++ m).getD i d = l.getD i d := by
 simp [List.getD_eq_getElem?_getD, List.getElem?_append_left h]
theorem any_congr_mem {α : Type} {l : List α} {p q : α → Bool} (h : ∀ x ∈ l, p x = q x) : l.any p = l.any q := by
 induction l with
 | nil => rfl
 | cons x l ih => simp only [List.any_cons, h x (List.mem_cons_self ..), ih fun y hy => h y (List.mem_cons_of_mem _ hy)]
theorem masksOf_bit : ∀ (l : List Oper) (ms : List Nat) (hb : backEdges l ms.length = true) (i : Nat) (o : Oper), l[i]? = some o → ∀ j,
  Nat.testBit ((masksOf l ms).getD (ms.length + i) 0) j = o.after.toList.any fun e => bindsE e && (decide (e.on = j) || Nat.testBit ((masksOf l ms).getD e.on 0) j)
 | [], ms, hb, i, o, h, j => by simp at h
 | p :: os, ms, hb, i, o, h, j => by
  simp only [backEdges, Bool.and_eq_true] at hb
  obtain ⟨hb1, hb2⟩ := hb
  simp only [masksOf]
  cases i with
  | zero =>
   simp only [List.getElem?_cons_zero, Option.some.injEq] at h
   subst h
   obtain ⟨tl, h1, h2⟩ := masksOf_append os (ms ++ [maskOf ms p.after.toList 0])
   rw [h1]
   simp only [Nat.add_zero]
   have e1 : ((ms ++ [maskOf ms p.after.toList 0]) ++ tl).getD ms.length 0 = maskOf ms p.after.toList 0 := by
    rw [getD_append _ _ _ (by simp)]
    simp [List.getD_eq_getElem?_getD]
   rw [e1, maskOf_bit]
   simp only [Nat.zero_testBit, Bool.false_or]
   refine any_congr_mem fun e he => ?_
   cases hbe : bindsE e with
   | false => rfl
   | true =>
    have hlt : e.on < ms.length := by
     have := List.all_eq_true.1 hb1 e he
     simpa [hbe] using this
    rw [List.append_assoc, getD_append _ _ _ hlt]
  | succ i =>
   simp only [List.getElem?_cons_succ] at h
   have := masksOf_bit os (ms ++ [maskOf ms p.after.toList 0]) (by simpa using hb2) i o h j
   simp only [List.length_append, List.length_singleton] at this
   rw [show ms.length + (i + 1) = ms.length + 1 + i by omega]
   exact this
theorem backEdges_at : ∀ (l : List Oper) (k : Nat), backEdges l k = true → ∀ i o, l[i]? = some o → ∀ e ∈ o.after, bindsE e = true → e.on < k + i
 | [], k, _, i, o, h, _, _, _ => by simp at h
 | p :: os, k, hb, i, o, h, e, he, hbe => by
  simp only [backEdges, Bool.and_eq_true] at hb
  cases i with
  | zero =>
   simp only [List.getElem?_cons_zero, Option.some.injEq] at h
   subst h
   have := List.all_eq_true.1 hb.1 e (by simpa using he)
   simpa [hbe] using this
  | succ i =>
   simp only [List.getElem?_cons_succ] at h
   have := backEdges_at os (k + 1) hb.2 i o h e he hbe
   omega
theorem apartRow_at (ops : Array Oper) (oi : Oper) (mask : Nat) : ∀ (l : List Oper) (k : Nat), apartRow ops oi mask l k = true → ∀ j oj, l[j]? = some oj → Nat.testBit mask (k + j) = false → oj.apart ops oi = true
 | [], k, _, j, oj, h, _ => by simp at h
 | p :: os, k, ha, j, oj, h, hm => by
  simp only [apartRow, Bool.and_eq_true, Bool.or_eq_true] at ha
  cases j with
  | zero =>
   simp only [List.getElem?_cons_zero, Option.some.injEq] at h
   subst h
   rcases ha.1 with h1 | h1
   ·rw [Nat.add_zero] at hm; rw [hm] at h1; cases h1
   ·exact h1
  | succ j =>
   simp only [List.getElem?_cons_succ] at h
   exact apartRow_at ops oi mask os (k + 1) ha.2 j oj h (by rw [← hm]; congr 1; omega)
theorem apartAll_at (ops : Array Oper) (L : List Oper) (ms : List Nat) : ∀ (l : List Oper) (k : Nat), apartAll ops L ms l k = true → ∀ i oi, l[i]? = some oi →
  ∀ j oj, j < k + i → L[j]? = some oj → Nat.testBit (ms.getD (k + i) 0) j = false → oj.apart ops oi = true
 | [], k, _, i, oi, h, _, _, _, _, _ => by simp at h
 | p :: os, k, ha, i, oi, h, j, oj, hj, hoj, hm => by
  simp only [apartAll, Bool.and_eq_true] at ha
  cases i with
  | zero =>
   simp only [List.getElem?_cons_zero, Option.some.injEq] at h
   subst h
   refine apartRow_at ops p _ (L.take k) 0 ha.1 j oj ?_ ?_
   ·rw [List.getElem?_take, if_pos (by omega)]; exact hoj
   ·rw [Nat.zero_add]; exact hm
  | succ i =>
   simp only [List.getElem?_cons_succ] at h
   exact apartAll_at ops L ms os (k + 1) ha.2 i oi h j oj (by omega) hoj (by rw [← hm]; congr 2; omega)
def lastN {β : Type} (D : Nat → Bool) (f : Rec → Option β) : List Rec → β → β
 | [], b => b
 | r :: rs, b => if D r.idx then (match f r with | some x => x | none => lastN D f rs b) else lastN D f rs b
theorem lastN_congr {β : Type} {D D' : Nat → Bool} {f : Rec → Option β} : ∀ (rs : List Rec) (b : β), (∀ r ∈ rs, D r.idx ≠ D' r.idx → f r = none) → lastN D f rs b = lastN D' f rs b
 | [], b, _ => rfl
 | r :: rs, b, h => by
  have ih := lastN_congr (D := D) (D' := D') rs b (fun q hq => h q (List.mem_cons_of_mem _ hq))
  have h1 := h r (List.mem_cons_self ..)
  simp only [lastN]
  cases hD : D r.idx <;> cases hD' : D' r.idx
  ·simpa using ih
  ·have := h1 (by rw [hD, hD']; simp)
   simp only [Bool.false_eq_true, if_false, if_true, this]
   exact ih
  ·have := h1 (by rw [hD, hD']; simp)
   simp only [Bool.false_eq_true, if_false, if_true, this]
   exact ih
  ·simp only [if_true]
   split
   ·rfl
   ·exact ih
theorem lastN_none {β : Type} {D : Nat → Bool} {f : Rec → Option β} : ∀ (rs : List Rec) (b : β), (∀ r ∈ rs, D r.idx = true → f r = none) → lastN D f rs b = b
 | [], b, _ => rfl
 | r :: rs, b, h => by
  have ih := lastN_none (D := D) rs b (fun q hq => h q (List.mem_cons_of_mem _ hq))
  simp only [lastN]
  split
  ·rename_i hD
   rw [h r (List.mem_cons_self ..) hD]
   exact ih
  ·exact ih
theorem lastN_skip {β : Type} {D : Nat → Bool} {f : Rec → Option β} : ∀ (late rs : List Rec) (b : β), (∀ r ∈ late, D r.idx = true → f r = none) → lastN D f (late ++ rs) b = lastN D f rs b
 | [], rs, b, _ => rfl
 | r :: late, rs, b, h => by
  have ih := lastN_skip (D := D) late rs b (fun q hq => h q (List.mem_cons_of_mem _ hq))
  simp only [List.cons_append, lastN]
  split
  ·rename_i hD
   rw [h r (List.mem_cons_self ..) hD]
   exact ih
  ·exact ih
theorem lastN_from {β : Type} {D : Nat → Bool} {f : Rec → Option β} : ∀ (rs : List Rec) (b : β), lastN D f rs b = b ∨ ∃ r ∈ rs, D r.idx = true ∧ f r = some (lastN D f rs b)
 | [], b => .inl rfl
 | r :: rs, b => by
  simp only [lastN]
  split
  ·rename_i hD
   split
   ·rename_i x hx
    exact .inr ⟨r, List.mem_cons_self .., hD, hx⟩
   ·rcases lastN_from rs b with h | ⟨q, hq, h1, h2⟩
    ·exact .inl h
    ·exact .inr ⟨q, List.mem_cons_of_mem _ hq, h1, h2⟩
  ·rcases lastN_from rs b with h | ⟨q, hq, h1, h2⟩
   ·exact .inl h
   ·exact .inr ⟨q, List.mem_cons_of_mem _ hq, h1, h2⟩
def slotW (t n : Nat) (r : Rec) : Option SV := if r.o.dst = some t ∧ t < n then some r.v else none
def heapW (id : Nat) (r : Rec) : Option (Option Blk) := if id ∈ r.touched then some (r.st1.heap.get id) else none
abbrev top : Nat → Prop := fun _ => True
structure Own (h : Nat → Option Blk) (nb : Nat) : Prop where
 lt : ∀ id k, h id = some k → id < nb
 on : ∀ id k, h id = some k → k.on (lim nb top)
 fine : ∀ id k, h id = some k → k.fine
structure RecOk (P : Program) (Φ : Phi) (ρ : Env) (ops : Array Oper) (ms : List Nat) (fr0 : Fr) (st0 : St) (r : Rec) (rs : List Rec) : Prop where
 idx : r.idx = rs.length
 op : ops[r.idx]? = some r.o
 n : r.fr.n = fr0.n
 fr : ∀ t, r.fr.get t = lastN (fun _ => true) (slotW t fr0.n) rs (fr0.get t)
 vis : ∀ id k, r.vis.get id = some k → lastN (fun _ => true) (heapW id) rs (st0.heap.get id) = some k
 lo : st0.nb ≤ r.st.nb
 hi : r.st.nb ≤ r.st1.nb
 behind : ∀ q ∈ rs, q.st1.nb ≤ r.st.nb
 off : r.on = false → r.v = sundef ∧ r.touched = [] ∧ r.st1.nb = r.st.nb
 want : ∃ stw, wantedS ops.toList r.fr r.o stw = .ok (r.on, r.st) ∧ Facts ρ stw
 facts : Facts ρ r.st
 logs : LogOk Φ ρ r.st.log ∧ LogOk Φ ρ r.st1.log
 ok : r.on = true → OpOk P Φ r.o r.fr { r.st with heap := r.vis, wr := [] } r.v r.st1
 frOn : ∀ t, (r.fr.get t).on (lim r.st.nb top)
 visOwn : Own r.vis.get r.st.nb
 tch : ∀ id, id ∈ r.touched → (r.st.nb ≤ id ∧ id < r.st1.nb) ∨ (id < r.st.nb ∧ r.vis.get id ≠ none)
 new : ∀ id, r.st.nb ≤ id → id < r.st1.nb → id ∈ r.touched
 keep : ∀ id k, r.vis.get id = some k → id ∉ r.touched → r.on = true → r.st1.heap.get id = some k
 apart : ∀ q ∈ rs, Nat.testBit (ms.getD r.idx 0) q.idx = false → (∀ id ∈ q.touched, r.vis.get id = none) ∧ (∀ id ∈ r.touched, id < r.st.nb → q.vis.get id = none)
def Good (P : Program) (Φ : Phi) (ρ : Env) (ops : Array Oper) (ms : List Nat) (fr0 : Fr) (st0 : St) : List Rec → Prop
 | [] => True
 | r :: rs => RecOk P Φ ρ ops ms fr0 st0 r rs ∧ Good P Φ ρ ops ms fr0 st0 rs
theorem wp_extract {o : Oper} {a : Act} {w : World} {p : Prop} (h : o.wp P a w (fun _ _ => p) (fun _ _ _ => p)) : p := by
  unfold Oper.wp at h
  generalize (execOp a.eval o).run P w = r at h
  cases r with
  | ok n w' =>
    cases n <;> simp only [Oper.upon] at h <;> first
      | exact h
      | exact h.elim
      | (obtain ⟨e, w2, fr, hR, _⟩ := h []
         cases e <;> first
           | exact hR
           | (obtain ⟨_, _, hq⟩ := hR; exact hq))
      | (obtain ⟨v, w2, hR, _⟩ := h default []; exact hR)
  | halt x w' =>
    cases x <;> simp only [Oper.upon] at h <;> first
      | exact h
      | exact h.elim
def fakeLoc : Loc := ⟨fun i => Pins.n + i, fun _ => 0⟩
def fakeObj (ρ : Env) : Option Blk → Obj
 | some k =>
  match k.mp with
  | none => .cells (k.cells ρ fakeLoc).toArray k.elem (0, 0)
  | some es => .map (entFrom ρ 0 es).toArray es.length
 | none => default
theorem fake_rep (ρ : Env) {h : Nat → Option Blk} {nb : Nat} (ho : Own h nb) : ∃ w : World, Rep ρ fakeLoc top h nb w := by
 have hi : ∀ b, b < Pins.n → (Array.ofFn fun i : Fin (Pins.n + nb) => if (i : Nat) < Pins.n then (Pins.wit.heap[(i : Nat)]?).getD default else fakeObj ρ (h (i - Pins.n)))[b]? = Pins.wit.heap[b]? := by
  intro b hb
  have hb2 : b < Pins.n + nb := by omega
  have hb3 : b < Pins.wit.heap.size := Nat.lt_of_lt_of_le hb Pins.room
  simp only [Array.getElem?_ofFn, hb2, dif_pos, hb, if_true, Array.getElem?_eq_getElem hb3, Option.getD_some]
 refine ⟨{ (default : World) with heap := Array.ofFn fun i : Fin (Pins.n + nb) => if (i : Nat) < Pins.n then (Pins.wit.heap[(i : Nat)]?).getD default else fakeObj ρ (h (i - Pins.n)) }, fun id k hk => ⟨ho.lt id k hk, trivial⟩, fun id k hk => ?_, ho.on, fun id id' _ _ _ _ he => ?_,
  by simp, Pins.keep Pins.wit _ hi Pins.wit_ok, fun id k hk => Nat.le_add_right _ _⟩
 ·have hlt := ho.lt id k hk
  have hlt2 : Pins.n + id < Pins.n + nb := by omega
  have hnl : ¬ Pins.n + id < Pins.n := by omega
  have hsub : Pins.n + id - Pins.n = id := by omega
  rcases ho.fine id k hk with hm | ⟨h1, es, h2, h3⟩
  ·refine .inl ⟨hm, [], ?_, fun _ => rfl⟩
   simp only [fakeLoc, Array.getElem?_ofFn, hlt2, dif_pos, hnl, if_false, hsub, hk, fakeObj, hm, List.append_nil]
  ·refine .inr ⟨h1, es, h2, h3, ?_⟩
   simp only [fakeLoc, Array.getElem?_ofFn, hlt2, dif_pos, hnl, if_false, hsub, hk, fakeObj, h2]
 ·have he' : Pins.n + id = Pins.n + id' := he
  omega
theorem exists_bound : ∀ l : List Operand, ∃ M : Nat, ∀ t : Nat, Operand.tmp t ∈ l → t < M
 | [] => ⟨0, fun t h => by cases h⟩
 | x :: l => by
  obtain ⟨M, hM⟩ := exists_bound l
  cases x with
  | tmp s =>
   refine ⟨M + (s : Nat) + 1, fun t h => ?_⟩
   rcases List.mem_cons.1 h with h | h
   ·have h : t = s := by injection h
    omega
   ·have := hM t h; omega
  | _ =>
   refine ⟨M, fun t h => ?_⟩
   rcases List.mem_cons.1 h with h | h
   ·cases h
   ·exact hM t h
theorem fake_act (ρ : Env) (fr : Fr) (l : List Operand) {nb : Nat} (hon : ∀ t, (fr.get t).on (lim nb top)) : ∃ a : Act, ∀ x ∈ l, a.eval x = (fr.eval x).den ρ fakeLoc ∧ (fr.eval x).on (lim nb top) := by
 obtain ⟨M, hM⟩ := exists_bound l
 refine ⟨{ tmps := Array.ofFn fun i : Fin M => (fr.get i).den ρ fakeLoc, defers := [] }, fun x hx => ?_⟩
 cases x with
 | tmp t =>
  have := hM t hx
  refine ⟨?_, hon t⟩
  simp [Act.eval, this, Fr.eval]
 | const v => exact ⟨(ofVal_den v ρ _).symm, ofVal_on v _⟩
 | global g => exact ⟨rfl, bare_c (x := .lit (.pointer (some ⟨g, 0, none⟩))) (fun _ => trivial) _⟩
 | func f => exact ⟨rfl, bare_c (x := .lit (.func (.func f) #[] #[])) (fun _ => trivial) _⟩
theorem OpOk.own {Φ : Phi} {o : Oper} {fr : Fr} {st st' : St} {v : SV} (h : OpOk P Φ o fr st v st') {ρ : Env} (hl : LogOk Φ ρ st'.log) (hf : Facts ρ st)
  (ho : Own st.heap.get st.nb) (hon : ∀ t, (fr.get t).on (lim st.nb top)) : v.on (lim st'.nb top) ∧ Own st'.heap.get st'.nb := by
 obtain ⟨w, hr⟩ := fake_rep ρ ho
 obtain ⟨a, ha⟩ := fake_act ρ fr o.op.operands.toList hon
 exact wp_extract (h.2 ρ hl hf top (fun _ _ _ => trivial) fakeLoc w a hr (fun x hx => ha x (by simpa using hx)) _ _ fun ι' w' hp hv => ⟨hv, fun id k hk => (hp.rep.lt id k hk).1, hp.rep.on, fun id k hk => (hp.rep.blk id k hk).fine⟩)
theorem get_delAll (h : Tr Blk) : ∀ (l : List Nat) (id : Nat), (delAll h l).get id = if id ∈ l then none else h.get id
 | [], id => by simp [delAll]
 | i :: is, id => by
  rw [delAll, get_delAll (h.del i) is id, Tr.get_del]
  by_cases h1 : id ∈ is
  ·simp [h1]
  ·by_cases h2 : id = i <;> simp [h1, h2]
theorem get_laid (f : Tr Blk) : ∀ (l : List Nat) (t : Tr Blk) (id : Nat), (laid f t l).get id = if id ∈ l then f.get id else t.get id
 | [], t, id => by simp [laid]
 | i :: is, t, id => by
  rw [laid, get_laid f is _ id, Tr.get_upd _ _ _ _ _ (Nat.lt_succ_self i)]
  by_cases h1 : id ∈ is
  ·simp [h1]
  ·by_cases h2 : id = i
   ·subst h2; simp [h1]
   ·simp [h1, h2]
theorem mem_newIds : ∀ (n a id : Nat), id ∈ newIds a n ↔ a ≤ id ∧ id < a + n
 | 0, a, id => by simp [newIds]
 | n + 1, a, id => by
  simp only [newIds, List.mem_cons, mem_newIds n (a + 1) id]
  omega
theorem mem_oldOnes (nb : Nat) : ∀ (l : List Nat) (id : Nat), id ∈ oldOnes nb l ↔ id < nb ∧ id ∈ l
 | [], id => by simp [oldOnes]
 | i :: is, id => by
  simp only [oldOnes]
  split
  ·rename_i h
   have h : i < nb := by simpa using h
   rw [List.mem_cons, List.mem_cons, mem_oldOnes nb is id]
   constructor
   ·rintro (rfl | h2)
    ·exact ⟨h, .inl rfl⟩
    ·exact ⟨h2.1, .inr h2.2⟩
   ·rintro ⟨h1, rfl | h2⟩
    ·exact .inl rfl
    ·exact .inr ⟨h1, h2⟩
  ·rename_i h
   have h : ¬ i < nb := by simpa using h
   rw [List.mem_cons, mem_oldOnes nb is id]
   constructor
   ·rintro ⟨h1, h2⟩; exact ⟨h1, .inr h2⟩
   ·rintro ⟨h1, rfl | h2⟩
    ·exact absurd h1 h
    ·exact ⟨h1, h2⟩
theorem elemN_mem {i : Nat} : ∀ {l : List Nat}, elemN i l = true → i ∈ l
 | [], h => by simp [elemN] at h
 | j :: l, h => by
  simp only [elemN, Bool.or_eq_true] at h
  rcases h with h | h
  ·have : i = j := by simpa using h
   simp [this]
  ·exact List.mem_cons_of_mem _ (elemN_mem h)
theorem mem_touchedBy (mask : Nat) : ∀ (rs : List Rec) (q : Rec), q ∈ rs → Nat.testBit mask q.idx = false → ∀ id ∈ q.touched, id ∈ touchedBy mask rs
 | [], q, h, _, _, _ => by cases h
 | r :: rs, q, h, hm, id, hid => by
  simp only [touchedBy]
  rcases List.mem_cons.1 h with rfl | h
  ·rw [hm]
   simp [hid]
  ·have := mem_touchedBy mask rs q h hm id hid
   split
   ·exact this
   ·exact List.mem_append_right _ this
theorem writesOk_at (mask : Nat) (wr : List Nat) : ∀ (rs : List Rec), writesOk mask wr rs = true → ∀ q ∈ rs, Nat.testBit mask q.idx = false → q.blind = true ∨ ∀ id ∈ wr, id ∈ q.hidden
 | [], _, q, h, _ => by cases h
 | r :: rs, hw, q, h, hm => by
  simp only [writesOk, Bool.and_eq_true, Bool.or_eq_true] at hw
  rcases List.mem_cons.1 h with rfl | h
  ·rcases hw.1 with (h1 | h1) | h1
   ·rw [hm] at h1; cases h1
   ·exact .inl h1
   ·exact .inr fun id hid => elemN_mem (List.all_eq_true.1 h1 id hid)
  ·exact writesOk_at mask wr rs hw.2 q h hm
structure Inv (P : Program) (Φ : Phi) (ρ : Env) (ops : Array Oper) (ms : List Nat) (fr0 : Fr) (st0 : St) (i : Nat) (fr : Fr) (st : St) (recs : List Rec) : Prop where
 good : Good P Φ ρ ops ms fr0 st0 recs
 len : recs.length = i
 n : fr.n = fr0.n
 frEq : ∀ t, fr.get t = lastN (fun _ => true) (slotW t fr0.n) recs (fr0.get t)
 heap : ∀ id, st.heap.get id = lastN (fun _ => true) (heapW id) recs (st0.heap.get id)
 frOn : ∀ t, (fr.get t).on (lim st.nb top)
 own : Own st.heap.get st.nb
 behind : ∀ q ∈ recs, q.st1.nb ≤ st.nb
 lo : st0.nb ≤ st.nb
 hid : ∀ q ∈ recs, (q.blind = true → ∀ id, q.vis.get id = none) ∧ (∀ id ∈ q.hidden, q.vis.get id = none)
 cover : ∀ id, st0.nb ≤ id → id < st.nb → ∃ q ∈ recs, q.st.nb ≤ id ∧ id < q.st1.nb
theorem Inv.push {Φ : Phi} {ρ : Env} {ops : Array Oper} {ms : List Nat} {fr0 : Fr} {st0 : St} {i : Nat} {fr : Fr} {st : St} {recs : List Rec} (h : Inv P Φ ρ ops ms fr0 st0 i fr st recs)
  {r : Rec} {st' : St} (hr : RecOk P Φ ρ ops ms fr0 st0 r recs) (hfr : r.fr = fr) (hnb : r.st1.nb = st'.nb) (hlo : r.st.nb = st.nb)
  (hheap : ∀ id, st'.heap.get id = if id ∈ r.touched then r.st1.heap.get id else st.heap.get id)
  (hv : r.v.on (lim st'.nb top)) (hown : Own r.st1.heap.get st'.nb ∨ r.touched = [])
  (hhid : (r.blind = true → ∀ id, r.vis.get id = none) ∧ (∀ id ∈ r.hidden, r.vis.get id = none)) :
  Inv P Φ ρ ops ms fr0 st0 (i + 1) (fr.put r.o.dst r.v) st' (r :: recs) := by
 have hle : st.nb ≤ st'.nb := by rw [← hnb, ← hlo]; exact hr.hi
 have hmono : ∀ i, lim st.nb top i → lim st'.nb top i := fun i hi => ⟨Nat.lt_of_lt_of_le hi.1 hle, hi.2⟩
 refine ⟨⟨hr, h.good⟩, by simp [h.len], by rw [Fr.n_put, h.n], fun t => ?_, fun id => ?_, fun t => ?_, ⟨fun id k hk => ?_, fun id k hk => ?_, fun id k hk => ?_⟩, fun q hq => ?_, Nat.le_trans h.lo hle, fun q hq => ?_, fun id h1 h2 => ?_⟩
 ·rw [Fr.get_put, h.n]
  simp only [lastN, if_true, slotW]
  split
  ·rfl
  ·exact h.frEq t
 ·rw [hheap]
  simp only [lastN, if_true, heapW]
  split
  ·rfl
  ·exact h.heap id
 ·rw [Fr.get_put]
  split
  ·exact hv
  ·exact SV.on_mono hmono (h.frOn t)
 ·rw [hheap] at hk
  split at hk
  ·rename_i ht
   rcases hown with ho | ho
   ·exact ho.lt id k hk
   ·rw [ho] at ht; cases ht
  ·exact Nat.lt_of_lt_of_le (h.own.lt id k hk) hle
 ·rw [hheap] at hk
  split at hk
  ·rename_i ht
   rcases hown with ho | ho
   ·exact ho.on id k hk
   ·rw [ho] at ht; cases ht
  ·exact fun j hj => SC.on_mono hmono (h.own.on id k hk j hj)
 ·rw [hheap] at hk
  split at hk
  ·rename_i ht
   rcases hown with ho | ho
   ·exact ho.fine id k hk
   ·rw [ho] at ht; cases ht
  ·exact h.own.fine id k hk
 ·rcases List.mem_cons.1 hq with rfl | hq
  ·exact Nat.le_of_eq hnb
  ·exact Nat.le_trans (h.behind q hq) hle
 ·rcases List.mem_cons.1 hq with rfl | hq
  ·exact hhid
  ·exact h.hid q hq
 ·by_cases h3 : id < st.nb
  ·obtain ⟨q, hq, h4⟩ := h.cover id h1 h3
   exact ⟨q, List.mem_cons_of_mem _ hq, h4⟩
  ·exact ⟨r, List.mem_cons_self .., by omega, by omega⟩
theorem own_e (nb : Nat) : Own (Tr.e : Tr Blk).get nb := ⟨fun id k hk => (by rw [Tr.get_e] at hk; cases hk), fun id k hk => (by rw [Tr.get_e] at hk; cases hk), fun id k hk => (by rw [Tr.get_e] at hk; cases hk)⟩
theorem memless_le {Φ : Phi} {s s2 : St} (h : Le Φ { s with heap := .e, wr := [] } s2) (hnb : s2.nb = s.nb) : Le Φ s { s2 with heap := s.heap, wr := s.wr } :=
 ⟨h.log, Nat.le_of_eq hnb.symm, ⟨[], rfl, fun _ _ _ => rfl, fun _ h => by cases h⟩, fun _ _ h => h, h.facts⟩
theorem memful_le {Φ : Phi} {s s2 : St} {hidden : List Nat} (h : Le Φ { s with heap := delAll s.heap hidden, wr := [] } s2) :
  Le Φ s { s2 with heap := laid s2.heap s.heap (newIds s.nb (s2.nb - s.nb) ++ oldOnes s.nb s2.wr), wr := s2.wr ++ s.wr } := by
 obtain ⟨l, h1, h2, h3⟩ := h.wr
 simp only [List.append_nil] at h1
 refine ⟨h.log, h.nb, ⟨s2.wr, rfl, fun id hid hn => ?_, fun id hid hlt hnone => ?_⟩, fun id hid hnone => ?_, h.facts⟩
 ·show (laid _ _ _).get id = _
  rw [get_laid, if_neg]
  rw [List.mem_append, mem_newIds, mem_oldOnes]
  rintro (⟨h4, _⟩ | ⟨_, h4⟩)
  ·omega
  ·exact hn h4
 ·rw [h1] at hid
  apply h3 id hid hlt
  show (delAll s.heap hidden).get id = none
  rw [get_delAll]
  split
  ·rfl
  ·exact hnone
 ·show (laid _ _ _).get id = _
  rw [get_laid]
  split
  ·rename_i hm
   rw [List.mem_append, mem_newIds, mem_oldOnes] at hm
   rcases hm with ⟨h4, _⟩ | ⟨_, hm⟩
   ·omega
   ·rw [h1] at hm
    exact absurd (show (delAll s.heap hidden).get id = none by rw [get_delAll]; split <;> first | rfl | exact hnone) (h3 id hm hid)
  ·exact hnone
theorem drop_head {α : Type} {l : List α} {i : Nat} {x : α} {rest : List α} (h : x :: rest = l.drop i) : l[i]? = some x ∧ rest = l.drop (i + 1) := by
 constructor
 ·have : (l.drop i)[0]? = some x := by rw [← h]; rfl
  rw [List.getElem?_drop] at this
  exact this
 ·have : (l.drop i).drop 1 = rest := by rw [← h]; rfl
  rw [List.drop_drop] at this
  rw [← this]
theorem drawRun_inv {Φ : Phi} {C : Ctx} (hT : TysOk P C.tys) {call : CallF} (hc : CallOk P Φ call) {ops : Array Oper} (ms : List Nat) (hints : List (List Nat)) (fr0 : Fr) (st0 : St) :
    ∀ (rest : List Oper) (i : Nat) (fr : Fr) (st : St) (recs : List Rec) (wrs : List (List Nat)) (good : Bool) (d : DrawOut), drawRun C call ops.toList ms hints rest i fr st recs wrs good = .ok d →
      Le Φ st d.st ∧ (d.good = true → good = true ∧ ∀ ρ, LogOk Φ ρ d.st.log → Facts ρ st → rest = ops.toList.drop i → Inv P Φ ρ ops ms fr0 st0 i fr st recs →
        Inv P Φ ρ ops ms fr0 st0 (i + rest.length) d.fr d.st d.recs ∧ Facts ρ d.st)
  | [], i, fr, st, recs, wrs, good, d, h => by
    simp only [drawRun, R.ok.injEq] at h
    subst h
    exact ⟨.refl _ _, fun hg => ⟨hg, fun ρ _ hf _ hi => ⟨hi, hf⟩⟩⟩
  | o :: rest, i, fr, st, recs, wrs, good, d, h => by
    simp only [drawRun] at h
    split at h
    · exact er_ne h
    · rename_i s1 hw
      obtain ⟨q, hq⟩ := wantedS_ok (Φ := Φ) (ops := ops) rfl hw
      obtain ⟨h1, h2⟩ := drawRun_inv hT hc ms hints fr0 st0 rest (i + 1) _ _ _ _ _ d h
      refine ⟨q.le.trans h1, fun hg => ?_⟩
      obtain ⟨h3, h4⟩ := h2 hg
      refine ⟨h3, fun ρ hl hf hrest hi => ?_⟩
      obtain ⟨e1, e2⟩ := drop_head hrest
      have hl1 := h1.logOk hl
      have hf1 := q.facts ρ hl1 hf
      have hrec : RecOk P Φ ρ ops ms fr0 st0 ⟨i, true, [], [], o, false, sundef, fr, s1, .e, s1⟩ recs :=
        { idx := hi.len.symm, op := by rw [← Array.getElem?_toList]; exact e1, n := hi.n, fr := hi.frEq, vis := fun id k hk => (by rw [Tr.get_e] at hk; cases hk), lo := by rw [q.nb]; exact hi.lo, hi := Nat.le_refl _,
          behind := fun p hp => by rw [q.nb]; exact hi.behind p hp, off := fun _ => ⟨rfl, rfl, rfl⟩, want := ⟨st, hw, hf⟩, facts := hf1, logs := ⟨hl1, hl1⟩, ok := fun h => (by cases h), frOn := fun t => by rw [q.nb]; exact hi.frOn t,
          visOwn := own_e _, tch := fun id hid => (by cases hid), new := fun id a b => absurd b (Nat.not_lt_of_le a), keep := fun id k hk => (by rw [Tr.get_e] at hk; cases hk), apart := fun p _ _ => ⟨fun id _ => Tr.get_e id, fun id hid => by cases hid⟩ }
      have hpush := hi.push (st' := s1) hrec rfl rfl q.nb (fun id => by rw [q.heap]; simp) (bare_undef _) (.inr rfl) ⟨fun _ id => Tr.get_e id, fun id hid => by cases hid⟩
      have := h4 ρ hl hf1 e2 hpush
      rw [show i + (o :: rest).length = i + 1 + rest.length by simp; omega]
      exact this
    · rename_i s1 hw
      obtain ⟨q, hq⟩ := wantedS_ok (Φ := Φ) (ops := ops) rfl hw
      split at h
      · rename_i hml
        split at h
        · exact er_ne h
        · rename_i v s2 ho
          split at h
          · rename_i hnb
            have hnb : s2.nb = s1.nb := by simpa using hnb
            have hok := op1_ok hT hc ho
            have hle2 := memless_le hok.1 hnb
            obtain ⟨h1, h2⟩ := drawRun_inv hT hc ms hints fr0 st0 rest (i + 1) _ _ _ _ _ d h
            refine ⟨(q.le.trans hle2).trans h1, fun hg => ?_⟩
            obtain ⟨h3, h4⟩ := h2 hg
            refine ⟨h3, fun ρ hl hf hrest hi => ?_⟩
            obtain ⟨e1, e2⟩ := drop_head hrest
            have hl2 : LogOk Φ ρ s2.log := h1.logOk hl
            have hl1 : LogOk Φ ρ s1.log := hok.1.logOk hl2
            have hf1 := q.facts ρ hl1 hf
            have hf2 : Facts ρ s2 := hok.1.facts ρ hl2 hf1
            have hfron : ∀ t, (fr.get t).on (lim s1.nb top) := fun t => by rw [q.nb]; exact hi.frOn t
            obtain ⟨hv, hown⟩ := hok.own hl2 hf1 (own_e _) hfron
            have hrec : RecOk P Φ ρ ops ms fr0 st0 ⟨i, true, [], [], o, true, v, fr, s1, .e, s2⟩ recs :=
              { idx := hi.len.symm, op := by rw [← Array.getElem?_toList]; exact e1, n := hi.n, fr := hi.frEq, vis := fun id k hk => (by rw [Tr.get_e] at hk; cases hk), lo := by rw [q.nb]; exact hi.lo, hi := Nat.le_of_eq hnb.symm,
                behind := fun p hp => by rw [q.nb]; exact hi.behind p hp, off := fun h => (by cases h), want := ⟨st, hw, hf⟩, facts := hf1, logs := ⟨hl1, hl2⟩, ok := fun _ => hok, frOn := hfron,
                visOwn := own_e _, tch := fun id hid => (by cases hid), new := fun id a b => absurd b (by show ¬ id < s2.nb; rw [hnb]; exact Nat.not_lt_of_le a), keep := fun id k hk => (by rw [Tr.get_e] at hk; cases hk), apart := fun p _ _ => ⟨fun id _ => Tr.get_e id, fun id hid => by cases hid⟩ }
            have hpush := hi.push (st' := { s2 with heap := s1.heap, wr := s1.wr }) hrec rfl rfl q.nb (fun id => by rw [← q.heap]; simp) hv (.inr rfl) ⟨fun _ id => Tr.get_e id, fun id hid => by cases hid⟩
            have := h4 ρ hl hf2 e2 hpush
            rw [show i + (o :: rest).length = i + 1 + rest.length by simp; omega]
            exact this
          · exact stop_ne h
      · split at h
        · exact er_ne h
        · rename_i v s2 ho
          have hok := op1_ok hT hc ho
          have hle2 := memful_le hok.1
          obtain ⟨h1, h2⟩ := drawRun_inv hT hc ms hints fr0 st0 rest (i + 1) _ _ _ _ _ d h
          refine ⟨(q.le.trans hle2).trans h1, fun hg => ?_⟩
          obtain ⟨h3, h4⟩ := h2 hg
          rw [Bool.and_eq_true] at h3
          refine ⟨h3.1, fun ρ hl hf hrest hi => ?_⟩
          obtain ⟨e1, e2⟩ := drop_head hrest
          have hl2 : LogOk Φ ρ s2.log := h1.logOk hl
          have hl1 : LogOk Φ ρ s1.log := hok.1.logOk hl2
          have hf1 := q.facts ρ hl1 hf
          have hf2 : Facts ρ s2 := hok.1.facts ρ hl2 hf1
          have hfron : ∀ t, (fr.get t).on (lim s1.nb top) := fun t => by rw [q.nb]; exact hi.frOn t
          have hvis : ∀ id k, (delAll s1.heap (touchedBy (ms.getD i 0) recs ++ hints.getD i [])).get id = some k → st.heap.get id = some k ∧ id ∉ touchedBy (ms.getD i 0) recs := by
            intro id k hk
            rw [get_delAll] at hk
            split at hk
            · cases hk
            · rename_i hn
              rw [List.mem_append, not_or] at hn
              rw [q.heap] at hk
              exact ⟨hk, hn.1⟩
          have hvown : Own (delAll s1.heap (touchedBy (ms.getD i 0) recs ++ hints.getD i [])).get s1.nb :=
            ⟨fun id k hk => by rw [q.nb]; exact hi.own.lt id k (hvis id k hk).1, fun id k hk => by rw [q.nb]; exact hi.own.on id k (hvis id k hk).1, fun id k hk => hi.own.fine id k (hvis id k hk).1⟩
          obtain ⟨hv, hown⟩ := hok.own hl2 hf1 hvown hfron
          obtain ⟨wl, w1, w2, w3⟩ := hok.1.wr
          simp only [List.append_nil] at w1
          have hle : s1.nb ≤ s2.nb := hok.1.nb
          have hmem : ∀ id, id ∈ newIds s1.nb (s2.nb - s1.nb) ++ oldOnes s1.nb s2.wr ↔ (s1.nb ≤ id ∧ id < s2.nb) ∨ (id < s1.nb ∧ id ∈ s2.wr) := by
            intro id
            rw [List.mem_append, mem_newIds, mem_oldOnes]
            constructor
            · rintro (h | h)
              · exact .inl ⟨h.1, by omega⟩
              · exact .inr h
            · rintro (h | h)
              · exact .inl ⟨h.1, by omega⟩
              · exact .inr h
          have htch : ∀ id, id ∈ newIds s1.nb (s2.nb - s1.nb) ++ oldOnes s1.nb s2.wr → (s1.nb ≤ id ∧ id < s2.nb) ∨ (id < s1.nb ∧ (delAll s1.heap (touchedBy (ms.getD i 0) recs ++ hints.getD i [])).get id ≠ none) := by
            intro id hid
            rcases (hmem id).1 hid with h | ⟨hlt, h⟩
            · exact .inl h
            · rw [w1] at h
              exact .inr ⟨hlt, w3 id h hlt⟩
          have hrec : RecOk P Φ ρ ops ms fr0 st0 ⟨i, false, touchedBy (ms.getD i 0) recs ++ hints.getD i [], newIds s1.nb (s2.nb - s1.nb) ++ oldOnes s1.nb s2.wr, o, true, v, fr, s1,
              delAll s1.heap (touchedBy (ms.getD i 0) recs ++ hints.getD i []), s2⟩ recs :=
            { idx := hi.len.symm, op := by rw [← Array.getElem?_toList]; exact e1, n := hi.n, fr := hi.frEq, vis := fun id k hk => by rw [← hi.heap]; exact (hvis id k hk).1, lo := by rw [q.nb]; exact hi.lo, hi := hle,
              behind := fun p hp => by rw [q.nb]; exact hi.behind p hp, off := fun h => (by cases h), want := ⟨st, hw, hf⟩, facts := hf1, logs := ⟨hl1, hl2⟩, ok := fun _ => hok, frOn := hfron,
              visOwn := hvown, tch := htch, new := fun id a b => (hmem id).2 (.inl ⟨a, b⟩),
              keep := fun id k hk hn _ => by
                have hlt := hvown.lt id k hk
                rw [← hk]
                exact w2 id hlt (fun hm => hn ((hmem id).2 (.inr ⟨hlt, by rw [w1]; exact hm⟩))),
              apart := fun p hp hbit => ⟨fun id hid => ?_, fun id hid hlt => ?_⟩ }
          · have hpush := hi.push (st' := { s2 with heap := laid s2.heap s1.heap (newIds s1.nb (s2.nb - s1.nb) ++ oldOnes s1.nb s2.wr), wr := s2.wr ++ s1.wr }) hrec rfl rfl q.nb
              (fun id => by show (laid _ _ _).get id = _; rw [get_laid, q.heap]) hv (.inl hown) ⟨fun h => (by cases h), fun id hid => by rw [get_delAll, if_pos hid]⟩
            have := h4 ρ hl hf2 e2 hpush
            rw [show i + (o :: rest).length = i + 1 + rest.length by simp; omega]
            exact this
          · show (delAll s1.heap _).get id = none
            rw [get_delAll, if_pos]
            exact List.mem_append_left _ (mem_touchedBy _ recs p hp hbit id hid)
          · have hwr : id ∈ s2.wr := by
              rcases (hmem id).1 hid with h | h
              · exact absurd hlt (Nat.not_lt_of_le h.1)
              · exact h.2
            rcases writesOk_at _ _ recs h3.2 p hp hbit with hb | hb
            · exact (hi.hid p hp).1 hb id
            · exact (hi.hid p hp).2 id (hb id hwr)
end
end Go.Sx
namespace Go.Sx
set_option linter.unusedSectionVars false
variable [Pins]
set_option linter.unusedSimpArgs false
set_option linter.unusedVariables false
section
variable {P : Program} {Φ : Phi} {ρ : Env} {ops : Array Oper} {ms : List Nat} {fr0 : Fr} {st0 : St}
theorem Good.split : ∀ {recs : List Rec} (h : Good P Φ ρ ops ms fr0 st0 recs) {r : Rec}, r ∈ recs → ∃ late rs, recs = late ++ r :: rs ∧ RecOk P Φ ρ ops ms fr0 st0 r rs ∧ Good P Φ ρ ops ms fr0 st0 rs
 | [], h, r, hr => by cases hr
 | q :: recs, h, r, hr => by
  rcases List.mem_cons.1 hr with rfl | hr
  ·exact ⟨[], recs, rfl, h.1, h.2⟩
  ·obtain ⟨late, rs, e, h1, h2⟩ := Good.split h.2 hr
   exact ⟨q :: late, rs, by rw [e]; rfl, h1, h2⟩
theorem Good.late : ∀ {late : List Rec} {rs : List Rec}, Good P Φ ρ ops ms fr0 st0 (late ++ rs) → ∀ q ∈ late, ∃ rs', RecOk P Φ ρ ops ms fr0 st0 q rs' ∧ (∀ p ∈ rs, p ∈ rs') ∧ rs.length ≤ rs'.length
 | [], rs, _, q, hq => by cases hq
 | p :: late, rs, h, q, hq => by
  rcases List.mem_cons.1 hq with rfl | hq
  ·exact ⟨late ++ rs, h.1, fun x hx => List.mem_append_right _ hx, by simp⟩
  ·exact Good.late h.2 q hq
theorem Good.lt : ∀ {rs : List Rec}, Good P Φ ρ ops ms fr0 st0 rs → ∀ q ∈ rs, q.idx < rs.length
 | [], _, q, hq => by cases hq
 | p :: rs, h, q, hq => by
  rcases List.mem_cons.1 hq with rfl | hq
  ·rw [h.1.idx]; simp
  ·have := Good.lt h.2 q hq; simp; omega
def Free (ms : List Nat) (r q : Rec) : Prop := q.idx ≠ r.idx ∧ (q.idx < r.idx → Nat.testBit (ms.getD r.idx 0) q.idx = false) ∧ (r.idx < q.idx → Nat.testBit (ms.getD q.idx 0) r.idx = false)
theorem Free.symm {r q : Rec} (h : Free ms r q) : Free ms q r := ⟨h.1.symm, h.2.2, h.2.1⟩
theorem free_pair {recs : List Rec} (hg : Good P Φ ρ ops ms fr0 st0 recs) {r q : Rec} (hr : r ∈ recs) (hq : q ∈ recs) (hf : Free ms r q) (hlt : q.idx < r.idx) :
  (∀ id ∈ q.touched, r.vis.get id = none) ∧ (∀ id ∈ r.touched, q.vis.get id = none) ∧ (∀ id ∈ r.touched, id ∉ q.touched) ∧ q.st1.nb ≤ r.st.nb := by
 obtain ⟨late, rs, e, h1, h2⟩ := hg.split hr
 have hqrs : q ∈ rs := by
  rw [e] at hq
  rcases List.mem_append.1 hq with hq | hq
  ·rw [e] at hg
   obtain ⟨rs', h3, h4, h5⟩ := Good.late hg q hq
   rw [h3.idx, h1.idx] at hlt
   simp at h5
   omega
  ·rcases List.mem_cons.1 hq with rfl | hq
   ·exact absurd hlt (Nat.lt_irrefl _)
   ·exact hq
 obtain ⟨a1, a2⟩ := h1.apart q hqrs (hf.2.1 hlt)
 have hb := h1.behind q hqrs
 obtain ⟨late2, rs2, e2, k1, k2⟩ := hg.split hq
 have hqt : ∀ id ∈ q.touched, id < q.st1.nb := fun id hid => by
  rcases k1.tch id hid with h | h
  ·exact h.2
  ·exact Nat.lt_of_lt_of_le h.1 k1.hi
 refine ⟨a1, fun id hid => ?_, fun id hid hid2 => ?_, hb⟩
 ·rcases h1.tch id hid with h | h
  ·cases hv : q.vis.get id with
   | none => rfl
   | some k =>
    have := k1.visOwn.lt id k hv
    have := k1.hi
    omega
  ·exact a2 id hid h.1
 ·rcases h1.tch id hid with h | h
  ·have := hqt id hid2
   omega
  ·exact h.2 (a1 id hid2)
theorem free_all {recs : List Rec} (hg : Good P Φ ρ ops ms fr0 st0 recs) {r q : Rec} (hr : r ∈ recs) (hq : q ∈ recs) (hf : Free ms r q) :
  (∀ id ∈ q.touched, r.vis.get id = none) ∧ (∀ id ∈ r.touched, id ∉ q.touched) := by
 rcases Nat.lt_or_gt_of_ne hf.1 with h | h
 ·have := free_pair hg hr hq hf h
  exact ⟨this.1, this.2.2.1⟩
 ·have := free_pair hg hq hr hf.symm h
  exact ⟨this.2.1, fun id h1 h2 => this.2.2.1 id h2 h1⟩
theorem Good.uniq {recs : List Rec} (hg : Good P Φ ρ ops ms fr0 st0 recs) {r q : Rec} (hr : r ∈ recs) (hq : q ∈ recs) (h : q.idx = r.idx) : q = r := by
 obtain ⟨late, rs, e, h1, h2⟩ := hg.split hr
 rw [e] at hq hg
 rcases List.mem_append.1 hq with hq | hq
 ·obtain ⟨rs', h3, h4, h5⟩ := Good.late hg q hq
  rw [h3.idx, h1.idx] at h
  simp at h5
  omega
 ·rcases List.mem_cons.1 hq with rfl | hq
  ·rfl
  ·have := Good.lt h2 q hq
   rw [h, h1.idx] at this
   omega
def Closed (ms : List Nat) (recs : List Rec) (D : Nat → Bool) : Prop := ∀ q ∈ recs, D q.idx = true → ∀ j, Nat.testBit (ms.getD q.idx 0) j = true → D j = true
def Ready (ms : List Nat) (D : Nat → Bool) (r : Rec) : Prop := D r.idx = false ∧ ∀ j, Nat.testBit (ms.getD r.idx 0) j = true → D j = true
def plus (D : Nat → Bool) (i : Nat) : Nat → Bool := fun j => D j || decide (j = i)
theorem free_of {recs : List Rec} {D : Nat → Bool} (hcl : Closed ms recs D) {r q : Rec} (hq : q ∈ recs) (hrd : Ready ms D r) (hne : q.idx ≠ r.idx)
  (h : (D q.idx = true ∧ r.idx < q.idx) ∨ (D q.idx = false ∧ q.idx < r.idx)) : Free ms r q := by
 refine ⟨hne, fun h1 => ?_, fun h1 => ?_⟩
 ·rcases h with h | h
  ·omega
  ·cases hb : Nat.testBit (ms.getD r.idx 0) q.idx with
   | false => rfl
   | true => have := hrd.2 _ hb; rw [h.1] at this; cases this
 ·rcases h with h | h
  ·cases hb : Nat.testBit (ms.getD q.idx 0) r.idx with
   | false => rfl
   | true => have := hcl q hq h.1 _ hb; rw [hrd.1] at this; cases this
  ·omega
theorem agree {β : Type} {recs : List Rec} (hg : Good P Φ ρ ops ms fr0 st0 recs) {D : Nat → Bool} (hcl : Closed ms recs D) {r : Rec} {late rs : List Rec} (e : recs = late ++ r :: rs)
  (hrec : RecOk P Φ ρ ops ms fr0 st0 r rs) (hrs : Good P Φ ρ ops ms fr0 st0 rs) (hrd : Ready ms D r) {f : Rec → Option β} (b : β) (hf : ∀ q ∈ recs, Free ms r q → f q = none) :
  lastN D f recs b = lastN (fun _ => true) f rs b := by
 have hlate : ∀ q ∈ late, r.idx < q.idx := by
  intro q hq
  have hg' := hg
  rw [e] at hg'
  obtain ⟨rs', h3, h4, h5⟩ := Good.late hg' q hq
  rw [h3.idx, hrec.idx]
  simp at h5
  omega
 have hearly : ∀ q ∈ rs, q.idx < r.idx := fun q hq => by rw [hrec.idx]; exact Good.lt hrs q hq
 have hin1 : ∀ q ∈ late, q ∈ recs := fun q hq => by rw [e]; exact List.mem_append_left _ hq
 have hin2 : ∀ q ∈ rs, q ∈ recs := fun q hq => by rw [e]; exact List.mem_append_right _ (List.mem_cons_of_mem _ hq)
 rw [e, lastN_skip late _ b (fun q hq hD => hf q (hin1 q hq) (free_of hcl (hin1 q hq) hrd (by have := hlate q hq; omega) (.inl ⟨hD, hlate q hq⟩)))]
 simp only [lastN, hrd.1, Bool.false_eq_true, if_false]
 refine lastN_congr rs b fun q hq hD => hf q (hin2 q hq) (free_of hcl (hin2 q hq) hrd (by have := hearly q hq; omega) (.inr ⟨?_, hearly q hq⟩))
 cases hd : D q.idx with
 | false => rfl
 | true => rw [hd] at hD; exact absurd rfl hD
theorem lastN_plus {β : Type} {recs : List Rec} (hg : Good P Φ ρ ops ms fr0 st0 recs) {D : Nat → Bool} (hcl : Closed ms recs D) {r : Rec} (hr : r ∈ recs) (hrd : Ready ms D r) {f : Rec → Option β} (b : β)
  (hf : f r ≠ none → ∀ q ∈ recs, Free ms r q → f q = none) :
  lastN (plus D r.idx) f recs b = match f r with | some x => x | none => lastN D f recs b := by
 obtain ⟨late, rs, e, hrec, hrs⟩ := hg.split hr
 cases hfr : f r with
 | none =>
  simp only
  refine lastN_congr recs b fun q hq hD => ?_
  have : q.idx = r.idx := by
   by_cases h : q.idx = r.idx
   ·exact h
   ·simp [plus, h] at hD
  rw [hg.uniq hr hq this]
  exact hfr
 | some x =>
  simp only
  have hlate : ∀ q ∈ late, r.idx < q.idx := by
   intro q hq
   have hg' := hg
   rw [e] at hg'
   obtain ⟨rs', h3, h4, h5⟩ := Good.late hg' q hq
   rw [h3.idx, hrec.idx]
   simp at h5
   omega
  have hin1 : ∀ q ∈ late, q ∈ recs := fun q hq => by rw [e]; exact List.mem_append_left _ hq
  rw [e, lastN_skip late _ b (fun q hq hD => ?_)]
  ·simp [lastN, plus, hfr]
  ·have hne : q.idx ≠ r.idx := by have := hlate q hq; omega
   have hD : D q.idx = true := by simpa [plus, hne] using hD
   exact hf (by rw [hfr]; simp) q (hin1 q hq) (free_of hcl (hin1 q hq) hrd hne (.inl ⟨hD, hlate q hq⟩))
theorem untouched : ∀ {recs : List Rec}, Good P Φ ρ ops ms fr0 st0 recs → ∀ id, id < st0.nb → st0.heap.get id = none → ∀ q ∈ recs, id ∉ q.touched
 | [], _, id, _, _, q, hq => by cases hq
 | r :: rs, h, id, hlt, hn, q, hq => by
  have ih := untouched h.2 id hlt hn
  rcases List.mem_cons.1 hq with rfl | hq
  ·intro hid
   rcases h.1.tch id hid with h1 | h1
   ·have := h.1.lo; omega
   ·cases hv : q.vis.get id with
    | none => exact h1.2 hv
    | some k =>
     have := h.1.vis id k hv
     rw [lastN_none rs _ (fun p hp _ => by simp [heapW, ih p hp]), hn] at this
     cases this
  ·exact ih q hq
def live (A : Nat → Prop) (st0 : St) (recs : List Rec) (D : Nat → Bool) : Nat → Prop :=
 fun id => A id ∧ (id < st0.nb ∨ ∃ q ∈ recs, D q.idx = true ∧ q.st.nb ≤ id ∧ id < q.st1.nb)
def slotsOf (fr0 : Fr) (recs : List Rec) (D : Nat → Bool) (t : Nat) : SV := lastN D (slotW t fr0.n) recs (fr0.get t)
def heapOf (st0 : St) (recs : List Rec) (D : Nat → Bool) (id : Nat) : Option Blk := lastN D (heapW id) recs (st0.heap.get id)
structure DInv (ρ : Env) (A : Nat → Prop) (fr0 : Fr) (st0 : St) (recs : List Rec) (ι0 : Loc) (w0 : World) (a0 : Act) (D : Nat → Bool) (ι : Loc) (a : Act) (w : World) : Prop where
 alike : Loc.alike (fun i => i < st0.nb) ι0 ι
 size : a.tmps.size = fr0.n
 defers : a.defers = a0.defers
 slot : ∀ t, a.tmps.getD t undef = (slotsOf fr0 recs D t).den ρ ι
 son : ∀ t, (slotsOf fr0 recs D t).on (live A st0 recs D)
 blk : ∀ id k, heapOf st0 recs D id = some k → BlkAt ρ ι k w.heap[ι.blk id]?
 bon : ∀ id k, heapOf st0 recs D id = some k → k.on (live A st0 recs D) ∧ live A st0 recs D id
 inj : ∀ id id' k k', heapOf st0 recs D id = some k → heapOf st0 recs D id' = some k' → ι.blk id = ι.blk id' → id = id'
 os : w.os = w0.os
 tape : w.tape = w0.tape
 output : w.output = w0.output
 wsize : w0.heap.size ≤ w.heap.size
 fresh : ∀ q ∈ recs, D q.idx = true → ∀ id, q.st.nb ≤ id → id < q.st1.nb → w0.heap.size ≤ ι.blk id
 same : ∀ b, b < w0.heap.size → (∀ id k, st0.heap.get id = some k → ι0.blk id ≠ b) → w.heap[b]? = w0.heap[b]?
 pin : Pinned (heapOf st0 recs D) ι w
theorem live_plus {A : Nat → Prop} {recs : List Rec} {D : Nat → Bool} {i id : Nat} (h : live A st0 recs D id) : live A st0 recs (plus D i) id := by
 refine ⟨h.1, h.2.imp (fun h => h) fun ⟨q, hq, hD, h1⟩ => ⟨q, hq, by simp [plus, hD], h1⟩⟩
theorem SC.on_and {A B : Nat → Prop} {c : SC} (h1 : c.on A) (h2 : c.on B) : c.on (fun i => A i ∧ B i) := by
 cases c <;> simp only [SC.on] at * <;> first | exact ⟨h1, h2⟩ | (intro p hp; exact ⟨h1 p hp, h2 p hp⟩)
theorem SV.on_and {A B : Nat → Prop} {v : SV} (h1 : v.on A) (h2 : v.on B) : v.on (fun i => A i ∧ B i) := by
 cases v with
 | w x => exact fun c hc => SC.on_and (h1 c hc) (h2 c hc)
 | tup xs => exact fun x hx c hc => SC.on_and (h1 x hx c hc) (h2 x hx c hc)
structure Stat (ops : Array Oper) (ms : List Nat) : Prop where
 apart : ∀ i oi, ops[i]? = some oi → ∀ j oj, j < i → ops[j]? = some oj → Nat.testBit (ms.getD i 0) j = false → oj.apart ops oi = true
theorem Stat.free (hs : Stat ops ms) {recs : List Rec} (hg : Good P Φ ρ ops ms fr0 st0 recs) {r q : Rec} (hr : r ∈ recs) (hq : q ∈ recs) (hf : Free ms r q) :
  (∀ d, q.o.dst = some d → d ∉ r.o.looksAt ops) ∧ (∀ d, q.o.dst = some d → r.o.dst ≠ some d) := by
 obtain ⟨_, _, _, h1, _⟩ := hg.split hr
 obtain ⟨_, _, _, h2, _⟩ := hg.split hq
 rcases Nat.lt_or_gt_of_ne hf.1 with h | h
 ·have := Oper.apart_spec (hs.apart r.idx r.o h1.op q.idx q.o h h2.op (hf.2.1 h))
  exact ⟨this.1, this.2.1⟩
 ·have := Oper.apart_spec (hs.apart q.idx q.o h2.op r.idx r.o h h1.op (hf.2.2 h))
  exact ⟨this.2.2, fun d hd he => this.2.1 d he hd⟩
theorem slot_agree (hs : Stat ops ms) {recs : List Rec} (hg : Good P Φ ρ ops ms fr0 st0 recs) {D : Nat → Bool} (hcl : Closed ms recs D) {r : Rec} (hr : r ∈ recs) (hrd : Ready ms D r)
  {t : Nat} (ht : t ∈ r.o.looksAt ops) : slotsOf fr0 recs D t = r.fr.get t := by
 obtain ⟨late, rs, e, hrec, hrs⟩ := hg.split hr
 unfold slotsOf
 rw [agree hg hcl e hrec hrs hrd _ fun q hq hf => ?_, hrec.fr t]
 unfold slotW
 rw [if_neg]
 rintro ⟨hd, _⟩
 exact (hs.free hg hr hq hf).1 t hd ht
theorem vis_agree {recs : List Rec} (hg : Good P Φ ρ ops ms fr0 st0 recs) {D : Nat → Bool} (hcl : Closed ms recs D) {r : Rec} (hr : r ∈ recs) (hrd : Ready ms D r)
  {id : Nat} {k : Blk} (hk : r.vis.get id = some k) : heapOf st0 recs D id = some k := by
 obtain ⟨late, rs, e, hrec, hrs⟩ := hg.split hr
 unfold heapOf
 rw [agree hg hcl e hrec hrs hrd _ fun q hq hf => ?_]
 ·exact hrec.vis id k hk
 ·unfold heapW
  rw [if_neg]
  intro hid
  rw [(free_all hg hr hq hf).1 id hid] at hk
  cases hk
theorem slots_plus (hs : Stat ops ms) {recs : List Rec} (hg : Good P Φ ρ ops ms fr0 st0 recs) {D : Nat → Bool} (hcl : Closed ms recs D) {r : Rec} (hr : r ∈ recs) (hrd : Ready ms D r) (t : Nat) :
  slotsOf fr0 recs (plus D r.idx) t = if r.o.dst = some t ∧ t < fr0.n then r.v else slotsOf fr0 recs D t := by
 unfold slotsOf
 rw [lastN_plus hg hcl hr hrd _ fun hne q hq hf => ?_]
 ·by_cases hc : r.o.dst = some t ∧ t < fr0.n
  ·have : slotW t fr0.n r = some r.v := if_pos hc
   rw [this, if_pos hc]
  ·have : slotW t fr0.n r = none := if_neg hc
   rw [this, if_neg hc]
 ·unfold slotW
  rw [if_neg]
  rintro ⟨hd, _⟩
  apply hne
  unfold slotW
  rw [if_neg]
  rintro ⟨hd', _⟩
  exact (hs.free hg hr hq hf).2 t hd hd'
theorem heap_plus {recs : List Rec} (hg : Good P Φ ρ ops ms fr0 st0 recs) {D : Nat → Bool} (hcl : Closed ms recs D) {r : Rec} (hr : r ∈ recs) (hrd : Ready ms D r) (id : Nat) :
  heapOf st0 recs (plus D r.idx) id = if id ∈ r.touched then r.st1.heap.get id else heapOf st0 recs D id := by
 unfold heapOf
 rw [lastN_plus hg hcl hr hrd _ fun hne q hq hf => ?_]
 ·unfold heapW
  split <;> simp_all
 ·unfold heapW
  rw [if_neg]
  intro hid
  apply hne
  unfold heapW
  rw [if_neg]
  intro hid'
  exact (free_all hg hr hq hf).2 id hid' hid
theorem range_apart {recs : List Rec} (hg : Good P Φ ρ ops ms fr0 st0 recs) {r q : Rec} (hr : r ∈ recs) (hq : q ∈ recs) (hne : q.idx ≠ r.idx) : q.st1.nb ≤ r.st.nb ∨ r.st1.nb ≤ q.st.nb := by
 obtain ⟨late, rs, e, h1, h2⟩ := hg.split hr
 have hq' := hq
 rw [e] at hq'
 rcases List.mem_append.1 hq' with hql | hql
 ·rw [e] at hg
  obtain ⟨rs', h3, h4, h5⟩ := Good.late hg q hql
  exact .inr (h3.behind r (h4 r (List.mem_cons_self ..)))
 ·rcases List.mem_cons.1 hql with rfl | hql
  ·exact absurd rfl hne
  ·exact .inl (h1.behind q hql)
theorem draw_step (hs : Stat ops ms) {recs : List Rec} (hg : Good P Φ ρ ops ms fr0 st0 recs) {A : Nat → Prop} (hA : ∀ r ∈ recs, ∀ id, r.st.nb ≤ id → id < r.st1.nb → A id)
  {ι0 : Loc} {w0 : World} {a0 : Act} {D : Nat → Bool} (hcl : Closed ms recs D) {ι : Loc} {a : Act} {w : World} (hi : DInv ρ A fr0 st0 recs ι0 w0 a0 D ι a w) {r : Rec} (hr : r ∈ recs) (hrd : Ready ms D r)
  {K : Act → World → Prop} {Q : Exit → Act → World → Prop} (hK : ∀ ι' a' w', DInv ρ A fr0 st0 recs ι0 w0 a0 (plus D r.idx) ι' a' w' → K a' w') : wpOp P ops Q r.idx K a w := by
 obtain ⟨late, rs, e, hrec, hrs⟩ := hg.split hr
 have hlook : ∀ d, d ∈ r.o.looksAt ops → a.tmps.getD d undef = (r.fr.get d).den ρ ι := fun d hd => by rw [hi.slot d, slot_agree hs hg hcl hr hrd hd]
 obtain ⟨stw, hw, hfw⟩ := hrec.want
 obtain ⟨_, hwant⟩ := wantedS_ok (Φ := Φ) (ops := ops) rfl hw
 have hwant := hwant ρ hrec.logs.1 hfw ι a (by rw [hrec.n]; exact hi.size) hlook
 unfold wpOp
 simp only [hrec.op]
 rw [hwant]
 cases hon : r.on with
 | false =>
  simp only [Bool.false_eq_true, if_false]
  obtain ⟨hv, ht, hnb⟩ := hrec.off hon
  have hsl := slots_plus hs hg hcl hr hrd
  have hhp := heap_plus hg hcl hr hrd
  simp only [ht, List.not_mem_nil, if_false] at hhp
  refine hK ι _ w ⟨hi.alike, by rw [put_size]; exact hi.size, by rw [put_defers]; exact hi.defers, fun t => ?_, fun t => ?_, fun id k hk => ?_, fun id k hk => ?_, fun id id' k k' hk hk' he => ?_, hi.os, hi.tape, hi.output, hi.wsize, fun q hq hD id h1 h2 => ?_, hi.same, hi.pin.1, hi.pin.2.1, fun id k hk => by rw [hhp] at hk; exact hi.pin.2.2 id k hk⟩
  ·rw [put_getD, hsl, hi.size, hi.slot t, hv]
   split <;> rfl
  ·rw [hsl, hv]
   split
   ·exact bare_undef _
   ·exact SV.on_mono (fun i h => live_plus h) (hi.son t)
  ·rw [hhp] at hk; exact hi.blk id k hk
  ·rw [hhp] at hk
   obtain ⟨h1, h2⟩ := hi.bon id k hk
   exact ⟨fun j hj => SC.on_mono (fun i h => live_plus h) (h1 j hj), live_plus h2⟩
  ·rw [hhp] at hk hk'; exact hi.inj id id' k k' hk hk' he
  ·by_cases hne : q.idx = r.idx
   ·rw [hg.uniq hr hq hne] at h1 h2
    omega
   ·exact hi.fresh q hq (by simpa [plus, hne] using hD) id h1 h2
 | true =>
  simp only [if_true]
  refine .inl ?_
  have hvh : ∀ {id k}, r.vis.get id = some k → heapOf st0 recs D id = some k := fun hk => vis_agree hg hcl hr hrd hk
  have hA1 : ∀ id, r.st.nb ≤ id → id < r.st1.nb → live A st0 recs (plus D r.idx) id := fun id h1 h2 => ⟨hA r hr id h1 h2, .inr ⟨r, hr, by simp [plus], h1, h2⟩⟩
  have hrep : Rep ρ ι (live A st0 recs (plus D r.idx)) r.vis.get r.st.nb w := by
   refine ⟨fun id k hk => ⟨hrec.visOwn.lt id k hk, live_plus (hi.bon id k (hvh hk)).2⟩, fun id k hk => hi.blk id k (hvh hk), fun id k hk j hj => ?_, fun id id' k k' hk hk' he => hi.inj id id' k k' (hvh hk) (hvh hk') he, hi.pin.1, hi.pin.2.1, fun id k hk => hi.pin.2.2 id k (hvh hk)⟩
   have h1 := hrec.visOwn.on id k hk j hj
   have h2 := (hi.bon id k (hvh hk)).1 j hj
   exact SC.on_mono (fun i h => ⟨h.1.1, live_plus h.2⟩) (SC.on_and h1 h2)
  have hops : ∀ x ∈ r.o.op.operands, a.eval x = (r.fr.eval x).den ρ ι ∧ (r.fr.eval x).on (lim r.st.nb (live A st0 recs (plus D r.idx))) := by
   intro x hx
   cases x with
   | tmp t =>
    have hl : t ∈ r.o.looksAt ops := List.mem_append_left _ (List.mem_filterMap.2 ⟨.tmp t, by simpa using hx, rfl⟩)
    refine ⟨hlook t hl, ?_⟩
    have h1 := hrec.frOn t
    have h2 := hi.son t
    rw [slot_agree hs hg hcl hr hrd hl] at h2
    exact SV.on_mono (fun i h => ⟨h.1.1, live_plus h.2⟩) (SV.on_and h1 h2)
   | const v => exact ⟨(ofVal_den v ρ _).symm, ofVal_on v _⟩
   | global g => exact ⟨rfl, bare_c (x := .lit (.pointer (some ⟨g, 0, none⟩))) (fun _ => trivial) _⟩
   | func f => exact ⟨rfl, bare_c (x := .lit (.func (.func f) #[] #[])) (fun _ => trivial) _⟩
  refine (hrec.ok hon).2 ρ hrec.logs.2 hrec.facts (live A st0 recs (plus D r.idx)) hA1 ι w a hrep hops K Q fun ι1 w1 hp hv => ?_
  let ι2 : Loc := ⟨fun i => if i < r.st1.nb then ι1.blk i else ι.blk i, fun i => if i < r.st1.nb then ι1.cap i else ι.cap i⟩
  have h12 : Loc.alike (fun i => i < r.st1.nb) ι1 ι2 := fun i hi => by simp [ι2, hi]
  have h02 : Loc.alike (live A st0 recs D) ι ι2 := by
   intro i hl
   by_cases h : i < r.st1.nb
   ·have hlt : i < r.st.nb := by
     rcases Nat.lt_or_ge i r.st.nb with h3 | h3
     ·exact h3
     ·exfalso
      rcases hl.2 with h4 | ⟨q, hq, hD, h5, h6⟩
      ·have := hrec.lo; omega
      ·have hne : q.idx ≠ r.idx := fun he => by rw [he, hrd.1] at hD; cases hD
       rcases range_apart hg hr hq hne with h7 | h7 <;> omega
    have := hp.alike i hlt
    simp only [ι2, h, if_true]
    exact this
   ·simp [ι2, h]
  have hsl := slots_plus hs hg hcl hr hrd
  have hhp := heap_plus hg hcl hr hrd
  have hcase : ∀ id k, heapOf st0 recs (plus D r.idx) id = some k →
    (r.st1.heap.get id = some k ∧ (id < r.st.nb → ∃ k', heapOf st0 recs D id = some k')) ∨ (heapOf st0 recs D id = some k ∧ r.vis.get id = none) := by
   intro id k hk
   rw [hhp] at hk
   split at hk
   ·rename_i ht
    refine .inl ⟨hk, fun hlt => ?_⟩
    rcases hrec.tch id ht with h | h
    ·omega
    ·cases hv' : r.vis.get id with
     | none => exact absurd hv' h.2
     | some k' => exact ⟨k', hvh hv'⟩
   ·rename_i ht
    cases hv' : r.vis.get id with
    | none => exact .inr ⟨hk, rfl⟩
    | some k' =>
     have := hvh hv'
     rw [this] at hk
     simp only [Option.some.injEq] at hk
     subst hk
     exact .inl ⟨hrec.keep id k' hv' ht hon, fun _ => ⟨k', this⟩⟩
  have hwlt : ∀ id k, heapOf st0 recs D id = some k → ι.blk id < w.heap.size := by
   intro id k hk
   obtain ⟨x, h1⟩ := (hi.blk id k hk).obj
   exact (Array.getElem?_eq_some_iff.1 h1).1
  refine hK ι2 _ w1 ⟨fun i h => ?_, by rw [put_size]; exact hi.size, by rw [put_defers]; exact hi.defers, fun t => ?_, fun t => ?_, fun id k hk => ?_, fun id k hk => ?_, fun id id' k k' hk hk' he => ?_,
   hp.os.trans hi.os, hp.tape.trans hi.tape, hp.output.trans hi.output, Nat.le_trans hi.wsize hp.size, fun q hq hD id h1 h2 => ?_, fun b hb hn => ?_, hp.rep.pin.1, hp.rep.pin.2.1, fun id k hk => ?_⟩
  ·have h3 : i < r.st.nb := Nat.lt_of_lt_of_le h hrec.lo
   have h4 : i < r.st1.nb := Nat.lt_of_lt_of_le h3 hrec.hi
   have h5 := hi.alike i h
   have h6 := hp.alike i h3
   have h7 := h12 i h4
   exact ⟨by rw [h7.1, h6.1, h5.1], by rw [h7.2, h6.2, h5.2]⟩
  ·rw [put_getD, hsl, hi.size, hi.slot t]
   split
   ·exact (SV.den_alike (A := lim r.st1.nb (live A st0 recs (plus D r.idx))) (fun i h => h12 i h.1) ρ hv).symm
   ·exact (SV.den_alike h02 ρ (hi.son t)).symm
  ·rw [hsl]
   split
   ·exact SV.on_mono (fun i h => h.2) hv
   ·exact SV.on_mono (fun i h => live_plus h) (hi.son t)
  ·rcases hcase id k hk with ⟨h1, _⟩ | ⟨h1, h2⟩
   ·have hlt := (hp.rep.lt id k h1).1
    have := (hp.rep.blk id k h1).alike (A := lim r.st1.nb (live A st0 recs (plus D r.idx))) (fun i h => h12 i h.1) (hp.rep.on id k h1)
    rw [← (h12 id hlt).1] at this
    exact this
   ·obtain ⟨b1, b2⟩ := hi.bon id k h1
    have := (hi.blk id k h1).alike h02 b1
    rw [(h02 id b2).1, hp.same _ (hwlt id k h1) fun id' k' hk' he' => ?_]
    ·exact this
    ·have hh := hvh (show r.vis.get id' = some k' from hk')
     have := hi.inj id' id k' k hh h1 he'
     rw [this, h2] at hk'
     cases hk'
  ·rcases hcase id k hk with ⟨h1, _⟩ | ⟨h1, h2⟩
   ·exact ⟨fun j hj => SC.on_mono (fun i h => h.2) (hp.rep.on id k h1 j hj), (hp.rep.lt id k h1).2⟩
   ·obtain ⟨b1, b2⟩ := hi.bon id k h1
    exact ⟨fun j hj => SC.on_mono (fun i h => live_plus h) (b1 j hj), live_plus b2⟩
  ·have cross : ∀ {x y kx ky}, r.st1.heap.get x = some kx → (x < r.st.nb → ∃ k', heapOf st0 recs D x = some k') → heapOf st0 recs D y = some ky → ι2.blk x = ι2.blk y → x = y := by
    intro x y kx ky hx hxo hy hxy
    have hltx := (hp.rep.lt x kx hx).1
    rw [(h12 x hltx).1, (h02 y (hi.bon y ky hy).2).1] at hxy
    by_cases hlt : x < r.st.nb
    ·obtain ⟨k', hk'⟩ := hxo hlt
     rw [(hp.alike x hlt).1] at hxy
     exact hi.inj x y k' ky hk' hy hxy
    ·have := hp.fresh x (Nat.le_of_not_lt hlt) hltx
     have := hwlt y ky hy
     omega
   rcases hcase id k hk with ⟨h1, h1'⟩ | ⟨h1, _⟩
   ·rcases hcase id' k' hk' with ⟨h2, _⟩ | ⟨h2, _⟩
    ·rw [(h12 id (hp.rep.lt id k h1).1).1, (h12 id' (hp.rep.lt id' k' h2).1).1] at he
     exact hp.rep.inj id id' k k' h1 h2 he
    ·exact cross h1 h1' h2 he
   ·rcases hcase id' k' hk' with ⟨h2, h2'⟩ | ⟨h2, _⟩
    ·exact (cross h2 h2' h1 he.symm).symm
    ·rw [(h02 id (hi.bon id k h1).2).1, (h02 id' (hi.bon id' k' h2).2).1] at he
     exact hi.inj id id' k k' h1 h2 he
  ·by_cases hne : q.idx = r.idx
   ·rw [hg.uniq hr hq hne] at h1 h2
    rw [(h12 id h2).1]
    exact Nat.le_trans hi.wsize (hp.fresh id h1 h2)
   ·have hD' : D q.idx = true := by simpa [plus, hne] using hD
    have := hi.fresh q hq hD' id h1 h2
    rcases range_apart hg hr hq hne with h7 | h7
    ·have h8 : id < r.st.nb := by omega
     rw [(h12 id (Nat.lt_of_lt_of_le h8 hrec.hi)).1, (hp.alike id h8).1]
     exact this
    ·have h8 : ¬ id < r.st1.nb := by omega
     simp only [ι2, h8, if_false]
     exact this
  ·rw [hp.same b (Nat.lt_of_lt_of_le hb hi.wsize) fun id k hk he => ?_]
   ·exact hi.same b hb hn
   ·have hh := hvh (show r.vis.get id = some k from hk)
    by_cases hlt : id < st0.nb
    ·cases hg0 : st0.heap.get id with
     | none =>
      have hun := untouched hg id hlt hg0
      unfold heapOf at hh
      rw [lastN_none recs _ (fun q hq _ => by simp [heapW, hun q hq]), hg0] at hh
      cases hh
     | some k0 =>
      rw [(hi.alike id hlt).1] at he
      exact hn id k0 hg0 he
    ·rcases (hi.bon id k hh).2.2 with h1 | ⟨q, hq, hD, h1, h2⟩
     ·exact hlt h1
     ·have := hi.fresh q hq hD id h1 h2
      omega
  ·rcases hcase id k hk with ⟨h1, _⟩ | ⟨h1, _⟩
   ·rw [(h12 id (hp.rep.lt id k h1).1).1]
    exact hp.rep.pin.2.2 id k h1
   ·rw [(h02 id (hi.bon id k h1).2).1]
    exact hi.pin.2.2 id k h1
def doneOf (listed : Array Bool) : Nat → Bool := fun j => listed.getD j false
theorem doneOf_set {listed : Array Bool} {i : Nat} (h : i < listed.size) : doneOf (listed.setIfInBounds i true) = plus (doneOf listed) i := by
 funext j
 unfold doneOf plus
 by_cases e : j = i
 ·subst e; simp [h]
 ·simp [e, Array.getElem?_setIfInBounds_ne (Ne.symm e)]
def openOf (n : Nat) (D : Nat → Bool) : Nat := ((List.range n).filter fun j => !D j).length
theorem filter_lt {l : List Nat} {p q : Nat → Bool} (h : ∀ x, q x = true → p x = true) {y : Nat} (hy : y ∈ l) (hp : p y = true) (hq : q y = false) : (l.filter q).length < (l.filter p).length := by
 induction l with
 | nil => cases hy
 | cons x l ih =>
  have hle : ∀ l : List Nat, (l.filter q).length ≤ (l.filter p).length := by
   intro l
   induction l with
   | nil => simp
   | cons z l ih =>
    simp only [List.filter_cons]
    cases hz : q z with
    | true => rw [h z hz]; simpa using ih
    | false =>
     cases p z <;> simp <;> omega
  simp only [List.filter_cons]
  rcases List.mem_cons.1 hy with rfl | hy
  ·rw [hp, hq]
   have := hle l
   simp
   omega
  ·have := ih hy
   cases hx : q x with
   | true => rw [h x hx]; simpa using this
   | false => cases p x <;> simp <;> omega
theorem openOf_plus {n i : Nat} {D : Nat → Bool} (hi : i < n) (hD : D i = false) : openOf n (plus D i) < openOf n D := by
 refine filter_lt (y := i) (fun x hx => ?_) (by simpa using hi) (by simp [hD]) (by simp [plus])
 simp only [plus, Bool.not_eq_true', Bool.or_eq_false_iff] at hx
 simp [hx.1]
theorem draw_any (hs : Stat ops ms) (hm : ∀ i o, ops[i]? = some o → ∀ j, Nat.testBit (ms.getD i 0) j = true ↔ ∃ e ∈ o.after, bindsE e = true ∧ (e.on = j ∨ Nat.testBit (ms.getD e.on 0) j = true))
  (hback : ∀ i o, ops[i]? = some o → ∀ e ∈ o.after, bindsE e = true → e.on < i)
  {recs : List Rec} (hg : Good P Φ ρ ops ms fr0 st0 recs) (hlen : recs.length = ops.size) {A : Nat → Prop} (hA : ∀ r ∈ recs, ∀ id, r.st.nb ≤ id → id < r.st1.nb → A id)
  {ι0 : Loc} {w0 : World} {a0 : Act} {Q : Exit → Act → World → Prop} (hQ : ∀ ι a w, DInv ρ A fr0 st0 recs ι0 w0 a0 (fun j => decide (j < ops.size)) ι a w → Q .normal a w) :
  ∀ (fuel : Nat) (listed : Array Bool) (ι : Loc) (a : Act) (w : World), listed.size = ops.size → openOf ops.size (doneOf listed) ≤ fuel → Closed ms recs (doneOf listed) →
   DInv ρ A fr0 st0 recs ι0 w0 a0 (doneOf listed) ι a w → wpAny P .any ops Q fuel listed a w := by
 have hrec : ∀ i, i < ops.size → ∃ r ∈ recs, r.idx = i := by
  intro i hi
  have : ∀ (l : List Rec), Good P Φ ρ ops ms fr0 st0 l → ∀ i, i < l.length → ∃ r ∈ l, r.idx = i := by
   intro l
   induction l with
   | nil => intro _ i hi; simp at hi
   | cons x l ih =>
    intro h i hi
    by_cases e : i = l.length
    ·exact ⟨x, List.mem_cons_self .., by rw [h.1.idx, e]⟩
    ·obtain ⟨r, h1, h2⟩ := ih h.2 i (by simp at hi; omega)
     exact ⟨r, List.mem_cons_of_mem _ h1, h2⟩
  exact this recs hg i (by omega)
 have hfull : ∀ (listed : Array Bool), listed.size = ops.size → (∀ j, j < ops.size → doneOf listed j = true) → doneOf listed = fun j => decide (j < ops.size) := by
  intro listed hsz h
  funext j
  by_cases hj : j < ops.size
  ·rw [h j hj]; simp [hj]
  ·simp [doneOf, hj, hsz]
 have hnone : ∀ (listed : Array Bool), listed.size = ops.size → Region.ready .any ops listed = [] → ∀ j, j < ops.size → doneOf listed j = true := by
  intro listed hsz hrd j
  induction j using Nat.strongRecOn with
  | _ j ih =>
   intro hj
   cases hd : doneOf listed j with
   | true => rfl
   | false =>
    exfalso
    have hj' : j < listed.size := by omega
    have hget : listed.getD j true = false := by
     unfold doneOf at hd
     simp [hj'] at hd ⊢
     exact hd
    have : j ∈ Region.ready .any ops listed := by
     rw [mem_ready]
     refine ⟨hget, ops[j], by simp [hj], fun e he hb => ?_⟩
     rw [binds_any] at hb
     have hlt := hback j ops[j] (by simp [hj]) e he hb
     exact ih e.on hlt (by omega)
    rw [hrd] at this
    cases this
 intro fuel
 induction fuel with
 | zero =>
  intro listed ι a w hsz hop hcl hi
  have hall : ∀ j, j < ops.size → doneOf listed j = true := by
   intro j hj
   cases hd : doneOf listed j with
   | true => rfl
   | false =>
    exfalso
    have : j ∈ (List.range ops.size).filter fun j => !doneOf listed j := by simp [hj, hd]
    have h0 : openOf ops.size (doneOf listed) = 0 := by omega
    unfold openOf at h0
    rw [List.length_eq_zero_iff] at h0
    rw [h0] at this
    cases this
  refine ⟨?_, ?_⟩
  ·apply List.eq_nil_iff_forall_not_mem.2
   intro j hj
   rw [mem_ready] at hj
   obtain ⟨h1, o, h2, _⟩ := hj
   have hlt : j < ops.size := (Array.getElem?_eq_some_iff.1 h2).1
   have := hall j hlt
   have hj' : j < listed.size := by omega
   unfold doneOf at this
   simp [hj'] at this h1
   rw [this] at h1
   cases h1
  ·rw [hfull listed hsz hall] at hi
   exact hQ ι a w hi
 | succ fuel ih =>
  intro listed ι a w hsz hop hcl hi
  refine ⟨fun hrd => ?_, fun i hir => ?_⟩
  ·have := hnone listed hsz hrd
   rw [hfull listed hsz this] at hi
   exact hQ ι a w hi
  ·rw [mem_ready] at hir
   obtain ⟨h1, o, h2, h3⟩ := hir
   have hlt : i < ops.size := (Array.getElem?_eq_some_iff.1 h2).1
   have hi' : i < listed.size := by omega
   obtain ⟨r, hr, hri⟩ := hrec i hlt
   have hD : doneOf listed i = false := by
    unfold doneOf
    simp [hi'] at h1 ⊢
    exact h1
   have hrd : Ready ms (doneOf listed) r := by
    refine ⟨by rw [hri]; exact hD, fun j hb => ?_⟩
    rw [hri, hm i o h2 j] at hb
    obtain ⟨e, he, hbe, hj⟩ := hb
    have hle := h3 e he (by rw [binds_any]; exact hbe)
    rcases hj with rfl | hj
    ·exact hle
    ·have hlt2 := hback i o h2 e he hbe
     obtain ⟨q, hq, hqi⟩ := hrec e.on (by omega)
     exact hcl q hq (by rw [hqi]; exact hle) j (by rw [hqi]; exact hj)
   rw [← hri]
   refine draw_step hs hg hA hcl hi hr hrd fun ι' a' w' hi2 => ?_
   rw [hri] at hi2 ⊢
   rw [← doneOf_set hi'] at hi2
   refine ih _ ι' a' w' (by simp [hsz]) ?_ ?_ hi2
   ·rw [doneOf_set hi']
    have := openOf_plus (n := ops.size) hlt hD
    omega
   ·rw [doneOf_set hi']
    intro q hq hqD j hb
    by_cases e : q.idx = i
    ·have := hg.uniq hr hq (by rw [e, hri])
     subst this
     have := hrd.2 j hb
     simp [plus, this]
    ·have : doneOf listed q.idx = true := by simpa [plus, e] using hqD
     have := hcl q hq this j hb
     simp [plus, this]
end
end Go.Sx
namespace Go.Sx
set_option linter.unusedSectionVars false
variable [Pins]
set_option linter.unusedSimpArgs false
set_option linter.unusedVariables false
section
variable {P : Program}
theorem lastN_false {β : Type} {D : Nat → Bool} (h : ∀ j, D j = false) (f : Rec → Option β) (b : β) : ∀ rs, lastN D f rs b = b
 | [] => rfl
 | r :: rs => by simp [lastN, h, lastN_false h f b rs]
theorem drawReg_ok {Φ : Phi} {C : Ctx} (hT : TysOk P C.tys) {call : CallF} (hc : CallOk P Φ call) (hmix : P.follows .mixedOrders = true) {id : Nat} {ops : Array Oper} {fr fr' : Fr} {st st' : St}
  (h : drawReg C call ops fr st = .ok (fr', st')) : Goes P Φ fr st fr' st' (fun Q => (Code.region id ops true).wp P Q) .normal := by
 have key : ∃ hints d, drawRun C call ops.toList (masksOf ops.toList []) hints ops.toList 0 fr st [] [] true = .ok d ∧ d.good = true ∧ d.fr = fr' ∧ d.st = st' ∧
   drawStat ops ops.toList (masksOf ops.toList []) = true := by
  unfold drawReg at h
  dsimp only at h
  split at h
  ·rename_i hst
   split at h
   ·exact er_ne h
   ·rename_i d hd
    split at h
    ·rename_i hg
     simp only [R.ok.injEq, Prod.mk.injEq] at h
     exact ⟨_, d, hd, hg, h.1, h.2, hst⟩
    ·split at h
     ·exact er_ne h
     ·rename_i d2 hd2
      split at h
      ·rename_i hg
       simp only [R.ok.injEq, Prod.mk.injEq] at h
       exact ⟨_, d2, hd2, hg, h.1, h.2, hst⟩
      ·exact stop_ne h
  ·exact stop_ne h
 obtain ⟨hints, d, hd, hg, rfl, rfl, hst⟩ := key
 obtain ⟨h1, h2⟩ := drawRun_inv hT hc (masksOf ops.toList []) hints fr st ops.toList 0 fr st [] [] true d hd
 refine ⟨h1, fun ρ hl hf A hA ι w a hr hfr Q hQ => ?_⟩
 unfold drawStat at hst
 simp only [Bool.and_eq_true] at hst
 obtain ⟨⟨s1, _⟩, s3⟩ := hst
 have hinv0 : Inv P Φ ρ ops (masksOf ops.toList []) fr st 0 fr st [] :=
  ⟨trivial, rfl, rfl, fun _ => rfl, fun _ => rfl, fun t => SV.on_mono (fun i h => ⟨h.1, trivial⟩) (hfr.on t),
   ⟨fun id k hk => (hr.lt id k hk).1, fun id k hk j hj => SC.on_mono (fun i h => ⟨h.1, trivial⟩) (hr.on id k hk j hj), fun id k hk => (hr.blk id k hk).fine⟩, (fun q hq => by cases hq), Nat.le_refl _, (fun q hq => by cases hq), fun id a b => by omega⟩
 obtain ⟨hinv, _⟩ := (h2 hg).2 ρ hl hf rfl hinv0
 have hlen : d.recs.length = ops.size := by rw [hinv.len]; simp
 have hback : ∀ i o, ops[i]? = some o → ∀ e ∈ o.after, bindsE e = true → e.on < i := fun i o ho e he hb => by
  have := backEdges_at ops.toList 0 s1 i o (by rw [Array.getElem?_toList]; exact ho) e he hb
  omega
 have hm : ∀ i o, ops[i]? = some o → ∀ j, Nat.testBit ((masksOf ops.toList []).getD i 0) j = true ↔ ∃ e ∈ o.after, bindsE e = true ∧ (e.on = j ∨ Nat.testBit ((masksOf ops.toList []).getD e.on 0) j = true) := by
  intro i o ho j
  have := masksOf_bit ops.toList [] s1 i o (by rw [Array.getElem?_toList]; exact ho) j
  simp only [List.length_nil, Nat.zero_add] at this
  rw [this, List.any_eq_true]
  simp
 have hstat : Stat ops (masksOf ops.toList []) := ⟨fun i oi hoi j oj hj hoj hb => by
  have := apartAll_at ops ops.toList (masksOf ops.toList []) ops.toList 0 s3 i oi (by rw [Array.getElem?_toList]; exact hoi) j oj (by omega) (by rw [Array.getElem?_toList]; exact hoj)
  rw [Nat.zero_add] at this
  exact this hb⟩
 have hbeh : ∀ r ∈ d.recs, st.nb ≤ r.st.nb ∧ r.st1.nb ≤ d.st.nb := fun r hr' => by
  obtain ⟨_, _, _, k1, _⟩ := hinv.good.split hr'
  exact ⟨k1.lo, hinv.behind r hr'⟩
 have hA' : ∀ r ∈ d.recs, ∀ id, r.st.nb ≤ id → id < r.st1.nb → A id := fun r hr' id a b => by
  have := hbeh r hr'
  exact hA id (by omega) (by omega)
 refine wp_region_any hmix ?_
 have hd0 : ∀ j, doneOf (Array.replicate ops.size false) j = false := by
  intro j
  unfold doneOf
  by_cases hj : j < ops.size <;> simp [hj]
 have hslots0 : ∀ t, slotsOf fr d.recs (doneOf (Array.replicate ops.size false)) t = fr.get t := fun t => lastN_false hd0 _ _ _
 have hheap0 : ∀ id, heapOf st d.recs (doneOf (Array.replicate ops.size false)) id = st.heap.get id := fun id => lastN_false hd0 _ _ _
 have hall : ∀ {β : Type} (f : Rec → Option β) (b : β), lastN (fun j => decide (j < ops.size)) f d.recs b = lastN (fun _ => true) f d.recs b := by
  intro β f b
  refine lastN_congr d.recs b fun q hq hne => ?_
  have := Good.lt hinv.good q hq
  rw [hlen] at this
  simp [this] at hne
 refine draw_any (ι0 := ι) (w0 := w) (a0 := a) hstat hm hback hinv.good hlen hA' (fun ι' a' w' hi => ?_) ops.size _ ι a _ (by simp) ?_ (fun q _ hq => by rw [hd0] at hq; cases hq) ?_
 ·
  have hsl : ∀ t, slotsOf fr d.recs (fun j => decide (j < ops.size)) t = d.fr.get t := fun t => by rw [hinv.frEq t]; exact hall _ _
  have hhp : ∀ id, heapOf st d.recs (fun j => decide (j < ops.size)) id = d.st.heap.get id := fun id => by rw [hinv.heap id]; exact hall _ _
  have hdone : ∀ q ∈ d.recs, decide (q.idx < ops.size) = true := fun q hq => by
   have := Good.lt hinv.good q hq
   rw [hlen] at this
   simp [this]
  refine hQ ι' w' a' ⟨hi.alike, ⟨fun id k hk => ?_, fun id k hk => ?_, fun id k hk j hj => ?_, fun id id' k k' hk hk' he => ?_, hi.pin.1, hi.pin.2.1, fun id k hk => hi.pin.2.2 id k (by rw [hhp]; exact hk)⟩, hi.os, hi.tape, hi.output, hi.wsize, hi.same, fun id a b => ?_⟩
   ⟨hi.size.trans hinv.n.symm, fun t => ?_, fun t => ?_⟩ hi.defers
  ·exact ⟨hinv.own.lt id k hk, (hi.bon id k (by rw [hhp]; exact hk)).2.1⟩
  ·exact hi.blk id k (by rw [hhp]; exact hk)
  ·exact SC.on_mono (fun i h => ⟨h.1.1, h.2.1⟩) (SC.on_and (hinv.own.on id k hk j hj) ((hi.bon id k (by rw [hhp]; exact hk)).1 j hj))
  ·exact hi.inj id id' k k' (by rw [hhp]; exact hk) (by rw [hhp]; exact hk') he
  ·obtain ⟨q, hq, h3, h4⟩ := hinv.cover id a b
   exact hi.fresh q hq (hdone q hq) id h3 h4
  ·rw [hi.slot t, hsl]
  ·have h3 := hinv.frOn t
   have h4 := hi.son t
   rw [hsl] at h4
   exact SV.on_mono (fun i h => ⟨h.1.1, h.2.1⟩) (SV.on_and h3 h4)
 ·unfold openOf
  have := List.length_filter_le (fun j => !doneOf (Array.replicate ops.size false) j) (List.range ops.size)
  simpa using this
 ·refine ⟨.refl _ _, hfr.size, rfl, fun t => by rw [hslots0]; exact hfr.slot t, fun t => ?_, fun id k hk => ?_, fun id k hk => ?_, fun id id' k k' hk hk' he => ?_, rfl, rfl, rfl, Nat.le_refl _, fun q _ hq => (by rw [hd0] at hq; cases hq), fun _ _ _ => rfl, hr.pin.1, Pins.keep w _ (fun b _ => rfl) hr.pin.2.1, fun id k hk => (by rw [hheap0] at hk; exact hr.pin.2.2 id k hk)⟩
  ·rw [hslots0]
   exact SV.on_mono (fun i h => ⟨h.2, .inl h.1⟩) (hfr.on t)
  ·rw [hheap0] at hk
   exact hr.blk id k hk
  ·rw [hheap0] at hk
   exact ⟨fun j hj => SC.on_mono (fun i h => ⟨h.2, .inl h.1⟩) (hr.on id k hk j hj), (hr.lt id k hk).2, .inl (hr.lt id k hk).1⟩
  ·rw [hheap0] at hk hk'
   exact hr.inj id id' k k' hk hk' he
def Ex.toExit : Ex → Exit
 | .normal => .normal
 | .ret => .ret
 | .exit id => .exit id
theorem Goes.mono {Φ : Phi} {fr fr' : Fr} {st st' : St} {Run Run' : (Exit → Act → World → Prop) → Act → World → Prop} {e : Exit} (h : Goes P Φ fr st fr' st' Run e)
  (hm : ∀ Q a w, Run Q a w → Run' Q a w) : Goes P Φ fr st fr' st' Run' e :=
 ⟨h.1, fun ρ hl hf A hA ι w a hr hfr Q hQ => hm Q a w (h.2 ρ hl hf A hA ι w a hr hfr Q hQ)⟩
theorem code_ok {Φ : Phi} {C : Ctx} (hT : TysOk P C.tys) {call : CallF} (hc : CallOk P Φ call) (hmix : P.follows .mixedOrders = true) {lf : Nat} : ∀ (c : Code) {fr fr' : Fr} {st st' : St} {e : Ex},
  code C call lf c fr st = .ok (e, fr', st') → Goes P Φ fr st fr' st' (fun Q => c.wp P Q) e.toExit := by
 intro c
 induction c with
 | skip =>
  intro fr fr' st st' e h
  simp only [code, R.ok.injEq, Prod.mk.injEq] at h
  obtain ⟨rfl, rfl, rfl⟩ := h
  exact ⟨.refl _ _, fun ρ _ _ A _ ι w a hr hf Q hQ => wp_skip (hQ ι w a (.refl hr) hf rfl)⟩
 | region id ops draw =>
  intro fr fr' st st' e h
  cases draw with
  | true =>
   simp only [code] at h
   split at h
   ·exact er_ne h
   ·rename_i f1 s1 hd
    simp only [R.ok.injEq, Prod.mk.injEq] at h
    obtain ⟨rfl, rfl, rfl⟩ := h
    exact drawReg_ok hT hc hmix hd
  | false =>
   simp only [code] at h
   split at h
   ·exact er_ne h
   ·rename_i f1 s1 hd
    simp only [R.ok.injEq, Prod.mk.injEq] at h
    obtain ⟨rfl, rfl, rfl⟩ := h
    exact (seqRun_ok hT hc (ops := ops) rfl ops.toList hd).mono fun Q a w hw => wp_region_list hw
 | seq x y ihx ihy =>
  intro fr fr' st st' e h
  simp only [code] at h
  split at h
  ·exact er_ne h
  ·rename_i f1 s1 hx
   have g1 := ihx hx
   have g2 := ihy h
   refine ⟨g1.1.trans g2.1, fun ρ hl hf A hA ι w a hr hfr Q hQ => wp_seq ?_⟩
   have hl1 := g2.1.logOk hl
   refine g1.2 ρ hl1 hf A (fun id p q => hA id p (Nat.lt_of_lt_of_le q g2.1.nb)) ι w a hr hfr _ fun ι1 w1 a1 hp1 hf1 hd1 => ?_
   refine g2.2 ρ hl (g1.1.facts ρ hl1 hf) A (fun id p q => hA id (Nat.le_trans g1.1.nb p) q) ι1 w1 a1 hp1.rep hf1 Q fun ι2 w2 a2 hp2 hf2 hd2 => ?_
   exact hQ ι2 w2 a2 (hp1.trans g1.1 hr hp2) hf2 (hd2.trans hd1)
  ·rename_i e1 f1 s1 hne hx
   simp only [R.ok.injEq, Prod.mk.injEq] at h
   obtain ⟨rfl, rfl, rfl⟩ := h
   have g1 := ihx hx
   refine ⟨g1.1, fun ρ hl hf A hA ι w a hr hfr Q hQ => wp_seq ?_⟩
   refine g1.2 ρ hl hf A hA ι w a hr hfr _ fun ι1 w1 a1 hp1 hf1 hd1 => ?_
   have := hQ ι1 w1 a1 hp1 hf1 hd1
   cases e1 with
   | normal => exact (hne rfl).elim
   | ret => exact this
   | exit i => exact this
 | cond c x y ihx ihy =>
  intro fr fr' st st' e h
  simp only [code] at h
  split at h
  ·exact er_ne h
  ·rename_i s1 hg
   obtain ⟨q, hb⟩ := getB_ok (Φ := Φ) hg
   have g1 := ihx h
   refine ⟨q.le.trans g1.1, fun ρ hl hf A hA ι w a hr hfr Q hQ => ?_⟩
   have hl1 := g1.1.logOk hl
   refine wp_cond_true ((hfr.eval c).1.trans (hb ρ hl1 hf ι)) ?_
   refine g1.2 ρ hl (q.facts ρ hl1 hf) A (by rw [q.nb]; exact hA) ι w a (q.rep hr) (by rw [q.nb]; exact hfr) Q fun ι1 w1 a1 hp1 hf1 hd1 => ?_
   exact hQ ι1 w1 a1 ((q.post hr).trans q.le hr hp1) hf1 hd1
  ·rename_i s1 hg
   obtain ⟨q, hb⟩ := getB_ok (Φ := Φ) hg
   have g1 := ihy h
   refine ⟨q.le.trans g1.1, fun ρ hl hf A hA ι w a hr hfr Q hQ => ?_⟩
   have hl1 := g1.1.logOk hl
   refine wp_cond_false ((hfr.eval c).1.trans (hb ρ hl1 hf ι)) ?_
   refine g1.2 ρ hl (q.facts ρ hl1 hf) A (by rw [q.nb]; exact hA) ι w a (q.rep hr) (by rw [q.nb]; exact hfr) Q fun ι1 w1 a1 hp1 hf1 hd1 => ?_
   exact hQ ι1 w1 a1 ((q.post hr).trans q.le hr hp1) hf1 hd1
 | block id x ihx =>
  intro fr fr' st st' e h
  simp only [code] at h
  split at h
  ·exact er_ne h
  ·rename_i i f1 s1 hx
   have g1 := ihx hx
   split at h
   ·rename_i hid
    have hid : i = id := by simpa using hid
    simp only [R.ok.injEq, Prod.mk.injEq] at h
    obtain ⟨rfl, rfl, rfl⟩ := h
    refine ⟨g1.1, fun ρ hl hf A hA ι w a hr hfr Q hQ => wp_block ?_⟩
    refine g1.2 ρ hl hf A hA ι w a hr hfr _ fun ι1 w1 a1 hp1 hf1 hd1 => ?_
    have := hQ ι1 w1 a1 hp1 hf1 hd1
    simp only [Ex.toExit, Exit.inBlock, hid, if_true]
    exact this
   ·rename_i hid
    have hid : ¬ i = id := by simpa using hid
    simp only [R.ok.injEq, Prod.mk.injEq] at h
    obtain ⟨rfl, rfl, rfl⟩ := h
    refine ⟨g1.1, fun ρ hl hf A hA ι w a hr hfr Q hQ => wp_block ?_⟩
    refine g1.2 ρ hl hf A hA ι w a hr hfr _ fun ι1 w1 a1 hp1 hf1 hd1 => ?_
    have := hQ ι1 w1 a1 hp1 hf1 hd1
    simp only [Ex.toExit, Exit.inBlock, hid, if_false]
    exact this
  ·rename_i e1 f1 s1 hne hx
   have g1 := ihx hx
   simp only [R.ok.injEq, Prod.mk.injEq] at h
   obtain ⟨rfl, rfl, rfl⟩ := h
   refine ⟨g1.1, fun ρ hl hf A hA ι w a hr hfr Q hQ => wp_block ?_⟩
   refine g1.2 ρ hl hf A hA ι w a hr hfr _ fun ι1 w1 a1 hp1 hf1 hd1 => ?_
   have := hQ ι1 w1 a1 hp1 hf1 hd1
   cases e1 with
   | normal => exact this
   | ret => exact this
   | exit i => exact (hne _ rfl).elim
 | loop x ihx =>
  intro fr fr' st st' e h
  simp only [code] at h
  have rounds : ∀ (n : Nat) {fr fr' : Fr} {st st' : St} {e : Ex}, iterS (code C call lf x) n fr st = .ok (e, fr', st') → Goes P Φ fr st fr' st' (fun Q => Code.rounds P x Q n) e.toExit := by
   intro n
   induction n with
   | zero => intro fr fr' st st' e h; exact stop_ne h
   | succ n ih =>
    intro fr fr' st st' e h
    simp only [iterS] at h
    split at h
    ·exact er_ne h
    ·rename_i f1 s1 hx
     have g1 := ihx hx
     have g2 := ih h
     refine ⟨g1.1.trans g2.1, fun ρ hl hf A hA ι w a hr hfr Q hQ => ?_⟩
     have hl1 := g2.1.logOk hl
     refine g1.2 ρ hl1 hf A (fun id p q => hA id p (Nat.lt_of_lt_of_le q g2.1.nb)) ι w a hr hfr (Exit.then (Code.rounds P x Q n) Q) fun ι1 w1 a1 hp1 hf1 hd1 => ?_
     refine g2.2 ρ hl (g1.1.facts ρ hl1 hf) A (fun id p q => hA id (Nat.le_trans g1.1.nb p) q) ι1 w1 a1 hp1.rep hf1 Q fun ι2 w2 a2 hp2 hf2 hd2 => ?_
     exact hQ ι2 w2 a2 (hp1.trans g1.1 hr hp2) hf2 (hd2.trans hd1)
    ·rename_i e1 f1 s1 hne hx
     simp only [R.ok.injEq, Prod.mk.injEq] at h
     obtain ⟨rfl, rfl, rfl⟩ := h
     have g1 := ihx hx
     refine ⟨g1.1, fun ρ hl hf A hA ι w a hr hfr Q hQ => ?_⟩
     refine g1.2 ρ hl hf A hA ι w a hr hfr (Exit.then (Code.rounds P x Q n) Q) fun ι1 w1 a1 hp1 hf1 hd1 => ?_
     have := hQ ι1 w1 a1 hp1 hf1 hd1
     cases e1 with
     | normal => exact (hne rfl).elim
     | ret => exact this
     | exit i => exact this
  exact (rounds lf h).mono fun Q a w hw => wp_loop_rounds lf hw
 | exit id =>
  intro fr fr' st st' e h
  simp only [code, R.ok.injEq, Prod.mk.injEq] at h
  obtain ⟨rfl, rfl, rfl⟩ := h
  exact ⟨.refl _ _, fun ρ _ _ A _ ι w a hr hf Q hQ => wp_exit (hQ ι w a (.refl hr) hf rfl)⟩
 | ret =>
  intro fr fr' st st' e h
  simp only [code, R.ok.injEq, Prod.mk.injEq] at h
  obtain ⟨rfl, rfl, rfl⟩ := h
  exact ⟨.refl _ _, fun ρ _ _ A _ ι w a hr hf Q hQ => wp_ret (hQ ι w a (.refl hr) hf rfl)⟩
 | label l =>
  intro fr fr' st st' e h
  simp only [code, R.ok.injEq, Prod.mk.injEq] at h
  obtain ⟨rfl, rfl, rfl⟩ := h
  exact ⟨.refl _ _, fun ρ _ _ A _ ι w a hr hf Q hQ => wp_label (hQ ι w a (.refl hr) hf rfl)⟩
 | rangeFunc f ps asg b _ _ =>
  intro fr fr' st st' e h
  exact stop_ne h
 | scope b _ =>
  intro fr fr' st st' e h
  exact stop_ne h
 | goto l =>
  intro fr fr' st st' e h
  exact stop_ne h
 | refuse why =>
  intro fr fr' st st' e h
  exact stop_ne h
end
end Go.Sx
namespace Go.Sx
set_option linter.unusedSectionVars false
variable [Pins]
set_option linter.unusedSimpArgs false
set_option linter.unusedVariables false
def RK.is : RK → Value → Prop
 | .ri k, v => ∃ n, v = .int k n ∧ IntKind.has k n
 | .rb, v => ∃ b, v = .bool b
 | .rs, v => ∃ s, v = .string s
 | .rl _, _ => False
def TypedCells : List RK → List Value → Prop
 | [], [] => True
 | k :: ks, v :: vs => k.is v ∧ TypedCells ks vs
 | _, _ => False
def packArgs : List (Bool × List RK) → List Value → List Value
 | [], _ => []
 | (false, _) :: l, v :: vs => v :: packArgs l vs
 | (false, _) :: _, [] => []
 | (true, ks) :: l, vs => .agg (vs.take ks.length).toArray :: packArgs l (vs.drop ks.length)
def packRes : List (Bool × Nat) → List Value → List Value
 | [], _ => []
 | (true, n) :: sh, vs => .agg (vs.take n).toArray :: packRes sh (vs.drop n)
 | (false, _) :: sh, v :: vs => v :: packRes sh vs
 | (false, _) :: _, [] => []
def sumRes (s : Sum) (cells : List Value) : Value := if s.tup then .tuple (packRes s.shape cells).toArray else (packRes s.shape cells).headD undef
def phiCells (Φ : Phi) (f : Nat) (vs : List Value) : Nat → List RK → List Value
 | _, [] => []
 | j, .ri k :: ks => .int k (Φ.i f vs j) :: phiCells Φ f vs (j + 1) ks
 | j, .rb :: ks => .bool (Φ.b f vs j) :: phiCells Φ f vs (j + 1) ks
 | j, .rs :: ks => .string (Φ.s f vs j) :: phiCells Φ f vs (j + 1) ks
 | j, .rl v :: ks => v :: phiCells Φ f vs (j + 1) ks
section
variable {P : Program}
def Callable (P : Program) (f : Nat) : Prop := ∀ as w, (callFunc f as).run P w = .ok (.enter f as) w
structure SumOk (P : Program) (Φ : Phi) (f : Nat) (s : Sum) : Prop where
 can : Callable P f
 does : ∀ vs, TypedCells (s.args.flatMap (·.2)) vs → ∀ w, Pins.n ≤ w.heap.size → Pins.I w → Calls P f (packArgs s.args vs).toArray w fun e w' =>
  e = .returned (sumRes s (phiCells Φ f vs 0 s.ks)) ∧ RowKit.Below w.heap.size w w'
theorem kindSC_den {k : RK} {c : SC} (h : kindSC k c = true) (ρ : Env) (hf : c.fits ρ) : k.is (c.den ρ noloc) ∧ ∀ ι, c.den ρ ι = c.den ρ noloc := by
 unfold kindSC at h
 split at h
 ·simp only [Bool.and_eq_true, kindEq_true, decide_eq_true_eq] at h
  obtain ⟨⟨rfl, h1⟩, h2⟩ := h
  exact ⟨⟨_, rfl, h1, h2⟩, fun _ => rfl⟩
 ·rw [kindEq_true] at h
  subst h
  exact ⟨⟨_, rfl, hf⟩, fun _ => rfl⟩
 ·exact ⟨⟨_, rfl⟩, fun _ => rfl⟩
 ·exact ⟨⟨_, rfl⟩, fun _ => rfl⟩
 ·exact ⟨⟨_, rfl⟩, fun _ => rfl⟩
 ·exact ⟨⟨_, rfl⟩, fun _ => rfl⟩
 ·cases h
theorem kindsSC_den : ∀ {ks : List RK} {cs : List SC}, kindsSC ks cs = true → ∀ ρ, (∀ c ∈ cs, c.fits ρ) →
  ks.length = cs.length ∧ (∀ ι, cs.map (SC.den ρ ι) = cs.map (SC.den ρ noloc)) ∧ ∀ ks' vs, TypedCells ks' vs → TypedCells (ks ++ ks') (cs.map (SC.den ρ noloc) ++ vs)
 | [], [], h, ρ, hf => ⟨rfl, fun _ => rfl, fun ks' vs h => h⟩
 | k :: ks, c :: cs, h, ρ, hf => by
  simp only [kindsSC, Bool.and_eq_true] at h
  obtain ⟨h1, h2⟩ := kindSC_den h.1 ρ (hf c (List.mem_cons_self ..))
  obtain ⟨h3, h4, h5⟩ := kindsSC_den h.2 ρ (fun d hd => hf d (List.mem_cons_of_mem _ hd))
  exact ⟨by simp [h3], fun ι => by simp only [List.map_cons, h2 ι, h4 ι], fun ks' vs h => ⟨h1, h5 ks' vs h⟩⟩
 | [], _ :: _, h, _, _ => by simp [kindsSC] at h
 | _ :: _, [], h, _, _ => by simp [kindsSC] at h
theorem argsFit_den : ∀ {l : List (Bool × List RK)} {ws : List SW}, argsFit l ws = true → ∀ ρ, (∀ c ∈ ws.flatMap SW.cells, c.fits ρ) →
  TypedCells (l.flatMap (·.2)) ((ws.flatMap SW.cells).map (SC.den ρ noloc)) ∧ ∀ ι, ws.map (SW.den ρ ι) = packArgs l ((ws.flatMap SW.cells).map (SC.den ρ noloc))
 | [], [], _, ρ, _ => ⟨trivial, fun _ => rfl⟩
 | (false, [k]) :: l, .c x :: ws, h, ρ, hf => by
  simp only [argsFit, Bool.and_eq_true] at h
  have hx : x.fits ρ := hf x (by simp [SW.cells])
  obtain ⟨h1, h2⟩ := kindSC_den h.1 ρ hx
  obtain ⟨h3, h4⟩ := argsFit_den h.2 ρ (fun c hc => hf c (by simp only [List.flatMap_cons, List.mem_append]; exact .inr hc))
  refine ⟨?_, fun ι => ?_⟩
  ·simp only [List.flatMap_cons, SW.cells, List.singleton_append, List.map_cons]
   exact ⟨h1, h3⟩
  ·simp only [List.map_cons, List.flatMap_cons, SW.cells, List.singleton_append, packArgs, h4 ι, SW.den, h2 ι]
 | (true, ks) :: l, .agg xs :: ws, h, ρ, hf => by
  simp only [argsFit, Bool.and_eq_true] at h
  obtain ⟨h1, h2, h5⟩ := kindsSC_den h.1 ρ (fun c hc => hf c (by simp only [List.flatMap_cons, List.mem_append]; exact .inl hc))
  obtain ⟨h3, h4⟩ := argsFit_den h.2 ρ (fun c hc => hf c (by simp only [List.flatMap_cons, List.mem_append]; exact .inr hc))
  refine ⟨?_, fun ι => ?_⟩
  ·simp only [List.flatMap_cons, SW.cells, List.map_append]
   exact h5 _ _ h3
  ·simp only [List.map_cons, List.flatMap_cons, SW.cells, List.map_append, packArgs, h4 ι, SW.den, h2 ι]
   congr 1
   ·rw [List.take_left' (by simp [h1])]
   ·rw [List.drop_left' (by simp [h1])]
 | [], _ :: _, h, _, _ => by simp [argsFit] at h
 | (false, []) :: _, _, h, _, _ => by simp [argsFit] at h
 | (false, _ :: _ :: _) :: _, _, h, _, _ => by simp [argsFit] at h
 | (false, [_]) :: _, [], h, _, _ => by simp [argsFit] at h
 | (false, [_]) :: _, .agg _ :: _, h, _, _ => by simp [argsFit] at h
 | (true, _) :: _, [], h, _, _ => by simp [argsFit] at h
 | (true, _) :: _, .c _ :: _, h, _, _ => by simp [argsFit] at h
theorem sumCells_den (Φ : Phi) (ρ : Env) (f : Nat) (vs : List Value) (ι : Loc) : ∀ (ks : List RK) (x j : Nat), callDen Φ ρ f vs x j ks → (sumCells x ks).map (SC.den ρ ι) = phiCells Φ f vs j ks
 | [], x, j, _ => rfl
 | .ri k :: ks, x, j, h => by
  simp only [callDen] at h
  simp only [sumCells, List.map_cons, SC.den, h.1, phiCells, sumCells_den Φ ρ f vs ι ks _ _ h.2]
 | .rb :: ks, x, j, h => by
  simp only [callDen] at h
  simp only [sumCells, List.map_cons, SC.den, h.1, phiCells, sumCells_den Φ ρ f vs ι ks _ _ h.2, turn]
 | .rs :: ks, x, j, h => by
  simp only [callDen] at h
  simp only [sumCells, List.map_cons, SC.den, h.1, phiCells, sumCells_den Φ ρ f vs ι ks _ _ h.2]
 | .rl v :: ks, x, j, h => by
  simp only [callDen] at h
  simp only [sumCells, List.map_cons, SC.den, phiCells, sumCells_den Φ ρ f vs ι ks _ _ h]
theorem shaped_den (ρ : Env) (ι : Loc) : ∀ {sh : List (Bool × Nat)} {xs : List SC} {l : List SW}, shaped sh xs = some l → l.map (SW.den ρ ι) = packRes sh (xs.map (SC.den ρ ι))
 | [], [], l, h => by simp [shaped] at h; subst h; rfl
 | [], _ :: _, l, h => by simp [shaped] at h
 | (true, n) :: sh, xs, l, h => by
  simp only [shaped] at h
  split at h
  ·rename_i l' hl
   split at h
   ·simp only [Option.some.injEq] at h
    subst h
    simp only [List.map_cons, SW.den, packRes, shaped_den ρ ι hl, List.map_take, List.map_drop]
   ·cases h
  ·cases h
 | (false, m) :: sh, x :: xs, l, h => by
  simp only [shaped] at h
  split at h
  ·rename_i l' hl
   simp only [Option.some.injEq] at h
   subst h
   simp only [List.map_cons, SW.den, packRes, shaped_den ρ ι hl]
  ·cases h
 | (false, m) :: sh, [], l, h => by simp [shaped] at h
theorem shaped_mem : ∀ {sh : List (Bool × Nat)} {xs : List SC} {l : List SW}, shaped sh xs = some l → ∀ w ∈ l, ∀ c ∈ w.cells, c ∈ xs
 | [], [], l, h => by simp [shaped] at h; subst h; intro w hw; cases hw
 | [], _ :: _, l, h => by simp [shaped] at h
 | (true, n) :: sh, xs, l, h => by
  simp only [shaped] at h
  split at h
  ·rename_i l' hl
   split at h
   ·simp only [Option.some.injEq] at h
    subst h
    intro w hw c hc
    rcases List.mem_cons.1 hw with rfl | hw
    ·exact List.mem_of_mem_take hc
    ·exact List.mem_of_mem_drop (shaped_mem hl w hw c hc)
   ·cases h
  ·cases h
 | (false, m) :: sh, x :: xs, l, h => by
  simp only [shaped] at h
  split at h
  ·rename_i l' hl
   simp only [Option.some.injEq] at h
   subst h
   intro w hw c hc
   rcases List.mem_cons.1 hw with rfl | hw
   ·simp only [SW.cells, List.mem_singleton] at hc
    subst hc
    exact List.mem_cons_self ..
   ·exact List.mem_cons_of_mem _ (shaped_mem hl w hw c hc)
  ·cases h
 | (false, m) :: sh, [], l, h => by simp [shaped] at h
theorem sumCells_on (A : Nat → Prop) : ∀ (ks : List RK) (x : Nat), ∀ c ∈ sumCells x ks, c.on A
 | [], x, c, hc => by cases hc
 | .ri k :: ks, x, c, hc => by
  rcases List.mem_cons.1 hc with rfl | hc
  ·trivial
  ·exact sumCells_on A ks _ c hc
 | .rb :: ks, x, c, hc => by
  rcases List.mem_cons.1 hc with rfl | hc
  ·trivial
  ·exact sumCells_on A ks _ c hc
 | .rs :: ks, x, c, hc => by
  rcases List.mem_cons.1 hc with rfl | hc
  ·trivial
  ·exact sumCells_on A ks _ c hc
 | .rl v :: ks, x, c, hc => by
  rcases List.mem_cons.1 hc with rfl | hc
  ·trivial
  ·exact sumCells_on A ks _ c hc
theorem below_post {Φ : Phi} {ρ : Env} {ι : Loc} {A : Nat → Prop} {st st' : St} {w w' : World} (q : Quiet Φ st st') (hr : Rep ρ ι A st.heap.get st.nb w) (hb : RowKit.Below w.heap.size w w') :
  Post ρ ι A st w ι st' w' := by
 refine ⟨.refl _ _, ?_, hb.os, hb.tape, hb.output, hb.size, fun b h _ => hb.block b h, fun id h1 h2 => by rw [q.nb] at h2; omega⟩
 rw [q.heap, q.nb]
 exact ⟨hr.lt, fun id k hk => by rw [hb.block _ (hr.size hk)]; exact hr.blk id k hk, hr.on, hr.inj, Nat.le_trans hr.pin.1 hb.size, Pins.keep w w' (fun b h => hb.block b (Nat.lt_of_lt_of_le h hr.pin.1)) hr.pin.2.1, hr.pin.2.2⟩
theorem sumRun0_ok {Φ : Phi} {f : Nat} {s : Sum} (hok : SumOk P Φ f s) {args : List SW} {st st' : St} {v : SV} (h : sumRun0 s f args st = .ok (v, st')) :
  Le Φ st st' ∧ Callable P f ∧
  ∀ ρ, LogOk Φ ρ st'.log → Facts ρ st → ∀ A : Nat → Prop, (∀ id, st.nb ≤ id → id < st'.nb → A id) → ∀ ι w, Rep ρ ι A st.heap.get st.nb w →
   (∀ x ∈ args, x.on (lim st.nb A)) →
   Calls P f (args.map (SW.den ρ ι)).toArray w fun e w' => ∃ ι', e = .returned (v.den ρ ι') ∧ Post ρ ι A st w ι' st' w' ∧ v.on (lim st'.nb A) := by
 unfold sumRun0 at h
 dsimp only at h
 split at h
 ·rename_i hfit
  split at h
  ·rename_i l hl
   split at h
   ·rename_i v' hv
    simp only [R.ok.injEq, Prod.mk.injEq] at h
    obtain ⟨rfl, rfl⟩ := h
    have q : Quiet Φ st { st with nx := st.nx + s.ks.length, log := .call f (args.flatMap SW.cells) st.nx s.ks :: st.log } := quiet_push
    refine ⟨q.le, hok.can, fun ρ hlog hf A hA ι w hr hin => ?_⟩
    obtain ⟨e1, e2⟩ := hlog (.call f (args.flatMap SW.cells) st.nx s.ks) (by simp)
    obtain ⟨e3, e4⟩ := argsFit_den hfit ρ e1
    rw [e4 ι]
    refine (hok.does _ e3 w hr.pin.1 hr.pin.2.1).mono fun e w' ⟨h1, h2⟩ => ⟨ι, ?_, below_post q hr h2, ?_⟩
    ·rw [h1]
     congr 1
     have h3 := shaped_den ρ ι hl
     rw [sumCells_den Φ ρ f _ ι s.ks st.nx 0 e2] at h3
     unfold sumRes
     unfold sumVal at hv
     split at hv
     ·rename_i ht
      simp only [Option.some.injEq] at hv
      subst hv
      simp only [ht, if_true, SV.den, ← h3]
     ·rename_i ht
      split at hv
      ·simp only [Option.some.injEq] at hv
       subst hv
       simp only [ht, ← h3]
       rfl
      ·cases hv
    ·have hc : ∀ x ∈ l, x.on (lim st.nb A) := fun x hx c hc => sumCells_on _ _ _ c (shaped_mem hl x hx c hc)
     unfold sumVal at hv
     split at hv
     ·simp only [Option.some.injEq] at hv
      subst hv
      exact hc
     ·split at hv
      ·simp only [Option.some.injEq] at hv
       subst hv
       exact hc _ (List.mem_cons_self ..)
      ·cases hv
   ·exact stop_ne h
  ·exact stop_ne h
 ·exact stop_ne h
theorem sumRun_ok {Φ : Phi} {f : Nat} {s : Sum} (hok : SumOk P Φ f s) {args : List SW} {st st' : St} {v : SV} (h : sumRun s f args st = .ok (v, st')) :
  Le Φ st st' ∧ Callable P f ∧
  ∀ ρ, LogOk Φ ρ st'.log → Facts ρ st → ∀ A : Nat → Prop, (∀ id, st.nb ≤ id → id < st'.nb → A id) → ∀ ι w, Rep ρ ι A st.heap.get st.nb w →
   (∀ x ∈ args, x.on (lim st.nb A)) →
   Calls P f (args.map (SW.den ρ ι)).toArray w fun e w' => ∃ ι', e = .returned (v.den ρ ι') ∧ Post ρ ι A st w ι' st' w' ∧ v.on (lim st'.nb A) := by
 unfold sumRun at h
 split at h
 ·rename_i v0 s1 h0
  obtain ⟨h1, h2, h3⟩ := sumRun0_ok hok h0
  split at h
  ·unfold concS at h
   split at h
   ·rename_i k x
    split at h
    ·rename_i n s2 hn
     obtain ⟨q, _, k', hk⟩ := getN_ok (Φ := Φ) hn
     simp only [R.ok.injEq, Prod.mk.injEq] at h
     obtain ⟨rfl, rfl⟩ := h
     refine ⟨h1.trans q.le, h2, fun ρ hl hf A hA ι w hr hin => ?_⟩
     have hl1 := q.logOk hl
     refine (h3 ρ hl1 hf A (fun id a b => hA id a (by rw [q.nb]; exact b)) ι w hr hin).mono fun e w' ⟨ι', e1, e2, e3⟩ => ⟨ι', ?_, e2.trans h1 hr (q.post e2.rep), bare_litI _ _ _⟩
     have e4 := hk ρ hl (h1.facts ρ hl1 hf) ι'
     have e5 : (SV.w (.c (.ivar k x))).den ρ ι' = .int k (ρ.i x) := rfl
     rw [e5] at e4
     simp only [Value.int.injEq] at e4
     rw [e1, e5, e4.2]
     rfl
    ·exact er_ne h
   ·exact stop_ne h
  ·simp only [R.ok.injEq, Prod.mk.injEq] at h
   obtain ⟨rfl, rfl⟩ := h
   exact ⟨h1, h2, h3⟩
 ·exact er_ne h
def SumsOk (P : Program) (Φ : Phi) (sums : Tr Sum) : Prop := ∀ f s, sums.get f = some s → SumOk P Φ f s
def FnsOk (P : Program) (fns : Tr Func) : Prop := ∀ f fn, fns.get f = some fn → P.funcs[f]? = some fn ∧ Callable P f
theorem argsV_get : ∀ (args : List SW) (t : Nat), (Tr.setAll (.e : Tr SV) 0 (argsV args)).get t = (args[t]?).map SV.w := by
 intro args t
 have h : ∀ l : List SW, argsV l = l.map SV.w := by
  intro l
  induction l with
  | nil => rfl
  | cons x l ih => simp [argsV, ih]
 rw [h, Tr.get_setAll]
 simp only [Nat.zero_le, true_and, Nat.zero_add, List.length_map, Nat.sub_zero, Tr.get_e, List.getElem?_map]
 split
 ·rfl
 ·rename_i hn
  rw [List.getElem?_eq_none (by omega)]
  rfl
def resM (tmps : Array Value) : ResultVar → Sem Value
 | .tmp t => pure (tmps.getD t undef)
 | .cell x t => do loadVar t (← asAddr (tmps.getD x undef))
theorem results_eq (fn : Func) (tmps : Array Value) : results fn tmps = (do let vs ← fn.results.mapM (resM tmps); pure (if h : vs.size = 1 then vs[0] else .tuple vs)) := by
 unfold results
 congr 2
theorem resVal_den (l : List SW) (ρ : Env) (ι : Loc) :
  (if h : (l.map (SW.den ρ ι)).toArray.size = 1 then (l.map (SW.den ρ ι)).toArray[0] else Value.tuple (l.map (SW.den ρ ι)).toArray) = (resVal l).den ρ ι := by
 match l with
 | [] => rfl
 | [x] => rfl
 | x :: y :: t =>
  rw [dif_neg (by simp)]
  rfl
theorem asAddr_ptr (a : Addr) : asAddr (.pointer (some a)) = pure a := rfl
theorem resOf_run {C : Ctx} (hT : TysOk P C.tys) {fr : Fr} {st : St} {ρ : Env} {ι : Loc} {A : Nat → Prop} {w : World} {a : Act} (hr : Rep ρ ι A st.heap.get st.nb w) (hfr : RepF ρ ι A st.nb fr a) :
  ∀ {rs : List ResultVar} {l : List SW}, resOf C fr st rs = some l →
   (rs.mapM (resM a.tmps)).run P w = .ok (l.map (SW.den ρ ι)) w ∧ ∀ x ∈ l, x.on (lim st.nb A)
 | [], l, h => by simp [resOf] at h; subst h; exact ⟨rfl, fun x hx => by cases hx⟩
 | .tmp t :: rs, l, h => by
  simp only [resOf] at h
  split at h
  ·rename_i x l' hx hl
   simp only [Option.some.injEq] at h
   subst h
   obtain ⟨h1, h2⟩ := resOf_run hT hr hfr hl
   have h3 := hfr.slot t
   have h4 := hfr.on t
   rw [hx] at h3 h4
   refine ⟨?_, fun y hy => ?_⟩
   ·simp only [List.mapM_cons, resM, pure_bind, Sem.run_bind, h1, Result.andThen_ok, Sem.run_pure, List.map_cons, h3, SV.den_w]
   ·rcases List.mem_cons.1 hy with rfl | hy
    ·exact h4
    ·exact h2 y hy
  ·cases h
 | .cell x t :: rs, l, h => by
  simp only [resOf] at h
  split at h
  ·rename_i y s1 l' hx hl
   simp only [Option.some.injEq] at h
   subst h
   obtain ⟨h1, h2⟩ := resOf_run hT hr hfr hl
   obtain ⟨_, id, off, k, i, z, e1, hk, hi, e2, hy⟩ := loadS_ok hx
   simp only [SV.w.injEq] at e2
   subst e2
   obtain ⟨h3, h4⟩ := loadVar_run hT hi hr hk hy
   have h5 := hfr.slot x
   rw [e1] at h5
   refine ⟨?_, fun z hz => ?_⟩
   ·simp only [List.mapM_cons, resM, Sem.run_bind, h5, SV.den_w, SW.den_ptr, asAddr_ptr, Sem.run_pure, Result.andThen_ok, h3, h1, List.map_cons]
   ·rcases List.mem_cons.1 hz with rfl | hz
    ·exact h4
    ·exact h2 z hz
  ·cases h
theorem fnRun_ok {Φ : Phi} {C : Ctx} (hT : TysOk P C.tys) (hF : FnsOk P C.fns) (hS : SumsOk P Φ C.sums) (hmix : P.follows .mixedOrders = true) (lf : Nat) : ∀ d, CallOk P Φ (fnRun C lf d) := by
 intro d
 induction d with
 | zero => intro f args st v st' h; exact stop_ne h
 | succ d ih =>
  intro f args st v st' h
  simp only [fnRun] at h
  split at h
  ·rename_i s hs
   exact sumRun_ok (hS f s hs) h
  ·split at h
   ·exact stop_ne h
   ·rename_i fn hfn
    obtain ⟨hf1, hf2⟩ := hF f fn hfn
    split at h
    ·exact stop_ne h
    ·rename_i c hbody
     have main : ∀ {e : Ex} {fr' : Fr} {s1 : St}, code C (fnRun C lf d) lf c ⟨Nat.max fn.ntmps args.length, Tr.setAll .e 0 (argsV args)⟩ st = .ok (e, fr', s1) → (∀ i, e ≠ .exit i) → ∀ l, resOf C fr' s1 fn.results.toList = some l → v = resVal l → st' = s1 →
       Le Φ st st' ∧ Callable P f ∧ ∀ ρ, LogOk Φ ρ st'.log → Facts ρ st → ∀ A : Nat → Prop, (∀ id, st.nb ≤ id → id < st'.nb → A id) → ∀ ι w, Rep ρ ι A st.heap.get st.nb w →
        (∀ x ∈ args, x.on (lim st.nb A)) → Calls P f (args.map (SW.den ρ ι)).toArray w fun e w' => ∃ ι', e = .returned (v.den ρ ι') ∧ Post ρ ι A st w ι' st' w' ∧ v.on (lim st'.nb A) := by
      intro e fr' s1 hc he l hl hv hst
      subst hv; subst hst
      have g := code_ok hT ih hmix c hc
      refine ⟨g.1, hf2, fun ρ hlog hfacts A hA ι w hr hin => ?_⟩
      refine calls_of_wp hf1 hbody ?_
      refine g.2 ρ hlog hfacts A hA ι w _ hr ⟨?_, fun t => ?_, fun t => ?_⟩ _ fun ι' w' a' hp hf' hd => ?_
      ·show _ = max fn.ntmps args.length
       simp only [Array.size_append, List.size_toArray, List.length_map, Array.size_replicate]
       omega
      ·simp only [Fr.get, argsV_get]
       by_cases ht : t < args.length
       ·simp [ht, SV.den_w, Array.getElem?_append]
       ·have : args[t]? = none := List.getElem?_eq_none (by omega)
        simp only [this, Option.map_none, Option.getD_none, den_tuple_nil]
        rw [Array.getD_eq_getD_getElem?]
        simp only [Array.getElem?_append, List.size_toArray, List.length_map, ht, if_false, Array.getElem?_replicate]
        split <;> rfl
      ·simp only [Fr.get, argsV_get]
       by_cases ht : t < args.length
       ·simp only [List.getElem?_eq_getElem ht, Option.map_some, Option.getD_some]
        exact hin _ (List.getElem_mem ht)
       ·have : args[t]? = none := List.getElem?_eq_none (by omega)
        simp only [this, Option.map_none, Option.getD_none]
        exact bare_undef _
      ·obtain ⟨r1, r2⟩ := resOf_run hT hp.rep hf' hl
       have hres : (results fn a'.tmps).run P w' = .ok ((resVal l).den ρ ι') w' := by
        rw [results_eq]
        simp only [Sem.run_bind]
        rw [mapM_array (P := P) fn.results _ (l.map (SW.den ρ ι')) w' r1]
        simp only [Result.andThen_ok, Sem.run_pure]
        congr 1
        exact resVal_den l ρ ι'
       have hon : (resVal l).on (lim st'.nb A) := by
        unfold resVal
        split
        ·exact r2 _ (List.mem_cons_self ..)
        ·exact r2
       cases e with
       | normal => exact ⟨hd, _, hres, ι', rfl, hp, hon⟩
       | ret => exact ⟨hd, _, hres, ι', rfl, hp, hon⟩
       | exit i => exact absurd rfl (he i)
     split at h
     ·exact er_ne h
     ·exact stop_ne h
     ·rename_i e fr' s1 hne hc
      split at h
      ·rename_i l hl
       simp only [R.ok.injEq, Prod.mk.injEq] at h
       exact main hc (fun i hi => hne i (by rw [hi])) l hl h.1.symm h.2.symm
      ·exact stop_ne h
end
end Go.Sx
namespace Go.Sx
set_option linter.unusedSectionVars false
variable [Pins]
set_option linter.unusedSimpArgs false
set_option linter.unusedVariables false
def Env.setI (ρ : Env) (x : Nat) (n : Int) : Env := { ρ with i := fun y => match Nat.beq y x with | true => (fun (_ : Nat) => n) hh60 | false => ρ.i y }
def Env.setB (ρ : Env) (x : Nat) (n : Bool) : Env := { ρ with b := fun y => match Nat.beq y x with | true => (fun (_ : Nat) => n) hh60 | false => ρ.b y }
def Env.setS (ρ : Env) (x : Nat) (n : ByteArray) : Env := { ρ with s := fun y => match Nat.beq y x with | true => (fun (_ : Nat) => n) hh60 | false => ρ.s y }
def Env.like (n : Nat) (ρ ρ' : Env) : Prop := ∀ x, x < n → ρ'.i x = ρ.i x ∧ ρ'.b x = ρ.b x ∧ ρ'.s x = ρ.s x
theorem Env.like.refl (n : Nat) (ρ : Env) : Env.like n ρ ρ := fun _ _ => ⟨rfl, rfl, rfl⟩
theorem Env.like.trans {n m : Nat} {a b c : Env} (h : Env.like n a b) (k : Env.like m b c) (hn : n ≤ m) : Env.like n a c := fun x hx => by
 obtain ⟨h1, h2, h3⟩ := h x hx
 obtain ⟨k1, k2, k3⟩ := k x (Nat.lt_of_lt_of_le hx hn)
 exact ⟨k1.trans h1, k2.trans h2, k3.trans h3⟩
theorem Env.like.mono {n m : Nat} {a b : Env} (h : Env.like m a b) (hn : n ≤ m) : Env.like n a b := fun x hx => h x (Nat.lt_of_lt_of_le hx hn)
theorem like_setI (ρ : Env) (n : Nat) (v : Int) : Env.like n ρ (ρ.setI n v) := fun x hx => by
  have : Nat.beq x n = false := by
    cases h : Nat.beq x n with
    | false => rfl
    | true => have : x = n := by simpa using h
              omega
  exact ⟨by simp only [Env.setI, this], rfl, rfl⟩
theorem like_setB (ρ : Env) (n : Nat) (v : Bool) : Env.like n ρ (ρ.setB n v) := fun x hx => by
  have : Nat.beq x n = false := by
    cases h : Nat.beq x n with
    | false => rfl
    | true => have : x = n := by simpa using h
              omega
  exact ⟨rfl, by simp only [Env.setB, this], rfl⟩
theorem like_setS (ρ : Env) (n : Nat) (v : ByteArray) : Env.like n ρ (ρ.setS n v) := fun x hx => by
  have : Nat.beq x n = false := by
    cases h : Nat.beq x n with
    | false => rfl
    | true => have : x = n := by simpa using h
              omega
  exact ⟨rfl, rfl, by simp only [Env.setS, this]⟩
def IA.lt (n : Nat) : IA → Bool
 | .lit _ => true
 | .var x => Nat.blt x n
def BA.lt (n : Nat) : BA → Bool
 | .lit _ => true
 | .var x _ => Nat.blt x n
def SA.lt (n : Nat) : SA → Bool
 | .lit _ => true
 | .var x => Nat.blt x n
def IE.lt (n : Nat) : IE → Bool
 | .bin _ _ a b => a.lt n && b.lt n
 | .conv _ a => a.lt n
 | .mn a b => a.lt n && b.lt n
 | .mx a b => a.lt n && b.lt n
 | .len a => a.lt n
 | .sat s i => s.lt n && i.lt n
def PE.lt (n : Nat) : PE → Bool
 | .ii a b => a.lt n && b.lt n
 | .bb a b => a.lt n && b.lt n
 | .ss a b => a.lt n && b.lt n
def BE.lt (n : Nat) : BE → Bool
 | .cmp _ a b => a.lt n && b.lt n
 | .bq a b => a.lt n && b.lt n
 | .all l => l.all (PE.lt n)
def SE.lt (n : Nat) : SE → Bool
 | .cat a b => a.lt n && b.lt n
 | .byt l => l.all (IA.lt n)
 | .sub s i j => s.lt n && (i.lt n && j.lt n)
def SC.lt (n : Nat) : SC → Bool
 | .ivar _ x => Nat.blt x n
 | .bvar x _ => Nat.blt x n
 | .svar x => Nat.blt x n
 | _ => true
section
variable {n : Nat} {ρ ρ' : Env}
theorem IA.den_like (h : Env.like n ρ ρ') {a : IA} (ha : a.lt n = true) : a.den ρ' = a.den ρ := by
 cases a with
 | lit _ => rfl
 | var x => exact (h x (by simpa [IA.lt] using ha)).1
theorem BA.den_like (h : Env.like n ρ ρ') {a : BA} (ha : a.lt n = true) : a.den ρ' = a.den ρ := by
 cases a with
 | lit _ => rfl
 | var x g => simp only [BA.den, (h x (by simpa [BA.lt] using ha)).2.1]
theorem SA.den_like (h : Env.like n ρ ρ') {a : SA} (ha : a.lt n = true) : a.den ρ' = a.den ρ := by
 cases a with
 | lit _ => rfl
 | var x => exact (h x (by simpa [SA.lt] using ha)).2.2
theorem IE.den_like (h : Env.like n ρ ρ') {e : IE} (he : e.lt n = true) : e.den ρ' = e.den ρ := by
 cases e <;> simp only [IE.lt, Bool.and_eq_true] at he <;> simp only [IE.den]
 ·rw [IA.den_like h he.1, IA.den_like h he.2]
 ·rw [IA.den_like h he]
 ·rw [IA.den_like h he.1, IA.den_like h he.2]
 ·rw [IA.den_like h he.1, IA.den_like h he.2]
 ·rw [SA.den_like h he]
 ·rw [SA.den_like h he.1, IA.den_like h he.2]
theorem IE.side_like (h : Env.like n ρ ρ') {e : IE} (he : e.lt n = true) : e.side ρ' = e.side ρ := by
 cases e <;> simp only [IE.lt, Bool.and_eq_true] at he <;> simp only [IE.side]
 ·rw [IA.den_like h he.2]
 ·rw [SA.den_like h he.1, IA.den_like h he.2]
theorem PE.den_like (h : Env.like n ρ ρ') {e : PE} (he : e.lt n = true) : e.den ρ' = e.den ρ := by
 cases e <;> simp only [PE.lt, Bool.and_eq_true] at he <;> simp only [PE.den]
 ·rw [IA.den_like h he.1, IA.den_like h he.2]
 ·rw [BA.den_like h he.1, BA.den_like h he.2]
 ·rw [SA.den_like h he.1, SA.den_like h he.2]
theorem BE.den_like (h : Env.like n ρ ρ') {e : BE} (he : e.lt n = true) : e.den ρ' = e.den ρ := by
 cases e <;> simp only [BE.lt, Bool.and_eq_true] at he <;> simp only [BE.den]
 ·rw [IA.den_like h he.1, IA.den_like h he.2]
 ·rw [BA.den_like h he.1, BA.den_like h he.2]
 ·rename_i l
  induction l with
  | nil => rfl
  | cons x l ih =>
   simp only [List.all_cons, Bool.and_eq_true] at he ⊢
   rw [PE.den_like h he.1, ih he.2]
theorem SE.den_like (h : Env.like n ρ ρ') {e : SE} (he : e.lt n = true) : e.den ρ' = e.den ρ := by
 cases e <;> simp only [SE.lt, Bool.and_eq_true] at he <;> simp only [SE.den]
 ·rw [SA.den_like h he.1, SA.den_like h he.2]
 ·rename_i l
  congr 2
  exact List.map_congr_left fun a ha => by rw [IA.den_like h (List.all_eq_true.1 he a ha)]
 ·rw [SA.den_like h he.1, IA.den_like h he.2.1, IA.den_like h he.2.2]
theorem bytesIn_like (h : Env.like n ρ ρ') : ∀ {l : List IA}, l.all (IA.lt n) = true → (bytesIn ρ' l ↔ bytesIn ρ l)
 | [], _ => Iff.rfl
 | a :: l, hl => by
  simp only [List.all_cons, Bool.and_eq_true] at hl
  simp only [bytesIn]
  rw [IA.den_like h hl.1, bytesIn_like h hl.2]
theorem SE.side_like (h : Env.like n ρ ρ') {e : SE} (he : e.lt n = true) : e.side ρ' ↔ e.side ρ := by
 cases e <;> simp only [SE.lt, Bool.and_eq_true] at he <;> simp only [SE.side]
 ·rw [SA.den_like h he.1, SA.den_like h he.2]
 ·exact bytesIn_like h he
 ·rw [SA.den_like h he.1, IA.den_like h he.2.1, IA.den_like h he.2.2]
theorem SC.den_like (h : Env.like n ρ ρ') {c : SC} (hc : c.lt n = true) (ι : Loc) : c.den ρ' ι = c.den ρ ι ∧ (c.fits ρ' ↔ c.fits ρ) := by
 cases c <;> simp only [SC.lt] at hc <;> simp only [SC.den, SC.fits]
 ·simp
 ·rw [(h _ (by simpa using hc)).1]; simp
 ·rw [(h _ (by simpa using hc)).2.1]; simp
 ·rw [(h _ (by simpa using hc)).2.2]; simp
 ·simp
 ·simp
 ·simp
 ·simp
 ·simp
end
def callSet (Φ : Phi) (f : Nat) (vs : List Value) : Nat → Nat → List RK → Env → Env
 | _, _, [], ρ => hi ρ
 | x, j, .ri _ :: ks, ρ => callSet Φ f vs (x + 1) (j + 1) ks (ρ.setI x (Φ.i f vs j))
 | x, j, .rb :: ks, ρ => callSet Φ f vs (x + 1) (j + 1) ks (ρ.setB x (Φ.b f vs j))
 | x, j, .rs :: ks, ρ => callSet Φ f vs (x + 1) (j + 1) ks (ρ.setS x (Φ.s f vs j))
 | x, j, .rl _ :: ks, ρ => callSet Φ f vs (x + 1) (j + 1) ks ρ
def evSet (Φ : Phi) (ρ : Env) : Ev → Env
 | .setI0 x e => ρ.setI x (e.den ρ)
 | .setB0 x e => ρ.setB x (e.den ρ)
 | .setS0 x e => ρ.setS x (e.den ρ)
 | .decB _ _ => ρ
 | .decI _ _ => ρ
 | .call f args x ks => callSet Φ f (args.map (SC.den ρ noloc)) x 0 ks ρ
def fitsAll (ρ : Env) : List SC → Prop
 | [] => True
 | c :: l => c.fits ρ ∧ fitsAll ρ l
def evSide (ρ : Env) : Ev → Prop
 | .setI0 _ (.bin .quo _ _ b) => b.den ρ ≠ 0
 | .setI0 _ (.bin .rem _ _ b) => b.den ρ ≠ 0
 | .setI0 _ (.bin .shl _ _ b) => 0 ≤ b.den ρ
 | .setI0 _ (.bin .shr _ _ b) => 0 ≤ b.den ρ
 | .setI0 _ (.sat s i) => 0 ≤ i.den ρ ∧ i.den ρ < ((s.den ρ).size : Int)
 | .setS0 _ e => e.side ρ
 | .decB x b => ρ.b x = b
 | .decI x n => ρ.i x = n
 | .call _ args _ _ => fitsAll ρ args
 | _ => True
theorem fitsAll_mem {ρ : Env} : ∀ {l : List SC}, fitsAll ρ l → ∀ a ∈ l, a.fits ρ
 | [], _, a, h => by cases h
 | c :: l, h, a, ha => by
  rcases List.mem_cons.1 ha with rfl | ha
  ·exact h.1
  ·exact fitsAll_mem h.2 a ha
def chain (Φ : Phi) : List Ev → Env → (Env → Prop) → Prop
 | [], ρ, Q => Q ρ
 | ev :: l, ρ, Q => evSide ρ ev ∧ chain Φ l (evSet Φ ρ ev) Q
def fresh : List Ev → Nat → Bool
 | [], _ => true
 | .setI0 x e :: l, n => Nat.beq x n && e.lt n && fresh l (n + 1)
 | .setB0 x e :: l, n => Nat.beq x n && e.lt n && fresh l (n + 1)
 | .setS0 x e :: l, n => Nat.beq x n && e.lt n && fresh l (n + 1)
 | .decB x _ :: l, n => Nat.blt x n && fresh l n
 | .decI x _ :: l, n => Nat.blt x n && fresh l n
 | .call _ args x ks :: l, n => Nat.beq x n && args.all (SC.lt n) && fresh l (n + ks.length)
theorem callSet_like (Φ : Phi) (f : Nat) (vs : List Value) : ∀ (ks : List RK) (x j : Nat) (ρ : Env), Env.like x ρ (callSet Φ f vs x j ks ρ)
 | [], x, j, ρ => .refl _ _
 | .ri k :: ks, x, j, ρ => (like_setI ρ x _).trans (callSet_like Φ f vs ks (x + 1) (j + 1) _) (Nat.le_succ x)
 | .rb :: ks, x, j, ρ => (like_setB ρ x _).trans (callSet_like Φ f vs ks (x + 1) (j + 1) _) (Nat.le_succ x)
 | .rs :: ks, x, j, ρ => (like_setS ρ x _).trans (callSet_like Φ f vs ks (x + 1) (j + 1) _) (Nat.le_succ x)
 | .rl k :: ks, x, j, ρ => (callSet_like Φ f vs ks (x + 1) (j + 1) ρ).mono (Nat.le_succ x)
theorem callSet_den (Φ : Phi) (f : Nat) (vs : List Value) : ∀ (ks : List RK) (x j : Nat) (ρ ρ' : Env), Env.like (x + ks.length) (callSet Φ f vs x j ks ρ) ρ' → callDen Φ ρ' f vs x j ks
 | [], x, j, ρ, ρ', h => trivial
 | .ri k :: ks, x, j, ρ, ρ', h => by
  have h0 : ks.length + 1 = (RK.ri k :: ks).length := rfl
  refine ⟨?_, callSet_den Φ f vs ks (x + 1) (j + 1) _ ρ' (h.mono (by simp; omega))⟩
  rw [(h x (by simp)).1]
  simp only [callSet]
  rw [(callSet_like Φ f vs ks (x + 1) (j + 1) _ x (Nat.lt_succ_self x)).1]
  simp [Env.setI]
 | .rb :: ks, x, j, ρ, ρ', h => by
  refine ⟨?_, callSet_den Φ f vs ks (x + 1) (j + 1) _ ρ' (h.mono (by simp; omega))⟩
  rw [(h x (by simp)).2.1]
  simp only [callSet]
  rw [(callSet_like Φ f vs ks (x + 1) (j + 1) _ x (Nat.lt_succ_self x)).2.1]
  simp [Env.setB]
 | .rs :: ks, x, j, ρ, ρ', h => by
  refine ⟨?_, callSet_den Φ f vs ks (x + 1) (j + 1) _ ρ' (h.mono (by simp; omega))⟩
  rw [(h x (by simp)).2.2]
  simp only [callSet]
  rw [(callSet_like Φ f vs ks (x + 1) (j + 1) _ x (Nat.lt_succ_self x)).2.2]
  simp [Env.setS]
 | .rl k :: ks, x, j, ρ, ρ', h => callSet_den Φ f vs ks (x + 1) (j + 1) ρ ρ' (h.mono (by simp; omega))
theorem chain_ok (Φ : Phi) (Q : Env → Prop) : ∀ (l : List Ev) (n : Nat) (ρ : Env), fresh l n = true → chain Φ l ρ Q → ∃ ρ', Env.like n ρ ρ' ∧ (∀ ev ∈ l, ev.ok Φ ρ') ∧ Q ρ'
 | [], n, ρ, _, h => ⟨ρ, .refl _ _, (fun ev he => by cases he), h⟩
 | ev :: l, n, ρ, hf, h => by
  obtain ⟨hs, hc⟩ := h
  cases ev with
  | setI0 x e =>
   simp only [fresh, Bool.and_eq_true] at hf
   have hx : x = n := by simpa using hf.1.1
   subst hx
   obtain ⟨ρ', h1, h2, h3⟩ := chain_ok Φ Q l (x + 1) _ hf.2 hc
   have hl := (like_setI ρ x (e.den ρ)).trans h1 (Nat.le_succ x)
   refine ⟨ρ', hl, fun ev he => ?_, h3⟩
   rcases List.mem_cons.1 he with rfl | he
   ·refine ⟨?_, ?_⟩
    ·rw [IE.den_like hl hf.1.2, (h1 x (Nat.lt_succ_self x)).1]
     simp [evSet, Env.setI]
    ·rw [IE.side_like hl hf.1.2]
     cases e with
     | bin op k a b => cases op <;> simp only [evSide] at hs <;> simp [IE.side, hs]
     | sat s i => exact hs
     | _ => trivial
   ·exact h2 ev he
  | setB0 x e =>
   simp only [fresh, Bool.and_eq_true] at hf
   have hx : x = n := by simpa using hf.1.1
   subst hx
   obtain ⟨ρ', h1, h2, h3⟩ := chain_ok Φ Q l (x + 1) _ hf.2 hc
   have hl := (like_setB ρ x (e.den ρ)).trans h1 (Nat.le_succ x)
   refine ⟨ρ', hl, fun ev he => ?_, h3⟩
   rcases List.mem_cons.1 he with rfl | he
   ·show ρ'.b x = _
    rw [BE.den_like hl hf.1.2, (h1 x (Nat.lt_succ_self x)).2.1]
    simp [evSet, Env.setB]
   ·exact h2 ev he
  | setS0 x e =>
   simp only [fresh, Bool.and_eq_true] at hf
   have hx : x = n := by simpa using hf.1.1
   subst hx
   obtain ⟨ρ', h1, h2, h3⟩ := chain_ok Φ Q l (x + 1) _ hf.2 hc
   have hl := (like_setS ρ x (e.den ρ)).trans h1 (Nat.le_succ x)
   refine ⟨ρ', hl, fun ev he => ?_, h3⟩
   rcases List.mem_cons.1 he with rfl | he
   ·refine ⟨?_, (SE.side_like hl hf.1.2).2 hs⟩
    rw [SE.den_like hl hf.1.2, (h1 x (Nat.lt_succ_self x)).2.2]
    simp [evSet, Env.setS]
   ·exact h2 ev he
  | decB x b =>
   simp only [fresh, Bool.and_eq_true] at hf
   have hx : x < n := by simpa using hf.1
   obtain ⟨ρ', h1, h2, h3⟩ := chain_ok Φ Q l n _ hf.2 hc
   refine ⟨ρ', h1, fun ev he => ?_, h3⟩
   rcases List.mem_cons.1 he with rfl | he
   ·show ρ'.b x = b
    rw [(h1 x hx).2.1]
    exact hs
   ·exact h2 ev he
  | decI x b =>
   simp only [fresh, Bool.and_eq_true] at hf
   have hx : x < n := by simpa using hf.1
   obtain ⟨ρ', h1, h2, h3⟩ := chain_ok Φ Q l n _ hf.2 hc
   refine ⟨ρ', h1, fun ev he => ?_, h3⟩
   rcases List.mem_cons.1 he with rfl | he
   ·show ρ'.i x = b
    rw [(h1 x hx).1]
    exact hs
   ·exact h2 ev he
  | call f args x ks =>
   simp only [fresh, Bool.and_eq_true] at hf
   have hx : x = n := by simpa using hf.1.1
   subst hx
   obtain ⟨ρ', h1, h2, h3⟩ := chain_ok Φ Q l (x + ks.length) _ hf.2 hc
   have hl := (callSet_like Φ f (args.map (SC.den ρ noloc)) ks x 0 ρ).trans h1 (Nat.le_add_right x ks.length)
   have hargs : args.map (SC.den ρ' noloc) = args.map (SC.den ρ noloc) := List.map_congr_left fun c hc => (SC.den_like hl (List.all_eq_true.1 hf.1.2 c hc) noloc).1
   refine ⟨ρ', hl, fun ev he => ?_, h3⟩
   rcases List.mem_cons.1 he with rfl | he
   ·refine ⟨fun c hc => (SC.den_like hl (List.all_eq_true.1 hf.1.2 c hc) noloc).2.2 (fitsAll_mem hs c hc), ?_⟩
    rw [hargs]
    exact callSet_den Φ f _ ks x 0 ρ ρ' h1
   ·exact h2 ev he
def bareSC : SC → Bool
 | .ptr _ _ => false
 | .slc _ _ _ _ => false
 | .slu _ _ => false
 | .clo _ _ => false
 | .mp _ => false
 | _ => true
def bareSW (x : SW) : Bool := x.cells.all bareSC
def bareSV : SV → Bool
 | .w x => bareSW x
 | .tup xs => xs.all bareSW
theorem bareSC_on {c : SC} (h : bareSC c = true) (A : Nat → Prop) : c.on A := by
 cases c <;> simp [bareSC] at h <;> trivial
theorem bareSW_on {x : SW} (h : bareSW x = true) (A : Nat → Prop) : x.on A := fun c hc => bareSC_on (List.all_eq_true.1 h c hc) A
theorem bareSV_on {x : SV} (h : bareSV x = true) (A : Nat → Prop) : x.on A := by
 cases x with
 | w x => exact bareSW_on h A
 | tup xs => exact fun x hx => bareSW_on (List.all_eq_true.1 h x hx) A
theorem bare_den {x : SV} (h : bareSV x = true) (ρ : Env) (ι ι' : Loc) : x.den ρ ι' = x.den ρ ι :=
 SV.den_alike (A := fun _ => False) (fun _ h => h.elim) ρ (bareSV_on h _)
theorem bareW_den {x : SW} (h : bareSW x = true) (ρ : Env) (ι ι' : Loc) : x.den ρ ι' = x.den ρ ι :=
 SW.den_alike (A := fun _ => False) (fun _ h => h.elim) ρ (bareSW_on h _)
def ans (r : R (SV × St)) : Option (SV × List Ev) :=
 match r with
 | .ok (v, st) => some (v, st.log)
 | .er _ _ _ => none
structure CtxOk (P : Program) (Φ : Phi) (C : Ctx) : Prop where
 tys : TysOk P C.tys
 fns : FnsOk P C.fns
 sums : SumsOk P Φ C.sums
 mix : P.follows .mixedOrders = true
theorem way {P : Program} {Φ : Phi} {C : Ctx} (hC : CtxOk P Φ C) {lf d f : Nat} {args : List SW} {ds : List D} {nx : Nat} {v : SV} {log : List Ev}
  (h : ans (fnRun C lf d f args (st0 ds nx)) = some (v, log)) (hb : (bareSV v && args.all bareSW && fresh log.reverse nx) = true)
  {ρ : Env} {Q : Value → Prop} (hc : chain Φ log.reverse ρ fun ρ' => Q (v.den ρ' noloc)) (hlt : (args.flatMap SW.cells).all (SC.lt nx) = true) (w : World) (p1 : Pins.n ≤ w.heap.size) (p2 : Pins.I w) :
  Calls P f (args.map (SW.den ρ noloc)).toArray w fun e w' => ∃ x, e = .returned x ∧ Q x ∧ RowKit.Below w.heap.size w w' := by
 simp only [Bool.and_eq_true] at hb
 obtain ⟨⟨hb1, hb2⟩, hb3⟩ := hb
 cases hr : fnRun C lf d f args (st0 ds nx) with
 | er c l p => rw [hr] at h; cases h
 | ok x =>
  obtain ⟨v', st'⟩ := x
  rw [hr] at h
  simp only [ans, Option.some.injEq, Prod.mk.injEq] at h
  obtain ⟨rfl, rfl⟩ := h
  obtain ⟨ρ', h1, h2, h3⟩ := chain_ok Φ _ st'.log.reverse nx ρ hb3 hc
  obtain ⟨_, _, h4⟩ := fnRun_ok hC.tys hC.fns hC.sums hC.mix lf d f args _ _ _ hr
  have hargs : args.map (SW.den ρ' noloc) = args.map (SW.den ρ noloc) := by
   refine List.map_congr_left fun x hx => ?_
   have hcells : ∀ c ∈ x.cells, c.den ρ' noloc = c.den ρ noloc := fun c hc =>
    (SC.den_like h1 (List.all_eq_true.1 hlt c (List.mem_flatMap.2 ⟨x, hx, hc⟩)) noloc).1
   cases x with
   | c y => exact hcells y (by simp [SW.cells])
   | agg ys =>
    simp only [SW.den]
    congr 2
    exact List.map_congr_left fun y hy => hcells y hy
  rw [← hargs]
  refine (h4 ρ' (fun e he => h2 e (by simpa using he)) ⟨fun x b hx => (by rw [show (st0 ds nx).bf = Tr.e from rfl, Tr.get_e] at hx; cases hx), fun x b hx => (by rw [show (st0 ds nx).jf = Tr.e from rfl, Tr.get_e] at hx; cases hx)⟩ (fun _ => True) (fun _ _ _ => trivial) noloc w
   ⟨fun id k hk => (by rw [show (st0 ds nx).heap = Tr.e from rfl, Tr.get_e] at hk; cases hk), fun id k hk => (by rw [show (st0 ds nx).heap = Tr.e from rfl, Tr.get_e] at hk; cases hk), fun id k hk => (by rw [show (st0 ds nx).heap = Tr.e from rfl, Tr.get_e] at hk; cases hk), fun id id' k k' hk => (by rw [show (st0 ds nx).heap = Tr.e from rfl, Tr.get_e] at hk; cases hk), p1, p2, fun id k hk => (by rw [show (st0 ds nx).heap = Tr.e from rfl, Tr.get_e] at hk; cases hk)⟩
   (fun x hx => bareSW_on (List.all_eq_true.1 hb2 x hx) _)).mono fun e w' ⟨ι', he, hp, _⟩ => ?_
  refine ⟨_, he, ?_, hp.os, hp.tape, hp.output, hp.size, fun k hk => hp.same k hk fun id k' hk' => (by rw [show (st0 ds nx).heap = Tr.e from rfl, Tr.get_e] at hk'; cases hk')⟩
  rw [bare_den hb1 ρ' noloc ι']
  exact h3
def env0 : Env := ⟨fun _ => 0, fun _ => false, fun _ => .empty⟩
theorem wayp {P : Program} {Φ : Phi} {C : Ctx} (hC : CtxOk P Φ C) {lf d f : Nat} {args : List SW} {ds : List D} {nx : Nat} {v : SV} {log : List Ev} {as : Array Value} {res : Value} {Pr : Prop} {ρ : Env}
  (h : ans (fnRun C lf d f args (st0 ds nx)) = some (v, log.reverse)) (hb : (bareSV v && args.all bareSW && fresh log nx && (args.flatMap SW.cells).all (SC.lt nx)) = true)
  (he : chain Φ log ρ (fun ρ' => v.den ρ' noloc = res) = Pr) (ha : (args.map (SW.den ρ noloc)).toArray = as) (hp : Pr) (w : World) (p1 : Pins.n ≤ w.heap.size) (p2 : Pins.I w) :
  Calls P f as w fun e w' => e = .returned res ∧ RowKit.Below w.heap.size w w' := by
 simp only [Bool.and_eq_true] at hb
 rw [← ha]
 refine (way hC h (Q := fun x => x = res) (ρ := ρ) ?_ ?_ hb.2 w p1 p2).mono fun e w' ⟨x, h1, h2, h3⟩ => ⟨by rw [h1, h2], h3⟩
 ·rw [List.reverse_reverse]
  simp only [Bool.and_eq_true]
  exact hb.1
 ·rw [List.reverse_reverse, he]
  exact hp
end Go.Sx
namespace Go.Sx
set_option linter.unusedSectionVars false
variable [Pins]
set_option linter.unusedSimpArgs false
set_option linter.unusedVariables false
def Tr.Every {α : Type} (p : Nat → α → Prop) : Tr α → (Nat → Nat) → Prop
 | .e, _ => True
 | .n l v r, g => (match v with | some x => p (g 0) x | none => True) ∧ Tr.Every p l (fun k => g (2 * k + 1)) ∧ Tr.Every p r (fun k => g (2 * k + 2))
theorem Tr.every_get {α : Type} {p : Nat → α → Prop} : ∀ {t : Tr α} {g : Nat → Nat}, Tr.Every p t g → ∀ {k x}, t.get k = some x → p (g k) x
 | .e, g, _, k, x, h => by rw [Tr.get_e] at h; cases h
 | .n l v r, g, he, k, x, h => by
  obtain ⟨h1, h2, h3⟩ := he
  cases k with
  | zero =>
   simp only [Tr.get] at h
   subst h
   exact h1
  | succ k =>
   simp only [Tr.get] at h
   split at h
   ·rename_i hb
    rw [beq_mod_even] at hb
    have := Tr.every_get h2 h
    rwa [show 2 * (k / 2) + 1 = k + 1 by omega] at this
   ·rename_i hb
    simp only [beq_mod_even] at hb
    have := Tr.every_get h3 h
    rwa [show 2 * (k / 2) + 2 = k + 1 by omega] at this
def isStruct : TypeDesc → Bool
 | .struct _ => true
 | _ => false
def named : TypeDesc → Bool
 | .struct fs => fs.toList.all fun f => f.name != "_"
 | _ => true
theorem tyAt_mk {P : Program} {t : TypeId} {i u : TypeInfo} {s : Bool} (h1 : P.underlying t = some u.desc) (h2 : P.info? t = some i)
  (h3 : s = true → P.eqGuardType P.depth t = false ∧ (isStruct u.desc = true → P.stoodInHeld t = false) ∧ named u.desc = true) : TyAt P t (tiOf i u s) := by
 refine ⟨h1, ⟨i, h2, rfl, rfl, rfl⟩, fun fs hd => ?_, fun hs => ?_⟩
 ·have hd' : u.desc = .struct fs := hd
  simp only [tiOf, fieldsOf, hd']
 ·obtain ⟨a, b, c⟩ := h3 hs
  refine ⟨a, fun fs hd => ?_⟩
  have hd' : u.desc = .struct fs := hd
  rw [hd'] at b c
  refine ⟨b rfl, fun f hf => ?_⟩
  have := List.all_eq_true.1 c f (by simpa using hf)
  simpa using this
theorem tyAt_plain {P : Program} {t : TypeId} {i u : TypeInfo} (h1 : P.underlying t = some u.desc) (h2 : P.info? t = some i) : TyAt P t (tiOf i u false) :=
 tyAt_mk h1 h2 fun h => by cases h
theorem tyAt_safe {P : Program} {t : TypeId} {i u : TypeInfo} (h1 : P.underlying t = some u.desc) (h2 : P.info? t = some i) (h3 : P.eqGuardType P.depth t = false) (h4 : P.stoodInHeld t = false)
  (h5 : named u.desc = true) : TyAt P t (tiOf i u true) :=
 tyAt_mk h1 h2 fun _ => ⟨h3, fun _ => h4, h5⟩
theorem tyAt_array {P : Program} {t : TypeId} {i u : TypeInfo} (h1 : P.underlying t = some u.desc) (h2 : P.info? t = some i) (h3 : P.eqGuardType P.depth t = false) (h4 : isStruct u.desc = false)
  (h5 : named u.desc = true) : TyAt P t (tiOf i u true) :=
 tyAt_mk h1 h2 fun _ => ⟨h3, fun h => by (rw [h4] at h; cases h), h5⟩
theorem tysOk_mk {P : Program} {t : Tr TI} (h : Tr.Every (TyAt P) t (fun k => k)) : TysOk P t := fun _ _ hg => Tr.every_get h hg
theorem fnsOk_mk {P : Program} {t : Tr Func} (h : Tr.Every (fun f fn => P.funcs[f]? = some fn ∧ Callable P f) t (fun k => k)) : FnsOk P t := fun _ _ hg => Tr.every_get h hg
theorem sumsOk_e {P : Program} {Φ : Phi} : SumsOk P Φ .e := fun f s h => by rw [Tr.get_e] at h; cases h
theorem SumsOk.set {P : Program} {Φ : Phi} {t : Tr Sum} (h : SumsOk P Φ t) {f : Nat} {s : Sum} (hs : SumOk P Φ f s) : SumsOk P Φ (t.set f s) := fun g q hg => by
 rw [Tr.get_set] at hg
 split at hg
 ·rename_i e
  simp only [Option.some.injEq] at hg
  subst hg; subst e
  exact hs
 ·exact h g q hg
end Go.Sx
namespace Go.Sx
set_option linter.unusedSectionVars false
variable [Pins]
set_option linter.unusedSimpArgs false
set_option linter.unusedVariables false
def evRun (Φ : Phi) : List Ev → Env → Env
 | [], ρ => hi ρ
 | ev :: l, ρ => evRun Φ l (evSet Φ ρ ev)
def sides (Φ : Phi) : List Ev → Env → Prop
 | [], _ => True
 | ev :: l, ρ => evSide ρ ev ∧ sides Φ l (evSet Φ ρ ev)
theorem chain_iff (Φ : Phi) (Q : Env → Prop) : ∀ (l : List Ev) (ρ : Env), chain Φ l ρ Q ↔ sides Φ l ρ ∧ Q (evRun Φ l ρ)
 | [], ρ => by simp [chain, sides, evRun]
 | ev :: l, ρ => by simp only [chain, sides, evRun, chain_iff Φ Q l, and_assoc]
theorem sides_append (Φ : Phi) : ∀ (l m : List Ev) (ρ : Env), sides Φ (l ++ m) ρ ↔ sides Φ l ρ ∧ sides Φ m (evRun Φ l ρ)
 | [], m, ρ => by simp [sides, evRun]
 | ev :: l, m, ρ => by simp only [List.cons_append, sides, evRun, sides_append Φ l m, and_assoc]
theorem evRun_append (Φ : Phi) : ∀ (l m : List Ev) (ρ : Env), evRun Φ (l ++ m) ρ = evRun Φ m (evRun Φ l ρ)
 | [], m, ρ => rfl
 | ev :: l, m, ρ => by simp only [List.cons_append, evRun, evRun_append Φ l m]
def evAdv : Ev → Nat → Nat
 | .setI0 _ _, n => n + 1
 | .setB0 _ _, n => n + 1
 | .setS0 _ _, n => n + 1
 | .decB _ _, n => n
 | .decI _ _, n => n
 | .call _ _ _ ks, n => n + ks.length
def evsAdv : List Ev → Nat → Nat
 | [], n => n
 | e :: l, n => evsAdv l (evAdv e n)
theorem fresh_append : ∀ (l m : List Ev) (n : Nat), fresh (l ++ m) n = (fresh l n && fresh m (evsAdv l n))
 | [], m, n => by simp [fresh, evsAdv]
 | .setI0 x e :: l, m, n => by simp only [List.cons_append, fresh, evsAdv, evAdv, fresh_append l m, Bool.and_assoc]
 | .setB0 x e :: l, m, n => by simp only [List.cons_append, fresh, evsAdv, evAdv, fresh_append l m, Bool.and_assoc]
 | .setS0 x e :: l, m, n => by simp only [List.cons_append, fresh, evsAdv, evAdv, fresh_append l m, Bool.and_assoc]
 | .decB x e :: l, m, n => by simp only [List.cons_append, fresh, evsAdv, evAdv, fresh_append l m, Bool.and_assoc]
 | .decI x e :: l, m, n => by simp only [List.cons_append, fresh, evsAdv, evAdv, fresh_append l m, Bool.and_assoc]
 | .call f a x ks :: l, m, n => by simp only [List.cons_append, fresh, evsAdv, evAdv, fresh_append l m, Bool.and_assoc]
abbrev KT := Tr IntKind
def IA.in (T : KT) (k : IntKind) : IA → Bool
 | .lit n => decide (k.min ≤ n) && decide (n ≤ k.max)
 | .var x => match T.get x with
  | some k' => kindEq k' k
  | none => false
def IE.kind (T : KT) : IE → Option IntKind
 | .bin .rem k a _ => if a.in T k then some k else none
 | .bin .shr k a _ => if a.in T k then some k else none
 | .bin _ k _ _ => some k
 | .conv k _ => some k
 | .mn (.var x) b => match T.get x with
  | some k => if b.in T k then some k else none
  | none => none
 | .mx (.var x) b => match T.get x with
  | some k => if b.in T k then some k else none
  | none => none
 | .sat _ _ => some .u8
 | _ => none
def unsigned (k : IntKind) : Bool := decide (0 ≤ k.min)
def IA.nonneg (T : KT) : IA → Bool
 | .lit n => decide (0 ≤ n)
 | .var x => match T.get x with
  | some k => unsigned k
  | none => false
def IA.nonzero : IA → Bool
 | .lit n => !decide (n = 0)
 | .var _ => false
def IE.safe (T : KT) : IE → Bool
 | .bin .quo _ _ b => b.nonzero
 | .bin .rem _ _ b => b.nonzero
 | .bin .shl _ _ b => b.nonneg T
 | .bin .shr _ _ b => b.nonneg T
 | .sat _ _ => false
 | _ => true
def rkEq : RK → RK → Bool
 | .ri k, .ri k' => kindEq k k'
 | .rb, .rb => true
 | .rs, .rs => true
 | _, _ => false
def rksEq : List RK → List RK → Bool
 | [], [] => true
 | a :: l, b :: m => rkEq a b && rksEq l m
 | _, _ => false
def SC.typed (T : KT) : SC → Bool
 | .ivar k x => match T.get x with
  | some k' => kindEq k' k
  | none => false
 | _ => true
def ksSet : List RK → Nat → KT → KT
 | [], _, T => T
 | .ri k :: ks, x, T => ksSet ks (x + 1) (T.set x k)
 | _ :: ks, x, T => ksSet ks (x + 1) T
def evTy (sums : Tr Sum) (T : KT) (n : Nat) : Ev → Option (KT × Nat)
 | .setI0 x e => if Nat.beq x n && e.lt n then some (match e.kind T with | some k => T.set x k | none => T.del x, n + 1) else none
 | .setB0 x e => if Nat.beq x n && e.lt n then some (T, n + 1) else none
 | .setS0 x e => if Nat.beq x n && e.lt n then some (T, n + 1) else none
 | .call f a x ks =>
  match sums.get f with
  | some s => if Nat.beq x n && a.all (SC.lt n) && a.all (SC.typed T) && kindsSC (s.args.flatMap (·.2)) a && rksEq ks s.ks then some (ksSet ks x T, n + ks.length) else none
  | none => none
 | _ => none
def evsTy (sums : Tr Sum) : List Ev → KT → Nat → Option (KT × Nat)
 | [], T, n => some (T, n)
 | e :: l, T, n => match evTy sums T n e with
  | some p => evsTy sums l p.1 p.2
  | none => none
def Ev.safe (T : KT) : Ev → Bool
 | .setI0 _ e => e.safe T
 | .setS0 _ _ => false
 | _ => true
def tyOk (T : KT) (ρ : Env) : Prop := ∀ x k, T.get x = some k → IntKind.has k (ρ.i x)
def valKs : List RK → List Value → Nat → Env → Env
 | [], _, _, ρ => hi ρ
 | _ :: _, [], _, ρ => ρ
 | .ri _ :: ks, .int _ n :: vs, x, ρ => valKs ks vs (x + 1) (ρ.setI x n)
 | .rb :: ks, .bool b :: vs, x, ρ => valKs ks vs (x + 1) (ρ.setB x b)
 | .rs :: ks, .string s :: vs, x, ρ => valKs ks vs (x + 1) (ρ.setS x s)
 | _ :: ks, _ :: vs, x, ρ => valKs ks vs (x + 1) ρ
structure SumT (P : Program) (Φ : Phi) (f : Nat) (s : Sum) : Prop where
 ok : SumOk P Φ f s
 rng : ∀ vs, TypedCells (s.args.flatMap (·.2)) vs → ∀ j k, s.ks[j]? = some (.ri k) → IntKind.has k (Φ.i f vs j)
def SumsT (P : Program) (Φ : Phi) (sums : Tr Sum) : Prop := ∀ f s, sums.get f = some s → SumT P Φ f s
theorem wrap_has (k : IntKind) (n : Int) : IntKind.has k (k.wrap n) := by
 cases k <;> simp only [IntKind.has, IntKind.min, IntKind.max, IntKind.wrap, IntKind.bits, IntKind.signed] <;> simp <;> (try split) <;> omega
theorem zero_has (k : IntKind) : IntKind.has k 0 := by
 cases k <;> simp [IntKind.has, IntKind.min, IntKind.max, IntKind.bits, IntKind.signed]
theorem min_nonpos (k : IntKind) : k.min ≤ 0 := (zero_has k).1
theorem max_nonneg (k : IntKind) : 0 ≤ k.max := (zero_has k).2
theorem tmod_has {k : IntKind} {a : Int} (h : IntKind.has k a) (b : Int) : IntKind.has k (a.tmod b) := by
 have h1 := min_nonpos k
 have h2 := max_nonneg k
 obtain ⟨h3, h4⟩ := h
 have hn : (a.tmod b).natAbs ≤ a.natAbs := by
  rw [Int.natAbs_tmod]
  exact Nat.mod_le _ _
 rcases Int.le_total 0 a with ha | ha
 ·have := Int.tmod_nonneg b ha
  exact ⟨by omega, by omega⟩
 ·have : a.tmod b ≤ 0 := by
   have h5 := Int.tmod_nonneg b (a := -a) (by omega)
   rw [Int.neg_tmod] at h5
   omega
  exact ⟨by omega, by omega⟩
theorem fdiv_has {k : IntKind} {a : Int} (h : IntKind.has k a) (m : Nat) : IntKind.has k (a.fdiv (2 ^ m)) := by
 have h1 := min_nonpos k
 have h2 := max_nonneg k
 obtain ⟨h3, h4⟩ := h
 have hp : (0 : Int) < 2 ^ m := Int.pow_pos (by decide)
 rw [Int.fdiv_eq_ediv_of_nonneg _ (Int.le_of_lt hp)]
 rcases Int.le_total 0 a with ha | ha
 ·have h5 := Int.ediv_nonneg ha (Int.le_of_lt hp)
  have h6 := Int.ediv_le_self (2 ^ m) ha
  exact ⟨by omega, by omega⟩
 ·have h5 : a / 2 ^ m ≤ 0 := by
   have := Int.ediv_le_ediv hp ha
   simpa using this
  have h6 : a ≤ a / 2 ^ m := by
   rw [Int.le_ediv_iff_mul_le hp]
   have h7 : (1 : Int) ≤ 2 ^ m := hp
   have h8 : a * 2 ^ m ≤ a * 1 := Int.mul_le_mul_of_nonpos_left ha h7
   omega
  exact ⟨by omega, by omega⟩
theorem tyOk_setI {T : KT} {ρ : Env} (h : tyOk T ρ) {k : IntKind} {v : Int} (hv : IntKind.has k v) (x : Nat) : tyOk (T.set x k) (ρ.setI x v) := fun y k' hy => by
 rw [Tr.get_set] at hy
 simp only [Env.setI]
 by_cases e : y = x
 ·subst e
  simp only [if_true, Option.some.injEq] at hy
  subst hy
  simpa using hv
 ·rw [if_neg e] at hy
  have : Nat.beq y x = false := by
   cases hq : Nat.beq y x with
   | false => rfl
   | true => exact absurd (Nat.eq_of_beq_eq_true hq) e
  simp only [this]
  exact h y k' hy
theorem tyOk_delI {T : KT} {ρ : Env} (h : tyOk T ρ) (v : Int) (x : Nat) : tyOk (T.del x) (ρ.setI x v) := fun y k' hy => by
 rw [Tr.get_del] at hy
 simp only [Env.setI]
 by_cases e : y = x
 ·rw [if_pos e] at hy; cases hy
 ·rw [if_neg e] at hy
  have : Nat.beq y x = false := by
   cases hq : Nat.beq y x with
   | false => rfl
   | true => exact absurd (Nat.eq_of_beq_eq_true hq) e
  simp only [this]
  exact h y k' hy
theorem tyOk_setB {T : KT} {ρ : Env} (h : tyOk T ρ) (v : Bool) (x : Nat) : tyOk T (ρ.setB x v) := h
theorem tyOk_setS {T : KT} {ρ : Env} (h : tyOk T ρ) (v : ByteArray) (x : Nat) : tyOk T (ρ.setS x v) := h
theorem ksSet_ok {Φ : Phi} {f : Nat} {vs : List Value} : ∀ (ks : List RK) (x j : Nat) (T : KT) (ρ : Env),
  tyOk T ρ → (∀ i k, ks[i]? = some (.ri k) → IntKind.has k (Φ.i f vs (j + i))) → tyOk (ksSet ks x T) (callSet Φ f vs x j ks ρ)
 | [], x, j, T, ρ, h, _ => h
 | .ri k :: ks, x, j, T, ρ, h, hr => by
  simp only [ksSet, callSet]
  refine ksSet_ok ks _ _ _ _ (tyOk_setI h (hr 0 k rfl) x) fun i k' hi => ?_
  have := hr (i + 1) k' (by simpa using hi)
  rwa [show j + (i + 1) = j + 1 + i by omega] at this
 | .rb :: ks, x, j, T, ρ, h, hr => by
  simp only [ksSet, callSet]
  refine ksSet_ok ks _ _ _ _ (tyOk_setB h _ x) fun i k' hi => ?_
  have := hr (i + 1) k' (by simpa using hi)
  rwa [show j + (i + 1) = j + 1 + i by omega] at this
 | .rs :: ks, x, j, T, ρ, h, hr => by
  simp only [ksSet, callSet]
  refine ksSet_ok ks _ _ _ _ (tyOk_setS h _ x) fun i k' hi => ?_
  have := hr (i + 1) k' (by simpa using hi)
  rwa [show j + (i + 1) = j + 1 + i by omega] at this
 | .rl v :: ks, x, j, T, ρ, h, hr => by
  simp only [ksSet, callSet]
  refine ksSet_ok ks _ _ _ _ h fun i k' hi => ?_
  have := hr (i + 1) k' (by simpa using hi)
  rwa [show j + (i + 1) = j + 1 + i by omega] at this
theorem IA.in_ok {T : KT} {ρ : Env} (h : tyOk T ρ) {k : IntKind} {a : IA} (ha : a.in T k = true) : IntKind.has k (a.den ρ) := by
 cases a with
 | lit n => simpa [IA.in, IntKind.has, IA.den] using ha
 | var x =>
  simp only [IA.in] at ha
  split at ha
  ·rename_i k' hk
   rw [kindEq_true] at ha
   subst ha
   exact h x _ hk
  ·cases ha
theorem IE.kind_ok {T : KT} {ρ : Env} (h : tyOk T ρ) {k : IntKind} {e : IE} (he : e.kind T = some k) : IntKind.has k (e.den ρ) := by
 unfold IE.kind at he
 split at he
 ·split at he
  ·rename_i ha
   simp only [Option.some.injEq] at he
   subst he
   exact tmod_has (IA.in_ok h ha) _
  ·cases he
 ·split at he
  ·rename_i ha
   simp only [Option.some.injEq] at he
   subst he
   exact fdiv_has (IA.in_ok h ha) _
  ·cases he
 ·rename_i op k' a b h1 h2
  simp only [Option.some.injEq] at he
  subst he
  simp only [IE.den]
  cases op <;> simp only [ibin] <;> first | exact wrap_has _ _ | exact zero_has _ | exact absurd rfl (h1 _ _ _) | exact absurd rfl (h2 _ _ _) | skip
  ·exact (h1 rfl).elim
  ·exact (h2 rfl).elim
 ·simp only [Option.some.injEq] at he
  subst he
  exact wrap_has _ _
 ·split at he
  ·rename_i k' hk
   split at he
   ·rename_i hb
    simp only [Option.some.injEq] at he
    subst he
    simp only [IE.den]
    split
    ·exact IA.in_ok h hb
    ·exact h _ _ hk
   ·cases he
  ·cases he
 ·split at he
  ·rename_i k' hk
   split at he
   ·rename_i hb
    simp only [Option.some.injEq] at he
    subst he
    simp only [IE.den]
    split
    ·exact IA.in_ok h hb
    ·exact h _ _ hk
   ·cases he
  ·cases he
 ·simp only [Option.some.injEq] at he
  subst he
  rename_i a b
  refine ⟨?_, ?_⟩
  ·show (0 : Int) ≤ _
   simp only [IE.den]
   omega
  ·show _ ≤ (255 : Int)
   simp only [IE.den]
   have := (((a.den ρ).data.toList.getD (b.den ρ).toNat 0)).toNat_lt
   omega
 ·cases he
theorem IA.nonneg_ok {T : KT} {ρ : Env} (h : tyOk T ρ) {a : IA} (ha : a.nonneg T = true) : 0 ≤ a.den ρ := by
 cases a with
 | lit n => simpa [IA.nonneg, IA.den] using ha
 | var x =>
  simp only [IA.nonneg] at ha
  split at ha
  ·rename_i k hk
   have := (h x k hk).1
   simp only [unsigned, decide_eq_true_eq] at ha
   simp only [IA.den]
   omega
  ·cases ha
theorem IA.nonzero_ok {ρ : Env} {a : IA} (ha : a.nonzero = true) : a.den ρ ≠ 0 := by
 cases a with
 | lit n => simpa [IA.nonzero, IA.den] using ha
 | var x => cases ha
theorem SC.typed_ok {T : KT} {ρ : Env} (h : tyOk T ρ) {c : SC} (hc : c.typed T = true) : c.fits ρ := by
 cases c <;> simp only [SC.fits]
 simp only [SC.typed] at hc
 split at hc
 ·rename_i k' hk
  rw [kindEq_true] at hc
  subst hc
  exact h _ _ hk
 ·cases hc
theorem fitsAll_of {ρ : Env} : ∀ {l : List SC}, (∀ c ∈ l, c.fits ρ) → fitsAll ρ l
 | [], _ => trivial
 | c :: l, h => ⟨h c (List.mem_cons_self ..), fitsAll_of fun d hd => h d (List.mem_cons_of_mem _ hd)⟩
theorem Ev.safe_ok {T : KT} {ρ : Env} (h : tyOk T ρ) {x : Nat} {e : IE} (he : e.safe T = true) : evSide ρ (.setI0 x e) := by
 cases e with
 | bin op k a b =>
  cases op <;> simp only [evSide] <;> simp only [IE.safe] at he
  ·exact IA.nonzero_ok he
  ·exact IA.nonzero_ok he
  ·exact IA.nonneg_ok h he
  ·exact IA.nonneg_ok h he
 | sat s i => simp [IE.safe] at he
 | _ => trivial
theorem rksEq_ok : ∀ {l m : List RK}, rksEq l m = true → l = m
 | [], [], _ => rfl
 | a :: l, b :: m, h => by
  simp only [rksEq, Bool.and_eq_true] at h
  rw [rksEq_ok h.2]
  congr 1
  have h1 := h.1
  unfold rkEq at h1
  split at h1
  ·rw [kindEq_true] at h1; rw [h1]
  ·rfl
  ·rfl
  ·cases h1
 | [], _ :: _, h => by simp [rksEq] at h
 | _ :: _, [], h => by simp [rksEq] at h
theorem evTy_ok {P : Program} {Φ : Phi} {sums : Tr Sum} (hS : SumsT P Φ sums) {T T' : KT} {n n' : Nat} {e : Ev} (h : evTy sums T n e = some (T', n')) {ρ : Env} (ht : tyOk T ρ)
  (hs : e.safe T = false → evSide ρ e) : evSide ρ e ∧ tyOk T' (evSet Φ ρ e) ∧ ∀ l, fresh (e :: l) n = fresh l n' := by
 cases e with
 | setI0 x e =>
  simp only [evTy] at h
  split at h
  ·rename_i hc
   simp only [Option.some.injEq, Prod.mk.injEq] at h
   obtain ⟨rfl, rfl⟩ := h
   refine ⟨?_, ?_, fun l => by simp only [fresh, hc, Bool.true_and]⟩
   ·cases hsf : e.safe T with
    | true => exact Ev.safe_ok ht hsf
    | false => exact hs hsf
   ·simp only [evSet]
    split
    ·rename_i k hk
     exact tyOk_setI ht (IE.kind_ok ht hk) x
    ·exact tyOk_delI ht _ x
  ·cases h
 | setB0 x e =>
  simp only [evTy] at h
  split at h
  ·rename_i hc
   simp only [Option.some.injEq, Prod.mk.injEq] at h
   obtain ⟨rfl, rfl⟩ := h
   exact ⟨trivial, tyOk_setB ht _ x, fun l => by simp only [fresh, hc, Bool.true_and]⟩
  ·cases h
 | setS0 x e =>
  simp only [evTy] at h
  split at h
  ·rename_i hc
   simp only [Option.some.injEq, Prod.mk.injEq] at h
   obtain ⟨rfl, rfl⟩ := h
   exact ⟨hs rfl, tyOk_setS ht _ x, fun l => by simp only [fresh, hc, Bool.true_and]⟩
  ·cases h
 | decB x b => simp [evTy] at h
 | decI x b => simp [evTy] at h
 | call f a x ks =>
  simp only [evTy] at h
  split at h
  ·rename_i s hsum
   split at h
   ·rename_i hc
    simp only [Option.some.injEq, Prod.mk.injEq] at h
    obtain ⟨rfl, rfl⟩ := h
    simp only [Bool.and_eq_true] at hc
    obtain ⟨⟨⟨⟨c1, c2⟩, c3⟩, c4⟩, c5⟩ := hc
    have hfit : ∀ c ∈ a, c.fits ρ := fun c hm => SC.typed_ok ht (List.all_eq_true.1 c3 c hm)
    refine ⟨fitsAll_of hfit, ?_, fun l => by simp only [fresh, c1, c2, Bool.true_and]⟩
    have hk := rksEq_ok c5
    subst hk
    obtain ⟨_, _, h3⟩ := kindsSC_den c4 ρ hfit
    have h4 := h3 [] [] trivial
    simp only [List.append_nil] at h4
    exact ksSet_ok s.ks x 0 T ρ ht fun i k hi => by
     have := (hS f s hsum).rng _ h4 i k hi
     simpa using this
   ·cases h
  ·cases h
structure Fct where
 lo : Option Int
 hi : Option Int
 ne : List Int
structure FT where
 iv : Tr Fct
 df : Tr (BinOp × Nat × Int)
 bad : Bool
def FT.e : FT := ⟨.e, .e, false⟩
def Fct.Ok (f : Fct) (n : Int) : Prop := (∀ l, f.lo = some l → l ≤ n) ∧ (∀ h, f.hi = some h → n ≤ h) ∧ ∀ m ∈ f.ne, n ≠ m
def fct0 : Fct := ⟨none, none, []⟩
def Fct.atLeast (f : Fct) (n : Int) : Fct := match f.lo with
 | some l => if l < n then { f with lo := some n } else f
 | none => { f with lo := some n }
def Fct.atMost (f : Fct) (n : Int) : Fct := match f.hi with
 | some l => if n < l then { f with hi := some n } else f
 | none => { f with hi := some n }
def Fct.not (f : Fct) (n : Int) : Fct := { f with ne := n :: f.ne }
def eqI (a b : Int) : Bool := decide (a = b)
def memI (n : Int) : List Int → Bool
 | [] => false
 | m :: l => eqI n m || memI n l
def allIn (l : List Int) : Nat → Int → Bool
 | 0, _ => true
 | k + 1, n => memI n l && allIn l k (n + 1)
def Fct.bad (f : Fct) : Bool := match f.lo, f.hi with
 | some l, some h => if h < l then true else if (h - l).toNat + 1 ≤ f.ne.length then allIn f.ne ((h - l).toNat + 1) l else false
 | _, _ => false
theorem memI_iff {n : Int} : ∀ {l : List Int}, memI n l = true → n ∈ l
 | [], h => by cases h
 | m :: l, h => by
  simp only [memI, Bool.or_eq_true, eqI, decide_eq_true_eq] at h
  rcases h with rfl | h
  ·exact List.mem_cons_self ..
  ·exact List.mem_cons_of_mem _ (memI_iff h)
theorem allIn_mem {l : List Int} : ∀ {k : Nat} {n : Int}, allIn l k n = true → ∀ m, n ≤ m → m < n + k → m ∈ l
 | 0, n, _, m, h1, h2 => by omega
 | k + 1, n, h, m, h1, h2 => by
  simp only [allIn, Bool.and_eq_true] at h
  rcases Int.lt_or_eq_of_le h1 with h3 | rfl
  ·exact allIn_mem h.2 m (by omega) (by omega)
  ·exact memI_iff h.1
theorem Fct.bad_ok {f : Fct} (h : f.bad = true) {n : Int} (hn : f.Ok n) : False := by
 unfold Fct.bad at h
 split at h
 ·rename_i l hh h1 h2
  have a := hn.1 l h1
  have b := hn.2.1 hh h2
  split at h
  ·omega
  ·split at h
   ·exact hn.2.2 n (allIn_mem h n a (by omega)) rfl
   ·cases h
 ·cases h
theorem fct0_ok (n : Int) : fct0.Ok n := ⟨(fun _ h => nomatch h), (fun _ h => nomatch h), (fun _ h => nomatch h)⟩
theorem Fct.atLeast_ok {f : Fct} {x n : Int} (h : f.Ok x) (hn : n ≤ x) : (f.atLeast n).Ok x := by
 unfold Fct.atLeast
 split
 ·split
  ·exact ⟨fun l hl => by (simp only [Option.some.injEq] at hl; omega), h.2.1, h.2.2⟩
  ·exact h
 ·exact ⟨fun l hl => by (simp only [Option.some.injEq] at hl; omega), h.2.1, h.2.2⟩
theorem Fct.atMost_ok {f : Fct} {x n : Int} (h : f.Ok x) (hn : x ≤ n) : (f.atMost n).Ok x := by
 unfold Fct.atMost
 split
 ·split
  ·exact ⟨h.1, fun l hl => by (simp only [Option.some.injEq] at hl; omega), h.2.2⟩
  ·exact h
 ·exact ⟨h.1, fun l hl => by (simp only [Option.some.injEq] at hl; omega), h.2.2⟩
theorem Fct.not_ok {f : Fct} {x n : Int} (h : f.Ok x) (hn : x ≠ n) : (f.not n).Ok x :=
 ⟨h.1, h.2.1, fun m hm => by
  rcases List.mem_cons.1 hm with rfl | hm
  ·exact hn
  ·exact h.2.2 m hm⟩
def Fct.cmp (f : Fct) (op : BinOp) (b : Bool) (n : Int) : Fct :=
 match op, b with
 | .eql, true => (f.atLeast n).atMost n
 | .neq, false => (f.atLeast n).atMost n
 | .eql, false => f.not n
 | .neq, true => f.not n
 | .lss, true => f.atMost (n - 1)
 | .geq, false => f.atMost (n - 1)
 | .lss, false => f.atLeast n
 | .geq, true => f.atLeast n
 | .gtr, true => f.atLeast (n + 1)
 | .leq, false => f.atLeast (n + 1)
 | .gtr, false => f.atMost n
 | .leq, true => f.atMost n
 | _, _ => f
theorem Fct.cmp_ok {f : Fct} {op : BinOp} {b : Bool} {n x : Int} (h : f.Ok x) (hb : icmp op x n = b) : (f.cmp op b n).Ok x := by
 unfold Fct.cmp
 split <;> simp [icmp] at hb
 ·exact Fct.atMost_ok (Fct.atLeast_ok h (by omega)) (by omega)
 ·exact Fct.atMost_ok (Fct.atLeast_ok h (by omega)) (by omega)
 ·exact Fct.not_ok h hb
 ·exact Fct.not_ok h hb
 ·exact Fct.atMost_ok h (by omega)
 ·exact Fct.atMost_ok h (by omega)
 ·exact Fct.atLeast_ok h (by omega)
 ·exact Fct.atLeast_ok h (by omega)
 ·exact Fct.atLeast_ok h (by omega)
 ·exact Fct.atLeast_ok h (by omega)
 ·exact Fct.atMost_ok h (by omega)
 ·exact Fct.atMost_ok h (by omega)
 ·exact h
def FT.fct (F : FT) (x : Nat) : Fct := (F.iv.get x).getD fct0
def FT.put (F : FT) (x : Nat) (f : Fct) : FT := { F with iv := F.iv.set x f, bad := F.bad || f.bad }
def FT.asB (F : FT) (x : Nat) (b : Bool) : FT := match F.df.get x with
 | some (op, a, n) => F.put a ((F.fct a).cmp op b n)
 | none => F
def FT.asI (F : FT) (x : Nat) (n : Int) (b : Bool) : FT := F.put x ((F.fct x).cmp .eql b n)
def flipOp : BinOp → BinOp
 | .lss => .gtr
 | .gtr => .lss
 | .leq => .geq
 | .geq => .leq
 | o => o
def isCmp : BinOp → Bool
 | .eql | .neq | .lss | .leq | .gtr | .geq => true
 | _ => false
theorem icmp_flip {op : BinOp} (h : isCmp op = true) (a b : Int) : icmp op a b = icmp (flipOp op) b a := by
 cases op <;> simp [isCmp] at h <;> simp only [icmp, flipOp]
 ·exact BEq.comm
 ·simp only [bne, BEq.comm]
 all_goals rfl
def evFT (F : FT) (n : Nat) : Ev → FT
 | .setB0 x (.cmp op (.var a) (.lit m)) => if isCmp op && Nat.blt a n then { F with df := F.df.set x (op, a, m) } else F
 | .setB0 x (.cmp op (.lit m) (.var a)) => if isCmp op && Nat.blt a n then { F with df := F.df.set x (flipOp op, a, m) } else F
 | _ => F
def evsFT (F : FT) : Nat → List Ev → FT
 | _, [] => F
 | n, e :: l => evsFT (evFT F n e) (evAdv e n) l
structure FOk (F : FT) (n : Nat) (ρ : Env) : Prop where
 iv : ∀ x f, F.iv.get x = some f → x < n ∧ f.Ok (ρ.i x)
 df : ∀ x op a m, F.df.get x = some (op, a, m) → x < n ∧ a < n ∧ ρ.b x = icmp op (ρ.i a) m
 bad : F.bad = true → False
theorem FOk.e (n : Nat) (ρ : Env) : FOk .e n ρ := ⟨fun x f h => (by rw [show FT.e.iv = Tr.e from rfl, Tr.get_e] at h; cases h), fun x op a m h => (by rw [show FT.e.df = Tr.e from rfl, Tr.get_e] at h; cases h), fun h => by cases h⟩
theorem FOk.like {F : FT} {n m : Nat} {ρ ρ' : Env} (h : FOk F n ρ) (hl : Env.like n ρ ρ') (hm : n ≤ m) : FOk F m ρ' :=
 ⟨fun x f hx => by
  obtain ⟨a, b⟩ := h.iv x f hx
  exact ⟨by omega, by rw [(hl x a).1]; exact b⟩, fun x op a k hx => by
  obtain ⟨h1, h2, h3⟩ := h.df x op a k hx
  exact ⟨by omega, by omega, by rw [(hl x h1).2.1, (hl a h2).1]; exact h3⟩, h.bad⟩
theorem FOk.fct {F : FT} {n : Nat} {ρ : Env} (h : FOk F n ρ) (x : Nat) : (F.fct x).Ok (ρ.i x) := by
 unfold FT.fct
 cases hx : F.iv.get x with
 | none => exact fct0_ok _
 | some f => exact (h.iv x f hx).2
theorem FOk.put {F : FT} {n : Nat} {ρ : Env} (h : FOk F n ρ) {x : Nat} (hx : x < n) {f : Fct} (hf : f.Ok (ρ.i x)) : FOk (F.put x f) n ρ :=
 ⟨fun y g hy => by
  simp only [FT.put, Tr.get_set] at hy
  split at hy
  ·rename_i e
   subst e
   simp only [Option.some.injEq] at hy
   subst hy
   exact ⟨hx, hf⟩
  ·exact h.iv y g hy, h.df, fun hb => by
  simp only [FT.put, Bool.or_eq_true] at hb
  rcases hb with hb | hb
  ·exact h.bad hb
  ·exact Fct.bad_ok hb hf⟩
theorem FOk.asB {F : FT} {n : Nat} {ρ : Env} (h : FOk F n ρ) {x : Nat} {b : Bool} (hb : ρ.b x = b) : FOk (F.asB x b) n ρ := by
 unfold FT.asB
 split
 ·rename_i op a m hd
  obtain ⟨h1, h2, h3⟩ := h.df x op a m hd
  exact h.put h2 (Fct.cmp_ok (h.fct a) (by rw [← h3]; exact hb))
 ·exact h
theorem FOk.asI {F : FT} {n : Nat} {ρ : Env} (h : FOk F n ρ) {x : Nat} (hx : x < n) {m : Int} {b : Bool} (hb : decide (ρ.i x = m) = b) : FOk (F.asI x m b) n ρ := by
 refine h.put hx (Fct.cmp_ok (h.fct x) ?_)
 rw [← hb]
 rfl
theorem evTy_like {Φ : Phi} {sums : Tr Sum} {T T' : KT} {n n' : Nat} {e : Ev} (h : evTy sums T n e = some (T', n')) (ρ : Env) : Env.like n ρ (evSet Φ ρ e) ∧ n' = evAdv e n ∧ n ≤ n' := by
 cases e with
 | setI0 x e =>
  simp only [evTy] at h
  split at h
  ·rename_i hc
   simp only [Option.some.injEq, Prod.mk.injEq, Bool.and_eq_true] at h hc
   have hx : x = n := by simpa using hc.1
   subst hx
   exact ⟨like_setI _ _ _, h.2.symm, by omega⟩
  ·cases h
 | setB0 x e =>
  simp only [evTy] at h
  split at h
  ·rename_i hc
   simp only [Option.some.injEq, Prod.mk.injEq, Bool.and_eq_true] at h hc
   have hx : x = n := by simpa using hc.1
   subst hx
   exact ⟨like_setB _ _ _, h.2.symm, by omega⟩
  ·cases h
 | setS0 x e =>
  simp only [evTy] at h
  split at h
  ·rename_i hc
   simp only [Option.some.injEq, Prod.mk.injEq, Bool.and_eq_true] at h hc
   have hx : x = n := by simpa using hc.1
   subst hx
   exact ⟨like_setS _ _ _, h.2.symm, by omega⟩
  ·cases h
 | decB x b => simp [evTy] at h
 | decI x b => simp [evTy] at h
 | call f a x ks =>
  simp only [evTy] at h
  split at h
  ·split at h
   ·rename_i hc
    simp only [Option.some.injEq, Prod.mk.injEq, Bool.and_eq_true] at h hc
    have hx : x = n := by simpa using hc.1.1.1.1
    subst hx
    exact ⟨callSet_like _ _ _ _ _ _ _, h.2.symm, by omega⟩
   ·cases h
  ·cases h
theorem evFT_ok {Φ : Phi} {sums : Tr Sum} {T T' : KT} {n n' : Nat} {e : Ev} (h : evTy sums T n e = some (T', n')) {F : FT} {ρ : Env} (hf : FOk F n ρ) : FOk (evFT F n e) n' (evSet Φ ρ e) := by
 obtain ⟨hl, hn, hle⟩ := evTy_like (Φ := Φ) h ρ
 have h0 := hf.like hl hle
 have hx : ∀ x (be : BE), e = .setB0 x be → x = n ∧ n' = n + 1 ∧ (evSet Φ ρ e).b x = be.den ρ := fun x be he => by
  subst he
  simp only [evTy] at h
  split at h
  ·rename_i hc
   simp only [Option.some.injEq, Prod.mk.injEq, Bool.and_eq_true] at h hc
   have hx : x = n := by simpa using hc.1
   exact ⟨hx, h.2.symm, by simp [evSet, Env.setB]⟩
  ·cases h
 unfold evFT
 split
 ·rename_i x op a m
  split
  ·rename_i hc
   simp only [Bool.and_eq_true] at hc
   have ha : a < n := by simpa using hc.2
   obtain ⟨e1, e2, e3⟩ := hx x _ rfl
   refine ⟨h0.iv, fun y op' a' m' hy => ?_, h0.bad⟩
   simp only [Tr.get_set] at hy
   split at hy
   ·rename_i e
    subst e
    simp only [Option.some.injEq, Prod.mk.injEq] at hy
    obtain ⟨rfl, rfl, rfl⟩ := hy
    refine ⟨by omega, by omega, ?_⟩
    rw [e3, (hl _ ha).1]
    rfl
   ·exact h0.df y op' a' m' hy
  ·exact h0
 ·rename_i x op m a
  split
  ·rename_i hc
   simp only [Bool.and_eq_true] at hc
   have ha : a < n := by simpa using hc.2
   obtain ⟨e1, e2, e3⟩ := hx x _ rfl
   refine ⟨h0.iv, fun y op' a' m' hy => ?_, h0.bad⟩
   simp only [Tr.get_set] at hy
   split at hy
   ·rename_i e
    subst e
    simp only [Option.some.injEq, Prod.mk.injEq] at hy
    obtain ⟨rfl, rfl, rfl⟩ := hy
    refine ⟨by omega, by omega, ?_⟩
    rw [e3, (hl _ ha).1]
    exact icmp_flip hc.1 m (ρ.i _)
   ·exact h0.df y op' a' m' hy
  ·exact h0
 ·exact h0
theorem evsFT_ok {P : Program} {Φ : Phi} {sums : Tr Sum} : ∀ (l : List Ev) {T T' : KT} {n n' : Nat}, evsTy sums l T n = some (T', n') → ∀ {F : FT} {ρ : Env}, FOk F n ρ → FOk (evsFT F n l) n' (evRun Φ l ρ)
 | [], T, T', n, n', h, F, ρ, hf => by
  simp only [evsTy, Option.some.injEq, Prod.mk.injEq] at h
  obtain ⟨rfl, rfl⟩ := h
  exact hf
 | e :: l, T, T', n, n', h, F, ρ, hf => by
  simp only [evsTy] at h
  split at h
  ·rename_i p hp
   obtain ⟨T1, n1⟩ := p
   have h1 := evFT_ok (Φ := Φ) hp hf
   obtain ⟨_, h2, _⟩ := evTy_like (Φ := Φ) hp ρ
   subst h2
   exact evsFT_ok (P := P) l h h1
  ·cases h
inductive LT where
 | leaf (evs : List Ev) (v : SV)
 | nb (evs : List Ev) (x : Nat) (t f : LT)
 | ni (evs : List Ev) (x : Nat) (n : Int) (y m : LT)
 | dead (evs : List Ev)
 | sure (evs : List Ev) (x : Nat) (b : Bool) (t : LT)
def LT.Ok (run : List D → R (SV × St)) : LT → List D → List Ev → Prop
 | .leaf evs v, ds, log => ans (run ds.reverse) = some (v, evs.reverseAux log)
 | .nb evs x t f, ds, log => t.Ok run (.db true :: ds) (.decB x true :: evs.reverseAux log) ∧ f.Ok run (.db false :: ds) (.decB x false :: evs.reverseAux log)
 | .ni evs x n y m, ds, log => y.Ok run (.di n :: ds) (.decI x n :: evs.reverseAux log) ∧ m.Ok run ds (evs.reverseAux log)
 | .dead _, _, _ => True
 | .sure evs x b t, ds, log => t.Ok run (.db b :: ds) (.decB x b :: evs.reverseAux log)
section
variable {run : List D → R (SV × St)} {ds : List D} {log : List Ev}
theorem LT.ok_leaf {evs : List Ev} {v : SV} (h : ans (run ds.reverse) = some (v, evs.reverseAux log)) : (LT.leaf evs v).Ok run ds log := h
theorem LT.ok_nb {evs : List Ev} {x : Nat} {t f : LT} (h1 : t.Ok run (.db true :: ds) (.decB x true :: evs.reverseAux log)) (h2 : f.Ok run (.db false :: ds) (.decB x false :: evs.reverseAux log)) : (LT.nb evs x t f).Ok run ds log := ⟨h1, h2⟩
theorem LT.ok_ni {evs : List Ev} {x : Nat} {n : Int} {t f : LT} (h1 : t.Ok run (.di n :: ds) (.decI x n :: evs.reverseAux log)) (h2 : f.Ok run ds (evs.reverseAux log)) : (LT.ni evs x n t f).Ok run ds log := ⟨h1, h2⟩
theorem LT.ok_dead {evs : List Ev} : (LT.dead evs).Ok run ds log := trivial
theorem LT.ok_sure {evs : List Ev} {x : Nat} {b : Bool} {t : LT} (h1 : t.Ok run (.db b :: ds) (.decB x b :: evs.reverseAux log)) : (LT.sure evs x b t).Ok run ds log := h1
end
def SV.parts : SV → List SW
 | .w x => [x]
 | .tup xs => xs
def SV.flat (v : SV) : List SC := v.parts.flatMap SW.cells
def shapeFit : List (Bool × Nat) → List SW → Bool
 | [], [] => true
 | (true, n) :: sh, .agg xs :: l => Nat.beq xs.length n && shapeFit sh l
 | (false, _) :: sh, .c _ :: l => shapeFit sh l
 | _, _ => false
def tupFit (s : Sum) : SV → Bool
 | .w x => !s.tup && shapeFit s.shape [x]
 | .tup xs => s.tup && shapeFit s.shape xs
def leafOk (s : Sum) (T : KT) (v : SV) : Bool := tupFit s v && kindsSC s.ks v.flat && v.flat.all (SC.typed T)
def LT.chk (sums : Tr Sum) (s : Sum) : LT → KT → Nat → Bool
 | .leaf evs v, T, n => match evsTy sums evs T n with
  | some p => leafOk s p.1 v
  | none => false
 | .nb evs x t f, T, n => match evsTy sums evs T n with
  | some p => Nat.blt x p.2 && t.chk sums s p.1 p.2 && f.chk sums s p.1 p.2
  | none => false
 | .ni evs x _ t f, T, n => match evsTy sums evs T n with
  | some p => Nat.blt x p.2 && t.chk sums s p.1 p.2 && f.chk sums s p.1 p.2
  | none => false
 | .dead evs, T, n => (evsTy sums evs T n).isSome
 | .sure evs x _ t, T, n => match evsTy sums evs T n with
  | some p => Nat.blt x p.2 && t.chk sums s p.1 p.2
  | none => false
def kt (o : Option (KT × Nat)) : KT := match o with | some p => p.1 | none => .e
def kn (o : Option (KT × Nat)) : Nat := match o with | some p => p.2 | none => 0
def segObl (Φ : Phi) (sums : Tr Sum) (K : Prop → Prop) : List Ev → KT → Nat → Env → List Prop
 | [], _, _, _ => []
 | e :: l, T, n, ρ =>
  let o := evTy sums T n e
  if e.safe T then segObl Φ sums K l (kt o) (kn o) (evSet Φ ρ e)
  else K (evSide ρ e) :: segObl Φ sums K l (kt o) (kn o) (evSet Φ ρ e)
def LT.obl (Φ : Phi) (sums : Tr Sum) : LT → (Prop → Prop) → KT → Nat → FT → Env → List Prop
 | .leaf evs _, K, T, n, F, ρ => segObl Φ sums K evs T n ρ
 | .nb evs x t f, K, T, n, F, ρ =>
  let o := evsTy sums evs T n
  let F := evsFT F n evs
  segObl Φ sums K evs T n ρ ++ (t.obl Φ sums (fun p => K ((evRun Φ evs ρ).b x = true → p)) (kt o) (kn o) (F.asB x true) (evRun Φ evs ρ)
   ++ f.obl Φ sums (fun p => K ((evRun Φ evs ρ).b x = false → p)) (kt o) (kn o) (F.asB x false) (evRun Φ evs ρ))
 | .ni evs x i t f, K, T, n, F, ρ =>
  let o := evsTy sums evs T n
  let F := evsFT F n evs
  segObl Φ sums K evs T n ρ ++ (t.obl Φ sums (fun p => K ((evRun Φ evs ρ).i x = i → p)) (kt o) (kn o) (F.asI x i true) (evRun Φ evs ρ)
   ++ f.obl Φ sums (fun p => K ((evRun Φ evs ρ).i x ≠ i → p)) (kt o) (kn o) (F.asI x i false) (evRun Φ evs ρ))
 | .dead evs, K, T, n, F, ρ => if F.bad then [] else segObl Φ sums K evs T n ρ ++ [K False]
 | .sure evs x b t, K, T, n, F, ρ =>
  let o := evsTy sums evs T n
  let F := evsFT F n evs
  segObl Φ sums K evs T n ρ ++ ((evRun Φ evs ρ).b x = b) :: t.obl Φ sums K (kt o) (kn o) (F.asB x b) (evRun Φ evs ρ)
def SC.vi (ρ : Env) : SC → Int
 | .lit (.int _ n) => n
 | .ivar _ x => ρ.i x
 | _ => hi 0
def SC.vb (ρ : Env) : SC → Bool
 | .lit (.bool b) => b
 | .bvar x neg => turn neg (ρ.b x)
 | _ => hi false
def SC.vs (ρ : Env) : SC → ByteArray
 | .lit (.string s) => s
 | .svar x => ρ.s x
 | _ => hi .empty
def nthC (l : List SC) (j : Nat) : SC := (l[j]?).getD (.lit undef)
def LT.get {α : Type} (Φ : Phi) (g : Env → SC → α) (d : α) (j : Nat) : LT → Env → α
 | .leaf evs v, ρ => g (evRun Φ evs ρ) (nthC v.flat j)
 | .nb evs x t f, ρ => cond ((evRun Φ evs ρ).b x) (t.get Φ g d j (evRun Φ evs ρ)) (f.get Φ g d j (evRun Φ evs ρ))
 | .ni evs x n t f, ρ => cond (decide ((evRun Φ evs ρ).i x = n)) (t.get Φ g d j (evRun Φ evs ρ)) (f.get Φ g d j (evRun Φ evs ρ))
 | .dead _, _ => d
 | .sure evs x b t, ρ => t.get Φ g d j (evRun Φ evs ρ)
def LT.vi (Φ : Phi) (t : LT) (j : Nat) (ρ : Env) : Int := t.get Φ SC.vi 0 j ρ
def LT.vb (Φ : Phi) (t : LT) (j : Nat) (ρ : Env) : Bool := t.get Φ SC.vb false j ρ
def LT.vs (Φ : Phi) (t : LT) (j : Nat) (ρ : Env) : ByteArray := t.get Φ SC.vs .empty j ρ
def LT.at (Φ : Phi) : LT → Env → Option (SV × Env)
 | .leaf evs v, ρ => some (v, evRun Φ evs ρ)
 | .nb evs x t f, ρ => cond ((evRun Φ evs ρ).b x) (t.at Φ (evRun Φ evs ρ)) (f.at Φ (evRun Φ evs ρ))
 | .ni evs x n t f, ρ => cond (decide ((evRun Φ evs ρ).i x = n)) (t.at Φ (evRun Φ evs ρ)) (f.at Φ (evRun Φ evs ρ))
 | .dead _, _ => none
 | .sure evs x b t, ρ => t.at Φ (evRun Φ evs ρ)
theorem LT.get_at {α : Type} (Φ : Phi) (g : Env → SC → α) (d : α) (j : Nat) : ∀ (t : LT) (ρ : Env) {v : SV} {ρ' : Env}, t.at Φ ρ = some (v, ρ') → t.get Φ g d j ρ = g ρ' (nthC v.flat j)
 | .leaf evs v, ρ, v', ρ', h => by
  simp only [LT.at, Option.some.injEq, Prod.mk.injEq] at h
  obtain ⟨rfl, rfl⟩ := h
  rfl
 | .nb evs x t f, ρ, v', ρ', h => by
  simp only [LT.at] at h
  simp only [LT.get]
  cases hb : (evRun Φ evs ρ).b x with
  | true => rw [hb] at h; exact LT.get_at Φ g d j t _ h
  | false => rw [hb] at h; exact LT.get_at Φ g d j f _ h
 | .ni evs x n t f, ρ, v', ρ', h => by
  simp only [LT.at] at h
  simp only [LT.get]
  cases hb : decide ((evRun Φ evs ρ).i x = n) with
  | true => rw [hb] at h; exact LT.get_at Φ g d j t _ h
  | false => rw [hb] at h; exact LT.get_at Φ g d j f _ h
 | .dead _, ρ, v', ρ', h => by simp [LT.at] at h
 | .sure evs x b t, ρ, v', ρ', h => by
  simp only [LT.at] at h
  exact LT.get_at Φ g d j t _ h
theorem segObl_ok {P : Program} {Φ : Phi} {sums : Tr Sum} (hS : SumsT P Φ sums) {K : Prop → Prop} (hK : ∀ p, K p → p) : ∀ (l : List Ev) (T T' : KT) (n n' : Nat) (ρ : Env),
  evsTy sums l T n = some (T', n') → tyOk T ρ → (∀ p ∈ segObl Φ sums K l T n ρ, p) → sides Φ l ρ ∧ tyOk T' (evRun Φ l ρ) ∧ (∀ m, fresh (l ++ m) n = fresh m n')
 | [], T, T', n, n', ρ, h, ht, _ => by
  simp only [evsTy, Option.some.injEq, Prod.mk.injEq] at h
  obtain ⟨rfl, rfl⟩ := h
  exact ⟨trivial, ht, fun m => rfl⟩
 | e :: l, T, T', n, n', ρ, h, ht, ho => by
  simp only [evsTy] at h
  split at h
  ·rename_i p hp
   obtain ⟨T1, n1⟩ := p
   have hs : e.safe T = false → evSide ρ e := fun hf => by
    simp only [segObl, hf, Bool.false_eq_true, if_false] at ho
    exact hK _ (ho _ (List.mem_cons_self ..))
   obtain ⟨h1, h2, h3⟩ := evTy_ok hS hp ht hs
   have ho' : ∀ p ∈ segObl Φ sums K l T1 n1 (evSet Φ ρ e), p := fun p hm => by
    refine ho p ?_
    simp only [segObl, hp, kt, kn]
    split
    ·exact hm
    ·exact List.mem_cons_of_mem _ hm
   obtain ⟨h4, h5, h6⟩ := segObl_ok hS hK l T1 T' n1 n' _ h h2 ho'
   exact ⟨⟨h1, h4⟩, h5, fun m => by rw [List.cons_append, h3, h6]⟩
  ·cases h
theorem fresh_decB (x : Nat) (b : Bool) (l : List Ev) (n : Nat) : fresh (.decB x b :: l) n = (Nat.blt x n && fresh l n) := rfl
theorem LT.path {P : Program} {Φ : Phi} {sums : Tr Sum} (hS : SumsT P Φ sums) {s : Sum} {run : List D → R (SV × St)} (ρ0 : Env) (n0 : Nat) : ∀ (t : LT) (ds : List D) (log : List Ev) (K : Prop → Prop) (T : KT) (n : Nat) (F : FT) (ρ : Env),
  t.Ok run ds log → t.chk sums s T n = true → (∀ p, K p → p) → (∀ p ∈ t.obl Φ sums K T n F ρ, p) → tyOk T ρ → FOk F n ρ →
  sides Φ log.reverse ρ0 → evRun Φ log.reverse ρ0 = ρ → (∀ m, fresh (log.reverse ++ m) n0 = fresh m n) →
  ∃ ds' v log' ρ' T', ans (run ds') = some (v, log') ∧ sides Φ log'.reverse ρ0 ∧ evRun Φ log'.reverse ρ0 = ρ' ∧ fresh log'.reverse n0 = true ∧ t.at Φ ρ = some (v, ρ') ∧ leafOk s T' v = true ∧ tyOk T' ρ'
 | .leaf evs v, ds, log, K, T, n, F, ρ, hok, hc, hK, ho, ht, hF, h1, h2, h3 => by
  simp only [LT.chk] at hc
  split at hc
  ·rename_i p hp
   obtain ⟨T', n'⟩ := p
   obtain ⟨a, b, c⟩ := segObl_ok hS hK evs T T' n n' ρ hp ht ho
   refine ⟨ds.reverse, v, evs.reverseAux log, evRun Φ evs ρ, T', hok, ?_, ?_, ?_, rfl, hc, b⟩
   ·rw [List.reverseAux_eq, List.reverse_append, List.reverse_reverse, sides_append]
    exact ⟨h1, by rw [h2]; exact a⟩
   ·rw [List.reverseAux_eq, List.reverse_append, List.reverse_reverse, evRun_append, h2]
   ·rw [List.reverseAux_eq, List.reverse_append, List.reverse_reverse, h3]
    have := c []
    rw [List.append_nil] at this
    rw [this]
    rfl
  ·cases hc
 | .nb evs x t f, ds, log, K, T, n, F, ρ, hok, hc, hK, ho, ht, hF, h1, h2, h3 => by
  simp only [LT.chk] at hc
  split at hc
  ·rename_i p hp
   obtain ⟨T', n'⟩ := p
   simp only [Bool.and_eq_true] at hc
   simp only [LT.obl, hp, kt, kn] at ho
   have hF' := evsFT_ok (P := P) (Φ := Φ) evs hp hF
   obtain ⟨a, b, c⟩ := segObl_ok hS hK evs T T' n n' ρ hp ht (fun p hm => ho p (List.mem_append.2 (.inl hm)))
   have e1 : ∀ d, sides Φ (Ev.decB x d :: evs.reverseAux log).reverse ρ0 ↔ (evRun Φ evs ρ).b x = d := fun d => by
    rw [List.reverse_cons, List.reverseAux_eq, List.reverse_append, List.reverse_reverse, sides_append, sides_append, evRun_append, h2]
    simp only [sides, evSide, h1, a, and_true, true_and]
   have e2 : ∀ d, evRun Φ (Ev.decB x d :: evs.reverseAux log).reverse ρ0 = evRun Φ evs ρ := fun d => by
    rw [List.reverse_cons, List.reverseAux_eq, List.reverse_append, List.reverse_reverse, evRun_append, evRun_append, h2]
    rfl
   have e3 : ∀ d m, fresh ((Ev.decB x d :: evs.reverseAux log).reverse ++ m) n0 = fresh m n' := fun d m => by
    rw [List.reverse_cons, List.reverseAux_eq, List.reverse_append, List.reverse_reverse, List.append_assoc, List.append_assoc, h3, c]
    simp only [List.singleton_append, fresh, hc.1.1, Bool.true_and]
   cases hb : (evRun Φ evs ρ).b x with
   | true =>
    obtain ⟨ds', v, log', ρ', T2, r⟩ := LT.path hS ρ0 n0 t _ _ (fun p => K ((evRun Φ evs ρ).b x = true → p)) T' n' ((evsFT F n evs).asB x true) (evRun Φ evs ρ) hok.1 hc.1.2 (fun p hp => hK _ hp hb) (fun p hm => ho p (List.mem_append.2 (.inr (List.mem_append.2 (.inl hm))))) b (hF'.asB hb) ((e1 true).2 hb) (e2 true) (e3 true)
    exact ⟨ds', v, log', ρ', T2, by simpa only [LT.at, hb, cond_true] using r⟩
   | false =>
    obtain ⟨ds', v, log', ρ', T2, r⟩ := LT.path hS ρ0 n0 f _ _ (fun p => K ((evRun Φ evs ρ).b x = false → p)) T' n' ((evsFT F n evs).asB x false) (evRun Φ evs ρ) hok.2 hc.2 (fun p hp => hK _ hp hb) (fun p hm => ho p (List.mem_append.2 (.inr (List.mem_append.2 (.inr hm))))) b (hF'.asB hb) ((e1 false).2 hb) (e2 false) (e3 false)
    exact ⟨ds', v, log', ρ', T2, by simpa only [LT.at, hb, cond_false] using r⟩
  ·cases hc
 | .ni evs x i t f, ds, log, K, T, n, F, ρ, hok, hc, hK, ho, ht, hF, h1, h2, h3 => by
  simp only [LT.chk] at hc
  split at hc
  ·rename_i p hp
   obtain ⟨T', n'⟩ := p
   simp only [Bool.and_eq_true] at hc
   simp only [LT.obl, hp, kt, kn] at ho
   have hF' := evsFT_ok (P := P) (Φ := Φ) evs hp hF
   obtain ⟨a, b, c⟩ := segObl_ok hS hK evs T T' n n' ρ hp ht (fun p hm => ho p (List.mem_append.2 (.inl hm)))
   have e0 : sides Φ (evs.reverseAux log).reverse ρ0 := by
    rw [List.reverseAux_eq, List.reverse_append, List.reverse_reverse, sides_append, h2]
    exact ⟨h1, a⟩
   have e2' : evRun Φ (evs.reverseAux log).reverse ρ0 = evRun Φ evs ρ := by
    rw [List.reverseAux_eq, List.reverse_append, List.reverse_reverse, evRun_append, h2]
   have e3' : ∀ m, fresh ((evs.reverseAux log).reverse ++ m) n0 = fresh m n' := fun m => by
    rw [List.reverseAux_eq, List.reverse_append, List.reverse_reverse, List.append_assoc, h3, c]
   have e1 : ∀ d, sides Φ (Ev.decI x d :: evs.reverseAux log).reverse ρ0 ↔ (evRun Φ evs ρ).i x = d := fun d => by
    rw [List.reverse_cons, sides_append, e2']
    simp only [sides, evSide, e0, and_true, true_and]
   have e2 : ∀ d, evRun Φ (Ev.decI x d :: evs.reverseAux log).reverse ρ0 = evRun Φ evs ρ := fun d => by
    rw [List.reverse_cons, evRun_append, e2']
    rfl
   have e3 : ∀ d m, fresh ((Ev.decI x d :: evs.reverseAux log).reverse ++ m) n0 = fresh m n' := fun d m => by
    rw [List.reverse_cons, List.append_assoc, e3']
    simp only [List.singleton_append, fresh, hc.1.1, Bool.true_and]
   by_cases hb : (evRun Φ evs ρ).i x = i
   ·obtain ⟨ds', v, log', ρ', T2, r⟩ := LT.path hS ρ0 n0 t _ _ (fun p => K ((evRun Φ evs ρ).i x = i → p)) T' n' ((evsFT F n evs).asI x i true) (evRun Φ evs ρ) hok.1 hc.1.2 (fun p hp => hK _ hp hb) (fun p hm => ho p (List.mem_append.2 (.inr (List.mem_append.2 (.inl hm))))) b (hF'.asI (by simpa using hc.1.1) (by simp [hb])) ((e1 i).2 hb) (e2 i) (e3 i)
    exact ⟨ds', v, log', ρ', T2, by simpa only [LT.at, hb, decide_true, cond_true] using r⟩
   ·obtain ⟨ds', v, log', ρ', T2, r⟩ := LT.path hS ρ0 n0 f _ _ (fun p => K ((evRun Φ evs ρ).i x ≠ i → p)) T' n' ((evsFT F n evs).asI x i false) (evRun Φ evs ρ) hok.2 hc.2 (fun p hp => hK _ hp hb) (fun p hm => ho p (List.mem_append.2 (.inr (List.mem_append.2 (.inr hm))))) b (hF'.asI (by simpa using hc.1.1) (by simp [hb])) e0 e2' e3'
    exact ⟨ds', v, log', ρ', T2, by simpa only [LT.at, hb, decide_false, cond_false] using r⟩
  ·cases hc
 | .sure evs x d t, ds, log, K, T, n, F, ρ, hok, hc, hK, ho, ht, hF, h1, h2, h3 => by
  simp only [LT.chk] at hc
  split at hc
  ·rename_i p hp
   obtain ⟨T', n'⟩ := p
   simp only [Bool.and_eq_true] at hc
   simp only [LT.obl, hp, kt, kn] at ho
   have hF' := evsFT_ok (P := P) (Φ := Φ) evs hp hF
   obtain ⟨a, b, c⟩ := segObl_ok hS hK evs T T' n n' ρ hp ht (fun p hm => ho p (List.mem_append.2 (.inl hm)))
   have hb : (evRun Φ evs ρ).b x = d := ho _ (List.mem_append.2 (.inr (List.mem_cons_self ..)))
   have e1 : sides Φ (Ev.decB x d :: evs.reverseAux log).reverse ρ0 := by
    rw [List.reverse_cons, List.reverseAux_eq, List.reverse_append, List.reverse_reverse, sides_append, sides_append, evRun_append, h2]
    simp only [sides, evSide, h1, a, and_true, true_and]
    exact hb
   have e2 : evRun Φ (Ev.decB x d :: evs.reverseAux log).reverse ρ0 = evRun Φ evs ρ := by
    rw [List.reverse_cons, List.reverseAux_eq, List.reverse_append, List.reverse_reverse, evRun_append, evRun_append, h2]
    rfl
   have e3 : ∀ m, fresh ((Ev.decB x d :: evs.reverseAux log).reverse ++ m) n0 = fresh m n' := fun m => by
    rw [List.reverse_cons, List.reverseAux_eq, List.reverse_append, List.reverse_reverse, List.append_assoc, List.append_assoc, h3, c]
    simp only [List.singleton_append, fresh, hc.1, Bool.true_and]
   exact LT.path hS ρ0 n0 t _ _ K T' n' ((evsFT F n evs).asB x d) (evRun Φ evs ρ) hok hc.2 hK (fun p hm => ho p (List.mem_append.2 (.inr (List.mem_cons_of_mem _ hm)))) b (hF'.asB hb) e1 e2 e3
  ·cases hc
 | .dead evs, ds, log, K, T, n, F, ρ, hok, hc, hK, ho, ht, hF, h1, h2, h3 => by
  simp only [LT.obl] at ho
  cases hb : F.bad with
  | true => exact (hF.bad hb).elim
  | false =>
  rw [hb] at ho
  simp only [Bool.false_eq_true, if_false] at ho
  exact (hK _ (ho (K False) (List.mem_append.2 (.inr (List.mem_singleton.2 rfl))))).elim
def symArgs : List (Bool × List RK) → Nat → List SW
 | [], _ => []
 | (false, ks) :: l, x => .c (nthC (sumCells x ks) 0) :: symArgs l (x + ks.length)
 | (true, ks) :: l, x => .agg (sumCells x ks) :: symArgs l (x + ks.length)
def argsWf : List (Bool × List RK) → Bool
 | [] => true
 | (false, [_]) :: l => argsWf l
 | (true, _) :: l => argsWf l
 | _ => false
def argKs (s : Sum) : List RK := s.args.flatMap (·.2)
def envOf (ks : List RK) (vs : List Value) : Env := valKs ks vs 0 env0
def treeCells (Φ : Phi) (t : LT) (ρ : Env) : Nat → List RK → List Value
 | _, [] => []
 | j, .ri k :: ks => .int k (t.vi Φ j ρ) :: treeCells Φ t ρ (j + 1) ks
 | j, .rb :: ks => .bool (t.vb Φ j ρ) :: treeCells Φ t ρ (j + 1) ks
 | j, .rs :: ks => .string (t.vs Φ j ρ) :: treeCells Φ t ρ (j + 1) ks
 | j, .rl v :: ks => v :: treeCells Φ t ρ (j + 1) ks
def AllTyped : List RK → (List Value → Prop) → Prop
 | [], p => p []
 | .ri k :: ks, p => ∀ n : Int, IntKind.has k n → AllTyped ks fun vs => p (.int k n :: vs)
 | .rb :: ks, p => ∀ b : Bool, AllTyped ks fun vs => p (.bool b :: vs)
 | .rs :: ks, p => ∀ s : ByteArray, AllTyped ks fun vs => p (.string s :: vs)
 | .rl _ :: _, _ => True
theorem allTyped : ∀ {ks : List RK} {p : List Value → Prop}, AllTyped ks p → ∀ vs, TypedCells ks vs → p vs
 | [], p, h, [], _ => h
 | .ri k :: ks, p, h, v :: vs, ht => by
  obtain ⟨⟨n, rfl, hn⟩, h2⟩ := ht
  exact allTyped (h n hn) vs h2
 | .rb :: ks, p, h, v :: vs, ht => by
  obtain ⟨⟨n, rfl⟩, h2⟩ := ht
  exact allTyped (h n) vs h2
 | .rs :: ks, p, h, v :: vs, ht => by
  obtain ⟨⟨n, rfl⟩, h2⟩ := ht
  exact allTyped (h n) vs h2
 | .rl _ :: ks, p, h, v :: vs, ht => by
  obtain ⟨h1, h2⟩ := ht
  exact h1.elim
 | [], p, h, _ :: _, ht => ht.elim
 | .ri _ :: _, p, h, [], ht => ht.elim
 | .rb :: _, p, h, [], ht => ht.elim
 | .rs :: _, p, h, [], ht => ht.elim
 | .rl _ :: _, p, h, [], ht => ht.elim
def allL : List Prop → Prop
 | [] => True
 | p :: l => p ∧ allL l
theorem obl_nil {l : List Prop} (h : l = []) : ∀ p ∈ l, p := fun p hp => by (rw [h] at hp; cases hp)
theorem allL_mem : ∀ {l : List Prop}, allL l → ∀ p ∈ l, p
 | [], _, p, hp => by cases hp
 | q :: l, h, p, hp => by
  rcases List.mem_cons.1 hp with rfl | hp
  ·exact h.1
  ·exact allL_mem h.2 p hp
theorem obl_list {l m : List Prop} (h : l = m) (hm : allL m) : ∀ p ∈ l, p := fun p hp => by (rw [h] at hp; exact allL_mem hm p hp)
theorem valKs_like : ∀ (ks : List RK) (vs : List Value) (x : Nat) (ρ : Env), Env.like x ρ (valKs ks vs x ρ)
 | [], _, x, ρ => .refl _ _
 | _ :: _, [], x, ρ => .refl _ _
 | k :: ks, v :: vs, x, ρ => by
  have h0 : ∀ ρ', Env.like x ρ ρ' → Env.like x ρ (valKs ks vs (x + 1) ρ') := fun ρ' h => h.trans (valKs_like ks vs (x + 1) ρ') (Nat.le_succ x)
  have h9 : Env.like x ρ (valKs ks vs (x + 1) ρ) := h0 _ (.refl _ _)
  cases k with
  | ri k => cases v <;> first | exact h9 | exact h0 _ (like_setI ρ x _)
  | rb => cases v <;> first | exact h9 | exact h0 _ (like_setB ρ x _)
  | rs => cases v <;> first | exact h9 | exact h0 _ (like_setS ρ x _)
  | rl _ => (cases v <;> exact h9)
theorem valKs_den (ι : Loc) : ∀ (ks : List RK) (vs : List Value) (x : Nat) (ρ : Env), TypedCells ks vs →
  (sumCells x ks).map (SC.den (valKs ks vs x ρ) ι) = vs
 | [], [], x, ρ, _ => rfl
 | .ri k :: ks, v :: vs, x, ρ, ht => by
  obtain ⟨⟨n, rfl, hn⟩, h2⟩ := ht
  simp only [sumCells, List.map_cons, valKs, valKs_den ι ks vs (x + 1) _ h2]
  congr 1
  simp only [SC.den]
  rw [(valKs_like ks vs (x + 1) (ρ.setI x n) x (Nat.lt_succ_self x)).1]
  simp [Env.setI]
 | .rb :: ks, v :: vs, x, ρ, ht => by
  obtain ⟨⟨n, rfl⟩, h2⟩ := ht
  simp only [sumCells, List.map_cons, valKs, valKs_den ι ks vs (x + 1) _ h2]
  congr 1
  simp only [SC.den, turn]
  rw [(valKs_like ks vs (x + 1) (ρ.setB x n) x (Nat.lt_succ_self x)).2.1]
  simp [Env.setB]
 | .rs :: ks, v :: vs, x, ρ, ht => by
  obtain ⟨⟨n, rfl⟩, h2⟩ := ht
  simp only [sumCells, List.map_cons, valKs, valKs_den ι ks vs (x + 1) _ h2]
  congr 1
  simp only [SC.den]
  rw [(valKs_like ks vs (x + 1) (ρ.setS x n) x (Nat.lt_succ_self x)).2.2]
  simp [Env.setS]
 | .rl _ :: ks, v :: vs, x, ρ, ht => ht.1.elim
 | [], _ :: _, x, ρ, ht => ht.elim
 | .ri _ :: _, [], x, ρ, ht => ht.elim
 | .rb :: _, [], x, ρ, ht => ht.elim
 | .rs :: _, [], x, ρ, ht => ht.elim
 | .rl _ :: _, [], x, ρ, ht => ht.elim
theorem valKs_ty : ∀ (ks : List RK) (vs : List Value) (x : Nat) (T : KT) (ρ : Env), TypedCells ks vs → tyOk T ρ → tyOk (ksSet ks x T) (valKs ks vs x ρ)
 | [], [], x, T, ρ, _, h => h
 | .ri k :: ks, v :: vs, x, T, ρ, ht, h => by
  obtain ⟨⟨n, rfl, hn⟩, h2⟩ := ht
  exact valKs_ty ks vs (x + 1) _ _ h2 (tyOk_setI h hn x)
 | .rb :: ks, v :: vs, x, T, ρ, ht, h => by
  obtain ⟨⟨n, rfl⟩, h2⟩ := ht
  exact valKs_ty ks vs (x + 1) _ _ h2 (tyOk_setB h n x)
 | .rs :: ks, v :: vs, x, T, ρ, ht, h => by
  obtain ⟨⟨n, rfl⟩, h2⟩ := ht
  exact valKs_ty ks vs (x + 1) _ _ h2 (tyOk_setS h n x)
 | .rl _ :: ks, v :: vs, x, T, ρ, ht, h => ht.1.elim
 | [], _ :: _, x, T, ρ, ht, h => ht.elim
 | .ri _ :: _, [], x, T, ρ, ht, h => ht.elim
 | .rb :: _, [], x, T, ρ, ht, h => ht.elim
 | .rs :: _, [], x, T, ρ, ht, h => ht.elim
 | .rl _ :: _, [], x, T, ρ, ht, h => ht.elim
theorem sumCells_length : ∀ (ks : List RK) (x : Nat), (sumCells x ks).length = ks.length
 | [], x => rfl
 | .ri _ :: ks, x => by simp [sumCells, sumCells_length ks]
 | .rb :: ks, x => by simp [sumCells, sumCells_length ks]
 | .rs :: ks, x => by simp [sumCells, sumCells_length ks]
 | .rl _ :: ks, x => by simp [sumCells, sumCells_length ks]
theorem sumCells_append : ∀ (ks ms : List RK) (x : Nat), sumCells x (ks ++ ms) = sumCells x ks ++ sumCells (x + ks.length) ms
 | [], ms, x => by simp [sumCells]
 | .ri _ :: ks, ms, x => by
  simp only [List.cons_append, sumCells, sumCells_append ks ms, List.length_cons]
  rw [show x + 1 + ks.length = x + (ks.length + 1) by omega]
 | .rb :: ks, ms, x => by
  simp only [List.cons_append, sumCells, sumCells_append ks ms, List.length_cons]
  rw [show x + 1 + ks.length = x + (ks.length + 1) by omega]
 | .rs :: ks, ms, x => by
  simp only [List.cons_append, sumCells, sumCells_append ks ms, List.length_cons]
  rw [show x + 1 + ks.length = x + (ks.length + 1) by omega]
 | .rl _ :: ks, ms, x => by
  simp only [List.cons_append, sumCells, sumCells_append ks ms, List.length_cons]
  rw [show x + 1 + ks.length = x + (ks.length + 1) by omega]
theorem symArgs_cells : ∀ (l : List (Bool × List RK)) (x : Nat), argsWf l = true → (symArgs l x).flatMap SW.cells = sumCells x (l.flatMap (·.2))
 | [], x, _ => rfl
 | (false, [k]) :: l, x, h => by
  simp only [argsWf] at h
  simp only [symArgs, List.flatMap_cons, SW.cells, sumCells_append, symArgs_cells l _ h]
  congr 1
  cases k <;> rfl
 | (true, ks) :: l, x, h => by
  simp only [argsWf] at h
  simp only [symArgs, List.flatMap_cons, SW.cells, sumCells_append, symArgs_cells l _ h]
 | (false, []) :: _, x, h => by simp [argsWf] at h
 | (false, _ :: _ :: _) :: _, x, h => by simp [argsWf] at h
theorem symArgs_den (ρ : Env) (ι : Loc) : ∀ (l : List (Bool × List RK)) (x : Nat), argsWf l = true →
  (symArgs l x).map (SW.den ρ ι) = packArgs l ((sumCells x (l.flatMap (·.2))).map (SC.den ρ ι))
 | [], x, _ => rfl
 | (false, [k]) :: l, x, h => by
  simp only [argsWf] at h
  simp only [symArgs, List.flatMap_cons, List.map_cons, sumCells_append, List.map_append, symArgs_den ρ ι l _ h]
  cases k <;> rfl
 | (true, ks) :: l, x, h => by
  simp only [argsWf] at h
  simp only [symArgs, List.flatMap_cons, List.map_cons, sumCells_append, List.map_append, symArgs_den ρ ι l _ h, packArgs, SW.den]
  congr 1
  ·rw [List.take_left' (by simp [sumCells_length])]
  ·rw [List.drop_left' (by simp [sumCells_length])]
 | (false, []) :: _, x, h => by simp [argsWf] at h
 | (false, _ :: _ :: _) :: _, x, h => by simp [argsWf] at h
theorem sumCells_bare : ∀ (ks : List RK) (x : Nat), (sumCells x ks).all bareSC = true
 | [], x => rfl
 | .ri _ :: ks, x => by simp [sumCells, bareSC]; exact fun c hc => List.all_eq_true.1 (sumCells_bare ks (x + 1)) c hc
 | .rb :: ks, x => by simp [sumCells, bareSC]; exact fun c hc => List.all_eq_true.1 (sumCells_bare ks (x + 1)) c hc
 | .rs :: ks, x => by simp [sumCells, bareSC]; exact fun c hc => List.all_eq_true.1 (sumCells_bare ks (x + 1)) c hc
 | .rl _ :: ks, x => by simp [sumCells, bareSC]; exact fun c hc => List.all_eq_true.1 (sumCells_bare ks (x + 1)) c hc
theorem sumCells_lt : ∀ (ks : List RK) (x n : Nat), x + ks.length ≤ n → (sumCells x ks).all (SC.lt n) = true
 | [], x, n, _ => rfl
 | .ri _ :: ks, x, n, h => by
  simp only [List.length_cons] at h
  simp only [sumCells, List.all_cons, sumCells_lt ks (x + 1) n (by omega), Bool.and_true, SC.lt]
  simp; omega
 | .rb :: ks, x, n, h => by
  simp only [List.length_cons] at h
  simp only [sumCells, List.all_cons, sumCells_lt ks (x + 1) n (by omega), Bool.and_true, SC.lt]
  simp; omega
 | .rs :: ks, x, n, h => by
  simp only [List.length_cons] at h
  simp only [sumCells, List.all_cons, sumCells_lt ks (x + 1) n (by omega), Bool.and_true, SC.lt]
  simp; omega
 | .rl _ :: ks, x, n, h => by
  simp only [List.length_cons] at h
  simp only [sumCells, List.all_cons, sumCells_lt ks (x + 1) n (by omega), Bool.and_true, SC.lt]
theorem bare_of_cells {l : List SW} (h : (l.flatMap SW.cells).all bareSC = true) : l.all bareSW = true := by
 rw [List.all_eq_true] at h ⊢
 exact fun x hx => List.all_eq_true.2 fun c hc => h c (List.mem_flatMap.2 ⟨x, hx, hc⟩)
theorem kindSC_bare {k : RK} {c : SC} (h : kindSC k c = true) : bareSC c = true := by
 cases c <;> cases k <;> simp [kindSC, bareSC] at *
theorem kindsSC_bare : ∀ {ks : List RK} {cs : List SC}, kindsSC ks cs = true → cs.all bareSC = true
 | [], [], _ => rfl
 | k :: ks, c :: cs, h => by
  simp only [kindsSC, Bool.and_eq_true] at h
  simp only [List.all_cons, kindSC_bare h.1, kindsSC_bare h.2, Bool.and_true]
 | [], _ :: _, h => by simp [kindsSC] at h
 | _ :: _, [], h => by simp [kindsSC] at h
theorem shapeFit_den (ρ : Env) (ι : Loc) : ∀ {sh : List (Bool × Nat)} {l : List SW}, shapeFit sh l = true → l.map (SW.den ρ ι) = packRes sh ((l.flatMap SW.cells).map (SC.den ρ ι))
 | [], [], _ => rfl
 | (true, n) :: sh, .agg xs :: l, h => by
  simp only [shapeFit, Bool.and_eq_true] at h
  have hn : xs.length = n := by simpa using h.1
  simp only [List.map_cons, List.flatMap_cons, SW.cells, List.map_append, packRes, SW.den, shapeFit_den ρ ι h.2]
  congr 1
  ·rw [List.take_left' (by simp [hn])]
  ·rw [List.drop_left' (by simp [hn])]
 | (false, _) :: sh, .c x :: l, h => by
  simp only [shapeFit] at h
  simp only [List.map_cons, List.flatMap_cons, SW.cells, List.map_append, packRes, SW.den, shapeFit_den ρ ι h]
  rfl
 | [], _ :: _, h => by simp [shapeFit] at h
 | (true, _) :: _, [], h => by simp [shapeFit] at h
 | (false, _) :: _, [], h => by simp [shapeFit] at h
 | (true, _) :: _, .c _ :: _, h => by simp [shapeFit] at h
 | (false, _) :: _, .agg _ :: _, h => by simp [shapeFit] at h
theorem tupFit_den {s : Sum} {v : SV} (h : tupFit s v = true) (ρ : Env) (ι : Loc) : v.den ρ ι = sumRes s (v.flat.map (SC.den ρ ι)) := by
 cases v with
 | w x =>
  simp only [tupFit, Bool.and_eq_true] at h
  have h1 : s.tup = false := by simpa using h.1
  have := shapeFit_den ρ ι h.2
  simp only [sumRes, h1, Bool.false_eq_true, if_false, SV.flat, SV.parts, ← this]
  rfl
 | tup xs =>
  simp only [tupFit, Bool.and_eq_true] at h
  have := shapeFit_den ρ ι h.2
  simp only [sumRes, h.1, if_true, SV.flat, SV.parts, ← this]
  rfl
theorem kindSC_vi {k : IntKind} {c : SC} (h : kindSC (.ri k) c = true) (ρ : Env) (ι : Loc) : c.den ρ ι = .int k (c.vi ρ) := by
 cases c with
 | lit v =>
  cases v <;> simp [kindSC] at h
  obtain ⟨⟨h1, _⟩, _⟩ := h
  rw [kindEq_true] at h1
  subst h1
  rfl
 | ivar k' x =>
  simp only [kindSC] at h
  rw [kindEq_true] at h
  subst h
  rfl
 | _ => simp [kindSC] at h
theorem kindSC_vb {c : SC} (h : kindSC .rb c = true) (ρ : Env) (ι : Loc) : c.den ρ ι = .bool (c.vb ρ) := by
 cases c with
 | lit v => cases v <;> simp [kindSC] at h; rfl
 | bvar x g => rfl
 | _ => simp [kindSC] at h
theorem kindSC_vs {c : SC} (h : kindSC .rs c = true) (ρ : Env) (ι : Loc) : c.den ρ ι = .string (c.vs ρ) := by
 cases c with
 | lit v => cases v <;> simp [kindSC] at h; rfl
 | svar x => rfl
 | _ => simp [kindSC] at h
theorem kindsSC_tree {Φ : Phi} {t : LT} {ρ0 ρ' : Env} {v : SV} (hat : t.at Φ ρ0 = some (v, ρ')) : ∀ (ks : List RK) (cs : List SC) (j : Nat), kindsSC ks cs = true → (∀ i, nthC cs i = nthC v.flat (j + i)) →
  cs.map (SC.den ρ' noloc) = treeCells Φ t ρ0 j ks
 | [], [], j, _, _ => rfl
 | k :: ks, c :: cs, j, h, he => by
  simp only [kindsSC, Bool.and_eq_true] at h
  have h0 : c = nthC v.flat j := by simpa [nthC] using he 0
  have h1 := kindsSC_tree hat ks cs (j + 1) h.2 fun i => by
   have := he (i + 1)
   simp only [nthC, List.getElem?_cons_succ] at this ⊢
   rw [this]
   congr 2
   omega
  cases k with
  | ri k =>
   simp only [List.map_cons, h1, treeCells, LT.vi, LT.get_at Φ _ _ j t ρ0 hat, ← h0, kindSC_vi h.1]
  | rb => simp only [List.map_cons, h1, treeCells, LT.vb, LT.get_at Φ _ _ j t ρ0 hat, ← h0, kindSC_vb h.1]
  | rs => simp only [List.map_cons, h1, treeCells, LT.vs, LT.get_at Φ _ _ j t ρ0 hat, ← h0, kindSC_vs h.1]
  | rl v => exact absurd h.1 (by cases c <;> simp [kindSC])
 | [], _ :: _, _, h, _ => by simp [kindsSC] at h
 | _ :: _, [], _, h, _ => by simp [kindsSC] at h
theorem kindsSC_at : ∀ {ks : List RK} {cs : List SC}, kindsSC ks cs = true → ∀ {j : Nat} {k : RK}, ks[j]? = some k → kindSC k (nthC cs j) = true
 | k :: ks, c :: cs, h, 0, k', hk => by
  simp only [kindsSC, Bool.and_eq_true] at h
  simp only [List.getElem?_cons_zero, Option.some.injEq] at hk
  subst hk
  exact h.1
 | k :: ks, c :: cs, h, j + 1, k', hk => by
  simp only [kindsSC, Bool.and_eq_true] at h
  simp only [List.getElem?_cons_succ] at hk
  exact kindsSC_at h.2 hk
 | [], _, h, j, k', hk => by simp at hk
 | _ :: _, [], h, _, _, _ => by simp [kindsSC] at h
theorem cells_phi {Φ : Phi} {t : LT} {ρ : Env} {f : Nat} {vs : List Value} : ∀ (ks : List RK) (m j : Nat) (k : IntKind), phiCells Φ f vs m ks = treeCells Φ t ρ m ks → ks[j]? = some (.ri k) → Φ.i f vs (m + j) = t.vi Φ (m + j) ρ
 | .ri k' :: ks, m, 0, k, h, hk => by
  simp only [phiCells, treeCells, List.cons.injEq, Value.int.injEq, true_and] at h
  exact h.1
 | .ri k' :: ks, m, j + 1, k, h, hk => by
  simp only [phiCells, treeCells, List.cons.injEq] at h
  have := cells_phi ks (m + 1) j k h.2 (by simpa using hk)
  rwa [show m + 1 + j = m + (j + 1) by omega] at this
 | .rb :: ks, m, j + 1, k, h, hk => by
  simp only [phiCells, treeCells, List.cons.injEq] at h
  have := cells_phi ks (m + 1) j k h.2 (by simpa using hk)
  rwa [show m + 1 + j = m + (j + 1) by omega] at this
 | .rs :: ks, m, j + 1, k, h, hk => by
  simp only [phiCells, treeCells, List.cons.injEq] at h
  have := cells_phi ks (m + 1) j k h.2 (by simpa using hk)
  rwa [show m + 1 + j = m + (j + 1) by omega] at this
 | .rl v :: ks, m, j + 1, k, h, hk => by
  simp only [phiCells, treeCells, List.cons.injEq] at h
  have := cells_phi ks (m + 1) j k h.2 (by simpa using hk)
  rwa [show m + 1 + j = m + (j + 1) by omega] at this
 | .rb :: ks, m, 0, k, h, hk => by simp at hk
 | .rs :: ks, m, 0, k, h, hk => by simp at hk
 | .rl v :: ks, m, 0, k, h, hk => by simp at hk
 | [], m, j, k, h, hk => by simp at hk
structure CtxT (P : Program) (Φ : Phi) (C : Ctx) : Prop where
 tys : TysOk P C.tys
 fns : FnsOk P C.fns
 sums : SumsT P Φ C.sums
 mix : P.follows .mixedOrders = true
theorem CtxT.ok {P : Program} {Φ : Phi} {C : Ctx} (h : CtxT P Φ C) : CtxOk P Φ C := ⟨h.tys, h.fns, fun f s hf => (h.sums f s hf).ok, h.mix⟩
theorem SumsT.e {P : Program} {Φ : Phi} : SumsT P Φ .e := fun f s h => by rw [Tr.get_e] at h; cases h
theorem SumsT.set {P : Program} {Φ : Phi} {t : Tr Sum} (h : SumsT P Φ t) {f : Nat} {s : Sum} (hs : SumT P Φ f s) : SumsT P Φ (t.set f s) := fun g q hg => by
 rw [Tr.get_set] at hg
 split at hg
 ·rename_i e
  simp only [Option.some.injEq] at hg
  subst hg; subst e
  exact hs
 ·exact h g q hg
theorem treeSum {P : Program} {Φ : Phi} {C : Ctx} (hC : CtxT P Φ C) {lf d f : Nat} {s : Sum} {t : LT} (can : Callable P f)
  (hok : t.Ok (fun ds => fnRun C lf d f (symArgs s.args 0) (st0 ds (argKs s).length)) [] [])
  (hchk : (argsWf s.args && t.chk C.sums s (ksSet (argKs s) 0 .e) (argKs s).length) = true)
  (hval : AllTyped (argKs s) fun vs => (∀ p ∈ t.obl Φ C.sums (fun p => p) (ksSet (argKs s) 0 .e) (argKs s).length .e (envOf (argKs s) vs), p)
   ∧ phiCells Φ f vs 0 s.ks = treeCells Φ t (envOf (argKs s) vs) 0 s.ks) : SumT P Φ f s := by
 simp only [Bool.and_eq_true] at hchk
 have key : ∀ vs, TypedCells (argKs s) vs → ∃ ds' v log' ρ' T', ans (fnRun C lf d f (symArgs s.args 0) (st0 ds' (argKs s).length)) = some (v, log') ∧ sides Φ log'.reverse (envOf (argKs s) vs) ∧
   evRun Φ log'.reverse (envOf (argKs s) vs) = ρ' ∧ fresh log'.reverse (argKs s).length = true ∧ t.at Φ (envOf (argKs s) vs) = some (v, ρ') ∧ leafOk s T' v = true ∧ tyOk T' ρ' := fun vs ht =>
  LT.path hC.sums _ _ t [] [] (fun p => p) _ _ .e _ hok hchk.2 (fun p hp => hp) (allTyped hval vs ht).1
   (valKs_ty _ vs 0 .e env0 ht fun x k h => by rw [Tr.get_e] at h; cases h) (FOk.e _ _) trivial rfl (fun m => rfl)
 refine ⟨⟨can, fun vs ht w p1 p2 => ?_⟩, fun vs ht j k hk => ?_⟩
 ·obtain ⟨ds', v, log', ρ', T', h1, h2, h3, h4, h5, h6, h7⟩ := key vs ht
  simp only [leafOk, Bool.and_eq_true] at h6
  have hcells := symArgs_cells s.args 0 hchk.1
  have hb1 : bareSV v = true := by
   have h8 := kindsSC_bare h6.1.2
   cases v with
   | w x => exact List.all_eq_true.2 fun c hc => List.all_eq_true.1 h8 c (by simp only [SV.flat, SV.parts, List.flatMap_cons, List.flatMap_nil, List.append_nil]; exact hc)
   | tup xs => exact bare_of_cells h8
  have hb2 : (symArgs s.args 0).all bareSW = true := bare_of_cells (by rw [hcells]; exact sumCells_bare _ _)
  have hden : (symArgs s.args 0).map (SW.den (envOf (argKs s) vs) noloc) = packArgs s.args vs := by
   rw [symArgs_den _ _ _ _ hchk.1]
   congr 1
   exact valKs_den noloc _ vs 0 env0 ht
  rw [← hden]
  refine (way hC.ok h1 (Q := fun x => x = v.den ρ' noloc) (ρ := envOf (argKs s) vs) (by simp only [hb1, hb2, h4, Bool.and_true]) ?_ ?_ w p1 p2).mono fun e w' ⟨x, a, b, c⟩ => ⟨?_, c⟩
  ·rw [chain_iff]
   exact ⟨h2, by rw [h3]⟩
  ·rw [hcells]
   exact sumCells_lt _ _ _ (by simp only [argKs]; omega)
  ·rw [a, b, tupFit_den h6.1.1, (allTyped hval vs ht).2]
   congr 2
   exact kindsSC_tree h5 s.ks v.flat 0 h6.1.2 fun i => by rw [Nat.zero_add]
 ·obtain ⟨ds', v, log', ρ', T', h1, h2, h3, h4, h5, h6, h7⟩ := key vs ht
  simp only [leafOk, Bool.and_eq_true] at h6
  have h8 := cells_phi s.ks 0 j k (allTyped hval vs ht).2 hk
  rw [Nat.zero_add] at h8
  rw [h8, LT.vi, LT.get_at Φ _ _ j t _ h5]
  have h9 := kindsSC_at h6.1.2 hk
  have h10 : (nthC v.flat j).fits ρ' := by
   unfold nthC
   cases hj : v.flat[j]? with
   | none => trivial
   | some c => exact SC.typed_ok h7 (List.all_eq_true.1 h6.2 c (List.mem_of_getElem? hj))
  obtain ⟨⟨n, e1, e2⟩, _⟩ := kindSC_den h9 ρ' h10
  rw [kindSC_vi h9 ρ' noloc] at e1
  simp only [Value.int.injEq, true_and] at e1
  rw [e1]
  exact e2
def rngs (Φ : Phi) (f : Nat) (vs : List Value) : Nat → List RK → Prop
 | _, [] => True
 | j, .ri k :: ks => IntKind.has k (Φ.i f vs j) ∧ rngs Φ f vs (j + 1) ks
 | j, _ :: ks => rngs Φ f vs (j + 1) ks
theorem rngs_at {Φ : Phi} {f : Nat} {vs : List Value} : ∀ (ks : List RK) (m j : Nat) (k : IntKind), rngs Φ f vs m ks → ks[j]? = some (.ri k) → IntKind.has k (Φ.i f vs (m + j))
 | .ri k' :: ks, m, 0, k, h, hk => by
  simp only [List.getElem?_cons_zero, Option.some.injEq, RK.ri.injEq] at hk
  subst hk
  exact h.1
 | .ri k' :: ks, m, j + 1, k, h, hk => by
  have := rngs_at ks (m + 1) j k h.2 (by simpa using hk)
  rwa [show m + 1 + j = m + (j + 1) by omega] at this
 | .rb :: ks, m, j + 1, k, h, hk => by
  have := rngs_at ks (m + 1) j k h (by simpa using hk)
  rwa [show m + 1 + j = m + (j + 1) by omega] at this
 | .rs :: ks, m, j + 1, k, h, hk => by
  have := rngs_at ks (m + 1) j k h (by simpa using hk)
  rwa [show m + 1 + j = m + (j + 1) by omega] at this
 | .rl v :: ks, m, j + 1, k, h, hk => by
  have := rngs_at ks (m + 1) j k h (by simpa using hk)
  rwa [show m + 1 + j = m + (j + 1) by omega] at this
 | .rb :: ks, m, 0, k, h, hk => by simp at hk
 | .rs :: ks, m, 0, k, h, hk => by simp at hk
 | .rl v :: ks, m, 0, k, h, hk => by simp at hk
 | [], m, j, k, h, hk => by simp at hk
theorem handSum {P : Program} {Φ : Phi} {f : Nat} {s : Sum} (can : Callable P f)
  (h : AllTyped (argKs s) fun vs => (∀ w, Calls P f (packArgs s.args vs).toArray w fun e w' => e = .returned (sumRes s (phiCells Φ f vs 0 s.ks)) ∧ RowKit.Below w.heap.size w w') ∧ rngs Φ f vs 0 s.ks) : SumT P Φ f s :=
 ⟨⟨can, fun vs ht w _ _ => (allTyped h vs ht).1 w⟩, fun vs ht j k hk => by
  have := rngs_at s.ks 0 j k (allTyped h vs ht).2 hk
  rwa [Nat.zero_add] at this⟩
theorem handSumP {P : Program} {Φ : Phi} {f : Nat} {s : Sum} (can : Callable P f)
  (h : AllTyped (argKs s) fun vs => (∀ w, Pins.n ≤ w.heap.size → Pins.I w → Calls P f (packArgs s.args vs).toArray w fun e w' => e = .returned (sumRes s (phiCells Φ f vs 0 s.ks)) ∧ RowKit.Below w.heap.size w w') ∧ rngs Φ f vs 0 s.ks) : SumT P Φ f s :=
 ⟨⟨can, fun vs ht w p1 p2 => (allTyped h vs ht).1 w p1 p2⟩, fun vs ht j k hk => by
  have := rngs_at s.ks 0 j k (allTyped h vs ht).2 hk
  rwa [Nat.zero_add] at this⟩
theorem below_eq {w w' : World} (h : w = w') : RowKit.Below w.heap.size w w' := h ▸ RowKit.Below.refl _ _
theorem has_u8 {n : Int} : IntKind.has .u8 n ↔ 0 ≤ n ∧ n < 256 := by
 simp only [IntKind.has, IntKind.min, IntKind.max, IntKind.bits, IntKind.signed]; simp; omega
theorem has_u16 {n : Int} : IntKind.has .u16 n ↔ 0 ≤ n ∧ n < 65536 := by
 simp only [IntKind.has, IntKind.min, IntKind.max, IntKind.bits, IntKind.signed]; simp; omega
theorem has_u32 {n : Int} : IntKind.has .u32 n ↔ 0 ≤ n ∧ n < 4294967296 := by
 simp only [IntKind.has, IntKind.min, IntKind.max, IntKind.bits, IntKind.signed]; simp; omega
theorem has_u64 {n : Int} : IntKind.has .u64 n ↔ 0 ≤ n ∧ n < 18446744073709551616 := by
 simp only [IntKind.has, IntKind.min, IntKind.max, IntKind.bits, IntKind.signed]; simp; omega
theorem has_i8 {n : Int} : IntKind.has .i8 n ↔ -128 ≤ n ∧ n < 128 := by
 simp only [IntKind.has, IntKind.min, IntKind.max, IntKind.bits, IntKind.signed]; simp; omega
theorem has_i16 {n : Int} : IntKind.has .i16 n ↔ -32768 ≤ n ∧ n < 32768 := by
 simp only [IntKind.has, IntKind.min, IntKind.max, IntKind.bits, IntKind.signed]; simp; omega
theorem has_i32 {n : Int} : IntKind.has .i32 n ↔ -2147483648 ≤ n ∧ n < 2147483648 := by
 simp only [IntKind.has, IntKind.min, IntKind.max, IntKind.bits, IntKind.signed]; simp; omega
theorem has_i64 {n : Int} : IntKind.has .i64 n ↔ -9223372036854775808 ≤ n ∧ n < 9223372036854775808 := by
 simp only [IntKind.has, IntKind.min, IntKind.max, IntKind.bits, IntKind.signed]; simp; omega
theorem SumT.calls {P : Program} {Φ : Phi} {f : Nat} {s : Sum} (h : SumT P Φ f s) {vs : List Value} (ht : TypedCells (argKs s) vs) {as : Array Value} (ha : (packArgs s.args vs).toArray = as)
  {v : Value} (hv : sumRes s (phiCells Φ f vs 0 s.ks) = v) (w : World) (p1 : Pins.n ≤ w.heap.size) (p2 : Pins.I w) : Calls P f as w fun e w' => e = .returned v ∧ RowKit.Below w.heap.size w w' := by
 subst ha hv
 exact h.ok.does vs ht w p1 p2
end Go.Sx
