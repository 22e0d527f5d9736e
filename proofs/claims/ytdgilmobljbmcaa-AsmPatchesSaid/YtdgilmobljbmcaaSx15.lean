/-
  A symbolic executor for the model's code: functions; how it is used.
-/
import Derived.Test.YtdgilmobljbmcaaSx14
namespace Go.Sx
set_option linter.unusedSimpArgs false
set_option linter.unusedVariables false

/-! ### Summaries -/
def RK.is : RK → Value → Prop
  | .ri k, v => ∃ n, v = .int k n ∧ IntKind.has k n
  | .rb, v => ∃ b, v = .bool b
  | .rs, v => ∃ s, v = .string s
  | .rl _, _ => False

def TypedCells : List RK → List Value → Prop
  | [], [] => True
  | k :: ks, v :: vs => k.is v ∧ TypedCells ks vs
  | _, _ => False

def packArgs : List (Bool × List RK) → List Value → List Value
  | [], _ => []
  | (false, _) :: l, v :: vs => v :: packArgs l vs
  | (false, _) :: _, [] => []
  | (true, ks) :: l, vs => .agg (vs.take ks.length).toArray :: packArgs l (vs.drop ks.length)

def packRes : List (Bool × Nat) → List Value → List Value
  | [], _ => []
  | (true, n) :: sh, vs => .agg (vs.take n).toArray :: packRes sh (vs.drop n)
  | (false, _) :: sh, v :: vs => v :: packRes sh vs
  | (false, _) :: _, [] => []

def sumRes (s : Sum) (cells : List Value) : Value := if s.tup then .tuple (packRes s.shape cells).toArray else (packRes s.shape cells).headD undef

def phiCells (Φ : Phi) (f : Nat) (vs : List Value) : Nat → List RK → List Value
  | _, [] => []
  | j, .ri k :: ks => .int k (Φ.i f vs j) :: phiCells Φ f vs (j + 1) ks
  | j, .rb :: ks => .bool (Φ.b f vs j) :: phiCells Φ f vs (j + 1) ks
  | j, .rs :: ks => .string (Φ.s f vs j) :: phiCells Φ f vs (j + 1) ks
  | j, .rl v :: ks => v :: phiCells Φ f vs (j + 1) ks

section
variable {P : Program}

def Callable (P : Program) (f : Nat) : Prop := ∀ as w, (callFunc f as).run P w = .ok (.enter f as) w

structure SumOk (P : Program) (Φ : Phi) (f : Nat) (s : Sum) : Prop where
  can : Callable P f
  does : ∀ vs, TypedCells (s.args.flatMap (·.2)) vs → ∀ w, Calls P f (packArgs s.args vs).toArray w fun e w' =>
    e = .returned (sumRes s (phiCells Φ f vs 0 s.ks)) ∧ RowKit.Below w.heap.size w w'

theorem kindSC_den {k : RK} {c : SC} (h : kindSC k c = true) (ρ : Env) (hf : c.fits ρ) : k.is (c.den ρ noloc) ∧ ∀ ι, c.den ρ ι = c.den ρ noloc := by
  unfold kindSC at h
  split at h
  · simp only [Bool.and_eq_true, kindEq_true, decide_eq_true_eq] at h
    obtain ⟨⟨rfl, h1⟩, h2⟩ := h
    exact ⟨⟨_, rfl, h1, h2⟩, fun _ => rfl⟩
  · rw [kindEq_true] at h
    subst h
    exact ⟨⟨_, rfl, hf⟩, fun _ => rfl⟩
  · exact ⟨⟨_, rfl⟩, fun _ => rfl⟩
  · exact ⟨⟨_, rfl⟩, fun _ => rfl⟩
  · exact ⟨⟨_, rfl⟩, fun _ => rfl⟩
  · exact ⟨⟨_, rfl⟩, fun _ => rfl⟩
  · cases h

theorem kindsSC_den : ∀ {ks : List RK} {cs : List SC}, kindsSC ks cs = true → ∀ ρ, (∀ c ∈ cs, c.fits ρ) →
    ks.length = cs.length ∧ (∀ ι, cs.map (SC.den ρ ι) = cs.map (SC.den ρ noloc)) ∧ ∀ ks' vs, TypedCells ks' vs → TypedCells (ks ++ ks') (cs.map (SC.den ρ noloc) ++ vs)
  | [], [], h, ρ, hf => ⟨rfl, fun _ => rfl, fun ks' vs h => h⟩
  | k :: ks, c :: cs, h, ρ, hf => by
    simp only [kindsSC, Bool.and_eq_true] at h
    obtain ⟨h1, h2⟩ := kindSC_den h.1 ρ (hf c (List.mem_cons_self ..))
    obtain ⟨h3, h4, h5⟩ := kindsSC_den h.2 ρ (fun d hd => hf d (List.mem_cons_of_mem _ hd))
    exact ⟨by simp [h3], fun ι => by simp only [List.map_cons, h2 ι, h4 ι], fun ks' vs h => ⟨h1, h5 ks' vs h⟩⟩
  | [], _ :: _, h, _, _ => by simp [kindsSC] at h
  | _ :: _, [], h, _, _ => by simp [kindsSC] at h

theorem argsFit_den : ∀ {l : List (Bool × List RK)} {ws : List SW}, argsFit l ws = true → ∀ ρ, (∀ c ∈ ws.flatMap SW.cells, c.fits ρ) →
    TypedCells (l.flatMap (·.2)) ((ws.flatMap SW.cells).map (SC.den ρ noloc)) ∧ ∀ ι, ws.map (SW.den ρ ι) = packArgs l ((ws.flatMap SW.cells).map (SC.den ρ noloc))
  | [], [], _, ρ, _ => ⟨trivial, fun _ => rfl⟩
  | (false, [k]) :: l, .c x :: ws, h, ρ, hf => by
    simp only [argsFit, Bool.and_eq_true] at h
    have hx : x.fits ρ := hf x (by simp [SW.cells])
    obtain ⟨h1, h2⟩ := kindSC_den h.1 ρ hx
    obtain ⟨h3, h4⟩ := argsFit_den h.2 ρ (fun c hc => hf c (by simp only [List.flatMap_cons, List.mem_append]; exact .inr hc))
    refine ⟨?_, fun ι => ?_⟩
    · simp only [List.flatMap_cons, SW.cells, List.singleton_append, List.map_cons]
      exact ⟨h1, h3⟩
    · simp only [List.map_cons, List.flatMap_cons, SW.cells, List.singleton_append, packArgs, h4 ι, SW.den, h2 ι]
  | (true, ks) :: l, .agg xs :: ws, h, ρ, hf => by
    simp only [argsFit, Bool.and_eq_true] at h
    obtain ⟨h1, h2, h5⟩ := kindsSC_den h.1 ρ (fun c hc => hf c (by simp only [List.flatMap_cons, List.mem_append]; exact .inl hc))
    obtain ⟨h3, h4⟩ := argsFit_den h.2 ρ (fun c hc => hf c (by simp only [List.flatMap_cons, List.mem_append]; exact .inr hc))
    refine ⟨?_, fun ι => ?_⟩
    · simp only [List.flatMap_cons, SW.cells, List.map_append]
      exact h5 _ _ h3
    · simp only [List.map_cons, List.flatMap_cons, SW.cells, List.map_append, packArgs, h4 ι, SW.den, h2 ι]
      congr 1
      · rw [List.take_left' (by simp [h1])]
      · rw [List.drop_left' (by simp [h1])]
  | [], _ :: _, h, _, _ => by simp [argsFit] at h
  | (false, []) :: _, _, h, _, _ => by simp [argsFit] at h
  | (false, _ :: _ :: _) :: _, _, h, _, _ => by simp [argsFit] at h
  | (false, [_]) :: _, [], h, _, _ => by simp [argsFit] at h
  | (false, [_]) :: _, .agg _ :: _, h, _, _ => by simp [argsFit] at h
  | (true, _) :: _, [], h, _, _ => by simp [argsFit] at h
  | (true, _) :: _, .c _ :: _, h, _, _ => by simp [argsFit] at h

theorem sumCells_den (Φ : Phi) (ρ : Env) (f : Nat) (vs : List Value) (ι : Loc) : ∀ (ks : List RK) (x j : Nat), callDen Φ ρ f vs x j ks → (sumCells x ks).map (SC.den ρ ι) = phiCells Φ f vs j ks
  | [], x, j, _ => rfl
  | .ri k :: ks, x, j, h => by
    simp only [callDen] at h
    simp only [sumCells, List.map_cons, SC.den, h.1, phiCells, sumCells_den Φ ρ f vs ι ks _ _ h.2]
  | .rb :: ks, x, j, h => by
    simp only [callDen] at h
    simp only [sumCells, List.map_cons, SC.den, h.1, phiCells, sumCells_den Φ ρ f vs ι ks _ _ h.2, turn]
  | .rs :: ks, x, j, h => by
    simp only [callDen] at h
    simp only [sumCells, List.map_cons, SC.den, h.1, phiCells, sumCells_den Φ ρ f vs ι ks _ _ h.2]
  | .rl v :: ks, x, j, h => by
    simp only [callDen] at h
    simp only [sumCells, List.map_cons, SC.den, phiCells, sumCells_den Φ ρ f vs ι ks _ _ h]

theorem shaped_den (ρ : Env) (ι : Loc) : ∀ {sh : List (Bool × Nat)} {xs : List SC} {l : List SW}, shaped sh xs = some l → l.map (SW.den ρ ι) = packRes sh (xs.map (SC.den ρ ι))
  | [], [], l, h => by simp [shaped] at h; subst h; rfl
  | [], _ :: _, l, h => by simp [shaped] at h
  | (true, n) :: sh, xs, l, h => by
    simp only [shaped] at h
    split at h
    · rename_i l' hl
      split at h
      · simp only [Option.some.injEq] at h
        subst h
        simp only [List.map_cons, SW.den, packRes, shaped_den ρ ι hl, List.map_take, List.map_drop]
      · cases h
    · cases h
  | (false, m) :: sh, x :: xs, l, h => by
    simp only [shaped] at h
    split at h
    · rename_i l' hl
      simp only [Option.some.injEq] at h
      subst h
      simp only [List.map_cons, SW.den, packRes, shaped_den ρ ι hl]
    · cases h
  | (false, m) :: sh, [], l, h => by simp [shaped] at h

theorem shaped_mem : ∀ {sh : List (Bool × Nat)} {xs : List SC} {l : List SW}, shaped sh xs = some l → ∀ w ∈ l, ∀ c ∈ w.cells, c ∈ xs
  | [], [], l, h => by simp [shaped] at h; subst h; intro w hw; cases hw
  | [], _ :: _, l, h => by simp [shaped] at h
  | (true, n) :: sh, xs, l, h => by
    simp only [shaped] at h
    split at h
    · rename_i l' hl
      split at h
      · simp only [Option.some.injEq] at h
        subst h
        intro w hw c hc
        rcases List.mem_cons.1 hw with rfl | hw
        · exact List.mem_of_mem_take hc
        · exact List.mem_of_mem_drop (shaped_mem hl w hw c hc)
      · cases h
    · cases h
  | (false, m) :: sh, x :: xs, l, h => by
    simp only [shaped] at h
    split at h
    · rename_i l' hl
      simp only [Option.some.injEq] at h
      subst h
      intro w hw c hc
      rcases List.mem_cons.1 hw with rfl | hw
      · simp only [SW.cells, List.mem_singleton] at hc
        subst hc
        exact List.mem_cons_self ..
      · exact List.mem_cons_of_mem _ (shaped_mem hl w hw c hc)
    · cases h
  | (false, m) :: sh, [], l, h => by simp [shaped] at h

theorem sumCells_on (A : Nat → Prop) : ∀ (ks : List RK) (x : Nat), ∀ c ∈ sumCells x ks, c.on A
  | [], x, c, hc => by cases hc
  | .ri k :: ks, x, c, hc => by
    rcases List.mem_cons.1 hc with rfl | hc
    · trivial
    · exact sumCells_on A ks _ c hc
  | .rb :: ks, x, c, hc => by
    rcases List.mem_cons.1 hc with rfl | hc
    · trivial
    · exact sumCells_on A ks _ c hc
  | .rs :: ks, x, c, hc => by
    rcases List.mem_cons.1 hc with rfl | hc
    · trivial
    · exact sumCells_on A ks _ c hc
  | .rl v :: ks, x, c, hc => by
    rcases List.mem_cons.1 hc with rfl | hc
    · trivial
    · exact sumCells_on A ks _ c hc

/-- What has only made blocks of its own. -/
theorem below_post {Φ : Phi} {ρ : Env} {ι : Loc} {A : Nat → Prop} {st st' : St} {w w' : World} (q : Quiet Φ st st') (hr : Rep ρ ι A st.heap.get st.nb w) (hb : RowKit.Below w.heap.size w w') :
    Post ρ ι A st w ι st' w' := by
  refine ⟨.refl _ _, ?_, hb.os, hb.tape, hb.output, hb.size, fun b h _ => hb.block b h, fun id h1 h2 => by rw [q.nb] at h2; omega⟩
  rw [q.heap, q.nb]
  exact ⟨hr.lt, fun id k hk => by rw [hb.block _ (hr.size hk)]; exact hr.blk id k hk, hr.on, hr.inj⟩

theorem sumRun0_ok {Φ : Phi} {f : Nat} {s : Sum} (hok : SumOk P Φ f s) {args : List SW} {st st' : St} {v : SV} (h : sumRun0 s f args st = .ok (v, st')) :
    Le Φ st st' ∧ Callable P f ∧
    ∀ ρ, LogOk Φ ρ st'.log → Facts ρ st → ∀ A : Nat → Prop, (∀ id, st.nb ≤ id → id < st'.nb → A id) → ∀ ι w, Rep ρ ι A st.heap.get st.nb w →
      (∀ x ∈ args, x.on (lim st.nb A)) →
      Calls P f (args.map (SW.den ρ ι)).toArray w fun e w' => ∃ ι', e = .returned (v.den ρ ι') ∧ Post ρ ι A st w ι' st' w' ∧ v.on (lim st'.nb A) := by
  unfold sumRun0 at h
  dsimp only at h
  split at h
  · rename_i hfit
    split at h
    · rename_i l hl
      split at h
      · rename_i v' hv
        simp only [R.ok.injEq, Prod.mk.injEq] at h
        obtain ⟨rfl, rfl⟩ := h
        have q : Quiet Φ st { st with nx := st.nx + s.ks.length, log := .call f (args.flatMap SW.cells) st.nx s.ks :: st.log } := quiet_push
        refine ⟨q.le, hok.can, fun ρ hlog hf A hA ι w hr hin => ?_⟩
        obtain ⟨e1, e2⟩ := hlog (.call f (args.flatMap SW.cells) st.nx s.ks) (by simp)
        obtain ⟨e3, e4⟩ := argsFit_den hfit ρ e1
        rw [e4 ι]
        refine (hok.does _ e3 w).mono fun e w' ⟨h1, h2⟩ => ⟨ι, ?_, below_post q hr h2, ?_⟩
        · rw [h1]
          congr 1
          have h3 := shaped_den ρ ι hl
          rw [sumCells_den Φ ρ f _ ι s.ks st.nx 0 e2] at h3
          unfold sumRes
          unfold sumVal at hv
          split at hv
          · rename_i ht
            simp only [Option.some.injEq] at hv
            subst hv
            simp only [ht, if_true, SV.den, ← h3]
          · rename_i ht
            split at hv
            · simp only [Option.some.injEq] at hv
              subst hv
              simp only [ht, ← h3]
              rfl
            · cases hv
        · have hc : ∀ x ∈ l, x.on (lim st.nb A) := fun x hx c hc => sumCells_on _ _ _ c (shaped_mem hl x hx c hc)
          unfold sumVal at hv
          split at hv
          · simp only [Option.some.injEq] at hv
            subst hv
            exact hc
          · split at hv
            · simp only [Option.some.injEq] at hv
              subst hv
              exact hc _ (List.mem_cons_self ..)
            · cases hv
      · exact stop_ne h
    · exact stop_ne h
  · exact stop_ne h

theorem sumRun_ok {Φ : Phi} {f : Nat} {s : Sum} (hok : SumOk P Φ f s) {args : List SW} {st st' : St} {v : SV} (h : sumRun s f args st = .ok (v, st')) :
    Le Φ st st' ∧ Callable P f ∧
    ∀ ρ, LogOk Φ ρ st'.log → Facts ρ st → ∀ A : Nat → Prop, (∀ id, st.nb ≤ id → id < st'.nb → A id) → ∀ ι w, Rep ρ ι A st.heap.get st.nb w →
      (∀ x ∈ args, x.on (lim st.nb A)) →
      Calls P f (args.map (SW.den ρ ι)).toArray w fun e w' => ∃ ι', e = .returned (v.den ρ ι') ∧ Post ρ ι A st w ι' st' w' ∧ v.on (lim st'.nb A) := by
  unfold sumRun at h
  split at h
  · rename_i v0 s1 h0
    obtain ⟨h1, h2, h3⟩ := sumRun0_ok hok h0
    split at h
    · unfold concS at h
      split at h
      · rename_i k x
        split at h
        · rename_i n s2 hn
          obtain ⟨q, _, k', hk⟩ := getN_ok (Φ := Φ) hn
          simp only [R.ok.injEq, Prod.mk.injEq] at h
          obtain ⟨rfl, rfl⟩ := h
          refine ⟨h1.trans q.le, h2, fun ρ hl hf A hA ι w hr hin => ?_⟩
          have hl1 := q.logOk hl
          refine (h3 ρ hl1 hf A (fun id a b => hA id a (by rw [q.nb]; exact b)) ι w hr hin).mono fun e w' ⟨ι', e1, e2, e3⟩ => ⟨ι', ?_, e2.trans h1 hr (q.post e2.rep), bare_litI _ _ _⟩
          have e4 := hk ρ hl (h1.facts ρ hl1 hf) ι'
          have e5 : (SV.w (.c (.ivar k x))).den ρ ι' = .int k (ρ.i x) := rfl
          rw [e5] at e4
          simp only [Value.int.injEq] at e4
          rw [e1, e5, e4.2]
          rfl
        · exact er_ne h
      · exact stop_ne h
    · simp only [R.ok.injEq, Prod.mk.injEq] at h
      obtain ⟨rfl, rfl⟩ := h
      exact ⟨h1, h2, h3⟩
  · exact er_ne h

def SumsOk (P : Program) (Φ : Phi) (sums : Tr Sum) : Prop := ∀ f s, sums.get f = some s → SumOk P Φ f s
def FnsOk (P : Program) (fns : Tr Func) : Prop := ∀ f fn, fns.get f = some fn → P.funcs[f]? = some fn ∧ Callable P f

theorem argsV_get : ∀ (args : List SW) (t : Nat), (Tr.setAll (.e : Tr SV) 0 (argsV args)).get t = (args[t]?).map SV.w := by
  intro args t
  have h : ∀ l : List SW, argsV l = l.map SV.w := by
    intro l
    induction l with
    | nil => rfl
    | cons x l ih => simp [argsV, ih]
  rw [h, Tr.get_setAll]
  simp only [Nat.zero_le, true_and, Nat.zero_add, List.length_map, Nat.sub_zero, Tr.get_e, List.getElem?_map]
  split
  · rfl
  · rename_i hn
    rw [List.getElem?_eq_none (by omega)]
    rfl

def resM (tmps : Array Value) : ResultVar → Sem Value
  | .tmp t => pure (tmps.getD t undef)
  | .cell x t => do loadVar t (← asAddr (tmps.getD x undef))

theorem results_eq (fn : Func) (tmps : Array Value) : results fn tmps = (do let vs ← fn.results.mapM (resM tmps); pure (if h : vs.size = 1 then vs[0] else .tuple vs)) := by
  unfold results
  congr 2

theorem resVal_den (l : List SW) (ρ : Env) (ι : Loc) :
    (if h : (l.map (SW.den ρ ι)).toArray.size = 1 then (l.map (SW.den ρ ι)).toArray[0] else Value.tuple (l.map (SW.den ρ ι)).toArray) = (resVal l).den ρ ι := by
  match l with
  | [] => rfl
  | [x] => rfl
  | x :: y :: t =>
    rw [dif_neg (by simp)]
    rfl

theorem asAddr_ptr (a : Addr) : asAddr (.pointer (some a)) = pure a := rfl

theorem resOf_run {C : Ctx} (hT : TysOk P C.tys) {fr : Fr} {st : St} {ρ : Env} {ι : Loc} {A : Nat → Prop} {w : World} {a : Act} (hr : Rep ρ ι A st.heap.get st.nb w) (hfr : RepF ρ ι A st.nb fr a) :
    ∀ {rs : List ResultVar} {l : List SW}, resOf C fr st rs = some l →
      (rs.mapM (resM a.tmps)).run P w = .ok (l.map (SW.den ρ ι)) w ∧ ∀ x ∈ l, x.on (lim st.nb A)
  | [], l, h => by simp [resOf] at h; subst h; exact ⟨rfl, fun x hx => by cases hx⟩
  | .tmp t :: rs, l, h => by
    simp only [resOf] at h
    split at h
    · rename_i x l' hx hl
      simp only [Option.some.injEq] at h
      subst h
      obtain ⟨h1, h2⟩ := resOf_run hT hr hfr hl
      have h3 := hfr.slot t
      have h4 := hfr.on t
      rw [hx] at h3 h4
      refine ⟨?_, fun y hy => ?_⟩
      · simp only [List.mapM_cons, resM, pure_bind, Sem.run_bind, h1, Result.andThen_ok, Sem.run_pure, List.map_cons, h3, SV.den_w]
      · rcases List.mem_cons.1 hy with rfl | hy
        · exact h4
        · exact h2 y hy
    · cases h
  | .cell x t :: rs, l, h => by
    simp only [resOf] at h
    split at h
    · rename_i y s1 l' hx hl
      simp only [Option.some.injEq] at h
      subst h
      obtain ⟨h1, h2⟩ := resOf_run hT hr hfr hl
      obtain ⟨_, id, off, k, i, z, e1, hk, hi, e2, hy⟩ := loadS_ok hx
      simp only [SV.w.injEq] at e2
      subst e2
      obtain ⟨h3, h4⟩ := loadVar_run hT hi hr hk hy
      have h5 := hfr.slot x
      rw [e1] at h5
      refine ⟨?_, fun z hz => ?_⟩
      · simp only [List.mapM_cons, resM, Sem.run_bind, h5, SV.den_w, SW.den_ptr, asAddr_ptr, Sem.run_pure, Result.andThen_ok, h3, h1, List.map_cons]
      · rcases List.mem_cons.1 hz with rfl | hz
        · exact h4
        · exact h2 z hz
    · cases h

theorem fnRun_ok {Φ : Phi} {C : Ctx} (hT : TysOk P C.tys) (hF : FnsOk P C.fns) (hS : SumsOk P Φ C.sums) (hmix : P.follows .mixedOrders = true) (lf : Nat) : ∀ d, CallOk P Φ (fnRun C lf d) := by
  intro d
  induction d with
  | zero => intro f args st v st' h; exact stop_ne h
  | succ d ih =>
    intro f args st v st' h
    simp only [fnRun] at h
    split at h
    · rename_i s hs
      exact sumRun_ok (hS f s hs) h
    · split at h
      · exact stop_ne h
      · rename_i fn hfn
        obtain ⟨hf1, hf2⟩ := hF f fn hfn
        split at h
        · exact stop_ne h
        · rename_i c hbody
          have main : ∀ {e : Ex} {fr' : Fr} {s1 : St}, code C (fnRun C lf d) lf c ⟨Nat.max fn.ntmps args.length, Tr.setAll .e 0 (argsV args)⟩ st = .ok (e, fr', s1) → (∀ i, e ≠ .exit i) → ∀ l, resOf C fr' s1 fn.results.toList = some l → v = resVal l → st' = s1 →
              Le Φ st st' ∧ Callable P f ∧ ∀ ρ, LogOk Φ ρ st'.log → Facts ρ st → ∀ A : Nat → Prop, (∀ id, st.nb ≤ id → id < st'.nb → A id) → ∀ ι w, Rep ρ ι A st.heap.get st.nb w →
                (∀ x ∈ args, x.on (lim st.nb A)) → Calls P f (args.map (SW.den ρ ι)).toArray w fun e w' => ∃ ι', e = .returned (v.den ρ ι') ∧ Post ρ ι A st w ι' st' w' ∧ v.on (lim st'.nb A) := by
            intro e fr' s1 hc he l hl hv hst
            subst hv; subst hst
            have g := code_ok hT ih hmix c hc
            refine ⟨g.1, hf2, fun ρ hlog hfacts A hA ι w hr hin => ?_⟩
            refine calls_of_wp hf1 hbody ?_
            refine g.2 ρ hlog hfacts A hA ι w _ hr ⟨?_, fun t => ?_, fun t => ?_⟩ _ fun ι' w' a' hp hf' hd => ?_
            · show _ = max fn.ntmps args.length
              simp only [Array.size_append, List.size_toArray, List.length_map, Array.size_replicate]
              omega
            · simp only [Fr.get, argsV_get]
              by_cases ht : t < args.length
              · simp [ht, SV.den_w, Array.getElem?_append]
              · have : args[t]? = none := List.getElem?_eq_none (by omega)
                simp only [this, Option.map_none, Option.getD_none, den_tuple_nil]
                rw [Array.getD_eq_getD_getElem?]
                simp only [Array.getElem?_append, List.size_toArray, List.length_map, ht, if_false, Array.getElem?_replicate]
                split <;> rfl
            · simp only [Fr.get, argsV_get]
              by_cases ht : t < args.length
              · simp only [List.getElem?_eq_getElem ht, Option.map_some, Option.getD_some]
                exact hin _ (List.getElem_mem ht)
              · have : args[t]? = none := List.getElem?_eq_none (by omega)
                simp only [this, Option.map_none, Option.getD_none]
                exact bare_undef _
            · obtain ⟨r1, r2⟩ := resOf_run hT hp.rep hf' hl
              have hres : (results fn a'.tmps).run P w' = .ok ((resVal l).den ρ ι') w' := by
                rw [results_eq]
                simp only [Sem.run_bind]
                rw [mapM_array (P := P) fn.results _ (l.map (SW.den ρ ι')) w' r1]
                simp only [Result.andThen_ok, Sem.run_pure]
                congr 1
                exact resVal_den l ρ ι'
              have hon : (resVal l).on (lim st'.nb A) := by
                unfold resVal
                split
                · exact r2 _ (List.mem_cons_self ..)
                · exact r2
              cases e with
              | normal => exact ⟨hd, _, hres, ι', rfl, hp, hon⟩
              | ret => exact ⟨hd, _, hres, ι', rfl, hp, hon⟩
              | exit i => exact absurd rfl (he i)
          split at h
          · exact er_ne h
          · exact stop_ne h
          · rename_i e fr' s1 hne hc
            split at h
            · rename_i l hl
              simp only [R.ok.injEq, Prod.mk.injEq] at h
              exact main hc (fun i hi => hne i (by rw [hi])) l hl h.1.symm h.2.symm
            · exact stop_ne h

end
end Go.Sx
