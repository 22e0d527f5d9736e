/-
  A symbolic executor for the model's code: types; comparison, conversion, one operand.
-/
import Derived.Test.YtdgilmobljbmcaaSx5
import Derived.Laws.Strings
namespace Go.Sx
set_option linter.unusedSimpArgs false
set_option linter.unusedVariables false

/-- The table of types tells what the program's does. -/
structure TyAt (P : Program) (t : TypeId) (i : TI) : Prop where
  und : P.underlying t = some i.desc
  info : ∃ f, P.info? t = some f ∧ f.size = i.size ∧ f.bytes = i.bytes ∧ f.zero = i.zero
  fs : ∀ fs, i.desc = .struct fs → i.fs = fs.toList.map fun f => (f.type, f.offset)
  safe : i.eqsafe = true → P.eqGuardType P.depth t = false ∧ ∀ fs, i.desc = .struct fs → P.stoodInHeld t = false ∧ ∀ f ∈ fs, f.name ≠ "_"

def TysOk (P : Program) (tys : Tr TI) : Prop := ∀ t i, tys.get t = some i → TyAt P t i

section
variable {P : Program}

theorem TyAt.runUnd {t : TypeId} {i : TI} (h : TyAt P t i) (w : World) : (underlying t).run P w = .ok i.desc w := run_underlying h.und w
theorem TyAt.runSize {t : TypeId} {i : TI} (h : TyAt P t i) (w : World) : (sizeOf t).run P w = .ok i.size w := by
  obtain ⟨f, h1, h2, _⟩ := h.info
  simp [sizeOf, typeInfo, h1, h2]
theorem TyAt.cellsOf {t : TypeId} {i : TI} (h : TyAt P t i) : P.cellsOf t = i.size := by
  obtain ⟨f, h1, h2, _⟩ := h.info
  simp [Program.cellsOf, h1, h2]
theorem TyAt.runInfo {t : TypeId} {i : TI} (h : TyAt P t i) (w : World) : ∃ f, (typeInfo t).run P w = .ok f w ∧ f.size = i.size ∧ f.bytes = i.bytes ∧ f.zero = i.zero := by
  obtain ⟨f, h1, h2, h3, h4⟩ := h.info
  exact ⟨f, by simp [typeInfo, h1], h2, h3, h4⟩
theorem TyAt.runAgg {t : TypeId} {i : TI} (h : TyAt P t i) (w : World) : (isAgg t).run P w = .ok (aggDesc i.desc) w := by
  unfold isAgg
  simp only [Sem.run_bind, h.runUnd, Result.andThen_ok]
  cases i.desc <;> rfl

theorem list_extract {α : Type} (xs : List α) (off n : Nat) : (xs.toArray.extract off (off + n)) = ((xs.drop off).take n).toArray := by
  simp [List.extract_eq_take_drop]

theorem part_run {C : Ctx} (hT : TysOk P C.tys) {t : TypeId} {xs : List SC} {off : Nat} {y : SW} (h : partS C t xs off = some y) (ρ : Env) (ι : Loc) (w : World) :
    (part t (xs.map (SC.den ρ ι)).toArray off).run P w = .ok (y.den ρ ι) w := by
  unfold partS at h
  split at h
  · cases h
  · rename_i i hi
    have ht := hT t i hi
    unfold part
    simp only [Sem.run_bind, ht.runAgg, Result.andThen_ok]
    split at h
    · rename_i ha
      split at h
      · simp only [Option.some.injEq] at h
        subst h
        simp only [ha, if_true, Sem.run_bind, ht.runSize, Result.andThen_ok, Sem.run_pure, list_extract, SW.den, List.map_take, List.map_drop]
      · cases h
    · rename_i ha
      simp only [Bool.not_eq_true] at ha
      simp only [ha, Bool.false_eq_true, if_false]
      cases hx : xs[off]? with
      | none => rw [hx] at h; cases h
      | some c =>
        rw [hx] at h
        simp only [Option.map_some, Option.some.injEq] at h
        subst h
        simp [hx, SW.den]

theorem partS_on {C : Ctx} {A : Nat → Prop} {t : TypeId} {xs : List SC} {off : Nat} {y : SW} (h : partS C t xs off = some y) (hx : ∀ c ∈ xs, c.on A) : y.on A := by
  unfold partS at h
  split at h
  · cases h
  · split at h
    · split at h
      · simp only [Option.some.injEq] at h
        subst h
        intro c hc
        exact hx c (List.mem_of_mem_drop (List.mem_of_mem_take hc))
      · cases h
    · cases hg : xs[off]? with
      | none => rw [hg] at h; cases h
      | some d =>
        rw [hg] at h
        simp only [Option.map_some, Option.some.injEq] at h
        subst h
        intro c hc
        simp only [SW.cells, List.mem_singleton] at hc
        subst hc
        exact hx _ (List.mem_of_getElem? hg)

/-- Whether two cells are alike, as '==' sees them. -/
def cellEq : Value → Value → Bool
  | .int _ a, .int _ b => a == b
  | .bool a, .bool b => a == b
  | .string a, .string b => a.toList == b.toList
  | _, _ => false

theorem ba_data (a b : ByteArray) : (a == b) = (a.data.toList == b.data.toList) := by
  cases a with
  | mk a =>
  cases b with
  | mk b =>
  show (a == b) = (a.toList == b.toList)
  rw [Bool.eq_iff_iff, beq_iff_eq, beq_iff_eq]
  exact Array.toList_inj.symm

/-- kinds that '==' may compare -/
def Fits (a b : Value) : Prop :=
  (∃ k m n, a = .int k m ∧ b = .int k n) ∨ (∃ m n, a = .bool m ∧ b = .bool n) ∨ ∃ m n, a = .string m ∧ b = .string n

/-- what a list of pairs comes to -/
def allEq (ρ : Env) (ι : Loc) (ps : List (SC × SC)) : Bool := ps.all fun p => cellEq (p.1.den ρ ι) (p.2.den ρ ι)

theorem allEq_append {ρ : Env} {ι : Loc} (l m : List (SC × SC)) : allEq ρ ι (l ++ m) = (allEq ρ ι l && allEq ρ ι m) := by simp [allEq]

theorem intSC_den {a : SC} (h : intSC a = true) (ρ : Env) (ι : Loc) : ∃ k n, a.den ρ ι = .int k n := by
  unfold intSC at h
  split at h
  · exact ⟨_, _, rfl⟩
  · exact ⟨_, _, rfl⟩
  · cases h
theorem boolSC_den {a : SC} (h : boolSC a = true) (ρ : Env) (ι : Loc) : ∃ n, a.den ρ ι = .bool n := by
  unfold boolSC at h
  split at h
  · exact ⟨_, rfl⟩
  · exact ⟨_, rfl⟩
  · cases h
theorem strSC_den {a : SC} (h : strSC a = true) (ρ : Env) (ι : Loc) : ∃ n, a.den ρ ι = .string n := by
  unfold strSC at h
  split at h
  · exact ⟨_, rfl⟩
  · exact ⟨_, rfl⟩
  · cases h

/-- equalIn's claim at depth d -/
def EqAt (P : Program) (C : Ctx) (ρ : Env) (ι : Loc) (w : World) (n d : Nat) : Prop :=
  ∀ t x y ps, eqPairs C n t x y = some ps → (∀ p ∈ ps, Fits (p.1.den ρ ι) (p.2.den ρ ι)) →
    (Op.equalIn d t (x.den ρ ι) (y.den ρ ι)).run P w = .ok (allEq ρ ι ps) w

theorem fieldsEq_run {C : Ctx} (hT : TysOk P C.tys) {ρ : Env} {ι : Loc} {w : World} {n d : Nat} (ih : EqAt P C ρ ι w n d) (xs ys : List SC) :
    ∀ (fs : List Field) (ps : List (SC × SC)), fieldsEq C (eqPairs C n) (fs.map fun f => (f.type, f.offset)) xs ys = some ps → (∀ p ∈ ps, Fits (p.1.den ρ ι) (p.2.den ρ ι)) →
      (∀ f ∈ fs, f.name ≠ "_") →
      (Sem.run P (forIn fs ((none, ()) : Option Bool × Unit) fun f __s =>
            if f.name ≠ "_" then do
              let __do_lift ← part f.type (xs.map (SC.den ρ ι)).toArray f.offset
              let __do_lift_1 ← part f.type (ys.map (SC.den ρ ι)).toArray f.offset
              let __do_lift ← Op.equalIn d f.type __do_lift __do_lift_1
              if (!__do_lift) = true then pure (ForInStep.done (some false, ())) else pure (ForInStep.yield (none, ()))
            else pure (ForInStep.yield (none, ()))) w) = .ok (if allEq ρ ι ps then (none, ()) else (some false, ())) w
  | [], ps, h, _, _ => by
    simp only [List.map_nil, fieldsEq, Option.some.injEq] at h
    subst h
    simp [allEq]
  | f :: fs, ps, h, hfit, hn => by
    simp only [List.map_cons, fieldsEq] at h
    split at h
    · rename_i p q hp hq
      split at h
      · rename_i l m hl hm
        simp only [Option.some.injEq] at h
        subst h
        have h1 := part_run hT hp ρ ι w
        have h2 := part_run hT hq ρ ι w
        have h3 := ih f.type p q l hl (fun x hx => hfit x (List.mem_append_left _ hx))
        have h4 := fieldsEq_run hT ih xs ys fs m hm (fun x hx => hfit x (List.mem_append_right _ hx)) (fun g hg => hn g (List.mem_cons_of_mem _ hg))
        have hf := hn f (List.mem_cons_self ..)
        simp only [List.forIn_cons, Sem.run_bind, hf, ne_eq, not_false_eq_true, if_true, h1, h2, h3, Result.andThen_ok, allEq_append]
        cases hr : allEq ρ ι l
        · simp
        · simp only [Bool.not_true, Bool.false_eq_true, if_false, Sem.run_pure, Result.andThen_ok, Bool.true_and]
          exact h4
      · cases h
    · cases h

theorem elemsEq_run {C : Ctx} (hT : TysOk P C.tys) {ρ : Env} {ι : Loc} {w : World} {n d : Nat} (ih : EqAt P C ρ ι w n d) (e : TypeId) (size : Nat) (xs ys : List SC) :
    ∀ (k s : Nat) (ps : List (SC × SC)), elemsEq C (eqPairs C n) e size xs ys k s = some ps → (∀ p ∈ ps, Fits (p.1.den ρ ι) (p.2.den ρ ι)) →
      (Sem.run P (forIn (List.range' s k) ((none, ()) : Option Bool × Unit) fun i __s => do
              let __do_lift ← part e (xs.map (SC.den ρ ι)).toArray (i * size)
              let __do_lift_1 ← part e (ys.map (SC.den ρ ι)).toArray (i * size)
              let __do_lift ← Op.equalIn d e __do_lift __do_lift_1
              if (!__do_lift) = true then pure (ForInStep.done (some false, ())) else pure (ForInStep.yield (none, ()))) w) =
        .ok (if allEq ρ ι ps then (none, ()) else (some false, ())) w
  | 0, s, ps, h, _ => by
    simp only [elemsEq, Option.some.injEq] at h
    subst h
    simp [allEq]
  | k + 1, s, ps, h, hfit => by
    simp only [elemsEq] at h
    split at h
    · rename_i p q hp hq
      split at h
      · rename_i l m hl hm
        simp only [Option.some.injEq] at h
        subst h
        have h1 := part_run hT hp ρ ι w
        have h2 := part_run hT hq ρ ι w
        have h3 := ih e p q l hl (fun x hx => hfit x (List.mem_append_left _ hx))
        have h4 := elemsEq_run hT ih e size xs ys k (s + 1) m hm (fun x hx => hfit x (List.mem_append_right _ hx))
        simp only [List.range'_succ, List.forIn_cons, Sem.run_bind, h1, h2, h3, Result.andThen_ok, allEq_append]
        cases hr : allEq ρ ι l
        · simp
        · simp only [Bool.not_true, Bool.false_eq_true, if_false, Sem.run_pure, Result.andThen_ok, Bool.true_and]
          exact h4
      · cases h
    · cases h

theorem eqPairs_run {C : Ctx} (hT : TysOk P C.tys) (ρ : Env) (ι : Loc) (w : World) : ∀ n d, n ≤ d → EqAt P C ρ ι w n d := by
  intro n
  induction n with
  | zero => intro d _ t x y ps h; simp [eqPairs] at h
  | succ n ih =>
    intro d hd t x y ps h hfit
    obtain ⟨d, rfl⟩ : ∃ e, d = e + 1 := ⟨d - 1, by omega⟩
    have ih' := ih d (by omega)
    simp only [eqPairs] at h
    split at h
    · cases h
    · rename_i i hi
      have ht := hT t i hi
      split at h
      · rename_i k a b hd'
        split at h
        · rename_i hk
          simp only [Bool.and_eq_true] at hk
          simp only [Option.some.injEq] at h
          subst h
          obtain ⟨k1, n1, e1⟩ := intSC_den hk.1 ρ ι
          obtain ⟨k2, n2, e2⟩ := intSC_den hk.2 ρ ι
          have hf := hfit (a, b) (by simp)
          simp only [e1, e2, Fits] at hf
          have hkk : k1 = k2 := by
            rcases hf with ⟨k, m, n, h1, h2⟩ | ⟨m, n, h1, h2⟩ | ⟨m, n, h1, h2⟩
            · simp only [Value.int.injEq] at h1 h2; rw [h1.1, h2.1]
            · cases h1
            · cases h1
          subst hkk
          simp only [Op.equalIn, Sem.run_bind, ht.runUnd, hd', Result.andThen_ok, SW.den, e1, e2, if_true, Sem.run_pure, allEq, List.all_cons, List.all_nil, cellEq, Bool.and_true]
        · cases h
      · rename_i a b hd'
        split at h
        · rename_i hk
          simp only [Bool.and_eq_true] at hk
          simp only [Option.some.injEq] at h
          subst h
          obtain ⟨n1, e1⟩ := boolSC_den hk.1 ρ ι
          obtain ⟨n2, e2⟩ := boolSC_den hk.2 ρ ι
          simp only [Op.equalIn, Sem.run_bind, ht.runUnd, hd', Result.andThen_ok, SW.den, e1, e2, if_true, Sem.run_pure, allEq, List.all_cons, List.all_nil, cellEq, Bool.and_true]
        · cases h
      · rename_i a b hd'
        split at h
        · rename_i hk
          simp only [Bool.and_eq_true] at hk
          simp only [Option.some.injEq] at h
          subst h
          obtain ⟨n1, e1⟩ := strSC_den hk.1 ρ ι
          obtain ⟨n2, e2⟩ := strSC_den hk.2 ρ ι
          simp only [Op.equalIn, Sem.run_bind, ht.runUnd, hd', Result.andThen_ok, SW.den, e1, e2, if_true, Sem.run_pure, allEq, List.all_cons, List.all_nil, cellEq, Bool.and_true, ba_data, ByteArray.toList_eq]
        · cases h
      · rename_i fs xs ys hd'
        split at h
        · rename_i hsafe
          obtain ⟨s1, s2⟩ := ht.safe hsafe
          obtain ⟨s3, s4⟩ := s2 fs hd'
          rw [ht.fs fs hd'] at h
          have key := fieldsEq_run hT ih' xs ys fs.toList ps h hfit (fun f hf => s4 f (by simpa using hf))
          simp only [Op.equalIn, Sem.run_bind, ht.runUnd, hd', Result.andThen_ok, SW.den, run_program, s3, Bool.false_eq_true, if_false]
          rw [← Array.forIn_toList]
          rw [key]
          cases allEq ρ ι ps <;> simp
        · cases h
      · rename_i m e xs ys hd'
        split at h
        · cases h
        · rename_i j hj
          have hte := hT e j hj
          have key := elemsEq_run hT ih' e j.size xs ys m 0 ps h hfit
          simp only [Op.equalIn, Sem.run_bind, ht.runUnd, hd', Result.andThen_ok, SW.den, hte.runSize, Std.Legacy.Range.forIn_eq_forIn_range']
          simp only [Std.Legacy.Range.size, Nat.sub_zero, Nat.add_sub_cancel, Nat.div_one]
          rw [key]
          cases allEq ρ ι ps <;> simp
      · cases h

/-! ### '==' on whole values -/
def LeafOk (ρ : Env) (ι : Loc) (p : SC × SC) : Leaf → Prop
  | .bad => True
  | .same => Fits (p.1.den ρ ι) (p.2.den ρ ι) ∧ cellEq (p.1.den ρ ι) (p.2.den ρ ι) = true
  | .unlike => Fits (p.1.den ρ ι) (p.2.den ρ ι) ∧ cellEq (p.1.den ρ ι) (p.2.den ρ ι) = false
  | .ask q => Fits (p.1.den ρ ι) (p.2.den ρ ι) ∧ cellEq (p.1.den ρ ι) (p.2.den ρ ι) = q.den ρ

theorem leafOf_ok {ρ : Env} {ι : Loc} {st : St} (hf : Facts ρ st) (p : SC × SC) : LeafOk ρ ι p (leafOf st p) := by
  unfold leafOf
  split
  · rename_i k a k' b h1 h2
    have e1 := ia_den (ι := ι) hf h1
    have e2 := ia_den (ι := ι) hf h2
    by_cases hk : kindEq k k' = true
    · simp only [hk, Bool.not_true, Bool.false_eq_true, if_false]
      rw [kindEq_true] at hk
      subst hk
      have hfit : Fits (p.1.den ρ ι) (p.2.den ρ ι) := .inl ⟨k, _, _, e1, e2⟩
      split
      · split <;> simp_all [cellEq, IA.den, LeafOk]
      · split <;> simp_all [cellEq, IA.den, PE.den, LeafOk]
      · simp_all [cellEq, IA.den, PE.den, LeafOk]
    · simp [hk, LeafOk]
  · split
    · rename_i a b h1 h2
      have e1 := ba_den (ι := ι) hf h1
      have e2 := ba_den (ι := ι) hf h2
      have hfit : Fits (p.1.den ρ ι) (p.2.den ρ ι) := .inr (.inl ⟨_, _, e1, e2⟩)
      split
      · split <;> simp_all [cellEq, BA.den, LeafOk]
      · split
        · rename_i hh
          simp only [Bool.and_eq_true, Nat.beq_eq_true_eq, beq_iff_eq] at hh
          simp_all [cellEq, BA.den, LeafOk]
        · simp_all [cellEq, BA.den, PE.den, LeafOk]
      · simp_all [cellEq, BA.den, PE.den, LeafOk]
    · split
      · rename_i a b h1 h2
        have e1 := sa_den (ρ := ρ) (ι := ι) h1
        have e2 := sa_den (ρ := ρ) (ι := ι) h2
        have hfit : Fits (p.1.den ρ ι) (p.2.den ρ ι) := .inr (.inr ⟨_, _, e1, e2⟩)
        split
        · split <;> simp_all [cellEq, SA.den, ByteArray.toList_eq, LeafOk]
        · split <;> simp_all [cellEq, SA.den, PE.den, ByteArray.toList_eq, LeafOk]
        · simp_all [cellEq, SA.den, PE.den, ByteArray.toList_eq, LeafOk]
      · trivial

theorem leaves_ok {ρ : Env} {ι : Loc} {st : St} (hf : Facts ρ st) : ∀ (ps : List (SC × SC)) (r : Option (List PE)), leaves st ps = some r →
    (∀ p ∈ ps, Fits (p.1.den ρ ι) (p.2.den ρ ι)) ∧ allEq ρ ι ps = (match r with | none => false | some l => l.all (PE.den ρ))
  | [], r, h => by simp [leaves] at h; subst h; simp [allEq]
  | p :: ps, r, h => by
    have hl := leafOf_ok (ι := ι) hf p
    have ih := leaves_ok (ι := ι) hf ps
    simp only [leaves] at h
    split at h
    · cases h
    · cases h
    · rename_i hlp hr
      rw [hlp] at hl
      simp only [LeafOk] at hl
      simp only [Option.some.injEq] at h
      subst h
      cases hps' : leaves st ps with
      | none => simp_all
      | some r'' =>
        have := ih r'' hps'
        refine ⟨fun q hq => ?_, ?_⟩
        · rcases List.mem_cons.1 hq with rfl | hq
          · exact hl.1
          · exact this.1 q hq
        · simp [allEq, hl.2]
    · rename_i hps _ _
      simp only [Option.some.injEq] at h
      subst h
      have := ih none hps
      refine ⟨fun q hq => ?_, ?_⟩
      · rcases List.mem_cons.1 hq with rfl | hq
        · cases hlp : leafOf st q <;> rw [hlp] at hl <;> simp only [LeafOk] at hl <;> first | exact hl.1 | simp_all
        · exact this.1 q hq
      · have h2 := this.2
        simp only [allEq] at h2
        simp [allEq, h2]
    · rename_i l hlp hps
      rw [hlp] at hl
      simp only [LeafOk] at hl
      simp only [Option.some.injEq] at h
      subst h
      have := ih (some l) hps
      refine ⟨fun q hq => ?_, ?_⟩
      · rcases List.mem_cons.1 hq with rfl | hq
        · exact hl.1
        · exact this.1 q hq
      · have h2 := this.2
        simp only [allEq] at h2
        simp [allEq, hl.2, h2]
    · rename_i q l hlp hps
      rw [hlp] at hl
      simp only [LeafOk] at hl
      simp only [Option.some.injEq] at h
      subst h
      have := ih (some l) hps
      refine ⟨fun q hq => ?_, ?_⟩
      · rcases List.mem_cons.1 hq with rfl | hq
        · exact hl.1
        · exact this.1 q hq
      · have h2 := this.2
        simp only [allEq] at h2
        simp [allEq, hl.2, h2]

theorem eqOp_cases {op : BinOp} (h : eqOp op = true) : (op = .eql ∧ isNeq op = false) ∨ (op = .neq ∧ isNeq op = true) := by
  cases op <;> simp [eqOp] at h <;> simp [isNeq]

/-- which kinds '==' hands to 'equal' -/
def notArith : Value → Bool
  | .bool _ => true
  | .agg _ => true
  | .pointer _ => true
  | .slice _ _ _ => true
  | _ => false

theorem binOp_eq_run {op : BinOp} (ho : eqOp op = true) {t : TypeId} {a b : Value} {r : Bool} {w : World} (hn : notArith a = true) (he : (Op.equal t a b).run P w = .ok r w) :
    (binOp op t a b).run P w = .ok (.bool (xor r (isNeq op))) w := by
  rcases eqOp_cases ho with ⟨rfl, h2⟩ | ⟨rfl, h2⟩
  · rw [h2]
    cases a <;> simp [notArith] at hn <;> simp [binOp, he]
  · rw [h2]
    cases a <;> simp [notArith] at hn <;> simp [binOp, he]

theorem eqGuard_agg {op : BinOp} {t : TypeId} {x y : Operand} {xs ys : Array Value} (h : P.eqGuardType P.depth t = false) (w : World) :
    (eqGuard op t x y (.agg xs) (.agg ys)).run P w = .ok () w := by
  unfold eqGuard
  cases op <;> simp [h]

theorem topSafe_ok {C : Ctx} (hT : TysOk P C.tys) {t : TypeId} {xs : List SC} (h : topSafe C t (.agg xs) = true) : P.eqGuardType P.depth t = false := by
  unfold topSafe at h
  simp only at h
  split at h
  · rename_i i hi
    exact ((hT t i hi).safe h).1
  · cases h

theorem eqS_gives {Φ : Phi} {C : Ctx} (hT : TysOk P C.tys) {op : BinOp} (ho : eqOp op = true) {t : TypeId} {x y : SW} {st st' : St} {v : SV} (h : eqS C (isNeq op) t x y st = .ok (v, st'))
    (hn : ∀ ρ ι, notArith (x.den ρ ι) = true) :
    Gives Φ st v st' fun ρ ι z => ∀ w, (binOp op t (x.den ρ ι) (y.den ρ ι)).run P w = .ok z w := by
  unfold eqS at h
  split at h
  · simp [stop] at h
  · split at h
    · simp [stop] at h
    · rename_i ps hps
      have key : ∀ ρ ι, Facts ρ st → ∀ r, leaves st ps = some r → ∀ w, (binOp op t (x.den ρ ι) (y.den ρ ι)).run P w = .ok (.bool (xor (match r with | none => false | some l => l.all (PE.den ρ)) (isNeq op))) w := by
        intro ρ ι hf r hr w
        obtain ⟨h1, h2⟩ := leaves_ok (ι := ι) hf ps r hr
        have h3 := eqPairs_run hT ρ ι w 100 10000 (by omega) t x y ps hps h1
        rw [← h2]
        exact binOp_eq_run ho (hn ρ ι) h3
      split at h
      · simp [stop] at h
      · rename_i hl
        simp only [R.ok.injEq, Prod.mk.injEq] at h
        obtain ⟨rfl, rfl⟩ := h
        refine .lit (bare_litB _) fun ρ hf ι w => ?_
        rw [key ρ ι hf _ hl w]
        simp [litB, SV.den, SW.den, SC.den]
      · rename_i hl
        simp only [R.ok.injEq, Prod.mk.injEq] at h
        obtain ⟨rfl, rfl⟩ := h
        refine .lit (bare_litB _) fun ρ hf ι w => ?_
        rw [key ρ ι hf _ hl w]
        simp [litB, SV.den, SW.den, SC.den]
      · rename_i l _ hl
        have g := mkB_gives (Φ := Φ) h
        refine ⟨g.quiet, g.bare, fun ρ hlog hf ι w => ?_⟩
        rw [g.den ρ hlog hf ι, key ρ ι hf _ hl w]
        rfl

theorem str_add_run {t : TypeId} (m n : ByteArray) (h : m.size + n.size ≤ 1000000) (w : World) : (binOp .add t (.string m) (.string n)).run P w = .ok (.string (m ++ n)) w := by
  have : ¬ (((m.size + n.size : Nat) : Int) > IntKind.i64.max) := by
    have : IntKind.i64.max = 9223372036854775807 := by rfl
    omega
  simp only [binOp, Op.stringOp]
  rw [if_neg this]
  rfl

theorem strBin_gives {Φ : Phi} {op : BinOp} {t : TypeId} {p q : SA} {st st' : St} {v : SV} (h : strBin op p q st = .ok (v, st')) :
    Gives Φ st v st' fun ρ ι z => ∀ w, (binOp op t (.string (p.den ρ)) (.string (q.den ρ))).run P w = .ok z w := by
  have heq : ∀ (a b : ByteArray) w, (binOp .eql t (.string a) (.string b)).run P w = .ok (.bool (a.data.toList == b.data.toList)) w := by
    intro a b w; simp [binOp, Op.stringOp, ByteArray.toList_eq]
  have hne : ∀ (a b : ByteArray) w, (binOp .neq t (.string a) (.string b)).run P w = .ok (.bool (!(a.data.toList == b.data.toList))) w := by
    intro a b w; simp [binOp, Op.stringOp, ByteArray.toList_eq]
  unfold strBin at h
  split at h
  · split at h
    · simp only [R.ok.injEq, Prod.mk.injEq] at h
      obtain ⟨rfl, rfl⟩ := h
      refine .lit (bare_litB _) fun ρ hf ι w => ?_
      rw [heq]
      simp [litB, SV.den, SW.den, SC.den, isNeq, SA.den]
    · have g := mkB_gives (Φ := Φ) h
      refine ⟨g.quiet, g.bare, fun ρ hl hf ι w => ?_⟩
      rw [g.den ρ hl hf ι, heq]
      simp only [BE.den, List.all_cons, List.all_nil, PE.den, isNeq, Bool.and_true, Bool.xor_false]
  · split at h
    · simp only [R.ok.injEq, Prod.mk.injEq] at h
      obtain ⟨rfl, rfl⟩ := h
      refine .lit (bare_litB _) fun ρ hf ι w => ?_
      rw [hne]
      simp [litB, SV.den, SW.den, SC.den, isNeq, SA.den]
    · have g := mkB_gives (Φ := Φ) h
      refine ⟨g.quiet, g.bare, fun ρ hl hf ι w => ?_⟩
      rw [g.den ρ hl hf ι, hne]
      simp only [BE.den, List.all_cons, List.all_nil, PE.den, isNeq, Bool.and_true, Bool.xor_true]
  · split at h
    · split at h
      · rename_i m n hs
        simp only [R.ok.injEq, Prod.mk.injEq] at h
        obtain ⟨rfl, rfl⟩ := h
        refine .lit (bare_c fun _ => trivial) fun ρ hf ι w => ?_
        have hs' : m.size + n.size ≤ 1000000 := by simpa using hs
        exact str_add_run m n hs' w
      · simp [stop] at h
    · simp [stop] at h
  · simp [stop] at h

theorem eqIn_any {t : TypeId} {a b : Value} {r : Bool} {w : World} (h : ∀ d, (Op.equalIn (d + 1) t a b).run P w = .ok r w) : (Op.equal t a b).run P w = .ok r w := h 9999

theorem nilEq_gives {Φ : Phi} {C : Ctx} (hT : TysOk P C.tys) {op : BinOp} (ho : eqOp op = true) {t : TypeId} {x y : SC} {st st' : St} {v : SV} (h : nilEq C op t x y st = .ok (v, st')) :
    Gives Φ st v st' fun ρ ι z => ∀ w, (binOp op t (x.den ρ ι) (y.den ρ ι)).run P w = .ok z w := by
  have hd : ∀ d, descOf C t = some d → P.underlying t = some d := by
    intro d hd
    unfold descOf at hd
    cases hg : C.tys.get t with
    | none => rw [hg] at hd; cases hd
    | some i => rw [hg] at hd; simp only [Option.map_some, Option.some.injEq] at hd; rw [← hd]; exact (hT t i hg).und
  unfold nilEq at h
  split at h <;> first
    | (simp [stop] at h; done)
    | (simp only [R.ok.injEq, Prod.mk.injEq] at h
       obtain ⟨rfl, rfl⟩ := h
       refine .lit (bare_litB _) fun ρ hf ι w => ?_
       first
         | (refine (binOp_eq_run (r := false) ho rfl ?_).trans ?_
            · exact eqIn_any (fun d => by simp [Op.equalIn, run_underlying (hd _ (by assumption)), SC.den])
            · (rcases eqOp_cases ho with ⟨rfl, h2⟩ | ⟨rfl, h2⟩ <;> simp [h2, litB, SV.den, SW.den, SC.den]; done))
         | (refine (binOp_eq_run (r := true) ho rfl ?_).trans ?_
            · exact eqIn_any (fun d => by simp [Op.equalIn, run_underlying (hd _ (by assumption)), SC.den])
            · rcases eqOp_cases ho with ⟨rfl, h2⟩ | ⟨rfl, h2⟩ <;> simp [h2, litB, SV.den, SW.den, SC.den]))

theorem ia_notagg {ρ : Env} {ι : Loc} {x : SC} (h : ∀ v, x ≠ .lit v) : ∀ cs, x.den ρ ι ≠ .agg cs := by
  intro cs
  cases x <;> simp [SC.den]
  exact absurd rfl (h _)

theorem binS_gives {Φ : Phi} {C : Ctx} (hT : TysOk P C.tys) {op : BinOp} {t : TypeId} {a b : SV} {st st' : St} {v : SV} (h : binS C op t a b st = .ok (v, st')) :
    Gives Φ st v st' fun ρ ι z => ∀ w x y, (binM op t x y (a.den ρ ι) (b.den ρ ι)).run P w = .ok z w := by
  unfold binS at h
  split at h
  · rename_i x y
    split at h
    · rename_i k p k' q h1 h2
      have g := intBin_gives (Φ := Φ) (P := P) (t := t) h
      refine ⟨g.quiet, g.bare, fun ρ hl hf ι w ox oy => ?_⟩
      have e1 := ia_den (ι := ι) hf h1
      have e2 := ia_den (ι := ι) hf h2
      have := g.den ρ hl hf ι w
      simp only [SV.den, SW.den, e1, e2, binM, Sem.run_bind]
      rw [eqGuard_plain (by simp) (by simp)]
      exact this
    · split at h
      · rename_i p q h1 h2
        have g := strBin_gives (Φ := Φ) (P := P) (t := t) h
        refine ⟨g.quiet, g.bare, fun ρ hl hf ι w ox oy => ?_⟩
        have e1 := sa_den (ρ := ρ) (ι := ι) h1
        have e2 := sa_den (ρ := ρ) (ι := ι) h2
        have := g.den ρ hl hf ι w
        simp only [SV.den, SW.den, e1, e2, binM, Sem.run_bind]
        rw [eqGuard_plain (by simp) (by simp)]
        exact this
      · split at h
        · rename_i p q h1 h2
          split at h
          · rename_i ho
            have hb : ∀ ρ ι, ∃ c, x.den ρ ι = .bool c := by
              intro ρ ι
              cases x with
              | lit v => cases v <;> simp [SC.ba] at h1; exact ⟨_, rfl⟩
              | bvar x g => exact ⟨_, rfl⟩
              | _ => simp [SC.ba] at h1
            have g := eqS_gives (Φ := Φ) hT ho h (fun ρ ι => by obtain ⟨c, hc⟩ := hb ρ ι; simp [SW.den, hc, notArith])
            refine ⟨g.quiet, g.bare, fun ρ hl hf ι w ox oy => ?_⟩
            have e1 := ba_den (ι := ι) hf h1
            have e2 := ba_den (ι := ι) hf h2
            have := g.den ρ hl hf ι w
            simp only [SW.den, e1, e2] at this
            simp only [SV.den, SW.den, e1, e2, binM, Sem.run_bind]
            rw [eqGuard_plain (by simp) (by simp)]
            exact this
          · simp [stop] at h
        · split at h
          · rename_i ho
            have g := nilEq_gives (Φ := Φ) hT ho h
            refine ⟨g.quiet, g.bare, fun ρ hl hf ι w ox oy => ?_⟩
            have := g.den ρ hl hf ι w
            simp only [SV.den, SW.den, binM, Sem.run_bind]
            have hsh : (∀ cs ds, ¬ (x.den ρ ι = .agg cs ∧ y.den ρ ι = .agg ds)) ∧ ¬ (x.den ρ ι = .nilIface ∧ y.den ρ ι = .nilIface) := by
              unfold nilEq at h
              split at h <;> first
                | (simp [stop] at h; done)
                | simp [SC.den]
            rw [eqGuard_plain hsh.1 hsh.2]
            exact this
          · simp [stop] at h
  · rename_i xs ys
    split at h
    · rename_i ho
      have hs : topSafe C t (.agg xs) = true := by
        unfold eqS at h
        cases hts : topSafe C t (.agg xs) with
        | true => rfl
        | false => rw [hts] at h; simp [stop] at h
      have g := eqS_gives (Φ := Φ) hT ho h (fun ρ ι => by simp [SW.den, notArith])
      refine ⟨g.quiet, g.bare, fun ρ hl hf ι w ox oy => ?_⟩
      have := g.den ρ hl hf ι w
      simp only [SW.den] at this
      simp only [SV.den, SW.den, binM, Sem.run_bind]
      rw [eqGuard_agg (topSafe_ok hT hs)]
      exact this
    · simp [stop] at h
  · simp [stop] at h

theorem unS_gives {Φ : Phi} {op : UnOp} {a : SV} {st st' : St} {v : SV} (h : unS op a st = .ok (v, st')) :
    Gives Φ st v st' fun ρ ι z => ∀ w, (Op.unary op (a.den ρ ι)).run P w = .ok z w := by
  unfold unS at h
  split at h
  · simp only [R.ok.injEq, Prod.mk.injEq] at h
    obtain ⟨rfl, rfl⟩ := h
    exact .lit (bare_litB _) fun ρ hf ι w => rfl
  · simp only [R.ok.injEq, Prod.mk.injEq] at h
    obtain ⟨rfl, rfl⟩ := h
    refine .lit (bare_c fun _ => trivial) fun ρ hf ι w => ?_
    simp [SV.den, SW.den, SC.den, Op.unary]
  · split at h
    · rename_i k p h1
      have g := intBin_gives (Φ := Φ) (P := P) (t := 0) h
      refine ⟨g.quiet, g.bare, fun ρ hl hf ι w => ?_⟩
      have e1 := ia_den (ι := ι) hf h1
      have := g.den ρ hl hf ι w
      generalize v.den ρ ι = z at this ⊢
      simp only [SV.den, SW.den, e1]
      simpa [Op.unary, binOp, IA.den] using this
    · simp [stop] at h
  · split at h
    · rename_i k p h1
      have g := intBin_gives (Φ := Φ) (P := P) (t := 0) h
      refine ⟨g.quiet, g.bare, fun ρ hl hf ι w => ?_⟩
      have e1 := ia_den (ι := ι) hf h1
      have := g.den ρ hl hf ι w
      generalize v.den ρ ι = z at this ⊢
      simp only [SV.den, SW.den, e1]
      simpa [Op.unary, binOp, IA.den] using this
    · simp [stop] at h
  · simp [stop] at h

theorem descOf_ok {C : Ctx} (hT : TysOk P C.tys) {t : TypeId} {d : TypeDesc} (hd : descOf C t = some d) : P.underlying t = some d := by
  unfold descOf at hd
  cases hg : C.tys.get t with
  | none => rw [hg] at hd; cases hd
  | some i => rw [hg] at hd; simp only [Option.map_some, Option.some.injEq] at hd; rw [← hd]; exact (hT t i hg).und

theorem convS_gives {Φ : Phi} {C : Ctx} (hT : TysOk P C.tys) {s t : TypeId} {a : SV} {st st' : St} {v : SV} (h : convS C s t a st = .ok (v, st')) :
    Gives Φ st v st' fun ρ ι z => ∀ w, (convert s t (a.den ρ ι)).run P w = .ok z w := by
  unfold convS at h
  split at h
  · rename_i k1 k x hs ht
    have hs' := descOf_ok hT hs
    have ht' := descOf_ok hT ht
    have key : ∀ k' n w, (convert s t (.int k' n)).run P w = .ok (.int k (k.wrap n)) w := by
      intro k' n w
      simp [convert, run_underlying hs', run_underlying ht', Conv.intToInt]
    split at h
    · rename_i k' n h1
      simp only [R.ok.injEq, Prod.mk.injEq] at h
      obtain ⟨rfl, rfl⟩ := h
      refine .lit (bare_litI _ _) fun ρ hf ι w => ?_
      have e1 := ia_den (ι := ι) hf h1
      simp only [SV.den, SW.den, e1, key]
      rfl
    · rename_i k' p _ h1
      have g := mkI_gives (Φ := Φ) h
      refine ⟨g.quiet, g.bare, fun ρ hl hf ι w => ?_⟩
      have e1 := ia_den (ι := ι) hf h1
      rw [(g.den ρ hl hf ι).1]
      simp only [SV.den, SW.den, e1, key]
      rfl
    · simp [stop] at h
  · rename_i str hs ht
    have hs' := descOf_ok hT hs
    have ht' := descOf_ok hT ht
    simp only [R.ok.injEq, Prod.mk.injEq] at h
    obtain ⟨rfl, rfl⟩ := h
    refine .lit (bare_c fun _ => trivial) fun ρ hf ι w => ?_
    simp [convert, run_underlying hs', run_underlying ht', SV.den, SW.den, SC.den]
  · simp [stop] at h

end
end Go.Sx
