/-
  A fast symbolic executor for the model's code, proved right: part E.
-/
import Derived.Test.YtgeankpiediebaaGreatHxD
noncomputable section
namespace Go.Fx
set_option linter.unusedSimpArgs false
set_option linter.unusedVariables false
set_option linter.unusedSectionVars false

/-- a word's lowest bits are these, c of them; a number is above -/
def hasT (t : Tr Bool) (n : Nat) : Bool := match Tr.get (pa n) t with | some _ => true | none => false
def bitsC (c : Nat) : Nat := bif Nat.beq c 20 then 12 else 20
def immS (c : Nat) (E : SE) : SE := bif Nat.beq c 20 then mkSx E 12 else mkSx (mkCat (.lit 0) 12 E) 32
def immI (c : Nat) (e : Int) : Int := bif Nat.beq c 20 then sgn (e % 2 ^ 12) 12 else sgn ((2 ^ 12 * e) % 2 ^ 32) 32
def immK (c e : Nat) : Int := bif Nat.beq c 20 then sgn (Int.ofNat (Nat.mod e 4096)) 12 else sgn (Int.ofNat (Nat.mod (Nat.mul 4096 e) M32)) 32
def decS (t20 t12 : Tr Bool) (args : List V) (st : St) (ko : KO) : Ans :=
  match args with
  | [.c (.ivar .u32 (.cat (.lit (.ofNat L)) c E))] =>
    bif ubLe E (bitsC c) && (bif Nat.beq c 20 then hasT t20 L else Nat.beq c 12 && hasT t12 L) then
      (match decW L with
      | some [o, d, r, q, _] => ko (.ret (.t [.a [o, d, r, q, .ivar .i32 (immS c E)], .c (.bool true)])) st
      | _ => .stop 330 "")
    else .stop 331 ""
  | [.c (.u32 x)] =>
    bif hasT t20 (Nat.mod x 1048576) then
      (match decW (Nat.mod x 1048576) with
      | some [o, d, r, q, _] => ko (.ret (.t [.a [o, d, r, q, ofInt .i32 (immK 20 (Nat.div x 1048576))], .c (.bool true)])) st
      | _ => .stop 330 "")
    else bif hasT t12 (Nat.mod x 4096) then
      (match decW (Nat.mod x 4096) with
      | some [o, d, r, q, _] => ko (.ret (.t [.a [o, d, r, q, ofInt .i32 (immK 12 (Nat.div x 4096))], .c (.bool true)])) st
      | _ => .stop 330 "")
    else .stop 332 ""
  | _ => .stop 333 ""
def decSP (t20 t12 : Tr Bool) (args : List V) : Bool :=
  match args with
  | [.c (.ivar .u32 (.cat (.lit (.ofNat L)) c E))] => ubLe E (bitsC c) && (bif Nat.beq c 20 then hasT t20 L else Nat.beq c 12 && hasT t12 L)
  | [.c (.u32 x)] => hasT t20 (Nat.mod x 1048576) || hasT t12 (Nat.mod x 4096)
  | _ => false
def litB : C → Bool
  | .i64 n => inS M63 n
  | _ => false
/-- run: reading such a word gives what is said -/
def decSChk (X : XC) (dec c L : Nat) : Bool :=
  (Nat.beq c 20 || Nat.beq c 12) && (Nat.blt L (p2 c) && (match decW L with
  | some [o, d, r, q, _] => [o, d, r, q].all litB && (match run X 90 dec [.c (.ivar .u32 (.cat (.lit (.ofNat L)) c (.ext (.v .u32 0) 0 (bitsC c))))] 0 with
    | .ret (.t [.a [o', d', r', q', .ivar .i32 y], .c (.bool b)]) => eqLB [o, d, r, q] [o', d', r', q'] && (SE.beq y (immS c (.ext (.v .u32 0) 0 (bitsC c))) && b)
    | _ => false)
  | _ => false))
def encS (t20 t12 : Tr Bool) (args : List V) (st : St) (ko : KO) : Ans :=
  match args with
  | [.a [.i64 (.ofNat op), .i64 (.ofNat rd), .i64 (.ofNat r1), .i64 (.ofNat r2), .ivar .i32 (.sx E m)]] =>
    (match encW op rd r1 r2 0 with
    | some L =>
      (match decW L with
      | some l => bif eqLB l [.i64 (.ofNat op), .i64 (.ofNat rd), .i64 (.ofNat r1), .i64 (.ofNat r2), .i32 0] then
          (bif Nat.beq m 12 && hasT t20 L then ko (.ret (.t [.c (.ivar .u32 (mkCat (.lit (.ofNat L)) 20 (mkExt E 0 12))), .c (.i64 (.ofNat 0))])) st
          else (match E with
            | .hi v => bif Nat.beq m 32 && hasT t12 L then ko (.ret (.t [.c (.ivar .u32 (mkCat (.lit (.ofNat L)) 12 (.ext (.hi v) 12 20))), .c (.i64 (.ofNat 0))])) st else .stop 340 ""
            | _ => .stop 341 ""))
        else .stop 342 ""
      | none => .stop 343 "")
    | none => .stop 344 "")
  | [.a [.i64 (.ofNat op), .i64 (.ofNat rd), .i64 (.ofNat r1), .i64 (.ofNat r2), .i32 n]] =>
    (match encW op rd r1 r2 0 with
    | some L =>
      (match decW L with
      | some l => bif eqLB l [.i64 (.ofNat op), .i64 (.ofNat rd), .i64 (.ofNat r1), .i64 (.ofNat r2), .i32 0] then
          (bif hasT t20 L && (ble' (-2048) n && ble' n 2047) then ko (.ret (.t [.c (.u32 (Nat.add L (Nat.mul 1048576 (bitsI n 4096)))), .c (.i64 (.ofNat 0))])) st
          else bif hasT t12 L && (Nat.beq (Nat.mod (bitsI n M32) 4096) 0 && inS M31 n) then ko (.ret (.t [.c (.u32 (Nat.add L (bitsI n M32))), .c (.i64 (.ofNat 0))])) st
          else .stop 345 "")
        else .stop 342 ""
      | none => .stop 343 "")
    | none => .stop 344 "")
  | _ => .stop 346 ""
def encSP (t20 t12 : Tr Bool) (args : List V) : Bool :=
  match args with
  | [.a [.i64 (.ofNat op), .i64 (.ofNat rd), .i64 (.ofNat r1), .i64 (.ofNat r2), .ivar .i32 (.sx E m)]] =>
    (match encW op rd r1 r2 0 with
    | some L => bif Nat.beq m 12 then hasT t20 L else (match E with | .hi _ => Nat.beq m 32 && hasT t12 L | _ => false)
    | none => false)
  | [.a [.i64 (.ofNat op), .i64 (.ofNat rd), .i64 (.ofNat r1), .i64 (.ofNat r2), .i32 n]] =>
    (match encW op rd r1 r2 0 with
    | some L => bif hasT t20 L then ble' (-2048) n && ble' n 2047 else hasT t12 L && (Nat.beq (Nat.mod (bitsI n M32) 4096) 0 && inS M31 n)
    | none => false)
  | _ => false
def encSChk (X : XC) (enc c L : Nat) : Bool :=
  (Nat.beq c 20 || Nat.beq c 12) && (Nat.blt L (p2 c) && (match decW L with
  | some [o, d, r, q, n] => eqCB n (.i32 0) && ([o, d, r, q].all litB && (match run X 90 enc [.a [o, d, r, q, .ivar .i32 (bif Nat.beq c 20 then .sx (.ext (.v .u32 0) 0 12) 12 else .sx (.hi (.v .u32 0)) 32)]] 0 with
    | .ret (.t [.c (.ivar .u32 y), .c (.i64 e)]) => SE.beq y (.cat (.lit (.ofNat L)) c (bif Nat.beq c 20 then .ext (.v .u32 0) 0 12 else .ext (.hi (.v .u32 0)) 12 20)) && decide (e = 0)
    | _ => false))
  | _ => false))

section
variable {P : Program} {ρ : Env} {R : V → Prop}
theorem hasT_mem {l : List Nat} {x : Nat} (h : hasT (setOf l) x = true) : x ∈ l := by
  unfold hasT at h
  split at h
  · rename_i b hb; exact setOf_mem hb
  · cases h
theorem litB_bare {c : C} (h : litB c = true) : c.bare := by
  intro ι A
  unfold litB at h
  split at h
  · exact inS_range h
  · cases h
theorem litB_den {c : C} (h : litB c = true) (ρ ρ' : Env) (ι ι' : Loc) : c.den ρ ι = c.den ρ' ι' := by
  unfold litB at h
  split at h
  · rfl
  · cases h
def env1 (n : Int) : Env := ⟨fun _ => n, fun _ => false⟩
theorem env1_v {n : Int} (h0 : 0 ≤ n) (h1 : n < 4294967296) : (SE.v .u32 0).eval (env1 n) = n := by
  show IntKind.u32.wrap n = n
  rw [IntKind.wrap_u32]; omega
theorem c_cases {c : Nat} (h : (Nat.beq c 20 || Nat.beq c 12) = true) : c = 20 ∨ c = 12 := by
  rw [Bool.or_eq_true] at h
  rcases h with h | h
  · exact .inl (Nat.eq_of_beq_eq_true h)
  · exact .inr (Nat.eq_of_beq_eq_true h)
theorem immS_eval {c : Nat} (hc : c = 20 ∨ c = 12) (E : SE) : (immS c E).eval ρ = immI c (E.eval ρ) := by
  rcases hc with rfl | rfl
  · show (mkSx E 12).eval ρ = sgn (E.eval ρ % 2 ^ 12) 12
    exact mkSx_eval _ _
  · show (mkSx (mkCat (.lit 0) 12 E) 32).eval ρ = sgn ((2 ^ 12 * E.eval ρ) % 2 ^ 32) 32
    rw [mkSx_eval, mkCat_eval]
    show sgn ((0 + 2 ^ 12 * E.eval ρ) % 2 ^ 32) 32 = _
    rw [Int.zero_add]
theorem immK_eq {c : Nat} (hc : c = 20 ∨ c = 12) (e : Nat) : immK c e = immI c (e : Int) := by
  rcases hc with rfl | rfl
  · rfl
  · show sgn (((4096 * e % M32 : Nat) : Int)) 32 = sgn ((2 ^ 12 * (e : Int)) % 2 ^ 32) 32
    congr 1
/-- what is read of such a word -/
theorem dec_sym {X : XC} (hX : XOk P X) (hI : X.intr = .e) (hmix : P.follows .mixedOrders = true) {dec c L : Nat} (h : decSChk X dec c L = true) :
    ∃ o d r q n, decW L = some [o, d, r, q, n] ∧ (∀ x ∈ [o, d, r, q], x.bare) ∧ ∀ (e : Int) (ρ : Env) (ι : Loc) (w : World), 0 ≤ e → e < 2 ^ bitsC c →
      Calls P dec #[.int .u32 (L + 2 ^ c * e)] w fun z w' => z = .returned (.tuple #[.agg #[o.den ρ ι, d.den ρ ι, r.den ρ ι, q.den ρ ι, .int .i32 (immI c e)], .bool true]) ∧ RowKit.Below w.heap.size w w' := by
  unfold decSChk at h
  simp only [Bool.and_eq_true] at h
  obtain ⟨h1, h2, h3⟩ := h
  have hc := c_cases h1
  split at h3
  · rename_i o d r q n hd
    simp only [Bool.and_eq_true] at h3
    obtain ⟨h4, h5⟩ := h3
    have hl : ∀ x ∈ [o, d, r, q], litB x = true := fun x hx => List.all_eq_true.1 h4 x hx
    refine ⟨o, d, r, q, n, hd, fun x hx => litB_bare (hl x hx), fun e ρ ι w e0 e1 => ?_⟩
    split at h5
    · rename_i o' d' r' q' y b hr
      simp only [Bool.and_eq_true] at h5
      obtain ⟨h6, h7, h8⟩ := h5
      have h6 := eqLB_eq h6
      simp only [List.cons.injEq, and_true] at h6
      obtain ⟨rfl, rfl, rfl, rfl⟩ := h6
      have h7 := SE.beq_eq h7
      subst h7
      subst h8
      have eb : e < 2 ^ 32 := by
        rcases hc with rfl | rfl
        · have e1 : e < 2 ^ 12 := e1
          simp only [Int.reducePow] at *; omega
        · have e1 : e < 2 ^ 20 := e1
          simp only [Int.reducePow] at *; omega
      have hv : (SE.ext (.v .u32 0) 0 (bitsC c)).eval (env1 e) = e := by
        show ((SE.v .u32 0).eval (env1 e) / 2 ^ 0) % 2 ^ bitsC c = e
        rw [env1_v e0 (by simpa using eb)]
        exact ext_all e0 e1 (Nat.le_refl _)
      have hk := calls_ret hX hI hmix hr (fun x hx => (by simp only [List.mem_cons, List.not_mem_nil, or_false] at hx; subst hx; exact fun _ _ => trivial)) (env1 e) w
      have ea : (([.c (.ivar .u32 (.cat (.lit (.ofNat L)) c (.ext (.v .u32 0) 0 (bitsC c))))] : List V).map (V.den (env1 e) noloc)).toArray = #[.int .u32 (L + 2 ^ c * e)] := by
        show #[Value.int .u32 ((L : Int) + 2 ^ c * (SE.ext (.v .u32 0) 0 (bitsC c)).eval (env1 e))] = _
        rw [hv]
      rw [ea] at hk
      refine hk.mono fun z w' hh => ⟨?_, hh.2⟩
      obtain ⟨ι', rfl⟩ := hh.1
      have eI : (immS c (.ext (.v .u32 0) 0 (bitsC c))).eval (env1 e) = immI c e := by rw [immS_eval hc, hv]
      show Ending.returned (.tuple #[.agg #[o.den (env1 e) ι', d.den (env1 e) ι', r.den (env1 e) ι', q.den (env1 e) ι', .int .i32 ((immS c (.ext (.v .u32 0) 0 (bitsC c))).eval (env1 e))], .bool true]) = _
      rw [eI, litB_den (hl o (by simp)) (env1 e) ρ ι' ι, litB_den (hl d (by simp)) (env1 e) ρ ι' ι, litB_den (hl r (by simp)) (env1 e) ρ ι' ι, litB_den (hl q (by simp)) (env1 e) ρ ι' ι]
    · cases h5
  · cases h3
theorem bare5 {o d r q : C} {y : C} (h : ∀ x ∈ [o, d, r, q], x.bare) (hy : y.bare) : (V.t [.a [o, d, r, q, y], .c (.bool true)]).bare := by
  intro ι A z hz
  simp only [List.mem_cons, List.not_mem_nil, or_false] at hz
  rcases hz with rfl | rfl
  · intro c hc
    have hc : c ∈ [o, d, r, q, y] := hc
    simp only [List.mem_cons, List.not_mem_nil, or_false] at hc
    rcases hc with rfl | rfl | rfl | rfl | rfl
    · exact h _ (by simp) ι A
    · exact h _ (by simp) ι A
    · exact h _ (by simp) ι A
    · exact h _ (by simp) ι A
    · exact hy ι A
  · intro c hc
    simp only [W.cells, List.mem_cons, List.not_mem_nil, or_false] at hc
    subst hc
    trivial
theorem decS_at {X : XC} (hX : XOk P X) (hI : X.intr = .e) (hmix : P.follows .mixedOrders = true) {dec : Nat} (hen : ∀ as w, (callFunc dec as).run P w = .ok (.enter dec as) w) {l20 l12 : List Nat}
    (h20 : l20.all (decSChk X dec 20) = true) (h12 : l12.all (decSChk X dec 12) = true) : IntrAt P ρ R dec ⟨decS (setOf l20) (setOf l12)⟩ := by
  have go : ∀ {c L : Nat}, (bif Nat.beq c 20 then hasT (setOf l20) L else Nat.beq c 12 && hasT (setOf l12) L) = true → decSChk X dec c L = true ∧ (c = 20 ∨ c = 12) := by
    intro c L h
    rw [bif_eq] at h
    split at h
    · rename_i e
      have e := Nat.eq_of_beq_eq_true e
      subst e
      exact ⟨List.all_eq_true.1 h20 L (hasT_mem h), .inl rfl⟩
    · rw [Bool.and_eq_true] at h
      have e := Nat.eq_of_beq_eq_true h.1
      subst e
      exact ⟨List.all_eq_true.1 h12 L (hasT_mem h.2), .inr rfl⟩
  have lit : ∀ (c x : Nat) (hc : c = 20 ∨ c = 12) (hch : decSChk X dec c (x % p2 c) = true) (st : St) (ko : KO) (hx32 : True),
      Ok ρ R (match decW (x % p2 c) with
      | some [o, d, r, q, _] => ko (.ret (.t [.a [o, d, r, q, ofInt .i32 (immK c (x / p2 c))], .c (.bool true)])) st
      | _ => .stop 330 "") → ∃ out st', Ok ρ R (ko out st') ∧ (∀ as w, (callFunc dec as).run P w = .ok (.enter dec as) w) ∧ CStep P ρ dec [.c (.u32 x)] st out st' := by
    intro c x hc hch st ko _ hk
    obtain ⟨o, d, r, q, n, hd, hb, hcall⟩ := dec_sym hX hI hmix hch
    rw [hd] at hk
    refine ⟨_, st, hk, hen, .refl _ _, fun A ι w _ hr hin => ?_⟩
    have hx : x < M32 := hin (.c (.u32 x)) (by simp)
    have hx : x < 4294967296 := hx
    have e0 : (0 : Int) ≤ ((x / p2 c : Nat) : Int) := Int.natCast_nonneg _
    have e1 : ((x / p2 c : Nat) : Int) < 2 ^ bitsC c := by
      rcases hc with rfl | rfl
      · show ((x / 1048576 : Nat) : Int) < 4096
        omega
      · show ((x / 4096 : Nat) : Int) < 1048576
        omega
    have ex : ((x % p2 c : Nat) : Int) + 2 ^ c * ((x / p2 c : Nat) : Int) = x := by
      rcases hc with rfl | rfl
      · show ((x % 1048576 : Nat) : Int) + 1048576 * ((x / 1048576 : Nat) : Int) = x
        omega
      · show ((x % 4096 : Nat) : Int) + 4096 * ((x / 4096 : Nat) : Int) = x
        omega
    have h3 := hcall ((x / p2 c : Nat) : Int) ρ ι w e0 e1
    rw [ex] at h3
    refine h3.mono fun z w' hh => ⟨ι, ?_, post_below hr hh.2, bare5 hb (ofInt_bare _ _) _ _⟩
    rw [hh.1]
    show _ = Ending.returned (.tuple #[.agg #[o.den ρ ι, d.den ρ ι, r.den ρ ι, q.den ρ ι, (ofInt .i32 (immK c (x / p2 c))).den ρ ι], .bool true])
    rw [ofInt_den, immK_eq hc]
  intro args st ko hf hk
  replace hk : Ok ρ R (decS (setOf l20) (setOf l12) args st ko) := hk
  unfold decS at hk
  split at hk
  · rename_i L c E
    obtain ⟨hc, hk⟩ := ok_bif hk
    rw [Bool.and_eq_true] at hc
    obtain ⟨hch, hcc⟩ := go hc.2
    obtain ⟨o, d, r, q, n, hd, hb, hcall⟩ := dec_sym hX hI hmix hch
    rw [hd] at hk
    obtain ⟨e0, e1⟩ := ubLe_spec (ρ := ρ) hc.1
    refine ⟨_, st, hk, hen, cstep_below (bare5 hb fun _ _ => trivial) fun ι w => ?_⟩
    refine (hcall (E.eval ρ) ρ ι w e0 e1).mono fun z w' hh => ⟨?_, hh.2⟩
    rw [hh.1]
    show _ = Ending.returned (.tuple #[.agg #[o.den ρ ι, d.den ρ ι, r.den ρ ι, q.den ρ ι, .int .i32 ((immS c E).eval ρ)], .bool true])
    rw [immS_eval hcc]
  · rename_i x
    rw [bif_eq] at hk
    split at hk
    · rename_i hh
      exact lit 20 x (.inl rfl) (List.all_eq_true.1 h20 _ (hasT_mem hh)) st ko trivial hk
    · obtain ⟨hh, hk⟩ := ok_bif hk
      exact lit 12 x (.inr rfl) (List.all_eq_true.1 h12 _ (hasT_mem hh)) st ko trivial hk
  · cases hk

theorem enc_sym {X : XC} (hX : XOk P X) (hI : X.intr = .e) (hmix : P.follows .mixedOrders = true) {enc c L : Nat} (h : encSChk X enc c L = true) {o d r q : C} (hd : decW L = some [o, d, r, q, .i32 0]) :
    (c = 20 ∨ c = 12) ∧ L < 2 ^ c ∧ ∀ (e : Int) (ρ : Env) (ι : Loc) (w : World), (c = 20 → 0 ≤ e ∧ e < 2 ^ 12) → (c = 12 → 0 ≤ e ∧ e < 2 ^ 32) →
      Calls P enc #[.agg #[o.den ρ ι, d.den ρ ι, r.den ρ ι, q.den ρ ι, .int .i32 (bif Nat.beq c 20 then sgn (e % 2 ^ 12) 12 else sgn ((SE.hi (.v .u32 0)).eval (env1 e) % 2 ^ 32) 32)]] w fun z w' =>
        z = .returned (.tuple #[.int .u32 (bif Nat.beq c 20 then L + 2 ^ 20 * e else L + (SE.hi (.v .u32 0)).eval (env1 e)), .int .i64 0]) ∧ RowKit.Below w.heap.size w w' := by
  unfold encSChk at h
  simp only [Bool.and_eq_true] at h
  obtain ⟨h1, h2, h3⟩ := h
  have hc := c_cases h1
  rw [hd] at h3
  simp only [Bool.and_eq_true] at h3
  obtain ⟨_, h4, h5⟩ := h3
  have hl : ∀ x ∈ [o, d, r, q], litB x = true := fun x hx => List.all_eq_true.1 h4 x hx
  have h2 : L < p2 c := by simpa using h2
  refine ⟨hc, h2, fun e ρ ι w e20 e12 => ?_⟩
  split at h5
  · rename_i y ee hr
    simp only [Bool.and_eq_true, decide_eq_true_eq] at h5
    obtain ⟨h6, h7⟩ := h5
    have h6 := SE.beq_eq h6
    subst h6
    subst h7
    have hk := calls_ret hX hI hmix hr (fun x hx => (by
      simp only [List.mem_cons, List.not_mem_nil, or_false] at hx
      subst hx
      intro ι A c hc
      simp only [List.mem_cons, List.not_mem_nil, or_false] at hc
      rcases hc with rfl | rfl | rfl | rfl | rfl
      · exact litB_bare (hl _ (by simp)) ι A
      · exact litB_bare (hl _ (by simp)) ι A
      · exact litB_bare (hl _ (by simp)) ι A
      · exact litB_bare (hl _ (by simp)) ι A
      · trivial)) (env1 e) w
    rcases hc with rfl | rfl
    · obtain ⟨e0, e1⟩ := e20 rfl
      have hv : (SE.ext (.v .u32 0) 0 12).eval (env1 e) = e := by
        show ((SE.v .u32 0).eval (env1 e) / 2 ^ 0) % 2 ^ 12 = e
        rw [env1_v e0 (by simp only [Int.reducePow] at e1; omega)]
        exact ext_all e0 e1 (Nat.le_refl _)
      have ea : (([.a [o, d, r, q, .ivar .i32 (.sx (.ext (.v .u32 0) 0 12) 12)]] : List V).map (V.den (env1 e) noloc)).toArray = #[.agg #[o.den ρ ι, d.den ρ ι, r.den ρ ι, q.den ρ ι, .int .i32 (sgn (e % 2 ^ 12) 12)]] := by
        show #[Value.agg #[o.den (env1 e) noloc, d.den (env1 e) noloc, r.den (env1 e) noloc, q.den (env1 e) noloc, .int .i32 (sgn ((SE.ext (.v .u32 0) 0 12).eval (env1 e) % 2 ^ 12) 12)]] = _
        rw [hv, litB_den (hl o (by simp)) (env1 e) ρ noloc ι, litB_den (hl d (by simp)) (env1 e) ρ noloc ι, litB_den (hl r (by simp)) (env1 e) ρ noloc ι, litB_den (hl q (by simp)) (env1 e) ρ noloc ι]
      have hk2 : Calls P enc (([.a [o, d, r, q, .ivar .i32 (.sx (.ext (.v .u32 0) 0 12) 12)]] : List V).map (V.den (env1 e) noloc)).toArray w _ := hk
      rw [ea] at hk2
      refine hk2.mono fun z w' hh => ⟨?_, hh.2⟩
      obtain ⟨ι', rfl⟩ := hh.1
      show Ending.returned (.tuple #[.int .u32 ((L : Int) + 2 ^ 20 * (SE.ext (.v .u32 0) 0 12).eval (env1 e)), .int .i64 0]) = _
      rw [hv]
      rfl
    · obtain ⟨e0, e1⟩ := e12 rfl
      have ea : (([.a [o, d, r, q, .ivar .i32 (.sx (.hi (.v .u32 0)) 32)]] : List V).map (V.den (env1 e) noloc)).toArray = #[.agg #[o.den ρ ι, d.den ρ ι, r.den ρ ι, q.den ρ ι, .int .i32 (sgn ((SE.hi (.v .u32 0)).eval (env1 e) % 2 ^ 32) 32)]] := by
        show #[Value.agg #[o.den (env1 e) noloc, d.den (env1 e) noloc, r.den (env1 e) noloc, q.den (env1 e) noloc, .int .i32 (sgn ((SE.hi (.v .u32 0)).eval (env1 e) % 2 ^ 32) 32)]] = _
        rw [litB_den (hl o (by simp)) (env1 e) ρ noloc ι, litB_den (hl d (by simp)) (env1 e) ρ noloc ι, litB_den (hl r (by simp)) (env1 e) ρ noloc ι, litB_den (hl q (by simp)) (env1 e) ρ noloc ι]
      have hk2 : Calls P enc (([.a [o, d, r, q, .ivar .i32 (.sx (.hi (.v .u32 0)) 32)]] : List V).map (V.den (env1 e) noloc)).toArray w _ := hk
      rw [ea] at hk2
      refine hk2.mono fun z w' hh => ⟨?_, hh.2⟩
      obtain ⟨ι', rfl⟩ := hh.1
      show Ending.returned (.tuple #[.int .u32 ((L : Int) + 2 ^ 12 * (((SE.hi (.v .u32 0)).eval (env1 e) / 2 ^ 12) % 2 ^ 20)), .int .i64 0]) = _
      rw [hi_up]
      rfl
  · cases h5
theorem bare2 {y : C} (hy : y.bare) : (V.t [.c y, .c (.i64 (.ofNat 0))]).bare := by
  intro ι A z hz
  simp only [List.mem_cons, List.not_mem_nil, or_false] at hz
  rcases hz with rfl | rfl
  · intro c hc
    simp only [W.cells, List.mem_cons, List.not_mem_nil, or_false] at hc
    subst hc
    exact hy ι A
  · intro c hc
    simp only [W.cells, List.mem_cons, List.not_mem_nil, or_false] at hc
    subst hc
    exact bareB_bare (by decide) ι A
theorem bitsI_eq (n : Int) (w : Nat) : ((bitsI n (2 ^ w) : Nat) : Int) = n % 2 ^ w := by
  have e : ((2 ^ w : Nat) : Int) = 2 ^ w := by push_cast; rfl
  have hp := Nat.two_pow_pos w
  unfold bitsI
  split
  · rename_i m
    show ((m % 2 ^ w : Nat) : Int) = (m : Int) % 2 ^ w
    push_cast; rfl
  · rename_i m
    have hlt := Nat.mod_lt m hp
    show ((2 ^ w - 1 - m % 2 ^ w : Nat) : Int) = _
    rw [Int.negSucc_emod m (by omega), ← e, ← Int.natCast_emod]
    omega
theorem hi_env {v : Int} : (SE.hi (.v .u32 0)).eval (env1 (v % 2 ^ 32)) = (v - sgn (v % 2 ^ 12) 12) % 2 ^ 32 := by
  show ((SE.v .u32 0).eval (env1 (v % 2 ^ 32)) - sgn ((SE.v .u32 0).eval (env1 (v % 2 ^ 32)) % 2 ^ 12) 12) % 2 ^ 32 = _
  obtain ⟨h0, h1⟩ := ext_nonneg v 32
  rw [env1_v h0 (by simpa using h1), mod_mod]
  show (v % 2 ^ 32 - sgn (v % 2 ^ 12) 12) % 2 ^ 32 = _
  rw [Int.sub_emod, Int.emod_emod, ← Int.sub_emod]
theorem encS_at {X : XC} (hX : XOk P X) (hI : X.intr = .e) (hmix : P.follows .mixedOrders = true) {enc : Nat} (hen : ∀ as w, (callFunc enc as).run P w = .ok (.enter enc as) w) {l20 l12 : List Nat}
    (h20 : l20.all (encSChk X enc 20) = true) (h12 : l12.all (encSChk X enc 12) = true) : IntrAt P ρ R enc ⟨encS (setOf l20) (setOf l12)⟩ := by
  intro args st ko hf hk
  replace hk : Ok ρ R (encS (setOf l20) (setOf l12) args st ko) := hk
  unfold encS at hk
  split at hk
  · rename_i op rd r1 r2 E m
    split at hk
    · rename_i L hL
      split at hk
      · rename_i l hd
        obtain ⟨hl0, hk2⟩ := ok_bif hk
        clear hk
        have hl := eqLB_eq hl0
        clear hl0
        subst hl
        rw [bif_eq] at hk2
        split at hk2
        · rename_i hc
          rw [Bool.and_eq_true] at hc
          have hm := Nat.eq_of_beq_eq_true hc.1
          subst hm
          obtain ⟨_, hlt, hcall⟩ := enc_sym hX hI hmix (List.all_eq_true.1 h20 L (hasT_mem hc.2)) hd
          refine ⟨_, st, hk2, hen, cstep_below (bare2 fun _ _ => trivial) fun ι w => ?_⟩
          obtain ⟨e0, e1⟩ := ext_nonneg (E.eval ρ) 12
          have h3 := hcall (E.eval ρ % 2 ^ 12) ρ ι w (fun _ => ⟨e0, e1⟩) (fun h => by cases h)
          have eI : (bif Nat.beq 20 20 then sgn ((E.eval ρ % 2 ^ 12) % 2 ^ 12) 12 else sgn ((SE.hi (.v .u32 0)).eval (env1 (E.eval ρ % 2 ^ 12)) % 2 ^ 32) 32) = sgn (E.eval ρ % 2 ^ 12) 12 := by
            show sgn ((E.eval ρ % 2 ^ 12) % 2 ^ 12) 12 = _
            rw [Int.emod_emod]
          rw [eI] at h3
          refine h3.mono fun z w' hh => ⟨?_, hh.2⟩
          rw [hh.1]
          show Ending.returned (.tuple #[.int .u32 ((L : Int) + 2 ^ 20 * (E.eval ρ % 2 ^ 12)), .int .i64 0]) = .returned (.tuple #[.int .u32 ((mkCat (.lit (.ofNat L)) 20 (mkExt E 0 12)).eval ρ), .int .i64 0])
          rw [mkCat_eval, mkExt_eval, show (2 : Int) ^ 0 = 1 from rfl, Int.ediv_one]
          rfl
        · split at hk2
          · rename_i v
            obtain ⟨hc, hk⟩ := ok_bif hk2
            rw [Bool.and_eq_true] at hc
            have hm := Nat.eq_of_beq_eq_true hc.1
            subst hm
            obtain ⟨_, hlt, hcall⟩ := enc_sym hX hI hmix (List.all_eq_true.1 h12 L (hasT_mem hc.2)) hd
            refine ⟨_, st, hk, hen, cstep_below (bare2 fun _ _ => trivial) fun ι w => ?_⟩
            have h3 := hcall (v.eval ρ % 2 ^ 32) ρ ι w (fun h => by cases h) (fun _ => ext_nonneg _ _)
            rw [hi_env] at h3
            refine h3.mono fun z w' hh => ⟨?_, hh.2⟩
            rw [hh.1]
            show Ending.returned (.tuple #[.int .u32 ((L : Int) + (SE.hi v).eval ρ), .int .i64 0]) = .returned (.tuple #[.int .u32 ((mkCat (.lit (.ofNat L)) 12 (.ext (.hi v) 12 20)).eval ρ), .int .i64 0])
            rw [mkCat_eval]
            show _ = Ending.returned (.tuple #[.int .u32 ((L : Int) + 2 ^ 12 * (((SE.hi v).eval ρ / 2 ^ 12) % 2 ^ 20)), .int .i64 0])
            rw [hi_up]
          · cases hk2
      · cases hk
    · cases hk
  · rename_i op rd r1 r2 n
    split at hk
    · rename_i L hL
      split at hk
      · rename_i l hd
        obtain ⟨hl0, hk2⟩ := ok_bif hk
        clear hk
        have hl := eqLB_eq hl0
        clear hl0
        subst hl
        rw [bif_eq] at hk2
        split at hk2
        · rename_i hc
          simp only [Bool.and_eq_true, ble', decide_eq_true_eq] at hc
          obtain ⟨_, hlt, hcall⟩ := enc_sym hX hI hmix (List.all_eq_true.1 h20 L (hasT_mem hc.1)) hd
          have hb : ((bitsI n 4096 : Nat) : Int) = n % 2 ^ 12 := bitsI_eq n 12
          obtain ⟨e0, e1⟩ := ext_nonneg n 12
          have hlt : L < 1048576 := hlt
          refine ⟨_, st, hk2, hen, cstep_below (bare2 fun ι A => ?_) fun ι w => ?_⟩
          · show L + 1048576 * bitsI n 4096 < M32
            have : (bitsI n 4096 : Int) < 4096 := by rw [hb]; exact e1
            have : bitsI n 4096 < 4096 := by omega
            show _ < 4294967296
            omega
          · have h3 := hcall (n % 2 ^ 12) ρ ι w (fun _ => ⟨e0, e1⟩) (fun h => by cases h)
            have eI : (bif Nat.beq 20 20 then sgn ((n % 2 ^ 12) % 2 ^ 12) 12 else sgn ((SE.hi (.v .u32 0)).eval (env1 (n % 2 ^ 12)) % 2 ^ 32) 32) = n := by
              show sgn ((n % 2 ^ 12) % 2 ^ 12) 12 = _
              rw [Int.emod_emod, sgn_fix (y := n) (by simp only [Int.reducePow]; omega) (by simp only [Int.reducePow]; omega)]
            rw [eI] at h3
            refine h3.mono fun z w' hh => ⟨?_, hh.2⟩
            rw [hh.1]
            show Ending.returned (.tuple #[.int .u32 ((L : Int) + 2 ^ 20 * (n % 2 ^ 12)), .int .i64 0]) = .returned (.tuple #[.int .u32 ((L + 1048576 * bitsI n 4096 : Nat) : Int), .int .i64 0])
            rw [← hb]
            generalize bitsI n 4096 = z
            rw [show ((L + 1048576 * z : Nat) : Int) = (L : Int) + 2 ^ 20 * (z : Int) from by rw [Int.natCast_add, Int.natCast_mul]; rfl]
        · obtain ⟨hc, hk⟩ := ok_bif hk2
          simp only [Bool.and_eq_true] at hc
          obtain ⟨c1, c2, c3⟩ := hc
          obtain ⟨_, hlt, hcall⟩ := enc_sym hX hI hmix (List.all_eq_true.1 h12 L (hasT_mem c1)) hd
          have hb : ((bitsI n M32 : Nat) : Int) = n % 2 ^ 32 := bitsI_eq n 32
          obtain ⟨e0, e1⟩ := ext_nonneg n 32
          have hlt : L < 4096 := hlt
          have c2 : bitsI n M32 % 4096 = 0 := Nat.eq_of_beq_eq_true c2
          obtain ⟨r0, r1⟩ := inS_range c3
          have hhi : (SE.hi (.v .u32 0)).eval (env1 (n % 2 ^ 32)) = n % 2 ^ 32 := by
            rw [hi_env]
            have hz : n % 2 ^ 12 = 0 := by
              have := mod_mod n 32 12
              rw [← hb] at this
              have e : mnN 32 12 = 12 := rfl
              rw [e] at this
              rw [← this]
              show ((bitsI n M32 : Nat) : Int) % 4096 = 0
              generalize bitsI n M32 = z at *
              omega
            rw [hz]
            show (n - 0) % 2 ^ 32 = _
            rw [Int.sub_zero]
          refine ⟨_, st, hk, hen, cstep_below (bare2 fun ι A => ?_) fun ι w => ?_⟩
          · show L + bitsI n M32 < M32
            have : (bitsI n M32 : Int) < 4294967296 := by rw [hb]; exact e1
            show _ < 4294967296
            omega
          · have h3 := hcall (n % 2 ^ 32) ρ ι w (fun h => by cases h) (fun _ => ⟨e0, e1⟩)
            rw [hhi] at h3
            have eI : (bif Nat.beq 12 20 then sgn ((n % 2 ^ 32) % 2 ^ 12) 12 else sgn ((n % 2 ^ 32) % 2 ^ 32) 32) = n := by
              show sgn ((n % 2 ^ 32) % 2 ^ 32) 32 = n
              rw [Int.emod_emod]
              have r0 : -(2147483648 : Int) ≤ n := r0
              have r1 : n < (2147483648 : Int) := r1
              exact sgn_fix (by simp only [Int.reducePow]; omega) (by simp only [Int.reducePow]; omega)
            rw [eI] at h3
            refine h3.mono fun z w' hh => ⟨?_, hh.2⟩
            rw [hh.1]
            show Ending.returned (.tuple #[.int .u32 ((L : Int) + n % 2 ^ 32), .int .i64 0]) = .returned (.tuple #[.int .u32 ((L + bitsI n M32 : Nat) : Int), .int .i64 0])
            rw [← hb]
            generalize bitsI n M32 = z
            rw [Int.natCast_add]
      · cases hk
    · cases hk
  · cases hk
end
end Go.Fx
end

noncomputable section
namespace Go.Fx
set_option linter.unusedSimpArgs false
set_option linter.unusedVariables false
set_option linter.unusedSectionVars false

/-! ### Slots -/
structure GV where
  f : Tr V → Option V
def gv0 (i : GV) : GV := ⟨fun t => Tr.rec (motive := fun _ => Option V) none (fun _ c _ _ _ _ _ _ _ _ _ _ _ _ _ _ _ => GV.f i c) t⟩
def gv1 (i : GV) : GV := ⟨fun t => Tr.rec (motive := fun _ => Option V) none (fun _ _ c _ _ _ _ _ _ _ _ _ _ _ _ _ _ => GV.f i c) t⟩
def gv2 (i : GV) : GV := ⟨fun t => Tr.rec (motive := fun _ => Option V) none (fun _ _ _ c _ _ _ _ _ _ _ _ _ _ _ _ _ => GV.f i c) t⟩
def gv3 (i : GV) : GV := ⟨fun t => Tr.rec (motive := fun _ => Option V) none (fun _ _ _ _ c _ _ _ _ _ _ _ _ _ _ _ _ => GV.f i c) t⟩
def gv4 (i : GV) : GV := ⟨fun t => Tr.rec (motive := fun _ => Option V) none (fun _ _ _ _ _ c _ _ _ _ _ _ _ _ _ _ _ => GV.f i c) t⟩
def gv5 (i : GV) : GV := ⟨fun t => Tr.rec (motive := fun _ => Option V) none (fun _ _ _ _ _ _ c _ _ _ _ _ _ _ _ _ _ => GV.f i c) t⟩
def gv6 (i : GV) : GV := ⟨fun t => Tr.rec (motive := fun _ => Option V) none (fun _ _ _ _ _ _ _ c _ _ _ _ _ _ _ _ _ => GV.f i c) t⟩
def gv7 (i : GV) : GV := ⟨fun t => Tr.rec (motive := fun _ => Option V) none (fun _ _ _ _ _ _ _ _ c _ _ _ _ _ _ _ _ => GV.f i c) t⟩
def gvE : GV := ⟨fun t => Tr.rec (motive := fun _ => Option V) none (fun v _ _ _ _ _ _ _ _ _ _ _ _ _ _ _ _ => v) t⟩
/-- looks into a slot, the path gone ahead of time -/
def getV (p : Pa) : GV := Pa.rec (motive := fun _ => GV) gvE (fun x _ ih => D8.rec (motive := fun _ => GV) (gv0 ih) (gv1 ih) (gv2 ih) (gv3 ih) (gv4 ih) (gv5 ih) (gv6 ih) (gv7 ih) x) p
theorem getV_eq : ∀ (p : Pa) (t : Tr V), GV.f (getV p) t = Tr.get p t
  | .e, t => by cases t <;> rfl
  | .d x p, .e => by cases x <;> rfl
  | .d .d0 p, .n v c0 c1 c2 c3 c4 c5 c6 c7 => (getV_eq p c0 : GV.f (getV p) c0 = Tr.get p c0)
  | .d .d1 p, .n v c0 c1 c2 c3 c4 c5 c6 c7 => (getV_eq p c1 : GV.f (getV p) c1 = Tr.get p c1)
  | .d .d2 p, .n v c0 c1 c2 c3 c4 c5 c6 c7 => (getV_eq p c2 : GV.f (getV p) c2 = Tr.get p c2)
  | .d .d3 p, .n v c0 c1 c2 c3 c4 c5 c6 c7 => (getV_eq p c3 : GV.f (getV p) c3 = Tr.get p c3)
  | .d .d4 p, .n v c0 c1 c2 c3 c4 c5 c6 c7 => (getV_eq p c4 : GV.f (getV p) c4 = Tr.get p c4)
  | .d .d5 p, .n v c0 c1 c2 c3 c4 c5 c6 c7 => (getV_eq p c5 : GV.f (getV p) c5 = Tr.get p c5)
  | .d .d6 p, .n v c0 c1 c2 c3 c4 c5 c6 c7 => (getV_eq p c6 : GV.f (getV p) c6 = Tr.get p c6)
  | .d .d7 p, .n v c0 c1 c2 c3 c4 c5 c6 c7 => (getV_eq p c7 : GV.f (getV p) c7 = Tr.get p c7)
structure SV where
  f : V → Tr V → Tr V
def svE : SV := ⟨fun v t => Tr.rec (motive := fun _ => V → Tr V) (fun v => .n (some v) .e .e .e .e .e .e .e .e) (fun _ c0 c1 c2 c3 c4 c5 c6 c7 _ _ _ _ _ _ _ _ v => .n (some v) c0 c1 c2 c3 c4 c5 c6 c7) t v⟩
def sv0 (i : SV) : SV := ⟨fun v t => Tr.rec (motive := fun _ => V → Tr V) (fun v => .n none (SV.f i v .e) .e .e .e .e .e .e .e) (fun w c0 c1 c2 c3 c4 c5 c6 c7 _ _ _ _ _ _ _ _ v => .n w (SV.f i v c0) c1 c2 c3 c4 c5 c6 c7) t v⟩
def sv1 (i : SV) : SV := ⟨fun v t => Tr.rec (motive := fun _ => V → Tr V) (fun v => .n none .e (SV.f i v .e) .e .e .e .e .e .e) (fun w c0 c1 c2 c3 c4 c5 c6 c7 _ _ _ _ _ _ _ _ v => .n w c0 (SV.f i v c1) c2 c3 c4 c5 c6 c7) t v⟩
def sv2 (i : SV) : SV := ⟨fun v t => Tr.rec (motive := fun _ => V → Tr V) (fun v => .n none .e .e (SV.f i v .e) .e .e .e .e .e) (fun w c0 c1 c2 c3 c4 c5 c6 c7 _ _ _ _ _ _ _ _ v => .n w c0 c1 (SV.f i v c2) c3 c4 c5 c6 c7) t v⟩
def sv3 (i : SV) : SV := ⟨fun v t => Tr.rec (motive := fun _ => V → Tr V) (fun v => .n none .e .e .e (SV.f i v .e) .e .e .e .e) (fun w c0 c1 c2 c3 c4 c5 c6 c7 _ _ _ _ _ _ _ _ v => .n w c0 c1 c2 (SV.f i v c3) c4 c5 c6 c7) t v⟩
def sv4 (i : SV) : SV := ⟨fun v t => Tr.rec (motive := fun _ => V → Tr V) (fun v => .n none .e .e .e .e (SV.f i v .e) .e .e .e) (fun w c0 c1 c2 c3 c4 c5 c6 c7 _ _ _ _ _ _ _ _ v => .n w c0 c1 c2 c3 (SV.f i v c4) c5 c6 c7) t v⟩
def sv5 (i : SV) : SV := ⟨fun v t => Tr.rec (motive := fun _ => V → Tr V) (fun v => .n none .e .e .e .e .e (SV.f i v .e) .e .e) (fun w c0 c1 c2 c3 c4 c5 c6 c7 _ _ _ _ _ _ _ _ v => .n w c0 c1 c2 c3 c4 (SV.f i v c5) c6 c7) t v⟩
def sv6 (i : SV) : SV := ⟨fun v t => Tr.rec (motive := fun _ => V → Tr V) (fun v => .n none .e .e .e .e .e .e (SV.f i v .e) .e) (fun w c0 c1 c2 c3 c4 c5 c6 c7 _ _ _ _ _ _ _ _ v => .n w c0 c1 c2 c3 c4 c5 (SV.f i v c6) c7) t v⟩
def sv7 (i : SV) : SV := ⟨fun v t => Tr.rec (motive := fun _ => V → Tr V) (fun v => .n none .e .e .e .e .e .e .e (SV.f i v .e)) (fun w c0 c1 c2 c3 c4 c5 c6 c7 _ _ _ _ _ _ _ _ v => .n w c0 c1 c2 c3 c4 c5 c6 (SV.f i v c7)) t v⟩
def setV (p : Pa) : SV := Pa.rec (motive := fun _ => SV) svE (fun x _ ih => D8.rec (motive := fun _ => SV) (sv0 ih) (sv1 ih) (sv2 ih) (sv3 ih) (sv4 ih) (sv5 ih) (sv6 ih) (sv7 ih) x) p
theorem setV_eq : ∀ (p : Pa) (v : V) (t : Tr V), SV.f (setV p) v t = Tr.set p v t
  | .e, v, t => by cases t <;> rfl
  | .d .d0 p, v, .e => congrArg (fun z => Tr.n none z .e .e .e .e .e .e .e) (setV_eq p v .e)
  | .d .d0 p, v, .n w c0 c1 c2 c3 c4 c5 c6 c7 => congrArg (fun z => Tr.n w z c1 c2 c3 c4 c5 c6 c7) (setV_eq p v c0)
  | .d .d1 p, v, .e => congrArg (fun z => Tr.n none .e z .e .e .e .e .e .e) (setV_eq p v .e)
  | .d .d1 p, v, .n w c0 c1 c2 c3 c4 c5 c6 c7 => congrArg (fun z => Tr.n w c0 z c2 c3 c4 c5 c6 c7) (setV_eq p v c1)
  | .d .d2 p, v, .e => congrArg (fun z => Tr.n none .e .e z .e .e .e .e .e) (setV_eq p v .e)
  | .d .d2 p, v, .n w c0 c1 c2 c3 c4 c5 c6 c7 => congrArg (fun z => Tr.n w c0 c1 z c3 c4 c5 c6 c7) (setV_eq p v c2)
  | .d .d3 p, v, .e => congrArg (fun z => Tr.n none .e .e .e z .e .e .e .e) (setV_eq p v .e)
  | .d .d3 p, v, .n w c0 c1 c2 c3 c4 c5 c6 c7 => congrArg (fun z => Tr.n w c0 c1 c2 z c4 c5 c6 c7) (setV_eq p v c3)
  | .d .d4 p, v, .e => congrArg (fun z => Tr.n none .e .e .e .e z .e .e .e) (setV_eq p v .e)
  | .d .d4 p, v, .n w c0 c1 c2 c3 c4 c5 c6 c7 => congrArg (fun z => Tr.n w c0 c1 c2 c3 z c5 c6 c7) (setV_eq p v c4)
  | .d .d5 p, v, .e => congrArg (fun z => Tr.n none .e .e .e .e .e z .e .e) (setV_eq p v .e)
  | .d .d5 p, v, .n w c0 c1 c2 c3 c4 c5 c6 c7 => congrArg (fun z => Tr.n w c0 c1 c2 c3 c4 z c6 c7) (setV_eq p v c5)
  | .d .d6 p, v, .e => congrArg (fun z => Tr.n none .e .e .e .e .e .e z .e) (setV_eq p v .e)
  | .d .d6 p, v, .n w c0 c1 c2 c3 c4 c5 c6 c7 => congrArg (fun z => Tr.n w c0 c1 c2 c3 c4 c5 z c7) (setV_eq p v c6)
  | .d .d7 p, v, .e => congrArg (fun z => Tr.n none .e .e .e .e .e .e .e z) (setV_eq p v .e)
  | .d .d7 p, v, .n w c0 c1 c2 c3 c4 c5 c6 c7 => congrArg (fun z => Tr.n w c0 c1 c2 c3 c4 c5 c6 z) (setV_eq p v c7)

/-! ### Operands -/
def constC (c : C) : OpdT := C.rec (motive := fun _ => OpdT) (fun x0 => ⟨fun _ _ => .c (.u8 x0)⟩) (fun x0 => ⟨fun _ _ => .c (.u32 x0)⟩) (fun x0 => ⟨fun _ _ => .c (.u64 x0)⟩) (fun x0 => ⟨fun _ _ => .c (.i64 x0)⟩) (fun x0 => ⟨fun _ _ => .c (.i32 x0)⟩) (fun x0 => ⟨fun _ _ => .c (.bool x0)⟩) (fun x0 => ⟨fun _ _ => .c (.str x0)⟩) (fun x0 x1 => ⟨fun _ _ => .c (.ptr x0 x1)⟩) (fun x0 x1 x2 x3 => ⟨fun _ _ => .c (.slc x0 x1 x2 x3)⟩) (fun x0 x1 x2 x3 => ⟨fun _ _ => .c (.slu x0 x1 x2 x3)⟩) (fun x0 x1 => ⟨fun _ _ => .c (.clo x0 x1)⟩) (fun x0 => ⟨fun _ _ => .c (.mp x0)⟩) (fun x0 => ⟨fun _ _ => .c (.lit x0)⟩) (fun x0 x1 => ⟨fun _ _ => .c (.ivar x0 x1)⟩) (fun x0 x1 => ⟨fun _ _ => .c (.bvar x0 x1)⟩) c
def constT (x : V) : OpdT := V.rec (motive := fun _ => OpdT) constC (fun xs => ⟨fun _ _ => .a xs⟩) (fun ws => ⟨fun _ _ => .t ws⟩) x
theorem constT_eq (x : V) : constT x = ⟨fun _ _ => x⟩ := by
  cases x with
  | c c => cases c <;> rfl
  | _ => rfl
def slotF (g : GV) (tm : Tr V) : V := Option.rec (motive := fun _ => V) undefV (fun v => v) (GV.f g tm)
theorem slotF_eq (p : Pa) (tm : Tr V) : slotF (getV p) tm = slotV p tm := by
  unfold slotF slotV
  rw [getV_eq]
  cases Tr.get p tm <;> rfl
def srF (sr : Sr) (dep : Nat) : OpdT :=
  match sr with
  | .lv n => accT (Nat.sub dep (Nat.succ n))
  | .cs v => constT v
def opdF (env : EnvS) (dep : Nat) (o : Operand) : OpdT :=
  match o with
  | .tmp t =>
    match findS t env with
    | some sr => srF sr dep
    | none => ⟨fun _ tm => slotF (getV (pa t)) tm⟩
  | .const v => constT (ofVal v)
  | .global g => ⟨fun _ _ => .c (.lit (.pointer (some ⟨g, 0, none⟩)))⟩
  | .func f => ⟨fun _ _ => .c (.lit (.func (.func f) #[] #[]))⟩
theorem opdF_eq : opdF = opdT := by
  funext env dep o
  unfold opdF opdT
  cases o with
  | tmp t =>
    dsimp only
    cases findS t env with
    | none => simp only [slotF_eq]
    | some sr =>
      cases sr with
      | lv n => rfl
      | cs v => exact constT_eq v
  | const v => exact constT_eq _
  | _ => rfl

/-! ### Aggregates -/
def C.oneF (c : C) : Bool := C.rec (motive := fun _ => Bool) (fun _ => true) (fun _ => true) (fun _ => true) (fun _ => true) (fun _ => true) (fun _ => true) (fun _ => true) (fun _ _ => true) (fun _ _ _ _ => true) (fun _ _ _ _ => true) (fun _ _ => true) (fun _ => true) (fun v => match v with | .agg _ | .tuple _ => false | _ => true) (fun _ _ => true) (fun _ _ => true) c
theorem oneF_eq (c : C) : C.oneF c = C.one c := by
  cases c with
  | lit v => cases v <;> rfl
  | _ => rfl
def consR (x : C) (g : List C) (r : Option (List C)) : Option (List C) := Option.rec (motive := fun _ => C → List C → Option (List C)) (fun _ _ => none) (fun l x g => some (ap g (x :: l))) r x g
def apR (xs : List C) (g : List C) (r : Option (List C)) : Option (List C) := Option.rec (motive := fun _ => List C → List C → Option (List C)) (fun _ _ => none) (fun l xs g => some (ap g (ap xs l))) r xs g
def oneP (x : C) (g : List C) (r : Option (List C)) : Option (List C) := Bool.rec (motive := fun _ => C → List C → Option (List C) → Option (List C)) (fun _ _ _ => none) consR (C.oneF x) x g r
def many (xs : List C) (n : Nat) (g : List C) (r : Option (List C)) : Option (List C) := Bool.rec (motive := fun _ => List C → List C → Option (List C) → Option (List C)) (fun _ _ _ => none) apR (Nat.beq (lenA xs) n) xs g r
/-- a part of one cell -/
def part1 (g : List C) (v : V) (r : Option (List C)) : Option (List C) := V.rec (motive := fun _ => List C → Option (List C) → Option (List C)) oneP (fun xs g r => many xs 1 g r) (fun _ _ _ => none) v g r
/-- a part of n cells, other than one -/
def partN (n : Nat) (g : List C) (v : V) (r : Option (List C)) : Option (List C) := V.rec (motive := fun _ => Nat → List C → Option (List C) → Option (List C)) (fun _ _ _ _ => none) (fun xs n g r => many xs n g r) (fun _ _ _ _ => none) v n g r
structure RecT where
  f : Lo → Tr V → Option (List C)
def recP (g : List C) (n : Nat) (d : OpdT) (rest : RecT) : RecT := bif Nat.beq n 1 then ⟨fun loc tm => part1 g (OpdT.f d loc tm) (RecT.f rest loc tm)⟩ else ⟨fun loc tm => partN n g (OpdT.f d loc tm) (RecT.f rest loc tm)⟩
/-- parts laid over noughts, what lies between them looked up ahead of time -/
def recT (l : List (Nat × Nat × OpdT)) : Nat → List C → RecT :=
  List.rec (motive := fun _ => Nat → List C → RecT) (fun _ zs => ⟨fun _ _ => some zs⟩)
    (fun p _ ih pos zs => bif Nat.ble pos p.1 then
        (match tk (Nat.sub p.1 pos) zs with
        | some g => recP g p.2.1 p.2.2 (ih (Nat.add p.1 p.2.1) (dr (Nat.add (Nat.sub p.1 pos) p.2.1) zs))
        | none => ⟨fun _ _ => none⟩)
      else ⟨fun _ _ => none⟩) l
theorem many_eq (xs : List C) (n : Nat) (g : List C) (r : Option (List C)) : many xs n g r = (match some g, tk n xs, r with
          | some g, some cs, some r => bif Nat.beq (len xs) n then some (ap g (ap cs r)) else none
          | _, _, _ => none) := by
  unfold many
  have e : lenA xs = len xs := by rw [lenA_eq, len_eq]
  rw [e]
  cases h : Nat.beq (len xs) n with
  | false =>
    show none = _
    cases tk n xs <;> cases r <;> rfl
  | true =>
    have h2 := Nat.eq_of_beq_eq_true h
    rw [len_eq] at h2
    have e2 : tk n xs = some xs := by rw [tk_eq, if_pos (by omega), List.take_of_length_le (by omega)]
    rw [e2]
    cases r <;> rfl
theorem recT_eq : ∀ (l : List (Nat × Nat × OpdT)) (pos : Nat) (zs : List C) (loc : Lo) (tm : Tr V), RecT.f (recT l pos zs) loc tm = asmF (evParts l loc tm) pos zs
  | [], _, _, _, _ => rfl
  | p :: l, pos, zs, loc, tm => by
    have ih := recT_eq l (Nat.add p.1 p.2.1) (dr (Nat.add (Nat.sub p.1 pos) p.2.1) zs) loc tm
    show RecT.f (bif Nat.ble pos p.1 then
        (match tk (Nat.sub p.1 pos) zs with
        | some g => recP g p.2.1 p.2.2 (recT l (Nat.add p.1 p.2.1) (dr (Nat.add (Nat.sub p.1 pos) p.2.1) zs))
        | none => ⟨fun _ _ => none⟩)
      else ⟨fun _ _ => none⟩) loc tm = asmF ((p.1, p.2.1, OpdT.f p.2.2 loc tm) :: evParts l loc tm) pos zs
    rw [asmF_cons]
    dsimp only
    cases hb : Nat.ble pos p.1 with
    | false =>
      show none = _
      cases OpdT.f p.2.2 loc tm <;> rfl
    | true =>
      cases hg : tk (Nat.sub p.1 pos) zs with
      | none =>
        show none = _
        cases OpdT.f p.2.2 loc tm with
        | c x => simp only [V.toW]; cases goodW (.c x) <;> rfl
        | a xs => rfl
        | t xs => rfl
      | some g =>
        show RecT.f (recP g p.2.1 p.2.2 (recT l (Nat.add p.1 p.2.1) (dr (Nat.add (Nat.sub p.1 pos) p.2.1) zs))) loc tm = _
        unfold recP
        cases hn : Nat.beq p.2.1 1 with
        | true =>
          have hn := Nat.eq_of_beq_eq_true hn
          show part1 g (OpdT.f p.2.2 loc tm) (RecT.f (recT l (Nat.add p.1 p.2.1) (dr (Nat.add (Nat.sub p.1 pos) p.2.1) zs)) loc tm) = _
          rw [ih, hn]
          generalize asmF (evParts l loc tm) (Nat.add p.1 1) _ = r
          cases OpdT.f p.2.2 loc tm with
          | c x =>
            show oneP x g r = (bif true && C.one x then _ else _)
            unfold oneP
            rw [oneF_eq]
            cases C.one x <;> cases r <;> rfl
          | a xs => exact many_eq xs 1 g r
          | t xs => rfl
        | false =>
          have hn : p.2.1 ≠ 1 := Nat.ne_of_beq_eq_false hn
          show partN p.2.1 g (OpdT.f p.2.2 loc tm) (RecT.f (recT l (Nat.add p.1 p.2.1) (dr (Nat.add (Nat.sub p.1 pos) p.2.1) zs)) loc tm) = _
          rw [ih]
          generalize asmF (evParts l loc tm) (Nat.add p.1 p.2.1) _ = r
          cases OpdT.f p.2.2 loc tm with
          | c x =>
            show none = (bif true && C.one x then _ else _)
            have e : Nat.beq (len (W.cells (.c x))) p.2.1 = false := by
              show Nat.beq 1 p.2.1 = false
              cases h : Nat.beq 1 p.2.1 with
              | false => rfl
              | true => exact absurd (Nat.eq_of_beq_eq_true h).symm hn
            simp only [e]
            cases C.one x <;> cases tk p.2.1 (W.cells (.c x)) <;> cases r <;> rfl
          | a xs => exact many_eq xs p.2.1 g r
          | t xs => rfl
def buildF (r : RecT) (loc : Lo) (tm : Tr V) (st : St) (kk : K) : Ans := Option.rec (motive := fun _ => St → K → Ans) (fun _ _ => .stop 110 "") (fun l st kk => kk (.a l) st) (RecT.f r loc tm) st kk
def buildSlF (e esz n : Nat) (r : RecT) (loc : Lo) (tm : Tr V) (st : St) (kk : K) : Ans :=
  Option.rec (motive := fun _ => Ans) (.stop 111 "") (fun l => kk (.c (.slc st.nb 0 n n)) (newBlk (layB e esz (Nat.mul n esz) l false) st)) (RecT.f r loc tm)
theorem buildF_eq (zs : List C) (ps : List (Nat × Nat × OpdT)) (loc : Lo) (tm : Tr V) (st : St) (kk : K) : buildF (recT ps 0 zs) loc tm st kk = buildK zs (evParts ps loc tm) st kk := by
  unfold buildF buildK
  rw [recT_eq]
  cases asmF (evParts ps loc tm) 0 zs <;> rfl
theorem buildSlF_eq (e esz n : Nat) (zs : List C) (ps : List (Nat × Nat × OpdT)) (loc : Lo) (tm : Tr V) (st : St) (kk : K) : buildSlF e esz n (recT ps 0 zs) loc tm st kk = buildSlK e esz n zs (evParts ps loc tm) st kk := by
  unfold buildSlF buildSlK
  rw [recT_eq]
  cases asmF (evParts ps loc tm) 0 zs <;> rfl

/-! ### Operations -/
def callG (od : Operand → OpdT) (X : XC) (c : Call) : OpS :=
  let as := opdsT (mp od c.args.toList)
  match c.callee with
  | .builtin b =>
    let r := builtinT X.toCx b c.argTypes.toList
    .p fun loc tm st kk => BiT.run r (OpdsT.f as loc tm) st kk
  | .value (.func g) => .q fun call loc tm st kk kp => call g (OpdsT.f as loc tm) st (outK kk kp)
  | .value f =>
    let a := od f
    .q fun call loc tm st kk kp => callK call (OpdT.f a loc tm) (OpdsT.f as loc tm) st (outK kk kp)
  | .invoke _ _ => stopT 223
def partsG (od : Operand → OpdT) (X : XC) (pl : Nat → Option (Nat × Nat)) (tot : Nat) (l : List (Nat × Operand)) : Option (List (Nat × Nat × OpdT)) :=
  optMap sortP (mapM (fun p => match pl p.1 with | some (o, n) => bif Nat.ble (Nat.add o n) tot then some (o, n, od p.2) else none | none => none) l)
def opG (od : Operand → OpdT) (X : XC) (o : Oper) : OpS :=
  match o.op with
  | .move x => let a := od x; .p fun loc tm st kk => kk (OpdT.f a loc tm) st
  | .assign x => let a := od x; .p fun loc tm st kk => kk (OpdT.f a loc tm) st
  | .pick c a b => let c := od c; let a := od a; let b := od b; .p fun loc tm st kk => pickK (OpdT.f c loc tm) (OpdT.f a loc tm) (OpdT.f b loc tm) st kk
  | .alloc t => let r := allocT X.toCx t; .p fun _ _ st kk => AT.run r st kk
  | .box t x => let r := boxT X.toCx t; let a := od x; .p fun loc tm st kk => LT.run r (OpdT.f a loc tm) st kk
  | .build t ps =>
    (match placeT X.toCx t, zeroCells X.toCx t with
    | some pl, some z => (match partsG od X pl (len z) ps.toList with
      | some l => let r := recT l 0 z; .p fun loc tm st kk => buildF r loc tm st kk
      | none => stopT 225)
    | _, _ => stopT 226)
  | .buildSlice t n ps =>
    (match eszOf X.toCx t with
    | some (e, sz) => (match zeroCells X.toCx e, partsG od X (fun f => some (Nat.mul f sz, sz)) (Nat.mul n sz) ps.toList with
      | some z, some l => bif Nat.ble (Nat.mul n sz) 16777216 then (let r := recT l 0 (reps z n []); .p fun loc tm st kk => buildSlF e sz n r loc tm st kk) else stopT 227
      | _, _ => stopT 228)
    | none => stopT 229)
  | .load t a => let r := loadT X.toCx t; let a := od a; .p fun loc tm st kk => LT.run r (OpdT.f a loc tm) st kk
  | .store t a v => let r := storeT X.toCx t; let a := od a; let v := od v; .p fun loc tm st kk => SVT.run r (OpdT.f a loc tm) (OpdT.f v loc tm) st kk
  | .nilCheck x => let a := od x; .p fun loc tm st kk => nilK (OpdT.f a loc tm) st kk
  | .binOp op t x y _ => let r := binT X.toCx op t (isCst x || isCst y); let a := od x; let b := od y; .p fun loc tm st kk => BT.run r (OpdT.f a loc tm) (OpdT.f b loc tm) st kk
  | .unOp op _ x => let r := unT X.toCx op; let a := od x; .p fun loc tm st kk => UT.run r (OpdT.f a loc tm) st kk
  | .convert s d x => let r := convT X.toCx s d; let a := od x; .p fun loc tm st kk => LT.run r (OpdT.f a loc tm) st kk
  | .makeInterface t x => let r := ifaceT X.toCx t; let a := od x; .p fun loc tm st kk => LT.run r (OpdT.f a loc tm) st kk
  | .makeFunc (.func f) fs cs =>
    (match fs.toList with
    | [] => let as := opdsT (mp (od) cs.toList); .p fun loc tm st kk => match capsOf (OpdsT.f as loc tm) with | some l => kk (.c (.clo f l)) st | none => .stop 230 ""
    | _ => stopT 231)
  | .makeMap _ none => .p fun _ _ st kk => kk (.c (.mp st.nb)) (newBlk (.mp []) st)
  | .makeSlice t l c => let r := makeSlT X.toCx t; let a := od l; let b := od c; .p fun loc tm st kk => MkT.run r (OpdT.f a loc tm) (OpdT.f b loc tm) st kk
  | .slice t x lo hi mx =>
    (match mx with
    | some _ => stopT 232
    | none => let r := sliceT X.toCx t; let a := od x
      (match lo, hi with
      | none, none => .p fun loc tm st kk => SlT.run r (OpdT.f a loc tm) none none st kk
      | some l, none => let l := od l; .p fun loc tm st kk => SlT.run r (OpdT.f a loc tm) (some (OpdT.f l loc tm)) none st kk
      | none, some h => let h := od h; .p fun loc tm st kk => SlT.run r (OpdT.f a loc tm) none (some (OpdT.f h loc tm)) st kk
      | some l, some h => let l := od l; let h := od h; .p fun loc tm st kk => SlT.run r (OpdT.f a loc tm) (some (OpdT.f l loc tm)) (some (OpdT.f h loc tm)) st kk))
  | .fieldAddr t x f => let r := fieldAddrT X.toCx t f; let a := od x; .p fun loc tm st kk => LT.run r (OpdT.f a loc tm) st kk
  | .field t x f => let r := fieldT X.toCx t f; let a := od x; .p fun loc tm st kk => LT.run r (OpdT.f a loc tm) st kk
  | .indexAddr t x i => let r := indexAddrT X.toCx t; let a := od x; let b := od i; .p fun loc tm st kk => SVT.run r (OpdT.f a loc tm) (OpdT.f b loc tm) st kk
  | .index t x i => let r := indexT X.toCx t; let a := od x; let b := od i; .p fun loc tm st kk => SVT.run r (OpdT.f a loc tm) (OpdT.f b loc tm) st kk
  | .lookup t x i ok => let r := lookT X.toCx t ok; let a := od x; let b := od i; .p fun loc tm st kk => SVT.run r (OpdT.f a loc tm) (OpdT.f b loc tm) st kk
  | .mapUpdate t m k v => let r := updT X.toCx t; let a := od m; let b := od k; let c := od v; .p fun loc tm st kk => UpT.run r (OpdT.f a loc tm) (OpdT.f b loc tm) (OpdT.f c loc tm) st kk
  | .insert t m k v => let r := updT X.toCx t; let a := od m; let b := od k; let c := od v; .p fun loc tm st kk => UpT.run r (OpdT.f a loc tm) (OpdT.f b loc tm) (OpdT.f c loc tm) st kk
  | .range t x => bif isMapT X.toCx t then (let a := od x; .p fun loc tm st kk => rangeK (OpdT.f a loc tm) st kk) else stopT 233
  | .next x false => let a := od x; .p fun loc tm st kk => nextK (OpdT.f a loc tm) st kk
  | .entry x => let a := od x; .p fun loc tm st kk => entryK (OpdT.f a loc tm) st kk
  | .typeAssert x _ a ok => let r := assertT X.toCx a ok; let v := od x; .p fun loc tm st kk => LT.run r (OpdT.f v loc tm) st kk
  | .extract x i => let a := od x; .p fun loc tm st kk => extractK i (OpdT.f a loc tm) st kk
  | .call c => callG od X c
  | .panic x => let a := od x; .q fun _ loc tm st _ kp => panK (OpdT.f a loc tm) st kp
  | _ => stopT 240

theorem partsG_eq (X : XC) (pl : Nat → Option (Nat × Nat)) (tot : Nat) (env : EnvS) (dep : Nat) (l : List (Nat × Operand)) : partsG (opdT env dep) X pl tot l = partsT X pl tot env dep l := rfl
theorem callG_eq (X : XC) (env : EnvS) (dep : Nat) (c : Call) : callG (opdT env dep) X c = callT X env dep c := rfl
theorem opG_eq (X : XC) (env : EnvS) (dep : Nat) (o : Oper) : opG (opdT env dep) X o = opT X env dep o := by
  unfold opG opT
  simp only [partsG_eq, callG_eq, buildF_eq, buildSlF_eq]
  rfl
def opTF (X : XC) (env : EnvS) (dep : Nat) (o : Oper) : OpS := opG (opdF env dep) X o
theorem opTF_eq : opTF = opT := by
  funext X env dep o
  unfold opTF
  rw [opdF_eq, opG_eq]
end Go.Fx
end

noncomputable section
namespace Go.Fx
set_option linter.unusedSimpArgs false
set_option linter.unusedVariables false
set_option linter.unusedSectionVars false

/-! ### What is checked -/
def okOpsL (N : Nat) (all : List Oper) (l : List Oper) : EnvS → Nat → Bool :=
  List.rec (motive := fun _ => EnvS → Nat → Bool) (fun _ _ => true)
    (fun o _ ih env dep => okOps env all o && (match aliasOf N o env with
      | some env' => ih env' dep
      | none => ih (envD o.dst dep env) (depD o.dst dep))) l
def okRegion (N : Nat) (l : List Oper) (draw : Bool) : Bool :=
  inN N (exL l l 0) && ((bif draw then drawStat l (masksOf l []) else true) && okOpsL N l l (envL (exL l l 0) [] 0) (lenA (exL l l 0)))
def okCode (N : Nat) (c : Code) : Bool :=
  Code.rec (motive := fun _ => Bool) true (fun _ ops draw => okRegion N ops.toList draw) (fun _ _ a b => a && b) (fun c _ _ a b => inN N (tmpsOf [c]) && (a && b)) (fun _ _ a => a) (fun _ a => a)
    (fun _ _ _ _ _ _ => true) (fun _ => true) (fun _ _ => true) (fun _ => true) (fun _ => true) true (fun _ => true) c
def okFn (fn : Func) : Bool :=
  match fn.body with
  | some c => dokC fn.ntmps c && okCode (Nat.lor (needsCode c) (needsRes fn.results.toList)) c
  | none => true

/-! ### Pieces -/
def ldOne (g : GV) (ih : LdT) : LdT := ⟨fun loc tm k => Option.rec (motive := fun _ => Ans) (.stop 242 "") (fun v => LdT.run ih (Lo.push v loc) tm k) (GV.f g tm)⟩
def ldF (ts : List Nat) : LdT := List.rec (motive := fun _ => LdT) ⟨fun loc _ k => k loc⟩ (fun t _ ih => ldOne (getV (pa t)) ih) ts
theorem ldF_eq : ∀ ts, ldF ts = ldT ts
  | [] => rfl
  | t :: ts => by
    show ldOne (getV (pa t)) (ldF ts) = ⟨fun loc tm k => kOpt 242 (Tr.get (pa t) tm) fun v => LdT.run (ldT ts) (Lo.push v loc) tm k⟩
    rw [ldF_eq ts]
    unfold ldOne
    simp only [getV_eq]
    rfl
def thenF (N : Nat) (d : Option Nat) (nx : RegT) : RegK :=
  match d with
  | none => ⟨fun call loc tm df k _ st => RegT.run nx call loc tm df st k⟩
  | some t => bif Nat.testBit N t then (let s := setV (pa t); ⟨fun call loc tm df k v st => RegT.run nx call (Lo.push v loc) (SV.f s v tm) df st k⟩) else ⟨fun call loc tm df k v st => RegT.run nx call (Lo.push v loc) tm df st k⟩
theorem thenF_eq : thenF = thenT := by
  funext N d nx
  unfold thenF thenT
  simp only [setV_eq]
  cases d <;> rfl
def thenDF (N : Nat) (d : Option Nat) (nx : RegD) : RegE :=
  match d with
  | none => ⟨fun call loc tm rs df k tm0 _ st => RegD.run nx call loc tm rs df st k tm0⟩
  | some t => bif Nat.testBit N t then (let s := setV (pa t); ⟨fun call loc tm rs df k tm0 v st => RegD.run nx call (Lo.push v loc) (SV.f s v tm) rs df st k tm0⟩) else ⟨fun call loc tm rs df k tm0 v st => RegD.run nx call (Lo.push v loc) tm rs df st k tm0⟩
theorem thenDF_eq : thenDF = thenD := by
  funext N d nx
  unfold thenDF thenD
  simp only [setV_eq]
  cases d <;> rfl
def takeF (y : RegT) (th : RegK) (call : CallF) (loc : Lo) (tm : Tr V) (df : Df) (k : KC) (b : Bool) (st : St) : Ans :=
  Bool.rec (motive := fun _ => RegT → RegK → CallF → Lo → Tr V → Df → KC → St → Ans) (fun _ th call loc tm df k st => RegK.run th call loc tm df k undefV st) (fun y _ call loc tm df k st => RegT.run y call loc tm df st k) b y th call loc tm df k st
def wantF (g : OpdT) (want : Bool) (y : RegT) (th : RegK) : RegT := ⟨fun call loc tm df st k => kG (OpdT.f g loc tm) want st (takeF y th call loc tm df k)⟩
theorem wantF_eq : wantF = wantT := by
  funext g want y th
  have e : ∀ call loc tm df k, takeF y th call loc tm df k = fun b st => bif b then RegT.run y call loc tm df st k else RegK.run th call loc tm df k undefV st := by
    intro call loc tm df k; funext b st; cases b <;> rfl
  unfold wantF wantT
  simp only [e]
def takeD (y : RegD) (th : RegE) (call : CallF) (loc : Lo) (tm : Tr V) (rs : List (Nat × Rc)) (df : Df) (k : KC) (tm0 : Tr V) (b : Bool) (st : St) : Ans :=
  Bool.rec (motive := fun _ => RegD → RegE → CallF → Lo → Tr V → List (Nat × Rc) → Df → KC → Tr V → St → Ans) (fun _ th call loc tm rs df k tm0 st => RegE.run th call loc tm rs df k tm0 undefV st) (fun y _ call loc tm rs df k tm0 st => RegD.run y call loc tm rs df st k tm0) b y th call loc tm rs df k tm0 st
theorem takeD_eq (y : RegD) (th : RegE) (call : CallF) (loc : Lo) (tm : Tr V) (rs : List (Nat × Rc)) (df : Df) (k : KC) (tm0 : Tr V) :
    takeD y th call loc tm rs df k tm0 = fun b st => bif b then RegD.run y call loc tm rs df st k tm0 else RegE.run th call loc tm rs df k tm0 undefV st := by
  funext b st; cases b <;> rfl
def seqF (k : KC) (n : Tr V → Df → St → Ans) (e : Ex) (tm : Tr V) (df : Df) (st : St) : Ans :=
  Ex.rec (motive := fun _ => KC → (Tr V → Df → St → Ans) → Tr V → Df → St → Ans) (fun _ n tm df st => n tm df st) (fun k _ tm df st => k .ret tm df st) (fun i k _ tm df st => k (.exit i) tm df st) (fun c k _ tm df st => k (.pan c) tm df st) e k n tm df st
theorem seqF_eq : seqF = seqE := by funext k n e tm df st; cases e <;> rfl
def blkF (id : Nat) (k : KC) (e : Ex) (tm : Tr V) (df : Df) (st : St) : Ans :=
  Ex.rec (motive := fun _ => Nat → KC → Tr V → Df → St → Ans) (fun _ k tm df st => k .nrm tm df st) (fun _ k tm df st => k .ret tm df st) (fun i id k tm df st => bif Nat.beq i id then k .nrm tm df st else k (.exit i) tm df st) (fun c _ k tm df st => k (.pan c) tm df st) e id k tm df st
theorem blkF_eq : blkF = blkE := by funext id k e tm df st; cases e <;> rfl
def pickF (a b : RunC) (call : CallF) (tm : Tr V) (df : Df) (k : KC) (t : Bool) (st : St) : Ans :=
  Bool.rec (motive := fun _ => RunC → RunC → CallF → Tr V → Df → KC → St → Ans) (fun _ b call tm df k st => b call tm df st k) (fun a _ call tm df k st => a call tm df st k) t a b call tm df k st
theorem pickF_eq (a b : RunC) (call : CallF) (tm : Tr V) (df : Df) (k : KC) : pickF a b call tm df k = fun t st => bif t then a call tm df st k else b call tm df st k := by
  funext t st; cases t <;> rfl
def loopF (b : RunC) (n : Nat) : RunC :=
  Nat.rec (motive := fun _ => RunC) (fun _ _ _ _ _ => .stop 280 "") (fun _ ih call tm df st k => b call tm df st (seqF k fun tm df st => ih call tm df st k)) n
theorem loopF_eq : loopF = loopN := by
  funext b n
  unfold loopF loopN
  rw [seqF_eq]
def resVF (l : List W) : V := List.rec (motive := fun _ => V) (.t []) (fun w t _ => List.rec (motive := fun _ => W → V) (fun w => w.v) (fun w2 t2 _ w => .t (w :: w2 :: t2)) t w) l
theorem resVF_eq : resVF = resV := by
  funext l
  match l with
  | [] => rfl
  | [w] => rfl
  | w :: w2 :: t => rfl
def endF (rs : ResT) (tm : Tr V) (ko : KO) (u : Md) (st : St) : Ans :=
  Md.rec (motive := fun _ => ResT → Tr V → KO → St → Ans) (fun rs tm ko st => ResT.run rs tm st fun l => ko (.ret (resVF l)) st) (fun c r _ _ ko st => bif r then .stop 288 "" else ko (.pan c) st) u rs tm ko st
theorem endF_eq : endF = endK := by
  funext rs tm ko u st
  unfold endF
  rw [resVF_eq]
  cases u with
  | retn => rfl
  | pnk c r => cases r <;> rfl
def resF (X : XC) (N : Nat) (l : List ResultVar) : ResT :=
  List.rec (motive := fun _ => ResT) ⟨fun _ _ k => k []⟩
    (fun r _ ih => match r with
      | .tmp t => bif not (Nat.testBit N t) then ⟨fun _ _ _ => .stop 289 ""⟩ else (let g := getV (pa t); ⟨fun tm st k => kW (slotF g tm) fun w => ResT.run ih tm st fun l => k (w :: l)⟩)
      | .cell a t => bif not (Nat.testBit N a) then ⟨fun _ _ _ => .stop 289 ""⟩ else (let ld := loadT X.toCx t; let g := getV (pa a); ⟨fun tm st k => LT.run ld (slotF g tm) st fun v _ => kW v fun w => ResT.run ih tm st fun l => k (w :: l)⟩)) l
theorem resF_eq : resF = resT := by
  funext X N l
  unfold resF resT
  simp only [slotF_eq]
  congr 1
def setArgsF (l : List V) : Nat → Tr V → Tr V := List.rec (motive := fun _ => Nat → Tr V → Tr V) (fun _ tm => tm) (fun v _ ih i tm => ih (Nat.succ i) (SV.f (setV (pa i)) v tm)) l
theorem setArgsF_eq : setArgsF = setArgs := by
  funext l
  unfold setArgsF setArgs
  simp only [setV_eq]

/-! ### Regions -/
def guardF (all : List Oper) (env : EnvS) (dep : Nat) (j : Nat) : OpdT :=
  match nth all j with
  | some p => match p.dst with
    | some t => opdF env dep (.tmp t)
    | none => ⟨fun _ _ => .t [.c (.bool true)]⟩
  | none => ⟨fun _ _ => .t [.c (.bool true)]⟩
theorem guardF_eq : guardF = guardT := by
  funext all env dep j
  unfold guardF guardT
  rw [opdF_eq]
  cases nth all j with
  | none => rfl
  | some p => dsimp only; cases p.dst <;> rfl
def guardE (all : List Oper) (env : EnvS) (dep : Nat) (o : Oper) (y : RegT) (th : RegK) : RegT :=
  match o.guard with
  | none => y
  | some (j, want) => wantF (guardF all env dep j) want y th
def opE (X : XC) (N : Nat) (all : List Oper) (env : EnvS) (dep : Nat) (o : Oper) (nx : RegT) : RegT :=
  match isDefer o.op with
  | some c =>
    let f := calleeT env dep c
    let as := opdsT (mp (opdT env dep) c.args.toList)
    match o.guard, o.dst with
    | none, none => ⟨fun call loc tm df st k => deferK (OpdT.f f loc tm) (OpdsT.f as loc tm) df fun df => RegT.run nx call loc tm df st k⟩
    | _, _ => ⟨fun _ _ _ _ _ _ => .stop 252 ""⟩
  | none =>
    let th := thenF N o.dst nx
    guardE all env dep o (stepT (opTF X env dep o) th) th
def opsE (X : XC) (N : Nat) (all : List Oper) (l : List Oper) : EnvS → Nat → RegT :=
  List.rec (motive := fun _ => EnvS → Nat → RegT) (fun _ _ => ⟨fun _ _ tm df st k => k .nrm tm df st⟩)
    (fun o _ ih env dep =>
      match aliasOf N o env with
      | some env' => ih env' dep
      | none => opE X N all env dep o (ih (envD o.dst dep env) (depD o.dst dep))) l
theorem opsE_eq {X : XC} (hd : X.dbg = false) {N : Nat} {all : List Oper} : ∀ (l : List Oper) (env : EnvS) (dep : Nat), okOpsL N all l env dep = true → opsE X N all l env dep = opsT X N all l env dep
  | [], _, _, _ => rfl
  | o :: l, env, dep, h => by
    have h : (okOps env all o && (match aliasOf N o env with
      | some env' => okOpsL N all l env' dep
      | none => okOpsL N all l (envD o.dst dep env) (depD o.dst dep))) = true := h
    rw [Bool.and_eq_true] at h
    show (match aliasOf N o env with
      | some env' => opsE X N all l env' dep
      | none => opE X N all env dep o (opsE X N all l (envD o.dst dep env) (depD o.dst dep))) =
      (bif not (okOps env all o) then ⟨fun _ _ _ _ _ _ => .stop 243 o.pos⟩ else
      match aliasOf N o env with
      | some env' => opsT X N all l env' dep
      | none =>
        match isDefer o.op with
        | some c =>
          let nx := opsT X N all l (envD o.dst dep env) (depD o.dst dep)
          let f := calleeT env dep c
          let as := opdsT (mp (opdT env dep) c.args.toList)
          match o.guard, o.dst with
          | none, none => ⟨fun call loc tm df st k => deferK (OpdT.f f loc tm) (OpdsT.f as loc tm) df fun df => RegT.run nx call loc tm df st k⟩
          | _, _ => ⟨fun _ _ _ _ _ _ => .stop 252 ""⟩
        | none =>
          let th := thenT N o.dst (opsT X N all l (envD o.dst dep env) (depD o.dst dep))
          let y := stepT (opT X env dep o) th
          markT X o (match o.guard with
          | none => y
          | some (j, want) => wantT (guardT all env dep j) want y th))
    rw [h.1]
    have h2 := h.2
    cases ha : aliasOf N o env with
    | some env' =>
      rw [ha] at h2
      exact opsE_eq hd l env' dep h2
    | none =>
      rw [ha] at h2
      have e := opsE_eq (X := X) hd l _ _ h2
      show opE X N all env dep o (opsE X N all l (envD o.dst dep env) (depD o.dst dep)) = _
      rw [e]
      unfold opE guardE markT
      rw [hd, thenF_eq, opTF_eq, wantF_eq, guardF_eq]
      rfl

def opD (X : XC) (N : Nat) (all : List Oper) (ms : List Nat) (ks : List Kd) (kms : List (Kd × Nat)) (rest : List Oper) (i : Nat) (env : EnvS) (dep : Nat) (o : Oper) (nx : RegD) : RegD :=
  let th := thenDF N o.dst nx
  let ot := opTF X env dep o
  let m := nthD ms i
  let pn := panT X N all ms i rest env dep o
  let y : RegD := (match kdOf X o.op with
    | .pure => plainD ot m th pn
    | .load => bif anyOut m ks 0 i || anyLate i kms 0 then loadD ot (addrT env dep o.op) i m th else plainD ot m th pn
    | .new => bif anyLate i kms 0 then newD ot i th else plainD ot m th pn
    | .oth => bif anyOut m ks 0 i || anyLate i kms 0 then othD ot i m th pn else plainD ot m th pn)
  match o.guard with
  | none => y
  | some (j, want) =>
    let g := guardF all env dep j
    ⟨fun call loc tm rs df st k tm0 => kG (OpdT.f g loc tm) want st (takeD y th call loc tm rs df k tm0)⟩
def opD0 (X : XC) (N : Nat) (all : List Oper) (ms : List Nat) (ks : List Kd) (kms : List (Kd × Nat)) (rest : List Oper) (i : Nat) (env : EnvS) (dep : Nat) (o : Oper) (nx : RegD) : RegD :=
  let th := thenD N o.dst nx
  let ot := opT X env dep o
  let m := nthD ms i
  let pn := panT X N all ms i rest env dep o
  let y : RegD := (match kdOf X o.op with
    | .pure => plainD ot m th pn
    | .load => bif anyOut m ks 0 i || anyLate i kms 0 then loadD ot (addrT env dep o.op) i m th else plainD ot m th pn
    | .new => bif anyLate i kms 0 then newD ot i th else plainD ot m th pn
    | .oth => bif anyOut m ks 0 i || anyLate i kms 0 then othD ot i m th pn else plainD ot m th pn)
  match o.guard with
  | none => y
  | some (j, want) =>
    let g := guardT all env dep j
    ⟨fun call loc tm rs df st k tm0 => kG (OpdT.f g loc tm) want st fun b st => bif b then RegD.run y call loc tm rs df st k tm0 else RegE.run th call loc tm rs df k tm0 undefV st⟩
theorem opD_eq : opD = opD0 := by
  funext X N all ms ks kms rest i env dep o nx
  unfold opD opD0
  simp only [thenDF_eq, opTF_eq, guardF_eq, takeD_eq]
def opsDE (X : XC) (N : Nat) (all : List Oper) (ms : List Nat) (ks : List Kd) (kms : List (Kd × Nat)) (l : List Oper) : Nat → EnvS → Nat → RegD :=
  List.rec (motive := fun _ => Nat → EnvS → Nat → RegD) (fun _ _ _ => ⟨fun _ _ tm _ df st k _ => k .nrm tm df st⟩)
    (fun o rest ih i env dep =>
      match aliasOf N o env with
      | some env' => ih (Nat.succ i) env' dep
      | none => opD X N all ms ks kms rest i env dep o (ih (Nat.succ i) (envD o.dst dep env) (depD o.dst dep))) l
theorem opsDE_eq {X : XC} (hd : X.dbg = false) {N : Nat} {all : List Oper} {ms : List Nat} {ks : List Kd} {kms : List (Kd × Nat)} : ∀ (l : List Oper) (i : Nat) (env : EnvS) (dep : Nat), okOpsL N all l env dep = true →
    opsDE X N all ms ks kms l i env dep = opsD X N all ms ks kms l i env dep
  | [], _, _, _, _ => rfl
  | o :: l, i, env, dep, h => by
    have h : (okOps env all o && (match aliasOf N o env with
      | some env' => okOpsL N all l env' dep
      | none => okOpsL N all l (envD o.dst dep env) (depD o.dst dep))) = true := h
    rw [Bool.and_eq_true] at h
    show (match aliasOf N o env with
      | some env' => opsDE X N all ms ks kms l (Nat.succ i) env' dep
      | none => opD X N all ms ks kms l i env dep o (opsDE X N all ms ks kms l (Nat.succ i) (envD o.dst dep env) (depD o.dst dep))) =
      (bif not (okOps env all o) then ⟨fun _ _ _ _ _ _ _ _ => .stop 243 o.pos⟩ else
      match aliasOf N o env with
      | some env' => opsD X N all ms ks kms l (Nat.succ i) env' dep
      | none => markD X o (opD0 X N all ms ks kms l i env dep o (opsD X N all ms ks kms l (Nat.succ i) (envD o.dst dep env) (depD o.dst dep))))
    rw [h.1]
    have h2 := h.2
    cases ha : aliasOf N o env with
    | some env' =>
      rw [ha] at h2
      exact opsDE_eq hd l _ env' dep h2
    | none =>
      rw [ha] at h2
      have e := opsDE_eq (X := X) (ms := ms) (ks := ks) (kms := kms) hd l (Nat.succ i) _ _ h2
      show opD X N all ms ks kms l i env dep o (opsDE X N all ms ks kms l (Nat.succ i) (envD o.dst dep env) (depD o.dst dep)) = _
      rw [e, opD_eq]
      unfold markD
      rw [hd]
      rfl
def regE (X : XC) (N : Nat) (l : List Oper) (draw : Bool) : RegT :=
  let ts := exL l l 0
  let env := envL ts [] 0
  let dep := lenA ts
  let ld := ldF ts
  bif draw then
    let ms := masksOf l []
    let ks := mp (fun o => kdOf X o.op) l
    let d := opsDE X N l ms ks (zipK ks ms) l 0 env dep
    ⟨fun call loc tm df st k => LdT.run ld loc tm fun loc => RegD.run d call loc tm [] df st k tm⟩
  else
    let r := opsE X N l l env dep
    ⟨fun call loc tm df st k => LdT.run ld loc tm fun loc => RegT.run r call loc tm df st k⟩
theorem regE_eq {X : XC} (hd : X.dbg = false) {N : Nat} {l : List Oper} {draw : Bool} (h : okRegion N l draw = true) : regE X N l draw = regT X N l draw := by
  unfold okRegion at h
  simp only [Bool.and_eq_true] at h
  obtain ⟨h1, h2, h3⟩ := h
  unfold regE regT
  simp only [h1, ldF_eq]
  cases draw with
  | true =>
    have h2 : drawStat l (masksOf l []) = true := h2
    simp only [h2, opsDE_eq hd l 0 _ _ h3, cond_true, Bool.not_true, cond_false]
  | false => simp only [opsE_eq hd l _ _ h3, Bool.not_true, cond_false]

/-! ### Code -/
def codeE (X : XC) (N : Nat) (c : Code) : CdT :=
  Code.rec (motive := fun _ => CdT)
    ⟨fun _ tm df st k => k .nrm tm df st, noTl⟩
    (fun _ ops draw => let r := regE X N ops.toList draw; ⟨fun call tm df st k => RegT.run r call Lo.nil tm df st k, noTl⟩)
    (fun _ _ a b => ⟨fun call tm df st k => CdT.run a call tm df st (seqF k fun tm df st => CdT.run b call tm df st k), CdT.run b⟩)
    (fun c _ _ a b => let g := opdF [] 0 c; let a := CdT.run a; let b := CdT.run b; ⟨fun call tm df st k => kB (OpdT.f g Lo.nil tm) st (pickF a b call tm df k), noTl⟩)
    (fun id _ b => ⟨fun call tm df st k => CdT.run b call tm df st (blkF id k), noTl⟩)
    (fun c b => let lp := mapLoopT X N c (CdT.tl b) (loopF (CdT.run b) 100000); ⟨LpT.run lp, noTl⟩)
    (fun _ _ _ _ _ _ => ⟨fun _ _ _ _ _ => .stop 281 "", noTl⟩)
    (fun id => ⟨fun _ tm df st k => k (.exit id) tm df st, noTl⟩)
    (fun _ _ => ⟨fun _ _ _ _ _ => .stop 282 "", noTl⟩)
    (fun _ => ⟨fun _ tm df st k => k .nrm tm df st, noTl⟩)
    (fun _ => ⟨fun _ _ _ _ _ => .stop 283 "", noTl⟩)
    ⟨fun _ tm df st k => k .ret tm df st, noTl⟩
    (fun _ => ⟨fun _ _ _ _ _ => .stop 284 "", noTl⟩) c
theorem codeE_eq {X : XC} (hd : X.dbg = false) {N : Nat} : ∀ (c : Code), okCode N c = true → codeE X N c = codeT X N c := by
  intro c
  induction c with
  | region id ops draw =>
    intro h
    have h : okRegion N ops.toList draw = true := h
    show (⟨fun call tm df st k => RegT.run (regE X N ops.toList draw) call Lo.nil tm df st k, noTl⟩ : CdT) = ⟨fun call tm df st k => RegT.run (regT X N ops.toList draw) call Lo.nil tm df st k, noTl⟩
    rw [regE_eq hd h]
  | seq a b ia ib =>
    intro h
    have h : (okCode N a && okCode N b) = true := h
    rw [Bool.and_eq_true] at h
    have ea := ia h.1
    have eb := ib h.2
    show (⟨fun call tm df st k => CdT.run (codeE X N a) call tm df st (seqF k fun tm df st => CdT.run (codeE X N b) call tm df st k), CdT.run (codeE X N b)⟩ : CdT) = ⟨fun call tm df st k => CdT.run (codeT X N a) call tm df st (seqE k fun tm df st => CdT.run (codeT X N b) call tm df st k), CdT.run (codeT X N b)⟩
    rw [ea, eb, seqF_eq]
  | cond c a b ia ib =>
    intro h
    have h : (inN N (tmpsOf [c]) && (okCode N a && okCode N b)) = true := h
    simp only [Bool.and_eq_true] at h
    have ea := ia h.2.1
    have eb := ib h.2.2
    show (⟨fun call tm df st k => kB (OpdT.f (opdF [] 0 c) Lo.nil tm) st (pickF (CdT.run (codeE X N a)) (CdT.run (codeE X N b)) call tm df k), noTl⟩ : CdT) =
      bif not (inN N (tmpsOf [c])) then ⟨fun _ _ _ _ _ => .stop 285 "", noTl⟩ else ⟨fun call tm df st k => kB (OpdT.f (opdT [] 0 c) Lo.nil tm) st fun t st => bif t then CdT.run (codeT X N a) call tm df st k else CdT.run (codeT X N b) call tm df st k, noTl⟩
    rw [ea, eb, h.1, opdF_eq]
    simp only [pickF_eq]
    rfl
  | block id b ib =>
    intro h
    have eb := ib h
    show (⟨fun call tm df st k => CdT.run (codeE X N b) call tm df st (blkF id k), noTl⟩ : CdT) = ⟨fun call tm df st k => CdT.run (codeT X N b) call tm df st (blkE id k), noTl⟩
    rw [eb, blkF_eq]
  | loop b ib =>
    intro h
    have eb := ib h
    show (⟨LpT.run (mapLoopT X N b (CdT.tl (codeE X N b)) (loopF (CdT.run (codeE X N b)) 100000)), noTl⟩ : CdT) = ⟨LpT.run (mapLoopT X N b (CdT.tl (codeT X N b)) (loopN (CdT.run (codeT X N b)) 100000)), noTl⟩
    rw [eb, loopF_eq]
  | _ => intro _; rfl

/-! ### Functions -/
def codeDE (X : XC) (N : Nat) (c : Code) : CdD :=
  match c with
  | .seq (.region id ops false) b =>
    match isRecover ops.toList with
    | some t =>
      let r := codeE X N b
      ⟨fun call tm df u st k => match recov u with | (v, u') => CdT.run r call (Tr.set (pa t) v tm) df st fun e tm df st => k e tm df u' st⟩
    | none => let r := codeE X N c; ⟨fun call tm df u st k => CdT.run r call tm df st fun e tm df st => k e tm df u st⟩
  | c => let r := codeE X N c; ⟨fun call tm df u st k => CdT.run r call tm df st fun e tm df st => k e tm df u st⟩
theorem codeDE_eq {X : XC} (hd : X.dbg = false) {N : Nat} (c : Code) (h : okCode N c = true) : codeDE X N c = codeD X N c := by
  have e := codeE_eq hd c h
  cases c with
  | seq a b =>
    have h2 : (okCode N a && okCode N b) = true := h
    rw [Bool.and_eq_true] at h2
    have eb := codeE_eq hd b h2.2
    cases a with
    | region id ops draw =>
      cases draw with
      | false =>
        unfold codeDE codeD
        dsimp only
        rw [e, eb]
        cases isRecover ops.toList <;> rfl
      | true => unfold codeDE codeD; dsimp only; rw [e]
    | _ => unfold codeDE codeD; dsimp only; rw [e]
  | _ => unfold codeDE codeD; dsimp only; rw [e]
def dbodyE (X : XC) (g : Nat) : DBodyT :=
  match X.fn g with
  | some fn => match fn.body with
    | some c =>
      let cd := codeDE X (Nat.lor (needsCode c) (needsRes fn.results.toList)) c
      ⟨fun call args u st k => CdD.run cd call (setArgsF args 0 .e) [] u st fun e tm df u st =>
        match e, df, fn.results.toList with
        | .nrm, [], [] => k u st
        | .ret, [], [] => k u st
        | _, _, _ => .stop 291 ""⟩
    | none => ⟨fun _ _ _ _ _ => .stop 292 ""⟩
  | none => ⟨fun _ _ _ _ _ => .stop 293 ""⟩
/-- all functions of a table pass -/
def OkFns (X : XC) : Prop := ∀ g fn, X.fn g = some fn → okFn fn = true
theorem dbodyE_eq {X : XC} (hd : X.dbg = false) (ho : OkFns X) (g : Nat) : dbodyE X g = dbodyT X g := by
  unfold dbodyE dbodyT
  cases hfn : X.fn g with
  | none => rfl
  | some fn =>
    have h := ho g fn hfn
    unfold okFn at h
    dsimp only
    cases hc : fn.body with
    | none => rfl
    | some c =>
      rw [hc] at h
      simp only [Bool.and_eq_true] at h
      dsimp only
      rw [codeDE_eq hd c h.2, h.1, setArgsF_eq]
      rfl
def leavesE (X : XC) (call : CallF) (df : Df) : Md → St → (Md → St → Ans) → Ans :=
  List.rec (motive := fun _ => Md → St → (Md → St → Ans) → Ans) (fun u st k => k u st)
    (fun d _ ih u st k => DBodyT.run (dbodyE X d.1) call d.2 u st fun u st => ih (settle u) st k) df
theorem leavesE_eq {X : XC} (hd : X.dbg = false) (ho : OkFns X) (call : CallF) (df : Df) : leavesE X call df = leavesK X call df := by
  unfold leavesE leavesK
  simp only [dbodyE_eq hd ho]
def finE (X : XC) (rs : ResT) (call : CallF) (ko : KO) (e : Ex) (tm : Tr V) (df : Df) (st : St) : Ans :=
  Ex.rec (motive := fun _ => XC → ResT → CallF → KO → Tr V → Df → St → Ans) (fun X rs call ko tm df st => leavesE X call df .retn st (endF rs tm ko)) (fun X rs call ko tm df st => leavesE X call df .retn st (endF rs tm ko)) (fun _ _ _ _ _ _ _ _ => .stop 294 "")
    (fun c X rs call ko tm df st => leavesE X call df (.pnk c false) st (endF rs tm ko)) e X rs call ko tm df st
def fnE (X : XC) (g : Nat) : BodyT :=
  match Tr.get (pa g) X.intr with
  | some i => ⟨fun _ args st ko => IntrT.run i args st ko⟩
  | none =>
    match X.fn g with
    | some fn => match fn.body with
      | some c =>
        let cd := codeE X (Nat.lor (needsCode c) (needsRes fn.results.toList)) c
        let rs := resF X (Nat.lor (needsCode c) (needsRes fn.results.toList)) fn.results.toList
        ⟨fun call args st ko => CdT.run cd call (setArgsF args 0 .e) [] st (finE X rs call ko)⟩
      | none => ⟨fun _ _ _ _ => .stop 295 ""⟩
    | none => ⟨fun _ _ _ _ => .stop 296 ""⟩
theorem finE_eq {X : XC} (hd : X.dbg = false) (ho : OkFns X) : finE X = finK X := by
  funext rs call ko e tm df st
  cases e with
  | exit i => rfl
  | _ => (show leavesE _ _ _ _ _ _ = _; rw [leavesE_eq hd ho, endF_eq]; rfl)
theorem fnE_eq {X : XC} (hd : X.dbg = false) (ho : OkFns X) (g : Nat) : fnE X g = fnT X g := by
  unfold fnE fnT
  cases Tr.get (pa g) X.intr with
  | some i => rfl
  | none =>
    dsimp only
    cases hfn : X.fn g with
    | none => rfl
    | some fn =>
      have h := ho g fn hfn
      unfold okFn at h
      dsimp only
      cases hc : fn.body with
      | none => rfl
      | some c =>
        rw [hc] at h
        simp only [Bool.and_eq_true] at h
        dsimp only
        rw [codeE_eq hd c h.2, h.1, finE_eq hd ho, resF_eq, setArgsF_eq]
        rfl
def callE (X : XC) (d : Nat) : CallF :=
  Nat.rec (motive := fun _ => CallF) (fun _ _ _ _ => .stop 297 "") (fun _ ih g args st ko => BodyT.run (fnE X g) ih args st ko) d
theorem callE_eq {X : XC} (hd : X.dbg = false) (ho : OkFns X) : ∀ d, callE X d = callN X d
  | 0 => rfl
  | d + 1 => by
    show (fun g args st ko => BodyT.run (fnE X g) (callE X d) args st ko) = fun g args st ko => BodyT.run (fnT X g) (callN X d) args st ko
    rw [callE_eq hd ho d]
    funext g args st ko
    rw [fnE_eq hd ho]
def runE (X : XC) (d g : Nat) (args : List V) (nx : Nat) : Ans := callE X d g args (st0 nx) topK
theorem runE_eq {X : XC} (hd : X.dbg = false) (ho : OkFns X) (d g : Nat) (args : List V) (nx : Nat) : runE X d g args nx = run X d g args nx := by
  unfold runE run
  rw [callE_eq hd ho]
theorem okFns_mk {X : XC} (h : allT okFn X.fns = true) : OkFns X := fun g fn hg => allT_get (pa g) h hg
end Go.Fx
end

