/-
  A fast symbolic executor for the model's code, proved right: part E.
-/
import Derived.Test.YtgeankpiediebaaGreatFxD
noncomputable section
namespace Go.Fx
set_option linter.unusedSimpArgs false
set_option linter.unusedVariables false
set_option linter.unusedSectionVars false

/-- a word's lowest bits are these, c of them; a number is above -/
def hasT (t : Tr Bool) (n : Nat) : Bool := match Tr.get (pa n) t with | some _ => true | none => false
def bitsC (c : Nat) : Nat := bif Nat.beq c 20 then 12 else 20
def immS (c : Nat) (E : SE) : SE := bif Nat.beq c 20 then mkSx E 12 else mkSx (mkCat (.lit 0) 12 E) 32
def immI (c : Nat) (e : Int) : Int := bif Nat.beq c 20 then sgn (e % 2 ^ 12) 12 else sgn ((2 ^ 12 * e) % 2 ^ 32) 32
def immK (c e : Nat) : Int := bif Nat.beq c 20 then sgn (Int.ofNat (Nat.mod e 4096)) 12 else sgn (Int.ofNat (Nat.mod (Nat.mul 4096 e) M32)) 32
def decS (t20 t12 : Tr Bool) (args : List V) (st : St) (ko : KO) : Ans :=
  match args with
  | [.c (.ivar .u32 (.cat (.lit (.ofNat L)) c E))] =>
    bif ubLe E (bitsC c) && (bif Nat.beq c 20 then hasT t20 L else Nat.beq c 12 && hasT t12 L) then
      (match decW L with
      | some [o, d, r, q, _] => ko (.ret (.t [.a [o, d, r, q, .ivar .i32 (immS c E)], .c (.bool true)])) st
      | _ => .stop 330 "")
    else .stop 331 ""
  | [.c (.u32 x)] =>
    bif hasT t20 (Nat.mod x 1048576) then
      (match decW (Nat.mod x 1048576) with
      | some [o, d, r, q, _] => ko (.ret (.t [.a [o, d, r, q, ofInt .i32 (immK 20 (Nat.div x 1048576))], .c (.bool true)])) st
      | _ => .stop 330 "")
    else bif hasT t12 (Nat.mod x 4096) then
      (match decW (Nat.mod x 4096) with
      | some [o, d, r, q, _] => ko (.ret (.t [.a [o, d, r, q, ofInt .i32 (immK 12 (Nat.div x 4096))], .c (.bool true)])) st
      | _ => .stop 330 "")
    else .stop 332 ""
  | _ => .stop 333 ""
def decSP (t20 t12 : Tr Bool) (args : List V) : Bool :=
  match args with
  | [.c (.ivar .u32 (.cat (.lit (.ofNat L)) c E))] => ubLe E (bitsC c) && (bif Nat.beq c 20 then hasT t20 L else Nat.beq c 12 && hasT t12 L)
  | [.c (.u32 x)] => hasT t20 (Nat.mod x 1048576) || hasT t12 (Nat.mod x 4096)
  | _ => false
def litB : C → Bool
  | .i64 n => inS M63 n
  | _ => false
/-- run: reading such a word gives what is said -/
def decSChk (X : XC) (dec c L : Nat) : Bool :=
  (Nat.beq c 20 || Nat.beq c 12) && (Nat.blt L (p2 c) && (match decW L with
  | some [o, d, r, q, _] => [o, d, r, q].all litB && (match run X 90 dec [.c (.ivar .u32 (.cat (.lit (.ofNat L)) c (.ext (.v .u32 0) 0 (bitsC c))))] 0 with
    | .ret (.t [.a [o', d', r', q', .ivar .i32 y], .c (.bool b)]) => eqLB [o, d, r, q] [o', d', r', q'] && (SE.beq y (immS c (.ext (.v .u32 0) 0 (bitsC c))) && b)
    | _ => false)
  | _ => false))
def encS (t20 t12 : Tr Bool) (args : List V) (st : St) (ko : KO) : Ans :=
  match args with
  | [.a [.i64 (.ofNat op), .i64 (.ofNat rd), .i64 (.ofNat r1), .i64 (.ofNat r2), .ivar .i32 (.sx E m)]] =>
    (match encW op rd r1 r2 0 with
    | some L =>
      (match decW L with
      | some l => bif eqLB l [.i64 (.ofNat op), .i64 (.ofNat rd), .i64 (.ofNat r1), .i64 (.ofNat r2), .i32 0] then
          (bif Nat.beq m 12 && hasT t20 L then ko (.ret (.t [.c (.ivar .u32 (mkCat (.lit (.ofNat L)) 20 (mkExt E 0 12))), .c (.i64 (.ofNat 0))])) st
          else (match E with
            | .hi v => bif Nat.beq m 32 && hasT t12 L then ko (.ret (.t [.c (.ivar .u32 (mkCat (.lit (.ofNat L)) 12 (.ext (.hi v) 12 20))), .c (.i64 (.ofNat 0))])) st else .stop 340 ""
            | _ => .stop 341 ""))
        else .stop 342 ""
      | none => .stop 343 "")
    | none => .stop 344 "")
  | [.a [.i64 (.ofNat op), .i64 (.ofNat rd), .i64 (.ofNat r1), .i64 (.ofNat r2), .i32 n]] =>
    (match encW op rd r1 r2 0 with
    | some L =>
      (match decW L with
      | some l => bif eqLB l [.i64 (.ofNat op), .i64 (.ofNat rd), .i64 (.ofNat r1), .i64 (.ofNat r2), .i32 0] then
          (bif hasT t20 L && (ble' (-2048) n && ble' n 2047) then ko (.ret (.t [.c (.u32 (Nat.add L (Nat.mul 1048576 (bitsI n 4096)))), .c (.i64 (.ofNat 0))])) st
          else bif hasT t12 L && (Nat.beq (Nat.mod (bitsI n M32) 4096) 0 && inS M31 n) then ko (.ret (.t [.c (.u32 (Nat.add L (bitsI n M32))), .c (.i64 (.ofNat 0))])) st
          else .stop 345 "")
        else .stop 342 ""
      | none => .stop 343 "")
    | none => .stop 344 "")
  | _ => .stop 346 ""
def encSP (t20 t12 : Tr Bool) (args : List V) : Bool :=
  match args with
  | [.a [.i64 (.ofNat op), .i64 (.ofNat rd), .i64 (.ofNat r1), .i64 (.ofNat r2), .ivar .i32 (.sx E m)]] =>
    (match encW op rd r1 r2 0 with
    | some L => bif Nat.beq m 12 then hasT t20 L else (match E with | .hi _ => Nat.beq m 32 && hasT t12 L | _ => false)
    | none => false)
  | [.a [.i64 (.ofNat op), .i64 (.ofNat rd), .i64 (.ofNat r1), .i64 (.ofNat r2), .i32 n]] =>
    (match encW op rd r1 r2 0 with
    | some L => bif hasT t20 L then ble' (-2048) n && ble' n 2047 else hasT t12 L && (Nat.beq (Nat.mod (bitsI n M32) 4096) 0 && inS M31 n)
    | none => false)
  | _ => false
def encSChk (X : XC) (enc c L : Nat) : Bool :=
  (Nat.beq c 20 || Nat.beq c 12) && (Nat.blt L (p2 c) && (match decW L with
  | some [o, d, r, q, n] => eqCB n (.i32 0) && ([o, d, r, q].all litB && (match run X 90 enc [.a [o, d, r, q, .ivar .i32 (bif Nat.beq c 20 then .sx (.ext (.v .u32 0) 0 12) 12 else .sx (.hi (.v .u32 0)) 32)]] 0 with
    | .ret (.t [.c (.ivar .u32 y), .c (.i64 e)]) => SE.beq y (.cat (.lit (.ofNat L)) c (bif Nat.beq c 20 then .ext (.v .u32 0) 0 12 else .ext (.hi (.v .u32 0)) 12 20)) && decide (e = 0)
    | _ => false))
  | _ => false))

section
variable {P : Program} {ρ : Env} {R : V → Prop}
theorem hasT_mem {l : List Nat} {x : Nat} (h : hasT (setOf l) x = true) : x ∈ l := by
  unfold hasT at h
  split at h
  · rename_i b hb; exact setOf_mem hb
  · cases h
theorem litB_bare {c : C} (h : litB c = true) : c.bare := by
  intro ι A
  unfold litB at h
  split at h
  · exact inS_range h
  · cases h
theorem litB_den {c : C} (h : litB c = true) (ρ ρ' : Env) (ι ι' : Loc) : c.den ρ ι = c.den ρ' ι' := by
  unfold litB at h
  split at h
  · rfl
  · cases h
def env1 (n : Int) : Env := ⟨fun _ => n, fun _ => false⟩
theorem env1_v {n : Int} (h0 : 0 ≤ n) (h1 : n < 4294967296) : (SE.v .u32 0).eval (env1 n) = n := by
  show IntKind.u32.wrap n = n
  rw [IntKind.wrap_u32]; omega
theorem c_cases {c : Nat} (h : (Nat.beq c 20 || Nat.beq c 12) = true) : c = 20 ∨ c = 12 := by
  rw [Bool.or_eq_true] at h
  rcases h with h | h
  · exact .inl (Nat.eq_of_beq_eq_true h)
  · exact .inr (Nat.eq_of_beq_eq_true h)
theorem immS_eval {c : Nat} (hc : c = 20 ∨ c = 12) (E : SE) : (immS c E).eval ρ = immI c (E.eval ρ) := by
  rcases hc with rfl | rfl
  · show (mkSx E 12).eval ρ = sgn (E.eval ρ % 2 ^ 12) 12
    exact mkSx_eval _ _
  · show (mkSx (mkCat (.lit 0) 12 E) 32).eval ρ = sgn ((2 ^ 12 * E.eval ρ) % 2 ^ 32) 32
    rw [mkSx_eval, mkCat_eval]
    show sgn ((0 + 2 ^ 12 * E.eval ρ) % 2 ^ 32) 32 = _
    rw [Int.zero_add]
theorem immK_eq {c : Nat} (hc : c = 20 ∨ c = 12) (e : Nat) : immK c e = immI c (e : Int) := by
  rcases hc with rfl | rfl
  · rfl
  · show sgn (((4096 * e % M32 : Nat) : Int)) 32 = sgn ((2 ^ 12 * (e : Int)) % 2 ^ 32) 32
    congr 1
/-- what is read of such a word -/
theorem dec_sym {X : XC} (hX : XOk P X) (hI : X.intr = .e) (hmix : P.follows .mixedOrders = true) {dec c L : Nat} (h : decSChk X dec c L = true) :
    ∃ o d r q n, decW L = some [o, d, r, q, n] ∧ (∀ x ∈ [o, d, r, q], x.bare) ∧ ∀ (e : Int) (ρ : Env) (ι : Loc) (w : World), 0 ≤ e → e < 2 ^ bitsC c →
      Calls P dec #[.int .u32 (L + 2 ^ c * e)] w fun z w' => z = .returned (.tuple #[.agg #[o.den ρ ι, d.den ρ ι, r.den ρ ι, q.den ρ ι, .int .i32 (immI c e)], .bool true]) ∧ RowKit.Below w.heap.size w w' := by
  unfold decSChk at h
  simp only [Bool.and_eq_true] at h
  obtain ⟨h1, h2, h3⟩ := h
  have hc := c_cases h1
  split at h3
  · rename_i o d r q n hd
    simp only [Bool.and_eq_true] at h3
    obtain ⟨h4, h5⟩ := h3
    have hl : ∀ x ∈ [o, d, r, q], litB x = true := fun x hx => List.all_eq_true.1 h4 x hx
    refine ⟨o, d, r, q, n, hd, fun x hx => litB_bare (hl x hx), fun e ρ ι w e0 e1 => ?_⟩
    split at h5
    · rename_i o' d' r' q' y b hr
      simp only [Bool.and_eq_true] at h5
      obtain ⟨h6, h7, h8⟩ := h5
      have h6 := eqLB_eq h6
      simp only [List.cons.injEq, and_true] at h6
      obtain ⟨rfl, rfl, rfl, rfl⟩ := h6
      have h7 := SE.beq_eq h7
      subst h7
      subst h8
      have eb : e < 2 ^ 32 := by
        rcases hc with rfl | rfl
        · have e1 : e < 2 ^ 12 := e1
          simp only [Int.reducePow] at *; omega
        · have e1 : e < 2 ^ 20 := e1
          simp only [Int.reducePow] at *; omega
      have hv : (SE.ext (.v .u32 0) 0 (bitsC c)).eval (env1 e) = e := by
        show ((SE.v .u32 0).eval (env1 e) / 2 ^ 0) % 2 ^ bitsC c = e
        rw [env1_v e0 (by simpa using eb)]
        exact ext_all e0 e1 (Nat.le_refl _)
      have hk := calls_ret hX hI hmix hr (fun x hx => (by simp only [List.mem_cons, List.not_mem_nil, or_false] at hx; subst hx; exact fun _ _ => trivial)) (env1 e) w
      have ea : (([.c (.ivar .u32 (.cat (.lit (.ofNat L)) c (.ext (.v .u32 0) 0 (bitsC c))))] : List V).map (V.den (env1 e) noloc)).toArray = #[.int .u32 (L + 2 ^ c * e)] := by
        show #[Value.int .u32 ((L : Int) + 2 ^ c * (SE.ext (.v .u32 0) 0 (bitsC c)).eval (env1 e))] = _
        rw [hv]
      rw [ea] at hk
      refine hk.mono fun z w' hh => ⟨?_, hh.2⟩
      obtain ⟨ι', rfl⟩ := hh.1
      have eI : (immS c (.ext (.v .u32 0) 0 (bitsC c))).eval (env1 e) = immI c e := by rw [immS_eval hc, hv]
      show Ending.returned (.tuple #[.agg #[o.den (env1 e) ι', d.den (env1 e) ι', r.den (env1 e) ι', q.den (env1 e) ι', .int .i32 ((immS c (.ext (.v .u32 0) 0 (bitsC c))).eval (env1 e))], .bool true]) = _
      rw [eI, litB_den (hl o (by simp)) (env1 e) ρ ι' ι, litB_den (hl d (by simp)) (env1 e) ρ ι' ι, litB_den (hl r (by simp)) (env1 e) ρ ι' ι, litB_den (hl q (by simp)) (env1 e) ρ ι' ι]
    · cases h5
  · cases h3
theorem bare5 {o d r q : C} {y : C} (h : ∀ x ∈ [o, d, r, q], x.bare) (hy : y.bare) : (V.t [.a [o, d, r, q, y], .c (.bool true)]).bare := by
  intro ι A z hz
  simp only [List.mem_cons, List.not_mem_nil, or_false] at hz
  rcases hz with rfl | rfl
  · intro c hc
    have hc : c ∈ [o, d, r, q, y] := hc
    simp only [List.mem_cons, List.not_mem_nil, or_false] at hc
    rcases hc with rfl | rfl | rfl | rfl | rfl
    · exact h _ (by simp) ι A
    · exact h _ (by simp) ι A
    · exact h _ (by simp) ι A
    · exact h _ (by simp) ι A
    · exact hy ι A
  · intro c hc
    simp only [W.cells, List.mem_cons, List.not_mem_nil, or_false] at hc
    subst hc
    trivial
theorem decS_at {X : XC} (hX : XOk P X) (hI : X.intr = .e) (hmix : P.follows .mixedOrders = true) {dec : Nat} (hen : ∀ as w, (callFunc dec as).run P w = .ok (.enter dec as) w) {l20 l12 : List Nat}
    (h20 : l20.all (decSChk X dec 20) = true) (h12 : l12.all (decSChk X dec 12) = true) : IntrAt P ρ R dec ⟨decS (setOf l20) (setOf l12)⟩ := by
  have go : ∀ {c L : Nat}, (bif Nat.beq c 20 then hasT (setOf l20) L else Nat.beq c 12 && hasT (setOf l12) L) = true → decSChk X dec c L = true ∧ (c = 20 ∨ c = 12) := by
    intro c L h
    rw [bif_eq] at h
    split at h
    · rename_i e
      have e := Nat.eq_of_beq_eq_true e
      subst e
      exact ⟨List.all_eq_true.1 h20 L (hasT_mem h), .inl rfl⟩
    · rw [Bool.and_eq_true] at h
      have e := Nat.eq_of_beq_eq_true h.1
      subst e
      exact ⟨List.all_eq_true.1 h12 L (hasT_mem h.2), .inr rfl⟩
  have lit : ∀ (c x : Nat) (hc : c = 20 ∨ c = 12) (hch : decSChk X dec c (x % p2 c) = true) (st : St) (ko : KO) (hx32 : True),
      Ok ρ R (match decW (x % p2 c) with
      | some [o, d, r, q, _] => ko (.ret (.t [.a [o, d, r, q, ofInt .i32 (immK c (x / p2 c))], .c (.bool true)])) st
      | _ => .stop 330 "") → ∃ out st', Ok ρ R (ko out st') ∧ (∀ as w, (callFunc dec as).run P w = .ok (.enter dec as) w) ∧ CStep P ρ dec [.c (.u32 x)] st out st' := by
    intro c x hc hch st ko _ hk
    obtain ⟨o, d, r, q, n, hd, hb, hcall⟩ := dec_sym hX hI hmix hch
    rw [hd] at hk
    refine ⟨_, st, hk, hen, .refl _ _, fun A ι w _ hr hin => ?_⟩
    have hx : x < M32 := hin (.c (.u32 x)) (by simp)
    have hx : x < 4294967296 := hx
    have e0 : (0 : Int) ≤ ((x / p2 c : Nat) : Int) := Int.natCast_nonneg _
    have e1 : ((x / p2 c : Nat) : Int) < 2 ^ bitsC c := by
      rcases hc with rfl | rfl
      · show ((x / 1048576 : Nat) : Int) < 4096
        omega
      · show ((x / 4096 : Nat) : Int) < 1048576
        omega
    have ex : ((x % p2 c : Nat) : Int) + 2 ^ c * ((x / p2 c : Nat) : Int) = x := by
      rcases hc with rfl | rfl
      · show ((x % 1048576 : Nat) : Int) + 1048576 * ((x / 1048576 : Nat) : Int) = x
        omega
      · show ((x % 4096 : Nat) : Int) + 4096 * ((x / 4096 : Nat) : Int) = x
        omega
    have h3 := hcall ((x / p2 c : Nat) : Int) ρ ι w e0 e1
    rw [ex] at h3
    refine h3.mono fun z w' hh => ⟨ι, ?_, post_below hr hh.2, bare5 hb (ofInt_bare _ _) _ _⟩
    rw [hh.1]
    show _ = Ending.returned (.tuple #[.agg #[o.den ρ ι, d.den ρ ι, r.den ρ ι, q.den ρ ι, (ofInt .i32 (immK c (x / p2 c))).den ρ ι], .bool true])
    rw [ofInt_den, immK_eq hc]
  intro args st ko hf hk
  replace hk : Ok ρ R (decS (setOf l20) (setOf l12) args st ko) := hk
  unfold decS at hk
  split at hk
  · rename_i L c E
    obtain ⟨hc, hk⟩ := ok_bif hk
    rw [Bool.and_eq_true] at hc
    obtain ⟨hch, hcc⟩ := go hc.2
    obtain ⟨o, d, r, q, n, hd, hb, hcall⟩ := dec_sym hX hI hmix hch
    rw [hd] at hk
    obtain ⟨e0, e1⟩ := ubLe_spec (ρ := ρ) hc.1
    refine ⟨_, st, hk, hen, cstep_below (bare5 hb fun _ _ => trivial) fun ι w => ?_⟩
    refine (hcall (E.eval ρ) ρ ι w e0 e1).mono fun z w' hh => ⟨?_, hh.2⟩
    rw [hh.1]
    show _ = Ending.returned (.tuple #[.agg #[o.den ρ ι, d.den ρ ι, r.den ρ ι, q.den ρ ι, .int .i32 ((immS c E).eval ρ)], .bool true])
    rw [immS_eval hcc]
  · rename_i x
    rw [bif_eq] at hk
    split at hk
    · rename_i hh
      exact lit 20 x (.inl rfl) (List.all_eq_true.1 h20 _ (hasT_mem hh)) st ko trivial hk
    · obtain ⟨hh, hk⟩ := ok_bif hk
      exact lit 12 x (.inr rfl) (List.all_eq_true.1 h12 _ (hasT_mem hh)) st ko trivial hk
  · cases hk

theorem enc_sym {X : XC} (hX : XOk P X) (hI : X.intr = .e) (hmix : P.follows .mixedOrders = true) {enc c L : Nat} (h : encSChk X enc c L = true) {o d r q : C} (hd : decW L = some [o, d, r, q, .i32 0]) :
    (c = 20 ∨ c = 12) ∧ L < 2 ^ c ∧ ∀ (e : Int) (ρ : Env) (ι : Loc) (w : World), (c = 20 → 0 ≤ e ∧ e < 2 ^ 12) → (c = 12 → 0 ≤ e ∧ e < 2 ^ 32) →
      Calls P enc #[.agg #[o.den ρ ι, d.den ρ ι, r.den ρ ι, q.den ρ ι, .int .i32 (bif Nat.beq c 20 then sgn (e % 2 ^ 12) 12 else sgn ((SE.hi (.v .u32 0)).eval (env1 e) % 2 ^ 32) 32)]] w fun z w' =>
        z = .returned (.tuple #[.int .u32 (bif Nat.beq c 20 then L + 2 ^ 20 * e else L + (SE.hi (.v .u32 0)).eval (env1 e)), .int .i64 0]) ∧ RowKit.Below w.heap.size w w' := by
  unfold encSChk at h
  simp only [Bool.and_eq_true] at h
  obtain ⟨h1, h2, h3⟩ := h
  have hc := c_cases h1
  rw [hd] at h3
  simp only [Bool.and_eq_true] at h3
  obtain ⟨_, h4, h5⟩ := h3
  have hl : ∀ x ∈ [o, d, r, q], litB x = true := fun x hx => List.all_eq_true.1 h4 x hx
  have h2 : L < p2 c := by simpa using h2
  refine ⟨hc, h2, fun e ρ ι w e20 e12 => ?_⟩
  split at h5
  · rename_i y ee hr
    simp only [Bool.and_eq_true, decide_eq_true_eq] at h5
    obtain ⟨h6, h7⟩ := h5
    have h6 := SE.beq_eq h6
    subst h6
    subst h7
    have hk := calls_ret hX hI hmix hr (fun x hx => (by
      simp only [List.mem_cons, List.not_mem_nil, or_false] at hx
      subst hx
      intro ι A c hc
      simp only [List.mem_cons, List.not_mem_nil, or_false] at hc
      rcases hc with rfl | rfl | rfl | rfl | rfl
      · exact litB_bare (hl _ (by simp)) ι A
      · exact litB_bare (hl _ (by simp)) ι A
      · exact litB_bare (hl _ (by simp)) ι A
      · exact litB_bare (hl _ (by simp)) ι A
      · trivial)) (env1 e) w
    rcases hc with rfl | rfl
    · obtain ⟨e0, e1⟩ := e20 rfl
      have hv : (SE.ext (.v .u32 0) 0 12).eval (env1 e) = e := by
        show ((SE.v .u32 0).eval (env1 e) / 2 ^ 0) % 2 ^ 12 = e
        rw [env1_v e0 (by simp only [Int.reducePow] at e1; omega)]
        exact ext_all e0 e1 (Nat.le_refl _)
      have ea : (([.a [o, d, r, q, .ivar .i32 (.sx (.ext (.v .u32 0) 0 12) 12)]] : List V).map (V.den (env1 e) noloc)).toArray = #[.agg #[o.den ρ ι, d.den ρ ι, r.den ρ ι, q.den ρ ι, .int .i32 (sgn (e % 2 ^ 12) 12)]] := by
        show #[Value.agg #[o.den (env1 e) noloc, d.den (env1 e) noloc, r.den (env1 e) noloc, q.den (env1 e) noloc, .int .i32 (sgn ((SE.ext (.v .u32 0) 0 12).eval (env1 e) % 2 ^ 12) 12)]] = _
        rw [hv, litB_den (hl o (by simp)) (env1 e) ρ noloc ι, litB_den (hl d (by simp)) (env1 e) ρ noloc ι, litB_den (hl r (by simp)) (env1 e) ρ noloc ι, litB_den (hl q (by simp)) (env1 e) ρ noloc ι]
      have hk2 : Calls P enc (([.a [o, d, r, q, .ivar .i32 (.sx (.ext (.v .u32 0) 0 12) 12)]] : List V).map (V.den (env1 e) noloc)).toArray w _ := hk
      rw [ea] at hk2
      refine hk2.mono fun z w' hh => ⟨?_, hh.2⟩
      obtain ⟨ι', rfl⟩ := hh.1
      show Ending.returned (.tuple #[.int .u32 ((L : Int) + 2 ^ 20 * (SE.ext (.v .u32 0) 0 12).eval (env1 e)), .int .i64 0]) = _
      rw [hv]
      rfl
    · obtain ⟨e0, e1⟩ := e12 rfl
      have ea : (([.a [o, d, r, q, .ivar .i32 (.sx (.hi (.v .u32 0)) 32)]] : List V).map (V.den (env1 e) noloc)).toArray = #[.agg #[o.den ρ ι, d.den ρ ι, r.den ρ ι, q.den ρ ι, .int .i32 (sgn ((SE.hi (.v .u32 0)).eval (env1 e) % 2 ^ 32) 32)]] := by
        show #[Value.agg #[o.den (env1 e) noloc, d.den (env1 e) noloc, r.den (env1 e) noloc, q.den (env1 e) noloc, .int .i32 (sgn ((SE.hi (.v .u32 0)).eval (env1 e) % 2 ^ 32) 32)]] = _
        rw [litB_den (hl o (by simp)) (env1 e) ρ noloc ι, litB_den (hl d (by simp)) (env1 e) ρ noloc ι, litB_den (hl r (by simp)) (env1 e) ρ noloc ι, litB_den (hl q (by simp)) (env1 e) ρ noloc ι]
      have hk2 : Calls P enc (([.a [o, d, r, q, .ivar .i32 (.sx (.hi (.v .u32 0)) 32)]] : List V).map (V.den (env1 e) noloc)).toArray w _ := hk
      rw [ea] at hk2
      refine hk2.mono fun z w' hh => ⟨?_, hh.2⟩
      obtain ⟨ι', rfl⟩ := hh.1
      show Ending.returned (.tuple #[.int .u32 ((L : Int) + 2 ^ 12 * (((SE.hi (.v .u32 0)).eval (env1 e) / 2 ^ 12) % 2 ^ 20)), .int .i64 0]) = _
      rw [hi_up]
      rfl
  · cases h5
theorem bare2 {y : C} (hy : y.bare) : (V.t [.c y, .c (.i64 (.ofNat 0))]).bare := by
  intro ι A z hz
  simp only [List.mem_cons, List.not_mem_nil, or_false] at hz
  rcases hz with rfl | rfl
  · intro c hc
    simp only [W.cells, List.mem_cons, List.not_mem_nil, or_false] at hc
    subst hc
    exact hy ι A
  · intro c hc
    simp only [W.cells, List.mem_cons, List.not_mem_nil, or_false] at hc
    subst hc
    exact bareB_bare (by decide) ι A
theorem bitsI_eq (n : Int) (w : Nat) : ((bitsI n (2 ^ w) : Nat) : Int) = n % 2 ^ w := by
  have e : ((2 ^ w : Nat) : Int) = 2 ^ w := by push_cast; rfl
  have hp := Nat.two_pow_pos w
  unfold bitsI
  split
  · rename_i m
    show ((m % 2 ^ w : Nat) : Int) = (m : Int) % 2 ^ w
    push_cast; rfl
  · rename_i m
    have hlt := Nat.mod_lt m hp
    show ((2 ^ w - 1 - m % 2 ^ w : Nat) : Int) = _
    rw [Int.negSucc_emod m (by omega), ← e, ← Int.natCast_emod]
    omega
theorem hi_env {v : Int} : (SE.hi (.v .u32 0)).eval (env1 (v % 2 ^ 32)) = (v - sgn (v % 2 ^ 12) 12) % 2 ^ 32 := by
  show ((SE.v .u32 0).eval (env1 (v % 2 ^ 32)) - sgn ((SE.v .u32 0).eval (env1 (v % 2 ^ 32)) % 2 ^ 12) 12) % 2 ^ 32 = _
  obtain ⟨h0, h1⟩ := ext_nonneg v 32
  rw [env1_v h0 (by simpa using h1), mod_mod]
  show (v % 2 ^ 32 - sgn (v % 2 ^ 12) 12) % 2 ^ 32 = _
  rw [Int.sub_emod, Int.emod_emod, ← Int.sub_emod]
theorem encS_at {X : XC} (hX : XOk P X) (hI : X.intr = .e) (hmix : P.follows .mixedOrders = true) {enc : Nat} (hen : ∀ as w, (callFunc enc as).run P w = .ok (.enter enc as) w) {l20 l12 : List Nat}
    (h20 : l20.all (encSChk X enc 20) = true) (h12 : l12.all (encSChk X enc 12) = true) : IntrAt P ρ R enc ⟨encS (setOf l20) (setOf l12)⟩ := by
  intro args st ko hf hk
  replace hk : Ok ρ R (encS (setOf l20) (setOf l12) args st ko) := hk
  unfold encS at hk
  split at hk
  · rename_i op rd r1 r2 E m
    split at hk
    · rename_i L hL
      split at hk
      · rename_i l hd
        obtain ⟨hl0, hk2⟩ := ok_bif hk
        clear hk
        have hl := eqLB_eq hl0
        clear hl0
        subst hl
        rw [bif_eq] at hk2
        split at hk2
        · rename_i hc
          rw [Bool.and_eq_true] at hc
          have hm := Nat.eq_of_beq_eq_true hc.1
          subst hm
          obtain ⟨_, hlt, hcall⟩ := enc_sym hX hI hmix (List.all_eq_true.1 h20 L (hasT_mem hc.2)) hd
          refine ⟨_, st, hk2, hen, cstep_below (bare2 fun _ _ => trivial) fun ι w => ?_⟩
          obtain ⟨e0, e1⟩ := ext_nonneg (E.eval ρ) 12
          have h3 := hcall (E.eval ρ % 2 ^ 12) ρ ι w (fun _ => ⟨e0, e1⟩) (fun h => by cases h)
          have eI : (bif Nat.beq 20 20 then sgn ((E.eval ρ % 2 ^ 12) % 2 ^ 12) 12 else sgn ((SE.hi (.v .u32 0)).eval (env1 (E.eval ρ % 2 ^ 12)) % 2 ^ 32) 32) = sgn (E.eval ρ % 2 ^ 12) 12 := by
            show sgn ((E.eval ρ % 2 ^ 12) % 2 ^ 12) 12 = _
            rw [Int.emod_emod]
          rw [eI] at h3
          refine h3.mono fun z w' hh => ⟨?_, hh.2⟩
          rw [hh.1]
          show Ending.returned (.tuple #[.int .u32 ((L : Int) + 2 ^ 20 * (E.eval ρ % 2 ^ 12)), .int .i64 0]) = .returned (.tuple #[.int .u32 ((mkCat (.lit (.ofNat L)) 20 (mkExt E 0 12)).eval ρ), .int .i64 0])
          rw [mkCat_eval, mkExt_eval, show (2 : Int) ^ 0 = 1 from rfl, Int.ediv_one]
          rfl
        · split at hk2
          · rename_i v
            obtain ⟨hc, hk⟩ := ok_bif hk2
            rw [Bool.and_eq_true] at hc
            have hm := Nat.eq_of_beq_eq_true hc.1
            subst hm
            obtain ⟨_, hlt, hcall⟩ := enc_sym hX hI hmix (List.all_eq_true.1 h12 L (hasT_mem hc.2)) hd
            refine ⟨_, st, hk, hen, cstep_below (bare2 fun _ _ => trivial) fun ι w => ?_⟩
            have h3 := hcall (v.eval ρ % 2 ^ 32) ρ ι w (fun h => by cases h) (fun _ => ext_nonneg _ _)
            rw [hi_env] at h3
            refine h3.mono fun z w' hh => ⟨?_, hh.2⟩
            rw [hh.1]
            show Ending.returned (.tuple #[.int .u32 ((L : Int) + (SE.hi v).eval ρ), .int .i64 0]) = .returned (.tuple #[.int .u32 ((mkCat (.lit (.ofNat L)) 12 (.ext (.hi v) 12 20)).eval ρ), .int .i64 0])
            rw [mkCat_eval]
            show _ = Ending.returned (.tuple #[.int .u32 ((L : Int) + 2 ^ 12 * (((SE.hi v).eval ρ / 2 ^ 12) % 2 ^ 20)), .int .i64 0])
            rw [hi_up]
          · cases hk2
      · cases hk
    · cases hk
  · rename_i op rd r1 r2 n
    split at hk
    · rename_i L hL
      split at hk
      · rename_i l hd
        obtain ⟨hl0, hk2⟩ := ok_bif hk
        clear hk
        have hl := eqLB_eq hl0
        clear hl0
        subst hl
        rw [bif_eq] at hk2
        split at hk2
        · rename_i hc
          simp only [Bool.and_eq_true, ble', decide_eq_true_eq] at hc
          obtain ⟨_, hlt, hcall⟩ := enc_sym hX hI hmix (List.all_eq_true.1 h20 L (hasT_mem hc.1)) hd
          have hb : ((bitsI n 4096 : Nat) : Int) = n % 2 ^ 12 := bitsI_eq n 12
          obtain ⟨e0, e1⟩ := ext_nonneg n 12
          have hlt : L < 1048576 := hlt
          refine ⟨_, st, hk2, hen, cstep_below (bare2 fun ι A => ?_) fun ι w => ?_⟩
          · show L + 1048576 * bitsI n 4096 < M32
            have : (bitsI n 4096 : Int) < 4096 := by rw [hb]; exact e1
            have : bitsI n 4096 < 4096 := by omega
            show _ < 4294967296
            omega
          · have h3 := hcall (n % 2 ^ 12) ρ ι w (fun _ => ⟨e0, e1⟩) (fun h => by cases h)
            have eI : (bif Nat.beq 20 20 then sgn ((n % 2 ^ 12) % 2 ^ 12) 12 else sgn ((SE.hi (.v .u32 0)).eval (env1 (n % 2 ^ 12)) % 2 ^ 32) 32) = n := by
              show sgn ((n % 2 ^ 12) % 2 ^ 12) 12 = _
              rw [Int.emod_emod, sgn_fix (y := n) (by simp only [Int.reducePow]; omega) (by simp only [Int.reducePow]; omega)]
            rw [eI] at h3
            refine h3.mono fun z w' hh => ⟨?_, hh.2⟩
            rw [hh.1]
            show Ending.returned (.tuple #[.int .u32 ((L : Int) + 2 ^ 20 * (n % 2 ^ 12)), .int .i64 0]) = .returned (.tuple #[.int .u32 ((L + 1048576 * bitsI n 4096 : Nat) : Int), .int .i64 0])
            rw [← hb]
            generalize bitsI n 4096 = z
            rw [show ((L + 1048576 * z : Nat) : Int) = (L : Int) + 2 ^ 20 * (z : Int) from by rw [Int.natCast_add, Int.natCast_mul]; rfl]
        · obtain ⟨hc, hk⟩ := ok_bif hk2
          simp only [Bool.and_eq_true] at hc
          obtain ⟨c1, c2, c3⟩ := hc
          obtain ⟨_, hlt, hcall⟩ := enc_sym hX hI hmix (List.all_eq_true.1 h12 L (hasT_mem c1)) hd
          have hb : ((bitsI n M32 : Nat) : Int) = n % 2 ^ 32 := bitsI_eq n 32
          obtain ⟨e0, e1⟩ := ext_nonneg n 32
          have hlt : L < 4096 := hlt
          have c2 : bitsI n M32 % 4096 = 0 := Nat.eq_of_beq_eq_true c2
          obtain ⟨r0, r1⟩ := inS_range c3
          have hhi : (SE.hi (.v .u32 0)).eval (env1 (n % 2 ^ 32)) = n % 2 ^ 32 := by
            rw [hi_env]
            have hz : n % 2 ^ 12 = 0 := by
              have := mod_mod n 32 12
              rw [← hb] at this
              have e : mnN 32 12 = 12 := rfl
              rw [e] at this
              rw [← this]
              show ((bitsI n M32 : Nat) : Int) % 4096 = 0
              generalize bitsI n M32 = z at *
              omega
            rw [hz]
            show (n - 0) % 2 ^ 32 = _
            rw [Int.sub_zero]
          refine ⟨_, st, hk, hen, cstep_below (bare2 fun ι A => ?_) fun ι w => ?_⟩
          · show L + bitsI n M32 < M32
            have : (bitsI n M32 : Int) < 4294967296 := by rw [hb]; exact e1
            show _ < 4294967296
            omega
          · have h3 := hcall (n % 2 ^ 32) ρ ι w (fun h => by cases h) (fun _ => ⟨e0, e1⟩)
            rw [hhi] at h3
            have eI : (bif Nat.beq 12 20 then sgn ((n % 2 ^ 32) % 2 ^ 12) 12 else sgn ((n % 2 ^ 32) % 2 ^ 32) 32) = n := by
              show sgn ((n % 2 ^ 32) % 2 ^ 32) 32 = n
              rw [Int.emod_emod]
              have r0 : -(2147483648 : Int) ≤ n := r0
              have r1 : n < (2147483648 : Int) := r1
              exact sgn_fix (by simp only [Int.reducePow]; omega) (by simp only [Int.reducePow]; omega)
            rw [eI] at h3
            refine h3.mono fun z w' hh => ⟨?_, hh.2⟩
            rw [hh.1]
            show Ending.returned (.tuple #[.int .u32 ((L : Int) + n % 2 ^ 32), .int .i64 0]) = .returned (.tuple #[.int .u32 ((L + bitsI n M32 : Nat) : Int), .int .i64 0])
            rw [← hb]
            generalize bitsI n M32 = z
            rw [Int.natCast_add]
      · cases hk
    · cases hk
  · cases hk
end
end Go.Fx
end

