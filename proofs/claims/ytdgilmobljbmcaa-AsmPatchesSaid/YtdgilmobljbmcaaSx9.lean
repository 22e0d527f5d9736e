/-
  A symbolic executor for the model's code: places, slices, what is built in.
-/
import Derived.Test.YtdgilmobljbmcaaSx8
import Derived.IntWalk
namespace Go.Sx
set_option linter.unusedSimpArgs false
set_option linter.unusedVariables false

section
variable {P : Program}

theorem on_ptr {A : Nat → Prop} {b o : Nat} : (SV.w (.c (.ptr b o))).on A ↔ A b := by
  constructor
  · intro h; exact h (.ptr b o) (by simp [SW.cells])
  · intro h c hc
    simp only [SW.cells, List.mem_singleton] at hc
    subst hc
    exact h
theorem on_slc {A : Nat → Prop} {b o l c : Nat} : (SV.w (.c (.slc b o l c))).on A ↔ A b := by
  constructor
  · intro h; exact h (.slc b o l c) (by simp [SW.cells])
  · intro h d hc
    simp only [SW.cells, List.mem_singleton] at hc
    subst hc
    exact h
theorem on_slu {A : Nat → Prop} {b l : Nat} : (SV.w (.c (.slu b l))).on A ↔ A b := by
  constructor
  · intro h; exact h (.slu b l) (by simp [SW.cells])
  · intro h d hc
    simp only [SW.cells, List.mem_singleton] at hc
    subst hc
    exact h

theorem fieldAddr_does {Φ : Phi} {C : Ctx} (hT : TysOk P C.tys) {t : TypeId} {a : SV} {f : Nat} {st st' : St} {v : SV} (h : fieldAddrS C t a f st = .ok (v, st')) :
    Does P Φ st v st' [a] fun ρ ι => Instr.fieldAt t (a.den ρ ι) f := by
  unfold fieldAddrS at h
  split at h
  · rename_i i b off hi
    have ht := hT t i hi
    split at h
    · rename_i fs hd
      split at h
      · rename_i ft fo hf
        split at h
        · rename_i j hj
          split at h
          · simp [stop] at h
          · rename_i hz
            simp only [R.ok.injEq, Prod.mk.injEq] at h
            obtain ⟨rfl, rfl⟩ := h
            refine .quiet (.refl _ _) fun ρ _ _ A ι w hr hin => ⟨?_, on_ptr.2 (on_ptr.1 (hin (.w (.c (.ptr b off))) (by simp)))⟩
            rw [ht.fs fs hd, List.getElem?_map] at hf
            cases hg : fs.toList[f]? with
            | none => rw [hg] at hf; cases hf
            | some g =>
              rw [hg] at hf
              simp only [Option.map_some, Option.some.injEq, Prod.mk.injEq] at hf
              obtain ⟨rfl, rfl⟩ := hf
              have hg' : fs[f]? = some g := by rw [← Array.getElem?_toList]; exact hg
              have hz' : ¬ j.size = 0 := by simpa using hz
              simp only [Instr.fieldAt, SV.den_w, SW.den_ptr, Sem.run_bind, ht.runUnd, hd, Result.andThen_ok, hg', Instr.sureAddr, Sem.run_pure, fieldPlace, (hT _ j hj).runSize, hz', if_false, addr_add]
        · simp [stop] at h
      · simp [stop] at h
    · simp [stop] at h
  · simp [stop] at h

theorem field_does {Φ : Phi} {C : Ctx} (hT : TysOk P C.tys) {t : TypeId} {a : SV} {f : Nat} {st st' : St} {v : SV} (h : fieldS C t a f st = .ok (v, st')) :
    Does P Φ st v st' [a] fun ρ ι => Instr.field t (a.den ρ ι) f := by
  unfold fieldS at h
  split at h
  · rename_i i xs hi
    have ht := hT t i hi
    split at h
    · rename_i fs hd
      split at h
      · rename_i ft fo hf
        split at h
        · rename_i y hy
          simp only [R.ok.injEq, Prod.mk.injEq] at h
          obtain ⟨rfl, rfl⟩ := h
          refine .quiet (.refl _ _) fun ρ _ _ A ι w hr hin => ⟨?_, partS_on hy (hin (.w (.agg xs)) (by simp))⟩
          rw [ht.fs fs hd, List.getElem?_map] at hf
          cases hg : fs.toList[f]? with
          | none => rw [hg] at hf; cases hf
          | some g =>
            rw [hg] at hf
            simp only [Option.map_some, Option.some.injEq, Prod.mk.injEq] at hf
            obtain ⟨rfl, rfl⟩ := hf
            have hg' : fs[f]? = some g := by rw [← Array.getElem?_toList]; exact hg
            simp only [Instr.field, SV.den_w, SW.den_agg, Sem.run_bind, ht.runUnd, hd, Result.andThen_ok, hg', asAgg, Sem.run_pure, part_run hT hy]
        · simp [stop] at h
      · simp [stop] at h
    · simp [stop] at h
  · simp [stop] at h

/-- The number of an index. -/
theorem getN_run {Φ : Phi} {i : SV} {st st1 : St} {n : Int} (h : getN i st = .ok (n, st1)) : Quiet Φ st st1 ∧
    ∀ ρ, LogOk Φ ρ st1.log → Facts ρ st → ∀ ι, ∃ k, i.den ρ ι = .int k n := by
  obtain ⟨q, _, k, hk⟩ := getN_ok (Φ := Φ) h
  exact ⟨q, fun ρ hl hf ι => ⟨k, hk ρ hl hf ι⟩⟩

theorem stop_ne {α : Type} {c : Nat} {st : St} {x : α} {p : Prop} (h : (stop c st : R α) = .ok x) : p := by simp [stop] at h
theorem er_ne {α : Type} {c : Nat} {l : List Ev} {s : String} {x : α} {p : Prop} (h : (R.er c l s : R α) = .ok x) : p := by cases h

theorem indexAddr_does {Φ : Phi} {C : Ctx} (hT : TysOk P C.tys) {t : TypeId} {a i : SV} {st st' : St} {v : SV} (h : indexAddrS C t a i st = .ok (v, st')) :
    Does P Φ st v st' [a, i] fun ρ ι => Instr.indexAt t (a.den ρ ι) (i.den ρ ι) := by
  unfold indexAddrS at h
  split at h
  · exact er_ne h
  · rename_i n st1 hn
    obtain ⟨q, hq⟩ := getN_run (Φ := Φ) hn
    split at h
    · rename_i len e b off hd
      have hd' := descOf_ok hT hd
      split at h
      · rename_i j hj
        split at h
        · rename_i hlt
          have hlt : n < len := by simpa using hlt
          simp only [R.ok.injEq, Prod.mk.injEq] at h
          obtain ⟨rfl, rfl⟩ := h
          refine .quiet q fun ρ hl hf A ι w hr hin => ⟨?_, on_ptr.2 (on_ptr.1 (hin (.w (.c (.ptr b off))) (by simp)))⟩
          obtain ⟨k, hk⟩ := hq ρ hl hf ι
          simp only [Instr.indexAt, SV.den_w, SW.den_ptr, hk, asIntOf, pure_bind, Sem.run_bind, run_underlying hd', Result.andThen_ok, Instr.sureAddr, Sem.run_pure]
          rw [if_pos ⟨Int.natCast_nonneg n, Int.ofNat_lt.2 hlt⟩]
          simp only [Sem.run_bind, (hT e j hj).runSize, Result.andThen_ok, Sem.run_pure, addr_add]
          rfl
        · exact stop_ne h
      · exact stop_ne h
    · rename_i e b off len cap hd
      have hd' := descOf_ok hT hd
      split at h
      · rename_i j hj
        split at h
        · rename_i hlt
          have hlt : n < len := by simpa using hlt
          simp only [R.ok.injEq, Prod.mk.injEq] at h
          obtain ⟨rfl, rfl⟩ := h
          refine .quiet q fun ρ hl hf A ι w hr hin => ⟨?_, on_ptr.2 (on_slc.1 (hin (.w (.c (.slc b off len cap))) (by simp)))⟩
          obtain ⟨k, hk⟩ := hq ρ hl hf ι
          simp only [Instr.indexAt, SV.den_w, SW.den_ptr, SW.den_slc, hk, asIntOf, pure_bind, Sem.run_bind, run_underlying hd', Result.andThen_ok, Instr.sureAddr, Sem.run_pure]
          rw [if_pos ⟨Int.natCast_nonneg n, Int.ofNat_lt.2 hlt⟩]
          simp only [Sem.run_bind, (hT e j hj).runSize, Result.andThen_ok, Sem.run_pure, addr_add]
          rfl
        · exact stop_ne h
      · exact stop_ne h
    · rename_i e b len hd
      have hd' := descOf_ok hT hd
      split at h
      · rename_i j hj
        split at h
        · rename_i hlt
          have hlt : n < len := by simpa using hlt
          simp only [R.ok.injEq, Prod.mk.injEq] at h
          obtain ⟨rfl, rfl⟩ := h
          refine .quiet q fun ρ hl hf A ι w hr hin => ⟨?_, on_ptr.2 (on_slu.1 (hin (.w (.c (.slu b len))) (by simp)))⟩
          obtain ⟨k, hk⟩ := hq ρ hl hf ι
          simp only [Instr.indexAt, SV.den_w, SW.den_ptr, SW.den_slu, hk, asIntOf, pure_bind, Sem.run_bind, run_underlying hd', Result.andThen_ok, Instr.sureAddr, Sem.run_pure]
          rw [if_pos ⟨Int.natCast_nonneg n, Int.ofNat_lt.2 hlt⟩]
          simp only [Sem.run_bind, (hT e j hj).runSize, Result.andThen_ok, Sem.run_pure, addr_add]
          rfl
        · exact stop_ne h
      · exact stop_ne h
    · exact stop_ne h
  · exact stop_ne h

theorem index_does {Φ : Phi} {C : Ctx} (hT : TysOk P C.tys) {t : TypeId} {a i : SV} {st st' : St} {v : SV} (h : indexS C t a i st = .ok (v, st')) :
    Does P Φ st v st' [a, i] fun ρ ι => Instr.index t (a.den ρ ι) (i.den ρ ι) := by
  unfold indexS at h
  split at h
  · exact er_ne h
  · rename_i n st1 hn
    obtain ⟨q, hq⟩ := getN_run (Φ := Φ) hn
    split at h
    · rename_i len e xs hd
      have hd' := descOf_ok hT hd
      split at h
      · rename_i j hj
        split at h
        · rename_i hlt
          have hlt : n < len := by simpa using hlt
          split at h
          · rename_i y hy
            simp only [R.ok.injEq, Prod.mk.injEq] at h
            obtain ⟨rfl, rfl⟩ := h
            refine .quiet q fun ρ hl hf A ι w hr hin => ⟨?_, partS_on hy (hin (.w (.agg xs)) (by simp))⟩
            obtain ⟨k, hk⟩ := hq ρ hl hf ι
            simp only [Instr.index, SV.den_w, SW.den_agg, hk, asIntOf, pure_bind, Sem.run_bind, run_underlying hd', Result.andThen_ok, Sem.run_pure]
            rw [if_pos ⟨Int.natCast_nonneg n, Int.ofNat_lt.2 hlt⟩]
            simp only [Sem.run_bind, (hT e j hj).runSize, Result.andThen_ok]
            exact part_run hT hy ρ ι w
          · exact stop_ne h
        · exact stop_ne h
      · exact stop_ne h
    · rename_i s hd
      have hd' := descOf_ok hT hd
      split at h
      · rename_i b hb
        simp only [R.ok.injEq, Prod.mk.injEq] at h
        obtain ⟨rfl, rfl⟩ := h
        refine .quiet q fun ρ hl hf A ι w hr hin => ⟨?_, bare_litI _ _ _⟩
        obtain ⟨k, hk⟩ := hq ρ hl hf ι
        simp only [Instr.index, SV.den_w, SW.den_lit, hk, asIntOf, pure_bind, Sem.run_bind, run_underlying hd', Result.andThen_ok, Sem.run_pure]
        have h0 : (0 : Int) ≤ Int.ofNat n := Int.natCast_nonneg n
        simp only [h0, if_true]
        have : (Int.ofNat n).toNat = n := rfl
        rw [this, hb]
        rfl
      · exact stop_ne h
    · exact stop_ne h
  · exact stop_ne h

theorem extract_does {Φ : Phi} {a : SV} {ix : Nat} {st st' : St} {v : SV} (h : extractS a ix st = .ok (v, st')) :
    Does P Φ st v st' [a] fun ρ ι => Instr.extract (a.den ρ ι) ix := by
  unfold extractS at h
  split at h
  · rename_i xs
    split at h
    · rename_i y hy
      simp only [R.ok.injEq, Prod.mk.injEq] at h
      obtain ⟨rfl, rfl⟩ := h
      refine .quiet (.refl _ _) fun ρ _ _ A ι w hr hin => ⟨?_, ?_⟩
      · simp [Instr.extract, SV.den, hy]
      · exact hin (.tup xs) (by simp) y (List.mem_of_getElem? hy)
    · exact stop_ne h
  · exact stop_ne h

/-! ### Slices -/
def optDen (ρ : Env) (ι : Loc) (x : Option SV) : Option Value := x.map (SV.den ρ ι)

theorem boundS_run {Φ : Phi} {x : Option SV} {d n : Nat} {st st1 : St} (h : boundS x d st = .ok (n, st1)) : Quiet Φ st st1 ∧
    ∀ ρ, LogOk Φ ρ st1.log → Facts ρ st → ∀ ι, match x with
      | none => n = d
      | some v => ∃ k, v.den ρ ι = .int k (n : Int) := by
  unfold boundS at h
  split at h
  · simp only [R.ok.injEq, Prod.mk.injEq] at h
    obtain ⟨rfl, rfl⟩ := h
    exact ⟨.refl _ _, fun _ _ _ _ => rfl⟩
  · split at h
    · exact er_ne h
    · rename_i m st2 hm
      obtain ⟨q, hq⟩ := getN_run (Φ := Φ) hm
      simp only [R.ok.injEq, Prod.mk.injEq] at h
      obtain ⟨rfl, rfl⟩ := h
      exact ⟨q, hq⟩
    · exact stop_ne h

theorem sliceBound_run {x : Value} {k : IntKind} {n y : Nat} {c : BoundsCode} {w : World} (hx : x = .int k (n : Int)) (h : n ≤ y) :
    (Instr.sliceBound x y c).run P w = .ok n w := by
  subst hx
  simp only [Instr.sliceBound, asIntOf, pure_bind]
  rw [if_pos ⟨Int.natCast_nonneg n, Int.ofNat_le.2 h⟩]
  rfl

theorem boundsS_run {Φ : Phi} {len cap : Nat} {lo hi mx : Option SV} {l h m : Nat} {st st1 : St} (hh : boundsS len cap lo hi mx st = .ok ((l, h, m), st1)) :
    Quiet Φ st st1 ∧ ∀ ρ, LogOk Φ ρ st1.log → Facts ρ st → ∀ ι s w, (Instr.sliceBounds s len cap (optDen ρ ι lo) (optDen ρ ι hi) (optDen ρ ι mx)).run P w = .ok (l, h, m) w := by
  unfold boundsS at hh
  split at hh
  · exact stop_ne hh
  · rename_i hno
    split at hh
    · exact er_ne hh
    · rename_i m' st2 hm
      obtain ⟨q1, e1⟩ := boundS_run (Φ := Φ) hm
      split at hh
      · exact er_ne hh
      · rename_i h' st3 hhi
        obtain ⟨q2, e2⟩ := boundS_run (Φ := Φ) hhi
        split at hh
        · exact er_ne hh
        · rename_i l' st4 hlo
          obtain ⟨q3, e3⟩ := boundS_run (Φ := Φ) hlo
          split at hh
          · rename_i hc
            simp only [Bool.and_eq_true] at hc
            have c1 : m' ≤ cap := by simpa using hc.1.1
            have c2 : h' ≤ m' := by simpa using hc.1.2
            have c3 : l' ≤ h' := by simpa using hc.2
            simp only [R.ok.injEq, Prod.mk.injEq] at hh
            obtain ⟨⟨rfl, rfl, rfl⟩, rfl⟩ := hh
            refine ⟨(q1.trans q2).trans q3, fun ρ hl hf ι s w => ?_⟩
            have hl3 := q3.logOk hl
            have hl2 := q2.logOk hl3
            have f2 := q1.facts ρ hl2 hf
            have f3 := q2.facts ρ hl3 f2
            have e1 := e1 ρ hl2 hf ι
            have e2 := e2 ρ hl3 f2 ι
            have e3 := e3 ρ hl f3 ι
            cases mx with
            | none =>
              simp only at e1
              subst e1
              cases hi with
              | none =>
                simp only at e2
                subst e2
                cases lo with
                | none =>
                  simp only at e3
                  subst e3
                  simp [Instr.sliceBounds, optDen]
                | some lv =>
                  obtain ⟨k, hk⟩ := e3
                  simp [Instr.sliceBounds, optDen, sliceBound_run hk c3]
              | some hv =>
                obtain ⟨k2, hk2⟩ := e2
                cases lo with
                | none =>
                  simp only at e3
                  subst e3
                  simp [Instr.sliceBounds, optDen, sliceBound_run hk2 c2]
                | some lv =>
                  obtain ⟨k, hk⟩ := e3
                  simp [Instr.sliceBounds, optDen, sliceBound_run hk c3, sliceBound_run hk2 c2]
            | some mv =>
              obtain ⟨k1, hk1⟩ := e1
              cases hi with
              | none => exact absurd rfl (hno mv rfl)
              | some hv =>
                obtain ⟨k2, hk2⟩ := e2
                cases lo with
                | none =>
                  simp only at e3
                  subst e3
                  simp [Instr.sliceBounds, optDen, sliceBound_run hk2 c2, sliceBound_run hk1 c1]
                | some lv =>
                  obtain ⟨k, hk⟩ := e3
                  simp [Instr.sliceBounds, optDen, sliceBound_run hk c3, sliceBound_run hk2 c2, sliceBound_run hk1 c1]
          · exact stop_ne hh

theorem slice_does {Φ : Phi} {C : Ctx} (hT : TysOk P C.tys) {t : TypeId} {a : SV} {lo hi mx : Option SV} {st st' : St} {v : SV} (h : sliceS C t a lo hi mx st = .ok (v, st')) :
    Does P Φ st v st' [a] fun ρ ι => Instr.sliceAt t (a.den ρ ι) (optDen ρ ι lo) (optDen ρ ι hi) (optDen ρ ι mx) := by
  unfold sliceS at h
  split at h
  · rename_i n e b off hd
    have hd' := descOf_ok hT hd
    split at h
    · rename_i j l hh m st1 hj hb
      obtain ⟨q, hq⟩ := boundsS_run (Φ := Φ) (P := P) hb
      simp only [R.ok.injEq, Prod.mk.injEq] at h
      obtain ⟨rfl, rfl⟩ := h
      refine .quiet q fun ρ hl hf A ι w hr hin => ⟨?_, on_slc.2 (on_ptr.1 (hin (.w (.c (.ptr b off))) (by simp)))⟩
      simp only [Instr.sliceAt, SV.den_w, SW.den_ptr, SW.den_slc, Sem.run_bind, run_underlying hd', Result.andThen_ok, Instr.sureAddr, Sem.run_pure, hq ρ hl hf ι, (hT e j hj).runSize, addr_add]
      by_cases e : m = l <;> simp [e]
    · exact er_ne h
    · exact stop_ne h
  · rename_i e b off len cap hd
    have hd' := descOf_ok hT hd
    split at h
    · rename_i j l hh m st1 hj hb
      obtain ⟨q, hq⟩ := boundsS_run (Φ := Φ) (P := P) hb
      simp only [R.ok.injEq, Prod.mk.injEq] at h
      obtain ⟨rfl, rfl⟩ := h
      refine .quiet q fun ρ hl hf A ι w hr hin => ⟨?_, on_slc.2 (on_slc.1 (hin (.w (.c (.slc b off len cap))) (by simp)))⟩
      simp only [Instr.sliceAt, Instr.slice, SV.den_w, SW.den_slc, Sem.run_bind, run_underlying hd', Result.andThen_ok, Instr.sureAddr, Sem.run_pure, hq ρ hl hf ι, (hT e j hj).runSize, addr_add]
      by_cases e : m = l <;> simp [e, addr_add]
    · exact er_ne h
    · exact stop_ne h
  · rename_i s hd
    have hd' := descOf_ok hT hd
    split at h
    · rename_i l hh m st1 hmx hb
      obtain ⟨q, hq⟩ := boundsS_run (Φ := Φ) (P := P) hb
      simp only [R.ok.injEq, Prod.mk.injEq] at h
      obtain ⟨rfl, rfl⟩ := h
      refine .quiet q fun ρ hl hf A ι w hr hin => ⟨?_, bare_c (x := .lit (.string _)) (fun _ => trivial) _⟩
      have := hq ρ hl hf ι false w
      simp only [optDen, Option.map_none] at this
      simp [Instr.sliceAt, Instr.slice, SV.den_w, SW.den_lit, run_underlying hd', optDen, this]
    · exact er_ne h
    · exact stop_ne h
  · exact stop_ne h

/-! ### What is built in -/
theorem len_does {Φ : Phi} {C : Ctx} (hT : TysOk P C.tys) {t : TypeId} {ts : List TypeId} {ty : TypeId} {a : SV} {st st' : St} {v : SV} (h : lenS C t a st = .ok (v, st')) :
    Does P Φ st v st' [a] fun ρ ι => Builtin.len_ (t :: ts).toArray ty #[a.den ρ ι] := by
  unfold lenS at h
  split at h
  · rename_i s hd
    have hd' := descOf_ok hT hd
    simp only [R.ok.injEq, Prod.mk.injEq] at h
    obtain ⟨rfl, rfl⟩ := h
    exact .quiet (.refl _ _) fun ρ _ _ A ι w hr hin => ⟨by simp [Builtin.len_, SV.den_w, SW.den_lit, run_underlying hd', litI, goInt], bare_litI _ _ _⟩
  · rename_i x hd
    have hd' := descOf_ok hT hd
    have g := mkI_gives (Φ := Φ) h
    refine .of_gives g _ fun ρ ι z hz w => ?_
    rw [hz.1]
    simp [Builtin.len_, SV.den_w, SW.den, SC.den, run_underlying hd', goInt, IE.den, SA.den]
  · rename_i n e hd
    have hd' := descOf_ok hT hd
    simp only [R.ok.injEq, Prod.mk.injEq] at h
    obtain ⟨rfl, rfl⟩ := h
    exact .quiet (.refl _ _) fun ρ _ _ A ι w hr hin => ⟨by simp [Builtin.len_, run_underlying hd', litI, goInt, SV.den_w, SW.den_lit], bare_litI _ _ _⟩
  · rename_i e b o n c hd
    have hd' := descOf_ok hT hd
    simp only [R.ok.injEq, Prod.mk.injEq] at h
    obtain ⟨rfl, rfl⟩ := h
    exact .quiet (.refl _ _) fun ρ _ _ A ι w hr hin => ⟨by simp [Builtin.len_, run_underlying hd', litI, goInt, SV.den_w, SW.den_lit, SW.den_slc], bare_litI _ _ _⟩
  · rename_i e b n hd
    have hd' := descOf_ok hT hd
    simp only [R.ok.injEq, Prod.mk.injEq] at h
    obtain ⟨rfl, rfl⟩ := h
    exact .quiet (.refl _ _) fun ρ _ _ A ι w hr hin => ⟨by simp [Builtin.len_, run_underlying hd', litI, goInt, SV.den_w, SW.den_lit, SW.den_slu], bare_litI _ _ _⟩
  · rename_i e a n c hd
    have hd' := descOf_ok hT hd
    simp only [R.ok.injEq, Prod.mk.injEq] at h
    obtain ⟨rfl, rfl⟩ := h
    exact .quiet (.refl _ _) fun ρ _ _ A ι w hr hin => ⟨by simp [Builtin.len_, run_underlying hd', litI, goInt, SV.den_w, SW.den_lit], bare_litI _ _ _⟩
  · exact stop_ne h

theorem cap_does {Φ : Phi} {C : Ctx} (hT : TysOk P C.tys) {t : TypeId} {ts : List TypeId} {ty : TypeId} {a : SV} {st st' : St} {v : SV} (h : capS C t a st = .ok (v, st')) :
    Does P Φ st v st' [a] fun ρ ι => Builtin.cap_ (t :: ts).toArray ty #[a.den ρ ι] := by
  unfold capS at h
  split at h
  · rename_i e b o n c hd
    have hd' := descOf_ok hT hd
    simp only [R.ok.injEq, Prod.mk.injEq] at h
    obtain ⟨rfl, rfl⟩ := h
    exact .quiet (.refl _ _) fun ρ _ _ A ι w hr hin => ⟨by simp [Builtin.cap_, run_underlying hd', litI, goInt, SV.den_w, SW.den_lit, SW.den_slc], bare_litI _ _ _⟩
  · rename_i e a n c hd
    have hd' := descOf_ok hT hd
    simp only [R.ok.injEq, Prod.mk.injEq] at h
    obtain ⟨rfl, rfl⟩ := h
    exact .quiet (.refl _ _) fun ρ _ _ A ι w hr hin => ⟨by simp [Builtin.cap_, run_underlying hd', litI, goInt, SV.den_w, SW.den_lit], bare_litI _ _ _⟩
  · exact stop_ne h

theorem max_does {Φ : Phi} {x y : SV} {ts : Array TypeId} {ty : TypeId} {st st' : St} {v : SV} (h : mmS true x y st = .ok (v, st')) :
    Does P Φ st v st' [x, y] fun ρ ι => Builtin.max_ ts ty #[x.den ρ ι, y.den ρ ι] := by
  unfold mmS at h
  split at h
  · rename_i a b
    split at h
    · rename_i k p k' q h1 h2
      have key : ∀ ρ ι, Facts ρ st → ∀ w, (Builtin.max_ ts ty #[(SV.w (.c a)).den ρ ι, (SV.w (.c b)).den ρ ι]).run P w = .ok (.int k (if p.den ρ < q.den ρ then q.den ρ else p.den ρ)) w := by
        intro ρ ι hf w
        have e1 := ia_den (ι := ι) hf h1
        have e2 := ia_den (ι := ι) hf h2
        simp only [SV.den_w, SW.den, e1, e2, Builtin.max_, List.foldlM, Builtin.max2, bind_pure]
        rfl
      split at h
      · simp only [R.ok.injEq, Prod.mk.injEq] at h
        obtain ⟨rfl, rfl⟩ := h
        exact .quiet (.refl _ _) fun ρ _ hf A ι w hr hin => ⟨by rw [key ρ ι hf w]; rfl, bare_litI _ _ _⟩
      · simp only [if_true] at h
        have g := mkI_gives (Φ := Φ) h
        exact .quiet g.quiet fun ρ hl hf A ι w hr hin => ⟨by rw [key ρ ι hf w, (g.den ρ hl hf ι).1]; rfl, g.bare _⟩
    · exact stop_ne h
  · exact stop_ne h

theorem min_does {Φ : Phi} {x y : SV} {ts : Array TypeId} {ty : TypeId} {st st' : St} {v : SV} (h : mmS false x y st = .ok (v, st')) :
    Does P Φ st v st' [x, y] fun ρ ι => Builtin.min_ ts ty #[x.den ρ ι, y.den ρ ι] := by
  unfold mmS at h
  split at h
  · rename_i a b
    split at h
    · rename_i k p k' q h1 h2
      have key : ∀ ρ ι, Facts ρ st → ∀ w, (Builtin.min_ ts ty #[(SV.w (.c a)).den ρ ι, (SV.w (.c b)).den ρ ι]).run P w = .ok (.int k (if q.den ρ < p.den ρ then q.den ρ else p.den ρ)) w := by
        intro ρ ι hf w
        have e1 := ia_den (ι := ι) hf h1
        have e2 := ia_den (ι := ι) hf h2
        simp only [SV.den_w, SW.den, e1, e2, Builtin.min_, List.foldlM, Builtin.min2, bind_pure]
        rfl
      split at h
      · simp only [R.ok.injEq, Prod.mk.injEq] at h
        obtain ⟨rfl, rfl⟩ := h
        exact .quiet (.refl _ _) fun ρ _ hf A ι w hr hin => ⟨by rw [key ρ ι hf w]; rfl, bare_litI _ _ _⟩
      · simp only [Bool.false_eq_true, if_false] at h
        have g := mkI_gives (Φ := Φ) h
        exact .quiet g.quiet fun ρ hl hf A ι w hr hin => ⟨by rw [key ρ ι hf w, (g.den ρ hl hf ι).1]; rfl, g.bare _⟩
    · exact stop_ne h
  · exact stop_ne h

theorem srcLen_run {a : SV} {n : Nat} (h : srcLen a = some n) (ρ : Env) (ι : Loc) (w : World) : (Builtin.lenOf (a.den ρ ι)).run P w = .ok n w := by
  unfold srcLen at h
  split at h <;> first
    | (simp only [Option.some.injEq] at h; subst h; rfl)
    | cases h

theorem srcCells_run {size n : Nat} {a : SV} {st : St} {l : List SC} (h : srcCells size n a st = some l) {ρ : Env} {ι : Loc} {A : Nat → Prop} {w : World} (hr : Rep ρ ι A st.heap.get st.nb w) :
    (Builtin.firstCells size n (a.den ρ ι)).run P w = .ok (l.map (SC.den ρ ι)).toArray w ∧ ∀ c ∈ l, c.on (lim st.nb A) := by
  unfold srcCells at h
  split at h
  · rename_i b off _ _
    split at h
    · rename_i k hk
      exact ⟨loadCells_run hr hk h, Blk.row_on h (hr.on b k hk)⟩
    · cases h
  · rename_i b _
    split at h
    · rename_i k hk
      exact ⟨loadCells_run hr hk h, Blk.row_on h (hr.on b k hk)⟩
    · cases h
  · simp only [Option.some.injEq] at h
    subst h
    exact ⟨rfl, fun c hc => by cases hc⟩
  · rename_i s
    simp only [Option.some.injEq] at h
    subst h
    refine ⟨?_, fun c hc => ?_⟩
    · simp only [SV.den_w, SW.den_lit, Builtin.firstCells, Sem.run_pure, List.map_map]
      congr 1
      apply Array.toList_inj.1
      rw [Array.toList_map]
      rfl
    · obtain ⟨b, _, rfl⟩ := List.mem_map.1 hc
      trivial
  · cases h

theorem copy_does {Φ : Phi} {C : Ctx} (hT : TysOk P C.tys) {t : TypeId} {ts : List TypeId} {ty : TypeId} {d s : SV} {st st' : St} {v : SV} (h : copyS C t d s st = .ok (v, st')) :
    Does P Φ st v st' [d, s] fun ρ ι => Builtin.copy_ (t :: ts).toArray ty #[d.den ρ ι, s.den ρ ι] := by
  unfold copyS at h
  split at h
  · rename_i e sl hd hsl
    have hd' := descOf_ok hT hd
    split at h
    · rename_i j b off len cap hj
      simp only at h
      split at h
      · rename_i cells k hc hk
        split at h
        · rename_i k' hp
          simp only [R.ok.injEq, Prod.mk.injEq] at h
          obtain ⟨rfl, rfl⟩ := h
          refine ⟨setBlk_le hk, fun ρ _ _ A hA ι w hr hin => ?_⟩
          obtain ⟨h1, h2⟩ := srcCells_run (P := P) hc hr
          obtain ⟨w', h3, h4⟩ := storeCells_run (P := P) hr hk hp h2
          refine ⟨ι, w', ?_, h4, bare_litI _ _ _⟩
          simp [Builtin.copy_, SV.den_w, SW.den_slc, run_underlying hd', srcLen_run hsl, (hT e j hj).runSize, h1, h3, litI, goInt, SW.den_lit]
        · exact stop_ne h
      · exact stop_ne h
    · exact stop_ne h
  · exact stop_ne h

theorem repL_length (z : List SC) : ∀ n, (repL z n).length = n * z.length
  | 0 => by simp [repL]
  | n + 1 => by simp [repL, repL_length z n, Nat.succ_mul]; omega

theorem repL_get (z : List SC) (hz : 0 < z.length) : ∀ (n j : Nat), j < n * z.length → (repL z n)[j]? = z[j % z.length]?
  | 0, j, h => by omega
  | n + 1, j, h => by
    simp only [repL]
    by_cases hj : j < z.length
    · rw [List.getElem?_append_left hj, Nat.mod_eq_of_lt hj]
    · rw [List.getElem?_append_right (by omega), repL_get z hz n (j - z.length) (by rw [Nat.succ_mul] at h; omega), Nat.mod_eq_sub_mod (by omega : j ≥ z.length)]

theorem repL_on {A : Nat → Prop} {z : List SC} (h : ∀ c ∈ z, c.on A) : ∀ n, ∀ c ∈ repL z n, c.on A
  | 0, c, hc => by simp [repL] at hc
  | n + 1, c, hc => by
    simp only [repL, List.mem_append] at hc
    rcases hc with hc | hc
    · exact h c hc
    · exact repL_on h n c hc

/-- zeros, one behind another, as the model lays them -/
theorem zeros_run (z : List SC) (hz : 0 < z.length) (n : Nat) (ρ : Env) (ι : Loc) (zv : Array Value) (hzv : zv = (z.map (SC.den ρ ι)).toArray) :
    ((Array.range (n * z.length)).map fun j => zv[j % zv.size]!) = ((repL z n).map (SC.den ρ ι)).toArray := by
  have hs : zv.size = z.length := by simp [hzv]
  apply Array.ext_getElem?
  intro j
  simp only [List.getElem?_toArray, List.getElem?_map, Array.getElem?_map]
  by_cases hj : j < n * z.length
  · rw [repL_get z hz n j hj]
    have hm : j % z.length < z.length := Nat.mod_lt _ hz
    have h1 : (Array.range (n * z.length))[j]? = some j := by simp [hj]
    rw [h1]
    simp only [Option.map_some, hs]
    have h2 : zv[j % z.length]? = some ((z[j % z.length]'hm).den ρ ι) := by rw [hzv]; simp [hm]
    rw [getElem!_def, h2]
    simp [hm]
  · have h1 : (Array.range (n * z.length))[j]? = none := by simp; omega
    have h2 : (repL z n)[j]? = none := List.getElem?_eq_none (by rw [repL_length]; omega)
    rw [h1, h2]
    rfl

theorem buildSlice_does {Φ : Phi} {C : Ctx} (hT : TysOk P C.tys) {t : TypeId} {len : Nat} {parts : List (Nat × SV)} {st st' : St} {v : SV} (h : buildSliceS C t len parts st = .ok (v, st')) :
    Does P Φ st v st' (parts.map Prod.snd) fun ρ ι => Instr.buildSlice t len (parts.map fun p => (p.1, p.2.den ρ ι)).toArray := by
  unfold buildSliceS at h
  split at h
  · rename_i e hd
    have hd' := descOf_ok hT hd
    split at h
    · rename_i j z hj hz
      obtain ⟨zv, z1, z2⟩ := zeroCells_run hT hz
      split at h
      · rename_i hc
        simp only [Bool.and_eq_true] at hc
        have c1 : z.length = j.size := by simpa using hc.1.1
        have c2 : 0 < j.size := by simpa using hc.1.2
        have c3 : len * j.size ≤ 65536 := by simpa using hc.2
        split at h
        · rename_i l hl
          simp only [R.ok.injEq, Prod.mk.injEq] at h
          obtain ⟨rfl, rfl⟩ := h
          refine ⟨newBlk_le, fun ρ _ _ A hA ι w hr hin => ?_⟩
          have hlon := fillS_on _ parts _ l hl (repL_on (zeroCells_on hz (lim st.nb A)) len) (fun p hp => hin p.2 (List.mem_map.2 ⟨p, hp, rfl⟩))
          have hA' : A st.nb := hA st.nb (Nat.le_refl _) (Nat.lt_succ_self _)
          have hpost := newBlk_post hr (Blk.on_ofList (t := e) hlon) hA' [] (fun _ => rfl) 0 w.drawn
          rw [Blk.cells_ofList, List.append_nil] at hpost
          refine ⟨_, _, ?_, hpost, ?_⟩
          · have hf := fill_run (fun k => some (k * j.size, j.size)) ρ ι parts _ l hl
            have hz3 := zeros_run z (by omega) len ρ ι _ (z2 ρ ι)
            have h24 : ¬ (len * j.size > 2 ^ 24) := by omega
            simp only [Instr.buildSlice, Sem.run_bind, run_underlying hd', Result.andThen_ok, (hT e j hj).runSize]
            rw [if_neg h24]
            by_cases h0 : len * j.size = 0
            · have hl0 : len = 0 := by
                rcases Nat.mul_eq_zero.1 h0 with h | h
                · exact h
                · omega
              subst hl0
              simp only [repL, List.map_nil] at hf
              have hr0 : ∀ f : Nat → Value, (Array.range 0).map f = #[] := fun f => by simp
              simp only [h0, if_true, Sem.run_bind, Sem.run_pure, Result.andThen_ok, hr0]
              rw [show (#[] : Array Value) = ([] : List Value).toArray from rfl, hf]
              simp only [Sem.run_bind, newRow, run_newObj, Result.andThen_ok, Sem.run_pure]
              simp [SV.den_w, SW.den_slc, newBlk, Loc.set, Blk.ofList]
            · simp only [h0, if_false, Sem.run_bind, Sem.run_pure, Result.andThen_ok, z1]
              rw [c1] at hz3
              rw [hz3, hf]
              simp only [Sem.run_bind, newRow, run_newObj, Result.andThen_ok, Sem.run_pure]
              simp [SV.den_w, SW.den_slc, newBlk, Loc.set, Blk.ofList]
          · exact on_slc.2 ⟨Nat.lt_succ_self _, hA'⟩
        · exact stop_ne h
      · exact stop_ne h
    · exact stop_ne h
  · exact stop_ne h

theorem makeSlice_does {Φ : Phi} {C : Ctx} (hT : TysOk P C.tys) {t : TypeId} {len cap : SV} {st st' : St} {v : SV} (h : makeSliceS C t len cap st = .ok (v, st')) :
    Does P Φ st v st' [len, cap] fun ρ ι => Instr.makeSlice t (len.den ρ ι) (cap.den ρ ι) := by
  unfold makeSliceS at h
  split at h
  · rename_i e hd
    have hd' := descOf_ok hT hd
    split at h
    · rename_i j z hj hz
      obtain ⟨zv, z1, z2⟩ := zeroCells_run hT hz
      split at h
      · exact er_ne h
      · rename_i n st1 hn
        obtain ⟨q1, e1⟩ := getN_run (Φ := Φ) hn
        split at h
        · exact er_ne h
        · rename_i m st2 hm
          obtain ⟨q2, e2⟩ := getN_run (Φ := Φ) hm
          split at h
          · rename_i hc
            simp only [Bool.and_eq_true] at hc
            have c1 : n ≤ m := by simpa using hc.1.1.1
            have c2 : m ≤ 1000000000 := by simpa using hc.1.1.2
            have c3 : m * j.bytes ≤ 140737488355328 := by simpa using hc.1.2
            have c4 : j.size = 1 := by simpa using hc.2
            simp only [R.ok.injEq, Prod.mk.injEq] at h
            obtain ⟨rfl, rfl⟩ := h
            have q := q1.trans q2
            refine ⟨q.le.trans newBlk_le, fun ρ hl hf A hA ι w hr hin => ?_⟩
            have hl2 : LogOk Φ ρ st2.log := hl
            obtain ⟨k1, e1⟩ := e1 ρ (q2.logOk hl2) hf ι
            obtain ⟨k2, e2⟩ := e2 ρ hl2 (q1.facts ρ (q2.logOk hl2) hf) ι
            have hr2 := q.rep hr
            have hbon : (⟨e, m, z, .e, false, none⟩ : Blk).on (lim st2.nb A) := by
              intro i hi
              simp only [Blk.at, Tr.get_e, Option.getD_none]
              exact zeroCells_on hz _ z (by simp)
            have hA' : A st2.nb := hA st2.nb (by rw [q.nb]; exact Nat.le_refl _) (Nat.lt_succ_self _)
            have hpost := newBlk_post hr2 hbon hA' [] (fun _ => rfl) 0 w.drawn
            rw [List.append_nil] at hpost
            refine ⟨_, _, ?_, (q.post hr).trans q.le hr hpost, ?_⟩
            · obtain ⟨f, i1, i2, i3, i4⟩ := (hT e j hj).runInfo w
              have hw : ∀ n : Nat, n ≤ 1000000000 → IntKind.i64.wrap (n : Int) = n := by
                intro n hn
                exact IntWalk.i64_in _ ⟨by omega, by omega⟩
              have hb : (f.bytes : Int) * (m : Int) ≤ 140737488355328 := by
                rw [i3, ← Int.natCast_mul, Nat.mul_comm]
                omega
              have hcells : (Blk.cells ρ ι ⟨e, m, z, .e, false, none⟩).toArray = ((Array.range (m * j.size)).map fun i => zv.cells[i % zv.cells.size]!) := by
                have := zeros_run [z] (by simp) m ρ ι _ (z2 ρ ι)
                rw [c4]
                simp only [List.length_singleton] at this
                rw [this]
                congr 1
                apply List.ext_getElem?
                intro i
                rw [List.getElem?_map]
                by_cases hi : i < m
                · rw [Blk.cells_get _ _ _ hi, repL_get [z] (by simp) m i (by simpa using hi)]
                  simp [Blk.at, Tr.get_e, Nat.mod_one]
                · rw [List.getElem?_eq_none (by rw [Blk.cells_length]; exact Nat.le_of_not_lt hi), List.getElem?_eq_none (by rw [repL_length]; simp; omega)]
                  rfl
              have hcl : m * j.size = 0 → (Blk.cells ρ ι ⟨e, m, z, .e, false, none⟩).toArray = ((Array.range (m * j.size)).map fun i => (#[] : Array Value)[i % 0]!) := by
                intro h0
                rw [hcells, h0]
                simp
              simp only [Instr.makeSlice, Sem.run_bind, run_underlying hd', Result.andThen_ok, e1, e2, asInt, asIntOf, pure_bind, i1, Sem.run_pure]
              have hw1 : IntKind.i64.wrap (Int.ofNat n) = n := hw n (by omega)
              have hw2 : IntKind.i64.wrap (Int.ofNat m) = m := hw m c2
              rw [hw1, hw2]
              have t1 : ¬ ((m : Int) < 0) := by omega
              have t2 : ¬ ((f.bytes : Int) * (m : Int) > 2 ^ 48) := by omega
              have t3 : ¬ ((n : Int) < 0) := by omega
              have t4 : ¬ ((n : Int) > (m : Int)) := by omega
              simp only [t1, t2, t3, t4, decide_false, Bool.or_false, Bool.false_eq_true, if_false, Sem.run_bind, run_askRoom, Result.andThen_ok, (hT e j hj).runSize, Int.toNat_natCast]
              by_cases h0 : m * j.size = 0
              · simp only [h0, if_true, Sem.run_bind, Sem.run_pure, Result.andThen_ok, newRow, run_newObj]
                have := hcl h0
                rw [h0] at this
                simp only [Array.size_empty]
                rw [← this]
                simp [SV.den_w, SW.den_slc, newBlk, Loc.set]
              · simp only [h0, if_false, Sem.run_bind, Sem.run_pure, Result.andThen_ok, z1, newRow, run_newObj]
                rw [← hcells]
                simp [SV.den_w, SW.den_slc, newBlk, Loc.set]
            · exact on_slc.2 ⟨Nat.lt_succ_self _, hA'⟩
          · exact stop_ne h
        · exact stop_ne h
      · exact stop_ne h
    · exact stop_ne h
  · exact stop_ne h

theorem zerosTail (zv : Array Value) (m : Nat) : ∃ l : List Value, Builtin.zeroCells zv m = l.toArray := ⟨(Builtin.zeroCells zv m).toList, by simp⟩

set_option maxHeartbeats 4000000 in
/-- the append that makes a new row -/
theorem append_grow {C : Ctx} (hT : TysOk P C.tys) {t e : TypeId} {t2 : Option TypeId} {ty : TypeId} {j : TI} (hd' : P.underlying t = some (.slice e)) (hj : C.tys.get e = some j)
    {z : List SC} (hz : zeroCells C e = some z)
    (ht2 : ∀ u, t2 = some u → ∃ d, P.underlying u = some d ∧ isIntD d = false)
    {s x : SV} {base : Option Addr} {len cap n : Nat} {old new : List SC} {st : St} (hn : srcLen x = some n) (hnew : srcCells j.size n x st = some new)
    (hnot : ¬ len + n ≤ cap) (hb1 : len + n ≤ 1000000000) (hb2 : Builtin.nextslicecap (len + n) cap * j.bytes ≤ 281474976710656) (hb3 : 0 < j.bytes)
    {ρ : Env} {ι : Loc} {A : Nat → Prop} {w : World} (hr : Rep ρ ι A st.heap.get st.nb w) (hs : s.den ρ ι = .slice base len cap)
    (hold : ∀ w', w'.heap = w.heap → (Builtin.firstCells j.size len (s.den ρ ι)).run P w' = .ok (old.map (SC.den ρ ι)).toArray w')
    (holdon : ∀ c ∈ old, c.on (lim st.nb A)) (hA : A st.nb) :
    ∃ c w', (Builtin.append_ (t :: t2.toList).toArray ty #[s.den ρ ι, x.den ρ ι]).run P w = .ok (.slice (some ⟨w.heap.size, 0, none⟩) (len + n) c) w' ∧
      Post ρ ι A st w (ι.set st.nb w.heap.size c) (newBlk { Blk.ofList e (old ++ new) with more := true } st).2 w' := by
  obtain ⟨f, i1, i2, i3, i4⟩ := (hT e j hj).runInfo w
  obtain ⟨g, hg, g2, g3, g4⟩ := (hT e j hj).info
  obtain ⟨zv, z1, z2⟩ := zeroCells_run hT hz
  have hti : ∀ w, (typeInfo e).run P w = .ok g w := fun w => by simp [typeInfo, hg]
  let q : Question := .appendCap (len + n) cap e
  let c := q.cut (w.tape w.drawn q)
  let w1 : World := w.drew
  have hr1 : Rep ρ ι A st.heap.get st.nb w1 := hr.world rfl
  obtain ⟨hn1, hn2⟩ := srcCells_run (P := P) hnew hr1
  obtain ⟨tl, htl⟩ := zerosTail zv.cells (c - (len + n))
  have hbon : ({ Blk.ofList e (old ++ new) with more := true } : Blk).on (lim st.nb A) :=
    Blk.on_ofList (t := e) (l := old ++ new) fun d hd => by
      rcases List.mem_append.1 hd with hd | hd
      · exact holdon d hd
      · exact hn2 d hd
  have hpost := newBlk_post (b := { Blk.ofList e (old ++ new) with more := true }) hr hbon hA tl (fun h => by cases h) c (w.drawn + 1)
  refine ⟨c, _, ?_, hpost⟩
  have hcells : ({ Blk.ofList e (old ++ new) with more := true } : Blk).cells ρ ι = (old ++ new).map (SC.den ρ ι) := Blk.cells_ofList e (old ++ new) ρ ι
  rw [hcells]
  have hb0 : ¬ (g.bytes = 0) := by omega
  have hi64 : ¬ (((len + n : Nat) : Int) > IntKind.i64.max) := by
    have : IntKind.i64.max = 9223372036854775807 := rfl
    omega
  have h48 : ¬ (Builtin.nextslicecap (len + n) cap * g.bytes > 2 ^ 48) := by rw [g3]; omega
  have hfo : (Question.appendCap (len + n) cap e).forced = false := rfl
  have hi64' : ¬ (IntKind.i64.max < (len : Int) + (n : Int)) := by
    have : IntKind.i64.max = 9223372036854775807 := rfl
    omega
  rw [hs] at hold
  cases t2 with
  | none =>
    simp only [Builtin.append_, Option.toList_none, hs]
    simp [run_underlying hd', (hT e j hj).runSize, srcLen_run hn, hnot, hti, hb0, hi64, hi64', h48, hfo, hold w.drew rfl]
    rw [hn1]
    simp [z1, newRow]
    rw [htl]
    simp
    first | exact ⟨⟨rfl, rfl⟩, rfl⟩ | rfl
  | some u =>
    obtain ⟨d, hu, hd⟩ := ht2 u rfl
    simp only [Builtin.append_, Option.toList_some, hs]
    cases d <;> first
      | (simp [isIntD] at hd; done)
      | (simp [run_underlying hd', run_underlying hu, (hT e j hj).runSize, srcLen_run hn, hnot, hti, hb0, hi64, hi64', h48, hfo, hold w.drew rfl]
         rw [hn1]
         simp [z1, newRow]
         rw [htl]
         simp
         first | exact ⟨⟨rfl, rfl⟩, rfl⟩ | rfl)

set_option maxHeartbeats 1000000 in
theorem append_does {Φ : Phi} {C : Ctx} (hT : TysOk P C.tys) {t : TypeId} {ts : List TypeId} {ty : TypeId} {s x : SV} {st st' : St} {v : SV}
    (h : appendS C t ts.head? s x st = .ok (v, st')) (hts : ts.length ≤ 1) :
    Does P Φ st v st' [s, x] fun ρ ι => Builtin.append_ (t :: ts).toArray ty #[s.den ρ ι, x.den ρ ι] := by
  have hts' : ts = ts.head?.toList := by
    match ts, hts with
    | [], _ => rfl
    | [u], _ => rfl
  generalize ts.head? = t2 at h hts'
  subst hts'
  unfold appendS at h
  split at h
  · rename_i e n d2 hd hn hd2
    have hd' := descOf_ok hT hd
    split at h
    · exact stop_ne h
    · rename_i hint
      simp only [Bool.not_eq_true] at hint
      have ht2 : ∀ u, t2 = some u → ∃ d, P.underlying u = some d ∧ isIntD d = false := by
        intro u hu
        subst hu
        exact ⟨d2, descOf_ok hT hd2, hint⟩
      split at h
      · rename_i j z hj hz
        split at h
        · exact stop_ne h
        · rename_i new hnew
          split at h
          · rename_i b off len cap
            split at h
            · rename_i hle
              have hle : len + n ≤ cap := by simpa using hle
              split at h
              · rename_i k hk
                split at h
                · rename_i k' hp
                  simp only [R.ok.injEq, Prod.mk.injEq] at h
                  obtain ⟨rfl, rfl⟩ := h
                  refine ⟨setBlk_le hk, fun ρ _ _ A hA ι w hr hin => ?_⟩
                  obtain ⟨h1, h2⟩ := srcCells_run (P := P) hnew hr
                  obtain ⟨w', h3, h4⟩ := storeCells_run (P := P) hr hk hp h2
                  refine ⟨ι, w', ?_, h4, on_slc.2 (on_slc.1 (hin (.w (.c (.slc b off len cap))) (by simp)))⟩
                  cases t2 with
                  | none =>
                    simp only [Builtin.append_, Option.toList_none, SV.den_w, SW.den_slc]
                    simp [run_underlying hd', (hT e j hj).runSize, srcLen_run hn, hle, h1, addr_add, h3]
                  | some u =>
                    obtain ⟨d, hu, hd⟩ := ht2 u rfl
                    simp only [Builtin.append_, Option.toList_some, SV.den_w, SW.den_slc]
                    cases d <;> first
                      | (simp [isIntD] at hd; done)
                      | simp [run_underlying hd', run_underlying hu, (hT e j hj).runSize, srcLen_run hn, hle, h1, addr_add, h3]
                · exact stop_ne h
              · exact stop_ne h
            · rename_i hle
              have hle : ¬ len + n ≤ cap := by simpa using hle
              split at h
              · rename_i old hold
                split at h
                · rename_i hc
                  simp only [Bool.and_eq_true] at hc
                  have c1 : len + n ≤ 1000000000 := by simpa using hc.1.1
                  have c2 : Builtin.nextslicecap (len + n) cap * j.bytes ≤ 281474976710656 := by simpa using hc.1.2
                  have c3 : 0 < j.bytes := by simpa using hc.2
                  simp only [R.ok.injEq, Prod.mk.injEq] at h
                  obtain ⟨rfl, rfl⟩ := h
                  refine ⟨newBlk_le, fun ρ _ _ A hA ι w hr hin => ?_⟩
                  have hA' : A st.nb := hA st.nb (Nat.le_refl _) (Nat.lt_succ_self _)
                  obtain ⟨c, w', h1, h2⟩ := append_grow (ty := ty) hT hd' hj hz ht2 (s := SV.w (.c (.slc b off len cap))) hn hnew hle c1 c2 c3 hr rfl
                    (fun w'' hw => (srcCells_run (P := P) hold (hr.world hw)).1) (srcCells_run (P := P) hold hr).2 hA'
                  refine ⟨_, w', ?_, h2, on_slu.2 ⟨Nat.lt_succ_self _, hA'⟩⟩
                  rw [h1]
                  simp [SV.den_w, SW.den_slu, newBlk, Loc.set]
                · exact stop_ne h
              · exact stop_ne h
          · split at h
            · rename_i hn0
              have hn0 : n = 0 := by simpa using hn0
              subst hn0
              simp only [R.ok.injEq, Prod.mk.injEq] at h
              obtain ⟨rfl, rfl⟩ := h
              refine .quiet (.refl _ _) fun ρ _ _ A ι w hr hin => ⟨?_, bare_c (x := .lit (.slice none 0 0)) (fun _ => trivial) _⟩
              obtain ⟨h1, h2⟩ := srcCells_run (P := P) hnew hr
              cases t2 with
              | none =>
                simp only [Builtin.append_, Option.toList_none, SV.den_w, SW.den_lit]
                simp [run_underlying hd', (hT e j hj).runSize, srcLen_run hn, h1]
              | some u =>
                obtain ⟨d, hu, hd⟩ := ht2 u rfl
                simp only [Builtin.append_, Option.toList_some, SV.den_w, SW.den_lit]
                cases d <;> first
                  | (simp [isIntD] at hd; done)
                  | simp [run_underlying hd', run_underlying hu, (hT e j hj).runSize, srcLen_run hn, h1]
            · rename_i hn0
              have hn0 : ¬ n = 0 := by simpa using hn0
              split at h
              · rename_i hc
                simp only [Bool.and_eq_true] at hc
                have c1 : n ≤ 1000000000 := by simpa using hc.1.1
                have c2 : Builtin.nextslicecap n 0 * j.bytes ≤ 281474976710656 := by simpa using hc.1.2
                have c3 : 0 < j.bytes := by simpa using hc.2
                simp only [R.ok.injEq, Prod.mk.injEq] at h
                obtain ⟨rfl, rfl⟩ := h
                refine ⟨newBlk_le, fun ρ _ _ A hA ι w hr hin => ?_⟩
                have hA' : A st.nb := hA st.nb (Nat.le_refl _) (Nat.lt_succ_self _)
                obtain ⟨c, w', h1, h2⟩ := append_grow (ty := ty) hT hd' hj hz ht2 (s := SV.w (.c (.lit (.slice none 0 0)))) (base := none) (len := 0) (cap := 0) (old := []) hn hnew (by omega) (by omega) (by simpa using c2) c3 hr rfl
                  (fun w'' hw => rfl) (fun c hc => by cases hc) hA'
                refine ⟨_, w', ?_, h2, on_slu.2 ⟨Nat.lt_succ_self _, hA'⟩⟩
                rw [h1]
                simp [SV.den_w, SW.den_slu, newBlk, Loc.set]
              · exact stop_ne h
          · exact stop_ne h
      · exact stop_ne h
  · exact stop_ne h

end
end Go.Sx
