/-
  One way through a function that gives a slice in memory of its own.
-/
import Derived.Test.YtndfcpkmchjncaaSxT
namespace Go.Sx
set_option linter.unusedSectionVars false
variable [Pins]

/-- the cells of a slice that a run gives, and its log -/
def sliceAns (r : R (SV × St)) (n : Nat) : Option (List SC × List Ev) :=
  match r with
  | .ok (.w (.c (.slc id 0 m _)), st) =>
    if Nat.beq m n then
      match st.heap.get id with
      | some k => if Nat.ble n k.size then some ((List.range n).map k.at, st.log) else none
      | none => none
    else none
  | _ => none

theorem sliceAns_was {r : R (SV × St)} {n : Nat} {cs : List SC} {log : List Ev} (h : sliceAns r n = some (cs, log)) :
    ∃ id cap st k, r = .ok (.w (.c (.slc id 0 n cap)), st) ∧ st.heap.get id = some k ∧ n ≤ k.size ∧ cs = (List.range n).map k.at ∧ log = st.log := by
  unfold sliceAns at h
  split at h
  · rename_i id m cap st
    by_cases hm : Nat.beq m n = true
    · rw [if_pos hm] at h
      have e : m = n := Nat.eq_of_beq_eq_true hm
      subst e
      cases hk : st.heap.get id with
      | none => rw [hk] at h; cases h
      | some k =>
        rw [hk] at h
        simp only at h
        by_cases hs : Nat.ble m k.size = true
        · rw [if_pos hs] at h
          simp only [Option.some.injEq, Prod.mk.injEq] at h
          exact ⟨id, cap, st, k, rfl, hk, Nat.le_of_ble_eq_true hs, h.1.symm, h.2.symm⟩
        · rw [if_neg hs] at h; cases h
    · rw [if_neg hm] at h; cases h
  · cases h

theorem waySl {P : Program} {Φ : Phi} {C : Ctx} (hC : CtxOk P Φ C) {lf d f : Nat} {args : List SW} {ds : List D} {nx n : Nat} {cs : List SC} {log : List Ev} {as : Array Value} {res : List Value} {Pr : Prop} {ρ : Env}
    (h : sliceAns (fnRun C lf d f args (st0 ds nx)) n = some (cs, log.reverse)) (hb : (cs.all bareSC && args.all bareSW && fresh log nx && (args.flatMap SW.cells).all (SC.lt nx)) = true)
    (he : chain Φ log ρ (fun ρ' => cs.map (SC.den ρ' noloc) = res) = Pr) (ha : (args.map (SW.den ρ noloc)).toArray = as) (hp : Pr) (w : World) (p1 : Pins.n ≤ w.heap.size) (p2 : Pins.I w) :
    Calls P f as w fun e w' => ∃ g cap, e = .returned (.slice (some ⟨g, 0, none⟩) n cap) ∧ (∀ i, i < n → w'.cell? ⟨g, i, none⟩ = res[i]?) ∧ w.heap.size ≤ g ∧ g < w'.heap.size ∧ RowKit.Below w.heap.size w w' := by
  simp only [Bool.and_eq_true] at hb
  obtain ⟨⟨⟨hb1, hb2⟩, hb3⟩, hlt⟩ := hb
  obtain ⟨id, cap, st', k, hr, hk, hsz, rfl, hlog⟩ := sliceAns_was h
  rw [← he] at hp
  obtain ⟨ρ', h1, h2, h3⟩ := chain_ok Φ _ log nx ρ hb3 hp
  obtain ⟨hle, _, h4⟩ := fnRun_ok hC.tys hC.fns hC.sums hC.mix lf d f args _ _ _ hr
  have hargs : args.map (SW.den ρ' noloc) = args.map (SW.den ρ noloc) := by
    refine List.map_congr_left fun x hx => ?_
    have hcells : ∀ c ∈ x.cells, c.den ρ' noloc = c.den ρ noloc := fun c hc =>
      (SC.den_like h1 (List.all_eq_true.1 hlt c (List.mem_flatMap.2 ⟨x, hx, hc⟩)) noloc).1
    cases x with
    | c y => exact hcells y (by simp [SW.cells])
    | agg ys =>
      simp only [SW.den]
      congr 2
      exact List.map_congr_left fun y hy => hcells y hy
  rw [← ha, ← hargs]
  refine (h4 ρ' (fun e he => h2 e (by rw [← hlog] at he; simpa using he)) ⟨fun x b hx => (by rw [show (st0 ds nx).bf = Tr.e from rfl, Tr.get_e] at hx; cases hx), fun x b hx => (by rw [show (st0 ds nx).jf = Tr.e from rfl, Tr.get_e] at hx; cases hx)⟩ (fun _ => True) (fun _ _ _ => trivial) noloc w
    ⟨fun id k hk => (by rw [show (st0 ds nx).heap = Tr.e from rfl, Tr.get_e] at hk; cases hk), fun id k hk => (by rw [show (st0 ds nx).heap = Tr.e from rfl, Tr.get_e] at hk; cases hk), fun id k hk => (by rw [show (st0 ds nx).heap = Tr.e from rfl, Tr.get_e] at hk; cases hk), fun id id' k k' hk => (by rw [show (st0 ds nx).heap = Tr.e from rfl, Tr.get_e] at hk; cases hk), p1, p2, fun id k hk => (by rw [show (st0 ds nx).heap = Tr.e from rfl, Tr.get_e] at hk; cases hk)⟩
    (fun x hx => bareSW_on (List.all_eq_true.1 hb2 x hx) _)).mono fun e w' ⟨ι', he, hp, _⟩ => ?_
  have hid : id < st'.nb := (hp.rep.lt id k hk).1
  have hlt2 := hp.rep.size hk
  refine ⟨ι'.blk id, cap, he, fun i hi => ?_, hp.fresh id (Nat.zero_le _) hid, hlt2, hp.os, hp.tape, hp.output, hp.size, fun k hk => hp.same k hk fun id k' hk' => (by rw [show (st0 ds nx).heap = Tr.e from rfl, Tr.get_e] at hk'; cases hk')⟩
  rw [hp.rep.cell hk (by omega), ← h3]
  rw [List.getElem?_map, List.getElem?_map, List.getElem?_range hi]
  have hbare : bareSC (k.at i) = true := List.all_eq_true.1 hb1 _ (List.mem_map.2 ⟨i, List.mem_range.2 hi, rfl⟩)
  have e1 : (k.at i).den ρ' ι' = (k.at i).den ρ' noloc := by
    have := bareW_den (x := .c (k.at i)) (by simp [bareSW, SW.cells, hbare]) ρ' noloc ι'
    exact this
  rw [e1]
  rfl
end Go.Sx
