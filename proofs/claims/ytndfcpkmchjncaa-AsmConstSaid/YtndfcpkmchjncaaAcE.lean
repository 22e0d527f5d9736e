/-
  AsmConst: the 32 registers as one value; how many words.
-/
import Derived.Test.YtndfcpkmchjncaaAcW
namespace Go.Proofs.Ytndfcpkmchjncaa
open Go Go.RowKit Go.Sx
set_option linter.unusedVariables false
set_option linter.unusedSimpArgs false

theorem u32of {xs : List Int} (h : ∀ x ∈ xs, 0 ≤ x ∧ x ≤ 4294967295) (i : Nat) : 0 ≤ xs.getD i 0 ∧ xs.getD i 0 ≤ 4294967295 := by
  by_cases hi : i < xs.length
  · rw [List.getD_eq_getElem?_getD, List.getElem?_eq_getElem hi]; exact h _ (List.getElem_mem hi)
  · rw [List.getD_eq_getElem?_getD, List.getElem?_eq_none (by omega)]; decide
def A32 (x : Nat → Int) : Array Value := arrOf 32 fun i => .int .u32 (x i)
theorem A32_get (x : Nat → Int) {i : Nat} (h : i < 32) : (A32 x)[i]? = some (.int .u32 (x i)) := arrOf_get _ h
theorem A32_size (x : Nat → Int) : (A32 x).size = 32 := arrOf_size _ _
theorem A32_one (x : Nat → Int) : ∀ v ∈ (A32 x).toList, v.oneCell' = true := by
  intro v hv
  obtain ⟨i, hi, rfl⟩ := List.mem_iff_getElem.1 hv
  have h : (A32 x).toList[i]? = some (A32 x).toList[i] := List.getElem?_eq_getElem hi
  have hi' : i < 32 := by simpa [A32_size] using hi
  rw [Array.getElem?_toList, A32_get x hi'] at h
  rw [← Option.some.inj h]
  rfl
theorem A32_load {w : World} {g : Nat} {x : Nat → Int} (h : ∀ i, i < 32 → w.cell? ⟨g, i, none⟩ = some (.int .u32 (x i))) : (loadVar 44 ⟨g, 0, none⟩).run Try.prog w = .ok (.agg (A32 x)) w := by
  obtain ⟨A, hA⟩ : ∃ A : Array Value, A = A32 x := ⟨_, rfl⟩
  have hs : A.size = 32 := by rw [hA, A32_size]
  have hc : ∀ j v, A[j]? = some v → w.cell? ⟨g, j, none⟩ = some v := fun j v hj => by
    have hl : j < 32 := by
      rcases Nat.lt_or_ge j 32 with h' | h'
      · exact h'
      · rw [Array.getElem?_eq_none (by omega)] at hj; cases hj
    rw [hA, A32_get x hl] at hj
    rw [h j hl, ← hj]
  rw [← hA]
  clear hA
  have hl : (loadCells ⟨g, 0, none⟩ A.toList.length).run Try.prog w = .ok A.toList.toArray w :=
    run_loadCells_list (P := Try.prog) w ⟨g, 0, none⟩ A.toList (fun j v hv => by
      have hadd : (⟨g, 0, none⟩ : Addr).add j = ⟨g, j, none⟩ := by unfold Addr.add; split <;> simp_all
      rw [hadd]
      exact hc j v (by simpa using hv))
  have hi : (Try.prog.info? 44).map (·.size) = some 32 := by kernel_rfl
  cases hq : Try.prog.info? 44 with
  | none => simp [hq] at hi
  | some i =>
    have hs' : i.size = A.size := by rw [hs]; simpa [hq] using hi
    have hagg : (isAgg 44).run Try.prog w = .ok true w := by
      unfold isAgg
      rw [Sem.run_bind, run_underlying Try.underlying44 w]
      rfl
    simp only [Array.length_toList, Array.toArray_toList] at hl
    simp [loadVar, Sem.run_bind, hagg, sizeOf, typeInfo, hq, hs', hl]
set_option maxRecDepth 100000 in
theorem A32_same (x : Nat → Int) (w : World) : (binOp .eql 44 (.agg (A32 x)) (.agg (A32 x))).run Try.prog w = .ok (.bool true) w := by
  rw [run_eql_struct]
  have hu : Try.prog.underlying 44 = some (.array 32 22) := by kernel_rfl
  have h32 : Try.prog.underlying 22 = some (.int .u32) := by kernel_rfl
  have hpl : Try.prog.plainKey 22 = true := by kernel_rfl
  have hs : ∀ w : World, (sizeOf 22).run Try.prog w = .ok 1 w := fun w => by kernel_rfl
  have hp : ∀ i, i < 32 → ∀ w, (part 22 (A32 x) (i * 1)).run Try.prog w = .ok (.int .u32 (x i)) w := fun i hi w => run_part_plain w hpl (by rw [Nat.mul_one]; exact A32_get x hi)
  have e : ∀ m, (∀ (y : Int) (w : World), (Op.equalIn m 22 (.int .u32 y) (.int .u32 y)).run Try.prog w = .ok true w) → (Op.equalIn (m + 1) 44 (.agg (A32 x)) (.agg (A32 x))).run Try.prog w = .ok true w := by
    intro m hi
    simp only [Op.equalIn, Sem.run_bind, run_underlying hu, Result.andThen_ok, hs, Std.Legacy.Range.forIn_eq_forIn_range', Std.Legacy.Range.size, Nat.sub_zero, Nat.add_one_sub_one, Nat.div_one]
    have hl : ∀ i ∈ List.range' 0 32 1, i < 32 := fun i hi => by simpa using (List.mem_range'_1.1 hi).2
    generalize List.range' 0 32 1 = l at hl ⊢
    induction l with
    | nil => simp
    | cons i l ih =>
      have hi' : i < 32 := hl i (by simp)
      simp only [List.forIn_cons, Sem.run_bind, hp i hi', hi, Result.andThen_ok, Bool.not_true, Bool.false_eq_true, if_false, Sem.run_pure]
      exact ih fun j hj => hl j (by simp [hj])
  rw [e 9999 (fun y w => by rw [run_equalIn_int w 9998 22 .u32 .u32 y y h32, beq_self_eq_true])]; rfl
theorem A32_guard : Try.prog.eqGuardType Try.prog.depth 44 = false := by kernel_rfl

theorem wpList_load_is {P : Program} {ops : Array Oper} {rest : List Oper} {o : Oper} {a : Act} {w : World} {Q : Exit → Act → World → Prop} (hgd : o.guard = none) (ty : TypeId) (x : Operand) (ho : o.op = .load ty x) (p : Addr) (hx : a.eval x = .pointer (some p)) (v : Value) (hl : (loadVar ty p).run P w = .ok v w)
    (h : wpList P ops Q rest (a.put o.dst v) w) : wpList P ops Q (o :: rest) a w :=
  wpList_plain hgd fun K hK => by
    unfold Oper.wp execOp
    simp only [ho, hx, Instr.loadAt, Instr.sureAddr, Sem.run_bind, Sem.run_pure, Result.andThen_ok, hl]
    exact hK _ _ h
theorem wpStill_load_is {P : Program} {ops : Array Oper} {w : World} {Q : Act → Prop} {a : Act} {o : Oper} {rest : List Oper} (hg : o.guard = none) (ty : TypeId) (x : Operand) (ho : o.op = .load ty x) (p : Addr) (hx : a.eval x = .pointer (some p)) (v : Value) (hl : (loadVar ty p).run P w = .ok v w)
    (h : wpStill P ops w Q rest (a.put o.dst v)) : wpStill P ops w Q (o :: rest) a := by
  refine wpStill_step (fun K hK => ?_)
  have hw : Region.wanted o (yielded ops a.tmps) = true := by simp [Region.wanted, hg]
  rw [if_pos hw]
  unfold Oper.still
  have e : (execOp a.eval o).run P w = .ok (.value v) w := by
    unfold execOp
    simp only [ho, hx, Instr.loadAt, Instr.sureAddr, Sem.run_bind, Sem.run_pure, Result.andThen_ok, hl]
  rw [e, Oper.stillUpon_value]
  exact hK _ h

theorem and_4095 (v : Int) : bits .and .u32 v 4095 = v % 4096 := and_u32 v 4095 12 4096 (by decide) (by decide) (by decide)
/-- what the tests say, and how many words -/
theorem cws_ways (rd v : Int) (hv : 0 ≤ v ∧ v ≤ 4294967295) : ∃ sv, IntKind.i32.wrap v = sv ∧
    ((((-2048 ≤ sv ∧ sv < 2048) ∨ (-2048 ≤ sv ∧ decide (sv < 2048) = false ∧ (v % 4096 == 0) = true) ∨ (decide (-2048 ≤ sv) = false ∧ (v % 4096 == 0) = true)) ∧ (cws rd v).length = 1)
      ∨ (((-2048 ≤ sv ∧ decide (sv < 2048) = false ∧ (v % 4096 == 0) = false) ∨ (decide (-2048 ≤ sv) = false ∧ (v % 4096 == 0) = false)) ∧ (cws rd v).length = 2)) := by
  refine ⟨_, rfl, ?_⟩
  obtain ⟨sv, hs⟩ : ∃ sv, sv = IntKind.i32.wrap v := ⟨_, rfl⟩
  rw [← hs]
  rw [IntKind.wrap_i32] at hs
  have z : hi20 v = 0 ↔ (-2048 ≤ sv ∧ sv < 2048) := by rw [hs]; unfold hi20 lo12; omega
  have l : lo12 v = 0 ↔ v % 4096 = 0 := by unfold lo12; omega
  have n1 : hi20 v = 0 → (cws rd v).length = 1 := fun h => by unfold cws; rw [if_pos h]; rfl
  have n2 : hi20 v ≠ 0 → lo12 v = 0 → (cws rd v).length = 1 := fun h h' => by unfold cws; rw [if_neg h, if_pos h']; rfl
  have n3 : hi20 v ≠ 0 → lo12 v ≠ 0 → (cws rd v).length = 2 := fun h h' => by unfold cws; rw [if_neg h, if_neg h']; rfl
  by_cases c1 : -2048 ≤ sv
  · by_cases c2 : sv < 2048
    · exact Or.inl ⟨Or.inl ⟨c1, c2⟩, n1 (z.2 ⟨c1, c2⟩)⟩
    · by_cases c3 : v % 4096 = 0
      · exact Or.inl ⟨Or.inr (Or.inl ⟨c1, decide_eq_false c2, by simpa using c3⟩), n2 (fun h => c2 (z.1 h).2) (l.2 c3)⟩
      · exact Or.inr ⟨Or.inl ⟨c1, decide_eq_false c2, by simpa using c3⟩, n3 (fun h => c2 (z.1 h).2) (fun h => c3 (l.1 h))⟩
  · by_cases c3 : v % 4096 = 0
    · exact Or.inl ⟨Or.inr (Or.inr ⟨decide_eq_false c1, by simpa using c3⟩), n2 (fun h => c1 (z.1 h).1) (l.2 c3)⟩
    · exact Or.inr ⟨Or.inr ⟨decide_eq_false c1, by simpa using c3⟩, n3 (fun h => c1 (z.1 h).1) (fun h => c3 (l.1 h))⟩
theorem cws_bd {rd v : Int} (hr : 1 ≤ rd ∧ rd < 32) (hv : 0 ≤ v ∧ v ≤ 4294967295) (i : Nat) : 0 ≤ (cws rd v).getD i 0 ∧ (cws rd v).getD i 0 ≤ 4294967295 := by
  have hR : Rg rd := ⟨by omega, hr.2⟩
  have b1 := lo_bd v
  have b0 := hi_bd v
  have wA0 := encS_bd (W_addi hR Rg0 b1) ⟨by omega, by omega⟩
  have wA1 := encS_bd (W_addi hR hR b1) ⟨by omega, by omega⟩
  have wL := encS_bd (W_lui hR (hi_mul v)) b0
  refine u32of (fun x hx => ?_) i
  unfold cws at hx
  split at hx
  · simp only [List.mem_cons, List.not_mem_nil, or_false] at hx
    subst hx; omega
  · split at hx
    · simp only [List.mem_cons, List.not_mem_nil, or_false] at hx
      subst hx; omega
    · simp only [List.mem_cons, List.not_mem_nil, or_false] at hx
      rcases hx with rfl | rfl <;> omega
theorem below_next {a w w1 : World} (h : Below a.heap.size a w) (k : Below w.heap.size w w1) : Below a.heap.size a w1 := h.trans (k.mono h.size)
theorem makes_trans {w w1 w2 : World} {hb mb : Nat} {S S' : HS} (h : MakesR w hb mb S w1) (k : MakesR w1 hb mb S' w2) : MakesR w hb mb S' w2 := ⟨k.at_, h.turn.trans k.turn⟩
theorem arr_cells {w : World} {b : Nat} {A : Array Value} {rs : List Int} {t : TypeId} (h : w.heap[b]? = some (.cells A t (0, 0))) (hA : ∀ j, j < 31 → A[j]? = some (.int .u32 (rs.getD j 0))) (j : Nat) (hj : j < 31) : w.cell? ⟨b, j, none⟩ = some (.int .u32 (rs.getD j 0)) := by
  simp [World.cell?, h, hA j hj]
theorem arr_of_list (rs : List Int) : (rs.map (fun x => Value.int .u32 x)).toArray.size = rs.length ∧ ∀ j, j < rs.length → (rs.map (fun x => Value.int .u32 x)).toArray[j]? = some (.int .u32 (rs.getD j 0)) := by
  refine ⟨by simp, fun j hj => ?_⟩
  simp [hj]

end Go.Proofs.Ytndfcpkmchjncaa
