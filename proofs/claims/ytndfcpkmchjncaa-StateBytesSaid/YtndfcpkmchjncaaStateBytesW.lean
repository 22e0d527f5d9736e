/- The walk of the law StateBytes. -/
import Derived.Test.YtndfcpkmchjncaaStB
import Derived.Test.YtndfcpkmchjncaaBitsWord
import Derived.Test.YtndfcpkmchjncaaKit
import Derived.BigQuiet
import Derived.StillTailTactics
import Derived.Deep.RegionHeld
namespace Go.Proofs.Ytndfcpkmchjncaa
open Go Go.RowKit Go.Sx
set_option linter.unusedVariables false
set_option linter.unusedSimpArgs false

/-- a slice of bytes that can be read -/
def Bs (w : World) (a : Option Addr) (xs : List Int) : Prop := ∀ i, i < xs.length → ∃ b o, a = some ⟨b, o, none⟩ ∧ b < w.heap.size ∧ w.cell? ⟨b, o + i, none⟩ = some (.int .u8 (xs.getD i 0))
theorem sa_one (R : Nat → Int) (pc : Int) (f : F6) (df : Bool) (fl : Int) : ∀ v ∈ (#[.int .u32 (R 0), .int .u32 (R 1), .int .u32 (R 2), .int .u32 (R 3), .int .u32 (R 4), .int .u32 (R 5), .int .u32 (R 6), .int .u32 (R 7), .int .u32 pc, .bool f.c, .bool f.p, .bool f.a, .bool f.z, .bool f.s, .bool f.o, .bool df, .int .u64 fl] : Array Value).toList, v.oneCell' = true := by
  intro v hv
  simp only [List.mem_cons, List.not_mem_nil, or_false] at hv
  rcases hv with rfl | rfl | rfl | rfl | rfl | rfl | rfl | rfl | rfl | rfl | rfl | rfl | rfl | rfl | rfl | rfl | rfl <;> rfl
theorem row_load {w : World} {g : Nat} {R : Nat → Int} {pc : Int} {f : F6} {df : Bool} {fl : Int} (h : Row w g #[.int .u32 (R 0), .int .u32 (R 1), .int .u32 (R 2), .int .u32 (R 3), .int .u32 (R 4), .int .u32 (R 5), .int .u32 (R 6), .int .u32 (R 7), .int .u32 pc, .bool f.c, .bool f.p, .bool f.a, .bool f.z, .bool f.s, .bool f.o, .bool df, .int .u64 fl]) : (loadVar 33 ⟨g, 0, none⟩).run Try.prog w = .ok (.agg #[.int .u32 (R 0), .int .u32 (R 1), .int .u32 (R 2), .int .u32 (R 3), .int .u32 (R 4), .int .u32 (R 5), .int .u32 (R 6), .int .u32 (R 7), .int .u32 pc, .bool f.c, .bool f.p, .bool f.a, .bool f.z, .bool f.s, .bool f.o, .bool df, .int .u64 fl]) w := by
  obtain ⟨A, hA⟩ : ∃ A : Array Value, A = #[.int .u32 (R 0), .int .u32 (R 1), .int .u32 (R 2), .int .u32 (R 3), .int .u32 (R 4), .int .u32 (R 5), .int .u32 (R 6), .int .u32 (R 7), .int .u32 pc, .bool f.c, .bool f.p, .bool f.a, .bool f.z, .bool f.s, .bool f.o, .bool df, .int .u64 fl] := ⟨_, rfl⟩
  have hs : A.size = 17 := by rw [hA]; rfl
  rw [← hA] at h ⊢
  clear hA
  have hl : (loadCells ⟨g, 0, none⟩ A.toList.length).run Try.prog w = .ok A.toList.toArray w :=
    run_loadCells_list (P := Try.prog) w ⟨g, 0, none⟩ A.toList (fun j v hv => by
      have hadd : (⟨g, 0, none⟩ : Addr).add j = ⟨g, j, none⟩ := by unfold Addr.add; split <;> simp_all
      rw [hadd]
      exact h.cell j v (by simpa using hv))
  have hi : (Try.prog.info? 33).map (·.size) = some 17 := by kernel_rfl
  cases hq : Try.prog.info? 33 with
  | none => simp [hq] at hi
  | some i =>
    have hs' : i.size = A.size := by rw [hs]; simpa [hq] using hi
    have hagg : (isAgg 33).run Try.prog w = .ok true w := by
      unfold isAgg
      rw [Sem.run_bind, run_underlying Try.underlying33 w]
      rfl
    simp only [Array.length_toList, Array.toArray_toList] at hl
    simp [loadVar, Sem.run_bind, hagg, sizeOf, typeInfo, hq, hs', hl]
theorem wpList_load_is {P : Program} {ops : Array Oper} {rest : List Oper} {o : Oper} {a : Act} {w : World} {Q : Exit → Act → World → Prop} (hgd : o.guard = none) (ty : TypeId) (x : Operand) (ho : o.op = .load ty x) (p : Addr) (hx : a.eval x = .pointer (some p)) (v : Value) (hl : (loadVar ty p).run P w = .ok v w)
    (h : wpList P ops Q rest (a.put o.dst v) w) : wpList P ops Q (o :: rest) a w :=
  wpList_plain hgd fun K hK => by
    unfold Oper.wp execOp
    simp only [ho, hx, Instr.loadAt, Instr.sureAddr, Sem.run_bind, Sem.run_pure, Result.andThen_ok, hl]
    exact hK _ _ h
theorem wpStill_load_is {P : Program} {ops : Array Oper} {w : World} {Q : Act → Prop} {a : Act} {o : Oper} {rest : List Oper} (hg : o.guard = none) (ty : TypeId) (x : Operand) (ho : o.op = .load ty x) (p : Addr) (hx : a.eval x = .pointer (some p)) (v : Value) (hl : (loadVar ty p).run P w = .ok v w)
    (h : wpStill P ops w Q rest (a.put o.dst v)) : wpStill P ops w Q (o :: rest) a := by
  refine wpStill_step (fun K hK => ?_)
  have hw : Region.wanted o (yielded ops a.tmps) = true := by simp [Region.wanted, hg]
  rw [if_pos hw]
  unfold Oper.still
  have e : (execOp a.eval o).run P w = .ok (.value v) w := by
    unfold execOp
    simp only [ho, hx, Instr.loadAt, Instr.sureAddr, Sem.run_bind, Sem.run_pure, Result.andThen_ok, hl]
  rw [e, Oper.stillUpon_value]
  exact hK _ h
/-- block g is known whole -/
def Ex (w : World) (g : Nat) (A : Array Value) : Prop := w.heap[g]? = some (.cells A 33 (0, 0))
theorem Ex.lt {w : World} {g : Nat} {A : Array Value} (h : Ex w g A) : g < w.heap.size := by
  rcases Nat.lt_or_ge g w.heap.size with h' | h'
  · exact h'
  · unfold Ex at h; rw [Array.getElem?_eq_none h'] at h; cases h
theorem Ex.row {w : World} {g : Nat} {A : Array Value} (h : Ex w g A) : Row w g A :=
  ⟨h.lt, fun j v hj => by unfold Ex at h; simp [World.cell?, h, hj], fun j => by unfold Ex at h; simp [World.frozen?, h]⟩
theorem Ex.keep {w w1 : World} {g : Nat} {A : Array Value} (h : Ex w g A) (b : Below w.heap.size w w1) : Ex w1 g A := (b.block g h.lt).trans h
theorem Ex.drew {w : World} {g : Nat} {A : Array Value} (h : Ex w g A) : Ex w.drew g A := h
theorem Ex.set {w : World} {g : Nat} {A : Array Value} (h : Ex w g A) {a : Addr} (ha : a.block ≠ g) (v : Value) : Ex (w.setCell a v) g A := (Below.heap_setCell _ _ _ _ (Ne.symm ha)).trans h
theorem Ex.row_ {w : World} {g : Nat} {A : Array Value} (h : Ex w g A) (c : Array Value) : Ex (w.setRow g c) g c := setRow_heap w g A c _ _ h
theorem row_setRow {w : World} {g b : Nat} {A : Array Value} (h : Row w b A) (hp : g ≠ b) (c : Array Value) : Row (w.setRow g c) b A := by
  have e : (w.setRow g c).heap[b]? = w.heap[b]? := by unfold World.setRow; simp only [Array.getElem?_modify]; rw [if_neg hp]
  exact ⟨by have := h.lt; simpa [World.setRow] using this, fun j v hj => (World.cell?_of_block (w := w) (a := ⟨b, j, none⟩) e).trans (h.cell j v hj), fun j => (World.frozen?_of_block (w := w) (a := ⟨b, j, none⟩) e).trans (h.free j)⟩
theorem below_setRow {a w : World} (h : Below a.heap.size a w) {g : Nat} (hp : a.heap.size ≤ g) (c : Array Value) : Below a.heap.size a (w.setRow g c) :=
  h.trans ⟨rfl, rfl, rfl, by simp [World.setRow], fun k hk => by unfold World.setRow; simp only [Array.getElem?_modify]; rw [if_neg (by omega)]⟩
theorem exec_load {P : Program} {w : World} {ev : Operand → Value} {o : Oper} (ty : TypeId) (x : Operand) (ho : o.op = .load ty x) (p : Addr) (hx : ev x = .pointer (some p)) (v : Value) (hl : (loadVar ty p).run P w = .ok v w) : (execOp ev o).run P w = .ok (.value v) w := by
  unfold execOp
  simp only [ho, hx, Instr.loadAt, Instr.sureAddr, Sem.run_bind, Sem.run_pure, Result.andThen_ok, hl]
theorem below_refl' (w : World) : Below w.heap.size w w := Below.refl _ _
theorem or_abc (y : Int) (h : 0 ≤ y ∧ y ≤ 255) : bits .or .u32 y 703488 = y + 703488 := or_sum y 2748 8 h.1 (by omega) (by decide) (by decide) (by decide)
theorem getD_8 {xs : List Int} (h : ∀ x ∈ xs, 0 ≤ x ∧ x ≤ 255) (i : Nat) : 0 ≤ xs.getD i 0 ∧ xs.getD i 0 ≤ 255 := by
  by_cases hi : i < xs.length
  · rw [List.getD_eq_getElem?_getD, List.getElem?_eq_getElem hi]; exact h _ (List.getElem_mem hi)
  · rw [List.getD_eq_getElem?_getD, List.getElem?_eq_none (by omega)]; decide

set_option maxRecDepth 100000 in
set_option maxHeartbeats 8000000 in
theorem bytes_main (w : World) (R : Nat → Int) (pc : Int) (f : F6) (df : Bool) (fl : Int) (la va : Option Addr) (ls vs : List Int) (lc vc : Nat) (hR : Wd R) (hp : 0 ≤ pc ∧ pc ≤ 4294967295) (hf : 0 ≤ fl ∧ fl ≤ 18446744073709551615)
    (hla : Bs w la ls) (hva : Bs w va vs) (hls : ∀ x ∈ ls, 0 ≤ x ∧ x ≤ 255) (hvs : ∀ x ∈ vs, 0 ≤ x ∧ x ≤ 255) (hn : ls.length ≤ 20) (hm : ls.length ≤ vs.length) :
    Calls Try.prog 4 #[.agg #[.int .u32 (R 0), .int .u32 (R 1), .int .u32 (R 2), .int .u32 (R 3), .int .u32 (R 4), .int .u32 (R 5), .int .u32 (R 6), .int .u32 (R 7), .int .u32 pc, .bool f.c, .bool f.p, .bool f.a, .bool f.z, .bool f.s, .bool f.o, .bool df, .int .u64 fl], .slice la ls.length lc, .slice va vs.length vc] w fun e w' => e = .returned (.bool true) ∧ Below w.heap.size w w' := by
  have HR := Lib.hid hR; have HP := Lib.hid hp; have HF := Lib.hid hf; have HLA := Lib.hid hla; have HVA := Lib.hid hva; have HLS := Lib.hid hls; have HVS := Lib.hid hvs
  have d20 : decide ((20 : Int) < (ls.length : Int)) = false := decide_eq_false (by omega)
  have dnm : decide ((vs.length : Int) < (ls.length : Int)) = false := decide_eq_false (by omega)
  have dnm' : decide (vs.length < ls.length) = false := decide_eq_false (by omega)
  have HNM := Lib.hid hm; have HN := Lib.hid hn
  clear hR hp hf hla hva hls hvs hn hm
  go_enter Try.func4, Try.ntmps4
  go_wp2_with fail
  refine (ks_known _).mono ?_; rintro e v0 ⟨rfl, hb0⟩
  have B0 : Below w.heap.size w v0 := below_then (by repeat (first | exact below_refl _ | apply below_alloc | apply below_drew)) hb0
  have RS := row_keep hb0 (by repeat (first | exact row_new _ _ _ | apply row_alloc | apply row_drew))
  clear hb0
  have hkn : ksKnown = true := rfl
  go_wp2_with fail
  have RS1 := Lib.hid (row_alloc RS (.cells #[.int .u32 0, .int .u32 0, .int .u32 0, .int .u32 0, .int .u32 0, .int .u32 0, .int .u32 0, .int .u32 0] 30))
  have RW1 := Lib.hid (row_new v0 #[.int .u32 0, .int .u32 0, .int .u32 0, .int .u32 0, .int .u32 0, .int .u32 0, .int .u32 0, .int .u32 0] 30)
  have B1 := Lib.hid (below_alloc B0 (.cells #[.int .u32 0, .int .u32 0, .int .u32 0, .int .u32 0, .int .u32 0, .int .u32 0, .int .u32 0, .int .u32 0] 30))
  have Z7 : Hid (w.heap.size < v0.heap.size) := Lib.hid RS.lt
  generalize hg7 : v0.heap.size = g7 at *
  clear RS B0 d20 dnm dnm' hkn
  go_loopw [8] (fun i wr => ∃ (k : Nat) (W : Nat → Int), k ≤ 8 ∧ i = .int .i64 (k : Nat) ∧ (∀ j, j < k → W j = reg8 R j) ∧ Row wr w.heap.size #[.int .u32 (R 0), .int .u32 (R 1), .int .u32 (R 2), .int .u32 (R 3), .int .u32 (R 4), .int .u32 (R 5), .int .u32 (R 6), .int .u32 (R 7), .int .u32 pc, .bool f.c, .bool f.p, .bool f.a, .bool f.z, .bool f.s, .bool f.o, .bool df, .int .u64 fl] ∧ Row wr g7 #[.int .u32 (W 0), .int .u32 (W 1), .int .u32 (W 2), .int .u32 (W 3), .int .u32 (W 4), .int .u32 (W 5), .int .u32 (W 6), .int .u32 (W 7)] ∧ Below w.heap.size w wr) (fun i _ => 8 - (intOf i).toNat)
  case atStart => exact ⟨0, fun _ => 0, by omega, rfl, fun j hj => absurd hj (Nat.not_lt_zero _), RS1.out, RW1.out, B1.out⟩
  case round =>
    obtain ⟨k, W, hk, rfl, hW, RS, RW, hB⟩ := hrel
    have HW := Lib.hid hW; have HB := Lib.hid hB; clear hW hB
    by_cases hlt : k < 8
    · have l1 : (k : Int) < 8 := by omega
      have l0 : (0 : Int) ≤ (k : Int) := by omega
      obtain ⟨r, hr⟩ : ∃ r, reg8 R k = r := ⟨_, rfl⟩
      have Hr := Lib.hid hr; have HLT := Lib.hid hlt; clear hr
      have RS' := Lib.hid RS; have RW' := Lib.hid RW
      have HLD := Lib.hid (row_load RS)
      clear RS RW
      go_wp2_with (refine wpList_load_is rfl 33 _ rfl _ rfl _ HLD.out ?_)
      refine (Reg8_is HR.out HP.out HF.out (k : Int) k (by have := HLT.out; omega) HLT.out (by have := HLT.out; omega) Hr.out _).mono ?_; rintro e w5 ⟨rfl, hb5⟩
      have RS5 := Lib.hid (row_keep hb5 RS'.out); have RW5 := Lib.hid (row_keep hb5 RW'.out); have B5 := Lib.hid (below_then HB.out hb5)
      clear hb5
      have d1 := row_want RW5.out HLT.out
      have d2 := RW5.out.free k
      go_wp2_with fail
      go_roundw
      case rel =>
        have n1 : g7 ≠ w.heap.size := by have := Z7.out; omega
        have n2 : w.heap.size ≤ g7 := by have := Z7.out; omega
        refine ⟨k + 1, upd W k r, Nat.succ_le_of_lt HLT.out, by go_num, fun j hj => ?_, row_set RS5.out n1 _, row_wset RW5.out HLT.out r, below_set B5.out n2 _⟩
        unfold upd; split
        · rename_i e; rw [e]; exact Hr.out.symm
        · exact HW.out j (by omega)
      case measure => simp [intOf]; omega
    · obtain rfl : k = 8 := by omega
      have RS' := Lib.hid RS; have RW' := Lib.hid RW
      have HLD := Lib.hid (row_load RS)
      clear RS RW
      obtain ⟨Z, hZ⟩ : ∃ Z : Array Value, Z = #[.int .u32 0, .int .u32 0, .int .u32 0, .int .u32 0, .int .u32 0, .int .u32 0, .int .u32 0, .int .u32 0, .int .u32 0, .bool false, .bool false, .bool false, .bool false, .bool false, .bool false, .bool false, .int .u64 0] := ⟨_, rfl⟩
      have HZ : Hid (∀ w, (zeroValue 33).run Try.prog w = .ok (.agg Z) w) := Lib.hid (by rw [hZ]; exact fun _ => by kernel_rfl)
      have HZS : Hid (Z.size = 17) := Lib.hid (by rw [hZ]; rfl)
      have HI17 : Hid ((Try.prog.info? 33).map (·.size) = some 17) := Lib.hid (by kernel_rfl)
      clear hZ
      go_wp2_with (first
        | (refine wpList_load_is rfl 33 _ rfl _ rfl _ HLD.out ?_)
        | (refine Kit.wpList_alloc_as rfl 33 rfl Z (HZ.out _) ?_)
        | (refine Kit.wpList_store_new rfl 33 _ _ rfl wr Z 33 rfl rfl #[.int .u32 (R 0), .int .u32 (R 1), .int .u32 (R 2), .int .u32 (R 3), .int .u32 (R 4), .int .u32 (R 5), .int .u32 (R 6), .int .u32 (R 7), .int .u32 pc, .bool f.c, .bool f.p, .bool f.a, .bool f.z, .bool f.s, .bool f.o, .bool df, .int .u64 fl] rfl HZS.out HI17.out (sa_one R pc f df fl) ?_))
      have RS2 := Lib.hid (row_alloc RS'.out (.cells #[.int .u32 (R 0), .int .u32 (R 1), .int .u32 (R 2), .int .u32 (R 3), .int .u32 (R 4), .int .u32 (R 5), .int .u32 (R 6), .int .u32 (R 7), .int .u32 pc, .bool f.c, .bool f.p, .bool f.a, .bool f.z, .bool f.s, .bool f.o, .bool df, .int .u64 fl] 33))
      have RW2 := Lib.hid (row_alloc RW'.out (.cells #[.int .u32 (R 0), .int .u32 (R 1), .int .u32 (R 2), .int .u32 (R 3), .int .u32 (R 4), .int .u32 (R 5), .int .u32 (R 6), .int .u32 (R 7), .int .u32 pc, .bool f.c, .bool f.p, .bool f.a, .bool f.z, .bool f.s, .bool f.o, .bool df, .int .u64 fl] 33))
      have RT2 : Hid (Ex (wr.alloc (.cells #[.int .u32 (R 0), .int .u32 (R 1), .int .u32 (R 2), .int .u32 (R 3), .int .u32 (R 4), .int .u32 (R 5), .int .u32 (R 6), .int .u32 (R 7), .int .u32 pc, .bool f.c, .bool f.p, .bool f.a, .bool f.z, .bool f.s, .bool f.o, .bool df, .int .u64 fl] 33)) wr.heap.size #[.int .u32 (R 0), .int .u32 (R 1), .int .u32 (R 2), .int .u32 (R 3), .int .u32 (R 4), .int .u32 (R 5), .int .u32 (R 6), .int .u32 (R 7), .int .u32 pc, .bool f.c, .bool f.p, .bool f.a, .bool f.z, .bool f.s, .bool f.o, .bool df, .int .u64 fl]) := Lib.hid (heap_alloc_new _ _)
      have B2 := Lib.hid (below_alloc HB.out (.cells #[.int .u32 (R 0), .int .u32 (R 1), .int .u32 (R 2), .int .u32 (R 3), .int .u32 (R 4), .int .u32 (R 5), .int .u32 (R 6), .int .u32 (R 7), .int .u32 pc, .bool f.c, .bool f.p, .bool f.a, .bool f.z, .bool f.s, .bool f.o, .bool df, .int .u64 fl] 33))
      have Z9 : Hid (w.heap.size < wr.heap.size ∧ g7 < wr.heap.size) := Lib.hid ⟨RS'.out.lt, RW'.out.lt⟩
      generalize hg9 : wr.heap.size = g9 at *
      go_loopw [10] (fun i wq => ∃ (k : Nat) (R' W' : Nat → Int), k ≤ ls.length ∧ i = .int .i64 (k : Nat) ∧ (Wd R' ∧ (∀ j, j < 8 → W' j = reg8 R' j) ∧ (∀ j, j < 4 → R' j / 65536 = R j / 65536) ∧ (∀ j, 4 ≤ j → R' j = R j)) ∧ Row wq w.heap.size #[.int .u32 (R 0), .int .u32 (R 1), .int .u32 (R 2), .int .u32 (R 3), .int .u32 (R 4), .int .u32 (R 5), .int .u32 (R 6), .int .u32 (R 7), .int .u32 pc, .bool f.c, .bool f.p, .bool f.a, .bool f.z, .bool f.s, .bool f.o, .bool df, .int .u64 fl] ∧ Row wq g7 #[.int .u32 (W' 0), .int .u32 (W' 1), .int .u32 (W' 2), .int .u32 (W' 3), .int .u32 (W' 4), .int .u32 (W' 5), .int .u32 (W' 6), .int .u32 (W' 7)] ∧ Ex wq g9 #[.int .u32 (R' 0), .int .u32 (R' 1), .int .u32 (R' 2), .int .u32 (R' 3), .int .u32 (R' 4), .int .u32 (R' 5), .int .u32 (R' 6), .int .u32 (R' 7), .int .u32 pc, .bool f.c, .bool f.p, .bool f.a, .bool f.z, .bool f.s, .bool f.o, .bool df, .int .u64 fl] ∧ Below w.heap.size w wq) (fun i _ => ls.length - (intOf i).toNat)
      case atStart => exact ⟨0, R, W, by omega, rfl, ⟨HR.out, HW.out, fun _ _ => rfl, fun _ _ => rfl⟩, RS2.out, RW2.out, RT2.out, B2.out⟩
      case round =>
        clear RS2 RW2 RT2 B2 RS' RW' HB HW
        obtain ⟨k, R', W', hk, rfl, hI, RS, RW, RT, hB⟩ := hrel
        have HI := Lib.hid hI; have HB := Lib.hid hB; have HK := Lib.hid hk; clear hI hB hk
        by_cases hlt : k < ls.length
        · have l1 : (k : Int) < (ls.length : Int) := by omega
          have l2 : (k : Int) < (vs.length : Int) := by have := HNM.out; omega
          have l20 : (k : Int) < 20 := by have := HN.out; omega
          have l0 : (0 : Int) ≤ (k : Int) := by omega
          obtain ⟨lb, lo, hla, hlb, hlc⟩ := HLA.out k hlt
          obtain ⟨vb, vo, hva, hvb, hvc⟩ := HVA.out k (by have := HNM.out; omega)
          subst hla hva
          obtain ⟨x, hx⟩ : ∃ x, ls.getD k 0 = x := ⟨_, rfl⟩
          obtain ⟨y, hy⟩ : ∃ y, vs.getD k 0 = y := ⟨_, rfl⟩
          have hxb := getD_8 HLS.out k; have hyb := getD_8 HVS.out k
          rw [hx] at hlc hxb; rw [hy] at hvc hyb
          have LC : Hid (lb < w.heap.size ∧ w.cell? ⟨lb, lo + k, none⟩ = some (.int .u8 x)) := Lib.hid ⟨hlb, hlc⟩
          have VC : Hid (vb < w.heap.size ∧ w.cell? ⟨vb, vo + k, none⟩ = some (.int .u8 y)) := Lib.hid ⟨hvb, hvc⟩
          have el : wr.cell? ⟨lb, lo + k, none⟩ = some (.int .u8 x) := (HB.out.cell (p := ⟨lb, lo + k, none⟩) hlb).trans hlc
          have ev : wr.cell? ⟨vb, vo + k, none⟩ = some (.int .u8 y) := (HB.out.cell (p := ⟨vb, vo + k, none⟩) hvb).trans hvc
          obtain ⟨qN, hqN⟩ : ∃ qN : Nat, x % 8 = (qN : Int) := ⟨(x % 8).toNat, by omega⟩
          have hq8 : qN < 8 := by omega
          have hxt : x.tmod 8 = (qN : Int) := by rw [Int.tmod_eq_emod_of_nonneg hxb.1]; exact hqN
          have hxw : IntKind.i64.wrap x = x := by rw [IntKind.wrap_i64]; omega
          have hyw : IntKind.u32.wrap y = y := by rw [IntKind.wrap_u32]; omega
          have hor : bits .or .u32 y 703488 = y + 703488 := or_abc y hyb
          obtain ⟨R2, hR2⟩ : ∃ R2, set8 R' qN y = R2 := ⟨_, rfl⟩
          have HX := Lib.hid hxb; have HY := Lib.hid hyb; have HQN := Lib.hid hqN; have HQ8 := Lib.hid hq8; have HR2 := Lib.hid hR2; have HLT := Lib.hid hlt
          have RS' := Lib.hid RS; have RW' := Lib.hid RW; have RT' := Lib.hid RT
          have HLD : Hid ((loadVar 33 ⟨g9, 0, none⟩).run Try.prog wr.drew = .ok (.agg #[.int .u32 (R' 0), .int .u32 (R' 1), .int .u32 (R' 2), .int .u32 (R' 3), .int .u32 (R' 4), .int .u32 (R' 5), .int .u32 (R' 6), .int .u32 (R' 7), .int .u32 pc, .bool f.c, .bool f.p, .bool f.a, .bool f.z, .bool f.s, .bool f.o, .bool df, .int .u64 fl]) wr.drew) := Lib.hid (row_load RT'.out.drew.row)
          have HI17 : Hid ((Try.prog.info? 33).map (·.size) = some 17) := Lib.hid (by kernel_rfl)
          have B14 := Lib.hid HB.out.drew; have RS14 := Lib.hid (row_drew RS'.out); have RW14 := Lib.hid (row_drew RW'.out); have RT14 := Lib.hid RT'.out.drew
          have el14 : wr.drew.cell? ⟨lb, lo + k, none⟩ = some (.int .u8 x) := el
          have ev14 : wr.drew.cell? ⟨vb, vo + k, none⟩ = some (.int .u8 y) := ev
          clear hx hy hlb hlc hvb hvc hxb hyb hqN hq8 hR2 hlt RS RW RT
          go_wp2_with fail
          refine wp_region_still_tail 12 (by kernel_rfl) (by kernel_rfl) ?_
          simp only [List.take_succ_cons, List.take_zero, List.drop_succ_cons, List.drop_zero]
          change wpStill _ _ wr.drew _ _ _
          change wpStill _ _ wr.drew (fun a' => wpList _ _ _ _ a' wr.drew) _ _
          generalize wr.drew = V at *
          refine wpStill_load_is rfl 33 _ rfl _ rfl _ HLD.out ?_
          repeat still_step
          refine wpStill_nil ?_
          go_wp2_with (first
            | (refine Kit.wpList_store_row rfl 33 _ _ rfl g9 rfl #[.int .u32 (R2 0), .int .u32 (R2 1), .int .u32 (R2 2), .int .u32 (R2 3), .int .u32 (R2 4), .int .u32 (R2 5), .int .u32 (R2 6), .int .u32 (R2 7), .int .u32 pc, .bool f.c, .bool f.p, .bool f.a, .bool f.z, .bool f.s, .bool f.o, .bool df, .int .u64 fl] rfl 33 _ RT5.out rfl HI17.out (sa_one R2 pc f df fl) ?_)
            | (go_at_call 10; refine (SetReg8_is HI.out.1 HP.out HF.out x qN (by have := HX.out; omega) HQ8.out HQN.out (y + 703488) y (by have := HY.out; omega) (by have := HY.out; omega) HR2.out _).mono ?_; rintro e w5 ⟨rfl, hb5⟩; have RT5 := Lib.hid (RT14.out.keep hb5); have RS5 := Lib.hid (row_keep hb5 RS14.out); have RW5 := Lib.hid (row_keep hb5 RW14.out); have B5 := Lib.hid (below_then B14.out hb5); clear hb5))
          have n0 : g9 ≠ w.heap.size := by have := Z9.out; omega
          have n7 : g9 ≠ g7 := by have := Z9.out; omega
          have m0 : g7 ≠ w.heap.size := by have := Z7.out; omega
          have m9 : g7 ≠ g9 := fun e => n7 e.symm
          have RT6 := Lib.hid (RT5.out.row_ #[.int .u32 (R2 0), .int .u32 (R2 1), .int .u32 (R2 2), .int .u32 (R2 3), .int .u32 (R2 4), .int .u32 (R2 5), .int .u32 (R2 6), .int .u32 (R2 7), .int .u32 pc, .bool f.c, .bool f.p, .bool f.a, .bool f.z, .bool f.s, .bool f.o, .bool df, .int .u64 fl]).drew; have RS6 := Lib.hid (row_drew (row_setRow RS5.out n0 #[.int .u32 (R2 0), .int .u32 (R2 1), .int .u32 (R2 2), .int .u32 (R2 3), .int .u32 (R2 4), .int .u32 (R2 5), .int .u32 (R2 6), .int .u32 (R2 7), .int .u32 pc, .bool f.c, .bool f.p, .bool f.a, .bool f.z, .bool f.s, .bool f.o, .bool df, .int .u64 fl])); have RW6 := Lib.hid (row_drew (row_setRow RW5.out n7 #[.int .u32 (R2 0), .int .u32 (R2 1), .int .u32 (R2 2), .int .u32 (R2 3), .int .u32 (R2 4), .int .u32 (R2 5), .int .u32 (R2 6), .int .u32 (R2 7), .int .u32 pc, .bool f.c, .bool f.p, .bool f.a, .bool f.z, .bool f.s, .bool f.o, .bool df, .int .u64 fl])); have B6 := Lib.hid (below_setRow B5.out (by have := Z9.out; omega : w.heap.size ≤ g9) #[.int .u32 (R2 0), .int .u32 (R2 1), .int .u32 (R2 2), .int .u32 (R2 3), .int .u32 (R2 4), .int .u32 (R2 5), .int .u32 (R2 6), .int .u32 (R2 7), .int .u32 pc, .bool f.c, .bool f.p, .bool f.a, .bool f.z, .bool f.s, .bool f.o, .bool df, .int .u64 fl]).drew
          clear el14 ev14 el ev
          have el := (B6.out.cell (p := ⟨lb, lo + k, none⟩) LC.out.1).trans LC.out.2
          have ev := (B6.out.cell (p := ⟨vb, vo + k, none⟩) VC.out.1).trans VC.out.2
          have d1 := row_want RW6.out HQ8.out
          have d2 := RW6.out.free qN
          have hq8' : (qN : Int) < 8 := by have := HQ8.out; omega
          have hq0' : (0 : Int) ≤ (qN : Int) := by omega
          refine wp_region_still_tail 11 (by kernel_rfl) (by kernel_rfl) ?_
          simp only [List.take_succ_cons, List.take_zero, List.drop_succ_cons, List.drop_zero]
          change wpStill _ _ (w5.setRow g9 #[.int .u32 (R2 0), .int .u32 (R2 1), .int .u32 (R2 2), .int .u32 (R2 3), .int .u32 (R2 4), .int .u32 (R2 5), .int .u32 (R2 6), .int .u32 (R2 7), .int .u32 pc, .bool f.c, .bool f.p, .bool f.a, .bool f.z, .bool f.s, .bool f.o, .bool df, .int .u64 fl]).drew (fun a' => wpList _ _ _ _ a' (w5.setRow g9 #[.int .u32 (R2 0), .int .u32 (R2 1), .int .u32 (R2 2), .int .u32 (R2 3), .int .u32 (R2 4), .int .u32 (R2 5), .int .u32 (R2 6), .int .u32 (R2 7), .int .u32 pc, .bool f.c, .bool f.p, .bool f.a, .bool f.z, .bool f.s, .bool f.o, .bool df, .int .u64 fl]).drew) _ _
          generalize (w5.setRow g9 #[.int .u32 (R2 0), .int .u32 (R2 1), .int .u32 (R2 2), .int .u32 (R2 3), .int .u32 (R2 4), .int .u32 (R2 5), .int .u32 (R2 6), .int .u32 (R2 7), .int .u32 pc, .bool f.c, .bool f.p, .bool f.a, .bool f.z, .bool f.s, .bool f.o, .bool df, .int .u64 fl]).drew = V6 at *
          repeat still_step
          refine wpStill_nil ?_
          go_wp2_with fail
          go_roundw
          case rel =>
            refine ⟨k + 1, R2, upd W' qN y, Nat.succ_le_of_lt HLT.out, by go_num, ?_, row_set RS6.out m0 _, row_wset RW6.out HQ8.out y, RT6.out.set m9 _, below_set B6.out (by show w.heap.size ≤ g7; have := Z7.out; omega) _⟩
            have hy' : 0 ≤ y ∧ y < 256 := by have := HY.out; omega
            obtain ⟨i1, i2, i3, i4⟩ := HI.out
            obtain ⟨h1, h2⟩ := set8_high i1 HQ8.out hy'
            rw [← HR2.out]
            refine ⟨set8_bd i1 HQ8.out hy', fun j hj => ?_, fun j hj => (h1 j hj).trans (i3 j hj), fun j hj => (h2 j hj).trans (i4 j hj)⟩
            unfold upd; split
            · rename_i e; rw [e]; exact (set8_same i1 HQ8.out hy').symm
            · rename_i e; rw [set8_other i1 HQ8.out hj e hy']; exact i2 j hj
          case measure => simp [intOf]; have := HLT.out; omega
        · obtain rfl : k = ls.length := by have := HK.out; omega
          have RS8 := Lib.hid RS; have RW8 := Lib.hid RW; have RT8 := Lib.hid RT; have B8 := Lib.hid HB.out
          clear RS RW RT
          go_wp2_with fail
          go_loopw [11] (fun i wr => ∃ k : Nat, k ≤ 8 ∧ i = .int .i64 (k : Nat) ∧ Row wr w.heap.size #[.int .u32 (R 0), .int .u32 (R 1), .int .u32 (R 2), .int .u32 (R 3), .int .u32 (R 4), .int .u32 (R 5), .int .u32 (R 6), .int .u32 (R 7), .int .u32 pc, .bool f.c, .bool f.p, .bool f.a, .bool f.z, .bool f.s, .bool f.o, .bool df, .int .u64 fl] ∧ Row wr g7 #[.int .u32 (W' 0), .int .u32 (W' 1), .int .u32 (W' 2), .int .u32 (W' 3), .int .u32 (W' 4), .int .u32 (W' 5), .int .u32 (W' 6), .int .u32 (W' 7)] ∧ Ex wr g9 #[.int .u32 (R' 0), .int .u32 (R' 1), .int .u32 (R' 2), .int .u32 (R' 3), .int .u32 (R' 4), .int .u32 (R' 5), .int .u32 (R' 6), .int .u32 (R' 7), .int .u32 pc, .bool f.c, .bool f.p, .bool f.a, .bool f.z, .bool f.s, .bool f.o, .bool df, .int .u64 fl] ∧ Below w.heap.size w wr) (fun i _ => 8 - (intOf i).toNat)
          case atStart => exact ⟨0, by omega, rfl, RS8.out, RW8.out, RT8.out, B8.out⟩
          case round =>
            clear RS8 RW8 RT8 B8 HB HK
            obtain ⟨k, hk, rfl, RS, RW, RT, hB⟩ := hrel
            have RS' := Lib.hid RS; have RW' := Lib.hid RW; have RT' := Lib.hid RT; have HB := Lib.hid hB; have HK := Lib.hid hk; clear RS RW RT hB hk
            by_cases hlt : k < 8
            · have l1 : (k : Int) < 8 := by omega
              have l0 : (0 : Int) ≤ (k : Int) := by omega
              have HLT := Lib.hid hlt
              have hr : reg8 R' k = W' k := (HI.out.2.1 k hlt).symm
              have Hr := Lib.hid hr
              clear hlt hr
              go_wp2_with fail
              have K : Hid ((fun w' => (loadVar 33 ⟨g9, 0, none⟩).run Try.prog w' = .ok (.agg #[.int .u32 (R' 0), .int .u32 (R' 1), .int .u32 (R' 2), .int .u32 (R' 3), .int .u32 (R' 4), .int .u32 (R' 5), .int .u32 (R' 6), .int .u32 (R' 7), .int .u32 pc, .bool f.c, .bool f.p, .bool f.a, .bool f.z, .bool f.s, .bool f.o, .bool df, .int .u64 fl]) w' ∧ w'.cell? ⟨g7, k, none⟩ = some (.int .u32 (W' k))) wr.drew) := Lib.hid ⟨row_load RT'.out.drew.row, row_want (row_drew RW'.out) HLT.out⟩
              refine wp_region_held_drew (S := fun w' => (loadVar 33 ⟨g9, 0, none⟩).run Try.prog w' = .ok (.agg #[.int .u32 (R' 0), .int .u32 (R' 1), .int .u32 (R' 2), .int .u32 (R' 3), .int .u32 (R' 4), .int .u32 (R' 5), .int .u32 (R' 6), .int .u32 (R' 7), .int .u32 pc, .bool f.c, .bool f.p, .bool f.a, .bool f.z, .bool f.s, .bool f.o, .bool df, .int .u64 fl]) w' ∧ w'.cell? ⟨g7, k, none⟩ = some (.int .u32 (W' k))) (by kernel_rfl) K.out (fun hHeld => ?_)
              refine wpAnyH_take (i := 0) (v := .agg #[.int .u32 (R' 0), .int .u32 (R' 1), .int .u32 (R' 2), .int .u32 (R' 3), .int .u32 (R' 4), .int .u32 (R' 5), .int .u32 (R' 6), .int .u32 (R' 7), .int .u32 pc, .bool f.c, .bool f.p, .bool f.a, .bool f.z, .bool f.s, .bool f.o, .bool df, .int .u64 fl]) rfl (by kernel_rfl) (by kernel_rfl) (by kernel_rfl) (fun _ _ _ h => h) (Or.inl ⟨by rfl, ?_⟩) (by assumption) ?_
              · intro w' hSw; exact exec_load 33 (.tmp 9) rfl _ rfl _ hSw.1
              try simp only [Act.put, List.setIfInBounds_toArray, List.set_cons_zero, List.set_cons_succ]
              refine wpAnyH_take (i := 1) (v := .int .i64 (k : Int)) rfl (by kernel_rfl) (by kernel_rfl) (by kernel_rfl) (fun _ _ _ h => h) (Or.inl ⟨by rfl, ?_⟩) (by assumption) ?_
              · intro w' hSw; obtain ⟨s0, s1⟩ := hSw; clear hHeld s0; go_simp
              try simp only [Act.put, List.setIfInBounds_toArray, List.set_cons_zero, List.set_cons_succ]
              refine wpAnyH_take (i := 3) (v := .int .i64 (k : Int)) rfl (by kernel_rfl) (by kernel_rfl) (by kernel_rfl) (fun _ _ _ h => h) (Or.inl ⟨by rfl, ?_⟩) (by assumption) ?_
              · intro w' hSw; obtain ⟨s0, s1⟩ := hSw; clear hHeld s0; go_simp
              try simp only [Act.put, List.setIfInBounds_toArray, List.set_cons_zero, List.set_cons_succ]
              refine wpAnyH_take (i := 4) (v := .pointer (some ⟨g7, k, none⟩)) rfl (by kernel_rfl) (by kernel_rfl) (by kernel_rfl) (fun _ _ _ h => h) (Or.inl ⟨by rfl, ?_⟩) (by assumption) ?_
              · intro w' hSw; obtain ⟨s0, s1⟩ := hSw; clear hHeld s0; go_simp
              try simp only [Act.put, List.setIfInBounds_toArray, List.set_cons_zero, List.set_cons_succ]
              refine wpAnyH_take (i := 5) (v := .int .u32 (W' k)) rfl (by kernel_rfl) (by kernel_rfl) (by kernel_rfl) (fun _ _ _ h => h) (Or.inl ⟨by rfl, ?_⟩) (by assumption) ?_
              · intro w' hSw; obtain ⟨s0, s1⟩ := hSw; clear hHeld s0; go_simp
              try simp only [Act.put, List.setIfInBounds_toArray, List.set_cons_zero, List.set_cons_succ]
              refine wpAnyH_ready (rs := [2]) (by kernel_rfl) (by simp) ?_
              refine AllReadyH.cons (o := _) rfl (fun K' hK => ?_) AllReadyH.nil
              go_simp
              refine (Reg8_is HI.out.1 HP.out HF.out (k : Int) k (by have := HLT.out; omega) HLT.out (by have := HLT.out; omega) Hr.out _).mono ?_
              rintro e w5 ⟨rfl, hb5⟩
              have RT5 := Lib.hid (RT'.out.drew.keep hb5); have RS5 := Lib.hid (row_keep hb5 (row_drew RS'.out)); have RW5 := Lib.hid (row_keep hb5 (row_drew RW'.out)); have B5 := Lib.hid (below_then HB.out.drew hb5)
              have K1 : (fun w' => (loadVar 33 ⟨g9, 0, none⟩).run Try.prog w' = .ok (.agg #[.int .u32 (R' 0), .int .u32 (R' 1), .int .u32 (R' 2), .int .u32 (R' 3), .int .u32 (R' 4), .int .u32 (R' 5), .int .u32 (R' 6), .int .u32 (R' 7), .int .u32 pc, .bool f.c, .bool f.p, .bool f.a, .bool f.z, .bool f.s, .bool f.o, .bool df, .int .u64 fl]) w' ∧ w'.cell? ⟨g7, k, none⟩ = some (.int .u32 (W' k))) w5 := ⟨row_load RT5.out.row, row_want RW5.out HLT.out⟩
              clear hb5 hHeld
              refine hK.out _ _ K1 (fun hHeld => ?_)
              clear hK K'
              try simp only [Act.put, List.setIfInBounds_toArray, List.set_cons_zero, List.set_cons_succ]
              refine wpAnyH_take (i := 6) (v := .bool false) rfl (by kernel_rfl) (by kernel_rfl) (by kernel_rfl) (fun _ _ _ h => h) (Or.inl ⟨by rfl, ?_⟩) (by assumption) ?_
              · intro w' hSw; obtain ⟨s0, s1⟩ := hSw; clear hHeld s0; go_simp
              try simp only [Act.put, List.setIfInBounds_toArray, List.set_cons_zero, List.set_cons_succ]
              refine wpAnyH_done (by kernel_rfl) ?_ _
              clear hHeld K1 K
              go_wp2_with fail
              go_roundw
              case rel => exact ⟨k + 1, Nat.succ_le_of_lt HLT.out, by go_num, RS5.out, RW5.out, RT5.out, B5.out⟩
              case measure => simp [intOf]; have := HLT.out; omega
            · obtain rfl : k = 8 := by have := HK.out; omega
              go_wp2_with fail
              go_loopw [12] (fun i wr => ∃ k : Nat, k ≤ 4 ∧ i = .int .i64 (k : Nat) ∧ Row wr w.heap.size #[.int .u32 (R 0), .int .u32 (R 1), .int .u32 (R 2), .int .u32 (R 3), .int .u32 (R 4), .int .u32 (R 5), .int .u32 (R 6), .int .u32 (R 7), .int .u32 pc, .bool f.c, .bool f.p, .bool f.a, .bool f.z, .bool f.s, .bool f.o, .bool df, .int .u64 fl] ∧ Ex wr g9 #[.int .u32 (R' 0), .int .u32 (R' 1), .int .u32 (R' 2), .int .u32 (R' 3), .int .u32 (R' 4), .int .u32 (R' 5), .int .u32 (R' 6), .int .u32 (R' 7), .int .u32 pc, .bool f.c, .bool f.p, .bool f.a, .bool f.z, .bool f.s, .bool f.o, .bool df, .int .u64 fl] ∧ Below w.heap.size w wr) (fun i _ => 4 - (intOf i).toNat)
              case atStart => exact ⟨0, by omega, rfl, RS'.out, RT'.out, HB.out⟩
              case round =>
                clear RS' RW' RT' HB HK
                obtain ⟨k, hk, rfl, RS, RT, hB⟩ := hrel
                have RS' := Lib.hid RS; have RT' := Lib.hid RT; have HB := Lib.hid hB; have HK := Lib.hid hk; clear RS RT hB hk
                by_cases hlt : k < 4
                · have l1 : (k : Int) < 4 := by omega
                  have l1' : (k : Int) < 8 := by omega
                  have l0 : (0 : Int) ≤ (k : Int) := by omega
                  have l2 : (k : Int) + 4 < 8 := by omega
                  have l3 : (0 : Int) ≤ (k : Int) + 4 := by omega
                  have l4 : ((k : Int) + 4).toNat = k + 4 := by omega
                  have HLT := Lib.hid hlt
                  have s1 := row_reg RS'.out (show k < 8 by omega)
                  have t1 := row_reg RT'.out.row (show k < 8 by omega)
                  have s2 := row_reg RS'.out (show k + 4 < 8 by omega)
                  have t2 := row_reg RT'.out.row (show k + 4 < 8 by omega)
                  have e1 : (R' k / 65536 != R k / 65536) = false := by rw [HI.out.2.2.1 k hlt]; simp
                  have e2 : (R' (k + 4) != R (k + 4)) = false := by rw [HI.out.2.2.2 (k + 4) (by omega)]; simp
                  have hb : ∀ p q : Bool, (p != q) = !(p == q) := fun _ _ => rfl
                  clear hlt
                  go_wp2_with fail
                  go_quiet (fail)
                  rename_i nq _
                  go_wp2_with fail
                  go_roundw
                  case rel => exact ⟨k + 1, Nat.succ_le_of_lt HLT.out, by go_num, ⟨RS'.out.lt, RS'.out.cell, RS'.out.free⟩, RT'.out, HB.out.trans ⟨rfl, rfl, rfl, Nat.le_refl _, fun _ _ => rfl⟩⟩
                  case measure => simp [intOf]; have := HLT.out; omega
                · obtain rfl : k = 4 := by have := HK.out; omega
                  obtain ⟨a0, a1, a2, a3, a4, a5, a6, a7, a8, a9, a10, a11, a12, a13, a14, a15, a16⟩ := row17 RS'.out
                  obtain ⟨b0, b1, b2, b3, b4, b5, b6, b7, b8, b9, b10, b11, b12, b13, b14, b15, b16⟩ := row17 RT'.out.row
                  have hb : ∀ b : Bool, (b == b) = true := fun b => by simp
                  go_wp2_with fail
                  go_ret
                  exact ⟨rfl, HB.out⟩

set_option maxHeartbeats 2000000 in
theorem bytes_none (w : World) (A : Array Value) (la va : Option Addr) (n m lc vc : Nat) (hA : A.size = 17) (h : 20 < n ∨ (n ≤ 20 ∧ m < n)) :
    Calls Try.prog 4 #[.agg A, .slice la n lc, .slice va m vc] w fun e w' => e = .returned (.bool true) ∧ Below w.heap.size w w' := by
  have hkn : ksKnown = true := rfl
  rcases h with h | ⟨h1, h2⟩
  · have d20 : (20 : Int) < (n : Int) := by omega
    clear h
    go_enter Try.func4, Try.ntmps4
    go_wp2_with fail
    refine (ks_known _).mono ?_; rintro e v0 ⟨rfl, hb0⟩
    have B0 : Below w.heap.size w v0 := below_then (by repeat (first | exact below_refl _ | apply below_alloc | apply below_drew)) hb0
    clear hb0
    go_wp2_with fail
    go_ret
    exact ⟨rfl, B0⟩
  · have d20 : decide ((20 : Int) < (n : Int)) = false := decide_eq_false (by omega)
    have dnm : (m : Int) < (n : Int) := by omega
    clear h1
    go_enter Try.func4, Try.ntmps4
    go_wp2_with fail
    refine (ks_known _).mono ?_; rintro e v0 ⟨rfl, hb0⟩
    have B0 : Below w.heap.size w v0 := below_then (by repeat (first | exact below_refl _ | apply below_alloc | apply below_drew)) hb0
    clear hb0
    go_wp2_with fail
    go_ret
    exact ⟨rfl, B0⟩

theorem StateBytes_walk (w : World) (r0 r1 r2 r3 r4 r5 r6 r7 pc : Int) (fc fp fa fz fs fo df : Bool) (fl : Int) (v1 : Value) (ls : List Int) (v2 : Value) (vs : List Int)
    (w0 : (0 ≤ r0 ∧ r0 ≤ 4294967295) ∧ (0 ≤ r1 ∧ r1 ≤ 4294967295) ∧ (0 ≤ r2 ∧ r2 ≤ 4294967295) ∧ (0 ≤ r3 ∧ r3 ≤ 4294967295) ∧ (0 ≤ r4 ∧ r4 ≤ 4294967295) ∧ (0 ≤ r5 ∧ r5 ≤ 4294967295) ∧ (0 ≤ r6 ∧ r6 ≤ 4294967295) ∧ (0 ≤ r7 ∧ r7 ≤ 4294967295) ∧ (0 ≤ pc ∧ pc ≤ 4294967295) ∧ (0 ≤ fl ∧ fl ≤ 18446744073709551615))
    (w1 : ∃ a cap, v1 = .slice a ls.length cap ∧ (∀ i, i < ls.length → ∃ b o, a = some ⟨b, o, none⟩ ∧ b < w.heap.size ∧ w.cell? ⟨b, o + i, none⟩ = some (.int .u8 (ls.getD i 0))) ∧ ∀ x ∈ ls, 0 ≤ x ∧ x ≤ 255)
    (w2 : ∃ a cap, v2 = .slice a vs.length cap ∧ (∀ i, i < vs.length → ∃ b o, a = some ⟨b, o, none⟩ ∧ b < w.heap.size ∧ w.cell? ⟨b, o + i, none⟩ = some (.int .u8 (vs.getD i 0))) ∧ ∀ x ∈ vs, 0 ≤ x ∧ x ≤ 255) :
    Calls Try.prog 4 #[.agg #[.int .u32 r0, .int .u32 r1, .int .u32 r2, .int .u32 r3, .int .u32 r4, .int .u32 r5, .int .u32 r6, .int .u32 r7, .int .u32 pc, .bool fc, .bool fp, .bool fa, .bool fz, .bool fs, .bool fo, .bool df, .int .u64 fl], v1, v2] w fun e w' => e = .returned (.bool true) ∧ Below w.heap.size w w' := by
  obtain ⟨la, lc, rfl, hla, hls⟩ := w1
  obtain ⟨va, vc, rfl, hva, hvs⟩ := w2
  obtain ⟨b0, b1, b2, b3, b4, b5, b6, b7, bp, bf⟩ := w0
  by_cases h : 20 < ls.length ∨ (ls.length ≤ 20 ∧ vs.length < ls.length)
  · exact bytes_none w _ la va ls.length vs.length lc vc rfl h
  · have h1 : ls.length ≤ 20 := by omega
    have h2 : ls.length ≤ vs.length := by omega
    exact bytes_main w (fun i => [r0, r1, r2, r3, r4, r5, r6, r7].getD i 0) pc ⟨fc, fp, fa, fz, fs, fo⟩ df fl la va ls vs lc vc (fun i hi => by
      have : i = 0 ∨ i = 1 ∨ i = 2 ∨ i = 3 ∨ i = 4 ∨ i = 5 ∨ i = 6 ∨ i = 7 := by omega
      rcases this with rfl | rfl | rfl | rfl | rfl | rfl | rfl | rfl <;> assumption) bp bf hla hva hls hvs h1 h2

end Go.Proofs.Ytndfcpkmchjncaa
