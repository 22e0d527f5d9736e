/-
  The document's digits: a number's decimal text, by the walk of its loop.
-/
import Derived.Lib.ItoaNum
import Derived.Lib.ItoaLen
import Derived.Test.YtahhfjmgdalfpaaDoorRows
import Derived.WalkKit
import Derived.ProofKit
import Derived.OpenShut
import Derived.Lib.Hide
import Derived.Below
import Derived.Deep.QuietTactic
import Derived.Deep.RegionWith
import Derived.Laws.IdiomStrings
import Derived.Laws.Rows
namespace Go.Proofs.YtahhfjmgdalfpaaDoor
open Go.ChangeShapes Go.WideShapes Go.ChangeAt Go.RowKit
set_option linter.unusedVariables false
set_option maxRecDepth 100000

theorem dec_step (m : Nat) (t : List UInt8) (h : 10 ≤ m) : Lib.decDigits m ++ t = Lib.decDigits (m / 10) ++ (UInt8.ofNat (48 + m % 10) :: t) := by
  rw [Lib.decDigits, dif_neg (by omega)]
  simp
theorem dec_last (m : Nat) (t : List UInt8) (h : m < 10) : Lib.decDigits m ++ t = UInt8.ofNat (48 + m % 10) :: t := by
  rw [Lib.decDigits, dif_pos h]
  simp [Nat.mod_eq_of_lt h]

section
variable {P : Program} {ops : Array Oper} {rest : List Oper} {o : Oper} {a : Act} {w : World} {Q : Exit → Act → World → Prop}
/-- a slice of one byte -/
theorem run_buildSlice1 {t e : TypeId} (ht : P.underlying t = some (.slice e)) {i : TypeInfo} (hi : P.info? e = some i) (hs : i.size = 1) (hz : i.zero = some (.int .u8 0)) (x : Int) (w : World) :
    (Instr.buildSlice t 1 #[(0, .int .u8 x)]).run P w = .ok (.slice (some ⟨w.heap.size, 0, none⟩) 1 1) (w.alloc (.cells #[.int .u8 x] e)) := by
  have es : (sizeOf e).run P w = .ok 1 w := by simp [sizeOf, typeInfo, hi, hs]
  have ez : (zeroValue e).run P w = .ok (.int .u8 0) w := by simp [zeroValue, typeInfo, hi, hz]
  have h24 : ¬ ((1 : Nat) * 1 > 2 ^ 24) := by decide
  have h1 : ¬ ((1 : Nat) * 1 = 0) := by decide
  unfold Instr.buildSlice
  simp only [Sem.run_bind, Sem.run_pure, run_underlying ht, Result.andThen_ok, es, if_neg h24, if_neg h1, ez]
  have hf : Instr.fill (fun i => some (i * 1, 1)) (Array.map (fun x => (Value.int IntKind.u8 0).cells[x % (Value.int IntKind.u8 0).cells.size]!) (Array.range (1 * 1))) [(0, Value.int IntKind.u8 x)] = some #[.int .u8 x] := by
    have hr : Array.range (1 * 1) = #[0] := by decide
    rw [hr]
    simp [Instr.fill, Value.cells]
  rw [hf]
  simp [newRow]
theorem wpList_bs (hgd : o.guard = none) (t : TypeId) (x : Operand) (ho : o.op = .buildSlice t 1 #[(0, x)]) (v : Int) (hx : a.eval x = .int .u8 v) {e : TypeId} (ht : P.underlying t = some (.slice e)) {i : TypeInfo} (hi : P.info? e = some i) (hs : i.size = 1)
    (hz : i.zero = some (.int .u8 0))
    (h : wpList P ops Q rest (a.put o.dst (.slice (some ⟨w.heap.size, 0, none⟩) 1 1)) (w.alloc (.cells #[.int .u8 v] e))) : wpList P ops Q (o :: rest) a w :=
  wpList_plain hgd fun K hK => by
    unfold Oper.wp execOp
    have e1 : (#[(0, x)] : Array (Nat × Operand)).map (fun (i, x) => (i, a.eval x)) = #[(0, .int .u8 v)] := by simp [hx]
    simp only [ho, e1, Sem.run_bind, Sem.run_pure, run_buildSlice1 ht hi hs hz, Result.andThen_ok]
    exact hK _ _ h
theorem cell_new (w : World) (v : Value) (e : TypeId) : (w.alloc (.cells #[v] e)).cell? ⟨w.heap.size, 0, none⟩ = some v := by
  simp
theorem wpList_cv (hgd : o.guard = none) (src dst : TypeId) (x : Operand) (ho : o.op = .convert src dst x) {g : Nat} {v : Int} {b : UInt8} (hx : a.eval x = .slice (some ⟨g, 0, none⟩) 1 1) (hc : w.cell? ⟨g, 0, none⟩ = some (.int .u8 v)) (hv : v = (b.toNat : Int))
    {e : TypeId} (hs : P.underlying src = some (.slice e)) (he : P.underlying e = some (.int .u8)) (hd : P.underlying dst = some .string)
    (h : wpList P ops Q rest (a.put o.dst (.string ⟨#[b]⟩)) w) : wpList P ops Q (o :: rest) a w :=
  wpList_plain hgd fun K hK => by
    unfold Oper.wp execOp
    have r := run_convert_bytes_back (P := P) w src dst e ⟨g, 0, none⟩ 1 [b] hs he hd (fun j hj => by
      have : j = 0 := by simp at hj; omega
      subst this
      show w.cell? ⟨g, 0 + 0, none⟩ = _
      rw [Nat.zero_add, hc, hv]; rfl)
    have r' : (convert src dst (.slice (some ⟨g, 0, none⟩) 1 1)).run P w = .ok (.string ⟨#[b]⟩) w := r
    simp only [ho, hx, Sem.run_bind, Sem.run_pure, r', Result.andThen_ok]
    exact hK _ _ h
end

theorem ba_cons (b : UInt8) (t : List UInt8) : (⟨#[b]⟩ : ByteArray) ++ ⟨t.toArray⟩ = ⟨(b :: t).toArray⟩ := by
  apply ByteArray.ext
  simp
theorem ba_nil (t : List UInt8) : (⟨#[]⟩ : ByteArray) ++ ⟨t.toArray⟩ = ⟨t.toArray⟩ := by
  apply ByteArray.ext
  simp
theorem b48 (c : Nat) : UInt8.ofNat (48 + c) = 48 + UInt8.ofNat c := by simp [UInt8.ofNat_add]
theorem neg_last (k : Nat) (t : List UInt8) (N : Int) (hN : N < 0) (h : k / 10 = 0) (hd : Lib.decDigits N.natAbs = Lib.decDigits k ++ t) :
    (⟨#[45]⟩ : ByteArray) ++ ((⟨#[48 + UInt8.ofNat (k % 10)]⟩ : ByteArray) ++ ⟨t.toArray⟩) = ⟨(Lib.itoa N).toArray⟩ := by
  rw [ba_cons, ba_cons, ← b48, ← dec_last k t (by omega), ← hd]
  unfold Lib.itoa
  rw [if_pos hN]
theorem pos_last (k : Nat) (t : List UInt8) (N : Int) (hN : ¬ N < 0) (h : k / 10 = 0) (hd : Lib.decDigits N.natAbs = Lib.decDigits k ++ t) :
    (⟨#[]⟩ : ByteArray) ++ ((⟨#[48 + UInt8.ofNat (k % 10)]⟩ : ByteArray) ++ ⟨t.toArray⟩) = ⟨(Lib.itoa N).toArray⟩ := by
  rw [ba_cons, ba_nil, ← b48, ← dec_last k t (by omega), ← hd]
  unfold Lib.itoa
  rw [if_neg hN]
  congr 3
  omega
theorem more_step (k : Nat) (t : List UInt8) (h : ¬ k / 10 = 0) : Lib.decDigits k ++ t = Lib.decDigits (k / 10) ++ ((48 + UInt8.ofNat (k % 10)) :: t) := by
  rw [dec_step k t (by omega), b48]

set_option maxHeartbeats 800000 in
theorem ref3_digits (N : Int) (h0 : -9223372036854775808 ≤ N) (h1 : N ≤ 9223372036854775807) (w : World) :
    Calls Tryd.prog 31 #[.int .i64 N] w fun e w' => e = .returned (.string ⟨(Lib.itoa N).toArray⟩) ∧ Below w.heap.size w w' := by
  have ty72 : Tryd.prog.underlying 72 = some (.slice 5) := by kernel_rfl
  have ty5 : Tryd.prog.underlying 5 = some (.int .u8) := by kernel_rfl
  have ty9 : Tryd.prog.underlying 9 = some .string := by kernel_rfl
  obtain ⟨i5, hi5, hs5, hz5⟩ : ∃ i, Tryd.prog.info? 5 = some i ∧ i.size = 1 ∧ i.zero = some (.int .u8 0) := by
    have h1 : (Tryd.prog.info? 5).map (·.size) = some 1 := by kernel_rfl
    have h2 : (Tryd.prog.info? 5).map (·.zero) = some (some (.int .u8 0)) := by kernel_rfl
    cases h : Tryd.prog.info? 5 with
    | none => rw [h] at h1; cases h1
    | some i => rw [h] at h1 h2; exact ⟨i, rfl, Option.some.inj h1, Option.some.inj h2⟩
  by_cases hn : N < 0
  · go_enter Tryd.func31, Tryd.ntmps31
    go_wp2
    go_loopw [0, 4] (fun n s wr => ∃ (m : Int) (t : List UInt8), n = .int .i64 m ∧ s = .string ⟨t.toArray⟩ ∧ Below w.heap.size w wr ∧ m ≤ 0 ∧ -9223372036854775808 ≤ m ∧ (m = 0 → N = 0) ∧ Lib.decDigits N.natAbs = Lib.decDigits m.natAbs ++ t) (fun n _ _ => (intOf n).natAbs)
    case atStart => exact ⟨N, [], rfl, rfl, Below.refl _ _, by omega, h0, fun h => h, by simp⟩
    case round =>
      obtain ⟨m, t, rfl, rfl, hb, m0, m1, hz, hd⟩ := hrel
      obtain ⟨k, rfl⟩ : ∃ k : Nat, m = -(k : Int) := ⟨m.natAbs, by omega⟩
      have ek : (-(k : Int)).natAbs = k := by omega
      rw [ek] at hd
      have e1 : (-(k : Int)).tmod 10 = -((k % 10 : Nat) : Int) := by rw [Int.neg_tmod]; exact congrArg Neg.neg (Int.ofNat_tmod k 10).symm
      have e2 : (-(k : Int)).tdiv 10 = -((k / 10 : Nat) : Int) := by rw [Int.neg_tdiv]; exact congrArg Neg.neg (Int.ofNat_tdiv k 10).symm
      have hl : t.length ≤ 20 := by
        have := congrArg List.length hd
        rw [List.length_append, Lib.decDigits_length] at this
        have := Lib.nDigits_le20 N.natAbs (by omega)
        omega
      obtain ⟨c, hc⟩ : ∃ c, c = k % 10 := ⟨_, rfl⟩
      obtain ⟨q, hq⟩ : ∃ q, q = k / 10 := ⟨_, rfl⟩
      rw [← hc] at e1
      rw [← hq] at e2
      have hc9 : c ≤ 9 := by omega
      have hb8 : ((UInt8.ofNat (48 + c)).toNat : Int) = 48 + c := by
        have : (UInt8.ofNat (48 + c)).toNat = 48 + c := by rw [UInt8.toNat_ofNat']; omega
        rw [this]; omega
      by_cases hk : q = 0
      · by_cases hr : c = 0
        · exfalso; omega
        · go_wp2_with (first | (refine wpList_bs rfl _ _ rfl _ rfl ty72 hi5 hs5 hz5 ?_) | (refine wpList_cv (b := UInt8.ofNat (48 + c)) rfl _ _ _ rfl rfl (cell_new _ _ _) (by rw [hb8]; omega) ty72 ty5 ty9 ?_))
          go_ret
          exact ⟨by rw [neg_last k t N hn (by omega) hd]; rfl, hb.alloc hb.size _⟩

      · by_cases hr : c = 0
        · go_wp2_with (first | (refine wpList_bs rfl _ _ rfl _ rfl ty72 hi5 hs5 hz5 ?_) | (refine wpList_cv (b := UInt8.ofNat (48 + c)) rfl _ _ _ rfl rfl (cell_new _ _ _) (by rw [hb8]; omega) ty72 ty5 ty9 ?_))
          refine ⟨⟨_, _, rfl, by rw [ba_cons], hb.alloc hb.size _, by omega, by omega, fun h => by omega, ?_⟩, ?_⟩
          · have e : (-((k : Int) / 10)).natAbs = k / 10 := by omega
            rw [hd, e]; exact more_step k t (by omega)
          · simp [intOf]; omega

        · go_wp2_with (first | (refine wpList_bs rfl _ _ rfl _ rfl ty72 hi5 hs5 hz5 ?_) | (refine wpList_cv (b := UInt8.ofNat (48 + c)) rfl _ _ _ rfl rfl (cell_new _ _ _) (by rw [hb8]; omega) ty72 ty5 ty9 ?_))
          refine ⟨⟨_, _, rfl, by rw [ba_cons], hb.alloc hb.size _, by omega, by omega, fun h => by omega, ?_⟩, ?_⟩
          · have e : (-((k : Int) / 10)).natAbs = k / 10 := by omega
            rw [hd, e]; exact more_step k t (by omega)
          · simp [intOf]; omega

  · go_enter Tryd.func31, Tryd.ntmps31
    go_wp2
    go_loopw [0, 4] (fun n s wr => ∃ (m : Int) (t : List UInt8), n = .int .i64 m ∧ s = .string ⟨t.toArray⟩ ∧ Below w.heap.size w wr ∧ 0 ≤ m ∧ m ≤ 9223372036854775807 ∧ (m = 0 → N = 0) ∧ Lib.decDigits N.natAbs = Lib.decDigits m.natAbs ++ t) (fun n _ _ => (intOf n).natAbs)
    case atStart => exact ⟨N, [], rfl, rfl, Below.refl _ _, by omega, h1, fun h => h, by simp⟩
    case round =>
      obtain ⟨m, t, rfl, rfl, hb, m0, m1, hz, hd⟩ := hrel
      obtain ⟨k, rfl⟩ : ∃ k : Nat, m = (k : Int) := ⟨m.natAbs, by omega⟩
      have ek : ((k : Int)).natAbs = k := by omega
      rw [ek] at hd
      have e1 : (k : Int).tmod 10 = ((k % 10 : Nat) : Int) := (Int.ofNat_tmod k 10).symm
      have e2 : (k : Int).tdiv 10 = ((k / 10 : Nat) : Int) := (Int.ofNat_tdiv k 10).symm
      have hl : t.length ≤ 20 := by
        have := congrArg List.length hd
        rw [List.length_append, Lib.decDigits_length] at this
        have := Lib.nDigits_le20 N.natAbs (by omega)
        omega
      obtain ⟨c, hc⟩ : ∃ c, c = k % 10 := ⟨_, rfl⟩
      obtain ⟨q, hq⟩ : ∃ q, q = k / 10 := ⟨_, rfl⟩
      rw [← hc] at e1
      rw [← hq] at e2
      have hc9 : c ≤ 9 := by omega
      have hb8 : ((UInt8.ofNat (48 + c)).toNat : Int) = 48 + c := by
        have : (UInt8.ofNat (48 + c)).toNat = 48 + c := by rw [UInt8.toNat_ofNat']; omega
        rw [this]; omega
      by_cases hk : q = 0
      · go_wp2_with (first | (refine wpList_bs rfl _ _ rfl _ rfl ty72 hi5 hs5 hz5 ?_) | (refine wpList_cv (b := UInt8.ofNat (48 + c)) rfl _ _ _ rfl rfl (cell_new _ _ _) (by rw [hb8]; omega) ty72 ty5 ty9 ?_))
        go_ret
        exact ⟨by rw [pos_last k t N (by omega) (by omega) hd]; rfl, hb.alloc hb.size _⟩
      · go_wp2_with (first | (refine wpList_bs rfl _ _ rfl _ rfl ty72 hi5 hs5 hz5 ?_) | (refine wpList_cv (b := UInt8.ofNat (48 + c)) rfl _ _ _ rfl rfl (cell_new _ _ _) (by rw [hb8]; omega) ty72 ty5 ty9 ?_))
        refine ⟨⟨_, _, rfl, by rw [ba_cons], hb.alloc hb.size _, by omega, by omega, fun h => by omega, ?_⟩, ?_⟩
        · have e : ((k : Int) / 10).natAbs = k / 10 := by omega
          rw [hd, e]; exact more_step k t (by omega)
        · simp [intOf]; omega
end Go.Proofs.YtahhfjmgdalfpaaDoor
