/-
  Plain laws for layer 7's functions.
-/
import Derived.Test.YtjdjjhjehlnjaaaDig
import Derived.Laws.BitsLemmas
namespace Go.Sx
set_option linter.unusedVariables false

theorem typed_cons {k : RK} {ks : List RK} {vs : List Value} (h : TypedCells (k :: ks) vs) : ∃ v vs', vs = v :: vs' ∧ k.is v ∧ TypedCells ks vs' := by
  cases vs with
  | nil => exact h.elim
  | cons v vs => exact ⟨v, vs, rfl, h.1, h.2⟩
theorem typed_nil {vs : List Value} (h : TypedCells [] vs) : vs = [] := by
  cases vs with
  | nil => rfl
  | cons v vs => exact h.elim
theorem modE8 (a : Int) : ibin .rem .i64 (ibin .add .i64 (ibin .rem .i64 a 8) 8) 8 = a % 8 := by
  have h1 := Int.lt_tmod_of_pos a (b := 8) (by decide)
  have h2 := Int.tmod_lt_of_pos a (b := 8) (by decide)
  have h3 := Int.tmod_def a 8
  simp only [ibin, IntKind.wrap_i64]
  generalize a.tdiv 8 = q at h3
  generalize a.tmod 8 = t at *
  rw [Int.tmod_eq_emod_of_nonneg (by omega)]
  omega
theorem modE7 (a : Int) : ibin .rem .i64 (ibin .add .i64 (ibin .rem .i64 a 7) 7) 7 = a % 7 := by
  have h1 := Int.lt_tmod_of_pos a (b := 7) (by decide)
  have h2 := Int.tmod_lt_of_pos a (b := 7) (by decide)
  have h3 := Int.tmod_def a 7
  simp only [ibin, IntKind.wrap_i64]
  generalize a.tdiv 7 = q at h3
  generalize a.tmod 7 = t at *
  rw [Int.tmod_eq_emod_of_nonneg (by omega)]
  omega
theorem modE16 (a : Int) : ibin .rem .i64 (ibin .add .i64 (ibin .rem .i64 a 16) 16) 16 = a % 16 := by
  have h1 := Int.lt_tmod_of_pos a (b := 16) (by decide)
  have h2 := Int.tmod_lt_of_pos a (b := 16) (by decide)
  have h3 := Int.tmod_def a 16
  simp only [ibin, IntKind.wrap_i64]
  generalize a.tdiv 16 = q at h3
  generalize a.tmod 16 = t at *
  rw [Int.tmod_eq_emod_of_nonneg (by omega)]
  omega
theorem and15 (a : Int) : ibin .and .i64 a 15 = a % 16 := by
  have hb : (BitVec.ofInt 64 15).toNat = 2 ^ 4 - 1 := by decide
  have e : ((BitVec.ofInt 64 a) &&& (BitVec.ofInt 64 15)).toNat = (a % 18446744073709551616).toNat % 16 := by
    rw [BitVec.toNat_and, hb, Nat.and_two_pow_sub_one_eq_mod, BitVec.toNat_ofInt]
    rfl
  show IntKind.i64.wrap (((BitVec.ofInt 64 a) &&& (BitVec.ofInt 64 15)).toNat : Int) = _
  rw [e, IntKind.wrap_i64]
  omega
theorem and7 (a : Int) : ibin .and .i64 a 7 = a % 8 := by
  have hb : (BitVec.ofInt 64 7).toNat = 2 ^ 3 - 1 := by decide
  have e : ((BitVec.ofInt 64 a) &&& (BitVec.ofInt 64 7)).toNat = (a % 18446744073709551616).toNat % 8 := by
    rw [BitVec.toNat_and, hb, Nat.and_two_pow_sub_one_eq_mod, BitVec.toNat_ofInt]
    rfl
  show IntKind.i64.wrap (((BitVec.ofInt 64 a) &&& (BitVec.ofInt 64 7)).toNat : Int) = _
  rw [e, IntKind.wrap_i64]
  omega
theorem and1 (a : Int) : ibin .and .i64 a 1 = a % 2 := by
  have hb : (BitVec.ofInt 64 1).toNat = 2 ^ 1 - 1 := by decide
  have e : ((BitVec.ofInt 64 a) &&& (BitVec.ofInt 64 1)).toNat = (a % 18446744073709551616).toNat % 2 := by
    rw [BitVec.toNat_and, hb, Nat.and_two_pow_sub_one_eq_mod, BitVec.toNat_ofInt]
    rfl
  show IntKind.i64.wrap (((BitVec.ofInt 64 a) &&& (BitVec.ofInt 64 1)).toNat : Int) = _
  rw [e, IntKind.wrap_i64]
  omega
theorem calls_bool {P : Program} {f : Nat} {vs : Array Value} {w : World} {x y : Bool} (h : Calls P f vs w fun e w' => e = .returned (.bool x) ∧ RowKit.Below w.heap.size w w') (e : x = y) :
    Calls P f vs w fun e w' => e = .returned (.bool y) ∧ RowKit.Below w.heap.size w w' := e ▸ h
theorem calls_int {P : Program} {f : Nat} {vs : Array Value} {w : World} {k : IntKind} {x y : Int} (h : Calls P f vs w fun e w' => e = .returned (.int k x) ∧ RowKit.Below w.heap.size w w') (e : x = y) :
    Calls P f vs w fun e w' => e = .returned (.int k y) ∧ RowKit.Below w.heap.size w w' := e ▸ h
end Go.Sx
