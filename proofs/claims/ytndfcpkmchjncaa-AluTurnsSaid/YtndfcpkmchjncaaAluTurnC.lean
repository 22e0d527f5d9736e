/- One contract for all shifts and turns; single steps and one of as many. -/
import Derived.Test.YtndfcpkmchjncaaAluShift
import Derived.Test.YtndfcpkmchjncaaAluTurnM
namespace Go.Proofs.Ytndfcpkmchjncaa
open Go.ChangeShapes Go.WideShapes Go.ChangeAt Go.RowKit
set_option linter.unusedVariables false
set_option linter.unusedSimpArgs false

structure F6 where
  c : Bool
  p : Bool
  a : Bool
  z : Bool
  s : Bool
  o : Bool
def F6.v (f : F6) : Value := .agg #[.bool f.c, .bool f.p, .bool f.a, .bool f.z, .bool f.s, .bool f.o]
def IsOp (op : Int) : Prop := op = 21 ∨ op = 22 ∨ op = 23 ∨ op = 24 ∨ op = 25
def shv (op a k : Int) : Int := if k = 0 then a else if op = 21 then rolR a k else if op = 22 then rorR a k else if op = 23 then shlR a k else if op = 24 then shrR a k else sarR a k
def shc (op a k : Int) : Bool := if op = 21 then bt (rolR a k) 0 else if op = 22 then bt (rorR a k) 31 else if op = 23 then bt a (32 - k) else if op = 24 then bt a (k - 1) else bt a (k - 1)
def sho (op a : Int) : Bool := if op = 21 then (bt (rolR a 1) 31 != bt (rolR a 1) 0) else if op = 22 then (bt (rorR a 1) 31 != bt (rorR a 1) 30) else if op = 23 then (bt (shlR a 1) 31 != bt a (32 - 1)) else if op = 24 then (bt a 31) else (false)
def shf (op a k : Int) (f : F6) : F6 :=
  if k = 0 then f else ⟨shc op a k, if 22 < op then par (shv op a k) else f.p, f.a, if 22 < op then shv op a k == 0 else f.z, if 22 < op then shv op a k / 2147483648 == 1 else f.s, if k = 1 then sho op a else f.o⟩

set_option maxHeartbeats 1000000 in
theorem shift_is (op a n k : Int) (f : F6) (ho : IsOp op) (ha : 0 ≤ a ∧ a < 4294967296) (hn : 0 ≤ n ∧ n < 4294967296) (hkn : n % 32 = k) (w : World) :
    Calls Try.prog 7 #[.int .i64 op, .int .u32 a, .int .u32 n, f.v] w fun e w' => e = .returned (.tuple #[.int .u32 (shv op a k), (shf op a k f).v]) ∧ Below w.heap.size w w' := by
  obtain ⟨c, p, x, z, s, o⟩ := f
  by_cases h0 : k = 0
  · subst h0
    have h := shift_none op a n c p x z s o hn.1 hn.2 hkn w
    exact h
  · have hk0 : 0 < k := by omega
    by_cases h1 : k = 1
    · rcases ho with rfl | rfl | rfl | rfl | rfl
      · have h := shift_ORol_one a n k c p x z s o ha.1 ha.2 hn.1 hn.2 hkn hk0 h1 w
        subst h1
        exact h
      · have h := shift_ORor_one a n k c p x z s o ha.1 ha.2 hn.1 hn.2 hkn hk0 h1 w
        subst h1
        exact h
      · have h := shift_OShl_one a n k c p x z s o ha.1 ha.2 hn.1 hn.2 hkn hk0 h1 w
        subst h1
        exact h
      · have h := shift_OShr_one a n k c p x z s o ha.1 ha.2 hn.1 hn.2 hkn hk0 h1 w
        subst h1
        exact h
      · have h := shift_OSar_one a n k c p x z s o ha.1 ha.2 hn.1 hn.2 hkn hk0 h1 w
        subst h1
        exact h
    · rcases ho with rfl | rfl | rfl | rfl | rfl
      · have h := shift_ORol_more a n k c p x z s o ha.1 ha.2 hn.1 hn.2 hkn hk0 h1 w
        have e1 : shv 21 a k = rolR a k := by unfold shv; simp [h0]
        have e2 : shf 21 a k ⟨c, p, x, z, s, o⟩ = ⟨bt (rolR a k) 0, p, x, z, s, o⟩ := by unfold shf shc; simp [h0, h1, e1]
        rw [e1, e2]
        exact h
      · have h := shift_ORor_more a n k c p x z s o ha.1 ha.2 hn.1 hn.2 hkn hk0 h1 w
        have e1 : shv 22 a k = rorR a k := by unfold shv; simp [h0]
        have e2 : shf 22 a k ⟨c, p, x, z, s, o⟩ = ⟨bt (rorR a k) 31, p, x, z, s, o⟩ := by unfold shf shc; simp [h0, h1, e1]
        rw [e1, e2]
        exact h
      · have h := shift_OShl_more a n k c p x z s o ha.1 ha.2 hn.1 hn.2 hkn hk0 h1 w
        have e1 : shv 23 a k = shlR a k := by unfold shv; simp [h0]
        have e2 : shf 23 a k ⟨c, p, x, z, s, o⟩ = ⟨bt a (32 - k), par (shlR a k), x, shlR a k == 0, shlR a k / 2147483648 == 1, o⟩ := by unfold shf shc; simp [h0, h1, e1]
        rw [e1, e2]
        exact h
      · have h := shift_OShr_more a n k c p x z s o ha.1 ha.2 hn.1 hn.2 hkn hk0 h1 w
        have e1 : shv 24 a k = shrR a k := by unfold shv; simp [h0]
        have e2 : shf 24 a k ⟨c, p, x, z, s, o⟩ = ⟨bt a (k - 1), par (shrR a k), x, shrR a k == 0, shrR a k / 2147483648 == 1, o⟩ := by unfold shf shc; simp [h0, h1, e1]
        rw [e1, e2]
        exact h
      · have h := shift_OSar_more a n k c p x z s o ha.1 ha.2 hn.1 hn.2 hkn hk0 h1 w
        have e1 : shv 25 a k = sarR a k := by unfold shv; simp [h0]
        have e2 : shf 25 a k ⟨c, p, x, z, s, o⟩ = ⟨bt a (k - 1), par (sarR a k), x, sarR a k == 0, sarR a k / 2147483648 == 1, o⟩ := by unfold shf shc; simp [h0, h1, e1]
        rw [e1, e2]
        exact h

theorem shv_bd {op a k : Int} (ha : 0 ≤ a ∧ a < 4294967296) : 0 ≤ shv op a k ∧ shv op a k < 4294967296 := by
  unfold shv
  repeat' split
  · exact ha
  · exact rolR_bd a k
  · exact rorR_bd a k
  · exact shlR_bd a k
  · exact shrR_bd a k ha.1 ha.2
  · exact sarR_bd a k

/-- a step more -/
theorem sh_step {op a k : Int} (ho : IsOp op) (ha : 0 ≤ a ∧ a < 4294967296) (k0 : 0 ≤ k) (k1 : k < 31) : shv op (shv op a k) 1 = shv op a (k + 1) ∧ shc op (shv op a k) 1 = shc op a (k + 1) := by
  by_cases h0 : k = 0
  · subst h0; exact ⟨rfl, rfl⟩
  · have hk : ¬ k + 1 = 0 := by omega
    rcases ho with rfl | rfl | rfl | rfl | rfl
    · have e := rol_step ha.1 ha.2 (by omega) k1
      unfold shv shc
      simp only [h0, hk, if_false, Int.reduceEq, if_true]
      exact ⟨e, by rw [e]⟩
    · have e := ror_step ha.1 ha.2 (by omega) k1
      unfold shv shc
      simp only [h0, hk, if_false, Int.reduceEq, if_true]
      exact ⟨e, by rw [e]⟩
    · have e := shl_step ha.1 ha.2 k0 k1
      unfold shv shc
      simp only [h0, hk, if_false, Int.reduceEq, if_true]
      exact e
    · have e := shr_step ha.1 ha.2 k0 k1
      unfold shv shc
      simp only [h0, hk, if_false, Int.reduceEq, if_true]
      exact e
    · have e := sar_step ha.1 ha.2 k0 k1
      unfold shv shc
      simp only [h0, hk, if_false, Int.reduceEq, if_true]
      exact e

/-- what so many single steps come to -/
structure Steps (op a : Int) (f : F6) (i : Int) (x : Int) (h : F6) : Prop where
  x : x = shv op a i
  c : h.c = (shf op a i f).c
  r : 0 < i → 22 < op → h.p = (shf op a i f).p ∧ h.z = (shf op a i f).z ∧ h.s = (shf op a i f).s
theorem Steps.zero (op a : Int) (f : F6) : Steps op a f 0 a f := ⟨rfl, rfl, fun h => absurd h (by decide)⟩
theorem Steps.next {op a i x : Int} {f h : F6} (k : Steps op a f i x h) (ho : IsOp op) (ha : 0 ≤ a ∧ a < 4294967296) (k0 : 0 ≤ i) (k1 : i < 31) : Steps op a f (i + 1) (shv op x 1) (shf op x 1 h) := by
  obtain ⟨e1, e2⟩ := sh_step ho ha k0 k1
  have hx := k.x
  subst hx
  have hi : ¬ i + 1 = 0 := by omega
  refine ⟨e1, ?_, fun _ h22 => ?_⟩
  · unfold shf
    rw [if_neg (by decide), if_neg hi]
    exact e2
  · unfold shf
    rw [if_neg (by decide), if_neg hi]
    simp only [h22, if_true, e1, and_self]
theorem turn_back {a k : Int} (ha : 0 ≤ a ∧ a < 4294967296) (k0 : 0 ≤ k) (k1 : k < 32) : shv 22 (shv 21 a k) k = a := by
  unfold shv
  by_cases h0 : k = 0
  · simp [h0]
  · simp only [h0, if_false, Int.reduceEq, if_true]
    exact ror_rol ha.1 ha.2 (by omega) k1

end Go.Proofs.Ytndfcpkmchjncaa
