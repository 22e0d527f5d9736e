/-
  Plain laws of the words of the host machine: what is read back of their bits. No program in sight.
-/
import Derived.Test.YtndfcpkmchjncaaRvE
namespace Go.Proofs.Ytndfcpkmchjncaa
open Go.Sx
set_option linter.unusedVariables false
set_option linter.unusedSimpArgs false
set_option maxRecDepth 100000

/-- the kind of the parts by which it is found -/
def opG (o f3 f7 e : Int) : Int :=
  if o = 115 then 46 + e
  else if o = 55 then rvFind o 0 0
  else if o = 23 then rvFind o 0 0
  else if o = 111 then rvFind o 0 0
  else if o = 51 then rvFind o f3 f7
  else if o = 19 then (if f3 % 4 = 1 then rvFind o f3 f7 else rvFind o f3 0)
  else rvFind o f3 0
theorem f20 (x : Int) : fld x 20 1 = x / 1048576 % 2 := fld_l _ _ _ _ _ (by decide) (by decide) (by decide) (by decide) (by decide) (by decide)
theorem f12 (x : Int) : fld x 12 3 = x / 4096 % 8 := fld_l _ _ _ _ _ (by decide) (by decide) (by decide) (by decide) (by decide) (by decide)
theorem f25 (x : Int) : fld x 25 7 = x / 33554432 % 128 := fld_l _ _ _ _ _ (by decide) (by decide) (by decide) (by decide) (by decide) (by decide)
theorem rvOpOf_eq (x : Int) : rvOpOf x = opG (x % 128) (x / 4096 % 8) (x / 33554432 % 128) (x / 1048576 % 2) := by
  unfold rvOpOf opG
  simp only [ic_eq, Bool.cond_decide, and127, and3, btField, f20, f12, f25]
  have e : ibin .add .i64 46 (IntKind.wrap .i64 (x / 1048576 % 2)) = 46 + x / 1048576 % 2 := by
    show IntKind.i64.wrap (46 + _) = _
    rw [IntKind.wrap_i64, IntKind.wrap_i64]; omega
  rw [e]
theorem opG_found {op : Int} (h1 : 1 ≤ op) (h2 : op ≤ 47) :
    (rvOf_1 op = 1 ∨ rvOf_1 op = 4 → opG (rvOf_2 op) (rvOf_3 op) (rvOf_4 op) 0 = op)
    ∧ (rvOf_1 op = 2 ∨ rvOf_1 op = 3 ∨ rvOf_1 op = 5 ∨ rvOf_1 op = 6 → opG (rvOf_2 op) (rvOf_3 op) 0 0 = op ∧ rvOf_2 op ≠ 51 ∧ ¬ (rvOf_2 op = 19 ∧ rvOf_3 op % 4 = 1))
    ∧ (rvOf_1 op = 7 ∨ rvOf_1 op = 8 → opG (rvOf_2 op) 0 0 0 = op ∧ (rvOf_2 op = 55 ∨ rvOf_2 op = 23 ∨ rvOf_2 op = 111))
    ∧ (rvOf_1 op = 9 → rvOf_2 op = 115) ∧ (rvOf_1 op ≠ 9 → rvOf_2 op ≠ 115) := by
  have := fin47 (fun op => decide ((rvOf_1 op = 1 ∨ rvOf_1 op = 4 → opG (rvOf_2 op) (rvOf_3 op) (rvOf_4 op) 0 = op)
    ∧ (rvOf_1 op = 2 ∨ rvOf_1 op = 3 ∨ rvOf_1 op = 5 ∨ rvOf_1 op = 6 → opG (rvOf_2 op) (rvOf_3 op) 0 0 = op ∧ rvOf_2 op ≠ 51 ∧ ¬ (rvOf_2 op = 19 ∧ rvOf_3 op % 4 = 1))
    ∧ (rvOf_1 op = 7 ∨ rvOf_1 op = 8 → opG (rvOf_2 op) 0 0 0 = op ∧ (rvOf_2 op = 55 ∨ rvOf_2 op = 23 ∨ rvOf_2 op = 111))
    ∧ (rvOf_1 op = 9 → rvOf_2 op = 115) ∧ (rvOf_1 op ≠ 9 → rvOf_2 op ≠ 115))) (by kernel_rfl) h1 h2
  exact of_decide_eq_true this
theorem opG_e {o f3 f7 e : Int} (h : o ≠ 115) : opG o f3 f7 e = opG o f3 f7 0 := by unfold opG; rw [if_neg h, if_neg h]
theorem opG_f7 {o f3 f7 e : Int} (h : o ≠ 51) (h2 : ¬ (o = 19 ∧ f3 % 4 = 1)) : opG o f3 f7 e = opG o f3 0 e := by
  unfold opG
  rw [if_neg h, if_neg h]
  by_cases c : o = 19
  · have : ¬ f3 % 4 = 1 := fun q => h2 ⟨c, q⟩
    simp only [c, this, if_false]
  · simp only [c, if_false]
theorem opG_j {o f3 f7 e : Int} (h : o = 55 ∨ o = 23 ∨ o = 111) : opG o f3 f7 e = opG o 0 0 e := by
  rcases h with rfl | rfl | rfl <;> rfl

/-- what is read of a form's bits -/
def fD (f x : Int) : Int := if f = 1 ∨ f = 2 ∨ f = 3 ∨ f = 4 ∨ f = 7 ∨ f = 8 then x / 128 % 32 else 0
def fA (f x : Int) : Int := if f = 1 ∨ f = 2 ∨ f = 3 ∨ f = 4 ∨ f = 5 ∨ f = 6 then x / 32768 % 32 else 0
def fB (f x : Int) : Int := if f = 1 ∨ f = 5 ∨ f = 6 then x / 1048576 % 32 else 0
def nI (x : Int) : Int := (x / 1048576 % 4096 + 2048) % 4096 - 2048
def nS (x : Int) : Int := (x / 33554432 % 128 * 32 + x / 128 % 32 + 2048) % 4096 - 2048
def nB (x : Int) : Int := (x / 2147483648 % 2 * 4096 + x / 33554432 % 64 * 32 + x / 256 % 16 * 2 + x / 128 % 2 * 2048 + 4096) % 8192 - 4096
def nU (x : Int) : Int := (x - x % 4096 + 2147483648) % 4294967296 - 2147483648
def nJ (x : Int) : Int := (x / 2147483648 % 2 * 1048576 + x / 2097152 % 1024 * 2 + x / 1048576 % 2 * 2048 + x / 4096 % 256 * 4096 + 1048576) % 2097152 - 1048576
def fN (f x : Int) : Int :=
  if f = 2 ∨ f = 3 then nI x else if f = 4 then x / 1048576 % 32 else if f = 5 then nS x else if f = 6 then nB x else if f = 7 then nU x else if f = 8 then nJ x else 0

structure Back (op d a b n x : Int) : Prop where
  lo : 0 ≤ x
  hi : x < 4294967296
  kop : rvOpOf x = op
  kd : fD (rvOf_1 op) x = d
  ka : fA (rvOf_1 op) x = a
  kb : fB (rvOf_1 op) x = b
  kn : fN (rvOf_1 op) x = n

set_option maxHeartbeats 4000000 in
theorem back {op d a b n x : Int} (h : W op d a b n) (hb : -2147483648 ≤ n ∧ n < 2147483648) (hx : encS op d a b n = x) : Back op d a b n x := by
  obtain ⟨⟨h1, h2⟩, hw⟩ := h
  obtain ⟨-, ⟨o0, o1, t0, t1, s0, s1⟩, -, hf⟩ := row h1 h2
  obtain ⟨g1, g2, g3, g4, g5⟩ := opG_found h1 h2
  unfold encS immS at hx
  have opx (o3 : opG (x % 128) (x / 4096 % 8) (x / 33554432 % 128) (x / 1048576 % 2) = op) : rvOpOf x = op := (rvOpOf_eq x).trans o3
  rcases hw with ⟨f, hd, ha, hb, hn⟩ | ⟨f, hd, ha, hb, hn⟩ | ⟨f, hd, ha, hb, hn⟩ | ⟨f, hd, ha, hb, hn⟩ | ⟨f, hd, ha, hb, hn⟩ | ⟨f, hd, ha, hb, hn⟩ | ⟨f, hd, ha, hb, hn⟩ | ⟨f, hd, ha, hb, hn⟩
  · have hne : op ≠ 47 := by omega
    rw [f, if_neg hne] at hx
    simp only [Int.reduceEq, or_self, or_false, false_or, if_false, if_true] at hx
    unfold Rg at hd ha hb
    have e0 : x % 128 = rvOf_2 op := by omega
    have e3 : x / 4096 % 8 = rvOf_3 op := by omega
    have e7 : x / 33554432 % 128 = rvOf_4 op := by omega
    refine ⟨by omega, by omega, opx ?_, ?_, ?_, ?_, ?_⟩
    · rw [e0, e3, e7, opG_e (g5 (by omega))]; exact g1 (by omega)
    · rw [f]; show x / 128 % 32 = d; omega
    · rw [f]; show x / 32768 % 32 = a; omega
    · rw [f]; show x / 1048576 % 32 = b; omega
    · rw [f]; show 0 = n; omega
  · have hne : op ≠ 47 := by omega
    have z : rvOf_4 op = 0 := by omega
    rw [if_pos (by omega), if_neg hne, z] at hx
    unfold Rg at hd ha
    have e0 : x % 128 = rvOf_2 op := by omega
    have e3 : x / 4096 % 8 = rvOf_3 op := by omega
    refine ⟨by omega, by omega, opx ?_, ?_, ?_, ?_, ?_⟩
    · have := g2 (by omega)
      rw [e0, e3, opG_e (g5 (by omega)), opG_f7 this.2.1 this.2.2]; exact this.1
    · rcases f with f | f <;> rw [f] <;> show x / 128 % 32 = d <;> omega
    · rcases f with f | f <;> rw [f] <;> show x / 32768 % 32 = a <;> omega
    · rcases f with f | f <;> rw [f] <;> show 0 = b <;> omega
    · have : nI x = n := by unfold nI; omega
      rcases f with f | f <;> rw [f] <;> exact this
  · have hne : op ≠ 47 := by omega
    rw [if_pos (by omega), if_neg hne] at hx
    unfold Rg at hd ha
    have e0 : x % 128 = rvOf_2 op := by omega
    have e3 : x / 4096 % 8 = rvOf_3 op := by omega
    have e7 : x / 33554432 % 128 = rvOf_4 op := by omega
    refine ⟨by omega, by omega, opx ?_, ?_, ?_, ?_, ?_⟩
    · rw [e0, e3, e7, opG_e (g5 (by omega))]; exact g1 (by omega)
    · rw [f]; show x / 128 % 32 = d; omega
    · rw [f]; show x / 32768 % 32 = a; omega
    · rw [f]; show 0 = b; omega
    · rw [f]; show x / 1048576 % 32 = n; omega
  · have hne : op ≠ 47 := by omega
    have z : rvOf_4 op = 0 := by omega
    rw [f, if_neg hne, z] at hx
    simp only [Int.reduceEq, or_self, or_false, false_or, if_false, if_true] at hx
    unfold Rg at ha hb
    have r1 : 0 ≤ n / 32 % 128 ∧ n / 32 % 128 < 128 := by omega
    have r2 : 0 ≤ n % 32 ∧ n % 32 < 32 := by omega
    have all : n = (n / 32 % 128 * 32 + n % 32 + 2048) % 4096 - 2048 := by omega
    generalize n / 32 % 128 = m1 at *
    generalize n % 32 = m2 at *
    have lob : 0 ≤ rvOf_2 op + 128 * m2 + 4096 * rvOf_3 op + 32768 * a ∧ rvOf_2 op + 128 * m2 + 4096 * rvOf_3 op + 32768 * a < 1048576 := by omega
    have hq : x / 1048576 = b + 32 * m1 := by
      have e : x = (rvOf_2 op + 128 * m2 + 4096 * rvOf_3 op + 32768 * a) + 1048576 * (b + 32 * m1) := by omega
      generalize rvOf_2 op + 128 * m2 + 4096 * rvOf_3 op + 32768 * a = lo at *
      clear hx all
      omega
    have e0 : x % 128 = rvOf_2 op := by omega
    have e3 : x / 4096 % 8 = rvOf_3 op := by omega
    refine ⟨by omega, by omega, opx ?_, ?_, ?_, ?_, ?_⟩
    · have := g2 (by omega)
      rw [e0, e3, opG_e (g5 (by omega)), opG_f7 this.2.1 this.2.2]; exact this.1
    · rw [f]; show 0 = d; omega
    · rw [f]; show x / 32768 % 32 = a; omega
    · rw [f]; show x / 1048576 % 32 = b; rw [hq]; clear hx all; omega
    · have p1 : x / 33554432 % 128 = m1 := by
        have : x / 33554432 = x / 1048576 / 32 := by clear hx all; omega
        rw [this, hq]; clear hx all; omega
      have p2 : x / 128 % 32 = m2 := by omega
      rw [f]; show nS x = n; unfold nS; rw [p1, p2]; exact all.symm
  · have hne : op ≠ 47 := by omega
    have z : rvOf_4 op = 0 := by omega
    rw [f, if_neg hne, z] at hx
    simp only [Int.reduceEq, or_self, or_false, false_or, if_false, if_true] at hx
    unfold Rg at ha hb
    have r1 : 0 ≤ n / 4096 % 2 ∧ n / 4096 % 2 < 2 := by omega
    have r2 : 0 ≤ n / 32 % 64 ∧ n / 32 % 64 < 64 := by omega
    have r3 : 0 ≤ n / 2 % 16 ∧ n / 2 % 16 < 16 := by omega
    have r4 : 0 ≤ n / 2048 % 2 ∧ n / 2048 % 2 < 2 := by omega
    have all : n = (n / 4096 % 2 * 4096 + n / 32 % 64 * 32 + n / 2 % 16 * 2 + n / 2048 % 2 * 2048 + 4096) % 8192 - 4096 := by omega
    generalize n / 4096 % 2 = m1 at *
    generalize n / 32 % 64 = m2 at *
    generalize n / 2 % 16 = m3 at *
    generalize n / 2048 % 2 = m4 at *
    have e0 : x % 128 = rvOf_2 op := by omega
    have e3 : x / 4096 % 8 = rvOf_3 op := by omega
    refine ⟨by omega, by omega, opx ?_, ?_, ?_, ?_, ?_⟩
    · have := g2 (by omega)
      rw [e0, e3, opG_e (g5 (by omega)), opG_f7 this.2.1 this.2.2]; exact this.1
    · rw [f]; show 0 = d; omega
    · rw [f]; show x / 32768 % 32 = a; omega
    · rw [f]; show x / 1048576 % 32 = b; omega
    · have p1 : x / 2147483648 % 2 = m1 := by omega
      have p2 : x / 33554432 % 64 = m2 := by omega
      have p3 : x / 256 % 16 = m3 := by omega
      have p4 : x / 128 % 2 = m4 := by omega
      rw [f]; show nB x = n; unfold nB; rw [p1, p2, p3, p4]; exact all.symm
  · have hne : op ≠ 47 := by omega
    have z : rvOf_3 op = 0 ∧ rvOf_4 op = 0 := by omega
    rw [f, if_neg hne, z.1, z.2] at hx
    simp only [Int.reduceEq, or_self, or_false, false_or, if_false, if_true] at hx
    unfold Rg at hd
    have e0 : x % 128 = rvOf_2 op := by omega
    refine ⟨by omega, by omega, opx ?_, ?_, ?_, ?_, ?_⟩
    · have := g3 (by omega)
      rw [e0, opG_j this.2, opG_e (g5 (by omega))]; exact this.1
    · rw [f]; show x / 128 % 32 = d; omega
    · rw [f]; show 0 = a; omega
    · rw [f]; show 0 = b; omega
    · rw [f]; show nU x = n; unfold nU; omega
  · have hne : op ≠ 47 := by omega
    have z : rvOf_3 op = 0 ∧ rvOf_4 op = 0 := by omega
    rw [f, if_neg hne, z.1, z.2] at hx
    simp only [Int.reduceEq, or_self, or_false, false_or, if_false, if_true] at hx
    unfold Rg at hd
    have r1 : 0 ≤ n / 1048576 % 2 ∧ n / 1048576 % 2 < 2 := by omega
    have r2 : 0 ≤ n / 2 % 1024 ∧ n / 2 % 1024 < 1024 := by omega
    have r3 : 0 ≤ n / 2048 % 2 ∧ n / 2048 % 2 < 2 := by omega
    have r4 : 0 ≤ n / 4096 % 256 ∧ n / 4096 % 256 < 256 := by omega
    have all : n = (n / 1048576 % 2 * 1048576 + n / 2 % 1024 * 2 + n / 2048 % 2 * 2048 + n / 4096 % 256 * 4096 + 1048576) % 2097152 - 1048576 := by omega
    generalize n / 1048576 % 2 = m1 at *
    generalize n / 2 % 1024 = m2 at *
    generalize n / 2048 % 2 = m3 at *
    generalize n / 4096 % 256 = m4 at *
    have e0 : x % 128 = rvOf_2 op := by omega
    refine ⟨by omega, by omega, opx ?_, ?_, ?_, ?_, ?_⟩
    · have := g3 (by omega)
      rw [e0, opG_j this.2, opG_e (g5 (by omega))]; exact this.1
    · rw [f]; show x / 128 % 32 = d; omega
    · rw [f]; show 0 = a; omega
    · rw [f]; show 0 = b; omega
    · have p1 : x / 2147483648 % 2 = m1 := by omega
      have p2 : x / 2097152 % 1024 = m2 := by omega
      have p3 : x / 1048576 % 2 = m3 := by omega
      have p4 : x / 4096 % 256 = m4 := by omega
      rw [f]; show nJ x = n; unfold nJ; rw [p1, p2, p3, p4]; exact all.symm
  · obtain ⟨rfl, rfl, rfl⟩ : d = 0 ∧ a = 0 ∧ b = 0 := ⟨hd, ha, hb⟩
    subst hn
    have : op = 46 ∨ op = 47 := by omega
    rcases this with rfl | rfl
    · have : x = 115 := by rw [← hx]; kernel_rfl
      subst this
      exact ⟨by decide, by decide, by kernel_rfl, by kernel_rfl, by kernel_rfl, by kernel_rfl, by kernel_rfl⟩
    · have : x = 1048691 := by rw [← hx]; kernel_rfl
      subst this
      exact ⟨by decide, by decide, by kernel_rfl, by kernel_rfl, by kernel_rfl, by kernel_rfl, by kernel_rfl⟩
end Go.Proofs.Ytndfcpkmchjncaa
