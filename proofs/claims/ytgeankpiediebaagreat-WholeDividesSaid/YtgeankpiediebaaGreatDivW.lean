/-
  WholeDivides is true whatever the numbers: its 630 ways joined.
-/
import Derived.Test.YtgeankpiediebaaGreatDiv0
import Derived.Test.YtgeankpiediebaaGreatDiv1
import Derived.Test.YtgeankpiediebaaGreatDiv2
import Derived.Test.YtgeankpiediebaaGreatDiv3
import Derived.Test.YtgeankpiediebaaGreatDiv4
import Derived.Test.YtgeankpiediebaaGreatDiv5
import Derived.Test.YtgeankpiediebaaGreatDiv6
import Derived.Test.YtgeankpiediebaaGreatDiv7
import Derived.Test.YtgeankpiediebaaGreatDiv8
import Derived.Test.YtgeankpiediebaaGreatDiv9
import Derived.Test.YtgeankpiediebaaGreatDiv10
import Derived.Test.YtgeankpiediebaaGreatDiv11
import Derived.Test.YtgeankpiediebaaGreatDiv12
import Derived.Test.YtgeankpiediebaaGreatDiv13
import Derived.Test.YtgeankpiediebaaGreatDiv14
import Derived.Test.YtgeankpiediebaaGreatDiv15
import Derived.Test.YtgeankpiediebaaGreatDiv16
import Derived.Test.YtgeankpiediebaaGreatDiv17
import Derived.Test.YtgeankpiediebaaGreatDiv18
import Derived.Test.YtgeankpiediebaaGreatDiv19
import Derived.Test.YtgeankpiediebaaGreatDiv20
import Derived.Test.YtgeankpiediebaaGreatDiv21
import Derived.Test.YtgeankpiediebaaGreatDiv22
import Derived.Test.YtgeankpiediebaaGreatDiv23
import Derived.Test.YtgeankpiediebaaGreatDiv24
import Derived.Test.YtgeankpiediebaaGreatDiv25
import Derived.Test.YtgeankpiediebaaGreatDiv26
import Derived.Test.YtgeankpiediebaaGreatDiv27
import Derived.Test.YtgeankpiediebaaGreatDiv28
import Derived.Test.YtgeankpiediebaaGreatDiv29
import Derived.Test.YtgeankpiediebaaGreatDiv30
import Derived.Test.YtgeankpiediebaaGreatDiv31
import Derived.Test.YtgeankpiediebaaGreatDiv32
import Derived.Test.YtgeankpiediebaaGreatDiv33
import Derived.Test.YtgeankpiediebaaGreatDiv34
import Derived.Test.YtgeankpiediebaaGreatDiv35
import Derived.Test.YtgeankpiediebaaGreatKnz
import Derived.Laws.Runes
namespace Go.Proofs.YtgeankpiediebaaGreat
open Go.Fx Go.RowKit
set_option linter.unusedVariables false
theorem dv5 : ∀ (k : Nat) (a b : K3), k < 10 → dvL5 k a b = dvM5 k a b
  | 0, .h, .h, _ => dv5_0hh
  | 0, .h, .r, _ => dv5_0hr
  | 0, .h, .n, _ => dv5_0hn
  | 0, .r, .h, _ => dv5_0rh
  | 0, .r, .r, _ => dv5_0rr
  | 0, .r, .n, _ => dv5_0rn
  | 0, .n, .h, _ => dv5_0nh
  | 0, .n, .r, _ => dv5_0nr
  | 0, .n, .n, _ => dv5_0nn
  | 1, .h, .h, _ => dv5_1hh
  | 1, .h, .r, _ => dv5_1hr
  | 1, .h, .n, _ => dv5_1hn
  | 1, .r, .h, _ => dv5_1rh
  | 1, .r, .r, _ => dv5_1rr
  | 1, .r, .n, _ => dv5_1rn
  | 1, .n, .h, _ => dv5_1nh
  | 1, .n, .r, _ => dv5_1nr
  | 1, .n, .n, _ => dv5_1nn
  | 2, .h, .h, _ => dv5_2hh
  | 2, .h, .r, _ => dv5_2hr
  | 2, .h, .n, _ => dv5_2hn
  | 2, .r, .h, _ => dv5_2rh
  | 2, .r, .r, _ => dv5_2rr
  | 2, .r, .n, _ => dv5_2rn
  | 2, .n, .h, _ => dv5_2nh
  | 2, .n, .r, _ => dv5_2nr
  | 2, .n, .n, _ => dv5_2nn
  | 3, .h, .h, _ => dv5_3hh
  | 3, .h, .r, _ => dv5_3hr
  | 3, .h, .n, _ => dv5_3hn
  | 3, .r, .h, _ => dv5_3rh
  | 3, .r, .r, _ => dv5_3rr
  | 3, .r, .n, _ => dv5_3rn
  | 3, .n, .h, _ => dv5_3nh
  | 3, .n, .r, _ => dv5_3nr
  | 3, .n, .n, _ => dv5_3nn
  | 4, .h, .h, _ => dv5_4hh
  | 4, .h, .r, _ => dv5_4hr
  | 4, .h, .n, _ => dv5_4hn
  | 4, .r, .h, _ => dv5_4rh
  | 4, .r, .r, _ => dv5_4rr
  | 4, .r, .n, _ => dv5_4rn
  | 4, .n, .h, _ => dv5_4nh
  | 4, .n, .r, _ => dv5_4nr
  | 4, .n, .n, _ => dv5_4nn
  | 5, .h, .h, _ => dv5_5hh
  | 5, .h, .r, _ => dv5_5hr
  | 5, .h, .n, _ => dv5_5hn
  | 5, .r, .h, _ => dv5_5rh
  | 5, .r, .r, _ => dv5_5rr
  | 5, .r, .n, _ => dv5_5rn
  | 5, .n, .h, _ => dv5_5nh
  | 5, .n, .r, _ => dv5_5nr
  | 5, .n, .n, _ => dv5_5nn
  | 6, .h, .h, _ => dv5_6hh
  | 6, .h, .r, _ => dv5_6hr
  | 6, .h, .n, _ => dv5_6hn
  | 6, .r, .h, _ => dv5_6rh
  | 6, .r, .r, _ => dv5_6rr
  | 6, .r, .n, _ => dv5_6rn
  | 6, .n, .h, _ => dv5_6nh
  | 6, .n, .r, _ => dv5_6nr
  | 6, .n, .n, _ => dv5_6nn
  | 7, .h, .h, _ => dv5_7hh
  | 7, .h, .r, _ => dv5_7hr
  | 7, .h, .n, _ => dv5_7hn
  | 7, .r, .h, _ => dv5_7rh
  | 7, .r, .r, _ => dv5_7rr
  | 7, .r, .n, _ => dv5_7rn
  | 7, .n, .h, _ => dv5_7nh
  | 7, .n, .r, _ => dv5_7nr
  | 7, .n, .n, _ => dv5_7nn
  | 8, .h, .h, _ => dv5_8hh
  | 8, .h, .r, _ => dv5_8hr
  | 8, .h, .n, _ => dv5_8hn
  | 8, .r, .h, _ => dv5_8rh
  | 8, .r, .r, _ => dv5_8rr
  | 8, .r, .n, _ => dv5_8rn
  | 8, .n, .h, _ => dv5_8nh
  | 8, .n, .r, _ => dv5_8nr
  | 8, .n, .n, _ => dv5_8nn
  | 9, .h, .h, _ => dv5_9hh
  | 9, .h, .r, _ => dv5_9hr
  | 9, .h, .n, _ => dv5_9hn
  | 9, .r, .h, _ => dv5_9rh
  | 9, .r, .r, _ => dv5_9rr
  | 9, .r, .n, _ => dv5_9rn
  | 9, .n, .h, _ => dv5_9nh
  | 9, .n, .r, _ => dv5_9nr
  | 9, .n, .n, _ => dv5_9nn
  | k + 10, _, _, h => absurd h (by omega)
theorem dv2 : ∀ (k : Nat) (a b : K3), k < 10 → dvL2 k a b = dvM2 k a b
  | 0, .h, .h, _ => dv2_0hh
  | 0, .h, .r, _ => dv2_0hr
  | 0, .h, .n, _ => dv2_0hn
  | 0, .r, .h, _ => dv2_0rh
  | 0, .r, .r, _ => dv2_0rr
  | 0, .r, .n, _ => dv2_0rn
  | 0, .n, .h, _ => dv2_0nh
  | 0, .n, .r, _ => dv2_0nr
  | 0, .n, .n, _ => dv2_0nn
  | 1, .h, .h, _ => dv2_1hh
  | 1, .h, .r, _ => dv2_1hr
  | 1, .h, .n, _ => dv2_1hn
  | 1, .r, .h, _ => dv2_1rh
  | 1, .r, .r, _ => dv2_1rr
  | 1, .r, .n, _ => dv2_1rn
  | 1, .n, .h, _ => dv2_1nh
  | 1, .n, .r, _ => dv2_1nr
  | 1, .n, .n, _ => dv2_1nn
  | 2, .h, .h, _ => dv2_2hh
  | 2, .h, .r, _ => dv2_2hr
  | 2, .h, .n, _ => dv2_2hn
  | 2, .r, .h, _ => dv2_2rh
  | 2, .r, .r, _ => dv2_2rr
  | 2, .r, .n, _ => dv2_2rn
  | 2, .n, .h, _ => dv2_2nh
  | 2, .n, .r, _ => dv2_2nr
  | 2, .n, .n, _ => dv2_2nn
  | 3, .h, .h, _ => dv2_3hh
  | 3, .h, .r, _ => dv2_3hr
  | 3, .h, .n, _ => dv2_3hn
  | 3, .r, .h, _ => dv2_3rh
  | 3, .r, .r, _ => dv2_3rr
  | 3, .r, .n, _ => dv2_3rn
  | 3, .n, .h, _ => dv2_3nh
  | 3, .n, .r, _ => dv2_3nr
  | 3, .n, .n, _ => dv2_3nn
  | 4, .h, .h, _ => dv2_4hh
  | 4, .h, .r, _ => dv2_4hr
  | 4, .h, .n, _ => dv2_4hn
  | 4, .r, .h, _ => dv2_4rh
  | 4, .r, .r, _ => dv2_4rr
  | 4, .r, .n, _ => dv2_4rn
  | 4, .n, .h, _ => dv2_4nh
  | 4, .n, .r, _ => dv2_4nr
  | 4, .n, .n, _ => dv2_4nn
  | 5, .h, .h, _ => dv2_5hh
  | 5, .h, .r, _ => dv2_5hr
  | 5, .h, .n, _ => dv2_5hn
  | 5, .r, .h, _ => dv2_5rh
  | 5, .r, .r, _ => dv2_5rr
  | 5, .r, .n, _ => dv2_5rn
  | 5, .n, .h, _ => dv2_5nh
  | 5, .n, .r, _ => dv2_5nr
  | 5, .n, .n, _ => dv2_5nn
  | 6, .h, .h, _ => dv2_6hh
  | 6, .h, .r, _ => dv2_6hr
  | 6, .h, .n, _ => dv2_6hn
  | 6, .r, .h, _ => dv2_6rh
  | 6, .r, .r, _ => dv2_6rr
  | 6, .r, .n, _ => dv2_6rn
  | 6, .n, .h, _ => dv2_6nh
  | 6, .n, .r, _ => dv2_6nr
  | 6, .n, .n, _ => dv2_6nn
  | 7, .h, .h, _ => dv2_7hh
  | 7, .h, .r, _ => dv2_7hr
  | 7, .h, .n, _ => dv2_7hn
  | 7, .r, .h, _ => dv2_7rh
  | 7, .r, .r, _ => dv2_7rr
  | 7, .r, .n, _ => dv2_7rn
  | 7, .n, .h, _ => dv2_7nh
  | 7, .n, .r, _ => dv2_7nr
  | 7, .n, .n, _ => dv2_7nn
  | 8, .h, .h, _ => dv2_8hh
  | 8, .h, .r, _ => dv2_8hr
  | 8, .h, .n, _ => dv2_8hn
  | 8, .r, .h, _ => dv2_8rh
  | 8, .r, .r, _ => dv2_8rr
  | 8, .r, .n, _ => dv2_8rn
  | 8, .n, .h, _ => dv2_8nh
  | 8, .n, .r, _ => dv2_8nr
  | 8, .n, .n, _ => dv2_8nn
  | 9, .h, .h, _ => dv2_9hh
  | 9, .h, .r, _ => dv2_9hr
  | 9, .h, .n, _ => dv2_9hn
  | 9, .r, .h, _ => dv2_9rh
  | 9, .r, .r, _ => dv2_9rr
  | 9, .r, .n, _ => dv2_9rn
  | 9, .n, .h, _ => dv2_9nh
  | 9, .n, .r, _ => dv2_9nr
  | 9, .n, .n, _ => dv2_9nn
  | k + 10, _, _, h => absurd h (by omega)
theorem hd {α : Type} {a b : α} {l m : List α} (h : a :: l = b :: m) : a = b := (List.cons.inj h).1
theorem tl {α : Type} {a b : α} {l m : List α} (h : a :: l = b :: m) : l = m := (List.cons.inj h).2
theorem dv_all (k : Nat) (a b c : K3) (e : Dv) (hk : k < 10) (hz : e = .z → c = .h) : dvWay k a b c e := by
  have p := dv5 k a b hk
  have q := dv2 k a b hk
  cases c with
  | h => cases e with
    | z => exact hd p
    | g => exact hd (tl p)
    | l => exact hd (tl (tl p))
  | r => cases e with
    | z => cases hz rfl
    | g => exact hd (tl (tl (tl p)))
    | l => exact hd (tl (tl (tl (tl p))))
  | n => cases e with
    | z => cases hz rfl
    | g => exact hd q
    | l => exact hd (tl q)

/-! ### Which way it is -/
def dvEnv (a b c d : Int) : Env := ⟨fun x => match x with | 0 => a | 1 => b | 2 => c | _ => d, fun _ => false⟩
def k3Of (ρ : Env) (i : Nat) : K3 := if ρ.b (dvH i) = true then .h else if ρ.b (dvR i) = true then .r else .n
theorem k3_dec (ρ : Env) (i : Nat) : ∀ x b, (x, b) ∈ (k3Of ρ i).dec i → ρ.b x = b := by
  intro x b hx
  unfold k3Of at hx
  split at hx
  · rename_i h
    simp only [K3.dec, List.mem_cons, Prod.mk.injEq, List.not_mem_nil, or_false] at hx
    obtain ⟨rfl, rfl⟩ := hx
    exact h
  · rename_i h
    split at hx
    · rename_i k
      simp only [K3.dec, List.mem_cons, Prod.mk.injEq, List.not_mem_nil, or_false] at hx
      rcases hx with ⟨rfl, rfl⟩ | ⟨rfl, rfl⟩
      · simpa using h
      · exact k
    · rename_i k
      simp only [K3.dec, List.mem_cons, Prod.mk.injEq, List.not_mem_nil, or_false] at hx
      rcases hx with ⟨rfl, rfl⟩ | ⟨rfl, rfl⟩
      · simpa using h
      · simpa using k
theorem b_eql (ρ : Env) (a b : SE) : ρ.b (.cmp .eql a b) = (a.eval ρ == b.eval ρ) := by
  show decide (one01 (a.eval ρ == b.eval ρ) = 1) = _
  rw [one01_dec]
theorem b_gtr (ρ : Env) (a b : SE) : ρ.b (.cmp .gtr a b) = decide (b.eval ρ < a.eval ρ) := by
  show decide (one01 (decide (a.eval ρ > b.eval ρ)) = 1) = _
  rw [one01_dec]
theorem b_lss (ρ : Env) (a b : SE) : ρ.b (.cmp .lss a b) = decide (a.eval ρ < b.eval ρ) := by
  show decide (one01 (decide (a.eval ρ < b.eval ρ)) = 1) = _
  rw [one01_dec]
def dvOf (ρ : Env) : Dv := if ρ.b dvZ = true then .z else if ρ.b dvG = true then .g else .l
section
variable {a b c d : Int} (ha : 0 ≤ a ∧ a ≤ 4294967295) (hb : 0 ≤ b ∧ b ≤ 4294967295) (hc : 0 ≤ c ∧ c ≤ 4294967295) (hd : 0 ≤ d ∧ d ≤ 255)
include ha in
theorem v0 : SE.eval (dvEnv a b c d) (.v .u32 0) = a := by
  show IntKind.u32.wrap a = a
  rw [IntKind.wrap_u32]; omega
include hb in
theorem v1 : SE.eval (dvEnv a b c d) (.v .u32 1) = b := by
  show IntKind.u32.wrap b = b
  rw [IntKind.wrap_u32]; omega
include hc in
theorem v2 : SE.eval (dvEnv a b c d) (.v .u32 2) = c := by
  show IntKind.u32.wrap c = c
  rw [IntKind.wrap_u32]; omega
include hc in
theorem dvZ_b : (dvEnv a b c d).b dvZ = (c == 0) := by
  unfold dvZ
  rw [b_eql, v2 hc]
  rfl
include ha hc in
theorem dvL_b : (dvEnv a b c d).b dvL = decide (a < c) := by
  unfold dvL
  rw [b_lss, v0 ha, v2 hc]
include hc in
theorem dvH_z (h : c = 0) : k3Of (dvEnv a b c d) 2 = .h := by
  have e : (dvEnv a b c d).b (dvH 2) = true := by
    unfold dvH
    rw [b_eql, beq_iff_eq]
    show sgn (((SE.eval (dvEnv a b c d) (.v .u32 2) - sgn (SE.eval (dvEnv a b c d) (.v .u32 2) % 2 ^ 12) 12) % 2 ^ 32) % 2 ^ 32) 32 = 0
    rw [v2 hc, h]
    decide
  unfold k3Of
  rw [if_pos e]
include ha hb hc in
theorem dvG_b (h : c ≠ 0) : (dvEnv a b c d).b dvG = decide (c ≤ a) := by
  unfold dvG
  rw [b_gtr]
  have e : SE.eval (dvEnv a b c d) (.bin .quo .u64 dvN (.v .u32 2)) = (b + 4294967296 * a) / c := by
    show IntKind.u64.wrap ((SE.eval (dvEnv a b c d) (.v .u32 1) + 2 ^ 32 * SE.eval (dvEnv a b c d) (.v .u32 0)).tdiv (SE.eval (dvEnv a b c d) (.v .u32 2))) = _
    rw [v0 ha, v1 hb, v2 hc]
    have e2 : (2 : Int) ^ 32 = 4294967296 := by decide
    rw [e2, Int.tdiv_eq_ediv_of_nonneg (by omega)]
    have l0 : 0 ≤ (b + 4294967296 * a) / c := Int.ediv_nonneg (by omega) (by omega)
    have l1 : (b + 4294967296 * a) / c ≤ b + 4294967296 * a := Int.ediv_le_self _ (by omega)
    have w : ∀ n : Int, IntKind.u64.wrap n = n % 18446744073709551616 := fun n => by simp [IntKind.wrap, IntKind.bits, IntKind.signed]
    rw [w]
    exact Int.emod_eq_of_lt l0 (by omega)
  rw [e]
  show decide (4294967295 < (b + 4294967296 * a) / c) = decide (c ≤ a)
  have k := Int.le_ediv_iff_mul_le (a := 4294967296) (b := b + 4294967296 * a) (c := c) (by omega)
  rw [decide_eq_decide]
  constructor
  · intro q
    have q2 := k.1 (by omega)
    omega
  · intro q
    have q2 := k.2 (by omega)
    omega
include ha hb hc hd in
theorem dvMet_ok : (dvMet (d.toNat % 10) (k3Of (dvEnv a b c d) 1) (k3Of (dvEnv a b c d) 0) (k3Of (dvEnv a b c d) 2) (dvOf (dvEnv a b c d))).ok (dvEnv a b c d) (isTr (dvEnv a b c d)) := by
  have side : c ≠ 0 → ∀ e ∈ [dvQ, dvM, dvQ], e.ok (dvEnv a b c d) := by
    intro h e he
    have key : SE.eval (dvEnv a b c d) (.v .u32 2) ≠ 0 := by rw [v2 hc]; exact h
    simp only [List.mem_cons, List.not_mem_nil, or_false] at he
    rcases he with rfl | rfl | rfl <;> exact ⟨fun _ => key, fun hh => by rcases hh with hh | hh <;> cases hh⟩
  have hdec : ∀ x t, (x, t) ∈ (dvOf (dvEnv a b c d)).dec → (dvEnv a b c d).b x = t := by
    intro x t hx
    unfold dvOf at hx
    rw [dvZ_b hc] at hx
    split at hx
    · rename_i hz
      have hz : c = 0 := by simpa using hz
      simp only [Dv.dec, List.mem_cons, Prod.mk.injEq, List.not_mem_nil, or_false] at hx
      rcases hx with ⟨rfl, rfl⟩ | ⟨rfl, rfl⟩
      · rw [dvZ_b hc, hz]; rfl
      · rw [dvL_b ha hc, hz]; exact decide_eq_false (by omega)
    · rename_i hz
      have hz : c ≠ 0 := by simpa using hz
      have hzb : (dvEnv a b c d).b dvZ = false := by rw [dvZ_b hc]; simpa using hz
      rw [dvG_b ha hb hc hz] at hx
      split at hx
      · rename_i hg
        have hg : c ≤ a := by simpa using hg
        simp only [Dv.dec, List.mem_cons, Prod.mk.injEq, List.not_mem_nil, or_false] at hx
        rcases hx with ⟨rfl, rfl⟩ | ⟨rfl, rfl⟩ | ⟨rfl, rfl⟩
        · exact hzb
        · rw [dvG_b ha hb hc hz]; exact decide_eq_true hg
        · rw [dvL_b ha hc]; exact decide_eq_false (by omega)
      · rename_i hg
        have hg : ¬ c ≤ a := by simpa using hg
        simp only [Dv.dec, List.mem_cons, Prod.mk.injEq, List.not_mem_nil, or_false] at hx
        rcases hx with ⟨rfl, rfl⟩ | ⟨rfl, rfl⟩ | ⟨rfl, rfl⟩
        · exact hzb
        · rw [dvG_b ha hb hc hz]; exact decide_eq_false hg
        · rw [dvL_b ha hc]; exact decide_eq_true (by omega)
  refine ⟨fun e he => ?_, fun x t hx => ?_, fun x n hx => ?_, fun ι => rfl⟩
  · have he : e ∈ (dvOf (dvEnv a b c d)).evs := he
    by_cases h : c = 0
    · unfold dvOf at he
      rw [dvZ_b hc, h] at he
      cases he
    · refine side h e ?_
      unfold dvOf at he
      split at he
      · cases he
      · split at he
        · simp only [Dv.evs, List.mem_cons, List.not_mem_nil, or_false] at he ⊢
          exact .inl he
        · exact he
  · have hx : (x, t) ∈ (k3Of (dvEnv a b c d) 1).dec 1 ++ ((k3Of (dvEnv a b c d) 0).dec 0 ++ ((k3Of (dvEnv a b c d) 2).dec 2 ++ (dvOf (dvEnv a b c d)).dec)) := hx
    simp only [List.mem_append] at hx
    rcases hx with hx | hx | hx | hx
    · exact k3_dec _ 1 x t hx
    · exact k3_dec _ 0 x t hx
    · exact k3_dec _ 2 x t hx
    · exact hdec x t hx
  · have hx : (x, n) ∈ List.replicate (d.toNat % 10 + 2) (dvK, ((d.toNat % 10 : Nat) : Int)) := hx
    have hx := List.eq_of_mem_replicate hx
    cases hx
    show (IntKind.u8.wrap d).tmod 10 = _
    rw [IntKind.wrap_u8, Int.emod_eq_of_lt hd.1 (by omega), Int.tmod_eq_emod_of_nonneg hd.1]
    omega
end
theorem dv_bare : ∀ x ∈ dvArgs, x.bare := by
  intro x hx
  simp only [dvArgs, List.mem_cons, List.not_mem_nil, or_false] at hx
  rcases hx with rfl | rfl | rfl | rfl <;> exact fun _ _ => trivial
theorem dv_args {a b c d : Int} (ha : 0 ≤ a ∧ a ≤ 4294967295) (hb : 0 ≤ b ∧ b ≤ 4294967295) (hc : 0 ≤ c ∧ c ≤ 4294967295) (hd : 0 ≤ d ∧ d ≤ 255) : (dvArgs.map (V.den (dvEnv a b c d) noloc)).toArray = #[.int .u32 a, .int .u32 b, .int .u32 c, .int .u8 d] := by
  have e3 : IntKind.u8.wrap d = d := by rw [IntKind.wrap_u8, Int.emod_eq_of_lt hd.1 (by omega)]
  show #[Value.int .u32 (SE.eval (dvEnv a b c d) (.v .u32 0)), Value.int .u32 (SE.eval (dvEnv a b c d) (.v .u32 1)), Value.int .u32 (SE.eval (dvEnv a b c d) (.v .u32 2)), Value.int .u8 (IntKind.u8.wrap d)] = _
  rw [v0 ha, v1 hb, v2 hc, e3]
theorem wf_u32' {a : Int} (h : (Lit.int .u32 a).wf = true) : 0 ≤ a ∧ a ≤ 4294967295 := by
  simpa [Lit.wf, IntKind.has, IntKind.min, IntKind.max, IntKind.bits, IntKind.signed] using h
theorem wf_u8' {a : Int} (h : (Lit.int .u8 a).wf = true) : 0 ≤ a ∧ a ≤ 255 := by
  simpa [Lit.wf, IntKind.has, IntKind.min, IntKind.max, IntKind.bits, IntKind.signed] using h
theorem WholeDivides_walk (a0 a1 a2 a3 : Int) (w0 : (Lit.int .u32 a0).wf = true) (w1 : (Lit.int .u32 a1).wf = true) (w2 : (Lit.int .u32 a2).wf = true) (w3 : (Lit.int .u8 a3).wf = true) (w : World) :
    Calls Tryz.prog 7 #[.int .u32 a0, .int .u32 a1, .int .u32 a2, .int .u8 a3] w fun e w' => e = .returned (.bool true) ∧ Below w.heap.size w w' := by
  have h0 := wf_u32' w0
  have h1 := wf_u32' w1
  have h2 := wf_u32' w2
  have h3 := wf_u8' w3
  rw [← dv_args h0 h1 h2 h3]
  refine law_way (ρ := dvEnv a0 a1 a2 a3) (dv_all (a3.toNat % 10) _ _ _ _ (Nat.mod_lt _ (by decide)) fun hz => ?_) (dvMet_ok h0 h1 h2 h3) dv_bare w
  refine dvH_z h2 ?_
  unfold dvOf at hz
  rw [dvZ_b h2] at hz
  split at hz
  · rename_i h; simpa using h
  · split at hz <;> cases hz
end Go.Proofs.YtgeankpiediebaaGreat
