/-
  Plain laws of the words of the host machine: both readers read the same. No program in sight.
-/
import Derived.Test.YtndfcpkmchjncaaRvB
namespace Go.Proofs.Ytndfcpkmchjncaa
open Go.Sx
set_option linter.unusedVariables false
set_option linter.unusedSimpArgs false
set_option maxRecDepth 100000

theorem pX (x : Int) (a k s : Int) (A K S : Int) (kn sn M : Nat) (ha : (0 ≤ a ∧ a < 32) ∧ (0 ≤ k ∧ k ≤ 32)) (hA : (2 : Int) ^ a.toNat = A) (hK : (2 : Int) ^ k.toNat = K)
    (hk : (2 : Int) ^ kn = K) (hs : min s.toNat 32 = sn) (hS : (2 : Int) ^ sn = S) (hM : M = (2 ^ kn - 1) * 2 ^ sn) (hl : kn + sn ≤ 32) (hA0 : 0 < A) (hK0 : 0 < K) :
    Om M (ibin .shl .u32 (fld x a k) s) (x / A % K * S) := by
  rw [fld_l _ a k A K ha.1.1 ha.1.2 ha.2.1 ha.2.2 hA hK]
  exact Om.shl kn s sn M S (Int.emod_nonneg _ (Int.ne_of_gt hK0)) (by rw [hk]; exact Int.emod_lt_of_pos _ hK0) hs hS hM hl
theorem rvNumOf_2 (x : Int) (h0 : 0 ≤ x) (h1 : x < 4294967296) : rvNumOf 2 x = nI x := by
  have o := ((pX x 20 12 0 1048576 4096 1 12 0 4095 (by decide) (by decide) (by decide) (by decide) (by decide) (by decide) (by decide) (by decide) (by decide) (by decide))).1
  unfold rvNumOf
  simp only [ic_eq, Int.reduceEq, decide_true, decide_false, cond_true, cond_false, btSigned, btField]
  rw [o, sgn_12]; unfold nI; omega
theorem rvNumOf_3 (x : Int) (h0 : 0 ≤ x) (h1 : x < 4294967296) : rvNumOf 3 x = nI x := by
  have o := ((pX x 20 12 0 1048576 4096 1 12 0 4095 (by decide) (by decide) (by decide) (by decide) (by decide) (by decide) (by decide) (by decide) (by decide) (by decide))).1
  unfold rvNumOf
  simp only [ic_eq, Int.reduceEq, decide_true, decide_false, cond_true, cond_false, btSigned, btField]
  rw [o, sgn_12]; unfold nI; omega
theorem rvNumOf_4 (x : Int) (h0 : 0 ≤ x) (h1 : x < 4294967296) : rvNumOf 4 x = x / 1048576 % 32 := by
  have o := ((pX x 20 5 0 1048576 32 1 5 0 31 (by decide) (by decide) (by decide) (by decide) (by decide) (by decide) (by decide) (by decide) (by decide) (by decide))).1
  unfold rvNumOf
  simp only [ic_eq, Int.reduceEq, decide_true, decide_false, cond_true, cond_false, btSigned, btField]
  rw [o, IntKind.wrap_i32]; omega
theorem rvNumOf_5 (x : Int) (h0 : 0 ≤ x) (h1 : x < 4294967296) : rvNumOf 5 x = nS x := by
  have o := (((pX x 25 7 5 33554432 128 32 7 5 4064 (by decide) (by decide) (by decide) (by decide) (by decide) (by decide) (by decide) (by decide) (by decide) (by decide)).or (pX x 7 5 0 128 32 1 5 0 31 (by decide) (by decide) (by decide) (by decide) (by decide) (by decide) (by decide) (by decide) (by decide) (by decide)) (by decide))).1
  unfold rvNumOf
  simp only [ic_eq, Int.reduceEq, decide_true, decide_false, cond_true, cond_false, btSigned, btField]
  rw [o, sgn_12]; unfold nS; omega
theorem rvNumOf_6 (x : Int) (h0 : 0 ≤ x) (h1 : x < 4294967296) : rvNumOf 6 x = nB x := by
  have o := (((((pX x 31 1 12 2147483648 2 4096 1 12 4096 (by decide) (by decide) (by decide) (by decide) (by decide) (by decide) (by decide) (by decide) (by decide) (by decide)).or (pX x 25 6 5 33554432 64 32 6 5 2016 (by decide) (by decide) (by decide) (by decide) (by decide) (by decide) (by decide) (by decide) (by decide) (by decide)) (by decide)).or (pX x 8 4 1 256 16 2 4 1 30 (by decide) (by decide) (by decide) (by decide) (by decide) (by decide) (by decide) (by decide) (by decide) (by decide)) (by decide)).or (pX x 7 1 11 128 2 2048 1 11 2048 (by decide) (by decide) (by decide) (by decide) (by decide) (by decide) (by decide) (by decide) (by decide) (by decide)) (by decide))).1
  unfold rvNumOf
  simp only [ic_eq, Int.reduceEq, decide_true, decide_false, cond_true, cond_false, btSigned, btField]
  rw [o, sgn_13]; unfold nB; omega
theorem rvNumOf_7 (x : Int) (h0 : 0 ≤ x) (h1 : x < 4294967296) : rvNumOf 7 x = nU x := by
  unfold rvNumOf
  simp only [ic_eq, Int.reduceEq, decide_true, decide_false, cond_true, cond_false, btSigned, btField]
  rw [andNot_low x h0 h1, IntKind.wrap_i32]; unfold nU; omega
theorem rvNumOf_8 (x : Int) (h0 : 0 ≤ x) (h1 : x < 4294967296) : rvNumOf 8 x = nJ x := by
  have o := (((((pX x 31 1 20 2147483648 2 1048576 1 20 1048576 (by decide) (by decide) (by decide) (by decide) (by decide) (by decide) (by decide) (by decide) (by decide) (by decide)).or (pX x 21 10 1 2097152 1024 2 10 1 2046 (by decide) (by decide) (by decide) (by decide) (by decide) (by decide) (by decide) (by decide) (by decide) (by decide)) (by decide)).or (pX x 20 1 11 1048576 2 2048 1 11 2048 (by decide) (by decide) (by decide) (by decide) (by decide) (by decide) (by decide) (by decide) (by decide) (by decide)) (by decide)).or (pX x 12 8 12 4096 256 4096 8 12 1044480 (by decide) (by decide) (by decide) (by decide) (by decide) (by decide) (by decide) (by decide) (by decide) (by decide)) (by decide))).1
  unfold rvNumOf
  rw [show icmp .eql (8 : Int) 2 = false from rfl, cond_false, show icmp .eql (8 : Int) 3 = false from rfl, cond_false, show icmp .eql (8 : Int) 4 = false from rfl, cond_false, show icmp .eql (8 : Int) 5 = false from rfl, cond_false,
    show icmp .eql (8 : Int) 6 = false from rfl, cond_false, show icmp .eql (8 : Int) 7 = false from rfl, cond_false, show icmp .eql (8 : Int) 8 = true from rfl, cond_true]
  unfold btSigned btField
  show sgn (ibin .or .u32 (ibin .or .u32 (ibin .or .u32 (ibin .shl .u32 (fld x 31 1) 20) (ibin .shl .u32 (fld x 21 10) 1)) (ibin .shl .u32 (fld x 20 1) 11)) (ibin .shl .u32 (fld x 12 8) 12)) 21 = nJ x
  rw [o, sgn_21]; unfold nJ; omega
theorem rvNumOf_0 (f x : Int) (h : f = 1 ∨ f = 9) : rvNumOf f x = 0 := by
  rcases h with rfl | rfl <;> unfold rvNumOf <;> simp only [ic_eq, Int.reduceEq, decide_true, decide_false, cond_true, cond_false]
theorem rvNumOf_eq {f x : Int} (hf : 1 ≤ f ∧ f ≤ 9) (h0 : 0 ≤ x) (h1 : x < 4294967296) : rvNumOf f x = fN f x := by
  have : f = 1 ∨ f = 2 ∨ f = 3 ∨ f = 4 ∨ f = 5 ∨ f = 6 ∨ f = 7 ∨ f = 8 ∨ f = 9 := by omega
  rcases this with rfl | rfl | rfl | rfl | rfl | rfl | rfl | rfl | rfl
  · exact rvNumOf_0 _ _ (by decide)
  · exact rvNumOf_2 x h0 h1
  · exact rvNumOf_3 x h0 h1
  · exact rvNumOf_4 x h0 h1
  · exact rvNumOf_5 x h0 h1
  · exact rvNumOf_6 x h0 h1
  · exact rvNumOf_7 x h0 h1
  · exact rvNumOf_8 x h0 h1
  · exact rvNumOf_0 _ _ (by decide)

def qD (x : Int) : Int := bif rvParts_0 (rvOf_1 (rvOpOf x)) then x / 128 % 32 else 0
def qA (x : Int) : Int := bif rvParts_1 (rvOf_1 (rvOpOf x)) then x / 32768 % 32 else 0
def qB (x : Int) : Int := bif rvParts_2 (rvOf_1 (rvOpOf x)) then x / 1048576 % 32 else 0
def qN (x : Int) : Int := rvNumOf (rvOf_1 (rvOpOf x)) x
def qOk (x : Int) : Bool := rvOf_5 (rvOpOf x) && (decide (rvEnc_1 (rvOpOf x) (qD x) (qA x) (qB x) (qN x) = 0) && decide (rvEnc_0 (rvOpOf x) (qD x) (qA x) (qB x) (qN x) = x))
theorem g7 (x : Int) : IntKind.wrap .i64 (fld x 7 5) = x / 128 % 32 := by
  rw [fld_l x 7 5 128 32 (by decide) (by decide) (by decide) (by decide) (by decide) (by decide), IntKind.wrap_i64]; omega
theorem g15 (x : Int) : IntKind.wrap .i64 (fld x 15 5) = x / 32768 % 32 := by
  rw [fld_l x 15 5 32768 32 (by decide) (by decide) (by decide) (by decide) (by decide) (by decide), IntKind.wrap_i64]; omega
theorem g20 (x : Int) : IntKind.wrap .i64 (fld x 20 5) = x / 1048576 % 32 := by
  rw [fld_l x 20 5 1048576 32 (by decide) (by decide) (by decide) (by decide) (by decide) (by decide), IntKind.wrap_i64]; omega
theorem dec_if {α : Type} (p q : Prop) [Decidable p] [Decidable q] (v z : α) : (bif !decide p then z else bif !decide q then z else v) = bif (decide p && decide q) then v else z := by
  by_cases hp : p <;> by_cases hq : q <;> simp [hp, hq]
theorem rvDec_0_eq (x : Int) : rvDec_0 x = bif qOk x then rvOpOf x else 0 := by
  unfold rvDec_0 qOk qN qD qA qB
  simp only [ic_ne, btField, g7, g15, g20]
  cases rvOf_5 (rvOpOf x) <;> cases rvParts_0 (rvOf_1 (rvOpOf x)) <;> cases rvParts_1 (rvOf_1 (rvOpOf x)) <;> cases rvParts_2 (rvOf_1 (rvOpOf x)) <;> simp only [cond_true, cond_false, Bool.false_and, Bool.true_and] <;> first | rfl | exact dec_if _ _ _ _
theorem rvDec_1_eq (x : Int) : rvDec_1 x = bif qOk x then qD x else 0 := by
  unfold rvDec_1 qOk qN qD qA qB
  simp only [ic_ne, btField, g7, g15, g20]
  cases rvOf_5 (rvOpOf x) <;> cases rvParts_0 (rvOf_1 (rvOpOf x)) <;> cases rvParts_1 (rvOf_1 (rvOpOf x)) <;> cases rvParts_2 (rvOf_1 (rvOpOf x)) <;> simp only [cond_true, cond_false, Bool.false_and, Bool.true_and] <;> first | rfl | exact dec_if _ _ _ _
theorem rvDec_2_eq (x : Int) : rvDec_2 x = bif qOk x then qA x else 0 := by
  unfold rvDec_2 qOk qN qD qA qB
  simp only [ic_ne, btField, g7, g15, g20]
  cases rvOf_5 (rvOpOf x) <;> cases rvParts_0 (rvOf_1 (rvOpOf x)) <;> cases rvParts_1 (rvOf_1 (rvOpOf x)) <;> cases rvParts_2 (rvOf_1 (rvOpOf x)) <;> simp only [cond_true, cond_false, Bool.false_and, Bool.true_and] <;> first | rfl | exact dec_if _ _ _ _
theorem rvDec_3_eq (x : Int) : rvDec_3 x = bif qOk x then qB x else 0 := by
  unfold rvDec_3 qOk qN qD qA qB
  simp only [ic_ne, btField, g7, g15, g20]
  cases rvOf_5 (rvOpOf x) <;> cases rvParts_0 (rvOf_1 (rvOpOf x)) <;> cases rvParts_1 (rvOf_1 (rvOpOf x)) <;> cases rvParts_2 (rvOf_1 (rvOpOf x)) <;> simp only [cond_true, cond_false, Bool.false_and, Bool.true_and] <;> first | rfl | exact dec_if _ _ _ _
theorem rvDec_4_eq (x : Int) : rvDec_4 x = bif qOk x then qN x else 0 := by
  unfold rvDec_4 qOk qN qD qA qB
  simp only [ic_ne, btField, g7, g15, g20]
  cases rvOf_5 (rvOpOf x) <;> cases rvParts_0 (rvOf_1 (rvOpOf x)) <;> cases rvParts_1 (rvOf_1 (rvOpOf x)) <;> cases rvParts_2 (rvOf_1 (rvOpOf x)) <;> simp only [cond_true, cond_false, Bool.false_and, Bool.true_and] <;> first | rfl | exact dec_if _ _ _ _
theorem rvDec_5_eq (x : Int) : rvDec_5 x = bif qOk x then true else false := by
  unfold rvDec_5 qOk qN qD qA qB
  simp only [ic_ne, btField, g7, g15, g20]
  cases rvOf_5 (rvOpOf x) <;> cases rvParts_0 (rvOf_1 (rvOpOf x)) <;> cases rvParts_1 (rvOf_1 (rvOpOf x)) <;> cases rvParts_2 (rvOf_1 (rvOpOf x)) <;> simp only [cond_true, cond_false, Bool.false_and, Bool.true_and] <;> first | rfl | exact dec_if _ _ _ _

theorem q_form {x : Int} (h0 : 0 ≤ x) (h1 : x < 4294967296) (ho : 1 ≤ rvOpOf x ∧ rvOpOf x ≤ 47) :
    qD x = fD (rvOf_1 (rvOpOf x)) x ∧ qA x = fA (rvOf_1 (rvOpOf x)) x ∧ qB x = fB (rvOf_1 (rvOpOf x)) x ∧ qN x = fN (rvOf_1 (rvOpOf x)) x := by
  obtain ⟨-, -, -, hf⟩ := row ho.1 ho.2
  have f : rvOf_1 (rvOpOf x) = 1 ∨ rvOf_1 (rvOpOf x) = 2 ∨ rvOf_1 (rvOpOf x) = 3 ∨ rvOf_1 (rvOpOf x) = 4 ∨ rvOf_1 (rvOpOf x) = 5 ∨ rvOf_1 (rvOpOf x) = 6 ∨ rvOf_1 (rvOpOf x) = 7 ∨ rvOf_1 (rvOpOf x) = 8 ∨ rvOf_1 (rvOpOf x) = 9 := by omega
  refine ⟨?_, ?_, ?_, rvNumOf_eq (by omega) h0 h1⟩
  · unfold qD; rcases f with f | f | f | f | f | f | f | f | f <;> rw [f] <;> rfl
  · unfold qA; rcases f with f | f | f | f | f | f | f | f | f <;> rw [f] <;> rfl
  · unfold qB; rcases f with f | f | f | f | f | f | f | f | f <;> rw [f] <;> rfl

/-- what is written is read as the same -/
theorem rvDec_enc {op d a b n x : Int} (h : W op d a b n) (hb : -2147483648 ≤ n ∧ n < 2147483648) (hx : encS op d a b n = x) :
    rvDec_5 x = true ∧ rvDec_0 x = op ∧ rvDec_1 x = d ∧ rvDec_2 x = a ∧ rvDec_3 x = b ∧ rvDec_4 x = n := by
  have k := back h hb hx
  have ho : 1 ≤ rvOpOf x ∧ rvOpOf x ≤ 47 := by rw [k.kop]; exact h.1
  obtain ⟨q1, q2, q3, q4⟩ := q_form k.lo k.hi ho
  rw [k.kop] at q1 q2 q3 q4
  rw [k.kd] at q1
  rw [k.ka] at q2
  rw [k.kb] at q3
  rw [k.kn] at q4
  have ok : qOk x = true := by
    unfold qOk
    rw [k.kop, q1, q2, q3, q4, (row h.1.1 h.1.2).1, rvEnc_err h, rvEnc_sum h, hx]
    simp
  rw [rvDec_0_eq, rvDec_1_eq, rvDec_2_eq, rvDec_3_eq, rvDec_4_eq, rvDec_5_eq, ok]
  exact ⟨rfl, k.kop, q1, q2, q3, q4⟩
theorem fN_bd (f x : Int) : -2147483648 ≤ fN f x ∧ fN f x < 2147483648 := by
  unfold fN
  split
  · unfold nI; omega
  split
  · omega
  split
  · unfold nS; omega
  split
  · unfold nB; omega
  split
  · unfold nU; omega
  split
  · unfold nJ; omega
  omega
/-- what is read was written -/
theorem rvDec_was {x : Int} (h0 : 0 ≤ x) (h1 : x < 4294967296) (h : rvDec_5 x = true) :
    W (rvDec_0 x) (rvDec_1 x) (rvDec_2 x) (rvDec_3 x) (rvDec_4 x) ∧ (-2147483648 ≤ rvDec_4 x ∧ rvDec_4 x < 2147483648) ∧ encS (rvDec_0 x) (rvDec_1 x) (rvDec_2 x) (rvDec_3 x) (rvDec_4 x) = x := by
  have ok : qOk x = true := by
    rw [rvDec_5_eq] at h
    cases c : qOk x
    · rw [c] at h; cases h
    · rfl
  have ok2 := ok
  unfold qOk at ok
  simp only [Bool.and_eq_true, decide_eq_true_eq] at ok
  obtain ⟨k1, k2, k3⟩ := ok
  have ho : 1 ≤ rvOpOf x ∧ rvOpOf x ≤ 47 := by
    apply Classical.byContradiction
    intro c
    rw [(noRow c).1] at k1; cases k1
  rw [rvDec_0_eq, rvDec_1_eq, rvDec_2_eq, rvDec_3_eq, rvDec_4_eq, ok2]
  simp only [cond_true]
  have w : W (rvOpOf x) (qD x) (qA x) (qB x) (qN x) := by
    apply Classical.byContradiction
    intro c
    rw [(rvEnc_no c).2] at k2; cases k2
  refine ⟨w, ?_, ?_⟩
  · rw [(q_form h0 h1 ho).2.2.2]; exact fN_bd _ _
  · rw [← rvEnc_sum w]; exact k3
theorem rvDec_none {x : Int} (h : rvDec_5 x = false) : rvDec_0 x = 0 ∧ rvDec_1 x = 0 ∧ rvDec_2 x = 0 ∧ rvDec_3 x = 0 ∧ rvDec_4 x = 0 := by
  have ok : qOk x = false := by
    rw [rvDec_5_eq] at h
    cases c : qOk x
    · rfl
    · rw [c] at h; cases h
  rw [rvDec_0_eq, rvDec_1_eq, rvDec_2_eq, rvDec_3_eq, rvDec_4_eq, ok]
  exact ⟨rfl, rfl, rfl, rfl, rfl⟩
end Go.Proofs.Ytndfcpkmchjncaa
