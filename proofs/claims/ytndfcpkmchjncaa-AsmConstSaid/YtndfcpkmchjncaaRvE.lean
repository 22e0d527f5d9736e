/-
  Plain laws of the words of the host machine: their bits as sums. No program in sight.
-/
import Derived.Test.YtndfcpkmchjncaaRvP
namespace Go.Proofs.Ytndfcpkmchjncaa
open Go.Sx
set_option linter.unusedVariables false
set_option linter.unusedSimpArgs false
set_option maxRecDepth 100000

/-- a number's bits where a form has them -/
def immS (f n : Int) : Int :=
  if f = 2 ∨ f = 3 ∨ f = 4 then n % 4096 * 1048576
  else if f = 5 then n / 32 % 128 * 33554432 + n % 32 * 128
  else if f = 6 then n / 4096 % 2 * 2147483648 + n / 32 % 64 * 33554432 + n / 2 % 16 * 256 + n / 2048 % 2 * 128
  else if f = 7 then n % 4294967296
  else if f = 8 then n / 1048576 % 2 * 2147483648 + n / 2 % 1024 * 2097152 + n / 2048 % 2 * 1048576 + n / 4096 % 256 * 4096
  else 0
/-- a word's bits -/
def encS (op d a b n : Int) : Int :=
  rvOf_2 op + 128 * d + 4096 * rvOf_3 op + 32768 * a + 1048576 * b + 33554432 * rvOf_4 op + immS (rvOf_1 op) n + (if op = 47 then 1048576 else 0)

theorem pD {d : Int} (h : Rg d) : Om 3968 (ibin .shl .u32 (IntKind.wrap .u32 d) 7) (d * 128) := by
  have e : IntKind.wrap .u32 d = d := by rw [IntKind.wrap_u32]; unfold Rg at h; omega
  rw [e]
  exact Om.shl 5 7 7 3968 128 h.1 (by have := h.2; simpa using this) (by decide) (by decide) (by decide) (by decide)
theorem pA {d : Int} (h : Rg d) : Om 1015808 (ibin .shl .u32 (IntKind.wrap .u32 d) 15) (d * 32768) := by
  have e : IntKind.wrap .u32 d = d := by rw [IntKind.wrap_u32]; unfold Rg at h; omega
  rw [e]
  exact Om.shl 5 15 15 1015808 32768 h.1 (by have := h.2; simpa using this) (by decide) (by decide) (by decide) (by decide)
theorem pB {d : Int} (h : Rg d) : Om 32505856 (ibin .shl .u32 (IntKind.wrap .u32 d) 20) (d * 1048576) := by
  have e : IntKind.wrap .u32 d = d := by rw [IntKind.wrap_u32]; unfold Rg at h; omega
  rw [e]
  exact Om.shl 5 20 20 32505856 1048576 h.1 (by have := h.2; simpa using this) (by decide) (by decide) (by decide) (by decide)
theorem p3 {f : Int} (h0 : 0 ≤ f) (h1 : f < 8) : Om 28672 (ibin .shl .u32 f 12) (f * 4096) :=
  Om.shl 3 12 12 28672 4096 h0 (by simpa using h1) (by decide) (by decide) (by decide) (by decide)
theorem p7 {f : Int} (h0 : 0 ≤ f) (h1 : f < 128) : Om 4261412864 (ibin .shl .u32 f 25) (f * 33554432) :=
  Om.shl 7 25 25 4261412864 33554432 h0 (by simpa using h1) (by decide) (by decide) (by decide) (by decide)
theorem pO {f : Int} (h0 : 0 ≤ f) (h1 : f < 128) : Om 127 f f := Om.low 7 127 h0 (by simpa using h1) (by decide)
theorem z7 : Om 0 (ibin .shl .u32 (IntKind.wrap .u32 0) 7) 0 := Om.zero
theorem z12 : Om 0 (ibin .shl .u32 0 12) 0 := Om.zero
theorem z15 : Om 0 (ibin .shl .u32 (IntKind.wrap .u32 0) 15) 0 := Om.zero
theorem z20 : Om 0 (ibin .shl .u32 (IntKind.wrap .u32 0) 20) 0 := Om.zero
theorem z25 : Om 0 (ibin .shl .u32 0 25) 0 := Om.zero

/-- a piece of a number: from bit a, k bits, to place s -/
theorem pF (n : Int) (a k s : Int) (A K S : Int) (kn sn M : Nat) (ha : (0 ≤ a ∧ a < 32) ∧ (0 ≤ k ∧ k ≤ 32)) (hA : (2 : Int) ^ a.toNat = A) (hK : (2 : Int) ^ k.toNat = K) (hd : (A * K) ∣ 4294967296)
    (hk : (2 : Int) ^ kn = K) (hs : min s.toNat 32 = sn) (hS : (2 : Int) ^ sn = S) (hM : M = (2 ^ kn - 1) * 2 ^ sn) (hl : kn + sn ≤ 32) (hA0 : 0 < A) (hK0 : 0 < K) :
    Om M (ibin .shl .u32 (fld (IntKind.wrap .u32 n) a k) s) (n / A % K * S) := by
  have e : fld (IntKind.wrap .u32 n) a k = n / A % K := by
    rw [fld_l _ a k A K ha.1.1 ha.1.2 ha.2.1 ha.2.2 hA hK, IntKind.wrap_u32]
    obtain ⟨c, hc⟩ := hd
    have h1 : n % 4294967296 = n - 4294967296 * (n / 4294967296) := by have := Int.emod_add_mul_ediv n 4294967296; omega
    have h2 : n - 4294967296 * (n / 4294967296) = n + A * (K * (c * -(n / 4294967296))) := by
      rw [hc, Int.mul_neg, Int.mul_neg, Int.mul_neg]
      simp only [Int.mul_assoc]
      omega
    rw [h1, h2, Int.add_mul_ediv_left _ _ (Int.ne_of_gt hA0), Int.add_mul_emod_self_left]
  rw [e]
  exact Om.shl kn s sn M S (Int.emod_nonneg _ (Int.ne_of_gt hK0)) (by rw [hk]; exact Int.emod_lt_of_pos _ hK0) hs hS hM hl

theorem im2 (f n : Int) (h : f = 2 ∨ f = 3 ∨ f = 4) : Om 4293918720 (rvImm f n) (n / 1 % 4096 * 1048576) := by
  have := pF n 0 12 20 1 4096 1048576 12 20 4293918720 (by decide) (by decide) (by decide) (by decide) (by decide) (by decide) (by decide) (by decide) (by decide) (by decide) (by decide)
  rcases h with rfl | rfl | rfl <;> exact this
theorem im4 (n : Int) (h0 : 0 ≤ n) (h1 : n < 32) : Om 32505856 (rvImm 4 n) (n * 1048576) := by
  have e : fld (IntKind.wrap .u32 n) 0 12 = n := by
    rw [fld_l _ 0 12 1 4096 (by decide) (by decide) (by decide) (by decide) (by decide) (by decide), IntKind.wrap_u32]; omega
  show Om 32505856 (ibin .shl .u32 (fld (IntKind.wrap .u32 n) 0 12) 20) _
  rw [e]
  exact Om.shl 5 20 20 32505856 1048576 h0 (by simpa using h1) (by decide) (by decide) (by decide) (by decide)
theorem im5 (n : Int) : Om 4261416832 (rvImm 5 n) (n / 32 % 128 * 33554432 + n / 1 % 32 * 128) :=
  (pF n 5 7 25 32 128 33554432 7 25 4261412864 (by decide) (by decide) (by decide) (by decide) (by decide) (by decide) (by decide) (by decide) (by decide) (by decide) (by decide)).or
    (pF n 0 5 7 1 32 128 5 7 3968 (by decide) (by decide) (by decide) (by decide) (by decide) (by decide) (by decide) (by decide) (by decide) (by decide) (by decide)) (by decide)
theorem im6 (n : Int) : Om 4261416832 (rvImm 6 n) (n / 4096 % 2 * 2147483648 + n / 32 % 64 * 33554432 + n / 2 % 16 * 256 + n / 2048 % 2 * 128) :=
  (((pF n 12 1 31 4096 2 2147483648 1 31 2147483648 (by decide) (by decide) (by decide) (by decide) (by decide) (by decide) (by decide) (by decide) (by decide) (by decide) (by decide)).or
    (pF n 5 6 25 32 64 33554432 6 25 2113929216 (by decide) (by decide) (by decide) (by decide) (by decide) (by decide) (by decide) (by decide) (by decide) (by decide) (by decide)) (by decide)).or
    (pF n 1 4 8 2 16 256 4 8 3840 (by decide) (by decide) (by decide) (by decide) (by decide) (by decide) (by decide) (by decide) (by decide) (by decide) (by decide)) (by decide)).or
    (pF n 11 1 7 2048 2 128 1 7 128 (by decide) (by decide) (by decide) (by decide) (by decide) (by decide) (by decide) (by decide) (by decide) (by decide) (by decide)) (by decide)
theorem im7 (n : Int) (h : n % 4096 = 0) : Om 4294963200 (IntKind.wrap .u32 n) (n % 4294967296) := by
  refine ⟨IntKind.wrap_u32 n, in_high 12 20 4294963200 4096 (by omega) (by omega) ?_ (by decide) (by decide)⟩
  have : n % 4294967296 / 4096 < 1048576 := by omega
  simpa using this
theorem im8 (n : Int) : Om 4294963200 (rvImm 8 n) (n / 1048576 % 2 * 2147483648 + n / 2 % 1024 * 2097152 + n / 2048 % 2 * 1048576 + n / 4096 % 256 * 4096) :=
  (((pF n 20 1 31 1048576 2 2147483648 1 31 2147483648 (by decide) (by decide) (by decide) (by decide) (by decide) (by decide) (by decide) (by decide) (by decide) (by decide) (by decide)).or
    (pF n 1 10 21 2 1024 2097152 10 21 2145386496 (by decide) (by decide) (by decide) (by decide) (by decide) (by decide) (by decide) (by decide) (by decide) (by decide) (by decide)) (by decide)).or
    (pF n 11 1 20 2048 2 1048576 1 20 1048576 (by decide) (by decide) (by decide) (by decide) (by decide) (by decide) (by decide) (by decide) (by decide) (by decide) (by decide)) (by decide)).or
    (pF n 12 8 12 4096 256 4096 8 12 1044480 (by decide) (by decide) (by decide) (by decide) (by decide) (by decide) (by decide) (by decide) (by decide) (by decide) (by decide)) (by decide)

theorem rvEnc_no {op d a b n : Int} (h : ¬ W op d a b n) : rvEnc_0 op d a b n = 0 ∧ rvEnc_1 op d a b n = 12 := by
  have e : rvIs op d a b n = false := by
    cases hc : rvIs op d a b n
    · rfl
    · exact absurd ((rvIs_iff _ _ _ _ _).1 hc) h
  unfold rvEnc_0 rvEnc_1
  rw [e]; exact ⟨rfl, rfl⟩
theorem rfEnc_no {op d a b n : Int} (h : ¬ W op d a b n) : rfEnc_0 op d a b n = 0 ∧ rfEnc_1 op d a b n = false := by
  have e : rfIs op d a b n = false := by
    cases hc : rfIs op d a b n
    · rfl
    · exact absurd ((rfIs_iff _ _ _ _ _).1 hc) h
  unfold rfEnc_0 rfEnc_1
  rw [e]; exact ⟨rfl, rfl⟩
theorem rvEnc_err {op d a b n : Int} (h : W op d a b n) : rvEnc_1 op d a b n = 0 := by
  unfold rvEnc_1
  rw [(rvIs_iff _ _ _ _ _).2 h, cond_true]
  cases icmp .eql op 47 <;> rfl
theorem rfEnc_ok' {op d a b n : Int} (h : W op d a b n) : rfEnc_1 op d a b n = true := by
  unfold rfEnc_1
  rw [(rfIs_iff _ _ _ _ _).2 h, cond_true]
  simp

theorem rvEnc_sum {op d a b n : Int} (h : W op d a b n) : rvEnc_0 op d a b n = encS op d a b n := by
  have hi := (rvIs_iff _ _ _ _ _).2 h
  obtain ⟨⟨h1, h2⟩, hw⟩ := h
  obtain ⟨-, ⟨o0, o1, t0, t1, s0, s1⟩, -, hf⟩ := row h1 h2
  unfold rvEnc_0
  rw [hi, cond_true]
  have no (hne : op ≠ 47) : icmp .eql op 47 = false := by rw [ic_eq]; exact decide_eq_false hne
  rcases hw with ⟨f, hd, ha, hb, hn⟩ | ⟨f, hd, ha, hb, hn⟩ | ⟨f, hd, ha, hb, hn⟩ | ⟨f, hd, ha, hb, hn⟩ | ⟨f, hd, ha, hb, hn⟩ | ⟨f, hd, ha, hb, hn⟩ | ⟨f, hd, ha, hb, hn⟩ | ⟨f, hd, ha, hb, hn⟩
  · have hne : op ≠ 47 := by omega
    have im : Om 0 (rvImm (rvOf_1 op) n) 0 := by rw [f]; exact Om.zero
    have := ((((((pO o0 o1).or (pD hd) (by decide)).or (p3 t0 t1) (by decide)).or (pA ha) (by decide)).or (pB hb) (by decide)).or (p7 s0 s1) (by decide)).or im (by decide)
    simp only [no hne, cond_false]
    rw [this.1]
    unfold encS immS
    rw [f, if_neg hne]
    simp only [Int.reduceEq, or_self, or_false, false_or, if_false]
    omega
  · have hne : op ≠ 47 := by omega
    have z : rvOf_4 op = 0 := by omega
    have im := im2 (rvOf_1 op) n (by omega)
    subst hb
    have := ((((((pO o0 o1).or (pD hd) (by decide)).or (p3 t0 t1) (by decide)).or (pA ha) (by decide)).or z20 (by decide)).or z25 (by decide)).or im (by decide)
    simp only [no hne, cond_false, z]
    rw [this.1]
    unfold encS immS
    rw [if_pos (by omega), if_neg hne, z]
    omega
  · have hne : op ≠ 47 := by omega
    have im := im4 n hn.1 hn.2
    subst hb
    rw [← f] at im
    have := ((((((pO o0 o1).or (pD hd) (by decide)).or (p3 t0 t1) (by decide)).or (pA ha) (by decide)).or z20 (by decide)).or (p7 s0 s1) (by decide)).or im (by decide)
    simp only [no hne, cond_false]
    rw [this.1]
    unfold encS immS
    rw [if_pos (by omega), if_neg hne]
    omega
  · have hne : op ≠ 47 := by omega
    have z : rvOf_4 op = 0 := by omega
    have im := im5 n
    rw [← f] at im
    subst hd
    have := ((((((pO o0 o1).or z7 (by decide)).or (p3 t0 t1) (by decide)).or (pA ha) (by decide)).or (pB hb) (by decide)).or z25 (by decide)).or im (by decide)
    simp only [no hne, cond_false, z]
    rw [this.1]
    unfold encS immS
    rw [f, if_neg hne, z]
    simp only [Int.reduceEq, or_self, or_false, false_or, if_false, if_true]
    omega
  · have hne : op ≠ 47 := by omega
    have z : rvOf_4 op = 0 := by omega
    have im := im6 n
    rw [← f] at im
    subst hd
    have := ((((((pO o0 o1).or z7 (by decide)).or (p3 t0 t1) (by decide)).or (pA ha) (by decide)).or (pB hb) (by decide)).or z25 (by decide)).or im (by decide)
    simp only [no hne, cond_false, z]
    rw [this.1]
    unfold encS immS
    rw [f, if_neg hne, z]
    simp only [Int.reduceEq, or_self, or_false, false_or, if_false, if_true]
    omega
  · have hne : op ≠ 47 := by omega
    have z : rvOf_3 op = 0 ∧ rvOf_4 op = 0 := by omega
    have im : Om 4294963200 (rvImm (rvOf_1 op) n) (n % 4294967296) := by rw [f]; exact im7 n hn
    subst ha
    subst hb
    have := ((((((pO o0 o1).or (pD hd) (by decide)).or z12 (by decide)).or z15 (by decide)).or z20 (by decide)).or z25 (by decide)).or im (by decide)
    simp only [no hne, cond_false, z.1, z.2]
    rw [this.1]
    unfold encS immS
    rw [f, if_neg hne, z.1, z.2]
    simp only [Int.reduceEq, or_self, or_false, false_or, if_false, if_true]
    omega
  · have hne : op ≠ 47 := by omega
    have z : rvOf_3 op = 0 ∧ rvOf_4 op = 0 := by omega
    have im := im8 n
    rw [← f] at im
    subst ha
    subst hb
    have := ((((((pO o0 o1).or (pD hd) (by decide)).or z12 (by decide)).or z15 (by decide)).or z20 (by decide)).or z25 (by decide)).or im (by decide)
    simp only [no hne, cond_false, z.1, z.2]
    rw [this.1]
    unfold encS immS
    rw [f, if_neg hne, z.1, z.2]
    simp only [Int.reduceEq, or_self, or_false, false_or, if_false, if_true]
    omega
  · obtain ⟨rfl, rfl, rfl⟩ : d = 0 ∧ a = 0 ∧ b = 0 := ⟨hd, ha, hb⟩
    subst hn
    have : op = 46 ∨ op = 47 := by omega
    rcases this with rfl | rfl <;> rfl
theorem rI (n : Int) : Om 4293918720 (ibin .shl .u32 (IntKind.wrap .u32 n) 20) (n % 4096 * 1048576) := by
  refine ⟨?_, in_shift (k := 12) (by omega) (by have : n % 4096 < 4096 := by omega
                                                simpa using this) 20 4293918720 1048576 (by decide) (by decide)⟩
  rw [shl_u32 _ 20 20 1048576 (by decide) (by decide), IntKind.wrap_u32]; omega
theorem rH {n : Int} (h0 : 0 ≤ n) (h1 : n < 32) : Om 32505856 (ibin .shl .u32 (IntKind.wrap .u32 n) 20) (n * 1048576) := pB ⟨h0, h1⟩

theorem rfEnc_sum {op d a b n : Int} (h : W op d a b n) : rfEnc_0 op d a b n = encS op d a b n := by
  have hi := (rfIs_iff _ _ _ _ _).2 h
  obtain ⟨⟨h1, h2⟩, hw⟩ := h
  obtain ⟨-, ⟨o0, o1, t0, t1, s0, s1⟩, ⟨q1, q2⟩, hf⟩ := row h1 h2
  unfold rfEnc_0
  rw [hi, cond_true, q1, q2]
  rcases hw with ⟨f, hd, ha, hb, hn⟩ | ⟨f, hd, ha, hb, hn⟩ | ⟨f, hd, ha, hb, hn⟩ | ⟨f, hd, ha, hb, hn⟩ | ⟨f, hd, ha, hb, hn⟩ | ⟨f, hd, ha, hb, hn⟩ | ⟨f, hd, ha, hb, hn⟩ | ⟨f, hd, ha, hb, hn⟩
  · have hne : op ≠ 47 := by omega
    have g : rfOf_0 op = 82 := by omega
    have g7 : rfOf_3 op = rvOf_4 op := by omega
    have := ((((((pO o0 o1).or (p3 t0 t1) (by decide)).or (pD hd) (by decide)).or (pA ha) (by decide)).or (pB hb) (by decide)).or (p7 s0 s1) (by decide))
    rw [g]
    simp only [ic_eq, rfField, Int.reduceEq, decide_true, decide_false, cond_true, cond_false]
    first | rw [this.1] | (rw [g7]; rw [this.1])
    unfold encS immS
    rw [f, if_neg hne]
    simp only [Int.reduceEq, or_self, or_false, false_or, if_false, if_true]
    omega
  · have hne : op ≠ 47 := by omega
    have g : rfOf_0 op = 73 := by omega
    have z : rvOf_4 op = 0 := by omega
    have g7 : rfOf_3 op = rfOf_3 op := rfl
    have := (((((pO o0 o1).or (p3 t0 t1) (by decide)).or (pD hd) (by decide)).or (pA ha) (by decide)).or (rI n) (by decide))
    rw [g]
    simp only [ic_eq, rfField, Int.reduceEq, decide_true, decide_false, cond_true, cond_false]
    first | rw [this.1] | (rw [g7]; rw [this.1])
    unfold encS immS
    rw [if_pos (by omega), if_neg hne, z]
    omega
  · have hne : op ≠ 47 := by omega
    have g : rfOf_0 op = 72 := by omega
    have g7 : rfOf_3 op = rvOf_4 op := by omega
    have := ((((((pO o0 o1).or (p3 t0 t1) (by decide)).or (pD hd) (by decide)).or (pA ha) (by decide)).or (rH hn.1 hn.2) (by decide)).or (p7 s0 s1) (by decide))
    rw [g]
    simp only [ic_eq, rfField, Int.reduceEq, decide_true, decide_false, cond_true, cond_false]
    first | rw [this.1] | (rw [g7]; rw [this.1])
    unfold encS immS
    rw [if_pos (by omega), if_neg hne]
    omega
  · have hne : op ≠ 47 := by omega
    have g : rfOf_0 op = 83 := by omega
    have z : rvOf_4 op = 0 := by omega
    have g7 : rfOf_3 op = rfOf_3 op := rfl
    have := ((((((pO o0 o1).or (p3 t0 t1) (by decide)).or (pA ha) (by decide)).or (pB hb) (by decide)).or (pF n 0 5 7 1 32 128 5 7 3968 (by decide) (by decide) (by decide) (by decide) (by decide) (by decide) (by decide) (by decide) (by decide) (by decide) (by decide)) (by decide)).or (pF n 5 7 25 32 128 33554432 7 25 4261412864 (by decide) (by decide) (by decide) (by decide) (by decide) (by decide) (by decide) (by decide) (by decide) (by decide) (by decide)) (by decide))
    rw [g]
    simp only [ic_eq, rfField, Int.reduceEq, decide_true, decide_false, cond_true, cond_false]
    first | rw [this.1] | (rw [g7]; rw [this.1])
    unfold encS immS
    rw [f, if_neg hne, z]
    simp only [Int.reduceEq, or_self, or_false, false_or, if_false, if_true]
    omega
  · have hne : op ≠ 47 := by omega
    have g : rfOf_0 op = 66 := by omega
    have z : rvOf_4 op = 0 := by omega
    have g7 : rfOf_3 op = rfOf_3 op := rfl
    have := ((((((((pO o0 o1).or (p3 t0 t1) (by decide)).or (pA ha) (by decide)).or (pB hb) (by decide)).or (pF n 11 1 7 2048 2 128 1 7 128 (by decide) (by decide) (by decide) (by decide) (by decide) (by decide) (by decide) (by decide) (by decide) (by decide) (by decide)) (by decide)).or (pF n 1 4 8 2 16 256 4 8 3840 (by decide) (by decide) (by decide) (by decide) (by decide) (by decide) (by decide) (by decide) (by decide) (by decide) (by decide)) (by decide)).or (pF n 5 6 25 32 64 33554432 6 25 2113929216 (by decide) (by decide) (by decide) (by decide) (by decide) (by decide) (by decide) (by decide) (by decide) (by decide) (by decide)) (by decide)).or (pF n 12 1 31 4096 2 2147483648 1 31 2147483648 (by decide) (by decide) (by decide) (by decide) (by decide) (by decide) (by decide) (by decide) (by decide) (by decide) (by decide)) (by decide))
    rw [g]
    simp only [ic_eq, rfField, Int.reduceEq, decide_true, decide_false, cond_true, cond_false]
    first | rw [this.1] | (rw [g7]; rw [this.1])
    unfold encS immS
    rw [f, if_neg hne, z]
    simp only [Int.reduceEq, or_self, or_false, false_or, if_false, if_true]
    omega
  · have hne : op ≠ 47 := by omega
    have g : rfOf_0 op = 85 := by omega
    have z : rvOf_3 op = 0 ∧ rvOf_4 op = 0 := by omega
    have g7 : rfOf_3 op = rfOf_3 op := rfl
    have := (((pO o0 o1).or (pD hd) (by decide)).or (im7 n hn) (by decide))
    rw [g]
    simp only [ic_eq, rfField, Int.reduceEq, decide_true, decide_false, cond_true, cond_false]
    first | rw [this.1] | (rw [g7]; rw [this.1])
    unfold encS immS
    rw [f, if_neg hne, z.1, z.2]
    simp only [Int.reduceEq, or_self, or_false, false_or, if_false, if_true]
    omega
  · have hne : op ≠ 47 := by omega
    have g : rfOf_0 op = 74 := by omega
    have z : rvOf_3 op = 0 ∧ rvOf_4 op = 0 := by omega
    have g7 : rfOf_3 op = rfOf_3 op := rfl
    have := ((((((pO o0 o1).or (pD hd) (by decide)).or (pF n 12 8 12 4096 256 4096 8 12 1044480 (by decide) (by decide) (by decide) (by decide) (by decide) (by decide) (by decide) (by decide) (by decide) (by decide) (by decide)) (by decide)).or (pF n 11 1 20 2048 2 1048576 1 20 1048576 (by decide) (by decide) (by decide) (by decide) (by decide) (by decide) (by decide) (by decide) (by decide) (by decide) (by decide)) (by decide)).or (pF n 1 10 21 2 1024 2097152 10 21 2145386496 (by decide) (by decide) (by decide) (by decide) (by decide) (by decide) (by decide) (by decide) (by decide) (by decide) (by decide)) (by decide)).or (pF n 20 1 31 1048576 2 2147483648 1 31 2147483648 (by decide) (by decide) (by decide) (by decide) (by decide) (by decide) (by decide) (by decide) (by decide) (by decide) (by decide)) (by decide))
    rw [g]
    simp only [ic_eq, rfField, Int.reduceEq, decide_true, decide_false, cond_true, cond_false]
    first | rw [this.1] | (rw [g7]; rw [this.1])
    unfold encS immS
    rw [f, if_neg hne, z.1, z.2]
    simp only [Int.reduceEq, or_self, or_false, false_or, if_false, if_true]
    omega
  · obtain ⟨rfl, rfl, rfl⟩ : d = 0 ∧ a = 0 ∧ b = 0 := ⟨hd, ha, hb⟩
    subst hn
    have : op = 46 ∨ op = 47 := by omega
    rcases this with rfl | rfl <;> rfl
end Go.Proofs.Ytndfcpkmchjncaa
