/-
  The laws RvTells, RvBack, RvApart: what they say of plain functions; words' texts tell the words. No program in sight.
-/
import Derived.Test.YtahhfjmgdalfpaaDoorRvL
import Derived.Test.YtahhfjmgdalfpaaDoorRvT
namespace Go.Proofs.YtahhfjmgdalfpaaDoor
open Go.Sx
set_option linter.unusedVariables false
set_option linter.unusedSimpArgs false
set_option maxRecDepth 100000

/-! ### Numerals -/
def valD (l : List UInt8) : Nat := l.foldl (fun a b => 10 * a + (b.toNat - 48)) 0
theorem valD_snoc (l : List UInt8) (b : UInt8) : valD (l ++ [b]) = 10 * valD l + (b.toNat - 48) := by simp [valD]
theorem dig_nat {c : Nat} (h : c < 10) : (UInt8.ofNat (48 + c)).toNat = 48 + c := by rw [UInt8.toNat_ofNat']; omega
theorem valD_dec (u : Nat) : valD (Lib.decDigits u) = u := by
  induction u using Nat.strongRecOn with
  | _ u ih =>
    by_cases h : u < 10
    · rw [Lib.decDigits_one h]
      show 10 * 0 + ((UInt8.ofNat (48 + u)).toNat - 48) = u
      rw [dig_nat h]; omega
    · have e : Lib.decDigits u = Lib.decDigits (u / 10) ++ [UInt8.ofNat (48 + u % 10)] := by rw [Lib.decDigits, dif_neg h]
      rw [e, valD_snoc, ih (u / 10) (by omega), dig_nat (by omega)]; omega
theorem dec_mem (u : Nat) : ∀ b ∈ Lib.decDigits u, 48 ≤ b.toNat ∧ b.toNat ≤ 57 := by
  induction u using Nat.strongRecOn with
  | _ u ih =>
    intro b hb
    by_cases h : u < 10
    · rw [Lib.decDigits_one h] at hb
      have := List.mem_singleton.1 hb
      rw [this, dig_nat h]; omega
    · have e : Lib.decDigits u = Lib.decDigits (u / 10) ++ [UInt8.ofNat (48 + u % 10)] := by rw [Lib.decDigits, dif_neg h]
      rw [e] at hb
      rcases List.mem_append.1 hb with hb | hb
      · exact ih (u / 10) (by omega) b hb
      · have := List.mem_singleton.1 hb
        rw [this, dig_nat (by omega)]; omega
theorem itoa_mem (n : Int) : ∀ b ∈ Lib.itoa n, b.toNat = 45 ∨ (48 ≤ b.toNat ∧ b.toNat ≤ 57) := by
  intro b hb
  unfold Lib.itoa at hb
  split at hb
  · rcases List.mem_cons.1 hb with rfl | hb
    · exact Or.inl rfl
    · exact Or.inr (dec_mem _ b hb)
  · exact Or.inr (dec_mem _ b hb)
theorem dec_inj {u v : Nat} (h : Lib.decDigits u = Lib.decDigits v) : u = v := by
  have := congrArg valD h
  rwa [valD_dec, valD_dec] at this
theorem itoa_inj {m n : Int} (h : Lib.itoa m = Lib.itoa n) : m = n := by
  unfold Lib.itoa at h
  by_cases hm : m < 0 <;> by_cases hn : n < 0
  · rw [if_pos hm, if_pos hn] at h
    have := dec_inj (List.cons.inj h).2
    omega
  · rw [if_pos hm, if_neg hn] at h
    have := dec_mem n.toNat 45 (by rw [← h]; exact List.mem_cons_self)
    exact absurd this (by decide)
  · rw [if_neg hm, if_pos hn] at h
    have := dec_mem m.toNat 45 (by rw [h]; exact List.mem_cons_self)
    exact absurd this (by decide)
  · rw [if_neg hm, if_neg hn] at h
    have := dec_inj h
    omega
/-- a number's text -/
def T (n : Int) : List UInt8 := Lib.itoa (IntKind.wrap .i64 n)
theorem T_mem (n : Int) (b : UInt8) (h : b ∈ T n) : b ≠ 44 ∧ b ≠ 40 ∧ b ≠ 41 ∧ b ≠ 32 := by
  have := itoa_mem _ b h
  refine ⟨?_, ?_, ?_, ?_⟩ <;> rintro rfl <;> revert this <;> decide
theorem T_inj {m n : Int} (h : T m = T n) (hm : -9223372036854775808 ≤ m ∧ m < 9223372036854775808) (hn : -9223372036854775808 ≤ n ∧ n < 9223372036854775808) : m = n := by
  have := itoa_inj h
  rw [IntKind.wrap_i64, IntKind.wrap_i64] at this
  omega
theorem part_at (c : UInt8) : ∀ {l m r s : List UInt8}, c ∉ l → c ∉ m → l ++ c :: r = m ++ c :: s → l = m ∧ r = s
  | [], [], r, s, _, _, h => ⟨rfl, (List.cons.inj h).2⟩
  | [], b :: m, r, s, _, hm, h => (hm (by rw [(List.cons.inj h).1]; exact List.mem_cons_self)).elim
  | b :: l, [], r, s, hl, _, h => (hl (by rw [← (List.cons.inj h).1]; exact List.mem_cons_self)).elim
  | a :: l, b :: m, r, s, hl, hm, h => by
    have h1 := (List.cons.inj h).1
    have h2 := part_at c (fun q => hl (List.mem_cons_of_mem _ q)) (fun q => hm (List.mem_cons_of_mem _ q)) (List.cons.inj h).2
    exact ⟨by rw [h1, h2.1], h2.2⟩
theorem at44 {m n : Int} {r s : List UInt8} (h : T m ++ 44 :: r = T n ++ 44 :: s) : T m = T n ∧ r = s := part_at 44 (fun q => (T_mem _ _ q).1 rfl) (fun q => (T_mem _ _ q).1 rfl) h
theorem at40 {m n : Int} {r s : List UInt8} (h : T m ++ 40 :: r = T n ++ 40 :: s) : T m = T n ∧ r = s := part_at 40 (fun q => (T_mem _ _ q).2.1 rfl) (fun q => (T_mem _ _ q).2.1 rfl) h
theorem at41 {m n : Int} {r s : List UInt8} (h : T m ++ 41 :: r = T n ++ 41 :: s) : T m = T n ∧ r = s := part_at 41 (fun q => (T_mem _ _ q).2.2.1 rfl) (fun q => (T_mem _ _ q).2.2.1 rfl) h

/-! ### Texts -/
def nmL (op : Int) : List UInt8 := (rvOf_0 op).data.toList
def tail (f d a b n : Int) : List UInt8 :=
  if f = 1 then 32 :: 120 :: (T d ++ 44 :: 120 :: (T a ++ 44 :: 120 :: T b))
  else if f = 2 ∨ f = 4 then 32 :: 120 :: (T d ++ 44 :: 120 :: (T a ++ 44 :: T n))
  else if f = 3 then 32 :: 120 :: (T d ++ 44 :: (T n ++ 40 :: 120 :: (T a ++ 41 :: [])))
  else if f = 5 then 32 :: 120 :: (T b ++ 44 :: (T n ++ 40 :: 120 :: (T a ++ 41 :: [])))
  else if f = 6 then 32 :: 120 :: (T a ++ 44 :: 120 :: (T b ++ 44 :: T n))
  else if f = 7 ∨ f = 8 then 32 :: 120 :: (T d ++ 44 :: T n)
  else []
def txt (op d a b n : Int) : List UInt8 := nmL op ++ tail (rvOf_1 op) d a b n
theorem sc_list (n : Int) : (scItoa n).data.toList = T n := by simp [scItoa, itoaB, T]
theorem rd_list (n : Int) : (rfDigits n).data.toList = T n := by simp [rfDigits, itoaB, T]
theorem app_list (a b : ByteArray) : (a ++ b).data.toList = a.data.toList ++ b.data.toList := by simp
theorem mk_list (l : List UInt8) : (⟨l.toArray⟩ : ByteArray).data.toList = l := by simp
theorem T64 (n : Int) (h : -2147483648 ≤ n ∧ n < 2147483648) : T (IntKind.wrap .i64 n) = T n := by
  have : IntKind.wrap .i64 n = n := by rw [IntKind.wrap_i64]; omega
  rw [this]
theorem W_form {op d a b n : Int} (h : W op d a b n) : rvOf_1 op = 1 ∨ rvOf_1 op = 2 ∨ rvOf_1 op = 3 ∨ rvOf_1 op = 4 ∨ rvOf_1 op = 5 ∨ rvOf_1 op = 6 ∨ rvOf_1 op = 7 ∨ rvOf_1 op = 8 ∨ rvOf_1 op = 9 := by
  have := h.2; omega
theorem rvText_list {op d a b n : Int} (h : W op d a b n) (hn : -2147483648 ≤ n ∧ n < 2147483648) : (rvText op d a b n).data.toList = txt op d a b n := by
  unfold rvText txt nmL tail
  rw [rvIs_t h]
  rcases W_form h with f | f | f | f | f | f | f | f | f <;> rw [f] <;>
    simp only [ic_eq, Int.reduceEq, decide_true, decide_false, cond_true, cond_false, app_list, sc_list, mk_list, T64 n hn, or_true, true_or, or_self, if_true, if_false, List.append_assoc, List.cons_append, List.nil_append, List.append_nil]
theorem rvText_no {op d a b n : Int} (h : ¬ W op d a b n) : (rvText op d a b n).data.toList = [] := by
  unfold rvText
  rw [rvIs_f h]; rfl
theorem rfIs_t {op d a b n : Int} (h : W op d a b n) : rfIs op d a b n = true := (rfIs_iff op d a b n).2 h
theorem rfIs_f {op d a b n : Int} (h : ¬ W op d a b n) : rfIs op d a b n = false := by
  cases c : rfIs op d a b n
  · rfl
  · exact (h ((rfIs_iff op d a b n).1 c)).elim
theorem rfText_no {op d a b n : Int} (h : ¬ W op d a b n) : (rfText op d a b n).data.toList = [] := by
  unfold rfText
  rw [rfIs_f h]; rfl
theorem rfText_1 (d a b n : Int) (ht : rfIs 1 d a b n = true) (hn : -2147483648 ≤ n ∧ n < 2147483648) : (rfText 1 d a b n).data.toList = txt 1 d a b n := by
  unfold rfText txt tail
  rw [ht, show rvOf_1 1 = 7 from by kernel_rfl, show nmL 1 = [108, 117, 105] from by kernel_rfl]
  simp only [ic_eq, Int.reduceEq, decide_true, decide_false, cond_true, cond_false, app_list, rd_list, mk_list, T64 n hn, or_true, true_or, or_self, if_true, if_false, List.append_assoc, List.cons_append, List.nil_append, List.append_nil]
theorem rfText_2 (d a b n : Int) (ht : rfIs 2 d a b n = true) (hn : -2147483648 ≤ n ∧ n < 2147483648) : (rfText 2 d a b n).data.toList = txt 2 d a b n := by
  unfold rfText txt tail
  rw [ht, show rvOf_1 2 = 7 from by kernel_rfl, show nmL 2 = [97, 117, 105, 112, 99] from by kernel_rfl]
  simp only [ic_eq, Int.reduceEq, decide_true, decide_false, cond_true, cond_false, app_list, rd_list, mk_list, T64 n hn, or_true, true_or, or_self, if_true, if_false, List.append_assoc, List.cons_append, List.nil_append, List.append_nil]
theorem rfText_3 (d a b n : Int) (ht : rfIs 3 d a b n = true) (hn : -2147483648 ≤ n ∧ n < 2147483648) : (rfText 3 d a b n).data.toList = txt 3 d a b n := by
  unfold rfText txt tail
  rw [ht, show rvOf_1 3 = 8 from by kernel_rfl, show nmL 3 = [106, 97, 108] from by kernel_rfl]
  simp only [ic_eq, Int.reduceEq, decide_true, decide_false, cond_true, cond_false, app_list, rd_list, mk_list, T64 n hn, or_true, true_or, or_self, if_true, if_false, List.append_assoc, List.cons_append, List.nil_append, List.append_nil]
theorem rfText_4 (d a b n : Int) (ht : rfIs 4 d a b n = true) (hn : -2147483648 ≤ n ∧ n < 2147483648) : (rfText 4 d a b n).data.toList = txt 4 d a b n := by
  unfold rfText txt tail
  rw [ht, show rvOf_1 4 = 2 from by kernel_rfl, show nmL 4 = [106, 97, 108, 114] from by kernel_rfl]
  simp only [ic_eq, Int.reduceEq, decide_true, decide_false, cond_true, cond_false, app_list, rd_list, mk_list, T64 n hn, or_true, true_or, or_self, if_true, if_false, List.append_assoc, List.cons_append, List.nil_append, List.append_nil]
theorem rfText_5 (d a b n : Int) (ht : rfIs 5 d a b n = true) (hn : -2147483648 ≤ n ∧ n < 2147483648) : (rfText 5 d a b n).data.toList = txt 5 d a b n := by
  unfold rfText txt tail
  rw [ht, show rvOf_1 5 = 6 from by kernel_rfl, show nmL 5 = [98, 101, 113] from by kernel_rfl]
  simp only [ic_eq, Int.reduceEq, decide_true, decide_false, cond_true, cond_false, app_list, rd_list, mk_list, T64 n hn, or_true, true_or, or_self, if_true, if_false, List.append_assoc, List.cons_append, List.nil_append, List.append_nil]
theorem rfText_6 (d a b n : Int) (ht : rfIs 6 d a b n = true) (hn : -2147483648 ≤ n ∧ n < 2147483648) : (rfText 6 d a b n).data.toList = txt 6 d a b n := by
  unfold rfText txt tail
  rw [ht, show rvOf_1 6 = 6 from by kernel_rfl, show nmL 6 = [98, 110, 101] from by kernel_rfl]
  simp only [ic_eq, Int.reduceEq, decide_true, decide_false, cond_true, cond_false, app_list, rd_list, mk_list, T64 n hn, or_true, true_or, or_self, if_true, if_false, List.append_assoc, List.cons_append, List.nil_append, List.append_nil]
theorem rfText_7 (d a b n : Int) (ht : rfIs 7 d a b n = true) (hn : -2147483648 ≤ n ∧ n < 2147483648) : (rfText 7 d a b n).data.toList = txt 7 d a b n := by
  unfold rfText txt tail
  rw [ht, show rvOf_1 7 = 6 from by kernel_rfl, show nmL 7 = [98, 108, 116] from by kernel_rfl]
  simp only [ic_eq, Int.reduceEq, decide_true, decide_false, cond_true, cond_false, app_list, rd_list, mk_list, T64 n hn, or_true, true_or, or_self, if_true, if_false, List.append_assoc, List.cons_append, List.nil_append, List.append_nil]
theorem rfText_8 (d a b n : Int) (ht : rfIs 8 d a b n = true) (hn : -2147483648 ≤ n ∧ n < 2147483648) : (rfText 8 d a b n).data.toList = txt 8 d a b n := by
  unfold rfText txt tail
  rw [ht, show rvOf_1 8 = 6 from by kernel_rfl, show nmL 8 = [98, 103, 101] from by kernel_rfl]
  simp only [ic_eq, Int.reduceEq, decide_true, decide_false, cond_true, cond_false, app_list, rd_list, mk_list, T64 n hn, or_true, true_or, or_self, if_true, if_false, List.append_assoc, List.cons_append, List.nil_append, List.append_nil]
theorem rfText_9 (d a b n : Int) (ht : rfIs 9 d a b n = true) (hn : -2147483648 ≤ n ∧ n < 2147483648) : (rfText 9 d a b n).data.toList = txt 9 d a b n := by
  unfold rfText txt tail
  rw [ht, show rvOf_1 9 = 6 from by kernel_rfl, show nmL 9 = [98, 108, 116, 117] from by kernel_rfl]
  simp only [ic_eq, Int.reduceEq, decide_true, decide_false, cond_true, cond_false, app_list, rd_list, mk_list, T64 n hn, or_true, true_or, or_self, if_true, if_false, List.append_assoc, List.cons_append, List.nil_append, List.append_nil]
theorem rfText_10 (d a b n : Int) (ht : rfIs 10 d a b n = true) (hn : -2147483648 ≤ n ∧ n < 2147483648) : (rfText 10 d a b n).data.toList = txt 10 d a b n := by
  unfold rfText txt tail
  rw [ht, show rvOf_1 10 = 6 from by kernel_rfl, show nmL 10 = [98, 103, 101, 117] from by kernel_rfl]
  simp only [ic_eq, Int.reduceEq, decide_true, decide_false, cond_true, cond_false, app_list, rd_list, mk_list, T64 n hn, or_true, true_or, or_self, if_true, if_false, List.append_assoc, List.cons_append, List.nil_append, List.append_nil]
theorem rfText_11 (d a b n : Int) (ht : rfIs 11 d a b n = true) (hn : -2147483648 ≤ n ∧ n < 2147483648) : (rfText 11 d a b n).data.toList = txt 11 d a b n := by
  unfold rfText txt tail
  rw [ht, show rvOf_1 11 = 3 from by kernel_rfl, show nmL 11 = [108, 98] from by kernel_rfl]
  simp only [ic_eq, Int.reduceEq, decide_true, decide_false, cond_true, cond_false, app_list, rd_list, mk_list, T64 n hn, or_true, true_or, or_self, if_true, if_false, List.append_assoc, List.cons_append, List.nil_append, List.append_nil]
theorem rfText_12 (d a b n : Int) (ht : rfIs 12 d a b n = true) (hn : -2147483648 ≤ n ∧ n < 2147483648) : (rfText 12 d a b n).data.toList = txt 12 d a b n := by
  unfold rfText txt tail
  rw [ht, show rvOf_1 12 = 3 from by kernel_rfl, show nmL 12 = [108, 104] from by kernel_rfl]
  simp only [ic_eq, Int.reduceEq, decide_true, decide_false, cond_true, cond_false, app_list, rd_list, mk_list, T64 n hn, or_true, true_or, or_self, if_true, if_false, List.append_assoc, List.cons_append, List.nil_append, List.append_nil]
theorem rfText_13 (d a b n : Int) (ht : rfIs 13 d a b n = true) (hn : -2147483648 ≤ n ∧ n < 2147483648) : (rfText 13 d a b n).data.toList = txt 13 d a b n := by
  unfold rfText txt tail
  rw [ht, show rvOf_1 13 = 3 from by kernel_rfl, show nmL 13 = [108, 119] from by kernel_rfl]
  simp only [ic_eq, Int.reduceEq, decide_true, decide_false, cond_true, cond_false, app_list, rd_list, mk_list, T64 n hn, or_true, true_or, or_self, if_true, if_false, List.append_assoc, List.cons_append, List.nil_append, List.append_nil]
theorem rfText_14 (d a b n : Int) (ht : rfIs 14 d a b n = true) (hn : -2147483648 ≤ n ∧ n < 2147483648) : (rfText 14 d a b n).data.toList = txt 14 d a b n := by
  unfold rfText txt tail
  rw [ht, show rvOf_1 14 = 3 from by kernel_rfl, show nmL 14 = [108, 98, 117] from by kernel_rfl]
  simp only [ic_eq, Int.reduceEq, decide_true, decide_false, cond_true, cond_false, app_list, rd_list, mk_list, T64 n hn, or_true, true_or, or_self, if_true, if_false, List.append_assoc, List.cons_append, List.nil_append, List.append_nil]
theorem rfText_15 (d a b n : Int) (ht : rfIs 15 d a b n = true) (hn : -2147483648 ≤ n ∧ n < 2147483648) : (rfText 15 d a b n).data.toList = txt 15 d a b n := by
  unfold rfText txt tail
  rw [ht, show rvOf_1 15 = 3 from by kernel_rfl, show nmL 15 = [108, 104, 117] from by kernel_rfl]
  simp only [ic_eq, Int.reduceEq, decide_true, decide_false, cond_true, cond_false, app_list, rd_list, mk_list, T64 n hn, or_true, true_or, or_self, if_true, if_false, List.append_assoc, List.cons_append, List.nil_append, List.append_nil]
theorem rfText_16 (d a b n : Int) (ht : rfIs 16 d a b n = true) (hn : -2147483648 ≤ n ∧ n < 2147483648) : (rfText 16 d a b n).data.toList = txt 16 d a b n := by
  unfold rfText txt tail
  rw [ht, show rvOf_1 16 = 5 from by kernel_rfl, show nmL 16 = [115, 98] from by kernel_rfl]
  simp only [ic_eq, Int.reduceEq, decide_true, decide_false, cond_true, cond_false, app_list, rd_list, mk_list, T64 n hn, or_true, true_or, or_self, if_true, if_false, List.append_assoc, List.cons_append, List.nil_append, List.append_nil]
theorem rfText_17 (d a b n : Int) (ht : rfIs 17 d a b n = true) (hn : -2147483648 ≤ n ∧ n < 2147483648) : (rfText 17 d a b n).data.toList = txt 17 d a b n := by
  unfold rfText txt tail
  rw [ht, show rvOf_1 17 = 5 from by kernel_rfl, show nmL 17 = [115, 104] from by kernel_rfl]
  simp only [ic_eq, Int.reduceEq, decide_true, decide_false, cond_true, cond_false, app_list, rd_list, mk_list, T64 n hn, or_true, true_or, or_self, if_true, if_false, List.append_assoc, List.cons_append, List.nil_append, List.append_nil]
theorem rfText_18 (d a b n : Int) (ht : rfIs 18 d a b n = true) (hn : -2147483648 ≤ n ∧ n < 2147483648) : (rfText 18 d a b n).data.toList = txt 18 d a b n := by
  unfold rfText txt tail
  rw [ht, show rvOf_1 18 = 5 from by kernel_rfl, show nmL 18 = [115, 119] from by kernel_rfl]
  simp only [ic_eq, Int.reduceEq, decide_true, decide_false, cond_true, cond_false, app_list, rd_list, mk_list, T64 n hn, or_true, true_or, or_self, if_true, if_false, List.append_assoc, List.cons_append, List.nil_append, List.append_nil]
theorem rfText_19 (d a b n : Int) (ht : rfIs 19 d a b n = true) (hn : -2147483648 ≤ n ∧ n < 2147483648) : (rfText 19 d a b n).data.toList = txt 19 d a b n := by
  unfold rfText txt tail
  rw [ht, show rvOf_1 19 = 2 from by kernel_rfl, show nmL 19 = [97, 100, 100, 105] from by kernel_rfl]
  simp only [ic_eq, Int.reduceEq, decide_true, decide_false, cond_true, cond_false, app_list, rd_list, mk_list, T64 n hn, or_true, true_or, or_self, if_true, if_false, List.append_assoc, List.cons_append, List.nil_append, List.append_nil]
theorem rfText_20 (d a b n : Int) (ht : rfIs 20 d a b n = true) (hn : -2147483648 ≤ n ∧ n < 2147483648) : (rfText 20 d a b n).data.toList = txt 20 d a b n := by
  unfold rfText txt tail
  rw [ht, show rvOf_1 20 = 2 from by kernel_rfl, show nmL 20 = [115, 108, 116, 105] from by kernel_rfl]
  simp only [ic_eq, Int.reduceEq, decide_true, decide_false, cond_true, cond_false, app_list, rd_list, mk_list, T64 n hn, or_true, true_or, or_self, if_true, if_false, List.append_assoc, List.cons_append, List.nil_append, List.append_nil]
theorem rfText_21 (d a b n : Int) (ht : rfIs 21 d a b n = true) (hn : -2147483648 ≤ n ∧ n < 2147483648) : (rfText 21 d a b n).data.toList = txt 21 d a b n := by
  unfold rfText txt tail
  rw [ht, show rvOf_1 21 = 2 from by kernel_rfl, show nmL 21 = [115, 108, 116, 105, 117] from by kernel_rfl]
  simp only [ic_eq, Int.reduceEq, decide_true, decide_false, cond_true, cond_false, app_list, rd_list, mk_list, T64 n hn, or_true, true_or, or_self, if_true, if_false, List.append_assoc, List.cons_append, List.nil_append, List.append_nil]
theorem rfText_22 (d a b n : Int) (ht : rfIs 22 d a b n = true) (hn : -2147483648 ≤ n ∧ n < 2147483648) : (rfText 22 d a b n).data.toList = txt 22 d a b n := by
  unfold rfText txt tail
  rw [ht, show rvOf_1 22 = 2 from by kernel_rfl, show nmL 22 = [120, 111, 114, 105] from by kernel_rfl]
  simp only [ic_eq, Int.reduceEq, decide_true, decide_false, cond_true, cond_false, app_list, rd_list, mk_list, T64 n hn, or_true, true_or, or_self, if_true, if_false, List.append_assoc, List.cons_append, List.nil_append, List.append_nil]
theorem rfText_23 (d a b n : Int) (ht : rfIs 23 d a b n = true) (hn : -2147483648 ≤ n ∧ n < 2147483648) : (rfText 23 d a b n).data.toList = txt 23 d a b n := by
  unfold rfText txt tail
  rw [ht, show rvOf_1 23 = 2 from by kernel_rfl, show nmL 23 = [111, 114, 105] from by kernel_rfl]
  simp only [ic_eq, Int.reduceEq, decide_true, decide_false, cond_true, cond_false, app_list, rd_list, mk_list, T64 n hn, or_true, true_or, or_self, if_true, if_false, List.append_assoc, List.cons_append, List.nil_append, List.append_nil]
theorem rfText_24 (d a b n : Int) (ht : rfIs 24 d a b n = true) (hn : -2147483648 ≤ n ∧ n < 2147483648) : (rfText 24 d a b n).data.toList = txt 24 d a b n := by
  unfold rfText txt tail
  rw [ht, show rvOf_1 24 = 2 from by kernel_rfl, show nmL 24 = [97, 110, 100, 105] from by kernel_rfl]
  simp only [ic_eq, Int.reduceEq, decide_true, decide_false, cond_true, cond_false, app_list, rd_list, mk_list, T64 n hn, or_true, true_or, or_self, if_true, if_false, List.append_assoc, List.cons_append, List.nil_append, List.append_nil]
theorem rfText_25 (d a b n : Int) (ht : rfIs 25 d a b n = true) (hn : -2147483648 ≤ n ∧ n < 2147483648) : (rfText 25 d a b n).data.toList = txt 25 d a b n := by
  unfold rfText txt tail
  rw [ht, show rvOf_1 25 = 4 from by kernel_rfl, show nmL 25 = [115, 108, 108, 105] from by kernel_rfl]
  simp only [ic_eq, Int.reduceEq, decide_true, decide_false, cond_true, cond_false, app_list, rd_list, mk_list, T64 n hn, or_true, true_or, or_self, if_true, if_false, List.append_assoc, List.cons_append, List.nil_append, List.append_nil]
theorem rfText_26 (d a b n : Int) (ht : rfIs 26 d a b n = true) (hn : -2147483648 ≤ n ∧ n < 2147483648) : (rfText 26 d a b n).data.toList = txt 26 d a b n := by
  unfold rfText txt tail
  rw [ht, show rvOf_1 26 = 4 from by kernel_rfl, show nmL 26 = [115, 114, 108, 105] from by kernel_rfl]
  simp only [ic_eq, Int.reduceEq, decide_true, decide_false, cond_true, cond_false, app_list, rd_list, mk_list, T64 n hn, or_true, true_or, or_self, if_true, if_false, List.append_assoc, List.cons_append, List.nil_append, List.append_nil]
theorem rfText_27 (d a b n : Int) (ht : rfIs 27 d a b n = true) (hn : -2147483648 ≤ n ∧ n < 2147483648) : (rfText 27 d a b n).data.toList = txt 27 d a b n := by
  unfold rfText txt tail
  rw [ht, show rvOf_1 27 = 4 from by kernel_rfl, show nmL 27 = [115, 114, 97, 105] from by kernel_rfl]
  simp only [ic_eq, Int.reduceEq, decide_true, decide_false, cond_true, cond_false, app_list, rd_list, mk_list, T64 n hn, or_true, true_or, or_self, if_true, if_false, List.append_assoc, List.cons_append, List.nil_append, List.append_nil]
theorem rfText_28 (d a b n : Int) (ht : rfIs 28 d a b n = true) (hn : -2147483648 ≤ n ∧ n < 2147483648) : (rfText 28 d a b n).data.toList = txt 28 d a b n := by
  unfold rfText txt tail
  rw [ht, show rvOf_1 28 = 1 from by kernel_rfl, show nmL 28 = [97, 100, 100] from by kernel_rfl]
  simp only [ic_eq, Int.reduceEq, decide_true, decide_false, cond_true, cond_false, app_list, rd_list, mk_list, T64 n hn, or_true, true_or, or_self, if_true, if_false, List.append_assoc, List.cons_append, List.nil_append, List.append_nil]
theorem rfText_29 (d a b n : Int) (ht : rfIs 29 d a b n = true) (hn : -2147483648 ≤ n ∧ n < 2147483648) : (rfText 29 d a b n).data.toList = txt 29 d a b n := by
  unfold rfText txt tail
  rw [ht, show rvOf_1 29 = 1 from by kernel_rfl, show nmL 29 = [115, 117, 98] from by kernel_rfl]
  simp only [ic_eq, Int.reduceEq, decide_true, decide_false, cond_true, cond_false, app_list, rd_list, mk_list, T64 n hn, or_true, true_or, or_self, if_true, if_false, List.append_assoc, List.cons_append, List.nil_append, List.append_nil]
theorem rfText_30 (d a b n : Int) (ht : rfIs 30 d a b n = true) (hn : -2147483648 ≤ n ∧ n < 2147483648) : (rfText 30 d a b n).data.toList = txt 30 d a b n := by
  unfold rfText txt tail
  rw [ht, show rvOf_1 30 = 1 from by kernel_rfl, show nmL 30 = [115, 108, 108] from by kernel_rfl]
  simp only [ic_eq, Int.reduceEq, decide_true, decide_false, cond_true, cond_false, app_list, rd_list, mk_list, T64 n hn, or_true, true_or, or_self, if_true, if_false, List.append_assoc, List.cons_append, List.nil_append, List.append_nil]
theorem rfText_31 (d a b n : Int) (ht : rfIs 31 d a b n = true) (hn : -2147483648 ≤ n ∧ n < 2147483648) : (rfText 31 d a b n).data.toList = txt 31 d a b n := by
  unfold rfText txt tail
  rw [ht, show rvOf_1 31 = 1 from by kernel_rfl, show nmL 31 = [115, 108, 116] from by kernel_rfl]
  simp only [ic_eq, Int.reduceEq, decide_true, decide_false, cond_true, cond_false, app_list, rd_list, mk_list, T64 n hn, or_true, true_or, or_self, if_true, if_false, List.append_assoc, List.cons_append, List.nil_append, List.append_nil]
theorem rfText_32 (d a b n : Int) (ht : rfIs 32 d a b n = true) (hn : -2147483648 ≤ n ∧ n < 2147483648) : (rfText 32 d a b n).data.toList = txt 32 d a b n := by
  unfold rfText txt tail
  rw [ht, show rvOf_1 32 = 1 from by kernel_rfl, show nmL 32 = [115, 108, 116, 117] from by kernel_rfl]
  simp only [ic_eq, Int.reduceEq, decide_true, decide_false, cond_true, cond_false, app_list, rd_list, mk_list, T64 n hn, or_true, true_or, or_self, if_true, if_false, List.append_assoc, List.cons_append, List.nil_append, List.append_nil]
theorem rfText_33 (d a b n : Int) (ht : rfIs 33 d a b n = true) (hn : -2147483648 ≤ n ∧ n < 2147483648) : (rfText 33 d a b n).data.toList = txt 33 d a b n := by
  unfold rfText txt tail
  rw [ht, show rvOf_1 33 = 1 from by kernel_rfl, show nmL 33 = [120, 111, 114] from by kernel_rfl]
  simp only [ic_eq, Int.reduceEq, decide_true, decide_false, cond_true, cond_false, app_list, rd_list, mk_list, T64 n hn, or_true, true_or, or_self, if_true, if_false, List.append_assoc, List.cons_append, List.nil_append, List.append_nil]
theorem rfText_34 (d a b n : Int) (ht : rfIs 34 d a b n = true) (hn : -2147483648 ≤ n ∧ n < 2147483648) : (rfText 34 d a b n).data.toList = txt 34 d a b n := by
  unfold rfText txt tail
  rw [ht, show rvOf_1 34 = 1 from by kernel_rfl, show nmL 34 = [115, 114, 108] from by kernel_rfl]
  simp only [ic_eq, Int.reduceEq, decide_true, decide_false, cond_true, cond_false, app_list, rd_list, mk_list, T64 n hn, or_true, true_or, or_self, if_true, if_false, List.append_assoc, List.cons_append, List.nil_append, List.append_nil]
theorem rfText_35 (d a b n : Int) (ht : rfIs 35 d a b n = true) (hn : -2147483648 ≤ n ∧ n < 2147483648) : (rfText 35 d a b n).data.toList = txt 35 d a b n := by
  unfold rfText txt tail
  rw [ht, show rvOf_1 35 = 1 from by kernel_rfl, show nmL 35 = [115, 114, 97] from by kernel_rfl]
  simp only [ic_eq, Int.reduceEq, decide_true, decide_false, cond_true, cond_false, app_list, rd_list, mk_list, T64 n hn, or_true, true_or, or_self, if_true, if_false, List.append_assoc, List.cons_append, List.nil_append, List.append_nil]
theorem rfText_36 (d a b n : Int) (ht : rfIs 36 d a b n = true) (hn : -2147483648 ≤ n ∧ n < 2147483648) : (rfText 36 d a b n).data.toList = txt 36 d a b n := by
  unfold rfText txt tail
  rw [ht, show rvOf_1 36 = 1 from by kernel_rfl, show nmL 36 = [111, 114] from by kernel_rfl]
  simp only [ic_eq, Int.reduceEq, decide_true, decide_false, cond_true, cond_false, app_list, rd_list, mk_list, T64 n hn, or_true, true_or, or_self, if_true, if_false, List.append_assoc, List.cons_append, List.nil_append, List.append_nil]
theorem rfText_37 (d a b n : Int) (ht : rfIs 37 d a b n = true) (hn : -2147483648 ≤ n ∧ n < 2147483648) : (rfText 37 d a b n).data.toList = txt 37 d a b n := by
  unfold rfText txt tail
  rw [ht, show rvOf_1 37 = 1 from by kernel_rfl, show nmL 37 = [97, 110, 100] from by kernel_rfl]
  simp only [ic_eq, Int.reduceEq, decide_true, decide_false, cond_true, cond_false, app_list, rd_list, mk_list, T64 n hn, or_true, true_or, or_self, if_true, if_false, List.append_assoc, List.cons_append, List.nil_append, List.append_nil]
theorem rfText_38 (d a b n : Int) (ht : rfIs 38 d a b n = true) (hn : -2147483648 ≤ n ∧ n < 2147483648) : (rfText 38 d a b n).data.toList = txt 38 d a b n := by
  unfold rfText txt tail
  rw [ht, show rvOf_1 38 = 1 from by kernel_rfl, show nmL 38 = [109, 117, 108] from by kernel_rfl]
  simp only [ic_eq, Int.reduceEq, decide_true, decide_false, cond_true, cond_false, app_list, rd_list, mk_list, T64 n hn, or_true, true_or, or_self, if_true, if_false, List.append_assoc, List.cons_append, List.nil_append, List.append_nil]
theorem rfText_39 (d a b n : Int) (ht : rfIs 39 d a b n = true) (hn : -2147483648 ≤ n ∧ n < 2147483648) : (rfText 39 d a b n).data.toList = txt 39 d a b n := by
  unfold rfText txt tail
  rw [ht, show rvOf_1 39 = 1 from by kernel_rfl, show nmL 39 = [109, 117, 108, 104] from by kernel_rfl]
  simp only [ic_eq, Int.reduceEq, decide_true, decide_false, cond_true, cond_false, app_list, rd_list, mk_list, T64 n hn, or_true, true_or, or_self, if_true, if_false, List.append_assoc, List.cons_append, List.nil_append, List.append_nil]
theorem rfText_40 (d a b n : Int) (ht : rfIs 40 d a b n = true) (hn : -2147483648 ≤ n ∧ n < 2147483648) : (rfText 40 d a b n).data.toList = txt 40 d a b n := by
  unfold rfText txt tail
  rw [ht, show rvOf_1 40 = 1 from by kernel_rfl, show nmL 40 = [109, 117, 108, 104, 115, 117] from by kernel_rfl]
  simp only [ic_eq, Int.reduceEq, decide_true, decide_false, cond_true, cond_false, app_list, rd_list, mk_list, T64 n hn, or_true, true_or, or_self, if_true, if_false, List.append_assoc, List.cons_append, List.nil_append, List.append_nil]
theorem rfText_41 (d a b n : Int) (ht : rfIs 41 d a b n = true) (hn : -2147483648 ≤ n ∧ n < 2147483648) : (rfText 41 d a b n).data.toList = txt 41 d a b n := by
  unfold rfText txt tail
  rw [ht, show rvOf_1 41 = 1 from by kernel_rfl, show nmL 41 = [109, 117, 108, 104, 117] from by kernel_rfl]
  simp only [ic_eq, Int.reduceEq, decide_true, decide_false, cond_true, cond_false, app_list, rd_list, mk_list, T64 n hn, or_true, true_or, or_self, if_true, if_false, List.append_assoc, List.cons_append, List.nil_append, List.append_nil]
theorem rfText_42 (d a b n : Int) (ht : rfIs 42 d a b n = true) (hn : -2147483648 ≤ n ∧ n < 2147483648) : (rfText 42 d a b n).data.toList = txt 42 d a b n := by
  unfold rfText txt tail
  rw [ht, show rvOf_1 42 = 1 from by kernel_rfl, show nmL 42 = [100, 105, 118] from by kernel_rfl]
  simp only [ic_eq, Int.reduceEq, decide_true, decide_false, cond_true, cond_false, app_list, rd_list, mk_list, T64 n hn, or_true, true_or, or_self, if_true, if_false, List.append_assoc, List.cons_append, List.nil_append, List.append_nil]
theorem rfText_43 (d a b n : Int) (ht : rfIs 43 d a b n = true) (hn : -2147483648 ≤ n ∧ n < 2147483648) : (rfText 43 d a b n).data.toList = txt 43 d a b n := by
  unfold rfText txt tail
  rw [ht, show rvOf_1 43 = 1 from by kernel_rfl, show nmL 43 = [100, 105, 118, 117] from by kernel_rfl]
  simp only [ic_eq, Int.reduceEq, decide_true, decide_false, cond_true, cond_false, app_list, rd_list, mk_list, T64 n hn, or_true, true_or, or_self, if_true, if_false, List.append_assoc, List.cons_append, List.nil_append, List.append_nil]
theorem rfText_44 (d a b n : Int) (ht : rfIs 44 d a b n = true) (hn : -2147483648 ≤ n ∧ n < 2147483648) : (rfText 44 d a b n).data.toList = txt 44 d a b n := by
  unfold rfText txt tail
  rw [ht, show rvOf_1 44 = 1 from by kernel_rfl, show nmL 44 = [114, 101, 109] from by kernel_rfl]
  simp only [ic_eq, Int.reduceEq, decide_true, decide_false, cond_true, cond_false, app_list, rd_list, mk_list, T64 n hn, or_true, true_or, or_self, if_true, if_false, List.append_assoc, List.cons_append, List.nil_append, List.append_nil]
theorem rfText_45 (d a b n : Int) (ht : rfIs 45 d a b n = true) (hn : -2147483648 ≤ n ∧ n < 2147483648) : (rfText 45 d a b n).data.toList = txt 45 d a b n := by
  unfold rfText txt tail
  rw [ht, show rvOf_1 45 = 1 from by kernel_rfl, show nmL 45 = [114, 101, 109, 117] from by kernel_rfl]
  simp only [ic_eq, Int.reduceEq, decide_true, decide_false, cond_true, cond_false, app_list, rd_list, mk_list, T64 n hn, or_true, true_or, or_self, if_true, if_false, List.append_assoc, List.cons_append, List.nil_append, List.append_nil]
theorem rfText_46 (d a b n : Int) (ht : rfIs 46 d a b n = true) (hn : -2147483648 ≤ n ∧ n < 2147483648) : (rfText 46 d a b n).data.toList = txt 46 d a b n := by
  unfold rfText txt tail
  rw [ht, show rvOf_1 46 = 9 from by kernel_rfl, show nmL 46 = [101, 99, 97, 108, 108] from by kernel_rfl]
  simp only [ic_eq, Int.reduceEq, decide_true, decide_false, cond_true, cond_false, app_list, rd_list, mk_list, T64 n hn, or_true, true_or, or_self, if_true, if_false, List.append_assoc, List.cons_append, List.nil_append, List.append_nil]
theorem rfText_47 (d a b n : Int) (ht : rfIs 47 d a b n = true) (hn : -2147483648 ≤ n ∧ n < 2147483648) : (rfText 47 d a b n).data.toList = txt 47 d a b n := by
  unfold rfText txt tail
  rw [ht, show rvOf_1 47 = 9 from by kernel_rfl, show nmL 47 = [101, 98, 114, 101, 97, 107] from by kernel_rfl]
  simp only [ic_eq, Int.reduceEq, decide_true, decide_false, cond_true, cond_false, app_list, rd_list, mk_list, T64 n hn, or_true, true_or, or_self, if_true, if_false, List.append_assoc, List.cons_append, List.nil_append, List.append_nil]
theorem rfText_list {op d a b n : Int} (h : W op d a b n) (hn : -2147483648 ≤ n ∧ n < 2147483648) : (rfText op d a b n).data.toList = txt op d a b n := by
  have ht := rfIs_t h
  obtain ⟨⟨h1, h2⟩, -⟩ := h
  have e : op = 1 ∨ op = 2 ∨ op = 3 ∨ op = 4 ∨ op = 5 ∨ op = 6 ∨ op = 7 ∨ op = 8 ∨ op = 9 ∨ op = 10 ∨ op = 11 ∨ op = 12 ∨ op = 13 ∨ op = 14 ∨ op = 15 ∨ op = 16 ∨ op = 17 ∨ op = 18 ∨ op = 19 ∨ op = 20 ∨ op = 21 ∨ op = 22 ∨ op = 23 ∨ op = 24 ∨ op = 25 ∨ op = 26 ∨ op = 27 ∨ op = 28 ∨ op = 29 ∨ op = 30 ∨ op = 31 ∨ op = 32 ∨ op = 33 ∨ op = 34 ∨ op = 35 ∨ op = 36 ∨ op = 37 ∨ op = 38 ∨ op = 39 ∨ op = 40 ∨ op = 41 ∨ op = 42 ∨ op = 43 ∨ op = 44 ∨ op = 45 ∨ op = 46 ∨ op = 47 := by omega
  rcases e with rfl | rfl | rfl | rfl | rfl | rfl | rfl | rfl | rfl | rfl | rfl | rfl | rfl | rfl | rfl | rfl | rfl | rfl | rfl | rfl | rfl | rfl | rfl | rfl | rfl | rfl | rfl | rfl | rfl | rfl | rfl | rfl | rfl | rfl | rfl | rfl | rfl | rfl | rfl | rfl | rfl | rfl | rfl | rfl | rfl | rfl | rfl
  · exact rfText_1 d a b n ht hn
  · exact rfText_2 d a b n ht hn
  · exact rfText_3 d a b n ht hn
  · exact rfText_4 d a b n ht hn
  · exact rfText_5 d a b n ht hn
  · exact rfText_6 d a b n ht hn
  · exact rfText_7 d a b n ht hn
  · exact rfText_8 d a b n ht hn
  · exact rfText_9 d a b n ht hn
  · exact rfText_10 d a b n ht hn
  · exact rfText_11 d a b n ht hn
  · exact rfText_12 d a b n ht hn
  · exact rfText_13 d a b n ht hn
  · exact rfText_14 d a b n ht hn
  · exact rfText_15 d a b n ht hn
  · exact rfText_16 d a b n ht hn
  · exact rfText_17 d a b n ht hn
  · exact rfText_18 d a b n ht hn
  · exact rfText_19 d a b n ht hn
  · exact rfText_20 d a b n ht hn
  · exact rfText_21 d a b n ht hn
  · exact rfText_22 d a b n ht hn
  · exact rfText_23 d a b n ht hn
  · exact rfText_24 d a b n ht hn
  · exact rfText_25 d a b n ht hn
  · exact rfText_26 d a b n ht hn
  · exact rfText_27 d a b n ht hn
  · exact rfText_28 d a b n ht hn
  · exact rfText_29 d a b n ht hn
  · exact rfText_30 d a b n ht hn
  · exact rfText_31 d a b n ht hn
  · exact rfText_32 d a b n ht hn
  · exact rfText_33 d a b n ht hn
  · exact rfText_34 d a b n ht hn
  · exact rfText_35 d a b n ht hn
  · exact rfText_36 d a b n ht hn
  · exact rfText_37 d a b n ht hn
  · exact rfText_38 d a b n ht hn
  · exact rfText_39 d a b n ht hn
  · exact rfText_40 d a b n ht hn
  · exact rfText_41 d a b n ht hn
  · exact rfText_42 d a b n ht hn
  · exact rfText_43 d a b n ht hn
  · exact rfText_44 d a b n ht hn
  · exact rfText_45 d a b n ht hn
  · exact rfText_46 d a b n ht hn
  · exact rfText_47 d a b n ht hn

/-! ### The laws -/
theorem RvTells_true {a0 a1 a2 a3 a4 : Int} (h4 : IntKind.has .i32 a4) : RvTells a0 a1 a2 a3 a4 = true := by
  have hn := i32_bd h4
  unfold RvTells
  rw [show lwKnown = true from rfl, cond_true]
  by_cases w : W a0 a1 a2 a3 a4
  · rw [rvIs_t w, rfIs_t w, rvEnc_sum w, rfEnc_sum w, rvEnc_err w, rfEnc_ok' w, rvText_list w hn, rfText_list w hn]
    simp [ic_eq]
  · rw [rvIs_f w, rfIs_f w, (rvEnc_no w).1, (rfEnc_no w).1, (rvEnc_no w).2, (rfEnc_no w).2, rvText_no w, rfText_no w]
    simp [ic_eq]
theorem names_ok {op : Int} (h1 : 1 ≤ op) (h2 : op ≤ 47) : nmL op ≠ [] ∧ 32 ∉ nmL op := by
  have := fin47 (fun op => decide (nmL op ≠ [] ∧ 32 ∉ nmL op)) (by kernel_rfl) h1 h2
  exact of_decide_eq_true this
theorem names_apart {op p : Int} (h1 : 1 ≤ op) (h2 : op ≤ 47) (k1 : 1 ≤ p) (k2 : p ≤ 47) (h : nmL op = nmL p) : op = p := by
  have := fin47 (fun op => (List.range 47).all fun k => (fun p => decide (nmL op = nmL p → op = p)) (Int.ofNat k + 1)) (by kernel_rfl) h1 h2
  have := fin47 (fun p => decide (nmL op = nmL p → op = p)) this k1 k2
  exact of_decide_eq_true this h
theorem tail_head (f d a b n : Int) : tail f d a b n = [] ∨ ∃ r, tail f d a b n = 32 :: r := by
  unfold tail
  split
  · exact Or.inr ⟨_, rfl⟩
  split
  · exact Or.inr ⟨_, rfl⟩
  split
  · exact Or.inr ⟨_, rfl⟩
  split
  · exact Or.inr ⟨_, rfl⟩
  split
  · exact Or.inr ⟨_, rfl⟩
  split
  · exact Or.inr ⟨_, rfl⟩
  · exact Or.inl rfl
theorem name_part {x y t u : List UInt8} (hx : 32 ∉ x) (hy : 32 ∉ y) (ht : t = [] ∨ ∃ r, t = 32 :: r) (hu : u = [] ∨ ∃ r, u = 32 :: r) (h : x ++ t = y ++ u) : x = y ∧ t = u := by
  rcases ht with rfl | ⟨r, rfl⟩ <;> rcases hu with rfl | ⟨s, rfl⟩
  · simpa using h
  · exact (hx (by rw [List.append_nil] at h; rw [h]; simp)).elim
  · exact (hy (by rw [List.append_nil] at h; rw [← h]; simp)).elim
  · obtain ⟨e1, e2⟩ := part_at 32 hx hy h
    exact ⟨e1, by rw [e2]⟩
theorem rg_bd {r : Int} (h : Rg r) : -9223372036854775808 ≤ r ∧ r < 9223372036854775808 := by unfold Rg at h; omega
theorem i_bd {r : Int} (h : -2147483648 ≤ r ∧ r < 2147483648) : -9223372036854775808 ≤ r ∧ r < 9223372036854775808 := by omega
theorem txt_inj {op d a b n p d' a' b' n' : Int} (w : W op d a b n) (w' : W p d' a' b' n') (hn : -2147483648 ≤ n ∧ n < 2147483648) (hn' : -2147483648 ≤ n' ∧ n' < 2147483648) (h : txt op d a b n = txt p d' a' b' n') :
    op = p ∧ d = d' ∧ a = a' ∧ b = b' ∧ n = n' := by
  unfold txt at h
  obtain ⟨e1, e2⟩ := name_part (names_ok w.1.1 w.1.2).2 (names_ok w'.1.1 w'.1.2).2 (tail_head _ _ _ _ _) (tail_head _ _ _ _ _) h
  have e := names_apart w.1.1 w.1.2 w'.1.1 w'.1.2 e1
  subst e
  refine ⟨rfl, ?_⟩
  have c := W_form w
  have v := w.2
  have v' := w'.2
  clear w w' h e1
  generalize rvOf_1 op = f at *
  unfold tail at e2
  rcases c with rfl | rfl | rfl | rfl | rfl | rfl | rfl | rfl | rfl <;>
    simp only [Int.reduceEq, or_true, true_or, or_self, if_true, if_false, false_and, and_false, false_or, or_false, true_and, List.cons.injEq] at e2 v v'
  · obtain ⟨t1, e3⟩ := at44 e2
    obtain ⟨t2, e4⟩ := at44 (List.cons.inj e3).2
    exact ⟨T_inj t1 (rg_bd v.1) (rg_bd v'.1), T_inj t2 (rg_bd v.2.1) (rg_bd v'.2.1), T_inj (List.cons.inj e4).2 (rg_bd v.2.2.1) (rg_bd v'.2.2.1), by omega⟩
  · obtain ⟨t1, e3⟩ := at44 e2
    obtain ⟨t2, e4⟩ := at44 (List.cons.inj e3).2
    exact ⟨T_inj t1 (rg_bd v.1) (rg_bd v'.1), T_inj t2 (rg_bd v.2.1) (rg_bd v'.2.1), by omega, T_inj e4 (i_bd hn) (i_bd hn')⟩
  · obtain ⟨t1, e3⟩ := at44 e2
    obtain ⟨t2, e4⟩ := at40 e3
    obtain ⟨t3, -⟩ := at41 (List.cons.inj e4).2
    exact ⟨T_inj t1 (rg_bd v.1) (rg_bd v'.1), T_inj t3 (rg_bd v.2.1) (rg_bd v'.2.1), by omega, T_inj t2 (i_bd hn) (i_bd hn')⟩
  · obtain ⟨t1, e3⟩ := at44 e2
    obtain ⟨t2, e4⟩ := at44 (List.cons.inj e3).2
    exact ⟨T_inj t1 (rg_bd v.1) (rg_bd v'.1), T_inj t2 (rg_bd v.2.1) (rg_bd v'.2.1), by omega, T_inj e4 (i_bd hn) (i_bd hn')⟩
  · obtain ⟨t1, e3⟩ := at44 e2
    obtain ⟨t2, e4⟩ := at40 e3
    obtain ⟨t3, -⟩ := at41 (List.cons.inj e4).2
    exact ⟨by omega, T_inj t3 (rg_bd v.2.1) (rg_bd v'.2.1), T_inj t1 (rg_bd v.2.2.1) (rg_bd v'.2.2.1), T_inj t2 (i_bd hn) (i_bd hn')⟩
  · obtain ⟨t1, e3⟩ := at44 e2
    obtain ⟨t2, e4⟩ := at44 (List.cons.inj e3).2
    exact ⟨by omega, T_inj t1 (rg_bd v.2.1) (rg_bd v'.2.1), T_inj t2 (rg_bd v.2.2.1) (rg_bd v'.2.2.1), T_inj e4 (i_bd hn) (i_bd hn')⟩
  · obtain ⟨t1, e3⟩ := at44 e2
    exact ⟨T_inj t1 (rg_bd v.1) (rg_bd v'.1), by omega, by omega, T_inj e3 (i_bd hn) (i_bd hn')⟩
  · obtain ⟨t1, e3⟩ := at44 e2
    exact ⟨T_inj t1 (rg_bd v.1) (rg_bd v'.1), by omega, by omega, T_inj e3 (i_bd hn) (i_bd hn')⟩
  · omega
theorem enc_inj {op d a b n p d' a' b' n' : Int} (w : W op d a b n) (w' : W p d' a' b' n') (hn : -2147483648 ≤ n ∧ n < 2147483648) (hn' : -2147483648 ≤ n' ∧ n' < 2147483648) (h : encS op d a b n = encS p d' a' b' n') :
    op = p ∧ d = d' ∧ a = a' ∧ b = b' ∧ n = n' := by
  obtain ⟨-, r0, r1, r2, r3, r4⟩ := rvDec_enc w hn rfl
  obtain ⟨-, s0, s1, s2, s3, s4⟩ := rvDec_enc w' hn' h.symm
  exact ⟨r0.symm.trans s0, r1.symm.trans s1, r2.symm.trans s2, r3.symm.trans s3, r4.symm.trans s4⟩
theorem RvApart_true {a0 a1 a2 a3 a4 a5 a6 a7 a8 a9 : Int} (h4 : IntKind.has .i32 a4) (h9 : IntKind.has .i32 a9) : RvApart a0 a1 a2 a3 a4 a5 a6 a7 a8 a9 = true := by
  have hn := i32_bd h4
  have hn' := i32_bd h9
  unfold RvApart
  rw [show lwKnown = true from rfl, cond_true]
  by_cases w : W a0 a1 a2 a3 a4
  · by_cases w' : W a5 a6 a7 a8 a9
    · rw [rvEnc_err w, rvEnc_err w', rvEnc_sum w, rvEnc_sum w', rvText_list w hn, rvText_list w' hn']
      by_cases e : a0 = a5 ∧ a1 = a6 ∧ a2 = a7 ∧ a3 = a8 ∧ a4 = a9
      · obtain ⟨rfl, rfl, rfl, rfl, rfl⟩ := e
        simp [ic_eq, ic_ne]
      · have e1 : ¬ encS a0 a1 a2 a3 a4 = encS a5 a6 a7 a8 a9 := fun h => e (enc_inj w w' hn hn' h)
        have e2 : ¬ txt a0 a1 a2 a3 a4 = txt a5 a6 a7 a8 a9 := fun h => e (txt_inj w w' hn hn' h)
        have e3 : (((a0 : Int) == a5) && (((a1 : Int) == a6) && (((a2 : Int) == a7) && (((a3 : Int) == a8) && (((a4 : Int) == a9) && true))))) = false := by
          rw [Bool.eq_false_iff]
          intro h
          simp only [Bool.and_eq_true, beq_iff_eq, and_true] at h
          exact e h
        rw [e3]
        simp [ic_eq, ic_ne, e1, e2]
    · rw [(rvEnc_no w').2, rvEnc_err w]; simp [ic_ne]
  · rw [(rvEnc_no w).2]; simp [ic_ne]
theorem back_was {x : Int} (h : IntKind.has .u32 x) (h5 : rvDec_5 x = true) : rvEnc_1 (rvDec_0 x) (rvDec_1 x) (rvDec_2 x) (rvDec_3 x) (rvDec_4 x) = 0 ∧ rvEnc_0 (rvDec_0 x) (rvDec_1 x) (rvDec_2 x) (rvDec_3 x) (rvDec_4 x) = x := by
  have b := u32_bd h
  obtain ⟨w, -, e⟩ := rvDec_was b.1 b.2 h5
  exact ⟨rvEnc_err w, (rvEnc_sum w).trans e⟩
theorem RvBack_true {a0 a1 a2 a3 a4 a5 : Int} (h4 : IntKind.has .i32 a4) (h5 : IntKind.has .u32 a5) : RvBack a0 a1 a2 a3 a4 a5 = true := by
  have hn := i32_bd h4
  unfold RvBack
  rw [show lwKnown = true from rfl, cond_true]
  have last : rvDec_5 a5 = true → rvEnc_1 (rvDec_0 a5) (rvDec_1 a5) (rvDec_2 a5) (rvDec_3 a5) (rvDec_4 a5) = 0 ∧ rvEnc_0 (rvDec_0 a5) (rvDec_1 a5) (rvDec_2 a5) (rvDec_3 a5) (rvDec_4 a5) = a5 := back_was h5
  by_cases w : W a0 a1 a2 a3 a4
  · obtain ⟨r5, r0, r1, r2, r3, r4⟩ := rvDec_enc w hn rfl
    have ne : ¬ txt a0 a1 a2 a3 a4 = [] := fun h => (names_ok w.1.1 w.1.2).1 (List.append_eq_nil_iff.1 h).1
    rw [rvIs_t w, rvEnc_err w, rvEnc_sum w, rvText_list w hn, r5, r0, r1, r2, r3, r4]
    cases c : rvDec_5 a5
    · simp [ic_eq, ne]
    · rw [(last c).1, (last c).2]
      simp [ic_eq, ne]
  · rw [rvIs_f w, (rvEnc_no w).1, (rvEnc_no w).2]
    cases c : rvDec_5 a5
    · simp [ic_eq]
    · rw [(last c).1, (last c).2]
      simp [ic_eq]
end Go.Proofs.YtahhfjmgdalfpaaDoor
