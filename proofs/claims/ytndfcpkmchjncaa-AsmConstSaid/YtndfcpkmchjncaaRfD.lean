/-
  Plain laws of the words of the host machine: the document's reader. No program in sight.
-/
import Derived.Test.YtndfcpkmchjncaaRvD
namespace Go.Proofs.Ytndfcpkmchjncaa
open Go.Sx
set_option linter.unusedVariables false
set_option linter.unusedSimpArgs false
set_option maxRecDepth 100000

/-- what the document's reader tries for a form -/
def tDc (c x : Int) : Int := (match icmp .eql c 66 with | true => 0 | false => (match icmp .eql c 83 with | true => 0 | false => (match icmp .eql c 69 with | true => 0 | false => IntKind.wrap .i64 (ibin .and .u32 (ibin .shr .u32 x 7) 31))))
def tAc (c x : Int) : Int := (match icmp .eql c 85 with | true => 0 | false => (match icmp .eql c 74 with | true => 0 | false => (match icmp .eql c 69 with | true => 0 | false => IntKind.wrap .i64 (ibin .and .u32 (ibin .shr .u32 x 15) 31))))
def tBc (c x : Int) : Int := (match icmp .eql c 82 with | true => IntKind.wrap .i64 (ibin .and .u32 (ibin .shr .u32 x 20) 31) | false => (match icmp .eql c 66 with | true => IntKind.wrap .i64 (ibin .and .u32 (ibin .shr .u32 x 20) 31) | false => (match icmp .eql c 83 with | true => IntKind.wrap .i64 (ibin .and .u32 (ibin .shr .u32 x 20) 31) | false => 0)))
def tNc (c x : Int) : Int := (match icmp .eql c 85 with | true => IntKind.wrap .i32 (ibin .and .u32 x 4294963200) | false => (match icmp .eql c 74 with | true => rfSigned (ibin .or .u32 (ibin .or .u32 (ibin .or .u32 (ibin .shl .u32 (rfField x 12 8) 12) (ibin .shl .u32 (rfField x 20 1) 11)) (ibin .shl .u32 (rfField x 21 10) 1)) (ibin .shl .u32 (rfField x 31 1) 20)) 21 | false => (match icmp .eql c 73 with | true => ibin .shr .i32 (IntKind.wrap .i32 x) 20 | false => (match icmp .eql c 72 with | true => IntKind.wrap .i32 (IntKind.wrap .i64 (ibin .and .u32 (ibin .shr .u32 x 20) 31)) | false => (match icmp .eql c 66 with | true => rfSigned (ibin .or .u32 (ibin .or .u32 (ibin .or .u32 (ibin .shl .u32 (rfField x 7 1) 11) (ibin .shl .u32 (rfField x 8 4) 1)) (ibin .shl .u32 (rfField x 25 6) 5)) (ibin .shl .u32 (rfField x 31 1) 12)) 13 | false => (match icmp .eql c 83 with | true => rfSigned (ibin .or .u32 (ibin .shl .u32 (rfField x 7 5) 0) (ibin .shl .u32 (rfField x 25 7) 5)) 12 | false => 0))))))
def tD (op x : Int) : Int := tDc (rfOf_0 op) x
def tA (op x : Int) : Int := tAc (rfOf_0 op) x
def tB (op x : Int) : Int := tBc (rfOf_0 op) x
def tN (op x : Int) : Int := tNc (rfOf_0 op) x
theorem tD_82 (x : Int) : tDc 82 x = IntKind.wrap .i64 (ibin .and .u32 (ibin .shr .u32 x 7) 31) := by kernel_rfl
theorem tD_73 (x : Int) : tDc 73 x = IntKind.wrap .i64 (ibin .and .u32 (ibin .shr .u32 x 7) 31) := by kernel_rfl
theorem tD_72 (x : Int) : tDc 72 x = IntKind.wrap .i64 (ibin .and .u32 (ibin .shr .u32 x 7) 31) := by kernel_rfl
theorem tD_83 (x : Int) : tDc 83 x = 0 := by kernel_rfl
theorem tD_66 (x : Int) : tDc 66 x = 0 := by kernel_rfl
theorem tD_85 (x : Int) : tDc 85 x = IntKind.wrap .i64 (ibin .and .u32 (ibin .shr .u32 x 7) 31) := by kernel_rfl
theorem tD_74 (x : Int) : tDc 74 x = IntKind.wrap .i64 (ibin .and .u32 (ibin .shr .u32 x 7) 31) := by kernel_rfl
theorem tD_69 (x : Int) : tDc 69 x = 0 := by kernel_rfl
theorem tA_82 (x : Int) : tAc 82 x = IntKind.wrap .i64 (ibin .and .u32 (ibin .shr .u32 x 15) 31) := by kernel_rfl
theorem tA_73 (x : Int) : tAc 73 x = IntKind.wrap .i64 (ibin .and .u32 (ibin .shr .u32 x 15) 31) := by kernel_rfl
theorem tA_72 (x : Int) : tAc 72 x = IntKind.wrap .i64 (ibin .and .u32 (ibin .shr .u32 x 15) 31) := by kernel_rfl
theorem tA_83 (x : Int) : tAc 83 x = IntKind.wrap .i64 (ibin .and .u32 (ibin .shr .u32 x 15) 31) := by kernel_rfl
theorem tA_66 (x : Int) : tAc 66 x = IntKind.wrap .i64 (ibin .and .u32 (ibin .shr .u32 x 15) 31) := by kernel_rfl
theorem tA_85 (x : Int) : tAc 85 x = 0 := by kernel_rfl
theorem tA_74 (x : Int) : tAc 74 x = 0 := by kernel_rfl
theorem tA_69 (x : Int) : tAc 69 x = 0 := by kernel_rfl
theorem tB_82 (x : Int) : tBc 82 x = IntKind.wrap .i64 (ibin .and .u32 (ibin .shr .u32 x 20) 31) := by kernel_rfl
theorem tB_73 (x : Int) : tBc 73 x = 0 := by kernel_rfl
theorem tB_72 (x : Int) : tBc 72 x = 0 := by kernel_rfl
theorem tB_83 (x : Int) : tBc 83 x = IntKind.wrap .i64 (ibin .and .u32 (ibin .shr .u32 x 20) 31) := by kernel_rfl
theorem tB_66 (x : Int) : tBc 66 x = IntKind.wrap .i64 (ibin .and .u32 (ibin .shr .u32 x 20) 31) := by kernel_rfl
theorem tB_85 (x : Int) : tBc 85 x = 0 := by kernel_rfl
theorem tB_74 (x : Int) : tBc 74 x = 0 := by kernel_rfl
theorem tB_69 (x : Int) : tBc 69 x = 0 := by kernel_rfl
theorem tN_82 (x : Int) : tNc 82 x = 0 := by kernel_rfl
theorem tN_73 (x : Int) : tNc 73 x = ibin .shr .i32 (IntKind.wrap .i32 x) 20 := by kernel_rfl
theorem tN_72 (x : Int) : tNc 72 x = IntKind.wrap .i32 (IntKind.wrap .i64 (ibin .and .u32 (ibin .shr .u32 x 20) 31)) := by kernel_rfl
theorem tN_83 (x : Int) : tNc 83 x = rfSigned (ibin .or .u32 (ibin .shl .u32 (rfField x 7 5) 0) (ibin .shl .u32 (rfField x 25 7) 5)) 12 := by kernel_rfl
theorem tN_66 (x : Int) : tNc 66 x = rfSigned (ibin .or .u32 (ibin .or .u32 (ibin .or .u32 (ibin .shl .u32 (rfField x 7 1) 11) (ibin .shl .u32 (rfField x 8 4) 1)) (ibin .shl .u32 (rfField x 25 6) 5)) (ibin .shl .u32 (rfField x 31 1) 12)) 13 := by kernel_rfl
theorem tN_85 (x : Int) : tNc 85 x = IntKind.wrap .i32 (ibin .and .u32 x 4294963200) := by kernel_rfl
theorem tN_74 (x : Int) : tNc 74 x = rfSigned (ibin .or .u32 (ibin .or .u32 (ibin .or .u32 (ibin .shl .u32 (rfField x 12 8) 12) (ibin .shl .u32 (rfField x 20 1) 11)) (ibin .shl .u32 (rfField x 21 10) 1)) (ibin .shl .u32 (rfField x 31 1) 20)) 21 := by kernel_rfl
theorem tN_69 (x : Int) : tNc 69 x = 0 := by kernel_rfl
theorem t_reg (x n : Int) (m : Nat) (d : Int) (h : min n.toNat 32 = m) (hd : (2 : Int) ^ m = d) (h0 : 0 ≤ d) : IntKind.wrap .i64 (ibin .and .u32 (ibin .shr .u32 x n) 31) = x / d % 32 := by
  rw [shr_l .u32 x n m d h hd h0, and31, IntKind.wrap_i64]
  generalize x / d = y
  omega
theorem t_form {op x : Int} (h1 : 1 ≤ op) (h2 : op ≤ 47) (h0 : 0 ≤ x) (hx : x < 4294967296) :
    tD op x = fD (rvOf_1 op) x ∧ tA op x = fA (rvOf_1 op) x ∧ tB op x = fB (rvOf_1 op) x ∧ tN op x = fN (rvOf_1 op) x := by
  obtain ⟨-, -, -, hf⟩ := row h1 h2
  have rd : IntKind.wrap .i64 (ibin .and .u32 (ibin .shr .u32 x 7) 31) = x / 128 % 32 := t_reg x 7 7 128 (by decide) (by decide) (by decide)
  have ra : IntKind.wrap .i64 (ibin .and .u32 (ibin .shr .u32 x 15) 31) = x / 32768 % 32 := t_reg x 15 15 32768 (by decide) (by decide) (by decide)
  have rb : IntKind.wrap .i64 (ibin .and .u32 (ibin .shr .u32 x 20) 31) = x / 1048576 % 32 := t_reg x 20 20 1048576 (by decide) (by decide) (by decide)
  have o5 := (((pX x 7 5 0 128 32 1 5 0 31 (by decide) (by decide) (by decide) (by decide) (by decide) (by decide) (by decide) (by decide) (by decide) (by decide)).or (pX x 25 7 5 33554432 128 32 7 5 4064 (by decide) (by decide) (by decide) (by decide) (by decide) (by decide) (by decide) (by decide) (by decide) (by decide)) (by decide))).1
  have o6 := (((((pX x 7 1 11 128 2 2048 1 11 2048 (by decide) (by decide) (by decide) (by decide) (by decide) (by decide) (by decide) (by decide) (by decide) (by decide)).or (pX x 8 4 1 256 16 2 4 1 30 (by decide) (by decide) (by decide) (by decide) (by decide) (by decide) (by decide) (by decide) (by decide) (by decide)) (by decide)).or (pX x 25 6 5 33554432 64 32 6 5 2016 (by decide) (by decide) (by decide) (by decide) (by decide) (by decide) (by decide) (by decide) (by decide) (by decide)) (by decide)).or (pX x 31 1 12 2147483648 2 4096 1 12 4096 (by decide) (by decide) (by decide) (by decide) (by decide) (by decide) (by decide) (by decide) (by decide) (by decide)) (by decide))).1
  have o8 := (((((pX x 12 8 12 4096 256 4096 8 12 1044480 (by decide) (by decide) (by decide) (by decide) (by decide) (by decide) (by decide) (by decide) (by decide) (by decide)).or (pX x 20 1 11 1048576 2 2048 1 11 2048 (by decide) (by decide) (by decide) (by decide) (by decide) (by decide) (by decide) (by decide) (by decide) (by decide)) (by decide)).or (pX x 21 10 1 2097152 1024 2 10 1 2046 (by decide) (by decide) (by decide) (by decide) (by decide) (by decide) (by decide) (by decide) (by decide) (by decide)) (by decide)).or (pX x 31 1 20 2147483648 2 1048576 1 20 1048576 (by decide) (by decide) (by decide) (by decide) (by decide) (by decide) (by decide) (by decide) (by decide) (by decide)) (by decide))).1
  unfold tD tA tB tN
  rcases hf with ⟨f, g, -⟩ | ⟨f | f, g, -⟩ | ⟨f, g, -⟩ | ⟨f, g, -⟩ | ⟨f, g, -⟩ | ⟨f, g, -⟩ | ⟨f, g, -⟩ | ⟨f, g, -⟩ <;> rw [f, g]
  · rw [tD_82, tA_82, tB_82, tN_82]
    refine ⟨rd, ra, rb, ?_⟩
    rfl
  · rw [tD_73, tA_73, tB_73, tN_73]
    refine ⟨rd, ra, rfl, ?_⟩
    show ibin .shr .i32 (IntKind.wrap .i32 x) 20 = nI x
    rw [shr_l .i32 _ 20 20 1048576 (by decide) (by decide) (by decide), IntKind.wrap_i32]; unfold nI; omega
  · rw [tD_73, tA_73, tB_73, tN_73]
    refine ⟨rd, ra, rfl, ?_⟩
    show ibin .shr .i32 (IntKind.wrap .i32 x) 20 = nI x
    rw [shr_l .i32 _ 20 20 1048576 (by decide) (by decide) (by decide), IntKind.wrap_i32]; unfold nI; omega
  · rw [tD_72, tA_72, tB_72, tN_72]
    refine ⟨rd, ra, rfl, ?_⟩
    rw [rb, IntKind.wrap_i32]; show _ = x / 1048576 % 32; omega
  · rw [tD_83, tA_83, tB_83, tN_83]
    refine ⟨rfl, ra, rb, ?_⟩
    unfold rfSigned rfField
    rw [o5, sgn_12]; show _ = nS x; unfold nS; omega
  · rw [tD_66, tA_66, tB_66, tN_66]
    refine ⟨rfl, ra, rb, ?_⟩
    unfold rfSigned rfField
    rw [o6, sgn_13]; show _ = nB x; unfold nB; omega
  · rw [tD_85, tA_85, tB_85, tN_85]
    refine ⟨rd, rfl, rfl, ?_⟩
    rw [and_high x h0 hx, IntKind.wrap_i32]; show _ = nU x; unfold nU; omega
  · rw [tD_74, tA_74, tB_74, tN_74]
    refine ⟨rd, rfl, rfl, ?_⟩
    unfold rfSigned rfField
    rw [o8, sgn_21]; show _ = nJ x; unfold nJ; omega
  · rw [tD_69, tA_69, tB_69, tN_69]
    refine ⟨rfl, rfl, rfl, ?_⟩
    rfl
theorem t_W {op x : Int} (h1 : 1 ≤ op) (h2 : op ≤ 47) (h0 : 0 ≤ x) (hx : x < 4294967296) : W op (tD op x) (tA op x) (tB op x) (tN op x) := by
  obtain ⟨e1, e2, e3, e4⟩ := t_form h1 h2 h0 hx
  rw [e1, e2, e3, e4]
  refine ⟨⟨h1, h2⟩, ?_⟩
  obtain ⟨-, -, -, hf⟩ := row h1 h2
  have rg : ∀ y : Int, Rg (y % 32) := fun y => ⟨by omega, by omega⟩
  rcases hf with ⟨f, -, -⟩ | ⟨f | f, -, -⟩ | ⟨f, -, -⟩ | ⟨f, -, -⟩ | ⟨f, -, -⟩ | ⟨f, -, -⟩ | ⟨f, -, -⟩ | ⟨f, -, -⟩ <;> rw [f]
  · exact Or.inl ⟨rfl, rg _, rg _, rg _, rfl⟩
  · have b : -2048 ≤ nI x ∧ nI x < 2048 := by unfold nI; omega
    exact Or.inr (Or.inl ⟨Or.inl rfl, rg _, rg _, rfl, b.1, b.2⟩)
  · have b : -2048 ≤ nI x ∧ nI x < 2048 := by unfold nI; omega
    exact Or.inr (Or.inl ⟨Or.inr rfl, rg _, rg _, rfl, b.1, b.2⟩)
  · exact Or.inr (Or.inr (Or.inl ⟨rfl, rg _, rg _, rfl, (rg _).1, (rg _).2⟩))
  · have b : -2048 ≤ nS x ∧ nS x < 2048 := by unfold nS; omega
    exact Or.inr (Or.inr (Or.inr (Or.inl ⟨rfl, rfl, rg _, rg _, b.1, b.2⟩)))
  · have b : (-4096 ≤ nB x ∧ nB x < 4096) ∧ nB x % 2 = 0 := by unfold nB; omega
    exact Or.inr (Or.inr (Or.inr (Or.inr (Or.inl ⟨rfl, rfl, rg _, rg _, b.1, b.2⟩))))
  · have b : nU x % 4096 = 0 := by unfold nU; omega
    exact Or.inr (Or.inr (Or.inr (Or.inr (Or.inr (Or.inl ⟨rfl, rg _, rfl, rfl, b⟩)))))
  · have b : (-1048576 ≤ nJ x ∧ nJ x < 1048576) ∧ nJ x % 2 = 0 := by unfold nJ; omega
    exact Or.inr (Or.inr (Or.inr (Or.inr (Or.inr (Or.inr (Or.inl ⟨rfl, rg _, rfl, rfl, b.1, b.2⟩))))))
  · exact Or.inr (Or.inr (Or.inr (Or.inr (Or.inr (Or.inr (Or.inr ⟨rfl, rfl, rfl, rfl, rfl⟩))))))

def tryC (x op : Int) : Bool := icmp .eql (rfEnc_0 op (tD op x) (tA op x) (tB op x) (tN op x)) x
noncomputable def tryA {α : Type} (x : Int) (g : Int → α) (z : α) (l : List Int) : α := List.rec (motive := fun _ => α) z (fun op _ r => bif tryC x op then g op else r) l
theorem tryA_cons {α : Type} (x : Int) (g : Int → α) (z : α) (op : Int) (l : List Int) : tryA x g z (op :: l) = bif tryC x op then g op else tryA x g z l := rfl
theorem tryA_spec (x : Int) : ∀ l : List Int, (∃ op, op ∈ l ∧ tryC x op = true ∧ ∀ (α : Type) (g : Int → α) (z : α), tryA x g z l = g op) ∨ ((∀ op, op ∈ l → tryC x op = false) ∧ ∀ (α : Type) (g : Int → α) (z : α), tryA x g z l = z)
  | [] => Or.inr ⟨fun op h => (by cases h), fun α g z => rfl⟩
  | op :: l => by
    cases hc : tryC x op
    · rcases tryA_spec x l with ⟨o, hm, ht, hg⟩ | ⟨hn, hz⟩
      · exact Or.inl ⟨o, List.mem_cons_of_mem _ hm, ht, fun α g z => by rw [tryA_cons, hc]; exact hg α g z⟩
      · refine Or.inr ⟨fun o h => ?_, fun α g z => by rw [tryA_cons, hc]; exact hz α g z⟩
        rcases List.mem_cons.1 h with rfl | h
        · exact hc
        · exact hn o h
    · exact Or.inl ⟨op, List.mem_cons_self, hc, fun α g z => by rw [tryA_cons, hc]; rfl⟩
def ops : List Int := [1, 2, 3, 4, 5, 6, 7, 8, 9, 10, 11, 12, 13, 14, 15, 16, 17, 18, 19, 20, 21, 22, 23, 24, 25, 26, 27, 28, 29, 30, 31, 32, 33, 34, 35, 36, 37, 38, 39, 40, 41, 42, 43, 44, 45, 46, 47]
theorem ops_mem {op : Int} (h1 : 1 ≤ op) (h2 : op ≤ 47) : op ∈ ops := by
  have := fin47 (fun op => decide (op ∈ ops)) (by decide) h1 h2
  exact of_decide_eq_true this
theorem ops_all {op : Int} (h : op ∈ ops) : 1 ≤ op ∧ op ≤ 47 := by
  have : ∀ o ∈ ops, 1 ≤ o ∧ o ≤ 47 := by decide
  exact this op h
end Go.Proofs.Ytndfcpkmchjncaa
