/-
  AsmConst: states of the document's host; the walk.
-/
import Derived.Test.YtndfcpkmchjncaaAcP
import Derived.Test.YtndfcpkmchjncaaKit
import Derived.Laws.StructEq
namespace Go.Proofs.Ytndfcpkmchjncaa
open Go Go.RowKit Go.Sx
set_option linter.unusedVariables false
set_option linter.unusedSimpArgs false

def rgs (rs : List Int) : Nat → HS
  | 0 => S0
  | k + 1 => (rgs rs k).put (k + 1) (rs.getD k 0)
def sws (S : HS) (ws : List Int) : Nat → HS
  | 0 => S
  | k + 1 => stM (sws S ws k) (1024 + 4 * (k : Int)) 4 (ws.getD k 0)
theorem rgs_good {rs : List Int} (h : ∀ i, 0 ≤ rs.getD i 0 ∧ rs.getD i 0 ≤ 4294967295) : ∀ k, Good (rgs rs k)
  | 0 => S0_good
  | k + 1 => (rgs_good h k).put (by omega) (h k)
theorem rgs_pc (rs : List Int) : ∀ k, (rgs rs k).pc = 1024
  | 0 => rfl
  | k + 1 => rgs_pc rs k
/-- so many steps, each making the next state -/
def Chain (T : Nat → HS) (m : Nat) : Prop := ∀ i, i < m → ∀ (w : World) (rb nb : Nat), RefAt w rb nb (T i) →
  Calls Try.prog 15 #[.pointer (some ⟨rb, 0, none⟩)] w fun e w' => e = .returned (.int .i64 0) ∧ MakesR w rb nb (T (i + 1)) w'
theorem encS_bd {op d a b n : Int} (h : W op d a b n) (hn : -2147483648 ≤ n ∧ n < 2147483648) : 0 ≤ encS op d a b n ∧ encS op d a b n < 4294967296 := ⟨(back h hn rfl).lo, (back h hn rfl).hi⟩
theorem putX_val (S : HS) {rd : Int} (hr : 1 ≤ rd ∧ rd < 32) (v : Int) : (putX S rd v).x = upd S.x rd.toNat v := by rw [putX_x, if_pos hr]
theorem setPC_x' (S : HS) (v : Int) : (S.setPC v).x = S.x := rfl
theorem sws_two (G : HS) {S S' : HS} {a b : Int} (hS : S = stM S' 1028 4 b) (hS' : S' = stM G 1024 4 a) : S = sws G [a, b] 2 := by
  have e : sws G [a, b] 2 = stM (stM G (1024 + 4 * ((0 : Nat) : Int)) 4 a) (1024 + 4 * ((1 : Nat) : Int)) 4 b := by
    simp only [sws]; rfl
  rw [e, hS, hS', show (1024 + 4 * ((0 : Nat) : Int)) = 1024 from by decide, show (1024 + 4 * ((1 : Nat) : Int)) = 1028 from by decide]
theorem chain_ex (rs : List Int) (rd v : Int) (hrs : ∀ i, 0 ≤ rs.getD i 0 ∧ rs.getD i 0 ≤ 4294967295) (hr : 1 ≤ rd ∧ rd < 32) (hv : 0 ≤ v ∧ v ≤ 4294967295) :
    ∃ T : Nat → HS, T 0 = sws (rgs rs 31) (cws rd v) (cws rd v).length ∧ Chain T (cws rd v).length ∧ (∀ j, (T (cws rd v).length).x j = upd (rgs rs 31).x rd.toNat v j) ∧ (T (cws rd v).length).pc = 1024 + 4 * ((cws rd v).length : Int) := by
  have hG := rgs_good hrs 31
  have hpc := rgs_pc rs 31
  have hR : Rg rd := ⟨by omega, hr.2⟩
  have b1 := lo_bd v
  have b0 := hi_bd v
  have hm := hi_mul v
  have hs := parts_sum v hv.1 hv.2
  have c0 : canB 1024 4 = true := by decide
  have c1 : canB 1028 4 = true := by decide
  have wA0 := encS_bd (W_addi hR Rg0 b1) ⟨by omega, by omega⟩
  have wA1 := encS_bd (W_addi hR hR b1) ⟨by omega, by omega⟩
  have wL := encS_bd (W_lui hR hm) b0
  generalize hGG : rgs rs 31 = G at *
  by_cases hz : hi20 v = 0
  · have hc' : cws rd v = [encS 19 rd 0 0 (lo12 v)] := by unfold cws; rw [if_pos hz]
    rw [hc']
    obtain ⟨S, hS⟩ : ∃ S, S = stM G 1024 4 (encS 19 rd 0 0 (lo12 v)) := ⟨_, rfl⟩
    have hSG : Good S := hS ▸ stM_good hG _ _ _
    have hSp : S.pc = 1024 := by rw [hS, stM_pc]; exact hpc
    have hSx : S.x = G.x := by rw [hS, stM_x]
    have hl : ldV S S.pc 4 = encS 19 rd 0 0 (lo12 v) := by rw [hSp, hS]; exact ld_st4 G (by decide) c0 wA0.1 wA0.2
    have g0 : getX S 0 = 0 := by rw [getX_reg hSG (by decide)]; exact hSG.zero
    have hval : (getX S 0 + lo12 v % 4294967296) % 4294967296 = v := by rw [g0]; rw [hz] at hs; omega
    have hn : nxt S = 1028 := by unfold nxt; rw [hSp]; rfl
    refine ⟨fun i => if i = 0 then S else (putX S rd v).setPC 1028, hS, fun i hi => ?_, fun j => ?_, rfl⟩
    · have : i = 0 := by simpa using hi
      subst this
      intro w rb nb hH
      have h := step_addi w rb nb S hH hSG (by rw [hSp]; exact c0) rd (lo12 v) hr 0 (by decide) b1 hl
      rw [hval, hn] at h
      exact h
    · show (putX S rd v).x j = _
      rw [putX_val S hr, hSx]
  · by_cases hl0 : lo12 v = 0
    · have hc' : cws rd v = [encS 1 rd 0 0 (hi20 v)] := by unfold cws; rw [if_neg hz, if_pos hl0]
      rw [hc']
      obtain ⟨S, hS⟩ : ∃ S, S = stM G 1024 4 (encS 1 rd 0 0 (hi20 v)) := ⟨_, rfl⟩
      have hSG : Good S := hS ▸ stM_good hG _ _ _
      have hSp : S.pc = 1024 := by rw [hS, stM_pc]; exact hpc
      have hSx : S.x = G.x := by rw [hS, stM_x]
      have hl : ldV S S.pc 4 = encS 1 rd 0 0 (hi20 v) := by rw [hSp, hS]; exact ld_st4 G (by decide) c0 wL.1 wL.2
      have hval : hi20 v % 4294967296 = v := by rw [hl0] at hs; omega
      have hn : nxt S = 1028 := by unfold nxt; rw [hSp]; rfl
      refine ⟨fun i => if i = 0 then S else (putX S rd v).setPC 1028, hS, fun i hi => ?_, fun j => ?_, rfl⟩
      · have : i = 0 := by simpa using hi
        subst this
        intro w rb nb hH
        have h := step_lui w rb nb S hH hSG (by rw [hSp]; exact c0) rd (hi20 v) hr ⟨hm, b0⟩ hl
        rw [hval, hn] at h
        exact h
      · show (putX S rd v).x j = _
        rw [putX_val S hr, hSx]
    · have hc' : cws rd v = [encS 1 rd 0 0 (hi20 v), encS 19 rd rd 0 (lo12 v)] := by unfold cws; rw [if_neg hz, if_neg hl0]
      rw [hc']
      obtain ⟨S', hS'⟩ : ∃ S, S = stM G 1024 4 (encS 1 rd 0 0 (hi20 v)) := ⟨_, rfl⟩
      obtain ⟨S, hS⟩ : ∃ S, S = stM S' 1028 4 (encS 19 rd rd 0 (lo12 v)) := ⟨_, rfl⟩
      have hSG' : Good S' := hS' ▸ stM_good hG _ _ _
      have hSG : Good S := hS ▸ stM_good hSG' _ _ _
      have hSp : S.pc = 1024 := by rw [hS, stM_pc, hS', stM_pc]; exact hpc
      have hSx : S.x = G.x := by rw [hS, stM_x, hS', stM_x]
      have hl : ldV S S.pc 4 = encS 1 rd 0 0 (hi20 v) := by
        rw [hSp, hS, ld_st_ne S' (by decide) (by decide) c1 c0 (by decide), hS']
        exact ld_st4 G (by decide) c0 wL.1 wL.2
      obtain ⟨S1, hS1⟩ : ∃ S1, S1 = (putX S rd (hi20 v % 4294967296)).setPC 1028 := ⟨_, rfl⟩
      have hb : 0 ≤ hi20 v % 4294967296 ∧ hi20 v % 4294967296 ≤ 4294967295 := by omega
      have hSG1 : Good S1 := hS1 ▸ (hSG.putX rd hb).setPC (by decide)
      have hSp1 : S1.pc = 1028 := by rw [hS1]; rfl
      have hm1 : S1.m = S.m := by rw [hS1]; exact putX_m S rd _
      have hl1 : ldV S1 S1.pc 4 = encS 19 rd rd 0 (lo12 v) := by
        rw [hSp1, ldV_m hm1, hS]
        exact ld_st4 S' (by decide) c1 wA1.1 wA1.2
      have hx1 : S1.x = upd S.x rd.toNat (hi20 v % 4294967296) := by rw [hS1, setPC_x', putX_val S hr]
      have hg1 : getX S1 rd = hi20 v % 4294967296 := by rw [getX_reg hSG1 ⟨by omega, hr.2⟩, hx1, upd_at]
      have hn : nxt S = 1028 := by unfold nxt; rw [hSp]; rfl
      have hn1 : nxt S1 = 1032 := by unfold nxt; rw [hSp1]; rfl
      refine ⟨fun i => if i = 0 then S else if i = 1 then S1 else (putX S1 rd v).setPC 1032, sws_two G hS hS', fun i hi => ?_, fun j => ?_, rfl⟩
      · have : i = 0 ∨ i = 1 := by have : i < 2 := hi; omega
        rcases this with rfl | rfl
        · intro w rb nb hH
          have h := step_lui w rb nb S hH hSG (by rw [hSp]; exact c0) rd (hi20 v) hr ⟨hm, b0⟩ hl
          rw [hn, ← hS1] at h
          exact h
        · intro w rb nb hH
          have h := step_addi w rb nb S1 hH hSG1 (by rw [hSp1]; exact c1) rd (lo12 v) hr rd ⟨by omega, hr.2⟩ b1 hl1
          rw [hg1, hs, hn1] at h
          exact h
      · show (putX S1 rd v).x j = _
        rw [putX_val S1 hr, hx1, hSx]
        unfold upd
        split <;> simp_all

end Go.Proofs.Ytndfcpkmchjncaa
