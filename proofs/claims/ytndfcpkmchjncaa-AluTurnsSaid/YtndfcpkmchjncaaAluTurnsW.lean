/- The walk of the law AluTurns. -/
import Derived.Test.YtndfcpkmchjncaaAluKnown
import Derived.Test.YtndfcpkmchjncaaAluTurnC
import Derived.Test.YtndfcpkmchjncaaRows6
import Derived.Test.YtndfcpkmchjncaaKit
import Derived.OpenShut
import Derived.Deep.RegionWith
namespace Go.Proofs.Ytndfcpkmchjncaa
open Go.ChangeShapes Go.WideShapes Go.ChangeAt Go.RowKit
set_option linter.unusedVariables false
set_option linter.unusedSimpArgs false

def F6.cs (f : F6) : Array Value := #[.bool f.c, .bool f.p, .bool f.a, .bool f.z, .bool f.s, .bool f.o]

theorem shift_to {op a n k v : Int} {f g : F6} (ho : IsOp op) (ha : 0 ≤ a ∧ a < 4294967296) (hn : 0 ≤ n ∧ n < 4294967296) (hkn : n % 32 = k) (hv : shv op a k = v) (hg : shf op a k f = g) (w : World) :
    Calls Try.prog 7 #[.int .i64 op, .int .u32 a, .int .u32 n, .agg #[.bool f.c, .bool f.p, .bool f.a, .bool f.z, .bool f.s, .bool f.o]] w fun e w' => e = .returned (.tuple #[.int .u32 v, .agg #[.bool g.c, .bool g.p, .bool g.a, .bool g.z, .bool g.s, .bool g.o]]) ∧ Below w.heap.size w w' := by
  subst hv hg
  exact shift_is op a n k f ho ha hn hkn w

/-- a cell of a row that is written -/
theorem row_setAt {w : World} {g i : Nat} {A : Array Value} (h : Row w g A) (u : Value) (hi : i < A.size) : Row (w.setCell ⟨g, i, none⟩ u) g (A.setIfInBounds i u) := by
  refine ⟨by simpa [World.setCell] using h.lt, fun j v hj => ?_, fun j => by rw [World.frozen?_setCell]; exact h.free j⟩
  by_cases hji : j = i
  · subst hji
    rw [Array.getElem?_setIfInBounds_self_of_lt hi] at hj
    obtain rfl := Option.some.inj hj
    exact World.cell?_setCell_same _ _ _ (by rw [h.cell j _ (Array.getElem?_eq_getElem hi)])
  · rw [Array.getElem?_setIfInBounds_ne (Ne.symm hji)] at hj
    rw [World.cell?_setCell_other _ _ _ _ (fun e => hji (congrArg Addr.off e).symm)]
    exact h.cell j v hj
theorem row_put6 {w : World} {g : Nat} {v0 v1 v2 v3 v4 v5 : Value} (u0 u1 u2 u3 u4 u5 : Value) (h : Row w g #[v0, v1, v2, v3, v4, v5]) :
    Row ((((((w.setCell ⟨g, 0, none⟩ u0).setCell ⟨g, 1, none⟩ u1).setCell ⟨g, 2, none⟩ u2).setCell ⟨g, 3, none⟩ u3).setCell ⟨g, 4, none⟩ u4).setCell ⟨g, 5, none⟩ u5) g #[u0, u1, u2, u3, u4, u5] :=
  row_setAt (row_setAt (row_setAt (row_setAt (row_setAt (row_setAt h u0 (by simp)) u1 (by simp)) u2 (by simp)) u3 (by simp)) u4 (by simp)) u5 (by simp)
theorem row_far6 {w : World} {g b : Nat} {A : Array Value} (u0 u1 u2 u3 u4 u5 : Value) (hp : g ≠ b) (h : Row w b A) : Row ((((((w.setCell ⟨g, 0, none⟩ u0).setCell ⟨g, 1, none⟩ u1).setCell ⟨g, 2, none⟩ u2).setCell ⟨g, 3, none⟩ u3).setCell ⟨g, 4, none⟩ u4).setCell ⟨g, 5, none⟩ u5) b A :=
  row_set (row_set (row_set (row_set (row_set (row_set h hp _) hp _) hp _) hp _) hp _) hp _
theorem below_put6 {a w : World} {g : Nat} (u0 u1 u2 u3 u4 u5 : Value) (hp : a.heap.size ≤ g) (h : Below a.heap.size a w) : Below a.heap.size a ((((((w.setCell ⟨g, 0, none⟩ u0).setCell ⟨g, 1, none⟩ u1).setCell ⟨g, 2, none⟩ u2).setCell ⟨g, 3, none⟩ u3).setCell ⟨g, 4, none⟩ u4).setCell ⟨g, 5, none⟩ u5) :=
  below_set (below_set (below_set (below_set (below_set (below_set h hp _) hp _) hp _) hp _) hp _) hp _

set_option maxRecDepth 100000 in
set_option maxHeartbeats 4000000 in
theorem turns_main (a n : Int) (kN : Nat) (f : F6) (ha : 0 ≤ a ∧ a < 4294967296) (hn : 0 ≤ n ∧ n ≤ 255) (hk : n % 32 = (kN : Int)) (w : World) :
    Calls Try.prog 3 #[.int .u32 a, .int .u8 n, .agg #[.bool f.c, .bool f.p, .bool f.a, .bool f.z, .bool f.s, .bool f.o]] w fun e w' => e = .returned (.bool true) ∧ Below w.heap.size w w' := by
  have hk32 : kN < 32 := by omega
  obtain ⟨k, hkk⟩ : ∃ k : Int, (kN : Int) = k := ⟨_, rfl⟩
  rw [hkk] at hk
  have hk0 : 0 ≤ k ∧ k < 32 := by omega
  have ht : n.tmod 32 = k := by rw [Int.tmod_eq_emod_of_nonneg hn.1]; exact hk
  have hkm : k % 32 = k := by omega
  obtain ⟨x, hx⟩ : ∃ x, shv 21 a k = x := ⟨_, rfl⟩
  have hxb : 0 ≤ x ∧ x < 4294967296 := by rw [← hx]; exact shv_bd ha
  have hy : shv 22 x k = a := by rw [← hx]; exact turn_back ha hk0.1 hk0.2
  have O21 : Hid (IsOp 21) := Lib.hid (Or.inl rfl)
  have O22 : Hid (IsOp 22) := Lib.hid (Or.inr (Or.inl rfl))
  have HA := Lib.hid ha; have HK0 := Lib.hid hk0; have HKM := Lib.hid hkm; have HX := Lib.hid hx; have HXB := Lib.hid hxb; have HY := Lib.hid hy; have HKK := Lib.hid hkk; have HN := Lib.hid hn
  obtain ⟨G1, hG1⟩ : ∃ g, shf 21 a k f = g := ⟨_, rfl⟩
  obtain ⟨G2, hG2⟩ : ∃ g, shf 22 x k f = g := ⟨_, rfl⟩
  have HG1 := Lib.hid hG1; have HG2 := Lib.hid hG2
  have hkw : IntKind.u32.wrap k = k := by rw [IntKind.wrap_u32]; omega
  clear ha hk0 hkm hx hxb hy hkk hn hG1 hG2 hk
  go_enter Try.func3, Try.ntmps3
  go_wp2_with fail
  refine (known8 _).mono ?_; rintro e w1 ⟨rfl, hb1⟩
  have B1 : Below w.heap.size w w1 := below_then (by repeat (first | exact below_refl _ | apply below_alloc | apply below_drew)) hb1
  have RF := row_keep hb1 (by repeat (first | exact row_new _ _ _ | apply row_alloc | apply row_drew))
  clear hb1
  obtain ⟨l0, c0, c1, c2, c3, c4, c5⟩ := row6 RF
  go_wp2_with fail
  refine (shift_to (k := k) (f := f) (g := G1) O21.out HA.out (by have := HK0.out; omega) HKM.out HX.out HG1.out _).mono ?_; rintro e w2 ⟨rfl, hb2⟩
  have B2 : Below w.heap.size w w2 := below_then (by repeat (first | exact B1 | apply below_alloc | apply below_drew)) hb2
  clear l0 c0 c1 c2 c3 c4 c5
  replace RF := row_keep hb2 (by repeat (first | exact RF | apply row_alloc | apply row_drew))
  clear hb2
  obtain ⟨l0, c0, c1, c2, c3, c4, c5⟩ := row6 RF
  go_wp2_with fail
  refine (shift_to (k := k) (f := f) (g := G2) O22.out HXB.out (by have := HK0.out; omega) HKM.out HY.out HG2.out _).mono ?_; rintro e w3 ⟨rfl, hb3⟩
  have B3 : Below w.heap.size w w3 := below_then (by repeat (first | exact B2 | apply below_alloc | apply below_drew)) hb3
  clear l0 c0 c1 c2 c3 c4 c5
  replace RF := row_keep hb3 (by repeat (first | exact RF | apply row_alloc | apply row_drew))
  clear hb3
  obtain ⟨l0, c0, c1, c2, c3, c4, c5⟩ := row6 RF
  go_wp2_with fail
  go_loopw [41] (fun i wr => ∃ j : Nat, j ≤ 5 ∧ i = .int .i64 (j : Nat) ∧ Row wr w.heap.size #[.bool f.c, .bool f.p, .bool f.a, .bool f.z, .bool f.s, .bool f.o] ∧ Below w.heap.size w wr) (fun i _ => 5 - (intOf i).toNat)
  case atStart => exact ⟨0, by omega, rfl, by repeat (first | exact RF | apply row_alloc | apply row_drew), by repeat (first | exact B3 | apply below_alloc | apply below_drew)⟩
  case round =>
    obtain ⟨j, hj, rfl, RF, hB⟩ := hrel
    have HB := Lib.hid hB; clear hB
    by_cases hlt : j < 5
    · have hidx : ∀ w, (Instr.index 28 (.agg #[.int .i64 21, .int .i64 22, .int .i64 23, .int .i64 24, .int .i64 25]) (.int .i64 (j : Int))).run Try.prog w = .ok (.int .i64 (21 + (j : Int))) w := by
        have hj5 : j = 0 ∨ j = 1 ∨ j = 2 ∨ j = 3 ∨ j = 4 := by omega
        rcases hj5 with rfl | rfl | rfl | rfl | rfl <;> exact fun _ => by kernel_rfl
      obtain ⟨op, hop⟩ : ∃ op, 21 + (j : Int) = op := ⟨_, rfl⟩
      rw [hop] at hidx
      have HO : Hid (IsOp op) := Lib.hid (by unfold IsOp; omega)
      have hlt2 : (j : Int) < 5 := by omega
      have hj0 : (0 : Int) ≤ (j : Int) := by omega
      obtain ⟨V, hV⟩ : ∃ v, shv op a k = v := ⟨_, rfl⟩
      obtain ⟨G, hG⟩ : ∃ g, shf op a k f = g := ⟨_, rfl⟩
      have HV := Lib.hid hV; have HG := Lib.hid hG; have HOP := Lib.hid hop
      clear hV hG hop
      obtain ⟨l0, c0, c1, c2, c3, c4, c5⟩ := row6 RF
      go_wp2_with fail
      refine (shift_to (k := k) (f := f) (g := G) HO.out HA.out (by have := HK0.out; omega) HKM.out HV.out HG.out _).mono ?_; rintro e w5 ⟨rfl, hb5⟩
      have B5 : Below w.heap.size w w5 := below_then (by repeat (first | exact HB.out | apply below_alloc | apply below_drew)) hb5
      clear l0 c0 c1 c2 c3 c4 c5
      replace RF := row_keep hb5 (by repeat (first | exact RF | apply row_alloc | apply row_drew))
      clear hb5
      obtain ⟨l0, c0, c1, c2, c3, c4, c5⟩ := row6 RF
      go_wp2_with fail
      go_region
      have RG : Row ((w5.alloc (.cells #[.bool G.c, .bool G.p, .bool G.a, .bool G.z, .bool G.s, .bool G.o] 24)).alloc (.cells #[.bool f.c, .bool f.p, .bool f.a, .bool f.z, .bool f.s, .bool f.o] 24)).drew w5.heap.size #[.bool G.c, .bool G.p, .bool G.a, .bool G.z, .bool G.s, .bool G.o] := by repeat (first | exact row_new _ _ _ | apply row_alloc | apply row_drew)
      have RH : Row ((w5.alloc (.cells #[.bool G.c, .bool G.p, .bool G.a, .bool G.z, .bool G.s, .bool G.o] 24)).alloc (.cells #[.bool f.c, .bool f.p, .bool f.a, .bool f.z, .bool f.s, .bool f.o] 24)).drew (w5.heap.size + 1) #[.bool f.c, .bool f.p, .bool f.a, .bool f.z, .bool f.s, .bool f.o] := by
        apply row_drew
        exact row_at _ _ _ _ (by rw [World.size_alloc])
      have RF' : Row ((w5.alloc (.cells #[.bool G.c, .bool G.p, .bool G.a, .bool G.z, .bool G.s, .bool G.o] 24)).alloc (.cells #[.bool f.c, .bool f.p, .bool f.a, .bool f.z, .bool f.s, .bool f.o] 24)).drew w.heap.size #[.bool f.c, .bool f.p, .bool f.a, .bool f.z, .bool f.s, .bool f.o] := by repeat (first | exact RF | apply row_alloc | apply row_drew)
      have B6 : Hid (Below w.heap.size w ((w5.alloc (.cells #[.bool G.c, .bool G.p, .bool G.a, .bool G.z, .bool G.s, .bool G.o] 24)).alloc (.cells #[.bool f.c, .bool f.p, .bool f.a, .bool f.z, .bool f.s, .bool f.o] 24)).drew) := Lib.hid (by repeat (first | exact B5 | apply below_alloc | apply below_drew))
      have Z5 : Hid (w.heap.size < w5.heap.size) := Lib.hid RF.lt
      generalize hw6 : ((w5.alloc (.cells #[.bool G.c, .bool G.p, .bool G.a, .bool G.z, .bool G.s, .bool G.o] 24)).alloc (.cells #[.bool f.c, .bool f.p, .bool f.a, .bool f.z, .bool f.s, .bool f.o] 24)).drew = w6 at *
      generalize hg5 : w5.heap.size = g5 at *
      have RG6 := Lib.hid RG; have RH6 := Lib.hid RH; have RF6 := Lib.hid RF'
      clear l0 c0 c1 c2 c3 c4 c5 RG RH RF' RF B5 hw6 hg5
      go_wp2_with fail
      go_loopw [16, 18] (fun x i ws => ∃ (m : Nat) (z : Int) (h : F6), m ≤ kN ∧ i = .int .u32 (m : Nat) ∧ x = .int .u32 z ∧ Steps op a f (m : Nat) z h ∧ Row ws (g5 + 1) #[.bool h.c, .bool h.p, .bool h.a, .bool h.z, .bool h.s, .bool h.o] ∧ Row ws g5 #[.bool G.c, .bool G.p, .bool G.a, .bool G.z, .bool G.s, .bool G.o] ∧ Row ws w.heap.size #[.bool f.c, .bool f.p, .bool f.a, .bool f.z, .bool f.s, .bool f.o] ∧ Below w.heap.size w ws) (fun x i _ => kN - (intOf i).toNat)
      case atStart => exact ⟨0, a, f, by omega, rfl, rfl, Steps.zero op a f, RH6.out, RG6.out, RF6.out, B6.out⟩
      case round =>
        obtain ⟨m, z, h, hm, rfl, rfl, hS, RH, RG, RF, hB⟩ := hrel
        have HB' := Lib.hid hB; have HS := Lib.hid hS; have HM := Lib.hid hm; clear hB hS hm
        by_cases hmk : m < kN
        · have hmk2 : (m : Int) < k := by have := HKK.out; omega
          have hm0 : (0 : Int) ≤ (m : Int) := by omega
          have hm32 : (m : Int) < 32 := by have := HK0.out; omega
          obtain ⟨z', hz'⟩ : ∃ v, shv op z 1 = v := ⟨_, rfl⟩
          obtain ⟨h', hh'⟩ : ∃ v, shf op z 1 h = v := ⟨_, rfl⟩
          have HZ' := Lib.hid hz'; have HH' := Lib.hid hh'
          have HZB : Hid (0 ≤ z ∧ z < 4294967296) := Lib.hid (by rw [HS.out.x]; exact shv_bd HA.out)
          clear hz' hh'
          have RH0 := Lib.hid RH
          obtain ⟨l0, c0, c1, c2, c3, c4, c5⟩ := row6 RH
          go_wp2_with fail
          refine (shift_to (k := 1) (f := h) (g := h') HO.out HZB.out (by decide) (by decide) HZ'.out HH'.out _).mono ?_; rintro e w7 ⟨rfl, hb7⟩
          have RH' := row_keep hb7 RH0.out
          have B7 := Lib.hid hb7
          clear l0 c0 c1 c2 c3 c4 c5 RH hb7
          obtain ⟨l0, c0, c1, c2, c3, c4, c5⟩ := row6 RH'
          obtain ⟨f0, f1, f2, f3, f4, f5⟩ := row_free6 RH'
          go_wp2_with fail
          go_roundw
          case rel =>
            have hx := HS.out.next HO.out HA.out hm0 (by have := HK0.out; have := HKK.out; omega)
            rw [HZ'.out, HH'.out] at hx
            have n1 : g5 + 1 ≠ g5 := by omega
            have n2 : g5 + 1 ≠ w.heap.size := by have := Z5.out; omega
            have n3 : w.heap.size ≤ g5 + 1 := by have := Z5.out; omega
            exact ⟨m + 1, z', h', Nat.succ_le_of_lt hmk, congrArg (Value.int .u32) (Int.natCast_add m 1).symm, rfl, hx, row_put6 _ _ _ _ _ _ RH', row_far6 _ _ _ _ _ _ n1 (row_keep B7.out RG), row_far6 _ _ _ _ _ _ n2 (row_keep B7.out RF), below_put6 _ _ _ _ _ _ n3 (below_then HB'.out B7.out)⟩
          case measure => simp [intOf]; omega
        · obtain rfl : m = kN := by have := HM.out; omega
          have hb : ∀ p q : Bool, (p != q) = !(p == q) := fun _ _ => rfl
          have hg : ∀ b : Bool, (some undef = some (Value.bool b)) = False := fun b => eq_false (fun h => by cases h)
          obtain rfl : z = V := by rw [HS.out.x, HKK.out]; exact HV.out
          have hnl : ¬ ((m : Int) < k) := by have := HKK.out; omega
          have hcc : (G.c == h.c) = true := by rw [beq_iff_eq, HS.out.c, HKK.out, HG.out]
          have hw32 : IntKind.u32.wrap (k + 32) = k + 32 := by rw [IntKind.wrap_u32]; have := HK0.out; omega
          have HR : Hid (0 < k → 22 < op → (G.z == h.z) = true ∧ (G.s == h.s) = true ∧ (G.p == h.p) = true) := Lib.hid (fun p q => by
            obtain ⟨r1, r2, r3⟩ := HS.out.r (by rw [HKK.out]; exact p) q
            rw [HKK.out, HG.out] at r1 r2 r3
            rw [r1, r2, r3]
            simp)
          obtain ⟨l0, c0, c1, c2, c3, c4, c5⟩ := row6 RF
          by_cases pk : 0 < k
          · by_cases po : 22 < op
            · obtain ⟨q1, q2, q3⟩ := HR.out pk po
              go_wp2_with fail
              refine (shift_to (k := k) (f := f) (g := G) (v := z) HO.out HA.out (by have := HK0.out; omega) (by have := HK0.out; omega) HV.out HG.out _).mono ?_; rintro e w8 ⟨rfl, hb8⟩
              have RF8 := row_keep hb8 (by repeat (first | exact RF | apply row_alloc | apply row_drew))
              have RG8 := row_keep hb8 (by repeat (first | exact RG | apply row_alloc | apply row_drew))
              have RH8 := row_keep hb8 (by repeat (first | exact RH | apply row_alloc | apply row_drew))
              have B8 : Below w.heap.size w w8 := below_then (by repeat (first | exact HB'.out | apply below_alloc | apply below_drew)) hb8
              have RI8 := row_new w8 #[.bool G.c, .bool G.p, .bool G.a, .bool G.z, .bool G.s, .bool G.o] 24
              have RG9 := row_alloc RG8 (.cells #[.bool G.c, .bool G.p, .bool G.a, .bool G.z, .bool G.s, .bool G.o] 24)
              have RH9 := row_alloc RH8 (.cells #[.bool G.c, .bool G.p, .bool G.a, .bool G.z, .bool G.s, .bool G.o] 24)
              have RF9 := Lib.hid (row_alloc RF8 (.cells #[.bool G.c, .bool G.p, .bool G.a, .bool G.z, .bool G.s, .bool G.o] 24))
              have B9 := Lib.hid (below_alloc B8 (.cells #[.bool G.c, .bool G.p, .bool G.a, .bool G.z, .bool G.s, .bool G.o] 24))
              clear RF RG RH RF8 RG8 RH8 hb8 B8 l0 c0 c1 c2 c3 c4 c5
              obtain ⟨lg, g0, g1, g2, g3, g4, g5'⟩ := row6 RG9
              obtain ⟨lh, h0, h1, h2, h3, h4, h5⟩ := row6 RH9
              obtain ⟨li, i0, i1, i2, i3, i4, i5⟩ := row6 RI8
              clear RG9 RH9 RI8
              go_wp2_with fail
              go_roundw
              case rel => exact ⟨j + 1, by omega, by go_num, RF9.out, B9.out⟩
              case measure => simp [intOf]; omega
            · have po' : op ≤ 22 := by omega
              go_wp2_with fail
              refine (shift_to (k := k) (f := f) (g := G) (v := z) HO.out HA.out (by have := HK0.out; omega) (by have := HK0.out; omega) HV.out HG.out _).mono ?_; rintro e w8 ⟨rfl, hb8⟩
              have RF8 := row_keep hb8 (by repeat (first | exact RF | apply row_alloc | apply row_drew))
              have RG8 := row_keep hb8 (by repeat (first | exact RG | apply row_alloc | apply row_drew))
              have RH8 := row_keep hb8 (by repeat (first | exact RH | apply row_alloc | apply row_drew))
              have B8 : Below w.heap.size w w8 := below_then (by repeat (first | exact HB'.out | apply below_alloc | apply below_drew)) hb8
              have RI8 := row_new w8 #[.bool G.c, .bool G.p, .bool G.a, .bool G.z, .bool G.s, .bool G.o] 24
              have RG9 := row_alloc RG8 (.cells #[.bool G.c, .bool G.p, .bool G.a, .bool G.z, .bool G.s, .bool G.o] 24)
              have RH9 := row_alloc RH8 (.cells #[.bool G.c, .bool G.p, .bool G.a, .bool G.z, .bool G.s, .bool G.o] 24)
              have RF9 := Lib.hid (row_alloc RF8 (.cells #[.bool G.c, .bool G.p, .bool G.a, .bool G.z, .bool G.s, .bool G.o] 24))
              have B9 := Lib.hid (below_alloc B8 (.cells #[.bool G.c, .bool G.p, .bool G.a, .bool G.z, .bool G.s, .bool G.o] 24))
              clear RF RG RH RF8 RG8 RH8 hb8 B8 l0 c0 c1 c2 c3 c4 c5
              obtain ⟨lg, g0, g1, g2, g3, g4, g5'⟩ := row6 RG9
              obtain ⟨lh, h0, h1, h2, h3, h4, h5⟩ := row6 RH9
              obtain ⟨li, i0, i1, i2, i3, i4, i5⟩ := row6 RI8
              clear RG9 RH9 RI8
              go_wp2_with fail
              go_roundw
              case rel => exact ⟨j + 1, by omega, by go_num, RF9.out, B9.out⟩
              case measure => simp [intOf]; omega
          · obtain rfl : k = 0 := by have := HK0.out; omega
            go_wp2_with fail
            refine (shift_to (k := 0) (f := f) (g := G) (v := z) HO.out HA.out (by have := HK0.out; omega) (by have := HK0.out; omega) HV.out HG.out _).mono ?_; rintro e w8 ⟨rfl, hb8⟩
            have RF8 := row_keep hb8 (by repeat (first | exact RF | apply row_alloc | apply row_drew))
            have RG8 := row_keep hb8 (by repeat (first | exact RG | apply row_alloc | apply row_drew))
            have RH8 := row_keep hb8 (by repeat (first | exact RH | apply row_alloc | apply row_drew))
            have B8 : Below w.heap.size w w8 := below_then (by repeat (first | exact HB'.out | apply below_alloc | apply below_drew)) hb8
            have RI8 := row_new w8 #[.bool G.c, .bool G.p, .bool G.a, .bool G.z, .bool G.s, .bool G.o] 24
            have RG9 := row_alloc RG8 (.cells #[.bool G.c, .bool G.p, .bool G.a, .bool G.z, .bool G.s, .bool G.o] 24)
            have RH9 := row_alloc RH8 (.cells #[.bool G.c, .bool G.p, .bool G.a, .bool G.z, .bool G.s, .bool G.o] 24)
            have RF9 := Lib.hid (row_alloc RF8 (.cells #[.bool G.c, .bool G.p, .bool G.a, .bool G.z, .bool G.s, .bool G.o] 24))
            have B9 := Lib.hid (below_alloc B8 (.cells #[.bool G.c, .bool G.p, .bool G.a, .bool G.z, .bool G.s, .bool G.o] 24))
            clear RF RG RH RF8 RG8 RH8 hb8 B8 l0 c0 c1 c2 c3 c4 c5
            obtain ⟨lg, g0, g1, g2, g3, g4, g5'⟩ := row6 RG9
            obtain ⟨lh, h0, h1, h2, h3, h4, h5⟩ := row6 RH9
            obtain ⟨li, i0, i1, i2, i3, i4, i5⟩ := row6 RI8
            clear RG9 RH9 RI8
            go_wp2_with fail
            go_roundw
            case rel => exact ⟨j + 1, by omega, by go_num, RF9.out, B9.out⟩
            case measure => simp [intOf]; omega
    · obtain rfl : j = 5 := by omega
      have haa : (a == a) = true := by simp
      go_wp2_with fail
      go_ret
      exact ⟨rfl, HB.out⟩

theorem AluTurns_walk (a n : Int) (fc fp fa fz fs fo : Bool) (w0 : (Lit.int .u32 a).wf = true) (w1 : (Lit.int .u8 n).wf = true) (w : World) :
    Calls Try.prog 3 #[.int .u32 a, .int .u8 n, .agg #[.bool fc, .bool fp, .bool fa, .bool fz, .bool fs, .bool fo]] w fun e w' => e = .returned (.bool true) ∧ Below w.heap.size w w' := by
  have q0 : 0 ≤ a ∧ a ≤ 4294967295 := by simpa [Lit.wf, IntKind.min, IntKind.max, IntKind.bits, IntKind.signed] using w0
  have q1 : 0 ≤ n ∧ n ≤ 255 := by simpa [Lit.wf, IntKind.min, IntKind.max, IntKind.bits, IntKind.signed] using w1
  exact turns_main a n (n % 32).toNat ⟨fc, fp, fa, fz, fs, fo⟩ (by omega) q1 (by omega) w

end Go.Proofs.Ytndfcpkmchjncaa
