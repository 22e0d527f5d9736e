/-
  WholePages is true whatever the number: its eight runs joined.
-/
import Derived.Test.YtgeankpiediebaaGreatPg0
import Derived.Test.YtgeankpiediebaaGreatPg1
import Derived.Test.YtgeankpiediebaaGreatPg2
import Derived.Test.YtgeankpiediebaaGreatPg3
import Derived.Test.YtgeankpiediebaaGreatPg4
import Derived.Test.YtgeankpiediebaaGreatPg5
import Derived.Test.YtgeankpiediebaaGreatPg6
import Derived.Test.YtgeankpiediebaaGreatPg7
import Derived.Test.YtgeankpiediebaaGreatPg8
import Derived.Test.YtgeankpiediebaaGreatPg9
import Derived.Test.YtgeankpiediebaaGreatPg10
import Derived.Test.YtgeankpiediebaaGreatPg11
import Derived.Test.YtgeankpiediebaaGreatPg12
import Derived.Test.YtgeankpiediebaaGreatPg13
import Derived.Test.YtgeankpiediebaaGreatPg14
import Derived.Test.YtgeankpiediebaaGreatPg15
import Derived.Test.YtgeankpiediebaaGreatPgL0
import Derived.Test.YtgeankpiediebaaGreatPgL1
import Derived.Test.YtgeankpiediebaaGreatPgL2
import Derived.Test.YtgeankpiediebaaGreatPgL3
import Derived.Test.YtgeankpiediebaaGreatPgL4
import Derived.Test.YtgeankpiediebaaGreatPgL5
import Derived.Test.YtgeankpiediebaaGreatPgL6
import Derived.Test.YtgeankpiediebaaGreatPgL7
import Derived.Test.YtgeankpiediebaaGreatHnz
import Derived.Laws.Runes
namespace Go.Proofs.YtgeankpiediebaaGreat
open Go.Fx Go.RowKit
set_option linter.unusedVariables false
theorem all_nil {α : Type} {p : α → Prop} : ∀ m ∈ ([] : List α), p m := fun m h => by cases h
theorem all_cons {α : Type} {p : α → Prop} {a : α} {l : List α} (h : p a) (t : ∀ m ∈ l, p m) : ∀ m ∈ a :: l, p m := fun m hm => by
  rcases List.mem_cons.1 hm with rfl | hm
  · exact h
  · exact t m hm
theorem pg_kn {k s : Nat} (h : pgIs k s = true) : Knows Tryz.prog 26 (pgMemo k s) := knows_mk (xp_ok []) (fun ρ R => xl_all ρ R) mix_ok rfl (xp_fns []) h
theorem pgk_1 : ∀ m ∈ pgMs1, Knows Tryz.prog 26 m := (all_cons (pg_kn pg_1_0) (all_cons (pg_kn pg_1_1) (all_cons (pg_kn pg_1_2) (all_cons (pg_kn pg_1_3) all_nil))))
theorem pgk_2 : ∀ m ∈ pgMs2, Knows Tryz.prog 26 m := (all_cons (pg_kn pg_2_0) (all_cons (pg_kn pg_2_1) (all_cons (pg_kn pg_2_2) (all_cons (pg_kn pg_2_3) (all_cons (pg_kn pg_2_4) (all_cons (pg_kn pg_2_5) (all_cons (pg_kn pg_2_6) all_nil)))))))
theorem pgk_3 : ∀ m ∈ pgMs3, Knows Tryz.prog 26 m := (all_cons (pg_kn pg_3_0) (all_cons (pg_kn pg_3_1) (all_cons (pg_kn pg_3_2) (all_cons (pg_kn pg_3_3) (all_cons (pg_kn pg_3_4) (all_cons (pg_kn pg_3_5) (all_cons (pg_kn pg_3_6) (all_cons (pg_kn pg_3_7) (all_cons (pg_kn pg_3_8) all_nil)))))))))
theorem pgk_4 : ∀ m ∈ pgMs4, Knows Tryz.prog 26 m := (all_cons (pg_kn pg_4_0) (all_cons (pg_kn pg_4_1) (all_cons (pg_kn pg_4_2) (all_cons (pg_kn pg_4_3) (all_cons (pg_kn pg_4_4) (all_cons (pg_kn pg_4_5) (all_cons (pg_kn pg_4_6) (all_cons (pg_kn pg_4_7) (all_cons (pg_kn pg_4_8) (all_cons (pg_kn pg_4_9) (all_cons (pg_kn pg_4_10) all_nil)))))))))))
theorem pgk_5 : ∀ m ∈ pgMs5, Knows Tryz.prog 26 m := (all_cons (pg_kn pg_5_0) (all_cons (pg_kn pg_5_1) (all_cons (pg_kn pg_5_2) (all_cons (pg_kn pg_5_3) (all_cons (pg_kn pg_5_4) (all_cons (pg_kn pg_5_5) (all_cons (pg_kn pg_5_6) (all_cons (pg_kn pg_5_7) (all_cons (pg_kn pg_5_8) (all_cons (pg_kn pg_5_9) (all_cons (pg_kn pg_5_10) (all_cons (pg_kn pg_5_11) (all_cons (pg_kn pg_5_12) all_nil)))))))))))))
theorem pgk_6 : ∀ m ∈ pgMs6, Knows Tryz.prog 26 m := (all_cons (pg_kn pg_6_0) (all_cons (pg_kn pg_6_1) (all_cons (pg_kn pg_6_2) (all_cons (pg_kn pg_6_3) (all_cons (pg_kn pg_6_4) (all_cons (pg_kn pg_6_5) (all_cons (pg_kn pg_6_6) (all_cons (pg_kn pg_6_7) (all_cons (pg_kn pg_6_8) (all_cons (pg_kn pg_6_9) (all_cons (pg_kn pg_6_10) (all_cons (pg_kn pg_6_11) (all_cons (pg_kn pg_6_12) (all_cons (pg_kn pg_6_13) (all_cons (pg_kn pg_6_14) all_nil)))))))))))))))
theorem pgk_7 : ∀ m ∈ pgMs7, Knows Tryz.prog 26 m := (all_cons (pg_kn pg_7_0) (all_cons (pg_kn pg_7_1) (all_cons (pg_kn pg_7_2) (all_cons (pg_kn pg_7_3) (all_cons (pg_kn pg_7_4) (all_cons (pg_kn pg_7_5) (all_cons (pg_kn pg_7_6) (all_cons (pg_kn pg_7_7) (all_cons (pg_kn pg_7_8) (all_cons (pg_kn pg_7_9) (all_cons (pg_kn pg_7_10) (all_cons (pg_kn pg_7_11) (all_cons (pg_kn pg_7_12) (all_cons (pg_kn pg_7_13) (all_cons (pg_kn pg_7_14) (all_cons (pg_kn pg_7_15) (all_cons (pg_kn pg_7_16) all_nil)))))))))))))))))
theorem pgk_8 : ∀ m ∈ pgMs8, Knows Tryz.prog 26 m := (all_cons (pg_kn pg_8_0) (all_cons (pg_kn pg_8_1) (all_cons (pg_kn pg_8_2) (all_cons (pg_kn pg_8_3) (all_cons (pg_kn pg_8_4) (all_cons (pg_kn pg_8_5) (all_cons (pg_kn pg_8_6) (all_cons (pg_kn pg_8_7) (all_cons (pg_kn pg_8_8) (all_cons (pg_kn pg_8_9) (all_cons (pg_kn pg_8_10) (all_cons (pg_kn pg_8_11) (all_cons (pg_kn pg_8_12) (all_cons (pg_kn pg_8_13) (all_cons (pg_kn pg_8_14) (all_cons (pg_kn pg_8_15) (all_cons (pg_kn pg_8_16) (all_cons (pg_kn pg_8_17) (all_cons (pg_kn pg_8_18) all_nil)))))))))))))))))))

theorem xm_ok (l : List Memo) (cs : List (SE × List Int)) : XOk Tryz.prog (XM l cs) := ⟨tys_ok, z_ok, fnsOk_mk fns_ok⟩
theorem xm_fns (l : List Memo) (cs : List (SE × List Int)) : OkFns (XM l cs) := okFns_mk (show allT okFn (XM l cs).fns = true from ok_fns)
theorem memo_way {ρ : Env} {l : List Memo} (hl : ∀ m ∈ l, Knows Tryz.prog 26 m) {cs : List (SE × List Int)} {g : Nat} {args : List V} {nx : Nat} {ds : List Bool} {m : Met} (h : metOf (runE (XM l cs) 90 g args nx) ds [] [] [] = some m) (hm : m.ok ρ (isTr ρ)) (hargs : ∀ x ∈ args, x.bare) (w : World) :
    Calls Tryz.prog g (args.map (V.den ρ noloc)).toArray w fun e w' => e = .returned (.bool true) ∧ Below w.heap.size w w' :=
  tr1_law (xm_ok l cs) (IntrAll.set (xl_all ρ _) (memos_at hl)) mix_ok (tr1_met (runE_eq (X := XM l cs) rfl (xm_fns l cs) 90 g args nx) h hm) hargs w
structure PgWay (k : Nat) where
  l : List Memo
  kn : ∀ m ∈ l, Knows Tryz.prog 26 m
  run : pgRun l k = some (pgMet k)
theorem pg_all : ∀ k : Nat, k < 8 → Nonempty (PgWay k)
  | 0, _ => ⟨⟨pgMs1, pgk_1, pgl_1⟩⟩
  | 1, _ => ⟨⟨pgMs2, pgk_2, pgl_2⟩⟩
  | 2, _ => ⟨⟨pgMs3, pgk_3, pgl_3⟩⟩
  | 3, _ => ⟨⟨pgMs4, pgk_4, pgl_4⟩⟩
  | 4, _ => ⟨⟨pgMs5, pgk_5, pgl_5⟩⟩
  | 5, _ => ⟨⟨pgMs6, pgk_6, pgl_6⟩⟩
  | 6, _ => ⟨⟨pgMs7, pgk_7, pgl_7⟩⟩
  | 7, _ => ⟨⟨pgMs8, pgk_8, pgl_8⟩⟩
  | k + 8, h => absurd h (by omega)
def pgEnv (n : Int) : Env := ⟨fun _ => n, fun _ => false⟩
theorem wf_u8' {a : Int} (h : (Lit.int .u8 a).wf = true) : 0 ≤ a ∧ a ≤ 255 := by
  simpa [Lit.wf, IntKind.has, IntKind.min, IntKind.max, IntKind.bits, IntKind.signed] using h
theorem pg_num {n : Int} (h : 0 ≤ n ∧ n ≤ 255) : (pgEnv n).i pgN = ((n.toNat % 8 : Nat) : Int) := by
  have e : IntKind.u8.wrap n = n := by rw [IntKind.wrap_u8, Int.emod_eq_of_lt h.1 (by omega)]
  show (IntKind.u8.wrap n / 2 ^ 0) % 2 ^ 3 = _
  rw [e]
  simp only [Int.reducePow, Int.ediv_one]
  omega
theorem pg_args {n : Int} (h : 0 ≤ n ∧ n ≤ 255) : (pgArgs.map (V.den (pgEnv n) noloc)).toArray = #[.int .u8 n] := by
  have e : IntKind.u8.wrap n = n := by rw [IntKind.wrap_u8, Int.emod_eq_of_lt h.1 (by omega)]
  show #[Value.int .u8 (IntKind.u8.wrap n)] = _
  rw [e]
theorem WholePages_walk (a0 : Int) (w0 : (Lit.int .u8 a0).wf = true) (w : World) :
    Calls Tryz.prog 3 #[.int .u8 a0] w fun e w' => e = .returned (.bool true) ∧ Below w.heap.size w w' := by
  have h := wf_u8' w0
  obtain ⟨p⟩ := pg_all (a0.toNat % 8) (Nat.mod_lt _ (by decide))
  rw [← pg_args h]
  refine memo_way (ρ := pgEnv a0) p.kn p.run ⟨fun e he => (by cases he), fun x t hx => (by cases hx), fun x n hx => ?_, fun ι => rfl⟩ (fun x hx => ?_) w
  · simp only [pgMet, List.mem_cons, Prod.mk.injEq, List.not_mem_nil, or_false] at hx
    obtain ⟨rfl, rfl⟩ := hx
    exact pg_num h
  · simp only [pgArgs, List.mem_cons, List.not_mem_nil, or_false] at hx
    subst hx
    exact fun _ _ => trivial
end Go.Proofs.YtgeankpiediebaaGreat
