/-
  What is known at once in the laws of the whole: how the host's words read, whatever their numbers, a map's keys sorted, truths as numbers, and that known() is true.
-/
import Derived.Test.YtgeankpiediebaaGreatHrtC
import Derived.Test.YtgeankpiediebaaGreatHdsB
import Derived.Test.YtgeankpiediebaaGreatHdsC
noncomputable section
namespace Go.Proofs.YtgeankpiediebaaGreat
open Go.Fx
set_option maxRecDepth 100000

theorem xn_ok : XOk Tryz.prog XN := ⟨tys_ok, z_ok, fnsOk_mk fns_ok⟩
theorem xk_ok : XOk Tryz.prog XK := ⟨tys_ok, z_ok, fnsOk_mk fns_ok⟩
theorem xp_ok (cs : List (SE × List Int)) : XOk Tryz.prog (XP cs) := ⟨tys_ok, z_ok, fnsOk_mk fns_ok⟩
theorem truth1 : truthChk XN .u32 311 = true := by kernel_rfl
theorem truth2 : truthChk XN .u32 37 = true := by kernel_rfl
theorem truth3 : truthChk XN .u64 47 = true := by kernel_rfl
theorem par_ok : parChk XN 49 = true := by kernel_rfl
theorem xk_all (ρ : Env) (R : V → Prop) : IntrAll Tryz.prog ρ R XK.intr :=
  (((((((intrAll_e.set (selI_at (encM_at xn_ok rfl mix_ok (fun xs w => Tryz.call203 xs w) encs) (selI_at (encS_at xn_ok rfl mix_ok (fun xs w => Tryz.call203 xs w) encs20 encs12) (natI_at xn_ok intrAll_e mix_ok _)))).set
    (selI_at (decM_at xn_ok rfl mix_ok (fun xs w => Tryz.call132 xs w) decs) (selI_at (decS_at xn_ok rfl mix_ok (fun xs w => Tryz.call132 xs w) decs20 decs12) (natI_at xn_ok intrAll_e mix_ok _)))).set (sortedI_at srt_ok)).set
    (parI_at xn_ok rfl mix_ok (fun xs w => Tryz.call49 xs w) par_ok)).set (truthI_at xn_ok rfl mix_ok (fun xs w => Tryz.call47 xs w) truth3)).set
    (truthI_at xn_ok rfl mix_ok (fun xs w => Tryz.call37 xs w) truth2)).set (truthI_at xn_ok rfl mix_ok (fun xs w => Tryz.call311 xs w) truth1))
theorem ok_fns : allT okFn fns = true := by kernel_rfl
theorem xk_fns : OkFns XK := okFns_mk (show allT okFn XK.fns = true from ok_fns)
theorem xp_fns (cs : List (SE × List Int)) : OkFns (XP cs) := okFns_mk (show allT okFn (XP cs).fns = true from ok_fns)
theorem known_run : sure (runE XK 90 11 [] 0) = true := by kernel_rfl
theorem known_run2 : sure (run XK 90 11 [] 0) = true := Eq.trans (congrArg sure (runE_eq (X := XK) rfl xk_fns 90 11 [] 0).symm) known_run
/-- a run comes out true (a box: else the elaborator runs it) -/
structure Sure (ρ : Env) (a : Ans) : Prop where
  ok : Ok ρ isT a
section
variable {P : Program} {ρ : Env} {R : V → Prop} {X : XC}
theorem sure_mk {a : Ans} (h : sure a = true) : Sure ρ a := ⟨sure_ok h⟩
theorem sure_met {a : Ans} {ds : List Bool} {r : Met} (h : metOf a ds [] [] [] = some r) (hr : r.ok ρ isT) : Sure ρ a := ⟨met_ok h hr⟩
theorem sure_at (hX : XOk P X) (hI : IntrAll P ρ isT X.intr) (hmix : P.follows .mixedOrders = true) {g : Nat} (hen : ∀ xs w, (callFunc g xs).run P w = .ok (.enter g xs) w) (h : Sure ρ (run X 90 g [] 0)) : IntrAt P ρ R g ⟨sureI⟩ :=
  sureI_at hX hI hmix hen h.ok
theorem sure_law (hX : XOk P X) (hI : IntrAll P ρ isT X.intr) (hmix : P.follows .mixedOrders = true) {d g : Nat} {args : List V} {nx : Nat} (hk : Sure ρ (run X d g args nx)) (hargs : ∀ x ∈ args, x.bare) (w : World) :
    Calls P g (args.map (V.den ρ noloc)).toArray w fun e w' => e = .returned (.bool true) ∧ RowKit.Below w.heap.size w w' := law_run hX hI hmix hk.ok hargs w
end
theorem known_at (ρ : Env) (R : V → Prop) : IntrAt Tryz.prog ρ R 11 ⟨sureI⟩ :=
  sure_at xk_ok (xk_all ρ isT) mix_ok (fun xs w => Tryz.call11 xs w) (sure_mk known_run2)
theorem xl_all (ρ : Env) (R : V → Prop) : IntrAll Tryz.prog ρ R XL.intr :=
  show IntrAll Tryz.prog ρ R (Tr.set (pa 11) ⟨sureI⟩ XK.intr) from IntrAll.set (xk_all ρ R) (known_at ρ R)
/-- a way out of a run: what comes out is true, whatever was given -/
def isTr (ρ : Env) (v : V) : Prop := ∀ ι, v.den ρ ι = .bool true
section
variable {P : Program} {ρ : Env} {X : XC}
structure Tr1 (ρ : Env) (a : Ans) : Prop where
  ok : Ok ρ (isTr ρ) a
theorem tr1_met {a b : Ans} (e : b = a) {ds : List Bool} {r : Met} (h : metOf b ds [] [] [] = some r) (hr : r.ok ρ (isTr ρ)) : Tr1 ρ a := by
  subst e
  exact ⟨(metOf_ok b h hr).1⟩
theorem tr1_law (hX : XOk P X) (hI : IntrAll P ρ (isTr ρ) X.intr) (hmix : P.follows .mixedOrders = true) {d g : Nat} {args : List V} {nx : Nat} (hk : Tr1 ρ (run X d g args nx)) (hargs : ∀ x ∈ args, x.bare) (w : World) :
    Calls P g (args.map (V.den ρ noloc)).toArray w fun e w' => e = .returned (.bool true) ∧ RowKit.Below w.heap.size w w' :=
  (run_below hX (intrOk_mk hI) hmix hk.ok hargs w).mono fun e w' hh => ⟨by obtain ⟨v, ι, h1, he⟩ := hh.1; rw [he, h1 ι], hh.2⟩
end
/-- a law whose run is as told -/
theorem law_way {ρ : Env} {cs : List (SE × List Int)} {g : Nat} {args : List V} {nx : Nat} {ds : List Bool} {m : Met} (h : metOf (runE (XP cs) 90 g args nx) ds [] [] [] = some m) (hm : m.ok ρ (isTr ρ)) (hargs : ∀ x ∈ args, x.bare) (w : World) :
    Calls Tryz.prog g (args.map (V.den ρ noloc)).toArray w fun e w' => e = .returned (.bool true) ∧ RowKit.Below w.heap.size w w' :=
  tr1_law (xp_ok cs) (xl_all ρ _) mix_ok (tr1_met (runE_eq (X := XP cs) rfl (xp_fns cs) 90 g args nx) h hm) hargs w
end Go.Proofs.YtgeankpiediebaaGreat
end
