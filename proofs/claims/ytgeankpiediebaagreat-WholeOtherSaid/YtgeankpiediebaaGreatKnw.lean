/-
  What is known at once in the laws of the whole: how the host's words read, a map's keys sorted, truths as numbers, and that known() is true.
-/
import Derived.Test.YtgeankpiediebaaGreatSrtC
import Derived.Test.YtgeankpiediebaaGreatWdsB
noncomputable section
namespace Go.Proofs.YtgeankpiediebaaGreat
open Go.Fx
set_option maxRecDepth 100000

def XK : XC := { X0 with intr := Tr.set (pa 311) ⟨truthI .u32⟩ (Tr.set (pa 37) ⟨truthI .u32⟩ (Tr.set (pa 47) ⟨truthI .u64⟩ (Tr.set (pa 49) ⟨parI⟩
  (Tr.set (pa 191) ⟨sortedI 303 23⟩
  (Tr.set (pa 132) ⟨selI (decP (setOf ws)) ⟨decM (setOf ws)⟩ ⟨natI XN 132⟩⟩ (Tr.set (pa 203) ⟨selI (encP (setOf ws)) ⟨encM (setOf ws)⟩ ⟨natI XN 203⟩⟩ .e)))))) }
def XL : XC := { X0 with intr := Tr.set (pa 11) ⟨sureI⟩ XK.intr }
/-- and the numbers that a way is parted by -/
def XP (cs : List (SE × List Int)) : XC := { XL with cs := cs }
theorem xn_ok : XOk Tryz.prog XN := ⟨tys_ok, z_ok, fnsOk_mk fns_ok⟩
theorem xk_ok : XOk Tryz.prog XK := ⟨tys_ok, z_ok, fnsOk_mk fns_ok⟩
theorem xp_ok (cs : List (SE × List Int)) : XOk Tryz.prog (XP cs) := ⟨tys_ok, z_ok, fnsOk_mk fns_ok⟩
theorem truth1 : truthChk XN .u32 311 = true := by kernel_rfl
theorem truth2 : truthChk XN .u32 37 = true := by kernel_rfl
theorem truth3 : truthChk XN .u64 47 = true := by kernel_rfl
theorem par_ok : parChk XN 49 = true := by kernel_rfl
theorem xk_all (ρ : Env) (R : V → Prop) : IntrAll Tryz.prog ρ R XK.intr :=
  (((((((intrAll_e.set (selI_at (encM_at xn_ok rfl mix_ok (fun xs w => Tryz.call203 xs w) encs) (natI_at xn_ok intrAll_e mix_ok _))).set
    (selI_at (decM_at xn_ok rfl mix_ok (fun xs w => Tryz.call132 xs w) decs) (natI_at xn_ok intrAll_e mix_ok _))).set (sortedI_at srt_ok)).set
    (parI_at xn_ok rfl mix_ok (fun xs w => Tryz.call49 xs w) par_ok)).set (truthI_at xn_ok rfl mix_ok (fun xs w => Tryz.call47 xs w) truth3)).set
    (truthI_at xn_ok rfl mix_ok (fun xs w => Tryz.call37 xs w) truth2)).set (truthI_at xn_ok rfl mix_ok (fun xs w => Tryz.call311 xs w) truth1))
theorem known_run : sure (run XK 90 11 [] 0) = true := by kernel_rfl
/-- a run comes out true (a box: else the elaborator runs it) -/
structure Sure (ρ : Env) (a : Ans) : Prop where
  ok : Ok ρ isT a
section
variable {P : Program} {ρ : Env} {R : V → Prop} {X : XC}
theorem sure_mk {a : Ans} (h : sure a = true) : Sure ρ a := ⟨sure_ok h⟩
theorem sure_met {a : Ans} {ds : List Bool} {r : Met} (h : metOf a ds [] [] [] = some r) (hr : r.ok ρ isT) : Sure ρ a := ⟨met_ok h hr⟩
theorem sure_at (hX : XOk P X) (hI : IntrAll P ρ isT X.intr) (hmix : P.follows .mixedOrders = true) {g : Nat} (hen : ∀ xs w, (callFunc g xs).run P w = .ok (.enter g xs) w) (h : Sure ρ (run X 90 g [] 0)) : IntrAt P ρ R g ⟨sureI⟩ :=
  sureI_at hX hI hmix hen h.ok
theorem sure_law (hX : XOk P X) (hI : IntrAll P ρ isT X.intr) (hmix : P.follows .mixedOrders = true) {d g : Nat} {args : List V} {nx : Nat} (hk : Sure ρ (run X d g args nx)) (hargs : ∀ x ∈ args, x.bare) (w : World) :
    Calls P g (args.map (V.den ρ noloc)).toArray w fun e w' => e = .returned (.bool true) ∧ RowKit.Below w.heap.size w w' := law_run hX hI hmix hk.ok hargs w
end
theorem known_at (ρ : Env) (R : V → Prop) : IntrAt Tryz.prog ρ R 11 ⟨sureI⟩ :=
  sure_at xk_ok (xk_all ρ isT) mix_ok (fun xs w => Tryz.call11 xs w) (sure_mk known_run)
theorem xl_all (ρ : Env) (R : V → Prop) : IntrAll Tryz.prog ρ R XL.intr :=
  show IntrAll Tryz.prog ρ R (Tr.set (pa 11) ⟨sureI⟩ XK.intr) from IntrAll.set (xk_all ρ R) (known_at ρ R)
/-- a law whose run is as told -/
theorem law_way {ρ : Env} {cs : List (SE × List Int)} {g : Nat} {args : List V} {nx : Nat} {ds : List Bool} {m : Met} (h : metOf (run (XP cs) 90 g args nx) ds [] [] [] = some m) (hm : m.ok ρ isT) (hargs : ∀ x ∈ args, x.bare) (w : World) :
    Calls Tryz.prog g (args.map (V.den ρ noloc)).toArray w fun e w' => e = .returned (.bool true) ∧ RowKit.Below w.heap.size w w' :=
  sure_law (xp_ok cs) (xl_all ρ _) mix_ok (sure_met h hm) hargs w
end Go.Proofs.YtgeankpiediebaaGreat
end
