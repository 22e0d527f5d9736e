/-
  Layer 7's summary of known, printed by a program of this repo.
-/
import Derived.Test.YtjdjjhjehlnjaaaSums
namespace Go.Proofs.Ytjdjjhjehlnjaaa
open Go.Sx
set_option linter.unusedVariables false
set_option maxRecDepth 100000
theorem known_way   (w : World) :
    Calls Try.prog 9 #[] w fun e w' => e = .returned (.bool true) ∧ RowKit.Below w.heap.size w w' :=
  wayp C0_ok (lf := 1000) (d := 50) (args := []) (ds := []) (nx := 0) (v := (.w (.c (.lit (.bool true)))))
    (log := [])
    (ρ := env0)
    (Pr := ((.bool true) : Value) = (.bool true))
    (by kernel_rfl) (by kernel_rfl) (by kernel_rfl) (by kernel_rfl) rfl w
theorem known_ok : SumOk Try.prog phi 9 sKnown := ⟨fun xs w => Try.call9 xs w, fun vs h w => by
  have e := typed_nil h
  subst e
  exact known_way w⟩
noncomputable def C1 : Ctx := ⟨tys, fns, (((((Tr.e).set 28 sTruth).set 9 sKnown).set 19 sWord).set 25 sWord |>.set 17 sCond).set 24 sCond⟩
theorem C1_ok : CtxOk Try.prog phi C1 := ⟨tys_ok, fns_ok, (((((sumsOk_e.set truth_ok).set known_ok).set word_ok).set rword_ok).set cond_ok).set rcond_ok, mix_ok⟩
end Go.Proofs.Ytjdjjhjehlnjaaa
