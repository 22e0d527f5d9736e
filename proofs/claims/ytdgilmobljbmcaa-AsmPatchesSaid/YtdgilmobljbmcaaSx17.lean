/-
  A symbolic executor for the model's code: its tables.
-/
import Derived.Test.YtdgilmobljbmcaaSx16
namespace Go.Sx
set_option linter.unusedSimpArgs false
set_option linter.unusedVariables false

def Tr.Every {α : Type} (p : Nat → α → Prop) : Tr α → (Nat → Nat) → Prop
  | .e, _ => True
  | .n l v r, g => (match v with | some x => p (g 0) x | none => True) ∧ Tr.Every p l (fun k => g (2 * k + 1)) ∧ Tr.Every p r (fun k => g (2 * k + 2))

theorem Tr.every_get {α : Type} {p : Nat → α → Prop} : ∀ {t : Tr α} {g : Nat → Nat}, Tr.Every p t g → ∀ {k x}, t.get k = some x → p (g k) x
  | .e, g, _, k, x, h => by rw [Tr.get_e] at h; cases h
  | .n l v r, g, he, k, x, h => by
    obtain ⟨h1, h2, h3⟩ := he
    cases k with
    | zero =>
      simp only [Tr.get] at h
      subst h
      exact h1
    | succ k =>
      simp only [Tr.get] at h
      split at h
      · rename_i hb
        rw [beq_mod_even] at hb
        have := Tr.every_get h2 h
        rwa [show 2 * (k / 2) + 1 = k + 1 by omega] at this
      · rename_i hb
        simp only [beq_mod_even] at hb
        have := Tr.every_get h3 h
        rwa [show 2 * (k / 2) + 2 = k + 1 by omega] at this

def isStruct : TypeDesc → Bool
  | .struct _ => true
  | _ => false
def named : TypeDesc → Bool
  | .struct fs => fs.toList.all fun f => f.name != "_"
  | _ => true

theorem tyAt_mk {P : Program} {t : TypeId} {i u : TypeInfo} {s : Bool} (h1 : P.underlying t = some u.desc) (h2 : P.info? t = some i)
    (h3 : s = true → P.eqGuardType P.depth t = false ∧ (isStruct u.desc = true → P.stoodInHeld t = false) ∧ named u.desc = true) : TyAt P t (tiOf i u s) := by
  refine ⟨h1, ⟨i, h2, rfl, rfl, rfl⟩, fun fs hd => ?_, fun hs => ?_⟩
  · have hd' : u.desc = .struct fs := hd
    simp only [tiOf, fieldsOf, hd']
  · obtain ⟨a, b, c⟩ := h3 hs
    refine ⟨a, fun fs hd => ?_⟩
    have hd' : u.desc = .struct fs := hd
    rw [hd'] at b c
    refine ⟨b rfl, fun f hf => ?_⟩
    have := List.all_eq_true.1 c f (by simpa using hf)
    simpa using this

theorem tyAt_plain {P : Program} {t : TypeId} {i u : TypeInfo} (h1 : P.underlying t = some u.desc) (h2 : P.info? t = some i) : TyAt P t (tiOf i u false) :=
  tyAt_mk h1 h2 fun h => by cases h
theorem tyAt_safe {P : Program} {t : TypeId} {i u : TypeInfo} (h1 : P.underlying t = some u.desc) (h2 : P.info? t = some i) (h3 : P.eqGuardType P.depth t = false) (h4 : P.stoodInHeld t = false)
    (h5 : named u.desc = true) : TyAt P t (tiOf i u true) :=
  tyAt_mk h1 h2 fun _ => ⟨h3, fun _ => h4, h5⟩
theorem tyAt_array {P : Program} {t : TypeId} {i u : TypeInfo} (h1 : P.underlying t = some u.desc) (h2 : P.info? t = some i) (h3 : P.eqGuardType P.depth t = false) (h4 : isStruct u.desc = false)
    (h5 : named u.desc = true) : TyAt P t (tiOf i u true) :=
  tyAt_mk h1 h2 fun _ => ⟨h3, fun h => by (rw [h4] at h; cases h), h5⟩

theorem tysOk_mk {P : Program} {t : Tr TI} (h : Tr.Every (TyAt P) t (fun k => k)) : TysOk P t := fun _ _ hg => Tr.every_get h hg
theorem fnsOk_mk {P : Program} {t : Tr Func} (h : Tr.Every (fun f fn => P.funcs[f]? = some fn ∧ Callable P f) t (fun k => k)) : FnsOk P t := fun _ _ hg => Tr.every_get h hg
theorem sumsOk_e {P : Program} {Φ : Phi} : SumsOk P Φ .e := fun f s h => by rw [Tr.get_e] at h; cases h
theorem SumsOk.set {P : Program} {Φ : Phi} {t : Tr Sum} (h : SumsOk P Φ t) {f : Nat} {s : Sum} (hs : SumOk P Φ f s) : SumsOk P Φ (t.set f s) := fun g q hg => by
  rw [Tr.get_set] at hg
  split at hg
  · rename_i e
    simp only [Option.some.injEq] at hg
    subst hg; subst e
    exact hs
  · exact h g q hg

end Go.Sx
