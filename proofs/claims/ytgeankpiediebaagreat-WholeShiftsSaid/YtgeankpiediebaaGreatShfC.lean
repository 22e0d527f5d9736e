/-
  WholeShifts: the ways through it, once more: what is asked when a word is turned right by one.
-/
import Derived.Test.YtgeankpiediebaaGreatShfB
noncomputable section
namespace Go.Proofs.YtgeankpiediebaaGreat
open Go.Fx
set_option maxRecDepth 100000
/-- the decision that the executor asks of a word turned right by one -/
def sfD2 : S5 → List (SE × Bool)
  | .ror => [(.cmp .eql (.cat (.ext sfA 1 24) 24 (.cat (.ext sfA 25 7) 7 (.ext sfA 0 1))) (.cat (.ext sfA 1 31) 31 (.ext sfA 0 1)), true)]
  | _ => []
def sfDecT (s : S5) (w : Hw) (a : K3) (e : Sh) : List (SE × Bool) :=
  match w with
  | .one => a.dec ++ sfD2 s
  | .by1 => a.dec ++ sfD2 s
  | .im => (sfN1, false) :: (a.dec ++ sfDE s e)
  | .reg => a.dec ++ sfDE s e
def sfMetT (s : S5) (w : Hw) (a : K3) (e : Sh) : Met := ⟨[], sfDecT s w a e, sfNum s w, .c (sfOut s w e)⟩
def sfWayT (s : S5) (w : Hw) (a : K3) (e : Sh) : Prop := sfRun s w (sfDs s w a e) = some (sfMetT s w a e)
end Go.Proofs.YtgeankpiediebaaGreat
end
