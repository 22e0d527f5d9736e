/-
  ferryman/ferrymanlaw2.FloatTexts: all its ways, printed by a program of this repo.
-/
import Derived.Test.YtdchnlmclngjmaaDoorBase
import Derived.Test.YtdchnlmclngjmaaDoorVfKind
import Derived.Test.YtdchnlmclngjmaaDoorVfText
import Derived.Test.YtdchnlmclngjmaaDoorVlwKnown
import Derived.Test.YtdchnlmclngjmaaDoorFlT
namespace Go.Proofs.YtdchnlmclngjmaaDoor
open Go.Sx
set_option linter.unusedVariables false
set_option linter.unusedSimpArgs false
set_option maxRecDepth 100000
set_option maxHeartbeats 20000000
noncomputable def FloatTextsC : Ctx := ⟨tys, fns, ((((.e : Tr Sum).set 12 fKindS).set 13 fTextS).set 11 lwKnownS)⟩
theorem FloatTextsC_ok : CtxT Tryd.prog phi FloatTextsC := ⟨tys_ok, fns_ok, (((SumsT.e.set fKind_ok).set fText_ok).set lwKnown_ok), mix_ok⟩
noncomputable def FloatTextsR (ds : List D) : R (SV × St) := fnRun FloatTextsC 1000 50 3 (symArgs FloatTextsS.args 0) (st0 ds 2)
noncomputable def FloatTextsT : LT :=
 (.nb [.call 11 [] 2 [.rb]] 2
 (.nb [.call 12 [(.ivar .u64 0)] 3 [(.ri .i64)], .setB0 4 (.cmp .eql (.var 3) (.lit 4))] 4
 (.leaf [.call 13 [(.ivar .u64 0)] 5 [.rs], .setB0 6 (.all [(.ss (.var 5) (.lit ⟨#[110, 97, 110]⟩))]), .call 12 [(.ivar .u64 0)] 7 [(.ri .i64)], .setB0 8 (.cmp .eql (.var 7) (.lit 4)), .setB0 9 (.all [(.bb (.var 6 false) (.var 8 false))])] (.w (.c (.bvar 9 false))))
 (.nb [.call 12 [(.ivar .u64 1)] 5 [(.ri .i64)], .setB0 6 (.cmp .eql (.var 5) (.lit 4))] 6
 (.leaf [.call 13 [(.ivar .u64 0)] 7 [.rs], .setB0 8 (.all [(.ss (.var 7) (.lit ⟨#[110, 97, 110]⟩))]), .call 12 [(.ivar .u64 0)] 9 [(.ri .i64)], .setB0 10 (.cmp .eql (.var 9) (.lit 4)), .setB0 11 (.all [(.bb (.var 8 false) (.var 10 false))])] (.w (.c (.bvar 11 false))))
 (.nb [.call 13 [(.ivar .u64 0)] 7 [.rs], .call 13 [(.ivar .u64 1)] 8 [.rs], .setB0 9 (.all [(.ss (.var 7) (.var 8))]), .setB0 10 (.cmp .eql (.var 0) (.var 1)), .setB0 11 (.all [(.bb (.var 9 false) (.var 10 false))])] 11
 (.leaf [.setI0 12 (.sat (.var 7) (.lit 0)), .setB0 13 (.cmp .eql (.var 12) (.lit 45)), .setI0 14 (.bin .shr .u64 (.var 0) (.lit 63)), .setB0 15 (.cmp .eql (.var 14) (.lit 1)), .setB0 16 (.all [(.bb (.var 13 false) (.var 15 false))])] (.w (.c (.bvar 16 false))))
 (.leaf [] (.w (.c (.lit (.bool false))))))))
 (.leaf [] (.w (.c (.lit (.bool false))))))
theorem FloatTextsT_ok : LT.Ok FloatTextsR FloatTextsT [] [] :=
 (LT.ok_nb (LT.ok_nb (LT.ok_leaf (by kernel_rfl))
 (LT.ok_nb (LT.ok_leaf (by kernel_rfl))
 (LT.ok_nb (LT.ok_leaf (by kernel_rfl))
 (LT.ok_leaf (by kernel_rfl)))))
 (LT.ok_leaf (by kernel_rfl)))
theorem FloatTexts_ok : SumT Tryd.prog phi 3 FloatTextsS := treeSum (t := FloatTextsT) (lf := 1000) (d := 50) FloatTextsC_ok (fun xs w => Tryd.call3 xs w)
 FloatTextsT_ok
 (by kernel_rfl)
 (by
  intro a0 h0 a1 h1
  exact ⟨obl_list (m := [(((lwKnown) = true) → (((icmp .eql (fKind a0) 4) = false) → (((icmp .eql (fKind a1) 4) = false) → (((((((fText a0).data.toList == (fText a1).data.toList) && true) == (icmp .eql a0 a1)) && true) = true) → ((0 : Int) ≤ 0 ∧ (0 : Int) < ((((fText a0)).size : Nat) : Int))))))]) (by kernel_rfl) (by exact ⟨fun _ _ _ _ => ⟨by decide, fText_pos h0⟩, trivial⟩), by kernel_rfl⟩)
end Go.Proofs.YtdchnlmclngjmaaDoor
