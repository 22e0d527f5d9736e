/-
  ferryman/ferrymanlaw5.AsmPatches: all its ways, printed by a program of this repo.
-/
import Derived.Test.YtdgilmobljbmcaaBase
import Derived.Test.YtdgilmobljbmcaaVrfEnc
import Derived.Test.YtdgilmobljbmcaaVasTarget
import Derived.Test.YtdgilmobljbmcaaVasPatch
import Derived.Test.YtdgilmobljbmcaaVrfDec
import Derived.Test.YtdgilmobljbmcaaVlwKnown
namespace Go.Proofs.Ytdgilmobljbmcaa
open Go.Sx
set_option linter.unusedVariables false
set_option linter.unusedSimpArgs false
set_option maxRecDepth 100000
noncomputable def AsmPatchesC : Ctx := ⟨tys, fns, ((((((.e : Tr Sum).set 15 rfEncS).set 13 asTargetS).set 14 asPatchS).set 12 rfDecS).set 7 lwKnownS)⟩
theorem AsmPatchesC_ok : CtxT Try.prog phi AsmPatchesC := ⟨tys_ok, fns_ok, (((((SumsT.e.set rfEnc_ok).set asTarget_ok).set asPatch_ok).set rfDec_ok).set lwKnown_ok), mix_ok⟩
noncomputable def AsmPatchesR (ds : List D) : R (SV × St) := fnRun AsmPatchesC 1000 50 4 (symArgs AsmPatchesS.args 0) (st0 ds 3)
noncomputable def AsmPatchesT : LT :=
 (.nb [.call 7 [] 3 [.rb]] 3
 (.nb [.call 12 [(.ivar .u32 0)] 4 [(.ri .i64), (.ri .i64), (.ri .i64), (.ri .i64), (.ri .i32), .rb]] 9
 (.nb [.setB0 10 (.cmp .eql (.var 4) (.lit 3))] 10
 (.nb [.call 13 [(.ivar .u32 1), (.ivar .u32 0)] 11 [(.ri .u32), .rb], .setI0 13 (.conv .u32 (.var 8)), .setI0 14 (.bin .add .u32 (.var 1) (.var 13)), .call 14 [(.ivar .u32 0), (.ivar .u32 1), (.ivar .u32 2)] 15 [(.ri .u32), (.ri .i64)], .setB0 17 (.cmp .neq (.var 11) (.var 14))] 17
 (.leaf [] (.w (.c (.lit (.bool false)))))
 (.nb [.setB0 18 (.all [(.bb (.var 12 false) (.lit true))])] 18
 (.nb [.setI0 19 (.bin .sub .u32 (.var 2) (.var 1)), .setI0 20 (.conv .i32 (.var 19)), .call 15 [(.ivar .i64 4), (.ivar .i64 5), (.ivar .i64 6), (.ivar .i64 7), (.ivar .i32 20)] 21 [(.ri .u32), .rb]] 22
 (.nb [.call 13 [(.ivar .u32 1), (.ivar .u32 15)] 23 [(.ri .u32), .rb], .setB0 25 (.cmp .eql (.var 16) (.lit 0))] 25
 (.nb [.setB0 26 (.cmp .eql (.var 15) (.var 21))] 26
 (.leaf [.setB0 27 (.cmp .eql (.var 23) (.var 2))] (.w (.c (.bvar 27 false))))
 (.leaf [] (.w (.c (.lit (.bool false))))))
 (.leaf [] (.w (.c (.lit (.bool false))))))
 (.nb [.setB0 23 (.cmp .eql (.var 16) (.lit 50))] 23
 (.leaf [.setB0 24 (.cmp .eql (.var 15) (.lit 0))] (.w (.c (.bvar 24 false))))
 (.leaf [] (.w (.c (.lit (.bool false)))))))
 (.leaf [] (.w (.c (.lit (.bool false)))))))
 (.nb [.setB0 11 (.cmp .geq (.var 4) (.lit 5))] 11
 (.nb [.setB0 12 (.cmp .leq (.var 4) (.lit 10)), .call 13 [(.ivar .u32 1), (.ivar .u32 0)] 13 [(.ri .u32), .rb]] 12
 (.nb [.setI0 15 (.conv .u32 (.var 8)), .setI0 16 (.bin .add .u32 (.var 1) (.var 15)), .call 14 [(.ivar .u32 0), (.ivar .u32 1), (.ivar .u32 2)] 17 [(.ri .u32), (.ri .i64)], .setB0 19 (.cmp .neq (.var 13) (.var 16))] 19
 (.leaf [] (.w (.c (.lit (.bool false)))))
 (.nb [.setB0 20 (.all [(.bb (.var 14 false) (.lit true))])] 20
 (.nb [.setI0 21 (.bin .sub .u32 (.var 2) (.var 1)), .setI0 22 (.conv .i32 (.var 21)), .call 15 [(.ivar .i64 4), (.ivar .i64 5), (.ivar .i64 6), (.ivar .i64 7), (.ivar .i32 22)] 23 [(.ri .u32), .rb]] 24
 (.nb [.call 13 [(.ivar .u32 1), (.ivar .u32 17)] 25 [(.ri .u32), .rb], .setB0 27 (.cmp .eql (.var 18) (.lit 0))] 27
 (.nb [.setB0 28 (.cmp .eql (.var 17) (.var 23))] 28
 (.leaf [.setB0 29 (.cmp .eql (.var 25) (.var 2))] (.w (.c (.bvar 29 false))))
 (.leaf [] (.w (.c (.lit (.bool false))))))
 (.leaf [] (.w (.c (.lit (.bool false))))))
 (.nb [.setB0 25 (.cmp .eql (.var 18) (.lit 50))] 25
 (.leaf [.setB0 26 (.cmp .eql (.var 17) (.lit 0))] (.w (.c (.bvar 26 false))))
 (.leaf [] (.w (.c (.lit (.bool false)))))))
 (.leaf [] (.w (.c (.lit (.bool false)))))))
 (.nb [.call 14 [(.ivar .u32 0), (.ivar .u32 1), (.ivar .u32 2)] 15 [(.ri .u32), (.ri .i64)], .setB0 17 (.cmp .neq (.var 13) (.lit 0))] 17
 (.leaf [] (.w (.c (.lit (.bool false)))))
 (.nb [.setB0 18 (.all [(.bb (.var 14 false) (.lit false))])] 18
 (.nb [.setB0 19 (.cmp .eql (.var 16) (.lit 12))] 19
 (.leaf [.setB0 20 (.cmp .eql (.var 15) (.lit 0))] (.w (.c (.bvar 20 false))))
 (.leaf [] (.w (.c (.lit (.bool false))))))
 (.leaf [] (.w (.c (.lit (.bool false))))))))
 (.nb [.call 13 [(.ivar .u32 1), (.ivar .u32 0)] 12 [(.ri .u32), .rb], .call 14 [(.ivar .u32 0), (.ivar .u32 1), (.ivar .u32 2)] 14 [(.ri .u32), (.ri .i64)], .setB0 16 (.cmp .neq (.var 12) (.lit 0))] 16
 (.leaf [] (.w (.c (.lit (.bool false)))))
 (.nb [.setB0 17 (.all [(.bb (.var 13 false) (.lit false))])] 17
 (.nb [.setB0 18 (.cmp .eql (.var 15) (.lit 12))] 18
 (.leaf [.setB0 19 (.cmp .eql (.var 14) (.lit 0))] (.w (.c (.bvar 19 false))))
 (.leaf [] (.w (.c (.lit (.bool false))))))
 (.leaf [] (.w (.c (.lit (.bool false)))))))))
 (.nb [.call 13 [(.ivar .u32 1), (.ivar .u32 0)] 10 [(.ri .u32), .rb], .call 14 [(.ivar .u32 0), (.ivar .u32 1), (.ivar .u32 2)] 12 [(.ri .u32), (.ri .i64)], .setB0 14 (.cmp .neq (.var 10) (.lit 0))] 14
 (.leaf [] (.w (.c (.lit (.bool false)))))
 (.nb [.setB0 15 (.all [(.bb (.var 11 false) (.lit false))])] 15
 (.nb [.setB0 16 (.cmp .eql (.var 13) (.lit 12))] 16
 (.leaf [.setB0 17 (.cmp .eql (.var 12) (.lit 0))] (.w (.c (.bvar 17 false))))
 (.leaf [] (.w (.c (.lit (.bool false))))))
 (.leaf [] (.w (.c (.lit (.bool false))))))))
 (.leaf [] (.w (.c (.lit (.bool false))))))
theorem AsmPatchesT_ok : LT.Ok AsmPatchesR AsmPatchesT [] [] :=
 (LT.ok_nb (LT.ok_nb (LT.ok_nb (LT.ok_nb (LT.ok_leaf (by kernel_rfl))
 (LT.ok_nb (LT.ok_nb (LT.ok_nb (LT.ok_nb (LT.ok_leaf (by kernel_rfl))
 (LT.ok_leaf (by kernel_rfl)))
 (LT.ok_leaf (by kernel_rfl)))
 (LT.ok_nb (LT.ok_leaf (by kernel_rfl))
 (LT.ok_leaf (by kernel_rfl))))
 (LT.ok_leaf (by kernel_rfl))))
 (LT.ok_nb (LT.ok_nb (LT.ok_nb (LT.ok_leaf (by kernel_rfl))
 (LT.ok_nb (LT.ok_nb (LT.ok_nb (LT.ok_nb (LT.ok_leaf (by kernel_rfl))
 (LT.ok_leaf (by kernel_rfl)))
 (LT.ok_leaf (by kernel_rfl)))
 (LT.ok_nb (LT.ok_leaf (by kernel_rfl))
 (LT.ok_leaf (by kernel_rfl))))
 (LT.ok_leaf (by kernel_rfl))))
 (LT.ok_nb (LT.ok_leaf (by kernel_rfl))
 (LT.ok_nb (LT.ok_nb (LT.ok_leaf (by kernel_rfl))
 (LT.ok_leaf (by kernel_rfl)))
 (LT.ok_leaf (by kernel_rfl)))))
 (LT.ok_nb (LT.ok_leaf (by kernel_rfl))
 (LT.ok_nb (LT.ok_nb (LT.ok_leaf (by kernel_rfl))
 (LT.ok_leaf (by kernel_rfl)))
 (LT.ok_leaf (by kernel_rfl))))))
 (LT.ok_nb (LT.ok_leaf (by kernel_rfl))
 (LT.ok_nb (LT.ok_nb (LT.ok_leaf (by kernel_rfl))
 (LT.ok_leaf (by kernel_rfl)))
 (LT.ok_leaf (by kernel_rfl)))))
 (LT.ok_leaf (by kernel_rfl)))
theorem AsmPatches_ok : SumT Try.prog phi 4 AsmPatchesS := treeSum (t := AsmPatchesT) (lf := 1000) (d := 50) AsmPatchesC_ok (fun xs w => Try.call4 xs w)
 AsmPatchesT_ok
 (by kernel_rfl)
 (by
  intro a0 h0 a1 h1 a2 h2
  exact ⟨obl_nil (by kernel_rfl), by kernel_rfl⟩)
end Go.Proofs.Ytdgilmobljbmcaa
