/-
  Texts of this claim, laid together by a program: VhoTaken VhoTruth VbtMulS VbtMulU HoQ VhoDivides VhoMultiplies VhoReckons VlwWord HoU.
-/
import Derived.Test.YtpclikbjpjoccaaBase
import Derived.Test.YtpclikbjpjoccaaDig
import Derived.Test.YtpclikbjpjoccaaBitsMath
import Derived.Test.YtpclikbjpjoccaaVrfEnc
import Derived.Test.YtpclikbjpjoccaaVrvDec
import Derived.Test.YtpclikbjpjoccaaRvD
namespace Go.Proofs.Ytpclikbjpjoccaa
open Go.Sx
set_option linter.unusedVariables false
set_option linter.unusedSimpArgs false
set_option maxRecDepth 100000
set_option maxHeartbeats 20000000
noncomputable def hoTakenC : Ctx := ⟨tys, fns, (.e : Tr Sum)⟩
theorem hoTakenC_ok : CtxT Try.prog phi hoTakenC := ⟨tys_ok, fns_ok, SumsT.e, mix_ok⟩
noncomputable def hoTakenR (ds : List D) : R (SV × St) := fnRun hoTakenC 1000 50 61 (symArgs hoTakenS.args 0) (st0 ds 3)
noncomputable def hoTakenT : LT :=
 (.nb [.setB0 3 (.cmp .eql (.var 0) (.lit 5))] 3
 (.leaf [.setB0 4 (.cmp .eql (.var 1) (.var 2))] (.w (.c (.bvar 4 false))))
 (.nb [.setB0 4 (.cmp .eql (.var 0) (.lit 6))] 4
 (.leaf [.setB0 5 (.cmp .neq (.var 1) (.var 2))] (.w (.c (.bvar 5 false))))
 (.nb [.setB0 5 (.cmp .eql (.var 0) (.lit 7))] 5
 (.leaf [.setI0 6 (.conv .i32 (.var 1)), .setI0 7 (.conv .i32 (.var 2)), .setB0 8 (.cmp .lss (.var 6) (.var 7))] (.w (.c (.bvar 8 false))))
 (.nb [.setB0 6 (.cmp .eql (.var 0) (.lit 8))] 6
 (.leaf [.setI0 7 (.conv .i32 (.var 1)), .setI0 8 (.conv .i32 (.var 2)), .setB0 9 (.cmp .geq (.var 7) (.var 8))] (.w (.c (.bvar 9 false))))
 (.nb [.setB0 7 (.cmp .eql (.var 0) (.lit 9))] 7
 (.leaf [.setB0 8 (.cmp .lss (.var 1) (.var 2))] (.w (.c (.bvar 8 false))))
 (.leaf [.setB0 8 (.cmp .geq (.var 1) (.var 2))] (.w (.c (.bvar 8 false)))))))))
theorem hoTakenT_ok : LT.Ok hoTakenR hoTakenT [] [] :=
 (LT.ok_nb (LT.ok_leaf (by kernel_rfl))
 (LT.ok_nb (LT.ok_leaf (by kernel_rfl))
 (LT.ok_nb (LT.ok_leaf (by kernel_rfl))
 (LT.ok_nb (LT.ok_leaf (by kernel_rfl))
 (LT.ok_nb (LT.ok_leaf (by kernel_rfl))
 (LT.ok_leaf (by kernel_rfl)))))))
theorem hoTaken_ok : SumT Try.prog phi 61 hoTakenS := treeSum (t := hoTakenT) (lf := 1000) (d := 50) hoTakenC_ok (fun xs w => Try.call61 xs w)
 hoTakenT_ok
 (by kernel_rfl)
 (by
  intro a0 h0 a1 h1 a2 h2
  exact ⟨obl_nil (by kernel_rfl), by kernel_rfl⟩)
end Go.Proofs.Ytpclikbjpjoccaa
namespace Go.Proofs.Ytpclikbjpjoccaa
open Go.Sx
set_option linter.unusedVariables false
set_option linter.unusedSimpArgs false
set_option maxRecDepth 100000
set_option maxHeartbeats 20000000
noncomputable def hoTruthC : Ctx := ⟨tys, fns, (.e : Tr Sum)⟩
theorem hoTruthC_ok : CtxT Try.prog phi hoTruthC := ⟨tys_ok, fns_ok, SumsT.e, mix_ok⟩
noncomputable def hoTruthR (ds : List D) : R (SV × St) := fnRun hoTruthC 1000 50 76 (symArgs hoTruthS.args 0) (st0 ds 1)
noncomputable def hoTruthT : LT :=
 (.nb [] 0
 (.leaf [] (.w (.c (.lit (.int .u32 1)))))
 (.leaf [] (.w (.c (.lit (.int .u32 0))))))
theorem hoTruthT_ok : LT.Ok hoTruthR hoTruthT [] [] :=
 (LT.ok_nb (LT.ok_leaf (by kernel_rfl))
 (LT.ok_leaf (by kernel_rfl)))
theorem hoTruth_ok : SumT Try.prog phi 76 hoTruthS := treeSum (t := hoTruthT) (lf := 1000) (d := 50) hoTruthC_ok (fun xs w => Try.call76 xs w)
 hoTruthT_ok
 (by kernel_rfl)
 (by
  intro a0
  exact ⟨obl_nil (by kernel_rfl), by kernel_rfl⟩)
end Go.Proofs.Ytpclikbjpjoccaa
namespace Go.Proofs.Ytpclikbjpjoccaa
open Go.Sx
set_option linter.unusedVariables false
set_option linter.unusedSimpArgs false
set_option maxRecDepth 100000
set_option maxHeartbeats 20000000
noncomputable def btMulSC : Ctx := ⟨tys, fns, (.e : Tr Sum)⟩
theorem btMulSC_ok : CtxT Try.prog phi btMulSC := ⟨tys_ok, fns_ok, SumsT.e, mix_ok⟩
noncomputable def btMulSR (ds : List D) : R (SV × St) := fnRun btMulSC 1000 50 84 (symArgs btMulSS.args 0) (st0 ds 2)
noncomputable def btMulST : LT :=
 (.leaf [.setI0 2 (.conv .i32 (.var 0)), .setI0 3 (.conv .i64 (.var 2)), .setI0 4 (.conv .i32 (.var 1)), .setI0 5 (.conv .i64 (.var 4)), .setI0 6 (.bin .mul .i64 (.var 3) (.var 5)), .setI0 7 (.conv .u32 (.var 6)), .setI0 8 (.bin .shr .i64 (.var 6) (.lit 32)), .setI0 9 (.conv .u32 (.var 8))] (.tup [(.c (.ivar .u32 7)), (.c (.ivar .u32 9))]))
theorem btMulST_ok : LT.Ok btMulSR btMulST [] [] :=
 (LT.ok_leaf (by kernel_rfl))
theorem btMulS_ok : SumT Try.prog phi 84 btMulSS := treeSum (t := btMulST) (lf := 1000) (d := 50) btMulSC_ok (fun xs w => Try.call84 xs w)
 btMulST_ok
 (by kernel_rfl)
 (by
  intro a0 h0 a1 h1
  exact ⟨obl_nil (by kernel_rfl), by kernel_rfl⟩)
end Go.Proofs.Ytpclikbjpjoccaa
namespace Go.Proofs.Ytpclikbjpjoccaa
open Go.Sx
set_option linter.unusedVariables false
set_option linter.unusedSimpArgs false
set_option maxRecDepth 100000
set_option maxHeartbeats 20000000
noncomputable def btMulUC : Ctx := ⟨tys, fns, (.e : Tr Sum)⟩
theorem btMulUC_ok : CtxT Try.prog phi btMulUC := ⟨tys_ok, fns_ok, SumsT.e, mix_ok⟩
noncomputable def btMulUR (ds : List D) : R (SV × St) := fnRun btMulUC 1000 50 85 (symArgs btMulUS.args 0) (st0 ds 2)
noncomputable def btMulUT : LT :=
 (.leaf [.setI0 2 (.conv .u64 (.var 0)), .setI0 3 (.conv .u64 (.var 1)), .setI0 4 (.bin .mul .u64 (.var 2) (.var 3)), .setI0 5 (.conv .u32 (.var 4)), .setI0 6 (.bin .shr .u64 (.var 4) (.lit 32)), .setI0 7 (.conv .u32 (.var 6))] (.tup [(.c (.ivar .u32 5)), (.c (.ivar .u32 7))]))
theorem btMulUT_ok : LT.Ok btMulUR btMulUT [] [] :=
 (LT.ok_leaf (by kernel_rfl))
theorem btMulU_ok : SumT Try.prog phi 85 btMulUS := treeSum (t := btMulUT) (lf := 1000) (d := 50) btMulUC_ok (fun xs w => Try.call85 xs w)
 btMulUT_ok
 (by kernel_rfl)
 (by
  intro a0 h0 a1 h1
  exact ⟨obl_nil (by kernel_rfl), by kernel_rfl⟩)
end Go.Proofs.Ytpclikbjpjoccaa
namespace Go.Proofs.Ytpclikbjpjoccaa
open Go.Sx
theorem wnz32 (a : Int) (h : IntKind.has .u32 a) (h0 : ¬ a = 0) : ¬ IntKind.wrap .i32 a = 0 := by
  have h1 : 0 ≤ a := h.1
  have h2 : a ≤ 4294967295 := h.2
  rw [IntKind.wrap_i32]
  omega
theorem wnz (a : Int) (h : IntKind.has .u32 a) (h0 : ¬ a = 0) : ¬ IntKind.wrap .i64 (IntKind.wrap .i32 a) = 0 := by
  have h1 : 0 ≤ a := h.1
  have h2 : a ≤ 4294967295 := h.2
  rw [IntKind.wrap_i32, IntKind.wrap_i64]
  omega
end Go.Proofs.Ytpclikbjpjoccaa
namespace Go.Proofs.Ytpclikbjpjoccaa
open Go.Sx
set_option linter.unusedVariables false
set_option linter.unusedSimpArgs false
set_option maxRecDepth 100000
set_option maxHeartbeats 20000000
noncomputable def hoDividesC : Ctx := ⟨tys, fns, (.e : Tr Sum)⟩
theorem hoDividesC_ok : CtxT Try.prog phi hoDividesC := ⟨tys_ok, fns_ok, SumsT.e, mix_ok⟩
noncomputable def hoDividesR (ds : List D) : R (SV × St) := fnRun hoDividesC 1000 50 86 (symArgs hoDividesS.args 0) (st0 ds 3)
noncomputable def hoDividesT : LT :=
 (.nb [.setB0 3 (.cmp .eql (.var 0) (.lit 42))] 3
 (.nb [.setB0 4 (.cmp .eql (.var 0) (.lit 42))] 4
 (.nb [.setB0 5 (.cmp .eql (.var 2) (.lit 0))] 5
 (.leaf [] (.w (.c (.lit (.int .u32 4294967295)))))
 (.nb [.setB0 6 (.cmp .eql (.var 2) (.lit 0))] 6
 (.dead [])
 (.leaf [.setI0 7 (.conv .i32 (.var 1)), .setI0 8 (.conv .i64 (.var 7)), .setI0 9 (.conv .i32 (.var 2)), .setI0 10 (.conv .i64 (.var 9)), .setI0 11 (.bin .quo .i64 (.var 8) (.var 10)), .setI0 12 (.conv .u32 (.var 11))] (.w (.c (.ivar .u32 12))))))
 (.dead []))
 (.nb [.setB0 4 (.cmp .eql (.var 0) (.lit 43)), .setB0 5 (.cmp .eql (.var 0) (.lit 42))] 5
 (.dead [])
 (.nb [.setB0 6 (.cmp .eql (.var 0) (.lit 44)), .setB0 7 (.cmp .eql (.var 2) (.lit 0))] 7
 (.nb [] 4
 (.leaf [] (.w (.c (.lit (.int .u32 4294967295)))))
 (.nb [.setB0 8 (.cmp .eql (.var 2) (.lit 0))] 8
 (.leaf [] (.w (.c (.ivar .u32 1))))
 (.dead [])))
 (.nb [.setB0 8 (.cmp .eql (.var 2) (.lit 0))] 8
 (.dead [])
 (.nb [] 6
 (.nb [] 4
 (.dead [])
 (.leaf [.setI0 9 (.conv .i32 (.var 1)), .setI0 10 (.conv .i64 (.var 9)), .setI0 11 (.conv .i32 (.var 2)), .setI0 12 (.conv .i64 (.var 11)), .setI0 13 (.bin .rem .i64 (.var 10) (.var 12)), .setI0 14 (.conv .u32 (.var 13))] (.w (.c (.ivar .u32 14)))))
 (.nb [] 4
 (.leaf [.setI0 9 (.bin .quo .u32 (.var 1) (.var 2))] (.w (.c (.ivar .u32 9))))
 (.leaf [.setI0 9 (.bin .rem .u32 (.var 1) (.var 2))] (.w (.c (.ivar .u32 9))))))))))
theorem hoDividesT_ok : LT.Ok hoDividesR hoDividesT [] [] :=
 (LT.ok_nb (LT.ok_nb (LT.ok_nb (LT.ok_leaf (by kernel_rfl))
 (LT.ok_nb LT.ok_dead
 (LT.ok_leaf (by kernel_rfl))))
 LT.ok_dead)
 (LT.ok_nb LT.ok_dead
 (LT.ok_nb (LT.ok_nb (LT.ok_leaf (by kernel_rfl))
 (LT.ok_nb (LT.ok_leaf (by kernel_rfl))
 LT.ok_dead))
 (LT.ok_nb LT.ok_dead
 (LT.ok_nb (LT.ok_nb LT.ok_dead
 (LT.ok_leaf (by kernel_rfl)))
 (LT.ok_nb (LT.ok_leaf (by kernel_rfl))
 (LT.ok_leaf (by kernel_rfl))))))))
theorem hoDivides_ok : SumT Try.prog phi 86 hoDividesS := treeSum (t := hoDividesT) (lf := 1000) (d := 50) hoDividesC_ok (fun xs w => Try.call86 xs w)
 hoDividesT_ok
 (by kernel_rfl)
 (by
  intro a0 h0 a1 h1 a2 h2
  exact ⟨obl_list (m := [(((icmp .eql a0 42) = true) → (((icmp .eql a0 42) = true) → (((icmp .eql a2 0) = false) → (((icmp .eql a2 0) = false) → (((IntKind.wrap .i64 (IntKind.wrap .i32 a2)) : Int) ≠ 0))))),
    (((icmp .eql a0 42) = false) → (((icmp .eql a0 42) = false) → (((icmp .eql a2 0) = false) → (((icmp .eql a2 0) = false) → (((icmp .eql a0 44) = true) → (((icmp .eql a0 43) = false) → (((IntKind.wrap .i64 (IntKind.wrap .i32 a2)) : Int) ≠ 0))))))),
    (((icmp .eql a0 42) = false) → (((icmp .eql a0 42) = false) → (((icmp .eql a2 0) = false) → (((icmp .eql a2 0) = false) → (((icmp .eql a0 44) = false) → (((icmp .eql a0 43) = true) → ((a2 : Int) ≠ 0))))))),
    (((icmp .eql a0 42) = false) → (((icmp .eql a0 42) = false) → (((icmp .eql a2 0) = false) → (((icmp .eql a2 0) = false) → (((icmp .eql a0 44) = false) → (((icmp .eql a0 43) = false) → ((a2 : Int) ≠ 0)))))))]) (by kernel_rfl) (by simp only [allL]; (repeat' apply And.intro); all_goals first | exact trivial | (intros; simp_all [icmp]; done) | (intros; simp_all [icmp]; first | exact wnz a2 h2 (by assumption) | exact wnz32 a2 h2 (by assumption) | omega)), by kernel_rfl⟩)
end Go.Proofs.Ytpclikbjpjoccaa
namespace Go.Proofs.Ytpclikbjpjoccaa
open Go.Sx
set_option linter.unusedVariables false
set_option linter.unusedSimpArgs false
set_option maxRecDepth 100000
set_option maxHeartbeats 20000000
noncomputable def hoMultipliesC : Ctx := ⟨tys, fns, ((((.e : Tr Sum).set 84 btMulSS).set 85 btMulUS).set 86 hoDividesS)⟩
theorem hoMultipliesC_ok : CtxT Try.prog phi hoMultipliesC := ⟨tys_ok, fns_ok, (((SumsT.e.set btMulS_ok).set btMulU_ok).set hoDivides_ok), mix_ok⟩
noncomputable def hoMultipliesR (ds : List D) : R (SV × St) := fnRun hoMultipliesC 1000 50 77 (symArgs hoMultipliesS.args 0) (st0 ds 3)
noncomputable def hoMultipliesT : LT :=
 (.nb [.call 84 [(.ivar .u32 1), (.ivar .u32 2)] 3 [(.ri .u32), (.ri .u32)], .call 85 [(.ivar .u32 1), (.ivar .u32 2)] 5 [(.ri .u32), (.ri .u32)], .setB0 7 (.cmp .eql (.var 0) (.lit 38))] 7
 (.leaf [] (.w (.c (.ivar .u32 3))))
 (.nb [.setB0 8 (.cmp .eql (.var 0) (.lit 39))] 8
 (.leaf [] (.w (.c (.ivar .u32 4))))
 (.nb [.setB0 9 (.cmp .eql (.var 0) (.lit 41))] 9
 (.leaf [] (.w (.c (.ivar .u32 6))))
 (.nb [.setB0 10 (.cmp .eql (.var 0) (.lit 40))] 10
 (.leaf [.setI0 11 (.conv .i32 (.var 1)), .setI0 12 (.conv .i64 (.var 11)), .setI0 13 (.conv .i64 (.var 2)), .setI0 14 (.bin .mul .i64 (.var 12) (.var 13)), .setI0 15 (.conv .u64 (.var 14)), .setI0 16 (.bin .shr .u64 (.var 15) (.lit 32)), .setI0 17 (.conv .u32 (.var 16))] (.w (.c (.ivar .u32 17))))
 (.leaf [.call 86 [(.ivar .i64 0), (.ivar .u32 1), (.ivar .u32 2)] 11 [(.ri .u32)]] (.w (.c (.ivar .u32 11))))))))
theorem hoMultipliesT_ok : LT.Ok hoMultipliesR hoMultipliesT [] [] :=
 (LT.ok_nb (LT.ok_leaf (by kernel_rfl))
 (LT.ok_nb (LT.ok_leaf (by kernel_rfl))
 (LT.ok_nb (LT.ok_leaf (by kernel_rfl))
 (LT.ok_nb (LT.ok_leaf (by kernel_rfl))
 (LT.ok_leaf (by kernel_rfl))))))
theorem hoMultiplies_ok : SumT Try.prog phi 77 hoMultipliesS := treeSum (t := hoMultipliesT) (lf := 1000) (d := 50) hoMultipliesC_ok (fun xs w => Try.call77 xs w)
 hoMultipliesT_ok
 (by kernel_rfl)
 (by
  intro a0 h0 a1 h1 a2 h2
  exact ⟨obl_nil (by kernel_rfl), by kernel_rfl⟩)
end Go.Proofs.Ytpclikbjpjoccaa
namespace Go.Proofs.Ytpclikbjpjoccaa
open Go.Sx
set_option linter.unusedVariables false
set_option linter.unusedSimpArgs false
set_option maxRecDepth 100000
set_option maxHeartbeats 20000000
noncomputable def hoReckonsC : Ctx := ⟨tys, fns, (((.e : Tr Sum).set 76 hoTruthS).set 77 hoMultipliesS)⟩
theorem hoReckonsC_ok : CtxT Try.prog phi hoReckonsC := ⟨tys_ok, fns_ok, ((SumsT.e.set hoTruth_ok).set hoMultiplies_ok), mix_ok⟩
noncomputable def hoReckonsR (ds : List D) : R (SV × St) := fnRun hoReckonsC 1000 50 65 (symArgs hoReckonsS.args 0) (st0 ds 3)
noncomputable def hoReckonsT : LT :=
 (.nb [.setB0 3 (.cmp .eql (.var 0) (.lit 28))] 3
 (.leaf [.setI0 4 (.bin .add .u32 (.var 1) (.var 2))] (.w (.c (.ivar .u32 4))))
 (.nb [.setB0 4 (.cmp .eql (.var 0) (.lit 29))] 4
 (.leaf [.setI0 5 (.bin .sub .u32 (.var 1) (.var 2))] (.w (.c (.ivar .u32 5))))
 (.nb [.setB0 5 (.cmp .eql (.var 0) (.lit 30))] 5
 (.leaf [.setI0 6 (.bin .rem .u32 (.var 2) (.lit 32)), .setI0 7 (.bin .shl .u32 (.var 1) (.var 6))] (.w (.c (.ivar .u32 7))))
 (.nb [.setB0 6 (.cmp .eql (.var 0) (.lit 31))] 6
 (.leaf [.setI0 7 (.conv .i32 (.var 1)), .setI0 8 (.conv .i32 (.var 2)), .setB0 9 (.cmp .lss (.var 7) (.var 8)), .call 76 [(.bvar 9 false)] 10 [(.ri .u32)]] (.w (.c (.ivar .u32 10))))
 (.nb [.setB0 7 (.cmp .eql (.var 0) (.lit 32))] 7
 (.leaf [.setB0 8 (.cmp .lss (.var 1) (.var 2)), .call 76 [(.bvar 8 false)] 9 [(.ri .u32)]] (.w (.c (.ivar .u32 9))))
 (.nb [.setB0 8 (.cmp .eql (.var 0) (.lit 33))] 8
 (.leaf [.setI0 9 (.bin .xor .u32 (.var 1) (.var 2))] (.w (.c (.ivar .u32 9))))
 (.nb [.setB0 9 (.cmp .eql (.var 0) (.lit 34))] 9
 (.leaf [.setI0 10 (.bin .rem .u32 (.var 2) (.lit 32)), .setI0 11 (.bin .shr .u32 (.var 1) (.var 10))] (.w (.c (.ivar .u32 11))))
 (.nb [.setB0 10 (.cmp .eql (.var 0) (.lit 35))] 10
 (.leaf [.setI0 11 (.conv .i32 (.var 1)), .setI0 12 (.bin .rem .u32 (.var 2) (.lit 32)), .setI0 13 (.bin .shr .i32 (.var 11) (.var 12)), .setI0 14 (.conv .u32 (.var 13))] (.w (.c (.ivar .u32 14))))
 (.nb [.setB0 11 (.cmp .eql (.var 0) (.lit 36))] 11
 (.leaf [.setI0 12 (.bin .or .u32 (.var 1) (.var 2))] (.w (.c (.ivar .u32 12))))
 (.nb [.setB0 12 (.cmp .eql (.var 0) (.lit 37))] 12
 (.leaf [.setI0 13 (.bin .and .u32 (.var 1) (.var 2))] (.w (.c (.ivar .u32 13))))
 (.leaf [.call 77 [(.ivar .i64 0), (.ivar .u32 1), (.ivar .u32 2)] 13 [(.ri .u32)]] (.w (.c (.ivar .u32 13))))))))))))))
theorem hoReckonsT_ok : LT.Ok hoReckonsR hoReckonsT [] [] :=
 (LT.ok_nb (LT.ok_leaf (by kernel_rfl))
 (LT.ok_nb (LT.ok_leaf (by kernel_rfl))
 (LT.ok_nb (LT.ok_leaf (by kernel_rfl))
 (LT.ok_nb (LT.ok_leaf (by kernel_rfl))
 (LT.ok_nb (LT.ok_leaf (by kernel_rfl))
 (LT.ok_nb (LT.ok_leaf (by kernel_rfl))
 (LT.ok_nb (LT.ok_leaf (by kernel_rfl))
 (LT.ok_nb (LT.ok_leaf (by kernel_rfl))
 (LT.ok_nb (LT.ok_leaf (by kernel_rfl))
 (LT.ok_nb (LT.ok_leaf (by kernel_rfl))
 (LT.ok_leaf (by kernel_rfl))))))))))))
theorem hoReckons_ok : SumT Try.prog phi 65 hoReckonsS := treeSum (t := hoReckonsT) (lf := 1000) (d := 50) hoReckonsC_ok (fun xs w => Try.call65 xs w)
 hoReckonsT_ok
 (by kernel_rfl)
 (by
  intro a0 h0 a1 h1 a2 h2
  exact ⟨obl_nil (by kernel_rfl), by kernel_rfl⟩)
end Go.Proofs.Ytpclikbjpjoccaa
namespace Go.Proofs.Ytpclikbjpjoccaa
open Go.Sx
set_option linter.unusedVariables false
set_option linter.unusedSimpArgs false
set_option maxRecDepth 100000
set_option maxHeartbeats 20000000
noncomputable def lwWordC : Ctx := ⟨tys, fns, ((.e : Tr Sum).set 18 rfEncS)⟩
theorem lwWordC_ok : CtxT Try.prog phi lwWordC := ⟨tys_ok, fns_ok, (SumsT.e.set rfEnc_ok), mix_ok⟩
noncomputable def lwWordR (ds : List D) : R (SV × St) := fnRun lwWordC 1000 50 22 (symArgs lwWordS.args 0) (st0 ds 5)
noncomputable def lwWordT : LT :=
 (.leaf [.call 18 [(.ivar .i64 0), (.ivar .i64 1), (.ivar .i64 2), (.ivar .i64 3), (.ivar .i32 4)] 5 [(.ri .u32), .rb]] (.w (.c (.ivar .u32 5))))
theorem lwWordT_ok : LT.Ok lwWordR lwWordT [] [] :=
 (LT.ok_leaf (by kernel_rfl))
theorem lwWord_ok : SumT Try.prog phi 22 lwWordS := treeSum (t := lwWordT) (lf := 1000) (d := 50) lwWordC_ok (fun xs w => Try.call22 xs w)
 lwWordT_ok
 (by kernel_rfl)
 (by
  intro a0 h0 a1 h1 a2 h2 a3 h3 a4 h4
  exact ⟨obl_nil (by kernel_rfl), by kernel_rfl⟩)
end Go.Proofs.Ytpclikbjpjoccaa
namespace Go.Proofs.Ytpclikbjpjoccaa
open Go.Sx
set_option linter.unusedVariables false
set_option maxRecDepth 100000
theorem host_Decode (a0 : Int) (h0 : IntKind.has .u32 a0) (w : World) :
    Calls Try.prog 40 #[.int .u32 a0] w fun e w' => e = .returned (.tuple #[.agg #[.int .i64 (rvDec_0 a0), .int .i64 (rvDec_1 a0), .int .i64 (rvDec_2 a0), .int .i64 (rvDec_3 a0), .int .i32 (rvDec_4 a0)], .bool (rvDec_5 a0)]) ∧ RowKit.Below w.heap.size w w' := by
  have e : sumRes rvDecS (phiCells phi 40 [.int .u32 a0] 0 rvDecS.ks) = .tuple #[.agg #[.int .i64 (rvDec_0 a0), .int .i64 (rvDec_1 a0), .int .i64 (rvDec_2 a0), .int .i64 (rvDec_3 a0), .int .i32 (rvDec_4 a0)], .bool (rvDec_5 a0)] := by kernel_rfl
  exact rvDec_ok.calls (vs := [.int .u32 a0]) (show TypedCells [.ri .u32] [.int .u32 a0] from ⟨⟨a0, rfl, h0⟩, trivial⟩) rfl e w (Nat.zero_le _) trivial
theorem host_taken (a0 : Int) (a1 : Int) (a2 : Int) (h0 : IntKind.has .i64 a0) (h1 : IntKind.has .u32 a1) (h2 : IntKind.has .u32 a2) (w : World) :
    Calls Try.prog 61 #[.int .i64 a0, .int .u32 a1, .int .u32 a2] w fun e w' => e = .returned (.bool (hoTaken a0 a1 a2)) ∧ RowKit.Below w.heap.size w w' := by
  have e : sumRes hoTakenS (phiCells phi 61 [.int .i64 a0, .int .u32 a1, .int .u32 a2] 0 hoTakenS.ks) = .bool (hoTaken a0 a1 a2) := by kernel_rfl
  exact hoTaken_ok.calls (vs := [.int .i64 a0, .int .u32 a1, .int .u32 a2]) (show TypedCells [.ri .i64, .ri .u32, .ri .u32] [.int .i64 a0, .int .u32 a1, .int .u32 a2] from ⟨⟨a0, rfl, h0⟩, ⟨a1, rfl, h1⟩, ⟨a2, rfl, h2⟩, trivial⟩) rfl e w (Nat.zero_le _) trivial
theorem host_reckons (a0 : Int) (a1 : Int) (a2 : Int) (h0 : IntKind.has .i64 a0) (h1 : IntKind.has .u32 a1) (h2 : IntKind.has .u32 a2) (w : World) :
    Calls Try.prog 65 #[.int .i64 a0, .int .u32 a1, .int .u32 a2] w fun e w' => e = .returned (.int .u32 (hoReckons a0 a1 a2)) ∧ RowKit.Below w.heap.size w w' := by
  have e : sumRes hoReckonsS (phiCells phi 65 [.int .i64 a0, .int .u32 a1, .int .u32 a2] 0 hoReckonsS.ks) = .int .u32 (hoReckons a0 a1 a2) := by kernel_rfl
  exact hoReckons_ok.calls (vs := [.int .i64 a0, .int .u32 a1, .int .u32 a2]) (show TypedCells [.ri .i64, .ri .u32, .ri .u32] [.int .i64 a0, .int .u32 a1, .int .u32 a2] from ⟨⟨a0, rfl, h0⟩, ⟨a1, rfl, h1⟩, ⟨a2, rfl, h2⟩, trivial⟩) rfl e w (Nat.zero_le _) trivial
theorem ref_Encode (a0 : Int) (a1 : Int) (a2 : Int) (a3 : Int) (a4 : Int) (h0 : IntKind.has .i64 a0) (h1 : IntKind.has .i64 a1) (h2 : IntKind.has .i64 a2) (h3 : IntKind.has .i64 a3) (h4 : IntKind.has .i32 a4) (w : World) :
    Calls Try.prog 18 #[.agg #[.int .i64 a0, .int .i64 a1, .int .i64 a2, .int .i64 a3, .int .i32 a4]] w fun e w' => e = .returned (.tuple #[.int .u32 (rfEnc_0 a0 a1 a2 a3 a4), .bool (rfEnc_1 a0 a1 a2 a3 a4)]) ∧ RowKit.Below w.heap.size w w' := by
  have e : sumRes rfEncS (phiCells phi 18 [.int .i64 a0, .int .i64 a1, .int .i64 a2, .int .i64 a3, .int .i32 a4] 0 rfEncS.ks) = .tuple #[.int .u32 (rfEnc_0 a0 a1 a2 a3 a4), .bool (rfEnc_1 a0 a1 a2 a3 a4)] := by kernel_rfl
  exact rfEnc_ok.calls (vs := [.int .i64 a0, .int .i64 a1, .int .i64 a2, .int .i64 a3, .int .i32 a4]) (show TypedCells [.ri .i64, .ri .i64, .ri .i64, .ri .i64, .ri .i32] [.int .i64 a0, .int .i64 a1, .int .i64 a2, .int .i64 a3, .int .i32 a4] from ⟨⟨a0, rfl, h0⟩, ⟨a1, rfl, h1⟩, ⟨a2, rfl, h2⟩, ⟨a3, rfl, h3⟩, ⟨a4, rfl, h4⟩, trivial⟩) rfl e w (Nat.zero_le _) trivial
theorem law_word (a0 : Int) (a1 : Int) (a2 : Int) (a3 : Int) (a4 : Int) (h0 : IntKind.has .i64 a0) (h1 : IntKind.has .i64 a1) (h2 : IntKind.has .i64 a2) (h3 : IntKind.has .i64 a3) (h4 : IntKind.has .i32 a4) (w : World) :
    Calls Try.prog 22 #[.agg #[.int .i64 a0, .int .i64 a1, .int .i64 a2, .int .i64 a3, .int .i32 a4]] w fun e w' => e = .returned (.int .u32 (lwWord a0 a1 a2 a3 a4)) ∧ RowKit.Below w.heap.size w w' := by
  have e : sumRes lwWordS (phiCells phi 22 [.int .i64 a0, .int .i64 a1, .int .i64 a2, .int .i64 a3, .int .i32 a4] 0 lwWordS.ks) = .int .u32 (lwWord a0 a1 a2 a3 a4) := by kernel_rfl
  exact lwWord_ok.calls (vs := [.int .i64 a0, .int .i64 a1, .int .i64 a2, .int .i64 a3, .int .i32 a4]) (show TypedCells [.ri .i64, .ri .i64, .ri .i64, .ri .i64, .ri .i32] [.int .i64 a0, .int .i64 a1, .int .i64 a2, .int .i64 a3, .int .i32 a4] from ⟨⟨a0, rfl, h0⟩, ⟨a1, rfl, h1⟩, ⟨a2, rfl, h2⟩, ⟨a3, rfl, h3⟩, ⟨a4, rfl, h4⟩, trivial⟩) rfl e w (Nat.zero_le _) trivial
end Go.Proofs.Ytpclikbjpjoccaa
