/-
  ferryman/ferrymanlaw3.known: all its ways, printed by a program of this repo.
-/
import Derived.Test.YtahhfjmgdalfpaaDoorBase
import Derived.Test.YtahhfjmgdalfpaaDoorHand
import Derived.Test.YtahhfjmgdalfpaaDoorRvT
namespace Go.Proofs.YtahhfjmgdalfpaaDoor
open Go.Sx
set_option linter.unusedVariables false
set_option linter.unusedSimpArgs false
set_option maxRecDepth 100000
set_option maxHeartbeats 20000000
noncomputable def lwKnownC : Ctx := ⟨tys, fns, ((.e : Tr Sum).set 28 scItoaS)⟩
theorem lwKnownC_ok : CtxT Tryd.prog phi lwKnownC := ⟨tys_ok, fns_ok, (SumsT.e.set scItoa_ok), mix_ok⟩
noncomputable def lwKnownR (ds : List D) : R (SV × St) := fnRun lwKnownC 1000 50 10 (symArgs lwKnownS.args 0) (st0 ds 0)
noncomputable def lwKnownT : LT :=
 (.sure [.call 28 [(.lit (.int .i64 (-4)))] 0 [.rs], .call 28 [(.lit (.int .i64 1))] 1 [.rs], .setS0 2 (.cat (.lit ⟨#[120]⟩) (.var 1)), .setS0 3 (.cat (.lit ⟨#[115, 119, 32]⟩) (.var 2)), .setS0 4 (.cat (.var 3) (.lit ⟨#[44]⟩)), .setS0 5 (.cat (.var 4) (.var 0)), .setS0 6 (.cat (.var 5) (.lit ⟨#[40]⟩)), .call 28 [(.lit (.int .i64 2))] 7 [.rs], .setS0 8 (.cat (.lit ⟨#[120]⟩) (.var 7)), .setS0 9 (.cat (.var 6) (.var 8)), .setS0 10 (.cat (.var 9) (.lit ⟨#[41]⟩)), .setB0 11 (.all [(.ss (.var 10) (.lit ⟨#[115, 119, 32, 120, 49, 44, 45, 52, 40, 120, 50, 41]⟩))])] 11 true
 (.leaf [] (.w (.c (.lit (.bool true))))))
theorem lwKnownT_ok : LT.Ok lwKnownR lwKnownT [] [] :=
 (LT.ok_sure (LT.ok_leaf (by kernel_rfl)))
theorem lwKnown_ok : SumT Tryd.prog phi 10 lwKnownS := treeSum (t := lwKnownT) (lf := 1000) (d := 50) lwKnownC_ok (fun xs w => Tryd.call10 xs w)
 lwKnownT_ok
 (by kernel_rfl)
 (by
  exact ⟨obl_list (m := [(((⟨#[120]⟩ : ByteArray)).size + ((scItoa 1)).size ≤ 1000000),
    (((⟨#[115, 119, 32]⟩ : ByteArray)).size + (((⟨#[120]⟩ : ByteArray) ++ (scItoa 1))).size ≤ 1000000),
    ((((⟨#[115, 119, 32]⟩ : ByteArray) ++ ((⟨#[120]⟩ : ByteArray) ++ (scItoa 1)))).size + ((⟨#[44]⟩ : ByteArray)).size ≤ 1000000),
    (((((⟨#[115, 119, 32]⟩ : ByteArray) ++ ((⟨#[120]⟩ : ByteArray) ++ (scItoa 1))) ++ (⟨#[44]⟩ : ByteArray))).size + ((scItoa (-4))).size ≤ 1000000),
    ((((((⟨#[115, 119, 32]⟩ : ByteArray) ++ ((⟨#[120]⟩ : ByteArray) ++ (scItoa 1))) ++ (⟨#[44]⟩ : ByteArray)) ++ (scItoa (-4)))).size + ((⟨#[40]⟩ : ByteArray)).size ≤ 1000000),
    (((⟨#[120]⟩ : ByteArray)).size + ((scItoa 2)).size ≤ 1000000),
    (((((((⟨#[115, 119, 32]⟩ : ByteArray) ++ ((⟨#[120]⟩ : ByteArray) ++ (scItoa 1))) ++ (⟨#[44]⟩ : ByteArray)) ++ (scItoa (-4))) ++ (⟨#[40]⟩ : ByteArray))).size + (((⟨#[120]⟩ : ByteArray) ++ (scItoa 2))).size ≤ 1000000),
    ((((((((⟨#[115, 119, 32]⟩ : ByteArray) ++ ((⟨#[120]⟩ : ByteArray) ++ (scItoa 1))) ++ (⟨#[44]⟩ : ByteArray)) ++ (scItoa (-4))) ++ (⟨#[40]⟩ : ByteArray)) ++ ((⟨#[120]⟩ : ByteArray) ++ (scItoa 2)))).size + ((⟨#[41]⟩ : ByteArray)).size ≤ 1000000),
    ((((((((((⟨#[115, 119, 32]⟩ : ByteArray) ++ ((⟨#[120]⟩ : ByteArray) ++ (scItoa 1))) ++ (⟨#[44]⟩ : ByteArray)) ++ (scItoa (-4))) ++ (⟨#[40]⟩ : ByteArray)) ++ ((⟨#[120]⟩ : ByteArray) ++ (scItoa 2))) ++ (⟨#[41]⟩ : ByteArray)).data.toList == (⟨#[115, 119, 32, 120, 49, 44, 45, 52, 40, 120, 50, 41]⟩ : ByteArray).data.toList) && true) = true)]) (by kernel_rfl) (by simp only [allL, scItoa_m4, scItoa_1, scItoa_2]; repeat' apply And.intro; all_goals first | exact trivial | decide), by kernel_rfl⟩)
end Go.Proofs.YtahhfjmgdalfpaaDoor
