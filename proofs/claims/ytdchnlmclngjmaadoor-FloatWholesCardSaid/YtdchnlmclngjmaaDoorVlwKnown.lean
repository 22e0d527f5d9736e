/-
  ferryman/ferrymanlaw2.known: all its ways, printed by a program of this repo.
-/
import Derived.Test.YtdchnlmclngjmaaDoorBase
import Derived.Test.YtdchnlmclngjmaaDoorHand
import Derived.Test.YtdchnlmclngjmaaDoorVfNeg
import Derived.Test.YtdchnlmclngjmaaDoorVfKind
import Derived.Test.YtdchnlmclngjmaaDoorVfText
namespace Go.Proofs.YtdchnlmclngjmaaDoor
open Go.Sx
set_option linter.unusedVariables false
set_option linter.unusedSimpArgs false
set_option maxRecDepth 100000
set_option maxHeartbeats 20000000
noncomputable def lwKnownC : Ctx := ⟨tys, fns, ((((((((.e : Tr Sum).set 16 fAddS).set 18 fSubS).set 20 fDivS).set 14 fCmpS).set 21 fNegS).set 12 fKindS).set 13 fTextS)⟩
theorem lwKnownC_ok : CtxT Tryd.prog phi lwKnownC := ⟨tys_ok, fns_ok, (((((((SumsT.e.set fAdd_ok).set fSub_ok).set fDiv_ok).set fCmp_ok).set fNeg_ok).set fKind_ok).set fText_ok), mix_ok⟩
noncomputable def lwKnownR (ds : List D) : R (SV × St) := fnRun lwKnownC 1000 50 11 (symArgs lwKnownS.args 0) (st0 ds 0)
noncomputable def lwKnownT : LT :=
 (.sure [.call 14 [(.lit (.int .u64 0)), (.lit (.int .u64 9223372036854775808))] 0 [.rb, .rb, .rb], .call 14 [(.lit (.int .u64 9221120237041090560)), (.lit (.int .u64 4607182418800017408))] 3 [.rb, .rb, .rb], .call 20 [(.lit (.int .u64 4607182418800017408)), (.lit (.int .u64 0))] 6 [(.ri .u64)], .setB0 7 (.cmp .eql (.var 6) (.lit 9218868437227405312))] 7 true
 (.sure [.call 18 [(.lit (.int .u64 9218868437227405312)), (.lit (.int .u64 9218868437227405312))] 8 [(.ri .u64)], .setB0 9 (.cmp .eql (.var 8) (.lit 9221120237041090560))] 9 true
 (.sure [.call 16 [(.lit (.int .u64 4607182418800017408)), (.lit (.int .u64 4607182418800017408))] 10 [(.ri .u64)], .setB0 11 (.cmp .eql (.var 10) (.lit 4611686018427387904))] 11 true
 (.sure [] 0 true
 (.sure [] 1 false
 (.sure [] 2 false
 (.sure [] 3 true
 (.sure [] 4 true
 (.sure [] 5 true
 (.sure [.call 12 [(.lit (.int .u64 9223372036854775808))] 12 [(.ri .i64)], .setB0 13 (.cmp .eql (.var 12) (.lit 0))] 13 true
 (.sure [.call 12 [(.lit (.int .u64 1))] 14 [(.ri .i64)], .setB0 15 (.cmp .eql (.var 14) (.lit 1))] 15 true
 (.sure [.call 12 [(.lit (.int .u64 4607182418800017408))] 16 [(.ri .i64)], .setB0 17 (.cmp .eql (.var 16) (.lit 2))] 17 true
 (.sure [.call 12 [(.lit (.int .u64 9218868437227405312))] 18 [(.ri .i64)], .setB0 19 (.cmp .eql (.var 18) (.lit 3))] 19 true
 (.sure [.call 12 [(.lit (.int .u64 9221120237041090565))] 20 [(.ri .i64)], .setB0 21 (.cmp .eql (.var 20) (.lit 4))] 21 true
 (.sure [.call 13 [(.lit (.int .u64 9223372036854775808))] 22 [.rs], .setB0 23 (.all [(.ss (.var 22) (.lit ⟨#[45, 48]⟩))])] 23 true
 (.sure [.call 13 [(.lit (.int .u64 9218868437227405312))] 24 [.rs], .setB0 25 (.all [(.ss (.var 24) (.lit ⟨#[105, 110, 102]⟩))])] 25 true
 (.sure [.call 13 [(.lit (.int .u64 9221120237041090560))] 26 [.rs], .setB0 27 (.all [(.ss (.var 26) (.lit ⟨#[110, 97, 110]⟩))])] 27 true
 (.leaf [.call 21 [(.lit (.int .u64 0))] 28 [(.ri .u64)], .setB0 29 (.cmp .eql (.var 28) (.lit 9223372036854775808))] (.w (.c (.bvar 29 false)))))))))))))))))))))
theorem lwKnownT_ok : LT.Ok lwKnownR lwKnownT [] [] :=
 (LT.ok_sure (LT.ok_sure (LT.ok_sure (LT.ok_sure (LT.ok_sure (LT.ok_sure (LT.ok_sure (LT.ok_sure (LT.ok_sure (LT.ok_sure (LT.ok_sure (LT.ok_sure (LT.ok_sure (LT.ok_sure (LT.ok_sure (LT.ok_sure (LT.ok_sure (LT.ok_leaf (by kernel_rfl)))))))))))))))))))
theorem lwKnown_ok : SumT Tryd.prog phi 11 lwKnownS := treeSum (t := lwKnownT) (lf := 1000) (d := 50) lwKnownC_ok (fun xs w => Tryd.call11 xs w)
 lwKnownT_ok
 (by kernel_rfl)
 (by
  exact ⟨obl_list (m := [((icmp .eql (fDiv 4607182418800017408 0) 9218868437227405312) = true),
    ((icmp .eql (fSub 9218868437227405312 9218868437227405312) 9221120237041090560) = true),
    ((icmp .eql (fAdd 4607182418800017408 4607182418800017408) 4611686018427387904) = true),
    ((fCmp_0 0 9223372036854775808) = true),
    ((fCmp_1 0 9223372036854775808) = false),
    ((fCmp_2 0 9223372036854775808) = false),
    ((fCmp_0 9221120237041090560 4607182418800017408) = true),
    ((fCmp_1 9221120237041090560 4607182418800017408) = true),
    ((fCmp_2 9221120237041090560 4607182418800017408) = true),
    ((icmp .eql (fKind 9223372036854775808) 0) = true),
    ((icmp .eql (fKind 1) 1) = true),
    ((icmp .eql (fKind 4607182418800017408) 2) = true),
    ((icmp .eql (fKind 9218868437227405312) 3) = true),
    ((icmp .eql (fKind 9221120237041090565) 4) = true),
    ((((fText 9223372036854775808).data.toList == (⟨#[45, 48]⟩ : ByteArray).data.toList) && true) = true),
    ((((fText 9218868437227405312).data.toList == (⟨#[105, 110, 102]⟩ : ByteArray).data.toList) && true) = true),
    ((((fText 9221120237041090560).data.toList == (⟨#[110, 97, 110]⟩ : ByteArray).data.toList) && true) = true)]) (by kernel_rfl) (by simp only [allL]; (repeat' apply And.intro); all_goals first | exact trivial | kernel_rfl), by kernel_rfl⟩)
end Go.Proofs.YtdchnlmclngjmaaDoor
