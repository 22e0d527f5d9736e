/-
  WholeShifts is true whatever the numbers: its 120 ways joined.
-/
import Derived.Test.YtgeankpiediebaaGreatShf0
import Derived.Test.YtgeankpiediebaaGreatShf1
import Derived.Test.YtgeankpiediebaaGreatShf2
import Derived.Test.YtgeankpiediebaaGreatShf3
import Derived.Test.YtgeankpiediebaaGreatShf4
import Derived.Test.YtgeankpiediebaaGreatShf5
import Derived.Test.YtgeankpiediebaaGreatShf6
import Derived.Test.YtgeankpiediebaaGreatShf7
import Derived.Test.YtgeankpiediebaaGreatShf8
import Derived.Test.YtgeankpiediebaaGreatShf9
import Derived.Test.YtgeankpiediebaaGreatShf10
import Derived.Test.YtgeankpiediebaaGreatShf11
import Derived.Test.YtgeankpiediebaaGreatShf12
import Derived.Test.YtgeankpiediebaaGreatShf13
import Derived.Test.YtgeankpiediebaaGreatShf14
import Derived.Test.YtgeankpiediebaaGreatShfR0
import Derived.Test.YtgeankpiediebaaGreatShfR1
import Derived.Test.YtgeankpiediebaaGreatShfR2
import Derived.Test.YtgeankpiediebaaGreatKnz
import Derived.Laws.Runes
namespace Go.Proofs.YtgeankpiediebaaGreat
open Go.Fx Go.RowKit
set_option linter.unusedVariables false
theorem sf_all : ∀ (s : S5) (w : Hw) (a : K3) (e : Sh), sfWayT s w a e
  | .shl, .one, .h, .z => (List.cons.inj sf_2).1
  | .shl, .one, .h, .o => (List.cons.inj sf_2).1
  | .shl, .one, .h, .m => (List.cons.inj sf_2).1
  | .shl, .one, .r, .z => (List.cons.inj sf_5).1
  | .shl, .one, .r, .o => (List.cons.inj sf_5).1
  | .shl, .one, .r, .m => (List.cons.inj sf_5).1
  | .shl, .one, .n, .z => (List.cons.inj sf_8).1
  | .shl, .one, .n, .o => (List.cons.inj sf_8).1
  | .shl, .one, .n, .m => (List.cons.inj sf_8).1
  | .shl, .im, .h, .z => (List.cons.inj sf_0).1
  | .shl, .im, .h, .o => (List.cons.inj (List.cons.inj sf_0).2).1
  | .shl, .im, .h, .m => (List.cons.inj (List.cons.inj (List.cons.inj sf_0).2).2).1
  | .shl, .im, .r, .z => (List.cons.inj sf_3).1
  | .shl, .im, .r, .o => (List.cons.inj (List.cons.inj sf_3).2).1
  | .shl, .im, .r, .m => (List.cons.inj (List.cons.inj (List.cons.inj sf_3).2).2).1
  | .shl, .im, .n, .z => (List.cons.inj sf_6).1
  | .shl, .im, .n, .o => (List.cons.inj (List.cons.inj sf_6).2).1
  | .shl, .im, .n, .m => (List.cons.inj (List.cons.inj (List.cons.inj sf_6).2).2).1
  | .shl, .reg, .h, .z => (List.cons.inj sf_1).1
  | .shl, .reg, .h, .o => (List.cons.inj (List.cons.inj sf_1).2).1
  | .shl, .reg, .h, .m => (List.cons.inj (List.cons.inj (List.cons.inj sf_1).2).2).1
  | .shl, .reg, .r, .z => (List.cons.inj sf_4).1
  | .shl, .reg, .r, .o => (List.cons.inj (List.cons.inj sf_4).2).1
  | .shl, .reg, .r, .m => (List.cons.inj (List.cons.inj (List.cons.inj sf_4).2).2).1
  | .shl, .reg, .n, .z => (List.cons.inj sf_7).1
  | .shl, .reg, .n, .o => (List.cons.inj (List.cons.inj sf_7).2).1
  | .shl, .reg, .n, .m => (List.cons.inj (List.cons.inj (List.cons.inj sf_7).2).2).1
  | .shl, .by1, .h, .z => (List.cons.inj (List.cons.inj sf_2).2).1
  | .shl, .by1, .h, .o => (List.cons.inj (List.cons.inj sf_2).2).1
  | .shl, .by1, .h, .m => (List.cons.inj (List.cons.inj sf_2).2).1
  | .shl, .by1, .r, .z => (List.cons.inj (List.cons.inj sf_5).2).1
  | .shl, .by1, .r, .o => (List.cons.inj (List.cons.inj sf_5).2).1
  | .shl, .by1, .r, .m => (List.cons.inj (List.cons.inj sf_5).2).1
  | .shl, .by1, .n, .z => (List.cons.inj (List.cons.inj sf_8).2).1
  | .shl, .by1, .n, .o => (List.cons.inj (List.cons.inj sf_8).2).1
  | .shl, .by1, .n, .m => (List.cons.inj (List.cons.inj sf_8).2).1
  | .shr, .one, .h, .z => (List.cons.inj sf_11).1
  | .shr, .one, .h, .o => (List.cons.inj sf_11).1
  | .shr, .one, .h, .m => (List.cons.inj sf_11).1
  | .shr, .one, .r, .z => (List.cons.inj sf_14).1
  | .shr, .one, .r, .o => (List.cons.inj sf_14).1
  | .shr, .one, .r, .m => (List.cons.inj sf_14).1
  | .shr, .one, .n, .z => (List.cons.inj sf_17).1
  | .shr, .one, .n, .o => (List.cons.inj sf_17).1
  | .shr, .one, .n, .m => (List.cons.inj sf_17).1
  | .shr, .im, .h, .z => (List.cons.inj sf_9).1
  | .shr, .im, .h, .o => (List.cons.inj (List.cons.inj sf_9).2).1
  | .shr, .im, .h, .m => (List.cons.inj (List.cons.inj (List.cons.inj sf_9).2).2).1
  | .shr, .im, .r, .z => (List.cons.inj sf_12).1
  | .shr, .im, .r, .o => (List.cons.inj (List.cons.inj sf_12).2).1
  | .shr, .im, .r, .m => (List.cons.inj (List.cons.inj (List.cons.inj sf_12).2).2).1
  | .shr, .im, .n, .z => (List.cons.inj sf_15).1
  | .shr, .im, .n, .o => (List.cons.inj (List.cons.inj sf_15).2).1
  | .shr, .im, .n, .m => (List.cons.inj (List.cons.inj (List.cons.inj sf_15).2).2).1
  | .shr, .reg, .h, .z => (List.cons.inj sf_10).1
  | .shr, .reg, .h, .o => (List.cons.inj (List.cons.inj sf_10).2).1
  | .shr, .reg, .h, .m => (List.cons.inj (List.cons.inj (List.cons.inj sf_10).2).2).1
  | .shr, .reg, .r, .z => (List.cons.inj sf_13).1
  | .shr, .reg, .r, .o => (List.cons.inj (List.cons.inj sf_13).2).1
  | .shr, .reg, .r, .m => (List.cons.inj (List.cons.inj (List.cons.inj sf_13).2).2).1
  | .shr, .reg, .n, .z => (List.cons.inj sf_16).1
  | .shr, .reg, .n, .o => (List.cons.inj (List.cons.inj sf_16).2).1
  | .shr, .reg, .n, .m => (List.cons.inj (List.cons.inj (List.cons.inj sf_16).2).2).1
  | .shr, .by1, .h, .z => (List.cons.inj (List.cons.inj sf_11).2).1
  | .shr, .by1, .h, .o => (List.cons.inj (List.cons.inj sf_11).2).1
  | .shr, .by1, .h, .m => (List.cons.inj (List.cons.inj sf_11).2).1
  | .shr, .by1, .r, .z => (List.cons.inj (List.cons.inj sf_14).2).1
  | .shr, .by1, .r, .o => (List.cons.inj (List.cons.inj sf_14).2).1
  | .shr, .by1, .r, .m => (List.cons.inj (List.cons.inj sf_14).2).1
  | .shr, .by1, .n, .z => (List.cons.inj (List.cons.inj sf_17).2).1
  | .shr, .by1, .n, .o => (List.cons.inj (List.cons.inj sf_17).2).1
  | .shr, .by1, .n, .m => (List.cons.inj (List.cons.inj sf_17).2).1
  | .sar, .one, .h, .z => (List.cons.inj sf_20).1
  | .sar, .one, .h, .o => (List.cons.inj sf_20).1
  | .sar, .one, .h, .m => (List.cons.inj sf_20).1
  | .sar, .one, .r, .z => (List.cons.inj sf_23).1
  | .sar, .one, .r, .o => (List.cons.inj sf_23).1
  | .sar, .one, .r, .m => (List.cons.inj sf_23).1
  | .sar, .one, .n, .z => (List.cons.inj sf_26).1
  | .sar, .one, .n, .o => (List.cons.inj sf_26).1
  | .sar, .one, .n, .m => (List.cons.inj sf_26).1
  | .sar, .im, .h, .z => (List.cons.inj sf_18).1
  | .sar, .im, .h, .o => (List.cons.inj (List.cons.inj sf_18).2).1
  | .sar, .im, .h, .m => (List.cons.inj (List.cons.inj (List.cons.inj sf_18).2).2).1
  | .sar, .im, .r, .z => (List.cons.inj sf_21).1
  | .sar, .im, .r, .o => (List.cons.inj (List.cons.inj sf_21).2).1
  | .sar, .im, .r, .m => (List.cons.inj (List.cons.inj (List.cons.inj sf_21).2).2).1
  | .sar, .im, .n, .z => (List.cons.inj sf_24).1
  | .sar, .im, .n, .o => (List.cons.inj (List.cons.inj sf_24).2).1
  | .sar, .im, .n, .m => (List.cons.inj (List.cons.inj (List.cons.inj sf_24).2).2).1
  | .sar, .reg, .h, .z => (List.cons.inj sf_19).1
  | .sar, .reg, .h, .o => (List.cons.inj (List.cons.inj sf_19).2).1
  | .sar, .reg, .h, .m => (List.cons.inj (List.cons.inj (List.cons.inj sf_19).2).2).1
  | .sar, .reg, .r, .z => (List.cons.inj sf_22).1
  | .sar, .reg, .r, .o => (List.cons.inj (List.cons.inj sf_22).2).1
  | .sar, .reg, .r, .m => (List.cons.inj (List.cons.inj (List.cons.inj sf_22).2).2).1
  | .sar, .reg, .n, .z => (List.cons.inj sf_25).1
  | .sar, .reg, .n, .o => (List.cons.inj (List.cons.inj sf_25).2).1
  | .sar, .reg, .n, .m => (List.cons.inj (List.cons.inj (List.cons.inj sf_25).2).2).1
  | .sar, .by1, .h, .z => (List.cons.inj (List.cons.inj sf_20).2).1
  | .sar, .by1, .h, .o => (List.cons.inj (List.cons.inj sf_20).2).1
  | .sar, .by1, .h, .m => (List.cons.inj (List.cons.inj sf_20).2).1
  | .sar, .by1, .r, .z => (List.cons.inj (List.cons.inj sf_23).2).1
  | .sar, .by1, .r, .o => (List.cons.inj (List.cons.inj sf_23).2).1
  | .sar, .by1, .r, .m => (List.cons.inj (List.cons.inj sf_23).2).1
  | .sar, .by1, .n, .z => (List.cons.inj (List.cons.inj sf_26).2).1
  | .sar, .by1, .n, .o => (List.cons.inj (List.cons.inj sf_26).2).1
  | .sar, .by1, .n, .m => (List.cons.inj (List.cons.inj sf_26).2).1
  | .rol, .one, .h, .z => (List.cons.inj sf_29).1
  | .rol, .one, .h, .o => (List.cons.inj sf_29).1
  | .rol, .one, .h, .m => (List.cons.inj sf_29).1
  | .rol, .one, .r, .z => (List.cons.inj sf_32).1
  | .rol, .one, .r, .o => (List.cons.inj sf_32).1
  | .rol, .one, .r, .m => (List.cons.inj sf_32).1
  | .rol, .one, .n, .z => (List.cons.inj sf_35).1
  | .rol, .one, .n, .o => (List.cons.inj sf_35).1
  | .rol, .one, .n, .m => (List.cons.inj sf_35).1
  | .rol, .im, .h, .z => (List.cons.inj sf_27).1
  | .rol, .im, .h, .o => (List.cons.inj (List.cons.inj sf_27).2).1
  | .rol, .im, .h, .m => (List.cons.inj (List.cons.inj (List.cons.inj sf_27).2).2).1
  | .rol, .im, .r, .z => (List.cons.inj sf_30).1
  | .rol, .im, .r, .o => (List.cons.inj (List.cons.inj sf_30).2).1
  | .rol, .im, .r, .m => (List.cons.inj (List.cons.inj (List.cons.inj sf_30).2).2).1
  | .rol, .im, .n, .z => (List.cons.inj sf_33).1
  | .rol, .im, .n, .o => (List.cons.inj (List.cons.inj sf_33).2).1
  | .rol, .im, .n, .m => (List.cons.inj (List.cons.inj (List.cons.inj sf_33).2).2).1
  | .rol, .reg, .h, .z => (List.cons.inj sf_28).1
  | .rol, .reg, .h, .o => (List.cons.inj (List.cons.inj sf_28).2).1
  | .rol, .reg, .h, .m => (List.cons.inj (List.cons.inj (List.cons.inj sf_28).2).2).1
  | .rol, .reg, .r, .z => (List.cons.inj sf_31).1
  | .rol, .reg, .r, .o => (List.cons.inj (List.cons.inj sf_31).2).1
  | .rol, .reg, .r, .m => (List.cons.inj (List.cons.inj (List.cons.inj sf_31).2).2).1
  | .rol, .reg, .n, .z => (List.cons.inj sf_34).1
  | .rol, .reg, .n, .o => (List.cons.inj (List.cons.inj sf_34).2).1
  | .rol, .reg, .n, .m => (List.cons.inj (List.cons.inj (List.cons.inj sf_34).2).2).1
  | .rol, .by1, .h, .z => (List.cons.inj (List.cons.inj sf_29).2).1
  | .rol, .by1, .h, .o => (List.cons.inj (List.cons.inj sf_29).2).1
  | .rol, .by1, .h, .m => (List.cons.inj (List.cons.inj sf_29).2).1
  | .rol, .by1, .r, .z => (List.cons.inj (List.cons.inj sf_32).2).1
  | .rol, .by1, .r, .o => (List.cons.inj (List.cons.inj sf_32).2).1
  | .rol, .by1, .r, .m => (List.cons.inj (List.cons.inj sf_32).2).1
  | .rol, .by1, .n, .z => (List.cons.inj (List.cons.inj sf_35).2).1
  | .rol, .by1, .n, .o => (List.cons.inj (List.cons.inj sf_35).2).1
  | .rol, .by1, .n, .m => (List.cons.inj (List.cons.inj sf_35).2).1
  | .ror, .one, .h, .z => (List.cons.inj sf_38).1
  | .ror, .one, .h, .o => (List.cons.inj sf_38).1
  | .ror, .one, .h, .m => (List.cons.inj sf_38).1
  | .ror, .one, .r, .z => (List.cons.inj sf_41).1
  | .ror, .one, .r, .o => (List.cons.inj sf_41).1
  | .ror, .one, .r, .m => (List.cons.inj sf_41).1
  | .ror, .one, .n, .z => (List.cons.inj sf_44).1
  | .ror, .one, .n, .o => (List.cons.inj sf_44).1
  | .ror, .one, .n, .m => (List.cons.inj sf_44).1
  | .ror, .im, .h, .z => (List.cons.inj sf_36).1
  | .ror, .im, .h, .o => (List.cons.inj (List.cons.inj sf_36).2).1
  | .ror, .im, .h, .m => (List.cons.inj (List.cons.inj (List.cons.inj sf_36).2).2).1
  | .ror, .im, .r, .z => (List.cons.inj sf_39).1
  | .ror, .im, .r, .o => (List.cons.inj (List.cons.inj sf_39).2).1
  | .ror, .im, .r, .m => (List.cons.inj (List.cons.inj (List.cons.inj sf_39).2).2).1
  | .ror, .im, .n, .z => (List.cons.inj sf_42).1
  | .ror, .im, .n, .o => (List.cons.inj (List.cons.inj sf_42).2).1
  | .ror, .im, .n, .m => (List.cons.inj (List.cons.inj (List.cons.inj sf_42).2).2).1
  | .ror, .reg, .h, .z => (List.cons.inj sf_37).1
  | .ror, .reg, .h, .o => (List.cons.inj (List.cons.inj sf_37).2).1
  | .ror, .reg, .h, .m => (List.cons.inj (List.cons.inj (List.cons.inj sf_37).2).2).1
  | .ror, .reg, .r, .z => (List.cons.inj sf_40).1
  | .ror, .reg, .r, .o => (List.cons.inj (List.cons.inj sf_40).2).1
  | .ror, .reg, .r, .m => (List.cons.inj (List.cons.inj (List.cons.inj sf_40).2).2).1
  | .ror, .reg, .n, .z => (List.cons.inj sf_43).1
  | .ror, .reg, .n, .o => (List.cons.inj (List.cons.inj sf_43).2).1
  | .ror, .reg, .n, .m => (List.cons.inj (List.cons.inj (List.cons.inj sf_43).2).2).1
  | .ror, .by1, .h, .z => (List.cons.inj (List.cons.inj sf_38).2).1
  | .ror, .by1, .h, .o => (List.cons.inj (List.cons.inj sf_38).2).1
  | .ror, .by1, .h, .m => (List.cons.inj (List.cons.inj sf_38).2).1
  | .ror, .by1, .r, .z => (List.cons.inj (List.cons.inj sf_41).2).1
  | .ror, .by1, .r, .o => (List.cons.inj (List.cons.inj sf_41).2).1
  | .ror, .by1, .r, .m => (List.cons.inj (List.cons.inj sf_41).2).1
  | .ror, .by1, .n, .z => (List.cons.inj (List.cons.inj sf_44).2).1
  | .ror, .by1, .n, .o => (List.cons.inj (List.cons.inj sf_44).2).1
  | .ror, .by1, .n, .m => (List.cons.inj (List.cons.inj sf_44).2).1

/-! ### What truths and bits are -/
theorem b_same (ρ : Env) (x y : SE) : ρ.b (.same x y) = (ρ.b x == ρ.b y) := by
  show decide (one01 (decide (x.eval ρ = 1) == decide (y.eval ρ = 1)) = 1) = _
  rw [one01_dec]; rfl
theorem b_and (ρ : Env) (x y : SE) : ρ.b (.and x y) = (ρ.b x && ρ.b y) := by
  show decide (one01 (decide (x.eval ρ = 1) && decide (y.eval ρ = 1)) = 1) = _
  rw [one01_dec]; rfl
theorem b_not (ρ : Env) (x : SE) : ρ.b (.not x) = !ρ.b x := by
  show decide (one01 (!decide (x.eval ρ = 1)) = 1) = _
  rw [one01_dec]; rfl
theorem b_eql (ρ : Env) (a b : SE) : ρ.b (.cmp .eql a b) = (a.eval ρ == b.eval ρ) := by
  show decide (one01 (a.eval ρ == b.eval ρ) = 1) = _
  rw [one01_dec]
theorem b_lss (ρ : Env) (a b : SE) : ρ.b (.cmp .lss a b) = decide (a.eval ρ < b.eval ρ) := by
  show decide (one01 (decide (a.eval ρ < b.eval ρ)) = 1) = _
  rw [one01_dec]
theorem b_bit (ρ : Env) (x : SE) (i : Nat) : ρ.b (.ext x i 1) = decide (x.eval ρ / 2 ^ i % 2 = 1) := rfl
theorem tbi (n i : Nat) : n.testBit i = decide ((n : Int) / 2 ^ i % 2 = 1) := by
  have e : ((n : Int) / 2 ^ i % 2) = ((n / 2 ^ i % 2 : Nat) : Int) := by simp
  rw [Nat.testBit_eq_decide_div_mod_eq, decide_eq_decide, e]
  omega
theorem xor_nat (ρ : Env) {a b : SE} {x y : Nat} (hx : x < 4294967296) (hy : y < 4294967296) (ha : a.eval ρ = x) (hb : b.eval ρ = y) : (sfX a b).eval ρ = ((x ^^^ y : Nat) : Int) := by
  show IntKind.u32.wrap ((BitVec.ofInt 32 (a.eval ρ) ^^^ BitVec.ofInt 32 (b.eval ρ)).toNat) = _
  rw [ha, hb, IntKind.wrap_u32, BitVec.toNat_xor, BitVec.ofInt_natCast, BitVec.ofInt_natCast, BitVec.toNat_ofNat, BitVec.toNat_ofNat, Nat.mod_eq_of_lt (show x < 2 ^ 32 from hx), Nat.mod_eq_of_lt (show y < 2 ^ 32 from hy)]
  have l : x ^^^ y < 2 ^ 32 := Nat.xor_lt_two_pow hx hy
  exact Int.emod_eq_of_lt (by omega) (by omega)
def parB (m : Nat) : Bool :=
  decide ((38505 : Int).fdiv (2 ^ (min (m / 16 ^^^ m % 16) 32)) / 2 ^ 0 % 2 = 1) == [m.testBit 0, m.testBit 1, m.testBit 2, m.testBit 3, m.testBit 4, m.testBit 5, m.testBit 6, m.testBit 7].foldl (fun c b => c == !b) true
theorem parTab : (List.range 256).all parB = true := by kernel_rfl
theorem parM {m : Nat} (h : m < 256) : parB m = true := List.all_eq_true.1 parTab m (List.mem_range.2 h)
theorem chain_b (ρ : Env) : ∀ (l : List SE) (c : SE), ρ.b (sfChain l c) = (l.map ρ.b).foldl (fun c b => c == !b) (ρ.b c)
  | [], c => rfl
  | b :: l, c => by
    show ρ.b (sfChain l (.same c (.not b))) = _
    rw [chain_b ρ l, b_same, b_not]; rfl
theorem sfPar_ok (ρ : Env) {r4 r : SE} {bs : List SE} (n : Nat) (hn : n < 4294967296) (h : r.eval ρ = n) (h4 : r4.eval ρ = (n / 16 : Nat))
    (hb : bs.map ρ.b = [n.testBit 0, n.testBit 1, n.testBit 2, n.testBit 3, n.testBit 4, n.testBit 5, n.testBit 6, n.testBit 7]) : ρ.b (sfPar r4 r bs) = true := by
  have hx : (sfX r4 r).eval ρ = ((n / 16 ^^^ n : Nat) : Int) := xor_nat ρ (by omega) hn h4 h
  have e : (SE.ext (sfX r4 r) 0 4).eval ρ = (((n % 256) / 16 ^^^ (n % 256) % 16 : Nat) : Int) := by
    show (sfX r4 r).eval ρ / 2 ^ 0 % 2 ^ 4 = _
    have q : (n / 16 ^^^ n) % 2 ^ 4 = (n % 256) / 16 ^^^ (n % 256) % 16 := by
      rw [Nat.xor_mod_two_pow]
      have q1 : n / 16 % 2 ^ 4 = n % 256 / 16 := by omega
      have q2 : n % 2 ^ 4 = n % 256 % 16 := by omega
      rw [q1, q2]
    rw [hx, ← q]
    generalize (n / 16 ^^^ n) = m
    simp only [Int.reducePow, Int.ediv_one]
    omega
  have t : ∀ i, i < 8 → n.testBit i = (n % 256).testBit i := fun i hi => by
    have q := Nat.testBit_mod_two_pow n 8 i
    rw [decide_eq_true hi, Bool.true_and] at q
    exact q.symm
  unfold sfPar
  rw [b_same, chain_b, hb, b_bit, t 0 (by decide), t 1 (by decide), t 2 (by decide), t 3 (by decide), t 4 (by decide), t 5 (by decide), t 6 (by decide), t 7 (by decide)]
  show (decide ((38505 : Int).fdiv (2 ^ (min ((SE.ext (sfX r4 r) 0 4).eval ρ).toNat 32)) / 2 ^ 0 % 2 = 1) == _) = true
  rw [e, Int.toNat_natCast]
  exact parM (Nat.mod_lt _ (by decide))
theorem sfZero_ok (ρ : Env) {r : SE} (h : 0 ≤ r.eval ρ) : ρ.b (sfZero r) = true := by
  unfold sfZero
  rw [b_same, b_lss, b_eql]
  show (decide (r.eval ρ < 1) == (r.eval ρ == 0)) = true
  by_cases g : r.eval ρ = 0
  · rw [g]; rfl
  · rw [decide_eq_false (by omega), beq_eq_false_iff_ne.2 g]; rfl
theorem ext_nonneg (ρ : Env) (x : SE) (s n : Nat) : 0 ≤ (SE.ext x s n).eval ρ := by
  show 0 ≤ x.eval ρ / 2 ^ s % 2 ^ n
  exact Int.emod_nonneg _ (by have := Int.pow_pos (n := 2) (m := n) (by decide); omega)
theorem bit01 (ρ : Env) (x : SE) (i : Nat) : (SE.ext x i 1).eval ρ = 0 ∨ (SE.ext x i 1).eval ρ = 1 := by
  show x.eval ρ / 2 ^ i % 2 = 0 ∨ x.eval ρ / 2 ^ i % 2 = 1
  omega
theorem sfOv_ok (ρ : Env) {a b c d : SE} (ha : a.eval ρ = 0 ∨ a.eval ρ = 1) (hb : b.eval ρ = 0 ∨ b.eval ρ = 1) (hc : c.eval ρ = a.eval ρ) (hd : d.eval ρ = b.eval ρ) : ρ.b (sfOv a b c d) = true := by
  unfold sfOv
  rw [b_same, b_not, b_same]
  show (decide (IntKind.u32.wrap ((BitVec.ofInt 32 (a.eval ρ) ^^^ BitVec.ofInt 32 (b.eval ρ)).toNat) = 1) == !(decide (c.eval ρ = 1) == decide (d.eval ρ = 1))) = true
  rw [hc, hd]
  rcases ha with h | h <;> rcases hb with g | g <;> (rw [h, g]; decide)
theorem same_ok (ρ : Env) {x y : SE} (h : x.eval ρ = y.eval ρ) : ρ.b (.same x y) = true := by
  rw [b_same]
  show (decide (x.eval ρ = 1) == decide (y.eval ρ = 1)) = true
  rw [h]; exact beq_self_eq_true _
theorem ext_congr (ρ : Env) {x y : SE} (h : x.eval ρ = y.eval ρ) (s n : Nat) : (SE.ext x s n).eval ρ = (SE.ext y s n).eval ρ := by
  show x.eval ρ / 2 ^ s % 2 ^ n = _
  rw [h]; rfl
theorem s_congr (ρ : Env) {c d : SE} (h : c.eval ρ = d.eval ρ) : (sfS c).eval ρ = (sfS d).eval ρ := by
  show (sfA.eval ρ).fdiv (2 ^ (min (c.eval ρ).toNat 32)) = _
  rw [h]; rfl
theorem l_congr (ρ : Env) {c d : SE} (h : c.eval ρ = d.eval ρ) : (sfL c).eval ρ = (sfL d).eval ρ := by
  show IntKind.u32.wrap (sfA.eval ρ * 2 ^ (min (c.eval ρ).toNat 32)) = _
  rw [h]; rfl
theorem u_congr (ρ : Env) (x : SE) {c d : SE} (h : c.eval ρ = d.eval ρ) : (sfU x c).eval ρ = (sfU x d).eval ρ := by
  show IntKind.u32.wrap ((BitVec.ofInt 32 (x.eval ρ) ||| BitVec.ofInt 32 (c.eval ρ)).toNat) = _
  rw [h]; rfl
theorem par_word (ρ : Env) {x : SE} (h0 : 0 ≤ x.eval ρ) (h1 : x.eval ρ < 4294967296) : ρ.b (sfPar (.ext x 4 28) x (sfBits x)) = true := by
  obtain ⟨n, hn⟩ := Int.eq_ofNat_of_zero_le h0
  rw [hn] at h1
  refine sfPar_ok ρ n (by omega) hn ?_ ?_
  · show x.eval ρ / 2 ^ 4 % 2 ^ 28 = _
    rw [hn]
    simp only [Int.reducePow]
    omega
  · simp only [sfBits, List.map_cons, List.map_nil, b_bit, tbi, hn]
theorem bit_eq (m s : Int) (i j : Nat) (h : m / 2 ^ i % 2 = s / 2 ^ j % 2) : decide (m / 2 ^ i % 2 = 1) = decide (s / 2 ^ j % 2 = 1) := by rw [h]
theorem par_sgn (ρ : Env) (x : SE) : ρ.b (sfPar (.ext x 4 28) (.ext x 0 32) (sfBits x)) = true := by
  obtain ⟨n, hn⟩ := Int.eq_ofNat_of_zero_le (a := x.eval ρ % 4294967296) (by omega)
  refine sfPar_ok ρ n (by omega) ?_ ?_ ?_
  · show x.eval ρ / 2 ^ 0 % 2 ^ 32 = _
    simp only [Int.reducePow, Int.ediv_one]
    exact hn
  · show x.eval ρ / 2 ^ 4 % 2 ^ 28 = _
    simp only [Int.reducePow]
    omega
  · have go : ∀ i, i < 8 → ρ.b (.ext x i 1) = n.testBit i := by
      intro i hi
      rw [b_bit, tbi]
      refine bit_eq _ _ i i ?_
      rw [← hn]
      match i, hi with
      | 0, _ => simp only [Int.reducePow]; omega
      | 1, _ => simp only [Int.reducePow]; omega
      | 2, _ => simp only [Int.reducePow]; omega
      | 3, _ => simp only [Int.reducePow]; omega
      | 4, _ => simp only [Int.reducePow]; omega
      | 5, _ => simp only [Int.reducePow]; omega
      | 6, _ => simp only [Int.reducePow]; omega
      | 7, _ => simp only [Int.reducePow]; omega
    simp only [sfBits, List.map_cons, List.map_nil]
    rw [go 0 (by decide), go 1 (by decide), go 2 (by decide), go 3 (by decide), go 4 (by decide), go 5 (by decide), go 6 (by decide), go 7 (by decide)]
/-- a bit that comes out is the same with a sign -/
theorem sgn_bit (a : Int) (c : Nat) (hc : c ≤ 31) : (a - 4294967296) / 2 ^ c % 2 = a / 2 ^ c % 2 := by
  have e : (4294967296 : Int) = 2 ^ c * (2 * 2 ^ (31 - c)) := by
    have q : (2 : Int) ^ (c + (1 + (31 - c))) = 2 ^ c * (2 ^ 1 * 2 ^ (31 - c)) := by rw [Int.pow_add, Int.pow_add]
    have q2 : c + (1 + (31 - c)) = 32 := by omega
    rw [q2] at q
    exact q
  have p : (2 : Int) ^ c ≠ 0 := by have := Int.pow_pos (n := 2) (m := c) (by decide); omega
  have e2 : a - 4294967296 = a + 2 ^ c * (-(2 * 2 ^ (31 - c))) := by rw [Int.mul_neg, ← e]; omega
  rw [e2, Int.add_mul_ediv_left _ _ p]
  omega

/-! ### What comes out -/
section
variable {ρ : Env} {a k : Int} (ha : sfA.eval ρ = a) (a0 : 0 ≤ a) (a1 : a < 4294967296) (hk : sfK.eval ρ = k) (k0 : 1 ≤ k) (k1 : k < 32)
include hk k0 k1 in
theorem e_back : sfBack.eval ρ = 32 - k := by
  show IntKind.u32.wrap (32 - sfK.eval ρ) = _
  rw [hk, IntKind.wrap_u32]; omega
include hk k0 k1 in
theorem e_back5 : sfBack5.eval ρ = sfBack.eval ρ := by
  rw [e_back hk k0 k1]
  show sfBack.eval ρ / 2 ^ 0 % 2 ^ 5 = _
  rw [e_back hk k0 k1]
  simp only [Int.reducePow, Int.ediv_one]
  omega
include hk k0 k1 in
theorem e_less : sfLess.eval ρ = k - 1 := by
  show IntKind.u32.wrap (sfK.eval ρ - 1) = _
  rw [hk, IntKind.wrap_u32]; omega
include hk k0 k1 in
theorem e_less5 : sfLess5.eval ρ = sfLess.eval ρ := by
  rw [e_less hk k0 k1]
  show IntKind.u32.wrap (sfK.eval ρ + 4294967295) / 2 ^ 0 % 2 ^ 5 = _
  rw [hk, IntKind.wrap_u32]
  simp only [Int.reducePow, Int.ediv_one]
  omega
theorem l_range (c : SE) : 0 ≤ (sfL c).eval ρ ∧ (sfL c).eval ρ < 4294967296 := by
  show 0 ≤ IntKind.u32.wrap _ ∧ IntKind.u32.wrap _ < _
  rw [IntKind.wrap_u32]; omega
include ha a0 a1 in
theorem s_range (c : SE) : 0 ≤ (sfS c).eval ρ ∧ (sfS c).eval ρ < 4294967296 := by
  show 0 ≤ (sfA.eval ρ).fdiv (2 ^ (min (c.eval ρ).toNat 32)) ∧ (sfA.eval ρ).fdiv (2 ^ (min (c.eval ρ).toNat 32)) < _
  generalize min (c.eval ρ).toNat 32 = m
  have p : (0 : Int) < 2 ^ m := Int.pow_pos (by decide)
  rw [ha, Int.fdiv_eq_ediv_of_nonneg _ (by omega)]
  have q := Int.ediv_nonneg a0 (show (0 : Int) ≤ 2 ^ m by omega)
  have q2 := Int.ediv_le_self (2 ^ m) a0
  omega
include ha a0 a1 hk k0 k1 in
theorem sar_carry : ρ.b (sfC .sar) = true := by
  refine same_ok ρ ?_
  show (sfA.eval ρ).fdiv (2 ^ (min (sfLess5.eval ρ).toNat 32)) / 2 ^ 0 % 2 ^ 1 = (sgn (sfA.eval ρ % 2 ^ 32) 32).fdiv (2 ^ (min (sfLess.eval ρ).toNat 32)) / 2 ^ 0 % 2 ^ 1
  rw [e_less5 hk k0 k1, e_less hk k0 k1, ha]
  have hm : min (k - 1).toNat 32 ≤ 31 := by omega
  generalize min (k - 1).toNat 32 = m at hm
  have p : (0 : Int) ≤ 2 ^ m := Int.le_of_lt (Int.pow_pos (by decide))
  rw [Int.fdiv_eq_ediv_of_nonneg _ p, Int.fdiv_eq_ediv_of_nonneg _ p]
  have e0 : a % 2 ^ 32 = a := Int.emod_eq_of_lt a0 a1
  rw [e0, sgn_def]
  simp only [Int.reducePow, Int.ediv_one]
  split
  · exact (sgn_bit a m hm).symm
  · rfl
include ha a0 a1 hk k0 k1 in
theorem sfC_ok : ∀ s : S5, ρ.b (sfC s) = true
  | .shl => same_ok ρ (ext_congr ρ (s_congr ρ (e_back5 hk k0 k1)) 0 1)
  | .shr => same_ok ρ (ext_congr ρ (s_congr ρ (e_less5 hk k0 k1)) 0 1)
  | .sar => sar_carry ha a0 a1 hk k0 k1
  | .rol => same_ok ρ (ext_congr ρ (u_congr ρ _ (s_congr ρ (e_back5 hk k0 k1))) 0 1)
  | .ror => same_ok ρ (ext_congr ρ (u_congr ρ _ (l_congr ρ (e_back5 hk k0 k1))) 31 1)
include ha a0 a1 in
theorem sfP_ok : ∀ s : S5, ρ.b (sfP s) = true
  | .shl => par_word ρ (l_range _).1 (l_range _).2
  | .shr => par_word ρ (s_range ha a0 a1 _).1 (s_range ha a0 a1 _).2
  | .sar => par_sgn ρ _
  | .rol => par_sgn ρ _
  | .ror => par_sgn ρ _
include ha a0 a1 in
theorem sfZ_ok : ∀ s : S5, ρ.b (sfZ s) = true
  | .shl => sfZero_ok ρ (l_range _).1
  | .shr => sfZero_ok ρ (s_range ha a0 a1 _).1
  | .sar => sfZero_ok ρ (ext_nonneg ρ _ _ _)
  | .rol => sfZero_ok ρ (ext_nonneg ρ _ _ _)
  | .ror => sfZero_ok ρ (ext_nonneg ρ _ _ _)
include ha a0 a1 hk k0 k1 in
theorem tm_ok (s : S5) : ρ.b (sfTm s) = true := by
  have c := sfC_ok ha a0 a1 hk k0 k1 s
  cases s with
  | rol => exact c
  | ror => exact c
  | shl => show ρ.b (.and (sfC .shl) (.and (sfP .shl) (sfZ .shl))) = true; rw [b_and, b_and, c, sfP_ok ha a0 a1, sfZ_ok ha a0 a1]; rfl
  | shr => show ρ.b (.and (sfC .shr) (.and (sfP .shr) (sfZ .shr))) = true; rw [b_and, b_and, c, sfP_ok ha a0 a1, sfZ_ok ha a0 a1]; rfl
  | sar => show ρ.b (.and (sfC .sar) (.and (sfP .sar) (sfZ .sar))) = true; rw [b_and, b_and, c, sfP_ok ha a0 a1, sfZ_ok ha a0 a1]; rfl
/-- bits of the sum of a bit's two neighbours -/
theorem two_bits (x : Nat) (y : Nat) (hx : x < 4) (hy : y < 2) : decide (((x ^^^ y : Nat) : Int) / 2 ^ 0 % 2 = 1) = !(decide (x % 2 = y)) := by
  match x, y, hx, hy with
  | 0, 0, _, _ => rfl
  | 1, 0, _, _ => rfl
  | 2, 0, _, _ => rfl
  | 3, 0, _, _ => rfl
  | 0, 1, _, _ => rfl
  | 1, 1, _, _ => rfl
  | 2, 1, _, _ => rfl
  | 3, 1, _, _ => rfl
theorem two_ok (ρ : Env) {p q u v : SE} (x y : Nat) (hx : x < 4) (hy : y < 2) (hp : p.eval ρ = x) (hq : q.eval ρ = y) (h : u.eval ρ = v.eval ρ ↔ x % 2 = y) : ρ.b (.same (.ext (sfX p q) 0 1) (.not (.cmp .eql u v))) = true := by
  rw [b_same, b_bit, b_not, b_eql, xor_nat ρ (by omega) (by omega) hp hq, two_bits x y hx hy]
  by_cases g : u.eval ρ = v.eval ρ
  · rw [decide_eq_true (h.1 g), beq_iff_eq.2 g]; rfl
  · rw [decide_eq_false (fun hh => g (h.2 hh)), beq_eq_false_iff_ne.2 g]; rfl
include ha a0 a1 hk k0 k1 in
theorem to_ok (s : S5) : ρ.b (sfTo s) = true := by
  have c := sfC_ok ha a0 a1 hk k0 k1 s
  cases s with
  | shr => exact tm_ok ha a0 a1 hk k0 k1 .shr
  | sar => exact tm_ok ha a0 a1 hk k0 k1 .sar
  | shl =>
    show ρ.b (.and (sfC .shl) (.and (sfP .shl) (.and (sfZ .shl) (sfOv (.ext (sfL sfK) 31 1) (.ext (sfS sfBack5) 0 1) (.ext (sfL sfK) 31 1) (.ext (sfS sfBack) 0 1))))) = true
    rw [b_and, b_and, b_and, c, sfP_ok ha a0 a1, sfZ_ok ha a0 a1, sfOv_ok ρ (bit01 ρ _ _) (bit01 ρ _ _) rfl (ext_congr ρ (s_congr ρ (e_back5 hk k0 k1).symm) 0 1)]
    rfl
  | rol =>
    show ρ.b (.and (sfC .rol) (sfOv (.ext sfRol1 31 1) (.ext sfRol1 0 1) (.ext sfRol2 31 1) (.ext sfRol2 0 1))) = true
    have e : sfRol2.eval ρ = sfRol1.eval ρ := u_congr ρ _ (s_congr ρ (e_back5 hk k0 k1).symm)
    rw [b_and, c, sfOv_ok ρ (bit01 ρ _ _) (bit01 ρ _ _) (ext_congr ρ e 31 1) (ext_congr ρ e 0 1)]
    rfl
  | ror =>
    show ρ.b (.and (sfC .ror) (.same (.ext (sfX (.ext sfRor1 30 2) (.ext sfRor1 31 1)) 0 1) (.not (.cmp .eql (.ext sfRor2 31 1) (.ext sfRor2 30 1))))) = true
    have e : sfRor2.eval ρ = sfRor1.eval ρ := u_congr ρ _ (l_congr ρ (e_back5 hk k0 k1).symm)
    have r0 : 0 ≤ sfRor1.eval ρ ∧ sfRor1.eval ρ < 4294967296 := by
      show 0 ≤ IntKind.u32.wrap _ ∧ IntKind.u32.wrap _ < _
      rw [IntKind.wrap_u32]; omega
    obtain ⟨n, hn⟩ := Int.eq_ofNat_of_zero_le r0.1
    rw [b_and, c, two_ok ρ (n / 1073741824 % 4) (n / 2147483648 % 2) (by omega) (by omega) ?_ ?_ ?_]
    · rfl
    · show sfRor1.eval ρ / 2 ^ 30 % 2 ^ 2 = _
      rw [hn]; simp only [Int.reducePow]; omega
    · show sfRor1.eval ρ / 2 ^ 31 % 2 ^ 1 = _
      rw [hn]; simp only [Int.reducePow]; omega
    · show sfRor2.eval ρ / 2 ^ 31 % 2 ^ 1 = sfRor2.eval ρ / 2 ^ 30 % 2 ^ 1 ↔ _
      rw [e, hn]; simp only [Int.reducePow]
      have r1 := r0.2
      rw [hn] at r1
      omega
include ha a0 a1 in
theorem t1_ok (s : S5) : ρ.b (sfT1 s) = true := by
  have bA : ∀ i, ρ.b (.ext sfA i 1) = decide (a / 2 ^ i % 2 = 1) := fun i => by rw [b_bit, ha]
  cases s with
  | rol => exact sfOv_ok ρ (bit01 ρ _ _) (bit01 ρ _ _) rfl rfl
  | sar =>
    show ρ.b (.and (sfPar (.ext (sfG (.lit 1)) 4 28) (.ext (sfG (.lit 1)) 0 32) (sfBits (sfG (.lit 1)))) (sfZero (.ext (sfG (.lit 1)) 0 32))) = true
    rw [b_and, par_sgn, sfZero_ok ρ (ext_nonneg ρ _ _ _)]
    rfl
  | shr =>
    show ρ.b (.and (sfPar (.ext sfA 5 27) (.ext sfA 1 31) [.ext sfA 1 1, .ext sfA 2 1, .ext sfA 3 1, .ext sfA 4 1, .ext sfA 5 1, .ext sfA 6 1, .ext sfA 7 1, .ext sfA 8 1]) (sfZero (.ext sfA 1 31))) = true
    obtain ⟨n, hn⟩ := Int.eq_ofNat_of_zero_le (a := a / 2) (by omega)
    have go : ∀ i, i < 8 → ρ.b (.ext sfA (i + 1) 1) = n.testBit i := by
      intro i hi
      rw [bA, tbi]
      refine bit_eq _ _ (i + 1) i ?_
      rw [← hn]
      match i, hi with
      | 0, _ => simp only [Nat.reduceAdd, Int.reducePow]; omega
      | 1, _ => simp only [Nat.reduceAdd, Int.reducePow]; omega
      | 2, _ => simp only [Nat.reduceAdd, Int.reducePow]; omega
      | 3, _ => simp only [Nat.reduceAdd, Int.reducePow]; omega
      | 4, _ => simp only [Nat.reduceAdd, Int.reducePow]; omega
      | 5, _ => simp only [Nat.reduceAdd, Int.reducePow]; omega
      | 6, _ => simp only [Nat.reduceAdd, Int.reducePow]; omega
      | 7, _ => simp only [Nat.reduceAdd, Int.reducePow]; omega
    rw [b_and, sfZero_ok ρ (ext_nonneg ρ _ _ _), sfPar_ok ρ n (by omega) ?_ ?_ ?_]
    · rfl
    · show sfA.eval ρ / 2 ^ 1 % 2 ^ 31 = _
      rw [ha]; simp only [Int.reducePow]; omega
    · show sfA.eval ρ / 2 ^ 5 % 2 ^ 27 = _
      rw [ha]; simp only [Int.reducePow]; omega
    · simp only [List.map_cons, List.map_nil]
      rw [go 0 (by decide), go 1 (by decide), go 2 (by decide), go 3 (by decide), go 4 (by decide), go 5 (by decide), go 6 (by decide), go 7 (by decide)]
  | shl =>
    show ρ.b (.and (sfPar (.ext sfA 3 28) sfD (.lit 0 :: [.ext sfA 0 1, .ext sfA 1 1, .ext sfA 2 1, .ext sfA 3 1, .ext sfA 4 1, .ext sfA 5 1, .ext sfA 6 1])) (.and (sfZero sfD) (sfOv (.ext sfA 30 1) (.ext sfA 31 1) (.ext sfA 30 1) (.ext sfA 31 1)))) = true
    have hd : sfD.eval ρ = 2 * (a % 2147483648) := by
      show 0 + 2 ^ 1 * (sfA.eval ρ / 2 ^ 0 % 2 ^ 31) = _
      rw [ha]; simp only [Int.reducePow, Int.ediv_one]; omega
    obtain ⟨n, hn⟩ := Int.eq_ofNat_of_zero_le (a := 2 * (a % 2147483648)) (by omega)
    have go : ∀ i, i < 7 → ρ.b (.ext sfA i 1) = n.testBit (i + 1) := by
      intro i hi
      rw [bA, tbi]
      refine bit_eq _ _ i (i + 1) ?_
      rw [← hn]
      match i, hi with
      | 0, _ => simp only [Nat.reduceAdd, Int.reducePow]; omega
      | 1, _ => simp only [Nat.reduceAdd, Int.reducePow]; omega
      | 2, _ => simp only [Nat.reduceAdd, Int.reducePow]; omega
      | 3, _ => simp only [Nat.reduceAdd, Int.reducePow]; omega
      | 4, _ => simp only [Nat.reduceAdd, Int.reducePow]; omega
      | 5, _ => simp only [Nat.reduceAdd, Int.reducePow]; omega
      | 6, _ => simp only [Nat.reduceAdd, Int.reducePow]; omega
    have g0 : ρ.b (.lit 0) = n.testBit 0 := by
      rw [tbi]
      show decide ((0 : Int) = 1) = _
      simp only [Int.reducePow, Int.ediv_one]
      exact decide_eq_decide.2 (by omega)
    rw [b_and, b_and, sfZero_ok ρ (by rw [hd]; omega), sfOv_ok ρ (bit01 ρ _ _) (bit01 ρ _ _) rfl rfl, sfPar_ok ρ n (by omega) (by rw [hd, hn]) ?_ ?_]
    · rfl
    · show sfA.eval ρ / 2 ^ 3 % 2 ^ 28 = _
      rw [ha]; simp only [Int.reducePow]; omega
    · simp only [List.map_cons, List.map_nil]
      rw [g0, go 0 (by decide), go 1 (by decide), go 2 (by decide), go 3 (by decide), go 4 (by decide), go 5 (by decide), go 6 (by decide)]
  | ror =>
    show ρ.b (.same (.ext (sfX (.cat (.ext sfA 31 1) 1 (.ext sfA 0 1)) (.ext sfA 0 1)) 0 1) (.not (.cmp .eql (.ext sfA 0 1) (.ext sfA 31 1)))) = true
    obtain ⟨n, hn⟩ := Int.eq_ofNat_of_zero_le a0
    refine two_ok ρ (n / 2147483648 % 2 + 2 * (n % 2)) (n % 2) (by omega) (by omega) ?_ ?_ ?_
    · show sfA.eval ρ / 2 ^ 31 % 2 ^ 1 + 2 ^ 1 * (sfA.eval ρ / 2 ^ 0 % 2 ^ 1) = _
      rw [ha, hn]; simp only [Int.reducePow, Int.ediv_one]; omega
    · show sfA.eval ρ / 2 ^ 0 % 2 ^ 1 = _
      rw [ha, hn]; simp only [Int.reducePow, Int.ediv_one]; omega
    · show sfA.eval ρ / 2 ^ 0 % 2 ^ 1 = sfA.eval ρ / 2 ^ 31 % 2 ^ 1 ↔ _
      rw [ha, hn]; simp only [Int.reducePow, Int.ediv_one]; omega
include hk k0 k1 in
theorem dr_ok (s : S5) : ∀ x t, (x, t) ∈ sfDR s → ρ.b x = t := by
  intro x t hx
  cases s with
  | rol =>
    simp only [sfDR, List.mem_cons, Prod.mk.injEq, List.not_mem_nil, or_false] at hx
    obtain ⟨rfl, rfl⟩ := hx
    rw [b_eql, beq_iff_eq]
    exact u_congr ρ _ (s_congr ρ (e_back5 hk k0 k1))
  | ror =>
    simp only [sfDR, List.mem_cons, Prod.mk.injEq, List.not_mem_nil, or_false] at hx
    obtain ⟨rfl, rfl⟩ := hx
    rw [b_eql, beq_iff_eq]
    exact u_congr ρ _ (l_congr ρ (e_back5 hk k0 k1))
  | shl => cases hx
  | shr => cases hx
  | sar => cases hx
include ha a0 a1 in
theorem d1_ok (s : S5) : ∀ x t, (x, t) ∈ sfD2 s → ρ.b x = t := by
  intro x t hx
  cases s with
  | ror =>
    simp only [sfD2, List.mem_cons, Prod.mk.injEq, List.not_mem_nil, or_false] at hx
    obtain ⟨rfl, rfl⟩ := hx
    rw [b_eql, beq_iff_eq]
    show sfA.eval ρ / 2 ^ 1 % 2 ^ 24 + 2 ^ 24 * (sfA.eval ρ / 2 ^ 25 % 2 ^ 7 + 2 ^ 7 * (sfA.eval ρ / 2 ^ 0 % 2 ^ 1)) = sfA.eval ρ / 2 ^ 1 % 2 ^ 31 + 2 ^ 31 * (sfA.eval ρ / 2 ^ 0 % 2 ^ 1)
    rw [ha]; simp only [Int.reducePow, Int.ediv_one]; omega
  | rol => cases hx
  | shl => cases hx
  | shr => cases hx
  | sar => cases hx
end

/-! ### Which way it is -/
def sfEnv (o a n h : Int) : Env := ⟨fun x => match x with | 0 => a | 1 => n | 2 => o | _ => h, fun _ => false⟩
def k3Of (ρ : Env) : K3 := if ρ.b sfH = true then .h else if ρ.b sfR = true then .r else .n
theorem k3_dec (ρ : Env) : ∀ x b, (x, b) ∈ (k3Of ρ).dec → ρ.b x = b := by
  intro x b hx
  unfold k3Of at hx
  split at hx
  · rename_i h
    simp only [K3.dec, List.mem_cons, Prod.mk.injEq, List.not_mem_nil, or_false] at hx
    obtain ⟨rfl, rfl⟩ := hx
    exact h
  · rename_i h
    split at hx
    · rename_i k
      simp only [K3.dec, List.mem_cons, Prod.mk.injEq, List.not_mem_nil, or_false] at hx
      rcases hx with ⟨rfl, rfl⟩ | ⟨rfl, rfl⟩
      · simpa using h
      · exact k
    · rename_i k
      simp only [K3.dec, List.mem_cons, Prod.mk.injEq, List.not_mem_nil, or_false] at hx
      rcases hx with ⟨rfl, rfl⟩ | ⟨rfl, rfl⟩
      · simpa using h
      · simpa using k
def shOf (ρ : Env) : Sh := if ρ.b sfK0 = true then .z else if ρ.b sfK1 = true then .o else .m
def s5Of (o : Int) : S5 := if o % 5 = 0 then .shl else if o % 5 = 1 then .shr else if o % 5 = 2 then .sar else if o % 5 = 3 then .rol else .ror
def hwOf (n h : Int) : Hw := if h % 3 = 0 then (if n = 1 then .one else .im) else if h % 3 = 1 then .reg else .by1
theorem s5_num {o : Int} (h : 0 ≤ o) : ((s5Of o).num : Int) = o % 5 := by
  unfold s5Of
  split
  · rename_i g; rw [g]; rfl
  · split
    · rename_i g; rw [g]; rfl
    · split
      · rename_i g; rw [g]; rfl
      · split
        · rename_i g; rw [g]; rfl
        · show (4 : Int) = _
          omega
theorem hw_num {n h : Int} (h0 : 0 ≤ h) : ((hwOf n h).num : Int) = h % 3 := by
  unfold hwOf
  split
  · rename_i g; rw [g]; split <;> rfl
  · split
    · rename_i g; rw [g]; rfl
    · show (2 : Int) = _
      omega
section
variable {o a n h : Int} (ho : 0 ≤ o ∧ o ≤ 255) (ha : 0 ≤ a ∧ a ≤ 4294967295) (hn : 0 ≤ n ∧ n ≤ 255) (hh : 0 ≤ h ∧ h ≤ 255)
include ha in
theorem evA : sfA.eval (sfEnv o a n h) = a := by
  show IntKind.u32.wrap a = a
  rw [IntKind.wrap_u32]; omega
include hn in
theorem evN : SE.eval (sfEnv o a n h) (.v .u8 1) = n := by
  show IntKind.u8.wrap n = n
  rw [IntKind.wrap_u8]; omega
include hn in
theorem evK : sfK.eval (sfEnv o a n h) = n % 32 := by
  show SE.eval (sfEnv o a n h) (.v .u8 1) / 2 ^ 0 % 2 ^ 5 = _
  rw [evN hn]
  simp only [Int.reducePow, Int.ediv_one]
include ho in
theorem evO : (sfEnv o a n h).i sfOp = o % 5 := by
  show (IntKind.u8.wrap o).tmod 5 = _
  rw [IntKind.wrap_u8, Int.emod_eq_of_lt ho.1 (by omega), Int.tmod_eq_emod_of_nonneg ho.1]
include hh in
theorem evH : (sfEnv o a n h).i sfHow = h % 3 := by
  show (IntKind.u8.wrap h).tmod 3 = _
  rw [IntKind.wrap_u8, Int.emod_eq_of_lt hh.1 (by omega), Int.tmod_eq_emod_of_nonneg hh.1]
include hn in
theorem sfDE_ok (s : S5) : ∀ x t, (x, t) ∈ sfDE s (shOf (sfEnv o a n h)) → (sfEnv o a n h).b x = t := by
  intro x t hx
  have bk0 : (sfEnv o a n h).b sfK0 = (n % 32 == 0) := by unfold sfK0; rw [b_eql, evK hn]; rfl
  unfold shOf at hx
  split at hx
  · rename_i g
    simp only [sfDE, List.mem_cons, Prod.mk.injEq, List.not_mem_nil, or_false] at hx
    obtain ⟨rfl, rfl⟩ := hx
    exact g
  · rename_i g
    have g2 : n % 32 ≠ 0 := by rw [bk0] at g; simpa using g
    have dr := dr_ok (ρ := sfEnv o a n h) (evK hn) (by omega) (by omega) s
    split at hx
    · rename_i g3
      simp only [sfDE, List.mem_cons, Prod.mk.injEq] at hx
      rcases hx with ⟨rfl, rfl⟩ | ⟨rfl, rfl⟩ | hx
      · simpa using g
      · exact g3
      · exact dr x t hx
    · rename_i g3
      simp only [sfDE, List.mem_cons, Prod.mk.injEq] at hx
      rcases hx with ⟨rfl, rfl⟩ | ⟨rfl, rfl⟩ | hx
      · simpa using g
      · simpa using g3
      · exact dr x t hx
include ha hn in
theorem sfE_ok (s : S5) (ι : Fx.Loc) : (sfE s (shOf (sfEnv o a n h))).den (sfEnv o a n h) ι = .bool true := by
  have bk0 : (sfEnv o a n h).b sfK0 = (n % 32 == 0) := by unfold sfK0; rw [b_eql, evK hn]; rfl
  unfold shOf
  split
  · rfl
  · rename_i g
    have g2 : n % 32 ≠ 0 := by rw [bk0] at g; simpa using g
    split
    · show Value.bool (xor ((sfEnv o a n h).b (sfTo s)) false) = _
      rw [to_ok (evA ha) ha.1 (by omega) (evK hn) (by omega) (by omega) s]; rfl
    · show Value.bool (xor ((sfEnv o a n h).b (sfTm s)) false) = _
      rw [tm_ok (evA ha) ha.1 (by omega) (evK hn) (by omega) (by omega) s]; rfl
include ho hh in
theorem num_ok (s : S5) (w : Hw) (es : (s.num : Int) = o % 5) (ew : (w.num : Int) = h % 3) : ∀ x m, (x, m) ∈ sfNum s w → (sfEnv o a n h).i x = m := by
  intro x m hx
  have key : (x, m) = (sfOp, (s.num : Int)) ∨ (x, m) = (sfHow, (w.num : Int)) := by
    revert hx
    cases s <;> cases w <;> simp only [sfNum, S5.num, Hw.num, List.mem_cons, List.not_mem_nil, or_false] <;> intro hx <;> (repeat' (first | exact .inl hx | exact .inr hx | (rcases hx with hx | hx)))
  rcases key with key | key
  · cases key
    rw [evO ho, es]
  · cases key
    rw [evH hh, ew]
include ho ha hn hh in
theorem sfMet_ok : (sfMetT (s5Of o) (hwOf n h) (k3Of (sfEnv o a n h)) (shOf (sfEnv o a n h))).ok (sfEnv o a n h) (isTr (sfEnv o a n h)) := by
  refine ⟨fun e he => (by cases he), fun x t hx => ?_, fun x m hx => num_ok ho hh _ _ (s5_num ho.1) (hw_num (n := n) hh.1) x m hx, fun ι => ?_⟩
  · have hx : (x, t) ∈ sfDecT (s5Of o) (hwOf n h) (k3Of (sfEnv o a n h)) (shOf (sfEnv o a n h)) := hx
    have d1 := d1_ok (ρ := sfEnv o a n h) (evA ha) ha.1 (by omega) (s5Of o)
    have hw : hwOf n h = .im → n ≠ 1 := by
      intro q
      unfold hwOf at q
      split at q
      · split at q
        · cases q
        · assumption
      · split at q <;> cases q
    generalize hwOf n h = w at hx hw
    cases w with
    | one =>
      rcases List.mem_append.1 hx with hx | hx
      · exact k3_dec _ x t hx
      · exact d1 x t hx
    | by1 =>
      rcases List.mem_append.1 hx with hx | hx
      · exact k3_dec _ x t hx
      · exact d1 x t hx
    | im =>
      rcases List.mem_cons.1 hx with hx | hx
      · cases hx
        unfold sfN1
        rw [b_eql, evN hn]
        exact beq_eq_false_iff_ne.2 (hw rfl)
      · rcases List.mem_append.1 hx with hx | hx
        · exact k3_dec _ x t hx
        · exact sfDE_ok hn _ x t hx
    | reg =>
      rcases List.mem_append.1 hx with hx | hx
      · exact k3_dec _ x t hx
      · exact sfDE_ok hn _ x t hx
  · show (sfOut (s5Of o) (hwOf n h) (shOf (sfEnv o a n h))).den (sfEnv o a n h) ι = _
    have t1 : Value.bool (xor ((sfEnv o a n h).b (sfT1 (s5Of o))) false) = .bool true := by
      rw [t1_ok (evA ha) ha.1 (by omega) (s5Of o)]; rfl
    cases hwOf n h with
    | one => exact t1
    | by1 => exact t1
    | im => exact sfE_ok ha hn _ ι
    | reg => exact sfE_ok ha hn _ ι
include ho ha hn hh in
theorem sf_args : ((sfArgs (hwOf n h)).map (V.den (sfEnv o a n h) noloc)).toArray = #[.int .u8 o, .int .u32 a, .int .u8 n, .int .u8 h] := by
  have e0 : IntKind.u8.wrap o = o := by rw [IntKind.wrap_u8, Int.emod_eq_of_lt ho.1 (by omega)]
  have e3 : IntKind.u8.wrap h = h := by rw [IntKind.wrap_u8, Int.emod_eq_of_lt hh.1 (by omega)]
  have e1 : IntKind.u32.wrap a = a := evA (o := o) (n := n) (h := h) ha
  have e2 : IntKind.u8.wrap n = n := evN (o := o) (a := a) (h := h) hn
  have hw : hwOf n h = .one → n = 1 := by
    intro q
    unfold hwOf at q
    split at q
    · split at q
      · assumption
      · cases q
    · split at q <;> cases q
  generalize hwOf n h = w at hw
  cases w with
  | one =>
    show #[Value.int .u8 (IntKind.u8.wrap o), Value.int .u32 (IntKind.u32.wrap a), Value.int .u8 1, Value.int .u8 (IntKind.u8.wrap h)] = _
    rw [e0, e1, e3, hw rfl]
  | im =>
    show #[Value.int .u8 (IntKind.u8.wrap o), Value.int .u32 (IntKind.u32.wrap a), Value.int .u8 (IntKind.u8.wrap n), Value.int .u8 (IntKind.u8.wrap h)] = _
    rw [e0, e1, e2, e3]
  | reg =>
    show #[Value.int .u8 (IntKind.u8.wrap o), Value.int .u32 (IntKind.u32.wrap a), Value.int .u8 (IntKind.u8.wrap n), Value.int .u8 (IntKind.u8.wrap h)] = _
    rw [e0, e1, e2, e3]
  | by1 =>
    show #[Value.int .u8 (IntKind.u8.wrap o), Value.int .u32 (IntKind.u32.wrap a), Value.int .u8 (IntKind.u8.wrap n), Value.int .u8 (IntKind.u8.wrap h)] = _
    rw [e0, e1, e2, e3]
end
theorem sf_bare (w : Hw) : ∀ x ∈ sfArgs w, x.bare := by
  intro x hx
  cases w <;> simp only [sfArgs, List.mem_cons, List.not_mem_nil, or_false] at hx <;> rcases hx with rfl | rfl | rfl | rfl <;> first | exact fun _ _ => trivial | exact fun _ _ => (by decide : 1 < M8)
theorem wf_u32' {a : Int} (h : (Lit.int .u32 a).wf = true) : 0 ≤ a ∧ a ≤ 4294967295 := by
  simpa [Lit.wf, IntKind.has, IntKind.min, IntKind.max, IntKind.bits, IntKind.signed] using h
theorem wf_u8' {a : Int} (h : (Lit.int .u8 a).wf = true) : 0 ≤ a ∧ a ≤ 255 := by
  simpa [Lit.wf, IntKind.has, IntKind.min, IntKind.max, IntKind.bits, IntKind.signed] using h
theorem WholeShifts_walk (a0 a1 a2 a3 : Int) (w0 : (Lit.int .u8 a0).wf = true) (w1 : (Lit.int .u32 a1).wf = true) (w2 : (Lit.int .u8 a2).wf = true) (w3 : (Lit.int .u8 a3).wf = true) (w : World) :
    Calls Tryz.prog 9 #[.int .u8 a0, .int .u32 a1, .int .u8 a2, .int .u8 a3] w fun e w' => e = .returned (.bool true) ∧ Below w.heap.size w w' := by
  have h0 := wf_u8' w0
  have h1 := wf_u32' w1
  have h2 := wf_u8' w2
  have h3 := wf_u8' w3
  rw [← sf_args h0 h1 h2 h3]
  exact law_way (ρ := sfEnv a0 a1 a2 a3) (sf_all _ _ _ _) (sfMet_ok h0 h1 h2 h3) (sf_bare _) w
end Go.Proofs.YtgeankpiediebaaGreat
