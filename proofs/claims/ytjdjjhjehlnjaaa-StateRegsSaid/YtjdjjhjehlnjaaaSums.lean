/-
  Summaries of layer 7's functions, printed by a program of this repo.
-/
import Derived.Test.YtjdjjhjehlnjaaaP7
namespace Go.Proofs.Ytjdjjhjehlnjaaa
open Go.Sx
set_option linter.unusedVariables false
set_option maxRecDepth 100000
def condF (c p a z s o : Bool) (cc : Int) : Bool :=
  let k := cc % 16
  let x := if k / 2 = 0 then o else if k / 2 = 1 then c else if k / 2 = 2 then z else if k / 2 = 3 then (c || z) else if k / 2 = 4 then s else if k / 2 = 5 then p else if k / 2 = 6 then (s != o) else (z || (s != o))
  x != (k % 2 == 1)
def wordF (c p a z s o : Bool) : Int :=
  2 + (if c then 1 else 0) + (if p then 4 else 0) + (if a then 16 else 0) + (if z then 64 else 0) + (if s then 128 else 0) + (if o then 2048 else 0)
def phiI (f : Nat) (vs : List Value) (j : Nat) : Int := match f, vs with
  | 28, [.bool b] => if b then 1 else 0
  | 19, [.bool c, .bool p, .bool a, .bool z, .bool s, .bool o] => wordF c p a z s o
  | 25, [.bool c, .bool p, .bool a, .bool z, .bool s, .bool o] => wordF c p a z s o
  | _, _ => 0
def phiB (f : Nat) (vs : List Value) (j : Nat) : Bool := match f, vs with
  | 17, [.bool c, .bool p, .bool a, .bool z, .bool s, .bool o, .int _ cc] => condF c p a z s o cc
  | 24, [.bool c, .bool p, .bool a, .bool z, .bool s, .bool o, .int _ cc] => condF c p a z s o cc
  | _, _ => false
def phi : Phi := ⟨phiI, phiB, fun _ _ _ => .empty⟩
def sTruth : Sum := ⟨[(false, [.rb])], [.ri .u32], [(false, 1)], false, false⟩
def sKnown : Sum := ⟨[], [.rl (.bool true)], [(false, 1)], false, false⟩
def sWord : Sum := ⟨[(true, [.rb, .rb, .rb, .rb, .rb, .rb])], [.ri .u32], [(false, 1)], false, false⟩
def sCond : Sum := ⟨[(true, [.rb, .rb, .rb, .rb, .rb, .rb]), (false, [.ri .i64])], [.rb], [(false, 1)], false, false⟩
noncomputable def C0 : Ctx := ⟨tys, fns, .e⟩
theorem C0_ok : CtxOk Try.prog phi C0 := ⟨tys_ok, fns_ok, sumsOk_e, mix_ok⟩
theorem truth_true   (w : World) :
    Calls Try.prog 28 #[(.bool true)] w fun e w' => e = .returned (.int .u32 1) ∧ RowKit.Below w.heap.size w w' :=
  wayp C0_ok (lf := 1000) (d := 50) (args := [(.c (.lit (.bool true)))]) (ds := []) (nx := 0) (v := (.w (.c (.lit (.int .u32 1)))))
    (log := [])
    (ρ := env0)
    (Pr := ((.int .u32 1) : Value) = (.int .u32 1))
    (by kernel_rfl) (by kernel_rfl) (by kernel_rfl) (by kernel_rfl) rfl w
theorem truth_false   (w : World) :
    Calls Try.prog 28 #[(.bool false)] w fun e w' => e = .returned (.int .u32 0) ∧ RowKit.Below w.heap.size w w' :=
  wayp C0_ok (lf := 1000) (d := 50) (args := [(.c (.lit (.bool false)))]) (ds := []) (nx := 0) (v := (.w (.c (.lit (.int .u32 0)))))
    (log := [])
    (ρ := env0)
    (Pr := ((.int .u32 0) : Value) = (.int .u32 0))
    (by kernel_rfl) (by kernel_rfl) (by kernel_rfl) (by kernel_rfl) rfl w
theorem word_0   (w : World) :
    Calls Try.prog 19 #[(.agg #[(.bool false), (.bool false), (.bool false), (.bool false), (.bool false), (.bool false)])] w fun e w' => e = .returned (.int .u32 2) ∧ RowKit.Below w.heap.size w w' :=
  wayp C0_ok (lf := 1000) (d := 50) (args := [(.agg [(.lit (.bool false)), (.lit (.bool false)), (.lit (.bool false)), (.lit (.bool false)), (.lit (.bool false)), (.lit (.bool false))])]) (ds := []) (nx := 0) (v := (.w (.c (.lit (.int .u32 2)))))
    (log := [])
    (ρ := env0)
    (Pr := ((.int .u32 2) : Value) = (.int .u32 2))
    (by kernel_rfl) (by kernel_rfl) (by kernel_rfl) (by kernel_rfl) rfl w
theorem word_1   (w : World) :
    Calls Try.prog 19 #[(.agg #[(.bool true), (.bool false), (.bool false), (.bool false), (.bool false), (.bool false)])] w fun e w' => e = .returned (.int .u32 3) ∧ RowKit.Below w.heap.size w w' :=
  wayp C0_ok (lf := 1000) (d := 50) (args := [(.agg [(.lit (.bool true)), (.lit (.bool false)), (.lit (.bool false)), (.lit (.bool false)), (.lit (.bool false)), (.lit (.bool false))])]) (ds := []) (nx := 0) (v := (.w (.c (.lit (.int .u32 3)))))
    (log := [])
    (ρ := env0)
    (Pr := ((.int .u32 3) : Value) = (.int .u32 3))
    (by kernel_rfl) (by kernel_rfl) (by kernel_rfl) (by kernel_rfl) rfl w
theorem word_2   (w : World) :
    Calls Try.prog 19 #[(.agg #[(.bool false), (.bool true), (.bool false), (.bool false), (.bool false), (.bool false)])] w fun e w' => e = .returned (.int .u32 6) ∧ RowKit.Below w.heap.size w w' :=
  wayp C0_ok (lf := 1000) (d := 50) (args := [(.agg [(.lit (.bool false)), (.lit (.bool true)), (.lit (.bool false)), (.lit (.bool false)), (.lit (.bool false)), (.lit (.bool false))])]) (ds := []) (nx := 0) (v := (.w (.c (.lit (.int .u32 6)))))
    (log := [])
    (ρ := env0)
    (Pr := ((.int .u32 6) : Value) = (.int .u32 6))
    (by kernel_rfl) (by kernel_rfl) (by kernel_rfl) (by kernel_rfl) rfl w
theorem word_3   (w : World) :
    Calls Try.prog 19 #[(.agg #[(.bool true), (.bool true), (.bool false), (.bool false), (.bool false), (.bool false)])] w fun e w' => e = .returned (.int .u32 7) ∧ RowKit.Below w.heap.size w w' :=
  wayp C0_ok (lf := 1000) (d := 50) (args := [(.agg [(.lit (.bool true)), (.lit (.bool true)), (.lit (.bool false)), (.lit (.bool false)), (.lit (.bool false)), (.lit (.bool false))])]) (ds := []) (nx := 0) (v := (.w (.c (.lit (.int .u32 7)))))
    (log := [])
    (ρ := env0)
    (Pr := ((.int .u32 7) : Value) = (.int .u32 7))
    (by kernel_rfl) (by kernel_rfl) (by kernel_rfl) (by kernel_rfl) rfl w
theorem word_4   (w : World) :
    Calls Try.prog 19 #[(.agg #[(.bool false), (.bool false), (.bool true), (.bool false), (.bool false), (.bool false)])] w fun e w' => e = .returned (.int .u32 18) ∧ RowKit.Below w.heap.size w w' :=
  wayp C0_ok (lf := 1000) (d := 50) (args := [(.agg [(.lit (.bool false)), (.lit (.bool false)), (.lit (.bool true)), (.lit (.bool false)), (.lit (.bool false)), (.lit (.bool false))])]) (ds := []) (nx := 0) (v := (.w (.c (.lit (.int .u32 18)))))
    (log := [])
    (ρ := env0)
    (Pr := ((.int .u32 18) : Value) = (.int .u32 18))
    (by kernel_rfl) (by kernel_rfl) (by kernel_rfl) (by kernel_rfl) rfl w
theorem word_5   (w : World) :
    Calls Try.prog 19 #[(.agg #[(.bool true), (.bool false), (.bool true), (.bool false), (.bool false), (.bool false)])] w fun e w' => e = .returned (.int .u32 19) ∧ RowKit.Below w.heap.size w w' :=
  wayp C0_ok (lf := 1000) (d := 50) (args := [(.agg [(.lit (.bool true)), (.lit (.bool false)), (.lit (.bool true)), (.lit (.bool false)), (.lit (.bool false)), (.lit (.bool false))])]) (ds := []) (nx := 0) (v := (.w (.c (.lit (.int .u32 19)))))
    (log := [])
    (ρ := env0)
    (Pr := ((.int .u32 19) : Value) = (.int .u32 19))
    (by kernel_rfl) (by kernel_rfl) (by kernel_rfl) (by kernel_rfl) rfl w
theorem word_6   (w : World) :
    Calls Try.prog 19 #[(.agg #[(.bool false), (.bool true), (.bool true), (.bool false), (.bool false), (.bool false)])] w fun e w' => e = .returned (.int .u32 22) ∧ RowKit.Below w.heap.size w w' :=
  wayp C0_ok (lf := 1000) (d := 50) (args := [(.agg [(.lit (.bool false)), (.lit (.bool true)), (.lit (.bool true)), (.lit (.bool false)), (.lit (.bool false)), (.lit (.bool false))])]) (ds := []) (nx := 0) (v := (.w (.c (.lit (.int .u32 22)))))
    (log := [])
    (ρ := env0)
    (Pr := ((.int .u32 22) : Value) = (.int .u32 22))
    (by kernel_rfl) (by kernel_rfl) (by kernel_rfl) (by kernel_rfl) rfl w
theorem word_7   (w : World) :
    Calls Try.prog 19 #[(.agg #[(.bool true), (.bool true), (.bool true), (.bool false), (.bool false), (.bool false)])] w fun e w' => e = .returned (.int .u32 23) ∧ RowKit.Below w.heap.size w w' :=
  wayp C0_ok (lf := 1000) (d := 50) (args := [(.agg [(.lit (.bool true)), (.lit (.bool true)), (.lit (.bool true)), (.lit (.bool false)), (.lit (.bool false)), (.lit (.bool false))])]) (ds := []) (nx := 0) (v := (.w (.c (.lit (.int .u32 23)))))
    (log := [])
    (ρ := env0)
    (Pr := ((.int .u32 23) : Value) = (.int .u32 23))
    (by kernel_rfl) (by kernel_rfl) (by kernel_rfl) (by kernel_rfl) rfl w
theorem word_8   (w : World) :
    Calls Try.prog 19 #[(.agg #[(.bool false), (.bool false), (.bool false), (.bool true), (.bool false), (.bool false)])] w fun e w' => e = .returned (.int .u32 66) ∧ RowKit.Below w.heap.size w w' :=
  wayp C0_ok (lf := 1000) (d := 50) (args := [(.agg [(.lit (.bool false)), (.lit (.bool false)), (.lit (.bool false)), (.lit (.bool true)), (.lit (.bool false)), (.lit (.bool false))])]) (ds := []) (nx := 0) (v := (.w (.c (.lit (.int .u32 66)))))
    (log := [])
    (ρ := env0)
    (Pr := ((.int .u32 66) : Value) = (.int .u32 66))
    (by kernel_rfl) (by kernel_rfl) (by kernel_rfl) (by kernel_rfl) rfl w
theorem word_9   (w : World) :
    Calls Try.prog 19 #[(.agg #[(.bool true), (.bool false), (.bool false), (.bool true), (.bool false), (.bool false)])] w fun e w' => e = .returned (.int .u32 67) ∧ RowKit.Below w.heap.size w w' :=
  wayp C0_ok (lf := 1000) (d := 50) (args := [(.agg [(.lit (.bool true)), (.lit (.bool false)), (.lit (.bool false)), (.lit (.bool true)), (.lit (.bool false)), (.lit (.bool false))])]) (ds := []) (nx := 0) (v := (.w (.c (.lit (.int .u32 67)))))
    (log := [])
    (ρ := env0)
    (Pr := ((.int .u32 67) : Value) = (.int .u32 67))
    (by kernel_rfl) (by kernel_rfl) (by kernel_rfl) (by kernel_rfl) rfl w
theorem word_10   (w : World) :
    Calls Try.prog 19 #[(.agg #[(.bool false), (.bool true), (.bool false), (.bool true), (.bool false), (.bool false)])] w fun e w' => e = .returned (.int .u32 70) ∧ RowKit.Below w.heap.size w w' :=
  wayp C0_ok (lf := 1000) (d := 50) (args := [(.agg [(.lit (.bool false)), (.lit (.bool true)), (.lit (.bool false)), (.lit (.bool true)), (.lit (.bool false)), (.lit (.bool false))])]) (ds := []) (nx := 0) (v := (.w (.c (.lit (.int .u32 70)))))
    (log := [])
    (ρ := env0)
    (Pr := ((.int .u32 70) : Value) = (.int .u32 70))
    (by kernel_rfl) (by kernel_rfl) (by kernel_rfl) (by kernel_rfl) rfl w
theorem word_11   (w : World) :
    Calls Try.prog 19 #[(.agg #[(.bool true), (.bool true), (.bool false), (.bool true), (.bool false), (.bool false)])] w fun e w' => e = .returned (.int .u32 71) ∧ RowKit.Below w.heap.size w w' :=
  wayp C0_ok (lf := 1000) (d := 50) (args := [(.agg [(.lit (.bool true)), (.lit (.bool true)), (.lit (.bool false)), (.lit (.bool true)), (.lit (.bool false)), (.lit (.bool false))])]) (ds := []) (nx := 0) (v := (.w (.c (.lit (.int .u32 71)))))
    (log := [])
    (ρ := env0)
    (Pr := ((.int .u32 71) : Value) = (.int .u32 71))
    (by kernel_rfl) (by kernel_rfl) (by kernel_rfl) (by kernel_rfl) rfl w
theorem word_12   (w : World) :
    Calls Try.prog 19 #[(.agg #[(.bool false), (.bool false), (.bool true), (.bool true), (.bool false), (.bool false)])] w fun e w' => e = .returned (.int .u32 82) ∧ RowKit.Below w.heap.size w w' :=
  wayp C0_ok (lf := 1000) (d := 50) (args := [(.agg [(.lit (.bool false)), (.lit (.bool false)), (.lit (.bool true)), (.lit (.bool true)), (.lit (.bool false)), (.lit (.bool false))])]) (ds := []) (nx := 0) (v := (.w (.c (.lit (.int .u32 82)))))
    (log := [])
    (ρ := env0)
    (Pr := ((.int .u32 82) : Value) = (.int .u32 82))
    (by kernel_rfl) (by kernel_rfl) (by kernel_rfl) (by kernel_rfl) rfl w
theorem word_13   (w : World) :
    Calls Try.prog 19 #[(.agg #[(.bool true), (.bool false), (.bool true), (.bool true), (.bool false), (.bool false)])] w fun e w' => e = .returned (.int .u32 83) ∧ RowKit.Below w.heap.size w w' :=
  wayp C0_ok (lf := 1000) (d := 50) (args := [(.agg [(.lit (.bool true)), (.lit (.bool false)), (.lit (.bool true)), (.lit (.bool true)), (.lit (.bool false)), (.lit (.bool false))])]) (ds := []) (nx := 0) (v := (.w (.c (.lit (.int .u32 83)))))
    (log := [])
    (ρ := env0)
    (Pr := ((.int .u32 83) : Value) = (.int .u32 83))
    (by kernel_rfl) (by kernel_rfl) (by kernel_rfl) (by kernel_rfl) rfl w
theorem word_14   (w : World) :
    Calls Try.prog 19 #[(.agg #[(.bool false), (.bool true), (.bool true), (.bool true), (.bool false), (.bool false)])] w fun e w' => e = .returned (.int .u32 86) ∧ RowKit.Below w.heap.size w w' :=
  wayp C0_ok (lf := 1000) (d := 50) (args := [(.agg [(.lit (.bool false)), (.lit (.bool true)), (.lit (.bool true)), (.lit (.bool true)), (.lit (.bool false)), (.lit (.bool false))])]) (ds := []) (nx := 0) (v := (.w (.c (.lit (.int .u32 86)))))
    (log := [])
    (ρ := env0)
    (Pr := ((.int .u32 86) : Value) = (.int .u32 86))
    (by kernel_rfl) (by kernel_rfl) (by kernel_rfl) (by kernel_rfl) rfl w
theorem word_15   (w : World) :
    Calls Try.prog 19 #[(.agg #[(.bool true), (.bool true), (.bool true), (.bool true), (.bool false), (.bool false)])] w fun e w' => e = .returned (.int .u32 87) ∧ RowKit.Below w.heap.size w w' :=
  wayp C0_ok (lf := 1000) (d := 50) (args := [(.agg [(.lit (.bool true)), (.lit (.bool true)), (.lit (.bool true)), (.lit (.bool true)), (.lit (.bool false)), (.lit (.bool false))])]) (ds := []) (nx := 0) (v := (.w (.c (.lit (.int .u32 87)))))
    (log := [])
    (ρ := env0)
    (Pr := ((.int .u32 87) : Value) = (.int .u32 87))
    (by kernel_rfl) (by kernel_rfl) (by kernel_rfl) (by kernel_rfl) rfl w
theorem word_16   (w : World) :
    Calls Try.prog 19 #[(.agg #[(.bool false), (.bool false), (.bool false), (.bool false), (.bool true), (.bool false)])] w fun e w' => e = .returned (.int .u32 130) ∧ RowKit.Below w.heap.size w w' :=
  wayp C0_ok (lf := 1000) (d := 50) (args := [(.agg [(.lit (.bool false)), (.lit (.bool false)), (.lit (.bool false)), (.lit (.bool false)), (.lit (.bool true)), (.lit (.bool false))])]) (ds := []) (nx := 0) (v := (.w (.c (.lit (.int .u32 130)))))
    (log := [])
    (ρ := env0)
    (Pr := ((.int .u32 130) : Value) = (.int .u32 130))
    (by kernel_rfl) (by kernel_rfl) (by kernel_rfl) (by kernel_rfl) rfl w
theorem word_17   (w : World) :
    Calls Try.prog 19 #[(.agg #[(.bool true), (.bool false), (.bool false), (.bool false), (.bool true), (.bool false)])] w fun e w' => e = .returned (.int .u32 131) ∧ RowKit.Below w.heap.size w w' :=
  wayp C0_ok (lf := 1000) (d := 50) (args := [(.agg [(.lit (.bool true)), (.lit (.bool false)), (.lit (.bool false)), (.lit (.bool false)), (.lit (.bool true)), (.lit (.bool false))])]) (ds := []) (nx := 0) (v := (.w (.c (.lit (.int .u32 131)))))
    (log := [])
    (ρ := env0)
    (Pr := ((.int .u32 131) : Value) = (.int .u32 131))
    (by kernel_rfl) (by kernel_rfl) (by kernel_rfl) (by kernel_rfl) rfl w
theorem word_18   (w : World) :
    Calls Try.prog 19 #[(.agg #[(.bool false), (.bool true), (.bool false), (.bool false), (.bool true), (.bool false)])] w fun e w' => e = .returned (.int .u32 134) ∧ RowKit.Below w.heap.size w w' :=
  wayp C0_ok (lf := 1000) (d := 50) (args := [(.agg [(.lit (.bool false)), (.lit (.bool true)), (.lit (.bool false)), (.lit (.bool false)), (.lit (.bool true)), (.lit (.bool false))])]) (ds := []) (nx := 0) (v := (.w (.c (.lit (.int .u32 134)))))
    (log := [])
    (ρ := env0)
    (Pr := ((.int .u32 134) : Value) = (.int .u32 134))
    (by kernel_rfl) (by kernel_rfl) (by kernel_rfl) (by kernel_rfl) rfl w
theorem word_19   (w : World) :
    Calls Try.prog 19 #[(.agg #[(.bool true), (.bool true), (.bool false), (.bool false), (.bool true), (.bool false)])] w fun e w' => e = .returned (.int .u32 135) ∧ RowKit.Below w.heap.size w w' :=
  wayp C0_ok (lf := 1000) (d := 50) (args := [(.agg [(.lit (.bool true)), (.lit (.bool true)), (.lit (.bool false)), (.lit (.bool false)), (.lit (.bool true)), (.lit (.bool false))])]) (ds := []) (nx := 0) (v := (.w (.c (.lit (.int .u32 135)))))
    (log := [])
    (ρ := env0)
    (Pr := ((.int .u32 135) : Value) = (.int .u32 135))
    (by kernel_rfl) (by kernel_rfl) (by kernel_rfl) (by kernel_rfl) rfl w
theorem word_20   (w : World) :
    Calls Try.prog 19 #[(.agg #[(.bool false), (.bool false), (.bool true), (.bool false), (.bool true), (.bool false)])] w fun e w' => e = .returned (.int .u32 146) ∧ RowKit.Below w.heap.size w w' :=
  wayp C0_ok (lf := 1000) (d := 50) (args := [(.agg [(.lit (.bool false)), (.lit (.bool false)), (.lit (.bool true)), (.lit (.bool false)), (.lit (.bool true)), (.lit (.bool false))])]) (ds := []) (nx := 0) (v := (.w (.c (.lit (.int .u32 146)))))
    (log := [])
    (ρ := env0)
    (Pr := ((.int .u32 146) : Value) = (.int .u32 146))
    (by kernel_rfl) (by kernel_rfl) (by kernel_rfl) (by kernel_rfl) rfl w
theorem word_21   (w : World) :
    Calls Try.prog 19 #[(.agg #[(.bool true), (.bool false), (.bool true), (.bool false), (.bool true), (.bool false)])] w fun e w' => e = .returned (.int .u32 147) ∧ RowKit.Below w.heap.size w w' :=
  wayp C0_ok (lf := 1000) (d := 50) (args := [(.agg [(.lit (.bool true)), (.lit (.bool false)), (.lit (.bool true)), (.lit (.bool false)), (.lit (.bool true)), (.lit (.bool false))])]) (ds := []) (nx := 0) (v := (.w (.c (.lit (.int .u32 147)))))
    (log := [])
    (ρ := env0)
    (Pr := ((.int .u32 147) : Value) = (.int .u32 147))
    (by kernel_rfl) (by kernel_rfl) (by kernel_rfl) (by kernel_rfl) rfl w
theorem word_22   (w : World) :
    Calls Try.prog 19 #[(.agg #[(.bool false), (.bool true), (.bool true), (.bool false), (.bool true), (.bool false)])] w fun e w' => e = .returned (.int .u32 150) ∧ RowKit.Below w.heap.size w w' :=
  wayp C0_ok (lf := 1000) (d := 50) (args := [(.agg [(.lit (.bool false)), (.lit (.bool true)), (.lit (.bool true)), (.lit (.bool false)), (.lit (.bool true)), (.lit (.bool false))])]) (ds := []) (nx := 0) (v := (.w (.c (.lit (.int .u32 150)))))
    (log := [])
    (ρ := env0)
    (Pr := ((.int .u32 150) : Value) = (.int .u32 150))
    (by kernel_rfl) (by kernel_rfl) (by kernel_rfl) (by kernel_rfl) rfl w
theorem word_23   (w : World) :
    Calls Try.prog 19 #[(.agg #[(.bool true), (.bool true), (.bool true), (.bool false), (.bool true), (.bool false)])] w fun e w' => e = .returned (.int .u32 151) ∧ RowKit.Below w.heap.size w w' :=
  wayp C0_ok (lf := 1000) (d := 50) (args := [(.agg [(.lit (.bool true)), (.lit (.bool true)), (.lit (.bool true)), (.lit (.bool false)), (.lit (.bool true)), (.lit (.bool false))])]) (ds := []) (nx := 0) (v := (.w (.c (.lit (.int .u32 151)))))
    (log := [])
    (ρ := env0)
    (Pr := ((.int .u32 151) : Value) = (.int .u32 151))
    (by kernel_rfl) (by kernel_rfl) (by kernel_rfl) (by kernel_rfl) rfl w
theorem word_24   (w : World) :
    Calls Try.prog 19 #[(.agg #[(.bool false), (.bool false), (.bool false), (.bool true), (.bool true), (.bool false)])] w fun e w' => e = .returned (.int .u32 194) ∧ RowKit.Below w.heap.size w w' :=
  wayp C0_ok (lf := 1000) (d := 50) (args := [(.agg [(.lit (.bool false)), (.lit (.bool false)), (.lit (.bool false)), (.lit (.bool true)), (.lit (.bool true)), (.lit (.bool false))])]) (ds := []) (nx := 0) (v := (.w (.c (.lit (.int .u32 194)))))
    (log := [])
    (ρ := env0)
    (Pr := ((.int .u32 194) : Value) = (.int .u32 194))
    (by kernel_rfl) (by kernel_rfl) (by kernel_rfl) (by kernel_rfl) rfl w
theorem word_25   (w : World) :
    Calls Try.prog 19 #[(.agg #[(.bool true), (.bool false), (.bool false), (.bool true), (.bool true), (.bool false)])] w fun e w' => e = .returned (.int .u32 195) ∧ RowKit.Below w.heap.size w w' :=
  wayp C0_ok (lf := 1000) (d := 50) (args := [(.agg [(.lit (.bool true)), (.lit (.bool false)), (.lit (.bool false)), (.lit (.bool true)), (.lit (.bool true)), (.lit (.bool false))])]) (ds := []) (nx := 0) (v := (.w (.c (.lit (.int .u32 195)))))
    (log := [])
    (ρ := env0)
    (Pr := ((.int .u32 195) : Value) = (.int .u32 195))
    (by kernel_rfl) (by kernel_rfl) (by kernel_rfl) (by kernel_rfl) rfl w
theorem word_26   (w : World) :
    Calls Try.prog 19 #[(.agg #[(.bool false), (.bool true), (.bool false), (.bool true), (.bool true), (.bool false)])] w fun e w' => e = .returned (.int .u32 198) ∧ RowKit.Below w.heap.size w w' :=
  wayp C0_ok (lf := 1000) (d := 50) (args := [(.agg [(.lit (.bool false)), (.lit (.bool true)), (.lit (.bool false)), (.lit (.bool true)), (.lit (.bool true)), (.lit (.bool false))])]) (ds := []) (nx := 0) (v := (.w (.c (.lit (.int .u32 198)))))
    (log := [])
    (ρ := env0)
    (Pr := ((.int .u32 198) : Value) = (.int .u32 198))
    (by kernel_rfl) (by kernel_rfl) (by kernel_rfl) (by kernel_rfl) rfl w
theorem word_27   (w : World) :
    Calls Try.prog 19 #[(.agg #[(.bool true), (.bool true), (.bool false), (.bool true), (.bool true), (.bool false)])] w fun e w' => e = .returned (.int .u32 199) ∧ RowKit.Below w.heap.size w w' :=
  wayp C0_ok (lf := 1000) (d := 50) (args := [(.agg [(.lit (.bool true)), (.lit (.bool true)), (.lit (.bool false)), (.lit (.bool true)), (.lit (.bool true)), (.lit (.bool false))])]) (ds := []) (nx := 0) (v := (.w (.c (.lit (.int .u32 199)))))
    (log := [])
    (ρ := env0)
    (Pr := ((.int .u32 199) : Value) = (.int .u32 199))
    (by kernel_rfl) (by kernel_rfl) (by kernel_rfl) (by kernel_rfl) rfl w
theorem word_28   (w : World) :
    Calls Try.prog 19 #[(.agg #[(.bool false), (.bool false), (.bool true), (.bool true), (.bool true), (.bool false)])] w fun e w' => e = .returned (.int .u32 210) ∧ RowKit.Below w.heap.size w w' :=
  wayp C0_ok (lf := 1000) (d := 50) (args := [(.agg [(.lit (.bool false)), (.lit (.bool false)), (.lit (.bool true)), (.lit (.bool true)), (.lit (.bool true)), (.lit (.bool false))])]) (ds := []) (nx := 0) (v := (.w (.c (.lit (.int .u32 210)))))
    (log := [])
    (ρ := env0)
    (Pr := ((.int .u32 210) : Value) = (.int .u32 210))
    (by kernel_rfl) (by kernel_rfl) (by kernel_rfl) (by kernel_rfl) rfl w
theorem word_29   (w : World) :
    Calls Try.prog 19 #[(.agg #[(.bool true), (.bool false), (.bool true), (.bool true), (.bool true), (.bool false)])] w fun e w' => e = .returned (.int .u32 211) ∧ RowKit.Below w.heap.size w w' :=
  wayp C0_ok (lf := 1000) (d := 50) (args := [(.agg [(.lit (.bool true)), (.lit (.bool false)), (.lit (.bool true)), (.lit (.bool true)), (.lit (.bool true)), (.lit (.bool false))])]) (ds := []) (nx := 0) (v := (.w (.c (.lit (.int .u32 211)))))
    (log := [])
    (ρ := env0)
    (Pr := ((.int .u32 211) : Value) = (.int .u32 211))
    (by kernel_rfl) (by kernel_rfl) (by kernel_rfl) (by kernel_rfl) rfl w
theorem word_30   (w : World) :
    Calls Try.prog 19 #[(.agg #[(.bool false), (.bool true), (.bool true), (.bool true), (.bool true), (.bool false)])] w fun e w' => e = .returned (.int .u32 214) ∧ RowKit.Below w.heap.size w w' :=
  wayp C0_ok (lf := 1000) (d := 50) (args := [(.agg [(.lit (.bool false)), (.lit (.bool true)), (.lit (.bool true)), (.lit (.bool true)), (.lit (.bool true)), (.lit (.bool false))])]) (ds := []) (nx := 0) (v := (.w (.c (.lit (.int .u32 214)))))
    (log := [])
    (ρ := env0)
    (Pr := ((.int .u32 214) : Value) = (.int .u32 214))
    (by kernel_rfl) (by kernel_rfl) (by kernel_rfl) (by kernel_rfl) rfl w
theorem word_31   (w : World) :
    Calls Try.prog 19 #[(.agg #[(.bool true), (.bool true), (.bool true), (.bool true), (.bool true), (.bool false)])] w fun e w' => e = .returned (.int .u32 215) ∧ RowKit.Below w.heap.size w w' :=
  wayp C0_ok (lf := 1000) (d := 50) (args := [(.agg [(.lit (.bool true)), (.lit (.bool true)), (.lit (.bool true)), (.lit (.bool true)), (.lit (.bool true)), (.lit (.bool false))])]) (ds := []) (nx := 0) (v := (.w (.c (.lit (.int .u32 215)))))
    (log := [])
    (ρ := env0)
    (Pr := ((.int .u32 215) : Value) = (.int .u32 215))
    (by kernel_rfl) (by kernel_rfl) (by kernel_rfl) (by kernel_rfl) rfl w
theorem word_32   (w : World) :
    Calls Try.prog 19 #[(.agg #[(.bool false), (.bool false), (.bool false), (.bool false), (.bool false), (.bool true)])] w fun e w' => e = .returned (.int .u32 2050) ∧ RowKit.Below w.heap.size w w' :=
  wayp C0_ok (lf := 1000) (d := 50) (args := [(.agg [(.lit (.bool false)), (.lit (.bool false)), (.lit (.bool false)), (.lit (.bool false)), (.lit (.bool false)), (.lit (.bool true))])]) (ds := []) (nx := 0) (v := (.w (.c (.lit (.int .u32 2050)))))
    (log := [])
    (ρ := env0)
    (Pr := ((.int .u32 2050) : Value) = (.int .u32 2050))
    (by kernel_rfl) (by kernel_rfl) (by kernel_rfl) (by kernel_rfl) rfl w
theorem word_33   (w : World) :
    Calls Try.prog 19 #[(.agg #[(.bool true), (.bool false), (.bool false), (.bool false), (.bool false), (.bool true)])] w fun e w' => e = .returned (.int .u32 2051) ∧ RowKit.Below w.heap.size w w' :=
  wayp C0_ok (lf := 1000) (d := 50) (args := [(.agg [(.lit (.bool true)), (.lit (.bool false)), (.lit (.bool false)), (.lit (.bool false)), (.lit (.bool false)), (.lit (.bool true))])]) (ds := []) (nx := 0) (v := (.w (.c (.lit (.int .u32 2051)))))
    (log := [])
    (ρ := env0)
    (Pr := ((.int .u32 2051) : Value) = (.int .u32 2051))
    (by kernel_rfl) (by kernel_rfl) (by kernel_rfl) (by kernel_rfl) rfl w
theorem word_34   (w : World) :
    Calls Try.prog 19 #[(.agg #[(.bool false), (.bool true), (.bool false), (.bool false), (.bool false), (.bool true)])] w fun e w' => e = .returned (.int .u32 2054) ∧ RowKit.Below w.heap.size w w' :=
  wayp C0_ok (lf := 1000) (d := 50) (args := [(.agg [(.lit (.bool false)), (.lit (.bool true)), (.lit (.bool false)), (.lit (.bool false)), (.lit (.bool false)), (.lit (.bool true))])]) (ds := []) (nx := 0) (v := (.w (.c (.lit (.int .u32 2054)))))
    (log := [])
    (ρ := env0)
    (Pr := ((.int .u32 2054) : Value) = (.int .u32 2054))
    (by kernel_rfl) (by kernel_rfl) (by kernel_rfl) (by kernel_rfl) rfl w
theorem word_35   (w : World) :
    Calls Try.prog 19 #[(.agg #[(.bool true), (.bool true), (.bool false), (.bool false), (.bool false), (.bool true)])] w fun e w' => e = .returned (.int .u32 2055) ∧ RowKit.Below w.heap.size w w' :=
  wayp C0_ok (lf := 1000) (d := 50) (args := [(.agg [(.lit (.bool true)), (.lit (.bool true)), (.lit (.bool false)), (.lit (.bool false)), (.lit (.bool false)), (.lit (.bool true))])]) (ds := []) (nx := 0) (v := (.w (.c (.lit (.int .u32 2055)))))
    (log := [])
    (ρ := env0)
    (Pr := ((.int .u32 2055) : Value) = (.int .u32 2055))
    (by kernel_rfl) (by kernel_rfl) (by kernel_rfl) (by kernel_rfl) rfl w
theorem word_36   (w : World) :
    Calls Try.prog 19 #[(.agg #[(.bool false), (.bool false), (.bool true), (.bool false), (.bool false), (.bool true)])] w fun e w' => e = .returned (.int .u32 2066) ∧ RowKit.Below w.heap.size w w' :=
  wayp C0_ok (lf := 1000) (d := 50) (args := [(.agg [(.lit (.bool false)), (.lit (.bool false)), (.lit (.bool true)), (.lit (.bool false)), (.lit (.bool false)), (.lit (.bool true))])]) (ds := []) (nx := 0) (v := (.w (.c (.lit (.int .u32 2066)))))
    (log := [])
    (ρ := env0)
    (Pr := ((.int .u32 2066) : Value) = (.int .u32 2066))
    (by kernel_rfl) (by kernel_rfl) (by kernel_rfl) (by kernel_rfl) rfl w
theorem word_37   (w : World) :
    Calls Try.prog 19 #[(.agg #[(.bool true), (.bool false), (.bool true), (.bool false), (.bool false), (.bool true)])] w fun e w' => e = .returned (.int .u32 2067) ∧ RowKit.Below w.heap.size w w' :=
  wayp C0_ok (lf := 1000) (d := 50) (args := [(.agg [(.lit (.bool true)), (.lit (.bool false)), (.lit (.bool true)), (.lit (.bool false)), (.lit (.bool false)), (.lit (.bool true))])]) (ds := []) (nx := 0) (v := (.w (.c (.lit (.int .u32 2067)))))
    (log := [])
    (ρ := env0)
    (Pr := ((.int .u32 2067) : Value) = (.int .u32 2067))
    (by kernel_rfl) (by kernel_rfl) (by kernel_rfl) (by kernel_rfl) rfl w
theorem word_38   (w : World) :
    Calls Try.prog 19 #[(.agg #[(.bool false), (.bool true), (.bool true), (.bool false), (.bool false), (.bool true)])] w fun e w' => e = .returned (.int .u32 2070) ∧ RowKit.Below w.heap.size w w' :=
  wayp C0_ok (lf := 1000) (d := 50) (args := [(.agg [(.lit (.bool false)), (.lit (.bool true)), (.lit (.bool true)), (.lit (.bool false)), (.lit (.bool false)), (.lit (.bool true))])]) (ds := []) (nx := 0) (v := (.w (.c (.lit (.int .u32 2070)))))
    (log := [])
    (ρ := env0)
    (Pr := ((.int .u32 2070) : Value) = (.int .u32 2070))
    (by kernel_rfl) (by kernel_rfl) (by kernel_rfl) (by kernel_rfl) rfl w
theorem word_39   (w : World) :
    Calls Try.prog 19 #[(.agg #[(.bool true), (.bool true), (.bool true), (.bool false), (.bool false), (.bool true)])] w fun e w' => e = .returned (.int .u32 2071) ∧ RowKit.Below w.heap.size w w' :=
  wayp C0_ok (lf := 1000) (d := 50) (args := [(.agg [(.lit (.bool true)), (.lit (.bool true)), (.lit (.bool true)), (.lit (.bool false)), (.lit (.bool false)), (.lit (.bool true))])]) (ds := []) (nx := 0) (v := (.w (.c (.lit (.int .u32 2071)))))
    (log := [])
    (ρ := env0)
    (Pr := ((.int .u32 2071) : Value) = (.int .u32 2071))
    (by kernel_rfl) (by kernel_rfl) (by kernel_rfl) (by kernel_rfl) rfl w
theorem word_40   (w : World) :
    Calls Try.prog 19 #[(.agg #[(.bool false), (.bool false), (.bool false), (.bool true), (.bool false), (.bool true)])] w fun e w' => e = .returned (.int .u32 2114) ∧ RowKit.Below w.heap.size w w' :=
  wayp C0_ok (lf := 1000) (d := 50) (args := [(.agg [(.lit (.bool false)), (.lit (.bool false)), (.lit (.bool false)), (.lit (.bool true)), (.lit (.bool false)), (.lit (.bool true))])]) (ds := []) (nx := 0) (v := (.w (.c (.lit (.int .u32 2114)))))
    (log := [])
    (ρ := env0)
    (Pr := ((.int .u32 2114) : Value) = (.int .u32 2114))
    (by kernel_rfl) (by kernel_rfl) (by kernel_rfl) (by kernel_rfl) rfl w
theorem word_41   (w : World) :
    Calls Try.prog 19 #[(.agg #[(.bool true), (.bool false), (.bool false), (.bool true), (.bool false), (.bool true)])] w fun e w' => e = .returned (.int .u32 2115) ∧ RowKit.Below w.heap.size w w' :=
  wayp C0_ok (lf := 1000) (d := 50) (args := [(.agg [(.lit (.bool true)), (.lit (.bool false)), (.lit (.bool false)), (.lit (.bool true)), (.lit (.bool false)), (.lit (.bool true))])]) (ds := []) (nx := 0) (v := (.w (.c (.lit (.int .u32 2115)))))
    (log := [])
    (ρ := env0)
    (Pr := ((.int .u32 2115) : Value) = (.int .u32 2115))
    (by kernel_rfl) (by kernel_rfl) (by kernel_rfl) (by kernel_rfl) rfl w
theorem word_42   (w : World) :
    Calls Try.prog 19 #[(.agg #[(.bool false), (.bool true), (.bool false), (.bool true), (.bool false), (.bool true)])] w fun e w' => e = .returned (.int .u32 2118) ∧ RowKit.Below w.heap.size w w' :=
  wayp C0_ok (lf := 1000) (d := 50) (args := [(.agg [(.lit (.bool false)), (.lit (.bool true)), (.lit (.bool false)), (.lit (.bool true)), (.lit (.bool false)), (.lit (.bool true))])]) (ds := []) (nx := 0) (v := (.w (.c (.lit (.int .u32 2118)))))
    (log := [])
    (ρ := env0)
    (Pr := ((.int .u32 2118) : Value) = (.int .u32 2118))
    (by kernel_rfl) (by kernel_rfl) (by kernel_rfl) (by kernel_rfl) rfl w
theorem word_43   (w : World) :
    Calls Try.prog 19 #[(.agg #[(.bool true), (.bool true), (.bool false), (.bool true), (.bool false), (.bool true)])] w fun e w' => e = .returned (.int .u32 2119) ∧ RowKit.Below w.heap.size w w' :=
  wayp C0_ok (lf := 1000) (d := 50) (args := [(.agg [(.lit (.bool true)), (.lit (.bool true)), (.lit (.bool false)), (.lit (.bool true)), (.lit (.bool false)), (.lit (.bool true))])]) (ds := []) (nx := 0) (v := (.w (.c (.lit (.int .u32 2119)))))
    (log := [])
    (ρ := env0)
    (Pr := ((.int .u32 2119) : Value) = (.int .u32 2119))
    (by kernel_rfl) (by kernel_rfl) (by kernel_rfl) (by kernel_rfl) rfl w
theorem word_44   (w : World) :
    Calls Try.prog 19 #[(.agg #[(.bool false), (.bool false), (.bool true), (.bool true), (.bool false), (.bool true)])] w fun e w' => e = .returned (.int .u32 2130) ∧ RowKit.Below w.heap.size w w' :=
  wayp C0_ok (lf := 1000) (d := 50) (args := [(.agg [(.lit (.bool false)), (.lit (.bool false)), (.lit (.bool true)), (.lit (.bool true)), (.lit (.bool false)), (.lit (.bool true))])]) (ds := []) (nx := 0) (v := (.w (.c (.lit (.int .u32 2130)))))
    (log := [])
    (ρ := env0)
    (Pr := ((.int .u32 2130) : Value) = (.int .u32 2130))
    (by kernel_rfl) (by kernel_rfl) (by kernel_rfl) (by kernel_rfl) rfl w
theorem word_45   (w : World) :
    Calls Try.prog 19 #[(.agg #[(.bool true), (.bool false), (.bool true), (.bool true), (.bool false), (.bool true)])] w fun e w' => e = .returned (.int .u32 2131) ∧ RowKit.Below w.heap.size w w' :=
  wayp C0_ok (lf := 1000) (d := 50) (args := [(.agg [(.lit (.bool true)), (.lit (.bool false)), (.lit (.bool true)), (.lit (.bool true)), (.lit (.bool false)), (.lit (.bool true))])]) (ds := []) (nx := 0) (v := (.w (.c (.lit (.int .u32 2131)))))
    (log := [])
    (ρ := env0)
    (Pr := ((.int .u32 2131) : Value) = (.int .u32 2131))
    (by kernel_rfl) (by kernel_rfl) (by kernel_rfl) (by kernel_rfl) rfl w
theorem word_46   (w : World) :
    Calls Try.prog 19 #[(.agg #[(.bool false), (.bool true), (.bool true), (.bool true), (.bool false), (.bool true)])] w fun e w' => e = .returned (.int .u32 2134) ∧ RowKit.Below w.heap.size w w' :=
  wayp C0_ok (lf := 1000) (d := 50) (args := [(.agg [(.lit (.bool false)), (.lit (.bool true)), (.lit (.bool true)), (.lit (.bool true)), (.lit (.bool false)), (.lit (.bool true))])]) (ds := []) (nx := 0) (v := (.w (.c (.lit (.int .u32 2134)))))
    (log := [])
    (ρ := env0)
    (Pr := ((.int .u32 2134) : Value) = (.int .u32 2134))
    (by kernel_rfl) (by kernel_rfl) (by kernel_rfl) (by kernel_rfl) rfl w
theorem word_47   (w : World) :
    Calls Try.prog 19 #[(.agg #[(.bool true), (.bool true), (.bool true), (.bool true), (.bool false), (.bool true)])] w fun e w' => e = .returned (.int .u32 2135) ∧ RowKit.Below w.heap.size w w' :=
  wayp C0_ok (lf := 1000) (d := 50) (args := [(.agg [(.lit (.bool true)), (.lit (.bool true)), (.lit (.bool true)), (.lit (.bool true)), (.lit (.bool false)), (.lit (.bool true))])]) (ds := []) (nx := 0) (v := (.w (.c (.lit (.int .u32 2135)))))
    (log := [])
    (ρ := env0)
    (Pr := ((.int .u32 2135) : Value) = (.int .u32 2135))
    (by kernel_rfl) (by kernel_rfl) (by kernel_rfl) (by kernel_rfl) rfl w
theorem word_48   (w : World) :
    Calls Try.prog 19 #[(.agg #[(.bool false), (.bool false), (.bool false), (.bool false), (.bool true), (.bool true)])] w fun e w' => e = .returned (.int .u32 2178) ∧ RowKit.Below w.heap.size w w' :=
  wayp C0_ok (lf := 1000) (d := 50) (args := [(.agg [(.lit (.bool false)), (.lit (.bool false)), (.lit (.bool false)), (.lit (.bool false)), (.lit (.bool true)), (.lit (.bool true))])]) (ds := []) (nx := 0) (v := (.w (.c (.lit (.int .u32 2178)))))
    (log := [])
    (ρ := env0)
    (Pr := ((.int .u32 2178) : Value) = (.int .u32 2178))
    (by kernel_rfl) (by kernel_rfl) (by kernel_rfl) (by kernel_rfl) rfl w
theorem word_49   (w : World) :
    Calls Try.prog 19 #[(.agg #[(.bool true), (.bool false), (.bool false), (.bool false), (.bool true), (.bool true)])] w fun e w' => e = .returned (.int .u32 2179) ∧ RowKit.Below w.heap.size w w' :=
  wayp C0_ok (lf := 1000) (d := 50) (args := [(.agg [(.lit (.bool true)), (.lit (.bool false)), (.lit (.bool false)), (.lit (.bool false)), (.lit (.bool true)), (.lit (.bool true))])]) (ds := []) (nx := 0) (v := (.w (.c (.lit (.int .u32 2179)))))
    (log := [])
    (ρ := env0)
    (Pr := ((.int .u32 2179) : Value) = (.int .u32 2179))
    (by kernel_rfl) (by kernel_rfl) (by kernel_rfl) (by kernel_rfl) rfl w
theorem word_50   (w : World) :
    Calls Try.prog 19 #[(.agg #[(.bool false), (.bool true), (.bool false), (.bool false), (.bool true), (.bool true)])] w fun e w' => e = .returned (.int .u32 2182) ∧ RowKit.Below w.heap.size w w' :=
  wayp C0_ok (lf := 1000) (d := 50) (args := [(.agg [(.lit (.bool false)), (.lit (.bool true)), (.lit (.bool false)), (.lit (.bool false)), (.lit (.bool true)), (.lit (.bool true))])]) (ds := []) (nx := 0) (v := (.w (.c (.lit (.int .u32 2182)))))
    (log := [])
    (ρ := env0)
    (Pr := ((.int .u32 2182) : Value) = (.int .u32 2182))
    (by kernel_rfl) (by kernel_rfl) (by kernel_rfl) (by kernel_rfl) rfl w
theorem word_51   (w : World) :
    Calls Try.prog 19 #[(.agg #[(.bool true), (.bool true), (.bool false), (.bool false), (.bool true), (.bool true)])] w fun e w' => e = .returned (.int .u32 2183) ∧ RowKit.Below w.heap.size w w' :=
  wayp C0_ok (lf := 1000) (d := 50) (args := [(.agg [(.lit (.bool true)), (.lit (.bool true)), (.lit (.bool false)), (.lit (.bool false)), (.lit (.bool true)), (.lit (.bool true))])]) (ds := []) (nx := 0) (v := (.w (.c (.lit (.int .u32 2183)))))
    (log := [])
    (ρ := env0)
    (Pr := ((.int .u32 2183) : Value) = (.int .u32 2183))
    (by kernel_rfl) (by kernel_rfl) (by kernel_rfl) (by kernel_rfl) rfl w
theorem word_52   (w : World) :
    Calls Try.prog 19 #[(.agg #[(.bool false), (.bool false), (.bool true), (.bool false), (.bool true), (.bool true)])] w fun e w' => e = .returned (.int .u32 2194) ∧ RowKit.Below w.heap.size w w' :=
  wayp C0_ok (lf := 1000) (d := 50) (args := [(.agg [(.lit (.bool false)), (.lit (.bool false)), (.lit (.bool true)), (.lit (.bool false)), (.lit (.bool true)), (.lit (.bool true))])]) (ds := []) (nx := 0) (v := (.w (.c (.lit (.int .u32 2194)))))
    (log := [])
    (ρ := env0)
    (Pr := ((.int .u32 2194) : Value) = (.int .u32 2194))
    (by kernel_rfl) (by kernel_rfl) (by kernel_rfl) (by kernel_rfl) rfl w
theorem word_53   (w : World) :
    Calls Try.prog 19 #[(.agg #[(.bool true), (.bool false), (.bool true), (.bool false), (.bool true), (.bool true)])] w fun e w' => e = .returned (.int .u32 2195) ∧ RowKit.Below w.heap.size w w' :=
  wayp C0_ok (lf := 1000) (d := 50) (args := [(.agg [(.lit (.bool true)), (.lit (.bool false)), (.lit (.bool true)), (.lit (.bool false)), (.lit (.bool true)), (.lit (.bool true))])]) (ds := []) (nx := 0) (v := (.w (.c (.lit (.int .u32 2195)))))
    (log := [])
    (ρ := env0)
    (Pr := ((.int .u32 2195) : Value) = (.int .u32 2195))
    (by kernel_rfl) (by kernel_rfl) (by kernel_rfl) (by kernel_rfl) rfl w
theorem word_54   (w : World) :
    Calls Try.prog 19 #[(.agg #[(.bool false), (.bool true), (.bool true), (.bool false), (.bool true), (.bool true)])] w fun e w' => e = .returned (.int .u32 2198) ∧ RowKit.Below w.heap.size w w' :=
  wayp C0_ok (lf := 1000) (d := 50) (args := [(.agg [(.lit (.bool false)), (.lit (.bool true)), (.lit (.bool true)), (.lit (.bool false)), (.lit (.bool true)), (.lit (.bool true))])]) (ds := []) (nx := 0) (v := (.w (.c (.lit (.int .u32 2198)))))
    (log := [])
    (ρ := env0)
    (Pr := ((.int .u32 2198) : Value) = (.int .u32 2198))
    (by kernel_rfl) (by kernel_rfl) (by kernel_rfl) (by kernel_rfl) rfl w
theorem word_55   (w : World) :
    Calls Try.prog 19 #[(.agg #[(.bool true), (.bool true), (.bool true), (.bool false), (.bool true), (.bool true)])] w fun e w' => e = .returned (.int .u32 2199) ∧ RowKit.Below w.heap.size w w' :=
  wayp C0_ok (lf := 1000) (d := 50) (args := [(.agg [(.lit (.bool true)), (.lit (.bool true)), (.lit (.bool true)), (.lit (.bool false)), (.lit (.bool true)), (.lit (.bool true))])]) (ds := []) (nx := 0) (v := (.w (.c (.lit (.int .u32 2199)))))
    (log := [])
    (ρ := env0)
    (Pr := ((.int .u32 2199) : Value) = (.int .u32 2199))
    (by kernel_rfl) (by kernel_rfl) (by kernel_rfl) (by kernel_rfl) rfl w
theorem word_56   (w : World) :
    Calls Try.prog 19 #[(.agg #[(.bool false), (.bool false), (.bool false), (.bool true), (.bool true), (.bool true)])] w fun e w' => e = .returned (.int .u32 2242) ∧ RowKit.Below w.heap.size w w' :=
  wayp C0_ok (lf := 1000) (d := 50) (args := [(.agg [(.lit (.bool false)), (.lit (.bool false)), (.lit (.bool false)), (.lit (.bool true)), (.lit (.bool true)), (.lit (.bool true))])]) (ds := []) (nx := 0) (v := (.w (.c (.lit (.int .u32 2242)))))
    (log := [])
    (ρ := env0)
    (Pr := ((.int .u32 2242) : Value) = (.int .u32 2242))
    (by kernel_rfl) (by kernel_rfl) (by kernel_rfl) (by kernel_rfl) rfl w
theorem word_57   (w : World) :
    Calls Try.prog 19 #[(.agg #[(.bool true), (.bool false), (.bool false), (.bool true), (.bool true), (.bool true)])] w fun e w' => e = .returned (.int .u32 2243) ∧ RowKit.Below w.heap.size w w' :=
  wayp C0_ok (lf := 1000) (d := 50) (args := [(.agg [(.lit (.bool true)), (.lit (.bool false)), (.lit (.bool false)), (.lit (.bool true)), (.lit (.bool true)), (.lit (.bool true))])]) (ds := []) (nx := 0) (v := (.w (.c (.lit (.int .u32 2243)))))
    (log := [])
    (ρ := env0)
    (Pr := ((.int .u32 2243) : Value) = (.int .u32 2243))
    (by kernel_rfl) (by kernel_rfl) (by kernel_rfl) (by kernel_rfl) rfl w
theorem word_58   (w : World) :
    Calls Try.prog 19 #[(.agg #[(.bool false), (.bool true), (.bool false), (.bool true), (.bool true), (.bool true)])] w fun e w' => e = .returned (.int .u32 2246) ∧ RowKit.Below w.heap.size w w' :=
  wayp C0_ok (lf := 1000) (d := 50) (args := [(.agg [(.lit (.bool false)), (.lit (.bool true)), (.lit (.bool false)), (.lit (.bool true)), (.lit (.bool true)), (.lit (.bool true))])]) (ds := []) (nx := 0) (v := (.w (.c (.lit (.int .u32 2246)))))
    (log := [])
    (ρ := env0)
    (Pr := ((.int .u32 2246) : Value) = (.int .u32 2246))
    (by kernel_rfl) (by kernel_rfl) (by kernel_rfl) (by kernel_rfl) rfl w
theorem word_59   (w : World) :
    Calls Try.prog 19 #[(.agg #[(.bool true), (.bool true), (.bool false), (.bool true), (.bool true), (.bool true)])] w fun e w' => e = .returned (.int .u32 2247) ∧ RowKit.Below w.heap.size w w' :=
  wayp C0_ok (lf := 1000) (d := 50) (args := [(.agg [(.lit (.bool true)), (.lit (.bool true)), (.lit (.bool false)), (.lit (.bool true)), (.lit (.bool true)), (.lit (.bool true))])]) (ds := []) (nx := 0) (v := (.w (.c (.lit (.int .u32 2247)))))
    (log := [])
    (ρ := env0)
    (Pr := ((.int .u32 2247) : Value) = (.int .u32 2247))
    (by kernel_rfl) (by kernel_rfl) (by kernel_rfl) (by kernel_rfl) rfl w
theorem word_60   (w : World) :
    Calls Try.prog 19 #[(.agg #[(.bool false), (.bool false), (.bool true), (.bool true), (.bool true), (.bool true)])] w fun e w' => e = .returned (.int .u32 2258) ∧ RowKit.Below w.heap.size w w' :=
  wayp C0_ok (lf := 1000) (d := 50) (args := [(.agg [(.lit (.bool false)), (.lit (.bool false)), (.lit (.bool true)), (.lit (.bool true)), (.lit (.bool true)), (.lit (.bool true))])]) (ds := []) (nx := 0) (v := (.w (.c (.lit (.int .u32 2258)))))
    (log := [])
    (ρ := env0)
    (Pr := ((.int .u32 2258) : Value) = (.int .u32 2258))
    (by kernel_rfl) (by kernel_rfl) (by kernel_rfl) (by kernel_rfl) rfl w
theorem word_61   (w : World) :
    Calls Try.prog 19 #[(.agg #[(.bool true), (.bool false), (.bool true), (.bool true), (.bool true), (.bool true)])] w fun e w' => e = .returned (.int .u32 2259) ∧ RowKit.Below w.heap.size w w' :=
  wayp C0_ok (lf := 1000) (d := 50) (args := [(.agg [(.lit (.bool true)), (.lit (.bool false)), (.lit (.bool true)), (.lit (.bool true)), (.lit (.bool true)), (.lit (.bool true))])]) (ds := []) (nx := 0) (v := (.w (.c (.lit (.int .u32 2259)))))
    (log := [])
    (ρ := env0)
    (Pr := ((.int .u32 2259) : Value) = (.int .u32 2259))
    (by kernel_rfl) (by kernel_rfl) (by kernel_rfl) (by kernel_rfl) rfl w
theorem word_62   (w : World) :
    Calls Try.prog 19 #[(.agg #[(.bool false), (.bool true), (.bool true), (.bool true), (.bool true), (.bool true)])] w fun e w' => e = .returned (.int .u32 2262) ∧ RowKit.Below w.heap.size w w' :=
  wayp C0_ok (lf := 1000) (d := 50) (args := [(.agg [(.lit (.bool false)), (.lit (.bool true)), (.lit (.bool true)), (.lit (.bool true)), (.lit (.bool true)), (.lit (.bool true))])]) (ds := []) (nx := 0) (v := (.w (.c (.lit (.int .u32 2262)))))
    (log := [])
    (ρ := env0)
    (Pr := ((.int .u32 2262) : Value) = (.int .u32 2262))
    (by kernel_rfl) (by kernel_rfl) (by kernel_rfl) (by kernel_rfl) rfl w
theorem word_63   (w : World) :
    Calls Try.prog 19 #[(.agg #[(.bool true), (.bool true), (.bool true), (.bool true), (.bool true), (.bool true)])] w fun e w' => e = .returned (.int .u32 2263) ∧ RowKit.Below w.heap.size w w' :=
  wayp C0_ok (lf := 1000) (d := 50) (args := [(.agg [(.lit (.bool true)), (.lit (.bool true)), (.lit (.bool true)), (.lit (.bool true)), (.lit (.bool true)), (.lit (.bool true))])]) (ds := []) (nx := 0) (v := (.w (.c (.lit (.int .u32 2263)))))
    (log := [])
    (ρ := env0)
    (Pr := ((.int .u32 2263) : Value) = (.int .u32 2263))
    (by kernel_rfl) (by kernel_rfl) (by kernel_rfl) (by kernel_rfl) rfl w
theorem rword_0   (w : World) :
    Calls Try.prog 25 #[(.agg #[(.bool false), (.bool false), (.bool false), (.bool false), (.bool false), (.bool false)])] w fun e w' => e = .returned (.int .u32 2) ∧ RowKit.Below w.heap.size w w' :=
  wayp C0_ok (lf := 1000) (d := 50) (args := [(.agg [(.lit (.bool false)), (.lit (.bool false)), (.lit (.bool false)), (.lit (.bool false)), (.lit (.bool false)), (.lit (.bool false))])]) (ds := []) (nx := 0) (v := (.w (.c (.lit (.int .u32 2)))))
    (log := [])
    (ρ := env0)
    (Pr := ((.int .u32 2) : Value) = (.int .u32 2))
    (by kernel_rfl) (by kernel_rfl) (by kernel_rfl) (by kernel_rfl) rfl w
theorem rword_1   (w : World) :
    Calls Try.prog 25 #[(.agg #[(.bool true), (.bool false), (.bool false), (.bool false), (.bool false), (.bool false)])] w fun e w' => e = .returned (.int .u32 3) ∧ RowKit.Below w.heap.size w w' :=
  wayp C0_ok (lf := 1000) (d := 50) (args := [(.agg [(.lit (.bool true)), (.lit (.bool false)), (.lit (.bool false)), (.lit (.bool false)), (.lit (.bool false)), (.lit (.bool false))])]) (ds := []) (nx := 0) (v := (.w (.c (.lit (.int .u32 3)))))
    (log := [])
    (ρ := env0)
    (Pr := ((.int .u32 3) : Value) = (.int .u32 3))
    (by kernel_rfl) (by kernel_rfl) (by kernel_rfl) (by kernel_rfl) rfl w
theorem rword_2   (w : World) :
    Calls Try.prog 25 #[(.agg #[(.bool false), (.bool true), (.bool false), (.bool false), (.bool false), (.bool false)])] w fun e w' => e = .returned (.int .u32 6) ∧ RowKit.Below w.heap.size w w' :=
  wayp C0_ok (lf := 1000) (d := 50) (args := [(.agg [(.lit (.bool false)), (.lit (.bool true)), (.lit (.bool false)), (.lit (.bool false)), (.lit (.bool false)), (.lit (.bool false))])]) (ds := []) (nx := 0) (v := (.w (.c (.lit (.int .u32 6)))))
    (log := [])
    (ρ := env0)
    (Pr := ((.int .u32 6) : Value) = (.int .u32 6))
    (by kernel_rfl) (by kernel_rfl) (by kernel_rfl) (by kernel_rfl) rfl w
theorem rword_3   (w : World) :
    Calls Try.prog 25 #[(.agg #[(.bool true), (.bool true), (.bool false), (.bool false), (.bool false), (.bool false)])] w fun e w' => e = .returned (.int .u32 7) ∧ RowKit.Below w.heap.size w w' :=
  wayp C0_ok (lf := 1000) (d := 50) (args := [(.agg [(.lit (.bool true)), (.lit (.bool true)), (.lit (.bool false)), (.lit (.bool false)), (.lit (.bool false)), (.lit (.bool false))])]) (ds := []) (nx := 0) (v := (.w (.c (.lit (.int .u32 7)))))
    (log := [])
    (ρ := env0)
    (Pr := ((.int .u32 7) : Value) = (.int .u32 7))
    (by kernel_rfl) (by kernel_rfl) (by kernel_rfl) (by kernel_rfl) rfl w
theorem rword_4   (w : World) :
    Calls Try.prog 25 #[(.agg #[(.bool false), (.bool false), (.bool true), (.bool false), (.bool false), (.bool false)])] w fun e w' => e = .returned (.int .u32 18) ∧ RowKit.Below w.heap.size w w' :=
  wayp C0_ok (lf := 1000) (d := 50) (args := [(.agg [(.lit (.bool false)), (.lit (.bool false)), (.lit (.bool true)), (.lit (.bool false)), (.lit (.bool false)), (.lit (.bool false))])]) (ds := []) (nx := 0) (v := (.w (.c (.lit (.int .u32 18)))))
    (log := [])
    (ρ := env0)
    (Pr := ((.int .u32 18) : Value) = (.int .u32 18))
    (by kernel_rfl) (by kernel_rfl) (by kernel_rfl) (by kernel_rfl) rfl w
theorem rword_5   (w : World) :
    Calls Try.prog 25 #[(.agg #[(.bool true), (.bool false), (.bool true), (.bool false), (.bool false), (.bool false)])] w fun e w' => e = .returned (.int .u32 19) ∧ RowKit.Below w.heap.size w w' :=
  wayp C0_ok (lf := 1000) (d := 50) (args := [(.agg [(.lit (.bool true)), (.lit (.bool false)), (.lit (.bool true)), (.lit (.bool false)), (.lit (.bool false)), (.lit (.bool false))])]) (ds := []) (nx := 0) (v := (.w (.c (.lit (.int .u32 19)))))
    (log := [])
    (ρ := env0)
    (Pr := ((.int .u32 19) : Value) = (.int .u32 19))
    (by kernel_rfl) (by kernel_rfl) (by kernel_rfl) (by kernel_rfl) rfl w
theorem rword_6   (w : World) :
    Calls Try.prog 25 #[(.agg #[(.bool false), (.bool true), (.bool true), (.bool false), (.bool false), (.bool false)])] w fun e w' => e = .returned (.int .u32 22) ∧ RowKit.Below w.heap.size w w' :=
  wayp C0_ok (lf := 1000) (d := 50) (args := [(.agg [(.lit (.bool false)), (.lit (.bool true)), (.lit (.bool true)), (.lit (.bool false)), (.lit (.bool false)), (.lit (.bool false))])]) (ds := []) (nx := 0) (v := (.w (.c (.lit (.int .u32 22)))))
    (log := [])
    (ρ := env0)
    (Pr := ((.int .u32 22) : Value) = (.int .u32 22))
    (by kernel_rfl) (by kernel_rfl) (by kernel_rfl) (by kernel_rfl) rfl w
theorem rword_7   (w : World) :
    Calls Try.prog 25 #[(.agg #[(.bool true), (.bool true), (.bool true), (.bool false), (.bool false), (.bool false)])] w fun e w' => e = .returned (.int .u32 23) ∧ RowKit.Below w.heap.size w w' :=
  wayp C0_ok (lf := 1000) (d := 50) (args := [(.agg [(.lit (.bool true)), (.lit (.bool true)), (.lit (.bool true)), (.lit (.bool false)), (.lit (.bool false)), (.lit (.bool false))])]) (ds := []) (nx := 0) (v := (.w (.c (.lit (.int .u32 23)))))
    (log := [])
    (ρ := env0)
    (Pr := ((.int .u32 23) : Value) = (.int .u32 23))
    (by kernel_rfl) (by kernel_rfl) (by kernel_rfl) (by kernel_rfl) rfl w
theorem rword_8   (w : World) :
    Calls Try.prog 25 #[(.agg #[(.bool false), (.bool false), (.bool false), (.bool true), (.bool false), (.bool false)])] w fun e w' => e = .returned (.int .u32 66) ∧ RowKit.Below w.heap.size w w' :=
  wayp C0_ok (lf := 1000) (d := 50) (args := [(.agg [(.lit (.bool false)), (.lit (.bool false)), (.lit (.bool false)), (.lit (.bool true)), (.lit (.bool false)), (.lit (.bool false))])]) (ds := []) (nx := 0) (v := (.w (.c (.lit (.int .u32 66)))))
    (log := [])
    (ρ := env0)
    (Pr := ((.int .u32 66) : Value) = (.int .u32 66))
    (by kernel_rfl) (by kernel_rfl) (by kernel_rfl) (by kernel_rfl) rfl w
theorem rword_9   (w : World) :
    Calls Try.prog 25 #[(.agg #[(.bool true), (.bool false), (.bool false), (.bool true), (.bool false), (.bool false)])] w fun e w' => e = .returned (.int .u32 67) ∧ RowKit.Below w.heap.size w w' :=
  wayp C0_ok (lf := 1000) (d := 50) (args := [(.agg [(.lit (.bool true)), (.lit (.bool false)), (.lit (.bool false)), (.lit (.bool true)), (.lit (.bool false)), (.lit (.bool false))])]) (ds := []) (nx := 0) (v := (.w (.c (.lit (.int .u32 67)))))
    (log := [])
    (ρ := env0)
    (Pr := ((.int .u32 67) : Value) = (.int .u32 67))
    (by kernel_rfl) (by kernel_rfl) (by kernel_rfl) (by kernel_rfl) rfl w
theorem rword_10   (w : World) :
    Calls Try.prog 25 #[(.agg #[(.bool false), (.bool true), (.bool false), (.bool true), (.bool false), (.bool false)])] w fun e w' => e = .returned (.int .u32 70) ∧ RowKit.Below w.heap.size w w' :=
  wayp C0_ok (lf := 1000) (d := 50) (args := [(.agg [(.lit (.bool false)), (.lit (.bool true)), (.lit (.bool false)), (.lit (.bool true)), (.lit (.bool false)), (.lit (.bool false))])]) (ds := []) (nx := 0) (v := (.w (.c (.lit (.int .u32 70)))))
    (log := [])
    (ρ := env0)
    (Pr := ((.int .u32 70) : Value) = (.int .u32 70))
    (by kernel_rfl) (by kernel_rfl) (by kernel_rfl) (by kernel_rfl) rfl w
theorem rword_11   (w : World) :
    Calls Try.prog 25 #[(.agg #[(.bool true), (.bool true), (.bool false), (.bool true), (.bool false), (.bool false)])] w fun e w' => e = .returned (.int .u32 71) ∧ RowKit.Below w.heap.size w w' :=
  wayp C0_ok (lf := 1000) (d := 50) (args := [(.agg [(.lit (.bool true)), (.lit (.bool true)), (.lit (.bool false)), (.lit (.bool true)), (.lit (.bool false)), (.lit (.bool false))])]) (ds := []) (nx := 0) (v := (.w (.c (.lit (.int .u32 71)))))
    (log := [])
    (ρ := env0)
    (Pr := ((.int .u32 71) : Value) = (.int .u32 71))
    (by kernel_rfl) (by kernel_rfl) (by kernel_rfl) (by kernel_rfl) rfl w
theorem rword_12   (w : World) :
    Calls Try.prog 25 #[(.agg #[(.bool false), (.bool false), (.bool true), (.bool true), (.bool false), (.bool false)])] w fun e w' => e = .returned (.int .u32 82) ∧ RowKit.Below w.heap.size w w' :=
  wayp C0_ok (lf := 1000) (d := 50) (args := [(.agg [(.lit (.bool false)), (.lit (.bool false)), (.lit (.bool true)), (.lit (.bool true)), (.lit (.bool false)), (.lit (.bool false))])]) (ds := []) (nx := 0) (v := (.w (.c (.lit (.int .u32 82)))))
    (log := [])
    (ρ := env0)
    (Pr := ((.int .u32 82) : Value) = (.int .u32 82))
    (by kernel_rfl) (by kernel_rfl) (by kernel_rfl) (by kernel_rfl) rfl w
theorem rword_13   (w : World) :
    Calls Try.prog 25 #[(.agg #[(.bool true), (.bool false), (.bool true), (.bool true), (.bool false), (.bool false)])] w fun e w' => e = .returned (.int .u32 83) ∧ RowKit.Below w.heap.size w w' :=
  wayp C0_ok (lf := 1000) (d := 50) (args := [(.agg [(.lit (.bool true)), (.lit (.bool false)), (.lit (.bool true)), (.lit (.bool true)), (.lit (.bool false)), (.lit (.bool false))])]) (ds := []) (nx := 0) (v := (.w (.c (.lit (.int .u32 83)))))
    (log := [])
    (ρ := env0)
    (Pr := ((.int .u32 83) : Value) = (.int .u32 83))
    (by kernel_rfl) (by kernel_rfl) (by kernel_rfl) (by kernel_rfl) rfl w
theorem rword_14   (w : World) :
    Calls Try.prog 25 #[(.agg #[(.bool false), (.bool true), (.bool true), (.bool true), (.bool false), (.bool false)])] w fun e w' => e = .returned (.int .u32 86) ∧ RowKit.Below w.heap.size w w' :=
  wayp C0_ok (lf := 1000) (d := 50) (args := [(.agg [(.lit (.bool false)), (.lit (.bool true)), (.lit (.bool true)), (.lit (.bool true)), (.lit (.bool false)), (.lit (.bool false))])]) (ds := []) (nx := 0) (v := (.w (.c (.lit (.int .u32 86)))))
    (log := [])
    (ρ := env0)
    (Pr := ((.int .u32 86) : Value) = (.int .u32 86))
    (by kernel_rfl) (by kernel_rfl) (by kernel_rfl) (by kernel_rfl) rfl w
theorem rword_15   (w : World) :
    Calls Try.prog 25 #[(.agg #[(.bool true), (.bool true), (.bool true), (.bool true), (.bool false), (.bool false)])] w fun e w' => e = .returned (.int .u32 87) ∧ RowKit.Below w.heap.size w w' :=
  wayp C0_ok (lf := 1000) (d := 50) (args := [(.agg [(.lit (.bool true)), (.lit (.bool true)), (.lit (.bool true)), (.lit (.bool true)), (.lit (.bool false)), (.lit (.bool false))])]) (ds := []) (nx := 0) (v := (.w (.c (.lit (.int .u32 87)))))
    (log := [])
    (ρ := env0)
    (Pr := ((.int .u32 87) : Value) = (.int .u32 87))
    (by kernel_rfl) (by kernel_rfl) (by kernel_rfl) (by kernel_rfl) rfl w
theorem rword_16   (w : World) :
    Calls Try.prog 25 #[(.agg #[(.bool false), (.bool false), (.bool false), (.bool false), (.bool true), (.bool false)])] w fun e w' => e = .returned (.int .u32 130) ∧ RowKit.Below w.heap.size w w' :=
  wayp C0_ok (lf := 1000) (d := 50) (args := [(.agg [(.lit (.bool false)), (.lit (.bool false)), (.lit (.bool false)), (.lit (.bool false)), (.lit (.bool true)), (.lit (.bool false))])]) (ds := []) (nx := 0) (v := (.w (.c (.lit (.int .u32 130)))))
    (log := [])
    (ρ := env0)
    (Pr := ((.int .u32 130) : Value) = (.int .u32 130))
    (by kernel_rfl) (by kernel_rfl) (by kernel_rfl) (by kernel_rfl) rfl w
theorem rword_17   (w : World) :
    Calls Try.prog 25 #[(.agg #[(.bool true), (.bool false), (.bool false), (.bool false), (.bool true), (.bool false)])] w fun e w' => e = .returned (.int .u32 131) ∧ RowKit.Below w.heap.size w w' :=
  wayp C0_ok (lf := 1000) (d := 50) (args := [(.agg [(.lit (.bool true)), (.lit (.bool false)), (.lit (.bool false)), (.lit (.bool false)), (.lit (.bool true)), (.lit (.bool false))])]) (ds := []) (nx := 0) (v := (.w (.c (.lit (.int .u32 131)))))
    (log := [])
    (ρ := env0)
    (Pr := ((.int .u32 131) : Value) = (.int .u32 131))
    (by kernel_rfl) (by kernel_rfl) (by kernel_rfl) (by kernel_rfl) rfl w
theorem rword_18   (w : World) :
    Calls Try.prog 25 #[(.agg #[(.bool false), (.bool true), (.bool false), (.bool false), (.bool true), (.bool false)])] w fun e w' => e = .returned (.int .u32 134) ∧ RowKit.Below w.heap.size w w' :=
  wayp C0_ok (lf := 1000) (d := 50) (args := [(.agg [(.lit (.bool false)), (.lit (.bool true)), (.lit (.bool false)), (.lit (.bool false)), (.lit (.bool true)), (.lit (.bool false))])]) (ds := []) (nx := 0) (v := (.w (.c (.lit (.int .u32 134)))))
    (log := [])
    (ρ := env0)
    (Pr := ((.int .u32 134) : Value) = (.int .u32 134))
    (by kernel_rfl) (by kernel_rfl) (by kernel_rfl) (by kernel_rfl) rfl w
theorem rword_19   (w : World) :
    Calls Try.prog 25 #[(.agg #[(.bool true), (.bool true), (.bool false), (.bool false), (.bool true), (.bool false)])] w fun e w' => e = .returned (.int .u32 135) ∧ RowKit.Below w.heap.size w w' :=
  wayp C0_ok (lf := 1000) (d := 50) (args := [(.agg [(.lit (.bool true)), (.lit (.bool true)), (.lit (.bool false)), (.lit (.bool false)), (.lit (.bool true)), (.lit (.bool false))])]) (ds := []) (nx := 0) (v := (.w (.c (.lit (.int .u32 135)))))
    (log := [])
    (ρ := env0)
    (Pr := ((.int .u32 135) : Value) = (.int .u32 135))
    (by kernel_rfl) (by kernel_rfl) (by kernel_rfl) (by kernel_rfl) rfl w
theorem rword_20   (w : World) :
    Calls Try.prog 25 #[(.agg #[(.bool false), (.bool false), (.bool true), (.bool false), (.bool true), (.bool false)])] w fun e w' => e = .returned (.int .u32 146) ∧ RowKit.Below w.heap.size w w' :=
  wayp C0_ok (lf := 1000) (d := 50) (args := [(.agg [(.lit (.bool false)), (.lit (.bool false)), (.lit (.bool true)), (.lit (.bool false)), (.lit (.bool true)), (.lit (.bool false))])]) (ds := []) (nx := 0) (v := (.w (.c (.lit (.int .u32 146)))))
    (log := [])
    (ρ := env0)
    (Pr := ((.int .u32 146) : Value) = (.int .u32 146))
    (by kernel_rfl) (by kernel_rfl) (by kernel_rfl) (by kernel_rfl) rfl w
theorem rword_21   (w : World) :
    Calls Try.prog 25 #[(.agg #[(.bool true), (.bool false), (.bool true), (.bool false), (.bool true), (.bool false)])] w fun e w' => e = .returned (.int .u32 147) ∧ RowKit.Below w.heap.size w w' :=
  wayp C0_ok (lf := 1000) (d := 50) (args := [(.agg [(.lit (.bool true)), (.lit (.bool false)), (.lit (.bool true)), (.lit (.bool false)), (.lit (.bool true)), (.lit (.bool false))])]) (ds := []) (nx := 0) (v := (.w (.c (.lit (.int .u32 147)))))
    (log := [])
    (ρ := env0)
    (Pr := ((.int .u32 147) : Value) = (.int .u32 147))
    (by kernel_rfl) (by kernel_rfl) (by kernel_rfl) (by kernel_rfl) rfl w
theorem rword_22   (w : World) :
    Calls Try.prog 25 #[(.agg #[(.bool false), (.bool true), (.bool true), (.bool false), (.bool true), (.bool false)])] w fun e w' => e = .returned (.int .u32 150) ∧ RowKit.Below w.heap.size w w' :=
  wayp C0_ok (lf := 1000) (d := 50) (args := [(.agg [(.lit (.bool false)), (.lit (.bool true)), (.lit (.bool true)), (.lit (.bool false)), (.lit (.bool true)), (.lit (.bool false))])]) (ds := []) (nx := 0) (v := (.w (.c (.lit (.int .u32 150)))))
    (log := [])
    (ρ := env0)
    (Pr := ((.int .u32 150) : Value) = (.int .u32 150))
    (by kernel_rfl) (by kernel_rfl) (by kernel_rfl) (by kernel_rfl) rfl w
theorem rword_23   (w : World) :
    Calls Try.prog 25 #[(.agg #[(.bool true), (.bool true), (.bool true), (.bool false), (.bool true), (.bool false)])] w fun e w' => e = .returned (.int .u32 151) ∧ RowKit.Below w.heap.size w w' :=
  wayp C0_ok (lf := 1000) (d := 50) (args := [(.agg [(.lit (.bool true)), (.lit (.bool true)), (.lit (.bool true)), (.lit (.bool false)), (.lit (.bool true)), (.lit (.bool false))])]) (ds := []) (nx := 0) (v := (.w (.c (.lit (.int .u32 151)))))
    (log := [])
    (ρ := env0)
    (Pr := ((.int .u32 151) : Value) = (.int .u32 151))
    (by kernel_rfl) (by kernel_rfl) (by kernel_rfl) (by kernel_rfl) rfl w
theorem rword_24   (w : World) :
    Calls Try.prog 25 #[(.agg #[(.bool false), (.bool false), (.bool false), (.bool true), (.bool true), (.bool false)])] w fun e w' => e = .returned (.int .u32 194) ∧ RowKit.Below w.heap.size w w' :=
  wayp C0_ok (lf := 1000) (d := 50) (args := [(.agg [(.lit (.bool false)), (.lit (.bool false)), (.lit (.bool false)), (.lit (.bool true)), (.lit (.bool true)), (.lit (.bool false))])]) (ds := []) (nx := 0) (v := (.w (.c (.lit (.int .u32 194)))))
    (log := [])
    (ρ := env0)
    (Pr := ((.int .u32 194) : Value) = (.int .u32 194))
    (by kernel_rfl) (by kernel_rfl) (by kernel_rfl) (by kernel_rfl) rfl w
theorem rword_25   (w : World) :
    Calls Try.prog 25 #[(.agg #[(.bool true), (.bool false), (.bool false), (.bool true), (.bool true), (.bool false)])] w fun e w' => e = .returned (.int .u32 195) ∧ RowKit.Below w.heap.size w w' :=
  wayp C0_ok (lf := 1000) (d := 50) (args := [(.agg [(.lit (.bool true)), (.lit (.bool false)), (.lit (.bool false)), (.lit (.bool true)), (.lit (.bool true)), (.lit (.bool false))])]) (ds := []) (nx := 0) (v := (.w (.c (.lit (.int .u32 195)))))
    (log := [])
    (ρ := env0)
    (Pr := ((.int .u32 195) : Value) = (.int .u32 195))
    (by kernel_rfl) (by kernel_rfl) (by kernel_rfl) (by kernel_rfl) rfl w
theorem rword_26   (w : World) :
    Calls Try.prog 25 #[(.agg #[(.bool false), (.bool true), (.bool false), (.bool true), (.bool true), (.bool false)])] w fun e w' => e = .returned (.int .u32 198) ∧ RowKit.Below w.heap.size w w' :=
  wayp C0_ok (lf := 1000) (d := 50) (args := [(.agg [(.lit (.bool false)), (.lit (.bool true)), (.lit (.bool false)), (.lit (.bool true)), (.lit (.bool true)), (.lit (.bool false))])]) (ds := []) (nx := 0) (v := (.w (.c (.lit (.int .u32 198)))))
    (log := [])
    (ρ := env0)
    (Pr := ((.int .u32 198) : Value) = (.int .u32 198))
    (by kernel_rfl) (by kernel_rfl) (by kernel_rfl) (by kernel_rfl) rfl w
theorem rword_27   (w : World) :
    Calls Try.prog 25 #[(.agg #[(.bool true), (.bool true), (.bool false), (.bool true), (.bool true), (.bool false)])] w fun e w' => e = .returned (.int .u32 199) ∧ RowKit.Below w.heap.size w w' :=
  wayp C0_ok (lf := 1000) (d := 50) (args := [(.agg [(.lit (.bool true)), (.lit (.bool true)), (.lit (.bool false)), (.lit (.bool true)), (.lit (.bool true)), (.lit (.bool false))])]) (ds := []) (nx := 0) (v := (.w (.c (.lit (.int .u32 199)))))
    (log := [])
    (ρ := env0)
    (Pr := ((.int .u32 199) : Value) = (.int .u32 199))
    (by kernel_rfl) (by kernel_rfl) (by kernel_rfl) (by kernel_rfl) rfl w
theorem rword_28   (w : World) :
    Calls Try.prog 25 #[(.agg #[(.bool false), (.bool false), (.bool true), (.bool true), (.bool true), (.bool false)])] w fun e w' => e = .returned (.int .u32 210) ∧ RowKit.Below w.heap.size w w' :=
  wayp C0_ok (lf := 1000) (d := 50) (args := [(.agg [(.lit (.bool false)), (.lit (.bool false)), (.lit (.bool true)), (.lit (.bool true)), (.lit (.bool true)), (.lit (.bool false))])]) (ds := []) (nx := 0) (v := (.w (.c (.lit (.int .u32 210)))))
    (log := [])
    (ρ := env0)
    (Pr := ((.int .u32 210) : Value) = (.int .u32 210))
    (by kernel_rfl) (by kernel_rfl) (by kernel_rfl) (by kernel_rfl) rfl w
theorem rword_29   (w : World) :
    Calls Try.prog 25 #[(.agg #[(.bool true), (.bool false), (.bool true), (.bool true), (.bool true), (.bool false)])] w fun e w' => e = .returned (.int .u32 211) ∧ RowKit.Below w.heap.size w w' :=
  wayp C0_ok (lf := 1000) (d := 50) (args := [(.agg [(.lit (.bool true)), (.lit (.bool false)), (.lit (.bool true)), (.lit (.bool true)), (.lit (.bool true)), (.lit (.bool false))])]) (ds := []) (nx := 0) (v := (.w (.c (.lit (.int .u32 211)))))
    (log := [])
    (ρ := env0)
    (Pr := ((.int .u32 211) : Value) = (.int .u32 211))
    (by kernel_rfl) (by kernel_rfl) (by kernel_rfl) (by kernel_rfl) rfl w
theorem rword_30   (w : World) :
    Calls Try.prog 25 #[(.agg #[(.bool false), (.bool true), (.bool true), (.bool true), (.bool true), (.bool false)])] w fun e w' => e = .returned (.int .u32 214) ∧ RowKit.Below w.heap.size w w' :=
  wayp C0_ok (lf := 1000) (d := 50) (args := [(.agg [(.lit (.bool false)), (.lit (.bool true)), (.lit (.bool true)), (.lit (.bool true)), (.lit (.bool true)), (.lit (.bool false))])]) (ds := []) (nx := 0) (v := (.w (.c (.lit (.int .u32 214)))))
    (log := [])
    (ρ := env0)
    (Pr := ((.int .u32 214) : Value) = (.int .u32 214))
    (by kernel_rfl) (by kernel_rfl) (by kernel_rfl) (by kernel_rfl) rfl w
theorem rword_31   (w : World) :
    Calls Try.prog 25 #[(.agg #[(.bool true), (.bool true), (.bool true), (.bool true), (.bool true), (.bool false)])] w fun e w' => e = .returned (.int .u32 215) ∧ RowKit.Below w.heap.size w w' :=
  wayp C0_ok (lf := 1000) (d := 50) (args := [(.agg [(.lit (.bool true)), (.lit (.bool true)), (.lit (.bool true)), (.lit (.bool true)), (.lit (.bool true)), (.lit (.bool false))])]) (ds := []) (nx := 0) (v := (.w (.c (.lit (.int .u32 215)))))
    (log := [])
    (ρ := env0)
    (Pr := ((.int .u32 215) : Value) = (.int .u32 215))
    (by kernel_rfl) (by kernel_rfl) (by kernel_rfl) (by kernel_rfl) rfl w
theorem rword_32   (w : World) :
    Calls Try.prog 25 #[(.agg #[(.bool false), (.bool false), (.bool false), (.bool false), (.bool false), (.bool true)])] w fun e w' => e = .returned (.int .u32 2050) ∧ RowKit.Below w.heap.size w w' :=
  wayp C0_ok (lf := 1000) (d := 50) (args := [(.agg [(.lit (.bool false)), (.lit (.bool false)), (.lit (.bool false)), (.lit (.bool false)), (.lit (.bool false)), (.lit (.bool true))])]) (ds := []) (nx := 0) (v := (.w (.c (.lit (.int .u32 2050)))))
    (log := [])
    (ρ := env0)
    (Pr := ((.int .u32 2050) : Value) = (.int .u32 2050))
    (by kernel_rfl) (by kernel_rfl) (by kernel_rfl) (by kernel_rfl) rfl w
theorem rword_33   (w : World) :
    Calls Try.prog 25 #[(.agg #[(.bool true), (.bool false), (.bool false), (.bool false), (.bool false), (.bool true)])] w fun e w' => e = .returned (.int .u32 2051) ∧ RowKit.Below w.heap.size w w' :=
  wayp C0_ok (lf := 1000) (d := 50) (args := [(.agg [(.lit (.bool true)), (.lit (.bool false)), (.lit (.bool false)), (.lit (.bool false)), (.lit (.bool false)), (.lit (.bool true))])]) (ds := []) (nx := 0) (v := (.w (.c (.lit (.int .u32 2051)))))
    (log := [])
    (ρ := env0)
    (Pr := ((.int .u32 2051) : Value) = (.int .u32 2051))
    (by kernel_rfl) (by kernel_rfl) (by kernel_rfl) (by kernel_rfl) rfl w
theorem rword_34   (w : World) :
    Calls Try.prog 25 #[(.agg #[(.bool false), (.bool true), (.bool false), (.bool false), (.bool false), (.bool true)])] w fun e w' => e = .returned (.int .u32 2054) ∧ RowKit.Below w.heap.size w w' :=
  wayp C0_ok (lf := 1000) (d := 50) (args := [(.agg [(.lit (.bool false)), (.lit (.bool true)), (.lit (.bool false)), (.lit (.bool false)), (.lit (.bool false)), (.lit (.bool true))])]) (ds := []) (nx := 0) (v := (.w (.c (.lit (.int .u32 2054)))))
    (log := [])
    (ρ := env0)
    (Pr := ((.int .u32 2054) : Value) = (.int .u32 2054))
    (by kernel_rfl) (by kernel_rfl) (by kernel_rfl) (by kernel_rfl) rfl w
theorem rword_35   (w : World) :
    Calls Try.prog 25 #[(.agg #[(.bool true), (.bool true), (.bool false), (.bool false), (.bool false), (.bool true)])] w fun e w' => e = .returned (.int .u32 2055) ∧ RowKit.Below w.heap.size w w' :=
  wayp C0_ok (lf := 1000) (d := 50) (args := [(.agg [(.lit (.bool true)), (.lit (.bool true)), (.lit (.bool false)), (.lit (.bool false)), (.lit (.bool false)), (.lit (.bool true))])]) (ds := []) (nx := 0) (v := (.w (.c (.lit (.int .u32 2055)))))
    (log := [])
    (ρ := env0)
    (Pr := ((.int .u32 2055) : Value) = (.int .u32 2055))
    (by kernel_rfl) (by kernel_rfl) (by kernel_rfl) (by kernel_rfl) rfl w
theorem rword_36   (w : World) :
    Calls Try.prog 25 #[(.agg #[(.bool false), (.bool false), (.bool true), (.bool false), (.bool false), (.bool true)])] w fun e w' => e = .returned (.int .u32 2066) ∧ RowKit.Below w.heap.size w w' :=
  wayp C0_ok (lf := 1000) (d := 50) (args := [(.agg [(.lit (.bool false)), (.lit (.bool false)), (.lit (.bool true)), (.lit (.bool false)), (.lit (.bool false)), (.lit (.bool true))])]) (ds := []) (nx := 0) (v := (.w (.c (.lit (.int .u32 2066)))))
    (log := [])
    (ρ := env0)
    (Pr := ((.int .u32 2066) : Value) = (.int .u32 2066))
    (by kernel_rfl) (by kernel_rfl) (by kernel_rfl) (by kernel_rfl) rfl w
theorem rword_37   (w : World) :
    Calls Try.prog 25 #[(.agg #[(.bool true), (.bool false), (.bool true), (.bool false), (.bool false), (.bool true)])] w fun e w' => e = .returned (.int .u32 2067) ∧ RowKit.Below w.heap.size w w' :=
  wayp C0_ok (lf := 1000) (d := 50) (args := [(.agg [(.lit (.bool true)), (.lit (.bool false)), (.lit (.bool true)), (.lit (.bool false)), (.lit (.bool false)), (.lit (.bool true))])]) (ds := []) (nx := 0) (v := (.w (.c (.lit (.int .u32 2067)))))
    (log := [])
    (ρ := env0)
    (Pr := ((.int .u32 2067) : Value) = (.int .u32 2067))
    (by kernel_rfl) (by kernel_rfl) (by kernel_rfl) (by kernel_rfl) rfl w
theorem rword_38   (w : World) :
    Calls Try.prog 25 #[(.agg #[(.bool false), (.bool true), (.bool true), (.bool false), (.bool false), (.bool true)])] w fun e w' => e = .returned (.int .u32 2070) ∧ RowKit.Below w.heap.size w w' :=
  wayp C0_ok (lf := 1000) (d := 50) (args := [(.agg [(.lit (.bool false)), (.lit (.bool true)), (.lit (.bool true)), (.lit (.bool false)), (.lit (.bool false)), (.lit (.bool true))])]) (ds := []) (nx := 0) (v := (.w (.c (.lit (.int .u32 2070)))))
    (log := [])
    (ρ := env0)
    (Pr := ((.int .u32 2070) : Value) = (.int .u32 2070))
    (by kernel_rfl) (by kernel_rfl) (by kernel_rfl) (by kernel_rfl) rfl w
theorem rword_39   (w : World) :
    Calls Try.prog 25 #[(.agg #[(.bool true), (.bool true), (.bool true), (.bool false), (.bool false), (.bool true)])] w fun e w' => e = .returned (.int .u32 2071) ∧ RowKit.Below w.heap.size w w' :=
  wayp C0_ok (lf := 1000) (d := 50) (args := [(.agg [(.lit (.bool true)), (.lit (.bool true)), (.lit (.bool true)), (.lit (.bool false)), (.lit (.bool false)), (.lit (.bool true))])]) (ds := []) (nx := 0) (v := (.w (.c (.lit (.int .u32 2071)))))
    (log := [])
    (ρ := env0)
    (Pr := ((.int .u32 2071) : Value) = (.int .u32 2071))
    (by kernel_rfl) (by kernel_rfl) (by kernel_rfl) (by kernel_rfl) rfl w
theorem rword_40   (w : World) :
    Calls Try.prog 25 #[(.agg #[(.bool false), (.bool false), (.bool false), (.bool true), (.bool false), (.bool true)])] w fun e w' => e = .returned (.int .u32 2114) ∧ RowKit.Below w.heap.size w w' :=
  wayp C0_ok (lf := 1000) (d := 50) (args := [(.agg [(.lit (.bool false)), (.lit (.bool false)), (.lit (.bool false)), (.lit (.bool true)), (.lit (.bool false)), (.lit (.bool true))])]) (ds := []) (nx := 0) (v := (.w (.c (.lit (.int .u32 2114)))))
    (log := [])
    (ρ := env0)
    (Pr := ((.int .u32 2114) : Value) = (.int .u32 2114))
    (by kernel_rfl) (by kernel_rfl) (by kernel_rfl) (by kernel_rfl) rfl w
theorem rword_41   (w : World) :
    Calls Try.prog 25 #[(.agg #[(.bool true), (.bool false), (.bool false), (.bool true), (.bool false), (.bool true)])] w fun e w' => e = .returned (.int .u32 2115) ∧ RowKit.Below w.heap.size w w' :=
  wayp C0_ok (lf := 1000) (d := 50) (args := [(.agg [(.lit (.bool true)), (.lit (.bool false)), (.lit (.bool false)), (.lit (.bool true)), (.lit (.bool false)), (.lit (.bool true))])]) (ds := []) (nx := 0) (v := (.w (.c (.lit (.int .u32 2115)))))
    (log := [])
    (ρ := env0)
    (Pr := ((.int .u32 2115) : Value) = (.int .u32 2115))
    (by kernel_rfl) (by kernel_rfl) (by kernel_rfl) (by kernel_rfl) rfl w
theorem rword_42   (w : World) :
    Calls Try.prog 25 #[(.agg #[(.bool false), (.bool true), (.bool false), (.bool true), (.bool false), (.bool true)])] w fun e w' => e = .returned (.int .u32 2118) ∧ RowKit.Below w.heap.size w w' :=
  wayp C0_ok (lf := 1000) (d := 50) (args := [(.agg [(.lit (.bool false)), (.lit (.bool true)), (.lit (.bool false)), (.lit (.bool true)), (.lit (.bool false)), (.lit (.bool true))])]) (ds := []) (nx := 0) (v := (.w (.c (.lit (.int .u32 2118)))))
    (log := [])
    (ρ := env0)
    (Pr := ((.int .u32 2118) : Value) = (.int .u32 2118))
    (by kernel_rfl) (by kernel_rfl) (by kernel_rfl) (by kernel_rfl) rfl w
theorem rword_43   (w : World) :
    Calls Try.prog 25 #[(.agg #[(.bool true), (.bool true), (.bool false), (.bool true), (.bool false), (.bool true)])] w fun e w' => e = .returned (.int .u32 2119) ∧ RowKit.Below w.heap.size w w' :=
  wayp C0_ok (lf := 1000) (d := 50) (args := [(.agg [(.lit (.bool true)), (.lit (.bool true)), (.lit (.bool false)), (.lit (.bool true)), (.lit (.bool false)), (.lit (.bool true))])]) (ds := []) (nx := 0) (v := (.w (.c (.lit (.int .u32 2119)))))
    (log := [])
    (ρ := env0)
    (Pr := ((.int .u32 2119) : Value) = (.int .u32 2119))
    (by kernel_rfl) (by kernel_rfl) (by kernel_rfl) (by kernel_rfl) rfl w
theorem rword_44   (w : World) :
    Calls Try.prog 25 #[(.agg #[(.bool false), (.bool false), (.bool true), (.bool true), (.bool false), (.bool true)])] w fun e w' => e = .returned (.int .u32 2130) ∧ RowKit.Below w.heap.size w w' :=
  wayp C0_ok (lf := 1000) (d := 50) (args := [(.agg [(.lit (.bool false)), (.lit (.bool false)), (.lit (.bool true)), (.lit (.bool true)), (.lit (.bool false)), (.lit (.bool true))])]) (ds := []) (nx := 0) (v := (.w (.c (.lit (.int .u32 2130)))))
    (log := [])
    (ρ := env0)
    (Pr := ((.int .u32 2130) : Value) = (.int .u32 2130))
    (by kernel_rfl) (by kernel_rfl) (by kernel_rfl) (by kernel_rfl) rfl w
theorem rword_45   (w : World) :
    Calls Try.prog 25 #[(.agg #[(.bool true), (.bool false), (.bool true), (.bool true), (.bool false), (.bool true)])] w fun e w' => e = .returned (.int .u32 2131) ∧ RowKit.Below w.heap.size w w' :=
  wayp C0_ok (lf := 1000) (d := 50) (args := [(.agg [(.lit (.bool true)), (.lit (.bool false)), (.lit (.bool true)), (.lit (.bool true)), (.lit (.bool false)), (.lit (.bool true))])]) (ds := []) (nx := 0) (v := (.w (.c (.lit (.int .u32 2131)))))
    (log := [])
    (ρ := env0)
    (Pr := ((.int .u32 2131) : Value) = (.int .u32 2131))
    (by kernel_rfl) (by kernel_rfl) (by kernel_rfl) (by kernel_rfl) rfl w
theorem rword_46   (w : World) :
    Calls Try.prog 25 #[(.agg #[(.bool false), (.bool true), (.bool true), (.bool true), (.bool false), (.bool true)])] w fun e w' => e = .returned (.int .u32 2134) ∧ RowKit.Below w.heap.size w w' :=
  wayp C0_ok (lf := 1000) (d := 50) (args := [(.agg [(.lit (.bool false)), (.lit (.bool true)), (.lit (.bool true)), (.lit (.bool true)), (.lit (.bool false)), (.lit (.bool true))])]) (ds := []) (nx := 0) (v := (.w (.c (.lit (.int .u32 2134)))))
    (log := [])
    (ρ := env0)
    (Pr := ((.int .u32 2134) : Value) = (.int .u32 2134))
    (by kernel_rfl) (by kernel_rfl) (by kernel_rfl) (by kernel_rfl) rfl w
theorem rword_47   (w : World) :
    Calls Try.prog 25 #[(.agg #[(.bool true), (.bool true), (.bool true), (.bool true), (.bool false), (.bool true)])] w fun e w' => e = .returned (.int .u32 2135) ∧ RowKit.Below w.heap.size w w' :=
  wayp C0_ok (lf := 1000) (d := 50) (args := [(.agg [(.lit (.bool true)), (.lit (.bool true)), (.lit (.bool true)), (.lit (.bool true)), (.lit (.bool false)), (.lit (.bool true))])]) (ds := []) (nx := 0) (v := (.w (.c (.lit (.int .u32 2135)))))
    (log := [])
    (ρ := env0)
    (Pr := ((.int .u32 2135) : Value) = (.int .u32 2135))
    (by kernel_rfl) (by kernel_rfl) (by kernel_rfl) (by kernel_rfl) rfl w
theorem rword_48   (w : World) :
    Calls Try.prog 25 #[(.agg #[(.bool false), (.bool false), (.bool false), (.bool false), (.bool true), (.bool true)])] w fun e w' => e = .returned (.int .u32 2178) ∧ RowKit.Below w.heap.size w w' :=
  wayp C0_ok (lf := 1000) (d := 50) (args := [(.agg [(.lit (.bool false)), (.lit (.bool false)), (.lit (.bool false)), (.lit (.bool false)), (.lit (.bool true)), (.lit (.bool true))])]) (ds := []) (nx := 0) (v := (.w (.c (.lit (.int .u32 2178)))))
    (log := [])
    (ρ := env0)
    (Pr := ((.int .u32 2178) : Value) = (.int .u32 2178))
    (by kernel_rfl) (by kernel_rfl) (by kernel_rfl) (by kernel_rfl) rfl w
theorem rword_49   (w : World) :
    Calls Try.prog 25 #[(.agg #[(.bool true), (.bool false), (.bool false), (.bool false), (.bool true), (.bool true)])] w fun e w' => e = .returned (.int .u32 2179) ∧ RowKit.Below w.heap.size w w' :=
  wayp C0_ok (lf := 1000) (d := 50) (args := [(.agg [(.lit (.bool true)), (.lit (.bool false)), (.lit (.bool false)), (.lit (.bool false)), (.lit (.bool true)), (.lit (.bool true))])]) (ds := []) (nx := 0) (v := (.w (.c (.lit (.int .u32 2179)))))
    (log := [])
    (ρ := env0)
    (Pr := ((.int .u32 2179) : Value) = (.int .u32 2179))
    (by kernel_rfl) (by kernel_rfl) (by kernel_rfl) (by kernel_rfl) rfl w
theorem rword_50   (w : World) :
    Calls Try.prog 25 #[(.agg #[(.bool false), (.bool true), (.bool false), (.bool false), (.bool true), (.bool true)])] w fun e w' => e = .returned (.int .u32 2182) ∧ RowKit.Below w.heap.size w w' :=
  wayp C0_ok (lf := 1000) (d := 50) (args := [(.agg [(.lit (.bool false)), (.lit (.bool true)), (.lit (.bool false)), (.lit (.bool false)), (.lit (.bool true)), (.lit (.bool true))])]) (ds := []) (nx := 0) (v := (.w (.c (.lit (.int .u32 2182)))))
    (log := [])
    (ρ := env0)
    (Pr := ((.int .u32 2182) : Value) = (.int .u32 2182))
    (by kernel_rfl) (by kernel_rfl) (by kernel_rfl) (by kernel_rfl) rfl w
theorem rword_51   (w : World) :
    Calls Try.prog 25 #[(.agg #[(.bool true), (.bool true), (.bool false), (.bool false), (.bool true), (.bool true)])] w fun e w' => e = .returned (.int .u32 2183) ∧ RowKit.Below w.heap.size w w' :=
  wayp C0_ok (lf := 1000) (d := 50) (args := [(.agg [(.lit (.bool true)), (.lit (.bool true)), (.lit (.bool false)), (.lit (.bool false)), (.lit (.bool true)), (.lit (.bool true))])]) (ds := []) (nx := 0) (v := (.w (.c (.lit (.int .u32 2183)))))
    (log := [])
    (ρ := env0)
    (Pr := ((.int .u32 2183) : Value) = (.int .u32 2183))
    (by kernel_rfl) (by kernel_rfl) (by kernel_rfl) (by kernel_rfl) rfl w
theorem rword_52   (w : World) :
    Calls Try.prog 25 #[(.agg #[(.bool false), (.bool false), (.bool true), (.bool false), (.bool true), (.bool true)])] w fun e w' => e = .returned (.int .u32 2194) ∧ RowKit.Below w.heap.size w w' :=
  wayp C0_ok (lf := 1000) (d := 50) (args := [(.agg [(.lit (.bool false)), (.lit (.bool false)), (.lit (.bool true)), (.lit (.bool false)), (.lit (.bool true)), (.lit (.bool true))])]) (ds := []) (nx := 0) (v := (.w (.c (.lit (.int .u32 2194)))))
    (log := [])
    (ρ := env0)
    (Pr := ((.int .u32 2194) : Value) = (.int .u32 2194))
    (by kernel_rfl) (by kernel_rfl) (by kernel_rfl) (by kernel_rfl) rfl w
theorem rword_53   (w : World) :
    Calls Try.prog 25 #[(.agg #[(.bool true), (.bool false), (.bool true), (.bool false), (.bool true), (.bool true)])] w fun e w' => e = .returned (.int .u32 2195) ∧ RowKit.Below w.heap.size w w' :=
  wayp C0_ok (lf := 1000) (d := 50) (args := [(.agg [(.lit (.bool true)), (.lit (.bool false)), (.lit (.bool true)), (.lit (.bool false)), (.lit (.bool true)), (.lit (.bool true))])]) (ds := []) (nx := 0) (v := (.w (.c (.lit (.int .u32 2195)))))
    (log := [])
    (ρ := env0)
    (Pr := ((.int .u32 2195) : Value) = (.int .u32 2195))
    (by kernel_rfl) (by kernel_rfl) (by kernel_rfl) (by kernel_rfl) rfl w
theorem rword_54   (w : World) :
    Calls Try.prog 25 #[(.agg #[(.bool false), (.bool true), (.bool true), (.bool false), (.bool true), (.bool true)])] w fun e w' => e = .returned (.int .u32 2198) ∧ RowKit.Below w.heap.size w w' :=
  wayp C0_ok (lf := 1000) (d := 50) (args := [(.agg [(.lit (.bool false)), (.lit (.bool true)), (.lit (.bool true)), (.lit (.bool false)), (.lit (.bool true)), (.lit (.bool true))])]) (ds := []) (nx := 0) (v := (.w (.c (.lit (.int .u32 2198)))))
    (log := [])
    (ρ := env0)
    (Pr := ((.int .u32 2198) : Value) = (.int .u32 2198))
    (by kernel_rfl) (by kernel_rfl) (by kernel_rfl) (by kernel_rfl) rfl w
theorem rword_55   (w : World) :
    Calls Try.prog 25 #[(.agg #[(.bool true), (.bool true), (.bool true), (.bool false), (.bool true), (.bool true)])] w fun e w' => e = .returned (.int .u32 2199) ∧ RowKit.Below w.heap.size w w' :=
  wayp C0_ok (lf := 1000) (d := 50) (args := [(.agg [(.lit (.bool true)), (.lit (.bool true)), (.lit (.bool true)), (.lit (.bool false)), (.lit (.bool true)), (.lit (.bool true))])]) (ds := []) (nx := 0) (v := (.w (.c (.lit (.int .u32 2199)))))
    (log := [])
    (ρ := env0)
    (Pr := ((.int .u32 2199) : Value) = (.int .u32 2199))
    (by kernel_rfl) (by kernel_rfl) (by kernel_rfl) (by kernel_rfl) rfl w
theorem rword_56   (w : World) :
    Calls Try.prog 25 #[(.agg #[(.bool false), (.bool false), (.bool false), (.bool true), (.bool true), (.bool true)])] w fun e w' => e = .returned (.int .u32 2242) ∧ RowKit.Below w.heap.size w w' :=
  wayp C0_ok (lf := 1000) (d := 50) (args := [(.agg [(.lit (.bool false)), (.lit (.bool false)), (.lit (.bool false)), (.lit (.bool true)), (.lit (.bool true)), (.lit (.bool true))])]) (ds := []) (nx := 0) (v := (.w (.c (.lit (.int .u32 2242)))))
    (log := [])
    (ρ := env0)
    (Pr := ((.int .u32 2242) : Value) = (.int .u32 2242))
    (by kernel_rfl) (by kernel_rfl) (by kernel_rfl) (by kernel_rfl) rfl w
theorem rword_57   (w : World) :
    Calls Try.prog 25 #[(.agg #[(.bool true), (.bool false), (.bool false), (.bool true), (.bool true), (.bool true)])] w fun e w' => e = .returned (.int .u32 2243) ∧ RowKit.Below w.heap.size w w' :=
  wayp C0_ok (lf := 1000) (d := 50) (args := [(.agg [(.lit (.bool true)), (.lit (.bool false)), (.lit (.bool false)), (.lit (.bool true)), (.lit (.bool true)), (.lit (.bool true))])]) (ds := []) (nx := 0) (v := (.w (.c (.lit (.int .u32 2243)))))
    (log := [])
    (ρ := env0)
    (Pr := ((.int .u32 2243) : Value) = (.int .u32 2243))
    (by kernel_rfl) (by kernel_rfl) (by kernel_rfl) (by kernel_rfl) rfl w
theorem rword_58   (w : World) :
    Calls Try.prog 25 #[(.agg #[(.bool false), (.bool true), (.bool false), (.bool true), (.bool true), (.bool true)])] w fun e w' => e = .returned (.int .u32 2246) ∧ RowKit.Below w.heap.size w w' :=
  wayp C0_ok (lf := 1000) (d := 50) (args := [(.agg [(.lit (.bool false)), (.lit (.bool true)), (.lit (.bool false)), (.lit (.bool true)), (.lit (.bool true)), (.lit (.bool true))])]) (ds := []) (nx := 0) (v := (.w (.c (.lit (.int .u32 2246)))))
    (log := [])
    (ρ := env0)
    (Pr := ((.int .u32 2246) : Value) = (.int .u32 2246))
    (by kernel_rfl) (by kernel_rfl) (by kernel_rfl) (by kernel_rfl) rfl w
theorem rword_59   (w : World) :
    Calls Try.prog 25 #[(.agg #[(.bool true), (.bool true), (.bool false), (.bool true), (.bool true), (.bool true)])] w fun e w' => e = .returned (.int .u32 2247) ∧ RowKit.Below w.heap.size w w' :=
  wayp C0_ok (lf := 1000) (d := 50) (args := [(.agg [(.lit (.bool true)), (.lit (.bool true)), (.lit (.bool false)), (.lit (.bool true)), (.lit (.bool true)), (.lit (.bool true))])]) (ds := []) (nx := 0) (v := (.w (.c (.lit (.int .u32 2247)))))
    (log := [])
    (ρ := env0)
    (Pr := ((.int .u32 2247) : Value) = (.int .u32 2247))
    (by kernel_rfl) (by kernel_rfl) (by kernel_rfl) (by kernel_rfl) rfl w
theorem rword_60   (w : World) :
    Calls Try.prog 25 #[(.agg #[(.bool false), (.bool false), (.bool true), (.bool true), (.bool true), (.bool true)])] w fun e w' => e = .returned (.int .u32 2258) ∧ RowKit.Below w.heap.size w w' :=
  wayp C0_ok (lf := 1000) (d := 50) (args := [(.agg [(.lit (.bool false)), (.lit (.bool false)), (.lit (.bool true)), (.lit (.bool true)), (.lit (.bool true)), (.lit (.bool true))])]) (ds := []) (nx := 0) (v := (.w (.c (.lit (.int .u32 2258)))))
    (log := [])
    (ρ := env0)
    (Pr := ((.int .u32 2258) : Value) = (.int .u32 2258))
    (by kernel_rfl) (by kernel_rfl) (by kernel_rfl) (by kernel_rfl) rfl w
theorem rword_61   (w : World) :
    Calls Try.prog 25 #[(.agg #[(.bool true), (.bool false), (.bool true), (.bool true), (.bool true), (.bool true)])] w fun e w' => e = .returned (.int .u32 2259) ∧ RowKit.Below w.heap.size w w' :=
  wayp C0_ok (lf := 1000) (d := 50) (args := [(.agg [(.lit (.bool true)), (.lit (.bool false)), (.lit (.bool true)), (.lit (.bool true)), (.lit (.bool true)), (.lit (.bool true))])]) (ds := []) (nx := 0) (v := (.w (.c (.lit (.int .u32 2259)))))
    (log := [])
    (ρ := env0)
    (Pr := ((.int .u32 2259) : Value) = (.int .u32 2259))
    (by kernel_rfl) (by kernel_rfl) (by kernel_rfl) (by kernel_rfl) rfl w
theorem rword_62   (w : World) :
    Calls Try.prog 25 #[(.agg #[(.bool false), (.bool true), (.bool true), (.bool true), (.bool true), (.bool true)])] w fun e w' => e = .returned (.int .u32 2262) ∧ RowKit.Below w.heap.size w w' :=
  wayp C0_ok (lf := 1000) (d := 50) (args := [(.agg [(.lit (.bool false)), (.lit (.bool true)), (.lit (.bool true)), (.lit (.bool true)), (.lit (.bool true)), (.lit (.bool true))])]) (ds := []) (nx := 0) (v := (.w (.c (.lit (.int .u32 2262)))))
    (log := [])
    (ρ := env0)
    (Pr := ((.int .u32 2262) : Value) = (.int .u32 2262))
    (by kernel_rfl) (by kernel_rfl) (by kernel_rfl) (by kernel_rfl) rfl w
theorem rword_63   (w : World) :
    Calls Try.prog 25 #[(.agg #[(.bool true), (.bool true), (.bool true), (.bool true), (.bool true), (.bool true)])] w fun e w' => e = .returned (.int .u32 2263) ∧ RowKit.Below w.heap.size w w' :=
  wayp C0_ok (lf := 1000) (d := 50) (args := [(.agg [(.lit (.bool true)), (.lit (.bool true)), (.lit (.bool true)), (.lit (.bool true)), (.lit (.bool true)), (.lit (.bool true))])]) (ds := []) (nx := 0) (v := (.w (.c (.lit (.int .u32 2263)))))
    (log := [])
    (ρ := env0)
    (Pr := ((.int .u32 2263) : Value) = (.int .u32 2263))
    (by kernel_rfl) (by kernel_rfl) (by kernel_rfl) (by kernel_rfl) rfl w
theorem cond_0 (b0 : Bool) (b1 : Bool) (b2 : Bool) (b3 : Bool) (b4 : Bool) (b5 : Bool) (a6 : Int) (h0 : b0 = true) (h1 : b3 = true) (h2 : (ibin .quo .i64 (ibin .rem .i64 (ibin .add .i64 (ibin .rem .i64 a6 16) 16) 16) 2) = 0) (w : World) :
    Calls Try.prog 17 #[(.agg #[(.bool b0), (.bool b1), (.bool b2), (.bool b3), (.bool b4), (.bool b5)]), (.int .i64 a6)] w fun e w' => e = .returned (.bool (!((b5 == (icmp .eql (ibin .rem .i64 (ibin .rem .i64 (ibin .add .i64 (ibin .rem .i64 a6 16) 16) 16) 2) 1)) && true))) ∧ RowKit.Below w.heap.size w w' :=
  wayp C0_ok (lf := 1000) (d := 50) (args := [(.agg [(.bvar 0 false), (.bvar 1 false), (.bvar 2 false), (.bvar 3 false), (.bvar 4 false), (.bvar 5 false)]), (.c (.ivar .i64 6))]) (ds := [.db true, .db true, .di 0]) (nx := 7) (v := (.w (.c (.bvar 14 true))))
    (log := [.setI0 7 (.bin .rem .i64 (.var 6) (.lit 16)),
      .setI0 8 (.bin .add .i64 (.var 7) (.lit 16)),
      .setI0 9 (.bin .rem .i64 (.var 8) (.lit 16)),
      .decB 0 true,
      .setB0 10 (.all [(.bb (.var 4 false) (.var 5 false))]),
      .decB 3 true,
      .setI0 11 (.bin .quo .i64 (.var 9) (.lit 2)),
      .decI 11 0,
      .setI0 12 (.bin .rem .i64 (.var 9) (.lit 2)),
      .setB0 13 (.cmp .eql (.var 12) (.lit 1)),
      .setB0 14 (.all [(.bb (.var 5 false) (.var 13 false))])])
    (ρ := (((((((env0.setB 0 b0).setB 1 b1).setB 2 b2).setB 3 b3).setB 4 b4).setB 5 b5).setI 6 a6))
    (Pr := ((16 : Int) ≠ 0) ∧ (True) ∧ ((16 : Int) ≠ 0) ∧ (b0 = true) ∧ (True) ∧ (b3 = true) ∧ ((2 : Int) ≠ 0) ∧ ((ibin .quo .i64 (ibin .rem .i64 (ibin .add .i64 (ibin .rem .i64 a6 16) 16) 16) 2) = 0) ∧ ((2 : Int) ≠ 0) ∧ (True) ∧ (True) ∧ ((.bool (!((b5 == (icmp .eql (ibin .rem .i64 (ibin .rem .i64 (ibin .add .i64 (ibin .rem .i64 a6 16) 16) 16) 2) 1)) && true))) : Value) = (.bool (!((b5 == (icmp .eql (ibin .rem .i64 (ibin .rem .i64 (ibin .add .i64 (ibin .rem .i64 a6 16) 16) 16) 2) 1)) && true))))
    (by kernel_rfl) (by kernel_rfl) (by kernel_rfl) (by kernel_rfl) ⟨(by decide), trivial, (by decide), h0, trivial, h1, (by decide), h2, (by decide), trivial, trivial, rfl⟩ w
theorem cond_1 (b0 : Bool) (b1 : Bool) (b2 : Bool) (b3 : Bool) (b4 : Bool) (b5 : Bool) (a6 : Int) (h0 : b0 = true) (h1 : b3 = false) (h2 : (ibin .quo .i64 (ibin .rem .i64 (ibin .add .i64 (ibin .rem .i64 a6 16) 16) 16) 2) = 0) (w : World) :
    Calls Try.prog 17 #[(.agg #[(.bool b0), (.bool b1), (.bool b2), (.bool b3), (.bool b4), (.bool b5)]), (.int .i64 a6)] w fun e w' => e = .returned (.bool (!((b5 == (icmp .eql (ibin .rem .i64 (ibin .rem .i64 (ibin .add .i64 (ibin .rem .i64 a6 16) 16) 16) 2) 1)) && true))) ∧ RowKit.Below w.heap.size w w' :=
  wayp C0_ok (lf := 1000) (d := 50) (args := [(.agg [(.bvar 0 false), (.bvar 1 false), (.bvar 2 false), (.bvar 3 false), (.bvar 4 false), (.bvar 5 false)]), (.c (.ivar .i64 6))]) (ds := [.db true, .db false, .di 0]) (nx := 7) (v := (.w (.c (.bvar 15 true))))
    (log := [.setI0 7 (.bin .rem .i64 (.var 6) (.lit 16)),
      .setI0 8 (.bin .add .i64 (.var 7) (.lit 16)),
      .setI0 9 (.bin .rem .i64 (.var 8) (.lit 16)),
      .decB 0 true,
      .setB0 10 (.all [(.bb (.var 4 false) (.var 5 false))]),
      .decB 3 false,
      .setB0 11 (.all [(.bb (.var 4 false) (.var 5 false))]),
      .setI0 12 (.bin .quo .i64 (.var 9) (.lit 2)),
      .decI 12 0,
      .setI0 13 (.bin .rem .i64 (.var 9) (.lit 2)),
      .setB0 14 (.cmp .eql (.var 13) (.lit 1)),
      .setB0 15 (.all [(.bb (.var 5 false) (.var 14 false))])])
    (ρ := (((((((env0.setB 0 b0).setB 1 b1).setB 2 b2).setB 3 b3).setB 4 b4).setB 5 b5).setI 6 a6))
    (Pr := ((16 : Int) ≠ 0) ∧ (True) ∧ ((16 : Int) ≠ 0) ∧ (b0 = true) ∧ (True) ∧ (b3 = false) ∧ (True) ∧ ((2 : Int) ≠ 0) ∧ ((ibin .quo .i64 (ibin .rem .i64 (ibin .add .i64 (ibin .rem .i64 a6 16) 16) 16) 2) = 0) ∧ ((2 : Int) ≠ 0) ∧ (True) ∧ (True) ∧ ((.bool (!((b5 == (icmp .eql (ibin .rem .i64 (ibin .rem .i64 (ibin .add .i64 (ibin .rem .i64 a6 16) 16) 16) 2) 1)) && true))) : Value) = (.bool (!((b5 == (icmp .eql (ibin .rem .i64 (ibin .rem .i64 (ibin .add .i64 (ibin .rem .i64 a6 16) 16) 16) 2) 1)) && true))))
    (by kernel_rfl) (by kernel_rfl) (by kernel_rfl) (by kernel_rfl) ⟨(by decide), trivial, (by decide), h0, trivial, h1, trivial, (by decide), h2, (by decide), trivial, trivial, rfl⟩ w
theorem cond_2 (b0 : Bool) (b1 : Bool) (b2 : Bool) (b3 : Bool) (b4 : Bool) (b5 : Bool) (a6 : Int) (h0 : b0 = false) (h1 : b3 = true) (h2 : (ibin .quo .i64 (ibin .rem .i64 (ibin .add .i64 (ibin .rem .i64 a6 16) 16) 16) 2) = 0) (w : World) :
    Calls Try.prog 17 #[(.agg #[(.bool b0), (.bool b1), (.bool b2), (.bool b3), (.bool b4), (.bool b5)]), (.int .i64 a6)] w fun e w' => e = .returned (.bool (!((b5 == (icmp .eql (ibin .rem .i64 (ibin .rem .i64 (ibin .add .i64 (ibin .rem .i64 a6 16) 16) 16) 2) 1)) && true))) ∧ RowKit.Below w.heap.size w w' :=
  wayp C0_ok (lf := 1000) (d := 50) (args := [(.agg [(.bvar 0 false), (.bvar 1 false), (.bvar 2 false), (.bvar 3 false), (.bvar 4 false), (.bvar 5 false)]), (.c (.ivar .i64 6))]) (ds := [.db false, .db true, .di 0]) (nx := 7) (v := (.w (.c (.bvar 14 true))))
    (log := [.setI0 7 (.bin .rem .i64 (.var 6) (.lit 16)),
      .setI0 8 (.bin .add .i64 (.var 7) (.lit 16)),
      .setI0 9 (.bin .rem .i64 (.var 8) (.lit 16)),
      .decB 0 false,
      .setB0 10 (.all [(.bb (.var 4 false) (.var 5 false))]),
      .decB 3 true,
      .setI0 11 (.bin .quo .i64 (.var 9) (.lit 2)),
      .decI 11 0,
      .setI0 12 (.bin .rem .i64 (.var 9) (.lit 2)),
      .setB0 13 (.cmp .eql (.var 12) (.lit 1)),
      .setB0 14 (.all [(.bb (.var 5 false) (.var 13 false))])])
    (ρ := (((((((env0.setB 0 b0).setB 1 b1).setB 2 b2).setB 3 b3).setB 4 b4).setB 5 b5).setI 6 a6))
    (Pr := ((16 : Int) ≠ 0) ∧ (True) ∧ ((16 : Int) ≠ 0) ∧ (b0 = false) ∧ (True) ∧ (b3 = true) ∧ ((2 : Int) ≠ 0) ∧ ((ibin .quo .i64 (ibin .rem .i64 (ibin .add .i64 (ibin .rem .i64 a6 16) 16) 16) 2) = 0) ∧ ((2 : Int) ≠ 0) ∧ (True) ∧ (True) ∧ ((.bool (!((b5 == (icmp .eql (ibin .rem .i64 (ibin .rem .i64 (ibin .add .i64 (ibin .rem .i64 a6 16) 16) 16) 2) 1)) && true))) : Value) = (.bool (!((b5 == (icmp .eql (ibin .rem .i64 (ibin .rem .i64 (ibin .add .i64 (ibin .rem .i64 a6 16) 16) 16) 2) 1)) && true))))
    (by kernel_rfl) (by kernel_rfl) (by kernel_rfl) (by kernel_rfl) ⟨(by decide), trivial, (by decide), h0, trivial, h1, (by decide), h2, (by decide), trivial, trivial, rfl⟩ w
theorem cond_3 (b0 : Bool) (b1 : Bool) (b2 : Bool) (b3 : Bool) (b4 : Bool) (b5 : Bool) (a6 : Int) (h0 : b0 = false) (h1 : b3 = false) (h2 : (ibin .quo .i64 (ibin .rem .i64 (ibin .add .i64 (ibin .rem .i64 a6 16) 16) 16) 2) = 0) (w : World) :
    Calls Try.prog 17 #[(.agg #[(.bool b0), (.bool b1), (.bool b2), (.bool b3), (.bool b4), (.bool b5)]), (.int .i64 a6)] w fun e w' => e = .returned (.bool (!((b5 == (icmp .eql (ibin .rem .i64 (ibin .rem .i64 (ibin .add .i64 (ibin .rem .i64 a6 16) 16) 16) 2) 1)) && true))) ∧ RowKit.Below w.heap.size w w' :=
  wayp C0_ok (lf := 1000) (d := 50) (args := [(.agg [(.bvar 0 false), (.bvar 1 false), (.bvar 2 false), (.bvar 3 false), (.bvar 4 false), (.bvar 5 false)]), (.c (.ivar .i64 6))]) (ds := [.db false, .db false, .di 0]) (nx := 7) (v := (.w (.c (.bvar 15 true))))
    (log := [.setI0 7 (.bin .rem .i64 (.var 6) (.lit 16)),
      .setI0 8 (.bin .add .i64 (.var 7) (.lit 16)),
      .setI0 9 (.bin .rem .i64 (.var 8) (.lit 16)),
      .decB 0 false,
      .setB0 10 (.all [(.bb (.var 4 false) (.var 5 false))]),
      .decB 3 false,
      .setB0 11 (.all [(.bb (.var 4 false) (.var 5 false))]),
      .setI0 12 (.bin .quo .i64 (.var 9) (.lit 2)),
      .decI 12 0,
      .setI0 13 (.bin .rem .i64 (.var 9) (.lit 2)),
      .setB0 14 (.cmp .eql (.var 13) (.lit 1)),
      .setB0 15 (.all [(.bb (.var 5 false) (.var 14 false))])])
    (ρ := (((((((env0.setB 0 b0).setB 1 b1).setB 2 b2).setB 3 b3).setB 4 b4).setB 5 b5).setI 6 a6))
    (Pr := ((16 : Int) ≠ 0) ∧ (True) ∧ ((16 : Int) ≠ 0) ∧ (b0 = false) ∧ (True) ∧ (b3 = false) ∧ (True) ∧ ((2 : Int) ≠ 0) ∧ ((ibin .quo .i64 (ibin .rem .i64 (ibin .add .i64 (ibin .rem .i64 a6 16) 16) 16) 2) = 0) ∧ ((2 : Int) ≠ 0) ∧ (True) ∧ (True) ∧ ((.bool (!((b5 == (icmp .eql (ibin .rem .i64 (ibin .rem .i64 (ibin .add .i64 (ibin .rem .i64 a6 16) 16) 16) 2) 1)) && true))) : Value) = (.bool (!((b5 == (icmp .eql (ibin .rem .i64 (ibin .rem .i64 (ibin .add .i64 (ibin .rem .i64 a6 16) 16) 16) 2) 1)) && true))))
    (by kernel_rfl) (by kernel_rfl) (by kernel_rfl) (by kernel_rfl) ⟨(by decide), trivial, (by decide), h0, trivial, h1, trivial, (by decide), h2, (by decide), trivial, trivial, rfl⟩ w
theorem cond_4 (b0 : Bool) (b1 : Bool) (b2 : Bool) (b3 : Bool) (b4 : Bool) (b5 : Bool) (a6 : Int) (h0 : b0 = true) (h1 : b3 = true) (h2 : (ibin .quo .i64 (ibin .rem .i64 (ibin .add .i64 (ibin .rem .i64 a6 16) 16) 16) 2) = 1) (w : World) :
    Calls Try.prog 17 #[(.agg #[(.bool b0), (.bool b1), (.bool b2), (.bool b3), (.bool b4), (.bool b5)]), (.int .i64 a6)] w fun e w' => e = .returned (.bool (!((true == (icmp .eql (ibin .rem .i64 (ibin .rem .i64 (ibin .add .i64 (ibin .rem .i64 a6 16) 16) 16) 2) 1)) && true))) ∧ RowKit.Below w.heap.size w w' :=
  wayp C0_ok (lf := 1000) (d := 50) (args := [(.agg [(.bvar 0 false), (.bvar 1 false), (.bvar 2 false), (.bvar 3 false), (.bvar 4 false), (.bvar 5 false)]), (.c (.ivar .i64 6))]) (ds := [.db true, .db true, .di 1]) (nx := 7) (v := (.w (.c (.bvar 14 true))))
    (log := [.setI0 7 (.bin .rem .i64 (.var 6) (.lit 16)),
      .setI0 8 (.bin .add .i64 (.var 7) (.lit 16)),
      .setI0 9 (.bin .rem .i64 (.var 8) (.lit 16)),
      .decB 0 true,
      .setB0 10 (.all [(.bb (.var 4 false) (.var 5 false))]),
      .decB 3 true,
      .setI0 11 (.bin .quo .i64 (.var 9) (.lit 2)),
      .decI 11 1,
      .setI0 12 (.bin .rem .i64 (.var 9) (.lit 2)),
      .setB0 13 (.cmp .eql (.var 12) (.lit 1)),
      .setB0 14 (.all [(.bb (.lit true) (.var 13 false))])])
    (ρ := (((((((env0.setB 0 b0).setB 1 b1).setB 2 b2).setB 3 b3).setB 4 b4).setB 5 b5).setI 6 a6))
    (Pr := ((16 : Int) ≠ 0) ∧ (True) ∧ ((16 : Int) ≠ 0) ∧ (b0 = true) ∧ (True) ∧ (b3 = true) ∧ ((2 : Int) ≠ 0) ∧ ((ibin .quo .i64 (ibin .rem .i64 (ibin .add .i64 (ibin .rem .i64 a6 16) 16) 16) 2) = 1) ∧ ((2 : Int) ≠ 0) ∧ (True) ∧ (True) ∧ ((.bool (!((true == (icmp .eql (ibin .rem .i64 (ibin .rem .i64 (ibin .add .i64 (ibin .rem .i64 a6 16) 16) 16) 2) 1)) && true))) : Value) = (.bool (!((true == (icmp .eql (ibin .rem .i64 (ibin .rem .i64 (ibin .add .i64 (ibin .rem .i64 a6 16) 16) 16) 2) 1)) && true))))
    (by kernel_rfl) (by kernel_rfl) (by kernel_rfl) (by kernel_rfl) ⟨(by decide), trivial, (by decide), h0, trivial, h1, (by decide), h2, (by decide), trivial, trivial, rfl⟩ w
theorem cond_5 (b0 : Bool) (b1 : Bool) (b2 : Bool) (b3 : Bool) (b4 : Bool) (b5 : Bool) (a6 : Int) (h0 : b0 = true) (h1 : b3 = false) (h2 : (ibin .quo .i64 (ibin .rem .i64 (ibin .add .i64 (ibin .rem .i64 a6 16) 16) 16) 2) = 1) (w : World) :
    Calls Try.prog 17 #[(.agg #[(.bool b0), (.bool b1), (.bool b2), (.bool b3), (.bool b4), (.bool b5)]), (.int .i64 a6)] w fun e w' => e = .returned (.bool (!((true == (icmp .eql (ibin .rem .i64 (ibin .rem .i64 (ibin .add .i64 (ibin .rem .i64 a6 16) 16) 16) 2) 1)) && true))) ∧ RowKit.Below w.heap.size w w' :=
  wayp C0_ok (lf := 1000) (d := 50) (args := [(.agg [(.bvar 0 false), (.bvar 1 false), (.bvar 2 false), (.bvar 3 false), (.bvar 4 false), (.bvar 5 false)]), (.c (.ivar .i64 6))]) (ds := [.db true, .db false, .di 1]) (nx := 7) (v := (.w (.c (.bvar 15 true))))
    (log := [.setI0 7 (.bin .rem .i64 (.var 6) (.lit 16)),
      .setI0 8 (.bin .add .i64 (.var 7) (.lit 16)),
      .setI0 9 (.bin .rem .i64 (.var 8) (.lit 16)),
      .decB 0 true,
      .setB0 10 (.all [(.bb (.var 4 false) (.var 5 false))]),
      .decB 3 false,
      .setB0 11 (.all [(.bb (.var 4 false) (.var 5 false))]),
      .setI0 12 (.bin .quo .i64 (.var 9) (.lit 2)),
      .decI 12 1,
      .setI0 13 (.bin .rem .i64 (.var 9) (.lit 2)),
      .setB0 14 (.cmp .eql (.var 13) (.lit 1)),
      .setB0 15 (.all [(.bb (.lit true) (.var 14 false))])])
    (ρ := (((((((env0.setB 0 b0).setB 1 b1).setB 2 b2).setB 3 b3).setB 4 b4).setB 5 b5).setI 6 a6))
    (Pr := ((16 : Int) ≠ 0) ∧ (True) ∧ ((16 : Int) ≠ 0) ∧ (b0 = true) ∧ (True) ∧ (b3 = false) ∧ (True) ∧ ((2 : Int) ≠ 0) ∧ ((ibin .quo .i64 (ibin .rem .i64 (ibin .add .i64 (ibin .rem .i64 a6 16) 16) 16) 2) = 1) ∧ ((2 : Int) ≠ 0) ∧ (True) ∧ (True) ∧ ((.bool (!((true == (icmp .eql (ibin .rem .i64 (ibin .rem .i64 (ibin .add .i64 (ibin .rem .i64 a6 16) 16) 16) 2) 1)) && true))) : Value) = (.bool (!((true == (icmp .eql (ibin .rem .i64 (ibin .rem .i64 (ibin .add .i64 (ibin .rem .i64 a6 16) 16) 16) 2) 1)) && true))))
    (by kernel_rfl) (by kernel_rfl) (by kernel_rfl) (by kernel_rfl) ⟨(by decide), trivial, (by decide), h0, trivial, h1, trivial, (by decide), h2, (by decide), trivial, trivial, rfl⟩ w
theorem cond_6 (b0 : Bool) (b1 : Bool) (b2 : Bool) (b3 : Bool) (b4 : Bool) (b5 : Bool) (a6 : Int) (h0 : b0 = false) (h1 : b3 = true) (h2 : (ibin .quo .i64 (ibin .rem .i64 (ibin .add .i64 (ibin .rem .i64 a6 16) 16) 16) 2) = 1) (w : World) :
    Calls Try.prog 17 #[(.agg #[(.bool b0), (.bool b1), (.bool b2), (.bool b3), (.bool b4), (.bool b5)]), (.int .i64 a6)] w fun e w' => e = .returned (.bool (!((false == (icmp .eql (ibin .rem .i64 (ibin .rem .i64 (ibin .add .i64 (ibin .rem .i64 a6 16) 16) 16) 2) 1)) && true))) ∧ RowKit.Below w.heap.size w w' :=
  wayp C0_ok (lf := 1000) (d := 50) (args := [(.agg [(.bvar 0 false), (.bvar 1 false), (.bvar 2 false), (.bvar 3 false), (.bvar 4 false), (.bvar 5 false)]), (.c (.ivar .i64 6))]) (ds := [.db false, .db true, .di 1]) (nx := 7) (v := (.w (.c (.bvar 14 true))))
    (log := [.setI0 7 (.bin .rem .i64 (.var 6) (.lit 16)),
      .setI0 8 (.bin .add .i64 (.var 7) (.lit 16)),
      .setI0 9 (.bin .rem .i64 (.var 8) (.lit 16)),
      .decB 0 false,
      .setB0 10 (.all [(.bb (.var 4 false) (.var 5 false))]),
      .decB 3 true,
      .setI0 11 (.bin .quo .i64 (.var 9) (.lit 2)),
      .decI 11 1,
      .setI0 12 (.bin .rem .i64 (.var 9) (.lit 2)),
      .setB0 13 (.cmp .eql (.var 12) (.lit 1)),
      .setB0 14 (.all [(.bb (.lit false) (.var 13 false))])])
    (ρ := (((((((env0.setB 0 b0).setB 1 b1).setB 2 b2).setB 3 b3).setB 4 b4).setB 5 b5).setI 6 a6))
    (Pr := ((16 : Int) ≠ 0) ∧ (True) ∧ ((16 : Int) ≠ 0) ∧ (b0 = false) ∧ (True) ∧ (b3 = true) ∧ ((2 : Int) ≠ 0) ∧ ((ibin .quo .i64 (ibin .rem .i64 (ibin .add .i64 (ibin .rem .i64 a6 16) 16) 16) 2) = 1) ∧ ((2 : Int) ≠ 0) ∧ (True) ∧ (True) ∧ ((.bool (!((false == (icmp .eql (ibin .rem .i64 (ibin .rem .i64 (ibin .add .i64 (ibin .rem .i64 a6 16) 16) 16) 2) 1)) && true))) : Value) = (.bool (!((false == (icmp .eql (ibin .rem .i64 (ibin .rem .i64 (ibin .add .i64 (ibin .rem .i64 a6 16) 16) 16) 2) 1)) && true))))
    (by kernel_rfl) (by kernel_rfl) (by kernel_rfl) (by kernel_rfl) ⟨(by decide), trivial, (by decide), h0, trivial, h1, (by decide), h2, (by decide), trivial, trivial, rfl⟩ w
theorem cond_7 (b0 : Bool) (b1 : Bool) (b2 : Bool) (b3 : Bool) (b4 : Bool) (b5 : Bool) (a6 : Int) (h0 : b0 = false) (h1 : b3 = false) (h2 : (ibin .quo .i64 (ibin .rem .i64 (ibin .add .i64 (ibin .rem .i64 a6 16) 16) 16) 2) = 1) (w : World) :
    Calls Try.prog 17 #[(.agg #[(.bool b0), (.bool b1), (.bool b2), (.bool b3), (.bool b4), (.bool b5)]), (.int .i64 a6)] w fun e w' => e = .returned (.bool (!((false == (icmp .eql (ibin .rem .i64 (ibin .rem .i64 (ibin .add .i64 (ibin .rem .i64 a6 16) 16) 16) 2) 1)) && true))) ∧ RowKit.Below w.heap.size w w' :=
  wayp C0_ok (lf := 1000) (d := 50) (args := [(.agg [(.bvar 0 false), (.bvar 1 false), (.bvar 2 false), (.bvar 3 false), (.bvar 4 false), (.bvar 5 false)]), (.c (.ivar .i64 6))]) (ds := [.db false, .db false, .di 1]) (nx := 7) (v := (.w (.c (.bvar 15 true))))
    (log := [.setI0 7 (.bin .rem .i64 (.var 6) (.lit 16)),
      .setI0 8 (.bin .add .i64 (.var 7) (.lit 16)),
      .setI0 9 (.bin .rem .i64 (.var 8) (.lit 16)),
      .decB 0 false,
      .setB0 10 (.all [(.bb (.var 4 false) (.var 5 false))]),
      .decB 3 false,
      .setB0 11 (.all [(.bb (.var 4 false) (.var 5 false))]),
      .setI0 12 (.bin .quo .i64 (.var 9) (.lit 2)),
      .decI 12 1,
      .setI0 13 (.bin .rem .i64 (.var 9) (.lit 2)),
      .setB0 14 (.cmp .eql (.var 13) (.lit 1)),
      .setB0 15 (.all [(.bb (.lit false) (.var 14 false))])])
    (ρ := (((((((env0.setB 0 b0).setB 1 b1).setB 2 b2).setB 3 b3).setB 4 b4).setB 5 b5).setI 6 a6))
    (Pr := ((16 : Int) ≠ 0) ∧ (True) ∧ ((16 : Int) ≠ 0) ∧ (b0 = false) ∧ (True) ∧ (b3 = false) ∧ (True) ∧ ((2 : Int) ≠ 0) ∧ ((ibin .quo .i64 (ibin .rem .i64 (ibin .add .i64 (ibin .rem .i64 a6 16) 16) 16) 2) = 1) ∧ ((2 : Int) ≠ 0) ∧ (True) ∧ (True) ∧ ((.bool (!((false == (icmp .eql (ibin .rem .i64 (ibin .rem .i64 (ibin .add .i64 (ibin .rem .i64 a6 16) 16) 16) 2) 1)) && true))) : Value) = (.bool (!((false == (icmp .eql (ibin .rem .i64 (ibin .rem .i64 (ibin .add .i64 (ibin .rem .i64 a6 16) 16) 16) 2) 1)) && true))))
    (by kernel_rfl) (by kernel_rfl) (by kernel_rfl) (by kernel_rfl) ⟨(by decide), trivial, (by decide), h0, trivial, h1, trivial, (by decide), h2, (by decide), trivial, trivial, rfl⟩ w
theorem cond_8 (b0 : Bool) (b1 : Bool) (b2 : Bool) (b3 : Bool) (b4 : Bool) (b5 : Bool) (a6 : Int) (h0 : b0 = true) (h1 : b3 = true) (h2 : (ibin .quo .i64 (ibin .rem .i64 (ibin .add .i64 (ibin .rem .i64 a6 16) 16) 16) 2) = 2) (w : World) :
    Calls Try.prog 17 #[(.agg #[(.bool b0), (.bool b1), (.bool b2), (.bool b3), (.bool b4), (.bool b5)]), (.int .i64 a6)] w fun e w' => e = .returned (.bool (!((true == (icmp .eql (ibin .rem .i64 (ibin .rem .i64 (ibin .add .i64 (ibin .rem .i64 a6 16) 16) 16) 2) 1)) && true))) ∧ RowKit.Below w.heap.size w w' :=
  wayp C0_ok (lf := 1000) (d := 50) (args := [(.agg [(.bvar 0 false), (.bvar 1 false), (.bvar 2 false), (.bvar 3 false), (.bvar 4 false), (.bvar 5 false)]), (.c (.ivar .i64 6))]) (ds := [.db true, .db true, .di 2]) (nx := 7) (v := (.w (.c (.bvar 14 true))))
    (log := [.setI0 7 (.bin .rem .i64 (.var 6) (.lit 16)),
      .setI0 8 (.bin .add .i64 (.var 7) (.lit 16)),
      .setI0 9 (.bin .rem .i64 (.var 8) (.lit 16)),
      .decB 0 true,
      .setB0 10 (.all [(.bb (.var 4 false) (.var 5 false))]),
      .decB 3 true,
      .setI0 11 (.bin .quo .i64 (.var 9) (.lit 2)),
      .decI 11 2,
      .setI0 12 (.bin .rem .i64 (.var 9) (.lit 2)),
      .setB0 13 (.cmp .eql (.var 12) (.lit 1)),
      .setB0 14 (.all [(.bb (.lit true) (.var 13 false))])])
    (ρ := (((((((env0.setB 0 b0).setB 1 b1).setB 2 b2).setB 3 b3).setB 4 b4).setB 5 b5).setI 6 a6))
    (Pr := ((16 : Int) ≠ 0) ∧ (True) ∧ ((16 : Int) ≠ 0) ∧ (b0 = true) ∧ (True) ∧ (b3 = true) ∧ ((2 : Int) ≠ 0) ∧ ((ibin .quo .i64 (ibin .rem .i64 (ibin .add .i64 (ibin .rem .i64 a6 16) 16) 16) 2) = 2) ∧ ((2 : Int) ≠ 0) ∧ (True) ∧ (True) ∧ ((.bool (!((true == (icmp .eql (ibin .rem .i64 (ibin .rem .i64 (ibin .add .i64 (ibin .rem .i64 a6 16) 16) 16) 2) 1)) && true))) : Value) = (.bool (!((true == (icmp .eql (ibin .rem .i64 (ibin .rem .i64 (ibin .add .i64 (ibin .rem .i64 a6 16) 16) 16) 2) 1)) && true))))
    (by kernel_rfl) (by kernel_rfl) (by kernel_rfl) (by kernel_rfl) ⟨(by decide), trivial, (by decide), h0, trivial, h1, (by decide), h2, (by decide), trivial, trivial, rfl⟩ w
theorem cond_9 (b0 : Bool) (b1 : Bool) (b2 : Bool) (b3 : Bool) (b4 : Bool) (b5 : Bool) (a6 : Int) (h0 : b0 = true) (h1 : b3 = false) (h2 : (ibin .quo .i64 (ibin .rem .i64 (ibin .add .i64 (ibin .rem .i64 a6 16) 16) 16) 2) = 2) (w : World) :
    Calls Try.prog 17 #[(.agg #[(.bool b0), (.bool b1), (.bool b2), (.bool b3), (.bool b4), (.bool b5)]), (.int .i64 a6)] w fun e w' => e = .returned (.bool (!((false == (icmp .eql (ibin .rem .i64 (ibin .rem .i64 (ibin .add .i64 (ibin .rem .i64 a6 16) 16) 16) 2) 1)) && true))) ∧ RowKit.Below w.heap.size w w' :=
  wayp C0_ok (lf := 1000) (d := 50) (args := [(.agg [(.bvar 0 false), (.bvar 1 false), (.bvar 2 false), (.bvar 3 false), (.bvar 4 false), (.bvar 5 false)]), (.c (.ivar .i64 6))]) (ds := [.db true, .db false, .di 2]) (nx := 7) (v := (.w (.c (.bvar 15 true))))
    (log := [.setI0 7 (.bin .rem .i64 (.var 6) (.lit 16)),
      .setI0 8 (.bin .add .i64 (.var 7) (.lit 16)),
      .setI0 9 (.bin .rem .i64 (.var 8) (.lit 16)),
      .decB 0 true,
      .setB0 10 (.all [(.bb (.var 4 false) (.var 5 false))]),
      .decB 3 false,
      .setB0 11 (.all [(.bb (.var 4 false) (.var 5 false))]),
      .setI0 12 (.bin .quo .i64 (.var 9) (.lit 2)),
      .decI 12 2,
      .setI0 13 (.bin .rem .i64 (.var 9) (.lit 2)),
      .setB0 14 (.cmp .eql (.var 13) (.lit 1)),
      .setB0 15 (.all [(.bb (.lit false) (.var 14 false))])])
    (ρ := (((((((env0.setB 0 b0).setB 1 b1).setB 2 b2).setB 3 b3).setB 4 b4).setB 5 b5).setI 6 a6))
    (Pr := ((16 : Int) ≠ 0) ∧ (True) ∧ ((16 : Int) ≠ 0) ∧ (b0 = true) ∧ (True) ∧ (b3 = false) ∧ (True) ∧ ((2 : Int) ≠ 0) ∧ ((ibin .quo .i64 (ibin .rem .i64 (ibin .add .i64 (ibin .rem .i64 a6 16) 16) 16) 2) = 2) ∧ ((2 : Int) ≠ 0) ∧ (True) ∧ (True) ∧ ((.bool (!((false == (icmp .eql (ibin .rem .i64 (ibin .rem .i64 (ibin .add .i64 (ibin .rem .i64 a6 16) 16) 16) 2) 1)) && true))) : Value) = (.bool (!((false == (icmp .eql (ibin .rem .i64 (ibin .rem .i64 (ibin .add .i64 (ibin .rem .i64 a6 16) 16) 16) 2) 1)) && true))))
    (by kernel_rfl) (by kernel_rfl) (by kernel_rfl) (by kernel_rfl) ⟨(by decide), trivial, (by decide), h0, trivial, h1, trivial, (by decide), h2, (by decide), trivial, trivial, rfl⟩ w
theorem cond_10 (b0 : Bool) (b1 : Bool) (b2 : Bool) (b3 : Bool) (b4 : Bool) (b5 : Bool) (a6 : Int) (h0 : b0 = false) (h1 : b3 = true) (h2 : (ibin .quo .i64 (ibin .rem .i64 (ibin .add .i64 (ibin .rem .i64 a6 16) 16) 16) 2) = 2) (w : World) :
    Calls Try.prog 17 #[(.agg #[(.bool b0), (.bool b1), (.bool b2), (.bool b3), (.bool b4), (.bool b5)]), (.int .i64 a6)] w fun e w' => e = .returned (.bool (!((true == (icmp .eql (ibin .rem .i64 (ibin .rem .i64 (ibin .add .i64 (ibin .rem .i64 a6 16) 16) 16) 2) 1)) && true))) ∧ RowKit.Below w.heap.size w w' :=
  wayp C0_ok (lf := 1000) (d := 50) (args := [(.agg [(.bvar 0 false), (.bvar 1 false), (.bvar 2 false), (.bvar 3 false), (.bvar 4 false), (.bvar 5 false)]), (.c (.ivar .i64 6))]) (ds := [.db false, .db true, .di 2]) (nx := 7) (v := (.w (.c (.bvar 14 true))))
    (log := [.setI0 7 (.bin .rem .i64 (.var 6) (.lit 16)),
      .setI0 8 (.bin .add .i64 (.var 7) (.lit 16)),
      .setI0 9 (.bin .rem .i64 (.var 8) (.lit 16)),
      .decB 0 false,
      .setB0 10 (.all [(.bb (.var 4 false) (.var 5 false))]),
      .decB 3 true,
      .setI0 11 (.bin .quo .i64 (.var 9) (.lit 2)),
      .decI 11 2,
      .setI0 12 (.bin .rem .i64 (.var 9) (.lit 2)),
      .setB0 13 (.cmp .eql (.var 12) (.lit 1)),
      .setB0 14 (.all [(.bb (.lit true) (.var 13 false))])])
    (ρ := (((((((env0.setB 0 b0).setB 1 b1).setB 2 b2).setB 3 b3).setB 4 b4).setB 5 b5).setI 6 a6))
    (Pr := ((16 : Int) ≠ 0) ∧ (True) ∧ ((16 : Int) ≠ 0) ∧ (b0 = false) ∧ (True) ∧ (b3 = true) ∧ ((2 : Int) ≠ 0) ∧ ((ibin .quo .i64 (ibin .rem .i64 (ibin .add .i64 (ibin .rem .i64 a6 16) 16) 16) 2) = 2) ∧ ((2 : Int) ≠ 0) ∧ (True) ∧ (True) ∧ ((.bool (!((true == (icmp .eql (ibin .rem .i64 (ibin .rem .i64 (ibin .add .i64 (ibin .rem .i64 a6 16) 16) 16) 2) 1)) && true))) : Value) = (.bool (!((true == (icmp .eql (ibin .rem .i64 (ibin .rem .i64 (ibin .add .i64 (ibin .rem .i64 a6 16) 16) 16) 2) 1)) && true))))
    (by kernel_rfl) (by kernel_rfl) (by kernel_rfl) (by kernel_rfl) ⟨(by decide), trivial, (by decide), h0, trivial, h1, (by decide), h2, (by decide), trivial, trivial, rfl⟩ w
theorem cond_11 (b0 : Bool) (b1 : Bool) (b2 : Bool) (b3 : Bool) (b4 : Bool) (b5 : Bool) (a6 : Int) (h0 : b0 = false) (h1 : b3 = false) (h2 : (ibin .quo .i64 (ibin .rem .i64 (ibin .add .i64 (ibin .rem .i64 a6 16) 16) 16) 2) = 2) (w : World) :
    Calls Try.prog 17 #[(.agg #[(.bool b0), (.bool b1), (.bool b2), (.bool b3), (.bool b4), (.bool b5)]), (.int .i64 a6)] w fun e w' => e = .returned (.bool (!((false == (icmp .eql (ibin .rem .i64 (ibin .rem .i64 (ibin .add .i64 (ibin .rem .i64 a6 16) 16) 16) 2) 1)) && true))) ∧ RowKit.Below w.heap.size w w' :=
  wayp C0_ok (lf := 1000) (d := 50) (args := [(.agg [(.bvar 0 false), (.bvar 1 false), (.bvar 2 false), (.bvar 3 false), (.bvar 4 false), (.bvar 5 false)]), (.c (.ivar .i64 6))]) (ds := [.db false, .db false, .di 2]) (nx := 7) (v := (.w (.c (.bvar 15 true))))
    (log := [.setI0 7 (.bin .rem .i64 (.var 6) (.lit 16)),
      .setI0 8 (.bin .add .i64 (.var 7) (.lit 16)),
      .setI0 9 (.bin .rem .i64 (.var 8) (.lit 16)),
      .decB 0 false,
      .setB0 10 (.all [(.bb (.var 4 false) (.var 5 false))]),
      .decB 3 false,
      .setB0 11 (.all [(.bb (.var 4 false) (.var 5 false))]),
      .setI0 12 (.bin .quo .i64 (.var 9) (.lit 2)),
      .decI 12 2,
      .setI0 13 (.bin .rem .i64 (.var 9) (.lit 2)),
      .setB0 14 (.cmp .eql (.var 13) (.lit 1)),
      .setB0 15 (.all [(.bb (.lit false) (.var 14 false))])])
    (ρ := (((((((env0.setB 0 b0).setB 1 b1).setB 2 b2).setB 3 b3).setB 4 b4).setB 5 b5).setI 6 a6))
    (Pr := ((16 : Int) ≠ 0) ∧ (True) ∧ ((16 : Int) ≠ 0) ∧ (b0 = false) ∧ (True) ∧ (b3 = false) ∧ (True) ∧ ((2 : Int) ≠ 0) ∧ ((ibin .quo .i64 (ibin .rem .i64 (ibin .add .i64 (ibin .rem .i64 a6 16) 16) 16) 2) = 2) ∧ ((2 : Int) ≠ 0) ∧ (True) ∧ (True) ∧ ((.bool (!((false == (icmp .eql (ibin .rem .i64 (ibin .rem .i64 (ibin .add .i64 (ibin .rem .i64 a6 16) 16) 16) 2) 1)) && true))) : Value) = (.bool (!((false == (icmp .eql (ibin .rem .i64 (ibin .rem .i64 (ibin .add .i64 (ibin .rem .i64 a6 16) 16) 16) 2) 1)) && true))))
    (by kernel_rfl) (by kernel_rfl) (by kernel_rfl) (by kernel_rfl) ⟨(by decide), trivial, (by decide), h0, trivial, h1, trivial, (by decide), h2, (by decide), trivial, trivial, rfl⟩ w
theorem cond_12 (b0 : Bool) (b1 : Bool) (b2 : Bool) (b3 : Bool) (b4 : Bool) (b5 : Bool) (a6 : Int) (h0 : b0 = true) (h1 : b3 = true) (h2 : (ibin .quo .i64 (ibin .rem .i64 (ibin .add .i64 (ibin .rem .i64 a6 16) 16) 16) 2) = 3) (w : World) :
    Calls Try.prog 17 #[(.agg #[(.bool b0), (.bool b1), (.bool b2), (.bool b3), (.bool b4), (.bool b5)]), (.int .i64 a6)] w fun e w' => e = .returned (.bool (!((true == (icmp .eql (ibin .rem .i64 (ibin .rem .i64 (ibin .add .i64 (ibin .rem .i64 a6 16) 16) 16) 2) 1)) && true))) ∧ RowKit.Below w.heap.size w w' :=
  wayp C0_ok (lf := 1000) (d := 50) (args := [(.agg [(.bvar 0 false), (.bvar 1 false), (.bvar 2 false), (.bvar 3 false), (.bvar 4 false), (.bvar 5 false)]), (.c (.ivar .i64 6))]) (ds := [.db true, .db true, .di 3]) (nx := 7) (v := (.w (.c (.bvar 14 true))))
    (log := [.setI0 7 (.bin .rem .i64 (.var 6) (.lit 16)),
      .setI0 8 (.bin .add .i64 (.var 7) (.lit 16)),
      .setI0 9 (.bin .rem .i64 (.var 8) (.lit 16)),
      .decB 0 true,
      .setB0 10 (.all [(.bb (.var 4 false) (.var 5 false))]),
      .decB 3 true,
      .setI0 11 (.bin .quo .i64 (.var 9) (.lit 2)),
      .decI 11 3,
      .setI0 12 (.bin .rem .i64 (.var 9) (.lit 2)),
      .setB0 13 (.cmp .eql (.var 12) (.lit 1)),
      .setB0 14 (.all [(.bb (.lit true) (.var 13 false))])])
    (ρ := (((((((env0.setB 0 b0).setB 1 b1).setB 2 b2).setB 3 b3).setB 4 b4).setB 5 b5).setI 6 a6))
    (Pr := ((16 : Int) ≠ 0) ∧ (True) ∧ ((16 : Int) ≠ 0) ∧ (b0 = true) ∧ (True) ∧ (b3 = true) ∧ ((2 : Int) ≠ 0) ∧ ((ibin .quo .i64 (ibin .rem .i64 (ibin .add .i64 (ibin .rem .i64 a6 16) 16) 16) 2) = 3) ∧ ((2 : Int) ≠ 0) ∧ (True) ∧ (True) ∧ ((.bool (!((true == (icmp .eql (ibin .rem .i64 (ibin .rem .i64 (ibin .add .i64 (ibin .rem .i64 a6 16) 16) 16) 2) 1)) && true))) : Value) = (.bool (!((true == (icmp .eql (ibin .rem .i64 (ibin .rem .i64 (ibin .add .i64 (ibin .rem .i64 a6 16) 16) 16) 2) 1)) && true))))
    (by kernel_rfl) (by kernel_rfl) (by kernel_rfl) (by kernel_rfl) ⟨(by decide), trivial, (by decide), h0, trivial, h1, (by decide), h2, (by decide), trivial, trivial, rfl⟩ w
theorem cond_13 (b0 : Bool) (b1 : Bool) (b2 : Bool) (b3 : Bool) (b4 : Bool) (b5 : Bool) (a6 : Int) (h0 : b0 = true) (h1 : b3 = false) (h2 : (ibin .quo .i64 (ibin .rem .i64 (ibin .add .i64 (ibin .rem .i64 a6 16) 16) 16) 2) = 3) (w : World) :
    Calls Try.prog 17 #[(.agg #[(.bool b0), (.bool b1), (.bool b2), (.bool b3), (.bool b4), (.bool b5)]), (.int .i64 a6)] w fun e w' => e = .returned (.bool (!((true == (icmp .eql (ibin .rem .i64 (ibin .rem .i64 (ibin .add .i64 (ibin .rem .i64 a6 16) 16) 16) 2) 1)) && true))) ∧ RowKit.Below w.heap.size w w' :=
  wayp C0_ok (lf := 1000) (d := 50) (args := [(.agg [(.bvar 0 false), (.bvar 1 false), (.bvar 2 false), (.bvar 3 false), (.bvar 4 false), (.bvar 5 false)]), (.c (.ivar .i64 6))]) (ds := [.db true, .db false, .di 3]) (nx := 7) (v := (.w (.c (.bvar 15 true))))
    (log := [.setI0 7 (.bin .rem .i64 (.var 6) (.lit 16)),
      .setI0 8 (.bin .add .i64 (.var 7) (.lit 16)),
      .setI0 9 (.bin .rem .i64 (.var 8) (.lit 16)),
      .decB 0 true,
      .setB0 10 (.all [(.bb (.var 4 false) (.var 5 false))]),
      .decB 3 false,
      .setB0 11 (.all [(.bb (.var 4 false) (.var 5 false))]),
      .setI0 12 (.bin .quo .i64 (.var 9) (.lit 2)),
      .decI 12 3,
      .setI0 13 (.bin .rem .i64 (.var 9) (.lit 2)),
      .setB0 14 (.cmp .eql (.var 13) (.lit 1)),
      .setB0 15 (.all [(.bb (.lit true) (.var 14 false))])])
    (ρ := (((((((env0.setB 0 b0).setB 1 b1).setB 2 b2).setB 3 b3).setB 4 b4).setB 5 b5).setI 6 a6))
    (Pr := ((16 : Int) ≠ 0) ∧ (True) ∧ ((16 : Int) ≠ 0) ∧ (b0 = true) ∧ (True) ∧ (b3 = false) ∧ (True) ∧ ((2 : Int) ≠ 0) ∧ ((ibin .quo .i64 (ibin .rem .i64 (ibin .add .i64 (ibin .rem .i64 a6 16) 16) 16) 2) = 3) ∧ ((2 : Int) ≠ 0) ∧ (True) ∧ (True) ∧ ((.bool (!((true == (icmp .eql (ibin .rem .i64 (ibin .rem .i64 (ibin .add .i64 (ibin .rem .i64 a6 16) 16) 16) 2) 1)) && true))) : Value) = (.bool (!((true == (icmp .eql (ibin .rem .i64 (ibin .rem .i64 (ibin .add .i64 (ibin .rem .i64 a6 16) 16) 16) 2) 1)) && true))))
    (by kernel_rfl) (by kernel_rfl) (by kernel_rfl) (by kernel_rfl) ⟨(by decide), trivial, (by decide), h0, trivial, h1, trivial, (by decide), h2, (by decide), trivial, trivial, rfl⟩ w
theorem cond_14 (b0 : Bool) (b1 : Bool) (b2 : Bool) (b3 : Bool) (b4 : Bool) (b5 : Bool) (a6 : Int) (h0 : b0 = false) (h1 : b3 = true) (h2 : (ibin .quo .i64 (ibin .rem .i64 (ibin .add .i64 (ibin .rem .i64 a6 16) 16) 16) 2) = 3) (w : World) :
    Calls Try.prog 17 #[(.agg #[(.bool b0), (.bool b1), (.bool b2), (.bool b3), (.bool b4), (.bool b5)]), (.int .i64 a6)] w fun e w' => e = .returned (.bool (!((true == (icmp .eql (ibin .rem .i64 (ibin .rem .i64 (ibin .add .i64 (ibin .rem .i64 a6 16) 16) 16) 2) 1)) && true))) ∧ RowKit.Below w.heap.size w w' :=
  wayp C0_ok (lf := 1000) (d := 50) (args := [(.agg [(.bvar 0 false), (.bvar 1 false), (.bvar 2 false), (.bvar 3 false), (.bvar 4 false), (.bvar 5 false)]), (.c (.ivar .i64 6))]) (ds := [.db false, .db true, .di 3]) (nx := 7) (v := (.w (.c (.bvar 14 true))))
    (log := [.setI0 7 (.bin .rem .i64 (.var 6) (.lit 16)),
      .setI0 8 (.bin .add .i64 (.var 7) (.lit 16)),
      .setI0 9 (.bin .rem .i64 (.var 8) (.lit 16)),
      .decB 0 false,
      .setB0 10 (.all [(.bb (.var 4 false) (.var 5 false))]),
      .decB 3 true,
      .setI0 11 (.bin .quo .i64 (.var 9) (.lit 2)),
      .decI 11 3,
      .setI0 12 (.bin .rem .i64 (.var 9) (.lit 2)),
      .setB0 13 (.cmp .eql (.var 12) (.lit 1)),
      .setB0 14 (.all [(.bb (.lit true) (.var 13 false))])])
    (ρ := (((((((env0.setB 0 b0).setB 1 b1).setB 2 b2).setB 3 b3).setB 4 b4).setB 5 b5).setI 6 a6))
    (Pr := ((16 : Int) ≠ 0) ∧ (True) ∧ ((16 : Int) ≠ 0) ∧ (b0 = false) ∧ (True) ∧ (b3 = true) ∧ ((2 : Int) ≠ 0) ∧ ((ibin .quo .i64 (ibin .rem .i64 (ibin .add .i64 (ibin .rem .i64 a6 16) 16) 16) 2) = 3) ∧ ((2 : Int) ≠ 0) ∧ (True) ∧ (True) ∧ ((.bool (!((true == (icmp .eql (ibin .rem .i64 (ibin .rem .i64 (ibin .add .i64 (ibin .rem .i64 a6 16) 16) 16) 2) 1)) && true))) : Value) = (.bool (!((true == (icmp .eql (ibin .rem .i64 (ibin .rem .i64 (ibin .add .i64 (ibin .rem .i64 a6 16) 16) 16) 2) 1)) && true))))
    (by kernel_rfl) (by kernel_rfl) (by kernel_rfl) (by kernel_rfl) ⟨(by decide), trivial, (by decide), h0, trivial, h1, (by decide), h2, (by decide), trivial, trivial, rfl⟩ w
theorem cond_15 (b0 : Bool) (b1 : Bool) (b2 : Bool) (b3 : Bool) (b4 : Bool) (b5 : Bool) (a6 : Int) (h0 : b0 = false) (h1 : b3 = false) (h2 : (ibin .quo .i64 (ibin .rem .i64 (ibin .add .i64 (ibin .rem .i64 a6 16) 16) 16) 2) = 3) (w : World) :
    Calls Try.prog 17 #[(.agg #[(.bool b0), (.bool b1), (.bool b2), (.bool b3), (.bool b4), (.bool b5)]), (.int .i64 a6)] w fun e w' => e = .returned (.bool (!((false == (icmp .eql (ibin .rem .i64 (ibin .rem .i64 (ibin .add .i64 (ibin .rem .i64 a6 16) 16) 16) 2) 1)) && true))) ∧ RowKit.Below w.heap.size w w' :=
  wayp C0_ok (lf := 1000) (d := 50) (args := [(.agg [(.bvar 0 false), (.bvar 1 false), (.bvar 2 false), (.bvar 3 false), (.bvar 4 false), (.bvar 5 false)]), (.c (.ivar .i64 6))]) (ds := [.db false, .db false, .di 3]) (nx := 7) (v := (.w (.c (.bvar 15 true))))
    (log := [.setI0 7 (.bin .rem .i64 (.var 6) (.lit 16)),
      .setI0 8 (.bin .add .i64 (.var 7) (.lit 16)),
      .setI0 9 (.bin .rem .i64 (.var 8) (.lit 16)),
      .decB 0 false,
      .setB0 10 (.all [(.bb (.var 4 false) (.var 5 false))]),
      .decB 3 false,
      .setB0 11 (.all [(.bb (.var 4 false) (.var 5 false))]),
      .setI0 12 (.bin .quo .i64 (.var 9) (.lit 2)),
      .decI 12 3,
      .setI0 13 (.bin .rem .i64 (.var 9) (.lit 2)),
      .setB0 14 (.cmp .eql (.var 13) (.lit 1)),
      .setB0 15 (.all [(.bb (.lit false) (.var 14 false))])])
    (ρ := (((((((env0.setB 0 b0).setB 1 b1).setB 2 b2).setB 3 b3).setB 4 b4).setB 5 b5).setI 6 a6))
    (Pr := ((16 : Int) ≠ 0) ∧ (True) ∧ ((16 : Int) ≠ 0) ∧ (b0 = false) ∧ (True) ∧ (b3 = false) ∧ (True) ∧ ((2 : Int) ≠ 0) ∧ ((ibin .quo .i64 (ibin .rem .i64 (ibin .add .i64 (ibin .rem .i64 a6 16) 16) 16) 2) = 3) ∧ ((2 : Int) ≠ 0) ∧ (True) ∧ (True) ∧ ((.bool (!((false == (icmp .eql (ibin .rem .i64 (ibin .rem .i64 (ibin .add .i64 (ibin .rem .i64 a6 16) 16) 16) 2) 1)) && true))) : Value) = (.bool (!((false == (icmp .eql (ibin .rem .i64 (ibin .rem .i64 (ibin .add .i64 (ibin .rem .i64 a6 16) 16) 16) 2) 1)) && true))))
    (by kernel_rfl) (by kernel_rfl) (by kernel_rfl) (by kernel_rfl) ⟨(by decide), trivial, (by decide), h0, trivial, h1, trivial, (by decide), h2, (by decide), trivial, trivial, rfl⟩ w
theorem cond_16 (b0 : Bool) (b1 : Bool) (b2 : Bool) (b3 : Bool) (b4 : Bool) (b5 : Bool) (a6 : Int) (h0 : b0 = true) (h1 : b3 = true) (h2 : (ibin .quo .i64 (ibin .rem .i64 (ibin .add .i64 (ibin .rem .i64 a6 16) 16) 16) 2) = 4) (w : World) :
    Calls Try.prog 17 #[(.agg #[(.bool b0), (.bool b1), (.bool b2), (.bool b3), (.bool b4), (.bool b5)]), (.int .i64 a6)] w fun e w' => e = .returned (.bool (!((b4 == (icmp .eql (ibin .rem .i64 (ibin .rem .i64 (ibin .add .i64 (ibin .rem .i64 a6 16) 16) 16) 2) 1)) && true))) ∧ RowKit.Below w.heap.size w w' :=
  wayp C0_ok (lf := 1000) (d := 50) (args := [(.agg [(.bvar 0 false), (.bvar 1 false), (.bvar 2 false), (.bvar 3 false), (.bvar 4 false), (.bvar 5 false)]), (.c (.ivar .i64 6))]) (ds := [.db true, .db true, .di 4]) (nx := 7) (v := (.w (.c (.bvar 14 true))))
    (log := [.setI0 7 (.bin .rem .i64 (.var 6) (.lit 16)),
      .setI0 8 (.bin .add .i64 (.var 7) (.lit 16)),
      .setI0 9 (.bin .rem .i64 (.var 8) (.lit 16)),
      .decB 0 true,
      .setB0 10 (.all [(.bb (.var 4 false) (.var 5 false))]),
      .decB 3 true,
      .setI0 11 (.bin .quo .i64 (.var 9) (.lit 2)),
      .decI 11 4,
      .setI0 12 (.bin .rem .i64 (.var 9) (.lit 2)),
      .setB0 13 (.cmp .eql (.var 12) (.lit 1)),
      .setB0 14 (.all [(.bb (.var 4 false) (.var 13 false))])])
    (ρ := (((((((env0.setB 0 b0).setB 1 b1).setB 2 b2).setB 3 b3).setB 4 b4).setB 5 b5).setI 6 a6))
    (Pr := ((16 : Int) ≠ 0) ∧ (True) ∧ ((16 : Int) ≠ 0) ∧ (b0 = true) ∧ (True) ∧ (b3 = true) ∧ ((2 : Int) ≠ 0) ∧ ((ibin .quo .i64 (ibin .rem .i64 (ibin .add .i64 (ibin .rem .i64 a6 16) 16) 16) 2) = 4) ∧ ((2 : Int) ≠ 0) ∧ (True) ∧ (True) ∧ ((.bool (!((b4 == (icmp .eql (ibin .rem .i64 (ibin .rem .i64 (ibin .add .i64 (ibin .rem .i64 a6 16) 16) 16) 2) 1)) && true))) : Value) = (.bool (!((b4 == (icmp .eql (ibin .rem .i64 (ibin .rem .i64 (ibin .add .i64 (ibin .rem .i64 a6 16) 16) 16) 2) 1)) && true))))
    (by kernel_rfl) (by kernel_rfl) (by kernel_rfl) (by kernel_rfl) ⟨(by decide), trivial, (by decide), h0, trivial, h1, (by decide), h2, (by decide), trivial, trivial, rfl⟩ w
theorem cond_17 (b0 : Bool) (b1 : Bool) (b2 : Bool) (b3 : Bool) (b4 : Bool) (b5 : Bool) (a6 : Int) (h0 : b0 = true) (h1 : b3 = false) (h2 : (ibin .quo .i64 (ibin .rem .i64 (ibin .add .i64 (ibin .rem .i64 a6 16) 16) 16) 2) = 4) (w : World) :
    Calls Try.prog 17 #[(.agg #[(.bool b0), (.bool b1), (.bool b2), (.bool b3), (.bool b4), (.bool b5)]), (.int .i64 a6)] w fun e w' => e = .returned (.bool (!((b4 == (icmp .eql (ibin .rem .i64 (ibin .rem .i64 (ibin .add .i64 (ibin .rem .i64 a6 16) 16) 16) 2) 1)) && true))) ∧ RowKit.Below w.heap.size w w' :=
  wayp C0_ok (lf := 1000) (d := 50) (args := [(.agg [(.bvar 0 false), (.bvar 1 false), (.bvar 2 false), (.bvar 3 false), (.bvar 4 false), (.bvar 5 false)]), (.c (.ivar .i64 6))]) (ds := [.db true, .db false, .di 4]) (nx := 7) (v := (.w (.c (.bvar 15 true))))
    (log := [.setI0 7 (.bin .rem .i64 (.var 6) (.lit 16)),
      .setI0 8 (.bin .add .i64 (.var 7) (.lit 16)),
      .setI0 9 (.bin .rem .i64 (.var 8) (.lit 16)),
      .decB 0 true,
      .setB0 10 (.all [(.bb (.var 4 false) (.var 5 false))]),
      .decB 3 false,
      .setB0 11 (.all [(.bb (.var 4 false) (.var 5 false))]),
      .setI0 12 (.bin .quo .i64 (.var 9) (.lit 2)),
      .decI 12 4,
      .setI0 13 (.bin .rem .i64 (.var 9) (.lit 2)),
      .setB0 14 (.cmp .eql (.var 13) (.lit 1)),
      .setB0 15 (.all [(.bb (.var 4 false) (.var 14 false))])])
    (ρ := (((((((env0.setB 0 b0).setB 1 b1).setB 2 b2).setB 3 b3).setB 4 b4).setB 5 b5).setI 6 a6))
    (Pr := ((16 : Int) ≠ 0) ∧ (True) ∧ ((16 : Int) ≠ 0) ∧ (b0 = true) ∧ (True) ∧ (b3 = false) ∧ (True) ∧ ((2 : Int) ≠ 0) ∧ ((ibin .quo .i64 (ibin .rem .i64 (ibin .add .i64 (ibin .rem .i64 a6 16) 16) 16) 2) = 4) ∧ ((2 : Int) ≠ 0) ∧ (True) ∧ (True) ∧ ((.bool (!((b4 == (icmp .eql (ibin .rem .i64 (ibin .rem .i64 (ibin .add .i64 (ibin .rem .i64 a6 16) 16) 16) 2) 1)) && true))) : Value) = (.bool (!((b4 == (icmp .eql (ibin .rem .i64 (ibin .rem .i64 (ibin .add .i64 (ibin .rem .i64 a6 16) 16) 16) 2) 1)) && true))))
    (by kernel_rfl) (by kernel_rfl) (by kernel_rfl) (by kernel_rfl) ⟨(by decide), trivial, (by decide), h0, trivial, h1, trivial, (by decide), h2, (by decide), trivial, trivial, rfl⟩ w
theorem cond_18 (b0 : Bool) (b1 : Bool) (b2 : Bool) (b3 : Bool) (b4 : Bool) (b5 : Bool) (a6 : Int) (h0 : b0 = false) (h1 : b3 = true) (h2 : (ibin .quo .i64 (ibin .rem .i64 (ibin .add .i64 (ibin .rem .i64 a6 16) 16) 16) 2) = 4) (w : World) :
    Calls Try.prog 17 #[(.agg #[(.bool b0), (.bool b1), (.bool b2), (.bool b3), (.bool b4), (.bool b5)]), (.int .i64 a6)] w fun e w' => e = .returned (.bool (!((b4 == (icmp .eql (ibin .rem .i64 (ibin .rem .i64 (ibin .add .i64 (ibin .rem .i64 a6 16) 16) 16) 2) 1)) && true))) ∧ RowKit.Below w.heap.size w w' :=
  wayp C0_ok (lf := 1000) (d := 50) (args := [(.agg [(.bvar 0 false), (.bvar 1 false), (.bvar 2 false), (.bvar 3 false), (.bvar 4 false), (.bvar 5 false)]), (.c (.ivar .i64 6))]) (ds := [.db false, .db true, .di 4]) (nx := 7) (v := (.w (.c (.bvar 14 true))))
    (log := [.setI0 7 (.bin .rem .i64 (.var 6) (.lit 16)),
      .setI0 8 (.bin .add .i64 (.var 7) (.lit 16)),
      .setI0 9 (.bin .rem .i64 (.var 8) (.lit 16)),
      .decB 0 false,
      .setB0 10 (.all [(.bb (.var 4 false) (.var 5 false))]),
      .decB 3 true,
      .setI0 11 (.bin .quo .i64 (.var 9) (.lit 2)),
      .decI 11 4,
      .setI0 12 (.bin .rem .i64 (.var 9) (.lit 2)),
      .setB0 13 (.cmp .eql (.var 12) (.lit 1)),
      .setB0 14 (.all [(.bb (.var 4 false) (.var 13 false))])])
    (ρ := (((((((env0.setB 0 b0).setB 1 b1).setB 2 b2).setB 3 b3).setB 4 b4).setB 5 b5).setI 6 a6))
    (Pr := ((16 : Int) ≠ 0) ∧ (True) ∧ ((16 : Int) ≠ 0) ∧ (b0 = false) ∧ (True) ∧ (b3 = true) ∧ ((2 : Int) ≠ 0) ∧ ((ibin .quo .i64 (ibin .rem .i64 (ibin .add .i64 (ibin .rem .i64 a6 16) 16) 16) 2) = 4) ∧ ((2 : Int) ≠ 0) ∧ (True) ∧ (True) ∧ ((.bool (!((b4 == (icmp .eql (ibin .rem .i64 (ibin .rem .i64 (ibin .add .i64 (ibin .rem .i64 a6 16) 16) 16) 2) 1)) && true))) : Value) = (.bool (!((b4 == (icmp .eql (ibin .rem .i64 (ibin .rem .i64 (ibin .add .i64 (ibin .rem .i64 a6 16) 16) 16) 2) 1)) && true))))
    (by kernel_rfl) (by kernel_rfl) (by kernel_rfl) (by kernel_rfl) ⟨(by decide), trivial, (by decide), h0, trivial, h1, (by decide), h2, (by decide), trivial, trivial, rfl⟩ w
theorem cond_19 (b0 : Bool) (b1 : Bool) (b2 : Bool) (b3 : Bool) (b4 : Bool) (b5 : Bool) (a6 : Int) (h0 : b0 = false) (h1 : b3 = false) (h2 : (ibin .quo .i64 (ibin .rem .i64 (ibin .add .i64 (ibin .rem .i64 a6 16) 16) 16) 2) = 4) (w : World) :
    Calls Try.prog 17 #[(.agg #[(.bool b0), (.bool b1), (.bool b2), (.bool b3), (.bool b4), (.bool b5)]), (.int .i64 a6)] w fun e w' => e = .returned (.bool (!((b4 == (icmp .eql (ibin .rem .i64 (ibin .rem .i64 (ibin .add .i64 (ibin .rem .i64 a6 16) 16) 16) 2) 1)) && true))) ∧ RowKit.Below w.heap.size w w' :=
  wayp C0_ok (lf := 1000) (d := 50) (args := [(.agg [(.bvar 0 false), (.bvar 1 false), (.bvar 2 false), (.bvar 3 false), (.bvar 4 false), (.bvar 5 false)]), (.c (.ivar .i64 6))]) (ds := [.db false, .db false, .di 4]) (nx := 7) (v := (.w (.c (.bvar 15 true))))
    (log := [.setI0 7 (.bin .rem .i64 (.var 6) (.lit 16)),
      .setI0 8 (.bin .add .i64 (.var 7) (.lit 16)),
      .setI0 9 (.bin .rem .i64 (.var 8) (.lit 16)),
      .decB 0 false,
      .setB0 10 (.all [(.bb (.var 4 false) (.var 5 false))]),
      .decB 3 false,
      .setB0 11 (.all [(.bb (.var 4 false) (.var 5 false))]),
      .setI0 12 (.bin .quo .i64 (.var 9) (.lit 2)),
      .decI 12 4,
      .setI0 13 (.bin .rem .i64 (.var 9) (.lit 2)),
      .setB0 14 (.cmp .eql (.var 13) (.lit 1)),
      .setB0 15 (.all [(.bb (.var 4 false) (.var 14 false))])])
    (ρ := (((((((env0.setB 0 b0).setB 1 b1).setB 2 b2).setB 3 b3).setB 4 b4).setB 5 b5).setI 6 a6))
    (Pr := ((16 : Int) ≠ 0) ∧ (True) ∧ ((16 : Int) ≠ 0) ∧ (b0 = false) ∧ (True) ∧ (b3 = false) ∧ (True) ∧ ((2 : Int) ≠ 0) ∧ ((ibin .quo .i64 (ibin .rem .i64 (ibin .add .i64 (ibin .rem .i64 a6 16) 16) 16) 2) = 4) ∧ ((2 : Int) ≠ 0) ∧ (True) ∧ (True) ∧ ((.bool (!((b4 == (icmp .eql (ibin .rem .i64 (ibin .rem .i64 (ibin .add .i64 (ibin .rem .i64 a6 16) 16) 16) 2) 1)) && true))) : Value) = (.bool (!((b4 == (icmp .eql (ibin .rem .i64 (ibin .rem .i64 (ibin .add .i64 (ibin .rem .i64 a6 16) 16) 16) 2) 1)) && true))))
    (by kernel_rfl) (by kernel_rfl) (by kernel_rfl) (by kernel_rfl) ⟨(by decide), trivial, (by decide), h0, trivial, h1, trivial, (by decide), h2, (by decide), trivial, trivial, rfl⟩ w
theorem cond_20 (b0 : Bool) (b1 : Bool) (b2 : Bool) (b3 : Bool) (b4 : Bool) (b5 : Bool) (a6 : Int) (h0 : b0 = true) (h1 : b3 = true) (h2 : (ibin .quo .i64 (ibin .rem .i64 (ibin .add .i64 (ibin .rem .i64 a6 16) 16) 16) 2) = 5) (w : World) :
    Calls Try.prog 17 #[(.agg #[(.bool b0), (.bool b1), (.bool b2), (.bool b3), (.bool b4), (.bool b5)]), (.int .i64 a6)] w fun e w' => e = .returned (.bool (!((b1 == (icmp .eql (ibin .rem .i64 (ibin .rem .i64 (ibin .add .i64 (ibin .rem .i64 a6 16) 16) 16) 2) 1)) && true))) ∧ RowKit.Below w.heap.size w w' :=
  wayp C0_ok (lf := 1000) (d := 50) (args := [(.agg [(.bvar 0 false), (.bvar 1 false), (.bvar 2 false), (.bvar 3 false), (.bvar 4 false), (.bvar 5 false)]), (.c (.ivar .i64 6))]) (ds := [.db true, .db true, .di 5]) (nx := 7) (v := (.w (.c (.bvar 14 true))))
    (log := [.setI0 7 (.bin .rem .i64 (.var 6) (.lit 16)),
      .setI0 8 (.bin .add .i64 (.var 7) (.lit 16)),
      .setI0 9 (.bin .rem .i64 (.var 8) (.lit 16)),
      .decB 0 true,
      .setB0 10 (.all [(.bb (.var 4 false) (.var 5 false))]),
      .decB 3 true,
      .setI0 11 (.bin .quo .i64 (.var 9) (.lit 2)),
      .decI 11 5,
      .setI0 12 (.bin .rem .i64 (.var 9) (.lit 2)),
      .setB0 13 (.cmp .eql (.var 12) (.lit 1)),
      .setB0 14 (.all [(.bb (.var 1 false) (.var 13 false))])])
    (ρ := (((((((env0.setB 0 b0).setB 1 b1).setB 2 b2).setB 3 b3).setB 4 b4).setB 5 b5).setI 6 a6))
    (Pr := ((16 : Int) ≠ 0) ∧ (True) ∧ ((16 : Int) ≠ 0) ∧ (b0 = true) ∧ (True) ∧ (b3 = true) ∧ ((2 : Int) ≠ 0) ∧ ((ibin .quo .i64 (ibin .rem .i64 (ibin .add .i64 (ibin .rem .i64 a6 16) 16) 16) 2) = 5) ∧ ((2 : Int) ≠ 0) ∧ (True) ∧ (True) ∧ ((.bool (!((b1 == (icmp .eql (ibin .rem .i64 (ibin .rem .i64 (ibin .add .i64 (ibin .rem .i64 a6 16) 16) 16) 2) 1)) && true))) : Value) = (.bool (!((b1 == (icmp .eql (ibin .rem .i64 (ibin .rem .i64 (ibin .add .i64 (ibin .rem .i64 a6 16) 16) 16) 2) 1)) && true))))
    (by kernel_rfl) (by kernel_rfl) (by kernel_rfl) (by kernel_rfl) ⟨(by decide), trivial, (by decide), h0, trivial, h1, (by decide), h2, (by decide), trivial, trivial, rfl⟩ w
theorem cond_21 (b0 : Bool) (b1 : Bool) (b2 : Bool) (b3 : Bool) (b4 : Bool) (b5 : Bool) (a6 : Int) (h0 : b0 = true) (h1 : b3 = false) (h2 : (ibin .quo .i64 (ibin .rem .i64 (ibin .add .i64 (ibin .rem .i64 a6 16) 16) 16) 2) = 5) (w : World) :
    Calls Try.prog 17 #[(.agg #[(.bool b0), (.bool b1), (.bool b2), (.bool b3), (.bool b4), (.bool b5)]), (.int .i64 a6)] w fun e w' => e = .returned (.bool (!((b1 == (icmp .eql (ibin .rem .i64 (ibin .rem .i64 (ibin .add .i64 (ibin .rem .i64 a6 16) 16) 16) 2) 1)) && true))) ∧ RowKit.Below w.heap.size w w' :=
  wayp C0_ok (lf := 1000) (d := 50) (args := [(.agg [(.bvar 0 false), (.bvar 1 false), (.bvar 2 false), (.bvar 3 false), (.bvar 4 false), (.bvar 5 false)]), (.c (.ivar .i64 6))]) (ds := [.db true, .db false, .di 5]) (nx := 7) (v := (.w (.c (.bvar 15 true))))
    (log := [.setI0 7 (.bin .rem .i64 (.var 6) (.lit 16)),
      .setI0 8 (.bin .add .i64 (.var 7) (.lit 16)),
      .setI0 9 (.bin .rem .i64 (.var 8) (.lit 16)),
      .decB 0 true,
      .setB0 10 (.all [(.bb (.var 4 false) (.var 5 false))]),
      .decB 3 false,
      .setB0 11 (.all [(.bb (.var 4 false) (.var 5 false))]),
      .setI0 12 (.bin .quo .i64 (.var 9) (.lit 2)),
      .decI 12 5,
      .setI0 13 (.bin .rem .i64 (.var 9) (.lit 2)),
      .setB0 14 (.cmp .eql (.var 13) (.lit 1)),
      .setB0 15 (.all [(.bb (.var 1 false) (.var 14 false))])])
    (ρ := (((((((env0.setB 0 b0).setB 1 b1).setB 2 b2).setB 3 b3).setB 4 b4).setB 5 b5).setI 6 a6))
    (Pr := ((16 : Int) ≠ 0) ∧ (True) ∧ ((16 : Int) ≠ 0) ∧ (b0 = true) ∧ (True) ∧ (b3 = false) ∧ (True) ∧ ((2 : Int) ≠ 0) ∧ ((ibin .quo .i64 (ibin .rem .i64 (ibin .add .i64 (ibin .rem .i64 a6 16) 16) 16) 2) = 5) ∧ ((2 : Int) ≠ 0) ∧ (True) ∧ (True) ∧ ((.bool (!((b1 == (icmp .eql (ibin .rem .i64 (ibin .rem .i64 (ibin .add .i64 (ibin .rem .i64 a6 16) 16) 16) 2) 1)) && true))) : Value) = (.bool (!((b1 == (icmp .eql (ibin .rem .i64 (ibin .rem .i64 (ibin .add .i64 (ibin .rem .i64 a6 16) 16) 16) 2) 1)) && true))))
    (by kernel_rfl) (by kernel_rfl) (by kernel_rfl) (by kernel_rfl) ⟨(by decide), trivial, (by decide), h0, trivial, h1, trivial, (by decide), h2, (by decide), trivial, trivial, rfl⟩ w
theorem cond_22 (b0 : Bool) (b1 : Bool) (b2 : Bool) (b3 : Bool) (b4 : Bool) (b5 : Bool) (a6 : Int) (h0 : b0 = false) (h1 : b3 = true) (h2 : (ibin .quo .i64 (ibin .rem .i64 (ibin .add .i64 (ibin .rem .i64 a6 16) 16) 16) 2) = 5) (w : World) :
    Calls Try.prog 17 #[(.agg #[(.bool b0), (.bool b1), (.bool b2), (.bool b3), (.bool b4), (.bool b5)]), (.int .i64 a6)] w fun e w' => e = .returned (.bool (!((b1 == (icmp .eql (ibin .rem .i64 (ibin .rem .i64 (ibin .add .i64 (ibin .rem .i64 a6 16) 16) 16) 2) 1)) && true))) ∧ RowKit.Below w.heap.size w w' :=
  wayp C0_ok (lf := 1000) (d := 50) (args := [(.agg [(.bvar 0 false), (.bvar 1 false), (.bvar 2 false), (.bvar 3 false), (.bvar 4 false), (.bvar 5 false)]), (.c (.ivar .i64 6))]) (ds := [.db false, .db true, .di 5]) (nx := 7) (v := (.w (.c (.bvar 14 true))))
    (log := [.setI0 7 (.bin .rem .i64 (.var 6) (.lit 16)),
      .setI0 8 (.bin .add .i64 (.var 7) (.lit 16)),
      .setI0 9 (.bin .rem .i64 (.var 8) (.lit 16)),
      .decB 0 false,
      .setB0 10 (.all [(.bb (.var 4 false) (.var 5 false))]),
      .decB 3 true,
      .setI0 11 (.bin .quo .i64 (.var 9) (.lit 2)),
      .decI 11 5,
      .setI0 12 (.bin .rem .i64 (.var 9) (.lit 2)),
      .setB0 13 (.cmp .eql (.var 12) (.lit 1)),
      .setB0 14 (.all [(.bb (.var 1 false) (.var 13 false))])])
    (ρ := (((((((env0.setB 0 b0).setB 1 b1).setB 2 b2).setB 3 b3).setB 4 b4).setB 5 b5).setI 6 a6))
    (Pr := ((16 : Int) ≠ 0) ∧ (True) ∧ ((16 : Int) ≠ 0) ∧ (b0 = false) ∧ (True) ∧ (b3 = true) ∧ ((2 : Int) ≠ 0) ∧ ((ibin .quo .i64 (ibin .rem .i64 (ibin .add .i64 (ibin .rem .i64 a6 16) 16) 16) 2) = 5) ∧ ((2 : Int) ≠ 0) ∧ (True) ∧ (True) ∧ ((.bool (!((b1 == (icmp .eql (ibin .rem .i64 (ibin .rem .i64 (ibin .add .i64 (ibin .rem .i64 a6 16) 16) 16) 2) 1)) && true))) : Value) = (.bool (!((b1 == (icmp .eql (ibin .rem .i64 (ibin .rem .i64 (ibin .add .i64 (ibin .rem .i64 a6 16) 16) 16) 2) 1)) && true))))
    (by kernel_rfl) (by kernel_rfl) (by kernel_rfl) (by kernel_rfl) ⟨(by decide), trivial, (by decide), h0, trivial, h1, (by decide), h2, (by decide), trivial, trivial, rfl⟩ w
theorem cond_23 (b0 : Bool) (b1 : Bool) (b2 : Bool) (b3 : Bool) (b4 : Bool) (b5 : Bool) (a6 : Int) (h0 : b0 = false) (h1 : b3 = false) (h2 : (ibin .quo .i64 (ibin .rem .i64 (ibin .add .i64 (ibin .rem .i64 a6 16) 16) 16) 2) = 5) (w : World) :
    Calls Try.prog 17 #[(.agg #[(.bool b0), (.bool b1), (.bool b2), (.bool b3), (.bool b4), (.bool b5)]), (.int .i64 a6)] w fun e w' => e = .returned (.bool (!((b1 == (icmp .eql (ibin .rem .i64 (ibin .rem .i64 (ibin .add .i64 (ibin .rem .i64 a6 16) 16) 16) 2) 1)) && true))) ∧ RowKit.Below w.heap.size w w' :=
  wayp C0_ok (lf := 1000) (d := 50) (args := [(.agg [(.bvar 0 false), (.bvar 1 false), (.bvar 2 false), (.bvar 3 false), (.bvar 4 false), (.bvar 5 false)]), (.c (.ivar .i64 6))]) (ds := [.db false, .db false, .di 5]) (nx := 7) (v := (.w (.c (.bvar 15 true))))
    (log := [.setI0 7 (.bin .rem .i64 (.var 6) (.lit 16)),
      .setI0 8 (.bin .add .i64 (.var 7) (.lit 16)),
      .setI0 9 (.bin .rem .i64 (.var 8) (.lit 16)),
      .decB 0 false,
      .setB0 10 (.all [(.bb (.var 4 false) (.var 5 false))]),
      .decB 3 false,
      .setB0 11 (.all [(.bb (.var 4 false) (.var 5 false))]),
      .setI0 12 (.bin .quo .i64 (.var 9) (.lit 2)),
      .decI 12 5,
      .setI0 13 (.bin .rem .i64 (.var 9) (.lit 2)),
      .setB0 14 (.cmp .eql (.var 13) (.lit 1)),
      .setB0 15 (.all [(.bb (.var 1 false) (.var 14 false))])])
    (ρ := (((((((env0.setB 0 b0).setB 1 b1).setB 2 b2).setB 3 b3).setB 4 b4).setB 5 b5).setI 6 a6))
    (Pr := ((16 : Int) ≠ 0) ∧ (True) ∧ ((16 : Int) ≠ 0) ∧ (b0 = false) ∧ (True) ∧ (b3 = false) ∧ (True) ∧ ((2 : Int) ≠ 0) ∧ ((ibin .quo .i64 (ibin .rem .i64 (ibin .add .i64 (ibin .rem .i64 a6 16) 16) 16) 2) = 5) ∧ ((2 : Int) ≠ 0) ∧ (True) ∧ (True) ∧ ((.bool (!((b1 == (icmp .eql (ibin .rem .i64 (ibin .rem .i64 (ibin .add .i64 (ibin .rem .i64 a6 16) 16) 16) 2) 1)) && true))) : Value) = (.bool (!((b1 == (icmp .eql (ibin .rem .i64 (ibin .rem .i64 (ibin .add .i64 (ibin .rem .i64 a6 16) 16) 16) 2) 1)) && true))))
    (by kernel_rfl) (by kernel_rfl) (by kernel_rfl) (by kernel_rfl) ⟨(by decide), trivial, (by decide), h0, trivial, h1, trivial, (by decide), h2, (by decide), trivial, trivial, rfl⟩ w
theorem cond_24 (b0 : Bool) (b1 : Bool) (b2 : Bool) (b3 : Bool) (b4 : Bool) (b5 : Bool) (a6 : Int) (h0 : b0 = true) (h1 : b3 = true) (h2 : (ibin .quo .i64 (ibin .rem .i64 (ibin .add .i64 (ibin .rem .i64 a6 16) 16) 16) 2) = 6) (w : World) :
    Calls Try.prog 17 #[(.agg #[(.bool b0), (.bool b1), (.bool b2), (.bool b3), (.bool b4), (.bool b5)]), (.int .i64 a6)] w fun e w' => e = .returned (.bool (!(((!((b4 == b5) && true)) == (icmp .eql (ibin .rem .i64 (ibin .rem .i64 (ibin .add .i64 (ibin .rem .i64 a6 16) 16) 16) 2) 1)) && true))) ∧ RowKit.Below w.heap.size w w' :=
  wayp C0_ok (lf := 1000) (d := 50) (args := [(.agg [(.bvar 0 false), (.bvar 1 false), (.bvar 2 false), (.bvar 3 false), (.bvar 4 false), (.bvar 5 false)]), (.c (.ivar .i64 6))]) (ds := [.db true, .db true, .di 6]) (nx := 7) (v := (.w (.c (.bvar 14 true))))
    (log := [.setI0 7 (.bin .rem .i64 (.var 6) (.lit 16)),
      .setI0 8 (.bin .add .i64 (.var 7) (.lit 16)),
      .setI0 9 (.bin .rem .i64 (.var 8) (.lit 16)),
      .decB 0 true,
      .setB0 10 (.all [(.bb (.var 4 false) (.var 5 false))]),
      .decB 3 true,
      .setI0 11 (.bin .quo .i64 (.var 9) (.lit 2)),
      .decI 11 6,
      .setI0 12 (.bin .rem .i64 (.var 9) (.lit 2)),
      .setB0 13 (.cmp .eql (.var 12) (.lit 1)),
      .setB0 14 (.all [(.bb (.var 10 true) (.var 13 false))])])
    (ρ := (((((((env0.setB 0 b0).setB 1 b1).setB 2 b2).setB 3 b3).setB 4 b4).setB 5 b5).setI 6 a6))
    (Pr := ((16 : Int) ≠ 0) ∧ (True) ∧ ((16 : Int) ≠ 0) ∧ (b0 = true) ∧ (True) ∧ (b3 = true) ∧ ((2 : Int) ≠ 0) ∧ ((ibin .quo .i64 (ibin .rem .i64 (ibin .add .i64 (ibin .rem .i64 a6 16) 16) 16) 2) = 6) ∧ ((2 : Int) ≠ 0) ∧ (True) ∧ (True) ∧ ((.bool (!(((!((b4 == b5) && true)) == (icmp .eql (ibin .rem .i64 (ibin .rem .i64 (ibin .add .i64 (ibin .rem .i64 a6 16) 16) 16) 2) 1)) && true))) : Value) = (.bool (!(((!((b4 == b5) && true)) == (icmp .eql (ibin .rem .i64 (ibin .rem .i64 (ibin .add .i64 (ibin .rem .i64 a6 16) 16) 16) 2) 1)) && true))))
    (by kernel_rfl) (by kernel_rfl) (by kernel_rfl) (by kernel_rfl) ⟨(by decide), trivial, (by decide), h0, trivial, h1, (by decide), h2, (by decide), trivial, trivial, rfl⟩ w
theorem cond_25 (b0 : Bool) (b1 : Bool) (b2 : Bool) (b3 : Bool) (b4 : Bool) (b5 : Bool) (a6 : Int) (h0 : b0 = true) (h1 : b3 = false) (h2 : (ibin .quo .i64 (ibin .rem .i64 (ibin .add .i64 (ibin .rem .i64 a6 16) 16) 16) 2) = 6) (w : World) :
    Calls Try.prog 17 #[(.agg #[(.bool b0), (.bool b1), (.bool b2), (.bool b3), (.bool b4), (.bool b5)]), (.int .i64 a6)] w fun e w' => e = .returned (.bool (!(((!((b4 == b5) && true)) == (icmp .eql (ibin .rem .i64 (ibin .rem .i64 (ibin .add .i64 (ibin .rem .i64 a6 16) 16) 16) 2) 1)) && true))) ∧ RowKit.Below w.heap.size w w' :=
  wayp C0_ok (lf := 1000) (d := 50) (args := [(.agg [(.bvar 0 false), (.bvar 1 false), (.bvar 2 false), (.bvar 3 false), (.bvar 4 false), (.bvar 5 false)]), (.c (.ivar .i64 6))]) (ds := [.db true, .db false, .di 6]) (nx := 7) (v := (.w (.c (.bvar 15 true))))
    (log := [.setI0 7 (.bin .rem .i64 (.var 6) (.lit 16)),
      .setI0 8 (.bin .add .i64 (.var 7) (.lit 16)),
      .setI0 9 (.bin .rem .i64 (.var 8) (.lit 16)),
      .decB 0 true,
      .setB0 10 (.all [(.bb (.var 4 false) (.var 5 false))]),
      .decB 3 false,
      .setB0 11 (.all [(.bb (.var 4 false) (.var 5 false))]),
      .setI0 12 (.bin .quo .i64 (.var 9) (.lit 2)),
      .decI 12 6,
      .setI0 13 (.bin .rem .i64 (.var 9) (.lit 2)),
      .setB0 14 (.cmp .eql (.var 13) (.lit 1)),
      .setB0 15 (.all [(.bb (.var 10 true) (.var 14 false))])])
    (ρ := (((((((env0.setB 0 b0).setB 1 b1).setB 2 b2).setB 3 b3).setB 4 b4).setB 5 b5).setI 6 a6))
    (Pr := ((16 : Int) ≠ 0) ∧ (True) ∧ ((16 : Int) ≠ 0) ∧ (b0 = true) ∧ (True) ∧ (b3 = false) ∧ (True) ∧ ((2 : Int) ≠ 0) ∧ ((ibin .quo .i64 (ibin .rem .i64 (ibin .add .i64 (ibin .rem .i64 a6 16) 16) 16) 2) = 6) ∧ ((2 : Int) ≠ 0) ∧ (True) ∧ (True) ∧ ((.bool (!(((!((b4 == b5) && true)) == (icmp .eql (ibin .rem .i64 (ibin .rem .i64 (ibin .add .i64 (ibin .rem .i64 a6 16) 16) 16) 2) 1)) && true))) : Value) = (.bool (!(((!((b4 == b5) && true)) == (icmp .eql (ibin .rem .i64 (ibin .rem .i64 (ibin .add .i64 (ibin .rem .i64 a6 16) 16) 16) 2) 1)) && true))))
    (by kernel_rfl) (by kernel_rfl) (by kernel_rfl) (by kernel_rfl) ⟨(by decide), trivial, (by decide), h0, trivial, h1, trivial, (by decide), h2, (by decide), trivial, trivial, rfl⟩ w
theorem cond_26 (b0 : Bool) (b1 : Bool) (b2 : Bool) (b3 : Bool) (b4 : Bool) (b5 : Bool) (a6 : Int) (h0 : b0 = false) (h1 : b3 = true) (h2 : (ibin .quo .i64 (ibin .rem .i64 (ibin .add .i64 (ibin .rem .i64 a6 16) 16) 16) 2) = 6) (w : World) :
    Calls Try.prog 17 #[(.agg #[(.bool b0), (.bool b1), (.bool b2), (.bool b3), (.bool b4), (.bool b5)]), (.int .i64 a6)] w fun e w' => e = .returned (.bool (!(((!((b4 == b5) && true)) == (icmp .eql (ibin .rem .i64 (ibin .rem .i64 (ibin .add .i64 (ibin .rem .i64 a6 16) 16) 16) 2) 1)) && true))) ∧ RowKit.Below w.heap.size w w' :=
  wayp C0_ok (lf := 1000) (d := 50) (args := [(.agg [(.bvar 0 false), (.bvar 1 false), (.bvar 2 false), (.bvar 3 false), (.bvar 4 false), (.bvar 5 false)]), (.c (.ivar .i64 6))]) (ds := [.db false, .db true, .di 6]) (nx := 7) (v := (.w (.c (.bvar 14 true))))
    (log := [.setI0 7 (.bin .rem .i64 (.var 6) (.lit 16)),
      .setI0 8 (.bin .add .i64 (.var 7) (.lit 16)),
      .setI0 9 (.bin .rem .i64 (.var 8) (.lit 16)),
      .decB 0 false,
      .setB0 10 (.all [(.bb (.var 4 false) (.var 5 false))]),
      .decB 3 true,
      .setI0 11 (.bin .quo .i64 (.var 9) (.lit 2)),
      .decI 11 6,
      .setI0 12 (.bin .rem .i64 (.var 9) (.lit 2)),
      .setB0 13 (.cmp .eql (.var 12) (.lit 1)),
      .setB0 14 (.all [(.bb (.var 10 true) (.var 13 false))])])
    (ρ := (((((((env0.setB 0 b0).setB 1 b1).setB 2 b2).setB 3 b3).setB 4 b4).setB 5 b5).setI 6 a6))
    (Pr := ((16 : Int) ≠ 0) ∧ (True) ∧ ((16 : Int) ≠ 0) ∧ (b0 = false) ∧ (True) ∧ (b3 = true) ∧ ((2 : Int) ≠ 0) ∧ ((ibin .quo .i64 (ibin .rem .i64 (ibin .add .i64 (ibin .rem .i64 a6 16) 16) 16) 2) = 6) ∧ ((2 : Int) ≠ 0) ∧ (True) ∧ (True) ∧ ((.bool (!(((!((b4 == b5) && true)) == (icmp .eql (ibin .rem .i64 (ibin .rem .i64 (ibin .add .i64 (ibin .rem .i64 a6 16) 16) 16) 2) 1)) && true))) : Value) = (.bool (!(((!((b4 == b5) && true)) == (icmp .eql (ibin .rem .i64 (ibin .rem .i64 (ibin .add .i64 (ibin .rem .i64 a6 16) 16) 16) 2) 1)) && true))))
    (by kernel_rfl) (by kernel_rfl) (by kernel_rfl) (by kernel_rfl) ⟨(by decide), trivial, (by decide), h0, trivial, h1, (by decide), h2, (by decide), trivial, trivial, rfl⟩ w
theorem cond_27 (b0 : Bool) (b1 : Bool) (b2 : Bool) (b3 : Bool) (b4 : Bool) (b5 : Bool) (a6 : Int) (h0 : b0 = false) (h1 : b3 = false) (h2 : (ibin .quo .i64 (ibin .rem .i64 (ibin .add .i64 (ibin .rem .i64 a6 16) 16) 16) 2) = 6) (w : World) :
    Calls Try.prog 17 #[(.agg #[(.bool b0), (.bool b1), (.bool b2), (.bool b3), (.bool b4), (.bool b5)]), (.int .i64 a6)] w fun e w' => e = .returned (.bool (!(((!((b4 == b5) && true)) == (icmp .eql (ibin .rem .i64 (ibin .rem .i64 (ibin .add .i64 (ibin .rem .i64 a6 16) 16) 16) 2) 1)) && true))) ∧ RowKit.Below w.heap.size w w' :=
  wayp C0_ok (lf := 1000) (d := 50) (args := [(.agg [(.bvar 0 false), (.bvar 1 false), (.bvar 2 false), (.bvar 3 false), (.bvar 4 false), (.bvar 5 false)]), (.c (.ivar .i64 6))]) (ds := [.db false, .db false, .di 6]) (nx := 7) (v := (.w (.c (.bvar 15 true))))
    (log := [.setI0 7 (.bin .rem .i64 (.var 6) (.lit 16)),
      .setI0 8 (.bin .add .i64 (.var 7) (.lit 16)),
      .setI0 9 (.bin .rem .i64 (.var 8) (.lit 16)),
      .decB 0 false,
      .setB0 10 (.all [(.bb (.var 4 false) (.var 5 false))]),
      .decB 3 false,
      .setB0 11 (.all [(.bb (.var 4 false) (.var 5 false))]),
      .setI0 12 (.bin .quo .i64 (.var 9) (.lit 2)),
      .decI 12 6,
      .setI0 13 (.bin .rem .i64 (.var 9) (.lit 2)),
      .setB0 14 (.cmp .eql (.var 13) (.lit 1)),
      .setB0 15 (.all [(.bb (.var 10 true) (.var 14 false))])])
    (ρ := (((((((env0.setB 0 b0).setB 1 b1).setB 2 b2).setB 3 b3).setB 4 b4).setB 5 b5).setI 6 a6))
    (Pr := ((16 : Int) ≠ 0) ∧ (True) ∧ ((16 : Int) ≠ 0) ∧ (b0 = false) ∧ (True) ∧ (b3 = false) ∧ (True) ∧ ((2 : Int) ≠ 0) ∧ ((ibin .quo .i64 (ibin .rem .i64 (ibin .add .i64 (ibin .rem .i64 a6 16) 16) 16) 2) = 6) ∧ ((2 : Int) ≠ 0) ∧ (True) ∧ (True) ∧ ((.bool (!(((!((b4 == b5) && true)) == (icmp .eql (ibin .rem .i64 (ibin .rem .i64 (ibin .add .i64 (ibin .rem .i64 a6 16) 16) 16) 2) 1)) && true))) : Value) = (.bool (!(((!((b4 == b5) && true)) == (icmp .eql (ibin .rem .i64 (ibin .rem .i64 (ibin .add .i64 (ibin .rem .i64 a6 16) 16) 16) 2) 1)) && true))))
    (by kernel_rfl) (by kernel_rfl) (by kernel_rfl) (by kernel_rfl) ⟨(by decide), trivial, (by decide), h0, trivial, h1, trivial, (by decide), h2, (by decide), trivial, trivial, rfl⟩ w
theorem cond_28 (b0 : Bool) (b1 : Bool) (b2 : Bool) (b3 : Bool) (b4 : Bool) (b5 : Bool) (a6 : Int) (h0 : b0 = true) (h1 : b3 = true) (h2 : (ibin .quo .i64 (ibin .rem .i64 (ibin .add .i64 (ibin .rem .i64 a6 16) 16) 16) 2) = 7) (w : World) :
    Calls Try.prog 17 #[(.agg #[(.bool b0), (.bool b1), (.bool b2), (.bool b3), (.bool b4), (.bool b5)]), (.int .i64 a6)] w fun e w' => e = .returned (.bool (!((true == (icmp .eql (ibin .rem .i64 (ibin .rem .i64 (ibin .add .i64 (ibin .rem .i64 a6 16) 16) 16) 2) 1)) && true))) ∧ RowKit.Below w.heap.size w w' :=
  wayp C0_ok (lf := 1000) (d := 50) (args := [(.agg [(.bvar 0 false), (.bvar 1 false), (.bvar 2 false), (.bvar 3 false), (.bvar 4 false), (.bvar 5 false)]), (.c (.ivar .i64 6))]) (ds := [.db true, .db true, .di 7]) (nx := 7) (v := (.w (.c (.bvar 14 true))))
    (log := [.setI0 7 (.bin .rem .i64 (.var 6) (.lit 16)),
      .setI0 8 (.bin .add .i64 (.var 7) (.lit 16)),
      .setI0 9 (.bin .rem .i64 (.var 8) (.lit 16)),
      .decB 0 true,
      .setB0 10 (.all [(.bb (.var 4 false) (.var 5 false))]),
      .decB 3 true,
      .setI0 11 (.bin .quo .i64 (.var 9) (.lit 2)),
      .decI 11 7,
      .setI0 12 (.bin .rem .i64 (.var 9) (.lit 2)),
      .setB0 13 (.cmp .eql (.var 12) (.lit 1)),
      .setB0 14 (.all [(.bb (.lit true) (.var 13 false))])])
    (ρ := (((((((env0.setB 0 b0).setB 1 b1).setB 2 b2).setB 3 b3).setB 4 b4).setB 5 b5).setI 6 a6))
    (Pr := ((16 : Int) ≠ 0) ∧ (True) ∧ ((16 : Int) ≠ 0) ∧ (b0 = true) ∧ (True) ∧ (b3 = true) ∧ ((2 : Int) ≠ 0) ∧ ((ibin .quo .i64 (ibin .rem .i64 (ibin .add .i64 (ibin .rem .i64 a6 16) 16) 16) 2) = 7) ∧ ((2 : Int) ≠ 0) ∧ (True) ∧ (True) ∧ ((.bool (!((true == (icmp .eql (ibin .rem .i64 (ibin .rem .i64 (ibin .add .i64 (ibin .rem .i64 a6 16) 16) 16) 2) 1)) && true))) : Value) = (.bool (!((true == (icmp .eql (ibin .rem .i64 (ibin .rem .i64 (ibin .add .i64 (ibin .rem .i64 a6 16) 16) 16) 2) 1)) && true))))
    (by kernel_rfl) (by kernel_rfl) (by kernel_rfl) (by kernel_rfl) ⟨(by decide), trivial, (by decide), h0, trivial, h1, (by decide), h2, (by decide), trivial, trivial, rfl⟩ w
theorem cond_29 (b0 : Bool) (b1 : Bool) (b2 : Bool) (b3 : Bool) (b4 : Bool) (b5 : Bool) (a6 : Int) (h0 : b0 = true) (h1 : b3 = false) (h2 : (ibin .quo .i64 (ibin .rem .i64 (ibin .add .i64 (ibin .rem .i64 a6 16) 16) 16) 2) = 7) (w : World) :
    Calls Try.prog 17 #[(.agg #[(.bool b0), (.bool b1), (.bool b2), (.bool b3), (.bool b4), (.bool b5)]), (.int .i64 a6)] w fun e w' => e = .returned (.bool (!(((!((b4 == b5) && true)) == (icmp .eql (ibin .rem .i64 (ibin .rem .i64 (ibin .add .i64 (ibin .rem .i64 a6 16) 16) 16) 2) 1)) && true))) ∧ RowKit.Below w.heap.size w w' :=
  wayp C0_ok (lf := 1000) (d := 50) (args := [(.agg [(.bvar 0 false), (.bvar 1 false), (.bvar 2 false), (.bvar 3 false), (.bvar 4 false), (.bvar 5 false)]), (.c (.ivar .i64 6))]) (ds := [.db true, .db false, .di 7]) (nx := 7) (v := (.w (.c (.bvar 15 true))))
    (log := [.setI0 7 (.bin .rem .i64 (.var 6) (.lit 16)),
      .setI0 8 (.bin .add .i64 (.var 7) (.lit 16)),
      .setI0 9 (.bin .rem .i64 (.var 8) (.lit 16)),
      .decB 0 true,
      .setB0 10 (.all [(.bb (.var 4 false) (.var 5 false))]),
      .decB 3 false,
      .setB0 11 (.all [(.bb (.var 4 false) (.var 5 false))]),
      .setI0 12 (.bin .quo .i64 (.var 9) (.lit 2)),
      .decI 12 7,
      .setI0 13 (.bin .rem .i64 (.var 9) (.lit 2)),
      .setB0 14 (.cmp .eql (.var 13) (.lit 1)),
      .setB0 15 (.all [(.bb (.var 11 true) (.var 14 false))])])
    (ρ := (((((((env0.setB 0 b0).setB 1 b1).setB 2 b2).setB 3 b3).setB 4 b4).setB 5 b5).setI 6 a6))
    (Pr := ((16 : Int) ≠ 0) ∧ (True) ∧ ((16 : Int) ≠ 0) ∧ (b0 = true) ∧ (True) ∧ (b3 = false) ∧ (True) ∧ ((2 : Int) ≠ 0) ∧ ((ibin .quo .i64 (ibin .rem .i64 (ibin .add .i64 (ibin .rem .i64 a6 16) 16) 16) 2) = 7) ∧ ((2 : Int) ≠ 0) ∧ (True) ∧ (True) ∧ ((.bool (!(((!((b4 == b5) && true)) == (icmp .eql (ibin .rem .i64 (ibin .rem .i64 (ibin .add .i64 (ibin .rem .i64 a6 16) 16) 16) 2) 1)) && true))) : Value) = (.bool (!(((!((b4 == b5) && true)) == (icmp .eql (ibin .rem .i64 (ibin .rem .i64 (ibin .add .i64 (ibin .rem .i64 a6 16) 16) 16) 2) 1)) && true))))
    (by kernel_rfl) (by kernel_rfl) (by kernel_rfl) (by kernel_rfl) ⟨(by decide), trivial, (by decide), h0, trivial, h1, trivial, (by decide), h2, (by decide), trivial, trivial, rfl⟩ w
theorem cond_30 (b0 : Bool) (b1 : Bool) (b2 : Bool) (b3 : Bool) (b4 : Bool) (b5 : Bool) (a6 : Int) (h0 : b0 = false) (h1 : b3 = true) (h2 : (ibin .quo .i64 (ibin .rem .i64 (ibin .add .i64 (ibin .rem .i64 a6 16) 16) 16) 2) = 7) (w : World) :
    Calls Try.prog 17 #[(.agg #[(.bool b0), (.bool b1), (.bool b2), (.bool b3), (.bool b4), (.bool b5)]), (.int .i64 a6)] w fun e w' => e = .returned (.bool (!((true == (icmp .eql (ibin .rem .i64 (ibin .rem .i64 (ibin .add .i64 (ibin .rem .i64 a6 16) 16) 16) 2) 1)) && true))) ∧ RowKit.Below w.heap.size w w' :=
  wayp C0_ok (lf := 1000) (d := 50) (args := [(.agg [(.bvar 0 false), (.bvar 1 false), (.bvar 2 false), (.bvar 3 false), (.bvar 4 false), (.bvar 5 false)]), (.c (.ivar .i64 6))]) (ds := [.db false, .db true, .di 7]) (nx := 7) (v := (.w (.c (.bvar 14 true))))
    (log := [.setI0 7 (.bin .rem .i64 (.var 6) (.lit 16)),
      .setI0 8 (.bin .add .i64 (.var 7) (.lit 16)),
      .setI0 9 (.bin .rem .i64 (.var 8) (.lit 16)),
      .decB 0 false,
      .setB0 10 (.all [(.bb (.var 4 false) (.var 5 false))]),
      .decB 3 true,
      .setI0 11 (.bin .quo .i64 (.var 9) (.lit 2)),
      .decI 11 7,
      .setI0 12 (.bin .rem .i64 (.var 9) (.lit 2)),
      .setB0 13 (.cmp .eql (.var 12) (.lit 1)),
      .setB0 14 (.all [(.bb (.lit true) (.var 13 false))])])
    (ρ := (((((((env0.setB 0 b0).setB 1 b1).setB 2 b2).setB 3 b3).setB 4 b4).setB 5 b5).setI 6 a6))
    (Pr := ((16 : Int) ≠ 0) ∧ (True) ∧ ((16 : Int) ≠ 0) ∧ (b0 = false) ∧ (True) ∧ (b3 = true) ∧ ((2 : Int) ≠ 0) ∧ ((ibin .quo .i64 (ibin .rem .i64 (ibin .add .i64 (ibin .rem .i64 a6 16) 16) 16) 2) = 7) ∧ ((2 : Int) ≠ 0) ∧ (True) ∧ (True) ∧ ((.bool (!((true == (icmp .eql (ibin .rem .i64 (ibin .rem .i64 (ibin .add .i64 (ibin .rem .i64 a6 16) 16) 16) 2) 1)) && true))) : Value) = (.bool (!((true == (icmp .eql (ibin .rem .i64 (ibin .rem .i64 (ibin .add .i64 (ibin .rem .i64 a6 16) 16) 16) 2) 1)) && true))))
    (by kernel_rfl) (by kernel_rfl) (by kernel_rfl) (by kernel_rfl) ⟨(by decide), trivial, (by decide), h0, trivial, h1, (by decide), h2, (by decide), trivial, trivial, rfl⟩ w
theorem cond_31 (b0 : Bool) (b1 : Bool) (b2 : Bool) (b3 : Bool) (b4 : Bool) (b5 : Bool) (a6 : Int) (h0 : b0 = false) (h1 : b3 = false) (h2 : (ibin .quo .i64 (ibin .rem .i64 (ibin .add .i64 (ibin .rem .i64 a6 16) 16) 16) 2) = 7) (w : World) :
    Calls Try.prog 17 #[(.agg #[(.bool b0), (.bool b1), (.bool b2), (.bool b3), (.bool b4), (.bool b5)]), (.int .i64 a6)] w fun e w' => e = .returned (.bool (!(((!((b4 == b5) && true)) == (icmp .eql (ibin .rem .i64 (ibin .rem .i64 (ibin .add .i64 (ibin .rem .i64 a6 16) 16) 16) 2) 1)) && true))) ∧ RowKit.Below w.heap.size w w' :=
  wayp C0_ok (lf := 1000) (d := 50) (args := [(.agg [(.bvar 0 false), (.bvar 1 false), (.bvar 2 false), (.bvar 3 false), (.bvar 4 false), (.bvar 5 false)]), (.c (.ivar .i64 6))]) (ds := [.db false, .db false, .di 7]) (nx := 7) (v := (.w (.c (.bvar 15 true))))
    (log := [.setI0 7 (.bin .rem .i64 (.var 6) (.lit 16)),
      .setI0 8 (.bin .add .i64 (.var 7) (.lit 16)),
      .setI0 9 (.bin .rem .i64 (.var 8) (.lit 16)),
      .decB 0 false,
      .setB0 10 (.all [(.bb (.var 4 false) (.var 5 false))]),
      .decB 3 false,
      .setB0 11 (.all [(.bb (.var 4 false) (.var 5 false))]),
      .setI0 12 (.bin .quo .i64 (.var 9) (.lit 2)),
      .decI 12 7,
      .setI0 13 (.bin .rem .i64 (.var 9) (.lit 2)),
      .setB0 14 (.cmp .eql (.var 13) (.lit 1)),
      .setB0 15 (.all [(.bb (.var 11 true) (.var 14 false))])])
    (ρ := (((((((env0.setB 0 b0).setB 1 b1).setB 2 b2).setB 3 b3).setB 4 b4).setB 5 b5).setI 6 a6))
    (Pr := ((16 : Int) ≠ 0) ∧ (True) ∧ ((16 : Int) ≠ 0) ∧ (b0 = false) ∧ (True) ∧ (b3 = false) ∧ (True) ∧ ((2 : Int) ≠ 0) ∧ ((ibin .quo .i64 (ibin .rem .i64 (ibin .add .i64 (ibin .rem .i64 a6 16) 16) 16) 2) = 7) ∧ ((2 : Int) ≠ 0) ∧ (True) ∧ (True) ∧ ((.bool (!(((!((b4 == b5) && true)) == (icmp .eql (ibin .rem .i64 (ibin .rem .i64 (ibin .add .i64 (ibin .rem .i64 a6 16) 16) 16) 2) 1)) && true))) : Value) = (.bool (!(((!((b4 == b5) && true)) == (icmp .eql (ibin .rem .i64 (ibin .rem .i64 (ibin .add .i64 (ibin .rem .i64 a6 16) 16) 16) 2) 1)) && true))))
    (by kernel_rfl) (by kernel_rfl) (by kernel_rfl) (by kernel_rfl) ⟨(by decide), trivial, (by decide), h0, trivial, h1, trivial, (by decide), h2, (by decide), trivial, trivial, rfl⟩ w
-- 32 ways of cond
theorem cond_all (b0 b1 b2 b3 b4 b5 : Bool) (a6 : Int) (w : World) :
    Calls Try.prog 17 #[(.agg #[.bool b0, .bool b1, .bool b2, .bool b3, .bool b4, .bool b5]), .int .i64 a6] w fun e w' => e = .returned (.bool (condF b0 b1 b2 b3 b4 b5 a6)) ∧ RowKit.Below w.heap.size w w' := by
  have hk := modE16 a6
  have hk2 := and15 a6
  have hk3 := and1 a6
  have hc : a6 % 16 = 0 ∨ a6 % 16 = 1 ∨ a6 % 16 = 2 ∨ a6 % 16 = 3 ∨ a6 % 16 = 4 ∨ a6 % 16 = 5 ∨ a6 % 16 = 6 ∨ a6 % 16 = 7 ∨ a6 % 16 = 8 ∨ a6 % 16 = 9 ∨ a6 % 16 = 10 ∨ a6 % 16 = 11 ∨ a6 % 16 = 12 ∨ a6 % 16 = 13 ∨ a6 % 16 = 14 ∨ a6 % 16 = 15 := by omega
  have hm : a6 % 2 = (a6 % 16) % 2 := by omega
  rcases hc with h | h | h | h | h | h | h | h | h | h | h | h | h | h | h | h <;> rw [h] at hk hk2 hm <;> rw [hm] at hk3
  · cases b0 <;> cases b3
    · exact calls_bool (cond_3 false b1 b2 false b4 b5 a6 (by first | rfl | (rw [hk]; decide) | (rw [hk2]; decide)) (by first | rfl | (rw [hk]; decide) | (rw [hk2]; decide)) (by first | rfl | (rw [hk]; decide) | (rw [hk2]; decide)) w) (by (unfold condF; rw [h]; (try rw [hk]); (try rw [hk3]); revert b1 b2 b4 b5; decide))
    · exact calls_bool (cond_2 false b1 b2 true b4 b5 a6 (by first | rfl | (rw [hk]; decide) | (rw [hk2]; decide)) (by first | rfl | (rw [hk]; decide) | (rw [hk2]; decide)) (by first | rfl | (rw [hk]; decide) | (rw [hk2]; decide)) w) (by (unfold condF; rw [h]; (try rw [hk]); (try rw [hk3]); revert b1 b2 b4 b5; decide))
    · exact calls_bool (cond_1 true b1 b2 false b4 b5 a6 (by first | rfl | (rw [hk]; decide) | (rw [hk2]; decide)) (by first | rfl | (rw [hk]; decide) | (rw [hk2]; decide)) (by first | rfl | (rw [hk]; decide) | (rw [hk2]; decide)) w) (by (unfold condF; rw [h]; (try rw [hk]); (try rw [hk3]); revert b1 b2 b4 b5; decide))
    · exact calls_bool (cond_0 true b1 b2 true b4 b5 a6 (by first | rfl | (rw [hk]; decide) | (rw [hk2]; decide)) (by first | rfl | (rw [hk]; decide) | (rw [hk2]; decide)) (by first | rfl | (rw [hk]; decide) | (rw [hk2]; decide)) w) (by (unfold condF; rw [h]; (try rw [hk]); (try rw [hk3]); revert b1 b2 b4 b5; decide))
  · cases b0 <;> cases b3
    · exact calls_bool (cond_3 false b1 b2 false b4 b5 a6 (by first | rfl | (rw [hk]; decide) | (rw [hk2]; decide)) (by first | rfl | (rw [hk]; decide) | (rw [hk2]; decide)) (by first | rfl | (rw [hk]; decide) | (rw [hk2]; decide)) w) (by (unfold condF; rw [h]; (try rw [hk]); (try rw [hk3]); revert b1 b2 b4 b5; decide))
    · exact calls_bool (cond_2 false b1 b2 true b4 b5 a6 (by first | rfl | (rw [hk]; decide) | (rw [hk2]; decide)) (by first | rfl | (rw [hk]; decide) | (rw [hk2]; decide)) (by first | rfl | (rw [hk]; decide) | (rw [hk2]; decide)) w) (by (unfold condF; rw [h]; (try rw [hk]); (try rw [hk3]); revert b1 b2 b4 b5; decide))
    · exact calls_bool (cond_1 true b1 b2 false b4 b5 a6 (by first | rfl | (rw [hk]; decide) | (rw [hk2]; decide)) (by first | rfl | (rw [hk]; decide) | (rw [hk2]; decide)) (by first | rfl | (rw [hk]; decide) | (rw [hk2]; decide)) w) (by (unfold condF; rw [h]; (try rw [hk]); (try rw [hk3]); revert b1 b2 b4 b5; decide))
    · exact calls_bool (cond_0 true b1 b2 true b4 b5 a6 (by first | rfl | (rw [hk]; decide) | (rw [hk2]; decide)) (by first | rfl | (rw [hk]; decide) | (rw [hk2]; decide)) (by first | rfl | (rw [hk]; decide) | (rw [hk2]; decide)) w) (by (unfold condF; rw [h]; (try rw [hk]); (try rw [hk3]); revert b1 b2 b4 b5; decide))
  · cases b0 <;> cases b3
    · exact calls_bool (cond_7 false b1 b2 false b4 b5 a6 (by first | rfl | (rw [hk]; decide) | (rw [hk2]; decide)) (by first | rfl | (rw [hk]; decide) | (rw [hk2]; decide)) (by first | rfl | (rw [hk]; decide) | (rw [hk2]; decide)) w) (by (unfold condF; rw [h]; (try rw [hk]); (try rw [hk3]); revert b1 b2 b4 b5; decide))
    · exact calls_bool (cond_6 false b1 b2 true b4 b5 a6 (by first | rfl | (rw [hk]; decide) | (rw [hk2]; decide)) (by first | rfl | (rw [hk]; decide) | (rw [hk2]; decide)) (by first | rfl | (rw [hk]; decide) | (rw [hk2]; decide)) w) (by (unfold condF; rw [h]; (try rw [hk]); (try rw [hk3]); revert b1 b2 b4 b5; decide))
    · exact calls_bool (cond_5 true b1 b2 false b4 b5 a6 (by first | rfl | (rw [hk]; decide) | (rw [hk2]; decide)) (by first | rfl | (rw [hk]; decide) | (rw [hk2]; decide)) (by first | rfl | (rw [hk]; decide) | (rw [hk2]; decide)) w) (by (unfold condF; rw [h]; (try rw [hk]); (try rw [hk3]); revert b1 b2 b4 b5; decide))
    · exact calls_bool (cond_4 true b1 b2 true b4 b5 a6 (by first | rfl | (rw [hk]; decide) | (rw [hk2]; decide)) (by first | rfl | (rw [hk]; decide) | (rw [hk2]; decide)) (by first | rfl | (rw [hk]; decide) | (rw [hk2]; decide)) w) (by (unfold condF; rw [h]; (try rw [hk]); (try rw [hk3]); revert b1 b2 b4 b5; decide))
  · cases b0 <;> cases b3
    · exact calls_bool (cond_7 false b1 b2 false b4 b5 a6 (by first | rfl | (rw [hk]; decide) | (rw [hk2]; decide)) (by first | rfl | (rw [hk]; decide) | (rw [hk2]; decide)) (by first | rfl | (rw [hk]; decide) | (rw [hk2]; decide)) w) (by (unfold condF; rw [h]; (try rw [hk]); (try rw [hk3]); revert b1 b2 b4 b5; decide))
    · exact calls_bool (cond_6 false b1 b2 true b4 b5 a6 (by first | rfl | (rw [hk]; decide) | (rw [hk2]; decide)) (by first | rfl | (rw [hk]; decide) | (rw [hk2]; decide)) (by first | rfl | (rw [hk]; decide) | (rw [hk2]; decide)) w) (by (unfold condF; rw [h]; (try rw [hk]); (try rw [hk3]); revert b1 b2 b4 b5; decide))
    · exact calls_bool (cond_5 true b1 b2 false b4 b5 a6 (by first | rfl | (rw [hk]; decide) | (rw [hk2]; decide)) (by first | rfl | (rw [hk]; decide) | (rw [hk2]; decide)) (by first | rfl | (rw [hk]; decide) | (rw [hk2]; decide)) w) (by (unfold condF; rw [h]; (try rw [hk]); (try rw [hk3]); revert b1 b2 b4 b5; decide))
    · exact calls_bool (cond_4 true b1 b2 true b4 b5 a6 (by first | rfl | (rw [hk]; decide) | (rw [hk2]; decide)) (by first | rfl | (rw [hk]; decide) | (rw [hk2]; decide)) (by first | rfl | (rw [hk]; decide) | (rw [hk2]; decide)) w) (by (unfold condF; rw [h]; (try rw [hk]); (try rw [hk3]); revert b1 b2 b4 b5; decide))
  · cases b0 <;> cases b3
    · exact calls_bool (cond_11 false b1 b2 false b4 b5 a6 (by first | rfl | (rw [hk]; decide) | (rw [hk2]; decide)) (by first | rfl | (rw [hk]; decide) | (rw [hk2]; decide)) (by first | rfl | (rw [hk]; decide) | (rw [hk2]; decide)) w) (by (unfold condF; rw [h]; (try rw [hk]); (try rw [hk3]); revert b1 b2 b4 b5; decide))
    · exact calls_bool (cond_10 false b1 b2 true b4 b5 a6 (by first | rfl | (rw [hk]; decide) | (rw [hk2]; decide)) (by first | rfl | (rw [hk]; decide) | (rw [hk2]; decide)) (by first | rfl | (rw [hk]; decide) | (rw [hk2]; decide)) w) (by (unfold condF; rw [h]; (try rw [hk]); (try rw [hk3]); revert b1 b2 b4 b5; decide))
    · exact calls_bool (cond_9 true b1 b2 false b4 b5 a6 (by first | rfl | (rw [hk]; decide) | (rw [hk2]; decide)) (by first | rfl | (rw [hk]; decide) | (rw [hk2]; decide)) (by first | rfl | (rw [hk]; decide) | (rw [hk2]; decide)) w) (by (unfold condF; rw [h]; (try rw [hk]); (try rw [hk3]); revert b1 b2 b4 b5; decide))
    · exact calls_bool (cond_8 true b1 b2 true b4 b5 a6 (by first | rfl | (rw [hk]; decide) | (rw [hk2]; decide)) (by first | rfl | (rw [hk]; decide) | (rw [hk2]; decide)) (by first | rfl | (rw [hk]; decide) | (rw [hk2]; decide)) w) (by (unfold condF; rw [h]; (try rw [hk]); (try rw [hk3]); revert b1 b2 b4 b5; decide))
  · cases b0 <;> cases b3
    · exact calls_bool (cond_11 false b1 b2 false b4 b5 a6 (by first | rfl | (rw [hk]; decide) | (rw [hk2]; decide)) (by first | rfl | (rw [hk]; decide) | (rw [hk2]; decide)) (by first | rfl | (rw [hk]; decide) | (rw [hk2]; decide)) w) (by (unfold condF; rw [h]; (try rw [hk]); (try rw [hk3]); revert b1 b2 b4 b5; decide))
    · exact calls_bool (cond_10 false b1 b2 true b4 b5 a6 (by first | rfl | (rw [hk]; decide) | (rw [hk2]; decide)) (by first | rfl | (rw [hk]; decide) | (rw [hk2]; decide)) (by first | rfl | (rw [hk]; decide) | (rw [hk2]; decide)) w) (by (unfold condF; rw [h]; (try rw [hk]); (try rw [hk3]); revert b1 b2 b4 b5; decide))
    · exact calls_bool (cond_9 true b1 b2 false b4 b5 a6 (by first | rfl | (rw [hk]; decide) | (rw [hk2]; decide)) (by first | rfl | (rw [hk]; decide) | (rw [hk2]; decide)) (by first | rfl | (rw [hk]; decide) | (rw [hk2]; decide)) w) (by (unfold condF; rw [h]; (try rw [hk]); (try rw [hk3]); revert b1 b2 b4 b5; decide))
    · exact calls_bool (cond_8 true b1 b2 true b4 b5 a6 (by first | rfl | (rw [hk]; decide) | (rw [hk2]; decide)) (by first | rfl | (rw [hk]; decide) | (rw [hk2]; decide)) (by first | rfl | (rw [hk]; decide) | (rw [hk2]; decide)) w) (by (unfold condF; rw [h]; (try rw [hk]); (try rw [hk3]); revert b1 b2 b4 b5; decide))
  · cases b0 <;> cases b3
    · exact calls_bool (cond_15 false b1 b2 false b4 b5 a6 (by first | rfl | (rw [hk]; decide) | (rw [hk2]; decide)) (by first | rfl | (rw [hk]; decide) | (rw [hk2]; decide)) (by first | rfl | (rw [hk]; decide) | (rw [hk2]; decide)) w) (by (unfold condF; rw [h]; (try rw [hk]); (try rw [hk3]); revert b1 b2 b4 b5; decide))
    · exact calls_bool (cond_14 false b1 b2 true b4 b5 a6 (by first | rfl | (rw [hk]; decide) | (rw [hk2]; decide)) (by first | rfl | (rw [hk]; decide) | (rw [hk2]; decide)) (by first | rfl | (rw [hk]; decide) | (rw [hk2]; decide)) w) (by (unfold condF; rw [h]; (try rw [hk]); (try rw [hk3]); revert b1 b2 b4 b5; decide))
    · exact calls_bool (cond_13 true b1 b2 false b4 b5 a6 (by first | rfl | (rw [hk]; decide) | (rw [hk2]; decide)) (by first | rfl | (rw [hk]; decide) | (rw [hk2]; decide)) (by first | rfl | (rw [hk]; decide) | (rw [hk2]; decide)) w) (by (unfold condF; rw [h]; (try rw [hk]); (try rw [hk3]); revert b1 b2 b4 b5; decide))
    · exact calls_bool (cond_12 true b1 b2 true b4 b5 a6 (by first | rfl | (rw [hk]; decide) | (rw [hk2]; decide)) (by first | rfl | (rw [hk]; decide) | (rw [hk2]; decide)) (by first | rfl | (rw [hk]; decide) | (rw [hk2]; decide)) w) (by (unfold condF; rw [h]; (try rw [hk]); (try rw [hk3]); revert b1 b2 b4 b5; decide))
  · cases b0 <;> cases b3
    · exact calls_bool (cond_15 false b1 b2 false b4 b5 a6 (by first | rfl | (rw [hk]; decide) | (rw [hk2]; decide)) (by first | rfl | (rw [hk]; decide) | (rw [hk2]; decide)) (by first | rfl | (rw [hk]; decide) | (rw [hk2]; decide)) w) (by (unfold condF; rw [h]; (try rw [hk]); (try rw [hk3]); revert b1 b2 b4 b5; decide))
    · exact calls_bool (cond_14 false b1 b2 true b4 b5 a6 (by first | rfl | (rw [hk]; decide) | (rw [hk2]; decide)) (by first | rfl | (rw [hk]; decide) | (rw [hk2]; decide)) (by first | rfl | (rw [hk]; decide) | (rw [hk2]; decide)) w) (by (unfold condF; rw [h]; (try rw [hk]); (try rw [hk3]); revert b1 b2 b4 b5; decide))
    · exact calls_bool (cond_13 true b1 b2 false b4 b5 a6 (by first | rfl | (rw [hk]; decide) | (rw [hk2]; decide)) (by first | rfl | (rw [hk]; decide) | (rw [hk2]; decide)) (by first | rfl | (rw [hk]; decide) | (rw [hk2]; decide)) w) (by (unfold condF; rw [h]; (try rw [hk]); (try rw [hk3]); revert b1 b2 b4 b5; decide))
    · exact calls_bool (cond_12 true b1 b2 true b4 b5 a6 (by first | rfl | (rw [hk]; decide) | (rw [hk2]; decide)) (by first | rfl | (rw [hk]; decide) | (rw [hk2]; decide)) (by first | rfl | (rw [hk]; decide) | (rw [hk2]; decide)) w) (by (unfold condF; rw [h]; (try rw [hk]); (try rw [hk3]); revert b1 b2 b4 b5; decide))
  · cases b0 <;> cases b3
    · exact calls_bool (cond_19 false b1 b2 false b4 b5 a6 (by first | rfl | (rw [hk]; decide) | (rw [hk2]; decide)) (by first | rfl | (rw [hk]; decide) | (rw [hk2]; decide)) (by first | rfl | (rw [hk]; decide) | (rw [hk2]; decide)) w) (by (unfold condF; rw [h]; (try rw [hk]); (try rw [hk3]); revert b1 b2 b4 b5; decide))
    · exact calls_bool (cond_18 false b1 b2 true b4 b5 a6 (by first | rfl | (rw [hk]; decide) | (rw [hk2]; decide)) (by first | rfl | (rw [hk]; decide) | (rw [hk2]; decide)) (by first | rfl | (rw [hk]; decide) | (rw [hk2]; decide)) w) (by (unfold condF; rw [h]; (try rw [hk]); (try rw [hk3]); revert b1 b2 b4 b5; decide))
    · exact calls_bool (cond_17 true b1 b2 false b4 b5 a6 (by first | rfl | (rw [hk]; decide) | (rw [hk2]; decide)) (by first | rfl | (rw [hk]; decide) | (rw [hk2]; decide)) (by first | rfl | (rw [hk]; decide) | (rw [hk2]; decide)) w) (by (unfold condF; rw [h]; (try rw [hk]); (try rw [hk3]); revert b1 b2 b4 b5; decide))
    · exact calls_bool (cond_16 true b1 b2 true b4 b5 a6 (by first | rfl | (rw [hk]; decide) | (rw [hk2]; decide)) (by first | rfl | (rw [hk]; decide) | (rw [hk2]; decide)) (by first | rfl | (rw [hk]; decide) | (rw [hk2]; decide)) w) (by (unfold condF; rw [h]; (try rw [hk]); (try rw [hk3]); revert b1 b2 b4 b5; decide))
  · cases b0 <;> cases b3
    · exact calls_bool (cond_19 false b1 b2 false b4 b5 a6 (by first | rfl | (rw [hk]; decide) | (rw [hk2]; decide)) (by first | rfl | (rw [hk]; decide) | (rw [hk2]; decide)) (by first | rfl | (rw [hk]; decide) | (rw [hk2]; decide)) w) (by (unfold condF; rw [h]; (try rw [hk]); (try rw [hk3]); revert b1 b2 b4 b5; decide))
    · exact calls_bool (cond_18 false b1 b2 true b4 b5 a6 (by first | rfl | (rw [hk]; decide) | (rw [hk2]; decide)) (by first | rfl | (rw [hk]; decide) | (rw [hk2]; decide)) (by first | rfl | (rw [hk]; decide) | (rw [hk2]; decide)) w) (by (unfold condF; rw [h]; (try rw [hk]); (try rw [hk3]); revert b1 b2 b4 b5; decide))
    · exact calls_bool (cond_17 true b1 b2 false b4 b5 a6 (by first | rfl | (rw [hk]; decide) | (rw [hk2]; decide)) (by first | rfl | (rw [hk]; decide) | (rw [hk2]; decide)) (by first | rfl | (rw [hk]; decide) | (rw [hk2]; decide)) w) (by (unfold condF; rw [h]; (try rw [hk]); (try rw [hk3]); revert b1 b2 b4 b5; decide))
    · exact calls_bool (cond_16 true b1 b2 true b4 b5 a6 (by first | rfl | (rw [hk]; decide) | (rw [hk2]; decide)) (by first | rfl | (rw [hk]; decide) | (rw [hk2]; decide)) (by first | rfl | (rw [hk]; decide) | (rw [hk2]; decide)) w) (by (unfold condF; rw [h]; (try rw [hk]); (try rw [hk3]); revert b1 b2 b4 b5; decide))
  · cases b0 <;> cases b3
    · exact calls_bool (cond_23 false b1 b2 false b4 b5 a6 (by first | rfl | (rw [hk]; decide) | (rw [hk2]; decide)) (by first | rfl | (rw [hk]; decide) | (rw [hk2]; decide)) (by first | rfl | (rw [hk]; decide) | (rw [hk2]; decide)) w) (by (unfold condF; rw [h]; (try rw [hk]); (try rw [hk3]); revert b1 b2 b4 b5; decide))
    · exact calls_bool (cond_22 false b1 b2 true b4 b5 a6 (by first | rfl | (rw [hk]; decide) | (rw [hk2]; decide)) (by first | rfl | (rw [hk]; decide) | (rw [hk2]; decide)) (by first | rfl | (rw [hk]; decide) | (rw [hk2]; decide)) w) (by (unfold condF; rw [h]; (try rw [hk]); (try rw [hk3]); revert b1 b2 b4 b5; decide))
    · exact calls_bool (cond_21 true b1 b2 false b4 b5 a6 (by first | rfl | (rw [hk]; decide) | (rw [hk2]; decide)) (by first | rfl | (rw [hk]; decide) | (rw [hk2]; decide)) (by first | rfl | (rw [hk]; decide) | (rw [hk2]; decide)) w) (by (unfold condF; rw [h]; (try rw [hk]); (try rw [hk3]); revert b1 b2 b4 b5; decide))
    · exact calls_bool (cond_20 true b1 b2 true b4 b5 a6 (by first | rfl | (rw [hk]; decide) | (rw [hk2]; decide)) (by first | rfl | (rw [hk]; decide) | (rw [hk2]; decide)) (by first | rfl | (rw [hk]; decide) | (rw [hk2]; decide)) w) (by (unfold condF; rw [h]; (try rw [hk]); (try rw [hk3]); revert b1 b2 b4 b5; decide))
  · cases b0 <;> cases b3
    · exact calls_bool (cond_23 false b1 b2 false b4 b5 a6 (by first | rfl | (rw [hk]; decide) | (rw [hk2]; decide)) (by first | rfl | (rw [hk]; decide) | (rw [hk2]; decide)) (by first | rfl | (rw [hk]; decide) | (rw [hk2]; decide)) w) (by (unfold condF; rw [h]; (try rw [hk]); (try rw [hk3]); revert b1 b2 b4 b5; decide))
    · exact calls_bool (cond_22 false b1 b2 true b4 b5 a6 (by first | rfl | (rw [hk]; decide) | (rw [hk2]; decide)) (by first | rfl | (rw [hk]; decide) | (rw [hk2]; decide)) (by first | rfl | (rw [hk]; decide) | (rw [hk2]; decide)) w) (by (unfold condF; rw [h]; (try rw [hk]); (try rw [hk3]); revert b1 b2 b4 b5; decide))
    · exact calls_bool (cond_21 true b1 b2 false b4 b5 a6 (by first | rfl | (rw [hk]; decide) | (rw [hk2]; decide)) (by first | rfl | (rw [hk]; decide) | (rw [hk2]; decide)) (by first | rfl | (rw [hk]; decide) | (rw [hk2]; decide)) w) (by (unfold condF; rw [h]; (try rw [hk]); (try rw [hk3]); revert b1 b2 b4 b5; decide))
    · exact calls_bool (cond_20 true b1 b2 true b4 b5 a6 (by first | rfl | (rw [hk]; decide) | (rw [hk2]; decide)) (by first | rfl | (rw [hk]; decide) | (rw [hk2]; decide)) (by first | rfl | (rw [hk]; decide) | (rw [hk2]; decide)) w) (by (unfold condF; rw [h]; (try rw [hk]); (try rw [hk3]); revert b1 b2 b4 b5; decide))
  · cases b0 <;> cases b3
    · exact calls_bool (cond_27 false b1 b2 false b4 b5 a6 (by first | rfl | (rw [hk]; decide) | (rw [hk2]; decide)) (by first | rfl | (rw [hk]; decide) | (rw [hk2]; decide)) (by first | rfl | (rw [hk]; decide) | (rw [hk2]; decide)) w) (by (unfold condF; rw [h]; (try rw [hk]); (try rw [hk3]); revert b1 b2 b4 b5; decide))
    · exact calls_bool (cond_26 false b1 b2 true b4 b5 a6 (by first | rfl | (rw [hk]; decide) | (rw [hk2]; decide)) (by first | rfl | (rw [hk]; decide) | (rw [hk2]; decide)) (by first | rfl | (rw [hk]; decide) | (rw [hk2]; decide)) w) (by (unfold condF; rw [h]; (try rw [hk]); (try rw [hk3]); revert b1 b2 b4 b5; decide))
    · exact calls_bool (cond_25 true b1 b2 false b4 b5 a6 (by first | rfl | (rw [hk]; decide) | (rw [hk2]; decide)) (by first | rfl | (rw [hk]; decide) | (rw [hk2]; decide)) (by first | rfl | (rw [hk]; decide) | (rw [hk2]; decide)) w) (by (unfold condF; rw [h]; (try rw [hk]); (try rw [hk3]); revert b1 b2 b4 b5; decide))
    · exact calls_bool (cond_24 true b1 b2 true b4 b5 a6 (by first | rfl | (rw [hk]; decide) | (rw [hk2]; decide)) (by first | rfl | (rw [hk]; decide) | (rw [hk2]; decide)) (by first | rfl | (rw [hk]; decide) | (rw [hk2]; decide)) w) (by (unfold condF; rw [h]; (try rw [hk]); (try rw [hk3]); revert b1 b2 b4 b5; decide))
  · cases b0 <;> cases b3
    · exact calls_bool (cond_27 false b1 b2 false b4 b5 a6 (by first | rfl | (rw [hk]; decide) | (rw [hk2]; decide)) (by first | rfl | (rw [hk]; decide) | (rw [hk2]; decide)) (by first | rfl | (rw [hk]; decide) | (rw [hk2]; decide)) w) (by (unfold condF; rw [h]; (try rw [hk]); (try rw [hk3]); revert b1 b2 b4 b5; decide))
    · exact calls_bool (cond_26 false b1 b2 true b4 b5 a6 (by first | rfl | (rw [hk]; decide) | (rw [hk2]; decide)) (by first | rfl | (rw [hk]; decide) | (rw [hk2]; decide)) (by first | rfl | (rw [hk]; decide) | (rw [hk2]; decide)) w) (by (unfold condF; rw [h]; (try rw [hk]); (try rw [hk3]); revert b1 b2 b4 b5; decide))
    · exact calls_bool (cond_25 true b1 b2 false b4 b5 a6 (by first | rfl | (rw [hk]; decide) | (rw [hk2]; decide)) (by first | rfl | (rw [hk]; decide) | (rw [hk2]; decide)) (by first | rfl | (rw [hk]; decide) | (rw [hk2]; decide)) w) (by (unfold condF; rw [h]; (try rw [hk]); (try rw [hk3]); revert b1 b2 b4 b5; decide))
    · exact calls_bool (cond_24 true b1 b2 true b4 b5 a6 (by first | rfl | (rw [hk]; decide) | (rw [hk2]; decide)) (by first | rfl | (rw [hk]; decide) | (rw [hk2]; decide)) (by first | rfl | (rw [hk]; decide) | (rw [hk2]; decide)) w) (by (unfold condF; rw [h]; (try rw [hk]); (try rw [hk3]); revert b1 b2 b4 b5; decide))
  · cases b0 <;> cases b3
    · exact calls_bool (cond_31 false b1 b2 false b4 b5 a6 (by first | rfl | (rw [hk]; decide) | (rw [hk2]; decide)) (by first | rfl | (rw [hk]; decide) | (rw [hk2]; decide)) (by first | rfl | (rw [hk]; decide) | (rw [hk2]; decide)) w) (by (unfold condF; rw [h]; (try rw [hk]); (try rw [hk3]); revert b1 b2 b4 b5; decide))
    · exact calls_bool (cond_30 false b1 b2 true b4 b5 a6 (by first | rfl | (rw [hk]; decide) | (rw [hk2]; decide)) (by first | rfl | (rw [hk]; decide) | (rw [hk2]; decide)) (by first | rfl | (rw [hk]; decide) | (rw [hk2]; decide)) w) (by (unfold condF; rw [h]; (try rw [hk]); (try rw [hk3]); revert b1 b2 b4 b5; decide))
    · exact calls_bool (cond_29 true b1 b2 false b4 b5 a6 (by first | rfl | (rw [hk]; decide) | (rw [hk2]; decide)) (by first | rfl | (rw [hk]; decide) | (rw [hk2]; decide)) (by first | rfl | (rw [hk]; decide) | (rw [hk2]; decide)) w) (by (unfold condF; rw [h]; (try rw [hk]); (try rw [hk3]); revert b1 b2 b4 b5; decide))
    · exact calls_bool (cond_28 true b1 b2 true b4 b5 a6 (by first | rfl | (rw [hk]; decide) | (rw [hk2]; decide)) (by first | rfl | (rw [hk]; decide) | (rw [hk2]; decide)) (by first | rfl | (rw [hk]; decide) | (rw [hk2]; decide)) w) (by (unfold condF; rw [h]; (try rw [hk]); (try rw [hk3]); revert b1 b2 b4 b5; decide))
  · cases b0 <;> cases b3
    · exact calls_bool (cond_31 false b1 b2 false b4 b5 a6 (by first | rfl | (rw [hk]; decide) | (rw [hk2]; decide)) (by first | rfl | (rw [hk]; decide) | (rw [hk2]; decide)) (by first | rfl | (rw [hk]; decide) | (rw [hk2]; decide)) w) (by (unfold condF; rw [h]; (try rw [hk]); (try rw [hk3]); revert b1 b2 b4 b5; decide))
    · exact calls_bool (cond_30 false b1 b2 true b4 b5 a6 (by first | rfl | (rw [hk]; decide) | (rw [hk2]; decide)) (by first | rfl | (rw [hk]; decide) | (rw [hk2]; decide)) (by first | rfl | (rw [hk]; decide) | (rw [hk2]; decide)) w) (by (unfold condF; rw [h]; (try rw [hk]); (try rw [hk3]); revert b1 b2 b4 b5; decide))
    · exact calls_bool (cond_29 true b1 b2 false b4 b5 a6 (by first | rfl | (rw [hk]; decide) | (rw [hk2]; decide)) (by first | rfl | (rw [hk]; decide) | (rw [hk2]; decide)) (by first | rfl | (rw [hk]; decide) | (rw [hk2]; decide)) w) (by (unfold condF; rw [h]; (try rw [hk]); (try rw [hk3]); revert b1 b2 b4 b5; decide))
    · exact calls_bool (cond_28 true b1 b2 true b4 b5 a6 (by first | rfl | (rw [hk]; decide) | (rw [hk2]; decide)) (by first | rfl | (rw [hk]; decide) | (rw [hk2]; decide)) (by first | rfl | (rw [hk]; decide) | (rw [hk2]; decide)) w) (by (unfold condF; rw [h]; (try rw [hk]); (try rw [hk3]); revert b1 b2 b4 b5; decide))
theorem rcond_0 (b0 : Bool) (b1 : Bool) (b2 : Bool) (b3 : Bool) (b4 : Bool) (b5 : Bool) (a6 : Int) (h0 : (icmp .eql (ibin .shr .i64 (ibin .and .i64 a6 15) 1) 0) = true) (w : World) :
    Calls Try.prog 24 #[(.agg #[(.bool b0), (.bool b1), (.bool b2), (.bool b3), (.bool b4), (.bool b5)]), (.int .i64 a6)] w fun e w' => e = .returned (.bool (!((b5 == (icmp .eql (ibin .and .i64 a6 1) 1)) && true))) ∧ RowKit.Below w.heap.size w w' :=
  wayp C0_ok (lf := 1000) (d := 50) (args := [(.agg [(.bvar 0 false), (.bvar 1 false), (.bvar 2 false), (.bvar 3 false), (.bvar 4 false), (.bvar 5 false)]), (.c (.ivar .i64 6))]) (ds := [.db true]) (nx := 7) (v := (.w (.c (.bvar 12 true))))
    (log := [.setI0 7 (.bin .and .i64 (.var 6) (.lit 15)),
      .setI0 8 (.bin .shr .i64 (.var 7) (.lit 1)),
      .setB0 9 (.cmp .eql (.var 8) (.lit 0)),
      .decB 9 true,
      .setI0 10 (.bin .and .i64 (.var 6) (.lit 1)),
      .setB0 11 (.cmp .eql (.var 10) (.lit 1)),
      .setB0 12 (.all [(.bb (.var 5 false) (.var 11 false))])])
    (ρ := (((((((env0.setB 0 b0).setB 1 b1).setB 2 b2).setB 3 b3).setB 4 b4).setB 5 b5).setI 6 a6))
    (Pr := (True) ∧ ((0 : Int) ≤ 1) ∧ (True) ∧ ((icmp .eql (ibin .shr .i64 (ibin .and .i64 a6 15) 1) 0) = true) ∧ (True) ∧ (True) ∧ (True) ∧ ((.bool (!((b5 == (icmp .eql (ibin .and .i64 a6 1) 1)) && true))) : Value) = (.bool (!((b5 == (icmp .eql (ibin .and .i64 a6 1) 1)) && true))))
    (by kernel_rfl) (by kernel_rfl) (by kernel_rfl) (by kernel_rfl) ⟨trivial, (by decide), trivial, h0, trivial, trivial, trivial, rfl⟩ w
theorem rcond_1 (b0 : Bool) (b1 : Bool) (b2 : Bool) (b3 : Bool) (b4 : Bool) (b5 : Bool) (a6 : Int) (h0 : (icmp .eql (ibin .shr .i64 (ibin .and .i64 a6 15) 1) 0) = false) (h1 : (icmp .eql (ibin .shr .i64 (ibin .and .i64 a6 15) 1) 1) = true) (w : World) :
    Calls Try.prog 24 #[(.agg #[(.bool b0), (.bool b1), (.bool b2), (.bool b3), (.bool b4), (.bool b5)]), (.int .i64 a6)] w fun e w' => e = .returned (.bool (!((b0 == (icmp .eql (ibin .and .i64 a6 1) 1)) && true))) ∧ RowKit.Below w.heap.size w w' :=
  wayp C0_ok (lf := 1000) (d := 50) (args := [(.agg [(.bvar 0 false), (.bvar 1 false), (.bvar 2 false), (.bvar 3 false), (.bvar 4 false), (.bvar 5 false)]), (.c (.ivar .i64 6))]) (ds := [.db false, .db true]) (nx := 7) (v := (.w (.c (.bvar 13 true))))
    (log := [.setI0 7 (.bin .and .i64 (.var 6) (.lit 15)),
      .setI0 8 (.bin .shr .i64 (.var 7) (.lit 1)),
      .setB0 9 (.cmp .eql (.var 8) (.lit 0)),
      .decB 9 false,
      .setB0 10 (.cmp .eql (.var 8) (.lit 1)),
      .decB 10 true,
      .setI0 11 (.bin .and .i64 (.var 6) (.lit 1)),
      .setB0 12 (.cmp .eql (.var 11) (.lit 1)),
      .setB0 13 (.all [(.bb (.var 0 false) (.var 12 false))])])
    (ρ := (((((((env0.setB 0 b0).setB 1 b1).setB 2 b2).setB 3 b3).setB 4 b4).setB 5 b5).setI 6 a6))
    (Pr := (True) ∧ ((0 : Int) ≤ 1) ∧ (True) ∧ ((icmp .eql (ibin .shr .i64 (ibin .and .i64 a6 15) 1) 0) = false) ∧ (True) ∧ ((icmp .eql (ibin .shr .i64 (ibin .and .i64 a6 15) 1) 1) = true) ∧ (True) ∧ (True) ∧ (True) ∧ ((.bool (!((b0 == (icmp .eql (ibin .and .i64 a6 1) 1)) && true))) : Value) = (.bool (!((b0 == (icmp .eql (ibin .and .i64 a6 1) 1)) && true))))
    (by kernel_rfl) (by kernel_rfl) (by kernel_rfl) (by kernel_rfl) ⟨trivial, (by decide), trivial, h0, trivial, h1, trivial, trivial, trivial, rfl⟩ w
theorem rcond_2 (b0 : Bool) (b1 : Bool) (b2 : Bool) (b3 : Bool) (b4 : Bool) (b5 : Bool) (a6 : Int) (h0 : (icmp .eql (ibin .shr .i64 (ibin .and .i64 a6 15) 1) 0) = false) (h1 : (icmp .eql (ibin .shr .i64 (ibin .and .i64 a6 15) 1) 1) = false) (h2 : (icmp .eql (ibin .shr .i64 (ibin .and .i64 a6 15) 1) 2) = true) (w : World) :
    Calls Try.prog 24 #[(.agg #[(.bool b0), (.bool b1), (.bool b2), (.bool b3), (.bool b4), (.bool b5)]), (.int .i64 a6)] w fun e w' => e = .returned (.bool (!((b3 == (icmp .eql (ibin .and .i64 a6 1) 1)) && true))) ∧ RowKit.Below w.heap.size w w' :=
  wayp C0_ok (lf := 1000) (d := 50) (args := [(.agg [(.bvar 0 false), (.bvar 1 false), (.bvar 2 false), (.bvar 3 false), (.bvar 4 false), (.bvar 5 false)]), (.c (.ivar .i64 6))]) (ds := [.db false, .db false, .db true]) (nx := 7) (v := (.w (.c (.bvar 14 true))))
    (log := [.setI0 7 (.bin .and .i64 (.var 6) (.lit 15)),
      .setI0 8 (.bin .shr .i64 (.var 7) (.lit 1)),
      .setB0 9 (.cmp .eql (.var 8) (.lit 0)),
      .decB 9 false,
      .setB0 10 (.cmp .eql (.var 8) (.lit 1)),
      .decB 10 false,
      .setB0 11 (.cmp .eql (.var 8) (.lit 2)),
      .decB 11 true,
      .setI0 12 (.bin .and .i64 (.var 6) (.lit 1)),
      .setB0 13 (.cmp .eql (.var 12) (.lit 1)),
      .setB0 14 (.all [(.bb (.var 3 false) (.var 13 false))])])
    (ρ := (((((((env0.setB 0 b0).setB 1 b1).setB 2 b2).setB 3 b3).setB 4 b4).setB 5 b5).setI 6 a6))
    (Pr := (True) ∧ ((0 : Int) ≤ 1) ∧ (True) ∧ ((icmp .eql (ibin .shr .i64 (ibin .and .i64 a6 15) 1) 0) = false) ∧ (True) ∧ ((icmp .eql (ibin .shr .i64 (ibin .and .i64 a6 15) 1) 1) = false) ∧ (True) ∧ ((icmp .eql (ibin .shr .i64 (ibin .and .i64 a6 15) 1) 2) = true) ∧ (True) ∧ (True) ∧ (True) ∧ ((.bool (!((b3 == (icmp .eql (ibin .and .i64 a6 1) 1)) && true))) : Value) = (.bool (!((b3 == (icmp .eql (ibin .and .i64 a6 1) 1)) && true))))
    (by kernel_rfl) (by kernel_rfl) (by kernel_rfl) (by kernel_rfl) ⟨trivial, (by decide), trivial, h0, trivial, h1, trivial, h2, trivial, trivial, trivial, rfl⟩ w
theorem rcond_3 (b0 : Bool) (b1 : Bool) (b2 : Bool) (b3 : Bool) (b4 : Bool) (b5 : Bool) (a6 : Int) (h0 : (icmp .eql (ibin .shr .i64 (ibin .and .i64 a6 15) 1) 0) = false) (h1 : (icmp .eql (ibin .shr .i64 (ibin .and .i64 a6 15) 1) 1) = false) (h2 : (icmp .eql (ibin .shr .i64 (ibin .and .i64 a6 15) 1) 2) = false) (h3 : (icmp .eql (ibin .shr .i64 (ibin .and .i64 a6 15) 1) 3) = true) (h4 : b0 = true) (w : World) :
    Calls Try.prog 24 #[(.agg #[(.bool b0), (.bool b1), (.bool b2), (.bool b3), (.bool b4), (.bool b5)]), (.int .i64 a6)] w fun e w' => e = .returned (.bool (!((true == (icmp .eql (ibin .and .i64 a6 1) 1)) && true))) ∧ RowKit.Below w.heap.size w w' :=
  wayp C0_ok (lf := 1000) (d := 50) (args := [(.agg [(.bvar 0 false), (.bvar 1 false), (.bvar 2 false), (.bvar 3 false), (.bvar 4 false), (.bvar 5 false)]), (.c (.ivar .i64 6))]) (ds := [.db false, .db false, .db false, .db true, .db true]) (nx := 7) (v := (.w (.c (.bvar 15 true))))
    (log := [.setI0 7 (.bin .and .i64 (.var 6) (.lit 15)),
      .setI0 8 (.bin .shr .i64 (.var 7) (.lit 1)),
      .setB0 9 (.cmp .eql (.var 8) (.lit 0)),
      .decB 9 false,
      .setB0 10 (.cmp .eql (.var 8) (.lit 1)),
      .decB 10 false,
      .setB0 11 (.cmp .eql (.var 8) (.lit 2)),
      .decB 11 false,
      .setB0 12 (.cmp .eql (.var 8) (.lit 3)),
      .decB 12 true,
      .decB 0 true,
      .setI0 13 (.bin .and .i64 (.var 6) (.lit 1)),
      .setB0 14 (.cmp .eql (.var 13) (.lit 1)),
      .setB0 15 (.all [(.bb (.lit true) (.var 14 false))])])
    (ρ := (((((((env0.setB 0 b0).setB 1 b1).setB 2 b2).setB 3 b3).setB 4 b4).setB 5 b5).setI 6 a6))
    (Pr := (True) ∧ ((0 : Int) ≤ 1) ∧ (True) ∧ ((icmp .eql (ibin .shr .i64 (ibin .and .i64 a6 15) 1) 0) = false) ∧ (True) ∧ ((icmp .eql (ibin .shr .i64 (ibin .and .i64 a6 15) 1) 1) = false) ∧ (True) ∧ ((icmp .eql (ibin .shr .i64 (ibin .and .i64 a6 15) 1) 2) = false) ∧ (True) ∧ ((icmp .eql (ibin .shr .i64 (ibin .and .i64 a6 15) 1) 3) = true) ∧ (b0 = true) ∧ (True) ∧ (True) ∧ (True) ∧ ((.bool (!((true == (icmp .eql (ibin .and .i64 a6 1) 1)) && true))) : Value) = (.bool (!((true == (icmp .eql (ibin .and .i64 a6 1) 1)) && true))))
    (by kernel_rfl) (by kernel_rfl) (by kernel_rfl) (by kernel_rfl) ⟨trivial, (by decide), trivial, h0, trivial, h1, trivial, h2, trivial, h3, h4, trivial, trivial, trivial, rfl⟩ w
theorem rcond_4 (b0 : Bool) (b1 : Bool) (b2 : Bool) (b3 : Bool) (b4 : Bool) (b5 : Bool) (a6 : Int) (h0 : (icmp .eql (ibin .shr .i64 (ibin .and .i64 a6 15) 1) 0) = false) (h1 : (icmp .eql (ibin .shr .i64 (ibin .and .i64 a6 15) 1) 1) = false) (h2 : (icmp .eql (ibin .shr .i64 (ibin .and .i64 a6 15) 1) 2) = false) (h3 : (icmp .eql (ibin .shr .i64 (ibin .and .i64 a6 15) 1) 3) = true) (h4 : b0 = false) (w : World) :
    Calls Try.prog 24 #[(.agg #[(.bool b0), (.bool b1), (.bool b2), (.bool b3), (.bool b4), (.bool b5)]), (.int .i64 a6)] w fun e w' => e = .returned (.bool (!((b3 == (icmp .eql (ibin .and .i64 a6 1) 1)) && true))) ∧ RowKit.Below w.heap.size w w' :=
  wayp C0_ok (lf := 1000) (d := 50) (args := [(.agg [(.bvar 0 false), (.bvar 1 false), (.bvar 2 false), (.bvar 3 false), (.bvar 4 false), (.bvar 5 false)]), (.c (.ivar .i64 6))]) (ds := [.db false, .db false, .db false, .db true, .db false]) (nx := 7) (v := (.w (.c (.bvar 15 true))))
    (log := [.setI0 7 (.bin .and .i64 (.var 6) (.lit 15)),
      .setI0 8 (.bin .shr .i64 (.var 7) (.lit 1)),
      .setB0 9 (.cmp .eql (.var 8) (.lit 0)),
      .decB 9 false,
      .setB0 10 (.cmp .eql (.var 8) (.lit 1)),
      .decB 10 false,
      .setB0 11 (.cmp .eql (.var 8) (.lit 2)),
      .decB 11 false,
      .setB0 12 (.cmp .eql (.var 8) (.lit 3)),
      .decB 12 true,
      .decB 0 false,
      .setI0 13 (.bin .and .i64 (.var 6) (.lit 1)),
      .setB0 14 (.cmp .eql (.var 13) (.lit 1)),
      .setB0 15 (.all [(.bb (.var 3 false) (.var 14 false))])])
    (ρ := (((((((env0.setB 0 b0).setB 1 b1).setB 2 b2).setB 3 b3).setB 4 b4).setB 5 b5).setI 6 a6))
    (Pr := (True) ∧ ((0 : Int) ≤ 1) ∧ (True) ∧ ((icmp .eql (ibin .shr .i64 (ibin .and .i64 a6 15) 1) 0) = false) ∧ (True) ∧ ((icmp .eql (ibin .shr .i64 (ibin .and .i64 a6 15) 1) 1) = false) ∧ (True) ∧ ((icmp .eql (ibin .shr .i64 (ibin .and .i64 a6 15) 1) 2) = false) ∧ (True) ∧ ((icmp .eql (ibin .shr .i64 (ibin .and .i64 a6 15) 1) 3) = true) ∧ (b0 = false) ∧ (True) ∧ (True) ∧ (True) ∧ ((.bool (!((b3 == (icmp .eql (ibin .and .i64 a6 1) 1)) && true))) : Value) = (.bool (!((b3 == (icmp .eql (ibin .and .i64 a6 1) 1)) && true))))
    (by kernel_rfl) (by kernel_rfl) (by kernel_rfl) (by kernel_rfl) ⟨trivial, (by decide), trivial, h0, trivial, h1, trivial, h2, trivial, h3, h4, trivial, trivial, trivial, rfl⟩ w
theorem rcond_5 (b0 : Bool) (b1 : Bool) (b2 : Bool) (b3 : Bool) (b4 : Bool) (b5 : Bool) (a6 : Int) (h0 : (icmp .eql (ibin .shr .i64 (ibin .and .i64 a6 15) 1) 0) = false) (h1 : (icmp .eql (ibin .shr .i64 (ibin .and .i64 a6 15) 1) 1) = false) (h2 : (icmp .eql (ibin .shr .i64 (ibin .and .i64 a6 15) 1) 2) = false) (h3 : (icmp .eql (ibin .shr .i64 (ibin .and .i64 a6 15) 1) 3) = false) (h4 : (icmp .eql (ibin .shr .i64 (ibin .and .i64 a6 15) 1) 4) = true) (w : World) :
    Calls Try.prog 24 #[(.agg #[(.bool b0), (.bool b1), (.bool b2), (.bool b3), (.bool b4), (.bool b5)]), (.int .i64 a6)] w fun e w' => e = .returned (.bool (!((b4 == (icmp .eql (ibin .and .i64 a6 1) 1)) && true))) ∧ RowKit.Below w.heap.size w w' :=
  wayp C0_ok (lf := 1000) (d := 50) (args := [(.agg [(.bvar 0 false), (.bvar 1 false), (.bvar 2 false), (.bvar 3 false), (.bvar 4 false), (.bvar 5 false)]), (.c (.ivar .i64 6))]) (ds := [.db false, .db false, .db false, .db false, .db true]) (nx := 7) (v := (.w (.c (.bvar 16 true))))
    (log := [.setI0 7 (.bin .and .i64 (.var 6) (.lit 15)),
      .setI0 8 (.bin .shr .i64 (.var 7) (.lit 1)),
      .setB0 9 (.cmp .eql (.var 8) (.lit 0)),
      .decB 9 false,
      .setB0 10 (.cmp .eql (.var 8) (.lit 1)),
      .decB 10 false,
      .setB0 11 (.cmp .eql (.var 8) (.lit 2)),
      .decB 11 false,
      .setB0 12 (.cmp .eql (.var 8) (.lit 3)),
      .decB 12 false,
      .setB0 13 (.cmp .eql (.var 8) (.lit 4)),
      .decB 13 true,
      .setI0 14 (.bin .and .i64 (.var 6) (.lit 1)),
      .setB0 15 (.cmp .eql (.var 14) (.lit 1)),
      .setB0 16 (.all [(.bb (.var 4 false) (.var 15 false))])])
    (ρ := (((((((env0.setB 0 b0).setB 1 b1).setB 2 b2).setB 3 b3).setB 4 b4).setB 5 b5).setI 6 a6))
    (Pr := (True) ∧ ((0 : Int) ≤ 1) ∧ (True) ∧ ((icmp .eql (ibin .shr .i64 (ibin .and .i64 a6 15) 1) 0) = false) ∧ (True) ∧ ((icmp .eql (ibin .shr .i64 (ibin .and .i64 a6 15) 1) 1) = false) ∧ (True) ∧ ((icmp .eql (ibin .shr .i64 (ibin .and .i64 a6 15) 1) 2) = false) ∧ (True) ∧ ((icmp .eql (ibin .shr .i64 (ibin .and .i64 a6 15) 1) 3) = false) ∧ (True) ∧ ((icmp .eql (ibin .shr .i64 (ibin .and .i64 a6 15) 1) 4) = true) ∧ (True) ∧ (True) ∧ (True) ∧ ((.bool (!((b4 == (icmp .eql (ibin .and .i64 a6 1) 1)) && true))) : Value) = (.bool (!((b4 == (icmp .eql (ibin .and .i64 a6 1) 1)) && true))))
    (by kernel_rfl) (by kernel_rfl) (by kernel_rfl) (by kernel_rfl) ⟨trivial, (by decide), trivial, h0, trivial, h1, trivial, h2, trivial, h3, trivial, h4, trivial, trivial, trivial, rfl⟩ w
theorem rcond_6 (b0 : Bool) (b1 : Bool) (b2 : Bool) (b3 : Bool) (b4 : Bool) (b5 : Bool) (a6 : Int) (h0 : (icmp .eql (ibin .shr .i64 (ibin .and .i64 a6 15) 1) 0) = false) (h1 : (icmp .eql (ibin .shr .i64 (ibin .and .i64 a6 15) 1) 1) = false) (h2 : (icmp .eql (ibin .shr .i64 (ibin .and .i64 a6 15) 1) 2) = false) (h3 : (icmp .eql (ibin .shr .i64 (ibin .and .i64 a6 15) 1) 3) = false) (h4 : (icmp .eql (ibin .shr .i64 (ibin .and .i64 a6 15) 1) 4) = false) (h5 : (icmp .eql (ibin .shr .i64 (ibin .and .i64 a6 15) 1) 5) = true) (w : World) :
    Calls Try.prog 24 #[(.agg #[(.bool b0), (.bool b1), (.bool b2), (.bool b3), (.bool b4), (.bool b5)]), (.int .i64 a6)] w fun e w' => e = .returned (.bool (!((b1 == (icmp .eql (ibin .and .i64 a6 1) 1)) && true))) ∧ RowKit.Below w.heap.size w w' :=
  wayp C0_ok (lf := 1000) (d := 50) (args := [(.agg [(.bvar 0 false), (.bvar 1 false), (.bvar 2 false), (.bvar 3 false), (.bvar 4 false), (.bvar 5 false)]), (.c (.ivar .i64 6))]) (ds := [.db false, .db false, .db false, .db false, .db false, .db true]) (nx := 7) (v := (.w (.c (.bvar 17 true))))
    (log := [.setI0 7 (.bin .and .i64 (.var 6) (.lit 15)),
      .setI0 8 (.bin .shr .i64 (.var 7) (.lit 1)),
      .setB0 9 (.cmp .eql (.var 8) (.lit 0)),
      .decB 9 false,
      .setB0 10 (.cmp .eql (.var 8) (.lit 1)),
      .decB 10 false,
      .setB0 11 (.cmp .eql (.var 8) (.lit 2)),
      .decB 11 false,
      .setB0 12 (.cmp .eql (.var 8) (.lit 3)),
      .decB 12 false,
      .setB0 13 (.cmp .eql (.var 8) (.lit 4)),
      .decB 13 false,
      .setB0 14 (.cmp .eql (.var 8) (.lit 5)),
      .decB 14 true,
      .setI0 15 (.bin .and .i64 (.var 6) (.lit 1)),
      .setB0 16 (.cmp .eql (.var 15) (.lit 1)),
      .setB0 17 (.all [(.bb (.var 1 false) (.var 16 false))])])
    (ρ := (((((((env0.setB 0 b0).setB 1 b1).setB 2 b2).setB 3 b3).setB 4 b4).setB 5 b5).setI 6 a6))
    (Pr := (True) ∧ ((0 : Int) ≤ 1) ∧ (True) ∧ ((icmp .eql (ibin .shr .i64 (ibin .and .i64 a6 15) 1) 0) = false) ∧ (True) ∧ ((icmp .eql (ibin .shr .i64 (ibin .and .i64 a6 15) 1) 1) = false) ∧ (True) ∧ ((icmp .eql (ibin .shr .i64 (ibin .and .i64 a6 15) 1) 2) = false) ∧ (True) ∧ ((icmp .eql (ibin .shr .i64 (ibin .and .i64 a6 15) 1) 3) = false) ∧ (True) ∧ ((icmp .eql (ibin .shr .i64 (ibin .and .i64 a6 15) 1) 4) = false) ∧ (True) ∧ ((icmp .eql (ibin .shr .i64 (ibin .and .i64 a6 15) 1) 5) = true) ∧ (True) ∧ (True) ∧ (True) ∧ ((.bool (!((b1 == (icmp .eql (ibin .and .i64 a6 1) 1)) && true))) : Value) = (.bool (!((b1 == (icmp .eql (ibin .and .i64 a6 1) 1)) && true))))
    (by kernel_rfl) (by kernel_rfl) (by kernel_rfl) (by kernel_rfl) ⟨trivial, (by decide), trivial, h0, trivial, h1, trivial, h2, trivial, h3, trivial, h4, trivial, h5, trivial, trivial, trivial, rfl⟩ w
theorem rcond_7 (b0 : Bool) (b1 : Bool) (b2 : Bool) (b3 : Bool) (b4 : Bool) (b5 : Bool) (a6 : Int) (h0 : (icmp .eql (ibin .shr .i64 (ibin .and .i64 a6 15) 1) 0) = false) (h1 : (icmp .eql (ibin .shr .i64 (ibin .and .i64 a6 15) 1) 1) = false) (h2 : (icmp .eql (ibin .shr .i64 (ibin .and .i64 a6 15) 1) 2) = false) (h3 : (icmp .eql (ibin .shr .i64 (ibin .and .i64 a6 15) 1) 3) = false) (h4 : (icmp .eql (ibin .shr .i64 (ibin .and .i64 a6 15) 1) 4) = false) (h5 : (icmp .eql (ibin .shr .i64 (ibin .and .i64 a6 15) 1) 5) = false) (h6 : (icmp .eql (ibin .shr .i64 (ibin .and .i64 a6 15) 1) 6) = true) (w : World) :
    Calls Try.prog 24 #[(.agg #[(.bool b0), (.bool b1), (.bool b2), (.bool b3), (.bool b4), (.bool b5)]), (.int .i64 a6)] w fun e w' => e = .returned (.bool (!(((!((b4 == b5) && true)) == (icmp .eql (ibin .and .i64 a6 1) 1)) && true))) ∧ RowKit.Below w.heap.size w w' :=
  wayp C0_ok (lf := 1000) (d := 50) (args := [(.agg [(.bvar 0 false), (.bvar 1 false), (.bvar 2 false), (.bvar 3 false), (.bvar 4 false), (.bvar 5 false)]), (.c (.ivar .i64 6))]) (ds := [.db false, .db false, .db false, .db false, .db false, .db false, .db true]) (nx := 7) (v := (.w (.c (.bvar 19 true))))
    (log := [.setI0 7 (.bin .and .i64 (.var 6) (.lit 15)),
      .setI0 8 (.bin .shr .i64 (.var 7) (.lit 1)),
      .setB0 9 (.cmp .eql (.var 8) (.lit 0)),
      .decB 9 false,
      .setB0 10 (.cmp .eql (.var 8) (.lit 1)),
      .decB 10 false,
      .setB0 11 (.cmp .eql (.var 8) (.lit 2)),
      .decB 11 false,
      .setB0 12 (.cmp .eql (.var 8) (.lit 3)),
      .decB 12 false,
      .setB0 13 (.cmp .eql (.var 8) (.lit 4)),
      .decB 13 false,
      .setB0 14 (.cmp .eql (.var 8) (.lit 5)),
      .decB 14 false,
      .setB0 15 (.cmp .eql (.var 8) (.lit 6)),
      .decB 15 true,
      .setB0 16 (.all [(.bb (.var 4 false) (.var 5 false))]),
      .setI0 17 (.bin .and .i64 (.var 6) (.lit 1)),
      .setB0 18 (.cmp .eql (.var 17) (.lit 1)),
      .setB0 19 (.all [(.bb (.var 16 true) (.var 18 false))])])
    (ρ := (((((((env0.setB 0 b0).setB 1 b1).setB 2 b2).setB 3 b3).setB 4 b4).setB 5 b5).setI 6 a6))
    (Pr := (True) ∧ ((0 : Int) ≤ 1) ∧ (True) ∧ ((icmp .eql (ibin .shr .i64 (ibin .and .i64 a6 15) 1) 0) = false) ∧ (True) ∧ ((icmp .eql (ibin .shr .i64 (ibin .and .i64 a6 15) 1) 1) = false) ∧ (True) ∧ ((icmp .eql (ibin .shr .i64 (ibin .and .i64 a6 15) 1) 2) = false) ∧ (True) ∧ ((icmp .eql (ibin .shr .i64 (ibin .and .i64 a6 15) 1) 3) = false) ∧ (True) ∧ ((icmp .eql (ibin .shr .i64 (ibin .and .i64 a6 15) 1) 4) = false) ∧ (True) ∧ ((icmp .eql (ibin .shr .i64 (ibin .and .i64 a6 15) 1) 5) = false) ∧ (True) ∧ ((icmp .eql (ibin .shr .i64 (ibin .and .i64 a6 15) 1) 6) = true) ∧ (True) ∧ (True) ∧ (True) ∧ (True) ∧ ((.bool (!(((!((b4 == b5) && true)) == (icmp .eql (ibin .and .i64 a6 1) 1)) && true))) : Value) = (.bool (!(((!((b4 == b5) && true)) == (icmp .eql (ibin .and .i64 a6 1) 1)) && true))))
    (by kernel_rfl) (by kernel_rfl) (by kernel_rfl) (by kernel_rfl) ⟨trivial, (by decide), trivial, h0, trivial, h1, trivial, h2, trivial, h3, trivial, h4, trivial, h5, trivial, h6, trivial, trivial, trivial, trivial, rfl⟩ w
theorem rcond_8 (b0 : Bool) (b1 : Bool) (b2 : Bool) (b3 : Bool) (b4 : Bool) (b5 : Bool) (a6 : Int) (h0 : (icmp .eql (ibin .shr .i64 (ibin .and .i64 a6 15) 1) 0) = false) (h1 : (icmp .eql (ibin .shr .i64 (ibin .and .i64 a6 15) 1) 1) = false) (h2 : (icmp .eql (ibin .shr .i64 (ibin .and .i64 a6 15) 1) 2) = false) (h3 : (icmp .eql (ibin .shr .i64 (ibin .and .i64 a6 15) 1) 3) = false) (h4 : (icmp .eql (ibin .shr .i64 (ibin .and .i64 a6 15) 1) 4) = false) (h5 : (icmp .eql (ibin .shr .i64 (ibin .and .i64 a6 15) 1) 5) = false) (h6 : (icmp .eql (ibin .shr .i64 (ibin .and .i64 a6 15) 1) 6) = false) (h7 : b3 = true) (w : World) :
    Calls Try.prog 24 #[(.agg #[(.bool b0), (.bool b1), (.bool b2), (.bool b3), (.bool b4), (.bool b5)]), (.int .i64 a6)] w fun e w' => e = .returned (.bool (!((true == (icmp .eql (ibin .and .i64 a6 1) 1)) && true))) ∧ RowKit.Below w.heap.size w w' :=
  wayp C0_ok (lf := 1000) (d := 50) (args := [(.agg [(.bvar 0 false), (.bvar 1 false), (.bvar 2 false), (.bvar 3 false), (.bvar 4 false), (.bvar 5 false)]), (.c (.ivar .i64 6))]) (ds := [.db false, .db false, .db false, .db false, .db false, .db false, .db false, .db true]) (nx := 7) (v := (.w (.c (.bvar 18 true))))
    (log := [.setI0 7 (.bin .and .i64 (.var 6) (.lit 15)),
      .setI0 8 (.bin .shr .i64 (.var 7) (.lit 1)),
      .setB0 9 (.cmp .eql (.var 8) (.lit 0)),
      .decB 9 false,
      .setB0 10 (.cmp .eql (.var 8) (.lit 1)),
      .decB 10 false,
      .setB0 11 (.cmp .eql (.var 8) (.lit 2)),
      .decB 11 false,
      .setB0 12 (.cmp .eql (.var 8) (.lit 3)),
      .decB 12 false,
      .setB0 13 (.cmp .eql (.var 8) (.lit 4)),
      .decB 13 false,
      .setB0 14 (.cmp .eql (.var 8) (.lit 5)),
      .decB 14 false,
      .setB0 15 (.cmp .eql (.var 8) (.lit 6)),
      .decB 15 false,
      .decB 3 true,
      .setI0 16 (.bin .and .i64 (.var 6) (.lit 1)),
      .setB0 17 (.cmp .eql (.var 16) (.lit 1)),
      .setB0 18 (.all [(.bb (.lit true) (.var 17 false))])])
    (ρ := (((((((env0.setB 0 b0).setB 1 b1).setB 2 b2).setB 3 b3).setB 4 b4).setB 5 b5).setI 6 a6))
    (Pr := (True) ∧ ((0 : Int) ≤ 1) ∧ (True) ∧ ((icmp .eql (ibin .shr .i64 (ibin .and .i64 a6 15) 1) 0) = false) ∧ (True) ∧ ((icmp .eql (ibin .shr .i64 (ibin .and .i64 a6 15) 1) 1) = false) ∧ (True) ∧ ((icmp .eql (ibin .shr .i64 (ibin .and .i64 a6 15) 1) 2) = false) ∧ (True) ∧ ((icmp .eql (ibin .shr .i64 (ibin .and .i64 a6 15) 1) 3) = false) ∧ (True) ∧ ((icmp .eql (ibin .shr .i64 (ibin .and .i64 a6 15) 1) 4) = false) ∧ (True) ∧ ((icmp .eql (ibin .shr .i64 (ibin .and .i64 a6 15) 1) 5) = false) ∧ (True) ∧ ((icmp .eql (ibin .shr .i64 (ibin .and .i64 a6 15) 1) 6) = false) ∧ (b3 = true) ∧ (True) ∧ (True) ∧ (True) ∧ ((.bool (!((true == (icmp .eql (ibin .and .i64 a6 1) 1)) && true))) : Value) = (.bool (!((true == (icmp .eql (ibin .and .i64 a6 1) 1)) && true))))
    (by kernel_rfl) (by kernel_rfl) (by kernel_rfl) (by kernel_rfl) ⟨trivial, (by decide), trivial, h0, trivial, h1, trivial, h2, trivial, h3, trivial, h4, trivial, h5, trivial, h6, h7, trivial, trivial, trivial, rfl⟩ w
theorem rcond_9 (b0 : Bool) (b1 : Bool) (b2 : Bool) (b3 : Bool) (b4 : Bool) (b5 : Bool) (a6 : Int) (h0 : (icmp .eql (ibin .shr .i64 (ibin .and .i64 a6 15) 1) 0) = false) (h1 : (icmp .eql (ibin .shr .i64 (ibin .and .i64 a6 15) 1) 1) = false) (h2 : (icmp .eql (ibin .shr .i64 (ibin .and .i64 a6 15) 1) 2) = false) (h3 : (icmp .eql (ibin .shr .i64 (ibin .and .i64 a6 15) 1) 3) = false) (h4 : (icmp .eql (ibin .shr .i64 (ibin .and .i64 a6 15) 1) 4) = false) (h5 : (icmp .eql (ibin .shr .i64 (ibin .and .i64 a6 15) 1) 5) = false) (h6 : (icmp .eql (ibin .shr .i64 (ibin .and .i64 a6 15) 1) 6) = false) (h7 : b3 = false) (w : World) :
    Calls Try.prog 24 #[(.agg #[(.bool b0), (.bool b1), (.bool b2), (.bool b3), (.bool b4), (.bool b5)]), (.int .i64 a6)] w fun e w' => e = .returned (.bool (!(((!((b4 == b5) && true)) == (icmp .eql (ibin .and .i64 a6 1) 1)) && true))) ∧ RowKit.Below w.heap.size w w' :=
  wayp C0_ok (lf := 1000) (d := 50) (args := [(.agg [(.bvar 0 false), (.bvar 1 false), (.bvar 2 false), (.bvar 3 false), (.bvar 4 false), (.bvar 5 false)]), (.c (.ivar .i64 6))]) (ds := [.db false, .db false, .db false, .db false, .db false, .db false, .db false, .db false]) (nx := 7) (v := (.w (.c (.bvar 19 true))))
    (log := [.setI0 7 (.bin .and .i64 (.var 6) (.lit 15)),
      .setI0 8 (.bin .shr .i64 (.var 7) (.lit 1)),
      .setB0 9 (.cmp .eql (.var 8) (.lit 0)),
      .decB 9 false,
      .setB0 10 (.cmp .eql (.var 8) (.lit 1)),
      .decB 10 false,
      .setB0 11 (.cmp .eql (.var 8) (.lit 2)),
      .decB 11 false,
      .setB0 12 (.cmp .eql (.var 8) (.lit 3)),
      .decB 12 false,
      .setB0 13 (.cmp .eql (.var 8) (.lit 4)),
      .decB 13 false,
      .setB0 14 (.cmp .eql (.var 8) (.lit 5)),
      .decB 14 false,
      .setB0 15 (.cmp .eql (.var 8) (.lit 6)),
      .decB 15 false,
      .decB 3 false,
      .setB0 16 (.all [(.bb (.var 4 false) (.var 5 false))]),
      .setI0 17 (.bin .and .i64 (.var 6) (.lit 1)),
      .setB0 18 (.cmp .eql (.var 17) (.lit 1)),
      .setB0 19 (.all [(.bb (.var 16 true) (.var 18 false))])])
    (ρ := (((((((env0.setB 0 b0).setB 1 b1).setB 2 b2).setB 3 b3).setB 4 b4).setB 5 b5).setI 6 a6))
    (Pr := (True) ∧ ((0 : Int) ≤ 1) ∧ (True) ∧ ((icmp .eql (ibin .shr .i64 (ibin .and .i64 a6 15) 1) 0) = false) ∧ (True) ∧ ((icmp .eql (ibin .shr .i64 (ibin .and .i64 a6 15) 1) 1) = false) ∧ (True) ∧ ((icmp .eql (ibin .shr .i64 (ibin .and .i64 a6 15) 1) 2) = false) ∧ (True) ∧ ((icmp .eql (ibin .shr .i64 (ibin .and .i64 a6 15) 1) 3) = false) ∧ (True) ∧ ((icmp .eql (ibin .shr .i64 (ibin .and .i64 a6 15) 1) 4) = false) ∧ (True) ∧ ((icmp .eql (ibin .shr .i64 (ibin .and .i64 a6 15) 1) 5) = false) ∧ (True) ∧ ((icmp .eql (ibin .shr .i64 (ibin .and .i64 a6 15) 1) 6) = false) ∧ (b3 = false) ∧ (True) ∧ (True) ∧ (True) ∧ (True) ∧ ((.bool (!(((!((b4 == b5) && true)) == (icmp .eql (ibin .and .i64 a6 1) 1)) && true))) : Value) = (.bool (!(((!((b4 == b5) && true)) == (icmp .eql (ibin .and .i64 a6 1) 1)) && true))))
    (by kernel_rfl) (by kernel_rfl) (by kernel_rfl) (by kernel_rfl) ⟨trivial, (by decide), trivial, h0, trivial, h1, trivial, h2, trivial, h3, trivial, h4, trivial, h5, trivial, h6, h7, trivial, trivial, trivial, trivial, rfl⟩ w
-- 10 ways of rcond
theorem rcond_all (b0 b1 b2 b3 b4 b5 : Bool) (a6 : Int) (w : World) :
    Calls Try.prog 24 #[(.agg #[.bool b0, .bool b1, .bool b2, .bool b3, .bool b4, .bool b5]), .int .i64 a6] w fun e w' => e = .returned (.bool (condF b0 b1 b2 b3 b4 b5 a6)) ∧ RowKit.Below w.heap.size w w' := by
  have hk := modE16 a6
  have hk2 := and15 a6
  have hk3 := and1 a6
  have hc : a6 % 16 = 0 ∨ a6 % 16 = 1 ∨ a6 % 16 = 2 ∨ a6 % 16 = 3 ∨ a6 % 16 = 4 ∨ a6 % 16 = 5 ∨ a6 % 16 = 6 ∨ a6 % 16 = 7 ∨ a6 % 16 = 8 ∨ a6 % 16 = 9 ∨ a6 % 16 = 10 ∨ a6 % 16 = 11 ∨ a6 % 16 = 12 ∨ a6 % 16 = 13 ∨ a6 % 16 = 14 ∨ a6 % 16 = 15 := by omega
  have hm : a6 % 2 = (a6 % 16) % 2 := by omega
  rcases hc with h | h | h | h | h | h | h | h | h | h | h | h | h | h | h | h <;> rw [h] at hk hk2 hm <;> rw [hm] at hk3
  · cases b0 <;> cases b3
    · exact calls_bool (rcond_0 false b1 b2 false b4 b5 a6 (by first | rfl | (rw [hk]; decide) | (rw [hk2]; decide)) w) (by (unfold condF; rw [h]; (try rw [hk]); (try rw [hk3]); revert b1 b2 b4 b5; decide))
    · exact calls_bool (rcond_0 false b1 b2 true b4 b5 a6 (by first | rfl | (rw [hk]; decide) | (rw [hk2]; decide)) w) (by (unfold condF; rw [h]; (try rw [hk]); (try rw [hk3]); revert b1 b2 b4 b5; decide))
    · exact calls_bool (rcond_0 true b1 b2 false b4 b5 a6 (by first | rfl | (rw [hk]; decide) | (rw [hk2]; decide)) w) (by (unfold condF; rw [h]; (try rw [hk]); (try rw [hk3]); revert b1 b2 b4 b5; decide))
    · exact calls_bool (rcond_0 true b1 b2 true b4 b5 a6 (by first | rfl | (rw [hk]; decide) | (rw [hk2]; decide)) w) (by (unfold condF; rw [h]; (try rw [hk]); (try rw [hk3]); revert b1 b2 b4 b5; decide))
  · cases b0 <;> cases b3
    · exact calls_bool (rcond_0 false b1 b2 false b4 b5 a6 (by first | rfl | (rw [hk]; decide) | (rw [hk2]; decide)) w) (by (unfold condF; rw [h]; (try rw [hk]); (try rw [hk3]); revert b1 b2 b4 b5; decide))
    · exact calls_bool (rcond_0 false b1 b2 true b4 b5 a6 (by first | rfl | (rw [hk]; decide) | (rw [hk2]; decide)) w) (by (unfold condF; rw [h]; (try rw [hk]); (try rw [hk3]); revert b1 b2 b4 b5; decide))
    · exact calls_bool (rcond_0 true b1 b2 false b4 b5 a6 (by first | rfl | (rw [hk]; decide) | (rw [hk2]; decide)) w) (by (unfold condF; rw [h]; (try rw [hk]); (try rw [hk3]); revert b1 b2 b4 b5; decide))
    · exact calls_bool (rcond_0 true b1 b2 true b4 b5 a6 (by first | rfl | (rw [hk]; decide) | (rw [hk2]; decide)) w) (by (unfold condF; rw [h]; (try rw [hk]); (try rw [hk3]); revert b1 b2 b4 b5; decide))
  · cases b0 <;> cases b3
    · exact calls_bool (rcond_1 false b1 b2 false b4 b5 a6 (by first | rfl | (rw [hk]; decide) | (rw [hk2]; decide)) (by first | rfl | (rw [hk]; decide) | (rw [hk2]; decide)) w) (by (unfold condF; rw [h]; (try rw [hk]); (try rw [hk3]); revert b1 b2 b4 b5; decide))
    · exact calls_bool (rcond_1 false b1 b2 true b4 b5 a6 (by first | rfl | (rw [hk]; decide) | (rw [hk2]; decide)) (by first | rfl | (rw [hk]; decide) | (rw [hk2]; decide)) w) (by (unfold condF; rw [h]; (try rw [hk]); (try rw [hk3]); revert b1 b2 b4 b5; decide))
    · exact calls_bool (rcond_1 true b1 b2 false b4 b5 a6 (by first | rfl | (rw [hk]; decide) | (rw [hk2]; decide)) (by first | rfl | (rw [hk]; decide) | (rw [hk2]; decide)) w) (by (unfold condF; rw [h]; (try rw [hk]); (try rw [hk3]); revert b1 b2 b4 b5; decide))
    · exact calls_bool (rcond_1 true b1 b2 true b4 b5 a6 (by first | rfl | (rw [hk]; decide) | (rw [hk2]; decide)) (by first | rfl | (rw [hk]; decide) | (rw [hk2]; decide)) w) (by (unfold condF; rw [h]; (try rw [hk]); (try rw [hk3]); revert b1 b2 b4 b5; decide))
  · cases b0 <;> cases b3
    · exact calls_bool (rcond_1 false b1 b2 false b4 b5 a6 (by first | rfl | (rw [hk]; decide) | (rw [hk2]; decide)) (by first | rfl | (rw [hk]; decide) | (rw [hk2]; decide)) w) (by (unfold condF; rw [h]; (try rw [hk]); (try rw [hk3]); revert b1 b2 b4 b5; decide))
    · exact calls_bool (rcond_1 false b1 b2 true b4 b5 a6 (by first | rfl | (rw [hk]; decide) | (rw [hk2]; decide)) (by first | rfl | (rw [hk]; decide) | (rw [hk2]; decide)) w) (by (unfold condF; rw [h]; (try rw [hk]); (try rw [hk3]); revert b1 b2 b4 b5; decide))
    · exact calls_bool (rcond_1 true b1 b2 false b4 b5 a6 (by first | rfl | (rw [hk]; decide) | (rw [hk2]; decide)) (by first | rfl | (rw [hk]; decide) | (rw [hk2]; decide)) w) (by (unfold condF; rw [h]; (try rw [hk]); (try rw [hk3]); revert b1 b2 b4 b5; decide))
    · exact calls_bool (rcond_1 true b1 b2 true b4 b5 a6 (by first | rfl | (rw [hk]; decide) | (rw [hk2]; decide)) (by first | rfl | (rw [hk]; decide) | (rw [hk2]; decide)) w) (by (unfold condF; rw [h]; (try rw [hk]); (try rw [hk3]); revert b1 b2 b4 b5; decide))
  · cases b0 <;> cases b3
    · exact calls_bool (rcond_2 false b1 b2 false b4 b5 a6 (by first | rfl | (rw [hk]; decide) | (rw [hk2]; decide)) (by first | rfl | (rw [hk]; decide) | (rw [hk2]; decide)) (by first | rfl | (rw [hk]; decide) | (rw [hk2]; decide)) w) (by (unfold condF; rw [h]; (try rw [hk]); (try rw [hk3]); revert b1 b2 b4 b5; decide))
    · exact calls_bool (rcond_2 false b1 b2 true b4 b5 a6 (by first | rfl | (rw [hk]; decide) | (rw [hk2]; decide)) (by first | rfl | (rw [hk]; decide) | (rw [hk2]; decide)) (by first | rfl | (rw [hk]; decide) | (rw [hk2]; decide)) w) (by (unfold condF; rw [h]; (try rw [hk]); (try rw [hk3]); revert b1 b2 b4 b5; decide))
    · exact calls_bool (rcond_2 true b1 b2 false b4 b5 a6 (by first | rfl | (rw [hk]; decide) | (rw [hk2]; decide)) (by first | rfl | (rw [hk]; decide) | (rw [hk2]; decide)) (by first | rfl | (rw [hk]; decide) | (rw [hk2]; decide)) w) (by (unfold condF; rw [h]; (try rw [hk]); (try rw [hk3]); revert b1 b2 b4 b5; decide))
    · exact calls_bool (rcond_2 true b1 b2 true b4 b5 a6 (by first | rfl | (rw [hk]; decide) | (rw [hk2]; decide)) (by first | rfl | (rw [hk]; decide) | (rw [hk2]; decide)) (by first | rfl | (rw [hk]; decide) | (rw [hk2]; decide)) w) (by (unfold condF; rw [h]; (try rw [hk]); (try rw [hk3]); revert b1 b2 b4 b5; decide))
  · cases b0 <;> cases b3
    · exact calls_bool (rcond_2 false b1 b2 false b4 b5 a6 (by first | rfl | (rw [hk]; decide) | (rw [hk2]; decide)) (by first | rfl | (rw [hk]; decide) | (rw [hk2]; decide)) (by first | rfl | (rw [hk]; decide) | (rw [hk2]; decide)) w) (by (unfold condF; rw [h]; (try rw [hk]); (try rw [hk3]); revert b1 b2 b4 b5; decide))
    · exact calls_bool (rcond_2 false b1 b2 true b4 b5 a6 (by first | rfl | (rw [hk]; decide) | (rw [hk2]; decide)) (by first | rfl | (rw [hk]; decide) | (rw [hk2]; decide)) (by first | rfl | (rw [hk]; decide) | (rw [hk2]; decide)) w) (by (unfold condF; rw [h]; (try rw [hk]); (try rw [hk3]); revert b1 b2 b4 b5; decide))
    · exact calls_bool (rcond_2 true b1 b2 false b4 b5 a6 (by first | rfl | (rw [hk]; decide) | (rw [hk2]; decide)) (by first | rfl | (rw [hk]; decide) | (rw [hk2]; decide)) (by first | rfl | (rw [hk]; decide) | (rw [hk2]; decide)) w) (by (unfold condF; rw [h]; (try rw [hk]); (try rw [hk3]); revert b1 b2 b4 b5; decide))
    · exact calls_bool (rcond_2 true b1 b2 true b4 b5 a6 (by first | rfl | (rw [hk]; decide) | (rw [hk2]; decide)) (by first | rfl | (rw [hk]; decide) | (rw [hk2]; decide)) (by first | rfl | (rw [hk]; decide) | (rw [hk2]; decide)) w) (by (unfold condF; rw [h]; (try rw [hk]); (try rw [hk3]); revert b1 b2 b4 b5; decide))
  · cases b0 <;> cases b3
    · exact calls_bool (rcond_4 false b1 b2 false b4 b5 a6 (by first | rfl | (rw [hk]; decide) | (rw [hk2]; decide)) (by first | rfl | (rw [hk]; decide) | (rw [hk2]; decide)) (by first | rfl | (rw [hk]; decide) | (rw [hk2]; decide)) (by first | rfl | (rw [hk]; decide) | (rw [hk2]; decide)) (by first | rfl | (rw [hk]; decide) | (rw [hk2]; decide)) w) (by (unfold condF; rw [h]; (try rw [hk]); (try rw [hk3]); revert b1 b2 b4 b5; decide))
    · exact calls_bool (rcond_4 false b1 b2 true b4 b5 a6 (by first | rfl | (rw [hk]; decide) | (rw [hk2]; decide)) (by first | rfl | (rw [hk]; decide) | (rw [hk2]; decide)) (by first | rfl | (rw [hk]; decide) | (rw [hk2]; decide)) (by first | rfl | (rw [hk]; decide) | (rw [hk2]; decide)) (by first | rfl | (rw [hk]; decide) | (rw [hk2]; decide)) w) (by (unfold condF; rw [h]; (try rw [hk]); (try rw [hk3]); revert b1 b2 b4 b5; decide))
    · exact calls_bool (rcond_3 true b1 b2 false b4 b5 a6 (by first | rfl | (rw [hk]; decide) | (rw [hk2]; decide)) (by first | rfl | (rw [hk]; decide) | (rw [hk2]; decide)) (by first | rfl | (rw [hk]; decide) | (rw [hk2]; decide)) (by first | rfl | (rw [hk]; decide) | (rw [hk2]; decide)) (by first | rfl | (rw [hk]; decide) | (rw [hk2]; decide)) w) (by (unfold condF; rw [h]; (try rw [hk]); (try rw [hk3]); revert b1 b2 b4 b5; decide))
    · exact calls_bool (rcond_3 true b1 b2 true b4 b5 a6 (by first | rfl | (rw [hk]; decide) | (rw [hk2]; decide)) (by first | rfl | (rw [hk]; decide) | (rw [hk2]; decide)) (by first | rfl | (rw [hk]; decide) | (rw [hk2]; decide)) (by first | rfl | (rw [hk]; decide) | (rw [hk2]; decide)) (by first | rfl | (rw [hk]; decide) | (rw [hk2]; decide)) w) (by (unfold condF; rw [h]; (try rw [hk]); (try rw [hk3]); revert b1 b2 b4 b5; decide))
  · cases b0 <;> cases b3
    · exact calls_bool (rcond_4 false b1 b2 false b4 b5 a6 (by first | rfl | (rw [hk]; decide) | (rw [hk2]; decide)) (by first | rfl | (rw [hk]; decide) | (rw [hk2]; decide)) (by first | rfl | (rw [hk]; decide) | (rw [hk2]; decide)) (by first | rfl | (rw [hk]; decide) | (rw [hk2]; decide)) (by first | rfl | (rw [hk]; decide) | (rw [hk2]; decide)) w) (by (unfold condF; rw [h]; (try rw [hk]); (try rw [hk3]); revert b1 b2 b4 b5; decide))
    · exact calls_bool (rcond_4 false b1 b2 true b4 b5 a6 (by first | rfl | (rw [hk]; decide) | (rw [hk2]; decide)) (by first | rfl | (rw [hk]; decide) | (rw [hk2]; decide)) (by first | rfl | (rw [hk]; decide) | (rw [hk2]; decide)) (by first | rfl | (rw [hk]; decide) | (rw [hk2]; decide)) (by first | rfl | (rw [hk]; decide) | (rw [hk2]; decide)) w) (by (unfold condF; rw [h]; (try rw [hk]); (try rw [hk3]); revert b1 b2 b4 b5; decide))
    · exact calls_bool (rcond_3 true b1 b2 false b4 b5 a6 (by first | rfl | (rw [hk]; decide) | (rw [hk2]; decide)) (by first | rfl | (rw [hk]; decide) | (rw [hk2]; decide)) (by first | rfl | (rw [hk]; decide) | (rw [hk2]; decide)) (by first | rfl | (rw [hk]; decide) | (rw [hk2]; decide)) (by first | rfl | (rw [hk]; decide) | (rw [hk2]; decide)) w) (by (unfold condF; rw [h]; (try rw [hk]); (try rw [hk3]); revert b1 b2 b4 b5; decide))
    · exact calls_bool (rcond_3 true b1 b2 true b4 b5 a6 (by first | rfl | (rw [hk]; decide) | (rw [hk2]; decide)) (by first | rfl | (rw [hk]; decide) | (rw [hk2]; decide)) (by first | rfl | (rw [hk]; decide) | (rw [hk2]; decide)) (by first | rfl | (rw [hk]; decide) | (rw [hk2]; decide)) (by first | rfl | (rw [hk]; decide) | (rw [hk2]; decide)) w) (by (unfold condF; rw [h]; (try rw [hk]); (try rw [hk3]); revert b1 b2 b4 b5; decide))
  · cases b0 <;> cases b3
    · exact calls_bool (rcond_5 false b1 b2 false b4 b5 a6 (by first | rfl | (rw [hk]; decide) | (rw [hk2]; decide)) (by first | rfl | (rw [hk]; decide) | (rw [hk2]; decide)) (by first | rfl | (rw [hk]; decide) | (rw [hk2]; decide)) (by first | rfl | (rw [hk]; decide) | (rw [hk2]; decide)) (by first | rfl | (rw [hk]; decide) | (rw [hk2]; decide)) w) (by (unfold condF; rw [h]; (try rw [hk]); (try rw [hk3]); revert b1 b2 b4 b5; decide))
    · exact calls_bool (rcond_5 false b1 b2 true b4 b5 a6 (by first | rfl | (rw [hk]; decide) | (rw [hk2]; decide)) (by first | rfl | (rw [hk]; decide) | (rw [hk2]; decide)) (by first | rfl | (rw [hk]; decide) | (rw [hk2]; decide)) (by first | rfl | (rw [hk]; decide) | (rw [hk2]; decide)) (by first | rfl | (rw [hk]; decide) | (rw [hk2]; decide)) w) (by (unfold condF; rw [h]; (try rw [hk]); (try rw [hk3]); revert b1 b2 b4 b5; decide))
    · exact calls_bool (rcond_5 true b1 b2 false b4 b5 a6 (by first | rfl | (rw [hk]; decide) | (rw [hk2]; decide)) (by first | rfl | (rw [hk]; decide) | (rw [hk2]; decide)) (by first | rfl | (rw [hk]; decide) | (rw [hk2]; decide)) (by first | rfl | (rw [hk]; decide) | (rw [hk2]; decide)) (by first | rfl | (rw [hk]; decide) | (rw [hk2]; decide)) w) (by (unfold condF; rw [h]; (try rw [hk]); (try rw [hk3]); revert b1 b2 b4 b5; decide))
    · exact calls_bool (rcond_5 true b1 b2 true b4 b5 a6 (by first | rfl | (rw [hk]; decide) | (rw [hk2]; decide)) (by first | rfl | (rw [hk]; decide) | (rw [hk2]; decide)) (by first | rfl | (rw [hk]; decide) | (rw [hk2]; decide)) (by first | rfl | (rw [hk]; decide) | (rw [hk2]; decide)) (by first | rfl | (rw [hk]; decide) | (rw [hk2]; decide)) w) (by (unfold condF; rw [h]; (try rw [hk]); (try rw [hk3]); revert b1 b2 b4 b5; decide))
  · cases b0 <;> cases b3
    · exact calls_bool (rcond_5 false b1 b2 false b4 b5 a6 (by first | rfl | (rw [hk]; decide) | (rw [hk2]; decide)) (by first | rfl | (rw [hk]; decide) | (rw [hk2]; decide)) (by first | rfl | (rw [hk]; decide) | (rw [hk2]; decide)) (by first | rfl | (rw [hk]; decide) | (rw [hk2]; decide)) (by first | rfl | (rw [hk]; decide) | (rw [hk2]; decide)) w) (by (unfold condF; rw [h]; (try rw [hk]); (try rw [hk3]); revert b1 b2 b4 b5; decide))
    · exact calls_bool (rcond_5 false b1 b2 true b4 b5 a6 (by first | rfl | (rw [hk]; decide) | (rw [hk2]; decide)) (by first | rfl | (rw [hk]; decide) | (rw [hk2]; decide)) (by first | rfl | (rw [hk]; decide) | (rw [hk2]; decide)) (by first | rfl | (rw [hk]; decide) | (rw [hk2]; decide)) (by first | rfl | (rw [hk]; decide) | (rw [hk2]; decide)) w) (by (unfold condF; rw [h]; (try rw [hk]); (try rw [hk3]); revert b1 b2 b4 b5; decide))
    · exact calls_bool (rcond_5 true b1 b2 false b4 b5 a6 (by first | rfl | (rw [hk]; decide) | (rw [hk2]; decide)) (by first | rfl | (rw [hk]; decide) | (rw [hk2]; decide)) (by first | rfl | (rw [hk]; decide) | (rw [hk2]; decide)) (by first | rfl | (rw [hk]; decide) | (rw [hk2]; decide)) (by first | rfl | (rw [hk]; decide) | (rw [hk2]; decide)) w) (by (unfold condF; rw [h]; (try rw [hk]); (try rw [hk3]); revert b1 b2 b4 b5; decide))
    · exact calls_bool (rcond_5 true b1 b2 true b4 b5 a6 (by first | rfl | (rw [hk]; decide) | (rw [hk2]; decide)) (by first | rfl | (rw [hk]; decide) | (rw [hk2]; decide)) (by first | rfl | (rw [hk]; decide) | (rw [hk2]; decide)) (by first | rfl | (rw [hk]; decide) | (rw [hk2]; decide)) (by first | rfl | (rw [hk]; decide) | (rw [hk2]; decide)) w) (by (unfold condF; rw [h]; (try rw [hk]); (try rw [hk3]); revert b1 b2 b4 b5; decide))
  · cases b0 <;> cases b3
    · exact calls_bool (rcond_6 false b1 b2 false b4 b5 a6 (by first | rfl | (rw [hk]; decide) | (rw [hk2]; decide)) (by first | rfl | (rw [hk]; decide) | (rw [hk2]; decide)) (by first | rfl | (rw [hk]; decide) | (rw [hk2]; decide)) (by first | rfl | (rw [hk]; decide) | (rw [hk2]; decide)) (by first | rfl | (rw [hk]; decide) | (rw [hk2]; decide)) (by first | rfl | (rw [hk]; decide) | (rw [hk2]; decide)) w) (by (unfold condF; rw [h]; (try rw [hk]); (try rw [hk3]); revert b1 b2 b4 b5; decide))
    · exact calls_bool (rcond_6 false b1 b2 true b4 b5 a6 (by first | rfl | (rw [hk]; decide) | (rw [hk2]; decide)) (by first | rfl | (rw [hk]; decide) | (rw [hk2]; decide)) (by first | rfl | (rw [hk]; decide) | (rw [hk2]; decide)) (by first | rfl | (rw [hk]; decide) | (rw [hk2]; decide)) (by first | rfl | (rw [hk]; decide) | (rw [hk2]; decide)) (by first | rfl | (rw [hk]; decide) | (rw [hk2]; decide)) w) (by (unfold condF; rw [h]; (try rw [hk]); (try rw [hk3]); revert b1 b2 b4 b5; decide))
    · exact calls_bool (rcond_6 true b1 b2 false b4 b5 a6 (by first | rfl | (rw [hk]; decide) | (rw [hk2]; decide)) (by first | rfl | (rw [hk]; decide) | (rw [hk2]; decide)) (by first | rfl | (rw [hk]; decide) | (rw [hk2]; decide)) (by first | rfl | (rw [hk]; decide) | (rw [hk2]; decide)) (by first | rfl | (rw [hk]; decide) | (rw [hk2]; decide)) (by first | rfl | (rw [hk]; decide) | (rw [hk2]; decide)) w) (by (unfold condF; rw [h]; (try rw [hk]); (try rw [hk3]); revert b1 b2 b4 b5; decide))
    · exact calls_bool (rcond_6 true b1 b2 true b4 b5 a6 (by first | rfl | (rw [hk]; decide) | (rw [hk2]; decide)) (by first | rfl | (rw [hk]; decide) | (rw [hk2]; decide)) (by first | rfl | (rw [hk]; decide) | (rw [hk2]; decide)) (by first | rfl | (rw [hk]; decide) | (rw [hk2]; decide)) (by first | rfl | (rw [hk]; decide) | (rw [hk2]; decide)) (by first | rfl | (rw [hk]; decide) | (rw [hk2]; decide)) w) (by (unfold condF; rw [h]; (try rw [hk]); (try rw [hk3]); revert b1 b2 b4 b5; decide))
  · cases b0 <;> cases b3
    · exact calls_bool (rcond_6 false b1 b2 false b4 b5 a6 (by first | rfl | (rw [hk]; decide) | (rw [hk2]; decide)) (by first | rfl | (rw [hk]; decide) | (rw [hk2]; decide)) (by first | rfl | (rw [hk]; decide) | (rw [hk2]; decide)) (by first | rfl | (rw [hk]; decide) | (rw [hk2]; decide)) (by first | rfl | (rw [hk]; decide) | (rw [hk2]; decide)) (by first | rfl | (rw [hk]; decide) | (rw [hk2]; decide)) w) (by (unfold condF; rw [h]; (try rw [hk]); (try rw [hk3]); revert b1 b2 b4 b5; decide))
    · exact calls_bool (rcond_6 false b1 b2 true b4 b5 a6 (by first | rfl | (rw [hk]; decide) | (rw [hk2]; decide)) (by first | rfl | (rw [hk]; decide) | (rw [hk2]; decide)) (by first | rfl | (rw [hk]; decide) | (rw [hk2]; decide)) (by first | rfl | (rw [hk]; decide) | (rw [hk2]; decide)) (by first | rfl | (rw [hk]; decide) | (rw [hk2]; decide)) (by first | rfl | (rw [hk]; decide) | (rw [hk2]; decide)) w) (by (unfold condF; rw [h]; (try rw [hk]); (try rw [hk3]); revert b1 b2 b4 b5; decide))
    · exact calls_bool (rcond_6 true b1 b2 false b4 b5 a6 (by first | rfl | (rw [hk]; decide) | (rw [hk2]; decide)) (by first | rfl | (rw [hk]; decide) | (rw [hk2]; decide)) (by first | rfl | (rw [hk]; decide) | (rw [hk2]; decide)) (by first | rfl | (rw [hk]; decide) | (rw [hk2]; decide)) (by first | rfl | (rw [hk]; decide) | (rw [hk2]; decide)) (by first | rfl | (rw [hk]; decide) | (rw [hk2]; decide)) w) (by (unfold condF; rw [h]; (try rw [hk]); (try rw [hk3]); revert b1 b2 b4 b5; decide))
    · exact calls_bool (rcond_6 true b1 b2 true b4 b5 a6 (by first | rfl | (rw [hk]; decide) | (rw [hk2]; decide)) (by first | rfl | (rw [hk]; decide) | (rw [hk2]; decide)) (by first | rfl | (rw [hk]; decide) | (rw [hk2]; decide)) (by first | rfl | (rw [hk]; decide) | (rw [hk2]; decide)) (by first | rfl | (rw [hk]; decide) | (rw [hk2]; decide)) (by first | rfl | (rw [hk]; decide) | (rw [hk2]; decide)) w) (by (unfold condF; rw [h]; (try rw [hk]); (try rw [hk3]); revert b1 b2 b4 b5; decide))
  · cases b0 <;> cases b3
    · exact calls_bool (rcond_7 false b1 b2 false b4 b5 a6 (by first | rfl | (rw [hk]; decide) | (rw [hk2]; decide)) (by first | rfl | (rw [hk]; decide) | (rw [hk2]; decide)) (by first | rfl | (rw [hk]; decide) | (rw [hk2]; decide)) (by first | rfl | (rw [hk]; decide) | (rw [hk2]; decide)) (by first | rfl | (rw [hk]; decide) | (rw [hk2]; decide)) (by first | rfl | (rw [hk]; decide) | (rw [hk2]; decide)) (by first | rfl | (rw [hk]; decide) | (rw [hk2]; decide)) w) (by (unfold condF; rw [h]; (try rw [hk]); (try rw [hk3]); revert b1 b2 b4 b5; decide))
    · exact calls_bool (rcond_7 false b1 b2 true b4 b5 a6 (by first | rfl | (rw [hk]; decide) | (rw [hk2]; decide)) (by first | rfl | (rw [hk]; decide) | (rw [hk2]; decide)) (by first | rfl | (rw [hk]; decide) | (rw [hk2]; decide)) (by first | rfl | (rw [hk]; decide) | (rw [hk2]; decide)) (by first | rfl | (rw [hk]; decide) | (rw [hk2]; decide)) (by first | rfl | (rw [hk]; decide) | (rw [hk2]; decide)) (by first | rfl | (rw [hk]; decide) | (rw [hk2]; decide)) w) (by (unfold condF; rw [h]; (try rw [hk]); (try rw [hk3]); revert b1 b2 b4 b5; decide))
    · exact calls_bool (rcond_7 true b1 b2 false b4 b5 a6 (by first | rfl | (rw [hk]; decide) | (rw [hk2]; decide)) (by first | rfl | (rw [hk]; decide) | (rw [hk2]; decide)) (by first | rfl | (rw [hk]; decide) | (rw [hk2]; decide)) (by first | rfl | (rw [hk]; decide) | (rw [hk2]; decide)) (by first | rfl | (rw [hk]; decide) | (rw [hk2]; decide)) (by first | rfl | (rw [hk]; decide) | (rw [hk2]; decide)) (by first | rfl | (rw [hk]; decide) | (rw [hk2]; decide)) w) (by (unfold condF; rw [h]; (try rw [hk]); (try rw [hk3]); revert b1 b2 b4 b5; decide))
    · exact calls_bool (rcond_7 true b1 b2 true b4 b5 a6 (by first | rfl | (rw [hk]; decide) | (rw [hk2]; decide)) (by first | rfl | (rw [hk]; decide) | (rw [hk2]; decide)) (by first | rfl | (rw [hk]; decide) | (rw [hk2]; decide)) (by first | rfl | (rw [hk]; decide) | (rw [hk2]; decide)) (by first | rfl | (rw [hk]; decide) | (rw [hk2]; decide)) (by first | rfl | (rw [hk]; decide) | (rw [hk2]; decide)) (by first | rfl | (rw [hk]; decide) | (rw [hk2]; decide)) w) (by (unfold condF; rw [h]; (try rw [hk]); (try rw [hk3]); revert b1 b2 b4 b5; decide))
  · cases b0 <;> cases b3
    · exact calls_bool (rcond_7 false b1 b2 false b4 b5 a6 (by first | rfl | (rw [hk]; decide) | (rw [hk2]; decide)) (by first | rfl | (rw [hk]; decide) | (rw [hk2]; decide)) (by first | rfl | (rw [hk]; decide) | (rw [hk2]; decide)) (by first | rfl | (rw [hk]; decide) | (rw [hk2]; decide)) (by first | rfl | (rw [hk]; decide) | (rw [hk2]; decide)) (by first | rfl | (rw [hk]; decide) | (rw [hk2]; decide)) (by first | rfl | (rw [hk]; decide) | (rw [hk2]; decide)) w) (by (unfold condF; rw [h]; (try rw [hk]); (try rw [hk3]); revert b1 b2 b4 b5; decide))
    · exact calls_bool (rcond_7 false b1 b2 true b4 b5 a6 (by first | rfl | (rw [hk]; decide) | (rw [hk2]; decide)) (by first | rfl | (rw [hk]; decide) | (rw [hk2]; decide)) (by first | rfl | (rw [hk]; decide) | (rw [hk2]; decide)) (by first | rfl | (rw [hk]; decide) | (rw [hk2]; decide)) (by first | rfl | (rw [hk]; decide) | (rw [hk2]; decide)) (by first | rfl | (rw [hk]; decide) | (rw [hk2]; decide)) (by first | rfl | (rw [hk]; decide) | (rw [hk2]; decide)) w) (by (unfold condF; rw [h]; (try rw [hk]); (try rw [hk3]); revert b1 b2 b4 b5; decide))
    · exact calls_bool (rcond_7 true b1 b2 false b4 b5 a6 (by first | rfl | (rw [hk]; decide) | (rw [hk2]; decide)) (by first | rfl | (rw [hk]; decide) | (rw [hk2]; decide)) (by first | rfl | (rw [hk]; decide) | (rw [hk2]; decide)) (by first | rfl | (rw [hk]; decide) | (rw [hk2]; decide)) (by first | rfl | (rw [hk]; decide) | (rw [hk2]; decide)) (by first | rfl | (rw [hk]; decide) | (rw [hk2]; decide)) (by first | rfl | (rw [hk]; decide) | (rw [hk2]; decide)) w) (by (unfold condF; rw [h]; (try rw [hk]); (try rw [hk3]); revert b1 b2 b4 b5; decide))
    · exact calls_bool (rcond_7 true b1 b2 true b4 b5 a6 (by first | rfl | (rw [hk]; decide) | (rw [hk2]; decide)) (by first | rfl | (rw [hk]; decide) | (rw [hk2]; decide)) (by first | rfl | (rw [hk]; decide) | (rw [hk2]; decide)) (by first | rfl | (rw [hk]; decide) | (rw [hk2]; decide)) (by first | rfl | (rw [hk]; decide) | (rw [hk2]; decide)) (by first | rfl | (rw [hk]; decide) | (rw [hk2]; decide)) (by first | rfl | (rw [hk]; decide) | (rw [hk2]; decide)) w) (by (unfold condF; rw [h]; (try rw [hk]); (try rw [hk3]); revert b1 b2 b4 b5; decide))
  · cases b0 <;> cases b3
    · exact calls_bool (rcond_9 false b1 b2 false b4 b5 a6 (by first | rfl | (rw [hk]; decide) | (rw [hk2]; decide)) (by first | rfl | (rw [hk]; decide) | (rw [hk2]; decide)) (by first | rfl | (rw [hk]; decide) | (rw [hk2]; decide)) (by first | rfl | (rw [hk]; decide) | (rw [hk2]; decide)) (by first | rfl | (rw [hk]; decide) | (rw [hk2]; decide)) (by first | rfl | (rw [hk]; decide) | (rw [hk2]; decide)) (by first | rfl | (rw [hk]; decide) | (rw [hk2]; decide)) (by first | rfl | (rw [hk]; decide) | (rw [hk2]; decide)) w) (by (unfold condF; rw [h]; (try rw [hk]); (try rw [hk3]); revert b1 b2 b4 b5; decide))
    · exact calls_bool (rcond_8 false b1 b2 true b4 b5 a6 (by first | rfl | (rw [hk]; decide) | (rw [hk2]; decide)) (by first | rfl | (rw [hk]; decide) | (rw [hk2]; decide)) (by first | rfl | (rw [hk]; decide) | (rw [hk2]; decide)) (by first | rfl | (rw [hk]; decide) | (rw [hk2]; decide)) (by first | rfl | (rw [hk]; decide) | (rw [hk2]; decide)) (by first | rfl | (rw [hk]; decide) | (rw [hk2]; decide)) (by first | rfl | (rw [hk]; decide) | (rw [hk2]; decide)) (by first | rfl | (rw [hk]; decide) | (rw [hk2]; decide)) w) (by (unfold condF; rw [h]; (try rw [hk]); (try rw [hk3]); revert b1 b2 b4 b5; decide))
    · exact calls_bool (rcond_9 true b1 b2 false b4 b5 a6 (by first | rfl | (rw [hk]; decide) | (rw [hk2]; decide)) (by first | rfl | (rw [hk]; decide) | (rw [hk2]; decide)) (by first | rfl | (rw [hk]; decide) | (rw [hk2]; decide)) (by first | rfl | (rw [hk]; decide) | (rw [hk2]; decide)) (by first | rfl | (rw [hk]; decide) | (rw [hk2]; decide)) (by first | rfl | (rw [hk]; decide) | (rw [hk2]; decide)) (by first | rfl | (rw [hk]; decide) | (rw [hk2]; decide)) (by first | rfl | (rw [hk]; decide) | (rw [hk2]; decide)) w) (by (unfold condF; rw [h]; (try rw [hk]); (try rw [hk3]); revert b1 b2 b4 b5; decide))
    · exact calls_bool (rcond_8 true b1 b2 true b4 b5 a6 (by first | rfl | (rw [hk]; decide) | (rw [hk2]; decide)) (by first | rfl | (rw [hk]; decide) | (rw [hk2]; decide)) (by first | rfl | (rw [hk]; decide) | (rw [hk2]; decide)) (by first | rfl | (rw [hk]; decide) | (rw [hk2]; decide)) (by first | rfl | (rw [hk]; decide) | (rw [hk2]; decide)) (by first | rfl | (rw [hk]; decide) | (rw [hk2]; decide)) (by first | rfl | (rw [hk]; decide) | (rw [hk2]; decide)) (by first | rfl | (rw [hk]; decide) | (rw [hk2]; decide)) w) (by (unfold condF; rw [h]; (try rw [hk]); (try rw [hk3]); revert b1 b2 b4 b5; decide))
  · cases b0 <;> cases b3
    · exact calls_bool (rcond_9 false b1 b2 false b4 b5 a6 (by first | rfl | (rw [hk]; decide) | (rw [hk2]; decide)) (by first | rfl | (rw [hk]; decide) | (rw [hk2]; decide)) (by first | rfl | (rw [hk]; decide) | (rw [hk2]; decide)) (by first | rfl | (rw [hk]; decide) | (rw [hk2]; decide)) (by first | rfl | (rw [hk]; decide) | (rw [hk2]; decide)) (by first | rfl | (rw [hk]; decide) | (rw [hk2]; decide)) (by first | rfl | (rw [hk]; decide) | (rw [hk2]; decide)) (by first | rfl | (rw [hk]; decide) | (rw [hk2]; decide)) w) (by (unfold condF; rw [h]; (try rw [hk]); (try rw [hk3]); revert b1 b2 b4 b5; decide))
    · exact calls_bool (rcond_8 false b1 b2 true b4 b5 a6 (by first | rfl | (rw [hk]; decide) | (rw [hk2]; decide)) (by first | rfl | (rw [hk]; decide) | (rw [hk2]; decide)) (by first | rfl | (rw [hk]; decide) | (rw [hk2]; decide)) (by first | rfl | (rw [hk]; decide) | (rw [hk2]; decide)) (by first | rfl | (rw [hk]; decide) | (rw [hk2]; decide)) (by first | rfl | (rw [hk]; decide) | (rw [hk2]; decide)) (by first | rfl | (rw [hk]; decide) | (rw [hk2]; decide)) (by first | rfl | (rw [hk]; decide) | (rw [hk2]; decide)) w) (by (unfold condF; rw [h]; (try rw [hk]); (try rw [hk3]); revert b1 b2 b4 b5; decide))
    · exact calls_bool (rcond_9 true b1 b2 false b4 b5 a6 (by first | rfl | (rw [hk]; decide) | (rw [hk2]; decide)) (by first | rfl | (rw [hk]; decide) | (rw [hk2]; decide)) (by first | rfl | (rw [hk]; decide) | (rw [hk2]; decide)) (by first | rfl | (rw [hk]; decide) | (rw [hk2]; decide)) (by first | rfl | (rw [hk]; decide) | (rw [hk2]; decide)) (by first | rfl | (rw [hk]; decide) | (rw [hk2]; decide)) (by first | rfl | (rw [hk]; decide) | (rw [hk2]; decide)) (by first | rfl | (rw [hk]; decide) | (rw [hk2]; decide)) w) (by (unfold condF; rw [h]; (try rw [hk]); (try rw [hk3]); revert b1 b2 b4 b5; decide))
    · exact calls_bool (rcond_8 true b1 b2 true b4 b5 a6 (by first | rfl | (rw [hk]; decide) | (rw [hk2]; decide)) (by first | rfl | (rw [hk]; decide) | (rw [hk2]; decide)) (by first | rfl | (rw [hk]; decide) | (rw [hk2]; decide)) (by first | rfl | (rw [hk]; decide) | (rw [hk2]; decide)) (by first | rfl | (rw [hk]; decide) | (rw [hk2]; decide)) (by first | rfl | (rw [hk]; decide) | (rw [hk2]; decide)) (by first | rfl | (rw [hk]; decide) | (rw [hk2]; decide)) (by first | rfl | (rw [hk]; decide) | (rw [hk2]; decide)) w) (by (unfold condF; rw [h]; (try rw [hk]); (try rw [hk3]); revert b1 b2 b4 b5; decide))
theorem truth_ok : SumOk Try.prog phi 28 sTruth := ⟨fun xs w => Try.call28 xs w, fun vs h w => by
  match vs, h with
  | [v], h =>
    obtain ⟨⟨b, rfl⟩, _⟩ := h
    cases b
    · exact truth_false w
    · exact truth_true w⟩
theorem cond_ok : SumOk Try.prog phi 17 sCond := ⟨fun xs w => Try.call17 xs w, fun vs h w => by
  replace h : TypedCells [.rb, .rb, .rb, .rb, .rb, .rb, .ri .i64] vs := h
  obtain ⟨v0, vs0, e0, ⟨b0, k0⟩, h0⟩ := typed_cons h
  obtain ⟨v1, vs1, e1, ⟨b1, k1⟩, h1⟩ := typed_cons h0
  obtain ⟨v2, vs2, e2, ⟨b2, k2⟩, h2⟩ := typed_cons h1
  obtain ⟨v3, vs3, e3, ⟨b3, k3⟩, h3⟩ := typed_cons h2
  obtain ⟨v4, vs4, e4, ⟨b4, k4⟩, h4⟩ := typed_cons h3
  obtain ⟨v5, vs5, e5, ⟨b5, k5⟩, h5⟩ := typed_cons h4
  obtain ⟨v6, vs6, e6, ⟨a, ka, ha⟩, h6⟩ := typed_cons h5
  have e7 := typed_nil h6
  subst e0 e1 e2 e3 e4 e5 e6 e7
  subst k0 k1 k2 k3 k4 k5 ka
  exact cond_all b0 b1 b2 b3 b4 b5 a w⟩
theorem rcond_ok : SumOk Try.prog phi 24 sCond := ⟨fun xs w => Try.call24 xs w, fun vs h w => by
  replace h : TypedCells [.rb, .rb, .rb, .rb, .rb, .rb, .ri .i64] vs := h
  obtain ⟨v0, vs0, e0, ⟨b0, k0⟩, h0⟩ := typed_cons h
  obtain ⟨v1, vs1, e1, ⟨b1, k1⟩, h1⟩ := typed_cons h0
  obtain ⟨v2, vs2, e2, ⟨b2, k2⟩, h2⟩ := typed_cons h1
  obtain ⟨v3, vs3, e3, ⟨b3, k3⟩, h3⟩ := typed_cons h2
  obtain ⟨v4, vs4, e4, ⟨b4, k4⟩, h4⟩ := typed_cons h3
  obtain ⟨v5, vs5, e5, ⟨b5, k5⟩, h5⟩ := typed_cons h4
  obtain ⟨v6, vs6, e6, ⟨a, ka, ha⟩, h6⟩ := typed_cons h5
  have e7 := typed_nil h6
  subst e0 e1 e2 e3 e4 e5 e6 e7
  subst k0 k1 k2 k3 k4 k5 ka
  exact rcond_all b0 b1 b2 b3 b4 b5 a w⟩
theorem word_ok : SumOk Try.prog phi 19 sWord := ⟨fun xs w => Try.call19 xs w, fun vs h w => by
  replace h : TypedCells [.rb, .rb, .rb, .rb, .rb, .rb] vs := h
  obtain ⟨v0, vs0, e0, ⟨b0, k0⟩, h0⟩ := typed_cons h
  obtain ⟨v1, vs1, e1, ⟨b1, k1⟩, h1⟩ := typed_cons h0
  obtain ⟨v2, vs2, e2, ⟨b2, k2⟩, h2⟩ := typed_cons h1
  obtain ⟨v3, vs3, e3, ⟨b3, k3⟩, h3⟩ := typed_cons h2
  obtain ⟨v4, vs4, e4, ⟨b4, k4⟩, h4⟩ := typed_cons h3
  obtain ⟨v5, vs5, e5, ⟨b5, k5⟩, h5⟩ := typed_cons h4
  have e6 := typed_nil h5
  subst e0 e1 e2 e3 e4 e5 e6
  subst k0 k1 k2 k3 k4 k5
  cases b0 <;> cases b1 <;> cases b2 <;> cases b3 <;> cases b4 <;> cases b5
  · exact word_0 w
  · exact word_32 w
  · exact word_16 w
  · exact word_48 w
  · exact word_8 w
  · exact word_40 w
  · exact word_24 w
  · exact word_56 w
  · exact word_4 w
  · exact word_36 w
  · exact word_20 w
  · exact word_52 w
  · exact word_12 w
  · exact word_44 w
  · exact word_28 w
  · exact word_60 w
  · exact word_2 w
  · exact word_34 w
  · exact word_18 w
  · exact word_50 w
  · exact word_10 w
  · exact word_42 w
  · exact word_26 w
  · exact word_58 w
  · exact word_6 w
  · exact word_38 w
  · exact word_22 w
  · exact word_54 w
  · exact word_14 w
  · exact word_46 w
  · exact word_30 w
  · exact word_62 w
  · exact word_1 w
  · exact word_33 w
  · exact word_17 w
  · exact word_49 w
  · exact word_9 w
  · exact word_41 w
  · exact word_25 w
  · exact word_57 w
  · exact word_5 w
  · exact word_37 w
  · exact word_21 w
  · exact word_53 w
  · exact word_13 w
  · exact word_45 w
  · exact word_29 w
  · exact word_61 w
  · exact word_3 w
  · exact word_35 w
  · exact word_19 w
  · exact word_51 w
  · exact word_11 w
  · exact word_43 w
  · exact word_27 w
  · exact word_59 w
  · exact word_7 w
  · exact word_39 w
  · exact word_23 w
  · exact word_55 w
  · exact word_15 w
  · exact word_47 w
  · exact word_31 w
  · exact word_63 w
⟩
theorem rword_ok : SumOk Try.prog phi 25 sWord := ⟨fun xs w => Try.call25 xs w, fun vs h w => by
  replace h : TypedCells [.rb, .rb, .rb, .rb, .rb, .rb] vs := h
  obtain ⟨v0, vs0, e0, ⟨b0, k0⟩, h0⟩ := typed_cons h
  obtain ⟨v1, vs1, e1, ⟨b1, k1⟩, h1⟩ := typed_cons h0
  obtain ⟨v2, vs2, e2, ⟨b2, k2⟩, h2⟩ := typed_cons h1
  obtain ⟨v3, vs3, e3, ⟨b3, k3⟩, h3⟩ := typed_cons h2
  obtain ⟨v4, vs4, e4, ⟨b4, k4⟩, h4⟩ := typed_cons h3
  obtain ⟨v5, vs5, e5, ⟨b5, k5⟩, h5⟩ := typed_cons h4
  have e6 := typed_nil h5
  subst e0 e1 e2 e3 e4 e5 e6
  subst k0 k1 k2 k3 k4 k5
  cases b0 <;> cases b1 <;> cases b2 <;> cases b3 <;> cases b4 <;> cases b5
  · exact rword_0 w
  · exact rword_32 w
  · exact rword_16 w
  · exact rword_48 w
  · exact rword_8 w
  · exact rword_40 w
  · exact rword_24 w
  · exact rword_56 w
  · exact rword_4 w
  · exact rword_36 w
  · exact rword_20 w
  · exact rword_52 w
  · exact rword_12 w
  · exact rword_44 w
  · exact rword_28 w
  · exact rword_60 w
  · exact rword_2 w
  · exact rword_34 w
  · exact rword_18 w
  · exact rword_50 w
  · exact rword_10 w
  · exact rword_42 w
  · exact rword_26 w
  · exact rword_58 w
  · exact rword_6 w
  · exact rword_38 w
  · exact rword_22 w
  · exact rword_54 w
  · exact rword_14 w
  · exact rword_46 w
  · exact rword_30 w
  · exact rword_62 w
  · exact rword_1 w
  · exact rword_33 w
  · exact rword_17 w
  · exact rword_49 w
  · exact rword_9 w
  · exact rword_41 w
  · exact rword_25 w
  · exact rword_57 w
  · exact rword_5 w
  · exact rword_37 w
  · exact rword_21 w
  · exact rword_53 w
  · exact rword_13 w
  · exact rword_45 w
  · exact rword_29 w
  · exact rword_61 w
  · exact rword_3 w
  · exact rword_35 w
  · exact rword_19 w
  · exact rword_51 w
  · exact rword_11 w
  · exact rword_43 w
  · exact rword_27 w
  · exact rword_59 w
  · exact rword_7 w
  · exact rword_39 w
  · exact rword_23 w
  · exact rword_55 w
  · exact rword_15 w
  · exact rword_47 w
  · exact rword_31 w
  · exact rword_63 w
⟩
end Go.Proofs.Ytjdjjhjehlnjaaa
