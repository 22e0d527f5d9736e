/-
  asm.Const: its ways, printed by a program of this repo.
-/
import Derived.Test.YtndfcpkmchjncaaSxL
import Derived.Test.YtndfcpkmchjncaaVasReg
import Derived.Test.YtndfcpkmchjncaaVasHalves
import Derived.Test.YtndfcpkmchjncaaVrvEnc
namespace Go.Proofs.Ytndfcpkmchjncaa
open Go Go.Sx
set_option linter.unusedVariables false
set_option maxRecDepth 100000
noncomputable def constC : Ctx := ⟨tys, fns, (((.e : Tr Sum).set 38 asRegS).set 39 asHalvesS).set 66 rvEncS⟩
theorem constC_ok : CtxOk Try.prog phi constC := ⟨tys_ok, fns_ok, ((sumsOk_e.set asReg_ok.ok).set asHalves_ok.ok).set rvEnc_ok.ok, mix_ok⟩
theorem const_0 (a0 : Int) (a1 : Int) (h0 : IntKind.has .i64 a0) (h1 : (phi.b 38 [(.int .i64 a0)] 0) = true) (h2 : IntKind.has .u32 a1) (h3 : (icmp .eql (phi.i 39 [(.int .u32 a1)] 0) 0) = true) (h4 : IntKind.has .i32 (phi.i 39 [(.int .u32 a1)] 1)) (h5 : (icmp .eql (phi.i 66 [(.int .i64 19), (.int .i64 a0), (.int .i64 0), (.int .i64 0), (.int .i32 (phi.i 39 [(.int .u32 a1)] 1))] 1) 0) = true) (w : World) :
    Calls Try.prog 12 #[(.int .i64 a0), (.int .u32 a1)] w fun e w' => ∃ g cap, e = .returned (.slice (some ⟨g, 0, none⟩) 1 cap) ∧ (∀ i, i < 1 → w'.cell? ⟨g, i, none⟩ = ([(.int .u32 (phi.i 66 [(.int .i64 19), (.int .i64 a0), (.int .i64 0), (.int .i64 0), (.int .i32 (phi.i 39 [(.int .u32 a1)] 1))] 0))] : List Value)[i]?) ∧ w.heap.size ≤ g ∧ g < w'.heap.size ∧ RowKit.Below w.heap.size w w' :=
  waySl constC_ok (lf := 1000) (d := 50) (args := [(.c (.ivar .i64 0)), (.c (.ivar .u32 1))]) (ds := [.db true, .db true, .db true]) (nx := 2) (n := 1) (cs := [(.ivar .u32 6)]) (res := [(.int .u32 (phi.i 66 [(.int .i64 19), (.int .i64 a0), (.int .i64 0), (.int .i64 0), (.int .i32 (phi.i 39 [(.int .u32 a1)] 1))] 0))])
    (log := [.call 38 [(.ivar .i64 0)] 2 [.rb],
      .decB 2 true,
      .call 39 [(.ivar .u32 1)] 3 [(.ri .i32), (.ri .i32)],
      .setB0 5 (.cmp .eql (.var 3) (.lit 0)),
      .decB 5 true,
      .call 66 [(.lit (.int .i64 19)), (.ivar .i64 0), (.lit (.int .i64 0)), (.lit (.int .i64 0)), (.ivar .i32 4)] 6 [(.ri .u32), (.ri .i64)],
      .setB0 8 (.cmp .eql (.var 7) (.lit 0)),
      .decB 8 true])
    (ρ := ((env0.setI 0 a0).setI 1 a1))
    (Pr := ((IntKind.has .i64 a0) ∧ True) ∧ ((phi.b 38 [(.int .i64 a0)] 0) = true) ∧ ((IntKind.has .u32 a1) ∧ True) ∧ (True) ∧ ((icmp .eql (phi.i 39 [(.int .u32 a1)] 0) 0) = true) ∧ ((True) ∧ (IntKind.has .i64 a0) ∧ (True) ∧ (True) ∧ (IntKind.has .i32 (phi.i 39 [(.int .u32 a1)] 1)) ∧ True) ∧ (True) ∧ ((icmp .eql (phi.i 66 [(.int .i64 19), (.int .i64 a0), (.int .i64 0), (.int .i64 0), (.int .i32 (phi.i 39 [(.int .u32 a1)] 1))] 1) 0) = true) ∧ (([(.int .u32 (phi.i 66 [(.int .i64 19), (.int .i64 a0), (.int .i64 0), (.int .i64 0), (.int .i32 (phi.i 39 [(.int .u32 a1)] 1))] 0))] : List Value) = [(.int .u32 (phi.i 66 [(.int .i64 19), (.int .i64 a0), (.int .i64 0), (.int .i64 0), (.int .i32 (phi.i 39 [(.int .u32 a1)] 1))] 0))]))
    (by kernel_rfl) (by kernel_rfl) (by kernel_rfl) (by kernel_rfl) ⟨⟨h0, trivial⟩, h1, ⟨h2, trivial⟩, trivial, h3, ⟨trivial, ⟨h0, ⟨trivial, ⟨trivial, ⟨h4, trivial⟩⟩⟩⟩⟩, trivial, h5, rfl⟩ w (Nat.zero_le _) trivial
theorem const_1 (a0 : Int) (a1 : Int) (h0 : IntKind.has .i64 a0) (h1 : (phi.b 38 [(.int .i64 a0)] 0) = true) (h2 : IntKind.has .u32 a1) (h3 : (icmp .eql (phi.i 39 [(.int .u32 a1)] 0) 0) = false) (h4 : (icmp .neq (phi.i 39 [(.int .u32 a1)] 1) 0) = false) (h5 : IntKind.has .i32 (phi.i 39 [(.int .u32 a1)] 0)) (h6 : (icmp .eql (phi.i 66 [(.int .i64 1), (.int .i64 a0), (.int .i64 0), (.int .i64 0), (.int .i32 (phi.i 39 [(.int .u32 a1)] 0))] 1) 0) = true) (w : World) :
    Calls Try.prog 12 #[(.int .i64 a0), (.int .u32 a1)] w fun e w' => ∃ g cap, e = .returned (.slice (some ⟨g, 0, none⟩) 1 cap) ∧ (∀ i, i < 1 → w'.cell? ⟨g, i, none⟩ = ([(.int .u32 (phi.i 66 [(.int .i64 1), (.int .i64 a0), (.int .i64 0), (.int .i64 0), (.int .i32 (phi.i 39 [(.int .u32 a1)] 0))] 0))] : List Value)[i]?) ∧ w.heap.size ≤ g ∧ g < w'.heap.size ∧ RowKit.Below w.heap.size w w' :=
  waySl constC_ok (lf := 1000) (d := 50) (args := [(.c (.ivar .i64 0)), (.c (.ivar .u32 1))]) (ds := [.db true, .db false, .db false, .db true]) (nx := 2) (n := 1) (cs := [(.ivar .u32 7)]) (res := [(.int .u32 (phi.i 66 [(.int .i64 1), (.int .i64 a0), (.int .i64 0), (.int .i64 0), (.int .i32 (phi.i 39 [(.int .u32 a1)] 0))] 0))])
    (log := [.call 38 [(.ivar .i64 0)] 2 [.rb],
      .decB 2 true,
      .call 39 [(.ivar .u32 1)] 3 [(.ri .i32), (.ri .i32)],
      .setB0 5 (.cmp .eql (.var 3) (.lit 0)),
      .decB 5 false,
      .setB0 6 (.cmp .neq (.var 4) (.lit 0)),
      .decB 6 false,
      .call 66 [(.lit (.int .i64 1)), (.ivar .i64 0), (.lit (.int .i64 0)), (.lit (.int .i64 0)), (.ivar .i32 3)] 7 [(.ri .u32), (.ri .i64)],
      .setB0 9 (.cmp .eql (.var 8) (.lit 0)),
      .decB 9 true])
    (ρ := ((env0.setI 0 a0).setI 1 a1))
    (Pr := ((IntKind.has .i64 a0) ∧ True) ∧ ((phi.b 38 [(.int .i64 a0)] 0) = true) ∧ ((IntKind.has .u32 a1) ∧ True) ∧ (True) ∧ ((icmp .eql (phi.i 39 [(.int .u32 a1)] 0) 0) = false) ∧ (True) ∧ ((icmp .neq (phi.i 39 [(.int .u32 a1)] 1) 0) = false) ∧ ((True) ∧ (IntKind.has .i64 a0) ∧ (True) ∧ (True) ∧ (IntKind.has .i32 (phi.i 39 [(.int .u32 a1)] 0)) ∧ True) ∧ (True) ∧ ((icmp .eql (phi.i 66 [(.int .i64 1), (.int .i64 a0), (.int .i64 0), (.int .i64 0), (.int .i32 (phi.i 39 [(.int .u32 a1)] 0))] 1) 0) = true) ∧ (([(.int .u32 (phi.i 66 [(.int .i64 1), (.int .i64 a0), (.int .i64 0), (.int .i64 0), (.int .i32 (phi.i 39 [(.int .u32 a1)] 0))] 0))] : List Value) = [(.int .u32 (phi.i 66 [(.int .i64 1), (.int .i64 a0), (.int .i64 0), (.int .i64 0), (.int .i32 (phi.i 39 [(.int .u32 a1)] 0))] 0))]))
    (by kernel_rfl) (by kernel_rfl) (by kernel_rfl) (by kernel_rfl) ⟨⟨h0, trivial⟩, h1, ⟨h2, trivial⟩, trivial, h3, trivial, h4, ⟨trivial, ⟨h0, ⟨trivial, ⟨trivial, ⟨h5, trivial⟩⟩⟩⟩⟩, trivial, h6, rfl⟩ w (Nat.zero_le _) trivial
theorem const_2 (a0 : Int) (a1 : Int) (h0 : IntKind.has .i64 a0) (h1 : (phi.b 38 [(.int .i64 a0)] 0) = true) (h2 : IntKind.has .u32 a1) (h3 : (icmp .eql (phi.i 39 [(.int .u32 a1)] 0) 0) = false) (h4 : (icmp .neq (phi.i 39 [(.int .u32 a1)] 1) 0) = true) (h5 : IntKind.has .i32 (phi.i 39 [(.int .u32 a1)] 0)) (h6 : (icmp .eql (phi.i 66 [(.int .i64 1), (.int .i64 a0), (.int .i64 0), (.int .i64 0), (.int .i32 (phi.i 39 [(.int .u32 a1)] 0))] 1) 0) = true) (h7 : IntKind.has .i32 (phi.i 39 [(.int .u32 a1)] 1)) (h8 : (icmp .eql (phi.i 66 [(.int .i64 19), (.int .i64 a0), (.int .i64 a0), (.int .i64 0), (.int .i32 (phi.i 39 [(.int .u32 a1)] 1))] 1) 0) = true) (w : World) :
    Calls Try.prog 12 #[(.int .i64 a0), (.int .u32 a1)] w fun e w' => ∃ g cap, e = .returned (.slice (some ⟨g, 0, none⟩) 2 cap) ∧ (∀ i, i < 2 → w'.cell? ⟨g, i, none⟩ = ([(.int .u32 (phi.i 66 [(.int .i64 1), (.int .i64 a0), (.int .i64 0), (.int .i64 0), (.int .i32 (phi.i 39 [(.int .u32 a1)] 0))] 0)), (.int .u32 (phi.i 66 [(.int .i64 19), (.int .i64 a0), (.int .i64 a0), (.int .i64 0), (.int .i32 (phi.i 39 [(.int .u32 a1)] 1))] 0))] : List Value)[i]?) ∧ w.heap.size ≤ g ∧ g < w'.heap.size ∧ RowKit.Below w.heap.size w w' :=
  waySl constC_ok (lf := 1000) (d := 50) (args := [(.c (.ivar .i64 0)), (.c (.ivar .u32 1))]) (ds := [.db true, .db false, .db true, .db true, .db true]) (nx := 2) (n := 2) (cs := [(.ivar .u32 7), (.ivar .u32 10)]) (res := [(.int .u32 (phi.i 66 [(.int .i64 1), (.int .i64 a0), (.int .i64 0), (.int .i64 0), (.int .i32 (phi.i 39 [(.int .u32 a1)] 0))] 0)), (.int .u32 (phi.i 66 [(.int .i64 19), (.int .i64 a0), (.int .i64 a0), (.int .i64 0), (.int .i32 (phi.i 39 [(.int .u32 a1)] 1))] 0))])
    (log := [.call 38 [(.ivar .i64 0)] 2 [.rb],
      .decB 2 true,
      .call 39 [(.ivar .u32 1)] 3 [(.ri .i32), (.ri .i32)],
      .setB0 5 (.cmp .eql (.var 3) (.lit 0)),
      .decB 5 false,
      .setB0 6 (.cmp .neq (.var 4) (.lit 0)),
      .decB 6 true,
      .call 66 [(.lit (.int .i64 1)), (.ivar .i64 0), (.lit (.int .i64 0)), (.lit (.int .i64 0)), (.ivar .i32 3)] 7 [(.ri .u32), (.ri .i64)],
      .setB0 9 (.cmp .eql (.var 8) (.lit 0)),
      .decB 9 true,
      .call 66 [(.lit (.int .i64 19)), (.ivar .i64 0), (.ivar .i64 0), (.lit (.int .i64 0)), (.ivar .i32 4)] 10 [(.ri .u32), (.ri .i64)],
      .setB0 12 (.cmp .eql (.var 11) (.lit 0)),
      .decB 12 true])
    (ρ := ((env0.setI 0 a0).setI 1 a1))
    (Pr := ((IntKind.has .i64 a0) ∧ True) ∧ ((phi.b 38 [(.int .i64 a0)] 0) = true) ∧ ((IntKind.has .u32 a1) ∧ True) ∧ (True) ∧ ((icmp .eql (phi.i 39 [(.int .u32 a1)] 0) 0) = false) ∧ (True) ∧ ((icmp .neq (phi.i 39 [(.int .u32 a1)] 1) 0) = true) ∧ ((True) ∧ (IntKind.has .i64 a0) ∧ (True) ∧ (True) ∧ (IntKind.has .i32 (phi.i 39 [(.int .u32 a1)] 0)) ∧ True) ∧ (True) ∧ ((icmp .eql (phi.i 66 [(.int .i64 1), (.int .i64 a0), (.int .i64 0), (.int .i64 0), (.int .i32 (phi.i 39 [(.int .u32 a1)] 0))] 1) 0) = true) ∧ ((True) ∧ (IntKind.has .i64 a0) ∧ (IntKind.has .i64 a0) ∧ (True) ∧ (IntKind.has .i32 (phi.i 39 [(.int .u32 a1)] 1)) ∧ True) ∧ (True) ∧ ((icmp .eql (phi.i 66 [(.int .i64 19), (.int .i64 a0), (.int .i64 a0), (.int .i64 0), (.int .i32 (phi.i 39 [(.int .u32 a1)] 1))] 1) 0) = true) ∧ (([(.int .u32 (phi.i 66 [(.int .i64 1), (.int .i64 a0), (.int .i64 0), (.int .i64 0), (.int .i32 (phi.i 39 [(.int .u32 a1)] 0))] 0)), (.int .u32 (phi.i 66 [(.int .i64 19), (.int .i64 a0), (.int .i64 a0), (.int .i64 0), (.int .i32 (phi.i 39 [(.int .u32 a1)] 1))] 0))] : List Value) = [(.int .u32 (phi.i 66 [(.int .i64 1), (.int .i64 a0), (.int .i64 0), (.int .i64 0), (.int .i32 (phi.i 39 [(.int .u32 a1)] 0))] 0)), (.int .u32 (phi.i 66 [(.int .i64 19), (.int .i64 a0), (.int .i64 a0), (.int .i64 0), (.int .i32 (phi.i 39 [(.int .u32 a1)] 1))] 0))]))
    (by kernel_rfl) (by kernel_rfl) (by kernel_rfl) (by kernel_rfl) ⟨⟨h0, trivial⟩, h1, ⟨h2, trivial⟩, trivial, h3, trivial, h4, ⟨trivial, ⟨h0, ⟨trivial, ⟨trivial, ⟨h5, trivial⟩⟩⟩⟩⟩, trivial, h6, ⟨trivial, ⟨h0, ⟨h0, ⟨trivial, ⟨h7, trivial⟩⟩⟩⟩⟩, trivial, h8, rfl⟩ w (Nat.zero_le _) trivial
theorem const_no (a0 : Int) (a1 : Int) (h0 : IntKind.has .i64 a0) (h1 : (phi.b 38 [(.int .i64 a0)] 0) = false) (w : World) :
    Calls Try.prog 12 #[(.int .i64 a0), (.int .u32 a1)] w fun e w' => e = .returned (.slice none 0 0) ∧ RowKit.Below w.heap.size w w' :=
  wayp constC_ok (lf := 1000) (d := 50) (args := [(.c (.ivar .i64 0)), (.c (.ivar .u32 1))]) (ds := [.db false]) (nx := 2) (v := (.w (.c (.lit (.slice none 0 0)))))
    (log := [.call 38 [(.ivar .i64 0)] 2 [.rb],
      .decB 2 false])
    (ρ := ((env0.setI 0 a0).setI 1 a1))
    (Pr := ((IntKind.has .i64 a0) ∧ True) ∧ ((phi.b 38 [(.int .i64 a0)] 0) = false) ∧ ((.slice none 0 0) : Value) = (.slice none 0 0))
    (by kernel_rfl) (by kernel_rfl) (by kernel_rfl) (by kernel_rfl) ⟨⟨h0, trivial⟩, h1, rfl⟩ w (Nat.zero_le _) trivial
end Go.Proofs.Ytndfcpkmchjncaa
