/-
  A symbolic executor for the model's code (definitions).
-/
import Derived.Orders
import Derived.Tactics
import Derived.KernelRfl
import Derived.Below
namespace Go.Sx

/-! ### A height: what is unfolded first -/
def hh0 : Nat := 0
def hh1 : Nat := hh0
def hh2 : Nat := hh1
def hh3 : Nat := hh2
def hh4 : Nat := hh3
def hh5 : Nat := hh4
def hh6 : Nat := hh5
def hh7 : Nat := hh6
def hh8 : Nat := hh7
def hh9 : Nat := hh8
def hh10 : Nat := hh9
def hh11 : Nat := hh10
def hh12 : Nat := hh11
def hh13 : Nat := hh12
def hh14 : Nat := hh13
def hh15 : Nat := hh14
def hh16 : Nat := hh15
def hh17 : Nat := hh16
def hh18 : Nat := hh17
def hh19 : Nat := hh18
def hh20 : Nat := hh19
def hh21 : Nat := hh20
def hh22 : Nat := hh21
def hh23 : Nat := hh22
def hh24 : Nat := hh23
def hh25 : Nat := hh24
def hh26 : Nat := hh25
def hh27 : Nat := hh26
def hh28 : Nat := hh27
def hh29 : Nat := hh28
def hh30 : Nat := hh29
def hh31 : Nat := hh30
def hh32 : Nat := hh31
def hh33 : Nat := hh32
def hh34 : Nat := hh33
def hh35 : Nat := hh34
def hh36 : Nat := hh35
def hh37 : Nat := hh36
def hh38 : Nat := hh37
def hh39 : Nat := hh38
def hh40 : Nat := hh39
def hh41 : Nat := hh40
def hh42 : Nat := hh41
def hh43 : Nat := hh42
def hh44 : Nat := hh43
def hh45 : Nat := hh44
def hh46 : Nat := hh45
def hh47 : Nat := hh46
def hh48 : Nat := hh47
def hh49 : Nat := hh48
def hh50 : Nat := hh49
def hh51 : Nat := hh50
def hh52 : Nat := hh51
def hh53 : Nat := hh52
def hh54 : Nat := hh53
def hh55 : Nat := hh54
def hh56 : Nat := hh55
def hh57 : Nat := hh56
def hh58 : Nat := hh57
def hh59 : Nat := hh58
def hh60 : Nat := hh59
@[reducible] def hi {α : Type} (a : α) : α := (fun (_ : Nat) => a) hh60
@[simp] theorem hi_eq {α : Type} (a : α) : hi a = a := rfl

/-! ### Tries -/
inductive Tr (α : Type) where
  | e : Tr α
  | n : Tr α → Option α → Tr α → Tr α

def Tr.get {α : Type} : Tr α → Nat → Option α
  | .e, _ => none
  | .n l v r, k =>
    match k with
    | 0 => v
    | k + 1 => if Nat.beq (k % 2) 0 then l.get (k / 2) else r.get (k / 2)

def Tr.upd {α : Type} (v : Option α) : Nat → Tr α → Nat → Tr α
  | 0, t, _ => t
  | f + 1, .e, k =>
    match k with
    | 0 => .n .e v .e
    | k + 1 => if Nat.beq (k % 2) 0 then .n (Tr.upd v f .e (k / 2)) none .e else .n .e none (Tr.upd v f .e (k / 2))
  | f + 1, .n l x r, k =>
    match k with
    | 0 => .n l v r
    | k + 1 => if Nat.beq (k % 2) 0 then .n (Tr.upd v f l (k / 2)) x r else .n l x (Tr.upd v f r (k / 2))

def Tr.set {α : Type} (t : Tr α) (k : Nat) (v : α) : Tr α := Tr.upd (some v) (k + 1) t k
def Tr.del {α : Type} (t : Tr α) (k : Nat) : Tr α := Tr.upd none (k + 1) t k

def Tr.setAll {α : Type} : Tr α → Nat → List α → Tr α
  | t, _, [] => t
  | t, k, x :: xs => Tr.setAll (t.set k x) (k + 1) xs

/-! ### Values -/
inductive SC where
  | lit (v : Value)
  | ivar (k : IntKind) (x : Nat)
  | bvar (x : Nat) (neg : Bool)
  | svar (x : Nat)
  | ptr (b off : Nat)
  | slc (b off len cap : Nat)
  /-- a slice from its block's head on whose capacity an append has chosen -/
  | slu (b len : Nat)
  | clo (f : Nat) (caps : List (Nat × Nat))
  | mp (b : Nat)

inductive SW where
  | c (x : SC)
  | agg (xs : List SC)

inductive SV where
  | w (x : SW)
  | tup (xs : List SW)

structure Env where
  i : Nat → Int
  b : Nat → Bool
  s : Nat → ByteArray

/-- turned, or not -/
def turn (g b : Bool) : Bool :=
  match g with
  | true => !b
  | false => b

@[simp] theorem turn_eq (g b : Bool) : turn g b = xor b g := by cases g <;> cases b <;> rfl

/-- where the blocks lie; the capacities that were chosen -/
structure Loc where
  blk : Nat → Nat
  cap : Nat → Nat

def SC.den (ρ : Env) (ι : Loc) : SC → Value
  | .lit v => v
  | .ivar k x => .int k (ρ.i x)
  | .bvar x neg => .bool (turn neg (ρ.b x))
  | .svar x => .string (ρ.s x)
  | .ptr b off => .pointer (some ⟨ι.blk b, off, none⟩)
  | .slc b off len cap => .slice (some ⟨ι.blk b, off, none⟩) len cap
  | .slu b len => .slice (some ⟨ι.blk b, 0, none⟩) len (ι.cap b)
  | .clo f caps => .func (.func f) #[] (caps.map fun p => Value.pointer (some ⟨ι.blk p.1, p.2, none⟩)).toArray
  | .mp b => .map (some (ι.blk b))

def SW.den (ρ : Env) (ι : Loc) : SW → Value
  | .c x => x.den ρ ι
  | .agg xs => .agg (xs.map (SC.den ρ ι)).toArray

def SV.den (ρ : Env) (ι : Loc) : SV → Value
  | .w x => x.den ρ ι
  | .tup xs => .tuple (xs.map (SW.den ρ ι)).toArray

def SW.cells : SW → List SC
  | .c x => [x]
  | .agg xs => xs

def sundef : SV := .tup []

/-! ### Atoms, expressions, events -/
inductive IA where
  | lit (n : Int)
  | var (x : Nat)
inductive BA where
  | lit (b : Bool)
  | var (x : Nat) (neg : Bool)
inductive SA where
  | lit (s : ByteArray)
  | var (x : Nat)

def IA.den (ρ : Env) : IA → Int
  | .lit n => (fun (_ : Nat) => n) hh60
  | .var x => ρ.i x
def BA.den (ρ : Env) : BA → Bool
  | .lit b => (fun (_ : Nat) => b) hh60
  | .var x neg => turn neg (ρ.b x)
def SA.den (ρ : Env) : SA → ByteArray
  | .lit s => (fun (_ : Nat) => s) hh60
  | .var x => ρ.s x

/-- Integer operations as the model has them. -/
def ibin (op : BinOp) (k : IntKind) (a b : Int) : Int :=
  match op with
  | .add => k.wrap (a + b)
  | .sub => k.wrap (a - b)
  | .mul => k.wrap (a * b)
  | .quo => k.wrap (a.tdiv b)
  | .rem => a.tmod b
  | .and => k.wrap ((BitVec.ofInt k.bits a &&& BitVec.ofInt k.bits b).toNat)
  | .or => k.wrap ((BitVec.ofInt k.bits a ||| BitVec.ofInt k.bits b).toNat)
  | .xor => k.wrap ((BitVec.ofInt k.bits a ^^^ BitVec.ofInt k.bits b).toNat)
  | .andNot => k.wrap ((BitVec.ofInt k.bits a &&& ~~~(BitVec.ofInt k.bits b)).toNat)
  | .shl => k.wrap (a * 2 ^ (min b.toNat k.bits))
  | .shr => a.fdiv (2 ^ (min b.toNat k.bits))
  | _ => 0

def icmp (op : BinOp) (a b : Int) : Bool :=
  match op with
  | .eql => a == b
  | .neq => a != b
  | .lss => decide (a < b)
  | .leq => decide (a ≤ b)
  | .gtr => decide (a > b)
  | .geq => decide (a ≥ b)
  | _ => false

inductive IE where
  | bin (op : BinOp) (k : IntKind) (a b : IA)
  | conv (k : IntKind) (a : IA)
  | mn (a b : IA)
  | mx (a b : IA)
  | len (a : SA)
inductive PE where
  | ii (a b : IA)
  | bb (a b : BA)
  | ss (a b : SA)
inductive BE where
  | cmp (op : BinOp) (a b : IA)
  | bq (a b : BA)
  | all (l : List PE)
inductive SE where
  | cat (a b : SA)

def IE.den (ρ : Env) : IE → Int
  | .bin op k a b => ibin op k (a.den ρ) (b.den ρ)
  | .conv k a => k.wrap (a.den ρ)
  | .mn a b => if b.den ρ < a.den ρ then b.den ρ else a.den ρ
  | .mx a b => if a.den ρ < b.den ρ then b.den ρ else a.den ρ
  | .len a => ((a.den ρ).size : Int)
def PE.den (ρ : Env) : PE → Bool
  | .ii a b => a.den ρ == b.den ρ
  | .bb a b => a.den ρ == b.den ρ
  | .ss a b => (a.den ρ).data.toList == (b.den ρ).data.toList
def BE.den (ρ : Env) : BE → Bool
  | .cmp op a b => icmp op (a.den ρ) (b.den ρ)
  | .bq a b => a.den ρ == b.den ρ
  | .all l => l.all (PE.den ρ)
def SE.den (ρ : Env) : SE → ByteArray
  | .cat a b => a.den ρ ++ b.den ρ

/-- What must hold for the operation to be carried out without a panic. -/
def IE.side (ρ : Env) : IE → Prop
  | .bin op _ _ b => (op = .quo ∨ op = .rem → b.den ρ ≠ 0) ∧ (op = .shl ∨ op = .shr → 0 ≤ b.den ρ)
  | _ => True

/-- kinds of a summary's cells -/
inductive RK where
  | ri (k : IntKind) | rb | rs | rl (v : Value)

/-- the functions of summaries -/
structure Phi where
  i : Nat → List Value → Nat → Int
  b : Nat → List Value → Nat → Bool
  s : Nat → List Value → Nat → ByteArray

inductive Ev where
  | setI0 (x : Nat) (e : IE)
  | setB0 (x : Nat) (e : BE)
  | setS0 (x : Nat) (e : SE)
  | decB (x : Nat) (b : Bool)
  | decI (x : Nat) (n : Int)
  /-- the summary of f at these cells: from variable x on, a variable a kind -/
  | call (f : Nat) (args : List SC) (x : Nat) (ks : List RK)

def noloc : Loc := ⟨fun _ => 0, fun _ => 0⟩

def callDen (Φ : Phi) (ρ : Env) (f : Nat) (args : List Value) : Nat → Nat → List RK → Prop
  | _, _, [] => True
  | x, j, .ri _ :: ks => ρ.i x = Φ.i f args j ∧ callDen Φ ρ f args (x + 1) (j + 1) ks
  | x, j, .rb :: ks => ρ.b x = Φ.b f args j ∧ callDen Φ ρ f args (x + 1) (j + 1) ks
  | x, j, .rs :: ks => ρ.s x = Φ.s f args j ∧ callDen Φ ρ f args (x + 1) (j + 1) ks
  | x, j, .rl _ :: ks => callDen Φ ρ f args (x + 1) (j + 1) ks

def IntKind.has (k : IntKind) (n : Int) : Prop := k.min ≤ n ∧ n ≤ k.max

/-- the arguments' ranges -/
def SC.fits (ρ : Env) : SC → Prop
  | .ivar k x => IntKind.has k (ρ.i x)
  | _ => True

def Ev.ok (Φ : Phi) (ρ : Env) : Ev → Prop
  | .setI0 x e => ρ.i x = e.den ρ ∧ e.side ρ
  | .setB0 x e => ρ.b x = e.den ρ
  | .setS0 x e => ρ.s x = e.den ρ
  | .decB x b => ρ.b x = b
  | .decI x n => ρ.i x = n
  | .call f args x ks => (∀ a ∈ args, a.fits ρ) ∧ callDen Φ ρ f (args.map (SC.den ρ noloc)) x 0 ks

/-! ### States -/
structure Blk where
  elem : TypeId
  size : Nat
  dflt : SC
  over : Tr SC
  /-- true: there may be more cells behind these -/
  more : Bool
  /-- a map: what was put, in order -/
  mp : Option (List (SW × SW)) := none

def Blk.at (b : Blk) (i : Nat) : SC := (b.over.get i).getD b.dflt
def Blk.get (b : Blk) (i : Nat) : Option SC := if Nat.blt i b.size then some (b.at i) else none
def Blk.put (b : Blk) (i : Nat) (v : SC) : Blk := { b with over := b.over.set i v }
def Blk.ofList (t : TypeId) (l : List SC) : Blk := ⟨t, l.length, .lit (.tuple #[]), Tr.setAll .e 0 l, false, none⟩

inductive D where
  | db (x : Bool)
  | di (n : Int)

structure St where
  ds : List D
  nx : Nat
  log : List Ev
  bf : Tr Bool
  jf : Tr Int
  nb : Nat
  heap : Tr Blk
  wr : List Nat

/-- Why it stops: a number, the state's log, the place -/
inductive R (α : Type) where
  | ok (a : α)
  | er (code : Nat) (log : List Ev) (pos : String)

def R.bind {α β : Type} : R α → (α → R β) → R β
  | .ok a, f => f a
  | .er c l p, _ => .er c l p

instance : Monad R where
  pure := R.ok
  bind := R.bind

structure TI where
  desc : TypeDesc
  size : Nat
  bytes : Nat
  zero : Option Value
  /-- a struct's fields: (type, offset) -/
  fs : List (Nat × Nat)
  eqsafe : Bool

def fieldsOf : TypeDesc → List (Nat × Nat)
  | .struct fs => fs.toList.map fun f => (f.type, f.offset)
  | _ => []

def tiOf (i u : TypeInfo) (safe : Bool) : TI := ⟨u.desc, i.size, i.bytes, i.zero, fieldsOf u.desc, safe⟩

structure Sum where
  /-- the arguments: (aggregate?, its cells' kinds) -/
  args : List (Bool × List RK)
  ks : List RK
  /-- the result's components: (aggregate?, how many cells) -/
  shape : List (Bool × Nat)
  tup : Bool
  /-- the result is a number that must be known -/
  conc : Bool := false

structure Ctx where
  tys : Tr TI
  fns : Tr Func
  sums : Tr Sum

structure Fr where
  n : Nat
  tm : Tr SV

def Fr.get (f : Fr) (t : Nat) : SV := (f.tm.get t).getD sundef

def ofVal : Value → SV
  | .agg cs => .w (.agg (cs.toList.map .lit))
  | .tuple vs => .tup (vs.toList.map fun v => .c (.lit v))
  | v => .w (.c (.lit v))

def Fr.eval (f : Fr) : Operand → SV
  | .tmp t => f.get t
  | .const v => ofVal v
  | .global g => .w (.c (.lit (.pointer (some ⟨g, 0, none⟩))))
  | .func g => .w (.c (.lit (.func (.func g) #[] #[])))

def Fr.put (f : Fr) (d : Option Nat) (v : SV) : Fr :=
  match d with
  | some t => if Nat.blt t f.n then { f with tm := f.tm.set t v } else f
  | none => f

end Go.Sx
