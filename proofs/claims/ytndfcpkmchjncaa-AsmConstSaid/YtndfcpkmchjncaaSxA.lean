/-
  A symbolic executor for the model's code, proved right: first part.
-/
import Derived.Orders
import Derived.Tactics
import Derived.KernelRfl
import Derived.Below
import Derived.Laws.CopyRow
import Derived.Laws.Cells
import Derived.Laws.Strings
import Derived.IntWalk
import Derived.Laws.IdiomStrings
namespace Go.Sx
def hh0 : Nat := 0
def hh1 : Nat := hh0
def hh2 : Nat := hh1
def hh3 : Nat := hh2
def hh4 : Nat := hh3
def hh5 : Nat := hh4
def hh6 : Nat := hh5
def hh7 : Nat := hh6
def hh8 : Nat := hh7
def hh9 : Nat := hh8
def hh10 : Nat := hh9
def hh11 : Nat := hh10
def hh12 : Nat := hh11
def hh13 : Nat := hh12
def hh14 : Nat := hh13
def hh15 : Nat := hh14
def hh16 : Nat := hh15
def hh17 : Nat := hh16
def hh18 : Nat := hh17
def hh19 : Nat := hh18
def hh20 : Nat := hh19
def hh21 : Nat := hh20
def hh22 : Nat := hh21
def hh23 : Nat := hh22
def hh24 : Nat := hh23
def hh25 : Nat := hh24
def hh26 : Nat := hh25
def hh27 : Nat := hh26
def hh28 : Nat := hh27
def hh29 : Nat := hh28
def hh30 : Nat := hh29
def hh31 : Nat := hh30
def hh32 : Nat := hh31
def hh33 : Nat := hh32
def hh34 : Nat := hh33
def hh35 : Nat := hh34
def hh36 : Nat := hh35
def hh37 : Nat := hh36
def hh38 : Nat := hh37
def hh39 : Nat := hh38
def hh40 : Nat := hh39
def hh41 : Nat := hh40
def hh42 : Nat := hh41
def hh43 : Nat := hh42
def hh44 : Nat := hh43
def hh45 : Nat := hh44
def hh46 : Nat := hh45
def hh47 : Nat := hh46
def hh48 : Nat := hh47
def hh49 : Nat := hh48
def hh50 : Nat := hh49
def hh51 : Nat := hh50
def hh52 : Nat := hh51
def hh53 : Nat := hh52
def hh54 : Nat := hh53
def hh55 : Nat := hh54
def hh56 : Nat := hh55
def hh57 : Nat := hh56
def hh58 : Nat := hh57
def hh59 : Nat := hh58
def hh60 : Nat := hh59
@[reducible] def hi {α : Type} (a : α) : α := (fun (_ : Nat) => a) hh60
@[simp] theorem hi_eq {α : Type} (a : α) : hi a = a := rfl
inductive Tr (α : Type) where
 | e : Tr α
 | n : Tr α → Option α → Tr α → Tr α
def Tr.get {α : Type} : Tr α → Nat → Option α
 | .e, _ => none
 | .n l v r, k =>
  match k with
  | 0 => v
  | k + 1 => if Nat.beq (k % 2) 0 then l.get (k / 2) else r.get (k / 2)
def Tr.upd {α : Type} (v : Option α) : Nat → Tr α → Nat → Tr α
 | 0, t, _ => t
 | f + 1, .e, k =>
  match k with
  | 0 => .n .e v .e
  | k + 1 => if Nat.beq (k % 2) 0 then .n (Tr.upd v f .e (k / 2)) none .e else .n .e none (Tr.upd v f .e (k / 2))
 | f + 1, .n l x r, k =>
  match k with
  | 0 => .n l v r
  | k + 1 => if Nat.beq (k % 2) 0 then .n (Tr.upd v f l (k / 2)) x r else .n l x (Tr.upd v f r (k / 2))
def Tr.set {α : Type} (t : Tr α) (k : Nat) (v : α) : Tr α := Tr.upd (some v) (k + 1) t k
def Tr.del {α : Type} (t : Tr α) (k : Nat) : Tr α := Tr.upd none (k + 1) t k
def Tr.setAll {α : Type} : Tr α → Nat → List α → Tr α
 | t, _, [] => t
 | t, k, x :: xs => Tr.setAll (t.set k x) (k + 1) xs
inductive SC where
 | lit (v : Value)
 | ivar (k : IntKind) (x : Nat)
 | bvar (x : Nat) (neg : Bool)
 | svar (x : Nat)
 | ptr (b off : Nat)
 | slc (b off len cap : Nat)
 | slu (b len : Nat)
 | clo (f : Nat) (caps : List (Nat × Nat))
 | mp (b : Nat)
inductive SW where
 | c (x : SC)
 | agg (xs : List SC)
inductive SV where
 | w (x : SW)
 | tup (xs : List SW)
structure Env where
 i : Nat → Int
 b : Nat → Bool
 s : Nat → ByteArray
def turn (g b : Bool) : Bool :=
 match g with
 | true => !b
 | false => b
@[simp] theorem turn_eq (g b : Bool) : turn g b = xor b g := by cases g <;> cases b <;> rfl
structure Loc where
 blk : Nat → Nat
 cap : Nat → Nat
def SC.den (ρ : Env) (ι : Loc) : SC → Value
 | .lit v => v
 | .ivar k x => .int k (ρ.i x)
 | .bvar x neg => .bool (turn neg (ρ.b x))
 | .svar x => .string (ρ.s x)
 | .ptr b off => .pointer (some ⟨ι.blk b, off, none⟩)
 | .slc b off len cap => .slice (some ⟨ι.blk b, off, none⟩) len cap
 | .slu b len => .slice (some ⟨ι.blk b, 0, none⟩) len (ι.cap b)
 | .clo f caps => .func (.func f) #[] (caps.map fun p => Value.pointer (some ⟨ι.blk p.1, p.2, none⟩)).toArray
 | .mp b => .map (some (ι.blk b))
def SW.den (ρ : Env) (ι : Loc) : SW → Value
 | .c x => x.den ρ ι
 | .agg xs => .agg (xs.map (SC.den ρ ι)).toArray
def SV.den (ρ : Env) (ι : Loc) : SV → Value
 | .w x => x.den ρ ι
 | .tup xs => .tuple (xs.map (SW.den ρ ι)).toArray
def SW.cells : SW → List SC
 | .c x => [x]
 | .agg xs => xs
def sundef : SV := .tup []
inductive IA where
 | lit (n : Int)
 | var (x : Nat)
inductive BA where
 | lit (b : Bool)
 | var (x : Nat) (neg : Bool)
inductive SA where
 | lit (s : ByteArray)
 | var (x : Nat)
def IA.den (ρ : Env) : IA → Int
 | .lit n => (fun (_ : Nat) => n) hh60
 | .var x => ρ.i x
def BA.den (ρ : Env) : BA → Bool
 | .lit b => (fun (_ : Nat) => b) hh60
 | .var x neg => turn neg (ρ.b x)
def SA.den (ρ : Env) : SA → ByteArray
 | .lit s => (fun (_ : Nat) => s) hh60
 | .var x => ρ.s x
def ibin (op : BinOp) (k : IntKind) (a b : Int) : Int :=
 match op with
 | .add => k.wrap (a + b)
 | .sub => k.wrap (a - b)
 | .mul => k.wrap (a * b)
 | .quo => k.wrap (a.tdiv b)
 | .rem => a.tmod b
 | .and => k.wrap ((BitVec.ofInt k.bits a &&& BitVec.ofInt k.bits b).toNat)
 | .or => k.wrap ((BitVec.ofInt k.bits a ||| BitVec.ofInt k.bits b).toNat)
 | .xor => k.wrap ((BitVec.ofInt k.bits a ^^^ BitVec.ofInt k.bits b).toNat)
 | .andNot => k.wrap ((BitVec.ofInt k.bits a &&& ~~~(BitVec.ofInt k.bits b)).toNat)
 | .shl => k.wrap (a * 2 ^ (min b.toNat k.bits))
 | .shr => a.fdiv (2 ^ (min b.toNat k.bits))
 | _ => 0
def icmp (op : BinOp) (a b : Int) : Bool :=
 match op with
 | .eql => a == b
 | .neq => a != b
 | .lss => decide (a < b)
 | .leq => decide (a ≤ b)
 | .gtr => decide (a > b)
 | .geq => decide (a ≥ b)
 | _ => false
inductive IE where
 | bin (op : BinOp) (k : IntKind) (a b : IA)
 | conv (k : IntKind) (a : IA)
 | mn (a b : IA)
 | mx (a b : IA)
 | len (a : SA)
 | sat (s : SA) (i : IA)
inductive PE where
 | ii (a b : IA)
 | bb (a b : BA)
 | ss (a b : SA)
inductive BE where
 | cmp (op : BinOp) (a b : IA)
 | bq (a b : BA)
 | all (l : List PE)
inductive SE where
 | cat (a b : SA)
 | byt (l : List IA)
 | sub (s : SA) (i j : IA)
def IE.den (ρ : Env) : IE → Int
 | .bin op k a b => ibin op k (a.den ρ) (b.den ρ)
 | .conv k a => k.wrap (a.den ρ)
 | .mn a b => if b.den ρ < a.den ρ then b.den ρ else a.den ρ
 | .mx a b => if a.den ρ < b.den ρ then b.den ρ else a.den ρ
 | .len a => ((a.den ρ).size : Int)
 | .sat s i => (((s.den ρ).data.toList.getD (i.den ρ).toNat 0).toNat : Int)
def PE.den (ρ : Env) : PE → Bool
 | .ii a b => a.den ρ == b.den ρ
 | .bb a b => a.den ρ == b.den ρ
 | .ss a b => (a.den ρ).data.toList == (b.den ρ).data.toList
def BE.den (ρ : Env) : BE → Bool
 | .cmp op a b => icmp op (a.den ρ) (b.den ρ)
 | .bq a b => a.den ρ == b.den ρ
 | .all l => l.all (PE.den ρ)
def SE.den (ρ : Env) : SE → ByteArray
 | .cat a b => a.den ρ ++ b.den ρ
 | .byt l => ⟨(l.map fun a => UInt8.ofNat (a.den ρ).toNat).toArray⟩
 | .sub s i j => (s.den ρ).extract (i.den ρ).toNat (j.den ρ).toNat
def bytesIn (ρ : Env) : List IA → Prop
 | [] => True
 | a :: l => (0 ≤ a.den ρ ∧ a.den ρ < 256) ∧ bytesIn ρ l
def SE.side (ρ : Env) : SE → Prop
 | .cat a b => (a.den ρ).size + (b.den ρ).size ≤ 1000000
 | .byt l => bytesIn ρ l
 | .sub s i j => 0 ≤ i.den ρ ∧ i.den ρ ≤ j.den ρ ∧ j.den ρ ≤ ((s.den ρ).size : Int)
def IE.side (ρ : Env) : IE → Prop
 | .bin op _ _ b => (op = .quo ∨ op = .rem → b.den ρ ≠ 0) ∧ (op = .shl ∨ op = .shr → 0 ≤ b.den ρ)
 | .sat s i => 0 ≤ i.den ρ ∧ i.den ρ < ((s.den ρ).size : Int)
 | _ => True
inductive RK where
 | ri (k : IntKind) | rb | rs | rl (v : Value)
structure Phi where
 i : Nat → List Value → Nat → Int
 b : Nat → List Value → Nat → Bool
 s : Nat → List Value → Nat → ByteArray
inductive Ev where
 | setI0 (x : Nat) (e : IE)
 | setB0 (x : Nat) (e : BE)
 | setS0 (x : Nat) (e : SE)
 | decB (x : Nat) (b : Bool)
 | decI (x : Nat) (n : Int)
 | call (f : Nat) (args : List SC) (x : Nat) (ks : List RK)
def noloc : Loc := ⟨fun _ => 0, fun _ => 0⟩
def callDen (Φ : Phi) (ρ : Env) (f : Nat) (args : List Value) : Nat → Nat → List RK → Prop
 | _, _, [] => True
 | x, j, .ri _ :: ks => ρ.i x = Φ.i f args j ∧ callDen Φ ρ f args (x + 1) (j + 1) ks
 | x, j, .rb :: ks => ρ.b x = Φ.b f args j ∧ callDen Φ ρ f args (x + 1) (j + 1) ks
 | x, j, .rs :: ks => ρ.s x = Φ.s f args j ∧ callDen Φ ρ f args (x + 1) (j + 1) ks
 | x, j, .rl _ :: ks => callDen Φ ρ f args (x + 1) (j + 1) ks
def IntKind.has (k : IntKind) (n : Int) : Prop := k.min ≤ n ∧ n ≤ k.max
def SC.fits (ρ : Env) : SC → Prop
 | .ivar k x => IntKind.has k (ρ.i x)
 | _ => True
def Ev.ok (Φ : Phi) (ρ : Env) : Ev → Prop
 | .setI0 x e => ρ.i x = e.den ρ ∧ e.side ρ
 | .setB0 x e => ρ.b x = e.den ρ
 | .setS0 x e => ρ.s x = e.den ρ ∧ e.side ρ
 | .decB x b => ρ.b x = b
 | .decI x n => ρ.i x = n
 | .call f args x ks => (∀ a ∈ args, a.fits ρ) ∧ callDen Φ ρ f (args.map (SC.den ρ noloc)) x 0 ks
structure Blk where
 elem : TypeId
 size : Nat
 dflt : SC
 over : Tr SC
 more : Bool
 mp : Option (List (SW × SW)) := none
def Blk.at (b : Blk) (i : Nat) : SC := (b.over.get i).getD b.dflt
def Blk.get (b : Blk) (i : Nat) : Option SC := if Nat.blt i b.size then some (b.at i) else none
def Blk.put (b : Blk) (i : Nat) (v : SC) : Blk := { b with over := b.over.set i v }
def Blk.ofList (t : TypeId) (l : List SC) : Blk := ⟨t, l.length, .lit (.tuple #[]), Tr.setAll .e 0 l, false, none⟩
inductive D where
 | db (x : Bool)
 | di (n : Int)
structure St where
 ds : List D
 nx : Nat
 log : List Ev
 bf : Tr Bool
 jf : Tr Int
 nb : Nat
 heap : Tr Blk
 wr : List Nat
inductive R (α : Type) where
 | ok (a : α)
 | er (code : Nat) (log : List Ev) (pos : String)
def R.bind {α β : Type} : R α → (α → R β) → R β
 | .ok a, f => f a
 | .er c l p, _ => .er c l p
instance : Monad R where
 pure := R.ok
 bind := R.bind
structure TI where
 desc : TypeDesc
 size : Nat
 bytes : Nat
 zero : Option Value
 fs : List (Nat × Nat)
 eqsafe : Bool
def fieldsOf : TypeDesc → List (Nat × Nat)
 | .struct fs => fs.toList.map fun f => (f.type, f.offset)
 | _ => []
def tiOf (i u : TypeInfo) (safe : Bool) : TI := ⟨u.desc, i.size, i.bytes, i.zero, fieldsOf u.desc, safe⟩
structure Sum where
 args : List (Bool × List RK)
 ks : List RK
 shape : List (Bool × Nat)
 tup : Bool
 conc : Bool := false
structure Ctx where
 tys : Tr TI
 fns : Tr Func
 sums : Tr Sum
structure Fr where
 n : Nat
 tm : Tr SV
def Fr.get (f : Fr) (t : Nat) : SV := (f.tm.get t).getD sundef
def ofVal : Value → SV
 | .agg cs => .w (.agg (cs.toList.map .lit))
 | .tuple vs => .tup (vs.toList.map fun v => .c (.lit v))
 | v => .w (.c (.lit v))
def Fr.eval (f : Fr) : Operand → SV
 | .tmp t => f.get t
 | .const v => ofVal v
 | .global g => .w (.c (.lit (.pointer (some ⟨g, 0, none⟩))))
 | .func g => .w (.c (.lit (.func (.func g) #[] #[])))
def Fr.put (f : Fr) (d : Option Nat) (v : SV) : Fr :=
 match d with
 | some t => if Nat.blt t f.n then { f with tm := f.tm.set t v } else f
 | none => f
end Go.Sx
namespace Go.Sx
def stop {α : Type} (c : Nat) (st : St) : R α := .er c st.log ""
def SC.ia (st : St) : SC → Option (IntKind × IA)
 | .lit (.int k n) => some (k, .lit n)
 | .ivar k x => some (k, match st.jf.get x with | some n => .lit n | none => .var x)
 | _ => none
def SC.ba (st : St) : SC → Option BA
 | .lit (.bool b) => some (.lit b)
 | .bvar x neg => some (match st.bf.get x with | some b => .lit (xor b neg) | none => .var x neg)
 | _ => none
def SC.sa : SC → Option SA
 | .lit (.string s) => some (.lit s)
 | .svar x => some (.var x)
 | _ => none
def mkI (k : IntKind) (e : IE) (st : St) : R (SV × St) :=
 .ok (.w (.c (.ivar k st.nx)), { st with nx := st.nx + 1, log := .setI0 st.nx e :: st.log })
def mkB (e : BE) (neg : Bool) (st : St) : R (SV × St) :=
 .ok (.w (.c (.bvar st.nx neg)), { st with nx := st.nx + 1, log := .setB0 st.nx e :: st.log })
def mkS (e : SE) (st : St) : R (SV × St) :=
 .ok (.w (.c (.svar st.nx)), { st with nx := st.nx + 1, log := .setS0 st.nx e :: st.log })
def litI (k : IntKind) (n : Int) : SV := .w (.c (.lit (.int k n)))
def litB (b : Bool) : SV := .w (.c (.lit (.bool b)))
def getB (v : SV) (st : St) : R (Bool × St) :=
 match v with
 | .w (.c (.lit (.bool b))) => .ok (b, st)
 | .w (.c (.bvar x neg)) =>
  match st.bf.get x with
  | some b => .ok (xor b neg, st)
  | none =>
   match st.ds with
   | .db b :: ds => .ok (xor b neg, { st with ds := ds, log := .decB x b :: st.log, bf := st.bf.set x b })
   | _ => stop 1 st
 | _ => stop 2 st
def getN (v : SV) (st : St) : R (Int × St) :=
 match v with
 | .w (.c (.lit (.int _ n))) => .ok (n, st)
 | .w (.c (.ivar _ x)) =>
  match st.jf.get x with
  | some n => .ok (n, st)
  | none =>
   match st.ds with
   | .di n :: ds => .ok (n, { st with ds := ds, log := .decI x n :: st.log, jf := st.jf.set x n })
   | _ => stop 3 st
 | _ => stop 4 st
def arithOp : BinOp → Bool
 | .add | .sub | .mul | .quo | .rem | .and | .or | .xor | .andNot => true
 | _ => false
def cmpOp : BinOp → Bool
 | .eql | .neq | .lss | .leq | .gtr | .geq => true
 | _ => false
def shOp : BinOp → Bool
 | .shl | .shr => true
 | _ => false
def divOp : BinOp → Bool
 | .quo | .rem => true
 | _ => false
def kindEq (a b : IntKind) : Bool := decide (a = b)
def intBin (op : BinOp) (k k' : IntKind) (a b : IA) (st : St) : R (SV × St) :=
 if shOp op then
  match a, b with
  | .lit m, .lit n => if decide (0 ≤ n) then .ok (litI k (ibin op k m n), st) else stop 5 st
  | a, b => mkI k (.bin op k a b) st
 else if !kindEq k k' then stop 6 st
 else if cmpOp op then
  match a, b with
  | .lit m, .lit n => .ok (litB (icmp op m n), st)
  | a, b => mkB (.cmp op a b) false st
 else if arithOp op then
  match a, b with
  | .lit m, .lit n => if divOp op && decide (n = 0) then stop 7 st else .ok (litI k (ibin op k m n), st)
  | a, b => mkI k (.bin op k a b) st
 else stop 8 st
def descOf (C : Ctx) (t : TypeId) : Option TypeDesc := (C.tys.get t).map (·.desc)
def aggDesc : TypeDesc → Bool
 | .struct _ | .array _ _ => true
 | _ => false
def partS (C : Ctx) (t : TypeId) (xs : List SC) (off : Nat) : Option SW :=
 match C.tys.get t with
 | none => none
 | some i =>
  if aggDesc i.desc then
   if Nat.ble (off + i.size) xs.length then some (.agg ((xs.drop off).take i.size)) else none
  else (xs[off]?).map SW.c
def intSC : SC → Bool
 | .lit (.int _ _) => true
 | .ivar _ _ => true
 | _ => false
def boolSC : SC → Bool
 | .lit (.bool _) => true
 | .bvar _ _ => true
 | _ => false
def strSC : SC → Bool
 | .lit (.string _) => true
 | .svar _ => true
 | _ => false
def fieldsEq (C : Ctx) (g : TypeId → SW → SW → Option (List (SC × SC))) : List (Nat × Nat) → List SC → List SC → Option (List (SC × SC))
 | [], _, _ => some []
 | f :: fs, xs, ys =>
  match partS C f.1 xs f.2, partS C f.1 ys f.2 with
  | some p, some q =>
   match g f.1 p q, fieldsEq C g fs xs ys with
   | some l, some m => some (l ++ m)
   | _, _ => none
  | _, _ => none
def elemsEq (C : Ctx) (g : TypeId → SW → SW → Option (List (SC × SC))) (e : TypeId) (size : Nat) (xs ys : List SC) : Nat → Nat → Option (List (SC × SC))
 | 0, _ => some []
 | n + 1, k =>
  match partS C e xs (k * size), partS C e ys (k * size) with
  | some p, some q =>
   match g e p q, elemsEq C g e size xs ys n (k + 1) with
   | some l, some m => some (l ++ m)
   | _, _ => none
  | _, _ => none
def eqPairs (C : Ctx) : Nat → TypeId → SW → SW → Option (List (SC × SC))
 | 0, _, _, _ => none
 | d + 1, t, x, y =>
  match C.tys.get t with
  | none => none
  | some i =>
   match i.desc, x, y with
   | .int _, .c a, .c b => if intSC a && intSC b then some [(a, b)] else none
   | .bool, .c a, .c b => if boolSC a && boolSC b then some [(a, b)] else none
   | .string, .c a, .c b => if strSC a && strSC b then some [(a, b)] else none
   | .struct _, .agg xs, .agg ys => if i.eqsafe then fieldsEq C (eqPairs C d) i.fs xs ys else none
   | .array n e, .agg xs, .agg ys =>
    match C.tys.get e with
    | none => none
    | some j => elemsEq C (eqPairs C d) e j.size xs ys n 0
   | _, _, _ => none
def natI (n : Nat) : Int := Int.ofNat n
inductive Leaf where
 | bad | same | unlike
 | ask (p : PE)
def sameIA : IA → IA → Bool
 | .var x, .var y => Nat.beq x y
 | _, _ => false
def leafOf (st : St) (p : SC × SC) : Leaf :=
 match p.1.ia st, p.2.ia st with
 | some (k, a), some (k', b) =>
  if !kindEq k k' then .bad else
  match a, b with
  | .lit m, .lit n => if m == n then .same else .unlike
  | .var x, .var y => if Nat.beq x y then .same else .ask (.ii (.var x) (.var y))
  | a, b => .ask (.ii a b)
 | _, _ =>
  match p.1.ba st, p.2.ba st with
  | some a, some b =>
   match a, b with
   | .lit m, .lit n => if m == n then .same else .unlike
   | .var x g, .var y h => if Nat.beq x y && g == h then .same else .ask (.bb (.var x g) (.var y h))
   | a, b => .ask (.bb a b)
  | _, _ =>
   match p.1.sa, p.2.sa with
   | some a, some b =>
    match a, b with
    | .lit m, .lit n => if m.data.toList == n.data.toList then .same else .unlike
    | .var x, .var y => if Nat.beq x y then .same else .ask (.ss (.var x) (.var y))
    | a, b => .ask (.ss a b)
   | _, _ => .bad
def leaves (st : St) : List (SC × SC) → Option (Option (List PE))
 | [] => some (some [])
 | p :: ps =>
  match leafOf st p, leaves st ps with
  | .bad, _ => none
  | _, none => none
  | .unlike, _ => some none
  | _, some none => some none
  | .same, some (some l) => some (some l)
  | .ask q, some (some l) => some (some (q :: l))
def topSafe (C : Ctx) (t : TypeId) : SW → Bool
 | .c _ => true
 | .agg _ =>
  match C.tys.get t with
  | some i => i.eqsafe
  | none => false
def eqS (C : Ctx) (neg : Bool) (t : TypeId) (x y : SW) (st : St) : R (SV × St) :=
 if !topSafe C t x then stop 9 st else
 match eqPairs C 100 t x y with
 | none => stop 10 st
 | some ps =>
  match leaves st ps with
  | none => stop 11 st
  | some none => .ok (litB neg, st)
  | some (some []) => .ok (litB (!neg), st)
  | some (some l) => mkB (.all l) neg st
def isNilSC : SC → Bool
 | .lit (.pointer none) => true
 | .lit (.slice none _ _) => true
 | .lit .nilIface => true
 | .lit .nilFunc => true
 | _ => false
def eqOp : BinOp → Bool
 | .eql | .neq => true
 | _ => false
def isNeq : BinOp → Bool
 | .neq => true
 | _ => false
def strBin (op : BinOp) (a b : SA) (st : St) : R (SV × St) :=
 match op with
 | .eql | .neq =>
  match a, b with
  | .lit m, .lit n => .ok (litB (xor (m.data.toList == n.data.toList) (isNeq op)), st)
  | a, b => mkB (.all [.ss a b]) (isNeq op) st
 | .add =>
  match a, b with
  | .lit m, .lit n => if Nat.ble (m.size + n.size) 1000000 then .ok (.w (.c (.lit (.string (m ++ n)))), st) else stop 12 st
  | a, b => mkS (.cat a b) st
 | _ => stop 14 st
def nilEq (C : Ctx) (op : BinOp) (t : TypeId) (a b : SC) (st : St) : R (SV × St) :=
 match descOf C t, a, b with
 | some (.pointer _), .ptr _ _, .lit (.pointer none) => .ok (litB (isNeq op), st)
 | some (.pointer _), .lit (.pointer none), .ptr _ _ => .ok (litB (isNeq op), st)
 | some (.pointer _), .lit (.pointer none), .lit (.pointer none) => .ok (litB (!isNeq op), st)
 | some (.slice _), .slc _ _ _ _, .lit (.slice none _ _) => .ok (litB (isNeq op), st)
 | some (.slice _), .lit (.slice none _ _), .lit (.slice none _ _) => .ok (litB (!isNeq op), st)
 | _, _, _ => stop 15 st
def binS (C : Ctx) (op : BinOp) (t : TypeId) (a b : SV) (st : St) : R (SV × St) :=
 match a, b with
 | .w (.c x), .w (.c y) =>
  match x.ia st, y.ia st with
  | some (k, p), some (k', q) => intBin op k k' p q st
  | _, _ =>
   match x.sa, y.sa with
   | some p, some q => strBin op p q st
   | _, _ =>
    match x.ba st, y.ba st with
    | some _, some _ =>
     if eqOp op then eqS C (isNeq op) t (.c x) (.c y) st else stop 16 st
    | _, _ => if eqOp op then nilEq C op t x y st else stop 17 st
 | .w (.agg xs), .w (.agg ys) => if eqOp op then eqS C (isNeq op) t (.agg xs) (.agg ys) st else stop 18 st
 | _, _ => stop 19 st
def unS (op : UnOp) (a : SV) (st : St) : R (SV × St) :=
 match op, a with
 | .not, .w (.c (.lit (.bool b))) => .ok (litB (!b), st)
 | .not, .w (.c (.bvar x neg)) => .ok (.w (.c (.bvar x (!neg))), st)
 | .neg, .w (.c x) =>
  match x.ia st with
  | some (k, p) => intBin .sub k k (.lit 0) p st
  | none => stop 20 st
 | .xor, .w (.c x) =>
  match x.ia st with
  | some (k, p) => intBin .xor k k (.lit (if k.signed then -1 else k.max)) p st
  | none => stop 21 st
 | _, _ => stop 22 st
def convS (C : Ctx) (src dst : TypeId) (a : SV) (st : St) : R (SV × St) :=
 match descOf C src, descOf C dst, a with
 | some (.int _), some (.int k), .w (.c x) =>
  match x.ia st with
  | some (_, .lit n) => .ok (litI k (k.wrap n), st)
  | some (_, p) => mkI k (.conv k p) st
  | none => stop 23 st
 | some .string, some .string, .w (.c (.lit (.string s))) => .ok (.w (.c (.lit (.string s))), st)
 | _, _, _ => stop 24 st
def SC.one : SC → Bool
 | .lit (.agg _) => false
 | .lit (.tuple _) => false
 | _ => true
def Blk.row (b : Blk) : Nat → Nat → Option (List SC)
 | _, 0 => some []
 | off, n + 1 =>
  match b.get off, b.row (off + 1) n with
  | some v, some l => some (v :: l)
  | _, _ => none
def Blk.puts : Blk → Nat → List SC → Option Blk
 | b, _, [] => some b
 | b, off, v :: vs => if Nat.blt off b.size && v.one then (b.put off v).puts (off + 1) vs else none
def newBlk (b : Blk) (st : St) : Nat × St := (st.nb, { st with nb := st.nb + 1, heap := st.heap.set st.nb b })
def setBlk (id : Nat) (b : Blk) (st : St) : St := { st with heap := st.heap.set id b, wr := id :: st.wr }
def zeroCells (C : Ctx) (t : TypeId) : Option (List SC) :=
 match C.tys.get t with
 | some i =>
  match i.zero with
  | some v => some (v.cells.toList.map SC.lit)
  | none => none
 | none => none
def boxS (t : TypeId) (xs : List SC) (st : St) : R (SV × St) :=
 let p := newBlk (Blk.ofList t xs) st
 .ok (.w (.c (.ptr p.1 0)), p.2)
def loadS (C : Ctx) (t : TypeId) (a : SV) (st : St) : R (SV × St) :=
 match a with
 | .w (.c (.ptr id off)) =>
  match st.heap.get id, C.tys.get t with
  | some b, some i =>
   if aggDesc i.desc then
    match b.row off i.size with
    | some l => .ok (.w (.agg l), st)
    | none => stop 30 st
   else
    match b.get off with
    | some v => .ok (.w (.c v), st)
    | none => stop 31 st
  | _, _ => stop 32 st
 | _ => stop 33 st
def storeS (C : Ctx) (t : TypeId) (a v : SV) (st : St) : R (SV × St) :=
 match a, v with
 | .w (.c (.ptr id off)), .w x =>
  match st.heap.get id, C.tys.get t with
  | some b, some i =>
   if Nat.beq x.cells.length i.size then
    match b.puts off x.cells with
    | some b' => .ok (sundef, setBlk id b' st)
    | none => stop 34 st
   else stop 35 st
  | _, _ => stop 36 st
 | _, _ => stop 37 st
def spliceL : List SC → Nat → List SC → List SC
 | base, off, l => base.take off ++ l ++ base.drop (off + l.length)
def goodW : SW → Bool
 | .c y => y.one
 | .agg _ => true
def fillS (place : Nat → Option (Nat × Nat)) : List SC → List (Nat × SV) → Option (List SC)
 | cells, [] => some cells
 | cells, (i, .w v) :: rest =>
  match place i with
  | none => none
  | some (off, size) =>
   if goodW v && Nat.beq v.cells.length size && Nat.ble (off + v.cells.length) cells.length then fillS place (spliceL cells off v.cells) rest else none
 | _, _ => none
def fieldPlaces (C : Ctx) : List (Nat × Nat) → Option (List (Nat × Nat))
 | [] => some []
 | f :: fs =>
  match C.tys.get f.1, fieldPlaces C fs with
  | some i, some l => some ((f.2, i.size) :: l)
  | _, _ => none
def buildS (C : Ctx) (t : TypeId) (parts : List (Nat × SV)) (st : St) : R (SV × St) :=
 match C.tys.get t, zeroCells C t with
 | some i, some z =>
  match i.desc with
  | .struct _ =>
   match fieldPlaces C i.fs with
   | some pl =>
    match fillS (fun k => pl[k]?) z parts with
    | some l => .ok (.w (.agg l), st)
    | none => stop 40 st
   | none => stop 41 st
  | .array _ e =>
   match C.tys.get e with
   | some j =>
    match fillS (fun k => some (k * j.size, j.size)) z parts with
    | some l => .ok (.w (.agg l), st)
    | none => stop 42 st
   | none => stop 43 st
  | _ => stop 44 st
 | _, _ => stop 45 st
def repL (l : List SC) : Nat → List SC
 | 0 => []
 | n + 1 => l ++ repL l n
def buildSliceS (C : Ctx) (t : TypeId) (len : Nat) (parts : List (Nat × SV)) (st : St) : R (SV × St) :=
 match descOf C t with
 | some (.slice e) =>
  match C.tys.get e, zeroCells C e with
  | some j, some z =>
   if Nat.beq z.length j.size && Nat.blt 0 j.size && Nat.ble (len * j.size) 65536 then
    match fillS (fun k => some (k * j.size, j.size)) (repL z len) parts with
    | some l =>
     let p := newBlk (Blk.ofList e l) st
     .ok (.w (.c (.slc p.1 0 len len)), p.2)
    | none => stop 46 st
   else stop 47 st
  | _, _ => stop 48 st
 | _ => stop 49 st
def makeSliceS (C : Ctx) (t : TypeId) (len cap : SV) (st : St) : R (SV × St) :=
 match descOf C t with
 | some (.slice e) =>
  match C.tys.get e, zeroCells C e with
  | some j, some [z] =>
   match getN len st with
   | .er c l p => .er c l p
   | .ok (.ofNat n, st) =>
    match getN cap st with
    | .er c l p => .er c l p
    | .ok (.ofNat m, st) =>
     if Nat.ble n m && Nat.ble m 1000000000 && Nat.ble (m * j.bytes) 140737488355328 && Nat.beq j.size 1 then
      let p := newBlk ⟨e, m, z, .e, false, none⟩ st
      .ok (.w (.c (.slc p.1 0 n m)), p.2)
     else stop 50 st
    | .ok (_, st) => stop 51 st
   | .ok (_, st) => stop 52 st
  | _, _ => stop 53 st
 | _ => stop 54 st
def fieldAddrS (C : Ctx) (t : TypeId) (a : SV) (f : Nat) (st : St) : R (SV × St) :=
 match C.tys.get t, a with
 | some i, .w (.c (.ptr b off)) =>
  match i.desc with
  | .struct _ =>
   match i.fs[f]? with
   | some (ft, fo) =>
    match C.tys.get ft with
    | some j => if Nat.beq j.size 0 then stop 60 st else .ok (.w (.c (.ptr b (off + fo))), st)
    | none => stop 61 st
   | none => stop 62 st
  | _ => stop 63 st
 | _, _ => stop 64 st
def fieldS (C : Ctx) (t : TypeId) (a : SV) (f : Nat) (st : St) : R (SV × St) :=
 match C.tys.get t, a with
 | some i, .w (.agg xs) =>
  match i.desc with
  | .struct _ =>
   match i.fs[f]? with
   | some (ft, fo) =>
    match partS C ft xs fo with
    | some w => .ok (.w w, st)
    | none => stop 65 st
   | none => stop 66 st
  | _ => stop 67 st
 | _, _ => stop 68 st
def indexAddrS (C : Ctx) (t : TypeId) (a i : SV) (st : St) : R (SV × St) :=
 match getN i st with
 | .er c l p => .er c l p
 | .ok (.ofNat n, st) =>
  match descOf C t, a with
  | some (.array len e), .w (.c (.ptr b off)) =>
   match C.tys.get e with
   | some j => if Nat.blt n len then .ok (.w (.c (.ptr b (off + n * j.size))), st) else stop 70 st
   | none => stop 71 st
  | some (.slice e), .w (.c (.slc b off len _)) =>
   match C.tys.get e with
   | some j => if Nat.blt n len then .ok (.w (.c (.ptr b (off + n * j.size))), st) else stop 72 st
   | none => stop 73 st
  | some (.slice e), .w (.c (.slu b len)) =>
   match C.tys.get e with
   | some j => if Nat.blt n len then .ok (.w (.c (.ptr b (0 + n * j.size))), st) else stop 72 st
   | none => stop 73 st
  | _, _ => stop 74 st
 | .ok (_, st) => stop 75 st
def satS (a i : SV) (st : St) : Option (SA × IA) :=
 match a, i with
 | .w (.c x), .w (.c y) =>
  match x.sa, y.ia st with
  | some s, some (_, .var v) => some (s, .var v)
  | some (.var s), some (_, .lit n) => some (.var s, .lit n)
  | _, _ => none
 | _, _ => none
def indexS0 (C : Ctx) (t : TypeId) (a i : SV) (st : St) : R (SV × St) :=
 match getN i st with
 | .er c l p => .er c l p
 | .ok (.ofNat n, st) =>
  match descOf C t, a with
  | some (.array len e), .w (.agg xs) =>
   match C.tys.get e with
   | some j =>
    if Nat.blt n len then
     match partS C e xs (n * j.size) with
     | some w => .ok (.w w, st)
     | none => stop 76 st
    else stop 77 st
   | none => stop 78 st
  | some .string, .w (.c (.lit (.string s))) =>
   match s[n]? with
   | some b => .ok (litI .u8 (b.toNat : Int), st)
   | none => stop 79 st
  | _, _ => stop 80 st
 | .ok (_, st) => stop 81 st
def indexS (C : Ctx) (t : TypeId) (a i : SV) (st : St) : R (SV × St) :=
 match descOf C t, satS a i st with
 | some .string, some (s, n) => mkI .u8 (.sat s n) st
 | _, _ => indexS0 C t a i st
def extractS (a : SV) (ix : Nat) (st : St) : R (SV × St) :=
 match a with
 | .tup xs =>
  match xs[ix]? with
  | some w => .ok (.w w, st)
  | none => stop 82 st
 | _ => stop 83 st
def boundS (x : Option SV) (dflt : Nat) (st : St) : R (Nat × St) :=
 match x with
 | none => .ok (dflt, st)
 | some v =>
  match getN v st with
  | .er c l p => .er c l p
  | .ok (.ofNat n, st) => .ok (n, st)
  | .ok (_, st) => stop 84 st
def boundsS (len cap : Nat) (lo hi mx : Option SV) (st : St) : R ((Nat × Nat × Nat) × St) :=
 match mx, hi with
 | some _, none => stop 85 st
 | _, _ =>
  match boundS mx cap st with
  | .er c l p => .er c l p
  | .ok (m, st) =>
   match boundS hi len st with
   | .er c l p => .er c l p
   | .ok (h, st) =>
    match boundS lo 0 st with
    | .er c l p => .er c l p
    | .ok (l, st) => if Nat.ble m cap && Nat.ble h m && Nat.ble l h then .ok ((l, h, m), st) else stop 86 st
def subS (a : SV) (lo hi mx : Option SV) (st : St) : Option (SA × IA × IA) :=
 match a, lo, hi, mx with
 | .w (.c x), some (.w (.c y)), some (.w (.c z)), none =>
  match x.sa, y.ia st, z.ia st with
  | some (.lit _), some (_, .lit _), some (_, .lit _) => none
  | some s, some (_, i), some (_, j) => some (s, i, j)
  | _, _, _ => none
 | _, _, _, _ => none
def sliceS0 (C : Ctx) (t : TypeId) (a : SV) (lo hi mx : Option SV) (st : St) : R (SV × St) :=
 match descOf C t, a with
 | some (.array n e), .w (.c (.ptr b off)) =>
  match C.tys.get e, boundsS n n lo hi mx st with
  | some j, .ok ((l, h, m), st) => .ok (.w (.c (.slc b (if Nat.beq m l then off else off + l * j.size) (h - l) (m - l))), st)
  | _, .er c l p => .er c l p
  | _, _ => stop 87 st
 | some (.slice e), .w (.c (.slc b off len cap)) =>
  match C.tys.get e, boundsS len cap lo hi mx st with
  | some j, .ok ((l, h, m), st) => .ok (.w (.c (.slc b (if Nat.beq m l then off else off + l * j.size) (h - l) (m - l))), st)
  | _, .er c l p => .er c l p
  | _, _ => stop 88 st
 | some .string, .w (.c (.lit (.string s))) =>
  match mx, boundsS s.size s.size lo hi none st with
  | none, .ok ((l, h, _), st) => .ok (.w (.c (.lit (.string (s.extract l h)))), st)
  | _, .er c l p => .er c l p
  | _, _ => stop 89 st
 | _, _ => stop 90 st
def sliceS (C : Ctx) (t : TypeId) (a : SV) (lo hi mx : Option SV) (st : St) : R (SV × St) :=
 match descOf C t, subS a lo hi mx st with
 | some .string, some (s, i, j) => mkS (.sub s i j) st
 | _, _ => sliceS0 C t a lo hi mx st
def iasU8 (st : St) : List SC → Option (List IA)
 | [] => some []
 | c :: cs =>
  match c.ia st, iasU8 st cs with
  | some (k, a), some l => if kindEq k .u8 then some (a :: l) else none
  | _, _ => none
def litsIA : List IA → Option (List UInt8)
 | [] => some []
 | .lit n :: l =>
  match litsIA l with
  | some m => if decide (0 ≤ n) && decide (n < 256) then some (UInt8.ofNat n.toNat :: m) else none
  | none => none
 | _ => none
def bytesS (C : Ctx) (s d : TypeId) (b off n : Nat) (st : St) : R (SV × St) :=
 match descOf C s, descOf C d with
 | some (.slice e), some .string =>
  match descOf C e, st.heap.get b with
  | some (.int .u8), some k =>
   match k.row off n with
   | some cells =>
    match iasU8 st cells with
    | some l =>
     match litsIA l with
     | some bs => .ok (.w (.c (.lit (.string ⟨bs.toArray⟩))), st)
     | none => mkS (.byt l) st
    | none => stop 210 st
   | none => stop 211 st
  | _, _ => stop 212 st
 | _, _ => stop 213 st
def lenS (C : Ctx) (t : TypeId) (a : SV) (st : St) : R (SV × St) :=
 match descOf C t, a with
 | some .string, .w (.c (.lit (.string s))) => .ok (litI .i64 (s.size : Int), st)
 | some .string, .w (.c (.svar x)) => mkI .i64 (.len (.var x)) st
 | some (.array n _), _ => .ok (litI .i64 (n : Int), st)
 | some (.slice _), .w (.c (.slc _ _ n _)) => .ok (litI .i64 (n : Int), st)
 | some (.slice _), .w (.c (.slu _ n)) => .ok (litI .i64 (n : Int), st)
 | some (.slice _), .w (.c (.lit (.slice _ n _))) => .ok (litI .i64 (n : Int), st)
 | _, _ => stop 91 st
def capS (C : Ctx) (t : TypeId) (a : SV) (st : St) : R (SV × St) :=
 match descOf C t, a with
 | some (.slice _), .w (.c (.slc _ _ _ n)) => .ok (litI .i64 (n : Int), st)
 | some (.slice _), .w (.c (.lit (.slice _ _ n))) => .ok (litI .i64 (n : Int), st)
 | _, _ => stop 92 st
def srcLen : SV → Option Nat
 | .w (.c (.slc _ _ n _)) => some n
 | .w (.c (.slu _ n)) => some n
 | .w (.c (.lit (.slice none n _))) => some n
 | .w (.c (.lit (.string s))) => some s.size
 | _ => none
def srcCells (size n : Nat) (a : SV) (st : St) : Option (List SC) :=
 match a with
 | .w (.c (.slc b off _ _)) =>
  match st.heap.get b with
  | some k => k.row off (n * size)
  | none => none
 | .w (.c (.slu b _)) =>
  match st.heap.get b with
  | some k => k.row 0 (n * size)
  | none => none
 | .w (.c (.lit (.slice none _ _))) => some []
 | .w (.c (.lit (.string s))) => some (((s.extract 0 n).data.toList).map fun b => SC.lit (.int .u8 (b.toNat : Int)))
 | _ => none
def copyS (C : Ctx) (t : TypeId) (dst src : SV) (st : St) : R (SV × St) :=
 match descOf C t, srcLen src with
 | some (.slice e), some sl =>
  match C.tys.get e, dst with
  | some j, .w (.c (.slc b off len _)) =>
   let n := Nat.min sl len
   match srcCells j.size n src st, st.heap.get b with
   | some cells, some k =>
    match k.puts off cells with
    | some k' => .ok (litI .i64 (n : Int), setBlk b k' st)
    | none => stop 93 st
   | _, _ => stop 94 st
  | _, _ => stop 95 st
 | _, _ => stop 96 st
def isIntD : TypeDesc → Bool
 | .int _ => true
 | _ => false
def appendS (C : Ctx) (t : TypeId) (t2 : Option TypeId) (s x : SV) (st : St) : R (SV × St) :=
 match descOf C t, srcLen x, (match t2 with | some u => descOf C u | none => some .invalid) with
 | some (.slice e), some n, some d2 =>
  if isIntD d2 then stop 97 st else
  match C.tys.get e, zeroCells C e with
  | some j, some _ =>
   match srcCells j.size n x st with
   | none => stop 98 st
   | some new =>
    match s with
    | .w (.c (.slc b off len cap)) =>
     if Nat.ble (len + n) cap then
      match st.heap.get b with
      | some k =>
       match k.puts (off + len * j.size) new with
       | some k' => .ok (.w (.c (.slc b off (len + n) cap)), setBlk b k' st)
       | none => stop 99 st
      | none => stop 100 st
     else
      match srcCells j.size len s st with
      | some old =>
       if Nat.ble (len + n) 1000000000 && Nat.ble (Builtin.nextslicecap (len + n) cap * j.bytes) 281474976710656 && Nat.blt 0 j.bytes then
        let p := newBlk { Blk.ofList e (old ++ new) with more := true } st
        .ok (.w (.c (.slu p.1 (len + n))), p.2)
       else stop 101 st
      | none => stop 102 st
    | .w (.c (.lit (.slice none 0 0))) =>
     if Nat.beq n 0 then .ok (s, st)
     else if Nat.ble n 1000000000 && Nat.ble (Builtin.nextslicecap n 0 * j.bytes) 281474976710656 && Nat.blt 0 j.bytes then
      let p := newBlk { Blk.ofList e new with more := true } st
      .ok (.w (.c (.slu p.1 n)), p.2)
     else stop 103 st
    | _ => stop 104 st
  | _, _ => stop 105 st
 | _, _, _ => stop 106 st
def mmS (mx : Bool) (x y : SV) (st : St) : R (SV × St) :=
 match x, y with
 | .w (.c a), .w (.c b) =>
  match a.ia st, b.ia st with
  | some (k, p), some (_, q) =>
   match p, q with
   | .lit m, .lit n => .ok (litI k (if mx then (if m < n then n else m) else (if n < m then n else m)), st)
   | p, q => mkI k (if mx then .mx p q else .mn p q) st
  | _, _ => stop 107 st
 | _, _ => stop 108 st
def builtinS (C : Ctx) (b : Builtin) (tys : List TypeId) (args : List SV) (st : St) : R (SV × St) :=
 match b, tys, args with
 | .len, t :: _, [a] => lenS C t a st
 | .cap, t :: _, [a] => capS C t a st
 | .copy, t :: _, [d, s] => copyS C t d s st
 | .append, [t], [s, x] => appendS C t none s x st
 | .append, [t, u], [s, x] => appendS C t (some u) s x st
 | .max, _, [x, y] => mmS true x y st
 | .min, _, [x, y] => mmS false x y st
 | _, _, _ => stop 110 st
def SC.data : SC → Bool
 | .lit _ | .ivar _ _ | .bvar _ _ | .svar _ => true
 | _ => false
def SW.data (x : SW) : Bool := x.cells.all SC.data
def basicD : TypeDesc → Bool
 | .int _ | .bool | .string => true
 | _ => false
def basicT (C : Ctx) (t : TypeId) : Bool :=
 match C.tys.get t with
 | some i => basicD i.desc
 | none => false
def keyOk (C : Ctx) (t : TypeId) (xs : List SC) : Bool :=
 match C.tys.get t with
 | some i =>
  match i.desc with
  | .struct _ => i.fs.all fun f => basicT C f.1 && (partS C f.1 xs f.2).isSome
  | _ => false
 | none => false
def findMap (C : Ctx) (kt : TypeId) (key : SW) : List (SW × SW) → St → R (Option SW × St)
 | [], st => .ok (none, st)
 | e :: es, st =>
  match eqPairs C 100 kt key e.1 with
  | none => stop 190 st
  | some ps =>
   match leaves st ps with
   | none => stop 191 st
   | some none => findMap C kt key es st
   | some (some []) => .ok (some e.2, st)
   | some (some l) =>
    match mkB (.all l) false st with
    | .er c l p => .er c l p
    | .ok (v, st) =>
     match getB v st with
     | .er c l p => .er c l p
     | .ok (true, st) => .ok (some e.2, st)
     | .ok (false, st) => findMap C kt key es st
def allData (es : List (SW × SW)) : Bool := es.all fun e => e.1.data && e.2.data
def makeMapS (st : St) : R (SV × St) :=
 let p := newBlk ⟨0, 0, .lit (.tuple #[]), .e, false, some []⟩ st
 .ok (.w (.c (.mp p.1)), p.2)
def lookupS (C : Ctx) (t : TypeId) (x key : SV) (ok : Bool) (st : St) : R (SV × St) :=
 match descOf C t, x, key with
 | some (.map kt et), .w (.c (.mp b)), .w (.agg ks) =>
  match st.heap.get b, C.tys.get et with
  | some k, some j =>
   match k.mp, j.zero with
   | some es, some z =>
    if keyOk C kt ks && allData es then
     match findMap C kt (.agg ks) es st with
     | .ok (some v, st) => .ok (if ok then .tup [v, .c (.lit (.bool true))] else .w v, st)
     | .ok (none, st) => .ok (if ok then .tup [.c (.lit z), .c (.lit (.bool false))] else .w (.c (.lit z)), st)
     | .er c l p => .er c l p
    else stop 192 st
   | _, _ => stop 193 st
  | _, _ => stop 194 st
 | _, _, _ => stop 195 st
def mapUpdS (C : Ctx) (t : TypeId) (x key v : SV) (st : St) : R (SV × St) :=
 match descOf C t, x, key, v with
 | some (.map kt _), .w (.c (.mp b)), .w (.agg ks), .w vx =>
  match st.heap.get b with
  | some k =>
   match k.mp with
   | some es =>
    if keyOk C kt ks && allData es && (SW.agg ks).data && vx.data && Nat.beq k.size 0 then
     match findMap C kt (.agg ks) es st with
     | .ok (none, st) => .ok (sundef, setBlk b { k with mp := some (es ++ [(.agg ks, vx)]) } st)
     | .ok (some _, st) => stop 196 st
     | .er c l p => .er c l p
    else stop 197 st
   | none => stop 198 st
  | none => stop 199 st
 | _, _, _, _ => stop 200 st
end Go.Sx
namespace Go.Sx
abbrev CallF := Nat → List SW → St → R (SV × St)
def argsW : List SV → Option (List SW)
 | [] => some []
 | .w x :: xs =>
  match argsW xs with
  | some l => some (x :: l)
  | none => none
 | _ => none
def callS (call : CallF) (f : SV) (args : List SV) (st : St) : R (SV × St) :=
 match argsW args with
 | none => stop 120 st
 | some ws =>
  match f with
  | .w (.c (.lit (.func (.func g) fs cs))) =>
   match fs.toList, cs.toList with
   | [], [] => call g ws st
   | _, _ => stop 121 st
  | .w (.c (.clo g caps)) => call g (ws ++ caps.map fun p => SW.c (.ptr p.1 p.2)) st
  | _ => stop 122 st
def capsOf : List SV → Option (List (Nat × Nat))
 | [] => some []
 | .w (.c (.ptr b o)) :: xs =>
  match capsOf xs with
  | some l => some ((b, o) :: l)
  | none => none
 | _ => none
def op1 (C : Ctx) (call : CallF) (fr : Fr) (o : Oper) (st : St) : R (SV × St) :=
 match o.op with
 | .move x | .assign x => .ok (fr.eval x, st)
 | .pick c a b =>
  match getB (fr.eval c) st with
  | .ok (true, st) => .ok (fr.eval a, st)
  | .ok (false, st) => .ok (fr.eval b, st)
  | .er c l p => .er c l p
 | .alloc t =>
  match zeroCells C t with
  | some z => boxS t z st
  | none => stop 130 st
 | .box t x =>
  match fr.eval x with
  | .w w => if goodW w then boxS t w.cells st else stop 137 st
  | _ => stop 131 st
 | .build t ps => buildS C t (ps.toList.map fun p => (p.1, fr.eval p.2)) st
 | .buildSlice t n ps => buildSliceS C t n (ps.toList.map fun p => (p.1, fr.eval p.2)) st
 | .load t a => loadS C t (fr.eval a) st
 | .store t a v =>
  match o.dst with
  | none => storeS C t (fr.eval a) (fr.eval v) st
  | some _ => stop 132 st
 | .nilCheck x =>
  match fr.eval x with
  | .w (.c (.ptr b f)) => .ok (.w (.c (.ptr b f)), st)
  | _ => stop 133 st
 | .binOp op t x y _ => binS C op t (fr.eval x) (fr.eval y) st
 | .unOp op _ x => unS op (fr.eval x) st
 | .convert s d x =>
  match fr.eval x with
  | .w (.c (.slc b off n _)) => bytesS C s d b off n st
  | v => convS C s d v st
 | .makeFunc (.func f) fs cs =>
  match fs.toList, capsOf (cs.toList.map fr.eval) with
  | [], some l => .ok (.w (.c (.clo f l)), st)
  | _, _ => stop 134 st
 | .makeSlice t l c => makeSliceS C t (fr.eval l) (fr.eval c) st
 | .slice t x lo hi mx => sliceS C t (fr.eval x) (lo.map fr.eval) (hi.map fr.eval) (mx.map fr.eval) st
 | .fieldAddr t x f => fieldAddrS C t (fr.eval x) f st
 | .field t x f => fieldS C t (fr.eval x) f st
 | .indexAddr t x i => indexAddrS C t (fr.eval x) (fr.eval i) st
 | .index t x i => indexS C t (fr.eval x) (fr.eval i) st
 | .extract x i => extractS (fr.eval x) i st
 | .makeMap _ none => makeMapS st
 | .lookup t x i ok => lookupS C t (fr.eval x) (fr.eval i) ok st
 | .mapUpdate t m k v =>
  match o.dst with
  | none => mapUpdS C t (fr.eval m) (fr.eval k) (fr.eval v) st
  | some _ => stop 201 st
 | .call c =>
  match c.callee with
  | .builtin b => builtinS C b c.argTypes.toList (c.args.toList.map fr.eval) st
  | .value f => callS call (fr.eval f) (c.args.toList.map fr.eval) st
  | .invoke _ _ => stop 135 st
 | _ => stop 136 st
def wantedS (ops : List Oper) (fr : Fr) (o : Oper) (st : St) : R (Bool × St) :=
 match o.guard with
 | none => .ok (true, st)
 | some (j, want) =>
  match ops[j]? with
  | some p =>
   match p.dst with
   | some d =>
    match fr.get d with
    | .tup [] => .ok (false, st)
    | v =>
     match getB v st with
     | .ok (b, st) => .ok (b == want, st)
     | .er c l p => .er c l p
   | none => stop 140 st
  | none => stop 141 st
def seqRun (C : Ctx) (call : CallF) (ops : List Oper) : List Oper → Fr → St → R (Fr × St)
 | [], fr, st => .ok (fr, st)
 | o :: rest, fr, st =>
  match wantedS ops fr o st with
  | .er c l p => .er c l p
  | .ok (false, st) => seqRun C call ops rest (fr.put o.dst sundef) st
  | .ok (true, st) =>
   match op1 C call fr o st with
   | .er c l p => .er c l (if p = "" then o.pos else p)
   | .ok (v, st) => seqRun C call ops rest (fr.put o.dst v) st
def bindsE (e : Edge) : Bool :=
 match e.ground with
 | .textOnly _ => false
 | .gcOnly _ => false
 | _ => true
def maskOf (ms : List Nat) : List Edge → Nat → Nat
 | [], m => m
 | e :: es, m => if bindsE e then maskOf ms es (m ||| 2 ^ e.on ||| ms.getD e.on 0) else maskOf ms es m
def masksOf : List Oper → List Nat → List Nat
 | [], ms => ms
 | o :: os, ms => masksOf os (ms ++ [maskOf ms o.after.toList 0])
def backEdges : List Oper → Nat → Bool
 | [], _ => true
 | o :: os, i => o.after.toList.all (fun e => !bindsE e || Nat.blt e.on i) && backEdges os (i + 1)
def apartRow (ops : Array Oper) (oi : Oper) (mask : Nat) : List Oper → Nat → Bool
 | [], _ => true
 | oj :: os, j => (Nat.testBit mask j || oj.apart ops oi) && apartRow ops oi mask os (j + 1)
def apartAll (ops : Array Oper) (l : List Oper) (ms : List Nat) : List Oper → Nat → Bool
 | [], _ => true
 | oi :: os, i => apartRow ops oi (ms.getD i 0) (l.take i) 0 && apartAll ops l ms os (i + 1)
def notSelect (o : Oper) : Bool :=
 match o.op with
 | .select _ _ => false
 | _ => true
def drawStat (ops : Array Oper) (l : List Oper) (ms : List Nat) : Bool :=
 backEdges l 0 && l.all notSelect && apartAll ops l ms l 0
def memless (o : Op) : Bool :=
 match o with
 | .move _ | .assign _ | .pick _ _ _ | .build _ _ | .nilCheck _ | .binOp _ _ _ _ _ | .unOp _ _ _ | .makeFunc _ _ _
 | .slice _ _ _ _ _ | .fieldAddr _ _ _ | .field _ _ _ | .indexAddr _ _ _ | .index _ _ _ | .extract _ _ => true
 | _ => false
structure Rec where
 idx : Nat
 blind : Bool
 hidden : List Nat
 touched : List Nat
 o : Oper
 on : Bool
 v : SV
 fr : Fr
 st : St
 vis : Tr Blk
 st1 : St
def delAll (h : Tr Blk) : List Nat → Tr Blk
 | [] => h
 | i :: is => delAll (h.del i) is
def newIds : Nat → Nat → List Nat
 | _, 0 => []
 | a, n + 1 => a :: newIds (a + 1) n
def oldOnes (nb : Nat) : List Nat → List Nat
 | [] => []
 | i :: is => if Nat.blt i nb then i :: oldOnes nb is else oldOnes nb is
def elemN (i : Nat) : List Nat → Bool
 | [] => false
 | j :: l => Nat.beq i j || elemN i l
def touchedBy (mask : Nat) : List Rec → List Nat
 | [] => []
 | r :: rs => if Nat.testBit mask r.idx then touchedBy mask rs else r.touched ++ touchedBy mask rs
def writesOk (mask : Nat) (wr : List Nat) : List Rec → Bool
 | [] => true
 | r :: rs => (Nat.testBit mask r.idx || r.blind || wr.all (fun id => elemN id r.hidden)) && writesOk mask wr rs
def laid (from_ to : Tr Blk) : List Nat → Tr Blk
 | [] => to
 | i :: is => laid from_ (Tr.upd (from_.get i) (i + 1) to i) is
structure DrawOut where
 fr : Fr
 st : St
 recs : List Rec
 wrs : List (List Nat)
 good : Bool
def drawRun (C : Ctx) (call : CallF) (ops : List Oper) (ms : List Nat) (hints : List (List Nat)) :
  List Oper → Nat → Fr → St → List Rec → List (List Nat) → Bool → R DrawOut
 | [], _, fr, st, recs, wrs, good => .ok ⟨fr, st, recs, wrs, good⟩
 | o :: rest, i, fr, st, recs, wrs, good =>
  match wantedS ops fr o st with
  | .er c l p => .er c l p
  | .ok (false, st) => drawRun C call ops ms hints rest (i + 1) (fr.put o.dst sundef) st (⟨i, true, [], [], o, false, sundef, fr, st, .e, st⟩ :: recs) ([] :: wrs) good
  | .ok (true, st) =>
   if memless o.op then
    match op1 C call fr o { st with heap := .e, wr := [] } with
    | .er c l p => .er c l (if p = "" then o.pos else p)
    | .ok (v, st1) =>
     if Nat.beq st1.nb st.nb then
      drawRun C call ops ms hints rest (i + 1) (fr.put o.dst v) { st1 with heap := st.heap, wr := st.wr } (⟨i, true, [], [], o, true, v, fr, st, .e, st1⟩ :: recs) ([] :: wrs) good
     else stop 150 st
   else
    let mask := ms.getD i 0
    let hidden := touchedBy mask recs ++ hints.getD i []
    match op1 C call fr o { st with heap := delAll st.heap hidden, wr := [] } with
    | .er c l p => .er c l (if p = "" then o.pos else p)
    | .ok (v, st1) =>
     let touched := newIds st.nb (st1.nb - st.nb) ++ oldOnes st.nb st1.wr
     drawRun C call ops ms hints rest (i + 1) (fr.put o.dst v) { st1 with heap := laid st1.heap st.heap touched, wr := st1.wr ++ st.wr }
      (⟨i, false, hidden, touched, o, true, v, fr, st, delAll st.heap hidden, st1⟩ :: recs) (st1.wr :: wrs) (good && writesOk mask st1.wr recs)
def hintFor (ms : List Nat) (i : Nat) : List (List Nat) → Nat → List Nat
 | [], _ => []
 | w :: ws, j => if Nat.blt i j && !Nat.testBit (ms.getD j 0) i then w ++ hintFor ms i ws (j + 1) else hintFor ms i ws (j + 1)
def hintsFrom (ms : List Nat) (wrs : List (List Nat)) : Nat → Nat → List (List Nat)
 | _, 0 => []
 | i, n + 1 => hintFor ms i wrs 0 :: hintsFrom ms wrs (i + 1) n
def drawReg (C : Ctx) (call : CallF) (ops : Array Oper) (fr : Fr) (st : St) : R (Fr × St) :=
 let l := ops.toList
 let ms := masksOf l []
 if drawStat ops l ms then
  match drawRun C call l ms [] l 0 fr st [] [] true with
  | .er c l p => .er c l p
  | .ok d =>
   if d.good then .ok (d.fr, d.st)
   else
    match drawRun C call l ms (hintsFrom ms d.wrs.reverse 0 l.length) l 0 fr st [] [] true with
    | .er c l p => .er c l p
    | .ok d => if d.good then .ok (d.fr, d.st) else stop 151 st
 else stop 152 st
inductive Ex where
 | normal | ret
 | exit (id : Nat)
def iterS (f : Fr → St → R (Ex × Fr × St)) : Nat → Fr → St → R (Ex × Fr × St)
 | 0, _, st => stop 160 st
 | n + 1, fr, st =>
  match f fr st with
  | .er c l p => .er c l p
  | .ok (.normal, fr, st) => iterS f n fr st
  | .ok (e, fr, st) => .ok (e, fr, st)
def code (C : Ctx) (call : CallF) (lf : Nat) : Code → Fr → St → R (Ex × Fr × St)
 | .skip, fr, st => .ok (.normal, fr, st)
 | .region _ ops true, fr, st =>
  match drawReg C call ops fr st with
  | .er c l p => .er c l p
  | .ok (fr, st) => .ok (.normal, fr, st)
 | .region _ ops false, fr, st =>
  match seqRun C call ops.toList ops.toList fr st with
  | .er c l p => .er c l p
  | .ok (fr, st) => .ok (.normal, fr, st)
 | .seq a b, fr, st =>
  match code C call lf a fr st with
  | .er c l p => .er c l p
  | .ok (.normal, fr, st) => code C call lf b fr st
  | .ok (e, fr, st) => .ok (e, fr, st)
 | .cond c a b, fr, st =>
  match getB (fr.eval c) st with
  | .er c l p => .er c l p
  | .ok (true, st) => code C call lf a fr st
  | .ok (false, st) => code C call lf b fr st
 | .block id a, fr, st =>
  match code C call lf a fr st with
  | .er c l p => .er c l p
  | .ok (.exit i, fr, st) => if Nat.beq i id then .ok (.normal, fr, st) else .ok (.exit i, fr, st)
  | .ok (e, fr, st) => .ok (e, fr, st)
 | .loop a, fr, st => iterS (code C call lf a) lf fr st
 | .exit id, fr, st => .ok (.exit id, fr, st)
 | .ret, fr, st => .ok (.ret, fr, st)
 | .label _, fr, st => .ok (.normal, fr, st)
 | _, _, st => stop 161 st
def resOf (C : Ctx) (fr : Fr) (st : St) : List ResultVar → Option (List SW)
 | [] => some []
 | .tmp t :: rs =>
  match fr.get t, resOf C fr st rs with
  | .w x, some l => some (x :: l)
  | _, _ => none
 | .cell a t :: rs =>
  match loadS C t (fr.get a) st, resOf C fr st rs with
  | .ok (.w x, _), some l => some (x :: l)
  | _, _ => none
def resVal : List SW → SV
 | [x] => .w x
 | xs => .tup xs
def sumCells : Nat → List RK → List SC
 | _, [] => []
 | x, .ri k :: ks => .ivar k x :: sumCells (x + 1) ks
 | x, .rb :: ks => .bvar x false :: sumCells (x + 1) ks
 | x, .rs :: ks => .svar x :: sumCells (x + 1) ks
 | x, .rl v :: ks => .lit v :: sumCells (x + 1) ks
def shaped : List (Bool × Nat) → List SC → Option (List SW)
 | [], [] => some []
 | [], _ => none
 | (true, n) :: sh, xs =>
  match shaped sh (xs.drop n) with
  | some l => if Nat.ble n xs.length then some (.agg (xs.take n) :: l) else none
  | none => none
 | (false, _) :: sh, x :: xs =>
  match shaped sh xs with
  | some l => some (.c x :: l)
  | none => none
 | _, _ => none
def sumVal (s : Sum) (l : List SW) : Option SV :=
 if s.tup then some (.tup l)
 else
  match l with
  | [x] => some (.w x)
  | _ => none
def kindSC : RK → SC → Bool
 | .ri k, .lit (.int k' n) => kindEq k k' && decide (k.min ≤ n) && decide (n ≤ k.max)
 | .ri k, .ivar k' _ => kindEq k k'
 | .rb, .lit (.bool _) => true
 | .rb, .bvar _ _ => true
 | .rs, .lit (.string _) => true
 | .rs, .svar _ => true
 | _, _ => false
def kindsSC : List RK → List SC → Bool
 | [], [] => true
 | k :: ks, c :: cs => kindSC k c && kindsSC ks cs
 | _, _ => false
def argsFit : List (Bool × List RK) → List SW → Bool
 | [], [] => true
 | (false, [k]) :: l, .c x :: ws => kindSC k x && argsFit l ws
 | (true, ks) :: l, .agg xs :: ws => kindsSC ks xs && argsFit l ws
 | _, _ => false
def sumRun0 (s : Sum) (f : Nat) (args : List SW) (st : St) : R (SV × St) :=
 let cells := (args.flatMap SW.cells)
 if argsFit s.args args then
  match shaped s.shape (sumCells st.nx s.ks) with
  | some l =>
   match sumVal s l with
   | some v => .ok (v, { st with nx := st.nx + s.ks.length, log := .call f cells st.nx s.ks :: st.log })
   | none => stop 170 st
  | none => stop 171 st
 else stop 172 st
def concS (v : SV) (st : St) : R (SV × St) :=
 match v with
 | .w (.c (.ivar k x)) =>
  match getN (.w (.c (.ivar k x))) st with
  | .ok (n, st) => .ok (litI k n, st)
  | .er c l p => .er c l p
 | _ => stop 173 st
def sumRun (s : Sum) (f : Nat) (args : List SW) (st : St) : R (SV × St) :=
 match sumRun0 s f args st with
 | .ok (v, st1) => if s.conc then concS v st1 else .ok (v, st1)
 | .er c l p => .er c l p
def argsV : List SW → List SV
 | [] => []
 | x :: xs => .w x :: argsV xs
def fnRun (C : Ctx) (lf : Nat) : Nat → CallF
 | 0, _, _, st => stop 180 st
 | d + 1, f, args, st =>
  match C.sums.get f with
  | some s => sumRun s f args st
  | none =>
   match C.fns.get f with
   | none => stop 181 st
   | some fn =>
    match fn.body with
    | none => stop 182 st
    | some c =>
     match code C (fnRun C lf d) lf c ⟨Nat.max fn.ntmps args.length, Tr.setAll .e 0 (argsV args)⟩ st with
     | .er c l p => .er c l p
     | .ok (.exit _, _, st) => stop 183 st
     | .ok (_, fr, st) =>
      match resOf C fr st fn.results.toList with
      | some l => .ok (resVal l, st)
      | none => stop 184 st
def st0 (ds : List D) (nx : Nat) : St := ⟨ds, nx, [], .e, .e, 0, .e, []⟩
end Go.Sx
namespace Go.Sx
set_option linter.unusedSectionVars false
set_option linter.unusedSimpArgs false
set_option linter.unusedVariables false
theorem Tr.get_e {α : Type} (k : Nat) : (Tr.e : Tr α).get k = none := by cases k <;> rfl
theorem beq_mod_even {k : Nat} : Nat.beq (k % 2) 0 = true ↔ k % 2 = 0 := by simp [Nat.beq_eq]
theorem half_ne {j k : Nat} (h : j ≠ k) (hm : j % 2 = k % 2) : j / 2 ≠ k / 2 := by omega
theorem Tr.get_upd {α : Type} (v : Option α) : ∀ (f : Nat) (t : Tr α) (k j : Nat), k < f → (Tr.upd v f t k).get j = if j = k then v else t.get j := by
 intro f
 induction f with
 | zero => intro t k j h; omega
 | succ f ih =>
  intro t k j h
  cases t with
  | e =>
   cases k with
   | zero =>
    cases j with
    | zero => simp [Tr.upd, Tr.get]
    | succ j => simp only [Tr.upd, Tr.get]; split <;> simp [Tr.get_e]
   | succ k =>
    have hk : k / 2 < f := by omega
    simp only [Tr.upd]
    split
    ·rename_i hb
     rw [beq_mod_even] at hb
     cases j with
     | zero => simp [Tr.get]
     | succ j =>
      simp only [Tr.get]
      split
      ·rename_i hj
       rw [beq_mod_even] at hj
       rw [ih _ _ _ hk]
       simp only [Tr.get_e]
       by_cases he : j = k
       ·subst he; simp
       ·have := half_ne he (by omega); simp [he, this]
      ·rename_i hj
       simp only [beq_mod_even] at hj
       rw [if_neg (by omega)]
       try simp [Tr.get_e]
    ·rename_i hb
     simp only [beq_mod_even] at hb
     cases j with
     | zero => simp [Tr.get]
     | succ j =>
      simp only [Tr.get]
      split
      ·rename_i hj
       rw [beq_mod_even] at hj
       rw [if_neg (by omega)]
       try simp [Tr.get_e]
      ·rename_i hj
       simp only [beq_mod_even] at hj
       rw [ih _ _ _ hk]
       simp only [Tr.get_e]
       by_cases he : j = k
       ·subst he; simp
       ·have := half_ne he (by omega); simp [he, this]
  | n l x r =>
   cases k with
   | zero =>
    cases j with
    | zero => simp [Tr.upd, Tr.get]
    | succ j => simp [Tr.upd, Tr.get]
   | succ k =>
    have hk : k / 2 < f := by omega
    simp only [Tr.upd]
    split
    ·rename_i hb
     rw [beq_mod_even] at hb
     cases j with
     | zero => simp [Tr.get]
     | succ j =>
      simp only [Tr.get]
      split
      ·rename_i hj
       rw [beq_mod_even] at hj
       rw [ih _ _ _ hk]
       by_cases he : j = k
       ·subst he; simp
       ·have := half_ne he (by omega); simp [he, this]
      ·rename_i hj
       simp only [beq_mod_even] at hj
       rw [if_neg (by omega)]
    ·rename_i hb
     simp only [beq_mod_even] at hb
     cases j with
     | zero => simp [Tr.get]
     | succ j =>
      simp only [Tr.get]
      split
      ·rename_i hj
       rw [beq_mod_even] at hj
       rw [if_neg (by omega)]
      ·rename_i hj
       simp only [beq_mod_even] at hj
       rw [ih _ _ _ hk]
       by_cases he : j = k
       ·subst he; simp
       ·have := half_ne he (by omega); simp [he, this]
theorem Tr.get_set {α : Type} (t : Tr α) (k : Nat) (v : α) (j : Nat) : (t.set k v).get j = if j = k then some v else t.get j :=
 Tr.get_upd _ _ _ _ _ (Nat.lt_succ_self k)
theorem Tr.get_del {α : Type} (t : Tr α) (k : Nat) (j : Nat) : (t.del k).get j = if j = k then none else t.get j :=
 Tr.get_upd _ _ _ _ _ (Nat.lt_succ_self k)
theorem Tr.get_setAll {α : Type} : ∀ (l : List α) (t : Tr α) (k j : Nat),
  (Tr.setAll t k l).get j = if k ≤ j ∧ j < k + l.length then l[j - k]? else t.get j := by
 intro l
 induction l with
 | nil => intro t k j; simp [Tr.setAll]; omega
 | cons x xs ih =>
  intro t k j
  simp only [Tr.setAll, ih, Tr.get_set]
  by_cases h1 : j = k
  ·subst h1
   rw [if_neg (by omega), if_pos (by simp)]
   simp
  ·by_cases h2 : k + 1 ≤ j ∧ j < k + 1 + xs.length
   ·rw [if_pos h2, if_pos (by simp; omega)]
    have : j - k = (j - (k + 1)) + 1 := by omega
    rw [this]; simp
   ·rw [if_neg h2, if_neg h1, if_neg (by simp only [List.length_cons]; omega)]
def SC.on (A : Nat → Prop) : SC → Prop
 | .ptr b _ => A b
 | .slc b _ _ _ => A b
 | .slu b _ => A b
 | .clo _ caps => ∀ p ∈ caps, A p.1
 | .mp b => A b
 | _ => True
def SW.on (A : Nat → Prop) (x : SW) : Prop := ∀ c ∈ x.cells, c.on A
def SV.on (A : Nat → Prop) : SV → Prop
 | .w x => x.on A
 | .tup xs => ∀ x ∈ xs, x.on A
theorem SC.on_mono {A B : Nat → Prop} (h : ∀ i, A i → B i) {c : SC} (hc : c.on A) : c.on B := by
 cases c <;> simp only [SC.on] at * <;> first | exact h _ hc | (intro p hp; exact h _ (hc p hp))
theorem SW.on_mono {A B : Nat → Prop} (h : ∀ i, A i → B i) {x : SW} (hc : x.on A) : x.on B := fun c m => SC.on_mono h (hc c m)
theorem SV.on_mono {A B : Nat → Prop} (h : ∀ i, A i → B i) {x : SV} (hc : x.on A) : x.on B := by
 cases x with
 | w x => exact SW.on_mono h hc
 | tup xs => exact fun x m => SW.on_mono h (hc x m)
def Loc.alike (A : Nat → Prop) (ι ι' : Loc) : Prop := ∀ i, A i → ι'.blk i = ι.blk i ∧ ι'.cap i = ι.cap i
theorem Loc.alike.refl (A : Nat → Prop) (ι : Loc) : Loc.alike A ι ι := fun _ _ => ⟨rfl, rfl⟩
theorem Loc.alike.symm {A : Nat → Prop} {ι ι' : Loc} (h : Loc.alike A ι ι') : Loc.alike A ι' ι := fun i hi => ⟨(h i hi).1.symm, (h i hi).2.symm⟩
theorem SC.den_alike {A : Nat → Prop} {ι ι' : Loc} (h : Loc.alike A ι ι') (ρ : Env) {c : SC} (hc : c.on A) : c.den ρ ι' = c.den ρ ι := by
 cases c with
 | lit v => rfl
 | ivar k x => rfl
 | bvar x g => rfl
 | svar x => rfl
 | ptr b o => simp only [SC.den, (h b hc).1]
 | slc b o l c => simp only [SC.den, (h b hc).1]
 | slu b l => simp only [SC.den, (h b hc).1, (h b hc).2]
 | clo f caps =>
  simp only [SC.den]
  congr 2
  exact List.map_congr_left fun p hp => by rw [(h p.1 (hc p hp)).1]
 | mp b => simp only [SC.den, (h b hc).1]
theorem SW.den_alike {A : Nat → Prop} {ι ι' : Loc} (h : Loc.alike A ι ι') (ρ : Env) {x : SW} (hc : x.on A) : x.den ρ ι' = x.den ρ ι := by
 cases x with
 | c c => exact SC.den_alike h ρ (hc c (by simp [SW.cells]))
 | agg xs =>
  simp only [SW.den]
  congr 2
  exact List.map_congr_left fun p hp => SC.den_alike h ρ (hc p (by simpa [SW.cells] using hp))
theorem SV.den_alike {A : Nat → Prop} {ι ι' : Loc} (h : Loc.alike A ι ι') (ρ : Env) {x : SV} (hc : x.on A) : x.den ρ ι' = x.den ρ ι := by
 cases x with
 | w x => exact SW.den_alike h ρ hc
 | tup xs =>
  simp only [SV.den]
  congr 2
  exact List.map_congr_left fun p hp => SW.den_alike h ρ (hc p hp)
def Blk.cells (ρ : Env) (ι : Loc) (b : Blk) : List Value := (List.range b.size).map fun i => (b.at i).den ρ ι
theorem SC.data_den {c : SC} (h : c.data = true) (ρ : Env) (ι ι' : Loc) : c.den ρ ι = c.den ρ ι' := by
 cases c <;> first | rfl | (simp [SC.data] at h)
theorem SW.data_den {x : SW} (h : x.data = true) (ρ : Env) (ι ι' : Loc) : x.den ρ ι = x.den ρ ι' := by
 cases x with
 | c c => exact SC.data_den (by simpa [SW.data, SW.cells] using h) ρ ι ι'
 | agg xs =>
  simp only [SW.den]
  congr 2
  exact List.map_congr_left fun p hp => SC.data_den (by
   simp only [SW.data, SW.cells, List.all_eq_true] at h
   exact h p hp) ρ ι ι'
theorem SC.data_on {c : SC} (h : c.data = true) (A : Nat → Prop) : c.on A := by
 cases c <;> first | trivial | (simp [SC.data] at h)
theorem SW.data_on {x : SW} (h : x.data = true) (A : Nat → Prop) : x.on A := fun c hc => by
 simp only [SW.data, List.all_eq_true] at h
 exact SC.data_on (h c hc) A
def entFrom (ρ : Env) : Nat → List (SW × SW) → List MapEntry
 | _, [] => []
 | i, e :: es => ⟨e.1.den ρ noloc, e.2.den ρ noloc, i⟩ :: entFrom ρ (i + 1) es
def BlkAt (ρ : Env) (ι : Loc) (b : Blk) (o : Option Obj) : Prop :=
 (b.mp = none ∧ ∃ rest : List Value, o = some (.cells (b.cells ρ ι ++ rest).toArray b.elem (0, 0)) ∧ (b.more = false → rest = [])) ∨
 (b.size = 0 ∧ ∃ es, b.mp = some es ∧ (∀ e ∈ es, e.1.data = true ∧ e.2.data = true) ∧ o = some (.map (entFrom ρ 0 es).toArray es.length))
def Blk.fine (b : Blk) : Prop := b.mp = none ∨ (b.size = 0 ∧ ∃ es, b.mp = some es ∧ ∀ e ∈ es, e.1.data = true ∧ e.2.data = true)
theorem BlkAt.fine {ρ : Env} {ι : Loc} {b : Blk} {o : Option Obj} (h : BlkAt ρ ι b o) : b.fine := by
 rcases h with ⟨h, _⟩ | ⟨h1, es, h2, h3, _⟩
 ·exact .inl h
 ·exact .inr ⟨h1, es, h2, h3⟩
theorem BlkAt.obj {ρ : Env} {ι : Loc} {b : Blk} {o : Option Obj} (h : BlkAt ρ ι b o) : ∃ x, o = some x := by
 rcases h with ⟨_, r, h, _⟩ | ⟨_, es, _, _, h⟩ <;> exact ⟨_, h⟩
theorem BlkAt.cells {ρ : Env} {ι : Loc} {b : Blk} {o : Option Obj} (h : BlkAt ρ ι b o) (hs : 0 < b.size) :
  b.mp = none ∧ ∃ rest : List Value, o = some (.cells (b.cells ρ ι ++ rest).toArray b.elem (0, 0)) ∧ (b.more = false → rest = []) := by
 rcases h with h | ⟨h, _⟩
 ·exact h
 ·omega
def Blk.on (A : Nat → Prop) (b : Blk) : Prop := ∀ i, i < b.size → (b.at i).on A
theorem Blk.cells_alike {A : Nat → Prop} {ι ι' : Loc} (h : Loc.alike A ι ι') (ρ : Env) {b : Blk} (hb : b.on A) : b.cells ρ ι' = b.cells ρ ι :=
 List.map_congr_left fun i hi => SC.den_alike h ρ (hb i (by simpa using hi))
theorem BlkAt.alike {A : Nat → Prop} {ι ι' : Loc} (h : Loc.alike A ι ι') {ρ : Env} {b : Blk} (hb : b.on A) {o : Option Obj} (hx : BlkAt ρ ι b o) : BlkAt ρ ι' b o := by
 rcases hx with ⟨h0, r, h1, h2⟩ | hx
 ·exact .inl ⟨h0, r, by rw [Blk.cells_alike h ρ hb]; exact h1, h2⟩
 ·exact .inr hx
def lim (nb : Nat) (A : Nat → Prop) : Nat → Prop := fun i => i < nb ∧ A i
class Pins where
 n : Nat
 I : World → Prop
 wit : World
 room : n ≤ wit.heap.size
 wit_ok : I wit
 keep : ∀ w w' : World, (∀ b, b < n → w'.heap[b]? = w.heap[b]?) → I w → I w'
@[reducible] def noPins : Pins := { n := 0, I := fun _ => True, wit := default, room := Nat.zero_le _, wit_ok := trivial, keep := fun _ _ _ _ => trivial }
variable [Pins]
def Pinned (H : Nat → Option Blk) (ι : Loc) (w : World) : Prop := Pins.n ≤ w.heap.size ∧ Pins.I w ∧ ∀ id k, H id = some k → Pins.n ≤ ι.blk id
structure Rep (ρ : Env) (ι : Loc) (A : Nat → Prop) (H : Nat → Option Blk) (nb : Nat) (w : World) : Prop where
 lt : ∀ id k, H id = some k → id < nb ∧ A id
 blk : ∀ id k, H id = some k → BlkAt ρ ι k w.heap[ι.blk id]?
 on : ∀ id k, H id = some k → k.on (lim nb A)
 inj : ∀ id id' k k', H id = some k → H id' = some k' → ι.blk id = ι.blk id' → id = id'
 pin : Pinned H ι w
theorem Rep.size {ρ : Env} {ι : Loc} {A : Nat → Prop} {H : Nat → Option Blk} {nb : Nat} {w : World} (h : Rep ρ ι A H nb w) {id : Nat} {k : Blk} (hk : H id = some k) :
  ι.blk id < w.heap.size := by
 obtain ⟨r, h1⟩ := (h.blk id k hk).obj
 exact (Array.getElem?_eq_some_iff.1 h1).1
def LogOk (Φ : Phi) (ρ : Env) (l : List Ev) : Prop := ∀ e ∈ l, e.ok Φ ρ
def Facts (ρ : Env) (st : St) : Prop := (∀ x b, st.bf.get x = some b → ρ.b x = b) ∧ (∀ x n, st.jf.get x = some n → ρ.i x = n)
theorem LogOk.tail {Φ : Phi} {ρ : Env} {l m : List Ev} (h : LogOk Φ ρ (l ++ m)) : LogOk Φ ρ m := fun e he => h e (List.mem_append_right _ he)
structure Le (Φ : Phi) (st st' : St) : Prop where
 log : ∃ l, st'.log = l ++ st.log
 nb : st.nb ≤ st'.nb
 wr : ∃ l, st'.wr = l ++ st.wr ∧ (∀ id, id < st.nb → id ∉ l → st'.heap.get id = st.heap.get id) ∧ (∀ id, id ∈ l → id < st.nb → st.heap.get id ≠ none)
 dom : ∀ id, id < st.nb → st.heap.get id = none → st'.heap.get id = none
 facts : ∀ ρ, LogOk Φ ρ st'.log → Facts ρ st → Facts ρ st'
theorem Le.refl (Φ : Phi) (st : St) : Le Φ st st :=
 ⟨⟨[], rfl⟩, Nat.le_refl _, ⟨[], rfl, fun _ _ _ => rfl, fun _ h => by cases h⟩, fun _ _ h => h, fun _ _ h => h⟩
theorem Le.logOk {Φ : Phi} {st st' : St} (h : Le Φ st st') {ρ : Env} (hl : LogOk Φ ρ st'.log) : LogOk Φ ρ st.log := by
 obtain ⟨l, hl'⟩ := h.log
 rw [hl'] at hl
 exact hl.tail
theorem Le.trans {Φ : Phi} {a b c : St} (h : Le Φ a b) (k : Le Φ b c) : Le Φ a c := by
 obtain ⟨l1, e1⟩ := h.log
 obtain ⟨l2, e2⟩ := k.log
 obtain ⟨w1, f1, g1, d1⟩ := h.wr
 obtain ⟨w2, f2, g2, d2⟩ := k.wr
 refine ⟨⟨l2 ++ l1, by rw [e2, e1, List.append_assoc]⟩, Nat.le_trans h.nb k.nb, ⟨w2 ++ w1, by rw [f2, f1, List.append_assoc], fun id hid hn => ?_, fun id hid hlt => ?_⟩, fun id hid hn => k.dom id (Nat.lt_of_lt_of_le hid h.nb) (h.dom id hid hn),
  fun ρ hρ hf => k.facts ρ hρ (h.facts ρ (k.logOk hρ) hf)⟩
 ·rw [List.mem_append] at hn
  rw [g2 id (Nat.lt_of_lt_of_le hid h.nb) (fun m => hn (.inl m)), g1 id hid (fun m => hn (.inr m))]
 ·rw [List.mem_append] at hid
  rcases hid with m | m
  ·intro hnone
   exact d2 id m (Nat.lt_of_lt_of_le hlt h.nb) (h.dom id hlt hnone)
  ·exact d1 id m hlt
structure Post (ρ : Env) (ι : Loc) (A : Nat → Prop) (st : St) (w : World) (ι' : Loc) (st' : St) (w' : World) : Prop where
 alike : Loc.alike (fun i => i < st.nb) ι ι'
 rep : Rep ρ ι' A st'.heap.get st'.nb w'
 os : w'.os = w.os
 tape : w'.tape = w.tape
 output : w'.output = w.output
 size : w.heap.size ≤ w'.heap.size
 same : ∀ b, b < w.heap.size → (∀ id k, st.heap.get id = some k → ι.blk id ≠ b) → w'.heap[b]? = w.heap[b]?
 fresh : ∀ id, st.nb ≤ id → id < st'.nb → w.heap.size ≤ ι'.blk id
theorem Post.refl {ρ : Env} {ι : Loc} {A : Nat → Prop} {st : St} {w : World} (h : Rep ρ ι A st.heap.get st.nb w) : Post ρ ι A st w ι st w :=
 ⟨.refl _ _, h, rfl, rfl, rfl, Nat.le_refl _, fun _ _ _ => rfl, fun _ h1 h2 => absurd h1 (Nat.not_le_of_lt h2)⟩
theorem Post.trans {Φ : Phi} {ρ : Env} {ι ι1 ι2 : Loc} {A : Nat → Prop} {st st1 st2 : St} {w w1 w2 : World} (hle : Le Φ st st1) (hr : Rep ρ ι A st.heap.get st.nb w)
  (h : Post ρ ι A st w ι1 st1 w1) (k : Post ρ ι1 A st1 w1 ι2 st2 w2) : Post ρ ι A st w ι2 st2 w2 := by
 refine ⟨fun i hi => ?_, k.rep, k.os.trans h.os, k.tape.trans h.tape, k.output.trans h.output, Nat.le_trans h.size k.size, fun b hb hn => ?_, fun id h1 h2 => ?_⟩
 ·have a1 := h.alike i hi
  have a2 := k.alike i (Nat.lt_of_lt_of_le hi hle.nb)
  exact ⟨a2.1.trans a1.1, a2.2.trans a1.2⟩
 ·rw [k.same b (Nat.lt_of_lt_of_le hb h.size) (fun id k' hk' => ?_), h.same b hb hn]
  by_cases hid : id < st.nb
  ·rw [(h.alike id hid).1]
   cases hg : st.heap.get id with
   | none => rw [hle.dom id hid hg] at hk'; cases hk'
   | some q => exact hn id q hg
  ·have := h.fresh id (by omega) (h.rep.lt id k' hk').1
   omega
 ·by_cases hid : id < st1.nb
  ·rw [(k.alike id hid).1]
   exact h.fresh id h1 hid
  ·exact Nat.le_trans h.size (k.fresh id (by omega) h2)
theorem Rep.world {ρ : Env} {ι : Loc} {A : Nat → Prop} {H : Nat → Option Blk} {nb : Nat} {w w' : World} (h : Rep ρ ι A H nb w) (hw : w'.heap = w.heap) : Rep ρ ι A H nb w' :=
 ⟨h.lt, fun id k hk => by rw [hw]; exact h.blk id k hk, h.on, h.inj, by rw [hw]; exact h.pin.1, Pins.keep w w' (fun b _ => by rw [hw]) h.pin.2.1, h.pin.2.2⟩
end Go.Sx
namespace Go.Sx
set_option linter.unusedSectionVars false
variable [Pins]
set_option linter.unusedSimpArgs false
set_option linter.unusedVariables false
structure Quiet (Φ : Phi) (st st' : St) : Prop where
 log : ∃ l, st'.log = l ++ st.log
 nb : st'.nb = st.nb
 heap : st'.heap = st.heap
 wr : st'.wr = st.wr
 facts : ∀ ρ, LogOk Φ ρ st'.log → Facts ρ st → Facts ρ st'
theorem Quiet.refl (Φ : Phi) (st : St) : Quiet Φ st st := ⟨⟨[], rfl⟩, rfl, rfl, rfl, fun _ _ h => h⟩
theorem Quiet.logOk {Φ : Phi} {st st' : St} (h : Quiet Φ st st') {ρ : Env} (hl : LogOk Φ ρ st'.log) : LogOk Φ ρ st.log := by
 obtain ⟨l, hl'⟩ := h.log
 rw [hl'] at hl
 exact hl.tail
theorem Quiet.trans {Φ : Phi} {a b c : St} (h : Quiet Φ a b) (k : Quiet Φ b c) : Quiet Φ a c := by
 obtain ⟨l1, e1⟩ := h.log
 obtain ⟨l2, e2⟩ := k.log
 exact ⟨⟨l2 ++ l1, by rw [e2, e1, List.append_assoc]⟩, k.nb.trans h.nb, k.heap.trans h.heap, k.wr.trans h.wr, fun ρ hρ hf => k.facts ρ hρ (h.facts ρ (k.logOk hρ) hf)⟩
theorem Quiet.le {Φ : Phi} {st st' : St} (h : Quiet Φ st st') : Le Φ st st' :=
 ⟨h.log, Nat.le_of_eq h.nb.symm, ⟨[], by simp [h.wr], fun id _ _ => by rw [h.heap], fun _ m => by cases m⟩, fun id _ hn => by rw [h.heap]; exact hn, h.facts⟩
theorem Quiet.rep {Φ : Phi} {st st' : St} (h : Quiet Φ st st') {ρ : Env} {ι : Loc} {A : Nat → Prop} {w : World} (hr : Rep ρ ι A st.heap.get st.nb w) :
  Rep ρ ι A st'.heap.get st'.nb w := by rw [h.heap, h.nb]; exact hr
theorem Quiet.post {Φ : Phi} {st st' : St} (h : Quiet Φ st st') {ρ : Env} {ι : Loc} {A : Nat → Prop} {w : World} (hr : Rep ρ ι A st.heap.get st.nb w) :
  Post ρ ι A st w ι st' w :=
 ⟨.refl _ _, h.rep hr, rfl, rfl, rfl, Nat.le_refl _, fun _ _ _ => rfl, fun id h1 h2 => by rw [h.nb] at h2; omega⟩
theorem quiet_push {Φ : Phi} {st : St} {e : Ev} {n : Nat} : Quiet Φ st { st with nx := n, log := e :: st.log } :=
 ⟨⟨[e], rfl⟩, rfl, rfl, rfl, fun _ _ h => h⟩
theorem ia_den {ρ : Env} {ι : Loc} {st : St} (hf : Facts ρ st) {x : SC} {k : IntKind} {p : IA} (h : x.ia st = some (k, p)) : x.den ρ ι = .int k (p.den ρ) := by
 cases x with
 | lit v => cases v <;> simp [SC.ia] at h; obtain ⟨rfl, rfl⟩ := h; rfl
 | ivar k' x =>
  simp only [SC.ia, Option.some.injEq, Prod.mk.injEq] at h
  obtain ⟨rfl, h⟩ := h
  cases hg : st.jf.get x with
  | none => rw [hg] at h; subst h; rfl
  | some n => rw [hg] at h; subst h; simp [SC.den, IA.den, hf.2 x n hg]
 | _ => simp [SC.ia] at h
theorem ba_den {ρ : Env} {ι : Loc} {st : St} (hf : Facts ρ st) {x : SC} {p : BA} (h : x.ba st = some p) : x.den ρ ι = .bool (p.den ρ) := by
 cases x with
 | lit v => cases v <;> simp [SC.ba] at h; subst h; rfl
 | bvar x g =>
  simp only [SC.ba, Option.some.injEq] at h
  cases hg : st.bf.get x with
  | none => rw [hg] at h; subst h; rfl
  | some b => rw [hg] at h; subst h; simp [SC.den, BA.den, hf.1 x b hg]
 | _ => simp [SC.ba] at h
theorem sa_den {ρ : Env} {ι : Loc} {x : SC} {p : SA} (h : x.sa = some p) : x.den ρ ι = .string (p.den ρ) := by
 cases x with
 | lit v => cases v <;> simp [SC.sa] at h; subst h; rfl
 | svar x => simp only [SC.sa, Option.some.injEq] at h; subst h; rfl
 | _ => simp [SC.sa] at h
def SV.bare (v : SV) : Prop := ∀ A, v.on A
theorem bare_c {x : SC} (h : ∀ A, x.on A) : SV.bare (.w (.c x)) := fun A c hc => by simp [SW.cells] at hc; subst hc; exact h A
theorem bare_litI (k : IntKind) (n : Int) : (litI k n).bare := bare_c fun _ => trivial
theorem bare_litB (b : Bool) : (litB b).bare := bare_c fun _ => trivial
theorem bare_undef : sundef.bare := fun A x hx => by cases hx
structure Gives (Φ : Phi) (st : St) (v : SV) (st' : St) (spec : Env → Loc → Value → Prop) : Prop where
 quiet : Quiet Φ st st'
 bare : v.bare
 den : ∀ ρ, LogOk Φ ρ st'.log → Facts ρ st → ∀ ι, spec ρ ι (v.den ρ ι)
theorem Gives.lit {Φ : Phi} {st : St} {v : SV} {spec : Env → Loc → Value → Prop} (hb : v.bare) (h : ∀ ρ, Facts ρ st → ∀ ι, spec ρ ι (v.den ρ ι)) : Gives Φ st v st spec :=
 ⟨.refl _ _, hb, fun ρ _ hf ι => h ρ hf ι⟩
theorem mkI_gives {Φ : Phi} {k : IntKind} {e : IE} {st st' : St} {v : SV} (h : mkI k e st = .ok (v, st')) : Gives Φ st v st' fun ρ ι x => x = .int k (e.den ρ) ∧ e.side ρ := by
 simp only [mkI, R.ok.injEq, Prod.mk.injEq] at h
 obtain ⟨rfl, rfl⟩ := h
 refine ⟨quiet_push, bare_c fun _ => trivial, fun ρ hl _ ι => ?_⟩
 obtain ⟨h1, h2⟩ := hl (.setI0 st.nx e) (by simp)
 exact ⟨by simp [SV.den, SW.den, SC.den, h1], h2⟩
theorem mkB_gives {Φ : Phi} {e : BE} {neg : Bool} {st st' : St} {v : SV} (h : mkB e neg st = .ok (v, st')) : Gives Φ st v st' fun ρ ι x => x = .bool (xor (e.den ρ) neg) := by
 simp only [mkB, R.ok.injEq, Prod.mk.injEq] at h
 obtain ⟨rfl, rfl⟩ := h
 refine ⟨quiet_push, bare_c fun _ => trivial, fun ρ hl _ ι => ?_⟩
 have h1 := hl (.setB0 st.nx e) (by simp)
 simp only [Ev.ok] at h1
 simp [SV.den, SW.den, SC.den, h1]
theorem mkS_gives {Φ : Phi} {e : SE} {st st' : St} {v : SV} (h : mkS e st = .ok (v, st')) : Gives Φ st v st' fun ρ ι x => x = .string (e.den ρ) ∧ e.side ρ := by
 simp only [mkS, R.ok.injEq, Prod.mk.injEq] at h
 obtain ⟨rfl, rfl⟩ := h
 refine ⟨quiet_push, bare_c fun _ => trivial, fun ρ hl _ ι => ?_⟩
 have h1 := hl (.setS0 st.nx e) (by simp)
 simp only [Ev.ok] at h1
 exact ⟨by simp [SV.den, SW.den, SC.den, h1.1], h1.2⟩
theorem getB_ok {Φ : Phi} {v : SV} {st st' : St} {b : Bool} (h : getB v st = .ok (b, st')) :
  Quiet Φ st st' ∧ ∀ ρ, LogOk Φ ρ st'.log → Facts ρ st → ∀ ι, v.den ρ ι = .bool b := by
 unfold getB at h
 split at h
 ·simp only [R.ok.injEq, Prod.mk.injEq] at h
  obtain ⟨rfl, rfl⟩ := h
  exact ⟨.refl _ _, fun ρ _ _ ι => rfl⟩
 ·rename_i x neg
  split at h
  ·rename_i c hc
   simp only [R.ok.injEq, Prod.mk.injEq] at h
   obtain ⟨rfl, rfl⟩ := h
   exact ⟨.refl _ _, fun ρ _ hf ι => by simp [SV.den, SW.den, SC.den, hf.1 x c hc]⟩
  ·split at h
   ·rename_i c ds hd
    simp only [R.ok.injEq, Prod.mk.injEq] at h
    obtain ⟨rfl, rfl⟩ := h
    refine ⟨⟨⟨[.decB x c], rfl⟩, rfl, rfl, rfl, fun ρ hl hf => ⟨fun y b' hy => ?_, hf.2⟩⟩, fun ρ hl _ ι => ?_⟩
    ·rw [Tr.get_set] at hy
     split at hy
     ·rename_i he
      have h1 := hl (.decB x c) (by simp)
      simp only [Ev.ok] at h1
      simp only [Option.some.injEq] at hy
      rw [he, h1, hy]
     ·exact hf.1 y b' hy
    ·have h1 := hl (.decB x c) (by simp)
     simp only [Ev.ok] at h1
     simp [SV.den, SW.den, SC.den, h1]
   ·simp [stop] at h
 ·simp [stop] at h
theorem getN_ok {Φ : Phi} {v : SV} {st st' : St} {n : Int} (h : getN v st = .ok (n, st')) :
  Quiet Φ st st' ∧ v.bare ∧ ∃ k, ∀ ρ, LogOk Φ ρ st'.log → Facts ρ st → ∀ ι, v.den ρ ι = .int k n := by
 unfold getN at h
 split at h
 ·rename_i k m
  simp only [R.ok.injEq, Prod.mk.injEq] at h
  obtain ⟨rfl, rfl⟩ := h
  exact ⟨.refl _ _, bare_c fun _ => trivial, k, fun ρ _ _ ι => rfl⟩
 ·rename_i k x
  split at h
  ·rename_i c hc
   simp only [R.ok.injEq, Prod.mk.injEq] at h
   obtain ⟨rfl, rfl⟩ := h
   exact ⟨.refl _ _, bare_c fun _ => trivial, k, fun ρ _ hf ι => by simp [SV.den, SW.den, SC.den, hf.2 x c hc]⟩
  ·split at h
   ·rename_i c ds hd
    simp only [R.ok.injEq, Prod.mk.injEq] at h
    obtain ⟨rfl, rfl⟩ := h
    refine ⟨⟨⟨[.decI x c], rfl⟩, rfl, rfl, rfl, fun ρ hl hf => ⟨hf.1, fun y b' hy => ?_⟩⟩, bare_c fun _ => trivial, k, fun ρ hl _ ι => ?_⟩
    ·simp only [Tr.get_set] at hy
     split at hy
     ·rename_i he
      have h1 := hl (.decI x c) (by simp)
      simp only [Ev.ok] at h1
      simp only [Option.some.injEq] at hy
      rw [he, h1, hy]
     ·exact hf.2 y b' hy
    ·have h1 := hl (.decI x c) (by simp)
     simp only [Ev.ok] at h1
     simp [SV.den, SW.den, SC.den, h1]
   ·simp [stop] at h
 ·simp [stop] at h
def binM (op : BinOp) (t : TypeId) (x y : Operand) (a b : Value) : Sem Value := do eqGuard op t x y a b; binOp op t a b
theorem kindEq_true {a b : IntKind} : kindEq a b = true ↔ a = b := by simp [kindEq]
theorem eqGuard_plain {P : Program} {op : BinOp} {t : TypeId} {x y : Operand} {a b : Value} {w : World} (h : ∀ cs ds, ¬ (a = .agg cs ∧ b = .agg ds)) (h2 : ¬ (a = .nilIface ∧ b = .nilIface)) :
  (eqGuard op t x y a b).run P w = .ok () w := by
 unfold eqGuard
 split
 ·simp
  split
  ·exact absurd ⟨rfl, rfl⟩ h2
  ·exact absurd ⟨rfl, rfl⟩ (h _ _)
  ·rfl
 ·simp
  split
  ·exact absurd ⟨rfl, rfl⟩ h2
  ·exact absurd ⟨rfl, rfl⟩ (h _ _)
  ·rfl
 ·rfl
theorem shift_run {P : Program} {op : BinOp} {t : TypeId} {k k' : IntKind} {a b : Int} {w : World} (ho : shOp op = true) (hb : 0 ≤ b) :
  (binOp op t (.int k a) (.int k' b)).run P w = .ok (.int k (ibin op k a b)) w := by
 have : ¬ b < 0 := by omega
 cases op <;> simp [shOp] at ho <;> simp [binOp, Op.shift, this, ibin]
theorem arith_run {P : Program} {op : BinOp} {t : TypeId} {k : IntKind} {a b : Int} {w : World} (ho : arithOp op = true) (hb : op = .quo ∨ op = .rem → b ≠ 0) :
  (binOp op t (.int k a) (.int k b)).run P w = .ok (.int k (ibin op k a b)) w := by
 cases op <;> simp [arithOp] at ho <;> simp at hb <;> simp [binOp, Op.intArith, Op.intDiv, Op.intBits, ibin, hb]
theorem cmp_run {P : Program} {op : BinOp} {t : TypeId} {k : IntKind} {a b : Int} {w : World} (ho : cmpOp op = true) :
  (binOp op t (.int k a) (.int k b)).run P w = .ok (.bool (icmp op a b)) w := by
 cases op <;> simp [cmpOp] at ho <;> simp [binOp, Op.intCmp, icmp]
theorem intBin_gives {Φ : Phi} {P : Program} {op : BinOp} {t : TypeId} {k k' : IntKind} {p q : IA} {st st' : St} {v : SV} (h : intBin op k k' p q st = .ok (v, st')) :
  Gives Φ st v st' fun ρ ι x => ∀ w, (binOp op t (.int k (p.den ρ)) (.int k' (q.den ρ))).run P w = .ok x w := by
 unfold intBin at h
 split at h
 ·rename_i hs
  split at h
  ·rename_i m n
   split at h
   ·rename_i hn
    simp only [R.ok.injEq, Prod.mk.injEq] at h
    obtain ⟨rfl, rfl⟩ := h
    exact .lit (bare_litI _ _) fun ρ _ ι w => shift_run hs (of_decide_eq_true hn : 0 ≤ n)
   ·simp [stop] at h
  ·have g := mkI_gives (Φ := Φ) h
   refine ⟨g.quiet, g.bare, fun ρ hl hf ι w => ?_⟩
   obtain ⟨h1, h2⟩ := g.den ρ hl hf ι
   rw [h1]
   refine shift_run hs (h2.2 ?_)
   cases op <;> simp [shOp] at hs <;> simp
 ·split at h
  ·simp [stop] at h
  ·rename_i hk
   simp only [Bool.not_eq_true', Bool.not_eq_false] at hk
   rw [kindEq_true] at hk
   subst hk
   split at h
   ·rename_i hc
    split at h
    ·simp only [R.ok.injEq, Prod.mk.injEq] at h
     obtain ⟨rfl, rfl⟩ := h
     exact .lit (bare_litB _) fun ρ _ ι w => cmp_run hc
    ·have g := mkB_gives (Φ := Φ) h
     refine ⟨g.quiet, g.bare, fun ρ hl hf ι w => ?_⟩
     rw [g.den ρ hl hf ι]
     simpa [BE.den] using cmp_run hc
   ·split at h
    ·rename_i ha
     split at h
     ·rename_i m n
      split at h
      ·simp [stop] at h
      ·rename_i hd
       simp only [R.ok.injEq, Prod.mk.injEq] at h
       obtain ⟨rfl, rfl⟩ := h
       refine .lit (bare_litI _ _) fun ρ _ ι w => arith_run ha (fun ho => ?_)
       simp only [Bool.and_eq_true, decide_eq_true_eq, not_and] at hd
       apply hd
       rcases ho with rfl | rfl <;> rfl
     ·have g := mkI_gives (Φ := Φ) h
      refine ⟨g.quiet, g.bare, fun ρ hl hf ι w => ?_⟩
      obtain ⟨h1, h2⟩ := g.den ρ hl hf ι
      rw [h1]
      exact arith_run ha h2.1
    ·simp [stop] at h
end Go.Sx
namespace Go.Sx
set_option linter.unusedSectionVars false
variable [Pins]
set_option linter.unusedSimpArgs false
set_option linter.unusedVariables false
structure TyAt (P : Program) (t : TypeId) (i : TI) : Prop where
 und : P.underlying t = some i.desc
 info : ∃ f, P.info? t = some f ∧ f.size = i.size ∧ f.bytes = i.bytes ∧ f.zero = i.zero
 fs : ∀ fs, i.desc = .struct fs → i.fs = fs.toList.map fun f => (f.type, f.offset)
 safe : i.eqsafe = true → P.eqGuardType P.depth t = false ∧ ∀ fs, i.desc = .struct fs → P.stoodInHeld t = false ∧ ∀ f ∈ fs, f.name ≠ "_"
def TysOk (P : Program) (tys : Tr TI) : Prop := ∀ t i, tys.get t = some i → TyAt P t i
section
variable {P : Program}
theorem TyAt.runUnd {t : TypeId} {i : TI} (h : TyAt P t i) (w : World) : (underlying t).run P w = .ok i.desc w := run_underlying h.und w
theorem TyAt.runSize {t : TypeId} {i : TI} (h : TyAt P t i) (w : World) : (sizeOf t).run P w = .ok i.size w := by
 obtain ⟨f, h1, h2, _⟩ := h.info
 simp [sizeOf, typeInfo, h1, h2]
theorem TyAt.cellsOf {t : TypeId} {i : TI} (h : TyAt P t i) : P.cellsOf t = i.size := by
 obtain ⟨f, h1, h2, _⟩ := h.info
 simp [Program.cellsOf, h1, h2]
theorem TyAt.runInfo {t : TypeId} {i : TI} (h : TyAt P t i) (w : World) : ∃ f, (typeInfo t).run P w = .ok f w ∧ f.size = i.size ∧ f.bytes = i.bytes ∧ f.zero = i.zero := by
 obtain ⟨f, h1, h2, h3, h4⟩ := h.info
 exact ⟨f, by simp [typeInfo, h1], h2, h3, h4⟩
theorem TyAt.runAgg {t : TypeId} {i : TI} (h : TyAt P t i) (w : World) : (isAgg t).run P w = .ok (aggDesc i.desc) w := by
 unfold isAgg
 simp only [Sem.run_bind, h.runUnd, Result.andThen_ok]
 cases i.desc <;> rfl
theorem list_extract {α : Type} (xs : List α) (off n : Nat) : (xs.toArray.extract off (off + n)) = ((xs.drop off).take n).toArray := by
 simp [List.extract_eq_take_drop]
theorem part_run {C : Ctx} (hT : TysOk P C.tys) {t : TypeId} {xs : List SC} {off : Nat} {y : SW} (h : partS C t xs off = some y) (ρ : Env) (ι : Loc) (w : World) :
  (part t (xs.map (SC.den ρ ι)).toArray off).run P w = .ok (y.den ρ ι) w := by
 unfold partS at h
 split at h
 ·cases h
 ·rename_i i hi
  have ht := hT t i hi
  unfold part
  simp only [Sem.run_bind, ht.runAgg, Result.andThen_ok]
  split at h
  ·rename_i ha
   split at h
   ·simp only [Option.some.injEq] at h
    subst h
    simp only [ha, if_true, Sem.run_bind, ht.runSize, Result.andThen_ok, Sem.run_pure, list_extract, SW.den, List.map_take, List.map_drop]
   ·cases h
  ·rename_i ha
   simp only [Bool.not_eq_true] at ha
   simp only [ha, Bool.false_eq_true, if_false]
   cases hx : xs[off]? with
   | none => rw [hx] at h; cases h
   | some c =>
    rw [hx] at h
    simp only [Option.map_some, Option.some.injEq] at h
    subst h
    simp [hx, SW.den]
theorem partS_on {C : Ctx} {A : Nat → Prop} {t : TypeId} {xs : List SC} {off : Nat} {y : SW} (h : partS C t xs off = some y) (hx : ∀ c ∈ xs, c.on A) : y.on A := by
 unfold partS at h
 split at h
 ·cases h
 ·split at h
  ·split at h
   ·simp only [Option.some.injEq] at h
    subst h
    intro c hc
    exact hx c (List.mem_of_mem_drop (List.mem_of_mem_take hc))
   ·cases h
  ·cases hg : xs[off]? with
   | none => rw [hg] at h; cases h
   | some d =>
    rw [hg] at h
    simp only [Option.map_some, Option.some.injEq] at h
    subst h
    intro c hc
    simp only [SW.cells, List.mem_singleton] at hc
    subst hc
    exact hx _ (List.mem_of_getElem? hg)
def cellEq : Value → Value → Bool
 | .int _ a, .int _ b => a == b
 | .bool a, .bool b => a == b
 | .string a, .string b => a.toList == b.toList
 | _, _ => false
theorem ba_data (a b : ByteArray) : (a == b) = (a.data.toList == b.data.toList) := by
 cases a with
 | mk a =>
 cases b with
 | mk b =>
 show (a == b) = (a.toList == b.toList)
 rw [Bool.eq_iff_iff, beq_iff_eq, beq_iff_eq]
 exact Array.toList_inj.symm
def Fits (a b : Value) : Prop :=
 (∃ k m n, a = .int k m ∧ b = .int k n) ∨ (∃ m n, a = .bool m ∧ b = .bool n) ∨ ∃ m n, a = .string m ∧ b = .string n
def allEq (ρ : Env) (ι : Loc) (ps : List (SC × SC)) : Bool := ps.all fun p => cellEq (p.1.den ρ ι) (p.2.den ρ ι)
theorem allEq_append {ρ : Env} {ι : Loc} (l m : List (SC × SC)) : allEq ρ ι (l ++ m) = (allEq ρ ι l && allEq ρ ι m) := by simp [allEq]
theorem intSC_den {a : SC} (h : intSC a = true) (ρ : Env) (ι : Loc) : ∃ k n, a.den ρ ι = .int k n := by
 unfold intSC at h
 split at h
 ·exact ⟨_, _, rfl⟩
 ·exact ⟨_, _, rfl⟩
 ·cases h
theorem boolSC_den {a : SC} (h : boolSC a = true) (ρ : Env) (ι : Loc) : ∃ n, a.den ρ ι = .bool n := by
 unfold boolSC at h
 split at h
 ·exact ⟨_, rfl⟩
 ·exact ⟨_, rfl⟩
 ·cases h
theorem strSC_den {a : SC} (h : strSC a = true) (ρ : Env) (ι : Loc) : ∃ n, a.den ρ ι = .string n := by
 unfold strSC at h
 split at h
 ·exact ⟨_, rfl⟩
 ·exact ⟨_, rfl⟩
 ·cases h
def EqAt (P : Program) (C : Ctx) (ρ : Env) (ι : Loc) (w : World) (n d : Nat) : Prop :=
 ∀ t x y ps, eqPairs C n t x y = some ps → (∀ p ∈ ps, Fits (p.1.den ρ ι) (p.2.den ρ ι)) →
  (Op.equalIn d t (x.den ρ ι) (y.den ρ ι)).run P w = .ok (allEq ρ ι ps) w
theorem fieldsEq_run {C : Ctx} (hT : TysOk P C.tys) {ρ : Env} {ι : Loc} {w : World} {n d : Nat} (ih : EqAt P C ρ ι w n d) (xs ys : List SC) :
  ∀ (fs : List Field) (ps : List (SC × SC)), fieldsEq C (eqPairs C n) (fs.map fun f => (f.type, f.offset)) xs ys = some ps → (∀ p ∈ ps, Fits (p.1.den ρ ι) (p.2.den ρ ι)) →
   (∀ f ∈ fs, f.name ≠ "_") →
   (Sem.run P (forIn fs ((none, ()) : Option Bool × Unit) fun f __s =>
      if f.name ≠ "_" then do
       let __do_lift ← part f.type (xs.map (SC.den ρ ι)).toArray f.offset
       let __do_lift_1 ← part f.type (ys.map (SC.den ρ ι)).toArray f.offset
       let __do_lift ← Op.equalIn d f.type __do_lift __do_lift_1
       if (!__do_lift) = true then pure (ForInStep.done (some false, ())) else pure (ForInStep.yield (none, ()))
      else pure (ForInStep.yield (none, ()))) w) = .ok (if allEq ρ ι ps then (none, ()) else (some false, ())) w
 | [], ps, h, _, _ => by
  simp only [List.map_nil, fieldsEq, Option.some.injEq] at h
  subst h
  simp [allEq]
 | f :: fs, ps, h, hfit, hn => by
  simp only [List.map_cons, fieldsEq] at h
  split at h
  ·rename_i p q hp hq
   split at h
   ·rename_i l m hl hm
    simp only [Option.some.injEq] at h
    subst h
    have h1 := part_run hT hp ρ ι w
    have h2 := part_run hT hq ρ ι w
    have h3 := ih f.type p q l hl (fun x hx => hfit x (List.mem_append_left _ hx))
    have h4 := fieldsEq_run hT ih xs ys fs m hm (fun x hx => hfit x (List.mem_append_right _ hx)) (fun g hg => hn g (List.mem_cons_of_mem _ hg))
    have hf := hn f (List.mem_cons_self ..)
    simp only [List.forIn_cons, Sem.run_bind, hf, ne_eq, not_false_eq_true, if_true, h1, h2, h3, Result.andThen_ok, allEq_append]
    cases hr : allEq ρ ι l
    ·simp
    ·simp only [Bool.not_true, Bool.false_eq_true, if_false, Sem.run_pure, Result.andThen_ok, Bool.true_and]
     exact h4
   ·cases h
  ·cases h
theorem elemsEq_run {C : Ctx} (hT : TysOk P C.tys) {ρ : Env} {ι : Loc} {w : World} {n d : Nat} (ih : EqAt P C ρ ι w n d) (e : TypeId) (size : Nat) (xs ys : List SC) :
  ∀ (k s : Nat) (ps : List (SC × SC)), elemsEq C (eqPairs C n) e size xs ys k s = some ps → (∀ p ∈ ps, Fits (p.1.den ρ ι) (p.2.den ρ ι)) →
   (Sem.run P (forIn (List.range' s k) ((none, ()) : Option Bool × Unit) fun i __s => do
       let __do_lift ← part e (xs.map (SC.den ρ ι)).toArray (i * size)
       let __do_lift_1 ← part e (ys.map (SC.den ρ ι)).toArray (i * size)
       let __do_lift ← Op.equalIn d e __do_lift __do_lift_1
       if (!__do_lift) = true then pure (ForInStep.done (some false, ())) else pure (ForInStep.yield (none, ()))) w) =
    .ok (if allEq ρ ι ps then (none, ()) else (some false, ())) w
 | 0, s, ps, h, _ => by
  simp only [elemsEq, Option.some.injEq] at h
  subst h
  simp [allEq]
 | k + 1, s, ps, h, hfit => by
  simp only [elemsEq] at h
  split at h
  ·rename_i p q hp hq
   split at h
   ·rename_i l m hl hm
    simp only [Option.some.injEq] at h
    subst h
    have h1 := part_run hT hp ρ ι w
    have h2 := part_run hT hq ρ ι w
    have h3 := ih e p q l hl (fun x hx => hfit x (List.mem_append_left _ hx))
    have h4 := elemsEq_run hT ih e size xs ys k (s + 1) m hm (fun x hx => hfit x (List.mem_append_right _ hx))
    simp only [List.range'_succ, List.forIn_cons, Sem.run_bind, h1, h2, h3, Result.andThen_ok, allEq_append]
    cases hr : allEq ρ ι l
    ·simp
    ·simp only [Bool.not_true, Bool.false_eq_true, if_false, Sem.run_pure, Result.andThen_ok, Bool.true_and]
     exact h4
   ·cases h
  ·cases h
theorem eqPairs_run {C : Ctx} (hT : TysOk P C.tys) (ρ : Env) (ι : Loc) (w : World) : ∀ n d, n ≤ d → EqAt P C ρ ι w n d := by
 intro n
 induction n with
 | zero => intro d _ t x y ps h; simp [eqPairs] at h
 | succ n ih =>
  intro d hd t x y ps h hfit
  obtain ⟨d, rfl⟩ : ∃ e, d = e + 1 := ⟨d - 1, by omega⟩
  have ih' := ih d (by omega)
  simp only [eqPairs] at h
  split at h
  ·cases h
  ·rename_i i hi
   have ht := hT t i hi
   split at h
   ·rename_i k a b hd'
    split at h
    ·rename_i hk
     simp only [Bool.and_eq_true] at hk
     simp only [Option.some.injEq] at h
     subst h
     obtain ⟨k1, n1, e1⟩ := intSC_den hk.1 ρ ι
     obtain ⟨k2, n2, e2⟩ := intSC_den hk.2 ρ ι
     have hf := hfit (a, b) (by simp)
     simp only [e1, e2, Fits] at hf
     have hkk : k1 = k2 := by
      rcases hf with ⟨k, m, n, h1, h2⟩ | ⟨m, n, h1, h2⟩ | ⟨m, n, h1, h2⟩
      ·simp only [Value.int.injEq] at h1 h2; rw [h1.1, h2.1]
      ·cases h1
      ·cases h1
     subst hkk
     simp only [Op.equalIn, Sem.run_bind, ht.runUnd, hd', Result.andThen_ok, SW.den, e1, e2, if_true, Sem.run_pure, allEq, List.all_cons, List.all_nil, cellEq, Bool.and_true]
    ·cases h
   ·rename_i a b hd'
    split at h
    ·rename_i hk
     simp only [Bool.and_eq_true] at hk
     simp only [Option.some.injEq] at h
     subst h
     obtain ⟨n1, e1⟩ := boolSC_den hk.1 ρ ι
     obtain ⟨n2, e2⟩ := boolSC_den hk.2 ρ ι
     simp only [Op.equalIn, Sem.run_bind, ht.runUnd, hd', Result.andThen_ok, SW.den, e1, e2, if_true, Sem.run_pure, allEq, List.all_cons, List.all_nil, cellEq, Bool.and_true]
    ·cases h
   ·rename_i a b hd'
    split at h
    ·rename_i hk
     simp only [Bool.and_eq_true] at hk
     simp only [Option.some.injEq] at h
     subst h
     obtain ⟨n1, e1⟩ := strSC_den hk.1 ρ ι
     obtain ⟨n2, e2⟩ := strSC_den hk.2 ρ ι
     simp only [Op.equalIn, Sem.run_bind, ht.runUnd, hd', Result.andThen_ok, SW.den, e1, e2, if_true, Sem.run_pure, allEq, List.all_cons, List.all_nil, cellEq, Bool.and_true, ba_data, ByteArray.toList_eq]
    ·cases h
   ·rename_i fs xs ys hd'
    split at h
    ·rename_i hsafe
     obtain ⟨s1, s2⟩ := ht.safe hsafe
     obtain ⟨s3, s4⟩ := s2 fs hd'
     rw [ht.fs fs hd'] at h
     have key := fieldsEq_run hT ih' xs ys fs.toList ps h hfit (fun f hf => s4 f (by simpa using hf))
     simp only [Op.equalIn, Sem.run_bind, ht.runUnd, hd', Result.andThen_ok, SW.den, run_program, s3, Bool.false_eq_true, if_false]
     rw [← Array.forIn_toList]
     rw [key]
     cases allEq ρ ι ps <;> simp
    ·cases h
   ·rename_i m e xs ys hd'
    split at h
    ·cases h
    ·rename_i j hj
     have hte := hT e j hj
     have key := elemsEq_run hT ih' e j.size xs ys m 0 ps h hfit
     simp only [Op.equalIn, Sem.run_bind, ht.runUnd, hd', Result.andThen_ok, SW.den, hte.runSize, Std.Legacy.Range.forIn_eq_forIn_range']
     simp only [Std.Legacy.Range.size, Nat.sub_zero, Nat.add_sub_cancel, Nat.div_one]
     rw [key]
     cases allEq ρ ι ps <;> simp
   ·cases h
def LeafOk (ρ : Env) (ι : Loc) (p : SC × SC) : Leaf → Prop
 | .bad => True
 | .same => Fits (p.1.den ρ ι) (p.2.den ρ ι) ∧ cellEq (p.1.den ρ ι) (p.2.den ρ ι) = true
 | .unlike => Fits (p.1.den ρ ι) (p.2.den ρ ι) ∧ cellEq (p.1.den ρ ι) (p.2.den ρ ι) = false
 | .ask q => Fits (p.1.den ρ ι) (p.2.den ρ ι) ∧ cellEq (p.1.den ρ ι) (p.2.den ρ ι) = q.den ρ
theorem leafOf_ok {ρ : Env} {ι : Loc} {st : St} (hf : Facts ρ st) (p : SC × SC) : LeafOk ρ ι p (leafOf st p) := by
 unfold leafOf
 split
 ·rename_i k a k' b h1 h2
  have e1 := ia_den (ι := ι) hf h1
  have e2 := ia_den (ι := ι) hf h2
  by_cases hk : kindEq k k' = true
  ·simp only [hk, Bool.not_true, Bool.false_eq_true, if_false]
   rw [kindEq_true] at hk
   subst hk
   have hfit : Fits (p.1.den ρ ι) (p.2.den ρ ι) := .inl ⟨k, _, _, e1, e2⟩
   split
   ·split <;> simp_all [cellEq, IA.den, LeafOk]
   ·split <;> simp_all [cellEq, IA.den, PE.den, LeafOk]
   ·simp_all [cellEq, IA.den, PE.den, LeafOk]
  ·simp [hk, LeafOk]
 ·split
  ·rename_i a b h1 h2
   have e1 := ba_den (ι := ι) hf h1
   have e2 := ba_den (ι := ι) hf h2
   have hfit : Fits (p.1.den ρ ι) (p.2.den ρ ι) := .inr (.inl ⟨_, _, e1, e2⟩)
   split
   ·split <;> simp_all [cellEq, BA.den, LeafOk]
   ·split
    ·rename_i hh
     simp only [Bool.and_eq_true, Nat.beq_eq_true_eq, beq_iff_eq] at hh
     simp_all [cellEq, BA.den, LeafOk]
    ·simp_all [cellEq, BA.den, PE.den, LeafOk]
   ·simp_all [cellEq, BA.den, PE.den, LeafOk]
  ·split
   ·rename_i a b h1 h2
    have e1 := sa_den (ρ := ρ) (ι := ι) h1
    have e2 := sa_den (ρ := ρ) (ι := ι) h2
    have hfit : Fits (p.1.den ρ ι) (p.2.den ρ ι) := .inr (.inr ⟨_, _, e1, e2⟩)
    split
    ·split <;> simp_all [cellEq, SA.den, ByteArray.toList_eq, LeafOk]
    ·split <;> simp_all [cellEq, SA.den, PE.den, ByteArray.toList_eq, LeafOk]
    ·simp_all [cellEq, SA.den, PE.den, ByteArray.toList_eq, LeafOk]
   ·trivial
theorem leaves_ok {ρ : Env} {ι : Loc} {st : St} (hf : Facts ρ st) : ∀ (ps : List (SC × SC)) (r : Option (List PE)), leaves st ps = some r →
  (∀ p ∈ ps, Fits (p.1.den ρ ι) (p.2.den ρ ι)) ∧ allEq ρ ι ps = (match r with | none => false | some l => l.all (PE.den ρ))
 | [], r, h => by simp [leaves] at h; subst h; simp [allEq]
 | p :: ps, r, h => by
  have hl := leafOf_ok (ι := ι) hf p
  have ih := leaves_ok (ι := ι) hf ps
  simp only [leaves] at h
  split at h
  ·cases h
  ·cases h
  ·rename_i hlp hr
   rw [hlp] at hl
   simp only [LeafOk] at hl
   simp only [Option.some.injEq] at h
   subst h
   cases hps' : leaves st ps with
   | none => simp_all
   | some r'' =>
    have := ih r'' hps'
    refine ⟨fun q hq => ?_, ?_⟩
    ·rcases List.mem_cons.1 hq with rfl | hq
     ·exact hl.1
     ·exact this.1 q hq
    ·simp [allEq, hl.2]
  ·rename_i hps _ _
   simp only [Option.some.injEq] at h
   subst h
   have := ih none hps
   refine ⟨fun q hq => ?_, ?_⟩
   ·rcases List.mem_cons.1 hq with rfl | hq
    ·cases hlp : leafOf st q <;> rw [hlp] at hl <;> simp only [LeafOk] at hl <;> first | exact hl.1 | simp_all
    ·exact this.1 q hq
   ·have h2 := this.2
    simp only [allEq] at h2
    simp [allEq, h2]
  ·rename_i l hlp hps
   rw [hlp] at hl
   simp only [LeafOk] at hl
   simp only [Option.some.injEq] at h
   subst h
   have := ih (some l) hps
   refine ⟨fun q hq => ?_, ?_⟩
   ·rcases List.mem_cons.1 hq with rfl | hq
    ·exact hl.1
    ·exact this.1 q hq
   ·have h2 := this.2
    simp only [allEq] at h2
    simp [allEq, hl.2, h2]
  ·rename_i q l hlp hps
   rw [hlp] at hl
   simp only [LeafOk] at hl
   simp only [Option.some.injEq] at h
   subst h
   have := ih (some l) hps
   refine ⟨fun q hq => ?_, ?_⟩
   ·rcases List.mem_cons.1 hq with rfl | hq
    ·exact hl.1
    ·exact this.1 q hq
   ·have h2 := this.2
    simp only [allEq] at h2
    simp [allEq, hl.2, h2]
theorem eqOp_cases {op : BinOp} (h : eqOp op = true) : (op = .eql ∧ isNeq op = false) ∨ (op = .neq ∧ isNeq op = true) := by
 cases op <;> simp [eqOp] at h <;> simp [isNeq]
def notArith : Value → Bool
 | .bool _ => true
 | .agg _ => true
 | .pointer _ => true
 | .slice _ _ _ => true
 | _ => false
theorem binOp_eq_run {op : BinOp} (ho : eqOp op = true) {t : TypeId} {a b : Value} {r : Bool} {w : World} (hn : notArith a = true) (he : (Op.equal t a b).run P w = .ok r w) :
  (binOp op t a b).run P w = .ok (.bool (xor r (isNeq op))) w := by
 rcases eqOp_cases ho with ⟨rfl, h2⟩ | ⟨rfl, h2⟩
 ·rw [h2]
  cases a <;> simp [notArith] at hn <;> simp [binOp, he]
 ·rw [h2]
  cases a <;> simp [notArith] at hn <;> simp [binOp, he]
theorem eqGuard_agg {op : BinOp} {t : TypeId} {x y : Operand} {xs ys : Array Value} (h : P.eqGuardType P.depth t = false) (w : World) :
  (eqGuard op t x y (.agg xs) (.agg ys)).run P w = .ok () w := by
 unfold eqGuard
 cases op <;> simp [h]
theorem topSafe_ok {C : Ctx} (hT : TysOk P C.tys) {t : TypeId} {xs : List SC} (h : topSafe C t (.agg xs) = true) : P.eqGuardType P.depth t = false := by
 unfold topSafe at h
 simp only at h
 split at h
 ·rename_i i hi
  exact ((hT t i hi).safe h).1
 ·cases h
theorem eqS_gives {Φ : Phi} {C : Ctx} (hT : TysOk P C.tys) {op : BinOp} (ho : eqOp op = true) {t : TypeId} {x y : SW} {st st' : St} {v : SV} (h : eqS C (isNeq op) t x y st = .ok (v, st'))
  (hn : ∀ ρ ι, notArith (x.den ρ ι) = true) :
  Gives Φ st v st' fun ρ ι z => ∀ w, (binOp op t (x.den ρ ι) (y.den ρ ι)).run P w = .ok z w := by
 unfold eqS at h
 split at h
 ·simp [stop] at h
 ·split at h
  ·simp [stop] at h
  ·rename_i ps hps
   have key : ∀ ρ ι, Facts ρ st → ∀ r, leaves st ps = some r → ∀ w, (binOp op t (x.den ρ ι) (y.den ρ ι)).run P w = .ok (.bool (xor (match r with | none => false | some l => l.all (PE.den ρ)) (isNeq op))) w := by
    intro ρ ι hf r hr w
    obtain ⟨h1, h2⟩ := leaves_ok (ι := ι) hf ps r hr
    have h3 := eqPairs_run hT ρ ι w 100 10000 (by omega) t x y ps hps h1
    rw [← h2]
    exact binOp_eq_run ho (hn ρ ι) h3
   split at h
   ·simp [stop] at h
   ·rename_i hl
    simp only [R.ok.injEq, Prod.mk.injEq] at h
    obtain ⟨rfl, rfl⟩ := h
    refine .lit (bare_litB _) fun ρ hf ι w => ?_
    rw [key ρ ι hf _ hl w]
    simp [litB, SV.den, SW.den, SC.den]
   ·rename_i hl
    simp only [R.ok.injEq, Prod.mk.injEq] at h
    obtain ⟨rfl, rfl⟩ := h
    refine .lit (bare_litB _) fun ρ hf ι w => ?_
    rw [key ρ ι hf _ hl w]
    simp [litB, SV.den, SW.den, SC.den]
   ·rename_i l _ hl
    have g := mkB_gives (Φ := Φ) h
    refine ⟨g.quiet, g.bare, fun ρ hlog hf ι w => ?_⟩
    rw [g.den ρ hlog hf ι, key ρ ι hf _ hl w]
    rfl
theorem str_add_run {t : TypeId} (m n : ByteArray) (h : m.size + n.size ≤ 1000000) (w : World) : (binOp .add t (.string m) (.string n)).run P w = .ok (.string (m ++ n)) w := by
 have : ¬ (((m.size + n.size : Nat) : Int) > IntKind.i64.max) := by
  have : IntKind.i64.max = 9223372036854775807 := by rfl
  omega
 simp only [binOp, Op.stringOp]
 rw [if_neg this]
 rfl
theorem strBin_gives {Φ : Phi} {op : BinOp} {t : TypeId} {p q : SA} {st st' : St} {v : SV} (h : strBin op p q st = .ok (v, st')) :
  Gives Φ st v st' fun ρ ι z => ∀ w, (binOp op t (.string (p.den ρ)) (.string (q.den ρ))).run P w = .ok z w := by
 have heq : ∀ (a b : ByteArray) w, (binOp .eql t (.string a) (.string b)).run P w = .ok (.bool (a.data.toList == b.data.toList)) w := by
  intro a b w; simp [binOp, Op.stringOp, ByteArray.toList_eq]
 have hne : ∀ (a b : ByteArray) w, (binOp .neq t (.string a) (.string b)).run P w = .ok (.bool (!(a.data.toList == b.data.toList))) w := by
  intro a b w; simp [binOp, Op.stringOp, ByteArray.toList_eq]
 unfold strBin at h
 split at h
 ·split at h
  ·simp only [R.ok.injEq, Prod.mk.injEq] at h
   obtain ⟨rfl, rfl⟩ := h
   refine .lit (bare_litB _) fun ρ hf ι w => ?_
   rw [heq]
   simp [litB, SV.den, SW.den, SC.den, isNeq, SA.den]
  ·have g := mkB_gives (Φ := Φ) h
   refine ⟨g.quiet, g.bare, fun ρ hl hf ι w => ?_⟩
   rw [g.den ρ hl hf ι, heq]
   simp only [BE.den, List.all_cons, List.all_nil, PE.den, isNeq, Bool.and_true, Bool.xor_false]
 ·split at h
  ·simp only [R.ok.injEq, Prod.mk.injEq] at h
   obtain ⟨rfl, rfl⟩ := h
   refine .lit (bare_litB _) fun ρ hf ι w => ?_
   rw [hne]
   simp [litB, SV.den, SW.den, SC.den, isNeq, SA.den]
  ·have g := mkB_gives (Φ := Φ) h
   refine ⟨g.quiet, g.bare, fun ρ hl hf ι w => ?_⟩
   rw [g.den ρ hl hf ι, hne]
   simp only [BE.den, List.all_cons, List.all_nil, PE.den, isNeq, Bool.and_true, Bool.xor_true]
 ·split at h
  ·split at h
   ·rename_i m n hs
    simp only [R.ok.injEq, Prod.mk.injEq] at h
    obtain ⟨rfl, rfl⟩ := h
    refine .lit (bare_c fun _ => trivial) fun ρ hf ι w => ?_
    have hs' : m.size + n.size ≤ 1000000 := by simpa using hs
    exact str_add_run m n hs' w
   ·simp [stop] at h
  ·have g := mkS_gives (Φ := Φ) h
   refine ⟨g.quiet, g.bare, fun ρ hl hf ι w => ?_⟩
   obtain ⟨g1, g2⟩ := g.den ρ hl hf ι
   rw [g1]
   exact str_add_run _ _ g2 w
 ·simp [stop] at h
theorem eqIn_any {t : TypeId} {a b : Value} {r : Bool} {w : World} (h : ∀ d, (Op.equalIn (d + 1) t a b).run P w = .ok r w) : (Op.equal t a b).run P w = .ok r w := h 9999
theorem nilEq_gives {Φ : Phi} {C : Ctx} (hT : TysOk P C.tys) {op : BinOp} (ho : eqOp op = true) {t : TypeId} {x y : SC} {st st' : St} {v : SV} (h : nilEq C op t x y st = .ok (v, st')) :
    Gives Φ st v st' fun ρ ι z => ∀ w, (binOp op t (x.den ρ ι) (y.den ρ ι)).run P w = .ok z w := by
  have hd : ∀ d, descOf C t = some d → P.underlying t = some d := by
    intro d hd
    unfold descOf at hd
    cases hg : C.tys.get t with
    | none => rw [hg] at hd; cases hd
    | some i => rw [hg] at hd; simp only [Option.map_some, Option.some.injEq] at hd; rw [← hd]; exact (hT t i hg).und
  unfold nilEq at h
  split at h <;> first
    | (simp [stop] at h; done)
    | (simp only [R.ok.injEq, Prod.mk.injEq] at h
       obtain ⟨rfl, rfl⟩ := h
       refine .lit (bare_litB _) fun ρ hf ι w => ?_
       first
         | (refine (binOp_eq_run (r := false) ho rfl ?_).trans ?_
            · exact eqIn_any (fun d => by simp [Op.equalIn, run_underlying (hd _ (by assumption)), SC.den])
            · (rcases eqOp_cases ho with ⟨rfl, h2⟩ | ⟨rfl, h2⟩ <;> simp [h2, litB, SV.den, SW.den, SC.den]; done))
         | (refine (binOp_eq_run (r := true) ho rfl ?_).trans ?_
            · exact eqIn_any (fun d => by simp [Op.equalIn, run_underlying (hd _ (by assumption)), SC.den])
            · rcases eqOp_cases ho with ⟨rfl, h2⟩ | ⟨rfl, h2⟩ <;> simp [h2, litB, SV.den, SW.den, SC.den]))
theorem ia_notagg {ρ : Env} {ι : Loc} {x : SC} (h : ∀ v, x ≠ .lit v) : ∀ cs, x.den ρ ι ≠ .agg cs := by
 intro cs
 cases x <;> simp [SC.den]
 exact absurd rfl (h _)
theorem binS_gives {Φ : Phi} {C : Ctx} (hT : TysOk P C.tys) {op : BinOp} {t : TypeId} {a b : SV} {st st' : St} {v : SV} (h : binS C op t a b st = .ok (v, st')) :
  Gives Φ st v st' fun ρ ι z => ∀ w x y, (binM op t x y (a.den ρ ι) (b.den ρ ι)).run P w = .ok z w := by
 unfold binS at h
 split at h
 ·rename_i x y
  split at h
  ·rename_i k p k' q h1 h2
   have g := intBin_gives (Φ := Φ) (P := P) (t := t) h
   refine ⟨g.quiet, g.bare, fun ρ hl hf ι w ox oy => ?_⟩
   have e1 := ia_den (ι := ι) hf h1
   have e2 := ia_den (ι := ι) hf h2
   have := g.den ρ hl hf ι w
   simp only [SV.den, SW.den, e1, e2, binM, Sem.run_bind]
   rw [eqGuard_plain (by simp) (by simp)]
   exact this
  ·split at h
   ·rename_i p q h1 h2
    have g := strBin_gives (Φ := Φ) (P := P) (t := t) h
    refine ⟨g.quiet, g.bare, fun ρ hl hf ι w ox oy => ?_⟩
    have e1 := sa_den (ρ := ρ) (ι := ι) h1
    have e2 := sa_den (ρ := ρ) (ι := ι) h2
    have := g.den ρ hl hf ι w
    simp only [SV.den, SW.den, e1, e2, binM, Sem.run_bind]
    rw [eqGuard_plain (by simp) (by simp)]
    exact this
   ·split at h
    ·rename_i p q h1 h2
     split at h
     ·rename_i ho
      have hb : ∀ ρ ι, ∃ c, x.den ρ ι = .bool c := by
       intro ρ ι
       cases x with
       | lit v => cases v <;> simp [SC.ba] at h1; exact ⟨_, rfl⟩
       | bvar x g => exact ⟨_, rfl⟩
       | _ => simp [SC.ba] at h1
      have g := eqS_gives (Φ := Φ) hT ho h (fun ρ ι => by obtain ⟨c, hc⟩ := hb ρ ι; simp [SW.den, hc, notArith])
      refine ⟨g.quiet, g.bare, fun ρ hl hf ι w ox oy => ?_⟩
      have e1 := ba_den (ι := ι) hf h1
      have e2 := ba_den (ι := ι) hf h2
      have := g.den ρ hl hf ι w
      simp only [SW.den, e1, e2] at this
      simp only [SV.den, SW.den, e1, e2, binM, Sem.run_bind]
      rw [eqGuard_plain (by simp) (by simp)]
      exact this
     ·simp [stop] at h
    ·split at h
     ·rename_i ho
      have g := nilEq_gives (Φ := Φ) hT ho h
      refine ⟨g.quiet, g.bare, fun ρ hl hf ι w ox oy => ?_⟩
      have := g.den ρ hl hf ι w
      simp only [SV.den, SW.den, binM, Sem.run_bind]
      have hsh : (∀ cs ds, ¬ (x.den ρ ι = .agg cs ∧ y.den ρ ι = .agg ds)) ∧ ¬ (x.den ρ ι = .nilIface ∧ y.den ρ ι = .nilIface) := by
       unfold nilEq at h
       split at h <;> first
        | (simp [stop] at h; done)
        | simp [SC.den]
      rw [eqGuard_plain hsh.1 hsh.2]
      exact this
     ·simp [stop] at h
 ·rename_i xs ys
  split at h
  ·rename_i ho
   have hs : topSafe C t (.agg xs) = true := by
    unfold eqS at h
    cases hts : topSafe C t (.agg xs) with
    | true => rfl
    | false => rw [hts] at h; simp [stop] at h
   have g := eqS_gives (Φ := Φ) hT ho h (fun ρ ι => by simp [SW.den, notArith])
   refine ⟨g.quiet, g.bare, fun ρ hl hf ι w ox oy => ?_⟩
   have := g.den ρ hl hf ι w
   simp only [SW.den] at this
   simp only [SV.den, SW.den, binM, Sem.run_bind]
   rw [eqGuard_agg (topSafe_ok hT hs)]
   exact this
  ·simp [stop] at h
 ·simp [stop] at h
theorem unS_gives {Φ : Phi} {op : UnOp} {a : SV} {st st' : St} {v : SV} (h : unS op a st = .ok (v, st')) :
  Gives Φ st v st' fun ρ ι z => ∀ w, (Op.unary op (a.den ρ ι)).run P w = .ok z w := by
 unfold unS at h
 split at h
 ·simp only [R.ok.injEq, Prod.mk.injEq] at h
  obtain ⟨rfl, rfl⟩ := h
  exact .lit (bare_litB _) fun ρ hf ι w => rfl
 ·simp only [R.ok.injEq, Prod.mk.injEq] at h
  obtain ⟨rfl, rfl⟩ := h
  refine .lit (bare_c fun _ => trivial) fun ρ hf ι w => ?_
  simp [SV.den, SW.den, SC.den, Op.unary]
 ·split at h
  ·rename_i k p h1
   have g := intBin_gives (Φ := Φ) (P := P) (t := 0) h
   refine ⟨g.quiet, g.bare, fun ρ hl hf ι w => ?_⟩
   have e1 := ia_den (ι := ι) hf h1
   have := g.den ρ hl hf ι w
   generalize v.den ρ ι = z at this ⊢
   simp only [SV.den, SW.den, e1]
   simpa [Op.unary, binOp, IA.den] using this
  ·simp [stop] at h
 ·split at h
  ·rename_i k p h1
   have g := intBin_gives (Φ := Φ) (P := P) (t := 0) h
   refine ⟨g.quiet, g.bare, fun ρ hl hf ι w => ?_⟩
   have e1 := ia_den (ι := ι) hf h1
   have := g.den ρ hl hf ι w
   generalize v.den ρ ι = z at this ⊢
   simp only [SV.den, SW.den, e1]
   simpa [Op.unary, binOp, IA.den] using this
  ·simp [stop] at h
 ·simp [stop] at h
theorem descOf_ok {C : Ctx} (hT : TysOk P C.tys) {t : TypeId} {d : TypeDesc} (hd : descOf C t = some d) : P.underlying t = some d := by
 unfold descOf at hd
 cases hg : C.tys.get t with
 | none => rw [hg] at hd; cases hd
 | some i => rw [hg] at hd; simp only [Option.map_some, Option.some.injEq] at hd; rw [← hd]; exact (hT t i hg).und
theorem convS_gives {Φ : Phi} {C : Ctx} (hT : TysOk P C.tys) {s t : TypeId} {a : SV} {st st' : St} {v : SV} (h : convS C s t a st = .ok (v, st')) :
  Gives Φ st v st' fun ρ ι z => ∀ w, (convert s t (a.den ρ ι)).run P w = .ok z w := by
 unfold convS at h
 split at h
 ·rename_i k1 k x hs ht
  have hs' := descOf_ok hT hs
  have ht' := descOf_ok hT ht
  have key : ∀ k' n w, (convert s t (.int k' n)).run P w = .ok (.int k (k.wrap n)) w := by
   intro k' n w
   simp [convert, run_underlying hs', run_underlying ht', Conv.intToInt]
  split at h
  ·rename_i k' n h1
   simp only [R.ok.injEq, Prod.mk.injEq] at h
   obtain ⟨rfl, rfl⟩ := h
   refine .lit (bare_litI _ _) fun ρ hf ι w => ?_
   have e1 := ia_den (ι := ι) hf h1
   simp only [SV.den, SW.den, e1, key]
   rfl
  ·rename_i k' p _ h1
   have g := mkI_gives (Φ := Φ) h
   refine ⟨g.quiet, g.bare, fun ρ hl hf ι w => ?_⟩
   have e1 := ia_den (ι := ι) hf h1
   rw [(g.den ρ hl hf ι).1]
   simp only [SV.den, SW.den, e1, key]
   rfl
  ·simp [stop] at h
 ·rename_i str hs ht
  have hs' := descOf_ok hT hs
  have ht' := descOf_ok hT ht
  simp only [R.ok.injEq, Prod.mk.injEq] at h
  obtain ⟨rfl, rfl⟩ := h
  refine .lit (bare_c fun _ => trivial) fun ρ hf ι w => ?_
  simp [convert, run_underlying hs', run_underlying ht', SV.den, SW.den, SC.den]
 ·simp [stop] at h
end
end Go.Sx
namespace Go.Sx
set_option linter.unusedSectionVars false
variable [Pins]
set_option linter.unusedSimpArgs false
set_option linter.unusedVariables false
section
variable {P : Program}
def Does (P : Program) (Φ : Phi) (st : St) (v : SV) (st' : St) (ins : List SV) (m : Env → Loc → Sem Value) : Prop :=
 Le Φ st st' ∧ ∀ ρ, LogOk Φ ρ st'.log → Facts ρ st → ∀ A : Nat → Prop, (∀ id, st.nb ≤ id → id < st'.nb → A id) → ∀ ι w, Rep ρ ι A st.heap.get st.nb w →
  (∀ x ∈ ins, x.on (lim st.nb A)) → ∃ ι' w', (m ρ ι).run P w = .ok (v.den ρ ι') w' ∧ Post ρ ι A st w ι' st' w' ∧ v.on (lim st'.nb A)
theorem Does.of_gives {Φ : Phi} {st st' : St} {v : SV} {spec : Env → Loc → Value → Prop} (g : Gives Φ st v st' spec) (ins : List SV) {m : Env → Loc → Sem Value}
  (h : ∀ ρ ι z, spec ρ ι z → ∀ w, (m ρ ι).run P w = .ok z w) : Does P Φ st v st' ins m :=
 ⟨g.quiet.le, fun ρ hl hf A hA ι w hr hin => ⟨ι, w, h ρ ι _ (g.den ρ hl hf ι) w, g.quiet.post hr, g.bare _⟩⟩
theorem Does.quiet {Φ : Phi} {st st' : St} {v : SV} {ins : List SV} {m : Env → Loc → Sem Value} (q : Quiet Φ st st')
  (h : ∀ ρ, LogOk Φ ρ st'.log → Facts ρ st → ∀ A ι w, Rep ρ ι A st.heap.get st.nb w → (∀ x ∈ ins, x.on (lim st.nb A)) →
   (m ρ ι).run P w = .ok (v.den ρ ι) w ∧ v.on (lim st.nb A)) : Does P Φ st v st' ins m :=
 ⟨q.le, fun ρ hl hf A hA ι w hr hin => by
  obtain ⟨h1, h2⟩ := h ρ hl hf A ι w hr hin
  exact ⟨ι, w, h1, q.post hr, by rw [q.nb]; exact h2⟩⟩
theorem Blk.cells_length (ρ : Env) (ι : Loc) (b : Blk) : (b.cells ρ ι).length = b.size := by simp [Blk.cells]
theorem Blk.cells_get (ρ : Env) (ι : Loc) (b : Blk) {i : Nat} (h : i < b.size) : (b.cells ρ ι)[i]? = some ((b.at i).den ρ ι) := by simp [Blk.cells, h]
theorem Blk.get_some {b : Blk} {i : Nat} {v : SC} (h : b.get i = some v) : i < b.size ∧ v = b.at i := by
 unfold Blk.get at h
 split at h
 ·rename_i hh
  simp only [Option.some.injEq] at h
  exact ⟨by simpa using hh, h.symm⟩
 ·cases h
theorem Blk.row_some {b : Blk} : ∀ {n off : Nat} {l : List SC}, b.row off n = some l → l.length = n ∧ ∀ j, j < n → off + j < b.size ∧ l[j]? = some (b.at (off + j))
 | 0, off, l, h => by
  simp only [Blk.row, Option.some.injEq] at h
  subst h
  exact ⟨rfl, fun j hj => by omega⟩
 | n + 1, off, l, h => by
  simp only [Blk.row] at h
  split at h
  ·rename_i v m hv hm
   simp only [Option.some.injEq] at h
   subst h
   obtain ⟨h1, h2⟩ := Blk.row_some hm
   obtain ⟨h3, h4⟩ := Blk.get_some hv
   refine ⟨by simp [h1], fun j hj => ?_⟩
   cases j with
   | zero => exact ⟨h3, by simp [h4]⟩
   | succ j =>
    obtain ⟨h5, h6⟩ := h2 j (by omega)
    exact ⟨by omega, by simp only [List.getElem?_cons_succ, h6]; congr 2; omega⟩
  ·cases h
theorem Blk.row_on {b : Blk} {n off : Nat} {l : List SC} (h : b.row off n = some l) {A : Nat → Prop} (hb : b.on A) : ∀ c ∈ l, c.on A := by
 intro c hc
 obtain ⟨h1, h2⟩ := Blk.row_some h
 obtain ⟨j, hj⟩ := List.mem_iff_getElem?.1 hc
 have hlt : j < n := by
  rw [← h1]
  exact (List.getElem?_eq_some_iff.1 hj).1
 obtain ⟨h3, h4⟩ := h2 j hlt
 rw [hj] at h4
 simp only [Option.some.injEq] at h4
 rw [h4]
 exact hb _ h3
theorem Blk.at_put (b : Blk) (i : Nat) (v : SC) (j : Nat) : (b.put i v).at j = if j = i then v else b.at j := by
 unfold Blk.put Blk.at
 rw [Tr.get_set]
 split <;> simp
theorem Blk.puts_some : ∀ {vs : List SC} {b b' : Blk} {off : Nat}, b.puts off vs = some b' →
  b'.elem = b.elem ∧ b'.size = b.size ∧ b'.more = b.more ∧ (vs ≠ [] → off + vs.length ≤ b.size) ∧ (∀ v ∈ vs, v.one = true) ∧
   ∀ j, b'.at j = if off ≤ j ∧ j < off + vs.length then vs.getD (j - off) (.lit undef) else b.at j
 | [], b, b', off, h => by
  simp only [Blk.puts, Option.some.injEq] at h
  subst h
  exact ⟨rfl, rfl, rfl, fun h => absurd rfl h, (fun v hv => by cases hv), fun j => by rw [if_neg (by simp only [List.length_nil]; omega)]⟩
 | v :: vs, b, b', off, h => by
  simp only [Blk.puts] at h
  split at h
  ·rename_i hh
   simp only [Bool.and_eq_true] at hh
   have hlt : off < b.size := by simpa using hh.1
   obtain ⟨h1, h2, h3, h4, h5, h6⟩ := Blk.puts_some h
   refine ⟨h1, h2, h3, fun _ => ?_, fun x hx => ?_, fun j => ?_⟩
   ·cases vs with
    | nil => simp; omega
    | cons x xs =>
     have := h4 (by simp)
     simp only [Blk.put] at this
     simp only [List.length_cons] at this ⊢
     omega
   ·rcases List.mem_cons.1 hx with rfl | hx
    ·exact hh.2
    ·exact h5 x hx
   ·rw [h6 j]
    by_cases e : j = off
    ·subst e
     rw [if_neg (by omega), if_pos (by simp), Blk.at_put, if_pos rfl]
     simp
    ·by_cases e2 : off + 1 ≤ j ∧ j < off + 1 + vs.length
     ·rw [if_pos e2, if_pos (by simp; omega)]
      have : j - off = (j - (off + 1)) + 1 := by omega
      rw [this]
      simp
     ·rw [if_neg e2, if_neg (by simp; omega), Blk.at_put, if_neg e]
  ·cases h
theorem Blk.puts_mp : ∀ {vs : List SC} {b b' : Blk} {off : Nat}, b.puts off vs = some b' → b'.mp = b.mp
 | [], b, b', off, h => by
  simp only [Blk.puts, Option.some.injEq] at h
  rw [← h]
 | v :: vs, b, b', off, h => by
  simp only [Blk.puts] at h
  split at h
  ·exact (Blk.puts_mp h).trans rfl
  ·cases h
theorem Blk.puts_cells {vs : List SC} {b b' : Blk} {off : Nat} (h : b.puts off vs = some b') (hne : vs ≠ []) (ρ : Env) (ι : Loc) :
  b'.cells ρ ι = (b.cells ρ ι).take off ++ vs.map (SC.den ρ ι) ++ (b.cells ρ ι).drop (off + vs.length) := by
 obtain ⟨h1, h2, h3, h4, h5, h6⟩ := Blk.puts_some h
 have h4 := h4 hne
 apply List.ext_getElem?
 intro j
 by_cases hj : j < b.size
 ·rw [Blk.cells_get ρ ι b' (by rw [h2]; exact hj), h6 j]
  by_cases e1 : j < off
  ·rw [if_neg (by omega), List.append_assoc, List.getElem?_append_left (by rw [List.length_take, Blk.cells_length]; omega), List.getElem?_take, if_pos e1, Blk.cells_get ρ ι b hj]
  ·by_cases e2 : j < off + vs.length
   ·rw [if_pos ⟨by omega, e2⟩, List.append_assoc, List.getElem?_append_right (by rw [List.length_take, Blk.cells_length]; omega), List.length_take, Blk.cells_length,
     Nat.min_eq_left (by omega), List.getElem?_append_left (by simp; omega)]
    rw [List.getElem?_map, List.getD_eq_getElem?_getD]
    have : j - off < vs.length := by omega
    simp [this]
   ·rw [if_neg (by omega), List.getElem?_append_right (by simp [Blk.cells_length]; omega), List.getElem?_drop, ← Blk.cells_get ρ ι b hj]
    congr 1
    simp [Blk.cells_length]
    omega
 ·rw [List.getElem?_eq_none (by rw [Blk.cells_length, h2]; omega), List.getElem?_eq_none]
  simp [Blk.cells_length]
  omega
theorem Blk.puts_on {vs : List SC} {b b' : Blk} {off : Nat} (h : b.puts off vs = some b') {A : Nat → Prop} (hb : b.on A) (hv : ∀ c ∈ vs, c.on A) : b'.on A := by
 obtain ⟨h1, h2, h3, h4, h5, h6⟩ := Blk.puts_some h
 intro j hj
 rw [h6 j]
 split
 ·rename_i hh
  have : j - off < vs.length := by omega
  rw [List.getD_eq_getElem?_getD, List.getElem?_eq_getElem this]
  exact hv _ (List.getElem_mem this)
 ·exact hb j (by omega)
theorem Blk.at_ofList (t : TypeId) (l : List SC) {i : Nat} (h : i < l.length) : (Blk.ofList t l).at i = l[i] := by
 unfold Blk.at Blk.ofList
 rw [Tr.get_setAll, if_pos (by omega)]
 simp [h]
theorem Blk.cells_ofList (t : TypeId) (l : List SC) (ρ : Env) (ι : Loc) : (Blk.ofList t l).cells ρ ι = l.map (SC.den ρ ι) := by
 apply List.ext_getElem
 ·simp [Blk.cells, Blk.ofList]
 ·intro i h1 h2
  have h3 : i < l.length := by simpa using h2
  simp [Blk.cells, Blk.at_ofList t l h3]
theorem Blk.on_ofList {t : TypeId} {l : List SC} {A : Nat → Prop} (h : ∀ c ∈ l, c.on A) : (Blk.ofList t l).on A := by
 intro i hi
 have hi' : i < l.length := hi
 rw [Blk.at_ofList t l hi']
 exact h _ (List.getElem_mem hi')
theorem SC.one_den {c : SC} (h : c.one = true) (ρ : Env) (ι : Loc) : (c.den ρ ι).oneCell' = true := by
 cases c with
 | lit v => cases v <;> simp [SC.one] at h <;> rfl
 | _ => rfl
theorem newBlk_le {Φ : Phi} {st : St} {b : Blk} : Le Φ st (newBlk b st).2 := by
 refine ⟨⟨[], rfl⟩, Nat.le_succ _, ⟨[], rfl, fun id hid _ => ?_, fun _ h => by cases h⟩, fun id hid hn => ?_, fun _ _ h => h⟩
 ·show (st.heap.set st.nb b).get id = _
  rw [Tr.get_set, if_neg (by omega)]
 ·show (st.heap.set st.nb b).get id = _
  rw [Tr.get_set, if_neg (by omega)]
  exact hn
def Loc.set (ι : Loc) (id g c : Nat) : Loc := ⟨fun i => if i = id then g else ι.blk i, fun i => if i = id then c else ι.cap i⟩
theorem Loc.set_alike {ι : Loc} {nb g c : Nat} {A : Nat → Prop} (hA : ∀ i, A i → i < nb) : Loc.alike A ι (ι.set nb g c) := by
 intro i hi
 have : i ≠ nb := by have := hA i hi; omega
 simp [Loc.set, this]
theorem newObj_post {ρ : Env} {ι : Loc} {A : Nat → Prop} {st : St} {w : World} (hr : Rep ρ ι A st.heap.get st.nb w) {b : Blk} (hb : b.on (lim st.nb A)) (hA : A st.nb)
  {o : Obj} (ho : BlkAt ρ ι b (some o)) (c : Nat) (n : Nat) :
  Post ρ ι A st w (ι.set st.nb w.heap.size c) (newBlk b st).2 { w with heap := w.heap.push o, drawn := n } := by
 have hal : Loc.alike (lim st.nb A) ι (ι.set st.nb w.heap.size c) := Loc.set_alike fun i hi => hi.1
 have hne : ∀ id k, st.heap.get id = some k → id ≠ st.nb := fun id k hk => by have := (hr.lt id k hk).1; omega
 have hget : ∀ id k, (newBlk b st).2.heap.get id = some k → (id = st.nb ∧ k = b) ∨ (id ≠ st.nb ∧ st.heap.get id = some k) := by
  intro id k hk
  have hk' : (st.heap.set st.nb b).get id = some k := hk
  rw [Tr.get_set] at hk'
  split at hk'
  ·rename_i e
   simp only [Option.some.injEq] at hk'
   exact .inl ⟨e, hk'.symm⟩
  ·rename_i e; exact .inr ⟨e, hk'⟩
 have hmono : ∀ i, lim st.nb A i → lim (st.nb + 1) A i := fun i hi => ⟨Nat.lt_succ_of_lt hi.1, hi.2⟩
 refine ⟨Loc.set_alike fun i hi => hi, ⟨fun id k hk => ?_, fun id k hk => ?_, fun id k hk => ?_, fun id id' k k' hk hk' he => ?_, by simp; have := hr.pin.1; omega, Pins.keep w _ (fun g hg => by (have := hr.pin.1; simp only [Array.getElem?_push]; rw [if_neg (by omega)])) hr.pin.2.1, fun id k hk => ?_⟩, rfl, rfl, rfl, by simp, fun g hg _ => ?_, fun id h1 h2 => ?_⟩
 ·rcases hget id k hk with ⟨rfl, _⟩ | ⟨_, hk⟩
  ·exact ⟨Nat.lt_succ_self _, hA⟩
  ·exact ⟨Nat.lt_succ_of_lt (hr.lt id k hk).1, (hr.lt id k hk).2⟩
 ·rcases hget id k hk with ⟨rfl, rfl⟩ | ⟨hn, hk⟩
  ·have := ho.alike hal hb
   simpa [Loc.set] using this
  ·have h1 := (hr.blk id k hk).alike hal (hr.on id k hk)
   have hs := hr.size hk
   have e : (ι.set st.nb w.heap.size c).blk id = ι.blk id := by simp [Loc.set, hn]
   rw [e]
   simp only [Array.getElem?_push]
   rw [if_neg (by omega)]
   exact h1
 ·rcases hget id k hk with ⟨rfl, rfl⟩ | ⟨hn, hk⟩
  ·exact fun i hi => SC.on_mono hmono (hb i hi)
  ·exact fun i hi => SC.on_mono hmono (hr.on id k hk i hi)
 ·rcases hget id k hk with ⟨e1, _⟩ | ⟨hn, hk⟩
  ·rcases hget id' k' hk' with ⟨e2, _⟩ | ⟨hn', hk'⟩
   ·rw [e1, e2]
   ·have := hr.size hk'
    simp [Loc.set, e1, hn'] at he
    omega
  ·rcases hget id' k' hk' with ⟨e2, _⟩ | ⟨hn', hk'⟩
   ·have := hr.size hk
    simp [Loc.set, e2, hn] at he
    omega
   ·simp [Loc.set, hn, hn'] at he
    exact hr.inj id id' k k' hk hk' he
 ·have := hr.pin.1
  rcases hget id k hk with ⟨e1, _⟩ | ⟨hn, hk⟩
  ·simp [Loc.set, e1]; omega
  ·have := hr.pin.2.2 id k hk
   simp [Loc.set, hn]; omega
 ·simp only [Array.getElem?_push]
  rw [if_neg (by omega)]
 ·have : id = st.nb := by
   have : id < st.nb + 1 := h2
   omega
  simp [Loc.set, this]
theorem newBlk_post {ρ : Env} {ι : Loc} {A : Nat → Prop} {st : St} {w : World} (hr : Rep ρ ι A st.heap.get st.nb w) {b : Blk} (hb : b.on (lim st.nb A)) (hA : A st.nb)
  (rest : List Value) (hmore : b.more = false → rest = []) (c : Nat) (n : Nat) (h0 : b.mp = none := by rfl) :
  Post ρ ι A st w (ι.set st.nb w.heap.size c) (newBlk b st).2 { w with heap := w.heap.push (.cells (b.cells ρ ι ++ rest).toArray b.elem (0, 0)), drawn := n } :=
 newObj_post hr hb hA (.inl ⟨h0, rest, rfl, hmore⟩) c n
theorem setBlk_le {Φ : Phi} {st : St} {id : Nat} {b k : Blk} (hk : st.heap.get id = some k) : Le Φ st (setBlk id b st) := by
 refine ⟨⟨[], rfl⟩, Nat.le_refl _, ⟨[id], rfl, fun i hi hn => ?_, fun i h hlt => ?_⟩, fun i hi hn => ?_, fun _ _ h => h⟩
 ·show (st.heap.set id b).get i = _
  rw [Tr.get_set, if_neg (by simpa using hn)]
 ·simp only [List.mem_singleton] at h
  rw [h, hk]
  simp
 ·show (st.heap.set id b).get i = _
  rw [Tr.get_set, if_neg (fun e => by rw [e, hk] at hn; cases hn)]
  exact hn
theorem setObj_post {ρ : Env} {ι : Loc} {A : Nat → Prop} {st : St} {w w' : World} (hr : Rep ρ ι A st.heap.get st.nb w) {id : Nat} {k b : Blk} (hk : st.heap.get id = some k)
  (hb : b.on (lim st.nb A)) {o : Obj} (ho : BlkAt ρ ι b (some o)) (hrow : w'.heap[ι.blk id]? = some o) (hoth : ∀ g, g ≠ ι.blk id → w'.heap[g]? = w.heap[g]?)
  (hos : w'.os = w.os) (htape : w'.tape = w.tape) (hout : w'.output = w.output) (hsz : w'.heap.size = w.heap.size) :
  Post ρ ι A st w ι (setBlk id b st) w' := by
 have hget : ∀ i q, (setBlk id b st).heap.get i = some q → (i = id ∧ q = b) ∨ (i ≠ id ∧ st.heap.get i = some q) := by
  intro i q hq
  have hq' : (st.heap.set id b).get i = some q := hq
  rw [Tr.get_set] at hq'
  split at hq'
  ·rename_i e
   simp only [Option.some.injEq] at hq'
   exact .inl ⟨e, hq'.symm⟩
  ·rename_i e; exact .inr ⟨e, hq'⟩
 refine ⟨.refl _ _, ⟨fun i q hq => ?_, fun i q hq => ?_, fun i q hq => ?_, fun i i' q q' hq hq' he => ?_, by rw [hsz]; exact hr.pin.1, Pins.keep w w' (fun g hg => hoth g (fun e => by (have := hr.pin.2.2 id k hk; omega))) hr.pin.2.1, fun i q hq => ?_⟩, hos, htape, hout, by omega, fun g hg hn => ?_, fun i h1 h2 => ?_⟩
 ·rcases hget i q hq with ⟨rfl, _⟩ | ⟨_, hq⟩
  ·exact hr.lt i k hk
  ·exact hr.lt i q hq
 ·rcases hget i q hq with ⟨rfl, rfl⟩ | ⟨hn, hq⟩
  ·rw [hrow]; exact ho
  ·rw [hoth _ (fun e => hn (hr.inj i id q k hq hk e))]
   exact hr.blk i q hq
 ·rcases hget i q hq with ⟨rfl, rfl⟩ | ⟨_, hq⟩
  ·exact hb
  ·exact hr.on i q hq
 ·have h1 : ∃ q, st.heap.get i = some q := by
   rcases hget i q hq with ⟨rfl, _⟩ | ⟨_, hq⟩
   ·exact ⟨k, hk⟩
   ·exact ⟨q, hq⟩
  have h2 : ∃ q, st.heap.get i' = some q := by
   rcases hget i' q' hq' with ⟨rfl, _⟩ | ⟨_, hq⟩
   ·exact ⟨k, hk⟩
   ·exact ⟨q', hq⟩
  obtain ⟨q1, h1⟩ := h1
  obtain ⟨q2, h2⟩ := h2
  exact hr.inj i i' q1 q2 h1 h2 he
 ·rcases hget i q hq with ⟨rfl, _⟩ | ⟨_, hq⟩
  ·exact hr.pin.2.2 i k hk
  ·exact hr.pin.2.2 i q hq
 ·exact hoth g (fun e => hn id k hk e.symm)
 ·have : (setBlk id b st).nb = st.nb := rfl
  omega
theorem setBlk_post {ρ : Env} {ι : Loc} {A : Nat → Prop} {st : St} {w : World} (hr : Rep ρ ι A st.heap.get st.nb w) {id : Nat} {k b : Blk} (hk : st.heap.get id = some k) (h0 : k.mp = none)
  (hb : b.on (lim st.nb A)) {arr : Array Value} (harr : BlkAt ρ ι b (some (.cells arr k.elem (0, 0)))) :
  Post ρ ι A st w ι (setBlk id b st) (w.setRow (ι.blk id) arr) := by
 rcases hr.blk id k hk with ⟨_, r0, hw, _⟩ | ⟨_, es, e, _⟩
 ·exact setObj_post hr hk hb harr (setRow_heap w (ι.blk id) _ arr _ _ hw) (fun g hg => setRow_other _ _ _ _ hg) rfl rfl rfl (by simp)
 ·rw [h0] at e; cases e
theorem Rep.cell {ρ : Env} {ι : Loc} {A : Nat → Prop} {H : Nat → Option Blk} {nb : Nat} {w : World} (hr : Rep ρ ι A H nb w) {id : Nat} {k : Blk} (hk : H id = some k) {i : Nat} (hi : i < k.size) :
  w.cell? ⟨ι.blk id, i, none⟩ = some ((k.at i).den ρ ι) := by
 obtain ⟨_, r, h1, _⟩ := (hr.blk id k hk).cells (by omega)
 simp only [World.cell?, h1, Option.isSome_none, Bool.false_eq_true, if_false]
 rw [List.getElem?_toArray, List.getElem?_append_left (by rw [Blk.cells_length]; exact hi), Blk.cells_get ρ ι k hi]
theorem addr_add (g off i : Nat) : (⟨g, off, none⟩ : Addr).add i = ⟨g, off + i, none⟩ := by
 unfold Addr.add
 split
 ·rename_i h; simp [h]
 ·rfl
theorem loadCells_run {ρ : Env} {ι : Loc} {A : Nat → Prop} {H : Nat → Option Blk} {nb : Nat} {w : World} (hr : Rep ρ ι A H nb w) {id : Nat} {k : Blk} (hk : H id = some k) {off n : Nat} {l : List SC}
  (hl : k.row off n = some l) : (loadCells ⟨ι.blk id, off, none⟩ n).run P w = .ok (l.map (SC.den ρ ι)).toArray w := by
 obtain ⟨h1, h2⟩ := Blk.row_some hl
 have := run_loadCells_list (P := P) w ⟨ι.blk id, off, none⟩ (l.map (SC.den ρ ι)) (fun j v hj => by
  rw [List.getElem?_map] at hj
  have hlt : j < n := by
   rcases Nat.lt_or_ge j n with h | h
   ·exact h
   ·rw [List.getElem?_eq_none (by omega)] at hj; cases hj
  obtain ⟨h3, h4⟩ := h2 j hlt
  rw [h4] at hj
  simp only [Option.map_some, Option.some.injEq] at hj
  rw [addr_add, hr.cell hk h3, hj])
 rw [List.length_map, h1] at this
 exact this
theorem storeCells_run {ρ : Env} {ι : Loc} {A : Nat → Prop} {st : St} {w : World} (hr : Rep ρ ι A st.heap.get st.nb w) {id : Nat} {k b : Blk} (hk : st.heap.get id = some k) {off : Nat} {vs : List SC}
  (hp : k.puts off vs = some b) (hv : ∀ c ∈ vs, c.on (lim st.nb A)) :
  ∃ w', (storeCells ⟨ι.blk id, off, none⟩ (vs.map (SC.den ρ ι))).run P w = .ok () w' ∧ Post ρ ι A st w ι (setBlk id b st) w' := by
 obtain ⟨h1, h2, h3, h4, h5, h6⟩ := Blk.puts_some hp
 have hbon := Blk.puts_on hp (hr.on id k hk) hv
 by_cases hne : vs = []
 ·subst hne
  simp only [Blk.puts, Option.some.injEq] at hp
  subst hp
  refine ⟨w, rfl, ?_⟩
  obtain ⟨o, ho⟩ := (hr.blk id k hk).obj
  exact setObj_post hr hk hbon (by rw [← ho]; exact hr.blk id k hk) ho (fun _ _ => rfl) rfl rfl rfl rfl
 ·have h4 := h4 hne
  have hpos : 0 < vs.length := by
   cases vs with
   | nil => exact absurd rfl hne
   | cons _ _ => simp
  obtain ⟨hmp, r, hw, hm⟩ := (hr.blk id k hk).cells (by omega)
  have hrun := run_storeCells_at (P := P) (ι.blk id) off k.elem (vs.map (SC.den ρ ι)) 0 _ w hw (by simp [Blk.cells_length]; omega) (fun x hx => by
   obtain ⟨c, hc, rfl⟩ := List.mem_map.1 hx
   exact SC.one_den (h5 c hc) ρ ι)
  refine ⟨_, hrun, setBlk_post hr hk hmp hbon (.inl ⟨(Blk.puts_mp hp).trans hmp, r, ?_, fun e => hm (by rw [← h3]; exact e)⟩)⟩
  simp only [Nat.add_zero, List.length_map]
  rw [Blk.puts_cells hp hne ρ ι, h1]
  congr 3
  rw [List.take_append_of_le_length (by rw [Blk.cells_length]; omega), List.drop_append_of_le_length (by rw [Blk.cells_length]; omega)]
  simp [List.append_assoc]
end
end Go.Sx
namespace Go.Sx
set_option linter.unusedSectionVars false
variable [Pins]
set_option linter.unusedSimpArgs false
set_option linter.unusedVariables false
section
variable {P : Program}
theorem SV.den_w (ρ : Env) (ι : Loc) (x : SW) : (SV.w x).den ρ ι = x.den ρ ι := rfl
theorem SW.den_ptr (ρ : Env) (ι : Loc) (b o : Nat) : (SW.c (SC.ptr b o)).den ρ ι = .pointer (some ⟨ι.blk b, o, none⟩) := rfl
theorem SW.den_slc (ρ : Env) (ι : Loc) (b o l c : Nat) : (SW.c (SC.slc b o l c)).den ρ ι = .slice (some ⟨ι.blk b, o, none⟩) l c := rfl
theorem SW.den_slu (ρ : Env) (ι : Loc) (b l : Nat) : (SW.c (SC.slu b l)).den ρ ι = .slice (some ⟨ι.blk b, 0, none⟩) l (ι.cap b) := rfl
theorem SW.den_lit (ρ : Env) (ι : Loc) (v : Value) : (SW.c (SC.lit v)).den ρ ι = v := rfl
theorem SW.den_agg (ρ : Env) (ι : Loc) (xs : List SC) : (SW.agg xs).den ρ ι = .agg (xs.map (SC.den ρ ι)).toArray := rfl
theorem SW.den_cells (ρ : Env) (ι : Loc) (x : SW) (hx : ∀ c, x = .c c → c.one = true) : (x.den ρ ι).cells.toList = x.cells.map (SC.den ρ ι) := by
 cases x with
 | c c =>
  have := SC.one_den (hx c rfl) ρ ι
  simp only [SW.den, SW.cells, List.map_cons, List.map_nil]
  generalize c.den ρ ι = v at this
  cases v <;> simp [Value.oneCell'] at this <;> rfl
 | agg xs => simp [SW.den, SW.cells, Value.cells]
theorem SW.good_cells {x : SW} (h : goodW x = true) (ρ : Env) (ι : Loc) : (x.den ρ ι).cells = (x.cells.map (SC.den ρ ι)).toArray := by
 have := SW.den_cells ρ ι x (fun c e => by subst e; exact h)
 rw [← this]
theorem boxS_does {Φ : Phi} {t : TypeId} {xs : List SC} {st st' : St} {v : SV} (h : boxS t xs st = .ok (v, st')) (ins : List SV)
  (hon : ∀ A, (∀ x ∈ ins, x.on A) → ∀ c ∈ xs, c.on A) {m : Env → Loc → Sem Value}
  (hm : ∀ ρ ι w, (m ρ ι).run P w = .ok (.pointer (some ⟨w.heap.size, 0, none⟩)) { w with heap := w.heap.push (.cells (xs.map (SC.den ρ ι)).toArray t (0, 0)) }) :
  Does P Φ st v st' ins m := by
 simp only [boxS, R.ok.injEq, Prod.mk.injEq] at h
 obtain ⟨rfl, rfl⟩ := h
 refine ⟨newBlk_le, fun ρ hl hf A hA ι w hr hin => ?_⟩
 have hb := Blk.on_ofList (t := t) (hon _ hin)
 have hA' : A st.nb := hA st.nb (Nat.le_refl _) (Nat.lt_succ_self _)
 have := newBlk_post hr hb hA' [] (fun _ => rfl) 0 w.drawn
 rw [Blk.cells_ofList, List.append_nil] at this
 refine ⟨_, _, ?_, this, ?_⟩
 ·rw [hm ρ ι w]
  simp [SV.den, SW.den, SC.den, newBlk, Loc.set, Blk.ofList]
 ·intro c hc
  simp only [SW.cells, List.mem_singleton] at hc
  subst hc
  exact ⟨Nat.lt_succ_self _, hA'⟩
theorem zeroCells_run {C : Ctx} (hT : TysOk P C.tys) {t : TypeId} {z : List SC} (h : zeroCells C t = some z) :
  ∃ v, (∀ w, (zeroValue t).run P w = .ok v w) ∧ ∀ ρ ι, v.cells = (z.map (SC.den ρ ι)).toArray := by
 unfold zeroCells at h
 split at h
 ·rename_i i hi
  split at h
  ·rename_i v hv
   simp only [Option.some.injEq] at h
   subst h
   refine ⟨v, fun w => ?_, fun ρ ι => ?_⟩
   ·obtain ⟨f, h1, _, _, h4⟩ := (hT t i hi).runInfo w
    simp [zeroValue, h1, h4, hv]
   ·simp [List.map_map, Function.comp_def, SC.den]
  ·cases h
 ·cases h
theorem zeroCells_on {C : Ctx} {t : TypeId} {z : List SC} (h : zeroCells C t = some z) (A : Nat → Prop) : ∀ c ∈ z, c.on A := by
 unfold zeroCells at h
 split at h
 ·split at h
  ·simp only [Option.some.injEq] at h
   subst h
   intro c hc
   obtain ⟨v, _, rfl⟩ := List.mem_map.1 hc
   trivial
  ·cases h
 ·cases h
theorem zeroCells_one {C : Ctx} {t : TypeId} {z : List SC} (h : zeroCells C t = some z) : ∀ c ∈ z, ∃ v, c = .lit v := by
 unfold zeroCells at h
 split at h
 ·split at h
  ·simp only [Option.some.injEq] at h
   subst h
   intro c hc
   obtain ⟨v, _, rfl⟩ := List.mem_map.1 hc
   exact ⟨v, rfl⟩
  ·cases h
 ·cases h
theorem alloc_does {Φ : Phi} {C : Ctx} (hT : TysOk P C.tys) {t : TypeId} {z : List SC} (hz : zeroCells C t = some z) {st st' : St} {v : SV} (h : boxS t z st = .ok (v, st')) :
  Does P Φ st v st' [] fun _ _ => Instr.alloc t true (.tuple #[]) := by
 obtain ⟨zv, h1, h2⟩ := zeroCells_run hT hz
 refine boxS_does h [] (fun A _ => zeroCells_on hz A) fun ρ ι w => ?_
 simp only [Instr.alloc, Sem.run_bind, h1, Result.andThen_ok, newVar, newRow, run_newObj, Sem.run_pure, h2 ρ ι]
theorem box_does {Φ : Phi} {t : TypeId} {x : SW} (hx : goodW x = true) {st st' : St} {v : SV} (h : boxS t x.cells st = .ok (v, st')) :
  Does P Φ st v st' [.w x] fun ρ ι => Instr.box t (x.den ρ ι) := by
 refine boxS_does h [.w x] (fun A hin => hin (.w x) (by simp)) fun ρ ι w => ?_
 simp only [Instr.box, Sem.run_bind, Result.andThen_ok, newVar, newRow, run_newObj, Sem.run_pure, SW.good_cells hx]
theorem loadVar_run {C : Ctx} (hT : TysOk P C.tys) {t : TypeId} {i : TI} (hi : C.tys.get t = some i) {ρ : Env} {ι : Loc} {A : Nat → Prop} {H : Nat → Option Blk} {nb : Nat} {w : World}
  (hr : Rep ρ ι A H nb w) {id off : Nat} {k : Blk} (hk : H id = some k) {y : SW}
  (hy : (aggDesc i.desc = true ∧ ∃ l, k.row off i.size = some l ∧ y = .agg l) ∨ (aggDesc i.desc = false ∧ ∃ c, k.get off = some c ∧ y = .c c)) :
  (loadVar t ⟨ι.blk id, off, none⟩).run P w = .ok (y.den ρ ι) w ∧ y.on (lim nb A) := by
 have ht := hT t i hi
 unfold loadVar
 simp only [Sem.run_bind, ht.runAgg, Result.andThen_ok]
 rcases hy with ⟨ha, l, hl, rfl⟩ | ⟨ha, c, hc, rfl⟩
 ·simp only [ha, if_true, Sem.run_bind, ht.runSize, Result.andThen_ok, loadCells_run hr hk hl, Sem.run_pure, SW.den]
  exact ⟨trivial, Blk.row_on hl (hr.on id k hk)⟩
 ·obtain ⟨h1, h2⟩ := Blk.get_some hc
  simp only [ha, Bool.false_eq_true, if_false, run_load, hr.cell hk h1, SW.den, h2]
  refine ⟨trivial, fun d hd => ?_⟩
  simp only [SW.cells, List.mem_singleton] at hd
  subst hd
  exact hr.on id k hk off h1
theorem loadS_ok {C : Ctx} {t : TypeId} {a : SV} {st st' : St} {v : SV} (h : loadS C t a st = .ok (v, st')) :
  st' = st ∧ ∃ id off k i y, a = .w (.c (.ptr id off)) ∧ st.heap.get id = some k ∧ C.tys.get t = some i ∧ v = .w y ∧
   ((aggDesc i.desc = true ∧ ∃ l, k.row off i.size = some l ∧ y = .agg l) ∨ (aggDesc i.desc = false ∧ ∃ c, k.get off = some c ∧ y = .c c)) := by
 unfold loadS at h
 split at h
 ·rename_i id off
  split at h
  ·rename_i k i hk hi
   split at h
   ·rename_i ha
    split at h
    ·rename_i l hl
     simp only [R.ok.injEq, Prod.mk.injEq] at h
     obtain ⟨rfl, rfl⟩ := h
     exact ⟨rfl, id, off, k, i, _, rfl, hk, hi, rfl, .inl ⟨ha, l, hl, rfl⟩⟩
    ·simp [stop] at h
   ·rename_i ha
    split at h
    ·rename_i c hc
     simp only [R.ok.injEq, Prod.mk.injEq] at h
     obtain ⟨rfl, rfl⟩ := h
     exact ⟨rfl, id, off, k, i, _, rfl, hk, hi, rfl, .inr ⟨by simpa using ha, c, hc, rfl⟩⟩
    ·simp [stop] at h
  ·simp [stop] at h
 ·simp [stop] at h
theorem load_does {Φ : Phi} {C : Ctx} (hT : TysOk P C.tys) {t : TypeId} {a : SV} {st st' : St} {v : SV} (h : loadS C t a st = .ok (v, st')) :
  Does P Φ st v st' [a] fun ρ ι => Instr.loadAt t (a.den ρ ι) := by
 obtain ⟨rfl, id, off, k, i, y, rfl, hk, hi, rfl, hy⟩ := loadS_ok h
 refine .quiet (.refl _ _) fun ρ _ _ A ι w hr _ => ?_
 obtain ⟨h1, h2⟩ := loadVar_run hT hi hr hk hy
 refine ⟨?_, h2⟩
 simp only [Instr.loadAt, SV.den, SW.den, SC.den, Instr.sureAddr, Sem.run_bind, Sem.run_pure, Result.andThen_ok]
 exact h1
theorem storeVar_run {C : Ctx} (hT : TysOk P C.tys) {t : TypeId} {i : TI} (hi : C.tys.get t = some i) {ρ : Env} {ι : Loc} {A : Nat → Prop} {st : St} {w : World}
  (hr : Rep ρ ι A st.heap.get st.nb w) {id off : Nat} {k b : Blk} (hk : st.heap.get id = some k) {x : SW} (hlen : x.cells.length = i.size) (hp : k.puts off x.cells = some b) (hx : x.on (lim st.nb A)) :
  ∃ w', (storeVar t ⟨ι.blk id, off, none⟩ (x.den ρ ι)).run P w = .ok () w' ∧ Post ρ ι A st w ι (setBlk id b st) w' := by
 have ht := hT t i hi
 obtain ⟨_, _, _, _, hone, _⟩ := Blk.puts_some hp
 have hc := SW.den_cells ρ ι x (fun c e => by subst e; exact hone c (by simp [SW.cells]))
 obtain ⟨w', h1, h2⟩ := storeCells_run (P := P) hr hk hp hx
 refine ⟨w', ?_, h2⟩
 have hsz : (x.den ρ ι).cells.size = i.size := by
  have := congrArg List.length hc
  simpa [hlen] using this
 unfold storeVar
 simp only [Sem.run_bind, ht.runSize, Result.andThen_ok, hsz, ne_eq, not_true_eq_false, if_false, Sem.run_pure, hc]
 exact h1
theorem store_does {Φ : Phi} {C : Ctx} (hT : TysOk P C.tys) {t : TypeId} {a x : SV} {st st' : St} {v : SV} (h : storeS C t a x st = .ok (v, st')) :
  Does P Φ st v st' [a, x] (fun ρ ι => (Instr.storeAt t (a.den ρ ι) (x.den ρ ι)).bind fun _ => Sem.pure undef) := by
 unfold storeS at h
 split at h
 ·rename_i id off y
  split at h
  ·rename_i k i hk hi
   split at h
   ·rename_i hlen
    split at h
    ·rename_i b hb
     simp only [R.ok.injEq, Prod.mk.injEq] at h
     obtain ⟨rfl, rfl⟩ := h
     refine ⟨setBlk_le hk, fun ρ _ _ A hA ι w hr hin => ?_⟩
     obtain ⟨w', h1, h2⟩ := storeVar_run hT hi hr hk (by simpa using hlen) hb (hin (.w y) (by simp))
     refine ⟨ι, w', ?_, h2, bare_undef _⟩
     rw [Sem.run_bind']
     simp only [Instr.storeAt, SV.den_w, SW.den_ptr, Instr.sureAddr, pure_bind, h1, Result.andThen_ok]
     rfl
    ·simp [stop] at h
   ·simp [stop] at h
  ·simp [stop] at h
 ·simp [stop] at h
theorem spliceL_length {base l : List SC} {off : Nat} (h : off + l.length ≤ base.length) : (spliceL base off l).length = base.length := by
 simp [spliceL]; omega
theorem foldl_set (off : Nat) : ∀ (l : List Value) (k : Nat) (cs : Array Value) (j : Nat),
  ((l.zipIdx k).foldl (fun cs p => cs.setIfInBounds (off + p.2) p.1) cs)[j]? = if off + k ≤ j ∧ j < off + k + l.length ∧ j < cs.size then l[j - (off + k)]? else cs[j]?
 | [], k, cs, j => by
  simp only [List.zipIdx_nil, List.foldl_nil, List.length_nil]
  rw [if_neg (by omega)]
 | x :: l, k, cs, j => by
  simp only [List.zipIdx_cons, List.foldl_cons, List.length_cons]
  rw [foldl_set off l (k + 1) (cs.setIfInBounds (off + k) x) j]
  simp only [Array.size_setIfInBounds]
  by_cases e : j = off + k
  ·subst e
   rw [if_neg (by omega)]
   by_cases hs : off + k < cs.size
   ·rw [if_pos (by omega)]
    simp [hs]
   ·rw [if_neg (by omega)]
    simp [hs]
  ·rw [Array.getElem?_setIfInBounds_ne (by omega)]
   by_cases h2 : off + (k + 1) ≤ j ∧ j < off + (k + 1) + l.length ∧ j < cs.size
   ·rw [if_pos h2, if_pos (by omega)]
    have : j - (off + k) = (j - (off + (k + 1))) + 1 := by omega
    rw [this, List.getElem?_cons_succ]
   ·rw [if_neg h2, if_neg (by omega)]
theorem spliceL_get (base l : List Value) (off : Nat) (h : off + l.length ≤ base.length) (j : Nat) :
  (base.take off ++ l ++ base.drop (off + l.length))[j]? = if off ≤ j ∧ j < off + l.length then l[j - off]? else base[j]? := by
 by_cases h1 : j < off
 ·rw [if_neg (by omega), List.append_assoc, List.getElem?_append_left (by rw [List.length_take]; omega), List.getElem?_take, if_pos h1]
 ·by_cases h2 : j < off + l.length
  ·rw [if_pos (by omega), List.append_assoc, List.getElem?_append_right (by rw [List.length_take]; omega), List.length_take, Nat.min_eq_left (by omega), List.getElem?_append_left (by omega)]
  ·rw [if_neg (by omega), List.getElem?_append_right (by simp; omega), List.getElem?_drop]
   congr 1
   simp
   omega
theorem fill_run (place : Nat → Option (Nat × Nat)) (ρ : Env) (ι : Loc) : ∀ (parts : List (Nat × SV)) (cells l : List SC), fillS place cells parts = some l →
  Instr.fill place (cells.map (SC.den ρ ι)).toArray (parts.map fun p => (p.1, p.2.den ρ ι)) = some (l.map (SC.den ρ ι)).toArray
 | [], cells, l, h => by
  simp only [fillS, Option.some.injEq] at h
  subst h
  rfl
 | (i, .tup xs) :: rest, cells, l, h => by simp [fillS] at h
 | (i, .w v) :: rest, cells, l, h => by
  simp only [fillS] at h
  split at h
  ·cases h
  ·rename_i off size hp
   split at h
   ·rename_i hc
    simp only [Bool.and_eq_true] at hc
    obtain ⟨⟨hg, hc1⟩, hc2⟩ := hc
    have hc1 : v.cells.length = size := by simpa using hc1
    have hc2 : off + v.cells.length ≤ cells.length := by simpa using hc2
    have ih := fill_run place ρ ι rest _ l h
    have hcv := SW.good_cells hg ρ ι
    simp only [List.map_cons, Instr.fill, hp, SV.den, hcv]
    rw [if_neg (by simp [hc1]; omega)]
    rw [← ih]
    congr 1
    apply Array.ext_getElem?
    intro j
    rw [← Array.foldl_toList, Array.toList_zipIdx]
    rw [foldl_set off _ 0]
    simp only [spliceL, List.map_append, List.map_take, List.map_drop, List.getElem?_toArray]
    rw [← List.length_map (f := SC.den ρ ι) (as := v.cells), spliceL_get _ _ _ (by simp; omega)]
    simp only [List.length_map, Nat.add_zero, List.size_toArray]
    by_cases h1 : off ≤ j ∧ j < off + v.cells.length
    ·rw [if_pos ⟨h1.1, h1.2, by omega⟩, if_pos h1]
    ·rw [if_neg h1, if_neg (by omega)]
   ·cases h
theorem fillS_on {A : Nat → Prop} (place : Nat → Option (Nat × Nat)) : ∀ (parts : List (Nat × SV)) (cells l : List SC), fillS place cells parts = some l →
  (∀ c ∈ cells, c.on A) → (∀ p ∈ parts, p.2.on A) → ∀ c ∈ l, c.on A
 | [], cells, l, h, h1, _ => by
  simp only [fillS, Option.some.injEq] at h
  subst h
  exact h1
 | (i, .tup xs) :: rest, cells, l, h, _, _ => by simp [fillS] at h
 | (i, .w v) :: rest, cells, l, h, h1, h2 => by
  simp only [fillS] at h
  split at h
  ·cases h
  ·split at h
   ·refine fillS_on place rest _ l h (fun c hc => ?_) (fun p hp => h2 p (List.mem_cons_of_mem _ hp))
    simp only [spliceL, List.mem_append] at hc
    rcases hc with (hc | hc) | hc
    ·exact h1 c (List.mem_of_mem_take hc)
    ·exact h2 (i, .w v) (List.mem_cons_self ..) c hc
    ·exact h1 c (List.mem_of_mem_drop hc)
   ·cases h
theorem fieldPlaces_run {C : Ctx} (hT : TysOk P C.tys) : ∀ (fs : List Field) (pl : List (Nat × Nat)), fieldPlaces C (fs.map fun f => (f.type, f.offset)) = some pl →
  ∀ w, (fs.mapM fun f => do pure (f.offset, ← sizeOf f.type) : Sem (List (Nat × Nat))).run P w = .ok pl w
 | [], pl, h, w => by
  simp only [List.map_nil, fieldPlaces, Option.some.injEq] at h
  subst h
  rfl
 | f :: fs, pl, h, w => by
  simp only [List.map_cons, fieldPlaces] at h
  split at h
  ·rename_i i l hi hl
   simp only [Option.some.injEq] at h
   subst h
   have ih := fieldPlaces_run hT fs l hl w
   simp only [List.mapM_cons, Sem.run_bind, (hT _ i hi).runSize, Result.andThen_ok, Sem.run_pure, ih]
  ·cases h
theorem mapM_array {α β : Type} (xs : Array α) (f : α → Sem β) (l : List β) (w : World) (h : (xs.toList.mapM f).run P w = .ok l w) : (xs.mapM f).run P w = .ok l.toArray w := by
 rw [Array.mapM_eq_mapM_toList, Sem.run_map, h]
 rfl
theorem build_does {Φ : Phi} {C : Ctx} (hT : TysOk P C.tys) {t : TypeId} {parts : List (Nat × SV)} {st st' : St} {v : SV} (h : buildS C t parts st = .ok (v, st')) :
  Does P Φ st v st' (parts.map Prod.snd) fun ρ ι => Instr.build t (parts.map fun p => (p.1, p.2.den ρ ι)).toArray := by
 unfold buildS at h
 split at h
 ·rename_i i z hi hz
  have ht := hT t i hi
  obtain ⟨zv, z1, z2⟩ := zeroCells_run hT hz
  split at h
  ·rename_i fs hd
   split at h
   ·rename_i pl hpl
    split at h
    ·rename_i l hl
     simp only [R.ok.injEq, Prod.mk.injEq] at h
     obtain ⟨rfl, rfl⟩ := h
     rw [ht.fs fs hd] at hpl
     refine .quiet (.refl _ _) fun ρ _ _ A ι w hr hin => ⟨?_, ?_⟩
     ·have hp := mapM_array (P := P) fs _ pl w (fieldPlaces_run hT fs.toList pl hpl w)
      have hf := fill_run (fun k => pl[k]?) ρ ι parts z l hl
      simp only [Instr.build, Sem.run_bind, z1, ht.runUnd, hd, Result.andThen_ok, hp, z2 ρ ι, List.getElem?_toArray, hf, Sem.run_pure, SV.den_w, SW.den_agg]
     ·exact fillS_on _ parts z l hl (zeroCells_on hz _) (fun p hp => hin p.2 (List.mem_map.2 ⟨p, hp, rfl⟩))
    ·simp [stop] at h
   ·simp [stop] at h
  ·rename_i n e hd
   split at h
   ·rename_i j hj
    split at h
    ·rename_i l hl
     simp only [R.ok.injEq, Prod.mk.injEq] at h
     obtain ⟨rfl, rfl⟩ := h
     refine .quiet (.refl _ _) fun ρ _ _ A ι w hr hin => ⟨?_, ?_⟩
     ·have hf := fill_run (fun k => some (k * j.size, j.size)) ρ ι parts z l hl
      simp only [Instr.build, Sem.run_bind, z1, ht.runUnd, hd, Result.andThen_ok, (hT e j hj).runSize, z2 ρ ι, hf, Sem.run_pure, SV.den_w, SW.den_agg]
     ·exact fillS_on _ parts z l hl (zeroCells_on hz _) (fun p hp => hin p.2 (List.mem_map.2 ⟨p, hp, rfl⟩))
    ·simp [stop] at h
   ·simp [stop] at h
  ·simp [stop] at h
 ·simp [stop] at h
end
end Go.Sx
namespace Go.Sx
set_option linter.unusedSectionVars false
variable [Pins]
set_option linter.unusedSimpArgs false
set_option linter.unusedVariables false
section
variable {P : Program}
theorem on_ptr {A : Nat → Prop} {b o : Nat} : (SV.w (.c (.ptr b o))).on A ↔ A b := by
 constructor
 ·intro h; exact h (.ptr b o) (by simp [SW.cells])
 ·intro h c hc
  simp only [SW.cells, List.mem_singleton] at hc
  subst hc
  exact h
theorem on_slc {A : Nat → Prop} {b o l c : Nat} : (SV.w (.c (.slc b o l c))).on A ↔ A b := by
 constructor
 ·intro h; exact h (.slc b o l c) (by simp [SW.cells])
 ·intro h d hc
  simp only [SW.cells, List.mem_singleton] at hc
  subst hc
  exact h
theorem on_slu {A : Nat → Prop} {b l : Nat} : (SV.w (.c (.slu b l))).on A ↔ A b := by
 constructor
 ·intro h; exact h (.slu b l) (by simp [SW.cells])
 ·intro h d hc
  simp only [SW.cells, List.mem_singleton] at hc
  subst hc
  exact h
theorem fieldAddr_does {Φ : Phi} {C : Ctx} (hT : TysOk P C.tys) {t : TypeId} {a : SV} {f : Nat} {st st' : St} {v : SV} (h : fieldAddrS C t a f st = .ok (v, st')) :
  Does P Φ st v st' [a] fun ρ ι => Instr.fieldAt t (a.den ρ ι) f := by
 unfold fieldAddrS at h
 split at h
 ·rename_i i b off hi
  have ht := hT t i hi
  split at h
  ·rename_i fs hd
   split at h
   ·rename_i ft fo hf
    split at h
    ·rename_i j hj
     split at h
     ·simp [stop] at h
     ·rename_i hz
      simp only [R.ok.injEq, Prod.mk.injEq] at h
      obtain ⟨rfl, rfl⟩ := h
      refine .quiet (.refl _ _) fun ρ _ _ A ι w hr hin => ⟨?_, on_ptr.2 (on_ptr.1 (hin (.w (.c (.ptr b off))) (by simp)))⟩
      rw [ht.fs fs hd, List.getElem?_map] at hf
      cases hg : fs.toList[f]? with
      | none => rw [hg] at hf; cases hf
      | some g =>
       rw [hg] at hf
       simp only [Option.map_some, Option.some.injEq, Prod.mk.injEq] at hf
       obtain ⟨rfl, rfl⟩ := hf
       have hg' : fs[f]? = some g := by rw [← Array.getElem?_toList]; exact hg
       have hz' : ¬ j.size = 0 := by simpa using hz
       simp only [Instr.fieldAt, SV.den_w, SW.den_ptr, Sem.run_bind, ht.runUnd, hd, Result.andThen_ok, hg', Instr.sureAddr, Sem.run_pure, fieldPlace, (hT _ j hj).runSize, hz', if_false, addr_add]
    ·simp [stop] at h
   ·simp [stop] at h
  ·simp [stop] at h
 ·simp [stop] at h
theorem field_does {Φ : Phi} {C : Ctx} (hT : TysOk P C.tys) {t : TypeId} {a : SV} {f : Nat} {st st' : St} {v : SV} (h : fieldS C t a f st = .ok (v, st')) :
  Does P Φ st v st' [a] fun ρ ι => Instr.field t (a.den ρ ι) f := by
 unfold fieldS at h
 split at h
 ·rename_i i xs hi
  have ht := hT t i hi
  split at h
  ·rename_i fs hd
   split at h
   ·rename_i ft fo hf
    split at h
    ·rename_i y hy
     simp only [R.ok.injEq, Prod.mk.injEq] at h
     obtain ⟨rfl, rfl⟩ := h
     refine .quiet (.refl _ _) fun ρ _ _ A ι w hr hin => ⟨?_, partS_on hy (hin (.w (.agg xs)) (by simp))⟩
     rw [ht.fs fs hd, List.getElem?_map] at hf
     cases hg : fs.toList[f]? with
     | none => rw [hg] at hf; cases hf
     | some g =>
      rw [hg] at hf
      simp only [Option.map_some, Option.some.injEq, Prod.mk.injEq] at hf
      obtain ⟨rfl, rfl⟩ := hf
      have hg' : fs[f]? = some g := by rw [← Array.getElem?_toList]; exact hg
      simp only [Instr.field, SV.den_w, SW.den_agg, Sem.run_bind, ht.runUnd, hd, Result.andThen_ok, hg', asAgg, Sem.run_pure, part_run hT hy]
    ·simp [stop] at h
   ·simp [stop] at h
  ·simp [stop] at h
 ·simp [stop] at h
theorem getN_run {Φ : Phi} {i : SV} {st st1 : St} {n : Int} (h : getN i st = .ok (n, st1)) : Quiet Φ st st1 ∧
  ∀ ρ, LogOk Φ ρ st1.log → Facts ρ st → ∀ ι, ∃ k, i.den ρ ι = .int k n := by
 obtain ⟨q, _, k, hk⟩ := getN_ok (Φ := Φ) h
 exact ⟨q, fun ρ hl hf ι => ⟨k, hk ρ hl hf ι⟩⟩
theorem stop_ne {α : Type} {c : Nat} {st : St} {x : α} {p : Prop} (h : (stop c st : R α) = .ok x) : p := by simp [stop] at h
theorem er_ne {α : Type} {c : Nat} {l : List Ev} {s : String} {x : α} {p : Prop} (h : (R.er c l s : R α) = .ok x) : p := by cases h
theorem indexAddr_does {Φ : Phi} {C : Ctx} (hT : TysOk P C.tys) {t : TypeId} {a i : SV} {st st' : St} {v : SV} (h : indexAddrS C t a i st = .ok (v, st')) :
  Does P Φ st v st' [a, i] fun ρ ι => Instr.indexAt t (a.den ρ ι) (i.den ρ ι) := by
 unfold indexAddrS at h
 split at h
 ·exact er_ne h
 ·rename_i n st1 hn
  obtain ⟨q, hq⟩ := getN_run (Φ := Φ) hn
  split at h
  ·rename_i len e b off hd
   have hd' := descOf_ok hT hd
   split at h
   ·rename_i j hj
    split at h
    ·rename_i hlt
     have hlt : n < len := by simpa using hlt
     simp only [R.ok.injEq, Prod.mk.injEq] at h
     obtain ⟨rfl, rfl⟩ := h
     refine .quiet q fun ρ hl hf A ι w hr hin => ⟨?_, on_ptr.2 (on_ptr.1 (hin (.w (.c (.ptr b off))) (by simp)))⟩
     obtain ⟨k, hk⟩ := hq ρ hl hf ι
     simp only [Instr.indexAt, SV.den_w, SW.den_ptr, hk, asIntOf, pure_bind, Sem.run_bind, run_underlying hd', Result.andThen_ok, Instr.sureAddr, Sem.run_pure]
     rw [if_pos ⟨Int.natCast_nonneg n, Int.ofNat_lt.2 hlt⟩]
     simp only [Sem.run_bind, (hT e j hj).runSize, Result.andThen_ok, Sem.run_pure, addr_add]
     rfl
    ·exact stop_ne h
   ·exact stop_ne h
  ·rename_i e b off len cap hd
   have hd' := descOf_ok hT hd
   split at h
   ·rename_i j hj
    split at h
    ·rename_i hlt
     have hlt : n < len := by simpa using hlt
     simp only [R.ok.injEq, Prod.mk.injEq] at h
     obtain ⟨rfl, rfl⟩ := h
     refine .quiet q fun ρ hl hf A ι w hr hin => ⟨?_, on_ptr.2 (on_slc.1 (hin (.w (.c (.slc b off len cap))) (by simp)))⟩
     obtain ⟨k, hk⟩ := hq ρ hl hf ι
     simp only [Instr.indexAt, SV.den_w, SW.den_ptr, SW.den_slc, hk, asIntOf, pure_bind, Sem.run_bind, run_underlying hd', Result.andThen_ok, Instr.sureAddr, Sem.run_pure]
     rw [if_pos ⟨Int.natCast_nonneg n, Int.ofNat_lt.2 hlt⟩]
     simp only [Sem.run_bind, (hT e j hj).runSize, Result.andThen_ok, Sem.run_pure, addr_add]
     rfl
    ·exact stop_ne h
   ·exact stop_ne h
  ·rename_i e b len hd
   have hd' := descOf_ok hT hd
   split at h
   ·rename_i j hj
    split at h
    ·rename_i hlt
     have hlt : n < len := by simpa using hlt
     simp only [R.ok.injEq, Prod.mk.injEq] at h
     obtain ⟨rfl, rfl⟩ := h
     refine .quiet q fun ρ hl hf A ι w hr hin => ⟨?_, on_ptr.2 (on_slu.1 (hin (.w (.c (.slu b len))) (by simp)))⟩
     obtain ⟨k, hk⟩ := hq ρ hl hf ι
     simp only [Instr.indexAt, SV.den_w, SW.den_ptr, SW.den_slu, hk, asIntOf, pure_bind, Sem.run_bind, run_underlying hd', Result.andThen_ok, Instr.sureAddr, Sem.run_pure]
     rw [if_pos ⟨Int.natCast_nonneg n, Int.ofNat_lt.2 hlt⟩]
     simp only [Sem.run_bind, (hT e j hj).runSize, Result.andThen_ok, Sem.run_pure, addr_add]
     rfl
    ·exact stop_ne h
   ·exact stop_ne h
  ·exact stop_ne h
 ·exact stop_ne h
theorem index0_does {Φ : Phi} {C : Ctx} (hT : TysOk P C.tys) {t : TypeId} {a i : SV} {st st' : St} {v : SV} (h : indexS0 C t a i st = .ok (v, st')) :
  Does P Φ st v st' [a, i] fun ρ ι => Instr.index t (a.den ρ ι) (i.den ρ ι) := by
 unfold indexS0 at h
 split at h
 ·exact er_ne h
 ·rename_i n st1 hn
  obtain ⟨q, hq⟩ := getN_run (Φ := Φ) hn
  split at h
  ·rename_i len e xs hd
   have hd' := descOf_ok hT hd
   split at h
   ·rename_i j hj
    split at h
    ·rename_i hlt
     have hlt : n < len := by simpa using hlt
     split at h
     ·rename_i y hy
      simp only [R.ok.injEq, Prod.mk.injEq] at h
      obtain ⟨rfl, rfl⟩ := h
      refine .quiet q fun ρ hl hf A ι w hr hin => ⟨?_, partS_on hy (hin (.w (.agg xs)) (by simp))⟩
      obtain ⟨k, hk⟩ := hq ρ hl hf ι
      simp only [Instr.index, SV.den_w, SW.den_agg, hk, asIntOf, pure_bind, Sem.run_bind, run_underlying hd', Result.andThen_ok, Sem.run_pure]
      rw [if_pos ⟨Int.natCast_nonneg n, Int.ofNat_lt.2 hlt⟩]
      simp only [Sem.run_bind, (hT e j hj).runSize, Result.andThen_ok]
      exact part_run hT hy ρ ι w
     ·exact stop_ne h
    ·exact stop_ne h
   ·exact stop_ne h
  ·rename_i s hd
   have hd' := descOf_ok hT hd
   split at h
   ·rename_i b hb
    simp only [R.ok.injEq, Prod.mk.injEq] at h
    obtain ⟨rfl, rfl⟩ := h
    refine .quiet q fun ρ hl hf A ι w hr hin => ⟨?_, bare_litI _ _ _⟩
    obtain ⟨k, hk⟩ := hq ρ hl hf ι
    simp only [Instr.index, SV.den_w, SW.den_lit, hk, asIntOf, pure_bind, Sem.run_bind, run_underlying hd', Result.andThen_ok, Sem.run_pure]
    have h0 : (0 : Int) ≤ Int.ofNat n := Int.natCast_nonneg n
    simp only [h0, if_true]
    have : (Int.ofNat n).toNat = n := rfl
    rw [this, hb]
    rfl
   ·exact stop_ne h
  ·exact stop_ne h
 ·exact stop_ne h
theorem extract_does {Φ : Phi} {a : SV} {ix : Nat} {st st' : St} {v : SV} (h : extractS a ix st = .ok (v, st')) :
  Does P Φ st v st' [a] fun ρ ι => Instr.extract (a.den ρ ι) ix := by
 unfold extractS at h
 split at h
 ·rename_i xs
  split at h
  ·rename_i y hy
   simp only [R.ok.injEq, Prod.mk.injEq] at h
   obtain ⟨rfl, rfl⟩ := h
   refine .quiet (.refl _ _) fun ρ _ _ A ι w hr hin => ⟨?_, ?_⟩
   ·simp [Instr.extract, SV.den, hy]
   ·exact hin (.tup xs) (by simp) y (List.mem_of_getElem? hy)
  ·exact stop_ne h
 ·exact stop_ne h
theorem ba_get {b : ByteArray} {n : Nat} (h : n < b.size) : b[n]? = some (b.data.toList.getD n 0) := by
 have h2 : n < b.data.size := h
 rw [getElem?_pos b n h]
 congr 1
 show b.data[n] = _
 rw [List.getD_eq_getElem?_getD, List.getElem?_eq_getElem (by simpa using h2)]
 simp
theorem index_does {Φ : Phi} {C : Ctx} (hT : TysOk P C.tys) {t : TypeId} {a i : SV} {st st' : St} {v : SV} (h : indexS C t a i st = .ok (v, st')) :
  Does P Φ st v st' [a, i] fun ρ ι => Instr.index t (a.den ρ ι) (i.den ρ ι) := by
 unfold indexS at h
 split at h
 ·rename_i s n hd hs
  have hd' := descOf_ok hT hd
  have g := mkI_gives (Φ := Φ) h
  refine .quiet g.quiet fun ρ hl hf A ι w hr hin => ⟨?_, g.bare _⟩
  obtain ⟨e1, e2⟩ := g.den ρ hl hf ι
  have key : a.den ρ ι = .string (s.den ρ) ∧ ∃ k, i.den ρ ι = .int k (n.den ρ) := by
   unfold satS at hs
   split at hs
   ·rename_i x y
    split at hs
    ·rename_i s' k v' h1 h2
     simp only [Option.some.injEq, Prod.mk.injEq] at hs
     obtain ⟨rfl, rfl⟩ := hs
     exact ⟨by simp only [SV.den, SW.den, sa_den h1], k, by simp only [SV.den, SW.den, ia_den hf h2]⟩
    ·rename_i s' k v' h1 h2
     simp only [Option.some.injEq, Prod.mk.injEq] at hs
     obtain ⟨rfl, rfl⟩ := hs
     exact ⟨by simp only [SV.den, SW.den, sa_den h1], k, by simp only [SV.den, SW.den, ia_den hf h2]⟩
    ·cases hs
   ·cases hs
  obtain ⟨k1, k, k2⟩ := key
  rw [k1, k2, e1]
  obtain ⟨s1, s2⟩ : 0 ≤ n.den ρ ∧ n.den ρ < ((s.den ρ).size : Int) := e2
  have hlt : (n.den ρ).toNat < (s.den ρ).size := by omega
  simp only [Instr.index, asIntOf, pure_bind, Sem.run_bind, run_underlying hd', Result.andThen_ok, Sem.run_pure, s1, if_true, ba_get hlt]
  rfl
 ·exact index0_does hT h
def optDen (ρ : Env) (ι : Loc) (x : Option SV) : Option Value := x.map (SV.den ρ ι)
theorem boundS_run {Φ : Phi} {x : Option SV} {d n : Nat} {st st1 : St} (h : boundS x d st = .ok (n, st1)) : Quiet Φ st st1 ∧
  ∀ ρ, LogOk Φ ρ st1.log → Facts ρ st → ∀ ι, match x with
   | none => n = d
   | some v => ∃ k, v.den ρ ι = .int k (n : Int) := by
 unfold boundS at h
 split at h
 ·simp only [R.ok.injEq, Prod.mk.injEq] at h
  obtain ⟨rfl, rfl⟩ := h
  exact ⟨.refl _ _, fun _ _ _ _ => rfl⟩
 ·split at h
  ·exact er_ne h
  ·rename_i m st2 hm
   obtain ⟨q, hq⟩ := getN_run (Φ := Φ) hm
   simp only [R.ok.injEq, Prod.mk.injEq] at h
   obtain ⟨rfl, rfl⟩ := h
   exact ⟨q, hq⟩
  ·exact stop_ne h
theorem sliceBound_run {x : Value} {k : IntKind} {n y : Nat} {c : BoundsCode} {w : World} (hx : x = .int k (n : Int)) (h : n ≤ y) :
  (Instr.sliceBound x y c).run P w = .ok n w := by
 subst hx
 simp only [Instr.sliceBound, asIntOf, pure_bind]
 rw [if_pos ⟨Int.natCast_nonneg n, Int.ofNat_le.2 h⟩]
 rfl
theorem boundsS_run {Φ : Phi} {len cap : Nat} {lo hi mx : Option SV} {l h m : Nat} {st st1 : St} (hh : boundsS len cap lo hi mx st = .ok ((l, h, m), st1)) :
  Quiet Φ st st1 ∧ ∀ ρ, LogOk Φ ρ st1.log → Facts ρ st → ∀ ι s w, (Instr.sliceBounds s len cap (optDen ρ ι lo) (optDen ρ ι hi) (optDen ρ ι mx)).run P w = .ok (l, h, m) w := by
 unfold boundsS at hh
 split at hh
 ·exact stop_ne hh
 ·rename_i hno
  split at hh
  ·exact er_ne hh
  ·rename_i m' st2 hm
   obtain ⟨q1, e1⟩ := boundS_run (Φ := Φ) hm
   split at hh
   ·exact er_ne hh
   ·rename_i h' st3 hhi
    obtain ⟨q2, e2⟩ := boundS_run (Φ := Φ) hhi
    split at hh
    ·exact er_ne hh
    ·rename_i l' st4 hlo
     obtain ⟨q3, e3⟩ := boundS_run (Φ := Φ) hlo
     split at hh
     ·rename_i hc
      simp only [Bool.and_eq_true] at hc
      have c1 : m' ≤ cap := by simpa using hc.1.1
      have c2 : h' ≤ m' := by simpa using hc.1.2
      have c3 : l' ≤ h' := by simpa using hc.2
      simp only [R.ok.injEq, Prod.mk.injEq] at hh
      obtain ⟨⟨rfl, rfl, rfl⟩, rfl⟩ := hh
      refine ⟨(q1.trans q2).trans q3, fun ρ hl hf ι s w => ?_⟩
      have hl3 := q3.logOk hl
      have hl2 := q2.logOk hl3
      have f2 := q1.facts ρ hl2 hf
      have f3 := q2.facts ρ hl3 f2
      have e1 := e1 ρ hl2 hf ι
      have e2 := e2 ρ hl3 f2 ι
      have e3 := e3 ρ hl f3 ι
      cases mx with
      | none =>
       simp only at e1
       subst e1
       cases hi with
       | none =>
        simp only at e2
        subst e2
        cases lo with
        | none =>
         simp only at e3
         subst e3
         simp [Instr.sliceBounds, optDen]
        | some lv =>
         obtain ⟨k, hk⟩ := e3
         simp [Instr.sliceBounds, optDen, sliceBound_run hk c3]
       | some hv =>
        obtain ⟨k2, hk2⟩ := e2
        cases lo with
        | none =>
         simp only at e3
         subst e3
         simp [Instr.sliceBounds, optDen, sliceBound_run hk2 c2]
        | some lv =>
         obtain ⟨k, hk⟩ := e3
         simp [Instr.sliceBounds, optDen, sliceBound_run hk c3, sliceBound_run hk2 c2]
      | some mv =>
       obtain ⟨k1, hk1⟩ := e1
       cases hi with
       | none => exact absurd rfl (hno mv rfl)
       | some hv =>
        obtain ⟨k2, hk2⟩ := e2
        cases lo with
        | none =>
         simp only at e3
         subst e3
         simp [Instr.sliceBounds, optDen, sliceBound_run hk2 c2, sliceBound_run hk1 c1]
        | some lv =>
         obtain ⟨k, hk⟩ := e3
         simp [Instr.sliceBounds, optDen, sliceBound_run hk c3, sliceBound_run hk2 c2, sliceBound_run hk1 c1]
     ·exact stop_ne hh
theorem slice0_does {Φ : Phi} {C : Ctx} (hT : TysOk P C.tys) {t : TypeId} {a : SV} {lo hi mx : Option SV} {st st' : St} {v : SV} (h : sliceS0 C t a lo hi mx st = .ok (v, st')) :
  Does P Φ st v st' [a] fun ρ ι => Instr.sliceAt t (a.den ρ ι) (optDen ρ ι lo) (optDen ρ ι hi) (optDen ρ ι mx) := by
 unfold sliceS0 at h
 split at h
 ·rename_i n e b off hd
  have hd' := descOf_ok hT hd
  split at h
  ·rename_i j l hh m st1 hj hb
   obtain ⟨q, hq⟩ := boundsS_run (Φ := Φ) (P := P) hb
   simp only [R.ok.injEq, Prod.mk.injEq] at h
   obtain ⟨rfl, rfl⟩ := h
   refine .quiet q fun ρ hl hf A ι w hr hin => ⟨?_, on_slc.2 (on_ptr.1 (hin (.w (.c (.ptr b off))) (by simp)))⟩
   simp only [Instr.sliceAt, SV.den_w, SW.den_ptr, SW.den_slc, Sem.run_bind, run_underlying hd', Result.andThen_ok, Instr.sureAddr, Sem.run_pure, hq ρ hl hf ι, (hT e j hj).runSize, addr_add]
   by_cases e : m = l <;> simp [e]
  ·exact er_ne h
  ·exact stop_ne h
 ·rename_i e b off len cap hd
  have hd' := descOf_ok hT hd
  split at h
  ·rename_i j l hh m st1 hj hb
   obtain ⟨q, hq⟩ := boundsS_run (Φ := Φ) (P := P) hb
   simp only [R.ok.injEq, Prod.mk.injEq] at h
   obtain ⟨rfl, rfl⟩ := h
   refine .quiet q fun ρ hl hf A ι w hr hin => ⟨?_, on_slc.2 (on_slc.1 (hin (.w (.c (.slc b off len cap))) (by simp)))⟩
   simp only [Instr.sliceAt, Instr.slice, SV.den_w, SW.den_slc, Sem.run_bind, run_underlying hd', Result.andThen_ok, Instr.sureAddr, Sem.run_pure, hq ρ hl hf ι, (hT e j hj).runSize, addr_add]
   by_cases e : m = l <;> simp [e, addr_add]
  ·exact er_ne h
  ·exact stop_ne h
 ·rename_i s hd
  have hd' := descOf_ok hT hd
  split at h
  ·rename_i l hh m st1 hmx hb
   obtain ⟨q, hq⟩ := boundsS_run (Φ := Φ) (P := P) hb
   simp only [R.ok.injEq, Prod.mk.injEq] at h
   obtain ⟨rfl, rfl⟩ := h
   refine .quiet q fun ρ hl hf A ι w hr hin => ⟨?_, bare_c (x := .lit (.string _)) (fun _ => trivial) _⟩
   have := hq ρ hl hf ι false w
   simp only [optDen, Option.map_none] at this
   simp [Instr.sliceAt, Instr.slice, SV.den_w, SW.den_lit, run_underlying hd', optDen, this]
  ·exact er_ne h
  ·exact stop_ne h
 ·exact stop_ne h
theorem slice_does {Φ : Phi} {C : Ctx} (hT : TysOk P C.tys) {t : TypeId} {a : SV} {lo hi mx : Option SV} {st st' : St} {v : SV} (h : sliceS C t a lo hi mx st = .ok (v, st')) :
  Does P Φ st v st' [a] fun ρ ι => Instr.sliceAt t (a.den ρ ι) (optDen ρ ι lo) (optDen ρ ι hi) (optDen ρ ι mx) := by
 unfold sliceS at h
 split at h
 ·rename_i s i j hd hs
  have hd' := descOf_ok hT hd
  have g := mkS_gives (Φ := Φ) h
  refine .quiet g.quiet fun ρ hl hf A ι w hr hin => ⟨?_, g.bare _⟩
  obtain ⟨e1, e2⟩ := g.den ρ hl hf ι
  have key : a.den ρ ι = .string (s.den ρ) ∧ (∃ l k, lo = some l ∧ l.den ρ ι = .int k (i.den ρ)) ∧ (∃ l k, hi = some l ∧ l.den ρ ι = .int k (j.den ρ)) ∧ mx = none := by
   unfold subS at hs
   split at hs
   ·rename_i x y z
    split at hs
    ·cases hs
    ·rename_i s' k i' k' j' h0 h1 h2 h3
     simp only [Option.some.injEq, Prod.mk.injEq] at hs
     obtain ⟨rfl, rfl, rfl⟩ := hs
     exact ⟨by simp only [SV.den, SW.den, sa_den h1], ⟨_, k, rfl, by simp only [SV.den, SW.den, ia_den hf h2]⟩, ⟨_, k', rfl, by simp only [SV.den, SW.den, ia_den hf h3]⟩, rfl⟩
    ·cases hs
   ·cases hs
  obtain ⟨k1, ⟨l1, c1, rfl, k2⟩, ⟨l2, c2, rfl, k3⟩, rfl⟩ := key
  obtain ⟨s1, s2, s3⟩ : 0 ≤ i.den ρ ∧ i.den ρ ≤ j.den ρ ∧ j.den ρ ≤ ((s.den ρ).size : Int) := e2
  have hi' : l1.den ρ ι = .int c1 ((i.den ρ).toNat : Int) := by rw [k2]; congr 1; omega
  have hj' : l2.den ρ ι = .int c2 ((j.den ρ).toNat : Int) := by rw [k3]; congr 1; omega
  have b1 : (i.den ρ).toNat ≤ (j.den ρ).toNat := by omega
  have b2 : (j.den ρ).toNat ≤ (s.den ρ).size := by omega
  rw [k1, e1]
  simp [Instr.sliceAt, Instr.slice, run_underlying hd', optDen, Instr.sliceBounds, sliceBound_run hi' b1, sliceBound_run hj' b2, SE.den]
 ·exact slice0_does hT h
theorem iasU8_den {ρ : Env} {ι : Loc} {st : St} (hf : Facts ρ st) : ∀ {cs : List SC} {l : List IA}, iasU8 st cs = some l → cs.map (SC.den ρ ι) = l.map (fun a => Value.int .u8 (a.den ρ))
 | [], l, h => by
  simp only [iasU8, Option.some.injEq] at h
  subst h; rfl
 | c :: cs, l, h => by
  simp only [iasU8] at h
  split at h
  ·rename_i k a m h1 h2
   split at h
   ·rename_i hk
    rw [kindEq_true] at hk
    subst hk
    simp only [Option.some.injEq] at h
    subst h
    rw [List.map_cons, List.map_cons, ia_den hf h1, iasU8_den hf h2]
   ·cases h
  ·cases h
theorem litsIA_den {ρ : Env} : ∀ {l : List IA} {bs : List UInt8}, litsIA l = some bs → l.map (fun a => Value.int .u8 (a.den ρ)) = bs.map (fun b => Value.int .u8 (b.toNat : Int))
 | [], bs, h => by
  simp only [litsIA, Option.some.injEq] at h
  subst h; rfl
 | .lit n :: l, bs, h => by
  simp only [litsIA] at h
  split at h
  ·rename_i m h1
   split at h
   ·rename_i hk
    simp only [Bool.and_eq_true, decide_eq_true_eq] at hk
    simp only [Option.some.injEq] at h
    subst h
    rw [List.map_cons, List.map_cons, litsIA_den h1]
    congr 2
    show n = _
    rw [UInt8.toNat_ofNat']
    omega
   ·cases h
  ·cases h
 | .var x :: l, bs, h => by simp [litsIA] at h
theorem bytesIn_den {ρ : Env} : ∀ {l : List IA}, bytesIn ρ l → l.map (fun a => Value.int .u8 (a.den ρ)) = (l.map fun a => UInt8.ofNat (a.den ρ).toNat).map (fun b => Value.int .u8 (b.toNat : Int))
 | [], _ => rfl
 | a :: l, h => by
  obtain ⟨h1, h2⟩ := h
  rw [List.map_cons, List.map_cons, List.map_cons, bytesIn_den h2]
  congr 2
  rw [UInt8.toNat_ofNat']
  omega
theorem bytes_does {Φ : Phi} {C : Ctx} (hT : TysOk P C.tys) {s d : TypeId} {b off n cap : Nat} {st st' : St} {v : SV} (h : bytesS C s d b off n st = .ok (v, st')) :
  Does P Φ st v st' [.w (.c (.slc b off n cap))] fun ρ ι => convert s d ((SV.w (.c (.slc b off n cap))).den ρ ι) := by
 unfold bytesS at h
 split at h
 ·rename_i e hs hd
  have hs' := descOf_ok hT hs
  have hd' := descOf_ok hT hd
  split at h
  ·rename_i k he hk
   have he' := descOf_ok hT he
   split at h
   ·rename_i cells hrow
    obtain ⟨r1, r2⟩ := Blk.row_some hrow
    split at h
    ·rename_i l hl8
     have conv : ∀ ρ ι A w, Facts ρ st → Rep ρ ι A st.heap.get st.nb w → ∀ bs : List UInt8, l.map (fun a => Value.int .u8 (a.den ρ)) = bs.map (fun b => Value.int .u8 (b.toNat : Int)) →
       (convert s d ((SV.w (.c (.slc b off n cap))).den ρ ι)).run P w = .ok (.string ⟨bs.toArray⟩) w := by
      intro ρ ι A w hf hr bs hbs
      have hm : cells.map (SC.den ρ ι) = bs.map (fun b => Value.int .u8 (b.toNat : Int)) := (iasU8_den hf hl8).trans hbs
      have hlen : bs.length = n := by
       have := congrArg List.length hm
       simp only [List.length_map] at this
       rw [← this, r1]
      have := run_convert_bytes_back (P := P) w s d e ⟨ι.blk b, off, none⟩ cap bs hs' he' hd' (fun j hj => by
       obtain ⟨q1, q2⟩ := r2 j (by omega)
       have q3 := congrArg (fun l => l[j]?) hm
       simp only [List.getElem?_map, q2, List.getElem?_eq_getElem hj, Option.map_some, Option.some.injEq] at q3
       rw [addr_add, hr.cell hk q1, q3])
      rw [hlen] at this
      exact this
     split at h
     ·rename_i bs hbs
      simp only [R.ok.injEq, Prod.mk.injEq] at h
      obtain ⟨rfl, rfl⟩ := h
      exact .quiet (.refl _ _) fun ρ _ hf A ι w hr hin => ⟨conv ρ ι A w hf hr bs (litsIA_den hbs), bare_c (x := .lit (.string _)) (fun _ => trivial) _⟩
     ·have g := mkS_gives (Φ := Φ) h
      refine .quiet g.quiet fun ρ hl hf A ι w hr hin => ⟨?_, g.bare _⟩
      obtain ⟨e1, e2⟩ := g.den ρ hl hf ι
      rw [e1]
      exact conv ρ ι A w hf hr _ (bytesIn_den e2)
    ·exact stop_ne h
   ·exact stop_ne h
  ·exact stop_ne h
 ·exact stop_ne h
theorem len_does {Φ : Phi} {C : Ctx} (hT : TysOk P C.tys) {t : TypeId} {ts : List TypeId} {ty : TypeId} {a : SV} {st st' : St} {v : SV} (h : lenS C t a st = .ok (v, st')) :
  Does P Φ st v st' [a] fun ρ ι => Builtin.len_ (t :: ts).toArray ty #[a.den ρ ι] := by
 unfold lenS at h
 split at h
 ·rename_i s hd
  have hd' := descOf_ok hT hd
  simp only [R.ok.injEq, Prod.mk.injEq] at h
  obtain ⟨rfl, rfl⟩ := h
  exact .quiet (.refl _ _) fun ρ _ _ A ι w hr hin => ⟨by simp [Builtin.len_, SV.den_w, SW.den_lit, run_underlying hd', litI, goInt], bare_litI _ _ _⟩
 ·rename_i x hd
  have hd' := descOf_ok hT hd
  have g := mkI_gives (Φ := Φ) h
  refine .of_gives g _ fun ρ ι z hz w => ?_
  rw [hz.1]
  simp [Builtin.len_, SV.den_w, SW.den, SC.den, run_underlying hd', goInt, IE.den, SA.den]
 ·rename_i n e hd
  have hd' := descOf_ok hT hd
  simp only [R.ok.injEq, Prod.mk.injEq] at h
  obtain ⟨rfl, rfl⟩ := h
  exact .quiet (.refl _ _) fun ρ _ _ A ι w hr hin => ⟨by simp [Builtin.len_, run_underlying hd', litI, goInt, SV.den_w, SW.den_lit], bare_litI _ _ _⟩
 ·rename_i e b o n c hd
  have hd' := descOf_ok hT hd
  simp only [R.ok.injEq, Prod.mk.injEq] at h
  obtain ⟨rfl, rfl⟩ := h
  exact .quiet (.refl _ _) fun ρ _ _ A ι w hr hin => ⟨by simp [Builtin.len_, run_underlying hd', litI, goInt, SV.den_w, SW.den_lit, SW.den_slc], bare_litI _ _ _⟩
 ·rename_i e b n hd
  have hd' := descOf_ok hT hd
  simp only [R.ok.injEq, Prod.mk.injEq] at h
  obtain ⟨rfl, rfl⟩ := h
  exact .quiet (.refl _ _) fun ρ _ _ A ι w hr hin => ⟨by simp [Builtin.len_, run_underlying hd', litI, goInt, SV.den_w, SW.den_lit, SW.den_slu], bare_litI _ _ _⟩
 ·rename_i e a n c hd
  have hd' := descOf_ok hT hd
  simp only [R.ok.injEq, Prod.mk.injEq] at h
  obtain ⟨rfl, rfl⟩ := h
  exact .quiet (.refl _ _) fun ρ _ _ A ι w hr hin => ⟨by simp [Builtin.len_, run_underlying hd', litI, goInt, SV.den_w, SW.den_lit], bare_litI _ _ _⟩
 ·exact stop_ne h
theorem cap_does {Φ : Phi} {C : Ctx} (hT : TysOk P C.tys) {t : TypeId} {ts : List TypeId} {ty : TypeId} {a : SV} {st st' : St} {v : SV} (h : capS C t a st = .ok (v, st')) :
  Does P Φ st v st' [a] fun ρ ι => Builtin.cap_ (t :: ts).toArray ty #[a.den ρ ι] := by
 unfold capS at h
 split at h
 ·rename_i e b o n c hd
  have hd' := descOf_ok hT hd
  simp only [R.ok.injEq, Prod.mk.injEq] at h
  obtain ⟨rfl, rfl⟩ := h
  exact .quiet (.refl _ _) fun ρ _ _ A ι w hr hin => ⟨by simp [Builtin.cap_, run_underlying hd', litI, goInt, SV.den_w, SW.den_lit, SW.den_slc], bare_litI _ _ _⟩
 ·rename_i e a n c hd
  have hd' := descOf_ok hT hd
  simp only [R.ok.injEq, Prod.mk.injEq] at h
  obtain ⟨rfl, rfl⟩ := h
  exact .quiet (.refl _ _) fun ρ _ _ A ι w hr hin => ⟨by simp [Builtin.cap_, run_underlying hd', litI, goInt, SV.den_w, SW.den_lit], bare_litI _ _ _⟩
 ·exact stop_ne h
theorem max_does {Φ : Phi} {x y : SV} {ts : Array TypeId} {ty : TypeId} {st st' : St} {v : SV} (h : mmS true x y st = .ok (v, st')) :
  Does P Φ st v st' [x, y] fun ρ ι => Builtin.max_ ts ty #[x.den ρ ι, y.den ρ ι] := by
 unfold mmS at h
 split at h
 ·rename_i a b
  split at h
  ·rename_i k p k' q h1 h2
   have key : ∀ ρ ι, Facts ρ st → ∀ w, (Builtin.max_ ts ty #[(SV.w (.c a)).den ρ ι, (SV.w (.c b)).den ρ ι]).run P w = .ok (.int k (if p.den ρ < q.den ρ then q.den ρ else p.den ρ)) w := by
    intro ρ ι hf w
    have e1 := ia_den (ι := ι) hf h1
    have e2 := ia_den (ι := ι) hf h2
    simp only [SV.den_w, SW.den, e1, e2, Builtin.max_, List.foldlM, Builtin.max2, bind_pure]
    rfl
   split at h
   ·simp only [R.ok.injEq, Prod.mk.injEq] at h
    obtain ⟨rfl, rfl⟩ := h
    exact .quiet (.refl _ _) fun ρ _ hf A ι w hr hin => ⟨by rw [key ρ ι hf w]; rfl, bare_litI _ _ _⟩
   ·simp only [if_true] at h
    have g := mkI_gives (Φ := Φ) h
    exact .quiet g.quiet fun ρ hl hf A ι w hr hin => ⟨by rw [key ρ ι hf w, (g.den ρ hl hf ι).1]; rfl, g.bare _⟩
  ·exact stop_ne h
 ·exact stop_ne h
theorem min_does {Φ : Phi} {x y : SV} {ts : Array TypeId} {ty : TypeId} {st st' : St} {v : SV} (h : mmS false x y st = .ok (v, st')) :
  Does P Φ st v st' [x, y] fun ρ ι => Builtin.min_ ts ty #[x.den ρ ι, y.den ρ ι] := by
 unfold mmS at h
 split at h
 ·rename_i a b
  split at h
  ·rename_i k p k' q h1 h2
   have key : ∀ ρ ι, Facts ρ st → ∀ w, (Builtin.min_ ts ty #[(SV.w (.c a)).den ρ ι, (SV.w (.c b)).den ρ ι]).run P w = .ok (.int k (if q.den ρ < p.den ρ then q.den ρ else p.den ρ)) w := by
    intro ρ ι hf w
    have e1 := ia_den (ι := ι) hf h1
    have e2 := ia_den (ι := ι) hf h2
    simp only [SV.den_w, SW.den, e1, e2, Builtin.min_, List.foldlM, Builtin.min2, bind_pure]
    rfl
   split at h
   ·simp only [R.ok.injEq, Prod.mk.injEq] at h
    obtain ⟨rfl, rfl⟩ := h
    exact .quiet (.refl _ _) fun ρ _ hf A ι w hr hin => ⟨by rw [key ρ ι hf w]; rfl, bare_litI _ _ _⟩
   ·simp only [Bool.false_eq_true, if_false] at h
    have g := mkI_gives (Φ := Φ) h
    exact .quiet g.quiet fun ρ hl hf A ι w hr hin => ⟨by rw [key ρ ι hf w, (g.den ρ hl hf ι).1]; rfl, g.bare _⟩
  ·exact stop_ne h
 ·exact stop_ne h
theorem srcLen_run {a : SV} {n : Nat} (h : srcLen a = some n) (ρ : Env) (ι : Loc) (w : World) : (Builtin.lenOf (a.den ρ ι)).run P w = .ok n w := by
 unfold srcLen at h
 split at h <;> first
  | (simp only [Option.some.injEq] at h; subst h; rfl)
  | cases h
theorem srcCells_run {size n : Nat} {a : SV} {st : St} {l : List SC} (h : srcCells size n a st = some l) {ρ : Env} {ι : Loc} {A : Nat → Prop} {w : World} (hr : Rep ρ ι A st.heap.get st.nb w) :
  (Builtin.firstCells size n (a.den ρ ι)).run P w = .ok (l.map (SC.den ρ ι)).toArray w ∧ ∀ c ∈ l, c.on (lim st.nb A) := by
 unfold srcCells at h
 split at h
 ·rename_i b off _ _
  split at h
  ·rename_i k hk
   exact ⟨loadCells_run hr hk h, Blk.row_on h (hr.on b k hk)⟩
  ·cases h
 ·rename_i b _
  split at h
  ·rename_i k hk
   exact ⟨loadCells_run hr hk h, Blk.row_on h (hr.on b k hk)⟩
  ·cases h
 ·simp only [Option.some.injEq] at h
  subst h
  exact ⟨rfl, fun c hc => by cases hc⟩
 ·rename_i s
  simp only [Option.some.injEq] at h
  subst h
  refine ⟨?_, fun c hc => ?_⟩
  ·simp only [SV.den_w, SW.den_lit, Builtin.firstCells, Sem.run_pure, List.map_map]
   congr 1
   apply Array.toList_inj.1
   rw [Array.toList_map]
   rfl
  ·obtain ⟨b, _, rfl⟩ := List.mem_map.1 hc
   trivial
 ·cases h
theorem copy_does {Φ : Phi} {C : Ctx} (hT : TysOk P C.tys) {t : TypeId} {ts : List TypeId} {ty : TypeId} {d s : SV} {st st' : St} {v : SV} (h : copyS C t d s st = .ok (v, st')) :
  Does P Φ st v st' [d, s] fun ρ ι => Builtin.copy_ (t :: ts).toArray ty #[d.den ρ ι, s.den ρ ι] := by
 unfold copyS at h
 split at h
 ·rename_i e sl hd hsl
  have hd' := descOf_ok hT hd
  split at h
  ·rename_i j b off len cap hj
   simp only at h
   split at h
   ·rename_i cells k hc hk
    split at h
    ·rename_i k' hp
     simp only [R.ok.injEq, Prod.mk.injEq] at h
     obtain ⟨rfl, rfl⟩ := h
     refine ⟨setBlk_le hk, fun ρ _ _ A hA ι w hr hin => ?_⟩
     obtain ⟨h1, h2⟩ := srcCells_run (P := P) hc hr
     obtain ⟨w', h3, h4⟩ := storeCells_run (P := P) hr hk hp h2
     refine ⟨ι, w', ?_, h4, bare_litI _ _ _⟩
     simp [Builtin.copy_, SV.den_w, SW.den_slc, run_underlying hd', srcLen_run hsl, (hT e j hj).runSize, h1, h3, litI, goInt, SW.den_lit]
    ·exact stop_ne h
   ·exact stop_ne h
  ·exact stop_ne h
 ·exact stop_ne h
theorem repL_length (z : List SC) : ∀ n, (repL z n).length = n * z.length
 | 0 => by simp [repL]
 | n + 1 => by simp [repL, repL_length z n, Nat.succ_mul]; omega
theorem repL_get (z : List SC) (hz : 0 < z.length) : ∀ (n j : Nat), j < n * z.length → (repL z n)[j]? = z[j % z.length]?
 | 0, j, h => by omega
 | n + 1, j, h => by
  simp only [repL]
  by_cases hj : j < z.length
  ·rw [List.getElem?_append_left hj, Nat.mod_eq_of_lt hj]
  ·rw [List.getElem?_append_right (by omega), repL_get z hz n (j - z.length) (by rw [Nat.succ_mul] at h; omega), Nat.mod_eq_sub_mod (by omega : j ≥ z.length)]
theorem repL_on {A : Nat → Prop} {z : List SC} (h : ∀ c ∈ z, c.on A) : ∀ n, ∀ c ∈ repL z n, c.on A
 | 0, c, hc => by simp [repL] at hc
 | n + 1, c, hc => by
  simp only [repL, List.mem_append] at hc
  rcases hc with hc | hc
  ·exact h c hc
  ·exact repL_on h n c hc
theorem zeros_run (z : List SC) (hz : 0 < z.length) (n : Nat) (ρ : Env) (ι : Loc) (zv : Array Value) (hzv : zv = (z.map (SC.den ρ ι)).toArray) :
  ((Array.range (n * z.length)).map fun j => zv[j % zv.size]!) = ((repL z n).map (SC.den ρ ι)).toArray := by
 have hs : zv.size = z.length := by simp [hzv]
 apply Array.ext_getElem?
 intro j
 simp only [List.getElem?_toArray, List.getElem?_map, Array.getElem?_map]
 by_cases hj : j < n * z.length
 ·rw [repL_get z hz n j hj]
  have hm : j % z.length < z.length := Nat.mod_lt _ hz
  have h1 : (Array.range (n * z.length))[j]? = some j := by simp [hj]
  rw [h1]
  simp only [Option.map_some, hs]
  have h2 : zv[j % z.length]? = some ((z[j % z.length]'hm).den ρ ι) := by rw [hzv]; simp [hm]
  rw [getElem!_def, h2]
  simp [hm]
 ·have h1 : (Array.range (n * z.length))[j]? = none := by simp; omega
  have h2 : (repL z n)[j]? = none := List.getElem?_eq_none (by rw [repL_length]; omega)
  rw [h1, h2]
  rfl
theorem buildSlice_does {Φ : Phi} {C : Ctx} (hT : TysOk P C.tys) {t : TypeId} {len : Nat} {parts : List (Nat × SV)} {st st' : St} {v : SV} (h : buildSliceS C t len parts st = .ok (v, st')) :
  Does P Φ st v st' (parts.map Prod.snd) fun ρ ι => Instr.buildSlice t len (parts.map fun p => (p.1, p.2.den ρ ι)).toArray := by
 unfold buildSliceS at h
 split at h
 ·rename_i e hd
  have hd' := descOf_ok hT hd
  split at h
  ·rename_i j z hj hz
   obtain ⟨zv, z1, z2⟩ := zeroCells_run hT hz
   split at h
   ·rename_i hc
    simp only [Bool.and_eq_true] at hc
    have c1 : z.length = j.size := by simpa using hc.1.1
    have c2 : 0 < j.size := by simpa using hc.1.2
    have c3 : len * j.size ≤ 65536 := by simpa using hc.2
    split at h
    ·rename_i l hl
     simp only [R.ok.injEq, Prod.mk.injEq] at h
     obtain ⟨rfl, rfl⟩ := h
     refine ⟨newBlk_le, fun ρ _ _ A hA ι w hr hin => ?_⟩
     have hlon := fillS_on _ parts _ l hl (repL_on (zeroCells_on hz (lim st.nb A)) len) (fun p hp => hin p.2 (List.mem_map.2 ⟨p, hp, rfl⟩))
     have hA' : A st.nb := hA st.nb (Nat.le_refl _) (Nat.lt_succ_self _)
     have hpost := newBlk_post hr (Blk.on_ofList (t := e) hlon) hA' [] (fun _ => rfl) 0 w.drawn
     rw [Blk.cells_ofList, List.append_nil] at hpost
     refine ⟨_, _, ?_, hpost, ?_⟩
     ·have hf := fill_run (fun k => some (k * j.size, j.size)) ρ ι parts _ l hl
      have hz3 := zeros_run z (by omega) len ρ ι _ (z2 ρ ι)
      have h24 : ¬ (len * j.size > 2 ^ 24) := by omega
      simp only [Instr.buildSlice, Sem.run_bind, run_underlying hd', Result.andThen_ok, (hT e j hj).runSize]
      rw [if_neg h24]
      by_cases h0 : len * j.size = 0
      ·have hl0 : len = 0 := by
        rcases Nat.mul_eq_zero.1 h0 with h | h
        ·exact h
        ·omega
       subst hl0
       simp only [repL, List.map_nil] at hf
       have hr0 : ∀ f : Nat → Value, (Array.range 0).map f = #[] := fun f => by simp
       simp only [h0, if_true, Sem.run_bind, Sem.run_pure, Result.andThen_ok, hr0]
       rw [show (#[] : Array Value) = ([] : List Value).toArray from rfl, hf]
       simp only [Sem.run_bind, newRow, run_newObj, Result.andThen_ok, Sem.run_pure]
       simp [SV.den_w, SW.den_slc, newBlk, Loc.set, Blk.ofList]
      ·simp only [h0, if_false, Sem.run_bind, Sem.run_pure, Result.andThen_ok, z1]
       rw [c1] at hz3
       rw [hz3, hf]
       simp only [Sem.run_bind, newRow, run_newObj, Result.andThen_ok, Sem.run_pure]
       simp [SV.den_w, SW.den_slc, newBlk, Loc.set, Blk.ofList]
     ·exact on_slc.2 ⟨Nat.lt_succ_self _, hA'⟩
    ·exact stop_ne h
   ·exact stop_ne h
  ·exact stop_ne h
 ·exact stop_ne h
theorem makeSlice_does {Φ : Phi} {C : Ctx} (hT : TysOk P C.tys) {t : TypeId} {len cap : SV} {st st' : St} {v : SV} (h : makeSliceS C t len cap st = .ok (v, st')) :
  Does P Φ st v st' [len, cap] fun ρ ι => Instr.makeSlice t (len.den ρ ι) (cap.den ρ ι) := by
 unfold makeSliceS at h
 split at h
 ·rename_i e hd
  have hd' := descOf_ok hT hd
  split at h
  ·rename_i j z hj hz
   obtain ⟨zv, z1, z2⟩ := zeroCells_run hT hz
   split at h
   ·exact er_ne h
   ·rename_i n st1 hn
    obtain ⟨q1, e1⟩ := getN_run (Φ := Φ) hn
    split at h
    ·exact er_ne h
    ·rename_i m st2 hm
     obtain ⟨q2, e2⟩ := getN_run (Φ := Φ) hm
     split at h
     ·rename_i hc
      simp only [Bool.and_eq_true] at hc
      have c1 : n ≤ m := by simpa using hc.1.1.1
      have c2 : m ≤ 1000000000 := by simpa using hc.1.1.2
      have c3 : m * j.bytes ≤ 140737488355328 := by simpa using hc.1.2
      have c4 : j.size = 1 := by simpa using hc.2
      simp only [R.ok.injEq, Prod.mk.injEq] at h
      obtain ⟨rfl, rfl⟩ := h
      have q := q1.trans q2
      refine ⟨q.le.trans newBlk_le, fun ρ hl hf A hA ι w hr hin => ?_⟩
      have hl2 : LogOk Φ ρ st2.log := hl
      obtain ⟨k1, e1⟩ := e1 ρ (q2.logOk hl2) hf ι
      obtain ⟨k2, e2⟩ := e2 ρ hl2 (q1.facts ρ (q2.logOk hl2) hf) ι
      have hr2 := q.rep hr
      have hbon : (⟨e, m, z, .e, false, none⟩ : Blk).on (lim st2.nb A) := by
       intro i hi
       simp only [Blk.at, Tr.get_e, Option.getD_none]
       exact zeroCells_on hz _ z (by simp)
      have hA' : A st2.nb := hA st2.nb (by rw [q.nb]; exact Nat.le_refl _) (Nat.lt_succ_self _)
      have hpost := newBlk_post hr2 hbon hA' [] (fun _ => rfl) 0 w.drawn
      rw [List.append_nil] at hpost
      refine ⟨_, _, ?_, (q.post hr).trans q.le hr hpost, ?_⟩
      ·obtain ⟨f, i1, i2, i3, i4⟩ := (hT e j hj).runInfo w
       have hw : ∀ n : Nat, n ≤ 1000000000 → IntKind.i64.wrap (n : Int) = n := by
        intro n hn
        exact IntWalk.i64_in _ ⟨by omega, by omega⟩
       have hb : (f.bytes : Int) * (m : Int) ≤ 140737488355328 := by
        rw [i3, ← Int.natCast_mul, Nat.mul_comm]
        omega
       have hcells : (Blk.cells ρ ι ⟨e, m, z, .e, false, none⟩).toArray = ((Array.range (m * j.size)).map fun i => zv.cells[i % zv.cells.size]!) := by
        have := zeros_run [z] (by simp) m ρ ι _ (z2 ρ ι)
        rw [c4]
        simp only [List.length_singleton] at this
        rw [this]
        congr 1
        apply List.ext_getElem?
        intro i
        rw [List.getElem?_map]
        by_cases hi : i < m
        ·rw [Blk.cells_get _ _ _ hi, repL_get [z] (by simp) m i (by simpa using hi)]
         simp [Blk.at, Tr.get_e, Nat.mod_one]
        ·rw [List.getElem?_eq_none (by rw [Blk.cells_length]; exact Nat.le_of_not_lt hi), List.getElem?_eq_none (by rw [repL_length]; simp; omega)]
         rfl
       have hcl : m * j.size = 0 → (Blk.cells ρ ι ⟨e, m, z, .e, false, none⟩).toArray = ((Array.range (m * j.size)).map fun i => (#[] : Array Value)[i % 0]!) := by
        intro h0
        rw [hcells, h0]
        simp
       simp only [Instr.makeSlice, Sem.run_bind, run_underlying hd', Result.andThen_ok, e1, e2, asInt, asIntOf, pure_bind, i1, Sem.run_pure]
       have hw1 : IntKind.i64.wrap (Int.ofNat n) = n := hw n (by omega)
       have hw2 : IntKind.i64.wrap (Int.ofNat m) = m := hw m c2
       rw [hw1, hw2]
       have t1 : ¬ ((m : Int) < 0) := by omega
       have t2 : ¬ ((f.bytes : Int) * (m : Int) > 2 ^ 48) := by omega
       have t3 : ¬ ((n : Int) < 0) := by omega
       have t4 : ¬ ((n : Int) > (m : Int)) := by omega
       simp only [t1, t2, t3, t4, decide_false, Bool.or_false, Bool.false_eq_true, if_false, Sem.run_bind, run_askRoom, Result.andThen_ok, (hT e j hj).runSize, Int.toNat_natCast]
       by_cases h0 : m * j.size = 0
       ·simp only [h0, if_true, Sem.run_bind, Sem.run_pure, Result.andThen_ok, newRow, run_newObj]
        have := hcl h0
        rw [h0] at this
        simp only [Array.size_empty]
        rw [← this]
        simp [SV.den_w, SW.den_slc, newBlk, Loc.set]
       ·simp only [h0, if_false, Sem.run_bind, Sem.run_pure, Result.andThen_ok, z1, newRow, run_newObj]
        rw [← hcells]
        simp [SV.den_w, SW.den_slc, newBlk, Loc.set]
      ·exact on_slc.2 ⟨Nat.lt_succ_self _, hA'⟩
     ·exact stop_ne h
    ·exact stop_ne h
   ·exact stop_ne h
  ·exact stop_ne h
 ·exact stop_ne h
theorem zerosTail (zv : Array Value) (m : Nat) : ∃ l : List Value, Builtin.zeroCells zv m = l.toArray := ⟨(Builtin.zeroCells zv m).toList, by simp⟩
set_option maxHeartbeats 4000000 in
theorem append_grow {C : Ctx} (hT : TysOk P C.tys) {t e : TypeId} {t2 : Option TypeId} {ty : TypeId} {j : TI} (hd' : P.underlying t = some (.slice e)) (hj : C.tys.get e = some j)
    {z : List SC} (hz : zeroCells C e = some z)
    (ht2 : ∀ u, t2 = some u → ∃ d, P.underlying u = some d ∧ isIntD d = false)
    {s x : SV} {base : Option Addr} {len cap n : Nat} {old new : List SC} {st : St} (hn : srcLen x = some n) (hnew : srcCells j.size n x st = some new)
    (hnot : ¬ len + n ≤ cap) (hb1 : len + n ≤ 1000000000) (hb2 : Builtin.nextslicecap (len + n) cap * j.bytes ≤ 281474976710656) (hb3 : 0 < j.bytes)
    {ρ : Env} {ι : Loc} {A : Nat → Prop} {w : World} (hr : Rep ρ ι A st.heap.get st.nb w) (hs : s.den ρ ι = .slice base len cap)
    (hold : ∀ w', w'.heap = w.heap → (Builtin.firstCells j.size len (s.den ρ ι)).run P w' = .ok (old.map (SC.den ρ ι)).toArray w')
    (holdon : ∀ c ∈ old, c.on (lim st.nb A)) (hA : A st.nb) :
    ∃ c w', (Builtin.append_ (t :: t2.toList).toArray ty #[s.den ρ ι, x.den ρ ι]).run P w = .ok (.slice (some ⟨w.heap.size, 0, none⟩) (len + n) c) w' ∧
      Post ρ ι A st w (ι.set st.nb w.heap.size c) (newBlk { Blk.ofList e (old ++ new) with more := true } st).2 w' := by
  obtain ⟨f, i1, i2, i3, i4⟩ := (hT e j hj).runInfo w
  obtain ⟨g, hg, g2, g3, g4⟩ := (hT e j hj).info
  obtain ⟨zv, z1, z2⟩ := zeroCells_run hT hz
  have hti : ∀ w, (typeInfo e).run P w = .ok g w := fun w => by simp [typeInfo, hg]
  let q : Question := .appendCap (len + n) cap e
  let c := q.cut (w.tape w.drawn q)
  let w1 : World := w.drew
  have hr1 : Rep ρ ι A st.heap.get st.nb w1 := hr.world rfl
  obtain ⟨hn1, hn2⟩ := srcCells_run (P := P) hnew hr1
  obtain ⟨tl, htl⟩ := zerosTail zv.cells (c - (len + n))
  have hbon : ({ Blk.ofList e (old ++ new) with more := true } : Blk).on (lim st.nb A) :=
    Blk.on_ofList (t := e) (l := old ++ new) fun d hd => by
      rcases List.mem_append.1 hd with hd | hd
      · exact holdon d hd
      · exact hn2 d hd
  have hpost := newBlk_post (b := { Blk.ofList e (old ++ new) with more := true }) hr hbon hA tl (fun h => by cases h) c (w.drawn + 1)
  refine ⟨c, _, ?_, hpost⟩
  have hcells : ({ Blk.ofList e (old ++ new) with more := true } : Blk).cells ρ ι = (old ++ new).map (SC.den ρ ι) := Blk.cells_ofList e (old ++ new) ρ ι
  rw [hcells]
  have hb0 : ¬ (g.bytes = 0) := by omega
  have hi64 : ¬ (((len + n : Nat) : Int) > IntKind.i64.max) := by
    have : IntKind.i64.max = 9223372036854775807 := rfl
    omega
  have h48 : ¬ (Builtin.nextslicecap (len + n) cap * g.bytes > 2 ^ 48) := by rw [g3]; omega
  have hfo : (Question.appendCap (len + n) cap e).forced = false := rfl
  have hi64' : ¬ (IntKind.i64.max < (len : Int) + (n : Int)) := by
    have : IntKind.i64.max = 9223372036854775807 := rfl
    omega
  rw [hs] at hold
  cases t2 with
  | none =>
    simp only [Builtin.append_, Option.toList_none, hs]
    simp [run_underlying hd', (hT e j hj).runSize, srcLen_run hn, hnot, hti, hb0, hi64, hi64', h48, hfo, hold w.drew rfl]
    rw [hn1]
    simp [z1, newRow]
    rw [htl]
    simp
    first | exact ⟨⟨rfl, rfl⟩, rfl⟩ | rfl
  | some u =>
    obtain ⟨d, hu, hd⟩ := ht2 u rfl
    simp only [Builtin.append_, Option.toList_some, hs]
    cases d <;> first
      | (simp [isIntD] at hd; done)
      | (simp [run_underlying hd', run_underlying hu, (hT e j hj).runSize, srcLen_run hn, hnot, hti, hb0, hi64, hi64', h48, hfo, hold w.drew rfl]
         rw [hn1]
         simp [z1, newRow]
         rw [htl]
         simp
         first | exact ⟨⟨rfl, rfl⟩, rfl⟩ | rfl)
set_option maxHeartbeats 1000000 in
theorem append_does {Φ : Phi} {C : Ctx} (hT : TysOk P C.tys) {t : TypeId} {ts : List TypeId} {ty : TypeId} {s x : SV} {st st' : St} {v : SV}
  (h : appendS C t ts.head? s x st = .ok (v, st')) (hts : ts.length ≤ 1) :
  Does P Φ st v st' [s, x] fun ρ ι => Builtin.append_ (t :: ts).toArray ty #[s.den ρ ι, x.den ρ ι] := by
 have hts' : ts = ts.head?.toList := by
  match ts, hts with
  | [], _ => rfl
  | [u], _ => rfl
 generalize ts.head? = t2 at h hts'
 subst hts'
 unfold appendS at h
 split at h
 ·rename_i e n d2 hd hn hd2
  have hd' := descOf_ok hT hd
  split at h
  ·exact stop_ne h
  ·rename_i hint
   simp only [Bool.not_eq_true] at hint
   have ht2 : ∀ u, t2 = some u → ∃ d, P.underlying u = some d ∧ isIntD d = false := by
    intro u hu
    subst hu
    exact ⟨d2, descOf_ok hT hd2, hint⟩
   split at h
   ·rename_i j z hj hz
    split at h
    ·exact stop_ne h
    ·rename_i new hnew
     split at h
     ·rename_i b off len cap
      split at h
      ·rename_i hle
       have hle : len + n ≤ cap := by simpa using hle
       split at h
       ·rename_i k hk
        split at h
        ·rename_i k' hp
         simp only [R.ok.injEq, Prod.mk.injEq] at h
         obtain ⟨rfl, rfl⟩ := h
         refine ⟨setBlk_le hk, fun ρ _ _ A hA ι w hr hin => ?_⟩
         obtain ⟨h1, h2⟩ := srcCells_run (P := P) hnew hr
         obtain ⟨w', h3, h4⟩ := storeCells_run (P := P) hr hk hp h2
         refine ⟨ι, w', ?_, h4, on_slc.2 (on_slc.1 (hin (.w (.c (.slc b off len cap))) (by simp)))⟩
         cases t2 with
         | none =>
          simp only [Builtin.append_, Option.toList_none, SV.den_w, SW.den_slc]
          simp [run_underlying hd', (hT e j hj).runSize, srcLen_run hn, hle, h1, addr_add, h3]
         | some u =>
          obtain ⟨d, hu, hd⟩ := ht2 u rfl
          simp only [Builtin.append_, Option.toList_some, SV.den_w, SW.den_slc]
          cases d <;> first
           | (simp [isIntD] at hd; done)
           | simp [run_underlying hd', run_underlying hu, (hT e j hj).runSize, srcLen_run hn, hle, h1, addr_add, h3]
        ·exact stop_ne h
       ·exact stop_ne h
      ·rename_i hle
       have hle : ¬ len + n ≤ cap := by simpa using hle
       split at h
       ·rename_i old hold
        split at h
        ·rename_i hc
         simp only [Bool.and_eq_true] at hc
         have c1 : len + n ≤ 1000000000 := by simpa using hc.1.1
         have c2 : Builtin.nextslicecap (len + n) cap * j.bytes ≤ 281474976710656 := by simpa using hc.1.2
         have c3 : 0 < j.bytes := by simpa using hc.2
         simp only [R.ok.injEq, Prod.mk.injEq] at h
         obtain ⟨rfl, rfl⟩ := h
         refine ⟨newBlk_le, fun ρ _ _ A hA ι w hr hin => ?_⟩
         have hA' : A st.nb := hA st.nb (Nat.le_refl _) (Nat.lt_succ_self _)
         obtain ⟨c, w', h1, h2⟩ := append_grow (ty := ty) hT hd' hj hz ht2 (s := SV.w (.c (.slc b off len cap))) hn hnew hle c1 c2 c3 hr rfl
          (fun w'' hw => (srcCells_run (P := P) hold (hr.world hw)).1) (srcCells_run (P := P) hold hr).2 hA'
         refine ⟨_, w', ?_, h2, on_slu.2 ⟨Nat.lt_succ_self _, hA'⟩⟩
         rw [h1]
         simp [SV.den_w, SW.den_slu, newBlk, Loc.set]
        ·exact stop_ne h
       ·exact stop_ne h
     ·split at h
      ·rename_i hn0
       have hn0 : n = 0 := by simpa using hn0
       subst hn0
       simp only [R.ok.injEq, Prod.mk.injEq] at h
       obtain ⟨rfl, rfl⟩ := h
       refine .quiet (.refl _ _) fun ρ _ _ A ι w hr hin => ⟨?_, bare_c (x := .lit (.slice none 0 0)) (fun _ => trivial) _⟩
       obtain ⟨h1, h2⟩ := srcCells_run (P := P) hnew hr
       cases t2 with
       | none =>
        simp only [Builtin.append_, Option.toList_none, SV.den_w, SW.den_lit]
        simp [run_underlying hd', (hT e j hj).runSize, srcLen_run hn, h1]
       | some u =>
        obtain ⟨d, hu, hd⟩ := ht2 u rfl
        simp only [Builtin.append_, Option.toList_some, SV.den_w, SW.den_lit]
        cases d <;> first
         | (simp [isIntD] at hd; done)
         | simp [run_underlying hd', run_underlying hu, (hT e j hj).runSize, srcLen_run hn, h1]
      ·rename_i hn0
       have hn0 : ¬ n = 0 := by simpa using hn0
       split at h
       ·rename_i hc
        simp only [Bool.and_eq_true] at hc
        have c1 : n ≤ 1000000000 := by simpa using hc.1.1
        have c2 : Builtin.nextslicecap n 0 * j.bytes ≤ 281474976710656 := by simpa using hc.1.2
        have c3 : 0 < j.bytes := by simpa using hc.2
        simp only [R.ok.injEq, Prod.mk.injEq] at h
        obtain ⟨rfl, rfl⟩ := h
        refine ⟨newBlk_le, fun ρ _ _ A hA ι w hr hin => ?_⟩
        have hA' : A st.nb := hA st.nb (Nat.le_refl _) (Nat.lt_succ_self _)
        obtain ⟨c, w', h1, h2⟩ := append_grow (ty := ty) hT hd' hj hz ht2 (s := SV.w (.c (.lit (.slice none 0 0)))) (base := none) (len := 0) (cap := 0) (old := []) hn hnew (by omega) (by omega) (by simpa using c2) c3 hr rfl
         (fun w'' hw => rfl) (fun c hc => by cases hc) hA'
        refine ⟨_, w', ?_, h2, on_slu.2 ⟨Nat.lt_succ_self _, hA'⟩⟩
        rw [h1]
        simp [SV.den_w, SW.den_slu, newBlk, Loc.set]
       ·exact stop_ne h
     ·exact stop_ne h
   ·exact stop_ne h
 ·exact stop_ne h
end
end Go.Sx
namespace Go.Sx
set_option linter.unusedSectionVars false
variable [Pins]
set_option linter.unusedSimpArgs false
set_option linter.unusedVariables false
section
variable {P : Program}
theorem checkKey_basic {t : TypeId} {i : TI} (ht : TyAt P t i) (hb : basicD i.desc = true) (e : Bool) (n : Nat) (v : Value) (w : World) :
  (Instr.checkKey e (n + 1) t v).run P w = .ok () w := by
 unfold Instr.checkKey
 simp only [Sem.run_bind, ht.runUnd, Result.andThen_ok]
 revert hb
 cases i.desc <;> simp [basicD]
theorem checkKey_fields {C : Ctx} (hT : TysOk P C.tys) (e : Bool) (n : Nat) (xs : List SC) (ρ : Env) (ι : Loc) (w : World) :
  ∀ fs : List Field, (fs.map fun f => (f.type, f.offset)).all (fun f => basicT C f.1 && (partS C f.1 xs f.2).isSome) = true →
   (Sem.run P (forIn fs PUnit.unit fun f __s =>
      if f.name ≠ "_" then do
       let __do_lift ← part f.type (xs.map (SC.den ρ ι)).toArray f.offset
       Instr.checkKey e (n + 1) f.type __do_lift
       pure (ForInStep.yield PUnit.unit)
      else pure (ForInStep.yield PUnit.unit)) w) = .ok PUnit.unit w
 | [], _ => by simp
 | f :: fs, h => by
  simp only [List.map_cons, List.all_cons, Bool.and_eq_true] at h
  obtain ⟨⟨h1, h2⟩, h3⟩ := h
  have ih := checkKey_fields hT e n xs ρ ι w fs h3
  obtain ⟨y, hy⟩ := Option.isSome_iff_exists.1 h2
  have hp := part_run hT hy ρ ι w
  unfold basicT at h1
  split at h1
  ·rename_i i hi
   have hc := checkKey_basic (hT _ i hi) h1 e n (y.den ρ ι) w
   simp only [List.forIn_cons, Sem.run_bind]
   by_cases hn : f.name = "_"
   ·simp only [hn, ne_eq, not_true_eq_false, if_false, Sem.run_pure, Result.andThen_ok]
    exact ih
   ·simp only [hn, ne_eq, not_false_eq_true, if_true, Sem.run_bind, hp, hc, Sem.run_pure, Result.andThen_ok]
    exact ih
  ·cases h1
theorem checkKey_run {C : Ctx} (hT : TysOk P C.tys) {kt : TypeId} {ks : List SC} (h : keyOk C kt ks = true) (e : Bool) (ρ : Env) (ι : Loc) (w : World) :
  (Instr.checkKey e 10000 kt ((SW.agg ks).den ρ ι)).run P w = .ok () w := by
 unfold keyOk at h
 split at h
 ·rename_i i hi
  split at h
  ·rename_i fs hd
   have ht := hT kt i hi
   rw [ht.fs fs hd] at h
   have := checkKey_fields hT e 9998 ks ρ ι w fs.toList h
   show (Instr.checkKey e (9999 + 1) kt ((SW.agg ks).den ρ ι)).run P w = .ok () w
   unfold Instr.checkKey
   simp only [Sem.run_bind, ht.runUnd, hd, Result.andThen_ok, SW.den]
   rw [← Array.forIn_toList]
   exact (congrArg (fun r => Result.andThen r fun _ w' => Sem.run P (pure ()) w') this).trans rfl
  ·cases h
 ·cases h
theorem findMap_ok {Φ : Phi} {C : Ctx} (hT : TysOk P C.tys) {kt : TypeId} {key : SW} : ∀ {es : List (SW × SW)} {st st' : St} {r : Option SW}, findMap C kt key es st = .ok (r, st') →
  (∀ e ∈ es, e.1.data = true ∧ e.2.data = true) →
  Quiet Φ st st' ∧ (∀ v, r = some v → v.data = true) ∧ ∀ ρ, LogOk Φ ρ st'.log → Facts ρ st → ∀ ι w i0 i, ∃ j,
   (Instr.findAsking kt (key.den ρ ι) (entFrom ρ i0 es) i).run P w = .ok (r.map fun v => (j, v.den ρ ι)) w
 | [], st, st', r, h, _ => by
  simp only [findMap, R.ok.injEq, Prod.mk.injEq] at h
  obtain ⟨rfl, rfl⟩ := h
  exact ⟨.refl _ _, (fun v hv => by cases hv), fun ρ _ _ ι w i0 i => ⟨0, rfl⟩⟩
 | e :: es, st, st', r, h, hd => by
  have hde := hd e (List.mem_cons_self ..)
  have hds := fun x hx => hd x (List.mem_cons_of_mem _ hx)
  simp only [findMap] at h
  split at h
  ·simp [stop] at h
  ·rename_i ps hps
   have key0 : ∀ ρ ι, Facts ρ st → ∀ q, leaves st ps = some q → ∀ w, (Op.equal kt (key.den ρ ι) (e.1.den ρ noloc)).run P w = .ok (match q with | none => false | some l => l.all (PE.den ρ)) w := by
    intro ρ ι hf q hq w
    obtain ⟨h1, h2⟩ := leaves_ok (ι := ι) hf ps q hq
    have h3 := eqPairs_run hT ρ ι w 100 10000 (by omega) kt key e.1 ps hps h1
    rw [SW.data_den hde.1 ρ noloc ι]
    refine h3.trans ?_
    rw [h2]
    all_goals (cases q <;> rfl)
   split at h
   ·simp [stop] at h
   ·rename_i hl
    obtain ⟨q, hv, hr⟩ := findMap_ok hT h hds
    refine ⟨q, hv, fun ρ hlog hf ι w i0 i => ?_⟩
    obtain ⟨j, hj⟩ := hr ρ hlog hf ι w (i0 + 1) (i + 1)
    refine ⟨j, ?_⟩
    simp only [entFrom, Instr.findAsking, Sem.run_bind, key0 ρ ι hf _ hl w, Result.andThen_ok, Bool.false_eq_true, if_false]
    exact hj
   ·rename_i hl
    simp only [R.ok.injEq, Prod.mk.injEq] at h
    obtain ⟨rfl, rfl⟩ := h
    refine ⟨.refl _ _, (fun v hv => by cases hv; exact hde.2), fun ρ hlog hf ι w i0 i => ⟨i, ?_⟩⟩
    simp only [entFrom, Instr.findAsking, Sem.run_bind, key0 ρ ι hf _ hl w, Result.andThen_ok, List.all_nil, if_true, Sem.run_pure, Option.map_some]
    rw [SW.data_den hde.2 ρ noloc ι]
   ·rename_i l _ hl
    split at h
    ·cases h
    ·rename_i v st1 hm
     have g := mkB_gives (Φ := Φ) hm
     have gq := g.quiet
     split at h
     ·cases h
     ·rename_i st2 hg
      obtain ⟨q2, hb⟩ := getB_ok (Φ := Φ) hg
      simp only [R.ok.injEq, Prod.mk.injEq] at h
      obtain ⟨rfl, rfl⟩ := h
      refine ⟨gq.trans q2, (fun v hv => by cases hv; exact hde.2), fun ρ hlog hf ι w i0 i => ⟨i, ?_⟩⟩
      have h1 := g.den ρ (q2.logOk hlog) hf ι
      have h2 := hb ρ hlog (gq.facts ρ (q2.logOk hlog) hf) ι
      rw [h2] at h1
      simp only [Value.bool.injEq, Bool.xor_false, BE.den] at h1
      simp only [entFrom, Instr.findAsking, Sem.run_bind, key0 ρ ι hf _ hl w, Result.andThen_ok, ← h1, if_true, Sem.run_pure, Option.map_some]
      rw [SW.data_den hde.2 ρ noloc ι]
     ·rename_i st2 hg
      obtain ⟨q2, hb⟩ := getB_ok (Φ := Φ) hg
      obtain ⟨q, hv, hr⟩ := findMap_ok hT h hds
      refine ⟨(gq.trans q2).trans q, hv, fun ρ hlog hf ι w i0 i => ?_⟩
      have hl2 := q.logOk hlog
      have hl1 := q2.logOk hl2
      have h1 := g.den ρ hl1 hf ι
      have hf1 := gq.facts ρ hl1 hf
      have h2 := hb ρ hl2 hf1 ι
      rw [h2] at h1
      simp only [Value.bool.injEq, Bool.xor_false, BE.den] at h1
      obtain ⟨j, hj⟩ := hr ρ hlog (q2.facts ρ hl2 hf1) ι w (i0 + 1) (i + 1)
      refine ⟨j, ?_⟩
      simp only [entFrom, Instr.findAsking, Sem.run_bind, key0 ρ ι hf _ hl w, Result.andThen_ok, ← h1, Bool.false_eq_true, if_false]
      exact hj
theorem findKey_run {C : Ctx} (hT : TysOk P C.tys) {kt : TypeId} {ks : List SC} (h : keyOk C kt ks = true) (ρ : Env) (ι : Loc) (es : List MapEntry) (w : World) :
  (Instr.findKey kt ((SW.agg ks).den ρ ι) es).run P w = (Instr.findAsking kt ((SW.agg ks).den ρ ι) es 0).run P w := by
 unfold keyOk at h
 split at h
 ·rename_i i hi
  split at h
  ·rename_i fs hd
   have ht := hT kt i hi
   unfold Instr.findKey
   simp only [Sem.run_bind, ht.runUnd, hd, Result.andThen_ok]
   cases es with
   | nil => rfl
   | cons e es =>
    simp only [Instr.findNow, Instr.sameNow]
  ·cases h
 ·cases h
theorem SW.den_mp (ρ : Env) (ι : Loc) (b : Nat) : (SW.c (SC.mp b)).den ρ ι = .map (some (ι.blk b)) := rfl
theorem entFrom_append (ρ : Env) (e : SW × SW) : ∀ (es : List (SW × SW)) (i : Nat), entFrom ρ i (es ++ [e]) = entFrom ρ i es ++ [⟨e.1.den ρ noloc, e.2.den ρ noloc, i + es.length⟩]
 | [], i => rfl
 | x :: es, i => by
  simp only [List.cons_append, entFrom, entFrom_append ρ e es (i + 1), List.length_cons]
  rw [show i + 1 + es.length = i + (es.length + 1) by omega]
theorem Rep.map {ρ : Env} {ι : Loc} {A : Nat → Prop} {H : Nat → Option Blk} {nb : Nat} {w : World} (hr : Rep ρ ι A H nb w) {id : Nat} {k : Blk} (hk : H id = some k) {es : List (SW × SW)} (hm : k.mp = some es) :
  (∀ e ∈ es, e.1.data = true ∧ e.2.data = true) ∧ w.heap[ι.blk id]? = some (.map (entFrom ρ 0 es).toArray es.length) := by
 rcases hr.blk id k hk with ⟨h0, _⟩ | ⟨_, es', h1, h2, h3⟩
 ·rw [hm] at h0; cases h0
 ·rw [hm] at h1
  simp only [Option.some.injEq] at h1
  subst h1
  exact ⟨h2, h3⟩
theorem getObj_at {w : World} {r : Nat} {o : Obj} (h : w.heap[r]? = some o) (hv : ∃ es c, o = .map es c) : (getObj r).run P w = .ok o w := by
 obtain ⟨es, c, rfl⟩ := hv
 simp [getObj, Sem.run, h]
theorem setObj_at {w : World} {r : Nat} {es : Array MapEntry} {c : Nat} (h : w.heap[r]? = some (.map es c)) (o : Obj) : (setObj r o).run P w = .ok () { w with heap := w.heap.setIfInBounds r o } := by
 simp [setObj, Sem.run, h]
theorem allData_mem {es : List (SW × SW)} (h : allData es = true) : ∀ e ∈ es, e.1.data = true ∧ e.2.data = true := fun e he => by
 simp only [allData, List.all_eq_true, Bool.and_eq_true] at h
 exact h e he
theorem makeMap_does {Φ : Phi} {t : TypeId} {st st' : St} {v : SV} (h : makeMapS st = .ok (v, st')) : Does P Φ st v st' [] fun ρ ι => Instr.makeMap t none := by
 simp only [makeMapS, R.ok.injEq, Prod.mk.injEq] at h
 obtain ⟨rfl, rfl⟩ := h
 refine ⟨newBlk_le, fun ρ hl hf A hA ι w hr hin => ?_⟩
 have hA' : A st.nb := hA st.nb (Nat.le_refl _) (Nat.lt_succ_self _)
 have hb : (⟨0, 0, .lit (.tuple #[]), .e, false, some []⟩ : Blk).on (lim st.nb A) := fun i hi => absurd hi (Nat.not_lt_zero i)
 have := newObj_post hr hb hA' (o := .map #[] 0) (.inr ⟨rfl, [], rfl, (fun e he => by cases he), rfl⟩) 0 w.drawn
 refine ⟨_, _, ?_, this, ?_⟩
 ·show Result.ok _ _ = Result.ok _ _
  simp [SV.den, SW.den, SC.den, newBlk, Loc.set]
 ·intro c hc
  simp only [SW.cells, List.mem_singleton] at hc
  subst hc
  exact ⟨Nat.lt_succ_self _, hA'⟩
theorem lookup_does {Φ : Phi} {C : Ctx} (hT : TysOk P C.tys) {t : TypeId} {x key : SV} {ok : Bool} {st st' : St} {v : SV} (h : lookupS C t x key ok st = .ok (v, st')) :
  Does P Φ st v st' [x, key] fun ρ ι => Instr.lookup t (x.den ρ ι) (key.den ρ ι) ok := by
 unfold lookupS at h
 split at h
 ·rename_i kt et b ks hd
  split at h
  ·rename_i k j hk hj
   split at h
   ·rename_i es z hm hz
    split at h
    ·rename_i hko0
     simp only [Bool.and_eq_true] at hko0
     obtain ⟨hko, hal⟩ := hko0
     have hdat := allData_mem hal
     obtain ⟨i, hi, hdi⟩ : ∃ i, C.tys.get t = some i ∧ i.desc = .map kt et := by
      unfold descOf at hd
      cases hg : C.tys.get t with
      | none => rw [hg] at hd; cases hd
      | some i => rw [hg] at hd; simp only [Option.map_some, Option.some.injEq] at hd; exact ⟨i, rfl, hd⟩
     split at h
     ·rename_i r st1 hf
      obtain ⟨q, hv, hr0⟩ := findMap_ok (Φ := Φ) hT hf hdat
      simp only [R.ok.injEq, Prod.mk.injEq] at h
      obtain ⟨rfl, rfl⟩ := h
      refine .quiet q fun ρ hl hfa A ι w hr hin => ?_
      obtain ⟨_, hmap⟩ := hr.map hk hm
      obtain ⟨jj, hj2⟩ := hr0 ρ hl hfa ι w 0 0
      refine ⟨?_, ?_⟩
      ·unfold Instr.lookup
       simp only [Sem.run_bind, (hT t i hi).runUnd, hdi, Result.andThen_ok, SV.den_w, SW.den_mp, getObj_at hmap ⟨_, _, rfl⟩, Sem.run_pure, checkKey_run hT hko, findKey_run hT hko, hj2, Option.map_some]
       cases ok <;> rfl
      ·have hon := SW.data_on (hv r rfl) (lim st.nb A)
       cases ok
       ·exact hon
       ·intro y hy
        simp only [if_true, List.mem_cons, List.not_mem_nil, or_false] at hy
        rcases hy with rfl | rfl
        ·exact hon
        ·exact SW.data_on rfl _
     ·rename_i st1 hf
      obtain ⟨q, hv, hr0⟩ := findMap_ok (Φ := Φ) hT hf hdat
      simp only [R.ok.injEq, Prod.mk.injEq] at h
      obtain ⟨rfl, rfl⟩ := h
      refine .quiet q fun ρ hl hfa A ι w hr hin => ?_
      obtain ⟨_, hmap⟩ := hr.map hk hm
      obtain ⟨jj, hj2⟩ := hr0 ρ hl hfa ι w 0 0
      obtain ⟨f, f1, f2, f3, f4⟩ := (hT et j hj).runInfo w
      have hzv : (zeroValue et).run P w = .ok z w := by
       unfold zeroValue
       simp only [Sem.run_bind, f1, Result.andThen_ok, f4, hz, Sem.run_pure]
      refine ⟨?_, ?_⟩
      ·unfold Instr.lookup
       simp only [Sem.run_bind, (hT t i hi).runUnd, hdi, Result.andThen_ok, SV.den_w, SW.den_mp, getObj_at hmap ⟨_, _, rfl⟩, Sem.run_pure, checkKey_run hT hko, findKey_run hT hko, hj2, Option.map_none, hzv]
       cases ok <;> rfl
      ·cases ok
       ·exact SW.data_on (x := .c (.lit z)) rfl _
       ·intro y hy
        simp only [if_true, List.mem_cons, List.not_mem_nil, or_false] at hy
        rcases hy with rfl | rfl
        ·exact SW.data_on (x := .c (.lit z)) rfl _
        ·exact SW.data_on rfl _
     ·cases h
    ·simp [stop] at h
   ·simp [stop] at h
  ·simp [stop] at h
 ·simp [stop] at h
theorem mapUpd_does {Φ : Phi} {C : Ctx} (hT : TysOk P C.tys) {t : TypeId} {x key y : SV} {st st' : St} {v : SV} (h : mapUpdS C t x key y st = .ok (v, st')) :
  Does P Φ st v st' [x, key, y] fun ρ ι => (Instr.mapUpdate t (x.den ρ ι) (key.den ρ ι) (y.den ρ ι)).bind fun _ => Sem.pure undef := by
 unfold mapUpdS at h
 split at h
 ·rename_i kt et b ks vx hd
  split at h
  ·rename_i k hk
   split at h
   ·rename_i es hm
    split at h
    ·rename_i hko0
     simp only [Bool.and_eq_true] at hko0
     obtain ⟨⟨⟨⟨hko, hal⟩, hkd⟩, hvd⟩, hsz0⟩ := hko0
     have hsz : k.size = 0 := by simpa using hsz0
     have hdat := allData_mem hal
     obtain ⟨i, hi, hdi⟩ : ∃ i, C.tys.get t = some i ∧ i.desc = .map kt et := by
      unfold descOf at hd
      cases hg : C.tys.get t with
      | none => rw [hg] at hd; cases hd
      | some i => rw [hg] at hd; simp only [Option.map_some, Option.some.injEq] at hd; exact ⟨i, rfl, hd⟩
     split at h
     ·rename_i st1 hf
      obtain ⟨q, hv, hr0⟩ := findMap_ok (Φ := Φ) hT hf hdat
      simp only [R.ok.injEq, Prod.mk.injEq] at h
      obtain ⟨rfl, rfl⟩ := h
      have hk1 : st1.heap.get b = some k := by rw [q.heap]; exact hk
      have hle2 : Le Φ st1 (setBlk b { k with mp := some (es ++ [(.agg ks, vx)]) } st1) := setBlk_le hk1
      refine ⟨q.le.trans hle2, fun ρ hl hfa A hA ι w hr hin => ?_⟩
      have hl1 := hle2.logOk hl
      obtain ⟨_, hmap⟩ := hr.map hk hm
      obtain ⟨jj, hj2⟩ := hr0 ρ hl1 hfa ι w 0 0
      have hr1 := q.rep hr
      have hlt := hr.size hk
      have hset := setObj_at (P := P) hmap (.map ((entFrom ρ 0 es).toArray.push ⟨(SW.agg ks).den ρ ι, vx.den ρ ι, es.length⟩) (es.length + 1))
      have hpost := setObj_post (w' := { w with heap := w.heap.setIfInBounds (ι.blk b) (.map ((entFrom ρ 0 es).toArray.push ⟨(SW.agg ks).den ρ ι, vx.den ρ ι, es.length⟩) (es.length + 1)) })
       (o := .map ((entFrom ρ 0 es).toArray.push ⟨(SW.agg ks).den ρ ι, vx.den ρ ι, es.length⟩) (es.length + 1)) hr1 hk1
       (b := { k with mp := some (es ++ [(.agg ks, vx)]) }) (fun j hj => absurd hj (by show ¬ j < k.size; omega))
       (.inr ⟨hsz, es ++ [(.agg ks, vx)], rfl, (fun e he => by
        rcases List.mem_append.1 he with he | he
        ·exact hdat e he
        ·simp only [List.mem_singleton] at he
         subst he
         exact ⟨hkd, hvd⟩), by
        rw [entFrom_append, SW.data_den hkd ρ noloc ι, SW.data_den hvd ρ noloc ι]
        simp⟩)
       (by simp [hlt]) (fun g hg => by simp [Array.getElem?_setIfInBounds, Ne.symm hg]) rfl rfl rfl (by simp)
      refine ⟨ι, _, ?_, (q.post hr).trans q.le hr hpost, fun y hy => by cases hy⟩
      rw [Sem.run_bind']
      have hrun : (Instr.mapUpdate t ((SV.w (SW.c (SC.mp b))).den ρ ι) ((SV.w (SW.agg ks)).den ρ ι) ((SV.w vx).den ρ ι)).run P w = .ok () { w with heap := w.heap.setIfInBounds (ι.blk b) (.map ((entFrom ρ 0 es).toArray.push ⟨(SW.agg ks).den ρ ι, vx.den ρ ι, es.length⟩) (es.length + 1)) } := by
       unfold Instr.mapUpdate
       simp only [Sem.run_bind, (hT t i hi).runUnd, hdi, Result.andThen_ok, SV.den_w, SW.den_mp, getObj_at hmap ⟨_, _, rfl⟩, Sem.run_pure, checkKey_run hT hko, findKey_run hT hko, hj2, Option.map_none]
       exact hset
      rw [hrun]
      rfl
     ·simp [stop] at h
     ·cases h
    ·simp [stop] at h
   ·simp [stop] at h
  ·simp [stop] at h
 ·simp [stop] at h
end
end Go.Sx
