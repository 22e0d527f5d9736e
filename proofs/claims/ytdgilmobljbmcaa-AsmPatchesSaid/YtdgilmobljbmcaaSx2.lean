/-
  A symbolic executor for the model's code: the operations.
-/
import Derived.Test.YtdgilmobljbmcaaSx1
namespace Go.Sx

def stop {α : Type} (c : Nat) (st : St) : R α := .er c st.log ""

def SC.ia (st : St) : SC → Option (IntKind × IA)
  | .lit (.int k n) => some (k, .lit n)
  | .ivar k x => some (k, match st.jf.get x with | some n => .lit n | none => .var x)
  | _ => none

def SC.ba (st : St) : SC → Option BA
  | .lit (.bool b) => some (.lit b)
  | .bvar x neg => some (match st.bf.get x with | some b => .lit (xor b neg) | none => .var x neg)
  | _ => none

def SC.sa : SC → Option SA
  | .lit (.string s) => some (.lit s)
  | .svar x => some (.var x)
  | _ => none

def mkI (k : IntKind) (e : IE) (st : St) : R (SV × St) :=
  .ok (.w (.c (.ivar k st.nx)), { st with nx := st.nx + 1, log := .setI0 st.nx e :: st.log })
def mkB (e : BE) (neg : Bool) (st : St) : R (SV × St) :=
  .ok (.w (.c (.bvar st.nx neg)), { st with nx := st.nx + 1, log := .setB0 st.nx e :: st.log })
def mkS (e : SE) (st : St) : R (SV × St) :=
  .ok (.w (.c (.svar st.nx)), { st with nx := st.nx + 1, log := .setS0 st.nx e :: st.log })

def litI (k : IntKind) (n : Int) : SV := .w (.c (.lit (.int k n)))
def litB (b : Bool) : SV := .w (.c (.lit (.bool b)))

/-- A truth that the way hangs on. -/
def getB (v : SV) (st : St) : R (Bool × St) :=
  match v with
  | .w (.c (.lit (.bool b))) => .ok (b, st)
  | .w (.c (.bvar x neg)) =>
    match st.bf.get x with
    | some b => .ok (xor b neg, st)
    | none =>
      match st.ds with
      | .db b :: ds => .ok (xor b neg, { st with ds := ds, log := .decB x b :: st.log, bf := st.bf.set x b })
      | _ => stop 1 st
  | _ => stop 2 st

/-- A number that the way hangs on. -/
def getN (v : SV) (st : St) : R (Int × St) :=
  match v with
  | .w (.c (.lit (.int _ n))) => .ok (n, st)
  | .w (.c (.ivar _ x)) =>
    match st.jf.get x with
    | some n => .ok (n, st)
    | none =>
      match st.ds with
      | .di n :: ds => .ok (n, { st with ds := ds, log := .decI x n :: st.log, jf := st.jf.set x n })
      | _ => stop 3 st
  | _ => stop 4 st

def arithOp : BinOp → Bool
  | .add | .sub | .mul | .quo | .rem | .and | .or | .xor | .andNot => true
  | _ => false
def cmpOp : BinOp → Bool
  | .eql | .neq | .lss | .leq | .gtr | .geq => true
  | _ => false
def shOp : BinOp → Bool
  | .shl | .shr => true
  | _ => false
def divOp : BinOp → Bool
  | .quo | .rem => true
  | _ => false

def kindEq (a b : IntKind) : Bool := decide (a = b)

def intBin (op : BinOp) (k k' : IntKind) (a b : IA) (st : St) : R (SV × St) :=
  if shOp op then
    match a, b with
    | .lit m, .lit n => if decide (0 ≤ n) then .ok (litI k (ibin op k m n), st) else stop 5 st
    | a, b => mkI k (.bin op k a b) st
  else if !kindEq k k' then stop 6 st
  else if cmpOp op then
    match a, b with
    | .lit m, .lit n => .ok (litB (icmp op m n), st)
    | a, b => mkB (.cmp op a b) false st
  else if arithOp op then
    match a, b with
    | .lit m, .lit n => if divOp op && decide (n = 0) then stop 7 st else .ok (litI k (ibin op k m n), st)
    | a, b => mkI k (.bin op k a b) st
  else stop 8 st

def descOf (C : Ctx) (t : TypeId) : Option TypeDesc := (C.tys.get t).map (·.desc)
def aggDesc : TypeDesc → Bool
  | .struct _ | .array _ _ => true
  | _ => false

/-- A part of an aggregate. -/
def partS (C : Ctx) (t : TypeId) (xs : List SC) (off : Nat) : Option SW :=
  match C.tys.get t with
  | none => none
  | some i =>
    if aggDesc i.desc then
      if Nat.ble (off + i.size) xs.length then some (.agg ((xs.drop off).take i.size)) else none
    else (xs[off]?).map SW.c

def intSC : SC → Bool
  | .lit (.int _ _) => true
  | .ivar _ _ => true
  | _ => false
def boolSC : SC → Bool
  | .lit (.bool _) => true
  | .bvar _ _ => true
  | _ => false
def strSC : SC → Bool
  | .lit (.string _) => true
  | .svar _ => true
  | _ => false

/-- The leaves that '==' compares. -/
def fieldsEq (C : Ctx) (g : TypeId → SW → SW → Option (List (SC × SC))) : List (Nat × Nat) → List SC → List SC → Option (List (SC × SC))
  | [], _, _ => some []
  | f :: fs, xs, ys =>
    match partS C f.1 xs f.2, partS C f.1 ys f.2 with
    | some p, some q =>
      match g f.1 p q, fieldsEq C g fs xs ys with
      | some l, some m => some (l ++ m)
      | _, _ => none
    | _, _ => none

def elemsEq (C : Ctx) (g : TypeId → SW → SW → Option (List (SC × SC))) (e : TypeId) (size : Nat) (xs ys : List SC) : Nat → Nat → Option (List (SC × SC))
  | 0, _ => some []
  | n + 1, k =>
    match partS C e xs (k * size), partS C e ys (k * size) with
    | some p, some q =>
      match g e p q, elemsEq C g e size xs ys n (k + 1) with
      | some l, some m => some (l ++ m)
      | _, _ => none
    | _, _ => none

def eqPairs (C : Ctx) : Nat → TypeId → SW → SW → Option (List (SC × SC))
  | 0, _, _, _ => none
  | d + 1, t, x, y =>
    match C.tys.get t with
    | none => none
    | some i =>
      match i.desc, x, y with
      | .int _, .c a, .c b => if intSC a && intSC b then some [(a, b)] else none
      | .bool, .c a, .c b => if boolSC a && boolSC b then some [(a, b)] else none
      | .string, .c a, .c b => if strSC a && strSC b then some [(a, b)] else none
      | .struct _, .agg xs, .agg ys => if i.eqsafe then fieldsEq C (eqPairs C d) i.fs xs ys else none
      | .array n e, .agg xs, .agg ys =>
        match C.tys.get e with
        | none => none
        | some j => elemsEq C (eqPairs C d) e j.size xs ys n 0
      | _, _, _ => none

def natI (n : Nat) : Int := Int.ofNat n

/-- One pair of leaves: none: they do not fit; some none: sure to be alike; some (some (.inl false)): sure to be unlike. -/
inductive Leaf where
  | bad | same | unlike
  | ask (p : PE)

def sameIA : IA → IA → Bool
  | .var x, .var y => Nat.beq x y
  | _, _ => false

def leafOf (st : St) (p : SC × SC) : Leaf :=
  match p.1.ia st, p.2.ia st with
  | some (k, a), some (k', b) =>
    if !kindEq k k' then .bad else
    match a, b with
    | .lit m, .lit n => if m == n then .same else .unlike
    | .var x, .var y => if Nat.beq x y then .same else .ask (.ii (.var x) (.var y))
    | a, b => .ask (.ii a b)
  | _, _ =>
    match p.1.ba st, p.2.ba st with
    | some a, some b =>
      match a, b with
      | .lit m, .lit n => if m == n then .same else .unlike
      | .var x g, .var y h => if Nat.beq x y && g == h then .same else .ask (.bb (.var x g) (.var y h))
      | a, b => .ask (.bb a b)
    | _, _ =>
      match p.1.sa, p.2.sa with
      | some a, some b =>
        match a, b with
        | .lit m, .lit n => if m.data.toList == n.data.toList then .same else .unlike
        | .var x, .var y => if Nat.beq x y then .same else .ask (.ss (.var x) (.var y))
        | a, b => .ask (.ss a b)
      | _, _ => .bad

/-- All pairs: none: something does not fit; some none: surely unlike; some (some l): alike if l's are. -/
def leaves (st : St) : List (SC × SC) → Option (Option (List PE))
  | [] => some (some [])
  | p :: ps =>
    match leafOf st p, leaves st ps with
    | .bad, _ => none
    | _, none => none
    | .unlike, _ => some none
    | _, some none => some none
    | .same, some (some l) => some (some l)
    | .ask q, some (some l) => some (some (q :: l))

/-- a struct or an array: '==' asks nothing else of it -/
def topSafe (C : Ctx) (t : TypeId) : SW → Bool
  | .c _ => true
  | .agg _ =>
    match C.tys.get t with
    | some i => i.eqsafe
    | none => false

def eqS (C : Ctx) (neg : Bool) (t : TypeId) (x y : SW) (st : St) : R (SV × St) :=
  if !topSafe C t x then stop 9 st else
  match eqPairs C 100 t x y with
  | none => stop 10 st
  | some ps =>
    match leaves st ps with
    | none => stop 11 st
    | some none => .ok (litB neg, st)
    | some (some []) => .ok (litB (!neg), st)
    | some (some l) => mkB (.all l) neg st

def isNilSC : SC → Bool
  | .lit (.pointer none) => true
  | .lit (.slice none _ _) => true
  | .lit .nilIface => true
  | .lit .nilFunc => true
  | _ => false

def eqOp : BinOp → Bool
  | .eql | .neq => true
  | _ => false
def isNeq : BinOp → Bool
  | .neq => true
  | _ => false

def strBin (op : BinOp) (a b : SA) (st : St) : R (SV × St) :=
  match op with
  | .eql | .neq =>
    match a, b with
    | .lit m, .lit n => .ok (litB (xor (m.data.toList == n.data.toList) (isNeq op)), st)
    | a, b => mkB (.all [.ss a b]) (isNeq op) st
  | .add =>
    match a, b with
    | .lit m, .lit n => if Nat.ble (m.size + n.size) 1000000 then .ok (.w (.c (.lit (.string (m ++ n)))), st) else stop 12 st
    | _, _ => stop 13 st
  | _ => stop 14 st

/-- A pointer or a slice against nil. -/
def nilEq (C : Ctx) (op : BinOp) (t : TypeId) (a b : SC) (st : St) : R (SV × St) :=
  match descOf C t, a, b with
  | some (.pointer _), .ptr _ _, .lit (.pointer none) => .ok (litB (isNeq op), st)
  | some (.pointer _), .lit (.pointer none), .ptr _ _ => .ok (litB (isNeq op), st)
  | some (.pointer _), .lit (.pointer none), .lit (.pointer none) => .ok (litB (!isNeq op), st)
  | some (.slice _), .slc _ _ _ _, .lit (.slice none _ _) => .ok (litB (isNeq op), st)
  | some (.slice _), .lit (.slice none _ _), .lit (.slice none _ _) => .ok (litB (!isNeq op), st)
  | _, _, _ => stop 15 st

def binS (C : Ctx) (op : BinOp) (t : TypeId) (a b : SV) (st : St) : R (SV × St) :=
  match a, b with
  | .w (.c x), .w (.c y) =>
    match x.ia st, y.ia st with
    | some (k, p), some (k', q) => intBin op k k' p q st
    | _, _ =>
      match x.sa, y.sa with
      | some p, some q => strBin op p q st
      | _, _ =>
        match x.ba st, y.ba st with
        | some _, some _ =>
          if eqOp op then eqS C (isNeq op) t (.c x) (.c y) st else stop 16 st
        | _, _ => if eqOp op then nilEq C op t x y st else stop 17 st
  | .w (.agg xs), .w (.agg ys) => if eqOp op then eqS C (isNeq op) t (.agg xs) (.agg ys) st else stop 18 st
  | _, _ => stop 19 st

def unS (op : UnOp) (a : SV) (st : St) : R (SV × St) :=
  match op, a with
  | .not, .w (.c (.lit (.bool b))) => .ok (litB (!b), st)
  | .not, .w (.c (.bvar x neg)) => .ok (.w (.c (.bvar x (!neg))), st)
  | .neg, .w (.c x) =>
    match x.ia st with
    | some (k, p) => intBin .sub k k (.lit 0) p st
    | none => stop 20 st
  | .xor, .w (.c x) =>
    match x.ia st with
    | some (k, p) => intBin .xor k k (.lit (if k.signed then -1 else k.max)) p st
    | none => stop 21 st
  | _, _ => stop 22 st

def convS (C : Ctx) (src dst : TypeId) (a : SV) (st : St) : R (SV × St) :=
  match descOf C src, descOf C dst, a with
  | some (.int _), some (.int k), .w (.c x) =>
    match x.ia st with
    | some (_, .lit n) => .ok (litI k (k.wrap n), st)
    | some (_, p) => mkI k (.conv k p) st
    | none => stop 23 st
  | some .string, some .string, .w (.c (.lit (.string s))) => .ok (.w (.c (.lit (.string s))), st)
  | _, _, _ => stop 24 st

/-! ### Memory -/
def SC.one : SC → Bool
  | .lit (.agg _) => false
  | .lit (.tuple _) => false
  | _ => true

def Blk.row (b : Blk) : Nat → Nat → Option (List SC)
  | _, 0 => some []
  | off, n + 1 =>
    match b.get off, b.row (off + 1) n with
    | some v, some l => some (v :: l)
    | _, _ => none

def Blk.puts : Blk → Nat → List SC → Option Blk
  | b, _, [] => some b
  | b, off, v :: vs => if Nat.blt off b.size && v.one then (b.put off v).puts (off + 1) vs else none

/-- A new block. -/
def newBlk (b : Blk) (st : St) : Nat × St := (st.nb, { st with nb := st.nb + 1, heap := st.heap.set st.nb b })

def setBlk (id : Nat) (b : Blk) (st : St) : St := { st with heap := st.heap.set id b, wr := id :: st.wr }

def zeroCells (C : Ctx) (t : TypeId) : Option (List SC) :=
  match C.tys.get t with
  | some i =>
    match i.zero with
    | some v => some (v.cells.toList.map SC.lit)
    | none => none
  | none => none

def boxS (t : TypeId) (xs : List SC) (st : St) : R (SV × St) :=
  let p := newBlk (Blk.ofList t xs) st
  .ok (.w (.c (.ptr p.1 0)), p.2)

def loadS (C : Ctx) (t : TypeId) (a : SV) (st : St) : R (SV × St) :=
  match a with
  | .w (.c (.ptr id off)) =>
    match st.heap.get id, C.tys.get t with
    | some b, some i =>
      if aggDesc i.desc then
        match b.row off i.size with
        | some l => .ok (.w (.agg l), st)
        | none => stop 30 st
      else
        match b.get off with
        | some v => .ok (.w (.c v), st)
        | none => stop 31 st
    | _, _ => stop 32 st
  | _ => stop 33 st

def storeS (C : Ctx) (t : TypeId) (a v : SV) (st : St) : R (SV × St) :=
  match a, v with
  | .w (.c (.ptr id off)), .w x =>
    match st.heap.get id, C.tys.get t with
    | some b, some i =>
      if Nat.beq x.cells.length i.size then
        match b.puts off x.cells with
        | some b' => .ok (sundef, setBlk id b' st)
        | none => stop 34 st
      else stop 35 st
    | _, _ => stop 36 st
  | _, _ => stop 37 st

def spliceL : List SC → Nat → List SC → List SC
  | base, off, l => base.take off ++ l ++ base.drop (off + l.length)

/-- of what is boxed or built in -/
def goodW : SW → Bool
  | .c y => y.one
  | .agg _ => true

def fillS (place : Nat → Option (Nat × Nat)) : List SC → List (Nat × SV) → Option (List SC)
  | cells, [] => some cells
  | cells, (i, .w v) :: rest =>
    match place i with
    | none => none
    | some (off, size) =>
      if goodW v && Nat.beq v.cells.length size && Nat.ble (off + v.cells.length) cells.length then fillS place (spliceL cells off v.cells) rest else none
  | _, _ => none

def fieldPlaces (C : Ctx) : List (Nat × Nat) → Option (List (Nat × Nat))
  | [] => some []
  | f :: fs =>
    match C.tys.get f.1, fieldPlaces C fs with
    | some i, some l => some ((f.2, i.size) :: l)
    | _, _ => none

def buildS (C : Ctx) (t : TypeId) (parts : List (Nat × SV)) (st : St) : R (SV × St) :=
  match C.tys.get t, zeroCells C t with
  | some i, some z =>
    match i.desc with
    | .struct _ =>
      match fieldPlaces C i.fs with
      | some pl =>
        match fillS (fun k => pl[k]?) z parts with
        | some l => .ok (.w (.agg l), st)
        | none => stop 40 st
      | none => stop 41 st
    | .array _ e =>
      match C.tys.get e with
      | some j =>
        match fillS (fun k => some (k * j.size, j.size)) z parts with
        | some l => .ok (.w (.agg l), st)
        | none => stop 42 st
      | none => stop 43 st
    | _ => stop 44 st
  | _, _ => stop 45 st

def repL (l : List SC) : Nat → List SC
  | 0 => []
  | n + 1 => l ++ repL l n

def buildSliceS (C : Ctx) (t : TypeId) (len : Nat) (parts : List (Nat × SV)) (st : St) : R (SV × St) :=
  match descOf C t with
  | some (.slice e) =>
    match C.tys.get e, zeroCells C e with
    | some j, some z =>
      if Nat.beq z.length j.size && Nat.blt 0 j.size && Nat.ble (len * j.size) 65536 then
        match fillS (fun k => some (k * j.size, j.size)) (repL z len) parts with
        | some l =>
          let p := newBlk (Blk.ofList e l) st
          .ok (.w (.c (.slc p.1 0 len len)), p.2)
        | none => stop 46 st
      else stop 47 st
    | _, _ => stop 48 st
  | _ => stop 49 st

def makeSliceS (C : Ctx) (t : TypeId) (len cap : SV) (st : St) : R (SV × St) :=
  match descOf C t with
  | some (.slice e) =>
    match C.tys.get e, zeroCells C e with
    | some j, some [z] =>
      match getN len st with
      | .er c l p => .er c l p
      | .ok (.ofNat n, st) =>
        match getN cap st with
        | .er c l p => .er c l p
        | .ok (.ofNat m, st) =>
          if Nat.ble n m && Nat.ble m 1000000000 && Nat.ble (m * j.bytes) 140737488355328 && Nat.beq j.size 1 then
            let p := newBlk ⟨e, m, z, .e, false, none⟩ st
            .ok (.w (.c (.slc p.1 0 n m)), p.2)
          else stop 50 st
        | .ok (_, st) => stop 51 st
      | .ok (_, st) => stop 52 st
    | _, _ => stop 53 st
  | _ => stop 54 st

/-! ### Places -/
def fieldAddrS (C : Ctx) (t : TypeId) (a : SV) (f : Nat) (st : St) : R (SV × St) :=
  match C.tys.get t, a with
  | some i, .w (.c (.ptr b off)) =>
    match i.desc with
    | .struct _ =>
      match i.fs[f]? with
      | some (ft, fo) =>
        match C.tys.get ft with
        | some j => if Nat.beq j.size 0 then stop 60 st else .ok (.w (.c (.ptr b (off + fo))), st)
        | none => stop 61 st
      | none => stop 62 st
    | _ => stop 63 st
  | _, _ => stop 64 st

def fieldS (C : Ctx) (t : TypeId) (a : SV) (f : Nat) (st : St) : R (SV × St) :=
  match C.tys.get t, a with
  | some i, .w (.agg xs) =>
    match i.desc with
    | .struct _ =>
      match i.fs[f]? with
      | some (ft, fo) =>
        match partS C ft xs fo with
        | some w => .ok (.w w, st)
        | none => stop 65 st
      | none => stop 66 st
    | _ => stop 67 st
  | _, _ => stop 68 st

def indexAddrS (C : Ctx) (t : TypeId) (a i : SV) (st : St) : R (SV × St) :=
  match getN i st with
  | .er c l p => .er c l p
  | .ok (.ofNat n, st) =>
    match descOf C t, a with
    | some (.array len e), .w (.c (.ptr b off)) =>
      match C.tys.get e with
      | some j => if Nat.blt n len then .ok (.w (.c (.ptr b (off + n * j.size))), st) else stop 70 st
      | none => stop 71 st
    | some (.slice e), .w (.c (.slc b off len _)) =>
      match C.tys.get e with
      | some j => if Nat.blt n len then .ok (.w (.c (.ptr b (off + n * j.size))), st) else stop 72 st
      | none => stop 73 st
    | some (.slice e), .w (.c (.slu b len)) =>
      match C.tys.get e with
      | some j => if Nat.blt n len then .ok (.w (.c (.ptr b (0 + n * j.size))), st) else stop 72 st
      | none => stop 73 st
    | _, _ => stop 74 st
  | .ok (_, st) => stop 75 st

def indexS (C : Ctx) (t : TypeId) (a i : SV) (st : St) : R (SV × St) :=
  match getN i st with
  | .er c l p => .er c l p
  | .ok (.ofNat n, st) =>
    match descOf C t, a with
    | some (.array len e), .w (.agg xs) =>
      match C.tys.get e with
      | some j =>
        if Nat.blt n len then
          match partS C e xs (n * j.size) with
          | some w => .ok (.w w, st)
          | none => stop 76 st
        else stop 77 st
      | none => stop 78 st
    | some .string, .w (.c (.lit (.string s))) =>
      match s[n]? with
      | some b => .ok (litI .u8 (b.toNat : Int), st)
      | none => stop 79 st
    | _, _ => stop 80 st
  | .ok (_, st) => stop 81 st

def extractS (a : SV) (ix : Nat) (st : St) : R (SV × St) :=
  match a with
  | .tup xs =>
    match xs[ix]? with
    | some w => .ok (.w w, st)
    | none => stop 82 st
  | _ => stop 83 st

def boundS (x : Option SV) (dflt : Nat) (st : St) : R (Nat × St) :=
  match x with
  | none => .ok (dflt, st)
  | some v =>
    match getN v st with
    | .er c l p => .er c l p
    | .ok (.ofNat n, st) => .ok (n, st)
    | .ok (_, st) => stop 84 st

/-- low, high, max, each in its bounds -/
def boundsS (len cap : Nat) (lo hi mx : Option SV) (st : St) : R ((Nat × Nat × Nat) × St) :=
  match mx, hi with
  | some _, none => stop 85 st
  | _, _ =>
    match boundS mx cap st with
    | .er c l p => .er c l p
    | .ok (m, st) =>
      match boundS hi len st with
      | .er c l p => .er c l p
      | .ok (h, st) =>
        match boundS lo 0 st with
        | .er c l p => .er c l p
        | .ok (l, st) => if Nat.ble m cap && Nat.ble h m && Nat.ble l h then .ok ((l, h, m), st) else stop 86 st

def sliceS (C : Ctx) (t : TypeId) (a : SV) (lo hi mx : Option SV) (st : St) : R (SV × St) :=
  match descOf C t, a with
  | some (.array n e), .w (.c (.ptr b off)) =>
    match C.tys.get e, boundsS n n lo hi mx st with
    | some j, .ok ((l, h, m), st) => .ok (.w (.c (.slc b (if Nat.beq m l then off else off + l * j.size) (h - l) (m - l))), st)
    | _, .er c l p => .er c l p
    | _, _ => stop 87 st
  | some (.slice e), .w (.c (.slc b off len cap)) =>
    match C.tys.get e, boundsS len cap lo hi mx st with
    | some j, .ok ((l, h, m), st) => .ok (.w (.c (.slc b (if Nat.beq m l then off else off + l * j.size) (h - l) (m - l))), st)
    | _, .er c l p => .er c l p
    | _, _ => stop 88 st
  | some .string, .w (.c (.lit (.string s))) =>
    match mx, boundsS s.size s.size lo hi none st with
    | none, .ok ((l, h, _), st) => .ok (.w (.c (.lit (.string (s.extract l h)))), st)
    | _, .er c l p => .er c l p
    | _, _ => stop 89 st
  | _, _ => stop 90 st

/-! ### Builtins -/
def lenS (C : Ctx) (t : TypeId) (a : SV) (st : St) : R (SV × St) :=
  match descOf C t, a with
  | some .string, .w (.c (.lit (.string s))) => .ok (litI .i64 (s.size : Int), st)
  | some .string, .w (.c (.svar x)) => mkI .i64 (.len (.var x)) st
  | some (.array n _), _ => .ok (litI .i64 (n : Int), st)
  | some (.slice _), .w (.c (.slc _ _ n _)) => .ok (litI .i64 (n : Int), st)
  | some (.slice _), .w (.c (.slu _ n)) => .ok (litI .i64 (n : Int), st)
  | some (.slice _), .w (.c (.lit (.slice _ n _))) => .ok (litI .i64 (n : Int), st)
  | _, _ => stop 91 st

def capS (C : Ctx) (t : TypeId) (a : SV) (st : St) : R (SV × St) :=
  match descOf C t, a with
  | some (.slice _), .w (.c (.slc _ _ _ n)) => .ok (litI .i64 (n : Int), st)
  | some (.slice _), .w (.c (.lit (.slice _ _ n))) => .ok (litI .i64 (n : Int), st)
  | _, _ => stop 92 st

/-- The first n elements of what is copied from. -/
def srcLen : SV → Option Nat
  | .w (.c (.slc _ _ n _)) => some n
  | .w (.c (.slu _ n)) => some n
  | .w (.c (.lit (.slice none n _))) => some n
  | .w (.c (.lit (.string s))) => some s.size
  | _ => none

def srcCells (size n : Nat) (a : SV) (st : St) : Option (List SC) :=
  match a with
  | .w (.c (.slc b off _ _)) =>
    match st.heap.get b with
    | some k => k.row off (n * size)
    | none => none
  | .w (.c (.slu b _)) =>
    match st.heap.get b with
    | some k => k.row 0 (n * size)
    | none => none
  | .w (.c (.lit (.slice none _ _))) => some []
  | .w (.c (.lit (.string s))) => some (((s.extract 0 n).data.toList).map fun b => SC.lit (.int .u8 (b.toNat : Int)))
  | _ => none

def copyS (C : Ctx) (t : TypeId) (dst src : SV) (st : St) : R (SV × St) :=
  match descOf C t, srcLen src with
  | some (.slice e), some sl =>
    match C.tys.get e, dst with
    | some j, .w (.c (.slc b off len _)) =>
      let n := Nat.min sl len
      match srcCells j.size n src st, st.heap.get b with
      | some cells, some k =>
        match k.puts off cells with
        | some k' => .ok (litI .i64 (n : Int), setBlk b k' st)
        | none => stop 93 st
      | _, _ => stop 94 st
    | _, _ => stop 95 st
  | _, _ => stop 96 st

def isIntD : TypeDesc → Bool
  | .int _ => true
  | _ => false

def appendS (C : Ctx) (t : TypeId) (t2 : Option TypeId) (s x : SV) (st : St) : R (SV × St) :=
  match descOf C t, srcLen x, (match t2 with | some u => descOf C u | none => some .invalid) with
  | some (.slice e), some n, some d2 =>
    if isIntD d2 then stop 97 st else
    match C.tys.get e, zeroCells C e with
    | some j, some _ =>
      match srcCells j.size n x st with
      | none => stop 98 st
      | some new =>
        match s with
        | .w (.c (.slc b off len cap)) =>
          if Nat.ble (len + n) cap then
            match st.heap.get b with
            | some k =>
              match k.puts (off + len * j.size) new with
              | some k' => .ok (.w (.c (.slc b off (len + n) cap)), setBlk b k' st)
              | none => stop 99 st
            | none => stop 100 st
          else
            match srcCells j.size len s st with
            | some old =>
              if Nat.ble (len + n) 1000000000 && Nat.ble (Builtin.nextslicecap (len + n) cap * j.bytes) 281474976710656 && Nat.blt 0 j.bytes then
                let p := newBlk { Blk.ofList e (old ++ new) with more := true } st
                .ok (.w (.c (.slu p.1 (len + n))), p.2)
              else stop 101 st
            | none => stop 102 st
        | .w (.c (.lit (.slice none 0 0))) =>
          if Nat.beq n 0 then .ok (s, st)
          else if Nat.ble n 1000000000 && Nat.ble (Builtin.nextslicecap n 0 * j.bytes) 281474976710656 && Nat.blt 0 j.bytes then
            let p := newBlk { Blk.ofList e new with more := true } st
            .ok (.w (.c (.slu p.1 n)), p.2)
          else stop 103 st
        | _ => stop 104 st
    | _, _ => stop 105 st
  | _, _, _ => stop 106 st

def mmS (mx : Bool) (x y : SV) (st : St) : R (SV × St) :=
  match x, y with
  | .w (.c a), .w (.c b) =>
    match a.ia st, b.ia st with
    | some (k, p), some (_, q) =>
      match p, q with
      | .lit m, .lit n => .ok (litI k (if mx then (if m < n then n else m) else (if n < m then n else m)), st)
      | p, q => mkI k (if mx then .mx p q else .mn p q) st
    | _, _ => stop 107 st
  | _, _ => stop 108 st

def builtinS (C : Ctx) (b : Builtin) (tys : List TypeId) (args : List SV) (st : St) : R (SV × St) :=
  match b, tys, args with
  | .len, t :: _, [a] => lenS C t a st
  | .cap, t :: _, [a] => capS C t a st
  | .copy, t :: _, [d, s] => copyS C t d s st
  | .append, [t], [s, x] => appendS C t none s x st
  | .append, [t, u], [s, x] => appendS C t (some u) s x st
  | .max, _, [x, y] => mmS true x y st
  | .min, _, [x, y] => mmS false x y st
  | _, _, _ => stop 110 st

/-- numbers, truths, strings -/
def SC.data : SC → Bool
  | .lit _ | .ivar _ _ | .bvar _ _ | .svar _ => true
  | _ => false
def SW.data (x : SW) : Bool := x.cells.all SC.data
/-! ### Maps whose keys are structs of plain fields -/
def basicD : TypeDesc → Bool
  | .int _ | .bool | .string => true
  | _ => false
def basicT (C : Ctx) (t : TypeId) : Bool :=
  match C.tys.get t with
  | some i => basicD i.desc
  | none => false
def keyOk (C : Ctx) (t : TypeId) (xs : List SC) : Bool :=
  match C.tys.get t with
  | some i =>
    match i.desc with
    | .struct _ => i.fs.all fun f => basicT C f.1 && (partS C f.1 xs f.2).isSome
    | _ => false
  | none => false

def findMap (C : Ctx) (kt : TypeId) (key : SW) : List (SW × SW) → St → R (Option SW × St)
  | [], st => .ok (none, st)
  | e :: es, st =>
    match eqPairs C 100 kt key e.1 with
    | none => stop 190 st
    | some ps =>
      match leaves st ps with
      | none => stop 191 st
      | some none => findMap C kt key es st
      | some (some []) => .ok (some e.2, st)
      | some (some l) =>
        match mkB (.all l) false st with
        | .er c l p => .er c l p
        | .ok (v, st) =>
          match getB v st with
          | .er c l p => .er c l p
          | .ok (true, st) => .ok (some e.2, st)
          | .ok (false, st) => findMap C kt key es st

def allData (es : List (SW × SW)) : Bool := es.all fun e => e.1.data && e.2.data

def makeMapS (st : St) : R (SV × St) :=
  let p := newBlk ⟨0, 0, .lit (.tuple #[]), .e, false, some []⟩ st
  .ok (.w (.c (.mp p.1)), p.2)

def lookupS (C : Ctx) (t : TypeId) (x key : SV) (ok : Bool) (st : St) : R (SV × St) :=
  match descOf C t, x, key with
  | some (.map kt et), .w (.c (.mp b)), .w (.agg ks) =>
    match st.heap.get b, C.tys.get et with
    | some k, some j =>
      match k.mp, j.zero with
      | some es, some z =>
        if keyOk C kt ks && allData es then
          match findMap C kt (.agg ks) es st with
          | .ok (some v, st) => .ok (if ok then .tup [v, .c (.lit (.bool true))] else .w v, st)
          | .ok (none, st) => .ok (if ok then .tup [.c (.lit z), .c (.lit (.bool false))] else .w (.c (.lit z)), st)
          | .er c l p => .er c l p
        else stop 192 st
      | _, _ => stop 193 st
    | _, _ => stop 194 st
  | _, _, _ => stop 195 st

def mapUpdS (C : Ctx) (t : TypeId) (x key v : SV) (st : St) : R (SV × St) :=
  match descOf C t, x, key, v with
  | some (.map kt _), .w (.c (.mp b)), .w (.agg ks), .w vx =>
    match st.heap.get b with
    | some k =>
      match k.mp with
      | some es =>
        if keyOk C kt ks && allData es && (SW.agg ks).data && vx.data && Nat.beq k.size 0 then
          match findMap C kt (.agg ks) es st with
          | .ok (none, st) => .ok (sundef, setBlk b { k with mp := some (es ++ [(.agg ks, vx)]) } st)
          | .ok (some _, st) => stop 196 st
          | .er c l p => .er c l p
        else stop 197 st
      | none => stop 198 st
    | none => stop 199 st
  | _, _, _, _ => stop 200 st

end Go.Sx
