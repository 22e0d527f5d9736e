/-
  A symbolic executor for the model's code: regions, code, calls.
-/
import Derived.Test.YtdgilmobljbmcaaSx2
namespace Go.Sx

abbrev CallF := Nat → List SW → St → R (SV × St)

def argsW : List SV → Option (List SW)
  | [] => some []
  | .w x :: xs =>
    match argsW xs with
    | some l => some (x :: l)
    | none => none
  | _ => none

def callS (call : CallF) (f : SV) (args : List SV) (st : St) : R (SV × St) :=
  match argsW args with
  | none => stop 120 st
  | some ws =>
    match f with
    | .w (.c (.lit (.func (.func g) fs cs))) =>
      match fs.toList, cs.toList with
      | [], [] => call g ws st
      | _, _ => stop 121 st
    | .w (.c (.clo g caps)) => call g (ws ++ caps.map fun p => SW.c (.ptr p.1 p.2)) st
    | _ => stop 122 st

def capsOf : List SV → Option (List (Nat × Nat))
  | [] => some []
  | .w (.c (.ptr b o)) :: xs =>
    match capsOf xs with
    | some l => some ((b, o) :: l)
    | none => none
  | _ => none

def op1 (C : Ctx) (call : CallF) (fr : Fr) (o : Oper) (st : St) : R (SV × St) :=
  match o.op with
  | .move x | .assign x => .ok (fr.eval x, st)
  | .pick c a b =>
    match getB (fr.eval c) st with
    | .ok (true, st) => .ok (fr.eval a, st)
    | .ok (false, st) => .ok (fr.eval b, st)
    | .er c l p => .er c l p
  | .alloc t =>
    match zeroCells C t with
    | some z => boxS t z st
    | none => stop 130 st
  | .box t x =>
    match fr.eval x with
    | .w w => if goodW w then boxS t w.cells st else stop 137 st
    | _ => stop 131 st
  | .build t ps => buildS C t (ps.toList.map fun p => (p.1, fr.eval p.2)) st
  | .buildSlice t n ps => buildSliceS C t n (ps.toList.map fun p => (p.1, fr.eval p.2)) st
  | .load t a => loadS C t (fr.eval a) st
  | .store t a v =>
    match o.dst with
    | none => storeS C t (fr.eval a) (fr.eval v) st
    | some _ => stop 132 st
  | .nilCheck x =>
    match fr.eval x with
    | .w (.c (.ptr b f)) => .ok (.w (.c (.ptr b f)), st)
    | _ => stop 133 st
  | .binOp op t x y _ => binS C op t (fr.eval x) (fr.eval y) st
  | .unOp op _ x => unS op (fr.eval x) st
  | .convert s d x => convS C s d (fr.eval x) st
  | .makeFunc (.func f) fs cs =>
    match fs.toList, capsOf (cs.toList.map fr.eval) with
    | [], some l => .ok (.w (.c (.clo f l)), st)
    | _, _ => stop 134 st
  | .makeSlice t l c => makeSliceS C t (fr.eval l) (fr.eval c) st
  | .slice t x lo hi mx => sliceS C t (fr.eval x) (lo.map fr.eval) (hi.map fr.eval) (mx.map fr.eval) st
  | .fieldAddr t x f => fieldAddrS C t (fr.eval x) f st
  | .field t x f => fieldS C t (fr.eval x) f st
  | .indexAddr t x i => indexAddrS C t (fr.eval x) (fr.eval i) st
  | .index t x i => indexS C t (fr.eval x) (fr.eval i) st
  | .extract x i => extractS (fr.eval x) i st
  | .makeMap _ none => makeMapS st
  | .lookup t x i ok => lookupS C t (fr.eval x) (fr.eval i) ok st
  | .mapUpdate t m k v =>
    match o.dst with
    | none => mapUpdS C t (fr.eval m) (fr.eval k) (fr.eval v) st
    | some _ => stop 201 st
  | .call c =>
    match c.callee with
    | .builtin b => builtinS C b c.argTypes.toList (c.args.toList.map fr.eval) st
    | .value f => callS call (fr.eval f) (c.args.toList.map fr.eval) st
    | .invoke _ _ => stop 135 st
  | _ => stop 136 st

/-- Is the operation carried out? -/
def wantedS (ops : List Oper) (fr : Fr) (o : Oper) (st : St) : R (Bool × St) :=
  match o.guard with
  | none => .ok (true, st)
  | some (j, want) =>
    match ops[j]? with
    | some p =>
      match p.dst with
      | some d =>
        match fr.get d with
        | .tup [] => .ok (false, st)
        | v =>
          match getB v st with
          | .ok (b, st) => .ok (b == want, st)
          | .er c l p => .er c l p
      | none => stop 140 st
    | none => stop 141 st

def seqRun (C : Ctx) (call : CallF) (ops : List Oper) : List Oper → Fr → St → R (Fr × St)
  | [], fr, st => .ok (fr, st)
  | o :: rest, fr, st =>
    match wantedS ops fr o st with
    | .er c l p => .er c l p
    | .ok (false, st) => seqRun C call ops rest (fr.put o.dst sundef) st
    | .ok (true, st) =>
      match op1 C call fr o st with
      | .er c l p => .er c l (if p = "" then o.pos else p)
      | .ok (v, st) => seqRun C call ops rest (fr.put o.dst v) st

/-! ### A region that draws its order -/
def bindsE (e : Edge) : Bool :=
  match e.ground with
  | .textOnly _ => false
  | .gcOnly _ => false
  | _ => true

def maskOf (ms : List Nat) : List Edge → Nat → Nat
  | [], m => m
  | e :: es, m => if bindsE e then maskOf ms es (m ||| 2 ^ e.on ||| ms.getD e.on 0) else maskOf ms es m

/-- each operation's predecessors, as bits -/
def masksOf : List Oper → List Nat → List Nat
  | [], ms => ms
  | o :: os, ms => masksOf os (ms ++ [maskOf ms o.after.toList 0])

def backEdges : List Oper → Nat → Bool
  | [], _ => true
  | o :: os, i => o.after.toList.all (fun e => !bindsE e || Nat.blt e.on i) && backEdges os (i + 1)

/-- all pairs without an order between them are apart -/
def apartRow (ops : Array Oper) (oi : Oper) (mask : Nat) : List Oper → Nat → Bool
  | [], _ => true
  | oj :: os, j => (Nat.testBit mask j || oj.apart ops oi) && apartRow ops oi mask os (j + 1)

def apartAll (ops : Array Oper) (l : List Oper) (ms : List Nat) : List Oper → Nat → Bool
  | [], _ => true
  | oi :: os, i => apartRow ops oi (ms.getD i 0) (l.take i) 0 && apartAll ops l ms os (i + 1)

def notSelect (o : Oper) : Bool :=
  match o.op with
  | .select _ _ => false
  | _ => true

/-- what does not hang on the order (of the text alone) -/
def drawStat (ops : Array Oper) (l : List Oper) (ms : List Nat) : Bool :=
  backEdges l 0 && l.all notSelect && apartAll ops l ms l 0

/-- operations that look at no memory and make none -/
def memless (o : Op) : Bool :=
  match o with
  | .move _ | .assign _ | .pick _ _ _ | .build _ _ | .nilCheck _ | .binOp _ _ _ _ _ | .unOp _ _ _ | .convert _ _ _ | .makeFunc _ _ _
  | .slice _ _ _ _ _ | .fieldAddr _ _ _ | .field _ _ _ | .indexAddr _ _ _ | .index _ _ _ | .extract _ _ => true
  | _ => false

/-- what has been done of a region (all but idx, blind, hidden, touched is for the proof alone) -/
structure Rec where
  idx : Nat
  /-- it saw no memory -/
  blind : Bool
  hidden : List Nat
  /-- blocks that it made or wrote -/
  touched : List Nat
  o : Oper
  on : Bool
  v : SV
  fr : Fr
  st : St
  vis : Tr Blk
  st1 : St

def delAll (h : Tr Blk) : List Nat → Tr Blk
  | [] => h
  | i :: is => delAll (h.del i) is

def newIds : Nat → Nat → List Nat
  | _, 0 => []
  | a, n + 1 => a :: newIds (a + 1) n

def oldOnes (nb : Nat) : List Nat → List Nat
  | [] => []
  | i :: is => if Nat.blt i nb then i :: oldOnes nb is else oldOnes nb is

def elemN (i : Nat) : List Nat → Bool
  | [] => false
  | j :: l => Nat.beq i j || elemN i l

/-- what unordered ones ahead have touched -/
def touchedBy (mask : Nat) : List Rec → List Nat
  | [] => []
  | r :: rs => if Nat.testBit mask r.idx then touchedBy mask rs else r.touched ++ touchedBy mask rs

def writesOk (mask : Nat) (wr : List Nat) : List Rec → Bool
  | [] => true
  | r :: rs => (Nat.testBit mask r.idx || r.blind || wr.all (fun id => elemN id r.hidden)) && writesOk mask wr rs

/-- the touched blocks as they are now, laid into the whole heap -/
def laid (from_ to : Tr Blk) : List Nat → Tr Blk
  | [] => to
  | i :: is => laid from_ (Tr.upd (from_.get i) (i + 1) to i) is

structure DrawOut where
  fr : Fr
  st : St
  recs : List Rec
  wrs : List (List Nat)
  good : Bool

def drawRun (C : Ctx) (call : CallF) (ops : List Oper) (ms : List Nat) (hints : List (List Nat)) :
    List Oper → Nat → Fr → St → List Rec → List (List Nat) → Bool → R DrawOut
  | [], _, fr, st, recs, wrs, good => .ok ⟨fr, st, recs, wrs, good⟩
  | o :: rest, i, fr, st, recs, wrs, good =>
    match wantedS ops fr o st with
    | .er c l p => .er c l p
    | .ok (false, st) => drawRun C call ops ms hints rest (i + 1) (fr.put o.dst sundef) st (⟨i, true, [], [], o, false, sundef, fr, st, .e, st⟩ :: recs) ([] :: wrs) good
    | .ok (true, st) =>
      if memless o.op then
        match op1 C call fr o { st with heap := .e, wr := [] } with
        | .er c l p => .er c l (if p = "" then o.pos else p)
        | .ok (v, st1) =>
          if Nat.beq st1.nb st.nb then
            drawRun C call ops ms hints rest (i + 1) (fr.put o.dst v) { st1 with heap := st.heap, wr := st.wr } (⟨i, true, [], [], o, true, v, fr, st, .e, st1⟩ :: recs) ([] :: wrs) good
          else stop 150 st
      else
        let mask := ms.getD i 0
        let hidden := touchedBy mask recs ++ hints.getD i []
        match op1 C call fr o { st with heap := delAll st.heap hidden, wr := [] } with
        | .er c l p => .er c l (if p = "" then o.pos else p)
        | .ok (v, st1) =>
          let touched := newIds st.nb (st1.nb - st.nb) ++ oldOnes st.nb st1.wr
          drawRun C call ops ms hints rest (i + 1) (fr.put o.dst v) { st1 with heap := laid st1.heap st.heap touched, wr := st1.wr ++ st.wr }
            (⟨i, false, hidden, touched, o, true, v, fr, st, delAll st.heap hidden, st1⟩ :: recs) (st1.wr :: wrs) (good && writesOk mask st1.wr recs)

/-- hints: what later unordered ones write (wrs: from the first on) -/
def hintFor (ms : List Nat) (i : Nat) : List (List Nat) → Nat → List Nat
  | [], _ => []
  | w :: ws, j => if Nat.blt i j && !Nat.testBit (ms.getD j 0) i then w ++ hintFor ms i ws (j + 1) else hintFor ms i ws (j + 1)

def hintsFrom (ms : List Nat) (wrs : List (List Nat)) : Nat → Nat → List (List Nat)
  | _, 0 => []
  | i, n + 1 => hintFor ms i wrs 0 :: hintsFrom ms wrs (i + 1) n

def drawReg (C : Ctx) (call : CallF) (ops : Array Oper) (fr : Fr) (st : St) : R (Fr × St) :=
  let l := ops.toList
  let ms := masksOf l []
  if drawStat ops l ms then
    match drawRun C call l ms [] l 0 fr st [] [] true with
    | .er c l p => .er c l p
    | .ok d =>
      if d.good then .ok (d.fr, d.st)
      else
        match drawRun C call l ms (hintsFrom ms d.wrs.reverse 0 l.length) l 0 fr st [] [] true with
        | .er c l p => .er c l p
        | .ok d => if d.good then .ok (d.fr, d.st) else stop 151 st
  else stop 152 st

/-! ### Code -/
inductive Ex where
  | normal | ret
  | exit (id : Nat)

def iterS (f : Fr → St → R (Ex × Fr × St)) : Nat → Fr → St → R (Ex × Fr × St)
  | 0, _, st => stop 160 st
  | n + 1, fr, st =>
    match f fr st with
    | .er c l p => .er c l p
    | .ok (.normal, fr, st) => iterS f n fr st
    | .ok (e, fr, st) => .ok (e, fr, st)

def code (C : Ctx) (call : CallF) (lf : Nat) : Code → Fr → St → R (Ex × Fr × St)
  | .skip, fr, st => .ok (.normal, fr, st)
  | .region _ ops true, fr, st =>
    match drawReg C call ops fr st with
    | .er c l p => .er c l p
    | .ok (fr, st) => .ok (.normal, fr, st)
  | .region _ ops false, fr, st =>
    match seqRun C call ops.toList ops.toList fr st with
    | .er c l p => .er c l p
    | .ok (fr, st) => .ok (.normal, fr, st)
  | .seq a b, fr, st =>
    match code C call lf a fr st with
    | .er c l p => .er c l p
    | .ok (.normal, fr, st) => code C call lf b fr st
    | .ok (e, fr, st) => .ok (e, fr, st)
  | .cond c a b, fr, st =>
    match getB (fr.eval c) st with
    | .er c l p => .er c l p
    | .ok (true, st) => code C call lf a fr st
    | .ok (false, st) => code C call lf b fr st
  | .block id a, fr, st =>
    match code C call lf a fr st with
    | .er c l p => .er c l p
    | .ok (.exit i, fr, st) => if Nat.beq i id then .ok (.normal, fr, st) else .ok (.exit i, fr, st)
    | .ok (e, fr, st) => .ok (e, fr, st)
  | .loop a, fr, st => iterS (code C call lf a) lf fr st
  | .exit id, fr, st => .ok (.exit id, fr, st)
  | .ret, fr, st => .ok (.ret, fr, st)
  | .label _, fr, st => .ok (.normal, fr, st)
  | _, _, st => stop 161 st

/-! ### Functions -/
def resOf (C : Ctx) (fr : Fr) (st : St) : List ResultVar → Option (List SW)
  | [] => some []
  | .tmp t :: rs =>
    match fr.get t, resOf C fr st rs with
    | .w x, some l => some (x :: l)
    | _, _ => none
  | .cell a t :: rs =>
    match loadS C t (fr.get a) st, resOf C fr st rs with
    | .ok (.w x, _), some l => some (x :: l)
    | _, _ => none

def resVal : List SW → SV
  | [x] => .w x
  | xs => .tup xs

def sumCells : Nat → List RK → List SC
  | _, [] => []
  | x, .ri k :: ks => .ivar k x :: sumCells (x + 1) ks
  | x, .rb :: ks => .bvar x false :: sumCells (x + 1) ks
  | x, .rs :: ks => .svar x :: sumCells (x + 1) ks
  | x, .rl v :: ks => .lit v :: sumCells (x + 1) ks

def shaped : List (Bool × Nat) → List SC → Option (List SW)
  | [], [] => some []
  | [], _ => none
  | (true, n) :: sh, xs =>
    match shaped sh (xs.drop n) with
    | some l => if Nat.ble n xs.length then some (.agg (xs.take n) :: l) else none
    | none => none
  | (false, _) :: sh, x :: xs =>
    match shaped sh xs with
    | some l => some (.c x :: l)
    | none => none
  | _, _ => none

def sumVal (s : Sum) (l : List SW) : Option SV :=
  if s.tup then some (.tup l)
  else
    match l with
    | [x] => some (.w x)
    | _ => none

def kindSC : RK → SC → Bool
  | .ri k, .lit (.int k' n) => kindEq k k' && decide (k.min ≤ n) && decide (n ≤ k.max)
  | .ri k, .ivar k' _ => kindEq k k'
  | .rb, .lit (.bool _) => true
  | .rb, .bvar _ _ => true
  | .rs, .lit (.string _) => true
  | .rs, .svar _ => true
  | _, _ => false

def kindsSC : List RK → List SC → Bool
  | [], [] => true
  | k :: ks, c :: cs => kindSC k c && kindsSC ks cs
  | _, _ => false

def argsFit : List (Bool × List RK) → List SW → Bool
  | [], [] => true
  | (false, [k]) :: l, .c x :: ws => kindSC k x && argsFit l ws
  | (true, ks) :: l, .agg xs :: ws => kindsSC ks xs && argsFit l ws
  | _, _ => false

def sumRun0 (s : Sum) (f : Nat) (args : List SW) (st : St) : R (SV × St) :=
  let cells := (args.flatMap SW.cells)
  if argsFit s.args args then
    match shaped s.shape (sumCells st.nx s.ks) with
    | some l =>
      match sumVal s l with
      | some v => .ok (v, { st with nx := st.nx + s.ks.length, log := .call f cells st.nx s.ks :: st.log })
      | none => stop 170 st
    | none => stop 171 st
  else stop 172 st

/-- a number made known -/
def concS (v : SV) (st : St) : R (SV × St) :=
  match v with
  | .w (.c (.ivar k x)) =>
    match getN (.w (.c (.ivar k x))) st with
    | .ok (n, st) => .ok (litI k n, st)
    | .er c l p => .er c l p
  | _ => stop 173 st

def sumRun (s : Sum) (f : Nat) (args : List SW) (st : St) : R (SV × St) :=
  match sumRun0 s f args st with
  | .ok (v, st1) => if s.conc then concS v st1 else .ok (v, st1)
  | .er c l p => .er c l p

def argsV : List SW → List SV
  | [] => []
  | x :: xs => .w x :: argsV xs

def fnRun (C : Ctx) (lf : Nat) : Nat → CallF
  | 0, _, _, st => stop 180 st
  | d + 1, f, args, st =>
    match C.sums.get f with
    | some s => sumRun s f args st
    | none =>
      match C.fns.get f with
      | none => stop 181 st
      | some fn =>
        match fn.body with
        | none => stop 182 st
        | some c =>
          match code C (fnRun C lf d) lf c ⟨Nat.max fn.ntmps args.length, Tr.setAll .e 0 (argsV args)⟩ st with
          | .er c l p => .er c l p
          | .ok (.exit _, _, st) => stop 183 st
          | .ok (_, fr, st) =>
            match resOf C fr st fn.results.toList with
            | some l => .ok (resVal l, st)
            | none => stop 184 st

def st0 (ds : List D) (nx : Nat) : St := ⟨ds, nx, [], .e, .e, 0, .e, []⟩

end Go.Sx
