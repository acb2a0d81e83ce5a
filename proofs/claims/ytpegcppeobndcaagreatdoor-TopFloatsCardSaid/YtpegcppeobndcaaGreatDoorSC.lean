/- A machine of small worlds, and that it is the model's: the small texts of this part, one behind another. -/
import Derived.RegionCalls
import Derived.KernelRfl
import Derived.Laws.Sem
import Derived.Deep.AppendSrc
import Derived.Deep.Upon
set_option linter.unusedVariables false
set_option maxHeartbeats 400000
set_option maxRecDepth 512
namespace Go.Proofs.YtpegcppeobndcaaGreatDoor.Abs
inductive Kd where
 | exact | loose (esz : Nat) | void
inductive ABlk where
 | cells (c : List Value) (ro : Bool) (kd : Kd)
 | map (es : List (Value × Value))
 | iter (s : ByteArray) (pos : Nat)
inductive T (α : Type) where
 | leaf
 | node (v : Option α) (l r : T α)
def T.get {α : Type} : T α → Nat → Option α
 | .leaf, _ => none
 | .node v l r, n => match n with
  | 0 => v
  | m + 1 => match Nat.beq (m % 2) 0 with
   | true => l.get (m / 2)
   | false => r.get (m / 2)
def T.set {α : Type} : Nat → T α → Nat → Option α → T α
 | 0, t, _, _ => t
 | f + 1, .leaf, n, v => match n with
  | 0 => .node v .leaf .leaf
  | m + 1 => match Nat.beq (m % 2) 0 with
   | true => .node none (T.set f .leaf (m / 2) v) .leaf
   | false => .node none .leaf (T.set f .leaf (m / 2) v)
 | f + 1, .node u l r, n, v => match n with
  | 0 => .node v l r
  | m + 1 => match Nat.beq (m % 2) 0 with
   | true => .node u (T.set f l (m / 2) v) r
   | false => .node u l (T.set f r (m / 2) v)
structure AW where
 mem : T ABlk
 next : Nat
def AW.get (A : AW) (i : Nat) : Option ABlk := A.mem.get i
def AW.put (A : AW) (i : Nat) (B : Option ABlk) : AW := { A with mem := A.mem.set (i + 1) i B }
def AW.add (A : AW) (B : ABlk) : AW := { mem := A.mem.set (A.next + 1) A.next (some B), next := A.next + 1 }
def AW.empty : AW := { mem := .leaf, next := 0 }
def isU32 : Value → Bool
 | .int .u32 _ => true
 | _ => false
def isAggT : Value → Bool
 | .agg _ | .tuple _ => true
 | _ => false
def AW.cell? (A : AW) (a : Addr) : Option Value :=
 match a.spot, A.get a.block with
 | none, some (.cells c _ _) => c[a.off]?
 | _, _ => none
def AW.setCell (A : AW) (a : Addr) (v : Value) : Option AW :=
 match a.spot, A.get a.block, isU32 v || isAggT v with
 | none, some (.cells c false kd), false => if a.off < c.length then some (A.put a.block (some (.cells (c.set a.off v) false kd))) else none
 | _, _, _ => none
def AW.row (A : AW) (c : List Value) (kd : Kd) : AW := A.add (.cells c (c.any isU32) kd)
def runA (P : Program) {α : Type} : Sem α → AW → Option (α × AW)
 | .pure a, A => some (a, A)
 | .load m a k, A => match A.cell? a with
  | some v => runA P (k v) A
  | none => none
 | .store m a v k, A => match A.setCell a v with
  | some A => runA P k A
  | none => none
 | .new o k, A => match o with
  | .cells c _ fr => if fr = (0, 0) then runA P (k A.next) (A.row c.toList .exact) else none
  | .map ⟨[]⟩ 0 => runA P (k A.next) (A.add (.map []))
  | .stringIter s p => runA P (k A.next) (A.add (.iter s p))
  | _ => none
 | .getObj r k, A => match A.get r with
  | some (.iter s p) => runA P (k (.stringIter s p)) A
  | _ => none
 | .setObj r o k, A => match A.get r, o with
  | some (.iter _ _), .stringIter s p => runA P k (A.put r (some (.iter s p)))
  | _, _ => none
 | .choose q k, A => if q.forced then runA P (k 0) A else none
 | .program k, A => runA P (k P) A
 | .mark _ k, A => runA P k A
 | _, _ => none
def pureRun (P : Program) {α : Type} : Sem α → Option α
 | .pure a => some a
 | .program k => pureRun P (k P)
 | .mark _ k => pureRun P k
 | _ => none
def plainV : Nat → Value → Bool
 | 0, _ => false
 | n + 1, v => match v with
  | .bool _ | .int _ _ | .string _ | .pointer none | .map none | .nilFunc | .nilIface => true
  | .slice none l c => Nat.beq l 0 && Nat.beq c 0
  | .func _ f c => f.isEmpty && c.isEmpty
  | .agg cs => cs.toList.all (plainV n)
  | .tuple cs => cs.toList.all (plainV n)
  | _ => false
structure TV where
 n : Nat
 tr : T Value
def TV.length (t : TV) : Nat := t.n
def TV.get? (t : TV) (k : Nat) : Option Value := match Nat.ble t.n k with
 | true => none
 | false => match t.tr.get k with
  | some v => some v
  | none => some undef
def TV.getD (t : TV) (k : Nat) (d : Value) : Value := match t.get? k with
 | some v => v
 | none => d
def TV.set (t : TV) (k : Nat) (v : Value) : TV := { t with tr := T.set (k + 1) t.tr k (some v) }
def ofL : Nat → List Value → T Value → T Value
 | _, [], t => t
 | i, v :: l, t => ofL (i + 1) l (T.set (i + 1) t i (some v))
def TV.start (n : Nat) (args : List Value) : TV := ⟨args.length + (n - args.length), ofL 0 args .leaf⟩
def evL (t : TV) : Operand → Value
 | .tmp k => t.getD k undef
 | .const v => v
 | .global g => .pointer (some ⟨g, 0, none⟩)
 | .func f => .func (.func f) #[] #[]
def opndOk : Operand → Bool
 | .const v => plainV 20 v
 | .global _ => false
 | _ => true
def putL (t : TV) (d : Option Tmp) (v : Value) : TV :=
 match d with
 | some d => t.set d v
 | none => t
def yieldedL (ops : Array Oper) (t : TV) (j : Nat) : Option Bool :=
 match ((ops[j]?).bind (·.dst)).bind (t.get? ·) with
 | some (.bool b) => some b
 | _ => none
def wantedL (ops : Array Oper) (t : TV) (o : Oper) : Bool :=
 match o.guard with
 | none => true
 | some (j, want) => match yieldedL ops t j, want with
  | some true, true | some false, false => true
  | _, _ => false
abbrev CallF := FuncId → Array Value → AW → Option (Value × AW)
def tySize (P : Program) (t : TypeId) : Option Nat := (P.info? t).map (·.size)
def tyBytes (P : Program) (t : TypeId) : Option Nat := (P.info? t).map (·.bytes)
def AW.cells? (A : AW) (a : Addr) (n : Nat) : Option (List Value) :=
 match a.spot, A.get a.block with
 | none, some (.cells c _ _) => if a.off + n ≤ c.length then some ((c.drop a.off).take n) else none
 | _, _ => none
def setAll : List Value → Nat → List Value → List Value
 | c, _, [] => c
 | c, i, v :: vs => setAll (c.set i v) (i + 1) vs
def srcA (xd : TypeDesc) (size : Nat) (x : Value) (A : AW) : Option (Nat × List Value) := match xd, x with
 | .slice _, .slice none n _ => if Nat.beq n 0 then some (0, []) else none
 | .slice _, .slice (some b) n _ => if Nat.beq n 0 then some (0, []) else match A.cells? b (n * size) with
  | some l => if l.any isAggT then none else some (n, l)
  | none => none
 | .string, .string s => if Nat.beq size 1 then some (s.size, (s.data.map fun b => Value.int .u8 b.toNat).toList) else none
 | _, _ => none
def freshA (z : Value) (size need : Nat) (c : List Value) (A : AW) : Option (Value × AW) :=
 if c.any isU32 || !(z.cells.toList.any isU32) then some (.slice (some ⟨A.next, 0, none⟩) need need, A.row c (.loose size)) else none
def appA (P : Program) (argTypes : Array TypeId) (s x : Value) (A : AW) : Option (Value × AW) :=
 match argTypes with
 | ⟨[t, tx]⟩ => match P.underlying t, P.underlying tx, s with
  | some (.slice elem), some xd, .slice base sLen sCap => match P.info? elem with
   | none => none
   | some i => match i.zero, srcA xd i.size x A with
    | some z, some (n, l) =>
     if decide (2 ^ 48 < (2 * (sLen + n) + 2000) * i.bytes) || decide (2 ^ 60 < sLen + n) || !(Nat.beq z.cells.size i.size) then none else
     match Nat.beq n 0 && Nat.ble sLen sCap with
     | true => some (s, A)
     | false =>
      match base with
      | none => if Nat.beq sLen 0 && Nat.beq sCap 0 then freshA z i.size n l A else none
      | some a => match A.get a.block, a.spot with
       | some (.cells c ro kd), none => match kd with
        | .void => if Nat.beq sLen 0 && Nat.beq sCap 0 then freshA z i.size n l A else none
        | .exact => match Nat.ble (sLen + n) sCap with
         | true => if !ro && !(l.any isU32) && Nat.ble (a.off + sLen * i.size + l.length) c.length then some (.slice base (sLen + n) sCap, A.put a.block (some (.cells (setAll c (a.off + sLen * i.size) l) ro kd))) else none
         | false => match A.cells? a (sLen * i.size) with
          | some old => freshA z i.size (sLen + n) (old ++ l) A
          | none => none
        | .loose esz => if ro || l.any isU32 || Nat.beq sCap 0 || !(Nat.beq esz i.size) then none else
         match A.cells? a (sLen * i.size) with
         | some old => if (old ++ l).any isU32 then none else freshA z i.size (sLen + n) (old ++ l) (A.put a.block none)
         | none => none
       | _, _ => none
    | _, _ => none
  | _, _, _ => none
 | _ => none
def nilSure (A : AW) : Value → Bool
 | .slice none _ _ => true
 | .slice (some a) _ c => match A.get a.block with
  | some (.cells _ _ .exact) => true
  | some (.cells _ _ (.loose _)) => !(Nat.beq c 0)
  | _ => false
 | _ => true
def bnd (v : Option Value) (dflt y : Nat) : Option Nat := match v with
 | none => some dflt
 | some (.int _ i) => if 0 ≤ i ∧ i ≤ (y : Int) then some i.toNat else none
 | _ => none
def bnds (len cap : Nat) (lo hi mx : Option Value) : Option (Nat × Nat × Nat) :=
 match Nat.ble len cap, bnd mx cap cap with
 | false, _ => none
 | true, none => none
 | true, some m => match hi, mx with
  | none, some _ => none
  | _, _ => match bnd hi len m with
   | none => none
   | some h => match bnd lo 0 h with
    | none => none
    | some l => some (l, h, m)
def sliceA (P : Program) (t : TypeId) (x : Value) (lo hi mx : Option Value) (A : AW) : Option (Value × AW) :=
 match P.underlying t, x with
 | some .string, .string s => match mx, bnds s.size s.size lo hi none with
  | none, some (l, h, _) => some (.string (s.extract l h), A)
  | _, _ => none
 | some (.slice elem), .slice none len cap => if Nat.beq len 0 && Nat.beq cap 0 then (match bnds 0 0 lo hi mx, tySize P elem with
  | some _, some _ => some (x, A)
  | _, _ => none) else none
 | some (.slice elem), .slice (some a) len cap => match bnds len cap lo hi mx, tySize P elem, A.get a.block, a.spot with
  | some (l, h, m), some size, some (.cells c ro kd), none => match kd with
   | .exact => some (.slice (some (if m = l then a else a.add (l * size))) (h - l) (m - l), A)
   | .void => if Nat.beq len 0 && Nat.beq cap 0 then some (x, A) else none
   | .loose e => if !(Nat.beq e size) then none else match mx, Nat.beq m l with
    | some _, true => some (.slice (some ⟨A.next, 0, none⟩) 0 0, A.add (.cells [] true .void))
    | _, true => some (.slice (some a) 0 0, A)
    | _, false => some (.slice (some (a.add (l * size))) (h - l) (m - l), A)
  | _, _, _, _ => none
 | some (.array n elem), .pointer (some a) => match bnds n n lo hi mx, tySize P elem, A.get a.block, a.spot with
  | some (l, h, m), some size, some (.cells c ro .exact), none => some (.slice (some (if m = l then a else a.add (l * size))) (h - l) (m - l), A)
  | _, _, _, _ => none
 | _, _ => none
def strBytes (s : ByteArray) (A : AW) : Option (Value × AW) :=
 some (.slice (some ⟨A.next, 0, none⟩) s.size s.size, A.row (s.data.map fun b => Value.int .u8 b.toNat).toList (.loose 1))
def simpleKind : TypeDesc → Bool
 | .int _ | .string | .bool => true
 | _ => false
def keyTest (P : Program) (kt : TypeId) (k key : Value) : Option Bool := match P.underlying kt with
 | some d => match simpleKind d with
  | true => Instr.sameNow d k key
  | false => pureRun P (Op.equal kt k key)
 | none => none
def findA (P : Program) (kt : TypeId) (k : Value) : List (Value × Value) → Nat → Option (Option (Nat × Value × Value))
 | [], _ => some none
 | e :: es, i => match keyTest P kt k e.1, findA P kt k es (i + 1) with
  | some true, some none => some (some (i, e))
  | some false, some r => some r
  | _, _ => none
def keyFine (P : Program) (kt : TypeId) (k : Value) (emp : Bool) : Bool := plainV 9 k && (pureRun P (Instr.checkKey emp 10000 kt k)).isSome
def mapOf (A : AW) : Option Nat → Option (List (Value × Value))
 | none => some []
 | some i => match A.get i with
  | some (.map es) => some es
  | _ => none
def lookA (P : Program) (ty : TypeId) (m k : Value) (ok : Bool) (A : AW) : Option (Value × AW) :=
 match P.underlying ty, m with
 | some (.map kt et), .map r =>
  match mapOf A r with
  | none => none
  | some es => if keyFine P kt k es.isEmpty then
    match findA P kt k es 0, (P.info? et).bind (·.zero) with
    | some (some (_, e)), some _ => some (if ok then .tuple #[e.2, .bool true] else e.2, A)
    | some none, some z => if plainV 20 z then some (if ok then .tuple #[z, .bool false] else z, A) else none
    | _, _ => none
   else none
 | _, _ => none
def updA (P : Program) (ty : TypeId) (m k x : Value) (A : AW) : Option (Value × AW) :=
 match P.underlying ty, m with
 | some (.map kt _), .map (some i) => match A.get i with
  | some (.map es) => if keyFine P kt k false then
    match findA P kt k es 0 with
    | some (some (j, e)) => if Instr.sameBits 10000 e.1 k then some (undef, A.put i (some (.map (es.set j (k, x))))) else none
    | some none => some (undef, A.put i (some (.map (es ++ [(k, x)]))))
    | none => none
   else none
  | _ => none
 | _, _ => none
def bytesLoop (cs : Array Value) : Sem Value := do
 let mut s := ByteArray.empty
 for c in cs do
  let .int .u8 n := c | stuck "bytesToString: byte expected"
  s := s.push (UInt8.ofNat n.toNat)
 pure (.string s)
def convA (P : Program) (src dst : TypeId) (x : Value) (A : AW) : Option (Value × AW) :=
 match P.underlying src, P.underlying dst, x with
 | some .string, some (.slice e), .string s => match P.underlying e with
  | some (.int .u8) => strBytes s A
  | _ => none
 | some (.slice e), some .string, .slice a len _ => match P.underlying e with
  | some (.int .u8) => match a with
   | none => some (.string .empty, A)
   | some a => match (if Nat.beq len 0 then some [] else A.cells? a len) with
    | some c => if c.all (plainV 2) then (match pureRun P (bytesLoop c.toArray) with
     | some v => if plainV 9 v then some (v, A) else none
     | none => none) else none
    | none => none
  | _ => none
 | _, _, x => if plainV 9 x then (match pureRun P (convert src dst x) with
  | some v => if plainV 9 v then some (v, A) else none
  | none => none) else none
def lenA (P : Program) (argTypes : Array TypeId) (args : Array Value) (A : AW) : Option (Value × AW) :=
 match argTypes[0]?, args[0]? with
 | some t, some x => match P.underlying t, x with
  | some .string, .string s => some (.int .i64 s.size, A)
  | some (.array n _), _ => some (.int .i64 n, A)
  | some (.slice _), .slice _ n _ => some (.int .i64 n, A)
  | some (.map _ _), .map none => some (.int .i64 0, A)
  | some (.map _ _), .map (some r) => match A.get r with
   | some (.map es) => some (.int .i64 es.length, A)
   | _ => none
  | _, _ => none
 | _, _ => none
def nilB (A : AW) (d : TypeDesc) (x y : Value) : Option Bool := match d, x, y with
 | .slice _, .slice none _ _, y => if nilSure A y then (match y with
  | .slice b _ _ => some b.isNone
  | _ => none) else none
 | .slice _, x, .slice none _ _ => if nilSure A x then (match x with
  | .slice b _ _ => some b.isNone
  | _ => none) else none
 | .pointer _, .pointer none, .pointer b => some b.isNone
 | .pointer _, .pointer b, .pointer none => some b.isNone
 | .map _ _, .map none, .map b => some b.isNone
 | .map _ _, .map b, .map none => some b.isNone
 | .func _ _ _, .nilFunc, .func _ _ _ => some false
 | .func _ _ _, .func _ _ _, .nilFunc => some false
 | _, _, _ => none
def binA (P : Program) (op : BinOp) (xType : TypeId) (ox oy : Operand) (x y : Value) (A : AW) : Option (Value × AW) :=
 if plainV 9 x && plainV 9 y then (match pureRun P (do eqGuard op xType ox oy x y; binOp op xType x y) with
  | some v => if plainV 9 v then some (v, A) else none
  | none => none)
 else match op, (P.underlying xType).bind fun d => nilB A d x y with
  | .eql, some b => some (.bool b, A)
  | .neq, some b => some (.bool !b, A)
  | _, _ => none
def nilCheckA : Value → Option Value
 | .pointer (some a) => some (.pointer (some a))
 | .func (.func f) a c => some (.func (.func f) a c)
 | _ => none
def rangeA (P : Program) (t : TypeId) (x : Value) (A : AW) : Option (Value × AW) := match P.underlying t, x with
 | some .string, .string s => some (.pointer (some ⟨A.next, 0, none⟩), A.add (.iter s 0))
 | _, _ => none
def nextA (it : Value) (isString : Bool) (A : AW) : Option (Value × AW) := match it, isString with
 | .pointer (some ⟨r, 0, none⟩), true => match A.get r with
  | some (.iter s pos) => if pos < s.size then some (.tuple #[.bool true, .int .i64 pos, .int .i32 (Utf8.decode s pos).1], A.put r (some (.iter s (pos + (Utf8.decode s pos).2)))) else some (.tuple #[.bool false], A)
  | _ => none
 | _, _ => none
def clearA (P : Program) (argTypes : Array TypeId) (args : Array Value) (A : AW) : Option (Value × AW) := match argTypes[0]?, args[0]? with
 | some t, some (Value.slice a n _) => match P.underlying t with
  | some (.slice elem) => match a, n with
   | _, 0 => some (.tuple #[], A)
   | some a, n + 1 => match (P.info? elem).bind (·.zero) with
    | some z => if plainV 20 z then (match runA P (storeCells a (Builtin.zeroCells z.cells (n + 1)).toList) A with
     | some (_, A) => some (.tuple #[], A)
     | none => none) else none
    | none => none
   | none, _ => none
  | _ => none
 | _, _ => none
def hasBody (P : Program) (f : FuncId) : Bool := match P.funcs[f]? with
 | some fn => fn.body.isSome
 | none => false
def typOk (P : Program) : Op → Bool
 | .alloc el => (P.types[el]?).isSome
 | .build el _ => (P.types[el]?).isSome
 | .buildSlice t _ _ => match P.underlying t with
  | some (.slice el) => (P.types[el]?).isSome
  | _ => true
 | .makeSlice t _ _ => match P.underlying t with
  | some (.slice el) => (P.types[el]?).isSome
  | _ => true
 | _ => true
def asVal : Option (Next × AW) → Option (Value × AW)
 | some (.value v, A) => some (v, A)
 | _ => none
def asSkip : Option (Next × AW) → Option (Value × AW)
 | some (.skip, A) => some (undef, A)
 | _ => none
def exA (P : Program) (F : CallF) (t : TV) (o : Oper) (A : AW) : Option (Value × AW) :=
 if !(o.op.operands.all opndOk) || !(typOk P o.op) then none else
 match o.op with
 | .call c =>
  let args := c.args.map (evL t)
  match c.callee with
  | .builtin b => match b with
   | .append => match args with
    | ⟨[s, x]⟩ => appA P c.argTypes s x A
    | _ => none
   | .len => lenA P c.argTypes args A
   | .min | .max => if args.toList.all (plainV 9) then (match pureRun P (builtin b c.argTypes o.type #[] args) with
    | some (.value v) => if plainV 9 v then some (v, A) else none
    | _ => none) else none
   | .clear => clearA P c.argTypes args A
   | _ => none
  | .value f => match evL t f with
   | .func (.func f) first captured => if hasBody P f then F f ((first ++ args) ++ captured) A else none
   | _ => none
  | _ => none
 | .slice ty x lo hi mx => sliceA P ty (evL t x) (lo.map (evL t)) (hi.map (evL t)) (mx.map (evL t)) A
 | .convert src dst x => convA P src dst (evL t x) A
 | .binOp op xType x y _ => binA P op xType x y (evL t x) (evL t y) A
 | .nilCheck x => match nilCheckA (evL t x) with
  | some v => some (v, A)
  | none => none
 | .move x | .assign x => some (evL t x, A)
 | .makeFunc f a c => some (.func f (a.map (evL t)) (c.map (evL t)), A)
 | .pick c x y => match evL t c with
  | .bool true => some (evL t x, A)
  | .bool false => some (evL t y, A)
  | _ => none
 | .alloc _ | .box .. | .build .. | .buildSlice .. | .load .. | .unOp .. | .makeMap _ none | .makeSlice .. | .fieldAddr .. | .field .. | .indexAddr .. | .index .. | .extract .. =>
  asVal (runA P (execOp (evL t) o) A)
 | .range ty x => rangeA P ty (evL t x) A
 | .next it b => nextA (evL t it) b A
 | .lookup ty m k ok => lookA P ty (evL t m) (evL t k) ok A
 | .mapUpdate ty m k x | .insert ty m k x => updA P ty (evL t m) (evL t k) (evL t x) A
 | .store .. =>
  asSkip (runA P (execOp (evL t) o) A)
 | _ => none
def opsA (P : Program) (F : CallF) (ops : Array Oper) : List Oper → TV → AW → Option (TV × AW)
 | [], t, A => some (t, A)
 | o :: os, t, A => match wantedL ops t o with
  | true => match exA P F t o A with
   | some (v, A) => opsA P F ops os (putL t o.dst v) A
   | none => none
  | false => opsA P F ops os (putL t o.dst undef) A
def readOp : Op → Bool
 | .move _ | .pick .. | .build .. | .load .. | .nilCheck _ | .unOp .. | .binOp .. | .makeFunc .. | .fieldAddr .. | .field .. | .indexAddr .. | .index .. | .lookup .. | .extract .. | .slice .. => true
 | .call { callee := .builtin .len, .. } | .call { callee := .builtin .min, .. } | .call { callee := .builtin .max, .. } => true
 | _ => false
def newOp : Op → Bool
 | .alloc _ | .box .. | .buildSlice .. | .makeMap _ none | .makeSlice .. => true
 | _ => false
def memOp : Op → Bool
 | .load .. | .lookup .. | .slice .. | .binOp .. | .call _ => true
 | _ => false
def eqList {α : Type} (f : α → α → Bool) : List α → List α → Bool
 | [], [] => true
 | a :: as, b :: bs => f a b && eqList f as bs
 | _, _ => false
def eqV : Nat → Value → Value → Bool
 | 0, _, _ => false
 | n + 1, v, w => match v, w with
  | .bool a, .bool b => a == b
  | .int k a, .int l b => decide (k = l) && decide (a = b)
  | .string a, .string b => eqList (fun (x y : UInt8) => decide (x = y)) a.data.toList b.data.toList
  | .pointer a, .pointer b => decide (a = b)
  | .slice a l c, .slice b m d => decide (a = b) && Nat.beq l m && Nat.beq c d
  | .map a, .map b => decide (a = b)
  | .func f a b, .func g c d => decide (f = g) && eqList (eqV n) a.toList c.toList && eqList (eqV n) b.toList d.toList
  | .nilFunc, .nilFunc => true
  | .nilIface, .nilIface => true
  | .agg a, .agg b => eqList (eqV n) a.toList b.toList
  | .tuple a, .tuple b => eqList (eqV n) a.toList b.toList
  | _, _ => false
def eqKd : Kd → Kd → Bool
 | .exact, .exact => true
 | .loose a, .loose b => Nat.beq a b
 | .void, .void => true
 | _, _ => false
def eqE (a b : Value × Value) : Bool := eqV 9 a.1 b.1 && eqV 9 a.2 b.2
def eqB : ABlk → ABlk → Bool
 | .cells c r k, .cells d s l => eqList (eqV 9) c d && (r == s) && eqKd k l
 | .map a, .map b => eqList eqE a b
 | _, _ => false
inductive Snap where
 | re (o : Oper) (v : Value)
 | blk (id : Nat)
structure DS where
 done : Nat
 t : TV
 A : AW
 snaps : List (Nat × Snap)
 ins : List (Nat × Value × Value)
 susp : Option (Nat × Nat)
def edgeOk (done : Nat) (e : Edge) : Bool := !(Region.binds .any e) || done.testBit e.on
def readyA (ops : List (Nat × Oper)) (done : Nat) : List (Nat × Oper) := ops.filter fun (i, o) => !(done.testBit i) && o.after.toList.all (edgeOk done)
def ancs (ops : Array Oper) : List Nat := (Region.before ops).toList
def fills : List Oper → Option Tmp
 | [] => none
 | o :: os => match o.op with
  | .insert _ (.tmp m) _ _ => some m
  | _ => fills os
def isMake : Op → Bool
 | .makeMap _ none => true
 | _ => false
def isIns : Op → Bool
 | .insert .. => true
 | _ => false
def insType : List Oper → Option TypeId
 | [] => none
 | o :: os => match o.op with
  | .insert ty (.tmp _) _ _ => some ty
  | _ => insType os
def stepFree (P : Program) (F : CallF) (ops : Array Oper) (fl : Option Tmp) (i : Nat) (o : Oper) (s : DS) : Option DS :=
 match wantedL ops s.t o with
 | false => some { s with done := s.done ||| 2 ^ i, t := putL s.t o.dst undef }
 | true => match isIns o.op with
  | true => match fl, o.op, o.dst with
   | some m, .insert ty (.tmp m') k x, none => match s.susp, s.t.getD m' undef with
    | some (_, r), .map (some r') => if Nat.beq m m' && Nat.beq r r' && opndOk k && opndOk x && decide (insType ops.toList = some ty) then some { s with done := s.done ||| 2 ^ i, ins := s.ins ++ [(i, evL s.t k, evL s.t x)] } else none
    | _, _ => none
   | _, _, _ => none
  | false => match exA P F s.t o s.A with
   | none => none
   | some (v, A') => match newOp o.op with
    | true => match fl.isSome && isMake o.op && decide (o.dst = fl), s.susp with
     | true, none => some { s with done := s.done ||| 2 ^ i, t := putL s.t o.dst v, A := A'.put s.A.next none, susp := some (i, s.A.next) }
     | true, some _ => none
     | false, _ => some { s with done := s.done ||| 2 ^ i, t := putL s.t o.dst v, A := A', snaps := (i, .blk s.A.next) :: s.snaps }
    | false => if Nat.beq s.A.next A'.next then some { s with done := s.done ||| 2 ^ i, t := putL s.t o.dst v, snaps := if memOp o.op then (i, .re o v) :: s.snaps else s.snaps } else none
def keptS (P : Program) (F : CallF) (t' : TV) (A A' : AW) : Snap → Bool
 | .blk i => match A.get i, A'.get i with
  | some B, some C => eqB B C
  | _, _ => false
 | .re o v => match exA P F t' o A' with
  | some (u, A'') => eqV 9 v u && Nat.beq A''.next A'.next
  | none => false
def stillOut (A' : AW) : Option (Nat × Nat) → Bool
 | some (_, r) => (A'.get r).isNone
 | none => true
def stepChain (P : Program) (F : CallF) (ops : Array Oper) (anc : List Nat) (i : Nat) (o : Oper) (s : DS) : Option DS :=
 match wantedL ops s.t o with
 | false => some { s with done := s.done ||| 2 ^ i, t := putL s.t o.dst undef }
 | true => match exA P F s.t o s.A with
  | some (v, A') => if stillOut A' s.susp && s.snaps.all (fun (j, x) => (anc.getD i 0).testBit j || keptS P F (putL s.t o.dst v) s.A A' x) then some { s with done := s.done ||| 2 ^ i, t := putL s.t o.dst v, A := A' } else none
  | none => none
def freeK (fl : Option Tmp) (o : Oper) : Bool := readOp o.op || newOp o.op || (fl.isSome && isIns o.op)
def drawA (P : Program) (F : CallF) (ops : Array Oper) (lst : List (Nat × Oper)) (anc : List Nat) (fl : Option Tmp) : Nat → DS → Option DS
 | 0, s => if (readyA lst s.done).isEmpty then some s else none
 | n + 1, s => match readyA lst s.done with
  | [] => some s
  | (i, o) :: rest => match ((i, o) :: rest).find? (fun p => freeK fl p.2) with
   | some (j, p) => match stepFree P F ops fl j p s with
    | some s => drawA P F ops lst anc fl n s
    | none => none
   | none => match rest with
    | [] => match stepChain P F ops anc i o s with
     | some s => drawA P F ops lst anc fl n s
     | none => none
    | _ => none
def fillA (P : Program) (kt : TypeId) : List (Value × Value) → Bool
 | [] => true
 | e :: l => keyFine P kt e.1 false && l.all (fun f => decide (keyTest P kt e.1 f.1 = some false) && decide (keyTest P kt f.1 e.1 = some false)) && fillA P kt l
def endA (P : Program) (ops : Array Oper) (s : DS) : Option (TV × AW) :=
 match s.susp, s.ins with
 | none, [] => some (s.t, s.A)
 | some (_, r), l => match (insType ops.toList).bind P.underlying with
  | some (.map kt _) => match fillA P kt (l.map (·.2)), s.A.get r with
   | true, none => some (s.t, s.A.put r (some (.map (l.map (·.2)))))
   | _, _ => none
  | _ => none
 | _, _ => none
def enum {α : Type} : Nat → List α → List (Nat × α)
 | _, [] => []
 | i, a :: as => (i, a) :: enum (i + 1) as
inductive AExit where
 | normal | exit (id : Nat) | ret
def resA (P : Program) (t : TV) (A : AW) : List ResultVar → Option (List Value)
 | [] => some []
 | r :: rs =>
  let v : Option Value := match r with
   | .tmp k => some (t.getD k undef)
   | .cell a ty => match runA P (do loadVar ty (← asAddr (t.getD a undef))) A with
    | some (v, _) => some v
    | none => none
  match v, resA P t A rs with
  | some v, some vs => some (v :: vs)
  | _, _ => none
def oneOf : List Value → Value
 | [v] => v
 | vs => .tuple vs.toArray
abbrev Orac := FuncId → Option (Array Value → AW → Option (Value × AW))
def evC (P : Program) (O : Orac) : Nat → Code → TV → AW → Option (AExit × TV × AW)
 | 0, _, _, _ => none
 | n + 1, c, t, A =>
  let F : CallF := fun f args A => match O f with
   | some g => g args A
   | none => match P.funcs[f]? with
    | some fn => match fn.body with
     | some b => match evC P O n b (TV.start fn.ntmps args.toList) A with
      | some (.normal, t, A) | some (.ret, t, A) => match resA P t A fn.results.toList with
       | some vs => some (oneOf vs, A)
       | none => none
      | _ => none
     | none => none
    | none => none
  match c with
  | .skip => some (.normal, t, A)
  | .seq x y => match evC P O n x t A with
   | some (.normal, t, A) => evC P O n y t A
   | r => r
  | .cond o x y => match opndOk o, evL t o with
   | true, .bool true => evC P O n x t A
   | true, .bool false => evC P O n y t A
   | _, _ => none
  | .block id b => match evC P O n b t A with
   | some (.exit i, t, A) => if i = id then some (.normal, t, A) else some (.exit i, t, A)
   | r => r
  | .loop b => match evC P O n b t A with
   | some (.normal, t, A) => evC P O n (.loop b) t A
   | r => r
  | .exit id => some (.exit id, t, A)
  | .ret => some (.ret, t, A)
  | .region _ ops false => match opsA P F ops ops.toList t A with
   | some (t, A) => some (.normal, t, A)
   | none => none
  | .region _ ops true => match drawA P F ops (enum 0 ops.toList) (ancs ops) (fills ops.toList) ops.size { done := 0, t, A, snaps := [], ins := [], susp := none } with
   | some s => match endA P ops s with
    | some (t, A) => some (.normal, t, A)
    | none => none
   | none => none
  | _ => none
def evF (P : Program) (O : Orac) (n : Nat) : CallF := fun f args A => match O f with
 | some g => g args A
 | none => match P.funcs[f]? with
  | some fn => match fn.body with
   | some b => match evC P O n b (TV.start fn.ntmps args.toList) A with
    | some (.normal, t, A) | some (.ret, t, A) => match resA P t A fn.results.toList with
     | some vs => some (oneOf vs, A)
     | none => none
    | _ => none
   | none => none
  | none => none
theorem T.get_set {α : Type} : ∀ (f : Nat) (t : T α) (n : Nat) (v : Option α) (m : Nat), n < f → (T.set f t n v).get m = if m = n then v else t.get m := by
 intro f
 induction f with
 | zero => intro t n v m h; omega
 | succ f ih =>
  intro t n v m h
  cases t with
  | leaf =>
   cases n with
   | zero =>
    cases m with
    | zero => simp [T.set, T.get]
    | succ m => simp only [T.set, T.get]; cases Nat.beq (m % 2) 0 <;> simp [T.get]
   | succ n =>
    have h2 : n / 2 < f := by omega
    simp only [T.set]
    cases hn : Nat.beq (n % 2) 0 with
    | true =>
     cases m with
     | zero => simp [T.get]
     | succ m =>
      simp only [T.get]
      cases hm : Nat.beq (m % 2) 0 with
      | true =>
       simp only []
       rw [ih _ _ _ _ h2]
       rw [Nat.beq_eq] at hn hm
       by_cases e : m / 2 = n / 2
       ·rw [if_pos e, if_pos (by omega)]
       ·rw [if_neg e, if_neg (by omega)]; rfl
      | false =>
       rw [Nat.beq_eq] at hn
       have hm' : m % 2 ≠ 0 := fun e => by rw [← Nat.beq_eq, hm] at e; cases e
       simp only [T.get]
       rw [if_neg (by omega)]
    | false =>
     have hn' : n % 2 ≠ 0 := fun e => by rw [← Nat.beq_eq, hn] at e; cases e
     cases m with
     | zero => simp [T.get]
     | succ m =>
      simp only [T.get]
      cases hm : Nat.beq (m % 2) 0 with
      | true =>
       rw [Nat.beq_eq] at hm
       simp only [T.get]
       rw [if_neg (by omega)]
      | false =>
       have hm' : m % 2 ≠ 0 := fun e => by rw [← Nat.beq_eq, hm] at e; cases e
       simp only []
       rw [ih _ _ _ _ h2]
       by_cases e : m / 2 = n / 2
       ·rw [if_pos e, if_pos (by omega)]
       ·rw [if_neg e, if_neg (by omega)]; rfl
  | node u l r =>
   cases n with
   | zero =>
    cases m with
    | zero => simp [T.set, T.get]
    | succ m => simp only [T.set, T.get]; cases Nat.beq (m % 2) 0 <;> simp
   | succ n =>
    have h2 : n / 2 < f := by omega
    simp only [T.set]
    cases hn : Nat.beq (n % 2) 0 with
    | true =>
     cases m with
     | zero => simp [T.get]
     | succ m =>
      simp only [T.get]
      cases hm : Nat.beq (m % 2) 0 with
      | true =>
       simp only []
       rw [ih _ _ _ _ h2]
       rw [Nat.beq_eq] at hn hm
       by_cases e : m / 2 = n / 2
       ·rw [if_pos e, if_pos (by omega)]
       ·rw [if_neg e, if_neg (by omega)]
      | false =>
       rw [Nat.beq_eq] at hn
       have hm' : m % 2 ≠ 0 := fun e => by rw [← Nat.beq_eq, hm] at e; cases e
       simp only []
       rw [if_neg (by omega)]
    | false =>
     have hn' : n % 2 ≠ 0 := fun e => by rw [← Nat.beq_eq, hn] at e; cases e
     cases m with
     | zero => simp [T.get]
     | succ m =>
      simp only [T.get]
      cases hm : Nat.beq (m % 2) 0 with
      | true =>
       rw [Nat.beq_eq] at hm
       simp only []
       rw [if_neg (by omega)]
      | false =>
       have hm' : m % 2 ≠ 0 := fun e => by rw [← Nat.beq_eq, hm] at e; cases e
       simp only []
       rw [ih _ _ _ _ h2]
       by_cases e : m / 2 = n / 2
       ·rw [if_pos e, if_pos (by omega)]
       ·rw [if_neg e, if_neg (by omega)]
@[simp] theorem AW.get_put (A : AW) (i : Nat) (B : Option ABlk) (j : Nat) : (A.put i B).get j = if j = i then B else A.get j := T.get_set _ _ _ _ _ (by omega)
@[simp] theorem AW.next_put (A : AW) (i : Nat) (B : Option ABlk) : (A.put i B).next = A.next := rfl
@[simp] theorem AW.get_add (A : AW) (B : ABlk) (j : Nat) : (A.add B).get j = if j = A.next then some B else A.get j := T.get_set _ _ _ _ _ (by omega)
@[simp] theorem AW.next_add (A : AW) (B : ABlk) : (A.add B).next = A.next + 1 := rfl
@[simp] theorem AW.get_empty (j : Nat) : AW.empty.get j = none := rfl
structure Loc where
 b : Nat
 o : Nat
 kd : Kd
 room : Nat
abbrev Ren := Nat → Option Loc
def Ext (ρ ρ1 : Ren) : Prop := ∀ i L, ρ i = some L → ρ1 i = some L
theorem Ext.refl (ρ : Ren) : Ext ρ ρ := fun _ _ h => h
theorem Ext.trans {a b c : Ren} (h : Ext a b) (k : Ext b c) : Ext a c := fun i L e => k i L (h i L e)
inductive VR (ρ : Ren) : Value → Value → Prop where
 | bool (b : Bool) : VR ρ (.bool b) (.bool b)
 | int (k : IntKind) (n : Int) : VR ρ (.int k n) (.int k n)
 | string (s : ByteArray) : VR ρ (.string s) (.string s)
 | pnil : VR ρ (.pointer none) (.pointer none)
 | ptr {i k : Nat} {L : Loc} (h : ρ i = some L) : VR ρ (.pointer (some ⟨i, k, none⟩)) (.pointer (some ⟨L.b, L.o + k, none⟩))
 | snil : VR ρ (.slice none 0 0) (.slice none 0 0)
 | sexact {i k : Nat} {L : Loc} (l c : Nat) (h : ρ i = some L) (hk : L.kd = .exact) : VR ρ (.slice (some ⟨i, k, none⟩) l c) (.slice (some ⟨L.b, L.o + k, none⟩) l c)
 | sloose {i k : Nat} {L : Loc} (l c c' e : Nat) (h : ρ i = some L) (hk : L.kd = .loose e) (hc : c ≤ c') (hr : k + c' * e ≤ L.room) : VR ρ (.slice (some ⟨i, k, none⟩) l c) (.slice (some ⟨L.b, L.o + k, none⟩) l c')
 | sempty {i k : Nat} {L : Loc} (c' e : Nat) (a' : Option Addr) (h : ρ i = some L) (hk : L.kd = .loose e) : VR ρ (.slice (some ⟨i, k, none⟩) 0 0) (.slice a' 0 c')
 | svoid {i k : Nat} {L : Loc} (a' : Option Addr) (h : ρ i = some L) (hk : L.kd = .void) : VR ρ (.slice (some ⟨i, k, none⟩) 0 0) (.slice a' 0 0)
 | mnil : VR ρ (.map none) (.map none)
 | map {i : Nat} {L : Loc} (h : ρ i = some L) : VR ρ (.map (some i)) (.map (some L.b))
 | nilFunc : VR ρ .nilFunc .nilFunc
 | nilIface : VR ρ .nilIface .nilIface
 | iface (t : TypeId) {v v' : Value} (h : VR ρ v v') : VR ρ (.iface t v) (.iface t v')
 | func (f : Fn) {a a' c c' : Array Value} (ha : a.size = a'.size) (hc : c.size = c'.size) (h : ∀ j (h1 : j < a.size) (h2 : j < a'.size), VR ρ a[j] a'[j]) (k : ∀ j (h1 : j < c.size) (h2 : j < c'.size), VR ρ c[j] c'[j]) : VR ρ (.func f a c) (.func f a' c')
 | agg {a a' : Array Value} (ha : a.size = a'.size) (h : ∀ j (h1 : j < a.size) (h2 : j < a'.size), VR ρ a[j] a'[j]) : VR ρ (.agg a) (.agg a')
 | tuple {a a' : Array Value} (ha : a.size = a'.size) (h : ∀ j (h1 : j < a.size) (h2 : j < a'.size), VR ρ a[j] a'[j]) : VR ρ (.tuple a) (.tuple a')
theorem VR.mono {ρ ρ1 : Ren} (e : Ext ρ ρ1) {v v' : Value} (h : VR ρ v v') : VR ρ1 v v' := by
 induction h with
 | bool b => exact .bool b
 | int k n => exact .int k n
 | string s => exact .string s
 | pnil => exact .pnil
 | ptr h => exact .ptr (e _ _ h)
 | snil => exact .snil
 | sexact l c h hk => exact .sexact l c (e _ _ h) hk
 | sloose l c c' x h hk hc hr => exact .sloose l c c' x (e _ _ h) hk hc hr
 | sempty c' x a' h hk => exact .sempty c' x a' (e _ _ h) hk
 | svoid a' h hk => exact .svoid a' (e _ _ h) hk
 | mnil => exact .mnil
 | map h => exact .map (e _ _ h)
 | nilFunc => exact .nilFunc
 | nilIface => exact .nilIface
 | iface t _ ih => exact .iface t ih
 | func f ha hc _ _ ih1 ih2 => exact .func f ha hc ih1 ih2
 | agg ha _ ih => exact .agg ha ih
 | tuple ha _ ih => exact .tuple ha ih
inductive LR (ρ : Ren) : List Value → List Value → Prop where
 | nil : LR ρ [] []
 | cons {v v' : Value} {l l' : List Value} (h : VR ρ v v') (t : LR ρ l l') : LR ρ (v :: l) (v' :: l')
theorem LR.mono {ρ ρ1 : Ren} (e : Ext ρ ρ1) {l l' : List Value} (h : LR ρ l l') : LR ρ1 l l' := by
 induction h with
 | nil => exact .nil
 | cons h _ ih => exact .cons (h.mono e) ih
theorem LR.length {ρ : Ren} {l l' : List Value} (h : LR ρ l l') : l.length = l'.length := by
 induction h with
 | nil => rfl
 | cons _ _ ih => simp [ih]
theorem LR.get {ρ : Ren} {l l' : List Value} (h : LR ρ l l') : ∀ j (h1 : j < l.length) (h2 : j < l'.length), VR ρ l[j] l'[j] := by
 induction h with
 | nil => intro j h1; simp at h1
 | cons h _ ih =>
  intro j h1 h2
  cases j with
  | zero => exact h
  | succ j => exact ih j (by simpa using h1) (by simpa using h2)
theorem LR.of {ρ : Ren} : ∀ {l l' : List Value}, l.length = l'.length → (∀ j (h1 : j < l.length) (h2 : j < l'.length), VR ρ l[j] l'[j]) → LR ρ l l'
 | [], [], _, _ => .nil
 | [], _ :: _, h, _ => by simp at h
 | _ :: _, [], h, _ => by simp at h
 | v :: l, v' :: l', h, k => .cons (k 0 (by simp) (by simp)) (LR.of (by simpa using h) fun j h1 h2 => k (j + 1) (by simpa using h1) (by simpa using h2))
theorem LR.append {ρ : Ren} {a a' b b' : List Value} (h : LR ρ a a') (k : LR ρ b b') : LR ρ (a ++ b) (a' ++ b') := by
 induction h with
 | nil => exact k
 | cons h _ ih => exact .cons h ih
theorem LR.get? {ρ : Ren} {l l' : List Value} (h : LR ρ l l') {j : Nat} {v : Value} (e : l[j]? = some v) : ∃ v', l'[j]? = some v' ∧ VR ρ v v' := by
 obtain ⟨hj, rfl⟩ := List.getElem?_eq_some_iff.1 e
 have hj' : j < l'.length := h.length ▸ hj
 exact ⟨_, List.getElem?_eq_getElem hj', h.get j hj hj'⟩
theorem LR.set {ρ : Ren} {l l' : List Value} (h : LR ρ l l') {v v' : Value} (hv : VR ρ v v') (j : Nat) : LR ρ (l.set j v) (l'.set j v') := by
 induction h generalizing j with
 | nil => exact .nil
 | cons h t ih =>
  cases j with
  | zero => exact .cons hv t
  | succ j => exact .cons h (ih j)
theorem LR.drop {ρ : Ren} {l l' : List Value} (h : LR ρ l l') (j : Nat) : LR ρ (l.drop j) (l'.drop j) := by
 induction h generalizing j with
 | nil => simpa using LR.nil
 | cons h t ih =>
  cases j with
  | zero => exact .cons h t
  | succ j => simpa using ih j
theorem LR.take {ρ : Ren} {l l' : List Value} (h : LR ρ l l') (j : Nat) : LR ρ (l.take j) (l'.take j) := by
 induction h generalizing j with
 | nil => simpa using LR.nil
 | cons h t ih =>
  cases j with
  | zero => simpa using LR.nil
  | succ j => simpa using LR.cons h (ih j)
theorem LR.replicate {ρ : Ren} {v v' : Value} (h : VR ρ v v') (n : Nat) : LR ρ (List.replicate n v) (List.replicate n v') := by
 induction n with
 | zero => exact .nil
 | succ n ih => exact .cons h ih
theorem LR.same {ρ : Ren} {l : List Value} (h : ∀ v, v ∈ l → VR ρ v v) : LR ρ l l := by
 induction l with
 | nil => exact .nil
 | cons v l ih => exact .cons (h v (by simp)) (ih fun u hu => h u (by simp [hu]))
def AR (ρ : Ren) (a a' : Array Value) : Prop := LR ρ a.toList a'.toList
theorem AR.size {ρ : Ren} {a a' : Array Value} (h : AR ρ a a') : a.size = a'.size := by simpa using h.length
theorem AR.get {ρ : Ren} {a a' : Array Value} (h : AR ρ a a') : ∀ j (h1 : j < a.size) (h2 : j < a'.size), VR ρ a[j] a'[j] := fun j h1 h2 => by
 have := LR.get h j (by simpa using h1) (by simpa using h2)
 rwa [Array.getElem_toList, Array.getElem_toList] at this
theorem AR.of {ρ : Ren} {a a' : Array Value} (e : a.size = a'.size) (h : ∀ j (h1 : j < a.size) (h2 : j < a'.size), VR ρ a[j] a'[j]) : AR ρ a a' :=
 LR.of (by simpa using e) fun j h1 h2 => by rw [Array.getElem_toList, Array.getElem_toList]; exact h j (by simpa using h1) (by simpa using h2)
theorem AR.mono {ρ ρ1 : Ren} (e : Ext ρ ρ1) {a a' : Array Value} (h : AR ρ a a') : AR ρ1 a a' := LR.mono e h
theorem VR.aggL {ρ : Ren} {a a' : Array Value} (h : AR ρ a a') : VR ρ (.agg a) (.agg a') := .agg h.size h.get
theorem VR.tupleL {ρ : Ren} {a a' : Array Value} (h : AR ρ a a') : VR ρ (.tuple a) (.tuple a') := .tuple h.size h.get
theorem VR.funcL {ρ : Ren} (f : Fn) {a a' c c' : Array Value} (h : AR ρ a a') (k : AR ρ c c') : VR ρ (.func f a c) (.func f a' c') := .func f h.size k.size h.get k.get
theorem VR.plain {ρ : Ren} : ∀ (n : Nat) (v : Value), plainV n v = true → VR ρ v v := by
 intro n
 induction n with
 | zero => intro v h; simp [plainV] at h
 | succ n ih =>
  intro v h
  cases v with
  | bool b => exact .bool b
  | int k n => exact .int k n
  | string s => exact .string s
  | pointer a => cases a with
   | none => exact .pnil
   | some a => simp [plainV] at h
  | slice a l c => cases a with
   | none =>
    simp only [plainV, Bool.and_eq_true, Nat.beq_eq] at h
    obtain ⟨rfl, rfl⟩ := h
    exact .snil
   | some a => simp [plainV] at h
  | map r => cases r with
   | none => exact .mnil
   | some r => simp [plainV] at h
  | func f a c =>
   simp only [plainV, Bool.and_eq_true, Array.isEmpty_iff] at h
   obtain ⟨rfl, rfl⟩ := h
   exact .funcL f .nil .nil
  | nilFunc => exact .nilFunc
  | nilIface => exact .nilIface
  | agg cs =>
   simp only [plainV, List.all_eq_true] at h
   exact .aggL (LR.same fun v hv => ih v (h v hv))
  | tuple cs =>
   simp only [plainV, List.all_eq_true] at h
   exact .tupleL (LR.same fun v hv => ih v (h v hv))
  | _ => simp [plainV] at h
theorem VR.plain_eq {ρ : Ren} : ∀ (n : Nat) (v v' : Value), plainV n v = true → VR ρ v v' → v = v' := by
 intro n
 induction n with
 | zero => intro v v' h; simp [plainV] at h
 | succ n ih =>
  intro v v' h hv
  cases hv <;> try rfl
  all_goals try (simp [plainV] at h; done)
  ·rename_i f a a' c c' ha hc h1 h2
   simp only [plainV, Bool.and_eq_true, Array.isEmpty_iff] at h
   obtain ⟨rfl, rfl⟩ := h
   have e1 : a' = #[] := Array.eq_empty_of_size_eq_zero (by simpa using ha.symm)
   have e2 : c' = #[] := Array.eq_empty_of_size_eq_zero (by simpa using hc.symm)
   rw [e1, e2]
  ·rename_i a a' ha h1
   simp only [plainV, List.all_eq_true] at h
   rw [show a = a' from Array.ext ha fun j h2 h3 => ih _ _ (h _ (by simp)) (h1 j h2 h3)]
  ·rename_i a a' ha h1
   simp only [plainV, List.all_eq_true] at h
   rw [show a = a' from Array.ext ha fun j h2 h3 => ih _ _ (h _ (by simp)) (h1 j h2 h3)]
def solid : ABlk → Bool
 | .cells [] true _ => false
 | _ => true
def mutB : ABlk → Bool
 | .cells _ ro _ => !ro
 | _ => true
def noU (c : Array Value) : Prop := ∀ (j : Nat) (v : Value), c[j]? = some v → isU32 v = false
inductive ER (ρ : Ren) : List (Value × Value) → List (Value × Value) → Prop where
 | nil : ER ρ [] []
 | cons {k v v' : Value} {l l' : List (Value × Value)} (h : VR ρ v v') (hp : plainV 9 k = true) (t : ER ρ l l') : ER ρ ((k, v) :: l) ((k, v') :: l')
theorem ER.mono {ρ ρ1 : Ren} (e : Ext ρ ρ1) {l l' : List (Value × Value)} (h : ER ρ l l') : ER ρ1 l l' := by
 induction h with
 | nil => exact .nil
 | cons h hp _ ih => exact .cons (h.mono e) hp ih
def MapR (ρ : Ren) (es : List (Value × Value)) (es' : List MapEntry) : Prop := ∃ l, l.Perm (es'.map fun e => (e.key, e.val)) ∧ ER ρ es l
theorem MapR.mono {ρ ρ1 : Ren} (e : Ext ρ ρ1) {l : List (Value × Value)} {l' : List MapEntry} (h : MapR ρ l l') : MapR ρ1 l l' := by
 obtain ⟨m, hp, hm⟩ := h
 exact ⟨m, hp, hm.mono e⟩
def CellsR (ρ : Ren) (L : Loc) (c : List Value) (ro : Bool) (kd : Kd) (o : Option Obj) : Prop :=
 ∃ c' e fr, o = some (.cells c' e fr) ∧ (∀ (j : Nat) v, c[j]? = some v → ∃ v', c'[L.o + j]? = some v' ∧ VR ρ v v') ∧
  (ro = false → L.o + c.length ≤ c'.size ∧ (fr.2 ≤ fr.1 ∨ c'.size ≤ fr.1) ∧ (∀ e, kd = .loose e → L.o + L.room ≤ c'.size) ∧ noU c')
def BR (ρ : Ren) (L : Loc) (B : ABlk) (o : Option Obj) : Prop :=
 match B with
 | .cells c ro kd => L.kd = kd ∧ ((c = [] ∧ ro = true) ∨ CellsR ρ L c ro kd o)
 | .map es => ∃ es' clk, o = some (.map es' clk) ∧ MapR ρ es es'.toList
 | .iter s p => L.o = 0 ∧ o = some (.stringIter s p)
theorem BR.mono {ρ ρ1 : Ren} (e : Ext ρ ρ1) {L : Loc} {B : ABlk} {o : Option Obj} (h : BR ρ L B o) : BR ρ1 L B o := by
 cases B with
 | cells c ro kd =>
  obtain ⟨h1, h2⟩ := h
  refine ⟨h1, h2.imp id ?_⟩
  rintro ⟨c', e', fr, h3, h4, h5⟩
  exact ⟨c', e', fr, h3, fun j v hj => (h4 j v hj).imp fun v' ⟨a, b⟩ => ⟨a, b.mono e⟩, h5⟩
 | map es =>
  obtain ⟨es', clk, h1, h2⟩ := h
  exact ⟨es', clk, h1, h2.mono e⟩
 | iter s p => exact h
theorem BR.there {ρ : Ren} {L : Loc} {B : ABlk} {o : Option Obj} (h : BR ρ L B o) (hs : solid B = true) : o ≠ none := by
 cases B with
 | cells c ro kd =>
  obtain ⟨h1, h2⟩ := h
  rcases h2 with ⟨rfl, rfl⟩ | ⟨c', e', fr, rfl, _⟩
  ·simp [solid] at hs
  ·simp
 | map es => obtain ⟨es', clk, rfl, _⟩ := h; simp
 | iter s p => rw [h.2]; simp
theorem BR.hollow {ρ : Ren} {L : Loc} {B : ABlk} {o o' : Option Obj} (h : BR ρ L B o) (hs : solid B = false) : BR ρ L B o' := by
 cases B with
 | cells c ro kd =>
  cases c with
  | nil => cases ro with
   | true => exact ⟨h.1, .inl ⟨rfl, rfl⟩⟩
   | false => simp [solid] at hs
  | cons => simp [solid] at hs
 | map es => simp [solid] at hs
 | iter s p => simp [solid] at hs
theorem mut_solid {B : ABlk} (h : mutB B = true) : solid B = true := by
 cases B with
 | cells c ro kd => cases ro with
  | true => simp [mutB] at h
  | false => cases c <;> rfl
 | map es => rfl
 | iter s p => rfl
def Live (ρ : Ren) (A : AW) (k : Nat) : Prop := ∃ i L B, ρ i = some L ∧ A.get i = some B ∧ mutB B = true ∧ L.b = k
structure Rel (ρ : Ren) (A : AW) (w : World) : Prop where
 dom : ∀ i L, ρ i = some L → i < A.next
 fresh : ∀ i, A.next ≤ i → A.get i = none
 blk : ∀ i L B, ρ i = some L → A.get i = some B → BR ρ L B w.heap[L.b]?
 sep : ∀ i j L M B C, i ≠ j → ρ i = some L → ρ j = some M → A.get i = some B → A.get j = some C → mutB B = true → solid C = true → L.b ≠ M.b
theorem Rel.lt {ρ : Ren} {A : AW} {w : World} (h : Rel ρ A w) {i : Nat} {L : Loc} {B : ABlk} (h1 : ρ i = some L) (h2 : A.get i = some B) (hs : solid B = true) : L.b < w.heap.size := by
 have := (h.blk i L B h1 h2).there hs
 rcases Nat.lt_or_ge L.b w.heap.size with h' | h'
 ·exact h'
 ·exact absurd (Array.getElem?_eq_none h') this
theorem Rel.of_heap {ρ : Ren} {A : AW} {w w1 : World} (h : Rel ρ A w) (e : w1.heap = w.heap) : Rel ρ A w1 :=
 ⟨h.dom, h.fresh, fun i L B h1 h2 => by rw [e]; exact h.blk i L B h1 h2, h.sep⟩
theorem Rel.empty (w : World) : Rel (fun _ => none) AW.empty w where
 dom := fun i L h => by cases h
 fresh := fun i _ => rfl
 blk := fun i L B h => by cases h
 sep := fun i j L M B C _ h => by cases h
structure Fr (ρ : Ren) (A : AW) (w : World) (ρ1 : Ren) (A1 : AW) (w1 : World) : Prop where
 ren : ∀ i, i < A.next → ρ1 i = ρ i
 next : A.next ≤ A1.next
 os : w1.os = w.os
 tape : w1.tape = w.tape
 output : w1.output = w.output
 size : w.heap.size ≤ w1.heap.size
 keep : ∀ k, k < w.heap.size → ¬ Live ρ A k → w1.heap[k]? = w.heap[k]? ∧ ¬ Live ρ1 A1 k
theorem Fr.refl (ρ : Ren) (A : AW) (w : World) : Fr ρ A w ρ A w := ⟨fun _ _ => rfl, Nat.le_refl _, rfl, rfl, rfl, Nat.le_refl _, fun _ _ h => ⟨rfl, h⟩⟩
theorem Fr.trans {ρ ρ1 ρ2 : Ren} {A A1 A2 : AW} {w w1 w2 : World} (h : Fr ρ A w ρ1 A1 w1) (k : Fr ρ1 A1 w1 ρ2 A2 w2) : Fr ρ A w ρ2 A2 w2 :=
  ⟨fun i hi => (k.ren i (Nat.lt_of_lt_of_le hi h.next)).trans (h.ren i hi), Nat.le_trans h.next k.next, k.os.trans h.os, k.tape.trans h.tape, k.output.trans h.output, Nat.le_trans h.size k.size,
   fun j hj hl => by
    obtain ⟨a1, a2⟩ := h.keep j hj hl
    obtain ⟨b1, b2⟩ := k.keep j (Nat.lt_of_lt_of_le hj h.size) a2
    exact ⟨b1.trans a1, b2⟩⟩
theorem Fr.ext {ρ ρ1 : Ren} {A A1 : AW} {w w1 : World} (h : Fr ρ A w ρ1 A1 w1) (hr : Rel ρ A w) : Ext ρ ρ1 := fun i L e => (h.ren i (hr.dom i L e)).trans e
theorem Rel.change {ρ : Ren} {A : AW} {w w1 : World} (h : Rel ρ A w) {i : Nat} {L : Loc} {B : ABlk} (h1 : ρ i = some L) (h2 : A.get i = some B) (hm : mutB B = true)
  (B1 : ABlk) (hm1 : mutB B1 = true) (hsz : w1.heap.size = w.heap.size) (hk : ∀ k, k ≠ L.b → w1.heap[k]? = w.heap[k]?) (hB : BR ρ L B1 w1.heap[L.b]?)
  (e1 : w1.os = w.os) (e2 : w1.tape = w.tape) (e3 : w1.output = w.output) : Rel ρ (A.put i (some B1)) w1 ∧ Fr ρ A w ρ (A.put i (some B1)) w1 := by
 have hi := h.dom i L h1
 refine ⟨⟨h.dom, fun j hj => ?_, fun j M C h3 h4 => ?_, fun j l M N C D hjl h3 h4 h5 h6 hc hd => ?_⟩, ⟨fun _ _ => rfl, Nat.le_refl _, e1, e2, e3, Nat.le_of_eq hsz.symm, fun k hk1 hl => ?_⟩⟩
 ·simp only [AW.next_put] at hj
  rw [AW.get_put, if_neg (by omega)]
  exact h.fresh j hj
 ·rw [AW.get_put] at h4
  by_cases e : j = i
  ·subst e
   rw [if_pos rfl] at h4
   cases h4
   rw [h1] at h3
   cases h3
   exact hB
  ·rw [if_neg e] at h4
   cases hs : solid C with
   | true =>
    have := h.sep i j L M B C (Ne.symm e) h1 h3 h2 h4 hm hs
    rw [hk _ (Ne.symm this)]
    exact h.blk j M C h3 h4
   | false => exact (h.blk j M C h3 h4).hollow hs
 ·rw [AW.get_put] at h5 h6
  by_cases ej : j = i
  ·subst ej
   rw [if_neg (Ne.symm hjl)] at h6
   rw [h1] at h3
   cases h3
   exact h.sep j l L N B D hjl h1 h4 h2 h6 hm hd
  ·rw [if_neg ej] at h5
   by_cases el : l = i
   ·subst el
    rw [h1] at h4
    cases h4
    exact h.sep j l M L C B hjl h3 h1 h5 h2 hc (mut_solid hm)
   ·rw [if_neg el] at h6
    exact h.sep j l M N C D hjl h3 h4 h5 h6 hc hd
 ·refine ⟨hk k fun e => hl ⟨i, L, B, h1, h2, hm, e.symm⟩, fun ⟨j, M, C, h3, h4, h5, h6⟩ => ?_⟩
  rw [AW.get_put] at h4
  by_cases e : j = i
  ·subst e
   rw [h1] at h3
   cases h3
   exact hl ⟨j, L, B, h1, h2, hm, h6⟩
  ·rw [if_neg e] at h4
   exact hl ⟨j, M, C, h3, h4, h5, h6⟩
theorem Rel.kill {ρ : Ren} {A : AW} {w : World} (h : Rel ρ A w) (i : Nat) : Rel ρ (A.put i none) w ∧ Fr ρ A w ρ (A.put i none) w := by
 have hg : ∀ j C, (A.put i none).get j = some C → A.get j = some C := fun j C e => by
  rw [AW.get_put] at e
  split at e
  ·cases e
  ·exact e
 refine ⟨⟨h.dom, fun j hj => ?_, fun j M C h3 h4 => h.blk j M C h3 (hg _ _ h4), fun j l M N C D hjl h3 h4 h5 h6 hc hd => h.sep j l M N C D hjl h3 h4 (hg _ _ h5) (hg _ _ h6) hc hd⟩, ⟨fun _ _ => rfl, Nat.le_refl _, rfl, rfl, rfl, Nat.le_refl _, fun k hk1 hl => ⟨rfl, fun ⟨j, M, C, h3, h4, h5, h6⟩ => hl ⟨j, M, C, h3, hg _ _ h4, h5, h6⟩⟩⟩⟩
 rw [AW.get_put]
 split
 ·rfl
 ·exact h.fresh j hj
def Ren.up (ρ : Ren) (i : Nat) (L : Loc) : Ren := fun j => if j = i then some L else ρ j
theorem Rel.up_ext {ρ : Ren} {A : AW} {w : World} (h : Rel ρ A w) (L : Loc) : Ext ρ (ρ.up A.next L) := fun i M e => by
 unfold Ren.up
 rw [if_neg (Nat.ne_of_lt (h.dom i M e))]
 exact e
theorem Rel.add {ρ : Ren} {A : AW} {w w1 : World} (h : Rel ρ A w) (L : Loc) (B : ABlk) (hsz : w.heap.size ≤ w1.heap.size) (hk : ∀ k, k < w.heap.size → w1.heap[k]? = w.heap[k]?)
  (hB : BR (ρ.up A.next L) L B w1.heap[L.b]?) (hm : mutB B = true → w.heap.size ≤ L.b) (hr : mutB B = false → solid B = true → ∀ j M C, ρ j = some M → A.get j = some C → mutB C = true → M.b ≠ L.b)
  (e1 : w1.os = w.os) (e2 : w1.tape = w.tape) (e3 : w1.output = w.output) : Rel (ρ.up A.next L) (A.add B) w1 ∧ Fr ρ A w (ρ.up A.next L) (A.add B) w1 := by
 have hx := h.up_ext L
 have hnew : ∀ j M, (ρ.up A.next L) j = some M → j = A.next ∧ M = L ∨ j ≠ A.next ∧ ρ j = some M := fun j M e => by
  unfold Ren.up at e
  split at e
  ·rename_i hj; cases e; exact .inl ⟨hj, rfl⟩
  ·rename_i hj; exact .inr ⟨hj, e⟩
 have hg : ∀ j C, (A.add B).get j = some C → j = A.next ∧ C = B ∨ j ≠ A.next ∧ A.get j = some C := fun j C e => by
  rw [AW.get_add] at e
  split at e
  ·rename_i hj; cases e; exact .inl ⟨hj, rfl⟩
  ·rename_i hj; exact .inr ⟨hj, e⟩
 refine ⟨⟨fun j M e => ?_, fun j hj => ?_, fun j M C h3 h4 => ?_, fun j l M N C D hjl h3 h4 h5 h6 hc hd => ?_⟩, ⟨fun j hj => ?_, by simp, e1, e2, e3, hsz, fun k hk1 hl => ⟨hk k hk1, ?_⟩⟩⟩
 ·rcases hnew j M e with ⟨rfl, _⟩ | ⟨_, e⟩
  ·simp
  ·have := h.dom j M e; simp; omega
 ·simp only [AW.next_add] at hj
  rw [AW.get_add, if_neg (by omega)]
  exact h.fresh j (by omega)
 ·rcases hnew j M h3 with ⟨rfl, rfl⟩ | ⟨hj, h3⟩
  ·rcases hg _ C h4 with ⟨_, rfl⟩ | ⟨hj, _⟩
   ·exact hB
   ·exact absurd rfl hj
  ·rcases hg j C h4 with ⟨e, _⟩ | ⟨_, h4⟩
   ·exact absurd e hj
   ·cases hs : solid C with
    | true => rw [hk _ (h.lt h3 h4 hs)]; exact (h.blk j M C h3 h4).mono hx
    | false => exact ((h.blk j M C h3 h4).mono hx).hollow hs
 ·rcases hnew j M h3 with ⟨e1, e2⟩ | ⟨hj, h3'⟩
  ·rcases hg _ C h5 with ⟨_, e3⟩ | ⟨e, _⟩
   ·rcases hnew l N h4 with ⟨e4, _⟩ | ⟨hl, h4'⟩
    ·exact absurd (e1.trans e4.symm) hjl
    ·rcases hg l D h6 with ⟨e, _⟩ | ⟨_, h6'⟩
     ·exact absurd e hl
     ·have h8 := h.lt h4' h6' hd
      have h9 := hm (e3 ▸ hc)
      rw [e2]
      omega
   ·exact absurd e1 e
  ·rcases hg j C h5 with ⟨e, _⟩ | ⟨_, h5'⟩
   ·exact absurd e hj
   ·rcases hnew l N h4 with ⟨e1, e2⟩ | ⟨hl, h4'⟩
    ·rcases hg _ D h6 with ⟨_, e3⟩ | ⟨e, _⟩
     ·have h7 := h.lt h3' h5' (mut_solid hc)
      rw [e2]
      cases hmd : mutB B with
      | true => have := hm hmd; omega
      | false => exact hr hmd (e3 ▸ hd) j M C h3' h5' hc
     ·exact absurd e1 e
    ·rcases hg l D h6 with ⟨e, _⟩ | ⟨_, h6'⟩
     ·exact absurd e hl
     ·exact h.sep j l M N C D hjl h3' h4' h5' h6' hc hd
 ·unfold Ren.up
  rw [if_neg (Nat.ne_of_lt hj)]
 ·rintro ⟨j, M, C, h3, h4, h5, h6⟩
  rcases hnew j M h3 with ⟨rfl, rfl⟩ | ⟨hj, h3⟩
  ·rcases hg _ C h4 with ⟨_, rfl⟩ | ⟨e, _⟩
   ·have := hm h5; omega
   ·exact absurd rfl e
  ·rcases hg j C h4 with ⟨e, _⟩ | ⟨_, h4⟩
   ·exact absurd e hj
   ·exact hl ⟨j, M, C, h3, h4, h5, h6⟩
def PR (ρ : Ren) (a a' : Addr) : Prop := ∃ L, ρ a.block = some L ∧ a.spot = none ∧ a' = ⟨L.b, L.o + a.off, none⟩
theorem PR.mono {ρ ρ1 : Ren} (e : Ext ρ ρ1) {a a' : Addr} (h : PR ρ a a') : PR ρ1 a a' := by
 obtain ⟨L, h1, h2, h3⟩ := h
 exact ⟨L, e _ _ h1, h2, h3⟩
theorem PR.add {ρ : Ren} {a a' : Addr} (h : PR ρ a a') (n : Nat) : PR ρ (a.add n) (a'.add n) := by
 obtain ⟨L, h1, h2, rfl⟩ := h
 by_cases hn : n = 0
 ·subst hn
  exact ⟨L, by simpa [Addr.add] using h1, by simpa [Addr.add] using h2, by simp [Addr.add]⟩
 ·exact ⟨L, by simpa [Addr.add, hn] using h1, by simp [Addr.add, hn], by simp [Addr.add, hn, Nat.add_assoc]⟩
theorem VR.ptrP {ρ : Ren} {a a' : Addr} (h : PR ρ a a') : VR ρ (.pointer (some a)) (.pointer (some a')) := by
 obtain ⟨L, h1, h2, rfl⟩ := h
 obtain ⟨b, o, s⟩ := a
 simp only at h1 h2
 subst h2
 exact .ptr h1
theorem VR.isU32 {ρ : Ren} {v v' : Value} (h : VR ρ v v') : isU32 v' = isU32 v := by cases h <;> rfl
theorem VR.isAgg {ρ : Ren} {v v' : Value} (h : VR ρ v v') : isAggT v' = isAggT v := by cases h <;> rfl
theorem Rel.cell {ρ : Ren} {A : AW} {w : World} (h : Rel ρ A w) {a a' : Addr} (ha : PR ρ a a') {v : Value} (e : A.cell? a = some v) : ∃ v', w.cell? a' = some v' ∧ VR ρ v v' := by
 obtain ⟨L, h1, h2, rfl⟩ := ha
 unfold AW.cell? at e
 rw [h2] at e
 cases hB : A.get a.block with
 | none => rw [hB] at e; cases e
 | some B =>
  rw [hB] at e
  cases B with
  | cells c ro kd =>
   simp only at e
   rcases (h.blk _ L _ h1 hB).2 with ⟨rfl, _⟩ | ⟨c', e', fr, hh, hc, _⟩
   ·simp at e
   ·obtain ⟨v', hv', hr⟩ := hc _ _ e
    refine ⟨v', ?_, hr⟩
    unfold World.cell?
    simp only [hh, Option.isSome_none, Bool.false_eq_true, if_false]
    exact hv'
  | map es => cases e
  | iter s p => cases e
theorem Rel.store {ρ : Ren} {A A1 : AW} {w : World} (h : Rel ρ A w) {a a' : Addr} (ha : PR ρ a a') {v v' : Value} (hv : VR ρ v v') (e : A.setCell a v = some A1) :
    (w.cell? a').isSome = true ∧ w.frozen? a' = false ∧ isAggT v' = false ∧ Rel ρ A1 (w.setCell a' v') ∧ Fr ρ A w ρ A1 (w.setCell a' v') := by
  obtain ⟨L, h1, h2, rfl⟩ := ha
  unfold AW.setCell at e
  rw [h2] at e
  cases hB : A.get a.block with
  | none => rw [hB] at e; cases e
  | some B =>
    rw [hB] at e
    cases B with
    | cells c ro kd =>
      cases ro with
      | true => cases e
      | false =>
        cases hu : (Go.Proofs.YtpegcppeobndcaaGreatDoor.Abs.isU32 v || isAggT v) with
        | true => rw [hu] at e; cases e
        | false =>
          rw [hu] at e
          simp only at e
          split at e
          · rename_i hlt
            cases e
            simp only [Bool.or_eq_false_iff] at hu
            have hb := h.blk _ L _ h1 hB
            obtain ⟨hkd, hb⟩ := hb
            rcases hb with ⟨_, hf⟩ | ⟨c', e', fr, hh, hc, hmu⟩
            · cases hf
            · obtain ⟨m1, m2, m3, m4⟩ := hmu rfl
              have hin : L.o + a.off < c'.size := by omega
              have hheap : (w.setCell ⟨L.b, L.o + a.off, none⟩ v').heap[L.b]? = some (.cells (c'.setIfInBounds (L.o + a.off) v') e' fr) := by
                simp [World.setCell, Array.getElem?_modify, hh]
              refine ⟨?_, ?_, by rw [hv.isAgg]; exact hu.2, ?_⟩
              · unfold World.cell?
                simp [hh, hin]
              · unfold World.frozen?
                simp only [hh]
                rcases m2 with m2 | m2 <;> simp <;> omega
              · refine h.change h1 hB rfl _ rfl (by simp [World.setCell]) (fun k hk => by simp [World.setCell, Array.getElem?_modify, Ne.symm hk]) ?_ rfl rfl rfl
                refine ⟨hkd, .inr ⟨_, e', fr, hheap, fun j u hj => ?_, fun _ => ⟨?_, ?_, ?_, ?_⟩⟩⟩
                · rw [List.getElem?_set] at hj
                  by_cases ej : a.off = j
                  · rw [if_pos ej, if_pos (by omega)] at hj
                    cases hj
                    refine ⟨v', ?_, hv⟩
                    rw [← ej, Array.getElem?_setIfInBounds_self_of_lt hin]
                  · rw [if_neg ej] at hj
                    obtain ⟨u', hu', hr⟩ := hc j u hj
                    exact ⟨u', by rw [Array.getElem?_setIfInBounds_ne (by omega)]; exact hu', hr⟩
                · simpa using m1
                · simpa using m2
                · simpa using m3
                · intro (j : Nat) u hj
                  rw [Array.getElem?_setIfInBounds] at hj
                  split at hj
                  · first
                    | (cases hj; rw [hv.isU32]; exact hu.1)
                    | (split at hj
                       · cases hj; rw [hv.isU32]; exact hu.1
                       · cases hj)
                  · exact m4 j u hj
          · cases e
    | map es => cases e
    | iter s p => cases e
def Sim (P : Program) {α β : Type} (R : Ren → α → β → Prop) (ρ : Ren) (s : Sem α) (s' : Sem β) : Prop :=
 ∀ ρ1 A w x A1, Ext ρ ρ1 → Rel ρ1 A w → runA P s A = some (x, A1) → ∃ ρ2 x' w1, s'.run P w = .ok x' w1 ∧ Rel ρ2 A1 w1 ∧ Fr ρ1 A w ρ2 A1 w1 ∧ R ρ2 x x'
theorem runA_bind {P : Program} {α β : Type} (s : Sem α) (f : α → Sem β) (A : AW) : runA P (s.bind f) A = match runA P s A with
  | some (x, A) => runA P (f x) A
  | none => none := by
 induction s generalizing A with
 | pure a => rfl
 | load m a k ih => simp only [Sem.bind, runA]; cases A.cell? a <;> simp [ih]
 | store m a v k ih => simp only [Sem.bind, runA]; cases A.setCell a v <;> simp [ih]
 | new o k ih =>
  simp only [Sem.bind, runA]
  split
  ·split
   ·simp [ih]
   ·rfl
  ·simp [ih]
  ·simp [ih]
  ·rfl
 | getObj r k ih =>
  simp only [Sem.bind, runA]
  split
  ·simp [ih]
  ·rfl
 | setObj r o k ih =>
  simp only [Sem.bind, runA]
  split
  ·simp [ih]
  ·rfl
 | choose q k ih => simp only [Sem.bind, runA]; split <;> simp [ih]
 | program k ih => simp only [Sem.bind, runA, ih]
 | mark m k ih => simp only [Sem.bind, runA, ih]
 | _ => rfl
theorem Sim.bind {P : Program} {α β γ δ : Type} {R : Ren → α → β → Prop} {R2 : Ren → γ → δ → Prop} {ρ : Ren} {s : Sem α} {s' : Sem β} {f : α → Sem γ} {f' : β → Sem δ}
  (h : Sim P R ρ s s') (k : ∀ ρ1 x x', Ext ρ ρ1 → R ρ1 x x' → Sim P R2 ρ1 (f x) (f' x')) : Sim P R2 ρ (s >>= f) (s' >>= f') := by
 intro ρ1 A w y A2 hx hr he
 change runA P (s.bind f) A = _ at he
 rw [runA_bind] at he
 cases hs : runA P s A with
 | none => rw [hs] at he; cases he
 | some p =>
  obtain ⟨x, A1⟩ := p
  rw [hs] at he
  simp only at he
  obtain ⟨ρ2, x', w1, h1, h2, h3, h4⟩ := h ρ1 A w x A1 hx hr hs
  have hx2 : Ext ρ ρ2 := hx.trans (h3.ext hr)
  obtain ⟨ρ3, y', w2, k1, k2, k3, k4⟩ := k ρ2 x x' hx2 h4 ρ2 A1 w1 y A2 (Ext.refl _) h2 he
  refine ⟨ρ3, y', w2, ?_, k2, h3.trans k3, k4⟩
  change (s'.bind f').run P w = _
  rw [Sem.run_bind' P s' f' w, h1]
  exact k1
theorem Sim.ret {P : Program} {α β : Type} {R : Ren → α → β → Prop} {ρ : Ren} {x : α} {x' : β} (h : ∀ ρ1, Ext ρ ρ1 → R ρ1 x x') : Sim P R ρ (pure x) (pure x') := by
 intro ρ1 A w y A1 hx hr he
 cases he
 exact ⟨ρ1, x', w, rfl, hr, Fr.refl _ _ _, h _ hx⟩
theorem Sim.vain {P : Program} {α β : Type} {R : Ren → α → β → Prop} {ρ : Ren} {s : Sem α} {s' : Sem β} (h : ∀ A, runA P s A = none) : Sim P R ρ s s' := by
 intro ρ1 A w y A1 hx hr he
 rw [h] at he
 cases he
theorem Sim.mono {P : Program} {α β : Type} {R R2 : Ren → α → β → Prop} {ρ : Ren} {s : Sem α} {s' : Sem β} (h : Sim P R ρ s s') (k : ∀ ρ1 x x', Ext ρ ρ1 → R ρ1 x x' → R2 ρ1 x x') : Sim P R2 ρ s s' := by
 intro ρ1 A w x A1 hx hr he
 obtain ⟨ρ2, x', w1, h1, h2, h3, h4⟩ := h ρ1 A w x A1 hx hr he
 exact ⟨ρ2, x', w1, h1, h2, h3, k _ _ _ (hx.trans (h3.ext hr)) h4⟩
def REq {α : Type} : Ren → α → α → Prop := fun _ x y => x = y
def RAny {α β : Type} : Ren → α → β → Prop := fun _ _ _ => True
theorem Sim.load {P : Program} {ρ : Ren} {a a' : Addr} (h : PR ρ a a') : Sim P VR ρ (load a) (load a') := by
 intro ρ1 A w y A1 hx hr he
 simp only [Go.load, runA] at he
 cases hc : A.cell? a with
 | none => rw [hc] at he; cases he
 | some v =>
  rw [hc] at he
  cases he
  obtain ⟨v', h1, h2⟩ := hr.cell (h.mono hx) hc
  refine ⟨ρ1, v', w, ?_, hr, Fr.refl _ _ _, h2⟩
  simp [Go.load, Sem.run, h1]
theorem Sim.store {P : Program} {ρ : Ren} {a a' : Addr} {v v' : Value} (h : PR ρ a a') (hv : VR ρ v v') : Sim P RAny ρ (store a v) (store a' v') := by
 intro ρ1 A w y A1 hx hr he
 simp only [Go.store, runA] at he
 cases hc : A.setCell a v with
 | none => rw [hc] at he; cases he
 | some A2 =>
  rw [hc] at he
  cases he
  obtain ⟨h1, h2, h3, h4, h5⟩ := hr.store (h.mono hx) (hv.mono hx) hc
  refine ⟨ρ1, (), w.setCell a' v', ?_, h4, h5, trivial⟩
  obtain ⟨u, hu⟩ := Option.isSome_iff_exists.1 h1
  cases v' <;> simp [isAggT] at h3 <;> simp [Go.store, Sem.run, hu, h2]
structure Good (P : Program) : Prop where
 zeros : ∀ (t : Nat) (i : TypeInfo) (z : Value), P.types[t]? = some i → i.zero = some z → plainV 20 z = true
 mixed : P.follows .mixedOrders = true
 names : ∀ (f : Nat) (fn : Func), P.funcs[f]? = some fn → (fn.name == "runtime.NumGoroutine") = false
def Pu (P : Program) {α : Type} (s : Sem α) : Prop := (∃ x, (∀ w, s.run P w = .ok x w) ∧ ∀ A, runA P s A = some (x, A)) ∨ ∀ A, runA P s A = none
theorem pu_sim {P : Program} {α : Type} {s : Sem α} {ρ : Ren} (h : Pu P s) : Sim P REq ρ s s := by
 rcases h with ⟨x, h1, h2⟩ | h
 ·intro ρ1 A w y A1 hx hr he
  rw [h2] at he
  cases he
  exact ⟨ρ1, x, w, h1 w, hr, Fr.refl _ _ _, rfl⟩
 ·exact Sim.vain h
theorem pu_ret {P : Program} {α : Type} (x : α) : Pu P (pure x : Sem α) := .inl ⟨x, fun _ => rfl, fun _ => rfl⟩
theorem pu_halt {P : Program} {α : Type} (h : Halt) : Pu P (Sem.halt h : Sem α) := .inr fun _ => rfl
theorem pu_bind {P : Program} {α β : Type} {s : Sem α} {f : α → Sem β} (h : Pu P s) (k : ∀ x, Pu P (f x)) : Pu P (s >>= f) := by
 rcases h with ⟨x, h1, h2⟩ | h
 ·rcases k x with ⟨y, h3, h4⟩ | h3
  ·refine .inl ⟨y, fun w => ?_, fun A => ?_⟩
   ·change (s.bind f).run P w = _
    rw [Sem.run_bind' P s f w, h1]
    exact h3 w
   ·change runA P (s.bind f) A = _
    rw [runA_bind, h2]
    exact h4 A
  ·refine .inr fun A => ?_
   change runA P (s.bind f) A = _
   rw [runA_bind, h2]
   exact h3 A
 ·refine .inr fun A => ?_
  change runA P (s.bind f) A = _
  rw [runA_bind, h]
theorem pu_program {P : Program} {α : Type} {f : Program → Sem α} (h : Pu P (f P)) : Pu P (program >>= f) := by
 rcases h with ⟨y, h3, h4⟩ | h3
 ·exact .inl ⟨y, fun w => h3 w, fun A => h4 A⟩
 ·exact .inr fun A => h3 A
theorem pu_typeInfo {P : Program} (t : TypeId) : Pu P (typeInfo t) := by
 refine pu_program ?_
 cases P.info? t
 ·exact pu_halt _
 ·exact pu_ret _
theorem pu_underlying {P : Program} (t : TypeId) : Pu P (underlying t) := by
 refine pu_program ?_
 cases P.underlying t
 ·exact pu_halt _
 ·exact pu_ret _
theorem pu_sizeOf {P : Program} (t : TypeId) : Pu P (Go.sizeOf t) := pu_bind (pu_typeInfo t) fun i => pu_ret _
theorem pu_isAgg {P : Program} (t : TypeId) : Pu P (isAgg t) := pu_bind (pu_underlying t) fun d => by cases d <;> exact pu_ret _
theorem pu_asIntOf {P : Program} (v : Value) : Pu P (asIntOf v) := by
 unfold asIntOf
 split
 ·exact pu_ret _
 ·exact pu_halt _
 ·exact pu_halt _
theorem runA_bind_none {P : Program} {α β : Type} {s : Sem α} {f : α → Sem β} (h : ∀ x A, runA P (f x) A = none) (A : AW) : runA P (s >>= f) A = none := by
 change runA P (s.bind f) A = _
 rw [runA_bind]
 cases runA P s A with
 | none => rfl
 | some p => exact h _ _
theorem runA_panic {P : Program} {α : Type} (e : RuntimeError) (A : AW) : runA P (runtimePanic e : Sem α) A = none := by
 cases e with
 | typeAssertion i c a m =>
  refine runA_bind_none (fun p A => ?_) A
  exact runA_bind_none (fun x A => runA_bind_none (fun y A => rfl) A) A
 | panicNil =>
  refine runA_bind_none (fun p A => ?_) A
  exact runA_bind_none (fun x A => runA_bind_none (fun y A => rfl) A) A
 | _ => rfl
theorem runA_bounds {P : Program} {α : Type} (k : IntKind) (x y : Int) (c : BoundsCode) (A : AW) : runA P (boundsPanic k x y c : Sem α) A = none :=
 by
 unfold boundsPanic
 dsimp only
 split
 ·exact runA_bind_none (fun x A => runA_panic _ _) A
 ·exact runA_bind_none (fun x A => runA_panic _ _) A
theorem info_own {P : Program} {t : TypeId} (h : (P.types[t]?).isSome = true) : P.info? t = P.types[t]? := by
 have hlt : t < P.types.size := by
  rcases Nat.lt_or_ge t P.types.size with h' | h'
  ·exact h'
  ·rw [Array.getElem?_eq_none h'] at h; cases h
 change Tables.info? P.toTables t = _
 unfold Tables.info?
 rw [if_pos hlt]
theorem s_zero {P : Program} (G : Good P) {ρ : Ren} (t : TypeId) (ht : (P.types[t]?).isSome = true) : Sim P (fun ρ v v' => v = v' ∧ plainV 20 v = true) ρ (zeroValue t) (zeroValue t) := by
 refine Sim.bind (R := fun _ i i' => i = i' ∧ P.info? t = some i) ?_ ?_
 ·intro ρ1 A w y A1 hx hr he
  cases hi : P.info? t with
  | none =>
   have : runA P (typeInfo t) A = none := by
    change runA P (match P.info? t with | some i => Pure.pure i | none => stuck "no such type") A = none
    rw [hi]
    rfl
   rw [this] at he
   cases he
  | some i =>
   have h1 : runA P (typeInfo t) A = some (i, A) := by
    change runA P (match P.info? t with | some i => Pure.pure i | none => stuck "no such type") A = _
    rw [hi]
    rfl
   have h2 : (typeInfo t).run P w = .ok i w := by
    change (match P.info? t with | some i => Pure.pure i | none => stuck "no such type" : Sem TypeInfo).run P w = _
    rw [hi]
    rfl
   rw [h1] at he
   cases he
   exact ⟨ρ1, _, w, h2, hr, Fr.refl _ _ _, rfl, rfl⟩
 ·rintro ρ1 i0 i hx ⟨rfl, hi⟩
  cases hz : i0.zero with
  | none => exact Sim.vain fun _ => rfl
  | some z => exact Sim.ret fun _ _ => ⟨rfl, G.zeros t _ z (by rw [← info_own ht]; exact hi) hz⟩
theorem s_und {P : Program} {ρ : Ren} (t : TypeId) : Sim P (fun _ d d' => d = d' ∧ P.underlying t = some d) ρ (underlying t) (underlying t) := by
 cases hd : P.underlying t with
 | none =>
  refine Sim.vain fun A => ?_
  change runA P (match P.underlying t with | some d => pure d | none => stuck "no such type" : Sem TypeDesc) A = none
  rw [hd]
  rfl
 | some d =>
  intro ρ1 A w y A1 hx hr he
  have h1 : runA P (underlying t) A = some (d, A) := by
   change runA P (match P.underlying t with | some d => pure d | none => stuck "no such type" : Sem TypeDesc) A = _
   rw [hd]
   rfl
  have h2 : (underlying t).run P w = .ok d w := by
   change (match P.underlying t with | some d => pure d | none => stuck "no such type" : Sem TypeDesc).run P w = _
   rw [hd]
   rfl
  rw [h1] at he
  cases he
  exact ⟨ρ1, _, w, h2, hr, Fr.refl _ _ _, rfl, rfl⟩
theorem s_sureAddr {P : Program} {ρ : Ren} {v v' : Value} (h : VR ρ v v') : Sim P PR ρ (Instr.sureAddr v) (Instr.sureAddr v') := by
 cases h with
 | ptr h => exact Sim.ret fun ρ1 e => ⟨_, e _ _ h, rfl, rfl⟩
 | _ => exact Sim.vain fun _ => rfl
theorem AR.push {ρ : Ren} {a a' : Array Value} (h : AR ρ a a') {v v' : Value} (hv : VR ρ v v') : AR ρ (a.push v) (a'.push v') := by
 unfold AR
 rw [Array.toList_push, Array.toList_push]
 exact LR.append h (.cons hv .nil)
theorem s_loadCellsFrom {P : Program} : ∀ (n i : Nat) (ρ : Ren) (a a' : Addr) (acc acc' : Array Value), PR ρ a a' → AR ρ acc acc' → Sim P AR ρ (loadCellsFrom a i n acc) (loadCellsFrom a' i n acc')
 | 0, i, ρ, a, a', acc, acc', h, k => Sim.ret fun ρ1 e => k.mono e
 | n + 1, i, ρ, a, a', acc, acc', h, k => Sim.bind (Sim.load (h.add i)) fun ρ1 v v' e hv => s_loadCellsFrom n (i + 1) ρ1 a a' _ _ (h.mono e) ((k.mono e).push hv)
theorem s_loadCells {P : Program} {ρ : Ren} {a a' : Addr} (h : PR ρ a a') (n : Nat) : Sim P AR ρ (Go.loadCells a n) (Go.loadCells a' n) := s_loadCellsFrom n 0 ρ a a' _ _ h .nil
theorem s_storeCells {P : Program} : ∀ (l l' : List Value) (i : Nat) (ρ : Ren) (a a' : Addr), PR ρ a a' → LR ρ l l' → Sim P RAny ρ (storeCells a l i) (storeCells a' l' i)
 | [], [], i, ρ, a, a', h, k => Sim.ret fun ρ1 e => trivial
 | [], _ :: _, i, ρ, a, a', h, k => by cases k
 | _ :: _, [], i, ρ, a, a', h, k => by cases k
 | v :: l, v' :: l', i, ρ, a, a', h, k => by
  cases k with
  | cons hv hl => exact Sim.bind (Sim.store (h.add i) hv) fun ρ1 _ _ e _ => s_storeCells l l' (i + 1) ρ1 a a' (h.mono e) (hl.mono e)
theorem s_loadVar {P : Program} {ρ : Ren} (t : TypeId) {a a' : Addr} (h : PR ρ a a') : Sim P VR ρ (Go.loadVar t a) (Go.loadVar t a') := by
 refine Sim.bind (pu_sim (pu_isAgg t)) ?_
 rintro ρ1 b _ e rfl
 cases b with
 | true => exact Sim.bind (pu_sim (pu_sizeOf t)) fun ρ2 n _ e2 hn => by cases hn; exact Sim.bind (s_loadCells ((h.mono e).mono e2) n) fun ρ3 c c' e3 hc => Sim.ret fun ρ4 e4 => VR.aggL (hc.mono e4)
 | false => exact Sim.load (h.mono e)
theorem VR.cells {ρ : Ren} {v v' : Value} (h : VR ρ v v') : AR ρ v.cells v'.cells := by
 cases h with
 | agg ha h => exact AR.of ha h
 | bool b => exact .cons (.bool b) .nil
 | int k n => exact .cons (.int k n) .nil
 | string s => exact .cons (.string s) .nil
 | pnil => exact .cons .pnil .nil
 | ptr h => exact .cons (.ptr h) .nil
 | snil => exact .cons .snil .nil
 | sexact l c h hk => exact .cons (.sexact l c h hk) .nil
 | sloose l c c' x h hk hc hr => exact .cons (.sloose l c c' x h hk hc hr) .nil
 | sempty c' x a' h hk => exact .cons (.sempty c' x a' h hk) .nil
 | svoid a' h hk => exact .cons (.svoid a' h hk) .nil
 | mnil => exact .cons .mnil .nil
 | map h => exact .cons (.map h) .nil
 | nilFunc => exact .cons .nilFunc .nil
 | nilIface => exact .cons .nilIface .nil
 | iface t h => exact .cons (.iface t h) .nil
 | func f ha hc h k => exact .cons (.func f ha hc h k) .nil
 | tuple ha h => exact .cons (.tuple ha h) .nil
theorem s_storeVar {P : Program} {ρ : Ren} (t : TypeId) {a a' : Addr} (h : PR ρ a a') {v v' : Value} (hv : VR ρ v v') : Sim P RAny ρ (Go.storeVar t a v) (Go.storeVar t a' v') := by
 refine Sim.bind (pu_sim (pu_sizeOf t)) ?_
 rintro ρ1 n _ e rfl
 have hs := hv.cells.size
 by_cases hn : v.cells.size ≠ n
 ·simp only [if_pos hn]
  exact Sim.vain fun A => rfl
 ·have hn' : ¬ v'.cells.size ≠ n := hs ▸ hn
  simp only [if_neg hn, if_neg hn']
  exact s_storeCells _ _ 0 ρ1 a a' (h.mono e) (hv.cells.mono e)
theorem any_same {ρ : Ren} {l l' : List Value} (h : LR ρ l l') : l'.any isU32 = l.any isU32 := by
 induction h with
 | nil => rfl
 | cons h _ ih => simp only [List.any_cons, h.isU32, ih]
theorem noU_of {ρ : Ren} {l l' : List Value} (h : LR ρ l l') (hu : l.any isU32 = false) : noU l'.toArray := by
 rw [← any_same h] at hu
 intro j v hj
 rw [List.any_eq_false] at hu
 have : v ∈ l' := by
  rw [List.getElem?_toArray] at hj
  exact List.mem_of_getElem? hj
 simpa using hu v this
theorem Rel.row {ρ : Ren} {A : AW} {w : World} (h : Rel ρ A w) {c : List Value} {c' : Array Value} (hc : LR ρ c c'.toList) (elem : TypeId) (kd : Kd) (room : Nat) (hk : ∀ e, kd = .loose e → room ≤ c'.size) :
  ∃ ρ1, ρ1 A.next = some ⟨w.heap.size, 0, kd, room⟩ ∧ Rel ρ1 (A.row c kd) { w with heap := w.heap.push (.cells c' elem (0, 0)) } ∧ Fr ρ A w ρ1 (A.row c kd) { w with heap := w.heap.push (.cells c' elem (0, 0)) } := by
 have hx := h.up_ext ⟨w.heap.size, 0, kd, room⟩
 refine ⟨ρ.up A.next ⟨w.heap.size, 0, kd, room⟩, by simp [Ren.up], ?_⟩
 refine h.add ⟨w.heap.size, 0, kd, room⟩ _ (by simp) (fun k hk => by simp [Array.getElem?_push, Nat.ne_of_lt hk]) ?_ (fun _ => Nat.le_refl _) (fun _ hs j M C h3 h4 h5 => Nat.ne_of_lt (h.lt h3 h4 (mut_solid h5))) rfl rfl rfl
 refine ⟨rfl, .inr ⟨c', elem, (0, 0), by simp, fun j v hj => ?_, fun hro => ⟨?_, .inl (Nat.le_refl _), fun e he => ?_, ?_⟩⟩⟩
 ·obtain ⟨v', h1, h2⟩ := hc.get? hj
  exact ⟨v', by simpa using h1, h2.mono hx⟩
 ·have := hc.length
  simp at this
  simp [this]
 ·have := hk e he
  simpa using this
 ·have := noU_of hc hro
  simpa using this
theorem s_newRow {P : Program} {ρ : Ren} (elem : TypeId) {c c' : Array Value} (h : AR ρ c c') : Sim P (fun ρ a a' => PR ρ a a' ∧ ∃ L, ρ a.block = some L ∧ L.kd = .exact) ρ (newRow elem c) (newRow elem c') := by
 intro ρ1 A w y A1 hx hr he
 have he' : some ((⟨A.next, 0, none⟩ : Addr), A.row c.toList .exact) = some (y, A1) := he
 cases he'
 obtain ⟨ρ2, h1, h2, h3⟩ := hr.row (c := c.toList) (c' := c') (h.mono hx) elem .exact 0 (fun e he => by cases he)
 exact ⟨ρ2, ⟨w.heap.size, 0, none⟩, _, rfl, h2, h3, ⟨_, h1, rfl, by simp⟩, _, h1, rfl⟩
theorem s_newVar {P : Program} {ρ : Ren} (t : TypeId) {v v' : Value} (h : VR ρ v v') : Sim P PR ρ (newVar t v) (newVar t v') :=
 (s_newRow t h.cells).mono fun _ _ _ _ h => h.1
theorem s_alloc {P : Program} (G : Good P) {ρ : Ren} (elem : TypeId) (ht : (P.types[elem]?).isSome = true) : Sim P VR ρ (Instr.alloc elem true (.tuple #[])) (Instr.alloc elem true (.tuple #[])) := by
 refine Sim.bind (s_zero G elem ht) ?_
 rintro ρ1 z _ e ⟨rfl, hz⟩
 exact Sim.bind (s_newVar elem (VR.plain 20 z hz)) fun ρ2 a a' e2 ha => Sim.ret fun ρ3 e3 => VR.ptrP (ha.mono e3)
theorem s_box {P : Program} {ρ : Ren} (elem : TypeId) {v v' : Value} (h : VR ρ v v') : Sim P VR ρ (Instr.box elem v) (Instr.box elem v') :=
 Sim.bind (s_newVar elem h) fun ρ2 a a' e2 ha => Sim.ret fun ρ3 e3 => VR.ptrP (ha.mono e3)
inductive PsR (ρ : Ren) : List (Nat × Value) → List (Nat × Value) → Prop where
 | nil : PsR ρ [] []
 | cons (i : Nat) {v v' : Value} {l l' : List (Nat × Value)} (h : VR ρ v v') (t : PsR ρ l l') : PsR ρ ((i, v) :: l) ((i, v') :: l')
theorem PsR.mono {ρ ρ1 : Ren} (e : Ext ρ ρ1) {l l' : List (Nat × Value)} (h : PsR ρ l l') : PsR ρ1 l l' := by
 induction h with
 | nil => exact .nil
 | cons i h _ ih => exact .cons i (h.mono e) ih
theorem fold_set {ρ : Ren} : ∀ (l l' : List Value) (off n : Nat) (cs cs' : Array Value), LR ρ l l' → AR ρ cs cs' →
  AR ρ ((l.zipIdx n).foldl (fun cs (p : Value × Nat) => cs.setIfInBounds (off + p.2) p.1) cs) ((l'.zipIdx n).foldl (fun cs (p : Value × Nat) => cs.setIfInBounds (off + p.2) p.1) cs')
 | [], _, off, n, cs, cs', h, k => by cases h; exact k
 | v :: l, _, off, n, cs, cs', h, k => by
  cases h with
  | cons hv hl =>
   simp only [List.zipIdx_cons, List.foldl_cons]
   refine fold_set _ _ off (n + 1) _ _ hl ?_
   unfold AR
   rw [Array.toList_setIfInBounds, Array.toList_setIfInBounds]
   exact LR.set k hv _
theorem fill_same {ρ : Ren} (place : Nat → Option (Nat × Nat)) : ∀ (l l' : List (Nat × Value)) (cs cs' : Array Value), PsR ρ l l' → AR ρ cs cs' → ∀ r, Instr.fill place cs l = some r → ∃ r', Instr.fill place cs' l' = some r' ∧ AR ρ r r' := by
 intro l
 induction l with
 | nil =>
  intro l' cs cs' h k r e
  cases h
  cases e
  exact ⟨cs', rfl, k⟩
 | cons p l ih =>
  intro l' cs cs' h k r e
  cases h with
  | cons i hv hl =>
   rename_i v v' l2
   simp only [Instr.fill] at e ⊢
   cases hp : place i with
   | none => rw [hp] at e; cases e
   | some q =>
    obtain ⟨off, size⟩ := q
    rw [hp] at e
    simp only at e ⊢
    have hs := hv.cells.size
    have hs2 := k.size
    split at e
    ·cases e
    ·rename_i hc
     rw [if_neg (by rw [← hs, ← hs2]; exact hc)]
     refine ih l2 _ _ hl ?_ r e
     have := fold_set v.cells.toList v'.cells.toList off 0 cs cs' hv.cells k
     rw [← Array.foldl_toList, ← Array.foldl_toList, Array.toList_zipIdx, Array.toList_zipIdx]
     simpa using this
theorem s_getPlaces {P : Program} (fs : Array Field) : Pu P (fs.mapM fun f => (do pure (f.offset, ← Go.sizeOf f.type) : Sem (Nat × Nat))) := by
 rw [Array.mapM_eq_mapM_toList]
 refine pu_bind ?_ fun x => pu_ret _
 generalize fs.toList = l
 induction l with
 | nil => exact pu_ret _
 | cons f l ih =>
  rw [List.mapM_cons]
  exact pu_bind (pu_bind (pu_sizeOf _) fun n => pu_ret _) fun x => pu_bind ih fun y => pu_ret _
theorem s_build {P : Program} (G : Good P) {ρ : Ren} (t : TypeId) (htt : (P.types[t]?).isSome = true) {ps ps' : Array (Nat × Value)} (h : PsR ρ ps.toList ps'.toList) : Sim P VR ρ (Instr.build t ps) (Instr.build t ps') := by
 refine Sim.bind (s_zero G t htt) ?_
 rintro ρ1 z _ e ⟨rfl, hz⟩
 have hzz := (VR.plain (ρ := ρ1) 20 z hz).cells
 refine Sim.bind (pu_sim (pu_underlying t)) ?_
 rintro ρ2 d _ e2 rfl
 have fin : ∀ (place : Nat → Option (Nat × Nat)) (msg : String) (ρ3 : Ren), Ext ρ2 ρ3 → Sim P VR ρ3
   (match Instr.fill place z.cells ps.toList with | some cells => pure (.agg cells) | _ => stuck msg) (match Instr.fill place z.cells ps'.toList with | some cells => pure (.agg cells) | _ => stuck msg) := by
  intro place msg ρ3 e3
  cases hf : Instr.fill place z.cells ps.toList with
  | none => exact Sim.vain fun _ => rfl
  | some r =>
   obtain ⟨r', h1, h2⟩ := fill_same place _ _ _ _ ((h.mono e).mono (e2.trans e3)) (hzz.mono (e2.trans e3)) r hf
   rw [h1]
   exact Sim.ret fun ρ4 e4 => VR.aggL (h2.mono e4)
 cases d with
 | struct fs =>
  refine Sim.bind (pu_sim (s_getPlaces fs)) ?_
  rintro ρ3 pl _ e3 rfl
  exact fin _ _ ρ3 e3
 | array n el =>
  refine Sim.bind (pu_sim (pu_sizeOf el)) ?_
  rintro ρ3 n _ e3 rfl
  exact fin _ _ ρ3 e3
 | _ => exact Sim.vain fun _ => rfl
theorem runA_first_none {P : Program} {α β : Type} {s : Sem α} {f : α → Sem β} (h : ∀ A, runA P s A = none) (A : AW) : runA P (s >>= f) A = none := by
  change runA P (s.bind f) A = _
  rw [runA_bind, h]
theorem zeros_same {ρ : Ren} {z : Array Value} (h : AR ρ z z) (n : Nat) : AR ρ ((Array.range n).map (z[· % z.size]!)) ((Array.range n).map (z[· % z.size]!)) := by
  refine LR.same fun v hv => ?_
  simp only [Array.toList_map, List.mem_map] at hv
  obtain ⟨k, _, rfl⟩ := hv
  by_cases hz : z.size = 0
  · have : z = #[] := Array.eq_empty_of_size_eq_zero hz
    subst this
    exact .bool false
  · have hlt : k % z.size < z.size := Nat.mod_lt _ (Nat.pos_of_ne_zero hz)
    rw [getElem!_pos z _ hlt]
    exact h.get _ hlt hlt
theorem VR.exactP {ρ : Ren} {a a' : Addr} (h : PR ρ a a' ∧ ∃ L, ρ a.block = some L ∧ L.kd = .exact) (l c : Nat) : VR ρ (.slice (some a) l c) (.slice (some a') l c) := by
  obtain ⟨⟨L, h1, h2, rfl⟩, M, h3, h4⟩ := h
  rw [h1] at h3
  cases h3
  obtain ⟨b, o, s⟩ := a
  simp only at h1 h2
  subst h2
  exact .sexact l c h1 h4
theorem exactMono {ρ ρ1 : Ren} (e : Ext ρ ρ1) {a a' : Addr} (h : PR ρ a a' ∧ ∃ L, ρ a.block = some L ∧ L.kd = .exact) : PR ρ1 a a' ∧ ∃ L, ρ1 a.block = some L ∧ L.kd = .exact :=
  ⟨h.1.mono e, h.2.imp fun L ⟨a, b⟩ => ⟨e _ _ a, b⟩⟩
theorem s_buildSlice {P : Program} (G : Good P) {ρ : Ren} (t : TypeId) (hte : ∀ el, P.underlying t = some (.slice el) → (P.types[el]?).isSome = true) (len : Nat) {ps ps' : Array (Nat × Value)} (h : PsR ρ ps.toList ps'.toList) : Sim P VR ρ (Instr.buildSlice t len ps) (Instr.buildSlice t len ps') := by
  refine Sim.bind (s_und t) ?_
  rintro ρ1 d _ e ⟨rfl, hdd⟩
  cases d with
  | slice elem =>
    refine Sim.bind (pu_sim (pu_sizeOf elem)) ?_
    rintro ρ2 size _ e2 rfl
    by_cases hl : len * size > 2 ^ 24
    · simp only [if_pos hl]
      exact Sim.vain fun _ => rfl
    · simp only [if_neg hl]
      have fin : ∀ (ρ3 : Ren) (z : Array Value), Ext ρ2 ρ3 → AR ρ3 z z → Sim P VR ρ3
          (match Instr.fill (fun i => some (i * size, size)) ((Array.range (len * size)).map (z[· % z.size]!)) ps.toList with | some cells => (do pure (.slice (some (← newRow elem cells)) len len) : Sem Value) | _ => stuck "buildSlice: a part of the wrong size")
          (match Instr.fill (fun i => some (i * size, size)) ((Array.range (len * size)).map (z[· % z.size]!)) ps'.toList with | some cells => (do pure (.slice (some (← newRow elem cells)) len len) : Sem Value) | _ => stuck "buildSlice: a part of the wrong size") := by
        intro ρ3 z e3 hz
        cases hf : Instr.fill (fun i => some (i * size, size)) ((Array.range (len * size)).map (z[· % z.size]!)) ps.toList with
        | none => exact Sim.vain fun _ => rfl
        | some r =>
          obtain ⟨r', h4, h5⟩ := fill_same _ _ _ _ _ (h.mono ((e.trans e2).trans e3)) (zeros_same hz _) r hf
          rw [h4]
          exact Sim.bind (s_newRow elem h5) fun ρ4 a a' e4 ha => Sim.ret fun ρ5 e5 => VR.exactP (exactMono e5 ha) _ _
      by_cases hn : len * size = 0
      · simp only [if_pos hn]
        exact fin ρ2 #[] (Ext.refl _) .nil
      · simp only [if_neg hn]
        refine Sim.bind (s_zero G elem (hte elem hdd)) ?_
        rintro ρ3 z _ e3 ⟨rfl, hz⟩
        exact fin ρ3 _ e3 (VR.plain 20 z hz).cells
  | _ => exact Sim.vain fun _ => rfl
theorem s_asInt {P : Program} {ρ : Ren} {v v' : Value} (h : VR ρ v v') : Sim P REq ρ (asInt v) (asInt v') := by
  cases h with
  | int k n => exact Sim.ret fun _ _ => rfl
  | _ => exact Sim.vain fun _ => rfl
theorem s_asIntOf {P : Program} {ρ : Ren} {v v' : Value} (h : VR ρ v v') : Sim P REq ρ (asIntOf v) (asIntOf v') := by
  cases h with
  | int k n => exact Sim.ret fun _ _ => rfl
  | _ => exact Sim.vain fun _ => rfl
theorem s_makeSlice {P : Program} (G : Good P) {ρ : Ren} (t : TypeId) (hte : ∀ el, P.underlying t = some (.slice el) → (P.types[el]?).isSome = true) {l l' c c' : Value} (hl : VR ρ l l') (hc : VR ρ c c') : Sim P VR ρ (Instr.makeSlice t l c) (Instr.makeSlice t l' c') := by
  refine Sim.bind (s_und t) ?_
  rintro ρ1 d _ e ⟨rfl, hdd⟩
  cases d with
  | slice elem =>
    refine Sim.bind (s_asInt (hl.mono e)) ?_
    rintro ρ2 n _ e2 rfl
    refine Sim.bind (s_asInt (hc.mono (e.trans e2))) ?_
    rintro ρ3 m _ e3 rfl
    refine Sim.bind (pu_sim (pu_typeInfo elem)) ?_
    rintro ρ4 i _ e4 rfl
    have fin : ∀ (ρ3 : Ren) (z : Array Value) (n k l : Nat), AR ρ3 z z → Sim P VR ρ3
        (do let a ← newRow elem ((Array.range n).map (z[· % z.size]!)); pure (.slice (some a) k l)) (do let a ← newRow elem ((Array.range n).map (z[· % z.size]!)); pure (.slice (some a) k l)) :=
      fun ρ3 z n k l hz => Sim.bind (s_newRow elem (zeros_same hz _)) fun ρ8 a a' e8 ha => Sim.ret fun ρ9 e9 => VR.exactP (exactMono e9 ha) _ _
    dsimp only
    split
    · split
      · exact Sim.vain fun A => runA_first_none (fun A => runA_panic _ A) A
      · split
        · exact Sim.vain fun A => runA_first_none (fun A => runA_panic _ A) A
        · exact Sim.vain fun A => runA_first_none (s := choose _) (fun A => rfl) A
    · refine Sim.bind (R := REq) ?_ ?_
      · unfold askRoom
        split
        · intro ρ5 A w y A1 hx hr he
          cases he
          exact ⟨ρ5, (), w, rfl, hr, Fr.refl _ _ _, rfl⟩
        · exact Sim.ret fun _ _ => rfl
      rintro ρ5 u _ e5 rfl
      refine Sim.bind (pu_sim (pu_sizeOf elem)) ?_
      rintro ρ6 size _ e6 rfl
      split
      · exact fin ρ6 #[] _ _ _ .nil
      · refine Sim.bind (s_zero G elem (hte elem hdd)) ?_
        rintro ρ7 z _ e7 ⟨rfl, hz⟩
        exact fin ρ7 _ _ _ _ (VR.plain 20 z hz).cells
  | _ => exact Sim.vain fun _ => rfl
theorem s_makeMap {P : Program} {ρ : Ren} (t : TypeId) : Sim P VR ρ (Instr.makeMap t none) (Instr.makeMap t none) := by
  intro ρ1 A w y A1 hx hr he
  have he' : some ((Value.map (some A.next)), A.add (.map [])) = some (y, A1) := he
  cases he'
  have hx2 := hr.up_ext ⟨w.heap.size, 0, .exact, 0⟩
  obtain ⟨h1, h2⟩ := hr.add (w1 := { w with heap := w.heap.push (.map #[] 0) }) ⟨w.heap.size, 0, .exact, 0⟩ (.map []) (by simp) (fun k hk => by simp [Array.getElem?_push, Nat.ne_of_lt hk])
    ⟨#[], 0, by simp, [], .nil, .nil⟩ (fun _ => Nat.le_refl _) (fun h => by cases h) rfl rfl rfl
  exact ⟨_, .map (some w.heap.size), _, rfl, h1, h2, .map (L := ⟨w.heap.size, 0, .exact, 0⟩) (by simp [Ren.up])⟩
theorem s_part {P : Program} {ρ : Ren} (t : TypeId) {cs cs' : Array Value} (h : AR ρ cs cs') (off : Nat) : Sim P VR ρ (part t cs off) (part t cs' off) := by
  refine Sim.bind (pu_sim (pu_isAgg t)) ?_
  rintro ρ1 b _ e rfl
  cases b with
  | true =>
    refine Sim.bind (pu_sim (pu_sizeOf t)) ?_
    rintro ρ2 n _ e2 rfl
    refine Sim.ret fun ρ3 e3 => VR.aggL ?_
    unfold AR
    rw [Array.toList_extract, Array.toList_extract, List.extract_eq_take_drop, List.extract_eq_take_drop]
    exact (((h.mono e).mono e2).mono e3).drop _ |>.take _
  | false =>
    simp only [Bool.false_eq_true, if_false]
    cases hc : cs[off]? with
    | none => exact Sim.vain fun _ => by simp only [hc]; rfl
    | some v =>
      obtain ⟨v', h1, h2⟩ := LR.get? (h.mono e) (j := off) (v := v) (by simpa using hc)
      rw [Array.getElem?_toList] at h1
      simp only [hc, h1]
      exact Sim.ret fun ρ2 e2 => h2.mono e2
theorem s_asAgg {P : Program} {ρ : Ren} {v v' : Value} (h : VR ρ v v') : Sim P AR ρ (asAgg v) (asAgg v') := by
  cases h with
  | agg ha h => exact Sim.ret fun ρ1 e => (AR.of ha h).mono e
  | _ => exact Sim.vain fun _ => rfl
theorem s_field {P : Program} {ρ : Ren} (t : TypeId) (f : Nat) {v v' : Value} (h : VR ρ v v') : Sim P VR ρ (Instr.field t v f) (Instr.field t v' f) := by
  refine Sim.bind (pu_sim (pu_underlying t)) ?_
  rintro ρ1 d _ e rfl
  cases d with
  | struct fs =>
    cases hf : fs[f]? with
    | none => exact Sim.vain fun _ => by simp only [hf]; rfl
    | some fl =>
      simp only [hf]
      exact Sim.bind (s_asAgg (h.mono e)) fun ρ2 cs cs' e2 hc => s_part _ hc _
  | _ => exact Sim.vain fun _ => rfl
theorem s_fieldAt {P : Program} {ρ : Ren} (t : TypeId) (f : Nat) {v v' : Value} (h : VR ρ v v') : Sim P VR ρ (Instr.fieldAt t v f) (Instr.fieldAt t v' f) := by
  refine Sim.bind (pu_sim (pu_underlying t)) ?_
  rintro ρ1 d _ e rfl
  cases d with
  | struct fs =>
    cases hf : fs[f]? with
    | none => exact Sim.vain fun _ => by simp only [hf]; rfl
    | some fl =>
      simp only [hf]
      refine Sim.bind (s_sureAddr (h.mono e)) fun ρ2 a a' e2 ha => ?_
      refine Sim.bind (R := PR) ?_ fun ρ3 b b' e3 hb => Sim.ret fun ρ4 e4 => VR.ptrP (hb.mono e4)
      refine Sim.bind (pu_sim (pu_sizeOf _)) ?_
      rintro ρ3 n _ e3 rfl
      by_cases hn : n = 0
      · simp only [if_pos hn]
        refine Sim.vain fun A => ?_
        refine runA_first_none (fun A => ?_) A
        obtain ⟨L, _, h2, _⟩ := ha
        unfold Go.byteOf
        rw [h2]
        rfl
      · simp only [if_neg hn]
        exact Sim.ret fun ρ4 e4 => ((ha.mono e3).add _).mono e4
  | _ => exact Sim.vain fun _ => rfl
theorem s_index {P : Program} {ρ : Ren} (t : TypeId) {x x' i i' : Value} (h : VR ρ x x') (hi : VR ρ i i') : Sim P VR ρ (Instr.index t x i) (Instr.index t x' i') := by
  refine Sim.bind (s_asIntOf hi) ?_
  rintro ρ1 ⟨k, n⟩ _ e rfl
  refine Sim.bind (pu_sim (pu_underlying t)) ?_
  rintro ρ2 d _ e2 rfl
  have h2 := (h.mono e).mono e2
  cases d with
  | array len elem =>
    cases h2 with
    | agg ha hb =>
      dsimp only
      split
      · exact Sim.bind (pu_sim (pu_sizeOf elem)) fun ρ3 s _ e3 hs => by cases hs; exact s_part _ ((AR.of ha hb).mono e3) _
      · exact Sim.vain fun A => runA_bounds _ _ _ _ A
    | _ => exact Sim.vain fun _ => rfl
  | string =>
    cases h2 with
    | string s =>
      dsimp only
      split
      · exact Sim.ret fun _ _ => .int _ _
      · exact Sim.vain fun A => runA_bounds _ _ _ _ A
    | _ => exact Sim.vain fun _ => rfl
  | _ => exact Sim.vain fun _ => rfl
theorem s_indexAt {P : Program} {ρ : Ren} (t : TypeId) {x x' i i' : Value} (h : VR ρ x x') (hi : VR ρ i i') : Sim P VR ρ (Instr.indexAt t x i) (Instr.indexAt t x' i') := by
  refine Sim.bind (s_asIntOf hi) ?_
  rintro ρ1 ⟨k, n⟩ _ e rfl
  have h1 := h.mono e
  have fin : ∀ (ρ2 : Ren) (base base' : Option Addr) (len elem : Nat), Ext ρ1 ρ2 → ((∃ a a', base = some a ∧ base' = some a' ∧ PR ρ2 a a') ∨ len = 0) →
      Sim P VR ρ2
        (do let tiny := len ≤ 1 && (match ← underlying t with | .array .. => true | _ => false)
            match base with
            | some a =>
              if 0 ≤ n ∧ n < len then pure (.pointer (some (a.add (n.toNat * (← Go.sizeOf elem)))))
              else if tiny then unsupported (.noEntry "op/indexAddr.an index out of range at an array of length 0 or 1 (ledger 616)")
              else boundsPanic k n len .index
            | none => boundsPanic k n 0 .index)
        (do let tiny := len ≤ 1 && (match ← underlying t with | .array .. => true | _ => false)
            match base' with
            | some a =>
              if 0 ≤ n ∧ n < len then pure (.pointer (some (a.add (n.toNat * (← Go.sizeOf elem)))))
              else if tiny then unsupported (.noEntry "op/indexAddr.an index out of range at an array of length 0 or 1 (ledger 616)")
              else boundsPanic k n len .index
            | none => boundsPanic k n 0 .index) := by
    intro ρ2 base base' len elem e2 hb
    refine Sim.bind (pu_sim (pu_underlying t)) ?_
    rintro ρ3 d _ e3 rfl
    rcases hb with ⟨a, a', rfl, rfl, hp⟩ | rfl
    · dsimp only
      by_cases hc : 0 ≤ n ∧ n < (len : Int)
      · simp only [if_pos hc]
        refine Sim.bind (pu_sim (pu_sizeOf elem)) ?_
        rintro ρ4 s _ e4 rfl
        exact Sim.ret fun ρ5 e5 => VR.ptrP ((((hp.mono e3).mono e4).add _).mono e5)
      · simp only [if_neg hc]
        refine Sim.vain fun A => ?_
        split <;> (split <;> first | rfl | exact runA_bounds _ _ _ _ A)
    · refine Sim.vain fun A => ?_
      cases base with
      | none => exact runA_bounds _ _ _ _ A
      | some a =>
        dsimp only
        rw [if_neg (by omega)]
        split <;> (split <;> first | rfl | exact runA_bounds _ _ _ _ A)
  refine Sim.bind (pu_sim (pu_underlying t)) ?_
  rintro ρ2 d _ e2 rfl
  have h2 := h1.mono e2
  cases d with
  | array len elem => exact Sim.bind (s_sureAddr h2) fun ρ3 a a' e3 ha => fin ρ3 (some a) (some a') len elem (e2.trans e3) (.inl ⟨a, a', rfl, rfl, ha⟩)
  | slice elem =>
    cases h2 with
    | snil => exact fin ρ2 none none 0 elem e2 (.inr rfl)
    | sexact l c hh hk => exact fin ρ2 (some _) (some _) l elem e2 (.inl ⟨_, _, rfl, rfl, _, hh, rfl, rfl⟩)
    | sloose l c c' x hh hk hc hr => exact fin ρ2 (some _) (some _) l elem e2 (.inl ⟨_, _, rfl, rfl, _, hh, rfl, rfl⟩)
    | sempty c' x a' hh hk => exact fin ρ2 (some _) a' 0 elem e2 (.inr rfl)
    | svoid a' hh hk => exact fin ρ2 (some _) a' 0 elem e2 (.inr rfl)
    | _ => exact Sim.vain fun _ => rfl
  | _ => exact Sim.vain fun _ => rfl
theorem s_extract {P : Program} {ρ : Ren} {v v' : Value} (h : VR ρ v v') (i : Nat) : Sim P VR ρ (Instr.extract v i) (Instr.extract v' i) := by
  cases h with
  | tuple ha hb =>
    rename_i a a'
    simp only [Instr.extract]
    cases hc : a[i]? with
    | none => exact Sim.vain fun _ => rfl
    | some u =>
      obtain ⟨u', h1, h2⟩ := LR.get? (AR.of ha hb) (j := i) (v := u) (by simpa using hc)
      rw [Array.getElem?_toList] at h1
      rw [h1]
      exact Sim.ret fun ρ2 e2 => h2.mono e2
  | _ => exact Sim.vain fun _ => rfl
theorem s_unary {P : Program} {ρ : Ren} (op : UnOp) {v v' : Value} (h : VR ρ v v') : Sim P VR ρ (Op.unary op v) (Op.unary op v') := by
  have pu : ∀ u : Value, Pu P (Op.unary op u) := by
    intro u
    unfold Op.unary
    split <;> first | exact pu_ret _ | exact pu_halt _ | (unfold Op.intArith; exact pu_ret _) | (unfold Op.intBits; dsimp only; split <;> first | exact pu_ret _ | exact pu_halt _)
  cases h with
  | bool b => cases op <;> first | exact Sim.ret fun _ _ => .bool _ | exact Sim.vain fun _ => rfl
  | int k n => cases op <;> first | exact Sim.ret fun _ _ => .int _ _ | exact Sim.vain fun _ => rfl
  | _ => cases op <;> exact Sim.vain fun _ => rfl
def Ok (P : Program) (s : Sem Value) (w : World) (ρ : Ren) (A : AW) (v : Value) (A1 : AW) : Prop :=
 ∃ ρ1 v' w1, s.run P w = .ok v' w1 ∧ Rel ρ1 A1 w1 ∧ Fr ρ A w ρ1 A1 w1 ∧ VR ρ1 v v'
theorem Ok.same {P : Program} {s : Sem Value} {w : World} {ρ : Ren} {A : AW} {v v' : Value} (hr : Rel ρ A w) (h : s.run P w = .ok v' w) (hv : VR ρ v v') : Ok P s w ρ A v A :=
 ⟨ρ, v', w, h, hr, Fr.refl _ _ _, hv⟩
theorem Ok.sim {P : Program} {s s' : Sem Value} {w : World} {ρ : Ren} {A A1 : AW} {v : Value} (hr : Rel ρ A w) (h : Sim P VR ρ s s') (he : runA P s A = some (v, A1)) : Ok P s' w ρ A v A1 :=
 h ρ A w v A1 (Ext.refl _) hr he
theorem pureRun_run {P : Program} {α : Type} : ∀ (s : Sem α) (x : α), pureRun P s = some x → ∀ w, s.run P w = .ok x w := by
 intro s
 induction s with
 | pure a => intro x h w; cases h; rfl
 | program k ih => intro x h w; exact ih P x h w
 | mark m k ih => intro x h w; exact ih x h w
 | _ => intro x h; cases h
theorem tySize_info {P : Program} {t : TypeId} {n : Nat} (h : tySize P t = some n) : ∃ i, P.info? t = some i ∧ i.size = n := by
 unfold tySize at h
 cases hi : P.info? t with
 | none => rw [hi] at h; cases h
 | some i => rw [hi] at h; cases h; exact ⟨i, rfl, rfl⟩
theorem run_size {P : Program} {t : TypeId} {n : Nat} (h : tySize P t = some n) (w : World) : (Go.sizeOf t).run P w = .ok n w := by
 obtain ⟨i, hi, rfl⟩ := tySize_info h
 simp [Go.sizeOf, typeInfo, hi]
theorem Rel.cells {ρ : Ren} {A : AW} {w : World} (h : Rel ρ A w) {a a' : Addr} (ha : PR ρ a a') {n : Nat} {l : List Value} (e : A.cells? a n = some l) :
  ∃ l', LR ρ l l' ∧ l.length = n ∧ ∀ j u, l'[j]? = some u → w.cell? (a'.add j) = some u := by
 obtain ⟨L, h1, h2, rfl⟩ := ha
 unfold AW.cells? at e
 rw [h2] at e
 cases hB : A.get a.block with
 | none => rw [hB] at e; cases e
 | some B =>
  rw [hB] at e
  cases B with
  | cells c ro kd =>
   simp only at e
   split at e
   ·rename_i hle
    cases e
    rcases (h.blk _ L _ h1 hB).2 with ⟨rfl, _⟩ | ⟨c', e', fr, hh, hc, _⟩
    ·simp at hle
     refine ⟨[], ?_, ?_, fun j u hj => by simp at hj⟩
     ·simpa using LR.nil
     ·simp; omega
    ·refine ⟨((List.range n).map fun j => (c'[L.o + (a.off + j)]?).getD undef), LR.of (by simp; omega) fun j hj1 hj2 => ?_, by simp; omega, fun j u hj => ?_⟩
     ·simp only [List.length_map, List.length_range] at hj2
      have hcj : c[a.off + j]? = some (((c.drop a.off).take n)[j]) := by
       rw [List.getElem_take, List.getElem_drop, List.getElem?_eq_getElem]
      obtain ⟨v', hv', hr⟩ := hc _ _ hcj
      simp only [List.getElem_map, List.getElem_range, hv', Option.getD_some]
      exact hr
     ·rw [List.getElem?_map] at hj
      by_cases hjn : j < n
      ·rw [List.getElem?_range hjn, Option.map_some] at hj
       have hcj : c[a.off + j]? = some (c[a.off + j]'(by omega)) := List.getElem?_eq_getElem _
       obtain ⟨v', hv', hr⟩ := hc _ _ hcj
       rw [hv'] at hj
       cases hj
       have : (⟨L.b, L.o + a.off, none⟩ : Addr).add j = ⟨L.b, L.o + (a.off + j), none⟩ := by
        unfold Addr.add
        split
        ·subst_vars; simp
        ·simp [Nat.add_assoc]
       rw [this]
       unfold World.cell?
       simp only [hh, Option.isSome_none, Bool.false_eq_true, if_false]
       exact hv'
      ·rw [List.getElem?_eq_none (by simp; omega)] at hj
       cases hj
   ·cases e
  | map es => cases e
  | iter s p => cases e
inductive OVR (ρ : Ren) : Option Value → Option Value → Prop where
 | none : OVR ρ none none
 | some {v v' : Value} (h : VR ρ v v') : OVR ρ (some v) (some v')
theorem bnd_le {v : Option Value} {d y n : Nat} (h : bnd v d y = some n) (hd : d ≤ y) : n ≤ y := by
 unfold bnd at h
 split at h
 ·cases h; exact hd
 ·split at h
  ·rename_i hh; cases h; omega
  ·cases h
 ·cases h
theorem run_bnd {P : Program} {ρ : Ren} {v v' : Value} (hv : VR ρ v v') {d y y' n : Nat} (h : bnd (some v) d y = some n) (hy : y ≤ y') (c : BoundsCode) (w : World) : (Instr.sliceBound v' y' c).run P w = .ok n w := by
 cases hv with
 | int k i =>
  simp only [bnd] at h
  split at h
  ·rename_i hh
   cases h
   have : 0 ≤ i ∧ i ≤ (y' : Int) := ⟨hh.1, by omega⟩
   simp [Instr.sliceBound, asIntOf, this]
  ·cases h
 | _ => simp [bnd] at h
theorem run_bnds {P : Program} {ρ : Ren} {lo lo' hi hi' mx mx' : Option Value} (hlo : OVR ρ lo lo') (hhi : OVR ρ hi hi') (hmx : OVR ρ mx mx') {len cap cap' l h m : Nat}
  (e : bnds len cap lo hi mx = some (l, h, m)) (hc : cap ≤ cap') (b : Bool) (w : World) :
  (Instr.sliceBounds b len cap' lo' hi' mx').run P w = .ok (l, h, if mx.isSome then m else cap') w ∧ l ≤ h ∧ h ≤ m ∧ m ≤ cap ∧ (mx = none → m = cap) := by
 unfold bnds at e
 cases hlc0 : Nat.ble len cap with
 | false => rw [hlc0] at e; cases e
 | true =>
 have hlc : len ≤ cap := Nat.le_of_ble_eq_true hlc0
 rw [hlc0] at e
 cases hm : bnd mx cap cap with
 | none => rw [hm] at e; cases e
 | some m0 =>
  rw [hm] at e
  simp only at e
  have hmc := bnd_le hm (Nat.le_refl _)
  cases hmx with
  | none =>
   cases hm
   have key : ∀ e2 : (match bnd hi len cap with | none => none | some h => match bnd lo 0 h with | none => none | some l => some (l, h, cap)) = some (l, h, m),
     (Instr.sliceBounds b len cap' lo' hi' none).run P w = .ok (l, h, cap') w ∧ l ≤ h ∧ h ≤ m ∧ m ≤ cap ∧ m = cap := by
    intro e2
    cases hh : bnd hi len cap with
    | none => rw [hh] at e2; cases e2
    | some h0 =>
     rw [hh] at e2
     simp only at e2
     have hh2 := bnd_le hh hlc
     cases hl : bnd lo 0 h0 with
     | none => rw [hl] at e2; cases e2
     | some l0 =>
      rw [hl] at e2
      cases e2
      have hl2 := bnd_le hl (Nat.zero_le _)
      refine ⟨?_, hl2, hh2, Nat.le_refl _, rfl⟩
      cases hhi with
      | none =>
       cases hh
       cases hlo with
       | none => cases hl; simp [Instr.sliceBounds]
       | some hv => simp [Instr.sliceBounds, run_bnd (P := P) hv hl (Nat.le_refl _)]
      | some hv2 =>
       cases hlo with
       | none => cases hl; simp [Instr.sliceBounds, run_bnd (P := P) hv2 hh hc]
       | some hv => simp [Instr.sliceBounds, run_bnd (P := P) hv2 hh hc, run_bnd (P := P) hv hl (Nat.le_refl _)]
   have : (match bnd hi len cap with | none => none | some h => match bnd lo 0 h with | none => none | some l => some (l, h, cap)) = some (l, h, m) := by
    cases hi <;> exact e
   obtain ⟨k1, k2, k3, k4, k5⟩ := key this
   exact ⟨by simpa using k1, k2, k3, k4, fun _ => k5⟩
  | some hvm =>
   cases hhi with
   | none => cases e
   | some hv2 =>
    simp only at e
    rename_i hiv hiv'
    cases hh : bnd (some hiv) len m0 with
    | none => rw [hh] at e; cases e
    | some h0 =>
     rw [hh] at e
     simp only at e
     have hh2 : h0 ≤ m0 := by
      unfold bnd at hh
      split at hh
      ·rename_i hq; cases hq
      ·split at hh
       ·cases hh; omega
       ·cases hh
      ·cases hh
     cases hl : bnd lo 0 h0 with
     | none => rw [hl] at e; cases e
     | some l0 =>
      rw [hl] at e
      cases e
      have hl2 := bnd_le hl (Nat.zero_le _)
      refine ⟨?_, hl2, hh2, hmc, fun h => by cases h⟩
      cases hlo with
      | none => cases hl; simp [Instr.sliceBounds, run_bnd (P := P) hvm hm hc, run_bnd (P := P) hv2 hh (Nat.le_refl _)]
      | some hv => simp [Instr.sliceBounds, run_bnd (P := P) hvm hm hc, run_bnd (P := P) hv2 hh (Nat.le_refl _), run_bnd (P := P) hv hl (Nat.le_refl _)]
theorem VR.plainOk {ρ : Ren} {v : Value} (h : plainV 9 v = true) : VR ρ v v := VR.plain 9 v h
theorem run_und {P : Program} {t : TypeId} {d : TypeDesc} (h : P.underlying t = some d) (w : World) : (underlying t).run P w = .ok d w := by
 simp [underlying, h]
theorem Rel.hollowAdd {ρ : Ren} {A : AW} {w : World} (h : Rel ρ A w) : Rel (ρ.up A.next ⟨0, 0, .void, 0⟩) (A.add (.cells [] true .void)) w ∧ Fr ρ A w (ρ.up A.next ⟨0, 0, .void, 0⟩) (A.add (.cells [] true .void)) w :=
 h.add ⟨0, 0, .void, 0⟩ (.cells [] true .void) (Nat.le_refl _) (fun _ _ => rfl) ⟨rfl, .inl ⟨rfl, rfl⟩⟩ (fun h => by cases h) (fun _ h => by cases h) rfl rfl rfl
theorem addr_add (b o : Nat) (n : Nat) : (⟨b, o, none⟩ : Addr).add n = ⟨b, o + n, none⟩ := by
 unfold Addr.add
 split
 ·subst_vars; rfl
 ·rfl
theorem run_sliceAt_slice {P : Program} {t elem : TypeId} {n : Nat} (ht : P.underlying t = some (.slice elem)) (hs : tySize P elem = some n) {a : Option Addr} {len cap : Nat} {lo hi mx : Option Value} {l h m : Nat} {w : World}
  (hb : (Instr.sliceBounds true len cap lo hi mx).run P w = .ok (l, h, m) w) :
  (Instr.sliceAt t (.slice a len cap) lo hi mx).run P w = .ok (.slice (if m = l then a else a.map (·.add (l * n))) (h - l) (m - l)) w := by
 simp [Instr.sliceAt, Instr.slice, run_und ht, run_size hs, hb]
theorem VR.lens {ρ : Ren} {a a' : Option Addr} {l c l' c' : Nat} (h : VR ρ (.slice a l c) (.slice a' l' c')) : l' = l ∧ c ≤ c' := by
 cases h <;> first | exact ⟨rfl, Nat.le_refl _⟩ | exact ⟨rfl, Nat.zero_le _⟩ | exact ⟨rfl, ‹_›⟩
theorem bnds_zero {lo hi mx : Option Value} {l h m : Nat} (e : bnds 0 0 lo hi mx = some (l, h, m)) {ρ : Ren} {lo' hi' mx' : Option Value} (hlo : OVR ρ lo lo') (hhi : OVR ρ hi hi') (hmx : OVR ρ mx mx') (P : Program) (w : World) : l = 0 ∧ h = 0 ∧ m = 0 := by
 obtain ⟨_, h1, h2, h3, _⟩ := run_bnds (P := P) hlo hhi hmx e (Nat.le_refl _) true w
 omega
theorem sliceA_ok {P : Program} {ρ : Ren} {A A1 : AW} {w : World} (hr : Rel ρ A w) {t : TypeId} {x x' : Value} {lo lo' hi hi' mx mx' : Option Value} (hx : VR ρ x x') (hlo : OVR ρ lo lo') (hhi : OVR ρ hi hi') (hmx : OVR ρ mx mx') {v : Value}
  (e : sliceA P t x lo hi mx A = some (v, A1)) : Ok P (Instr.sliceAt t x' lo' hi' mx') w ρ A v A1 := by
 unfold sliceA at e
 split at e
 ·
  rename_i s ht
  cases hx
  split at e
  ·rename_i l h m hb
   cases e
   cases hmx
   obtain ⟨h1, _⟩ := run_bnds (P := P) hlo hhi .none hb (Nat.le_refl _) false w
   refine Ok.same hr ?_ (.string _)
   simp only [Option.isSome_none, Bool.false_eq_true, if_false] at h1
   simp [Instr.sliceAt, Instr.slice, run_und ht, h1]
  ·cases e
 ·
  rename_i elem len cap ht
  split at e
  ·rename_i hz
   simp only [Bool.and_eq_true, Nat.beq_eq] at hz
   obtain ⟨rfl, rfl⟩ := hz
   split at e
   ·rename_i q n hb hsz
    cases e
    obtain ⟨l, h, m⟩ := q
    obtain ⟨rfl, rfl, rfl⟩ := bnds_zero hb hlo hhi hmx P w
    cases hx
    obtain ⟨h1, _⟩ := run_bnds (P := P) hlo hhi hmx hb (Nat.le_refl _) true w
    have h1' : (Instr.sliceBounds true 0 0 lo' hi' mx').run P w = .ok (0, 0, 0) w := by rw [h1]; cases mx <;> rfl
    refine Ok.same hr ?_ .snil
    simp [run_sliceAt_slice ht hsz h1']
   ·cases e
  ·cases e
 ·
  rename_i elem a len cap ht
  split at e
  ·rename_i l h m size c ro kd hb hsz hB hsp
   cases kd with
   | exact =>
    simp only at e
    cases e
    have hL : ∀ L, ρ a.block = some L → L.kd = .exact := fun L h1 => (hr.blk _ L _ h1 hB).1
    cases hx with
    | sexact l0 c0 hh hk =>
     rename_i i k L
     obtain ⟨h1, _, _, hm, hmc⟩ := run_bnds (P := P) hlo hhi hmx hb (Nat.le_refl _) true w
     have h1' : (Instr.sliceBounds true len cap lo' hi' mx').run P w = .ok (l, h, m) w := by
      rw [h1]
      cases hmx with
      | none => simp [hmc rfl]
      | some _ => rfl
     refine Ok.same hr (run_sliceAt_slice ht hsz h1') ?_
     by_cases hml : m = l
     ·simp only [if_pos hml]
      exact .sexact _ _ hh hk
     ·simp only [if_neg hml, Option.map_some, addr_add, Nat.add_assoc]
      exact .sexact _ _ hh hk
    | sloose l0 c0 c1 x hh hk _ _ => rw [hL _ hh] at hk; cases hk
    | sempty c1 x a1 hh hk => rw [hL _ hh] at hk; cases hk
    | svoid a1 hh hk => rw [hL _ hh] at hk; cases hk
   | void =>
    simp only at e
    split at e
    ·rename_i hz
     simp only [Bool.and_eq_true, Nat.beq_eq] at hz
     obtain ⟨rfl, rfl⟩ := hz
     cases e
     have hL : ∀ L, ρ a.block = some L → L.kd = .void := fun L h1 => (hr.blk _ L _ h1 hB).1
     obtain ⟨rfl, rfl, rfl⟩ := bnds_zero hb hlo hhi hmx P w
     cases hx with
     | sexact l0 c0 hh hk => rw [hL _ hh] at hk; cases hk
     | sloose l0 c0 c1 x hh hk _ _ => rw [hL _ hh] at hk; cases hk
     | sempty c1 x a1 hh hk => rw [hL _ hh] at hk; cases hk
     | svoid a1 hh hk =>
      obtain ⟨h1, _⟩ := run_bnds (P := P) hlo hhi hmx hb (Nat.le_refl _) true w
      have h1' : (Instr.sliceBounds true 0 0 lo' hi' mx').run P w = .ok (0, 0, 0) w := by rw [h1]; cases mx <;> rfl
      refine Ok.same hr (run_sliceAt_slice ht hsz h1') ?_
      simpa using VR.svoid a1 hh hk
    ·cases e
   | loose ez =>
    simp only at e
    split at e
    ·cases e
    ·rename_i hez
     have hez : ez = size := by simpa using hez
     subst hez
     have hL : ∀ L, ρ a.block = some L → L.kd = .loose ez := fun L h1 => (hr.blk _ L _ h1 hB).1
     have fin : ∀ (a2 : Option Addr) (c2 : Nat), (VR ρ (.slice (some a) len cap) (.slice a2 len c2)) → cap ≤ c2 → Ok P (Instr.sliceAt t (.slice a2 len c2) lo' hi' mx') w ρ A v A1 := by
      intro a2 c2 hv hc2
      obtain ⟨h1, hlh, hhm, hmcap, hmc⟩ := run_bnds (P := P) hlo hhi hmx hb hc2 true w
      have hrun := run_sliceAt_slice (a := a2) ht hsz h1
      obtain ⟨L, hLi⟩ : ∃ L, ρ a.block = some L := by
       cases hv with
       | sexact l0 c0 hh hk => exact ⟨_, hh⟩
       | sloose l0 c0 c1 x hh hk _ _ => exact ⟨_, hh⟩
       | sempty c1 x a1 hh hk => exact ⟨_, hh⟩
       | svoid a1 hh hk => exact ⟨_, hh⟩
      have hLk := hL L hLi
      obtain ⟨ab, ao, as⟩ := a
      simp only at hsp hLi hLk
      subst hsp
      cases hmx with
      | some hvm =>
       simp only [Option.isSome_some, if_true] at hrun
       cases hml : Nat.beq m l with
       | true =>
        rw [hml] at e
        cases e
        rw [Nat.beq_eq] at hml
        subst hml
        obtain ⟨k1, k2⟩ := hr.hollowAdd
        have : h - m = 0 := by omega
        refine ⟨_, _, w, hrun, k1, k2, ?_⟩
        rw [this, Nat.sub_self]
        exact .svoid (L := ⟨0, 0, .void, 0⟩) _ (by simp [Ren.up]) rfl
       | false =>
        rw [hml] at e
        cases e
        have hml' : m ≠ l := fun e => by rw [← Nat.beq_eq, hml] at e; cases e
        rw [if_neg hml'] at hrun
        refine Ok.same hr hrun ?_
        cases hv with
        | sexact l0 c0 hh hk => rw [hL _ hh] at hk; cases hk
        | sloose l0 c0 c1 x hh hk hcc hrm =>
         rw [hL _ hh] at hk
         cases hk
         simp only [Option.map_some, addr_add, Nat.add_assoc]
         refine .sloose _ _ _ ez hh (hL _ hh) (Nat.le_refl _) ?_
         have : l * ez + (m - l) * ez = m * ez := by rw [← Nat.add_mul, Nat.add_sub_cancel' (by omega)]
         have : m * ez ≤ c2 * ez := Nat.mul_le_mul_right _ (by omega)
         omega
        | sempty c1 x a1 hh hk => omega
        | svoid a1 hh hk => rw [hL _ hh] at hk; cases hk
      | none =>
       simp only [Option.isSome_none, Bool.false_eq_true, if_false] at hrun
       have hmc := hmc rfl
       subst hmc
       cases hml : Nat.beq m l with
       | true =>
        rw [hml] at e
        cases e
        rw [Nat.beq_eq] at hml
        subst hml
        have : h - m = 0 := by omega
        rw [this] at hrun
        refine Ok.same hr hrun ?_
        exact .sempty _ ez _ hLi hLk
       | false =>
        rw [hml] at e
        cases e
        have hml' : m ≠ l := fun e => by rw [← Nat.beq_eq, hml] at e; cases e
        rw [if_neg (by omega)] at hrun
        refine Ok.same hr hrun ?_
        cases hv with
        | sexact l0 c0 hh hk => rw [hL _ hh] at hk; cases hk
        | sloose l0 c0 c1 x hh hk hcc hrm =>
         rw [hL _ hh] at hk
         cases hk
         simp only [Option.map_some, addr_add, Nat.add_assoc]
         refine .sloose _ _ _ ez hh (hL _ hh) (by omega) ?_
         have : l * ez + (c2 - l) * ez = c2 * ez := by rw [← Nat.add_mul, Nat.add_sub_cancel' (by omega)]
         omega
        | sempty c1 x a1 hh hk => omega
        | svoid a1 hh hk => rw [hL _ hh] at hk; cases hk
     cases hx with
     | sexact l0 c0 hh hk => rw [hL _ hh] at hk; cases hk
     | sloose l0 c0 c1 x hh hk hcc hrm => exact fin _ _ (.sloose _ _ _ _ hh hk hcc hrm) hcc
     | sempty c1 x a1 hh hk => exact fin _ _ (.sempty _ _ _ hh hk) (Nat.zero_le _)
     | svoid a1 hh hk => rw [hL _ hh] at hk; cases hk
  ·cases e
 ·
  rename_i n elem a ht
  split at e
  ·rename_i l h m size c ro hb hsz hB hsp
   cases e
   cases hx with
   | ptr hh =>
    rename_i i k L
    have hLk := (hr.blk _ L _ hh hB).1
    obtain ⟨h1, _, _, hm, hmc⟩ := run_bnds (P := P) hlo hhi hmx hb (Nat.le_refl _) false w
    have h1' : (Instr.sliceBounds false n n lo' hi' mx').run P w = .ok (l, h, m) w := by
     rw [h1]
     cases hmx with
     | none => simp [hmc rfl]
     | some _ => rfl
    refine Ok.same hr (v' := .slice (some (if m = l then ⟨L.b, L.o + k, none⟩ else (⟨L.b, L.o + k, none⟩ : Addr).add (l * size))) (h - l) (m - l)) ?_ ?_
    ·simp [Instr.sliceAt, Instr.sureAddr, run_und ht, run_size hsz, h1']
    ·by_cases hml : m = l
     ·simp only [if_pos hml]
      exact .sexact _ _ hh hLk
     ·simp only [if_neg hml, addr_add, Nat.add_assoc]
      exact .sexact _ _ hh hLk
  ·cases e
 ·cases e
def arrSet (c : Array Value) : Nat → List Value → Array Value
 | _, [] => c
 | o, v :: r => arrSet (c.setIfInBounds o v) (o + 1) r
theorem arrSet_size : ∀ (vs : List Value) (o : Nat) (c : Array Value), (arrSet c o vs).size = c.size
 | [], _, _ => rfl
 | v :: r, o, c => by rw [arrSet, arrSet_size r]; simp
theorem arrSet_get : ∀ (vs : List Value) (o : Nat) (c : Array Value) (j : Nat), o + vs.length ≤ c.size → (arrSet c o vs)[j]? = if o ≤ j ∧ j < o + vs.length then vs[j - o]? else c[j]?
 | [], o, c, j, h => by rw [arrSet, if_neg (by simp only [List.length_nil]; omega)]
 | v :: r, o, c, j, h => by
  simp only [List.length_cons] at h ⊢
  rw [arrSet, arrSet_get r (o + 1) _ j (by simp; omega)]
  by_cases h1 : o + 1 ≤ j ∧ j < o + 1 + r.length
  ·rw [if_pos h1, if_pos (by omega), show j - o = (j - (o + 1)) + 1 by omega, List.getElem?_cons_succ]
  ·rw [if_neg h1]
   by_cases h2 : j = o
   ·subst h2
    rw [if_pos (by omega), Array.getElem?_setIfInBounds_self_of_lt (by omega)]
    simp
   ·rw [if_neg (by omega), Array.getElem?_setIfInBounds_ne (by omega)]
theorem setAll_length : ∀ (vs : List Value) (o : Nat) (c : List Value), (setAll c o vs).length = c.length
 | [], _, _ => rfl
 | v :: r, o, c => by rw [setAll, setAll_length r]; simp
theorem setAll_get : ∀ (vs : List Value) (o : Nat) (c : List Value) (j : Nat), o + vs.length ≤ c.length → (setAll c o vs)[j]? = if o ≤ j ∧ j < o + vs.length then vs[j - o]? else c[j]?
 | [], o, c, j, h => by rw [setAll, if_neg (by simp only [List.length_nil]; omega)]
 | v :: r, o, c, j, h => by
  simp only [List.length_cons] at h ⊢
  rw [setAll, setAll_get r (o + 1) _ j (by simp; omega)]
  by_cases h1 : o + 1 ≤ j ∧ j < o + 1 + r.length
  ·rw [if_pos h1, if_pos (by omega), show j - o = (j - (o + 1)) + 1 by omega, List.getElem?_cons_succ]
  ·rw [if_neg h1]
   by_cases h2 : j = o
   ·subst h2
    rw [if_pos (by omega), List.getElem?_set_self (by omega)]
    simp
   ·rw [if_neg (by omega), List.getElem?_set_ne (by omega)]
theorem setCells_world : ∀ (vs : List Value) (b o : Nat) (w : World) (c : Array Value) (e : TypeId) (fr : Nat × Nat), w.heap[b]? = some (.cells c e fr) →
  (w.setCells b o vs).heap[b]? = some (.cells (arrSet c o vs) e fr) ∧ (∀ k, k ≠ b → (w.setCells b o vs).heap[k]? = w.heap[k]?) ∧ (w.setCells b o vs).heap.size = w.heap.size ∧ (w.setCells b o vs).os = w.os ∧ (w.setCells b o vs).tape = w.tape ∧ (w.setCells b o vs).output = w.output
 | [], b, o, w, c, e, fr, h => ⟨h, fun _ _ => rfl, rfl, rfl, rfl, rfl⟩
 | v :: r, b, o, w, c, e, fr, h => by
  have h1 : (w.setCell ⟨b, o, none⟩ v).heap[b]? = some (.cells (c.setIfInBounds o v) e fr) := by
   simp [World.setCell, Array.getElem?_modify, h]
  obtain ⟨k1, k2, k3, k4, k5, k6⟩ := setCells_world r b (o + 1) _ _ e fr h1
  refine ⟨k1, fun k hk => (k2 k hk).trans ?_, k3.trans ?_, k4, k5, k6⟩
  ·simp [World.setCell, Array.getElem?_modify, Ne.symm hk]
  ·simp [World.setCell]
theorem Rel.rowL {ρ : Ren} {A : AW} {w w1 : World} (h : Rel ρ A w) {c : List Value} {c' : Array Value} (elem : TypeId) (e : Nat) (room : Nat) (hw : w1.heap = w.heap.push (.cells c' elem (0, 0))) (hc : ∀ (j : Nat) (v : Value), c[j]? = some v → ∃ v', c'[j]? = some v' ∧ VR ρ v v')
  (hl : c.length ≤ c'.size) (hk : room ≤ c'.size) (hu : c.any isU32 = false → noU c') (e1 : w1.os = w.os) (e2 : w1.tape = w.tape) (e3 : w1.output = w.output) :
  ∃ ρ1, ρ1 A.next = some ⟨w.heap.size, 0, .loose e, room⟩ ∧ Rel ρ1 (A.row c (.loose e)) w1 ∧ Fr ρ A w ρ1 (A.row c (.loose e)) w1 := by
 have hx := h.up_ext ⟨w.heap.size, 0, .loose e, room⟩
 refine ⟨ρ.up A.next ⟨w.heap.size, 0, .loose e, room⟩, by simp [Ren.up], ?_⟩
 refine h.add ⟨w.heap.size, 0, .loose e, room⟩ _ (by rw [hw]; simp) (fun k hk => by rw [hw]; simp [Array.getElem?_push, Nat.ne_of_lt hk]) ?_ (fun _ => Nat.le_refl _) (fun _ hs j M C h3 h4 h5 => Nat.ne_of_lt (h.lt h3 h4 (mut_solid h5))) e1 e2 e3
 refine ⟨rfl, .inr ⟨c', elem, (0, 0), by rw [hw]; simp, fun j v hj => ?_, fun hro => ⟨by simpa using hl, .inl (Nat.le_refl _), fun _ _ => by simpa using hk, hu hro⟩⟩⟩
 obtain ⟨v', h1, h2⟩ := hc j v hj
 exact ⟨v', by simpa using h1, h2.mono hx⟩
theorem Rel.move {ρ : Ren} {A : AW} {w w1 : World} (h : Rel ρ A w) {i : Nat} {L : Loc} {B : ABlk} (h1 : ρ i = some L) (h2 : A.get i = some B) (hm : mutB B = true) (L1 : Loc) (hb : L1.b = L.b)
  (B1 : ABlk) (hm1 : mutB B1 = true) (hsz : w1.heap.size = w.heap.size) (hk : ∀ k, k ≠ L.b → w1.heap[k]? = w.heap[k]?) (hB : BR (ρ.up A.next L1) L1 B1 w1.heap[L.b]?)
  (e1 : w1.os = w.os) (e2 : w1.tape = w.tape) (e3 : w1.output = w.output) : Rel (ρ.up A.next L1) ((A.put i none).add B1) w1 ∧ Fr ρ A w (ρ.up A.next L1) ((A.put i none).add B1) w1 := by
 have hi := h.dom i L h1
 have hx := h.up_ext L1
 have hnew : ∀ j M, (ρ.up A.next L1) j = some M → j = A.next ∧ M = L1 ∨ j ≠ A.next ∧ ρ j = some M := fun j M e => by
  unfold Ren.up at e
  split at e
  ·rename_i hj; cases e; exact .inl ⟨hj, rfl⟩
  ·rename_i hj; exact .inr ⟨hj, e⟩
 have hg : ∀ j C, ((A.put i none).add B1).get j = some C → j = A.next ∧ C = B1 ∨ j ≠ A.next ∧ j ≠ i ∧ A.get j = some C := fun j C e => by
  rw [AW.get_add, AW.next_put, AW.get_put] at e
  by_cases hj : j = A.next
  ·rw [if_pos hj] at e; cases e; exact .inl ⟨hj, rfl⟩
  ·rw [if_neg hj] at e
   by_cases hji : j = i
   ·rw [if_pos hji] at e; cases e
   ·rw [if_neg hji] at e; exact .inr ⟨hj, hji, e⟩
 refine ⟨⟨fun j M e => ?_, fun j hj => ?_, fun j M C h3 h4 => ?_, fun j l M N C D hjl h3 h4 h5 h6 hc hd => ?_⟩, ⟨fun j hj => ?_, by simp, e1, e2, e3, Nat.le_of_eq hsz.symm, fun k hk1 hl => ⟨hk k fun e => hl ⟨i, L, B, h1, h2, hm, e.symm⟩, ?_⟩⟩⟩
 ·rcases hnew j M e with ⟨rfl, _⟩ | ⟨_, e⟩
  ·simp
  ·have := h.dom j M e; simp; omega
 ·simp only [AW.next_add, AW.next_put] at hj
  rw [AW.get_add, AW.next_put, if_neg (by omega), AW.get_put, if_neg (by omega)]
  exact h.fresh j (by omega)
 ·rcases hnew j M h3 with ⟨a1, a2⟩ | ⟨hj, h3'⟩
  ·rcases hg j C h4 with ⟨_, a3⟩ | ⟨hj, _⟩
   ·rw [a2, a3, hb]; exact hB
   ·exact absurd a1 hj
  ·rcases hg j C h4 with ⟨e, _⟩ | ⟨_, hji, h4'⟩
   ·exact absurd e hj
   ·cases hs : solid C with
    | true =>
     have := h.sep i j L M B C (Ne.symm hji) h1 h3' h2 h4' hm hs
     rw [hk _ (Ne.symm this)]
     exact (h.blk j M C h3' h4').mono hx
    | false => exact ((h.blk j M C h3' h4').mono hx).hollow hs
 ·rcases hnew j M h3 with ⟨a1, a2⟩ | ⟨hj, h3'⟩
  ·rcases hnew l N h4 with ⟨a4, _⟩ | ⟨hl, h4'⟩
   ·exact absurd (a1.trans a4.symm) hjl
   ·rcases hg l D h6 with ⟨e, _⟩ | ⟨_, hli, h6'⟩
    ·exact absurd e hl
    ·rw [a2, hb]
     exact h.sep i l L N B D (Ne.symm hli) h1 h4' h2 h6' hm hd
  ·rcases hg j C h5 with ⟨e, _⟩ | ⟨_, hji, h5'⟩
   ·exact absurd e hj
   ·rcases hnew l N h4 with ⟨a1, a2⟩ | ⟨hl, h4'⟩
    ·rw [a2, hb]
     exact h.sep j i M L C B hji h3' h1 h5' h2 hc (mut_solid hm)
    ·rcases hg l D h6 with ⟨e, _⟩ | ⟨_, hli, h6'⟩
     ·exact absurd e hl
     ·exact h.sep j l M N C D hjl h3' h4' h5' h6' hc hd
 ·unfold Ren.up
  rw [if_neg (Nat.ne_of_lt hj)]
 ·rintro ⟨j, M, C, h3, h4, h5, h6⟩
  rcases hnew j M h3 with ⟨a1, a2⟩ | ⟨hj, h3'⟩
  ·exact hl ⟨i, L, B, h1, h2, hm, by rw [← h6, a2, hb]⟩
  ·rcases hg j C h4 with ⟨e, _⟩ | ⟨_, hji, h4'⟩
   ·exact absurd e hj
   ·exact hl ⟨j, M, C, h3', h4', h5, h6⟩
theorem one_of {ρ : Ren} {l l' : List Value} (h : LR ρ l l') (hn : l.any isAggT = false) : ∀ u ∈ l', u.oneCell' = true := by
 induction h with
 | nil => intro u hu; cases hu
 | cons hv _ ih =>
  simp only [List.any_cons, Bool.or_eq_false_iff] at hn
  intro u hu
  rcases List.mem_cons.1 hu with rfl | hu
  ·have := hv.isAgg
   rw [hn.1] at this
   cases u <;> first | rfl | (simp [isAggT] at this)
  ·exact ih hn.2 u hu
theorem srcA_ok {P : Program} {ρ : Ren} {A : AW} {w : World} (hr : Rel ρ A w) {tx : TypeId} {xd : TypeDesc} (hx : P.underlying tx = some xd) {size n : Nat} {x x' : Value} {l : List Value} (hv : VR ρ x x') (e : srcA xd size x A = some (n, l)) :
  ∃ l', LR ρ l l' ∧ Src P size tx x' n l' w ∧ l.length = n * size := by
 unfold srcA at e
 split at e
 ·rename_i e' n' c'
  split at e
  ·cases e
   cases hv
   exact ⟨[], .nil, Src.ofNil w hx _, by simp⟩
  ·cases e
 ·rename_i e' b n' c'
  split at e
  ·rename_i hz
   rw [Nat.beq_eq] at hz
   subst hz
   cases e
   obtain ⟨a2, c2, rfl⟩ : ∃ a2 c2, x' = .slice a2 0 c2 := by cases hv <;> exact ⟨_, _, rfl⟩
   refine ⟨[], .nil, ?_, by simp⟩
   cases a2 with
   | none => exact Src.ofNil w hx c2
   | some a2 => exact Src.ofSlice w hx a2 0 c2 [] (by simp) (fun j u h => by simp at h) (fun u h => by cases h)
  ·rename_i hz
   have hz : n' ≠ 0 := fun e => hz (by rw [Nat.beq_eq]; exact e)
   split at e
   ·rename_i l0 hl0
    split at e
    ·cases e
    ·rename_i hag
     cases e
     have hag : l.any isAggT = false := by simpa using hag
     obtain ⟨a2, c2, rfl, hp⟩ : ∃ a2 c2, x' = .slice (some a2) n c2 ∧ PR ρ b a2 := by
      cases hv with
      | sexact l c hh hk => exact ⟨_, _, rfl, _, hh, rfl, rfl⟩
      | sloose l c c1 x hh hk _ _ => exact ⟨_, _, rfl, _, hh, rfl, rfl⟩
      | sempty c1 x a1 hh hk => exact absurd rfl hz
      | svoid a1 hh hk => exact absurd rfl hz
     obtain ⟨l', h1, h2, h3⟩ := hr.cells hp hl0
     exact ⟨l', h1, Src.ofSlice w hx a2 n c2 l' (by rw [← h1.length, h2]) h3 (one_of h1 hag), h2⟩
   ·cases e
 ·rename_i s
  split at e
  ·rename_i hz
   rw [Nat.beq_eq] at hz
   subst hz
   cases e
   cases hv
   have hb : byteCells s = (s.data.map fun b => Value.int .u8 b.toNat).toList := by simp [byteCells]
   refine ⟨_, LR.same fun v hv => ?_, hb ▸ Src.ofString w hx s, ?_⟩
   ·simp only [Array.toList_map, List.mem_map] at hv
    obtain ⟨_, _, rfl⟩ := hv
    exact .int _ _
   ·rw [← hb, byteCells_length, Nat.mul_one]
  ·cases e
 ·cases e
theorem LR.noU {ρ : Ren} {l l' : List Value} (h : LR ρ l l') (hu : l.any isU32 = false) : ∀ u ∈ l', isU32 u = false := by
 rw [← any_same h, List.any_eq_false] at hu
 intro u hm
 simpa using hu u hm
theorem fresh_ok {P : Program} {ρ : Ren} {A A1 : AW} {w : World} (hr : Rel ρ A w) {t tx ty elem : TypeId} {i : TypeInfo} {z : Value} (ht : P.underlying t = some (.slice elem)) (hi : P.info? elem = some i) (hz : i.zero = some z)
  {base : Option Addr} {sLen sCap n : Nat} {old old' l l' : List Value} {x' v : Value} (hold : LR ρ old old') (hol : old.length = sLen * i.size) (hl : LR ρ l l') (hs : Src P i.size tx x' n l' w) (hln : l.length = n * i.size)
  (hf : (Builtin.firstCells i.size sLen (.slice base sLen sCap)).run P w.drew = .ok old'.toArray w.drew) (hg : sCap < sLen + n) (hb1 : ¬ 2 ^ 48 < (2 * (sLen + n) + 2000) * i.bytes) (hb2 : ¬ 2 ^ 60 < sLen + n) (hzs : z.cells.size = i.size)
  (e : freshA z i.size (sLen + n) (old ++ l) A = some (v, A1)) : Ok P (Builtin.append_ #[t, tx] ty #[.slice base sLen sCap, x']) w ρ A v A1 := by
 unfold freshA at e
 split at e
 ·rename_i hu
  cases e
  have hfit : Builtin.nextslicecap (sLen + n) sCap * i.bytes ≤ 281474976710656 := by
   have h1 := nextslicecap_le hg
   have h2 : Builtin.nextslicecap (sLen + n) sCap * i.bytes ≤ (2 * (sLen + n) + 2000) * i.bytes := Nat.mul_le_mul_right _ (by omega)
   omega
  have hrun := run_append_grow_src (P := P) w t tx ty elem i z ht hi hz base sLen sCap old' hf x' n l' hs hg (by omega) hfit
  have hcap : sLen + n ≤ grownCap w (sLen + n) sCap elem := by simp [grownCap, Question.cut]
  have hlen : (old' ++ l').length = (sLen + n) * i.size := by
   rw [List.length_append, ← hold.length, ← hl.length, hol, hln, Nat.add_mul]
  have hsize : ((old' ++ l').toArray ++ Builtin.zeroCells z.cells (grownCap w (sLen + n) sCap elem - (sLen + n))).size = grownCap w (sLen + n) sCap elem * i.size := by
   rw [Array.size_append, List.size_toArray, hlen, size_zeroCells, hzs, ← Nat.add_mul, Nat.add_sub_cancel' hcap]
  have hlr := hold.append hl
  obtain ⟨ρ1, h1, h2, h3⟩ := hr.rowL (c := old ++ l) (c' := ((old' ++ l').toArray ++ Builtin.zeroCells z.cells (grownCap w (sLen + n) sCap elem - (sLen + n)))) (w1 := w.drew.alloc (.cells ((old' ++ l').toArray ++ Builtin.zeroCells z.cells (grownCap w (sLen + n) sCap elem - (sLen + n))) elem)) elem i.size (grownCap w (sLen + n) sCap elem * i.size) rfl
   (fun j u hj => by
    obtain ⟨u', h1, h2⟩ := hlr.get? hj
    refine ⟨u', ?_, h2⟩
    have hlt := (List.getElem?_eq_some_iff.1 h1).1
    rw [Array.getElem?_append_left (by simpa using hlt), List.getElem?_toArray]
    exact h1)
   (by rw [hsize, hlr.length, hlen]; exact Nat.mul_le_mul_right _ hcap) (by rw [hsize]; exact Nat.le_refl _)
   (fun hno => by
    have hzu : z.cells.toList.any isU32 = false := by simpa [hno] using hu
    intro j u hj
    rw [Array.getElem?_append] at hj
    split at hj
    ·rw [List.getElem?_toArray] at hj
     exact hlr.noU hno u (List.mem_of_getElem? hj)
    ·have hm := Array.mem_of_getElem? hj
     unfold Builtin.zeroCells at hm
     rw [Array.mem_map] at hm
     obtain ⟨k, hk, rfl⟩ := hm
     rw [Array.mem_range] at hk
     have hzp : 0 < z.cells.size := by
      rcases Nat.eq_zero_or_pos z.cells.size with h0 | h0
      ·rw [h0, Nat.mul_zero] at hk; omega
      ·exact h0
     rw [List.any_eq_false] at hzu
     rw [getElem!_pos z.cells _ (Nat.mod_lt _ hzp)]
     simpa using hzu _ (by simp)) rfl rfl rfl
  refine ⟨ρ1, _, _, hrun, h2, h3, ?_⟩
  exact .sloose (L := ⟨w.heap.size, 0, .loose i.size, _⟩) _ _ _ _ h1 rfl hcap (by simp)
 ·cases e
theorem Ok.kill {P : Program} {s : Sem Value} {w : World} {ρ : Ren} {A A1 : AW} {v : Value} {i : Nat} (hr : Rel ρ A w) (h : Ok P s w ρ (A.put i none) v A1) : Ok P s w ρ A v A1 := by
 obtain ⟨ρ1, v', w1, h1, h2, h3, h4⟩ := h
 exact ⟨ρ1, v', w1, h1, h2, (hr.kill i).2.trans h3, h4⟩
theorem appA_ok {P : Program} {ρ : Ren} {A A1 : AW} {w : World} (hr : Rel ρ A w) {argTypes : Array TypeId} {ty : TypeId} {s s' x x' v : Value} (hs : VR ρ s s') (hx : VR ρ x x') (e : appA P argTypes s x A = some (v, A1)) :
  Ok P (Builtin.append_ argTypes ty #[s', x']) w ρ A v A1 := by
 unfold appA at e
 split at e
 ·rename_i t tx
  split at e
  ·rename_i elem xd base sLen sCap ht htx
   cases hi : P.info? elem with
   | none => rw [hi] at e; cases e
   | some i =>
    rw [hi] at e
    simp only at e
    split at e
    ·rename_i z n l hz hsrc
     obtain ⟨l', hl, hS, hln⟩ := srcA_ok hr htx hx hsrc
     split at e
     ·cases e
     ·rename_i hbad
      simp only [Bool.or_eq_true, decide_eq_true_eq, Bool.not_eq_true', not_or, Bool.not_eq_false, Nat.beq_eq] at hbad
      obtain ⟨⟨hb1, hb2⟩, hzs⟩ := hbad
      obtain ⟨base', sCap', rfl⟩ : ∃ b c, s' = .slice b sLen c := by cases hs <;> exact ⟨_, _, rfl⟩
      have hlens := hs.lens
      split at e
      ·rename_i hn0
       simp only [Bool.and_eq_true, Nat.beq_eq] at hn0
       obtain ⟨rfl, hle⟩ := hn0
       have hle := Nat.le_of_ble_eq_true hle
       cases e
       have hl0 : l' = [] := List.eq_nil_of_length_eq_zero (by rw [← hl.length, hln]; simp)
       rw [hl0] at hS
       exact Ok.same hr (run_append_nothing w t tx ty elem i ht hi base' sLen sCap' (by omega) x' hS) hs
      ·rename_i hn0
       have emp : ∀ (hz0 : (Nat.beq sLen 0 && Nat.beq sCap 0) = true) (hc0 : sCap' = 0), freshA z i.size n l A = some (v, A1) → Ok P (Builtin.append_ #[t, tx] ty #[.slice base' sLen sCap', x']) w ρ A v A1 := by
        intro hz0 hc0 e9
        simp only [Bool.and_eq_true, Nat.beq_eq] at hz0
        obtain ⟨rfl, rfl⟩ := hz0
        subst hc0
        have hnp : 0 < n := by
         rcases Nat.eq_zero_or_pos n with rfl | h
         ·simp at hn0
         ·exact h
        refine fresh_ok (old := []) (old' := []) hr ht hi hz .nil (by simp) hl hS hln ?_ (by omega) (by simpa using hb1) (by simpa using hb2) hzs (by simpa using e9)
        cases base' with
        | none => exact run_firstCells_none w.drew _ _ _ _
        | some a => exact run_firstCells_some w.drew i.size 0 a 0 0 [] (by simp) (fun j u h => by simp at h)
       cases base with
       | none =>
        simp only at e
        split at e
        ·rename_i hz0
         cases hs
         exact emp hz0 rfl e
        ·cases e
       | some a =>
        simp only at e
        split at e
        ·rename_i c ro kd hB hsp
         obtain ⟨L, hL⟩ : ∃ L, ρ a.block = some L := by
          cases hs with
          | sexact l0 c0 hh hk => exact ⟨_, hh⟩
          | sloose l0 c0 c1 x hh hk _ _ => exact ⟨_, hh⟩
          | sempty c1 x a1 hh hk => exact ⟨_, hh⟩
          | svoid a1 hh hk => exact ⟨_, hh⟩
         have hblk := hr.blk _ L _ hL hB
         have hkd := hblk.1
         obtain ⟨ab, ao, as⟩ := a
         simp only at hsp hL hB
         subst hsp
         cases kd with
         | void =>
          simp only at e
          split at e
          ·rename_i hz0
           cases hs with
           | sexact l0 c0 hh hk => rw [hh] at hL; cases hL; rw [hkd] at hk; cases hk
           | sloose l0 c0 c1 x hh hk _ _ => rw [hh] at hL; cases hL; rw [hkd] at hk; cases hk
           | sempty c1 x a1 hh hk => rw [hh] at hL; cases hL; rw [hkd] at hk; cases hk
           | svoid a1 hh hk => exact emp hz0 rfl e
          ·cases e
         | exact =>
          cases hs with
          | sloose l0 c0 c1 x hh hk _ _ => rw [hh] at hL; cases hL; rw [hkd] at hk; cases hk
          | sempty c1 x a1 hh hk => rw [hh] at hL; cases hL; rw [hkd] at hk; cases hk
          | svoid a1 hh hk => rw [hh] at hL; cases hL; rw [hkd] at hk; cases hk
          | sexact l0 c0 hh hk =>
           rw [hh] at hL
           cases hL
           simp only at e
           cases hroom : Nat.ble (sLen + n) sCap with
           | true =>
            rw [hroom] at e
            simp only at e
            split at e
            ·rename_i hc
             cases e
             simp only [Bool.and_eq_true, Bool.not_eq_true'] at hc
             obtain ⟨⟨rfl, hnu⟩, hin⟩ := hc
             have hin := Nat.le_of_ble_eq_true hin
             have hroom := Nat.le_of_ble_eq_true hroom
             rcases hblk.2 with ⟨_, hf⟩ | ⟨c', e', fr, hh2, hc2, hmu⟩
             ·cases hf
             ·obtain ⟨m1, m2, m3, m4⟩ := hmu rfl
              have hlen := hl.length
              have hcell : ∀ j, j < l'.length → (w.cell? ⟨L.b, L.o + ao + sLen * i.size + j, none⟩).isSome = true := by
               intro j hj
               unfold World.cell?
               simp only [hh2, Option.isSome_none, Bool.false_eq_true, if_false]
               rw [Array.getElem?_eq_getElem (by omega)]
               rfl
              have hfz : ∀ j, j < l'.length → w.frozen? ⟨L.b, L.o + ao + sLen * i.size + j, none⟩ = false := by
               intro j hj
               unfold World.frozen?
               simp only [hh2]
               rcases m2 with m2 | m2 <;> simp <;> omega
              have hrun := run_append_room_src (P := P) w t tx ty elem i ht hi L.b (L.o + ao) sLen sCap x' n l' hS hroom hcell hfz
              obtain ⟨k1, k2, k3, k4, k5, k6⟩ := setCells_world l' L.b (L.o + ao + sLen * i.size) w c' e' fr hh2
              obtain ⟨r1, r2⟩ := hr.change hh hB rfl (.cells (setAll c (ao + sLen * i.size) l) false .exact) rfl k3 k2 (by
               refine ⟨hkd, .inr ⟨_, e', fr, k1, fun j u hj => ?_, fun _ => ⟨?_, ?_, ?_, ?_⟩⟩⟩
               ·rw [setAll_get _ _ _ _ hin] at hj
                rw [arrSet_get _ _ _ _ (by omega)]
                by_cases hjr : ao + sLen * i.size ≤ j ∧ j < ao + sLen * i.size + l.length
                ·rw [if_pos hjr] at hj
                 rw [if_pos (by omega)]
                 obtain ⟨u', q1, q2⟩ := hl.get? hj
                 exact ⟨u', by rw [show L.o + j - (L.o + ao + sLen * i.size) = j - (ao + sLen * i.size) by omega]; exact q1, q2⟩
                ·rw [if_neg hjr] at hj
                 rw [if_neg (by omega)]
                 exact hc2 j u hj
               ·rw [setAll_length, arrSet_size]; exact m1
               ·rw [arrSet_size]; exact m2
               ·intro e he; cases he
               ·intro j u hj
                rw [arrSet_get _ _ _ _ (by omega)] at hj
                split at hj
                ·exact hl.noU hnu u (List.mem_of_getElem? hj)
                ·exact m4 j u hj) k4 k5 k6
              exact ⟨ρ, _, _, hrun, r1, r2, .sexact _ _ hh hk⟩
            ·cases e
           | false =>
            rw [hroom] at e
            simp only at e
            split at e
            ·rename_i old hold
             have hp : PR ρ ⟨ab, ao, none⟩ ⟨L.b, L.o + ao, none⟩ := ⟨L, hh, rfl, rfl⟩
             obtain ⟨old', q1, q2, q3⟩ := hr.cells hp hold
             refine fresh_ok hr ht hi hz q1 q2 hl hS hln (run_firstCells_some w.drew i.size sLen _ sLen sCap old' (by rw [← q1.length, q2]) (fun j u hj => by simpa using q3 j u hj)) ?_ hb1 hb2 hzs e
             rcases Nat.lt_or_ge sCap (sLen + n) with h | h
             ·exact h
             ·rw [Nat.ble_eq_true_of_le h] at hroom; cases hroom
            ·cases e
         | loose ez =>
          simp only at e
          split at e
          ·cases e
          ·rename_i hg
           simp only [Bool.or_eq_true, not_or, Bool.not_eq_true, Bool.not_eq_false', Nat.beq_eq] at hg
           obtain ⟨⟨⟨hro, hnu⟩, hcz⟩, hez⟩ := hg
           have hcz : sCap ≠ 0 := hcz
           subst hez
           subst hro
           cases hs with
           | sexact l0 c0 hh hk => rw [hh] at hL; cases hL; rw [hkd] at hk; cases hk
           | svoid a1 hh hk => rw [hh] at hL; cases hL; rw [hkd] at hk; cases hk
           | sempty c1 x a1 hh hk => exact absurd rfl hcz
           | sloose l0 c0 c1 x hh hk hcc hrm =>
            rw [hh] at hL
            cases hL
            rw [hkd] at hk
            cases hk
            split at e
            ·rename_i old hold
             split at e
             ·cases e
             ·rename_i hnu2
              have hnu2 : (old ++ l).any isU32 = false := by simpa using hnu2
              have hp : PR ρ ⟨ab, ao, none⟩ ⟨L.b, L.o + ao, none⟩ := ⟨L, hh, rfl, rfl⟩
              obtain ⟨old', q1, q2, q3⟩ := hr.cells hp hold
              by_cases hroom : sLen + n ≤ sCap'
              ·
               unfold freshA at e
               split at e
               ·cases e
                rcases hblk.2 with ⟨_, hf⟩ | ⟨c', e', fr, hh2, hc2, hmu⟩
                ·cases hf
                ·obtain ⟨m1, m2, m3, m4⟩ := hmu rfl
                 have hlen := hl.length
                 have m3 := m3 _ rfl
                 have hmul : (sLen + n) * i.size ≤ sCap' * i.size := Nat.mul_le_mul_right _ hroom
                 rw [Nat.add_mul] at hmul
                 have hcell : ∀ j, j < l'.length → (w.cell? ⟨L.b, L.o + ao + sLen * i.size + j, none⟩).isSome = true := by
                  intro j hj
                  unfold World.cell?
                  simp only [hh2, Option.isSome_none, Bool.false_eq_true, if_false]
                  rw [Array.getElem?_eq_getElem (by omega)]
                  rfl
                 have hfz : ∀ j, j < l'.length → w.frozen? ⟨L.b, L.o + ao + sLen * i.size + j, none⟩ = false := by
                  intro j hj
                  unfold World.frozen?
                  simp only [hh2]
                  rcases m2 with m2 | m2 <;> simp <;> omega
                 have hrun := run_append_room_src (P := P) w t tx ty elem i ht hi L.b (L.o + ao) sLen sCap' x' n l' hS hroom hcell hfz
                 obtain ⟨k1, k2, k3, k4, k5, k6⟩ := setCells_world l' L.b (L.o + ao + sLen * i.size) w c' e' fr hh2
                 have hx1 := hr.up_ext ⟨L.b, L.o + ao, .loose i.size, L.room - ao⟩
                 have hol : old.length = sLen * i.size := q2
                 obtain ⟨r1, r2⟩ := hr.move hh hB rfl ⟨L.b, L.o + ao, .loose i.size, L.room - ao⟩ rfl (.cells (old ++ l) ((old ++ l).any isU32) (.loose i.size)) (by rw [hnu2]; rfl) k3 k2 (by
                  refine ⟨rfl, .inr ⟨_, e', fr, k1, fun j u hj => ?_, fun _ => ⟨?_, ?_, ?_, ?_⟩⟩⟩
                  ·rw [arrSet_get _ _ _ _ (by omega)]
                   rw [List.getElem?_append] at hj
                   split at hj
                   ·rename_i hjo
                    rw [if_neg (by simp only; omega)]
                    obtain ⟨u', z1, z2⟩ := q1.get? hj
                    have z3 := q3 j u' z1
                    rw [addr_add] at z3
                    unfold World.cell? at z3
                    simp only [hh2, Option.isSome_none, Bool.false_eq_true, if_false] at z3
                    exact ⟨u', z3, z2.mono hx1⟩
                   ·rename_i hjo
                    have hjl := (List.getElem?_eq_some_iff.1 hj).1
                    rw [if_pos (by simp only; omega)]
                    obtain ⟨u', z1, z2⟩ := hl.get? hj
                    exact ⟨u', by simp only; rw [show L.o + ao + j - (L.o + ao + sLen * i.size) = j - old.length by omega]; exact z1, z2.mono hx1⟩
                  ·rw [arrSet_size, List.length_append]; simp only; omega
                  ·rw [arrSet_size]; exact m2
                  ·intro e he; rw [arrSet_size]; simp only; omega
                  ·intro j u hj
                   rw [arrSet_get _ _ _ _ (by omega)] at hj
                   split at hj
                   ·exact hl.noU hnu u (List.mem_of_getElem? hj)
                   ·exact m4 j u hj) k4 k5 k6
                 refine ⟨_, _, _, hrun, r1, r2, ?_⟩
                 refine .sloose (i := A.next) (k := 0) (L := ⟨L.b, L.o + ao, .loose i.size, L.room - ao⟩) _ _ _ i.size (by simp [Ren.up]) rfl hroom ?_
                 simp only
                 omega
               ·cases e
              ·refine Ok.kill hr (i := ab) ?_
               exact fresh_ok (hr.kill ab).1 ht hi hz q1 q2 hl hS hln (run_firstCells_some w.drew i.size sLen _ sLen sCap' old' (by rw [← q1.length, q2]) (fun j u hj => by simpa using q3 j u hj)) (by omega) hb1 hb2 hzs e
            ·cases e
        ·cases e
    ·cases e
  ·cases e
 ·cases e
def firstT (T : Value → Bool) : List MapEntry → Nat → Option (Nat × Value)
 | [], _ => none
 | e :: es, i => match T e.key with
  | true => some (i, e.val)
  | false => firstT T es (i + 1)
theorem findNow_first {d : TypeDesc} {k : Value} {T : Value → Bool} : ∀ (es : List MapEntry) (i : Nat), (∀ e ∈ es, Instr.sameNow d k e.key = some (T e.key)) → Instr.findNow d k es i = some (firstT T es i)
 | [], _, _ => rfl
 | e :: es, i, h => by
  have h1 := h e (by simp)
  have h2 := findNow_first (d := d) (k := k) (T := T) es (i + 1) (fun x hx => h x (by simp [hx]))
  cases ht : T e.key with
  | true => rw [ht] at h1; simp only [Instr.findNow, h1, firstT, ht]
  | false => rw [ht] at h1; simp only [Instr.findNow, h1, firstT, ht, h2]
theorem findAsking_first {P : Program} {kt : TypeId} {k : Value} {T : Value → Bool} (w : World) : ∀ (es : List MapEntry) (i : Nat), (∀ e ∈ es, pureRun P (Op.equal kt k e.key) = some (T e.key)) → (Instr.findAsking kt k es i).run P w = .ok (firstT T es i) w
 | [], _, _ => rfl
 | e :: es, i, h => by
  have h1 := pureRun_run _ _ (h e (by simp)) w
  have h2 := findAsking_first w es (i + 1) (fun x hx => h x (by simp [hx]))
  cases ht : T e.key with
  | true => rw [ht] at h1; simp [Instr.findAsking, firstT, ht, h1]
  | false => rw [ht] at h1; simp [Instr.findAsking, firstT, ht, h1, h2]
theorem not_simple_now {d : TypeDesc} (h : simpleKind d = false) (k v : Value) : Instr.sameNow d k v = none := by
 cases d <;> simp [simpleKind] at h <;> cases k <;> cases v <;> rfl
theorem run_findKey {P : Program} {kt : TypeId} {k : Value} {T : Value → Bool} (w : World) (es : List MapEntry) (h : ∀ e ∈ es, keyTest P kt k e.key = some (T e.key)) {d : TypeDesc} (hd : P.underlying kt = some d) :
  (Instr.findKey kt k es).run P w = .ok (firstT T es 0) w := by
 unfold Instr.findKey
 rw [Sem.run_bind, run_und hd]
 simp only [Result.andThen]
 cases hs : simpleKind d with
 | true =>
  have : Instr.findNow d k es 0 = some (firstT T es 0) := findNow_first es 0 fun e he => by
   have := h e he
   unfold keyTest at this
   rw [hd] at this
   simpa [hs] using this
  rw [this]
  rfl
 | false =>
  have h' : ∀ e ∈ es, pureRun P (Op.equal kt k e.key) = some (T e.key) := fun e he => by
   have := h e he
   unfold keyTest at this
   rw [hd] at this
   simpa [hs] using this
  cases es with
  | nil => rfl
  | cons e es =>
   have : Instr.findNow d k (e :: es) 0 = none := by simp only [Instr.findNow, not_simple_now hs]
   rw [this]
   exact findAsking_first w _ 0 h'
theorem firstT_none {T : Value → Bool} : ∀ (es : List MapEntry) (i : Nat), (∀ e ∈ es, T e.key = false) → firstT T es i = none
 | [], _, _ => rfl
 | e :: es, i, h => by rw [firstT, h e (by simp)]; exact firstT_none es (i + 1) fun x hx => h x (by simp [hx])
theorem firstT_mid {T : Value → Bool} : ∀ (a : List MapEntry) (e : MapEntry) (b : List MapEntry) (i : Nat), (∀ x ∈ a, T x.key = false) → T e.key = true → firstT T (a ++ e :: b) i = some (i + a.length, e.val)
 | [], e, b, i, _, ht => by rw [List.nil_append, firstT, ht]; rfl
 | x :: a, e, b, i, h, ht => by
  rw [List.cons_append, firstT, h x (by simp)]
  simp only
  rw [firstT_mid a e b (i + 1) (fun y hy => h y (by simp [hy])) ht, List.length_cons]
  congr 2
  omega
theorem findA_none {P : Program} {kt : TypeId} {k : Value} : ∀ (es : List (Value × Value)) (i : Nat), findA P kt k es i = some none → ∀ e ∈ es, keyTest P kt k e.1 = some false
 | [], _, _, e, he => by cases he
 | x :: es, i, h, e, he => by
  rw [findA] at h
  split at h
  ·cases h
  ·rename_i r h1 h2
   cases h
   rcases List.mem_cons.1 he with rfl | he
   ·exact h1
   ·exact findA_none es _ h2 e he
  ·cases h
theorem findA_some {P : Program} {kt : TypeId} {k : Value} : ∀ (es : List (Value × Value)) (i j : Nat) (e : Value × Value), findA P kt k es i = some (some (j, e)) →
  ∃ a b, es = a ++ e :: b ∧ j = i + a.length ∧ keyTest P kt k e.1 = some true ∧ (∀ x ∈ a, keyTest P kt k x.1 = some false) ∧ ∀ x ∈ b, keyTest P kt k x.1 = some false
 | [], _, _, _, h => by cases h
 | x :: es, i, j, e, h => by
  rw [findA] at h
  split at h
  ·rename_i h1 h2
   cases h
   exact ⟨[], es, rfl, rfl, h1, (fun _ h => by cases h), findA_none es _ h2⟩
  ·rename_i r h1 h2
   cases h
   obtain ⟨a, b, rfl, rfl, h3, h4, h5⟩ := findA_some es _ _ _ h2
   refine ⟨x :: a, b, rfl, by simp; omega, h3, fun y hy => ?_, h5⟩
   rcases List.mem_cons.1 hy with rfl | hy
   ·exact h1
   ·exact h4 y hy
  ·cases h
theorem ER.split {ρ : Ren} : ∀ (a : List (Value × Value)) (e : Value × Value) (b l : List (Value × Value)), ER ρ (a ++ e :: b) l → ∃ a' v' b', l = a' ++ (e.1, v') :: b' ∧ ER ρ a a' ∧ VR ρ e.2 v' ∧ plainV 9 e.1 = true ∧ ER ρ b b'
 | [], e, b, l, h => by
  cases h with
  | cons h hp t => exact ⟨[], _, _, rfl, .nil, h, hp, t⟩
 | x :: a, e, b, l, h => by
  cases h with
  | cons h hp t =>
   obtain ⟨a', v', b', rfl, h1, h2, h3, h4⟩ := ER.split a e b _ t
   exact ⟨_ :: a', v', b', rfl, .cons h hp h1, h2, h3, h4⟩
theorem ER.join {ρ : Ren} {a a' b b' : List (Value × Value)} (h : ER ρ a a') (k : ER ρ b b') : ER ρ (a ++ b) (a' ++ b') := by
 induction h with
 | nil => exact k
 | cons h hp _ ih => exact .cons h hp ih
theorem ER.keys {ρ : Ren} {a a' : List (Value × Value)} (h : ER ρ a a') : a'.map (·.1) = a.map (·.1) := by
 induction h with
 | nil => rfl
 | cons h hp _ ih => simp [ih]
theorem ER.length {ρ : Ren} {a a' : List (Value × Value)} (h : ER ρ a a') : a'.length = a.length := by
 have := congrArg List.length h.keys
 simpa using this
theorem mapR_none {P : Program} {ρ : Ren} {kt : TypeId} {k : Value} {es : List (Value × Value)} {es' : List MapEntry} (hm : MapR ρ es es') (h : findA P kt k es 0 = some none) : ∀ e ∈ es', keyTest P kt k e.key = some false := by
 obtain ⟨l, hp, he⟩ := hm
 intro e hmem
 have h1 : (e.key, e.val) ∈ l := hp.mem_iff.2 (List.mem_map.2 ⟨e, hmem, rfl⟩)
 have h2 : e.key ∈ l.map (·.1) := List.mem_map.2 ⟨_, h1, rfl⟩
 rw [he.keys] at h2
 obtain ⟨x, hx, hk⟩ := List.mem_map.1 h2
 rw [← hk]
 exact findA_none es 0 h x hx
theorem mapR_some {P : Program} {ρ : Ren} {kt : TypeId} {k : Value} {es : List (Value × Value)} {es' : List MapEntry} {j : Nat} {e : Value × Value} (hm : MapR ρ es es') (h : findA P kt k es 0 = some (some (j, e))) :
  ∃ (a b : List (Value × Value)) (a' b' : List MapEntry) (e' : MapEntry), es = a ++ e :: b ∧ j = a.length ∧ es' = a' ++ e' :: b' ∧ e'.key = e.1 ∧ VR ρ e.2 e'.val ∧ keyTest P kt k e'.key = some true ∧ (∀ x ∈ a', keyTest P kt k x.key = some false) ∧ (∀ x ∈ b', keyTest P kt k x.key = some false) ∧
   (∃ la lb, ER ρ a la ∧ ER ρ b lb ∧ (la ++ lb).Perm ((a' ++ b').map fun e => (e.key, e.val))) ∧ plainV 9 e.1 = true := by
 obtain ⟨l, hp, he⟩ := hm
 obtain ⟨a, b, rfl, hj, h3, h4, h5⟩ := findA_some es 0 j e h
 obtain ⟨la, v', lb, rfl, k1, k2, k3, k4⟩ := ER.split a e b l he
 have hin : (e.1, v') ∈ es'.map fun e => (e.key, e.val) := hp.mem_iff.1 (by simp)
 obtain ⟨e', he', hee⟩ := List.mem_map.1 hin
 obtain ⟨a', b', rfl⟩ := List.append_of_mem he'
 have hek : e'.key = e.1 := congrArg Prod.fst hee
 have hev : e'.val = v' := congrArg Prod.snd hee
 subst hev
 have hp2 : (la ++ lb).Perm ((a' ++ b').map fun e => (e.key, e.val)) := by
  have h6 : (((e'.key, e'.val) : Value × Value) :: (la ++ lb)).Perm ((e'.key, e'.val) :: ((a' ++ b').map fun e => (e.key, e.val))) := by
   rw [hek]
   refine List.perm_middle.symm.trans (hp.trans ?_)
   rw [List.map_append, List.map_append, List.map_cons, hek]
   exact List.perm_middle
  exact h6.cons_inv
 have hall : ∀ x ∈ a' ++ b', keyTest P kt k x.key = some false := by
  intro x hx
  have h1 : (x.key, x.val) ∈ la ++ lb := hp2.mem_iff.2 (List.mem_map.2 ⟨x, hx, rfl⟩)
  have h2 : x.key ∈ (la ++ lb).map (·.1) := List.mem_map.2 ⟨_, h1, rfl⟩
  rw [(k1.join k4).keys] at h2
  obtain ⟨y, hy, hk⟩ := List.mem_map.1 h2
  rw [← hk]
  rcases List.mem_append.1 hy with hy | hy
  ·exact h4 y hy
  ·exact h5 y hy
 exact ⟨a, b, a', b', e', rfl, by omega, rfl, hek, k2, hek ▸ h3, fun x hx => hall x (by simp [hx]), fun x hx => hall x (by simp [hx]), ⟨la, lb, k1, k4, hp2⟩, k3⟩
theorem keyFine_run {P : Program} {kt : TypeId} {k : Value} {b : Bool} (h : keyFine P kt k b = true) (w : World) : (Instr.checkKey b 10000 kt k).run P w = .ok () w ∧ plainV 9 k = true := by
 unfold keyFine at h
 rw [Bool.and_eq_true] at h
 obtain ⟨u, hu⟩ := Option.isSome_iff_exists.1 h.2
 exact ⟨pureRun_run _ _ hu w, h.1⟩
def tst (P : Program) (kt : TypeId) (k : Value) (v : Value) : Bool := (keyTest P kt k v).getD false
theorem tst_of {P : Program} {kt : TypeId} {k v : Value} {b : Bool} (h : keyTest P kt k v = some b) : keyTest P kt k v = some (tst P kt k v) ∧ tst P kt k v = b := by
 unfold tst
 rw [h]
 exact ⟨rfl, rfl⟩
theorem zero_run {P : Program} {t : TypeId} {z : Value} (h : (P.info? t).bind (·.zero) = some z) (w : World) : (zeroValue t).run P w = .ok z w := by
 cases hi : P.info? t with
 | none => rw [hi] at h; cases h
 | some i =>
  rw [hi, Option.bind_some] at h
  simp [zeroValue, typeInfo, hi, h]
theorem checkKey_under {P : Program} {kt : TypeId} {k : Value} {b : Bool} (h : keyFine P kt k b = true) : ∃ d, P.underlying kt = some d := by
 cases hd : P.underlying kt with
 | some d => exact ⟨d, rfl⟩
 | none =>
  unfold keyFine at h
  rw [Bool.and_eq_true] at h
  have : pureRun P (Instr.checkKey b 10000 kt k) = none := by
   rw [show (10000 : Nat) = 9999 + 1 from rfl]
   unfold Instr.checkKey
   change pureRun P ((underlying kt).bind _) = none
   unfold underlying
   change pureRun P (((match P.underlying kt with | some d => pure d | none => stuck "no such type" : Sem TypeDesc)).bind _) = none
   rw [hd]
   rfl
  rw [this] at h
  simp at h
theorem lookA_ok {P : Program} (G : Good P) {ρ : Ren} {A A1 : AW} {w : World} (hr : Rel ρ A w) {ty : TypeId} {m m' k k' v : Value} {ok : Bool} (hm : VR ρ m m') (hk : VR ρ k k') (e : lookA P ty m k ok A = some (v, A1)) : Ok P (Instr.lookup ty m' k' ok) w ρ A v A1 := by
 unfold lookA at e
 split at e
 ·rename_i kt et r ht
  split at e
  ·cases e
  ·rename_i es hes
   split at e
   ·rename_i hkf
    obtain ⟨hck, hpk⟩ := keyFine_run hkf w
    obtain ⟨d, hd⟩ := checkKey_under hkf
    have hkk := VR.plain_eq 9 k k' hpk hk
    subst hkk
    obtain ⟨es', hrun, hmr, hemp⟩ : ∃ es' : Array MapEntry, (∀ f : Array MapEntry → Sem Value, ((do
      let es ← match m' with
       | .map none => pure #[]
       | .map (some r) => do
        let .map es _ ← getObj r | stuck "Lookup: map expected"
        pure es
       | _ => stuck "Lookup: map expected"
      f es) : Sem Value).run P w = (f es').run P w) ∧ MapR ρ es es'.toList ∧ es'.isEmpty = es.isEmpty := by
     cases r with
     | none =>
      cases hm
      cases hes
      exact ⟨#[], fun f => rfl, ⟨[], .nil, .nil⟩, rfl⟩
     | some i =>
      cases hm with
      | map hh =>
       rename_i L
       simp only [mapOf] at hes
       cases hB : A.get i with
       | none => rw [hB] at hes; cases hes
       | some B =>
        rw [hB] at hes
        cases B with
        | map es0 =>
         cases hes
         obtain ⟨es', clk, h1, h2⟩ := hr.blk i L _ hh hB
         refine ⟨es', fun f => ?_, h2, ?_⟩
         ·simp [getObj, Sem.run, h1]
         ·obtain ⟨l, hp, he⟩ := h2
          have e1 := hp.length_eq
          have e2 := he.length
          simp only [List.length_map, Array.length_toList] at e1
          rw [Bool.eq_iff_iff, Array.isEmpty_iff_size_eq_zero, List.isEmpty_iff_length_eq_zero]
          omega
        | cells c ro kd => cases hes
        | iter s p => cases hes
    have hlook : (Instr.lookup ty m' k ok).run P w = ((do
      Instr.checkKey es'.isEmpty 10000 kt k
      let (v, ok') ← match ← Instr.findKey kt k es'.toList with
       | some (_, v) => pure (v, true)
       | none => pure (← zeroValue et, false)
      pure (if ok then .tuple #[v, .bool ok'] else v)) : Sem Value).run P w := by
     unfold Instr.lookup
     rw [Sem.run_bind, run_und ht]
     exact hrun _
    rw [← hemp] at hck
    split at e
    ·rename_i j e0 z hf hz
     cases e
     obtain ⟨a, b, a', b', e', h1, h2, h3, h4, h5, h6, h7, h8, _, _⟩ := mapR_some hmr hf
     have hfind := run_findKey w es'.toList (T := tst P kt k) (fun x hx => by
      rw [h3] at hx
      rcases List.mem_append.1 hx with hx | hx
      ·exact (tst_of (h7 x hx)).1
      ·rcases List.mem_cons.1 hx with rfl | hx
       ·exact (tst_of h6).1
       ·exact (tst_of (h8 x hx)).1) hd
     have hval : firstT (tst P kt k) es'.toList 0 = some (0 + a'.length, e'.val) := by rw [h3]; exact firstT_mid a' e' b' 0 (fun x hx => (tst_of (h7 x hx)).2) (tst_of h6).2
     rw [hval] at hfind
     refine Ok.same hr (v' := if ok then .tuple #[e'.val, .bool true] else e'.val) ?_ ?_
     ·rw [hlook]; simp [hck, hfind]
     ·cases ok with
      | true => exact VR.tupleL (.cons h5 (.cons (.bool true) .nil))
      | false => exact h5
    ·rename_i z hf hz
     split at e
     case isFalse => cases e
     rename_i hzp
     cases e
     have hzr := zero_run (P := P) hz w
     have hno := mapR_none hmr hf
     have hfind := run_findKey w es'.toList (T := tst P kt k) (fun x hx => (tst_of (hno x hx)).1) hd
     rw [firstT_none _ _ fun x hx => (tst_of (hno x hx)).2] at hfind
     refine Ok.same hr (v' := if ok then .tuple #[z, .bool false] else z) ?_ ?_
     ·rw [hlook]; simp [hck, hfind, hzr]
     ·cases ok with
      | true => exact VR.tupleL (.cons (VR.plain 20 z hzp) (.cons (.bool false) .nil))
      | false => exact VR.plain 20 z hzp
    ·cases e
   ·cases e
 ·cases e
theorem getObj_run {P : Program} {r : Nat} {es : Array MapEntry} {clk : Nat} {w : World} (h : w.heap[r]? = some (.map es clk)) : (getObj r).run P w = .ok (.map es clk) w := by
 simp [getObj, Sem.run, h]
theorem setObj_run {P : Program} {r : Nat} {es es2 : Array MapEntry} {clk clk2 : Nat} {w : World} (h : w.heap[r]? = some (.map es clk)) : (setObj r (.map es2 clk2)).run P w = .ok () { w with heap := w.heap.setIfInBounds r (.map es2 clk2) } := by
 simp [setObj, Sem.run, h]
theorem updA_ok {P : Program} {ρ : Ren} {A A1 : AW} {w : World} (hr : Rel ρ A w) {ty : TypeId} {m m' k k' x x' v : Value} (hm : VR ρ m m') (hk : VR ρ k k') (hx : VR ρ x x') (e : updA P ty m k x A = some (v, A1)) :
  v = undef ∧ ∃ w1, (Instr.mapUpdate ty m' k' x').run P w = .ok () w1 ∧ Rel ρ A1 w1 ∧ Fr ρ A w ρ A1 w1 := by
 unfold updA at e
 split at e
 ·rename_i kt et i ht
  split at e
  ·rename_i es hB
   split at e
   ·rename_i hkf
    obtain ⟨hck, hpk⟩ := keyFine_run hkf w
    obtain ⟨d, hd⟩ := checkKey_under hkf
    have hkk := VR.plain_eq 9 k k' hpk hk
    subst hkk
    cases hm with
    | map hh =>
     rename_i L
     obtain ⟨es', clk, h1, hmr⟩ := hr.blk i L _ hh hB
     have hob := getObj_run (P := P) h1
     have hin : L.b < w.heap.size := hr.lt hh hB rfl
     split at e
     ·rename_i j e0 hf
      split at e
      ·rename_i hsb
       cases e
       refine ⟨rfl, ?_⟩
       obtain ⟨a, b, a', b', e', q1, q2, q3, q4, q5, q6, q7, q8, ⟨la, lb, q9, q10, q11⟩, q12⟩ := mapR_some hmr hf
       have hfind := run_findKey w es'.toList (T := tst P kt k) (fun x hx => by
        rw [q3] at hx
        rcases List.mem_append.1 hx with hx | hx
        ·exact (tst_of (q7 x hx)).1
        ·rcases List.mem_cons.1 hx with rfl | hx
         ·exact (tst_of q6).1
         ·exact (tst_of (q8 x hx)).1) hd
       have hval : firstT (tst P kt k) es'.toList 0 = some (0 + a'.length, e'.val) := by rw [q3]; exact firstT_mid a' e' b' 0 (fun x hx => (tst_of (q7 x hx)).2) (tst_of q6).2
       rw [hval, Nat.zero_add] at hfind
       have hget : es'[a'.length]? = some e' := by
        rw [← Array.getElem?_toList, q3]
        simp
       have hks : (Instr.keyThatStays e'.key k).run P w = .ok k w := by
        rw [q4]
        unfold Instr.keyThatStays
        rw [if_pos hsb]
        rfl
       obtain ⟨E, hE⟩ : ∃ E : Array MapEntry, E = es'.modify a'.length (fun e : MapEntry => ({ e with key := k, val := x' } : MapEntry)) := ⟨_, rfl⟩
       have hset := setObj_run (P := P) (es2 := E) (clk2 := clk) h1
       refine ⟨{ w with heap := w.heap.setIfInBounds L.b (.map E clk) }, ?_, ?_⟩
       ·rw [hE] at hset ⊢
        simp [Instr.mapUpdate, run_und ht, hob, hck, hfind, hget, hks, hset]
       ·refine hr.change hh hB rfl (.map (es.set j (k, x))) rfl (by simp) (fun l hl => by simp [Array.getElem?_setIfInBounds_ne (Ne.symm hl)]) ?_ rfl rfl rfl
        refine ⟨E, clk, by simp [hin], ?_⟩
        refine ⟨la ++ (k, x') :: lb, ?_, ?_⟩
        ·have : E.toList = a' ++ { e' with key := k, val := x' } :: b' := by
          rw [hE, Array.toList_modify, q3]
          clear hE q3 hget hval hfind hset q5 q6 q7 q11
          induction a' with
          | nil => rfl
          | cons y a' ih => simpa using ih
         rw [this, List.map_append, List.map_cons]
         refine List.perm_middle.trans (.trans ?_ List.perm_middle.symm)
         refine .cons _ ?_
         rw [← List.map_append]
         exact q11
        ·rw [q1, q2, List.set_append_right _ _ (Nat.le_refl _), Nat.sub_self, List.set_cons_zero]
         exact q9.join (.cons hx hpk q10)
      ·cases e
     ·rename_i hf
      cases e
      refine ⟨rfl, ?_⟩
      have hno := mapR_none hmr hf
      have hfind := run_findKey w es'.toList (T := tst P kt k) (fun x hx => (tst_of (hno x hx)).1) hd
      rw [firstT_none _ _ fun x hx => (tst_of (hno x hx)).2] at hfind
      obtain ⟨E, hE⟩ : ∃ E : Array MapEntry, E = es'.push ({ key := k, val := x', born := clk } : MapEntry) := ⟨_, rfl⟩
      have hset := setObj_run (P := P) (es2 := E) (clk2 := clk + 1) h1
      refine ⟨{ w with heap := w.heap.setIfInBounds L.b (.map E (clk + 1)) }, ?_, ?_⟩
      ·rw [hE] at hset ⊢
       simp [Instr.mapUpdate, run_und ht, hob, hck, hfind, hset]
      ·refine hr.change hh hB rfl (.map (es ++ [(k, x)])) rfl (by simp) (fun l hl => by simp [Array.getElem?_setIfInBounds_ne (Ne.symm hl)]) ?_ rfl rfl rfl
       refine ⟨E, clk + 1, by simp [hin], ?_⟩
       obtain ⟨l, hp, he⟩ := hmr
       refine ⟨l ++ [(k, x')], ?_, he.join (.cons hx hpk .nil)⟩
       rw [hE, Array.toList_push, List.map_append]
       exact hp.append_right _
     ·cases e
   ·cases e
  ·cases e
 ·cases e
theorem strBytes_ok {P : Program} {ρ : Ren} {A A1 : AW} {w : World} (hr : Rel ρ A w) {elem : TypeId} {s : ByteArray} {v : Value} (e : strBytes s A = some (v, A1)) : Ok P (Conv.stringToBytes elem s) w ρ A v A1 := by
 unfold strBytes at e
 cases e
 obtain ⟨cap, hcap, hrun⟩ : ∃ cap, s.size ≤ cap ∧ (Conv.stringToBytes elem s).run P w = .ok (.slice (some ⟨w.heap.size, 0, none⟩) s.size cap)
   ((w.drew.alloc (.cells ((s.data.map fun b => Value.int .u8 b.toNat) ++ Array.replicate (cap - s.size) (.int .u8 0)) elem)).freeze { block := w.heap.size, off := cap } 1) := by
  refine ⟨(Question.appendCap s.size 0 elem).cut (w.tape w.drawn (.appendCap s.size 0 elem)), by simp [Question.cut], ?_⟩
  have hsz : s.size + ((Question.appendCap s.size 0 elem).cut (w.tape w.drawn (.appendCap s.size 0 elem)) - s.size) = (Question.appendCap s.size 0 elem).cut (w.tape w.drawn (.appendCap s.size 0 elem)) := by
   have : s.size ≤ (Question.appendCap s.size 0 elem).cut (w.tape w.drawn (.appendCap s.size 0 elem)) := by simp [Question.cut]
   omega
  have hds : s.data.size = s.size := rfl
  have hsh : ∀ D, (w.drew.alloc (.cells D elem)).shape? w.heap.size = some (elem, D.size) := fun D => by
   have h0 : (w.drew.alloc (.cells D elem)).heap = w.heap.push (.cells D elem) := rfl
   unfold World.shape?
   rw [h0, Array.getElem?_push_size]
  simp [Conv.stringToBytes, Question.forced, newRow, markStringish, hsh, hds, hsz]
 obtain ⟨D, hD⟩ : ∃ D, D = (s.data.map fun b => Value.int .u8 b.toNat) ++ Array.replicate (cap - s.size) (Value.int .u8 0) := ⟨_, rfl⟩
 rw [← hD] at hrun
 have hDs : D.size = cap := by
  rw [hD, Array.size_append, Array.size_map, Array.size_replicate]
  have : s.data.size = s.size := rfl
  omega
 have hx := hr.up_ext ⟨w.heap.size, 0, .loose 1, cap⟩
 have hnou : ((s.data.map fun b => Value.int .u8 b.toNat).toList).any isU32 = false := by
  rw [List.any_eq_false]
  intro u hu
  simp only [Array.toList_map, List.mem_map] at hu
  obtain ⟨_, _, rfl⟩ := hu
  simp [isU32]
 have hheap : ∀ j : Nat, ((w.drew.alloc (.cells D elem)).freeze { block := w.heap.size, off := cap } 1).heap[j]? = if j = w.heap.size then some (.cells D elem (cap, cap + 1)) else w.heap[j]? := by
  intro j
  unfold World.freeze
  rw [if_neg (by decide)]
  have h0 : (w.drew.alloc (.cells D elem)).heap = w.heap.push (.cells D elem) := rfl
  rw [h0, Array.getElem?_modify, Array.getElem?_push]
  by_cases hj : j = w.heap.size
  ·subst hj; simp
  ·rw [if_neg (Ne.symm hj), if_neg hj, if_neg hj]
 obtain ⟨r1, r2⟩ := hr.add (w1 := (w.drew.alloc (.cells D elem)).freeze { block := w.heap.size, off := cap } 1) ⟨w.heap.size, 0, .loose 1, cap⟩ (.cells (s.data.map fun b => Value.int .u8 b.toNat).toList (((s.data.map fun b => Value.int .u8 b.toNat).toList).any isU32) (.loose 1))
  (by unfold World.freeze; rw [if_neg (by decide)]; simp) (fun k hk => by rw [hheap, if_neg (Nat.ne_of_lt hk)])
  (by
   refine ⟨rfl, .inr ⟨D, elem, (cap, cap + 1), by rw [hheap, if_pos rfl], fun j u hj => ?_, fun _ => ⟨?_, .inr ?_, fun _ _ => ?_, ?_⟩⟩⟩
   ·refine ⟨u, ?_, ?_⟩
    ·have hlt := (List.getElem?_eq_some_iff.1 hj).1
     rw [hD, Array.getElem?_append_left (by simpa using hlt)]
     simp only [Nat.zero_add]
     rw [← Array.getElem?_toList]
     exact hj
    ·have hm := List.mem_of_getElem? hj
     simp only [Array.toList_map, List.mem_map] at hm
     obtain ⟨_, _, rfl⟩ := hm
     exact .int _ _
   ·have : s.data.size = s.size := rfl
    simp only [Nat.zero_add, Array.length_toList, Array.size_map]
    omega
   ·simp [hDs]
   ·simp [hDs]
   ·intro j u hj
    rw [hD, Array.getElem?_append] at hj
    split at hj
    ·rw [List.any_eq_false] at hnou
     have := hnou u (by rw [← Array.getElem?_toList] at hj; exact List.mem_of_getElem? hj)
     simpa using this
    ·have hm := Array.mem_of_getElem? hj
     rw [Array.mem_replicate] at hm
     rw [hm.2]
     rfl)
  (fun _ => Nat.le_refl _) (fun _ hs j M C h3 h4 h5 => Nat.ne_of_lt (hr.lt h3 h4 (mut_solid h5))) (by unfold World.freeze; rw [if_neg (by decide)]; rfl) (by unfold World.freeze; rw [if_neg (by decide)]; rfl) (by unfold World.freeze; rw [if_neg (by decide)]; rfl)
 exact ⟨_, _, _, hrun, r1, r2, .sloose (L := ⟨w.heap.size, 0, .loose 1, cap⟩) _ _ _ 1 (by simp [Ren.up]) rfl hcap (by simp)⟩
end Go.Proofs.YtpegcppeobndcaaGreatDoor.Abs
