/- The small machine: what it does, step by step. Nothing is proved here. -/
import Derived.Test.YtajbnfidcpfonaaDoorR0
namespace Go.Proofs.Rx
open Go Go.RowKit
set_option linter.unusedVariables false

abbrev Fr := List AV
abbrev Hp := List Blk
/-- What a function answers: some plain thing, or none, and how it is told as a value. -/
inductive Out : Type 1 where
  | mk (τ : Type) (x : Option τ) (out : τ → AV)
abbrev Tells := List AV → Option Out

/-- Laid open, as the kernel evaluates by name: a list's spine; a value's head; a value and its cells. -/
def forceL {α β : Type} : List α → (List α → Option β) → Option β
  | [], k => k []
  | a :: l, k => forceL l fun l => k (a :: l)
def head1 {β : Type} (a : AV) (k : AV → Option β) : Option β :=
  match a with
  | .junk => k .junk
  | .int i n => k (.int i n)
  | .bool b => k (.bool b)
  | .str s => k (.str s)
  | .ptr b o => k (.ptr b o)
  | .agg l => k (.agg l)
  | .tup l => k (.tup l)
  | .fn f l m => k (.fn f l m)
  | .val v => k (.val v)
  | .seq c l => k (.seq c l)
  | .sl b o n c => k (.sl b o n c)
def forceC {β : Type} : List AV → (List AV → Option β) → Option β
  | [], k => k []
  | a :: l, k => head1 a fun a => forceC l fun l => k (a :: l)
def headK {β : Type} (a : AV) (k : AV → Option β) : Option β :=
  match a with
  | .junk => k .junk
  | .int i n => k (.int i n)
  | .bool b => k (.bool b)
  | .str s => k (.str s)
  | .ptr b o => k (.ptr b o)
  | .agg l => forceC l fun l => k (.agg l)
  | .tup l => forceC l fun l => k (.tup l)
  | .fn f l m => forceC l fun l => forceC m fun m => k (.fn f l m)
  | .val v => k (.val v)
  | .seq c l => k (.seq c l)
  | .sl b o n c => k (.sl b o n c)
def forceB {β : Type} (b : Blk) (k : Blk → Option β) : Option β :=
  match b with
  | ⟨e, l, o⟩ => forceC l fun l => match o with
    | true => k ⟨e, l, true⟩
    | false => k ⟨e, l, false⟩

section
variable {α : Type} (P : Program) (Γ : List (Nat × Tells)) (gl : List (Nat × Nat))

def ev (fr : Fr) : Operand → AV
  | .tmp t => fr.getD t .junk
  | .const v => ofV v
  | .global g => match gl.lookup g with | some i => .ptr i 0 | none => .val (.pointer (some ⟨g, 0, none⟩))
  | .func f => .fn f [] []

def putA (fr : Fr) (dst : Option Tmp) (v : AV) : Fr := match dst with | some d => fr.set d v | none => fr

def isAggT (t : TypeId) : Option Bool :=
  match P.underlying t with
  | some (.struct _) => some true
  | some (.array _ _) => some true
  | some _ => some false
  | none => none

def szT (t : TypeId) : Option Nat := (P.info? t).map (·.size)

/-- A part of written-out cells. -/
def partA (t : TypeId) (cs : List AV) (off : Nat) : Option AV :=
  match isAggT P t, szT P t with
  | some true, some n => if off + n ≤ cs.length then some (.agg ((cs.drop off).take n)) else none
  | some false, _ => cs[off]?
  | _, _ => none

def loadA (h : Hp) (t : TypeId) : AV → Option AV
  | .ptr b o => match h[b]? with
    | some k => partA P t k.cells o
    | none => none
  | _ => none

/-- The block that is written, and how it reads then. -/
def storeA (h : Hp) (t : TypeId) (p v : AV) : Option (Nat × Blk) :=
  match p with
  | .ptr b o => match h[b]?, szT P t with
    | some k, some n => if k.own && v.known && (v.cells.length == n) && decide (o + n ≤ k.cells.length) then some (b, ⟨k.elem, k.cells.take o ++ v.cells ++ k.cells.drop (o + n), true⟩) else none
    | _, _ => none
  | _ => none

def zeroA (t : TypeId) : Option (List AV) :=
  match P.info? t with
  | some i => match i.zero with
    | some z => some (z.cells.toList.map ofC)
    | none => none
  | none => none

def fieldsT (t : TypeId) : Option (List Field) := match P.underlying t with | some (.struct fs) => some fs.toList | _ => none

/-- Parts laid into cells. -/
def fillA (place : Nat → Option (Nat × Nat)) (cells : List AV) : List (Nat × AV) → Option (List AV)
  | [] => some cells
  | (i, v) :: rest => match place i with
    | none => none
    | some (off, size) => if v.known && (v.cells.length == size) && decide (off + size ≤ cells.length) then fillA place (cells.take off ++ v.cells ++ cells.drop (off + size)) rest else none

def buildA (t : TypeId) (parts : List (Nat × AV)) : Option AV :=
  match P.info? t, P.underlying t with
  | some it, some (.array _ e) =>
    match it.zero, P.info? e with
    | some z, some ie => (fillA (fun i => some (i * ie.size, ie.size)) (z.cells.toList.map ofC) parts).map .agg
    | _, _ => none
  | some it, some (.struct fields) =>
    match it.zero, fields.toList.mapM (fun f => (P.info? f.type).map fun i => (f.offset, i.size)) with
    | some z, some places => (fillA (places[·]?) (z.cells.toList.map ofC) parts).map .agg
    | _, _ => none
  | _, _ => none

/-- Equality of cells: of numbers, bools and texts alone. -/
def eqCell (t : TypeId) : AV → AV → Option Bool
  | .int k a, .int k' b => match P.underlying t with
    | some (.int _) => if k = k' then some (a == b) else none
    | _ => none
  | .bool a, .bool b => match P.underlying t with
    | some .bool => some (a == b)
    | _ => none
  | .str a, .str b => match P.underlying t with
    | some .string => some (a.toList == b.toList)
    | _ => none
  | _, _ => none

def eqFieldsA (xs ys : List AV) : List Field → Option Bool
  | [] => some true
  | f :: fs => if f.name == "_" then none else
    match isAggT P f.type, xs[f.offset]?, ys[f.offset]? with
    | some false, some a, some b => match eqCell P f.type a b, eqFieldsA xs ys fs with
      | some p, some q => some (p && q)
      | _, _ => none
    | _, _, _ => none

def eqA (t : TypeId) : AV → AV → Option Bool
  | .agg xs, .agg ys => match P.underlying t with
    | some (.struct fs) => if P.stoodInHeld t || P.eqGuardType P.depth t then none else eqFieldsA P xs ys fs.toList
    | _ => none
  | .int k a, .int k' b => if k = k' then some (a == b) else none
  | .bool a, .bool b => match P.underlying t with
    | some .bool => some (a == b)
    | _ => none
  | .str a, .str b => some (a.toList == b.toList)
  | _, _ => none

def intA (op : BinOp) (i : IntKind) (a : Int) (j : IntKind) (b : Int) (k : AV → Option α) : Option α :=
  match op with
  | .shl => if 0 ≤ b then k (.int i (i.wrap (a * 2 ^ (min b.toNat i.bits)))) else none
  | .shr => if 0 ≤ b then k (.int i (a.fdiv (2 ^ (min b.toNat i.bits)))) else none
  | .add => if i = j then k (.int i (i.wrap (a + b))) else none
  | .sub => if i = j then k (.int i (i.wrap (a - b))) else none
  | .mul => if i = j then k (.int i (i.wrap (a * b))) else none
  | .quo => if i = j then (if b = 0 then none else k (.int i (i.wrap (a.tdiv b)))) else none
  | .rem => if i = j then (if b = 0 then none else k (.int i (a.tmod b))) else none
  | .lss => if i = j then k (.bool (decide (a < b))) else none
  | .leq => if i = j then k (.bool (decide (a ≤ b))) else none
  | .gtr => if i = j then k (.bool (decide (a > b))) else none
  | .geq => if i = j then k (.bool (decide (a ≥ b))) else none
  | _ => none

def strA (op : BinOp) (a b : ByteArray) (k : AV → Option α) : Option α :=
  match op with
  | .add => if ((a.size + b.size : Nat) : Int) > IntKind.i64.max then none else k (.str (a ++ b))
  | .lss => k (.bool (Op.bytesLess a.toList b.toList))
  | .leq => k (.bool (Op.bytesLess a.toList b.toList || a.toList == b.toList))
  | .gtr => k (.bool (!(Op.bytesLess a.toList b.toList || a.toList == b.toList)))
  | .geq => k (.bool (!Op.bytesLess a.toList b.toList))
  | _ => none

def binA (op : BinOp) (t : TypeId) (x y : AV) (k : AV → Option α) : Option α :=
  match op with
  | .eql => match eqA P t x y with | some b => k (.bool b) | none => none
  | .neq => match eqA P t x y with | some b => k (.bool (!b)) | none => none
  | op => match x, y with
    | .int i a, .int j b => intA op i a j b k
    | .str a, .str b => strA op a b k
    | _, _ => none

def unA (op : UnOp) (x : AV) (k : AV → Option α) : Option α :=
  match op, x with
  | .neg, .int i n => k (.int i (i.wrap (0 - n)))
  | .not, .bool b => k (.bool (!b))
  | _, _ => none

def pickA (c a b : AV) (k : AV → Option α) : Option α :=
  match c with
  | .bool c => match c with
    | true => k a
    | false => k b
  | _ => none

/-- A byte of a text. -/
def byteAt (s : ByteArray) (i : Int) : Int := ((s.data.toList.getD i.toNat 0).toNat : Int)

/-- Cells that are all bytes. -/
def bytesA : List AV → Option (List Int)
  | [] => some []
  | .int .u8 n :: l => (bytesA l).map (n :: ·)
  | _ :: _ => none
def bytesOf (l : List Int) : ByteArray := ⟨(l.map fun n => UInt8.ofNat n.toNat).toArray⟩

def convA (h : Hp) (src dst : TypeId) (x : AV) (k : AV → Option α) : Option α :=
  match P.underlying src, P.underlying dst, x with
  | some (.slice e), some .string, .sl b o n _ => match P.underlying e, h[b]? with
    | some (.int .u8), some c => if o + n ≤ c.cells.length then (match bytesA ((c.cells.drop o).take n) with | some l => k (.str (bytesOf l)) | none => none) else none
    | _, _ => none
  | some (.int _), some (.int j), .int i n => k (.int j (j.wrap n))
  | some .string, some .string, .str s => k (.str s)
  | _, _, _ => none

def fieldAddrA (t : TypeId) (x : AV) (f : Nat) : Option AV :=
  match P.underlying t, x with
  | some (.struct fs), .ptr b o => match fs[f]? with
    | some q => match szT P q.type with
      | some n => if n = 0 then none else some (.ptr b (o + q.offset))
      | none => none
    | none => none
  | _, _ => none

def fieldA (t : TypeId) (x : AV) (f : Nat) : Option AV :=
  match P.underlying t, x with
  | some (.struct fs), .agg l => match fs[f]? with
    | some q => partA P q.type l q.offset
    | none => none
  | _, _ => none

def sliceStrA (s : ByteArray) (lo hi : AV) (k : AV → Option α) : Option α :=
  match lo, hi with
  | .int _ l, .int _ h => if 0 ≤ h ∧ h ≤ (s.size : Int) then (if 0 ≤ l ∧ l ≤ h then k (.str (s.extract l.toNat h.toNat)) else none) else none
  | _, _ => none

def builtinA (b : Builtin) (argTypes : Array TypeId) (args : List AV) (k : AV → Option α) : Option α :=
  match b, args with
  | .len, [.str s] => match (argTypes[0]?).bind P.underlying with
    | some .string => k (.int .i64 s.size)
    | _ => none
  | .len, [.sl _ _ n _] => match (argTypes[0]?).bind P.underlying with
    | some (.slice _) => k (.int .i64 n)
    | _ => none
  | .len, [.val (.slice _ n _)] => match (argTypes[0]?).bind P.underlying with
    | some (.slice _) => k (.int .i64 n)
    | _ => none
  | .len, [.seq _ l] => match (argTypes[0]?).bind P.underlying with
    | some (.slice _) => k (.int .i64 l.length)
    | _ => none
  | .min, [.int i x, .int j y] => k (.int i (if y < x then y else x))
  | .max, [.int i x, .int j y] => k (.int i (if y > x then y else x))
  | _, _ => none

/-- The address of an element. -/
def indexAddrA (t : TypeId) (x i : AV) (k : AV → Option α) : Option α :=
  match P.underlying t, x, i with
  | some (.slice e), .sl b o n _, .int _ j => match szT P e with
    | some z => if 0 ≤ j ∧ j < (n : Int) then k (.ptr b (o + j.toNat * z)) else none
    | none => none
  | some (.array n e), .ptr b o, .int _ j => match szT P e with
    | some z => if 0 ≤ j ∧ j < (n : Int) then k (.ptr b (o + j.toNat * z)) else none
    | none => none
  | _, _, _ => none

/-- An operation that writes nothing. -/
def quietA (fr : Fr) (h : Hp) (op : Op) (k : AV → Option α) : Option α :=
  match op with
  | .move x => k (ev gl fr x)
  | .assign x => k (ev gl fr x)
  | .pick c a b => pickA (ev gl fr c) (ev gl fr a) (ev gl fr b) k
  | .build t parts => match buildA P t (parts.toList.map fun p => (p.1, ev gl fr p.2)) with | some v => k v | none => none
  | .load t p => match loadA P h t (ev gl fr p) with | some v => k v | none => none
  | .nilCheck x => match ev gl fr x with | .ptr b o => k (.ptr b o) | _ => none
  | .binOp o t x y _ => binA P o t (ev gl fr x) (ev gl fr y) k
  | .unOp o _ x => unA o (ev gl fr x) k
  | .convert s d x => convA P h s d (ev gl fr x) k
  | .fieldAddr t x f => match fieldAddrA P t (ev gl fr x) f with | some v => k v | none => none
  | .indexAddr t x i => indexAddrA P t (ev gl fr x) (ev gl fr i) k
  | .field t x f => match fieldA P t (ev gl fr x) f with | some v => k v | none => none
  | .index t x i => match P.underlying t, ev gl fr x, ev gl fr i with
    | some .string, .str s, .int _ n => if 0 ≤ n ∧ n < (s.size : Int) then k (.int .u8 (byteAt s n)) else none
    | _, _, _ => none
  | .slice t x lo hi mx => match P.underlying t, ev gl fr x, mx with
    | some .string, .str s, none => sliceStrA s (match lo with | some l => ev gl fr l | none => .int .i64 0) (match hi with | some l => ev gl fr l | none => .int .i64 s.size) k
    | _, _, _ => none
  | .extract x i => match ev gl fr x with
    | .tup l => match l[i]? with | some v => k v | none => none
    | _ => none
  | .makeFunc (.func f) first cap => k (.fn f (first.toList.map (ev gl fr)) (cap.toList.map (ev gl fr)))
  | .call c => match c.callee with
    | .builtin b => builtinA P b c.argTypes (c.args.toList.map (ev gl fr)) k
    | .value x => match ev gl fr x with
      | .fn f first cap => match Γ.lookup f with
        | some s => match s (first ++ c.args.toList.map (ev gl fr) ++ cap) with
          | some (.mk _ x out) => x.bind fun r => k (out r)
          | none => none
        | none => none
      | _ => none
    | _ => none
  | _ => none

/-- The cells of a slice that is written out. -/
def rowA (t : TypeId) (len : Nat) (parts : List (Nat × AV)) : Option (TypeId × List AV) :=
  match P.underlying t with
  | some (.slice e) => match P.info? e with
    | some ie => match ie.zero with
      | some z => if ie.size = z.cells.size ∧ 0 < ie.size ∧ len * ie.size ≤ 16777216 then
          (fillA (fun i => some (i * ie.size, ie.size)) (List.replicate len (z.cells.toList.map ofC)).flatten parts).map fun l => (e, l)
        else none
      | none => none
    | none => none
  | _ => none

/-- Any operation, in the order of the text. -/
def doA (fr : Fr) (h : Hp) (o : Oper) (k : Fr → Hp → Option α) : Option α :=
  match o.op with
  | .alloc t => match zeroA P t with
    | some z => forceC z fun z => forceL (putA fr o.dst (.ptr h.length 0)) fun fr => forceL (h ++ [⟨t, z, true⟩]) fun h => k fr h
    | none => none
  | .box t x => if (ev gl fr x).known then forceC (ev gl fr x).cells fun z => forceL (putA fr o.dst (.ptr h.length 0)) fun fr => forceL (h ++ [⟨t, z, true⟩]) fun h => k fr h else none
  | .buildSlice t len parts => match rowA P t len (parts.toList.map fun p => (p.1, ev gl fr p.2)) with
    | some (e, l) => forceC l fun l => forceL (putA fr o.dst (.sl h.length 0 len len)) fun fr => forceL (h ++ [⟨e, l, true⟩]) fun h => k fr h
    | none => none
  | .store t p x => match storeA P h t (ev gl fr p) (ev gl fr x) with
    | some (b, c) => forceC c.cells fun l => forceL (h.set b ⟨c.elem, l, true⟩) fun h => forceL (putA fr o.dst .junk) fun fr => k fr h
    | none => none
  | op => quietA P Γ gl fr h op (fun v => headK v fun v => forceL (putA fr o.dst v) fun fr => k fr h)

/-- What stands behind a guard. -/
def guardA (ops : List Oper) (fr : Fr) (o : Oper) (yes no : Fr → Option α) : Option α :=
  match o.guard with
  | none => yes fr
  | some (j, want) => match (ops[j]?).bind (·.dst) with
    | none => none
    | some t => match fr.getD t .junk with
      | .bool b => match b with
        | true => forceL (fr.set t (.bool true)) fun fr => match want with | true => yes fr | false => no fr
        | false => forceL (fr.set t (.bool false)) fun fr => match want with | true => no fr | false => yes fr
      | .tup _ => no fr
      | _ => none

def opsA (ops : List Oper) : List Oper → Fr → Hp → (Fr → Hp → Option α) → Option α
  | [], fr, h, k => k fr h
  | o :: rest, fr, h, k => guardA ops fr o (fun fr => doA P Γ gl fr h o (fun fr h => opsA ops rest fr h k)) (fun fr => forceL (putA fr o.dst (.tup [])) fun fr => opsA ops rest fr h k)

/-- It makes a block, or writes. -/
def acts : Op → Bool
  | .alloc _ => true
  | .box _ _ => true
  | .buildSlice _ _ _ => true
  | .store _ _ _ => true
  | _ => false
/-- It writes into a block that is there. -/
def writes : Op → Bool
  | .store _ _ _ => true
  | _ => false
/-- A quiet one that looks into memory. -/
def readsM : Op → Bool
  | .load _ _ => true
  | .convert _ _ _ => true
  | _ => false

/-- Operations whose order is open: quiet ones, and such as act. -/
def opsQ (ops : List Oper) : List Oper → Fr → Hp → (Fr → Hp → Option α) → Option α
  | [], fr, h, k => k fr h
  | o :: rest, fr, h, k => guardA ops fr o
      (fun fr => match acts o.op with
        | true => doA P Γ gl fr h o (fun fr h => opsQ ops rest fr h k)
        | false => quietA P Γ gl fr h o.op (fun v => headK v fun v => forceL (putA fr o.dst v) fun fr => opsQ ops rest fr h k))
      (fun fr => forceL (putA fr o.dst (.tup [])) fun fr => opsQ ops rest fr h k)

/-- The places that an operation looks at. -/
def looks (ops : List Oper) (o : Oper) : List Tmp :=
  (o.op.operands.toList.filterMap fun | .tmp t => some t | _ => none) ++
  (match o.guard with
   | some (j, _) => ((ops[j]?).bind (·.dst)).toList
   | none => [])

/-- Each operation comes behind those whose places it looks at, and no two write one place: then the order is all one. -/
def orderly (ops : List Oper) : Bool :=
  ops.zipIdx.all fun (o, i) =>
    (o.after.toList.all fun e => !Region.binds .any e || decide (e.on < i)) &&
    (ops.zipIdx.all fun (p, j) => !(acts o.op && acts p.op || readsM o.op && writes p.op || writes o.op && readsM p.op) || decide (i ≤ j) || o.after.toList.any fun e => e.on == j && Region.binds .any e) &&
    (ops.zipIdx.all fun (p, j) => match p.dst with
      | none => true
      | some t => (i == j || o.dst != some t) && (!(looks ops o).contains t || (decide (j < i) && o.after.toList.any fun e => e.on == j && Region.binds .any e)))

/-- What lies in the blocks from m on is given up. -/
def scrub1 (m : Nat) : AV → AV
  | .ptr b o => if b < m then .ptr b o else .junk
  | .sl b o n c => if b < m then .sl b o n c else .junk
  | .agg _ => .junk
  | .tup _ => .junk
  | .fn .. => .junk
  | v => v
def scrub (m : Nat) : AV → AV
  | .ptr b o => if b < m then .ptr b o else .junk
  | .sl b o n c => if b < m then .sl b o n c else .junk
  | .agg l => .agg (l.map (scrub1 m))
  | .tup _ => .junk
  | .fn .. => .junk
  | v => v
def scrubFr (m : Nat) : Fr → Fr → Fr
  | _, [] => []
  | [], _ :: l => .junk :: scrubFr m [] l
  | a :: l0, b :: l => (match a with | .junk => .junk | _ => scrub m b) :: scrubFr m l0 l
def scrubHp (m : Nat) (h : Hp) : Hp := (h.take m).map fun b => ⟨b.elem, b.cells.map (scrub m), b.own⟩

/-- A loop of at most so many rounds. -/
def loopA (m : Nat) (fr0 : Fr) (step : Fr → Hp → (Exit → Fr → Hp → Option α) → Option α) : Nat → Fr → Hp → (Exit → Fr → Hp → Option α) → Option α
  | 0, _, _, _ => none
  | n + 1, fr, h, k => step fr h fun e fr' h' => match e with
    | .normal => if h'.length < m then none else forceL (scrubFr m fr0 fr') fun fr' => forceL (scrubHp m h') fun h' => loopA m fr0 step n fr' h' k
    | e => k e fr' h'

/-- Places that are looked at no more are forgotten (so that ways that meet again read alike). -/
def drops (fr : Fr) : List Nat → Fr
  | [] => fr
  | t :: l => drops (fr.set t .junk) l
def dropsR (J : List (Nat × List Nat)) (id : Nat) (fr : Fr) : Fr := match J.lookup id with | some l => drops fr l | none => fr

/-- A test's place reads as it was decided; or is forgotten (the key 1000000 + place). -/
def fixB (J : List (Nat × List Nat)) (fr : Fr) (c : Operand) (b : Bool) : Fr := match c with
  | .tmp i => match J.lookup (1000000 + i) with
    | some l => drops fr l
    | none => fr.set i (.bool b)
  | _ => fr

def execA (J : List (Nat × List Nat)) (n : Nat) : Code → Fr → Hp → (Exit → Fr → Hp → Option α) → Option α
  | .skip, fr, h, k => k .normal fr h
  | .region id ops draw, fr, h, k =>
    match draw with
    | false => opsA P Γ gl ops.toList ops.toList fr h (fun fr h => forceL (dropsR J id fr) fun fr => k .normal fr h)
    | true => if orderly ops.toList then opsQ P Γ gl ops.toList ops.toList fr h (fun fr h => forceL (dropsR J id fr) fun fr => k .normal fr h) else none
  | .seq a b, fr, h, k => execA J n a fr h fun e fr h => match e with
    | .normal => execA J n b fr h k
    | e => k e fr h
  | .cond c a b, fr, h, k => match ev gl fr c with
    | .bool t => match t with
      | true => forceL (fixB J fr c true) fun fr => execA J n a fr h k
      | false => forceL (fixB J fr c false) fun fr => execA J n b fr h k
    | _ => none
  | .block id c, fr, h, k => execA J n c fr h fun e fr h => match e with
    | .exit i => if i = id then k .normal fr h else k (.exit i) fr h
    | e => k e fr h
  | .loop c, fr, h, k => loopA h.length fr (fun fr h k => execA J n c fr h k) n fr h k
  | .exit i, fr, h, k => k (.exit i) fr h
  | .label _, fr, h, k => k .normal fr h
  | .ret, fr, h, k => k .ret fr h
  | _, _, _, _ => none

def resA (fr : Fr) (h : Hp) : List ResultVar → Option (List AV)
  | [] => some []
  | .tmp t :: rs => (resA fr h rs).map (fr.getD t .junk :: ·)
  | .cell p t :: rs => match loadA P h t (fr.getD p .junk), resA fr h rs with
    | some v, some l => some (v :: l)
    | _, _ => none

def oneA : List AV → AV
  | [v] => v
  | l => .tup l

/-- A function, at arguments. -/
def runA (J : List (Nat × List Nat)) (n : Nat) (fn : Func) (args : List AV) (h : Hp) : Option AV :=
  match fn.body with
  | some c => forceL (args ++ List.replicate (fn.ntmps - args.length) .junk) fun fr => execA P Γ gl J n c fr h fun e fr h => match e with
    | .normal => (resA P fr h fn.results.toList).map oneA
    | .ret => (resA P fr h fn.results.toList).map oneA
    | _ => none
  | none => none
end

end Go.Proofs.Rx
