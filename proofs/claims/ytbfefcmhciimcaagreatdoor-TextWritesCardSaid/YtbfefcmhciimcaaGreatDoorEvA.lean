/- The evaluator: its definitions, and what a run of it stands for. -/
import Derived.AtR
import Derived.Below
import Derived.Calls
import Derived.Defers
import Derived.Laws.Sem
import Derived.Laws.World
section
set_option linter.unusedSimpArgs false
set_option linter.unusedVariables false
namespace Go.Ev
noncomputable section

/-- The value of which nothing is known. -/
def topV : Value := .float .f32 7
/-- `capU + k`: the capacity of which no more is known than that the cells behind the slice are its own, of elements of `k` cells. -/
def capU : Nat := 18446744073709551616

/-- A table by numbers. -/
inductive TT (α : Type) where
  | nil
  | node (l : TT α) (v : α) (r : TT α)
def TT.get {α : Type} (t : TT α) : Nat → Option α :=
  TT.rec (motive := fun _ => Nat → Option α) (fun _ => none)
    (fun _ v _ gl gr i => Nat.rec (motive := fun _ => Option α) (some v)
      (fun j _ => Bool.rec (motive := fun _ => Option α) (gr (Nat.div j 2)) (gl (Nat.div j 2)) (Nat.beq (Nat.mod j 2) 0)) i) t
def TT.set {α : Type} (t : TT α) : Nat → α → TT α :=
  TT.rec (motive := fun _ => Nat → α → TT α) (fun _ _ => .nil)
    (fun l v r gl gr i u => Nat.rec (motive := fun _ => TT α) (.node l u r)
      (fun j _ => Bool.rec (motive := fun _ => TT α) (.node l v (gr (Nat.div j 2) u)) (.node (gl (Nat.div j 2) u) v r) (Nat.beq (Nat.mod j 2) 0)) i) t
def TT.full {α : Type} (v : α) : Nat → TT α
  | 0 => .nil
  | n + 1 => .node (TT.full v n) v (TT.full v n)
def TT.map {α β : Type} (f : α → β) : TT α → TT β
  | .nil => .nil
  | .node l v r => .node (TT.map f l) (f v) (TT.map f r)

structure LoopR where
  st : LoopState
  pend : Option Code
  fn : FuncId
  nt : Nat
  ts : TT Value
  ps : List Tmp
  asg : Code
  body : Code
  dfr : Nat

inductive AObj where
  | cells (c : List Value) (e : TypeId) (fz : Nat) (sg : Bool)
  | map (es : List MapEntry) (clock : Nat)
  | loop (l : LoopR)
  | dfr

def lget {α : Type} (l : List α) : Nat → Option α :=
  List.rec (motive := fun _ => Nat → Option α) (fun _ => none)
    (fun a _ g n => Nat.rec (motive := fun _ => Option α) (some a) (fun m _ => g m) n) l

/-- Blocks, the newest first; a block that is dead holds none. -/
structure Hp where
  next : Nat
  bs : List (Option AObj)

/-- A block that nobody may write to: it is frozen beyond its end. -/
def isRo : AObj → Bool
  | .cells c _ fz _ => Nat.blt c.length fz
  | _ => false

def Hp.get (H : Hp) (b : Nat) : Option AObj :=
  match Nat.blt b H.next with
  | true => (match lget H.bs (H.next - 1 - b) with | some o => o | none => none)
  | false => none
def Hp.put (H : Hp) (b : Nat) (o : Option AObj) : Hp := match H with
  | ⟨n, bs⟩ => match Nat.blt b n with
    | true => ⟨n, bs.set (n - 1 - b) o⟩
    | false => ⟨n, bs⟩
def Hp.alloc (H : Hp) (o : AObj) : Hp := match H with | ⟨n, bs⟩ => ⟨n + 1, some o :: bs⟩
def Hp.allocN (H : Hp) : Hp := match H with | ⟨n, bs⟩ => ⟨n + 1, none :: bs⟩

inductive ADef where
  | call (f : Fn) (args : List Value)
  | coll (b : Nat)

/-- A frame: how many temporaries it has; they; its own memory; the deferred calls. -/
structure Env where
  nt : Nat
  ts : TT Value
  ls : TT (Option (List Value))
  ds : List ADef

inductive Ex where
  | normal
  | exit (id : Nat)
  | ret

inductive ExtK where
  | nop | addr0 | same | mkNoZero (e : TypeId) | load (k : IntKind) | store | cas (k : IntKind) | add (k : IntKind) | idxByte | count | add64 | sub64

structure Tab where
  reg : List (FuncId × List (Nat × List (Nat × List Nat)))
  esc : List (FuncId × List Tmp)
  scr : List (FuncId × List (Nat × List Tmp))
  ext : List (FuncId × ExtK)
  eqs : List TypeId
  pts : List TypeId
  ng : Nat

def look {α : Type} (l : List (Nat × α)) (n : Nat) : Option α :=
  List.rec (motive := fun _ => Option α) none
    (fun p _ g => Prod.rec (motive := fun _ => Option α) (fun k a => Bool.rec (motive := fun _ => Option α) g (some a) (Nat.beq k n)) p) l
def memN (l : List Nat) (n : Nat) : Bool :=
  List.rec (motive := fun _ => Bool) false (fun k _ g => Bool.rec (motive := fun _ => Bool) g true (Nat.beq k n)) l

def isEsc (T : Tab) (fn : FuncId) (t : Tmp) : Bool := match look T.esc fn with | some l => memN l t | none => false

/-- No pointer into the frame. -/
def nl : Value → Bool
  | .pointer (some a) => a.spot.isNone
  | .slice (some a) _ _ => a.spot.isNone
  | _ => true

/-- A value of one cell, of which it is known that it is one. -/
def one : Value → Bool
  | .agg _ => false
  | .tuple _ => false
  | .float _ _ => false
  | _ => true

def cst : Value → Value
  | .bool b => .bool b
  | .int k n => .int k n
  | .string s => .string s
  | .pointer none => .pointer none
  | .slice none l c => .slice none l c
  | .map none => .map none
  | .nilFunc => .nilFunc
  | .nilIface => .nilIface
  | _ => topV

def ev (s : Env) : Operand → Value
  | .tmp t => (match s.ts.get t with | some v => v | none => topV)
  | .const v => cst v
  | .global g => .pointer (some ⟨g, 0, none⟩)
  | .func f => .func (.func f) #[] #[]

def vcells : Value → List Value
  | .agg c => c.toList
  | v => [v]

def sub {α : Type} (c : List α) (off n : Nat) : Option (List α) :=
  let r := (c.drop off).take n
  match Nat.beq r.length n with | true => some r | false => none
/-- `vs` laid into `c` from `off` on. -/
def lay {α : Type} (c : List α) (off : Nat) (vs : List α) : Option (List α) :=
  match Nat.ble (off + vs.length) c.length with
  | true => some (c.take off ++ (vs ++ c.drop (off + vs.length)))
  | false => none

def rd (s : Env) (H : Hp) (a : Addr) (n : Nat) : Option (List Value) :=
  match a.spot with
  | some _ => (match s.ls.get a.block with | some (some c) => sub c a.off n | _ => none)
  | none => (match H.get a.block with | some (.cells c _ _ _) => sub c a.off n | _ => none)

def addA (a : Addr) (n : Nat) : Addr := ⟨a.block, a.off + n, a.spot⟩

def setT (s : Env) (t : Tmp) (v : Value) : Env := match s with
  | ⟨n, ts, ls, ds⟩ => match Nat.blt t n with
    | true => ⟨n, ts.set t v, ls, ds⟩
    | false => ⟨n, ts, ls, ds⟩
def setD (s : Env) (t : Option Tmp) (v : Value) : Env := match t with | some t => setT s t v | none => s
def setL (s : Env) (t : Tmp) (c : Option (List Value)) : Env := match s with
  | ⟨n, ts, ls, ds⟩ => ⟨n, ts, ls.set t c, ds⟩
def pushD (s : Env) (d : ADef) : Env := match s with
  | ⟨n, ts, ls, ds⟩ => ⟨n, ts, ls, d :: ds⟩

def undefV : Value := .tuple #[]

section
variable {α : Type} (P : Program) (T : Tab)

/-- `vs` stored at an address. -/
def wr (s : Env) (H : Hp) (a : Addr) (vs : List Value) (K : Env → Hp → Option α) : Option α :=
  match a.spot with
  | some _ => (match s.ls.get a.block with
    | some (some c) => (match lay c a.off vs with | some c' => K (setL s a.block (some c')) H | none => none)
    | _ => none)
  | none => (match H.get a.block with
    | some (.cells c e fz sg) => (match Nat.ble fz a.off with
      | true => (match lay c a.off vs with | some c' => K s (H.put a.block (some (.cells c' e fz sg))) | none => none)
      | false => none)
    | _ => none)

/-- Is a type one of aggregates; how many cells has it? -/
def tyI (t : TypeId) : Option (Bool × Nat) :=
  match P.info? t with
  | none => none
  | some i => match P.underlying t with
    | none => none
    | some d => some ((match d with | .struct _ => true | .array _ _ => true | _ => false), i.size)

def unc (agg : Bool) (l : List Value) : Option Value :=
  match agg with
  | true => some (.agg ⟨l⟩)
  | false => match l with | [v] => some v | _ => none

def partV (t : TypeId) (cs : List Value) (off : Nat) : Option Value :=
  match tyI P t with
  | none => none
  | some (agg, n) => match agg with
    | true => some (.agg ⟨(cs.drop off).take n⟩)
    | false => lget cs off

def zeroC (t : TypeId) : Option (List Value) :=
  match P.info? t with
  | some i => (match i.zero with | some z => some ((vcells z).map cst) | none => none)
  | none => none
/-- The zero value of a type, as far as it is known. -/
def zeroV (t : TypeId) : Option Value :=
  match P.info? t with
  | some i => (match i.zero with
    | some z => (match z with
      | .agg c => some (.agg ⟨c.toList.map cst⟩)
      | v => some (cst v))
    | none => none)
  | none => none
def szOf (t : TypeId) : Option Nat := match P.info? t with | some i => some i.size | none => none
def byOf (t : TypeId) : Option Nat := match P.info? t with | some i => some i.bytes | none => none

/-- A new variable, in the frame or among the blocks. -/
def mkVar (fn : FuncId) (dst : Option Tmp) (e : TypeId) (c : List Value) (s : Env) (H : Hp) (K : Addr → Env → Hp → Option α) : Option α :=
  match c.all one && c.all nl with
  | false => none
  | true => match dst with
    | none => none
    | some t => match isEsc T fn t with
      | true => K ⟨H.next, 0, none⟩ s (H.alloc (.cells c e 0 false))
      | false => match s.ls.get t with
        | some none => K ⟨t, 0, some 0⟩ (setL s t (some c)) H
        | _ => none

def fillC (place : Nat → Option (Nat × Nat)) : List Value → List (Nat × Value) → Option (List Value)
  | cs, [] => some cs
  | cs, (i, v) :: rest => match place i with
    | none => none
    | some (off, n) => match Nat.beq (vcells v).length n && (vcells v).all one && (vcells v).all nl with
      | false => none
      | true => match lay cs off (vcells v) with
        | some cs' => fillC place cs' rest
        | none => none

def kw (k : IntKind) (n : Int) : Int :=
  match decide (k.min ≤ n) && decide (n ≤ k.max) with
  | true => n
  | false => k.wrap n

def beqB : List UInt8 → List UInt8 → Bool
  | [], [] => true
  | a :: l, b :: m => match Nat.beq a.toNat b.toNat with | true => beqB l m | false => false
  | _, _ => false
def bltB : List UInt8 → List UInt8 → Bool
  | _, [] => false
  | [], _ :: _ => true
  | a :: l, b :: m => match Nat.blt a.toNat b.toNat with
    | true => true
    | false => match Nat.beq a.toNat b.toNat with | true => bltB l m | false => false
def bApp (x y : ByteArray) : ByteArray := ⟨⟨x.data.toList ++ y.data.toList⟩⟩
def bSub (x : ByteArray) (l h : Nat) : ByteArray := ⟨⟨(x.data.toList.drop l).take (h - l)⟩⟩

def bitI (op : BinOp) (k : IntKind) (x y : Int) : Int :=
  match op with
  | .and => k.wrap (BitVec.ofInt k.bits x &&& BitVec.ofInt k.bits y).toNat
  | .or => k.wrap (BitVec.ofInt k.bits x ||| BitVec.ofInt k.bits y).toNat
  | .xor => k.wrap (BitVec.ofInt k.bits x ^^^ BitVec.ofInt k.bits y).toNat
  | _ => k.wrap (BitVec.ofInt k.bits x &&& ~~~ (BitVec.ofInt k.bits y)).toNat

/-- Equality of values of a type whose parts are whole numbers, bools and texts alone. -/
def aeq : Nat → TypeId → Value → Value → Option Bool
  | 0, _, _, _ => none
  | d + 1, t, x, y => match P.underlying t with
    | some .bool => (match x, y with | .bool a, .bool b => some (a == b) | _, _ => none)
    | some (.int _) => (match x, y with | .int k a, .int k' b => (match decide (k = k') with | true => some (a == b) | false => none) | _, _ => none)
    | some .string => (match x, y with | .string a, .string b => some (beqB a.data.toList b.data.toList) | _, _ => none)
    | some (.struct fs) => (match x, y with
      | .agg xs, .agg ys => (match memN T.eqs t with
        | true => fs.toList.foldr (fun f r => match partV P f.type xs.toList f.offset, partV P f.type ys.toList f.offset with
            | some a, some b => (match aeq d f.type a b, r with | some p, some q => some (p && q) | _, _ => none)
            | _, _ => none) (some true)
        | false => none)
      | _, _ => none)
    | _ => none

/-- The operators `==` and `!=` on what is no number and no text. -/
def eqlV (xc : Bool) (t : TypeId) (x y : Value) : Option Bool :=
  match x, y with
  | .bool a, .bool b => (match P.underlying t with | some .bool => some (a == b) | _ => none)
  | .pointer none, .pointer b => (match P.underlying t with | some (.pointer _) => some b.isNone | _ => none)
  | .pointer (some _), .pointer none => (match P.underlying t with | some (.pointer _) => some false | _ => none)
  | .pointer (some a), .pointer (some b) => (match P.underlying t with
    | some (.pointer e) => (match szOf P e with
      | some (_ + 1) => (match a.spot, b.spot with
        | none, none => (match Nat.beq a.block b.block && Nat.beq a.off b.off with | true => some true | false => none)
        | _, _ => none)
      | _ => none)
    | _ => none)
  | .slice none _ _, .slice b _ _ => (match P.underlying t with | some (.slice _) => some b.isNone | _ => none)
  | .slice (some _) _ _, .slice none _ _ => (match P.underlying t with | some (.slice _) => some false | _ => none)
  | .map none, .map b => (match P.underlying t with | some (.map _ _) => some b.isNone | _ => none)
  | .map (some _), .map none => (match P.underlying t with | some (.map _ _) => some false | _ => none)
  | .nilFunc, .nilFunc => (match P.underlying t with | some (.func _ _ _) => some true | _ => none)
  | .nilFunc, .func _ _ _ => (match P.underlying t with | some (.func _ _ _) => some false | _ => none)
  | .func _ _ _, .nilFunc => (match P.underlying t with | some (.func _ _ _) => some false | _ => none)
  | .nilIface, .nilIface => (match xc with | true => (match P.underlying t with | some (.interface _) => some true | _ => none) | false => none)
  | .nilIface, .iface _ _ => (match P.underlying t with | some (.interface _) => some false | _ => none)
  | .iface _ _, .nilIface => (match P.underlying t with | some (.interface _) => some false | _ => none)
  | .agg xs, .agg ys => aeq P T 6 t (.agg xs) (.agg ys)
  | _, _ => none

def isC : Operand → Bool
  | .const _ => true
  | _ => false

def bopI (op : BinOp) (k : IntKind) (a b : Int) (K : Value → Option α) : Option α :=
  match op with
  | .add => K (.int k (kw k (a + b)))
  | .sub => K (.int k (kw k (a - b)))
  | .mul => K (.int k (kw k (a * b)))
  | .quo => if b = 0 then none else K (.int k (kw k (a.tdiv b)))
  | .rem => if b = 0 then none else K (.int k (a.tmod b))
  | .and => K (.int k (bitI .and k a b))
  | .or => K (.int k (bitI .or k a b))
  | .xor => K (.int k (bitI .xor k a b))
  | .andNot => K (.int k (bitI .andNot k a b))
  | .eql => K (.bool (a == b))
  | .neq => K (.bool (a != b))
  | .lss => K (.bool (decide (a < b)))
  | .leq => K (.bool (decide (a ≤ b)))
  | .gtr => K (.bool (decide (a > b)))
  | .geq => K (.bool (decide (a ≥ b)))
  | _ => none

def bopS (op : BinOp) (x y : ByteArray) (K : Value → Option α) : Option α :=
  match op with
  | .add => if x.size + y.size ≤ 4611686018427387904 then K (.string (bApp x y)) else none
  | .eql => K (.bool (beqB x.data.toList y.data.toList))
  | .neq => K (.bool (!(beqB x.data.toList y.data.toList)))
  | .lss => K (.bool (bltB x.data.toList y.data.toList))
  | .leq => K (.bool (bltB x.data.toList y.data.toList || beqB x.data.toList y.data.toList))
  | .gtr => K (.bool (!(bltB x.data.toList y.data.toList || beqB x.data.toList y.data.toList)))
  | .geq => K (.bool (!(bltB x.data.toList y.data.toList)))
  | _ => none

def shI (op : BinOp) (k : IntKind) (a b : Int) (K : Value → Option α) : Option α :=
  if b < 0 then none
  else match op with
    | .shl => K (.int k (kw k (a * 2 ^ (min b.toNat k.bits))))
    | .shr => K (.int k (a.fdiv (2 ^ (min b.toNat k.bits))))
    | _ => none

def bop (op : BinOp) (xc : Bool) (t : TypeId) (x y : Value) (K : Value → Option α) : Option α :=
  match x, y with
  | .int k a, .int k' b => (match op with
    | .shl => shI .shl k a b K
    | .shr => shI .shr k a b K
    | op => (match decide (k = k') with | true => bopI op k a b K | false => none))
  | .string a, .string b => bopS op a b K
  | x, y => (match op with
    | .eql => (match eqlV P T xc t x y with | some r => K (.bool r) | none => none)
    | .neq => (match eqlV P T xc t x y with | some r => K (.bool (!r)) | none => none)
    | _ => none)

def uop (op : UnOp) (x : Value) (K : Value → Option α) : Option α :=
  match op, x with
  | .not, .bool b => K (.bool (!b))
  | .neg, .int k n => K (.int k (kw k (0 - n)))
  | .xor, .int k n => K (.int k (bitI .xor k (if k.signed then -1 else k.max) n))
  | _, _ => none

def bytesV (s : ByteArray) : List Value := s.data.toList.map fun b => .int .u8 b.toNat
def toByte : Value → Option UInt8
  | .int .u8 n => some (UInt8.ofNat n.toNat)
  | _ => none
def toBytes : List Value → Option (List UInt8)
  | [] => some []
  | v :: l => match toByte v with
    | none => none
    | some b => (match toBytes l with | some r => some (b :: r) | none => none)

def cToBytes (fn : FuncId) (dst : Option Tmp) (us : TypeDesc) (e : TypeId) (b : ByteArray) (s : Env) (H : Hp) (K : Value → Env → Hp → Option α) : Option α :=
  match us with
  | .slice _ => none
  | _ => (match P.underlying e with
    | some (.int .u8) => (match dst with
      | none => none
      | some t => match isEsc T fn t with
        | true => K (.slice (some ⟨H.next, 0, none⟩) b.size (capU + 1)) s (H.alloc (.cells (bytesV b) e 0 true))
        | false => match s.ls.get t with
          | some none => K (.slice (some ⟨t, 0, some 0⟩) b.size (capU + 1)) (setL s t (some (bytesV b))) H
          | _ => none)
    | _ => none)
def cToStr (us : TypeDesc) (x : Value) (s : Env) (H : Hp) (K : Value → Env → Hp → Option α) : Option α :=
  match us with
  | .string => (match x with | .string b => K (.string b) s H | _ => none)
  | .slice e => (match P.underlying e with
    | some (.int .u8) => (match x with
      | .slice none _ _ => K (.string ⟨⟨[]⟩⟩) s H
      | .slice (some a) len _ => (match rd s H a len with
        | some l => (match toBytes l with | some b => K (.string ⟨⟨b⟩⟩) s H | none => none)
        | none => none)
      | _ => none)
    | _ => none)
  | _ => none
def cToUns (us : TypeDesc) (x : Value) (s : Env) (H : Hp) (K : Value → Env → Hp → Option α) : Option α :=
  match us with
  | .pointer e => (match x with
    | .pointer (some a) => (match szOf P e with
      | some (_ + 1) => (match rd s H a 1 with
        | some _ => K (.pointer (some a)) s H
        | none => none)
      | _ => none)
    | _ => none)
  | _ => none
def cToPtr (us : TypeDesc) (e : TypeId) (x : Value) (s : Env) (H : Hp) (K : Value → Env → Hp → Option α) : Option α :=
  match us with
  | .unsafePointer => (match x with
    | .pointer (some a) => (match a.spot with
      | some _ => none
      | none => (match H.get a.block with
        | some (.cells c e' _ _) => (match szOf P e with
          | some (n + 1) => (match Nat.beq e e' && Nat.beq a.off 0 && memN T.pts e && Nat.ble (n + 1) c.length with
            | true => K (.pointer (some a)) s H
            | false => none)
          | _ => none)
        | _ => none))
    | _ => none)
  | _ => none
def convK (fn : FuncId) (dst : Option Tmp) (src d : TypeId) (x : Value) (s : Env) (H : Hp) (K : Value → Env → Hp → Option α) : Option α :=
  match P.underlying d with
  | some (.int k) => (match x with
    | .int _ n => (match P.underlying src with | some _ => K (.int k (kw k n)) s H | none => none)
    | _ => none)
  | some .string => (match P.underlying src with | some us => cToStr P us x s H K | none => none)
  | some (.slice e) => (match x with
    | .string b => (match P.underlying src with | some us => cToBytes P T fn dst us e b s H K | none => none)
    | _ => none)
  | some .unsafePointer => (match P.underlying src with | some us => cToUns P us x s H K | none => none)
  | some (.pointer e) => (match P.underlying src with | some us => cToPtr P T us e x s H K | none => none)
  | _ => none

/-- The bounds of a slice expression: low, high, and the end of the capacity. -/
def bndK (len cap : Nat) (lo hi mx : Option Value) (K : Nat → Nat → Nat → Option α) : Option α :=
  match mx with
  | some (.int _ m) => (match hi with
    | some (.int _ h) =>
      if 0 ≤ m ∧ m ≤ cap then (if 0 ≤ h ∧ h ≤ m then (match lo with
        | none => K 0 h.toNat m.toNat
        | some (.int _ l) => if 0 ≤ l ∧ l ≤ h then K l.toNat h.toNat m.toNat else none
        | _ => none) else none) else none
    | _ => none)
  | some _ => none
  | none => (match hi with
    | none => (match lo with
      | none => K 0 len cap
      | some (.int _ l) => if 0 ≤ l ∧ l ≤ len then K l.toNat len cap else none
      | _ => none)
    | some (.int _ h) => if 0 ≤ h ∧ h ≤ cap then (match lo with
        | none => K 0 h.toNat cap
        | some (.int _ l) => if 0 ≤ l ∧ l ≤ h then K l.toNat h.toNat cap else none
        | _ => none) else none
    | _ => none)

def sliceK (t : TypeId) (x : Value) (lo hi mx : Option Value) (s : Env) (H : Hp) (K : Value → Env → Hp → Option α) : Option α :=
  match P.underlying t with
  | some (.array n e) => (match x with
    | .pointer (some a) => (match szOf P e with
      | some sz => (match Nat.blt n capU with
        | true => bndK n n lo hi mx (fun l h m => K (.slice (some (if m = l then a else addA a (l * sz))) (h - l) (m - l)) s H)
        | false => none)
      | none => none)
    | _ => none)
  | some .string => (match x with
    | .string b => (match mx with
      | some _ => none
      | none => bndK b.size b.size lo hi none (fun l h _ => K (.string (bSub b l h)) s H))
    | _ => none)
  | some (.slice e) => (match x with
    | .slice none len cap => (match szOf P e with
      | some _ => bndK len cap lo hi mx (fun l h m => K (.slice none (h - l) (m - l)) s H)
      | none => none)
    | .slice (some a) len cap => (match szOf P e with
      | some sz => (match Nat.blt cap capU with
        | true => bndK len cap lo hi mx (fun l h m => K (.slice (some (if m = l then a else addA a (l * sz))) (h - l) (m - l)) s H)
        | false => (match Nat.beq cap (capU + sz) with
          | true => (match mx with
            | none => bndK len len lo hi none (fun l h _ => K (.slice (some (addA a (l * sz))) (h - l) (capU + sz)) s H)
            | some _ => (match Nat.blt len capU && Nat.blt 0 len with
              | true => bndK len len lo hi mx (fun l h m => K (.slice (some (if m = l then a else addA a (l * sz))) (h - l) (m - l)) s H)
              | false => none))
          | false => none))
      | none => none)
    | _ => none)
  | _ => none

def idxAddrK (t : TypeId) (x i : Value) (K : Value → Option α) : Option α :=
  match i with
  | .int _ n => (match P.underlying t with
    | some (.array len e) => (match x with
      | .pointer (some a) => (match szOf P e with
        | some sz => if 0 ≤ n ∧ n < len then K (.pointer (some (addA a (n.toNat * sz)))) else none
        | none => none)
      | _ => none)
    | some (.slice e) => (match x with
      | .slice (some a) len _ => (match szOf P e with
        | some sz => if 0 ≤ n ∧ n < len then K (.pointer (some (addA a (n.toNat * sz)))) else none
        | none => none)
      | _ => none)
    | _ => none)
  | _ => none

def idxK (t : TypeId) (x i : Value) (K : Value → Option α) : Option α :=
  match i with
  | .int _ n => (match P.underlying t with
    | some (.array len e) => (match x with
      | .agg cs => (match szOf P e with
        | some sz => if 0 ≤ n ∧ n < len then (match partV P e cs.toList (n.toNat * sz) with | some v => K v | none => none) else none
        | none => none)
      | _ => none)
    | some .string => (match x with
      | .string b => if 0 ≤ n ∧ n < b.size then (match lget b.data.toList n.toNat with | some c => K (.int .u8 c.toNat) | none => none) else none
      | _ => none)
    | _ => none)
  | _ => none

/-- A key of a map that is a whole number, a bool or a text. -/
def keyEq (d : TypeDesc) (a b : Value) : Option Bool :=
  match d with
  | .int _ => (match a, b with | .int k x, .int k' y => (match decide (k = k') with | true => some (x == y) | false => none) | _, _ => none)
  | .string => (match a, b with | .string x, .string y => some (beqB x.data.toList y.data.toList) | _, _ => none)
  | .bool => (match a, b with | .bool x, .bool y => some (x == y) | _, _ => none)
  | _ => none

def findK (d : TypeDesc) (k : Value) : List MapEntry → Nat → (Option (Nat × Value) → Option α) → Option α
  | [], _, K => K none
  | e :: es, i, K => match keyEq d k e.key with
    | none => none
    | some r => match r with
      | true => K (some (i, e.val))
      | false => findK d k es (i + 1) K

def lookupK (t : TypeId) (m k : Value) (ok : Bool) (s : Env) (H : Hp) (K : Value → Env → Hp → Option α) : Option α :=
  match P.underlying t with
  | some (.map kt e) => (match P.underlying kt with
    | some d => (match zeroV P e with
      | none => none
      | some zv =>
          let fin (r : Option (Nat × Value)) : Option α := match r with
            | some (_, v) => K (match ok with | true => .tuple ⟨[v, .bool true]⟩ | false => v) s H
            | none => K (match ok with | true => .tuple ⟨[zv, .bool false]⟩ | false => zv) s H
          match keyEq d k k with
          | none => none
          | some _ => match m with
            | .map none => fin none
            | .map (some r) => (match H.get r with
              | some (.map es _) => findK d k es 0 fin
              | _ => none)
            | _ => none)
    | none => none)
  | _ => none

def modE (es : List MapEntry) (i : Nat) (k v : Value) : List MapEntry :=
  match lget es i with
  | some e => es.set i ⟨k, v, e.born⟩
  | none => es

def mapUpK (t : TypeId) (m k v : Value) (s : Env) (H : Hp) (K : Value → Env → Hp → Option α) : Option α :=
  match P.underlying t with
  | some (.map kt _) => (match P.underlying kt with
    | some d => (match keyEq d k k with
      | none => none
      | some _ => (match nl v with
        | false => none
        | true => (match m with
          | .map (some r) => (match H.get r with
            | some (.map es cl) => findK d k es 0 (fun q => match q with
              | some (i, _) => K undefV s (H.put r (some (.map (modE es i k v) cl)))
              | none => K undefV s (H.put r (some (.map (es ++ [⟨k, v, cl⟩]) (cl + 1)))))
            | _ => none)
          | _ => none)))
    | none => none)
  | _ => none

def assertK (x : Value) (asserted : TypeId) (ok : Bool) (K : Value → Option α) : Option α :=
  match P.underlying asserted with
  | some (.interface _) => none
  | some _ => (match x with
    | .nilIface => (match ok with
      | true => (match zeroV P asserted with
        | some zv => K (.tuple ⟨[zv, .bool false]⟩)
        | none => none)
      | false => none)
    | .iface t v => (match Nat.beq t asserted with
      | true => K (match ok with | true => .tuple ⟨[v, .bool true]⟩ | false => v)
      | false => (match ok with
        | true => (match zeroV P asserted with
          | some zv => K (.tuple ⟨[zv, .bool false]⟩)
          | none => none)
        | false => none))
    | _ => none)
  | none => none

def oPick (c a b : Value) (s : Env) (H : Hp) (K : Value → Env → Hp → Option α) : Option α :=
  match c with
  | .bool t => (match t with | true => K a s H | false => K b s H)
  | _ => none
def oAlloc (fn : FuncId) (dst : Option Tmp) (e : TypeId) (s : Env) (H : Hp) (K : Value → Env → Hp → Option α) : Option α :=
  match zeroC P e with
  | some c => mkVar T fn dst e c s H (fun a => K (.pointer (some a)))
  | none => none
def oBox (fn : FuncId) (dst : Option Tmp) (e : TypeId) (v : Value) (s : Env) (H : Hp) (K : Value → Env → Hp → Option α) : Option α :=
  mkVar T fn dst e (vcells v) s H (fun a => K (.pointer (some a)))
def fldPlace (fs : Array Field) (i : Nat) : Option (Nat × Nat) :=
  match lget fs.toList i with
  | some f => (match szOf P f.type with | some n => some (f.offset, n) | none => none)
  | none => none
def rowPlace (n i : Nat) : Option (Nat × Nat) := some (i * n, n)
def oBuild (t : TypeId) (parts : List (Nat × Value)) (s : Env) (H : Hp) (K : Value → Env → Hp → Option α) : Option α :=
  match zeroC P t with
  | none => none
  | some z => match P.underlying t with
    | some (.struct fs) => (match fs.toList.all (fun f => (szOf P f.type).isSome) with
      | true => (match fillC (fldPlace P fs) z parts with | some c => K (.agg ⟨c⟩) s H | none => none)
      | false => none)
    | some (.array _ e) => (match szOf P e with
      | some n => (match fillC (rowPlace n) z parts with | some c => K (.agg ⟨c⟩) s H | none => none)
      | none => none)
    | _ => none
def oBuildSlice (fn : FuncId) (dst : Option Tmp) (t : TypeId) (len : Nat) (parts : List (Nat × Value)) (s : Env) (H : Hp) (K : Value → Env → Hp → Option α) : Option α :=
  match P.underlying t with
  | some (.slice e) => (match szOf P e with
    | none => none
    | some n => match zeroC P e with
      | none => none
      | some z => match Nat.ble (len * n) 65536 && Nat.ble len 65536 && Nat.beq z.length n with
        | true => (match fillC (rowPlace n) (List.replicate len z).flatten parts with
          | some c => mkVar T fn dst e c s H (fun a => K (.slice (some a) len len))
          | none => none)
        | false => none)
  | _ => none
def oLoad (t : TypeId) (a : Value) (s : Env) (H : Hp) (K : Value → Env → Hp → Option α) : Option α :=
  match a with
  | .pointer (some a) => (match tyI P t with
    | some (agg, n) => (match rd s H a (match agg with | true => n | false => 1) with
      | some l => (match unc agg l with | some v => K v s H | none => none)
      | none => none)
    | none => none)
  | _ => none
def oStore (t : TypeId) (a : Value) (c : List Value) (s : Env) (H : Hp) (K : Value → Env → Hp → Option α) : Option α :=
  match a with
  | .pointer (some a) => (match szOf P t with
    | some n => (match Nat.beq c.length n && c.all one && c.all nl with
      | true => wr s H a c (K undefV)
      | false => none)
    | none => none)
  | _ => none
def oNilCheck (x : Value) (s : Env) (H : Hp) (K : Value → Env → Hp → Option α) : Option α :=
  match x with
  | .pointer (some a) => K (.pointer (some a)) s H
  | .func f p c => (match f with | .func f => K (.func (.func f) p c) s H | _ => none)
  | .iface t v => K (.iface t v) s H
  | _ => none
def oMakeIface (t : TypeId) (x : Value) (s : Env) (H : Hp) (K : Value → Env → Hp → Option α) : Option α :=
  match P.underlying t with
  | some (.interface _) => none
  | some _ => (match nl x with | true => K (.iface t x) s H | false => none)
  | none => none
def oMakeFunc (f : Fn) (first captured : List Value) (s : Env) (H : Hp) (K : Value → Env → Hp → Option α) : Option α :=
  match f with
  | .func n => (match first.all nl && captured.all nl with
    | true => K (.func (.func n) ⟨first⟩ ⟨captured⟩) s H
    | false => none)
  | _ => none
def oMakeSlice (t : TypeId) (l c : Value) (s : Env) (H : Hp) (K : Value → Env → Hp → Option α) : Option α :=
  match P.underlying t with
  | some (.slice e) => (match l with
    | .int .i64 l => (match c with
      | .int .i64 c => (match szOf P e with
        | none => none
        | some n => match byOf P e with
          | none => none
          | some by' => match zeroC P e with
            | none => none
            | some z => match Nat.beq z.length n && z.all one with
              | true => if 0 ≤ l ∧ l ≤ c ∧ c * by' ≤ 1099511627776 ∧ c ≤ 1099511627776 then
                  K (.slice (some ⟨H.next, 0, none⟩) l.toNat c.toNat) s (H.alloc (.cells (List.replicate c.toNat z).flatten e 0 false)) else none
              | false => none)
      | _ => none)
    | _ => none)
  | _ => none
def oFieldAddr (t : TypeId) (x : Value) (f : Nat) (s : Env) (H : Hp) (K : Value → Env → Hp → Option α) : Option α :=
  match P.underlying t with
  | some (.struct fs) => (match x with
    | .pointer (some a) => (match lget fs.toList f with
      | some f => (match szOf P f.type with
        | some (_ + 1) => K (.pointer (some (addA a f.offset))) s H
        | _ => none)
      | none => none)
    | _ => none)
  | _ => none
def oField (t : TypeId) (x : Value) (f : Nat) (s : Env) (H : Hp) (K : Value → Env → Hp → Option α) : Option α :=
  match P.underlying t with
  | some (.struct fs) => (match x with
    | .agg cs => (match lget fs.toList f with
      | some f => (match partV P f.type cs.toList f.offset with | some v => K v s H | none => none)
      | none => none)
    | _ => none)
  | _ => none
def oExtract (x : Value) (i : Nat) (s : Env) (H : Hp) (K : Value → Env → Hp → Option α) : Option α :=
  match x with
  | .tuple vs => (match lget vs.toList i with | some v => K v s H | none => none)
  | _ => none
def evP (s : Env) : List (Nat × Operand) → List (Nat × Value)
  | [] => []
  | (i, x) :: l => (i, ev s x) :: evP s l
def evO (s : Env) : Option Operand → Option Value
  | none => none
  | some x => some (ev s x)

/-- All operations but calls. -/
def sop (fn : FuncId) (o : Oper) (s : Env) (H : Hp) (K : Value → Env → Hp → Option α) : Option α :=
  match o.op with
  | .move x => K (ev s x) s H
  | .assign x => K (ev s x) s H
  | .pick c a b => oPick (ev s c) (ev s a) (ev s b) s H K
  | .alloc e => oAlloc P T fn o.dst e s H K
  | .box e x => oBox T fn o.dst e (ev s x) s H K
  | .build t parts => oBuild P t (evP s parts.toList) s H K
  | .buildSlice t len parts => oBuildSlice P T fn o.dst t len (evP s parts.toList) s H K
  | .load t a => oLoad P t (ev s a) s H K
  | .store t a x => oStore P t (ev s a) (vcells (ev s x)) s H K
  | .nilCheck x => oNilCheck (ev s x) s H K
  | .binOp op t x y _ => bop P T op (isC x || isC y) t (ev s x) (ev s y) (fun v => K v s H)
  | .unOp op _ x => uop op (ev s x) (fun v => K v s H)
  | .convert a b x => convK P T fn o.dst a b (ev s x) s H K
  | .makeInterface t x => oMakeIface P t (ev s x) s H K
  | .makeFunc f first captured => oMakeFunc f (first.toList.map (ev s)) (captured.toList.map (ev s)) s H K
  | .makeMap _ none => K (.map (some H.next)) s (H.alloc (.map [] 0))
  | .makeSlice t l c => oMakeSlice P t (ev s l) (ev s c) s H K
  | .slice t x lo hi mx => sliceK P t (ev s x) (evO s lo) (evO s hi) (evO s mx) s H K
  | .fieldAddr t x f => oFieldAddr P t (ev s x) f s H K
  | .field t x f => oField P t (ev s x) f s H K
  | .indexAddr t x i => idxAddrK P t (ev s x) (ev s i) (fun v => K v s H)
  | .index t x i => idxK P t (ev s x) (ev s i) (fun v => K v s H)
  | .lookup t m k ok => lookupK P t (ev s m) (ev s k) ok s H K
  | .mapUpdate t m k v => mapUpK P t (ev s m) (ev s k) (ev s v) s H K
  | .insert t m k v => mapUpK P t (ev s m) (ev s k) (ev s v) s H K
  | .typeAssert x _ a ok => assertK P (ev s x) a ok (fun v => K v s H)
  | .extract x i => oExtract (ev s x) i s H K
  | _ => none

/-- What is appended, of a slice or a text. -/
def srcC (s : Env) (H : Hp) (sz : Nat) (x : Value) (K : Nat → List Value → Option α) : Option α :=
  match x with
  | .slice none n _ => (match Nat.beq n 0 with | true => K 0 [] | false => none)
  | .slice (some a) n _ => (match rd s H a (n * sz) with | some l => K n l | none => none)
  | .string b => (match Nat.beq sz 1 with | true => K b.size (bytesV b) | false => none)
  | _ => none

def appendK (argTypes : Array TypeId) (x y : Value) (s : Env) (H : Hp) (K : Value → Env → Hp → Option α) : Option α :=
  match lget argTypes.toList 0 with
  | none => none
  | some st => match P.underlying st with
    | some (.slice e) => (match szOf P e, byOf P e, zeroC P e with
      | some sz, some by', some z => (match Nat.beq z.length sz && z.all one && Nat.blt 0 sz && (match lget argTypes.toList 1 with | some xt => (match P.underlying xt with | some (.int _) => false | none => false | _ => true) | none => true) with
        | false => none
        | true => srcC s H sz y (fun n new => match new.all one && new.all nl with
          | false => none
          | true => match x with
            | .slice none len cap => (match Nat.beq len 0 && Nat.beq cap 0 with
              | false => none
              | true => match Nat.beq n 0 with
                | true => K x s H
                | false => if n * by' ≤ 1099511627776 ∧ n ≤ 1099511627776 then
                    K (.slice (some ⟨H.next, 0, none⟩) n (capU + sz)) s (H.alloc (.cells new e 0 false)) else none)
            | .slice (some a) len cap => (match a.spot with
              | some _ => none
              | none => match Nat.beq n 0 with
                | true => (match Nat.ble len cap with | true => K x s H | false => none)
                | false => (match H.get a.block with
                  | some (.cells c e' fz sg) => (match Nat.beq e e' with
                    | false => none
                    | true => match sub c a.off (len * sz) with
                      | none => none
                      | some old =>
                        if (len + n) * by' ≤ 1099511627776 ∧ len + n ≤ 1099511627776 then
                          (match Nat.blt cap capU with
                          | false => (match Nat.beq cap (capU + sz) && Nat.ble fz (a.off + len * sz) && !(memN T.pts e) with
                            | true => (match Nat.ble fz c.length with
                              | true => K (.slice (some ⟨H.next, 0, none⟩) (len + n) (capU + sz)) s ((H.put a.block none).alloc (.cells (old ++ new) e fz sg))
                              | false => none)
                            | false => none)
                          | true =>
                            if len + n ≤ cap then
                              (match Nat.ble fz (a.off + len * sz) with
                              | true => (match lay c (a.off + len * sz) new with
                                | some c' => K (.slice (some a) (len + n) cap) s (H.put a.block (some (.cells c' e fz sg)))
                                | none => none)
                              | false => none)
                            else K (.slice (some ⟨H.next, 0, none⟩) (len + n) (capU + sz)) s (H.alloc (.cells (old ++ new) e 0 false)))
                        else none)
                  | _ => none))
            | _ => none))
      | _, _, _ => none)
    | _ => none

def lenK (t : TypeId) (x : Value) (H : Hp) (K : Value → Option α) : Option α :=
  match P.underlying t with
  | some .string => (match x with | .string b => K (.int .i64 b.size) | _ => none)
  | some (.array n _) => K (.int .i64 n)
  | some (.slice _) => (match x with | .slice _ n _ => K (.int .i64 n) | _ => none)
  | some (.map _ _) => (match x with
    | .map none => K (.int .i64 0)
    | .map (some r) => (match H.get r with | some (.map es _) => K (.int .i64 es.length) | _ => none)
    | _ => none)
  | _ => none

def minmax (mx : Bool) : Value → List Value → Option Value
  | x, [] => some x
  | .int k a, .int k' b :: l => (match decide (k = k') with
    | true => minmax mx (.int k (match mx with | true => if b > a then b else a | false => if b < a then b else a)) l
    | false => none)
  | _, _ => none

def copyK (argTypes : Array TypeId) (x y : Value) (s : Env) (H : Hp) (K : Value → Env → Hp → Option α) : Option α :=
  match lget argTypes.toList 0 with
  | none => none
  | some st => match P.underlying st with
    | some (.slice e) => (match szOf P e with
      | some sz => srcC s H sz y (fun n new => match new.all one && new.all nl with
        | false => none
        | true => (match x with
          | .slice none len _ => (match Nat.beq len 0 with | true => K (.int .i64 0) s H | false => none)
          | .slice (some a) len _ => (match a.spot with
            | some _ => none
            | none => wr s H a (new.take ((min n len) * sz)) (K (.int .i64 (min n len : Nat))))
          | _ => none))
      | none => none)
    | _ => none

def uSliceData (ty : TypeId) (args : List Value) (s : Env) (H : Hp) (K : Value → Env → Hp → Option α) : Option α :=
  match args with
  | [.slice none _ _] => K (.pointer none) s H
  | [.slice (some a) n c] => (match a.spot with
    | some _ => none
    | none => (match n with
      | 0 => (match H.get a.block with
        | some (.cells _ _ _ _) => (match P.underlying ty with
          | some (.pointer _) => K (.pointer (some ⟨H.next, 0, none⟩)) s H.allocN
          | _ => none)
        | _ => none)
      | _ + 1 => (match Nat.blt 0 c with
        | true => K (.pointer (some a)) s H
        | false => none)))
  | _ => none
def uStringN (argTypes : Array TypeId) (a : Addr) (n : Nat) (s : Env) (H : Hp) (K : Value → Env → Hp → Option α) : Option α :=
  match a.spot with
  | some _ => none
  | none => (match H.get a.block with
    | some (.cells c e fz sg) => (match lget argTypes.toList 0 with
      | some pt => (match P.underlying pt with
        | some (.pointer u) => (match P.underlying e with
          | some (.int .u8) => (match Nat.beq u e && !sg && (match szOf P e with | some n => Nat.beq n 1 | none => false) with
            | true => (match sub c a.off n with
              | some l => (match toBytes l with
                | some b => (match Nat.ble fz c.length with
                  | true => K (.string ⟨⟨b⟩⟩) s (H.put a.block (some (.cells c e (max fz (a.off + n)) false)))
                  | false => none)
                | none => none)
              | none => none)
            | false => none)
          | _ => none)
        | _ => none)
      | none => none)
    | _ => none)
def uString (argTypes : Array TypeId) (args : List Value) (s : Env) (H : Hp) (K : Value → Env → Hp → Option α) : Option α :=
  match args with
  | [.pointer none, .int _ n] => (match decide (n = 0) with | true => K (.string ⟨⟨[]⟩⟩) s H | false => none)
  | [.pointer (some a), .int _ n] => (match decide (n = 0) with
    | true => K (.string ⟨⟨[]⟩⟩) s H
    | false => if 0 ≤ n ∧ n ≤ 1073741824 then uStringN P argTypes a n.toNat s H K else none)
  | _ => none

def builtinK (b : Builtin) (argTypes : Array TypeId) (ty : TypeId) (args : List Value) (s : Env) (H : Hp) (K : Value → Env → Hp → Option α) : Option α :=
  match b with
  | .append => (match args with | [x, y] => appendK P T argTypes x y s H K | _ => none)
  | .copy => (match args with | [x, y] => copyK P argTypes x y s H K | _ => none)
  | .len => (match args, lget argTypes.toList 0 with | [x], some t => lenK P t x H (fun v => K v s H) | _, _ => none)
  | .cap => (match args, lget argTypes.toList 0 with
    | [.slice _ _ c], some t => (match P.underlying t with
      | some (.slice _) => (match Nat.blt c capU with | false => none | true => K (.int .i64 c) s H)
      | _ => none)
    | _, _ => none)
  | .min => (match args with | x :: l => (match x with | .int _ _ => (match minmax false x l with | some v => K v s H | none => none) | _ => none) | [] => none)
  | .max => (match args with | x :: l => (match x with | .int _ _ => (match minmax true x l with | some v => K v s H | none => none) | _ => none) | [] => none)
  | .recover => K .nilIface s H
  | .unsafeSliceData => uSliceData P ty args s H K
  | .unsafeString => (match lget argTypes.toList 0 with | some _ => uString P argTypes args s H K | none => none)
  | _ => none

def isEff : Op → Bool
  | .move _ => false | .assign _ => false | .pick .. => false | .alloc _ => false | .box .. => false | .build .. => false | .buildSlice .. => false
  | .load .. => false | .nilCheck _ => false | .binOp .. => false | .unOp .. => false | .makeInterface .. => false | .makeFunc .. => false
  | .makeMap .. => false | .makeSlice .. => false | .slice .. => false | .fieldAddr .. => false | .field .. => false | .indexAddr .. => false
  | .index .. => false | .extract .. => false | .typeAssert .. => false
  | .convert a b _ => (match P.underlying a with
    | some (.int _) => (match P.underlying b with | some (.int _) => false | _ => true)
    | some .string => (match P.underlying b with | some .string => false | _ => true)
    | _ => true)
  | .call { callee := .builtin .min, .. } => false
  | .call { callee := .builtin .max, .. } => false
  | .call { callee := .builtin .len, argTypes, .. } => (match lget argTypes.toList 0 with
    | some t => (match P.underlying t with | some (.map _ _) => true | none => true | _ => false)
    | none => true)
  | _ => true

def bit (m i : Nat) : Bool := Nat.testBit m i

/-- Is `l`, behind what is done, an order that the edges allow, each effect behind all smalls that need it not? -/
def ordOk (ops : Array Oper) (b : Array Nat) : Nat → List Nat → Bool
  | _, [] => true
  | done, i :: l => decide (i < ops.size) && !(bit done i) && (((b.getD i 0) &&& done) == b.getD i 0) &&
      (!(isEff P (ops.getD i default).op) || l.all fun j => bit (b.getD j 0) i) && ordOk ops b (done ||| 2 ^ i) l

def isLd : Op → Bool
  | .load .. => true
  | _ => false
/-- Are all loads ahead of each effect, that need not be ahead of it, told beside it? -/
def unOk (ops : Array Oper) (b : Array Nat) : List Nat → List (Nat × List Nat) → Bool
  | _, [] => true
  | had, (i, un) :: l => (!(isEff P (ops.getD i default).op) || had.all fun j => !(isLd (ops.getD j default).op) || bit (b.getD i 0) j || memN un j) && unOk ops b (i :: had) l
/-- The temporaries that an operation looks at, writes, is guarded by. -/
def tmpsOf : List Operand → List Tmp
  | [] => []
  | .tmp t :: l => t :: tmpsOf l
  | _ :: l => tmpsOf l
def looks (ops : Array Oper) (i : Nat) : List Tmp :=
  let o := ops.getD i default
  tmpsOf o.op.operands.toList ++ (match o.guard with | none => [] | some (j, _) => (ops.getD j default).dst.toList)
/-- Is what `i` writes nothing that `p` looks at or writes? -/
def clear (ops : Array Oper) (i p : Nat) : Bool :=
  (ops.getD i default).dst.toList.all fun d => !(memN (looks ops p) d) && !(memN (ops.getD p default).dst.toList d)
/-- Does nobody write what one of the smalls that may still be open looks at? -/
def owOk (ops : Array Oper) (b : Array Nat) : List Nat → List Nat → Bool
  | _, [] => true
  | had, i :: l => match isEff P (ops.getD i default).op with
    | true => (had.filter fun p => !(bit (b.getD i 0) p)).all (clear ops i) && owOk ops b (had.filter fun p => !(bit (b.getD i 0) p)) l
    | false => had.all (clear ops i) && ((ops.getD i default).dst.toList.all fun d => !(memN (looks ops i) d)) && owOk ops b (i :: had) l
/-- Is each operation behind all that write what it looks at? -/
def depOk (ops : Array Oper) (b : Array Nat) : List Nat → List Nat → Bool
  | _, [] => true
  | had, i :: l => (had.all fun j => bit (b.getD i 0) j || (ops.getD j default).dst.toList.all fun d => !(memN (looks ops i) d)) && depOk ops b (i :: had) l
/-- Do the sets say no more than the edges do? -/
def befOk (ops : Array Oper) (b : Array Nat) : Bool :=
  (List.range ops.size).all fun i =>
    let m := ((ops.getD i default).after.toList).foldr (fun e m => match Region.binds .any e with | true => m ||| 2 ^ e.on ||| b.getD e.on 0 | false => m) 0
    Nat.beq (b.getD i 0) m
/-- A region that draws, of which any order that the edges allow comes to the same. -/
def regOk (ops : Array Oper) (l : List (Nat × List Nat)) : Bool :=
  befOk ops (Region.before ops) && ((List.range ops.size).all fun i => memN (l.map (·.1)) i) && ordOk P ops (Region.before ops) 0 (l.map (·.1)) && unOk P ops (Region.before ops) [] l &&
    owOk P ops (Region.before ops) [] (l.map (·.1)) && depOk ops (Region.before ops) [] (l.map (·.1)) && Nat.beq l.length ops.size
def opdOk : Operand → Bool
  | .global g => Nat.blt g T.ng
  | _ => true
def opsOk (ops : List Oper) : Bool := ops.all fun o => o.op.operands.toList.all (opdOk T)
def regOf (fn : FuncId) (id : Nat) : Option (List (Nat × List Nat)) :=
  match look T.reg fn with
  | some l => look l id
  | none => none
/-- All regions of some code that draw are told in the table as they are. -/
def codeOk (fn : FuncId) : Code → Bool
  | .region id ops d => opsOk T ops.toList && (match d with | false => true | true => (match regOf T fn id with | some l => regOk P ops l | none => true))
  | .seq a b => codeOk fn a && codeOk fn b
  | .cond _ a b => codeOk fn a && codeOk fn b
  | .block _ a => codeOk fn a
  | .loop a => codeOk fn a
  | .scope a => codeOk fn a
  | .rangeFunc _ _ a b => codeOk fn a && codeOk fn b
  | _ => true

def veq : Value → Value → Bool
  | .bool a, .bool b => a == b
  | .int k a, .int j b => decide (k = j) && a == b
  | .string a, .string b => beqB a.data.toList b.data.toList
  | .pointer a, .pointer b => a == b
  | .slice a l c, .slice b m d => a == b && l == m && c == d
  | .map a, .map b => a == b
  | .nilFunc, .nilFunc => true
  | .nilIface, .nilIface => true
  | _, _ => false
def veqL : List Value → List Value → Bool
  | [], [] => true
  | a :: l, b :: m => veq a b && veqL l m
  | _, _ => false

structure Ld where
  j : Nat
  a : Addr
  l : List Value

/-- The address and the size of a store. -/
def stAddr (s : Env) (o : Oper) : Option (Addr × Nat) :=
  match o.op with
  | .store _ a x => (match ev s a with | .pointer (some a) => some (a, (vcells (ev s x)).length) | _ => none)
  | _ => none

/-- Does what was loaded still stand, behind an effect that need not be behind it? `st`: what the effect stores to, if it is a store. -/
def standsB (st : Option (Addr × Nat)) (s' : Env) (H' : Hp) (x : Ld) : Bool :=
  match x.a.spot with
  | some _ => (match st with
    | none => true
    | some (a, n) => match a.spot with
      | none => true
      | some _ => !(Nat.beq a.block x.a.block) || Nat.ble (a.off + n) x.a.off || Nat.ble (x.a.off + x.l.length) a.off)
  | none => (match rd s' H' x.a x.l.length with | some l => veqL l x.l | none => false)

structure Fx where
  fn : FuncId
  ro : Option Nat

/-- What is recovered is nothing, outside the rounds of a loop. -/
def roOk (ro : Option Nat) (b : Builtin) : Bool :=
  match ro with
  | none => true
  | some _ => (match b with | .recover => false | _ => true)

def ldOf (s : Env) (o : Oper) (i : Nat) (H : Hp) (r : List Ld) : List Ld :=
  match o.op with
  | .load t a => (match ev s a with
    | .pointer (some a) => (match tyI P t with
      | some (agg, n) => (match rd s H a (match agg with | true => n | false => 1) with | some l => ⟨i, a, l⟩ :: r | none => r)
      | none => r)
    | _ => r)
  | _ => r

section
variable (call : Fn → List Value → Hp → (Value → Hp → Option α) → Option α)

def eop (fx : Fx) (o : Oper) (s : Env) (H : Hp) (K : Env → Hp → Option α) : Option α :=
  match o.op with
  | .call c => (match c.callee with
    | .builtin b => (match roOk fx.ro b with
      | true => builtinK P T b c.argTypes o.type (c.args.toList.map (ev s)) s H (fun v s H => K (setD s o.dst v) H)
      | false => none)
    | .value f => (match ev s f with
      | .func g first captured =>
        (match (first.toList ++ (c.args.toList.map (ev s) ++ captured.toList)).all nl with
        | true => call g (first.toList ++ (c.args.toList.map (ev s) ++ captured.toList)) H (fun v H => K (setD s o.dst v) H)
        | false => none)
      | _ => none)
    | .invoke .. => none)
  | .defer c => (match fx.ro with
    | some _ => none
    | none => (match c.callee with
      | .value f => (match ev s f with
        | .func g first captured =>
          (match g with
          | .func n => (match (first.toList ++ (c.args.toList.map (ev s) ++ captured.toList)).all nl with
            | true => K (setD (pushD s (.call (.func n) (first.toList ++ (c.args.toList.map (ev s) ++ captured.toList)))) o.dst undefV) H
            | false => none)
          | _ => none)
        | _ => none)
      | _ => none))
  | _ => sop P T fx.fn o s H (fun v s H => K (setD s o.dst v) H)

/-- Is an operation carried out? Behind it the guard's temporary holds the answer. -/
def guardK (ops : Array Oper) (o : Oper) (s : Env) (K : Bool → Env → Option α) : Option α :=
  match o.guard with
  | none => K true s
  | some (j, want) => match lget ops.toList j with
    | none => none
    | some og => match og.dst with
      | none => none
      | some t => match s.ts.get t with
        | some (.bool b) => (match b with
          | true => K want (setT s t (.bool true))
          | false => K (!want) (setT s t (.bool false)))
        | some (.tuple _) => K false s
        | _ => none

def eops (fx : Fx) (ops : Array Oper) : List Oper → Env → Hp → (Env → Hp → Option α) → Option α
  | [], s, H, K => K s H
  | o :: l, s, H, K => guardK ops o s (fun w s => match w with
      | true => eop P T call fx o s H (fun s H => eops fx ops l s H K)
      | false => eops fx ops l (setD s o.dst undefV) H K)

/-- The same, of a region that draws: what was loaded must stand. -/
def eopsD (fx : Fx) (ops : Array Oper) : List (Nat × List Nat) → List Ld → Env → Hp → (Env → Hp → Option α) → Option α
  | [], _, s, H, K => K s H
  | (i, un) :: l, lds, s, H, K => match lget ops.toList i with
    | none => none
    | some o => guardK ops o s (fun w s => match w with
      | true => eop P T call fx o s H (fun s' H' =>
          match isEff P o.op with
          | false => eopsD fx ops l (ldOf P s o i H lds) s' H' K
          | true => (match (lds.filter fun x => memN un x.j).all (standsB (stAddr s o) s' H') with
            | true => eopsD fx ops l lds s' H' K
            | false => none))
      | false => eopsD fx ops l lds (setD s o.dst undefV) H K)

def pointsTo (t : Nat) : Value → Bool
  | .pointer (some a) => (match a.spot with | some _ => Nat.beq a.block t | none => false)
  | .slice (some a) _ _ => (match a.spot with | some _ => Nat.beq a.block t | none => false)
  | _ => false
def killL (s : Env) (t : Tmp) : Env := match s with
  | ⟨n, ts, ls, ds⟩ => match ls.get t with
    | some (some _) => ⟨n, ts.map (fun v => match pointsTo t v with | true => topV | false => v), ls.set t none, ds⟩
    | _ => ⟨n, ts, ls, ds⟩
def mkT1 (fn : FuncId) (d : Option Tmp) (l : List Tmp) : List Tmp :=
  match d with
  | none => l
  | some t => match isEsc T fn t with
    | true => l
    | false => t :: l
def mkTs (fn : FuncId) : List Oper → List Tmp
  | [] => []
  | o :: l => match o.op with
    | .alloc _ => mkT1 T fn o.dst (mkTs fn l)
    | .box .. => mkT1 T fn o.dst (mkTs fn l)
    | .buildSlice .. => mkT1 T fn o.dst (mkTs fn l)
    | .convert .. => mkT1 T fn o.dst (mkTs fn l)
    | _ => mkTs fn l
def killLs (s : Env) : List Tmp → Env
  | [] => s
  | t :: l => killLs (killL s t) l

def eregion (fx : Fx) (id : Nat) (ops : Array Oper) (draw : Bool) (s : Env) (H : Hp) (K : Env → Hp → Option α) : Option α :=
  match draw with
  | false => eops P T call fx ops ops.toList (killLs s (mkTs T fx.fn ops.toList)) H K
  | true => (match regOf T fx.fn id with
    | some l => eopsD P T call fx ops l [] (killLs s (mkTs T fx.fn ops.toList)) H K
    | none => none)

def fixT (s : Env) : Operand → Bool → Env
  | .tmp t, b => setT s t (.bool b)
  | _, _ => s

def scrub (s : Env) : List Tmp → Env
  | [] => s
  | t :: l => scrub (setT (killL s t) t topV) l
/-- The first region of code: by it a loop is known. -/
def firstR : Code → Option Nat
  | .region id _ _ => some id
  | .seq a b => (match firstR a with | some i => some i | none => firstR b)
  | .cond _ a b => (match firstR a with | some i => some i | none => firstR b)
  | .block _ c => firstR c
  | .loop c => firstR c
  | .scope c => firstR c
  | _ => none
def scrubL (fn : FuncId) (c : Code) : List Tmp :=
  match look T.scr fn with
  | none => []
  | some l => match firstR c with
    | none => []
    | some i => match look l i with | some r => r | none => []

def eloop (sc : List Tmp) (body : Env → Hp → (Ex → Env → Hp → Option α) → Option α) : Nat → Env → Hp → (Ex → Env → Hp → Option α) → Option α
  | 0, _, _, _ => none
  | n + 1, s, H, K => body (scrub s sc) H (fun e s H => match e with
    | .normal => eloop sc body n s H K
    | e => K e s H)

def rangeEnd (l : Nat) (s : Env) (H2 : Hp) (K : Ex → Env → Hp → Option α) : Option α :=
  match H2.get l with
  | some (.loop r) => (match r.st with
    | .busy => none
    | _ => (match r.pend with
      | none => K .normal s (H2.put l (some (.loop { r with st := .exhausted })))
      | some .ret => K .ret s (H2.put l (some (.loop { r with st := .exhausted })))
      | some (.exit id) => K (.exit id) s (H2.put l (some (.loop { r with st := .exhausted })))
      | _ => none))
  | _ => none
def noL (v : Value) : Value := match nl v with | true => v | false => topV
def rangeGo (fn : FuncId) (g : Fn) (first captured : List Value) (ps : List Tmp) (asg body : Code) (d : Nat) (s : Env) (H : Hp) (K : Ex → Env → Hp → Option α) : Option α :=
  match (first ++ captured).all nl with
  | false => none
  | true => call g (first ++ (.func (.yield H.next) #[] #[] :: captured)) (H.alloc (.loop ⟨.ready, none, fn, s.nt, s.ts.map noL, ps, asg, body, d⟩)) (fun _ H2 => rangeEnd H.next s H2 K)
def erange (fx : Fx) (f : Operand) (ps : Array Tmp) (asg body : Code) (s : Env) (H : Hp) (K : Ex → Env → Hp → Option α) : Option α :=
  match ev s f with
  | .func g first captured => (match g with
    | .func _ => (match fx.ro with
      | none => rangeGo call fx.fn g first.toList captured.toList ps.toList asg body H.next (pushD s (.coll H.next)) (H.alloc .dfr) K
      | some l0 => (match H.get l0 with
        | some (.loop r) => rangeGo call fx.fn g first.toList captured.toList ps.toList asg body r.dfr s H K
        | _ => none))
    | _ => none)
  | _ => none

def ecode (n : Nat) (fx : Fx) : Code → Env → Hp → (Ex → Env → Hp → Option α) → Option α
  | .skip, s, H, K => K .normal s H
  | .label _, s, H, K => K .normal s H
  | .region id ops draw, s, H, K => eregion P T call fx id ops draw s H (fun s H => K .normal s H)
  | .seq a b, s, H, K => ecode n fx a s H (fun e s H => match e with
    | .normal => ecode n fx b s H K
    | e => K e s H)
  | .cond c a b, s, H, K => (match ev s c with
    | .bool t => (match t with
      | true => ecode n fx a (fixT s c true) H K
      | false => ecode n fx b (fixT s c false) H K)
    | _ => none)
  | .block id c, s, H, K => ecode n fx c s H (fun e s H => match e with
    | .exit i => (match Nat.beq i id with | true => K .normal s H | false => K (.exit i) s H)
    | e => K e s H)
  | .loop c, s, H, K => eloop (scrubL T fx.fn c) (ecode n fx c) n s H K
  | .scope c, s, H, K => ecode n fx c s H K
  | .rangeFunc f ps a b, s, H, K => erange call fx f ps a b s H K
  | .exit id, s, H, K => K (.exit id) s H
  | .ret, s, H, K => K .ret s H
  | .goto _, _, _, _ => none
  | .refuse _, _, _, _ => none

/-- The deferred calls, and then the results. -/
def resV (s : Env) (H : Hp) : List ResultVar → Option (List Value)
  | [] => some []
  | .tmp t :: l => (match resV s H l with
    | some r => (match s.ts.get t with | some v => some (v :: r) | none => none)
    | none => none)
  | .cell a t :: l => (match resV s H l with
    | some r => (match s.ts.get a with
      | some (.pointer (some a)) => (match tyI P t with
        | some (agg, n) => (match rd s H a (match agg with | true => n | false => 1) with
          | some c => (match unc agg c with | some v => some (v :: r) | none => none)
          | none => none)
        | none => none)
      | _ => none)
    | none => none)
def tupV : List Value → Value
  | [v] => v
  | l => .tuple ⟨l⟩

def eret (fn : Func) (s : Env) : List ADef → Hp → (Value → Hp → Option α) → Option α
  | [], H, K => (match resV P s H fn.results.toList with
    | some l => (match l.all nl with
      | true => K (tupV l) H
      | false => none)
    | none => none)
  | .coll b :: ds, H, K => (match H.get b with
    | some .dfr => eret fn s ds (H.put b none) K
    | _ => none)
  | .call f args :: ds, H, K => call f args H (fun _ H => eret fn s ds H K)

end

def extK (k : ExtK) (args : List Value) (H : Hp) (K : Value → Hp → Option α) : Option α :=
  match k with
  | .nop => K undefV H
  | .addr0 => (match args with
    | .pointer (some _) :: _ => K undefV H
    | _ => none)
  | .same => (match args with
    | [x] => K x H
    | _ => none)
  | .mkNoZero e => (match args with
    | [.int .i64 n] => if 0 ≤ n ∧ n ≤ 1073741824 then K (.slice (some ⟨H.next, 0, none⟩) n.toNat (capU + 1)) (H.alloc (.cells (List.replicate n.toNat topV) e 0 false)) else none
    | _ => none)
  | .load k => (match args with
    | [.pointer (some a)] => (match rd ⟨0, .nil, .nil, []⟩ H a 1 with
      | some [.int k' n] => (match decide (k = k') with | true => K (.int k' n) H | false => none)
      | _ => none)
    | _ => none)
  | .store => (match args with
    | [.pointer (some a), v] => (match a.spot with
      | some _ => none
      | none => (match one v && nl v with
        | true => wr ⟨0, .nil, .nil, []⟩ H a [v] (fun _ H => K undefV H)
        | false => none))
    | _ => none)
  | .cas k => (match args with
    | [.pointer (some a), .int _ y, .int k2 z] => (match a.spot with
      | some _ => none
      | none => (match rd ⟨0, .nil, .nil, []⟩ H a 1 with
        | some [.int k' x] => (match decide (k = k') with
          | true => (match x == y with
            | true => wr ⟨0, .nil, .nil, []⟩ H a [.int k2 z] (fun _ H => K (.bool true) H)
            | false => wr ⟨0, .nil, .nil, []⟩ H a [.int k' x] (fun _ _ => K (.bool false) H))
          | false => none)
        | _ => none))
    | _ => none)
  | .add k => (match args with
    | [.pointer (some a), .int _ y] => (match a.spot with
      | some _ => none
      | none => (match rd ⟨0, .nil, .nil, []⟩ H a 1 with
        | some [.int k' x] => (match decide (k = k') with
          | true => wr ⟨0, .nil, .nil, []⟩ H a [.int k (kw k (x + y))] (fun _ H => K (.int k (kw k (x + y))) H)
          | false => none)
        | _ => none))
    | _ => none)
  | .idxByte => (match args with
    | [.string s, .int .u8 c] => K (.int .i64 (match s.data.toList.findIdx? (fun x => Nat.beq x.toNat (c.toNat % 256)) with | some i => (i : Int) | none => -1)) H
    | _ => none)
  | .count => (match args with
    | [.string s, .int .u8 c] => K (.int .i64 ((s.data.toList.countP (fun x => Nat.beq x.toNat (c.toNat % 256)) : Nat) : Int)) H
    | _ => none)
  | .add64 => (match args with
    | [.int _ x, .int _ y, .int _ c] => if c.toNat ≤ 1 then
        K (.tuple ⟨[.int .u64 (((x.toNat + y.toNat + c.toNat) % 18446744073709551616 : Nat) : Int), .int .u64 (((x.toNat + y.toNat + c.toNat) / 18446744073709551616 : Nat) : Int)]⟩) H
      else none
    | _ => none)
  | .sub64 => (match args with
    | [.int _ x, .int _ y, .int _ c] => if c.toNat ≤ 1 then
        K (.tuple ⟨[.int .u64 (((x.toNat + 18446744073709551616 - y.toNat - c.toNat) % 18446744073709551616 : Nat) : Int), .int .u64 (if x.toNat < y.toNat + c.toNat then 1 else 0)]⟩) H
      else none
    | _ => none)

def lay0 : Nat → List Value → TT Value → TT Value
  | _, [], t => t
  | i, v :: l, t => lay0 (i + 1) l (t.set i v)
def depth (n : Nat) : Nat := Nat.log2 (n + 1) + 1
def enter (n : Nat) (args : List Value) : Env := ⟨n, lay0 0 args (TT.full undefV (depth n)), TT.full none (depth n), []⟩
def layP (n : Nat) : List Tmp → List Value → TT Value → TT Value
  | p :: ps, v :: vs, t => layP n ps vs (match Nat.blt p n with | true => t.set p v | false => t)
  | _, _, t => t

def eExt (f : FuncId) (args : List Value) (H : Hp) (K : Value → Hp → Option α) : Option α :=
  match look T.ext f with
  | some k => extK k args H K
  | none => none
def eBody (call : Fn → List Value → Hp → (Value → Hp → Option α) → Option α) (n : Nat) (f : FuncId) (fn : Func) (c : Code) (args : List Value) (H : Hp) (K : Value → Hp → Option α) : Option α :=
  ecode P T call n ⟨f, none⟩ c (enter (max fn.ntmps args.length) args) H (fun e s H => match e with
    | .exit _ => none
    | _ => eret P call fn s s.ds H K)
def eEnd (l : Nat) (e : Ex) (H : Hp) (K : Value → Hp → Option α) : Option α :=
  match H.get l with
  | some (.loop r3) => (match e with
    | .normal => K (.bool true) (H.put l (some (.loop { r3 with st := .ready, pend := none })))
    | .ret => K (.bool false) (H.put l (some (.loop { r3 with st := .done, pend := some .ret })))
    | .exit id => K (.bool false) (H.put l (some (.loop { r3 with st := .done, pend := some (.exit id) }))))
  | _ => none
def eRound (call : Fn → List Value → Hp → (Value → Hp → Option α) → Option α) (n : Nat) (l : Nat) (fn : FuncId) (body : Code) (s : Env) (H : Hp) (K : Value → Hp → Option α) : Option α :=
  match H.get l with
  | some (.loop r2) => (match r2.st with
    | .ready => (match s.ds with
      | [] => ecode P T call n ⟨fn, some l⟩ body s (H.put l (some (.loop { r2 with st := .busy }))) (fun e _ H => eEnd l e H K)
      | _ => none)
    | _ => none)
  | _ => none
def eYield (call : Fn → List Value → Hp → (Value → Hp → Option α) → Option α) (n : Nat) (l : Nat) (args : List Value) (H : Hp) (K : Value → Hp → Option α) : Option α :=
  match H.get l with
  | some (.loop r) => (match Nat.beq r.ps.length args.length with
    | false => none
    | true => ecode P T call n ⟨r.fn, some l⟩ r.asg ⟨r.nt, layP r.nt r.ps args r.ts, TT.full none (depth r.nt), []⟩ H (fun e s H => match e with
        | .normal => eRound P T call n l r.fn r.body s H K
        | _ => none))
  | _ => none

/-- What is known of calls beforehand. -/
abbrev Orc := (α : Type) → FuncId → List Value → Hp → (Value → Hp → Option α) → Option α → Option α
/-- A call. -/
def einv (O : Orc) : Nat → Fn → List Value → Hp → (Value → Hp → Option α) → Option α
  | 0, _, _, _, _ => none
  | n + 1, .func f, args, H, K => O α f args H K (match lget P.funcs.toList f with
      | none => none
      | some fn => (match fn.body with
        | none => eExt T f args H K
        | some c => eBody P T (einv O n) n f fn c args H K))
  | n + 1, .yield l, args, H, K => eYield P T (einv O n) n l args H K
  | _ + 1, _, _, _, _ => none
def noO : Orc := fun _ _ _ _ _ b => b

end
end
end Go.Ev
end
section
set_option linter.unusedSimpArgs false
set_option linter.unusedVariables false
namespace Go.Ev

/-- Where a block lies in the world: its number, how far it is shifted there, its cells. -/
structure Img where
  blk : Nat
  del : Nat
  csz : Nat

abbrev GM := Nat → Option Img
def GM.le (g g' : GM) : Prop := ∀ b i, g b = some i → g' b = some i
theorem GM.le_refl (g : GM) : g.le g := fun _ _ h => h
theorem GM.le_trans {a b c : GM} (h : a.le b) (k : b.le c) : a.le c := fun x i e => k x i (h x i e)

def AR (g : GM) (a a' : Addr) : Prop := a.spot = none ∧ a'.spot = none ∧ ∃ i, g a.block = some i ∧ a'.block = i.blk ∧ a'.off = a.off + i.del
theorem AR.mono {g g' : GM} (h : g.le g') {a a' : Addr} (k : AR g a a') : AR g' a a' :=
  let ⟨p, q, i, hi, r⟩ := k; ⟨p, q, i, h _ _ hi, r⟩

def CapR (g : GM) (a a' : Addr) (len cap cap' : Nat) : Prop :=
  (cap < capU ∧ cap' = cap) ∨ (∃ k, cap = capU + k ∧ len ≤ cap' ∧ ∃ i, g a.block = some i ∧ a'.off + cap' * k ≤ i.csz)
theorem CapR.mono {g g' : GM} (h : g.le g') {a a' : Addr} {l c c' : Nat} (k : CapR g a a' l c c') : CapR g' a a' l c c' := by
  rcases k with k | ⟨p, q, z, i, hi, r⟩
  · exact .inl k
  · exact .inr ⟨p, q, z, i, h _ _ hi, r⟩

mutual
inductive VG (g : GM) : Value → Value → Prop where
  | top (v : Value) : VG g (.float .f32 7) v
  | bool (b : Bool) : VG g (.bool b) (.bool b)
  | int (k : IntKind) (n : Int) : VG g (.int k n) (.int k n)
  | string (s : ByteArray) : VG g (.string s) (.string s)
  | ptrN : VG g (.pointer none) (.pointer none)
  | ptr {a a' : Addr} (h : AR g a a') : VG g (.pointer (some a)) (.pointer (some a'))
  | slcN (l c : Nat) : VG g (.slice none l c) (.slice none l c)
  | slc {a a' : Addr} {l c c' : Nat} (h : AR g a a') (hc : CapR g a a' l c c') : VG g (.slice (some a) l c) (.slice (some a') l c')
  | slcE {a a' : Addr} {i : Img} (h : g a.block = some i) (ha : a.spot = none ∧ a'.spot = none ∧ a'.block = i.blk) (b : Nat) (hb : b = 0) (c : Nat) (hc : capU ≤ c) : VG g (.slice (some a) b c) (.slice (some a') b b)
  | mapN : VG g (.map none) (.map none)
  | map {r : Nat} {i : Img} (h : g r = some i) : VG g (.map (some r)) (.map (some i.blk))
  | nilF : VG g .nilFunc .nilFunc
  | nilI : VG g .nilIface .nilIface
  | func {n : FuncId} {p p' c c' : List Value} (h : VGL g p p') (k : VGL g c c') : VG g (.func (.func n) ⟨p⟩ ⟨c⟩) (.func (.func n) ⟨p'⟩ ⟨c'⟩)
  | yield {l : Nat} {i : Img} (h : g l = some i) : VG g (.func (.yield l) ⟨[]⟩ ⟨[]⟩) (.func (.yield i.blk) ⟨[]⟩ ⟨[]⟩)
  | iface (t : TypeId) {v v' : Value} (h : VG g v v') : VG g (.iface t v) (.iface t v')
  | agg {l l' : List Value} (h : VGL g l l') : VG g (.agg ⟨l⟩) (.agg ⟨l'⟩)
  | tuple {l l' : List Value} (h : VGL g l l') : VG g (.tuple ⟨l⟩) (.tuple ⟨l'⟩)
inductive VGL (g : GM) : List Value → List Value → Prop where
  | nil : VGL g [] []
  | cons {v v' : Value} {l l' : List Value} (h : VG g v v') (k : VGL g l l') : VGL g (v :: l) (v' :: l')
end

mutual
theorem VG.mono {g g' : GM} (h : g.le g') : ∀ {v v' : Value}, VG g v v' → VG g' v v'
  | _, _, .top v => .top v
  | _, _, .bool b => .bool b
  | _, _, .int k n => .int k n
  | _, _, .string s => .string s
  | _, _, .ptrN => .ptrN
  | _, _, .ptr a => .ptr (a.mono h)
  | _, _, .slcN l c => .slcN l c
  | _, _, .slc a c => .slc (a.mono h) (c.mono h)
  | _, _, .slcE e p b hb c hc => .slcE (h _ _ e) p b hb c hc
  | _, _, .mapN => .mapN
  | _, _, .map e => .map (h _ _ e)
  | _, _, .nilF => .nilF
  | _, _, .nilI => .nilI
  | _, _, .func a b => .func (VGL.mono h a) (VGL.mono h b)
  | _, _, .yield e => .yield (h _ _ e)
  | _, _, .iface t a => .iface t (VG.mono h a)
  | _, _, .agg a => .agg (VGL.mono h a)
  | _, _, .tuple a => .tuple (VGL.mono h a)
theorem VGL.mono {g g' : GM} (h : g.le g') : ∀ {l l' : List Value}, VGL g l l' → VGL g' l l'
  | _, _, .nil => .nil
  | _, _, .cons a b => .cons (VG.mono h a) (VGL.mono h b)
end

theorem VGL.length {g : GM} : ∀ {l l' : List Value}, VGL g l l' → l.length = l'.length
  | _, _, .nil => rfl
  | _, _, .cons _ k => by simp [VGL.length k]

@[simp] theorem lget_nil {α : Type} (n : Nat) : lget ([] : List α) n = none := rfl
@[simp] theorem lget_zero {α : Type} (a : α) (l : List α) : lget (a :: l) 0 = some a := rfl
@[simp] theorem lget_succ {α : Type} (a : α) (l : List α) (n : Nat) : lget (a :: l) (n + 1) = lget l n := rfl
theorem lget_eq {α : Type} : ∀ (l : List α) (n : Nat), lget l n = l[n]?
  | [], _ => by simp
  | _ :: _, 0 => by simp
  | _ :: l, n + 1 => by simp [lget_eq l n]

theorem VGL.get {g : GM} : ∀ {l l' : List Value}, VGL g l l' → ∀ {n : Nat} {v : Value}, l[n]? = some v → ∃ v', l'[n]? = some v' ∧ VG g v v'
  | _, _, .nil, n, v, h => by simp at h
  | _, _, .cons a b, 0, v, h => by simp at h; subst h; exact ⟨_, by simp, a⟩
  | _, _, .cons a b, n + 1, v, h => by simp at h; simpa using VGL.get b h

theorem VGL.append {g : GM} : ∀ {l l' m m' : List Value}, VGL g l l' → VGL g m m' → VGL g (l ++ m) (l' ++ m')
  | _, _, _, _, .nil, k => k
  | _, _, _, _, .cons a b, k => .cons a (VGL.append b k)

theorem VGL.drop {g : GM} : ∀ {l l' : List Value}, VGL g l l' → ∀ n, VGL g (l.drop n) (l'.drop n)
  | _, _, .nil, n => by simpa using VGL.nil
  | _, _, .cons a b, 0 => .cons a b
  | _, _, .cons a b, n + 1 => VGL.drop b n
theorem VGL.take {g : GM} : ∀ {l l' : List Value}, VGL g l l' → ∀ n, VGL g (l.take n) (l'.take n)
  | _, _, .nil, n => by simpa using VGL.nil
  | _, _, .cons a b, 0 => .nil
  | _, _, .cons a b, n + 1 => .cons a (VGL.take b n)
theorem VGL.replicate {g : GM} {v v' : Value} (h : VG g v v') : ∀ n, VGL g (List.replicate n v) (List.replicate n v')
  | 0 => .nil
  | n + 1 => .cons h (VGL.replicate h n)
theorem VGL.flatten {g : GM} {l l' : List Value} (h : VGL g l l') : ∀ n, VGL g (List.replicate n l).flatten (List.replicate n l').flatten
  | 0 => .nil
  | n + 1 => by simp only [List.replicate_succ, List.flatten_cons]; exact VGL.append h (VGL.flatten h n)

theorem VG.cells {g : GM} {v v' : Value} (h : VG g v v') (ho : (vcells v).all one = true) : VGL g (vcells v) v'.cells.toList := by
  have h0 := h
  cases h <;> first
    | (rename_i h; exact h)
    | (simp [vcells, one] at ho; done)
    | exact .cons h0 .nil

theorem VG.one {g : GM} {v v' : Value} (h : VG g v v') (ho : one v = true) : Ev.one v' = true := by
  cases h <;> first | rfl | (simp [Ev.one] at ho)

theorem VGL.one {g : GM} : ∀ {l l' : List Value}, VGL g l l' → l.all one = true → ∀ v ∈ l', Ev.one v = true
  | _, _, .nil, _, v, hv => by simp at hv
  | _, _, .cons a b, h, v, hv => by
    simp only [List.all_cons, Bool.and_eq_true] at h
    rcases List.mem_cons.1 hv with rfl | hv
    · exact a.one h.1
    · exact VGL.one b h.2 v hv

/-! ### What lies in a frame alone. -/
abbrev LM := Tmp → Option Nat
def LR (l : LM) (a a' : Addr) : Prop := a.spot ≠ none ∧ a'.spot = none ∧ l a.block = some a'.block ∧ a'.off = a.off

inductive VR (g : GM) (l : LM) : Value → Value → Prop where
  | g {v v' : Value} (h : VG g v v') : VR g l v v'
  | ptr {a a' : Addr} (h : LR l a a') : VR g l (.pointer (some a)) (.pointer (some a'))
  | slc {a a' : Addr} {n c c' : Nat} (h : LR l a a') (hc : (c < capU ∧ c' = c) ∨ (capU ≤ c ∧ n ≤ c')) : VR g l (.slice (some a) n c) (.slice (some a') n c')
  | slcE {a a' : Addr} (h : a.spot ≠ none ∧ a'.spot = none ∧ l a.block = some a'.block) {b : Nat} (hb : b = 0) {c : Nat} (hc : capU ≤ c) : VR g l (.slice (some a) b c) (.slice (some a') b b)

theorem VR.mono {g g' : GM} (h : g.le g') {l : LM} {v v' : Value} (k : VR g l v v') : VR g' l v v' := by
  cases k with
  | g k => exact .g (k.mono h)
  | ptr k => exact .ptr k
  | slc k c => exact .slc k c
  | slcE k p q => exact .slcE k p q

theorem VR.nl {g : GM} {l : LM} {v v' : Value} (k : VR g l v v') (h : nl v = true) : VG g v v' := by
  cases k with
  | g k => exact k
  | ptr k => simp [Ev.nl] at h; exact absurd h k.1
  | slc k c => simp [Ev.nl] at h; exact absurd h k.1
  | slcE k p q => simp [Ev.nl] at h; exact absurd h k.1

/-! ### Blocks -/
/-- Which cells are frozen, at most. -/
def FzOk (i : Img) (fz : Nat) (sg : Bool) (lo hi : Nat) : Prop := lo = hi ∨ i.csz < fz ∨ (if sg then i.csz ≤ lo else hi ≤ i.del + fz)

def EntR (g : GM) (e e' : MapEntry) : Prop := VG g e.key e'.key ∧ VG g e.val e'.val ∧ e'.born = e.born
inductive EntL (g : GM) : List MapEntry → List MapEntry → Prop where
  | nil : EntL g [] []
  | cons {e e' : MapEntry} {l l' : List MapEntry} (h : EntR g e e') (k : EntL g l l') : EntL g (e :: l) (e' :: l')
theorem EntR.mono {g g' : GM} (h : g.le g') {e e' : MapEntry} (k : EntR g e e') : EntR g' e e' := ⟨k.1.mono h, k.2.1.mono h, k.2.2⟩
theorem EntL.mono {g g' : GM} (h : g.le g') : ∀ {l l' : List MapEntry}, EntL g l l' → EntL g' l l'
  | _, _, .nil => .nil
  | _, _, .cons a b => .cons (a.mono h) (EntL.mono h b)

/-- The cells `c`, from `d` on in a block. -/
def CellsR (g : GM) (d : Nat) (c : List Value) (c' : Array Value) : Prop :=
  ∀ k v, c[k]? = some v → ∃ v', c'[d + k]? = some v' ∧ VG g v v'
theorem CellsR.mono {g g' : GM} (h : g.le g') {d : Nat} {c : List Value} {c' : Array Value} (k : CellsR g d c c') : CellsR g' d c c' :=
  fun n v e => let ⟨v', p, q⟩ := k n v e; ⟨v', p, q.mono h⟩

structure LoopOk (P : Program) (T : Tab) (g : GM) (r : LoopR) (r' : Loop) : Prop where
  cok : codeOk P T r.fn r.asg = true ∧ codeOk P T r.fn r.body = true
  st : r'.state = r.st
  pend : r'.pending = r.pend
  fn : r'.fn = r.fn
  nt : r'.tmps.size = r.nt
  ts : ∀ t v, r.ts.get t = some v → VG g v (r'.tmps.getD t undef)
  ps : r'.params.toList = r.ps
  asg : r'.assign = r.asg
  body : r'.body = r.body
  dfr : ∃ i, g r.dfr = some i ∧ r'.defers = i.blk

def ObjR (P : Program) (T : Tab) (g : GM) (i : Img) : AObj → Obj → Prop
  | .cells c e fz sg, o => ∃ c' lo hi, o = .cells c' e (lo, hi) ∧ c'.size = i.csz ∧ i.del + c.length ≤ i.csz ∧ CellsR g i.del c c' ∧ FzOk i fz sg lo hi ∧ (i.del = 0 ∨ memN T.pts e = false)
  | .map es cl, o => ∃ es' : Array MapEntry, o = .map es' cl ∧ EntL g es es'.toList
  | .loop r, o => ∃ r', o = .loop r' ∧ LoopOk P T g r r'
  | .dfr, o => o = .deferred (some [])

theorem ObjR.mono {P : Program} {T : Tab} {g g' : GM} (h : g.le g') {i : Img} {o : AObj} {o' : Obj} (k : ObjR P T g i o o') : ObjR P T g' i o o' := by
  cases o with
  | cells c e fz sg => obtain ⟨c', lo, hi, a, b, c, d, e⟩ := k; exact ⟨c', lo, hi, a, b, c, d.mono h, e⟩
  | map es cl => obtain ⟨es', a, b⟩ := k; exact ⟨es', a, b.mono h⟩
  | loop r =>
    obtain ⟨r', a, b⟩ := k
    obtain ⟨i, p, q⟩ := b.dfr
    exact ⟨r', a, b.cok, b.st, b.pend, b.fn, b.nt, fun t v e => (b.ts t v e).mono h, b.ps, b.asg, b.body, i, h _ _ p, q⟩
  | dfr => exact k

/-- The blocks that are known, and the world. -/
structure GR (P : Program) (T : Tab) (g : GM) (H : Hp) (w : World) : Prop where
  dom : ∀ b i, g b = some i → b < H.next
  lt : ∀ b i, g b = some i → i.blk < w.heap.size
  obj : ∀ b i o, g b = some i → H.get b = some o → ∃ o', w.heap[i.blk]? = some o' ∧ ObjR P T g i o o'
  inj : ∀ b₁ b₂ i₁ i₂ o₁ o₂, g b₁ = some i₁ → g b₂ = some i₂ → H.get b₁ = some o₁ → H.get b₂ = some o₂ → i₁.blk = i₂.blk → b₁ = b₂

/-- Is a block of the world one that is known and lives? -/
def Live (g : GM) (H : Hp) (c : Nat) : Prop := ∃ b i o, g b = some i ∧ H.get b = some o ∧ i.blk = c

/-- What a stretch of a run does to the blocks; `own c`: blocks that may change besides (the frame's own). -/
structure Ext (P : Program) (T : Tab) (own : Nat → Prop) (g : GM) (H : Hp) (w : World) (g' : GM) (H' : Hp) (w' : World) : Prop where
  le : g.le g'
  gr : GR P T g' H' w'
  size : w.heap.size ≤ w'.heap.size
  new : ∀ b i, g' b = some i → g b = some i ∨ (H.next ≤ b ∧ (w.heap.size ≤ i.blk ∨ Live g H i.blk))
  keep : ∀ b, b < H.next → g b = none → H'.get b = H.get b
  dead : ∀ b, b < H.next → H.get b = none → H'.get b = none
  next : H.next ≤ H'.next
  frame : ∀ c, c < w.heap.size → ¬ Live g H c → ¬ own c → w'.heap[c]? = w.heap[c]?
  os : w'.os = w.os
  tape : w'.tape = w.tape
  output : w'.output = w.output
  ro : ∀ b i o, g b = some i → H.get b = some o → isRo o = true → H'.get b = some o ∧ w'.heap[i.blk]? = w.heap[i.blk]?

theorem Ext.refl {P : Program} {T : Tab} {own : Nat → Prop} {g : GM} {H : Hp} {w : World} (h : GR P T g H w) : Ext P T own g H w g H w :=
  ⟨g.le_refl, h, Nat.le_refl _, fun _ _ h => .inl h, fun _ _ _ => rfl, fun _ _ h => h, Nat.le_refl _, fun _ _ _ _ => rfl, rfl, rfl, rfl, fun _ _ _ _ h _ => ⟨h, rfl⟩⟩

theorem Ext.live {P : Program} {T : Tab} {own : Nat → Prop} {g : GM} {H : Hp} {w : World} {g' : GM} {H' : Hp} {w' : World} (h : Ext P T own g H w g' H' w')
    (hd : ∀ b i, g b = some i → b < H.next) {c : Nat} (hl : Live g' H' c) : w.heap.size ≤ c ∨ Live g H c := by
  obtain ⟨b, i, o, hb, ho, rfl⟩ := hl
  rcases h.new b i hb with hb | ⟨_, hb⟩
  · cases hg : H.get b with
    | none => rw [h.dead b (hd b i hb) hg] at ho; cases ho
    | some o' => exact .inr ⟨b, i, o', hb, hg, rfl⟩
  · exact hb

theorem Ext.trans {P : Program} {T : Tab} {own : Nat → Prop} {g : GM} {H : Hp} {w : World} {g' : GM} {H' : Hp} {w' : World} {g'' : GM} {H'' : Hp} {w'' : World}
    (h₀ : GR P T g H w) (h : Ext P T own g H w g' H' w') (k : Ext P T own g' H' w' g'' H'' w'') : Ext P T own g H w g'' H'' w'' where
  le := GM.le_trans h.le k.le
  gr := k.gr
  size := Nat.le_trans h.size k.size
  new b i e := by
    rcases k.new b i e with e | ⟨hn, e⟩
    · exact h.new b i e
    · refine .inr ⟨Nat.le_trans h.next hn, ?_⟩
      rcases e with e | e
      · exact .inl (Nat.le_trans h.size e)
      · exact h.live h₀.dom e
  keep b hb e := by
    rw [k.keep b (Nat.lt_of_lt_of_le hb h.next) ?_, h.keep b hb e]
    cases hg : g' b with
    | none => rfl
    | some i =>
      rcases h.new b i hg with hg | ⟨hn, _⟩
      · rw [e] at hg; cases hg
      · omega
  dead b hb e := k.dead b (Nat.lt_of_lt_of_le hb h.next) (h.dead b hb e)
  next := Nat.le_trans h.next k.next
  frame c hc hl ho := by
    rw [k.frame c (Nat.lt_of_lt_of_le hc h.size) (fun hl' => ?_) ho, h.frame c hc hl ho]
    rcases h.live h₀.dom hl' with e | e
    · omega
    · exact hl e
  os := k.os.trans h.os
  tape := k.tape.trans h.tape
  output := k.output.trans h.output
  ro b i o e eo er := by
    obtain ⟨h1, h2⟩ := h.ro b i o e eo er
    obtain ⟨k1, k2⟩ := k.ro b i o (h.le b i e) h1 er
    exact ⟨k1, k2.trans h2⟩

theorem Ext.own_mono {P : Program} {T : Tab} {own own' : Nat → Prop} {g : GM} {H : Hp} {w : World} {g' : GM} {H' : Hp} {w' : World} (h : Ext P T own g H w g' H' w') (ho : ∀ c, own c → own' c) :
    Ext P T own' g H w g' H' w' :=
  { h with frame := fun c a b d => h.frame c a b (fun e => d (ho c e)) }

end Go.Ev
end
section
set_option linter.unusedSimpArgs false
set_option linter.unusedVariables false
namespace Go.Ev

/-! ### The evaluator's tables -/
theorem TT.get_nil {α : Type} (i : Nat) : (TT.nil : TT α).get i = none := rfl
theorem TT.get_zero {α : Type} (l : TT α) (v : α) (r : TT α) : (TT.node l v r).get 0 = some v := rfl
theorem TT.get_succ {α : Type} (l : TT α) (v : α) (r : TT α) (j : Nat) : (TT.node l v r).get (j + 1) = match Nat.beq (Nat.mod j 2) 0 with | true => l.get (Nat.div j 2) | false => r.get (Nat.div j 2) := by
  show Bool.rec (motive := fun _ => Option α) (r.get (Nat.div j 2)) (l.get (Nat.div j 2)) (Nat.beq (Nat.mod j 2) 0) = _
  cases Nat.beq (Nat.mod j 2) 0 <;> rfl
theorem TT.set_nil {α : Type} (i : Nat) (u : α) : (TT.nil : TT α).set i u = .nil := rfl
theorem TT.set_zero {α : Type} (l : TT α) (v : α) (r : TT α) (u : α) : (TT.node l v r).set 0 u = .node l u r := rfl
theorem TT.set_succ {α : Type} (l : TT α) (v : α) (r : TT α) (j : Nat) (u : α) : (TT.node l v r).set (j + 1) u = match Nat.beq (Nat.mod j 2) 0 with | true => .node (l.set (Nat.div j 2) u) v r | false => .node l v (r.set (Nat.div j 2) u) := by
  show Bool.rec (motive := fun _ => TT α) (.node l v (r.set (Nat.div j 2) u)) (.node (l.set (Nat.div j 2) u) v r) (Nat.beq (Nat.mod j 2) 0) = _
  cases Nat.beq (Nat.mod j 2) 0 <;> rfl

theorem half_inj {i j : Nat} (h : Nat.div i 2 = Nat.div j 2) (hm : Nat.beq (Nat.mod i 2) 0 = Nat.beq (Nat.mod j 2) 0) : i = j := by
  have a : i / 2 = j / 2 := h
  have b : (Nat.beq (i % 2) 0) = (Nat.beq (j % 2) 0) := hm
  have c : (i % 2 = 0) ↔ (j % 2 = 0) := by
    rw [← Nat.beq_eq, ← Nat.beq_eq, b]
  omega

theorem TT.get_set_same {α : Type} : ∀ (t : TT α) (i : Nat) (u : α), (t.set i u).get i = (t.get i).map (fun _ => u)
  | .nil, _, _ => rfl
  | .node l v r, 0, u => rfl
  | .node l v r, j + 1, u => by
    rw [TT.set_succ, TT.get_succ]
    cases h : Nat.beq (Nat.mod j 2) 0 <;> simp only [TT.get_succ, h, TT.get_set_same _ (Nat.div j 2) u]
theorem TT.get_set_ne {α : Type} : ∀ (t : TT α) (i j : Nat) (u : α), i ≠ j → (t.set i u).get j = t.get j
  | .nil, _, _, _, _ => rfl
  | .node l v r, 0, 0, u, h => absurd rfl h
  | .node l v r, 0, j + 1, u, h => by simp only [TT.set_zero, TT.get_succ]
  | .node l v r, i + 1, 0, u, h => by rw [TT.set_succ]; cases Nat.beq (Nat.mod i 2) 0 <;> rfl
  | .node l v r, i + 1, j + 1, u, h => by
    rw [TT.set_succ]
    cases hi : Nat.beq (Nat.mod i 2) 0 <;> cases hj : Nat.beq (Nat.mod j 2) 0 <;> simp only [TT.get_succ, hj]
    · exact TT.get_set_ne r _ _ u (fun e => h (by rw [half_inj e (hi.trans hj.symm)]))
    · exact TT.get_set_ne l _ _ u (fun e => h (by rw [half_inj e (hi.trans hj.symm)]))
theorem TT.get_map {α β : Type} (f : α → β) : ∀ (t : TT α) (i : Nat), (t.map f).get i = (t.get i).map f
  | .nil, _ => rfl
  | .node l v r, 0 => rfl
  | .node l v r, j + 1 => by
    simp only [TT.map, TT.get_succ]
    cases Nat.beq (Nat.mod j 2) 0 <;> simp only [TT.get_map f]
theorem TT.get_full {α : Type} (v : α) : ∀ (n i : Nat) (x : α), (TT.full v n).get i = some x → x = v
  | 0, _, _, h => by simp [TT.full, TT.get_nil] at h
  | n + 1, 0, x, h => by simp [TT.full, TT.get_zero] at h; exact h.symm
  | n + 1, j + 1, x, h => by
    simp only [TT.full, TT.get_succ] at h
    cases hb : Nat.beq (Nat.mod j 2) 0 <;> simp only [hb] at h <;> exact TT.get_full v n _ x h

theorem blt_iff {a b : Nat} : Nat.blt a b = true ↔ a < b := by simp [Nat.blt, Nat.lt_iff_add_one_le]
theorem blt_false {a b : Nat} : Nat.blt a b = false ↔ b ≤ a := by
  rw [← Bool.not_eq_true, blt_iff]; omega

/-! ### The evaluator's blocks -/
theorem Hp.get_alloc_new (H : Hp) (o : AObj) : (H.alloc o).get H.next = some o := by
  obtain ⟨n, bs⟩ := H
  have e1 : Nat.blt n (n + 1) = true := blt_iff.2 (by omega)
  simp [Hp.alloc, Hp.get, e1]
theorem Hp.get_alloc_old (H : Hp) (o : AObj) {b : Nat} (h : b < H.next) : (H.alloc o).get b = H.get b := by
  obtain ⟨n, bs⟩ := H
  simp only at h
  have e1 : Nat.blt b (n + 1) = true := blt_iff.2 (by omega)
  have e2 : Nat.blt b n = true := blt_iff.2 h
  have e3 : n + 1 - 1 - b = (n - 1 - b) + 1 := by omega
  simp only [Hp.alloc, Hp.get, e1, e2, e3, lget_succ]
theorem Hp.get_allocN_old (H : Hp) {b : Nat} (h : b < H.next) : H.allocN.get b = H.get b := by
  obtain ⟨n, bs⟩ := H
  simp only at h
  have e1 : Nat.blt b (n + 1) = true := blt_iff.2 (by omega)
  have e2 : Nat.blt b n = true := blt_iff.2 h
  have e3 : n + 1 - 1 - b = (n - 1 - b) + 1 := by omega
  simp only [Hp.allocN, Hp.get, e1, e2, e3, lget_succ]
theorem Hp.get_allocN_new (H : Hp) : H.allocN.get H.next = none := by
  obtain ⟨n, bs⟩ := H
  have e1 : Nat.blt n (n + 1) = true := blt_iff.2 (by omega)
  simp [Hp.allocN, Hp.get, e1]
@[simp] theorem Hp.next_alloc (H : Hp) (o : AObj) : (H.alloc o).next = H.next + 1 := by cases H; rfl
@[simp] theorem Hp.next_allocN (H : Hp) : H.allocN.next = H.next + 1 := by cases H; rfl
@[simp] theorem Hp.next_put (H : Hp) (b : Nat) (o : Option AObj) : (H.put b o).next = H.next := by
  obtain ⟨n, bs⟩ := H
  simp only [Hp.put]; cases Nat.blt b n <;> rfl
theorem Hp.get_lt {H : Hp} {b : Nat} {o : AObj} (h : H.get b = some o) : b < H.next := by
  unfold Hp.get at h
  cases e : Nat.blt b H.next with
  | true => exact blt_iff.1 e
  | false => rw [e] at h; cases h
theorem Hp.get_put_same {H : Hp} {b : Nat} {o : AObj} (h : H.get b = some o) (x : Option AObj) : (H.put b x).get b = x := by
  have hb := Hp.get_lt h
  obtain ⟨n, bs⟩ := H
  simp only at hb
  have e2 : Nat.blt b n = true := blt_iff.2 hb
  simp only [Hp.get, e2, lget_eq] at h
  simp only [Hp.put, e2, Hp.get, lget_eq]
  cases hl : bs[n - 1 - b]? with
  | none => rw [hl] at h; cases h
  | some y =>
    have hlt : n - 1 - b < bs.length := by
      rcases Nat.lt_or_ge (n - 1 - b) bs.length with h' | h'
      · exact h'
      · rw [List.getElem?_eq_none h'] at hl; cases hl
    rw [List.getElem?_set_self hlt]
theorem Hp.get_put_ne (H : Hp) {b b' : Nat} (h : b ≠ b') (x : Option AObj) : (H.put b x).get b' = H.get b' := by
  obtain ⟨n, bs⟩ := H
  simp only [Hp.put]
  cases e : Nat.blt b n with
  | false => rfl
  | true =>
    simp only [Hp.get]
    cases e' : Nat.blt b' n with
    | false => rfl
    | true =>
      have h1 := blt_iff.1 e
      have h2 := blt_iff.1 e'
      simp only [lget_eq]
      rw [List.getElem?_set_ne (by omega)]

/-! ### The world -/
/-- A block is turned, all else is as it was. -/
structure Upd (w : World) (b : Nat) (o : Obj) (w' : World) : Prop where
  size : w'.heap.size = w.heap.size
  at_ : w'.heap[b]? = some o
  ne : ∀ k, k ≠ b → w'.heap[k]? = w.heap[k]?
  os : w'.os = w.os
  tape : w'.tape = w.tape
  output : w'.output = w.output

theorem Upd.setBlk {w : World} {b : Nat} (h : b < w.heap.size) (o : Obj) : Upd w b o { w with heap := w.heap.setIfInBounds b o } :=
  ⟨by simp, by simp [Array.getElem?_setIfInBounds_self_of_lt h], fun k hk => by simp [Array.getElem?_setIfInBounds_ne (Ne.symm hk)], rfl, rfl, rfl⟩

theorem Upd.trans {w : World} {b : Nat} {o : Obj} {w' : World} (h : Upd w b o w') {o' : Obj} {w'' : World} (k : Upd w' b o' w'') : Upd w b o' w'' :=
  ⟨k.size.trans h.size, k.at_, fun x hx => (k.ne x hx).trans (h.ne x hx), k.os.trans h.os, k.tape.trans h.tape, k.output.trans h.output⟩

theorem Upd.setCell {w : World} {a : Addr} {c : Array Value} {e : TypeId} {fr : Nat × Nat} (h : w.heap[a.block]? = some (.cells c e fr)) (hs : a.spot = none) (v : Value) :
    Upd w a.block (.cells (c.setIfInBounds a.off v) e fr) (w.setCell a v) := by
  refine ⟨by simp [World.setCell], ?_, fun k hk => ?_, rfl, rfl, rfl⟩
  · simp [World.setCell, Array.getElem?_modify, h, hs]
  · simp only [World.setCell, Array.getElem?_modify, if_neg (Ne.symm hk)]

theorem add_none {a : Addr} (h : a.spot = none) (n : Nat) : a.add n = ⟨a.block, a.off + n, none⟩ := by
  obtain ⟨b, o, s⟩ := a
  simp only at h
  subst h
  unfold Addr.add
  split <;> simp_all

theorem oneCell'_of_one {v : Value} (h : one v = true) : v.oneCell' = true := by cases v <;> first | rfl | (simp [one] at h)

/-- Cells laid over a row, from a place on. -/
def layA (c : Array Value) : Nat → List Value → Array Value
  | _, [] => c
  | o, v :: l => layA (c.setIfInBounds o v) (o + 1) l
theorem layA_size : ∀ (l : List Value) (c : Array Value) (o : Nat), (layA c o l).size = c.size
  | [], _, _ => rfl
  | _ :: l, c, o => by simp [layA, layA_size l]
theorem layA_get : ∀ (l : List Value) (c : Array Value) (o k : Nat), o + l.length ≤ c.size → (layA c o l)[k]? = if o ≤ k ∧ k < o + l.length then l[k - o]? else c[k]?
  | [], c, o, k, _ => by simp [layA]; omega
  | v :: l, c, o, k, h => by
    simp only [List.length_cons] at h
    rw [layA, layA_get l _ (o + 1) k (by simp; omega)]
    by_cases h1 : o + 1 ≤ k ∧ k < o + 1 + l.length
    · rw [if_pos h1, if_pos (by simp; omega)]
      have : k - o = (k - (o + 1)) + 1 := by omega
      rw [this, List.getElem?_cons_succ]
    · rw [if_neg h1]
      by_cases h2 : o = k
      · subst h2
        rw [if_pos (by simp)]
        simp [Array.getElem?_setIfInBounds_self_of_lt (show o < c.size by omega)]
      · rw [if_neg (by simp; omega), Array.getElem?_setIfInBounds_ne h2]

theorem run_storeCells {P : Program} : ∀ (vs : List Value) (a : Addr) (i : Nat) (w : World) (c : Array Value) (e : TypeId) (lo hi : Nat),
    a.spot = none → w.heap[a.block]? = some (.cells c e (lo, hi)) → a.off + i + vs.length ≤ c.size → (∀ k, a.off + i ≤ k → k < a.off + i + vs.length → ¬ (lo ≤ k ∧ k < hi)) →
    (∀ v ∈ vs, one v = true) → ∃ w', (storeCells a vs i).run P w = .ok () w' ∧ (Upd w a.block (.cells (layA c (a.off + i) vs) e (lo, hi)) w')
  | [], a, i, w, c, e, lo, hi, hs, hb, _, _, _ => ⟨w, rfl, ⟨rfl, hb, fun _ _ => rfl, rfl, rfl, rfl⟩⟩
  | v :: vs, a, i, w, c, e, lo, hi, hs, hb, hsz, hf, ho => by
    simp only [List.length_cons] at hsz hf
    have ha := add_none hs i
    have hcell : w.cell? (a.add i) = some c[a.off + i] := by
      rw [ha]; simp [World.cell?, hb]
    have hfr : w.frozen? (a.add i) = false := by
      rw [ha]; simp only [World.frozen?, hb]
      have := hf (a.off + i) (Nat.le_refl _) (by omega)
      simpa using this
    have hu := Upd.setCell (w := w) (a := a.add i) (c := c) (e := e) (fr := (lo, hi)) (by rw [ha]; exact hb) (by rw [ha]) v
    have hadd : (a.add i).block = a.block ∧ (a.add i).off = a.off + i := by rw [ha]; exact ⟨rfl, rfl⟩
    rw [hadd.1, hadd.2] at hu
    obtain ⟨w', hr, hw⟩ := run_storeCells (P := P) vs a (i + 1) (w.setCell (a.add i) v) (c.setIfInBounds (a.off + i) v) e lo hi hs hu.at_ (by simp; omega) (fun k h1 h2 => hf k (by omega) (by omega)) (fun x hx => ho x (List.mem_cons_of_mem _ hx))
    refine ⟨w', ?_, ?_⟩
    · simp only [storeCells, Sem.run_bind, run_store P w (a.add i) v .plain (oneCell'_of_one (ho v (List.mem_cons_self ..))), hcell, hfr, Bool.false_eq_true, if_false, Result.andThen_ok]
      exact hr
    · have : a.off + (i + 1) = a.off + i + 1 := by omega
      rw [this] at hw
      exact hu.trans hw

theorem run_loadCellsFrom' {P : Program} {w : World} {a : Addr} (hs : a.spot = none) {b : Nat} (hb : a.block = b) {c : Array Value} {e : TypeId} {fr : Nat × Nat} (h : w.heap[b]? = some (.cells c e fr)) :
    ∀ (l : List Value) (i : Nat) (acc : Array Value), (∀ k v, l[k]? = some v → c[a.off + i + k]? = some v) →
    (loadCellsFrom a i l.length acc).run P w = .ok (acc ++ l.toArray) w
  | [], i, acc, _ => by simp [loadCellsFrom]
  | v :: l, i, acc, hl => by
    have h0 := hl 0 v (by simp)
    have hcell : w.cell? (a.add i) = some v := by
      rw [add_none hs]; subst hb; simpa [World.cell?, h] using h0
    simp only [List.length_cons, loadCellsFrom, Sem.run_bind, run_load, hcell, Result.andThen_ok]
    rw [run_loadCellsFrom' hs hb h l (i + 1) (acc.push v) (fun k u hk => by
      have := hl (k + 1) u (by simpa using hk)
      rwa [show a.off + i + (k + 1) = a.off + (i + 1) + k from by omega] at this)]
    congr 1
    apply Array.ext'
    simp

theorem run_loadCells' {P : Program} {w : World} {a : Addr} (hs : a.spot = none) {c : Array Value} {e : TypeId} {fr : Nat × Nat} (h : w.heap[a.block]? = some (.cells c e fr))
    (l : List Value) (hl : ∀ k v, l[k]? = some v → c[a.off + k]? = some v) : (loadCells a l.length).run P w = .ok l.toArray w := by
  have := run_loadCellsFrom' (P := P) hs rfl h l 0 #[] (by simpa using hl)
  simpa [loadCells] using this

end Go.Ev
end
section
set_option linter.unusedSimpArgs false
set_option linter.unusedVariables false
namespace Go.Ev
variable {P : Program} {T : Tab}

/-- The cells of a frame's own block. -/
def LocC (g : GM) (w : World) (c : Nat) (cs : List Value) : Prop :=
  ∃ c' e lo hi, w.heap[c]? = some (.cells c' e (lo, hi)) ∧ CellsR g 0 cs c' ∧ ∀ k, k < cs.length → ¬ (lo ≤ k ∧ k < hi)
theorem LocC.mono {g g' : GM} (h : g.le g') {w : World} {c : Nat} {cs : List Value} (k : LocC g w c cs) : LocC g' w c cs :=
  let ⟨c', e, lo, hi, a, b, d⟩ := k; ⟨c', e, lo, hi, a, b.mono h, d⟩
theorem LocC.heap {g : GM} {w w' : World} {c : Nat} {cs : List Value} (k : LocC g w c cs) (h : w'.heap[c]? = w.heap[c]?) : LocC g w' c cs :=
  let ⟨c', e, lo, hi, a, b, d⟩ := k; ⟨c', e, lo, hi, h.trans a, b, d⟩

abbrev LS := TT (Option (List Value))

structure MR (P : Program) (T : Tab) (g : GM) (l : LM) (ls : LS) (H : Hp) (w : World) : Prop where
  gr : GR P T g H w
  lc : ∀ t c, l t = some c → c < w.heap.size ∧ ¬ Live g H c ∧ ∃ cs, ls.get t = some (some cs) ∧ LocC g w c cs
  li : ∀ t t' c, l t = some c → l t' = some c → t = t'

structure Stp (P : Program) (T : Tab) (g : GM) (l : LM) (ls : LS) (H : Hp) (w : World) (g' : GM) (l' : LM) (ls' : LS) (H' : Hp) (w' : World) : Prop where
  ext : Ext P T (fun c => ∃ t, l t = some c) g H w g' H' w'
  ll : ∀ t c, l t = some c → l' t = some c
  ln : ∀ t c, l' t = some c → l t = some c ∨ w.heap.size ≤ c
  lk : ∀ t, l' t = none → ls'.get t = ls.get t

theorem Stp.refl {g : GM} {l : LM} {ls : LS} {H : Hp} {w : World} (h : GR P T g H w) : Stp P T g l ls H w g l ls H w :=
  ⟨Ext.refl h, fun _ _ h => h, fun _ _ h => .inl h, fun _ _ => rfl⟩

theorem Ext.trans' {own own' : Nat → Prop} {g : GM} {H : Hp} {w : World} {g' : GM} {H' : Hp} {w' : World} {g'' : GM} {H'' : Hp} {w'' : World}
    (h₀ : GR P T g H w) (h : Ext P T own g H w g' H' w') (k : Ext P T own' g' H' w' g'' H'' w'') (ho : ∀ c, c < w.heap.size → own' c → own c) : Ext P T own g H w g'' H'' w'' :=
  have e : Ext P T (fun c => own c ∨ w.heap.size ≤ c) g H w g'' H'' w'' := (h.own_mono (fun _ => .inl)).trans h₀ (k.own_mono (fun c hc => (Nat.lt_or_ge c w.heap.size).imp (fun a => ho c a hc) id))
  { e with frame := fun c a b d => e.frame c a b (fun x => x.elim d (fun y => by omega)) }

theorem Stp.trans {g : GM} {l : LM} {ls : LS} {H : Hp} {w : World} {g' : GM} {l' : LM} {ls' : LS} {H' : Hp} {w' : World} {g'' : GM} {l'' : LM} {ls'' : LS} {H'' : Hp} {w'' : World}
    (h₀ : GR P T g H w) (h : Stp P T g l ls H w g' l' ls' H' w') (k : Stp P T g' l' ls' H' w' g'' l'' ls'' H'' w'') : Stp P T g l ls H w g'' l'' ls'' H'' w'' where
  ext := h.ext.trans' h₀ k.ext fun c hc ⟨t, ht⟩ => (h.ln t c ht).elim (fun e => ⟨t, e⟩) (fun e => by omega)
  ll t c e := k.ll t c (h.ll t c e)
  ln t c e := (k.ln t c e).elim (h.ln t c) (fun e => .inr (Nat.le_trans h.ext.size e))
  lk t e := by
    rw [k.lk t e, h.lk t ?_]
    cases hl : l' t with
    | none => rfl
    | some c => rw [k.ll t c hl] at e; cases e

/-- The heap as it was. -/
structure Same (w w' : World) : Prop where
  heap : w'.heap = w.heap
  os : w'.os = w.os
  tape : w'.tape = w.tape
  output : w'.output = w.output
theorem Same.refl (w : World) : Same w w := ⟨rfl, rfl, rfl, rfl⟩
theorem Same.drew (w : World) : Same w { w with drawn := w.drawn + 1 } := ⟨rfl, rfl, rfl, rfl⟩

theorem GR.same {g : GM} {H : Hp} {w w' : World} (h : GR P T g H w) (e : Same w w') : GR P T g H w' :=
  ⟨h.dom, fun b i hb => e.heap ▸ h.lt b i hb, fun b i o hb ho => e.heap ▸ h.obj b i o hb ho, h.inj⟩
theorem MR.same {g : GM} {l : LM} {ls : LS} {H : Hp} {w w' : World} (h : MR P T g l ls H w) (e : Same w w') : MR P T g l ls H w' ∧ Stp P T g l ls H w g l ls H w' := by
  refine ⟨⟨h.gr.same e, fun t c ht => ?_, h.li⟩, ⟨⟨g.le_refl, h.gr.same e, by rw [e.heap]; exact Nat.le_refl _, fun _ _ h => .inl h, fun _ _ _ => rfl, fun _ _ h => h, Nat.le_refl _, fun c _ _ _ => by rw [e.heap], e.os, e.tape, e.output, fun _ _ _ _ h _ => ⟨h, by rw [e.heap]⟩⟩, fun _ _ h => h, fun _ _ h => .inl h, fun _ _ => rfl⟩⟩
  obtain ⟨a, b, cs, d, f⟩ := h.lc t c ht
  exact ⟨e.heap ▸ a, b, cs, d, f.heap (by rw [e.heap])⟩

/-! ### A block is turned -/
theorem MR.updG {g : GM} {l : LM} {ls : LS} {H : Hp} {w : World} (h : MR P T g l ls H w) {b : Nat} {i : Img} {o o' : AObj} (hb : g b = some i) (ho : H.get b = some o) (hro : isRo o = false) {ob : Obj} {w' : World} (hu : Upd w i.blk ob w')
    (hr : ObjR P T g i o' ob) : MR P T g l ls (H.put b (some o')) w' ∧ Stp P T g l ls H w g l ls (H.put b (some o')) w' := by
  have hlive : Live g H i.blk := ⟨b, i, o, hb, ho, rfl⟩
  have hL : ∀ c, Live g (H.put b (some o')) c → Live g H c := by
    rintro c ⟨b', i', o'', hb', ho', rfl⟩
    by_cases e : b = b'
    · subst e; exact ⟨b, i', o, hb', ho, rfl⟩
    · exact ⟨b', i', o'', hb', by rwa [Hp.get_put_ne H e] at ho', rfl⟩
  have gr : GR P T g (H.put b (some o')) w' := by
    refine ⟨fun b' i' e => by rw [Hp.next_put]; exact h.gr.dom b' i' e, fun b' i' e => by rw [hu.size]; exact h.gr.lt b' i' e, fun b' i' o'' e eo => ?_, fun b₁ b₂ i₁ i₂ o₁ o₂ e₁ e₂ p₁ p₂ q => ?_⟩
    · by_cases e' : b = b'
      · subst e'
        rw [Hp.get_put_same ho] at eo
        cases eo
        rw [hb] at e
        cases e
        exact ⟨ob, hu.at_, hr⟩
      · rw [Hp.get_put_ne H e'] at eo
        obtain ⟨x, hx, hy⟩ := h.gr.obj b' i' o'' e eo
        refine ⟨x, ?_, hy⟩
        rw [hu.ne _ (fun q => e' (h.gr.inj b b' i i' o o'' hb e ho eo q.symm))]
        exact hx
    · obtain ⟨_, _, x₁, _, y₁, _⟩ : Live g H i₁.blk := hL _ ⟨b₁, i₁, o₁, e₁, p₁, rfl⟩
      have f : ∀ b' i' o'', g b' = some i' → (H.put b (some o')).get b' = some o'' → ∃ z, H.get b' = some z := by
        intro b' i' o'' _ eo
        by_cases e' : b = b'
        · subst e'; exact ⟨o, ho⟩
        · rw [Hp.get_put_ne H e'] at eo; exact ⟨_, eo⟩
      obtain ⟨z₁, f₁⟩ := f b₁ i₁ o₁ e₁ p₁
      obtain ⟨z₂, f₂⟩ := f b₂ i₂ o₂ e₂ p₂
      exact h.gr.inj b₁ b₂ i₁ i₂ z₁ z₂ e₁ e₂ f₁ f₂ q
  refine ⟨⟨gr, fun t c ht => ?_, h.li⟩, ⟨⟨g.le_refl, gr, by rw [hu.size]; exact Nat.le_refl _, fun _ _ h => .inl h, fun b' _ hg => ?_, fun b' _ hd => ?_, by rw [Hp.next_put]; exact Nat.le_refl _, fun c _ hl _ => hu.ne c (fun e => hl (e ▸ hlive)), hu.os, hu.tape, hu.output, fun b' i' o'' e eo er => by
      have hne : b ≠ b' := fun q => by subst q; rw [ho] at eo; cases eo; rw [hro] at er; cases er
      exact ⟨by rw [Hp.get_put_ne H hne]; exact eo, hu.ne _ (fun q => hne (h.gr.inj b b' i i' o o'' hb e ho eo q.symm))⟩⟩,
    fun _ _ h => h, fun _ _ h => .inl h, fun _ _ => rfl⟩⟩
  · obtain ⟨p, q, cs, r, s⟩ := h.lc t c ht
    exact ⟨by rw [hu.size]; exact p, fun e => q (hL c e), cs, r, s.heap (hu.ne c (fun e => q (e ▸ hlive)))⟩
  · exact Hp.get_put_ne H (fun e => by rw [e, hg] at hb; cases hb) _
  · rw [Hp.get_put_ne H (fun e => by rw [← e, ho] at hd; cases hd)]; exact hd

/-- A block dies. -/
theorem MR.die {g : GM} {l : LM} {ls : LS} {H : Hp} {w : World} (h : MR P T g l ls H w) {b : Nat} {i : Img} {o : AObj} (hb : g b = some i) (ho : H.get b = some o) (hro : isRo o = false) :
    MR P T g l ls (H.put b none) w ∧ Stp P T g l ls H w g l ls (H.put b none) w := by
  have hG : ∀ b' o', (H.put b none).get b' = some o' → b ≠ b' ∧ H.get b' = some o' := by
    intro b' o' e
    by_cases e' : b = b'
    · subst e'; rw [Hp.get_put_same ho] at e; cases e
    · exact ⟨e', by rwa [Hp.get_put_ne H e'] at e⟩
  have hL : ∀ c, Live g (H.put b none) c → Live g H c := by
    rintro c ⟨b', i', o'', hb', ho', rfl⟩
    exact ⟨b', i', o'', hb', (hG _ _ ho').2, rfl⟩
  have gr : GR P T g (H.put b none) w :=
    ⟨fun b' i' e => by rw [Hp.next_put]; exact h.gr.dom b' i' e, h.gr.lt, fun b' i' o'' e eo => h.gr.obj b' i' o'' e (hG _ _ eo).2, fun b₁ b₂ i₁ i₂ o₁ o₂ e₁ e₂ p₁ p₂ q => h.gr.inj b₁ b₂ i₁ i₂ o₁ o₂ e₁ e₂ (hG _ _ p₁).2 (hG _ _ p₂).2 q⟩
  refine ⟨⟨gr, fun t c ht => ?_, h.li⟩, ⟨⟨g.le_refl, gr, Nat.le_refl _, fun _ _ h => .inl h, fun b' _ hg => ?_, fun b' _ hd => ?_, by rw [Hp.next_put]; exact Nat.le_refl _, fun _ _ _ _ => rfl, rfl, rfl, rfl, fun b' i' o'' e eo er => by
      have hne : b ≠ b' := fun q => by subst q; rw [ho] at eo; cases eo; rw [hro] at er; cases er
      exact ⟨by rw [Hp.get_put_ne H hne]; exact eo, rfl⟩⟩, fun _ _ h => h, fun _ _ h => .inl h, fun _ _ => rfl⟩⟩
  · obtain ⟨p, q, r⟩ := h.lc t c ht
    exact ⟨p, fun e => q (hL c e), r⟩
  · exact Hp.get_put_ne H (fun e => by rw [e, hg] at hb; cases hb) _
  · rw [Hp.get_put_ne H (fun e => by rw [← e, ho] at hd; cases hd)]; exact hd

/-- A block of the frame's own is turned. -/
theorem MR.updL {g : GM} {l : LM} {ls : LS} {H : Hp} {w : World} (h : MR P T g l ls H w) {t : Tmp} {c : Nat} {cs cs' : List Value} (ht : l t = some c) (hls : ls.get t = some (some cs)) {ob : Obj} {w' : World} (hu : Upd w c ob w')
    (hr : LocC g w' c cs') : MR P T g l (ls.set t (some cs')) H w' ∧ Stp P T g l ls H w g l (ls.set t (some cs')) H w' := by
  obtain ⟨hlt, hnl, _⟩ := h.lc t c ht
  have gr : GR P T g H w' := by
    refine ⟨h.gr.dom, fun b i e => by rw [hu.size]; exact h.gr.lt b i e, fun b i o e eo => ?_, h.gr.inj⟩
    obtain ⟨x, hx, hy⟩ := h.gr.obj b i o e eo
    exact ⟨x, by rw [hu.ne _ (fun q => hnl ⟨b, i, o, e, eo, q⟩)]; exact hx, hy⟩
  refine ⟨⟨gr, fun t' c' ht' => ?_, h.li⟩, ⟨⟨g.le_refl, gr, by rw [hu.size]; exact Nat.le_refl _, fun _ _ h => .inl h, fun _ _ _ => rfl, fun _ _ hd => hd, Nat.le_refl _, fun c' _ _ ho => hu.ne c' (fun e => ho ⟨t, e ▸ ht⟩), hu.os, hu.tape, hu.output, fun b i o e eo _ => ⟨eo, hu.ne _ (fun q => hnl ⟨b, i, o, e, eo, q⟩)⟩⟩, fun _ _ h => h, fun _ _ h => .inl h, fun t' e => ?_⟩⟩
  · obtain ⟨p, q, cs₀, r, s⟩ := h.lc t' c' ht'
    by_cases e : t = t'
    · subst e
      rw [ht] at ht'
      cases ht'
      exact ⟨by rw [hu.size]; exact p, q, cs', by rw [TT.get_set_same, hls]; rfl, hr⟩
    · refine ⟨by rw [hu.size]; exact p, q, cs₀, by rw [TT.get_set_ne _ _ _ _ e]; exact r, s.heap (hu.ne c' (fun e' => e (h.li t t' c ht (e' ▸ ht'))))⟩
  · exact TT.get_set_ne _ _ _ _ (fun e' => by rw [e', e] at ht; cases ht)

/-! ### A block that is known from now on -/
def GM.bind (g : GM) (b : Nat) (i : Img) : GM := fun x => if x = b then some i else g x
theorem GM.bind_same (g : GM) (b : Nat) (i : Img) : g.bind b i b = some i := by simp [GM.bind]
theorem GM.bind_ne (g : GM) {b x : Nat} (h : x ≠ b) (i : Img) : g.bind b i x = g x := by simp [GM.bind, h]
theorem GM.le_bind {g : GM} {b : Nat} (h : g b = none) (i : Img) : g.le (g.bind b i) := fun x j e => by
  rw [GM.bind_ne g (fun q => by rw [q, h] at e; cases e)]; exact e

/-- A block that has come into the world, or one that nobody knows, is known from now on. -/
theorem MR.bindG {g : GM} {l : LM} {ls : LS} {H : Hp} {w : World} (h : MR P T g l ls H w) {b : Nat} (hg : g b = none) (hb : b < H.next) {i : Img} {w' : World} (hsz : w.heap.size ≤ w'.heap.size) (hlt : i.blk < w'.heap.size)
    (hnl : ¬ Live g H i.blk) (hloc : ∀ t, l t ≠ some i.blk) (hne : ∀ k, k < w.heap.size → k ≠ i.blk → w'.heap[k]? = w.heap[k]?)
    (hob : ∀ o, H.get b = some o → ∃ o', w'.heap[i.blk]? = some o' ∧ ObjR P T (g.bind b i) i o o') : MR P T (g.bind b i) l ls H w' := by
  have hle := GM.le_bind hg i
  have hL : ∀ c, Live (g.bind b i) H c → Live g H c ∨ c = i.blk := by
    rintro c ⟨b', i', o, e, eo, rfl⟩
    by_cases q : b' = b
    · subst q; rw [GM.bind_same] at e; cases e; exact .inr rfl
    · rw [GM.bind_ne g q] at e; exact .inl ⟨b', i', o, e, eo, rfl⟩
  refine ⟨⟨fun b' i' e => ?_, fun b' i' e => ?_, fun b' i' o e eo => ?_, fun b₁ b₂ i₁ i₂ o₁ o₂ e₁ e₂ p₁ p₂ q => ?_⟩, fun t c ht => ?_, h.li⟩
  · by_cases q : b' = b
    · exact q ▸ hb
    · rw [GM.bind_ne g q] at e; exact h.gr.dom b' i' e
  · by_cases q : b' = b
    · subst q; rw [GM.bind_same] at e; cases e; exact hlt
    · rw [GM.bind_ne g q] at e; exact Nat.lt_of_lt_of_le (h.gr.lt b' i' e) hsz
  · by_cases q : b' = b
    · subst q; rw [GM.bind_same] at e; cases e; exact hob o eo
    · rw [GM.bind_ne g q] at e
      obtain ⟨x, hx, hy⟩ := h.gr.obj b' i' o e eo
      exact ⟨x, by rw [hne _ (h.gr.lt b' i' e) (fun z => hnl ⟨b', i', o, e, eo, z⟩)]; exact hx, hy.mono hle⟩
  · by_cases q₁ : b₁ = b
    · subst q₁
      by_cases q₂ : b₂ = b₁
      · exact q₂.symm
      · rw [GM.bind_same] at e₁; cases e₁
        rw [GM.bind_ne g q₂] at e₂
        exact absurd ⟨b₂, i₂, o₂, e₂, p₂, q.symm⟩ hnl
    · rw [GM.bind_ne g q₁] at e₁
      by_cases q₂ : b₂ = b
      · subst q₂
        rw [GM.bind_same] at e₂; cases e₂
        exact absurd ⟨b₁, i₁, o₁, e₁, p₁, q⟩ hnl
      · rw [GM.bind_ne g q₂] at e₂
        exact h.gr.inj b₁ b₂ i₁ i₂ o₁ o₂ e₁ e₂ p₁ p₂ q
  · obtain ⟨p, q, cs, r, s⟩ := h.lc t c ht
    refine ⟨Nat.lt_of_lt_of_le p hsz, fun e => ?_, cs, r, (s.heap (hne c p (fun e => hloc t (e ▸ ht)))).mono hle⟩
    rcases hL c e with e | e
    · exact q e
    · exact hloc t (e ▸ ht)

/-- The evaluator's blocks grow: nobody knows the new one. -/
theorem MR.grow {g : GM} {l : LM} {ls : LS} {H : Hp} {w : World} (h : MR P T g l ls H w) {H' : Hp} (hn : H'.next = H.next + 1) (hg : ∀ b, b < H.next → H'.get b = H.get b) :
    MR P T g l ls H' w ∧ Stp P T g l ls H w g l ls H' w ∧ g H.next = none := by
  have hdn : g H.next = none := by
    cases e : g H.next with
    | none => rfl
    | some i => have := h.gr.dom _ _ e; omega
  have hG : ∀ b i, g b = some i → H'.get b = H.get b := fun b i e => hg b (h.gr.dom b i e)
  have hL : ∀ c, Live g H' c → Live g H c := by
    rintro c ⟨b, i, o, e, eo, rfl⟩
    exact ⟨b, i, o, e, by rwa [hG b i e] at eo, rfl⟩
  have gr : GR P T g H' w :=
    ⟨fun b i e => by have := h.gr.dom b i e; omega, h.gr.lt, fun b i o e eo => h.gr.obj b i o e (by rwa [hG b i e] at eo),
      fun b₁ b₂ i₁ i₂ o₁ o₂ e₁ e₂ p₁ p₂ q => h.gr.inj b₁ b₂ i₁ i₂ o₁ o₂ e₁ e₂ (by rwa [hG _ _ e₁] at p₁) (by rwa [hG _ _ e₂] at p₂) q⟩
  refine ⟨⟨gr, fun t c ht => ?_, h.li⟩, ⟨⟨g.le_refl, gr, Nat.le_refl _, fun _ _ h => .inl h, fun b hb _ => hg b hb, fun b hb hd => (hg b hb).trans hd, by omega, fun _ _ _ _ => rfl, rfl, rfl, rfl, fun b i o e eo _ => ⟨(hG b i e).trans eo, rfl⟩⟩, fun _ _ h => h, fun _ _ h => .inl h, fun _ _ => rfl⟩, hdn⟩
  obtain ⟨p, q, r⟩ := h.lc t c ht
  exact ⟨p, fun e => q (hL c e), r⟩

/-- A world with one block more. -/
structure New (w : World) (o : Obj) (w' : World) : Prop where
  heap : w'.heap = w.heap.push o
  os : w'.os = w.os
  tape : w'.tape = w.tape
  output : w'.output = w.output
theorem New.push (w : World) (o : Obj) : New w o { w with heap := w.heap.push o } := ⟨rfl, rfl, rfl, rfl⟩
theorem New.size {w : World} {o : Obj} {w' : World} (h : New w o w') : w'.heap.size = w.heap.size + 1 := by rw [h.heap]; simp
theorem New.at_ {w : World} {o : Obj} {w' : World} (h : New w o w') : w'.heap[w.heap.size]? = some o := by rw [h.heap]; simp
theorem New.old {w : World} {o : Obj} {w' : World} (h : New w o w') {k : Nat} (hk : k < w.heap.size) : w'.heap[k]? = w.heap[k]? := by
  rw [h.heap, Array.getElem?_push, if_neg (by omega)]

/-- A block that the evaluator has already, and that the world makes now. -/
theorem MR.bindNew {g : GM} {l : LM} {ls : LS} {H : Hp} {w : World} (h : MR P T g l ls H w) {b : Nat} (hg : g b = none) (hb : b < H.next) {o : AObj} (ho : H.get b = some o) {ob : Obj} {w' : World} (hw : New w ob w') {csz : Nat}
    (hr : ObjR P T g ⟨w.heap.size, 0, csz⟩ o ob) :
    MR P T (g.bind b ⟨w.heap.size, 0, csz⟩) l ls H w' := by
  refine h.bindG hg hb (by rw [hw.size]; omega) (by rw [hw.size]; exact Nat.lt_succ_self _) ?_ (fun t e => ?_) (fun k hk _ => hw.old hk) (fun o' e => ?_)
  · rintro ⟨b', i', o', e, eo, q⟩
    have := h.gr.lt b' i' e
    simp only at q
    omega
  · have := (h.lc t _ e).1
    simp at this
  · rw [ho] at e; cases e
    exact ⟨ob, hw.at_, hr.mono (GM.le_bind hg _)⟩

theorem MR.stpNew {g : GM} {l : LM} {ls : LS} {H : Hp} {w : World} (h0 : MR P T g l ls H w) {i : Img} {H' : Hp} {ob : Obj} {w' : World} (hw : New w ob w') (hn : H'.next = H.next + 1) (hg : ∀ b, b < H.next → H'.get b = H.get b)
    (hdn : g H.next = none) (hi : w.heap.size ≤ i.blk) (hm : MR P T (g.bind H.next i) l ls H' w') : Stp P T g l ls H w (g.bind H.next i) l ls H' w' :=
  ⟨⟨GM.le_bind hdn i, hm.gr, by rw [hw.size]; omega, fun b j e => by
      by_cases q : b = H.next
      · subst q; rw [GM.bind_same] at e; cases e; exact .inr ⟨Nat.le_refl _, .inl hi⟩
      · rw [GM.bind_ne g q] at e; exact .inl e,
    fun b hb _ => hg b hb, fun b hb hd => (hg b hb).trans hd, by omega, fun c hc _ _ => hw.old hc, hw.os, hw.tape, hw.output, fun b j o e eo _ => ⟨(hg b (h0.gr.dom b j e)).trans eo, hw.old (h0.gr.lt b j e)⟩⟩, fun _ _ h => h, fun _ _ h => .inl h, fun _ _ => rfl⟩

/-- A new block, in the evaluator and in the world. -/
theorem MR.allocG {g : GM} {l : LM} {ls : LS} {H : Hp} {w : World} (h : MR P T g l ls H w) {o : AObj} {ob : Obj} {w' : World} (hw : New w ob w') {csz : Nat} (hr : ObjR P T g ⟨w.heap.size, 0, csz⟩ o ob) :
    MR P T (g.bind H.next ⟨w.heap.size, 0, csz⟩) l ls (H.alloc o) w' ∧ Stp P T g l ls H w (g.bind H.next ⟨w.heap.size, 0, csz⟩) l ls (H.alloc o) w' := by
  obtain ⟨h1, _, hdn⟩ := h.grow (H' := H.alloc o) (by simp) (fun b hb => Hp.get_alloc_old H o hb)
  have hm := h1.bindNew hdn (by simp) (Hp.get_alloc_new H o) hw hr
  exact ⟨hm, h.stpNew hw (by simp) (fun b hb => Hp.get_alloc_old H o hb) hdn (Nat.le_refl _) hm⟩

/-! ### The frame's own blocks -/
def LM.bind (l : LM) (t : Tmp) (c : Nat) : LM := fun x => if x = t then some c else l x
theorem LM.bind_same (l : LM) (t : Tmp) (c : Nat) : LM.bind l t c t = some c := by simp [LM.bind]
theorem LM.bind_ne (l : LM) {t x : Tmp} (h : x ≠ t) (c : Nat) : LM.bind l t c x = l x := by simp [LM.bind, h]

theorem MR.growL {g : GM} {l : LM} {ls : LS} {H : Hp} {w : World} (h : MR P T g l ls H w) {t : Tmp} (ht : l t = none) (x : Option (List Value)) : MR P T g l (ls.set t x) H w :=
  ⟨h.gr, fun t' c ht' => by
    obtain ⟨p, q, cs, r, s⟩ := h.lc t' c ht'
    exact ⟨p, q, cs, by rw [TT.get_set_ne _ _ _ _ (fun e => by rw [e, ht'] at ht; cases ht)]; exact r, s⟩, h.li⟩

theorem MR.bindL {g : GM} {l : LM} {ls : LS} {H : Hp} {w : World} (h : MR P T g l ls H w) {t : Tmp} (_ht : l t = none) {cs : List Value} (hls : ls.get t = some (some cs)) {ob : Obj} {w' : World} (hw : New w ob w') (hr : LocC g w' w.heap.size cs) :
    MR P T g (LM.bind l t w.heap.size) ls H w' := by
  have gr : GR P T g H w' := by
    refine ⟨h.gr.dom, fun b i e => by rw [hw.size]; have := h.gr.lt b i e; omega, fun b i o e eo => ?_, h.gr.inj⟩
    obtain ⟨x, hx, hy⟩ := h.gr.obj b i o e eo
    exact ⟨x, by rw [hw.old (h.gr.lt b i e)]; exact hx, hy⟩
  refine ⟨gr, fun t' c ht' => ?_, fun t₁ t₂ c e₁ e₂ => ?_⟩
  · by_cases e : t' = t
    · subst e
      rw [LM.bind_same] at ht'; cases ht'
      refine ⟨by rw [hw.size]; omega, ?_, cs, hls, hr⟩
      rintro ⟨b, i, o, e, _, q⟩
      have := h.gr.lt b i e
      omega
    · rw [LM.bind_ne l e] at ht'
      obtain ⟨p, q, cs₀, r, s⟩ := h.lc t' c ht'
      exact ⟨by rw [hw.size]; omega, q, cs₀, r, s.heap (hw.old p)⟩
  · by_cases q₁ : t₁ = t
    · by_cases q₂ : t₂ = t
      · rw [q₁, q₂]
      · subst q₁
        rw [LM.bind_same] at e₁; cases e₁
        rw [LM.bind_ne l q₂] at e₂
        have := (h.lc t₂ _ e₂).1
        simp at this
    · rw [LM.bind_ne l q₁] at e₁
      by_cases q₂ : t₂ = t
      · subst q₂
        rw [LM.bind_same] at e₂; cases e₂
        have := (h.lc t₁ _ e₁).1
        simp at this
      · rw [LM.bind_ne l q₂] at e₂
        exact h.li t₁ t₂ c e₁ e₂

theorem MR.stpL {g : GM} {l : LM} {ls ls' : LS} {H : Hp} {w : World} (h0 : MR P T g l ls H w) {t : Tmp} (ht : l t = none) {ob : Obj} {w' : World} (hw : New w ob w') (hls : ∀ x, x ≠ t → ls'.get x = ls.get x)
    (hm : MR P T g (LM.bind l t w.heap.size) ls' H w') : Stp P T g l ls H w g (LM.bind l t w.heap.size) ls' H w' :=
  ⟨⟨g.le_refl, hm.gr, by rw [hw.size]; omega, fun _ _ h => .inl h, fun _ _ _ => rfl, fun _ _ h => h, Nat.le_refl _, fun c hc _ _ => hw.old hc, hw.os, hw.tape, hw.output, fun b j o e eo _ => ⟨eo, hw.old (h0.gr.lt b j e)⟩⟩,
    fun x c e => by rw [LM.bind_ne l (fun q => by rw [q, ht] at e; cases e)]; exact e,
    fun x c e => by
      by_cases q : x = t
      · subst q; rw [LM.bind_same] at e; cases e; exact .inr (Nat.le_refl _)
      · rw [LM.bind_ne l q] at e; exact .inl e,
    fun x e => hls x (fun q => by rw [q, LM.bind_same] at e; cases e)⟩

theorem MR.allocL {g : GM} {l : LM} {ls : LS} {H : Hp} {w : World} (h : MR P T g l ls H w) {t : Tmp} (hls : ls.get t = some none) {cs : List Value} {ob : Obj} {w' : World} (hw : New w ob w') (hr : LocC g w' w.heap.size cs) :
    MR P T g (LM.bind l t w.heap.size) (ls.set t (some cs)) H w' ∧ Stp P T g l ls H w g (LM.bind l t w.heap.size) (ls.set t (some cs)) H w' := by
  have ht : l t = none := by
    cases e : l t with
    | none => rfl
    | some c => obtain ⟨_, _, cs', r, _⟩ := h.lc t c e; rw [hls] at r; cases r
  have hm := (h.growL ht (some cs)).bindL ht (by rw [TT.get_set_same, hls]; rfl) hw hr
  exact ⟨hm, h.stpL ht hw (fun x hx => TT.get_set_ne _ _ _ _ (Ne.symm hx)) hm⟩

end Go.Ev
end
