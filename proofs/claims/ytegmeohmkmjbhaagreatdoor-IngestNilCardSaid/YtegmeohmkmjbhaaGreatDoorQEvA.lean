/- The evaluator of the model's code over an abstract heap, and that it tells right: part 1 of 3.
   Conditions: none. -/
import GoSem.Dispatch
import GoSem.Core.Region
import GoSem.Machine.Frame
import Derived.RangeFuncLeaves
import Derived.OrdersIn
import Derived.LoopNIn
import Derived.Laws.Cells
import Derived.Laws.Strings
import Derived.Laws.Slices
import Derived.Laws.Build
import Derived.WideLaws
/- The evaluator of the model's code over an abstract heap: its definitions (no theorem is stated here). Conditions: none. Style: small functions, the thing that is taken apart first, so that the kernel copies little. -/
set_option linter.unusedVariables false
set_option linter.unusedSimpArgs false
set_option linter.unnecessarySimpa false
namespace Go.Ev

/-! ### Finite maps over numbers -/
inductive T (α : Type) where
  | e
  | n (l : T α) (v : Option α) (r : T α)

def T.get {α : Type} : T α → Nat → Option α
  | .e => fun _ => none
  | .n l v r => fun k => match k with
    | 0 => v
    | k + 1 => match k % 2 with
      | 0 => l.get (k / 2)
      | _ + 1 => r.get (k / 2)

def T.single {α : Type} : Nat → Nat → α → T α
  | 0 => fun _ v => .n .e (some v) .e
  | f + 1 => fun k v => match k with
    | 0 => .n .e (some v) .e
    | k + 1 => match k % 2 with
      | 0 => .n (T.single f (k / 2) v) none .e
      | _ + 1 => .n .e none (T.single f (k / 2) v)

def T.put {α : Type} : T α → Nat → α → T α
  | .e => fun k v => T.single (k + 1) k v
  | .n l w r => fun k v => match k with
    | 0 => .n l (some v) r
    | k + 1 => match k % 2 with
      | 0 => .n (l.put (k / 2) v) w r
      | _ + 1 => .n l w (r.put (k / 2) v)

/-! ### The abstract heap -/
inductive AObj where
  | cells (vs : List Value) (elem : TypeId)
  | map (es : List MapEntry) (clock : Nat)
  | siter (s : ByteArray) (pos : Nat)
  | miter (m : Option Nat) (since : Nat) (seen : List Nat) (stepped : Nat)
  | loop (state : LoopState) (pending : Option Code) (tm : T Value) (nt : Nat) (params : List Tmp) (assign body : Code) (defers : Nat)
  | defs
  | dead
  | ro (f : Nat → Option Value)

structure AHeap where
  t : T AObj
  next : Nat
  low : Nat

def cap40 : Nat := 1099511627776

def AHeap.obj (K : AHeap) (n : Nat) : Option AObj := K.t.get n

/-- The answer of whatever makes memory. -/
@[irreducible] def AHeap.mk? (K : AHeap) (o : AObj) : Option (Nat × AHeap) :=
  some (K.next, { t := K.t.put K.next o, next := K.next + 1, low := K.low })

def AHeap.set (K : AHeap) (n : Nat) (o : AObj) : AHeap :=
  { t := K.t.put n o, next := K.next, low := min K.low n }

/-- A block is written. -/
@[irreducible] def AHeap.set? (K : AHeap) (n : Nat) (o : AObj) : Option AHeap := some (K.set n o)

/-- The cells of a live block. -/
def AObj.cs (o : AObj) : Option (List Value) := match o with
  | .cells vs _ => some vs
  | _ => none

def AHeap.cells (K : AHeap) (b : Nat) : Option (List Value) := (K.obj b).bind AObj.cs

def takeN : Nat → List Value → Option (List Value)
  | 0 => fun _ => some []
  | n + 1 => fun l => match l with
    | [] => none
    | v :: l => (takeN n l).map (v :: ·)

def readF (f : Nat → Option Value) : Nat → Nat → Option (List Value)
  | 0 => fun _ => some []
  | n + 1 => fun off => (f off).bind fun v => (readF f n (off + 1)).map (v :: ·)

def AObj.readAt (o : AObj) : Nat → Nat → Option (List Value) := match o with
  | .cells vs _ => fun off n => takeN n (vs.drop off)
  | .ro f => fun off n => readF f n off
  | _ => fun _ _ => none

def AHeap.read (K : AHeap) (b off n : Nat) : Option (List Value) := (K.obj b).bind fun o => o.readAt off n

def nth : List Value → Nat → Option Value
  | [] => fun _ => none
  | v :: l => fun k => match k with
    | 0 => some v
    | k + 1 => nth l k

def AObj.cellAt (o : AObj) : Nat → Option Value := match o with
  | .cells vs _ => fun off => nth vs off
  | .ro f => fun off => f off
  | _ => fun _ => none

def AHeap.cell (K : AHeap) (b off : Nat) : Option Value := (K.obj b).bind fun o => o.cellAt off

def oneCell (v : Value) : Bool := match v with
  | .agg _ => false
  | .tuple _ => false
  | _ => true

/-- 'xs' laid over the front of 'vs' (inside it; each one cell). -/
def overFront : List Value → List Value → Option (List Value)
  | [] => fun vs => some vs
  | x :: xs => fun vs => match vs with
    | [] => none
    | _ :: vs => match oneCell x with
      | true => (overFront xs vs).map (x :: ·)
      | false => none

/-- 'xs' laid over 'vs' from a place on. -/
def over : Nat → List Value → List Value → Option (List Value)
  | 0 => fun xs vs => overFront xs vs
  | n + 1 => fun xs vs => match vs with
    | [] => none
    | v :: vs => (over n xs vs).map (v :: ·)

def AHeap.writeTo (o : AObj) : AHeap → Nat → Nat → List Value → Option AHeap := match o with
  | .cells vs e => fun K b off xs => (over off xs vs).bind fun vs' => K.set? b (.cells vs' e)
  | _ => fun _ _ _ _ => none

def AHeap.write (K : AHeap) (b off : Nat) (xs : List Value) : Option AHeap := (K.obj b).bind fun o => AHeap.writeTo o K b off xs

/-! ### Values without names -/
mutual
def ground : Value → Bool
  | .bool _ | .int _ _ | .float _ _ | .complex _ _ _ | .string _ | .nilFunc | .nilIface => true
  | .pointer none | .slice none _ _ | .map none | .chan none => true
  | .agg ⟨l⟩ | .tuple ⟨l⟩ => grounds l
  | .iface _ v => ground v
  | .func (.func _) ⟨a⟩ ⟨b⟩ => grounds a && grounds b
  | _ => false
def grounds : List Value → Bool
  | [] => true
  | v :: l => ground v && grounds l
end

/-- 'ground', the commonest first. -/
def grnd (v : Value) : Bool := match v with
  | .int _ _ => true
  | .bool _ => true
  | .string _ => true
  | v => ground v

/-- A run that asks nothing of the world. -/
def pureRun {α : Type} (P : Program) : Sem α → Option α
  | .pure a => some a
  | .program k => pureRun P (k P)
  | .mark _ k => pureRun P k
  | _ => none

def guardO {β : Type} (b : Bool) (k : Option β) : Option β := match b with
  | true => k
  | false => none

/-! ### Operations -/
inductive ARes where
  | val (v : Value)
  | enter (f : FuncId) (args : List Value)
  | round (l : Nat) (args : List Value)

section
variable (P : Program)

def opv (x : Operand) : T Value → Option Value := match x with
  | .tmp t => fun tm => tm.get t
  | .const v => fun _ => guardO (grnd v) (some v)
  | .global g => fun _ => guardO (Nat.blt g P.globals.size) (some (.pointer (some ⟨g, 0, none⟩)))
  | .func f => fun _ => some (.func (.func f) #[] #[])

def opvs : List Operand → T Value → Option (List Value)
  | [] => fun _ => some []
  | x :: l => fun tm => (opv P x tm).bind fun v => (opvs l tm).map (v :: ·)

def opps : List (Nat × Operand) → T Value → Option (List (Nat × Value))
  | [] => fun _ => some []
  | p :: l => fun tm => (opv P p.2 tm).bind fun v => (opps l tm).map ((p.1, v) :: ·)

def opvo (x : Option Operand) : T Value → Option (Option Value) := match x with
  | none => fun _ => some none
  | some o => fun tm => (opv P o tm).map some

def isAggD (d : TypeDesc) : Bool := match d with
  | .struct _ => true
  | .array _ _ => true
  | _ => false

def isAggT (t : TypeId) : Option Bool := (P.underlying t).map isAggD
def sizeT (t : TypeId) : Option Nat := (P.info? t).map TypeInfo.size
def bytesT (t : TypeId) : Option Nat := (P.info? t).map TypeInfo.bytes
/-- A type's zero value (it has no names). -/
def zeroT (t : TypeId) : Option Value := ((P.info? t).bind TypeInfo.zero).bind fun z => guardO (ground z) (some z)
/-- A struct that begins with a pointer to its own kind: no rows of such are made. -/
def noTake (t : TypeId) : Bool := match P.underlying t with
  | some (.struct fs) => match fs.toList.head? with
    | some f => match P.underlying f.type with
      | some (.pointer u) => Nat.beq u t
      | _ => false
    | none => false
  | _ => false

/-- The zero cells of an element (as many as its size tells). -/
def zerosT (t : TypeId) : Option (List Value) := (zeroT P t).bind fun z => guardO (decide (sizeT P t = some z.cells.size ∧ z.cells.size ≠ 0 ∧ noTake P t = false)) (some z.cells.toList)

def elemD (d : TypeDesc) : Option TypeId := match d with
  | .slice e => some e
  | _ => none
def elemT (t : TypeId) : Option TypeId := (P.underlying t).bind elemD

def isU8D (d : TypeDesc) : Bool := match d with
  | .int .u8 => true
  | _ => false
/-- Is it a type of bytes? -/
def isU8 (t : TypeId) : Bool := match P.underlying t with
  | some d => isU8D d
  | none => false

def loadAgg (K : AHeap) (b off : Nat) (n : Option Nat) : Option Value := n.bind fun n => (K.read b off n).map fun l => .agg l.toArray
def aLoadVar (K : AHeap) (t : TypeId) (b off : Nat) : Option Value :=
  match isAggT P t with
  | none => none
  | some true => loadAgg K b off (sizeT P t)
  | some false => K.cell b off

def ptrTo (p : Nat × AHeap) : Value × AHeap := (.pointer (some ⟨p.1, 0, none⟩), p.2)
def aNewVar (K : AHeap) (t : TypeId) (v : Value) : Option (Value × AHeap) := (K.mk? (.cells v.cells.toList t)).map ptrTo

/-- The integer of a value. -/
def intV (v : Value) : Option Int := match v with
  | .int _ n => some n
  | _ => none

def strV (v : Value) : Option ByteArray := match v with
  | .string s => some s
  | _ => none

def boolV (v : Value) : Option Bool := match v with
  | .bool b => some b
  | _ => none

/-- The address of a pointer that is not nil. -/
def addrP (a : Option Addr) : Option (Nat × Nat) := match a with
  | some ⟨b, o, none⟩ => some (b, o)
  | _ => none
def addrV (v : Value) : Option (Nat × Nat) := match v with
  | .pointer a => addrP a
  | _ => none

/-- A bound between 0 and the most. -/
def bound1 (most : Nat) (i : Int) : Option Nat := match i with
  | .ofNat n => guardO (Nat.ble n most) (some n)
  | .negSucc _ => none

def aBound (x : Option Value) : Nat → Nat → Option Nat := match x with
  | none => fun dflt most => guardO (Nat.ble dflt most) (some dflt)
  | some v => fun _ most => (intV v).bind (bound1 most)

/-- s[l:h] with the capacity m, at an address. An address's third place, in a slice: none: the capacity is just what is told · 2q: it is at least that, its elements have q cells · 2q + 1: no elements, a capacity of which nothing is known, somewhere in the block. -/
def someSlice (b o q : Nat) : Value := .slice (some ⟨b, o, some (2 * q + 1)⟩) 0 0
def lowSlice (b o q n c : Nat) : Value := .slice (some ⟨b, o, some (2 * q)⟩) n c
def sliceLow0 (q b o l h m : Nat) : Option Value := match Nat.beq m l with
  | true => match Nat.beq l 0 with
    | true => some (lowSlice b o q 0 0)
    | false => some (someSlice b o q)
  | false => some (lowSlice b (o + l * q) q (h - l) (m - l))
def sliceLow (odd : Nat) : Nat → Nat → Nat → Nat → Nat → Nat → Option Value := match odd with
  | 0 => sliceLow0
  | _ + 1 => fun q b o _ _ m => guardO (Nat.beq m 0) (some (someSlice b o q))

def sliceExact (size b o l h m : Nat) : Option Value := some (.slice (some ⟨b, (match Nat.beq m l with | true => o | false => o + l * size), none⟩) (h - l) (m - l))

def sliceAt (s : Option Nat) : Nat → Nat → Nat → Nat → Nat → Nat → Option Value := match s with
  | none => sliceExact
  | some t => fun size b o l h m => guardO (Nat.beq (t / 2) size) (sliceLow (t % 2) size b o l h m)

def sliceFin (a : Option Addr) : Nat → Nat → Nat → Nat → Option Value := match a with
  | none => fun _ l h m => some (.slice none (h - l) (m - l))
  | some a => fun size l h m => sliceAt a.spot size a.block a.off l h m

/-- With a bound of the capacity: it is known then. -/
def sliceLow3 (odd : Nat) : Nat → Nat → Nat → Nat → Nat → Nat → Option Value := match odd with
  | 0 => sliceExact
  | _ + 1 => fun q b o _ _ m => guardO (Nat.beq m 0) (some (someSlice b o q))
def sliceAt3 (s : Option Nat) : Nat → Nat → Nat → Nat → Nat → Nat → Option Value := match s with
  | none => sliceExact
  | some t => fun size b o l h m => guardO (Nat.beq (t / 2) size) (sliceLow3 (t % 2) size b o l h m)
def sliceFin3 (a : Option Addr) : Nat → Nat → Nat → Nat → Option Value := match a with
  | none => fun _ l h m => some (.slice none (h - l) (m - l))
  | some a => fun size l h m => sliceAt3 a.spot size a.block a.off l h m

def aSlice (size : Nat) (a : Option Addr) (len cap : Nat) (lo hi mx : Option Value) : Option Value :=
  match mx with
  | none => (aBound hi len cap).bind fun h => (aBound lo 0 h).bind fun l => sliceFin a size l h cap
  | some _ => match hi with
    | none => none
    | some _ => (aBound mx 0 cap).bind fun m => (aBound hi 0 m).bind fun h => (aBound lo 0 h).bind fun l => sliceFin3 a size l h m

def byteVals : List UInt8 → List Value
  | [] => []
  | b :: l => .int .u8 b.toNat :: byteVals l

def readSome (K : AHeap) (a : Option Addr) (n : Nat) : Option (List Value) := a.bind fun a => K.read a.block a.off n
def readAt (K : AHeap) (a : Option Addr) (n : Nat) : Option (List Value) := match Nat.beq n 0 with
  | true => some []
  | false => readSome K a n

/-- The first n elements' cells of what is appended or copied. -/
def aSrc (x : Value) : AHeap → Nat → Nat → Option (List Value) := match x with
  | .slice a _ _ => fun K size n => readAt K a (n * size)
  | .string s => fun _ _ n => some (byteVals (s.data.toList.take n))
  | _ => fun _ _ _ => none

def lenV (v : Value) : Option Nat := match v with
  | .slice _ n _ => some n
  | .string s => some s.size
  | _ => none

def roomy (need bytes : Nat) : Bool := Nat.ble ((2 * need + 1000) * bytes) 70368744177664 && Nat.ble need 70368744177664

def slcOf (size need : Nat) (p : Nat × AHeap) : Value × AHeap := (lowSlice p.1 0 size need need, p.2)
def slcEx (len cap : Nat) (p : Nat × AHeap) : Value × AHeap := (.slice (some ⟨p.1, 0, none⟩) len cap, p.2)

def allOne : List Value → Bool
  | [] => true
  | v :: l => match oneCell v with
    | true => allOne l
    | false => false

/-- The type of a block's elements. -/
def AObj.elem (o : AObj) : Option TypeId := match o with
  | .cells _ e => some e
  | _ => none

/-- Past the room that is known: a new block if the capacity is known; else the old name dies. -/
def appendMore (s : Option Nat) : AHeap → Nat → TypeId → Nat → Nat → List Value → List Value → Option (Value × AHeap) := match s with
  | none => fun K _ elem size need old xs => (K.mk? (.cells (old ++ xs) elem)).map (slcOf size need)
  | some t => fun K b elem size need old xs => guardO (allOne xs && Nat.beq (t / 2) size) ((K.set? b .dead).bind fun K' => (K'.mk? (.cells (old ++ xs) elem)).map (slcOf size need))

def appendAt (K : AHeap) (elem : TypeId) (size len cap need : Nat) (xs : List Value) (a : Option Addr) : Option (Value × AHeap) := match a with
  | none => match Nat.ble need cap with
    | true => guardO (Nat.beq need 0) (some (.slice none need cap, K))
    | false => guardO (Nat.beq len 0) ((K.mk? (.cells xs elem)).map (slcOf size need))
  | some a => match Nat.ble need cap with
    | true => (K.write a.block (a.off + len * size) xs).map fun K' => (.slice (some a) need cap, K')
    | false => guardO (decide ((K.obj a.block).bind AObj.elem = some elem)) ((K.read a.block a.off (len * size)).bind fun old => appendMore a.spot K a.block elem size need old xs)

/-- append(s, xs...), the cells in hand. -/
def append2 (K : AHeap) (elem : TypeId) (size bytes n : Nat) (xs : List Value) (s : Value) : Option (Value × AHeap) := match s with
  | .slice a len cap => guardO (Nat.beq xs.length (n * size) && roomy (len + n) bytes) (appendAt K elem size len cap (len + n) xs a)
  | _ => none

def isIntD (d : TypeDesc) : Bool := match d with
  | .int _ => true
  | _ => false
/-- Is append's second operand a count of zero elements? -/
def zerosForm (ts : List TypeId) : Option Bool := match ts with
  | _ :: t :: _ => (P.underlying t).map isIntD
  | _ => some false

def natV (v : Value) : Option Nat := (intV v).bind (bound1 70368744177664)

def aAppend (K : AHeap) (ts : List TypeId) (args : List Value) : Option (Value × AHeap) := match args with
  | [s, x] => (ts.head?.bind (elemT P)).bind fun elem => (sizeT P elem).bind fun size => (bytesT P elem).bind fun bytes => (zerosT P elem).bind fun z => match zerosForm P ts with
    | some true => (natV x).bind fun n => append2 K elem size bytes n ((List.replicate n z).flatten) s
    | some false => (lenV x).bind fun n => (aSrc x K size n).bind fun xs => append2 K elem size bytes n xs s
    | none => none
  | _ => none

/-! #### == -/
def liveElem (K : AHeap) (b : Nat) : Option TypeId := (K.obj b).bind AObj.elem

def eqAddr (K : AHeap) (a b : Addr) : Option Bool :=
  (liveElem K a.block).bind fun e1 => (liveElem K b.block).bind fun e2 => match Nat.beq a.block b.block with
    | true => some (Nat.beq a.off b.off)
    | false => guardO (!(isU8 P e1) && !(isU8 P e2)) (some false)

def eqPtr (K : AHeap) (e : TypeId) (a b : Option Addr) : Option Bool := match a with
  | none => some b.isNone
  | some a => match b with
    | none => some false
    | some b => guardO (decide ((sizeT P e).getD 0 ≠ 0)) (eqAddr P K a b)

def ptrV (v : Value) : Option (Option Addr) := match v with
  | .pointer a => some a
  | _ => none

/-- 0: nil, 1: not nil. -/
def nilness (v : Value) : Option Bool := match v with
  | .nilIface => some true
  | .iface _ _ => some false
  | .nilFunc => some true
  | .func _ _ _ => some false
  | .slice a _ _ => some a.isNone
  | .map r => some r.isNone
  | _ => none

/-- One side must be nil. -/
def eqNil (x y : Value) : Option Bool := (nilness x).bind fun a => (nilness y).bind fun b => guardO (a || b) (some (a && b))

def isIfaceV (v : Value) : Bool := match v with
  | .nilIface => true
  | .iface _ _ => true
  | _ => false
def isFuncV (v : Value) : Bool := match v with
  | .nilFunc => true
  | .func _ _ _ => true
  | _ => false
def isSliceV (v : Value) : Bool := match v with
  | .slice _ _ _ => true
  | _ => false
def isMapV (v : Value) : Bool := match v with
  | .map _ => true
  | _ => false

def aEqD (d : TypeDesc) : AHeap → Value → Value → Bool → Option Bool := match d with
  | .pointer e => fun K x y _ => (ptrV x).bind fun a => (ptrV y).bind fun b => eqPtr P K e a b
  | .interface _ => fun _ x y lit => guardO (isIfaceV x && isIfaceV y && lit) (eqNil x y)
  | .slice _ => fun _ x y _ => guardO (isSliceV x && isSliceV y) (eqNil x y)
  | .map _ _ => fun _ x y _ => guardO (isMapV x && isMapV y) (eqNil x y)
  | .func _ _ _ => fun _ x y _ => guardO (isFuncV x && isFuncV y) (eqNil x y)
  | _ => fun _ _ _ _ => none

def isConst (x : Operand) : Bool := match x with
  | .const _ => true
  | _ => false

def binInt (op : BinOp) : IntKind → Int → Int → Option Value := match op with
  | .add => fun k a b => some (.int k (k.wrap (a + b)))
  | .sub => fun k a b => some (.int k (k.wrap (a - b)))
  | .mul => fun k a b => some (.int k (k.wrap (a * b)))
  | .eql => fun _ a b => some (.bool (a == b))
  | .neq => fun _ a b => some (.bool (a != b))
  | .lss => fun _ a b => some (.bool (decide (a < b)))
  | .leq => fun _ a b => some (.bool (decide (a ≤ b)))
  | .gtr => fun _ a b => some (.bool (decide (a > b)))
  | .geq => fun _ a b => some (.bool (decide (a ≥ b)))
  | .and => fun k a b => pureRun P (Op.intBits .and k a b)
  | .or => fun k a b => pureRun P (Op.intBits .or k a b)
  | .xor => fun k a b => pureRun P (Op.intBits .xor k a b)
  | .andNot => fun k a b => pureRun P (Op.intBits .andNot k a b)
  | .quo => fun k a b => pureRun P (Op.intDiv .quo k a b)
  | .rem => fun k a b => pureRun P (Op.intDiv .rem k a b)
  | .shl => fun _ _ _ => none
  | .shr => fun _ _ _ => none

/-- Is it a shift? -/
def isShift (op : BinOp) : Bool := match op with
  | .shl => true
  | .shr => true
  | _ => false

def binII (op : BinOp) (k : IntKind) (a : Int) (k' : IntKind) (b : Int) : Option Value := match isShift op with
  | true => pureRun P (Op.shift op k a k' b)
  | false => match decide (k = k') with
    | true => binInt P op k a b
    | false => none

def binIV (y : Value) : BinOp → IntKind → Int → Option Value := match y with
  | .int k' b => fun op k a => binII P op k a k' b
  | _ => fun _ _ _ => none

def ltBytes : List UInt8 → List UInt8 → Bool
  | [] => fun y => match y with | [] => false | _ :: _ => true
  | a :: x => fun y => match y with
    | [] => false
    | b :: y => match Nat.blt a.toNat b.toNat with
      | true => true
      | false => match Nat.beq a.toNat b.toNat with
        | true => ltBytes x y
        | false => false

def eqBytes : List UInt8 → List UInt8 → Bool
  | [] => fun y => match y with | [] => true | _ :: _ => false
  | a :: x => fun y => match y with
    | [] => false
    | b :: y => match Nat.beq a.toNat b.toNat with
      | true => eqBytes x y
      | false => false

def binStr (op : BinOp) : List UInt8 → List UInt8 → Option Value := match op with
  | .add => fun x y => guardO (Nat.ble (x.length + y.length) 70368744177664) (some (.string ⟨(x ++ y).toArray⟩))
  | .eql => fun x y => some (.bool (eqBytes x y))
  | .neq => fun x y => some (.bool (!(eqBytes x y)))
  | .lss => fun x y => some (.bool (ltBytes x y))
  | .leq => fun x y => some (.bool (!(ltBytes y x)))
  | .gtr => fun x y => some (.bool (ltBytes y x))
  | .geq => fun x y => some (.bool (!(ltBytes x y)))
  | _ => fun _ _ => none

def binSV (y : Value) : BinOp → List UInt8 → Option Value := match y with
  | .string t => fun op s => binStr op s t.data.toList
  | _ => fun _ _ => none

def isNilIface (v : Value) : Bool := match v with
  | .nilIface => true
  | _ => false
def isAggV (v : Value) : Bool := match v with
  | .agg _ => true
  | .bool _ => true
  | _ => false

def binEq (op : BinOp) (r : Option Bool) : Option Value := match op with
  | .eql => r.map .bool
  | .neq => r.map fun b => .bool (!b)
  | _ => none

def binOther (K : AHeap) (op : BinOp) (t : TypeId) (ox oy : Operand) (y x : Value) : Option Value :=
  match isAggV x with
  | true => guardO (ground x && ground y) ((pureRun P (do eqGuard op t ox oy x y; binOp op t x y)).bind fun v => guardO (grnd v) (some v))
  | false => binEq op ((P.underlying t).bind fun d => aEqD P d K x y (isConst ox || isConst oy))

def aBin (x : Value) : AHeap → BinOp → TypeId → Operand → Operand → Value → Option Value := match x with
  | .int k a => fun _ op _ _ _ y => binIV P y op k a
  | .string s => fun _ op _ _ _ y => binSV y op s.data.toList
  | v => fun K op t ox oy y => binOther P K op t ox oy y v

/-! #### conversions -/
def byteOf1 (v : Value) : Option UInt8 := match v with
  | .int .u8 n => some (UInt8.ofNat n.toNat)
  | _ => none
def bytesOf : List Value → Option (List UInt8)
  | [] => some []
  | v :: l => (byteOf1 v).bind fun b => (bytesOf l).map (b :: ·)

def strOf (l : List UInt8) : Value := .string ⟨l.toArray⟩

def convIntTo (d : TypeDesc) : Int → Option Value := match d with
  | .int k => fun n => some (.int k (k.wrap n))
  | .string => fun n => some (.string (Utf8.encode n))
  | _ => fun _ => none

/-- A string to bytes; to a string of another type. -/
def convStrTo (d : TypeDesc) : AHeap → ByteArray → Option (Value × AHeap) := match d with
  | .string => fun K s => some (.string s, K)
  | .slice e => fun K s => guardO (isU8 P e && decide (sizeT P e = some 1)) ((K.mk? (.cells (byteVals s.data.toList) e)).map (slcOf 1 s.size))
  | _ => fun _ _ => none

def isStrD (d : TypeDesc) : Bool := match d with
  | .string => true
  | _ => false

def convSlice (K : AHeap) (src : TypeId) (a : Option Addr) (len : Nat) (d : TypeDesc) : Option (Value × AHeap) :=
  guardO (isStrD d) ((elemT P src).bind fun e => guardO (isU8 P e) ((match a with | none => some [] | some a => K.read a.block a.off len).bind fun l => (bytesOf l).map fun bs => (strOf bs, K)))

def isUnsafeD (d : TypeDesc) : Bool := match d with
  | .unsafePointer => true
  | _ => false
def ptrElemD (d : TypeDesc) : Option TypeId := match d with
  | .pointer e => some e
  | _ => none
/-- A pointer to the beginning of a live block, to an unsafe one, and back to its own type. -/
def convPtr (K : AHeap) (src dst : TypeId) (a : Addr) : Option Value :=
  guardO (decide (a.spot = none) && Nat.beq a.off 0) ((liveElem K a.block).bind fun e => (P.underlying src).bind fun s => (P.underlying dst).bind fun d => match isUnsafeD d with
    | true => (ptrElemD s).bind fun t => guardO (decide ((sizeT P t).getD 0 ≠ 0 ∧ t = e) && decide ((K.read a.block 0 1).isSome)) (some (.pointer (some a)))
    | false => (ptrElemD d).bind fun t => guardO (isUnsafeD s && decide ((sizeT P t).getD 0 ≠ 0 ∧ t = e ∧ noTake P t = true) && decide ((K.read a.block 0 ((sizeT P t).getD 0)).isSome)) (some (.pointer (some a))))

def aConvert (x : Value) : AHeap → TypeId → TypeId → Option (Value × AHeap) := match x with
  | .int _ n => fun K src dst => guardO ((P.underlying src).isSome) ((P.underlying dst).bind fun d => (convIntTo d n).map fun v => (v, K))
  | .string s => fun K src dst => guardO (decide ((P.underlying src).map isStrD = some true)) ((P.underlying dst).bind fun d => convStrTo P d K s)
  | .slice a len _ => fun K src dst => (P.underlying dst).bind fun d => convSlice P K src a len d
  | .pointer (some a) => fun K src dst => (convPtr P K src dst a).map fun v => (v, K)
  | _ => fun _ _ _ => none

/-! #### maps -/
def allGroundKeys : List MapEntry → Bool
  | [] => true
  | e :: es => grnd e.key && allGroundKeys es

def valAt (es : List MapEntry) (i : Nat) : Option (Nat × Value) := (es[i]?).map fun e => (i, e.val)
def bareKeys (es : List MapEntry) : List MapEntry := es.map fun e => { e with val := .nilFunc }

def findAsk (kt : TypeId) (k : Value) (es : List MapEntry) : Option (Option (Nat × Value)) :=
  (pureRun P (Instr.findAsking kt k (bareKeys es))).bind fun r => match r with
    | none => some none
    | some p => (valAt es p.1).map some

/-- Where a key is, and its value. -/
def findE (kt : TypeId) (k : Value) (es : List MapEntry) : Option (Option (Nat × Value)) :=
  guardO (grnd k && allGroundKeys es) ((P.underlying kt).bind fun d => match Instr.findNow d k es 0 with
    | some r => some r
    | none => findAsk P kt k es)

def mapKE (d : TypeDesc) : Option (TypeId × TypeId) := match d with
  | .map k e => some (k, e)
  | _ => none
def mapT (t : TypeId) : Option (TypeId × TypeId) := (P.underlying t).bind mapKE

def AObj.entries (o : AObj) : Option (List MapEntry × Nat) := match o with
  | .map es c => some (es, c)
  | _ => none
def AHeap.entries (K : AHeap) (r : Nat) : Option (List MapEntry × Nat) := (K.obj r).bind AObj.entries

def mapV (v : Value) : Option (Option Nat) := match v with
  | .map r => some r
  | _ => none

def entriesOf (K : AHeap) (r : Option Nat) : Option (List MapEntry) := match r with
  | none => some []
  | some r => (K.entries r).map (·.1)

def keyFits (kt : TypeId) (k : Value) (empty : Bool) : Option Unit := pureRun P (Instr.checkKey empty 10000 kt k)

def found (ok : Bool) : Value → Value := match ok with
  | true => fun v => .tuple #[v, .bool true]
  | false => fun v => v
def notFound (ok : Bool) : Value → Value := match ok with
  | true => fun v => .tuple #[v, .bool false]
  | false => fun v => v

def lookIn (et : TypeId) (ok : Bool) (r : Option (Nat × Value)) : Option Value := match r with
  | some p => some (found ok p.2)
  | none => (zeroT P et).map (notFound ok)

def aLookup (K : AHeap) (t : TypeId) (ok : Bool) (k m : Value) : Option Value :=
  (mapT P t).bind fun ke => (mapV m).bind fun r => (entriesOf K r).bind fun es => (keyFits P ke.1 k es.isEmpty).bind fun _ => (findE P ke.1 k es).bind fun r => lookIn P ke.2 ok r

def setE : List MapEntry → Nat → Value → Value → List MapEntry
  | [] => fun _ _ _ => []
  | e :: es => fun i k v => match i with
    | 0 => { e with key := k, val := v } :: es
    | i + 1 => e :: setE es i k v

def putEnts (K : AHeap) (r clock : Nat) (es : List MapEntry) : Option AHeap := K.set? r (.map es clock)

def putE (K : AHeap) (r clock : Nat) (es : List MapEntry) (k v : Value) (f : Option (Nat × Value)) : Option AHeap := match f with
  | none => putEnts K r (clock + 1) (es ++ [{ key := k, val := v, born := clock }])
  | some p => (es[p.1]?).bind fun e => guardO (Instr.sameBits 10000 e.key k) (putEnts K r clock (setE es p.1 k v))

def aMapUpdate (K : AHeap) (t : TypeId) (m k v : Value) : Option AHeap :=
  (mapT P t).bind fun ke => ((mapV m).bind id).bind fun r => (K.entries r).bind fun ec => (keyFits P ke.1 k false).bind fun _ => (findE P ke.1 k ec.1).bind fun f => putE K r ec.2 ec.1 k v f

def delE (es : List MapEntry) (f : Option (Nat × Value)) : List MapEntry := match f with
  | none => es
  | some p => es.eraseIdx p.1

def aDelete (K : AHeap) (t : TypeId) (m k : Value) : Option AHeap :=
  (mapT P t).bind fun ke => ((mapV m).bind id).bind fun r => (K.entries r).bind fun ec => (keyFits P ke.1 k ec.1.isEmpty).bind fun _ => (findE P ke.1 k ec.1).bind fun f => putEnts K r ec.2 (delE ec.1 f)

/-! #### builtins -/
def lenNat (d : TypeDesc) : AHeap → Value → Option Nat := match d with
  | .string => fun _ x => (strV x).map ByteArray.size
  | .array n _ => fun _ _ => some n
  | .slice _ => fun _ x => match isSliceV x with
    | true => lenV x
    | false => none
  | .map _ _ => fun K x => (mapV x).bind fun r => (entriesOf K r).map List.length
  | .pointer a => fun _ _ => (P.underlying a).bind fun d => match d with
    | .array n _ => some n
    | _ => none
  | _ => fun _ _ => none

def aLen (K : AHeap) (t : TypeId) (x : Value) : Option Value := (P.underlying t).bind fun d => (lenNat P d K x).map fun n => .int .i64 n

def capNat (x : Value) : Option Nat := match x with
  | .slice none _ n => some n
  | .slice (some ⟨_, _, none⟩) _ n => some n
  | _ => none
def aCap (t : TypeId) (x : Value) : Option Value := (elemT P t).bind fun _ => (capNat x).map fun n => .int .i64 n

def allInt : List Value → Bool
  | [] => true
  | v :: l => match v with
    | .int _ _ => allInt l
    | .string _ => allInt l
    | _ => false

/-- The address and the length of a slice. -/
def slcV (v : Value) : Option (Option Addr × Nat) := match v with
  | .slice a n _ => some (a, n)
  | _ => none

def copyTo (K : AHeap) (a : Option Addr) (n : Nat) (xs : List Value) : Option (Value × AHeap) := match a with
  | none => some (.int .i64 n, K)
  | some a => (K.write a.block a.off xs).map fun K' => (.int .i64 n, K')

def copyN (K : AHeap) (size n : Nat) (src : Value) (a : Option Addr) : Option (Value × AHeap) := (aSrc src K size n).bind fun xs => guardO (Nat.beq xs.length (n * size)) (copyTo K a n xs)

def aCopy (K : AHeap) (t : TypeId) (dst src : Value) : Option (Value × AHeap) :=
  (elemT P t).bind fun elem => (sizeT P elem).bind fun size => (slcV dst).bind fun d => (lenV src).bind fun m => copyN K size (Nat.min m d.2) src d.1

def clearAt (K : AHeap) (z : List Value) (n : Nat) (a : Option Addr) : Option AHeap := match a with
  | none => some K
  | some a => K.write a.block a.off ((List.replicate n z).flatten)
def aClear (K : AHeap) (t : TypeId) (x : Value) : Option AHeap :=
  (elemT P t).bind fun elem => (zerosT P elem).bind fun z => (slcV x).bind fun d => clearAt K z d.2 d.1

def aSliceData (x : Value) : Option Value := match x with
  | .slice none _ _ => some (.pointer none)
  | .slice (some a) _ c => guardO (!(Nat.beq c 0)) (some (.pointer (some ⟨a.block, a.off, none⟩)))
  | _ => none

def strAt (K : AHeap) (n : Nat) (a : Addr) : Option (Value × AHeap) :=
  (liveElem K a.block).bind fun e => guardO (isU8 P e && decide (sizeT P e = some 1)) ((K.read a.block a.off n).bind fun l => (bytesOf l).bind fun bs => (K.set? a.block .dead).map fun K' => (strOf bs, K'))
def strFrom (K : AHeap) (p : Option Addr) (n : Nat) : Option (Value × AHeap) := match n with
  | 0 => some (.string .empty, K)
  | n + 1 => p.bind fun a => strAt P K (n + 1) a

/-- Is the first type a pointer to bytes? -/
def ptsU8 (ts : List TypeId) : Bool := match ts with
  | t :: _ => match (P.underlying t).bind ptrElemD with
    | some u => isU8 P u
    | none => false
  | [] => false

def aBuiltin (b : Builtin) : AHeap → List TypeId → List Value → Option (Value × AHeap) := match b with
  | .len => fun K ts xs => ts.head?.bind fun t => xs.head?.bind fun x => (aLen P K t x).map fun v => (v, K)
  | .append => fun K ts xs => aAppend P K ts xs
  | .cap => fun K ts xs => ts.head?.bind fun t => xs.head?.bind fun x => (aCap P t x).map fun v => (v, K)
  | .min => fun K _ xs => guardO (allInt xs) ((pureRun P (Builtin.min_ #[] 0 xs.toArray)).bind fun v => guardO (grnd v) (some (v, K)))
  | .max => fun K _ xs => guardO (allInt xs) ((pureRun P (Builtin.max_ #[] 0 xs.toArray)).bind fun v => guardO (grnd v) (some (v, K)))
  | .copy => fun K ts xs => ts.head?.bind fun t => match xs with
    | [d, s] => aCopy P K t d s
    | _ => none
  | .clear => fun K ts xs => ts.head?.bind fun t => xs.head?.bind fun x => (aClear P K t x).map fun K' => (.tuple #[], K')
  | .delete => fun K ts xs => ts.head?.bind fun t => match xs with
    | [m, k] => (aDelete P K t m k).map fun K' => (.tuple #[], K')
    | _ => none
  | .unsafeSliceData => fun K _ xs => match xs with
    | [x] => (aSliceData x).map fun v => (v, K)
    | _ => none
  | .unsafeString => fun K ts xs => match xs with
    | [p, n] => guardO (ptsU8 P ts) ((ptrV p).bind fun a => (natV n).bind fun n => strFrom P K a n)
    | _ => none
  | _ => fun _ _ _ => none

/-! #### structs, arrays, strings -/
/-- 'parts' laid into the cells. -/
def fillL (place : Nat → Option (Nat × Nat)) : List (Nat × Value) → List Value → Option (List Value)
  | [] => fun cells => some cells
  | p :: rest => fun cells => (place p.1).bind fun os => guardO (Nat.beq p.2.cells.size os.2) ((over os.1 p.2.cells.toList cells).bind fun cells => fillL place rest cells)

def fieldsD (d : TypeDesc) : Option (Array Field) := match d with
  | .struct fs => some fs
  | _ => none
def fieldT (t : TypeId) (i : Nat) : Option Field := ((P.underlying t).bind fieldsD).bind fun fs => fs[i]?
/-- A struct's field: where, how many cells. -/
def placeS (t : TypeId) (i : Nat) : Option (Nat × Nat) := (fieldT P t i).bind fun f => (sizeT P f.type).map fun s => (f.offset, s)
def allSized : List Field → Bool
  | [] => true
  | f :: l => (sizeT P f.type).isSome && allSized l

def buildD (d : TypeDesc) : TypeId → List Value → List (Nat × Value) → Option (List Value) := match d with
  | .struct fs => fun t z vs => guardO (allSized P fs.toList) (fillL (placeS P t) vs z)
  | .array _ e => fun _ z vs => (sizeT P e).bind fun s => fillL (fun i => some (i * s, s)) vs z
  | _ => fun _ _ _ => none

def aBuild (t : TypeId) (vs : List (Nat × Value)) : Option Value :=
  (P.underlying t).bind fun d => (zeroT P t).bind fun z => (buildD P d t z.cells.toList vs).map fun cs => .agg cs.toArray

def zeroRow (elem : TypeId) (n : Nat) : Option (List Value) := (zerosT P elem).map fun z => (List.replicate n z).flatten

def aBuildSlice (K : AHeap) (t : TypeId) (len : Nat) (vs : List (Nat × Value)) : Option (Value × AHeap) :=
  (elemT P t).bind fun elem => (sizeT P elem).bind fun s => guardO (Nat.ble (len * s) 16777216) ((zeroRow P elem len).bind fun z => (fillL (fun i => some (i * s, s)) vs z).bind fun cs => (K.mk? (.cells cs elem)).map (slcEx len len))

def partOf (agg : Bool) : List Value → Nat → Nat → Option Value := match agg with
  | true => fun cs off n => (takeN n (cs.drop off)).map fun l => .agg l.toArray
  | false => fun cs off _ => nth cs off

/-- A part of an aggregate, of a type. -/
def aPart (t : TypeId) (cs : List Value) (off : Nat) : Option Value := (isAggT P t).bind fun a => (sizeT P t).bind fun n => partOf a cs off n

def aggV (v : Value) : Option (Array Value) := match v with
  | .agg c => some c
  | _ => none

def aField (t : TypeId) (f : Nat) (x : Value) : Option Value := (aggV x).bind fun cs => (fieldT P t f).bind fun fd => aPart P fd.type cs.toList fd.offset

def mkPtr (b o : Nat) : Value := .pointer (some ⟨b, o, none⟩)

def aFieldAddr (s : TypeId) (f : Nat) (x : Value) : Option Value :=
  (addrV x).bind fun a => (fieldT P s f).bind fun fd => guardO (decide ((sizeT P fd.type).getD 0 ≠ 0)) (some (mkPtr a.1 (a.2 + fd.offset)))

/-- An index inside a length. -/
def idx (len : Nat) (i : Int) : Option Nat := match i with
  | .ofNat n => guardO (Nat.blt n len) (some n)
  | .negSucc _ => none

def elemAddr (i : Value) (len : Nat) (b o : Nat) (size : Option Nat) : Option Value :=
  (intV i).bind fun i => (idx len i).bind fun i => size.map fun s => mkPtr b (o + i * s)

def slcAddr (x : Value) : Option (Nat × Nat × Nat) := match x with
  | .slice (some a) len _ => some (a.block, a.off, len)
  | _ => none

def indexAddrD (d : TypeDesc) : Value → Value → Option Value := match d with
  | .slice e => fun x i => (slcAddr x).bind fun a => elemAddr i a.2.2 a.1 a.2.1 (sizeT P e)
  | .array n e => fun x i => (addrV x).bind fun a => elemAddr i n a.1 a.2 (sizeT P e)
  | _ => fun _ _ => none
def aIndexAddr (t : TypeId) (x i : Value) : Option Value := (P.underlying t).bind fun d => indexAddrD P d x i

def nthByte : List UInt8 → Nat → Option UInt8
  | [] => fun _ => none
  | v :: l => fun k => match k with
    | 0 => some v
    | k + 1 => nthByte l k

def indexD (d : TypeDesc) : Value → Value → Option Value := match d with
  | .string => fun x i => (strV x).bind fun s => (intV i).bind fun i => (bound1 cap40 i).bind fun i => (nthByte s.data.toList i).map fun b => .int .u8 b.toNat
  | .array n e => fun x i => (aggV x).bind fun cs => (intV i).bind fun i => (idx n i).bind fun i => (sizeT P e).bind fun s => aPart P e cs.toList (i * s)
  | _ => fun _ _ => none
def aIndex (t : TypeId) (x i : Value) : Option Value := (P.underlying t).bind fun d => indexD P d x i

def sliceStr (lo hi : Option Value) (s : ByteArray) : Option Value :=
  (aBound hi s.size s.size).bind fun h => (aBound lo 0 h).map fun l => strOf ((s.data.toList.drop l).take (h - l))

def slc3V (v : Value) : Option (Option Addr × Nat × Nat) := match v with
  | .slice a n c => some (a, n, c)
  | _ => none

def sliceD (d : TypeDesc) : Value → Option Value → Option Value → Option Value → Option Value := match d with
  | .string => fun x lo hi mx => guardO mx.isNone ((strV x).bind (sliceStr lo hi))
  | .slice e => fun x lo hi mx => (sizeT P e).bind fun s => (slc3V x).bind fun a => aSlice s a.1 a.2.1 a.2.2 lo hi mx
  | .array n e => fun x lo hi mx => (sizeT P e).bind fun s => (addrV x).bind fun a => aSlice s (some ⟨a.1, a.2, none⟩) n n lo hi mx
  | _ => fun _ _ _ _ => none
def aSliceOp (t : TypeId) (x : Value) (lo hi mx : Option Value) : Option Value := (P.underlying t).bind fun d => sliceD P d x lo hi mx

def i64V (v : Value) : Option Nat := match v with
  | .int .i64 n => bound1 70368744177664 n
  | _ => none
def aMakeSlice (K : AHeap) (t : TypeId) (l c : Value) : Option (Value × AHeap) :=
  (elemT P t).bind fun elem => (i64V l).bind fun l => (i64V c).bind fun c => (bytesT P elem).bind fun bytes => guardO (Nat.ble l c && Nat.ble (c * bytes) 70368744177664) ((zeroRow P elem c).bind fun z => (K.mk? (.cells z elem)).map (slcEx l c))

/-! #### ranges -/
def rangeD (d : TypeDesc) : AHeap → Value → Option AObj := match d with
  | .string => fun _ x => (strV x).map fun s => .siter s 0
  | .map _ _ => fun K x => (mapV x).bind fun r => match r with
    | none => some (.miter none 0 [] 0)
    | some m => (K.entries m).map fun ec => .miter (some m) ec.2 [] ec.2
  | _ => fun _ _ => none
def aRange (K : AHeap) (t : TypeId) (x : Value) : Option (Value × AHeap) := (P.underlying t).bind fun d => (rangeD d K x).bind fun o => (K.mk? o).map ptrTo

def overV : Value := .tuple #[.bool false]
def nextStr (K : AHeap) (r : Nat) (s : ByteArray) (pos : Nat) (p : Nat × Nat) : Option (Value × AHeap) :=
  (K.set? r (.siter s (pos + p.2))).map fun K' => (.tuple #[.bool true, .int .i64 pos, .int .i32 p.1], K')
def contains : List Nat → Nat → Bool
  | [] => fun _ => false
  | a :: l => fun n => Nat.beq a n || contains l n
def nextMap (K : AHeap) (r m since last : Nat) (seen : List Nat) (es : List MapEntry) (clock : Nat) : Option (Value × AHeap) :=
  match seen.isEmpty || es.isEmpty || es.any (fun e => Nat.blt e.born last) with
  | false => none
  | true => match es.filter fun e => !contains seen e.born with
    | [] => some (overV, K)
    | [e] => guardO (Nat.blt e.born since) ((K.set? r (.miter (some m) since (seen ++ [e.born]) clock)).map fun K' => (.tuple #[.bool true, e.key, e.val], K'))
    | _ => none

def nextOf (o : AObj) : AHeap → Nat → Bool → Option (Value × AHeap) := match o with
  | .siter s pos => fun K r isString => guardO isString (match Nat.blt pos s.size with
    | true => nextStr K r s pos (Utf8.decode s pos)
    | false => some (overV, K))
  | .miter none _ _ _ => fun K _ isString => guardO (!isString) (some (overV, K))
  | .miter (some m) since seen last => fun K r isString => guardO (!isString) ((K.entries m).bind fun ec => nextMap K r m since last seen ec.1 ec.2)
  | _ => fun _ _ _ => none
def aNext (K : AHeap) (isString : Bool) (it : Value) : Option (Value × AHeap) :=
  (addrV it).bind fun a => guardO (Nat.beq a.2 0) ((K.obj a.1).bind fun o => nextOf o K a.1 isString)

def lastN : List Nat → Option Nat
  | [] => none
  | a :: l => match l with
    | [] => some a
    | _ :: _ => lastN l
def findBorn (n : Nat) : List MapEntry → Option Value
  | [] => none
  | e :: es => match Nat.beq e.born n with
    | true => some (.tuple #[e.key, e.val])
    | false => findBorn n es
def entryOf (o : AObj) : AHeap → Option Value := match o with
  | .miter (some m) _ seen stepped => fun K => (K.entries m).bind fun ec => guardO (Nat.beq ec.2 stepped) ((lastN seen).bind fun n => findBorn n ec.1)
  | _ => fun _ => none
def aEntry (K : AHeap) (it : Value) : Option Value := (addrV it).bind fun a => guardO (Nat.beq a.2 0) ((K.obj a.1).bind fun o => entryOf o K)

/-! #### one operation -/
def asRes (p : Value × AHeap) : ARes × AHeap := (.val p.1, p.2)
def withK (K : AHeap) (v : Value) : ARes × AHeap := (.val v, K)
def undefV : Value := .tuple #[]
def skipK (K : AHeap) : ARes × AHeap := (.val undefV, K)

def pickV (a b : Value) (c : Bool) : Value := match c with
  | true => a
  | false => b

def nilCk (v : Value) : Bool := match v with
  | .pointer (some _) => true
  | .func (.func _) _ _ => true
  | .func (.yield _) _ _ => true
  | .iface _ _ => true
  | .map _ => true
  | .slice _ _ _ => true
  | _ => false

def callV (f : Value) : List Value → Option ARes := match f with
  | .func (.func g) first captured => fun args => some (.enter g (first.toList ++ args ++ captured.toList))
  | .func (.yield l) first captured => fun args => guardO (first.isEmpty && captured.isEmpty) (some (.round l args))
  | _ => fun _ => none

def isIfaceD (d : TypeDesc) : Bool := match d with
  | .interface _ => true
  | _ => false

def assertV (asserted : TypeId) (ok : Bool) (x : Value) : Option Value := match x with
  | .iface t v => match Nat.beq t asserted with
    | true => some (found ok v)
    | false => guardO ok ((zeroT P asserted).map (notFound true))
  | .nilIface => guardO ok ((zeroT P asserted).map (notFound true))
  | _ => none

def fnOk (fn : Fn) : Bool := match fn with
  | .func _ => true
  | _ => false

def isPtrD (d : TypeDesc) : Bool := match d with
  | .pointer _ => true
  | _ => false
/-- A method that the dynamic type has itself, its receiver handed on as it is. -/
def methodF (t : TypeId) (m : Method) : Option FuncId := match m.func with
  | some p => guardO (m.path.isEmpty && decide ((P.underlying t).map isPtrD = some p.2)) (some p.1)
  | none => none
def methodT (t : TypeId) (name : String) : Option FuncId := (P.info? t).bind fun i => (i.methods.toList.find? fun m => m.name == name).bind (methodF P t)
def invokeV (name : String) (v : Value) : List Value → Option ARes := match v with
  | .iface t v => fun args => (methodT P t name).map fun f => .enter f (v :: args)
  | _ => fun _ => none

def evCallee (c : Callee) : T Value → AHeap → List TypeId → List Value → Option (ARes × AHeap) := match c with
  | .builtin b => fun _ K ts args => (aBuiltin P b K ts args).map asRes
  | .value f => fun tm K _ args => (opv P f tm).bind fun v => (callV v args).map fun r => (r, K)
  | .invoke r name => fun tm K _ args => (opv P r tm).bind fun v => (invokeV P name v args).map fun r => (r, K)

def evOp (op : Op) : T Value → AHeap → Option (ARes × AHeap) := match op with
  | .move x => fun tm K => (opv P x tm).map (withK K)
  | .assign x => fun tm K => (opv P x tm).map (withK K)
  | .pick c a b => fun tm K => ((opv P c tm).bind boolV).bind fun c => (opv P a tm).bind fun a => (opv P b tm).map fun b => withK K (pickV a b c)
  | .alloc t => fun _ K => (zeroT P t).bind fun z => (aNewVar K t z).map asRes
  | .box t x => fun tm K => (opv P x tm).bind fun v => (aNewVar K t v).map asRes
  | .build t ps => fun tm K => (opps P ps.toList tm).bind fun vs => (aBuild P t vs).map (withK K)
  | .buildSlice t len ps => fun tm K => (opps P ps.toList tm).bind fun vs => (aBuildSlice P K t len vs).map asRes
  | .insert t m k v => fun tm K => (opv P m tm).bind fun m => (opv P k tm).bind fun k => (opv P v tm).bind fun v => (aMapUpdate P K t m k v).map skipK
  | .mapUpdate t m k v => fun tm K => (opv P m tm).bind fun m => (opv P k tm).bind fun k => (opv P v tm).bind fun v => (aMapUpdate P K t m k v).map skipK
  | .load t x => fun tm K => ((opv P x tm).bind addrV).bind fun a => (aLoadVar P K t a.1 a.2).map (withK K)
  | .store t x v => fun tm K => ((opv P x tm).bind addrV).bind fun a => (opv P v tm).bind fun v => guardO (decide (sizeT P t = some v.cells.size)) ((K.write a.1 a.2 v.cells.toList).map skipK)
  | .nilCheck x => fun tm K => (opv P x tm).bind fun v => guardO (nilCk v) (some (withK K v))
  | .binOp op t x y _ => fun tm K => (opv P x tm).bind fun a => (opv P y tm).bind fun b => (aBin P a K op t x y b).map (withK K)
  | .unOp op _ x => fun tm K => (opv P x tm).bind fun v => guardO (grnd v) ((pureRun P (Op.unary op v)).bind fun u => guardO (grnd u) (some (withK K u)))
  | .convert s d x => fun tm K => (opv P x tm).bind fun v => (aConvert P v K s d).map asRes
  | .makeInterface t x => fun tm K => (opv P x tm).bind fun v => guardO (decide ((P.underlying t).map isIfaceD = some false)) (some (withK K (.iface t v)))
  | .makeFunc fn first captured => fun tm K => guardO (fnOk fn) ((opvs P first.toList tm).bind fun a => (opvs P captured.toList tm).map fun b => withK K (.func fn a.toArray b.toArray))
  | .makeMap t r => fun tm K => (opvo P r tm).bind fun r => guardO (match r with | none => true | some v => (mapT P t).isSome && (intV v).isSome) ((K.mk? (.map [] 0)).map fun p => (.val (.map (some p.1)), p.2))
  | .makeSlice t l c => fun tm K => (opv P l tm).bind fun l => (opv P c tm).bind fun c => (aMakeSlice P K t l c).map asRes
  | .slice t x lo hi mx => fun tm K => (opv P x tm).bind fun v => (opvo P lo tm).bind fun lo => (opvo P hi tm).bind fun hi => (opvo P mx tm).bind fun mx => (aSliceOp P t v lo hi mx).map (withK K)
  | .fieldAddr s x f => fun tm K => (opv P x tm).bind fun v => (aFieldAddr P s f v).map (withK K)
  | .field t x f => fun tm K => (opv P x tm).bind fun v => (aField P t f v).map (withK K)
  | .indexAddr t x i => fun tm K => (opv P x tm).bind fun v => (opv P i tm).bind fun i => (aIndexAddr P t v i).map (withK K)
  | .index t x i => fun tm K => (opv P x tm).bind fun v => (opv P i tm).bind fun i => (aIndex P t v i).map (withK K)
  | .lookup t x i ok => fun tm K => (opv P x tm).bind fun m => (opv P i tm).bind fun k => (aLookup P K t ok k m).map (withK K)
  | .range t x => fun tm K => (opv P x tm).bind fun v => (aRange P K t v).map asRes
  | .next it isString => fun tm K => (opv P it tm).bind fun v => (aNext K isString v).map asRes
  | .entry it => fun tm K => (opv P it tm).bind fun v => (aEntry K v).map (withK K)
  | .typeAssert x _ asserted ok => fun tm K => (opv P x tm).bind fun v => guardO (decide ((P.underlying asserted).map isIfaceD = some false)) ((assertV P asserted ok v).map (withK K))
  | .extract x ix => fun tm K => (opv P x tm).bind fun v => match v with
    | .tuple vs => (vs.toList[ix]?).map (withK K)
    | _ => none
  | .call c => fun tm K => (opvs P c.args.toList tm).bind fun args => evCallee P c.callee tm K c.argTypes.toList args
  | _ => fun _ _ => none

/-! ### Regions that draw their order: what must hold of them, looked at once -/
/-- 0: nothing of memory · 1: makes memory alone · 2: reads · 3: writes · 4: may write (a call, an append ..): told clean by the run where it must be. -/
def kindOf (op : Op) : Nat := match op with
  | .move _ | .assign _ | .pick .. | .build .. | .nilCheck _ | .unOp .. | .makeInterface .. | .makeFunc .. | .slice .. | .fieldAddr .. | .field .. | .indexAddr .. | .index .. | .typeAssert .. | .extract .. => 0
  | .alloc _ | .box .. | .buildSlice .. | .makeMap .. | .makeSlice .. => 1
  | .load .. | .lookup .. | .range .. | .binOp .. | .convert .. => 2
  | .call { callee := .builtin b, .. } => match b with
    | .len | .cap | .min | .max | .unsafeSliceData => 2
    | _ => 4
  | .call _ => 4
  | _ => 3

def tmpOf (x : Operand) : List Tmp := match x with
  | .tmp t => [t]
  | _ => []

def guardTmp (ops : List Oper) (o : Oper) : Option Tmp := match o.guard with
  | some (j, _) => (ops[j]?).bind Oper.dst
  | none => none

/-- The temporaries that an operation looks at. -/
def looks (ops : List Oper) (o : Oper) : List Tmp := (o.op.operands.toList.flatMap tmpOf) ++ (guardTmp ops o).toList
def tmpsOf (ops : List Oper) (o : Oper) : List Tmp := o.dst.toList ++ looks ops o

/-- The operations that stand before each, by the edges that bind in every mode. -/
def befores : List Oper → List (List Nat) → List (List Nat)
  | [] => fun acc => acc
  | o :: rest => fun acc => befores rest (acc ++ [(o.after.toList.filter (Region.binds .any)).flatMap fun e => e.on :: acc.getD e.on []])

def noTmp (d : Option Tmp) (l : List Tmp) : Bool := match d with
  | some d => !l.contains d
  | none => true

def apart (ops : List Oper) (a b : Oper) : Bool :=
  noTmp a.dst (tmpsOf ops b) && noTmp b.dst (tmpsOf ops a) && !(decide (2 ≤ kindOf a.op) && decide (2 ≤ kindOf b.op) && (kindOf a.op == 3 || kindOf b.op == 3))

/-- i < j: ordered, or apart. -/
def pairOk (ops : List Oper) (bs : List (List Nat)) (i j : Nat) : Bool :=
  (bs.getD j []).contains i || (match ops[i]?, ops[j]? with
    | some a, some b => apart ops a b
    | _, _ => false)

/-- Must this operation be clean? (There is one beside it that reads or writes, in either order.) -/
def asksClean (ops : List Oper) (bs : List (List Nat)) (i : Nat) : Bool :=
  match ops[i]? with
  | some a => kindOf a.op == 4 && ops.zipIdx.any fun p => p.2 != i && decide (2 ≤ kindOf p.1.op) && !((bs.getD p.2 []).contains i) && !((bs.getD i []).contains p.2)
  | none => false

/-- Is it run clean? (It is of a kind that writes nothing; or it must be.) -/
def cleanFlag (ops : List Oper) (bs : List (List Nat)) (i : Nat) : Bool := match ops[i]? with
  | some a => Nat.ble (kindOf a.op) 2 || asksClean ops bs i
  | none => true

def edgesOk (ops : List Oper) : Bool :=
  ops.zipIdx.all fun p => p.1.after.toList.all (fun e => !(Region.binds .any e) || decide (e.on < p.2)) &&
    (match p.1.guard with | some (j, _) => decide (j < p.2) | none => true)

/-- An operation, made ready: must it be clean; its guard. -/
structure POp where
  op : Op
  dst : Option Tmp
  clean : Bool
  guard : Option (Option Tmp × Bool)

def guardOf (ops : List Oper) (o : Oper) : Option (Option Tmp × Bool) := match o.guard with
  | some (j, want) => some ((ops[j]?).bind Oper.dst, want)
  | none => none

def pops (ops : List Oper) (clean : Nat → Bool) : List POp := ops.zipIdx.map fun p => { op := p.1.op, dst := p.1.dst, clean := clean p.2, guard := guardOf ops p.1 }

def pairsOk (ops : List Oper) (bs : List (List Nat)) : Bool := (List.range ops.length).all fun j => (List.range j).all fun i => pairOk ops bs i j

/-- none: such a region is not taken; else its operations, made ready. -/
def plan (ops : List Oper) (draw : Bool) : Option (List POp) := match draw with
  | false => some (pops ops fun _ => false)
  | true => guardO (edgesOk ops && pairsOk ops (befores ops [])) (some (pops ops (cleanFlag ops (befores ops []))))

/-! ### Code -/
inductive AExit where
  | normal
  | exit (id : Nat)
  | ret

structure St where
  tm : T Value
  K : AHeap
  marks : List Nat

abbrev Ih := Option Nat → Nat → Code → St → Option (AExit × St)
/-- What a function without a body answers. -/
abbrev Xt := FuncId → List Value → AHeap → Option (Value × AHeap)

def initTm : List Value → Nat → T Value → T Value
  | [] => fun _ t => t
  | v :: l => fun i t => initTm l (i + 1) (t.put i v)

def aResult (r : ResultVar) : T Value → AHeap → Option Value := match r with
  | .tmp t => fun tm _ => tm.get t
  | .cell a t => fun tm K => ((tm.get a).bind addrV).bind fun a => aLoadVar P K t a.1 a.2

def aResults : List ResultVar → T Value → AHeap → Option (List Value)
  | [] => fun _ _ => some []
  | r :: l => fun tm K => (aResult P r tm K).bind fun v => (aResults l tm K).map (v :: ·)

def tupled (l : List Value) : Value := match l with
  | [v] => v
  | l => .tuple l.toArray

def isDefs (o : AObj) : Bool := match o with
  | .defs => true
  | _ => false

def shut : List Nat → AHeap → Option AHeap
  | [] => fun K => some K
  | n :: l => fun K => (K.obj n).bind fun o => guardO (isDefs o) ((K.set? n .dead).bind (shut l))

variable (X : Xt)

def closeCall (fn : Func) (s : St) : Option (Value × AHeap) :=
  (shut s.marks s.K).bind fun K' => (aResults P fn.results.toList s.tm K').bind fun vs => some (tupled vs, K')

def leave (fn : Func) (e : AExit) : St → Option (Value × AHeap) := match e with
  | .normal => fun s => closeCall P fn s
  | .ret => fun s => closeCall P fn s
  | .exit _ => fun _ => none

def evBody (ih : Ih) (fn : Func) (args : List Value) (K : AHeap) (c : Code) : Option (Value × AHeap) :=
  guardO (Nat.ble args.length fn.ntmps && Nat.blt fn.ntmps cap40) ((ih none fn.ntmps c { tm := initTm args 0 .e, K := K, marks := [] }).bind fun r => leave P fn r.1 r.2)

def evFunc (ih : Ih) (f : FuncId) (args : List Value) (K : AHeap) (fn : Func) : Option (Value × AHeap) := match fn.body with
  | none => X f args K
  | some c => match X f args K with
    | some r => some r
    | none => evBody P ih fn args K c

def evCall (ih : Ih) (f : FuncId) (args : List Value) (K : AHeap) : Option (Value × AHeap) := (P.funcs[f]?).bind fun fn => evFunc P X ih f args K fn

def put (nt : Nat) (tm : T Value) (dst : Option Tmp) (v : Value) : Option (T Value) := match dst with
  | none => some tm
  | some d => guardO (Nat.blt d nt && Nat.blt d cap40) (some (tm.put d v))

def putAll (nt : Nat) : List Tmp → List Value → T Value → Option (T Value)
  | [] => fun vs tm => match vs with
    | [] => some tm
    | _ :: _ => none
  | t :: ts => fun vs tm => match vs with
    | [] => none
    | v :: vs => (put nt tm (some t) v).bind fun tm' => putAll nt ts vs tm'

structure Lp where
  tm : T Value
  nt : Nat
  params : List Tmp
  assign : Code
  body : Code
  defers : Nat

def Lp.obj (L : Lp) (st : LoopState) (p : Option Code) : AObj := .loop st p L.tm L.nt L.params L.assign L.body L.defers

def AObj.lp (o : AObj) : Option (LoopState × Option Code × Lp) := match o with
  | .loop st p tm nt ps a b d => some (st, p, ⟨tm, nt, ps, a, b, d⟩)
  | _ => none
def AHeap.lp (K : AHeap) (l : Nat) : Option (LoopState × Option Code × Lp) := (K.obj l).bind AObj.lp

def isReady (s : LoopState) : Bool := match s with
  | .ready => true
  | _ => false
def isBusy (s : LoopState) : Bool := match s with
  | .busy => true
  | _ => false

def endRound (L : Lp) (l : Nat) (e : AExit) : AHeap → Option (Value × AHeap) := match e with
  | .normal => fun K => (K.set? l (L.obj .ready none)).map fun K => (.bool true, K)
  | .ret => fun K => (K.set? l (L.obj .done (some .ret))).map fun K => (.bool false, K)
  | .exit id => fun K => (K.set? l (L.obj .done (some (.exit id)))).map fun K => (.bool false, K)

def roundEnd (l : Nat) (e : AExit) (K : AHeap) : Option (Value × AHeap) := (K.lp l).bind fun r => guardO (isBusy r.1) (endRound r.2.2 l e K)

def roundBody (ih : Ih) (l : Nat) (L : Lp) (s : St) (e : AExit) : Option (Value × AHeap) := match e with
  | .normal => (s.K.lp l).bind fun r => guardO (isReady r.1 && r.2.1.isNone) ((s.K.set? l (r.2.2.obj .busy none)).bind fun K => (ih (some l) L.nt L.body { tm := s.tm, K := K, marks := s.marks }).bind fun q => roundEnd l q.1 q.2.K)
  | _ => none

/-- yield: one round of a range over a function. -/
def evRound (ih : Ih) (l : Nat) (args : List Value) (K : AHeap) : Option (Value × AHeap) :=
  (K.lp l).bind fun r => guardO (isReady r.1 && r.2.1.isNone) ((putAll r.2.2.nt r.2.2.params args r.2.2.tm).bind fun tm => (ih (some l) r.2.2.nt r.2.2.assign { tm := tm, K := K, marks := [] }).bind fun q => roundBody ih l r.2.2 q.2 q.1)

def evRes (ih : Ih) (r : ARes) : AHeap → Option (Value × AHeap) := match r with
  | .val v => fun K => some (v, K)
  | .enter f args => fun K => evCall P X ih f args K
  | .round l args => fun K => evRound ih l args K

def evOper (ih : Ih) (tm : T Value) (K : AHeap) (o : Op) : Option (Value × AHeap) := (evOp P o tm K).bind fun r => evRes P X ih r.1 r.2

/-- A yielded answer: is it the one that is wanted? -/
def isWanted (v : Value) : Bool → Option Bool := match v with
  | .bool b => fun want => some (b == want)
  | .tuple _ => fun _ => some false
  | _ => fun _ => none

def aWanted (g : Option (Option Tmp × Bool)) : T Value → Option Bool := match g with
  | none => fun _ => some true
  | some (d, want) => fun tm => (d.bind tm.get).bind fun v => isWanted v want

/-- Run with the written names told apart. -/
def cleanly (low : Nat) (next : Nat) (p : Value × AHeap) : Option (Value × AHeap) := guardO (Nat.ble next p.2.low) (some (p.1, { p.2 with low := min low p.2.low }))

def evOper1 (ih : Ih) (tm : T Value) (K : AHeap) (o : POp) : Option (Value × AHeap) := match o.clean with
  | false => evOper P X ih tm K o.op
  | true => (evOper P X ih tm { t := K.t, next := K.next, low := K.next } o.op).bind (cleanly K.low K.next)

def evPOp (ih : Ih) (tm : T Value) (K : AHeap) (o : POp) : Option (Value × AHeap) := (aWanted o.guard tm).bind fun b => match b with
  | true => evOper1 P X ih tm K o
  | false => some (undefV, K)

def evOps (ih : Ih) (nt : Nat) : List POp → T Value → AHeap → Option (T Value × AHeap)
  | [] => fun tm K => some (tm, K)
  | o :: rest => fun tm K => (evPOp P X ih tm K o).bind fun p => (put nt tm o.dst p.1).bind fun tm' => evOps ih nt rest tm' p.2

def evRegion (ih : Ih) (nt : Nat) (ops : List Oper) (draw : Bool) (s : St) : Option (AExit × St) :=
  (plan ops draw).bind fun ps => (evOps P X ih nt ps s.tm s.K).map fun r => (.normal, { tm := r.1, K := r.2, marks := s.marks })

def andThen (k : St → Option (AExit × St)) (r : AExit × St) : Option (AExit × St) := match r.1 with
  | .normal => k r.2
  | _ => some r

def blockExit (id : Nat) (r : AExit × St) : AExit × St := match r.1 with
  | .exit id' => match Nat.beq id' id with
    | true => (.normal, r.2)
    | false => r
  | _ => r

def condOf (v : Value) : Option Bool := match v with
  | .bool b => some b
  | _ => none

/-- A range over a function begins: where its deferred calls go. -/
def rangeDefers (rnd : Option Nat) : St → Option (Nat × AHeap × List Nat) := match rnd with
  | some l => fun s => (s.K.lp l).map fun r => (r.2.2.defers, s.K, s.marks)
  | none => fun s => (s.K.mk? .defs).map fun p => (p.1, p.2, p.1 :: s.marks)

def pendingExit (p : Option Code) : Option AExit := match p with
  | none => some .normal
  | some .ret => some .ret
  | some (.exit id) => some (.exit id)
  | _ => none

def rangeEnd (l : Nat) (tm : T Value) (marks : List Nat) (K : AHeap) : Option (AExit × St) :=
  (K.lp l).bind fun r => guardO (!(isBusy r.1)) ((K.set? l (r.2.2.obj .exhausted r.2.1)).bind fun K' => (pendingExit r.2.1).map fun e => (e, { tm := tm, K := K', marks := marks }))

def rangeCallee (f : Value) : Nat → Option (FuncId × List Value) := match f with
  | .func (.func g) first captured => fun l => some (g, first.toList ++ [.func (.yield l) #[] #[]] ++ captured.toList)
  | _ => fun _ => none

/-- Has the function a body? -/
def hasBody (f : FuncId) : Bool := match P.funcs[f]? with
  | some fn => fn.body.isSome
  | none => false

def evRange (ih : Ih) (rnd : Option Nat) (nt : Nat) (f : Operand) (params : List Tmp) (assign body : Code) (s : St) : Option (AExit × St) :=
  (rangeDefers rnd s).bind fun d => (d.2.1.mk? (.loop .ready none s.tm nt params assign body d.1)).bind fun q => ((opv P f s.tm).bind fun v => rangeCallee v q.1).bind fun c => guardO (hasBody P c.1) ((evCall P X ih c.1 c.2 q.2).bind fun r => rangeEnd q.1 s.tm d.2.2 r.2)

def evCode (ih : Ih) (rnd : Option Nat) (nt : Nat) : Code → St → Option (AExit × St)
  | .skip => fun s => some (.normal, s)
  | .label _ => fun s => some (.normal, s)
  | .seq a b => fun s => (evCode ih rnd nt a s).bind (andThen (evCode ih rnd nt b))
  | .cond c a b => fun s => ((opv P c s.tm).bind condOf).bind fun t => match t with
    | true => evCode ih rnd nt a s
    | false => evCode ih rnd nt b s
  | .block id b => fun s => (evCode ih rnd nt b s).map (blockExit id)
  | .loop b => fun s => (evCode ih rnd nt b s).bind (andThen (ih rnd nt (.loop b)))
  | .exit id => fun s => some (.exit id, s)
  | .ret => fun s => some (.ret, s)
  | .scope b => fun s => evCode ih rnd nt b s
  | .region _ ops draw => fun s => evRegion P X ih nt ops.toList draw s
  | .rangeFunc f params assign body => fun s => evRange P X ih rnd nt f params.toList assign body s
  | .goto _ => fun _ => none
  | .refuse _ => fun _ => none

def ev : Nat → Ih
  | 0 => fun _ _ _ _ => none
  | n + 1 => fun rnd nt c s => evCode P X (ev n) rnd nt c s

/-! ### Functions without a body -/
inductive Xk where
  | noEscape
  | indexByte
  | countByte
  | makeNoZero (elem : TypeId)
  | mapsClone

def findByte (c : Int) : List UInt8 → Nat → Int
  | [] => fun _ => -1
  | b :: l => fun i => match decide ((b.toNat : Int) = c) with
    | true => i
    | false => findByte c l (i + 1)

def countB (c : Int) : List UInt8 → Nat → Nat
  | [] => fun n => n
  | b :: l => fun n => match decide ((b.toNat : Int) = c) with
    | true => countB c l (n + 1)
    | false => countB c l n

def u8V (v : Value) : Option Int := match v with
  | .int .u8 n => guardO (decide (0 ≤ n ∧ n < 256)) (some n)
  | _ => none

def cloneOf (K : AHeap) (v : Value) : Option (Value × AHeap) := match v with
  | .iface t (.map (some r)) => (K.entries r).bind fun ec => (K.mk? (.map ec.1 ec.2)).map fun p => (.iface t (.map (some p.1)), p.2)
  | _ => none

/-- A cell of which nothing is known. -/
def poison : Value := .chan (some 0)

def extV (x : Xk) : List Value → AHeap → Option (Value × AHeap) := match x with
  | .noEscape => fun args K => match args with
    | [v] => some (v, K)
    | _ => none
  | .indexByte => fun args K => match args with
    | [s, c] => (strV s).bind fun s => (u8V c).map fun c => (.int .i64 (findByte c s.data.toList 0), K)
    | _ => none
  | .countByte => fun args K => match args with
    | [s, c] => (strV s).bind fun s => (u8V c).map fun c => (.int .i64 (countB c s.data.toList 0), K)
    | _ => none
  | .makeNoZero e => fun args K => match args with
    | [n] => (i64V n).bind fun n => (guardO (decide (sizeT P e = some 1)) (K.mk? (.cells (List.replicate n poison) e))).map (slcOf 1 n)
    | _ => none
  | .mapsClone => fun args K => match args with
    | [v] => cloneOf K v
    | _ => none

def extX (tab : List (FuncId × Xk)) (f : FuncId) (args : List Value) (K : AHeap) : Option (Value × AHeap) := (tab.lookup f).bind fun x => extV P x args K
end
end Go.Ev

/- What the evaluator's abstract values and heap say of a world: the relations, and their plain laws. Conditions: none. -/
set_option linter.unusedVariables false
set_option linter.unusedSimpArgs false
set_option linter.unnecessarySimpa false
namespace Go.Ev

/-! ### Finite maps -/
theorem T.get_e {α : Type} (k : Nat) : (T.e : T α).get k = none := rfl

theorem T.get_single {α : Type} (v : α) : ∀ (f k j : Nat), k < 2 ^ f → (T.single f k v).get j = if j = k then some v else none := by
  intro f
  induction f with
  | zero =>
    intro k j hk
    have : k = 0 := by simpa using hk
    subst this
    cases j with
    | zero => simp [T.single, T.get]
    | succ j => simp [T.single, T.get]; split <;> rfl
  | succ f ih =>
    intro k j hk
    cases k with
    | zero =>
      cases j with
      | zero => simp [T.single, T.get]
      | succ j => simp [T.single, T.get]; split <;> rfl
    | succ k =>
      have hk2 : k / 2 < 2 ^ f := by rw [Nat.pow_succ] at hk; omega
      cases j with
      | zero => cases hm : k % 2 <;> simp [T.single, T.get, hm]
      | succ j =>
        cases hm : k % 2 <;> cases hj : j % 2 <;> simp only [T.single, T.get, hm, hj, ih _ _ hk2, Nat.add_right_cancel_iff]
        · by_cases e : j = k
          · simp [e]
          · have : ¬ j / 2 = k / 2 := by omega
            simp [e, this]
        · have : ¬ j = k := by omega
          simp [this]
        · have : ¬ j = k := by omega
          simp [this]
        · by_cases e : j = k
          · simp [e]
          · have : ¬ j / 2 = k / 2 := by omega
            simp [e, this]

theorem T.get_put' {α : Type} (v : α) : ∀ (t : T α) (k j : Nat), (t.put k v).get j = if j = k then some v else t.get j := by
  intro t
  induction t with
  | e => intro k j; simp only [T.put, T.get_single v (k + 1) k j (Nat.lt_trans (Nat.lt_succ_self k) Nat.lt_two_pow_self), T.get]
  | n l w r ihl ihr =>
    intro k j
    cases k with
    | zero =>
      cases j with
      | zero => simp [T.put, T.get]
      | succ j => simp [T.put, T.get]
    | succ k =>
      cases j with
      | zero => cases hm : k % 2 <;> simp [T.put, T.get, hm]
      | succ j =>
        cases hm : k % 2 <;> cases hj : j % 2 <;> simp only [T.put, T.get, hm, hj, ihl, ihr, Nat.add_right_cancel_iff]
        · by_cases e : j = k
          · simp [e]
          · have : ¬ j / 2 = k / 2 := by omega
            simp [e, this]
        · have : ¬ j = k := by omega
          simp [this]
        · have : ¬ j = k := by omega
          simp [this]
        · by_cases e : j = k
          · simp [e]
          · have : ¬ j / 2 = k / 2 := by omega
            simp [e, this]

theorem T.get_put {α : Type} (v : α) (t : T α) (k j : Nat) (_ : k < 2 ^ 64) : (t.put k v).get j = if j = k then some v else t.get j := T.get_put' v t k j

theorem cap40_lt : cap40 < 2 ^ 64 := by decide

/-! ### Small laws of the evaluator's own words -/
theorem guardO_some {β : Type} {b : Bool} {k : Option β} {x : β} : guardO b k = some x ↔ b = true ∧ k = some x := by
  cases b <;> simp [guardO]

theorem bind_some {α β : Type} {o : Option α} {f : α → Option β} {y : β} : o.bind f = some y ↔ ∃ x, o = some x ∧ f x = some y := by
  cases o <;> simp

theorem map_some {α β : Type} {o : Option α} {f : α → β} {y : β} : o.map f = some y ↔ ∃ x, o = some x ∧ f x = y := by
  cases o <;> simp

/-! ### What a name stands for -/
structure Loc where
  blk : Nat
  shift : Nat
  size : Nat

abbrev Env := Nat → Option Loc

def Ext (η η' : Env) : Prop := ∀ n L, η n = some L → η' n = some L

theorem Ext.refl (η : Env) : Ext η η := fun _ _ h => h
theorem Ext.trans {a b c : Env} (h : Ext a b) (k : Ext b c) : Ext a c := fun n L x => k n L (h n L x)

mutual
/-- An abstract value, and one of the machine's. -/
inductive VRel (η : Env) : Value → Value → Prop
  | bool (b : Bool) : VRel η (.bool b) (.bool b)
  | int (k : IntKind) (n : Int) : VRel η (.int k n) (.int k n)
  | float (k : FloatKind) (n : Nat) : VRel η (.float k n) (.float k n)
  | complex (k : FloatKind) (a b : Nat) : VRel η (.complex k a b) (.complex k a b)
  | string (s : ByteArray) : VRel η (.string s) (.string s)
  | pnil : VRel η (.pointer none) (.pointer none)
  | ptr {b o : Nat} {L : Loc} (h : η b = some L) : VRel η (.pointer (some ⟨b, o, none⟩)) (.pointer (some ⟨L.blk, o + L.shift, none⟩))
  | snil (l c : Nat) : VRel η (.slice none l c) (.slice none l c)
  | sex {b o : Nat} {L : Loc} (l c : Nat) (h : η b = some L) : VRel η (.slice (some ⟨b, o, none⟩) l c) (.slice (some ⟨L.blk, o + L.shift, none⟩) l c)
  | slow {b o q : Nat} {L : Loc} (l c c' : Nat) (h : η b = some L) (hc : c ≤ c') (hz : o + L.shift + c' * q ≤ L.size) :
      VRel η (.slice (some ⟨b, o, some (2 * q)⟩) l c) (.slice (some ⟨L.blk, o + L.shift, none⟩) l c')
  | ssome {b o q : Nat} {L : Loc} (o' c' : Nat) (h : η b = some L) (hz : o' + c' * q ≤ L.size) :
      VRel η (.slice (some ⟨b, o, some (2 * q + 1)⟩) 0 0) (.slice (some ⟨L.blk, o', none⟩) 0 c')
  | mnil : VRel η (.map none) (.map none)
  | map {r : Nat} {L : Loc} (h : η r = some L) : VRel η (.map (some r)) (.map (some L.blk))
  | cnil : VRel η (.chan none) (.chan none)
  | poison (v : Value) (h : oneCell v = true) : VRel η (.chan (some 0)) v
  | nilFunc : VRel η .nilFunc .nilFunc
  | func (f : FuncId) {a a' b b' : List Value} (ha : LRel η a a') (hb : LRel η b b') : VRel η (.func (.func f) ⟨a⟩ ⟨b⟩) (.func (.func f) ⟨a'⟩ ⟨b'⟩)
  | yield {l : Nat} {L : Loc} (h : η l = some L) : VRel η (.func (.yield l) #[] #[]) (.func (.yield L.blk) #[] #[])
  | iface (t : TypeId) {v v' : Value} (h : VRel η v v') : VRel η (.iface t v) (.iface t v')
  | nilIface : VRel η .nilIface .nilIface
  | agg {a a' : List Value} (h : LRel η a a') : VRel η (.agg ⟨a⟩) (.agg ⟨a'⟩)
  | tuple {a a' : List Value} (h : LRel η a a') : VRel η (.tuple ⟨a⟩) (.tuple ⟨a'⟩)
inductive LRel (η : Env) : List Value → List Value → Prop
  | nil : LRel η [] []
  | cons {v v' : Value} {l l' : List Value} (h : VRel η v v') (t : LRel η l l') : LRel η (v :: l) (v' :: l')
end

mutual
theorem VRel.ext {η η' : Env} (hx : Ext η η') : ∀ {v v' : Value}, VRel η v v' → VRel η' v v'
  | _, _, .bool b => .bool b
  | _, _, .int k n => .int k n
  | _, _, .float k n => .float k n
  | _, _, .complex k a b => .complex k a b
  | _, _, .string s => .string s
  | _, _, .pnil => .pnil
  | _, _, .ptr h => .ptr (hx _ _ h)
  | _, _, .snil l c => .snil l c
  | _, _, .sex l c h => .sex l c (hx _ _ h)
  | _, _, .slow l c c' h hc hz => .slow l c c' (hx _ _ h) hc hz
  | _, _, .ssome o c h hz => .ssome o c (hx _ _ h) hz
  | _, _, .mnil => .mnil
  | _, _, .map h => .map (hx _ _ h)
  | _, _, .cnil => .cnil
  | _, _, .poison v h => .poison v h
  | _, _, .nilFunc => .nilFunc
  | _, _, .func f ha hb => .func f (LRel.ext hx ha) (LRel.ext hx hb)
  | _, _, .yield h => .yield (hx _ _ h)
  | _, _, .iface t h => .iface t (VRel.ext hx h)
  | _, _, .nilIface => .nilIface
  | _, _, .agg h => .agg (LRel.ext hx h)
  | _, _, .tuple h => .tuple (LRel.ext hx h)
theorem LRel.ext {η η' : Env} (hx : Ext η η') : ∀ {l l' : List Value}, LRel η l l' → LRel η' l l'
  | _, _, .nil => .nil
  | _, _, .cons h t => .cons (VRel.ext hx h) (LRel.ext hx t)
end

mutual
/-- A value without names is its own. -/
theorem VRel.ground {η : Env} : ∀ (v : Value), ground v = true → VRel η v v
  | .bool b, _ => .bool b
  | .int k n, _ => .int k n
  | .float k n, _ => .float k n
  | .complex k a b, _ => .complex k a b
  | .string s, _ => .string s
  | .nilFunc, _ => .nilFunc
  | .nilIface, _ => .nilIface
  | .pointer none, _ => .pnil
  | .slice none l c, _ => .snil l c
  | .map none, _ => .mnil
  | .chan none, _ => .cnil
  | .agg ⟨l⟩, h => .agg (LRel.ground l (by simpa [Ev.ground] using h))
  | .tuple ⟨l⟩, h => .tuple (LRel.ground l (by simpa [Ev.ground] using h))
  | .iface t v, h => .iface t (VRel.ground v (by simpa [Ev.ground] using h))
  | .func (.func f) ⟨a⟩ ⟨b⟩, h => by
    simp [Ev.ground] at h
    exact .func f (LRel.ground a h.1) (LRel.ground b h.2)
  | .pointer (some _), h => by simp [Ev.ground] at h
  | .slice (some _) _ _, h => by simp [Ev.ground] at h
  | .map (some _), h => by simp [Ev.ground] at h
  | .chan (some _), h => by simp [Ev.ground] at h
  | .func (.method _) _ _, h => by simp [Ev.ground] at h
  | .func (.methodOf _ _) _ _, h => by simp [Ev.ground] at h
  | .func (.via _ _ _ _) _ _, h => by simp [Ev.ground] at h
  | .func (.yield _) _ _, h => by simp [Ev.ground] at h
theorem LRel.ground {η : Env} : ∀ (l : List Value), grounds l = true → LRel η l l
  | [], _ => .nil
  | v :: l, h => by
    simp [grounds] at h
    exact .cons (VRel.ground v h.1) (LRel.ground l h.2)
end

mutual
theorem VRel.eq_of_ground {η : Env} : ∀ {v v' : Value}, VRel η v v' → Ev.ground v = true → v' = v
  | _, _, .bool b, _ => rfl
  | _, _, .int k n, _ => rfl
  | _, _, .float k n, _ => rfl
  | _, _, .complex k a b, _ => rfl
  | _, _, .string s, _ => rfl
  | _, _, .pnil, _ => rfl
  | _, _, .ptr h, hg => by simp [Ev.ground] at hg
  | _, _, .snil l c, _ => rfl
  | _, _, .sex l c h, hg => by simp [Ev.ground] at hg
  | _, _, .slow l c c' h hc hz, hg => by simp [Ev.ground] at hg
  | _, _, .ssome o c h hz, hg => by simp [Ev.ground] at hg
  | _, _, .mnil, _ => rfl
  | _, _, .map h, hg => by simp [Ev.ground] at hg
  | _, _, .cnil, _ => rfl
  | _, _, .poison v h, hg => by simp [Ev.ground] at hg
  | _, _, .nilFunc, _ => rfl
  | _, _, .func f ha hb, hg => by
    simp [Ev.ground] at hg
    rw [LRel.eq_of_ground ha hg.1, LRel.eq_of_ground hb hg.2]
  | _, _, .yield h, hg => by simp [Ev.ground] at hg
  | _, _, .iface t h, hg => by rw [VRel.eq_of_ground h (by simpa [Ev.ground] using hg)]
  | _, _, .nilIface, _ => rfl
  | _, _, .agg h, hg => by rw [LRel.eq_of_ground h (by simpa [Ev.ground] using hg)]
  | _, _, .tuple h, hg => by rw [LRel.eq_of_ground h (by simpa [Ev.ground] using hg)]
theorem LRel.eq_of_ground {η : Env} : ∀ {l l' : List Value}, LRel η l l' → grounds l = true → l' = l
  | _, _, .nil, _ => rfl
  | _, _, .cons h t, hg => by
    simp [grounds] at hg
    rw [VRel.eq_of_ground h hg.1, LRel.eq_of_ground t hg.2]
end

theorem grnd_ground {v : Value} (h : grnd v = true) : ground v = true := by
  cases v <;> simp_all [grnd, ground]

theorem VRel.grnd {η : Env} {v : Value} (h : grnd v = true) : VRel η v v := .ground v (grnd_ground h)

/-- What was read as one cell is one cell. -/
theorem VRel.oneCell {η : Env} {v v' : Value} (h : VRel η v v') (hv : oneCell v = true) : oneCell v' = true := by
  cases h <;> simp_all [Ev.oneCell]

theorem LRel.length {η : Env} : ∀ {l l' : List Value}, LRel η l l' → l'.length = l.length
  | _, _, .nil => rfl
  | _, _, .cons _ t => by simp [LRel.length t]

theorem LRel.append {η : Env} : ∀ {a a' b b' : List Value}, LRel η a a' → LRel η b b' → LRel η (a ++ b) (a' ++ b')
  | _, _, _, _, .nil, h => h
  | _, _, _, _, .cons h t, k => .cons h (LRel.append t k)

theorem LRel.nth {η : Env} : ∀ {l l' : List Value}, LRel η l l' → ∀ {i : Nat} {v : Value}, l[i]? = some v → ∃ v', l'[i]? = some v' ∧ VRel η v v'
  | _, _, .nil, i, v, h => by simp at h
  | _, _, .cons h t, i, v, hi => by
    cases i with
    | zero => simp at hi; subst hi; exact ⟨_, rfl, h⟩
    | succ i => simp at hi; simpa using LRel.nth t hi

theorem LRel.of_nth {η : Env} : ∀ {l l' : List Value}, l'.length = l.length → (∀ (i : Nat) (v : Value), l[i]? = some v → ∃ v', l'[i]? = some v' ∧ VRel η v v') → LRel η l l'
  | [], [], _, _ => .nil
  | v :: l, v' :: l', h, k => .cons (by obtain ⟨x, hx, r⟩ := k 0 v rfl; simp at hx; exact hx ▸ r)
      (LRel.of_nth (by simpa using h) fun i u hu => by simpa using k (i + 1) u (by simpa using hu))
  | [], _ :: _, h, _ => by simp at h
  | _ :: _, [], h, _ => by simp at h

theorem LRel.drop {η : Env} {l l' : List Value} (h : LRel η l l') : ∀ n, LRel η (l.drop n) (l'.drop n)
  | 0 => by simpa using h
  | n + 1 => by
    cases h with
    | nil => simpa using LRel.nil
    | cons _ t => simpa using t.drop n

theorem LRel.take {η : Env} {l l' : List Value} (h : LRel η l l') : ∀ n, LRel η (l.take n) (l'.take n)
  | 0 => by simpa using LRel.nil
  | n + 1 => by
    cases h with
    | nil => simpa using LRel.nil
    | cons k t => simpa using LRel.cons k (t.take n)

theorem LRel.replicate {η : Env} {v v' : Value} (h : VRel η v v') : ∀ n, LRel η (List.replicate n v) (List.replicate n v')
  | 0 => .nil
  | n + 1 => .cons h (LRel.replicate h n)

theorem VRel.cells {η : Env} {v v' : Value} (h : VRel η v v') : LRel η v.cells.toList v'.cells.toList := by
  cases h with
  | agg h => exact h
  | poison _ hv =>
    cases v' <;> first | (simp [Ev.oneCell] at hv; done) | exact .cons (.poison _ rfl) .nil
  | bool b => exact .cons (.bool b) .nil
  | int k n => exact .cons (.int k n) .nil
  | float k n => exact .cons (.float k n) .nil
  | complex k a b => exact .cons (.complex k a b) .nil
  | string s => exact .cons (.string s) .nil
  | pnil => exact .cons .pnil .nil
  | ptr h => exact .cons (.ptr h) .nil
  | snil l c => exact .cons (.snil l c) .nil
  | sex l c h => exact .cons (.sex l c h) .nil
  | slow l c c' h hc hz => exact .cons (.slow l c c' h hc hz) .nil
  | ssome o c h hz => exact .cons (.ssome o c h hz) .nil
  | mnil => exact .cons .mnil .nil
  | map h => exact .cons (.map h) .nil
  | cnil => exact .cons .cnil .nil
  | nilFunc => exact .cons .nilFunc .nil
  | func f ha hb => exact .cons (.func f ha hb) .nil
  | yield h => exact .cons (.yield h) .nil
  | iface t h => exact .cons (.iface t h) .nil
  | nilIface => exact .cons .nilIface .nil
  | tuple h => exact .cons (.tuple h) .nil

/-! ### The temporaries -/
def TRel (η : Env) (nt : Nat) (tm : T Value) (arr : Array Value) : Prop :=
  arr.size = nt ∧ ∀ t v, tm.get t = some v → ∃ v', arr[t]? = some v' ∧ VRel η v v'

theorem TRel.ext {η η' : Env} {nt : Nat} {tm : T Value} {arr : Array Value} (h : TRel η nt tm arr) (hx : Ext η η') : TRel η' nt tm arr :=
  ⟨h.1, fun t v ht => let ⟨v', a, b⟩ := h.2 t v ht; ⟨v', a, b.ext hx⟩⟩

/-! ### The heap -/
/-- A map's entry, and the machine's. -/
inductive ERel (η : Env) : List MapEntry → List MapEntry → Prop
  | nil : ERel η [] []
  | cons {e e' : MapEntry} {l l' : List MapEntry} (hk : VRel η e.key e'.key) (hv : VRel η e.val e'.val) (hb : e'.born = e.born) (t : ERel η l l') : ERel η (e :: l) (e' :: l')

theorem ERel.ext {η η' : Env} (hx : Ext η η') : ∀ {l l' : List MapEntry}, ERel η l l' → ERel η' l l'
  | _, _, .nil => .nil
  | _, _, .cons hk hv hb t => .cons (hk.ext hx) (hv.ext hx) hb (t.ext hx)

def optBlk (η : Env) : Option Nat → Option Nat → Prop
  | none, m' => m' = none
  | some r, m' => ∃ L, η r = some L ∧ m' = some L.blk

variable (P : Program)

def ObjRel (η : Env) (w : World) (L : Loc) : AObj → Prop
  | .cells vs e => ∃ (c : Array Value) (fr : Nat × Nat), w.heap[L.blk]? = some (.cells c e fr) ∧ c.size = L.size ∧
      (∀ i, i < c.size → ¬ (fr.1 ≤ i ∧ i < fr.2)) ∧ ((isU8 P e = false → fr = (0, 0)) ∧ (noTake P e = true → L.shift = 0)) ∧ L.shift + vs.length ≤ c.size ∧
      ∀ i v, vs[i]? = some v → ∃ v', c[L.shift + i]? = some v' ∧ VRel η v v'
  | .map es clock => ∃ es' : Array MapEntry, w.heap[L.blk]? = some (.map es' clock) ∧ ERel η es es'.toList
  | .siter s pos => w.heap[L.blk]? = some (.stringIter s pos) ∧ L.shift = 0
  | .miter m since seen stepped => L.shift = 0 ∧ ∃ m', w.heap[L.blk]? = some (.mapIter m' since seen.toArray stepped) ∧ optBlk η m m'
  | .loop st p tm nt ps a b d => ∃ lp : Loop, w.heap[L.blk]? = some (.loop lp) ∧ lp.state = st ∧ lp.pending = p ∧ lp.params = ps.toArray ∧ lp.assign = a ∧ lp.body = b ∧
      TRel η nt tm lp.tmps ∧ ∃ Ld, η d = some Ld ∧ lp.defers = Ld.blk
  | .defs => w.heap[L.blk]? = some (.deferred (some []))
  | .dead => True
  | .ro f => L.shift = 0 ∧ ∃ (c : Array Value) (e : TypeId) (fr : Nat × Nat), w.heap[L.blk]? = some (.cells c e fr) ∧ ∀ i v, f i = some v → ∃ v', c[i]? = some v' ∧ VRel η v v'

theorem ObjRel.ext {η η' : Env} (hx : Ext η η') {w : World} {L : Loc} : ∀ {o : AObj}, ObjRel P η w L o → ObjRel P η' w L o
  | .cells _ _, ⟨c, fr, h1, h2, h4, h5, h6, h7⟩ => ⟨c, fr, h1, h2, h4, h5, h6, fun i v hi => let ⟨v', a, b⟩ := h7 i v hi; ⟨v', a, b.ext hx⟩⟩
  | .map _ _, ⟨es', h1, h2⟩ => ⟨es', h1, h2.ext hx⟩
  | .siter _ _, h => h
  | .miter m _ _ _, ⟨h0, m', h1, h2⟩ => ⟨h0, m', h1, by
      cases m with
      | none => exact h2
      | some r => obtain ⟨L, a, b⟩ := h2; exact ⟨L, hx _ _ a, b⟩⟩
  | .loop .., ⟨lp, h1, h2, h3, h4, h5, h6, h7, Ld, h8, h9⟩ => ⟨lp, h1, h2, h3, h4, h5, h6, h7.ext hx, Ld, hx _ _ h8, h9⟩
  | .defs, h => h
  | .dead, _ => trivial
  | .ro _, ⟨h0, c, e, fr, h1, h2⟩ => ⟨h0, c, e, fr, h1, fun i v hi => let ⟨v', a, b⟩ := h2 i v hi; ⟨v', a, b.ext hx⟩⟩

/-- It hangs on the one block alone. -/
theorem ObjRel.block {η : Env} {w w' : World} {L : Loc} (hw : w'.heap[L.blk]? = w.heap[L.blk]?) : ∀ {o : AObj}, ObjRel P η w L o → ObjRel P η w' L o
  | .cells _ _, h => by simpa only [ObjRel, hw] using h
  | .map _ _, h => by simpa only [ObjRel, hw] using h
  | .siter _ _, h => by simpa only [ObjRel, hw] using h
  | .miter .., h => by simpa only [ObjRel, hw] using h
  | .loop .., h => by simpa only [ObjRel, hw] using h
  | .defs, h => by simpa only [ObjRel, hw] using h
  | .dead, _ => trivial
  | .ro _, h => by simpa only [ObjRel, hw] using h

/-- No live object. -/
def Off (o : Option AObj) : Prop := ∀ x, o = some x → x = .dead

theorem Off.none : Off none := fun _ h => by cases h
theorem Off.dead : Off (some .dead) := fun _ h => by cases h; rfl
theorem Off.cases {o : Option AObj} (h : Off o) : o = Option.none ∨ o = some .dead := by
  cases o with
  | none => exact .inl rfl
  | some x => exact .inr (by rw [h x rfl])

/-- What is told of each name describes a world. -/
structure DescO (η : Env) (ob : Nat → Option AObj) (w : World) : Prop where
  glob : ∀ g, g < P.globals.size → ∃ L, η g = some L ∧ L.blk = g ∧ L.shift = 0
  inb : ∀ n L, η n = some L → L.blk < w.heap.size
  inj : ∀ m n Lm Ln, η m = some Lm → η n = some Ln → Lm.blk = Ln.blk → m ≠ n → Off (ob m) ∨ Off (ob n)
  obj : ∀ n L o, η n = some L → ob n = some o → ObjRel P η w L o

/-- An abstract heap describes a world. -/
abbrev Desc (η : Env) (K : AHeap) (w : World) : Prop := DescO P η K.obj w

/-- The abstract heap alone: no name at or past the next one. -/
def WF (K : AHeap) : Prop := ∀ n, K.next ≤ n → K.obj n = none

/-- What a part of a run leaves of the abstract heap. -/
structure Kle (K K' : AHeap) : Prop where
  wf0 : WF K
  next : K.next ≤ K'.next
  low : K'.low ≤ K.low
  keep : ∀ n, n < K.next → n < K'.low → K'.obj n = K.obj n
  none : ∀ n, n < K.next → K.obj n = none → K'.obj n = none
  dead : ∀ n, n < K.next → K.obj n = some .dead → K'.obj n = some .dead
  wf : WF K'

theorem Kle.refl {K : AHeap} (h : WF K) : Kle K K := ⟨h, Nat.le_refl _, Nat.le_refl _, fun _ _ _ => rfl, fun _ _ h => h, fun _ _ h => h, h⟩

theorem Kle.trans {A B C : AHeap} (h : Kle A B) (k : Kle B C) : Kle A C where
  wf0 := h.wf0
  next := Nat.le_trans h.next k.next
  low := Nat.le_trans k.low h.low
  keep := fun n hn hl => by rw [k.keep n (Nat.lt_of_lt_of_le hn h.next) hl, h.keep n hn (Nat.lt_of_lt_of_le hl k.low)]
  none := fun n hn h0 => k.none n (Nat.lt_of_lt_of_le hn h.next) (h.none n hn h0)
  dead := fun n hn h0 => k.dead n (Nat.lt_of_lt_of_le hn h.next) (h.dead n hn h0)
  wf := k.wf

/-- No name that is still to come is taken. -/
def Fresh (η : Env) (K K' : AHeap) : Prop := ∀ n L, η n = some L → n < K.next ∨ K'.next ≤ n

/-- What a part of a run does, abstract heap and world. -/
structure Step (η : Env) (K : AHeap) (w : World) (η' : Env) (K' : AHeap) (w' : World) : Prop where
  ext : Ext η η'
  dom : ∀ n L, η' n = some L → η n = some L ∨ (K.next ≤ n ∧ n < K'.next)
  new : ∀ n L, η n = none → η' n = some L → w.heap.size ≤ L.blk ∨ ∃ m Lm o, η m = some Lm ∧ Lm.blk = L.blk ∧ K.obj m = some o ∧ o ≠ .dead
  desc : Desc P η' K' w'
  size : w.heap.size ≤ w'.heap.size
  frm : ∀ b, b < w.heap.size → (∀ n L, η n = some L → L.blk = b → K.obj n = none ∨ K.obj n = some .dead ∨ n < K'.low) → w'.heap[b]? = w.heap[b]?
  untouched : ∀ n, n < K.next → η n = none → K'.obj n = K.obj n
  tape : w'.tape = w.tape
  os : w'.os = w.os
  output : w'.output = w.output

theorem Step.refl {η : Env} {K : AHeap} {w : World} (h : Desc P η K w) : Step P η K w η K w where
  ext := Ext.refl η
  dom := fun _ _ h => .inl h
  new := fun n L h0 h1 => by rw [h0] at h1; cases h1
  desc := h
  size := Nat.le_refl _
  frm := fun _ _ _ => rfl
  untouched := fun _ _ _ => rfl
  tape := rfl
  os := rfl
  output := rfl

theorem Step.trans {η₀ η₁ η₂ : Env} {K₀ K₁ K₂ : AHeap} {w₀ w₁ w₂ : World} (h : Step P η₀ K₀ w₀ η₁ K₁ w₁) (k : Step P η₁ K₁ w₁ η₂ K₂ w₂)
    (l : Kle K₀ K₁) (l' : Kle K₁ K₂) (hf : Fresh η₀ K₀ K₂) : Step P η₀ K₀ w₀ η₂ K₂ w₂ where
  ext := h.ext.trans k.ext
  dom := fun n L hn => by
    rcases k.dom n L hn with h1 | ⟨h1, h2⟩
    · rcases h.dom n L h1 with h3 | ⟨h3, h4⟩
      · exact .inl h3
      · exact .inr ⟨h3, Nat.lt_of_lt_of_le h4 l'.next⟩
    · exact .inr ⟨Nat.le_trans l.next h1, h2⟩
  new := fun n L h0 h2 => by
    cases h1 : η₁ n with
    | some L1 =>
      have e := k.ext n L1 h1
      rw [h2] at e; cases e
      exact h.new n L h0 h1
    | none =>
      rcases k.new n L h1 h2 with hb | ⟨m, Lm, o, hm, hb, ho, hd⟩
      · exact .inl (Nat.le_trans h.size hb)
      · cases hm0 : η₀ m with
        | some L0 =>
          have e := h.ext m L0 hm0
          rw [hm] at e; cases e
          rcases hf m Lm hm0 with hlt | hge
          · refine .inr ⟨m, Lm, ?_⟩
            cases hk : K₀.obj m with
            | none => rw [l.none m hlt hk] at ho; cases ho
            | some o' =>
              refine ⟨o', hm0, hb, rfl, fun e => ?_⟩
              subst e
              rw [l.dead m hlt hk] at ho
              cases ho; exact hd rfl
          · have := l.wf m (Nat.le_trans l'.next hge)
            rw [this] at ho; cases ho
        | none => rw [← hb]; exact h.new m Lm hm0 hm
  desc := k.desc
  size := Nat.le_trans h.size k.size
  frm := fun b hb hn => by
    have e1 : w₁.heap[b]? = w₀.heap[b]? := h.frm b hb fun n L hL he => by
      rcases hn n L hL he with h1 | h1 | h1
      · exact .inl h1
      · exact .inr (.inl h1)
      · exact .inr (.inr (Nat.lt_of_lt_of_le h1 l'.low))
    rw [← e1]
    refine k.frm b (Nat.lt_of_lt_of_le hb h.size) fun n L hL he => ?_
    cases h0 : η₀ n with
    | some L0 =>
      have e := h.ext n L0 h0
      rw [hL] at e; cases e
      rcases hn n L h0 he with h1 | h1 | h1
      · rcases hf n L h0 with hlt | hge
        · exact .inl (l.none n hlt h1)
        · exact .inl (l.wf n (Nat.le_trans l'.next hge))
      · rcases hf n L h0 with hlt | hge
        · exact .inr (.inl (l.dead n hlt h1))
        · exact .inl (l.wf n (Nat.le_trans l'.next hge))
      · exact .inr (.inr h1)
    | none =>
      rcases h.new n L h0 hL with hbb | ⟨m, Lm, o, hm, hmb, ho, hd⟩
      · omega
      · rcases hn m Lm hm (hmb.trans he) with h1 | h1 | h1
        · rw [h1] at ho; cases ho
        · rw [h1] at ho; cases ho; exact absurd rfl hd
        · -- the block of a name that is never written: so the new name is no other name of it
          have hml : m < K₁.low := Nat.lt_of_lt_of_le h1 l'.low
          have hmn : m < K₀.next := by
            rcases hf m Lm hm with hlt | hge
            · exact hlt
            · rw [l.wf0 m (Nat.le_trans (Nat.le_trans l.next l'.next) hge)] at ho; cases ho
          have hk1 : K₁.obj m = some o := (l.keep m hmn hml).trans ho
          have hne : m ≠ n := by rintro rfl; rw [h0] at hm; cases hm
          rcases h.desc.inj m n Lm L (h.ext m Lm hm) hL (hmb.trans rfl) hne with hx | hx
          · exact absurd (hx _ hk1) hd
          · rcases hx.cases with hx | hx
            · exact .inl hx
            · exact .inr (.inl hx)
  untouched := fun n hn h0 => by
    have h1 : η₁ n = none := by
      cases h1 : η₁ n with
      | none => rfl
      | some L => rcases h.dom n L h1 with h2 | ⟨h2, _⟩
                  · rw [h0] at h2; cases h2
                  · omega
    rw [k.untouched n (Nat.lt_of_lt_of_le hn l.next) h1, h.untouched n hn h0]
  tape := k.tape.trans h.tape
  os := k.os.trans h.os
  output := k.output.trans h.output

end Go.Ev

/- The abstract heap's three moves (a new name, a written name, a name whose block another name takes over), and what they do to a world. Conditions: none. -/
set_option linter.unusedVariables false
set_option linter.unusedSimpArgs false
set_option linter.unnecessarySimpa false
namespace Go.Ev

theorem mk_spec {K K' : AHeap} {o : AObj} {n : Nat} (h : K.mk? o = some (n, K')) :
    n = K.next ∧ True ∧ K'.next = K.next + 1 ∧ K'.low = K.low ∧ (∀ m, K'.obj m = if m = K.next then some o else K.obj m) := by
  unfold AHeap.mk? at h
  cases h
  exact ⟨rfl, trivial, rfl, rfl, fun m => T.get_put' _ _ _ _⟩

theorem set_spec {K K' : AHeap} {o : AObj} {n : Nat} (h : K.set? n o = some K') :
    True ∧ K'.next = K.next ∧ K'.low = min K.low n ∧ (∀ m, K'.obj m = if m = n then some o else K.obj m) := by
  unfold AHeap.set? at h
  cases h
  exact ⟨trivial, rfl, rfl, fun m => T.get_put' _ _ _ _⟩

theorem mk_kle {K K' : AHeap} {o : AObj} {n : Nat} (h : K.mk? o = some (n, K')) (hw : WF K) : Kle K K' := by
  obtain ⟨rfl, _, hn, hl, ho⟩ := mk_spec h
  refine ⟨hw, by omega, by omega, fun m hm _ => ?_, fun m hm h0 => ?_, fun m hm h0 => ?_, fun m hm => ?_⟩
  · rw [ho, if_neg (by omega)]
  · rw [ho, if_neg (by omega), h0]
  · rw [ho, if_neg (by omega), h0]
  · rw [ho, if_neg (by omega)]; exact hw m (by omega)

theorem wf_lt {K : AHeap} (hw : WF K) {n : Nat} {o : AObj} (h : K.obj n = some o) : n < K.next := by
  by_cases hn : n < K.next
  · exact hn
  · rw [hw n (by omega)] at h; cases h

theorem set_kle {K K' : AHeap} {o old : AObj} {n : Nat} (h : K.set? n o = some K') (hw : WF K) (hn : K.obj n = some old) (hd : old ≠ .dead) : Kle K K' := by
  obtain ⟨_, hx, hl, ho⟩ := set_spec h
  have hlt := wf_lt hw hn
  refine ⟨hw, by omega, by omega, fun m hm hk => ?_, fun m hm h0 => ?_, fun m hm h0 => ?_, fun m hm => ?_⟩
  · rw [ho, if_neg (by omega)]
  · rw [ho]
    by_cases e : m = n
    · subst e; rw [hn] at h0; cases h0
    · rw [if_neg e, h0]
  · rw [ho]
    by_cases e : m = n
    · subst e; rw [hn] at h0; cases h0; exact absurd rfl hd
    · rw [if_neg e, h0]
  · rw [ho, if_neg (by omega)]; exact hw m (by omega)

def upd (η : Env) (n : Nat) (L : Loc) : Env := fun m => if m = n then some L else η m

theorem upd_same (η : Env) (n : Nat) (L : Loc) : upd η n L n = some L := by simp [upd]
theorem upd_ext {η : Env} {n : Nat} {L : Loc} (h : η n = none) : Ext η (upd η n L) := fun m L' hm => by
  have : m ≠ n := by rintro rfl; rw [h] at hm; cases hm
  simp [upd, this, hm]

variable {P : Program}

/-- A new name, for a new block at the heap's end. -/
theorem step_mk {η : Env} {K K' : AHeap} {w w' : World} {o : AObj} {n : Nat} {L : Loc} {ob : Obj} (hd : Desc P η K w) (hw : WF K) (h : K.mk? o = some (n, K')) (hf : Fresh η K K')
    (hL : L.blk = w.heap.size) (hh : w'.heap = w.heap.push ob) (ht : w'.tape = w.tape) (hos : w'.os = w.os) (hout : w'.output = w.output)
    (hr : ObjRel P (upd η n L) w' L o) : Step P η K w (upd η n L) K' w' ∧ η n = none := by
  obtain ⟨rfl, _, hn, hl, ho⟩ := mk_spec h
  have h0 : η K.next = none := by
    cases e : η K.next with
    | none => rfl
    | some L0 => rcases hf _ _ e with h1 | h1 <;> omega
  have hx : Ext η (upd η K.next L) := upd_ext h0
  have hold : ∀ b, b < w.heap.size → w'.heap[b]? = w.heap[b]? := fun b hb => by rw [hh, Array.getElem?_push_lt (by omega)]; simp [hb]
  have hsz : w'.heap.size = w.heap.size + 1 := by rw [hh]; simp
  refine ⟨⟨hx, fun m L' hm => ?_, fun m L' h1 h2 => ?_, ⟨fun g hg => ?_, fun m L' hm => ?_, fun a b La Lb ha hb he hne => ?_, fun m L' o' hm ho' => ?_⟩, by omega, fun b hb _ => hold b hb,
    fun m hm h1 => by rw [ho, if_neg (by omega)], ht, hos, hout⟩, h0⟩
  · by_cases e : m = K.next
    · exact .inr (by omega)
    · simp [upd, e] at hm; exact .inl hm
  · by_cases e : m = K.next
    · subst e; rw [upd_same] at h2; cases h2; exact .inl (by omega)
    · simp [upd, e] at h2; rw [h1] at h2; cases h2
  · obtain ⟨L0, h1, h2⟩ := hd.glob g hg; exact ⟨L0, hx _ _ h1, h2⟩
  · by_cases e : m = K.next
    · subst e; rw [upd_same] at hm; cases hm; omega
    · simp [upd, e] at hm; have := hd.inb m L' hm; omega
  · by_cases ea : a = K.next
    · by_cases eb : b = K.next
      · exact absurd (ea.trans eb.symm) hne
      · subst ea; rw [upd_same] at ha; cases ha
        simp [upd, eb] at hb
        have := hd.inb b Lb hb; omega
    · by_cases eb : b = K.next
      · subst eb; rw [upd_same] at hb; cases hb
        simp [upd, ea] at ha
        have := hd.inb a La ha; omega
      · simp [upd, ea] at ha; simp [upd, eb] at hb
        rcases hd.inj a b La Lb ha hb he hne with h1 | h1
        · exact .inl (by rw [ho, if_neg ea]; exact h1)
        · exact .inr (by rw [ho, if_neg eb]; exact h1)
  · by_cases e : m = K.next
    · subst e; rw [upd_same] at hm; cases hm
      rw [ho, if_pos rfl] at ho'; cases ho'; exact hr
    · simp [upd, e] at hm
      rw [ho, if_neg e] at ho'
      exact ((hd.obj m L' o' hm ho').ext P hx).block P (hold _ (hd.inb m L' hm))

/-- A name's object is written; no other block turns. -/
theorem step_set {η : Env} {K K' : AHeap} {w w' : World} {o old : AObj} {n : Nat} {L : Loc} (hd : Desc P η K w) (hw : WF K) (h : K.set? n o = some K')
    (hn : η n = some L) (hk : K.obj n = some old) (hnd : old ≠ .dead) (hs : w'.heap.size = w.heap.size) (hb : ∀ b, b ≠ L.blk → w'.heap[b]? = w.heap[b]?)
    (ht : w'.tape = w.tape) (hos : w'.os = w.os) (hout : w'.output = w.output) (hr : ObjRel P η w' L o) : Step P η K w η K' w' := by
  obtain ⟨_, hx, hl, ho⟩ := set_spec h
  refine ⟨Ext.refl η, fun _ _ h => .inl h, fun m L' h1 h2 => (by rw [h1] at h2; cases h2), ⟨hd.glob, fun m L' hm => by rw [hs]; exact hd.inb m L' hm, fun a b La Lb ha hb' he hne => ?_, fun m L' o' hm ho' => ?_⟩,
    by omega, fun b hbb hx' => ?_, fun m hm h1 => ?_, ht, hos, hout⟩
  · rcases hd.inj a b La Lb ha hb' he hne with h1 | h1
    · by_cases e : a = n
      · subst e; exact absurd (h1 _ hk) hnd
      · exact .inl (by rw [ho, if_neg e]; exact h1)
    · by_cases e : b = n
      · subst e; exact absurd (h1 _ hk) hnd
      · exact .inr (by rw [ho, if_neg e]; exact h1)
  · by_cases e : m = n
    · subst e; rw [hn] at hm; cases hm
      rw [ho, if_pos rfl] at ho'; cases ho'; exact hr
    · rw [ho, if_neg e] at ho'
      by_cases eb : L'.blk = L.blk
      · rcases hd.inj m n L' L hm hn eb e with h1 | h1
        · have := h1 _ ho'; subst this; trivial
        · exact absurd (h1 _ hk) hnd
      · exact (hd.obj m L' o' hm ho').block P (hb _ eb)
  · by_cases eb : b = L.blk
    · subst eb
      rcases hx' n L hn rfl with h1 | h1 | h1
      · rw [hk] at h1; cases h1
      · rw [hk] at h1; cases h1; exact absurd rfl hnd
      · omega
    · exact hb b eb
  · rw [ho, if_neg (by rintro rfl; rw [hn] at h1; cases h1)]

/-- A name dies: the world need not turn. -/
theorem step_kill {η : Env} {K K' : AHeap} {w : World} {old : AObj} {n : Nat} {L : Loc} (hd : Desc P η K w) (hw : WF K) (h : K.set? n .dead = some K')
    (hn : η n = some L) (hk : K.obj n = some old) (hnd : old ≠ .dead) : Step P η K w η K' w :=
  step_set hd hw h hn hk hnd rfl (fun _ _ => rfl) rfl rfl rfl trivial

/-- A name dies, and a new one takes its block over; no other block turns. -/
theorem step_take {η : Env} {K K1 K2 : AHeap} {w w' : World} {o old : AObj} {n n' : Nat} {L L' : Loc} (hd : Desc P η K w) (hw : WF K) (h1 : K.set? n .dead = some K1) (h2 : K1.mk? o = some (n', K2))
    (hf : Fresh η K K2) (hn : η n = some L) (hk : K.obj n = some old) (hnd : old ≠ .dead) (hL : L'.blk = L.blk) (hs : w'.heap.size = w.heap.size) (hb : ∀ b, b ≠ L.blk → w'.heap[b]? = w.heap[b]?)
    (ht : w'.tape = w.tape) (hos : w'.os = w.os) (hout : w'.output = w.output) (hr : ObjRel P (upd η n' L') w' L' o) : Step P η K w (upd η n' L') K2 w' ∧ η n' = none := by
  obtain ⟨_, hx1, hl1, ho1⟩ := set_spec h1
  obtain ⟨rfl, _, hn2, hl2, ho2⟩ := mk_spec h2
  have hlt := wf_lt hw hk
  have h0 : η K1.next = none := by
    cases e : η K1.next with
    | none => rfl
    | some L0 => rcases hf _ _ e with h1 | h1 <;> omega
  have hx : Ext η (upd η K1.next L') := upd_ext h0
  refine ⟨⟨hx, fun m Lm hm => ?_, fun m Lm e1 e2 => ?_, ⟨fun g hg => ?_, fun m Lm hm => ?_, fun a b La Lb ha hb' he hne => ?_, fun m Lm o' hm ho' => ?_⟩, by omega, fun b hbb hx' => ?_, fun m hm e1 => ?_, ht, hos, hout⟩, h0⟩
  · by_cases e : m = K1.next
    · exact .inr (by omega)
    · simp [upd, e] at hm; exact .inl hm
  · by_cases e : m = K1.next
    · subst e; rw [upd_same] at e2; cases e2; exact .inr ⟨n, L, old, hn, hL.symm, hk, hnd⟩
    · simp [upd, e] at e2; rw [e1] at e2; cases e2
  · obtain ⟨L0, e1, e2⟩ := hd.glob g hg; exact ⟨L0, hx _ _ e1, e2⟩
  · rw [hs]
    by_cases e : m = K1.next
    · subst e; rw [upd_same] at hm; cases hm; rw [hL]; exact hd.inb n L hn
    · simp [upd, e] at hm; exact hd.inb m Lm hm
  · have key : ∀ m Lm, m ≠ K1.next → η m = some Lm → Lm.blk = L.blk → Off (K2.obj m) := fun m Lm e hm hbm => by
      rw [ho2, if_neg e, ho1]
      by_cases en : m = n
      · rw [if_pos en]; exact Off.dead
      · rw [if_neg en]
        rcases hd.inj m n Lm L hm hn hbm en with h3 | h3
        · exact h3
        · exact absurd (h3 _ hk) hnd
    by_cases ea : a = K1.next
    · by_cases eb : b = K1.next
      · exact absurd (ea.trans eb.symm) hne
      · subst ea; rw [upd_same] at ha; cases ha
        simp [upd, eb] at hb'
        exact .inr (key b Lb eb hb' (by rw [← he, hL]))
    · by_cases eb : b = K1.next
      · subst eb; rw [upd_same] at hb'; cases hb'
        simp [upd, ea] at ha
        exact .inl (key a La ea ha (by rw [he, hL]))
      · simp [upd, ea] at ha; simp [upd, eb] at hb'
        rcases hd.inj a b La Lb ha hb' he hne with h3 | h3
        · refine .inl ?_; rw [ho2, if_neg ea, ho1]; split
          · exact Off.dead
          · exact h3
        · refine .inr ?_; rw [ho2, if_neg eb, ho1]; split
          · exact Off.dead
          · exact h3
  · by_cases e : m = K1.next
    · subst e; rw [upd_same] at hm; cases hm
      rw [ho2, if_pos rfl] at ho'; cases ho'; exact hr
    · simp [upd, e] at hm
      rw [ho2, if_neg e, ho1] at ho'
      by_cases en : m = n
      · rw [if_pos en] at ho'; cases ho'; trivial
      · rw [if_neg en] at ho'
        by_cases eb : Lm.blk = L.blk
        · rcases hd.inj m n Lm L hm hn eb en with h3 | h3
          · have := h3 _ ho'; subst this; trivial
          · exact absurd (h3 _ hk) hnd
        · exact ((hd.obj m Lm o' hm ho').ext P hx).block P (hb _ eb)
  · by_cases eb : b = L.blk
    · subst eb
      rcases hx' n L hn rfl with h3 | h3 | h3
      · rw [hk] at h3; cases h3
      · rw [hk] at h3; cases h3; exact absurd rfl hnd
      · omega
    · exact hb b eb
  · rw [ho2, if_neg (by omega), ho1, if_neg (by rintro rfl; rw [hn] at e1; cases e1)]

/-! ### The abstract heap's moves, made by the words of the evaluator -/
theorem cells_obj {K : AHeap} {b : Nat} {vs : List Value} (h : K.cells b = some vs) : ∃ e, K.obj b = some (.cells vs e) := by
  unfold AHeap.cells at h
  obtain ⟨o, ho, h1⟩ := bind_some.1 h
  cases o <;> simp [AObj.cs] at h1
  subst h1
  exact ⟨_, ho⟩

theorem write_kle {K K' : AHeap} {b off : Nat} {xs : List Value} (h : K.write b off xs = some K') (hw : WF K) : Kle K K' := by
  unfold AHeap.write at h
  obtain ⟨o, ho, h1⟩ := bind_some.1 h
  cases o <;> simp only [AHeap.writeTo] at h1 <;> try (cases h1; done)
  obtain ⟨vs', _, h2⟩ := bind_some.1 h1
  exact set_kle h2 hw ho (by simp)

end Go.Ev

/- What each part of the evaluator leaves of the abstract heap alone. Conditions: none. -/
set_option linter.unusedVariables false
set_option linter.unusedSimpArgs false
set_option linter.unnecessarySimpa false
namespace Go.Ev
variable {P : Program}

theorem putEnts_kle {K K' : AHeap} {r clock : Nat} {es es0 : List MapEntry} {c0 : Nat} (h : putEnts K r clock es = some K') (hw : WF K) (he : K.entries r = some (es0, c0)) : Kle K K' := by
  unfold AHeap.entries at he
  obtain ⟨o, ho, h1⟩ := bind_some.1 he
  cases o <;> simp [AObj.entries] at h1
  exact set_kle h hw ho (by simp)

theorem aNewVar_kle {K K' : AHeap} {t : TypeId} {v r : Value} (h : aNewVar K t v = some (r, K')) (hw : WF K) : Kle K K' := by
  unfold aNewVar at h
  obtain ⟨p, hp, h1⟩ := map_some.1 h
  cases p; simp [ptrTo] at h1
  obtain ⟨_, rfl⟩ := h1
  exact mk_kle hp hw

theorem aMapUpdate_kle {K K' : AHeap} {t : TypeId} {m k v : Value} (h : aMapUpdate P K t m k v = some K') (hw : WF K) : Kle K K' := by
  unfold aMapUpdate at h
  obtain ⟨ke, _, h⟩ := bind_some.1 h
  obtain ⟨r, _, h⟩ := bind_some.1 h
  obtain ⟨⟨es, c⟩, hec, h⟩ := bind_some.1 h
  obtain ⟨_, _, h⟩ := bind_some.1 h
  obtain ⟨f, _, h⟩ := bind_some.1 h
  cases f with
  | none => exact putEnts_kle h hw hec
  | some p =>
    simp only [putE] at h
    obtain ⟨e, _, h⟩ := bind_some.1 h
    exact putEnts_kle (guardO_some.1 h).2 hw hec

theorem aDelete_kle {K K' : AHeap} {t : TypeId} {m k : Value} (h : aDelete P K t m k = some K') (hw : WF K) : Kle K K' := by
  unfold aDelete at h
  obtain ⟨ke, _, h⟩ := bind_some.1 h
  obtain ⟨r, _, h⟩ := bind_some.1 h
  obtain ⟨⟨es, c⟩, hec, h⟩ := bind_some.1 h
  obtain ⟨_, _, h⟩ := bind_some.1 h
  obtain ⟨f, _, h⟩ := bind_some.1 h
  exact putEnts_kle h hw hec

theorem slcOf_kle {K K' : AHeap} {o : AObj} {q n : Nat} {v : Value} (h : (K.mk? o).map (slcOf q n) = some (v, K')) (hw : WF K) : Kle K K' := by
  obtain ⟨p, hp, h1⟩ := map_some.1 h
  cases p; simp [slcOf] at h1
  obtain ⟨_, rfl⟩ := h1
  exact mk_kle hp hw

theorem slcEx_kle {K K' : AHeap} {o : AObj} {l c : Nat} {v : Value} (h : (K.mk? o).map (slcEx l c) = some (v, K')) (hw : WF K) : Kle K K' := by
  obtain ⟨p, hp, h1⟩ := map_some.1 h
  cases p; simp [slcEx] at h1
  obtain ⟨_, rfl⟩ := h1
  exact mk_kle hp hw

theorem ptrTo_kle {K K' : AHeap} {o : AObj} {v : Value} (h : (K.mk? o).map ptrTo = some (v, K')) (hw : WF K) : Kle K K' := by
  obtain ⟨p, hp, h1⟩ := map_some.1 h
  cases p; simp [ptrTo] at h1
  obtain ⟨_, rfl⟩ := h1
  exact mk_kle hp hw

theorem elem_obj {K : AHeap} {b : Nat} {e : TypeId} (h : (K.obj b).bind AObj.elem = some e) : ∃ vs, K.obj b = some (.cells vs e) := by
  obtain ⟨o, ho, h1⟩ := bind_some.1 h
  cases o <;> simp [AObj.elem] at h1
  subst h1
  exact ⟨_, ho⟩

theorem appendAt_kle {K K' : AHeap} {elem : TypeId} {size len cap need : Nat} {xs : List Value} {a : Option Addr} {v : Value}
    (h : appendAt K elem size len cap need xs a = some (v, K')) (hw : WF K) : Kle K K' := by
  cases a with
  | none =>
    simp only [appendAt] at h
    split at h
    · obtain ⟨_, h⟩ := guardO_some.1 h; cases h; exact Kle.refl hw
    · exact slcOf_kle (guardO_some.1 h).2 hw
  | some a =>
    simp only [appendAt] at h
    split at h
    · obtain ⟨K1, h1, h2⟩ := map_some.1 h; cases h2; exact write_kle h1 hw
    · obtain ⟨he, h⟩ := guardO_some.1 h
      obtain ⟨old, _, h⟩ := bind_some.1 h
      cases hs : a.spot with
      | none => rw [hs] at h; exact slcOf_kle h hw
      | some s =>
        rw [hs] at h
        obtain ⟨_, h⟩ := guardO_some.1 h
        obtain ⟨K1, h1, h⟩ := bind_some.1 h
        obtain ⟨vs, ho⟩ := elem_obj (of_decide_eq_true he)
        have k1 := set_kle h1 hw ho (by simp)
        exact k1.trans (slcOf_kle h k1.wf)

theorem append2_kle {K K' : AHeap} {elem : TypeId} {size bytes n : Nat} {xs : List Value} {s v : Value}
    (h : append2 K elem size bytes n xs s = some (v, K')) (hw : WF K) : Kle K K' := by
  cases s <;> simp only [append2] at h <;> try (cases h; done)
  exact appendAt_kle (guardO_some.1 h).2 hw

theorem aAppend_kle {K K' : AHeap} {ts : List TypeId} {args : List Value} {v : Value} (h : aAppend P K ts args = some (v, K')) (hw : WF K) : Kle K K' := by
  unfold aAppend at h
  split at h
  · obtain ⟨elem, _, h⟩ := bind_some.1 h
    obtain ⟨size, _, h⟩ := bind_some.1 h
    obtain ⟨bytes, _, h⟩ := bind_some.1 h
    obtain ⟨z, _, h⟩ := bind_some.1 h
    split at h
    · obtain ⟨n, _, h⟩ := bind_some.1 h; exact append2_kle h hw
    · obtain ⟨n, _, h⟩ := bind_some.1 h
      obtain ⟨xs, _, h⟩ := bind_some.1 h
      exact append2_kle h hw
    · cases h
  · cases h

theorem copyTo_kle {K K' : AHeap} {a : Option Addr} {n : Nat} {xs : List Value} {v : Value} (h : copyTo K a n xs = some (v, K')) (hw : WF K) : Kle K K' := by
  cases a with
  | none => cases h; exact Kle.refl hw
  | some a => obtain ⟨K1, h1, h2⟩ := map_some.1 h; cases h2; exact write_kle h1 hw

theorem aCopy_kle {K K' : AHeap} {t : TypeId} {d s v : Value} (h : aCopy P K t d s = some (v, K')) (hw : WF K) : Kle K K' := by
  unfold aCopy at h
  obtain ⟨_, _, h⟩ := bind_some.1 h
  obtain ⟨_, _, h⟩ := bind_some.1 h
  obtain ⟨_, _, h⟩ := bind_some.1 h
  obtain ⟨_, _, h⟩ := bind_some.1 h
  unfold copyN at h
  obtain ⟨_, _, h⟩ := bind_some.1 h
  exact copyTo_kle (guardO_some.1 h).2 hw

theorem aClear_kle {K K' : AHeap} {t : TypeId} {x : Value} (h : aClear P K t x = some K') (hw : WF K) : Kle K K' := by
  unfold aClear at h
  obtain ⟨_, _, h⟩ := bind_some.1 h
  obtain ⟨_, _, h⟩ := bind_some.1 h
  obtain ⟨⟨a, n⟩, _, h⟩ := bind_some.1 h
  cases a with
  | none => cases h; exact Kle.refl hw
  | some a => exact write_kle h hw

theorem live_obj {K : AHeap} {b : Nat} {e : TypeId} (h : liveElem K b = some e) : ∃ vs, K.obj b = some (.cells vs e) := elem_obj h

theorem strFrom_kle {K K' : AHeap} {p : Option Addr} {n : Nat} {v : Value} (h : strFrom P K p n = some (v, K')) (hw : WF K) : Kle K K' := by
  cases n with
  | zero => cases h; exact Kle.refl hw
  | succ n =>
    simp only [strFrom] at h
    obtain ⟨a, _, h⟩ := bind_some.1 h
    unfold strAt at h
    obtain ⟨e, he, h⟩ := bind_some.1 h
    obtain ⟨_, h⟩ := guardO_some.1 h
    obtain ⟨l, _, h⟩ := bind_some.1 h
    obtain ⟨bs, _, h⟩ := bind_some.1 h
    obtain ⟨K1, h1, h⟩ := map_some.1 h
    cases h
    obtain ⟨vs, ho⟩ := live_obj he
    exact set_kle h1 hw ho (by simp)

theorem same_kle {α : Type} {K K' : AHeap} {o : Option α} {f : α → Value} {v : Value} (h : o.map (fun x => (f x, K)) = some (v, K')) (hw : WF K) : Kle K K' := by
  obtain ⟨x, _, h⟩ := map_some.1 h
  cases h
  exact Kle.refl hw

theorem aBuiltin_kle {K K' : AHeap} {b : Builtin} {ts : List TypeId} {xs : List Value} {v : Value} (h : aBuiltin P b K ts xs = some (v, K')) (hw : WF K) : Kle K K' := by
  cases b <;> simp only [aBuiltin] at h <;> try (cases h; done)
  case append => exact aAppend_kle h hw
  case cap =>
    obtain ⟨t, _, h⟩ := bind_some.1 h
    obtain ⟨x, _, h⟩ := bind_some.1 h
    exact same_kle (f := id) h hw
  case len =>
    obtain ⟨t, _, h⟩ := bind_some.1 h
    obtain ⟨x, _, h⟩ := bind_some.1 h
    exact same_kle (f := id) h hw
  case clear =>
    obtain ⟨t, _, h⟩ := bind_some.1 h
    obtain ⟨x, _, h⟩ := bind_some.1 h
    obtain ⟨K1, h1, h⟩ := map_some.1 h
    cases h; exact aClear_kle h1 hw
  case copy =>
    obtain ⟨t, _, h⟩ := bind_some.1 h
    split at h
    · exact aCopy_kle h hw
    · cases h
  case delete =>
    obtain ⟨t, _, h⟩ := bind_some.1 h
    split at h
    · obtain ⟨K1, h1, h⟩ := map_some.1 h
      cases h; exact aDelete_kle h1 hw
    · cases h
  case max =>
    obtain ⟨_, h⟩ := guardO_some.1 h
    obtain ⟨_, _, h⟩ := bind_some.1 h
    obtain ⟨_, h⟩ := guardO_some.1 h
    cases h; exact Kle.refl hw
  case min =>
    obtain ⟨_, h⟩ := guardO_some.1 h
    obtain ⟨_, _, h⟩ := bind_some.1 h
    obtain ⟨_, h⟩ := guardO_some.1 h
    cases h; exact Kle.refl hw
  case unsafeSliceData =>
    split at h
    · exact same_kle (f := id) h hw
    · cases h
  case unsafeString =>
    split at h
    · obtain ⟨_, h⟩ := guardO_some.1 h
      obtain ⟨_, _, h⟩ := bind_some.1 h
      obtain ⟨_, _, h⟩ := bind_some.1 h
      exact strFrom_kle h hw
    · cases h

theorem aConvert_kle {K K' : AHeap} {x v : Value} {s d : TypeId} (h : aConvert P x K s d = some (v, K')) (hw : WF K) : Kle K K' := by
  unfold aConvert at h
  split at h
  · obtain ⟨_, h⟩ := guardO_some.1 h
    obtain ⟨_, _, h⟩ := bind_some.1 h
    exact same_kle (f := id) h hw
  · obtain ⟨_, h⟩ := guardO_some.1 h
    obtain ⟨dd, _, h⟩ := bind_some.1 h
    cases dd <;> simp only [convStrTo] at h <;> try (cases h; done)
    · cases h; exact Kle.refl hw
    · exact slcOf_kle (guardO_some.1 h).2 hw
  · obtain ⟨dd, _, h⟩ := bind_some.1 h
    unfold convSlice at h
    obtain ⟨_, h⟩ := guardO_some.1 h
    obtain ⟨_, _, h⟩ := bind_some.1 h
    obtain ⟨_, h⟩ := guardO_some.1 h
    obtain ⟨_, _, h⟩ := bind_some.1 h
    exact same_kle h hw
  · exact same_kle (f := id) h hw
  · cases h

theorem nextOf_kle {K K' : AHeap} {o : AObj} {r : Nat} {b : Bool} {v : Value} (h : nextOf o K r b = some (v, K')) (hw : WF K) (ho : K.obj r = some o) : Kle K K' := by
  unfold nextOf at h
  split at h
  · obtain ⟨_, h⟩ := guardO_some.1 h
    split at h
    · unfold nextStr at h
      obtain ⟨K1, h1, h⟩ := map_some.1 h
      cases h; exact set_kle h1 hw ho (by simp)
    · cases h; exact Kle.refl hw
  · obtain ⟨_, h⟩ := guardO_some.1 h; cases h; exact Kle.refl hw
  · obtain ⟨_, h⟩ := guardO_some.1 h
    obtain ⟨ec, _, h⟩ := bind_some.1 h
    unfold nextMap at h
    split at h
    · cases h
    · split at h
      · cases h; exact Kle.refl hw
      · obtain ⟨_, h⟩ := guardO_some.1 h
        obtain ⟨K1, h1, h⟩ := map_some.1 h
        cases h; exact set_kle h1 hw ho (by simp)
      · cases h
  · cases h

theorem withK_kle {α : Type} {K K' : AHeap} {o : Option α} {f : α → Value} {r : ARes} (h : o.map (fun x => withK K (f x)) = some (r, K')) (hw : WF K) : Kle K K' := by
  obtain ⟨x, _, h⟩ := map_some.1 h
  cases h
  exact Kle.refl hw

theorem asRes_some {o : Option (Value × AHeap)} {r : ARes} {K' : AHeap} (h : o.map asRes = some (r, K')) : ∃ v, o = some (v, K') ∧ r = .val v := by
  obtain ⟨⟨v, K1⟩, h1, h2⟩ := map_some.1 h
  cases h2
  exact ⟨v, h1, rfl⟩

theorem withK_some {K K' : AHeap} {o : Option Value} {r : ARes} (h : o.map (withK K) = some (r, K')) : ∃ v, o = some v ∧ r = .val v ∧ K' = K := by
  obtain ⟨v, h1, h2⟩ := map_some.1 h
  cases h2
  exact ⟨v, h1, rfl, rfl⟩

theorem skipK_some {K' : AHeap} {o : Option AHeap} {r : ARes} (h : o.map skipK = some (r, K')) : o = some K' ∧ r = .val undefV := by
  obtain ⟨v, h1, h2⟩ := map_some.1 h
  cases h2
  exact ⟨h1, rfl⟩

theorem evCallee_kle {K K' : AHeap} {c : Callee} {tm : T Value} {ts : List TypeId} {args : List Value} {r : ARes} (h : evCallee P c tm K ts args = some (r, K')) (hw : WF K) : Kle K K' := by
  cases c <;> simp only [evCallee] at h
  · obtain ⟨_, _, h⟩ := bind_some.1 h
    obtain ⟨_, _, h⟩ := map_some.1 h
    cases h; exact Kle.refl hw
  · obtain ⟨_, _, h⟩ := bind_some.1 h
    obtain ⟨_, _, h⟩ := map_some.1 h
    cases h; exact Kle.refl hw
  · obtain ⟨v, h', rfl⟩ := asRes_some h; replace h := h'
    exact aBuiltin_kle h hw

theorem evOp_kle {K K' : AHeap} {op : Op} {tm : T Value} {r : ARes} (h : evOp P op tm K = some (r, K')) (hw : WF K) : Kle K K' := by
  cases op <;> simp only [evOp] at h <;> try (cases h; done)
  case move x => obtain ⟨v, _, _, rfl⟩ := withK_some h; exact Kle.refl hw
  case assign x => obtain ⟨v, _, _, rfl⟩ := withK_some h; exact Kle.refl hw
  case pick a b c =>
    obtain ⟨_, _, h⟩ := bind_some.1 h
    obtain ⟨_, _, h⟩ := bind_some.1 h
    obtain ⟨_, _, h⟩ := map_some.1 h
    cases h; exact Kle.refl hw
  case alloc t =>
    obtain ⟨_, _, h⟩ := bind_some.1 h
    obtain ⟨v, h', rfl⟩ := asRes_some h; replace h := h'
    exact aNewVar_kle h hw
  case box t x =>
    obtain ⟨_, _, h⟩ := bind_some.1 h
    obtain ⟨v, h', rfl⟩ := asRes_some h; replace h := h'
    exact aNewVar_kle h hw
  case build t ps =>
    obtain ⟨_, _, h⟩ := bind_some.1 h
    obtain ⟨v, _, _, rfl⟩ := withK_some h; exact Kle.refl hw
  case buildSlice t len ps =>
    obtain ⟨_, _, h⟩ := bind_some.1 h
    obtain ⟨v, h', rfl⟩ := asRes_some h; replace h := h'
    unfold aBuildSlice at h
    obtain ⟨_, _, h⟩ := bind_some.1 h
    obtain ⟨_, _, h⟩ := bind_some.1 h
    obtain ⟨_, h⟩ := guardO_some.1 h
    obtain ⟨_, _, h⟩ := bind_some.1 h
    obtain ⟨_, _, h⟩ := bind_some.1 h
    exact slcEx_kle h hw
  case insert t m k v =>
    obtain ⟨_, _, h⟩ := bind_some.1 h
    obtain ⟨_, _, h⟩ := bind_some.1 h
    obtain ⟨_, _, h⟩ := bind_some.1 h
    exact aMapUpdate_kle (skipK_some h).1 hw
  case load t x =>
    obtain ⟨_, _, h⟩ := bind_some.1 h
    obtain ⟨v, _, _, rfl⟩ := withK_some h; exact Kle.refl hw
  case store t x v =>
    obtain ⟨_, _, h⟩ := bind_some.1 h
    obtain ⟨_, _, h⟩ := bind_some.1 h
    obtain ⟨_, h⟩ := guardO_some.1 h
    exact write_kle (skipK_some h).1 hw
  case nilCheck x =>
    obtain ⟨_, _, h⟩ := bind_some.1 h
    obtain ⟨_, h⟩ := guardO_some.1 h
    cases h; exact Kle.refl hw
  case binOp o t x y t2 =>
    obtain ⟨_, _, h⟩ := bind_some.1 h
    obtain ⟨_, _, h⟩ := bind_some.1 h
    obtain ⟨v, _, _, rfl⟩ := withK_some h; exact Kle.refl hw
  case unOp o t x =>
    obtain ⟨_, _, h⟩ := bind_some.1 h
    obtain ⟨_, h⟩ := guardO_some.1 h
    obtain ⟨_, _, h⟩ := bind_some.1 h
    obtain ⟨_, h⟩ := guardO_some.1 h
    cases h; exact Kle.refl hw
  case convert s d x =>
    obtain ⟨_, _, h⟩ := bind_some.1 h
    obtain ⟨v, h', rfl⟩ := asRes_some h; replace h := h'
    exact aConvert_kle h hw
  case makeInterface t x =>
    obtain ⟨_, _, h⟩ := bind_some.1 h
    obtain ⟨_, h⟩ := guardO_some.1 h
    cases h; exact Kle.refl hw
  case makeFunc fn a b =>
    obtain ⟨_, h⟩ := guardO_some.1 h
    obtain ⟨_, _, h⟩ := bind_some.1 h
    obtain ⟨_, _, h⟩ := map_some.1 h
    cases h; exact Kle.refl hw
  case makeMap t r =>
    obtain ⟨_, _, h⟩ := bind_some.1 h
    obtain ⟨_, h⟩ := guardO_some.1 h
    obtain ⟨⟨n, K1⟩, h1, h⟩ := map_some.1 h
    cases h; exact mk_kle h1 hw
  case makeSlice t l c =>
    obtain ⟨_, _, h⟩ := bind_some.1 h
    obtain ⟨_, _, h⟩ := bind_some.1 h
    obtain ⟨v, h', rfl⟩ := asRes_some h; replace h := h'
    unfold aMakeSlice at h
    obtain ⟨_, _, h⟩ := bind_some.1 h
    obtain ⟨_, _, h⟩ := bind_some.1 h
    obtain ⟨_, _, h⟩ := bind_some.1 h
    obtain ⟨_, _, h⟩ := bind_some.1 h
    obtain ⟨_, h⟩ := guardO_some.1 h
    obtain ⟨_, _, h⟩ := bind_some.1 h
    exact slcEx_kle h hw
  case slice t x lo hi mx =>
    obtain ⟨_, _, h⟩ := bind_some.1 h
    obtain ⟨_, _, h⟩ := bind_some.1 h
    obtain ⟨_, _, h⟩ := bind_some.1 h
    obtain ⟨_, _, h⟩ := bind_some.1 h
    obtain ⟨v, _, _, rfl⟩ := withK_some h; exact Kle.refl hw
  case fieldAddr s x f =>
    obtain ⟨_, _, h⟩ := bind_some.1 h
    obtain ⟨v, _, _, rfl⟩ := withK_some h; exact Kle.refl hw
  case field t x f =>
    obtain ⟨_, _, h⟩ := bind_some.1 h
    obtain ⟨v, _, _, rfl⟩ := withK_some h; exact Kle.refl hw
  case indexAddr t x i =>
    obtain ⟨_, _, h⟩ := bind_some.1 h
    obtain ⟨_, _, h⟩ := bind_some.1 h
    obtain ⟨v, _, _, rfl⟩ := withK_some h; exact Kle.refl hw
  case index t x i =>
    obtain ⟨_, _, h⟩ := bind_some.1 h
    obtain ⟨_, _, h⟩ := bind_some.1 h
    obtain ⟨v, _, _, rfl⟩ := withK_some h; exact Kle.refl hw
  case lookup t x i ok =>
    obtain ⟨_, _, h⟩ := bind_some.1 h
    obtain ⟨_, _, h⟩ := bind_some.1 h
    obtain ⟨v, _, _, rfl⟩ := withK_some h; exact Kle.refl hw
  case mapUpdate t m k v =>
    obtain ⟨_, _, h⟩ := bind_some.1 h
    obtain ⟨_, _, h⟩ := bind_some.1 h
    obtain ⟨_, _, h⟩ := bind_some.1 h
    exact aMapUpdate_kle (skipK_some h).1 hw
  case range t x =>
    obtain ⟨_, _, h⟩ := bind_some.1 h
    obtain ⟨v, h', rfl⟩ := asRes_some h; replace h := h'
    unfold aRange at h
    obtain ⟨_, _, h⟩ := bind_some.1 h
    obtain ⟨_, _, h⟩ := bind_some.1 h
    exact ptrTo_kle h hw
  case next it b =>
    obtain ⟨_, _, h⟩ := bind_some.1 h
    obtain ⟨v, h', rfl⟩ := asRes_some h; replace h := h'
    unfold aNext at h
    obtain ⟨a, _, h⟩ := bind_some.1 h
    obtain ⟨_, h⟩ := guardO_some.1 h
    obtain ⟨o, ho, h⟩ := bind_some.1 h
    exact nextOf_kle h hw ho
  case entry it =>
    obtain ⟨_, _, h⟩ := bind_some.1 h
    obtain ⟨v, _, _, rfl⟩ := withK_some h; exact Kle.refl hw
  case typeAssert x t a ok =>
    obtain ⟨_, _, h⟩ := bind_some.1 h
    obtain ⟨_, h⟩ := guardO_some.1 h
    obtain ⟨v, _, _, rfl⟩ := withK_some h; exact Kle.refl hw
  case extract x ix =>
    obtain ⟨v, _, h⟩ := bind_some.1 h
    split at h
    · obtain ⟨v, _, _, rfl⟩ := withK_some h; exact Kle.refl hw
    · cases h
  case call c =>
    obtain ⟨args, _, h⟩ := bind_some.1 h
    exact evCallee_kle h hw

/-! ### Code -/
variable {X : Xt}

def XKle (X : Xt) : Prop := ∀ f args K v K', X f args K = some (v, K') → WF K → Kle K K'
def IhKle (ih : Ih) : Prop := ∀ rnd nt c s e s', ih rnd nt c s = some (e, s') → WF s.K → Kle s.K s'.K

theorem shut_kle : ∀ {l : List Nat} {K K' : AHeap}, shut l K = some K' → WF K → Kle K K'
  | [], K, K', h, hw => by cases h; exact Kle.refl hw
  | n :: l, K, K', h, hw => by
    simp only [shut] at h
    obtain ⟨o, ho, h⟩ := bind_some.1 h
    obtain ⟨hd, h⟩ := guardO_some.1 h
    obtain ⟨K1, h1, h⟩ := bind_some.1 h
    have k1 := set_kle h1 hw ho (by rintro rfl; simp [isDefs] at hd)
    exact k1.trans (shut_kle h k1.wf)

theorem evCall_kle {ih : Ih} (hX : XKle X) (hih : IhKle ih) {f : FuncId} {args : List Value} {K K' : AHeap} {v : Value}
    (h : evCall P X ih f args K = some (v, K')) (hw : WF K) : Kle K K' := by
  unfold evCall at h
  obtain ⟨fn, _, h⟩ := bind_some.1 h
  unfold evFunc at h
  split at h
  · exact hX _ _ _ _ _ h hw
  split at h
  · rename_i hx
    cases h
    exact hX _ _ _ _ _ hx hw
  · unfold evBody at h
    obtain ⟨_, h⟩ := guardO_some.1 h
    obtain ⟨⟨e, s⟩, h1, h⟩ := bind_some.1 h
    have k1 := hih _ _ _ _ _ _ h1 hw
    have key : closeCall P fn s = some (v, K') → Kle K K' := fun h => by
      unfold closeCall at h
      obtain ⟨K2, h2, h⟩ := bind_some.1 h
      obtain ⟨vs, _, h⟩ := bind_some.1 h
      cases h
      exact k1.trans (shut_kle h2 k1.wf)
    cases e <;> simp only [leave] at h
    · exact key h
    · cases h
    · exact key h

theorem lp_obj {K : AHeap} {l : Nat} {r : LoopState × Option Code × Lp} (h : K.lp l = some r) : K.obj l = some (r.2.2.obj r.1 r.2.1) := by
  unfold AHeap.lp at h
  obtain ⟨o, ho, h1⟩ := bind_some.1 h
  cases o <;> simp [AObj.lp] at h1
  subst h1
  exact ho

theorem lp_ne_dead (L : Lp) (s : LoopState) (p : Option Code) : L.obj s p ≠ .dead := by simp [Lp.obj]

theorem evRound_kle {ih : Ih} (hih : IhKle ih) {l : Nat} {args : List Value} {K K' : AHeap} {v : Value}
    (h : evRound ih l args K = some (v, K')) (hw : WF K) : Kle K K' := by
  unfold evRound at h
  obtain ⟨r, hr, h⟩ := bind_some.1 h
  obtain ⟨_, h⟩ := guardO_some.1 h
  obtain ⟨tm, _, h⟩ := bind_some.1 h
  obtain ⟨⟨e, s⟩, h1, h⟩ := bind_some.1 h
  have k1 := hih _ _ _ _ _ _ h1 hw
  cases e <;> simp only [roundBody] at h <;> try (cases h; done)
  obtain ⟨r2, hr2, h⟩ := bind_some.1 h
  obtain ⟨hs, h⟩ := guardO_some.1 h
  obtain ⟨K2, h2, h⟩ := bind_some.1 h
  have k2 := set_kle h2 k1.wf (lp_obj hr2) (lp_ne_dead _ _ _)
  obtain ⟨⟨e2, s2⟩, h3, h⟩ := bind_some.1 h
  have k3 := hih _ _ _ _ _ _ h3 k2.wf
  unfold roundEnd at h
  obtain ⟨r3, hr3, h⟩ := bind_some.1 h
  obtain ⟨hs, h⟩ := guardO_some.1 h
  have k123 := k1.trans (k2.trans k3)
  cases e2 <;> simp only [endRound] at h <;> obtain ⟨K4, h4, h⟩ := map_some.1 h <;> cases h <;> exact k123.trans (set_kle h4 k3.wf (lp_obj hr3) (lp_ne_dead _ _ _))

theorem evOper_kle {ih : Ih} (hX : XKle X) (hih : IhKle ih) {tm : T Value} {K K' : AHeap} {o : Op} {v : Value}
    (h : evOper P X ih tm K o = some (v, K')) (hw : WF K) : Kle K K' := by
  unfold evOper at h
  obtain ⟨⟨r, K1⟩, h1, h⟩ := bind_some.1 h
  have k1 := evOp_kle h1 hw
  cases r <;> simp only [evRes] at h
  · cases h; exact k1
  · exact k1.trans (evCall_kle hX hih h k1.wf)
  · exact k1.trans (evRound_kle hih h k1.wf)

/-- Run clean: no name that was there is turned. -/
theorem evOper1_kle {ih : Ih} (hX : XKle X) (hih : IhKle ih) {tm : T Value} {K K' : AHeap} {o : POp} {v : Value}
    (h : evOper1 P X ih tm K o = some (v, K')) (hw : WF K) : Kle K K' ∧ (o.clean = true → ∀ n, n < K.next → K'.obj n = K.obj n) := by
  unfold evOper1 at h
  split at h
  · rename_i hc; exact ⟨evOper_kle hX hih h hw, fun h => by rw [hc] at h; cases h⟩
  · obtain ⟨⟨u, K1⟩, h1, h⟩ := bind_some.1 h
    have k1 := evOper_kle hX hih h1 (K := { t := K.t, next := K.next, low := K.next }) hw
    unfold cleanly at h
    obtain ⟨hl, h⟩ := guardO_some.1 h
    have hle : K.next ≤ K1.low := Nat.le_of_ble_eq_true hl
    cases h
    have hk : ∀ n, n < K.next → K1.obj n = K.obj n := fun n hn => k1.keep n hn (Nat.lt_of_lt_of_le hn hle)
    exact ⟨⟨hw, k1.next, Nat.min_le_left _ _, fun n hn _ => hk n hn, fun n hn h0 => (hk n hn).trans h0, fun n hn h0 => (hk n hn).trans h0, k1.wf⟩, fun _ => hk⟩

theorem evPOp_kle {ih : Ih} (hX : XKle X) (hih : IhKle ih) {tm : T Value} {K K' : AHeap} {o : POp} {v : Value}
    (h : evPOp P X ih tm K o = some (v, K')) (hw : WF K) : Kle K K' := by
  unfold evPOp at h
  obtain ⟨b, _, h⟩ := bind_some.1 h
  split at h
  · exact (evOper1_kle hX hih h hw).1
  · cases h; exact Kle.refl hw

theorem evOps_kle {ih : Ih} (hX : XKle X) (hih : IhKle ih) {nt : Nat} : ∀ {ps : List POp} {tm tm' : T Value} {K K' : AHeap},
    evOps P X ih nt ps tm K = some (tm', K') → WF K → Kle K K'
  | [], _, _, _, _, h, hw => by cases h; exact Kle.refl hw
  | o :: ps, tm, tm', K, K', h, hw => by
    simp only [evOps] at h
    obtain ⟨⟨v, K1⟩, h1, h⟩ := bind_some.1 h
    obtain ⟨tm1, _, h⟩ := bind_some.1 h
    have k1 := evPOp_kle hX hih h1 hw
    exact k1.trans (evOps_kle hX hih h k1.wf)

theorem evCode_kle {ih : Ih} (hX : XKle X) (hih : IhKle ih) {rnd : Option Nat} {nt : Nat} : ∀ (c : Code) (s : St) (e : AExit) (s' : St),
    evCode P X ih rnd nt c s = some (e, s') → WF s.K → Kle s.K s'.K := by
  intro c
  induction c with
  | skip => intro s e s' h hw; cases h; exact Kle.refl hw
  | label l => intro s e s' h hw; cases h; exact Kle.refl hw
  | exit id => intro s e s' h hw; cases h; exact Kle.refl hw
  | ret => intro s e s' h hw; cases h; exact Kle.refl hw
  | goto l => intro s e s' h hw; cases h
  | refuse w => intro s e s' h hw; cases h
  | scope b ih1 => intro s e s' h hw; exact ih1 _ _ _ h hw
  | region id ops draw =>
    intro s e s' h hw
    simp only [evCode] at h
    unfold evRegion at h
    obtain ⟨ps, _, h⟩ := bind_some.1 h
    obtain ⟨⟨tm, K⟩, h1, h⟩ := map_some.1 h
    cases h
    exact evOps_kle hX hih h1 hw
  | seq a b iha ihb =>
    intro s e s' h hw
    simp only [evCode] at h
    obtain ⟨⟨e1, s1⟩, h1, h⟩ := bind_some.1 h
    have k1 := iha _ _ _ h1 hw
    cases e1 <;> simp only [andThen] at h
    · exact k1.trans (ihb _ _ _ h k1.wf)
    · cases h; exact k1
    · cases h; exact k1
  | cond c a b iha ihb =>
    intro s e s' h hw
    simp only [evCode] at h
    obtain ⟨t, _, h⟩ := bind_some.1 h
    cases t
    · exact ihb _ _ _ h hw
    · exact iha _ _ _ h hw
  | block id b ihb =>
    intro s e s' h hw
    simp only [evCode] at h
    obtain ⟨⟨e1, s1⟩, h1, h⟩ := map_some.1 h
    have k1 := ihb _ _ _ h1 hw
    cases e1 <;> simp only [blockExit] at h
    · cases h; exact k1
    · split at h <;> (cases h; exact k1)
    · cases h; exact k1
  | loop b ihb =>
    intro s e s' h hw
    simp only [evCode] at h
    obtain ⟨⟨e1, s1⟩, h1, h⟩ := bind_some.1 h
    have k1 := ihb _ _ _ h1 hw
    cases e1 <;> simp only [andThen] at h
    · exact k1.trans (hih _ _ _ _ _ _ h k1.wf)
    · cases h; exact k1
    · cases h; exact k1
  | rangeFunc f ps a b _ _ =>
    intro s e s' h hw
    simp only [evCode] at h
    unfold evRange at h
    obtain ⟨⟨df, K1, marks⟩, h1, h⟩ := bind_some.1 h
    have k1 : Kle s.K K1 := by
      cases rnd with
      | none =>
        simp only [rangeDefers] at h1
        obtain ⟨⟨n, K2⟩, h2, h3⟩ := map_some.1 h1
        cases h3; exact mk_kle h2 hw
      | some l =>
        simp only [rangeDefers] at h1
        obtain ⟨r, _, h3⟩ := map_some.1 h1
        cases h3; exact Kle.refl hw
    obtain ⟨⟨l, K2⟩, h2, h⟩ := bind_some.1 h
    have k2 := k1.trans (mk_kle h2 k1.wf)
    obtain ⟨c, _, h⟩ := bind_some.1 h
    obtain ⟨_, h⟩ := guardO_some.1 h
    obtain ⟨⟨v, K3⟩, h3, h⟩ := bind_some.1 h
    have k3 := k2.trans (evCall_kle hX hih h3 k2.wf)
    unfold rangeEnd at h
    obtain ⟨r, hr, h⟩ := bind_some.1 h
    obtain ⟨_, h⟩ := guardO_some.1 h
    obtain ⟨K4, h4, h⟩ := bind_some.1 h
    obtain ⟨e', _, h⟩ := map_some.1 h
    cases h
    exact k3.trans (set_kle h4 k3.wf (lp_obj hr) (lp_ne_dead _ _ _))

theorem ev_kle (hX : XKle X) : ∀ n, IhKle (ev P X n)
  | 0 => fun _ _ _ _ _ _ h _ => by cases h
  | n + 1 => fun _ _ c s e s' h hw => evCode_kle hX (ev_kle hX n) c s e s' h hw

theorem extV_kle {x : Xk} {args : List Value} {K K' : AHeap} {v : Value} (h : extV P x args K = some (v, K')) (hw : WF K) : Kle K K' := by
  cases x <;> simp only [extV] at h <;> split at h <;> try (cases h; done)
  · cases h; exact Kle.refl hw
  · obtain ⟨_, _, h⟩ := bind_some.1 h; exact same_kle h hw
  · obtain ⟨_, _, h⟩ := bind_some.1 h; exact same_kle h hw
  · obtain ⟨_, _, h⟩ := bind_some.1 h
    obtain ⟨p, hp, h⟩ := map_some.1 h
    exact slcOf_kle (map_some.2 ⟨p, (guardO_some.1 hp).2, h⟩) hw
  · unfold cloneOf at h
    split at h
    · obtain ⟨_, _, h⟩ := bind_some.1 h
      obtain ⟨⟨n, K1⟩, h1, h⟩ := map_some.1 h
      cases h; exact mk_kle h1 hw
    · cases h

theorem extX_kle (tab : List (FuncId × Xk)) : XKle (extX P tab) := fun f args K v K' h hw => by
  unfold extX at h
  obtain ⟨x, _, h⟩ := bind_some.1 h
  exact extV_kle h hw

end Go.Ev

/- Loads and stores of the machine, at what the abstract heap tells. Conditions: none. -/
set_option linter.unusedVariables false
set_option linter.unusedSimpArgs false
set_option linter.unnecessarySimpa false
namespace Go.Ev
variable {P : Program}

theorem addr_add (b o i : Nat) : (⟨b, o, none⟩ : Addr).add i = ⟨b, o + i, none⟩ := by
  unfold Addr.add
  split
  · rename_i h; subst h; rfl
  · rfl

theorem cell_of {w : World} {b o : Nat} {c : Array Value} {e : TypeId} {fr : Nat × Nat} (h : w.heap[b]? = some (.cells c e fr)) : w.cell? ⟨b, o, none⟩ = c[o]? := by
  simp [World.cell?, h]

theorem frozen_of {w : World} {b o : Nat} {c : Array Value} {e : TypeId} {fr : Nat × Nat} (h : w.heap[b]? = some (.cells c e fr)) (hf : ¬ (fr.1 ≤ o ∧ o < fr.2)) : w.frozen? ⟨b, o, none⟩ = false := by
  simp only [World.frozen?, h]
  simp only [Bool.and_eq_false_iff, decide_eq_false_iff_not]
  omega

theorem shape_of {w : World} {b : Nat} {c : Array Value} {e : TypeId} {fr : Nat × Nat} (h : w.heap[b]? = some (.cells c e fr)) : w.shape? b = some (e, c.size) := by
  simp [World.shape?, h]

/-- What the machine's heap says of a live block of cells. -/
theorem Desc.cells {η : Env} {K : AHeap} {w : World} (hd : Desc P η K w) {b : Nat} {L : Loc} {vs : List Value} {e : TypeId} (hn : η b = some L) (ho : K.obj b = some (.cells vs e)) :
    ∃ (c : Array Value) (fr : Nat × Nat), w.heap[L.blk]? = some (.cells c e fr) ∧ c.size = L.size ∧
      (∀ i, i < c.size → ¬ (fr.1 ≤ i ∧ i < fr.2)) ∧ ((isU8 P e = false → fr = (0, 0)) ∧ (noTake P e = true → L.shift = 0)) ∧ L.shift + vs.length ≤ c.size ∧
      ∀ (i : Nat) (v : Value), vs[i]? = some v → ∃ v', c[L.shift + i]? = some v' ∧ VRel η v v' := hd.obj b L _ hn ho

theorem takeN_some : ∀ {n : Nat} {l r : List Value}, takeN n l = some r → r = l.take n ∧ n ≤ l.length
  | 0, l, r, h => by cases h; simp
  | n + 1, [], r, h => by cases h
  | n + 1, v :: l, r, h => by
    simp only [takeN] at h
    obtain ⟨r', h1, h2⟩ := map_some.1 h
    subst h2
    obtain ⟨e, hl⟩ := takeN_some h1
    exact ⟨by simp [e], by simpa using hl⟩

theorem nth_eq : ∀ (l : List Value) (k : Nat), nth l k = l[k]?
  | [], k => by simp [nth]
  | v :: l, 0 => by simp [nth]
  | v :: l, k + 1 => by simp [nth, nth_eq l k]

theorem Desc.cell {η : Env} {K : AHeap} {w : World} (hd : Desc P η K w) {b i : Nat} {L : Loc} {v : Value} (hn : η b = some L) (hk : K.cell b i = some v) :
    ∃ v', w.cell? ⟨L.blk, i + L.shift, none⟩ = some v' ∧ VRel η v v' := by
  unfold AHeap.cell at hk
  obtain ⟨o, ho, h⟩ := bind_some.1 hk
  cases o <;> simp only [AObj.cellAt] at h <;> try (cases h; done)
  · rw [nth_eq] at h
    obtain ⟨c, fr, h1, _, _, _, _, h7⟩ := hd.cells hn ho
    obtain ⟨v', a, r⟩ := h7 i v h
    exact ⟨v', by rw [cell_of h1, Nat.add_comm]; exact a, r⟩
  · obtain ⟨h0, c, e, fr, h1, h2⟩ := hd.obj b L _ hn ho
    obtain ⟨v', a, r⟩ := h2 i v h
    exact ⟨v', by rw [cell_of h1, h0]; exact a, r⟩

theorem readF_some {f : Nat → Option Value} : ∀ {n off : Nat} {l : List Value}, readF f n off = some l → l.length = n ∧ ∀ (i : Nat), i < n → ∃ v, f (off + i) = some v ∧ l[i]? = some v
  | 0, off, l, h => by cases h; exact ⟨rfl, fun i hi => by omega⟩
  | n + 1, off, l, h => by
    simp only [readF] at h
    obtain ⟨v, h1, h2⟩ := bind_some.1 h
    obtain ⟨l', h3, rfl⟩ := map_some.1 h2
    obtain ⟨k1, k2⟩ := readF_some h3
    refine ⟨by simp [k1], fun i hi => ?_⟩
    cases i with
    | zero => exact ⟨v, h1, rfl⟩
    | succ i =>
      obtain ⟨u, a, b⟩ := k2 i (by omega)
      exact ⟨u, by rw [← a]; congr 1; omega, by simpa using b⟩

theorem read_some {K : AHeap} {b off n : Nat} {l : List Value} (h : K.read b off n = some l) : l.length = n ∧ ∀ (i : Nat), i < n → ∃ v, K.cell b (off + i) = some v ∧ l[i]? = some v := by
  unfold AHeap.read at h
  obtain ⟨o, ho, h⟩ := bind_some.1 h
  cases o <;> simp only [AObj.readAt] at h <;> try (cases h; done)
  · rename_i vs e0
    obtain ⟨e, hl⟩ := takeN_some h
    refine ⟨by simp [e]; simp at hl; omega, fun i hi => ?_⟩
    have hlt : off + i < vs.length := by simp at hl; omega
    refine ⟨vs[off + i], by simp [AHeap.cell, ho, AObj.cellAt, nth_eq, hlt], ?_⟩
    rw [e, List.getElem?_take_of_lt hi, List.getElem?_drop]
    simp [hlt]
  · obtain ⟨k1, k2⟩ := readF_some h
    refine ⟨k1, fun i hi => ?_⟩
    obtain ⟨v, a, b⟩ := k2 i hi
    exact ⟨v, by simp [AHeap.cell, ho, AObj.cellAt, a], b⟩

/-- Several cells are loaded. -/
theorem load_cells {η : Env} {K : AHeap} {w : World} (hd : Desc P η K w) {b off n : Nat} {L : Loc} {l : List Value} (hn : η b = some L) (h : K.read b off n = some l) :
    ∃ l', LRel η l l' ∧ l'.length = n ∧ (loadCells ⟨L.blk, off + L.shift, none⟩ n).run P w = .ok l'.toArray w := by
  obtain ⟨hlen, hall⟩ := read_some h
  have hex : ∀ i, i < n → ∃ v v', l[i]? = some v ∧ w.cell? ⟨L.blk, off + L.shift + i, none⟩ = some v' ∧ VRel η v v' := fun i hi => by
    obtain ⟨v, h1, h2⟩ := hall i hi
    obtain ⟨v', a, r⟩ := hd.cell hn h1
    exact ⟨v, v', h2, by rw [← a]; congr 2; omega, r⟩
  let f : Nat → Value := fun i => (w.cell? ⟨L.blk, off + L.shift + i, none⟩).getD undef
  refine ⟨(List.range n).map f, LRel.of_nth (by simp [hlen]) fun i v hi => ?_, by simp, run_loadCells w _ n f fun j hj => ?_⟩
  · have hin : i < n := by rw [← hlen]; exact (List.getElem?_eq_some_iff.1 hi).1
    obtain ⟨u, v', h1, h2, r⟩ := hex i hin
    rw [hi] at h1; cases h1
    exact ⟨v', by simp [hin, f, h2], r⟩
  · obtain ⟨u, v', h1, h2, r⟩ := hex j hj
    rw [addr_add, h2]; simp [f, h2]

theorem load_one {η : Env} {K : AHeap} {w : World} (hd : Desc P η K w) {b off : Nat} {L : Loc} {v : Value} (hn : η b = some L) (h : K.cell b off = some v) :
    ∃ v', (load ⟨L.blk, off + L.shift, none⟩).run P w = .ok v' w ∧ VRel η v v' := by
  obtain ⟨v', a, r⟩ := hd.cell hn h
  exact ⟨v', by simp [a], r⟩

/-! ### Stores -/
theorem setCell_block {w : World} {b o : Nat} {v : Value} {c : Array Value} {e : TypeId} {fr : Nat × Nat} (h : w.heap[b]? = some (.cells c e fr)) :
    (w.setCell ⟨b, o, none⟩ v).heap[b]? = some (.cells (c.setIfInBounds o v) e fr) ∧ (∀ b', b' ≠ b → (w.setCell ⟨b, o, none⟩ v).heap[b']? = w.heap[b']?) := by
  constructor
  · simp [World.setCell, Array.getElem?_modify, h]
  · intro b' hb
    simp [World.setCell, Array.getElem?_modify, Ne.symm hb]

structure Same (w w' : World) : Prop where
  size : w'.heap.size = w.heap.size
  tape : w'.tape = w.tape
  os : w'.os = w.os
  output : w'.output = w.output

theorem store_cells : ∀ (xs : List Value) (i b o : Nat) (w : World) (c : Array Value) (e : TypeId) (fr : Nat × Nat), w.heap[b]? = some (.cells c e fr) → (∀ j, j < c.size → ¬ (fr.1 ≤ j ∧ j < fr.2)) →
    o + i + xs.length ≤ c.size → (∀ x ∈ xs, oneCell x = true) →
    ∃ (w' : World) (c' : Array Value), (storeCells ⟨b, o, none⟩ xs i).run P w = .ok () w' ∧ w'.heap[b]? = some (.cells c' e fr) ∧ c'.size = c.size ∧ (∀ b', b' ≠ b → w'.heap[b']? = w.heap[b']?) ∧ Same w w' ∧
      ∀ j, c'[j]? = if o + i ≤ j ∧ j < o + i + xs.length then xs[j - (o + i)]? else c[j]?
  | [], i, b, o, w, c, e, fr, h, hf, hl, h1 => ⟨w, c, by simp [storeCells], h, rfl, fun _ _ => rfl, ⟨rfl, rfl, rfl, rfl⟩, fun j => by rw [if_neg (by simp)]⟩
  | x :: xs, i, b, o, w, c, e, fr, h, hf, hl, h1 => by
    have hlt : o + i < c.size := by simp at hl; omega
    have hx : x.oneCell' = true := by have := h1 x (by simp); cases x <;> simp_all [oneCell, Value.oneCell']
    have hcell : w.cell? ⟨b, o + i, none⟩ = some c[o + i] := by rw [cell_of h]; simp [hlt]
    have hst : (store ((⟨b, o, none⟩ : Addr).add i) x).run P w = .ok () (w.setCell ⟨b, o + i, none⟩ x) := by
      rw [addr_add, run_store P w _ x .plain hx]
      simp [hcell, frozen_of h (hf _ hlt)]
    obtain ⟨hb, hoth⟩ := setCell_block (v := x) (o := o + i) h
    obtain ⟨w', c', r1, r2, r3, r4, r5, r6⟩ := store_cells xs (i + 1) b o (w.setCell ⟨b, o + i, none⟩ x) (c.setIfInBounds (o + i) x) e fr hb
      (fun j hj => hf j (by simpa using hj)) (by simp at hl ⊢; omega) (fun y hy => h1 y (by simp [hy]))
    refine ⟨w', c', ?_, r2, by simpa using r3, fun b' hb' => (r4 b' hb').trans (hoth b' hb'), ⟨by rw [r5.size]; simp, by rw [r5.tape]; rfl, by rw [r5.os]; rfl, by rw [r5.output]; rfl⟩, fun j => ?_⟩
    · simp only [storeCells, Sem.run_bind, hst, Result.andThen, r1]
    · rw [r6 j]
      by_cases hj : j = o + i
      · subst hj
        rw [if_neg (by omega), if_pos (by simp)]
        simp [hlt]
      · by_cases hin : o + (i + 1) ≤ j ∧ j < o + (i + 1) + xs.length
        · rw [if_pos hin, if_pos (by simp; omega)]
          have : j - (o + i) = (j - (o + (i + 1))) + 1 := by omega
          rw [this]; simp
        · rw [if_neg hin, if_neg (by simp; omega)]
          simp [Ne.symm hj]

theorem overFront_some : ∀ {xs vs r : List Value}, overFront xs vs = some r → xs.length ≤ vs.length ∧ r.length = vs.length ∧ (∀ x ∈ xs, oneCell x = true) ∧ ∀ (j : Nat), r[j]? = if j < xs.length then xs[j]? else vs[j]?
  | [], vs, r, h => by cases h; simp
  | x :: xs, [], r, h => by cases h
  | x :: xs, v :: vs, r, h => by
    simp only [overFront] at h
    split at h
    · rename_i ho
      obtain ⟨r', h1, h2⟩ := map_some.1 h
      subst h2
      obtain ⟨a, b, c, d⟩ := overFront_some h1
      refine ⟨by simpa using a, by simpa using b, fun y hy => ?_, fun j => ?_⟩
      · rcases List.mem_cons.1 hy with rfl | hy
        · exact ho
        · exact c y hy
      · cases j with
        | zero => simp
        | succ j => simp [d j]
    · cases h

theorem over_some : ∀ {off : Nat} {xs vs r : List Value}, over off xs vs = some r → off + xs.length ≤ vs.length ∧ r.length = vs.length ∧ (∀ x ∈ xs, oneCell x = true) ∧
    ∀ (j : Nat), r[j]? = if off ≤ j ∧ j < off + xs.length then xs[j - off]? else vs[j]?
  | 0, xs, vs, r, h => by
    obtain ⟨a, b, c, d⟩ := overFront_some h
    exact ⟨by simpa using a, b, c, fun j => by simpa using d j⟩
  | off + 1, xs, [], r, h => by cases h
  | off + 1, xs, v :: vs, r, h => by
    simp only [over] at h
    obtain ⟨r', h1, h2⟩ := map_some.1 h
    subst h2
    obtain ⟨a, b, c, d⟩ := over_some h1
    refine ⟨by simp; omega, by simpa using b, c, fun j => ?_⟩
    cases j with
    | zero => rw [if_neg (by omega)]; simp
    | succ j =>
      simp only [List.getElem?_cons_succ, d j]
      by_cases hj : off ≤ j ∧ j < off + xs.length
      · rw [if_pos hj, if_pos (by omega)]; congr 1; omega
      · rw [if_neg hj, if_neg (by omega)]

theorem LRel.allOne {η : Env} : ∀ {l l' : List Value}, LRel η l l' → (∀ x ∈ l, Ev.oneCell x = true) → ∀ x ∈ l', Ev.oneCell x = true
  | _, _, .nil, _ => by simp
  | _, _, .cons h t, hl => by
    intro x hx
    rcases List.mem_cons.1 hx with rfl | hx
    · exact h.oneCell (hl _ (by simp))
    · exact t.allOne (fun y hy => hl y (by simp [hy])) x hx

theorem LRel.nth' {η : Env} : ∀ {l l' : List Value}, LRel η l l' → ∀ {i : Nat} {v' : Value}, l'[i]? = some v' → ∃ v, l[i]? = some v ∧ VRel η v v'
  | _, _, .nil, i, v, h => by simp at h
  | _, _, .cons h t, i, v, hi => by
    cases i with
    | zero => simp at hi; subst hi; exact ⟨_, rfl, h⟩
    | succ i => simp at hi; simpa using LRel.nth' t hi

/-- Several cells are written. -/
theorem write_step {η : Env} {K K' : AHeap} {w : World} (hd : Desc P η K w) (hw : WF K) {b off : Nat} {L : Loc} {xs xs' : List Value} (hn : η b = some L) (h : K.write b off xs = some K') (hx : LRel η xs xs') :
    ∃ w', (storeCells ⟨L.blk, off + L.shift, none⟩ xs').run P w = .ok () w' ∧ Step P η K w η K' w' := by
  unfold AHeap.write at h
  obtain ⟨o, ho, h⟩ := bind_some.1 h
  cases o <;> simp only [AHeap.writeTo] at h <;> try (cases h; done)
  rename_i vs e
  obtain ⟨vs', hov, hset⟩ := bind_some.1 h
  obtain ⟨hlen, hvl, hone, hnth⟩ := over_some hov
  obtain ⟨c, fr, h1, h2, h4, h5, h6, h7⟩ := hd.cells hn ho
  have hl := hx.length
  obtain ⟨w', c', r1, r2, r3, r4, r5, r6⟩ := store_cells (P := P) xs' 0 L.blk (off + L.shift) w c e fr h1 h4 (by omega) (hx.allOne hone)
  refine ⟨w', r1, step_set hd hw hset hn ho (by simp) r5.size r4 r5.tape r5.os r5.output ⟨c', fr, r2, by omega, fun i hi => h4 i (by omega), h5, by omega, fun i v hi => ?_⟩⟩
  rw [r6]
  have hi' := hnth i
  rw [hi] at hi'
  by_cases hin : off ≤ i ∧ i < off + xs.length
  · rw [if_pos hin] at hi'
    rw [if_pos (by omega)]
    obtain ⟨v', a, r⟩ := hx.nth hi'.symm
    refine ⟨v', ?_, r⟩
    rw [← a]; congr 1; omega
  · rw [if_neg hin] at hi'
    rw [if_neg (by omega)]
    exact h7 i v hi'.symm

/-! ### Runs that ask nothing -/
theorem pureRun_run {α : Type} : ∀ {s : Sem α} {a : α}, pureRun P s = some a → ∀ w, s.run P w = .ok a w
  | .pure _, _, h, _ => by cases h; rfl
  | .program k, _, h, w => by simp only [Sem.run]; exact pureRun_run (s := k P) h w
  | .mark _ k, _, h, w => by simp only [Sem.run]; exact pureRun_run (s := k) h w
  | .load _ _ _, _, h, _ => by cases h
  | .store _ _ _ _, _, h, _ => by cases h
  | .new _ _, _, h, _ => by cases h
  | .shape _ _, _, h, _ => by cases h
  | .freeze _ _ _, _, h, _ => by cases h
  | .frozen _ _, _, h, _ => by cases h
  | .getObj _ _, _, h, _ => by cases h
  | .setObj _ _ _, _, h, _ => by cases h
  | .choose _ _, _, h, _ => by cases h
  | .sys _ _, _, h, _ => by cases h
  | .halt _, _, h, _ => by cases h

/-! ### Types -/
theorem run_underlying' {t : TypeId} {d : TypeDesc} (h : P.underlying t = some d) (w : World) : (underlying t).run P w = .ok d w := by simp [underlying, h]
theorem info_of_size {t : TypeId} {n : Nat} (h : sizeT P t = some n) : ∃ i, P.info? t = some i ∧ i.size = n := by
  unfold sizeT at h; obtain ⟨i, a, b⟩ := map_some.1 h; exact ⟨i, a, b⟩
theorem run_sizeOf {t : TypeId} {n : Nat} (h : sizeT P t = some n) (w : World) : (sizeOf t).run P w = .ok n w := by
  obtain ⟨i, a, b⟩ := info_of_size h
  simp [sizeOf, typeInfo, a, b]
theorem cellsOf_size {t : TypeId} {n : Nat} (h : sizeT P t = some n) : P.cellsOf t = n := by
  obtain ⟨i, a, b⟩ := info_of_size h
  simp [Program.cellsOf, a, b]
theorem zero_some {t : TypeId} {z : Value} (h : zeroT P t = some z) : ground z = true ∧ ∃ i, P.info? t = some i ∧ i.zero = some z := by
  unfold zeroT at h
  obtain ⟨z', h1, h2⟩ := bind_some.1 h
  obtain ⟨hg, h2⟩ := guardO_some.1 h2
  cases h2
  obtain ⟨i, a, b⟩ := bind_some.1 h1
  exact ⟨hg, i, a, b⟩
theorem run_zero {t : TypeId} {z : Value} (h : zeroT P t = some z) (w : World) : (zeroValue t).run P w = .ok z w := by
  obtain ⟨_, i, a, b⟩ := zero_some h
  simp [zeroValue, typeInfo, a, b]
theorem run_isAgg {t : TypeId} {b : Bool} (h : isAggT P t = some b) (w : World) : (isAgg t).run P w = .ok b w := by
  unfold isAggT at h
  obtain ⟨d, a, r⟩ := map_some.1 h
  subst r
  cases d <;> simp [isAgg, run_underlying' a, isAggD]
theorem elem_some {t e : TypeId} (h : elemT P t = some e) : P.underlying t = some (.slice e) := by
  unfold elemT at h
  obtain ⟨d, a, r⟩ := bind_some.1 h
  cases d <;> simp [elemD] at r
  subst r; exact a

/-- A variable is loaded. -/
theorem loadVar_ok {η : Env} {K : AHeap} {w : World} (hd : Desc P η K w) {t : TypeId} {b off : Nat} {L : Loc} {v : Value} (hn : η b = some L) (h : aLoadVar P K t b off = some v) :
    ∃ v', (loadVar t ⟨L.blk, off + L.shift, none⟩).run P w = .ok v' w ∧ VRel η v v' := by
  unfold aLoadVar at h
  cases ha : isAggT P t with
  | none => rw [ha] at h; cases h
  | some a =>
    rw [ha] at h
    cases a with
    | true =>
      simp only [loadAgg] at h
      obtain ⟨n, hs, h⟩ := bind_some.1 h
      obtain ⟨l, hr, h⟩ := map_some.1 h
      subst h
      obtain ⟨l', r1, _, r2⟩ := load_cells hd hn hr
      refine ⟨.agg l'.toArray, ?_, .agg r1⟩
      simp [loadVar, run_isAgg ha, run_sizeOf hs, r2]
    | false =>
      obtain ⟨v', r1, r2⟩ := load_one hd hn h
      exact ⟨v', by simp only [loadVar, Sem.run_bind, run_isAgg ha, Result.andThen]; simpa using r1, r2⟩

/-- A variable is made. -/
theorem newVar_ok {η : Env} {K K' : AHeap} {w : World} (hd : Desc P η K w) (hw : WF K) {t : TypeId} {v v' r : Value} (h : aNewVar K t v = some (r, K')) (hf : Fresh η K K') (hv : VRel η v v') :
    ∃ a w' η', (newVar t v').run P w = .ok a w' ∧ Step P η K w η' K' w' ∧ VRel η' r (.pointer (some a)) := by
  unfold aNewVar at h
  obtain ⟨⟨n, K1⟩, hm, h⟩ := map_some.1 h
  simp [ptrTo] at h
  obtain ⟨rfl, rfl⟩ := h
  have hc := hv.cells
  let L : Loc := ⟨w.heap.size, 0, v'.cells.size⟩
  obtain ⟨hs, h0⟩ := step_mk (L := L) (ob := .cells v'.cells t) (w' := w.alloc (.cells v'.cells t)) hd hw hm hf rfl rfl rfl rfl rfl
    ⟨v'.cells, (0, 0), by show (w.heap.push _)[w.heap.size]? = _; simp, rfl, fun i _ => by simp, ⟨fun _ => rfl, fun _ => rfl⟩, by have := hc.length; simp [L]; simp at this; omega, fun i u hi => by
      obtain ⟨u', a, r⟩ := (hc.ext (upd_ext (L := L) (n := n) (by
        have := (mk_spec hm).1; subst this
        cases e : η K.next with
        | none => rfl
        | some L0 => rcases hf _ _ e with h1 | h1
                     · omega
                     · have := (mk_spec hm).2.2.1; omega))).nth hi
      exact ⟨u', by simpa [L] using a, r⟩⟩
  refine ⟨⟨w.heap.size, 0, none⟩, _, _, ?_, hs, ?_⟩
  · simp [newVar, newRow]
  · have : (⟨w.heap.size, 0, none⟩ : Addr) = ⟨L.blk, 0 + L.shift, none⟩ := by simp [L]
    rw [this]
    exact .ptr (upd_same _ _ _)

end Go.Ev

/- The machine's operations that leave memory alone, at what the evaluator answers. Conditions: none. -/
set_option linter.unusedVariables false
set_option linter.unusedSimpArgs false
set_option linter.unnecessarySimpa false
namespace Go.Ev
variable {P : Program}

/-! ### Operands -/
theorem eval_tmp {η : Env} {nt : Nat} {tm : T Value} {a : Act} (ht : TRel η nt tm a.tmps) {t : Tmp} {v : Value} (h : tm.get t = some v) : VRel η v (a.eval (.tmp t)) := by
  obtain ⟨v', h1, r⟩ := ht.2 t v h
  simp only [Act.eval, Array.getD_eq_getD_getElem?, h1, Option.getD_some]
  exact r

theorem opv_ok {η : Env} {K : AHeap} {w : World} (hd : Desc P η K w) {nt : Nat} {tm : T Value} {a : Act} (ht : TRel η nt tm a.tmps) {x : Operand} {v : Value} (h : opv P x tm = some v) : VRel η v (a.eval x) := by
  cases x with
  | tmp t => exact eval_tmp ht h
  | const u =>
    obtain ⟨hg, h⟩ := guardO_some.1 h
    cases h; exact .grnd hg
  | global g =>
    obtain ⟨hg, h⟩ := guardO_some.1 h
    cases h
    obtain ⟨L, h1, h2, h3⟩ := hd.glob g (by simpa [Nat.blt_eq] using hg)
    have : (Act.eval a (.global g)) = .pointer (some ⟨L.blk, 0 + L.shift, none⟩) := by simp [Act.eval, h2, h3]
    rw [this]; exact .ptr h1
  | func f => cases h; exact .func f .nil .nil

theorem opvs_ok {η : Env} {K : AHeap} {w : World} (hd : Desc P η K w) {nt : Nat} {tm : T Value} {a : Act} (ht : TRel η nt tm a.tmps) : ∀ {l : List Operand} {vs : List Value}, opvs P l tm = some vs → LRel η vs (l.map a.eval)
  | [], vs, h => by cases h; exact .nil
  | x :: l, vs, h => by
    simp only [opvs] at h
    obtain ⟨v, h1, h⟩ := bind_some.1 h
    obtain ⟨us, h2, h⟩ := map_some.1 h
    subst h
    exact .cons (opv_ok hd ht h1) (opvs_ok hd ht h2)

/-- Parts, each with its place. -/
inductive PRel (η : Env) : List (Nat × Value) → List (Nat × Value) → Prop
  | nil : PRel η [] []
  | cons (i : Nat) {v v' : Value} {l l' : List (Nat × Value)} (h : VRel η v v') (t : PRel η l l') : PRel η ((i, v) :: l) ((i, v') :: l')

theorem opps_ok {η : Env} {K : AHeap} {w : World} (hd : Desc P η K w) {nt : Nat} {tm : T Value} {a : Act} (ht : TRel η nt tm a.tmps) : ∀ {l : List (Nat × Operand)} {vs : List (Nat × Value)}, opps P l tm = some vs → PRel η vs (l.map fun p => (p.1, a.eval p.2))
  | [], vs, h => by cases h; exact .nil
  | (i, x) :: l, vs, h => by
    simp only [opps] at h
    obtain ⟨v, h1, h⟩ := bind_some.1 h
    obtain ⟨us, h2, h⟩ := map_some.1 h
    subst h
    exact .cons i (opv_ok hd ht h1) (opps_ok hd ht h2)

def ORel (η : Env) : Option Value → Option Value → Prop
  | none, none => True
  | some v, some v' => VRel η v v'
  | _, _ => False

theorem opvo_ok {η : Env} {K : AHeap} {w : World} (hd : Desc P η K w) {nt : Nat} {tm : T Value} {a : Act} (ht : TRel η nt tm a.tmps) {x : Option Operand} {v : Option Value} (h : opvo P x tm = some v) : ORel η v (x.map a.eval) := by
  cases x with
  | none => cases h; trivial
  | some x =>
    obtain ⟨u, h1, h⟩ := map_some.1 h
    subst h
    exact opv_ok hd ht h1

/-! ### Values taken apart -/
theorem boolV_ok {η : Env} {v v' : Value} {b : Bool} (h : boolV v = some b) (hr : VRel η v v') : v' = .bool b := by
  cases v <;> simp [boolV] at h
  subst h; cases hr; rfl

theorem intV_ok {η : Env} {v v' : Value} {n : Int} (h : intV v = some n) (hr : VRel η v v') : ∃ k, v = .int k n ∧ v' = .int k n := by
  cases v <;> simp [intV] at h
  subst h; cases hr; exact ⟨_, rfl, rfl⟩

theorem strV_ok {η : Env} {v v' : Value} {s : ByteArray} (h : strV v = some s) (hr : VRel η v v') : v = .string s ∧ v' = .string s := by
  cases v <;> simp [strV] at h
  subst h; cases hr; exact ⟨rfl, rfl⟩

theorem addrV_ok {η : Env} {v v' : Value} {p : Nat × Nat} (h : addrV v = some p) (hr : VRel η v v') : ∃ L, η p.1 = some L ∧ v = .pointer (some ⟨p.1, p.2, none⟩) ∧ v' = .pointer (some ⟨L.blk, p.2 + L.shift, none⟩) := by
  cases v with
  | pointer a =>
    simp only [addrV] at h
    unfold addrP at h
    split at h
    · cases h
      cases hr with
      | ptr hL => exact ⟨_, hL, rfl, rfl⟩
    · cases h
  | _ => simp [addrV] at h

theorem aggV_ok {η : Env} {v v' : Value} {c : Array Value} (h : aggV v = some c) (hr : VRel η v v') : ∃ c', LRel η c.toList c'.toList ∧ v' = .agg c' := by
  cases v <;> simp [aggV] at h
  subst h
  cases hr with
  | agg hl => exact ⟨_, hl, rfl⟩

theorem mapV_ok {η : Env} {v v' : Value} {r : Option Nat} (h : mapV v = some r) (hr : VRel η v v') : ∃ r', v' = .map r' ∧ optBlk η r r' := by
  cases v <;> simp [mapV] at h
  subst h
  cases hr with
  | mnil => exact ⟨none, rfl, rfl⟩
  | map hL => exact ⟨_, rfl, _, hL, rfl⟩

theorem bound1_ok {most : Nat} {i : Int} {n : Nat} (h : bound1 most i = some n) : i = (n : Int) ∧ n ≤ most := by
  cases i with
  | ofNat m =>
    obtain ⟨hb, h⟩ := guardO_some.1 h
    cases h
    exact ⟨rfl, Nat.le_of_ble_eq_true hb⟩
  | negSucc m => cases h

theorem idx_ok {len : Nat} {i : Int} {n : Nat} (h : idx len i = some n) : i = (n : Int) ∧ n < len := by
  cases i with
  | ofNat m =>
    obtain ⟨hb, h⟩ := guardO_some.1 h
    cases h
    exact ⟨rfl, by simpa [Nat.blt_eq] using hb⟩
  | negSucc m => cases h

/-! ### Structs and arrays -/
theorem sub_some {t : TypeId} {i : Nat} {f : Field} (h : fieldT P t i = some f) : ∃ fs, P.underlying t = some (.struct fs) ∧ fs[i]? = some f := by
  unfold fieldT at h
  obtain ⟨fs, h1, h⟩ := bind_some.1 h
  obtain ⟨d, h2, h1⟩ := bind_some.1 h1
  cases d <;> simp [fieldsD] at h1
  subst h1
  exact ⟨_, h2, h⟩

theorem part_ok {η : Env} {w : World} {t : TypeId} {cs cs' : List Value} {off : Nat} {v : Value} (h : aPart P t cs off = some v) (hr : LRel η cs cs') :
    ∃ v', (part t cs'.toArray off).run P w = .ok v' w ∧ VRel η v v' := by
  unfold aPart at h
  obtain ⟨a, h1, h⟩ := bind_some.1 h
  obtain ⟨n, h2, h⟩ := bind_some.1 h
  cases a with
  | true =>
    simp only [partOf] at h
    obtain ⟨l, h3, h⟩ := map_some.1 h
    subst h
    obtain ⟨e, hl⟩ := takeN_some h3
    refine ⟨.agg (cs'.toArray.extract off (off + n)), by simp [part, run_isAgg h1, run_sizeOf h2], ?_⟩
    have he : (cs'.toArray.extract off (off + n)) = ((cs'.drop off).take n).toArray := by
      apply Array.ext'
      simp [List.extract_eq_take_drop]
    rw [he, e]
    exact .agg ((hr.drop off).take n)
  | false =>
    simp only [partOf, nth_eq] at h
    obtain ⟨v', a, r⟩ := hr.nth h
    exact ⟨v', by simp [part, run_isAgg h1, a], r⟩

theorem field_ok {η : Env} {w : World} {t : TypeId} {f : Nat} {x x' v : Value} (h : aField P t f x = some v) (hr : VRel η x x') :
    ∃ v', (Instr.field t x' f).run P w = .ok v' w ∧ VRel η v v' := by
  unfold aField at h
  obtain ⟨cs, h1, h⟩ := bind_some.1 h
  obtain ⟨fd, h2, h⟩ := bind_some.1 h
  obtain ⟨c', hl, rfl⟩ := aggV_ok h1 hr
  obtain ⟨fs, h3, h4⟩ := sub_some h2
  obtain ⟨v', r1, r2⟩ := part_ok (w := w) h hl
  exact ⟨v', by simp [Instr.field, run_underlying' h3, h4, asAgg]; simpa using r1, r2⟩

theorem fieldAddr_ok {η : Env} {w : World} {s : TypeId} {f : Nat} {x x' v : Value} (h : aFieldAddr P s f x = some v) (hr : VRel η x x') :
    ∃ v', (Instr.fieldAt s x' f).run P w = .ok v' w ∧ VRel η v v' := by
  unfold aFieldAddr at h
  obtain ⟨p, h1, ha⟩ := bind_some.1 h
  obtain ⟨fd, h2, hb⟩ := bind_some.1 ha
  obtain ⟨h3, hc⟩ := guardO_some.1 hb
  clear h ha hb
  obtain ⟨L, hL, rfl, rfl⟩ := addrV_ok h1 hr
  obtain ⟨fs, h5, h6⟩ := sub_some h2
  cases hc
  have hs : (sizeT P fd.type).getD 0 ≠ 0 := of_decide_eq_true h3
  cases h7 : sizeT P fd.type with
  | none => rw [h7] at hs; simp at hs
  | some n =>
    rw [h7] at hs
    simp at hs
    refine ⟨.pointer (some ⟨L.blk, p.2 + fd.offset + L.shift, none⟩), ?_, .ptr hL⟩
    simp [Instr.fieldAt, run_underlying' h5, h6, Instr.sureAddr, fieldPlace, run_sizeOf h7, hs, addr_add]
    omega

theorem elemAddr_ok {η : Env} {i i' : Value} {len b o : Nat} {sz : Option Nat} {v : Value} (h : elemAddr i len b o sz = some v) (hr : VRel η i i') :
    ∃ (k : IntKind) (n s : Nat), i' = .int k (n : Int) ∧ n < len ∧ sz = some s ∧ v = mkPtr b (o + n * s) := by
  unfold elemAddr at h
  obtain ⟨j, h1, ha⟩ := bind_some.1 h
  obtain ⟨n, h2, hb⟩ := bind_some.1 ha
  obtain ⟨s, h3, hc⟩ := map_some.1 hb
  clear h ha hb
  obtain ⟨k, _, rfl⟩ := intV_ok h1 hr
  obtain ⟨rfl, h4⟩ := idx_ok h2
  exact ⟨k, n, s, rfl, h4, h3, hc.symm⟩

theorem indexAddr_ok {η : Env} {w : World} {t : TypeId} {x x' i i' v : Value} (h : aIndexAddr P t x i = some v) (hr : VRel η x x') (hi : VRel η i i') :
    ∃ v', (Instr.indexAt t x' i').run P w = .ok v' w ∧ VRel η v v' := by
  unfold aIndexAddr at h
  obtain ⟨d, h1, h⟩ := bind_some.1 h
  cases d <;> simp only [indexAddrD] at h <;> try (cases h; done)
  case slice e =>
    obtain ⟨q, h2, ha⟩ := bind_some.1 h
    obtain ⟨k, n, s, rfl, h4, h5, rfl⟩ := elemAddr_ok ha hi
    clear h ha
    have hsl : ∃ b o sp len cap, x = .slice (some ⟨b, o, sp⟩) len cap ∧ q = (b, o, len) := by
      unfold slcAddr at h2
      split at h2
      · rename_i a len cap
        cases h2
        exact ⟨a.block, a.off, a.spot, len, cap, rfl, rfl⟩
      · cases h2
    obtain ⟨b, o, sp, len, cap, rfl, rfl⟩ := hsl
    simp only at h4
    have key : ∀ (L : Loc) (c' : Nat), η b = some L → x' = .slice (some ⟨L.blk, o + L.shift, none⟩) len c' →
        ∃ v', (Instr.indexAt t x' (.int k (n : Int))).run P w = .ok v' w ∧ VRel η (mkPtr b (o + n * s)) v' := by
      rintro L c' hL rfl
      refine ⟨.pointer (some ⟨L.blk, o + n * s + L.shift, none⟩), ?_, .ptr hL⟩
      simp [Instr.indexAt, asIntOf, run_underlying' h1, h4, run_sizeOf h5, addr_add]
      omega
    cases hr with
    | sex _ _ hL => exact key _ _ hL rfl
    | slow _ _ c' hL hc hz => exact key _ _ hL rfl
    | ssome o' c' hL hz => omega
  case array len e =>
    obtain ⟨p, h2, ha⟩ := bind_some.1 h
    obtain ⟨k, n, s, rfl, h4, h5, rfl⟩ := elemAddr_ok ha hi
    clear h ha
    obtain ⟨L, hL, rfl, rfl⟩ := addrV_ok h2 hr
    refine ⟨.pointer (some ⟨L.blk, p.2 + n * s + L.shift, none⟩), ?_, .ptr hL⟩
    simp [Instr.indexAt, asIntOf, run_underlying' h1, h4, run_sizeOf h5, addr_add, Instr.sureAddr]
    omega

theorem nthByte_eq : ∀ (l : List UInt8) (k : Nat), nthByte l k = l[k]?
  | [], k => by simp [nthByte]
  | v :: l, 0 => by simp [nthByte]
  | v :: l, k + 1 => by simp [nthByte, nthByte_eq l k]

theorem index_ok {η : Env} {w : World} {t : TypeId} {x x' i i' v : Value} (h : aIndex P t x i = some v) (hr : VRel η x x') (hi : VRel η i i') :
    ∃ v', (Instr.index t x' i').run P w = .ok v' w ∧ VRel η v v' := by
  unfold aIndex at h
  obtain ⟨d, h1, h⟩ := bind_some.1 h
  cases d <;> simp only [indexD] at h <;> try (cases h; done)
  case string =>
    obtain ⟨s, h2, h⟩ := bind_some.1 h
    obtain ⟨j, h3, h⟩ := bind_some.1 h
    obtain ⟨n, h4, h⟩ := bind_some.1 h
    obtain ⟨b, h5, h⟩ := map_some.1 h
    subst h
    obtain ⟨rfl, rfl⟩ := strV_ok h2 hr
    obtain ⟨k, rfl, rfl⟩ := intV_ok h3 hi
    obtain ⟨rfl, _⟩ := bound1_ok h4
    rw [nthByte_eq] at h5
    refine ⟨_, ?_, .int _ _⟩
    have hb : s[n]? = some b := by
      obtain ⟨hl, e⟩ := List.getElem?_eq_some_iff.1 h5
      have hlt : n < s.size := by simpa using hl
      rw [ByteArray.getElem?_lt' s n hlt, ← e]
      rfl
    simp [Instr.index, asIntOf, run_underlying' h1, hb]
  case array len e =>
    obtain ⟨cs, h2, ha⟩ := bind_some.1 h
    obtain ⟨j, h3, hb⟩ := bind_some.1 ha
    obtain ⟨n, h4, hc⟩ := bind_some.1 hb
    obtain ⟨s, h5, hd⟩ := bind_some.1 hc
    clear h ha hb hc
    obtain ⟨c', hl, rfl⟩ := aggV_ok h2 hr
    obtain ⟨k, rfl, rfl⟩ := intV_ok h3 hi
    obtain ⟨rfl, h6⟩ := idx_ok h4
    obtain ⟨v', r1, r2⟩ := part_ok (w := w) hd hl
    refine ⟨v', ?_, r2⟩
    simp [Instr.index, asIntOf, run_underlying' h1, h6, run_sizeOf h5]
    simpa using r1

/-! ### Filling -/
theorem setRange_get : ∀ (xs : List Value) (k off : Nat) (c : Array Value), off + k + xs.length ≤ c.size →
    ((xs.zipIdx k).foldl (fun cs p => cs.setIfInBounds (off + p.2) p.1) c).size = c.size ∧
    ∀ (j : Nat), ((xs.zipIdx k).foldl (fun cs p => cs.setIfInBounds (off + p.2) p.1) c)[j]? = if off + k ≤ j ∧ j < off + k + xs.length then xs[j - (off + k)]? else c[j]?
  | [], k, off, c, h => ⟨rfl, fun j => by rw [if_neg (by simp)]; rfl⟩
  | x :: xs, k, off, c, h => by
    simp only [List.zipIdx_cons, List.foldl_cons]
    obtain ⟨a, b⟩ := setRange_get xs (k + 1) off (c.setIfInBounds (off + k) x) (by simp at h ⊢; omega)
    refine ⟨by simpa using a, fun j => ?_⟩
    rw [b j]
    by_cases hj : j = off + k
    · subst hj
      rw [if_neg (by omega), if_pos (by simp)]
      have : off + k < c.size := by simp at h; omega
      simp [this]
    · by_cases hin : off + (k + 1) ≤ j ∧ j < off + (k + 1) + xs.length
      · rw [if_pos hin, if_pos (by simp; omega)]
        have : j - (off + k) = (j - (off + (k + 1))) + 1 := by omega
        rw [this]; simp
      · rw [if_neg hin, if_neg (by simp; omega)]
        simp [Ne.symm hj]

theorem foldl_zipIdx (v : Array Value) (off : Nat) (c : Array Value) :
    v.zipIdx.foldl (fun cs p => cs.setIfInBounds (off + p.2) p.1) c = (v.toList.zipIdx 0).foldl (fun cs p => cs.setIfInBounds (off + p.2) p.1) c := by
  rw [← Array.foldl_toList, Array.toList_zipIdx]

theorem fill_ok {η : Env} {place place' : Nat → Option (Nat × Nat)} (hp : ∀ i p, place i = some p → place' i = some p) : ∀ {vs vs' : List (Nat × Value)} {cs r : List Value} {c : Array Value}, PRel η vs vs' → LRel η cs c.toList →
    fillL place vs cs = some r → ∃ r', Instr.fill place' c vs' = some r' ∧ LRel η r r'.toList
  | _, _, cs, r, c, .nil, hc, h => by cases h; exact ⟨c, rfl, hc⟩
  | _, _, cs, r, c, .cons i (v := v) (v' := v') hv ht, hc, h => by
    simp only [fillL] at h
    obtain ⟨⟨off, size⟩, h1, h⟩ := bind_some.1 h
    obtain ⟨h2, h⟩ := guardO_some.1 h
    obtain ⟨cs1, h3, h⟩ := bind_some.1 h
    have hvc := hv.cells
    have hlen : v'.cells.size = v.cells.size := by have := hvc.length; simpa using this
    have hsz : v.cells.size = size := Nat.eq_of_beq_eq_true h2
    obtain ⟨o1, o2, o3, o4⟩ := over_some h3
    have hcl : c.size = cs.length := by have := hc.length; simpa using this
    simp only [Array.length_toList] at o1 o4
    have hfit : off + v'.cells.size ≤ c.size := by omega
    obtain ⟨s1, s2⟩ := setRange_get v'.cells.toList 0 off c (by simpa using hfit)
    have hnew : LRel η cs1 (v'.cells.zipIdx.foldl (fun cs p => cs.setIfInBounds (off + p.2) p.1) c).toList := by
      rw [foldl_zipIdx]
      refine LRel.of_nth (by simp only [Array.length_toList, s1]; omega) fun j u hu => ?_
      have e1 := o4 j
      rw [hu] at e1
      have e2 := s2 j
      simp only [Array.getElem?_toList]
      rw [e2]
      simp only [Nat.add_zero, Array.length_toList]
      by_cases hin : off ≤ j ∧ j < off + v.cells.size
      · rw [if_pos hin] at e1
        rw [if_pos (by omega)]
        exact hvc.nth e1.symm
      · rw [if_neg hin] at e1
        rw [if_neg (by omega)]
        have := hc.nth e1.symm
        simpa using this
    obtain ⟨r', f1, f2⟩ := fill_ok hp ht hnew h
    refine ⟨r', ?_, f2⟩
    simp only [Instr.fill, hp i _ h1]
    rw [if_neg (by simp [hlen, hsz]; omega)]
    exact f1

theorem mapM_sizes : ∀ (l : List Field) (w : World), allSized P l = true → ∃ r : List (Nat × Nat), (l.mapM fun f => (do pure (f.offset, ← sizeOf f.type) : Sem (Nat × Nat))).run P w = .ok r w ∧ r.length = l.length ∧
    ∀ (i : Nat) f s, l[i]? = some f → sizeT P f.type = some s → r[i]? = some (f.offset, s)
  | [], w, _ => ⟨[], by simp, rfl, fun i f s h _ => by simp at h⟩
  | f :: l, w, h => by
    simp only [allSized, Bool.and_eq_true, Option.isSome_iff_exists] at h
    obtain ⟨⟨s, hs⟩, hl⟩ := h
    obtain ⟨r, a, b, c⟩ := mapM_sizes l w hl
    refine ⟨(f.offset, s) :: r, by simp [List.mapM_cons, run_sizeOf hs]; simp at a; rw [a]; rfl, by simp [b], fun i g u hi hu => ?_⟩
    cases i with
    | zero => simp at hi; subst hi; rw [hs] at hu; cases hu; rfl
    | succ i => simp at hi; simpa using c i g u hi hu

theorem build_ok {η : Env} {w : World} {t : TypeId} {vs vs' : List (Nat × Value)} {v : Value} (h : aBuild P t vs = some v) (hr : PRel η vs vs') :
    ∃ v', (Instr.build t vs'.toArray).run P w = .ok v' w ∧ VRel η v v' := by
  unfold aBuild at h
  obtain ⟨d, h1, ha⟩ := bind_some.1 h
  obtain ⟨z, h2, hb⟩ := bind_some.1 ha
  obtain ⟨cs, h3, hc⟩ := map_some.1 hb
  clear h ha hb
  subst hc
  have hz : LRel η z.cells.toList z.cells.toList := (VRel.ground z (zero_some h2).1).cells
  cases d <;> simp only [buildD] at h3 <;> try (cases h3; done)
  case array len e =>
    obtain ⟨s, h4, h3⟩ := bind_some.1 h3
    obtain ⟨r', f1, f2⟩ := fill_ok (place' := fun i => some (i * s, s)) (fun _ _ h => h) hr hz h3
    exact ⟨.agg r', by simp [Instr.build, run_zero h2, run_underlying' h1, run_sizeOf h4, f1], .agg f2⟩
  case struct fs =>
    obtain ⟨h4, h3⟩ := guardO_some.1 h3
    obtain ⟨r, m1, m2, m3⟩ := mapM_sizes (P := P) fs.toList w h4
    obtain ⟨r', f1, f2⟩ := fill_ok (place' := fun i => r[i]?) (fun i p hp => by
      unfold placeS at hp
      obtain ⟨f, h5, hp⟩ := bind_some.1 hp
      obtain ⟨s, h6, hp⟩ := map_some.1 hp
      subst hp
      obtain ⟨fs', h7, h8⟩ := sub_some h5
      rw [h1] at h7; cases h7
      exact m3 i f s (by simpa using h8) h6) hr hz h3
    refine ⟨.agg r', ?_, .agg f2⟩
    have hm : (fs.mapM fun f => (do pure (f.offset, ← sizeOf f.type) : Sem (Nat × Nat))).run P w = .ok r.toArray w := by
      rw [Array.mapM_eq_mapM_toList]
      simp only [Sem.run_map, m1, Result.andThen]
    simp only [Instr.build, Sem.run_bind, run_zero h2, Result.andThen, run_underlying' h1, hm]
    simp [f1]

/-! ### Tests of type, calls' tuples -/
theorem extract_ok {η : Env} {w : World} {ix : Nat} {x x' v : Value} {vs : Array Value} (hx : x = .tuple vs) (h : vs.toList[ix]? = some v) (hr : VRel η x x') :
    ∃ v', (Instr.extract x' ix).run P w = .ok v' w ∧ VRel η v v' := by
  subst hx
  cases hr with
  | tuple hl =>
    obtain ⟨v', a, r⟩ := hl.nth h
    exact ⟨v', by simp [Instr.extract, a], r⟩

theorem notIface {t : TypeId} (h : (P.underlying t).map isIfaceD = some false) : ∃ d, P.underlying t = some d ∧ ∀ ms, d ≠ .interface ms := by
  obtain ⟨d, a, b⟩ := map_some.1 h
  exact ⟨d, a, by rintro ms rfl; simp [isIfaceD] at b⟩

theorem makeInterface_ok {w : World} {t : TypeId} {x : Value} (h : (P.underlying t).map isIfaceD = some false) : (Instr.makeInterface t x).run P w = .ok (.iface t x) w := by
  obtain ⟨d, a, b⟩ := notIface h
  cases d <;> first | exact absurd rfl (b _) | simp [Instr.makeInterface, run_underlying' a]

theorem assert_ok {η : Env} {w : World} {xt t : TypeId} {ok : Bool} {x x' v : Value} (hi : (P.underlying t).map isIfaceD = some false) (h : assertV P t ok x = some v) (hr : VRel η x x') :
    ∃ v', (Instr.typeAssert x' xt t ok).run P w = .ok v' w ∧ VRel η v v' := by
  obtain ⟨d, a, b⟩ := notIface hi
  have key : ∀ (u u' : Value), VRel η u u' → VRel η (found ok u) (if ok then .tuple #[u', .bool true] else u') := by
    intro u u' hu
    cases ok
    · simpa [found] using hu
    · simpa [found] using VRel.tuple (.cons hu (.cons (.bool true) .nil))
  have kz : ∀ z, zeroT P t = some z → VRel η (notFound true z) (.tuple #[z, .bool false]) := fun z hz =>
    .tuple (.cons (.ground z (zero_some hz).1) (.cons (.bool false) .nil))
  cases x <;> simp only [assertV] at h <;> try (cases h; done)
  case iface t' u =>
    cases hr with
    | iface _ hu =>
      rename_i u'
      split at h
      · rename_i he
        have e : t' = t := Nat.eq_of_beq_eq_true he
        cases h
        refine ⟨_, ?_, key u u' hu⟩
        cases d <;> first | exact absurd rfl (b _) | simp [Instr.typeAssert, run_underlying' a, e]
      · rename_i he
        have e : t' ≠ t := Nat.ne_of_beq_eq_false he
        obtain ⟨hok, h⟩ := guardO_some.1 h
        obtain ⟨z, hz, h⟩ := map_some.1 h
        subst h hok
        refine ⟨_, ?_, kz z hz⟩
        cases d <;> first | exact absurd rfl (b _) | simp [Instr.typeAssert, run_underlying' a, e, run_zero hz]
  case nilIface =>
    cases hr
    obtain ⟨hok, h⟩ := guardO_some.1 h
    obtain ⟨z, hz, h⟩ := map_some.1 h
    subst h hok
    refine ⟨_, ?_, kz z hz⟩
    cases d <;> first | exact absurd rfl (b _) | simp [Instr.typeAssert, run_underlying' a, run_zero hz]

end Go.Ev

/- Slicing, arithmetic, comparisons, maps that are read: the machine at what the evaluator answers. Conditions: none. -/
set_option linter.unusedVariables false
set_option linter.unusedSimpArgs false
set_option linter.unnecessarySimpa false
namespace Go.Ev
variable {P : Program}

/-! ### Slicing -/
theorem aBound_ok {η : Env} {x x' : Option Value} {dflt most n : Nat} (h : aBound x dflt most = some n) (hr : ORel η x x') :
    (x = none ∧ x' = none ∧ n = dflt ∧ dflt ≤ most) ∨ (∃ k, x' = some (.int k (n : Int)) ∧ n ≤ most) := by
  cases x with
  | none =>
    cases x' with
    | some _ => exact hr.elim
    | none =>
      obtain ⟨hb, h'⟩ := guardO_some.1 h; replace h := h'; clear h'
      cases h
      exact .inl ⟨rfl, rfl, rfl, Nat.le_of_ble_eq_true hb⟩
  | some v =>
    cases x' with
    | none => exact hr.elim
    | some v' =>
      simp only [aBound] at h
      obtain ⟨i, h1, h'⟩ := bind_some.1 h; replace h := h'; clear h'
      obtain ⟨k, _, rfl⟩ := intV_ok h1 hr
      obtain ⟨rfl, hl⟩ := bound1_ok h
      exact .inr ⟨k, rfl, hl⟩

theorem run_bound {w : World} {k : IntKind} {n y : Nat} (h : n ≤ y) (code : BoundsCode) : (Instr.sliceBound (.int k (n : Int)) y code).run P w = .ok n w := by
  have : (n : Int) ≤ (y : Int) := by omega
  simp [Instr.sliceBound, asIntOf, h]

theorem bounds2 {η : Env} {w : World} {lo lo' hi hi' : Option Value} {len cap cap' l h : Nat} (h1 : aBound hi len cap = some h) (h2 : aBound lo 0 h = some l) (hc : cap ≤ cap') (r1 : ORel η hi hi') (r2 : ORel η lo lo') (b : Bool) :
    (Instr.sliceBounds b len cap' lo' hi' none).run P w = .ok (l, h, cap') w ∧ l ≤ h ∧ h ≤ cap := by
  rcases aBound_ok h1 r1 with ⟨_, rfl, rfl, e1⟩ | ⟨k, rfl, e1⟩ <;> rcases aBound_ok h2 r2 with ⟨_, rfl, rfl, e2⟩ | ⟨k2, rfl, e2⟩ <;> refine ⟨?_, by omega, by omega⟩
  · simp [Instr.sliceBounds]
  · simp [Instr.sliceBounds, run_bound (P := P) (w := w) e2]
  · simp [Instr.sliceBounds, run_bound (P := P) (w := w) (Nat.le_trans e1 hc)]
  · simp [Instr.sliceBounds, run_bound (P := P) (w := w) (Nat.le_trans e1 hc), run_bound (P := P) (w := w) e2]

theorem bounds3 {η : Env} {w : World} {lo lo' hi hi' mx mx' : Option Value} {len cap cap' l h m : Nat} (hm : mx.isSome = true) (hh : hi.isSome = true) (h0 : aBound mx 0 cap = some m) (h1 : aBound hi 0 m = some h) (h2 : aBound lo 0 h = some l)
    (hc : cap ≤ cap') (r0 : ORel η mx mx') (r1 : ORel η hi hi') (r2 : ORel η lo lo') (b : Bool) :
    (Instr.sliceBounds b len cap' lo' hi' mx').run P w = .ok (l, h, m) w ∧ l ≤ h ∧ h ≤ m ∧ m ≤ cap := by
  rcases aBound_ok h0 r0 with ⟨rfl, _⟩ | ⟨k, rfl, e0⟩
  · cases hm
  rcases aBound_ok h1 r1 with ⟨rfl, _⟩ | ⟨k1, rfl, e1⟩
  · cases hh
  rcases aBound_ok h2 r2 with ⟨_, rfl, rfl, e2⟩ | ⟨k2, rfl, e2⟩ <;> refine ⟨?_, by omega, by omega, by omega⟩
  · simp [Instr.sliceBounds, run_bound (P := P) (w := w) (Nat.le_trans e0 hc), run_bound (P := P) (w := w) e1]
  · simp [Instr.sliceBounds, run_bound (P := P) (w := w) (Nat.le_trans e0 hc), run_bound (P := P) (w := w) e1, run_bound (P := P) (w := w) e2]

/-- What the machine makes of a slice, given its bounds. -/
def cut (size : Nat) (a : Option Addr) (l h m : Nat) : Value := .slice (if m = l then a else a.map (·.add (l * size))) (h - l) (m - l)

theorem run_slice {w : World} {t e : TypeId} {size len cap l h m : Nat} {a : Option Addr} {lo hi mx : Option Value} (ht : P.underlying t = some (.slice e)) (hs : sizeT P e = some size)
    (hb : (Instr.sliceBounds true len cap lo hi mx).run P w = .ok (l, h, m) w) : (Instr.sliceAt t (.slice a len cap) lo hi mx).run P w = .ok (cut size a l h m) w := by
  simp [Instr.sliceAt, Instr.slice, run_underlying' ht, hb, run_sizeOf hs, cut]

theorem run_sliceArr {w : World} {t e : TypeId} {size n l h m : Nat} {a : Addr} {lo hi mx : Option Value} (ht : P.underlying t = some (.array n e)) (hs : sizeT P e = some size)
    (hb : (Instr.sliceBounds false n n lo hi mx).run P w = .ok (l, h, m) w) : (Instr.sliceAt t (.pointer (some a)) lo hi mx).run P w = .ok (cut size (some a) l h m) w := by
  simp [Instr.sliceAt, run_underlying' ht, Instr.sureAddr, hb, run_sizeOf hs, cut]
  split <;> simp_all

theorem exact_ok {η : Env} {L : Loc} {size b o l h m : Nat} {v : Value} (hL : η b = some L) (hv : sliceExact size b o l h m = some v) :
    VRel η v (cut size (some ⟨L.blk, o + L.shift, none⟩) l h m) := by
  unfold sliceExact at hv
  cases hv
  unfold cut
  cases hb : Nat.beq m l with
  | true =>
    have e : m = l := Nat.eq_of_beq_eq_true hb
    rw [if_pos e]
    exact .sex _ _ hL
  | false =>
    have e : m ≠ l := Nat.ne_of_beq_eq_false hb
    rw [if_neg e]
    simp only [Option.map_some, addr_add]
    have : (⟨L.blk, o + L.shift + l * size, none⟩ : Addr) = ⟨L.blk, o + l * size + L.shift, none⟩ := by congr 1; omega
    rw [this]
    exact .sex _ _ hL

theorem sliceV_ok {η : Env} {size len cap len' cap' : Nat} {a a' : Option Addr} {lo hi mx : Option Value} {v : Value} (hr : VRel η (.slice a len cap) (.slice a' len' cap')) (hm : mx = none)
    (h : aSlice size a len cap lo hi mx = some v) : len' = len ∧ cap ≤ cap' ∧ ∃ h l, aBound hi len cap = some h ∧ aBound lo 0 h = some l ∧ (l ≤ h → h ≤ cap → VRel η v (cut size a' l h cap')) := by
  subst hm
  simp only [aSlice] at h
  obtain ⟨hh, h1, h'⟩ := bind_some.1 h; replace h := h'; clear h'
  obtain ⟨l, h2, h'⟩ := bind_some.1 h; replace h := h'; clear h'
  cases hr with
  | snil _ _ =>
    refine ⟨rfl, Nat.le_refl _, hh, l, h1, h2, fun _ _ => ?_⟩
    cases h
    have : cut size none l hh cap = .slice none (hh - l) (cap - l) := by unfold cut; split <;> rfl
    rw [this]; exact .snil _ _
  | sex _ _ hL => exact ⟨rfl, Nat.le_refl _, hh, l, h1, h2, fun _ _ => exact_ok hL h⟩
  | slow _ _ _ hL hc hz =>
    rename_i b o q L
    refine ⟨rfl, hc, hh, l, h1, h2, fun hl hcap => ?_⟩
    simp only [sliceFin, sliceAt] at h
    obtain ⟨hq, h'⟩ := guardO_some.1 h; replace h := h'; clear h'
    have hq' : q = size := by have := Nat.eq_of_beq_eq_true hq; omega
    subst hq'
    have e0 : 2 * q % 2 = 0 := by omega
    rw [e0] at h
    simp only [sliceLow, sliceLow0] at h
    unfold cut
    cases hb : Nat.beq cap l with
    | true =>
      have e : cap = l := Nat.eq_of_beq_eq_true hb
      subst e
      rw [hb] at h
      cases hb0 : Nat.beq cap 0 with
      | true =>
        have e : cap = 0 := Nat.eq_of_beq_eq_true hb0
        subst e
        rw [hb0] at h
        cases h
        have hh0 : hh = 0 := by omega
        subst hh0
        have : (if cap' = 0 then some (⟨L.blk, o + L.shift, none⟩ : Addr) else (some (⟨L.blk, o + L.shift, none⟩ : Addr)).map (·.add (0 * q))) = some ⟨L.blk, o + L.shift, none⟩ := by
          split <;> simp [addr_add]
        rw [this]
        exact .slow _ _ _ hL (by omega) (by simpa using hz)
      | false =>
        rw [hb0] at h
        cases h
        have hhe : hh - cap = 0 := by omega
        rw [hhe]
        split
        · rename_i e
          rw [e, Nat.sub_self]
          exact .ssome _ _ hL (by have : 0 * q = 0 := Nat.zero_mul q; omega)
        · simp only [Option.map_some, addr_add]
          refine .ssome _ _ hL ?_
          have : cap * q + (cap' - cap) * q = cap' * q := by rw [← Nat.add_mul]; congr 1; omega
          omega
    | false =>
      have e : cap ≠ l := Nat.ne_of_beq_eq_false hb
      rw [hb] at h
      cases h
      rw [if_neg (by omega)]
      simp only [Option.map_some, addr_add]
      have ea : (⟨L.blk, o + L.shift + l * q, none⟩ : Addr) = ⟨L.blk, o + l * q + L.shift, none⟩ := by congr 1; omega
      rw [ea]
      refine .slow _ _ _ hL (by omega) ?_
      have : l * q + (cap' - l) * q = cap' * q := by rw [← Nat.add_mul]; congr 1; omega
      omega
  | ssome o' _ hL hz =>
    rename_i b o q L
    refine ⟨rfl, Nat.zero_le _, hh, l, h1, h2, fun hl hcap => ?_⟩
    simp only [sliceFin, sliceAt] at h
    obtain ⟨hq, h'⟩ := guardO_some.1 h; replace h := h'; clear h'
    have e0 : (2 * q + 1) % 2 = 1 := by omega
    rw [e0] at h
    simp only [sliceLow] at h
    obtain ⟨_, h'⟩ := guardO_some.1 h; replace h := h'; clear h'
    have hq' : q = size := by have := Nat.eq_of_beq_eq_true hq; omega
    subst hq'
    cases h
    have hh0 : hh = 0 := by omega
    have hl0 : l = 0 := by omega
    subst hh0 hl0
    unfold cut
    have : (if cap' = 0 then some (⟨L.blk, o', none⟩ : Addr) else (some (⟨L.blk, o', none⟩ : Addr)).map (·.add (0 * q))) = some ⟨L.blk, o', none⟩ := by
      split <;> simp [addr_add]
    rw [this]
    exact .ssome _ _ hL (by simpa using hz)

theorem slice3V_ok {η : Env} {size len cap len' cap' : Nat} {a a' : Option Addr} {lo hi mx : Option Value} {v : Value} (hr : VRel η (.slice a len cap) (.slice a' len' cap')) (hm : mx.isSome = true)
    (h : aSlice size a len cap lo hi mx = some v) : len' = len ∧ cap ≤ cap' ∧ hi.isSome = true ∧ ∃ m h l, aBound mx 0 cap = some m ∧ aBound hi 0 m = some h ∧ aBound lo 0 h = some l ∧ (l ≤ h → h ≤ m → m ≤ cap → VRel η v (cut size a' l h m)) := by
  cases mx with
  | none => cases hm
  | some mv =>
  cases hi with
  | none => simp only [aSlice] at h; cases h
  | some hv =>
  simp only [aSlice] at h
  obtain ⟨m, h0, h'⟩ := bind_some.1 h; replace h := h'; clear h'
  obtain ⟨hh, h1, h'⟩ := bind_some.1 h; replace h := h'; clear h'
  obtain ⟨l, h2, h'⟩ := bind_some.1 h; replace h := h'; clear h'
  cases hr with
  | snil _ _ =>
    refine ⟨rfl, Nat.le_refl _, rfl, m, hh, l, h0, h1, h2, fun _ _ _ => ?_⟩
    cases h
    have : cut size none l hh m = .slice none (hh - l) (m - l) := by unfold cut; split <;> rfl
    rw [this]; exact .snil _ _
  | sex _ _ hL => exact ⟨rfl, Nat.le_refl _, rfl, m, hh, l, h0, h1, h2, fun _ _ _ => exact_ok hL h⟩
  | slow _ _ _ hL hc hz =>
    rename_i b o q L
    refine ⟨rfl, hc, rfl, m, hh, l, h0, h1, h2, fun hl hcap _ => ?_⟩
    simp only [sliceFin3, sliceAt3] at h
    obtain ⟨hq, h'⟩ := guardO_some.1 h; replace h := h'; clear h'
    have e0 : 2 * q % 2 = 0 := by omega
    rw [e0] at h
    simp only [sliceLow3] at h
    exact exact_ok hL h
  | ssome o' _ hL hz =>
    rename_i b o q L
    refine ⟨rfl, Nat.zero_le _, rfl, m, hh, l, h0, h1, h2, fun hl hcap hm0 => ?_⟩
    simp only [sliceFin3, sliceAt3] at h
    obtain ⟨hq, h'⟩ := guardO_some.1 h; replace h := h'; clear h'
    have e0 : (2 * q + 1) % 2 = 1 := by omega
    rw [e0] at h
    simp only [sliceLow3] at h
    obtain ⟨hm0, h'⟩ := guardO_some.1 h; replace h := h'; clear h'
    have hm0' : m = 0 := Nat.eq_of_beq_eq_true hm0
    have hq' : q = size := by have := Nat.eq_of_beq_eq_true hq; omega
    subst hq'
    cases h
    have hh0 : hh = 0 := by omega
    have hl0 : l = 0 := by omega
    subst hh0 hl0 hm0'
    unfold cut
    rw [if_pos rfl]
    exact .ssome _ _ hL (by have : 0 * q = 0 := Nat.zero_mul q; omega)

theorem sliceOp_ok {η : Env} {w : World} {t : TypeId} {x x' v : Value} {lo lo' hi hi' mx mx' : Option Value} (h : aSliceOp P t x lo hi mx = some v) (hr : VRel η x x') (rl : ORel η lo lo') (rh : ORel η hi hi') (rm : ORel η mx mx') :
    ∃ v', (Instr.sliceAt t x' lo' hi' mx').run P w = .ok v' w ∧ VRel η v v' := by
  unfold aSliceOp at h
  obtain ⟨d, h1, ha⟩ := bind_some.1 h
  clear h
  cases d <;> simp only [sliceD] at ha <;> try (cases ha; done)
  case string =>
    obtain ⟨hm, hb⟩ := guardO_some.1 ha
    obtain ⟨s, h2, hc⟩ := bind_some.1 hb
    clear ha hb
    obtain ⟨rfl, rfl⟩ := strV_ok h2 hr
    have hm' : mx' = none := by
      cases mx with
      | none => cases mx' with
        | none => rfl
        | some _ => exact rm.elim
      | some _ => cases hm
    subst hm'
    unfold sliceStr at hc
    obtain ⟨hh, h3, hd⟩ := bind_some.1 hc
    obtain ⟨l, h4, he⟩ := map_some.1 hd
    subst he
    obtain ⟨b1, b2, b3⟩ := bounds2 (P := P) (w := w) (cap' := s.size) h3 h4 (Nat.le_refl _) rh rl false
    refine ⟨.string (s.extract l hh), by simp [Instr.sliceAt, Instr.slice, run_underlying' h1, b1], ?_⟩
    have : s.extract l hh = ⟨((s.data.toList.drop l).take (hh - l)).toArray⟩ := by
      apply ByteArray.ext
      apply Array.ext'
      simp [List.extract_eq_take_drop]
    rw [this]; exact .string _
  case slice e =>
    obtain ⟨s, h2, hb⟩ := bind_some.1 ha
    obtain ⟨q, h3, hc⟩ := bind_some.1 hb
    clear ha hb
    have hx : ∃ a n c, x = .slice a n c ∧ q = (a, n, c) := by
      cases x <;> simp [slc3V] at h3
      exact ⟨_, _, _, rfl, h3.symm⟩
    obtain ⟨a, n, c, rfl, rfl⟩ := hx
    have hx' : ∃ a' n' c', x' = .slice a' n' c' := by cases hr <;> exact ⟨_, _, _, rfl⟩
    obtain ⟨a', n', c', rfl⟩ := hx'
    cases hmx : mx with
    | none =>
      subst hmx
      have hm' : mx' = none := by
        cases mx' with
        | none => rfl
        | some _ => exact rm.elim
      subst hm'
      obtain ⟨rfl, e1, hh, l, b1, b2, b3⟩ := sliceV_ok hr rfl hc
      obtain ⟨d1, d2, d3⟩ := bounds2 (P := P) (w := w) b1 b2 e1 rh rl true
      exact ⟨_, run_slice h1 h2 d1, b3 d2 d3⟩
    | some mv =>
      obtain ⟨rfl, e1, e2, m, hh, l, b0, b1, b2, b3⟩ := slice3V_ok hr (by rw [hmx]; rfl) hc
      obtain ⟨d1, d2, d3, d4⟩ := bounds3 (P := P) (w := w) (len := n') (by rw [hmx]; rfl) e2 b0 b1 b2 e1 rm rh rl true
      exact ⟨_, run_slice h1 h2 d1, b3 d2 d3 d4⟩
  case array n e =>
    obtain ⟨s, h2, hb⟩ := bind_some.1 ha
    obtain ⟨p, h3, hc⟩ := bind_some.1 hb
    clear ha hb
    obtain ⟨L, hL, rfl, rfl⟩ := addrV_ok h3 hr
    have hr2 : VRel η (.slice (some ⟨p.1, p.2, none⟩) n n) (.slice (some ⟨L.blk, p.2 + L.shift, none⟩) n n) := .sex _ _ hL
    cases hmx : mx with
    | none =>
      subst hmx
      have hm' : mx' = none := by
        cases mx' with
        | none => rfl
        | some _ => exact rm.elim
      subst hm'
      obtain ⟨_, e1, hh, l, b1, b2, b3⟩ := sliceV_ok hr2 rfl hc
      obtain ⟨d1, d2, d3⟩ := bounds2 (P := P) (w := w) b1 b2 e1 rh rl false
      exact ⟨_, run_sliceArr h1 h2 d1, b3 d2 d3⟩
    | some mv =>
      obtain ⟨_, e1, e2, m, hh, l, b0, b1, b2, b3⟩ := slice3V_ok hr2 (by rw [hmx]; rfl) hc
      obtain ⟨d1, d2, d3, d4⟩ := bounds3 (P := P) (w := w) (len := n) (by rw [hmx]; rfl) e2 b0 b1 b2 e1 rm rh rl false
      exact ⟨_, run_sliceArr h1 h2 d1, b3 d2 d3 d4⟩

/-! ### Arithmetic and comparisons -/
theorem run_eqGuard_int (w : World) (op : BinOp) (t : TypeId) (ox oy : Operand) (k : IntKind) (n : Int) (y : Value) : (eqGuard op t ox oy (.int k n) y).run P w = .ok () w := by
  rw [eqGuard_at_int]; rfl

theorem binII_ok {w : World} {op : BinOp} {k k' : IntKind} {a b : Int} {t : TypeId} {ox oy : Operand} {v : Value} (h : binII P op k a k' b = some v) :
    (do eqGuard op t ox oy (.int k a) (.int k' b); binOp op t (.int k a) (.int k' b) : Sem Value).run P w = .ok v w := by
  simp only [Sem.run_bind, run_eqGuard_int, Result.andThen]
  unfold binII at h
  cases hs : isShift op with
  | true =>
    rw [hs] at h
    have := pureRun_run h w
    cases op <;> simp [isShift] at hs <;> simpa [binOp] using this
  | false =>
    rw [hs] at h
    simp only at h
    split at h
    · rename_i hk
      have e : k = k' := of_decide_eq_true hk
      subst e
      cases op <;> simp [isShift] at hs <;> simp only [binInt] at h <;>
        first
          | (have := pureRun_run h w; simpa [binOp] using this)
          | (cases h; simp [binOp, Op.intArith, Op.intCmp])
    · cases h

theorem eqBytes_eq : ∀ (x y : List UInt8), eqBytes x y = (x == y)
  | [], [] => by simp [eqBytes]
  | [], _ :: _ => by simp [eqBytes]
  | _ :: _, [] => by simp [eqBytes]
  | a :: x, b :: y => by
    simp only [eqBytes]
    have hab : (Nat.beq a.toNat b.toNat) = (a == b) := by
      rw [Bool.eq_iff_iff]
      simp [UInt8.toNat_inj]
    rw [hab]
    cases h : (a == b) with
    | true => simp only [eqBytes_eq x y]; rw [List.cons_beq_cons, h, Bool.true_and]
    | false => rw [List.cons_beq_cons, h, Bool.false_and]

theorem ltBytes_eq : ∀ (x y : List UInt8), ltBytes x y = Op.bytesLess x y
  | [], [] => by simp [ltBytes, Op.bytesLess]
  | [], _ :: _ => by simp [ltBytes, Op.bytesLess]
  | _ :: _, [] => by simp [ltBytes, Op.bytesLess]
  | a :: x, b :: y => by
    have hab : (Nat.beq a.toNat b.toNat) = (a == b) := by
      rw [Bool.eq_iff_iff]
      simp [UInt8.toNat_inj]
    have hlt : (Nat.blt a.toNat b.toNat) = decide (a < b) := by
      rw [Bool.eq_iff_iff]
      simp [Nat.blt_eq, UInt8.lt_iff_toNat_lt]
    simp only [ltBytes, Op.bytesLess, hab, hlt, ltBytes_eq x y]
    cases decide (a < b) <;> cases (a == b) <;> simp

theorem bytesLess_total : ∀ (x y : List UInt8), (!(Op.bytesLess y x)) = (Op.bytesLess x y || (x == y))
  | [], [] => by simp [Op.bytesLess]
  | [], _ :: _ => by simp [Op.bytesLess]
  | _ :: _, [] => by simp [Op.bytesLess]
  | a :: x, b :: y => by
    simp only [Op.bytesLess, List.cons_beq_cons]
    have ih := bytesLess_total x y
    by_cases h1 : a < b
    · have h2 : ¬ b < a := fun h => by rw [UInt8.lt_iff_toNat_lt] at h h1; omega
      have h3 : (b == a) = false := by
        simp only [beq_eq_false_iff_ne]; rintro rfl; exact absurd h1 (by rw [UInt8.lt_iff_toNat_lt]; omega)
      simp [h1, h2, h3]
    · by_cases h2 : b < a
      · have h3 : (a == b) = false := by
          simp only [beq_eq_false_iff_ne]; rintro rfl; exact absurd h2 h1
        simp [h1, h2, h3]
      · have e : a = b := by
          rw [UInt8.lt_iff_toNat_lt] at h1 h2
          exact UInt8.toNat_inj.1 (by omega)
        subst e
        simp only [h1, decide_false, Bool.false_or, beq_self_eq_true, Bool.true_and, ih]

theorem run_eqGuard_string (w : World) (op : BinOp) (t : TypeId) (ox oy : Operand) (s : ByteArray) (y : Value) : (eqGuard op t ox oy (.string s) y).run P w = .ok () w := by
  cases op <;> simp [eqGuard] <;> rfl

theorem binStr_ok {w : World} {op : BinOp} {s u : ByteArray} {t : TypeId} {ox oy : Operand} {v : Value} (h : binStr op s.data.toList u.data.toList = some v) :
    (do eqGuard op t ox oy (.string s) (.string u); binOp op t (.string s) (.string u) : Sem Value).run P w = .ok v w := by
  simp only [Sem.run_bind, run_eqGuard_string, Result.andThen]
  cases op <;> simp only [binStr] at h <;> try (cases h; done)
  case add =>
    obtain ⟨hl, h'⟩ := guardO_some.1 h; replace h := h'; clear h'
    cases h
    have hle := Nat.le_of_ble_eq_true hl
    simp at hle
    have hsz : ¬ ((s.size : Int) + (u.size : Int)) > IntKind.i64.max := by simp; omega
    simp only [binOp, Op.stringOp]
    rw [Sem.run_ite, if_neg (by simpa using hsz)]
    simp
    apply ByteArray.ext
    apply Array.ext'
    simp
  case gtr =>
    cases h
    have e : ltBytes u.data.toList s.data.toList = !(Op.bytesLess s.data.toList u.data.toList || (s.data.toList == u.data.toList)) := by
      rw [← bytesLess_total, ltBytes_eq, Bool.not_not]
    rw [e]
    simp only [binOp, Op.stringOp, ByteArray.toList_eq]
    rfl
  all_goals
    cases h
    simp [binOp, Op.stringOp, eqBytes_eq, ltBytes_eq, ByteArray.toList_eq, bytesLess_total]

theorem optBlk_isNone {η : Env} {r r' : Option Nat} (h : optBlk η r r') : r'.isNone = r.isNone := by
  cases r with
  | none => cases h; rfl
  | some r => obtain ⟨L, _, rfl⟩ := h; rfl

theorem nilness_ok {η : Env} {v v' : Value} {b : Bool} (h : nilness v = some b) (hr : VRel η v v') : nilness v' = some b := by
  cases hr <;> simp_all [nilness]

theorem isIfaceV_ok {η : Env} {v v' : Value} (h : isIfaceV v = true) (hr : VRel η v v') : isIfaceV v' = true := by cases hr <;> simp_all [isIfaceV]
theorem isFuncV_ok {η : Env} {v v' : Value} (h : isFuncV v = true) (hr : VRel η v v') : isFuncV v' = true := by cases hr <;> simp_all [isFuncV]
theorem isSliceV_ok {η : Env} {v v' : Value} (h : isSliceV v = true) (hr : VRel η v v') : isSliceV v' = true := by cases hr <;> simp_all [isSliceV]
theorem isMapV_ok {η : Env} {v v' : Value} (h : isMapV v = true) (hr : VRel η v v') : isMapV v' = true := by cases hr <;> simp_all [isMapV]

theorem ptrV_ok {η : Env} {v v' : Value} {a : Option Addr} (h : ptrV v = some a) (hr : VRel η v v') :
    v = .pointer a ∧ ((a = none ∧ v' = .pointer none) ∨ ∃ b o L, a = some ⟨b, o, none⟩ ∧ η b = some L ∧ v' = .pointer (some ⟨L.blk, o + L.shift, none⟩)) := by
  cases v <;> simp [ptrV] at h
  subst h
  cases hr with
  | pnil => exact ⟨rfl, .inl ⟨rfl, rfl⟩⟩
  | ptr hL => exact ⟨rfl, .inr ⟨_, _, _, rfl, hL, rfl⟩⟩

theorem sameAddr_ne {w : World} {a b : Nat} {o o' : Nat} {c c' : Array Value} {e e' : TypeId} (ha : w.heap[a]? = some (.cells c e (0, 0))) (hb : w.heap[b]? = some (.cells c' e' (0, 0))) (hne : a ≠ b) :
    (sameAddr ⟨a, o, none⟩ ⟨b, o', none⟩).run P w = .ok false w := by
  have f1 : ∀ k, w.frozen? ⟨a, k, none⟩ = false := fun k => frozen_of ha (by simp)
  have f2 : ∀ k, w.frozen? ⟨b, k, none⟩ = false := fun k => frozen_of hb (by simp)
  have hbe : (a == b) = false := by simp [hne]
  simp [sameAddr, hbe, f1, f2, noView, viewAt, shape_of ha, shape_of hb, mayBeOne, stringish]

theorem sameAddr_eq {w : World} {a o o' : Nat} : (sameAddr ⟨a, o, none⟩ ⟨a, o', none⟩).run P w = .ok (o == o') w := by
  have : ((⟨a, o, none⟩ : Addr) == ⟨a, o', none⟩) = (o == o') := by
    rw [Bool.eq_iff_iff]; simp
  simp [sameAddr, this]

theorem eqPtr_ok {η : Env} {K : AHeap} {w : World} (hd : Desc P η K w) (d : Nat) {e t : TypeId} {a b : Option Addr} {x' y' : Value} {r : Bool} (ht : P.underlying t = some (.pointer e)) (h : eqPtr P K e a b = some r)
    (ha : (a = none ∧ x' = .pointer none) ∨ ∃ n o L, a = some ⟨n, o, none⟩ ∧ η n = some L ∧ x' = .pointer (some ⟨L.blk, o + L.shift, none⟩))
    (hb : (b = none ∧ y' = .pointer none) ∨ ∃ n o L, b = some ⟨n, o, none⟩ ∧ η n = some L ∧ y' = .pointer (some ⟨L.blk, o + L.shift, none⟩)) :
    (Op.equalIn (d + 1) t x' y').run P w = .ok r w := by
  rcases ha with ⟨rfl, rfl⟩ | ⟨n, o, L, rfl, hL, rfl⟩ <;> rcases hb with ⟨rfl, rfl⟩ | ⟨n', o', L', rfl, hL', rfl⟩ <;> simp only [eqPtr] at h
  · cases h; simp [Op.equalIn, run_underlying' ht]
  · cases h; simp [Op.equalIn, run_underlying' ht]
  · cases h; simp [Op.equalIn, run_underlying' ht]
  · obtain ⟨hs, h'⟩ := guardO_some.1 h; replace h := h'; clear h'
    have hs0 : (sizeT P e).getD 0 ≠ 0 := of_decide_eq_true hs
    cases hse : sizeT P e with
    | none => rw [hse] at hs0; simp at hs0
    | some n0 =>
    rw [hse] at hs0; simp at hs0
    unfold eqAddr at h
    obtain ⟨e1, h1, h'⟩ := bind_some.1 h; replace h := h'; clear h'
    obtain ⟨e2, h2, h'⟩ := bind_some.1 h; replace h := h'; clear h'
    obtain ⟨vs1, o1⟩ := live_obj h1
    obtain ⟨vs2, o2⟩ := live_obj h2
    have goal : (Op.equalIn (d + 1) t (.pointer (some ⟨L.blk, o + L.shift, none⟩)) (.pointer (some ⟨L'.blk, o' + L'.shift, none⟩))).run P w = (sameAddr ⟨L.blk, o + L.shift, none⟩ ⟨L'.blk, o' + L'.shift, none⟩).run P w := by
      simp [Op.equalIn, run_underlying' ht, run_sizeOf hse, hs0]
    rw [goal]
    split at h
    · rename_i hbq
      have en : n = n' := Nat.eq_of_beq_eq_true hbq
      subst en
      rw [hL] at hL'; cases hL'
      cases h
      rw [sameAddr_eq]
      congr 1
      rw [Bool.eq_iff_iff]
      simp
    · rename_i hbq
      have en : n ≠ n' := Nat.ne_of_beq_eq_false hbq
      obtain ⟨hu, h'⟩ := guardO_some.1 h; replace h := h'; clear h'
      cases h
      simp at hu
      obtain ⟨c1, f1, a1, _, _, u1, _⟩ := hd.cells hL o1
      obtain ⟨c2, f2, a2, _, _, u2, _⟩ := hd.cells hL' o2
      have hf1 := u1.1 hu.1
      have hf2 := u2.1 hu.2
      subst hf1 hf2
      refine sameAddr_ne a1 a2 fun he => ?_
      rcases hd.inj _ _ _ _ hL hL' he en with hx | hx
      · cases hx _ o1
      · cases hx _ o2

theorem eqNil_ok {η : Env} {w : World} (n : Nat) {t : TypeId} {d : TypeDesc} {x x' y y' : Value} {r : Bool} (ht : P.underlying t = some d) (h : eqNil x y = some r) (hx : VRel η x x') (hy : VRel η y y')
    (hk : (∃ ms, d = .interface ms ∧ isIfaceV x = true ∧ isIfaceV y = true) ∨ (∃ e, d = .slice e ∧ isSliceV x = true ∧ isSliceV y = true) ∨ (∃ k e, d = .map k e ∧ isMapV x = true ∧ isMapV y = true) ∨ (∃ p q v, d = .func p q v ∧ isFuncV x = true ∧ isFuncV y = true)) :
    (Op.equalIn (n + 1) t x' y').run P w = .ok r w := by
  unfold eqNil at h
  obtain ⟨a, h1, h'⟩ := bind_some.1 h; replace h := h'; clear h'
  obtain ⟨b, h2, h'⟩ := bind_some.1 h; replace h := h'; clear h'
  obtain ⟨h3, h'⟩ := guardO_some.1 h; replace h := h'; clear h'
  cases h
  have n1 := nilness_ok h1 hx
  have n2 := nilness_ok h2 hy
  rcases hk with ⟨ms, rfl, k1, k2⟩ | ⟨e, rfl, k1, k2⟩ | ⟨k, e, rfl, k1, k2⟩ | ⟨p, q, v, rfl, k1, k2⟩
  · have m1 := isIfaceV_ok k1 hx
    have m2 := isIfaceV_ok k2 hy
    cases x' <;> simp [isIfaceV] at m1 <;> cases y' <;> simp [isIfaceV] at m2 <;> simp [nilness] at n1 n2 <;> subst n1 n2 <;> first | (simp at h3; done) | simp [Op.equalIn, run_underlying' ht]
  · have m1 := isSliceV_ok k1 hx
    have m2 := isSliceV_ok k2 hy
    cases x' <;> simp [isSliceV] at m1
    cases y' <;> simp [isSliceV] at m2
    rename_i a1 _ _ a2 _ _
    simp [nilness] at n1 n2
    subst n1 n2
    cases a1 <;> cases a2 <;> first | (simp at h3; done) | simp [Op.equalIn, run_underlying' ht]
  · have m1 := isMapV_ok k1 hx
    have m2 := isMapV_ok k2 hy
    cases x' <;> simp [isMapV] at m1
    cases y' <;> simp [isMapV] at m2
    rename_i a1 a2
    simp [nilness] at n1 n2
    subst n1 n2
    cases a1 <;> cases a2 <;> first | (simp at h3; done) | simp [Op.equalIn, run_underlying' ht]
  · have m1 := isFuncV_ok k1 hx
    have m2 := isFuncV_ok k2 hy
    cases x' <;> simp [isFuncV] at m1 <;> cases y' <;> simp [isFuncV] at m2 <;> simp [nilness] at n1 n2 <;> subst n1 n2 <;> first | (simp at h3; done) | simp [Op.equalIn, run_underlying' ht]

end Go.Ev

/- Binary operations, lengths, maps that are read, nil checks: the machine at what the evaluator answers. Conditions: none. -/
set_option linter.unusedVariables false
set_option linter.unusedSimpArgs false
set_option linter.unnecessarySimpa false
namespace Go.Ev
variable {P : Program}

theorem binII_ground {op : BinOp} {k k' : IntKind} {a b : Int} {v : Value} (h : binII P op k a k' b = some v) : ground v = true := by
  unfold binII at h
  split at h
  · cases op <;> simp [Op.shift] at h <;> (split at h <;> first | (cases h; rfl) | (cases h; done) | (simp [runtimePanic] at h; cases h; done) | (unfold stuck at h; cases h))
  · split at h
    · cases op <;> simp only [binInt] at h <;> first
        | (cases h; rfl)
        | (cases h; done)
        | (simp [Op.intBits] at h; cases h; rfl)
        | (simp only [Op.intDiv] at h; split at h
           · simp [runtimePanic] at h; cases h
           · cases h; rfl)
    · cases h

theorem run_eqGuard_other (w : World) (op : BinOp) (t : TypeId) (ox oy : Operand) (x y : Value) (h1 : ∀ a b, ¬ (x = .agg a ∧ y = .agg b)) (h2 : x = .nilIface → y = .nilIface → (isConst ox || isConst oy) = true) :
    (eqGuard op t ox oy x y).run P w = .ok () w := by
  unfold eqGuard
  by_cases hop : (op matches .eql | .neq) = true
  · cases x <;> cases y <;> first
      | (simp [hop]; done)
      | (exact absurd ⟨rfl, rfl⟩ (h1 _ _))
      | (have := h2 rfl rfl
         cases ox <;> cases oy <;> simp_all [isConst])
  · cases op <;> first | exact absurd rfl hop | simp

theorem equal_run {w : World} {t : TypeId} {x y : Value} {r : Bool} (h : (Op.equalIn (9999 + 1) t x y).run P w = .ok r w) : (Op.equal t x y).run P w = .ok r w := h

theorem binEq_ok {w : World} {op : BinOp} {t : TypeId} {ox oy : Operand} {x y : Value} {r : Bool} {v : Value} (hg : (eqGuard op t ox oy x y).run P w = .ok () w) (he : (Op.equal t x y).run P w = .ok r w)
    (hx : isIfaceV x = true ∨ isFuncV x = true ∨ isSliceV x = true ∨ isMapV x = true ∨ (ptrV x).isSome = true) (h : binEq op (some r) = some v) :
    (do eqGuard op t ox oy x y; binOp op t x y : Sem Value).run P w = .ok v w ∧ ground v = true := by
  simp only [Sem.run_bind, hg, Result.andThen]
  cases op <;> simp only [binEq] at h <;> try (cases h; done)
  all_goals
    cases h
    refine ⟨?_, rfl⟩
    cases x <;> simp [isIfaceV, isFuncV, isSliceV, isMapV, ptrV] at hx <;> simp [binOp, he]

theorem bin_ok {η : Env} {K : AHeap} {w : World} (hd : Desc P η K w) {op : BinOp} {t : TypeId} {ox oy : Operand} {x x' y y' v : Value} (h : aBin P x K op t ox oy y = some v) (hx : VRel η x x') (hy : VRel η y y') :
    ∃ v', (do eqGuard op t ox oy x' y'; binOp op t x' y' : Sem Value).run P w = .ok v' w ∧ VRel η v v' := by
  unfold aBin at h
  split at h
  · cases y <;> simp only [binIV] at h <;> try (cases h; done)
    cases hx; cases hy
    exact ⟨v, binII_ok h, .ground _ (binII_ground h)⟩
  · cases y <;> simp only [binSV] at h <;> try (cases h; done)
    cases hx; cases hy
    refine ⟨v, binStr_ok h, .ground _ ?_⟩
    cases op <;> simp only [binStr] at h <;> first | (cases h; rfl) | (cases h; done) | (have := (guardO_some.1 h).2; cases this; rfl)
  · replace h : binOther P K op t ox oy y x = some v := h
    unfold binOther at h
    split at h
    · obtain ⟨hg, h⟩ := guardO_some.1 h
      obtain ⟨u, h1, h⟩ := bind_some.1 h
      obtain ⟨h2, h⟩ := guardO_some.1 h
      cases h
      simp at hg
      rw [hx.eq_of_ground hg.1, hy.eq_of_ground hg.2]
      exact ⟨_, pureRun_run h1 w, .grnd h2⟩
    · cases hr : ((P.underlying t).bind fun d => aEqD P d K x y (isConst ox || isConst oy)) with
      | none => rw [hr] at h; cases op <;> cases h
      | some r =>
        rw [hr] at h
        obtain ⟨d, ht, hq⟩ := bind_some.1 hr
        have fin : (eqGuard op t ox oy x' y').run P w = .ok () w → (Op.equal t x' y').run P w = .ok r w → (isIfaceV x' = true ∨ isFuncV x' = true ∨ isSliceV x' = true ∨ isMapV x' = true ∨ (ptrV x').isSome = true) → ∃ v', (do eqGuard op t ox oy x' y'; binOp op t x' y' : Sem Value).run P w = .ok v' w ∧ VRel η v v' :=
          fun g e k => let ⟨a, b⟩ := binEq_ok g e k h; ⟨v, a, .ground _ b⟩
        cases d <;> simp only [aEqD] at hq <;> try (cases hq; done)
        case pointer e =>
          obtain ⟨a, h1, hq1⟩ := bind_some.1 hq
          obtain ⟨b, h2, hq2⟩ := bind_some.1 hq1
          obtain ⟨rfl, ka⟩ := ptrV_ok h1 hx
          obtain ⟨rfl, kb⟩ := ptrV_ok h2 hy
          have nx : ∃ q, x' = .pointer q := by rcases ka with ⟨_, e⟩ | ⟨_, _, _, _, _, e⟩ <;> exact ⟨_, e⟩
          obtain ⟨q, rfl⟩ := nx
          exact fin (run_eqGuard_other _ _ _ _ _ _ _ (by rintro _ _ ⟨e, _⟩; cases e) (by intro e; cases e)) (equal_run (eqPtr_ok hd 9999 ht hq2 ka kb)) (by simp [ptrV])
        case interface ms =>
          obtain ⟨hg, hq1⟩ := guardO_some.1 hq
          simp only [Bool.and_eq_true] at hg
          obtain ⟨⟨g1, g2⟩, g3⟩ := hg
          have m1 := isIfaceV_ok g1 hx
          exact fin (run_eqGuard_other _ _ _ _ _ _ _ (by rintro _ _ ⟨e, _⟩; subst e; cases m1) (fun _ _ => g3)) (equal_run (eqNil_ok 9999 ht hq1 hx hy (.inl ⟨_, rfl, g1, g2⟩))) (.inl m1)
        case slice e =>
          obtain ⟨hg, hq1⟩ := guardO_some.1 hq
          simp only [Bool.and_eq_true] at hg
          have m1 := isSliceV_ok hg.1 hx
          exact fin (run_eqGuard_other _ _ _ _ _ _ _ (by rintro _ _ ⟨e, _⟩; subst e; cases m1) (by intro e; subst e; cases m1)) (equal_run (eqNil_ok 9999 ht hq1 hx hy (.inr (.inl ⟨_, rfl, hg.1, hg.2⟩)))) (.inr (.inr (.inl m1)))
        case map k e =>
          obtain ⟨hg, hq1⟩ := guardO_some.1 hq
          simp only [Bool.and_eq_true] at hg
          have m1 := isMapV_ok hg.1 hx
          exact fin (run_eqGuard_other _ _ _ _ _ _ _ (by rintro _ _ ⟨e, _⟩; subst e; cases m1) (by intro e; subst e; cases m1)) (equal_run (eqNil_ok 9999 ht hq1 hx hy (.inr (.inr (.inl ⟨_, _, rfl, hg.1, hg.2⟩))))) (.inr (.inr (.inr (.inl m1))))
        case func p q b =>
          obtain ⟨hg, hq1⟩ := guardO_some.1 hq
          simp only [Bool.and_eq_true] at hg
          have m1 := isFuncV_ok hg.1 hx
          exact fin (run_eqGuard_other _ _ _ _ _ _ _ (by rintro _ _ ⟨e, _⟩; subst e; cases m1) (by intro e; subst e; cases m1)) (equal_run (eqNil_ok 9999 ht hq1 hx hy (.inr (.inr (.inr ⟨_, _, _, rfl, hg.1, hg.2⟩))))) (.inr (.inl m1))

/-! ### nil checks, lengths -/
theorem nilCheck_ok {η : Env} {v v' : Value} (h : nilCk v = true) (hr : VRel η v v') : nilCk v' = true := by cases hr <;> simp_all [nilCk]

theorem mapE_ok {η : Env} {K : AHeap} {w : World} (hd : Desc P η K w) {r : Nat} {L : Loc} {ec : List MapEntry × Nat} (hL : η r = some L) (h : K.entries r = some ec) :
    ∃ es' : Array MapEntry, w.heap[L.blk]? = some (.map es' ec.2) ∧ ERel η ec.1 es'.toList ∧ K.obj r = some (.map ec.1 ec.2) := by
  unfold AHeap.entries at h
  obtain ⟨o, ho, h1⟩ := bind_some.1 h
  cases o <;> simp [AObj.entries] at h1
  subst h1
  obtain ⟨es', a, b⟩ := hd.obj r L _ hL ho
  exact ⟨es', a, b, ho⟩

theorem ERel.length {η : Env} : ∀ {l l' : List MapEntry}, ERel η l l' → l'.length = l.length
  | _, _, .nil => rfl
  | _, _, .cons _ _ _ t => by simp [ERel.length t]

theorem run_getObj {w : World} {r : Nat} {o : Obj} (h : w.heap[r]? = some o) (hc : ∀ c e f, o ≠ .cells c e f) : (getObj r).run P w = .ok o w := by
  cases o <;> simp [getObj, Sem.run, h] <;> exact absurd rfl (hc _ _ _)

theorem lenNat_ok {η : Env} {K : AHeap} {w : World} (hd : Desc P η K w) {t ty : TypeId} {ts : List TypeId} {xs' : List Value} {d : TypeDesc} {x x' : Value} {n : Nat} (ht : P.underlying t = some d) (h : lenNat P d K x = some n) (hr : VRel η x x') :
    (Builtin.len_ (t :: ts).toArray ty (x' :: xs').toArray).run P w = .ok (.int .i64 n) w := by
  cases d <;> simp only [lenNat] at h <;> try (cases h; done)
  case string =>
    obtain ⟨s, h1, ha⟩ := map_some.1 h
    clear h
    obtain ⟨rfl, rfl⟩ := strV_ok h1 hr
    subst ha
    simp [Builtin.len_, run_underlying' ht, goInt]
  case pointer a =>
    obtain ⟨d', h1, h⟩ := bind_some.1 h
    cases d' <;> simp at h
    subst h
    simp [Builtin.len_, run_underlying' ht, run_underlying' h1, goInt]
  case slice e =>
    split at h
    · rename_i hs
      cases x <;> simp [isSliceV] at hs
      simp [lenV] at h
      subst h
      cases hr <;> simp [Builtin.len_, run_underlying' ht, goInt]
    · cases h
  case array k e =>
    cases h
    simp [Builtin.len_, run_underlying' ht, goInt]
  case map k e =>
    obtain ⟨r, h1, ha⟩ := bind_some.1 h
    obtain ⟨es, h2, hb⟩ := map_some.1 ha
    clear h ha
    obtain ⟨r', rfl, ho⟩ := mapV_ok h1 hr
    cases r with
    | none =>
      cases ho
      cases h2; subst hb
      simp [Builtin.len_, run_underlying' ht, goInt]
    | some r =>
      obtain ⟨L, hL, rfl⟩ := ho
      obtain ⟨ec, h3, rfl⟩ := map_some.1 h2
      obtain ⟨es', e1, e2, _⟩ := mapE_ok hd hL h3
      have hl : es'.size = ec.1.length := by have := e2.length; simpa using this
      subst hb
      simp [Builtin.len_, run_underlying' ht, run_getObj e1, goInt, hl]

theorem cap_ok {η : Env} {w : World} {t ty : TypeId} {ts : List TypeId} {xs' : List Value} {x x' v : Value} (h : aCap P t x = some v) (hr : VRel η x x') :
    (Builtin.cap_ (t :: ts).toArray ty (x' :: xs').toArray).run P w = .ok v w ∧ ground v = true := by
  unfold aCap at h
  obtain ⟨e, h1, ha⟩ := bind_some.1 h
  obtain ⟨n, h2, hb⟩ := map_some.1 ha
  subst hb
  have ht := elem_some h1
  refine ⟨?_, rfl⟩
  unfold capNat at h2
  split at h2
  · cases h2; cases hr; simp [Builtin.cap_, run_underlying' ht, goInt]
  · cases h2; cases hr; simp [Builtin.cap_, run_underlying' ht, goInt]
  · cases h2

theorem allInt_ground : ∀ {l : List Value}, allInt l = true → grounds l = true
  | [], _ => rfl
  | v :: l, h => by
    cases v <;> simp only [allInt] at h <;> first | (cases h; done) | simpa [grounds, ground] using allInt_ground h

/-! ### Maps that are read -/
theorem ERel.keys {η : Env} : ∀ {l l' : List MapEntry}, ERel η l l' → allGroundKeys l = true → l'.map (·.key) = l.map (·.key)
  | _, _, .nil, _ => rfl
  | _, _, .cons hk _ _ t, h => by
    simp only [allGroundKeys, Bool.and_eq_true] at h
    simp [hk.eq_of_ground (grnd_ground h.1), t.keys h.2]

/-- The entries, their values seen as nothing. -/
theorem findNow_keys (d : TypeDesc) (k : Value) : ∀ (l l' : List MapEntry) (i : Nat), l'.map (·.key) = l.map (·.key) →
    (Instr.findNow d k l i = none → Instr.findNow d k l' i = none) ∧
    (Instr.findNow d k l i = some none → Instr.findNow d k l' i = some none) ∧
    (∀ j v, Instr.findNow d k l i = some (some (j, v)) → ∃ v', Instr.findNow d k l' i = some (some (j, v')) ∧ ∃ n e e', j = i + n ∧ l[n]? = some e ∧ l'[n]? = some e' ∧ e.val = v ∧ e'.val = v')
  | [], l', i, h => by
    cases l' with
    | nil => simp [Instr.findNow]
    | cons _ _ => simp at h
  | e :: l, [], i, h => by simp at h
  | e :: l, e' :: l', i, h => by
    simp only [List.map_cons, List.cons.injEq] at h
    obtain ⟨hk, ht⟩ := h
    simp only [Instr.findNow, hk]
    cases hs : Instr.sameNow d k e.key with
    | none => simp
    | some b =>
      cases b with
      | true =>
        refine ⟨by simp, by simp, fun j v hj => ?_⟩
        simp at hj
        obtain ⟨rfl, rfl⟩ := hj
        exact ⟨e'.val, rfl, 0, e, e', rfl, rfl, rfl, rfl, rfl⟩
      | false =>
        obtain ⟨a, b, c⟩ := findNow_keys d k l l' (i + 1) ht
        refine ⟨a, b, fun j v hj => ?_⟩
        obtain ⟨v', h1, n, x, x', h2, h3, h4, h5, h6⟩ := c j v hj
        exact ⟨v', h1, n + 1, x, x', by omega, by simpa using h3, by simpa using h4, h5, h6⟩

theorem pureRun_bind {α β : Type} : ∀ (s : Sem α) (f : α → Sem β), pureRun P (s >>= f) = (pureRun P s).bind fun a => pureRun P (f a)
  | .pure _, _ => rfl
  | .program k, f => pureRun_bind (k P) f
  | .mark _ k, f => pureRun_bind k f
  | .load _ _ _, _ => rfl
  | .store _ _ _ _, _ => rfl
  | .new _ _, _ => rfl
  | .shape _ _, _ => rfl
  | .freeze _ _ _, _ => rfl
  | .frozen _ _, _ => rfl
  | .getObj _ _, _ => rfl
  | .setObj _ _ _, _ => rfl
  | .choose _ _, _ => rfl
  | .sys _ _, _ => rfl
  | .halt _, _ => rfl

theorem findAsking_keys (kt : TypeId) (k : Value) : ∀ (l l' : List MapEntry) (i : Nat), l'.map (·.key) = l.map (·.key) →
    ∀ r, pureRun P (Instr.findAsking kt k l i) = some r → ∃ r', pureRun P (Instr.findAsking kt k l' i) = some r' ∧
      ((r = none ∧ r' = none) ∨ ∃ n v e', r = some (i + n, v) ∧ l'[n]? = some e' ∧ r' = some (i + n, e'.val))
  | [], l', i, h => by
    cases l' with
    | nil => intro r hr; cases hr; exact ⟨none, rfl, .inl ⟨rfl, rfl⟩⟩
    | cons _ _ => simp at h
  | e :: l, [], i, h => by simp at h
  | e :: l, e' :: l', i, h => by
    simp only [List.map_cons, List.cons.injEq] at h
    obtain ⟨hk, ht⟩ := h
    intro r hr
    simp only [Instr.findAsking, pureRun_bind, hk] at hr ⊢
    obtain ⟨b, hb, hr⟩ := bind_some.1 hr
    rw [hb]
    simp only [Option.bind_some]
    cases b with
    | true => cases hr; exact ⟨_, rfl, .inr ⟨0, e.val, e', rfl, rfl, rfl⟩⟩
    | false =>
      obtain ⟨r', h1, h2⟩ := findAsking_keys kt k l l' (i + 1) ht r hr
      refine ⟨r', h1, ?_⟩
      rcases h2 with h2 | ⟨n, v, x, h3, h4, h5⟩
      · exact .inl h2
      · exact .inr ⟨n + 1, v, x, by rw [h3]; congr 2; omega, by simpa using h4, by rw [h5]; congr 2; omega⟩

theorem ERel.nth {η : Env} : ∀ {l l' : List MapEntry}, ERel η l l' → ∀ {i : Nat} {e e' : MapEntry}, l[i]? = some e → l'[i]? = some e' → VRel η e.key e'.key ∧ VRel η e.val e'.val ∧ e'.born = e.born
  | _, _, .nil, i, e, e', h, _ => by simp at h
  | _, _, .cons hk hv hb t, i, e, e', h, h' => by
    cases i with
    | zero => simp at h h'; subst h h'; exact ⟨hk, hv, hb⟩
    | succ i => exact t.nth (by simpa using h) (by simpa using h')

/-- The place of a key, and its value, in the machine's map. -/
theorem findE_ok {η : Env} {kt : TypeId} {k : Value} {es : List MapEntry} {es' : List MapEntry} {f : Option (Nat × Value)} (w : World) (h : findE P kt k es = some f) (hr : ERel η es es') :
    grnd k = true ∧ ∃ f', (Instr.findKey kt k es').run P w = .ok f' w ∧ ((f = none ∧ f' = none) ∨ ∃ i e e', f = some (i, e.val) ∧ es[i]? = some e ∧ es'[i]? = some e' ∧ f' = some (i, e'.val)) := by
  unfold findE at h
  obtain ⟨hg, ha⟩ := guardO_some.1 h
  obtain ⟨d, hd, hb⟩ := bind_some.1 ha
  clear h ha
  simp only [Bool.and_eq_true] at hg
  refine ⟨hg.1, ?_⟩
  have hkeys := hr.keys hg.2
  obtain ⟨n1, n2, n3⟩ := findNow_keys d k es es' 0 hkeys
  cases hn : Instr.findNow d k es 0 with
  | some r =>
    rw [hn] at hb
    cases hb
    cases f with
    | none => exact ⟨none, by simp [Instr.findKey, run_underlying' hd, n2 hn], .inl ⟨rfl, rfl⟩⟩
    | some p =>
      obtain ⟨j, v⟩ := p
      obtain ⟨v', h1, n, e, e', h2, h3, h4, h5, h6⟩ := n3 j v hn
      refine ⟨some (j, v'), by simp [Instr.findKey, run_underlying' hd, h1], .inr ⟨j, e, e', by rw [h5], by rw [h2]; simpa using h3, by rw [h2]; simpa using h4, by rw [h6]⟩⟩
  | none =>
    rw [hn] at hb
    simp only [findAsk] at hb
    obtain ⟨r, h1, hc⟩ := bind_some.1 hb
    have hk2 : es'.map (·.key) = (bareKeys es).map (·.key) := by rw [hkeys]; simp [bareKeys]
    obtain ⟨r', h2, h3⟩ := findAsking_keys kt k (bareKeys es) es' 0 hk2 r h1
    have hrun : (Instr.findKey kt k es').run P w = .ok r' w := by
      simp [Instr.findKey, run_underlying' hd, n1 hn, pureRun_run h2 w]
    rcases h3 with ⟨rfl, rfl⟩ | ⟨n, v, e', h4, h5, h6⟩
    · cases hc
      exact ⟨none, hrun, .inl ⟨rfl, rfl⟩⟩
    · subst h4
      simp only at hc
      obtain ⟨q, h7, hc⟩ := map_some.1 hc
      subst hc
      unfold valAt at h7
      obtain ⟨e, h8, h9⟩ := map_some.1 h7
      subst h9
      refine ⟨r', hrun, .inr ⟨0 + n, e, e', rfl, h8, by simpa using h5, h6⟩⟩

theorem mapT_some {t : TypeId} {ke : TypeId × TypeId} (h : mapT P t = some ke) : P.underlying t = some (.map ke.1 ke.2) := by
  unfold mapT at h
  obtain ⟨d, a, r⟩ := bind_some.1 h
  cases d <;> simp [mapKE] at r
  subst r; exact a

theorem found_ok {η : Env} {v v' : Value} (ok : Bool) (h : VRel η v v') : VRel η (found ok v) (if ok then .tuple #[v', .bool true] else v') := by
  cases ok
  · simpa [found] using h
  · simpa [found] using VRel.tuple (.cons h (.cons (.bool true) .nil))

theorem notFound_ok {η : Env} {v v' : Value} (ok : Bool) (h : VRel η v v') : VRel η (notFound ok v) (if ok then .tuple #[v', .bool false] else v') := by
  cases ok
  · simpa [notFound] using h
  · simpa [notFound] using VRel.tuple (.cons h (.cons (.bool false) .nil))

theorem lookup_ok {η : Env} {K : AHeap} {w : World} (hd : Desc P η K w) {t : TypeId} {ok : Bool} {k k' m m' v : Value} (h : aLookup P K t ok k m = some v) (hk : VRel η k k') (hm : VRel η m m') :
    ∃ v', (Instr.lookup t m' k' ok).run P w = .ok v' w ∧ VRel η v v' := by
  unfold aLookup at h
  obtain ⟨ke, h1, ha⟩ := bind_some.1 h
  obtain ⟨r, h2, hb⟩ := bind_some.1 ha
  obtain ⟨es, h3, hc⟩ := bind_some.1 hb
  obtain ⟨_, h4, hf⟩ := bind_some.1 hc
  obtain ⟨f, h5, hg⟩ := bind_some.1 hf
  clear h ha hb hc hf
  have ht := mapT_some h1
  obtain ⟨r', rfl, ho⟩ := mapV_ok h2 hm
  have hes : ∃ es' : Array MapEntry, ERel η es es'.toList ∧ ((r' = none ∧ es' = #[]) ∨ ∃ b c, r' = some b ∧ w.heap[b]? = some (.map es' c)) := by
    cases r with
    | none => cases ho; cases h3; exact ⟨#[], .nil, .inl ⟨rfl, rfl⟩⟩
    | some r =>
      obtain ⟨L, hL, rfl⟩ := ho
      obtain ⟨ec, h6, rfl⟩ := map_some.1 h3
      obtain ⟨es', e1, e2, _⟩ := mapE_ok hd hL h6
      exact ⟨es', e2, .inr ⟨_, _, rfl, e1⟩⟩
  obtain ⟨es', e1, e2⟩ := hes
  obtain ⟨hgk, f', f1, f2⟩ := findE_ok w h5 e1
  have hke := hk.eq_of_ground (grnd_ground hgk)
  subst hke
  have hemp : es'.isEmpty = es.isEmpty := by
    have := e1.length
    cases es <;> simp_all [Array.isEmpty]
  have hchk : (Instr.checkKey es'.isEmpty 10000 ke.1 k').run P w = .ok () w := by rw [hemp]; exact pureRun_run h4 w
  have run0 : f' = none → ∀ z, (zeroValue ke.2).run P w = .ok z w → (Instr.lookup t (.map r') k' ok).run P w = .ok (if ok then .tuple #[z, .bool false] else z) w := by
    rintro rfl z hz
    rcases e2 with ⟨rfl, rfl⟩ | ⟨b, c, rfl, e2⟩
    · simp only [Instr.lookup, Sem.run_bind, run_underlying' ht, Result.andThen, Sem.run_pure, hchk, f1, hz]
    · simp only [Instr.lookup, Sem.run_bind, run_underlying' ht, Result.andThen, run_getObj e2 (by simp), Sem.run_pure, hchk, f1, hz]
  have run1 : ∀ j v, f' = some (j, v) → (Instr.lookup t (.map r') k' ok).run P w = .ok (if ok then .tuple #[v, .bool true] else v) w := by
    rintro j v rfl
    rcases e2 with ⟨rfl, rfl⟩ | ⟨b, c, rfl, e2⟩
    · simp only [Instr.lookup, Sem.run_bind, run_underlying' ht, Result.andThen, Sem.run_pure, hchk, f1]
    · simp only [Instr.lookup, Sem.run_bind, run_underlying' ht, Result.andThen, run_getObj e2 (by simp), Sem.run_pure, hchk, f1]
  rcases f2 with ⟨rfl, rfl⟩ | ⟨i, e, e', rfl, g1, g2, rfl⟩
  · simp only [lookIn] at hg
    obtain ⟨z, hz, hv⟩ := map_some.1 hg
    subst hv
    exact ⟨_, run0 rfl z (run_zero hz w), notFound_ok ok (.ground z (zero_some hz).1)⟩
  · simp only [lookIn] at hg
    cases hg
    exact ⟨_, run1 _ _ rfl, found_ok ok (e1.nth g1 g2).2.1⟩

end Go.Ev

/- append, copy, clear: the machine at what the evaluator answers. Conditions: none. -/
set_option linter.unusedVariables false
set_option linter.unusedSimpArgs false
set_option linter.unnecessarySimpa false
namespace Go.Ev
variable {P : Program}

/-! ### Zero cells -/
theorem flat_get (l : List Value) : ∀ (n i : Nat), i < n * l.length → (List.replicate n l).flatten[i]? = l[i % l.length]?
  | 0, i, h => by simp at h
  | n + 1, i, h => by
    simp only [List.replicate_succ, List.flatten_cons]
    by_cases hi : i < l.length
    · rw [List.getElem?_append_left hi, Nat.mod_eq_of_lt hi]
    · rw [List.getElem?_append_right (by omega)]
      have hlt : i - l.length < n * l.length := by rw [Nat.add_mul] at h; omega
      rw [flat_get l n (i - l.length) hlt]
      have : i % l.length = (i - l.length) % l.length := by
        rw [Nat.mod_eq_sub_mod (by omega)]
      rw [this]

theorem flat_zero (z : Array Value) (hz : z.size ≠ 0) (n : Nat) : ((Array.range (n * z.size)).map fun i => z[i % z.size]!).toList = (List.replicate n z.toList).flatten := by
  apply List.ext_getElem?
  intro i
  by_cases hi : i < n * z.size
  · rw [flat_get z.toList n i (by simpa using hi)]
    have hm : i % z.size < z.size := Nat.mod_lt _ (by omega)
    simp [hi, hm]
  · have h1 : ((Array.range (n * z.size)).map fun i => z[i % z.size]!).toList.length = n * z.size := by simp
    have h2 : (List.replicate n z.toList).flatten.length = n * z.size := by simp
    rw [List.getElem?_eq_none (by omega), List.getElem?_eq_none (by omega)]

theorem zeros_some {t : TypeId} {zs : List Value} (h : zerosT P t = some zs) : ∃ z, zeroT P t = some z ∧ zs = z.cells.toList ∧ sizeT P t = some z.cells.size ∧ z.cells.size ≠ 0 ∧ grounds zs = true := by
  unfold zerosT at h
  obtain ⟨z, h1, h⟩ := bind_some.1 h
  obtain ⟨h2, h⟩ := guardO_some.1 h
  cases h
  have h3 := of_decide_eq_true h2
  refine ⟨z, h1, rfl, h3.1, h3.2.1, ?_⟩
  have hg := (zero_some h1).1
  cases z <;> simp_all [Value.cells, ground, grounds]

theorem zeros_noTake {t : TypeId} {zs : List Value} (h : zerosT P t = some zs) : noTake P t = false := by
  unfold zerosT at h
  obtain ⟨z, h1, h⟩ := bind_some.1 h
  obtain ⟨h2, h⟩ := guardO_some.1 h
  exact (of_decide_eq_true h2).2.2

theorem grounds_flat {l : List Value} (h : grounds l = true) : ∀ n, grounds ((List.replicate n l).flatten) = true
  | 0 => rfl
  | n + 1 => by
    simp only [List.replicate_succ, List.flatten_cons]
    have app : ∀ a b : List Value, grounds a = true → grounds b = true → grounds (a ++ b) = true := by
      intro a
      induction a with
      | nil => intro b _ hb; exact hb
      | cons x a ih => intro b ha hb; simp only [List.cons_append, grounds, Bool.and_eq_true] at ha ⊢; exact ⟨ha.1, ih b ha.2 hb⟩
    exact app _ _ h (grounds_flat h n)

/-! ### A new row -/
theorem row_step {η : Env} {K K' : AHeap} {w w' : World} {vs : List Value} {c : Array Value} {e : TypeId} {fr : Nat × Nat} {n : Nat} (hd : Desc P η K w) (hw : WF K) (h : K.mk? (.cells vs e) = some (n, K')) (hf : Fresh η K K')
    (hc : ∀ (i : Nat) (v : Value), vs[i]? = some v → ∃ v', c[i]? = some v' ∧ VRel η v v') (hl : vs.length ≤ c.size) (hh : w'.heap = w.heap.push (.cells c e fr)) (hfr : ∀ i, i < c.size → ¬ (fr.1 ≤ i ∧ i < fr.2)) (hfr0 : isU8 P e = false → fr = (0, 0))
    (ht : w'.tape = w.tape) (hos : w'.os = w.os) (hout : w'.output = w.output) :
    Step P η K w (upd η n ⟨w.heap.size, 0, c.size⟩) K' w' ∧ η n = none := by
  have h0 : η n = none := by
    have := (mk_spec h).1; subst this
    cases e : η K.next with
    | none => rfl
    | some L0 => rcases hf _ _ e with h1 | h1
                 · omega
                 · have := (mk_spec h).2.2.1; omega
  refine step_mk (L := ⟨w.heap.size, 0, c.size⟩) hd hw h hf rfl hh ht hos hout ⟨c, fr, by rw [hh]; simp, rfl, hfr, ⟨hfr0, fun _ => rfl⟩, by simpa using hl, fun i v hi => ?_⟩
  obtain ⟨v', a, r⟩ := hc i v hi
  exact ⟨v', by simpa using a, r.ext (upd_ext h0)⟩

/-- Its cells are just these. -/
theorem row_exact {η : Env} {K K' : AHeap} {w : World} {vs vs' : List Value} {e : TypeId} {n : Nat} (hd : Desc P η K w) (hw : WF K) (h : K.mk? (.cells vs e) = some (n, K')) (hf : Fresh η K K') (hr : LRel η vs vs') :
    ∃ w', (newRow e vs'.toArray).run P w = .ok ⟨w.heap.size, 0, none⟩ w' ∧ Step P η K w (upd η n ⟨w.heap.size, 0, vs'.length⟩) K' w' := by
  refine ⟨w.alloc (.cells vs'.toArray e), by simp [newRow], ?_⟩
  have := (row_step (w' := w.alloc (.cells vs'.toArray e)) (c := vs'.toArray) (fr := (0, 0)) hd hw h hf (fun i v hi => by simpa using hr.nth hi) (by simp [hr.length]) rfl (by simp) (fun _ => rfl) rfl rfl rfl).1
  simpa using this

theorem slcEx_ok {η : Env} {L : Loc} {n len cap : Nat} (hL : η n = some L) (hs : L.shift = 0) : VRel η (.slice (some ⟨n, 0, none⟩) len cap) (.slice (some ⟨L.blk, 0, none⟩) len cap) := by
  have := VRel.sex (η := η) (o := 0) len cap hL
  rw [hs] at this
  exact this

/-! ### Sources -/
/-- Several cells are loaded, in any world with this heap. -/
theorem load_cells_heap {η : Env} {K : AHeap} {w : World} (hd : Desc P η K w) {b off n : Nat} {L : Loc} {l : List Value} (hn : η b = some L) (h : K.read b off n = some l) :
    ∃ l', LRel η l l' ∧ l'.length = n ∧ (∀ w1 : World, w1.heap = w.heap → (loadCells ⟨L.blk, off + L.shift, none⟩ n).run P w1 = .ok l'.toArray w1) ∧
      ∀ (i : Nat) (v : Value), l[i]? = some v → ∃ v', w.cell? ⟨L.blk, off + L.shift + i, none⟩ = some v' ∧ VRel η v v' := by
  obtain ⟨hlen, hall⟩ := read_some h
  have hex : ∀ i, i < n → ∃ v v', l[i]? = some v ∧ w.cell? ⟨L.blk, off + L.shift + i, none⟩ = some v' ∧ VRel η v v' := fun i hi => by
    obtain ⟨v, h1, h2⟩ := hall i hi
    obtain ⟨v', a, r⟩ := hd.cell hn h1
    exact ⟨v, v', h2, by rw [← a]; congr 2; omega, r⟩
  let f : Nat → Value := fun i => (w.cell? ⟨L.blk, off + L.shift + i, none⟩).getD undef
  refine ⟨(List.range n).map f, LRel.of_nth (by simp [hlen]) fun i v hi => ?_, by simp, fun w1 hw1 => run_loadCells w1 _ n f fun j hj => ?_, fun i v hi => ?_⟩
  · have hin : i < n := by rw [← hlen]; exact (List.getElem?_eq_some_iff.1 hi).1
    obtain ⟨u, v', h1, h2, r⟩ := hex i hin
    rw [hi] at h1; cases h1
    exact ⟨v', by simp [hin, f, h2], r⟩
  · obtain ⟨u, v', h1, h2, r⟩ := hex j hj
    have e : w1.cell? ⟨L.blk, off + L.shift + j, none⟩ = w.cell? ⟨L.blk, off + L.shift + j, none⟩ := by simp only [World.cell?, hw1]
    rw [addr_add, e, h2]; simp [f, h2]
  · have hin : i < n := by rw [← hlen]; exact (List.getElem?_eq_some_iff.1 hi).1
    obtain ⟨u, v', h1, h2, r⟩ := hex i hin
    rw [hi] at h1; cases h1
    exact ⟨v', h2, r⟩

theorem byteVals_eq (l : List UInt8) : byteVals l = l.map fun b => Value.int .u8 b.toNat := by
  induction l with
  | nil => rfl
  | cons b l ih => simp [byteVals, ih]

theorem lenV_ok {η : Env} {x x' : Value} {n : Nat} (h : lenV x = some n) (hr : VRel η x x') (w : World) : (Builtin.lenOf x').run P w = .ok n w := by
  cases x <;> simp [lenV] at h
  · subst h; cases hr; simp [Builtin.lenOf]
  · subst h; cases hr <;> simp [Builtin.lenOf]

theorem src_ok {η : Env} {K : AHeap} {w : World} (hd : Desc P η K w) {x x' : Value} {size n : Nat} {xs : List Value} (h : aSrc x K size n = some xs) (hn : ∀ m, lenV x = some m → n ≤ m) (hr : VRel η x x') :
    ∃ xs', LRel η xs xs' ∧ ∀ w1 : World, w1.heap = w.heap → (Builtin.firstCells size n x').run P w1 = .ok xs'.toArray w1 := by
  cases x <;> simp only [aSrc] at h <;> try (cases h; done)
  case string s =>
    cases h; cases hr
    refine ⟨byteVals (s.data.toList.take n), ?_, fun w1 _ => ?_⟩
    · rw [byteVals_eq]
      generalize s.data.toList.take n = l
      induction l with
      | nil => exact .nil
      | cons b l ih => exact .cons (.int _ _) ih
    · rw [byteVals_eq]
      simp only [Builtin.firstCells, Sem.run_pure]
      congr 1
      apply Array.ext'
      simp [List.extract_eq_take_drop]
  case slice a len cap =>
    unfold readAt at h
    have h0 : ∀ a', Nat.beq (n * size) 0 = true → (Builtin.firstCells size n (.slice a' len cap)).run P w = .ok #[] w := fun a' h0 => by
      have : n * size = 0 := Nat.eq_of_beq_eq_true h0
      cases a' <;> simp [Builtin.firstCells, this, loadCells, loadCellsFrom]
    split at h
    · rename_i hb
      cases h
      have hz0 : n * size = 0 := Nat.eq_of_beq_eq_true hb
      refine ⟨[], .nil, fun w1 _ => ?_⟩
      cases hr <;> simp [Builtin.firstCells, hz0, loadCells, loadCellsFrom]
    · rename_i hb
      unfold readSome at h
      obtain ⟨ad, ha, h⟩ := bind_some.1 h
      subst ha
      cases hr with
      | sex _ _ hL =>
        obtain ⟨l', r1, _, r2, _⟩ := load_cells_heap hd hL h
        exact ⟨l', r1, fun w1 h1 => by simpa [Builtin.firstCells] using r2 w1 h1⟩
      | slow _ _ _ hL hc hz =>
        obtain ⟨l', r1, _, r2, _⟩ := load_cells_heap hd hL h
        exact ⟨l', r1, fun w1 h1 => by simpa [Builtin.firstCells] using r2 w1 h1⟩
      | ssome o' c' hL hz =>
        have := hn 0 rfl
        have h0 : n = 0 := by omega
        subst h0
        simp at hb

/-! ### append -/
theorem growBy_le : ∀ (r need c : Nat), c < need → Builtin.growBy need r c ≤ need + (need + 768) / 4
  | 0, need, c, h => by simp [Builtin.growBy]; omega
  | r + 1, need, c, h => by
    simp only [Builtin.growBy]
    rw [if_neg (by omega)]
    by_cases hc : c + (c + 768) / 4 < need
    · exact growBy_le r need _ hc
    · have : ∀ r d, need ≤ d → Builtin.growBy need r d = d := fun r d hd => by
        cases r with
        | zero => rfl
        | succ r => simp only [Builtin.growBy]; rw [if_pos (by omega)]
      rw [this _ _ (by omega)]
      omega

theorem next_le {need cap : Nat} (h : cap < need) : Builtin.nextslicecap need cap ≤ 2 * need + 1000 := by
  unfold Builtin.nextslicecap
  split
  · omega
  · split
    · omega
    · have := growBy_le 4 need cap h; omega

theorem roomy_le {need bytes : Nat} (h : roomy need bytes = true) : (2 * need + 1000) * bytes ≤ 70368744177664 ∧ need ≤ 70368744177664 := by
  unfold roomy at h
  simp only [Bool.and_eq_true] at h
  exact ⟨Nat.le_of_ble_eq_true h.1, Nat.le_of_ble_eq_true h.2⟩

/-- append, once what is appended is in hand. -/
def appendTail (elem : TypeId) (size : Nat) (zeros : Bool) (base : Option Addr) (sLen sCap n : Nat) (s x : Value) (appended : Sem (Array Value)) : Sem Value := do
  let need := sLen + n
  if need ≤ sCap then
    let new ← appended
    if let some a := base then storeCells (a.add (sLen * size)) new.toList
    pure (.slice base need sCap)
  else
    if (need : Int) > IntKind.i64.max ∧ (zeros ∨ (← typeInfo elem).bytes = 0) then runtimePanic (.error "growslice: len out of range")
    if Builtin.nextslicecap need sCap * (← typeInfo elem).bytes > 2 ^ 48 then (if zeros then runtimePanic (.error "growslice: len out of range") else do
      if !(← Builtin.mayShare size sLen n base x) then mark .noRoom
      unsupported (.resourceLimit "append: a slice or a string whose bytes no memory bears"))
    let newCap ← choose (.appendCap need sCap elem)
    askRoom (newCap * (← typeInfo elem).bytes)
    let old ← Builtin.firstCells size sLen s
    let new ← appended
    let rest := Builtin.zeroCells (← zeroValue elem).cells (newCap - need)
    pure (.slice (some (← newRow elem (old ++ new ++ rest))) need newCap)

theorem bytes_some {t : TypeId} {n : Nat} (h : bytesT P t = some n) (w : World) : ∃ i, P.info? t = some i ∧ i.bytes = n ∧ (typeInfo t).run P w = .ok i w := by
  unfold bytesT at h
  obtain ⟨i, a, b⟩ := map_some.1 h
  exact ⟨i, a, b, by simp [typeInfo, a]⟩

/-- There is no room: a new row. -/
theorem tail_grows {w : World} {elem : TypeId} {size bytes sLen sCap n : Nat} {zeros : Bool} {base : Option Addr} {s x z : Value} {old new : Array Value} {appended : Sem (Array Value)} (hb : bytesT P elem = some bytes) (hz : zeroT P elem = some z)
    (hroom : roomy (sLen + n) bytes = true) (hlt : sCap < sLen + n) (hold : ∀ w', w'.heap = w.heap → (Builtin.firstCells size sLen s).run P w' = .ok old w') (hnew : ∀ w', w'.heap = w.heap → appended.run P w' = .ok new w') :
    ∃ newCap w', sLen + n ≤ newCap ∧ (appendTail elem size zeros base sLen sCap n s x appended).run P w = .ok (.slice (some ⟨w.heap.size, 0, none⟩) (sLen + n) newCap) w' ∧
      w'.heap = w.heap.push (.cells (old ++ new ++ Builtin.zeroCells z.cells (newCap - (sLen + n))) elem) ∧ w'.tape = w.tape ∧ w'.os = w.os ∧ w'.output = w.output := by
  obtain ⟨r1, r2⟩ := roomy_le hroom
  have hmul : Builtin.nextslicecap (sLen + n) sCap * bytes ≤ 2 ^ 48 :=
    Nat.le_trans (Nat.mul_le_mul_right _ (next_le hlt)) (Nat.le_trans r1 (by decide))
  let q : Question := .appendCap (sLen + n) sCap elem
  refine ⟨q.cut (w.tape w.drawn q), { w with heap := w.heap.push (.cells (old ++ new ++ Builtin.zeroCells z.cells (q.cut (w.tape w.drawn q) - (sLen + n))) elem), drawn := w.drawn + 1 }, by simp [q, Question.cut], ?_, rfl, rfl, rfl, rfl⟩
  have h1 : ¬ sLen + n ≤ sCap := by omega
  have h2 : ¬ ((sLen + n : Nat) : Int) > IntKind.i64.max := by simp; omega
  obtain ⟨i, hi, hib, _⟩ := bytes_some hb w
  have hti : ∀ w', (typeInfo elem).run P w' = .ok i w' := fun w' => by simp [typeInfo, hi]
  have hch : (choose (.appendCap (sLen + n) sCap elem)).run P w = .ok (q.cut (w.tape w.drawn q)) { w with drawn := w.drawn + 1 } := by simp [q, Question.forced]
  unfold appendTail
  simp only [h1, if_false]
  simp only [Sem.run_bind, hti, Result.andThen]
  simp only [h2, false_and, if_false]
  simp only [Sem.run_bind, hti, Result.andThen]
  rw [if_neg (show ¬ Builtin.nextslicecap (sLen + n) sCap * i.bytes > 2 ^ 48 by rw [hib]; omega)]
  simp only [Sem.run_bind, Sem.run_pure, Result.andThen, hch, hti, run_askRoom, hold { w with drawn := w.drawn + 1 } rfl, hnew { w with drawn := w.drawn + 1 } rfl, run_zero hz, newRow, run_newObj]

theorem wrap64_small {n : Nat} (h : n ≤ 70368744177664) : IntKind.i64.wrap (n : Int) = (n : Int) := by
  have e : (n : Int) % (2 ^ IntKind.i64.bits : Int) = n := Int.emod_eq_of_lt (by omega) (by simp only [IntKind.bits]; omega)
  have h2 : ¬ ((IntKind.i64.signed && decide ((n : Int) ≥ 2 ^ (IntKind.i64.bits - 1))) = true) := by
    show ¬ ((true && decide ((n : Int) ≥ 2 ^ 63)) = true)
    simp; omega
  simp only [IntKind.wrap, e]
  rw [if_neg h2]

def appended (size n : Nat) (zeros : Bool) (elem : TypeId) (x : Value) : Sem (Array Value) :=
  if !zeros then Builtin.firstCells size n x
  else if n * size = 0 then pure #[]
  else do pure (Builtin.zeroCells (← zeroValue elem).cells n)

theorem append_run {w : World} {t ty elem : TypeId} {rest : List TypeId} {size bytes sLen sCap n : Nat} {zeros : Bool} {base : Option Addr} {x : Value} (he : elemT P t = some elem) (hs : sizeT P elem = some size) (hb : bytesT P elem = some bytes)
    (hz : zerosForm P (t :: rest) = some zeros) (hn : (zeros = true ∧ (∃ k, x = .int k (n : Int)) ∧ roomy (sLen + n) bytes = true) ∨ (zeros = false ∧ (Builtin.lenOf x).run P w = .ok n w)) :
    (Builtin.append_ (t :: rest).toArray ty #[.slice base sLen sCap, x]).run P w = (appendTail elem size zeros base sLen sCap n (.slice base sLen sCap) x (appended size n zeros elem x)).run P w := by
  obtain ⟨i, hi, hib, _⟩ := bytes_some hb w
  have hti : ∀ w', (typeInfo elem).run P w' = .ok i w' := fun w' => by simp [typeInfo, hi]
  have ht := elem_some he
  unfold Builtin.append_
  rcases hn with ⟨rfl, ⟨k, rfl⟩, hr⟩ | ⟨rfl, hl⟩
  · obtain ⟨r1, r2⟩ := roomy_le hr
    have hwr := wrap64_small (n := n) (by omega)
    have hle : n * bytes ≤ 2 ^ 48 := Nat.le_trans (Nat.mul_le_mul_right bytes (show n ≤ 2 * (sLen + n) + 1000 by omega)) (Nat.le_trans r1 (by decide))
    have h2 : ¬ ((n : Int) * (i.bytes : Int) > 2 ^ 48) := by rw [hib]; simp only [gt_iff_lt, Int.not_lt]; exact_mod_cast hle
    have h1 : ¬ ((n : Int) < 0) := by omega
    cases rest with
    | nil => simp [zerosForm] at hz
    | cons u r =>
      simp only [zerosForm] at hz
      obtain ⟨d, hd, hz'⟩ := map_some.1 hz
      cases d <;> first | (cases hz'; done) | skip
      simp only [List.getElem?_toArray, List.getElem?_cons_zero, List.getElem?_cons_succ, Sem.run_bind, run_underlying' ht, Result.andThen, run_sizeOf hs, run_underlying' hd, Sem.run_pure, if_true,
        asInt, asIntOf, Sem.run_map, hwr, h1, h2, if_false, hti, Int.toNat_natCast]
      simp only [appendTail, appended, if_true]
      rfl
  · cases rest with
    | nil =>
      simp only [List.getElem?_toArray, List.getElem?_cons_zero, List.getElem?_cons_succ, List.getElem?_nil, Sem.run_bind, run_underlying' ht, Result.andThen, run_sizeOf hs, Sem.run_pure, Bool.false_eq_true, if_false, hl]
      simp only [appendTail, appended, Bool.false_eq_true, if_false]
      rfl
    | cons u r =>
      simp only [zerosForm] at hz
      obtain ⟨d, hd, hz'⟩ := map_some.1 hz
      cases d <;> first | (cases hz'; done) |
        (simp only [List.getElem?_toArray, List.getElem?_cons_zero, List.getElem?_cons_succ, Sem.run_bind, run_underlying' ht, Result.andThen, run_sizeOf hs, run_underlying' hd, Sem.run_pure, Bool.false_eq_true, if_false, hl]
         simp only [appendTail, appended, Bool.false_eq_true, if_false]
         rfl)

end Go.Ev
