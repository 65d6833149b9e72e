/- An abstract machine over values without addresses: what a Go function's code answers, reckoned by a function (definitions only). -/
import Derived.Calls
import Derived.KernelRfl
import Derived.Laws.Sem
namespace Go.Proofs.Ytceaambiagobbaa.Am
open Go

/-- One cell's value: a value as it is; an address of a cell in a box; the whole slice over a box; a slice that nobody writes, by its elements; the address of cells that nobody writes; a closure; anything. -/
inductive D1 where
  | v (x : Value)
  | ptr (b e c : Nat)
  | fs (b : Nat)
  | fr (z : Nat) (es : List (List D1))
  | rp (cs : List D1)
  | clo (f : Nat) (cap : List D1)
  | top

/-- A value: of one cell, or an aggregate of cells ('true': no address of one's own in it). -/
inductive D0 where
  | one (d : D1)
  | agg (cl : Bool) (ds : List D1)

/-- A temporary's value. -/
inductive D where
  | s (d : D0)
  | tup (ds : List D0)

/-- A box of memory: no longer used; or the elements (lists of cells of one length), 'flat' where no cell bears an address; or a slice that nobody writes any more. -/
inductive Box where
  | dead
  | own (z : Nat) (flat : Bool) (es : List (List D1))
  | fz (z : Nat) (es : List (List D1))

structure St where
  fr : List D
  m : List Box

inductive Ex where
  | nrm
  | exit (id : Nat)
  | ret

abbrev R := D × List Box
abbrev Kont (Ω : Type) := Ex → St → Option Ω

/-! ### shapes of what is known of values: typed tuples that stand for them -/
/-- one cell -/
inductive Ct where
  | int (k : IntKind)
  | bool
  | str
  | sl (z : Nat)
  | ptr (b e c : Nat)
  | fs (b : Nat)
  | clo (f : Nat)
  | raw
/-- a value -/
inductive Vt where
  | c (t : Ct)
  | agg (ts : List Ct)
/-- a box -/
inductive Mt where
  | dead
  | cells (fl : Bool) (ts : List Ct)
  | arr (z : Nat) (fl : Bool)
@[reducible] def Ct.T : Ct → Type
  | .int _ => Int
  | .bool => Bool
  | .str => ByteArray
  | .sl _ => List (List D1)
  | .ptr .. => Unit
  | .fs _ => Unit
  | .clo _ => Unit
  | .raw => D1
@[reducible] def CtsT : List Ct → Type
  | [] => Unit
  | t :: r => t.T × CtsT r
@[reducible] def Vt.T : Vt → Type
  | .c t => t.T
  | .agg ts => CtsT ts
@[reducible] def VtsT : List Vt → Type
  | [] => Unit
  | t :: r => t.T × VtsT r
@[reducible] def Mt.T : Mt → Type
  | .dead => Unit
  | .cells _ ts => CtsT ts
  | .arr _ _ => List (List D1)
@[reducible] def MtsT : List Mt → Type
  | [] => Unit
  | t :: r => t.T × MtsT r
/-- a state: its frame's size, the slots that are known, the boxes -/
structure StTy where
  n : Nat
  slots : List (Nat × Vt)
  mem : List Mt
@[reducible] def SlotsT : List (Nat × Vt) → Type
  | [] => Unit
  | (_, t) :: r => t.T × SlotsT r
@[reducible] def StTy.T (t : StTy) : Type := SlotsT t.slots × MtsT t.mem

/-- What the walk may take for granted of the code: hints, none of them trusted. -/
structure Hints where
  /-- it writes to no box that came in -/
  ro : Nat → Bool
  /-- this argument's slices are handed on as they are -/
  keep : Nat → Nat → Bool
  /-- its slices are only read, and none comes back -/
  tmp : Nat → Bool
  /-- its results keep their slices as its own -/
  own : Nat → Bool
  /-- the shapes of its results, and of the boxes behind it -/
  outs : Nat → List Vt
  mouts : Nat → List Mt
  /-- the states ahead of a loop's round -/
  live : Nat → Nat → StTy
  /-- the states behind a loop -/
  exits : Nat → Nat → List (Ex × StTy)
  /-- appends (by their temporary) behind which neither the old slice nor the new one is written -/
  frz : Nat → Bool := fun _ => false
  /-- operations that look at such slices behind them -/
  thaw : Nat → Bool := fun _ => false

structure Env where
  f : Nat
  nimp : Nat
  ro : Bool

def dtop : D := .s (.one .top)
def dv (x : Value) : D := .s (.one (.v x))
/-- what an operation leaves that was not done -/
def dundef : D := .tup []
def isUndef : D → Bool
  | .tup [] => true
  | _ => false

def D1.val? : D1 → Option Value
  | .v x => some x
  | _ => none

def vals? : List D1 → Option (List Value)
  | [] => some []
  | .v x :: r => match vals? r with | some xs => some (x :: xs) | none => none
  | _ :: _ => none

def D.val? : D → Option Value
  | .s (.one (.v x)) => some x
  | .s (.agg _ ds) => match vals? ds with | some xs => some (.agg xs.toArray) | none => none
  | _ => none

def isTop : D0 → Bool
  | .one .top => true
  | _ => false
def D0.cells : D0 → List D1
  | .one d => [d]
  | .agg _ ds => ds

def ofVal0 : Value → D0
  | .agg cs => if cs.toList.all (·.oneCell') then .agg true (cs.toList.map .v) else .one .top
  | .tuple _ => .one .top
  | x => .one (.v x)
def ofVal : Value → D
  | .tuple vs => .tup (vs.toList.map ofVal0)
  | x => .s (ofVal0 x)

def nth {α : Type} : List α → Nat → Option α
  | [], _ => none
  | x :: _, 0 => some x
  | _ :: r, n + 1 => nth r n

def upd {α : Type} : List α → Nat → α → List α
  | [], _, _ => []
  | _ :: r, 0, y => y :: r
  | x :: r, n + 1, y => x :: upd r n y

def tmpOf (fr : List D) (t : Nat) : D := (nth fr t).getD dtop

def evalD (fr : List D) : Operand → D
  | .tmp t => tmpOf fr t
  | .const v => ofVal v
  | .func f => dv (.func (.func f) #[] #[])
  | .global _ => dtop

/-- A meaning without memory. -/
def runPure {α : Type} (P : Program) : Sem α → Option α
  | .pure a => some a
  | .program k => runPure P (k P)
  | .mark _ k => runPure P k
  | _ => none

def pureRun (P : Program) (fr : List D) (o : Oper) : Option Value :=
  if o.op.operands.toList.all (fun x => (evalD fr x).val?.isSome) then
    match runPure P (execOp (fun x => ((evalD fr x).val?).getD undef) o) with
    | some (.value x) => some x
    | _ => none
  else none

/-- What an operation does: its value; the boxes that it looks at; those that it writes, with what they hold then; new boxes. -/
structure Eff where
  val : D
  rd : List Nat := []
  wr : List (Nat × Box) := []
  news : List Box := []

def putAll : List Box → List (Nat × Box) → List Box
  | m, [] => m
  | m, (i, b) :: r => putAll (upd m i b) r

def Eff.mem (e : Eff) (m : List Box) : List Box := putAll m e.wr ++ e.news

def asInt? (k : IntKind) : D1 → Option Int
  | .v (.int k' n) => if k' = k then some n else none
  | _ => none
def asBool? : D1 → Option Bool
  | .v (.bool b) => some b
  | _ => none
def asStr? : D1 → Option ByteArray
  | .v (.string s) => some s
  | _ => none
/-- the elements, of z cells each, of a slice that nobody writes -/
def asFr? (z : Nat) : D1 → Option (List (List D1))
  | .fr z' es => if Nat.beq z' z then some es else none
  | .v (.slice _ 0 _) => some []
  | _ => none
def anyInt? : D → Option (IntKind × Int)
  | .s (.one (.v (.int k n))) => some (k, n)
  | _ => none
def boolOf? : D → Option Bool
  | .s (.one (.v (.bool b))) => some b
  | _ => none

def desc (P : Program) (t : TypeId) : Option TypeDesc := P.underlying t
def isAggD : TypeDesc → Bool
  | .struct _ => true
  | .array _ _ => true
  | _ => false
def sizeT (P : Program) (t : TypeId) : Nat := match P.info? t with | some i => i.size | none => 0

/-- one cell, its kind looked at; 'true': of cells that nobody writes -/
def cellK {β : Type} (P : Program) (ro : Bool) (dt : TypeDesc) (d : D1) (K : D1 → Option β) : Option β :=
  match dt with
  | .int k => (asInt? k d).bind fun n => K (.v (.int k n))
  | .bool => (asBool? d).bind fun b => K (.v (.bool b))
  | .string => (asStr? d).bind fun s => K (.v (.string s))
  | .slice e => if ro then (asFr? (sizeT P e) d).bind fun es => K (.fr (sizeT P e) es) else K d
  | _ => K d

/-- a value of type t out of cells -/
def partK {β : Type} (P : Program) (ro cl : Bool) (t : TypeId) (cs : List D1) (off : Nat) (K : D0 → Option β) : Option β :=
  match desc P t, P.info? t with
  | some dt, some i =>
    if isAggD dt then
      bif Nat.beq ((cs.drop off).take i.size).length i.size then K (.agg cl ((cs.drop off).take i.size)) else none
    else (nth cs off).bind fun d => cellK P ro dt d fun d' => K (.one d')
  | _, _ => none

def closed1 : D1 → Bool
  | .v _ => true
  | .fr _ _ => true
  | .top => true
  | _ => false

def closedAll : List D1 → Bool
  | [] => true
  | d :: r => closed1 d && closedAll r

def D0.closed : D0 → Bool
  | .one d => closed1 d
  | .agg cl _ => cl

def setCells (cs : List D1) (c : Nat) : List D1 → Option (List D1)
  | [] => some cs
  | d :: r => (nth cs c).bind fun _ => setCells (upd cs c d) (c + 1) r

/-! ### to and from typed tuples -/
def Ct.enc : (t : Ct) → t.T → D1
  | .int k, n => .v (.int k n)
  | .bool, b => .v (.bool b)
  | .str, s => .v (.string s)
  | .sl z, es => .fr z es
  | .ptr b e c, _ => .ptr b e c
  | .fs b, _ => .fs b
  | .clo f, _ => .clo f []
  | .raw, d => d
def Ct.closed : Ct → Bool
  | .int _ => true
  | .bool => true
  | .str => true
  | .sl _ => true
  | _ => false
def closedTs : List Ct → Bool
  | [] => true
  | t :: r => t.closed && closedTs r
def encCts : (ts : List Ct) → CtsT ts → List D1
  | [], _ => []
  | t :: r, x => t.enc x.1 :: encCts r x.2
def Vt.enc : (t : Vt) → t.T → D0
  | .c t, x => .one (t.enc x)
  | .agg ts, x => .agg (closedTs ts) (encCts ts x)
def encVts : (ts : List Vt) → VtsT ts → List D0
  | [], _ => []
  | t :: r, x => t.enc x.1 :: encVts r x.2
def resD : List D0 → D
  | [d] => .s d
  | ds => .tup ds
def encR (ts : List Vt) (x : VtsT ts) : D := resD (encVts ts x)
def Mt.enc : (t : Mt) → t.T → Box
  | .dead, _ => .dead
  | .cells fl ts, x => .own ts.length fl [encCts ts x]
  | .arr z fl, es => .own z fl es
def encMts : (ts : List Mt) → MtsT ts → List Box
  | [], _ => []
  | t :: r, x => t.enc x.1 :: encMts r x.2
def encSlots : (ts : List (Nat × Vt)) → SlotsT ts → List D → List D
  | [], _, fr => fr
  | (s, t) :: r, x, fr => encSlots r x.2 (upd fr s (.s (t.enc x.1)))
def encSt (t : StTy) (x : t.T) : St := ⟨encSlots t.slots x.1 (List.replicate t.n dtop), encMts t.mem x.2⟩

def Ct.dec {β : Type} : (t : Ct) → D1 → (t.T → Option β) → Option β
  | .int k, d, K => (asInt? k d).bind K
  | .bool, d, K => (asBool? d).bind K
  | .str, d, K => (asStr? d).bind K
  | .sl z, d, K => (asFr? z d).bind K
  | .ptr b e c, d, K => match d with
    | .ptr b' e' c' => bif Nat.beq b' b && Nat.beq e' e && Nat.beq c' c then K () else none
    | _ => none
  | .fs b, d, K => match d with
    | .fs b' => bif Nat.beq b' b then K () else none
    | _ => none
  | .clo f, d, K => match d with
    | .clo f' [] => bif Nat.beq f' f then K () else none
    | _ => none
  | .raw, d, K => K d
def decCts {β : Type} : (ts : List Ct) → List D1 → (CtsT ts → Option β) → Option β
  | [], ds, K => match ds with
    | [] => K ()
    | _ :: _ => none
  | t :: r, ds, K => match ds with
    | [] => none
    | d :: ds => t.dec d fun x => decCts r ds fun y => K (x, y)
def Vt.dec {β : Type} : (t : Vt) → D0 → (t.T → Option β) → Option β
  | .c t, d, K => match d with
    | .one d => t.dec d K
    | .agg _ _ => none
  | .agg ts, d, K => match d with
    | .one _ => none
    | .agg _ ds => decCts ts ds K
def decVts {β : Type} : (ts : List Vt) → List D0 → (VtsT ts → Option β) → Option β
  | [], ds, K => match ds with
    | [] => K ()
    | _ :: _ => none
  | t :: r, ds, K => match ds with
    | [] => none
    | d :: ds => t.dec d fun x => decVts r ds fun y => K (x, y)
def decR {β : Type} : (ts : List Vt) → D → (VtsT ts → Option β) → Option β
  | [t], d, K => match d with
    | .s d => t.dec d fun x => K (x, ())
    | .tup _ => none
  | ts, d, K => match d with
    | .s _ => none
    | .tup ds => decVts ts ds K
def Mt.dec {β : Type} : (t : Mt) → Box → (t.T → Option β) → Option β
  | .dead, _, K => K ()
  | .cells fl ts, x, K => match x with
    | .own z fl' es => match es with
      | [cs] => bif Nat.beq z ts.length && (fl' || !fl) then decCts ts cs K else none
      | _ => none
    | _ => none
  | .arr z fl, x, K => match x with
    | .own z' fl' es => bif Nat.beq z' z && (fl' || !fl) then K es else none
    | _ => none
def decMts {β : Type} : (ts : List Mt) → List Box → (MtsT ts → Option β) → Option β
  | [], m, K => match m with
    | [] => K ()
    | _ :: _ => none
  | t :: r, m, K => match m with
    | [] => none
    | x :: m => t.dec x fun v => decMts r m fun y => K (v, y)
def decSlots {β : Type} : (ts : List (Nat × Vt)) → List D → (SlotsT ts → Option β) → Option β
  | [], _, K => K ()
  | (s, t) :: r, fr, K => match tmpOf fr s with
    | .s d => t.dec d fun x => decSlots r fr fun y => K (x, y)
    | .tup _ => none
def decSt {β : Type} (t : StTy) (st : St) (K : t.T → Option β) : Option β :=
  bif Nat.beq st.fr.length t.n then decSlots t.slots st.fr fun x => decMts t.mem st.m fun y => K (x, y) else none

/-- the shapes of the cells of a type -/
def repCts : Nat → List Ct → List Ct
  | 0, _ => []
  | n + 1, l => l ++ repCts n l
def ctsFields (f : TypeId → List Ct) : List Field → List Ct
  | [] => []
  | fd :: r => f fd.type ++ ctsFields f r
def ctsOf (P : Program) (ro : Bool) : Nat → TypeId → List Ct
  | 0, _ => []
  | n + 1, t => match desc P t with
    | some (.int k) => [.int k]
    | some .bool => [.bool]
    | some .string => [.str]
    | some (.slice e) => if ro then [.sl (sizeT P e)] else [.raw]
    | some (.array len e) => repCts len (ctsOf P ro n e)
    | some (.struct fs) => ctsFields (ctsOf P ro n) fs.toList
    | some _ => [.raw]
    | none => []
/-- an aggregate that was looked at is taken apart into its cells -/
def shapeK {β : Type} (P : Program) (ro : Bool) (t : TypeId) (d : D0) (K : D0 → Option β) : Option β :=
  match d with
  | .one d => K (.one d)
  | .agg cl ds => decCts (ctsOf P ro 20 t) ds fun x => K (.agg (cl || closedTs (ctsOf P ro 20 t)) (encCts (ctsOf P ro 20 t) x))

def loadK {β : Type} (P : Program) (t : TypeId) (m : List Box) (a : D) (K : Eff → Option β) : Option β :=
  match a with
  | .s (.one (.ptr b e c)) => match nth m b with
    | some (.own _ fl es) => (nth es e).bind fun cs => partK P false fl t cs c fun d => shapeK P false t d fun d => K { val := .s d, rd := [b] }
    | _ => none
  | .s (.one (.rp cs)) => partK P true true t cs 0 fun d => shapeK P true t d fun d => K { val := .s d }
  | _ => none

/-- the cells that a zero value or an aggregate of literals has -/
def fillD (place : Nat → Option (Nat × Nat)) (cells : List D1) : List (Nat × D0) → Option (List D1)
  | [] => some cells
  | (i, v) :: rest => (place i).bind fun (off, size) =>
    if Nat.beq v.cells.length size && !isTop v && !Nat.beq size 0 then (setCells cells off v.cells).bind fun cs => fillD place cs rest else none

def d0? : D → Option D0
  | .s d => some d
  | .tup _ => none

def parts? (fr : List D) : List (Nat × Operand) → Option (List (Nat × D0))
  | [] => some []
  | (i, x) :: r => (d0? (evalD fr x)).bind fun d => (parts? fr r).bind fun l => some ((i, d) :: l)

/-- slices of one's own made slices that nobody writes any more: the cells, and the boxes that die -/
def frzCells (m : List Box) : List D1 → Option (List D1 × List Nat)
  | [] => some ([], [])
  | .fs b :: r => match nth m b with
    | some (.own z true es) => (frzCells m r).bind fun (ds, ks) => some (.fr z es :: ds, b :: ks)
    | _ => none
  | d :: r => (frzCells m r).bind fun (ds, ks) => some (d :: ds, ks)

def frz0 (m : List Box) : D0 → Option (D0 × List Nat)
  | .one d => (frzCells m [d]).bind fun (ds, ks) => match ds with | [d'] => some (.one d', ks) | _ => none
  | .agg true ds => some (.agg true ds, [])
  | .agg false ds => (frzCells m ds).bind fun (ds', ks) => some (.agg (closedAll ds') ds', ks)

def frzParts (m : List Box) : List (Nat × D0) → Option (List (Nat × D0) × List Nat)
  | [] => some ([], [])
  | (i, d) :: r => (frz0 m d).bind fun (d', ks) => (frzParts m r).bind fun (l, ks') => some ((i, d') :: l, ks ++ ks')

def killed (ks : List Nat) : List (Nat × Box) := ks.map fun b => (b, .dead)

/-- the elements of a slice: the box it lies in, if it is one's own -/
def elems? (m : List Box) : D → Option (Option Nat × Option Nat × Bool × List (List D1))
  | .s (.one (.fs b)) => match nth m b with
    | some (.own z fl es) => some (some b, some z, fl, es)
    | _ => none
  | .s (.one (.fr z es)) => some (none, some z, true, es)
  | .s (.one (.v (.slice none 0 0))) => some (none, none, true, [])
  | _ => none
def fits (z : Nat) : Option Nat → Bool
  | none => true
  | some z' => Nat.beq z' z

/-! ### addresses that occur -/
mutual
def refs1 : D1 → List Nat
  | .ptr b _ _ => [b]
  | .fs b => [b]
  | .clo _ cap => refsL cap
  | _ => []
def refsL : List D1 → List Nat
  | [] => []
  | d :: r => refs1 d ++ refsL r
end
def refs0 : D0 → List Nat
  | .one d => refs1 d
  | .agg true _ => []
  | .agg false ds => refsL ds
def refsD : D → List Nat
  | .s d => refs0 d
  | .tup ds => ds.flatMap refs0
def refsBox : Option Box → List Nat
  | some (.own _ false es) => es.flatMap refsL
  | _ => []

def has (b : Nat) : List Nat → Bool
  | [] => false
  | x :: r => Nat.beq b x || has b r

def reach (m : List Box) : Nat → List Nat → List Nat → List Nat
  | 0, _, acc => acc
  | _ + 1, [], acc => acc
  | n + 1, b :: todo, acc => if has b acc then reach m n todo acc else reach m n (refsBox (nth m b) ++ todo) (acc ++ [b])

def posOf (b : Nat) : List Nat → Option Nat
  | [] => none
  | x :: r => if Nat.beq b x then some 0 else match posOf b r with | some i => some (i + 1) | none => none

mutual
def ren1 (g : Nat → Option Nat) : D1 → D1
  | .ptr b e c => match g b with | some i => .ptr i e c | none => .top
  | .fs b => match g b with | some i => .fs i | none => .top
  | .clo f cap => .clo f (renL g cap)
  | .v x => .v x
  | .fr z es => .fr z es
  | .rp cs => .rp cs
  | .top => .top
def renL (g : Nat → Option Nat) : List D1 → List D1
  | [] => []
  | d :: r => ren1 g d :: renL g r
end
def ren0 (g : Nat → Option Nat) : D0 → D0
  | .one d => .one (ren1 g d)
  | .agg true ds => .agg true ds
  | .agg false ds => .agg false (renL g ds)
def renD (g : Nat → Option Nat) : D → D
  | .s d => .s (ren0 g d)
  | .tup ds => .tup (ds.map (ren0 g))
def renBox (g : Nat → Option Nat) : Option Box → Box
  | some (.own z true es) => .own z true es
  | some (.own z false es) => .own z false (es.map (renL g))
  | _ => .dead

/-- the boxes of a list, in its order, renamed by their places in it -/
def subMem (m : List Box) (l : List Nat) : List Box := l.map fun b => renBox (posOf · l) (nth m b)

/-! ### a loop's head -/
def nilSlots : List (Nat × Option Nat) → St → St
  | [], st => st
  | (s, some z) :: r, st => match tmpOf st.fr s with
    | .s (.one (.v (.slice none 0 0))) => nilSlots r { fr := upd st.fr s (.s (.one (.fs st.m.length))), m := st.m ++ [.own z true []] }
    | _ => nilSlots r st
  | _ :: r, st => nilSlots r st
def rootsOf (fr : List D) : List (Nat × Option Nat) → List Nat
  | [] => []
  | (s, _) :: r => refsD (tmpOf fr s) ++ rootsOf fr r
def putLive (g : Nat → Option Nat) (old : List D) : List (Nat × Option Nat) → List D → List D
  | [], fr => fr
  | (s, _) :: r, fr => putLive g old r (upd fr s (renD g (tmpOf old s)))
def tops : List D → List D
  | [] => []
  | _ :: r => dtop :: tops r
def upTo : Nat → List Nat
  | 0 => []
  | n + 1 => upTo n ++ [n]
def roundFuel : Nat := 400
def refsUp (m : List Box) : Nat → List Nat
  | 0 => []
  | n + 1 => refsUp m n ++ refsBox (nth m n)
def headSt (live : List (Nat × Option Nat)) (nimp : Nat) (st0 : St) : St :=
  let st := nilSlots live st0
  let acc := reach st.m roundFuel (refsUp st.m nimp ++ rootsOf st.fr live) (upTo nimp)
  { fr := putLive (posOf · acc) st.fr live (tops st.fr), m := subMem st.m acc }

/-- the slots of a shape, with the element's size where a slice of one's own stands -/
def liveOf (mem : List Mt) : List (Nat × Vt) → List (Nat × Option Nat)
  | [] => []
  | (s, .c (.fs b)) :: r => (s, match nth mem b with | some (.arr z _) => some z | _ => none) :: liveOf mem r
  | (s, _) :: r => (s, none) :: liveOf mem r
/-- a state is brought to a shape -/
def canonK {Ω : Type} (t : StTy) (nimp : Nat) (st : St) (K : St → Option Ω) : Option Ω :=
  decSt t (headSt (liveOf t.mem t.slots) nimp st) fun x => K (encSt t x)
def sameEx : Ex → Ex → Bool
  | .nrm, .nrm => true
  | .exit i, .exit j => Nat.beq i j
  | .ret, .ret => true
  | _, _ => false
def canonEx (l : List (Ex × StTy)) (nimp : Nat) (ex : Ex) (st : St) : Option (Ex × St) :=
  match l with
  | [] => none
  | (e, t) :: r => bif sameEx e ex then canonK t nimp st fun st' => some (e, st') else canonEx r nimp ex st
def decEx {Ω : Type} (l : List (Ex × StTy)) (p : Ex × St) (K : Ex → St → Option Ω) : Option Ω :=
  match l with
  | [] => none
  | (e, t) :: r => bif sameEx e p.1 then decSt t p.2 fun x => K e (encSt t x) else decEx r p K

/-! ### the operations -/
/-- the whole of a call: arguments made ready -/
def argsOf (H : Hints) (f : Nat) (m : List Box) : Nat → List D → Option (List D × List Nat)
  | _, [] => some ([], [])
  | i, d :: r => (argsOf H f m (i + 1) r).bind fun (ds, ks) =>
    if H.keep f i then some (d :: ds, ks)
    else match d with
      | .s d0 => (frz0 m d0).bind fun (d', ks') => some (.s d' :: ds, ks' ++ ks)
      | .tup _ => none

def noFr1 : D1 → Bool
  | .v _ => true
  | .top => true
  | _ => false
def noFrL : List D1 → Bool
  | [] => true
  | d :: r => noFr1 d && noFrL r
def noFr : D → Bool
  | .s d => noFrL d.cells
  | .tup ds => ds.all fun d => noFrL d.cells

/-- ids of a callee's answer, in the caller's -/
def back (l : List Nat) (base : Nat) (j : Nat) : Option Nat :=
  match nth l j with
  | some b => some b
  | none => some (base + (j - l.length))

def zipWr (g : Nat → Option Nat) : List Nat → List Box → List (Nat × Box)
  | b :: l, x :: m => (b, renBox g (some x)) :: zipWr g l m
  | _, _ => []

abbrev CallF := Nat → List D → List Box → Option R
abbrev LoopF := Env → Nat → Code → St → Option (Ex × St)

/-- a call, its answer brought to a shape -/
def callT {Ω : Type} (callF : CallF) (f : Nat) (args : List D) (m : List Box) (outs : List Vt) (mouts : List Mt) (K : VtsT outs → MtsT mouts → Option Ω) : Option Ω :=
  (callF f args m).bind fun p => decR outs p.1 fun y => decMts mouts p.2 fun my => K y my
/-- a loop, its answer brought to a shape -/
def loopT {Ω : Type} (loopF : LoopF) (env : Env) (bid : Nat) (c : Code) (st : St) (exits : List (Ex × StTy)) (K : Ex → St → Option Ω) : Option Ω :=
  (loopF env bid c st).bind fun p => decEx exits p K

def callK {Ω : Type} (P : Program) (H : Hints) (callF : CallF) (f : Nat) (args : List D) (m : List Box) (base : Nat) (K : Eff → Option Ω) : Option Ω :=
  match P.funcs[f]? with
  | some fn =>
    if fn.name == "runtime.NumGoroutine" || fn.body.isNone then none else
    match argsOf H f m 0 args with
    | none => none
    | some (ds, ks) =>
      let l := reach m roundFuel (ds.flatMap refsD) []
      if l.any (has · ks) then none else
      callT callF f (ds.map (renD (posOf · l))) (subMem m l) (H.outs f) (H.mouts f) fun y my =>
        let r := encR (H.outs f) y
        let m' := encMts (H.mouts f) my
        let g := back l base
        let wr := if H.ro f then [] else zipWr g l m'
        let news := (m'.drop l.length).map fun x => renBox g (some x)
        if H.tmp f then
          if noFr r && Nat.beq m'.length l.length && H.ro f then K { val := renD g r, rd := l ++ ks, wr := wr, news := news } else none
        else K { val := renD g r, rd := l ++ ks, wr := wr ++ killed ks, news := news }
  | none => none

def indexK {Ω : Type} (P : Program) (m : List Box) (t : TypeId) (x ix : D) (K : Eff → Option Ω) : Option Ω :=
  match anyInt? ix with
  | none => none
  | some (_, i) =>
    match desc P t, x with
    | some (.array len elem), .s (.one (.ptr b e c)) => match P.info? elem with
      | some ti => bif decide (0 ≤ i) && decide (i < (len : Int)) then K { val := .s (.one (.ptr b e (c + i.toNat * ti.size))) } else none
      | none => none
    | some (.array len elem), .s (.one (.rp cs)) => match P.info? elem with
      | some ti => bif decide (0 ≤ i) && decide (i < (len : Int)) then K { val := .s (.one (.rp (cs.drop (i.toNat * ti.size)))) } else none
      | none => none
    | some (.slice elem), .s (.one (.fr z es)) => match P.info? elem with
      | some ti =>
        if Nat.beq z ti.size then
          bif decide (0 ≤ i) then (nth es i.toNat).bind fun cs => K { val := .s (.one (.rp cs)) } else none
        else none
      | none => none
    | some (.slice elem), .s (.one (.fs b)) => match nth m b, P.info? elem with
      | some (.own z _ es), some ti =>
        if Nat.beq z ti.size then
          bif decide (0 ≤ i) then (nth es i.toNat).bind fun _ => K { val := .s (.one (.ptr b i.toNat 0)), rd := [b] } else none
        else none
      | _, _ => none
    | _, _ => none

def fieldK {Ω : Type} (P : Program) (t : TypeId) (x : D) (f : Nat) (K : Eff → Option Ω) : Option Ω :=
  match desc P t with
  | some (.struct fields) => match fields.toList[f]? with
    | some fd => match P.info? fd.type with
     | none => none
     | some ti =>
      if Nat.beq ti.size 0 then none else
      match x with
      | .s (.one (.ptr b e c)) => K { val := .s (.one (.ptr b e (c + fd.offset))) }
      | .s (.one (.rp cs)) => K { val := .s (.one (.rp (cs.drop fd.offset))) }
      | _ => none
    | none => none
  | _ => none

def storeK {Ω : Type} (P : Program) (t : TypeId) (m : List Box) (a x : D) (K : Eff → Option Ω) : Option Ω :=
  match a, x with
  | .s (.one (.ptr b e c)), .s d =>
    match P.info? t, nth m b with
      | some ti, some (.own z fl es) => if Nat.beq d.cells.length ti.size && !isTop d then (nth es e).bind fun cs => (setCells cs c d.cells).bind fun cs' =>
          K { val := dtop, rd := [b], wr := [(b, .own z (fl && d.closed) (upd es e cs'))] }
        else none
      | _, _ => none
  | _, _ => none

def sameBox : Option Nat → Option Nat → Bool
  | some i, some j => Nat.beq i j
  | _, _ => false
def isFr : D → Bool
  | .s (.one (.fr _ _)) => true
  | _ => false
def appendK {Ω : Type} (P : Program) (m : List Box) (base : Nat) (t : TypeId) (s x : D) (K : Eff → Option Ω) : Option Ω :=
  match desc P t with
  | some (.slice elem) => match P.info? elem with
    | some ti => match ti.zero with
      | some zv => match elems? m s, elems? m x with
        | some (b, z, fl, es), some (b', z', fl', es') =>
          if !isFr s && !sameBox b b' && fits ti.size z && fits ti.size z' && Nat.blt 0 ti.size && Nat.blt 0 ti.bytes && Nat.beq zv.cells.size ti.size then
            bif decide ((es.length + es'.length) * ti.bytes ≤ 140737488355328) then
              K { val := .s (.one (.fs base)), rd := b.toList ++ b'.toList, wr := killed b.toList, news := [.own ti.size (fl && fl') (es ++ es')] }
            else none
          else none
        | _, _ => none
      | none => none
    | none => none
  | _ => none

/-- an append whose slices, the old one and the new one, nobody writes any more -/
def appendZK {Ω : Type} (P : Program) (m : List Box) (t : TypeId) (s x : D) (K : Eff → Option Ω) : Option Ω :=
  match desc P t with
  | some (.slice elem) => match P.info? elem with
    | some ti => match ti.zero with
      | some zv => match elems? m s, elems? m x with
        | some (some b, z, true, es), some (b', z', true, es') =>
          if !isFr s && !sameBox (some b) b' && fits ti.size z && fits ti.size z' && Nat.blt 0 ti.size && Nat.blt 0 ti.bytes && Nat.beq zv.cells.size ti.size then
            bif decide ((es.length + es'.length) * ti.bytes ≤ 140737488355328) then
              K { val := .s (.one (.fr ti.size (es ++ es'))), rd := b :: b'.toList, wr := [(b, .fz ti.size es)], news := [.dead] }
            else none
          else none
        | _, _ => none
      | none => none
    | none => none
  | _ => none

def loOf : Option D → Option Int
  | none => some 0
  | some d => match anyInt? d with | some (_, i) => some i | none => none
def hiOf (n : Nat) : Option D → Option Int
  | none => some (n : Int)
  | some d => match anyInt? d with | some (_, i) => some i | none => none
def sliceK {Ω : Type} (P : Program) (t : TypeId) (x : D) (lo hi : Option D) (K : Eff → Option Ω) : Option Ω :=
  match desc P t, x with
  | some (.slice elem), .s (.one (.fr z es)) => match P.info? elem with
   | none => none
   | some ti => if !Nat.beq z ti.size then none else
    (loOf lo).bind fun l =>
    (hiOf es.length hi).bind fun h =>
      bif decide (0 ≤ l) && decide (l ≤ h) && decide (h ≤ es.length) then K { val := .s (.one (.fr z ((es.take h.toNat).drop l.toNat))) } else none
  | some .string, .s (.one (.v (.string s))) =>
    (loOf lo).bind fun l =>
    (hiOf s.size hi).bind fun h =>
      bif decide (0 ≤ l) && decide (l ≤ h) && decide (h ≤ s.size) then K { val := dv (.string (s.extract l.toNat h.toNat)) } else none
  | _, _ => none

/-- the boxes of one element that an address of an array is seen through: the array's cells, which nobody writes any more -/
def sliceArrK {Ω : Type} (P : Program) (t : TypeId) (m : List Box) (x : D) (K : Eff → Option Ω) : Option Ω :=
  match desc P t, x with
  | some (.array n elem), .s (.one (.ptr b 0 0)) =>
    match P.info? elem, nth m b with
    | some ti, some (.own _ true [cs]) =>
      if Nat.beq ti.size 1 && Nat.beq cs.length n then K { val := .s (.one (.fr 1 (cs.map fun d => [d]))), rd := [b], wr := [(b, .dead)] } else none
    | _, _ => none
  | _, _ => none

def makeK {Ω : Type} (P : Program) (t : TypeId) (len cap : D) (base : Nat) (K : Eff → Option Ω) : Option Ω :=
  match desc P t, anyInt? len, anyInt? cap with
  | some (.slice elem), some (_, n), some (_, c) => match P.info? elem with
   | none => none
   | some ti => match ti.zero with
    | some z =>
      if Nat.beq ti.size z.cells.size && Nat.blt 0 ti.size && Nat.blt 0 ti.bytes && z.cells.toList.all (·.oneCell') then
        bif decide (0 ≤ n) && decide (n ≤ c) && decide (c ≤ n) && decide (n.toNat * ti.bytes ≤ 140737488355328) then
          K { val := .s (.one (.fs base)), news := [.own ti.size true (List.replicate n.toNat (z.cells.toList.map .v))] }
        else none
      else none
    | none => none
  | _, _, _ => none

def buildSliceK {Ω : Type} (P : Program) (fr : List D) (m : List Box) (base : Nat) (t : TypeId) (len : Nat) (parts : List (Nat × Operand)) (K : Eff → Option Ω) : Option Ω :=
  match desc P t with
  | some (.slice elem) => match P.info? elem, parts? fr parts with
    | some ti, some ps => match ti.zero with
     | none => none
     | some z => (frzParts m ps).bind fun (ps', ks) =>
      let size := ti.size
      if Nat.beq size z.cells.size && Nat.blt 0 size && Nat.ble (len * size) 4096 && z.cells.toList.all (·.oneCell') then
        (fillD (fun i => some (i * size, size)) ((List.replicate len (z.cells.toList.map D1.v)).flatten) ps').bind fun cells =>
          K { val := .s (.one (.fs base)), rd := ks, wr := killed ks, news := [.own size (ps'.all fun p => p.2.closed) ((List.range len).map fun i => (cells.drop (i * size)).take size)] }
      else none
    | _, _ => none
  | _ => none

def placeS (P : Program) (fields : List Field) (i : Nat) : Option (Nat × Nat) :=
  match nth fields i with
  | some f => match P.info? f.type with
    | some ti => some (f.offset, ti.size)
    | none => none
  | none => none
def buildK {Ω : Type} (P : Program) (fr : List D) (t : TypeId) (parts : List (Nat × Operand)) (K : Eff → Option Ω) : Option Ω :=
  match P.info? t, parts? fr parts with
  | some ti, some ps => match ti.zero with
   | none => none
   | some z =>
    if !z.cells.toList.all (·.oneCell') then none else
    match desc P t with
    | some (.struct fields) =>
      if fields.toList.all (fun f => (P.info? f.type).isSome) then
        (fillD (placeS P fields.toList) (z.cells.toList.map .v) ps).bind fun cells => K { val := .s (.agg (ps.all fun p => p.2.closed) cells) }
      else none
    | some (.array _ elem) => match P.info? elem with
      | some te => (fillD (fun i => some (i * te.size, te.size)) (z.cells.toList.map .v) ps).bind fun cells => K { val := .s (.agg (ps.all fun p => p.2.closed) cells) }
      | none => none
    | _ => none
  | _, _ => none

/-- equality, cell by cell, for types of whole numbers, truth values and strings -/
def isAggT (P : Program) (t : TypeId) : Bool := match desc P t with
  | some dt => isAggD dt
  | none => false
def eqAll : List (Option Bool) → Option Bool
  | [] => some true
  | x :: r => match x, eqAll r with
    | some a, some b => some (a && b)
    | _, _ => none
def eqT (P : Program) : Nat → TypeId → List D1 → List D1 → Option Bool
  | 0, _, _, _ => none
  | n + 1, t, xs, ys => match desc P t with
    | some (.int _) => match xs, ys with
      | [.v (.int a x)], [.v (.int b y)] => if a = b then some (x == y) else none
      | _, _ => none
    | some .bool => match xs, ys with
      | [.v (.bool x)], [.v (.bool y)] => some (x == y)
      | _, _ => none
    | some .string => match xs, ys with
      | [.v (.string x)], [.v (.string y)] => some (x == y)
      | _, _ => none
    | some (.array len e) => match P.info? e with
      | some te => eqAll ((upTo len).map fun i => eqT P n e ((xs.drop (i * te.size)).take te.size) ((ys.drop (i * te.size)).take te.size))
      | none => none
    | some (.struct fs) =>
      if P.stoodInHeld t || fs.toList.any (·.name == "_") then none
      else eqAll (fs.toList.map fun f => eqT P n f.type ((xs.drop f.offset).take (sizeT P f.type)) ((ys.drop f.offset).take (sizeT P f.type)))
    | _ => none

def evalOp {Ω : Type} (P : Program) (H : Hints) (callF : CallF) (o : Oper) (fr : List D) (m : List Box) (base : Nat) (K : Eff → Option Ω) : Option Ω :=
  match o.op with
  | .move x => K { val := evalD fr x }
  | .assign x => K { val := evalD fr x }
  | .pick c a b => (boolOf? (evalD fr c)).bind fun t => bif t then K { val := evalD fr a } else K { val := evalD fr b }
  | .alloc e => match (P.info? e).bind (·.zero) with
    | some z => if !z.cells.toList.all (·.oneCell') then none else K { val := .s (.one (.ptr base 0 0)), news := [.own z.cells.size true [z.cells.toList.map .v]] }
    | none => none
  | .box _ x => match evalD fr x with
    | .s d => if isTop d then none else K { val := .s (.one (.ptr base 0 0)), news := [.own d.cells.length d.closed [d.cells]] }
    | _ => none
  | .build t parts => buildK P fr t parts.toList K
  | .buildSlice t len parts => buildSliceK P fr m base t len parts.toList K
  | .load t a => loadK P t m (evalD fr a) K
  | .store t a x => storeK P t m (evalD fr a) (evalD fr x) K
  | .nilCheck x => match evalD fr x with
    | .s (.one (.ptr b e c)) => K { val := .s (.one (.ptr b e c)) }
    | .s (.one (.rp cs)) => K { val := .s (.one (.rp cs)) }
    | .s (.one (.clo f cap)) => K { val := .s (.one (.clo f cap)) }
    | .s (.one (.v (.func (.func f) a b))) => K { val := .s (.one (.v (.func (.func f) a b))) }
    | _ => none
  | .fieldAddr t x f => fieldK P t (evalD fr x) f K
  | .indexAddr t x ix => indexK P m t (evalD fr x) (evalD fr ix) K
  | .makeSlice t l c => makeK P t (evalD fr l) (evalD fr c) base K
  | .slice t x lo hi none =>
    match desc P t with
    | some (.array _ _) => match lo, hi with
      | none, none => sliceArrK P t m (evalD fr x) K
      | _, _ => none
    | _ => sliceK P t (evalD fr x) (lo.map (evalD fr)) (hi.map (evalD fr)) K
  | .makeFunc (.func f) first captured =>
    if first.isEmpty then
      match (captured.toList.map (evalD fr)).mapM (fun d => match d with | .s (.one d) => some d | _ => none) with
      | some cs => if cs.all (fun d => match d with | .top => false | _ => true) then K { val := .s (.one (.clo f cs)) } else none
      | none => none
    else none
  | .extract t i => match evalD fr t with
    | .tup ds => match nth ds i with
      | some d => K { val := .s d }
      | none => none
    | _ => none
  | .field t x f => match desc P t, evalD fr x with
    | some (.struct fields), .s (.agg cl cs) => match fields.toList[f]? with
      | some fd => partK P cl cl fd.type cs fd.offset fun d => shapeK P cl fd.type d fun d => K { val := .s d }
      | none => none
    | _, _ => none
  | .index t x ix => match desc P t, evalD fr x, anyInt? (evalD fr ix) with
    | some (.array len elem), .s (.agg cl cs), some (_, i) =>
      bif decide (0 ≤ i) && decide (i < (len : Int)) then (match P.info? elem with
        | some te => partK P cl cl elem cs (i.toNat * te.size) fun d => shapeK P cl elem d fun d => K { val := .s d }
        | none => none) else none
    | some .string, .s (.one (.v (.string s))), some (_, i) =>
      bif decide (0 ≤ i) then (s.data.toList[i.toNat]?).bind fun c => K { val := dv (.int .u8 c.toNat) } else none
    | _, _, _ => none
  | .binOp op t x y _ =>
    match op, evalD fr x, evalD fr y with
    | .quo, .s (.one (.v (.int k a))), .s (.one (.v (.int k' b))) =>
      if k = k' then bif b == 0 then none else K { val := dv (.int k (k.wrap (a.tdiv b))) } else none
    | .rem, .s (.one (.v (.int k a))), .s (.one (.v (.int k' b))) =>
      if k = k' then bif b == 0 then none else K { val := dv (.int k (a.tmod b)) } else none
    | .shl, .s (.one (.v (.int k a))), .s (.one (.v (.int _ b))) =>
      bif decide (b < 0) then none else K { val := dv (.int k (k.wrap (a * 2 ^ min b.toNat k.bits))) }
    | .shr, .s (.one (.v (.int k a))), .s (.one (.v (.int _ b))) =>
      bif decide (b < 0) then none else K { val := dv (.int k (a.fdiv (2 ^ min b.toNat k.bits))) }
    | .eql, .s (.agg _ xs), .s (.agg _ ys) =>
      if P.eqGuardType P.depth t || !isAggT P t then none else (eqT P 20 t xs ys).bind fun b => K { val := dv (.bool b) }
    | .neq, .s (.agg _ xs), .s (.agg _ ys) =>
      if P.eqGuardType P.depth t || !isAggT P t then none else (eqT P 20 t xs ys).bind fun b => K { val := dv (.bool (!b)) }
    | _, .s (.agg _ _), _ => none
    | _, _, _ => match pureRun P fr o with | some v => K { val := ofVal v } | none => none
  | .call c =>
    match c.callee with
    | .builtin .append => match c.args.toList, c.argTypes.toList with
      | [s, x], [t, t'] => if Nat.beq t t' then (bif H.frz (o.dst.getD 0) then appendZK P m t (evalD fr s) (evalD fr x) K else appendK P m base t (evalD fr s) (evalD fr x) K) else none
      | _, _ => none
    | .builtin .len => match c.args.toList, c.argTypes.toList with
      | [x], [t] => match desc P t, elems? m (evalD fr x) with
        | some (.slice _), some (b, _, _, es) => K { val := dv (.int .i64 (es.length : Nat)), rd := b.toList }
        | _, _ => match pureRun P fr o with | some v => K { val := ofVal v } | none => none
      | _, _ => none
    | .builtin _ => match pureRun P fr o with | some v => K { val := ofVal v } | none => none
    | .value fo => match evalD fr fo with
      | .s (.one (.v (.func (.func f) first cap))) => if first.isEmpty && cap.isEmpty then callK P H callF f (c.args.toList.map (evalD fr)) m base K else none
      | .s (.one (.clo f cap)) => callK P H callF f (c.args.toList.map (evalD fr) ++ cap.map fun d => .s (.one d)) m base K
      | _ => none
    | .invoke _ _ => none
  | .unOp _ _ _ => match pureRun P fr o with | some v => K { val := ofVal v } | none => none
  | .convert _ _ _ => match pureRun P fr o with | some v => K { val := ofVal v } | none => none
  | _ => none

/-- slices that nobody writes any more, by their elements -/
def thaw1 (m : List Box) : D → D
  | .s (.one (.fs b)) => match nth m b with
    | some (.fz z es) => .s (.one (.fr z es))
    | _ => .s (.one (.fs b))
  | d => d
def thawL (m : List Box) : List D → List D
  | [] => []
  | d :: r => thaw1 m d :: thawL m r
def fzOf (m : List Box) (fr : List D) : List Operand → List Nat
  | [] => []
  | x :: r => match evalD fr x with
    | .s (.one (.fs b)) => match nth m b with
      | some (.fz _ _) => b :: fzOf m fr r
      | _ => fzOf m fr r
    | _ => fzOf m fr r
def evalOpT {Ω : Type} (P : Program) (H : Hints) (callF : CallF) (o : Oper) (fr : List D) (m : List Box) (base : Nat) (K : Eff → Option Ω) : Option Ω :=
  bif H.thaw (o.dst.getD 0) then evalOp P H callF o (thawL m fr) m base fun e => K { e with rd := fzOf m fr o.op.operands.toList ++ e.rd }
  else evalOp P H callF o fr m base K

/-! ### a region -/
structure Foot where
  rd : List Nat
  wr : List Nat
  tr : List Nat
  tw : Option Nat

def disj (a b : List Nat) : Bool := a.all fun x => !has x b

/-- the edges that bind in every order: the bits of all that comes ahead of an operation -/
def beforeL (acc : List Nat) : List Edge → Nat
  | [] => 0
  | e :: r => match e.ground with
    | .textOnly _ => beforeL acc r
    | .gcOnly _ => beforeL acc r
    | _ => 2 ^ e.on ||| (nth acc e.on).getD 0 ||| beforeL acc r
def beforeOf (acc : List Nat) (o : Oper) : Nat :=
  beforeL acc o.after.toList

def apartFrom (foots : List Foot) (bits : Nat) (f : Foot) : Nat → Bool
  | i => match foots with
    | [] => true
    | g :: r => (bits.testBit i || (disj f.wr (g.rd ++ g.wr) && disj g.wr f.rd && disj f.tw.toList (g.tr ++ g.tw.toList) && disj g.tw.toList f.tr)) && apartFrom r bits f (i + 1)
/-- the temporaries that an operation looks at -/
def tmpsOf : List Operand → List Nat
  | [] => []
  | .tmp t :: r => t :: tmpsOf r
  | _ :: r => tmpsOf r
def always (e : Edge) : Bool := match e.ground with
  | .textOnly _ => false
  | .gcOnly _ => false
  | _ => true
def edgesOK (n : Nat) (o : Oper) : Bool := o.after.toList.all fun e => !always e || Nat.blt e.on n

def newIdsL : Nat → List Box → List Nat
  | _, [] => []
  | n, _ :: r => n :: newIdsL (n + 1) r
def runOps {Ω : Type} (P : Program) (H : Hints) (env : Env) (callF : CallF) (ops : Array Oper) (draw : Bool) : List Oper → List D → List Box → List Nat → List Foot → (St → Option Ω) → Option Ω
  | [], fr, m, _, _, K => K ⟨fr, m⟩
  | o :: rest, fr, m, bef, foots, K =>
    let bits := beforeOf bef o
    let gt : List Nat := match o.guard with | some (j, _) => ((ops[j]?).bind (·.dst)).toList | none => []
    let tr := tmpsOf o.op.operands.toList ++ gt
    let go (fr : List D) : Option Ω :=
      evalOpT P H callF o fr m m.length fun e =>
        let ft : Foot := ⟨e.rd, e.wr.map (·.1) ++ newIdsL m.length e.news, tr, o.dst⟩
        if (!draw || (edgesOK bef.length o && apartFrom foots bits ft 0)) && (!env.ro || ft.wr.all (Nat.ble env.nimp)) then
          runOps P H env callF ops draw rest (match o.dst with | some d => upd fr d e.val | none => fr) (e.mem m) (bef ++ [bits]) (foots ++ [ft]) K
        else none
    let skip (fr : List D) : Option Ω :=
      let ft : Foot := ⟨[], [], tr, o.dst⟩
      if !draw || (edgesOK bef.length o && apartFrom foots bits ft 0) then
        runOps P H env callF ops draw rest (match o.dst with | some d => upd fr d dundef | none => fr) m (bef ++ [bits]) (foots ++ [ft]) K
      else none
    match o.guard with
    | none => go fr
    | some (j, want) =>
      match ops[j]?.bind (·.dst) with
      | none => none
      | some d => if isUndef (tmpOf fr d) then skip fr else (boolOf? (tmpOf fr d)).bind fun t =>
        bif t then (if want then go (upd fr d (dv (.bool true))) else skip (upd fr d (dv (.bool true))))
        else (if want then skip (upd fr d (dv (.bool false))) else go (upd fr d (dv (.bool false))))

/-! ### code -/
def evalC {Ω : Type} (P : Program) (H : Hints) (env : Env) (loopF : LoopF) (callF : CallF) : Code → Nat → St → Kont Ω → Option Ω
  | .skip, _, st, K => K .nrm st
  | .region _ ops draw, _, st, K => runOps P H env callF ops draw ops.toList st.fr st.m [] [] fun st' => K .nrm st'
  | .seq a b, bid, st, K => evalC P H env loopF callF a bid st fun ex st' => match ex with
    | .nrm => evalC P H env loopF callF b bid st' K
    | .exit j => K (.exit j) st'
    | .ret => K .ret st'
  | .cond c a b, bid, st, K => (boolOf? (evalD st.fr c)).bind fun t =>
    bif t then evalC P H env loopF callF a bid st K else evalC P H env loopF callF b bid st K
  | .block id c, _, st, K => evalC P H env loopF callF c id st fun ex st' => match ex with
    | .nrm => K .nrm st'
    | .exit j => if Nat.beq j id then K .nrm st' else K (.exit j) st'
    | .ret => K .ret st'
  | .loop c, bid, st, K => canonK (H.live env.f bid) env.nimp st fun st' => loopT loopF env bid c st' (H.exits env.f bid) K
  | .exit id, _, st, K => K (.exit id) st
  | .ret, _, st, K => K .ret st
  | _, _, _, _ => none

/-! ### a function -/
def resultsK {Ω : Type} (P : Program) (fr : List D) (m : List Box) : List ResultVar → (List D0 → Option Ω) → Option Ω
  | [], K => K []
  | .tmp t :: r, K => match tmpOf fr t with
    | .s d => resultsK P fr m r fun ds => K (d :: ds)
    | _ => none
  | .cell a t :: r, K => loadK P t m (tmpOf fr a) fun e => match e.val with
    | .s d => resultsK P fr m r fun ds => K (d :: ds)
    | _ => none

def frzAll (m : List Box) : List D0 → Option (List D0 × List Nat)
  | [] => some ([], [])
  | d :: r => (frz0 m d).bind fun (d', ks) => (frzAll m r).bind fun (l, ks') => some (d' :: l, ks ++ ks')

def renL0 (g : Nat → Option Nat) : List D0 → List D0
  | [] => []
  | d :: r => ren0 g d :: renL0 g r
def finish1 (H : Hints) (env : Env) (m : List Box) (ds : List D0) : Option R :=
  let acc := reach m roundFuel (refsUp m env.nimp ++ ds.flatMap refs0) (upTo env.nimp)
  decVts (H.outs env.f) (renL0 (posOf · acc) ds) fun y => decMts (H.mouts env.f) (subMem m acc) fun my =>
    some (encR (H.outs env.f) y, encMts (H.mouts env.f) my)
def finish (H : Hints) (env : Env) (m : List Box) (ds0 : List D0) : Option R :=
  if H.own env.f then finish1 H env m ds0
  else (frzAll m ds0).bind fun (ds, ks) =>
    if ks.all (Nat.ble env.nimp) then finish1 H env (putAll m (killed ks)) ds else none

def evalBody (P : Program) (H : Hints) (loopF : LoopF) (callF : CallF) (f : Nat) (args : List D) (m : List Box) : Option R :=
  match P.funcs[f]? with
  | none => none
  | some fn => match fn.body with
    | none => none
    | some c =>
      let env : Env := ⟨f, m.length, H.ro f⟩
      evalC P H env loopF callF c 0 ⟨args ++ List.replicate (fn.ntmps - args.length) dtop, m⟩ fun ex st =>
        match ex with
        | .exit _ => none
        | _ => resultsK P st.fr st.m fn.results.toList fun ds => finish H env st.m ds

def lvl (P : Program) (H : Hints) : Nat → LoopF × CallF
  | 0 => (fun _ _ _ _ => none, fun _ _ _ => none)
  | n + 1 =>
    (fun env bid c st => evalC P H env (lvl P H n).1 (lvl P H n).2 c bid st fun ex st' => match ex with
      | .nrm => canonK (H.live env.f bid) env.nimp st' fun st2 => (lvl P H n).1 env bid c st2
      | .exit j => canonEx (H.exits env.f bid) env.nimp (.exit j) st'
      | .ret => canonEx (H.exits env.f bid) env.nimp .ret st',
     fun f args m => evalBody P H (lvl P H n).1 (lvl P H n).2 f args m)

def evalF (P : Program) (H : Hints) (n : Nat) (f : Nat) (args : List D) (m : List Box) : Option R := (lvl P H n).2 f args m

end Go.Proofs.Ytceaambiagobbaa.Am
