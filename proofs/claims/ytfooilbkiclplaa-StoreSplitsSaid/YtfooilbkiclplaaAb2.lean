/- The abstract evaluator: operations, regions, code, functions. -/
import Derived.Test.YtfooilbkiclplaaAb1
namespace Go.Ab

structure Out (G : Sig) where
  v : Option (Sv G.T)
  d : List (Nat × Option (Blk G.T))
  nw : List Nat
  rd : List Nat

structure St (G : Sig) where
  tm : List (Nat × Sv G.T)
  hp : List (Nat × Blk G.T)
  us : List Nat

/-- What a call of a function comes to: its number, its arguments, the memory, a name for what is new. -/
def CallF (G : Sig) : Type 1 := Nat → List (Pv G.T) → (Nat → Option (Blk G.T)) → Nat → M (Out G)

variable {G : Sig}

def outP (x : Pv G.T) : Out G := ⟨some (.p x), [], [], []⟩
def outV (v : Value) : Out G := outP (.one (.sc v))

/-- The names that a cell mentions. -/
def Cv.nms {T : Nat → Type} : Cv T → List Nat
  | .ptr n _ | .pd n _ _ _ _ | .pr n _ _ _ | .own n => [n]
  | .clo _ a b => a.map (·.1) ++ b.map (·.1)
  | _ => []
def Cv.rds {T : Nat → Type} : Cv T → List Nat
  | .ptr n _ | .pd n _ _ _ _ | .pr n _ _ _ | .own n => [n]
  | _ => []

def castL (G : Sig) (t t' : Nat) (l : List (G.T t)) : Option (List (G.T t')) :=
  if h : t = t' then some (h ▸ l) else none

/-- The elements of a slice of elements of type e. -/
def elems (h : Nat → Option (Blk G.T)) (e : Nat) : Cv G.T → Option (List (G.T e))
  | .sc (.slice none 0 0) => some []
  | .own n => match h n with | some (.row t l) => castL G t e l | _ => none
  | .ro t l => castL G t e l
  | _ => none

def ptrOf {T : Nat → Type} : Pv T → Option (Nat × Nat)
  | .one (.ptr n off) => some (n, off)
  | _ => none
def ptrP {T : Nat → Type} (a : Nat × Nat) : Pv T := .one (.ptr a.1 a.2)

/-- Bounds of lengths, so that nothing of what is made passes the model's limits. -/
def lenMax : Nat := 2147483648

section
variable (cf : CallF G) (ev : Operand → Option (Sv G.T)) (h : Nat → Option (Blk G.T)) (nm : Nat)

def evP (x : Operand) : M (Pv G.T) := fun _ k => match ev x with | some (.p y) => k y | _ => none
def evC (x : Operand) : M (Cv G.T) := fun _ k => match ev x with | some (.p (.one c)) => k c | _ => none
def evI (x : Operand) : M (IntKind × Int) := fun _ k => match ev x with | some (.p (.one (.sc (.int d n)))) => k (d, n) | _ => none
def evB (x : Operand) : M Bool := fun _ k => match ev x with | some (.p (.one (.sc (.bool b)))) => k b | _ => none
def evPs : List Operand → M (List (Pv G.T))
  | [] => M.ret []
  | x :: t => M.bind (evP ev x) fun y => M.bind (evPs t) fun l => M.ret (y :: l)
/-- A bound of a slice expression: from 0 to m. -/
def evBound (d : Nat) (m : Nat) : Option Operand → M Nat
  | none => M.ret d
  | some x => M.bind (evI ev x) fun i => M.bind (M.need (decide (0 ≤ i.2) && decide (i.2 ≤ (m : Int)))) fun _ => M.ret i.2.toNat

def fillO (place : Nat → Option (Nat × Nat)) (cells : List (Cv G.T)) : List (Nat × Pv G.T) → Option (List (Cv G.T))
  | [] => some cells
  | (i, v) :: rest => match place i with
    | some (off, size) => bif Nat.beq v.cells.length size then
        match splice cells off v.cells with | some cs => fillO place cs rest | none => none
      else none
    | none => none
def evParts : List (Nat × Operand) → M (List (Nat × Pv G.T))
  | [] => M.ret []
  | (i, x) :: t => M.bind (evP ev x) fun y => M.bind (evParts t) fun l => M.ret ((i, y) :: l)
/-- The rows of so many cells. -/
def rows (G : Sig) (e : Nat) : Nat → List (Cv G.T) → Option (List (G.T e))
  | 0, [] => some []
  | 0, _ :: _ => none
  | n + 1, cs => match takeN (G.sz e) cs, dropN (G.sz e) cs with
    | some a, some b => match G.dec e a, rows G e n b with
      | some x, some l => some (x :: l)
      | _, _ => none
    | _, _ => none
def zeros (G : Sig) (t : Nat) : List (Cv G.T) := (G.zero t).map .sc
def zerosN (G : Sig) (t : Nat) : Nat → List (Cv G.T)
  | 0 => []
  | n + 1 => zeros G t ++ zerosN G t n

def bLen (t : Nat) (x : Operand) : M (Out G) := match G.ty t with
  | .str => M.bind (evC ev x) fun c => match c with
    | .sc (.string s) => M.ret (outV (.int .i64 (s.size : Int)))
    | _ => M.fail
  | .arr n _ => M.ret (outV (.int .i64 (n : Int)))
  | .sl e => M.bind (evC ev x) fun c => M.bind (M.opt (elems h e c)) fun l =>
      M.ret ⟨some (.p (.one (.sc (.int .i64 (l.length : Int))))), [], [], c.rds⟩
  | _ => M.fail
def bMin (x y : Operand) : M (Out G) := M.bind (evI ev x) fun a => M.bind (evI ev y) fun b =>
  M.bind (M.need (eqIK a.1 b.1)) fun _ => M.ret (outV (.int a.1 (bif decide (b.2 < a.2) then b.2 else a.2)))
def bMax (x y : Operand) : M (Out G) := M.bind (evI ev x) fun a => M.bind (evI ev y) fun b =>
  M.bind (M.need (eqIK a.1 b.1)) fun _ => M.ret (outV (.int a.1 (bif decide (a.2 < b.2) then b.2 else a.2)))
def appC (e : Nat) (l l' : List (G.T e)) (c c' : Cv G.T) : M (Out G) := match c with
  | .sc _ => M.ret ⟨some (.p (.one (.own nm))), [(nm, some (.row e (l ++ l')))], [nm], c'.rds⟩
  | .own n => M.bind (M.need (!has c'.rds n)) fun _ => M.ret ⟨some (.p (.one (.own nm))), [(n, none), (nm, some (.row e (l ++ l')))], [nm], n :: c'.rds⟩
  | _ => M.fail
def bAppend (t t' : Nat) (x y : Operand) : M (Out G) := match G.ty t with
  | .sl e => M.bind (M.need (Nat.beq t t')) fun _ => M.bind (evC ev x) fun c => M.bind (evC ev y) fun c' =>
      M.bind (M.opt (elems h e c)) fun l => M.bind (M.opt (elems h e c')) fun l' =>
      M.bind (M.need (Nat.ble (l.length + l'.length) lenMax)) fun _ => appC nm e l l' c c'
  | _ => M.fail
def actBuiltin (b : Builtin) (tys : List Nat) (xs : List Operand) : M (Out G) :=
  match b, tys, xs with
  | .len, t :: _, [x] => bLen ev h t x
  | .min, _, [x, y] => bMin ev x y
  | .max, _, [x, y] => bMax ev x y
  | .append, [t, t'], [x, y] => bAppend ev h nm t t' x y
  | _, _, _ => M.fail

def aMove (x : Operand) : M (Out G) := fun _ k => match ev x with | some s => k ⟨some s, [], [], []⟩ | none => none
def aPick (c a b : Operand) : M (Out G) := M.bind (evB ev c) fun c => M.bind (M.split c) fun c => aMove ev (bif c then a else b)
def aAlloc (t : Nat) : M (Out G) := match G.ty t with
  | .no => M.fail
  | _ => M.ret ⟨some (.p (.one (.ptr nm 0))), [(nm, some (.cells (zeros G t)))], [nm], []⟩
def aBox (x : Operand) : M (Out G) := M.bind (evP ev x) fun x => M.ret ⟨some (.p (.one (.ptr nm 0))), [(nm, some (.cells x.cells))], [nm], []⟩
def placeS (G : Sig) (fs : List (Nat × Nat)) (i : Nat) : Option (Nat × Nat) := match fs[i]? with | some (o, u) => some (o, G.sz u) | none => none
def placeA (G : Sig) (e i : Nat) : Option (Nat × Nat) := some (i * G.sz e, G.sz e)
def aBuild (t : Nat) (parts : List (Nat × Operand)) : M (Out G) := match G.ty t with
  | .st fs => M.bind (evParts ev parts) fun ps => M.bind (M.opt (fillO (placeS G fs) (zeros G t) ps)) fun cs => M.ret (outP (.agg cs))
  | .arr _ e => M.bind (evParts ev parts) fun ps => M.bind (M.opt (fillO (placeA G e) (zeros G t) ps)) fun cs => M.ret (outP (.agg cs))
  | _ => M.fail
def aBuildSlice (t len : Nat) (parts : List (Nat × Operand)) : M (Out G) := match G.ty t with
  | .sl e => M.bind (evParts ev parts) fun ps => M.bind (M.need (Nat.ble len 65536 && Nat.ble (len * G.sz e) 16777216)) fun _ =>
      M.bind (M.opt (fillO (placeA G e) (zerosN G e len) ps)) fun cs => M.bind (M.opt (rows G e len cs)) fun l =>
      M.ret ⟨some (.p (.one (.own nm))), [(nm, some (.row e l))], [nm], []⟩
  | _ => M.fail
def aLoad (t : Nat) (a : Operand) : M (Out G) := M.bind (evC ev a) fun c => M.bind (M.opt (look h (G.sz t) c)) fun cs => M.bind (M.opt (pack G t cs)) fun x => M.ret ⟨some (.p x), [], [], c.rds⟩
def isNo : Ty → Bool
  | .no => true
  | _ => false
def aStore (t : Nat) (a x : Operand) : M (Out G) := M.bind (evC ev a) fun c => M.bind (evP ev x) fun x => M.bind (M.need (Nat.beq x.cells.length (G.sz t) && !isNo (G.ty t))) fun _ =>
  M.bind (M.opt (poke h x.cells c)) fun r => M.ret ⟨none, [(r.1, some r.2)], [], c.rds⟩
def aNil (x : Operand) : M (Out G) := M.bind (evC ev x) fun c => M.bind (M.need (isP c)) fun _ => M.ret (outP (.one c))
def binS (y : Ty) (op : BinOp) (v u : Value) : M (Out G) := match y, v, u with
  | .bool, .bool a, .bool b => match op with
    | .eql => M.ret (outV (.bool (a == b)))
    | .neq => M.ret (outV (.bool (!(a == b))))
    | _ => M.fail
  | _, v, u => M.bind (bin op v u) fun r => M.ret (outV r)
/-- The kinds of cells that '==' goes through one by one. -/
def kindV : Value → Nat
  | .bool _ => 1
  | .string _ => 2
  | .int k _ => match k with
    | .i8 => 3
    | .i16 => 4
    | .i32 => 5
    | .i64 => 6
    | .u8 => 7
    | .u16 => 8
    | .u32 => 9
    | .u64 => 10
  | .float k _ => match k with
    | .f32 => 11
    | .f64 => 12
  | _ => 0
def kindC {T : Nat → Type} : Cv T → Nat
  | .sc v => kindV v
  | _ => 0
def eqNs : List Nat → List Nat → Bool
  | [], [] => true
  | a :: s, b :: t => Nat.beq a b && eqNs s t
  | _, _ => false
def mapK {α : Type} (f : α → Nat) : List α → List Nat
  | [] => []
  | a :: t => f a :: mapK f t
def zk (G : Sig) (t : Nat) : List Nat := mapK kindV (G.zero t)
def fieldsEq (G : Sig) (r : Nat → Bool) : List (Nat × Nat) → Nat → List Nat → Bool
  | [], _, ks => eqNs ks []
  | p :: t, off, ks => Nat.beq p.1 off && r p.2 && match takeN (G.sz p.2) ks, dropN (G.sz p.2) ks with
    | some a, some b => eqNs a (zk G p.2) && fieldsEq G r t (off + G.sz p.2) b
    | _, _ => false
def elemsEq (G : Sig) (e : Nat) : Nat → List Nat → Bool
  | 0, ks => eqNs ks []
  | n + 1, ks => match takeN (G.sz e) ks, dropN (G.sz e) ks with
    | some a, some b => eqNs a (zk G e) && elemsEq G e n b
    | _, _ => false
/-- The types on which '==' goes cell by cell. -/
def eqTb (G : Sig) : Nat → Nat → Bool
  | 0, _ => false
  | d + 1, t => match G.ty t with
    | .bool => eqNs (zk G t) [1]
    | .str => eqNs (zk G t) [2]
    | .int k => eqNs (zk G t) [kindV (.int k 0)]
    | .st fs => fieldsEq G (eqTb G d) fs 0 (zk G t)
    | .arr n e => eqTb G d e && elemsEq G e n (zk G t)
    | _ => false
def eqOn (G : Sig) (t : Nat) (cs ds : List (Cv G.T)) : Bool := eqTb G 20 t && eqNs (mapK kindC cs) (zk G t) && eqNs (mapK kindC ds) (zk G t)
def binP (op : BinOp) (t : Nat) (a b : Pv G.T) : M (Out G) := match a, b with
  | .one (.sc v), .one (.sc u) => binS (G.ty t) op v u
  | .agg cs, .agg ds => M.bind (M.need ((G.ty t).isAgg && eqOn G t cs ds)) fun _ => M.bind (M.opt (eqCells cs ds)) fun r => match op with
    | .eql => M.ret (outV (.bool r))
    | .neq => M.ret (outV (.bool (!r)))
    | _ => M.fail
  | _, _ => M.fail
def aBin (op : BinOp) (t : Nat) (x y : Operand) : M (Out G) := M.bind (evP ev x) fun a => M.bind (evP ev y) fun b => binP op t a b
def unP (op : UnOp) (c : Cv G.T) : M (Out G) := match op, c with
  | .not, .sc (.bool b) => M.ret (outV (.bool (!b)))
  | .neg, .sc (.int k n) => M.ret (outV (.int k (k.wrap (0 - n))))
  | .xor, .sc (.int k n) => M.bind (M.opt (bitI .xor k (if k.signed then -1 else k.max) n)) fun r => M.ret (outV (.int k r))
  | _, _ => M.fail
def aUn (op : UnOp) (x : Operand) : M (Out G) := M.bind (evC ev x) fun c => unP op c
def convC (y : Ty) (c : Cv G.T) : M (Out G) := match y, c with
  | .int k, .sc (.int _ n) => M.ret (outV (.int k (k.wrap n)))
  | .str, .sc (.string s) => M.ret (outV (.string s))
  | _, _ => M.fail
def aConv (s t : Nat) (x : Operand) : M (Out G) := M.bind (M.need (!isNo (G.ty s))) fun _ => M.bind (evC ev x) fun c => convC (G.ty t) c
def aFunc (f : Nat) (a b : List Operand) : M (Out G) := M.bind (evPs ev a) fun a => M.bind (evPs ev b) fun b =>
  M.bind (M.opt (mapO ptrOf a)) fun a => M.bind (M.opt (mapO ptrOf b)) fun b => M.ret (outP (.one (.clo f a b)))
def aMakeSlice (t : Nat) (n m : Operand) : M (Out G) := match G.ty t with
  | .sl e => M.bind (evI ev n) fun n => M.bind (evI ev m) fun m =>
      M.bind (M.need (decide (0 ≤ n.2) && decide (n.2 ≤ m.2) && decide (m.2 ≤ (lenMax : Int)))) fun _ =>
      M.bind (M.opt (G.dec e (zeros G e))) fun z =>
      M.ret ⟨some (.p (.one (.own nm))), [(nm, some (.row e (List.replicate n.2.toNat z)))], [nm], []⟩
  | _ => M.fail
def sliceS (c : Cv G.T) (lo hi : Option Operand) : M (Out G) := match c with
  | .sc (.string s) => M.bind (evBound ev s.size s.size hi) fun b => M.bind (evBound ev 0 b lo) fun a => M.ret (outV (.string (s.extract a b)))
  | _ => M.fail
def sliceR (c : Cv G.T) (e' : Nat) (lo hi : Option Operand) : M (Out G) := match c with
  | .ro e l => M.bind (M.need (Nat.beq e e')) fun _ => M.bind (evBound ev l.length l.length hi) fun b => M.bind (evBound ev 0 b lo) fun a => M.ret (outP (.one (.ro e ((l.take b).drop a))))
  | _ => M.fail
def aSlice (t : Nat) (x : Operand) (lo hi mx : Option Operand) : M (Out G) := match mx with
  | some _ => M.fail
  | none => match G.ty t with
    | .str => M.bind (evC ev x) fun c => sliceS ev c lo hi
    | .sl e => M.bind (evC ev x) fun c => sliceR ev c e lo hi
    | _ => M.fail
def aFieldAddr (t : Nat) (x : Operand) (f : Nat) : M (Out G) := match G.ty t with
  | .st fs => M.bind (evC ev x) fun c => M.bind (M.opt fs[f]?) fun o => M.bind (M.opt (shiftP o.1 c)) fun c => M.ret (outP (.one c))
  | _ => M.fail
def fieldP (fs : List (Nat × Nat)) (x : Pv G.T) (f : Nat) : M (Out G) := match x with
  | .agg ds => M.bind (M.opt fs[f]?) fun o => M.bind (M.opt (part ds o.1 (G.sz o.2))) fun cs => M.bind (M.opt (pack G o.2 cs)) fun x => M.ret (outP x)
  | .one _ => M.fail
def aField (t : Nat) (x : Operand) (f : Nat) : M (Out G) := match G.ty t with
  | .st fs => M.bind (evP ev x) fun x => fieldP fs x f
  | _ => M.fail
def inB (i : Int) (n : Nat) : Bool := decide (0 ≤ i) && decide (i < (n : Int))
def ixA (n e : Nat) (c : Cv G.T) (i : Int) : M (Out G) := match c with
  | .ptr b off => M.bind (M.need (inB i n)) fun _ => M.ret (outP (.one (.pd b off (G.sz e) n i.toNat)))
  | _ => M.fail
def ixS (e' : Nat) (c : Cv G.T) (i : Int) : M (Out G) := match c with
  | .own b => match h b with
    | some (.row e l) => M.bind (M.need (Nat.beq e e')) fun _ => M.bind (M.need (inB i l.length)) fun _ => M.ret ⟨some (.p (.one (.pr b e i.toNat 0))), [], [], [b]⟩
    | _ => M.fail
  | .ro e l => M.bind (M.need (Nat.beq e e')) fun _ => M.bind (M.need (inB i l.length)) fun _ => M.ret (outP (.one (.rp e (l.getD i.toNat (G.dfl e)) 0)))
  | _ => M.fail
def aIndexAddr (t : Nat) (x i : Operand) : M (Out G) := match G.ty t with
  | .arr n e => M.bind (evC ev x) fun c => M.bind (evI ev i) fun i => ixA n e c i.2
  | .sl e => M.bind (evC ev x) fun c => M.bind (evI ev i) fun i => ixS h e c i.2
  | _ => M.fail
def ixV (s : Cv G.T) (i : Int) : M (Out G) := match s with
  | .sc (.string s) => M.bind (M.need (inB i s.size)) fun _ => M.ret (outV (.int .u8 (byteAt s i.toNat)))
  | _ => M.fail
def aIndex (t : Nat) (x i : Operand) : M (Out G) := match G.ty t with
  | .str => M.bind (evC ev x) fun c => M.bind (evI ev i) fun i => ixV c i.2
  | _ => M.fail
def aExtract (x : Operand) (i : Nat) : M (Out G) := fun _ k => match ev x with
  | some (.tup xs) => match xs[i]? with | some y => k (outP y) | none => none
  | _ => none
def callC (c : Cv G.T) (a : List (Pv G.T)) : M (Out G) := match c with
  | .clo g fst caps => cf g (fst.map ptrP ++ (a ++ caps.map ptrP)) h nm
  | _ => M.fail
def aCall (f : Operand) (xs : List Operand) : M (Out G) := M.bind (evC ev f) fun c => M.bind (evPs ev xs) fun a => callC cf h nm c a

/-- The operations. -/
def act : Op → M (Out G)
  | .move x | .assign x => aMove ev x
  | .pick c a b => aPick ev c a b
  | .alloc t => aAlloc nm t
  | .box _ x => aBox ev nm x
  | .build t parts => aBuild ev t parts.toList
  | .buildSlice t len parts => aBuildSlice ev nm t len parts.toList
  | .load t a => aLoad ev h t a
  | .store t a x => aStore ev h t a x
  | .nilCheck x => aNil ev x
  | .binOp op t x y _ => aBin ev op t x y
  | .unOp op _ x => aUn ev op x
  | .convert s t x => aConv ev s t x
  | .makeFunc (.func f) a b => aFunc ev f a.toList b.toList
  | .makeSlice t n m => aMakeSlice ev nm t n m
  | .slice t x lo hi mx => aSlice ev t x lo hi mx
  | .fieldAddr t x f => aFieldAddr ev t x f
  | .field t x f => aField ev t x f
  | .indexAddr t x i => aIndexAddr ev h t x i
  | .index t x i => aIndex ev t x i
  | .extract x i => aExtract ev x i
  | .call ⟨.builtin b, xs, tys⟩ => actBuiltin ev h nm b tys.toList xs.toList
  | .call ⟨.value f, xs, _⟩ => aCall cf ev h nm f xs.toList
  | _ => M.fail
end

/-! ### Regions -/
def isSc : Value → Bool
  | .bool _ | .int _ _ | .float _ _ | .string _ | .nilFunc | .pointer none | .slice none 0 0 | .map none => true
  | _ => false
def evalO (tm : List (Nat × Sv G.T)) : Operand → Option (Sv G.T)
  | .tmp t => get tm t
  | .const (.agg cs) => bif cs.toList.all isSc then some (.p (.agg (cs.toList.map .sc))) else none
  | .const v => bif isSc v then some (.p (.one (.sc v))) else none
  | .func f => some (.p (.one (.clo f [] [])))
  | .global _ => none

def putD (hp : List (Nat × Blk G.T)) : List (Nat × Option (Blk G.T)) → List (Nat × Blk G.T)
  | [] => hp
  | (n, none) :: t => putD (del hp n) t
  | (n, some b) :: t => putD (put hp n b) t
def fresh (us : List Nat) : List Nat → Bool
  | [] => true
  | n :: t => !has us n && fresh us t
/-- The state behind an outcome. -/
def St.next (st : St G) (dst : Option Nat) (o : Out G) : St G :=
  { tm := match dst with
      | some d => match o.v with | some v => put st.tm d v | none => del st.tm d
      | none => st.tm
    hp := putD st.hp o.d
    us := o.nw ++ st.us }
def St.drop (st : St G) (dst : Option Nat) : St G :=
  match dst with
  | some d => { st with tm := put st.tm d (.tup []) }
  | none => st
def dstOf (base : Nat) : Option Nat → Nat
  | some d => base + 16 * d
  | none => base

/-- The guard of an operation: whether it is carried out, and the slot in which the answer stands now as a literal. -/
def guardB (tm : List (Nat × Sv G.T)) (g : Option Nat) (want : Bool) : M (Bool × Option (Nat × Bool)) := fun _ k =>
  match g with
  | some g => match get tm g with
    | some (.p (.one (.sc (.bool b)))) => bif b then k (want, some (g, true)) else k (!want, some (g, false))
    | some (.tup []) => k (false, none)
    | _ => none
  | none => none
def guardOf (ops : Array Oper) (tm : List (Nat × Sv G.T)) (o : Oper) : M (Bool × Option (Nat × Bool)) :=
  match o.guard with
  | none => M.ret (true, none)
  | some (j, want) => guardB tm ((ops[j]?).bind (·.dst)) want
def St.note (st : St G) : Option (Nat × Bool) → St G
  | some (g, b) => { st with tm := put st.tm g (.p (.one (.sc (.bool b)))) }
  | none => st

def dstOk (nt : Nat) : Option Nat → Bool
  | some d => Nat.blt d nt
  | none => true
section
variable (cf : CallF G) (nt : Nat)
def stepO (ops : Array Oper) (o : Oper) (st : St G) : M (St G) :=
  M.bind (M.need (dstOk nt o.dst)) fun _ => M.bind (guardOf ops st.tm o) fun g =>
    match g.1 with
    | true => M.bind (act cf (evalO st.tm) (get st.hp) (dstOf 0 o.dst) o.op) fun out =>
        M.bind (M.need (fresh st.us out.nw)) fun _ => M.ret ((st.note g.2).next o.dst out)
    | false => M.ret ((st.note g.2).drop o.dst)
def runOps (ops : Array Oper) : List Oper → St G → M (St G)
  | [], st => M.ret st
  | o :: t, st => M.bind (stepO cf nt ops o st) fun st => runOps ops t st
end
end Go.Ab
