/- The abstract evaluator: values, maps, the monad, and what each operation does. -/
import Derived.WalkKit
namespace Go.Ab

/-! ### Maps from numbers, as lists of pairs -/
def get {α : Type} : List (Nat × α) → Nat → Option α
  | [], _ => none
  | (k, v) :: t, n => bif Nat.beq k n then some v else get t n
def del {α : Type} : List (Nat × α) → Nat → List (Nat × α)
  | [], _ => []
  | (k, v) :: t, n => bif Nat.beq k n then del t n else (k, v) :: del t n
def put {α : Type} (l : List (Nat × α)) (n : Nat) (x : α) : List (Nat × α) := (n, x) :: del l n
def has : List Nat → Nat → Bool
  | [], _ => false
  | k :: t, n => bif Nat.beq k n then true else has t n

/-! ### The monad: a computation that may fail, in the style of continuations -/
def M (α : Type) : Type 1 := ∀ R : Type, (α → Option R) → Option R
namespace M
def ret {α : Type} (a : α) : M α := fun _ k => k a
def bind {α β : Type} (m : M α) (f : α → M β) : M β := fun R k => m R fun a => f a R k
def fail {α : Type} : M α := fun _ _ => none
def split (b : Bool) : M Bool := fun _ k => bif b then k true else k false
def need (b : Bool) : M Unit := fun _ k => bif b then k () else none
def opt {α : Type} (o : Option α) : M α := fun _ k => match o with | some a => k a | none => none
def lift {α : Type} (o : Option α) : M α := fun _ k => o.bind k
def val {α : Type} (m : M α) : Option α := m α some
instance : Monad M := { pure := ret, bind := bind }
end M

/-! ### Values -/
inductive Cv (T : Nat → Type) where
  | sc (v : Value)
  | ptr (n off : Nat)
  | pd (n off s len i : Nat)
  | pr (n t i off : Nat)
  | own (n : Nat)
  | ro (t : Nat) (l : List (T t))
  | rp (t : Nat) (x : T t) (off : Nat)
  | clo (f : Nat) (fst caps : List (Nat × Nat))
inductive Pv (T : Nat → Type) where
  | one (c : Cv T)
  | agg (cs : List (Cv T))
inductive Sv (T : Nat → Type) where
  | p (x : Pv T)
  | tup (xs : List (Pv T))
inductive Blk (T : Nat → Type) where
  | cells (cs : List (Cv T))
  | row (t : Nat) (l : List (T t))

inductive Ty where
  | no | bool | int (k : IntKind) | flt (k : FloatKind) | str | sl (e : Nat) | pt (e : Nat) | fn
  | st (fs : List (Nat × Nat)) | arr (n e : Nat)

def Ty.isAgg : Ty → Bool
  | .st _ | .arr _ _ => true
  | _ => false

/-- What is known of a program's types. -/
structure Sig where
  T : Nat → Type
  ty : Nat → Ty
  sz : Nat → Nat
  zero : Nat → List Value
  enc : (t : Nat) → T t → List (Cv T)
  dec : (t : Nat) → List (Cv T) → Option (T t)
  dfl : (t : Nat) → T t
  flat : Nat → Bool

variable {G : Sig}

def Pv.cells {T : Nat → Type} : Pv T → List (Cv T)
  | .one c => [c]
  | .agg cs => cs

/-! ### Scalars -/
def cmpI (op : BinOp) (x y : Int) : Option Bool :=
  match op with
  | .eql => some (x == y)
  | .neq => some (x != y)
  | .lss => some (decide (x < y))
  | .leq => some (decide (x ≤ y))
  | .gtr => some (decide (x > y))
  | .geq => some (decide (x ≥ y))
  | _ => none
def bitI (op : BinOp) (k : IntKind) (x y : Int) : Option Int :=
  match op with
  | .and => some (k.wrap ((BitVec.ofInt k.bits x &&& BitVec.ofInt k.bits y).toNat))
  | .or => some (k.wrap ((BitVec.ofInt k.bits x ||| BitVec.ofInt k.bits y).toNat))
  | .xor => some (k.wrap ((BitVec.ofInt k.bits x ^^^ BitVec.ofInt k.bits y).toNat))
  | .andNot => some (k.wrap ((BitVec.ofInt k.bits x &&& ~~~BitVec.ofInt k.bits y).toNat))
  | _ => none
def eqB (x y : ByteArray) : Bool := x.toList == y.toList
def ltB (x y : ByteArray) : Bool := Op.bytesLess x.toList y.toList
def ordF (op : BinOp) (k : FloatKind) (x y : Nat) : Option Bool :=
  match op with
  | .eql => some (k.format.order x y == some .eq)
  | .neq => some (k.format.order x y != some .eq)
  | .lss => some (k.format.order x y == some .lt)
  | .leq => some (k.format.order x y == some .lt || k.format.order x y == some .eq)
  | .gtr => some (k.format.order x y == some .gt)
  | .geq => some (k.format.order x y == some .gt || k.format.order x y == some .eq)
  | _ => none
def shI (op : BinOp) (k : IntKind) (x y : Int) : Option Int :=
  match op with
  | .shl => some (k.wrap (x * 2 ^ min y.toNat k.bits))
  | .shr => some (x.fdiv (2 ^ min y.toNat k.bits))
  | _ => none
def eqIK : IntKind → IntKind → Bool
  | .i8, .i8 | .i16, .i16 | .i32, .i32 | .i64, .i64 | .u8, .u8 | .u16, .u16 | .u32, .u32 | .u64, .u64 => true
  | _, _ => false
def eqFK : FloatKind → FloatKind → Bool
  | .f32, .f32 | .f64, .f64 => true
  | _, _ => false
def byteAt (s : ByteArray) (i : Nat) : Int := ((s.data.getD i 0).toNat : Int)

def binInt (op : BinOp) (k : IntKind) (a : Int) (k' : IntKind) (b : Int) : M Value :=
  match op with
  | .shl | .shr => M.bind (M.need (decide (0 ≤ b))) fun _ => M.bind (M.opt (shI op k a b)) fun r => M.ret (.int k r)
  | .add => M.bind (M.need (eqIK k k')) fun _ => M.ret (.int k (k.wrap (a + b)))
  | .sub => M.bind (M.need (eqIK k k')) fun _ => M.ret (.int k (k.wrap (a - b)))
  | .mul => M.bind (M.need (eqIK k k')) fun _ => M.ret (.int k (k.wrap (a * b)))
  | .quo => M.bind (M.need (eqIK k k')) fun _ => M.bind (M.need (b != 0)) fun _ => M.ret (.int k (k.wrap (a.tdiv b)))
  | .rem => M.bind (M.need (eqIK k k')) fun _ => M.bind (M.need (b != 0)) fun _ => M.ret (.int k (a.tmod b))
  | .and | .or | .xor | .andNot => M.bind (M.need (eqIK k k')) fun _ => M.bind (M.opt (bitI op k a b)) fun r => M.ret (.int k r)
  | _ => M.bind (M.need (eqIK k k')) fun _ => M.bind (M.opt (cmpI op a b)) fun r => M.ret (.bool r)
def binFlt (op : BinOp) (k : FloatKind) (a : Nat) (k' : FloatKind) (b : Nat) : M Value :=
  M.bind (M.need (eqFK k k')) fun _ => M.bind (M.opt (ordF op k a b)) fun r => M.ret (.bool r)
def binStr (op : BinOp) (a b : ByteArray) : M Value :=
  match op with
  | .add => M.bind (M.need (Nat.ble (a.size + b.size) 4611686018427387904)) fun _ => M.ret (.string (a ++ b))
  | .eql => M.ret (.bool (eqB a b))
  | .neq => M.ret (.bool (!eqB a b))
  | .lss => M.ret (.bool (ltB a b))
  | .leq => M.ret (.bool (ltB a b || eqB a b))
  | .gtr => M.ret (.bool (!(ltB a b || eqB a b)))
  | .geq => M.ret (.bool (!ltB a b))
  | _ => M.fail
def bin (op : BinOp) (x y : Value) : M Value :=
  match x, y with
  | .int k a, .int k' b => binInt op k a k' b
  | .float k a, .float k' b => binFlt op k a k' b
  | .string a, .string b => binStr op a b
  | _, _ => M.fail

/-- Equality of the cells of two values of one type without references: as one Bool. -/
def eqV : Value → Value → Option Bool
  | .int k a, .int k' b => bif eqIK k k' then some (a == b) else none
  | .bool a, .bool b => some (a == b)
  | .string a, .string b => some (eqB a b)
  | .float k a, .float k' b => bif eqFK k k' then some (k.format.order a b == some .eq) else none
  | _, _ => none
def eqCells {T : Nat → Type} : List (Cv T) → List (Cv T) → Option Bool
  | [], [] => some true
  | .sc a :: as, .sc b :: bs =>
    match eqV a b, eqCells as bs with
    | some x, some y => some (x && y)
    | _, _ => none
  | _, _ => none

/-! ### Choices among the cells of an array by an index that is a variable -/
def intOf : Value → Int
  | .int _ n => n
  | _ => 0
def boolOf : Value → Bool
  | .bool b => b
  | _ => false
def strOf : Value → ByteArray
  | .string s => s
  | _ => ⟨#[]⟩
def allInt {T : Nat → Type} (k : IntKind) : List (Cv T) → Option (List Int)
  | [] => some []
  | .sc (.int k' n) :: t => bif eqIK k k' then match allInt k t with | some l => some (n :: l) | none => none else none
  | _ => none
def allBool {T : Nat → Type} : List (Cv T) → Option (List Bool)
  | [] => some []
  | .sc (.bool n) :: t => match allBool t with | some l => some (n :: l) | none => none
  | _ => none
def allStr {T : Nat → Type} : List (Cv T) → Option (List ByteArray)
  | [] => some []
  | .sc (.string n) :: t => match allStr t with | some l => some (n :: l) | none => none
  | _ => none
def selCv {T : Nat → Type} (l : List (Cv T)) (i : Nat) : Option (Cv T) :=
  match l with
  | .sc (.int k _) :: _ => match allInt k l with | some ns => some (.sc (.int k (ns.getD i 0))) | none => none
  | .sc (.bool _) :: _ => match allBool l with | some ns => some (.sc (.bool (ns.getD i false))) | none => none
  | .sc (.string _) :: _ => match allStr l with | some ns => some (.sc (.string (ns.getD i ⟨#[]⟩))) | none => none
  | _ => l[i]?
def iteCv {T : Nat → Type} (b : Bool) (c d : Cv T) : Option (Cv T) :=
  match c, d with
  | .sc (.int k x), .sc (.int k' y) => bif eqIK k k' then some (.sc (.int k (bif b then x else y))) else none
  | .sc (.bool x), .sc (.bool y) => some (.sc (.bool (bif b then x else y)))
  | .sc (.string x), .sc (.string y) => some (.sc (.string (bif b then x else y)))
  | _, _ => bif b then some c else some d

/-! ### Memory -/
def takeN {α : Type} : Nat → List α → Option (List α)
  | 0, _ => some []
  | _ + 1, [] => none
  | n + 1, x :: t => match takeN n t with | some l => some (x :: l) | none => none
def dropN {α : Type} : Nat → List α → Option (List α)
  | 0, l => some l
  | _ + 1, [] => none
  | n + 1, _ :: t => dropN n t
/-- n cells from off on. -/
def part {α : Type} (cs : List α) (off n : Nat) : Option (List α) := match dropN off cs with | some l => takeN n l | none => none
/-- new cells from off on. -/
def splice {α : Type} : List α → Nat → List α → Option (List α)
  | cs, 0, [] => some cs
  | [], 0, _ :: _ => none
  | _ :: t, 0, x :: new => match splice t 0 new with | some l => some (x :: l) | none => none
  | [], _ + 1, _ => none
  | c :: t, n + 1, new => match splice t n new with | some l => some (c :: l) | none => none

def mapO {α β : Type} (f : α → Option β) : List α → Option (List β)
  | [] => some []
  | a :: t => match f a, mapO f t with | some b, some l => some (b :: l) | _, _ => none
def upTo : Nat → List Nat
  | 0 => []
  | n + 1 => upTo n ++ [n]

/-- The cells of a variable of n cells behind a pointer. -/
def look (h : Nat → Option (Blk G.T)) (n : Nat) : Cv G.T → Option (List (Cv G.T))
  | .ptr b off => match h b with
    | some (.cells cs) => part cs off n
    | _ => none
  | .pd b off s len i => match h b with
    | some (.cells cs) => mapO (fun j => match mapO (fun q => cs[off + q * s + j]?) (upTo len) with | some l => selCv l i | none => none) (upTo n)
    | _ => none
  | .pr b t i off => match h b with
    | some (.row t' l) => bif Nat.beq t t' then part (G.enc t' (l.getD i (G.dfl t'))) off n else none
    | _ => none
  | .rp t x off => part (G.enc t x) off n
  | _ => none

/-- One element of an array changed, at an index that is a variable. -/
def pokeAt {T : Nat → Type} (cs : List (Cv T)) (off s i : Nat) (new : List (Cv T)) : List Nat → Option (List (Cv T))
  | [] => some cs
  | q :: qs => match pokeAt cs off s i new qs with
    | some cs' => match part cs' (off + q * s) new.length with
      | some old => match mapO (fun p => iteCv (Nat.beq i q) p.1 p.2) (new.zip old) with
        | some l => splice cs' (off + q * s) l
        | none => none
      | none => none
    | none => none

/-- The block behind a store. -/
def poke (h : Nat → Option (Blk G.T)) (new : List (Cv G.T)) : Cv G.T → Option (Nat × Blk G.T)
  | .ptr b off => match h b with
    | some (.cells cs) => match splice cs off new with | some cs' => some (b, .cells cs') | none => none
    | _ => none
  | .pd b off s len i => match h b with
    | some (.cells cs) => match pokeAt cs off s i new (upTo len) with | some cs' => some (b, .cells cs') | none => none
    | _ => none
  | .pr b t i off => match h b with
    | some (.row t' l) => bif Nat.beq t t' then
        match splice (G.enc t' (l.getD i (G.dfl t'))) off new with
        | some cs' => match G.dec t' cs' with | some x => some (b, .row t' (l.set i x)) | none => none
        | none => none
      else none
    | _ => none
  | _ => none

/-- A pointer that goes to a part. -/
def shiftP {T : Nat → Type} (d : Nat) : Cv T → Option (Cv T)
  | .ptr b off => some (.ptr b (off + d))
  | .pd b off s len i => some (.pd b (off + d) s len i)
  | .pr b t i off => some (.pr b t i (off + d))
  | .rp t x off => some (.rp t x (off + d))
  | _ => none
def isP {T : Nat → Type} : Cv T → Bool
  | .ptr .. | .pd .. | .pr .. | .rp .. | .clo .. => true
  | _ => false

def pack (G : Sig) (t : Nat) (cs : List (Cv G.T)) : Option (Pv G.T) :=
  bif (G.ty t).isAgg then some (.agg cs) else match cs with | [c] => some (.one c) | _ => none

end Go.Ab
