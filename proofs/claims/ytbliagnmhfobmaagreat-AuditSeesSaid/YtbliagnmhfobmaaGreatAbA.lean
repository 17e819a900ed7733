/- The abstract evaluator: values, maps, the monad, and what each operation does. -/
import Derived.WalkKit
namespace Go.Ab
def get {α:Type}:List (Nat×α)→Nat→Option α
 | [],_=>none
 | (k,v) :: t,n=>bif Nat.beq k n then some v else get t n
def del {α:Type}:List (Nat×α)→Nat→List (Nat×α)
 | [],_=>[]
 | (k,v) :: t,n=>bif Nat.beq k n then del t n else (k,v) :: del t n
def put {α:Type} (l:List (Nat×α)) (n:Nat) (x:α):List (Nat×α):=(n,x) :: del l n
def has:List Nat→Nat→Bool
 | [],_=>false
 | k :: t,n=>bif Nat.beq k n then true else has t n
def M (α:Type):Type 1:=∀ R:Type,(α→Option R)→Option R
namespace M
def ret {α:Type} (a:α):M α:=fun _ k=>k a
def bind {α β:Type} (m:M α) (f:α→M β):M β:=fun R k=>m R fun a=>f a R k
def fail {α:Type}:M α:=fun _ _=>none
def split (b:Bool):M Bool:=fun _ k=>bif b then k true else k false
def need (b:Bool):M Unit:=fun _ k=>bif b then k () else none
def opt {α:Type} (o:Option α):M α:=fun _ k=>match o with | some a=>k a | none=>none
def val {α:Type} (m:M α):Option α:=m α some
def pick {α:Type} (k:Nat→M α) (i:Nat):Nat→Nat→M α
 | _,0=>M.fail
 | q,n + 1=>M.bind (M.split (Nat.beq i q)) fun b=>match b with
  | true=>k q
  | false=>pick k i (q + 1) n
instance:Monad M:={ pure:=ret,bind:=bind }
end M
inductive Cv (T:Nat→Type) where
 | sc (v:Value)
 | ptr (n off:Nat)
 | pd (n off s len i:Nat)
 | pr (n t i off:Nat)
 | own (n:Nat)
 | ro (t:Nat) (l:List (T t))
 | rp (t:Nat) (x:T t) (off:Nat)
 | clo (f:Nat) (fst caps:List (Nat×Nat))
 | np (n t:Nat)
 | sa (n off len:Nat)
inductive Pv (T:Nat→Type) where
 | one (c:Cv T)
 | agg (cs:List (Cv T))
inductive Sv (T:Nat→Type) where
 | p (x:Pv T)
 | tup (xs:List (Pv T))
inductive Blk (T:Nat→Type) where
 | cells (cs:List (Cv T))
 | row (t:Nat) (l:List (T t))
inductive Ty where
 | no | bool | int (k:IntKind) | flt (k:FloatKind) | str | sl (e:Nat) | pt (e:Nat) | fn
 | st (fs:List (Nat×Nat)) | arr (n e:Nat)
def Ty.isAgg:Ty→Bool
 | .st _ | .arr _ _=>true
 | _=>false
structure Sig where
 T:Nat→Type
 ty:Nat→Ty
 sz:Nat→Nat
 zero:Nat→List Value
 enc:(t:Nat)→T t→List (Cv T)
 dec:(t:Nat)→List (Cv T)→Option (T t)
 dfl:(t:Nat)→T t
 flat:Nat→Bool
 gl:Nat→Option ((t:Nat)×T t):=fun _=>none
 ext:Nat→Nat:=fun _=>0
variable {G:Sig}
def Pv.cells {T:Nat→Type}:Pv T→List (Cv T)
 | .one c=>[c]
 | .agg cs=>cs
def cmpI (op:BinOp) (x y:Int):Option Bool:=
 match op with
 | .eql=>some (x==y)
 | .neq=>some (x != y)
 | .lss=>some (decide (x < y))
 | .leq=>some (decide (x≤y))
 | .gtr=>some (decide (x > y))
 | .geq=>some (decide (x ≥ y))
 | _=>none
def stk (x y:Int) (r:Nat):Int:=match x,y with
 | .ofNat _,.ofNat _=>(r:Int)
 | .ofNat _,.negSucc _=>(r:Int)
 | .negSucc _,.ofNat _=>(r:Int)
 | .negSucc _,.negSucc _=>(r:Int)
theorem noi' (x y:Int) (r:Nat):stk x y r=(r:Int):=by cases x <;> cases y <;> rfl
def bitI (op:BinOp) (k:IntKind) (x y:Int):Option Int:=
 match op with
 | .and=>some (k.wrap (stk x y (BitVec.ofInt k.bits x &&& BitVec.ofInt k.bits y).toNat))
 | .or=>some (k.wrap (stk x y (BitVec.ofInt k.bits x ||| BitVec.ofInt k.bits y).toNat))
 | .xor=>some (k.wrap (stk x y (BitVec.ofInt k.bits x ^^^ BitVec.ofInt k.bits y).toNat))
 | .andNot=>some (k.wrap (stk x y (BitVec.ofInt k.bits x &&& ~~~BitVec.ofInt k.bits y).toNat))
 | _=>none
def eqB (x y:ByteArray):Bool:=x.toList==y.toList
def ltB (x y:ByteArray):Bool:=Op.bytesLess x.toList y.toList
def ordF (op:BinOp) (k:FloatKind) (x y:Nat):Option Bool:=
 match op with
 | .eql=>some (k.format.order x y==some .eq)
 | .neq=>some (k.format.order x y != some .eq)
 | .lss=>some (k.format.order x y==some .lt)
 | .leq=>some (k.format.order x y==some .lt||k.format.order x y==some .eq)
 | .gtr=>some (k.format.order x y==some .gt)
 | .geq=>some (k.format.order x y==some .gt||k.format.order x y==some .eq)
 | _=>none
def arG (op:BinOp) (k:FloatKind) (x y:Nat):Option Nat:=
 match op with
 | .add=>k.format.add x y
 | .sub=>k.format.sub x y
 | .mul=>k.format.mul x y
 | .quo=>k.format.div x y
 | _=>none
def arF (op:BinOp) (k:FloatKind) (x y:Nat):Option Nat:=match x,y with
 | 0,0=>arG op k 0 0
 | 0,y + 1=>arG op k 0 (y + 1)
 | x + 1,0=>arG op k (x + 1) 0
 | x + 1,y + 1=>arG op k (x + 1) (y + 1)
theorem nbgo' (op:BinOp) (k:FloatKind) (x y:Nat):arF op k x y=arG op k x y:=by cases x <;> cases y <;> rfl
def nearF (k:FloatKind) (n:Int):Nat:=match n with
 | .ofNat _=>k.nearest n
 | .negSucc _=>k.nearest n
theorem nbec' (k:FloatKind) (n:Int):nearF k n=k.nearest n:=by cases n <;> rfl
def shI (op:BinOp) (k:IntKind) (x y:Int):Option Int:=
 match op with
 | .shl=>some (k.wrap (x * 2 ^ min y.toNat k.bits))
 | .shr=>some (x.fdiv (2 ^ min y.toNat k.bits))
 | _=>none
def eqIK:IntKind→IntKind→Bool
 | .i8,.i8 | .i16,.i16 | .i32,.i32 | .i64,.i64 | .u8,.u8 | .u16,.u16 | .u32,.u32 | .u64,.u64=>true
 | _,_=>false
def eqFK:FloatKind→FloatKind→Bool
 | .f32,.f32 | .f64,.f64=>true
 | _,_=>false
def nbj' (s:ByteArray) (i:Nat):Int:=((s.data.getD i 0).toNat:Int)
def nn8' (op:BinOp) (k:IntKind) (a:Int) (k':IntKind) (b:Int):M Value:=
 match op with
 | .shl | .shr=>M.bind (M.need (decide (0≤b))) fun _=>M.bind (M.opt (shI op k a b)) fun r=>M.ret (.int k r)
 | .add=>M.bind (M.need (eqIK k k')) fun _=>M.ret (.int k (k.wrap (a + b)))
 | .sub=>M.bind (M.need (eqIK k k')) fun _=>M.ret (.int k (k.wrap (a - b)))
 | .mul=>M.bind (M.need (eqIK k k')) fun _=>M.ret (.int k (k.wrap (a * b)))
 | .quo=>M.bind (M.need (eqIK k k')) fun _=>M.bind (M.need (b != 0)) fun _=>M.ret (.int k (k.wrap (a.tdiv b)))
 | .rem=>M.bind (M.need (eqIK k k')) fun _=>M.bind (M.need (b != 0)) fun _=>M.ret (.int k (a.tmod b))
 | .and | .or | .xor | .andNot=>M.bind (M.need (eqIK k k')) fun _=>M.bind (M.opt (bitI op k a b)) fun r=>M.ret (.int k r)
 | _=>M.bind (M.need (eqIK k k')) fun _=>M.bind (M.opt (cmpI op a b)) fun r=>M.ret (.bool r)
def nyw' (op:BinOp) (k:FloatKind) (a:Nat) (k':FloatKind) (b:Nat):M Value:=
 match op with
 | .add | .sub | .mul | .quo=>M.bind (M.need (eqFK k k')) fun _=>M.bind (M.opt (arF op k a b)) fun r=>M.ret (.float k r)
 | _=>M.bind (M.need (eqFK k k')) fun _=>M.bind (M.opt (ordF op k a b)) fun r=>M.ret (.bool r)
def nyn' (op:BinOp) (a b:ByteArray):M Value:=
 match op with
 | .add=>M.bind (M.need (Nat.ble (a.size + b.size) 4611686018427387904)) fun _=>M.ret (.string (a++b))
 | .eql=>M.ret (.bool (eqB a b))
 | .neq=>M.ret (.bool (!eqB a b))
 | .lss=>M.ret (.bool (ltB a b))
 | .leq=>M.ret (.bool (ltB a b||eqB a b))
 | .gtr=>M.ret (.bool (!(ltB a b||eqB a b)))
 | .geq=>M.ret (.bool (!ltB a b))
 | _=>M.fail
def bin (op:BinOp) (x y:Value):M Value:=
 match x,y with
 | .int k a,.int k' b=>nn8' op k a k' b
 | .float k a,.float k' b=>nyw' op k a k' b
 | .string a,.string b=>nyn' op a b
 | _,_=>M.fail
def eqV:Value→Value→Option Bool
 | .int k a,.int k' b=>bif eqIK k k' then some (a==b) else none
 | .bool a,.bool b=>some (a==b)
 | .string a,.string b=>some (eqB a b)
 | .float k a,.float k' b=>bif eqFK k k' then some (k.format.order a b==some .eq) else none
 | _,_=>none
def nd2' {T:Nat→Type}:List (Cv T)→List (Cv T)→Option Bool
 | [],[]=>some true
 | .sc a :: as,.sc b :: bs=>
  match eqV a b,nd2' as bs with
  | some x,some y=>some (x&&y)
  | _,_=>none
 | _,_=>none
def nql' {T:Nat→Type} (k:IntKind):List (Cv T)→Option (List Int)
 | []=>some []
 | .sc (.int k' n) :: t=>bif eqIK k k' then match nql' k t with | some l=>some (n :: l) | none=>none else none
 | _=>none
def nmx' {T:Nat→Type}:List (Cv T)→Option (List Bool)
 | []=>some []
 | .sc (.bool n) :: t=>match nmx' t with | some l=>some (n :: l) | none=>none
 | _=>none
def nqk' {T:Nat→Type}:List (Cv T)→Option (List ByteArray)
 | []=>some []
 | .sc (.string n) :: t=>match nqk' t with | some l=>some (n :: l) | none=>none
 | _=>none
def selCv {T:Nat→Type} (l:List (Cv T)) (i:Nat):Option (Cv T):=
 match l with
 | .sc (.int k _) :: _=>match nql' k l with | some ns=>some (.sc (.int k (ns.getD i 0))) | none=>none
 | .sc (.bool _) :: _=>match nmx' l with | some ns=>some (.sc (.bool (ns.getD i false))) | none=>none
 | .sc (.string _) :: _=>match nqk' l with | some ns=>some (.sc (.string (ns.getD i ⟨#[]⟩))) | none=>none
 | _=>l[i]?
def iteCv {T:Nat→Type} (b:Bool) (c d:Cv T):Option (Cv T):=
 match c,d with
 | .sc (.int k x),.sc (.int k' y)=>bif eqIK k k' then some (.sc (.int k (bif b then x else y))) else none
 | .sc (.bool x),.sc (.bool y)=>some (.sc (.bool (bif b then x else y)))
 | .sc (.string x),.sc (.string y)=>some (.sc (.string (bif b then x else y)))
 | _,_=>bif b then some c else some d
def takeN {α:Type}:Nat→List α→Option (List α)
 | 0,_=>some []
 | _ + 1,[]=>none
 | n + 1,x :: t=>match takeN n t with | some l=>some (x :: l) | none=>none
def dropN {α:Type}:Nat→List α→Option (List α)
 | 0,l=>some l
 | _ + 1,[]=>none
 | n + 1,_ :: t=>dropN n t
def part {α:Type} (cs:List α) (off n:Nat):Option (List α):=match dropN off cs with | some l=>takeN n l | none=>none
def nf2' {α:Type}:List α→Nat→List α→Option (List α)
 | cs,0,[]=>some cs
 | [],0,_ :: _=>none
 | _ :: t,0,x :: new=>match nf2' t 0 new with | some l=>some (x :: l) | none=>none
 | [],_ + 1,_=>none
 | c :: t,n + 1,new=>match nf2' t n new with | some l=>some (c :: l) | none=>none
def mapO {α β:Type} (f:α→Option β):List α→Option (List β)
 | []=>some []
 | a :: t=>match f a,mapO f t with | some b,some l=>some (b :: l) | _,_=>none
def upTo:Nat→List Nat
 | 0=>[]
 | n + 1=>upTo n++[n]
def look (h:Nat→Option (Blk G.T)) (n:Nat):Cv G.T→Option (List (Cv G.T))
 | .ptr b off=>match h b with
  | some (.cells cs)=>part cs off n
  | _=>none
 | .pd b off s len i=>match h b with
  | some (.cells cs)=>mapO (fun j=>match mapO (fun q=>cs[off + q * s + j]?) (upTo len) with | some l=>selCv l i | none=>none) (upTo n)
  | _=>none
 | .pr b t i off=>match h b with
  | some (.row t' l)=>bif Nat.beq t t' then part (G.enc t' (l.getD i (G.dfl t'))) off n else none
  | _=>none
 | .rp t x off=>part (G.enc t x) off n
 | _=>none
def nt2' {T:Nat→Type} (cs:List (Cv T)) (off s i:Nat) (new:List (Cv T)):List Nat→Option (List (Cv T))
 | []=>some cs
 | q :: qs=>match nt2' cs off s i new qs with
  | some cs'=>match part cs' (off + q * s) new.length with
   | some old=>match mapO (fun p=>iteCv (Nat.beq i q) p.1 p.2) (new.zip old) with
    | some l=>nf2' cs' (off + q * s) l
    | none=>none
   | none=>none
  | none=>none
def notNp {T:Nat→Type}:Cv T→Bool
 | .np _ _=>false
 | _=>true
def poke (h:Nat→Option (Blk G.T)) (new:List (Cv G.T)):Cv G.T→Option (Nat×Blk G.T)
 | .ptr b off=>match h b with
  | some (.cells cs)=>match nf2' cs off new with | some cs'=>bif cs'.all notNp then some (b,.cells cs') else none | none=>none
  | _=>none
 | .pd b off s len i=>match h b with
  | some (.cells cs)=>match nt2' cs off s i new (upTo len) with | some cs'=>bif cs'.all notNp then some (b,.cells cs') else none | none=>none
  | _=>none
 | .pr b t i off=>match h b with
  | some (.row t' l)=>bif Nat.beq t t' then
    match nf2' (G.enc t' (l.getD i (G.dfl t'))) off new with
    | some cs'=>match G.dec t' cs' with | some x=>some (b,.row t' (l.set i x)) | none=>none
    | none=>none
   else none
  | _=>none
 | _=>none
def nhl' {T:Nat→Type} (d:Nat):Cv T→Option (Cv T)
 | .ptr b off=>some (.ptr b (off + d))
 | .pd b off s len i=>some (.pd b (off + d) s len i)
 | .pr b t i off=>some (.pr b t i (off + d))
 | .rp t x off=>some (.rp t x (off + d))
 | _=>none
def isP {T:Nat→Type}:Cv T→Bool
 | .ptr .. | .pd .. | .pr .. | .rp .. | .clo ..=>true
 | _=>false
def pack (G:Sig) (t:Nat) (cs:List (Cv G.T)):Option (Pv G.T):=
 bif (G.ty t).isAgg then some (.agg cs) else match cs with | [c]=>some (.one c) | _=>none
end Go.Ab
namespace Go.Ab
structure Out (G:Sig) where
 v:Option (Sv G.T)
 d:List (Nat×Option (Blk G.T))
 nw:List Nat
 rd:List Nat
structure St (G:Sig) where
 tm:List (Nat×Sv G.T)
 hp:List (Nat×Blk G.T)
 us:List Nat
def CallF (G:Sig):Type 1:=Nat→List (Pv G.T)→(Nat→Option (Blk G.T))→Nat→M (Out G)
variable {G:Sig}
def outP (x:Pv G.T):Out G:=⟨some (.p x),[],[],[]⟩
def outV (v:Value):Out G:=outP (.one (.sc v))
def Cv.rds {T:Nat→Type}:Cv T→List Nat
 | .ptr n _ | .pd n _ _ _ _ | .pr n _ _ _ | .own n=>[n]
 | .sa n _ _=>[n]
 | _=>[]
def castL (G:Sig) (t t':Nat) (l:List (G.T t)):Option (List (G.T t')):=
 if h:t=t' then some (h ▸ l) else none
def elems (h:Nat→Option (Blk G.T)) (e:Nat):Cv G.T→Option (List (G.T e))
 | .sc (.slice none 0 0)=>some []
 | .own n=>match h n with | some (.row t l)=>castL G t e l | _=>none
 | .ro t l=>castL G t e l
 | _=>none
def ptrOf {T:Nat→Type}:Pv T→Option (Nat×Nat)
 | .one (.ptr n off)=>some (n,off)
 | _=>none
def ptrP {T:Nat→Type} (a:Nat×Nat):Pv T:=.one (.ptr a.1 a.2)
def n4e':Nat:=2147483648
section
variable (cf:CallF G) (ev:Operand→Option (Sv G.T)) (h:Nat→Option (Blk G.T)) (nm:Nat)
def evP (x:Operand):M (Pv G.T):=fun _ k=>match ev x with | some (.p y)=>k y | _=>none
def evC (x:Operand):M (Cv G.T):=fun _ k=>match ev x with | some (.p (.one c))=>k c | _=>none
def evI (x:Operand):M (IntKind×Int):=fun _ k=>match ev x with | some (.p (.one (.sc (.int d n))))=>k (d,n) | _=>none
def evB (x:Operand):M Bool:=fun _ k=>match ev x with | some (.p (.one (.sc (.bool b))))=>k b | _=>none
def evPs:List Operand→M (List (Pv G.T))
 | []=>M.ret []
 | x :: t=>M.bind (evP ev x) fun y=>M.bind (evPs t) fun l=>M.ret (y :: l)
def ndi' (d:Nat) (m:Nat):Option Operand→M Nat
 | none=>M.ret d
 | some x=>M.bind (evI ev x) fun i=>M.bind (M.need (decide (0≤i.2)&&decide (i.2≤(m:Int)))) fun _=>M.ret i.2.toNat
def fillO (place:Nat→Option (Nat×Nat)) (cells:List (Cv G.T)):List (Nat×Pv G.T)→Option (List (Cv G.T))
 | []=>some cells
 | (i,v) :: rest=>match place i with
  | some (off,size)=>bif Nat.beq v.cells.length size then
    match nf2' cells off v.cells with | some cs=>fillO place cs rest | none=>none
   else none
  | none=>none
def ne7':List (Nat×Operand)→M (List (Nat×Pv G.T))
 | []=>M.ret []
 | (i,x) :: t=>M.bind (evP ev x) fun y=>M.bind (ne7' t) fun l=>M.ret ((i,y) :: l)
def rows (G:Sig) (e:Nat):Nat→List (Cv G.T)→Option (List (G.T e))
 | 0,[]=>some []
 | 0,_ :: _=>none
 | n + 1,cs=>match takeN (G.sz e) cs,dropN (G.sz e) cs with
  | some a,some b=>match G.dec e a,rows G e n b with
   | some x,some l=>some (x :: l)
   | _,_=>none
  | _,_=>none
def nn5':Value→Bool
 | .slice none 0 0=>true
 | _=>false
def goneD:List Nat→List (Nat×Option (Blk G.T))
 | []=>[]
 | n :: t=>(n,none) :: goneD t
def frzC (h:Nat→Option (Blk G.T)):Cv G.T→Cv G.T→Option (Cv G.T×List Nat)
 | .ro e _,.own n=>match h n with
  | some (.row t l)=>match castL G t e l with | some l'=>some (.ro e l',[n]) | none=>none
  | _=>none
 | .ro e _,.sc v=>some (bif nn5' v then .ro e [] else .sc v,[])
 | _,c=>some (c,[])
def frzL (h:Nat→Option (Blk G.T)):List (Cv G.T)→List (Cv G.T)→Option (List (Cv G.T)×List Nat)
 | [],[]=>some ([],[])
 | w :: ws,c :: cs=>match frzC h w c,frzL h ws cs with | some a,some b=>some (a.1 :: b.1,a.2++b.2) | _,_=>none
 | _,_=>none
def wantN (G:Sig) (e:Nat):Nat→List (Cv G.T)
 | 0=>[]
 | n + 1=>G.enc e (G.dfl e)++wantN G e n
def zeros (G:Sig) (t:Nat):List (Cv G.T):=(G.zero t).map .sc
def nml' (G:Sig) (t:Nat):Nat→List (Cv G.T)
 | 0=>[]
 | n + 1=>zeros G t++nml' G t n
def lenS (e:Nat) (c:Cv G.T):M (Out G):=match c with
 | .sa _ _ n=>M.ret (outV (.int .i64 (n:Int)))
 | c=>M.bind (M.opt (elems h e c)) fun l=>M.ret ⟨some (.p (.one (.sc (.int .i64 (l.length:Int))))),[],[],c.rds⟩
def bLen (t:Nat) (x:Operand):M (Out G):=match G.ty t with
 | .str=>M.bind (evC ev x) fun c=>match c with
  | .sc (.string s)=>M.ret (outV (.int .i64 (s.size:Int)))
  | _=>M.fail
 | .arr n _=>M.ret (outV (.int .i64 (n:Int)))
 | .sl e=>M.bind (evC ev x) fun c=>lenS h e c
 | _=>M.fail
def copyA (G:Sig) (e:Nat) (l:List (G.T e)) (cs:List (Cv G.T)) (off len:Nat):Option (List (Cv G.T)):=
 match mapO (fun j=>match cs[off + j]?,G.enc e (l.getD j (G.dfl e)) with
   | some o,[c]=>iteCv (Nat.blt j l.length) c o
   | _,_=>none) (upTo len) with
 | some new=>nf2' cs off new
 | none=>none
def copyR {α:Type} (l l':List α):List α:=l'.take l.length++l.drop l'.length
def copyN (n m:Nat):Int:=bif Nat.ble n m then (n:Int) else (m:Int)
def copyC (_t e:Nat) (l':List (G.T e)) (c c':Cv G.T):M (Out G):=match c with
 | .own n=>match h n with
  | some (.row u l)=>M.bind (M.need (Nat.beq u e&&!has c'.rds n)) fun _=>M.bind (M.opt (castL G e u l')) fun l''=>
    M.ret ⟨some (.p (.one (.sc (.int .i64 (copyN l'.length l.length))))),[(n,some (.row u (copyR l l'')))],[],n :: c'.rds⟩
  | _=>M.fail
 | .sa n off len=>match h n with
  | some (.cells cs)=>M.bind (M.need (Nat.beq (G.sz e) 1&&!has c'.rds n)) fun _=>M.bind (M.opt (copyA G e l' cs off len)) fun cs'=>
    M.bind (M.need (cs'.all notNp)) fun _=>M.ret ⟨some (.p (.one (.sc (.int .i64 (copyN l'.length len))))),[(n,some (.cells cs'))],[],n :: c'.rds⟩
  | _=>M.fail
 | _=>M.fail
def bCopy (t t':Nat) (x y:Operand):M (Out G):=match G.ty t with
 | .sl e=>M.bind (M.need (Nat.beq t t')) fun _=>M.bind (evC ev x) fun c=>M.bind (evC ev y) fun c'=>M.bind (M.opt (elems h e c')) fun l'=>copyC h t e l' c c'
 | _=>M.fail
def bMin (x y:Operand):M (Out G):=M.bind (evI ev x) fun a=>M.bind (evI ev y) fun b=>
 M.bind (M.need (eqIK a.1 b.1)) fun _=>M.ret (outV (.int a.1 (bif decide (b.2 < a.2) then b.2 else a.2)))
def bMax (x y:Operand):M (Out G):=M.bind (evI ev x) fun a=>M.bind (evI ev y) fun b=>
 M.bind (M.need (eqIK a.1 b.1)) fun _=>M.ret (outV (.int a.1 (bif decide (a.2 < b.2) then b.2 else a.2)))
def bMin3 (x y z:Operand):M (Out G):=M.bind (evI ev x) fun a=>M.bind (evI ev y) fun b=>M.bind (evI ev z) fun c=>
 M.bind (M.need (eqIK a.1 b.1)) fun _=>M.bind (M.need (eqIK a.1 c.1)) fun _=>
 M.ret (outV (.int a.1 (bif decide (c.2 < (bif decide (b.2 < a.2) then b.2 else a.2)) then c.2 else (bif decide (b.2 < a.2) then b.2 else a.2))))
def bMax3 (x y z:Operand):M (Out G):=M.bind (evI ev x) fun a=>M.bind (evI ev y) fun b=>M.bind (evI ev z) fun c=>
 M.bind (M.need (eqIK a.1 b.1)) fun _=>M.bind (M.need (eqIK a.1 c.1)) fun _=>
 M.ret (outV (.int a.1 (bif decide ((bif decide (a.2 < b.2) then b.2 else a.2) < c.2) then c.2 else (bif decide (a.2 < b.2) then b.2 else a.2))))
def appC (e:Nat) (l l':List (G.T e)) (c c':Cv G.T):M (Out G):=match c with
 | .sc _=>M.ret ⟨some (.p (.one (.own nm))),[(nm,some (.row e (l++l')))],[nm],c'.rds⟩
 | .own n=>M.bind (M.need (!has c'.rds n)) fun _=>M.ret ⟨some (.p (.one (.own nm))),[(n,none),(nm,some (.row e (l++l')))],[nm],n :: c'.rds⟩
 | _=>M.fail
def nht' (t t':Nat) (x y:Operand):M (Out G):=match G.ty t with
 | .sl e=>M.bind (M.need (Nat.beq t t')) fun _=>M.bind (evC ev x) fun c=>M.bind (evC ev y) fun c'=>
   M.bind (M.opt (elems h e c)) fun l=>M.bind (M.opt (elems h e c')) fun l'=>
   M.bind (M.need (Nat.ble (l.length + l'.length) n4e')) fun _=>appC nm e l l' c c'
 | _=>M.fail
def nt' (b:Builtin) (tys:List Nat) (xs:List Operand):M (Out G):=
 match b,tys,xs with
 | .len,t :: _,[x]=>bLen ev h t x
 | .min,_,[x,y]=>bMin ev x y
 | .max,_,[x,y]=>bMax ev x y
 | .min,_,[x,y,z]=>bMin3 ev x y z
 | .max,_,[x,y,z]=>bMax3 ev x y z
 | .append,[t,t'],[x,y]=>nht' ev h nm t t' x y
 | .copy,[t,t'],[x,y]=>bCopy ev h t t' x y
 | _,_,_=>M.fail
def aMove (x:Operand):M (Out G):=fun _ k=>match ev x with | some s=>k ⟨some s,[],[],[]⟩ | none=>none
def aPick (c a b:Operand):M (Out G):=M.bind (evB ev c) fun c=>M.bind (M.split c) fun c=>aMove ev (bif c then a else b)
def selfP (G:Sig) (t:Nat):Bool:=match G.ty t with
 | .st ((_,u) :: _)=>match G.ty u with
  | .pt e=>Nat.beq e t
  | _=>false
 | _=>false
def n2v' {T:Nat→Type} (n t:Nat):List (Cv T)→List (Cv T)
 | .sc (.pointer none) :: r=>.np n t :: r
 | l=>l
def np0' (G:Sig) (n t:Nat):List (Cv G.T):=bif selfP G t then n2v' n t (zeros G t) else zeros G t
def nue' (t:Nat):M (Out G):=match G.ty t with
 | .no=>M.fail
 | _=>M.ret ⟨some (.p (.one (.ptr nm 0))),[(nm,some (.cells (np0' G nm t)))],[nm],[]⟩
def aBox (x:Operand):M (Out G):=M.bind (evP ev x) fun x=>M.bind (M.need (x.cells.all notNp)) fun _=>M.ret ⟨some (.p (.one (.ptr nm 0))),[(nm,some (.cells x.cells))],[nm],[]⟩
def nyf' (G:Sig) (fs:List (Nat×Nat)) (i:Nat):Option (Nat×Nat):=match fs[i]? with | some (o,u)=>some (o,G.sz u) | none=>none
def nbb3' (G:Sig) (e i:Nat):Option (Nat×Nat):=some (i * G.sz e,G.sz e)
def nn9' (t:Nat) (parts:List (Nat×Operand)):M (Out G):=match G.ty t with
 | .st fs=>M.bind (ne7' ev parts) fun ps=>M.bind (M.opt (fillO (nyf' G fs) (zeros G t) ps)) fun cs=>M.ret (outP (.agg cs))
 | .arr _ e=>M.bind (ne7' ev parts) fun ps=>M.bind (M.opt (fillO (nbb3' G e) (zeros G t) ps)) fun cs=>M.ret (outP (.agg cs))
 | _=>M.fail
def isFn:Ty→Bool
 | .fn=>true
 | _=>false
def nsl' (e len:Nat) (cs:List (Cv G.T)):M (Out G):=match isFn (G.ty e) with
 | true=>M.bind (M.need (cs.all notNp)) fun _=>M.ret ⟨some (.p (.one (.sa nm 0 len))),[(nm,some (.cells cs))],[nm],[]⟩
 | false=>M.bind (M.opt (frzL h (wantN G e len) cs)) fun q=>M.bind (M.opt (rows G e len q.1)) fun l=>
   M.ret ⟨some (.p (.one (.own nm))),goneD q.2++[(nm,some (.row e l))],[nm],q.2⟩
def nb2' (t len:Nat) (parts:List (Nat×Operand)):M (Out G):=match G.ty t with
 | .sl e=>M.bind (ne7' ev parts) fun ps=>M.bind (M.need (Nat.ble len 65536&&Nat.ble (len * G.sz e) 16777216)) fun _=>
   M.bind (M.opt (fillO (nbb3' G e) (nml' G e len) ps)) fun cs=>nsl' h nm e len cs
 | _=>M.fail
def aLoad (t:Nat) (a:Operand):M (Out G):=M.bind (evC ev a) fun c=>M.bind (M.opt (look h (G.sz t) c)) fun cs=>M.bind (M.opt (pack G t cs)) fun x=>M.ret ⟨some (.p x),[],[],c.rds⟩
def isNo:Ty→Bool
 | .no=>true
 | _=>false
def nok' (c:Cv G.T) (cs:List (Cv G.T)):M (Out G):=M.bind (M.opt (poke h cs c)) fun r=>M.ret ⟨none,[(r.1,some r.2)],[],c.rds⟩
def wantP (G:Sig) (t off n:Nat):List (Cv G.T):=match part (G.enc t (G.dfl t)) off n with
 | some l=>l
 | none=>[]
def ntx' (c:Cv G.T) (cs:List (Cv G.T)):M (Out G):=match c with
 | .pr b t i off=>M.bind (M.opt (frzL h (wantP G t off cs.length) cs)) fun q=>M.bind (M.need (!has q.2 b)) fun _=>
   M.bind (M.opt (poke h q.1 (.pr b t i off))) fun r=>M.ret ⟨none,goneD q.2++[(r.1,some r.2)],[],b :: q.2⟩
 | c=>nok' h c cs
def nig' (t:Nat) (a x:Operand):M (Out G):=M.bind (evC ev a) fun c=>M.bind (evP ev x) fun x=>M.bind (M.need (Nat.beq x.cells.length (G.sz t)&&!isNo (G.ty t))) fun _=>ntx' h c x.cells
def aNil (x:Operand):M (Out G):=M.bind (evC ev x) fun c=>M.bind (M.need (isP c)) fun _=>M.ret (outP (.one c))
def binS (y:Ty) (op:BinOp) (v u:Value):M (Out G):=match y,v,u with
 | .bool,.bool a,.bool b=>match op with
  | .eql=>M.ret (outV (.bool (a==b)))
  | .neq=>M.ret (outV (.bool (!(a==b))))
  | _=>M.fail
 | _,v,u=>M.bind (bin op v u) fun r=>M.ret (outV r)
def kindV:Value→Nat
 | .bool _=>1
 | .string _=>2
 | .int k _=>match k with
  | .i8=>3
  | .i16=>4
  | .i32=>5
  | .i64=>6
  | .u8=>7
  | .u16=>8
  | .u32=>9
  | .u64=>10
 | .float k _=>match k with
  | .f32=>11
  | .f64=>12
 | _=>0
def kindC {T:Nat→Type}:Cv T→Nat
 | .sc v=>kindV v
 | _=>0
def eqNs:List Nat→List Nat→Bool
 | [],[]=>true
 | a :: s,b :: t=>Nat.beq a b&&eqNs s t
 | _,_=>false
def mapK {α:Type} (f:α→Nat):List α→List Nat
 | []=>[]
 | a :: t=>f a :: mapK f t
def zk (G:Sig) (t:Nat):List Nat:=mapK kindV (G.zero t)
def ntb' (G:Sig) (r:Nat→Bool):List (Nat×Nat)→Nat→List Nat→Bool
 | [],_,ks=>eqNs ks []
 | p :: t,off,ks=>Nat.beq p.1 off&&r p.2&&match takeN (G.sz p.2) ks,dropN (G.sz p.2) ks with
  | some a,some b=>eqNs a (zk G p.2)&&ntb' G r t (off + G.sz p.2) b
  | _,_=>false
def nvk' (G:Sig) (e:Nat):Nat→List Nat→Bool
 | 0,ks=>eqNs ks []
 | n + 1,ks=>match takeN (G.sz e) ks,dropN (G.sz e) ks with
  | some a,some b=>eqNs a (zk G e)&&nvk' G e n b
  | _,_=>false
def eqTb (G:Sig):Nat→Nat→Bool
 | 0,_=>false
 | d + 1,t=>match G.ty t with
  | .bool=>eqNs (zk G t) [1]
  | .str=>eqNs (zk G t) [2]
  | .int k=>eqNs (zk G t) [kindV (.int k 0)]
  | .st fs=>ntb' G (eqTb G d) fs 0 (zk G t)
  | .arr n e=>eqTb G d e&&nvk' G e n (zk G t)
  | _=>false
def eqOn (G:Sig) (t:Nat) (cs ds:List (Cv G.T)):Bool:=eqTb G 20 t&&eqNs (mapK kindC cs) (zk G t)&&eqNs (mapK kindC ds) (zk G t)
def binP (op:BinOp) (t:Nat) (a b:Pv G.T):M (Out G):=match a,b with
 | .one (.sc v),.one (.sc u)=>binS (G.ty t) op v u
 | .agg cs,.agg ds=>M.bind (M.need ((G.ty t).isAgg&&eqOn G t cs ds)) fun _=>M.bind (M.opt (nd2' cs ds)) fun r=>match op with
  | .eql=>M.ret (outV (.bool r))
  | .neq=>M.ret (outV (.bool (!r)))
  | _=>M.fail
 | _,_=>M.fail
def aBin (op:BinOp) (t:Nat) (x y:Operand):M (Out G):=M.bind (evP ev x) fun a=>M.bind (evP ev y) fun b=>binP op t a b
def unP (op:UnOp) (c:Cv G.T):M (Out G):=match op,c with
 | .not,.sc (.bool b)=>M.ret (outV (.bool (!b)))
 | .neg,.sc (.int k n)=>M.ret (outV (.int k (k.wrap (0 - n))))
 | .xor,.sc (.int k n)=>M.bind (M.opt (bitI .xor k (if k.signed then -1 else k.max) n)) fun r=>M.ret (outV (.int k r))
 | _,_=>M.fail
def aUn (op:UnOp) (x:Operand):M (Out G):=M.bind (evC ev x) fun c=>unP op c
def convC (y:Ty) (c:Cv G.T):M (Out G):=match y,c with
 | .int k,.sc (.int _ n)=>M.ret (outV (.int k (k.wrap n)))
 | .str,.sc (.string s)=>M.ret (outV (.string s))
 | .flt k,.sc (.int _ n)=>M.ret (outV (.float k (nearF k n)))
 | _,_=>M.fail
def u8C {T:Nat→Type}:Cv T→Bool
 | .sc (.int .u8 _)=>true
 | _=>false
def byteC {T:Nat→Type}:List (Cv T)→UInt8
 | [.sc (.int _ n)]=>UInt8.ofNat n.toNat
 | _=>0
def nxf' (G:Sig) (e:Nat) (l:List (G.T e)):ByteArray:=⟨(l.map fun x=>byteC (G.enc e x)).toArray⟩
def oneT:List Bool→Bool
 | [true]=>true
 | _=>false
def isU8:Ty→Bool
 | .int .u8=>true
 | _=>false
def isStr:Ty→Bool
 | .str=>true
 | _=>false
def aConv (s t:Nat) (x:Operand):M (Out G):=M.bind (M.need (!isNo (G.ty s))) fun _=>M.bind (evC ev x) fun c=>match G.ty s with
 | .sl e=>bif isStr (G.ty t) then M.bind (M.need (isU8 (G.ty e)&&oneT ((G.enc e (G.dfl e)).map u8C))) fun _=>M.bind (M.opt (elems h e c)) fun l=>M.ret ⟨some (.p (.one (.sc (.string (nxf' G e l))))),[],[],c.rds⟩
  else convC (G.ty t) c
 | _=>convC (G.ty t) c
def aFunc (f:Nat) (a b:List Operand):M (Out G):=M.bind (evPs ev a) fun a=>M.bind (evPs ev b) fun b=>
 M.bind (M.opt (mapO ptrOf a)) fun a=>M.bind (M.opt (mapO ptrOf b)) fun b=>M.ret (outP (.one (.clo f a b)))
def nfp' (t:Nat) (n m:Operand):M (Out G):=match G.ty t with
 | .sl e=>M.bind (evI ev n) fun n=>M.bind (evI ev m) fun m=>
   M.bind (M.need (decide (0≤n.2)&&decide (n.2≤m.2)&&decide (m.2≤(n4e':Int)))) fun _=>
   M.bind (M.opt (G.dec e (zeros G e))) fun z=>
   M.ret ⟨some (.p (.one (.own nm))),[(nm,some (.row e (List.replicate n.2.toNat z)))],[nm],[]⟩
 | _=>M.fail
def nr8' (c:Cv G.T) (lo hi:Option Operand):M (Out G):=match c with
 | .sc (.string s)=>M.bind (ndi' ev s.size s.size hi) fun b=>M.bind (ndi' ev 0 b lo) fun a=>M.ret (outV (.string (s.extract a b)))
 | _=>M.fail
def nrz' (c:Cv G.T) (e':Nat) (lo hi:Option Operand):M (Out G):=match c with
 | .ro e l=>M.bind (M.need (Nat.beq e e')) fun _=>M.bind (ndi' ev l.length l.length hi) fun b=>M.bind (ndi' ev 0 b lo) fun a=>M.ret (outP (.one (.ro e ((l.take b).drop a))))
 | _=>M.fail
def n3f' (n:Nat) (c:Cv G.T) (lo hi:Option Operand):M (Out G):=match c,lo,hi with
 | .ptr b off,none,none=>M.ret (outP (.one (.sa b off n)))
 | _,_,_=>M.fail
def nog' (t:Nat) (x:Operand) (lo hi mx:Option Operand):M (Out G):=match mx with
 | some _=>M.fail
 | none=>match G.ty t with
  | .str=>M.bind (evC ev x) fun c=>nr8' ev c lo hi
  | .sl e=>M.bind (evC ev x) fun c=>nrz' ev c e lo hi
  | .arr n _=>M.bind (evC ev x) fun c=>n3f' n c lo hi
  | _=>M.fail
def nfm' (t:Nat) (x:Operand) (f:Nat):M (Out G):=match G.ty t with
 | .st fs=>M.bind (evC ev x) fun c=>M.bind (M.opt fs[f]?) fun o=>M.bind (M.opt (nhl' o.1 c)) fun c=>M.ret (outP (.one c))
 | _=>M.fail
def nxj' (fs:List (Nat×Nat)) (x:Pv G.T) (f:Nat):M (Out G):=match x with
 | .agg ds=>M.bind (M.opt fs[f]?) fun o=>M.bind (M.opt (part ds o.1 (G.sz o.2))) fun cs=>M.bind (M.opt (pack G o.2 cs)) fun x=>M.ret (outP x)
 | .one _=>M.fail
def noe' (t:Nat) (x:Operand) (f:Nat):M (Out G):=match G.ty t with
 | .st fs=>M.bind (evP ev x) fun x=>nxj' fs x f
 | _=>M.fail
def inB (i:Int) (n:Nat):Bool:=decide (0≤i)&&decide (i < (n:Int))
def ixA (n e:Nat) (c:Cv G.T) (i:Int):M (Out G):=match c with
 | .ptr b off=>M.bind (M.need (inB i n)) fun _=>M.ret (outP (.one (.pd b off (G.sz e) n i.toNat)))
 | .pr b t j off=>M.bind (M.need (inB i n)) fun _=>M.ret (outP (.one (.pr b t j (off + i.toNat * G.sz e))))
 | .rp t x off=>M.bind (M.need (inB i n)) fun _=>
   M.bind (M.opt (mapO (fun j=>match mapO (fun q=>(G.enc t x)[off + q * G.sz e + j]?) (upTo n) with | some l=>selCv l i.toNat | none=>none) (upTo (G.sz e)))) fun cs=>
   M.bind (M.opt (G.dec e cs)) fun y=>M.ret (outP (.one (.rp e y 0)))
 | _=>M.fail
def ixS (e':Nat) (c:Cv G.T) (i:Int):M (Out G):=match c with
 | .own b=>match h b with
  | some (.row e l)=>M.bind (M.need (Nat.beq e e')) fun _=>M.bind (M.need (inB i l.length)) fun _=>M.ret ⟨some (.p (.one (.pr b e i.toNat 0))),[],[],[b]⟩
  | _=>M.fail
 | .ro e l=>M.bind (M.need (Nat.beq e e')) fun _=>M.bind (M.need (inB i l.length)) fun _=>M.ret (outP (.one (.rp e (l.getD i.toNat (G.dfl e)) 0)))
 | .sa b off len=>M.bind (M.need (inB i len)) fun _=>M.pick (fun q=>M.ret (outP (.one (.ptr b (off + q * G.sz e'))))) i.toNat 0 len
 | _=>M.fail
def nct' (t:Nat) (x i:Operand):M (Out G):=match G.ty t with
 | .arr n e=>M.bind (evC ev x) fun c=>M.bind (evI ev i) fun i=>ixA n e c i.2
 | .sl e=>M.bind (evC ev x) fun c=>M.bind (evI ev i) fun i=>ixS h e c i.2
 | _=>M.fail
def ixV (s:Cv G.T) (i:Int):M (Out G):=match s with
 | .sc (.string s)=>M.bind (M.need (inB i s.size)) fun _=>M.ret (outV (.int .u8 (nbj' s i.toNat)))
 | _=>M.fail
def cloAt {T:Nat→Type}:List (Cv T)→Bool
 | .clo _ _ _ :: _=>true
 | _=>false
def ixFn (e:Nat) (ds:List (Cv G.T)) (q:Nat):M (Out G):=M.bind (M.opt (part ds (q * G.sz e) (G.sz e))) fun cs=>M.bind (M.opt (pack G e cs)) fun y=>M.ret (outP y)
def ixArr (n e:Nat) (x:Pv G.T) (i:Int):M (Out G):=match x with
 | .agg ds=>M.bind (M.need (inB i n)) fun _=>match cloAt ds with
  | true=>M.pick (ixFn e ds) i.toNat 0 n
  | false=>
   M.bind (M.opt (mapO (fun j=>match mapO (fun q=>ds[q * G.sz e + j]?) (upTo n) with | some l=>selCv l i.toNat | none=>none) (upTo (G.sz e)))) fun cs=>
   M.bind (M.opt (pack G e cs)) fun y=>M.ret (outP y)
 | .one _=>M.fail
def nn2' (t:Nat) (x i:Operand):M (Out G):=match G.ty t with
 | .arr n e=>M.bind (evP ev x) fun c=>M.bind (evI ev i) fun i=>ixArr n e c i.2
 | .str=>M.bind (evC ev x) fun c=>M.bind (evI ev i) fun i=>ixV c i.2
 | _=>M.fail
def nic' (x:Operand) (i:Nat):M (Out G):=fun _ k=>match ev x with
 | some (.tup xs)=>match xs[i]? with | some y=>k (outP y) | none=>none
 | _=>none
def extB:List (Pv G.T)→M (Out G)
 | [.one (.sc (.float .f64 n))]=>M.ret (outV (.int .u64 (n:Int)))
 | _=>M.fail
def extF:List (Pv G.T)→M (Out G)
 | [.one (.sc (.int .u64 n))]=>M.ret (outV (.float .f64 n.toNat))
 | _=>M.fail
def callC (c:Cv G.T) (a:List (Pv G.T)):M (Out G):=match c with
 | .clo g fst caps=>match G.ext g with
  | 0=>cf g (fst.map ptrP++(a++caps.map ptrP)) h nm
  | 1=>extB (fst.map ptrP++(a++caps.map ptrP))
  | _=>extF (fst.map ptrP++(a++caps.map ptrP))
 | _=>M.fail
def aCall (f:Operand) (xs:List Operand):M (Out G):=M.bind (evC ev f) fun c=>M.bind (evPs ev xs) fun a=>callC cf h nm c a
def act:Op→M (Out G)
 | .move x | .assign x=>aMove ev x
 | .pick c a b=>aPick ev c a b
 | .alloc t=>nue' nm t
 | .box _ x=>aBox ev nm x
 | .build t parts=>nn9' ev t parts.toList
 | .buildSlice t len parts=>nb2' ev h nm t len parts.toList
 | .load t a=>aLoad ev h t a
 | .store t a x=>nig' ev h t a x
 | .nilCheck x=>aNil ev x
 | .binOp op t x y _=>aBin ev op t x y
 | .unOp op _ x=>aUn ev op x
 | .convert s t x=>aConv ev h s t x
 | .makeFunc (.func f) a b=>aFunc ev f a.toList b.toList
 | .makeSlice t n m=>nfp' ev nm t n m
 | .slice t x lo hi mx=>nog' ev t x lo hi mx
 | .fieldAddr t x f=>nfm' ev t x f
 | .field t x f=>noe' ev t x f
 | .indexAddr t x i=>nct' ev h t x i
 | .index t x i=>nn2' ev t x i
 | .extract x i=>nic' ev x i
 | .call ⟨.builtin b,xs,tys⟩=>nt' ev h nm b tys.toList xs.toList
 | .call ⟨.value f,xs,_⟩=>aCall cf ev h nm f xs.toList
 | _=>M.fail
end
def isSc:Value→Bool
 | .bool _ | .int _ _ | .float _ _ | .string _ | .nilFunc | .nilIface | .pointer none | .slice none 0 0 | .map none=>true
 | _=>false
def evalO (tm:List (Nat×Sv G.T)):Operand→Option (Sv G.T)
 | .tmp t=>get tm t
 | .const (.agg cs)=>bif cs.toList.all isSc then some (.p (.agg (cs.toList.map .sc))) else none
 | .const v=>bif isSc v then some (.p (.one (.sc v))) else none
 | .func f=>some (.p (.one (.clo f [] [])))
 | .global g=>match G.gl g with | some p=>some (.p (.one (.rp p.1 p.2 0))) | none=>none
def putD (hp:List (Nat×Blk G.T)):List (Nat×Option (Blk G.T))→List (Nat×Blk G.T)
 | []=>hp
 | (n,none) :: t=>putD (del hp n) t
 | (n,some b) :: t=>putD (put hp n b) t
def fresh (us:List Nat):List Nat→Bool
 | []=>true
 | n :: t=>!has us n&&fresh us t
def St.next (st:St G) (dst:Option Nat) (o:Out G):St G:=
 {tm:=match dst with
   | some d=>match o.v with | some v=>put st.tm d v | none=>del st.tm d
   | none=>st.tm
  hp:=putD st.hp o.d
  us:=o.nw++st.us }
def St.drop (st:St G) (dst:Option Nat):St G:=
 match dst with
 | some d=>{ st with tm:=put st.tm d (.tup []) }
 | none=>st
def dstOf (base:Nat):Option Nat→Nat
 | some d=>base + 16 * d
 | none=>base
def nxe' (tm:List (Nat×Sv G.T)) (g:Option Nat) (want:Bool):M (Bool×Option (Nat×Bool)):=fun _ k=>
 match g with
 | some g=>match get tm g with
  | some (.p (.one (.sc (.bool b))))=>bif b then k (want,some (g,true)) else k (!want,some (g,false))
  | some (.tup [])=>k (false,none)
  | _=>none
 | none=>none
def npx' (ops:Array Oper) (tm:List (Nat×Sv G.T)) (o:Oper):M (Bool×Option (Nat×Bool)):=
 match o.guard with
 | none=>M.ret (true,none)
 | some (j,want)=>nxe' tm ((ops[j]?).bind (·.dst)) want
def St.note (st:St G):Option (Nat×Bool)→St G
 | some (g,b)=>{ st with tm:=put st.tm g (.p (.one (.sc (.bool b)))) }
 | none=>st
def dstOk (nt:Nat):Option Nat→Bool
 | some d=>Nat.blt d nt
 | none=>true
section
variable (cf:CallF G) (nt:Nat)
def stepO (ops:Array Oper) (o:Oper) (st:St G):M (St G):=
 M.bind (M.need (dstOk nt o.dst)) fun _=>M.bind (npx' ops st.tm o) fun g=>
  match g.1 with
  | true=>M.bind (act cf (evalO st.tm) (get st.hp) (dstOf 0 o.dst) o.op) fun out=>
    M.bind (M.need (fresh st.us out.nw)) fun _=>M.ret ((st.note g.2).next o.dst out)
  | false=>M.ret ((st.note g.2).drop o.dst)
def nsi' (ops:Array Oper):List Oper→St G→M (St G)
 | [],st=>M.ret st
 | o :: t,st=>M.bind (stepO cf nt ops o st) fun st=>nsi' ops t st
end
end Go.Ab
namespace Go.Ab
inductive Ex where
 | normal | exit (id:Nat) | ret
def eqEx:Ex→Ex→Bool
 | .normal,.normal=>true
 | .exit i,.exit j=>Nat.beq i j
 | .ret,.ret=>true
 | _,_=>false
inductive CSh where
 | int (k:IntKind) | bool | str | flt (k:FloatKind)
 | own (m t:Nat) | ro (t:Nat) | rp (t off:Nat) | ptr (n off:Nat) | clo (f:Nat) (p q:List (Nat×Nat)) | np (n t:Nat) | nili | sa (n off len:Nat)
inductive PSh where
 | one (c:CSh)
 | agg (cs:List CSh)
structure Spec where
 tm:List (Nat×PSh)
 hp:List (Nat×List CSh)
 us:List Nat
def lo:Nat:=65536
variable {G:Sig}
def CSh.T (G:Sig):CSh→Type
 | .int _=>Int
 | .bool=>Bool
 | .str=>ByteArray
 | .flt _=>Nat
 | .own _ t=>List (G.T t)
 | .ro t=>List (G.T t)
 | .rp t _=>G.T t
 | .ptr _ _=>Unit
 | .clo _ _ _=>Unit
 | .np _ _=>Unit
 | .nili=>Unit
 | .sa _ _ _=>Unit
def TL (G:Sig):List CSh→Type
 | []=>Unit
 | s :: t=>s.T G×TL G t
def PSh.T (G:Sig):PSh→Type
 | .one c=>c.T G
 | .agg cs=>TL G cs
def TmT (G:Sig):List (Nat×PSh)→Type
 | []=>Unit
 | p :: t=>p.2.T G×TmT G t
def HpT (G:Sig):List (Nat×List CSh)→Type
 | []=>Unit
 | p :: t=>TL G p.2×HpT G t
def Spec.T (G:Sig) (s:Spec):Type:=TmT G s.tm×HpT G s.hp
def CSh.give:(s:CSh)→s.T G→Cv G.T
 | .int k,n=>.sc (.int k n)
 | .bool,b=>.sc (.bool b)
 | .str,x=>.sc (.string x)
 | .flt k,n=>.sc (.float k n)
 | .own m _,_=>.own m
 | .ro t,l=>.ro t l
 | .rp t off,x=>.rp t x off
 | .ptr n off,_=>.ptr n off
 | .clo f p q,_=>.clo f p q
 | .np n t,_=>.np n t
 | .nili,_=>.sc .nilIface
 | .sa n off len,_=>.sa n off len
def CSh.blk:(s:CSh)→s.T G→List (Nat×Blk G.T)
 | .own m t,l=>[(m,.row t l)]
 | _,_=>[]
def giveL:(s:List CSh)→TL G s→List (Cv G.T)
 | [],_=>[]
 | c :: t,x=>c.give x.1 :: giveL t x.2
def blkL:(s:List CSh)→TL G s→List (Nat×Blk G.T)
 | [],_=>[]
 | c :: t,x=>c.blk x.1++blkL t x.2
def PSh.give:(s:PSh)→s.T G→Pv G.T
 | .one c,x=>.one (c.give x)
 | .agg cs,x=>.agg (giveL cs x)
def PSh.blk:(s:PSh)→s.T G→List (Nat×Blk G.T)
 | .one c,x=>c.blk x
 | .agg cs,x=>blkL cs x
def nod':(s:List (Nat×PSh))→TmT G s→List (Nat×Sv G.T)
 | [],_=>[]
 | p :: t,x=>(p.1,.p (p.2.give x.1)) :: nod' t x.2
def blkTm:(s:List (Nat×PSh))→TmT G s→List (Nat×Blk G.T)
 | [],_=>[]
 | p :: t,x=>p.2.blk x.1++blkTm t x.2
def nfk':(s:List (Nat×List CSh))→HpT G s→List (Nat×Blk G.T)
 | [],_=>[]
 | p :: t,x=>(p.1,.cells (giveL p.2 x.1)) :: nfk' t x.2
def blkHp:(s:List (Nat×List CSh))→HpT G s→List (Nat×Blk G.T)
 | [],_=>[]
 | p :: t,x=>blkL p.2 x.1++blkHp t x.2
def keysB:List (Nat×Blk G.T)→List Nat
 | []=>[]
 | p :: t=>p.1 :: keysB t
def Spec.mk' (s:Spec) (x:s.T G):St G:=
 let h:=blkTm s.tm x.1++(blkHp s.hp x.2++nfk' s.hp x.2)
 ⟨nod' s.tm x.1,h,keysB h++s.us⟩
structure Tk (α:Type) where
 x:α
 nm:List (Nat×Option Nat)
 fz:List Nat
def castT (G:Sig) (t t':Nat) (x:G.T t):Option (G.T t'):=if h:t=t' then some (h ▸ x) else none
def eqNN:List (Nat×Nat)→List (Nat×Nat)→Bool
 | [],[]=>true
 | a :: s,b :: t=>Nat.beq a.1 b.1&&Nat.beq a.2 b.2&&eqNN s t
 | _,_=>false
def tk0 {α:Type} (x:α):Option (Tk α):=some ⟨x,[],[]⟩
def rowAt (h:Nat→Option (Blk G.T)) (n t:Nat):Option (List (G.T t)):=match h n with
 | some (.row t' l)=>castL G t' t l
 | _=>none
def n31':Value→Bool
 | .nilIface=>true
 | _=>false
section
variable (h:Nat→Option (Blk G.T))
def CSh.take:(s:CSh)→Cv G.T→Option (Tk (s.T G))
 | .int k,.sc (.int k' n)=>bif eqIK k k' then tk0 n else none
 | .bool,.sc (.bool b)=>tk0 b
 | .str,.sc (.string x)=>tk0 x
 | .flt k,.sc (.float k' n)=>bif eqFK k k' then tk0 n else none
 | .own m t,.own n=>match rowAt h n t with | some l=>some ⟨l,[(m,some n)],[]⟩ | none=>none
 | .own m _,.sc v=>bif nn5' v then some ⟨[],[(m,none)],[]⟩ else none
 | .ro t,.ro t' l=>match castL G t' t l with | some l=>tk0 l | none=>none
 | .ro t,.own n=>match rowAt h n t with | some l=>some ⟨l,[],[n]⟩ | none=>none
 | .ro _,.sc v=>bif nn5' v then tk0 [] else none
 | .rp t off,.rp t' x off'=>bif Nat.beq off off' then match castT G t' t x with | some x=>tk0 x | none=>none else none
 | .ptr n off,.ptr n' off'=>bif Nat.beq n n'&&Nat.beq off off' then tk0 () else none
 | .clo f p q,.clo f' p' q'=>bif Nat.beq f f'&&eqNN p p'&&eqNN q q' then tk0 () else none
 | .np n t,.np n' t'=>bif Nat.beq n n'&&Nat.beq t t' then tk0 () else none
 | .nili,.sc v=>bif n31' v then tk0 () else none
 | .sa n off len,.sa n' off' len'=>bif Nat.beq n n'&&(Nat.beq off off'&&Nat.beq len len') then tk0 () else none
 | _,_=>none
def takeL:(s:List CSh)→List (Cv G.T)→Option (Tk (TL G s))
 | [],[]=>tk0 ()
 | s :: t,c :: cs=>match s.take h c,takeL t cs with
  | some a,some b=>some ⟨(a.x,b.x),a.nm++b.nm,a.fz++b.fz⟩
  | _,_=>none
 | _,_=>none
def PSh.take:(s:PSh)→Pv G.T→Option (Tk (s.T G))
 | .one s,.one c=>s.take h c
 | .agg ss,.agg cs=>takeL h ss cs
 | _,_=>none
def nf4' (tm:List (Nat×Sv G.T)):(s:List (Nat×PSh))→Option (Tk (TmT G s))
 | []=>tk0 ()
 | p :: t=>match get tm p.1 with
  | some (.p c)=>match p.2.take h c,nf4' tm t with
   | some a,some b=>some ⟨(a.x,b.x),a.nm++b.nm,a.fz++b.fz⟩
   | _,_=>none
  | _=>none
def nge':(s:List (Nat×List CSh))→Option (Tk (HpT G s))
 | []=>tk0 ()
 | p :: t=>match h p.1 with
  | some (.cells cs)=>match takeL h p.2 cs,nge' t with
   | some a,some b=>some ⟨(a.x,b.x),a.nm++b.nm,a.fz++b.fz⟩
   | _,_=>none
  | _=>none
end
def nhj':List Nat→Bool
 | []=>true
 | n :: t=>!has t n&&nhj' t
def keysN:List (Nat×Option Nat)→List Nat
 | []=>[]
 | p :: t=>p.1 :: keysN t
def oldsN:List (Nat×Option Nat)→List Nat
 | []=>[]
 | (_,some n) :: t=>n :: oldsN t
 | (_,none) :: t=>oldsN t
def nr3' (l:List Nat):List Nat→Bool
 | []=>true
 | n :: t=>has l n&&nr3' l t
def fstsP:List (Nat×Nat)→List Nat
 | []=>[]
 | p :: t=>p.1 :: fstsP t
def CSh.fix (l:List Nat):CSh→Bool
 | .ptr n _=>has l n
 | .clo _ p q=>nr3' l (fstsP p)&&nr3' l (fstsP q)
 | .np n _=>has l n
 | .sa n _ _=>has l n
 | _=>true
def PSh.fix (l:List Nat):PSh→Bool
 | .one c=>c.fix l
 | .agg cs=>cs.all (CSh.fix l)
def keysH:List (Nat×List CSh)→List Nat
 | []=>[]
 | p :: t=>p.1 :: keysH t
def disjN:List Nat→List Nat→Bool
 | [],_=>true
 | n :: t,l=>!has l n&&disjN t l
def allLt:List Nat→Bool
 | []=>true
 | n :: t=>Nat.blt n lo&&allLt t
def allIn (us:List Nat):List Nat→Bool
 | []=>true
 | n :: t=>(Nat.blt n lo||has us n)&&allIn us t
def Spec.take (s:Spec) (st:St G):Option (s.T G):=match nf4' (get st.hp) st.tm s.tm,nge' (get st.hp) s.hp with
 | some a,some b=>
  bif s.tm.all (fun p=>p.2.fix (keysH s.hp))&&s.hp.all (fun p=>p.2.all (CSh.fix (keysH s.hp))) &&
   (nhj' (keysN (a.nm++b.nm)++keysH s.hp)&&allLt (keysN (a.nm++b.nm))&&nhj' (oldsN (a.nm++b.nm)++keysH s.hp)&&disjN (oldsN (a.nm++b.nm)++keysH s.hp) (a.fz++b.fz)&&allIn s.us st.us)
  then some (a.x,b.x) else none
 | _,_=>none
def SumE (G:Sig):List (Ex×Spec)→Type
 | []=>Empty
 | [p]=>p.2.T G
 | p :: q :: t=>Sum (p.2.T G) (SumE G (q :: t))
def takeE:(E:List (Ex×Spec))→Ex→St G→Option (SumE G E)
 | [],_,_=>none
 | [p],e,st=>bif eqEx e p.1 then p.2.take st else none
 | p :: q :: t,e,st=>bif eqEx e p.1 then match p.2.take st with | some x=>some (.inl x) | none=>none
   else match takeE (q :: t) e st with | some y=>some (.inr y) | none=>none
def caseE {R:Type}:(E:List (Ex×Spec))→SumE G E→(Ex×St G→Option R)→Option R
 | [],y,_=>y.elim
 | [p],y,k=>k (p.1,p.2.mk' y)
 | p :: q :: t,y,k=>match y with
  | .inl x=>k (p.1,p.2.mk' x)
  | .inr y=>caseE (q :: t) y k
def cutM (E:List (Ex×Spec)) (m:M (Ex×St G)):M (Ex×St G):=fun _ k=>(m _ fun p=>takeE E p.1 p.2).bind fun y=>caseE E y k
def cutO:Option (List (Ex×Spec))→M (Ex×St G)→M (Ex×St G)
 | none,m=>m
 | some E,m=>cutM E m
def outX (S:Spec) (E:List (Ex×Spec)) (e:Ex) (st:St G):Option (Sum (S.T G) (SumE G E)):=match e with
 | .normal=>match S.take st with | some x=>some (.inl x) | none=>none
 | e=>match takeE E e st with | some y=>some (.inr y) | none=>none
def noh' (S:Spec) (E:List (Ex×Spec)) (body:St G→M (Ex×St G)) (x:S.T G):Option (Sum (S.T G) (SumE G E)):=
 body (S.mk' x) _ fun p=>outX S E p.1 p.2
def noj' {X Y:Type} (g:X→Option Y):Option (Sum X Y)→Option Y
 | some (.inl x)=>g x
 | some (.inr y)=>some y
 | none=>none
def iter {X Y:Type} (step:X→Option (Sum X Y)):Nat→X→Option Y
 | 0,_=>none
 | f + 1,x=>noj' (iter step f) (step x)
def lpX (S:Spec) (E:List (Ex×Spec)) (L:S.T G→Option (SumE G E)) (st:St G):M (Ex×St G):=fun _ k=>
 match S.take st with
 | some x=>(L x).bind fun y=>caseE E y k
 | none=>none
end Go.Ab
namespace Go.Ab
variable {G:Sig}
def ndj':Code→Nat
 | .seq a b=>ndj' a + ndj' b
 | .cond _ a b=>ndj' a + ndj' b
 | .block _ a=>ndj' a
 | .loop a=>ndj' a + 1
 | _=>0
def nzc' {α:Type} (l:List (Nat×α)):List Nat→List (Nat×α)
 | []=>l
 | n :: t=>nzc' (del l n) t
def St.kill (st:St G) (ks:List Nat):St G:={ st with tm:=nzc' st.tm ks }
def condT (tm:List (Nat×Sv G.T)) (t:Nat):M (Bool×Option (Nat×Bool)):=fun _ k=>
 match get tm t with
 | some (.p (.one (.sc (.bool b))))=>bif b then k (true,some (t,true)) else k (false,some (t,false))
 | _=>none
def condV:Value→M (Bool×Option (Nat×Bool))
 | .bool b=>M.ret (b,none)
 | _=>M.fail
def condB (tm:List (Nat×Sv G.T)):Operand→M (Bool×Option (Nat×Bool))
 | .tmp t=>condT tm t
 | .const v=>condV v
 | _=>M.fail
section
variable (cf:CallF G) (nt:Nat) (drawn:Array Oper→St G→M (St G)) (lp:Nat→St G→M (Ex×St G)) (kl:Nat→List Nat) (jn:Nat→Option (List (Ex×Spec)))
def front:Code→Nat
 | .seq a _=>front a
 | .block _ a=>front a
 | .region id _ _=>id + 1
 | _=>0
def cutAt:Nat:=1048576
def preAt:Nat:=2097152
def preM (id:Nat) (f:St G→M (Ex×St G)) (st:St G):M (Ex×St G):=M.bind (cutO (jn (preAt + id)) (M.ret (.normal,st))) fun p=>match p.1 with
 | .normal=>f p.2
 | _=>M.fail
def runC:Nat→Code→St G→M (Ex×St G)
 | _,.skip,st=>M.ret (.normal,st)
 | _,.ret,st=>M.ret (.ret,st)
 | _,.exit id,st=>M.ret (.exit id,st)
 | n,.seq a b,st=>M.bind (cutO (jn (front b)) (runC n a st)) fun p=>match p.1 with
  | .normal=>runC (n + ndj' a) b p.2
  | e=>M.ret (e,p.2)
 | n,.cond c a b,st=>M.bind (condB st.tm c) fun p=>match p.1 with
  | true=>runC n a (st.note p.2)
  | false=>runC (n + ndj' a) b (st.note p.2)
 | n,.block id a,st=>M.bind (runC n a st) fun p=>match p.1 with
  | .exit i=>M.ret (bif Nat.beq i id then .normal else .exit i,p.2)
  | e=>M.ret (e,p.2)
 | n,.loop _,st=>lp n st
 | _,.region id ops false,st=>preM jn id (fun st=>cutO (jn (cutAt + id)) (M.bind (nsi' cf nt ops ops.toList st) fun st=>M.ret (.normal,st.kill (kl id)))) st
 | _,.region id ops true,st=>preM jn id (fun st=>cutO (jn (cutAt + id)) (M.bind (drawn ops st) fun st=>M.ret (.normal,st.kill (kl id)))) st
 | _,_,_=>M.fail
end
def zipN {α:Type}:Nat→List α→List (Nat×α)
 | _,[]=>[]
 | n,x :: t=>(n,x) :: zipN (n + 1) t
def resOf (st:St G):ResultVar→Option (Pv G.T)
 | .tmp t=>match get st.tm t with | some (.p x)=>some x | _=>none
 | .cell a t=>match get st.tm a with
  | some (.p (.one c))=>match look (get st.hp) (G.sz t) c with | some cs=>pack G t cs | none=>none
  | _=>none
def noa' (st:St G):List ResultVar→Option (List (Pv G.T))
 | []=>some []
 | r :: t=>match resOf st r,noa' st t with | some x,some l=>some (x :: l) | _,_=>none
def resS (st:St G) (rs:List ResultVar):Option (Sv G.T):=match noa' st rs with
 | some [x]=>some (.p x)
 | some l=>some (.tup l)
 | none=>none
section
variable (cf:CallF G) (drawn:Nat→Array Oper→St G→M (St G)) (lp:Nat→St G→M (Ex×St G)) (kl:Nat→List Nat) (jn:Nat→Option (List (Ex×Spec))) (je:Option (List (Ex×Spec)))
end
end Go.Ab
namespace Go.Ab
def F2 {α β:Type} (R:α→β→Prop) (xs:List α) (ys:List β):Prop:=
 xs.length=ys.length∧∀ (i:Nat) x y,xs[i]?=some x→ys[i]?=some y→R x y
theorem F2.nil {α β:Type} {R:α→β→Prop}:F2 R [] []:=⟨rfl,fun i x y h=>by simp at h⟩
theorem F2.cons {α β:Type} {R:α→β→Prop} {x:α} {y:β} {xs:List α} {ys:List β} (h:R x y) (t:F2 R xs ys):F2 R (x :: xs) (y :: ys):=by
 refine ⟨by simp [t.1],fun i a b ha hb=>?_⟩
 cases i with
 | zero=>simp at ha hb; subst ha; subst hb; exact h
 | succ i=>simp at ha hb; exact t.2 i a b ha hb
theorem F2.tail {α β:Type} {R:α→β→Prop} {x:α} {y:β} {xs:List α} {ys:List β} (h:F2 R (x :: xs) (y :: ys)):R x y∧F2 R xs ys:=
 ⟨h.2 0 x y rfl rfl,by have:=h.1; simp at this; exact this,fun i a b ha hb=>h.2 (i + 1) a b (by simp [ha]) (by simp [hb])⟩
theorem F2.inv {α β:Type} {R:α→β→Prop} {x:α} {xs:List α} {ys:List β} (h:F2 R (x :: xs) ys):∃ y t,ys=y :: t∧R x y∧F2 R xs t:=by
 cases ys with
 | nil=>exact absurd h.1 (by simp)
 | cons y t=>exact ⟨y,t,rfl,h.tail⟩
theorem F2.inv_nil {α β:Type} {R:α→β→Prop} {ys:List β} (h:F2 R [] ys):ys=[]:=by
 cases ys with
 | nil=>rfl
 | cons y t=>exact absurd h.1 (by simp)
theorem F2.mono {α β:Type} {R R':α→β→Prop} {xs:List α} {ys:List β} (h:F2 R xs ys) (hr:∀ x y,R x y→R' x y):F2 R' xs ys:=
 ⟨h.1,fun i x y hx hy=>hr _ _ (h.2 i x y hx hy)⟩
theorem F2.append {α β:Type} {R:α→β→Prop} {xs xs':List α} {ys ys':List β} (h:F2 R xs ys) (h':F2 R xs' ys'):F2 R (xs++xs') (ys++ys'):=by
 refine ⟨by simp [h.1,h'.1],fun i x y hx hy=>?_⟩
 rw [List.getElem?_append] at hx hy;rw [h.1] at hx;by_cases hi:i < ys.length
 ·simp only [hi,if_true] at hx hy; exact h.2 i x y hx hy
 ·simp only [hi,if_false] at hx hy; exact h'.2 _ x y hx hy
theorem F2.map_left {α β γ:Type} {R:α→β→Prop} {f:γ→α} {xs:List γ} {ys:List β} (h:F2 (fun c v=>R (f c) v) xs ys):F2 R (xs.map f) ys:=by
 refine ⟨by simp [h.1],fun i x y hx hy=>?_⟩
 rw [List.getElem?_map] at hx;cases hc:xs[i]? with
 | none=>simp [hc] at hx
 | some c=>simp [hc] at hx; subst hx; exact h.2 i c y hc hy
theorem F2.get {α β:Type} {R:α→β→Prop} {xs:List α} {ys:List β} (h:F2 R xs ys) {i:Nat} {x:α} (hx:xs[i]?=some x):∃ y,ys[i]?=some y∧R x y:=by
 have hi:i < ys.length:=by rw [← h.1]; exact (List.getElem?_eq_some_iff.1 hx).1
 exact ⟨ys[i],List.getElem?_eq_getElem hi,h.2 i x _ hx (List.getElem?_eq_getElem hi)⟩
theorem nw' {k n:Nat}:Nat.beq k n=true↔k=n:=Nat.beq_eq ▸ Iff.rfl
theorem nbn' {α:Sort _} (k n:Nat) (a b:α):(bif Nat.beq k n then a else b)=if k=n then a else b:=by
 by_cases h:k=n
 ·rw [if_pos h,nw'.2 h]; rfl
 ·rw [if_neg h]
  cases hb:Nat.beq k n with
  | false=>rfl
  | true=>exact absurd (nw'.1 hb) h
theorem nsb' {α:Type} (l:List (Nat×α)) (n m:Nat):get (del l n) m=if n=m then none else get l m:=by
 induction l with
 | nil=>simp [del,get]
 | cons p t ih=>
  obtain ⟨k,v⟩:=p;simp only [del,get,nbn'];by_cases hkn:k=n
  ·subst hkn
   rw [if_pos rfl,ih];by_cases h:k=m <;> simp [h]
  ·rw [if_neg hkn]
   simp only [get,nbn',ih];by_cases hkm:k=m
   ·subst hkm; simp [Ne.symm hkn]
   ·simp [hkm]
theorem npy' {α:Type} (l:List (Nat×α)) (n m:Nat) (x:α):get (put l n x) m=if n=m then some x else get l m:=by
 simp only [put,get,nbn',nsb'];by_cases h:n=m <;> simp [h]
theorem nc7' (l:List Nat) (n:Nat):has l n=true↔n ∈ l:=by
 induction l with
 | nil=>simp [has]
 | cons k t ih=>
  simp only [has,nbn',List.mem_cons];by_cases h:k=n
  ·simp [h]
  ·simp [h,ih,Ne.symm h]
def blkOf:Value→Option Nat
 | .pointer (some a)=>some a.block
 | .slice (some a) _ _=>some a.block
 | _=>none
variable {G:Sig}
inductive Rd (G:Sig) (S:Nat→Prop) (h:Array Obj):Cv G.T→Value→Prop
 | sc (v:Value) (hv:isSc v=true):Rd G S h (.sc v) v
 | nil (t:Nat) (a:Option Addr) (cap:Nat):Rd G S h (.ro t []) (.slice a 0 cap)
 | ro (t:Nat) (l:List (G.T t)) (b off cap:Nat) (c:Array Value) (te:TypeId) (fz:Nat×Nat) (vs:Nat→Nat→Value)
   (hS:S b) (hb:h[b]?=some (.cells c te fz)) (hcap:l.length≤cap)
   (hc:∀ i j,i < l.length→j < G.sz t→c[off + i * G.sz t + j]?=some (vs i j))
   (hr:∀ (i j:Nat) (x:G.T t) (cv:Cv G.T),l[i]?=some x→(G.enc t x)[j]?=some cv→Rd G S h cv (vs i j)) :
   Rd G S h (.ro t l) (.slice (some ⟨b,off,none⟩) l.length cap)
 | rp (t:Nat) (x:G.T t) (off b base:Nat) (c:Array Value) (te:TypeId) (fz:Nat×Nat) (vs:Nat→Value)
   (hS:S b) (hb:h[b]?=some (.cells c te fz))
   (hc:∀ j,j < G.sz t→c[base + j]?=some (vs j))
   (hr:∀ (j:Nat) (cv:Cv G.T),(G.enc t x)[j]?=some cv→Rd G S h cv (vs j)) :
   Rd G S h (.rp t x off) (.pointer (some ⟨b,base + off,none⟩))
def RPtr (ν:Nat→Option Value) (p:Nat×Nat) (v:Value):Prop:=
 ∃ b,ν p.1=some (.pointer (some ⟨b,0,none⟩))∧v=.pointer (some ⟨b,p.2,none⟩)
def Rc (G:Sig) (ν:Nat→Option Value) (S:Nat→Prop) (h:Array Obj):Cv G.T→Value→Prop
 | .ptr n off,v=>RPtr ν (n,off) v
 | .pd n off s len i,v=>i < len∧RPtr ν (n,off + i * s) v
 | .pr n t i off,v=>∃ b len cap,ν n=some (.slice (some ⟨b,0,none⟩) len cap)∧i < len∧v=.pointer (some ⟨b,i * G.sz t + off,none⟩)
 | .own n,v=>∃ a len cap,ν n=some v∧v=.slice a len cap
 | .clo f p q,v=>∃ vp vq:List Value,v=.func (.func f) vp.toArray vq.toArray∧F2 (RPtr ν) p vp∧F2 (RPtr ν) q vq
 | .np n _,v=>v=.pointer none∨RPtr ν (n,0) v
 | .sa n off len,v=>∃ b,ν n=some (.pointer (some ⟨b,0,none⟩))∧v=.slice (some ⟨b,off,none⟩) len len
 | c,v=>Rd G S h c v
inductive Rp (G:Sig) (ν:Nat→Option Value) (S:Nat→Prop) (h:Array Obj):Pv G.T→Value→Prop
 | one (c:Cv G.T) (v:Value) (hc:Rc G ν S h c v):Rp G ν S h (.one c) v
 | agg (cs:List (Cv G.T)) (vs:List Value) (hc:F2 (Rc G ν S h) cs vs):Rp G ν S h (.agg cs) (.agg vs.toArray)
inductive Rs (G:Sig) (ν:Nat→Option Value) (S:Nat→Prop) (h:Array Obj):Sv G.T→Value→Prop
 | p (x:Pv G.T) (v:Value) (hc:Rp G ν S h x v):Rs G ν S h (.p x) v
 | tup (xs:List (Pv G.T)) (vs:List Value) (hc:F2 (Rp G ν S h) xs vs):Rs G ν S h (.tup xs) (.tuple vs.toArray)
def RRow (G:Sig) (S:Nat→Prop) (h:Array Obj) (t:Nat) (l:List (G.T t)) (c:Array Value):Prop:=
 ∀ (i j:Nat) (x:G.T t) (cv:Cv G.T),l[i]?=some x→(G.enc t x)[j]?=some cv→∃ v,c[i * G.sz t + j]?=some v∧Rd G S h cv v
def Rb (G:Sig) (ν:Nat→Option Value) (S:Nat→Prop) (h:Array Obj) (n:Nat):Blk G.T→Prop
 | .cells cs=>∃ b c te,ν n=some (.pointer (some ⟨b,0,none⟩))∧h[b]?=some (.cells c te (0,0))∧F2 (Rc G ν S h) cs c.toList∧∀ m t,Cv.np m t ∈ cs→m=n∧te=t
 | .row t l=>(ν n=some (.slice none 0 0)∧l=[]) ∨
   ∃ b cap c te,ν n=some (.slice (some ⟨b,0,none⟩) l.length cap)∧h[b]?=some (.cells c te (0,0))∧l.length≤cap∧c.size=cap * G.sz t∧RRow G S h t l c∧te=t∧cap≤maxLen
theorem Rd.mono {S S':Nat→Prop} {h h':Array Obj} (hS:∀ b,S b→S' b) (hh:∀ b,S b→h'[b]?=h[b]?) {c:Cv G.T} {v:Value} (r:Rd G S h c v):Rd G S' h' c v:=by
 induction r with
 | sc v hv=>exact .sc v hv
 | nil t a cap=>exact .nil t a cap
 | ro t l b off cap c te fz vs h1 h2 h3 h4 _ ih=>exact .ro t l b off cap c te fz vs (hS b h1) ((hh b h1).trans h2) h3 h4 ih
 | rp t x off b base c te fz vs h1 h2 h3 _ ih=>exact .rp t x off b base c te fz vs (hS b h1) ((hh b h1).trans h2) h3 ih
structure Le (ν ν':Nat→Option Value) (S S':Nat→Prop) (h h':Array Obj):Prop where
 nu:∀ n x,ν n=some x→ν' n=some x
 st:∀ b,S b→S' b
 hp:∀ b,S b→h'[b]?=h[b]?
theorem Le.refl {ν:Nat→Option Value} {S:Nat→Prop} {h:Array Obj}:Le ν ν S S h h:=⟨fun _ _ h=>h,fun _ h=>h,fun _ _=>rfl⟩
section
variable {ν ν':Nat→Option Value} {S S':Nat→Prop} {h h':Array Obj}
theorem RPtr.mono (hn:∀ n x,ν n=some x→ν' n=some x) {p:Nat×Nat} {v:Value} (r:RPtr ν p v):RPtr ν' p v:=
 let ⟨b,h1,h2⟩:=r
 ⟨b,hn _ _ h1,h2⟩
theorem Rc.mono (le:Le ν ν' S S' h h') {c:Cv G.T} {v:Value} (r:Rc G ν S h c v):Rc G ν' S' h' c v:=by
 cases c with
 | ptr n off=>exact RPtr.mono le.nu r
 | pd n off s len i=>exact ⟨r.1,RPtr.mono le.nu r.2⟩
 | pr n t i off=>obtain ⟨b,len,cap,h1,h2,h3⟩:=r; exact ⟨b,len,cap,le.nu _ _ h1,h2,h3⟩
 | own n=>obtain ⟨a,len,cap,h1,h2⟩:=r; exact ⟨a,len,cap,le.nu _ _ h1,h2⟩
 | clo f p q=>
  obtain ⟨vp,vq,h1,h2,h3⟩:=r;exact ⟨vp,vq,h1,h2.mono fun _ _=>RPtr.mono le.nu,h3.mono fun _ _=>RPtr.mono le.nu⟩
 | np n t=>exact r.imp (fun h=>h) (RPtr.mono le.nu)
 | sa n off len=>obtain ⟨b,h1,h2⟩:=r; exact ⟨b,le.nu _ _ h1,h2⟩
 | sc v=>exact Rd.mono le.st le.hp r
 | ro t l=>exact Rd.mono le.st le.hp r
 | rp t x off=>exact Rd.mono le.st le.hp r
theorem Rp.mono (le:Le ν ν' S S' h h') {c:Pv G.T} {v:Value} (r:Rp G ν S h c v):Rp G ν' S' h' c v:=by
 cases r with
 | one c v hc=>exact .one c v (hc.mono le)
 | agg cs vs hc=>exact .agg cs vs (hc.mono fun _ _=>Rc.mono le)
theorem Rs.mono (le:Le ν ν' S S' h h') {c:Sv G.T} {v:Value} (r:Rs G ν S h c v):Rs G ν' S' h' c v:=by
 cases r with
 | p x v hc=>exact .p x v (hc.mono le)
 | tup xs vs hc=>exact .tup xs vs (hc.mono fun _ _=>Rp.mono le)
theorem Rb.mono (le:Le ν ν' S S' h h') {n:Nat} (hb:∀ x b,ν n=some x→blkOf x=some b→h'[b]?=h[b]?) {k:Blk G.T} (r:Rb G ν S h n k):Rb G ν' S' h' n k:=by
 cases k with
 | cells cs=>
  obtain ⟨b,c,te,h1,h2,h3⟩:=r;exact ⟨b,c,te,le.nu _ _ h1,(hb _ b h1 rfl).trans h2,h3.1.mono fun _ _=>Rc.mono le,h3.2⟩
 | row t l=>
  rcases r with ⟨h1,h2⟩ | ⟨b,cap,c,te,h1,h2,h3,h4,h5⟩
  ·exact .inl ⟨le.nu _ _ h1,h2⟩
  ·refine .inr ⟨b,cap,c,te,le.nu _ _ h1,(hb _ b h1 rfl).trans h2,h3,h4,fun i j x cv hx hc=>?_,h5.2⟩
   obtain ⟨v,hv,hr⟩:=h5.1 i j x cv hx hc;exact ⟨v,hv,hr.mono le.st le.hp⟩
end
def GlOK (G:Sig) (S:Nat→Prop) (h:Array Obj):Prop:=∀ g p,G.gl g=some p→Rd G S h (.rp p.1 p.2 0) (.pointer (some ⟨g,0,none⟩))
theorem GlOK.mono {S S':Nat→Prop} {h h':Array Obj} (g:GlOK G S h) (hS:∀ b,S b→S' b) (hh:∀ b,S b→h'[b]?=h[b]?):GlOK G S' h':=fun n p hp=>(g n p hp).mono hS hh
structure HRel (G:Sig) (ν:Nat→Option Value) (S B:Nat→Prop) (hp:Nat→Option (Blk G.T)) (w:World):Prop where
 blk:∀ n k,hp n=some k→Rb G ν S w.heap n k
 apart:∀ n m x y b,hp n ≠ none→hp m ≠ none→ν n=some x→ν m=some y→blkOf x=some b→blkOf y=some b→n=m
 own:∀ n x b,hp n ≠ none→ν n=some x→blkOf x=some b→¬ S b∧B b
 stay:∀ b,S b→b < w.heap.size
 gl:GlOK G S w.heap
structure Post (G:Sig) (ν:Nat→Option Value) (S B:Nat→Prop) (hp:Nat→Option (Blk G.T)) (w:World) (out:Out G)
  (hp':Nat→Option (Blk G.T)) (ν':Nat→Option Value) (S':Nat→Prop) (w':World) (v:Value):Prop where
 nu:∀ n x,ν n=some x→ν' n=some x
 new:∀ n,ν' n ≠ none→ν n ≠ none∨n ∈ out.nw
 st:∀ b,S b→S' b
 stn:∀ b,S' b→S b∨B b
 rel:HRel G ν' S' B hp' w'
 val:∀ s,out.v=some s→Rs G ν' S' w'.heap s v
 size:w.heap.size≤w'.heap.size
 frame:∀ b,b < w.heap.size→(∀ n x,hp n ≠ none→ν n=some x→blkOf x ≠ some b)→w'.heap[b]?=w.heap[b]?
 env:w'.os=w.os∧w'.tape=w.tape∧w'.output=w.output
theorem Post.le {ν:Nat→Option Value} {S B:Nat→Prop} {hp:Nat→Option (Blk G.T)} {w:World} {out:Out G}
  {hp':Nat→Option (Blk G.T)} {ν':Nat→Option Value} {S':Nat→Prop} {w':World} {v:Value} (hr:HRel G ν S B hp w)
  (p:Post G ν S B hp w out hp' ν' S' w' v):Le ν ν' S S' w.heap w'.heap:=
 ⟨p.nu,p.st,fun b hb=>p.frame b (hr.stay b hb) fun n x hn hx e=>(hr.own n x b hn hx e).1 hb⟩
end Go.Ab
namespace Go.Ab
variable {G:Sig}
def ExtAt (P : Program) (g : Nat) (e : Array Value → Sem Value) : Prop := ∃ fn, P.funcs[g]? = some fn ∧ (fn.name == "runtime.NumGoroutine") = false ∧ fn.body.isNone = true ∧ Extern.findNext fn = none ∧ Extern.find fn = some e
def extE:Nat→Array Value→Sem Value
 | 1=>Extern.MathFloatBits.float64bits
 | _=>Extern.MathFloatBits.float64frombits
def ExtOK (P:Program) (ext:Nat→Nat):Prop:=∀ g,ext g ≠ 0→ExtAt P g (extE (ext g))
structure SigOK (P:Program) (G:Sig):Prop where
 bool:∀ t,G.ty t=.bool→P.underlying t=some .bool
 int:∀ t k,G.ty t=.int k→P.underlying t=some (.int k)
 flt:∀ t k,G.ty t=.flt k→P.underlying t=some (.float k)
 str:∀ t,G.ty t=.str→P.underlying t=some .string
 sl:∀ t e,G.ty t=.sl e→P.underlying t=some (.slice e)∧G.ty e ≠ .no∧(∃ i,P.info? e=some i∧i.bytes≤4096)∧∀ x,(G.enc e x).length=G.sz e
 pt:∀ t e,G.ty t=.pt e→P.underlying t=some (.pointer e)
 fn:∀ t,G.ty t=.fn→∃ a b c,P.underlying t=some (.func a b c)
 strc:∀ t fs,G.ty t=.st fs→∃ fields,P.underlying t=some (.struct fields)∧fields.toList.map (fun f=>(f.offset,f.type))=fs∧∀ o u,(o,u) ∈ fs→G.ty u ≠ .no
 arr:∀ t n e,G.ty t=.arr n e→P.underlying t=some (.array n e)∧G.ty e ≠ .no
 info:∀ t,G.ty t ≠ .no→∃ i z,P.info? t=some i∧i.size=G.sz t∧i.zero=some z∧z.cells.toList=G.zero t
 pos:∀ t,G.ty t ≠ .no→0 < G.sz t
 nosz:∀ t,G.ty t=.no→G.sz t=0
 zsc:∀ t v,v ∈ G.zero t→isSc v=true
 zlen:∀ t,(G.zero t).length=G.sz t
 encl:∀ t x,(G.enc t x).length≤G.sz t
 encdec:∀ t cs x,G.dec t cs=some x→G.enc t x=cs
 encd:∀ t x c,c ∈ G.enc t x→(∃ v,c=.sc v)∨(∃ t' l,c=.ro t' l)
 flatd:∀ t x c,G.flat t=true→c ∈ G.enc t x→∃ v,c=.sc v
 u8d:∀ t x y,(G.enc t x).map u8C=(G.enc t y).map u8C
 ext:ExtOK P G.ext
section
variable {P:Program} (ok:SigOK P G) (w:World)
include ok
theorem SigOK.isAgg {t:Nat} (h:G.ty t ≠ .no):(Go.isAgg t).run P w=.ok (G.ty t).isAgg w:=by
 have key:∀ d,P.underlying t=some d→(Go.isAgg t).run P w=.ok (match d with | .struct _ | .array _ _=>true | _=>false) w:=by
  intro d hd;unfold Go.isAgg;rw [Sem.run_bind,run_underlying hd w];cases d <;> rfl
 cases ht:G.ty t with
 | no=>exact absurd ht h
 | bool=>rw [key _ (ok.bool t ht)]; rfl
 | int k=>rw [key _ (ok.int t k ht)]; rfl
 | flt k=>rw [key _ (ok.flt t k ht)]; rfl
 | str=>rw [key _ (ok.str t ht)]; rfl
 | sl e=>rw [key _ (ok.sl t e ht).1]; rfl
 | pt e=>rw [key _ (ok.pt t e ht)]; rfl
 | fn=>obtain ⟨a,b,c,hd⟩:=ok.fn t ht; rw [key _ hd]; rfl
 | st fs=>obtain ⟨a,hd,_⟩:=ok.strc t fs ht; rw [key _ hd]; rfl
 | arr n e=>rw [key _ (ok.arr t n e ht).1]; rfl
theorem SigOK.sizeOf {t:Nat} (h:G.ty t ≠ .no):(Go.sizeOf t).run P w=.ok (G.sz t) w:=by
 obtain ⟨i,z,h1,h2,_⟩:=ok.info t h;simp [Go.sizeOf,typeInfo,h1,h2]
theorem SigOK.zeroV {t:Nat} (h:G.ty t ≠ .no):∃ z,(zeroValue t).run P w=.ok z w∧z.cells.toList=G.zero t:=by
 obtain ⟨i,z,h1,h2,h3,h4⟩:=ok.info t h;exact ⟨z,by simp [zeroValue,typeInfo,h1,h3],h4⟩
end
theorem nsq' {α:Type}:∀ (n:Nat) (l m:List α),takeN n l=some m→m.length=n∧n≤l.length∧∀ j,j < n→m[j]?=l[j]?
 | 0,l,m,h=>by simp [takeN] at h; subst h; simp
 | n + 1,[],m,h=>by simp [takeN] at h
 | n + 1,x :: t,m,h=>by
  simp only [takeN] at h;split at h
  ·rename_i l hl
   obtain ⟨h1,h2,h3⟩:=nsq' n t l hl;simp at h; subst h;refine ⟨by simp [h1],by simp; omega,fun j hj=>?_⟩
   cases j with
   | zero=>simp
   | succ j=>simp; exact h3 j (by omega)
  ·simp at h
theorem nss' {α:Type}:∀ (n:Nat) (l m:List α),dropN n l=some m→n + m.length=l.length∧∀ j,m[j]?=l[n + j]?
 | 0,l,m,h=>by simp [dropN] at h; subst h; simp
 | n + 1,[],m,h=>by simp [dropN] at h
 | n + 1,x :: t,m,h=>by
  simp only [dropN] at h;obtain ⟨h1,h2⟩:=nss' n t m h;refine ⟨by simp; omega,fun j=>?_⟩
  rw [h2 j,show n + 1 + j=(n + j) + 1 by omega]
  simp
theorem nko' {α:Type} {l m:List α} {off n:Nat} (h:part l off n=some m):m.length=n∧off + n≤l.length∧∀ j,j < n→m[j]?=l[off + j]?:=by
 unfold part at h;split at h
 ·rename_i k hk
  obtain ⟨h1,h2⟩:=nss' _ _ _ hk;obtain ⟨h3,h4,h5⟩:=nsq' _ _ _ h;exact ⟨h3,by omega,fun j hj=>(h5 j hj).trans (h2 j)⟩
 ·simp at h
theorem nfv' {α:Type}:∀ (l:List α) (off:Nat) (new m:List α),nf2' l off new=some m →
  m.length=l.length∧off + new.length≤l.length∧∀ j,m[j]?=if off≤j∧j < off + new.length then new[j - off]? else l[j]?
 | cs,0,[],m,h=>by simp [nf2'] at h; subst h; refine ⟨rfl,by simp,fun j=>?_⟩; simp
 | [],0,_ :: _,m,h=>by simp [nf2'] at h
 | _ :: t,0,x :: new,m,h=>by
  simp only [nf2'] at h;split at h
  ·rename_i l hl
   obtain ⟨h1,h2,h3⟩:=nfv' t 0 new l hl;simp at h; subst h;refine ⟨by simp [h1],by simp at h2 ⊢; omega,fun j=>?_⟩
   cases j with
   | zero=>simp
   | succ j=>simp only [List.getElem?_cons_succ]; rw [h3 j]; simp
  ·simp at h
 | [],_ + 1,_,m,h=>by simp [nf2'] at h
 | c :: t,n + 1,new,m,h=>by
  simp only [nf2'] at h;split at h
  ·rename_i l hl
   obtain ⟨h1,h2,h3⟩:=nfv' t n new l hl;simp at h; subst h;refine ⟨by simp [h1],by simp; omega,fun j=>?_⟩
   cases j with
   | zero=>simp
   | succ j=>
    simp only [List.getElem?_cons_succ];rw [h3 j,show j + 1 - (n + 1)=j - n by omega]
    congr 1
    simp; omega
  ·simp at h
theorem nbh' {α β:Type} {f:α→Option β}:∀ (l:List α) (m:List β),mapO f l=some m→m.length=l.length∧∀ (j:Nat) (x:α),l[j]?=some x→∃ y,m[j]?=some y∧f x=some y
 | [],m,h=>by simp [mapO] at h; subst h; simp
 | a :: t,m,h=>by
  simp only [mapO] at h;split at h
  ·rename_i b l hb hl
   obtain ⟨h1,h2⟩:=nbh' t l hl;simp at h; subst h;refine ⟨by simp [h1],fun j x hj=>?_⟩
   cases j with
   | zero=>simp at hj; subst hj; exact ⟨b,rfl,hb⟩
   | succ j=>simp at hj; obtain ⟨y,hy,hf⟩:=h2 j x hj; exact ⟨y,by simp [hy],hf⟩
  ·simp at h
theorem nrw' (n:Nat):upTo n=List.range n:=by
 induction n with
 | zero=>rfl
 | succ n ih=>rw [upTo,ih,List.range_succ]
theorem ndt' {a b:IntKind} (h:eqIK a b=true):a=b:=by cases a <;> cases b <;> simp_all [eqIK]
theorem nzn' {a b:FloatKind} (h:eqFK a b=true):a=b:=by cases a <;> cases b <;> simp_all [eqFK]
theorem nvy' {T:Nat→Type} {k:IntKind}:∀ (l:List (Cv T)) (ns:List Int),nql' k l=some ns→l=ns.map fun n=>.sc (.int k n)
 | [],ns,h=>by simp [nql'] at h; subst h; rfl
 | c :: t,ns,h=>by
  cases c with
  | sc v=>
   cases v with
   | int k' n=>
    simp only [nql'] at h;cases he:eqIK k k' with
    | false=>simp [he] at h
    | true=>
     have e:=ndt' he; subst e;simp only [he,cond_true] at h;split at h
     ·rename_i l hl; simp at h; subst h; rw [nvy' t l hl]; rfl
     ·simp at h
   | _=>simp [nql'] at h
  | _=>simp [nql'] at h
theorem nuc' {T:Nat→Type}:∀ (l:List (Cv T)) (ns:List Bool),nmx' l=some ns→l=ns.map fun n=>.sc (.bool n)
 | [],ns,h=>by simp [nmx'] at h; subst h; rfl
 | c :: t,ns,h=>by
  cases c with
  | sc v=>
   cases v with
   | bool n=>
    simp only [nmx'] at h;split at h
    ·rename_i l hl; simp at h; subst h; rw [nuc' t l hl]; rfl
    ·simp at h
   | _=>simp [nmx'] at h
  | _=>simp [nmx'] at h
theorem nvw' {T:Nat→Type}:∀ (l:List (Cv T)) (ns:List ByteArray),nqk' l=some ns→l=ns.map fun n=>.sc (.string n)
 | [],ns,h=>by simp [nqk'] at h; subst h; rfl
 | c :: t,ns,h=>by
  cases c with
  | sc v=>
   cases v with
   | string n=>
    simp only [nqk'] at h;split at h
    ·rename_i l hl; simp at h; subst h; rw [nvw' t l hl]; rfl
    ·simp at h
   | _=>simp [nqk'] at h
  | _=>simp [nqk'] at h
theorem ns4' {T:Nat→Type} {l:List (Cv T)} {i:Nat} {c:Cv T} (h:selCv l i=some c) (hi:i < l.length):l[i]?=some c:=by
 unfold selCv at h;split at h
 ·split at h
  ·rename_i ns hns
   have e:=nvy' _ _ hns;rw [e] at hi ⊢;simp at h hi; subst h;simp [hi]
  ·simp at h
 ·split at h
  ·rename_i ns hns
   have e:=nuc' _ _ hns;rw [e] at hi ⊢;simp at h hi; subst h;simp [hi]
  ·simp at h
 ·split at h
  ·rename_i ns hns
   have e:=nvw' _ _ hns;rw [e] at hi ⊢;simp at h hi; subst h;simp [hi]
  ·simp at h
 ·exact h
theorem ny3' {T:Nat→Type} {b:Bool} {c d e:Cv T} (h:iteCv b c d=some e):e=if b then c else d:=by
 unfold iteCv at h;split at h
 ·rename_i k x k' y
  cases he:eqIK k k' with
  | false=>simp [he] at h
  | true=>have e:=ndt' he; subst e; simp [he] at h; subst h; cases b <;> rfl
 ·simp at h; subst h; cases b <;> rfl
 ·simp at h; subst h; cases b <;> rfl
 ·cases b <;> simp at h <;> simp [h]
theorem nfj' (b off n:Nat):(⟨b,off,none⟩:Addr).add n=⟨b,off + n,none⟩:=by
 unfold Addr.add; split <;> simp_all
theorem nzx' {ν:Nat→Option Value} {S:Nat→Prop} {h:Array Obj} {P:Program} (ok:SigOK P G) {t:Nat} {x:G.T t} {c:Cv G.T} {v:Value} (hc:c ∈ G.enc t x)
  (r:Rd G S h c v):Rc G ν S h c v:=by
 rcases ok.encd t x c hc with ⟨u,rfl⟩ | ⟨t',l,rfl⟩ <;> exact r
theorem n2j' {ν:Nat→Option Value} {S:Nat→Prop} {h:Array Obj} {P:Program} (ok:SigOK P G) {t:Nat} {x:G.T t} {c:Cv G.T} {v:Value} (hc:c ∈ G.enc t x)
  (r:Rc G ν S h c v):Rd G S h c v:=by
 rcases ok.encd t x c hc with ⟨u,rfl⟩ | ⟨t',l,rfl⟩ <;> exact r
theorem nyj' {P:Program} (ok:SigOK P G) {ν:Nat→Option Value} {S B:Nat→Prop} {hp:Nat→Option (Blk G.T)} {w:World} (hr:HRel G ν S B hp w)
  {n:Nat} {c:Cv G.T} {cs:List (Cv G.T)} (h:look hp n c=some cs) {v:Value} (hv:Rc G ν S w.heap c v) :
  ∃ (b off:Nat) (vs:List Value),v=.pointer (some ⟨b,off,none⟩)∧F2 (Rc G ν S w.heap) cs vs∧vs.length=n∧∀ (j:Nat) x,vs[j]?=some x→w.cell? ⟨b,off + j,none⟩=some x:=by
 cases c with
 | ptr m off=>
  simp only [look] at h;split at h
  ·rename_i ds hd
   obtain ⟨b,c,te,h1,h2,h3,_⟩:=hr.blk m _ hd;obtain ⟨b',h4,rfl⟩:=hv;simp only at h4;rw [h1] at h4; simp at h4; subst h4;obtain ⟨p1,p2,p3⟩:=nko' h;have hlen:ds.length=c.toList.length:=h3.1;refine ⟨b,off,(c.toList.drop off).take n,rfl,⟨by simp at hlen ⊢; omega,fun j x y hx hy=>?_⟩,by simp at hlen ⊢; omega,fun j x hj=>?_⟩
   ·have hjn:j < n:=by have:=(List.getElem?_eq_some_iff.1 hx).1; omega
    rw [p3 j hjn] at hx;rw [List.getElem?_take_of_lt hjn,List.getElem?_drop] at hy;exact h3.2 _ x y hx hy
   ·have hjn:j < n:=by have:=(List.getElem?_eq_some_iff.1 hj).1; simp at this; omega
    rw [List.getElem?_take_of_lt hjn,List.getElem?_drop] at hj;rw [cell_of_row w b (off + j) c te (0,0) h2];simpa using hj
  ·simp at h
 | pd m off s len i=>
  simp only [look] at h;split at h
  ·rename_i ds hd
   obtain ⟨b,c,te,h1,h2,h3,_⟩:=hr.blk m _ hd;obtain ⟨hi,b',h4,rfl⟩:=hv;simp only at h4;rw [h1] at h4; simp at h4; subst h4;simp only [nrw'] at h;obtain ⟨m1,m2⟩:=nbh' _ _ h
   have hcell:∀ j,j < n→∃ x y,cs[j]?=some x∧c.toList[off + i * s + j]?=some y∧Rc G ν S w.heap x y:=by
    intro j hj;obtain ⟨x,hx,hf⟩:=m2 j j (by simp [hj])
    split at hf
    ·rename_i l hl
     obtain ⟨l1,l2⟩:=nbh' _ _ hl;have hil:i < l.length:=by simp at l1; omega
     have hsel:=ns4' hf hil;obtain ⟨y,hy,hq⟩:=l2 i i (by simp [hi])
     rw [hsel] at hy; simp at hy; subst hy;obtain ⟨z,hz,hrz⟩:=h3.get hq;exact ⟨x,z,hx,hz,hrz⟩
    ·simp at hf
   refine ⟨b,off + i * s,(List.range n).map (fun j=>c.toList.getD (off + i * s + j) undef),rfl,⟨by simp [m1],fun j x y hx hy=>?_⟩,by simp,fun j x hj=>?_⟩
   ·have hjn:j < n:=by have:=(List.getElem?_eq_some_iff.1 hx).1; simp at m1; omega
    obtain ⟨x',y',e1,e2,e3⟩:=hcell j hjn;rw [e1] at hx; simp at hx; subst hx;simp [hjn] at hy;simp at e2;rw [e2] at hy; simp at hy; subst hy;exact e3
   ·have hjn:j < n:=by have:=(List.getElem?_eq_some_iff.1 hj).1; simpa using this
    obtain ⟨x',y',e1,e2,e3⟩:=hcell j hjn;simp at e2;simp [hjn,e2] at hj;subst hj;rw [cell_of_row w b (off + i * s + j) c te (0,0) h2];exact e2
  ·simp at h
 | pr m t i off=>
  simp only [look] at h;split at h
  ·rename_i t' l hd
   rw [nbn'] at h;by_cases ht:t=t'
   ·subst ht
    rw [if_pos rfl] at h;obtain ⟨b,len,cap,h4,hi,rfl⟩:=hv;rcases hr.blk m _ hd with ⟨h1,h2⟩ | ⟨b',cap',c,te,h1,h2,h3,hsz,h5⟩
    ·rw [h1] at h4; simp at h4
    ·rw [h1] at h4; simp at h4
     obtain ⟨rfl,rfl,rfl⟩:=h4;obtain ⟨p1,p2,p3⟩:=nko' h;have hx:l[i]?=some (l.getD i (G.dfl t)):=by simp [hi]
     have hcell:∀ j,j < n→∃ x y,cs[j]?=some x∧c[i * G.sz t + off + j]?=some y∧Rc G ν S w.heap x y:=by
      intro j hj;have hlt:off + j < (G.enc t (l.getD i (G.dfl t))).length:=by omega
      have he:=List.getElem?_eq_getElem hlt;obtain ⟨y,hy,hrd⟩:=h5.1 i (off + j) _ _ hx he;exact ⟨_,y,(p3 j hj).trans he,by rw [Nat.add_assoc]; exact hy,nzx' ok (List.getElem_mem hlt) hrd⟩
     refine ⟨b',i * G.sz t + off,(List.range n).map (fun j=>c.getD (i * G.sz t + off + j) undef),rfl,⟨by simp [p1],fun j x y hx hy=>?_⟩,by simp,fun j x hj=>?_⟩
     ·have hjn:j < n:=by have:=(List.getElem?_eq_some_iff.1 hx).1; omega
      obtain ⟨x',y',e1,e2,e3⟩:=hcell j hjn;rw [e1] at hx; simp at hx; subst hx;simp [hjn,e2] at hy; subst hy;exact e3
     ·have hjn:j < n:=by have:=(List.getElem?_eq_some_iff.1 hj).1; simpa using this
      obtain ⟨x',y',e1,e2,e3⟩:=hcell j hjn;simp [hjn,e2] at hj; subst hj;rw [cell_of_row w b' (i * G.sz t + off + j) c te (0,0) h2];exact e2
   ·rw [if_neg ht] at h; simp at h
  ·simp at h
 | rp t x off=>
  simp only [look] at h;cases hv with
  | rp _ _ _ b base c te fz vs hS hb hc hrd=>
   obtain ⟨p1,p2,p3⟩:=nko' h;have hl:=ok.encl t x;refine ⟨b,base + off,(List.range n).map (fun j=>vs (off + j)),rfl,⟨by simp [p1],fun j x' y hx hy=>?_⟩,by simp,fun j x' hj=>?_⟩
   ·have hjn:j < n:=by have:=(List.getElem?_eq_some_iff.1 hx).1; omega
    simp [hjn] at hy; subst hy;have hx':=(p3 j hjn).symm.trans hx;exact nzx' ok (List.mem_of_getElem? hx') (hrd _ _ hx')
   ·have hjn:j < n:=by have:=(List.getElem?_eq_some_iff.1 hj).1; simpa using this
    simp [hjn] at hj; subst hj;rw [cell_of_row w b (base + off + j) c te fz hb,Nat.add_assoc];exact hc (off + j) (by omega)
 | sc v=>simp [look] at h
 | own m=>simp [look] at h
 | ro t l=>simp [look] at h
 | clo f p q=>simp [look] at h
 | np n t=>simp [look] at h
 | sa n o l=>simp [look] at h
end Go.Ab
namespace Go.Ab
variable {G:Sig}
theorem M.bind_spec {α β R:Type} {m:M α} {f:α→M β} {k:β→Option R} {r:R} (h:M.bind m f R k=some r):m R (fun a=>f a R k)=some r:=h
theorem M.need_spec {b:Bool} {R:Type} {k:Unit→Option R} {r:R} (h:M.need b R k=some r):b=true∧k ()=some r:=by
 cases b
 ·simp [M.need] at h
 ·exact ⟨rfl,h⟩
theorem M.opt_spec {α R:Type} {o:Option α} {k:α→Option R} {r:R} (h:M.opt o R k=some r):∃ a,o=some a∧k a=some r:=by
 cases o with
 | none=>simp [M.opt] at h
 | some a=>exact ⟨a,rfl,h⟩
theorem M.split_spec {b:Bool} {R:Type} {k:Bool→Option R} {r:R} (h:M.split b R k=some r):k b=some r:=by
 cases b <;> exact h
theorem M.pick_spec {α R:Type} {k:Nat→M α} {i:Nat} {κ:α→Option R} {r:R}:∀ {n q:Nat},M.pick k i q n R κ=some r→q≤i∧i < q + n∧k i R κ=some r
 | 0,q,h=>by simp [M.pick,M.fail] at h
 | n + 1,q,h=>by
  unfold M.pick at h;have h1:=M.split_spec (M.bind_spec h);cases hb:Nat.beq i q with
  | true=>
   rw [hb] at h1;obtain rfl:i=q:=by simpa using hb
   exact ⟨Nat.le_refl _,by omega,h1⟩
  | false=>
   rw [hb] at h1;obtain ⟨g1,g2,g3⟩:=M.pick_spec (n:=n) (q:=q + 1) h1;exact ⟨by omega,by omega,g3⟩
theorem M.bindneed {β R:Type} {b:Bool} {f:Unit→M β} {k:β→Option R} {r:R} (h:M.bind (M.need b) f R k=some r):b=true∧f () R k=some r:=M.need_spec h
theorem M.bindopt {α β R:Type} {o:Option α} {f:α→M β} {k:β→Option R} {r:R} (h:M.bind (M.opt o) f R k=some r):∃ a,o=some a∧f a R k=some r:=M.opt_spec h
section
variable {ev:Operand→Option (Sv G.T)} {R β:Type} {r:R} {k:β→Option R}
theorem bindP {x:Operand} {f:Pv G.T→M β} (h:M.bind (evP ev x) f R k=some r):∃ y,ev x=some (.p y)∧f y R k=some r:=by
 unfold M.bind evP at h;split at h
 ·rename_i y hy; exact ⟨y,hy,h⟩
 ·simp at h
theorem bindC {x:Operand} {f:Cv G.T→M β} (h:M.bind (evC ev x) f R k=some r):∃ y,ev x=some (.p (.one y))∧f y R k=some r:=by
 unfold M.bind evC at h;split at h
 ·rename_i y hy; exact ⟨y,hy,h⟩
 ·simp at h
theorem bindI {x:Operand} {f:IntKind×Int→M β} (h:M.bind (evI ev x) f R k=some r):∃ d n,ev x=some (.p (.one (.sc (.int d n))))∧f (d,n) R k=some r:=by
 unfold M.bind evI at h;split at h
 ·rename_i d n hy; exact ⟨d,n,hy,h⟩
 ·simp at h
theorem bindB {x:Operand} {f:Bool→M β} (h:M.bind (evB ev x) f R k=some r):∃ b,ev x=some (.p (.one (.sc (.bool b))))∧f b R k=some r:=by
 unfold M.bind evB at h;split at h
 ·rename_i b hy; exact ⟨b,hy,h⟩
 ·simp at h
theorem nyy':∀ {l:List Operand} {f:List (Pv G.T)→M β},M.bind (evPs ev l) f R k=some r→∃ ys,f ys R k=some r∧F2 (fun x y=>ev x=some (.p y)) l ys
 | [],f,h=>⟨[],h,.nil⟩
 | x :: t,f,h=>by
  unfold evPs at h;obtain ⟨y,hy,h⟩:=bindP (f:=fun y=>M.bind (M.bind (evPs ev t) fun l=>M.ret (y :: l)) f) h
  obtain ⟨ys,h,hys⟩:=nyy' (l:=t) (f:=fun l=>f (y :: l)) h
  exact ⟨y :: ys,h,hys.cons hy⟩
theorem nq5':∀ {l:List (Nat×Operand)} {f:List (Nat×Pv G.T)→M β},M.bind (ne7' ev l) f R k=some r →
  ∃ ys,f ys R k=some r∧F2 (fun x y=>x.1=y.1∧ev x.2=some (.p y.2)) l ys
 | [],f,h=>⟨[],h,.nil⟩
 | (i,x) :: t,f,h=>by
  unfold ne7' at h;obtain ⟨y,hy,h⟩:=bindP (f:=fun y=>M.bind (M.bind (ne7' ev t) fun l=>M.ret ((i,y) :: l)) f) h
  obtain ⟨ys,h,hys⟩:=nq5' (l:=t) (f:=fun l=>f ((i,y) :: l)) h
  exact ⟨(i,y) :: ys,h,hys.cons ⟨rfl,hy⟩⟩
end
theorem nui' {S:Nat→Prop} {h:Array Obj} {c:Cv G.T} {v:Value} (r:Rd G S h c v):v.oneCell'=true:=by
 cases r with
 | sc v hv=>cases v <;> first | rfl | (simp [isSc] at hv)
 | _=>rfl
theorem n9j' {ν:Nat→Option Value} {S:Nat→Prop} {h:Array Obj} {c:Cv G.T} {v:Value} (r:Rc G ν S h c v):v.oneCell'=true:=by
 cases c with
 | ptr n off=>obtain ⟨b,_,rfl⟩:=r; rfl
 | pd n off s len i=>obtain ⟨_,b,_,rfl⟩:=r; rfl
 | pr n t i off=>obtain ⟨b,len,cap,_,_,rfl⟩:=r; rfl
 | own n=>obtain ⟨a,len,cap,_,rfl⟩:=r; rfl
 | clo f p q=>obtain ⟨vp,vq,rfl,_⟩:=r; rfl
 | np n t=>rcases r with rfl | ⟨b,_,rfl⟩ <;> rfl
 | sa n off len=>obtain ⟨b,_,rfl⟩:=r; rfl
 | sc v=>exact nui' r
 | ro t l=>exact nui' r
 | rp t x off=>exact nui' r
theorem n82' {v:Value} (h:v.oneCell'=true):v.cells=#[v]:=by cases v <;> first | rfl | (simp [Value.oneCell'] at h)
theorem np6' {ν:Nat→Option Value} {S:Nat→Prop} {h:Array Obj} {x:Pv G.T} {v:Value} (r:Rp G ν S h x v):F2 (Rc G ν S h) x.cells v.cells.toList:=by
 cases r with
 | one c v hc=>rw [n82' (n9j' hc)]; exact F2.nil.cons hc
 | agg cs vs hc=>simpa [Pv.cells,Value.cells] using hc
theorem nnl' {ν:Nat→Option Value} {S:Nat→Prop} {h:Array Obj} {t:Nat} {cs:List (Cv G.T)} {x:Pv G.T} (hp:pack G t cs=some x) {vs:List Value} (r:F2 (Rc G ν S h) cs vs) :
  Rp G ν S h x (if (G.ty t).isAgg then .agg vs.toArray else vs.getD 0 undef):=by
 unfold pack at hp;cases ha:(G.ty t).isAgg with
 | true=>simp [ha] at hp; subst hp; simp; exact .agg cs vs r
 | false=>
  simp only [ha,cond_false] at hp;split at hp
  ·simp at hp; subst hp
   obtain ⟨y,t,rfl,hy,ht⟩:=r.inv
   simp; exact .one _ _ hy
  ·simp at hp
structure Wrote (w w':World) (b:Nat) (c':Array Value) (te:TypeId):Prop where
 here:w'.heap[b]?=some (.cells c' te (0,0))
 there:∀ k,k ≠ b→w'.heap[k]?=w.heap[k]?
 size:w'.heap.size=w.heap.size
 env:w'.os=w.os∧w'.tape=w.tape∧w'.output=w.output
theorem ngg' {P:Program} {b off:Nat} {te:TypeId}:∀ (vs:List Value) (i:Nat) (w:World) (c:Array Value),w.heap[b]?=some (.cells c te (0,0)) →
  off + i + vs.length≤c.size→(∀ v ∈ vs,v.oneCell'=true) →
  ∃ w' c',(storeCells ⟨b,off,none⟩ vs i).run P w=.ok () w'∧Wrote w w' b c' te∧c'.size=c.size ∧
   ∀ j,c'[j]?=if off + i≤j∧j < off + i + vs.length then vs[j - (off + i)]? else c[j]?
 | [],i,w,c,hb,_,_=>⟨w,c,rfl,⟨hb,fun _ _=>rfl,rfl,rfl,rfl,rfl⟩,rfl,fun j=>by simp; omega⟩
 | v :: vs,i,w,c,hb,hlen,h1=>by
  have hcell:w.cell? ⟨b,off + i,none⟩=some (c[off + i]'(by simp at hlen; omega)):=by
   rw [cell_of_row w b (off + i) c te (0,0) hb]; simp
  have hfr:w.frozen? ⟨b,off + i,none⟩=false:=frozen_of_row w b (off + i) c te hb
  have hst:(Go.store ((⟨b,off,none⟩:Addr).add i) v).run P w=.ok () (w.setCell ⟨b,off + i,none⟩ v):=by
   simp only [nfj'];rw [run_store P w _ v .plain (h1 v (by simp))]
   simp [hcell,hfr]
  have hb':(w.setCell ⟨b,off + i,none⟩ v).heap[b]?=some (.cells (c.setIfInBounds (off + i) v) te (0,0)):=heap_setCell_same w b (off + i) c te v hb;obtain ⟨w',c',hr,hw,hs,hc⟩:=ngg' (P:=P) (off:=off) vs (i + 1) _ _ hb' (by simp at hlen ⊢; omega) (fun u hu=>h1 u (by simp [hu]))
  refine ⟨w',c',?_,⟨hw.here,fun k hk=>(hw.there k hk).trans (heap_setCell_other w _ k v hk),by rw [hw.size]; simp,hw.env⟩,by rw [hs]; simp,fun j=>?_⟩
  ·simp only [storeCells,Sem.run_bind]
   rw [hst];exact hr
  ·rw [hc j]
   simp only [Array.getElem?_setIfInBounds,List.length_cons];by_cases hj:off + i=j
   ·subst hj
    have:off + i < c.size:=by simp at hlen; omega
    rw [if_neg (by omega),if_pos (by omega)]; simp [this]
   ·by_cases hr1:off + (i + 1)≤j∧j < off + (i + 1) + vs.length
    ·rw [if_pos hr1,if_pos (by omega),show j - (off + i)=(j - (off + (i + 1))) + 1 by omega]
     simp
    ·rw [if_neg hr1,if_neg hj,if_neg (by omega)]
def appD (h:Nat→Option (Blk G.T)):List (Nat×Option (Blk G.T))→Nat→Option (Blk G.T)
 | []=>h
 | (n,ob) :: t=>appD (fun m=>if n=m then ob else h m) t
theorem nsx':∀ (d:List (Nat×Option (Blk G.T))) (hp:List (Nat×Blk G.T)),get (putD hp d)=appD (get hp) d
 | [],hp=>rfl
 | (n,none) :: t,hp=>by
  rw [putD,nsx' t,appD]; congr 1; funext m; exact nsb' hp n m
 | (n,some b) :: t,hp=>by
  rw [putD,nsx' t,appD]; congr 1; funext m; exact npy' hp n m b
section
variable {ν:Nat→Option Value} {S B:Nat→Prop} {hp:Nat→Option (Blk G.T)} {w:World}
theorem HRel.nu (hr:HRel G ν S B hp w) {n:Nat} (h:hp n ≠ none):ν n ≠ none:=by
 cases hk:hp n with
 | none=>exact absurd hk h
 | some k=>
  have:=hr.blk n k hk
  cases k with
  | cells cs=>obtain ⟨b,c,te,h1,_⟩:=this; rw [h1]; simp
  | row t l=>
   rcases this with ⟨h1,_⟩ | ⟨b,cap,c,te,h1,_⟩
   ·rw [h1]; simp
   ·rw [h1]; simp
theorem HRel.lt (hr:HRel G ν S B hp w) {n b:Nat} {x:Value} (h:hp n ≠ none) (hx:ν n=some x) (hb:blkOf x=some b):b < w.heap.size:=by
 cases hk:hp n with
 | none=>exact absurd hk h
 | some k=>
  have hlt:∀ {o:Obj},w.heap[b]?=some o→b < w.heap.size:=fun h=>(Array.getElem?_eq_some_iff.1 h).1
  have:=hr.blk n k hk
  cases k with
  | cells cs=>obtain ⟨b',c,te,h1,h2,_⟩:=this; rw [hx] at h1; simp at h1; subst h1; simp [blkOf] at hb; subst hb; exact hlt h2
  | row t l=>
   rcases this with ⟨h1,_⟩ | ⟨b',cap,c,te,h1,h2,_⟩
   ·rw [hx] at h1; simp at h1; subst h1; simp [blkOf] at hb
   ·rw [hx] at h1; simp at h1; subst h1; simp [blkOf] at hb; subst hb; exact hlt h2
theorem HRel.wrote (hr:HRel G ν S B hp w) {n b:Nat} {k':Blk G.T} {x:Value} {c':Array Value} {te:TypeId} {w':World} (hn:hp n ≠ none) (hx:ν n=some x) (hb:blkOf x=some b)
  (hw:Wrote w w' b c' te) (hk:Rb G ν S w'.heap n k'):HRel G ν S B (fun m=>if n=m then some k' else hp m) w':=by
 have hS:¬ S b:=(hr.own n x b hn hx hb).1;have le:Le ν ν S S w.heap w'.heap:=⟨fun _ _ h=>h,fun _ h=>h,fun b' hb'=>hw.there b' (fun e=>hS (e ▸ hb'))⟩
 have alive:∀ m,(if n=m then some k' else hp m) ≠ none→hp m ≠ none:=by
  intro m hm;by_cases e:n=m
  ·exact e ▸ hn
  ·simpa [e] using hm
 refine ⟨fun m k hm=>?_,fun m m' y y' b' h1 h2 h3 h4 h5 h6=>hr.apart m m' y y' b' (alive m h1) (alive m' h2) h3 h4 h5 h6,
  fun m y b' h1 h2 h3=>hr.own m y b' (alive m h1) h2 h3,fun b' hb'=>by rw [hw.size]; exact hr.stay b' hb',hr.gl.mono (fun _ h=>h) le.hp⟩
 by_cases e:n=m
 ·subst e; simp at hm; subst hm; exact hk
 ·simp [e] at hm
  refine (hr.blk m k hm).mono le fun y b' hy hb'=>hw.there b' (fun e'=>e ?_)
  subst e';exact (hr.apart m n y x b' (by simp [hm]) hn hy hx hb' hb).symm
theorem condS {α:Type} {b:Bool} {x y:α} (h:(bif b then some x else none)=some y):b=true∧some x=some y:=by
 cases b with
 | true=>exact ⟨rfl,h⟩
 | false=>cases h
theorem nxh' {P:Program} (ok:SigOK P G) (hr:HRel G ν S B hp w) {c:Cv G.T} {v:Value} (hv:Rc G ν S w.heap c v) {new:List (Cv G.T)} {vs:List Value} (hnew:F2 (Rc G ν S w.heap) new vs)
  {n:Nat} {k':Blk G.T} (h:poke hp new c=some (n,k')) :
  ∃ b off w' x,v=.pointer (some ⟨b,off,none⟩)∧(storeCells ⟨b,off,none⟩ vs).run P w=.ok () w'∧hp n ≠ none∧ν n=some x∧blkOf x=some b ∧
   (∃ c' te,Wrote w w' b c' te)∧HRel G ν S B (fun m=>if n=m then some k' else hp m) w':=by
 have hone:∀ u ∈ vs,u.oneCell'=true:=by
  intro u hu;obtain ⟨i,hi,e⟩:=List.getElem_of_mem hu;have hi':i < new.length:=by rw [hnew.1]; exact hi
  exact n9j' (hnew.2 i _ u (List.getElem?_eq_getElem hi') (by rw [List.getElem?_eq_getElem hi,e]))
 have hS:∀ {b:Nat} {x:Value} {m:Nat},hp m ≠ none→ν m=some x→blkOf x=some b→∀ {w':World} {c':Array Value} {te:TypeId},Wrote w w' b c' te→Le ν ν S S w.heap w'.heap:=by
  intro b x m hm hx hb w' c' te hw;exact ⟨fun _ _ h=>h,fun _ h=>h,fun b' hb'=>hw.there b' (fun e=>(hr.own m x b hm hx hb).1 (e ▸ hb'))⟩
 cases c with
 | ptr m off=>
  simp only [poke] at h;split at h
  ·rename_i ds hd
   split at h
   ·rename_i ds' hs
    obtain ⟨hnp,h⟩:=condS h;simp at h; obtain ⟨rfl,rfl⟩:=h;obtain ⟨b,c,te,h1,h2,h3,_⟩:=hr.blk m _ hd;obtain ⟨b',h4,rfl⟩:=hv;simp only at h4;rw [h1] at h4; simp at h4; subst h4;obtain ⟨s1,s2,s3⟩:=nfv' _ _ _ _ hs;have hl:=h3.1;have hl2:=hnew.1;obtain ⟨w',c',hrun,hw,hcs,hc⟩:=ngg' (P:=P) (off:=off) vs 0 w c h2 (by simp at hl; omega) hone
    have hm:hp m ≠ none:=by rw [hd]; simp
    have le:=hS hm h1 rfl hw;refine ⟨b,off,w',_,rfl,hrun,hm,h1,rfl,⟨c',te,hw⟩,hr.wrote hm h1 rfl hw ⟨b,c',te,h1,hw.here,?_,fun m' t' hm'=>absurd (List.all_eq_true.1 hnp _ hm') (by simp [notNp])⟩⟩
    refine ⟨by simp at hl ⊢; omega,fun i x y hx hy=>?_⟩
    rw [s3 i] at hx;simp at hy;rw [hc i] at hy;by_cases hi:off≤i∧i < off + new.length
    ·rw [if_pos hi] at hx
     rw [if_pos (by omega)] at hy
     exact (hnew.2 _ x y hx (by simpa using hy)).mono le
    ·rw [if_neg hi] at hx
     rw [if_neg (by omega)] at hy
     exact (h3.2 i x y hx (by simpa using hy)).mono le
   ·simp at h
  ·simp at h
 | pd m off s len i=>
  simp only [poke] at h;split at h
  ·rename_i ds hd
   split at h
   ·rename_i ds' hs
    obtain ⟨hnp,h⟩:=condS h;simp at h; obtain ⟨rfl,rfl⟩:=h;obtain ⟨b,c,te,h1,h2,h3,_⟩:=hr.blk m _ hd;obtain ⟨hil,b',h4,rfl⟩:=hv;simp only at h4;rw [h1] at h4; simp at h4; subst h4;have hl:=h3.1;have hl2:=hnew.1
    have key:∀ (qs:List Nat) (es:List (Cv G.T)),nt2' ds off s i new qs=some es →
      es.length=ds.length∧(i ∈ qs→off + i * s + new.length≤ds.length)∧∀ j,es[j]?=if i ∈ qs∧off + i * s≤j∧j < off + i * s + new.length then new[j - (off + i * s)]? else ds[j]?:=by
     intro qs
     induction qs with
     | nil=>intro es he; simp [nt2'] at he; subst he; simp
     | cons q qs ih=>
      intro es he;simp only [nt2'] at he;split at he
      ·rename_i es' he'
       obtain ⟨i1,i2,i3⟩:=ih es' he';split at he
       ·rename_i old hold
        split at he
        ·rename_i l hl'
         obtain ⟨p1,p2,p3⟩:=nko' hold;obtain ⟨m1,m2⟩:=nbh' _ _ hl';obtain ⟨s1,s2,s3⟩:=nfv' _ _ _ _ he;have hlen:l.length=new.length:=by simp [p1] at m1; omega
         have hlv:∀ j,j < new.length→l[j]?=if i=q then new[j]? else old[j]?:=by
          intro j hj;have hz:(new.zip old)[j]?=some (new[j],old[j]):=by simp [hj,p1]
          obtain ⟨y,hy,hf⟩:=m2 j _ hz
          have:=ny3' hf
          rw [hy,this];by_cases e:i=q
          ·simp [e,hj]
          ·have hbf:Nat.beq i q=false:=by cases hb:Nat.beq i q with | false=>rfl | true=>exact absurd (nw'.1 hb) e
           simp [hbf,e,p1,hj]
         refine ⟨by omega,fun hi=>?_,fun j=>?_⟩
         ·rcases List.mem_cons.1 hi with rfl | hi
          ·rw [i1] at p2; exact p2
          ·exact i2 hi
         ·rw [s3 j,hlen]
          by_cases hj:off + q * s≤j∧j < off + q * s + new.length
          ·rw [if_pos hj,hlv _ (by omega)]
           by_cases e:i=q
           ·subst e
            rw [if_pos rfl,if_pos ⟨by simp,hj⟩]
           ·rw [if_neg e,p3 _ (by omega),i3,show off + q * s + (j - (off + q * s))=j by omega]
            simp [e]
          ·rw [if_neg hj,i3]
           by_cases e:i=q
           ·subst e
            rw [if_neg (by intro h; exact hj ⟨h.2.1,h.2.2⟩),if_neg (by intro h; exact hj ⟨h.2.1,h.2.2⟩)]
           ·simp [e]
        ·simp at he
       ·simp at he
      ·simp at he
    obtain ⟨k1,k2,k3⟩:=key _ _ hs;have himem:i ∈ upTo len:=by simp only [nrw',List.mem_range]; exact hil
    obtain ⟨w',c',hrun,hw,hcs,hc⟩:=ngg' (P:=P) (off:=off + i * s) vs 0 w c h2 (by have:=k2 himem; simp at hl; omega) hone
    have hm:hp m ≠ none:=by rw [hd]; simp
    have le:=hS hm h1 rfl hw;refine ⟨b,off + i * s,w',_,rfl,hrun,hm,h1,rfl,⟨c',te,hw⟩,hr.wrote hm h1 rfl hw ⟨b,c',te,h1,hw.here,?_,fun m' t' hm'=>absurd (List.all_eq_true.1 hnp _ hm') (by simp [notNp])⟩⟩
    refine ⟨by simp at hl ⊢; omega,fun j x y hx hy=>?_⟩
    rw [k3 j] at hx;simp at hy;rw [hc j] at hy;by_cases hi:off + i * s≤j∧j < off + i * s + new.length
    ·rw [if_pos ⟨himem,hi⟩] at hx
     rw [if_pos (by omega)] at hy
     exact (hnew.2 _ x y hx (by simpa using hy)).mono le
    ·rw [if_neg (by intro h; exact hi h.2)] at hx
     rw [if_neg (by omega)] at hy
     exact (h3.2 j x y hx (by simpa using hy)).mono le
   ·simp at h
  ·simp at h
 | pr m t i off=>
  simp only [poke] at h;split at h
  ·rename_i t' l hd
   rw [nbn'] at h;by_cases ht:t=t'
   ·subst ht
    rw [if_pos rfl] at h;split at h
    ·rename_i cs' hs
     split at h
     ·rename_i x' hx'
      simp at h; obtain ⟨rfl,rfl⟩:=h;obtain ⟨b,len,cap,h4,hi,rfl⟩:=hv;rcases hr.blk m _ hd with ⟨h1,h2⟩ | ⟨b',cap',c,te,h1,h2,h3,hsz,h5⟩
      ·rw [h1] at h4; simp at h4
      ·rw [h1] at h4; simp at h4
       obtain ⟨rfl,rfl,rfl⟩:=h4;have he:=ok.encdec _ _ _ hx';obtain ⟨s1,s2,s3⟩:=nfv' _ _ _ _ hs;have hel:=ok.encl t (l.getD i (G.dfl t));have hl2:=hnew.1
       have hroom:i * G.sz t + off + 0 + vs.length≤c.size:=by
        rw [hsz]
        have:(i + 1) * G.sz t≤cap' * G.sz t:=Nat.mul_le_mul_right _ (by omega)
        rw [Nat.add_mul] at this; omega
       obtain ⟨w',c',hrun,hw,hcs,hc⟩:=ngg' (P:=P) (off:=i * G.sz t + off) vs 0 w c h2 hroom hone;have hm:hp m ≠ none:=by rw [hd]; simp
       have le:=hS hm h1 rfl hw;refine ⟨b',i * G.sz t + off,w',_,rfl,hrun,hm,h1,rfl,⟨c',te,hw⟩,hr.wrote hm h1 rfl hw (.inr ⟨b',cap',c',te,by simpa using h1,hw.here,by simpa using h3,by rw [hcs,hsz],?_,h5.2⟩)⟩
       intro i' j x cv hx hcv;have hel':=ok.encl t x;have hj:j < (G.enc t x).length:=(List.getElem?_eq_some_iff.1 hcv).1;rw [hc];rw [List.getElem?_set] at hx;by_cases hii:i=i'
       ·subst hii
        simp [hi] at hx;subst hx;rw [he,s3] at hcv;by_cases hjn:off≤j∧j < off + new.length
        ·rw [if_pos hjn] at hcv
         rw [if_pos (by omega)]
         obtain ⟨y,hy,hr'⟩:=hnew.get hcv;refine ⟨y,by rw [show i * G.sz t + j - (i * G.sz t + off + 0)=j - off by omega]; exact hy,?_⟩
         exact (n2j' ok (t:=t) (x:=x') (by rw [he]; exact List.mem_of_getElem? (by rw [s3,if_pos hjn]; exact hcv)) hr').mono le.st le.hp
        ·rw [if_neg hjn] at hcv
         rw [if_neg (by omega)]
         obtain ⟨v,hv,hrd⟩:=h5.1 i j (l.getD i (G.dfl t)) cv (by simp [hi]) hcv
         exact ⟨v,hv,hrd.mono le.st le.hp⟩
       ·rw [if_neg hii] at hx
        obtain ⟨v,hv,hrd⟩:=h5.1 i' j x cv hx hcv;refine ⟨v,?_,hrd.mono le.st le.hp⟩;rw [if_neg ?_]
        ·exact hv
        ·rcases Nat.lt_or_gt_of_ne hii with h' | h'
         ·have:(i + 1) * G.sz t≤i' * G.sz t:=Nat.mul_le_mul_right _ h'
          rw [Nat.add_mul] at this; omega
         ·have:(i' + 1) * G.sz t≤i * G.sz t:=Nat.mul_le_mul_right _ h'
          rw [Nat.add_mul] at this; omega
     ·simp at h
    ·simp at h
   ·rw [if_neg ht] at h; simp at h
  ·simp at h
 | sc v=>simp [poke] at h
 | own m=>simp [poke] at h
 | ro t l=>simp [poke] at h
 | rp t x off=>simp [poke] at h
 | clo f p q=>simp [poke] at h
 | np n t=>simp [poke] at h
 | sa n o l=>simp [poke] at h
end
end Go.Ab
namespace Go.Ab
variable {G:Sig}
theorem nu3' {T:Nat→Type} {cs:List (Cv T)} (h:cs.all notNp=true) {m t:Nat} (hm:Cv.np m t ∈ cs):False:=by
 have:=List.all_eq_true.1 h _ hm
 simp [notNp] at this
theorem n93' {n t m t':Nat} (_hz:∀ v ∈ G.zero t,isSc v=true) (hm:Cv.np m t' ∈ np0' G n t):m=n∧t=t':=by
 have hz0:Cv.np m t' ∉ zeros G t:=fun h=>by
  unfold zeros at h;obtain ⟨v,_,e⟩:=List.mem_map.1 h;cases e
 unfold np0' at hm;cases hs:selfP G t with
 | false=>rw [hs] at hm; exact absurd hm hz0
 | true=>
  rw [hs,cond_true] at hm;generalize zeros G t=l at hm hz0;unfold n2v' at hm;split at hm
  ·simp only [List.mem_cons] at hm hz0
   rcases hm with h | h
   ·cases h; exact ⟨rfl,rfl⟩
   ·exact absurd (.inr h) hz0
  ·exact absurd hm hz0
theorem n8e' {ν:Nat→Option Value} {S:Nat→Prop} {h:Array Obj} {n t:Nat} {vs:List Value} (hF:F2 (Rc G ν S h) (zeros G t) vs):F2 (Rc G ν S h) (np0' G n t) vs:=by
 unfold np0';cases hs:selfP G t with
 | false=>exact hF
 | true=>
  rw [cond_true];generalize zeros G t=l at hF;unfold n2v';split
  ·obtain ⟨y,r,rfl,h1,h2⟩:=hF.inv
   have h1':Rd G S h (.sc (.pointer none)) y:=h1;cases h1';exact .cons (.inl rfl) h2
  ·exact hF
def Runs (P:Program) (G:Sig) (ρ:Operand→Value) (o:Oper) (ν:Nat→Option Value) (S B:Nat→Prop) (h:Nat→Option (Blk G.T)) (w:World) (out:Out G):Prop:=
 ∃ nx w' v ν' S',(execOp ρ o).run P w=.ok nx w'∧(nx=.value v∨(nx=.skip∧v=undef))∧Post G ν S B h w out (appD h out.d) ν' S' w' v
theorem nbfs' {S:Nat→Prop} {h:Array Obj} {t:Nat} {x:G.T t} {off:Nat} {v:Value} (r:Rd G S h (.rp t x off) v):∃ b o,v=.pointer (some ⟨b,o,none⟩):=by
 cases r; exact ⟨_,_,rfl⟩
section
variable {P:Program} {ν:Nat→Option Value} {S B:Nat→Prop} {h:Nat→Option (Blk G.T)} {w:World} {ρ:Operand→Value} {o:Oper}
theorem Post.pure (hr:HRel G ν S B h w) {out:Out G} (hd:out.d=[]) {v:Value} (hv:∀ s,out.v=some s→Rs G ν S w.heap s v) :
  Post G ν S B h w out (appD h out.d) ν S w v:=
 ⟨fun _ _ h=>h,fun _ h=>.inl h,fun _ h=>h,fun _ h=>.inl h,by rw [hd]; exact hr,hv,Nat.le_refl _,fun _ _ _=>rfl,rfl,rfl,rfl⟩
theorem Runs.value (hr:HRel G ν S B h w) {out:Out G} (hd:out.d=[]) {v:Value} (hrun:(execOp ρ o).run P w=.ok (.value v) w) (hv:∀ s,out.v=some s→Rs G ν S w.heap s v) :
  Runs P G ρ o ν S B h w out:=
 ⟨_,w,v,ν,S,hrun,.inl rfl,Post.pure hr hd hv⟩
theorem Runs.outP (hr:HRel G ν S B h w) {x:Pv G.T} {v:Value} (hrun:(execOp ρ o).run P w=.ok (.value v) w) (hv:Rp G ν S w.heap x v) :
  Runs P G ρ o ν S B h w (outP x):=
 Runs.value hr rfl hrun fun s hs=>by simp [Ab.outP] at hs; subst hs; exact .p _ _ hv
theorem Runs.outV (hr:HRel G ν S B h w) {v:Value} (hrun:(execOp ρ o).run P w=.ok (.value v) w) (hv:isSc v=true) :
  Runs P G ρ o ν S B h w (Ab.outV v):=
 Runs.outP hr hrun (.one _ _ (.sc v hv))
def ext (ν:Nat→Option Value) (nm:Nat) (x:Value):Nat→Option Value:=fun n=>if n=nm then some x else ν n
theorem nw9' {nm:Nat} {x:Value} (hν:ν nm=none):∀ n y,ν n=some y→ext ν nm x n=some y:=by
 intro n y hy;unfold ext;by_cases e:n=nm
 ·subst e; rw [hν] at hy; simp at hy
 ·simp [e,hy]
theorem n58' {nm:Nat} {x:Value}:∀ n,ext ν nm x n ≠ none→ν n ≠ none∨n ∈ [nm]:=by
 intro n hn;unfold ext at hn;by_cases e:n=nm
 ·exact .inr (by simp [e])
 ·simp [e] at hn; exact .inl hn
theorem nbt' {nm:Nat} {x:Value}:ext ν nm x nm=some x:=by simp [ext]
theorem HRel.add (hr:HRel G ν S B h w) {nm:Nat} {x:Value} {k:Blk G.T} {w':World} (hν:ν nm=none)
  (hsame:∀ b,b < w.heap.size→(S b∨∃ m y,h m ≠ none∧ν m=some y∧blkOf y=some b)→w'.heap[b]?=w.heap[b]?) (hsize:w.heap.size≤w'.heap.size)
  (hnew:∀ b,blkOf x=some b→¬ S b∧B b∧∀ m y,h m ≠ none→ν m=some y→blkOf y ≠ some b)
  (hk:Rb G (ext ν nm x) S w'.heap nm k):HRel G (ext ν nm x) S B (fun m=>if nm=m then some k else h m) w':=by
 have le:Le ν (ext ν nm x) S S w.heap w'.heap:=⟨nw9' hν,fun _ h=>h,fun b hb=>hsame b (hr.stay b hb) (.inl hb)⟩
 have old:∀ m,nm ≠ m→∀ y,ext ν nm x m=some y→ν m=some y:=by
  intro m hm y hy; unfold ext at hy; rwa [if_neg (Ne.symm hm)] at hy
 refine ⟨fun m k' hm=>?_,fun m m' y y' b h1 h2 h3 h4 h5 h6=>?_,fun m y b h1 h2 h3=>?_,fun b hb=>Nat.lt_of_lt_of_le (hr.stay b hb) hsize,hr.gl.mono (fun _ h=>h) le.hp⟩
 ·by_cases e:nm=m
  ·subst e; simp at hm; subst hm; exact hk
  ·simp [e] at hm
   exact (hr.blk m k' hm).mono le fun y b hy hb=>hsame b (hr.lt (by simp [hm]) hy hb) (.inr ⟨m,y,by simp [hm],hy,hb⟩)
 ·by_cases e:nm=m
  ·subst e
   by_cases e':nm=m'
   ·exact e'
   ·rw [nbt'] at h3; simp at h3; subst h3
    simp [e'] at h2;exact absurd h6 ((hnew b h5).2.2 m' y' h2 (old m' e' y' h4))
  ·simp [e] at h1
   by_cases e':nm=m'
   ·subst e'
    rw [nbt'] at h4; simp at h4; subst h4;exact absurd h5 ((hnew b h6).2.2 m y h1 (old m e y h3))
   ·simp [e'] at h2
    exact hr.apart m m' y y' b h1 h2 (old m e y h3) (old m' e' y' h4) h5 h6
 ·by_cases e:nm=m
  ·subst e
   rw [nbt'] at h2; simp at h2; subst h2;exact ⟨(hnew b h3).1,(hnew b h3).2.1⟩
  ·simp [e] at h1
   exact hr.own m y b h1 (old m e y h2) h3
theorem HRel.sub (hr:HRel G ν S B h w) {h':Nat→Option (Blk G.T)} (hs:∀ m,h' m ≠ none→h' m=h m):HRel G ν S B h' w:=by
 have al:∀ m,h' m ≠ none→h m ≠ none:=fun m hm=>by rw [← hs m hm]; exact hm
 exact ⟨fun n k hk=>hr.blk n k (by rw [← hs n (by simp [hk])]; exact hk),fun n m x y b h1 h2=>hr.apart n m x y b (al n h1) (al m h2),fun n x b h1=>hr.own n x b (al n h1),hr.stay,hr.gl⟩
theorem Post.alloc (hr:HRel G ν S B h w) (hB:∀ b,w.heap.size≤b→B b) {nm:Nat} (hν:ν nm=none) {out:Out G} {c:Array Value} {te:TypeId} {x:Value} {k:Blk G.T}
  (hd:out.d=[(nm,some k)]) (hn:out.nw=[nm]) (hx:blkOf x=some w.heap.size) {w':World} (hheap:w'.heap=w.heap.push (.cells c te)) (henv:w'.os=w.os∧w'.tape=w.tape∧w'.output=w.output)
  (hk:Rb G (ext ν nm x) S (w.heap.push (.cells c te)) nm k) {v:Value}
  (hv:∀ s,out.v=some s→Rs G (ext ν nm x) S (w.heap.push (.cells c te)) s v):Post G ν S B h w out (appD h out.d) (ext ν nm x) S w' v:=by
 have hold:∀ b,b < w.heap.size→w'.heap[b]?=w.heap[b]?:=fun b hb=>by rw [hheap,Array.getElem?_push,if_neg (Nat.ne_of_lt hb)]
 refine ⟨nw9' hν,by rw [hn]; exact n58',fun _ h=>h,fun _ h=>.inl h,?_,by rw [hheap]; exact hv,by rw [hheap]; simp,fun b hb _=>hold b hb,henv⟩
 rw [hd];refine hr.add hν (fun b hb _=>hold b hb) (by rw [hheap]; simp) (fun b hb=>?_) (by rw [hheap]; exact hk)
 rw [hx] at hb; simp at hb; subst hb;refine ⟨fun hS=>absurd (hr.stay _ hS) (Nat.lt_irrefl _),hB _ (Nat.le_refl _),fun m y hm hy e=>absurd (hr.lt hm hy e) (Nat.lt_irrefl _)⟩
theorem nze' (o:Obj) {nm:Nat} {x:Value} (hr:HRel G ν S B h w) (hν:ν nm=none):Le ν (ext ν nm x) S S w.heap (w.heap.push o):=
 ⟨nw9' hν,fun _ h=>h,fun b hb=>by rw [Array.getElem?_push,if_neg (Nat.ne_of_lt (hr.stay b hb))]⟩
variable (ok:SigOK P G) {ev:Operand→Option (Sv G.T)} (hev:∀ x s,ev x=some s→Rs G ν S w.heap s (ρ x)) (hr:HRel G ν S B h w) (hB:∀ b,w.heap.size≤b→B b)
 {cf:CallF G} {nm:Nat} {out:Out G} (hfresh:∀ n ∈ out.nw,ν n=none)
include hev
theorem rpOf {x:Operand} {y:Pv G.T} (hx:ev x=some (.p y)):Rp G ν S w.heap y (ρ x):=by
 have:=hev x _ hx
 cases this with
 | p _ _ h=>exact h
theorem rcOf {x:Operand} {y:Cv G.T} (hx:ev x=some (.p (.one y))):Rc G ν S w.heap y (ρ x):=by
 have:=rpOf hev hx
 cases this with
 | one _ _ h=>exact h
theorem scOf {x:Operand} {v:Value} (hx:ev x=some (.p (.one (.sc v)))):ρ x=v∧isSc v=true:=by
 have h:Rd G S w.heap (.sc v) (ρ x):=rcOf hev hx;generalize ρ x=u at h;cases h with
 | sc _ hv=>exact ⟨rfl,hv⟩
include hr
theorem n09' {x:Operand} (ho:o.op=.move x∨o.op=.assign x) (hact:aMove ev x (Out G) some=some out):Runs P G ρ o ν S B h w out:=by
 unfold aMove at hact;split at hact
 ·rename_i s hs
  simp at hact; subst hact;refine Runs.value hr rfl (v:=ρ x) ?_ (fun s' hs'=>by simp at hs'; subst hs'; exact hev x _ hs)
  rcases ho with e | e <;> (unfold execOp; rw [e]; rfl)
 ·simp at hact
theorem n9q' {c x y:Operand} (ho:o.op=.pick c x y) (hact:aPick ev c x y (Out G) some=some out):Runs P G ρ o ν S B h w out:=by
 unfold aPick at hact;obtain ⟨b,hb,hact⟩:=bindB hact;have hact:=M.split_spec (M.bind_spec hact);unfold aMove at hact;split at hact
 ·rename_i s hs
  simp at hact; subst hact;have hρ:=(scOf hev hb).1;refine Runs.value hr rfl (v:=if b then ρ x else ρ y) ?_ (fun s' hs'=>by simp at hs'; subst hs'; cases b <;> exact hev _ _ hs)
  unfold execOp; rw [ho];simp only [Sem.run_bind,hρ,asBool,Sem.run_pure,Result.andThen_ok]
 ·simp at hact
include ok
theorem n9z' {t:Nat} {x:Operand} (ho:o.op=.load t x) (hact:aLoad ev h t x (Out G) some=some out):Runs P G ρ o ν S B h w out:=by
 unfold aLoad at hact;obtain ⟨c,hc,hact⟩:=bindC hact;obtain ⟨cs,hcs,hact⟩:=M.bindopt hact;obtain ⟨x',hx',hact⟩:=M.bindopt hact;simp [M.ret] at hact; subst hact;obtain ⟨b,off,vs,hv,hf,hlen,hcell⟩:=nyj' ok hr hcs (rcOf hev hc)
 have hno:G.ty t ≠ .no:=by
  intro e;rw [ok.nosz t e] at hlen
  have:cs=[]:=by have:=hf.1; rw [hlen] at this; exact List.eq_nil_of_length_eq_zero this
  subst this;simp [pack,e,Ty.isAgg] at hx'
 refine Runs.value hr rfl (v:=if (G.ty t).isAgg then .agg vs.toArray else vs.getD 0 undef) ?_ (fun s hs=>by simp at hs; subst hs; exact .p _ _ (nnl' hx' hf))
 have hload:(loadCells ⟨b,off,none⟩ vs.length).run P w=.ok vs.toArray w:=run_loadCells_list (P:=P) w ⟨b,off,none⟩ vs (fun j v hj=>by rw [nfj']; exact hcell j v hj)
 unfold execOp; rw [ho];simp only [Instr.loadAt,hv,Instr.sureAddr,loadVar,Sem.run_bind,Sem.run_pure,Result.andThen_ok,ok.isAgg w hno];cases ha:(G.ty t).isAgg with
 | true=>
  simp only [if_true,Sem.run_bind,ok.sizeOf w hno,Result.andThen_ok,← hlen,hload,Sem.run_pure]
 | false=>
  have hone:vs.length=1:=by
   simp only [pack,ha,cond_false] at hx';split at hx'
   ·have:=hf.1; simpa using this.symm
   ·simp at hx'
  obtain ⟨u,rfl⟩:∃ u,vs=[u]:=List.length_eq_one_iff.1 hone;have hu:=hcell 0 u rfl;simp only [Nat.add_zero] at hu;simp [hu]
theorem n48' {t:Nat} {x y:Operand} (ho:o.op=.store t x y) {c:Cv G.T} (hc:ev x=some (.p (.one c))) {x':Pv G.T} (hx':ev y=some (.p x')) (hsz:(Nat.beq x'.cells.length (G.sz t)&&!isNo (G.ty t))=true)
  (hact:nok' h c x'.cells (Out G) some=some out):Runs P G ρ o ν S B h w out:=by
 unfold nok' at hact;obtain ⟨⟨n,k'⟩,hp,hact⟩:=M.bindopt hact;simp [M.ret] at hact; subst hact;have hnew:=np6' (rpOf hev hx');obtain ⟨b,off,w',xx,hv,hrun,hn,hνn,hb,⟨c',te,hw⟩,hrel⟩:=nxh' ok hr (rcOf hev hc) hnew hp
 have hsize:(ρ y).cells.size=G.sz t:=by
  have:=hnew.1
  simp at hsz;rw [hsz.1] at this;simpa using this.symm
 have hno:G.ty t ≠ .no:=by
  intro e;simp [e,isNo] at hsz
 refine ⟨.skip,w',undef,ν,S,?_,.inr ⟨rfl,rfl⟩,⟨fun _ _ h=>h,fun _ h=>.inl h,fun _ h=>h,fun _ h=>.inl h,hrel,fun s hs=>by simp at hs,by rw [hw.size]; exact Nat.le_refl _,
  fun b' hb' hnot=>hw.there b' (fun e=>hnot n xx hn hνn (e ▸ hb)),hw.env⟩⟩
 unfold execOp; rw [ho];simp only [Instr.storeAt,hv,Instr.sureAddr,storeVar,Sem.run_bind,Sem.run_pure,Result.andThen_ok,ok.sizeOf w hno,hsize];simp [hrun]
include hB hfresh
omit hev in
theorem n7i' {t:Nat} (ho:o.op=.alloc t) (hact:nue' nm t (Out G) some=some out):Runs P G ρ o ν S B h w out:=by
 unfold nue' at hact;have hno:G.ty t ≠ .no:=by intro e; simp [e,M.fail] at hact
 have hact':some (⟨some (.p (.one (.ptr nm 0))),[(nm,some (.cells (np0' G nm t)))],[nm],[]⟩:Out G)=some out:=by
  cases hty:G.ty t <;> simp only [hty] at hact <;> first | exact absurd hty hno | exact hact
 simp at hact'; subst hact';obtain ⟨z,hz,hzc⟩:=ok.zeroV w hno;refine ⟨.value (.pointer (some ⟨w.heap.size,0,none⟩)),{ w with heap:=w.heap.push (.cells z.cells t) },_,ext ν nm (.pointer (some ⟨w.heap.size,0,none⟩)),S,?_,.inl rfl,?_⟩
 ·unfold execOp; rw [ho]
  simp [Instr.alloc,hz,newVar,newRow]
 ·have hν:=hfresh nm (by simp)
  refine Post.alloc (k:=.cells (np0' G nm t)) (c:=z.cells) (te:=t) (w':={ w with heap:=w.heap.push (.cells z.cells t) }) hr hB hν rfl rfl rfl rfl ⟨rfl,rfl,rfl⟩ ⟨w.heap.size,z.cells,t,nbt',by simp,?_,fun m t' hm=>n93' (ok.zsc t) hm⟩ fun s hs=>?_
  ·rw [hzc]
   have hz0:F2 (Rc G (ext ν nm (.pointer (some ⟨w.heap.size,0,none⟩))) S (w.heap.push (.cells z.cells t))) (zeros G t) (G.zero t):=
    F2.map_left ⟨rfl,fun i x y hx hy=>by rw [hx] at hy; simp at hy; subst hy; exact .sc _ (ok.zsc t x (List.mem_of_getElem? hx))⟩
   exact n8e' hz0
  ·simp at hs; subst hs
   exact .p _ _ (.one _ _ ⟨w.heap.size,nbt',rfl⟩)
omit ok
theorem nbeq' {t:Nat} {x:Operand} (ho:o.op=.box t x) (hact:aBox ev nm x (Out G) some=some out):Runs P G ρ o ν S B h w out:=by
 unfold aBox at hact;obtain ⟨y,hy,hact⟩:=bindP hact;obtain ⟨hnp,hact⟩:=M.bindneed hact;simp [M.ret] at hact; subst hact;have hν:=hfresh nm (by simp)
 have hc:=np6' (rpOf hev hy);refine ⟨.value (.pointer (some ⟨w.heap.size,0,none⟩)),{ w with heap:=w.heap.push (.cells (ρ x).cells t) },_,ext ν nm (.pointer (some ⟨w.heap.size,0,none⟩)),S,?_,.inl rfl,?_⟩
 ·unfold execOp; rw [ho]
  simp [Instr.box,newVar,newRow]
 ·refine Post.alloc (k:=.cells y.cells) (c:=(ρ x).cells) (te:=t) (w':={ w with heap:=w.heap.push (.cells (ρ x).cells t) }) hr hB hν rfl rfl rfl rfl ⟨rfl,rfl,rfl⟩ ⟨w.heap.size,(ρ x).cells,t,nbt',by simp,?_,fun m t' hm=>(nu3' hnp hm).elim⟩ fun s hs=>?_
  ·exact hc.mono fun _ _=>Rc.mono (nze' _ hr hν)
  ·simp at hs; subst hs
   exact .p _ _ (.one _ _ ⟨w.heap.size,nbt',rfl⟩)
omit hB hfresh
theorem nbdc' {x:Operand} (ho:o.op=.nilCheck x) (hact:aNil ev x (Out G) some=some out):Runs P G ρ o ν S B h w out:=by
 unfold aNil at hact;obtain ⟨c,hc,hact⟩:=bindC hact;obtain ⟨hp,hact⟩:=M.bindneed hact;simp [M.ret] at hact; subst hact;have hrc:=rcOf hev hc;refine Runs.outP hr (v:=ρ x) ?_ (.one _ _ hrc);unfold execOp; rw [ho];cases c with
 | ptr n off=>obtain ⟨b,_,e⟩:=hrc; simp [e]
 | pd n off s len i=>obtain ⟨_,b,_,e⟩:=hrc; simp [e]
 | pr n t i off=>obtain ⟨b,len,cap,_,_,e⟩:=hrc; simp [e]
 | clo f p q=>obtain ⟨vp,vq,e,_⟩:=hrc; simp [e]
 | rp t' x' off=>obtain ⟨b,o',e⟩:=nbfs' hrc; simp [e]
 | _=>simp [isP] at hp
theorem n3e' {x:Operand} {i:Nat} (ho:o.op=.extract x i) (hact:nic' ev x i (Out G) some=some out):Runs P G ρ o ν S B h w out:=by
 unfold nic' at hact;split at hact
 ·rename_i xs hx
  split at hact
  ·rename_i y hy
   simp at hact; subst hact
   have:=hev x _ hx
   generalize hu:ρ x=u at this;cases this with
   | tup _ vs hvs=>
    obtain ⟨v,hv,hr'⟩:=hvs.get hy;refine Runs.outP hr (v:=v) ?_ hr';unfold execOp; rw [ho];simp only [hu,Instr.extract];simp [hv]
  ·simp at hact
 ·simp at hact
end
end Go.Ab
namespace Go.Ab
variable {G:Sig}
section
variable {P:Program} {ν:Nat→Option Value} {S B:Nat→Prop} {h:Nat→Option (Blk G.T)} {w:World} {ρ:Operand→Value} {o:Oper}
variable (ok:SigOK P G) {ev:Operand→Option (Sv G.T)} (hev:∀ x s,ev x=some s→Rs G ν S w.heap s (ρ x)) (hr:HRel G ν S B h w) (hB:∀ b,w.heap.size≤b→B b)
 {cf:CallF G} {nm:Nat} {out:Out G} (hfresh:∀ n ∈ out.nw,ν n=none)
theorem n34' {d:Nat} {c c':Cv G.T} (hs:nhl' d c=some c') {v:Value} (hv:Rc G ν S w.heap c v) :
  ∃ b off,v=.pointer (some ⟨b,off,none⟩)∧Rc G ν S w.heap c' (.pointer (some ⟨b,off + d,none⟩)):=by
 cases c with
 | ptr n off=>simp [nhl'] at hs; subst hs; obtain ⟨b,h1,rfl⟩:=hv; exact ⟨b,off,rfl,b,h1,rfl⟩
 | pd n off s len i=>
  simp [nhl'] at hs; subst hs;obtain ⟨hi,b,h1,rfl⟩:=hv;exact ⟨b,off + i * s,rfl,hi,b,h1,by simp only [Value.pointer.injEq,Option.some.injEq,Addr.mk.injEq,and_true,true_and]; omega⟩
 | pr n t i off=>
  simp [nhl'] at hs; subst hs;obtain ⟨b,len,cap,h1,hi,rfl⟩:=hv;exact ⟨b,i * G.sz t + off,rfl,b,len,cap,h1,hi,by rw [Nat.add_assoc]⟩
 | rp t x off=>
  simp [nhl'] at hs; subst hs;cases hv with
  | rp _ _ _ b base c te fz vs hS hb hc hrd=>exact ⟨b,base + off,rfl,by rw [Nat.add_assoc]; exact .rp t x (off + d) b base c te fz vs hS hb hc hrd⟩
 | sc v=>simp [nhl'] at hs
 | own m=>simp [nhl'] at hs
 | ro t l=>simp [nhl'] at hs
 | clo f p q=>simp [nhl'] at hs
 | np n t=>simp [nhl'] at hs
 | sa n o l=>simp [nhl'] at hs
include ok in
theorem n4m' {t f:Nat} {fs:List (Nat×Nat)} (ht:G.ty t=.st fs) {o:Nat×Nat} (hf:fs[f]?=some o) :
  ∃ fields fld,P.underlying t=some (.struct fields)∧fields[f]?=some fld∧fld.offset=o.1∧fld.type=o.2∧G.ty o.2 ≠ .no:=by
 obtain ⟨fields,h1,h2,h3⟩:=ok.strc t fs ht;rw [← h2] at hf;rw [List.getElem?_map] at hf;cases hq:fields.toList[f]? with
 | none=>simp [hq] at hf
 | some fld=>
  simp [hq] at hf;refine ⟨fields,fld,h1,by simpa using hq,by rw [← hf],by rw [← hf],?_⟩
  refine h3 o.1 o.2 ?_;rw [← h2];exact List.mem_map.2 ⟨fld,List.mem_of_getElem? hq,by rw [← hf]⟩
include hev
omit hev in
theorem nkp' {i:Int} {n:Nat} (hb:inB i n=true):0≤i∧i < n:=by simpa [inB] using hb
include hr
include ok in
theorem nzp' {t f:Nat} {x:Operand} (ho:o.op=.fieldAddr t x f) (hact:nfm' ev t x f (Out G) some=some out):Runs P G ρ o ν S B h w out:=by
 unfold nfm' at hact;cases ht:G.ty t with
 | st fs=>
  simp only [ht] at hact;obtain ⟨c,hc,hact⟩:=bindC hact;obtain ⟨o',hf,hact⟩:=M.bindopt hact;obtain ⟨c',hs,hact⟩:=M.bindopt hact;simp [M.ret] at hact; subst hact;obtain ⟨b,off,hv,hrc⟩:=n34' hs (rcOf hev hc);obtain ⟨fields,fld,h1,h2,h3,h4,h5⟩:=n4m' ok ht hf;refine Runs.outP hr (v:=.pointer (some ⟨b,off + o'.1,none⟩)) ?_ (.one _ _ hrc);have hpos:=ok.pos _ h5;unfold execOp; rw [ho];simp only [Instr.fieldAt,Sem.run_bind,run_underlying h1 w,Result.andThen_ok,h2,hv,Instr.sureAddr,Sem.run_pure,fieldPlace,h4,ok.sizeOf w h5,h3,nfj'];rw [if_neg (by omega)]
  rfl
 | _=>simp [ht,M.fail] at hact
include ok in
theorem n8b' {t f:Nat} {x:Operand} (ho:o.op=.field t x f) (hact:noe' ev t x f (Out G) some=some out):Runs P G ρ o ν S B h w out:=by
 unfold noe' at hact;cases ht:G.ty t with
 | st fs=>
  simp only [ht] at hact;obtain ⟨c,hc,hact⟩:=bindP hact;have hrp:=rpOf hev hc;generalize hu:ρ x=u at hrp;cases hrp with
  | one c v hc'=>simp [nxj',M.fail] at hact
  | agg ds vs hf2=>
  simp only [nxj'] at hact;obtain ⟨o',hf,hact⟩:=M.bindopt hact;obtain ⟨cs,hcs,hact⟩:=M.bindopt hact;obtain ⟨y,hy,hact⟩:=M.bindopt hact;simp [M.ret] at hact; subst hact;obtain ⟨fields,fld,h1,h2,h3,h4,h5⟩:=n4m' ok ht hf;obtain ⟨p1,p2,p3⟩:=nko' hcs;have hlen:=hf2.1
  have hF:F2 (Rc G ν S w.heap) cs ((vs.drop o'.1).take (G.sz o'.2)):=by
   refine ⟨by simp; omega,fun i a b ha hb=>?_⟩
   have hi:i < G.sz o'.2:=by have:=(List.getElem?_eq_some_iff.1 ha).1; omega
   rw [p3 i hi] at ha;rw [List.getElem?_take_of_lt hi,List.getElem?_drop] at hb;exact hf2.2 _ a b ha hb
  refine Runs.outP hr (v:=if (G.ty o'.2).isAgg then .agg ((vs.drop o'.1).take (G.sz o'.2)).toArray else ((vs.drop o'.1).take (G.sz o'.2)).getD 0 undef) ?_ (nnl' hy hF)
  unfold execOp; rw [ho];simp only [Instr.field,Sem.run_bind,run_underlying h1 w,Result.andThen_ok,h2,hu,asAgg,Sem.run_pure,Go.part,h4,ok.isAgg w h5];cases ha:(G.ty o'.2).isAgg with
  | true=>
   simp only [if_true,Sem.run_bind,ok.sizeOf w h5,Result.andThen_ok,h3];simp
  | false=>
   have hpos:=ok.pos _ h5;have hlt:o'.1 < vs.length:=by omega
   rw [List.getD,List.getElem?_take_of_lt hpos];simp [h3,hlt]
 | _=>simp [ht,M.fail] at hact
end
end Go.Ab
