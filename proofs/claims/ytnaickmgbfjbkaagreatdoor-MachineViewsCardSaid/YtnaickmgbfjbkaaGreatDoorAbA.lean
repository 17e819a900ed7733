import Derived.WalkKit
set_option linter.all false
open Option renaming some->C,none->D
open Bool renaming true->H,false->I
open Nat renaming beq->J
open BitVec renaming ofInt->aA
namespace Go
variable{p:Prop}
def ω(h:p:=by omega):p:=h
def τ(h:p:=by decide):p:=h
def σ(h:p:=by simp):p:=h
def κ(h:p:=by kernel_rfl):p:=h
end Go
namespace Go
def a_:type_of% @Option.bind_some:=@Option.bind_some
def b_:type_of% @decide_eq_true:=@decide_eq_true
def c_:type_of% @cond_false:=@cond_false
def d_:type_of% @cond_true:=@cond_true
def e_:type_of% @Bool.and_eq_true:=@Bool.and_eq_true
def f_:type_of% @decide_eq_false:=@decide_eq_false
def g_:type_of% @List.getElem?_eq_some_iff:=@List.getElem?_eq_some_iff
def h_:type_of% @List.length_append:=@List.length_append
def i_:type_of% @Int.toNat_natCast:=@Int.toNat_natCast
def j_:type_of% @List.getElem?_eq_getElem:=@List.getElem?_eq_getElem
def k_:type_of% @Nat.zero_add:=@Nat.zero_add
def l_:type_of% @Bool.true_and:=@Bool.true_and
def m_:type_of% @Bool.not_true:=@Bool.not_true
def n_:type_of% @List.getD_eq_getElem?_getD:=@List.getD_eq_getElem?_getD
def o_:type_of% @of_decide_eq_true:=@of_decide_eq_true
def p_:type_of% @List.mem_of_getElem?:=@List.mem_of_getElem?
def q_:type_of% @Go.Result.andThen_ok:=@Go.Result.andThen_ok
def r_:type_of% @Array.getD_eq_getD_getElem?:=@Array.getD_eq_getD_getElem?
def s_:type_of% @beq_self_eq_true:=@beq_self_eq_true
def t_:type_of% @List.getElem?_take_of_lt:=@List.getElem?_take_of_lt
def u_:type_of% @List.mem_append:=@List.mem_append
def v_:type_of% @List.mem_cons:=@List.mem_cons
def w_:type_of% @List.length_take:=@List.length_take
def x_:type_of% @Array.getElem?_eq_some_iff:=@Array.getElem?_eq_some_iff
def y_:type_of% @List.nil_append:=@List.nil_append
def z_:type_of% @Go.Sem.run_bind:=@Go.Sem.run_bind
def A_:type_of% @Go.run_underlying:=@Go.run_underlying
def B_:type_of% @Nat.mul_le_mul_right:=@Nat.mul_le_mul_right
def C_:type_of% @List.all_eq_true:=@List.all_eq_true
def D_:type_of% @Option.some.inj:=@Option.some.inj
def E_:type_of% @List.length_set:=@List.length_set
def F_:type_of% @Nat.le_of_ble_eq_true:=@Nat.le_of_ble_eq_true
def G_:type_of% @Nat.zero_le:=@Nat.zero_le
def H_:type_of% @Nat.le_refl:=@Nat.le_refl
def I_:type_of% @Int.lt_irrefl:=@Int.lt_irrefl
def J_:type_of% @List.length_replicate:=@List.length_replicate
def K_:type_of% @of_decide_eq_false:=@of_decide_eq_false
def L_:type_of% @bne_self_eq_false:=@bne_self_eq_false
def M_:type_of% @List.append_assoc:=@List.append_assoc
def N_:type_of% @List.length_cons:=@List.length_cons
def O_:type_of% @List.drop_zero:=@List.drop_zero
def P_:type_of% @List.eq_nil_of_length_eq_zero:=@List.eq_nil_of_length_eq_zero
def Q_:type_of% @List.mem_cons_of_mem:=@List.mem_cons_of_mem
def R_:type_of% @decide_eq_true_eq:=@decide_eq_true_eq
def S_:type_of% @Bool.false_and:=@Bool.false_and
def T_:type_of% @Nat.add_assoc:=@Nat.add_assoc
def U_:type_of% @List.all_cons:=@List.all_cons
def V_:type_of% @Bool.and_self:=@Bool.and_self
def W_:type_of% @List.mem_cons_self:=@List.mem_cons_self
def X_:type_of% @List.length_drop:=@List.length_drop
def Y_:type_of% @List.drop_length:=@List.drop_length
def Z_:type_of% @ByteArray.size_append:=@ByteArray.size_append
def a0_:type_of% @Nat.add_mul:=@Nat.add_mul
def a1_:type_of% @List.flatMap_cons:=@List.flatMap_cons
def a2_:type_of% @Int.le_refl:=@Int.le_refl
def a3_:type_of% @beq_iff_eq:=@beq_iff_eq
def a4_:type_of% @Go.Sem.run_pure:=@Go.Sem.run_pure
def a5_:type_of% @Bool.not_eq_true':=@Bool.not_eq_true'
def a6_:type_of% @Array.getElem?_eq_getElem:=@Array.getElem?_eq_getElem
def a7_:type_of% @Bool.not_false:=@Bool.not_false
def a8_:type_of% @List.length_singleton:=@List.length_singleton
def a9_:type_of% @Bool.and_false:=@Bool.and_false
def b0_:type_of% @Bool.or_eq_true:=@Bool.or_eq_true
def b1_:type_of% @Nat.add_sub_cancel_left:=@Nat.add_sub_cancel_left
def b2_:type_of% @List.mem_map:=@List.mem_map
def b3_:type_of% @List.append_nil:=@List.append_nil
def b4_:type_of% @List.mem_flatMap:=@List.mem_flatMap
def b5_:type_of% @List.toList_toArray:=@List.toList_toArray
def b6_:type_of% @Nat.add_zero:=@Nat.add_zero
def b7_:type_of% @List.getElem?_map:=@List.getElem?_map
def b8_:type_of% @List.getElem?_drop:=@List.getElem?_drop
def b9_:type_of% @List.getElem?_append_right:=@List.getElem?_append_right
def c0_:type_of% @List.getElem?_append_left:=@List.getElem?_append_left
def c1_:type_of% @Nat.mul_one:=@Nat.mul_one
def c2_:type_of% @Nat.eq_of_beq_eq_true:=@Nat.eq_of_beq_eq_true
def c3_:type_of% @List.mem_iff_getElem?:=@List.mem_iff_getElem?
def c4_:type_of% @Bool.and_true:=@Bool.and_true
def c5_:type_of% @Nat.lt_of_lt_of_le:=@Nat.lt_of_lt_of_le
def c6_:type_of% @Bool.false_or:=@Bool.false_or
def c7_:type_of% @Option.some.injEq:=@Option.some.injEq
def c8_:type_of% @Nat.min_eq_left:=@Nat.min_eq_left
def c9_:type_of% @List.singleton_append:=@List.singleton_append
def d0_:type_of% @List.range'_succ:=@List.range'_succ
def d1_:type_of% @List.mem_singleton:=@List.mem_singleton
def d2_:type_of% @Bool.not_eq_false':=@Bool.not_eq_false'
def d3_:type_of% @Nat.add_comm:=@Nat.add_comm
def d4_:type_of% @List.map_cons:=@List.map_cons
def d5_:type_of% @Go.cell_of_row:=@Go.cell_of_row
def d6_:type_of% @Array.toArray_toList:=@Array.toArray_toList
def d7_:type_of% @List.length_map:=@List.length_map
def d8_:type_of% @Nat.le_trans:=@Nat.le_trans
def d9_:type_of% @BitVec.toNat_ofInt:=@BitVec.toNat_ofInt
def e0_:type_of% @Ne.symm:=@Ne.symm
def e1_:type_of% @List.pairwise_cons:=@List.pairwise_cons
def e2_:type_of% @Option.map_some:=@Option.map_some
def e3_:type_of% @Array.getElem?_setIfInBounds:=@Array.getElem?_setIfInBounds
def e4_:type_of% @Array.getElem?_modify:=@Array.getElem?_modify
def e5_:type_of% @List.mem_of_mem_take:=@List.mem_of_mem_take
def e6_:type_of% @List.mem_of_mem_drop:=@List.mem_of_mem_drop
def e7_:type_of% @List.getElem?_append:=@List.getElem?_append
def e8_:type_of% @Int.tmod_eq_emod_of_nonneg:=@Int.tmod_eq_emod_of_nonneg
def e9_:type_of% @Nat.mul_comm:=@Nat.mul_comm
def f0_:type_of% @List.not_mem_nil:=@List.not_mem_nil
def f1_:type_of% @List.getElem_mem:=@List.getElem_mem
def f2_:type_of% @Array.toList_map:=@Array.toList_map
end Go
namespace Go.Ab
def get{α:Type}:List (Nat×α)->Nat->Option α
 |[],_=>D
 |(k,v)::t,n=>bif J k n then C v else get t n
def del{α:Type}:List (Nat×α)->Nat->List (Nat×α)
 |[],_=>[]
 |(k,v)::t,n=>bif J k n then del t n else(k,v)::del t n
def put{α:Type}(l:List (Nat×α))(n:Nat)(x:α):List (Nat×α):=(n,x)::del l n
def has:List Nat->Nat->Bool
 |[],_=>I
 |k::t,n=>bif J k n then H else has t n
def M(α:Type):Type 1:=∀R:Type,(α->Option R)->Option R
namespace M
def ret{α:Type}(a:α):M α:=λ_ k=>k a
def bind{α β:Type}(m:M α)(f:α->M β):M β:=λR k=>m R λa=>f a R k
def fail{α:Type}:M α:=λ_ _=>D
def split(b:Bool):M Bool:=λ_ k=>bif b then k H else k I
def need(b:Bool):M Unit:=λ_ k=>bif b then k ()else D
def opt{α:Type}(o:Option α):M α:=λ_ k=>match o with|some a=>k a|none=>D
def val{α:Type}(m:M α):Option α:=m α C
def pick{α:Type}(k:Nat->M α)(i:Nat):Nat->Nat->M α
 |_,0=>M.fail
 |q,n+1=>M.bind (M.split (J i q)) λb=>match b with
  |true=>k q
  |false=>pick k i (q+1) n
instance:Monad M:={ pure:=ret,bind:=bind }
end M
inductive Cv(T:Nat->Type) where
 |sc (v:Value)
 |ptr (n off:Nat)
 |pd (n off s len i:Nat)
 |pr (n t i off:Nat)
 |own (n:Nat)
 |ro (t:Nat) (l:List (T t))
 |rp (t:Nat) (x:T t) (off:Nat)
 |clo (f:Nat) (fst caps:List (Nat×Nat))
 |np (n t:Nat)
 |sa (n off len:Nat)
inductive Pv(T:Nat->Type) where
 |one (c:Cv T)
 |agg (cs:List (Cv T))
inductive Sv(T:Nat->Type) where
 |p (x:Pv T)
 |tup (xs:List (Pv T))
inductive Blk(T:Nat->Type) where
 |cells (cs:List (Cv T))
 |row (t:Nat) (l:List (T t))
inductive Ty where
 |no|bool|int (k:IntKind)|flt (k:FloatKind)|str|sl (e:Nat)|pt (e:Nat)|fn
 |st (fs:List (Nat×Nat))|arr (n e:Nat)
def Ty.isAgg:Ty->Bool
 |.st _|.arr _ _=>H
 |_=>I
structure Sig where
 T:Nat->Type
 ty:Nat->Ty
 sz:Nat->Nat
 zero:Nat->List Value
 enc:(t:Nat)->T t->List (Cv T)
 dec:(t:Nat)->List (Cv T)->Option (T t)
 dfl:(t:Nat)->T t
 flat:Nat->Bool
 gl:Nat->Option ((t:Nat)×T t):=λ_=>none
 ext:Nat->Nat:=λ_=>0
 loose:Nat->Bool:=λ_=>true
variable{G:Sig}
def Pv.cells{T:Nat->Type}:Pv T->List (Cv T)
 |.one c=>[c]
 |.agg cs=>cs
def ZO(op:BinOp)(x y:Int):Option Bool:=
 match op with
 |.eql=>C (x==y)
 |.neq=>C (x !=y)
 |.lss=>C (decide (x<y))
 |.leq=>C (decide (x<=y))
 |.gtr=>C (decide (x>y))
 |.geq=>C (decide (x≥y))
 |_=>D
def stk(x y:Int)(r:Nat):Int:=match x,y with
 |.ofNat _,.ofNat _=>(r:Int)
 |.ofNat _,.negSucc _=>(r:Int)
 |.negSucc _,.ofNat _=>(r:Int)
 |.negSucc _,.negSucc _=>(r:Int)
def Um(x y:Int)(r:Nat):stk x y r=(r:Int):=by cases x<;>cases y<;>rfl
def Atn(op:BinOp)(k:IntKind)(x y:Int):Option Int:=
 match op with
 |.and=>C (k.wrap (stk x y (aA k.bits x&&&aA k.bits y).toNat))
 |.or=>C (k.wrap (stk x y (aA k.bits x|||BitVec.ofInt k.bits y).toNat))
 |.xor=>C (k.wrap (stk x y (aA k.bits x^^^aA k.bits y).toNat))
 |.andNot=>C (k.wrap (stk x y (aA k.bits x&&& ~~~aA k.bits y).toNat))
 |_=>D
def eqB(x y:ByteArray):Bool:=x.toList==y.toList
def ltB(x y:ByteArray):Bool:=Op.bytesLess x.toList y.toList
def Blc(op:BinOp)(k:FloatKind)(x y:Nat):Option Bool:=
 match op with
 |.eql=>C (k.format.order x y==C .eq)
 |.neq=>C (k.format.order x y !=C .eq)
 |.lss=>C (k.format.order x y==C .lt)
 |.leq=>C (k.format.order x y==C .lt||k.format.order x y==C .eq)
 |.gtr=>C (k.format.order x y==C .gt)
 |.geq=>C (k.format.order x y==C .gt||k.format.order x y==C .eq)
 |_=>D
def arG(op:BinOp)(k:FloatKind)(x y:Nat):Option Nat:=
 match op with
 |.add=>k.format.add x y
 |.sub=>k.format.sub x y
 |.mul=>k.format.mul x y
 |.quo=>k.format.div x y
 |_=>D
def arF(op:BinOp)(k:FloatKind)(x y:Nat):Option Nat:=match x,y with
 |0,0=>arG op k 0 0
 |0,y+1=>arG op k 0 (y+1)
 |x+1,0=>arG op k (x+1) 0
 |x+1,y+1=>arG op k (x+1) (y+1)
def Bjo(op:BinOp)(k:FloatKind)(x y:Nat):arF op k x y=arG op k x y:=by cases x<;>cases y<;>rfl
def Agq(k:FloatKind)(n:Int):Nat:=match n with
 |.ofNat _=>k.nearest n
 |.negSucc _=>k.nearest n
def Bc4(k:FloatKind)(n:Int):Agq k n=k.nearest n:=by cases n<;>rfl
def shI(op:BinOp)(k:IntKind)(x y:Int):Option Int:=
 match op with
 |.shl=>C (k.wrap (x*2^min y.toNat k.bits))
 |.shr=>C (x.fdiv (2^min y.toNat k.bits))
 |_=>D
def Dd:IntKind->IntKind->Bool
 |.i8,.i8|.i16,.i16|.i32,.i32|.i64,.i64|.u8,.u8|.u16,.u16|.u32,.u32|.u64,.u64=>H
 |_,_=>I
def Pd:FloatKind->FloatKind->Bool
 |.f32,.f32|.f64,.f64=>H
 |_,_=>I
def Bu(s:ByteArray)(i:Nat):Int:=((s.data.getD i 0).toNat:Int)
def Rf(op:BinOp)(k:IntKind)(a:Int)(k':IntKind)(b:Int):M Value:=
 match op with
 |.shl|.shr=>M.bind (M.need (decide (0<=b))) λ_=>M.bind (M.opt (shI op k a b)) λr=>M.ret (.int k r)
 |.add=>M.bind (M.need (Dd k k')) λ_=>M.ret (.int k (k.wrap (a+b)))
 |.sub=>M.bind (M.need (Dd k k')) λ_=>M.ret (.int k (k.wrap (a-b)))
 |.mul=>M.bind (M.need (Dd k k')) λ_=>M.ret (.int k (k.wrap (a*b)))
 |.quo=>M.bind (M.need (Dd k k')) λ_=>M.bind (M.need (b !=0)) λ_=>M.ret (.int k (k.wrap (a.tdiv b)))
 |.rem=>M.bind (M.need (Dd k k')) λ_=>M.bind (M.need (b !=0)) λ_=>M.ret (.int k (a.tmod b))
 |.and|.or|.xor|.andNot=>M.bind (M.need (Dd k k')) λ_=>M.bind (M.opt (Atn op k a b)) λr=>M.ret (.int k r)
 |_=>M.bind (M.need (Dd k k')) λ_=>M.bind (M.opt (ZO op a b)) λr=>M.ret (.bool r)
def Afm(op:BinOp)(k:FloatKind)(a:Nat)(k':FloatKind)(b:Nat):M Value:=
 match op with
 |.add|.sub|.mul|.quo=>M.bind (M.need (Pd k k')) λ_=>M.bind (M.opt (arF op k a b)) λr=>M.ret (.float k r)
 |_=>M.bind (M.need (Pd k k')) λ_=>M.bind (M.opt (Blc op k a b)) λr=>M.ret (.bool r)
def Afn(op:BinOp)(a b:ByteArray):M Value:=
 match op with
 |.add=>M.bind (M.need (Nat.ble (a.size+b.size) 4611686018427387904)) λ_=>M.ret (.string (a++b))
 |.eql=>M.ret (.bool (eqB a b))
 |.neq=>M.ret (.bool (!eqB a b))
 |.lss=>M.ret (.bool (ltB a b))
 |.leq=>M.ret (.bool (ltB a b||eqB a b))
 |.gtr=>M.ret (.bool (!(ltB a b||eqB a b)))
 |.geq=>M.ret (.bool (!ltB a b))
 |_=>M.fail
def bin(op:BinOp)(x y:Value):M Value:=
 match x,y with
 |.int k a,.int k' b=>Rf op k a k' b
 |.float k a,.float k' b=>Afm op k a k' b
 |.string a,.string b=>Afn op a b
 |_,_=>M.fail
def eqV:Value->Value->Option Bool
 |.int k a,.int k' b=>bif Dd k k' then C (a==b)else D
 |.bool a,.bool b=>C (a==b)
 |.string a,.string b=>C (eqB a b)
 |.float k a,.float k' b=>bif Pd k k' then C (k.format.order a b==C .eq)else D
 |_,_=>D
def Fu{T:Nat->Type}:List (Cv T)->List (Cv T)->Option Bool
 |[],[]=>C H
 |.sc a::as,.sc b::bs=>
  match eqV a b,Fu as bs with
  |some x,C y=>C (x&&y)
  |_,_=>D
 |_,_=>D
def intOf:Value->Int
 |.int _ n=>n
 |_=>0
def TF{T:Nat->Type}(k:IntKind):List (Cv T)->Option (List Int)
 |[]=>C []
 |.sc (.int k' n)::t=>bif Dd k k' then match TF k t with|some l=>C (n::l)|none=>D else D
 |_=>D
def PT{T:Nat->Type}:List (Cv T)->Option (List Bool)
 |[]=>C []
 |.sc (.bool n)::t=>match PT t with|some l=>C (n::l)|none=>D
 |_=>D
def TG{T:Nat->Type}:List (Cv T)->Option (List ByteArray)
 |[]=>C []
 |.sc (.string n)::t=>match TG t with|some l=>C (n::l)|none=>D
 |_=>D
def Ahf{T:Nat->Type}(l:List (Cv T))(i:Nat):Option (Cv T):=
 match l with
 |.sc (.int k _)::_=>match TF k l with|some ns=>C (.sc (.int k (ns.getD i 0)))|none=>D
 |.sc (.bool _)::_=>match PT l with|some ns=>C (.sc (.bool (ns.getD i I)))|none=>D
 |.sc (.string _)::_=>match TG l with|some ns=>C (.sc (.string (ns.getD i ⟨#[]⟩)))|none=>D
 |_=>l[i]?
def Al3{T:Nat->Type}(b:Bool)(c d:Cv T):Option (Cv T):=
 match c,d with
 |.sc (.int k x),.sc (.int k' y)=>bif Dd k k' then C (.sc (.int k (bif b then x else y)))else D
 |.sc (.bool x),.sc (.bool y)=>C (.sc (.bool (bif b then x else y)))
 |.sc (.string x),.sc (.string y)=>C (.sc (.string (bif b then x else y)))
 |_,_=>bif b then C c else C d
def LX{α:Type}:Nat->List α->Option (List α)
 |0,_=>C []
 |_+1,[]=>D
 |n+1,x::t=>match LX n t with|some l=>C (x::l)|none=>D
def MV{α:Type}:Nat->List α->Option (List α)
 |0,l=>C l
 |_+1,[]=>D
 |n+1,_::t=>MV n t
def part{α:Type}(cs:List α)(off n:Nat):Option (List α):=match MV off cs with|some l=>LX n l|none=>D
def IH{α:Type}:List α->Nat->List α->Option (List α)
 |cs,0,[]=>C cs
 |[],0,_::_=>D
 |_::t,0,x::new=>match IH t 0 new with|some l=>C (x::l)|none=>D
 |[],_+1,_=>D
 |c::t,n+1,new=>match IH t n new with|some l=>C (c::l)|none=>D
def Cq{α β:Type}(f:α->Option β):List α->Option (List β)
 |[]=>C []
 |a::t=>match f a,Cq f t with|some b,C l=>C (b::l)|_,_=>D
def Qf:Nat->List Nat
 |0=>[]
 |n+1=>Qf n++[n]
def Gw(h:Nat->Option (Blk G.T))(n:Nat):Cv G.T->Option (List (Cv G.T))
 |.ptr b off=>match h b with
  |some (.cells cs)=>part cs off n
  |_=>D
 |.pd b off s len i=>match h b with
  |some (.cells cs)=>Cq (λj=>match Cq (λq=>cs[off+q*s+j]?) (Qf len)with|some l=>Ahf l i|none=>D) (Qf n)
  |_=>D
 |.pr b t i off=>match h b with
  |some (.row t' l)=>bif J t t' then part (G.enc t' (l.getD i (G.dfl t'))) off n else D
  |_=>D
 |.rp t x off=>part (G.enc t x) off n
 |_=>D
def Aaq{T:Nat->Type}(cs:List (Cv T))(off s i:Nat)(new:List (Cv T)):List Nat->Option (List (Cv T))
 |[]=>C cs
 |q::qs=>match Aaq cs off s i new qs with
  |some cs'=>match part cs' (off+q*s) new.length with
   |some old=>match Cq (λp=>Al3 (J i q) p.1 p.2) (new.zip old)with
    |some l=>IH cs' (off+q*s) l
    |none=>D
   |none=>D
  |none=>D
def ST{T:Nat->Type}:Cv T->Bool
 |.np _ _=>I
 |_=>H
def ID(h:Nat->Option (Blk G.T))(new:List (Cv G.T)):Cv G.T->Option (Nat×Blk G.T)
 |.ptr b off=>match h b with
  |some (.cells cs)=>match IH cs off new with|some cs'=>bif cs'.all ST then C (b,.cells cs')else D|none=>D
  |_=>D
 |.pd b off s len i=>match h b with
  |some (.cells cs)=>match Aaq cs off s i new (Qf len)with|some cs'=>bif cs'.all ST then C (b,.cells cs')else D|none=>D
  |_=>D
 |.pr b t i off=>match h b with
  |some (.row t' l)=>bif J t t' then
    match IH (G.enc t' (l.getD i (G.dfl t'))) off new with
    |some cs'=>match G.dec t' cs' with|some x=>C (b,.row t' (l.set i x))|none=>D
    |none=>D
   else D
  |_=>D
 |_=>D
def JR{T:Nat->Type}(d:Nat):Cv T->Option (Cv T)
 |.ptr b off=>C (.ptr b (off+d))
 |.pd b off s len i=>C (.pd b (off+d) s len i)
 |.pr b t i off=>C (.pr b t i (off+d))
 |.rp t x off=>C (.rp t x (off+d))
 |_=>D
def isP{T:Nat->Type}:Cv T->Bool
 |.ptr .. | .pd .. | .pr .. | .rp .. | .clo ..=>H
 |_=>I
def RR(G:Sig)(t:Nat)(cs:List (Cv G.T)):Option (Pv G.T):=bif(G.ty t).isAgg then C (.agg cs)else match cs with|[c]=>C (.one c)|_=>D
end Go.Ab
namespace Go.Ab
structure Out(G:Sig) where
 v:Option (Sv G.T)
 d:List (Nat×Option (Blk G.T))
 nw:List Nat
 rd:List Nat
structure St(G:Sig) where
 tm:List (Nat×Sv G.T)
 hp:List (Nat×Blk G.T)
 us:List Nat
def BW(G:Sig):Type 1:=Nat->List (Pv G.T)->(Nat->Option (Blk G.T))->Nat->M (Out G)
variable{G:Sig}
def outP(x:Pv G.T):Out G:=⟨C (.p x),[],[],[]⟩
def outV(v:Value):Out G:=outP (.one (.sc v))
def Cv.rds{T:Nat->Type}:Cv T->List Nat
 |.ptr n _|.pd n _ _ _ _|.pr n _ _ _|.own n=>[n]
 |.sa n _ _=>[n]
 |_=>[]
def Pb(G:Sig)(t t':Nat)(l:List (G.T t)):Option (List (G.T t')):=if h:t=t' then C (h▸l)else D
def GA(h:Nat->Option (Blk G.T))(e:Nat):Cv G.T->Option (List (G.T e))
 |.sc (.slice D 0 0)=>C []
 |.own n=>match h n with|some (.row t l)=>Pb G t e l|_=>D
 |.ro t l=>Pb G t e l
 |_=>D
def Al8{T:Nat->Type}:Pv T->Option (Nat×Nat)
 |.one (.ptr n off)=>C (n,off)
 |_=>D
def Aer{T:Nat->Type}(a:Nat×Nat):Pv T:=.one (.ptr a.1 a.2)
def Aoc:Nat:=2147483648
section
variable(cf:BW G)(ev:Operand->Option (Sv G.T))(h:Nat->Option (Blk G.T))(nm:Nat)
def evP(x:Operand):M (Pv G.T):=λ_ k=>match ev x with|some (.p y)=>k y|_=>D
def evC(x:Operand):M (Cv G.T):=λ_ k=>match ev x with|some (.p (.one c))=>k c|_=>D
def evI(x:Operand):M (IntKind×Int):=λ_ k=>match ev x with|some (.p (.one (.sc (.int d n))))=>k (d,n)|_=>D
def evB(x:Operand):M Bool:=λ_ k=>match ev x with|some (.p (.one (.sc (.bool b))))=>k b|_=>D
def TS:List Operand->M (List (Pv G.T))
 |[]=>M.ret []
 |x::t=>M.bind (evP ev x) λy=>M.bind (TS t) λl=>M.ret (y::l)
def EO(d:Nat)(m:Nat):Option Operand->M Nat
 |none=>M.ret d
 |some x=>M.bind (evI ev x) λi=>M.bind (M.need (decide (0<=i.2)&&decide (i.2<=(m:Int)))) λ_=>M.ret i.2.toNat
def XI(place:Nat->Option (Nat×Nat))(cells:List (Cv G.T)):List (Nat×Pv G.T)->Option (List (Cv G.T))
 |[]=>C cells
 |(i,v)::rest=>match place i with
  |some (off,size)=>bif J v.cells.length size then
    match IH cells off v.cells with|some cs=>XI place cs rest|none=>D
   else D
  |none=>D
def Hc:List (Nat×Operand)->M (List (Nat×Pv G.T))
 |[]=>M.ret []
 |(i,x)::t=>M.bind (evP ev x) λy=>M.bind (Hc t) λl=>M.ret ((i,y)::l)
def BF(G:Sig)(e:Nat):Nat->List (Cv G.T)->Option (List (G.T e))
 |0,[]=>C []
 |0,_::_=>D
 |n+1,cs=>match LX (G.sz e) cs,MV (G.sz e) cs with
  |some a,C b=>match G.dec e a,BF G e n b with
   |some x,C l=>C (x::l)
   |_,_=>D
  |_,_=>D
def Rl:Value->Bool
 |.slice D 0 0=>H
 |_=>I
def LQ:List Nat->List (Nat×Option (Blk G.T))
 |[]=>[]
 |n::t=>(n,D)::LQ t
def Ail(h:Nat->Option (Blk G.T)):Cv G.T->Cv G.T->Option (Cv G.T×List Nat)
 |.ro e _,.own n=>match h n with
  |some (.row t l)=>match Pb G t e l with|some l'=>C (.ro e l',[n])|none=>D
  |_=>D
 |.ro e _,.sc v=>C (bif Rl v then .ro e []else .sc v,[])
 |_,c=>C (c,[])
def Pg(h:Nat->Option (Blk G.T)):List (Cv G.T)->List (Cv G.T)->Option (List (Cv G.T)×List Nat)
 |[],[]=>C ([],[])
 |w::ws,c::cs=>match Ail h w c,Pg h ws cs with|some a,C b=>C (a.1::b.1,a.2++b.2)|_,_=>D
 |_,_=>D
def Bfv(G:Sig)(e:Nat):Nat->List (Cv G.T)
 |0=>[]
 |n+1=>G.enc e (G.dfl e)++Bfv G e n
def Er(G:Sig)(t:Nat):List (Cv G.T):=(G.zero t).map .sc
def Pu(G:Sig)(t:Nat):Nat->List (Cv G.T)
 |0=>[]
 |n+1=>Er G t++Pu G t n
def Aod(e:Nat)(c:Cv G.T):M (Out G):=match c with
 |.sa _ _ n=>M.ret (outV (.int .i64 (n:Int)))
 |c=>M.bind (M.opt (GA h e c)) λl=>M.ret ⟨C (.p (.one (.sc (.int .i64 (l.length:Int))))),[],[],c.rds⟩
def VI(t:Nat)(x:Operand):M (Out G):=match G.ty t with
 |.str=>M.bind (evC ev x) λc=>match c with
  |.sc (.string s)=>M.ret (outV (.int .i64 (s.size:Int)))
  |_=>M.fail
 |.arr n _=>M.ret (outV (.int .i64 (n:Int)))
 |.sl e=>M.bind (evC ev x) λc=>Aod h e c
 |_=>M.fail
def Bfd(G:Sig)(e:Nat)(l:List (G.T e))(cs:List (Cv G.T))(off len:Nat):Option (List (Cv G.T)):=
 match Cq (λj=>match cs[off+j]?,G.enc e (l.getD j (G.dfl e))with
   |some o,[c]=>Al3 (Nat.blt j l.length) c o
   |_,_=>D) (Qf len)with
 |some new=>IH cs off new
 |none=>D
def LM{α:Type}(l l':List α):List α:=l'.take l.length++l.drop l'.length
def Aly(n m:Nat):Int:=bif Nat.ble n m then(n:Int)else(m:Int)
def Abr(_t e:Nat)(l':List (G.T e))(c c':Cv G.T):M (Out G):=match c with
 |.own n=>match h n with
  |some (.row u l)=>M.bind (M.need (J u e&&!has c'.rds n)) λ_=>M.bind (M.opt (Pb G e u l')) λl''=>M.ret ⟨C (.p (.one (.sc (.int .i64 (Aly l'.length l.length))))),[(n,C (.row u (LM l l'')))],[],n::c'.rds⟩
  |_=>M.fail
 |.sa n off len=>match h n with
  |some (.cells cs)=>M.bind (M.need (J (G.sz e) 1&&!has c'.rds n)) λ_=>M.bind (M.opt (Bfd G e l' cs off len)) λcs'=>M.bind (M.need (cs'.all ST)) λ_=>M.ret ⟨C (.p (.one (.sc (.int .i64 (Aly l'.length len))))),[(n,C (.cells cs'))],[],n::c'.rds⟩
  |_=>M.fail
 |_=>M.fail
def QA(t t':Nat)(x y:Operand):M (Out G):=match G.ty t with
 |.sl e=>M.bind (M.need (J t t')) λ_=>M.bind (evC ev x) λc=>M.bind (evC ev y) λc'=>M.bind (M.opt (GA h e c')) λl'=>Abr h t e l' c c'
 |_=>M.fail
def Atk(x y:Operand):M (Out G):=M.bind (evI ev x) λa=>M.bind (evI ev y) λb=>M.bind (M.need (Dd a.1 b.1)) λ_=>M.ret (outV (.int a.1 (bif decide (b.2<a.2)then b.2 else a.2)))
def Atj(x y:Operand):M (Out G):=M.bind (evI ev x) λa=>M.bind (evI ev y) λb=>M.bind (M.need (Dd a.1 b.1)) λ_=>M.ret (outV (.int a.1 (bif decide (a.2<b.2)then b.2 else a.2)))
def Alr(x y z:Operand):M (Out G):=M.bind (evI ev x) λa=>M.bind (evI ev y) λb=>M.bind (evI ev z) λc=>
 M.bind (M.need (Dd a.1 b.1)) λ_=>M.bind (M.need (Dd a.1 c.1)) λ_=>
 M.ret (outV (.int a.1 (bif decide (c.2<(bif decide (b.2<a.2)then b.2 else a.2))then c.2 else(bif decide (b.2<a.2)then b.2 else a.2))))
def Alq(x y z:Operand):M (Out G):=M.bind (evI ev x) λa=>M.bind (evI ev y) λb=>M.bind (evI ev z) λc=>
 M.bind (M.need (Dd a.1 b.1)) λ_=>M.bind (M.need (Dd a.1 c.1)) λ_=>
 M.ret (outV (.int a.1 (bif decide ((bif decide (a.2<b.2)then b.2 else a.2)<c.2)then c.2 else(bif decide (a.2<b.2)then b.2 else a.2))))
def Atf(e:Nat)(l l':List (G.T e))(c c':Cv G.T):M (Out G):=match c with
 |.sc _=>M.ret ⟨C (.p (.one (.own nm))),[(nm,C (.row e (l++l')))],[nm],c'.rds⟩
 |.own n=>M.bind (M.need (!has c'.rds n)) λ_=>M.ret ⟨C (.p (.one (.own nm))),[(n,D),(nm,C (.row e (l++l')))],[nm],n::c'.rds⟩
 |_=>M.fail
def Kd(t t':Nat)(x y:Operand):M (Out G):=match G.ty t with
 |.sl e=>M.bind (M.need (J t t')) λ_=>M.bind (evC ev x) λc=>M.bind (evC ev y) λc'=>
   M.bind (M.opt (GA h e c)) λl=>M.bind (M.opt (GA h e c')) λl'=>
   M.bind (M.need (Nat.ble (l.length+l'.length) Aoc)) λ_=>Atf nm e l l' c c'
 |_=>M.fail
def Az(b:Builtin)(tys:List Nat)(xs:List Operand):M (Out G):=
 match b,tys,xs with
 |.len,t::_,[x]=>VI ev h t x
 |.min,_,[x,y]=>Atk ev x y
 |.max,_,[x,y]=>Atj ev x y
 |.min,_,[x,y,z]=>Alr ev x y z
 |.max,_,[x,y,z]=>Alq ev x y z
 |.append,[t,t'],[x,y]=>Kd ev h nm t t' x y
 |.copy,[t,t'],[x,y]=>QA ev h t t' x y
 |_,_,_=>M.fail
def Qy(x:Operand):M (Out G):=λ_ k=>match ev x with|some s=>k ⟨C s,[],[],[]⟩|none=>D
def UU(c a b:Operand):M (Out G):=M.bind (evB ev c) λc=>M.bind (M.split c) λc=>Qy ev (bif c then a else b)
def Avs(G:Sig)(t:Nat):Bool:=match G.ty t with
 |.st ((_,u)::_)=>match G.ty u with
  |.pt e=>J e t
  |_=>I
 |_=>I
def Aom{T:Nat->Type}(n t:Nat):List (Cv T)->List (Cv T)
 |.sc (.pointer D)::r=>.np n t::r
 |l=>l
def Uv(G:Sig)(n t:Nat):List (Cv G.T):=bif Avs G t then Aom n t (Er G t)else Er G t
def ZB(t:Nat):M (Out G):=match G.ty t with
 |.no=>M.fail
 |_=>M.ret ⟨C (.p (.one (.ptr nm 0))),[(nm,C (.cells (Uv G nm t)))],[nm],[]⟩
def ZD(x:Operand):M (Out G):=M.bind (evP ev x) λx=>M.bind (M.need (x.cells.all ST)) λ_=>M.ret ⟨C (.p (.one (.ptr nm 0))),[(nm,C (.cells x.cells))],[nm],[]⟩
def Agt(G:Sig)(fs:List (Nat×Nat))(i:Nat):Option (Nat×Nat):=match fs[i]? with|some (o,u)=>C (o,G.sz u)|none=>D
def Azn(G:Sig)(e i:Nat):Option (Nat×Nat):=C (i*G.sz e,G.sz e)
def QW(t:Nat)(parts:List (Nat×Operand)):M (Out G):=match G.ty t with
 |.st fs=>M.bind (Hc ev parts) λps=>M.bind (M.opt (XI (Agt G fs) (Er G t) ps)) λcs=>M.ret (outP (.agg cs))
 |.arr _ e=>M.bind (Hc ev parts) λps=>M.bind (M.opt (XI (Azn G e) (Er G t) ps)) λcs=>M.ret (outP (.agg cs))
 |_=>M.fail
def Aaa:Ty->Bool
 |.fn=>H
 |_=>I
def WT(e len:Nat)(cs:List (Cv G.T)):M (Out G):=match Aaa (G.ty e)with
 |true=>M.bind (M.need (cs.all ST)) λ_=>M.ret ⟨C (.p (.one (.sa nm 0 len))),[(nm,C (.cells cs))],[nm],[]⟩
 |false=>M.bind (M.opt (Pg h (Bfv G e len) cs)) λq=>M.bind (M.opt (BF G e len q.1)) λl=>M.ret ⟨C (.p (.one (.own nm))),LQ q.2++[(nm,C (.row e l))],[nm],q.2⟩
def Dk(t len:Nat)(parts:List (Nat×Operand)):M (Out G):=match G.ty t with
 |.sl e=>M.bind (Hc ev parts) λps=>M.bind (M.need (Nat.ble len 65536&&Nat.ble (len*G.sz e) 16777216)) λ_=>M.bind (M.opt (XI (Azn G e) (Pu G e len) ps)) λcs=>WT h nm e len cs
 |_=>M.fail
def Uk{α:Type}(i:Nat)(f:Nat->Option α):List Nat->M α
 |[]=>M.fail
 |q::t=>λR k=>bif J i q then(M.opt (f q):M α) R k else Uk i f t R k
def Abp(h:Nat->Option (Blk G.T)):Cv G.T->Bool
 |.pd b off _ _ _=>match h b with
  |some (.cells cs)=>match cs[off]? with
   |some (.clo _ _ _)=>H
   |_=>I
  |_=>I
 |_=>I
def Vf(h:Nat->Option (Blk G.T))(n:Nat)(c:Cv G.T):M (List (Cv G.T)):=bif Abp h c then match c with
  |.pd b off s len i=>Uk i (λq=>Gw h n (.ptr b (off+q*s))) (Qf len)
  |_=>M.fail
 else M.opt (Gw h n c)
def OY(t:Nat)(a:Operand):M (Out G):=M.bind (evC ev a) λc=>M.bind (Vf h (G.sz t) c) λcs=>M.bind (M.opt (RR G t cs)) λx=>M.ret ⟨C (.p x),[],[],c.rds⟩
def Nu:Ty->Bool
 |.no=>H
 |_=>I
def Rt(c:Cv G.T)(cs:List (Cv G.T)):M (Out G):=M.bind (M.opt (ID h cs c)) λr=>M.ret ⟨D,[(r.1,C r.2)],[],c.rds⟩
def Bn7(G:Sig)(t off n:Nat):List (Cv G.T):=match part (G.enc t (G.dfl t)) off n with
 |some l=>l
 |none=>[]
def Abb(c:Cv G.T)(cs:List (Cv G.T)):M (Out G):=match c with
 |.pr b t i off=>M.bind (M.opt (Pg h (Bn7 G t off cs.length) cs)) λq=>M.bind (M.need (!has q.2 b)) λ_=>M.bind (M.opt (ID h q.1 (.pr b t i off))) λr=>M.ret ⟨D,LQ q.2++[(r.1,C r.2)],[],b::q.2⟩
 |c=>Rt h c cs
def Lc(t:Nat)(a x:Operand):M (Out G):=M.bind (evC ev a) λc=>M.bind (evP ev x) λx=>M.bind (M.need (J x.cells.length (G.sz t)&&!Nu (G.ty t))) λ_=>Abb h c x.cells
def ZE(x:Operand):M (Out G):=M.bind (evC ev x) λc=>M.bind (M.need (isP c)) λ_=>M.ret (outP (.one c))
def Amu(y:Ty)(op:BinOp)(v u:Value):M (Out G):=match y,v,u with
 |.bool,.bool a,.bool b=>match op with
  |.eql=>M.ret (outV (.bool (a==b)))
  |.neq=>M.ret (outV (.bool (!(a==b))))
  |_=>M.fail
 |_,v,u=>M.bind (bin op v u) λr=>M.ret (outV r)
def Bd:Value->Nat
 |.bool _=>1
 |.string _=>2
 |.int k _=>match k with
  |.i8=>3
  |.i16=>4
  |.i32=>5
  |.i64=>6
  |.u8=>7
  |.u16=>8
  |.u32=>9
  |.u64=>10
 |.float k _=>match k with
  |.f32=>11
  |.f64=>12
 |_=>0
def Agf{T:Nat->Type}:Cv T->Nat
 |.sc v=>Bd v
 |_=>0
def GK:List Nat->List Nat->Bool
 |[],[]=>H
 |a::s,b::t=>J a b&&GK s t
 |_,_=>I
def Cp{α:Type}(f:α->Nat):List α->List Nat
 |[]=>[]
 |a::t=>f a::Cp f t
def zk(G:Sig)(t:Nat):List Nat:=Cp Bd (G.zero t)
def XH(G:Sig)(r:Nat->Bool):List (Nat×Nat)->Nat->List Nat->Bool
 |[],_,ks=>GK ks []
 |p::t,off,ks=>J p.1 off&&r p.2&&match LX (G.sz p.2) ks,MV (G.sz p.2) ks with
  |some a,C b=>GK a (zk G p.2)&&XH G r t (off+G.sz p.2) b
  |_,_=>I
def Abu(G:Sig)(e:Nat):Nat->List Nat->Bool
 |0,ks=>GK ks []
 |n+1,ks=>match LX (G.sz e) ks,MV (G.sz e) ks with
  |some a,C b=>GK a (zk G e)&&Abu G e n b
  |_,_=>I
def RP(G:Sig):Nat->Nat->Bool
 |0,_=>I
 |d+1,t=>match G.ty t with
  |.bool=>GK (zk G t) [1]
  |.str=>GK (zk G t) [2]
  |.int k=>GK (zk G t) [Bd (.int k 0)]
  |.st fs=>XH G (RP G d) fs 0 (zk G t)
  |.arr n e=>RP G d e&&Abu G e n (zk G t)
  |_=>I
def Bj4(G:Sig)(t:Nat)(cs ds:List (Cv G.T)):Bool:=RP G 20 t&&GK (Cp Agf cs) (zk G t)&&GK (Cp Agf ds) (zk G t)
def Bk6{T:Nat->Type}(y:Ty)(c:Cv T):Option Bool:=match y,c with
 |.pt _,.ptr _ _=>C I
 |.pt _,.sc (.pointer D)=>C H
 |_,_=>D
def Au1{T:Nat->Type}:Cv T->Bool
 |.sc (.pointer D)=>H
 |_=>I
def Bbx(op:BinOp)(q:Bool):M (Out G):=match op with
 |.eql=>M.ret (outV (.bool q))
 |.neq=>M.ret (outV (.bool (!q)))
 |_=>M.fail
def Bbw(op:BinOp)(t:Nat)(c d:Cv G.T):M (Out G):=bif Au1 d then M.bind (M.opt (Bk6 (G.ty t) c)) λq=>Bbx op q else match c,d with
 |.sc v,.sc u=>Amu (G.ty t) op v u
 |_,_=>M.fail
def Bby(op:BinOp)(t:Nat)(a b:Pv G.T):M (Out G):=match a,b with
 |.one c,.one d=>Bbw op t c d
 |.agg cs,.agg ds=>M.bind (M.need ((G.ty t).isAgg&&Bj4 G t cs ds)) λ_=>M.bind (M.opt (Fu cs ds)) λr=>match op with
  |.eql=>M.ret (outV (.bool r))
  |.neq=>M.ret (outV (.bool (!r)))
  |_=>M.fail
 |_,_=>M.fail
def ZC(op:BinOp)(t:Nat)(x y:Operand):M (Out G):=M.bind (evP ev x) λa=>M.bind (evP ev y) λb=>Bby op t a b
def unP(op:UnOp)(c:Cv G.T):M (Out G):=match op,c with
 |.not,.sc (.bool b)=>M.ret (outV (.bool (!b)))
 |.neg,.sc (.int k n)=>M.ret (outV (.int k (k.wrap (0-n))))
 |.xor,.sc (.int k n)=>M.bind (M.opt (Atn .xor k (if k.signed then -1 else k.max) n)) λr=>M.ret (outV (.int k r))
 |_,_=>M.fail
def aUn(op:UnOp)(x:Operand):M (Out G):=M.bind (evC ev x) λc=>unP op c
def Abq(y:Ty)(c:Cv G.T):M (Out G):=match y,c with
 |.int k,.sc (.int _ n)=>M.ret (outV (.int k (k.wrap n)))
 |.str,.sc (.string s)=>M.ret (outV (.string s))
 |.flt k,.sc (.int _ n)=>M.ret (outV (.float k (Agq k n)))
 |_,_=>M.fail
def u8C{T:Nat->Type}:Cv T->Bool
 |.sc (.int .u8 _)=>H
 |_=>I
def roC{T:Nat->Type}:Cv T->Option Nat
 |.ro t _=>C t
 |_=>D
def Abm{T:Nat->Type}:List (Cv T)->UInt8
 |[.sc (.int _ n)]=>UInt8.ofNat n.toNat
 |_=>0
def Abe(G:Sig)(e:Nat)(l:List (G.T e)):ByteArray:=⟨(l.map λx=>Abm (G.enc e x)).toArray⟩
def Aeq:List Bool->Bool
 |[H]=>H
 |_=>I
def Bke:Ty->Bool
 |.int .u8=>H
 |_=>I
def Agc:Ty->Bool
 |.str=>H
 |_=>I
def OX(s t:Nat)(x:Operand):M (Out G):=M.bind (M.need (!Nu (G.ty s))) λ_=>M.bind (evC ev x) λc=>match G.ty s with
 |.sl e=>bif Agc (G.ty t)then M.bind (M.need (Bke (G.ty e)&&Aeq ((G.enc e (G.dfl e)).map u8C))) λ_=>M.bind (M.opt (GA h e c)) λl=>M.ret ⟨C (.p (.one (.sc (.string (Abe G e l))))),[],[],c.rds⟩
  else Abq (G.ty t) c
 |_=>Abq (G.ty t) c
def UT(f:Nat)(a b:List Operand):M (Out G):=M.bind (TS ev a) λa=>M.bind (TS ev b) λb=>M.bind (M.opt (Cq Al8 a)) λa=>M.bind (M.opt (Cq Al8 b)) λb=>M.ret (outP (.one (.clo f a b)))
def Hx(t:Nat)(n m:Operand):M (Out G):=match G.ty t with
 |.sl e=>M.bind (evI ev n) λn=>M.bind (evI ev m) λm=>
   M.bind (M.need (decide (0<=n.2)&&decide (n.2<=m.2)&&decide (m.2<=(Aoc:Int)))) λ_=>
   M.bind (M.opt (G.dec e (Er G e))) λz=>
   M.ret ⟨C (.p (.one (.own nm))),[(nm,C (.row e (List.replicate n.2.toNat z)))],[nm],[]⟩
 |_=>M.fail
def WV(c:Cv G.T)(lo hi:Option Operand):M (Out G):=match c with
 |.sc (.string s)=>M.bind (EO ev s.size s.size hi) λb=>M.bind (EO ev 0 b lo) λa=>M.ret (outV (.string (s.extract a b)))
 |_=>M.fail
def WU(c:Cv G.T)(e':Nat)(lo hi:Option Operand):M (Out G):=match c with
 |.ro e l=>M.bind (M.need (J e e')) λ_=>M.bind (EO ev l.length l.length hi) λb=>M.bind (EO ev 0 b lo) λa=>M.ret (outP (.one (.ro e ((l.take b).drop a))))
 |_=>M.fail
def Apk(n:Nat)(c:Cv G.T)(lo hi:Option Operand):M (Out G):=match c,lo,hi with
 |.ptr b off,D,D=>M.ret (outP (.one (.sa b off n)))
 |_,_,_=>M.fail
def QZ(t:Nat)(x:Operand)(lo hi mx:Option Operand):M (Out G):=match mx with
 |some _=>M.fail
 |none=>match G.ty t with
  |.str=>M.bind (evC ev x) λc=>WV ev c lo hi
  |.sl e=>M.bind (evC ev x) λc=>WU ev c e lo hi
  |.arr n _=>M.bind (evC ev x) λc=>Apk n c lo hi
  |_=>M.fail
def Hw(t:Nat)(x:Operand)(f:Nat):M (Out G):=match G.ty t with
 |.st fs=>M.bind (evC ev x) λc=>M.bind (M.opt fs[f]?) λo=>M.bind (M.opt (JR o.1 c)) λc=>M.ret (outP (.one c))
 |_=>M.fail
def Af1(fs:List (Nat×Nat))(x:Pv G.T)(f:Nat):M (Out G):=match x with
 |.agg ds=>M.bind (M.opt fs[f]?) λo=>M.bind (M.opt (part ds o.1 (G.sz o.2))) λcs=>M.bind (M.opt (RR G o.2 cs)) λx=>M.ret (outP x)
 |.one _=>M.fail
def QX(t:Nat)(x:Operand)(f:Nat):M (Out G):=match G.ty t with
 |.st fs=>M.bind (evP ev x) λx=>Af1 fs x f
 |_=>M.fail
def inB(i:Int)(n:Nat):Bool:=decide (0<=i)&&decide (i<(n:Int))
def ixA(n e:Nat)(c:Cv G.T)(i:Int):M (Out G):=match c with
 |.ptr b off=>M.bind (M.need (inB i n)) λ_=>M.ret (outP (.one (.pd b off (G.sz e) n i.toNat)))
 |.pr b t j off=>M.bind (M.need (inB i n)) λ_=>M.ret (outP (.one (.pr b t j (off+i.toNat*G.sz e))))
 |.rp t x off=>M.bind (M.need (inB i n)) λ_=>
   M.bind (M.opt (Cq (λj=>match Cq (λq=>(G.enc t x)[off+q*G.sz e+j]?) (Qf n)with|some l=>Ahf l i.toNat|none=>D) (Qf (G.sz e)))) λcs=>
   M.bind (M.opt (G.dec e cs)) λy=>M.ret (outP (.one (.rp e y 0)))
 |_=>M.fail
def ixS(e':Nat)(c:Cv G.T)(i:Int):M (Out G):=match c with
 |.own b=>match h b with
  |some (.row e l)=>M.bind (M.need (J e e')) λ_=>M.bind (M.need (inB i l.length)) λ_=>M.ret ⟨C (.p (.one (.pr b e i.toNat 0))),[],[],[b]⟩
  |_=>M.fail
 |.ro e l=>M.bind (M.need (J e e')) λ_=>M.bind (M.need (inB i l.length)) λ_=>M.ret (outP (.one (.rp e (l.getD i.toNat (G.dfl e)) 0)))
 |.sa b off len=>M.bind (M.need (inB i len)) λ_=>M.pick (λq=>M.ret (outP (.one (.ptr b (off+q*G.sz e'))))) i.toNat 0 len
 |_=>M.fail
def Ed(t:Nat)(x i:Operand):M (Out G):=match G.ty t with
 |.arr n e=>M.bind (evC ev x) λc=>M.bind (evI ev i) λi=>ixA n e c i.2
 |.sl e=>M.bind (evC ev x) λc=>M.bind (evI ev i) λi=>ixS h e c i.2
 |_=>M.fail
def ixV(s:Cv G.T)(i:Int):M (Out G):=match s with
 |.sc (.string s)=>M.bind (M.need (inB i s.size)) λ_=>M.ret (outV (.int .u8 (Bu s i.toNat)))
 |_=>M.fail
def Bfb{T:Nat->Type}:List (Cv T)->Bool
 |.clo _ _ _::_=>H
 |_=>I
def Bkf(e:Nat)(ds:List (Cv G.T))(q:Nat):M (Out G):=M.bind (M.opt (part ds (q*G.sz e) (G.sz e))) λcs=>M.bind (M.opt (RR G e cs)) λy=>M.ret (outP y)
def Al4(n e:Nat)(x:Pv G.T)(i:Int):M (Out G):=match x with
 |.agg ds=>M.bind (M.need (inB i n)) λ_=>match Bfb ds with
  |true=>M.pick (Bkf e ds) i.toNat 0 n
  |false=>
   M.bind (M.opt (Cq (λj=>match Cq (λq=>ds[q*G.sz e+j]?) (Qf n)with|some l=>Ahf l i.toNat|none=>D) (Qf (G.sz e)))) λcs=>
   M.bind (M.opt (RR G e cs)) λy=>M.ret (outP y)
 |.one _=>M.fail
def QY(t:Nat)(x i:Operand):M (Out G):=match G.ty t with
 |.arr n e=>M.bind (evP ev x) λc=>M.bind (evI ev i) λi=>Al4 n e c i.2
 |.str=>M.bind (evC ev x) λc=>M.bind (evI ev i) λi=>ixV c i.2
 |_=>M.fail
def Lb(x:Operand)(i:Nat):M (Out G):=λ_ k=>match ev x with
 |some (.tup xs)=>match xs[i]? with|some y=>k (outP y)|none=>D
 |_=>D
def XF:List (Pv G.T)->M (Out G)
 |[.one (.sc (.float .f64 n))]=>M.ret (outV (.int .u64 (n:Int)))
 |_=>M.fail
def XG:List (Pv G.T)->M (Out G)
 |[.one (.sc (.int .u64 n))]=>M.ret (outV (.float .f64 n.toNat))
 |_=>M.fail
def Xp(c:Cv G.T)(a:List (Pv G.T)):M (Out G):=match c with
 |.clo g fst caps=>match G.ext g with
  |0=>cf g (fst.map Aer++(a++caps.map Aer)) h nm
  |1=>XF (fst.map Aer++(a++caps.map Aer))
  |_=>XG (fst.map Aer++(a++caps.map Aer))
 |_=>M.fail
def OV(f:Operand)(xs:List Operand):M (Out G):=M.bind (evC ev f) λc=>M.bind (TS ev xs) λa=>Xp cf h nm c a
def act:Op->M (Out G)
 |.move x|.assign x=>Qy ev x
 |.pick c a b=>UU ev c a b
 |.alloc t=>ZB nm t
 |.box _ x=>ZD ev nm x
 |.build t parts=>QW ev t parts.toList
 |.buildSlice t len parts=>Dk ev h nm t len parts.toList
 |.load t a=>OY ev h t a
 |.store t a x=>Lc ev h t a x
 |.nilCheck x=>ZE ev x
 |.binOp op t x y _=>ZC ev op t x y
 |.unOp op _ x=>aUn ev op x
 |.convert s t x=>OX ev h s t x
 |.makeFunc (.func f) a b=>UT ev f a.toList b.toList
 |.makeSlice t n m=>Hx ev nm t n m
 |.slice t x lo hi mx=>QZ ev t x lo hi mx
 |.fieldAddr t x f=>Hw ev t x f
 |.field t x f=>QX ev t x f
 |.indexAddr t x i=>Ed ev h t x i
 |.index t x i=>QY ev t x i
 |.extract x i=>Lb ev x i
 |.call ⟨.builtin b,xs,tys⟩=>Az ev h nm b tys.toList xs.toList
 |.call ⟨.value f,xs,_⟩=>OV cf ev h nm f xs.toList
 |_=>M.fail
end
def IC:Value->Bool
 |.bool _|.int _ _|.float _ _|.string _|.nilFunc|.nilIface|.pointer D|.slice D 0 0|.map D=>H
 |_=>I
def Pe(tm:List (Nat×Sv G.T)):Operand->Option (Sv G.T)
 |.tmp t=>get tm t
 |.const (.agg cs)=>bif cs.toList.all IC then C (.p (.agg (cs.toList.map .sc)))else D
 |.const v=>bif IC v then C (.p (.one (.sc v)))else D
 |.func f=>C (.p (.one (.clo f [] [])))
 |.global g=>match G.gl g with|some p=>C (.p (.one (.rp p.1 p.2 0)))|none=>D
def Aes(hp:List (Nat×Blk G.T)):List (Nat×Option (Blk G.T))->List (Nat×Blk G.T)
 |[]=>hp
 |(n,D)::t=>Aes (del hp n) t
 |(n,C b)::t=>Aes (put hp n b) t
def HW(us:List Nat):List Nat->Bool
 |[]=>H
 |n::t=>!has us n&&HW us t
def St.next(st:St G)(dst:Option Nat)(o:Out G):St G:=
 {tm:=match dst with
   |some d=>match o.v with|some v=>put st.tm d v|none=>del st.tm d
   |none=>st.tm
  hp:=Aes st.hp o.d
  us:=o.nw++st.us }
def St.drop(st:St G)(dst:Option Nat):St G:=
 match dst with
 |some d=>{ st with tm:=put st.tm d (.tup []) }
 |none=>st
def Alz(base:Nat):Option Nat->Nat
 |some d=>base+16*d
 |none=>base
def Af9(tm:List (Nat×Sv G.T))(g:Option Nat)(want:Bool):M (Bool×Option (Nat×Bool)):=λ_ k=>
 match g with
 |some g=>match get tm g with
  |some (.p (.one (.sc (.bool b))))=>bif b then k (want,C (g,H))else k (!want,C (g,I))
  |some (.tup [])=>k (I,D)
  |_=>D
 |none=>D
def Ta(ops:Array Oper)(tm:List (Nat×Sv G.T))(o:Oper):M (Bool×Option (Nat×Bool)):=
 match o.guard with
 |none=>M.ret (H,D)
 |some (j,want)=>Af9 tm ((ops[j]?).bind (·.dst)) want
def St.note(st:St G):Option (Nat×Bool)->St G
 |some (g,b)=>{ st with tm:=put st.tm g (.p (.one (.sc (.bool b)))) }
 |none=>st
def MX(nt:Nat):Option Nat->Bool
 |some d=>Nat.blt d nt
 |none=>H
section
variable(cf:BW G)(nt:Nat)
def Amc(ops:Array Oper)(o:Oper)(st:St G):M (St G):=
 M.bind (M.need (MX nt o.dst)) λ_=>M.bind (Ta ops st.tm o) λg=>
  match g.1 with
  |true=>M.bind (act cf (Pe st.tm) (get st.hp) (Alz 0 o.dst) o.op) λout=>M.bind (M.need (HW st.us out.nw)) λ_=>M.ret ((st.note g.2).next o.dst out)
  |false=>M.ret ((st.note g.2).drop o.dst)
def Ui(ops:Array Oper):List Oper->St G->M (St G)
 |[],st=>M.ret st
 |o::t,st=>M.bind (Amc cf nt ops o st) λst=>Ui ops t st
end
end Go.Ab
namespace Go.Ab
inductive Ex where
 |normal|exit (id:Nat)|ret
def ZU:Ex->Ex->Bool
 |.normal,.normal=>H
 |.exit i,.exit j=>J i j
 |.ret,.ret=>H
 |_,_=>I
inductive CSh where
 |int (k:IntKind)|bool|str|flt (k:FloatKind)
 |own (m t:Nat)|ro (t:Nat)|rp (t off:Nat)|ptr (n off:Nat)|clo (f:Nat) (p q:List (Nat×Nat))|np (n t:Nat)|nili|sa (n off len:Nat)|nilp|lit (k:IntKind) (n:Int)|sh (m:Nat)
inductive PSh where
 |one (c:CSh)
 |agg (cs:List CSh)
structure Spec where
 tm:List (Nat×PSh)
 hp:List (Nat×List CSh)
 us:List Nat
def lo:Nat:=65536
variable{G:Sig}
def CSh.T(G:Sig):CSh->Type
 |.int _=>Int
 |.bool=>Bool
 |.str=>ByteArray
 |.flt _=>Nat
 |.own _ t=>List (G.T t)
 |.ro t=>List (G.T t)
 |.rp t _=>G.T t
 |.ptr _ _=>Unit
 |.clo _ _ _=>Unit
 |.np _ _=>Unit
 |.nili=>Unit
 |.nilp=>Unit
 |.lit _ _=>Unit
 |.sa _ _ _=>Unit
 |.sh _=>Unit
def TL(G:Sig):List CSh->Type
 |[]=>Unit
 |s::t=>s.T G×TL G t
def PSh.T(G:Sig):PSh->Type
 |.one c=>c.T G
 |.agg cs=>TL G cs
def TmT(G:Sig):List (Nat×PSh)->Type
 |[]=>Unit
 |p::t=>p.2.T G×TmT G t
def HpT(G:Sig):List (Nat×List CSh)->Type
 |[]=>Unit
 |p::t=>TL G p.2×HpT G t
def Spec.T(G:Sig)(s:Spec):Type:=TmT G s.tm×HpT G s.hp
def CSh.give:(s:CSh)->s.T G->Cv G.T
 |.int k,n=>.sc (.int k n)
 |.bool,b=>.sc (.bool b)
 |.str,x=>.sc (.string x)
 |.flt k,n=>.sc (.float k n)
 |.own m _,_=>.own m
 |.ro t,l=>.ro t l
 |.rp t off,x=>.rp t x off
 |.ptr n off,_=>.ptr n off
 |.clo f p q,_=>.clo f p q
 |.np n t,_=>.np n t
 |.nili,_=>.sc .nilIface
 |.nilp,_=>.sc (.pointer D)
 |.lit k n,_=>.sc (.int k n)
 |.sa n off len,_=>.sa n off len
 |.sh m,_=>.own m
def CSh.blk:(s:CSh)->s.T G->List (Nat×Blk G.T)
 |.own m t,l=>[(m,.row t l)]
 |_,_=>[]
def Cg:(s:List CSh)->TL G s->List (Cv G.T)
 |[],_=>[]
 |c::t,x=>c.give x.1::Cg t x.2
def Ad1:(s:List CSh)->TL G s->List (Nat×Blk G.T)
 |[],_=>[]
 |c::t,x=>c.blk x.1++Ad1 t x.2
def PSh.give:(s:PSh)->s.T G->Pv G.T
 |.one c,x=>.one (c.give x)
 |.agg cs,x=>.agg (Cg cs x)
def PSh.blk:(s:PSh)->s.T G->List (Nat×Blk G.T)
 |.one c,x=>c.blk x
 |.agg cs,x=>Ad1 cs x
def JQ:(s:List (Nat×PSh))->TmT G s->List (Nat×Sv G.T)
 |[],_=>[]
 |p::t,x=>(p.1,.p (p.2.give x.1))::JQ t x.2
def MU:(s:List (Nat×PSh))->TmT G s->List (Nat×Blk G.T)
 |[],_=>[]
 |p::t,x=>p.2.blk x.1++MU t x.2
def Gv:(s:List (Nat×List CSh))->HpT G s->List (Nat×Blk G.T)
 |[],_=>[]
 |p::t,x=>(p.1,.cells (Cg p.2 x.1))::Gv t x.2
def SE:(s:List (Nat×List CSh))->HpT G s->List (Nat×Blk G.T)
 |[],_=>[]
 |p::t,x=>Ad1 p.2 x.1++SE t x.2
def AY:List (Nat×Blk G.T)->List Nat
 |[]=>[]
 |p::t=>p.1::AY t
def Spec.mk'(s:Spec)(x:s.T G):St G:=
 let h:=MU s.tm x.1++(SE s.hp x.2++Gv s.hp x.2)
 ⟨JQ s.tm x.1,h,AY h++s.us⟩
structure Tk(α:Type) where
 x:α
 nm:List (Nat×Option Nat)
 fz:List Nat
 sh:List (Nat×Nat)
def At3(G:Sig)(t t':Nat)(x:G.T t):Option (G.T t'):=if h:t=t' then C (h▸x)else D
def XD:List (Nat×Nat)->List (Nat×Nat)->Bool
 |[],[]=>H
 |a::s,b::t=>J a.1 b.1&&J a.2 b.2&&XD s t
 |_,_=>I
def tk0{α:Type}(x:α):Option (Tk α):=C ⟨x,[],[],[]⟩
def Ye(h:Nat->Option (Blk G.T))(n t:Nat):Option (List (G.T t)):=match h n with
 |some (.row t' l)=>Pb G t' t l
 |_=>D
def Aus(k:IntKind)(n:Int):Value->Bool
 |.int k' m=>Dd k k'&&decide (n=m)
 |_=>I
def An7:Value->Bool
 |.pointer D=>H
 |_=>I
def An6:Value->Bool
 |.nilIface=>H
 |_=>I
section
variable(h:Nat->Option (Blk G.T))
def CSh.take:(s:CSh)->Cv G.T->Option (Tk (s.T G))
 |.int k,.sc (.int k' n)=>bif Dd k k' then tk0 n else D
 |.bool,.sc (.bool b)=>tk0 b
 |.str,.sc (.string x)=>tk0 x
 |.flt k,.sc (.float k' n)=>bif Pd k k' then tk0 n else D
 |.own m t,.own n=>match Ye h n t with|some l=>C ⟨l,[(m,C n)],[],[]⟩|none=>D
 |.own m _,.sc v=>bif Rl v then C ⟨[],[(m,D)],[],[]⟩else D
 |.ro t,.ro t' l=>match Pb G t' t l with|some l=>tk0 l|none=>D
 |.ro t,.own n=>match Ye h n t with|some l=>C ⟨l,[],[n],[]⟩|none=>D
 |.ro _,.sc v=>bif Rl v then tk0 []else D
 |.rp t off,.rp t' x off'=>bif J off off' then match At3 G t' t x with|some x=>tk0 x|none=>D else D
 |.ptr n off,.ptr n' off'=>bif J n n'&&J off off' then tk0 ()else D
 |.clo f p q,.clo f' p' q'=>bif J f f'&&XD p p'&&XD q q' then tk0 ()else D
 |.np n t,.np n' t'=>bif J n n'&&J t t' then tk0 ()else D
 |.nili,.sc v=>bif An6 v then tk0 ()else D
 |.nilp,.sc v=>bif An7 v then tk0 ()else D
 |.lit k n,.sc v=>bif Aus k n v then tk0 ()else D
 |.sh m,.own n=>C ⟨(),[],[],[(m,n)]⟩
 |.sa n off len,.sa n' off' len'=>bif J n n'&&(J off off'&&J len len')then tk0 ()else D
 |_,_=>D
def GE:(s:List CSh)->List (Cv G.T)->Option (Tk (TL G s))
 |[],[]=>tk0 ()
 |s::t,c::cs=>match s.take h c,GE t cs with
  |some a,C b=>C ⟨(a.x,b.x),a.nm++b.nm,a.fz++b.fz,a.sh++b.sh⟩
  |_,_=>D
 |_,_=>D
def PSh.take:(s:PSh)->Pv G.T->Option (Tk (s.T G))
 |.one s,.one c=>s.take h c
 |.agg ss,.agg cs=>GE h ss cs
 |_,_=>D
def Gy(tm:List (Nat×Sv G.T)):(s:List (Nat×PSh))->Option (Tk (TmT G s))
 |[]=>tk0 ()
 |p::t=>match get tm p.1 with
  |some (.p c)=>match p.2.take h c,Gy tm t with
   |some a,C b=>C ⟨(a.x,b.x),a.nm++b.nm,a.fz++b.fz,a.sh++b.sh⟩
   |_,_=>D
  |_=>D
def II:(s:List (Nat×List CSh))->Option (Tk (HpT G s))
 |[]=>tk0 ()
 |p::t=>match h p.1 with
  |some (.cells cs)=>match GE h p.2 cs,II t with
   |some a,C b=>C ⟨(a.x,b.x),a.nm++b.nm,a.fz++b.fz,a.sh++b.sh⟩
   |_,_=>D
  |_=>D
end
def Gx:List Nat->Bool
 |[]=>H
 |n::t=>!has t n&&Gx t
def CB:List (Nat×Option Nat)->List Nat
 |[]=>[]
 |p::t=>p.1::CB t
def CT:List (Nat×Option Nat)->List Nat
 |[]=>[]
 |(_,C n)::t=>n::CT t
 |(_,D)::t=>CT t
def WC(l:List Nat):List Nat->Bool
 |[]=>H
 |n::t=>has l n&&WC l t
def SO:List (Nat×Nat)->List Nat
 |[]=>[]
 |p::t=>p.1::SO t
def CSh.fix(l:List Nat):CSh->Bool
 |.ptr n _=>has l n
 |.clo _ p q=>WC l (SO p)&&WC l (SO q)
 |.np n _=>has l n
 |.sa n _ _=>has l n
 |_=>H
def PSh.fix(l:List Nat):PSh->Bool
 |.one c=>c.fix l
 |.agg cs=>cs.all (CSh.fix l)
def As:List (Nat×List CSh)->List Nat
 |[]=>[]
 |p::t=>p.1::As t
def Xw:List Nat->List Nat->Bool
 |[],_=>H
 |n::t,l=>!has l n&&Xw t l
def Xi:List Nat->Bool
 |[]=>H
 |n::t=>Nat.blt n lo&&Xi t
def Afg(us:List Nat):List Nat->Bool
 |[]=>H
 |n::t=>(Nat.blt n lo||has us n)&&Afg us t
def Ahi(m n:Nat):List (Nat×Option Nat)->Bool
 |[]=>I
 |(k,C j)::t=>J k m&&J j n||Ahi m n t
 |(_,D)::t=>Ahi m n t
def Ae0(nm:List (Nat×Option Nat)):List (Nat×Nat)->Bool
 |[]=>H
 |p::t=>Ahi p.1 p.2 nm&&Ae0 nm t
def Spec.take(s:Spec)(st:St G):Option (s.T G):=match Gy (get st.hp) st.tm s.tm,II (get st.hp) s.hp with
 |some a,C b=>
  bif s.tm.all (λp=>p.2.fix (As s.hp))&&s.hp.all (λp=>p.2.all (CSh.fix (As s.hp)))&&
   (Gx (CB (a.nm++b.nm)++As s.hp)&&Xi (CB (a.nm++b.nm))&&Gx (CT (a.nm++b.nm)++As s.hp)&&Xw (CT (a.nm++b.nm)++As s.hp) (a.fz++b.fz)&&(Ae0 (a.nm++b.nm) (a.sh++b.sh)&&Afg s.us st.us))
  then C (a.x,b.x)else D
 |_,_=>D
def DA(G:Sig):List (Ex×Spec)->Type
 |[]=>Empty
 |[p]=>p.2.T G
 |p::q::t=>Sum (p.2.T G) (DA G (q::t))
def GD:(E:List (Ex×Spec))->Ex->St G->Option (DA G E)
 |[],_,_=>D
 |[p],e,st=>bif ZU e p.1 then p.2.take st else D
 |p::q::t,e,st=>match bif ZU e p.1 then p.2.take st else D with
  |some x=>C (.inl x)
  |none=>match GD (q::t) e st with|some y=>C (.inr y)|none=>D
def Fs{R:Type}:(E:List (Ex×Spec))->DA G E->(Ex×St G->Option R)->Option R
 |[],y,_=>y.elim
 |[p],y,k=>k (p.1,p.2.mk' y)
 |p::q::t,y,k=>match y with
  |.inl x=>k (p.1,p.2.mk' x)
  |.inr y=>Fs (q::t) y k
def Ang(E:List (Ex×Spec))(m:M (Ex×St G)):M (Ex×St G):=λ_ k=>(m _ λp=>GD E p.1 p.2).bind λy=>Fs E y k
def Aia:Option (List (Ex×Spec))->M (Ex×St G)->M (Ex×St G)
 |none,m=>m
 |some E,m=>Ang E m
def Aoq(S:Spec)(E:List (Ex×Spec))(e:Ex)(st:St G):Option (Sum (S.T G) (DA G E)):=match e with
 |.normal=>match S.take st with|some x=>C (.inl x)|none=>D
 |e=>match GD E e st with|some y=>C (.inr y)|none=>D
def Rr(S:Spec)(E:List (Ex×Spec))(body:St G->M (Ex×St G))(x:S.T G):Option (Sum (S.T G) (DA G E)):=body (S.mk' x) _ λp=>Aoq S E p.1 p.2
class Un (X F:Type) (R:outParam Type) where
 u:F->X->R
instance(priority:=low) un_leaf{X R:Type}:Un X (X->R) R:=⟨λf x=>f x⟩
instance un_unit{R:Type}:Un Unit R R:=⟨λf _=>f⟩
instance un_pair{X Y R F K:Type}[Un X F K][Un Y K R]:Un (X×Y) F R:=⟨λf x=>Un.u (Un.u f x.1:K) x.2⟩
class Ur (F:Type) (X Y:outParam Type)
instance ur0{X Y:Type}:Ur (Option (Sum X Y)) X Y:=⟨⟩
instance ur1{A F X Y:Type}[Ur F X Y]:Ur (A->F) X Y:=⟨⟩
def Ra{X Y:Type}(g:X->Option Y):Option (Sum X Y)->Option Y
 |some (.inl x)=>g x
 |some (.inr y)=>C y
 |none=>D
def Bx{X Y:Type}(step:X->Option (Sum X Y)):Nat->X->Option Y
 |0,_=>D
 |f+1,x=>Ra (Bx step f) (step x)
def lpX(S:Spec)(E:List (Ex×Spec))(L:S.T G->Option (DA G E))(st:St G):M (Ex×St G):=λ_ k=>
 match S.take st with
 |some x=>(L x).bind λy=>Fs E y k
 |none=>D
end Go.Ab
namespace Go.Ab
variable{G:Sig}
def ER:Code->Nat
 |.seq a b=>ER a+ER b
 |.cond _ a b=>ER a+ER b
 |.block _ a=>ER a
 |.loop a=>ER a+1
 |_=>0
def Aic{α:Type}(l:List (Nat×α)):List Nat->List (Nat×α)
 |[]=>l
 |n::t=>Aic (del l n) t
def St.kill(st:St G)(ks:List Nat):St G:={ st with tm:=Aic st.tm ks }
def Afu(tm:List (Nat×Sv G.T))(t:Nat):M (Bool×Option (Nat×Bool)):=λ_ k=>
 match get tm t with
 |some (.p (.one (.sc (.bool b))))=>bif b then k (H,C (t,H))else k (I,C (t,I))
 |_=>D
def Alx:Value->M (Bool×Option (Nat×Bool))
 |.bool b=>M.ret (b,D)
 |_=>M.fail
def Xu(tm:List (Nat×Sv G.T)):Operand->M (Bool×Option (Nat×Bool))
 |.tmp t=>Afu tm t
 |.const v=>Alx v
 |_=>M.fail
section
variable(cf:BW G)(nt:Nat)(drawn:Array Oper->St G->M (St G))(lp:Nat->St G->M (Ex×St G))(kl:Nat->List Nat)(jn:Nat->Option (List (Ex×Spec)))
def Aun:Code->Nat
 |.seq a _=>Aun a
 |.block _ a=>Aun a
 |.region id _ _=>id+1
 |_=>0
def Bfe:Nat:=1048576
def Bn0:Nat:=2097152
def Au6(id:Nat)(f:St G->M (Ex×St G))(st:St G):M (Ex×St G):=M.bind (Aia (jn (Bn0+id)) (M.ret (.normal,st))) λp=>match p.1 with
 |.normal=>f p.2
 |_=>M.fail
def BQ:Nat->Code->St G->M (Ex×St G)
 |_,.skip,st=>M.ret (.normal,st)
 |_,.ret,st=>M.ret (.ret,st)
 |_,.exit id,st=>M.ret (.exit id,st)
 |n,.seq a b,st=>M.bind (Aia (jn (Aun b)) (BQ n a st)) λp=>match p.1 with
  |.normal=>BQ (n+ER a) b p.2
  |e=>M.ret (e,p.2)
 |n,.cond c a b,st=>M.bind (Xu st.tm c) λp=>match p.1 with
  |true=>BQ n a (st.note p.2)
  |false=>BQ (n+ER a) b (st.note p.2)
 |n,.block id a,st=>M.bind (BQ n a st) λp=>match p.1 with
  |.exit i=>M.ret (bif J i id then .normal else .exit i,p.2)
  |e=>M.ret (e,p.2)
 |n,.loop _,st=>lp n st
 |_,.region id ops I,st=>Au6 jn id (λst=>Aia (jn (Bfe+id)) (M.bind (Ui cf nt ops ops.toList st) λst=>M.ret (.normal,st.kill (kl id)))) st
 |_,.region id ops H,st=>Au6 jn id (λst=>Aia (jn (Bfe+id)) (M.bind (drawn ops st) λst=>M.ret (.normal,st.kill (kl id)))) st
 |_,_,_=>M.fail
end
def FU{α:Type}:Nat->List α->List (Nat×α)
 |_,[]=>[]
 |n,x::t=>(n,x)::FU (n+1) t
def Vp(st:St G):ResultVar->Option (Pv G.T)
 |.tmp t=>match get st.tm t with|some (.p x)=>C x|_=>D
 |.cell a t=>match get st.tm a with
  |some (.p (.one c))=>match Gw (get st.hp) (G.sz t) c with|some cs=>RR G t cs|none=>D
  |_=>D
def HC(st:St G):List ResultVar->Option (List (Pv G.T))
 |[]=>C []
 |r::t=>match Vp st r,HC st t with|some x,C l=>C (x::l)|_,_=>D
def RV(st:St G)(rs:List ResultVar):Option (Sv G.T):=match HC st rs with
 |some [x]=>C (.p x)
 |some l=>C (.tup l)
 |none=>D
section
variable(cf:BW G)(drawn:Nat->Array Oper->St G->M (St G))(lp:Nat->St G->M (Ex×St G))(kl:Nat->List Nat)(jn:Nat->Option (List (Ex×Spec)))(je:Option (List (Ex×Spec)))
end
end Go.Ab
namespace Go.Ab
def F2{α β:Type}(R:α->β->Prop)(xs:List α)(ys:List β):Prop:=xs.length=ys.length/\∀(i:Nat) x y,xs[i]?=C x->ys[i]?=C y->R x y
def F2.nil{α β:Type}{R:α->β->Prop}:F2 R [] []:=⟨rfl,λi x y h=>by simp at h⟩
def F2.cons{α β:Type}{R:α->β->Prop}{x:α}{y:β}{xs:List α}{ys:List β}(h:R x y)(t:F2 R xs ys):F2 R (x::xs) (y::ys):=by
 refine⟨by simp[t.1],λi a b ha hb=>?_⟩;cases i with
 |zero=>simp at ha hb;subst ha;subst hb;exact h
 |succ i=>simp at ha hb;exact t.2 i a b ha hb
def F2.tail{α β:Type}{R:α->β->Prop}{x:α}{y:β}{xs:List α}{ys:List β}(h:F2 R (x::xs) (y::ys)):R x y/\F2 R xs ys:=⟨h.2 0 x y rfl rfl,by have:=h.1;simp at this;exact this,λi a b ha hb=>h.2 (i+1) a b (by simp[ha]) (by simp[hb])⟩
def F2.inv{α β:Type}{R:α->β->Prop}{x:α}{xs:List α}{ys:List β}(h:F2 R (x::xs) ys):∃y t,ys=y::t/\R x y/\F2 R xs t:=by
 cases ys with
 |nil=>exact absurd h.1 σ
 |cons y t=>exact⟨y,t,rfl,h.tail⟩
def F2.inv_nil{α β:Type}{R:α->β->Prop}{ys:List β}(h:F2 R [] ys):ys=[]:=by
 cases ys with
 |nil=>rfl
 |cons y t=>exact absurd h.1 σ
def F2.mono{α β:Type}{R R':α->β->Prop}{xs:List α}{ys:List β}(h:F2 R xs ys)(hr:∀x y,R x y->R' x y):F2 R' xs ys:=⟨h.1,λi x y hx hy=>hr _ _ (h.2 i x y hx hy)⟩
def F2.append{α β:Type}{R:α->β->Prop}{xs xs':List α}{ys ys':List β}(h:F2 R xs ys)(h':F2 R xs' ys'):F2 R (xs++xs') (ys++ys'):=by
 refine⟨by simp[h.1,h'.1],λi x y hx hy=>?_⟩;rw[e7_]at hx hy;rw[h.1]at hx;by_cases hi:i<ys.length
 .simp only[hi,if_true]at hx hy;exact h.2 i x y hx hy
 .simp only[hi,if_false]at hx hy;exact h'.2 _ x y hx hy
def F2.map_left{α β γ:Type}{R:α->β->Prop}{f:γ->α}{xs:List γ}{ys:List β}(h:F2 (λc v=>R (f c) v) xs ys):F2 R (xs.map f) ys:=by
 refine⟨by simp[h.1],λi x y hx hy=>?_⟩;rw[b7_]at hx;cases hc:xs[i]? with
 |none=>simp[hc]at hx
 |some c=>simp[hc]at hx;subst hx;exact h.2 i c y hc hy
def F2.get{α β:Type}{R:α->β->Prop}{xs:List α}{ys:List β}(h:F2 R xs ys){i:Nat}{x:α}(hx:xs[i]?=C x):∃y,ys[i]?=C y/\R x y:=by
 have hi:i<ys.length:=by rw[<-h.1];exact(g_.1 hx).1
 exact⟨ys[i],j_ hi,h.2 i x _ hx (j_ hi)⟩
def AA{k n:Nat}:J k n=H↔k=n:=Nat.beq_eq▸Iff.rfl
def Bf{α:Sort _}(k n:Nat)(a b:α):(bif J k n then a else b)=if k=n then a else b:=by
 by_cases h:k=n
 .rw[if_pos h,AA.2 h];rfl
 .rw[if_neg h];cases hb:J k n with
  |false=>rfl
  |true=>exact absurd (AA.1 hb) h
def WH{α:Type}(l:List (Nat×α))(n m:Nat):get (del l n) m=if n=m then D else get l m:=by
 induction l with
 |nil=>simp[del,get]
 |cons p t ih=>
  obtain⟨k,v⟩:=p;simp only[del,get,Bf];by_cases hkn:k=n
  .subst hkn;rw[if_pos rfl,ih];by_cases h:k=m<;>simp[h]
  .rw[if_neg hkn];simp only[get,Bf,ih];by_cases hkm:k=m
   .subst hkm;simp[e0_ hkn]
   .simp[hkm]
def SZ{α:Type}(l:List (Nat×α))(n m:Nat)(x:α):get (put l n x) m=if n=m then C x else get l m:=by simp only[put,get,Bf,WH];by_cases h:n=m<;>simp[h]
def Fw(l:List Nat)(n:Nat):has l n=H↔n∈l:=by
 induction l with
 |nil=>simp[has]
 |cons k t ih=>
  simp only[has,Bf,v_];by_cases h:k=n
  .simp[h]
  .simp[h,ih,e0_ h]
def AC:Value->Option Nat
 |.pointer (C a)=>C a.block
 |.slice (C a) _ _=>C a.block
 |_=>D
variable{G:Sig}
variable{ν:Nat->Option Value}{v:Value}{S:Nat->Prop}{h:Array Obj}{c:Cv G.T}
inductive Rd(G:Sig)(S:Nat->Prop)(h:Array Obj):Cv G.T->Value->Prop
 |sc (v:Value) (hv:IC v=true):Rd G S h (.sc v) v
 |nil (t:Nat) (a:Option Addr) (cap:Nat):Rd G S h (.ro t []) (.slice a 0 cap)
 |ro (t:Nat) (l:List (G.T t)) (b off cap:Nat) (c:Array Value) (te:TypeId) (fz:Nat×Nat) (vs:Nat->Nat->Value)
   (hS:S b) (hb:h[b]?=some (.cells c te fz)) (ht:te=t\/G.loose t=true) (hcap:l.length<=cap)
   (hc:∀i j,i<l.length->j<G.sz t->c[off+i*G.sz t+j]?=some (vs i j))
   (hr:∀(i j:Nat) (x:G.T t) (cv:Cv G.T),l[i]?=some x->(G.enc t x)[j]?=some cv->Rd G S h cv (vs i j)) :
   Rd G S h (.ro t l) (.slice (some ⟨b,off,none⟩) l.length cap)
 |rp (t:Nat) (x:G.T t) (off b base:Nat) (c:Array Value) (te:TypeId) (fz:Nat×Nat) (vs:Nat->Value)
   (hS:S b) (hb:h[b]?=some (.cells c te fz))
   (hc:∀j,j<G.sz t->c[base+j]?=some (vs j))
   (hr:∀(j:Nat) (cv:Cv G.T),(G.enc t x)[j]?=some cv->Rd G S h cv (vs j)) :
   Rd G S h (.rp t x off) (.pointer (some ⟨b,base+off,none⟩))
def RPtr(ν:Nat->Option Value)(p:Nat×Nat)(v:Value):Prop:=∃b,ν p.1=C (.pointer (C ⟨b,0,D⟩))/\v=.pointer (C ⟨b,p.2,D⟩)
def Rc(G:Sig)(ν:Nat->Option Value)(S:Nat->Prop)(h:Array Obj):Cv G.T->Value->Prop
 |.ptr n off,v=>RPtr ν (n,off) v
 |.pd n off s len i,v=>i<len/\RPtr ν (n,off+i*s) v
 |.pr n t i off,v=>∃b len cap,ν n=C (.slice (C ⟨b,0,D⟩) len cap)/\i<len/\v=.pointer (C ⟨b,i*G.sz t+off,D⟩)
 |.own n,v=>∃a len cap,ν n=C v/\v=.slice a len cap
 |.clo f p q,v=>∃vp vq:List Value,v=.func (.func f) vp.toArray vq.toArray/\F2 (RPtr ν) p vp/\F2 (RPtr ν) q vq
 |.np n _,v=>v=.pointer D\/RPtr ν (n,0) v
 |.sa n off len,v=>∃b,ν n=C (.pointer (C ⟨b,0,D⟩))/\v=.slice (C ⟨b,off,D⟩) len len
 |c,v=>Rd G S h c v
inductive Rp(G:Sig)(ν:Nat->Option Value)(S:Nat->Prop)(h:Array Obj):Pv G.T->Value->Prop
 |one (c:Cv G.T) (v:Value) (hc:Rc G ν S h c v):Rp G ν S h (.one c) v
 |agg (cs:List (Cv G.T)) (vs:List Value) (hc:F2 (Rc G ν S h) cs vs):Rp G ν S h (.agg cs) (.agg vs.toArray)
inductive Rs(G:Sig)(ν:Nat->Option Value)(S:Nat->Prop)(h:Array Obj):Sv G.T->Value->Prop
 |p (x:Pv G.T) (v:Value) (hc:Rp G ν S h x v):Rs G ν S h (.p x) v
 |tup (xs:List (Pv G.T)) (vs:List Value) (hc:F2 (Rp G ν S h) xs vs):Rs G ν S h (.tup xs) (.tuple vs.toArray)
def Bi7(G:Sig)(S:Nat->Prop)(h:Array Obj)(t:Nat)(l:List (G.T t))(c:Array Value):Prop:=∀(i j:Nat) (x:G.T t) (cv:Cv G.T),l[i]?=C x->(G.enc t x)[j]?=C cv->∃v,c[i*G.sz t+j]?=C v/\Rd G S h cv v
def Rb(G:Sig)(ν:Nat->Option Value)(S:Nat->Prop)(h:Array Obj)(n:Nat):Blk G.T->Prop
 |.cells cs=>∃b c te,ν n=C (.pointer (C ⟨b,0,D⟩))/\h[b]?=C (.cells c te (0,0))/\F2 (Rc G ν S h) cs c.toList/\∀m t,Cv.np m t∈cs->m=n/\te=t
 |.row t l=>(ν n=C (.slice D 0 0)/\l=[])\/
   ∃b cap c te,ν n=C (.slice (C ⟨b,0,D⟩) l.length cap)/\h[b]?=C (.cells c te (0,0))/\l.length<=cap/\c.size=cap*G.sz t/\Bi7 G S h t l c/\te=t/\cap<=maxLen
def Rd.mono{S':Nat->Prop}{h':Array Obj}(hS:∀b,S b->S' b)(hh:∀b,S b->h'[b]?=h[b]?)(r:Rd G S h c v):Rd G S' h' c v:=by
 induction r with
 |sc v hv=>exact .sc v hv
 |nil t a cap=>exact .nil t a cap
 |ro t l b off cap c te fz vs h1 h2 ht h3 h4 _ ih=>exact .ro t l b off cap c te fz vs (hS b h1) ((hh b h1).trans h2) ht h3 h4 ih
 |rp t x off b base c te fz vs h1 h2 h3 _ ih=>exact .rp t x off b base c te fz vs (hS b h1) ((hh b h1).trans h2) h3 ih
structure Le(ν ν':Nat->Option Value)(S S':Nat->Prop)(h h':Array Obj):Prop where
 nu:∀n x,ν n=some x->ν' n=some x
 st:∀b,S b->S' b
 hp:∀b,S b->h'[b]?=h[b]?
def Le.refl:Le ν ν S S h h:=⟨λ_ _ h=>h,λ_ h=>h,λ_ _=>rfl⟩
section
variable{ν ν':Nat->Option Value}{S S':Nat->Prop}{h h':Array Obj}
def RPtr.mono(hn:∀n x,ν n=C x->ν' n=C x){p:Nat×Nat}(r:RPtr ν p v):RPtr ν' p v:=
 let⟨b,h1,h2⟩:=r
 ⟨b,hn _ _ h1,h2⟩
def Rc.mono(le:Le ν ν' S S' h h')(r:Rc G ν S h c v):Rc G ν' S' h' c v:=by
 cases c with
 |ptr n off=>exact RPtr.mono le.nu r
 |pd n off s len i=>exact⟨r.1,RPtr.mono le.nu r.2⟩
 |pr n t i off=>obtain⟨b,len,cap,h1,h2,h3⟩:=r;exact⟨b,len,cap,le.nu _ _ h1,h2,h3⟩
 |own n=>obtain⟨a,len,cap,h1,h2⟩:=r;exact⟨a,len,cap,le.nu _ _ h1,h2⟩
 |clo f p q=>obtain⟨vp,vq,h1,h2,h3⟩:=r;exact⟨vp,vq,h1,h2.mono λ_ _=>RPtr.mono le.nu,h3.mono λ_ _=>RPtr.mono le.nu⟩
 |np n t=>exact r.imp (λh=>h) (RPtr.mono le.nu)
 |sa n off len=>obtain⟨b,h1,h2⟩:=r;exact⟨b,le.nu _ _ h1,h2⟩
 |sc v=>exact Rd.mono le.st le.hp r
 |ro t l=>exact Rd.mono le.st le.hp r
 |rp t x off=>exact Rd.mono le.st le.hp r
def Rp.mono(le:Le ν ν' S S' h h'){c:Pv G.T}(r:Rp G ν S h c v):Rp G ν' S' h' c v:=by
 cases r with
 |one c v hc=>exact .one c v (hc.mono le)
 |agg cs vs hc=>exact .agg cs vs (hc.mono λ_ _=>Rc.mono le)
def Rs.mono(le:Le ν ν' S S' h h'){c:Sv G.T}(r:Rs G ν S h c v):Rs G ν' S' h' c v:=by
 cases r with
 |p x v hc=>exact .p x v (hc.mono le)
 |tup xs vs hc=>exact .tup xs vs (hc.mono λ_ _=>Rp.mono le)
def Rb.mono(le:Le ν ν' S S' h h'){n:Nat}(hb:∀x b,ν n=C x->AC x=C b->h'[b]?=h[b]?){k:Blk G.T}(r:Rb G ν S h n k):Rb G ν' S' h' n k:=by
 cases k with
 |cells cs=>obtain⟨b,c,te,h1,h2,h3⟩:=r;exact⟨b,c,te,le.nu _ _ h1,(hb _ b h1 rfl).trans h2,h3.1.mono λ_ _=>Rc.mono le,h3.2⟩
 |row t l=>
  rcases r with⟨h1,h2⟩|⟨b,cap,c,te,h1,h2,h3,h4,h5⟩
  .exact .inl ⟨le.nu _ _ h1,h2⟩
  .refine .inr ⟨b,cap,c,te,le.nu _ _ h1,(hb _ b h1 rfl).trans h2,h3,h4,λi j x cv hx hc=>?_,h5.2⟩;obtain⟨v,hv,hr⟩:=h5.1 i j x cv hx hc;exact⟨v,hv,hr.mono le.st le.hp⟩
end
def GlOK(G:Sig)(S:Nat->Prop)(h:Array Obj):Prop:=∀g p,G.gl g=C p->Rd G S h (.rp p.1 p.2 0) (.pointer (C ⟨g,0,D⟩))/\∃c te fz,h[g]?=C (.cells c te fz)/\c.size=G.sz p.1
def Bv0{t g o off:Nat}{x:G.T t}(r:Rd G S h (.rp t x off) (.pointer (C ⟨g,o,D⟩))):S g:=by cases r;assumption
def GlOK.mono{S':Nat->Prop}{h':Array Obj}(g:GlOK G S h)(hS:∀b,S b->S' b)(hh:∀b,S b->h'[b]?=h[b]?):GlOK G S' h':=λn p hp=>
 let⟨r,c,te,fz,h1,h2⟩:=g n p hp
 ⟨r.mono hS hh,c,te,fz,(hh n (Bv0 r)).trans h1,h2⟩
structure HRel(G:Sig)(ν:Nat->Option Value)(S B:Nat->Prop)(hp:Nat->Option (Blk G.T))(w:World):Prop where
 blk:∀n k,hp n=some k->Rb G ν S w.heap n k
 apart:∀n m x y b,hp n≠none->hp m≠none->ν n=some x->ν m=some y->AC x=some b->AC y=some b->n=m
 own:∀n x b,hp n≠none->ν n=some x->AC x=some b->¬S b/\B b
 stay:∀b,S b->b<w.heap.size
 gl:GlOK G S w.heap
structure Post(G:Sig)(ν:Nat->Option Value)(S B:Nat->Prop)(hp:Nat->Option (Blk G.T))(w:World)(out:Out G)
  (hp':Nat->Option (Blk G.T)) (ν':Nat->Option Value) (S':Nat->Prop) (w':World) (v:Value):Prop where
 nu:∀n x,ν n=some x->ν' n=some x
 new:∀n,ν' n≠none->ν n≠none\/n∈out.nw
 st:∀b,S b->S' b
 stn:∀b,S' b->S b\/B b
 rel:HRel G ν' S' B hp' w'
 val:∀s,out.v=some s->Rs G ν' S' w'.heap s v
 size:w.heap.size<=w'.heap.size
 frame:∀b,b<w.heap.size->(∀n x,hp n≠none->ν n=some x->AC x≠some b)->w'.heap[b]?=w.heap[b]?
 env:w'.os=w.os/\w'.tape=w.tape/\w'.output=w.output
def Post.le{B:Nat->Prop}{hp:Nat->Option (Blk G.T)}{w:World}{out:Out G}
  {hp':Nat->Option (Blk G.T)}{ν':Nat->Option Value}{S':Nat->Prop}{w':World}{v:Value}(hr:HRel G ν S B hp w)
  (p:Post G ν S B hp w out hp' ν' S' w' v):Le ν ν' S S' w.heap w'.heap:=
 ⟨p.nu,p.st,λb hb=>p.frame b (hr.stay b hb) λn x hn hx e=>(hr.own n x b hn hx e).1 hb⟩
end Go.Ab
namespace Go.Ab
variable{G:Sig}
variable{ν:Nat->Option Value}{t:Nat}{P:Program}{S:Nat->Prop}{h:Array Obj}{c:Cv G.T}{v:Value}
def Bd5 (P : Program) (g : Nat) (e : Array Value -> Sem Value) : Prop := ∃ fn, P.funcs[g]? = C fn /\ (fn.name == "runtime.NumGoroutine") = I /\ fn.body.isNone = H /\ Extern.findNext fn = D /\ Extern.find fn = C e
def Bcg:Nat->Array Value->Sem Value
 |1=>Extern.MathFloatBits.float64bits
 |_=>Extern.MathFloatBits.float64frombits
def Asw(P:Program)(ext:Nat->Nat):Prop:=∀g,ext g≠0->Bd5 P g (Bcg (ext g))
structure SigOK(P:Program)(G:Sig):Prop where
 bool:∀t,G.ty t=.bool->P.underlying t=some .bool
 int:∀t k,G.ty t=.int k->P.underlying t=some (.int k)
 flt:∀t k,G.ty t=.flt k->P.underlying t=some (.float k)
 str:∀t,G.ty t=.str->P.underlying t=some .string
 sl:∀t e,G.ty t=.sl e->P.underlying t=some (.slice e)/\G.ty e≠ .no/\(∃i,P.info? e=some i/\i.bytes<=4096)/\∀x,(G.enc e x).length=G.sz e
 pt:∀t e,G.ty t=.pt e->P.underlying t=some (.pointer e)
 fn:∀t,G.ty t=.fn->∃a b c,P.underlying t=some (.func a b c)
 strc:∀t fs,G.ty t=.st fs->∃fields,P.underlying t=some (.struct fields)/\fields.toList.map (λf=>(f.offset,f.type))=fs/\∀o u,(o,u)∈fs->G.ty u≠ .no
 arr:∀t n e,G.ty t=.arr n e->P.underlying t=some (.array n e)/\G.ty e≠ .no
 info:∀t,G.ty t≠ .no->∃i z,P.info? t=some i/\i.size=G.sz t/\i.zero=some z/\z.cells.toList=G.zero t
 pos:∀t,G.ty t≠ .no->0<G.sz t
 nosz:∀t,G.ty t=.no->G.sz t=0
 zsc:∀t v,v∈G.zero t->IC v=true
 zlen:∀t,(G.zero t).length=G.sz t
 encl:∀t x,(G.enc t x).length<=G.sz t
 encdec:∀t cs x,G.dec t cs=some x->G.enc t x=cs
 encd:∀t x c,c∈G.enc t x->(∃v,c=.sc v)\/(∃t' l,c=.ro t' l)
 flatd:∀t x c,G.flat t=true->c∈G.enc t x->∃v,c=.sc v
 u8d:∀t x y,(G.enc t x).map u8C=(G.enc t y).map u8C
 rod:∀t x y,(G.enc t x).map roC=(G.enc t y).map roC
 ext:Asw P G.ext
section
variable{P:Program}(ok:SigOK P G)(w:World)
include ok
theorem SigOK.isAgg(h:G.ty t≠ .no):(Go.isAgg t).run P w=.ok (G.ty t).isAgg w:=by
 have key:∀d,P.underlying t=C d->(Go.isAgg t).run P w=.ok (match d with|.struct _|.array _ _=>H|_=>I) w:=by intro d hd;unfold Go.isAgg;rw[z_,A_ hd w];cases d<;>rfl
 cases ht:G.ty t with
 |no=>exact absurd ht h
 |bool=>rw[key _ (ok.bool t ht)];rfl
 |int k=>rw[key _ (ok.int t k ht)];rfl
 |flt k=>rw[key _ (ok.flt t k ht)];rfl
 |str=>rw[key _ (ok.str t ht)];rfl
 |sl e=>rw[key _ (ok.sl t e ht).1];rfl
 |pt e=>rw[key _ (ok.pt t e ht)];rfl
 |fn=>obtain⟨a,b,c,hd⟩:=ok.fn t ht;rw[key _ hd];rfl
 |st fs=>obtain⟨a,hd,_⟩:=ok.strc t fs ht;rw[key _ hd];rfl
 |arr n e=>rw[key _ (ok.arr t n e ht).1];rfl
theorem SigOK.sizeOf(h:G.ty t≠ .no):(Go.sizeOf t).run P w=.ok (G.sz t) w:=by obtain⟨i,z,h1,h2,_⟩:=ok.info t h;simp[Go.sizeOf,typeInfo,h1,h2]
theorem SigOK.zeroV(h:G.ty t≠ .no):∃z,(zeroValue t).run P w=.ok z w/\z.cells.toList=G.zero t:=by obtain⟨i,z,h1,h2,h3,h4⟩:=ok.info t h;exact⟨z,by simp[zeroValue,typeInfo,h1,h3],h4⟩
end
def Yl{α:Type}:∀(n:Nat) (l m:List α),LX n l=C m->m.length=n/\n<=l.length/\∀j,j<n->m[j]?=l[j]?
 |0,l,m,h=>by simp[LX]at h;subst h;simp
 |n+1,[],m,h=>by simp[LX]at h
 |n+1,x::t,m,h=>by
  simp only[LX]at h;split at h
  .rename_i l hl;obtain⟨h1,h2,h3⟩:=Yl n t l hl;simp at h;subst h;refine⟨by simp[h1],by simp;omega,λj hj=>?_⟩;cases j with
   |zero=>simp
   |succ j=>simp;exact h3 j ω
  .simp at h
def Xy{α:Type}:∀(n:Nat) (l m:List α),MV n l=C m->n+m.length=l.length/\∀j,m[j]?=l[n+j]?
 |0,l,m,h=>by simp[MV]at h;subst h;simp
 |n+1,[],m,h=>by simp[MV]at h
 |n+1,x::t,m,h=>by simp only[MV]at h;obtain⟨h1,h2⟩:=Xy n t m h;refine⟨by simp;omega,λj=>?_⟩;rw[h2 j,show n+1+j=(n+j)+1 by omega];simp
def NK{α:Type}{l m:List α}{off n:Nat}(h:part l off n=C m):m.length=n/\off+n<=l.length/\∀j,j<n->m[j]?=l[off+j]?:=by
 unfold part at h;split at h
 .rename_i k hk;obtain⟨h1,h2⟩:=Xy _ _ _ hk;obtain⟨h3,h4,h5⟩:=Yl _ _ _ h;exact⟨h3,ω,λj hj=>(h5 j hj).trans (h2 j)⟩
 .simp at h
def HM{α:Type}:∀(l:List α) (off:Nat) (new m:List α),IH l off new=C m->
  m.length=l.length/\off+new.length<=l.length/\∀j,m[j]?=if off<=j/\j<off+new.length then new[j-off]? else l[j]?
 |cs,0,[],m,h=>by simp[IH]at h;subst h;refine⟨rfl,σ,λj=>?_⟩;simp
 |[],0,_::_,m,h=>by simp[IH]at h
 |_::t,0,x::new,m,h=>by
  simp only[IH]at h;split at h
  .rename_i l hl;obtain⟨h1,h2,h3⟩:=HM t 0 new l hl;simp at h;subst h;refine⟨by simp[h1],by simp at h2|-;omega,λj=>?_⟩;cases j with
   |zero=>simp
   |succ j=>simp only[List.getElem?_cons_succ];rw[h3 j];simp
  .simp at h
 |[],_+1,_,m,h=>by simp[IH]at h
 |c::t,n+1,new,m,h=>by
  simp only[IH]at h;split at h
  .rename_i l hl;obtain⟨h1,h2,h3⟩:=HM t n new l hl;simp at h;subst h;refine⟨by simp[h1],by simp;omega,λj=>?_⟩;cases j with
   |zero=>simp
   |succ j=>simp only[List.getElem?_cons_succ];rw[h3 j,show j+1-(n+1)=j-n by omega];congr 1;simp;omega
  .simp at h
def BU{α β:Type}{f:α->Option β}:∀(l:List α) (m:List β),Cq f l=C m->m.length=l.length/\∀(j:Nat) (x:α),l[j]?=C x->∃y,m[j]?=C y/\f x=C y
 |[],m,h=>by simp[Cq]at h;subst h;simp
 |a::t,m,h=>by
  simp only[Cq]at h;split at h
  .rename_i b l hb hl;obtain⟨h1,h2⟩:=BU t l hl;simp at h;subst h;refine⟨by simp[h1],λj x hj=>?_⟩;cases j with
   |zero=>simp at hj;subst hj;exact⟨b,rfl,hb⟩
   |succ j=>simp at hj;obtain⟨y,hy,hf⟩:=h2 j x hj;exact⟨y,by simp[hy],hf⟩
  .simp at h
def WY(n:Nat):Qf n=List.range n:=by
 induction n with
 |zero=>rfl
 |succ n ih=>rw[Qf,ih,List.range_succ]
def Fv{a b:IntKind}(h:Dd a b=H):a=b:=by cases a<;>cases b<;>simp_all[Dd]
def Aih{a b:FloatKind}(h:Pd a b=H):a=b:=by cases a<;>cases b<;>simp_all[Pd]
def Acz{T:Nat->Type}{k:IntKind}:∀(l:List (Cv T)) (ns:List Int),TF k l=C ns->l=ns.map λn=>.sc (.int k n)
 |[],ns,h=>by simp[TF]at h;subst h;rfl
 |c::t,ns,h=>by
  cases c with
  |sc v=>
   cases v with
   |int k' n=>
    simp only[TF]at h;cases he:Dd k k' with
    |false=>simp[he]at h
    |true=>
     have e:=Fv he;subst e;simp only[he,d_]at h;split at h
     .rename_i l hl;simp at h;subst h;rw[Acz t l hl];rfl
     .simp at h
   |_=>simp[TF]at h
  |_=>simp[TF]at h
def ZF{T:Nat->Type}:∀(l:List (Cv T)) (ns:List Bool),PT l=C ns->l=ns.map λn=>.sc (.bool n)
 |[],ns,h=>by simp[PT]at h;subst h;rfl
 |c::t,ns,h=>by
  cases c with
  |sc v=>
   cases v with
   |bool n=>
    simp only[PT]at h;split at h
    .rename_i l hl;simp at h;subst h;rw[ZF t l hl];rfl
    .simp at h
   |_=>simp[PT]at h
  |_=>simp[PT]at h
def Ac0{T:Nat->Type}:∀(l:List (Cv T)) (ns:List ByteArray),TG l=C ns->l=ns.map λn=>.sc (.string n)
 |[],ns,h=>by simp[TG]at h;subst h;rfl
 |c::t,ns,h=>by
  cases c with
  |sc v=>
   cases v with
   |string n=>
    simp only[TG]at h;split at h
    .rename_i l hl;simp at h;subst h;rw[Ac0 t l hl];rfl
    .simp at h
   |_=>simp[TG]at h
  |_=>simp[TG]at h
def Yh{T:Nat->Type}{l:List (Cv T)}{i:Nat}{c:Cv T}(h:Ahf l i=C c)(hi:i<l.length):l[i]?=C c:=by
 unfold Ahf at h;split at h
 .split at h
  .rename_i ns hns;have e:=Acz _ _ hns;rw[e]at hi|-;simp at h hi;subst h;simp[hi]
  .simp at h
 .split at h
  .rename_i ns hns;have e:=ZF _ _ hns;rw[e]at hi|-;simp at h hi;subst h;simp[hi]
  .simp at h
 .split at h
  .rename_i ns hns;have e:=Ac0 _ _ hns;rw[e]at hi|-;simp at h hi;subst h;simp[hi]
  .simp at h
 .exact h
def Agd{T:Nat->Type}{b:Bool}{c d e:Cv T}(h:Al3 b c d=C e):e=if b then c else d:=by
 unfold Al3 at h;split at h
 .rename_i k x k' y;cases he:Dd k k' with
  |false=>simp[he]at h
  |true=>have e:=Fv he;subst e;simp[he]at h;subst h;cases b<;>rfl
 .simp at h;subst h;cases b<;>rfl
 .simp at h;subst h;cases b<;>rfl
 .cases b<;>simp at h<;>simp[h]
def FK(b off n:Nat):(⟨b,off,D⟩:Addr).add n=⟨b,off+n,D⟩:=by unfold Addr.add;split<;>simp_all
def Ai6(ok:SigOK P G){x:G.T t}(hc:c∈G.enc t x)
  (r:Rd G S h c v):Rc G ν S h c v:=by
 rcases ok.encd t x c hc with⟨u,rfl⟩|⟨t',l,rfl⟩<;>exact r
def Apc(ok:SigOK P G){x:G.T t}(hc:c∈G.enc t x)
  (r:Rc G ν S h c v):Rd G S h c v:=by
 rcases ok.encd t x c hc with⟨u,rfl⟩|⟨t',l,rfl⟩<;>exact r
def Agk(ok:SigOK P G){B:Nat->Prop}{hp:Nat->Option (Blk G.T)}{w:World}(hr:HRel G ν S B hp w)
  {n:Nat}{c:Cv G.T}{cs:List (Cv G.T)}(h:Gw hp n c=C cs) {v:Value}(hv:Rc G ν S w.heap c v) :
  ∃(b off:Nat) (vs:List Value),v=.pointer (C ⟨b,off,D⟩)/\F2 (Rc G ν S w.heap) cs vs/\vs.length=n/\∀(j:Nat) x,vs[j]?=C x->w.cell? ⟨b,off+j,D⟩=C x:=by
 cases c with
 |ptr m off=>
  simp only[Gw]at h;split at h
  .rename_i ds hd;obtain⟨b,c,te,h1,h2,h3,_⟩:=hr.blk m _ hd;obtain⟨b',h4,rfl⟩:=hv;simp only at h4;rw[h1]at h4;simp at h4;subst h4;obtain⟨p1,p2,p3⟩:=NK h;have hlen:ds.length=c.toList.length:=h3.1;refine⟨b,off,(c.toList.drop off).take n,rfl,⟨by simp at hlen|-;omega,λj x y hx hy=>?_⟩,by simp at hlen|-;omega,λj x hj=>?_⟩
   .have hjn:j<n:=by have:=(g_.1 hx).1;omega
    rw[p3 j hjn]at hx;rw[t_ hjn,b8_]at hy;exact h3.2 _ x y hx hy
   .have hjn:j<n:=by have:=(g_.1 hj).1;simp at this;omega
    rw[t_ hjn,b8_]at hj;rw[d5_ w b (off+j) c te (0,0) h2];simpa using hj
  .simp at h
 |pd m off s len i=>
  simp only[Gw]at h;split at h
  .rename_i ds hd;obtain⟨b,c,te,h1,h2,h3,_⟩:=hr.blk m _ hd;obtain⟨hi,b',h4,rfl⟩:=hv;simp only at h4;rw[h1]at h4;simp at h4;subst h4;simp only[WY]at h;obtain⟨m1,m2⟩:=BU _ _ h;have hcell:∀j,j<n->∃x y,cs[j]?=C x/\c.toList[off+i*s+j]?=C y/\Rc G ν S w.heap x y:=by
    intro j hj;obtain⟨x,hx,hf⟩:=m2 j j (by simp[hj]);split at hf
    .rename_i l hl;obtain⟨l1,l2⟩:=BU _ _ hl;have hil:i<l.length:=by simp at l1;omega
     have hsel:=Yh hf hil;obtain⟨y,hy,hq⟩:=l2 i i (by simp[hi]);rw[hsel]at hy;simp at hy;subst hy;obtain⟨z,hz,hrz⟩:=h3.get hq;exact⟨x,z,hx,hz,hrz⟩
    .simp at hf
   refine⟨b,off+i*s,(List.range n).map (λj=>c.toList.getD (off+i*s+j) undef),rfl,⟨by simp[m1],λj x y hx hy=>?_⟩,σ,λj x hj=>?_⟩
   .have hjn:j<n:=by have:=(g_.1 hx).1;simp at m1;omega
    obtain⟨x',y',e1,e2,e3⟩:=hcell j hjn;rw[e1]at hx;simp at hx;subst hx;simp[hjn]at hy;simp at e2;rw[e2]at hy;simp at hy;subst hy;exact e3
   .have hjn:j<n:=by have:=(g_.1 hj).1;simpa using this
    obtain⟨x',y',e1,e2,e3⟩:=hcell j hjn;simp at e2;simp[hjn,e2]at hj;subst hj;rw[d5_ w b (off+i*s+j) c te (0,0) h2];exact e2
  .simp at h
 |pr m t i off=>
  simp only[Gw]at h;split at h
  .rename_i t' l hd;rw[Bf]at h;by_cases ht:t=t'
   .subst ht;rw[if_pos rfl]at h;obtain⟨b,len,cap,h4,hi,rfl⟩:=hv;rcases hr.blk m _ hd with⟨h1,h2⟩|⟨b',cap',c,te,h1,h2,h3,hsz,h5⟩
    .rw[h1]at h4;simp at h4
    .rw[h1]at h4;simp at h4;obtain⟨rfl,rfl,rfl⟩:=h4;obtain⟨p1,p2,p3⟩:=NK h;have hx:l[i]?=C (l.getD i (G.dfl t)):=by simp[hi]
     have hcell:∀j,j<n->∃x y,cs[j]?=C x/\c[i*G.sz t+off+j]?=C y/\Rc G ν S w.heap x y:=by intro j hj;have hlt:off+j<(G.enc t (l.getD i (G.dfl t))).length:=ω;have he:=j_ hlt;obtain⟨y,hy,hrd⟩:=h5.1 i (off+j) _ _ hx he;exact⟨_,y,(p3 j hj).trans he,by rw[T_];exact hy,Ai6 ok (f1_ hlt) hrd⟩
     refine⟨b',i*G.sz t+off,(List.range n).map (λj=>c.getD (i*G.sz t+off+j) undef),rfl,⟨by simp[p1],λj x y hx hy=>?_⟩,σ,λj x hj=>?_⟩
     .have hjn:j<n:=by have:=(g_.1 hx).1;omega
      obtain⟨x',y',e1,e2,e3⟩:=hcell j hjn;rw[e1]at hx;simp at hx;subst hx;simp[hjn,e2]at hy;subst hy;exact e3
     .have hjn:j<n:=by have:=(g_.1 hj).1;simpa using this
      obtain⟨x',y',e1,e2,e3⟩:=hcell j hjn;simp[hjn,e2]at hj;subst hj;rw[d5_ w b' (i*G.sz t+off+j) c te (0,0) h2];exact e2
   .rw[if_neg ht]at h;simp at h
  .simp at h
 |rp t x off=>
  simp only[Gw]at h;cases hv with
  |rp _ _ _ b base c te fz vs hS hb hc hrd=>
   obtain⟨p1,p2,p3⟩:=NK h;have hl:=ok.encl t x;refine⟨b,base+off,(List.range n).map (λj=>vs (off+j)),rfl,⟨by simp[p1],λj x' y hx hy=>?_⟩,σ,λj x' hj=>?_⟩
   .have hjn:j<n:=by have:=(g_.1 hx).1;omega
    simp[hjn]at hy;subst hy;have hx':=(p3 j hjn).symm.trans hx;exact Ai6 ok (p_ hx') (hrd _ _ hx')
   .have hjn:j<n:=by have:=(g_.1 hj).1;simpa using this
    simp[hjn]at hj;subst hj;rw[d5_ w b (base+off+j) c te fz hb,T_];exact hc (off+j) ω
 |sc v=>simp[Gw]at h
 |own m=>simp[Gw]at h
 |ro t l=>simp[Gw]at h
 |clo f p q=>simp[Gw]at h
 |np n t=>simp[Gw]at h
 |sa n o l=>simp[Gw]at h
end Go.Ab
namespace Go.Ab
variable{G:Sig}
variable{ν:Nat->Option Value}{S:Nat->Prop}{h:Array Obj}{v:Value}{x:Operand}{c:Cv G.T}{R α:Type}{b:Bool}{vs:List Value}{n:Nat}{r:R}{o:Option α}
def M.bind_spec{β:Type}{m:M α}{f:α->M β}{k:β->Option R}(h:M.bind m f R k=C r):m R (λa=>f a R k)=C r:=h
def M.need_spec{k:Unit->Option R}(h:M.need b R k=C r):b=H/\k ()=C r:=by
 cases b
 .simp[M.need]at h
 .exact⟨rfl,h⟩
def M.opt_spec{k:α->Option R}(h:M.opt o R k=C r):∃a,o=C a/\k a=C r:=by
 cases o with
 |none=>simp[M.opt]at h
 |some a=>exact⟨a,rfl,h⟩
def M.split_spec{k:Bool->Option R}(h:M.split b R k=C r):k b=C r:=by cases b<;>exact h
def M.pick_spec{α R:Type}{k:Nat->M α}{i:Nat}{κ:α->Option R}{r:R}:∀{n q:Nat},M.pick k i q n R κ=C r->q<=i/\i<q+n/\k i R κ=C r
 |0,q,h=>by simp[M.pick,M.fail]at h
 |n+1,q,h=>by
  unfold M.pick at h;have h1:=M.split_spec (M.bind_spec h);cases hb:J i q with
  |true=>
   rw[hb]at h1;obtain rfl:i=q:=by simpa using hb
   exact⟨H_ _,ω,h1⟩
  |false=>rw[hb]at h1;obtain⟨g1,g2,g3⟩:=M.pick_spec (n:=n) (q:=q+1) h1;exact⟨ω,ω,g3⟩
def M.bindneed{β:Type}{f:Unit->M β}{k:β->Option R}(h:M.bind (M.need b) f R k=C r):b=H/\f () R k=C r:=M.need_spec h
def M.bindopt{β:Type}{f:α->M β}{k:β->Option R}(h:M.bind (M.opt o) f R k=C r):∃a,o=C a/\f a R k=C r:=M.opt_spec h
section
variable{ev:Operand->Option (Sv G.T)}{R β:Type}{r:R}{k:β->Option R}
def SC{f:Pv G.T->M β}(h:M.bind (evP ev x) f R k=C r):∃y,ev x=C (.p y)/\f y R k=C r:=by
 unfold M.bind evP at h;split at h
 .rename_i y hy;exact⟨y,hy,h⟩
 .simp at h
def bindC{f:Cv G.T->M β}(h:M.bind (evC ev x) f R k=C r):∃y,ev x=C (.p (.one y))/\f y R k=C r:=by
 unfold M.bind evC at h;split at h
 .rename_i y hy;exact⟨y,hy,h⟩
 .simp at h
def Ag{f:IntKind×Int->M β}(h:M.bind (evI ev x) f R k=C r):∃d n,ev x=C (.p (.one (.sc (.int d n))))/\f (d,n) R k=C r:=by
 unfold M.bind evI at h;split at h
 .rename_i d n hy;exact⟨d,n,hy,h⟩
 .simp at h
def Bnf{f:Bool->M β}(h:M.bind (evB ev x) f R k=C r):∃b,ev x=C (.p (.one (.sc (.bool b))))/\f b R k=C r:=by
 unfold M.bind evB at h;split at h
 .rename_i b hy;exact⟨b,hy,h⟩
 .simp at h
def Afo:∀{l:List Operand}{f:List (Pv G.T)->M β},M.bind (TS ev l) f R k=C r->∃ys,f ys R k=C r/\F2 (λx y=>ev x=C (.p y)) l ys
 |[],f,h=>⟨[],h,.nil⟩
 |x::t,f,h=>by unfold TS at h;obtain⟨y,hy,h⟩:=SC (f:=λy=>M.bind (M.bind (TS ev t) λl=>M.ret (y::l)) f) h;obtain⟨ys,h,hys⟩:=Afo (l:=t) (f:=λl=>f (y::l)) h;exact⟨y::ys,h,hys.cons hy⟩
def UW:∀{l:List (Nat×Operand)}{f:List (Nat×Pv G.T)->M β},M.bind (Hc ev l) f R k=C r->
  ∃ys,f ys R k=C r/\F2 (λx y=>x.1=y.1/\ev x.2=C (.p y.2)) l ys
 |[],f,h=>⟨[],h,.nil⟩
 |(i,x)::t,f,h=>by unfold Hc at h;obtain⟨y,hy,h⟩:=SC (f:=λy=>M.bind (M.bind (Hc ev t) λl=>M.ret ((i,y)::l)) f) h;obtain⟨ys,h,hys⟩:=UW (l:=t) (f:=λl=>f ((i,y)::l)) h;exact⟨(i,y)::ys,h,hys.cons ⟨rfl,hy⟩⟩
end
def WS(r:Rd G S h c v):v.oneCell'=H:=by
 cases r with
 |sc v hv=>cases v<;>first|rfl|(simp[IC]at hv)
 |_=>rfl
def Azw(r:Rc G ν S h c v):v.oneCell'=H:=by
 cases c with
 |ptr n off=>obtain⟨b,_,rfl⟩:=r;rfl
 |pd n off s len i=>obtain⟨_,b,_,rfl⟩:=r;rfl
 |pr n t i off=>obtain⟨b,len,cap,_,_,rfl⟩:=r;rfl
 |own n=>obtain⟨a,len,cap,_,rfl⟩:=r;rfl
 |clo f p q=>obtain⟨vp,vq,rfl,_⟩:=r;rfl
 |np n t=>rcases r with rfl|⟨b,_,rfl⟩<;>rfl
 |sa n off len=>obtain⟨b,_,rfl⟩:=r;rfl
 |sc v=>exact WS r
 |ro t l=>exact WS r
 |rp t x off=>exact WS r
def Azi(h:v.oneCell'=H):v.cells=#[v]:=by cases v<;>first|rfl|(simp[Value.oneCell']at h)
def Uh{x:Pv G.T}(r:Rp G ν S h x v):F2 (Rc G ν S h) x.cells v.cells.toList:=by
 cases r with
 |one c v hc=>rw[Azi (Azw hc)];exact F2.nil.cons hc
 |agg cs vs hc=>simpa[Pv.cells,Value.cells]using hc
def QL{t:Nat}{cs:List (Cv G.T)}{x:Pv G.T}(hp:RR G t cs=C x)(r:F2 (Rc G ν S h) cs vs):
  Rp G ν S h x (if(G.ty t).isAgg then .agg vs.toArray else vs.getD 0 undef):=by
 unfold RR at hp;cases ha:(G.ty t).isAgg with
 |true=>simp[ha]at hp;subst hp;simp;exact .agg cs vs r
 |false=>
  simp only[ha,c_]at hp;split at hp
  .simp at hp;subst hp;obtain⟨y,t,rfl,hy,ht⟩:=r.inv;simp;exact .one _ _ hy
  .simp at hp
structure Wrote(w w':World)(b:Nat)(c':Array Value)(te:TypeId):Prop where
 here:w'.heap[b]?=some (.cells c' te (0,0))
 there:∀k,k≠b->w'.heap[k]?=w.heap[k]?
 size:w'.heap.size=w.heap.size
 env:w'.os=w.os/\w'.tape=w.tape/\w'.output=w.output
def IG{P:Program}{b off:Nat}{te:TypeId}:∀(vs:List Value) (i:Nat) (w:World) (c:Array Value),w.heap[b]?=C (.cells c te (0,0))->
  off+i+vs.length<=c.size->(∀v∈vs,v.oneCell'=H)->
  ∃w' c',(storeCells ⟨b,off,D⟩ vs i).run P w=.ok () w'/\Wrote w w' b c' te/\c'.size=c.size/\
   ∀j,c'[j]?=if off+i<=j/\j<off+i+vs.length then vs[j-(off+i)]? else c[j]?
 |[],i,w,c,hb,_,_=>⟨w,c,rfl,⟨hb,λ_ _=>rfl,rfl,rfl,rfl,rfl⟩,rfl,λj=>by simp;omega⟩
 |v::vs,i,w,c,hb,hlen,h1=>by
  have hcell:w.cell? ⟨b,off+i,D⟩=C (c[off+i]'(by simp at hlen;omega)):=by rw[d5_ w b (off+i) c te (0,0) hb];simp
  have hfr:w.frozen? ⟨b,off+i,D⟩=I:=frozen_of_row w b (off+i) c te hb;have hst:(Go.store ((⟨b,off,D⟩:Addr).add i) v).run P w=.ok () (w.setCell ⟨b,off+i,D⟩ v):=by simp only[FK];rw[run_store P w _ v .plain (h1 v σ)];simp[hcell,hfr]
  have hb':(w.setCell ⟨b,off+i,D⟩ v).heap[b]?=C (.cells (c.setIfInBounds (off+i) v) te (0,0)):=heap_setCell_same w b (off+i) c te v hb;obtain⟨w',c',hr,hw,hs,hc⟩:=IG (P:=P) (off:=off) vs (i+1) _ _ hb' (by simp at hlen|-;omega) (λu hu=>h1 u (by simp[hu]));refine⟨w',c',?_,⟨hw.here,λk hk=>(hw.there k hk).trans (heap_setCell_other w _ k v hk),by rw[hw.size];simp,hw.env⟩,by rw[hs];simp,λj=>?_⟩
  .simp only[storeCells,z_];rw[hst];exact hr
  .rw[hc j];simp only[e3_,N_];by_cases hj:off+i=j
   .subst hj
    have:off+i<c.size:=by simp at hlen;omega
    rw[if_neg ω,if_pos ω];simp[this]
   .by_cases hr1:off+(i+1)<=j/\j<off+(i+1)+vs.length
    .rw[if_pos hr1,if_pos ω,show j-(off+i)=(j-(off+(i+1)))+1 by omega];simp
    .rw[if_neg hr1,if_neg hj,if_neg ω]
def AW(h:Nat->Option (Blk G.T)):List (Nat×Option (Blk G.T))->Nat->Option (Blk G.T)
 |[]=>h
 |(n,ob)::t=>AW (λm=>if n=m then ob else h m) t
def XL:∀(d:List (Nat×Option (Blk G.T))) (hp:List (Nat×Blk G.T)),get (Aes hp d)=AW (get hp) d
 |[],hp=>rfl
 |(n,D)::t,hp=>by rw[Aes,XL t,AW];congr 1;funext m;exact WH hp n m
 |(n,C b)::t,hp=>by rw[Aes,XL t,AW];congr 1;funext m;exact SZ hp n m b
section
variable{ν:Nat->Option Value}{S B:Nat->Prop}{hp:Nat->Option (Blk G.T)}{w:World}
def HRel.nu(hr:HRel G ν S B hp w)(h:hp n≠D):ν n≠D:=by
 cases hk:hp n with
 |none=>exact absurd hk h
 |some k=>
  have:=hr.blk n k hk
  cases k with
  |cells cs=>obtain⟨b,c,te,h1,_⟩:=this;rw[h1];simp
  |row t l=>
   rcases this with⟨h1,_⟩|⟨b,cap,c,te,h1,_⟩
   .rw[h1];simp
   .rw[h1];simp
def HRel.lt(hr:HRel G ν S B hp w){b:Nat}{x:Value}(h:hp n≠D)(hx:ν n=C x)(hb:AC x=C b):b<w.heap.size:=by
 cases hk:hp n with
 |none=>exact absurd hk h
 |some k=>
  have hlt:∀{o:Obj},w.heap[b]?=C o->b<w.heap.size:=λh=>(x_.1 h).1
  have:=hr.blk n k hk
  cases k with
  |cells cs=>obtain⟨b',c,te,h1,h2,_⟩:=this;rw[hx]at h1;simp at h1;subst h1;simp[AC]at hb;subst hb;exact hlt h2
  |row t l=>
   rcases this with⟨h1,_⟩|⟨b',cap,c,te,h1,h2,_⟩
   .rw[hx]at h1;simp at h1;subst h1;simp[AC]at hb
   .rw[hx]at h1;simp at h1;subst h1;simp[AC]at hb;subst hb;exact hlt h2
def HRel.wrote(hr:HRel G ν S B hp w){b:Nat}{k':Blk G.T}{x:Value}{c':Array Value}{te:TypeId}{w':World}(hn:hp n≠D)(hx:ν n=C x)(hb:AC x=C b)
  (hw:Wrote w w' b c' te) (hk:Rb G ν S w'.heap n k'):HRel G ν S B (λm=>if n=m then C k' else hp m) w':=by
 have hS:¬S b:=(hr.own n x b hn hx hb).1;have le:Le ν ν S S w.heap w'.heap:=⟨λ_ _ h=>h,λ_ h=>h,λb' hb'=>hw.there b' (λe=>hS (e▸hb'))⟩
 have alive:∀m,(if n=m then C k' else hp m)≠D->hp m≠D:=by
  intro m hm;by_cases e:n=m
  .exact e▸hn
  .simpa[e]using hm
 refine⟨λm k hm=>?_,λm m' y y' b' h1 h2 h3 h4 h5 h6=>hr.apart m m' y y' b' (alive m h1) (alive m' h2) h3 h4 h5 h6,
  λm y b' h1 h2 h3=>hr.own m y b' (alive m h1) h2 h3,λb' hb'=>by rw[hw.size];exact hr.stay b' hb',hr.gl.mono (λ_ h=>h) le.hp⟩
 by_cases e:n=m
 .subst e;simp at hm;subst hm;exact hk
 .simp[e]at hm;refine(hr.blk m k hm).mono le λy b' hy hb'=>hw.there b' (λe'=>e ?_);subst e';exact(hr.apart m n y x b' (by simp[hm]) hn hy hx hb' hb).symm
def Bfc{x y:α}(h:(bif b then C x else D)=C y):b=H/\C x=C y:=by
 cases b with
 |true=>exact⟨rfl,h⟩
 |false=>cases h
def Agw{P:Program}(ok:SigOK P G)(hr:HRel G ν S B hp w)(hv:Rc G ν S w.heap c v){new:List (Cv G.T)}(hnew:F2 (Rc G ν S w.heap) new vs)
  {n:Nat}{k':Blk G.T}(h:ID hp new c=C (n,k')) :
  ∃b off w' x,v=.pointer (C ⟨b,off,D⟩)/\(storeCells ⟨b,off,D⟩ vs).run P w=.ok () w'/\hp n≠D/\ν n=C x/\AC x=C b/\
   (∃c' te,Wrote w w' b c' te)/\HRel G ν S B (λm=>if n=m then C k' else hp m) w':=by
 have hone:∀u∈vs,u.oneCell'=H:=by
  intro u hu;obtain⟨i,hi,e⟩:=List.getElem_of_mem hu;have hi':i<new.length:=by rw[hnew.1];exact hi
  exact Azw (hnew.2 i _ u (j_ hi') (by rw[j_ hi,e]))
 have hS:∀{b:Nat}{x:Value}{m:Nat},hp m≠D->ν m=C x->AC x=C b->∀{w':World}{c':Array Value}{te:TypeId},Wrote w w' b c' te->Le ν ν S S w.heap w'.heap:=by intro b x m hm hx hb w' c' te hw;exact⟨λ_ _ h=>h,λ_ h=>h,λb' hb'=>hw.there b' (λe=>(hr.own m x b hm hx hb).1 (e▸hb'))⟩
 cases c with
 |ptr m off=>
  simp only[ID]at h;split at h
  .rename_i ds hd;split at h
   .rename_i ds' hs;obtain⟨hnp,h⟩:=Bfc h;simp at h;obtain⟨rfl,rfl⟩:=h;obtain⟨b,c,te,h1,h2,h3,_⟩:=hr.blk m _ hd;obtain⟨b',h4,rfl⟩:=hv;simp only at h4;rw[h1]at h4;simp at h4;subst h4;obtain⟨s1,s2,s3⟩:=HM _ _ _ _ hs;have hl:=h3.1;have hl2:=hnew.1;obtain⟨w',c',hrun,hw,hcs,hc⟩:=IG (P:=P) (off:=off) vs 0 w c h2 (by simp at hl;omega) hone;have hm:hp m≠D:=by rw[hd];simp
    have le:=hS hm h1 rfl hw;refine⟨b,off,w',_,rfl,hrun,hm,h1,rfl,⟨c',te,hw⟩,hr.wrote hm h1 rfl hw ⟨b,c',te,h1,hw.here,?_,λm' t' hm'=>absurd (C_.1 hnp _ hm') (by simp[ST])⟩⟩;refine⟨by simp at hl|-;omega,λi x y hx hy=>?_⟩;rw[s3 i]at hx;simp at hy;rw[hc i]at hy;by_cases hi:off<=i/\i<off+new.length
    .rw[if_pos hi]at hx;rw[if_pos ω]at hy;exact(hnew.2 _ x y hx (by simpa using hy)).mono le
    .rw[if_neg hi]at hx;rw[if_neg ω]at hy;exact(h3.2 i x y hx (by simpa using hy)).mono le
   .simp at h
  .simp at h
 |pd m off s len i=>
  simp only[ID]at h;split at h
  .rename_i ds hd;split at h
   .rename_i ds' hs;obtain⟨hnp,h⟩:=Bfc h;simp at h;obtain⟨rfl,rfl⟩:=h;obtain⟨b,c,te,h1,h2,h3,_⟩:=hr.blk m _ hd;obtain⟨hil,b',h4,rfl⟩:=hv;simp only at h4;rw[h1]at h4;simp at h4;subst h4;have hl:=h3.1;have hl2:=hnew.1;have key:∀(qs:List Nat) (es:List (Cv G.T)),Aaq ds off s i new qs=C es->
      es.length=ds.length/\(i∈qs->off+i*s+new.length<=ds.length)/\∀j,es[j]?=if i∈qs/\off+i*s<=j/\j<off+i*s+new.length then new[j-(off+i*s)]? else ds[j]?:=by
     intro qs;induction qs with
     |nil=>intro es he;simp[Aaq]at he;subst he;simp
     |cons q qs ih=>
      intro es he;simp only[Aaq]at he;split at he
      .rename_i es' he';obtain⟨i1,i2,i3⟩:=ih es' he';split at he
       .rename_i old hold;split at he
        .rename_i l hl';obtain⟨p1,p2,p3⟩:=NK hold;obtain⟨m1,m2⟩:=BU _ _ hl';obtain⟨s1,s2,s3⟩:=HM _ _ _ _ he;have hlen:l.length=new.length:=by simp[p1]at m1;omega
         have hlv:∀j,j<new.length->l[j]?=if i=q then new[j]? else old[j]?:=by
          intro j hj;have hz:(new.zip old)[j]?=C (new[j],old[j]):=by simp[hj,p1]
          obtain⟨y,hy,hf⟩:=m2 j _ hz
          have:=Agd hf
          rw[hy,this];by_cases e:i=q
          .simp[e,hj]
          .have hbf:J i q=I:=by cases hb:J i q with|false=>rfl|true=>exact absurd (AA.1 hb) e
           simp[hbf,e,p1,hj]
         refine⟨ω,λhi=>?_,λj=>?_⟩
         .rcases v_.1 hi with rfl|hi
          .rw[i1]at p2;exact p2
          .exact i2 hi
         .rw[s3 j,hlen];by_cases hj:off+q*s<=j/\j<off+q*s+new.length
          .rw[if_pos hj,hlv _ ω];by_cases e:i=q
           .subst e;rw[if_pos rfl,if_pos ⟨σ,hj⟩]
           .rw[if_neg e,p3 _ ω,i3,show off+q*s+(j-(off+q*s))=j by omega];simp[e]
          .rw[if_neg hj,i3];by_cases e:i=q
           .subst e;rw[if_neg (by intro h;exact hj ⟨h.2.1,h.2.2⟩),if_neg (by intro h;exact hj ⟨h.2.1,h.2.2⟩)]
           .simp[e]
        .simp at he
       .simp at he
      .simp at he
    obtain⟨k1,k2,k3⟩:=key _ _ hs;have himem:i∈Qf len:=by simp only[WY,List.mem_range];exact hil
    obtain⟨w',c',hrun,hw,hcs,hc⟩:=IG (P:=P) (off:=off+i*s) vs 0 w c h2 (by have:=k2 himem;simp at hl;omega) hone;have hm:hp m≠D:=by rw[hd];simp
    have le:=hS hm h1 rfl hw;refine⟨b,off+i*s,w',_,rfl,hrun,hm,h1,rfl,⟨c',te,hw⟩,hr.wrote hm h1 rfl hw ⟨b,c',te,h1,hw.here,?_,λm' t' hm'=>absurd (C_.1 hnp _ hm') (by simp[ST])⟩⟩;refine⟨by simp at hl|-;omega,λj x y hx hy=>?_⟩;rw[k3 j]at hx;simp at hy;rw[hc j]at hy;by_cases hi:off+i*s<=j/\j<off+i*s+new.length
    .rw[if_pos ⟨himem,hi⟩]at hx;rw[if_pos ω]at hy;exact(hnew.2 _ x y hx (by simpa using hy)).mono le
    .rw[if_neg (by intro h;exact hi h.2)]at hx;rw[if_neg ω]at hy;exact(h3.2 j x y hx (by simpa using hy)).mono le
   .simp at h
  .simp at h
 |pr m t i off=>
  simp only[ID]at h;split at h
  .rename_i t' l hd;rw[Bf]at h;by_cases ht:t=t'
   .subst ht;rw[if_pos rfl]at h;split at h
    .rename_i cs' hs;split at h
     .rename_i x' hx';simp at h;obtain⟨rfl,rfl⟩:=h;obtain⟨b,len,cap,h4,hi,rfl⟩:=hv;rcases hr.blk m _ hd with⟨h1,h2⟩|⟨b',cap',c,te,h1,h2,h3,hsz,h5⟩
      .rw[h1]at h4;simp at h4
      .rw[h1]at h4;simp at h4;obtain⟨rfl,rfl,rfl⟩:=h4;have he:=ok.encdec _ _ _ hx';obtain⟨s1,s2,s3⟩:=HM _ _ _ _ hs;have hel:=ok.encl t (l.getD i (G.dfl t));have hl2:=hnew.1;have hroom:i*G.sz t+off+0+vs.length<=c.size:=by
        rw[hsz]
        have:(i+1)*G.sz t<=cap'*G.sz t:=B_ _ ω
        rw[a0_]at this;omega
       obtain⟨w',c',hrun,hw,hcs,hc⟩:=IG (P:=P) (off:=i*G.sz t+off) vs 0 w c h2 hroom hone;have hm:hp m≠D:=by rw[hd];simp
       have le:=hS hm h1 rfl hw;refine⟨b',i*G.sz t+off,w',_,rfl,hrun,hm,h1,rfl,⟨c',te,hw⟩,hr.wrote hm h1 rfl hw (.inr ⟨b',cap',c',te,by simpa using h1,hw.here,by simpa using h3,by rw[hcs,hsz],?_,h5.2⟩)⟩;intro i' j x cv hx hcv;have hel':=ok.encl t x;have hj:j<(G.enc t x).length:=(g_.1 hcv).1;rw[hc];rw[List.getElem?_set]at hx;by_cases hii:i=i'
       .subst hii;simp[hi]at hx;subst hx;rw[he,s3]at hcv;by_cases hjn:off<=j/\j<off+new.length
        .rw[if_pos hjn]at hcv;rw[if_pos ω];obtain⟨y,hy,hr'⟩:=hnew.get hcv;refine⟨y,by rw[show i*G.sz t+j-(i*G.sz t+off+0)=j-off by omega];exact hy,?_⟩;exact(Apc ok (t:=t) (x:=x') (by rw[he];exact p_ (by rw[s3,if_pos hjn];exact hcv)) hr').mono le.st le.hp
        .rw[if_neg hjn]at hcv;rw[if_neg ω];obtain⟨v,hv,hrd⟩:=h5.1 i j (l.getD i (G.dfl t)) cv (by simp[hi]) hcv;exact⟨v,hv,hrd.mono le.st le.hp⟩
       .rw[if_neg hii]at hx;obtain⟨v,hv,hrd⟩:=h5.1 i' j x cv hx hcv;refine⟨v,?_,hrd.mono le.st le.hp⟩;rw[if_neg ?_]
        .exact hv
        .rcases Nat.lt_or_gt_of_ne hii with h'|h'
         .have:(i+1)*G.sz t<=i'*G.sz t:=B_ _ h'
          rw[a0_]at this;omega
         .have:(i'+1)*G.sz t<=i*G.sz t:=B_ _ h'
          rw[a0_]at this;omega
     .simp at h
    .simp at h
   .rw[if_neg ht]at h;simp at h
  .simp at h
 |sc v=>simp[ID]at h
 |own m=>simp[ID]at h
 |ro t l=>simp[ID]at h
 |rp t x off=>simp[ID]at h
 |clo f p q=>simp[ID]at h
 |np n t=>simp[ID]at h
 |sa n o l=>simp[ID]at h
end
section
variable{G:Sig}
def Adk{α:Type}{i:Nat}{f:Nat->Option α}:∀{l:List Nat}{R:Type}{k:α->Option R}{r:R},Uk i f l R k=C r->∃a,f i=C a/\k a=C r
 |[],_,_,_,h=>by simp[Uk,M.fail]at h
 |q::t,R,k,r,h=>by
  simp only[Uk]at h;cases hb:J i q with
  |true=>
   rw[hb,d_]at h;have e:i=q:=AA.1 hb;subst e;simp only[M.opt]at h;split at h
   .exact⟨_,by assumption,h⟩
   .cases h
  |false=>rw[hb,c_]at h;exact Adk h
def Agj{h:Nat->Option (Blk G.T)}{c:Cv G.T}{k:List (Cv G.T)->Option R}(hr:Vf h n c R k=C r):
  ∃c' cs,(c'=c\/∃b off s len i,c=.pd b off s len i/\c'=.ptr b (off+i*s))/\Gw h n c'=C cs/\k cs=C r:=by
 unfold Vf at hr;cases hb:Abp h c with
 |false=>
  rw[hb,c_]at hr;obtain⟨cs,h1,h2⟩:∃cs,Gw h n c=C cs/\k cs=C r:=by
   simp only[M.opt]at hr;split at hr
   .exact⟨_,by assumption,hr⟩
   .cases hr
  exact⟨c,cs,.inl rfl,h1,h2⟩
 |true=>
  rw[hb,d_]at hr;cases c with
  |pd b off s len i=>obtain⟨cs,h1,h2⟩:=Adk hr;exact⟨_,cs,.inr ⟨_,_,_,_,_,rfl,rfl⟩,h1,h2⟩
  |_=>cases hr
end
end Go.Ab
namespace Go.Ab
variable{G:Sig}
variable{x:Operand}{v:Value}{nm t:Nat}{out:Out G}{S:Nat->Prop}{h:Array Obj}{k:Blk G.T}
def Aal{T:Nat->Type}{cs:List (Cv T)}(h:cs.all ST=H){m:Nat}(hm:Cv.np m t∈cs):False:=by
 have:=C_.1 h _ hm
 simp[ST]at this
def Bag{n m t':Nat}(_hz:∀v∈G.zero t,IC v=H)(hm:Cv.np m t'∈Uv G n t):m=n/\t=t':=by
 have hz0:Cv.np m t'∉Er G t:=λh=>by unfold Er at h;obtain⟨v,_,e⟩:=b2_.1 h;cases e
 unfold Uv at hm;cases hs:Avs G t with
 |false=>rw[hs]at hm;exact absurd hm hz0
 |true=>
  rw[hs,d_]at hm;generalize Er G t=l at hm hz0;unfold Aom at hm;split at hm
  .simp only[v_]at hm hz0;rcases hm with h|h
   .cases h;exact⟨rfl,rfl⟩
   .exact absurd (.inr h) hz0
  .exact absurd hm hz0
def Awg{ν:Nat->Option Value}{n:Nat}{vs:List Value}(hF:F2 (Rc G ν S h) (Er G t) vs):F2 (Rc G ν S h) (Uv G n t) vs:=by
 unfold Uv;cases hs:Avs G t with
 |false=>exact hF
 |true=>
  rw[d_];generalize Er G t=l at hF;unfold Aom;split
  .obtain⟨y,r,rfl,h1,h2⟩:=hF.inv;have h1':Rd G S h (.sc (.pointer D)) y:=h1;cases h1';exact .cons (.inl rfl) h2
  .exact hF
def Runs(P:Program)(G:Sig)(ρ:Operand->Value)(o:Oper)(ν:Nat->Option Value)(S B:Nat->Prop)(h:Nat->Option (Blk G.T))(w:World)(out:Out G):Prop:=∃nx w' v ν' S',(execOp ρ o).run P w=.ok nx w'/\(nx=.value v\/(nx=.skip/\v=undef))/\Post G ν S B h w out (AW h out.d) ν' S' w' v
def Bgw{x:G.T t}{off:Nat}(r:Rd G S h (.rp t x off) v):∃b o,v=.pointer (C ⟨b,o,D⟩):=by cases r;exact⟨_,_,rfl⟩
section
variable{P:Program}{ν:Nat->Option Value}{S B:Nat->Prop}{h:Nat->Option (Blk G.T)}{w:World}{ρ:Operand->Value}{o:Oper}
def Post.pure(hr:HRel G ν S B h w)(hd:out.d=[])(hv:∀s,out.v=C s->Rs G ν S w.heap s v):
  Post G ν S B h w out (AW h out.d) ν S w v:=
 ⟨λ_ _ h=>h,λ_ h=>.inl h,λ_ h=>h,λ_ h=>.inl h,by rw[hd];exact hr,hv,H_ _,λ_ _ _=>rfl,rfl,rfl,rfl⟩
def Runs.value(hr:HRel G ν S B h w)(hd:out.d=[])(hrun:(execOp ρ o).run P w=.ok (.value v) w)(hv:∀s,out.v=C s->Rs G ν S w.heap s v):
  Runs P G ρ o ν S B h w out:=
 ⟨_,w,v,ν,S,hrun,.inl rfl,Post.pure hr hd hv⟩
def Runs.outP(hr:HRel G ν S B h w){x:Pv G.T}(hrun:(execOp ρ o).run P w=.ok (.value v) w)(hv:Rp G ν S w.heap x v):
  Runs P G ρ o ν S B h w (outP x):=
 Runs.value hr rfl hrun λs hs=>by simp[Ab.outP]at hs;subst hs;exact .p _ _ hv
def Runs.outV(hr:HRel G ν S B h w)(hrun:(execOp ρ o).run P w=.ok (.value v) w)(hv:IC v=H):
  Runs P G ρ o ν S B h w (Ab.outV v):=
 Runs.outP hr hrun (.one _ _ (.sc v hv))
def ext(ν:Nat->Option Value)(nm:Nat)(x:Value):Nat->Option Value:=λn=>if n=nm then C x else ν n
def Af0{x:Value}(hν:ν nm=D):∀n y,ν n=C y->ext ν nm x n=C y:=by
 intro n y hy;unfold ext;by_cases e:n=nm
 .subst e;rw[hν]at hy;simp at hy
 .simp[e,hy]
def Arx{x:Value}:∀n,ext ν nm x n≠D->ν n≠D\/n∈[nm]:=by
 intro n hn;unfold ext at hn;by_cases e:n=nm
 .exact .inr (by simp[e])
 .simp[e]at hn;exact .inl hn
def CJ{x:Value}:ext ν nm x nm=C x:=by simp[ext]
def HRel.add(hr:HRel G ν S B h w){x:Value}{w':World}(hν:ν nm=D)
  (hsame:∀b,b<w.heap.size->(S b\/∃m y,h m≠D/\ν m=C y/\AC y=C b)->w'.heap[b]?=w.heap[b]?) (hsize:w.heap.size<=w'.heap.size)
  (hnew:∀b,AC x=C b->¬S b/\B b/\∀m y,h m≠D->ν m=C y->AC y≠C b)
  (hk:Rb G (ext ν nm x) S w'.heap nm k):HRel G (ext ν nm x) S B (λm=>if nm=m then C k else h m) w':=by
 have le:Le ν (ext ν nm x) S S w.heap w'.heap:=⟨Af0 hν,λ_ h=>h,λb hb=>hsame b (hr.stay b hb) (.inl hb)⟩
 have old:∀m,nm≠m->∀y,ext ν nm x m=C y->ν m=C y:=by intro m hm y hy;unfold ext at hy;rwa [if_neg (e0_ hm)]at hy
 refine⟨λm k' hm=>?_,λm m' y y' b h1 h2 h3 h4 h5 h6=>?_,λm y b h1 h2 h3=>?_,λb hb=>c5_ (hr.stay b hb) hsize,hr.gl.mono (λ_ h=>h) le.hp⟩
 .by_cases e:nm=m
  .subst e;simp at hm;subst hm;exact hk
  .simp[e]at hm;exact(hr.blk m k' hm).mono le λy b hy hb=>hsame b (hr.lt (by simp[hm]) hy hb) (.inr ⟨m,y,by simp[hm],hy,hb⟩)
 .by_cases e:nm=m
  .subst e;by_cases e':nm=m'
   .exact e'
   .rw[CJ]at h3;simp at h3;subst h3;simp[e']at h2;exact absurd h6 ((hnew b h5).2.2 m' y' h2 (old m' e' y' h4))
  .simp[e]at h1;by_cases e':nm=m'
   .subst e';rw[CJ]at h4;simp at h4;subst h4;exact absurd h5 ((hnew b h6).2.2 m y h1 (old m e y h3))
   .simp[e']at h2;exact hr.apart m m' y y' b h1 h2 (old m e y h3) (old m' e' y' h4) h5 h6
 .by_cases e:nm=m
  .subst e;rw[CJ]at h2;simp at h2;subst h2;exact⟨(hnew b h3).1,(hnew b h3).2.1⟩
  .simp[e]at h1;exact hr.own m y b h1 (old m e y h2) h3
def HRel.sub(hr:HRel G ν S B h w){h':Nat->Option (Blk G.T)}(hs:∀m,h' m≠D->h' m=h m):HRel G ν S B h' w:=by
 have al:∀m,h' m≠D->h m≠D:=λm hm=>by rw[<-hs m hm];exact hm
 exact⟨λn k hk=>hr.blk n k (by rw[<-hs n (by simp[hk])];exact hk),λn m x y b h1 h2=>hr.apart n m x y b (al n h1) (al m h2),λn x b h1=>hr.own n x b (al n h1),hr.stay,hr.gl⟩
def Post.alloc(hr:HRel G ν S B h w)(hB:∀b,w.heap.size<=b->B b)(hν:ν nm=D){c:Array Value}{te:TypeId}{x:Value}
  (hd:out.d=[(nm,C k)]) (hn:out.nw=[nm]) (hx:AC x=C w.heap.size) {w':World}(hheap:w'.heap=w.heap.push (.cells c te)) (henv:w'.os=w.os/\w'.tape=w.tape/\w'.output=w.output)
  (hk:Rb G (ext ν nm x) S (w.heap.push (.cells c te)) nm k) {v:Value}
  (hv:∀s,out.v=C s->Rs G (ext ν nm x) S (w.heap.push (.cells c te)) s v):Post G ν S B h w out (AW h out.d) (ext ν nm x) S w' v:=by
 have hold:∀b,b<w.heap.size->w'.heap[b]?=w.heap[b]?:=λb hb=>by rw[hheap,Array.getElem?_push,if_neg (Nat.ne_of_lt hb)]
 refine⟨Af0 hν,by rw[hn];exact Arx,λ_ h=>h,λ_ h=>.inl h,?_,by rw[hheap];exact hv,by rw[hheap];simp,λb hb _=>hold b hb,henv⟩;rw[hd];refine hr.add hν (λb hb _=>hold b hb) (by rw[hheap];simp) (λb hb=>?_) (by rw[hheap];exact hk);rw[hx]at hb;simp at hb;subst hb;refine⟨λhS=>absurd (hr.stay _ hS) (Nat.lt_irrefl _),hB _ (H_ _),λm y hm hy e=>absurd (hr.lt hm hy e) (Nat.lt_irrefl _)⟩
def Aip(o:Obj){x:Value}(hr:HRel G ν S B h w)(hν:ν nm=D):Le ν (ext ν nm x) S S w.heap (w.heap.push o):=⟨Af0 hν,λ_ h=>h,λb hb=>by rw[Array.getElem?_push,if_neg (Nat.ne_of_lt (hr.stay b hb))]⟩
variable(ok:SigOK P G){ev:Operand->Option (Sv G.T)}(hev:∀x s,ev x=C s->Rs G ν S w.heap s (ρ x))(hr:HRel G ν S B h w)(hB:∀b,w.heap.size<=b->B b)
 {cf:BW G}{nm:Nat}{out:Out G}(hfresh:∀n∈out.nw,ν n=D)
include hev
theorem Ug{y:Pv G.T}(hx:ev x=C (.p y)):Rp G ν S w.heap y (ρ x):=by
 have:=hev x _ hx
 cases this with
 |p _ _ h=>exact h
theorem FF{y:Cv G.T}(hx:ev x=C (.p (.one y))):Rc G ν S w.heap y (ρ x):=by
 have:=Ug hev hx
 cases this with
 |one _ _ h=>exact h
theorem DN(hx:ev x=C (.p (.one (.sc v)))):ρ x=v/\IC v=H:=by
 have h:Rd G S w.heap (.sc v) (ρ x):=FF hev hx;generalize ρ x=u at h;cases h with
 |sc _ hv=>exact⟨rfl,hv⟩
include hr
theorem Aj5(ho:o.op=.move x\/o.op=.assign x)(hact:Qy ev x (Out G) C=C out):Runs P G ρ o ν S B h w out:=by
 unfold Qy at hact;split at hact
 .rename_i s hs;simp at hact;subst hact;refine Runs.value hr rfl (v:=ρ x) ?_ (λs' hs'=>by simp at hs';subst hs';exact hev x _ hs);rcases ho with e|e<;>(unfold execOp;rw[e];rfl)
 .simp at hact
theorem Azm{c y:Operand}(ho:o.op=.pick c x y)(hact:UU ev c x y (Out G) C=C out):Runs P G ρ o ν S B h w out:=by
 unfold UU at hact;obtain⟨b,hb,hact⟩:=Bnf hact;have hact:=M.split_spec (M.bind_spec hact);unfold Qy at hact;split at hact
 .rename_i s hs;simp at hact;subst hact;have hρ:=(DN hev hb).1;refine Runs.value hr rfl (v:=if b then ρ x else ρ y) ?_ (λs' hs'=>by simp at hs';subst hs';cases b<;>exact hev _ _ hs);unfold execOp;rw[ho];simp only[z_,hρ,asBool,a4_,q_]
 .simp at hact
include ok
theorem Azc(ho:o.op=.load t x)(hact:OY ev h t x (Out G) C=C out):Runs P G ρ o ν S B h w out:=by
 unfold OY at hact;obtain⟨c,hc,hact⟩:=bindC hact;obtain⟨c',cs,hcc,hcs,hact⟩:=Agj hact;obtain⟨x',hx',hact⟩:=M.bindopt hact;simp[M.ret]at hact;subst hact;have hrc:Rc G ν S w.heap c' (ρ x):=by
  have h0:=FF hev hc;rcases hcc with rfl|⟨_,_,_,_,_,rfl,rfl⟩
  .exact h0
  .exact h0.2
 obtain⟨b,off,vs,hv,hf,hlen,hcell⟩:=Agk ok hr hcs hrc;have hno:G.ty t≠ .no:=by
  intro e;rw[ok.nosz t e]at hlen
  have:cs=[]:=by have:=hf.1;rw[hlen]at this;exact P_ this
  subst this;simp[RR,e,Ty.isAgg]at hx'
 refine Runs.value hr rfl (v:=if(G.ty t).isAgg then .agg vs.toArray else vs.getD 0 undef) ?_ (λs hs=>by simp at hs;subst hs;exact .p _ _ (QL hx' hf));have hload:(loadCells ⟨b,off,D⟩ vs.length).run P w=.ok vs.toArray w:=run_loadCells_list (P:=P) w ⟨b,off,D⟩ vs (λj v hj=>by rw[FK];exact hcell j v hj);unfold execOp;rw[ho];simp only[Instr.loadAt,hv,Instr.sureAddr,loadVar,z_,a4_,q_,ok.isAgg w hno];cases ha:(G.ty t).isAgg with
 |true=>simp only[if_true,z_,ok.sizeOf w hno,q_,<-hlen,hload,a4_]
 |false=>
  have hone:vs.length=1:=by
   simp only[RR,ha,c_]at hx';split at hx'
   .have:=hf.1;simpa using this.symm
   .simp at hx'
  obtain⟨u,rfl⟩:∃u,vs=[u]:=List.length_eq_one_iff.1 hone;have hu:=hcell 0 u rfl;simp only[b6_]at hu;simp[hu]
theorem Are{y:Operand}(ho:o.op=.store t x y){c:Cv G.T}(hc:ev x=C (.p (.one c))){x':Pv G.T}(hx':ev y=C (.p x'))(hsz:(J x'.cells.length (G.sz t)&&!Nu (G.ty t))=H)
  (hact:Rt h c x'.cells (Out G) C=C out):Runs P G ρ o ν S B h w out:=by
 unfold Rt at hact;obtain⟨⟨n,k'⟩,hp,hact⟩:=M.bindopt hact;simp[M.ret]at hact;subst hact;have hnew:=Uh (Ug hev hx');obtain⟨b,off,w',xx,hv,hrun,hn,hνn,hb,⟨c',te,hw⟩,hrel⟩:=Agw ok hr (FF hev hc) hnew hp;have hsize:(ρ y).cells.size=G.sz t:=by
  have:=hnew.1
  simp at hsz;rw[hsz.1]at this;simpa using this.symm
 have hno:G.ty t≠ .no:=by intro e;simp[e,Nu]at hsz
 refine⟨.skip,w',undef,ν,S,?_,.inr ⟨rfl,rfl⟩,⟨λ_ _ h=>h,λ_ h=>.inl h,λ_ h=>h,λ_ h=>.inl h,hrel,λs hs=>by simp at hs,by rw[hw.size];exact H_ _,
  λb' hb' hnot=>hw.there b' (λe=>hnot n xx hn hνn (e▸hb)),hw.env⟩⟩
 unfold execOp;rw[ho];simp only[Instr.storeAt,hv,Instr.sureAddr,storeVar,z_,a4_,q_,ok.sizeOf w hno,hsize];simp[hrun]
include hB hfresh
omit hev in
theorem Atd(ho:o.op=.alloc t)(hact:ZB nm t (Out G) C=C out):Runs P G ρ o ν S B h w out:=by
 unfold ZB at hact;have hno:G.ty t≠ .no:=by intro e;simp[e,M.fail]at hact
 have hact':C (⟨C (.p (.one (.ptr nm 0))),[(nm,C (.cells (Uv G nm t)))],[nm],[]⟩:Out G)=C out:=by cases hty:G.ty t<;>simp only[hty]at hact<;>first|exact absurd hty hno|exact hact
 simp at hact';subst hact';obtain⟨z,hz,hzc⟩:=ok.zeroV w hno;refine⟨.value (.pointer (C ⟨w.heap.size,0,D⟩)),{ w with heap:=w.heap.push (.cells z.cells t) },_,ext ν nm (.pointer (C ⟨w.heap.size,0,D⟩)),S,?_,.inl rfl,?_⟩
 .unfold execOp;rw[ho];simp[Instr.alloc,hz,newVar,newRow]
 .have hν:=hfresh nm σ;refine Post.alloc (k:=.cells (Uv G nm t)) (c:=z.cells) (te:=t) (w':={ w with heap:=w.heap.push (.cells z.cells t) }) hr hB hν rfl rfl rfl rfl ⟨rfl,rfl,rfl⟩ ⟨w.heap.size,z.cells,t,CJ,σ,?_,λm t' hm=>Bag (ok.zsc t) hm⟩ λs hs=>?_
  .rw[hzc];have hz0:F2 (Rc G (ext ν nm (.pointer (C ⟨w.heap.size,0,D⟩))) S (w.heap.push (.cells z.cells t))) (Er G t) (G.zero t):=
    F2.map_left ⟨rfl,λi x y hx hy=>by rw[hx]at hy;simp at hy;subst hy;exact .sc _ (ok.zsc t x (p_ hx))⟩
   exact Awg hz0
  .simp at hs;subst hs;exact .p _ _ (.one _ _ ⟨w.heap.size,CJ,rfl⟩)
omit ok
theorem Bb2(ho:o.op=.box t x)(hact:ZD ev nm x (Out G) C=C out):Runs P G ρ o ν S B h w out:=by
 unfold ZD at hact;obtain⟨y,hy,hact⟩:=SC hact;obtain⟨hnp,hact⟩:=M.bindneed hact;simp[M.ret]at hact;subst hact;have hν:=hfresh nm σ;have hc:=Uh (Ug hev hy);refine⟨.value (.pointer (C ⟨w.heap.size,0,D⟩)),{ w with heap:=w.heap.push (.cells (ρ x).cells t) },_,ext ν nm (.pointer (C ⟨w.heap.size,0,D⟩)),S,?_,.inl rfl,?_⟩
 .unfold execOp;rw[ho];simp[Instr.box,newVar,newRow]
 .refine Post.alloc (k:=.cells y.cells) (c:=(ρ x).cells) (te:=t) (w':={ w with heap:=w.heap.push (.cells (ρ x).cells t) }) hr hB hν rfl rfl rfl rfl ⟨rfl,rfl,rfl⟩ ⟨w.heap.size,(ρ x).cells,t,CJ,σ,?_,λm t' hm=>(Aal hnp hm).elim⟩ λs hs=>?_
  .exact hc.mono λ_ _=>Rc.mono (Aip _ hr hν)
  .simp at hs;subst hs;exact .p _ _ (.one _ _ ⟨w.heap.size,CJ,rfl⟩)
omit hB hfresh
theorem Bc6(ho:o.op=.nilCheck x)(hact:ZE ev x (Out G) C=C out):Runs P G ρ o ν S B h w out:=by
 unfold ZE at hact;obtain⟨c,hc,hact⟩:=bindC hact;obtain⟨hp,hact⟩:=M.bindneed hact;simp[M.ret]at hact;subst hact;have hrc:=FF hev hc;refine Runs.outP hr (v:=ρ x) ?_ (.one _ _ hrc);unfold execOp;rw[ho];cases c with
 |ptr n off=>obtain⟨b,_,e⟩:=hrc;simp[e]
 |pd n off s len i=>obtain⟨_,b,_,e⟩:=hrc;simp[e]
 |pr n t i off=>obtain⟨b,len,cap,_,_,e⟩:=hrc;simp[e]
 |clo f p q=>obtain⟨vp,vq,e,_⟩:=hrc;simp[e]
 |rp t' x' off=>obtain⟨b,o',e⟩:=Bgw hrc;simp[e]
 |_=>simp[isP]at hp
theorem Anq{i:Nat}(ho:o.op=.extract x i)(hact:Lb ev x i (Out G) C=C out):Runs P G ρ o ν S B h w out:=by
 unfold Lb at hact;split at hact
 .rename_i xs hx;split at hact
  .rename_i y hy;simp at hact;subst hact
   have:=hev x _ hx
   generalize hu:ρ x=u at this;cases this with
   |tup _ vs hvs=>obtain⟨v,hv,hr'⟩:=hvs.get hy;refine Runs.outP hr (v:=v) ?_ hr';unfold execOp;rw[ho];simp only[hu,Instr.extract];simp[hv]
  .simp at hact
 .simp at hact
end
end Go.Ab
namespace Go.Ab
variable{G:Sig}
variable{x:Operand}
section
variable{P:Program}{ν:Nat->Option Value}{S B:Nat->Prop}{h:Nat->Option (Blk G.T)}{w:World}{ρ:Operand->Value}{o:Oper}
variable(ok:SigOK P G){ev:Operand->Option (Sv G.T)}(hev:∀x s,ev x=C s->Rs G ν S w.heap s (ρ x))(hr:HRel G ν S B h w)(hB:∀b,w.heap.size<=b->B b)
 {cf:BW G}{nm:Nat}{out:Out G}(hfresh:∀n∈out.nw,ν n=D)
theorem Api{d:Nat}{c c':Cv G.T}(hs:JR d c=C c'){v:Value}(hv:Rc G ν S w.heap c v) :
  ∃b off,v=.pointer (C ⟨b,off,D⟩)/\Rc G ν S w.heap c' (.pointer (C ⟨b,off+d,D⟩)):=by
 cases c with
 |ptr n off=>simp[JR]at hs;subst hs;obtain⟨b,h1,rfl⟩:=hv;exact⟨b,off,rfl,b,h1,rfl⟩
 |pd n off s len i=>simp[JR]at hs;subst hs;obtain⟨hi,b,h1,rfl⟩:=hv;exact⟨b,off+i*s,rfl,hi,b,h1,by simp only[Value.pointer.injEq,c7_,Addr.mk.injEq,and_true,true_and];omega⟩
 |pr n t i off=>simp[JR]at hs;subst hs;obtain⟨b,len,cap,h1,hi,rfl⟩:=hv;exact⟨b,i*G.sz t+off,rfl,b,len,cap,h1,hi,by rw[T_]⟩
 |rp t x off=>
  simp[JR]at hs;subst hs;cases hv with
  |rp _ _ _ b base c te fz vs hS hb hc hrd=>exact⟨b,base+off,rfl,by rw[T_];exact .rp t x (off+d) b base c te fz vs hS hb hc hrd⟩
 |sc v=>simp[JR]at hs
 |own m=>simp[JR]at hs
 |ro t l=>simp[JR]at hs
 |clo f p q=>simp[JR]at hs
 |np n t=>simp[JR]at hs
 |sa n o l=>simp[JR]at hs
include ok in
theorem Anr{t f:Nat}{fs:List (Nat×Nat)}(ht:G.ty t=.st fs){o:Nat×Nat}(hf:fs[f]?=C o) :
  ∃fields fld,P.underlying t=C (.struct fields)/\fields[f]?=C fld/\fld.offset=o.1/\fld.type=o.2/\G.ty o.2≠ .no:=by
 obtain⟨fields,h1,h2,h3⟩:=ok.strc t fs ht;rw[<-h2]at hf;rw[b7_]at hf;cases hq:fields.toList[f]? with
 |none=>simp[hq]at hf
 |some fld=>simp[hq]at hf;refine⟨fields,fld,h1,by simpa using hq,by rw[<-hf],by rw[<-hf],?_⟩;refine h3 o.1 o.2 ?_;rw[<-h2];exact b2_.2 ⟨fld,p_ hq,by rw[<-hf]⟩
include hev
omit hev in
theorem NH{i:Int}{n:Nat}(hb:inB i n=H):0<=i/\i<n:=by simpa[inB]using hb
include hr
include ok in
theorem Aik{t f:Nat}(ho:o.op=.fieldAddr t x f)(hact:Hw ev t x f (Out G) C=C out):Runs P G ρ o ν S B h w out:=by
 unfold Hw at hact;cases ht:G.ty t with
 |st fs=>simp only[ht]at hact;obtain⟨c,hc,hact⟩:=bindC hact;obtain⟨o',hf,hact⟩:=M.bindopt hact;obtain⟨c',hs,hact⟩:=M.bindopt hact;simp[M.ret]at hact;subst hact;obtain⟨b,off,hv,hrc⟩:=Api hs (FF hev hc);obtain⟨fields,fld,h1,h2,h3,h4,h5⟩:=Anr ok ht hf;refine Runs.outP hr (v:=.pointer (C ⟨b,off+o'.1,D⟩)) ?_ (.one _ _ hrc);have hpos:=ok.pos _ h5;unfold execOp;rw[ho];simp only[Instr.fieldAt,z_,A_ h1 w,q_,h2,hv,Instr.sureAddr,a4_,fieldPlace,h4,ok.sizeOf w h5,h3,FK];rw[if_neg ω];rfl
 |_=>simp[ht,M.fail]at hact
include ok in
theorem Auh{t f:Nat}(ho:o.op=.field t x f)(hact:QX ev t x f (Out G) C=C out):Runs P G ρ o ν S B h w out:=by
 unfold QX at hact;cases ht:G.ty t with
 |st fs=>
  simp only[ht]at hact;obtain⟨c,hc,hact⟩:=SC hact;have hrp:=Ug hev hc;generalize hu:ρ x=u at hrp;cases hrp with
  |one c v hc'=>simp[Af1,M.fail]at hact
  |agg ds vs hf2=>
  simp only[Af1]at hact;obtain⟨o',hf,hact⟩:=M.bindopt hact;obtain⟨cs,hcs,hact⟩:=M.bindopt hact;obtain⟨y,hy,hact⟩:=M.bindopt hact;simp[M.ret]at hact;subst hact;obtain⟨fields,fld,h1,h2,h3,h4,h5⟩:=Anr ok ht hf;obtain⟨p1,p2,p3⟩:=NK hcs;have hlen:=hf2.1;have hF:F2 (Rc G ν S w.heap) cs ((vs.drop o'.1).take (G.sz o'.2)):=by
   refine⟨by simp;omega,λi a b ha hb=>?_⟩;have hi:i<G.sz o'.2:=by have:=(g_.1 ha).1;omega
   rw[p3 i hi]at ha;rw[t_ hi,b8_]at hb;exact hf2.2 _ a b ha hb
  refine Runs.outP hr (v:=if(G.ty o'.2).isAgg then .agg ((vs.drop o'.1).take (G.sz o'.2)).toArray else((vs.drop o'.1).take (G.sz o'.2)).getD 0 undef) ?_ (QL hy hF);unfold execOp;rw[ho];simp only[Instr.field,z_,A_ h1 w,q_,h2,hu,asAgg,a4_,Go.part,h4,ok.isAgg w h5];cases ha:(G.ty o'.2).isAgg with
  |true=>simp only[if_true,z_,ok.sizeOf w h5,q_,h3];simp
  |false=>have hpos:=ok.pos _ h5;have hlt:o'.1<vs.length:=ω;rw[List.getD,t_ hpos];simp[h3,hlt]
 |_=>simp[ht,M.fail]at hact
end
end Go.Ab
