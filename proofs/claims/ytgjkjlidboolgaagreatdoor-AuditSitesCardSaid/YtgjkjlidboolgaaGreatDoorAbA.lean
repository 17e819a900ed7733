import Derived.WalkKit
set_option linter.all false
open Option renaming some->C,none->D
open Bool renaming true->H,false->J
open Nat renaming beq->I
open BitVec renaming ofInt->aA
namespace Go
variable{p:Prop}
def ω(h:p:=by omega):p:=h
def τ(h:p:=by decide):p:=h
def σ(h:p:=by simp):p:=h
def κ(h:p:=by kernel_rfl):p:=h
end Go
namespace Go
def a_:type_of% @Option.bind_some:=@Option.bind_some
def b_:type_of% @decide_eq_true:=@decide_eq_true
def c_:type_of% @cond_false:=@cond_false
def d_:type_of% @cond_true:=@cond_true
def e_:type_of% @Bool.and_eq_true:=@Bool.and_eq_true
def f_:type_of% @decide_eq_false:=@decide_eq_false
def g_:type_of% @List.length_append:=@List.length_append
def h_:type_of% @List.getElem?_eq_some_iff:=@List.getElem?_eq_some_iff
def i_:type_of% @List.getElem?_eq_getElem:=@List.getElem?_eq_getElem
def j_:type_of% @Int.toNat_natCast:=@Int.toNat_natCast
def k_:type_of% @List.getD_eq_getElem?_getD:=@List.getD_eq_getElem?_getD
def l_:type_of% @of_decide_eq_true:=@of_decide_eq_true
def m_:type_of% @beq_self_eq_true:=@beq_self_eq_true
def n_:type_of% @List.mem_append:=@List.mem_append
def o_:type_of% @Nat.zero_add:=@Nat.zero_add
def p_:type_of% @List.mem_cons_self:=@List.mem_cons_self
def q_:type_of% @decide_eq_true_eq:=@decide_eq_true_eq
def r_:type_of% @List.mem_cons_of_mem:=@List.mem_cons_of_mem
def s_:type_of% @List.mem_cons:=@List.mem_cons
def t_:type_of% @Bool.not_true:=@Bool.not_true
def u_:type_of% @Go.Result.andThen_ok:=@Go.Result.andThen_ok
def v_:type_of% @List.mem_of_getElem?:=@List.mem_of_getElem?
def w_:type_of% @Array.getD_eq_getD_getElem?:=@Array.getD_eq_getD_getElem?
def x_:type_of% @List.length_take:=@List.length_take
def y_:type_of% @Nat.le_refl:=@Nat.le_refl
def z_:type_of% @List.length_set:=@List.length_set
def A_:type_of% @List.getElem?_take_of_lt:=@List.getElem?_take_of_lt
def B_:type_of% @List.mem_singleton:=@List.mem_singleton
def C_:type_of% @of_decide_eq_false:=@of_decide_eq_false
def D_:type_of% @Nat.le_of_ble_eq_true:=@Nat.le_of_ble_eq_true
def E_:type_of% @List.length_cons:=@List.length_cons
def F_:type_of% @Option.some.inj:=@Option.some.inj
def G_:type_of% @List.length_singleton:=@List.length_singleton
def H_:type_of% @Bool.true_and:=@Bool.true_and
def I_:type_of% @Go.run_underlying:=@Go.run_underlying
def J_:type_of% @Nat.mul_le_mul_right:=@Nat.mul_le_mul_right
def K_:type_of% @Array.getElem?_eq_some_iff:=@Array.getElem?_eq_some_iff
def L_:type_of% @List.all_eq_true:=@List.all_eq_true
def M_:type_of% @List.append_assoc:=@List.append_assoc
def N_:type_of% @Go.Sem.run_bind:=@Go.Sem.run_bind
def O_:type_of% @bne_self_eq_false:=@bne_self_eq_false
def P_:type_of% @Int.fdiv_eq_ediv_of_nonneg:=@Int.fdiv_eq_ediv_of_nonneg
def Q_:type_of% @Bool.or_eq_true:=@Bool.or_eq_true
def R_:type_of% @beq_iff_eq:=@beq_iff_eq
def S_:type_of% @List.length_replicate:=@List.length_replicate
def T_:type_of% @List.eq_nil_of_length_eq_zero:=@List.eq_nil_of_length_eq_zero
def U_:type_of% @Int.lt_irrefl:=@Int.lt_irrefl
def V_:type_of% @List.drop_zero:=@List.drop_zero
def W_:type_of% @List.length_drop:=@List.length_drop
def X_:type_of% @Nat.add_assoc:=@Nat.add_assoc
def Y_:type_of% @List.append_nil:=@List.append_nil
def Z_:type_of% @List.all_cons:=@List.all_cons
def a0_:type_of% @BitVec.toNat_ofInt:=@BitVec.toNat_ofInt
def a1_:type_of% @List.flatMap_cons:=@List.flatMap_cons
def a2_:type_of% @Bool.not_eq_true':=@Bool.not_eq_true'
def a3_:type_of% @Nat.zero_le:=@Nat.zero_le
def a4_:type_of% @List.nil_append:=@List.nil_append
def a5_:type_of% @Nat.add_mul:=@Nat.add_mul
def a6_:type_of% @List.getElem_mem:=@List.getElem_mem
def a7_:type_of% @Go.Sem.run_pure:=@Go.Sem.run_pure
def a8_:type_of% @List.take_of_length_le:=@List.take_of_length_le
def a9_:type_of% @Bool.false_and:=@Bool.false_and
def b0_:type_of% @List.pairwise_iff_getElem:=@List.pairwise_iff_getElem
def b1_:type_of% @Array.getElem?_eq_getElem:=@Array.getElem?_eq_getElem
def b2_:type_of% @Bool.and_self:=@Bool.and_self
def b3_:type_of% @List.drop_length:=@List.drop_length
def b4_:type_of% @Int.tmod_eq_emod_of_nonneg:=@Int.tmod_eq_emod_of_nonneg
def b5_:type_of% @Nat.add_sub_cancel_left:=@Nat.add_sub_cancel_left
def b6_:type_of% @List.mem_map:=@List.mem_map
def b7_:type_of% @List.getElem?_map:=@List.getElem?_map
def b8_:type_of% @List.map_cons:=@List.map_cons
def b9_:type_of% @List.getElem?_append_left:=@List.getElem?_append_left
def c0_:type_of% @List.toList_toArray:=@List.toList_toArray
def c1_:type_of% @Nat.le_trans:=@Nat.le_trans
def c2_:type_of% @Nat.add_zero:=@Nat.add_zero
def c3_:type_of% @Int.eq_ofNat_of_zero_le:=@Int.eq_ofNat_of_zero_le
def c4_:type_of% @Nat.lt_of_lt_of_le:=@Nat.lt_of_lt_of_le
def c5_:type_of% @List.getElem?_drop:=@List.getElem?_drop
def c6_:type_of% @List.getElem?_append_right:=@List.getElem?_append_right
def c7_:type_of% @Bool.and_false:=@Bool.and_false
def c8_:type_of% @List.length_map:=@List.length_map
def c9_:type_of% @List.mem_flatMap:=@List.mem_flatMap
def d0_:type_of% @Option.some.injEq:=@Option.some.injEq
def d1_:type_of% @Nat.mul_one:=@Nat.mul_one
def d2_:type_of% @Nat.eq_of_beq_eq_true:=@Nat.eq_of_beq_eq_true
def d3_:type_of% @ByteArray.size_append:=@ByteArray.size_append
def d4_:type_of% @Nat.min_eq_left:=@Nat.min_eq_left
def d5_:type_of% @List.length_nil:=@List.length_nil
def d6_:type_of% @Bool.and_true:=@Bool.and_true
def d7_:type_of% @Nat.add_comm:=@Nat.add_comm
def d8_:type_of% @Bool.not_false:=@Bool.not_false
def d9_:type_of% @Int.le_refl:=@Int.le_refl
def e0_:type_of% @List.singleton_append:=@List.singleton_append
def e1_:type_of% @List.mem_iff_getElem?:=@List.mem_iff_getElem?
def e2_:type_of% @List.range'_succ:=@List.range'_succ
def e3_:type_of% @List.pairwise_cons:=@List.pairwise_cons
def e4_:type_of% @Go.cell_of_row:=@Go.cell_of_row
def e5_:type_of% @List.mem_of_mem_take:=@List.mem_of_mem_take
def e6_:type_of% @List.mem_of_mem_drop:=@List.mem_of_mem_drop
def e7_:type_of% @Array.toArray_toList:=@Array.toArray_toList
def e8_:type_of% @Nat.not_lt_zero:=@Nat.not_lt_zero
def e9_:type_of% @List.take_left':=@List.take_left'
def f0_:type_of% @if_false:=@if_false
def f1_:type_of% @Int.toNat_of_nonneg:=@Int.toNat_of_nonneg
def f2_:type_of% @Prod.mk.injEq:=@Prod.mk.injEq
def f3_:type_of% @Nat.xor_lt_two_pow:=@Nat.xor_lt_two_pow
def f4_:type_of% @Ne.symm:=@Ne.symm
def f5_:type_of% @Nat.ble_eq_true_of_le:=@Nat.ble_eq_true_of_le
def f6_:type_of% @Nat.mul_comm:=@Nat.mul_comm
def f7_:type_of% @List.pairwise_append:=@List.pairwise_append
def f8_:type_of% @congrArg:=@congrArg
def f9_:type_of% @Nat.mod_lt:=@Nat.mod_lt
def g0_:type_of% @Nat.lt_or_ge:=@Nat.lt_or_ge
def g1_:type_of% @Nat.lt_of_le_of_lt:=@Nat.lt_of_le_of_lt
def g2_:type_of% @Bool.not_eq_false':=@Bool.not_eq_false'
def g3_:type_of% @Bool.false_eq_true:=@Bool.false_eq_true
def g4_:type_of% @Option.map_some:=@Option.map_some
def g5_:type_of% @List.foldl_cons:=@List.foldl_cons
def g6_:type_of% @Array.getElem?_setIfInBounds:=@Array.getElem?_setIfInBounds
def g7_:type_of% @Array.getElem?_modify:=@Array.getElem?_modify
def g8_:type_of% @if_true:=@if_true
def g9_:type_of% @Nat.blt_eq:=@Nat.blt_eq
def h0_:type_of% @List.getElem?_append:=@List.getElem?_append
def h1_:type_of% @Nat.mod_eq_of_lt:=@Nat.mod_eq_of_lt
def h2_:type_of% @List.set_set:=@List.set_set
def h3_:type_of% @List.all_nil:=@List.all_nil
def h4_:type_of% @Array.toList_map:=@Array.toList_map
end Go
namespace Go.Ab
def get{α:Type}:List (Nat×α)->Nat->Option α
 |[],_=>D
 |(k,v)::t,n=>bif I k n then C v else get t n
def del{α:Type}:List (Nat×α)->Nat->List (Nat×α)
 |[],_=>[]
 |(k,v)::t,n=>bif I k n then del t n else(k,v)::del t n
def put{α:Type}(l:List (Nat×α))(n:Nat)(x:α):List (Nat×α):=(n,x)::del l n
def has:List Nat->Nat->Bool
 |[],_=>J
 |k::t,n=>bif I k n then H else has t n
def M(α:Type):Type 1:=∀R:Type,(α->Option R)->Option R
namespace M
def ret{α:Type}(a:α):M α:=λ_ k=>k a
def bind{α β:Type}(m:M α)(f:α->M β):M β:=λR k=>m R λa=>f a R k
def fail{α:Type}:M α:=λ_ _=>D
def split(b:Bool):M Bool:=λ_ k=>bif b then k H else k J
def need(b:Bool):M Unit:=λ_ k=>bif b then k ()else D
def opt{α:Type}(o:Option α):M α:=λ_ k=>match o with|some a=>k a|none=>D
def val{α:Type}(m:M α):Option α:=m α C
def pick{α:Type}(k:Nat->M α)(i:Nat):Nat->Nat->M α
 |_,0=>M.fail
 |q,n+1=>M.bind (M.split (I i q)) λb=>match b with
  |true=>k q
  |false=>pick k i (q+1) n
instance:Monad M:={ pure:=ret,bind:=bind }
end M
inductive Cv(T:Nat->Type) where
 |sc (v:Value)
 |ptr (n off:Nat)
 |pd (n off s len i:Nat)
 |pr (n t i off:Nat)
 |own (n:Nat)
 |ro (t:Nat) (l:List (T t))
 |rp (t:Nat) (x:T t) (off:Nat)
 |clo (f:Nat) (fst caps:List (Nat×Nat))
 |np (n t:Nat)
 |sa (n off len:Nat)
inductive Pv(T:Nat->Type) where
 |one (c:Cv T)
 |agg (cs:List (Cv T))
inductive Sv(T:Nat->Type) where
 |p (x:Pv T)
 |tup (xs:List (Pv T))
inductive Blk(T:Nat->Type) where
 |cells (cs:List (Cv T))
 |row (t:Nat) (l:List (T t))
inductive Ty where
 |no|bool|int (k:IntKind)|flt (k:FloatKind)|str|sl (e:Nat)|pt (e:Nat)|fn
 |st (fs:List (Nat×Nat))|arr (n e:Nat)
def Ty.isAgg:Ty->Bool
 |.st _|.arr _ _=>H
 |_=>J
structure Sig where
 T:Nat->Type
 ty:Nat->Ty
 sz:Nat->Nat
 zero:Nat->List Value
 enc:(t:Nat)->T t->List (Cv T)
 dec:(t:Nat)->List (Cv T)->Option (T t)
 dfl:(t:Nat)->T t
 flat:Nat->Bool
 gl:Nat->Option ((t:Nat)×T t):=λ_=>none
 ext:Nat->Nat:=λ_=>0
variable{G:Sig}
def Pv.cells{T:Nat->Type}:Pv T->List (Cv T)
 |.one c=>[c]
 |.agg cs=>cs
def Xm(op:BinOp)(x y:Int):Option Bool:=
 match op with
 |.eql=>C (x==y)
 |.neq=>C (x !=y)
 |.lss=>C (decide (x<y))
 |.leq=>C (decide (x<=y))
 |.gtr=>C (decide (x>y))
 |.geq=>C (decide (x≥y))
 |_=>D
def stk(x y:Int)(r:Nat):Int:=match x,y with
 |.ofNat _,.ofNat _=>(r:Int)
 |.ofNat _,.negSucc _=>(r:Int)
 |.negSucc _,.ofNat _=>(r:Int)
 |.negSucc _,.negSucc _=>(r:Int)
def My(x y:Int)(r:Nat):stk x y r=(r:Int):=by cases x<;>cases y<;>rfl
def Atz(op:BinOp)(k:IntKind)(x y:Int):Option Int:=
 match op with
 |.and=>C (k.wrap (stk x y (aA k.bits x&&&aA k.bits y).toNat))
 |.or=>C (k.wrap (stk x y (aA k.bits x|||BitVec.ofInt k.bits y).toNat))
 |.xor=>C (k.wrap (stk x y (aA k.bits x^^^aA k.bits y).toNat))
 |.andNot=>C (k.wrap (stk x y (aA k.bits x&&& ~~~aA k.bits y).toNat))
 |_=>D
def eqB(x y:ByteArray):Bool:=x.toList==y.toList
def ltB(x y:ByteArray):Bool:=Op.bytesLess x.toList y.toList
def Buh(op:BinOp)(k:FloatKind)(x y:Nat):Option Bool:=
 match op with
 |.eql=>C (k.format.order x y==C .eq)
 |.neq=>C (k.format.order x y !=C .eq)
 |.lss=>C (k.format.order x y==C .lt)
 |.leq=>C (k.format.order x y==C .lt||k.format.order x y==C .eq)
 |.gtr=>C (k.format.order x y==C .gt)
 |.geq=>C (k.format.order x y==C .gt||k.format.order x y==C .eq)
 |_=>D
def arG(op:BinOp)(k:FloatKind)(x y:Nat):Option Nat:=
 match op with
 |.add=>k.format.add x y
 |.sub=>k.format.sub x y
 |.mul=>k.format.mul x y
 |.quo=>k.format.div x y
 |_=>D
def arF(op:BinOp)(k:FloatKind)(x y:Nat):Option Nat:=match x,y with
 |0,0=>arG op k 0 0
 |0,y+1=>arG op k 0 (y+1)
 |x+1,0=>arG op k (x+1) 0
 |x+1,y+1=>arG op k (x+1) (y+1)
def Bon(op:BinOp)(k:FloatKind)(x y:Nat):arF op k x y=arG op k x y:=by cases x<;>cases y<;>rfl
def Af0(k:FloatKind)(n:Int):Nat:=match n with
 |.ofNat _=>k.nearest n
 |.negSucc _=>k.nearest n
def Bga(k:FloatKind)(n:Int):Af0 k n=k.nearest n:=by cases n<;>rfl
def shI(op:BinOp)(k:IntKind)(x y:Int):Option Int:=
 match op with
 |.shl=>C (k.wrap (x*2^min y.toNat k.bits))
 |.shr=>C (x.fdiv (2^min y.toNat k.bits))
 |_=>D
def Fm:IntKind->IntKind->Bool
 |.i8,.i8|.i16,.i16|.i32,.i32|.i64,.i64|.u8,.u8|.u16,.u16|.u32,.u32|.u64,.u64=>H
 |_,_=>J
def QB:FloatKind->FloatKind->Bool
 |.f32,.f32|.f64,.f64=>H
 |_,_=>J
def BG(s:ByteArray)(i:Nat):Int:=((s.data.getD i 0).toNat:Int)
def Se(op:BinOp)(k:IntKind)(a:Int)(k':IntKind)(b:Int):M Value:=
 match op with
 |.shl|.shr=>M.bind (M.need (decide (0<=b))) λ_=>M.bind (M.opt (shI op k a b)) λr=>M.ret (.int k r)
 |.add=>M.bind (M.need (Fm k k')) λ_=>M.ret (.int k (k.wrap (a+b)))
 |.sub=>M.bind (M.need (Fm k k')) λ_=>M.ret (.int k (k.wrap (a-b)))
 |.mul=>M.bind (M.need (Fm k k')) λ_=>M.ret (.int k (k.wrap (a*b)))
 |.quo=>M.bind (M.need (Fm k k')) λ_=>M.bind (M.need (b !=0)) λ_=>M.ret (.int k (k.wrap (a.tdiv b)))
 |.rem=>M.bind (M.need (Fm k k')) λ_=>M.bind (M.need (b !=0)) λ_=>M.ret (.int k (a.tmod b))
 |.and|.or|.xor|.andNot=>M.bind (M.need (Fm k k')) λ_=>M.bind (M.opt (Atz op k a b)) λr=>M.ret (.int k r)
 |_=>M.bind (M.need (Fm k k')) λ_=>M.bind (M.opt (Xm op a b)) λr=>M.ret (.bool r)
def Aem(op:BinOp)(k:FloatKind)(a:Nat)(k':FloatKind)(b:Nat):M Value:=
 match op with
 |.add|.sub|.mul|.quo=>M.bind (M.need (QB k k')) λ_=>M.bind (M.opt (arF op k a b)) λr=>M.ret (.float k r)
 |_=>M.bind (M.need (QB k k')) λ_=>M.bind (M.opt (Buh op k a b)) λr=>M.ret (.bool r)
def Aen(op:BinOp)(a b:ByteArray):M Value:=
 match op with
 |.add=>M.bind (M.need (Nat.ble (a.size+b.size) 4611686018427387904)) λ_=>M.ret (.string (a++b))
 |.eql=>M.ret (.bool (eqB a b))
 |.neq=>M.ret (.bool (!eqB a b))
 |.lss=>M.ret (.bool (ltB a b))
 |.leq=>M.ret (.bool (ltB a b||eqB a b))
 |.gtr=>M.ret (.bool (!(ltB a b||eqB a b)))
 |.geq=>M.ret (.bool (!ltB a b))
 |_=>M.fail
def bin(op:BinOp)(x y:Value):M Value:=
 match x,y with
 |.int k a,.int k' b=>Se op k a k' b
 |.float k a,.float k' b=>Aem op k a k' b
 |.string a,.string b=>Aen op a b
 |_,_=>M.fail
def eqV:Value->Value->Option Bool
 |.int k a,.int k' b=>bif Fm k k' then C (a==b)else D
 |.bool a,.bool b=>C (a==b)
 |.string a,.string b=>C (eqB a b)
 |.float k a,.float k' b=>bif QB k k' then C (k.format.order a b==C .eq)else D
 |_,_=>D
def HU{T:Nat->Type}:List (Cv T)->List (Cv T)->Option Bool
 |[],[]=>C H
 |.sc a::as,.sc b::bs=>
  match eqV a b,HU as bs with
  |some x,C y=>C (x&&y)
  |_,_=>D
 |_,_=>D
def intOf:Value->Int
 |.int _ n=>n
 |_=>0
def Ub{T:Nat->Type}(k:IntKind):List (Cv T)->Option (List Int)
 |[]=>C []
 |.sc (.int k' n)::t=>bif Fm k k' then match Ub k t with|some l=>C (n::l)|none=>D else D
 |_=>D
def QX{T:Nat->Type}:List (Cv T)->Option (List Bool)
 |[]=>C []
 |.sc (.bool n)::t=>match QX t with|some l=>C (n::l)|none=>D
 |_=>D
def Ud{T:Nat->Type}:List (Cv T)->Option (List ByteArray)
 |[]=>C []
 |.sc (.string n)::t=>match Ud t with|some l=>C (n::l)|none=>D
 |_=>D
def Agf{T:Nat->Type}(l:List (Cv T))(i:Nat):Option (Cv T):=
 match l with
 |.sc (.int k _)::_=>match Ub k l with|some ns=>C (.sc (.int k (ns.getD i 0)))|none=>D
 |.sc (.bool _)::_=>match QX l with|some ns=>C (.sc (.bool (ns.getD i J)))|none=>D
 |.sc (.string _)::_=>match Ud l with|some ns=>C (.sc (.string (ns.getD i ⟨#[]⟩)))|none=>D
 |_=>l[i]?
def Alw{T:Nat->Type}(b:Bool)(c d:Cv T):Option (Cv T):=
 match c,d with
 |.sc (.int k x),.sc (.int k' y)=>bif Fm k k' then C (.sc (.int k (bif b then x else y)))else D
 |.sc (.bool x),.sc (.bool y)=>C (.sc (.bool (bif b then x else y)))
 |.sc (.string x),.sc (.string y)=>C (.sc (.string (bif b then x else y)))
 |_,_=>bif b then C c else C d
def Ou{α:Type}:Nat->List α->Option (List α)
 |0,_=>C []
 |_+1,[]=>D
 |n+1,x::t=>match Ou n t with|some l=>C (x::l)|none=>D
def Pp{α:Type}:Nat->List α->Option (List α)
 |0,l=>C l
 |_+1,[]=>D
 |n+1,_::t=>Pp n t
def part{α:Type}(cs:List α)(off n:Nat):Option (List α):=match Pp off cs with|some l=>Ou n l|none=>D
def Lr{α:Type}:List α->Nat->List α->Option (List α)
 |cs,0,[]=>C cs
 |[],0,_::_=>D
 |_::t,0,x::new=>match Lr t 0 new with|some l=>C (x::l)|none=>D
 |[],_+1,_=>D
 |c::t,n+1,new=>match Lr t n new with|some l=>C (c::l)|none=>D
def DI{α β:Type}(f:α->Option β):List α->Option (List β)
 |[]=>C []
 |a::t=>match f a,DI f t with|some b,C l=>C (b::l)|_,_=>D
def Rv:Nat->List Nat
 |0=>[]
 |n+1=>Rv n++[n]
def look(h:Nat->Option (Blk G.T))(n:Nat):Cv G.T->Option (List (Cv G.T))
 |.ptr b off=>match h b with
  |some (.cells cs)=>part cs off n
  |_=>D
 |.pd b off s len i=>match h b with
  |some (.cells cs)=>DI (λj=>match DI (λq=>cs[off+q*s+j]?) (Rv len)with|some l=>Agf l i|none=>D) (Rv n)
  |_=>D
 |.pr b t i off=>match h b with
  |some (.row t' l)=>bif I t t' then part (G.enc t' (l.getD i (G.dfl t'))) off n else D
  |_=>D
 |.rp t x off=>part (G.enc t x) off n
 |_=>D
def ZX{T:Nat->Type}(cs:List (Cv T))(off s i:Nat)(new:List (Cv T)):List Nat->Option (List (Cv T))
 |[]=>C cs
 |q::qs=>match ZX cs off s i new qs with
  |some cs'=>match part cs' (off+q*s) new.length with
   |some old=>match DI (λp=>Alw (I i q) p.1 p.2) (new.zip old)with
    |some l=>Lr cs' (off+q*s) l
    |none=>D
   |none=>D
  |none=>D
def Tw{T:Nat->Type}:Cv T->Bool
 |.np _ _=>J
 |_=>H
def Lp(h:Nat->Option (Blk G.T))(new:List (Cv G.T)):Cv G.T->Option (Nat×Blk G.T)
 |.ptr b off=>match h b with
  |some (.cells cs)=>match Lr cs off new with|some cs'=>bif cs'.all Tw then C (b,.cells cs')else D|none=>D
  |_=>D
 |.pd b off s len i=>match h b with
  |some (.cells cs)=>match ZX cs off s i new (Rv len)with|some cs'=>bif cs'.all Tw then C (b,.cells cs')else D|none=>D
  |_=>D
 |.pr b t i off=>match h b with
  |some (.row t' l)=>bif I t t' then
    match Lr (G.enc t' (l.getD i (G.dfl t'))) off new with
    |some cs'=>match G.dec t' cs' with|some x=>C (b,.row t' (l.set i x))|none=>D
    |none=>D
   else D
  |_=>D
 |_=>D
def Mx{T:Nat->Type}(d:Nat):Cv T->Option (Cv T)
 |.ptr b off=>C (.ptr b (off+d))
 |.pd b off s len i=>C (.pd b (off+d) s len i)
 |.pr b t i off=>C (.pr b t i (off+d))
 |.rp t x off=>C (.rp t x (off+d))
 |_=>D
def isP{T:Nat->Type}:Cv T->Bool
 |.ptr .. | .pd .. | .pr .. | .rp .. | .clo ..=>H
 |_=>J
def SN(G:Sig)(t:Nat)(cs:List (Cv G.T)):Option (Pv G.T):=bif(G.ty t).isAgg then C (.agg cs)else match cs with|[c]=>C (.one c)|_=>D
end Go.Ab
namespace Go.Ab
structure Out(G:Sig) where
 v:Option (Sv G.T)
 d:List (Nat×Option (Blk G.T))
 nw:List Nat
 rd:List Nat
structure St(G:Sig) where
 tm:List (Nat×Sv G.T)
 hp:List (Nat×Blk G.T)
 us:List Nat
def Dg(G:Sig):Type 1:=Nat->List (Pv G.T)->(Nat->Option (Blk G.T))->Nat->M (Out G)
variable{G:Sig}
def outP(x:Pv G.T):Out G:=⟨C (.p x),[],[],[]⟩
def outV(v:Value):Out G:=outP (.one (.sc v))
def Cv.rds{T:Nat->Type}:Cv T->List Nat
 |.ptr n _|.pd n _ _ _ _|.pr n _ _ _|.own n=>[n]
 |.sa n _ _=>[n]
 |_=>[]
def Qx(G:Sig)(t t':Nat)(l:List (G.T t)):Option (List (G.T t')):=if h:t=t' then C (h▸l)else D
def Jm(h:Nat->Option (Blk G.T))(e:Nat):Cv G.T->Option (List (G.T e))
 |.sc (.slice D 0 0)=>C []
 |.own n=>match h n with|some (.row t l)=>Qx G t e l|_=>D
 |.ro t l=>Qx G t e l
 |_=>D
def Al0{T:Nat->Type}:Pv T->Option (Nat×Nat)
 |.one (.ptr n off)=>C (n,off)
 |_=>D
def Adr{T:Nat->Type}(a:Nat×Nat):Pv T:=.one (.ptr a.1 a.2)
def Aoo:Nat:=2147483648
section
variable(cf:Dg G)(ev:Operand->Option (Sv G.T))(h:Nat->Option (Blk G.T))(nm:Nat)
def evP(x:Operand):M (Pv G.T):=λ_ k=>match ev x with|some (.p y)=>k y|_=>D
def evC(x:Operand):M (Cv G.T):=λ_ k=>match ev x with|some (.p (.one c))=>k c|_=>D
def evI(x:Operand):M (IntKind×Int):=λ_ k=>match ev x with|some (.p (.one (.sc (.int d n))))=>k (d,n)|_=>D
def evB(x:Operand):M Bool:=λ_ k=>match ev x with|some (.p (.one (.sc (.bool b))))=>k b|_=>D
def Uv:List Operand->M (List (Pv G.T))
 |[]=>M.ret []
 |x::t=>M.bind (evP ev x) λy=>M.bind (Uv t) λl=>M.ret (y::l)
def Hm(d:Nat)(m:Nat):Option Operand->M Nat
 |none=>M.ret d
 |some x=>M.bind (evI ev x) λi=>M.bind (M.need (decide (0<=i.2)&&decide (i.2<=(m:Int)))) λ_=>M.ret i.2.toNat
def XD(place:Nat->Option (Nat×Nat))(cells:List (Cv G.T)):List (Nat×Pv G.T)->Option (List (Cv G.T))
 |[]=>C cells
 |(i,v)::rest=>match place i with
  |some (off,size)=>bif I v.cells.length size then
    match Lr cells off v.cells with|some cs=>XD place cs rest|none=>D
   else D
  |none=>D
def JD:List (Nat×Operand)->M (List (Nat×Pv G.T))
 |[]=>M.ret []
 |(i,x)::t=>M.bind (evP ev x) λy=>M.bind (JD t) λl=>M.ret ((i,y)::l)
def rows(G:Sig)(e:Nat):Nat->List (Cv G.T)->Option (List (G.T e))
 |0,[]=>C []
 |0,_::_=>D
 |n+1,cs=>match Ou (G.sz e) cs,Pp (G.sz e) cs with
  |some a,C b=>match G.dec e a,rows G e n b with
   |some x,C l=>C (x::l)
   |_,_=>D
  |_,_=>D
def Sn:Value->Bool
 |.slice D 0 0=>H
 |_=>J
def Om:List Nat->List (Nat×Option (Blk G.T))
 |[]=>[]
 |n::t=>(n,D)::Om t
def Ahv(h:Nat->Option (Blk G.T)):Cv G.T->Cv G.T->Option (Cv G.T×List Nat)
 |.ro e _,.own n=>match h n with
  |some (.row t l)=>match Qx G t e l with|some l'=>C (.ro e l',[n])|none=>D
  |_=>D
 |.ro e _,.sc v=>C (bif Sn v then .ro e []else .sc v,[])
 |_,c=>C (c,[])
def QE(h:Nat->Option (Blk G.T)):List (Cv G.T)->List (Cv G.T)->Option (List (Cv G.T)×List Nat)
 |[],[]=>C ([],[])
 |w::ws,c::cs=>match Ahv h w c,QE h ws cs with|some a,C b=>C (a.1::b.1,a.2++b.2)|_,_=>D
 |_,_=>D
def Bji(G:Sig)(e:Nat):Nat->List (Cv G.T)
 |0=>[]
 |n+1=>G.enc e (G.dfl e)++Bji G e n
def GS(G:Sig)(t:Nat):List (Cv G.T):=(G.zero t).map .sc
def QQ(G:Sig)(t:Nat):Nat->List (Cv G.T)
 |0=>[]
 |n+1=>GS G t++QQ G t n
def Aop(e:Nat)(c:Cv G.T):M (Out G):=match c with
 |.sa _ _ n=>M.ret (outV (.int .i64 (n:Int)))
 |c=>M.bind (M.opt (Jm h e c)) λl=>M.ret ⟨C (.p (.one (.sc (.int .i64 (l.length:Int))))),[],[],c.rds⟩
def Wb(t:Nat)(x:Operand):M (Out G):=match G.ty t with
 |.str=>M.bind (evC ev x) λc=>match c with
  |.sc (.string s)=>M.ret (outV (.int .i64 (s.size:Int)))
  |_=>M.fail
 |.arr n _=>M.ret (outV (.int .i64 (n:Int)))
 |.sl e=>M.bind (evC ev x) λc=>Aop h e c
 |_=>M.fail
def Bi3(G:Sig)(e:Nat)(l:List (G.T e))(cs:List (Cv G.T))(off len:Nat):Option (List (Cv G.T)):=
 match DI (λj=>match cs[off+j]?,G.enc e (l.getD j (G.dfl e))with
   |some o,[c]=>Alw (Nat.blt j l.length) c o
   |_,_=>D) (Rv len)with
 |some new=>Lr cs off new
 |none=>D
def Po{α:Type}(l l':List α):List α:=l'.take l.length++l.drop l'.length
def Alq(n m:Nat):Int:=bif Nat.ble n m then(n:Int)else(m:Int)
def Aaz(_t e:Nat)(l':List (G.T e))(c c':Cv G.T):M (Out G):=match c with
 |.own n=>match h n with
  |some (.row u l)=>M.bind (M.need (I u e&&!has c'.rds n)) λ_=>M.bind (M.opt (Qx G e u l')) λl''=>M.ret ⟨C (.p (.one (.sc (.int .i64 (Alq l'.length l.length))))),[(n,C (.row u (Po l l'')))],[],n::c'.rds⟩
  |_=>M.fail
 |.sa n off len=>match h n with
  |some (.cells cs)=>M.bind (M.need (I (G.sz e) 1&&!has c'.rds n)) λ_=>M.bind (M.opt (Bi3 G e l' cs off len)) λcs'=>M.bind (M.need (cs'.all Tw)) λ_=>M.ret ⟨C (.p (.one (.sc (.int .i64 (Alq l'.length len))))),[(n,C (.cells cs'))],[],n::c'.rds⟩
  |_=>M.fail
 |_=>M.fail
def RH(t t':Nat)(x y:Operand):M (Out G):=match G.ty t with
 |.sl e=>M.bind (M.need (I t t')) λ_=>M.bind (evC ev x) λc=>M.bind (evC ev y) λc'=>M.bind (M.opt (Jm h e c')) λl'=>Aaz h t e l' c c'
 |_=>M.fail
def Atx(x y:Operand):M (Out G):=M.bind (evI ev x) λa=>M.bind (evI ev y) λb=>M.bind (M.need (Fm a.1 b.1)) λ_=>M.ret (outV (.int a.1 (bif decide (b.2<a.2)then b.2 else a.2)))
def Atw(x y:Operand):M (Out G):=M.bind (evI ev x) λa=>M.bind (evI ev y) λb=>M.bind (M.need (Fm a.1 b.1)) λ_=>M.ret (outV (.int a.1 (bif decide (a.2<b.2)then b.2 else a.2)))
def Aln(x y z:Operand):M (Out G):=M.bind (evI ev x) λa=>M.bind (evI ev y) λb=>M.bind (evI ev z) λc=>
 M.bind (M.need (Fm a.1 b.1)) λ_=>M.bind (M.need (Fm a.1 c.1)) λ_=>
 M.ret (outV (.int a.1 (bif decide (c.2<(bif decide (b.2<a.2)then b.2 else a.2))then c.2 else(bif decide (b.2<a.2)then b.2 else a.2))))
def Alm(x y z:Operand):M (Out G):=M.bind (evI ev x) λa=>M.bind (evI ev y) λb=>M.bind (evI ev z) λc=>
 M.bind (M.need (Fm a.1 b.1)) λ_=>M.bind (M.need (Fm a.1 c.1)) λ_=>
 M.ret (outV (.int a.1 (bif decide ((bif decide (a.2<b.2)then b.2 else a.2)<c.2)then c.2 else(bif decide (a.2<b.2)then b.2 else a.2))))
def Atq(e:Nat)(l l':List (G.T e))(c c':Cv G.T):M (Out G):=match c with
 |.sc _=>M.ret ⟨C (.p (.one (.own nm))),[(nm,C (.row e (l++l')))],[nm],c'.rds⟩
 |.own n=>M.bind (M.need (!has c'.rds n)) λ_=>M.ret ⟨C (.p (.one (.own nm))),[(n,D),(nm,C (.row e (l++l')))],[nm],n::c'.rds⟩
 |_=>M.fail
def MD(t t':Nat)(x y:Operand):M (Out G):=match G.ty t with
 |.sl e=>M.bind (M.need (I t t')) λ_=>M.bind (evC ev x) λc=>M.bind (evC ev y) λc'=>
   M.bind (M.opt (Jm h e c)) λl=>M.bind (M.opt (Jm h e c')) λl'=>
   M.bind (M.need (Nat.ble (l.length+l'.length) Aoo)) λ_=>Atq nm e l l' c c'
 |_=>M.fail
def AP(b:Builtin)(tys:List Nat)(xs:List Operand):M (Out G):=
 match b,tys,xs with
 |.len,t::_,[x]=>Wb ev h t x
 |.min,_,[x,y]=>Atx ev x y
 |.max,_,[x,y]=>Atw ev x y
 |.min,_,[x,y,z]=>Aln ev x y z
 |.max,_,[x,y,z]=>Alm ev x y z
 |.append,[t,t'],[x,y]=>MD ev h nm t t' x y
 |.copy,[t,t'],[x,y]=>RH ev h t t' x y
 |_,_,_=>M.fail
def RF(x:Operand):M (Out G):=λ_ k=>match ev x with|some s=>k ⟨C s,[],[],[]⟩|none=>D
def Vi(c a b:Operand):M (Out G):=M.bind (evB ev c) λc=>M.bind (M.split c) λc=>RF ev (bif c then a else b)
def Awf(G:Sig)(t:Nat):Bool:=match G.ty t with
 |.st ((_,u)::_)=>match G.ty u with
  |.pt e=>I e t
  |_=>J
 |_=>J
def Ao4{T:Nat->Type}(n t:Nat):List (Cv T)->List (Cv T)
 |.sc (.pointer D)::r=>.np n t::r
 |l=>l
def Vc(G:Sig)(n t:Nat):List (Cv G.T):=bif Awf G t then Ao4 n t (GS G t)else GS G t
def YP(t:Nat):M (Out G):=match G.ty t with
 |.no=>M.fail
 |_=>M.ret ⟨C (.p (.one (.ptr nm 0))),[(nm,C (.cells (Vc G nm t)))],[nm],[]⟩
def YR(x:Operand):M (Out G):=M.bind (evP ev x) λx=>M.bind (M.need (x.cells.all Tw)) λ_=>M.ret ⟨C (.p (.one (.ptr nm 0))),[(nm,C (.cells x.cells))],[nm],[]⟩
def Af1(G:Sig)(fs:List (Nat×Nat))(i:Nat):Option (Nat×Nat):=match fs[i]? with|some (o,u)=>C (o,G.sz u)|none=>D
def Bcu(G:Sig)(e i:Nat):Option (Nat×Nat):=C (i*G.sz e,G.sz e)
def RX(t:Nat)(parts:List (Nat×Operand)):M (Out G):=match G.ty t with
 |.st fs=>M.bind (JD ev parts) λps=>M.bind (M.opt (XD (Af1 G fs) (GS G t) ps)) λcs=>M.ret (outP (.agg cs))
 |.arr _ e=>M.bind (JD ev parts) λps=>M.bind (M.opt (XD (Bcu G e) (GS G t) ps)) λcs=>M.ret (outP (.agg cs))
 |_=>M.fail
def Zz:Ty->Bool
 |.fn=>H
 |_=>J
def WS(e len:Nat)(cs:List (Cv G.T)):M (Out G):=match Zz (G.ty e)with
 |true=>M.bind (M.need (cs.all Tw)) λ_=>M.ret ⟨C (.p (.one (.sa nm 0 len))),[(nm,C (.cells cs))],[nm],[]⟩
 |false=>M.bind (M.opt (QE h (Bji G e len) cs)) λq=>M.bind (M.opt (rows G e len q.1)) λl=>M.ret ⟨C (.p (.one (.own nm))),Om q.2++[(nm,C (.row e l))],[nm],q.2⟩
def FB(t len:Nat)(parts:List (Nat×Operand)):M (Out G):=match G.ty t with
 |.sl e=>M.bind (JD ev parts) λps=>M.bind (M.need (Nat.ble len 65536&&Nat.ble (len*G.sz e) 16777216)) λ_=>M.bind (M.opt (XD (Bcu G e) (QQ G e len) ps)) λcs=>WS h nm e len cs
 |_=>M.fail
def US{α:Type}(i:Nat)(f:Nat->Option α):List Nat->M α
 |[]=>M.fail
 |q::t=>λR k=>bif I i q then(M.opt (f q):M α) R k else US i f t R k
def Aax(h:Nat->Option (Blk G.T)):Cv G.T->Bool
 |.pd b off _ _ _=>match h b with
  |some (.cells cs)=>match cs[off]? with
   |some (.clo _ _ _)=>H
   |_=>J
  |_=>J
 |_=>J
def VG(h:Nat->Option (Blk G.T))(n:Nat)(c:Cv G.T):M (List (Cv G.T)):=bif Aax h c then match c with
  |.pd b off s len i=>US i (λq=>look h n (.ptr b (off+q*s))) (Rv len)
  |_=>M.fail
 else M.opt (look h n c)
def Qt(t:Nat)(a:Operand):M (Out G):=M.bind (evC ev a) λc=>M.bind (VG h (G.sz t) c) λcs=>M.bind (M.opt (SN G t cs)) λx=>M.ret ⟨C (.p x),[],[],c.rds⟩
def PE:Ty->Bool
 |.no=>H
 |_=>J
def Sw(c:Cv G.T)(cs:List (Cv G.T)):M (Out G):=M.bind (M.opt (Lp h cs c)) λr=>M.ret ⟨D,[(r.1,C r.2)],[],c.rds⟩
def Bxc(G:Sig)(t off n:Nat):List (Cv G.T):=match part (G.enc t (G.dfl t)) off n with
 |some l=>l
 |none=>[]
def Aaj(c:Cv G.T)(cs:List (Cv G.T)):M (Out G):=match c with
 |.pr b t i off=>M.bind (M.opt (QE h (Bxc G t off cs.length) cs)) λq=>M.bind (M.need (!has q.2 b)) λ_=>M.bind (M.opt (Lp h q.1 (.pr b t i off))) λr=>M.ret ⟨D,Om q.2++[(r.1,C r.2)],[],b::q.2⟩
 |c=>Sw h c cs
def Nx(t:Nat)(a x:Operand):M (Out G):=M.bind (evC ev a) λc=>M.bind (evP ev x) λx=>M.bind (M.need (I x.cells.length (G.sz t)&&!PE (G.ty t))) λ_=>Aaj h c x.cells
def YS(x:Operand):M (Out G):=M.bind (evC ev x) λc=>M.bind (M.need (isP c)) λ_=>M.ret (outP (.one c))
def Ams(y:Ty)(op:BinOp)(v u:Value):M (Out G):=match y,v,u with
 |.bool,.bool a,.bool b=>match op with
  |.eql=>M.ret (outV (.bool (a==b)))
  |.neq=>M.ret (outV (.bool (!(a==b))))
  |_=>M.fail
 |_,v,u=>M.bind (bin op v u) λr=>M.ret (outV r)
def Cc:Value->Nat
 |.bool _=>1
 |.string _=>2
 |.int k _=>match k with
  |.i8=>3
  |.i16=>4
  |.i32=>5
  |.i64=>6
  |.u8=>7
  |.u16=>8
  |.u32=>9
  |.u64=>10
 |.float k _=>match k with
  |.f32=>11
  |.f64=>12
 |_=>0
def Afo{T:Nat->Type}:Cv T->Nat
 |.sc v=>Cc v
 |_=>0
def Js:List Nat->List Nat->Bool
 |[],[]=>H
 |a::s,b::t=>I a b&&Js s t
 |_,_=>J
def DR{α:Type}(f:α->Nat):List α->List Nat
 |[]=>[]
 |a::t=>f a::DR f t
def zk(G:Sig)(t:Nat):List Nat:=DR Cc (G.zero t)
def XC(G:Sig)(r:Nat->Bool):List (Nat×Nat)->Nat->List Nat->Bool
 |[],_,ks=>Js ks []
 |p::t,off,ks=>I p.1 off&&r p.2&&match Ou (G.sz p.2) ks,Pp (G.sz p.2) ks with
  |some a,C b=>Js a (zk G p.2)&&XC G r t (off+G.sz p.2) b
  |_,_=>J
def Aa5(G:Sig)(e:Nat):Nat->List Nat->Bool
 |0,ks=>Js ks []
 |n+1,ks=>match Ou (G.sz e) ks,Pp (G.sz e) ks with
  |some a,C b=>Js a (zk G e)&&Aa5 G e n b
  |_,_=>J
def SI(G:Sig):Nat->Nat->Bool
 |0,_=>J
 |d+1,t=>match G.ty t with
  |.bool=>Js (zk G t) [1]
  |.str=>Js (zk G t) [2]
  |.int k=>Js (zk G t) [Cc (.int k 0)]
  |.st fs=>XC G (SI G d) fs 0 (zk G t)
  |.arr n e=>SI G d e&&Aa5 G e n (zk G t)
  |_=>J
def Bqs(G:Sig)(t:Nat)(cs ds:List (Cv G.T)):Bool:=SI G 20 t&&Js (DR Afo cs) (zk G t)&&Js (DR Afo ds) (zk G t)
def Bea(op:BinOp)(t:Nat)(a b:Pv G.T):M (Out G):=match a,b with
 |.one (.sc v),.one (.sc u)=>Ams (G.ty t) op v u
 |.agg cs,.agg ds=>M.bind (M.need ((G.ty t).isAgg&&Bqs G t cs ds)) λ_=>M.bind (M.opt (HU cs ds)) λr=>match op with
  |.eql=>M.ret (outV (.bool r))
  |.neq=>M.ret (outV (.bool (!r)))
  |_=>M.fail
 |_,_=>M.fail
def YQ(op:BinOp)(t:Nat)(x y:Operand):M (Out G):=M.bind (evP ev x) λa=>M.bind (evP ev y) λb=>Bea op t a b
def unP(op:UnOp)(c:Cv G.T):M (Out G):=match op,c with
 |.not,.sc (.bool b)=>M.ret (outV (.bool (!b)))
 |.neg,.sc (.int k n)=>M.ret (outV (.int k (k.wrap (0-n))))
 |.xor,.sc (.int k n)=>M.bind (M.opt (Atz .xor k (if k.signed then -1 else k.max) n)) λr=>M.ret (outV (.int k r))
 |_,_=>M.fail
def aUn(op:UnOp)(x:Operand):M (Out G):=M.bind (evC ev x) λc=>unP op c
def Aay(y:Ty)(c:Cv G.T):M (Out G):=match y,c with
 |.int k,.sc (.int _ n)=>M.ret (outV (.int k (k.wrap n)))
 |.str,.sc (.string s)=>M.ret (outV (.string s))
 |.flt k,.sc (.int _ n)=>M.ret (outV (.float k (Af0 k n)))
 |_,_=>M.fail
def u8C{T:Nat->Type}:Cv T->Bool
 |.sc (.int .u8 _)=>H
 |_=>J
def Aau{T:Nat->Type}:List (Cv T)->UInt8
 |[.sc (.int _ n)]=>UInt8.ofNat n.toNat
 |_=>0
def Aam(G:Sig)(e:Nat)(l:List (G.T e)):ByteArray:=⟨(l.map λx=>Aau (G.enc e x)).toArray⟩
def Adm:List Bool->Bool
 |[H]=>H
 |_=>J
def Bq2:Ty->Bool
 |.int .u8=>H
 |_=>J
def Afm:Ty->Bool
 |.str=>H
 |_=>J
def Qs(s t:Nat)(x:Operand):M (Out G):=M.bind (M.need (!PE (G.ty s))) λ_=>M.bind (evC ev x) λc=>match G.ty s with
 |.sl e=>bif Afm (G.ty t)then M.bind (M.need (Bq2 (G.ty e)&&Adm ((G.enc e (G.dfl e)).map u8C))) λ_=>M.bind (M.opt (Jm h e c)) λl=>M.ret ⟨C (.p (.one (.sc (.string (Aam G e l))))),[],[],c.rds⟩
  else Aay (G.ty t) c
 |_=>Aay (G.ty t) c
def Vh(f:Nat)(a b:List Operand):M (Out G):=M.bind (Uv ev a) λa=>M.bind (Uv ev b) λb=>M.bind (M.opt (DI Al0 a)) λa=>M.bind (M.opt (DI Al0 b)) λb=>M.ret (outP (.one (.clo f a b)))
def Kd(t:Nat)(n m:Operand):M (Out G):=match G.ty t with
 |.sl e=>M.bind (evI ev n) λn=>M.bind (evI ev m) λm=>
   M.bind (M.need (decide (0<=n.2)&&decide (n.2<=m.2)&&decide (m.2<=(Aoo:Int)))) λ_=>
   M.bind (M.opt (G.dec e (GS G e))) λz=>
   M.ret ⟨C (.p (.one (.own nm))),[(nm,C (.row e (List.replicate n.2.toNat z)))],[nm],[]⟩
 |_=>M.fail
def WU(c:Cv G.T)(lo hi:Option Operand):M (Out G):=match c with
 |.sc (.string s)=>M.bind (Hm ev s.size s.size hi) λb=>M.bind (Hm ev 0 b lo) λa=>M.ret (outV (.string (s.extract a b)))
 |_=>M.fail
def WT(c:Cv G.T)(e':Nat)(lo hi:Option Operand):M (Out G):=match c with
 |.ro e l=>M.bind (M.need (I e e')) λ_=>M.bind (Hm ev l.length l.length hi) λb=>M.bind (Hm ev 0 b lo) λa=>M.ret (outP (.one (.ro e ((l.take b).drop a))))
 |_=>M.fail
def Apq(n:Nat)(c:Cv G.T)(lo hi:Option Operand):M (Out G):=match c,lo,hi with
 |.ptr b off,D,D=>M.ret (outP (.one (.sa b off n)))
 |_,_,_=>M.fail
def Sa(t:Nat)(x:Operand)(lo hi mx:Option Operand):M (Out G):=match mx with
 |some _=>M.fail
 |none=>match G.ty t with
  |.str=>M.bind (evC ev x) λc=>WU ev c lo hi
  |.sl e=>M.bind (evC ev x) λc=>WT ev c e lo hi
  |.arr n _=>M.bind (evC ev x) λc=>Apq n c lo hi
  |_=>M.fail
def Kc(t:Nat)(x:Operand)(f:Nat):M (Out G):=match G.ty t with
 |.st fs=>M.bind (evC ev x) λc=>M.bind (M.opt fs[f]?) λo=>M.bind (M.opt (Mx o.1 c)) λc=>M.ret (outP (.one c))
 |_=>M.fail
def Ae7(fs:List (Nat×Nat))(x:Pv G.T)(f:Nat):M (Out G):=match x with
 |.agg ds=>M.bind (M.opt fs[f]?) λo=>M.bind (M.opt (part ds o.1 (G.sz o.2))) λcs=>M.bind (M.opt (SN G o.2 cs)) λx=>M.ret (outP x)
 |.one _=>M.fail
def RY(t:Nat)(x:Operand)(f:Nat):M (Out G):=match G.ty t with
 |.st fs=>M.bind (evP ev x) λx=>Ae7 fs x f
 |_=>M.fail
def inB(i:Int)(n:Nat):Bool:=decide (0<=i)&&decide (i<(n:Int))
def ixA(n e:Nat)(c:Cv G.T)(i:Int):M (Out G):=match c with
 |.ptr b off=>M.bind (M.need (inB i n)) λ_=>M.ret (outP (.one (.pd b off (G.sz e) n i.toNat)))
 |.pr b t j off=>M.bind (M.need (inB i n)) λ_=>M.ret (outP (.one (.pr b t j (off+i.toNat*G.sz e))))
 |.rp t x off=>M.bind (M.need (inB i n)) λ_=>
   M.bind (M.opt (DI (λj=>match DI (λq=>(G.enc t x)[off+q*G.sz e+j]?) (Rv n)with|some l=>Agf l i.toNat|none=>D) (Rv (G.sz e)))) λcs=>
   M.bind (M.opt (G.dec e cs)) λy=>M.ret (outP (.one (.rp e y 0)))
 |_=>M.fail
def ixS(e':Nat)(c:Cv G.T)(i:Int):M (Out G):=match c with
 |.own b=>match h b with
  |some (.row e l)=>M.bind (M.need (I e e')) λ_=>M.bind (M.need (inB i l.length)) λ_=>M.ret ⟨C (.p (.one (.pr b e i.toNat 0))),[],[],[b]⟩
  |_=>M.fail
 |.ro e l=>M.bind (M.need (I e e')) λ_=>M.bind (M.need (inB i l.length)) λ_=>M.ret (outP (.one (.rp e (l.getD i.toNat (G.dfl e)) 0)))
 |.sa b off len=>M.bind (M.need (inB i len)) λ_=>M.pick (λq=>M.ret (outP (.one (.ptr b (off+q*G.sz e'))))) i.toNat 0 len
 |_=>M.fail
def Gq(t:Nat)(x i:Operand):M (Out G):=match G.ty t with
 |.arr n e=>M.bind (evC ev x) λc=>M.bind (evI ev i) λi=>ixA n e c i.2
 |.sl e=>M.bind (evC ev x) λc=>M.bind (evI ev i) λi=>ixS h e c i.2
 |_=>M.fail
def ixV(s:Cv G.T)(i:Int):M (Out G):=match s with
 |.sc (.string s)=>M.bind (M.need (inB i s.size)) λ_=>M.ret (outV (.int .u8 (BG s i.toNat)))
 |_=>M.fail
def Bi1{T:Nat->Type}:List (Cv T)->Bool
 |.clo _ _ _::_=>H
 |_=>J
def Bq3(e:Nat)(ds:List (Cv G.T))(q:Nat):M (Out G):=M.bind (M.opt (part ds (q*G.sz e) (G.sz e))) λcs=>M.bind (M.opt (SN G e cs)) λy=>M.ret (outP y)
def Alx(n e:Nat)(x:Pv G.T)(i:Int):M (Out G):=match x with
 |.agg ds=>M.bind (M.need (inB i n)) λ_=>match Bi1 ds with
  |true=>M.pick (Bq3 e ds) i.toNat 0 n
  |false=>
   M.bind (M.opt (DI (λj=>match DI (λq=>ds[q*G.sz e+j]?) (Rv n)with|some l=>Agf l i.toNat|none=>D) (Rv (G.sz e)))) λcs=>
   M.bind (M.opt (SN G e cs)) λy=>M.ret (outP y)
 |.one _=>M.fail
def RZ(t:Nat)(x i:Operand):M (Out G):=match G.ty t with
 |.arr n e=>M.bind (evP ev x) λc=>M.bind (evI ev i) λi=>Alx n e c i.2
 |.str=>M.bind (evC ev x) λc=>M.bind (evI ev i) λi=>ixV c i.2
 |_=>M.fail
def Nw(x:Operand)(i:Nat):M (Out G):=λ_ k=>match ev x with
 |some (.tup xs)=>match xs[i]? with|some y=>k (outP y)|none=>D
 |_=>D
def XA:List (Pv G.T)->M (Out G)
 |[.one (.sc (.float .f64 n))]=>M.ret (outV (.int .u64 (n:Int)))
 |_=>M.fail
def XB:List (Pv G.T)->M (Out G)
 |[.one (.sc (.int .u64 n))]=>M.ret (outV (.float .f64 n.toNat))
 |_=>M.fail
def Xj(c:Cv G.T)(a:List (Pv G.T)):M (Out G):=match c with
 |.clo g fst caps=>match G.ext g with
  |0=>cf g (fst.map Adr++(a++caps.map Adr)) h nm
  |1=>XA (fst.map Adr++(a++caps.map Adr))
  |_=>XB (fst.map Adr++(a++caps.map Adr))
 |_=>M.fail
def Qr(f:Operand)(xs:List Operand):M (Out G):=M.bind (evC ev f) λc=>M.bind (Uv ev xs) λa=>Xj cf h nm c a
def act:Op->M (Out G)
 |.move x|.assign x=>RF ev x
 |.pick c a b=>Vi ev c a b
 |.alloc t=>YP nm t
 |.box _ x=>YR ev nm x
 |.build t parts=>RX ev t parts.toList
 |.buildSlice t len parts=>FB ev h nm t len parts.toList
 |.load t a=>Qt ev h t a
 |.store t a x=>Nx ev h t a x
 |.nilCheck x=>YS ev x
 |.binOp op t x y _=>YQ ev op t x y
 |.unOp op _ x=>aUn ev op x
 |.convert s t x=>Qs ev h s t x
 |.makeFunc (.func f) a b=>Vh ev f a.toList b.toList
 |.makeSlice t n m=>Kd ev nm t n m
 |.slice t x lo hi mx=>Sa ev t x lo hi mx
 |.fieldAddr t x f=>Kc ev t x f
 |.field t x f=>RY ev t x f
 |.indexAddr t x i=>Gq ev h t x i
 |.index t x i=>RZ ev t x i
 |.extract x i=>Nw ev x i
 |.call ⟨.builtin b,xs,tys⟩=>AP ev h nm b tys.toList xs.toList
 |.call ⟨.value f,xs,_⟩=>Qr cf ev h nm f xs.toList
 |_=>M.fail
end
def Ll:Value->Bool
 |.bool _|.int _ _|.float _ _|.string _|.nilFunc|.nilIface|.pointer D|.slice D 0 0|.map D=>H
 |_=>J
def Tm(tm:List (Nat×Sv G.T)):Operand->Option (Sv G.T)
 |.tmp t=>get tm t
 |.const (.agg cs)=>bif cs.toList.all Ll then C (.p (.agg (cs.toList.map .sc)))else D
 |.const v=>bif Ll v then C (.p (.one (.sc v)))else D
 |.func f=>C (.p (.one (.clo f [] [])))
 |.global g=>match G.gl g with|some p=>C (.p (.one (.rp p.1 p.2 0)))|none=>D
def Ads(hp:List (Nat×Blk G.T)):List (Nat×Option (Blk G.T))->List (Nat×Blk G.T)
 |[]=>hp
 |(n,D)::t=>Ads (del hp n) t
 |(n,C b)::t=>Ads (put hp n b) t
def KC(us:List Nat):List Nat->Bool
 |[]=>H
 |n::t=>!has us n&&KC us t
def St.next(st:St G)(dst:Option Nat)(o:Out G):St G:=
 {tm:=match dst with
   |some d=>match o.v with|some v=>put st.tm d v|none=>del st.tm d
   |none=>st.tm
  hp:=Ads st.hp o.d
  us:=o.nw++st.us }
def St.drop(st:St G)(dst:Option Nat):St G:=
 match dst with
 |some d=>{ st with tm:=put st.tm d (.tup []) }
 |none=>st
def Alr(base:Nat):Option Nat->Nat
 |some d=>base+16*d
 |none=>base
def Afi(tm:List (Nat×Sv G.T))(g:Option Nat)(want:Bool):M (Bool×Option (Nat×Bool)):=λ_ k=>
 match g with
 |some g=>match get tm g with
  |some (.p (.one (.sc (.bool b))))=>bif b then k (want,C (g,H))else k (!want,C (g,J))
  |some (.tup [])=>k (J,D)
  |_=>D
 |none=>D
def TJ(ops:Array Oper)(tm:List (Nat×Sv G.T))(o:Oper):M (Bool×Option (Nat×Bool)):=
 match o.guard with
 |none=>M.ret (H,D)
 |some (j,want)=>Afi tm ((ops[j]?).bind (·.dst)) want
def St.note(st:St G):Option (Nat×Bool)->St G
 |some (g,b)=>{ st with tm:=put st.tm g (.p (.one (.sc (.bool b)))) }
 |none=>st
def Pq(nt:Nat):Option Nat->Bool
 |some d=>Nat.blt d nt
 |none=>H
section
variable(cf:Dg G)(nt:Nat)
def Al5(ops:Array Oper)(o:Oper)(st:St G):M (St G):=
 M.bind (M.need (Pq nt o.dst)) λ_=>M.bind (TJ ops st.tm o) λg=>
  match g.1 with
  |true=>M.bind (act cf (Tm st.tm) (get st.hp) (Alr 0 o.dst) o.op) λout=>M.bind (M.need (KC st.us out.nw)) λ_=>M.ret ((st.note g.2).next o.dst out)
  |false=>M.ret ((st.note g.2).drop o.dst)
def UP(ops:Array Oper):List Oper->St G->M (St G)
 |[],st=>M.ret st
 |o::t,st=>M.bind (Al5 cf nt ops o st) λst=>UP ops t st
end
end Go.Ab
namespace Go.Ab
inductive Ex where
 |normal|exit (id:Nat)|ret
def Zr:Ex->Ex->Bool
 |.normal,.normal=>H
 |.exit i,.exit j=>I i j
 |.ret,.ret=>H
 |_,_=>J
inductive CSh where
 |int (k:IntKind)|bool|str|flt (k:FloatKind)
 |own (m t:Nat)|ro (t:Nat)|rp (t off:Nat)|ptr (n off:Nat)|clo (f:Nat) (p q:List (Nat×Nat))|np (n t:Nat)|nili|sa (n off len:Nat)|nilp|lit (k:IntKind) (n:Int)
inductive PSh where
 |one (c:CSh)
 |agg (cs:List CSh)
structure Spec where
 tm:List (Nat×PSh)
 hp:List (Nat×List CSh)
 us:List Nat
def lo:Nat:=65536
variable{G:Sig}
def CSh.T(G:Sig):CSh->Type
 |.int _=>Int
 |.bool=>Bool
 |.str=>ByteArray
 |.flt _=>Nat
 |.own _ t=>List (G.T t)
 |.ro t=>List (G.T t)
 |.rp t _=>G.T t
 |.ptr _ _=>Unit
 |.clo _ _ _=>Unit
 |.np _ _=>Unit
 |.nili=>Unit
 |.nilp=>Unit
 |.lit _ _=>Unit
 |.sa _ _ _=>Unit
def TL(G:Sig):List CSh->Type
 |[]=>Unit
 |s::t=>s.T G×TL G t
def PSh.T(G:Sig):PSh->Type
 |.one c=>c.T G
 |.agg cs=>TL G cs
def TmT(G:Sig):List (Nat×PSh)->Type
 |[]=>Unit
 |p::t=>p.2.T G×TmT G t
def HpT(G:Sig):List (Nat×List CSh)->Type
 |[]=>Unit
 |p::t=>TL G p.2×HpT G t
def Spec.T(G:Sig)(s:Spec):Type:=TmT G s.tm×HpT G s.hp
def CSh.give:(s:CSh)->s.T G->Cv G.T
 |.int k,n=>.sc (.int k n)
 |.bool,b=>.sc (.bool b)
 |.str,x=>.sc (.string x)
 |.flt k,n=>.sc (.float k n)
 |.own m _,_=>.own m
 |.ro t,l=>.ro t l
 |.rp t off,x=>.rp t x off
 |.ptr n off,_=>.ptr n off
 |.clo f p q,_=>.clo f p q
 |.np n t,_=>.np n t
 |.nili,_=>.sc .nilIface
 |.nilp,_=>.sc (.pointer D)
 |.lit k n,_=>.sc (.int k n)
 |.sa n off len,_=>.sa n off len
def CSh.blk:(s:CSh)->s.T G->List (Nat×Blk G.T)
 |.own m t,l=>[(m,.row t l)]
 |_,_=>[]
def Dy:(s:List CSh)->TL G s->List (Cv G.T)
 |[],_=>[]
 |c::t,x=>c.give x.1::Dy t x.2
def Acr:(s:List CSh)->TL G s->List (Nat×Blk G.T)
 |[],_=>[]
 |c::t,x=>c.blk x.1++Acr t x.2
def PSh.give:(s:PSh)->s.T G->Pv G.T
 |.one c,x=>.one (c.give x)
 |.agg cs,x=>.agg (Dy cs x)
def PSh.blk:(s:PSh)->s.T G->List (Nat×Blk G.T)
 |.one c,x=>c.blk x
 |.agg cs,x=>Acr cs x
def Lk:(s:List (Nat×PSh))->TmT G s->List (Nat×Sv G.T)
 |[],_=>[]
 |p::t,x=>(p.1,.p (p.2.give x.1))::Lk t x.2
def Pl:(s:List (Nat×PSh))->TmT G s->List (Nat×Blk G.T)
 |[],_=>[]
 |p::t,x=>p.2.blk x.1++Pl t x.2
def Jf:(s:List (Nat×List CSh))->HpT G s->List (Nat×Blk G.T)
 |[],_=>[]
 |p::t,x=>(p.1,.cells (Dy p.2 x.1))::Jf t x.2
def Td:(s:List (Nat×List CSh))->HpT G s->List (Nat×Blk G.T)
 |[],_=>[]
 |p::t,x=>Acr p.2 x.1++Td t x.2
def BS:List (Nat×Blk G.T)->List Nat
 |[]=>[]
 |p::t=>p.1::BS t
def Spec.mk'(s:Spec)(x:s.T G):St G:=
 let h:=Pl s.tm x.1++(Td s.hp x.2++Jf s.hp x.2)
 ⟨Lk s.tm x.1,h,BS h++s.us⟩
structure Tk(α:Type) where
 x:α
 nm:List (Nat×Option Nat)
 fz:List Nat
def Aug(G:Sig)(t t':Nat)(x:G.T t):Option (G.T t'):=if h:t=t' then C (h▸x)else D
def Xy:List (Nat×Nat)->List (Nat×Nat)->Bool
 |[],[]=>H
 |a::s,b::t=>I a.1 b.1&&I a.2 b.2&&Xy s t
 |_,_=>J
def tk0{α:Type}(x:α):Option (Tk α):=C ⟨x,[],[]⟩
def Yj(h:Nat->Option (Blk G.T))(n t:Nat):Option (List (G.T t)):=match h n with
 |some (.row t' l)=>Qx G t' t l
 |_=>D
def Avm(k:IntKind)(n:Int):Value->Bool
 |.int k' m=>Fm k k'&&decide (n=m)
 |_=>J
def Aoi:Value->Bool
 |.pointer D=>H
 |_=>J
def Aoh:Value->Bool
 |.nilIface=>H
 |_=>J
section
variable(h:Nat->Option (Blk G.T))
def CSh.take:(s:CSh)->Cv G.T->Option (Tk (s.T G))
 |.int k,.sc (.int k' n)=>bif Fm k k' then tk0 n else D
 |.bool,.sc (.bool b)=>tk0 b
 |.str,.sc (.string x)=>tk0 x
 |.flt k,.sc (.float k' n)=>bif QB k k' then tk0 n else D
 |.own m t,.own n=>match Yj h n t with|some l=>C ⟨l,[(m,C n)],[]⟩|none=>D
 |.own m _,.sc v=>bif Sn v then C ⟨[],[(m,D)],[]⟩else D
 |.ro t,.ro t' l=>match Qx G t' t l with|some l=>tk0 l|none=>D
 |.ro t,.own n=>match Yj h n t with|some l=>C ⟨l,[],[n]⟩|none=>D
 |.ro _,.sc v=>bif Sn v then tk0 []else D
 |.rp t off,.rp t' x off'=>bif I off off' then match Aug G t' t x with|some x=>tk0 x|none=>D else D
 |.ptr n off,.ptr n' off'=>bif I n n'&&I off off' then tk0 ()else D
 |.clo f p q,.clo f' p' q'=>bif I f f'&&Xy p p'&&Xy q q' then tk0 ()else D
 |.np n t,.np n' t'=>bif I n n'&&I t t' then tk0 ()else D
 |.nili,.sc v=>bif Aoh v then tk0 ()else D
 |.nilp,.sc v=>bif Aoi v then tk0 ()else D
 |.lit k n,.sc v=>bif Avm k n v then tk0 ()else D
 |.sa n off len,.sa n' off' len'=>bif I n n'&&(I off off'&&I len len')then tk0 ()else D
 |_,_=>D
def Mg:(s:List CSh)->List (Cv G.T)->Option (Tk (TL G s))
 |[],[]=>tk0 ()
 |s::t,c::cs=>match s.take h c,Mg t cs with
  |some a,C b=>C ⟨(a.x,b.x),a.nm++b.nm,a.fz++b.fz⟩
  |_,_=>D
 |_,_=>D
def PSh.take:(s:PSh)->Pv G.T->Option (Tk (s.T G))
 |.one s,.one c=>s.take h c
 |.agg ss,.agg cs=>Mg h ss cs
 |_,_=>D
def Lu(tm:List (Nat×Sv G.T)):(s:List (Nat×PSh))->Option (Tk (TmT G s))
 |[]=>tk0 ()
 |p::t=>match get tm p.1 with
  |some (.p c)=>match p.2.take h c,Lu tm t with
   |some a,C b=>C ⟨(a.x,b.x),a.nm++b.nm,a.fz++b.fz⟩
   |_,_=>D
  |_=>D
def Ls:(s:List (Nat×List CSh))->Option (Tk (HpT G s))
 |[]=>tk0 ()
 |p::t=>match h p.1 with
  |some (.cells cs)=>match Mg h p.2 cs,Ls t with
   |some a,C b=>C ⟨(a.x,b.x),a.nm++b.nm,a.fz++b.fz⟩
   |_,_=>D
  |_=>D
end
def Jg:List Nat->Bool
 |[]=>H
 |n::t=>!has t n&&Jg t
def EE:List (Nat×Option Nat)->List Nat
 |[]=>[]
 |p::t=>p.1::EE t
def Fb:List (Nat×Option Nat)->List Nat
 |[]=>[]
 |(_,C n)::t=>n::Fb t
 |(_,D)::t=>Fb t
def Wz(l:List Nat):List Nat->Bool
 |[]=>H
 |n::t=>has l n&&Wz l t
def Ts:List (Nat×Nat)->List Nat
 |[]=>[]
 |p::t=>p.1::Ts t
def CSh.fix(l:List Nat):CSh->Bool
 |.ptr n _=>has l n
 |.clo _ p q=>Wz l (Ts p)&&Wz l (Ts q)
 |.np n _=>has l n
 |.sa n _ _=>has l n
 |_=>H
def PSh.fix(l:List Nat):PSh->Bool
 |.one c=>c.fix l
 |.agg cs=>cs.all (CSh.fix l)
def AF:List (Nat×List CSh)->List Nat
 |[]=>[]
 |p::t=>p.1::AF t
def Xt:List Nat->List Nat->Bool
 |[],_=>H
 |n::t,l=>!has l n&&Xt t l
def Xd:List Nat->Bool
 |[]=>H
 |n::t=>Nat.blt n lo&&Xd t
def Aef(us:List Nat):List Nat->Bool
 |[]=>H
 |n::t=>(Nat.blt n lo||has us n)&&Aef us t
def Spec.take(s:Spec)(st:St G):Option (s.T G):=match Lu (get st.hp) st.tm s.tm,Ls (get st.hp) s.hp with
 |some a,C b=>
  bif s.tm.all (λp=>p.2.fix (AF s.hp))&&s.hp.all (λp=>p.2.all (CSh.fix (AF s.hp)))&&
   (Jg (EE (a.nm++b.nm)++AF s.hp)&&Xd (EE (a.nm++b.nm))&&Jg (Fb (a.nm++b.nm)++AF s.hp)&&Xt (Fb (a.nm++b.nm)++AF s.hp) (a.fz++b.fz)&&Aef s.us st.us)
  then C (a.x,b.x)else D
 |_,_=>D
def Hk(G:Sig):List (Ex×Spec)->Type
 |[]=>Empty
 |[p]=>p.2.T G
 |p::q::t=>Sum (p.2.T G) (Hk G (q::t))
def Jp:(E:List (Ex×Spec))->Ex->St G->Option (Hk G E)
 |[],_,_=>D
 |[p],e,st=>bif Zr e p.1 then p.2.take st else D
 |p::q::t,e,st=>match bif Zr e p.1 then p.2.take st else D with
  |some x=>C (.inl x)
  |none=>match Jp (q::t) e st with|some y=>C (.inr y)|none=>D
def Hv{R:Type}:(E:List (Ex×Spec))->Hk G E->(Ex×St G->Option R)->Option R
 |[],y,_=>y.elim
 |[p],y,k=>k (p.1,p.2.mk' y)
 |p::q::t,y,k=>match y with
  |.inl x=>k (p.1,p.2.mk' x)
  |.inr y=>Hv (q::t) y k
def Anl(E:List (Ex×Spec))(m:M (Ex×St G)):M (Ex×St G):=λ_ k=>(m _ λp=>Jp E p.1 p.2).bind λy=>Hv E y k
def Ahg:Option (List (Ex×Spec))->M (Ex×St G)->M (Ex×St G)
 |none,m=>m
 |some E,m=>Anl E m
def Apa(S:Spec)(E:List (Ex×Spec))(e:Ex)(st:St G):Option (Sum (S.T G) (Hk G E)):=match e with
 |.normal=>match S.take st with|some x=>C (.inl x)|none=>D
 |e=>match Jp E e st with|some y=>C (.inr y)|none=>D
def Su(S:Spec)(E:List (Ex×Spec))(body:St G->M (Ex×St G))(x:S.T G):Option (Sum (S.T G) (Hk G E)):=body (S.mk' x) _ λp=>Apa S E p.1 p.2
class Un (X F:Type) (R:outParam Type) where
 u:F->X->R
instance(priority:=low) un_leaf{X R:Type}:Un X (X->R) R:=⟨λf x=>f x⟩
instance un_unit{R:Type}:Un Unit R R:=⟨λf _=>f⟩
instance un_pair{X Y R F K:Type}[Un X F K][Un Y K R]:Un (X×Y) F R:=⟨λf x=>Un.u (Un.u f x.1:K) x.2⟩
class Ur (F:Type) (X Y:outParam Type)
instance ur0{X Y:Type}:Ur (Option (Sum X Y)) X Y:=⟨⟩
instance ur1{A F X Y:Type}[Ur F X Y]:Ur (A->F) X Y:=⟨⟩
def Sb{X Y:Type}(g:X->Option Y):Option (Sum X Y)->Option Y
 |some (.inl x)=>g x
 |some (.inr y)=>C y
 |none=>D
def Cj{X Y:Type}(step:X->Option (Sum X Y)):Nat->X->Option Y
 |0,_=>D
 |f+1,x=>Sb (Cj step f) (step x)
def lpX(S:Spec)(E:List (Ex×Spec))(L:S.T G->Option (Hk G E))(st:St G):M (Ex×St G):=λ_ k=>
 match S.take st with
 |some x=>(L x).bind λy=>Hv E y k
 |none=>D
end Go.Ab
namespace Go.Ab
variable{G:Sig}
def Ho:Code->Nat
 |.seq a b=>Ho a+Ho b
 |.cond _ a b=>Ho a+Ho b
 |.block _ a=>Ho a
 |.loop a=>Ho a+1
 |_=>0
def Ahh{α:Type}(l:List (Nat×α)):List Nat->List (Nat×α)
 |[]=>l
 |n::t=>Ahh (del l n) t
def St.kill(st:St G)(ks:List Nat):St G:={ st with tm:=Ahh st.tm ks }
def Aew(tm:List (Nat×Sv G.T))(t:Nat):M (Bool×Option (Nat×Bool)):=λ_ k=>
 match get tm t with
 |some (.p (.one (.sc (.bool b))))=>bif b then k (H,C (t,H))else k (J,C (t,J))
 |_=>D
def Alp:Value->M (Bool×Option (Nat×Bool))
 |.bool b=>M.ret (b,D)
 |_=>M.fail
def Xq(tm:List (Nat×Sv G.T)):Operand->M (Bool×Option (Nat×Bool))
 |.tmp t=>Aew tm t
 |.const v=>Alp v
 |_=>M.fail
section
variable(cf:Dg G)(nt:Nat)(drawn:Array Oper->St G->M (St G))(lp:Nat->St G->M (Ex×St G))(kl:Nat->List Nat)(jn:Nat->Option (List (Ex×Spec)))
def Avi:Code->Nat
 |.seq a _=>Avi a
 |.block _ a=>Avi a
 |.region id _ _=>id+1
 |_=>0
def Bi4:Nat:=1048576
def Bw4:Nat:=2097152
def Av5(id:Nat)(f:St G->M (Ex×St G))(st:St G):M (Ex×St G):=M.bind (Ahg (jn (Bw4+id)) (M.ret (.normal,st))) λp=>match p.1 with
 |.normal=>f p.2
 |_=>M.fail
def CU:Nat->Code->St G->M (Ex×St G)
 |_,.skip,st=>M.ret (.normal,st)
 |_,.ret,st=>M.ret (.ret,st)
 |_,.exit id,st=>M.ret (.exit id,st)
 |n,.seq a b,st=>M.bind (Ahg (jn (Avi b)) (CU n a st)) λp=>match p.1 with
  |.normal=>CU (n+Ho a) b p.2
  |e=>M.ret (e,p.2)
 |n,.cond c a b,st=>M.bind (Xq st.tm c) λp=>match p.1 with
  |true=>CU n a (st.note p.2)
  |false=>CU (n+Ho a) b (st.note p.2)
 |n,.block id a,st=>M.bind (CU n a st) λp=>match p.1 with
  |.exit i=>M.ret (bif I i id then .normal else .exit i,p.2)
  |e=>M.ret (e,p.2)
 |n,.loop _,st=>lp n st
 |_,.region id ops J,st=>Av5 jn id (λst=>Ahg (jn (Bi4+id)) (M.bind (UP cf nt ops ops.toList st) λst=>M.ret (.normal,st.kill (kl id)))) st
 |_,.region id ops H,st=>Av5 jn id (λst=>Ahg (jn (Bi4+id)) (M.bind (drawn ops st) λst=>M.ret (.normal,st.kill (kl id)))) st
 |_,_,_=>M.fail
end
def Kv{α:Type}:Nat->List α->List (Nat×α)
 |_,[]=>[]
 |n,x::t=>(n,x)::Kv (n+1) t
def TB(st:St G):ResultVar->Option (Pv G.T)
 |.tmp t=>match get st.tm t with|some (.p x)=>C x|_=>D
 |.cell a t=>match get st.tm a with
  |some (.p (.one c))=>match look (get st.hp) (G.sz t) c with|some cs=>SN G t cs|none=>D
  |_=>D
def Ir(st:St G):List ResultVar->Option (List (Pv G.T))
 |[]=>C []
 |r::t=>match TB st r,Ir st t with|some x,C l=>C (x::l)|_,_=>D
def QN(st:St G)(rs:List ResultVar):Option (Sv G.T):=match Ir st rs with
 |some [x]=>C (.p x)
 |some l=>C (.tup l)
 |none=>D
section
variable(cf:Dg G)(drawn:Nat->Array Oper->St G->M (St G))(lp:Nat->St G->M (Ex×St G))(kl:Nat->List Nat)(jn:Nat->Option (List (Ex×Spec)))(je:Option (List (Ex×Spec)))
end
end Go.Ab
namespace Go.Ab
def F2{α β:Type}(R:α->β->Prop)(xs:List α)(ys:List β):Prop:=xs.length=ys.length/\∀(i:Nat) x y,xs[i]?=C x->ys[i]?=C y->R x y
def F2.nil{α β:Type}{R:α->β->Prop}:F2 R [] []:=⟨rfl,λi x y h=>by simp at h⟩
def F2.cons{α β:Type}{R:α->β->Prop}{x:α}{y:β}{xs:List α}{ys:List β}(h:R x y)(t:F2 R xs ys):F2 R (x::xs) (y::ys):=by
 refine⟨by simp[t.1],λi a b ha hb=>?_⟩;cases i with
 |zero=>simp at ha hb;subst ha;subst hb;exact h
 |succ i=>simp at ha hb;exact t.2 i a b ha hb
def F2.tail{α β:Type}{R:α->β->Prop}{x:α}{y:β}{xs:List α}{ys:List β}(h:F2 R (x::xs) (y::ys)):R x y/\F2 R xs ys:=⟨h.2 0 x y rfl rfl,by have:=h.1;simp at this;exact this,λi a b ha hb=>h.2 (i+1) a b (by simp[ha]) (by simp[hb])⟩
def F2.inv{α β:Type}{R:α->β->Prop}{x:α}{xs:List α}{ys:List β}(h:F2 R (x::xs) ys):∃y t,ys=y::t/\R x y/\F2 R xs t:=by
 cases ys with
 |nil=>exact absurd h.1 σ
 |cons y t=>exact⟨y,t,rfl,h.tail⟩
def F2.inv_nil{α β:Type}{R:α->β->Prop}{ys:List β}(h:F2 R [] ys):ys=[]:=by
 cases ys with
 |nil=>rfl
 |cons y t=>exact absurd h.1 σ
def F2.mono{α β:Type}{R R':α->β->Prop}{xs:List α}{ys:List β}(h:F2 R xs ys)(hr:∀x y,R x y->R' x y):F2 R' xs ys:=⟨h.1,λi x y hx hy=>hr _ _ (h.2 i x y hx hy)⟩
def F2.append{α β:Type}{R:α->β->Prop}{xs xs':List α}{ys ys':List β}(h:F2 R xs ys)(h':F2 R xs' ys'):F2 R (xs++xs') (ys++ys'):=by
 refine⟨by simp[h.1,h'.1],λi x y hx hy=>?_⟩;rw[h0_]at hx hy;rw[h.1]at hx;by_cases hi:i<ys.length
 .simp only[hi,g8_]at hx hy;exact h.2 i x y hx hy
 .simp only[hi,f0_]at hx hy;exact h'.2 _ x y hx hy
def F2.map_left{α β γ:Type}{R:α->β->Prop}{f:γ->α}{xs:List γ}{ys:List β}(h:F2 (λc v=>R (f c) v) xs ys):F2 R (xs.map f) ys:=by
 refine⟨by simp[h.1],λi x y hx hy=>?_⟩;rw[b7_]at hx;cases hc:xs[i]? with
 |none=>simp[hc]at hx
 |some c=>simp[hc]at hx;subst hx;exact h.2 i c y hc hy
def F2.get{α β:Type}{R:α->β->Prop}{xs:List α}{ys:List β}(h:F2 R xs ys){i:Nat}{x:α}(hx:xs[i]?=C x):∃y,ys[i]?=C y/\R x y:=by
 have hi:i<ys.length:=by rw[<-h.1];exact(h_.1 hx).1
 exact⟨ys[i],i_ hi,h.2 i x _ hx (i_ hi)⟩
def AU{k n:Nat}:I k n=H↔k=n:=Nat.beq_eq▸Iff.rfl
def BY{α:Sort _}(k n:Nat)(a b:α):(bif I k n then a else b)=if k=n then a else b:=by
 by_cases h:k=n
 .rw[if_pos h,AU.2 h];rfl
 .rw[if_neg h];cases hb:I k n with
  |false=>rfl
  |true=>exact absurd (AU.1 hb) h
def WG{α:Type}(l:List (Nat×α))(n m:Nat):get (del l n) m=if n=m then D else get l m:=by
 induction l with
 |nil=>simp[del,get]
 |cons p t ih=>
  obtain⟨k,v⟩:=p;simp only[del,get,BY];by_cases hkn:k=n
  .subst hkn;rw[if_pos rfl,ih];by_cases h:k=m<;>simp[h]
  .rw[if_neg hkn];simp only[get,BY,ih];by_cases hkm:k=m
   .subst hkm;simp[f4_ hkn]
   .simp[hkm]
def TI{α:Type}(l:List (Nat×α))(n m:Nat)(x:α):get (put l n x) m=if n=m then C x else get l m:=by simp only[put,get,BY,WG];by_cases h:n=m<;>simp[h]
def HW(l:List Nat)(n:Nat):has l n=H↔n∈l:=by
 induction l with
 |nil=>simp[has]
 |cons k t ih=>
  simp only[has,BY,s_];by_cases h:k=n
  .simp[h]
  .simp[h,ih,f4_ h]
def AZ:Value->Option Nat
 |.pointer (C a)=>C a.block
 |.slice (C a) _ _=>C a.block
 |_=>D
variable{G:Sig}
variable{ν:Nat->Option Value}{v:Value}{c:Cv G.T}
inductive Rd(G:Sig)(S:Nat->Prop)(h:Array Obj):Cv G.T->Value->Prop
 |sc (v:Value) (hv:Ll v=true):Rd G S h (.sc v) v
 |nil (t:Nat) (a:Option Addr) (cap:Nat):Rd G S h (.ro t []) (.slice a 0 cap)
 |ro (t:Nat) (l:List (G.T t)) (b off cap:Nat) (c:Array Value) (te:TypeId) (fz:Nat×Nat) (vs:Nat->Nat->Value)
   (hS:S b) (hb:h[b]?=some (.cells c te fz)) (hcap:l.length<=cap)
   (hc:∀i j,i<l.length->j<G.sz t->c[off+i*G.sz t+j]?=some (vs i j))
   (hr:∀(i j:Nat) (x:G.T t) (cv:Cv G.T),l[i]?=some x->(G.enc t x)[j]?=some cv->Rd G S h cv (vs i j)) :
   Rd G S h (.ro t l) (.slice (some ⟨b,off,none⟩) l.length cap)
 |rp (t:Nat) (x:G.T t) (off b base:Nat) (c:Array Value) (te:TypeId) (fz:Nat×Nat) (vs:Nat->Value)
   (hS:S b) (hb:h[b]?=some (.cells c te fz))
   (hc:∀j,j<G.sz t->c[base+j]?=some (vs j))
   (hr:∀(j:Nat) (cv:Cv G.T),(G.enc t x)[j]?=some cv->Rd G S h cv (vs j)) :
   Rd G S h (.rp t x off) (.pointer (some ⟨b,base+off,none⟩))
def RPtr(ν:Nat->Option Value)(p:Nat×Nat)(v:Value):Prop:=∃b,ν p.1=C (.pointer (C ⟨b,0,D⟩))/\v=.pointer (C ⟨b,p.2,D⟩)
def Rc(G:Sig)(ν:Nat->Option Value)(S:Nat->Prop)(h:Array Obj):Cv G.T->Value->Prop
 |.ptr n off,v=>RPtr ν (n,off) v
 |.pd n off s len i,v=>i<len/\RPtr ν (n,off+i*s) v
 |.pr n t i off,v=>∃b len cap,ν n=C (.slice (C ⟨b,0,D⟩) len cap)/\i<len/\v=.pointer (C ⟨b,i*G.sz t+off,D⟩)
 |.own n,v=>∃a len cap,ν n=C v/\v=.slice a len cap
 |.clo f p q,v=>∃vp vq:List Value,v=.func (.func f) vp.toArray vq.toArray/\F2 (RPtr ν) p vp/\F2 (RPtr ν) q vq
 |.np n _,v=>v=.pointer D\/RPtr ν (n,0) v
 |.sa n off len,v=>∃b,ν n=C (.pointer (C ⟨b,0,D⟩))/\v=.slice (C ⟨b,off,D⟩) len len
 |c,v=>Rd G S h c v
inductive Rp(G:Sig)(ν:Nat->Option Value)(S:Nat->Prop)(h:Array Obj):Pv G.T->Value->Prop
 |one (c:Cv G.T) (v:Value) (hc:Rc G ν S h c v):Rp G ν S h (.one c) v
 |agg (cs:List (Cv G.T)) (vs:List Value) (hc:F2 (Rc G ν S h) cs vs):Rp G ν S h (.agg cs) (.agg vs.toArray)
inductive Rs(G:Sig)(ν:Nat->Option Value)(S:Nat->Prop)(h:Array Obj):Sv G.T->Value->Prop
 |p (x:Pv G.T) (v:Value) (hc:Rp G ν S h x v):Rs G ν S h (.p x) v
 |tup (xs:List (Pv G.T)) (vs:List Value) (hc:F2 (Rp G ν S h) xs vs):Rs G ν S h (.tup xs) (.tuple vs.toArray)
def Bnp(G:Sig)(S:Nat->Prop)(h:Array Obj)(t:Nat)(l:List (G.T t))(c:Array Value):Prop:=∀(i j:Nat) (x:G.T t) (cv:Cv G.T),l[i]?=C x->(G.enc t x)[j]?=C cv->∃v,c[i*G.sz t+j]?=C v/\Rd G S h cv v
def Rb(G:Sig)(ν:Nat->Option Value)(S:Nat->Prop)(h:Array Obj)(n:Nat):Blk G.T->Prop
 |.cells cs=>∃b c te,ν n=C (.pointer (C ⟨b,0,D⟩))/\h[b]?=C (.cells c te (0,0))/\F2 (Rc G ν S h) cs c.toList/\∀m t,Cv.np m t∈cs->m=n/\te=t
 |.row t l=>(ν n=C (.slice D 0 0)/\l=[])\/
   ∃b cap c te,ν n=C (.slice (C ⟨b,0,D⟩) l.length cap)/\h[b]?=C (.cells c te (0,0))/\l.length<=cap/\c.size=cap*G.sz t/\Bnp G S h t l c/\te=t/\cap<=maxLen
def Rd.mono{S S':Nat->Prop}{h h':Array Obj}(hS:∀b,S b->S' b)(hh:∀b,S b->h'[b]?=h[b]?)(r:Rd G S h c v):Rd G S' h' c v:=by
 induction r with
 |sc v hv=>exact .sc v hv
 |nil t a cap=>exact .nil t a cap
 |ro t l b off cap c te fz vs h1 h2 h3 h4 _ ih=>exact .ro t l b off cap c te fz vs (hS b h1) ((hh b h1).trans h2) h3 h4 ih
 |rp t x off b base c te fz vs h1 h2 h3 _ ih=>exact .rp t x off b base c te fz vs (hS b h1) ((hh b h1).trans h2) h3 ih
structure Le(ν ν':Nat->Option Value)(S S':Nat->Prop)(h h':Array Obj):Prop where
 nu:∀n x,ν n=some x->ν' n=some x
 st:∀b,S b->S' b
 hp:∀b,S b->h'[b]?=h[b]?
section
variable{ν ν':Nat->Option Value}{S S':Nat->Prop}{h h':Array Obj}
def RPtr.mono(hn:∀n x,ν n=C x->ν' n=C x){p:Nat×Nat}(r:RPtr ν p v):RPtr ν' p v:=
 let⟨b,h1,h2⟩:=r
 ⟨b,hn _ _ h1,h2⟩
def Rc.mono(le:Le ν ν' S S' h h')(r:Rc G ν S h c v):Rc G ν' S' h' c v:=by
 cases c with
 |ptr n off=>exact RPtr.mono le.nu r
 |pd n off s len i=>exact⟨r.1,RPtr.mono le.nu r.2⟩
 |pr n t i off=>obtain⟨b,len,cap,h1,h2,h3⟩:=r;exact⟨b,len,cap,le.nu _ _ h1,h2,h3⟩
 |own n=>obtain⟨a,len,cap,h1,h2⟩:=r;exact⟨a,len,cap,le.nu _ _ h1,h2⟩
 |clo f p q=>obtain⟨vp,vq,h1,h2,h3⟩:=r;exact⟨vp,vq,h1,h2.mono λ_ _=>RPtr.mono le.nu,h3.mono λ_ _=>RPtr.mono le.nu⟩
 |np n t=>exact r.imp (λh=>h) (RPtr.mono le.nu)
 |sa n off len=>obtain⟨b,h1,h2⟩:=r;exact⟨b,le.nu _ _ h1,h2⟩
 |sc v=>exact Rd.mono le.st le.hp r
 |ro t l=>exact Rd.mono le.st le.hp r
 |rp t x off=>exact Rd.mono le.st le.hp r
def Rp.mono(le:Le ν ν' S S' h h'){c:Pv G.T}(r:Rp G ν S h c v):Rp G ν' S' h' c v:=by
 cases r with
 |one c v hc=>exact .one c v (hc.mono le)
 |agg cs vs hc=>exact .agg cs vs (hc.mono λ_ _=>Rc.mono le)
def Rs.mono(le:Le ν ν' S S' h h'){c:Sv G.T}(r:Rs G ν S h c v):Rs G ν' S' h' c v:=by
 cases r with
 |p x v hc=>exact .p x v (hc.mono le)
 |tup xs vs hc=>exact .tup xs vs (hc.mono λ_ _=>Rp.mono le)
def Rb.mono(le:Le ν ν' S S' h h'){n:Nat}(hb:∀x b,ν n=C x->AZ x=C b->h'[b]?=h[b]?){k:Blk G.T}(r:Rb G ν S h n k):Rb G ν' S' h' n k:=by
 cases k with
 |cells cs=>obtain⟨b,c,te,h1,h2,h3⟩:=r;exact⟨b,c,te,le.nu _ _ h1,(hb _ b h1 rfl).trans h2,h3.1.mono λ_ _=>Rc.mono le,h3.2⟩
 |row t l=>
  rcases r with⟨h1,h2⟩|⟨b,cap,c,te,h1,h2,h3,h4,h5⟩
  .exact .inl ⟨le.nu _ _ h1,h2⟩
  .refine .inr ⟨b,cap,c,te,le.nu _ _ h1,(hb _ b h1 rfl).trans h2,h3,h4,λi j x cv hx hc=>?_,h5.2⟩;obtain⟨v,hv,hr⟩:=h5.1 i j x cv hx hc;exact⟨v,hv,hr.mono le.st le.hp⟩
end
def GlOK(G:Sig)(S:Nat->Prop)(h:Array Obj):Prop:=∀g p,G.gl g=C p->Rd G S h (.rp p.1 p.2 0) (.pointer (C ⟨g,0,D⟩))
def GlOK.mono{S S':Nat->Prop}{h h':Array Obj}(g:GlOK G S h)(hS:∀b,S b->S' b)(hh:∀b,S b->h'[b]?=h[b]?):GlOK G S' h':=λn p hp=>(g n p hp).mono hS hh
structure HRel(G:Sig)(ν:Nat->Option Value)(S B:Nat->Prop)(hp:Nat->Option (Blk G.T))(w:World):Prop where
 blk:∀n k,hp n=some k->Rb G ν S w.heap n k
 apart:∀n m x y b,hp n≠none->hp m≠none->ν n=some x->ν m=some y->AZ x=some b->AZ y=some b->n=m
 own:∀n x b,hp n≠none->ν n=some x->AZ x=some b->¬S b/\B b
 stay:∀b,S b->b<w.heap.size
 gl:GlOK G S w.heap
structure Post(G:Sig)(ν:Nat->Option Value)(S B:Nat->Prop)(hp:Nat->Option (Blk G.T))(w:World)(out:Out G)
  (hp':Nat->Option (Blk G.T)) (ν':Nat->Option Value) (S':Nat->Prop) (w':World) (v:Value):Prop where
 nu:∀n x,ν n=some x->ν' n=some x
 new:∀n,ν' n≠none->ν n≠none\/n∈out.nw
 st:∀b,S b->S' b
 stn:∀b,S' b->S b\/B b
 rel:HRel G ν' S' B hp' w'
 val:∀s,out.v=some s->Rs G ν' S' w'.heap s v
 size:w.heap.size<=w'.heap.size
 frame:∀b,b<w.heap.size->(∀n x,hp n≠none->ν n=some x->AZ x≠some b)->w'.heap[b]?=w.heap[b]?
 env:w'.os=w.os/\w'.tape=w.tape/\w'.output=w.output
def Post.le{S B:Nat->Prop}{hp:Nat->Option (Blk G.T)}{w:World}{out:Out G}
  {hp':Nat->Option (Blk G.T)}{ν':Nat->Option Value}{S':Nat->Prop}{w':World}{v:Value}(hr:HRel G ν S B hp w)
  (p:Post G ν S B hp w out hp' ν' S' w' v):Le ν ν' S S' w.heap w'.heap:=
 ⟨p.nu,p.st,λb hb=>p.frame b (hr.stay b hb) λn x hn hx e=>(hr.own n x b hn hx e).1 hb⟩
end Go.Ab
namespace Go.Ab
variable{G:Sig}
variable{ν:Nat->Option Value}{t:Nat}{P:Program}{S:Nat->Prop}{h:Array Obj}{c:Cv G.T}{v:Value}
def Bhf (P : Program) (g : Nat) (e : Array Value -> Sem Value) : Prop := ∃ fn, P.funcs[g]? = C fn /\ (fn.name == "runtime.NumGoroutine") = J /\ fn.body.isNone = H /\ Extern.findNext fn = D /\ Extern.find fn = C e
def Bfa:Nat->Array Value->Sem Value
 |1=>Extern.MathFloatBits.float64bits
 |_=>Extern.MathFloatBits.float64frombits
def Atb(P:Program)(ext:Nat->Nat):Prop:=∀g,ext g≠0->Bhf P g (Bfa (ext g))
structure SigOK(P:Program)(G:Sig):Prop where
 bool:∀t,G.ty t=.bool->P.underlying t=some .bool
 int:∀t k,G.ty t=.int k->P.underlying t=some (.int k)
 flt:∀t k,G.ty t=.flt k->P.underlying t=some (.float k)
 str:∀t,G.ty t=.str->P.underlying t=some .string
 sl:∀t e,G.ty t=.sl e->P.underlying t=some (.slice e)/\G.ty e≠ .no/\(∃i,P.info? e=some i/\i.bytes<=4096)/\∀x,(G.enc e x).length=G.sz e
 pt:∀t e,G.ty t=.pt e->P.underlying t=some (.pointer e)
 fn:∀t,G.ty t=.fn->∃a b c,P.underlying t=some (.func a b c)
 strc:∀t fs,G.ty t=.st fs->∃fields,P.underlying t=some (.struct fields)/\fields.toList.map (λf=>(f.offset,f.type))=fs/\∀o u,(o,u)∈fs->G.ty u≠ .no
 arr:∀t n e,G.ty t=.arr n e->P.underlying t=some (.array n e)/\G.ty e≠ .no
 info:∀t,G.ty t≠ .no->∃i z,P.info? t=some i/\i.size=G.sz t/\i.zero=some z/\z.cells.toList=G.zero t
 pos:∀t,G.ty t≠ .no->0<G.sz t
 nosz:∀t,G.ty t=.no->G.sz t=0
 zsc:∀t v,v∈G.zero t->Ll v=true
 zlen:∀t,(G.zero t).length=G.sz t
 encl:∀t x,(G.enc t x).length<=G.sz t
 encdec:∀t cs x,G.dec t cs=some x->G.enc t x=cs
 encd:∀t x c,c∈G.enc t x->(∃v,c=.sc v)\/(∃t' l,c=.ro t' l)
 flatd:∀t x c,G.flat t=true->c∈G.enc t x->∃v,c=.sc v
 u8d:∀t x y,(G.enc t x).map u8C=(G.enc t y).map u8C
 ext:Atb P G.ext
section
variable{P:Program}(ok:SigOK P G)(w:World)
include ok
theorem SigOK.isAgg(h:G.ty t≠ .no):(Go.isAgg t).run P w=.ok (G.ty t).isAgg w:=by
 have key:∀d,P.underlying t=C d->(Go.isAgg t).run P w=.ok (match d with|.struct _|.array _ _=>H|_=>J) w:=by intro d hd;unfold Go.isAgg;rw[N_,I_ hd w];cases d<;>rfl
 cases ht:G.ty t with
 |no=>exact absurd ht h
 |bool=>rw[key _ (ok.bool t ht)];rfl
 |int k=>rw[key _ (ok.int t k ht)];rfl
 |flt k=>rw[key _ (ok.flt t k ht)];rfl
 |str=>rw[key _ (ok.str t ht)];rfl
 |sl e=>rw[key _ (ok.sl t e ht).1];rfl
 |pt e=>rw[key _ (ok.pt t e ht)];rfl
 |fn=>obtain⟨a,b,c,hd⟩:=ok.fn t ht;rw[key _ hd];rfl
 |st fs=>obtain⟨a,hd,_⟩:=ok.strc t fs ht;rw[key _ hd];rfl
 |arr n e=>rw[key _ (ok.arr t n e ht).1];rfl
theorem SigOK.sizeOf(h:G.ty t≠ .no):(Go.sizeOf t).run P w=.ok (G.sz t) w:=by obtain⟨i,z,h1,h2,_⟩:=ok.info t h;simp[Go.sizeOf,typeInfo,h1,h2]
theorem SigOK.zeroV(h:G.ty t≠ .no):∃z,(zeroValue t).run P w=.ok z w/\z.cells.toList=G.zero t:=by obtain⟨i,z,h1,h2,h3,h4⟩:=ok.info t h;exact⟨z,by simp[zeroValue,typeInfo,h1,h3],h4⟩
end
def Yp{α:Type}:∀(n:Nat) (l m:List α),Ou n l=C m->m.length=n/\n<=l.length/\∀j,j<n->m[j]?=l[j]?
 |0,l,m,h=>by simp[Ou]at h;subst h;simp
 |n+1,[],m,h=>by simp[Ou]at h
 |n+1,x::t,m,h=>by
  simp only[Ou]at h;split at h
  .rename_i l hl;obtain⟨h1,h2,h3⟩:=Yp n t l hl;simp at h;subst h;refine⟨by simp[h1],by simp;omega,λj hj=>?_⟩;cases j with
   |zero=>simp
   |succ j=>simp;exact h3 j ω
  .simp at h
def Xw{α:Type}:∀(n:Nat) (l m:List α),Pp n l=C m->n+m.length=l.length/\∀j,m[j]?=l[n+j]?
 |0,l,m,h=>by simp[Pp]at h;subst h;simp
 |n+1,[],m,h=>by simp[Pp]at h
 |n+1,x::t,m,h=>by simp only[Pp]at h;obtain⟨h1,h2⟩:=Xw n t m h;refine⟨by simp;omega,λj=>?_⟩;rw[h2 j,show n+1+j=(n+j)+1 by omega];simp
def PN{α:Type}{l m:List α}{off n:Nat}(h:part l off n=C m):m.length=n/\off+n<=l.length/\∀j,j<n->m[j]?=l[off+j]?:=by
 unfold part at h;split at h
 .rename_i k hk;obtain⟨h1,h2⟩:=Xw _ _ _ hk;obtain⟨h3,h4,h5⟩:=Yp _ _ _ h;exact⟨h3,ω,λj hj=>(h5 j hj).trans (h2 j)⟩
 .simp at h
def Ku{α:Type}:∀(l:List α) (off:Nat) (new m:List α),Lr l off new=C m->
  m.length=l.length/\off+new.length<=l.length/\∀j,m[j]?=if off<=j/\j<off+new.length then new[j-off]? else l[j]?
 |cs,0,[],m,h=>by simp[Lr]at h;subst h;refine⟨rfl,σ,λj=>?_⟩;simp
 |[],0,_::_,m,h=>by simp[Lr]at h
 |_::t,0,x::new,m,h=>by
  simp only[Lr]at h;split at h
  .rename_i l hl;obtain⟨h1,h2,h3⟩:=Ku t 0 new l hl;simp at h;subst h;refine⟨by simp[h1],by simp at h2|-;omega,λj=>?_⟩;cases j with
   |zero=>simp
   |succ j=>simp only[List.getElem?_cons_succ];rw[h3 j];simp
  .simp at h
 |[],_+1,_,m,h=>by simp[Lr]at h
 |c::t,n+1,new,m,h=>by
  simp only[Lr]at h;split at h
  .rename_i l hl;obtain⟨h1,h2,h3⟩:=Ku t n new l hl;simp at h;subst h;refine⟨by simp[h1],by simp;omega,λj=>?_⟩;cases j with
   |zero=>simp
   |succ j=>simp only[List.getElem?_cons_succ];rw[h3 j,show j+1-(n+1)=j-n by omega];congr 1;simp;omega
  .simp at h
def Da{α β:Type}{f:α->Option β}:∀(l:List α) (m:List β),DI f l=C m->m.length=l.length/\∀(j:Nat) (x:α),l[j]?=C x->∃y,m[j]?=C y/\f x=C y
 |[],m,h=>by simp[DI]at h;subst h;simp
 |a::t,m,h=>by
  simp only[DI]at h;split at h
  .rename_i b l hb hl;obtain⟨h1,h2⟩:=Da t l hl;simp at h;subst h;refine⟨by simp[h1],λj x hj=>?_⟩;cases j with
   |zero=>simp at hj;subst hj;exact⟨b,rfl,hb⟩
   |succ j=>simp at hj;obtain⟨y,hy,hf⟩:=h2 j x hj;exact⟨y,by simp[hy],hf⟩
  .simp at h
def WW(n:Nat):Rv n=List.range n:=by
 induction n with
 |zero=>rfl
 |succ n ih=>rw[Rv,ih,List.range_succ]
def HV{a b:IntKind}(h:Fm a b=H):a=b:=by cases a<;>cases b<;>simp_all[Fm]
def Aho{a b:FloatKind}(h:QB a b=H):a=b:=by cases a<;>cases b<;>simp_all[QB]
def Aby{T:Nat->Type}{k:IntKind}:∀(l:List (Cv T)) (ns:List Int),Ub k l=C ns->l=ns.map λn=>.sc (.int k n)
 |[],ns,h=>by simp[Ub]at h;subst h;rfl
 |c::t,ns,h=>by
  cases c with
  |sc v=>
   cases v with
   |int k' n=>
    simp only[Ub]at h;cases he:Fm k k' with
    |false=>simp[he]at h
    |true=>
     have e:=HV he;subst e;simp only[he,d_]at h;split at h
     .rename_i l hl;simp at h;subst h;rw[Aby t l hl];rfl
     .simp at h
   |_=>simp[Ub]at h
  |_=>simp[Ub]at h
def YU{T:Nat->Type}:∀(l:List (Cv T)) (ns:List Bool),QX l=C ns->l=ns.map λn=>.sc (.bool n)
 |[],ns,h=>by simp[QX]at h;subst h;rfl
 |c::t,ns,h=>by
  cases c with
  |sc v=>
   cases v with
   |bool n=>
    simp only[QX]at h;split at h
    .rename_i l hl;simp at h;subst h;rw[YU t l hl];rfl
    .simp at h
   |_=>simp[QX]at h
  |_=>simp[QX]at h
def Abz{T:Nat->Type}:∀(l:List (Cv T)) (ns:List ByteArray),Ud l=C ns->l=ns.map λn=>.sc (.string n)
 |[],ns,h=>by simp[Ud]at h;subst h;rfl
 |c::t,ns,h=>by
  cases c with
  |sc v=>
   cases v with
   |string n=>
    simp only[Ud]at h;split at h
    .rename_i l hl;simp at h;subst h;rw[Abz t l hl];rfl
    .simp at h
   |_=>simp[Ud]at h
  |_=>simp[Ud]at h
def Yl{T:Nat->Type}{l:List (Cv T)}{i:Nat}{c:Cv T}(h:Agf l i=C c)(hi:i<l.length):l[i]?=C c:=by
 unfold Agf at h;split at h
 .split at h
  .rename_i ns hns;have e:=Aby _ _ hns;rw[e]at hi|-;simp at h hi;subst h;simp[hi]
  .simp at h
 .split at h
  .rename_i ns hns;have e:=YU _ _ hns;rw[e]at hi|-;simp at h hi;subst h;simp[hi]
  .simp at h
 .split at h
  .rename_i ns hns;have e:=Abz _ _ hns;rw[e]at hi|-;simp at h hi;subst h;simp[hi]
  .simp at h
 .exact h
def Afn{T:Nat->Type}{b:Bool}{c d e:Cv T}(h:Alw b c d=C e):e=if b then c else d:=by
 unfold Alw at h;split at h
 .rename_i k x k' y;cases he:Fm k k' with
  |false=>simp[he]at h
  |true=>have e:=HV he;subst e;simp[he]at h;subst h;cases b<;>rfl
 .simp at h;subst h;cases b<;>rfl
 .simp at h;subst h;cases b<;>rfl
 .cases b<;>simp at h<;>simp[h]
def Ip(b off n:Nat):(⟨b,off,D⟩:Addr).add n=⟨b,off+n,D⟩:=by unfold Addr.add;split<;>simp_all
def Aij(ok:SigOK P G){x:G.T t}(hc:c∈G.enc t x)
  (r:Rd G S h c v):Rc G ν S h c v:=by
 rcases ok.encd t x c hc with⟨u,rfl⟩|⟨t',l,rfl⟩<;>exact r
def Apf(ok:SigOK P G){x:G.T t}(hc:c∈G.enc t x)
  (r:Rc G ν S h c v):Rd G S h c v:=by
 rcases ok.encd t x c hc with⟨u,rfl⟩|⟨t',l,rfl⟩<;>exact r
def Afx(ok:SigOK P G){B:Nat->Prop}{hp:Nat->Option (Blk G.T)}{w:World}(hr:HRel G ν S B hp w)
  {n:Nat}{c:Cv G.T}{cs:List (Cv G.T)}(h:look hp n c=C cs) {v:Value}(hv:Rc G ν S w.heap c v) :
  ∃(b off:Nat) (vs:List Value),v=.pointer (C ⟨b,off,D⟩)/\F2 (Rc G ν S w.heap) cs vs/\vs.length=n/\∀(j:Nat) x,vs[j]?=C x->w.cell? ⟨b,off+j,D⟩=C x:=by
 cases c with
 |ptr m off=>
  simp only[look]at h;split at h
  .rename_i ds hd;obtain⟨b,c,te,h1,h2,h3,_⟩:=hr.blk m _ hd;obtain⟨b',h4,rfl⟩:=hv;simp only at h4;rw[h1]at h4;simp at h4;subst h4;obtain⟨p1,p2,p3⟩:=PN h;have hlen:ds.length=c.toList.length:=h3.1;refine⟨b,off,(c.toList.drop off).take n,rfl,⟨by simp at hlen|-;omega,λj x y hx hy=>?_⟩,by simp at hlen|-;omega,λj x hj=>?_⟩
   .have hjn:j<n:=by have:=(h_.1 hx).1;omega
    rw[p3 j hjn]at hx;rw[A_ hjn,c5_]at hy;exact h3.2 _ x y hx hy
   .have hjn:j<n:=by have:=(h_.1 hj).1;simp at this;omega
    rw[A_ hjn,c5_]at hj;rw[e4_ w b (off+j) c te (0,0) h2];simpa using hj
  .simp at h
 |pd m off s len i=>
  simp only[look]at h;split at h
  .rename_i ds hd;obtain⟨b,c,te,h1,h2,h3,_⟩:=hr.blk m _ hd;obtain⟨hi,b',h4,rfl⟩:=hv;simp only at h4;rw[h1]at h4;simp at h4;subst h4;simp only[WW]at h;obtain⟨m1,m2⟩:=Da _ _ h;have hcell:∀j,j<n->∃x y,cs[j]?=C x/\c.toList[off+i*s+j]?=C y/\Rc G ν S w.heap x y:=by
    intro j hj;obtain⟨x,hx,hf⟩:=m2 j j (by simp[hj]);split at hf
    .rename_i l hl;obtain⟨l1,l2⟩:=Da _ _ hl;have hil:i<l.length:=by simp at l1;omega
     have hsel:=Yl hf hil;obtain⟨y,hy,hq⟩:=l2 i i (by simp[hi]);rw[hsel]at hy;simp at hy;subst hy;obtain⟨z,hz,hrz⟩:=h3.get hq;exact⟨x,z,hx,hz,hrz⟩
    .simp at hf
   refine⟨b,off+i*s,(List.range n).map (λj=>c.toList.getD (off+i*s+j) undef),rfl,⟨by simp[m1],λj x y hx hy=>?_⟩,σ,λj x hj=>?_⟩
   .have hjn:j<n:=by have:=(h_.1 hx).1;simp at m1;omega
    obtain⟨x',y',e1,e2,e3⟩:=hcell j hjn;rw[e1]at hx;simp at hx;subst hx;simp[hjn]at hy;simp at e2;rw[e2]at hy;simp at hy;subst hy;exact e3
   .have hjn:j<n:=by have:=(h_.1 hj).1;simpa using this
    obtain⟨x',y',e1,e2,e3⟩:=hcell j hjn;simp at e2;simp[hjn,e2]at hj;subst hj;rw[e4_ w b (off+i*s+j) c te (0,0) h2];exact e2
  .simp at h
 |pr m t i off=>
  simp only[look]at h;split at h
  .rename_i t' l hd;rw[BY]at h;by_cases ht:t=t'
   .subst ht;rw[if_pos rfl]at h;obtain⟨b,len,cap,h4,hi,rfl⟩:=hv;rcases hr.blk m _ hd with⟨h1,h2⟩|⟨b',cap',c,te,h1,h2,h3,hsz,h5⟩
    .rw[h1]at h4;simp at h4
    .rw[h1]at h4;simp at h4;obtain⟨rfl,rfl,rfl⟩:=h4;obtain⟨p1,p2,p3⟩:=PN h;have hx:l[i]?=C (l.getD i (G.dfl t)):=by simp[hi]
     have hcell:∀j,j<n->∃x y,cs[j]?=C x/\c[i*G.sz t+off+j]?=C y/\Rc G ν S w.heap x y:=by intro j hj;have hlt:off+j<(G.enc t (l.getD i (G.dfl t))).length:=ω;have he:=i_ hlt;obtain⟨y,hy,hrd⟩:=h5.1 i (off+j) _ _ hx he;exact⟨_,y,(p3 j hj).trans he,by rw[X_];exact hy,Aij ok (a6_ hlt) hrd⟩
     refine⟨b',i*G.sz t+off,(List.range n).map (λj=>c.getD (i*G.sz t+off+j) undef),rfl,⟨by simp[p1],λj x y hx hy=>?_⟩,σ,λj x hj=>?_⟩
     .have hjn:j<n:=by have:=(h_.1 hx).1;omega
      obtain⟨x',y',e1,e2,e3⟩:=hcell j hjn;rw[e1]at hx;simp at hx;subst hx;simp[hjn,e2]at hy;subst hy;exact e3
     .have hjn:j<n:=by have:=(h_.1 hj).1;simpa using this
      obtain⟨x',y',e1,e2,e3⟩:=hcell j hjn;simp[hjn,e2]at hj;subst hj;rw[e4_ w b' (i*G.sz t+off+j) c te (0,0) h2];exact e2
   .rw[if_neg ht]at h;simp at h
  .simp at h
 |rp t x off=>
  simp only[look]at h;cases hv with
  |rp _ _ _ b base c te fz vs hS hb hc hrd=>
   obtain⟨p1,p2,p3⟩:=PN h;have hl:=ok.encl t x;refine⟨b,base+off,(List.range n).map (λj=>vs (off+j)),rfl,⟨by simp[p1],λj x' y hx hy=>?_⟩,σ,λj x' hj=>?_⟩
   .have hjn:j<n:=by have:=(h_.1 hx).1;omega
    simp[hjn]at hy;subst hy;have hx':=(p3 j hjn).symm.trans hx;exact Aij ok (v_ hx') (hrd _ _ hx')
   .have hjn:j<n:=by have:=(h_.1 hj).1;simpa using this
    simp[hjn]at hj;subst hj;rw[e4_ w b (base+off+j) c te fz hb,X_];exact hc (off+j) ω
 |sc v=>simp[look]at h
 |own m=>simp[look]at h
 |ro t l=>simp[look]at h
 |clo f p q=>simp[look]at h
 |np n t=>simp[look]at h
 |sa n o l=>simp[look]at h
end Go.Ab
namespace Go.Ab
variable{G:Sig}
variable{ν:Nat->Option Value}{S:Nat->Prop}{h:Array Obj}{v:Value}{x:Operand}{c:Cv G.T}{R α:Type}{b:Bool}{vs:List Value}{n:Nat}{r:R}{o:Option α}
def M.bind_spec{β:Type}{m:M α}{f:α->M β}{k:β->Option R}(h:M.bind m f R k=C r):m R (λa=>f a R k)=C r:=h
def M.need_spec{k:Unit->Option R}(h:M.need b R k=C r):b=H/\k ()=C r:=by
 cases b
 .simp[M.need]at h
 .exact⟨rfl,h⟩
def M.opt_spec{k:α->Option R}(h:M.opt o R k=C r):∃a,o=C a/\k a=C r:=by
 cases o with
 |none=>simp[M.opt]at h
 |some a=>exact⟨a,rfl,h⟩
def M.split_spec{k:Bool->Option R}(h:M.split b R k=C r):k b=C r:=by cases b<;>exact h
def M.pick_spec{α R:Type}{k:Nat->M α}{i:Nat}{κ:α->Option R}{r:R}:∀{n q:Nat},M.pick k i q n R κ=C r->q<=i/\i<q+n/\k i R κ=C r
 |0,q,h=>by simp[M.pick,M.fail]at h
 |n+1,q,h=>by
  unfold M.pick at h;have h1:=M.split_spec (M.bind_spec h);cases hb:I i q with
  |true=>
   rw[hb]at h1;obtain rfl:i=q:=by simpa using hb
   exact⟨y_ _,ω,h1⟩
  |false=>rw[hb]at h1;obtain⟨g1,g2,g3⟩:=M.pick_spec (n:=n) (q:=q+1) h1;exact⟨ω,ω,g3⟩
def M.bindneed{β:Type}{f:Unit->M β}{k:β->Option R}(h:M.bind (M.need b) f R k=C r):b=H/\f () R k=C r:=M.need_spec h
def M.bindopt{β:Type}{f:α->M β}{k:β->Option R}(h:M.bind (M.opt o) f R k=C r):∃a,o=C a/\f a R k=C r:=M.opt_spec h
section
variable{ev:Operand->Option (Sv G.T)}{R β:Type}{r:R}{k:β->Option R}
def Tc{f:Pv G.T->M β}(h:M.bind (evP ev x) f R k=C r):∃y,ev x=C (.p y)/\f y R k=C r:=by
 unfold M.bind evP at h;split at h
 .rename_i y hy;exact⟨y,hy,h⟩
 .simp at h
def bindC{f:Cv G.T->M β}(h:M.bind (evC ev x) f R k=C r):∃y,ev x=C (.p (.one y))/\f y R k=C r:=by
 unfold M.bind evC at h;split at h
 .rename_i y hy;exact⟨y,hy,h⟩
 .simp at h
def Ae{f:IntKind×Int->M β}(h:M.bind (evI ev x) f R k=C r):∃d n,ev x=C (.p (.one (.sc (.int d n))))/\f (d,n) R k=C r:=by
 unfold M.bind evI at h;split at h
 .rename_i d n hy;exact⟨d,n,hy,h⟩
 .simp at h
def Bvz{f:Bool->M β}(h:M.bind (evB ev x) f R k=C r):∃b,ev x=C (.p (.one (.sc (.bool b))))/\f b R k=C r:=by
 unfold M.bind evB at h;split at h
 .rename_i b hy;exact⟨b,hy,h⟩
 .simp at h
def Aeo:∀{l:List Operand}{f:List (Pv G.T)->M β},M.bind (Uv ev l) f R k=C r->∃ys,f ys R k=C r/\F2 (λx y=>ev x=C (.p y)) l ys
 |[],f,h=>⟨[],h,.nil⟩
 |x::t,f,h=>by unfold Uv at h;obtain⟨y,hy,h⟩:=Tc (f:=λy=>M.bind (M.bind (Uv ev t) λl=>M.ret (y::l)) f) h;obtain⟨ys,h,hys⟩:=Aeo (l:=t) (f:=λl=>f (y::l)) h;exact⟨y::ys,h,hys.cons hy⟩
def Vm:∀{l:List (Nat×Operand)}{f:List (Nat×Pv G.T)->M β},M.bind (JD ev l) f R k=C r->
  ∃ys,f ys R k=C r/\F2 (λx y=>x.1=y.1/\ev x.2=C (.p y.2)) l ys
 |[],f,h=>⟨[],h,.nil⟩
 |(i,x)::t,f,h=>by unfold JD at h;obtain⟨y,hy,h⟩:=Tc (f:=λy=>M.bind (M.bind (JD ev t) λl=>M.ret ((i,y)::l)) f) h;obtain⟨ys,h,hys⟩:=Vm (l:=t) (f:=λl=>f ((i,y)::l)) h;exact⟨(i,y)::ys,h,hys.cons ⟨rfl,hy⟩⟩
end
def WQ(r:Rd G S h c v):v.oneCell'=H:=by
 cases r with
 |sc v hv=>cases v<;>first|rfl|(simp[Ll]at hv)
 |_=>rfl
def Bcy(r:Rc G ν S h c v):v.oneCell'=H:=by
 cases c with
 |ptr n off=>obtain⟨b,_,rfl⟩:=r;rfl
 |pd n off s len i=>obtain⟨_,b,_,rfl⟩:=r;rfl
 |pr n t i off=>obtain⟨b,len,cap,_,_,rfl⟩:=r;rfl
 |own n=>obtain⟨a,len,cap,_,rfl⟩:=r;rfl
 |clo f p q=>obtain⟨vp,vq,rfl,_⟩:=r;rfl
 |np n t=>rcases r with rfl|⟨b,_,rfl⟩<;>rfl
 |sa n off len=>obtain⟨b,_,rfl⟩:=r;rfl
 |sc v=>exact WQ r
 |ro t l=>exact WQ r
 |rp t x off=>exact WQ r
def Bcm(h:v.oneCell'=H):v.cells=#[v]:=by cases v<;>first|rfl|(simp[Value.oneCell']at h)
def UO{x:Pv G.T}(r:Rp G ν S h x v):F2 (Rc G ν S h) x.cells v.cells.toList:=by
 cases r with
 |one c v hc=>rw[Bcm (Bcy hc)];exact F2.nil.cons hc
 |agg cs vs hc=>simpa[Pv.cells,Value.cells]using hc
def RQ{t:Nat}{cs:List (Cv G.T)}{x:Pv G.T}(hp:SN G t cs=C x)(r:F2 (Rc G ν S h) cs vs):
  Rp G ν S h x (if(G.ty t).isAgg then .agg vs.toArray else vs.getD 0 undef):=by
 unfold SN at hp;cases ha:(G.ty t).isAgg with
 |true=>simp[ha]at hp;subst hp;simp;exact .agg cs vs r
 |false=>
  simp only[ha,c_]at hp;split at hp
  .simp at hp;subst hp;obtain⟨y,t,rfl,hy,ht⟩:=r.inv;simp;exact .one _ _ hy
  .simp at hp
structure Wrote(w w':World)(b:Nat)(c':Array Value)(te:TypeId):Prop where
 here:w'.heap[b]?=some (.cells c' te (0,0))
 there:∀k,k≠b->w'.heap[k]?=w.heap[k]?
 size:w'.heap.size=w.heap.size
 env:w'.os=w.os/\w'.tape=w.tape/\w'.output=w.output
def Lq{P:Program}{b off:Nat}{te:TypeId}:∀(vs:List Value) (i:Nat) (w:World) (c:Array Value),w.heap[b]?=C (.cells c te (0,0))->
  off+i+vs.length<=c.size->(∀v∈vs,v.oneCell'=H)->
  ∃w' c',(storeCells ⟨b,off,D⟩ vs i).run P w=.ok () w'/\Wrote w w' b c' te/\c'.size=c.size/\
   ∀j,c'[j]?=if off+i<=j/\j<off+i+vs.length then vs[j-(off+i)]? else c[j]?
 |[],i,w,c,hb,_,_=>⟨w,c,rfl,⟨hb,λ_ _=>rfl,rfl,rfl,rfl,rfl⟩,rfl,λj=>by simp;omega⟩
 |v::vs,i,w,c,hb,hlen,h1=>by
  have hcell:w.cell? ⟨b,off+i,D⟩=C (c[off+i]'(by simp at hlen;omega)):=by rw[e4_ w b (off+i) c te (0,0) hb];simp
  have hfr:w.frozen? ⟨b,off+i,D⟩=J:=frozen_of_row w b (off+i) c te hb;have hst:(Go.store ((⟨b,off,D⟩:Addr).add i) v).run P w=.ok () (w.setCell ⟨b,off+i,D⟩ v):=by simp only[Ip];rw[run_store P w _ v .plain (h1 v σ)];simp[hcell,hfr]
  have hb':(w.setCell ⟨b,off+i,D⟩ v).heap[b]?=C (.cells (c.setIfInBounds (off+i) v) te (0,0)):=heap_setCell_same w b (off+i) c te v hb;obtain⟨w',c',hr,hw,hs,hc⟩:=Lq (P:=P) (off:=off) vs (i+1) _ _ hb' (by simp at hlen|-;omega) (λu hu=>h1 u (by simp[hu]));refine⟨w',c',?_,⟨hw.here,λk hk=>(hw.there k hk).trans (heap_setCell_other w _ k v hk),by rw[hw.size];simp,hw.env⟩,by rw[hs];simp,λj=>?_⟩
  .simp only[storeCells,N_];rw[hst];exact hr
  .rw[hc j];simp only[g6_,E_];by_cases hj:off+i=j
   .subst hj
    have:off+i<c.size:=by simp at hlen;omega
    rw[if_neg ω,if_pos ω];simp[this]
   .by_cases hr1:off+(i+1)<=j/\j<off+(i+1)+vs.length
    .rw[if_pos hr1,if_pos ω,show j-(off+i)=(j-(off+(i+1)))+1 by omega];simp
    .rw[if_neg hr1,if_neg hj,if_neg ω]
def BN(h:Nat->Option (Blk G.T)):List (Nat×Option (Blk G.T))->Nat->Option (Blk G.T)
 |[]=>h
 |(n,ob)::t=>BN (λm=>if n=m then ob else h m) t
def XK:∀(d:List (Nat×Option (Blk G.T))) (hp:List (Nat×Blk G.T)),get (Ads hp d)=BN (get hp) d
 |[],hp=>rfl
 |(n,D)::t,hp=>by rw[Ads,XK t,BN];congr 1;funext m;exact WG hp n m
 |(n,C b)::t,hp=>by rw[Ads,XK t,BN];congr 1;funext m;exact TI hp n m b
section
variable{ν:Nat->Option Value}{S B:Nat->Prop}{hp:Nat->Option (Blk G.T)}{w:World}
def HRel.lt(hr:HRel G ν S B hp w){b:Nat}{x:Value}(h:hp n≠D)(hx:ν n=C x)(hb:AZ x=C b):b<w.heap.size:=by
 cases hk:hp n with
 |none=>exact absurd hk h
 |some k=>
  have hlt:∀{o:Obj},w.heap[b]?=C o->b<w.heap.size:=λh=>(K_.1 h).1
  have:=hr.blk n k hk
  cases k with
  |cells cs=>obtain⟨b',c,te,h1,h2,_⟩:=this;rw[hx]at h1;simp at h1;subst h1;simp[AZ]at hb;subst hb;exact hlt h2
  |row t l=>
   rcases this with⟨h1,_⟩|⟨b',cap,c,te,h1,h2,_⟩
   .rw[hx]at h1;simp at h1;subst h1;simp[AZ]at hb
   .rw[hx]at h1;simp at h1;subst h1;simp[AZ]at hb;subst hb;exact hlt h2
def HRel.wrote(hr:HRel G ν S B hp w){b:Nat}{k':Blk G.T}{x:Value}{c':Array Value}{te:TypeId}{w':World}(hn:hp n≠D)(hx:ν n=C x)(hb:AZ x=C b)
  (hw:Wrote w w' b c' te) (hk:Rb G ν S w'.heap n k'):HRel G ν S B (λm=>if n=m then C k' else hp m) w':=by
 have hS:¬S b:=(hr.own n x b hn hx hb).1;have le:Le ν ν S S w.heap w'.heap:=⟨λ_ _ h=>h,λ_ h=>h,λb' hb'=>hw.there b' (λe=>hS (e▸hb'))⟩
 have alive:∀m,(if n=m then C k' else hp m)≠D->hp m≠D:=by
  intro m hm;by_cases e:n=m
  .exact e▸hn
  .simpa[e]using hm
 refine⟨λm k hm=>?_,λm m' y y' b' h1 h2 h3 h4 h5 h6=>hr.apart m m' y y' b' (alive m h1) (alive m' h2) h3 h4 h5 h6,
  λm y b' h1 h2 h3=>hr.own m y b' (alive m h1) h2 h3,λb' hb'=>by rw[hw.size];exact hr.stay b' hb',hr.gl.mono (λ_ h=>h) le.hp⟩
 by_cases e:n=m
 .subst e;simp at hm;subst hm;exact hk
 .simp[e]at hm;refine(hr.blk m k hm).mono le λy b' hy hb'=>hw.there b' (λe'=>e ?_);subst e';exact(hr.apart m n y x b' (by simp[hm]) hn hy hx hb' hb).symm
def Bi2{x y:α}(h:(bif b then C x else D)=C y):b=H/\C x=C y:=by
 cases b with
 |true=>exact⟨rfl,h⟩
 |false=>cases h
def Af3{P:Program}(ok:SigOK P G)(hr:HRel G ν S B hp w)(hv:Rc G ν S w.heap c v){new:List (Cv G.T)}(hnew:F2 (Rc G ν S w.heap) new vs)
  {n:Nat}{k':Blk G.T}(h:Lp hp new c=C (n,k')) :
  ∃b off w' x,v=.pointer (C ⟨b,off,D⟩)/\(storeCells ⟨b,off,D⟩ vs).run P w=.ok () w'/\hp n≠D/\ν n=C x/\AZ x=C b/\
   (∃c' te,Wrote w w' b c' te)/\HRel G ν S B (λm=>if n=m then C k' else hp m) w':=by
 have hone:∀u∈vs,u.oneCell'=H:=by
  intro u hu;obtain⟨i,hi,e⟩:=List.getElem_of_mem hu;have hi':i<new.length:=by rw[hnew.1];exact hi
  exact Bcy (hnew.2 i _ u (i_ hi') (by rw[i_ hi,e]))
 have hS:∀{b:Nat}{x:Value}{m:Nat},hp m≠D->ν m=C x->AZ x=C b->∀{w':World}{c':Array Value}{te:TypeId},Wrote w w' b c' te->Le ν ν S S w.heap w'.heap:=by intro b x m hm hx hb w' c' te hw;exact⟨λ_ _ h=>h,λ_ h=>h,λb' hb'=>hw.there b' (λe=>(hr.own m x b hm hx hb).1 (e▸hb'))⟩
 cases c with
 |ptr m off=>
  simp only[Lp]at h;split at h
  .rename_i ds hd;split at h
   .rename_i ds' hs;obtain⟨hnp,h⟩:=Bi2 h;simp at h;obtain⟨rfl,rfl⟩:=h;obtain⟨b,c,te,h1,h2,h3,_⟩:=hr.blk m _ hd;obtain⟨b',h4,rfl⟩:=hv;simp only at h4;rw[h1]at h4;simp at h4;subst h4;obtain⟨s1,s2,s3⟩:=Ku _ _ _ _ hs;have hl:=h3.1;have hl2:=hnew.1;obtain⟨w',c',hrun,hw,hcs,hc⟩:=Lq (P:=P) (off:=off) vs 0 w c h2 (by simp at hl;omega) hone;have hm:hp m≠D:=by rw[hd];simp
    have le:=hS hm h1 rfl hw;refine⟨b,off,w',_,rfl,hrun,hm,h1,rfl,⟨c',te,hw⟩,hr.wrote hm h1 rfl hw ⟨b,c',te,h1,hw.here,?_,λm' t' hm'=>absurd (L_.1 hnp _ hm') (by simp[Tw])⟩⟩;refine⟨by simp at hl|-;omega,λi x y hx hy=>?_⟩;rw[s3 i]at hx;simp at hy;rw[hc i]at hy;by_cases hi:off<=i/\i<off+new.length
    .rw[if_pos hi]at hx;rw[if_pos ω]at hy;exact(hnew.2 _ x y hx (by simpa using hy)).mono le
    .rw[if_neg hi]at hx;rw[if_neg ω]at hy;exact(h3.2 i x y hx (by simpa using hy)).mono le
   .simp at h
  .simp at h
 |pd m off s len i=>
  simp only[Lp]at h;split at h
  .rename_i ds hd;split at h
   .rename_i ds' hs;obtain⟨hnp,h⟩:=Bi2 h;simp at h;obtain⟨rfl,rfl⟩:=h;obtain⟨b,c,te,h1,h2,h3,_⟩:=hr.blk m _ hd;obtain⟨hil,b',h4,rfl⟩:=hv;simp only at h4;rw[h1]at h4;simp at h4;subst h4;have hl:=h3.1;have hl2:=hnew.1;have key:∀(qs:List Nat) (es:List (Cv G.T)),ZX ds off s i new qs=C es->
      es.length=ds.length/\(i∈qs->off+i*s+new.length<=ds.length)/\∀j,es[j]?=if i∈qs/\off+i*s<=j/\j<off+i*s+new.length then new[j-(off+i*s)]? else ds[j]?:=by
     intro qs;induction qs with
     |nil=>intro es he;simp[ZX]at he;subst he;simp
     |cons q qs ih=>
      intro es he;simp only[ZX]at he;split at he
      .rename_i es' he';obtain⟨i1,i2,i3⟩:=ih es' he';split at he
       .rename_i old hold;split at he
        .rename_i l hl';obtain⟨p1,p2,p3⟩:=PN hold;obtain⟨m1,m2⟩:=Da _ _ hl';obtain⟨s1,s2,s3⟩:=Ku _ _ _ _ he;have hlen:l.length=new.length:=by simp[p1]at m1;omega
         have hlv:∀j,j<new.length->l[j]?=if i=q then new[j]? else old[j]?:=by
          intro j hj;have hz:(new.zip old)[j]?=C (new[j],old[j]):=by simp[hj,p1]
          obtain⟨y,hy,hf⟩:=m2 j _ hz
          have:=Afn hf
          rw[hy,this];by_cases e:i=q
          .simp[e,hj]
          .have hbf:I i q=J:=by cases hb:I i q with|false=>rfl|true=>exact absurd (AU.1 hb) e
           simp[hbf,e,p1,hj]
         refine⟨ω,λhi=>?_,λj=>?_⟩
         .rcases s_.1 hi with rfl|hi
          .rw[i1]at p2;exact p2
          .exact i2 hi
         .rw[s3 j,hlen];by_cases hj:off+q*s<=j/\j<off+q*s+new.length
          .rw[if_pos hj,hlv _ ω];by_cases e:i=q
           .subst e;rw[if_pos rfl,if_pos ⟨σ,hj⟩]
           .rw[if_neg e,p3 _ ω,i3,show off+q*s+(j-(off+q*s))=j by omega];simp[e]
          .rw[if_neg hj,i3];by_cases e:i=q
           .subst e;rw[if_neg (by intro h;exact hj ⟨h.2.1,h.2.2⟩),if_neg (by intro h;exact hj ⟨h.2.1,h.2.2⟩)]
           .simp[e]
        .simp at he
       .simp at he
      .simp at he
    obtain⟨k1,k2,k3⟩:=key _ _ hs;have himem:i∈Rv len:=by simp only[WW,List.mem_range];exact hil
    obtain⟨w',c',hrun,hw,hcs,hc⟩:=Lq (P:=P) (off:=off+i*s) vs 0 w c h2 (by have:=k2 himem;simp at hl;omega) hone;have hm:hp m≠D:=by rw[hd];simp
    have le:=hS hm h1 rfl hw;refine⟨b,off+i*s,w',_,rfl,hrun,hm,h1,rfl,⟨c',te,hw⟩,hr.wrote hm h1 rfl hw ⟨b,c',te,h1,hw.here,?_,λm' t' hm'=>absurd (L_.1 hnp _ hm') (by simp[Tw])⟩⟩;refine⟨by simp at hl|-;omega,λj x y hx hy=>?_⟩;rw[k3 j]at hx;simp at hy;rw[hc j]at hy;by_cases hi:off+i*s<=j/\j<off+i*s+new.length
    .rw[if_pos ⟨himem,hi⟩]at hx;rw[if_pos ω]at hy;exact(hnew.2 _ x y hx (by simpa using hy)).mono le
    .rw[if_neg (by intro h;exact hi h.2)]at hx;rw[if_neg ω]at hy;exact(h3.2 j x y hx (by simpa using hy)).mono le
   .simp at h
  .simp at h
 |pr m t i off=>
  simp only[Lp]at h;split at h
  .rename_i t' l hd;rw[BY]at h;by_cases ht:t=t'
   .subst ht;rw[if_pos rfl]at h;split at h
    .rename_i cs' hs;split at h
     .rename_i x' hx';simp at h;obtain⟨rfl,rfl⟩:=h;obtain⟨b,len,cap,h4,hi,rfl⟩:=hv;rcases hr.blk m _ hd with⟨h1,h2⟩|⟨b',cap',c,te,h1,h2,h3,hsz,h5⟩
      .rw[h1]at h4;simp at h4
      .rw[h1]at h4;simp at h4;obtain⟨rfl,rfl,rfl⟩:=h4;have he:=ok.encdec _ _ _ hx';obtain⟨s1,s2,s3⟩:=Ku _ _ _ _ hs;have hel:=ok.encl t (l.getD i (G.dfl t));have hl2:=hnew.1;have hroom:i*G.sz t+off+0+vs.length<=c.size:=by
        rw[hsz]
        have:(i+1)*G.sz t<=cap'*G.sz t:=J_ _ ω
        rw[a5_]at this;omega
       obtain⟨w',c',hrun,hw,hcs,hc⟩:=Lq (P:=P) (off:=i*G.sz t+off) vs 0 w c h2 hroom hone;have hm:hp m≠D:=by rw[hd];simp
       have le:=hS hm h1 rfl hw;refine⟨b',i*G.sz t+off,w',_,rfl,hrun,hm,h1,rfl,⟨c',te,hw⟩,hr.wrote hm h1 rfl hw (.inr ⟨b',cap',c',te,by simpa using h1,hw.here,by simpa using h3,by rw[hcs,hsz],?_,h5.2⟩)⟩;intro i' j x cv hx hcv;have hel':=ok.encl t x;have hj:j<(G.enc t x).length:=(h_.1 hcv).1;rw[hc];rw[List.getElem?_set]at hx;by_cases hii:i=i'
       .subst hii;simp[hi]at hx;subst hx;rw[he,s3]at hcv;by_cases hjn:off<=j/\j<off+new.length
        .rw[if_pos hjn]at hcv;rw[if_pos ω];obtain⟨y,hy,hr'⟩:=hnew.get hcv;refine⟨y,by rw[show i*G.sz t+j-(i*G.sz t+off+0)=j-off by omega];exact hy,?_⟩;exact(Apf ok (t:=t) (x:=x') (by rw[he];exact v_ (by rw[s3,if_pos hjn];exact hcv)) hr').mono le.st le.hp
        .rw[if_neg hjn]at hcv;rw[if_neg ω];obtain⟨v,hv,hrd⟩:=h5.1 i j (l.getD i (G.dfl t)) cv (by simp[hi]) hcv;exact⟨v,hv,hrd.mono le.st le.hp⟩
       .rw[if_neg hii]at hx;obtain⟨v,hv,hrd⟩:=h5.1 i' j x cv hx hcv;refine⟨v,?_,hrd.mono le.st le.hp⟩;rw[if_neg ?_]
        .exact hv
        .rcases Nat.lt_or_gt_of_ne hii with h'|h'
         .have:(i+1)*G.sz t<=i'*G.sz t:=J_ _ h'
          rw[a5_]at this;omega
         .have:(i'+1)*G.sz t<=i*G.sz t:=J_ _ h'
          rw[a5_]at this;omega
     .simp at h
    .simp at h
   .rw[if_neg ht]at h;simp at h
  .simp at h
 |sc v=>simp[Lp]at h
 |own m=>simp[Lp]at h
 |ro t l=>simp[Lp]at h
 |rp t x off=>simp[Lp]at h
 |clo f p q=>simp[Lp]at h
 |np n t=>simp[Lp]at h
 |sa n o l=>simp[Lp]at h
end
section
variable{G:Sig}
def Acf{α:Type}{i:Nat}{f:Nat->Option α}:∀{l:List Nat}{R:Type}{k:α->Option R}{r:R},US i f l R k=C r->∃a,f i=C a/\k a=C r
 |[],_,_,_,h=>by simp[US,M.fail]at h
 |q::t,R,k,r,h=>by
  simp only[US]at h;cases hb:I i q with
  |true=>
   rw[hb,d_]at h;have e:i=q:=AU.1 hb;subst e;simp only[M.opt]at h;split at h
   .exact⟨_,by assumption,h⟩
   .cases h
  |false=>rw[hb,c_]at h;exact Acf h
def Afw{h:Nat->Option (Blk G.T)}{c:Cv G.T}{k:List (Cv G.T)->Option R}(hr:VG h n c R k=C r):
  ∃c' cs,(c'=c\/∃b off s len i,c=.pd b off s len i/\c'=.ptr b (off+i*s))/\look h n c'=C cs/\k cs=C r:=by
 unfold VG at hr;cases hb:Aax h c with
 |false=>
  rw[hb,c_]at hr;obtain⟨cs,h1,h2⟩:∃cs,look h n c=C cs/\k cs=C r:=by
   simp only[M.opt]at hr;split at hr
   .exact⟨_,by assumption,hr⟩
   .cases hr
  exact⟨c,cs,.inl rfl,h1,h2⟩
 |true=>
  rw[hb,d_]at hr;cases c with
  |pd b off s len i=>obtain⟨cs,h1,h2⟩:=Acf hr;exact⟨_,cs,.inr ⟨_,_,_,_,_,rfl,rfl⟩,h1,h2⟩
  |_=>cases hr
end
end Go.Ab
namespace Go.Ab
variable{G:Sig}
variable{x:Operand}{v:Value}{nm t:Nat}{out:Out G}{S:Nat->Prop}{h:Array Obj}{k:Blk G.T}
def ZP{T:Nat->Type}{cs:List (Cv T)}(h:cs.all Tw=H){m:Nat}(hm:Cv.np m t∈cs):False:=by
 have:=L_.1 h _ hm
 simp[Tw]at this
def Bdj{n m t':Nat}(_hz:∀v∈G.zero t,Ll v=H)(hm:Cv.np m t'∈Vc G n t):m=n/\t=t':=by
 have hz0:Cv.np m t'∉GS G t:=λh=>by unfold GS at h;obtain⟨v,_,e⟩:=b6_.1 h;cases e
 unfold Vc at hm;cases hs:Awf G t with
 |false=>rw[hs]at hm;exact absurd hm hz0
 |true=>
  rw[hs,d_]at hm;generalize GS G t=l at hm hz0;unfold Ao4 at hm;split at hm
  .simp only[s_]at hm hz0;rcases hm with h|h
   .cases h;exact⟨rfl,rfl⟩
   .exact absurd (.inr h) hz0
  .exact absurd hm hz0
def Aw7{ν:Nat->Option Value}{n:Nat}{vs:List Value}(hF:F2 (Rc G ν S h) (GS G t) vs):F2 (Rc G ν S h) (Vc G n t) vs:=by
 unfold Vc;cases hs:Awf G t with
 |false=>exact hF
 |true=>
  rw[d_];generalize GS G t=l at hF;unfold Ao4;split
  .obtain⟨y,r,rfl,h1,h2⟩:=hF.inv;have h1':Rd G S h (.sc (.pointer D)) y:=h1;cases h1';exact .cons (.inl rfl) h2
  .exact hF
def Runs(P:Program)(G:Sig)(ρ:Operand->Value)(o:Oper)(ν:Nat->Option Value)(S B:Nat->Prop)(h:Nat->Option (Blk G.T))(w:World)(out:Out G):Prop:=∃nx w' v ν' S',(execOp ρ o).run P w=.ok nx w'/\(nx=.value v\/(nx=.skip/\v=undef))/\Post G ν S B h w out (BN h out.d) ν' S' w' v
def Bk9{x:G.T t}{off:Nat}(r:Rd G S h (.rp t x off) v):∃b o,v=.pointer (C ⟨b,o,D⟩):=by cases r;exact⟨_,_,rfl⟩
section
variable{P:Program}{ν:Nat->Option Value}{S B:Nat->Prop}{h:Nat->Option (Blk G.T)}{w:World}{ρ:Operand->Value}{o:Oper}
def Post.pure(hr:HRel G ν S B h w)(hd:out.d=[])(hv:∀s,out.v=C s->Rs G ν S w.heap s v):
  Post G ν S B h w out (BN h out.d) ν S w v:=
 ⟨λ_ _ h=>h,λ_ h=>.inl h,λ_ h=>h,λ_ h=>.inl h,by rw[hd];exact hr,hv,y_ _,λ_ _ _=>rfl,rfl,rfl,rfl⟩
def Runs.value(hr:HRel G ν S B h w)(hd:out.d=[])(hrun:(execOp ρ o).run P w=.ok (.value v) w)(hv:∀s,out.v=C s->Rs G ν S w.heap s v):
  Runs P G ρ o ν S B h w out:=
 ⟨_,w,v,ν,S,hrun,.inl rfl,Post.pure hr hd hv⟩
def Runs.outP(hr:HRel G ν S B h w){x:Pv G.T}(hrun:(execOp ρ o).run P w=.ok (.value v) w)(hv:Rp G ν S w.heap x v):
  Runs P G ρ o ν S B h w (outP x):=
 Runs.value hr rfl hrun λs hs=>by simp[Ab.outP]at hs;subst hs;exact .p _ _ hv
def Runs.outV(hr:HRel G ν S B h w)(hrun:(execOp ρ o).run P w=.ok (.value v) w)(hv:Ll v=H):
  Runs P G ρ o ν S B h w (Ab.outV v):=
 Runs.outP hr hrun (.one _ _ (.sc v hv))
def ext(ν:Nat->Option Value)(nm:Nat)(x:Value):Nat->Option Value:=λn=>if n=nm then C x else ν n
def Ae6{x:Value}(hν:ν nm=D):∀n y,ν n=C y->ext ν nm x n=C y:=by
 intro n y hy;unfold ext;by_cases e:n=nm
 .subst e;rw[hν]at hy;simp at hy
 .simp[e,hy]
def Ash{x:Value}:∀n,ext ν nm x n≠D->ν n≠D\/n∈[nm]:=by
 intro n hn;unfold ext at hn;by_cases e:n=nm
 .exact .inr (by simp[e])
 .simp[e]at hn;exact .inl hn
def EK{x:Value}:ext ν nm x nm=C x:=by simp[ext]
def HRel.add(hr:HRel G ν S B h w){x:Value}{w':World}(hν:ν nm=D)
  (hsame:∀b,b<w.heap.size->(S b\/∃m y,h m≠D/\ν m=C y/\AZ y=C b)->w'.heap[b]?=w.heap[b]?) (hsize:w.heap.size<=w'.heap.size)
  (hnew:∀b,AZ x=C b->¬S b/\B b/\∀m y,h m≠D->ν m=C y->AZ y≠C b)
  (hk:Rb G (ext ν nm x) S w'.heap nm k):HRel G (ext ν nm x) S B (λm=>if nm=m then C k else h m) w':=by
 have le:Le ν (ext ν nm x) S S w.heap w'.heap:=⟨Ae6 hν,λ_ h=>h,λb hb=>hsame b (hr.stay b hb) (.inl hb)⟩
 have old:∀m,nm≠m->∀y,ext ν nm x m=C y->ν m=C y:=by intro m hm y hy;unfold ext at hy;rwa [if_neg (f4_ hm)]at hy
 refine⟨λm k' hm=>?_,λm m' y y' b h1 h2 h3 h4 h5 h6=>?_,λm y b h1 h2 h3=>?_,λb hb=>c4_ (hr.stay b hb) hsize,hr.gl.mono (λ_ h=>h) le.hp⟩
 .by_cases e:nm=m
  .subst e;simp at hm;subst hm;exact hk
  .simp[e]at hm;exact(hr.blk m k' hm).mono le λy b hy hb=>hsame b (hr.lt (by simp[hm]) hy hb) (.inr ⟨m,y,by simp[hm],hy,hb⟩)
 .by_cases e:nm=m
  .subst e;by_cases e':nm=m'
   .exact e'
   .rw[EK]at h3;simp at h3;subst h3;simp[e']at h2;exact absurd h6 ((hnew b h5).2.2 m' y' h2 (old m' e' y' h4))
  .simp[e]at h1;by_cases e':nm=m'
   .subst e';rw[EK]at h4;simp at h4;subst h4;exact absurd h5 ((hnew b h6).2.2 m y h1 (old m e y h3))
   .simp[e']at h2;exact hr.apart m m' y y' b h1 h2 (old m e y h3) (old m' e' y' h4) h5 h6
 .by_cases e:nm=m
  .subst e;rw[EK]at h2;simp at h2;subst h2;exact⟨(hnew b h3).1,(hnew b h3).2.1⟩
  .simp[e]at h1;exact hr.own m y b h1 (old m e y h2) h3
def HRel.sub(hr:HRel G ν S B h w){h':Nat->Option (Blk G.T)}(hs:∀m,h' m≠D->h' m=h m):HRel G ν S B h' w:=by
 have al:∀m,h' m≠D->h m≠D:=λm hm=>by rw[<-hs m hm];exact hm
 exact⟨λn k hk=>hr.blk n k (by rw[<-hs n (by simp[hk])];exact hk),λn m x y b h1 h2=>hr.apart n m x y b (al n h1) (al m h2),λn x b h1=>hr.own n x b (al n h1),hr.stay,hr.gl⟩
def Post.alloc(hr:HRel G ν S B h w)(hB:∀b,w.heap.size<=b->B b)(hν:ν nm=D){c:Array Value}{te:TypeId}{x:Value}
  (hd:out.d=[(nm,C k)]) (hn:out.nw=[nm]) (hx:AZ x=C w.heap.size) {w':World}(hheap:w'.heap=w.heap.push (.cells c te)) (henv:w'.os=w.os/\w'.tape=w.tape/\w'.output=w.output)
  (hk:Rb G (ext ν nm x) S (w.heap.push (.cells c te)) nm k) {v:Value}
  (hv:∀s,out.v=C s->Rs G (ext ν nm x) S (w.heap.push (.cells c te)) s v):Post G ν S B h w out (BN h out.d) (ext ν nm x) S w' v:=by
 have hold:∀b,b<w.heap.size->w'.heap[b]?=w.heap[b]?:=λb hb=>by rw[hheap,Array.getElem?_push,if_neg (Nat.ne_of_lt hb)]
 refine⟨Ae6 hν,by rw[hn];exact Ash,λ_ h=>h,λ_ h=>.inl h,?_,by rw[hheap];exact hv,by rw[hheap];simp,λb hb _=>hold b hb,henv⟩;rw[hd];refine hr.add hν (λb hb _=>hold b hb) (by rw[hheap];simp) (λb hb=>?_) (by rw[hheap];exact hk);rw[hx]at hb;simp at hb;subst hb;refine⟨λhS=>absurd (hr.stay _ hS) (Nat.lt_irrefl _),hB _ (y_ _),λm y hm hy e=>absurd (hr.lt hm hy e) (Nat.lt_irrefl _)⟩
def Ah2(o:Obj){x:Value}(hr:HRel G ν S B h w)(hν:ν nm=D):Le ν (ext ν nm x) S S w.heap (w.heap.push o):=⟨Ae6 hν,λ_ h=>h,λb hb=>by rw[Array.getElem?_push,if_neg (Nat.ne_of_lt (hr.stay b hb))]⟩
variable(ok:SigOK P G){ev:Operand->Option (Sv G.T)}(hev:∀x s,ev x=C s->Rs G ν S w.heap s (ρ x))(hr:HRel G ν S B h w)(hB:∀b,w.heap.size<=b->B b)
 {cf:Dg G}{nm:Nat}{out:Out G}(hfresh:∀n∈out.nw,ν n=D)
include hev
theorem UN{y:Pv G.T}(hx:ev x=C (.p y)):Rp G ν S w.heap y (ρ x):=by
 have:=hev x _ hx
 cases this with
 |p _ _ h=>exact h
theorem ID{y:Cv G.T}(hx:ev x=C (.p (.one y))):Rc G ν S w.heap y (ρ x):=by
 have:=UN hev hx
 cases this with
 |one _ _ h=>exact h
theorem GP(hx:ev x=C (.p (.one (.sc v)))):ρ x=v/\Ll v=H:=by
 have h:Rd G S w.heap (.sc v) (ρ x):=ID hev hx;generalize ρ x=u at h;cases h with
 |sc _ hv=>exact⟨rfl,hv⟩
include hr
theorem Aj2(ho:o.op=.move x\/o.op=.assign x)(hact:RF ev x (Out G) C=C out):Runs P G ρ o ν S B h w out:=by
 unfold RF at hact;split at hact
 .rename_i s hs;simp at hact;subst hact;refine Runs.value hr rfl (v:=ρ x) ?_ (λs' hs'=>by simp at hs';subst hs';exact hev x _ hs);rcases ho with e|e<;>(unfold execOp;rw[e];rfl)
 .simp at hact
theorem Bct{c y:Operand}(ho:o.op=.pick c x y)(hact:Vi ev c x y (Out G) C=C out):Runs P G ρ o ν S B h w out:=by
 unfold Vi at hact;obtain⟨b,hb,hact⟩:=Bvz hact;have hact:=M.split_spec (M.bind_spec hact);unfold RF at hact;split at hact
 .rename_i s hs;simp at hact;subst hact;have hρ:=(GP hev hb).1;refine Runs.value hr rfl (v:=if b then ρ x else ρ y) ?_ (λs' hs'=>by simp at hs';subst hs';cases b<;>exact hev _ _ hs);unfold execOp;rw[ho];simp only[N_,hρ,asBool,a7_,u_]
 .simp at hact
include ok
theorem Bcb(ho:o.op=.load t x)(hact:Qt ev h t x (Out G) C=C out):Runs P G ρ o ν S B h w out:=by
 unfold Qt at hact;obtain⟨c,hc,hact⟩:=bindC hact;obtain⟨c',cs,hcc,hcs,hact⟩:=Afw hact;obtain⟨x',hx',hact⟩:=M.bindopt hact;simp[M.ret]at hact;subst hact;have hrc:Rc G ν S w.heap c' (ρ x):=by
  have h0:=ID hev hc;rcases hcc with rfl|⟨_,_,_,_,_,rfl,rfl⟩
  .exact h0
  .exact h0.2
 obtain⟨b,off,vs,hv,hf,hlen,hcell⟩:=Afx ok hr hcs hrc;have hno:G.ty t≠ .no:=by
  intro e;rw[ok.nosz t e]at hlen
  have:cs=[]:=by have:=hf.1;rw[hlen]at this;exact T_ this
  subst this;simp[SN,e,Ty.isAgg]at hx'
 refine Runs.value hr rfl (v:=if(G.ty t).isAgg then .agg vs.toArray else vs.getD 0 undef) ?_ (λs hs=>by simp at hs;subst hs;exact .p _ _ (RQ hx' hf));have hload:(loadCells ⟨b,off,D⟩ vs.length).run P w=.ok vs.toArray w:=run_loadCells_list (P:=P) w ⟨b,off,D⟩ vs (λj v hj=>by rw[Ip];exact hcell j v hj);unfold execOp;rw[ho];simp only[Instr.loadAt,hv,Instr.sureAddr,loadVar,N_,a7_,u_,ok.isAgg w hno];cases ha:(G.ty t).isAgg with
 |true=>simp only[g8_,N_,ok.sizeOf w hno,u_,<-hlen,hload,a7_]
 |false=>
  have hone:vs.length=1:=by
   simp only[SN,ha,c_]at hx';split at hx'
   .have:=hf.1;simpa using this.symm
   .simp at hx'
  obtain⟨u,rfl⟩:∃u,vs=[u]:=List.length_eq_one_iff.1 hone;have hu:=hcell 0 u rfl;simp only[c2_]at hu;simp[hu]
theorem Arp{y:Operand}(ho:o.op=.store t x y){c:Cv G.T}(hc:ev x=C (.p (.one c))){x':Pv G.T}(hx':ev y=C (.p x'))(hsz:(I x'.cells.length (G.sz t)&&!PE (G.ty t))=H)
  (hact:Sw h c x'.cells (Out G) C=C out):Runs P G ρ o ν S B h w out:=by
 unfold Sw at hact;obtain⟨⟨n,k'⟩,hp,hact⟩:=M.bindopt hact;simp[M.ret]at hact;subst hact;have hnew:=UO (UN hev hx');obtain⟨b,off,w',xx,hv,hrun,hn,hνn,hb,⟨c',te,hw⟩,hrel⟩:=Af3 ok hr (ID hev hc) hnew hp;have hsize:(ρ y).cells.size=G.sz t:=by
  have:=hnew.1
  simp at hsz;rw[hsz.1]at this;simpa using this.symm
 have hno:G.ty t≠ .no:=by intro e;simp[e,PE]at hsz
 refine⟨.skip,w',undef,ν,S,?_,.inr ⟨rfl,rfl⟩,⟨λ_ _ h=>h,λ_ h=>.inl h,λ_ h=>h,λ_ h=>.inl h,hrel,λs hs=>by simp at hs,by rw[hw.size];exact y_ _,
  λb' hb' hnot=>hw.there b' (λe=>hnot n xx hn hνn (e▸hb)),hw.env⟩⟩
 unfold execOp;rw[ho];simp only[Instr.storeAt,hv,Instr.sureAddr,storeVar,N_,a7_,u_,ok.sizeOf w hno,hsize];simp[hrun]
include hB hfresh
omit hev in
theorem Ato(ho:o.op=.alloc t)(hact:YP nm t (Out G) C=C out):Runs P G ρ o ν S B h w out:=by
 unfold YP at hact;have hno:G.ty t≠ .no:=by intro e;simp[e,M.fail]at hact
 have hact':C (⟨C (.p (.one (.ptr nm 0))),[(nm,C (.cells (Vc G nm t)))],[nm],[]⟩:Out G)=C out:=by cases hty:G.ty t<;>simp only[hty]at hact<;>first|exact absurd hty hno|exact hact
 simp at hact';subst hact';obtain⟨z,hz,hzc⟩:=ok.zeroV w hno;refine⟨.value (.pointer (C ⟨w.heap.size,0,D⟩)),{ w with heap:=w.heap.push (.cells z.cells t) },_,ext ν nm (.pointer (C ⟨w.heap.size,0,D⟩)),S,?_,.inl rfl,?_⟩
 .unfold execOp;rw[ho];simp[Instr.alloc,hz,newVar,newRow]
 .have hν:=hfresh nm σ;refine Post.alloc (k:=.cells (Vc G nm t)) (c:=z.cells) (te:=t) (w':={ w with heap:=w.heap.push (.cells z.cells t) }) hr hB hν rfl rfl rfl rfl ⟨rfl,rfl,rfl⟩ ⟨w.heap.size,z.cells,t,EK,σ,?_,λm t' hm=>Bdj (ok.zsc t) hm⟩ λs hs=>?_
  .rw[hzc];have hz0:F2 (Rc G (ext ν nm (.pointer (C ⟨w.heap.size,0,D⟩))) S (w.heap.push (.cells z.cells t))) (GS G t) (G.zero t):=
    F2.map_left ⟨rfl,λi x y hx hy=>by rw[hx]at hy;simp at hy;subst hy;exact .sc _ (ok.zsc t x (v_ hx))⟩
   exact Aw7 hz0
  .simp at hs;subst hs;exact .p _ _ (.one _ _ ⟨w.heap.size,EK,rfl⟩)
omit ok
theorem Bee(ho:o.op=.box t x)(hact:YR ev nm x (Out G) C=C out):Runs P G ρ o ν S B h w out:=by
 unfold YR at hact;obtain⟨y,hy,hact⟩:=Tc hact;obtain⟨hnp,hact⟩:=M.bindneed hact;simp[M.ret]at hact;subst hact;have hν:=hfresh nm σ;have hc:=UO (UN hev hy);refine⟨.value (.pointer (C ⟨w.heap.size,0,D⟩)),{ w with heap:=w.heap.push (.cells (ρ x).cells t) },_,ext ν nm (.pointer (C ⟨w.heap.size,0,D⟩)),S,?_,.inl rfl,?_⟩
 .unfold execOp;rw[ho];simp[Instr.box,newVar,newRow]
 .refine Post.alloc (k:=.cells y.cells) (c:=(ρ x).cells) (te:=t) (w':={ w with heap:=w.heap.push (.cells (ρ x).cells t) }) hr hB hν rfl rfl rfl rfl ⟨rfl,rfl,rfl⟩ ⟨w.heap.size,(ρ x).cells,t,EK,σ,?_,λm t' hm=>(ZP hnp hm).elim⟩ λs hs=>?_
  .exact hc.mono λ_ _=>Rc.mono (Ah2 _ hr hν)
  .simp at hs;subst hs;exact .p _ _ (.one _ _ ⟨w.heap.size,EK,rfl⟩)
omit hB hfresh
theorem Bge(ho:o.op=.nilCheck x)(hact:YS ev x (Out G) C=C out):Runs P G ρ o ν S B h w out:=by
 unfold YS at hact;obtain⟨c,hc,hact⟩:=bindC hact;obtain⟨hp,hact⟩:=M.bindneed hact;simp[M.ret]at hact;subst hact;have hrc:=ID hev hc;refine Runs.outP hr (v:=ρ x) ?_ (.one _ _ hrc);unfold execOp;rw[ho];cases c with
 |ptr n off=>obtain⟨b,_,e⟩:=hrc;simp[e]
 |pd n off s len i=>obtain⟨_,b,_,e⟩:=hrc;simp[e]
 |pr n t i off=>obtain⟨b,len,cap,_,_,e⟩:=hrc;simp[e]
 |clo f p q=>obtain⟨vp,vq,e,_⟩:=hrc;simp[e]
 |rp t' x' off=>obtain⟨b,o',e⟩:=Bk9 hrc;simp[e]
 |_=>simp[isP]at hp
theorem An0{i:Nat}(ho:o.op=.extract x i)(hact:Nw ev x i (Out G) C=C out):Runs P G ρ o ν S B h w out:=by
 unfold Nw at hact;split at hact
 .rename_i xs hx;split at hact
  .rename_i y hy;simp at hact;subst hact
   have:=hev x _ hx
   generalize hu:ρ x=u at this;cases this with
   |tup _ vs hvs=>obtain⟨v,hv,hr'⟩:=hvs.get hy;refine Runs.outP hr (v:=v) ?_ hr';unfold execOp;rw[ho];simp only[hu,Instr.extract];simp[hv]
  .simp at hact
 .simp at hact
end
end Go.Ab
namespace Go.Ab
variable{G:Sig}
variable{x:Operand}
section
variable{P:Program}{ν:Nat->Option Value}{S B:Nat->Prop}{h:Nat->Option (Blk G.T)}{w:World}{ρ:Operand->Value}{o:Oper}
variable(ok:SigOK P G){ev:Operand->Option (Sv G.T)}(hev:∀x s,ev x=C s->Rs G ν S w.heap s (ρ x))(hr:HRel G ν S B h w)(hB:∀b,w.heap.size<=b->B b)
 {cf:Dg G}{nm:Nat}{out:Out G}(hfresh:∀n∈out.nw,ν n=D)
theorem Apm{d:Nat}{c c':Cv G.T}(hs:Mx d c=C c'){v:Value}(hv:Rc G ν S w.heap c v) :
  ∃b off,v=.pointer (C ⟨b,off,D⟩)/\Rc G ν S w.heap c' (.pointer (C ⟨b,off+d,D⟩)):=by
 cases c with
 |ptr n off=>simp[Mx]at hs;subst hs;obtain⟨b,h1,rfl⟩:=hv;exact⟨b,off,rfl,b,h1,rfl⟩
 |pd n off s len i=>simp[Mx]at hs;subst hs;obtain⟨hi,b,h1,rfl⟩:=hv;exact⟨b,off+i*s,rfl,hi,b,h1,by simp only[Value.pointer.injEq,d0_,Addr.mk.injEq,and_true,true_and];omega⟩
 |pr n t i off=>simp[Mx]at hs;subst hs;obtain⟨b,len,cap,h1,hi,rfl⟩:=hv;exact⟨b,i*G.sz t+off,rfl,b,len,cap,h1,hi,by rw[X_]⟩
 |rp t x off=>
  simp[Mx]at hs;subst hs;cases hv with
  |rp _ _ _ b base c te fz vs hS hb hc hrd=>exact⟨b,base+off,rfl,by rw[X_];exact .rp t x (off+d) b base c te fz vs hS hb hc hrd⟩
 |sc v=>simp[Mx]at hs
 |own m=>simp[Mx]at hs
 |ro t l=>simp[Mx]at hs
 |clo f p q=>simp[Mx]at hs
 |np n t=>simp[Mx]at hs
 |sa n o l=>simp[Mx]at hs
include ok in
theorem An2{t f:Nat}{fs:List (Nat×Nat)}(ht:G.ty t=.st fs){o:Nat×Nat}(hf:fs[f]?=C o) :
  ∃fields fld,P.underlying t=C (.struct fields)/\fields[f]?=C fld/\fld.offset=o.1/\fld.type=o.2/\G.ty o.2≠ .no:=by
 obtain⟨fields,h1,h2,h3⟩:=ok.strc t fs ht;rw[<-h2]at hf;rw[b7_]at hf;cases hq:fields.toList[f]? with
 |none=>simp[hq]at hf
 |some fld=>simp[hq]at hf;refine⟨fields,fld,h1,by simpa using hq,by rw[<-hf],by rw[<-hf],?_⟩;refine h3 o.1 o.2 ?_;rw[<-h2];exact b6_.2 ⟨fld,v_ hq,by rw[<-hf]⟩
include hev
omit hev in
theorem PJ{i:Int}{n:Nat}(hb:inB i n=H):0<=i/\i<n:=by simpa[inB]using hb
include hr
include ok in
theorem Ahr{t f:Nat}(ho:o.op=.fieldAddr t x f)(hact:Kc ev t x f (Out G) C=C out):Runs P G ρ o ν S B h w out:=by
 unfold Kc at hact;cases ht:G.ty t with
 |st fs=>simp only[ht]at hact;obtain⟨c,hc,hact⟩:=bindC hact;obtain⟨o',hf,hact⟩:=M.bindopt hact;obtain⟨c',hs,hact⟩:=M.bindopt hact;simp[M.ret]at hact;subst hact;obtain⟨b,off,hv,hrc⟩:=Apm hs (ID hev hc);obtain⟨fields,fld,h1,h2,h3,h4,h5⟩:=An2 ok ht hf;refine Runs.outP hr (v:=.pointer (C ⟨b,off+o'.1,D⟩)) ?_ (.one _ _ hrc);have hpos:=ok.pos _ h5;unfold execOp;rw[ho];simp only[Instr.fieldAt,N_,I_ h1 w,u_,h2,hv,Instr.sureAddr,a7_,fieldPlace,h4,ok.sizeOf w h5,h3,Ip];rw[if_neg ω];rfl
 |_=>simp[ht,M.fail]at hact
include ok in
theorem Ave{t f:Nat}(ho:o.op=.field t x f)(hact:RY ev t x f (Out G) C=C out):Runs P G ρ o ν S B h w out:=by
 unfold RY at hact;cases ht:G.ty t with
 |st fs=>
  simp only[ht]at hact;obtain⟨c,hc,hact⟩:=Tc hact;have hrp:=UN hev hc;generalize hu:ρ x=u at hrp;cases hrp with
  |one c v hc'=>simp[Ae7,M.fail]at hact
  |agg ds vs hf2=>
  simp only[Ae7]at hact;obtain⟨o',hf,hact⟩:=M.bindopt hact;obtain⟨cs,hcs,hact⟩:=M.bindopt hact;obtain⟨y,hy,hact⟩:=M.bindopt hact;simp[M.ret]at hact;subst hact;obtain⟨fields,fld,h1,h2,h3,h4,h5⟩:=An2 ok ht hf;obtain⟨p1,p2,p3⟩:=PN hcs;have hlen:=hf2.1;have hF:F2 (Rc G ν S w.heap) cs ((vs.drop o'.1).take (G.sz o'.2)):=by
   refine⟨by simp;omega,λi a b ha hb=>?_⟩;have hi:i<G.sz o'.2:=by have:=(h_.1 ha).1;omega
   rw[p3 i hi]at ha;rw[A_ hi,c5_]at hb;exact hf2.2 _ a b ha hb
  refine Runs.outP hr (v:=if(G.ty o'.2).isAgg then .agg ((vs.drop o'.1).take (G.sz o'.2)).toArray else((vs.drop o'.1).take (G.sz o'.2)).getD 0 undef) ?_ (RQ hy hF);unfold execOp;rw[ho];simp only[Instr.field,N_,I_ h1 w,u_,h2,hu,asAgg,a7_,Go.part,h4,ok.isAgg w h5];cases ha:(G.ty o'.2).isAgg with
  |true=>simp only[g8_,N_,ok.sizeOf w h5,u_,h3];simp
  |false=>have hpos:=ok.pos _ h5;have hlt:o'.1<vs.length:=ω;rw[List.getD,A_ hpos];simp[h3,hlt]
 |_=>simp[ht,M.fail]at hact
end
end Go.Ab
