import Derived.WalkKit
set_option linter.all false
open Option renaming some->C,none->D
open Bool renaming true->H,false->I
open Nat renaming beq->J
open BitVec renaming ofInt->aA
namespace Go
variable{p:Prop}
def ω(h:p:=by omega):p:=h
def τ(h:p:=by decide):p:=h
def σ(h:p:=by simp):p:=h
def κ(h:p:=by kernel_rfl):p:=h
end Go
namespace Go
def a_:type_of% @decide_eq_true:=@decide_eq_true
def b_:type_of% @Bool.and_eq_true:=@Bool.and_eq_true
def c_:type_of% @decide_eq_false:=@decide_eq_false
def d_:type_of% @Option.bind_some:=@Option.bind_some
def e_:type_of% @List.getElem?_eq_some_iff:=@List.getElem?_eq_some_iff
def f_:type_of% @List.length_append:=@List.length_append
def g_:type_of% @List.getD_eq_getElem?_getD:=@List.getD_eq_getElem?_getD
def h_:type_of% @List.getElem?_eq_getElem:=@List.getElem?_eq_getElem
def i_:type_of% @cond_true:=@cond_true
def j_:type_of% @cond_false:=@cond_false
def k_:type_of% @of_decide_eq_true:=@of_decide_eq_true
def l_:type_of% @Int.toNat_natCast:=@Int.toNat_natCast
def m_:type_of% @List.mem_append:=@List.mem_append
def n_:type_of% @Nat.zero_add:=@Nat.zero_add
def o_:type_of% @of_decide_eq_false:=@of_decide_eq_false
def p_:type_of% @List.mem_of_getElem?:=@List.mem_of_getElem?
def q_:type_of% @beq_self_eq_true:=@beq_self_eq_true
def r_:type_of% @decide_eq_true_eq:=@decide_eq_true_eq
def s_:type_of% @Option.some.inj:=@Option.some.inj
def t_:type_of% @Nat.le_refl:=@Nat.le_refl
def u_:type_of% @Go.Result.andThen_ok:=@Go.Result.andThen_ok
def v_:type_of% @Array.getD_eq_getD_getElem?:=@Array.getD_eq_getD_getElem?
def w_:type_of% @Nat.mul_le_mul_right:=@Nat.mul_le_mul_right
def x_:type_of% @List.length_take:=@List.length_take
def y_:type_of% @List.mem_singleton:=@List.mem_singleton
def z_:type_of% @List.length_set:=@List.length_set
def A_:type_of% @List.mem_cons:=@List.mem_cons
def B_:type_of% @List.getElem?_take_of_lt:=@List.getElem?_take_of_lt
def C_:type_of% @List.mem_cons_self:=@List.mem_cons_self
def D_:type_of% @List.length_cons:=@List.length_cons
def E_:type_of% @Nat.le_of_ble_eq_true:=@Nat.le_of_ble_eq_true
def F_:type_of% @List.mem_cons_of_mem:=@List.mem_cons_of_mem
def G_:type_of% @List.all_eq_true:=@List.all_eq_true
def H_:type_of% @Int.fdiv_eq_ediv_of_nonneg:=@Int.fdiv_eq_ediv_of_nonneg
def I_:type_of% @beq_iff_eq:=@beq_iff_eq
def J_:type_of% @Array.getElem?_eq_some_iff:=@Array.getElem?_eq_some_iff
def K_:type_of% @Go.Sem.run_bind:=@Go.Sem.run_bind
def L_:type_of% @List.length_singleton:=@List.length_singleton
def M_:type_of% @Go.run_underlying:=@Go.run_underlying
def N_:type_of% @List.append_assoc:=@List.append_assoc
def O_:type_of% @Bool.or_eq_true:=@Bool.or_eq_true
def P_:type_of% @List.length_replicate:=@List.length_replicate
def Q_:type_of% @bne_self_eq_false:=@bne_self_eq_false
def R_:type_of% @List.getElem_mem:=@List.getElem_mem
def S_:type_of% @List.eq_nil_of_length_eq_zero:=@List.eq_nil_of_length_eq_zero
def T_:type_of% @List.all_cons:=@List.all_cons
def U_:type_of% @List.length_drop:=@List.length_drop
def V_:type_of% @Nat.add_assoc:=@Nat.add_assoc
def W_:type_of% @Nat.zero_le:=@Nat.zero_le
def X_:type_of% @List.flatMap_cons:=@List.flatMap_cons
def Y_:type_of% @Nat.not_lt_zero:=@Nat.not_lt_zero
def Z_:type_of% @Int.lt_irrefl:=@Int.lt_irrefl
def a0_:type_of% @Nat.add_mul:=@Nat.add_mul
def a1_:type_of% @List.append_nil:=@List.append_nil
def a2_:type_of% @Go.Sem.run_pure:=@Go.Sem.run_pure
def a3_:type_of% @List.take_of_length_le:=@List.take_of_length_le
def a4_:type_of% @BitVec.toNat_ofInt:=@BitVec.toNat_ofInt
def a5_:type_of% @List.pairwise_iff_getElem:=@List.pairwise_iff_getElem
def a6_:type_of% @Int.toNat_of_nonneg:=@Int.toNat_of_nonneg
def a7_:type_of% @Ne.symm:=@Ne.symm
def a8_:type_of% @Bool.not_true:=@Bool.not_true
def a9_:type_of% @Int.tmod_eq_emod_of_nonneg:=@Int.tmod_eq_emod_of_nonneg
def b0_:type_of% @Nat.add_sub_cancel_left:=@Nat.add_sub_cancel_left
def b1_:type_of% @Bool.true_and:=@Bool.true_and
def b2_:type_of% @List.getElem?_append_left:=@List.getElem?_append_left
def b3_:type_of% @List.getElem?_map:=@List.getElem?_map
def b4_:type_of% @Bool.not_eq_true':=@Bool.not_eq_true'
def b5_:type_of% @congrArg:=@congrArg
def b6_:type_of% @List.mem_map:=@List.mem_map
def b7_:type_of% @List.length_nil:=@List.length_nil
def b8_:type_of% @List.getElem?_append_right:=@List.getElem?_append_right
def b9_:type_of% @Prod.mk.injEq:=@Prod.mk.injEq
def c0_:type_of% @Array.getElem?_eq_getElem:=@Array.getElem?_eq_getElem
def c1_:type_of% @List.getElem?_drop:=@List.getElem?_drop
def c2_:type_of% @List.mem_flatMap:=@List.mem_flatMap
def c3_:type_of% @List.toList_toArray:=@List.toList_toArray
def c4_:type_of% @Option.some.injEq:=@Option.some.injEq
def c5_:type_of% @Nat.le_trans:=@Nat.le_trans
def c6_:type_of% @Int.eq_ofNat_of_zero_le:=@Int.eq_ofNat_of_zero_le
def c7_:type_of% @Nat.add_zero:=@Nat.add_zero
def c8_:type_of% @Nat.eq_of_beq_eq_true:=@Nat.eq_of_beq_eq_true
def c9_:type_of% @List.mem_iff_getElem?:=@List.mem_iff_getElem?
def d0_:type_of% @ByteArray.size_append:=@ByteArray.size_append
def d1_:type_of% @Bool.and_false:=@Bool.and_false
def d2_:type_of% @Nat.min_eq_left:=@Nat.min_eq_left
def d3_:type_of% @List.length_map:=@List.length_map
def d4_:type_of% @Nat.lt_of_lt_of_le:=@Nat.lt_of_lt_of_le
def d5_:type_of% @Nat.mul_one:=@Nat.mul_one
def d6_:type_of% @List.drop_length:=@List.drop_length
def d7_:type_of% @Nat.add_comm:=@Nat.add_comm
def d8_:type_of% @List.drop_zero:=@List.drop_zero
def d9_:type_of% @List.take_left':=@List.take_left'
def e0_:type_of% @List.nil_append:=@List.nil_append
def e1_:type_of% @Int.le_refl:=@Int.le_refl
def e2_:type_of% @Nat.ble_eq_true_of_le:=@Nat.ble_eq_true_of_le
def e3_:type_of% @Go.cell_of_row:=@Go.cell_of_row
def e4_:type_of% @List.mem_of_mem_take:=@List.mem_of_mem_take
def e5_:type_of% @List.mem_of_mem_drop:=@List.mem_of_mem_drop
def e6_:type_of% @Bool.false_and:=@Bool.false_and
def e7_:type_of% @Array.toArray_toList:=@Array.toArray_toList
def e8_:type_of% @List.range'_succ:=@List.range'_succ
def e9_:type_of% @Nat.xor_lt_two_pow:=@Nat.xor_lt_two_pow
def f0_:type_of% @Nat.lt_of_le_of_lt:=@Nat.lt_of_le_of_lt
def f1_:type_of% @Int.emod_lt_of_pos:=@Int.emod_lt_of_pos
def f2_:type_of% @Int.emod_nonneg:=@Int.emod_nonneg
def f3_:type_of% @Nat.mul_comm:=@Nat.mul_comm
def f4_:type_of% @Bool.and_self:=@Bool.and_self
def f5_:type_of% @Nat.lt_or_ge:=@Nat.lt_or_ge
def f6_:type_of% @List.pairwise_cons:=@List.pairwise_cons
def f7_:type_of% @List.all_nil:=@List.all_nil
def f8_:type_of% @Bool.false_eq_true:=@Bool.false_eq_true
def f9_:type_of% @Option.map_some:=@Option.map_some
def g0_:type_of% @Array.getElem?_setIfInBounds:=@Array.getElem?_setIfInBounds
def g1_:type_of% @Bool.and_true:=@Bool.and_true
def g2_:type_of% @Array.getElem?_modify:=@Array.getElem?_modify
def g3_:type_of% @if_false:=@if_false
def g4_:type_of% @Nat.mod_lt:=@Nat.mod_lt
def g5_:type_of% @Nat.blt_eq:=@Nat.blt_eq
def g6_:type_of% @List.getElem?_append:=@List.getElem?_append
def g7_:type_of% @Nat.mod_eq_of_lt:=@Nat.mod_eq_of_lt
def g8_:type_of% @List.set_set:=@List.set_set
def g9_:type_of% @Array.toList_map:=@Array.toList_map
end Go
namespace Go.Ab
def get{α:Type}:List (Nat×α)->Nat->Option α
 |[],_=>D
 |(k,v)::t,n=>bif J k n then C v else get t n
def del{α:Type}:List (Nat×α)->Nat->List (Nat×α)
 |[],_=>[]
 |(k,v)::t,n=>bif J k n then del t n else(k,v)::del t n
def put{α:Type}(l:List<|Nat×α)(n:Nat)(x:α):List<|Nat×α:=(n,x)::del l n
def has:List Nat->Nat->Bool
 |[],_=>I
 |k::t,n=>bif J k n then H else has t n
def M(α:Type):Type 1:=∀R:Type,(α->Option R)->Option R
namespace M
def ret{α:Type}(a:α):M α:=λ_ k=>k a
def bind{α β:Type}(m:M α)(f:α->M β):M β:=λR k=>m R λa=>f a R k
def fail{α:Type}:M α:=λ_ _=>D
def split(b:Bool):M Bool:=λ_ k=>bif b then k H else k I
def need(b:Bool):M Unit:=λ_ k=>bif b then k ()else D
def opt{α:Type}(o:Option α):M α:=λ_ k=>match o with|some a=>k a|none=>D
def val{α:Type}(m:M α):Option α:=m α C
def pick{α:Type}(k:Nat->M α)(i:Nat):Nat->Nat->M α
 |_,0=>M.fail
 |q,n+1=>M.bind (M.split<|J i q) λb=>match b with
  |true=>k q
  |false=>pick k i (q+1) n
instance:Monad M:={ pure:=ret,bind:=bind }
end M
inductive Cv(T:Nat->Type) where
 |sc (v:Value)
 |ptr (n off:Nat)
 |pd (n off s len i:Nat)
 |pr (n t i off:Nat)
 |own (n:Nat)
 |ro (t:Nat) (l:List (T t))
 |rp (t:Nat) (x:T t) (off:Nat)
 |clo (f:Nat) (fst caps:List (Nat×Nat))
 |np (n t:Nat)
 |sa (n off len:Nat)
inductive Pv(T:Nat->Type) where
 |one (c:Cv T)
 |agg (cs:List (Cv T))
inductive Sv(T:Nat->Type) where
 |p (x:Pv T)
 |tup (xs:List (Pv T))
inductive Blk(T:Nat->Type) where
 |cells (cs:List (Cv T))
 |row (t:Nat) (l:List (T t))
inductive Ty where
 |no|bool|int (k:IntKind)|flt (k:FloatKind)|str|sl (e:Nat)|pt (e:Nat)|fn
 |st (fs:List (Nat×Nat))|arr (n e:Nat)
def Ty.isAgg:Ty->Bool
 |.st _|.arr _ _=>H
 |_=>I
structure Sig where
 T:Nat->Type
 ty:Nat->Ty
 sz:Nat->Nat
 zero:Nat->List Value
 enc:(t:Nat)->T t->List (Cv T)
 dec:(t:Nat)->List (Cv T)->Option (T t)
 dfl:(t:Nat)->T t
 flat:Nat->Bool
 gl:Nat->Option ((t:Nat)×T t):=λ_=>none
 ext:Nat->Nat:=λ_=>0
 loose:Nat->Bool:=λ_=>true
variable{G:Sig}
def Pv.cells{T:Nat->Type}:Pv T->List (Cv T)
 |.one c=>[c]
 |.agg cs=>cs
def WB(op:BinOp)(x y:Int):Option Bool:=
 match op with
 |.eql=>C<|x==y
 |.neq=>C<|x !=y
 |.lss=>C<|decide<|x<y
 |.leq=>C<|decide<|x<=y
 |.gtr=>C<|decide<|x>y
 |.geq=>C<|decide<|x≥y
 |_=>D
def stk(x y:Int)(r:Nat):Int:=match x,y with
 |.ofNat _,.ofNat _=>(r:Int)
 |.ofNat _,.negSucc _=>(r:Int)
 |.negSucc _,.ofNat _=>(r:Int)
 |.negSucc _,.negSucc _=>(r:Int)
def Lk(x y:Int)(r:Nat):stk x y r=(r:Int):=by cases x<;>cases y<;>rfl
def As3(op:BinOp)(k:IntKind)(x y:Int):Option Int:=
 match op with
 |.and=>C<|k.wrap<|stk x y (aA k.bits x&&&aA k.bits y).toNat
 |.or=>C<|k.wrap<|stk x y (aA k.bits x|||BitVec.ofInt k.bits y).toNat
 |.xor=>C<|k.wrap<|stk x y (aA k.bits x^^^aA k.bits y).toNat
 |.andNot=>C<|k.wrap<|stk x y (aA k.bits x&&& ~~~aA k.bits y).toNat
 |_=>D
def eqB(x y:ByteArray):Bool:=x.toList==y.toList
def ltB(x y:ByteArray):Bool:=Op.bytesLess x.toList y.toList
def Bkm(op:BinOp)(k:FloatKind)(x y:Nat):Option Bool:=
 match op with
 |.eql=>C<|k.format.order x y==C .eq
 |.neq=>C<|k.format.order x y !=C .eq
 |.lss=>C<|k.format.order x y==C .lt
 |.leq=>C<|k.format.order x y==C .lt||k.format.order x y==C .eq
 |.gtr=>C<|k.format.order x y==C .gt
 |.geq=>C<|k.format.order x y==C .gt||k.format.order x y==C .eq
 |_=>D
def arG(op:BinOp)(k:FloatKind)(x y:Nat):Option Nat:=
 match op with
 |.add=>k.format.add x y
 |.sub=>k.format.sub x y
 |.mul=>k.format.mul x y
 |.quo=>k.format.div x y
 |_=>D
def arF(op:BinOp)(k:FloatKind)(x y:Nat):Option Nat:=match x,y with
 |0,0=>arG op k 0 0
 |0,y+1=>arG op k 0<|y+1
 |x+1,0=>arG op k (x+1) 0
 |x+1,y+1=>arG op k (x+1)<|y+1
def Biv(op:BinOp)(k:FloatKind)(x y:Nat):arF op k x y=arG op k x y:=by cases x<;>cases y<;>rfl
def Afa(k:FloatKind)(n:Int):Nat:=match n with
 |.ofNat _=>k.nearest n
 |.negSucc _=>k.nearest n
def Bbz(k:FloatKind)(n:Int):Afa k n=k.nearest n:=by cases n<;>rfl
def shI(op:BinOp)(k:IntKind)(x y:Int):Option Int:=
 match op with
 |.shl=>C<|k.wrap<|x*2^min y.toNat k.bits
 |.shr=>C<|x.fdiv<|2^min y.toNat k.bits
 |_=>D
def ER:IntKind->IntKind->Bool
 |.i8,.i8|.i16,.i16|.i32,.i32|.i64,.i64|.u8,.u8|.u16,.u16|.u32,.u32|.u64,.u64=>H
 |_,_=>I
def OZ:FloatKind->FloatKind->Bool
 |.f32,.f32|.f64,.f64=>H
 |_,_=>I
def BJ(s:ByteArray)(i:Nat):Int:=((s.data.getD i 0).toNat:Int)
def Re(op:BinOp)(k:IntKind)(a:Int)(k':IntKind)(b:Int):M Value:=
 match op with
 |.shl|.shr=>M.bind (M.need<|decide<|0<=b) λ_=>M.bind (M.opt<|shI op k a b) λr=>M.ret<|.int k r
 |.add=>M.bind (M.need<|ER k k') λ_=>M.ret<|.int k<|k.wrap<|a+b
 |.sub=>M.bind (M.need<|ER k k') λ_=>M.ret<|.int k<|k.wrap<|a-b
 |.mul=>M.bind (M.need<|ER k k') λ_=>M.ret<|.int k<|k.wrap<|a*b
 |.quo=>M.bind (M.need<|ER k k') λ_=>M.bind (M.need<|b !=0) λ_=>M.ret<|.int k<|k.wrap<|a.tdiv b
 |.rem=>M.bind (M.need<|ER k k') λ_=>M.bind (M.need<|b !=0) λ_=>M.ret<|.int k<|a.tmod b
 |.and|.or|.xor|.andNot=>M.bind (M.need<|ER k k') λ_=>M.bind (M.opt<|As3 op k a b) λr=>M.ret<|.int k r
 |_=>M.bind (M.need<|ER k k') λ_=>M.bind (M.opt<|WB op a b) λr=>M.ret<|.bool r
def Ad0(op:BinOp)(k:FloatKind)(a:Nat)(k':FloatKind)(b:Nat):M Value:=
 match op with
 |.add|.sub|.mul|.quo=>M.bind (M.need<|OZ k k') λ_=>M.bind (M.opt<|arF op k a b) λr=>M.ret<|.float k r
 |_=>M.bind (M.need<|OZ k k') λ_=>M.bind (M.opt<|Bkm op k a b) λr=>M.ret<|.bool r
def Ad1(op:BinOp)(a b:ByteArray):M Value:=
 match op with
 |.add=>M.bind (M.need<|Nat.ble (a.size+b.size) 4611686018427387904) λ_=>M.ret<|.string<|a++b
 |.eql=>M.ret<|.bool<|eqB a b
 |.neq=>M.ret<|.bool<|!eqB a b
 |.lss=>M.ret<|.bool<|ltB a b
 |.leq=>M.ret<|.bool<|ltB a b||eqB a b
 |.gtr=>M.ret<|.bool<|!(ltB a b||eqB a b)
 |.geq=>M.ret<|.bool<|!ltB a b
 |_=>M.fail
def bin(op:BinOp)(x y:Value):M Value:=
 match x,y with
 |.int k a,.int k' b=>Re op k a k' b
 |.float k a,.float k' b=>Ad0 op k a k' b
 |.string a,.string b=>Ad1 op a b
 |_,_=>M.fail
def eqV:Value->Value->Option Bool
 |.int k a,.int k' b=>bif ER k k' then C (a==b)else D
 |.bool a,.bool b=>C<|a==b
 |.string a,.string b=>C<|eqB a b
 |.float k a,.float k' b=>bif OZ k k' then C (k.format.order a b==C .eq)else D
 |_,_=>D
def Hn{T:Nat->Type}:List (Cv T)->List (Cv T)->Option Bool
 |[],[]=>C H
 |.sc a::e,.sc b::d=>
  match eqV a b,Hn e d with
  |some x,C y=>C<|x&&y
  |_,_=>D
 |_,_=>D
def intOf:Value->Int
 |.int _ n=>n
 |_=>0
def Tg{T:Nat->Type}(k:IntKind):List (Cv T)->Option (List Int)
 |[]=>C []
 |.sc (.int k' n)::t=>bif ER k k' then match Tg k t with|some l=>C (n::l)|none=>D else D
 |_=>D
def PW{T:Nat->Type}:List (Cv T)->Option (List Bool)
 |[]=>C []
 |.sc (.bool n)::t=>match PW t with|some l=>C (n::l)|none=>D
 |_=>D
def Ti{T:Nat->Type}:List (Cv T)->Option (List ByteArray)
 |[]=>C []
 |.sc (.string n)::t=>match Ti t with|some l=>C (n::l)|none=>D
 |_=>D
def Afp{T:Nat->Type}(l:List<|Cv T)(i:Nat):Option<|Cv T:=
 match l with
 |.sc (.int k _)::_=>match Tg k l with|some ns=>C (.sc<|.int k<|ns.getD i 0)|none=>D
 |.sc (.bool _)::_=>match PW l with|some ns=>C (.sc<|.bool<|ns.getD i I)|none=>D
 |.sc (.string _)::_=>match Ti l with|some ns=>C (.sc<|.string<|ns.getD i ⟨#[]⟩)|none=>D
 |_=>l[i]?
def Ald{T:Nat->Type}(b:Bool)(c d:Cv T):Option<|Cv T:=
 match c,d with
 |.sc (.int k x),.sc (.int k' y)=>bif ER k k' then C (.sc<|.int k<|bif b then x else y)else D
 |.sc (.bool x),.sc (.bool y)=>C<|.sc<|.bool<|bif b then x else y
 |.sc (.string x),.sc (.string y)=>C<|.sc<|.string<|bif b then x else y
 |_,_=>bif b then C c else C d
def MJ{α:Type}:Nat->List α->Option (List α)
 |0,_=>C []
 |_+1,[]=>D
 |n+1,x::t=>match MJ n t with|some l=>C (x::l)|none=>D
def NL{α:Type}:Nat->List α->Option (List α)
 |0,l=>C l
 |_+1,[]=>D
 |n+1,_::t=>NL n t
def part{α:Type}(cs:List α)(off n:Nat):Option<|List α:=match NL off cs with|some l=>MJ n l|none=>D
def Kk{α:Type}:List α->Nat->List α->Option (List α)
 |cs,0,[]=>C cs
 |[],0,_::_=>D
 |_::t,0,x::new=>match Kk t 0 new with|some l=>C (x::l)|none=>D
 |[],_+1,_=>D
 |c::t,n+1,new=>match Kk t n new with|some l=>C (c::l)|none=>D
def DT{α β:Type}(f:α->Option β):List α->Option (List β)
 |[]=>C []
 |a::t=>match f a,DT f t with|some b,C l=>C (b::l)|_,_=>D
def Qp:Nat->List Nat
 |0=>[]
 |n+1=>Qp n++[n]
def Im(h:Nat->Option (Blk G.T))(n:Nat):Cv G.T->Option (List<|Cv G.T)
 |.ptr b off=>match h b with
  |some (.cells cs)=>part cs off n
  |_=>D
 |.pd b off s len i=>match h b with
  |some (.cells cs)=>DT (λj=>match DT (λq=>cs[off+q*s+j]?) (Qp len)with|some l=>Afp l i|none=>D)<|Qp n
  |_=>D
 |.pr b t i off=>match h b with
  |some (.row a l)=>bif J t a then part (G.enc a<|l.getD i<|G.dfl a) off n else D
  |_=>D
 |.rp t x off=>part (G.enc t x) off n
 |_=>D
def Zx{T:Nat->Type}(cs:List<|Cv T)(off s i:Nat)(new:List<|Cv T):List Nat->Option (List<|Cv T)
 |[]=>C cs
 |q::e=>match Zx cs off s i new e with
  |some a=>match part a (off+q*s) new.length with
   |some d=>match DT (λp=>Ald (J i q) p.1 p.2) (new.zip d)with
    |some l=>Kk a (off+q*s) l
    |none=>D
   |none=>D
  |none=>D
def SB{T:Nat->Type}:Cv T->Bool
 |.np _ _=>I
 |_=>H
def Kh(h:Nat->Option (Blk G.T))(new:List<|Cv G.T):Cv G.T->Option (Nat×Blk G.T)
 |.ptr b off=>match h b with
  |some (.cells cs)=>match Kk cs off new with|some a=>bif a.all SB then C (b,.cells a)else D|none=>D
  |_=>D
 |.pd b off s len i=>match h b with
  |some (.cells cs)=>match Zx cs off s i new (Qp len)with|some a=>bif a.all SB then C (b,.cells a)else D|none=>D
  |_=>D
 |.pr b t i off=>match h b with
  |some (.row d l)=>bif J t d then
    match Kk (G.enc d<|l.getD i<|G.dfl d) off new with
    |some a=>match G.dec d a with|some x=>C (b,.row d<|l.set i x)|none=>D
    |none=>D
   else D
  |_=>D
 |_=>D
def Lj{T:Nat->Type}(d:Nat):Cv T->Option (Cv T)
 |.ptr b off=>C<|.ptr b<|off+d
 |.pd b off s len i=>C<|.pd b (off+d) s len i
 |.pr b t i off=>C<|.pr b t i<|off+d
 |.rp t x off=>C<|.rp t x<|off+d
 |_=>D
def isP{T:Nat->Type}:Cv T->Bool
 |.ptr .. | .pd .. | .pr .. | .rp .. | .clo ..=>H
 |_=>I
def RK(G:Sig)(t:Nat)(cs:List<|Cv G.T):Option<|Pv G.T:=bif(G.ty t).isAgg then C (.agg cs)else match cs with|[c]=>C (.one c)|_=>D
end Go.Ab
namespace Go.Ab
structure Out(G:Sig) where
 v:Option (Sv G.T)
 d:List (Nat×Option (Blk G.T))
 nw:List Nat
 rd:List Nat
structure St(G:Sig) where
 tm:List (Nat×Sv G.T)
 hp:List (Nat×Blk G.T)
 us:List Nat
def Dc(G:Sig):Type 1:=Nat->List (Pv G.T)->(Nat->Option (Blk G.T))->Nat->M (Out G)
variable{G:Sig}
def outP(x:Pv G.T):Out G:=⟨C<|.p x,[],[],[]⟩
def outV(v:Value):Out G:=outP<|.one<|.sc v
def Cv.rds{T:Nat->Type}:Cv T->List Nat
 |.ptr n _|.pd n _ _ _ _|.pr n _ _ _|.own n=>[n]
 |.sa n _ _=>[n]
 |_=>[]
def OV(G:Sig)(t a:Nat)(l:List<|G.T t):Option<|List<|G.T a:=if h:t=a then C (h▸l)else D
def Ix(h:Nat->Option (Blk G.T))(e:Nat):Cv G.T->Option (List<|G.T e)
 |.sc (.slice D 0 0)=>C []
 |.own n=>match h n with|some (.row t l)=>OV G t e l|_=>D
 |.ro t l=>OV G t e l
 |_=>D
def Ali{T:Nat->Type}:Pv T->Option (Nat×Nat)
 |.one (.ptr n off)=>C (n,off)
 |_=>D
def Ac7{T:Nat->Type}(a:Nat×Nat):Pv T:=.one<|.ptr a.1 a.2
def An1:Nat:=2147483648
section
variable(cf:Dc G)(ev:Operand->Option (Sv G.T))(h:Nat->Option (Blk G.T))(nm:Nat)
def evP(x:Operand):M<|Pv G.T:=λ_ k=>match ev x with|some (.p y)=>k y|_=>D
def evC(x:Operand):M<|Cv G.T:=λ_ k=>match ev x with|some (.p<|.one c)=>k c|_=>D
def evI(x:Operand):M<|IntKind×Int:=λ_ k=>match ev x with|some (.p<|.one<|.sc<|.int d n)=>k (d,n)|_=>D
def evB(x:Operand):M Bool:=λ_ k=>match ev x with|some (.p<|.one<|.sc<|.bool b)=>k b|_=>D
def Tw:List Operand->M (List<|Pv G.T)
 |[]=>M.ret []
 |x::t=>M.bind (evP ev x) λy=>M.bind (Tw t) λl=>M.ret<|y::l
def GJ(d:Nat)(m:Nat):Option Operand->M Nat
 |none=>M.ret d
 |some x=>M.bind (evI ev x) λi=>M.bind (M.need<|decide (0<=i.2)&&decide (i.2<=(m:Int))) λ_=>M.ret i.2.toNat
def WS(a:Nat->Option (Nat×Nat))(cells:List<|Cv G.T):List (Nat×Pv G.T)->Option (List<|Cv G.T)
 |[]=>C cells
 |(i,v)::rest=>match a i with
  |some (off,size)=>bif J v.cells.length size then
    match Kk cells off v.cells with|some cs=>WS a cs rest|none=>D
   else D
  |none=>D
def IS:List (Nat×Operand)->M (List<|Nat×Pv G.T)
 |[]=>M.ret []
 |(i,x)::t=>M.bind (evP ev x) λy=>M.bind (IS t) λl=>M.ret<|(i,y)::l
def Cs(G:Sig)(e:Nat):Nat->List (Cv G.T)->Option (List<|G.T e)
 |0,[]=>C []
 |0,_::_=>D
 |n+1,cs=>match MJ (G.sz e) cs,NL (G.sz e) cs with
  |some a,C b=>match G.dec e a,Cs G e n b with
   |some x,C l=>C<|x::l
   |_,_=>D
  |_,_=>D
def Ro:Value->Bool
 |.slice D 0 0=>H
 |_=>I
def MH:List Nat->List (Nat×Option (Blk G.T))
 |[]=>[]
 |n::t=>(n,D)::MH t
def Aha(h:Nat->Option (Blk G.T)):Cv G.T->Cv G.T->Option (Cv G.T×List Nat)
 |.ro e _,.own n=>match h n with
  |some (.row t l)=>match OV G t e l with|some a=>C (.ro e a,[n])|none=>D
  |_=>D
 |.ro e _,.sc v=>C (bif Ro v then .ro e []else .sc v,[])
 |_,c=>C (c,[])
def Pd(h:Nat->Option (Blk G.T)):List (Cv G.T)->List (Cv G.T)->Option (List (Cv G.T)×List Nat)
 |[],[]=>C ([],[])
 |w::d,c::cs=>match Aha h w c,Pd h d cs with|some a,C b=>C (a.1::b.1,a.2++b.2)|_,_=>D
 |_,_=>D
def Bek(G:Sig)(e:Nat):Nat->List (Cv G.T)
 |0=>[]
 |n+1=>G.enc e (G.dfl e)++Bek G e n
def Gp(G:Sig)(t:Nat):List<|Cv G.T:=(G.zero t).map .sc
def Py(G:Sig)(t:Nat):Nat->List (Cv G.T)
 |0=>[]
 |n+1=>Gp G t++Py G t n
def An2(e:Nat)(c:Cv G.T):M<|Out G:=match c with
 |.sa _ _ n=>M.ret<|outV<|.int .i64 (n:Int)
 |c=>M.bind (M.opt<|Ix h e c) λl=>M.ret ⟨C<|.p<|.one<|.sc<|.int .i64 (l.length:Int),[],[],c.rds⟩
def Vg(t:Nat)(x:Operand):M<|Out G:=match G.ty t with
 |.str=>M.bind (evC ev x) λc=>match c with
  |.sc (.string s)=>M.ret<|outV<|.int .i64 (s.size:Int)
  |_=>M.fail
 |.arr n _=>M.ret<|outV<|.int .i64 (n:Int)
 |.sl e=>M.bind (evC ev x) λc=>An2 h e c
 |_=>M.fail
def Bd2(G:Sig)(e:Nat)(l:List<|G.T e)(cs:List<|Cv G.T)(off len:Nat):Option<|List<|Cv G.T:=
 match DT (λj=>match cs[off+j]?,G.enc e (l.getD j<|G.dfl e)with
   |some o,[c]=>Ald (Nat.blt j l.length) c o
   |_,_=>D) (Qp len)with
 |some new=>Kk cs off new
 |none=>D
def NJ{α:Type}(l a:List α):List α:=a.take l.length++l.drop a.length
def Ak9(n m:Nat):Int:=bif Nat.ble n m then(n:Int)else(m:Int)
def Aaf(i e:Nat)(f:List<|G.T e)(c d:Cv G.T):M<|Out G:=match c with
 |.own n=>match h n with
  |some (.row u l)=>M.bind (M.need<|J u e&&!has d.rds n) λ_=>M.bind (M.opt<|OV G e u f) λg=>M.ret ⟨C<|.p<|.one<|.sc<|.int .i64<|Ak9 f.length l.length,[(n,C<|.row u<|NJ l g)],[],n::d.rds⟩
  |_=>M.fail
 |.sa n off len=>match h n with
  |some (.cells cs)=>M.bind (M.need<|J (G.sz e) 1&&!has d.rds n) λ_=>M.bind (M.opt<|Bd2 G e f cs off len) λa=>M.bind (M.need<|a.all SB) λ_=>M.ret ⟨C<|.p<|.one<|.sc<|.int .i64<|Ak9 f.length len,[(n,C<|.cells a)],[],n::d.rds⟩
  |_=>M.fail
 |_=>M.fail
def Qy(t d:Nat)(x y:Operand):M<|Out G:=match G.ty t with
 |.sl e=>M.bind (M.need<|J t d) λ_=>M.bind (evC ev x) λc=>M.bind (evC ev y) λa=>M.bind (M.opt<|Ix h e a) λf=>Aaf h t e f c a
 |_=>M.fail
def As1(x y:Operand):M<|Out G:=M.bind (evI ev x) λa=>M.bind (evI ev y) λb=>M.bind (M.need<|ER a.1 b.1) λ_=>M.ret<|outV<|.int a.1<|bif decide (b.2<a.2)then b.2 else a.2
def As0(x y:Operand):M<|Out G:=M.bind (evI ev x) λa=>M.bind (evI ev y) λb=>M.bind (M.need<|ER a.1 b.1) λ_=>M.ret<|outV<|.int a.1<|bif decide (a.2<b.2)then b.2 else a.2
def Ak2(x y z:Operand):M<|Out G:=M.bind (evI ev x) λa=>M.bind (evI ev y) λb=>M.bind (evI ev z) λc=>
 M.bind (M.need<|ER a.1 b.1) λ_=>M.bind (M.need<|ER a.1 c.1) λ_=>
 M.ret (outV<|.int a.1<|bif decide (c.2<(bif decide (b.2<a.2)then b.2 else a.2))then c.2 else(bif decide (b.2<a.2)then b.2 else a.2))
def Ak1(x y z:Operand):M<|Out G:=M.bind (evI ev x) λa=>M.bind (evI ev y) λb=>M.bind (evI ev z) λc=>
 M.bind (M.need<|ER a.1 b.1) λ_=>M.bind (M.need<|ER a.1 c.1) λ_=>
 M.ret (outV<|.int a.1<|bif decide ((bif decide (a.2<b.2)then b.2 else a.2)<c.2)then c.2 else(bif decide (a.2<b.2)then b.2 else a.2))
def Asw(e:Nat)(l d:List<|G.T e)(c a:Cv G.T):M<|Out G:=match c with
 |.sc _=>M.ret ⟨C<|.p<|.one<|.own nm,[(nm,C<|.row e<|l++d)],[nm],a.rds⟩
 |.own n=>M.bind (M.need<|!has a.rds n) λ_=>M.ret ⟨C<|.p<|.one<|.own nm,[(n,D),(nm,C<|.row e<|l++d)],[nm],n::a.rds⟩
 |_=>M.fail
def Lq(t f:Nat)(x y:Operand):M<|Out G:=match G.ty t with
 |.sl e=>M.bind (M.need<|J t f) λ_=>M.bind (evC ev x) λc=>M.bind (evC ev y) λa=>
   M.bind (M.opt<|Ix h e c) λl=>M.bind (M.opt<|Ix h e a) λd=>
   M.bind (M.need<|Nat.ble (l.length+d.length) An1) λ_=>Asw nm e l d c a
 |_=>M.fail
def AP(b:Builtin)(tys:List Nat)(xs:List Operand):M<|Out G:=
 match b,tys,xs with
 |.len,t::_,[x]=>Vg ev h t x
 |.min,_,[x,y]=>As1 ev x y
 |.max,_,[x,y]=>As0 ev x y
 |.min,_,[x,y,z]=>Ak2 ev x y z
 |.max,_,[x,y,z]=>Ak1 ev x y z
 |.append,[t,a],[x,y]=>Lq ev h nm t a x y
 |.copy,[t,a],[x,y]=>Qy ev h t a x y
 |_,_,_=>M.fail
def Qw(x:Operand):M<|Out G:=λ_ k=>match ev x with|some s=>k ⟨C s,[],[],[]⟩|none=>D
def Ug(c a b:Operand):M<|Out G:=M.bind (evB ev c) λc=>M.bind (M.split c) λc=>Qw ev<|bif c then a else b
def Au6(G:Sig)(t:Nat):Bool:=match G.ty t with
 |.st ((_,u)::_)=>match G.ty u with
  |.pt e=>J e t
  |_=>I
 |_=>I
def Aoc{T:Nat->Type}(n t:Nat):List (Cv T)->List (Cv T)
 |.sc (.pointer D)::r=>.np n t::r
 |l=>l
def Ua(G:Sig)(n t:Nat):List<|Cv G.T:=bif Au6 G t then Aoc n t (Gp G t)else Gp G t
def Yk(t:Nat):M<|Out G:=match G.ty t with
 |.no=>M.fail
 |_=>M.ret ⟨C<|.p<|.one<|.ptr nm 0,[(nm,C<|.cells<|Ua G nm t)],[nm],[]⟩
def Ym(x:Operand):M<|Out G:=M.bind (evP ev x) λx=>M.bind (M.need<|x.cells.all SB) λ_=>M.ret ⟨C<|.p<|.one<|.ptr nm 0,[(nm,C<|.cells x.cells)],[nm],[]⟩
def Afd(G:Sig)(a:List<|Nat×Nat)(i:Nat):Option<|Nat×Nat:=match a[i]? with|some (o,u)=>C (o,G.sz u)|none=>D
def Ayp(G:Sig)(e i:Nat):Option<|Nat×Nat:=C (i*G.sz e,G.sz e)
def QT(t:Nat)(a:List<|Nat×Operand):M<|Out G:=match G.ty t with
 |.st d=>M.bind (IS ev a) λps=>M.bind (M.opt<|WS (Afd G d) (Gp G t) ps) λcs=>M.ret<|outP<|.agg cs
 |.arr _ e=>M.bind (IS ev a) λps=>M.bind (M.opt<|WS (Ayp G e) (Gp G t) ps) λcs=>M.ret<|outP<|.agg cs
 |_=>M.fail
def YX:Ty->Bool
 |.fn=>H
 |_=>I
def We(e len:Nat)(cs:List<|Cv G.T):M<|Out G:=match YX (G.ty e)with
 |true=>M.bind (M.need<|cs.all SB) λ_=>M.ret ⟨C<|.p<|.one<|.sa nm 0 len,[(nm,C<|.cells cs)],[nm],[]⟩
 |false=>M.bind (M.opt<|Pd h (Bek G e len) cs) λq=>M.bind (M.opt<|Cs G e len q.1) λl=>M.ret ⟨C<|.p<|.one<|.own nm,MH q.2++[(nm,C<|.row e l)],[nm],q.2⟩
def EY(t len:Nat)(a:List<|Nat×Operand):M<|Out G:=match G.ty t with
 |.sl e=>M.bind (IS ev a) λps=>M.bind (M.need<|Nat.ble len 65536&&Nat.ble (len*G.sz e) 16777216) λ_=>M.bind (M.opt<|WS (Ayp G e) (Py G e len) ps) λcs=>We h nm e len cs
 |_=>M.fail
def TQ{α:Type}(i:Nat)(f:Nat->Option α):List Nat->M α
 |[]=>M.fail
 |q::t=>λR k=>bif J i q then(M.opt (f q):M α) R k else TQ i f t R k
def Aad(h:Nat->Option (Blk G.T)):Cv G.T->Bool
 |.pd b off _ _ _=>match h b with
  |some (.cells cs)=>match cs[off]? with
   |some (.clo _ _ _)=>H
   |_=>I
  |_=>I
 |_=>I
def UC(h:Nat->Option (Blk G.T))(n:Nat)(c:Cv G.T):M<|List<|Cv G.T:=bif Aad h c then match c with
  |.pd b off s len i=>TQ i (λq=>Im h n<|.ptr b<|off+q*s)<|Qp len
  |_=>M.fail
 else M.opt (Im h n c)
def OR(t:Nat)(a:Operand):M<|Out G:=M.bind (evC ev a) λc=>M.bind (UC h (G.sz t) c) λcs=>M.bind (M.opt<|RK G t cs) λx=>M.ret ⟨C<|.p x,[],[],c.rds⟩
def Oa:Ty->Bool
 |.no=>H
 |_=>I
def Ru(c:Cv G.T)(cs:List<|Cv G.T):M<|Out G:=M.bind (M.opt<|Kh h cs c) λr=>M.ret ⟨D,[(r.1,C r.2)],[],c.rds⟩
def Bmz(G:Sig)(t off n:Nat):List<|Cv G.T:=match part (G.enc t<|G.dfl t) off n with
 |some l=>l
 |none=>[]
def ZJ(c:Cv G.T)(cs:List<|Cv G.T):M<|Out G:=match c with
 |.pr b t i off=>M.bind (M.opt<|Pd h (Bmz G t off cs.length) cs) λq=>M.bind (M.need<|!has q.2 b) λ_=>M.bind (M.opt<|Kh h q.1<|.pr b t i off) λr=>M.ret ⟨D,MH q.2++[(r.1,C r.2)],[],b::q.2⟩
 |c=>Ru h c cs
def Md(t:Nat)(a x:Operand):M<|Out G:=M.bind (evC ev a) λc=>M.bind (evP ev x) λx=>M.bind (M.need<|J x.cells.length (G.sz t)&&!Oa (G.ty t)) λ_=>ZJ h c x.cells
def Yn(x:Operand):M<|Out G:=M.bind (evC ev x) λc=>M.bind (M.need<|isP c) λ_=>M.ret<|outP<|.one c
def Al9(y:Ty)(op:BinOp)(v u:Value):M<|Out G:=match y,v,u with
 |.bool,.bool a,.bool b=>match op with
  |.eql=>M.ret<|outV<|.bool<|a==b
  |.neq=>M.ret<|outV<|.bool<|!(a==b)
  |_=>M.fail
 |_,v,u=>M.bind (bin op v u) λr=>M.ret<|outV r
def BO:Value->Nat
 |.bool _=>1
 |.string _=>2
 |.int k _=>match k with
  |.i8=>3
  |.i16=>4
  |.i32=>5
  |.i64=>6
  |.u8=>7
  |.u16=>8
  |.u32=>9
  |.u64=>10
 |.float k _=>match k with
  |.f32=>11
  |.f64=>12
 |_=>0
def Ae1{T:Nat->Type}:Cv T->Nat
 |.sc v=>BO v
 |_=>0
def IG:List Nat->List Nat->Bool
 |[],[]=>H
 |a::s,b::t=>J a b&&IG s t
 |_,_=>I
def DS{α:Type}(f:α->Nat):List α->List Nat
 |[]=>[]
 |a::t=>f a::DS f t
def zk(G:Sig)(t:Nat):List Nat:=DS BO<|G.zero t
def WR(G:Sig)(r:Nat->Bool):List (Nat×Nat)->Nat->List Nat->Bool
 |[],_,ks=>IG ks []
 |p::t,off,ks=>J p.1 off&&r p.2&&match MJ (G.sz p.2) ks,NL (G.sz p.2) ks with
  |some a,C b=>IG a (zk G p.2)&&WR G r t (off+G.sz p.2) b
  |_,_=>I
def Aai(G:Sig)(e:Nat):Nat->List Nat->Bool
 |0,ks=>IG ks []
 |n+1,ks=>match MJ (G.sz e) ks,NL (G.sz e) ks with
  |some a,C b=>IG a (zk G e)&&Aai G e n b
  |_,_=>I
def RI(G:Sig):Nat->Nat->Bool
 |0,_=>I
 |d+1,t=>match G.ty t with
  |.bool=>IG (zk G t) [1]
  |.str=>IG (zk G t) [2]
  |.int k=>IG (zk G t) [BO<|.int k 0]
  |.st a=>WR G (RI G d) a 0<|zk G t
  |.arr n e=>RI G d e&&Aai G e n (zk G t)
  |_=>I
def Bjj(G:Sig)(t:Nat)(cs a:List<|Cv G.T):Bool:=RI G 20 t&&IG (DS Ae1 cs) (zk G t)&&IG (DS Ae1 a) (zk G t)
def Bkf{T:Nat->Type}(y:Ty)(c:Cv T):Option Bool:=match y,c with
 |.pt _,.ptr _ _=>C I
 |.pt _,.sc (.pointer D)=>C H
 |_,_=>D
def Aun{T:Nat->Type}:Cv T->Bool
 |.sc (.pointer D)=>H
 |_=>I
def Bal(op:BinOp)(q:Bool):M<|Out G:=match op with
 |.eql=>M.ret<|outV<|.bool q
 |.neq=>M.ret<|outV<|.bool<|!q
 |_=>M.fail
def Bak(op:BinOp)(t:Nat)(c d:Cv G.T):M<|Out G:=bif Aun d then M.bind (M.opt<|Bkf (G.ty t) c) λq=>Bal op q else match c,d with
 |.sc v,.sc u=>Al9 (G.ty t) op v u
 |_,_=>M.fail
def Bam(op:BinOp)(t:Nat)(a b:Pv G.T):M<|Out G:=match a,b with
 |.one c,.one d=>Bak op t c d
 |.agg cs,.agg e=>M.bind (M.need<|(G.ty t).isAgg&&Bjj G t cs e) λ_=>M.bind (M.opt<|Hn cs e) λr=>match op with
  |.eql=>M.ret<|outV<|.bool r
  |.neq=>M.ret<|outV<|.bool<|!r
  |_=>M.fail
 |_,_=>M.fail
def Yl(op:BinOp)(t:Nat)(x y:Operand):M<|Out G:=M.bind (evP ev x) λa=>M.bind (evP ev y) λb=>Bam op t a b
def unP(op:UnOp)(c:Cv G.T):M<|Out G:=match op,c with
 |.not,.sc (.bool b)=>M.ret<|outV<|.bool<|!b
 |.neg,.sc (.int k n)=>M.ret<|outV<|.int k<|k.wrap<|0-n
 |.xor,.sc (.int k n)=>M.bind (M.opt<|As3 .xor k (if k.signed then -1 else k.max) n) λr=>M.ret<|outV<|.int k r
 |_,_=>M.fail
def aUn(op:UnOp)(x:Operand):M<|Out G:=M.bind (evC ev x) λc=>unP op c
def Aae(y:Ty)(c:Cv G.T):M<|Out G:=match y,c with
 |.int k,.sc (.int _ n)=>M.ret<|outV<|.int k<|k.wrap n
 |.str,.sc (.string s)=>M.ret<|outV<|.string s
 |.flt k,.sc (.int _ n)=>M.ret<|outV<|.float k<|Afa k n
 |_,_=>M.fail
def u8C{T:Nat->Type}:Cv T->Bool
 |.sc (.int .u8 _)=>H
 |_=>I
def roC{T:Nat->Type}:Cv T->Option Nat
 |.ro t _=>C t
 |_=>D
def ZX{T:Nat->Type}:List (Cv T)->UInt8
 |[.sc<|.int _ n]=>UInt8.ofNat n.toNat
 |_=>0
def ZN(G:Sig)(e:Nat)(l:List<|G.T e):ByteArray:=⟨(l.map λx=>ZX<|G.enc e x).toArray⟩
def Ac4:List Bool->Bool
 |[H]=>H
 |_=>I
def Bjv:Ty->Bool
 |.int .u8=>H
 |_=>I
def Aez:Ty->Bool
 |.str=>H
 |_=>I
def OQ(s t:Nat)(x:Operand):M<|Out G:=M.bind (M.need<|!Oa (G.ty s)) λ_=>M.bind (evC ev x) λc=>match G.ty s with
 |.sl e=>bif Aez (G.ty t)then M.bind (M.need<|Bjv (G.ty e)&&Ac4 ((G.enc e<|G.dfl e).map u8C)) λ_=>M.bind (M.opt<|Ix h e c) λl=>M.ret ⟨C<|.p<|.one<|.sc<|.string<|ZN G e l,[],[],c.rds⟩
  else Aae (G.ty t) c
 |_=>Aae (G.ty t) c
def Uf(f:Nat)(a b:List Operand):M<|Out G:=M.bind (Tw ev a) λa=>M.bind (Tw ev b) λb=>M.bind (M.opt<|DT Ali a) λa=>M.bind (M.opt<|DT Ali b) λb=>M.ret<|outP<|.one<|.clo f a b
def Jk(t:Nat)(n m:Operand):M<|Out G:=match G.ty t with
 |.sl e=>M.bind (evI ev n) λn=>M.bind (evI ev m) λm=>
   M.bind (M.need<|decide (0<=n.2)&&decide (n.2<=m.2)&&decide (m.2<=(An1:Int))) λ_=>
   M.bind (M.opt<|G.dec e<|Gp G e) λz=>
   M.ret ⟨C<|.p<|.one<|.own nm,[(nm,C<|.row e<|List.replicate n.2.toNat z)],[nm],[]⟩
 |_=>M.fail
def Wg(c:Cv G.T)(lo d:Option Operand):M<|Out G:=match c with
 |.sc (.string s)=>M.bind (GJ ev s.size s.size d) λb=>M.bind (GJ ev 0 b lo) λa=>M.ret<|outV<|.string<|s.extract a b
 |_=>M.fail
def Wf(c:Cv G.T)(d:Nat)(lo f:Option Operand):M<|Out G:=match c with
 |.ro e l=>M.bind (M.need<|J e d) λ_=>M.bind (GJ ev l.length l.length f) λb=>M.bind (GJ ev 0 b lo) λa=>M.ret<|outP<|.one<|.ro e<|(l.take b).drop a
 |_=>M.fail
def Ao4(n:Nat)(c:Cv G.T)(lo a:Option Operand):M<|Out G:=match c,lo,a with
 |.ptr b off,D,D=>M.ret<|outP<|.one<|.sa b off n
 |_,_,_=>M.fail
def QW(t:Nat)(x:Operand)(lo a d:Option Operand):M<|Out G:=match d with
 |some _=>M.fail
 |none=>match G.ty t with
  |.str=>M.bind (evC ev x) λc=>Wg ev c lo a
  |.sl e=>M.bind (evC ev x) λc=>Wf ev c e lo a
  |.arr n _=>M.bind (evC ev x) λc=>Ao4 n c lo a
  |_=>M.fail
def Jj(t:Nat)(x:Operand)(f:Nat):M<|Out G:=match G.ty t with
 |.st a=>M.bind (evC ev x) λc=>M.bind (M.opt a[f]?) λo=>M.bind (M.opt<|Lj o.1 c) λc=>M.ret<|outP<|.one c
 |_=>M.fail
def Aem(d:List<|Nat×Nat)(x:Pv G.T)(f:Nat):M<|Out G:=match x with
 |.agg a=>M.bind (M.opt d[f]?) λo=>M.bind (M.opt<|part a o.1<|G.sz o.2) λcs=>M.bind (M.opt<|RK G o.2 cs) λx=>M.ret<|outP x
 |.one _=>M.fail
def QU(t:Nat)(x:Operand)(f:Nat):M<|Out G:=match G.ty t with
 |.st a=>M.bind (evP ev x) λx=>Aem a x f
 |_=>M.fail
def inB(i:Int)(n:Nat):Bool:=decide (0<=i)&&decide (i<(n:Int))
def ixA(n e:Nat)(c:Cv G.T)(i:Int):M<|Out G:=match c with
 |.ptr b off=>M.bind (M.need<|inB i n) λ_=>M.ret<|outP<|.one<|.pd b off (G.sz e) n i.toNat
 |.pr b t j off=>M.bind (M.need<|inB i n) λ_=>M.ret<|outP<|.one<|.pr b t j<|off+i.toNat*G.sz e
 |.rp t x off=>M.bind (M.need<|inB i n) λ_=>
   M.bind (M.opt<|DT (λj=>match DT (λq=>(G.enc t x)[off+q*G.sz e+j]?) (Qp n)with|some l=>Afp l i.toNat|none=>D)<|Qp<|G.sz e) λcs=>
   M.bind (M.opt<|G.dec e cs) λy=>M.ret<|outP<|.one<|.rp e y 0
 |_=>M.fail
def ixS(a:Nat)(c:Cv G.T)(i:Int):M<|Out G:=match c with
 |.own b=>match h b with
  |some (.row e l)=>M.bind (M.need<|J e a) λ_=>M.bind (M.need<|inB i l.length) λ_=>M.ret ⟨C<|.p<|.one<|.pr b e i.toNat 0,[],[],[b]⟩
  |_=>M.fail
 |.ro e l=>M.bind (M.need<|J e a) λ_=>M.bind (M.need<|inB i l.length) λ_=>M.ret<|outP<|.one<|.rp e (l.getD i.toNat<|G.dfl e) 0
 |.sa b off len=>M.bind (M.need<|inB i len) λ_=>M.pick (λq=>M.ret<|outP<|.one<|.ptr b<|off+q*G.sz a) i.toNat 0 len
 |_=>M.fail
def FQ(t:Nat)(x i:Operand):M<|Out G:=match G.ty t with
 |.arr n e=>M.bind (evC ev x) λc=>M.bind (evI ev i) λi=>ixA n e c i.2
 |.sl e=>M.bind (evC ev x) λc=>M.bind (evI ev i) λi=>ixS h e c i.2
 |_=>M.fail
def ixV(s:Cv G.T)(i:Int):M<|Out G:=match s with
 |.sc (.string s)=>M.bind (M.need<|inB i s.size) λ_=>M.ret<|outV<|.int .u8<|BJ s i.toNat
 |_=>M.fail
def Bd0{T:Nat->Type}:List (Cv T)->Bool
 |.clo _ _ _::_=>H
 |_=>I
def Bjw(e:Nat)(a:List<|Cv G.T)(q:Nat):M<|Out G:=M.bind (M.opt<|part a (q*G.sz e)<|G.sz e) λcs=>M.bind (M.opt<|RK G e cs) λy=>M.ret<|outP y
def Ale(n e:Nat)(x:Pv G.T)(i:Int):M<|Out G:=match x with
 |.agg a=>M.bind (M.need<|inB i n) λ_=>match Bd0 a with
  |true=>M.pick (Bjw e a) i.toNat 0 n
  |false=>
   M.bind (M.opt<|DT (λj=>match DT (λq=>a[q*G.sz e+j]?) (Qp n)with|some l=>Afp l i.toNat|none=>D)<|Qp<|G.sz e) λcs=>
   M.bind (M.opt<|RK G e cs) λy=>M.ret<|outP y
 |.one _=>M.fail
def QV(t:Nat)(x i:Operand):M<|Out G:=match G.ty t with
 |.arr n e=>M.bind (evP ev x) λc=>M.bind (evI ev i) λi=>Ale n e c i.2
 |.str=>M.bind (evC ev x) λc=>M.bind (evI ev i) λi=>ixV c i.2
 |_=>M.fail
def Mc(x:Operand)(i:Nat):M<|Out G:=λ_ k=>match ev x with
 |some (.tup xs)=>match xs[i]? with|some y=>k (outP y)|none=>D
 |_=>D
def WP:List (Pv G.T)->M (Out G)
 |[.one<|.sc<|.float .f64 n]=>M.ret<|outV<|.int .u64 (n:Int)
 |_=>M.fail
def WQ:List (Pv G.T)->M (Out G)
 |[.one<|.sc<|.int .u64 n]=>M.ret<|outV<|.float .f64 n.toNat
 |_=>M.fail
def Wz(c:Cv G.T)(a:List<|Pv G.T):M<|Out G:=match c with
 |.clo g fst d=>match G.ext g with
  |0=>cf g (fst.map Ac7++(a++d.map Ac7)) h nm
  |1=>WP<|fst.map Ac7++(a++d.map Ac7)
  |_=>WQ<|fst.map Ac7++(a++d.map Ac7)
 |_=>M.fail
def OP(f:Operand)(xs:List Operand):M<|Out G:=M.bind (evC ev f) λc=>M.bind (Tw ev xs) λa=>Wz cf h nm c a
def act:Op->M (Out G)
 |.move x|.assign x=>Qw ev x
 |.pick c a b=>Ug ev c a b
 |.alloc t=>Yk nm t
 |.box _ x=>Ym ev nm x
 |.build t d=>QT ev t d.toList
 |.buildSlice t len d=>EY ev h nm t len d.toList
 |.load t a=>OR ev h t a
 |.store t a x=>Md ev h t a x
 |.nilCheck x=>Yn ev x
 |.binOp op t x y _=>Yl ev op t x y
 |.unOp op _ x=>aUn ev op x
 |.convert s t x=>OQ ev h s t x
 |.makeFunc (.func f) a b=>Uf ev f a.toList b.toList
 |.makeSlice t n m=>Jk ev nm t n m
 |.slice t x lo g e=>QW ev t x lo g e
 |.fieldAddr t x f=>Jj ev t x f
 |.field t x f=>QU ev t x f
 |.indexAddr t x i=>FQ ev h t x i
 |.index t x i=>QV ev t x i
 |.extract x i=>Mc ev x i
 |.call ⟨.builtin b,xs,tys⟩=>AP ev h nm b tys.toList xs.toList
 |.call ⟨.value f,xs,_⟩=>OP cf ev h nm f xs.toList
 |_=>M.fail
end
def Kg:Value->Bool
 |.bool _|.int _ _|.float _ _|.string _|.nilFunc|.nilIface|.pointer D|.slice D 0 0|.map D=>H
 |_=>I
def Pa(tm:List<|Nat×Sv G.T):Operand->Option (Sv G.T)
 |.tmp t=>get tm t
 |.const (.agg cs)=>bif cs.toList.all Kg then C (.p<|.agg<|cs.toList.map .sc)else D
 |.const v=>bif Kg v then C (.p<|.one<|.sc v)else D
 |.func f=>C<|.p<|.one<|.clo f [] []
 |.global g=>match G.gl g with|some p=>C (.p<|.one<|.rp p.1 p.2 0)|none=>D
def Ac8(hp:List<|Nat×Blk G.T):List (Nat×Option (Blk G.T))->List (Nat×Blk G.T)
 |[]=>hp
 |(n,D)::t=>Ac8 (del hp n) t
 |(n,C b)::t=>Ac8 (put hp n b) t
def JG(us:List Nat):List Nat->Bool
 |[]=>H
 |n::t=>!has us n&&JG us t
def St.next(st:St G)(a:Option Nat)(o:Out G):St G:=
 {tm:=match a with
   |some d=>match o.v with|some v=>put st.tm d v|none=>del st.tm d
   |none=>st.tm
  hp:=Ac8 st.hp o.d
  us:=o.nw++st.us }
def St.drop(st:St G)(a:Option Nat):St G:=
 match a with
 |some d=>{ st with tm:=put st.tm d (.tup []) }
 |none=>st
def Ala(base:Nat):Option Nat->Nat
 |some d=>base+16*d
 |none=>base
def Aev(tm:List<|Nat×Sv G.T)(g:Option Nat)(a:Bool):M<|Bool×Option (Nat×Bool):=λ_ k=>
 match g with
 |some g=>match get tm g with
  |some (.p<|.one<|.sc<|.bool b)=>bif b then k (a,C (g,H))else k (!a,C (g,I))
  |some (.tup [])=>k (I,D)
  |_=>D
 |none=>D
def SJ(ops:Array Oper)(tm:List<|Nat×Sv G.T)(o:Oper):M<|Bool×Option (Nat×Bool):=
 match o.guard with
 |none=>M.ret (H,D)
 |some (j,a)=>Aev tm ((ops[j]?).bind (·.dst)) a
def St.note(st:St G):Option (Nat×Bool)->St G
 |some (g,b)=>{ st with tm:=put st.tm g (.p<|.one<|.sc<|.bool b) }
 |none=>st
def NM(nt:Nat):Option Nat->Bool
 |some d=>Nat.blt d nt
 |none=>H
section
variable(cf:Dc G)(nt:Nat)
def Alm(ops:Array Oper)(o:Oper)(st:St G):M<|St G:=
 M.bind (M.need<|NM nt o.dst) λ_=>M.bind (SJ ops st.tm o) λg=>
  match g.1 with
  |true=>M.bind (act cf (Pa st.tm) (get st.hp) (Ala 0 o.dst) o.op) λout=>M.bind (M.need<|JG st.us out.nw) λ_=>M.ret<|(st.note g.2).next o.dst out
  |false=>M.ret<|(st.note g.2).drop o.dst
def TN(ops:Array Oper):List Oper->St G->M (St G)
 |[],st=>M.ret st
 |o::t,st=>M.bind (Alm cf nt ops o st) λst=>TN ops t st
end
end Go.Ab
namespace Go.Ab
inductive Ex where
 |normal|exit (id:Nat)|ret
def YO:Ex->Ex->Bool
 |.normal,.normal=>H
 |.exit i,.exit j=>J i j
 |.ret,.ret=>H
 |_,_=>I
inductive CSh where
 |int (k:IntKind)|bool|str|flt (k:FloatKind)
 |own (m t:Nat)|ro (t:Nat)|rp (t off:Nat)|ptr (n off:Nat)|clo (f:Nat) (p q:List (Nat×Nat))|np (n t:Nat)|nili|sa (n off len:Nat)|nilp|lit (k:IntKind) (n:Int)|sh (m:Nat)
inductive PSh where
 |one (c:CSh)
 |agg (cs:List CSh)
structure Spec where
 tm:List (Nat×PSh)
 hp:List (Nat×List CSh)
 us:List Nat
def lo:Nat:=65536
variable{G:Sig}
def CSh.T(G:Sig):CSh->Type
 |.int _=>Int
 |.bool=>Bool
 |.str=>ByteArray
 |.flt _=>Nat
 |.own _ t=>List<|G.T t
 |.ro t=>List<|G.T t
 |.rp t _=>G.T t
 |.ptr _ _=>Unit
 |.clo _ _ _=>Unit
 |.np _ _=>Unit
 |.nili=>Unit
 |.nilp=>Unit
 |.lit _ _=>Unit
 |.sa _ _ _=>Unit
 |.sh _=>Unit
def TL(G:Sig):List CSh->Type
 |[]=>Unit
 |s::t=>s.T G×TL G t
def PSh.T(G:Sig):PSh->Type
 |.one c=>c.T G
 |.agg cs=>TL G cs
def TmT(G:Sig):List (Nat×PSh)->Type
 |[]=>Unit
 |p::t=>p.2.T G×TmT G t
def HpT(G:Sig):List (Nat×List CSh)->Type
 |[]=>Unit
 |p::t=>TL G p.2×HpT G t
def Spec.T(G:Sig)(s:Spec):Type:=TmT G s.tm×HpT G s.hp
def CSh.give:(s:CSh)->s.T G->Cv G.T
 |.int k,n=>.sc<|.int k n
 |.bool,b=>.sc<|.bool b
 |.str,x=>.sc<|.string x
 |.flt k,n=>.sc<|.float k n
 |.own m _,_=>.own m
 |.ro t,l=>.ro t l
 |.rp t off,x=>.rp t x off
 |.ptr n off,_=>.ptr n off
 |.clo f p q,_=>.clo f p q
 |.np n t,_=>.np n t
 |.nili,_=>.sc .nilIface
 |.nilp,_=>.sc<|.pointer D
 |.lit k n,_=>.sc<|.int k n
 |.sa n off len,_=>.sa n off len
 |.sh m,_=>.own m
def CSh.blk:(s:CSh)->s.T G->List (Nat×Blk G.T)
 |.own m t,l=>[(m,.row t l)]
 |_,_=>[]
def DB:(s:List CSh)->TL G s->List (Cv G.T)
 |[],_=>[]
 |c::t,x=>c.give x.1::DB t x.2
def Ab6:(s:List CSh)->TL G s->List (Nat×Blk G.T)
 |[],_=>[]
 |c::t,x=>c.blk x.1++Ab6 t x.2
def PSh.give:(s:PSh)->s.T G->Pv G.T
 |.one c,x=>.one<|c.give x
 |.agg cs,x=>.agg<|DB cs x
def PSh.blk:(s:PSh)->s.T G->List (Nat×Blk G.T)
 |.one c,x=>c.blk x
 |.agg cs,x=>Ab6 cs x
def Li:(s:List<|Nat×PSh)->TmT G s->List (Nat×Sv G.T)
 |[],_=>[]
 |p::t,x=>(p.1,.p<|p.2.give x.1)::Li t x.2
def NG:(s:List<|Nat×PSh)->TmT G s->List (Nat×Blk G.T)
 |[],_=>[]
 |p::t,x=>p.2.blk x.1++NG t x.2
def Il:(s:List<|Nat×List CSh)->HpT G s->List (Nat×Blk G.T)
 |[],_=>[]
 |p::t,x=>(p.1,.cells<|DB p.2 x.1)::Il t x.2
def Se:(s:List<|Nat×List CSh)->HpT G s->List (Nat×Blk G.T)
 |[],_=>[]
 |p::t,x=>Ab6 p.2 x.1++Se t x.2
def BE:List (Nat×Blk G.T)->List Nat
 |[]=>[]
 |p::t=>p.1::BE t
def Spec.mk'(s:Spec)(x:s.T G):St G:=
 let h:=NG s.tm x.1++(Se s.hp x.2++Il s.hp x.2)
 ⟨Li s.tm x.1,h,BE h++s.us⟩
structure Tk(α:Type) where
 x:α
 nm:List (Nat×Option Nat)
 fz:List Nat
 sh:List (Nat×Nat)
def Atf(G:Sig)(t a:Nat)(x:G.T t):Option<|G.T a:=if h:t=a then C (h▸x)else D
def WN:List (Nat×Nat)->List (Nat×Nat)->Bool
 |[],[]=>H
 |a::s,b::t=>J a.1 b.1&&J a.2 b.2&&WN s t
 |_,_=>I
def tk0{α:Type}(x:α):Option<|Tk α:=C ⟨x,[],[],[]⟩
def XC(h:Nat->Option (Blk G.T))(n t:Nat):Option<|List<|G.T t:=match h n with
 |some (.row a l)=>OV G a t l
 |_=>D
def Auf(k:IntKind)(n:Int):Value->Bool
 |.int k' m=>ER k k'&&decide (n=m)
 |_=>I
def Anv:Value->Bool
 |.pointer D=>H
 |_=>I
def Anu:Value->Bool
 |.nilIface=>H
 |_=>I
section
variable(h:Nat->Option (Blk G.T))
def CSh.take:(s:CSh)->Cv G.T->Option (Tk<|s.T G)
 |.int k,.sc (.int k' n)=>bif ER k k' then tk0 n else D
 |.bool,.sc (.bool b)=>tk0 b
 |.str,.sc (.string x)=>tk0 x
 |.flt k,.sc (.float k' n)=>bif OZ k k' then tk0 n else D
 |.own m t,.own n=>match XC h n t with|some l=>C ⟨l,[(m,C n)],[],[]⟩|none=>D
 |.own m _,.sc v=>bif Ro v then C ⟨[],[(m,D)],[],[]⟩else D
 |.ro t,.ro g l=>match OV G g t l with|some l=>tk0 l|none=>D
 |.ro t,.own n=>match XC h n t with|some l=>C ⟨l,[],[n],[]⟩|none=>D
 |.ro _,.sc v=>bif Ro v then tk0 []else D
 |.rp t off,.rp g x a=>bif J off a then match Atf G g t x with|some x=>tk0 x|none=>D else D
 |.ptr n off,.ptr d a=>bif J n d&&J off a then tk0 ()else D
 |.clo f p q,.clo u i j=>bif J f u&&WN p i&&WN q j then tk0 ()else D
 |.np n t,.np d g=>bif J n d&&J t g then tk0 ()else D
 |.nili,.sc v=>bif Anu v then tk0 ()else D
 |.nilp,.sc v=>bif Anv v then tk0 ()else D
 |.lit k n,.sc v=>bif Auf k n v then tk0 ()else D
 |.sh m,.own n=>C ⟨(),[],[],[(m,n)]⟩
 |.sa n off len,.sa d a e=>bif J n d&&(J off a&&J len e)then tk0 ()else D
 |_,_=>D
def IB:(s:List CSh)->List (Cv G.T)->Option (Tk<|TL G s)
 |[],[]=>tk0 ()
 |s::t,c::cs=>match s.take h c,IB t cs with
  |some a,C b=>C ⟨(a.x,b.x),a.nm++b.nm,a.fz++b.fz,a.sh++b.sh⟩
  |_,_=>D
 |_,_=>D
def PSh.take:(s:PSh)->Pv G.T->Option (Tk<|s.T G)
 |.one s,.one c=>s.take h c
 |.agg a,.agg cs=>IB h a cs
 |_,_=>D
def Ir(tm:List<|Nat×Sv G.T):(s:List<|Nat×PSh)->Option (Tk<|TmT G s)
 |[]=>tk0 ()
 |p::t=>match get tm p.1 with
  |some (.p c)=>match p.2.take h c,Ir tm t with
   |some a,C b=>C ⟨(a.x,b.x),a.nm++b.nm,a.fz++b.fz,a.sh++b.sh⟩
   |_,_=>D
  |_=>D
def Km:(s:List<|Nat×List CSh)->Option (Tk<|HpT G s)
 |[]=>tk0 ()
 |p::t=>match h p.1 with
  |some (.cells cs)=>match IB h p.2 cs,Km t with
   |some a,C b=>C ⟨(a.x,b.x),a.nm++b.nm,a.fz++b.fz,a.sh++b.sh⟩
   |_,_=>D
  |_=>D
end
def Io:List Nat->Bool
 |[]=>H
 |n::t=>!has t n&&Io t
def Eu:List (Nat×Option Nat)->List Nat
 |[]=>[]
 |p::t=>p.1::Eu t
def EI:List (Nat×Option Nat)->List Nat
 |[]=>[]
 |(_,C n)::t=>n::EI t
 |(_,D)::t=>EI t
def VJ(l:List Nat):List Nat->Bool
 |[]=>H
 |n::t=>has l n&&VJ l t
def Ss:List (Nat×Nat)->List Nat
 |[]=>[]
 |p::t=>p.1::Ss t
def CSh.fix(l:List Nat):CSh->Bool
 |.ptr n _=>has l n
 |.clo _ p q=>VJ l (Ss p)&&VJ l (Ss q)
 |.np n _=>has l n
 |.sa n _ _=>has l n
 |_=>H
def PSh.fix(l:List Nat):PSh->Bool
 |.one c=>c.fix l
 |.agg cs=>cs.all<|CSh.fix l
def AH:List (Nat×List CSh)->List Nat
 |[]=>[]
 |p::t=>p.1::AH t
def WG:List Nat->List Nat->Bool
 |[],_=>H
 |n::t,l=>!has l n&&WG t l
def Ws:List Nat->Bool
 |[]=>H
 |n::t=>Nat.blt n lo&&Ws t
def Adu(us:List Nat):List Nat->Bool
 |[]=>H
 |n::t=>(Nat.blt n lo||has us n)&&Adu us t
def Afr(m n:Nat):List (Nat×Option Nat)->Bool
 |[]=>I
 |(k,C j)::t=>J k m&&J j n||Afr m n t
 |(_,D)::t=>Afr m n t
def Adi(nm:List<|Nat×Option Nat):List (Nat×Nat)->Bool
 |[]=>H
 |p::t=>Afr p.1 p.2 nm&&Adi nm t
def Spec.take(s:Spec)(st:St G):Option<|s.T G:=match Ir (get st.hp) st.tm s.tm,Km (get st.hp) s.hp with
 |some a,C b=>
  bif s.tm.all (λp=>p.2.fix<|AH s.hp)&&s.hp.all (λp=>p.2.all<|CSh.fix<|AH s.hp)&&
   (Io (Eu (a.nm++b.nm)++AH s.hp)&&Ws (Eu<|a.nm++b.nm)&&Io (EI (a.nm++b.nm)++AH s.hp)&&WG (EI (a.nm++b.nm)++AH s.hp) (a.fz++b.fz)&&(Adi (a.nm++b.nm) (a.sh++b.sh)&&Adu s.us st.us))
  then C (a.x,b.x)else D
 |_,_=>D
def Fp(G:Sig):List (Ex×Spec)->Type
 |[]=>Empty
 |[p]=>p.2.T G
 |p::q::t=>Sum (p.2.T G)<|Fp G<|q::t
def IA:(E:List<|Ex×Spec)->Ex->St G->Option (Fp G E)
 |[],_,_=>D
 |[p],e,st=>bif YO e p.1 then p.2.take st else D
 |p::q::t,e,st=>match bif YO e p.1 then p.2.take st else D with
  |some x=>C<|.inl x
  |none=>match IA (q::t) e st with|some y=>C (.inr y)|none=>D
def Hm{R:Type}:(E:List<|Ex×Spec)->Fp G E->(Ex×St G->Option R)->Option R
 |[],y,_=>y.elim
 |[p],y,k=>k (p.1,p.2.mk' y)
 |p::q::t,y,k=>match y with
  |.inl x=>k (p.1,p.2.mk' x)
  |.inr y=>Hm (q::t) y k
def Amy(E:List<|Ex×Spec)(m:M<|Ex×St G):M<|Ex×St G:=λ_ k=>(m _ λp=>IA E p.1 p.2).bind λy=>Hm E y k
def Agx:Option (List<|Ex×Spec)->M (Ex×St G)->M (Ex×St G)
 |none,m=>m
 |some E,m=>Amy E m
def Aok(S:Spec)(E:List<|Ex×Spec)(e:Ex)(st:St G):Option<|Sum (S.T G)<|Fp G E:=match e with
 |.normal=>match S.take st with|some x=>C (.inl x)|none=>D
 |e=>match IA E e st with|some y=>C (.inr y)|none=>D
def Rt(S:Spec)(E:List<|Ex×Spec)(a:St G->M (Ex×St G))(x:S.T G):Option<|Sum (S.T G)<|Fp G E:=a (S.mk' x) _ λp=>Aok S E p.1 p.2
class Un (X F:Type) (R:outParam Type) where
 u:F->X->R
instance(priority:=low) un_leaf{X R:Type}:Un X (X->R) R:=⟨λf x=>f x⟩
instance un_unit{R:Type}:Un Unit R R:=⟨λf _=>f⟩
instance un_pair{X Y R F K:Type}[Un X F K][Un Y K R]:Un (X×Y) F R:=⟨λf x=>Un.u (Un.u f x.1:K) x.2⟩
class Ur (F:Type) (X Y:outParam Type)
instance ur0{X Y:Type}:Ur (Option (Sum X Y)) X Y:=⟨⟩
instance ur1{A F X Y:Type}[Ur F X Y]:Ur (A->F) X Y:=⟨⟩
def QX{X Y:Type}(g:X->Option Y):Option (Sum X Y)->Option Y
 |some (.inl x)=>g x
 |some (.inr y)=>C y
 |none=>D
def BM{X Y:Type}(step:X->Option (Sum X Y)):Nat->X->Option Y
 |0,_=>D
 |f+1,x=>QX (BM step f)<|step x
def lpX(S:Spec)(E:List<|Ex×Spec)(L:S.T G->Option (Fp G E))(st:St G):M<|Ex×St G:=λ_ k=>
 match S.take st with
 |some x=>(L x).bind λy=>Hm E y k
 |none=>D
end Go.Ab
namespace Go.Ab
variable{G:Sig}
def GK:Code->Nat
 |.seq a b=>GK a+GK b
 |.cond _ a b=>GK a+GK b
 |.block _ a=>GK a
 |.loop a=>GK a+1
 |_=>0
def Agy{α:Type}(l:List<|Nat×α):List Nat->List (Nat×α)
 |[]=>l
 |n::t=>Agy (del l n) t
def St.kill(st:St G)(ks:List Nat):St G:={ st with tm:=Agy st.tm ks }
def Aea(tm:List<|Nat×Sv G.T)(t:Nat):M<|Bool×Option (Nat×Bool):=λ_ k=>
 match get tm t with
 |some (.p<|.one<|.sc<|.bool b)=>bif b then k (H,C (t,H))else k (I,C (t,I))
 |_=>D
def Ak8:Value->M (Bool×Option (Nat×Bool))
 |.bool b=>M.ret (b,D)
 |_=>M.fail
def WE(tm:List<|Nat×Sv G.T):Operand->M (Bool×Option (Nat×Bool))
 |.tmp t=>Aea tm t
 |.const v=>Ak8 v
 |_=>M.fail
section
variable(cf:Dc G)(nt:Nat)(drawn:Array Oper->St G->M (St G))(lp:Nat->St G->M (Ex×St G))(kl:Nat->List Nat)(jn:Nat->Option (List (Ex×Spec)))
def Aua:Code->Nat
 |.seq a _=>Aua a
 |.block _ a=>Aua a
 |.region id _ _=>id+1
 |_=>0
def Bd3:Nat:=1048576
def Bmp:Nat:=2097152
def Aus(id:Nat)(f:St G->M (Ex×St G))(st:St G):M<|Ex×St G:=M.bind (Agx (jn<|Bmp+id)<|M.ret (.normal,st)) λp=>match p.1 with
 |.normal=>f p.2
 |_=>M.fail
def CZ:Nat->Code->St G->M (Ex×St G)
 |_,.skip,st=>M.ret (.normal,st)
 |_,.ret,st=>M.ret (.ret,st)
 |_,.exit id,st=>M.ret (.exit id,st)
 |n,.seq a b,st=>M.bind (Agx (jn<|Aua b)<|CZ n a st) λp=>match p.1 with
  |.normal=>CZ (n+GK a) b p.2
  |e=>M.ret (e,p.2)
 |n,.cond c a b,st=>M.bind (WE st.tm c) λp=>match p.1 with
  |true=>CZ n a<|st.note p.2
  |false=>CZ (n+GK a) b<|st.note p.2
 |n,.block id a,st=>M.bind (CZ n a st) λp=>match p.1 with
  |.exit i=>M.ret (bif J i id then .normal else .exit i,p.2)
  |e=>M.ret (e,p.2)
 |n,.loop _,st=>lp n st
 |_,.region id ops I,st=>Aus jn id (λst=>Agx (jn<|Bd3+id) (M.bind (TN cf nt ops ops.toList st) λst=>M.ret (.normal,st.kill<|kl id))) st
 |_,.region id ops H,st=>Aus jn id (λst=>Agx (jn<|Bd3+id) (M.bind (drawn ops st) λst=>M.ret (.normal,st.kill<|kl id))) st
 |_,_,_=>M.fail
end
def IH{α:Type}:Nat->List α->List (Nat×α)
 |_,[]=>[]
 |n,x::t=>(n,x)::IH (n+1) t
def UN(st:St G):ResultVar->Option (Pv G.T)
 |.tmp t=>match get st.tm t with|some (.p x)=>C x|_=>D
 |.cell a t=>match get st.tm a with
  |some (.p<|.one c)=>match Im (get st.hp) (G.sz t) c with|some cs=>RK G t cs|none=>D
  |_=>D
def Jp(st:St G):List ResultVar->Option (List<|Pv G.T)
 |[]=>C []
 |r::t=>match UN st r,Jp st t with|some x,C l=>C (x::l)|_,_=>D
def RN(st:St G)(rs:List ResultVar):Option<|Sv G.T:=match Jp st rs with
 |some [x]=>C<|.p x
 |some l=>C<|.tup l
 |none=>D
end Go.Ab
namespace Go.Ab
def F2{α β:Type}(R:α->β->Prop)(xs:List α)(a:List β):Prop:=xs.length=a.length/\∀(i:Nat) x y,xs[i]?=C x->a[i]?=C y->R x y
def F2.nil{α β:Type}{R:α->β->Prop}:F2 R [] []:=⟨rfl,λi x y h=>by simp at h⟩
def F2.cons{α β:Type}{R:α->β->Prop}{x:α}{y:β}{xs:List α}{f:List β}(h:R x y)(t:F2 R xs f):F2 R (x::xs)<|y::f:=by
 refine⟨by simp[t.1],λi a b d e=>?_⟩;cases i with
 |zero=>simp at d e;subst d;subst e;exact h
 |succ i=>simp at d e;exact t.2 i a b d e
def F2.tail{α β:Type}{R:α->β->Prop}{x:α}{y:β}{xs:List α}{d:List β}(h:F2 R (x::xs)<|y::d):R x y/\F2 R xs d:=⟨h.2 0 x y rfl rfl,by have:=h.1;simp at this;exact this,λi a b e f=>h.2 (i+1) a b (by simp[e]) (by simp[f])⟩
def F2.inv{α β:Type}{R:α->β->Prop}{x:α}{xs:List α}{a:List β}(h:F2 R (x::xs) a):∃y t,a=y::t/\R x y/\F2 R xs t:=by
 cases a with
 |nil=>exact absurd h.1 σ
 |cons y t=>exact⟨y,t,rfl,h.tail⟩
def F2.inv_nil{α β:Type}{R:α->β->Prop}{a:List β}(h:F2 R [] a):a=[]:=by
 cases a with
 |nil=>rfl
 |cons y t=>exact absurd h.1 σ
def F2.mono{α β:Type}{R a:α->β->Prop}{xs:List α}{d:List β}(h:F2 R xs d)(hr:∀x y,R x y->a x y):F2 a xs d:=⟨h.1,λi x y e f=>hr _ _<|h.2 i x y e f⟩
def F2.append{α β:Type}{R:α->β->Prop}{xs e:List α}{g d:List β}(h:F2 R xs g)(h':F2 R e d):F2 R (xs++e)<|g++d:=by
 refine⟨by simp[h.1,h'.1],λi x y a f=>?_⟩;rw[g6_]at a f;rw[h.1]at a;by_cases j:i<g.length
 .simp only[j,if_true]at a f;exact h.2 i x y a f
 .simp only[j,g3_]at a f;exact h'.2 _ x y a f
def F2.map_left{α β γ:Type}{R:α->β->Prop}{f:γ->α}{xs:List γ}{e:List β}(h:F2 (λc v=>R (f c) v) xs e):F2 R (xs.map f) e:=by
 refine⟨by simp[h.1],λi x y a g=>?_⟩;rw[b3_]at a;cases d:xs[i]? with
 |none=>simp[d]at a
 |some c=>simp[d]at a;subst a;exact h.2 i c y d g
def F2.get{α β:Type}{R:α->β->Prop}{xs:List α}{a:List β}(h:F2 R xs a){i:Nat}{x:α}(d:xs[i]?=C x):∃y,a[i]?=C y/\R x y:=by
 have e:i<a.length:=by rw[<-h.1];exact(e_.1 d).1
 exact⟨a[i],h_ e,h.2 i x _ d<|h_ e⟩
def AQ{k n:Nat}:J k n=H↔k=n:=Nat.beq_eq▸Iff.rfl
def Bs{α:Sort _}(k n:Nat)(a b:α):(bif J k n then a else b)=if k=n then a else b:=by
 by_cases h:k=n
 .rw[if_pos h,AQ.2 h];rfl
 .rw[if_neg h];cases d:J k n with
  |false=>rfl
  |true=>exact absurd (AQ.1 d) h
def VS{α:Type}(l:List<|Nat×α)(n m:Nat):get (del l n) m=if n=m then D else get l m:=by
 induction l with
 |nil=>simp[del,get]
 |cons p t e=>
  obtain⟨k,v⟩:=p;simp only[del,get,Bs];by_cases a:k=n
  .subst a;rw[if_pos rfl,e];by_cases h:k=m<;>simp[h]
  .rw[if_neg a];simp only[get,Bs,e];by_cases d:k=m
   .subst d;simp[a7_ a]
   .simp[d]
def SI{α:Type}(l:List<|Nat×α)(n m:Nat)(x:α):get (put l n x) m=if n=m then C x else get l m:=by simp only[put,get,Bs,VS];by_cases h:n=m<;>simp[h]
def Hp(l:List Nat)(n:Nat):has l n=H↔n∈l:=by
 induction l with
 |nil=>simp[has]
 |cons k t a=>
  simp only[has,Bs,A_];by_cases h:k=n
  .simp[h]
  .simp[h,a,a7_ h]
def AX:Value->Option Nat
 |.pointer (C a)=>C a.block
 |.slice (C a) _ _=>C a.block
 |_=>D
variable{G:Sig}
variable{ν:Nat->Option Value}{v:Value}{S:Nat->Prop}{h:Array Obj}{c:Cv G.T}
inductive Rd(G:Sig)(S:Nat->Prop)(h:Array Obj):Cv G.T->Value->Prop
 |sc (v:Value) (hv:Kg v=true):Rd G S h (.sc v) v
 |nil (t:Nat) (a:Option Addr) (cap:Nat):Rd G S h (.ro t []) (.slice a 0 cap)
 |ro (t:Nat) (l:List (G.T t)) (b off cap:Nat) (c:Array Value) (te:TypeId) (fz:Nat×Nat) (vs:Nat->Nat->Value)
   (hS:S b) (hb:h[b]?=some (.cells c te fz)) (ht:te=t\/G.loose t=true) (hcap:l.length<=cap)
   (hc:∀i j,i<l.length->j<G.sz t->c[off+i*G.sz t+j]?=some (vs i j))
   (hr:∀(i j:Nat) (x:G.T t) (cv:Cv G.T),l[i]?=some x->(G.enc t x)[j]?=some cv->Rd G S h cv (vs i j)) :
   Rd G S h (.ro t l) (.slice (some ⟨b,off,none⟩) l.length cap)
 |rp (t:Nat) (x:G.T t) (off b base:Nat) (c:Array Value) (te:TypeId) (fz:Nat×Nat) (vs:Nat->Value)
   (hS:S b) (hb:h[b]?=some (.cells c te fz))
   (hc:∀j,j<G.sz t->c[base+j]?=some (vs j))
   (hr:∀(j:Nat) (cv:Cv G.T),(G.enc t x)[j]?=some cv->Rd G S h cv (vs j)) :
   Rd G S h (.rp t x off) (.pointer (some ⟨b,base+off,none⟩))
def RPtr(ν:Nat->Option Value)(p:Nat×Nat)(v:Value):Prop:=∃b,ν p.1=C (.pointer<|C ⟨b,0,D⟩)/\v=.pointer (C ⟨b,p.2,D⟩)
def Rc(G:Sig)(ν:Nat->Option Value)(S:Nat->Prop)(h:Array Obj):Cv G.T->Value->Prop
 |.ptr n off,v=>RPtr ν (n,off) v
 |.pd n off s len i,v=>i<len/\RPtr ν (n,off+i*s) v
 |.pr n t i off,v=>∃b len d,ν n=C (.slice (C ⟨b,0,D⟩) len d)/\i<len/\v=.pointer (C ⟨b,i*G.sz t+off,D⟩)
 |.own n,v=>∃a len d,ν n=C v/\v=.slice a len d
 |.clo f p q,v=>∃e g:List Value,v=.func (.func f) e.toArray g.toArray/\F2 (RPtr ν) p e/\F2 (RPtr ν) q g
 |.np n _,v=>v=.pointer D\/RPtr ν (n,0) v
 |.sa n off len,v=>∃b,ν n=C (.pointer<|C ⟨b,0,D⟩)/\v=.slice (C ⟨b,off,D⟩) len len
 |c,v=>Rd G S h c v
inductive Rp(G:Sig)(ν:Nat->Option Value)(S:Nat->Prop)(h:Array Obj):Pv G.T->Value->Prop
 |one (c:Cv G.T) (v:Value) (hc:Rc G ν S h c v):Rp G ν S h (.one c) v
 |agg (cs:List (Cv G.T)) (vs:List Value) (hc:F2 (Rc G ν S h) cs vs):Rp G ν S h (.agg cs) (.agg vs.toArray)
inductive Rs(G:Sig)(ν:Nat->Option Value)(S:Nat->Prop)(h:Array Obj):Sv G.T->Value->Prop
 |p (x:Pv G.T) (v:Value) (hc:Rp G ν S h x v):Rs G ν S h (.p x) v
 |tup (xs:List (Pv G.T)) (vs:List Value) (hc:F2 (Rp G ν S h) xs vs):Rs G ν S h (.tup xs) (.tuple vs.toArray)
def Bh4(G:Sig)(S:Nat->Prop)(h:Array Obj)(t:Nat)(l:List<|G.T t)(c:Array Value):Prop:=∀(i j:Nat) (x:G.T t) (a:Cv G.T),l[i]?=C x->(G.enc t x)[j]?=C a->∃v,c[i*G.sz t+j]?=C v/\Rd G S h a v
def Rb(G:Sig)(ν:Nat->Option Value)(S:Nat->Prop)(h:Array Obj)(n:Nat):Blk G.T->Prop
 |.cells cs=>∃b c te,ν n=C (.pointer<|C ⟨b,0,D⟩)/\h[b]?=C (.cells c te (0,0))/\F2 (Rc G ν S h) cs c.toList/\∀m t,Cv.np m t∈cs->m=n/\te=t
 |.row t l=>(ν n=C (.slice D 0 0)/\l=[])\/
   ∃b a c te,ν n=C (.slice (C ⟨b,0,D⟩) l.length a)/\h[b]?=C (.cells c te (0,0))/\l.length<=a/\c.size=a*G.sz t/\Bh4 G S h t l c/\te=t/\a<=maxLen
def Rd.mono{S':Nat->Prop}{h':Array Obj}(i:∀b,S b->S' b)(hh:∀b,S b->h'[b]?=h[b]?)(r:Rd G S h c v):Rd G S' h' c v:=by
 induction r with
 |sc v q=>exact .sc v q
 |nil t a d=>exact .nil t a d
 |ro t l b off d c te fz vs h1 g j f m _ e=>exact .ro t l b off d c te fz vs (i b h1) ((hh b h1).trans g) j f m e
 |rp t x off b base c te fz vs h1 g f _ e=>exact .rp t x off b base c te fz vs (i b h1) ((hh b h1).trans g) f e
structure Le(ν ν':Nat->Option Value)(S S':Nat->Prop)(h h':Array Obj):Prop where
 nu:∀n x,ν n=some x->ν' n=some x
 st:∀b,S b->S' b
 hp:∀b,S b->h'[b]?=h[b]?
def Le.refl:Le ν ν S S h h:=⟨λ_ _ h=>h,λ_ h=>h,λ_ _=>rfl⟩
section
variable{ν ν':Nat->Option Value}{S S':Nat->Prop}{h h':Array Obj}
def RPtr.mono(d:∀n x,ν n=C x->ν' n=C x){p:Nat×Nat}(r:RPtr ν p v):RPtr ν' p v:=
 let⟨b,h1,a⟩:=r
 ⟨b,d _ _ h1,a⟩
def Rc.mono(d:Le ν ν' S S' h h')(r:Rc G ν S h c v):Rc G ν' S' h' c v:=by
 cases c with
 |ptr n off=>exact RPtr.mono d.nu r
 |pd n off s len i=>exact⟨r.1,RPtr.mono d.nu r.2⟩
 |pr n t i off=>obtain⟨b,len,e,h1,g,j⟩:=r;exact⟨b,len,e,d.nu _ _ h1,g,j⟩
 |own n=>obtain⟨a,len,e,h1,g⟩:=r;exact⟨a,len,e,d.nu _ _ h1,g⟩
 |clo f p q=>obtain⟨m,u,h1,g,j⟩:=r;exact⟨m,u,h1,g.mono λ_ _=>RPtr.mono d.nu,j.mono λ_ _=>RPtr.mono d.nu⟩
 |np n t=>exact r.imp (λh=>h)<|RPtr.mono d.nu
 |sa n off len=>obtain⟨b,h1,g⟩:=r;exact⟨b,d.nu _ _ h1,g⟩
 |sc v=>exact Rd.mono d.st d.hp r
 |ro t l=>exact Rd.mono d.st d.hp r
 |rp t x off=>exact Rd.mono d.st d.hp r
def Rp.mono(d:Le ν ν' S S' h h'){c:Pv G.T}(r:Rp G ν S h c v):Rp G ν' S' h' c v:=by
 cases r with
 |one c v a=>exact .one c v<|a.mono d
 |agg cs vs a=>exact .agg cs vs (a.mono λ_ _=>Rc.mono d)
def Rs.mono(d:Le ν ν' S S' h h'){c:Sv G.T}(r:Rs G ν S h c v):Rs G ν' S' h' c v:=by
 cases r with
 |p x v a=>exact .p x v<|a.mono d
 |tup xs vs a=>exact .tup xs vs (a.mono λ_ _=>Rp.mono d)
def Rb.mono(a:Le ν ν' S S' h h'){n:Nat}(m:∀x b,ν n=C x->AX x=C b->h'[b]?=h[b]?){k:Blk G.T}(r:Rb G ν S h n k):Rb G ν' S' h' n k:=by
 cases k with
 |cells cs=>obtain⟨b,c,te,h1,d,e⟩:=r;exact⟨b,c,te,a.nu _ _ h1,(m _ b h1 rfl).trans d,e.1.mono λ_ _=>Rc.mono a,e.2⟩
 |row t l=>
  rcases r with⟨h1,d⟩|⟨b,f,c,te,h1,d,e,z,g⟩
  .exact .inl ⟨a.nu _ _ h1,d⟩
  .refine .inr ⟨b,f,c,te,a.nu _ _ h1,(m _ b h1 rfl).trans d,e,z,λi j x u y q=>?_,g.2⟩;obtain⟨v,A,hr⟩:=g.1 i j x u y q;exact⟨v,A,hr.mono a.st a.hp⟩
end
def GlOK(G:Sig)(S:Nat->Prop)(h:Array Obj):Prop:=∀g p,G.gl g=C p->Rd G S h (.rp p.1 p.2 0) (.pointer<|C ⟨g,0,D⟩)/\∃c te fz,h[g]?=C (.cells c te fz)/\c.size=G.sz p.1
def Bsv{t g o off:Nat}{x:G.T t}(r:Rd G S h (.rp t x off)<|.pointer<|C ⟨g,o,D⟩):S g:=by cases r;assumption
def GlOK.mono{S':Nat->Prop}{h':Array Obj}(g:GlOK G S h)(a:∀b,S b->S' b)(hh:∀b,S b->h'[b]?=h[b]?):GlOK G S' h':=λn p hp=>
 let⟨r,c,te,fz,h1,d⟩:=g n p hp
 ⟨r.mono a hh,c,te,fz,(hh n<|Bsv r).trans h1,d⟩
structure HRel(G:Sig)(ν:Nat->Option Value)(S B:Nat->Prop)(hp:Nat->Option (Blk G.T))(w:World):Prop where
 blk:∀n k,hp n=some k->Rb G ν S w.heap n k
 apart:∀n m x y b,hp n≠none->hp m≠none->ν n=some x->ν m=some y->AX x=some b->AX y=some b->n=m
 own:∀n x b,hp n≠none->ν n=some x->AX x=some b->¬S b/\B b
 stay:∀b,S b->b<w.heap.size
 gl:GlOK G S w.heap
structure Post(G:Sig)(ν:Nat->Option Value)(S B:Nat->Prop)(hp:Nat->Option (Blk G.T))(w:World)(out:Out G)
  (hp':Nat->Option (Blk G.T)) (ν':Nat->Option Value) (S':Nat->Prop) (w':World) (v:Value):Prop where
 nu:∀n x,ν n=some x->ν' n=some x
 new:∀n,ν' n≠none->ν n≠none\/n∈out.nw
 st:∀b,S b->S' b
 stn:∀b,S' b->S b\/B b
 rel:HRel G ν' S' B hp' w'
 val:∀s,out.v=some s->Rs G ν' S' w'.heap s v
 size:w.heap.size<=w'.heap.size
 frame:∀b,b<w.heap.size->(∀n x,hp n≠none->ν n=some x->AX x≠some b)->w'.heap[b]?=w.heap[b]?
 env:w'.os=w.os/\w'.tape=w.tape/\w'.output=w.output
def Post.le{B:Nat->Prop}{hp:Nat->Option (Blk G.T)}{w:World}{out:Out G}
  {a:Nat->Option (Blk G.T)}{ν':Nat->Option Value}{S':Nat->Prop}{w':World}{v:Value}(hr:HRel G ν S B hp w)
  (p:Post G ν S B hp w out a ν' S' w' v):Le ν ν' S S' w.heap w'.heap:=
 ⟨p.nu,p.st,λb d=>p.frame b (hr.stay b d) λn x g f e=>(hr.own n x b g f e).1 d⟩
end Go.Ab
namespace Go.Ab
variable{G:Sig}
variable{ν:Nat->Option Value}{t:Nat}{P:Program}{S:Nat->Prop}{h:Array Obj}{c:Cv G.T}{v:Value}
def Bda (P : Program) (g : Nat) (e : Array Value -> Sem Value) : Prop := ∃ fn, P.funcs[g]? = C fn /\ (fn.name == "runtime.NumGoroutine") = I /\ fn.body.isNone = H /\ Extern.findNext fn = D /\ Extern.find fn = C e
def Ba8:Nat->Array Value->Sem Value
 |1=>Extern.MathFloatBits.float64bits
 |_=>Extern.MathFloatBits.float64frombits
def Asj(P:Program)(ext:Nat->Nat):Prop:=∀g,ext g≠0->Bda P g (Ba8<|ext g)
structure SigOK(P:Program)(G:Sig):Prop where
 bool:∀t,G.ty t=.bool->P.underlying t=some .bool
 int:∀t k,G.ty t=.int k->P.underlying t=some (.int k)
 flt:∀t k,G.ty t=.flt k->P.underlying t=some (.float k)
 str:∀t,G.ty t=.str->P.underlying t=some .string
 sl:∀t e,G.ty t=.sl e->P.underlying t=some (.slice e)/\G.ty e≠ .no/\(∃i,P.info? e=some i/\i.bytes<=4096)/\∀x,(G.enc e x).length=G.sz e
 pt:∀t e,G.ty t=.pt e->P.underlying t=some (.pointer e)
 fn:∀t,G.ty t=.fn->∃a b c,P.underlying t=some (.func a b c)
 strc:∀t fs,G.ty t=.st fs->∃fields,P.underlying t=some (.struct fields)/\fields.toList.map (λf=>(f.offset,f.type))=fs/\∀o u,(o,u)∈fs->G.ty u≠ .no
 arr:∀t n e,G.ty t=.arr n e->P.underlying t=some (.array n e)/\G.ty e≠ .no
 info:∀t,G.ty t≠ .no->∃i z,P.info? t=some i/\i.size=G.sz t/\i.zero=some z/\z.cells.toList=G.zero t
 pos:∀t,G.ty t≠ .no->0<G.sz t
 nosz:∀t,G.ty t=.no->G.sz t=0
 zsc:∀t v,v∈G.zero t->Kg v=true
 zlen:∀t,(G.zero t).length=G.sz t
 encl:∀t x,(G.enc t x).length<=G.sz t
 encdec:∀t cs x,G.dec t cs=some x->G.enc t x=cs
 encd:∀t x c,c∈G.enc t x->(∃v,c=.sc v)\/(∃t' l,c=.ro t' l)
 flatd:∀t x c,G.flat t=true->c∈G.enc t x->∃v,c=.sc v
 u8d:∀t x y,(G.enc t x).map u8C=(G.enc t y).map u8C
 rod:∀t x y,(G.enc t x).map roC=(G.enc t y).map roC
 ext:Asj P G.ext
section
variable{P:Program}(ok:SigOK P G)(w:World)
include ok
theorem SigOK.isAgg(h:G.ty t≠ .no):(Go.isAgg t).run P w=.ok (G.ty t).isAgg w:=by
 have f:∀d,P.underlying t=C d->(Go.isAgg t).run P w=.ok (match d with|.struct _|.array _ _=>H|_=>I) w:=by intro d i;unfold Go.isAgg;rw[K_,M_ i w];cases d<;>rfl
 cases g:G.ty t with
 |no=>exact absurd g h
 |bool=>rw[f _<|ok.bool t g];rfl
 |int k=>rw[f _<|ok.int t k g];rfl
 |flt k=>rw[f _<|ok.flt t k g];rfl
 |str=>rw[f _<|ok.str t g];rfl
 |sl e=>rw[f _ (ok.sl t e g).1];rfl
 |pt e=>rw[f _<|ok.pt t e g];rfl
 |fn=>obtain⟨a,b,c,i⟩:=ok.fn t g;rw[f _ i];rfl
 |st j=>obtain⟨a,i,_⟩:=ok.strc t j g;rw[f _ i];rfl
 |arr n e=>rw[f _ (ok.arr t n e g).1];rfl
theorem SigOK.sizeOf(h:G.ty t≠ .no):(Go.sizeOf t).run P w=.ok (G.sz t) w:=by obtain⟨i,z,h1,a,_⟩:=ok.info t h;simp[Go.sizeOf,typeInfo,h1,a]
theorem SigOK.zeroV(h:G.ty t≠ .no):∃z,(zeroValue t).run P w=.ok z w/\z.cells.toList=G.zero t:=by obtain⟨i,z,h1,e,a,d⟩:=ok.info t h;exact⟨z,by simp[zeroValue,typeInfo,h1,a],d⟩
end
def XK{α:Type}:∀(n:Nat) (l m:List α),MJ n l=C m->m.length=n/\n<=l.length/\∀j,j<n->m[j]?=l[j]?
 |0,l,m,h=>by simp[MJ]at h;subst h;simp
 |n+1,[],m,h=>by simp[MJ]at h
 |n+1,x::t,m,h=>by
  simp only[MJ]at h;split at h
  .rename_i l d;obtain⟨h1,e,a⟩:=XK n t l d;simp at h;subst h;refine⟨by simp[h1],by simp;omega,λj f=>?_⟩;cases j with
   |zero=>simp
   |succ j=>simp;exact a j ω
  .simp at h
def WJ{α:Type}:∀(n:Nat) (l m:List α),NL n l=C m->n+m.length=l.length/\∀j,m[j]?=l[n+j]?
 |0,l,m,h=>by simp[NL]at h;subst h;simp
 |n+1,[],m,h=>by simp[NL]at h
 |n+1,x::t,m,h=>by simp only[NL]at h;obtain⟨h1,a⟩:=WJ n t m h;refine⟨by simp;omega,λj=>?_⟩;rw[a j,show n+1+j=(n+j)+1 by omega];simp
def Ol{α:Type}{l m:List α}{off n:Nat}(h:part l off n=C m):m.length=n/\off+n<=l.length/\∀j,j<n->m[j]?=l[off+j]?:=by
 unfold part at h;split at h
 .rename_i k e;obtain⟨h1,g⟩:=WJ _ _ _ e;obtain⟨f,i,a⟩:=XK _ _ _ h;exact⟨f,ω,λj d=>(a j d).trans<|g j⟩
 .simp at h
def Jv{α:Type}:∀(l:List α) (off:Nat) (new m:List α),Kk l off new=C m->
  m.length=l.length/\off+new.length<=l.length/\∀j,m[j]?=if off<=j/\j<off+new.length then new[j-off]? else l[j]?
 |cs,0,[],m,h=>by simp[Kk]at h;subst h;refine⟨rfl,σ,λj=>?_⟩;simp
 |[],0,_::_,m,h=>by simp[Kk]at h
 |_::t,0,x::new,m,h=>by
  simp only[Kk]at h;split at h
  .rename_i l d;obtain⟨h1,e,a⟩:=Jv t 0 new l d;simp at h;subst h;refine⟨by simp[h1],by simp at e|-;omega,λj=>?_⟩;cases j with
   |zero=>simp
   |succ j=>simp only[List.getElem?_cons_succ];rw[a j];simp
  .simp at h
 |[],_+1,_,m,h=>by simp[Kk]at h
 |c::t,n+1,new,m,h=>by
  simp only[Kk]at h;split at h
  .rename_i l d;obtain⟨h1,e,a⟩:=Jv t n new l d;simp at h;subst h;refine⟨by simp[h1],by simp;omega,λj=>?_⟩;cases j with
   |zero=>simp
   |succ j=>simp only[List.getElem?_cons_succ];rw[a j,show j+1-(n+1)=j-n by omega];congr 1;simp;omega
  .simp at h
def CX{α β:Type}{f:α->Option β}:∀(l:List α) (m:List β),DT f l=C m->m.length=l.length/\∀(j:Nat) (x:α),l[j]?=C x->∃y,m[j]?=C y/\f x=C y
 |[],m,h=>by simp[DT]at h;subst h;simp
 |a::t,m,h=>by
  simp only[DT]at h;split at h
  .rename_i b l q e;obtain⟨h1,g⟩:=CX t l e;simp at h;subst h;refine⟨by simp[h1],λj x d=>?_⟩;cases j with
   |zero=>simp at d;subst d;exact⟨b,rfl,q⟩
   |succ j=>simp at d;obtain⟨y,u,i⟩:=g j x d;exact⟨y,by simp[u],i⟩
  .simp at h
def Wj(n:Nat):Qp n=List.range n:=by
 induction n with
 |zero=>rfl
 |succ n a=>rw[Qp,a,List.range_succ]
def Ho{a b:IntKind}(h:ER a b=H):a=b:=by cases a<;>cases b<;>simp_all[ER]
def Ag4{a b:FloatKind}(h:OZ a b=H):a=b:=by cases a<;>cases b<;>simp_all[OZ]
def Aa9{T:Nat->Type}{k:IntKind}:∀(l:List<|Cv T) (ns:List Int),Tg k l=C ns->l=ns.map λn=>.sc<|.int k n
 |[],ns,h=>by simp[Tg]at h;subst h;rfl
 |c::t,ns,h=>by
  cases c with
  |sc v=>
   cases v with
   |int k' n=>
    simp only[Tg]at h;cases a:ER k k' with
    |false=>simp[a]at h
    |true=>
     have e:=Ho a;subst e;simp only[a,i_]at h;split at h
     .rename_i l d;simp at h;subst h;rw[Aa9 t l d];rfl
     .simp at h
   |_=>simp[Tg]at h
  |_=>simp[Tg]at h
def Yo{T:Nat->Type}:∀(l:List<|Cv T) (ns:List Bool),PW l=C ns->l=ns.map λn=>.sc<|.bool n
 |[],ns,h=>by simp[PW]at h;subst h;rfl
 |c::t,ns,h=>by
  cases c with
  |sc v=>
   cases v with
   |bool n=>
    simp only[PW]at h;split at h
    .rename_i l a;simp at h;subst h;rw[Yo t l a];rfl
    .simp at h
   |_=>simp[PW]at h
  |_=>simp[PW]at h
def Aba{T:Nat->Type}:∀(l:List<|Cv T) (ns:List ByteArray),Ti l=C ns->l=ns.map λn=>.sc<|.string n
 |[],ns,h=>by simp[Ti]at h;subst h;rfl
 |c::t,ns,h=>by
  cases c with
  |sc v=>
   cases v with
   |string n=>
    simp only[Ti]at h;split at h
    .rename_i l a;simp at h;subst h;rw[Aba t l a];rfl
    .simp at h
   |_=>simp[Ti]at h
  |_=>simp[Ti]at h
def XF{T:Nat->Type}{l:List<|Cv T}{i:Nat}{c:Cv T}(h:Afp l i=C c)(d:i<l.length):l[i]?=C c:=by
 unfold Afp at h;split at h
 .split at h
  .rename_i ns a;have e:=Aa9 _ _ a;rw[e]at d|-;simp at h d;subst h;simp[d]
  .simp at h
 .split at h
  .rename_i ns a;have e:=Yo _ _ a;rw[e]at d|-;simp at h d;subst h;simp[d]
  .simp at h
 .split at h
  .rename_i ns a;have e:=Aba _ _ a;rw[e]at d|-;simp at h d;subst h;simp[d]
  .simp at h
 .exact h
def Ae0{T:Nat->Type}{b:Bool}{c d e:Cv T}(h:Ald b c d=C e):e=if b then c else d:=by
 unfold Ald at h;split at h
 .rename_i k x k' y;cases a:ER k k' with
  |false=>simp[a]at h
  |true=>have e:=Ho a;subst e;simp[a]at h;subst h;cases b<;>rfl
 .simp at h;subst h;cases b<;>rfl
 .simp at h;subst h;cases b<;>rfl
 .cases b<;>simp at h<;>simp[h]
def Hz(b off n:Nat):(⟨b,off,D⟩:Addr).add n=⟨b,off+n,D⟩:=by unfold Addr.add;split<;>simp_all
def Ahw(ok:SigOK P G){x:G.T t}(a:c∈G.enc t x)
  (r:Rd G S h c v):Rc G ν S h c v:=by
 rcases ok.encd t x c a with⟨u,rfl⟩|⟨d,l,rfl⟩<;>exact r
def Aoq(ok:SigOK P G){x:G.T t}(a:c∈G.enc t x)
  (r:Rc G ν S h c v):Rd G S h c v:=by
 rcases ok.encd t x c a with⟨u,rfl⟩|⟨d,l,rfl⟩<;>exact r
def Ae7(ok:SigOK P G){B:Nat->Prop}{hp:Nat->Option (Blk G.T)}{w:World}(hr:HRel G ν S B hp w)
  {n:Nat}{c:Cv G.T}{cs:List<|Cv G.T}(h:Im hp n c=C cs) {v:Value}(hv:Rc G ν S w.heap c v) :
  ∃(b off:Nat) (vs:List Value),v=.pointer (C ⟨b,off,D⟩)/\F2 (Rc G ν S w.heap) cs vs/\vs.length=n/\∀(j:Nat) x,vs[j]?=C x->w.cell? ⟨b,off+j,D⟩=C x:=by
 cases c with
 |ptr m off=>
  simp only[Im]at h;split at h
  .rename_i ds V;obtain⟨b,c,te,h1,N,Z,_⟩:=hr.blk m _ V;obtain⟨b',A,rfl⟩:=hv;simp only at A;rw[h1]at A;simp at A;subst A;obtain⟨p1,p2,X⟩:=Ol h;have F:ds.length=c.toList.length:=Z.1;refine⟨b,off,(c.toList.drop off).take n,rfl,⟨by simp at F|-;omega,λj x y e u=>?_⟩,by simp at F|-;omega,λj x g=>?_⟩
   .have a:j<n:=by have:=(e_.1 e).1;omega
    rw[X j a]at e;rw[B_ a,c1_]at u;exact Z.2 _ x y e u
   .have a:j<n:=by have:=(e_.1 g).1;simp at this;omega
    rw[B_ a,c1_]at g;rw[e3_ w b (off+j) c te (0,0) N];simpa using g
  .simp at h
 |pd m off s len i=>
  simp only[Im]at h;split at h
  .rename_i ds V;obtain⟨b,c,te,h1,N,Z,_⟩:=hr.blk m _ V;obtain⟨hi,b',A,rfl⟩:=hv;simp only at A;rw[h1]at A;simp at A;subst A;simp only[Wj]at h;obtain⟨m1,m2⟩:=CX _ _ h;have d:∀j,j<n->∃x y,cs[j]?=C x/\c.toList[off+i*s+j]?=C y/\Rc G ν S w.heap x y:=by
    intro j g;obtain⟨x,e,hf⟩:=m2 j j (by simp[g]);split at hf
    .rename_i l hl;obtain⟨l1,l2⟩:=CX _ _ hl;have h0:i<l.length:=by simp at l1;omega
     have Y:=XF hf h0;obtain⟨y,u,hq⟩:=l2 i i (by simp[hi]);rw[Y]at u;simp at u;subst u;obtain⟨z,hz,h6⟩:=Z.get hq;exact⟨x,z,e,hz,h6⟩
    .simp at hf
   refine⟨b,off+i*s,(List.range n).map (λj=>c.toList.getD (off+i*s+j) undef),rfl,⟨by simp[m1],λj x y e u=>?_⟩,σ,λj x g=>?_⟩
   .have a:j<n:=by have:=(e_.1 e).1;simp at m1;omega
    obtain⟨x',y',U,E,Q⟩:=d j a;rw[U]at e;simp at e;subst e;simp[a]at u;simp at E;rw[E]at u;simp at u;subst u;exact Q
   .have a:j<n:=by have:=(e_.1 g).1;simpa using this
    obtain⟨x',y',U,E,Q⟩:=d j a;simp at E;simp[a,E]at g;subst g;rw[e3_ w b (off+i*s+j) c te (0,0) N];exact E
  .simp at h
 |pr m t i off=>
  simp only[Im]at h;split at h
  .rename_i t' l V;rw[Bs]at h;by_cases ht:t=t'
   .subst ht;rw[if_pos rfl]at h;obtain⟨b,len,h9,A,hi,rfl⟩:=hv;rcases hr.blk m _ V with⟨h1,N⟩|⟨b',h7,c,te,h1,N,Z,h8,h5⟩
    .rw[h1]at A;simp at A
    .rw[h1]at A;simp at A;obtain⟨rfl,rfl,rfl⟩:=A;obtain⟨p1,p2,X⟩:=Ol h;have e:l[i]?=C (l.getD i<|G.dfl t):=by simp[hi]
     have d:∀j,j<n->∃x y,cs[j]?=C x/\c[i*G.sz t+off+j]?=C y/\Rc G ν S w.heap x y:=by intro j g;have W:off+j<(G.enc t<|l.getD i<|G.dfl t).length:=ω;have he:=h_ W;obtain⟨y,u,L⟩:=h5.1 i (off+j) _ _ e he;exact⟨_,y,(X j g).trans he,by rw[V_];exact u,Ahw ok (R_ W) L⟩
     refine⟨b',i*G.sz t+off,(List.range n).map (λj=>c.getD (i*G.sz t+off+j) undef),rfl,⟨by simp[p1],λj x y e u=>?_⟩,σ,λj x g=>?_⟩
     .have a:j<n:=by have:=(e_.1 e).1;omega
      obtain⟨x',y',U,E,Q⟩:=d j a;rw[U]at e;simp at e;subst e;simp[a,E]at u;subst u;exact Q
     .have a:j<n:=by have:=(e_.1 g).1;simpa using this
      obtain⟨x',y',U,E,Q⟩:=d j a;simp[a,E]at g;subst g;rw[e3_ w b' (i*G.sz t+off+j) c te (0,0) N];exact E
   .rw[if_neg ht]at h;simp at h
  .simp at h
 |rp t x off=>
  simp only[Im]at h;cases hv with
  |rp _ _ _ b base c te fz vs hS hb hc L=>
   obtain⟨p1,p2,X⟩:=Ol h;have hl:=ok.encl t x;refine⟨b,base+off,(List.range n).map (λj=>vs<|off+j),rfl,⟨by simp[p1],λj x' y e u=>?_⟩,σ,λj x' g=>?_⟩
   .have a:j<n:=by have:=(e_.1 e).1;omega
    simp[a]at u;subst u;have O:=(X j a).symm.trans e;exact Ahw ok (p_ O)<|L _ _ O
   .have a:j<n:=by have:=(e_.1 g).1;simpa using this
    simp[a]at g;subst g;rw[e3_ w b (base+off+j) c te fz hb,V_];exact hc (off+j) ω
 |sc v=>simp[Im]at h
 |own m=>simp[Im]at h
 |ro t l=>simp[Im]at h
 |clo f p q=>simp[Im]at h
 |np n t=>simp[Im]at h
 |sa n o l=>simp[Im]at h
end Go.Ab
namespace Go.Ab
variable{G:Sig}
variable{ν:Nat->Option Value}{S:Nat->Prop}{h:Array Obj}{v:Value}{x:Operand}{c:Cv G.T}{R α:Type}{b:Bool}{vs:List Value}{n:Nat}{r:R}{o:Option α}
def M.bind_spec{β:Type}{m:M α}{f:α->M β}{k:β->Option R}(h:M.bind m f R k=C r):m R (λa=>f a R k)=C r:=h
def M.need_spec{k:Unit->Option R}(h:M.need b R k=C r):b=H/\k ()=C r:=by
 cases b
 .simp[M.need]at h
 .exact⟨rfl,h⟩
def M.opt_spec{k:α->Option R}(h:M.opt o R k=C r):∃a,o=C a/\k a=C r:=by
 cases o with
 |none=>simp[M.opt]at h
 |some a=>exact⟨a,rfl,h⟩
def M.split_spec{k:Bool->Option R}(h:M.split b R k=C r):k b=C r:=by cases b<;>exact h
def M.pick_spec{α R:Type}{k:Nat->M α}{i:Nat}{κ:α->Option R}{r:R}:∀{n q:Nat},M.pick k i q n R κ=C r->q<=i/\i<q+n/\k i R κ=C r
 |0,q,h=>by simp[M.pick,M.fail]at h
 |n+1,q,h=>by
  unfold M.pick at h;have h1:=M.split_spec<|M.bind_spec h;cases a:J i q with
  |true=>
   rw[a]at h1;obtain rfl:i=q:=by simpa using a
   exact⟨t_ _,ω,h1⟩
  |false=>rw[a]at h1;obtain⟨e,f,d⟩:=M.pick_spec (n:=n) (q:=q+1) h1;exact⟨ω,ω,d⟩
def M.bindneed{β:Type}{f:Unit->M β}{k:β->Option R}(h:M.bind (M.need b) f R k=C r):b=H/\f () R k=C r:=M.need_spec h
def M.bindopt{β:Type}{f:α->M β}{k:β->Option R}(h:M.bind (M.opt o) f R k=C r):∃a,o=C a/\f a R k=C r:=M.opt_spec h
section
variable{ev:Operand->Option (Sv G.T)}{R β:Type}{r:R}{k:β->Option R}
def Sc{f:Pv G.T->M β}(h:M.bind (evP ev x) f R k=C r):∃y,ev x=C (.p y)/\f y R k=C r:=by
 unfold M.bind evP at h;split at h
 .rename_i y a;exact⟨y,a,h⟩
 .simp at h
def bindC{f:Cv G.T->M β}(h:M.bind (evC ev x) f R k=C r):∃y,ev x=C (.p<|.one y)/\f y R k=C r:=by
 unfold M.bind evC at h;split at h
 .rename_i y a;exact⟨y,a,h⟩
 .simp at h
def Ae{f:IntKind×Int->M β}(h:M.bind (evI ev x) f R k=C r):∃d n,ev x=C (.p<|.one<|.sc<|.int d n)/\f (d,n) R k=C r:=by
 unfold M.bind evI at h;split at h
 .rename_i d n a;exact⟨d,n,a,h⟩
 .simp at h
def Bl0{f:Bool->M β}(h:M.bind (evB ev x) f R k=C r):∃b,ev x=C (.p<|.one<|.sc<|.bool b)/\f b R k=C r:=by
 unfold M.bind evB at h;split at h
 .rename_i b a;exact⟨b,a,h⟩
 .simp at h
def Ad2:∀{l:List Operand}{f:List (Pv G.T)->M β},M.bind (Tw ev l) f R k=C r->∃a,f a R k=C r/\F2 (λx y=>ev x=C (.p y)) l a
 |[],f,h=>⟨[],h,.nil⟩
 |x::t,f,h=>by unfold Tw at h;obtain⟨y,e,h⟩:=Sc (f:=λy=>M.bind (M.bind (Tw ev t) λl=>M.ret<|y::l) f) h;obtain⟨a,h,d⟩:=Ad2 (l:=t) (f:=λl=>f<|y::l) h;exact⟨y::a,h,d.cons e⟩
def Uj:∀{l:List<|Nat×Operand}{f:List (Nat×Pv G.T)->M β},M.bind (IS ev l) f R k=C r->
  ∃a,f a R k=C r/\F2 (λx y=>x.1=y.1/\ev x.2=C (.p y.2)) l a
 |[],f,h=>⟨[],h,.nil⟩
 |(i,x)::t,f,h=>by unfold IS at h;obtain⟨y,e,h⟩:=Sc (f:=λy=>M.bind (M.bind (IS ev t) λl=>M.ret<|(i,y)::l) f) h;obtain⟨a,h,d⟩:=Uj (l:=t) (f:=λl=>f<|(i,y)::l) h;exact⟨(i,y)::a,h,d.cons ⟨rfl,e⟩⟩
end
def Wb(r:Rd G S h c v):v.oneCell'=H:=by
 cases r with
 |sc v a=>cases v<;>first|rfl|(simp[Kg]at a)
 |_=>rfl
def Ayu(r:Rc G ν S h c v):v.oneCell'=H:=by
 cases c with
 |ptr n off=>obtain⟨b,_,rfl⟩:=r;rfl
 |pd n off s len i=>obtain⟨_,b,_,rfl⟩:=r;rfl
 |pr n t i off=>obtain⟨b,len,d,_,_,rfl⟩:=r;rfl
 |own n=>obtain⟨a,len,d,_,rfl⟩:=r;rfl
 |clo f p q=>obtain⟨e,g,rfl,_⟩:=r;rfl
 |np n t=>rcases r with rfl|⟨b,_,rfl⟩<;>rfl
 |sa n off len=>obtain⟨b,_,rfl⟩:=r;rfl
 |sc v=>exact Wb r
 |ro t l=>exact Wb r
 |rp t x off=>exact Wb r
def Ayg(h:v.oneCell'=H):v.cells=#[v]:=by cases v<;>first|rfl|(simp[Value.oneCell']at h)
def TM{x:Pv G.T}(r:Rp G ν S h x v):F2 (Rc G ν S h) x.cells v.cells.toList:=by
 cases r with
 |one c v a=>rw[Ayg<|Ayu a];exact F2.nil.cons a
 |agg cs vs a=>simpa[Pv.cells,Value.cells]using a
def QH{t:Nat}{cs:List<|Cv G.T}{x:Pv G.T}(hp:RK G t cs=C x)(r:F2 (Rc G ν S h) cs vs):
  Rp G ν S h x (if(G.ty t).isAgg then .agg vs.toArray else vs.getD 0 undef):=by
 unfold RK at hp;cases a:(G.ty t).isAgg with
 |true=>simp[a]at hp;subst hp;simp;exact .agg cs vs r
 |false=>
  simp only[a,j_]at hp;split at hp
  .simp at hp;subst hp;obtain⟨y,t,rfl,d,e⟩:=r.inv;simp;exact .one _ _ d
  .simp at hp
structure Wrote(w w':World)(b:Nat)(c':Array Value)(te:TypeId):Prop where
 here:w'.heap[b]?=some (.cells c' te (0,0))
 there:∀k,k≠b->w'.heap[k]?=w.heap[k]?
 size:w'.heap.size=w.heap.size
 env:w'.os=w.os/\w'.tape=w.tape/\w'.output=w.output
def Kj{P:Program}{b off:Nat}{te:TypeId}:∀(vs:List Value) (i:Nat) (w:World) (c:Array Value),w.heap[b]?=C (.cells c te (0,0))->
  off+i+vs.length<=c.size->(∀v∈vs,v.oneCell'=H)->
  ∃w' e,(storeCells ⟨b,off,D⟩ vs i).run P w=.ok () w'/\Wrote w w' b e te/\e.size=c.size/\
   ∀j,e[j]?=if off+i<=j/\j<off+i+vs.length then vs[j-(off+i)]? else c[j]?
 |[],i,w,c,f,_,_=>⟨w,c,rfl,⟨f,λ_ _=>rfl,rfl,rfl,rfl,rfl⟩,rfl,λj=>by simp;omega⟩
 |v::vs,i,w,c,f,a,h1=>by
  have d:w.cell? ⟨b,off+i,D⟩=C (c[off+i]'(by simp at a;omega)):=by rw[e3_ w b (off+i) c te (0,0) f];simp
  have y:w.frozen? ⟨b,off+i,D⟩=I:=frozen_of_row w b (off+i) c te f;have m:(Go.store ((⟨b,off,D⟩:Addr).add i) v).run P w=.ok () (w.setCell ⟨b,off+i,D⟩ v):=by simp only[Hz];rw[run_store P w _ v .plain<|h1 v σ];simp[d,y]
  have q:(w.setCell ⟨b,off+i,D⟩ v).heap[b]?=C (.cells (c.setIfInBounds (off+i) v) te (0,0)):=heap_setCell_same w b (off+i) c te v f;obtain⟨w',e,hr,l,L,E⟩:=Kj (P:=P) (off:=off) vs (i+1) _ _ q (by simp at a|-;omega) (λu F=>h1 u (by simp[F]));refine⟨w',e,?_,⟨l.here,λk A=>(l.there k A).trans<|heap_setCell_other w _ k v A,by rw[l.size];simp,l.env⟩,by rw[L];simp,λj=>?_⟩
  .simp only[storeCells,K_];rw[m];exact hr
  .rw[E j];simp only[g0_,D_];by_cases z:off+i=j
   .subst z
    have:off+i<c.size:=by simp at a;omega
    rw[if_neg ω,if_pos ω];simp[this]
   .by_cases g:off+(i+1)<=j/\j<off+(i+1)+vs.length
    .rw[if_pos g,if_pos ω,show j-(off+i)=(j-(off+(i+1)))+1 by omega];simp
    .rw[if_neg g,if_neg z,if_neg ω]
def BB(h:Nat->Option (Blk G.T)):List (Nat×Option (Blk G.T))->Nat->Option (Blk G.T)
 |[]=>h
 |(n,ob)::t=>BB (λm=>if n=m then ob else h m) t
def Xd:∀(d:List<|Nat×Option (Blk G.T)) (hp:List<|Nat×Blk G.T),get (Ac8 hp d)=BB (get hp) d
 |[],hp=>rfl
 |(n,D)::t,hp=>by rw[Ac8,Xd t,BB];congr 1;funext m;exact VS hp n m
 |(n,C b)::t,hp=>by rw[Ac8,Xd t,BB];congr 1;funext m;exact SI hp n m b
section
variable{ν:Nat->Option Value}{S B:Nat->Prop}{hp:Nat->Option (Blk G.T)}{w:World}
def HRel.nu(hr:HRel G ν S B hp w)(h:hp n≠D):ν n≠D:=by
 cases a:hp n with
 |none=>exact absurd a h
 |some k=>
  have:=hr.blk n k a
  cases k with
  |cells cs=>obtain⟨b,c,te,h1,_⟩:=this;rw[h1];simp
  |row t l=>
   rcases this with⟨h1,_⟩|⟨b,d,c,te,h1,_⟩
   .rw[h1];simp
   .rw[h1];simp
def HRel.lt(hr:HRel G ν S B hp w){b:Nat}{x:Value}(h:hp n≠D)(e:ν n=C x)(d:AX x=C b):b<w.heap.size:=by
 cases g:hp n with
 |none=>exact absurd g h
 |some k=>
  have a:∀{o:Obj},w.heap[b]?=C o->b<w.heap.size:=λh=>(J_.1 h).1
  have:=hr.blk n k g
  cases k with
  |cells cs=>obtain⟨i,c,te,h1,f,_⟩:=this;rw[e]at h1;simp at h1;subst h1;simp[AX]at d;subst d;exact a f
  |row t l=>
   rcases this with⟨h1,_⟩|⟨i,j,c,te,h1,f,_⟩
   .rw[e]at h1;simp at h1;subst h1;simp[AX]at d
   .rw[e]at h1;simp at h1;subst h1;simp[AX]at d;subst d;exact a f
def HRel.wrote(hr:HRel G ν S B hp w){b:Nat}{k':Blk G.T}{x:Value}{O:Array Value}{te:TypeId}{w':World}(q:hp n≠D)(z:ν n=C x)(A:AX x=C b)
  (i:Wrote w w' b O te) (N:Rb G ν S w'.heap n k'):HRel G ν S B (λm=>if n=m then C k' else hp m) w':=by
 have X:¬S b:=(hr.own n x b q z A).1;have u:Le ν ν S S w.heap w'.heap:=⟨λ_ _ h=>h,λ_ h=>h,λf d=>i.there f (λe=>X<|e▸d)⟩
 have a:∀m,(if n=m then C k' else hp m)≠D->hp m≠D:=by
  intro m g;by_cases e:n=m
  .exact e▸q
  .simpa[e]using g
 refine⟨λm k g=>?_,λm E y L f h1 l j Q F W=>hr.apart m E y L f (a m h1) (a E l) j Q F W,
  λm y f h1 l j=>hr.own m y f (a m h1) l j,λf d=>by rw[i.size];exact hr.stay f d,hr.gl.mono (λ_ h=>h) u.hp⟩
 by_cases e:n=m
 .subst e;simp at g;subst g;exact N
 .simp[e]at g;refine(hr.blk m k g).mono u λy f V d=>i.there f (λU=>e ?_);subst U;exact(hr.apart m n y x f (by simp[g]) q V z d A).symm
def Bd1{x y:α}(h:(bif b then C x else D)=C y):b=H/\C x=C y:=by
 cases b with
 |true=>exact⟨rfl,h⟩
 |false=>cases h
def Aff{P:Program}(ok:SigOK P G)(hr:HRel G ν S B hp w)(hv:Rc G ν S w.heap c v){new:List<|Cv G.T}(a:F2 (Rc G ν S w.heap) new vs)
  {n:Nat}{k':Blk G.T}(h:Kh hp new c=C (n,k')) :
  ∃b off w' x,v=.pointer (C ⟨b,off,D⟩)/\(storeCells ⟨b,off,D⟩ vs).run P w=.ok () w'/\hp n≠D/\ν n=C x/\AX x=C b/\
   (∃Q te,Wrote w w' b Q te)/\HRel G ν S B (λm=>if n=m then C k' else hp m) w':=by
 have V:∀u∈vs,u.oneCell'=H:=by
  intro u hu;obtain⟨i,L,e⟩:=List.getElem_of_mem hu;have xa:i<new.length:=by rw[a.1];exact L
  exact Ayu<|a.2 i _ u (h_ xa) (by rw[h_ L,e])
 have hS:∀{b:Nat}{x:Value}{m:Nat},hp m≠D->ν m=C x->AX x=C b->∀{w':World}{Q:Array Value}{te:TypeId},Wrote w w' b Q te->Le ν ν S S w.heap w'.heap:=by intro b x m O d hb w' Q te E;exact⟨λ_ _ h=>h,λ_ h=>h,λb' x6=>E.there b' (λe=>(hr.own m x b O d hb).1<|e▸x6)⟩
 cases c with
 |ptr m off=>
  simp only[Kh]at h;split at h
  .rename_i ds Y;split at h
   .rename_i xc hs;obtain⟨hg,h⟩:=Bd1 h;simp at h;obtain⟨rfl,rfl⟩:=h;obtain⟨b,c,te,h1,h2,h3,_⟩:=hr.blk m _ Y;obtain⟨b',F,rfl⟩:=hv;simp only at F;rw[h1]at F;simp at F;subst F;obtain⟨s1,s2,s3⟩:=Jv _ _ _ _ hs;have hl:=h3.1;have ho:=a.1;obtain⟨w',Q,A,E,h9,hc⟩:=Kj (P:=P) (off:=off) vs 0 w c h2 (by simp at hl;omega) V;have O:hp m≠D:=by rw[Y];simp
    have U:=hS O h1 rfl E;refine⟨b,off,w',_,rfl,A,O,h1,rfl,⟨Q,te,E⟩,hr.wrote O h1 rfl E ⟨b,Q,te,h1,E.here,?_,λm' t' h0=>absurd (G_.1 hg _ h0) (by simp[SB])⟩⟩;refine⟨by simp at hl|-;omega,λi x y d z=>?_⟩;rw[s3 i]at d;simp at z;rw[hc i]at z;by_cases L:off<=i/\i<off+new.length
    .rw[if_pos L]at d;rw[if_pos ω]at z;exact(a.2 _ x y d (by simpa using z)).mono U
    .rw[if_neg L]at d;rw[if_neg ω]at z;exact(h3.2 i x y d (by simpa using z)).mono U
   .simp at h
  .simp at h
 |pd m off s len i=>
  simp only[Kh]at h;split at h
  .rename_i ds Y;split at h
   .rename_i xc hs;obtain⟨hg,h⟩:=Bd1 h;simp at h;obtain⟨rfl,rfl⟩:=h;obtain⟨b,c,te,h1,h2,h3,_⟩:=hr.blk m _ Y;obtain⟨x4,b',F,rfl⟩:=hv;simp only at F;rw[h1]at F;simp at F;subst F;have hl:=h3.1;have ho:=a.1;have x7:∀(qs:List Nat) (es:List<|Cv G.T),Zx ds off s i new qs=C es->
      es.length=ds.length/\(i∈qs->off+i*s+new.length<=ds.length)/\∀j,es[j]?=if i∈qs/\off+i*s<=j/\j<off+i*s+new.length then new[j-(off+i*s)]? else ds[j]?:=by
     intro qs;induction qs with
     |nil=>intro es N;simp[Zx]at N;subst N;simp
     |cons q qs ih=>
      intro es N;simp only[Zx]at N;split at N
      .rename_i x5 x8;obtain⟨i1,i2,i3⟩:=ih x5 x8;split at N
       .rename_i h8 hn;split at N
        .rename_i l xb;obtain⟨p1,p2,p3⟩:=Ol hn;obtain⟨m1,m2⟩:=CX _ _ xb;obtain⟨s1,s2,s3⟩:=Jv _ _ _ _ N;have x0:l.length=new.length:=by simp[p1]at m1;omega
         have x3:∀j,j<new.length->l[j]?=if i=q then new[j]? else h8[j]?:=by
          intro j X;have hz:(new.zip h8)[j]?=C (new[j],h8[j]):=by simp[X,p1]
          obtain⟨y,z,hf⟩:=m2 j _ hz
          have:=Ae0 hf
          rw[z,this];by_cases e:i=q
          .simp[e,X]
          .have x1:J i q=I:=by cases hb:J i q with|false=>rfl|true=>exact absurd (AQ.1 hb) e
           simp[x1,e,p1,X]
         refine⟨ω,λL=>?_,λj=>?_⟩
         .rcases A_.1 L with rfl|L
          .rw[i1]at p2;exact p2
          .exact i2 L
         .rw[s3 j,x0];by_cases X:off+q*s<=j/\j<off+q*s+new.length
          .rw[if_pos X,x3 _ ω];by_cases e:i=q
           .subst e;rw[if_pos rfl,if_pos ⟨σ,X⟩]
           .rw[if_neg e,p3 _ ω,i3,show off+q*s+(j-(off+q*s))=j by omega];simp[e]
          .rw[if_neg X,i3];by_cases e:i=q
           .subst e;rw[if_neg (by intro h;exact X ⟨h.2.1,h.2.2⟩),if_neg (by intro h;exact X ⟨h.2.1,h.2.2⟩)]
           .simp[e]
        .simp at N
       .simp at N
      .simp at N
    obtain⟨k1,k2,k3⟩:=x7 _ _ hs;have W:i∈Qp len:=by simp only[Wj,List.mem_range];exact x4
    obtain⟨w',Q,A,E,h9,hc⟩:=Kj (P:=P) (off:=off+i*s) vs 0 w c h2 (by have:=k2 W;simp at hl;omega) V;have O:hp m≠D:=by rw[Y];simp
    have U:=hS O h1 rfl E;refine⟨b,off+i*s,w',_,rfl,A,O,h1,rfl,⟨Q,te,E⟩,hr.wrote O h1 rfl E ⟨b,Q,te,h1,E.here,?_,λm' t' h0=>absurd (G_.1 hg _ h0) (by simp[SB])⟩⟩;refine⟨by simp at hl|-;omega,λj x y d z=>?_⟩;rw[k3 j]at d;simp at z;rw[hc j]at z;by_cases L:off+i*s<=j/\j<off+i*s+new.length
    .rw[if_pos ⟨W,L⟩]at d;rw[if_pos ω]at z;exact(a.2 _ x y d (by simpa using z)).mono U
    .rw[if_neg (by intro h;exact L h.2)]at d;rw[if_neg ω]at z;exact(h3.2 j x y d (by simpa using z)).mono U
   .simp at h
  .simp at h
 |pr m t i off=>
  simp only[Kh]at h;split at h
  .rename_i t' l Y;rw[Bs]at h;by_cases ht:t=t'
   .subst ht;rw[if_pos rfl]at h;split at h
    .rename_i xe hs;split at h
     .rename_i x' x2;simp at h;obtain⟨rfl,rfl⟩:=h;obtain⟨b,len,xg,F,L,rfl⟩:=hv;rcases hr.blk m _ Y with⟨h1,h2⟩|⟨b',Z,c,te,h1,h2,h3,hk,h5⟩
      .rw[h1]at F;simp at F
      .rw[h1]at F;simp at F;obtain⟨rfl,rfl,rfl⟩:=F;have N:=ok.encdec _ _ _ x2;obtain⟨s1,s2,s3⟩:=Jv _ _ _ _ hs;have xf:=ok.encl t<|l.getD i<|G.dfl t;have ho:=a.1;have hh:i*G.sz t+off+0+vs.length<=c.size:=by
        rw[hk]
        have:(i+1)*G.sz t<=Z*G.sz t:=w_ _ ω
        rw[a0_]at this;omega
       obtain⟨w',Q,A,E,h9,hc⟩:=Kj (P:=P) (off:=i*G.sz t+off) vs 0 w c h2 hh V;have O:hp m≠D:=by rw[Y];simp
       have U:=hS O h1 rfl E;refine⟨b',i*G.sz t+off,w',_,rfl,A,O,h1,rfl,⟨Q,te,E⟩,hr.wrote O h1 rfl E<|.inr ⟨b',Z,Q,te,by simpa using h1,E.here,by simpa using h3,by rw[h9,hk],?_,h5.2⟩⟩;intro i' j x cv d g;have xd:=ok.encl t x;have X:j<(G.enc t x).length:=(e_.1 g).1;rw[hc];rw[List.getElem?_set]at d;by_cases h6:i=i'
       .subst h6;simp[L]at d;subst d;rw[N,s3]at g;by_cases ha:off<=j/\j<off+new.length
        .rw[if_pos ha]at g;rw[if_pos ω];obtain⟨y,z,x9⟩:=a.get g;refine⟨y,by rw[show i*G.sz t+j-(i*G.sz t+off+0)=j-off by omega];exact z,?_⟩;exact(Aoq ok (t:=t) (x:=x') (by rw[N];exact p_ (by rw[s3,if_pos ha];exact g)) x9).mono U.st U.hp
        .rw[if_neg ha]at g;rw[if_neg ω];obtain⟨v,hv,h7⟩:=h5.1 i j (l.getD i<|G.dfl t) cv (by simp[L]) g;exact⟨v,hv,h7.mono U.st U.hp⟩
       .rw[if_neg h6]at d;obtain⟨v,hv,h7⟩:=h5.1 i' j x cv d g;refine⟨v,?_,h7.mono U.st U.hp⟩;rw[if_neg ?_]
        .exact hv
        .rcases Nat.lt_or_gt_of_ne h6 with h'|h'
         .have:(i+1)*G.sz t<=i'*G.sz t:=w_ _ h'
          rw[a0_]at this;omega
         .have:(i'+1)*G.sz t<=i*G.sz t:=w_ _ h'
          rw[a0_]at this;omega
     .simp at h
    .simp at h
   .rw[if_neg ht]at h;simp at h
  .simp at h
 |sc v=>simp[Kh]at h
 |own m=>simp[Kh]at h
 |ro t l=>simp[Kh]at h
 |rp t x off=>simp[Kh]at h
 |clo f p q=>simp[Kh]at h
 |np n t=>simp[Kh]at h
 |sa n o l=>simp[Kh]at h
end
section
variable{G:Sig}
def Abs{α:Type}{i:Nat}{f:Nat->Option α}:∀{l:List Nat}{R:Type}{k:α->Option R}{r:R},TQ i f l R k=C r->∃a,f i=C a/\k a=C r
 |[],_,_,_,h=>by simp[TQ,M.fail]at h
 |q::t,R,k,r,h=>by
  simp only[TQ]at h;cases d:J i q with
  |true=>
   rw[d,i_]at h;have e:i=q:=AQ.1 d;subst e;simp only[M.opt]at h;split at h
   .exact⟨_,by assumption,h⟩
   .cases h
  |false=>rw[d,j_]at h;exact Abs h
def Ae6{h:Nat->Option (Blk G.T)}{c:Cv G.T}{k:List (Cv G.T)->Option R}(hr:UC h n c R k=C r):
  ∃d cs,(d=c\/∃b off s len i,c=.pd b off s len i/\d=.ptr b (off+i*s))/\Im h n d=C cs/\k cs=C r:=by
 unfold UC at hr;cases e:Aad h c with
 |false=>
  rw[e,j_]at hr;obtain⟨cs,h1,a⟩:∃cs,Im h n c=C cs/\k cs=C r:=by
   simp only[M.opt]at hr;split at hr
   .exact⟨_,by assumption,hr⟩
   .cases hr
  exact⟨c,cs,.inl rfl,h1,a⟩
 |true=>
  rw[e,i_]at hr;cases c with
  |pd b off s len i=>obtain⟨cs,h1,a⟩:=Abs hr;exact⟨_,cs,.inr ⟨_,_,_,_,_,rfl,rfl⟩,h1,a⟩
  |_=>cases hr
end
end Go.Ab
namespace Go.Ab
variable{G:Sig}
variable{x:Operand}{v:Value}{nm t:Nat}{out:Out G}{S:Nat->Prop}{h:Array Obj}{k:Blk G.T}
def Zp{T:Nat->Type}{cs:List<|Cv T}(h:cs.all SB=H){m:Nat}(a:Cv.np m t∈cs):False:=by
 have:=G_.1 h _ a
 simp[SB]at this
def Azo{n m f:Nat}(i:∀v∈G.zero t,Kg v=H)(d:Cv.np m f∈Ua G n t):m=n/\t=f:=by
 have a:Cv.np m f∉Gp G t:=λh=>by unfold Gp at h;obtain⟨v,_,e⟩:=b6_.1 h;cases e
 unfold Ua at d;cases g:Au6 G t with
 |false=>rw[g]at d;exact absurd d a
 |true=>
  rw[g,i_]at d;generalize Gp G t=l at d a;unfold Aoc at d;split at d
  .simp only[A_]at d a;rcases d with h|h
   .cases h;exact⟨rfl,rfl⟩
   .exact absurd (.inr h) a
  .exact absurd d a
def Av0{ν:Nat->Option Value}{n:Nat}{vs:List Value}(a:F2 (Rc G ν S h) (Gp G t) vs):F2 (Rc G ν S h) (Ua G n t) vs:=by
 unfold Ua;cases f:Au6 G t with
 |false=>exact a
 |true=>
  rw[i_];generalize Gp G t=l at a;unfold Aoc;split
  .obtain⟨y,r,rfl,h1,e⟩:=a.inv;have d:Rd G S h (.sc<|.pointer D) y:=h1;cases d;exact .cons (.inl rfl) e
  .exact a
def Runs(P:Program)(G:Sig)(ρ:Operand->Value)(o:Oper)(ν:Nat->Option Value)(S B:Nat->Prop)(h:Nat->Option (Blk G.T))(w:World)(out:Out G):Prop:=∃a w' v ν' S',(execOp ρ o).run P w=.ok a w'/\(a=.value v\/(a=.skip/\v=undef))/\Post G ν S B h w out (BB h out.d) ν' S' w' v
def Bga{x:G.T t}{off:Nat}(r:Rd G S h (.rp t x off) v):∃b o,v=.pointer (C ⟨b,o,D⟩):=by cases r;exact⟨_,_,rfl⟩
section
variable{P:Program}{ν:Nat->Option Value}{S B:Nat->Prop}{h:Nat->Option (Blk G.T)}{w:World}{ρ:Operand->Value}{o:Oper}
def Post.pure(hr:HRel G ν S B h w)(e:out.d=[])(a:∀s,out.v=C s->Rs G ν S w.heap s v):
  Post G ν S B h w out (BB h out.d) ν S w v:=
 ⟨λ_ _ h=>h,λ_ h=>.inl h,λ_ h=>h,λ_ h=>.inl h,by rw[e];exact hr,a,t_ _,λ_ _ _=>rfl,rfl,rfl,rfl⟩
def Runs.value(hr:HRel G ν S B h w)(f:out.d=[])(a:(execOp ρ o).run P w=.ok (.value v) w)(e:∀s,out.v=C s->Rs G ν S w.heap s v):
  Runs P G ρ o ν S B h w out:=
 ⟨_,w,v,ν,S,a,.inl rfl,Post.pure hr f e⟩
def Runs.outP(hr:HRel G ν S B h w){x:Pv G.T}(a:(execOp ρ o).run P w=.ok (.value v) w)(e:Rp G ν S w.heap x v):
  Runs P G ρ o ν S B h w (outP x):=
 Runs.value hr rfl a λs d=>by simp[Ab.outP]at d;subst d;exact .p _ _ e
def Runs.outV(hr:HRel G ν S B h w)(a:(execOp ρ o).run P w=.ok (.value v) w)(d:Kg v=H):
  Runs P G ρ o ν S B h w (Ab.outV v):=
 Runs.outP hr a (.one _ _<|.sc v d)
def ext(ν:Nat->Option Value)(nm:Nat)(x:Value):Nat->Option Value:=λn=>if n=nm then C x else ν n
def Aek{x:Value}(a:ν nm=D):∀n y,ν n=C y->ext ν nm x n=C y:=by
 intro n y d;unfold ext;by_cases e:n=nm
 .subst e;rw[a]at d;simp at d
 .simp[e,d]
def Arn{x:Value}:∀n,ext ν nm x n≠D->ν n≠D\/n∈[nm]:=by
 intro n a;unfold ext at a;by_cases e:n=nm
 .exact .inr (by simp[e])
 .simp[e]at a;exact .inl a
def EB{x:Value}:ext ν nm x nm=C x:=by simp[ext]
def HRel.add(hr:HRel G ν S B h w){x:Value}{w':World}(N:ν nm=D)
  (d:∀b,b<w.heap.size->(S b\/∃m y,h m≠D/\ν m=C y/\AX y=C b)->w'.heap[b]?=w.heap[b]?) (q:w.heap.size<=w'.heap.size)
  (a:∀b,AX x=C b->¬S b/\B b/\∀m y,h m≠D->ν m=C y->AX y≠C b)
  (U:Rb G (ext ν nm x) S w'.heap nm k):HRel G (ext ν nm x) S B (λm=>if nm=m then C k else h m) w':=by
 have Q:Le ν (ext ν nm x) S S w.heap w'.heap:=⟨Aek N,λ_ h=>h,λb u=>d b (hr.stay b u)<|.inl u⟩
 have f:∀m,nm≠m->∀y,ext ν nm x m=C y->ν m=C y:=by intro m j y E;unfold ext at E;rwa [if_neg<|a7_ j]at E
 refine⟨λm k' j=>?_,λm z y F b h1 g i A L O=>?_,λm y b h1 g i=>?_,λb u=>d4_ (hr.stay b u) q,hr.gl.mono (λ_ h=>h) Q.hp⟩
 .by_cases e:nm=m
  .subst e;simp at j;subst j;exact U
  .simp[e]at j;exact(hr.blk m k' j).mono Q λy b E u=>d b (hr.lt (by simp[j]) E u)<|.inr ⟨m,y,by simp[j],E,u⟩
 .by_cases e:nm=m
  .subst e;by_cases l:nm=z
   .exact l
   .rw[EB]at i;simp at i;subst i;simp[l]at g;exact absurd O<|(a b L).2.2 z F g<|f z l F A
  .simp[e]at h1;by_cases l:nm=z
   .subst l;rw[EB]at A;simp at A;subst A;exact absurd L<|(a b O).2.2 m y h1<|f m e y i
   .simp[l]at g;exact hr.apart m z y F b h1 g (f m e y i) (f z l F A) L O
 .by_cases e:nm=m
  .subst e;rw[EB]at g;simp at g;subst g;exact⟨(a b i).1,(a b i).2.1⟩
  .simp[e]at h1;exact hr.own m y b h1 (f m e y g) i
def HRel.sub(hr:HRel G ν S B h w){h':Nat->Option (Blk G.T)}(d:∀m,h' m≠D->h' m=h m):HRel G ν S B h' w:=by
 have a:∀m,h' m≠D->h m≠D:=λm f=>by rw[<-d m f];exact f
 exact⟨λn k e=>hr.blk n k (by rw[<-d n (by simp[e])];exact e),λn m x y b h1 g=>hr.apart n m x y b (a n h1)<|a m g,λn x b h1=>hr.own n x b<|a n h1,hr.stay,hr.gl⟩
def Post.alloc(hr:HRel G ν S B h w)(hB:∀b,w.heap.size<=b->B b)(i:ν nm=D){c:Array Value}{te:TypeId}{x:Value}
  (l:out.d=[(nm,C k)]) (L:out.nw=[nm]) (q:AX x=C w.heap.size) {w':World}(a:w'.heap=w.heap.push (.cells c te)) (j:w'.os=w.os/\w'.tape=w.tape/\w'.output=w.output)
  (u:Rb G (ext ν nm x) S (w.heap.push<|.cells c te) nm k) {v:Value}
  (E:∀s,out.v=C s->Rs G (ext ν nm x) S (w.heap.push<|.cells c te) s v):Post G ν S B h w out (BB h out.d) (ext ν nm x) S w' v:=by
 have g:∀b,b<w.heap.size->w'.heap[b]?=w.heap[b]?:=λb f=>by rw[a,Array.getElem?_push,if_neg<|Nat.ne_of_lt f]
 refine⟨Aek i,by rw[L];exact Arn,λ_ h=>h,λ_ h=>.inl h,?_,by rw[a];exact E,by rw[a];simp,λb f _=>g b f,j⟩;rw[l];refine hr.add i (λb f _=>g b f) (by rw[a];simp) (λb f=>?_) (by rw[a];exact u);rw[q]at f;simp at f;subst f;refine⟨λz=>absurd (hr.stay _ z)<|Nat.lt_irrefl _,hB _<|t_ _,λm y A F e=>absurd (hr.lt A F e)<|Nat.lt_irrefl _⟩
def Ahg(o:Obj){x:Value}(hr:HRel G ν S B h w)(a:ν nm=D):Le ν (ext ν nm x) S S w.heap<|w.heap.push o:=⟨Aek a,λ_ h=>h,λb d=>by rw[Array.getElem?_push,if_neg<|Nat.ne_of_lt<|hr.stay b d]⟩
variable(ok:SigOK P G){ev:Operand->Option (Sv G.T)}(hev:∀x s,ev x=C s->Rs G ν S w.heap s (ρ x))(hr:HRel G ν S B h w)(hB:∀b,w.heap.size<=b->B b)
 {cf:Dc G}{nm:Nat}{out:Out G}(hfresh:∀n∈out.nw,ν n=D)
include hev
theorem TK{y:Pv G.T}(a:ev x=C (.p y)):Rp G ν S w.heap y<|ρ x:=by
 have:=hev x _ a
 cases this with
 |p _ _ h=>exact h
theorem Hv{y:Cv G.T}(a:ev x=C (.p<|.one y)):Rc G ν S w.heap y<|ρ x:=by
 have:=TK hev a
 cases this with
 |one _ _ h=>exact h
theorem FG(a:ev x=C (.p<|.one<|.sc v)):ρ x=v/\Kg v=H:=by
 have h:Rd G S w.heap (.sc v)<|ρ x:=Hv hev a;generalize ρ x=u at h;cases h with
 |sc _ d=>exact⟨rfl,d⟩
include hr
theorem Aji(g:o.op=.move x\/o.op=.assign x)(a:Qw ev x (Out G) C=C out):Runs P G ρ o ν S B h w out:=by
 unfold Qw at a;split at a
 .rename_i s f;simp at a;subst a;refine Runs.value hr rfl (v:=ρ x) ?_ (λs' d=>by simp at d;subst d;exact hev x _ f);rcases g with e|e<;>(unfold execOp;rw[e];rfl)
 .simp at a
theorem Ayo{c y:Operand}(i:o.op=.pick c x y)(a:Ug ev c x y (Out G) C=C out):Runs P G ρ o ν S B h w out:=by
 unfold Ug at a;obtain⟨b,g,a⟩:=Bl0 a;have a:=M.split_spec<|M.bind_spec a;unfold Qw at a;split at a
 .rename_i s f;simp at a;subst a;have e:=(FG hev g).1;refine Runs.value hr rfl (v:=if b then ρ x else ρ y) ?_ (λs' d=>by simp at d;subst d;cases b<;>exact hev _ _ f);unfold execOp;rw[i];simp only[K_,e,asBool,a2_,u_]
 .simp at a
include ok
theorem Ax5(U:o.op=.load t x)(a:OR ev h t x (Out G) C=C out):Runs P G ρ o ν S B h w out:=by
 unfold OR at a;obtain⟨c,N,a⟩:=bindC a;obtain⟨O,cs,z,y,a⟩:=Ae6 a;obtain⟨x',d,a⟩:=M.bindopt a;simp[M.ret]at a;subst a;have A:Rc G ν S w.heap O<|ρ x:=by
  have h0:=Hv hev N;rcases z with rfl|⟨_,_,_,_,_,rfl,rfl⟩
  .exact h0
  .exact h0.2
 obtain⟨b,off,vs,V,q,g,f⟩:=Ae7 ok hr y A;have l:G.ty t≠ .no:=by
  intro e;rw[ok.nosz t e]at g
  have:cs=[]:=by have:=q.1;rw[g]at this;exact S_ this
  subst this;simp[RK,e,Ty.isAgg]at d
 refine Runs.value hr rfl (v:=if(G.ty t).isAgg then .agg vs.toArray else vs.getD 0 undef) ?_ (λs E=>by simp at E;subst E;exact .p _ _<|QH d q);have i:(loadCells ⟨b,off,D⟩ vs.length).run P w=.ok vs.toArray w:=run_loadCells_list (P:=P) w ⟨b,off,D⟩ vs (λj v Q=>by rw[Hz];exact f j v Q);unfold execOp;rw[U];simp only[Instr.loadAt,V,Instr.sureAddr,loadVar,K_,a2_,u_,ok.isAgg w l];cases L:(G.ty t).isAgg with
 |true=>simp only[if_true,K_,ok.sizeOf w l,u_,<-g,i,a2_]
 |false=>
  have m:vs.length=1:=by
   simp only[RK,L,j_]at d;split at d
   .have:=q.1;simpa using this.symm
   .simp at d
  obtain⟨u,rfl⟩:∃u,vs=[u]:=List.length_eq_one_iff.1 m;have F:=f 0 u rfl;simp only[c7_]at F;simp[F]
theorem Aqx{y:Operand}(O:o.op=.store t x y){c:Cv G.T}(E:ev x=C (.p<|.one c)){x':Pv G.T}(q:ev y=C (.p x'))(f:(J x'.cells.length (G.sz t)&&!Oa (G.ty t))=H)
  (a:Ru h c x'.cells (Out G) C=C out):Runs P G ρ o ν S B h w out:=by
 unfold Ru at a;obtain⟨⟨n,k'⟩,hp,a⟩:=M.bindopt a;simp[M.ret]at a;subst a;have d:=TM<|TK hev q;obtain⟨b,off,w',F,Q,m,V,i,N,⟨W,te,z⟩,j⟩:=Aff ok hr (Hv hev E) d hp;have g:(ρ y).cells.size=G.sz t:=by
  have:=d.1
  simp at f;rw[f.1]at this;simpa using this.symm
 have u:G.ty t≠ .no:=by intro e;simp[e,Oa]at f
 refine⟨.skip,w',undef,ν,S,?_,.inr ⟨rfl,rfl⟩,⟨λ_ _ h=>h,λ_ h=>.inl h,λ_ h=>h,λ_ h=>.inl h,j,λs A=>by simp at A,by rw[z.size];exact t_ _,
  λU L l=>z.there U (λe=>l n F V i<|e▸N),z.env⟩⟩
 unfold execOp;rw[O];simp only[Instr.storeAt,Q,Instr.sureAddr,storeVar,K_,a2_,u_,ok.sizeOf w u,g];simp[m]
include hB hfresh
omit hev in
theorem Asu(N:o.op=.alloc t)(a:Yk nm t (Out G) C=C out):Runs P G ρ o ν S B h w out:=by
 unfold Yk at a;have f:G.ty t≠ .no:=by intro e;simp[e,M.fail]at a
 have d:C (⟨C<|.p<|.one<|.ptr nm 0,[(nm,C<|.cells<|Ua G nm t)],[nm],[]⟩:Out G)=C out:=by cases g:G.ty t<;>simp only[g]at a<;>first|exact absurd g f|exact a
 simp at d;subst d;obtain⟨z,F,q⟩:=ok.zeroV w f;refine⟨.value<|.pointer<|C ⟨w.heap.size,0,D⟩,{ w with heap:=w.heap.push (.cells z.cells t) },_,ext ν nm<|.pointer<|C ⟨w.heap.size,0,D⟩,S,?_,.inl rfl,?_⟩
 .unfold execOp;rw[N];simp[Instr.alloc,F,newVar,newRow]
 .have j:=hfresh nm σ;refine Post.alloc (k:=.cells<|Ua G nm t) (c:=z.cells) (te:=t) (w':={ w with heap:=w.heap.push (.cells z.cells t) }) hr hB j rfl rfl rfl rfl ⟨rfl,rfl,rfl⟩ ⟨w.heap.size,z.cells,t,EB,σ,?_,λm O L=>Azo (ok.zsc t) L⟩ λs A=>?_
  .rw[q];have l:F2 (Rc G (ext ν nm<|.pointer<|C ⟨w.heap.size,0,D⟩) S<|w.heap.push<|.cells z.cells t) (Gp G t)<|G.zero t:=
    F2.map_left ⟨rfl,λi x y E u=>by rw[E]at u;simp at u;subst u;exact .sc _<|ok.zsc t x<|p_ E⟩
   exact Av0 l
  .simp at A;subst A;exact .p _ _<|.one _ _ ⟨w.heap.size,EB,rfl⟩
omit ok
theorem Bar(j:o.op=.box t x)(a:Ym ev nm x (Out G) C=C out):Runs P G ρ o ν S B h w out:=by
 unfold Ym at a;obtain⟨y,l,a⟩:=Sc a;obtain⟨e,a⟩:=M.bindneed a;simp[M.ret]at a;subst a;have d:=hfresh nm σ;have g:=TM<|TK hev l;refine⟨.value<|.pointer<|C ⟨w.heap.size,0,D⟩,{ w with heap:=w.heap.push (.cells (ρ x).cells t) },_,ext ν nm<|.pointer<|C ⟨w.heap.size,0,D⟩,S,?_,.inl rfl,?_⟩
 .unfold execOp;rw[j];simp[Instr.box,newVar,newRow]
 .refine Post.alloc (k:=.cells y.cells) (c:=(ρ x).cells) (te:=t) (w':={ w with heap:=w.heap.push (.cells (ρ x).cells t) }) hr hB d rfl rfl rfl rfl ⟨rfl,rfl,rfl⟩ ⟨w.heap.size,(ρ x).cells,t,EB,σ,?_,λm q i=>(Zp e i).elim⟩ λs f=>?_
  .exact g.mono λ_ _=>Rc.mono<|Ahg _ hr d
  .simp at f;subst f;exact .p _ _<|.one _ _ ⟨w.heap.size,EB,rfl⟩
omit hB hfresh
theorem Bb4(l:o.op=.nilCheck x)(a:Yn ev x (Out G) C=C out):Runs P G ρ o ν S B h w out:=by
 unfold Yn at a;obtain⟨c,g,a⟩:=bindC a;obtain⟨hp,a⟩:=M.bindneed a;simp[M.ret]at a;subst a;have d:=Hv hev g;refine Runs.outP hr (v:=ρ x) ?_<|.one _ _ d;unfold execOp;rw[l];cases c with
 |ptr n off=>obtain⟨b,_,e⟩:=d;simp[e]
 |pd n off s len i=>obtain⟨_,b,_,e⟩:=d;simp[e]
 |pr n t i off=>obtain⟨b,len,j,_,_,e⟩:=d;simp[e]
 |clo f p q=>obtain⟨z,y,e,_⟩:=d;simp[e]
 |rp u x' off=>obtain⟨b,m,e⟩:=Bga d;simp[e]
 |_=>simp[isP]at hp
theorem Ana{i:Nat}(l:o.op=.extract x i)(a:Mc ev x i (Out G) C=C out):Runs P G ρ o ν S B h w out:=by
 unfold Mc at a;split at a
 .rename_i xs j;split at a
  .rename_i y m;simp at a;subst a
   have:=hev x _ j
   generalize g:ρ x=u at this;cases this with
   |tup _ vs e=>obtain⟨v,f,d⟩:=e.get m;refine Runs.outP hr (v:=v) ?_ d;unfold execOp;rw[l];simp only[g,Instr.extract];simp[f]
  .simp at a
 .simp at a
end
end Go.Ab
namespace Go.Ab
variable{G:Sig}
variable{x:Operand}
section
variable{P:Program}{ν:Nat->Option Value}{S B:Nat->Prop}{h:Nat->Option (Blk G.T)}{w:World}{ρ:Operand->Value}{o:Oper}
variable(ok:SigOK P G){ev:Operand->Option (Sv G.T)}(hev:∀x s,ev x=C s->Rs G ν S w.heap s (ρ x))(hr:HRel G ν S B h w)(hB:∀b,w.heap.size<=b->B b)
 {cf:Dc G}{nm:Nat}{out:Out G}(hfresh:∀n∈out.nw,ν n=D)
theorem Ao2{d:Nat}{c y:Cv G.T}(a:Lj d c=C y){v:Value}(e:Rc G ν S w.heap c v) :
  ∃b off,v=.pointer (C ⟨b,off,D⟩)/\Rc G ν S w.heap y (.pointer<|C ⟨b,off+d,D⟩):=by
 cases c with
 |ptr n off=>simp[Lj]at a;subst a;obtain⟨b,h1,rfl⟩:=e;exact⟨b,off,rfl,b,h1,rfl⟩
 |pd n off s len i=>simp[Lj]at a;subst a;obtain⟨u,b,h1,rfl⟩:=e;exact⟨b,off+i*s,rfl,u,b,h1,by simp only[Value.pointer.injEq,c4_,Addr.mk.injEq,and_true,true_and];omega⟩
 |pr n t i off=>simp[Lj]at a;subst a;obtain⟨b,len,g,h1,u,rfl⟩:=e;exact⟨b,i*G.sz t+off,rfl,b,len,g,h1,u,by rw[V_]⟩
 |rp t x off=>
  simp[Lj]at a;subst a;cases e with
  |rp _ _ _ b base c te fz vs A E z j=>exact⟨b,base+off,rfl,by rw[V_];exact .rp t x (off+d) b base c te fz vs A E z j⟩
 |sc v=>simp[Lj]at a
 |own m=>simp[Lj]at a
 |ro t l=>simp[Lj]at a
 |clo f p q=>simp[Lj]at a
 |np n t=>simp[Lj]at a
 |sa n o l=>simp[Lj]at a
include ok in
theorem Anc{t f:Nat}{e:List<|Nat×Nat}(i:G.ty t=.st e){o:Nat×Nat}(d:e[f]?=C o) :
  ∃a fld,P.underlying t=C (.struct a)/\a[f]?=C fld/\fld.offset=o.1/\fld.type=o.2/\G.ty o.2≠ .no:=by
 obtain⟨a,h1,g,j⟩:=ok.strc t e i;rw[<-g]at d;rw[b3_]at d;cases hq:a.toList[f]? with
 |none=>simp[hq]at d
 |some fld=>simp[hq]at d;refine⟨a,fld,h1,by simpa using hq,by rw[<-d],by rw[<-d],?_⟩;refine j o.1 o.2 ?_;rw[<-g];exact b6_.2 ⟨fld,p_ hq,by rw[<-d]⟩
include hev
omit hev in
theorem Oi{i:Int}{n:Nat}(a:inB i n=H):0<=i/\i<n:=by simpa[inB]using a
include hr
include ok in
theorem Ag6{t f:Nat}(A:o.op=.fieldAddr t x f)(a:Jj ev t x f (Out G) C=C out):Runs P G ρ o ν S B h w out:=by
 unfold Jj at a;cases e:G.ty t with
 |st L=>simp only[e]at a;obtain⟨c,l,a⟩:=bindC a;obtain⟨q,y,a⟩:=M.bindopt a;obtain⟨N,m,a⟩:=M.bindopt a;simp[M.ret]at a;subst a;obtain⟨b,off,E,g⟩:=Ao2 m<|Hv hev l;obtain⟨d,fld,h1,F,u,z,i⟩:=Anc ok e y;refine Runs.outP hr (v:=.pointer<|C ⟨b,off+q.1,D⟩) ?_<|.one _ _ g;have j:=ok.pos _ i;unfold execOp;rw[A];simp only[Instr.fieldAt,K_,M_ h1 w,u_,F,E,Instr.sureAddr,a2_,fieldPlace,z,ok.sizeOf w i,u,Hz];rw[if_neg ω];rfl
 |_=>simp[e,M.fail]at a
include ok in
theorem At3{t f:Nat}(ho:o.op=.field t x f)(d:QU ev t x f (Out G) C=C out):Runs P G ρ o ν S B h w out:=by
 unfold QU at d;cases F:G.ty t with
 |st fs=>
  simp only[F]at d;obtain⟨c,V,d⟩:=Sc d;have l:=TK hev V;generalize W:ρ x=u at l;cases l with
  |one c v U=>simp[Aem,M.fail]at d
  |agg ds vs g=>
  simp only[Aem]at d;obtain⟨e,X,d⟩:=M.bindopt d;obtain⟨cs,E,d⟩:=M.bindopt d;obtain⟨y,hy,d⟩:=M.bindopt d;simp[M.ret]at d;subst d;obtain⟨q,fld,h1,h2,O,Y,z⟩:=Anc ok F X;obtain⟨p1,p2,Z⟩:=Ol E;have N:=g.1;have hF:F2 (Rc G ν S w.heap) cs<|(vs.drop e.1).take<|G.sz e.2:=by
   refine⟨by simp;omega,λi a b m L=>?_⟩;have Q:i<G.sz e.2:=by have:=(e_.1 m).1;omega
   rw[Z i Q]at m;rw[B_ Q,c1_]at L;exact g.2 _ a b m L
  refine Runs.outP hr (v:=if(G.ty e.2).isAgg then .agg ((vs.drop e.1).take<|G.sz e.2).toArray else((vs.drop e.1).take<|G.sz e.2).getD 0 undef) ?_<|QH hy hF;unfold execOp;rw[ho];simp only[Instr.field,K_,M_ h1 w,u_,h2,W,asAgg,a2_,Go.part,Y,ok.isAgg w z];cases m:(G.ty e.2).isAgg with
  |true=>simp only[if_true,K_,ok.sizeOf w z,u_,O];simp
  |false=>have j:=ok.pos _ z;have A:e.1<vs.length:=ω;rw[List.getD,B_ j];simp[O,A]
 |_=>simp[F,M.fail]at d
end
end Go.Ab
