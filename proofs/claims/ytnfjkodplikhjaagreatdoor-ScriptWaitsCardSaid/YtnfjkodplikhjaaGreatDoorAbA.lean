import Derived.WalkKit
set_option linter.all false
open Option renaming some->C,none->D
open Bool renaming true->H,false->I
open Nat renaming beq->J
open BitVec renaming ofInt->aA
namespace Go
variable{p:Prop}
def ω(h:p:=by omega):p:=h
def τ(h:p:=by decide):p:=h
def σ(h:p:=by simp):p:=h
def κ(h:p:=by kernel_rfl):p:=h
end Go
namespace Go
def a_:type_of% @Bool.and_eq_true:=@Bool.and_eq_true
def b_:type_of% @decide_eq_true:=@decide_eq_true
def c_:type_of% @Option.bind_some:=@Option.bind_some
def d_:type_of% @decide_eq_false:=@decide_eq_false
def e_:type_of% @List.length_append:=@List.length_append
def f_:type_of% @List.getElem?_eq_some_iff:=@List.getElem?_eq_some_iff
def g_:type_of% @cond_false:=@cond_false
def h_:type_of% @cond_true:=@cond_true
def i_:type_of% @List.getElem?_eq_getElem:=@List.getElem?_eq_getElem
def j_:type_of% @of_decide_eq_true:=@of_decide_eq_true
def k_:type_of% @List.getD_eq_getElem?_getD:=@List.getD_eq_getElem?_getD
def l_:type_of% @Int.toNat_natCast:=@Int.toNat_natCast
def m_:type_of% @Nat.zero_add:=@Nat.zero_add
def n_:type_of% @List.mem_append:=@List.mem_append
def o_:type_of% @List.mem_of_getElem?:=@List.mem_of_getElem?
def p_:type_of% @beq_self_eq_true:=@beq_self_eq_true
def q_:type_of% @Nat.le_refl:=@Nat.le_refl
def r_:type_of% @Option.some.inj:=@Option.some.inj
def s_:type_of% @List.length_cons:=@List.length_cons
def t_:type_of% @decide_eq_true_eq:=@decide_eq_true_eq
def u_:type_of% @Go.Result.andThen_ok:=@Go.Result.andThen_ok
def v_:type_of% @List.length_take:=@List.length_take
def w_:type_of% @of_decide_eq_false:=@of_decide_eq_false
def x_:type_of% @List.mem_cons:=@List.mem_cons
def y_:type_of% @Array.getD_eq_getD_getElem?:=@Array.getD_eq_getD_getElem?
def z_:type_of% @List.length_set:=@List.length_set
def A_:type_of% @List.length_replicate:=@List.length_replicate
def B_:type_of% @List.getElem?_take_of_lt:=@List.getElem?_take_of_lt
def C_:type_of% @Nat.le_of_ble_eq_true:=@Nat.le_of_ble_eq_true
def D_:type_of% @List.length_singleton:=@List.length_singleton
def E_:type_of% @List.mem_singleton:=@List.mem_singleton
def F_:type_of% @List.all_eq_true:=@List.all_eq_true
def G_:type_of% @List.append_assoc:=@List.append_assoc
def H_:type_of% @List.mem_cons_self:=@List.mem_cons_self
def I_:type_of% @Array.getElem?_eq_some_iff:=@Array.getElem?_eq_some_iff
def J_:type_of% @congrArg:=@congrArg
def K_:type_of% @Nat.mul_le_mul_right:=@Nat.mul_le_mul_right
def L_:type_of% @List.mem_cons_of_mem:=@List.mem_cons_of_mem
def M_:type_of% @Go.Sem.run_bind:=@Go.Sem.run_bind
def N_:type_of% @Go.run_underlying:=@Go.run_underlying
def O_:type_of% @ByteArray.size_append:=@ByteArray.size_append
def P_:type_of% @bne_self_eq_false:=@bne_self_eq_false
def Q_:type_of% @Nat.zero_le:=@Nat.zero_le
def R_:type_of% @Int.fdiv_eq_ediv_of_nonneg:=@Int.fdiv_eq_ediv_of_nonneg
def S_:type_of% @List.eq_nil_of_length_eq_zero:=@List.eq_nil_of_length_eq_zero
def T_:type_of% @List.append_nil:=@List.append_nil
def U_:type_of% @List.all_cons:=@List.all_cons
def V_:type_of% @Bool.or_eq_true:=@Bool.or_eq_true
def W_:type_of% @Bool.not_true:=@Bool.not_true
def X_:type_of% @List.getElem?_map:=@List.getElem?_map
def Y_:type_of% @List.length_drop:=@List.length_drop
def Z_:type_of% @Nat.add_assoc:=@Nat.add_assoc
def a0_:type_of% @Int.lt_irrefl:=@Int.lt_irrefl
def a1_:type_of% @beq_iff_eq:=@beq_iff_eq
def a2_:type_of% @List.flatMap_cons:=@List.flatMap_cons
def a3_:type_of% @List.length_map:=@List.length_map
def a4_:type_of% @List.getElem_mem:=@List.getElem_mem
def a5_:type_of% @Nat.add_mul:=@Nat.add_mul
def a6_:type_of% @Int.eq_ofNat_of_zero_le:=@Int.eq_ofNat_of_zero_le
def a7_:type_of% @Go.Sem.run_pure:=@Go.Sem.run_pure
def a8_:type_of% @List.take_of_length_le:=@List.take_of_length_le
def a9_:type_of% @BitVec.toNat_ofInt:=@BitVec.toNat_ofInt
def b0_:type_of% @List.pairwise_iff_getElem:=@List.pairwise_iff_getElem
def b1_:type_of% @List.drop_length:=@List.drop_length
def b2_:type_of% @Bool.not_eq_true':=@Bool.not_eq_true'
def b3_:type_of% @List.mem_map:=@List.mem_map
def b4_:type_of% @Nat.add_sub_cancel_left:=@Nat.add_sub_cancel_left
def b5_:type_of% @Array.getElem?_eq_getElem:=@Array.getElem?_eq_getElem
def b6_:type_of% @Option.some.injEq:=@Option.some.injEq
def b7_:type_of% @Nat.le_trans:=@Nat.le_trans
def b8_:type_of% @Int.le_refl:=@Int.le_refl
def b9_:type_of% @Nat.eq_of_beq_eq_true:=@Nat.eq_of_beq_eq_true
def c0_:type_of% @List.mem_flatMap:=@List.mem_flatMap
def c1_:type_of% @Bool.true_and:=@Bool.true_and
def c2_:type_of% @Nat.mul_one:=@Nat.mul_one
def c3_:type_of% @Nat.lt_of_lt_of_le:=@Nat.lt_of_lt_of_le
def c4_:type_of% @List.getElem?_drop:=@List.getElem?_drop
def c5_:type_of% @List.nil_append:=@List.nil_append
def c6_:type_of% @List.length_nil:=@List.length_nil
def c7_:type_of% @Bool.and_self:=@Bool.and_self
def c8_:type_of% @List.toList_toArray:=@List.toList_toArray
def c9_:type_of% @List.mem_iff_getElem?:=@List.mem_iff_getElem?
def d0_:type_of% @Nat.add_zero:=@Nat.add_zero
def d1_:type_of% @Nat.add_comm:=@Nat.add_comm
def d2_:type_of% @List.getElem?_append_left:=@List.getElem?_append_left
def d3_:type_of% @List.drop_zero:=@List.drop_zero
def d4_:type_of% @Bool.and_false:=@Bool.and_false
def d5_:type_of% @Nat.min_eq_left:=@Nat.min_eq_left
def d6_:type_of% @List.take_left':=@List.take_left'
def d7_:type_of% @List.getElem?_append_right:=@List.getElem?_append_right
def d8_:type_of% @Go.cell_of_row:=@Go.cell_of_row
def d9_:type_of% @Nat.blt_eq:=@Nat.blt_eq
def e0_:type_of% @List.range'_succ:=@List.range'_succ
def e1_:type_of% @Prod.mk.injEq:=@Prod.mk.injEq
def e2_:type_of% @Bool.false_and:=@Bool.false_and
def e3_:type_of% @Array.toArray_toList:=@Array.toArray_toList
def e4_:type_of% @Ne.symm:=@Ne.symm
def e5_:type_of% @Nat.xor_lt_two_pow:=@Nat.xor_lt_two_pow
def e6_:type_of% @Nat.ble_eq_true_of_le:=@Nat.ble_eq_true_of_le
def e7_:type_of% @Array.getElem?_modify:=@Array.getElem?_modify
def e8_:type_of% @Option.map_some:=@Option.map_some
def e9_:type_of% @Nat.mul_comm:=@Nat.mul_comm
def f0_:type_of% @List.mem_of_mem_take:=@List.mem_of_mem_take
def f1_:type_of% @List.mem_of_mem_drop:=@List.mem_of_mem_drop
def f2_:type_of% @Nat.lt_or_ge:=@Nat.lt_or_ge
def f3_:type_of% @Nat.lt_of_le_of_lt:=@Nat.lt_of_le_of_lt
def f4_:type_of% @List.pairwise_cons:=@List.pairwise_cons
def f5_:type_of% @Bool.false_eq_true:=@Bool.false_eq_true
def f6_:type_of% @if_false:=@if_false
def f7_:type_of% @Array.getElem?_setIfInBounds:=@Array.getElem?_setIfInBounds
def f8_:type_of% @Bool.and_true:=@Bool.and_true
def f9_:type_of% @Nat.mod_lt:=@Nat.mod_lt
def g0_:type_of% @List.getElem?_append:=@List.getElem?_append
def g1_:type_of% @Nat.mod_eq_of_lt:=@Nat.mod_eq_of_lt
def g2_:type_of% @List.set_set:=@List.set_set
def g3_:type_of% @List.not_mem_nil:=@List.not_mem_nil
def g4_:type_of% @Array.toList_map:=@Array.toList_map
end Go
namespace Go.Ab
def get{α:Type}:List (Nat×α)->Nat->Option α
 |[],_=>D
 |(k,v)::t,n=>bif J k n then C v else get t n
def del{α:Type}:List (Nat×α)->Nat->List (Nat×α)
 |[],_=>[]
 |(k,v)::t,n=>bif J k n then del t n else(k,v)::del t n
def put{α:Type}(l:List<|Nat×α)(n:Nat)(x:α):List<|Nat×α:=(n,x)::del l n
def has:List Nat->Nat->Bool
 |[],_=>I
 |k::t,n=>bif J k n then H else has t n
def M(α:Type):Type 1:=∀R:Type,(α->Option R)->Option R
namespace M
def ret{α:Type}(a:α):M α:=λ_ k=>k a
def bind{α β:Type}(m:M α)(f:α->M β):M β:=λR k=>m R λa=>f a R k
def fail{α:Type}:M α:=λ_ _=>D
def split(b:Bool):M Bool:=λ_ k=>bif b then k H else k I
def need(b:Bool):M Unit:=λ_ k=>bif b then k ()else D
def opt{α:Type}(o:Option α):M α:=λ_ k=>match o with|some a=>k a|none=>D
def val{α:Type}(m:M α):Option α:=m α C
def pick{α:Type}(k:Nat->M α)(i:Nat):Nat->Nat->M α
 |_,0=>M.fail
 |q,n+1=>M.bind (M.split<|J i q) λb=>match b with
  |true=>k q
  |false=>pick k i (q+1) n
instance:Monad M:={ pure:=ret,bind:=bind }
end M
inductive Cv(T:Nat->Type) where
 |sc (v:Value)
 |ptr (n off:Nat)
 |pd (n off s len i:Nat)
 |pr (n t i off:Nat)
 |own (n:Nat)
 |ro (t:Nat) (l:List (T t))
 |rp (t:Nat) (x:T t) (off:Nat)
 |clo (f:Nat) (fst caps:List (Nat×Nat))
 |np (n t:Nat)
 |sa (n off len:Nat)
inductive Pv(T:Nat->Type) where
 |one (c:Cv T)
 |agg (cs:List (Cv T))
inductive Sv(T:Nat->Type) where
 |p (x:Pv T)
 |tup (xs:List (Pv T))
inductive Blk(T:Nat->Type) where
 |cells (cs:List (Cv T))
 |row (t:Nat) (l:List (T t))
inductive Ty where
 |no|bool|int (k:IntKind)|flt (k:FloatKind)|str|sl (e:Nat)|pt (e:Nat)|fn
 |st (fs:List (Nat×Nat))|arr (n e:Nat)
def Ty.isAgg:Ty->Bool
 |.st _|.arr _ _=>H
 |_=>I
structure Sig where
 T:Nat->Type
 ty:Nat->Ty
 sz:Nat->Nat
 zero:Nat->List Value
 enc:(t:Nat)->T t->List (Cv T)
 dec:(t:Nat)->List (Cv T)->Option (T t)
 dfl:(t:Nat)->T t
 flat:Nat->Bool
 gl:Nat->Option ((t:Nat)×T t):=λ_=>none
 ext:Nat->Nat:=λ_=>0
 loose:Nat->Bool:=λ_=>true
variable{G:Sig}
def Pv.cells{T:Nat->Type}:Pv T->List (Cv T)
 |.one c=>[c]
 |.agg cs=>cs
def XE(op:BinOp)(x y:Int):Option Bool:=
 match op with
 |.eql=>C<|x==y
 |.neq=>C<|x !=y
 |.lss=>C<|decide<|x<y
 |.leq=>C<|decide<|x<=y
 |.gtr=>C<|decide<|x>y
 |.geq=>C<|decide<|x≥y
 |_=>D
def stk(x y:Int)(r:Nat):Int:=match x,y with
 |.ofNat _,.ofNat _=>(r:Int)
 |.ofNat _,.negSucc _=>(r:Int)
 |.negSucc _,.ofNat _=>(r:Int)
 |.negSucc _,.negSucc _=>(r:Int)
def Lc(x y:Int)(r:Nat):stk x y r=(r:Int):=by cases x<;>cases y<;>rfl
def Awa(op:BinOp)(k:IntKind)(x y:Int):Option Int:=
 match op with
 |.and=>C<|k.wrap<|stk x y (aA k.bits x&&&aA k.bits y).toNat
 |.or=>C<|k.wrap<|stk x y (aA k.bits x|||BitVec.ofInt k.bits y).toNat
 |.xor=>C<|k.wrap<|stk x y (aA k.bits x^^^aA k.bits y).toNat
 |.andNot=>C<|k.wrap<|stk x y (aA k.bits x&&& ~~~aA k.bits y).toNat
 |_=>D
def eqB(x y:ByteArray):Bool:=x.toList==y.toList
def ltB(x y:ByteArray):Bool:=Op.bytesLess x.toList y.toList
def Bpr(op:BinOp)(k:FloatKind)(x y:Nat):Option Bool:=
 match op with
 |.eql=>C<|k.format.order x y==C .eq
 |.neq=>C<|k.format.order x y !=C .eq
 |.lss=>C<|k.format.order x y==C .lt
 |.leq=>C<|k.format.order x y==C .lt||k.format.order x y==C .eq
 |.gtr=>C<|k.format.order x y==C .gt
 |.geq=>C<|k.format.order x y==C .gt||k.format.order x y==C .eq
 |_=>D
def arG(op:BinOp)(k:FloatKind)(x y:Nat):Option Nat:=
 match op with
 |.add=>k.format.add x y
 |.sub=>k.format.sub x y
 |.mul=>k.format.mul x y
 |.quo=>k.format.div x y
 |_=>D
def arF(op:BinOp)(k:FloatKind)(x y:Nat):Option Nat:=match x,y with
 |0,0=>arG op k 0 0
 |0,y+1=>arG op k 0<|y+1
 |x+1,0=>arG op k (x+1) 0
 |x+1,y+1=>arG op k (x+1)<|y+1
def Bnh(op:BinOp)(k:FloatKind)(x y:Nat):arF op k x y=arG op k x y:=by cases x<;>cases y<;>rfl
def Anx(k:FloatKind)(n:Int):Nat:=match n with
 |.ofNat _=>k.nearest n
 |.negSucc _=>k.nearest n
def Bf9(k:FloatKind)(n:Int):Anx k n=k.nearest n:=by cases n<;>rfl
def shI(op:BinOp)(k:IntKind)(x y:Int):Option Int:=
 match op with
 |.shl=>C<|k.wrap<|x*2^min y.toNat k.bits
 |.shr=>C<|x.fdiv<|2^min y.toNat k.bits
 |_=>D
def Ei:IntKind->IntKind->Bool
 |.i8,.i8|.i16,.i16|.i32,.i32|.i64,.i64|.u8,.u8|.u16,.u16|.u32,.u32|.u64,.u64=>H
 |_,_=>I
def Pr:FloatKind->FloatKind->Bool
 |.f32,.f32|.f64,.f64=>H
 |_,_=>I
def Cr(s:ByteArray)(i:Nat):Int:=((s.data.getD i 0).toNat:Int)
def Rr(op:BinOp)(k:IntKind)(a:Int)(k':IntKind)(b:Int):M Value:=
 match op with
 |.shl|.shr=>M.bind (M.need<|decide<|0<=b) λ_=>M.bind (M.opt<|shI op k a b) λr=>M.ret<|.int k r
 |.add=>M.bind (M.need<|Ei k k') λ_=>M.ret<|.int k<|k.wrap<|a+b
 |.sub=>M.bind (M.need<|Ei k k') λ_=>M.ret<|.int k<|k.wrap<|a-b
 |.mul=>M.bind (M.need<|Ei k k') λ_=>M.ret<|.int k<|k.wrap<|a*b
 |.quo=>M.bind (M.need<|Ei k k') λ_=>M.bind (M.need<|b !=0) λ_=>M.ret<|.int k<|k.wrap<|a.tdiv b
 |.rem=>M.bind (M.need<|Ei k k') λ_=>M.bind (M.need<|b !=0) λ_=>M.ret<|.int k<|a.tmod b
 |.and|.or|.xor|.andNot=>M.bind (M.need<|Ei k k') λ_=>M.bind (M.opt<|Awa op k a b) λr=>M.ret<|.int k r
 |_=>M.bind (M.need<|Ei k k') λ_=>M.bind (M.opt<|XE op a b) λr=>M.ret<|.bool r
def Afz(op:BinOp)(k:FloatKind)(a:Nat)(k':FloatKind)(b:Nat):M Value:=
 match op with
 |.add|.sub|.mul|.quo=>M.bind (M.need<|Pr k k') λ_=>M.bind (M.opt<|arF op k a b) λr=>M.ret<|.float k r
 |_=>M.bind (M.need<|Pr k k') λ_=>M.bind (M.opt<|Bpr op k a b) λr=>M.ret<|.bool r
def Af0(op:BinOp)(a b:ByteArray):M Value:=
 match op with
 |.add=>M.bind (M.need<|Nat.ble (a.size+b.size) 4611686018427387904) λ_=>M.ret<|.string<|a++b
 |.eql=>M.ret<|.bool<|eqB a b
 |.neq=>M.ret<|.bool<|!eqB a b
 |.lss=>M.ret<|.bool<|ltB a b
 |.leq=>M.ret<|.bool<|ltB a b||eqB a b
 |.gtr=>M.ret<|.bool<|!(ltB a b||eqB a b)
 |.geq=>M.ret<|.bool<|!ltB a b
 |_=>M.fail
def bin(op:BinOp)(x y:Value):M Value:=
 match x,y with
 |.int k a,.int k' b=>Rr op k a k' b
 |.float k a,.float k' b=>Afz op k a k' b
 |.string a,.string b=>Af0 op a b
 |_,_=>M.fail
def eqV:Value->Value->Option Bool
 |.int k a,.int k' b=>bif Ei k k' then C (a==b)else D
 |.bool a,.bool b=>C<|a==b
 |.string a,.string b=>C<|eqB a b
 |.float k a,.float k' b=>bif Pr k k' then C (k.format.order a b==C .eq)else D
 |_,_=>D
def Hc{T:Nat->Type}:List (Cv T)->List (Cv T)->Option Bool
 |[],[]=>C H
 |.sc a::d,.sc b::e=>
  match eqV a b,Hc d e with
  |some x,C y=>C<|x&&y
  |_,_=>D
 |_,_=>D
def intOf:Value->Int
 |.int _ n=>n
 |_=>0
def TV{T:Nat->Type}(k:IntKind):List (Cv T)->Option (List Int)
 |[]=>C []
 |.sc (.int k' n)::t=>bif Ei k k' then match TV k t with|some l=>C (n::l)|none=>D else D
 |_=>D
def Qf{T:Nat->Type}:List (Cv T)->Option (List Bool)
 |[]=>C []
 |.sc (.bool n)::t=>match Qf t with|some l=>C (n::l)|none=>D
 |_=>D
def TX{T:Nat->Type}:List (Cv T)->Option (List ByteArray)
 |[]=>C []
 |.sc (.string n)::t=>match TX t with|some l=>C (n::l)|none=>D
 |_=>D
def Ahw{T:Nat->Type}(l:List<|Cv T)(i:Nat):Option<|Cv T:=
 match l with
 |.sc (.int k _)::_=>match TV k l with|some ns=>C (.sc<|.int k<|ns.getD i 0)|none=>D
 |.sc (.bool _)::_=>match Qf l with|some ns=>C (.sc<|.bool<|ns.getD i I)|none=>D
 |.sc (.string _)::_=>match TX l with|some ns=>C (.sc<|.string<|ns.getD i ⟨#[]⟩)|none=>D
 |_=>l[i]?
def Ant{T:Nat->Type}(b:Bool)(c d:Cv T):Option<|Cv T:=
 match c,d with
 |.sc (.int k x),.sc (.int k' y)=>bif Ei k k' then C (.sc<|.int k<|bif b then x else y)else D
 |.sc (.bool x),.sc (.bool y)=>C<|.sc<|.bool<|bif b then x else y
 |.sc (.string x),.sc (.string y)=>C<|.sc<|.string<|bif b then x else y
 |_,_=>bif b then C c else C d
def ML{α:Type}:Nat->List α->Option (List α)
 |0,_=>C []
 |_+1,[]=>D
 |n+1,x::t=>match ML n t with|some l=>C (x::l)|none=>D
def NG{α:Type}:Nat->List α->Option (List α)
 |0,l=>C l
 |_+1,[]=>D
 |n+1,_::t=>NG n t
def part{α:Type}(cs:List α)(off n:Nat):Option<|List α:=match NG off cs with|some l=>ML n l|none=>D
def Kf{α:Type}:List α->Nat->List α->Option (List α)
 |cs,0,[]=>C cs
 |[],0,_::_=>D
 |_::t,0,x::new=>match Kf t 0 new with|some l=>C (x::l)|none=>D
 |[],_+1,_=>D
 |c::t,n+1,new=>match Kf t n new with|some l=>C (c::l)|none=>D
def Dc{α β:Type}(f:α->Option β):List α->Option (List β)
 |[]=>C []
 |a::t=>match f a,Dc f t with|some b,C l=>C (b::l)|_,_=>D
def Qw:Nat->List Nat
 |0=>[]
 |n+1=>Qw n++[n]
def DU(h:Nat->Option (Blk G.T))(n:Nat):Cv G.T->Option (List<|Cv G.T)
 |.ptr b off=>match h b with
  |some (.cells cs)=>part cs off n
  |_=>D
 |.pd b off s len i=>match h b with
  |some (.cells cs)=>Dc (λj=>match Dc (λq=>cs[off+q*s+j]?) (Qw len)with|some l=>Ahw l i|none=>D)<|Qw n
  |_=>D
 |.pr b t i off=>match h b with
  |some (.row a l)=>bif J t a then part (G.enc a<|l.getD i<|G.dfl a) off n else D
  |_=>D
 |.rp t x off=>part (G.enc t x) off n
 |_=>D
def Aa4{T:Nat->Type}(cs:List<|Cv T)(off s i:Nat)(new:List<|Cv T):List Nat->Option (List<|Cv T)
 |[]=>C cs
 |q::e=>match Aa4 cs off s i new e with
  |some a=>match part a (off+q*s) new.length with
   |some d=>match Dc (λp=>Ant (J i q) p.1 p.2) (new.zip d)with
    |some l=>Kf a (off+q*s) l
    |none=>D
   |none=>D
  |none=>D
def Tb{T:Nat->Type}:Cv T->Bool
 |.np _ _=>I
 |_=>H
def Kd(h:Nat->Option (Blk G.T))(new:List<|Cv G.T):Cv G.T->Option (Nat×Blk G.T)
 |.ptr b off=>match h b with
  |some (.cells cs)=>match Kf cs off new with|some a=>bif a.all Tb then C (b,.cells a)else D|none=>D
  |_=>D
 |.pd b off s len i=>match h b with
  |some (.cells cs)=>match Aa4 cs off s i new (Qw len)with|some a=>bif a.all Tb then C (b,.cells a)else D|none=>D
  |_=>D
 |.pr b t i off=>match h b with
  |some (.row d l)=>bif J t d then
    match Kf (G.enc d<|l.getD i<|G.dfl d) off new with
    |some a=>match G.dec d a with|some x=>C (b,.row d<|l.set i x)|none=>D
    |none=>D
   else D
  |_=>D
 |_=>D
def Lb{T:Nat->Type}(d:Nat):Cv T->Option (Cv T)
 |.ptr b off=>C<|.ptr b<|off+d
 |.pd b off s len i=>C<|.pd b (off+d) s len i
 |.pr b t i off=>C<|.pr b t i<|off+d
 |.rp t x off=>C<|.rp t x<|off+d
 |_=>D
def isP{T:Nat->Type}:Cv T->Bool
 |.ptr .. | .pd .. | .pr .. | .rp .. | .clo ..=>H
 |_=>I
def Sh(G:Sig)(t:Nat)(cs:List<|Cv G.T):Option<|Pv G.T:=bif(G.ty t).isAgg then C (.agg cs)else match cs with|[c]=>C (.one c)|_=>D
end Go.Ab
namespace Go.Ab
structure Out(G:Sig) where
 v:Option (Sv G.T)
 d:List (Nat×Option (Blk G.T))
 nw:List Nat
 rd:List Nat
structure St(G:Sig) where
 tm:List (Nat×Sv G.T)
 hp:List (Nat×Blk G.T)
 us:List Nat
def Ch(G:Sig):Type 1:=Nat->List (Pv G.T)->(Nat->Option (Blk G.T))->Nat->M (Out G)
variable{G:Sig}
def outP(x:Pv G.T):Out G:=⟨C<|.p x,[],[],[]⟩
def outV(v:Value):Out G:=outP<|.one<|.sc v
def Cv.rds{T:Nat->Type}:Cv T->List Nat
 |.ptr n _|.pd n _ _ _ _|.pr n _ _ _|.own n=>[n]
 |.sa n _ _=>[n]
 |_=>[]
def Po(G:Sig)(t a:Nat)(l:List<|G.T t):Option<|List<|G.T a:=if h:t=a then C (h▸l)else D
def Il(h:Nat->Option (Blk G.T))(e:Nat):Cv G.T->Option (List<|G.T e)
 |.sc (.slice D 0 0)=>C []
 |.own n=>match h n with|some (.row t l)=>Po G t e l|_=>D
 |.ro t l=>Po G t e l
 |_=>D
def An1{T:Nat->Type}:Pv T->Option (Nat×Nat)
 |.one (.ptr n off)=>C (n,off)
 |_=>D
def Ae5{T:Nat->Type}(a:Nat×Nat):Pv T:=.one<|.ptr a.1 a.2
def Aq0:Nat:=2147483648
section
variable(cf:Ch G)(ev:Operand->Option (Sv G.T))(h:Nat->Option (Blk G.T))(nm:Nat)
def evP(x:Operand):M<|Pv G.T:=λ_ k=>match ev x with|some (.p y)=>k y|_=>D
def evC(x:Operand):M<|Cv G.T:=λ_ k=>match ev x with|some (.p<|.one c)=>k c|_=>D
def evI(x:Operand):M<|IntKind×Int:=λ_ k=>match ev x with|some (.p<|.one<|.sc<|.int d n)=>k (d,n)|_=>D
def evB(x:Operand):M Bool:=λ_ k=>match ev x with|some (.p<|.one<|.sc<|.bool b)=>k b|_=>D
def Ul:List Operand->M (List<|Pv G.T)
 |[]=>M.ret []
 |x::t=>M.bind (evP ev x) λy=>M.bind (Ul t) λl=>M.ret<|y::l
def Gx(d:Nat)(m:Nat):Option Operand->M Nat
 |none=>M.ret d
 |some x=>M.bind (evI ev x) λi=>M.bind (M.need<|decide (0<=i.2)&&decide (i.2<=(m:Int))) λ_=>M.ret i.2.toNat
def XV(a:Nat->Option (Nat×Nat))(cells:List<|Cv G.T):List (Nat×Pv G.T)->Option (List<|Cv G.T)
 |[]=>C cells
 |(i,v)::rest=>match a i with
  |some (off,size)=>bif J v.cells.length size then
    match Kf cells off v.cells with|some cs=>XV a cs rest|none=>D
   else D
  |none=>D
def IH:List (Nat×Operand)->M (List<|Nat×Pv G.T)
 |[]=>M.ret []
 |(i,x)::t=>M.bind (evP ev x) λy=>M.bind (IH t) λl=>M.ret<|(i,y)::l
def Cf(G:Sig)(e:Nat):Nat->List (Cv G.T)->Option (List<|G.T e)
 |0,[]=>C []
 |0,_::_=>D
 |n+1,cs=>match ML (G.sz e) cs,NG (G.sz e) cs with
  |some a,C b=>match G.dec e a,Cf G e n b with
   |some x,C l=>C<|x::l
   |_,_=>D
  |_,_=>D
def RC:Value->Bool
 |.slice D 0 0=>H
 |_=>I
def MK:List Nat->List (Nat×Option (Blk G.T))
 |[]=>[]
 |n::t=>(n,D)::MK t
def Ajl(h:Nat->Option (Blk G.T)):Cv G.T->Cv G.T->Option (Cv G.T×List Nat)
 |.ro e _,.own n=>match h n with
  |some (.row t l)=>match Po G t e l with|some a=>C (.ro e a,[n])|none=>D
  |_=>D
 |.ro e _,.sc v=>C (bif RC v then .ro e []else .sc v,[])
 |_,c=>C (c,[])
def Pu(h:Nat->Option (Blk G.T)):List (Cv G.T)->List (Cv G.T)->Option (List (Cv G.T)×List Nat)
 |[],[]=>C ([],[])
 |w::d,c::cs=>match Ajl h w c,Pu h d cs with|some a,C b=>C (a.1::b.1,a.2++b.2)|_,_=>D
 |_,_=>D
def Bi8(G:Sig)(e:Nat):Nat->List (Cv G.T)
 |0=>[]
 |n+1=>G.enc e (G.dfl e)++Bi8 G e n
def Gb(G:Sig)(t:Nat):List<|Cv G.T:=(G.zero t).map .sc
def PJ(G:Sig)(t:Nat):Nat->List (Cv G.T)
 |0=>[]
 |n+1=>Gb G t++PJ G t n
def Aq1(e:Nat)(c:Cv G.T):M<|Out G:=match c with
 |.sa _ _ n=>M.ret<|outV<|.int .i64 (n:Int)
 |c=>M.bind (M.opt<|Il h e c) λl=>M.ret ⟨C<|.p<|.one<|.sc<|.int .i64 (l.length:Int),[],[],c.rds⟩
def VZ(t:Nat)(x:Operand):M<|Out G:=match G.ty t with
 |.str=>M.bind (evC ev x) λc=>match c with
  |.sc (.string s)=>M.ret<|outV<|.int .i64 (s.size:Int)
  |_=>M.fail
 |.arr n _=>M.ret<|outV<|.int .i64 (n:Int)
 |.sl e=>M.bind (evC ev x) λc=>Aq1 h e c
 |_=>M.fail
def Bh8(G:Sig)(e:Nat)(l:List<|G.T e)(cs:List<|Cv G.T)(off len:Nat):Option<|List<|Cv G.T:=
 match Dc (λj=>match cs[off+j]?,G.enc e (l.getD j<|G.dfl e)with
   |some o,[c]=>Ant (Nat.blt j l.length) c o
   |_,_=>D) (Qw len)with
 |some new=>Kf cs off new
 |none=>D
def NF{α:Type}(l a:List α):List α:=a.take l.length++l.drop a.length
def Ano(n m:Nat):Int:=bif Nat.ble n m then(n:Int)else(m:Int)
def Abw(i e:Nat)(d:List<|G.T e)(c f:Cv G.T):M<|Out G:=match c with
 |.own n=>match h n with
  |some (.row u l)=>M.bind (M.need<|J u e&&!has f.rds n) λ_=>M.bind (M.opt<|Po G e u d) λg=>M.ret ⟨C<|.p<|.one<|.sc<|.int .i64<|Ano d.length l.length,[(n,C<|.row u<|NF l g)],[],n::f.rds⟩
  |_=>M.fail
 |.sa n off len=>match h n with
  |some (.cells cs)=>M.bind (M.need<|J (G.sz e) 1&&!has f.rds n) λ_=>M.bind (M.opt<|Bh8 G e d cs off len) λa=>M.bind (M.need<|a.all Tb) λ_=>M.ret ⟨C<|.p<|.one<|.sc<|.int .i64<|Ano d.length len,[(n,C<|.cells a)],[],n::f.rds⟩
  |_=>M.fail
 |_=>M.fail
def QK(t d:Nat)(x y:Operand):M<|Out G:=match G.ty t with
 |.sl e=>M.bind (M.need<|J t d) λ_=>M.bind (evC ev x) λc=>M.bind (evC ev y) λa=>M.bind (M.opt<|Il h e a) λf=>Abw h t e f c a
 |_=>M.fail
def Av7(x y:Operand):M<|Out G:=M.bind (evI ev x) λa=>M.bind (evI ev y) λb=>M.bind (M.need<|Ei a.1 b.1) λ_=>M.ret<|outV<|.int a.1<|bif decide (b.2<a.2)then b.2 else a.2
def Av6(x y:Operand):M<|Out G:=M.bind (evI ev x) λa=>M.bind (evI ev y) λb=>M.bind (M.need<|Ei a.1 b.1) λ_=>M.ret<|outV<|.int a.1<|bif decide (a.2<b.2)then b.2 else a.2
def Ani(x y z:Operand):M<|Out G:=M.bind (evI ev x) λa=>M.bind (evI ev y) λb=>M.bind (evI ev z) λc=>
 M.bind (M.need<|Ei a.1 b.1) λ_=>M.bind (M.need<|Ei a.1 c.1) λ_=>
 M.ret (outV<|.int a.1<|bif decide (c.2<(bif decide (b.2<a.2)then b.2 else a.2))then c.2 else(bif decide (b.2<a.2)then b.2 else a.2))
def Anh(x y z:Operand):M<|Out G:=M.bind (evI ev x) λa=>M.bind (evI ev y) λb=>M.bind (evI ev z) λc=>
 M.bind (M.need<|Ei a.1 b.1) λ_=>M.bind (M.need<|Ei a.1 c.1) λ_=>
 M.ret (outV<|.int a.1<|bif decide ((bif decide (a.2<b.2)then b.2 else a.2)<c.2)then c.2 else(bif decide (a.2<b.2)then b.2 else a.2))
def Av1(e:Nat)(l d:List<|G.T e)(c a:Cv G.T):M<|Out G:=match c with
 |.sc _=>M.ret ⟨C<|.p<|.one<|.own nm,[(nm,C<|.row e<|l++d)],[nm],a.rds⟩
 |.own n=>M.bind (M.need<|!has a.rds n) λ_=>M.ret ⟨C<|.p<|.one<|.own nm,[(n,D),(nm,C<|.row e<|l++d)],[nm],n::a.rds⟩
 |_=>M.fail
def Lf(t f:Nat)(x y:Operand):M<|Out G:=match G.ty t with
 |.sl e=>M.bind (M.need<|J t f) λ_=>M.bind (evC ev x) λc=>M.bind (evC ev y) λd=>
   M.bind (M.opt<|Il h e c) λl=>M.bind (M.opt<|Il h e d) λa=>
   M.bind (M.need<|Nat.ble (l.length+a.length) Aq0) λ_=>Av1 nm e l a c d
 |_=>M.fail
def AK(b:Builtin)(tys:List Nat)(xs:List Operand):M<|Out G:=
 match b,tys,xs with
 |.len,t::_,[x]=>VZ ev h t x
 |.min,_,[x,y]=>Av7 ev x y
 |.max,_,[x,y]=>Av6 ev x y
 |.min,_,[x,y,z]=>Ani ev x y z
 |.max,_,[x,y,z]=>Anh ev x y z
 |.append,[t,a],[x,y]=>Lf ev h nm t a x y
 |.copy,[t,a],[x,y]=>QK ev h t a x y
 |_,_,_=>M.fail
def QH(x:Operand):M<|Out G:=λ_ k=>match ev x with|some s=>k ⟨C s,[],[],[]⟩|none=>D
def Vf(c a b:Operand):M<|Out G:=M.bind (evB ev c) λc=>M.bind (M.split c) λc=>QH ev<|bif c then a else b
def Aya(G:Sig)(t:Nat):Bool:=match G.ty t with
 |.st ((_,u)::_)=>match G.ty u with
  |.pt e=>J e t
  |_=>I
 |_=>I
def Are{T:Nat->Type}(n t:Nat):List (Cv T)->List (Cv T)
 |.sc (.pointer D)::r=>.np n t::r
 |l=>l
def UT(G:Sig)(n t:Nat):List<|Cv G.T:=bif Aya G t then Are n t (Gb G t)else Gb G t
def Zx(t:Nat):M<|Out G:=match G.ty t with
 |.no=>M.fail
 |_=>M.ret ⟨C<|.p<|.one<|.ptr nm 0,[(nm,C<|.cells<|UT G nm t)],[nm],[]⟩
def Zz(x:Operand):M<|Out G:=M.bind (evP ev x) λx=>M.bind (M.need<|x.cells.all Tb) λ_=>M.ret ⟨C<|.p<|.one<|.ptr nm 0,[(nm,C<|.cells x.cells)],[nm],[]⟩
def Ahk(G:Sig)(a:List<|Nat×Nat)(i:Nat):Option<|Nat×Nat:=match a[i]? with|some (o,u)=>C (o,G.sz u)|none=>D
def Bci(G:Sig)(e i:Nat):Option<|Nat×Nat:=C (i*G.sz e,G.sz e)
def Rj(t:Nat)(a:List<|Nat×Operand):M<|Out G:=match G.ty t with
 |.st d=>M.bind (IH ev a) λps=>M.bind (M.opt<|XV (Ahk G d) (Gb G t) ps) λcs=>M.ret<|outP<|.agg cs
 |.arr _ e=>M.bind (IH ev a) λps=>M.bind (M.opt<|XV (Bci G e) (Gb G t) ps) λcs=>M.ret<|outP<|.agg cs
 |_=>M.fail
def Aah:Ty->Bool
 |.fn=>H
 |_=>I
def Xf(e len:Nat)(cs:List<|Cv G.T):M<|Out G:=match Aah (G.ty e)with
 |true=>M.bind (M.need<|cs.all Tb) λ_=>M.ret ⟨C<|.p<|.one<|.sa nm 0 len,[(nm,C<|.cells cs)],[nm],[]⟩
 |false=>M.bind (M.opt<|Pu h (Bi8 G e len) cs) λq=>M.bind (M.opt<|Cf G e len q.1) λl=>M.ret ⟨C<|.p<|.one<|.own nm,MK q.2++[(nm,C<|.row e l)],[nm],q.2⟩
def Ew(t len:Nat)(a:List<|Nat×Operand):M<|Out G:=match G.ty t with
 |.sl e=>M.bind (IH ev a) λps=>M.bind (M.need<|Nat.ble len 65536&&Nat.ble (len*G.sz e) 16777216) λ_=>M.bind (M.opt<|XV (Bci G e) (PJ G e len) ps) λcs=>Xf h nm e len cs
 |_=>M.fail
def UK{α:Type}(i:Nat)(f:Nat->Option α):List Nat->M α
 |[]=>M.fail
 |q::t=>λR k=>bif J i q then(M.opt (f q):M α) R k else UK i f t R k
def Abu(h:Nat->Option (Blk G.T)):Cv G.T->Bool
 |.pd b off _ _ _=>match h b with
  |some (.cells cs)=>match cs[off]? with
   |some (.clo _ _ _)=>H
   |_=>I
  |_=>I
 |_=>I
def SZ(h:Nat->Option (Blk G.T))(n:Nat)(c:Cv G.T):M<|List<|Cv G.T:=bif Abu h c then match c with
  |.pd b off s len i=>UK i (λq=>DU h n<|.ptr b<|off+q*s)<|Qw len
  |_=>M.fail
 else M.opt (DU h n c)
def LH(t:Nat)(a:Operand):M<|Out G:=M.bind (evC ev a) λc=>M.bind (SZ h (G.sz t) c) λcs=>M.bind (M.opt<|Sh G t cs) λx=>M.ret ⟨C<|.p x,[],[],c.rds⟩
def Oc:Ty->Bool
 |.no=>H
 |_=>I
def RI(c:Cv G.T)(cs:List<|Cv G.T):M<|Out G:=M.bind (M.opt<|Kd h cs c) λr=>M.ret ⟨D,[(r.1,C r.2)],[],c.rds⟩
def Btg(G:Sig)(t off n:Nat):List<|Cv G.T:=match part (G.enc t<|G.dfl t) off n with
 |some l=>l
 |none=>[]
def Abh(c:Cv G.T)(cs:List<|Cv G.T):M<|Out G:=match c with
 |.pr b t i off=>M.bind (M.opt<|Pu h (Btg G t off cs.length) cs) λq=>M.bind (M.need<|!has q.2 b) λ_=>M.bind (M.opt<|Kd h q.1<|.pr b t i off) λr=>M.ret ⟨D,MK q.2++[(r.1,C r.2)],[],b::q.2⟩
 |c=>RI h c cs
def LY(t:Nat)(a x:Operand):M<|Out G:=M.bind (evC ev a) λc=>M.bind (evP ev x) λx=>M.bind (M.need<|J x.cells.length (G.sz t)&&!Oc (G.ty t)) λ_=>Abh h c x.cells
def ZA(x:Operand):M<|Out G:=M.bind (evC ev x) λc=>M.bind (M.need<|isP c) λ_=>M.ret<|outP<|.one c
def Aoy(y:Ty)(op:BinOp)(v u:Value):M<|Out G:=match y,v,u with
 |.bool,.bool a,.bool b=>match op with
  |.eql=>M.ret<|outV<|.bool<|a==b
  |.neq=>M.ret<|outV<|.bool<|!(a==b)
  |_=>M.fail
 |_,v,u=>M.bind (bin op v u) λr=>M.ret<|outV r
def BF:Value->Nat
 |.bool _=>1
 |.string _=>2
 |.int k _=>match k with
  |.i8=>3
  |.i16=>4
  |.i32=>5
  |.i64=>6
  |.u8=>7
  |.u16=>8
  |.u32=>9
  |.u64=>10
 |.float k _=>match k with
  |.f32=>11
  |.f64=>12
 |_=>0
def Ag3{T:Nat->Type}:Cv T->Nat
 |.sc v=>BF v
 |_=>0
def Ix:List Nat->List Nat->Bool
 |[],[]=>H
 |a::s,b::t=>J a b&&Ix s t
 |_,_=>I
def Ds{α:Type}(f:α->Nat):List α->List Nat
 |[]=>[]
 |a::t=>f a::Ds f t
def zk(G:Sig)(t:Nat):List Nat:=Ds BF<|G.zero t
def XU(G:Sig)(r:Nat->Bool):List (Nat×Nat)->Nat->List Nat->Bool
 |[],_,ks=>Ix ks []
 |p::t,off,ks=>J p.1 off&&r p.2&&match ML (G.sz p.2) ks,NG (G.sz p.2) ks with
  |some a,C b=>Ix a (zk G p.2)&&XU G r t (off+G.sz p.2) b
  |_,_=>I
def Ab1(G:Sig)(e:Nat):Nat->List Nat->Bool
 |0,ks=>Ix ks []
 |n+1,ks=>match ML (G.sz e) ks,NG (G.sz e) ks with
  |some a,C b=>Ix a (zk G e)&&Ab1 G e n b
  |_,_=>I
def Sd(G:Sig):Nat->Nat->Bool
 |0,_=>I
 |d+1,t=>match G.ty t with
  |.bool=>Ix (zk G t) [1]
  |.str=>Ix (zk G t) [2]
  |.int k=>Ix (zk G t) [BF<|.int k 0]
  |.st a=>XU G (Sd G d) a 0<|zk G t
  |.arr n e=>Sd G d e&&Ab1 G e n (zk G t)
  |_=>I
def Boa(G:Sig)(t:Nat)(cs a:List<|Cv G.T):Bool:=Sd G 20 t&&Ix (Ds Ag3 cs) (zk G t)&&Ix (Ds Ag3 a) (zk G t)
def Bpk{T:Nat->Type}(y:Ty)(c:Cv T):Option Bool:=match y,c with
 |.pt _,.ptr _ _=>C I
 |.pt _,.sc (.pointer D)=>C H
 |_,_=>D
def Axr{T:Nat->Type}:Cv T->Bool
 |.sc (.pointer D)=>H
 |_=>I
def Bem(op:BinOp)(q:Bool):M<|Out G:=match op with
 |.eql=>M.ret<|outV<|.bool q
 |.neq=>M.ret<|outV<|.bool<|!q
 |_=>M.fail
def Bel(op:BinOp)(t:Nat)(c d:Cv G.T):M<|Out G:=bif Axr d then M.bind (M.opt<|Bpk (G.ty t) c) λq=>Bem op q else match c,d with
 |.sc v,.sc u=>Aoy (G.ty t) op v u
 |_,_=>M.fail
def Ben(op:BinOp)(t:Nat)(a b:Pv G.T):M<|Out G:=match a,b with
 |.one c,.one d=>Bel op t c d
 |.agg cs,.agg e=>M.bind (M.need<|(G.ty t).isAgg&&Boa G t cs e) λ_=>M.bind (M.opt<|Hc cs e) λr=>match op with
  |.eql=>M.ret<|outV<|.bool r
  |.neq=>M.ret<|outV<|.bool<|!r
  |_=>M.fail
 |_,_=>M.fail
def Zy(op:BinOp)(t:Nat)(x y:Operand):M<|Out G:=M.bind (evP ev x) λa=>M.bind (evP ev y) λb=>Ben op t a b
def unP(op:UnOp)(c:Cv G.T):M<|Out G:=match op,c with
 |.not,.sc (.bool b)=>M.ret<|outV<|.bool<|!b
 |.neg,.sc (.int k n)=>M.ret<|outV<|.int k<|k.wrap<|0-n
 |.xor,.sc (.int k n)=>M.bind (M.opt<|Awa .xor k (if k.signed then -1 else k.max) n) λr=>M.ret<|outV<|.int k r
 |_,_=>M.fail
def aUn(op:UnOp)(x:Operand):M<|Out G:=M.bind (evC ev x) λc=>unP op c
def Abv(y:Ty)(c:Cv G.T):M<|Out G:=match y,c with
 |.int k,.sc (.int _ n)=>M.ret<|outV<|.int k<|k.wrap n
 |.str,.sc (.string s)=>M.ret<|outV<|.string s
 |.flt k,.sc (.int _ n)=>M.ret<|outV<|.float k<|Anx k n
 |_,_=>M.fail
def u8C{T:Nat->Type}:Cv T->Bool
 |.sc (.int .u8 _)=>H
 |_=>I
def roC{T:Nat->Type}:Cv T->Option Nat
 |.ro t _=>C t
 |_=>D
def Abq{T:Nat->Type}:List (Cv T)->UInt8
 |[.sc<|.int _ n]=>UInt8.ofNat n.toNat
 |_=>0
def Xi(G:Sig)(e:Nat)(l:List<|G.T e):ByteArray:=⟨(l.map λx=>Abq<|G.enc e x).toArray⟩
def Ae0:List Bool->Bool
 |[H]=>H
 |_=>I
def Bon:Ty->Bool
 |.int .u8=>H
 |_=>I
def Ag1:Ty->Bool
 |.str=>H
 |_=>I
def Pj(s t:Nat)(x:Operand):M<|Out G:=M.bind (M.need<|!Oc (G.ty s)) λ_=>M.bind (evC ev x) λc=>match G.ty s with
 |.sl e=>bif Ag1 (G.ty t)then M.bind (M.need<|Bon (G.ty e)&&Ae0 ((G.enc e<|G.dfl e).map u8C)) λ_=>M.bind (M.opt<|Il h e c) λl=>M.ret ⟨C<|.p<|.one<|.sc<|.string<|Xi G e l,[],[],c.rds⟩
  else Abv (G.ty t) c
 |_=>Abv (G.ty t) c
def Ve(f:Nat)(a b:List Operand):M<|Out G:=M.bind (Ul ev a) λa=>M.bind (Ul ev b) λb=>M.bind (M.opt<|Dc An1 a) λa=>M.bind (M.opt<|Dc An1 b) λb=>M.ret<|outP<|.one<|.clo f a b
def Ja(t:Nat)(n m:Operand):M<|Out G:=match G.ty t with
 |.sl e=>M.bind (evI ev n) λn=>M.bind (evI ev m) λm=>
   M.bind (M.need<|decide (0<=n.2)&&decide (n.2<=m.2)&&decide (m.2<=(Aq0:Int))) λ_=>
   M.bind (M.opt<|G.dec e<|Gb G e) λz=>
   M.ret ⟨C<|.p<|.one<|.own nm,[(nm,C<|.row e<|List.replicate n.2.toNat z)],[nm],[]⟩
 |_=>M.fail
def Xh(c:Cv G.T)(lo d:Option Operand):M<|Out G:=match c with
 |.sc (.string s)=>M.bind (Gx ev s.size s.size d) λb=>M.bind (Gx ev 0 b lo) λa=>M.ret<|outV<|.string<|s.extract a b
 |_=>M.fail
def Xg(c:Cv G.T)(f:Nat)(lo d:Option Operand):M<|Out G:=match c with
 |.ro e l=>M.bind (M.need<|J e f) λ_=>M.bind (Gx ev l.length l.length d) λb=>M.bind (Gx ev 0 b lo) λa=>M.ret<|outP<|.one<|.ro e<|(l.take b).drop a
 |_=>M.fail
def Ar2(n:Nat)(c:Cv G.T)(lo a:Option Operand):M<|Out G:=match c,lo,a with
 |.ptr b off,D,D=>M.ret<|outP<|.one<|.sa b off n
 |_,_,_=>M.fail
def Rm(t:Nat)(x:Operand)(lo a d:Option Operand):M<|Out G:=match d with
 |some _=>M.fail
 |none=>match G.ty t with
  |.str=>M.bind (evC ev x) λc=>Xh ev c lo a
  |.sl e=>M.bind (evC ev x) λc=>Xg ev c e lo a
  |.arr n _=>M.bind (evC ev x) λc=>Ar2 n c lo a
  |_=>M.fail
def IZ(t:Nat)(x:Operand)(f:Nat):M<|Out G:=match G.ty t with
 |.st a=>M.bind (evC ev x) λc=>M.bind (M.opt a[f]?) λo=>M.bind (M.opt<|Lb o.1 c) λc=>M.ret<|outP<|.one c
 |_=>M.fail
def Agl(a:List<|Nat×Nat)(x:Pv G.T)(f:Nat):M<|Out G:=match x with
 |.agg d=>M.bind (M.opt a[f]?) λo=>M.bind (M.opt<|part d o.1<|G.sz o.2) λcs=>M.bind (M.opt<|Sh G o.2 cs) λx=>M.ret<|outP x
 |.one _=>M.fail
def Rk(t:Nat)(x:Operand)(f:Nat):M<|Out G:=match G.ty t with
 |.st a=>M.bind (evP ev x) λx=>Agl a x f
 |_=>M.fail
def inB(i:Int)(n:Nat):Bool:=decide (0<=i)&&decide (i<(n:Int))
def ixA(n e:Nat)(c:Cv G.T)(i:Int):M<|Out G:=match c with
 |.ptr b off=>M.bind (M.need<|inB i n) λ_=>M.ret<|outP<|.one<|.pd b off (G.sz e) n i.toNat
 |.pr b t j off=>M.bind (M.need<|inB i n) λ_=>M.ret<|outP<|.one<|.pr b t j<|off+i.toNat*G.sz e
 |.rp t x off=>M.bind (M.need<|inB i n) λ_=>
   M.bind (M.opt<|Dc (λj=>match Dc (λq=>(G.enc t x)[off+q*G.sz e+j]?) (Qw n)with|some l=>Ahw l i.toNat|none=>D)<|Qw<|G.sz e) λcs=>
   M.bind (M.opt<|G.dec e cs) λy=>M.ret<|outP<|.one<|.rp e y 0
 |_=>M.fail
def ixS(a:Nat)(c:Cv G.T)(i:Int):M<|Out G:=match c with
 |.own b=>match h b with
  |some (.row e l)=>M.bind (M.need<|J e a) λ_=>M.bind (M.need<|inB i l.length) λ_=>M.ret ⟨C<|.p<|.one<|.pr b e i.toNat 0,[],[],[b]⟩
  |_=>M.fail
 |.ro e l=>M.bind (M.need<|J e a) λ_=>M.bind (M.need<|inB i l.length) λ_=>M.ret<|outP<|.one<|.rp e (l.getD i.toNat<|G.dfl e) 0
 |.sa b off len=>M.bind (M.need<|inB i len) λ_=>M.pick (λq=>M.ret<|outP<|.one<|.ptr b<|off+q*G.sz a) i.toNat 0 len
 |_=>M.fail
def FA(t:Nat)(x i:Operand):M<|Out G:=match G.ty t with
 |.arr n e=>M.bind (evC ev x) λc=>M.bind (evI ev i) λi=>ixA n e c i.2
 |.sl e=>M.bind (evC ev x) λc=>M.bind (evI ev i) λi=>ixS h e c i.2
 |_=>M.fail
def ixV(s:Cv G.T)(i:Int):M<|Out G:=match s with
 |.sc (.string s)=>M.bind (M.need<|inB i s.size) λ_=>M.ret<|outV<|.int .u8<|Cr s i.toNat
 |_=>M.fail
def Bh6{T:Nat->Type}:List (Cv T)->Bool
 |.clo _ _ _::_=>H
 |_=>I
def Bop(e:Nat)(a:List<|Cv G.T)(q:Nat):M<|Out G:=M.bind (M.opt<|part a (q*G.sz e)<|G.sz e) λcs=>M.bind (M.opt<|Sh G e cs) λy=>M.ret<|outP y
def Anu(n e:Nat)(x:Pv G.T)(i:Int):M<|Out G:=match x with
 |.agg a=>M.bind (M.need<|inB i n) λ_=>match Bh6 a with
  |true=>M.pick (Bop e a) i.toNat 0 n
  |false=>
   M.bind (M.opt<|Dc (λj=>match Dc (λq=>a[q*G.sz e+j]?) (Qw n)with|some l=>Ahw l i.toNat|none=>D)<|Qw<|G.sz e) λcs=>
   M.bind (M.opt<|Sh G e cs) λy=>M.ret<|outP y
 |.one _=>M.fail
def Rl(t:Nat)(x i:Operand):M<|Out G:=match G.ty t with
 |.arr n e=>M.bind (evP ev x) λc=>M.bind (evI ev i) λi=>Anu n e c i.2
 |.str=>M.bind (evC ev x) λc=>M.bind (evI ev i) λi=>ixV c i.2
 |_=>M.fail
def LX(x:Operand)(i:Nat):M<|Out G:=λ_ k=>match ev x with
 |some (.tup xs)=>match xs[i]? with|some y=>k (outP y)|none=>D
 |_=>D
def XS:List (Pv G.T)->M (Out G)
 |[.one<|.sc<|.float .f64 n]=>M.ret<|outV<|.int .u64 (n:Int)
 |_=>M.fail
def XT:List (Pv G.T)->M (Out G)
 |[.one<|.sc<|.int .u64 n]=>M.ret<|outV<|.float .f64 n.toNat
 |_=>M.fail
def XC(c:Cv G.T)(a:List<|Pv G.T):M<|Out G:=match c with
 |.clo g fst d=>match G.ext g with
  |0=>cf g (fst.map Ae5++(a++d.map Ae5)) h nm
  |1=>XS<|fst.map Ae5++(a++d.map Ae5)
  |_=>XT<|fst.map Ae5++(a++d.map Ae5)
 |_=>M.fail
def Pi(f:Operand)(xs:List Operand):M<|Out G:=M.bind (evC ev f) λc=>M.bind (Ul ev xs) λa=>XC cf h nm c a
def act:Op->M (Out G)
 |.move x|.assign x=>QH ev x
 |.pick c a b=>Vf ev c a b
 |.alloc t=>Zx nm t
 |.box _ x=>Zz ev nm x
 |.build t d=>Rj ev t d.toList
 |.buildSlice t len d=>Ew ev h nm t len d.toList
 |.load t a=>LH ev h t a
 |.store t a x=>LY ev h t a x
 |.nilCheck x=>ZA ev x
 |.binOp op t x y _=>Zy ev op t x y
 |.unOp op _ x=>aUn ev op x
 |.convert s t x=>Pj ev h s t x
 |.makeFunc (.func f) a b=>Ve ev f a.toList b.toList
 |.makeSlice t n m=>Ja ev nm t n m
 |.slice t x lo g e=>Rm ev t x lo g e
 |.fieldAddr t x f=>IZ ev t x f
 |.field t x f=>Rk ev t x f
 |.indexAddr t x i=>FA ev h t x i
 |.index t x i=>Rl ev t x i
 |.extract x i=>LX ev x i
 |.call ⟨.builtin b,xs,tys⟩=>AK ev h nm b tys.toList xs.toList
 |.call ⟨.value f,xs,_⟩=>Pi cf ev h nm f xs.toList
 |_=>M.fail
end
def Kc:Value->Bool
 |.bool _|.int _ _|.float _ _|.string _|.nilFunc|.nilIface|.pointer D|.slice D 0 0|.map D=>H
 |_=>I
def KI(tm:List<|Nat×Sv G.T):Operand->Option (Sv G.T)
 |.tmp t=>get tm t
 |.const (.agg cs)=>bif cs.toList.all Kc then C (.p<|.agg<|cs.toList.map .sc)else D
 |.const v=>bif Kc v then C (.p<|.one<|.sc v)else D
 |.func f=>C<|.p<|.one<|.clo f [] []
 |.global g=>match G.gl g with|some p=>C (.p<|.one<|.rp p.1 p.2 0)|none=>D
def Ae6(hp:List<|Nat×Blk G.T):List (Nat×Option (Blk G.T))->List (Nat×Blk G.T)
 |[]=>hp
 |(n,D)::t=>Ae6 (del hp n) t
 |(n,C b)::t=>Ae6 (put hp n b) t
def JD(us:List Nat):List Nat->Bool
 |[]=>H
 |n::t=>!has us n&&JD us t
def St.next(st:St G)(a:Option Nat)(o:Out G):St G:=
 {tm:=match a with
   |some d=>match o.v with|some v=>put st.tm d v|none=>del st.tm d
   |none=>st.tm
  hp:=Ae6 st.hp o.d
  us:=o.nw++st.us }
def St.drop(st:St G)(a:Option Nat):St G:=
 match a with
 |some d=>{ st with tm:=put st.tm d (.tup []) }
 |none=>st
def Anp(base:Nat):Option Nat->Nat
 |some d=>base+16*d
 |none=>base
def Agw(tm:List<|Nat×Sv G.T)(g:Option Nat)(a:Bool):M<|Bool×Option (Nat×Bool):=λ_ k=>
 match g with
 |some g=>match get tm g with
  |some (.p<|.one<|.sc<|.bool b)=>bif b then k (a,C (g,H))else k (!a,C (g,I))
  |some (.tup [])=>k (I,D)
  |_=>D
 |none=>D
def To(ops:Array Oper)(tm:List<|Nat×Sv G.T)(o:Oper):M<|Bool×Option (Nat×Bool):=
 match o.guard with
 |none=>M.ret (H,D)
 |some (j,a)=>Agw tm ((ops[j]?).bind (·.dst)) a
def St.note(st:St G):Option (Nat×Bool)->St G
 |some (g,b)=>{ st with tm:=put st.tm g (.p<|.one<|.sc<|.bool b) }
 |none=>st
def NH(nt:Nat):Option Nat->Bool
 |some d=>Nat.blt d nt
 |none=>H
section
variable(cf:Ch G)(nt:Nat)
def An7(ops:Array Oper)(o:Oper)(st:St G):M<|St G:=
 M.bind (M.need<|NH nt o.dst) λ_=>M.bind (To ops st.tm o) λg=>
  match g.1 with
  |true=>M.bind (act cf (KI st.tm) (get st.hp) (Anp 0 o.dst) o.op) λout=>M.bind (M.need<|JD st.us out.nw) λ_=>M.ret<|(st.note g.2).next o.dst out
  |false=>M.ret<|(st.note g.2).drop o.dst
def UH(ops:Array Oper):List Oper->St G->M (St G)
 |[],st=>M.ret st
 |o::t,st=>M.bind (An7 cf nt ops o st) λst=>UH ops t st
end
end Go.Ab
namespace Go.Ab
inductive Ex where
 |normal|exit (id:Nat)|ret
def ZX:Ex->Ex->Bool
 |.normal,.normal=>H
 |.exit i,.exit j=>J i j
 |.ret,.ret=>H
 |_,_=>I
inductive CSh where
 |int (k:IntKind)|bool|str|flt (k:FloatKind)
 |own (m t:Nat)|ro (t:Nat)|rp (t off:Nat)|ptr (n off:Nat)|clo (f:Nat) (p q:List (Nat×Nat))|np (n t:Nat)|nili|sa (n off len:Nat)|nilp|lit (k:IntKind) (n:Int)|sh (m:Nat)
inductive PSh where
 |one (c:CSh)
 |agg (cs:List CSh)
structure Spec where
 tm:List (Nat×PSh)
 hp:List (Nat×List CSh)
 us:List Nat
def lo:Nat:=65536
variable{G:Sig}
def CSh.T(G:Sig):CSh->Type
 |.int _=>Int
 |.bool=>Bool
 |.str=>ByteArray
 |.flt _=>Nat
 |.own _ t=>List<|G.T t
 |.ro t=>List<|G.T t
 |.rp t _=>G.T t
 |.ptr _ _=>Unit
 |.clo _ _ _=>Unit
 |.np _ _=>Unit
 |.nili=>Unit
 |.nilp=>Unit
 |.lit _ _=>Unit
 |.sa _ _ _=>Unit
 |.sh _=>Unit
def TL(G:Sig):List CSh->Type
 |[]=>Unit
 |s::t=>s.T G×TL G t
def PSh.T(G:Sig):PSh->Type
 |.one c=>c.T G
 |.agg cs=>TL G cs
def TmT(G:Sig):List (Nat×PSh)->Type
 |[]=>Unit
 |p::t=>p.2.T G×TmT G t
def HpT(G:Sig):List (Nat×List CSh)->Type
 |[]=>Unit
 |p::t=>TL G p.2×HpT G t
def Spec.T(G:Sig)(s:Spec):Type:=TmT G s.tm×HpT G s.hp
def CSh.give:(s:CSh)->s.T G->Cv G.T
 |.int k,n=>.sc<|.int k n
 |.bool,b=>.sc<|.bool b
 |.str,x=>.sc<|.string x
 |.flt k,n=>.sc<|.float k n
 |.own m _,_=>.own m
 |.ro t,l=>.ro t l
 |.rp t off,x=>.rp t x off
 |.ptr n off,_=>.ptr n off
 |.clo f p q,_=>.clo f p q
 |.np n t,_=>.np n t
 |.nili,_=>.sc .nilIface
 |.nilp,_=>.sc<|.pointer D
 |.lit k n,_=>.sc<|.int k n
 |.sa n off len,_=>.sa n off len
 |.sh m,_=>.own m
def CSh.blk:(s:CSh)->s.T G->List (Nat×Blk G.T)
 |.own m t,l=>[(m,.row t l)]
 |_,_=>[]
def CZ:(s:List CSh)->TL G s->List (Cv G.T)
 |[],_=>[]
 |c::t,x=>c.give x.1::CZ t x.2
def Adz:(s:List CSh)->TL G s->List (Nat×Blk G.T)
 |[],_=>[]
 |c::t,x=>c.blk x.1++Adz t x.2
def PSh.give:(s:PSh)->s.T G->Pv G.T
 |.one c,x=>.one<|c.give x
 |.agg cs,x=>.agg<|CZ cs x
def PSh.blk:(s:PSh)->s.T G->List (Nat×Blk G.T)
 |.one c,x=>c.blk x
 |.agg cs,x=>Adz cs x
def Jg:(s:List<|Nat×PSh)->TmT G s->List (Nat×Sv G.T)
 |[],_=>[]
 |p::t,x=>(p.1,.p<|p.2.give x.1)::Jg t x.2
def ND:(s:List<|Nat×PSh)->TmT G s->List (Nat×Blk G.T)
 |[],_=>[]
 |p::t,x=>p.2.blk x.1++ND t x.2
def Ib:(s:List<|Nat×List CSh)->HpT G s->List (Nat×Blk G.T)
 |[],_=>[]
 |p::t,x=>(p.1,.cells<|CZ p.2 x.1)::Ib t x.2
def SN:(s:List<|Nat×List CSh)->HpT G s->List (Nat×Blk G.T)
 |[],_=>[]
 |p::t,x=>Adz p.2 x.1++SN t x.2
def BB:List (Nat×Blk G.T)->List Nat
 |[]=>[]
 |p::t=>p.1::BB t
def Spec.mk'(s:Spec)(x:s.T G):St G:=
 let h:=ND s.tm x.1++(SN s.hp x.2++Ib s.hp x.2)
 ⟨Jg s.tm x.1,h,BB h++s.us⟩
structure Tk(α:Type) where
 x:α
 nm:List (Nat×Option Nat)
 fz:List Nat
 sh:List (Nat×Nat)
def Awo(G:Sig)(t a:Nat)(x:G.T t):Option<|G.T a:=if h:t=a then C (h▸x)else D
def XQ:List (Nat×Nat)->List (Nat×Nat)->Bool
 |[],[]=>H
 |a::s,b::t=>J a.1 b.1&&J a.2 b.2&&XQ s t
 |_,_=>I
def tk0{α:Type}(x:α):Option<|Tk α:=C ⟨x,[],[],[]⟩
def YD(h:Nat->Option (Blk G.T))(n t:Nat):Option<|List<|G.T t:=match h n with
 |some (.row a l)=>Po G a t l
 |_=>D
def Axj(k:IntKind)(n:Int):Value->Bool
 |.int k' m=>Ei k k'&&decide (n=m)
 |_=>I
def Aqt:Value->Bool
 |.pointer D=>H
 |_=>I
def Aqs:Value->Bool
 |.nilIface=>H
 |_=>I
section
variable(h:Nat->Option (Blk G.T))
def CSh.take:(s:CSh)->Cv G.T->Option (Tk<|s.T G)
 |.int k,.sc (.int k' n)=>bif Ei k k' then tk0 n else D
 |.bool,.sc (.bool b)=>tk0 b
 |.str,.sc (.string x)=>tk0 x
 |.flt k,.sc (.float k' n)=>bif Pr k k' then tk0 n else D
 |.own m t,.own n=>match YD h n t with|some l=>C ⟨l,[(m,C n)],[],[]⟩|none=>D
 |.own m _,.sc v=>bif RC v then C ⟨[],[(m,D)],[],[]⟩else D
 |.ro t,.ro d l=>match Po G d t l with|some l=>tk0 l|none=>D
 |.ro t,.own n=>match YD h n t with|some l=>C ⟨l,[],[n],[]⟩|none=>D
 |.ro _,.sc v=>bif RC v then tk0 []else D
 |.rp t off,.rp d x a=>bif J off a then match Awo G d t x with|some x=>tk0 x|none=>D else D
 |.ptr n off,.ptr e a=>bif J n e&&J off a then tk0 ()else D
 |.clo f p q,.clo i j u=>bif J f i&&XQ p j&&XQ q u then tk0 ()else D
 |.np n t,.np e d=>bif J n e&&J t d then tk0 ()else D
 |.nili,.sc v=>bif Aqs v then tk0 ()else D
 |.nilp,.sc v=>bif Aqt v then tk0 ()else D
 |.lit k n,.sc v=>bif Axj k n v then tk0 ()else D
 |.sh m,.own n=>C ⟨(),[],[],[(m,n)]⟩
 |.sa n off len,.sa e a g=>bif J n e&&(J off a&&J len g)then tk0 ()else D
 |_,_=>D
def Iq:(s:List CSh)->List (Cv G.T)->Option (Tk<|TL G s)
 |[],[]=>tk0 ()
 |s::t,c::cs=>match s.take h c,Iq t cs with
  |some a,C b=>C ⟨(a.x,b.x),a.nm++b.nm,a.fz++b.fz,a.sh++b.sh⟩
  |_,_=>D
 |_,_=>D
def PSh.take:(s:PSh)->Pv G.T->Option (Tk<|s.T G)
 |.one s,.one c=>s.take h c
 |.agg a,.agg cs=>Iq h a cs
 |_,_=>D
def Ig(tm:List<|Nat×Sv G.T):(s:List<|Nat×PSh)->Option (Tk<|TmT G s)
 |[]=>tk0 ()
 |p::t=>match get tm p.1 with
  |some (.p c)=>match p.2.take h c,Ig tm t with
   |some a,C b=>C ⟨(a.x,b.x),a.nm++b.nm,a.fz++b.fz,a.sh++b.sh⟩
   |_,_=>D
  |_=>D
def Kh:(s:List<|Nat×List CSh)->Option (Tk<|HpT G s)
 |[]=>tk0 ()
 |p::t=>match h p.1 with
  |some (.cells cs)=>match Iq h p.2 cs,Kh t with
   |some a,C b=>C ⟨(a.x,b.x),a.nm++b.nm,a.fz++b.fz,a.sh++b.sh⟩
   |_,_=>D
  |_=>D
end
def Ie:List Nat->Bool
 |[]=>H
 |n::t=>!has t n&&Ie t
def DO:List (Nat×Option Nat)->List Nat
 |[]=>[]
 |p::t=>p.1::DO t
def Eb:List (Nat×Option Nat)->List Nat
 |[]=>[]
 |(_,C n)::t=>n::Eb t
 |(_,D)::t=>Eb t
def WH(l:List Nat):List Nat->Bool
 |[]=>H
 |n::t=>has l n&&WH l t
def SW:List (Nat×Nat)->List Nat
 |[]=>[]
 |p::t=>p.1::SW t
def CSh.fix(l:List Nat):CSh->Bool
 |.ptr n _=>has l n
 |.clo _ p q=>WH l (SW p)&&WH l (SW q)
 |.np n _=>has l n
 |.sa n _ _=>has l n
 |_=>H
def PSh.fix(l:List Nat):PSh->Bool
 |.one c=>c.fix l
 |.agg cs=>cs.all<|CSh.fix l
def Ay:List (Nat×List CSh)->List Nat
 |[]=>[]
 |p::t=>p.1::Ay t
def XK:List Nat->List Nat->Bool
 |[],_=>H
 |n::t,l=>!has l n&&XK t l
def Xv:List Nat->Bool
 |[]=>H
 |n::t=>Nat.blt n lo&&Xv t
def Afs(us:List Nat):List Nat->Bool
 |[]=>H
 |n::t=>(Nat.blt n lo||has us n)&&Afs us t
def Ahy(m n:Nat):List (Nat×Option Nat)->Bool
 |[]=>I
 |(k,C j)::t=>J k m&&J j n||Ahy m n t
 |(_,D)::t=>Ahy m n t
def Afg(nm:List<|Nat×Option Nat):List (Nat×Nat)->Bool
 |[]=>H
 |p::t=>Ahy p.1 p.2 nm&&Afg nm t
def Spec.take(s:Spec)(st:St G):Option<|s.T G:=match Ig (get st.hp) st.tm s.tm,Kh (get st.hp) s.hp with
 |some a,C b=>
  bif s.tm.all (λp=>p.2.fix<|Ay s.hp)&&s.hp.all (λp=>p.2.all<|CSh.fix<|Ay s.hp)&&
   (Ie (DO (a.nm++b.nm)++Ay s.hp)&&Xv (DO<|a.nm++b.nm)&&Ie (Eb (a.nm++b.nm)++Ay s.hp)&&XK (Eb (a.nm++b.nm)++Ay s.hp) (a.fz++b.fz)&&(Afg (a.nm++b.nm) (a.sh++b.sh)&&Afs s.us st.us))
  then C (a.x,b.x)else D
 |_,_=>D
def Ev(G:Sig):List (Ex×Spec)->Type
 |[]=>Empty
 |[p]=>p.2.T G
 |p::q::t=>Sum (p.2.T G)<|Ev G<|q::t
def Hu:(E:List<|Ex×Spec)->Ex->St G->Option (Ev G E)
 |[],_,_=>D
 |[p],e,st=>bif ZX e p.1 then p.2.take st else D
 |p::q::t,e,st=>match bif ZX e p.1 then p.2.take st else D with
  |some x=>C<|.inl x
  |none=>match Hu (q::t) e st with|some y=>C (.inr y)|none=>D
def FZ{R:Type}:(E:List<|Ex×Spec)->Ev G E->(Ex×St G->Option R)->Option R
 |[],y,_=>y.elim
 |[p],y,k=>k (p.1,p.2.mk' y)
 |p::q::t,y,k=>match y with
  |.inl x=>k (p.1,p.2.mk' x)
  |.inr y=>FZ (q::t) y k
def Aps(E:List<|Ex×Spec)(m:M<|Ex×St G):M<|Ex×St G:=λ_ k=>(m _ λp=>Hu E p.1 p.2).bind λy=>FZ E y k
def Ai6:Option (List<|Ex×Spec)->M (Ex×St G)->M (Ex×St G)
 |none,m=>m
 |some E,m=>Aps E m
def Arl(S:Spec)(E:List<|Ex×Spec)(e:Ex)(st:St G):Option<|Sum (S.T G)<|Ev G E:=match e with
 |.normal=>match S.take st with|some x=>C (.inl x)|none=>D
 |e=>match Hu E e st with|some y=>C (.inr y)|none=>D
def RH(S:Spec)(E:List<|Ex×Spec)(a:St G->M (Ex×St G))(x:S.T G):Option<|Sum (S.T G)<|Ev G E:=a (S.mk' x) _ λp=>Arl S E p.1 p.2
class Un (X F:Type) (R:outParam Type) where
 u:F->X->R
instance(priority:=low) un_leaf{X R:Type}:Un X (X->R) R:=⟨λf x=>f x⟩
instance un_unit{R:Type}:Un Unit R R:=⟨λf _=>f⟩
instance un_pair{X Y R F K:Type}[Un X F K][Un Y K R]:Un (X×Y) F R:=⟨λf x=>Un.u (Un.u f x.1:K) x.2⟩
class Ur (F:Type) (X Y:outParam Type)
instance ur0{X Y:Type}:Ur (Option (Sum X Y)) X Y:=⟨⟩
instance ur1{A F X Y:Type}[Ur F X Y]:Ur (A->F) X Y:=⟨⟩
def Rn{X Y:Type}(g:X->Option Y):Option (Sum X Y)->Option Y
 |some (.inl x)=>g x
 |some (.inr y)=>C y
 |none=>D
def iter{X Y:Type}(step:X->Option (Sum X Y)):Nat->X->Option Y
 |0,_=>D
 |f+1,x=>Rn (iter step f)<|step x
def lpX(S:Spec)(E:List<|Ex×Spec)(L:S.T G->Option (Ev G E))(st:St G):M<|Ex×St G:=λ_ k=>
 match S.take st with
 |some x=>(L x).bind λy=>FZ E y k
 |none=>D
end Go.Ab
namespace Go.Ab
variable{G:Sig}
def Gy:Code->Nat
 |.seq a b=>Gy a+Gy b
 |.cond _ a b=>Gy a+Gy b
 |.block _ a=>Gy a
 |.loop a=>Gy a+1
 |_=>0
def Ai7{α:Type}(l:List<|Nat×α):List Nat->List (Nat×α)
 |[]=>l
 |n::t=>Ai7 (del l n) t
def St.kill(st:St G)(ks:List Nat):St G:={ st with tm:=Ai7 st.tm ks }
def Af8(tm:List<|Nat×Sv G.T)(t:Nat):M<|Bool×Option (Nat×Bool):=λ_ k=>
 match get tm t with
 |some (.p<|.one<|.sc<|.bool b)=>bif b then k (H,C (t,H))else k (I,C (t,I))
 |_=>D
def Ann:Value->M (Bool×Option (Nat×Bool))
 |.bool b=>M.ret (b,D)
 |_=>M.fail
def XI(tm:List<|Nat×Sv G.T):Operand->M (Bool×Option (Nat×Bool))
 |.tmp t=>Af8 tm t
 |.const v=>Ann v
 |_=>M.fail
section
variable(cf:Ch G)(nt:Nat)(drawn:Array Oper->St G->M (St G))(lp:Nat->St G->M (Ex×St G))(kl:Nat->List Nat)(jn:Nat->Option (List (Ex×Spec)))
def Axe:Code->Nat
 |.seq a _=>Axe a
 |.block _ a=>Axe a
 |.region id _ _=>id+1
 |_=>0
def Bh9:Nat:=1048576
def Bs2:Nat:=2097152
def Axw(id:Nat)(f:St G->M (Ex×St G))(st:St G):M<|Ex×St G:=M.bind (Ai6 (jn<|Bs2+id)<|M.ret (.normal,st)) λp=>match p.1 with
 |.normal=>f p.2
 |_=>M.fail
def CA:Nat->Code->St G->M (Ex×St G)
 |_,.skip,st=>M.ret (.normal,st)
 |_,.ret,st=>M.ret (.ret,st)
 |_,.exit id,st=>M.ret (.exit id,st)
 |n,.seq a b,st=>M.bind (Ai6 (jn<|Axe b)<|CA n a st) λp=>match p.1 with
  |.normal=>CA (n+Gy a) b p.2
  |e=>M.ret (e,p.2)
 |n,.cond c a b,st=>M.bind (XI st.tm c) λp=>match p.1 with
  |true=>CA n a<|st.note p.2
  |false=>CA (n+Gy a) b<|st.note p.2
 |n,.block id a,st=>M.bind (CA n a st) λp=>match p.1 with
  |.exit i=>M.ret (bif J i id then .normal else .exit i,p.2)
  |e=>M.ret (e,p.2)
 |n,.loop _,st=>lp n st
 |_,.region id ops I,st=>Axw jn id (λst=>Ai6 (jn<|Bh9+id) (M.bind (UH cf nt ops ops.toList st) λst=>M.ret (.normal,st.kill<|kl id))) st
 |_,.region id ops H,st=>Axw jn id (λst=>Ai6 (jn<|Bh9+id) (M.bind (drawn ops st) λst=>M.ret (.normal,st.kill<|kl id))) st
 |_,_,_=>M.fail
end
def Iy{α:Type}:Nat->List α->List (Nat×α)
 |_,[]=>[]
 |n,x::t=>(n,x)::Iy (n+1) t
def QS(st:St G):ResultVar->Option (Pv G.T)
 |.tmp t=>match get st.tm t with|some (.p x)=>C x|_=>D
 |.cell a t=>match get st.tm a with
  |some (.p<|.one c)=>match DU (get st.hp) (G.sz t) c with|some cs=>Sh G t cs|none=>D
  |_=>D
def Gg(st:St G):List ResultVar->Option (List<|Pv G.T)
 |[]=>C []
 |r::t=>match QS st r,Gg st t with|some x,C l=>C (x::l)|_,_=>D
def MX(st:St G)(rs:List ResultVar):Option<|Sv G.T:=match Gg st rs with
 |some [x]=>C<|.p x
 |some l=>C<|.tup l
 |none=>D
end Go.Ab
namespace Go.Ab
def F2{α β:Type}(R:α->β->Prop)(xs:List α)(ys:List β):Prop:=xs.length=ys.length/\∀(i:Nat) x y,xs[i]?=C x->ys[i]?=C y->R x y
def F2.nil{α β:Type}{R:α->β->Prop}:F2 R [] []:=⟨rfl,λi x y h=>by simp at h⟩
def F2.cons{α β:Type}{R:α->β->Prop}{x:α}{y:β}{xs:List α}{ys:List β}(h:R x y)(t:F2 R xs ys):F2 R (x::xs)<|y::ys:=by
 refine⟨by simp[t.1],λi a b e d=>?_⟩;cases i with
 |zero=>simp at e d;subst e;subst d;exact h
 |succ i=>simp at e d;exact t.2 i a b e d
def F2.tail{α β:Type}{R:α->β->Prop}{x:α}{y:β}{xs:List α}{ys:List β}(h:F2 R (x::xs)<|y::ys):R x y/\F2 R xs ys:=⟨h.2 0 x y rfl rfl,by have:=h.1;simp at this;exact this,λi a b e d=>h.2 (i+1) a b (by simp[e]) (by simp[d])⟩
def F2.inv{α β:Type}{R:α->β->Prop}{x:α}{xs:List α}{ys:List β}(h:F2 R (x::xs) ys):∃y t,ys=y::t/\R x y/\F2 R xs t:=by
 cases ys with
 |nil=>exact absurd h.1 σ
 |cons y t=>exact⟨y,t,rfl,h.tail⟩
def F2.inv_nil{α β:Type}{R:α->β->Prop}{ys:List β}(h:F2 R [] ys):ys=[]:=by
 cases ys with
 |nil=>rfl
 |cons y t=>exact absurd h.1 σ
def F2.mono{α β:Type}{R a:α->β->Prop}{xs:List α}{ys:List β}(h:F2 R xs ys)(hr:∀x y,R x y->a x y):F2 a xs ys:=⟨h.1,λi x y e d=>hr _ _<|h.2 i x y e d⟩
def F2.append{α β:Type}{R:α->β->Prop}{xs f:List α}{ys e:List β}(h:F2 R xs ys)(h':F2 R f e):F2 R (xs++f)<|ys++e:=by
 refine⟨by simp[h.1,h'.1],λi x y a d=>?_⟩;rw[g0_]at a d;rw[h.1]at a;by_cases g:i<ys.length
 .simp only[g,if_true]at a d;exact h.2 i x y a d
 .simp only[g,f6_]at a d;exact h'.2 _ x y a d
def F2.map_left{α β γ:Type}{R:α->β->Prop}{f:γ->α}{xs:List γ}{ys:List β}(h:F2 (λc v=>R (f c) v) xs ys):F2 R (xs.map f) ys:=by
 refine⟨by simp[h.1],λi x y a e=>?_⟩;rw[X_]at a;cases d:xs[i]? with
 |none=>simp[d]at a
 |some c=>simp[d]at a;subst a;exact h.2 i c y d e
def F2.get{α β:Type}{R:α->β->Prop}{xs:List α}{ys:List β}(h:F2 R xs ys){i:Nat}{x:α}(a:xs[i]?=C x):∃y,ys[i]?=C y/\R x y:=by
 have d:i<ys.length:=by rw[<-h.1];exact(f_.1 a).1
 exact⟨ys[i],i_ d,h.2 i x _ a<|i_ d⟩
def AD{k n:Nat}:J k n=H↔k=n:=Nat.beq_eq▸Iff.rfl
def Bj{α:Sort _}(k n:Nat)(a b:α):(bif J k n then a else b)=if k=n then a else b:=by
 by_cases h:k=n
 .rw[if_pos h,AD.2 h];rfl
 .rw[if_neg h];cases d:J k n with
  |false=>rfl
  |true=>exact absurd (AD.1 d) h
def WP{α:Type}(l:List<|Nat×α)(n m:Nat):get (del l n) m=if n=m then D else get l m:=by
 induction l with
 |nil=>simp[del,get]
 |cons p t e=>
  obtain⟨k,v⟩:=p;simp only[del,get,Bj];by_cases a:k=n
  .subst a;rw[if_pos rfl,e];by_cases h:k=m<;>simp[h]
  .rw[if_neg a];simp only[get,Bj,e];by_cases d:k=m
   .subst d;simp[e4_ a]
   .simp[d]
def Tn{α:Type}(l:List<|Nat×α)(n m:Nat)(x:α):get (put l n x) m=if n=m then C x else get l m:=by simp only[put,get,Bj,WP];by_cases h:n=m<;>simp[h]
def ES(l:List Nat)(n:Nat):has l n=H↔n∈l:=by
 induction l with
 |nil=>simp[has]
 |cons k t a=>
  simp only[has,Bj,x_];by_cases h:k=n
  .simp[h]
  .simp[h,a,e4_ h]
def AO:Value->Option Nat
 |.pointer (C a)=>C a.block
 |.slice (C a) _ _=>C a.block
 |_=>D
variable{G:Sig}
variable{ν:Nat->Option Value}{v:Value}{S:Nat->Prop}{h:Array Obj}{c:Cv G.T}
inductive Rd(G:Sig)(S:Nat->Prop)(h:Array Obj):Cv G.T->Value->Prop
 |sc (v:Value) (hv:Kc v=true):Rd G S h (.sc v) v
 |nil (t:Nat) (a:Option Addr) (cap:Nat):Rd G S h (.ro t []) (.slice a 0 cap)
 |ro (t:Nat) (l:List (G.T t)) (b off cap:Nat) (c:Array Value) (te:TypeId) (fz:Nat×Nat) (vs:Nat->Nat->Value)
   (hS:S b) (hb:h[b]?=some (.cells c te fz)) (ht:te=t\/G.loose t=true) (hcap:l.length<=cap)
   (hc:∀i j,i<l.length->j<G.sz t->c[off+i*G.sz t+j]?=some (vs i j))
   (hr:∀(i j:Nat) (x:G.T t) (cv:Cv G.T),l[i]?=some x->(G.enc t x)[j]?=some cv->Rd G S h cv (vs i j)) :
   Rd G S h (.ro t l) (.slice (some ⟨b,off,none⟩) l.length cap)
 |rp (t:Nat) (x:G.T t) (off b base:Nat) (c:Array Value) (te:TypeId) (fz:Nat×Nat) (vs:Nat->Value)
   (hS:S b) (hb:h[b]?=some (.cells c te fz))
   (hc:∀j,j<G.sz t->c[base+j]?=some (vs j))
   (hr:∀(j:Nat) (cv:Cv G.T),(G.enc t x)[j]?=some cv->Rd G S h cv (vs j)) :
   Rd G S h (.rp t x off) (.pointer (some ⟨b,base+off,none⟩))
def RPtr(ν:Nat->Option Value)(p:Nat×Nat)(v:Value):Prop:=∃b,ν p.1=C (.pointer<|C ⟨b,0,D⟩)/\v=.pointer (C ⟨b,p.2,D⟩)
def Rc(G:Sig)(ν:Nat->Option Value)(S:Nat->Prop)(h:Array Obj):Cv G.T->Value->Prop
 |.ptr n off,v=>RPtr ν (n,off) v
 |.pd n off s len i,v=>i<len/\RPtr ν (n,off+i*s) v
 |.pr n t i off,v=>∃b len d,ν n=C (.slice (C ⟨b,0,D⟩) len d)/\i<len/\v=.pointer (C ⟨b,i*G.sz t+off,D⟩)
 |.own n,v=>∃a len d,ν n=C v/\v=.slice a len d
 |.clo f p q,v=>∃g e:List Value,v=.func (.func f) g.toArray e.toArray/\F2 (RPtr ν) p g/\F2 (RPtr ν) q e
 |.np n _,v=>v=.pointer D\/RPtr ν (n,0) v
 |.sa n off len,v=>∃b,ν n=C (.pointer<|C ⟨b,0,D⟩)/\v=.slice (C ⟨b,off,D⟩) len len
 |c,v=>Rd G S h c v
inductive Rp(G:Sig)(ν:Nat->Option Value)(S:Nat->Prop)(h:Array Obj):Pv G.T->Value->Prop
 |one (c:Cv G.T) (v:Value) (hc:Rc G ν S h c v):Rp G ν S h (.one c) v
 |agg (cs:List (Cv G.T)) (vs:List Value) (hc:F2 (Rc G ν S h) cs vs):Rp G ν S h (.agg cs) (.agg vs.toArray)
inductive Rs(G:Sig)(ν:Nat->Option Value)(S:Nat->Prop)(h:Array Obj):Sv G.T->Value->Prop
 |p (x:Pv G.T) (v:Value) (hc:Rp G ν S h x v):Rs G ν S h (.p x) v
 |tup (xs:List (Pv G.T)) (vs:List Value) (hc:F2 (Rp G ν S h) xs vs):Rs G ν S h (.tup xs) (.tuple vs.toArray)
def Bmt(G:Sig)(S:Nat->Prop)(h:Array Obj)(t:Nat)(l:List<|G.T t)(c:Array Value):Prop:=∀(i j:Nat) (x:G.T t) (a:Cv G.T),l[i]?=C x->(G.enc t x)[j]?=C a->∃v,c[i*G.sz t+j]?=C v/\Rd G S h a v
def Rb(G:Sig)(ν:Nat->Option Value)(S:Nat->Prop)(h:Array Obj)(n:Nat):Blk G.T->Prop
 |.cells cs=>∃b c te,ν n=C (.pointer<|C ⟨b,0,D⟩)/\h[b]?=C (.cells c te (0,0))/\F2 (Rc G ν S h) cs c.toList/\∀m t,Cv.np m t∈cs->m=n/\te=t
 |.row t l=>(ν n=C (.slice D 0 0)/\l=[])\/
   ∃b a c te,ν n=C (.slice (C ⟨b,0,D⟩) l.length a)/\h[b]?=C (.cells c te (0,0))/\l.length<=a/\c.size=a*G.sz t/\Bmt G S h t l c/\te=t/\a<=maxLen
def Rd.mono{S':Nat->Prop}{h':Array Obj}(i:∀b,S b->S' b)(hh:∀b,S b->h'[b]?=h[b]?)(r:Rd G S h c v):Rd G S' h' c v:=by
 induction r with
 |sc v j=>exact .sc v j
 |nil t a d=>exact .nil t a d
 |ro t l b off d c te fz vs h1 f q g m _ e=>exact .ro t l b off d c te fz vs (i b h1) ((hh b h1).trans f) q g m e
 |rp t x off b base c te fz vs h1 f g _ e=>exact .rp t x off b base c te fz vs (i b h1) ((hh b h1).trans f) g e
structure Le(ν ν':Nat->Option Value)(S S':Nat->Prop)(h h':Array Obj):Prop where
 nu:∀n x,ν n=some x->ν' n=some x
 st:∀b,S b->S' b
 hp:∀b,S b->h'[b]?=h[b]?
def Le.refl:Le ν ν S S h h:=⟨λ_ _ h=>h,λ_ h=>h,λ_ _=>rfl⟩
section
variable{ν ν':Nat->Option Value}{S S':Nat->Prop}{h h':Array Obj}
def RPtr.mono(a:∀n x,ν n=C x->ν' n=C x){p:Nat×Nat}(r:RPtr ν p v):RPtr ν' p v:=
 let⟨b,h1,d⟩:=r
 ⟨b,a _ _ h1,d⟩
def Rc.mono(d:Le ν ν' S S' h h')(r:Rc G ν S h c v):Rc G ν' S' h' c v:=by
 cases c with
 |ptr n off=>exact RPtr.mono d.nu r
 |pd n off s len i=>exact⟨r.1,RPtr.mono d.nu r.2⟩
 |pr n t i off=>obtain⟨b,len,e,h1,g,j⟩:=r;exact⟨b,len,e,d.nu _ _ h1,g,j⟩
 |own n=>obtain⟨a,len,e,h1,g⟩:=r;exact⟨a,len,e,d.nu _ _ h1,g⟩
 |clo f p q=>obtain⟨m,u,h1,g,j⟩:=r;exact⟨m,u,h1,g.mono λ_ _=>RPtr.mono d.nu,j.mono λ_ _=>RPtr.mono d.nu⟩
 |np n t=>exact r.imp (λh=>h)<|RPtr.mono d.nu
 |sa n off len=>obtain⟨b,h1,g⟩:=r;exact⟨b,d.nu _ _ h1,g⟩
 |sc v=>exact Rd.mono d.st d.hp r
 |ro t l=>exact Rd.mono d.st d.hp r
 |rp t x off=>exact Rd.mono d.st d.hp r
def Rp.mono(d:Le ν ν' S S' h h'){c:Pv G.T}(r:Rp G ν S h c v):Rp G ν' S' h' c v:=by
 cases r with
 |one c v a=>exact .one c v<|a.mono d
 |agg cs vs a=>exact .agg cs vs (a.mono λ_ _=>Rc.mono d)
def Rs.mono(d:Le ν ν' S S' h h'){c:Sv G.T}(r:Rs G ν S h c v):Rs G ν' S' h' c v:=by
 cases r with
 |p x v a=>exact .p x v<|a.mono d
 |tup xs vs a=>exact .tup xs vs (a.mono λ_ _=>Rp.mono d)
def Rb.mono(a:Le ν ν' S S' h h'){n:Nat}(g:∀x b,ν n=C x->AO x=C b->h'[b]?=h[b]?){k:Blk G.T}(r:Rb G ν S h n k):Rb G ν' S' h' n k:=by
 cases k with
 |cells cs=>obtain⟨b,c,te,h1,d,e⟩:=r;exact⟨b,c,te,a.nu _ _ h1,(g _ b h1 rfl).trans d,e.1.mono λ_ _=>Rc.mono a,e.2⟩
 |row t l=>
  rcases r with⟨h1,d⟩|⟨b,f,c,te,h1,d,e,u,m⟩
  .exact .inl ⟨a.nu _ _ h1,d⟩
  .refine .inr ⟨b,f,c,te,a.nu _ _ h1,(g _ b h1 rfl).trans d,e,u,λi j x A z y=>?_,m.2⟩;obtain⟨v,q,hr⟩:=m.1 i j x A z y;exact⟨v,q,hr.mono a.st a.hp⟩
end
def GlOK(G:Sig)(S:Nat->Prop)(h:Array Obj):Prop:=∀g p,G.gl g=C p->Rd G S h (.rp p.1 p.2 0) (.pointer<|C ⟨g,0,D⟩)/\∃c te fz,h[g]?=C (.cells c te fz)/\c.size=G.sz p.1
def Bz9{t g o off:Nat}{x:G.T t}(r:Rd G S h (.rp t x off)<|.pointer<|C ⟨g,o,D⟩):S g:=by cases r;assumption
def GlOK.mono{S':Nat->Prop}{h':Array Obj}(g:GlOK G S h)(d:∀b,S b->S' b)(hh:∀b,S b->h'[b]?=h[b]?):GlOK G S' h':=λn p hp=>
 let⟨r,c,te,fz,h1,a⟩:=g n p hp
 ⟨r.mono d hh,c,te,fz,(hh n<|Bz9 r).trans h1,a⟩
structure HRel(G:Sig)(ν:Nat->Option Value)(S B:Nat->Prop)(hp:Nat->Option (Blk G.T))(w:World):Prop where
 blk:∀n k,hp n=some k->Rb G ν S w.heap n k
 apart:∀n m x y b,hp n≠none->hp m≠none->ν n=some x->ν m=some y->AO x=some b->AO y=some b->n=m
 own:∀n x b,hp n≠none->ν n=some x->AO x=some b->¬S b/\B b
 stay:∀b,S b->b<w.heap.size
 gl:GlOK G S w.heap
structure Post(G:Sig)(ν:Nat->Option Value)(S B:Nat->Prop)(hp:Nat->Option (Blk G.T))(w:World)(out:Out G)
  (hp':Nat->Option (Blk G.T)) (ν':Nat->Option Value) (S':Nat->Prop) (w':World) (v:Value):Prop where
 nu:∀n x,ν n=some x->ν' n=some x
 new:∀n,ν' n≠none->ν n≠none\/n∈out.nw
 st:∀b,S b->S' b
 stn:∀b,S' b->S b\/B b
 rel:HRel G ν' S' B hp' w'
 val:∀s,out.v=some s->Rs G ν' S' w'.heap s v
 size:w.heap.size<=w'.heap.size
 frame:∀b,b<w.heap.size->(∀n x,hp n≠none->ν n=some x->AO x≠some b)->w'.heap[b]?=w.heap[b]?
 env:w'.os=w.os/\w'.tape=w.tape/\w'.output=w.output
def Post.le{B:Nat->Prop}{hp:Nat->Option (Blk G.T)}{w:World}{out:Out G}
  {a:Nat->Option (Blk G.T)}{ν':Nat->Option Value}{S':Nat->Prop}{w':World}{v:Value}(hr:HRel G ν S B hp w)
  (p:Post G ν S B hp w out a ν' S' w' v):Le ν ν' S S' w.heap w'.heap:=
 ⟨p.nu,p.st,λb d=>p.frame b (hr.stay b d) λn x g f e=>(hr.own n x b g f e).1 d⟩
end Go.Ab
namespace Go.Ab
variable{G:Sig}
variable{ν:Nat->Option Value}{t:Nat}{P:Program}{S:Nat->Prop}{h:Array Obj}{c:Cv G.T}{v:Value}
def Bhf (P : Program) (g : Nat) (e : Array Value -> Sem Value) : Prop := ∃ fn, P.funcs[g]? = C fn /\ (fn.name == "runtime.NumGoroutine") = I /\ fn.body.isNone = H /\ Extern.findNext fn = D /\ Extern.find fn = C e
def Bfc:Nat->Array Value->Sem Value
 |1=>Extern.MathFloatBits.float64bits
 |_=>Extern.MathFloatBits.float64frombits
def Avn(P:Program)(ext:Nat->Nat):Prop:=∀g,ext g≠0->Bhf P g (Bfc<|ext g)
structure SigOK(P:Program)(G:Sig):Prop where
 bool:∀t,G.ty t=.bool->P.underlying t=some .bool
 int:∀t k,G.ty t=.int k->P.underlying t=some (.int k)
 flt:∀t k,G.ty t=.flt k->P.underlying t=some (.float k)
 str:∀t,G.ty t=.str->P.underlying t=some .string
 sl:∀t e,G.ty t=.sl e->P.underlying t=some (.slice e)/\G.ty e≠ .no/\(∃i,P.info? e=some i/\i.bytes<=4096)/\∀x,(G.enc e x).length=G.sz e
 pt:∀t e,G.ty t=.pt e->P.underlying t=some (.pointer e)
 fn:∀t,G.ty t=.fn->∃a b c,P.underlying t=some (.func a b c)
 strc:∀t fs,G.ty t=.st fs->∃fields,P.underlying t=some (.struct fields)/\fields.toList.map (λf=>(f.offset,f.type))=fs/\∀o u,(o,u)∈fs->G.ty u≠ .no
 arr:∀t n e,G.ty t=.arr n e->P.underlying t=some (.array n e)/\G.ty e≠ .no
 info:∀t,G.ty t≠ .no->∃i z,P.info? t=some i/\i.size=G.sz t/\i.zero=some z/\z.cells.toList=G.zero t
 pos:∀t,G.ty t≠ .no->0<G.sz t
 nosz:∀t,G.ty t=.no->G.sz t=0
 zsc:∀t v,v∈G.zero t->Kc v=true
 zlen:∀t,(G.zero t).length=G.sz t
 encl:∀t x,(G.enc t x).length<=G.sz t
 encdec:∀t cs x,G.dec t cs=some x->G.enc t x=cs
 encd:∀t x c,c∈G.enc t x->(∃v,c=.sc v)\/(∃t' l,c=.ro t' l)
 flatd:∀t x c,G.flat t=true->c∈G.enc t x->∃v,c=.sc v
 u8d:∀t x y,(G.enc t x).map u8C=(G.enc t y).map u8C
 rod:∀t x y,(G.enc t x).map roC=(G.enc t y).map roC
 ext:Avn P G.ext
section
variable{P:Program}(ok:SigOK P G)(w:World)
include ok
theorem SigOK.isAgg(h:G.ty t≠ .no):(Go.isAgg t).run P w=.ok (G.ty t).isAgg w:=by
 have f:∀d,P.underlying t=C d->(Go.isAgg t).run P w=.ok (match d with|.struct _|.array _ _=>H|_=>I) w:=by intro d i;unfold Go.isAgg;rw[M_,N_ i w];cases d<;>rfl
 cases g:G.ty t with
 |no=>exact absurd g h
 |bool=>rw[f _<|ok.bool t g];rfl
 |int k=>rw[f _<|ok.int t k g];rfl
 |flt k=>rw[f _<|ok.flt t k g];rfl
 |str=>rw[f _<|ok.str t g];rfl
 |sl e=>rw[f _ (ok.sl t e g).1];rfl
 |pt e=>rw[f _<|ok.pt t e g];rfl
 |fn=>obtain⟨a,b,c,i⟩:=ok.fn t g;rw[f _ i];rfl
 |st j=>obtain⟨a,i,_⟩:=ok.strc t j g;rw[f _ i];rfl
 |arr n e=>rw[f _ (ok.arr t n e g).1];rfl
theorem SigOK.sizeOf(h:G.ty t≠ .no):(Go.sizeOf t).run P w=.ok (G.sz t) w:=by obtain⟨i,z,h1,a,_⟩:=ok.info t h;simp[Go.sizeOf,typeInfo,h1,a]
theorem SigOK.zeroV(h:G.ty t≠ .no):∃z,(zeroValue t).run P w=.ok z w/\z.cells.toList=G.zero t:=by obtain⟨i,z,h1,e,d,a⟩:=ok.info t h;exact⟨z,by simp[zeroValue,typeInfo,h1,d],a⟩
end
def YN{α:Type}:∀(n:Nat) (l m:List α),ML n l=C m->m.length=n/\n<=l.length/\∀j,j<n->m[j]?=l[j]?
 |0,l,m,h=>by simp[ML]at h;subst h;simp
 |n+1,[],m,h=>by simp[ML]at h
 |n+1,x::t,m,h=>by
  simp only[ML]at h;split at h
  .rename_i l a;obtain⟨h1,f,d⟩:=YN n t l a;simp at h;subst h;refine⟨by simp[h1],by simp;omega,λj e=>?_⟩;cases j with
   |zero=>simp
   |succ j=>simp;exact d j ω
  .simp at h
def XN{α:Type}:∀(n:Nat) (l m:List α),NG n l=C m->n+m.length=l.length/\∀j,m[j]?=l[n+j]?
 |0,l,m,h=>by simp[NG]at h;subst h;simp
 |n+1,[],m,h=>by simp[NG]at h
 |n+1,x::t,m,h=>by simp only[NG]at h;obtain⟨h1,a⟩:=XN n t m h;refine⟨by simp;omega,λj=>?_⟩;rw[a j,show n+1+j=(n+j)+1 by omega];simp
def Om{α:Type}{l m:List α}{off n:Nat}(h:part l off n=C m):m.length=n/\off+n<=l.length/\∀j,j<n->m[j]?=l[off+j]?:=by
 unfold part at h;split at h
 .rename_i k d;obtain⟨h1,e⟩:=XN _ _ _ d;obtain⟨f,i,a⟩:=YN _ _ _ h;exact⟨f,ω,λj g=>(a j g).trans<|e j⟩
 .simp at h
def Jt{α:Type}:∀(l:List α) (off:Nat) (new m:List α),Kf l off new=C m->
  m.length=l.length/\off+new.length<=l.length/\∀j,m[j]?=if off<=j/\j<off+new.length then new[j-off]? else l[j]?
 |cs,0,[],m,h=>by simp[Kf]at h;subst h;refine⟨rfl,σ,λj=>?_⟩;simp
 |[],0,_::_,m,h=>by simp[Kf]at h
 |_::t,0,x::new,m,h=>by
  simp only[Kf]at h;split at h
  .rename_i l a;obtain⟨h1,e,d⟩:=Jt t 0 new l a;simp at h;subst h;refine⟨by simp[h1],by simp at e|-;omega,λj=>?_⟩;cases j with
   |zero=>simp
   |succ j=>simp only[List.getElem?_cons_succ];rw[d j];simp
  .simp at h
 |[],_+1,_,m,h=>by simp[Kf]at h
 |c::t,n+1,new,m,h=>by
  simp only[Kf]at h;split at h
  .rename_i l a;obtain⟨h1,e,d⟩:=Jt t n new l a;simp at h;subst h;refine⟨by simp[h1],by simp;omega,λj=>?_⟩;cases j with
   |zero=>simp
   |succ j=>simp only[List.getElem?_cons_succ];rw[d j,show j+1-(n+1)=j-n by omega];congr 1;simp;omega
  .simp at h
def CH{α β:Type}{f:α->Option β}:∀(l:List α) (m:List β),Dc f l=C m->m.length=l.length/\∀(j:Nat) (x:α),l[j]?=C x->∃y,m[j]?=C y/\f x=C y
 |[],m,h=>by simp[Dc]at h;subst h;simp
 |a::t,m,h=>by
  simp only[Dc]at h;split at h
  .rename_i b l e u;obtain⟨h1,i⟩:=CH t l u;simp at h;subst h;refine⟨by simp[h1],λj x d=>?_⟩;cases j with
   |zero=>simp at d;subst d;exact⟨b,rfl,e⟩
   |succ j=>simp at d;obtain⟨y,g,q⟩:=i j x d;exact⟨y,by simp[g],q⟩
  .simp at h
def Xk(n:Nat):Qw n=List.range n:=by
 induction n with
 |zero=>rfl
 |succ n a=>rw[Qw,a,List.range_succ]
def He{a b:IntKind}(h:Ei a b=H):a=b:=by cases a<;>cases b<;>simp_all[Ei]
def Ajf{a b:FloatKind}(h:Pr a b=H):a=b:=by cases a<;>cases b<;>simp_all[Pr]
def Acz{T:Nat->Type}{k:IntKind}:∀(l:List<|Cv T) (ns:List Int),TV k l=C ns->l=ns.map λn=>.sc<|.int k n
 |[],ns,h=>by simp[TV]at h;subst h;rfl
 |c::t,ns,h=>by
  cases c with
  |sc v=>
   cases v with
   |int k' n=>
    simp only[TV]at h;cases a:Ei k k' with
    |false=>simp[a]at h
    |true=>
     have e:=He a;subst e;simp only[a,h_]at h;split at h
     .rename_i l d;simp at h;subst h;rw[Acz t l d];rfl
     .simp at h
   |_=>simp[TV]at h
  |_=>simp[TV]at h
def ZB{T:Nat->Type}:∀(l:List<|Cv T) (ns:List Bool),Qf l=C ns->l=ns.map λn=>.sc<|.bool n
 |[],ns,h=>by simp[Qf]at h;subst h;rfl
 |c::t,ns,h=>by
  cases c with
  |sc v=>
   cases v with
   |bool n=>
    simp only[Qf]at h;split at h
    .rename_i l a;simp at h;subst h;rw[ZB t l a];rfl
    .simp at h
   |_=>simp[Qf]at h
  |_=>simp[Qf]at h
def Ac0{T:Nat->Type}:∀(l:List<|Cv T) (ns:List ByteArray),TX l=C ns->l=ns.map λn=>.sc<|.string n
 |[],ns,h=>by simp[TX]at h;subst h;rfl
 |c::t,ns,h=>by
  cases c with
  |sc v=>
   cases v with
   |string n=>
    simp only[TX]at h;split at h
    .rename_i l a;simp at h;subst h;rw[Ac0 t l a];rfl
    .simp at h
   |_=>simp[TX]at h
  |_=>simp[TX]at h
def YF{T:Nat->Type}{l:List<|Cv T}{i:Nat}{c:Cv T}(h:Ahw l i=C c)(d:i<l.length):l[i]?=C c:=by
 unfold Ahw at h;split at h
 .split at h
  .rename_i ns a;have e:=Acz _ _ a;rw[e]at d|-;simp at h d;subst h;simp[d]
  .simp at h
 .split at h
  .rename_i ns a;have e:=ZB _ _ a;rw[e]at d|-;simp at h d;subst h;simp[d]
  .simp at h
 .split at h
  .rename_i ns a;have e:=Ac0 _ _ a;rw[e]at d|-;simp at h d;subst h;simp[d]
  .simp at h
 .exact h
def Ag2{T:Nat->Type}{b:Bool}{c d e:Cv T}(h:Ant b c d=C e):e=if b then c else d:=by
 unfold Ant at h;split at h
 .rename_i k x k' y;cases a:Ei k k' with
  |false=>simp[a]at h
  |true=>have e:=He a;subst e;simp[a]at h;subst h;cases b<;>rfl
 .simp at h;subst h;cases b<;>rfl
 .simp at h;subst h;cases b<;>rfl
 .cases b<;>simp at h<;>simp[h]
def Ho(b off n:Nat):(⟨b,off,D⟩:Addr).add n=⟨b,off+n,D⟩:=by unfold Addr.add;split<;>simp_all
def Akd(ok:SigOK P G){x:G.T t}(a:c∈G.enc t x)
  (r:Rd G S h c v):Rc G ν S h c v:=by
 rcases ok.encd t x c a with⟨u,rfl⟩|⟨d,l,rfl⟩<;>exact r
def Arr(ok:SigOK P G){x:G.T t}(a:c∈G.enc t x)
  (r:Rc G ν S h c v):Rd G S h c v:=by
 rcases ok.encd t x c a with⟨u,rfl⟩|⟨d,l,rfl⟩<;>exact r
def Ahc(ok:SigOK P G){B:Nat->Prop}{hp:Nat->Option (Blk G.T)}{w:World}(hr:HRel G ν S B hp w)
  {n:Nat}{c:Cv G.T}{cs:List<|Cv G.T}(h:DU hp n c=C cs) {v:Value}(hv:Rc G ν S w.heap c v) :
  ∃(b off:Nat) (vs:List Value),v=.pointer (C ⟨b,off,D⟩)/\F2 (Rc G ν S w.heap) cs vs/\vs.length=n/\∀(j:Nat) x,vs[j]?=C x->w.cell? ⟨b,off+j,D⟩=C x:=by
 cases c with
 |ptr m off=>
  simp only[DU]at h;split at h
  .rename_i ds Q;obtain⟨b,c,te,h1,N,Z,_⟩:=hr.blk m _ Q;obtain⟨b',A,rfl⟩:=hv;simp only at A;rw[h1]at A;simp at A;subst A;obtain⟨p1,p2,Y⟩:=Om h;have F:ds.length=c.toList.length:=Z.1;refine⟨b,off,(c.toList.drop off).take n,rfl,⟨by simp at F|-;omega,λj x y e g=>?_⟩,by simp at F|-;omega,λj x u=>?_⟩
   .have a:j<n:=by have:=(f_.1 e).1;omega
    rw[Y j a]at e;rw[B_ a,c4_]at g;exact Z.2 _ x y e g
   .have a:j<n:=by have:=(f_.1 u).1;simp at this;omega
    rw[B_ a,c4_]at u;rw[d8_ w b (off+j) c te (0,0) N];simpa using u
  .simp at h
 |pd m off s len i=>
  simp only[DU]at h;split at h
  .rename_i ds Q;obtain⟨b,c,te,h1,N,Z,_⟩:=hr.blk m _ Q;obtain⟨hi,b',A,rfl⟩:=hv;simp only at A;rw[h1]at A;simp at A;subst A;simp only[Xk]at h;obtain⟨m1,m2⟩:=CH _ _ h;have d:∀j,j<n->∃x y,cs[j]?=C x/\c.toList[off+i*s+j]?=C y/\Rc G ν S w.heap x y:=by
    intro j u;obtain⟨x,e,hf⟩:=m2 j j (by simp[u]);split at hf
    .rename_i l hl;obtain⟨l1,l2⟩:=CH _ _ hl;have h0:i<l.length:=by simp at l1;omega
     have X:=YF hf h0;obtain⟨y,g,hq⟩:=l2 i i (by simp[hi]);rw[X]at g;simp at g;subst g;obtain⟨z,hz,h6⟩:=Z.get hq;exact⟨x,z,e,hz,h6⟩
    .simp at hf
   refine⟨b,off+i*s,(List.range n).map (λj=>c.toList.getD (off+i*s+j) undef),rfl,⟨by simp[m1],λj x y e g=>?_⟩,σ,λj x u=>?_⟩
   .have a:j<n:=by have:=(f_.1 e).1;simp at m1;omega
    obtain⟨x',y',W,E,O⟩:=d j a;rw[W]at e;simp at e;subst e;simp[a]at g;simp at E;rw[E]at g;simp at g;subst g;exact O
   .have a:j<n:=by have:=(f_.1 u).1;simpa using this
    obtain⟨x',y',W,E,O⟩:=d j a;simp at E;simp[a,E]at u;subst u;rw[d8_ w b (off+i*s+j) c te (0,0) N];exact E
  .simp at h
 |pr m t i off=>
  simp only[DU]at h;split at h
  .rename_i t' l Q;rw[Bj]at h;by_cases ht:t=t'
   .subst ht;rw[if_pos rfl]at h;obtain⟨b,len,h9,A,hi,rfl⟩:=hv;rcases hr.blk m _ Q with⟨h1,N⟩|⟨b',h7,c,te,h1,N,Z,h8,h5⟩
    .rw[h1]at A;simp at A
    .rw[h1]at A;simp at A;obtain⟨rfl,rfl,rfl⟩:=A;obtain⟨p1,p2,Y⟩:=Om h;have e:l[i]?=C (l.getD i<|G.dfl t):=by simp[hi]
     have d:∀j,j<n->∃x y,cs[j]?=C x/\c[i*G.sz t+off+j]?=C y/\Rc G ν S w.heap x y:=by intro j u;have V:off+j<(G.enc t<|l.getD i<|G.dfl t).length:=ω;have he:=i_ V;obtain⟨y,g,L⟩:=h5.1 i (off+j) _ _ e he;exact⟨_,y,(Y j u).trans he,by rw[Z_];exact g,Akd ok (a4_ V) L⟩
     refine⟨b',i*G.sz t+off,(List.range n).map (λj=>c.getD (i*G.sz t+off+j) undef),rfl,⟨by simp[p1],λj x y e g=>?_⟩,σ,λj x u=>?_⟩
     .have a:j<n:=by have:=(f_.1 e).1;omega
      obtain⟨x',y',W,E,O⟩:=d j a;rw[W]at e;simp at e;subst e;simp[a,E]at g;subst g;exact O
     .have a:j<n:=by have:=(f_.1 u).1;simpa using this
      obtain⟨x',y',W,E,O⟩:=d j a;simp[a,E]at u;subst u;rw[d8_ w b' (i*G.sz t+off+j) c te (0,0) N];exact E
   .rw[if_neg ht]at h;simp at h
  .simp at h
 |rp t x off=>
  simp only[DU]at h;cases hv with
  |rp _ _ _ b base c te fz vs hS hb hc L=>
   obtain⟨p1,p2,Y⟩:=Om h;have hl:=ok.encl t x;refine⟨b,base+off,(List.range n).map (λj=>vs<|off+j),rfl,⟨by simp[p1],λj x' y e g=>?_⟩,σ,λj x' u=>?_⟩
   .have a:j<n:=by have:=(f_.1 e).1;omega
    simp[a]at g;subst g;have U:=(Y j a).symm.trans e;exact Akd ok (o_ U)<|L _ _ U
   .have a:j<n:=by have:=(f_.1 u).1;simpa using this
    simp[a]at u;subst u;rw[d8_ w b (base+off+j) c te fz hb,Z_];exact hc (off+j) ω
 |sc v=>simp[DU]at h
 |own m=>simp[DU]at h
 |ro t l=>simp[DU]at h
 |clo f p q=>simp[DU]at h
 |np n t=>simp[DU]at h
 |sa n o l=>simp[DU]at h
end Go.Ab
namespace Go.Ab
variable{G:Sig}
variable{ν:Nat->Option Value}{S:Nat->Prop}{h:Array Obj}{v:Value}{x:Operand}{c:Cv G.T}{R α:Type}{b:Bool}{vs:List Value}{n:Nat}{r:R}{o:Option α}
def M.bind_spec{β:Type}{m:M α}{f:α->M β}{k:β->Option R}(h:M.bind m f R k=C r):m R (λa=>f a R k)=C r:=h
def M.need_spec{k:Unit->Option R}(h:M.need b R k=C r):b=H/\k ()=C r:=by
 cases b
 .simp[M.need]at h
 .exact⟨rfl,h⟩
def M.opt_spec{k:α->Option R}(h:M.opt o R k=C r):∃a,o=C a/\k a=C r:=by
 cases o with
 |none=>simp[M.opt]at h
 |some a=>exact⟨a,rfl,h⟩
def M.split_spec{k:Bool->Option R}(h:M.split b R k=C r):k b=C r:=by cases b<;>exact h
def M.pick_spec{α R:Type}{k:Nat->M α}{i:Nat}{κ:α->Option R}{r:R}:∀{n q:Nat},M.pick k i q n R κ=C r->q<=i/\i<q+n/\k i R κ=C r
 |0,q,h=>by simp[M.pick,M.fail]at h
 |n+1,q,h=>by
  unfold M.pick at h;have h1:=M.split_spec<|M.bind_spec h;cases a:J i q with
  |true=>
   rw[a]at h1;obtain rfl:i=q:=by simpa using a
   exact⟨q_ _,ω,h1⟩
  |false=>rw[a]at h1;obtain⟨g1,d,g3⟩:=M.pick_spec (n:=n) (q:=q+1) h1;exact⟨ω,ω,g3⟩
def M.bindneed{β:Type}{f:Unit->M β}{k:β->Option R}(h:M.bind (M.need b) f R k=C r):b=H/\f () R k=C r:=M.need_spec h
def M.bindopt{β:Type}{f:α->M β}{k:β->Option R}(h:M.bind (M.opt o) f R k=C r):∃a,o=C a/\f a R k=C r:=M.opt_spec h
section
variable{ev:Operand->Option (Sv G.T)}{R β:Type}{r:R}{k:β->Option R}
def SJ{f:Pv G.T->M β}(h:M.bind (evP ev x) f R k=C r):∃y,ev x=C (.p y)/\f y R k=C r:=by
 unfold M.bind evP at h;split at h
 .rename_i y a;exact⟨y,a,h⟩
 .simp at h
def bindC{f:Cv G.T->M β}(h:M.bind (evC ev x) f R k=C r):∃y,ev x=C (.p<|.one y)/\f y R k=C r:=by
 unfold M.bind evC at h;split at h
 .rename_i y a;exact⟨y,a,h⟩
 .simp at h
def Ae{f:IntKind×Int->M β}(h:M.bind (evI ev x) f R k=C r):∃d n,ev x=C (.p<|.one<|.sc<|.int d n)/\f (d,n) R k=C r:=by
 unfold M.bind evI at h;split at h
 .rename_i d n a;exact⟨d,n,a,h⟩
 .simp at h
def Br7{f:Bool->M β}(h:M.bind (evB ev x) f R k=C r):∃b,ev x=C (.p<|.one<|.sc<|.bool b)/\f b R k=C r:=by
 unfold M.bind evB at h;split at h
 .rename_i b a;exact⟨b,a,h⟩
 .simp at h
def Af1:∀{l:List Operand}{f:List (Pv G.T)->M β},M.bind (Ul ev l) f R k=C r->∃ys,f ys R k=C r/\F2 (λx y=>ev x=C (.p y)) l ys
 |[],f,h=>⟨[],h,.nil⟩
 |x::t,f,h=>by unfold Ul at h;obtain⟨y,d,h⟩:=SJ (f:=λy=>M.bind (M.bind (Ul ev t) λl=>M.ret<|y::l) f) h;obtain⟨ys,h,a⟩:=Af1 (l:=t) (f:=λl=>f<|y::l) h;exact⟨y::ys,h,a.cons d⟩
def Vi:∀{l:List<|Nat×Operand}{f:List (Nat×Pv G.T)->M β},M.bind (IH ev l) f R k=C r->
  ∃ys,f ys R k=C r/\F2 (λx y=>x.1=y.1/\ev x.2=C (.p y.2)) l ys
 |[],f,h=>⟨[],h,.nil⟩
 |(i,x)::t,f,h=>by unfold IH at h;obtain⟨y,d,h⟩:=SJ (f:=λy=>M.bind (M.bind (IH ev t) λl=>M.ret<|(i,y)::l) f) h;obtain⟨ys,h,a⟩:=Vi (l:=t) (f:=λl=>f<|(i,y)::l) h;exact⟨(i,y)::ys,h,a.cons ⟨rfl,d⟩⟩
end
def Xb(r:Rd G S h c v):v.oneCell'=H:=by
 cases r with
 |sc v a=>cases v<;>first|rfl|(simp[Kc]at a)
 |_=>rfl
def Bcn(r:Rc G ν S h c v):v.oneCell'=H:=by
 cases c with
 |ptr n off=>obtain⟨b,_,rfl⟩:=r;rfl
 |pd n off s len i=>obtain⟨_,b,_,rfl⟩:=r;rfl
 |pr n t i off=>obtain⟨b,len,d,_,_,rfl⟩:=r;rfl
 |own n=>obtain⟨a,len,d,_,rfl⟩:=r;rfl
 |clo f p q=>obtain⟨g,e,rfl,_⟩:=r;rfl
 |np n t=>rcases r with rfl|⟨b,_,rfl⟩<;>rfl
 |sa n off len=>obtain⟨b,_,rfl⟩:=r;rfl
 |sc v=>exact Xb r
 |ro t l=>exact Xb r
 |rp t x off=>exact Xb r
def Bcc(h:v.oneCell'=H):v.cells=#[v]:=by cases v<;>first|rfl|(simp[Value.oneCell']at h)
def UG{x:Pv G.T}(r:Rp G ν S h x v):F2 (Rc G ν S h) x.cells v.cells.toList:=by
 cases r with
 |one c v a=>rw[Bcc<|Bcn a];exact F2.nil.cons a
 |agg cs vs a=>simpa[Pv.cells,Value.cells]using a
def QU{t:Nat}{cs:List<|Cv G.T}{x:Pv G.T}(hp:Sh G t cs=C x)(r:F2 (Rc G ν S h) cs vs):
  Rp G ν S h x (if(G.ty t).isAgg then .agg vs.toArray else vs.getD 0 undef):=by
 unfold Sh at hp;cases a:(G.ty t).isAgg with
 |true=>simp[a]at hp;subst hp;simp;exact .agg cs vs r
 |false=>
  simp only[a,g_]at hp;split at hp
  .simp at hp;subst hp;obtain⟨y,t,rfl,d,e⟩:=r.inv;simp;exact .one _ _ d
  .simp at hp
structure Wrote(w w':World)(b:Nat)(c':Array Value)(te:TypeId):Prop where
 here:w'.heap[b]?=some (.cells c' te (0,0))
 there:∀k,k≠b->w'.heap[k]?=w.heap[k]?
 size:w'.heap.size=w.heap.size
 env:w'.os=w.os/\w'.tape=w.tape/\w'.output=w.output
def Ke{P:Program}{b off:Nat}{te:TypeId}:∀(vs:List Value) (i:Nat) (w:World) (c:Array Value),w.heap[b]?=C (.cells c te (0,0))->
  off+i+vs.length<=c.size->(∀v∈vs,v.oneCell'=H)->
  ∃w' g,(storeCells ⟨b,off,D⟩ vs i).run P w=.ok () w'/\Wrote w w' b g te/\g.size=c.size/\
   ∀j,g[j]?=if off+i<=j/\j<off+i+vs.length then vs[j-(off+i)]? else c[j]?
 |[],i,w,c,e,_,_=>⟨w,c,rfl,⟨e,λ_ _=>rfl,rfl,rfl,rfl,rfl⟩,rfl,λj=>by simp;omega⟩
 |v::vs,i,w,c,e,a,h1=>by
  have d:w.cell? ⟨b,off+i,D⟩=C (c[off+i]'(by simp at a;omega)):=by rw[d8_ w b (off+i) c te (0,0) e];simp
  have m:w.frozen? ⟨b,off+i,D⟩=I:=frozen_of_row w b (off+i) c te e;have q:(Go.store ((⟨b,off,D⟩:Addr).add i) v).run P w=.ok () (w.setCell ⟨b,off+i,D⟩ v):=by simp only[Ho];rw[run_store P w _ v .plain<|h1 v σ];simp[d,m]
  have y:(w.setCell ⟨b,off+i,D⟩ v).heap[b]?=C (.cells (c.setIfInBounds (off+i) v) te (0,0)):=heap_setCell_same w b (off+i) c te v e;obtain⟨w',g,hr,l,E,L⟩:=Ke (P:=P) (off:=off) vs (i+1) _ _ y (by simp at a|-;omega) (λu F=>h1 u (by simp[F]));refine⟨w',g,?_,⟨l.here,λk z=>(l.there k z).trans<|heap_setCell_other w _ k v z,by rw[l.size];simp,l.env⟩,by rw[E];simp,λj=>?_⟩
  .simp only[storeCells,M_];rw[q];exact hr
  .rw[L j];simp only[f7_,s_];by_cases A:off+i=j
   .subst A
    have:off+i<c.size:=by simp at a;omega
    rw[if_neg ω,if_pos ω];simp[this]
   .by_cases f:off+(i+1)<=j/\j<off+(i+1)+vs.length
    .rw[if_pos f,if_pos ω,show j-(off+i)=(j-(off+(i+1)))+1 by omega];simp
    .rw[if_neg f,if_neg A,if_neg ω]
def By(h:Nat->Option (Blk G.T)):List (Nat×Option (Blk G.T))->Nat->Option (Blk G.T)
 |[]=>h
 |(n,ob)::t=>By (λm=>if n=m then ob else h m) t
def Yd:∀(d:List<|Nat×Option (Blk G.T)) (hp:List<|Nat×Blk G.T),get (Ae6 hp d)=By (get hp) d
 |[],hp=>rfl
 |(n,D)::t,hp=>by rw[Ae6,Yd t,By];congr 1;funext m;exact WP hp n m
 |(n,C b)::t,hp=>by rw[Ae6,Yd t,By];congr 1;funext m;exact Tn hp n m b
section
variable{ν:Nat->Option Value}{S B:Nat->Prop}{hp:Nat->Option (Blk G.T)}{w:World}
def HRel.nu(hr:HRel G ν S B hp w)(h:hp n≠D):ν n≠D:=by
 cases a:hp n with
 |none=>exact absurd a h
 |some k=>
  have:=hr.blk n k a
  cases k with
  |cells cs=>obtain⟨b,c,te,h1,_⟩:=this;rw[h1];simp
  |row t l=>
   rcases this with⟨h1,_⟩|⟨b,d,c,te,h1,_⟩
   .rw[h1];simp
   .rw[h1];simp
def HRel.lt(hr:HRel G ν S B hp w){b:Nat}{x:Value}(h:hp n≠D)(f:ν n=C x)(a:AO x=C b):b<w.heap.size:=by
 cases g:hp n with
 |none=>exact absurd g h
 |some k=>
  have d:∀{o:Obj},w.heap[b]?=C o->b<w.heap.size:=λh=>(I_.1 h).1
  have:=hr.blk n k g
  cases k with
  |cells cs=>obtain⟨j,c,te,h1,e,_⟩:=this;rw[f]at h1;simp at h1;subst h1;simp[AO]at a;subst a;exact d e
  |row t l=>
   rcases this with⟨h1,_⟩|⟨j,i,c,te,h1,e,_⟩
   .rw[f]at h1;simp at h1;subst h1;simp[AO]at a
   .rw[f]at h1;simp at h1;subst h1;simp[AO]at a;subst a;exact d e
def HRel.wrote(hr:HRel G ν S B hp w){b:Nat}{k':Blk G.T}{x:Value}{Q:Array Value}{te:TypeId}{w':World}(j:hp n≠D)(E:ν n=C x)(z:AO x=C b)
  (i:Wrote w w' b Q te) (O:Rb G ν S w'.heap n k'):HRel G ν S B (λm=>if n=m then C k' else hp m) w':=by
 have U:¬S b:=(hr.own n x b j E z).1;have u:Le ν ν S S w.heap w'.heap:=⟨λ_ _ h=>h,λ_ h=>h,λf d=>i.there f (λe=>U<|e▸d)⟩
 have a:∀m,(if n=m then C k' else hp m)≠D->hp m≠D:=by
  intro m g;by_cases e:n=m
  .exact e▸j
  .simpa[e]using g
 refine⟨λm k g=>?_,λm A y V f h1 l q L N W=>hr.apart m A y V f (a m h1) (a A l) q L N W,
  λm y f h1 l q=>hr.own m y f (a m h1) l q,λf d=>by rw[i.size];exact hr.stay f d,hr.gl.mono (λ_ h=>h) u.hp⟩
 by_cases e:n=m
 .subst e;simp at g;subst g;exact O
 .simp[e]at g;refine(hr.blk m k g).mono u λy f F d=>i.there f (λX=>e ?_);subst X;exact(hr.apart m n y x f (by simp[g]) j F E d z).symm
def Bh7{x y:α}(h:(bif b then C x else D)=C y):b=H/\C x=C y:=by
 cases b with
 |true=>exact⟨rfl,h⟩
 |false=>cases h
def Ahn{P:Program}(ok:SigOK P G)(hr:HRel G ν S B hp w)(hv:Rc G ν S w.heap c v){new:List<|Cv G.T}(a:F2 (Rc G ν S w.heap) new vs)
  {n:Nat}{k':Blk G.T}(h:Kd hp new c=C (n,k')) :
  ∃b off w' x,v=.pointer (C ⟨b,off,D⟩)/\(storeCells ⟨b,off,D⟩ vs).run P w=.ok () w'/\hp n≠D/\ν n=C x/\AO x=C b/\
   (∃O te,Wrote w w' b O te)/\HRel G ν S B (λm=>if n=m then C k' else hp m) w':=by
 have V:∀u∈vs,u.oneCell'=H:=by
  intro u hu;obtain⟨i,F,e⟩:=List.getElem_of_mem hu;have x5:i<new.length:=by rw[a.1];exact F
  exact Bcn<|a.2 i _ u (i_ x5) (by rw[i_ F,e])
 have hS:∀{b:Nat}{x:Value}{m:Nat},hp m≠D->ν m=C x->AO x=C b->∀{w':World}{O:Array Value}{te:TypeId},Wrote w w' b O te->Le ν ν S S w.heap w'.heap:=by intro b x m Q d hb w' O te E;exact⟨λ_ _ h=>h,λ_ h=>h,λb' x3=>E.there b' (λe=>(hr.own m x b Q d hb).1<|e▸x3)⟩
 cases c with
 |ptr m off=>
  simp only[Kd]at h;split at h
  .rename_i ds Z;split at h
   .rename_i x6 hs;obtain⟨h6,h⟩:=Bh7 h;simp at h;obtain⟨rfl,rfl⟩:=h;obtain⟨b,c,te,h1,h2,h3,_⟩:=hr.blk m _ Z;obtain⟨b',L,rfl⟩:=hv;simp only at L;rw[h1]at L;simp at L;subst L;obtain⟨s1,s2,s3⟩:=Jt _ _ _ _ hs;have hl:=h3.1;have hn:=a.1;obtain⟨w',O,A,E,ha,hc⟩:=Ke (P:=P) (off:=off) vs 0 w c h2 (by simp at hl;omega) V;have Q:hp m≠D:=by rw[Z];simp
    have U:=hS Q h1 rfl E;refine⟨b,off,w',_,rfl,A,Q,h1,rfl,⟨O,te,E⟩,hr.wrote Q h1 rfl E ⟨b,O,te,h1,E.here,?_,λm' t' h0=>absurd (F_.1 h6 _ h0) (by simp[Tb])⟩⟩;refine⟨by simp at hl|-;omega,λi x y d g=>?_⟩;rw[s3 i]at d;simp at g;rw[hc i]at g;by_cases F:off<=i/\i<off+new.length
    .rw[if_pos F]at d;rw[if_pos ω]at g;exact(a.2 _ x y d (by simpa using g)).mono U
    .rw[if_neg F]at d;rw[if_neg ω]at g;exact(h3.2 i x y d (by simpa using g)).mono U
   .simp at h
  .simp at h
 |pd m off s len i=>
  simp only[Kd]at h;split at h
  .rename_i ds Z;split at h
   .rename_i x6 hs;obtain⟨h6,h⟩:=Bh7 h;simp at h;obtain⟨rfl,rfl⟩:=h;obtain⟨b,c,te,h1,h2,h3,_⟩:=hr.blk m _ Z;obtain⟨x7,b',L,rfl⟩:=hv;simp only at L;rw[h1]at L;simp at L;subst L;have hl:=h3.1;have hn:=a.1;have xa:∀(qs:List Nat) (es:List<|Cv G.T),Aa4 ds off s i new qs=C es->
      es.length=ds.length/\(i∈qs->off+i*s+new.length<=ds.length)/\∀j,es[j]?=if i∈qs/\off+i*s<=j/\j<off+i*s+new.length then new[j-(off+i*s)]? else ds[j]?:=by
     intro qs;induction qs with
     |nil=>intro es N;simp[Aa4]at N;subst N;simp
     |cons q qs ih=>
      intro es N;simp only[Aa4]at N;split at N
      .rename_i x1 x4;obtain⟨i1,i2,i3⟩:=ih x1 x4;split at N
       .rename_i h8 hk;split at N
        .rename_i l xc;obtain⟨p1,p2,p3⟩:=Om hk;obtain⟨m1,m2⟩:=CH _ _ xc;obtain⟨s1,s2,s3⟩:=Jt _ _ _ _ N;have x0:l.length=new.length:=by simp[p1]at m1;omega
         have x9:∀j,j<new.length->l[j]?=if i=q then new[j]? else h8[j]?:=by
          intro j X;have hz:(new.zip h8)[j]?=C (new[j],h8[j]):=by simp[X,p1]
          obtain⟨y,g,hf⟩:=m2 j _ hz
          have:=Ag2 hf
          rw[g,this];by_cases e:i=q
          .simp[e,X]
          .have xb:J i q=I:=by cases hb:J i q with|false=>rfl|true=>exact absurd (AD.1 hb) e
           simp[xb,e,p1,X]
         refine⟨ω,λF=>?_,λj=>?_⟩
         .rcases x_.1 F with rfl|F
          .rw[i1]at p2;exact p2
          .exact i2 F
         .rw[s3 j,x0];by_cases X:off+q*s<=j/\j<off+q*s+new.length
          .rw[if_pos X,x9 _ ω];by_cases e:i=q
           .subst e;rw[if_pos rfl,if_pos ⟨σ,X⟩]
           .rw[if_neg e,p3 _ ω,i3,show off+q*s+(j-(off+q*s))=j by omega];simp[e]
          .rw[if_neg X,i3];by_cases e:i=q
           .subst e;rw[if_neg (by intro h;exact X ⟨h.2.1,h.2.2⟩),if_neg (by intro h;exact X ⟨h.2.1,h.2.2⟩)]
           .simp[e]
        .simp at N
       .simp at N
      .simp at N
    obtain⟨k1,k2,k3⟩:=xa _ _ hs;have W:i∈Qw len:=by simp only[Xk,List.mem_range];exact x7
    obtain⟨w',O,A,E,ha,hc⟩:=Ke (P:=P) (off:=off+i*s) vs 0 w c h2 (by have:=k2 W;simp at hl;omega) V;have Q:hp m≠D:=by rw[Z];simp
    have U:=hS Q h1 rfl E;refine⟨b,off+i*s,w',_,rfl,A,Q,h1,rfl,⟨O,te,E⟩,hr.wrote Q h1 rfl E ⟨b,O,te,h1,E.here,?_,λm' t' h0=>absurd (F_.1 h6 _ h0) (by simp[Tb])⟩⟩;refine⟨by simp at hl|-;omega,λj x y d g=>?_⟩;rw[k3 j]at d;simp at g;rw[hc j]at g;by_cases F:off+i*s<=j/\j<off+i*s+new.length
    .rw[if_pos ⟨W,F⟩]at d;rw[if_pos ω]at g;exact(a.2 _ x y d (by simpa using g)).mono U
    .rw[if_neg (by intro h;exact F h.2)]at d;rw[if_neg ω]at g;exact(h3.2 j x y d (by simpa using g)).mono U
   .simp at h
  .simp at h
 |pr m t i off=>
  simp only[Kd]at h;split at h
  .rename_i t' l Z;rw[Bj]at h;by_cases ht:t=t'
   .subst ht;rw[if_pos rfl]at h;split at h
    .rename_i xe hs;split at h
     .rename_i x' x2;simp at h;obtain⟨rfl,rfl⟩:=h;obtain⟨b,len,xg,L,F,rfl⟩:=hv;rcases hr.blk m _ Z with⟨h1,h2⟩|⟨b',Y,c,te,h1,h2,h3,ho,h5⟩
      .rw[h1]at L;simp at L
      .rw[h1]at L;simp at L;obtain⟨rfl,rfl,rfl⟩:=L;have N:=ok.encdec _ _ _ x2;obtain⟨s1,s2,s3⟩:=Jt _ _ _ _ hs;have xf:=ok.encl t<|l.getD i<|G.dfl t;have hn:=a.1;have h7:i*G.sz t+off+0+vs.length<=c.size:=by
        rw[ho]
        have:(i+1)*G.sz t<=Y*G.sz t:=K_ _ ω
        rw[a5_]at this;omega
       obtain⟨w',O,A,E,ha,hc⟩:=Ke (P:=P) (off:=i*G.sz t+off) vs 0 w c h2 h7 V;have Q:hp m≠D:=by rw[Z];simp
       have U:=hS Q h1 rfl E;refine⟨b',i*G.sz t+off,w',_,rfl,A,Q,h1,rfl,⟨O,te,E⟩,hr.wrote Q h1 rfl E<|.inr ⟨b',Y,O,te,by simpa using h1,E.here,by simpa using h3,by rw[ha,ho],?_,h5.2⟩⟩;intro i' j x cv d z;have xd:=ok.encl t x;have X:j<(G.enc t x).length:=(f_.1 z).1;rw[hc];rw[List.getElem?_set]at d;by_cases hh:i=i'
       .subst hh;simp[F]at d;subst d;rw[N,s3]at z;by_cases h9:off<=j/\j<off+new.length
        .rw[if_pos h9]at z;rw[if_pos ω];obtain⟨y,g,x8⟩:=a.get z;refine⟨y,by rw[show i*G.sz t+j-(i*G.sz t+off+0)=j-off by omega];exact g,?_⟩;exact(Arr ok (t:=t) (x:=x') (by rw[N];exact o_ (by rw[s3,if_pos h9];exact z)) x8).mono U.st U.hp
        .rw[if_neg h9]at z;rw[if_neg ω];obtain⟨v,hv,hg⟩:=h5.1 i j (l.getD i<|G.dfl t) cv (by simp[F]) z;exact⟨v,hv,hg.mono U.st U.hp⟩
       .rw[if_neg hh]at d;obtain⟨v,hv,hg⟩:=h5.1 i' j x cv d z;refine⟨v,?_,hg.mono U.st U.hp⟩;rw[if_neg ?_]
        .exact hv
        .rcases Nat.lt_or_gt_of_ne hh with h'|h'
         .have:(i+1)*G.sz t<=i'*G.sz t:=K_ _ h'
          rw[a5_]at this;omega
         .have:(i'+1)*G.sz t<=i*G.sz t:=K_ _ h'
          rw[a5_]at this;omega
     .simp at h
    .simp at h
   .rw[if_neg ht]at h;simp at h
  .simp at h
 |sc v=>simp[Kd]at h
 |own m=>simp[Kd]at h
 |ro t l=>simp[Kd]at h
 |rp t x off=>simp[Kd]at h
 |clo f p q=>simp[Kd]at h
 |np n t=>simp[Kd]at h
 |sa n o l=>simp[Kd]at h
end
section
variable{G:Sig}
def Adh{α:Type}{i:Nat}{f:Nat->Option α}:∀{l:List Nat}{R:Type}{k:α->Option R}{r:R},UK i f l R k=C r->∃a,f i=C a/\k a=C r
 |[],_,_,_,h=>by simp[UK,M.fail]at h
 |q::t,R,k,r,h=>by
  simp only[UK]at h;cases d:J i q with
  |true=>
   rw[d,h_]at h;have e:i=q:=AD.1 d;subst e;simp only[M.opt]at h;split at h
   .exact⟨_,by assumption,h⟩
   .cases h
  |false=>rw[d,g_]at h;exact Adh h
def Ahb{h:Nat->Option (Blk G.T)}{c:Cv G.T}{k:List (Cv G.T)->Option R}(hr:SZ h n c R k=C r):
  ∃a cs,(a=c\/∃b off s len i,c=.pd b off s len i/\a=.ptr b (off+i*s))/\DU h n a=C cs/\k cs=C r:=by
 unfold SZ at hr;cases e:Abu h c with
 |false=>
  rw[e,g_]at hr;obtain⟨cs,h1,d⟩:∃cs,DU h n c=C cs/\k cs=C r:=by
   simp only[M.opt]at hr;split at hr
   .exact⟨_,by assumption,hr⟩
   .cases hr
  exact⟨c,cs,.inl rfl,h1,d⟩
 |true=>
  rw[e,h_]at hr;cases c with
  |pd b off s len i=>obtain⟨cs,h1,d⟩:=Adh hr;exact⟨_,cs,.inr ⟨_,_,_,_,_,rfl,rfl⟩,h1,d⟩
  |_=>cases hr
end
end Go.Ab
namespace Go.Ab
variable{G:Sig}
variable{x:Operand}{v:Value}{nm t:Nat}{out:Out G}{S:Nat->Prop}{h:Array Obj}{k:Blk G.T}
def Aax{T:Nat->Type}{cs:List<|Cv T}(h:cs.all Tb=H){m:Nat}(a:Cv.np m t∈cs):False:=by
 have:=F_.1 h _ a
 simp[Tb]at this
def Bdi{n m f:Nat}(i:∀v∈G.zero t,Kc v=H)(d:Cv.np m f∈UT G n t):m=n/\t=f:=by
 have a:Cv.np m f∉Gb G t:=λh=>by unfold Gb at h;obtain⟨v,_,e⟩:=b3_.1 h;cases e
 unfold UT at d;cases g:Aya G t with
 |false=>rw[g]at d;exact absurd d a
 |true=>
  rw[g,h_]at d;generalize Gb G t=l at d a;unfold Are at d;split at d
  .simp only[x_]at d a;rcases d with h|h
   .cases h;exact⟨rfl,rfl⟩
   .exact absurd (.inr h) a
  .exact absurd d a
def Ayx{ν:Nat->Option Value}{n:Nat}{vs:List Value}(a:F2 (Rc G ν S h) (Gb G t) vs):F2 (Rc G ν S h) (UT G n t) vs:=by
 unfold UT;cases f:Aya G t with
 |false=>exact a
 |true=>
  rw[h_];generalize Gb G t=l at a;unfold Are;split
  .obtain⟨y,r,rfl,h1,e⟩:=a.inv;have d:Rd G S h (.sc<|.pointer D) y:=h1;cases d;exact .cons (.inl rfl) e
  .exact a
def Runs(P:Program)(G:Sig)(ρ:Operand->Value)(o:Oper)(ν:Nat->Option Value)(S B:Nat->Prop)(h:Nat->Option (Blk G.T))(w:World)(out:Out G):Prop:=∃a w' v ν' S',(execOp ρ o).run P w=.ok a w'/\(a=.value v\/(a=.skip/\v=undef))/\Post G ν S B h w out (By h out.d) ν' S' w' v
def Bks{x:G.T t}{off:Nat}(r:Rd G S h (.rp t x off) v):∃b o,v=.pointer (C ⟨b,o,D⟩):=by cases r;exact⟨_,_,rfl⟩
section
variable{P:Program}{ν:Nat->Option Value}{S B:Nat->Prop}{h:Nat->Option (Blk G.T)}{w:World}{ρ:Operand->Value}{o:Oper}
def Post.pure(hr:HRel G ν S B h w)(a:out.d=[])(e:∀s,out.v=C s->Rs G ν S w.heap s v):
  Post G ν S B h w out (By h out.d) ν S w v:=
 ⟨λ_ _ h=>h,λ_ h=>.inl h,λ_ h=>h,λ_ h=>.inl h,by rw[a];exact hr,e,q_ _,λ_ _ _=>rfl,rfl,rfl,rfl⟩
def Runs.value(hr:HRel G ν S B h w)(e:out.d=[])(a:(execOp ρ o).run P w=.ok (.value v) w)(f:∀s,out.v=C s->Rs G ν S w.heap s v):
  Runs P G ρ o ν S B h w out:=
 ⟨_,w,v,ν,S,a,.inl rfl,Post.pure hr e f⟩
def Runs.outP(hr:HRel G ν S B h w){x:Pv G.T}(a:(execOp ρ o).run P w=.ok (.value v) w)(e:Rp G ν S w.heap x v):
  Runs P G ρ o ν S B h w (outP x):=
 Runs.value hr rfl a λs d=>by simp[Ab.outP]at d;subst d;exact .p _ _ e
def Runs.outV(hr:HRel G ν S B h w)(a:(execOp ρ o).run P w=.ok (.value v) w)(d:Kc v=H):
  Runs P G ρ o ν S B h w (Ab.outV v):=
 Runs.outP hr a (.one _ _<|.sc v d)
def ext(ν:Nat->Option Value)(nm:Nat)(x:Value):Nat->Option Value:=λn=>if n=nm then C x else ν n
def Agk{x:Value}(a:ν nm=D):∀n y,ν n=C y->ext ν nm x n=C y:=by
 intro n y d;unfold ext;by_cases e:n=nm
 .subst e;rw[a]at d;simp at d
 .simp[e,d]
def Aur{x:Value}:∀n,ext ν nm x n≠D->ν n≠D\/n∈[nm]:=by
 intro n a;unfold ext at a;by_cases e:n=nm
 .exact .inr (by simp[e])
 .simp[e]at a;exact .inl a
def DT{x:Value}:ext ν nm x nm=C x:=by simp[ext]
def HRel.add(hr:HRel G ν S B h w){x:Value}{w':World}(L:ν nm=D)
  (f:∀b,b<w.heap.size->(S b\/∃m y,h m≠D/\ν m=C y/\AO y=C b)->w'.heap[b]?=w.heap[b]?) (q:w.heap.size<=w'.heap.size)
  (a:∀b,AO x=C b->¬S b/\B b/\∀m y,h m≠D->ν m=C y->AO y≠C b)
  (U:Rb G (ext ν nm x) S w'.heap nm k):HRel G (ext ν nm x) S B (λm=>if nm=m then C k else h m) w':=by
 have Q:Le ν (ext ν nm x) S S w.heap w'.heap:=⟨Agk L,λ_ h=>h,λb l=>f b (hr.stay b l)<|.inl l⟩
 have d:∀m,nm≠m->∀y,ext ν nm x m=C y->ν m=C y:=by intro m j y A;unfold ext at A;rwa [if_neg<|e4_ j]at A
 refine⟨λm k' j=>?_,λm z y F b h1 g i E O N=>?_,λm y b h1 g i=>?_,λb l=>c3_ (hr.stay b l) q,hr.gl.mono (λ_ h=>h) Q.hp⟩
 .by_cases e:nm=m
  .subst e;simp at j;subst j;exact U
  .simp[e]at j;exact(hr.blk m k' j).mono Q λy b A l=>f b (hr.lt (by simp[j]) A l)<|.inr ⟨m,y,by simp[j],A,l⟩
 .by_cases e:nm=m
  .subst e;by_cases u:nm=z
   .exact u
   .rw[DT]at i;simp at i;subst i;simp[u]at g;exact absurd N<|(a b O).2.2 z F g<|d z u F E
  .simp[e]at h1;by_cases u:nm=z
   .subst u;rw[DT]at E;simp at E;subst E;exact absurd O<|(a b N).2.2 m y h1<|d m e y i
   .simp[u]at g;exact hr.apart m z y F b h1 g (d m e y i) (d z u F E) O N
 .by_cases e:nm=m
  .subst e;rw[DT]at g;simp at g;subst g;exact⟨(a b i).1,(a b i).2.1⟩
  .simp[e]at h1;exact hr.own m y b h1 (d m e y g) i
def HRel.sub(hr:HRel G ν S B h w){h':Nat->Option (Blk G.T)}(d:∀m,h' m≠D->h' m=h m):HRel G ν S B h' w:=by
 have a:∀m,h' m≠D->h m≠D:=λm e=>by rw[<-d m e];exact e
 exact⟨λn k f=>hr.blk n k (by rw[<-d n (by simp[f])];exact f),λn m x y b h1 g=>hr.apart n m x y b (a n h1)<|a m g,λn x b h1=>hr.own n x b<|a n h1,hr.stay,hr.gl⟩
def Post.alloc(hr:HRel G ν S B h w)(hB:∀b,w.heap.size<=b->B b)(i:ν nm=D){c:Array Value}{te:TypeId}{x:Value}
  (q:out.d=[(nm,C k)]) (u:out.nw=[nm]) (F:AO x=C w.heap.size) {w':World}(a:w'.heap=w.heap.push (.cells c te)) (j:w'.os=w.os/\w'.tape=w.tape/\w'.output=w.output)
  (E:Rb G (ext ν nm x) S (w.heap.push<|.cells c te) nm k) {v:Value}
  (z:∀s,out.v=C s->Rs G (ext ν nm x) S (w.heap.push<|.cells c te) s v):Post G ν S B h w out (By h out.d) (ext ν nm x) S w' v:=by
 have g:∀b,b<w.heap.size->w'.heap[b]?=w.heap[b]?:=λb f=>by rw[a,Array.getElem?_push,if_neg<|Nat.ne_of_lt f]
 refine⟨Agk i,by rw[u];exact Aur,λ_ h=>h,λ_ h=>.inl h,?_,by rw[a];exact z,by rw[a];simp,λb f _=>g b f,j⟩;rw[q];refine hr.add i (λb f _=>g b f) (by rw[a];simp) (λb f=>?_) (by rw[a];exact E);rw[F]at f;simp at f;subst f;refine⟨λL=>absurd (hr.stay _ L)<|Nat.lt_irrefl _,hB _<|q_ _,λm y A l e=>absurd (hr.lt A l e)<|Nat.lt_irrefl _⟩
def Ajt(o:Obj){x:Value}(hr:HRel G ν S B h w)(a:ν nm=D):Le ν (ext ν nm x) S S w.heap<|w.heap.push o:=⟨Agk a,λ_ h=>h,λb d=>by rw[Array.getElem?_push,if_neg<|Nat.ne_of_lt<|hr.stay b d]⟩
variable(ok:SigOK P G){ev:Operand->Option (Sv G.T)}(hev:∀x s,ev x=C s->Rs G ν S w.heap s (ρ x))(hr:HRel G ν S B h w)(hB:∀b,w.heap.size<=b->B b)
 {cf:Ch G}{nm:Nat}{out:Out G}(hfresh:∀n∈out.nw,ν n=D)
include hev
theorem UF{y:Pv G.T}(a:ev x=C (.p y)):Rp G ν S w.heap y<|ρ x:=by
 have:=hev x _ a
 cases this with
 |p _ _ h=>exact h
theorem Hk{y:Cv G.T}(a:ev x=C (.p<|.one y)):Rc G ν S w.heap y<|ρ x:=by
 have:=UF hev a
 cases this with
 |one _ _ h=>exact h
theorem Ff(a:ev x=C (.p<|.one<|.sc v)):ρ x=v/\Kc v=H:=by
 have h:Rd G S w.heap (.sc v)<|ρ x:=Hk hev a;generalize ρ x=u at h;cases h with
 |sc _ d=>exact⟨rfl,d⟩
include hr
theorem Alx(g:o.op=.move x\/o.op=.assign x)(a:QH ev x (Out G) C=C out):Runs P G ρ o ν S B h w out:=by
 unfold QH at a;split at a
 .rename_i s f;simp at a;subst a;refine Runs.value hr rfl (v:=ρ x) ?_ (λs' d=>by simp at d;subst d;exact hev x _ f);rcases g with e|e<;>(unfold execOp;rw[e];rfl)
 .simp at a
theorem Bch{c y:Operand}(i:o.op=.pick c x y)(a:Vf ev c x y (Out G) C=C out):Runs P G ρ o ν S B h w out:=by
 unfold Vf at a;obtain⟨b,g,a⟩:=Br7 a;have a:=M.split_spec<|M.bind_spec a;unfold QH at a;split at a
 .rename_i s f;simp at a;subst a;have e:=(Ff hev g).1;refine Runs.value hr rfl (v:=if b then ρ x else ρ y) ?_ (λs' d=>by simp at d;subst d;cases b<;>exact hev _ _ f);unfold execOp;rw[i];simp only[M_,e,asBool,a7_,u_]
 .simp at a
include ok
theorem Bb1(L:o.op=.load t x)(a:LH ev h t x (Out G) C=C out):Runs P G ρ o ν S B h w out:=by
 unfold LH at a;obtain⟨c,U,a⟩:=bindC a;obtain⟨Q,cs,y,z,a⟩:=Ahb a;obtain⟨x',d,a⟩:=M.bindopt a;simp[M.ret]at a;subst a;have q:Rc G ν S w.heap Q<|ρ x:=by
  have h0:=Hk hev U;rcases y with rfl|⟨_,_,_,_,_,rfl,rfl⟩
  .exact h0
  .exact h0.2
 obtain⟨b,off,vs,O,A,f,g⟩:=Ahc ok hr z q;have l:G.ty t≠ .no:=by
  intro e;rw[ok.nosz t e]at f
  have:cs=[]:=by have:=A.1;rw[f]at this;exact S_ this
  subst this;simp[Sh,e,Ty.isAgg]at d
 refine Runs.value hr rfl (v:=if(G.ty t).isAgg then .agg vs.toArray else vs.getD 0 undef) ?_ (λs E=>by simp at E;subst E;exact .p _ _<|QU d A);have i:(loadCells ⟨b,off,D⟩ vs.length).run P w=.ok vs.toArray w:=run_loadCells_list (P:=P) w ⟨b,off,D⟩ vs (λj v V=>by rw[Ho];exact g j v V);unfold execOp;rw[L];simp only[Instr.loadAt,O,Instr.sureAddr,loadVar,M_,a7_,u_,ok.isAgg w l];cases N:(G.ty t).isAgg with
 |true=>simp only[if_true,M_,ok.sizeOf w l,u_,<-f,i,a7_]
 |false=>
  have m:vs.length=1:=by
   simp only[Sh,N,g_]at d;split at d
   .have:=A.1;simpa using this.symm
   .simp at d
  obtain⟨u,rfl⟩:∃u,vs=[u]:=List.length_eq_one_iff.1 m;have F:=g 0 u rfl;simp only[d0_]at F;simp[F]
theorem At3{y:Operand}(E:o.op=.store t x y){c:Cv G.T}(Q:ev x=C (.p<|.one c)){x':Pv G.T}(u:ev y=C (.p x'))(g:(J x'.cells.length (G.sz t)&&!Oc (G.ty t))=H)
  (a:RI h c x'.cells (Out G) C=C out):Runs P G ρ o ν S B h w out:=by
 unfold RI at a;obtain⟨⟨n,k'⟩,hp,a⟩:=M.bindopt a;simp[M.ret]at a;subst a;have d:=UG<|UF hev u;obtain⟨b,off,w',N,O,l,V,i,U,⟨W,te,z⟩,j⟩:=Ahn ok hr (Hk hev Q) d hp;have f:(ρ y).cells.size=G.sz t:=by
  have:=d.1
  simp at g;rw[g.1]at this;simpa using this.symm
 have q:G.ty t≠ .no:=by intro e;simp[e,Oc]at g
 refine⟨.skip,w',undef,ν,S,?_,.inr ⟨rfl,rfl⟩,⟨λ_ _ h=>h,λ_ h=>.inl h,λ_ h=>h,λ_ h=>.inl h,j,λs A=>by simp at A,by rw[z.size];exact q_ _,
  λF L m=>z.there F (λe=>m n N V i<|e▸U),z.env⟩⟩
 unfold execOp;rw[E];simp only[Instr.storeAt,O,Instr.sureAddr,storeVar,M_,a7_,u_,ok.sizeOf w q,f];simp[l]
include hB hfresh
omit hev in
theorem Avy(F:o.op=.alloc t)(a:Zx nm t (Out G) C=C out):Runs P G ρ o ν S B h w out:=by
 unfold Zx at a;have f:G.ty t≠ .no:=by intro e;simp[e,M.fail]at a
 have d:C (⟨C<|.p<|.one<|.ptr nm 0,[(nm,C<|.cells<|UT G nm t)],[nm],[]⟩:Out G)=C out:=by cases g:G.ty t<;>simp only[g]at a<;>first|exact absurd g f|exact a
 simp at d;subst d;obtain⟨z,L,u⟩:=ok.zeroV w f;refine⟨.value<|.pointer<|C ⟨w.heap.size,0,D⟩,{ w with heap:=w.heap.push (.cells z.cells t) },_,ext ν nm<|.pointer<|C ⟨w.heap.size,0,D⟩,S,?_,.inl rfl,?_⟩
 .unfold execOp;rw[F];simp[Instr.alloc,L,newVar,newRow]
 .have j:=hfresh nm σ;refine Post.alloc (k:=.cells<|UT G nm t) (c:=z.cells) (te:=t) (w':={ w with heap:=w.heap.push (.cells z.cells t) }) hr hB j rfl rfl rfl rfl ⟨rfl,rfl,rfl⟩ ⟨w.heap.size,z.cells,t,DT,σ,?_,λm O N=>Bdi (ok.zsc t) N⟩ λs A=>?_
  .rw[u];have q:F2 (Rc G (ext ν nm<|.pointer<|C ⟨w.heap.size,0,D⟩) S<|w.heap.push<|.cells z.cells t) (Gb G t)<|G.zero t:=
    F2.map_left ⟨rfl,λi x y E l=>by rw[E]at l;simp at l;subst l;exact .sc _<|ok.zsc t x<|o_ E⟩
   exact Ayx q
  .simp at A;subst A;exact .p _ _<|.one _ _ ⟨w.heap.size,DT,rfl⟩
omit ok
theorem Ber(i:o.op=.box t x)(a:Zz ev nm x (Out G) C=C out):Runs P G ρ o ν S B h w out:=by
 unfold Zz at a;obtain⟨y,g,a⟩:=SJ a;obtain⟨e,a⟩:=M.bindneed a;simp[M.ret]at a;subst a;have d:=hfresh nm σ;have l:=UG<|UF hev g;refine⟨.value<|.pointer<|C ⟨w.heap.size,0,D⟩,{ w with heap:=w.heap.push (.cells (ρ x).cells t) },_,ext ν nm<|.pointer<|C ⟨w.heap.size,0,D⟩,S,?_,.inl rfl,?_⟩
 .unfold execOp;rw[i];simp[Instr.box,newVar,newRow]
 .refine Post.alloc (k:=.cells y.cells) (c:=(ρ x).cells) (te:=t) (w':={ w with heap:=w.heap.push (.cells (ρ x).cells t) }) hr hB d rfl rfl rfl rfl ⟨rfl,rfl,rfl⟩ ⟨w.heap.size,(ρ x).cells,t,DT,σ,?_,λm q j=>(Aax e j).elim⟩ λs f=>?_
  .exact l.mono λ_ _=>Rc.mono<|Ajt _ hr d
  .simp at f;subst f;exact .p _ _<|.one _ _ ⟨w.heap.size,DT,rfl⟩
omit hB hfresh
theorem Bgd(g:o.op=.nilCheck x)(a:ZA ev x (Out G) C=C out):Runs P G ρ o ν S B h w out:=by
 unfold ZA at a;obtain⟨c,l,a⟩:=bindC a;obtain⟨hp,a⟩:=M.bindneed a;simp[M.ret]at a;subst a;have d:=Hk hev l;refine Runs.outP hr (v:=ρ x) ?_<|.one _ _ d;unfold execOp;rw[g];cases c with
 |ptr n off=>obtain⟨b,_,e⟩:=d;simp[e]
 |pd n off s len i=>obtain⟨_,b,_,e⟩:=d;simp[e]
 |pr n t i off=>obtain⟨b,len,j,_,_,e⟩:=d;simp[e]
 |clo f p q=>obtain⟨u,z,e,_⟩:=d;simp[e]
 |rp m x' off=>obtain⟨b,y,e⟩:=Bks d;simp[e]
 |_=>simp[isP]at hp
theorem Ap7{i:Nat}(g:o.op=.extract x i)(a:LX ev x i (Out G) C=C out):Runs P G ρ o ν S B h w out:=by
 unfold LX at a;split at a
 .rename_i xs m;split at a
  .rename_i y f;simp at a;subst a
   have:=hev x _ m
   generalize l:ρ x=u at this;cases this with
   |tup _ vs e=>obtain⟨v,j,d⟩:=e.get f;refine Runs.outP hr (v:=v) ?_ d;unfold execOp;rw[g];simp only[l,Instr.extract];simp[j]
  .simp at a
 .simp at a
end
end Go.Ab
namespace Go.Ab
variable{G:Sig}
variable{x:Operand}
section
variable{P:Program}{ν:Nat->Option Value}{S B:Nat->Prop}{h:Nat->Option (Blk G.T)}{w:World}{ρ:Operand->Value}{o:Oper}
variable(ok:SigOK P G){ev:Operand->Option (Sv G.T)}(hev:∀x s,ev x=C s->Rs G ν S w.heap s (ρ x))(hr:HRel G ν S B h w)(hB:∀b,w.heap.size<=b->B b)
 {cf:Ch G}{nm:Nat}{out:Out G}(hfresh:∀n∈out.nw,ν n=D)
theorem Arz{d:Nat}{c y:Cv G.T}(a:Lb d c=C y){v:Value}(e:Rc G ν S w.heap c v) :
  ∃b off,v=.pointer (C ⟨b,off,D⟩)/\Rc G ν S w.heap y (.pointer<|C ⟨b,off+d,D⟩):=by
 cases c with
 |ptr n off=>simp[Lb]at a;subst a;obtain⟨b,h1,rfl⟩:=e;exact⟨b,off,rfl,b,h1,rfl⟩
 |pd n off s len i=>simp[Lb]at a;subst a;obtain⟨j,b,h1,rfl⟩:=e;exact⟨b,off+i*s,rfl,j,b,h1,by simp only[Value.pointer.injEq,b6_,Addr.mk.injEq,and_true,true_and];omega⟩
 |pr n t i off=>simp[Lb]at a;subst a;obtain⟨b,len,g,h1,j,rfl⟩:=e;exact⟨b,i*G.sz t+off,rfl,b,len,g,h1,j,by rw[Z_]⟩
 |rp t x off=>
  simp[Lb]at a;subst a;cases e with
  |rp _ _ _ b base c te fz vs E z A u=>exact⟨b,base+off,rfl,by rw[Z_];exact .rp t x (off+d) b base c te fz vs E z A u⟩
 |sc v=>simp[Lb]at a
 |own m=>simp[Lb]at a
 |ro t l=>simp[Lb]at a
 |clo f p q=>simp[Lb]at a
 |np n t=>simp[Lb]at a
 |sa n o l=>simp[Lb]at a
include ok in
theorem Ap9{t f:Nat}{e:List<|Nat×Nat}(j:G.ty t=.st e){o:Nat×Nat}(d:e[f]?=C o) :
  ∃a fld,P.underlying t=C (.struct a)/\a[f]?=C fld/\fld.offset=o.1/\fld.type=o.2/\G.ty o.2≠ .no:=by
 obtain⟨a,h1,g,i⟩:=ok.strc t e j;rw[<-g]at d;rw[X_]at d;cases hq:a.toList[f]? with
 |none=>simp[hq]at d
 |some fld=>simp[hq]at d;refine⟨a,fld,h1,by simpa using hq,by rw[<-d],by rw[<-d],?_⟩;refine i o.1 o.2 ?_;rw[<-g];exact b3_.2 ⟨fld,o_ hq,by rw[<-d]⟩
include hev
omit hev in
theorem Oj{i:Int}{n:Nat}(a:inB i n=H):0<=i/\i<n:=by simpa[inB]using a
include hr
include ok in
theorem Ajh{t f:Nat}(m:o.op=.fieldAddr t x f)(a:IZ ev t x f (Out G) C=C out):Runs P G ρ o ν S B h w out:=by
 unfold IZ at a;cases g:G.ty t with
 |st L=>simp only[g]at a;obtain⟨c,A,a⟩:=bindC a;obtain⟨u,F,a⟩:=M.bindopt a;obtain⟨N,l,a⟩:=M.bindopt a;simp[M.ret]at a;subst a;obtain⟨b,off,q,e⟩:=Arz l<|Hk hev A;obtain⟨d,fld,h1,z,E,y,j⟩:=Ap9 ok g F;refine Runs.outP hr (v:=.pointer<|C ⟨b,off+u.1,D⟩) ?_<|.one _ _ e;have i:=ok.pos _ j;unfold execOp;rw[m];simp only[Instr.fieldAt,M_,N_ h1 w,u_,z,q,Instr.sureAddr,a7_,fieldPlace,y,ok.sizeOf w j,E,Ho];rw[if_neg ω];rfl
 |_=>simp[g,M.fail]at a
include ok in
theorem Aw8{t f:Nat}(V:o.op=.field t x f)(d:Rk ev t x f (Out G) C=C out):Runs P G ρ o ν S B h w out:=by
 unfold Rk at d;cases F:G.ty t with
 |st fs=>
  simp only[F]at d;obtain⟨c,Z,d⟩:=SJ d;have l:=UF hev Z;generalize Y:ρ x=u at l;cases l with
  |one c v X=>simp[Agl,M.fail]at d
  |agg ds vs g=>
  simp only[Agl]at d;obtain⟨e,hf,d⟩:=M.bindopt d;obtain⟨cs,E,d⟩:=M.bindopt d;obtain⟨y,U,d⟩:=M.bindopt d;simp[M.ret]at d;subst d;obtain⟨q,fld,h1,h2,Q,W,z⟩:=Ap9 ok F hf;obtain⟨p1,p2,p3⟩:=Om E;have N:=g.1;have hF:F2 (Rc G ν S w.heap) cs<|(vs.drop e.1).take<|G.sz e.2:=by
   refine⟨by simp;omega,λi a b m O=>?_⟩;have L:i<G.sz e.2:=by have:=(f_.1 m).1;omega
   rw[p3 i L]at m;rw[B_ L,c4_]at O;exact g.2 _ a b m O
  refine Runs.outP hr (v:=if(G.ty e.2).isAgg then .agg ((vs.drop e.1).take<|G.sz e.2).toArray else((vs.drop e.1).take<|G.sz e.2).getD 0 undef) ?_<|QU U hF;unfold execOp;rw[V];simp only[Instr.field,M_,N_ h1 w,u_,h2,Y,asAgg,a7_,Go.part,W,ok.isAgg w z];cases m:(G.ty e.2).isAgg with
  |true=>simp only[if_true,M_,ok.sizeOf w z,u_,Q];simp
  |false=>have j:=ok.pos _ z;have A:e.1<vs.length:=ω;rw[List.getD,B_ j];simp[Q,A]
 |_=>simp[F,M.fail]at d
end
end Go.Ab
