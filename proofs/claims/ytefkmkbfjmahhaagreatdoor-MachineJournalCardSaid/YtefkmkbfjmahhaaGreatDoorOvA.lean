import Derived.Test.YtefkmkbfjmahhaaGreatDoorAbE
import Derived.Test.YtefkmkbfjmahhaaGreatDoorDefs4
set_option linter.all false
open Option renaming some->A,bind->U,none->W
open Bool renaming true->B,false->C
open Go.Ab renaming lo->D
open Go renaming a_->E
open Go.IntKind renaming i64->H,u32->J,wrap->O
open Go.Ovl renaming Entry->V
open BitVec renaming ofInt->aA,toNat->aB,eq_of_getLsbD_eq->aE,eq_of_toNat_eq->aF
open List renaming all_nil->aC
open ByteArray renaming ext->aD
open Nat renaming add_sub_cancel->aG
namespace Go.Ovl
open Go Go.Ab
variable{f:Nat}{α:Type}{n:Int}
def Aa(h:-9223372036854775808≤n)(h':n<9223372036854775808):H.wrap n=n:=by rw[IntKind.wrap_i64];omega
def En(h:0≤n)(h':n<18446744073709551616):IntKind.u64.wrap n=n:=by simp only[O,IntKind.signed,IntKind.bits];simp;omega
def Ac{i:Int}{n:Nat}(h:0≤i)(h':i<n):inB i n=B:=by simp[inB];omega
def Ap{a b:Nat}(h:a≤b):Nat.ble a b=B:=Nat.ble_eq.symm▸h
def Aqg(s:ByteArray):s.toList=s.data.toList:=ByteArray.toList_eq s
def Aq0{a b:ByteArray}:eqB a b=B↔a=b:=by
 constructor
 ·intro h;simp[eqB,Aqg]at h;exact aD h
 ·rintro rfl;simp[eqB]
def Bdc(a:ByteArray):eqB a a=B:=Aq0.2 rfl
def Gx [BEq α][LawfulBEq α]{a b:α}(h:¬a=b):(a !=b)=B:=by simpa using h
def Am [BEq α][LawfulBEq α]{a b:α}(h:¬a=b):(a==b)=C:=by simpa using h
section
variable{X Y:Type}{step:X→Option (Sum X Y)}
def Bt{x x':X}(h:step x=A (.inl x')):BJ step (f+1) x=BJ step f x':=by simp only[BJ,h,Ns]
def AA{x:X}{y:Y}(h:step x=A (.inr y)):BJ step (f+1) x=A y:=by simp only[BJ,h,Ns]
def Aiy:∀{f:Nat}{x:X}{y:Y},BJ step f x=A y→∀{g:Nat},f≤g→BJ step g x=A y
 |0,_,_,h,_,_=>by simp[BJ]at h
 |f+1,x,y,h,0,hg=>by omega
 |f+1,x,y,h,g+1,hg=>by
  simp only[BJ]at h⊢;cases hs:step x with
  |none=>rw[hs]at h;simp[Ns]at h
  |some z=>
   rw[hs]at h;cases z with
   |inl x'=>exact Aiy (f:=f) (g:=g) h ω
   |inr y'=>exact h
def Aj{x:X}{y:Y}(h:BJ step f x=A y)(hf:f≤18446744073709551616):BJ step CZ x=A y:=Aiy h hf
def Are(Q:X→Y→Prop)(m:X→Nat)(hs:∀x y,Q x y→(∃x',step x=A (.inl x')∧Q x' y∧m x'<m x)∨step x=A (.inr y)):∀(n:Nat) (x:X) (y:Y),Q x y→m x≤n→BJ step (n+1) x=A y
 |n,x,y,hq,hm=>by
  rcases hs x y hq with⟨x',h1,h2,h3⟩ | h1
  ·cases n with
   |zero=>omega
   |succ n=>rw[Bt h1];exact Are Q m hs n x' y h2 ω
  ·exact AA h1
def Bje(Q:X→Y→Prop)(m:X→Nat)(hs:∀x y,Q x y→(∃x',step x=A (.inl x')∧Q x' y∧m x'<m x)∨step x=A (.inr y)){x:X}{y:Y}(hq:Q x y)(hm:m x<18446744073709551616):BJ step CZ x=A y:=Aj (Are Q m hs (m x) x y hq (A_ _)) hm
def BL{S:Type}(h:Nat→S→S):Nat→Nat→S→S
 |0,_,s=>s
 |m+1,i,s=>BL h m (i+1) (h i s)
def AP{S:Type}(N:Nat)(g:Nat→S→X)(h:Nat→S→S)(inv:Nat→S→Prop)(y:S→Y)(h1:∀i s,i<N→inv i s→step (g i s)=A (.inl (g (i+1) (h i s)))∧inv (i+1) (h i s))
  (h2:∀s,inv N s→step (g N s)=A (.inr (y s))):∀(m i:Nat) (s:S),i+m=N→inv i s→BJ step (m+1) (g i s)=A (y (BL h m i s))∧inv N (BL h m i s)
 |0,i,s,hi,hs=>by
  have:i=N:=ω
  subst this;exact⟨AA (h2 s hs),hs⟩
 |m+1,i,s,hi,hs=>by obtain⟨q1,q2⟩:=h1 i s ω hs;rw[Bt q1];exact AP N g h inv y h1 h2 m (i+1) (h i s) ω q2
end
def noB:ByteArray:=⟨#[]⟩
def Abs(d:ByteArray){k:Nat}(h:k≤d.size):(d.extract 0 k).size=k:=by simp;omega
def Ams(d:ByteArray){a b c:Nat}(h:a≤b)(h':b≤c):d.extract a b++d.extract b c=d.extract a c:=by apply aD;simp;rw[d0_ h,Nat.max_eq_right h']
def Ac7(a:ByteArray):a++noB=a:=by apply aD;simp[noB]
def Aij(d:ByteArray)(k:Nat):d.extract k k=noB:=by apply aD;simp[noB]
end Go.Ovl
namespace Go.Ovl
open Go Go.Ab
set_option maxRecDepth 100000
variable{c:Bool}
def Sat{α:Type}(o:Option α)(P:α→Prop):Prop:=∃a,o=A a∧P a
section
variable{α β:Type}{P:α→Prop}{Q:β→Prop}
def Sat.ret{a:α}(h:P a):Sat (A a) P:=⟨a,rfl,h⟩
def Sat.bindE{o:Option β}{b:β}{f:β→Option α}(h:o=A b)(h2:Sat (f b) P):Sat (U o f) P:=by subst h;exact h2
def Sat.bindS{o:Option β}{f:β→Option α}(h:Sat o Q)(h2:∀b,Q b→Sat (f b) P):Sat (U o f) P:=by obtain⟨b,h,hq⟩:=h;subst h;exact h2 b hq
def Sat.bic{x y:Option α}(h1:c=B→Sat x P)(h2:c=C→Sat y P):Sat (bif c then x else y) P:=by
 cases c with
 |true=>exact h1 rfl
 |false=>exact h2 rfl
def Sat.bifT{x y:Option α}(h:c=B)(h1:Sat x P):Sat (bif c then x else y) P:=by subst h;exact h1
def Sat.bifF{x y:Option α}(h:c=C)(h1:Sat y P):Sat (bif c then x else y) P:=by subst h;exact h1
def Sat.bindC{x y:Option β}{f:β→Option α}(h1:c=B→Sat (U x f) P)(h2:c=C→Sat (U y f) P):Sat (U (bif c then x else y) f) P:=by
 cases c with
 |true=>exact h1 rfl
 |false=>exact h2 rfl
def Sat.bindCT{x y:Option β}{f:β→Option α}(h:c=B)(h1:Sat (U x f) P):Sat (U (bif c then x else y) f) P:=by subst h;exact h1
def Sat.bindCF{x y:Option β}{f:β→Option α}(h:c=C)(h1:Sat (U y f) P):Sat (U (bif c then x else y) f) P:=by subst h;exact h1
def Sat.bindR{b:β}{f:β→Option α}(h2:Sat (f b) P):Sat (U (A b) f) P:=h2
def Sat.bindA{γ:Type}{o:Option γ}{g:γ→Option β}{f:β→Option α}(h:Sat (U o λx=>U (g x) f) P):Sat (U (U o g) f) P:=by
 cases o with
 |none=>exact h
 |some a=>exact h
def Sat.mono{R:α→Prop}{o:Option α}(h:Sat o P)(h2:∀a,P a→R a):Sat o R:=by obtain⟨a,h,hp⟩:=h;exact⟨a,h,h2 a hp⟩
def Sat.any{o:Option α}(h:Sat o P):Sat o λ_=>True:=h.mono λ_ _=>trivial
def Sat.of_eq{o:Option α}{a:α}(h:o=A a):Sat o λx=>x=a:=⟨a,h,rfl⟩
def Sat.val{a:α}{o:Option α}(h:o=A a)(hp:P a):Sat o P:=⟨a,h,hp⟩
def Sat.ex{o:Option α}(h:Sat o P):∃a,o=A a∧P a:=h
end
def Sat.iterN{X Y:Type}{step:X→Option (Sum X Y)}(I:Nat→X→Prop)(P:Y→Prop)(hs:∀k x,I k x→Sat (step x) λr=>match r with | .inl x'=>∃k',k=k'+1∧I k' x' | .inr y=>P y):∀(k:Nat) (x:X),I k x→Sat (BJ step (k+1) x) P
 |k,x,hi=>by
  obtain⟨r,h1,h2⟩:=hs k x hi
  match r,h1,h2 with
  | .inr y,h1,h2=>exact⟨y,AA h1,h2⟩
  | .inl x',h1,⟨k',hk,hi'⟩=>subst hk;rw[Bt h1];exact Sat.iterN I P hs k' x' hi'
def Sat.loop{X Y:Type}{step:X→Option (Sum X Y)}(I:Nat→X→Prop){P:Y→Prop}(hs:∀k x,I k x→Sat (step x) λr=>match r with | .inl x'=>∃k',k=k'+1∧I k' x' | .inr y=>P y)(k:Nat){x:X}(hi:I k x)(hk:k<18446744073709551616):Sat (BJ step CZ x) P:=by obtain⟨y,h1,h2⟩:=Sat.iterN I P hs k x hi;exact⟨y,Aj h1 ω,h2⟩
def Afo(n:Int):decide ((0:Int)≤IntKind.u64.wrap n)=B:=by simp only[O,IntKind.signed,IntKind.bits];simp;exact Int.emod_nonneg _ τ
class SatT {α:Type}(o:Option α):Prop where
 out:Sat o λ_=>True
section
variable{α β:Type}{P:α→Prop}
def Sat.bT{x y:Option α}(h1:Sat x P)(h:c=true:=by with_reducible first | exact Eq.refl true | exact Afo _ | assumption):Sat (bif c then x else y) P:=Sat.bifT h h1
def Sat.bF{x y:Option α}(h1:Sat y P)(h:c=false:=by with_reducible first | exact Eq.refl false | assumption):Sat (bif c then x else y) P:=Sat.bifF h h1
def Sat.cT{x y:Option β}{f:β→Option α}(h1:Sat (Option.bind x f) P)(h:c=true:=by with_reducible first | exact Eq.refl true | exact Afo _ | assumption):Sat (Option.bind (bif c then x else y) f) P:=Sat.bindCT h h1
def Sat.cF{x y:Option β}{f:β→Option α}(h1:Sat (Option.bind y f) P)(h:c=false:=by with_reducible first | exact Eq.refl false | assumption):Sat (Option.bind (bif c then x else y) f) P:=Sat.bindCF h h1
def Sat.sT{o:Option β}{f:β→Option α}(h2:∀b,True→Sat (f b) P)(h:Sat o (λ_=>True):=by with_reducible first | assumption | exact SatT.out):Sat (Option.bind o f) P:=Sat.bindS h h2
def Sat.go{o:Option α}(h:Sat o P:=by repeat' with_reducible first | refine Sat.bindR ?_ | refine Sat.bindA ?_ | refine Sat.cT ?_ | refine Sat.cF ?_ | refine Sat.bindC (λ_=>?_) (λ_=>?_) | refine Sat.bT ?_ | refine Sat.bF ?_ | refine Sat.bic (λ_=>?_) (λ_=>?_) | refine Sat.sT λ_ _=>?_ | exact Sat.ret trivial):Sat o P:=h
end
end Go.Ovl
namespace Go.Ovl
open Go Go.Ab
variable{i:Nat}{f:Int}
def bv(f:Int):BitVec 32:=aA 32 f
def vb(b:BitVec 32):Int:=(b.toNat:Int)
def KT(b:BitVec 32):0≤vb b∧vb b<4294967296:=by
 have:=b.isLt
 unfold vb;omega
def Asw(b:BitVec 32):bv (vb b)=b:=by
 apply aF
 have:=b.isLt
 simp only[bv,vb,Z_];omega
def Avr(h:0≤f∧f<4294967296):vb (bv f)=f:=by simp only[bv,vb,Z_];omega
def Tp(b:BitVec 32):J.wrap ((b.toNat:Nat):Int)=vb b:=by
 have:=b.isLt
 simp only[O,IntKind.signed,IntKind.bits,vb];simp;omega
def Alu:IntKind.bits .u32=32:=rfl
def Bin(f:Int):bv (O J f)=bv f:=by apply aF;simp only[bv,Z_,O,IntKind.signed,IntKind.bits];simp
def Alw(i:Nat):bv (O J (1*2^min i (IntKind.bits .u32)))=if i<32 then BitVec.twoPow 32 i else 0#32:=by
 rw[Bin,Int.one_mul];apply aF;simp only[bv,Z_,Alu];by_cases h:i<32
 ·rw[if_pos h,d0_ ω,BitVec.toNat_twoPow]
  have:((2:Int)^i)=((2^i:Nat):Int):=by simp
  rw[this]
  norm_cast
 ·rw[if_neg h,Nat.min_eq_right ω];rfl
def Dl(f:Int)(i:Nat):Bool:=(bv f).getLsbD i
def Bcm(h:0≤f∧f<4294967296)(hi:i<32):
  (O J ((aB (aA (IntKind.bits .u32) (Int.fdiv f (2^min i (IntKind.bits .u32)))&&&aA (IntKind.bits .u32) 1):Nat):Int)==1)=Dl f i:=by
 have e:Int.fdiv f (2^min i (IntKind.bits .u32))=((f.toNat/2^i:Nat):Int):=by
  rw[Alu,d0_ ω,a9_ _ (by exact Int.le_of_lt (Int.pow_pos ω))]
  have:f=((f.toNat:Nat):Int):=ω
  rw[this];simp
 rw[e];show(O J (((bv ((f.toNat/2^i:Nat):Int)&&&bv 1).toNat:Nat):Int)==1)=_;rw[Tp];have hb:(bv ((f.toNat/2^i:Nat):Int)&&&bv 1)=if Dl f i then 1#32 else 0#32:=by
  apply aE;intro j hj;have h1:(bv ((f.toNat/2^i:Nat):Int)).getLsbD j=(f.toNat/2^i).testBit j:=by
   simp only[bv,BitVec.getLsbD,Z_]
   have:(((f.toNat/2^i:Nat):Int)%((2^32:Nat):Int)).toNat=(f.toNat/2^i)%2^32:=by norm_cast
   rw[this,Nat.testBit_mod_two_pow];simp[hj]
  have h2:Dl f i=f.toNat.testBit i:=by
   simp only[Dl,bv,BitVec.getLsbD,Z_]
   have:(f%((2^32:Nat):Int)).toNat=f.toNat:=by simp;omega
   rw[this]
  have h3:(bv 1).getLsbD j=decide (j=0):=by
   have:bv 1=1#32:=rfl
   rw[this];simp[BitVec.getLsbD_one]
  rw[f4_,h1,h3,h2];by_cases hj0:j=0
  ·subst hj0;rw[Nat.testBit_div_two_pow];simp only[p_,decide_true,d5_];cases f.toNat.testBit i<;>simp
  ·simp only[hj0,decide_false,c2_];cases f.toNat.testBit i<;>simp[BitVec.getLsbD_one,hj0]
 rw[hb];cases Dl f i<;>rfl
def XB(f:Int)(i:Nat)(on:Bool):Int:=vb (if on then bv f|||BitVec.twoPow 32 i else bv f&&& ~~~ BitVec.twoPow 32 i)
def Au6(f:Int)(i:Nat)(on:Bool):0≤XB f i on∧XB f i on<4294967296:=KT _
def Aqo{g:Int}(hf:0≤f∧f<4294967296)(hg:0≤g∧g<4294967296)(h:∀i,i<32→Dl f i=Dl g i):f=g:=by rw[← Avr hf,← Avr hg];congr 1;apply aE;intro i hi;exact h i hi
def Brs(f:Int)(hi:i<32):J.wrap ((aB (aA (IntKind.bits .u32) f|||BitVec.ofInt (IntKind.bits .u32) (O J (1*2^min i (IntKind.bits .u32)))):Nat):Int)=XB f i B:=by show J.wrap (((bv f|||bv (O J (1*2^min i (IntKind.bits .u32)))).toNat:Nat):Int)=_;rw[Tp,Alw,if_pos hi];rfl
def Ayz(f:Int)(hi:i<32):J.wrap ((aB (aA (IntKind.bits .u32) f&&& ~~~ aA (IntKind.bits .u32) (O J (1*2^min i (IntKind.bits .u32)))):Nat):Int)=XB f i C:=by show J.wrap (((bv f&&& ~~~ bv (O J (1*2^min i (IntKind.bits .u32)))).toNat:Nat):Int)=_;rw[Tp,Alw,if_pos hi];rfl
def Bbf(f:Int)(i:Nat):XB (XB f i C) i B=XB f i B:=by unfold XB;simp only[g6_,e3_,g2_,Asw];congr 1;apply aE;intro j hj;simp only[BitVec.getLsbD_or,f4_,BitVec.getLsbD_not];cases(bv f).getLsbD j<;>cases(BitVec.twoPow 32 i).getLsbD j<;>simp[hj]
end Go.Ovl
namespace Go.Ovl
open Go Go.Ab
def Ahy(x y:Int):J.wrap (stk x y (aB (aA (IntKind.bits .u32) x|||BitVec.ofInt (IntKind.bits .u32) y)))=vb (bv x|||bv y):=by rw[Kh];exact Tp _
def Vo(x y:Int):J.wrap (stk x y (aB (aA (IntKind.bits .u32) x&&&aA (IntKind.bits .u32) y)))=vb (bv x&&&bv y):=by rw[Kh];exact Tp _
def KU(x y:Int):J.wrap (stk x y (aB (aA (IntKind.bits .u32) x&&& ~~~ aA (IntKind.bits .u32) y)))=vb (bv x&&& ~~~ bv y):=by rw[Kh];exact Tp _
def TK(b:BitVec 32)(i:Nat):Dl (vb b) i=b.getLsbD i:=by unfold Dl;rw[Asw]
def Aqp{k:Nat}(h:k<32)(i:Nat):Dl (O J (1*2^min k (IntKind.bits .u32))) i=decide (i=k):=by
 unfold Dl;rw[Alw,if_pos h,BitVec.getLsbD_twoPow];by_cases e:i=k
 ·subst e;simp[h]
 ·simp[e,f0_ e]
structure Bldg where
 D0:Int
 G0:Int
 I0:Int
 M0:Int
 L0:Nat
 N0:Nat
 O0:Nat
 B0:List Car
def BN{α:Type}{l:List α}{i:Nat}(d:α)(h:i<l.length):l.drop i=l.getD i d::l.drop (i+1):=by rw[h4_ h];simp[h]
def inR(D hi n:Int):Bool:=decide (D≤n)&&decide (n≤hi)
def Ar{D hi n:Int}:inR D hi n=B↔D≤n∧n≤hi:=by simp[inR]
def CB(D hi:Int){l:List Int}(hl:l.length≤maxLen):Cg D hi l=A ((l.all (inR D hi),()),()):=by
 have hm:maxLen≤9223372036854775807:=by decide
 have key:∀(m i:Nat),i+m=l.length→BJ (λx=>Ct x.1.1 x.1.2.1 x.1.2.2.1 x.1.2.2.2.1 x.1.2.2.2.2.1) (m+1) ((D,hi,l,(l.length:Int),(i:Int),()),())=A (if(l.drop i).all (inR D hi)then .inl ((),())else .inr ((C,()),())):=by
  intro m;induction m with
  |zero=>
   intro i hi';refine AA ?_;show Ct D hi l (l.length:Int) (i:Int)=_;unfold Ct;have e:decide ((i:Int)<(l.length:Int))=C:=by simp;omega
   rw[e,show i=l.length by omega];simp
  |succ m ih=>
   intro i hi';have e:decide ((i:Int)<(l.length:Int))=B:=by simp;omega
   have ib:inB (i:Int) l.length=B:=Ac ω ω;have tn:Int.toNat (i:Int)=i:=ω;have w:H.wrap ((i:Int)+1)=((i+1:Nat):Int):=by rw[Aa ω ω];omega
   rw[BN (0:Int) (ω:i<l.length)];by_cases h1:l.getD i 0<D
   ·refine(AA (y:=.inr ((C,()),())) ?_).trans ?_
    ·show Ct D hi l (l.length:Int) (i:Int)=_;unfold Ct;have d1:decide (l.getD i 0<D)=B:=by simpa using h1
     simp only[e,ib,tn,d1,d_]
    ·have:inR D hi (l.getD i 0)=C:=by rw[inR,show decide (D≤l.getD i 0)=C from f_ ω,a7_]
     rw[a4_,this];rfl
   ·have d1:decide (l.getD i 0<D)=C:=by simpa using h1
    by_cases h2:hi<l.getD i 0
    ·refine(AA (y:=.inr ((C,()),())) ?_).trans ?_
     ·show Ct D hi l (l.length:Int) (i:Int)=_;unfold Ct;have d2:decide (hi<l.getD i 0)=B:=by simpa using h2
      simp only[e,ib,tn,d1,d2,d_,b_]
     ·have:inR D hi (l.getD i 0)=C:=by rw[inR,show decide (l.getD i 0≤hi)=C from f_ ω,c2_]
      rw[a4_,this];rfl
    ·have d2:decide (hi<l.getD i 0)=C:=by simpa using h2
     refine(Bt (x':=((D,hi,l,(l.length:Int),((i+1:Nat):Int),()),())) ?_).trans ?_
     ·show Ct D hi l (l.length:Int) (i:Int)=_;unfold Ct;simp only[e,ib,tn,d1,d2,w,d_,b_]
     ·have:inR D hi (l.getD i 0)=B:=Ar.2 ⟨ω,ω⟩
      rw[ih (i+1) ω,a4_,this];rfl
 unfold Cg;have h0:HT ((D,hi,l,(l.length:Int),(0:Int),()),())=_:=Aj (key l.length 0 ω) ω;rw[h0];rw[P_];cases l.all (inR D hi)<;>rfl
def Ln(n D hi:Int):GY n D hi=A ((inR D hi n,()),()):=by unfold GY inR;cases h:decide (D≤n)<;>simp
def CG(fl:Int)(c:Car):Bool:=[c.G1,c.L3,c.O3,c.R3,c.J2,c.I2,c.T3].all (inR 1 10000)&&(inR 0 10000 c.H2&&(decide (c.I2≤c.T3)&&inR 0 (O H (fl-1)) c.A5))
def XW(fl:Int)(c:Car):Kr c.G1 c.L3 c.O3 c.H2 c.R3 c.J2 c.I2 c.T3 c.A5 fl=A ((CG fl c,()),()):=by
 have hm:7≤maxLen:=by decide
 unfold Kr CG;rw[CB 1 10000 (l:=[c.G1,c.L3,c.O3,c.R3,c.J2,c.I2,c.T3]) (by simpa using hm)];generalize [c.G1,c.L3,c.O3,c.R3,c.J2,c.I2,c.T3].all (inR 1 10000)=a;rw[CB 0 10000 (l:=[c.H2]) (by simp;omega),CB 0 _ (l:=[c.A5]) (by simp;omega)];simp only[E,a4_,aC,d5_];cases a
 ·rfl
 ·cases inR 0 10000 c.H2
  ·rfl
  ·by_cases h:c.I2≤c.T3
   ·have:decide (c.I2≤c.T3)=B:=by simpa using h
    simp only[this,d_,E,q_]
   ·have:decide (c.I2≤c.T3)=C:=by simpa using h
    simp only[this,d_,b_,E,q_,a7_]
def Bldg.tup(b:Bldg):Int×Int×Int×Int×Nat×Nat×Nat×List Car×Unit:=(b.D0,b.G0,b.I0,b.M0,b.L0,b.N0,b.O0,b.B0,())
def Car.tup(c:Car):Int×Int×Int×Int×Int×Int×Int×Int×Int×Unit:=(c.G1,c.L3,c.O3,c.H2,c.R3,c.J2,c.I2,c.T3,c.A5,())
def Ahg(b:Bldg)(c:Car){L:List Int}(hL:L.length=8) :
  NP (((),(),L,(0:Int),()),(b.tup,c.tup,()))=A (if(L.take 7).all (inR 1 10000)then .inl (((),(),()),(b.tup,c.tup,()))else .inr ((C,()),())):=by
 have key:∀(m i:Nat),i+m=7→BJ (λx=>letI a:=x.2.2.1.2.2;letI d:=x.2.1.2.2;letI f:=a.2.2;letI g:=d.2.2;FE x.1.2.2.1 x.1.2.2.2.1 x.2.1.1 x.2.1.2.1 d.1 d.2.1 g.1 g.2.1 g.2.2.1 g.2.2.2.1 x.2.2.1.1 x.2.2.1.2.1 a.1 a.2.1 f.1 f.2.1 f.2.2.1 f.2.2.2.1 f.2.2.2.2.1) (m+1) (((),(),L,(i:Int),()),(b.tup,c.tup,()))=A (if((L.take 7).drop i).all (inR 1 10000)then .inl (((),(),()),(b.tup,c.tup,()))else .inr ((C,()),())):=by
  intro m;induction m with
  |zero=>
   intro i hi';refine AA ?_;show FE L (i:Int) b.D0 b.G0 b.I0 b.M0 b.L0 b.N0 b.O0 b.B0 c.G1 c.L3 c.O3 c.H2 c.R3 c.J2 c.I2 c.T3 c.A5=_;unfold FE;have e:decide ((i:Int)<7)=C:=by simp;omega
   have hd:(L.take 7).drop i=[]:=List.drop_eq_nil_of_le (by simp;omega);rw[e,hd];rfl
  |succ m ih=>
   intro i hi';have e:decide ((i:Int)<7)=B:=by simp;omega
   have ib:inB (i:Int) L.length=B:=Ac ω ω;have tn:Int.toNat (i:Int)=i:=ω;have w:H.wrap ((i:Int)+1)=((i+1:Nat):Int):=by rw[Aa ω ω];omega
   have hg:(L.take 7).getD i 0=L.getD i 0:=by simp only[k_,List.getElem?_take];rw[if_pos ω]
   rw[BN (0:Int) (show i<(L.take 7).length by simp;omega),hg,a4_];cases hr:inR 1 10000 (L.getD i 0)with
   |false=>refine(AA (y:=.inr ((C,()),())) ?_).trans rfl;show FE L (i:Int) b.D0 b.G0 b.I0 b.M0 b.L0 b.N0 b.O0 b.B0 c.G1 c.L3 c.O3 c.H2 c.R3 c.J2 c.I2 c.T3 c.A5=_;unfold FE;simp only[e,ib,tn,Ln,hr,d_,E,c1_]
   |true=>
    refine(Bt (x':=(((),(),L,((i+1:Nat):Int),()),(b.tup,c.tup,()))) ?_).trans ?_
    ·show FE L (i:Int) b.D0 b.G0 b.I0 b.M0 b.L0 b.N0 b.O0 b.B0 c.G1 c.L3 c.O3 c.H2 c.R3 c.J2 c.I2 c.T3 c.A5=_;unfold FE;simp only[e,ib,tn,w,Ln,hr,d_,b_,E,m_];rfl
    ·rw[ih (i+1) ω,q_]
 have h0:=key 7 0 rfl;rw[P_]at h0;exact Aj h0 ω
def Afu(b:Bldg)(c:Car):QZ b.D0 b.G0 b.I0 b.M0 b.L0 b.N0 b.O0 b.B0 c.G1 c.L3 c.O3 c.H2 c.R3 c.J2 c.I2 c.T3 c.A5=A ((CG b.D0 c,()),()):=by
 unfold QZ CG;by_cases h1:c.H2<0
 ·have d1:decide (c.H2<0)=B:=by simpa using h1
  have d2:inR 0 10000 c.H2=C:=by rw[inR,show decide (0≤c.H2)=C from f_ ω,a7_]
  rw[d1,d_,d2,a7_,c2_]
 ·have d1:decide (c.H2<0)=C:=by simpa using h1
  rw[d1,b_];by_cases h2:10000<c.H2
  ·have d1:decide (10000<c.H2)=B:=by simpa using h2
   have d2:inR 0 10000 c.H2=C:=by rw[inR,show decide (c.H2≤10000)=C from f_ ω,c2_]
   rw[d1,d_,d2,a7_,c2_]
  ·have d1:decide (10000<c.H2)=C:=by simpa using h2
   have d2:inR 0 10000 c.H2=B:=Ar.2 ⟨ω,ω⟩;rw[d1,b_,d2,q_];have hl:=Ahg b c (L:=[c.G1,c.L3,c.O3,c.R3,c.J2,c.I2,c.T3,H.wrap (c.H2+1)]) rfl;rw[show([c.G1,c.L3,c.O3,c.R3,c.J2,c.I2,c.T3,H.wrap (c.H2+1)].take 7)=[c.G1,c.L3,c.O3,c.R3,c.J2,c.I2,c.T3]from rfl]at hl;simp only[Bldg.tup,Car.tup]at hl;rw[hl];cases [c.G1,c.L3,c.O3,c.R3,c.J2,c.I2,c.T3].all (inR 1 10000)with
   |false=>rfl
   |true=>
    simp only[g6_,E,q_,Ln];by_cases h:c.I2≤c.T3
    ·have:decide (c.I2≤c.T3)=B:=by simpa using h
     simp only[this,d_,E,q_]
    ·have:decide (c.I2≤c.T3)=C:=by simpa using h
     simp only[this,b_,E,a7_]
def Bldg.loadsOK(b:Bldg):Bool:=((Go.FloatKind.format Go.FloatKind.f64).order 0 b.L0==A Ordering.lt)&&(((Go.FloatKind.format Go.FloatKind.f64).order b.L0 b.N0==A Ordering.lt)&&(((Go.FloatKind.format Go.FloatKind.f64).order b.N0 b.O0==A Ordering.lt)&&((Go.FloatKind.format Go.FloatKind.f64).order b.O0 9218868437227405311==A Ordering.lt||(Go.FloatKind.format Go.FloatKind.f64).order b.O0 9218868437227405311==A Ordering.eq)))
def Bldg.code(b:Bldg):Int:=
 bif !inR 2 32 b.D0 then 10 else bif !inR 1 8 (b.B0.length:Int)then 11 else
 bif !(inR 1 16 b.G0&&inR 1 10000 b.M0&&b.B0.all (CG b.D0))then 12 else bif !b.loadsOK then 13 else
 bif !inR (18*(b.B0.length:Int)+24) 65536 b.I0 then 14 else 0
def EN:Car:=⟨0,0,0,0,0,0,0,0,0⟩
def XX(b:Bldg)(hl:b.B0.length≤8)(g:Bool) :
  IJ (((),g,b.B0,(b.B0.length:Int),(0:Int),()),(b.tup,()))=A (((),g&&b.B0.all (CG b.D0),()),(b.tup,())):=by
 have key:∀(m i:Nat) (g:Bool),i+m=b.B0.length→BJ (λx=>letI a:=x.2.1.2.2;letI c:=a.2.2;EU x.1.2.1 x.1.2.2.1 x.1.2.2.2.1 x.1.2.2.2.2.1 x.2.1.1 x.2.1.2.1 a.1 a.2.1 c.1 c.2.1 c.2.2.1 c.2.2.2.1) (m+1) (((),g,b.B0,(b.B0.length:Int),(i:Int),()),(b.tup,()))=A (((),g&&(b.B0.drop i).all (CG b.D0),()),(b.tup,())):=by
  intro m;induction m with
  |zero=>
   intro i g hi';refine AA ?_;show EU g b.B0 (b.B0.length:Int) (i:Int) b.D0 b.G0 b.I0 b.M0 b.L0 b.N0 b.O0 b.B0=_;unfold EU;have e:decide ((i:Int)<(b.B0.length:Int))=C:=by simp;omega
   rw[e,show i=b.B0.length by omega,a3_];simp only[b_,aC,d5_,Bldg.tup]
  |succ m ih=>
   intro i g hi';have e:decide ((i:Int)<(b.B0.length:Int))=B:=by simp;omega
   have ib:inB (i:Int) b.B0.length=B:=Ac ω ω;have tn:Int.toNat (i:Int)=i:=ω;have w:H.wrap ((i:Int)+1)=((i+1:Nat):Int):=by rw[Aa ω ω];omega
   rw[BN EN (ω:i<b.B0.length),a4_];refine(Bt (x':=(((),g&&CG b.D0 (b.B0.getD i EN),b.B0,(b.B0.length:Int),((i+1:Nat):Int),()),(b.tup,()))) ?_).trans ?_
   ·show EU g b.B0 (b.B0.length:Int) (i:Int) b.D0 b.G0 b.I0 b.M0 b.L0 b.N0 b.O0 b.B0=_;unfold EU;simp only[e,ib,tn,d_];rw[XW b.D0 (b.B0.getD i ⟨0,0,0,0,0,0,0,0,0⟩)];cases g
    ·simp only[b_,E,a7_,w];rfl
    ·simp only[d_,E,q_,w];rfl
   ·rw[ih (i+1) _ ω,Bool.and_assoc]
 have h0:=key b.B0.length 0 g ω;rw[P_]at h0;exact Aj h0 ω
def Ahf(b:Bldg)(hl:b.B0.length≤8)(g:Bool) :
  NO (((),g,(0:Int),()),(b.tup,()))=A (((),g&&b.B0.all (CG b.D0),()),(b.tup,())):=by
 have key:∀(m i:Nat) (g:Bool),i+m=b.B0.length→BJ (λx=>letI a:=x.2.1.2.2;letI c:=a.2.2;Im x.1.2.1 x.1.2.2.1 x.2.1.1 x.2.1.2.1 a.1 a.2.1 c.1 c.2.1 c.2.2.1 c.2.2.2.1) (m+1) (((),g,(i:Int),()),(b.tup,()))=A (((),g&&(b.B0.drop i).all (CG b.D0),()),(b.tup,())):=by
  intro m;induction m with
  |zero=>
   intro i g hi';refine AA ?_;show Im g (i:Int) b.D0 b.G0 b.I0 b.M0 b.L0 b.N0 b.O0 b.B0=_;unfold Im;have e:decide ((i:Int)<(b.B0.length:Int))=C:=by simp;omega
   rw[e,show i=b.B0.length by omega,a3_];simp only[b_,aC,d5_,Bldg.tup]
  |succ m ih=>
   intro i g hi';have e:decide ((i:Int)<(b.B0.length:Int))=B:=by simp;omega
   have ib:inB (i:Int) b.B0.length=B:=Ac ω ω;have tn:Int.toNat (i:Int)=i:=ω;have w:H.wrap ((i:Int)+1)=((i+1:Nat):Int):=by rw[Aa ω ω];omega
   rw[BN EN (ω:i<b.B0.length),a4_];refine(Bt (x':=(((),g&&CG b.D0 (b.B0.getD i EN),((i+1:Nat):Int),()),(b.tup,()))) ?_).trans ?_
   ·show Im g (i:Int) b.D0 b.G0 b.I0 b.M0 b.L0 b.N0 b.O0 b.B0=_;unfold Im;simp only[e,ib,tn,d_];rw[Afu b (b.B0.getD i ⟨0,0,0,0,0,0,0,0,0⟩)];cases g
    ·simp only[b_,E,a7_,w];rfl
    ·simp only[d_,E,q_,w];rfl
   ·rw[ih (i+1) _ ω,Bool.and_assoc]
 have h0:=key b.B0.length 0 g ω;rw[P_]at h0;exact Aj h0 ω
def XV(b:Bldg):Kq b.D0 b.G0 b.I0 b.M0 b.L0 b.N0 b.O0 b.B0=A ((b.loadsOK,()),()):=by
 unfold Kq Bldg.loadsOK;cases(Go.FloatKind.format Go.FloatKind.f64).order 0 b.L0==A Ordering.lt
 ·rfl
 cases(Go.FloatKind.format Go.FloatKind.f64).order b.L0 b.N0==A Ordering.lt
 ·rfl
 cases(Go.FloatKind.format Go.FloatKind.f64).order b.N0 b.O0==A Ordering.lt
 ·rfl
 rfl
def Bk(b:Bldg):AV b.D0 b.G0 b.I0 b.M0 b.L0 b.N0 b.O0 b.B0=A ((b.code,()),()):=by
 have hm:8≤maxLen:=by decide
 unfold AV Bldg.code;rw[CB 2 32 (l:=[b.D0]) (by simp;omega),CB 1 8 (l:=[(b.B0.length:Int)]) (by simp;omega),CB 1 16 (l:=[b.G0]) (by simp;omega),CB 1 10000 (l:=[b.M0]) (by simp;omega)];simp only[E,a4_,aC,d5_];cases inR 2 32 b.D0
 ·rfl
 cases hc:inR 1 8 (b.B0.length:Int)
 ·rfl
 have hlen:b.B0.length≤8:=by have:=(Ar.1 hc).2;omega
 have hg:(bif inR 1 16 b.G0 then A (((),inR 1 10000 b.M0,()),(b.tup,()))else A (((),C,()),(b.tup,())))=A (((),inR 1 16 b.G0&&inR 1 10000 b.M0,()),(b.tup,())):=by cases inR 1 16 b.G0<;>rfl
 simp only[Bldg.tup]at hg;simp only[m_,b_,hg,E];have hl:=XX b hlen (inR 1 16 b.G0&&inR 1 10000 b.M0);simp only[Bldg.tup]at hl;rw[hl,E];cases inR 1 16 b.G0&&inR 1 10000 b.M0&&b.B0.all (CG b.D0)
 ·rfl
 simp only[m_,b_];rw[XV b,E];cases b.loadsOK
 ·rfl
 simp only[m_,b_];rw[show H.wrap (O H (18*(b.B0.length:Int))+24)=18*(b.B0.length:Int)+24 by rw[Aa (n:=18*(b.B0.length:Int)) ω ω,Aa ω ω],
  CB _ 65536 (l:=[b.I0]) (by simp;omega)]
 simp only[E,a4_,aC,d5_];cases inR (18*(b.B0.length:Int)+24) 65536 b.I0<;>rfl
def FY(b:Bldg):Fb b.D0 b.G0 b.I0 b.M0 b.L0 b.N0 b.O0 b.B0=A ((b.code,()),()):=by
 unfold Fb Bldg.code;simp only[Ln,E];cases inR 2 32 b.D0
 ·rfl
 cases hc:inR 1 8 (b.B0.length:Int)
 ·rfl
 have hlen:b.B0.length≤8:=by have:=(Ar.1 hc).2;omega
 have hg:(bif inR 1 16 b.G0 then A (((),inR 1 10000 b.M0,()),(b.tup,()))else A (((),C,()),(b.tup,())))=A (((),inR 1 16 b.G0&&inR 1 10000 b.M0,()),(b.tup,())):=by cases inR 1 16 b.G0<;>rfl
 simp only[Bldg.tup]at hg;simp only[m_,b_,hg,E];have hl:=Ahf b hlen (inR 1 16 b.G0&&inR 1 10000 b.M0);simp only[Bldg.tup]at hl;rw[hl,E];cases inR 1 16 b.G0&&inR 1 10000 b.M0&&b.B0.all (CG b.D0)
 ·rfl
 simp only[m_,b_];unfold Bldg.loadsOK;cases(Go.FloatKind.format Go.FloatKind.f64).order 0 b.L0==A Ordering.lt
 ·rfl
 cases(Go.FloatKind.format Go.FloatKind.f64).order b.L0 b.N0==A Ordering.lt
 ·rfl
 cases(Go.FloatKind.format Go.FloatKind.f64).order b.N0 b.O0==A Ordering.lt
 ·rfl
 simp only[d_,q_];cases((Go.FloatKind.format Go.FloatKind.f64).order b.O0 9218868437227405311==A Ordering.lt||(Go.FloatKind.format Go.FloatKind.f64).order b.O0 9218868437227405311==A Ordering.eq)
 ·rfl
 simp only[m_,b_];rw[show H.wrap (O H (18*(b.B0.length:Int))+24)=18*(b.B0.length:Int)+24 by rw[Aa (n:=18*(b.B0.length:Int)) ω ω,Aa ω ω]];cases inR (18*(b.B0.length:Int)+24) 65536 b.I0<;>rfl
def FF(fl i:Nat):Car:=⟨100,2,6,5,4,2,3,10,((i%fl:Nat):Int)⟩
def AG(fl ca:Nat):Bldg:=⟨fl,1,4000,30,4591870180066957722,4605380978949069210,4607632778762754458,(List.range ca).map (FF fl)⟩
def Bldg.none:Bldg:=⟨0,0,0,0,0,0,0,[]⟩
def Ac0{fl ca:Nat}(h1:1≤fl)(h2:ca≤8):OR fl ca=A (((),()),((AG fl ca).tup,())):=by
 have key:∀(m i:Nat),i+m=ca→BJ (λx=>letI a:=x.2.2.1.2.2;letI b:=x.2.1.2.2;letI d:=b.2.2;letI f:=a.2.2;Hz x.1.1 x.1.2.1 x.1.2.2.2.2.1 x.2.1.1 x.2.1.2.1 b.1 b.2.1 d.1 d.2.1 d.2.2.1 d.2.2.2.1 x.2.2.1.1 x.2.2.1.2.1 a.1 a.2.1 f.1 f.2.1 f.2.2.1 f.2.2.2.1) (m+1) (((fl:Int),(ca:Int),(),(),(i:Int),()),(Bldg.none.tup,(AG fl i).tup,()))=A (((),(),()),(Bldg.none.tup,(AG fl ca).tup,())):=by
  intro m;induction m with
  |zero=>
   intro i hi';refine AA ?_;show Hz (fl:Int) (ca:Int) (i:Int) Bldg.none.D0 Bldg.none.G0 Bldg.none.I0 Bldg.none.M0 Bldg.none.L0 Bldg.none.N0 Bldg.none.O0 Bldg.none.B0 (AG fl i).D0 (AG fl i).G0 (AG fl i).I0 (AG fl i).M0 (AG fl i).L0 (AG fl i).N0 (AG fl i).O0 (AG fl i).B0=_;unfold Hz;have e:decide ((i:Int)<(ca:Int))=C:=by simp;omega
   rw[e,show i=ca by omega];rfl
  |succ m ih=>
   intro i hi';refine(Bt (x':=(((fl:Int),(ca:Int),(),(),((i+1:Nat):Int),()),(Bldg.none.tup,(AG fl (i+1)).tup,()))) ?_).trans (ih (i+1) ω);show Hz (fl:Int) (ca:Int) (i:Int) Bldg.none.D0 Bldg.none.G0 Bldg.none.I0 Bldg.none.M0 Bldg.none.L0 Bldg.none.N0 Bldg.none.O0 Bldg.none.B0 (AG fl i).D0 (AG fl i).G0 (AG fl i).I0 (AG fl i).M0 (AG fl i).L0 (AG fl i).N0 (AG fl i).O0 (AG fl i).B0=_;unfold Hz;have e:decide ((i:Int)<(ca:Int))=B:=by simp;omega
   have w:H.wrap ((i:Int)+1)=((i+1:Nat):Int):=by rw[Aa ω ω];omega
   have hz:((fl:Int) !=0)=B:=by simp;omega
   have hc:∀c:Car,Nat.ble ((AG fl i).B0.length+[c].length) 2147483648=B:=λc=>Ap (by simp[AG];omega);have ht:Int.tmod (i:Int) (fl:Int)=((i%fl:Nat):Int):=by rw[c9_ ω];norm_cast
   simp only[e,hz,hc,w,ht,d_];have hs:(AG fl (i+1)).B0=(AG fl i).B0++[FF fl i]:=by simp[AG,List.range_succ]
   simp only[Bldg.tup,hs];rfl
 unfold OR;have h0:JK (((fl:Int),(ca:Int),(),(),(0:Int),()),(Bldg.none.tup,(AG fl 0).tup,()))=_:=Aj (key ca 0 ω) ω;rw[show JK (((fl:Int),(ca:Int),(),(),(0:Int),()),(((0:Int),(0:Int),(0:Int),(0:Int),0,0,0,([]:List Car),()),((fl:Int),(1:Int),(4000:Int),(30:Int),4591870180066957722,4605380978949069210,4607632778762754458,([]:List Car),()),()))=_ from h0];rfl
def KH(fl ca:Nat)(room:Int):Bldg:={ AG fl ca with I0:=18*(ca:Int)+24+room }
def Asp{fl ca:Nat}(h1:2≤fl)(h2:fl≤8)(h3:1≤ca)(h4:ca≤3){room:Int}(hr:0≤room∧room<256):(KH fl ca room).code=0:=by
 have hl:(KH fl ca room).B0.length=ca:=by simp[KH,AG]
 unfold Bldg.code;have e1:inR 2 32 (KH fl ca room).D0=B:=Ar.2 (by simp only[KH,AG];omega);have e2:inR 1 8 ((KH fl ca room).B0.length:Int)=B:=Ar.2 ω;have e3:inR 1 16 (KH fl ca room).G0=B:=rfl;have e4:inR 1 10000 (KH fl ca room).M0=B:=rfl;have e5:(KH fl ca room).B0.all (CG (KH fl ca room).D0)=B:=by
  rw[M_];intro c hc;obtain⟨i,_,rfl⟩:=b8_.1 hc;have hm:i%fl<fl:=f8_ _ ω
  have:inR 0 (O H ((fl:Int)-1)) ((i%fl:Nat):Int)=B:=by rw[Aa ω ω];exact Ar.2 ω
  show CG (fl:Int) (FF fl i)=B;unfold CG FF;simp only[this];rfl
 have e6:(KH fl ca room).loadsOK=B:=by
  show(AG 2 1).loadsOK=B
  kernel_rfl
 have e7:inR (18*((KH fl ca room).B0.length:Int)+24) 65536 (KH fl ca room).I0=B:=Ar.2 (by rw[hl];simp only[KH];omega);rw[e1,e2,e3,e4,e5,e6,e7];rfl
variable{α:Type}{b:Bldg}{i:Nat}{l:List α}
structure Bldg.small(b:Bldg):Prop where
 lo:2≤b.D0
 hi:b.D0≤8
def u8r(n:Int):Prop:=0≤n∧n<256
def Br4:u8r 0:=⟨τ,τ⟩
def CD(d:α)(hi:i<l.length):l.getD i d∈l:=by simp only[k_,j_ hi,Option.getD_some];exact b3_ hi
def Amx{P:α→Prop}(h:∀e∈l,P e){d:α}(hi:i<l.length):P (l.getD i d):=h _ (CD d hi)
def An(h:b.code=0):1≤b.B0.length∧b.B0.length≤8:=by
 unfold Bldg.code at h;cases h1:inR 1 8 (b.B0.length:Int)with
 |true=>have:=Ar.1 h1;omega
 |false=>rw[h1]at h;cases h2:inR 2 32 b.D0<;>rw[h2]at h<;>simp at h
def Ym(h:b.code=0):18*(b.B0.length:Int)+24≤b.I0∧b.I0≤65536:=by
 unfold Bldg.code at h;cases h1:inR (18*(b.B0.length:Int)+24) 65536 b.I0 with
 |true=>exact Ar.1 h1
 |false=>rw[h1]at h;simp only[c1_,d_]at h;revert h;cases inR 2 32 b.D0<;>cases inR 1 8 (b.B0.length:Int)<;>cases inR 1 16 b.G0<;>cases inR 1 10000 b.M0<;>cases b.B0.all (CG b.D0)<;>cases b.loadsOK<;>(intro h;simp at h)
end Go.Ovl
namespace Go.Ovl
open Go Go.Ab
variable{b:Bldg}{l:List V}{i:Nat}{α:Type}
def Mr{n:Nat}(h:i<n):decide ((i:Int)<(n:Int))=B:=c_ ω
def FM{n:Nat}(h:i<n):inB (i:Int) n=B:=Ac ω ω
def IW(n:Nat):decide ((n:Int)<(n:Int))=C:=f_ (J_ _)
def Ae{β:Type}{o:Option α}{a:α}{f:α→Option β}{r:Option β}(h:o=A a)(h2:f a=r):U o f=r:=by subst h;exact h2
def Bix{l:List α}(d:α)(hi:i<l.length):l.drop i=l.getD i d::l.drop (i+1):=by rw[h4_ hi,k_,j_ hi];rfl
def Ana{X Y:Type}{step:X→Option (Sum X Y)}(N:Nat)(g:Nat→X)(y:Y)(h1:∀i,i<N→step (g i)=A (.inl (g (i+1))))(h2:step (g N)=A (.inr y)):∀m i:Nat,i+m=N→BJ step (m+1) (g i)=A y
 |0,i,hi=>by obtain rfl:i=N:=ω;exact AA h2
 |m+1,i,hi=>(Bt (h1 i ω)).trans (Ana N g y h1 h2 m (i+1) ω)
def Aix{X Y α:Type}{step:X→Option (Sum X Y)}(l:List α)(d:α)(p:α→Bool)(g:Nat→X)(y:Y)(z:α→Y)
  (h1:∀i,i<l.length→step (g i)=A (bif p (l.getD i d)then .inl (g (i+1))else .inr (z (l.getD i d)))) (h2:step (g l.length)=A (.inr y)) :
  ∀m i:Nat,i+m=l.length→BJ step (m+1) (g i)=A (match(l.drop i).find? (λx=>!p x)with | none=>y | some x=>z x)
 |0,i,hi=>by obtain rfl:i=l.length:=ω;rw[a3_];exact AA h2
 |m+1,i,hi=>by
  have hlt:i<l.length:=ω;rw[Bix d hlt];have h:=h1 i hlt;cases hp:p (l.getD i d)with
  |true=>rw[hp,d_]at h;rw[Bt h,Aix l d p g y z h1 h2 m (i+1) ω,List.find?_cons,hp];rfl
  |false=>rw[hp,b_]at h;rw[AA h,List.find?_cons,hp];rfl
def Bdj{β:Type}(p:α→Bool)(y z:β)(l:List α):(match l.find? (λx=>!p x)with | none=>y | some _=>z)=bif l.all p then y else z:=by
 induction l with
 |nil=>rfl
 |cons a l ih=>
  rw[List.find?_cons,a4_];cases p a
  ·rfl
  ·exact ih
def TR(x y:Int):decide (x<y)=!decide (y≤x):=by by_cases h:y≤x<;>simp[h]<;>omega
def Bmv(x y:Int):decide (x≤y)=!decide (y<x):=by by_cases h:y<x<;>simp[h]<;>omega
def noE:V:=Entry.mk 0 0 0 0 C
structure Img where
 F0:List Int
 K0:List Bool
 H0:List Bool
 A0:List Entry
def Img.tup(m:Img):List Int×List Bool×List Bool×List V×Unit:=(m.F0,m.K0,m.H0,m.A0,())
def Img.none:Img:=⟨[],[],[],[]⟩
def NW(fl floor dir:Int):Bool:=(dir==1&&inR 0 (fl-2) floor)||(dir==2&&inR 1 (fl-1) floor)
def Yi{fl:Int}(h:0≤fl∧fl<100)(floor dir:Int):Jm fl floor dir=A ((NW fl floor dir,()),()):=by
 have w1:H.wrap (fl-1)=fl-1:=Aa ω ω;have w2:H.wrap (fl-2)=fl-2:=Aa ω ω;have k:∀D hi:Int,Cg D hi [floor]=A ((inR D hi floor,()),()):=λD hi=>by rw[CB D hi (show [floor].length≤maxLen from(show 1≤maxLen by decide))];simp
 unfold Jm NW;rw[w1,w2,k,k];cases dir==1<;>cases dir==2<;>cases inR 0 (fl-2) floor<;>rfl
def Ao(b:Bldg)(floor dir:Int):Bool:=b.code==0&&NW b.D0 floor dir
def Mm(hb:b.small)(floor dir:Int):Fx b.D0 b.G0 b.I0 b.M0 b.L0 b.N0 b.O0 b.B0 floor dir=A ((Ao b floor dir,()),()):=by unfold Fx Ao;rw[Bk,Yi ⟨by have:=hb.lo;omega,by have:=hb.hi;omega⟩];simp only[E];cases b.code==0<;>rfl
def Lk(hb:b.small)(floor dir:Int):HI b.D0 b.G0 b.I0 b.M0 b.L0 b.N0 b.O0 b.B0 floor dir=A ((Ao b floor dir,()),()):=by have D:=hb.lo;have hi:=hb.hi;have w1:H.wrap (b.D0-1)=b.D0-1:=Aa ω ω;have w2:H.wrap (b.D0-2)=b.D0-2:=Aa ω ω;unfold HI Ao NW;rw[FY,w1,w2,Ln,Ln];simp only[E,bne];cases b.code==0<;>cases dir==1<;>cases dir==2<;>cases inR 0 (b.D0-2) floor<;>rfl
def Hk(b:Bldg)(e:V):Bool:=Ao b e.E0 e.J0&&(decide (-2≤e.R0)&&(decide (e.R0<(b.B0.length:Int))&&(decide (0≤e.B1)&&decide (e.B1≤255))))
def Ag3(hb:b.small)(e:V):NC b.D0 b.G0 b.I0 b.M0 b.L0 b.N0 b.O0 b.B0 e.E0 e.J0 e.R0 e.B1 e.N1=A ((Hk b e,()),()):=by unfold NC Hk;rw[Mm hb];simp only[E];cases Ao b e.E0 e.J0<;>cases decide (-2≤e.R0)<;>cases decide (e.R0<(b.B0.length:Int))<;>cases decide (0≤e.B1)<;>rfl
def Be(a b:V):Bool:=decide (a.E0<b.E0)||(a.E0==b.E0&&decide (a.J0<b.J0))
def Aa4(a b:V):Pf a.E0 a.J0 a.R0 a.B1 a.N1 b.E0 b.J0 b.R0 b.B1 b.N1=A ((Be a b,()),()):=by unfold Pf Be;cases decide (a.E0<b.E0)<;>cases a.E0==b.E0<;>rfl
def WG(x y:Int):Int:=bif decide (x<y)then -1 else bif decide (y<x)then 1 else 0
def HB(x y:Int):Ew x y=A ((WG x y,()),()):=by unfold Ew LD WG;simp only[E,Q_,b_];cases decide (x<y)<;>cases decide (y<x)<;>rfl
def Yl(x y:Int):Mb [x,y]=A (((bif x !=0 then x else y),()),()):=by
 have r:∀(l:List Int) (i:Nat),i<l.length→l.length<100→JO 0 l (l.length:Int) (i:Int)=A (bif l.getD i 0 !=0 then Sum.inr (Sum.inr ((l.getD i 0,()),()))else Sum.inl (((0:Int),l,(l.length:Int),((i+1:Nat):Int),()),())):=λl i hi hl=>by
  have w:H.wrap ((i:Int)+1)=((i+1:Nat):Int):=by rw[Aa ω ω];omega
  unfold JO;rw[c_ (ω:(i:Int)<(l.length:Int)),Ac (ω:(0:Int)≤(i:Int)) (ω:(i:Int)<(l.length:Int)),i_,w];simp only[d_];cases l.getD i 0 !=0<;>rfl
 have r0:JO 0 [x,y] 2 0=A (bif x !=0 then Sum.inr (Sum.inr ((x,()),()))else Sum.inl (((0:Int),[x,y],(2:Int),(1:Int),()),())):=r [x,y] 0 σ σ;have r1:JO 0 [x,y] 2 1=A (bif y !=0 then Sum.inr (Sum.inr ((y,()),()))else Sum.inl (((0:Int),[x,y],(2:Int),(2:Int),()),())):=r [x,y] 1 σ σ;have h:MQ (((0:Int),[x,y],(2:Int),(0:Int),()),())=A (bif x !=0 then .inr ((x,()),())else bif y !=0 then .inr ((y,()),())else .inl (((0:Int),()),())):=by
  refine Aj (f:=3) ?_ ω;cases hx:x !=0 with
  |true=>rw[hx]at r0;exact AA r0
  |false=>
   rw[hx]at r0;refine(Bt r0).trans ?_;cases hy:y !=0 with
   |true=>rw[hy]at r1;exact AA r1
   |false=>rw[hy]at r1;exact(Bt r1).trans (AA rfl)
 unfold Mb;rw[show((([x,y]:List Int).length:Nat):Int)=2 from rfl,h];cases hx:x !=0 with
 |true=>rfl
 |false=>
  cases hy:y !=0 with
  |true=>rfl
  |false=>
   have:y=0:=by simpa using hy
   subst this;rfl
def QM(a b:V):∃n:Int,Ih a.E0 a.J0 a.R0 a.B1 a.N1 b.E0 b.J0 b.R0 b.B1 b.N1=A ((n,()),())∧decide (0≤n)=!Be a b∧(n=0↔a.E0=b.E0∧a.J0=b.J0):=by
 unfold Ih;rw[HB,HB];simp only[E];rw[Yl];refine⟨_,rfl,?_,?_⟩
 ·unfold Be WG;by_cases h1:a.E0<b.E0
  ·rw[c_ h1];rfl
  ·rw[f_ h1];by_cases h2:b.E0<a.E0
   ·rw[c_ h2,Am (ω:¬a.E0=b.E0)];rfl
   ·rw[f_ h2,show(a.E0==b.E0)=B by simp;omega];by_cases h3:a.J0<b.J0
    ·rw[c_ h3];rfl
    ·rw[f_ h3];cases decide (b.J0<a.J0)<;>rfl
 ·unfold WG;by_cases h1:a.E0<b.E0
  ·rw[c_ h1];exact⟨(λh=>by cases h),(λh=>by omega)⟩
  ·rw[f_ h1];by_cases h2:b.E0<a.E0
   ·rw[c_ h2];exact⟨(λh=>by cases h),(λh=>by omega)⟩
   ·rw[f_ h2];by_cases h3:a.J0<b.J0
    ·rw[c_ h3];exact⟨(λh=>by cases h),(λh=>by omega)⟩
    ·rw[f_ h3];by_cases h4:b.J0<a.J0
     ·rw[c_ h4];exact⟨(λh=>by cases h),(λh=>by omega)⟩
     ·rw[f_ h4];exact⟨λ_=>⟨ω,ω⟩,λ_=>rfl⟩
def FL(b:Bldg):Option V→List V→Bool
 |_,[]=>B
 |p,e::t=>Hk b e&&((match p with | some q=>Be q e | none=>B)&&FL b (A e) t)
def Img.ok(b:Bldg)(m:Img):Bool:=b.code==0&&((m.F0.length:Int)==(b.B0.length:Int)&&((m.K0.length:Int)==(b.B0.length:Int)&&((m.H0.length:Int)==(b.B0.length:Int)&&(m.F0.all (inR 0 4)&&FL b Option.none m.A0))))
def Qk(l:List V)(i:Nat):Option V:=if i=0 then W else A (l.getD (i-1) noE)
def At1(h:i<l.length):FL b (Qk l i) (l.drop i)=(Hk b (l.getD i noE)&&((match Qk l i with | some q=>Be q (l.getD i noE) | none=>B)&&FL b (Qk l (i+1)) (l.drop (i+1)))):=by rw[BN noE h];simp only[FL,Qk,Nat.succ_ne_zero,e3_,aG]
def Bbl{D hi v:Int}{a c:α}:(bif decide (v<D)then a else bif decide (hi<v)then a else c)=bif inR D hi v then c else a:=by unfold inR;rw[TR v D,TR hi v];cases decide (D≤v)<;>cases decide (v≤hi)<;>rfl
def wrM{n:Nat}(hn:n≤maxLen)(h:i<n):H.wrap ((i:Int)+1)=((i+1:Nat):Int):=by
 have:maxLen≤9223372036854775807:=by decide
 rw[Aa ω ω];omega
def wrP{j n:Nat}(hn:n≤maxLen)(h:j+1<n):H.wrap (((j+1:Nat):Int)-1)=(j:Int):=by
 have:maxLen≤9223372036854775807:=by decide
 rw[Aa ω ω];omega
def ZU{X Y:Type}{step:X→Option (Sum X Y)}{N:Nat}(hN:N≤maxLen)(g:Nat→X)(p q:Nat→Bool){y0 y1:Y}(hq:∀i,i<N→q i=(p i&&q (i+1)))(hN':q N=B)(h2:∀i,i<N→step (g i)=A (bif p i then .inl (g (i+1))else .inr y1))(h1:step (g N)=A (.inr y0)):BJ step CZ (g 0)=A (if q 0 then y0 else y1):=by
 have hmx:maxLen≤9223372036854775807:=by decide
 have key:∀k i:Nat,i+k=N→BJ step (k+1) (g i)=A (if q i then y0 else y1):=by
  intro k;induction k with
  |zero=>intro i hi;obtain rfl:i=N:=ω;rw[hN'];exact AA h1
  |succ k ih=>
   intro i hi;have h:=h2 i ω;rw[hq i ω];cases hp:p i with
   |true=>rw[hp]at h;exact(Bt h).trans (ih (i+1) ω)
   |false=>rw[hp]at h;exact AA h
 exact Aj (key N 0 ω) ω
def Amo(b:Bldg)(l:List V)(i:Nat):Bool:=Hk b (l.getD i noE)&&(match Qk l i with | some q=>Be q (l.getD i noE) | none=>B)
def Aig(h:i<l.length):FL b (Qk l i) (l.drop i)=(Amo b l i&&FL b (Qk l (i+1)) (l.drop (i+1))):=by rw[At1 h,← Bool.and_assoc];rfl
section
variable{b:Bldg}(hb:b.small)(m:Img)
include hb
theorem Aj7(hm:m.A0.length≤maxLen):LS (((),(),m.A0,(m.A0.length:Int),(0:Int),()),(b.tup,m.tup,()))=A (if FL b W m.A0 then .inl ((),())else .inr ((C,()),())):=by
 refine ZU (N:=m.A0.length) hm (λi=>(((),(),m.A0,(m.A0.length:Int),(i:Int),()),(b.tup,m.tup,()))) (Amo b m.A0) (λi=>FL b (Qk m.A0 i) (m.A0.drop i)) (λi hi=>Aig hi) (by rw[a3_];rfl) (λi hi=>?_) (by show IP m.A0 (m.A0.length:Int) (m.A0.length:Int) b.D0 b.G0 b.I0 b.M0 b.L0 b.N0 b.O0 b.B0 m.F0 m.K0 m.H0 m.A0=_;unfold IP;rw[IW];rfl);have he:=Ag3 hb (m.A0.getD i noE);unfold noE at he;show IP m.A0 (m.A0.length:Int) (i:Int) b.D0 b.G0 b.I0 b.M0 b.L0 b.N0 b.O0 b.B0 m.F0 m.K0 m.H0 m.A0=_;unfold IP Amo;rw[Mr hi,FM hi];simp only[d_,i_,he,E];unfold noE;cases Hk b (m.A0.getD i (Entry.mk 0 0 0 0 C))with
 |false=>rfl
 |true=>
  simp only[m_,b_,q_];cases i with
  |zero=>rfl
  |succ j=>rw[c_ (ω:(0:Int)<((j+1:Nat):Int)),wrP hm hi,FM (ω:j<m.A0.length)];obtain⟨n,c1,c2,_⟩:=QM (m.A0.getD j noE) (m.A0.getD (j+1) noE);unfold noE at c1 c2;simp only[d_,i_,c1,E,wrM hm hi,c2,Qk,Nat.succ_ne_zero,e3_,aG];unfold noE;cases Be (m.A0.getD j (Entry.mk 0 0 0 0 C)) (m.A0.getD (j+1) (Entry.mk 0 0 0 0 C))<;>rfl
theorem Akk(n:Int)(hn:n=(b.B0.length:Int))(hm:m.A0.length≤maxLen):LU (((),(),n,(0:Int),()),(b.tup,m.tup,()))=A (if FL b W m.A0 then .inl ((),())else .inr ((C,()),())):=by
 refine ZU (N:=m.A0.length) hm (λi=>(((),(),n,(i:Int),()),(b.tup,m.tup,()))) (Amo b m.A0) (λi=>FL b (Qk m.A0 i) (m.A0.drop i)) (λi hi=>Aig hi) (by rw[a3_];rfl) (λi hi=>?_) (by show IR n (m.A0.length:Int) b.D0 b.G0 b.I0 b.M0 b.L0 b.N0 b.O0 b.B0 m.F0 m.K0 m.H0 m.A0=_;unfold IR;rw[IW];rfl);have hc:=Lk hb (m.A0.getD i noE).E0 (m.A0.getD i noE).J0;show IR n (i:Int) b.D0 b.G0 b.I0 b.M0 b.L0 b.N0 b.O0 b.B0 m.F0 m.K0 m.H0 m.A0=_;unfold IR Amo Hk;rw[Mr hi,FM hi,show(Entry.mk 0 0 0 0 C)=noE from rfl];simp only[d_,i_,hc,E];rw[TR (m.A0.getD i noE).R0 (-2),Bmv n (m.A0.getD i noE).R0,TR (m.A0.getD i noE).B1 0,TR 255 (m.A0.getD i noE).B1,hn];cases Ao b (m.A0.getD i noE).E0 (m.A0.getD i noE).J0 with
 |false=>rfl
 |true=>
 cases decide (-2≤(m.A0.getD i noE).R0)with
 |false=>rfl
 |true=>
 cases decide ((m.A0.getD i noE).R0<(b.B0.length:Int))with
 |false=>rfl
 |true=>
 cases decide (0≤(m.A0.getD i noE).B1)with
 |false=>rfl
 |true=>
 cases decide ((m.A0.getD i noE).B1≤255)with
 |false=>rfl
 |true=>
  simp only[m_,b_,S_,q_];cases i with
  |zero=>rfl
  |succ j=>have hl:=Aa4 (m.A0.getD j noE) (m.A0.getD (j+1) noE);rw[c_ (ω:(0:Int)<((j+1:Nat):Int)),wrP hm hi,FM (ω:j<m.A0.length)];simp only[d_,i_,hl,E,wrM hm hi,Qk,Nat.succ_ne_zero,e3_,aG];cases Be (m.A0.getD j noE) (m.A0.getD (j+1) noE)<;>rfl
omit hb in
theorem Aj6(hm:m.F0.length≤maxLen):LR (((),(),m.F0,(m.F0.length:Int),(0:Int),()),(b.tup,m.tup,()))=A (if m.F0.all (inR 0 4)then .inl (((),(),()),(b.tup,m.tup,()))else .inr ((C,()),())):=by refine ZU (N:=m.F0.length) hm (λi=>(((),(),m.F0,(m.F0.length:Int),(i:Int),()),(b.tup,m.tup,()))) (λi=>inR 0 4 (m.F0.getD i 0)) (λi=>(m.F0.drop i).all (inR 0 4)) (λi hi=>by rw[BN (0:Int) hi,a4_]) (by rw[a3_];rfl) (λi hi=>?_) (by show IN m.F0 (m.F0.length:Int) (m.F0.length:Int) b.D0 b.G0 b.I0 b.M0 b.L0 b.N0 b.O0 b.B0 m.F0 m.K0 m.H0 m.A0=_;unfold IN;rw[IW];rfl);show IN m.F0 (m.F0.length:Int) (i:Int) b.D0 b.G0 b.I0 b.M0 b.L0 b.N0 b.O0 b.B0 m.F0 m.K0 m.H0 m.A0=_;unfold IN;rw[Mr hi,FM hi,wrM hm hi];simp only[d_,i_];rw[Bbl];cases inR 0 4 (m.F0.getD i 0)<;>rfl
omit hb in
theorem Akj(n:Int)(hn:n=(m.F0.length:Int))(hm:m.F0.length≤maxLen):LT (((),(),n,(0:Int),()),(b.tup,m.tup,()))=A (if m.F0.all (inR 0 4)then .inl (((),(),n,()),(b.tup,m.tup,()))else .inr ((C,()),())):=by subst hn;refine ZU (N:=m.F0.length) hm (λi=>(((),(),(m.F0.length:Int),(i:Int),()),(b.tup,m.tup,()))) (λi=>inR 0 4 (m.F0.getD i 0)) (λi=>(m.F0.drop i).all (inR 0 4)) (λi hi=>by rw[BN (0:Int) hi,a4_]) (by rw[a3_];rfl) (λi hi=>?_) (by show IQ (m.F0.length:Int) (m.F0.length:Int) b.D0 b.G0 b.I0 b.M0 b.L0 b.N0 b.O0 b.B0 m.F0 m.K0 m.H0 m.A0=_;unfold IQ;rw[IW];rfl);show IQ (m.F0.length:Int) (i:Int) b.D0 b.G0 b.I0 b.M0 b.L0 b.N0 b.O0 b.B0 m.F0 m.K0 m.H0 m.A0=_;unfold IQ;rw[Mr hi,FM hi,wrM hm hi];simp only[d_,i_];rw[Bbl];cases inR 0 4 (m.F0.getD i 0)<;>rfl
theorem Do(hp:m.F0.length≤maxLen)(he:m.A0.length≤maxLen):CH b.D0 b.G0 b.I0 b.M0 b.L0 b.N0 b.O0 b.B0 m.F0 m.K0 m.H0 m.A0=A ((m.ok b,()),()):=by
 unfold CH Img.ok;rw[Bk];simp only[E,bne];cases b.code==0 with
 |false=>rfl
 |true=>
  cases(m.F0.length:Int)==(b.B0.length:Int)with
  |false=>rfl
  |true=>
   cases(m.K0.length:Int)==(b.B0.length:Int)with
   |false=>rfl
   |true=>
    cases(m.H0.length:Int)==(b.B0.length:Int)with
    |false=>rfl
    |true=>
     have h0:=Aj6 (b:=b) m hp;have h1:=Aj7 hb m he;unfold Bldg.tup Img.tup at h0 h1;simp only[m_,b_,h0,E,q_];cases m.F0.all (inR 0 4)with
     |false=>rfl
     |true=>simp only[g6_,h1,E,q_];cases FL b W m.A0<;>rfl
theorem Nc(hp:m.F0.length≤maxLen)(he:m.A0.length≤maxLen):Ha b.D0 b.G0 b.I0 b.M0 b.L0 b.N0 b.O0 b.B0 m.F0 m.K0 m.H0 m.A0=A ((m.ok b,()),()):=by
 unfold Ha Img.ok;rw[FY];simp only[E,bne];cases b.code==0 with
 |false=>rfl
 |true=>
  cases hq:(m.F0.length:Int)==(b.B0.length:Int)with
  |false=>rfl
  |true=>
   cases(m.K0.length:Int)==(b.B0.length:Int)with
   |false=>rfl
   |true=>
    cases(m.H0.length:Int)==(b.B0.length:Int)with
    |false=>rfl
    |true=>
     have hq':(m.F0.length:Int)=(b.B0.length:Int):=by simpa using hq
     have h0:=Akj (b:=b) m (b.B0.length:Int) hq'.symm hp;have h1:=Akk hb m (b.B0.length:Int) rfl he;unfold Bldg.tup Img.tup at h0 h1;simp only[m_,b_,h0,E,q_];cases m.F0.all (inR 0 4)with
     |false=>rfl
     |true=>simp only[g6_,h1,E,q_];cases FL b W m.A0<;>rfl
end
def Ajb(n D hi:Int):Oj n D hi=A ((inR D hi n,()),()):=by unfold Oj inR;cases decide (D≤n)<;>rfl
def TO(b:Bldg)(r:Record):Bool:=inR 0 ((b.B0.length:Int)-1) r.R0&&(r.E0==0&&r.J0==0)
def As(b:Bldg)(r:Record):Bool:=
 b.code==0&&(bif r.Q0==1 then Ao b r.E0 r.J0&&(r.R0==0&&r.J1==0)
 else bif r.Q0==2 then Ao b r.E0 r.J0&&(r.R0==0&&r.J1==0)
 else bif r.Q0==3 then Ao b r.E0 r.J0&&(inR (-2) ((b.B0.length:Int)-1) r.R0&&r.J1==0)
 else bif r.Q0==4 then TO b r&&inR 0 4 r.J1
 else bif r.Q0==5 then TO b r&&inR 0 1 r.J1
 else bif r.Q0==6 then TO b r&&inR 0 1 r.J1
 else bif r.Q0==7 then Ao b r.E0 r.J0&&(inR 0 1 r.R0&&inR 0 255 r.J1)
 else C)
def Ui(hb:b.small)(hc:b.B0.length≤100)(r:Record):Lq b.D0 b.G0 b.I0 b.M0 b.L0 b.N0 b.O0 b.B0 r.Q0 r.E0 r.J0 r.R0 r.J1=A ((As b r,()),()):=by
  have w:H.wrap ((b.B0.length:Int)-1)=(b.B0.length:Int)-1:=Aa ω ω;unfold Lq As TO;rw[FY,Lk hb,Ajb,w];simp only[E,bne,Ajb];cases b.code==0 with
  |false=>rfl
  |true=>
    simp only[m_,b_,q_];have k:∀(q:Bool) {x y z:Option ((Bool×Unit)×Unit)}{u v:Bool},(q=B→x=A ((u,()),()))→(q=C→y=A ((v,()),()))→(bif q then x else y)=A (((bif q then u else v),()),()):=λq _ _ _ _ _ h1 h2=>by
      cases q
      · exact h2 rfl
      · exact h1 rfl
    cases inR 0 ((b.B0.length:Int)-1) r.R0<;>cases r.E0==0<;>cases r.J0==0<;>
      (simp only[d_,b_,E,S_,d5_,c2_,a7_,q_]
       refine k _ (z:=W) (λ_=>?_) λ_=>k _ (z:=W) (λ_=>?_) λ_=>k _ (z:=W) (λ_=>?_) λ_=>k _ (z:=W) (λ_=>?_) λ_=>k _ (z:=W) (λ_=>?_) λ_=>k _ (z:=W) (λ_=>?_) λ_=>k _ (z:=W) (λ_=>?_) λ_=>?_
       all_goals first
         |rfl
         |(cases Ao b r.E0 r.J0<;>cases r.R0==0<;>rfl)
         |(cases Ao b r.E0 r.J0<;>cases inR 0 1 r.R0<;>rfl)
         |(rw[w];cases Ao b r.E0 r.J0<;>cases inR (-2) ((b.B0.length:Int)-1) r.R0<;>rfl))
end Go.Ovl
