import Derived.Test.YtphhlndnankhiaaGreatDoorAbE
import Derived.Test.YtphhlndnankhiaaGreatDoorDefs4
set_option linter.all false
open Option renaming some->A,bind->U,none->W
open Bool renaming true->B,false->C
open Go.Ab renaming lo->D
open Go renaming a_->E
open Go.IntKind renaming i64->H,u32->J,wrap->O
open Go.Ovl renaming Entry->V
open BitVec renaming ofInt->aA,toNat->aB,eq_of_getLsbD_eq->aE,eq_of_toNat_eq->aF
open List renaming all_nil->aC
open ByteArray renaming ext->aD
open Nat renaming add_sub_cancel->aG
namespace Go.Ovl
open Go Go.Ab
variable{f:Nat}{α:Type}{n:Int}
def Aa(h:-9223372036854775808≤n)(h':n<9223372036854775808):H.wrap n=n:=by rw[IntKind.wrap_i64];omega
def Dg(h:0≤n)(h':n<18446744073709551616):IntKind.u64.wrap n=n:=by simp only[O,IntKind.signed,IntKind.bits];simp;omega
def Ac{i:Int}{n:Nat}(h:0≤i)(h':i<n):inB i n=B:=by simp[inB];omega
def Av{a b:Nat}(h:a≤b):Nat.ble a b=B:=Nat.ble_eq.symm▸h
def Ap3(s:ByteArray):s.toList=s.data.toList:=ByteArray.toList_eq s
def Aqp{a b:ByteArray}:eqB a b=B↔a=b:=by
 constructor
 ·intro h;simp[eqB,Ap3]at h;exact aD h
 ·rintro rfl;simp[eqB]
def Ama(a:ByteArray):eqB a a=B:=Aqp.2 rfl
def Ig [BEq α][LawfulBEq α]{a b:α}(h:¬a=b):(a !=b)=B:=by simpa using h
def An [BEq α][LawfulBEq α]{a b:α}(h:¬a=b):(a==b)=C:=by simpa using h
section
variable{X Y:Type}{step:X→Option (Sum X Y)}
def BS{x x':X}(h:step x=A (.inl x')):BY step (f+1) x=BY step f x':=by simp only[BY,h,Ry]
def AK{x:X}{y:Y}(h:step x=A (.inr y)):BY step (f+1) x=A y:=by simp only[BY,h,Ry]
def Aii:∀{f:Nat}{x:X}{y:Y},BY step f x=A y→∀{g:Nat},f≤g→BY step g x=A y
 |0,_,_,h,_,_=>by simp[BY]at h
 |f+1,x,y,h,0,hg=>by omega
 |f+1,x,y,h,g+1,hg=>by
  simp only[BY]at h⊢;cases hs:step x with
  |none=>rw[hs]at h;simp[Ry]at h
  |some z=>
   rw[hs]at h;cases z with
   |inl x'=>exact Aii (f:=f) (g:=g) h ω
   |inr y'=>exact h
def Ak{x:X}{y:Y}(h:BY step f x=A y)(hf:f≤18446744073709551616):BY step DL x=A y:=Aii h hf
def Aq4(Q:X→Y→Prop)(m:X→Nat)(hs:∀x y,Q x y→(∃x',step x=A (.inl x')∧Q x' y∧m x'<m x)∨step x=A (.inr y)):∀(n:Nat) (x:X) (y:Y),Q x y→m x≤n→BY step (n+1) x=A y
 |n,x,y,hq,hm=>by
  rcases hs x y hq with⟨x',h1,h2,h3⟩ | h1
  ·cases n with
   |zero=>omega
   |succ n=>rw[BS h1];exact Aq4 Q m hs n x' y h2 ω
  ·exact AK h1
def Bii(Q:X→Y→Prop)(m:X→Nat)(hs:∀x y,Q x y→(∃x',step x=A (.inl x')∧Q x' y∧m x'<m x)∨step x=A (.inr y)){x:X}{y:Y}(hq:Q x y)(hm:m x<18446744073709551616):BY step DL x=A y:=Ak (Aq4 Q m hs (m x) x y hq (A_ _)) hm
def AE{S:Type}(h:Nat→S→S):Nat→Nat→S→S
 |0,_,s=>s
 |m+1,i,s=>AE h m (i+1) (h i s)
def AP{S:Type}(N:Nat)(g:Nat→S→X)(h:Nat→S→S)(inv:Nat→S→Prop)(y:S→Y)(h1:∀i s,i<N→inv i s→step (g i s)=A (.inl (g (i+1) (h i s)))∧inv (i+1) (h i s))
  (h2:∀s,inv N s→step (g N s)=A (.inr (y s))):∀(m i:Nat) (s:S),i+m=N→inv i s→BY step (m+1) (g i s)=A (y (AE h m i s))∧inv N (AE h m i s)
 |0,i,s,hi,hs=>by
  have:i=N:=ω
  subst this;exact⟨AK (h2 s hs),hs⟩
 |m+1,i,s,hi,hs=>by obtain⟨q1,q2⟩:=h1 i s ω hs;rw[BS q1];exact AP N g h inv y h1 h2 m (i+1) (h i s) ω q2
end
def noB:ByteArray:=⟨#[]⟩
def WL(d:ByteArray){k:Nat}(h:k≤d.size):(d.extract 0 k).size=k:=by simp;omega
def Ame(d:ByteArray){a b c:Nat}(h:a≤b)(h':b≤c):d.extract a b++d.extract b c=d.extract a c:=by apply aD;simp;rw[c6_ h,Nat.max_eq_right h']
def Ac1(a:ByteArray):a++noB=a:=by apply aD;simp[noB]
def Ah1(d:ByteArray)(k:Nat):d.extract k k=noB:=by apply aD;simp[noB]
end Go.Ovl
namespace Go.Ovl
open Go Go.Ab
set_option maxRecDepth 100000
variable{c:Bool}
def Sat{α:Type}(o:Option α)(P:α→Prop):Prop:=∃a,o=A a∧P a
section
variable{α β:Type}{P:α→Prop}{Q:β→Prop}
def Sat.ret{a:α}(h:P a):Sat (A a) P:=⟨a,rfl,h⟩
def Sat.bindE{o:Option β}{b:β}{f:β→Option α}(h:o=A b)(h2:Sat (f b) P):Sat (U o f) P:=by subst h;exact h2
def Sat.bindS{o:Option β}{f:β→Option α}(h:Sat o Q)(h2:∀b,Q b→Sat (f b) P):Sat (U o f) P:=by obtain⟨b,h,hq⟩:=h;subst h;exact h2 b hq
def Sat.bic{x y:Option α}(h1:c=B→Sat x P)(h2:c=C→Sat y P):Sat (bif c then x else y) P:=by
 cases c with
 |true=>exact h1 rfl
 |false=>exact h2 rfl
def Sat.bifT{x y:Option α}(h:c=B)(h1:Sat x P):Sat (bif c then x else y) P:=by subst h;exact h1
def Sat.bifF{x y:Option α}(h:c=C)(h1:Sat y P):Sat (bif c then x else y) P:=by subst h;exact h1
def Sat.bindC{x y:Option β}{f:β→Option α}(h1:c=B→Sat (U x f) P)(h2:c=C→Sat (U y f) P):Sat (U (bif c then x else y) f) P:=by
 cases c with
 |true=>exact h1 rfl
 |false=>exact h2 rfl
def Sat.bindCT{x y:Option β}{f:β→Option α}(h:c=B)(h1:Sat (U x f) P):Sat (U (bif c then x else y) f) P:=by subst h;exact h1
def Sat.bindCF{x y:Option β}{f:β→Option α}(h:c=C)(h1:Sat (U y f) P):Sat (U (bif c then x else y) f) P:=by subst h;exact h1
def Sat.bindR{b:β}{f:β→Option α}(h2:Sat (f b) P):Sat (U (A b) f) P:=h2
def Sat.bindA{γ:Type}{o:Option γ}{g:γ→Option β}{f:β→Option α}(h:Sat (U o λx=>U (g x) f) P):Sat (U (U o g) f) P:=by
 cases o with
 |none=>exact h
 |some a=>exact h
def Sat.mono{R:α→Prop}{o:Option α}(h:Sat o P)(h2:∀a,P a→R a):Sat o R:=by obtain⟨a,h,hp⟩:=h;exact⟨a,h,h2 a hp⟩
def Sat.any{o:Option α}(h:Sat o P):Sat o λ_=>True:=h.mono λ_ _=>trivial
def Sat.val{a:α}{o:Option α}(h:o=A a)(hp:P a):Sat o P:=⟨a,h,hp⟩
def Sat.ex{o:Option α}(h:Sat o P):∃a,o=A a∧P a:=h
end
def Sat.iterN{X Y:Type}{step:X→Option (Sum X Y)}(I:Nat→X→Prop)(P:Y→Prop)(hs:∀k x,I k x→Sat (step x) λr=>match r with | .inl x'=>∃k',k=k'+1∧I k' x' | .inr y=>P y):∀(k:Nat) (x:X),I k x→Sat (BY step (k+1) x) P
 |k,x,hi=>by
  obtain⟨r,h1,h2⟩:=hs k x hi
  match r,h1,h2 with
  | .inr y,h1,h2=>exact⟨y,AK h1,h2⟩
  | .inl x',h1,⟨k',hk,hi'⟩=>subst hk;rw[BS h1];exact Sat.iterN I P hs k' x' hi'
def Sat.loop{X Y:Type}{step:X→Option (Sum X Y)}(I:Nat→X→Prop){P:Y→Prop}(hs:∀k x,I k x→Sat (step x) λr=>match r with | .inl x'=>∃k',k=k'+1∧I k' x' | .inr y=>P y)(k:Nat){x:X}(hi:I k x)(hk:k<18446744073709551616):Sat (BY step DL x) P:=by obtain⟨y,h1,h2⟩:=Sat.iterN I P hs k x hi;exact⟨y,Ak h1 ω,h2⟩
def Afg(n:Int):decide ((0:Int)≤IntKind.u64.wrap n)=B:=by simp only[O,IntKind.signed,IntKind.bits];simp;exact Int.emod_nonneg _ τ
class SatT {α:Type}(o:Option α):Prop where
 out:Sat o λ_=>True
section
variable{α β:Type}{P:α→Prop}
def Sat.bT{x y:Option α}(h1:Sat x P)(h:c=true:=by with_reducible first | exact Eq.refl true | exact Afg _ | assumption):Sat (bif c then x else y) P:=Sat.bifT h h1
def Sat.bF{x y:Option α}(h1:Sat y P)(h:c=false:=by with_reducible first | exact Eq.refl false | assumption):Sat (bif c then x else y) P:=Sat.bifF h h1
def Sat.cT{x y:Option β}{f:β→Option α}(h1:Sat (Option.bind x f) P)(h:c=true:=by with_reducible first | exact Eq.refl true | exact Afg _ | assumption):Sat (Option.bind (bif c then x else y) f) P:=Sat.bindCT h h1
def Sat.cF{x y:Option β}{f:β→Option α}(h1:Sat (Option.bind y f) P)(h:c=false:=by with_reducible first | exact Eq.refl false | assumption):Sat (Option.bind (bif c then x else y) f) P:=Sat.bindCF h h1
def Sat.sT{o:Option β}{f:β→Option α}(h2:∀b,True→Sat (f b) P)(h:Sat o (λ_=>True):=by with_reducible first | assumption | exact SatT.out):Sat (Option.bind o f) P:=Sat.bindS h h2
def Sat.go{o:Option α}(h:Sat o P:=by repeat' with_reducible first | refine Sat.bindR ?_ | refine Sat.bindA ?_ | refine Sat.cT ?_ | refine Sat.cF ?_ | refine Sat.bindC (λ_=>?_) (λ_=>?_) | refine Sat.bT ?_ | refine Sat.bF ?_ | refine Sat.bic (λ_=>?_) (λ_=>?_) | refine Sat.sT λ_ _=>?_ | exact Sat.ret trivial):Sat o P:=h
end
end Go.Ovl
namespace Go.Ovl
open Go Go.Ab
variable{i:Nat}{f:Int}
def bv(f:Int):BitVec 32:=aA 32 f
def vb(b:BitVec 32):Int:=(b.toNat:Int)
def KT(b:BitVec 32):0≤vb b∧vb b<4294967296:=by
 have:=b.isLt
 unfold vb;omega
def Asm(b:BitVec 32):bv (vb b)=b:=by
 apply aF
 have:=b.isLt
 simp only[bv,vb,V_];omega
def Avp(h:0≤f∧f<4294967296):vb (bv f)=f:=by simp only[bv,vb,V_];omega
def Te(b:BitVec 32):J.wrap ((b.toNat:Nat):Int)=vb b:=by
 have:=b.isLt
 simp only[O,IntKind.signed,IntKind.bits,vb];simp;omega
def Alj:IntKind.bits .u32=32:=rfl
def Bhu(f:Int):bv (O J f)=bv f:=by apply aF;simp only[bv,V_,O,IntKind.signed,IntKind.bits];simp
def All(i:Nat):bv (O J (1*2^min i (IntKind.bits .u32)))=if i<32 then BitVec.twoPow 32 i else 0#32:=by
 rw[Bhu,Int.one_mul];apply aF;simp only[bv,V_,Alj];by_cases h:i<32
 ·rw[if_pos h,c6_ ω,BitVec.toNat_twoPow]
  have:((2:Int)^i)=((2^i:Nat):Int):=by simp
  rw[this]
  norm_cast
 ·rw[if_neg h,Nat.min_eq_right ω];rfl
def CU(f:Int)(i:Nat):Bool:=(bv f).getLsbD i
def Bb1(h:0≤f∧f<4294967296)(hi:i<32):
  (O J ((aB (aA (IntKind.bits .u32) (Int.fdiv f (2^min i (IntKind.bits .u32)))&&&aA (IntKind.bits .u32) 1):Nat):Int)==1)=CU f i:=by
 have e:Int.fdiv f (2^min i (IntKind.bits .u32))=((f.toNat/2^i:Nat):Int):=by
  rw[Alj,c6_ ω,a4_ _ (by exact Int.le_of_lt (Int.pow_pos ω))]
  have:f=((f.toNat:Nat):Int):=ω
  rw[this];simp
 rw[e];show(O J (((bv ((f.toNat/2^i:Nat):Int)&&&bv 1).toNat:Nat):Int)==1)=_;rw[Te];have hb:(bv ((f.toNat/2^i:Nat):Int)&&&bv 1)=if CU f i then 1#32 else 0#32:=by
  apply aE;intro j hj;have h1:(bv ((f.toNat/2^i:Nat):Int)).getLsbD j=(f.toNat/2^i).testBit j:=by
   simp only[bv,BitVec.getLsbD,V_]
   have:(((f.toNat/2^i:Nat):Int)%((2^32:Nat):Int)).toNat=(f.toNat/2^i)%2^32:=by norm_cast
   rw[this,Nat.testBit_mod_two_pow];simp[hj]
  have h2:CU f i=f.toNat.testBit i:=by
   simp only[CU,bv,BitVec.getLsbD,V_]
   have:(f%((2^32:Nat):Int)).toNat=f.toNat:=by simp;omega
   rw[this]
  have h3:(bv 1).getLsbD j=decide (j=0):=by
   have:bv 1=1#32:=rfl
   rw[this];simp[BitVec.getLsbD_one]
  rw[f6_,h1,h3,h2];by_cases hj0:j=0
  ·subst hj0;rw[Nat.testBit_div_two_pow];simp only[n_,decide_true,d5_];cases f.toNat.testBit i<;>simp
  ·simp only[hj0,decide_false,c1_];cases f.toNat.testBit i<;>simp[BitVec.getLsbD_one,hj0]
 rw[hb];cases CU f i<;>rfl
def Xq(f:Int)(i:Nat)(on:Bool):Int:=vb (if on then bv f|||BitVec.twoPow 32 i else bv f&&& ~~~ BitVec.twoPow 32 i)
def Au1(f:Int)(i:Nat)(on:Bool):0≤Xq f i on∧Xq f i on<4294967296:=KT _
def Aqb{g:Int}(hf:0≤f∧f<4294967296)(hg:0≤g∧g<4294967296)(h:∀i,i<32→CU f i=CU g i):f=g:=by rw[← Avp hf,← Avp hg];congr 1;apply aE;intro i hi;exact h i hi
def Bqv(f:Int)(hi:i<32):J.wrap ((aB (aA (IntKind.bits .u32) f|||BitVec.ofInt (IntKind.bits .u32) (O J (1*2^min i (IntKind.bits .u32)))):Nat):Int)=Xq f i B:=by show J.wrap (((bv f|||bv (O J (1*2^min i (IntKind.bits .u32)))).toNat:Nat):Int)=_;rw[Te,All,if_pos hi];rfl
def Aym(f:Int)(hi:i<32):J.wrap ((aB (aA (IntKind.bits .u32) f&&& ~~~ aA (IntKind.bits .u32) (O J (1*2^min i (IntKind.bits .u32)))):Nat):Int)=Xq f i C:=by show J.wrap (((bv f&&& ~~~ bv (O J (1*2^min i (IntKind.bits .u32)))).toNat:Nat):Int)=_;rw[Te,All,if_pos hi];rfl
def Bau(f:Int)(i:Nat):Xq (Xq f i C) i B=Xq f i B:=by unfold Xq;simp only[g8_,e8_,g3_,Asm];congr 1;apply aE;intro j hj;simp only[BitVec.getLsbD_or,f6_,BitVec.getLsbD_not];cases(bv f).getLsbD j<;>cases(BitVec.twoPow 32 i).getLsbD j<;>simp[hj]
end Go.Ovl
namespace Go.Ovl
open Go Go.Ab
def Avq(x y:Int):J.wrap (stk x y (aB (aA (IntKind.bits .u32) x|||BitVec.ofInt (IntKind.bits .u32) y)))=vb (bv x|||bv y):=by rw[Kf];exact Te _
def ZN(x y:Int):J.wrap (stk x y (aB (aA (IntKind.bits .u32) x&&&aA (IntKind.bits .u32) y)))=vb (bv x&&&bv y):=by rw[Kf];exact Te _
def OC(x y:Int):J.wrap (stk x y (aB (aA (IntKind.bits .u32) x&&& ~~~ aA (IntKind.bits .u32) y)))=vb (bv x&&& ~~~ bv y):=by rw[Kf];exact Te _
def Tt(b:BitVec 32)(i:Nat):CU (vb b) i=b.getLsbD i:=by unfold CU;rw[Asm]
def Aqc{k:Nat}(h:k<32)(i:Nat):CU (O J (1*2^min k (IntKind.bits .u32))) i=decide (i=k):=by
 unfold CU;rw[All,if_pos h,BitVec.getLsbD_twoPow];by_cases e:i=k
 ·subst e;simp[h]
 ·simp[e,f4_ e]
structure Bldg where
 C0:Int
 E0:Int
 H0:Int
 M0:Int
 J0:Nat
 L0:Nat
 N0:Nat
 B0:List Car
def By{α:Type}{l:List α}{i:Nat}(d:α)(h:i<l.length):l.drop i=l.getD i d::l.drop (i+1):=by rw[h4_ h];simp[h]
def inR(D hi n:Int):Bool:=decide (D≤n)&&decide (n≤hi)
def Ap{D hi n:Int}:inR D hi n=B↔D≤n∧n≤hi:=by simp[inR]
def Ce(D hi:Int){l:List Int}(hl:l.length≤maxLen):BN D hi l=A ((l.all (inR D hi),()),()):=by
 have hm:maxLen≤9223372036854775807:=by decide
 have key:∀(m i:Nat),i+m=l.length→BY (λx=>BX x.1.1 x.1.2.1 x.1.2.2.1 x.1.2.2.2.1 x.1.2.2.2.2.1) (m+1) ((D,hi,l,(l.length:Int),(i:Int),()),())=A (if(l.drop i).all (inR D hi)then .inl ((),())else .inr ((C,()),())):=by
  intro m;induction m with
  |zero=>
   intro i hi';refine AK ?_;show BX D hi l (l.length:Int) (i:Int)=_;unfold BX;have e:decide ((i:Int)<(l.length:Int))=C:=by simp;omega
   rw[e,show i=l.length by omega];simp
  |succ m ih=>
   intro i hi';have e:decide ((i:Int)<(l.length:Int))=B:=by simp;omega
   have ib:inB (i:Int) l.length=B:=Ac ω ω;have tn:Int.toNat (i:Int)=i:=ω;have w:H.wrap ((i:Int)+1)=((i+1:Nat):Int):=by rw[Aa ω ω];omega
   rw[By (0:Int) (ω:i<l.length)];by_cases h1:l.getD i 0<D
   ·refine(AK (y:=.inr ((C,()),())) ?_).trans ?_
    ·show BX D hi l (l.length:Int) (i:Int)=_;unfold BX;have d1:decide (l.getD i 0<D)=B:=by simpa using h1
     simp only[e,ib,tn,d1,d_]
    ·have:inR D hi (l.getD i 0)=C:=by rw[inR,show decide (D≤l.getD i 0)=C from f_ ω,a7_]
     rw[Z_,this];rfl
   ·have d1:decide (l.getD i 0<D)=C:=by simpa using h1
    by_cases h2:hi<l.getD i 0
    ·refine(AK (y:=.inr ((C,()),())) ?_).trans ?_
     ·show BX D hi l (l.length:Int) (i:Int)=_;unfold BX;have d2:decide (hi<l.getD i 0)=B:=by simpa using h2
      simp only[e,ib,tn,d1,d2,d_,c_]
     ·have:inR D hi (l.getD i 0)=C:=by rw[inR,show decide (l.getD i 0≤hi)=C from f_ ω,c1_]
      rw[Z_,this];rfl
    ·have d2:decide (hi<l.getD i 0)=C:=by simpa using h2
     refine(BS (x':=((D,hi,l,(l.length:Int),((i+1:Nat):Int),()),())) ?_).trans ?_
     ·show BX D hi l (l.length:Int) (i:Int)=_;unfold BX;simp only[e,ib,tn,d1,d2,w,d_,c_]
     ·have:inR D hi (l.getD i 0)=B:=Ap.2 ⟨ω,ω⟩
      rw[ih (i+1) ω,Z_,this];rfl
 unfold BN;have h0:Ic ((D,hi,l,(l.length:Int),(0:Int),()),())=_:=Ak (key l.length 0 ω) ω;rw[h0];rw[R_];cases l.all (inR D hi)<;>rfl
def Lr(n D hi:Int):Hk n D hi=A ((inR D hi n,()),()):=by unfold Hk inR;cases h:decide (D≤n)<;>simp
def Cj(fl:Int)(c:Car):Bool:=[c.I1,c.O3,c.T3,c.X3,c.V2,c.T2,c.Y3].all (inR 1 10000)&&(inR 0 10000 c.M2&&(decide (c.T2≤c.Y3)&&inR 0 (O H (fl-1)) c.E4))
def XL(fl:Int)(c:Car):Ko c.I1 c.O3 c.T3 c.M2 c.X3 c.V2 c.T2 c.Y3 c.E4 fl=A ((Cj fl c,()),()):=by
 have hm:7≤maxLen:=by decide
 unfold Ko Cj;rw[Ce 1 10000 (l:=[c.I1,c.O3,c.T3,c.X3,c.V2,c.T2,c.Y3]) (by simpa using hm)];generalize [c.I1,c.O3,c.T3,c.X3,c.V2,c.T2,c.Y3].all (inR 1 10000)=a;rw[Ce 0 10000 (l:=[c.M2]) (by simp;omega),Ce 0 _ (l:=[c.E4]) (by simp;omega)];simp only[E,Z_,aC,d5_];cases a
 ·rfl
 ·cases inR 0 10000 c.M2
  ·rfl
  ·by_cases h:c.T2≤c.Y3
   ·have:decide (c.T2≤c.Y3)=B:=by simpa using h
    simp only[this,d_,E,s_]
   ·have:decide (c.T2≤c.Y3)=C:=by simpa using h
    simp only[this,d_,c_,E,s_,a7_]
def Bldg.tup(b:Bldg):Int×Int×Int×Int×Nat×Nat×Nat×List Car×Unit:=(b.C0,b.E0,b.H0,b.M0,b.J0,b.L0,b.N0,b.B0,())
def Car.tup(c:Car):Int×Int×Int×Int×Int×Int×Int×Int×Int×Unit:=(c.I1,c.O3,c.T3,c.M2,c.X3,c.V2,c.T2,c.Y3,c.E4,())
def Ag3(b:Bldg)(c:Car){L:List Int}(hL:L.length=8) :
  NR (((),(),L,(0:Int),()),(b.tup,c.tup,()))=A (if(L.take 7).all (inR 1 10000)then .inl (((),(),()),(b.tup,c.tup,()))else .inr ((C,()),())):=by
 have key:∀(m i:Nat),i+m=7→BY (λx=>letI a:=x.2.2.1.2.2;letI d:=x.2.1.2.2;letI f:=a.2.2;letI g:=d.2.2;FR x.1.2.2.1 x.1.2.2.2.1 x.2.1.1 x.2.1.2.1 d.1 d.2.1 g.1 g.2.1 g.2.2.1 g.2.2.2.1 x.2.2.1.1 x.2.2.1.2.1 a.1 a.2.1 f.1 f.2.1 f.2.2.1 f.2.2.2.1 f.2.2.2.2.1) (m+1) (((),(),L,(i:Int),()),(b.tup,c.tup,()))=A (if((L.take 7).drop i).all (inR 1 10000)then .inl (((),(),()),(b.tup,c.tup,()))else .inr ((C,()),())):=by
  intro m;induction m with
  |zero=>
   intro i hi';refine AK ?_;show FR L (i:Int) b.C0 b.E0 b.H0 b.M0 b.J0 b.L0 b.N0 b.B0 c.I1 c.O3 c.T3 c.M2 c.X3 c.V2 c.T2 c.Y3 c.E4=_;unfold FR;have e:decide ((i:Int)<7)=C:=by simp;omega
   have hd:(L.take 7).drop i=[]:=List.drop_eq_nil_of_le (by simp;omega);rw[e,hd];rfl
  |succ m ih=>
   intro i hi';have e:decide ((i:Int)<7)=B:=by simp;omega
   have ib:inB (i:Int) L.length=B:=Ac ω ω;have tn:Int.toNat (i:Int)=i:=ω;have w:H.wrap ((i:Int)+1)=((i+1:Nat):Int):=by rw[Aa ω ω];omega
   have hg:(L.take 7).getD i 0=L.getD i 0:=by simp only[k_,List.getElem?_take];rw[if_pos ω]
   rw[By (0:Int) (show i<(L.take 7).length by simp;omega),hg,Z_];cases hr:inR 1 10000 (L.getD i 0)with
   |false=>refine(AK (y:=.inr ((C,()),())) ?_).trans rfl;show FR L (i:Int) b.C0 b.E0 b.H0 b.M0 b.J0 b.L0 b.N0 b.B0 c.I1 c.O3 c.T3 c.M2 c.X3 c.V2 c.T2 c.Y3 c.E4=_;unfold FR;simp only[e,ib,tn,Lr,hr,d_,E,d4_]
   |true=>
    refine(BS (x':=(((),(),L,((i+1:Nat):Int),()),(b.tup,c.tup,()))) ?_).trans ?_
    ·show FR L (i:Int) b.C0 b.E0 b.H0 b.M0 b.J0 b.L0 b.N0 b.B0 c.I1 c.O3 c.T3 c.M2 c.X3 c.V2 c.T2 c.Y3 c.E4=_;unfold FR;simp only[e,ib,tn,w,Lr,hr,d_,c_,E,o_];rfl
    ·rw[ih (i+1) ω,s_]
 have h0:=key 7 0 rfl;rw[R_]at h0;exact Ak h0 ω
def Afi(b:Bldg)(c:Car):QP b.C0 b.E0 b.H0 b.M0 b.J0 b.L0 b.N0 b.B0 c.I1 c.O3 c.T3 c.M2 c.X3 c.V2 c.T2 c.Y3 c.E4=A ((Cj b.C0 c,()),()):=by
 unfold QP Cj;by_cases h1:c.M2<0
 ·have d1:decide (c.M2<0)=B:=by simpa using h1
  have d2:inR 0 10000 c.M2=C:=by rw[inR,show decide (0≤c.M2)=C from f_ ω,a7_]
  rw[d1,d_,d2,a7_,c1_]
 ·have d1:decide (c.M2<0)=C:=by simpa using h1
  rw[d1,c_];by_cases h2:10000<c.M2
  ·have d1:decide (10000<c.M2)=B:=by simpa using h2
   have d2:inR 0 10000 c.M2=C:=by rw[inR,show decide (c.M2≤10000)=C from f_ ω,c1_]
   rw[d1,d_,d2,a7_,c1_]
  ·have d1:decide (10000<c.M2)=C:=by simpa using h2
   have d2:inR 0 10000 c.M2=B:=Ap.2 ⟨ω,ω⟩;rw[d1,c_,d2,s_];have hl:=Ag3 b c (L:=[c.I1,c.O3,c.T3,c.X3,c.V2,c.T2,c.Y3,H.wrap (c.M2+1)]) rfl;rw[show([c.I1,c.O3,c.T3,c.X3,c.V2,c.T2,c.Y3,H.wrap (c.M2+1)].take 7)=[c.I1,c.O3,c.T3,c.X3,c.V2,c.T2,c.Y3]from rfl]at hl;simp only[Bldg.tup,Car.tup]at hl;rw[hl];cases [c.I1,c.O3,c.T3,c.X3,c.V2,c.T2,c.Y3].all (inR 1 10000)with
   |false=>rfl
   |true=>
    simp only[g8_,E,s_,Lr];by_cases h:c.T2≤c.Y3
    ·have:decide (c.T2≤c.Y3)=B:=by simpa using h
     simp only[this,d_,E,s_]
    ·have:decide (c.T2≤c.Y3)=C:=by simpa using h
     simp only[this,c_,E,a7_]
def Bldg.loadsOK(b:Bldg):Bool:=((Go.FloatKind.format Go.FloatKind.f64).order 0 b.J0==A Ordering.lt)&&(((Go.FloatKind.format Go.FloatKind.f64).order b.J0 b.L0==A Ordering.lt)&&(((Go.FloatKind.format Go.FloatKind.f64).order b.L0 b.N0==A Ordering.lt)&&((Go.FloatKind.format Go.FloatKind.f64).order b.N0 9218868437227405311==A Ordering.lt||(Go.FloatKind.format Go.FloatKind.f64).order b.N0 9218868437227405311==A Ordering.eq)))
def Bldg.code(b:Bldg):Int:=
 bif !inR 2 32 b.C0 then 10 else bif !inR 1 8 (b.B0.length:Int)then 11 else
 bif !(inR 1 16 b.E0&&inR 1 10000 b.M0&&b.B0.all (Cj b.C0))then 12 else bif !b.loadsOK then 13 else
 bif !inR (18*(b.B0.length:Int)+24) 65536 b.H0 then 14 else 0
def ET:Car:=⟨0,0,0,0,0,0,0,0,0⟩
def XM(b:Bldg)(hl:b.B0.length≤8)(g:Bool) :
  IT (((),g,b.B0,(b.B0.length:Int),(0:Int),()),(b.tup,()))=A (((),g&&b.B0.all (Cj b.C0),()),(b.tup,())):=by
 have key:∀(m i:Nat) (g:Bool),i+m=b.B0.length→BY (λx=>letI a:=x.2.1.2.2;letI c:=a.2.2;EY x.1.2.1 x.1.2.2.1 x.1.2.2.2.1 x.1.2.2.2.2.1 x.2.1.1 x.2.1.2.1 a.1 a.2.1 c.1 c.2.1 c.2.2.1 c.2.2.2.1) (m+1) (((),g,b.B0,(b.B0.length:Int),(i:Int),()),(b.tup,()))=A (((),g&&(b.B0.drop i).all (Cj b.C0),()),(b.tup,())):=by
  intro m;induction m with
  |zero=>
   intro i g hi';refine AK ?_;show EY g b.B0 (b.B0.length:Int) (i:Int) b.C0 b.E0 b.H0 b.M0 b.J0 b.L0 b.N0 b.B0=_;unfold EY;have e:decide ((i:Int)<(b.B0.length:Int))=C:=by simp;omega
   rw[e,show i=b.B0.length by omega,b2_];simp only[c_,aC,d5_,Bldg.tup]
  |succ m ih=>
   intro i g hi';have e:decide ((i:Int)<(b.B0.length:Int))=B:=by simp;omega
   have ib:inB (i:Int) b.B0.length=B:=Ac ω ω;have tn:Int.toNat (i:Int)=i:=ω;have w:H.wrap ((i:Int)+1)=((i+1:Nat):Int):=by rw[Aa ω ω];omega
   rw[By ET (ω:i<b.B0.length),Z_];refine(BS (x':=(((),g&&Cj b.C0 (b.B0.getD i ET),b.B0,(b.B0.length:Int),((i+1:Nat):Int),()),(b.tup,()))) ?_).trans ?_
   ·show EY g b.B0 (b.B0.length:Int) (i:Int) b.C0 b.E0 b.H0 b.M0 b.J0 b.L0 b.N0 b.B0=_;unfold EY;simp only[e,ib,tn,d_];rw[XL b.C0 (b.B0.getD i ⟨0,0,0,0,0,0,0,0,0⟩)];cases g
    ·simp only[c_,E,a7_,w];rfl
    ·simp only[d_,E,s_,w];rfl
   ·rw[ih (i+1) _ ω,Bool.and_assoc]
 have h0:=key b.B0.length 0 g ω;rw[R_]at h0;exact Ak h0 ω
def Ag2(b:Bldg)(hl:b.B0.length≤8)(g:Bool) :
  NQ (((),g,(0:Int),()),(b.tup,()))=A (((),g&&b.B0.all (Cj b.C0),()),(b.tup,())):=by
 have key:∀(m i:Nat) (g:Bool),i+m=b.B0.length→BY (λx=>letI a:=x.2.1.2.2;letI c:=a.2.2;Ix x.1.2.1 x.1.2.2.1 x.2.1.1 x.2.1.2.1 a.1 a.2.1 c.1 c.2.1 c.2.2.1 c.2.2.2.1) (m+1) (((),g,(i:Int),()),(b.tup,()))=A (((),g&&(b.B0.drop i).all (Cj b.C0),()),(b.tup,())):=by
  intro m;induction m with
  |zero=>
   intro i g hi';refine AK ?_;show Ix g (i:Int) b.C0 b.E0 b.H0 b.M0 b.J0 b.L0 b.N0 b.B0=_;unfold Ix;have e:decide ((i:Int)<(b.B0.length:Int))=C:=by simp;omega
   rw[e,show i=b.B0.length by omega,b2_];simp only[c_,aC,d5_,Bldg.tup]
  |succ m ih=>
   intro i g hi';have e:decide ((i:Int)<(b.B0.length:Int))=B:=by simp;omega
   have ib:inB (i:Int) b.B0.length=B:=Ac ω ω;have tn:Int.toNat (i:Int)=i:=ω;have w:H.wrap ((i:Int)+1)=((i+1:Nat):Int):=by rw[Aa ω ω];omega
   rw[By ET (ω:i<b.B0.length),Z_];refine(BS (x':=(((),g&&Cj b.C0 (b.B0.getD i ET),((i+1:Nat):Int),()),(b.tup,()))) ?_).trans ?_
   ·show Ix g (i:Int) b.C0 b.E0 b.H0 b.M0 b.J0 b.L0 b.N0 b.B0=_;unfold Ix;simp only[e,ib,tn,d_];rw[Afi b (b.B0.getD i ⟨0,0,0,0,0,0,0,0,0⟩)];cases g
    ·simp only[c_,E,a7_,w];rfl
    ·simp only[d_,E,s_,w];rfl
   ·rw[ih (i+1) _ ω,Bool.and_assoc]
 have h0:=key b.B0.length 0 g ω;rw[R_]at h0;exact Ak h0 ω
def XK(b:Bldg):Kn b.C0 b.E0 b.H0 b.M0 b.J0 b.L0 b.N0 b.B0=A ((b.loadsOK,()),()):=by
 unfold Kn Bldg.loadsOK;cases(Go.FloatKind.format Go.FloatKind.f64).order 0 b.J0==A Ordering.lt
 ·rfl
 cases(Go.FloatKind.format Go.FloatKind.f64).order b.J0 b.L0==A Ordering.lt
 ·rfl
 cases(Go.FloatKind.format Go.FloatKind.f64).order b.L0 b.N0==A Ordering.lt
 ·rfl
 rfl
def Bg(b:Bldg):AR b.C0 b.E0 b.H0 b.M0 b.J0 b.L0 b.N0 b.B0=A ((b.code,()),()):=by
 have hm:8≤maxLen:=by decide
 unfold AR Bldg.code;rw[Ce 2 32 (l:=[b.C0]) (by simp;omega),Ce 1 8 (l:=[(b.B0.length:Int)]) (by simp;omega),Ce 1 16 (l:=[b.E0]) (by simp;omega),Ce 1 10000 (l:=[b.M0]) (by simp;omega)];simp only[E,Z_,aC,d5_];cases inR 2 32 b.C0
 ·rfl
 cases hc:inR 1 8 (b.B0.length:Int)
 ·rfl
 have hlen:b.B0.length≤8:=by have:=(Ap.1 hc).2;omega
 have hg:(bif inR 1 16 b.E0 then A (((),inR 1 10000 b.M0,()),(b.tup,()))else A (((),C,()),(b.tup,())))=A (((),inR 1 16 b.E0&&inR 1 10000 b.M0,()),(b.tup,())):=by cases inR 1 16 b.E0<;>rfl
 simp only[Bldg.tup]at hg;simp only[o_,c_,hg,E];have hl:=XM b hlen (inR 1 16 b.E0&&inR 1 10000 b.M0);simp only[Bldg.tup]at hl;rw[hl,E];cases inR 1 16 b.E0&&inR 1 10000 b.M0&&b.B0.all (Cj b.C0)
 ·rfl
 simp only[o_,c_];rw[XK b,E];cases b.loadsOK
 ·rfl
 simp only[o_,c_];rw[show H.wrap (O H (18*(b.B0.length:Int))+24)=18*(b.B0.length:Int)+24 by rw[Aa (n:=18*(b.B0.length:Int)) ω ω,Aa ω ω],
  Ce _ 65536 (l:=[b.H0]) (by simp;omega)]
 simp only[E,Z_,aC,d5_];cases inR (18*(b.B0.length:Int)+24) 65536 b.H0<;>rfl
def Em(b:Bldg):Dt b.C0 b.E0 b.H0 b.M0 b.J0 b.L0 b.N0 b.B0=A ((b.code,()),()):=by
 unfold Dt Bldg.code;simp only[Lr,E];cases inR 2 32 b.C0
 ·rfl
 cases hc:inR 1 8 (b.B0.length:Int)
 ·rfl
 have hlen:b.B0.length≤8:=by have:=(Ap.1 hc).2;omega
 have hg:(bif inR 1 16 b.E0 then A (((),inR 1 10000 b.M0,()),(b.tup,()))else A (((),C,()),(b.tup,())))=A (((),inR 1 16 b.E0&&inR 1 10000 b.M0,()),(b.tup,())):=by cases inR 1 16 b.E0<;>rfl
 simp only[Bldg.tup]at hg;simp only[o_,c_,hg,E];have hl:=Ag2 b hlen (inR 1 16 b.E0&&inR 1 10000 b.M0);simp only[Bldg.tup]at hl;rw[hl,E];cases inR 1 16 b.E0&&inR 1 10000 b.M0&&b.B0.all (Cj b.C0)
 ·rfl
 simp only[o_,c_];unfold Bldg.loadsOK;cases(Go.FloatKind.format Go.FloatKind.f64).order 0 b.J0==A Ordering.lt
 ·rfl
 cases(Go.FloatKind.format Go.FloatKind.f64).order b.J0 b.L0==A Ordering.lt
 ·rfl
 cases(Go.FloatKind.format Go.FloatKind.f64).order b.L0 b.N0==A Ordering.lt
 ·rfl
 simp only[d_,s_];cases((Go.FloatKind.format Go.FloatKind.f64).order b.N0 9218868437227405311==A Ordering.lt||(Go.FloatKind.format Go.FloatKind.f64).order b.N0 9218868437227405311==A Ordering.eq)
 ·rfl
 simp only[o_,c_];rw[show H.wrap (O H (18*(b.B0.length:Int))+24)=18*(b.B0.length:Int)+24 by rw[Aa (n:=18*(b.B0.length:Int)) ω ω,Aa ω ω]];cases inR (18*(b.B0.length:Int)+24) 65536 b.H0<;>rfl
def FS(fl i:Nat):Car:=⟨100,2,6,5,4,2,3,10,((i%fl:Nat):Int)⟩
def AG(fl ca:Nat):Bldg:=⟨fl,1,4000,30,4591870180066957722,4605380978949069210,4607632778762754458,(List.range ca).map (FS fl)⟩
def Bldg.none:Bldg:=⟨0,0,0,0,0,0,0,[]⟩
def Acr{fl ca:Nat}(h1:1≤fl)(h2:ca≤8):OT fl ca=A (((),()),((AG fl ca).tup,())):=by
 have key:∀(m i:Nat),i+m=ca→BY (λx=>letI a:=x.2.2.1.2.2;letI b:=x.2.1.2.2;letI d:=b.2.2;letI f:=a.2.2;HI x.1.1 x.1.2.1 x.1.2.2.2.2.1 x.2.1.1 x.2.1.2.1 b.1 b.2.1 d.1 d.2.1 d.2.2.1 d.2.2.2.1 x.2.2.1.1 x.2.2.1.2.1 a.1 a.2.1 f.1 f.2.1 f.2.2.1 f.2.2.2.1) (m+1) (((fl:Int),(ca:Int),(),(),(i:Int),()),(Bldg.none.tup,(AG fl i).tup,()))=A (((),(),()),(Bldg.none.tup,(AG fl ca).tup,())):=by
  intro m;induction m with
  |zero=>
   intro i hi';refine AK ?_;show HI (fl:Int) (ca:Int) (i:Int) Bldg.none.C0 Bldg.none.E0 Bldg.none.H0 Bldg.none.M0 Bldg.none.J0 Bldg.none.L0 Bldg.none.N0 Bldg.none.B0 (AG fl i).C0 (AG fl i).E0 (AG fl i).H0 (AG fl i).M0 (AG fl i).J0 (AG fl i).L0 (AG fl i).N0 (AG fl i).B0=_;unfold HI;have e:decide ((i:Int)<(ca:Int))=C:=by simp;omega
   rw[e,show i=ca by omega];rfl
  |succ m ih=>
   intro i hi';refine(BS (x':=(((fl:Int),(ca:Int),(),(),((i+1:Nat):Int),()),(Bldg.none.tup,(AG fl (i+1)).tup,()))) ?_).trans (ih (i+1) ω);show HI (fl:Int) (ca:Int) (i:Int) Bldg.none.C0 Bldg.none.E0 Bldg.none.H0 Bldg.none.M0 Bldg.none.J0 Bldg.none.L0 Bldg.none.N0 Bldg.none.B0 (AG fl i).C0 (AG fl i).E0 (AG fl i).H0 (AG fl i).M0 (AG fl i).J0 (AG fl i).L0 (AG fl i).N0 (AG fl i).B0=_;unfold HI;have e:decide ((i:Int)<(ca:Int))=B:=by simp;omega
   have w:H.wrap ((i:Int)+1)=((i+1:Nat):Int):=by rw[Aa ω ω];omega
   have hz:((fl:Int) !=0)=B:=by simp;omega
   have hc:∀c:Car,Nat.ble ((AG fl i).B0.length+[c].length) 2147483648=B:=λc=>Av (by simp[AG];omega);have ht:Int.tmod (i:Int) (fl:Int)=((i%fl:Nat):Int):=by rw[e3_ ω];norm_cast
   simp only[e,hz,hc,w,ht,d_];have hs:(AG fl (i+1)).B0=(AG fl i).B0++[FS fl i]:=by simp[AG,List.range_succ]
   simp only[Bldg.tup,hs];rfl
 unfold OT;have h0:JM (((fl:Int),(ca:Int),(),(),(0:Int),()),(Bldg.none.tup,(AG fl 0).tup,()))=_:=Ak (key ca 0 ω) ω;rw[show JM (((fl:Int),(ca:Int),(),(),(0:Int),()),(((0:Int),(0:Int),(0:Int),(0:Int),0,0,0,([]:List Car),()),((fl:Int),(1:Int),(4000:Int),(30:Int),4591870180066957722,4605380978949069210,4607632778762754458,([]:List Car),()),()))=_ from h0];rfl
def KE(fl ca:Nat)(room:Int):Bldg:={ AG fl ca with H0:=18*(ca:Int)+24+room }
def Asf{fl ca:Nat}(h1:2≤fl)(h2:fl≤8)(h3:1≤ca)(h4:ca≤3){room:Int}(hr:0≤room∧room<256):(KE fl ca room).code=0:=by
 have hl:(KE fl ca room).B0.length=ca:=by simp[KE,AG]
 unfold Bldg.code;have e1:inR 2 32 (KE fl ca room).C0=B:=Ap.2 (by simp only[KE,AG];omega);have e2:inR 1 8 ((KE fl ca room).B0.length:Int)=B:=Ap.2 ω;have e3:inR 1 16 (KE fl ca room).E0=B:=rfl;have e4:inR 1 10000 (KE fl ca room).M0=B:=rfl;have e5:(KE fl ca room).B0.all (Cj (KE fl ca room).C0)=B:=by
  rw[K_];intro c hc;obtain⟨i,_,rfl⟩:=b5_.1 hc;have hm:i%fl<fl:=g1_ _ ω
  have:inR 0 (O H ((fl:Int)-1)) ((i%fl:Nat):Int)=B:=by rw[Aa ω ω];exact Ap.2 ω
  show Cj (fl:Int) (FS fl i)=B;unfold Cj FS;simp only[this];rfl
 have e6:(KE fl ca room).loadsOK=B:=by
  show(AG 2 1).loadsOK=B
  kernel_rfl
 have e7:inR (18*((KE fl ca room).B0.length:Int)+24) 65536 (KE fl ca room).H0=B:=Ap.2 (by rw[hl];simp only[KE];omega);rw[e1,e2,e3,e4,e5,e6,e7];rfl
variable{α:Type}{b:Bldg}{i:Nat}{l:List α}
structure Bldg.small(b:Bldg):Prop where
 lo:2≤b.C0
 hi:b.C0≤8
def u8r(n:Int):Prop:=0≤n∧n<256
def Brb:u8r 0:=⟨τ,τ⟩
def BR(d:α)(hi:i<l.length):l.getD i d∈l:=by simp only[k_,i_ hi,Option.getD_some];exact b1_ hi
def Amj{P:α→Prop}(h:∀e∈l,P e){d:α}(hi:i<l.length):P (l.getD i d):=h _ (BR d hi)
def Am(h:b.code=0):1≤b.B0.length∧b.B0.length≤8:=by
 unfold Bldg.code at h;cases h1:inR 1 8 (b.B0.length:Int)with
 |true=>have:=Ap.1 h1;omega
 |false=>rw[h1]at h;cases h2:inR 2 32 b.C0<;>rw[h2]at h<;>simp at h
def Yh(h:b.code=0):18*(b.B0.length:Int)+24≤b.H0∧b.H0≤65536:=by
 unfold Bldg.code at h;cases h1:inR (18*(b.B0.length:Int)+24) 65536 b.H0 with
 |true=>exact Ap.1 h1
 |false=>rw[h1]at h;simp only[d4_,d_]at h;revert h;cases inR 2 32 b.C0<;>cases inR 1 8 (b.B0.length:Int)<;>cases inR 1 16 b.E0<;>cases inR 1 10000 b.M0<;>cases b.B0.all (Cj b.C0)<;>cases b.loadsOK<;>(intro h;simp at h)
end Go.Ovl
namespace Go.Ovl
open Go Go.Ab
variable{b:Bldg}{l:List V}{i:Nat}{α:Type}
def Vs{n:Nat}(h:i<n):decide ((i:Int)<(n:Int))=B:=b_ ω
def KJ{n:Nat}(h:i<n):inB (i:Int) n=B:=Ac ω ω
def Rl(n:Nat):decide ((n:Int)<(n:Int))=C:=f_ (Q_ _)
def Ae{β:Type}{o:Option α}{a:α}{f:α→Option β}{r:Option β}(h:o=A a)(h2:f a=r):U o f=r:=by subst h;exact h2
def Bh3{l:List α}(d:α)(hi:i<l.length):l.drop i=l.getD i d::l.drop (i+1):=by rw[h4_ hi,k_,i_ hi];rfl
def Amw{X Y:Type}{step:X→Option (Sum X Y)}(N:Nat)(g:Nat→X)(y:Y)(h1:∀i,i<N→step (g i)=A (.inl (g (i+1))))(h2:step (g N)=A (.inr y)):∀m i:Nat,i+m=N→BY step (m+1) (g i)=A y
 |0,i,hi=>by obtain rfl:i=N:=ω;exact AK h2
 |m+1,i,hi=>(BS (h1 i ω)).trans (Amw N g y h1 h2 m (i+1) ω)
def Aih{X Y α:Type}{step:X→Option (Sum X Y)}(l:List α)(d:α)(p:α→Bool)(g:Nat→X)(y:Y)(z:α→Y)
  (h1:∀i,i<l.length→step (g i)=A (bif p (l.getD i d)then .inl (g (i+1))else .inr (z (l.getD i d)))) (h2:step (g l.length)=A (.inr y)) :
  ∀m i:Nat,i+m=l.length→BY step (m+1) (g i)=A (match(l.drop i).find? (λx=>!p x)with | none=>y | some x=>z x)
 |0,i,hi=>by obtain rfl:i=l.length:=ω;rw[b2_];exact AK h2
 |m+1,i,hi=>by
  have hlt:i<l.length:=ω;rw[Bh3 d hlt];have h:=h1 i hlt;cases hp:p (l.getD i d)with
  |true=>rw[hp,d_]at h;rw[BS h,Aih l d p g y z h1 h2 m (i+1) ω,List.find?_cons,hp];rfl
  |false=>rw[hp,c_]at h;rw[AK h,List.find?_cons,hp];rfl
def Bcw{β:Type}(p:α→Bool)(y z:β)(l:List α):(match l.find? (λx=>!p x)with | none=>y | some _=>z)=bif l.all p then y else z:=by
 induction l with
 |nil=>rfl
 |cons a l ih=>
  rw[List.find?_cons,Z_];cases p a
  ·rfl
  ·exact ih
def TA(x y:Int):decide (x<y)=!decide (y≤x):=by by_cases h:y≤x<;>simp[h]<;>omega
def Bl3(x y:Int):decide (x≤y)=!decide (y<x):=by by_cases h:y<x<;>simp[h]<;>omega
def noE:V:=Entry.mk 0 0 0 0 C
structure Img where
 F0:List Int
 O0:List Bool
 K0:List Bool
 A0:List Entry
def Img.tup(m:Img):List Int×List Bool×List Bool×List V×Unit:=(m.F0,m.O0,m.K0,m.A0,())
def Img.none:Img:=⟨[],[],[],[]⟩
def NY(fl floor dir:Int):Bool:=(dir==1&&inR 0 (fl-2) floor)||(dir==2&&inR 1 (fl-1) floor)
def Yc{fl:Int}(h:0≤fl∧fl<100)(floor dir:Int):Jq fl floor dir=A ((NY fl floor dir,()),()):=by
 have w1:H.wrap (fl-1)=fl-1:=Aa ω ω;have w2:H.wrap (fl-2)=fl-2:=Aa ω ω;have k:∀D hi:Int,BN D hi [floor]=A ((inR D hi floor,()),()):=λD hi=>by rw[Ce D hi (show [floor].length≤maxLen from(show 1≤maxLen by decide))];simp
 unfold Jq NY;rw[w1,w2,k,k];cases dir==1<;>cases dir==2<;>cases inR 0 (fl-2) floor<;>rfl
def Ai(b:Bldg)(floor dir:Int):Bool:=b.code==0&&NY b.C0 floor dir
def Mr(hb:b.small)(floor dir:Int):FK b.C0 b.E0 b.H0 b.M0 b.J0 b.L0 b.N0 b.B0 floor dir=A ((Ai b floor dir,()),()):=by unfold FK Ai;rw[Bg,Yc ⟨by have:=hb.lo;omega,by have:=hb.hi;omega⟩];simp only[E];cases b.code==0<;>rfl
def Ln(hb:b.small)(floor dir:Int):HQ b.C0 b.E0 b.H0 b.M0 b.J0 b.L0 b.N0 b.B0 floor dir=A ((Ai b floor dir,()),()):=by have D:=hb.lo;have hi:=hb.hi;have w1:H.wrap (b.C0-1)=b.C0-1:=Aa ω ω;have w2:H.wrap (b.C0-2)=b.C0-2:=Aa ω ω;unfold HQ Ai NY;rw[Em,w1,w2,Lr,Lr];simp only[E,bne];cases b.code==0<;>cases dir==1<;>cases dir==2<;>cases inR 0 (b.C0-2) floor<;>rfl
def Hv(b:Bldg)(e:V):Bool:=Ai b e.D0 e.I0&&(decide (-2≤e.T0)&&(decide (e.T0<(b.B0.length:Int))&&(decide (0≤e.Z0)&&decide (e.Z0≤255))))
def Agq(hb:b.small)(e:V):NG b.C0 b.E0 b.H0 b.M0 b.J0 b.L0 b.N0 b.B0 e.D0 e.I0 e.T0 e.Z0 e.B2=A ((Hv b e,()),()):=by unfold NG Hv;rw[Mr hb];simp only[E];cases Ai b e.D0 e.I0<;>cases decide (-2≤e.T0)<;>cases decide (e.T0<(b.B0.length:Int))<;>cases decide (0≤e.Z0)<;>rfl
def Bo(a b:V):Bool:=decide (a.D0<b.D0)||(a.D0==b.D0&&decide (a.I0<b.I0))
def Apt(a b:V):Pe a.D0 a.I0 a.T0 a.Z0 a.B2 b.D0 b.I0 b.T0 b.Z0 b.B2=A ((Bo a b,()),()):=by unfold Pe Bo;cases decide (a.D0<b.D0)<;>cases a.D0==b.D0<;>rfl
def Ww(x y:Int):Int:=bif decide (x<y)then -1 else bif decide (y<x)then 1 else 0
def HJ(x y:Int):Ew x y=A ((Ww x y,()),()):=by unfold Ew LG Ww;simp only[E,O_,c_];cases decide (x<y)<;>cases decide (y<x)<;>rfl
def Yg(x y:Int):Md [x,y]=A (((bif x !=0 then x else y),()),()):=by
 have r:∀(l:List Int) (i:Nat),i<l.length→l.length<100→JP 0 l (l.length:Int) (i:Int)=A (bif l.getD i 0 !=0 then Sum.inr (Sum.inr ((l.getD i 0,()),()))else Sum.inl (((0:Int),l,(l.length:Int),((i+1:Nat):Int),()),())):=λl i hi hl=>by
  have w:H.wrap ((i:Int)+1)=((i+1:Nat):Int):=by rw[Aa ω ω];omega
  unfold JP;rw[b_ (ω:(i:Int)<(l.length:Int)),Ac (ω:(0:Int)≤(i:Int)) (ω:(i:Int)<(l.length:Int)),j_,w];simp only[d_];cases l.getD i 0 !=0<;>rfl
 have r0:JP 0 [x,y] 2 0=A (bif x !=0 then Sum.inr (Sum.inr ((x,()),()))else Sum.inl (((0:Int),[x,y],(2:Int),(1:Int),()),())):=r [x,y] 0 σ σ;have r1:JP 0 [x,y] 2 1=A (bif y !=0 then Sum.inr (Sum.inr ((y,()),()))else Sum.inl (((0:Int),[x,y],(2:Int),(2:Int),()),())):=r [x,y] 1 σ σ;have h:MV (((0:Int),[x,y],(2:Int),(0:Int),()),())=A (bif x !=0 then .inr ((x,()),())else bif y !=0 then .inr ((y,()),())else .inl (((0:Int),()),())):=by
  refine Ak (f:=3) ?_ ω;cases hx:x !=0 with
  |true=>rw[hx]at r0;exact AK r0
  |false=>
   rw[hx]at r0;refine(BS r0).trans ?_;cases hy:y !=0 with
   |true=>rw[hy]at r1;exact AK r1
   |false=>rw[hy]at r1;exact(BS r1).trans (AK rfl)
 unfold Md;rw[show((([x,y]:List Int).length:Nat):Int)=2 from rfl,h];cases hx:x !=0 with
 |true=>rfl
 |false=>
  cases hy:y !=0 with
  |true=>rfl
  |false=>
   have:y=0:=by simpa using hy
   subst this;rfl
def QB(a b:V):∃n:Int,Ip a.D0 a.I0 a.T0 a.Z0 a.B2 b.D0 b.I0 b.T0 b.Z0 b.B2=A ((n,()),())∧decide (0≤n)=!Bo a b∧(n=0↔a.D0=b.D0∧a.I0=b.I0):=by
 unfold Ip;rw[HJ,HJ];simp only[E];rw[Yg];refine⟨_,rfl,?_,?_⟩
 ·unfold Bo Ww;by_cases h1:a.D0<b.D0
  ·rw[b_ h1];rfl
  ·rw[f_ h1];by_cases h2:b.D0<a.D0
   ·rw[b_ h2,An (ω:¬a.D0=b.D0)];rfl
   ·rw[f_ h2,show(a.D0==b.D0)=B by simp;omega];by_cases h3:a.I0<b.I0
    ·rw[b_ h3];rfl
    ·rw[f_ h3];cases decide (b.I0<a.I0)<;>rfl
 ·unfold Ww;by_cases h1:a.D0<b.D0
  ·rw[b_ h1];exact⟨(λh=>by cases h),(λh=>by omega)⟩
  ·rw[f_ h1];by_cases h2:b.D0<a.D0
   ·rw[b_ h2];exact⟨(λh=>by cases h),(λh=>by omega)⟩
   ·rw[f_ h2];by_cases h3:a.I0<b.I0
    ·rw[b_ h3];exact⟨(λh=>by cases h),(λh=>by omega)⟩
    ·rw[f_ h3];by_cases h4:b.I0<a.I0
     ·rw[b_ h4];exact⟨(λh=>by cases h),(λh=>by omega)⟩
     ·rw[f_ h4];exact⟨λ_=>⟨ω,ω⟩,λ_=>rfl⟩
def FY(b:Bldg):Option V→List V→Bool
 |_,[]=>B
 |p,e::t=>Hv b e&&((match p with | some q=>Bo q e | none=>B)&&FY b (A e) t)
def Img.ok(b:Bldg)(m:Img):Bool:=b.code==0&&((m.F0.length:Int)==(b.B0.length:Int)&&((m.O0.length:Int)==(b.B0.length:Int)&&((m.K0.length:Int)==(b.B0.length:Int)&&(m.F0.all (inR 0 4)&&FY b Option.none m.A0))))
def Qa(l:List V)(i:Nat):Option V:=if i=0 then W else A (l.getD (i-1) noE)
def Atx(h:i<l.length):FY b (Qa l i) (l.drop i)=(Hv b (l.getD i noE)&&((match Qa l i with | some q=>Bo q (l.getD i noE) | none=>B)&&FY b (Qa l (i+1)) (l.drop (i+1)))):=by rw[By noE h];simp only[FY,Qa,Nat.succ_ne_zero,e8_,aG]
def Ba0{D hi v:Int}{a c:α}:(bif decide (v<D)then a else bif decide (hi<v)then a else c)=bif inR D hi v then c else a:=by unfold inR;rw[TA v D,TA hi v];cases decide (D≤v)<;>cases decide (v≤hi)<;>rfl
def wrM{n:Nat}(hn:n≤maxLen)(h:i<n):H.wrap ((i:Int)+1)=((i+1:Nat):Int):=by
 have:maxLen≤9223372036854775807:=by decide
 rw[Aa ω ω];omega
def wrP{j n:Nat}(hn:n≤maxLen)(h:j+1<n):H.wrap (((j+1:Nat):Int)-1)=(j:Int):=by
 have:maxLen≤9223372036854775807:=by decide
 rw[Aa ω ω];omega
def ZJ{X Y:Type}{step:X→Option (Sum X Y)}{N:Nat}(hN:N≤maxLen)(g:Nat→X)(p q:Nat→Bool){y0 y1:Y}(hq:∀i,i<N→q i=(p i&&q (i+1)))(hN':q N=B)(h2:∀i,i<N→step (g i)=A (bif p i then .inl (g (i+1))else .inr y1))(h1:step (g N)=A (.inr y0)):BY step DL (g 0)=A (if q 0 then y0 else y1):=by
 have hmx:maxLen≤9223372036854775807:=by decide
 have key:∀k i:Nat,i+k=N→BY step (k+1) (g i)=A (if q i then y0 else y1):=by
  intro k;induction k with
  |zero=>intro i hi;obtain rfl:i=N:=ω;rw[hN'];exact AK h1
  |succ k ih=>
   intro i hi;have h:=h2 i ω;rw[hq i ω];cases hp:p i with
   |true=>rw[hp]at h;exact(BS h).trans (ih (i+1) ω)
   |false=>rw[hp]at h;exact AK h
 exact Ak (key N 0 ω) ω
def Al9(b:Bldg)(l:List V)(i:Nat):Bool:=Hv b (l.getD i noE)&&(match Qa l i with | some q=>Bo q (l.getD i noE) | none=>B)
def Ahy(h:i<l.length):FY b (Qa l i) (l.drop i)=(Al9 b l i&&FY b (Qa l (i+1)) (l.drop (i+1))):=by rw[Atx h,← Bool.and_assoc];rfl
section
variable{b:Bldg}(hb:b.small)(m:Img)
include hb
theorem Ajw(hm:m.A0.length≤maxLen):LT (((),(),m.A0,(m.A0.length:Int),(0:Int),()),(b.tup,m.tup,()))=A (if FY b W m.A0 then .inl ((),())else .inr ((C,()),())):=by
 refine ZJ (N:=m.A0.length) hm (λi=>(((),(),m.A0,(m.A0.length:Int),(i:Int),()),(b.tup,m.tup,()))) (Al9 b m.A0) (λi=>FY b (Qa m.A0 i) (m.A0.drop i)) (λi hi=>Ahy hi) (by rw[b2_];rfl) (λi hi=>?_) (by show IY m.A0 (m.A0.length:Int) (m.A0.length:Int) b.C0 b.E0 b.H0 b.M0 b.J0 b.L0 b.N0 b.B0 m.F0 m.O0 m.K0 m.A0=_;unfold IY;rw[Rl];rfl);have he:=Agq hb (m.A0.getD i noE);unfold noE at he;show IY m.A0 (m.A0.length:Int) (i:Int) b.C0 b.E0 b.H0 b.M0 b.J0 b.L0 b.N0 b.B0 m.F0 m.O0 m.K0 m.A0=_;unfold IY Al9;rw[Vs hi,KJ hi];simp only[d_,j_,he,E];unfold noE;cases Hv b (m.A0.getD i (Entry.mk 0 0 0 0 C))with
 |false=>rfl
 |true=>
  simp only[o_,c_,s_];cases i with
  |zero=>rfl
  |succ j=>rw[b_ (ω:(0:Int)<((j+1:Nat):Int)),wrP hm hi,KJ (ω:j<m.A0.length)];obtain⟨n,c1,c2,_⟩:=QB (m.A0.getD j noE) (m.A0.getD (j+1) noE);unfold noE at c1 c2;simp only[d_,j_,c1,E,wrM hm hi,c2,Qa,Nat.succ_ne_zero,e8_,aG];unfold noE;cases Bo (m.A0.getD j (Entry.mk 0 0 0 0 C)) (m.A0.getD (j+1) (Entry.mk 0 0 0 0 C))<;>rfl
theorem Aj9(n:Int)(hn:n=(b.B0.length:Int))(hm:m.A0.length≤maxLen):LX (((),(),n,(0:Int),()),(b.tup,m.tup,()))=A (if FY b W m.A0 then .inl ((),())else .inr ((C,()),())):=by
 refine ZJ (N:=m.A0.length) hm (λi=>(((),(),n,(i:Int),()),(b.tup,m.tup,()))) (Al9 b m.A0) (λi=>FY b (Qa m.A0 i) (m.A0.drop i)) (λi hi=>Ahy hi) (by rw[b2_];rfl) (λi hi=>?_) (by show Ja n (m.A0.length:Int) b.C0 b.E0 b.H0 b.M0 b.J0 b.L0 b.N0 b.B0 m.F0 m.O0 m.K0 m.A0=_;unfold Ja;rw[Rl];rfl);have hc:=Ln hb (m.A0.getD i noE).D0 (m.A0.getD i noE).I0;show Ja n (i:Int) b.C0 b.E0 b.H0 b.M0 b.J0 b.L0 b.N0 b.B0 m.F0 m.O0 m.K0 m.A0=_;unfold Ja Al9 Hv;rw[Vs hi,KJ hi,show(Entry.mk 0 0 0 0 C)=noE from rfl];simp only[d_,j_,hc,E];rw[TA (m.A0.getD i noE).T0 (-2),Bl3 n (m.A0.getD i noE).T0,TA (m.A0.getD i noE).Z0 0,TA 255 (m.A0.getD i noE).Z0,hn];cases Ai b (m.A0.getD i noE).D0 (m.A0.getD i noE).I0 with
 |false=>rfl
 |true=>
 cases decide (-2≤(m.A0.getD i noE).T0)with
 |false=>rfl
 |true=>
 cases decide ((m.A0.getD i noE).T0<(b.B0.length:Int))with
 |false=>rfl
 |true=>
 cases decide (0≤(m.A0.getD i noE).Z0)with
 |false=>rfl
 |true=>
 cases decide ((m.A0.getD i noE).Z0≤255)with
 |false=>rfl
 |true=>
  simp only[o_,c_,a0_,s_];cases i with
  |zero=>rfl
  |succ j=>have hl:=Apt (m.A0.getD j noE) (m.A0.getD (j+1) noE);rw[b_ (ω:(0:Int)<((j+1:Nat):Int)),wrP hm hi,KJ (ω:j<m.A0.length)];simp only[d_,j_,hl,E,wrM hm hi,Qa,Nat.succ_ne_zero,e8_,aG];cases Bo (m.A0.getD j noE) (m.A0.getD (j+1) noE)<;>rfl
omit hb in
theorem Ajv(hm:m.F0.length≤maxLen):LS (((),(),m.F0,(m.F0.length:Int),(0:Int),()),(b.tup,m.tup,()))=A (if m.F0.all (inR 0 4)then .inl (((),(),()),(b.tup,m.tup,()))else .inr ((C,()),())):=by refine ZJ (N:=m.F0.length) hm (λi=>(((),(),m.F0,(m.F0.length:Int),(i:Int),()),(b.tup,m.tup,()))) (λi=>inR 0 4 (m.F0.getD i 0)) (λi=>(m.F0.drop i).all (inR 0 4)) (λi hi=>by rw[By (0:Int) hi,Z_]) (by rw[b2_];rfl) (λi hi=>?_) (by show IX m.F0 (m.F0.length:Int) (m.F0.length:Int) b.C0 b.E0 b.H0 b.M0 b.J0 b.L0 b.N0 b.B0 m.F0 m.O0 m.K0 m.A0=_;unfold IX;rw[Rl];rfl);show IX m.F0 (m.F0.length:Int) (i:Int) b.C0 b.E0 b.H0 b.M0 b.J0 b.L0 b.N0 b.B0 m.F0 m.O0 m.K0 m.A0=_;unfold IX;rw[Vs hi,KJ hi,wrM hm hi];simp only[d_,j_];rw[Ba0];cases inR 0 4 (m.F0.getD i 0)<;>rfl
omit hb in
theorem Aj8(n:Int)(hn:n=(m.F0.length:Int))(hm:m.F0.length≤maxLen):LW (((),(),n,(0:Int),()),(b.tup,m.tup,()))=A (if m.F0.all (inR 0 4)then .inl (((),(),n,()),(b.tup,m.tup,()))else .inr ((C,()),())):=by subst hn;refine ZJ (N:=m.F0.length) hm (λi=>(((),(),(m.F0.length:Int),(i:Int),()),(b.tup,m.tup,()))) (λi=>inR 0 4 (m.F0.getD i 0)) (λi=>(m.F0.drop i).all (inR 0 4)) (λi hi=>by rw[By (0:Int) hi,Z_]) (by rw[b2_];rfl) (λi hi=>?_) (by show IZ (m.F0.length:Int) (m.F0.length:Int) b.C0 b.E0 b.H0 b.M0 b.J0 b.L0 b.N0 b.B0 m.F0 m.O0 m.K0 m.A0=_;unfold IZ;rw[Rl];rfl);show IZ (m.F0.length:Int) (i:Int) b.C0 b.E0 b.H0 b.M0 b.J0 b.L0 b.N0 b.B0 m.F0 m.O0 m.K0 m.A0=_;unfold IZ;rw[Vs hi,KJ hi,wrM hm hi];simp only[d_,j_];rw[Ba0];cases inR 0 4 (m.F0.getD i 0)<;>rfl
theorem CW(hp:m.F0.length≤maxLen)(he:m.A0.length≤maxLen):Cl b.C0 b.E0 b.H0 b.M0 b.J0 b.L0 b.N0 b.B0 m.F0 m.O0 m.K0 m.A0=A ((m.ok b,()),()):=by
 unfold Cl Img.ok;rw[Bg];simp only[E,bne];cases b.code==0 with
 |false=>rfl
 |true=>
  cases(m.F0.length:Int)==(b.B0.length:Int)with
  |false=>rfl
  |true=>
   cases(m.O0.length:Int)==(b.B0.length:Int)with
   |false=>rfl
   |true=>
    cases(m.K0.length:Int)==(b.B0.length:Int)with
    |false=>rfl
    |true=>
     have h0:=Ajv (b:=b) m hp;have h1:=Ajw hb m he;unfold Bldg.tup Img.tup at h0 h1;simp only[o_,c_,h0,E,s_];cases m.F0.all (inR 0 4)with
     |false=>rfl
     |true=>simp only[g8_,h1,E,s_];cases FY b W m.A0<;>rfl
theorem QD(hp:m.F0.length≤maxLen)(he:m.A0.length≤maxLen):Hm b.C0 b.E0 b.H0 b.M0 b.J0 b.L0 b.N0 b.B0 m.F0 m.O0 m.K0 m.A0=A ((m.ok b,()),()):=by
 unfold Hm Img.ok;rw[Em];simp only[E,bne];cases b.code==0 with
 |false=>rfl
 |true=>
  cases hq:(m.F0.length:Int)==(b.B0.length:Int)with
  |false=>rfl
  |true=>
   cases(m.O0.length:Int)==(b.B0.length:Int)with
   |false=>rfl
   |true=>
    cases(m.K0.length:Int)==(b.B0.length:Int)with
    |false=>rfl
    |true=>
     have hq':(m.F0.length:Int)=(b.B0.length:Int):=by simpa using hq
     have h0:=Aj8 (b:=b) m (b.B0.length:Int) hq'.symm hp;have h1:=Aj9 hb m (b.B0.length:Int) rfl he;unfold Bldg.tup Img.tup at h0 h1;simp only[o_,c_,h0,E,s_];cases m.F0.all (inR 0 4)with
     |false=>rfl
     |true=>simp only[g8_,h1,E,s_];cases FY b W m.A0<;>rfl
end
def Aiy(n D hi:Int):Oi n D hi=A ((inR D hi n,()),()):=by unfold Oi inR;cases decide (D≤n)<;>rfl
def Tw(b:Bldg)(r:Record):Bool:=inR 0 ((b.B0.length:Int)-1) r.T0&&(r.D0==0&&r.I0==0)
def At(b:Bldg)(r:Record):Bool:=
 b.code==0&&(bif r.R0==1 then Ai b r.D0 r.I0&&(r.T0==0&&r.L2==0)
 else bif r.R0==2 then Ai b r.D0 r.I0&&(r.T0==0&&r.L2==0)
 else bif r.R0==3 then Ai b r.D0 r.I0&&(inR (-2) ((b.B0.length:Int)-1) r.T0&&r.L2==0)
 else bif r.R0==4 then Tw b r&&inR 0 4 r.L2
 else bif r.R0==5 then Tw b r&&inR 0 1 r.L2
 else bif r.R0==6 then Tw b r&&inR 0 1 r.L2
 else bif r.R0==7 then Ai b r.D0 r.I0&&(inR 0 1 r.T0&&inR 0 255 r.L2)
 else C)
def Anw(hb:b.small)(hc:b.B0.length≤100)(r:Record):Lv b.C0 b.E0 b.H0 b.M0 b.J0 b.L0 b.N0 b.B0 r.R0 r.D0 r.I0 r.T0 r.L2=A ((At b r,()),()):=by
  have w:H.wrap ((b.B0.length:Int)-1)=(b.B0.length:Int)-1:=Aa ω ω;unfold Lv At Tw;rw[Em,Ln hb,Aiy,w];simp only[E,bne,Aiy];cases b.code==0 with
  |false=>rfl
  |true=>
    simp only[o_,c_,s_];have k:∀(q:Bool) {x y z:Option ((Bool×Unit)×Unit)}{u v:Bool},(q=B→x=A ((u,()),()))→(q=C→y=A ((v,()),()))→(bif q then x else y)=A (((bif q then u else v),()),()):=λq _ _ _ _ _ h1 h2=>by
      cases q
      · exact h2 rfl
      · exact h1 rfl
    cases inR 0 ((b.B0.length:Int)-1) r.T0<;>cases r.D0==0<;>cases r.I0==0<;>
      (simp only[d_,c_,E,a0_,d5_,c1_,a7_,s_]
       refine k _ (z:=W) (λ_=>?_) λ_=>k _ (z:=W) (λ_=>?_) λ_=>k _ (z:=W) (λ_=>?_) λ_=>k _ (z:=W) (λ_=>?_) λ_=>k _ (z:=W) (λ_=>?_) λ_=>k _ (z:=W) (λ_=>?_) λ_=>k _ (z:=W) (λ_=>?_) λ_=>?_
       all_goals first
         |rfl
         |(cases Ai b r.D0 r.I0<;>cases r.T0==0<;>rfl)
         |(cases Ai b r.D0 r.I0<;>cases inR 0 1 r.T0<;>rfl)
         |(rw[w];cases Ai b r.D0 r.I0<;>cases inR (-2) ((b.B0.length:Int)-1) r.T0<;>rfl))
end Go.Ovl
