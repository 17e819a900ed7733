/- Plain facts: wrapped numbers, loops by rounds, strings. -/
import Derived.Test.YtdapkmfmgpmnoaaGreatDoorAbE
import Derived.Test.YtdapkmfmgpmnoaaGreatDoorDefs4
set_option linter.all false
open Option renaming some->A,bind->J
open Bool renaming true->B,false->C
open Go.IntKind renaming u32->D,wrap->E,i64->H
open BitVec renaming ofInt->aA,toNat->aB,eq_of_getLsbD_eq->aE,eq_of_toNat_eq->aF
open List renaming all_nil->aC
open ByteArray renaming ext->aD
namespace Go.Ovl
open Go Go.Ab
variable{f:Nat}{α:Type}{n:Int}
def Aa(h:-9223372036854775808≤n)(h':n<9223372036854775808):H.wrap n=n:=by
 rw[IntKind.wrap_i64];omega
def CI(h:0≤n)(h':n<18446744073709551616):IntKind.u64.wrap n=n:=by
 simp only[E,IntKind.signed,IntKind.bits];simp;omega
def Ac{i:Int}{n:Nat}(h:0≤i)(h':i<n):inB i n=B:=by simp[inB];omega
def Ay{a b:Nat}(h:a≤b):Nat.ble a b=B:=Nat.ble_eq.symm▸h
def Apw(s:ByteArray):s.toList=s.data.toList:=ByteArray.toList_eq s
def Aqh{a b:ByteArray}:eqB a b=B↔a=b:=by
 constructor
 ·intro h
  simp[eqB,Apw]at h;exact aD h
 ·rintro rfl;simp[eqB]
def FG [BEq α][LawfulBEq α]{a b:α}(h:¬a=b):(a !=b)=B:=by simpa using h
def An [BEq α][LawfulBEq α]{a b:α}(h:¬a=b):(a==b)=C:=by simpa using h
section
variable{X Y:Type}{step:X→Option (Sum X Y)}
def Bu{x x':X}(h:step x=A (.inl x')):BQ step (f+1) x=BQ step f x':=by simp only[BQ,h,Rl]
def Az{x:X}{y:Y}(h:step x=A (.inr y)):BQ step (f+1) x=A y:=by simp only[BQ,h,Rl]
def Ah5:∀{f:Nat}{x:X}{y:Y},BQ step f x=A y→∀{g:Nat},f≤g→BQ step g x=A y
 |0,_,_,h,_,_=>by simp[BQ]at h
 |f+1,x,y,h,0,hg=>by omega
 |f+1,x,y,h,g+1,hg=>by
  simp only[BQ]at h⊢;cases hs:step x with
  |none=>rw[hs]at h;simp[Rl]at h
  |some z=>
   rw[hs]at h;cases z with
   |inl x'=>exact Ah5 (f:=f) (g:=g) h ω
   |inr y'=>exact h
def Ai{x:X}{y:Y}(h:BQ step f x=A y)(hf:f≤18446744073709551616):BQ step El x=A y:=Ah5 h hf
def Aqv(Q:X→Y→Prop)(m:X→Nat)(hs:∀x y,Q x y→(∃x',step x=A (.inl x')∧Q x' y∧m x'<m x)∨step x=A (.inr y)):∀(n:Nat) (x:X) (y:Y),Q x y→m x≤n→BQ step (n+1) x=A y
 |n,x,y,hq,hm=>by
  rcases hs x y hq with⟨x',h1,h2,h3⟩ | h1
  ·cases n with
   |zero=>omega
   |succ n=>rw[Bu h1];exact Aqv Q m hs n x' y h2 ω
  ·exact Az h1
def Bhw(Q:X→Y→Prop)(m:X→Nat)(hs:∀x y,Q x y→(∃x',step x=A (.inl x')∧Q x' y∧m x'<m x)∨step x=A (.inr y)){x:X}{y:Y}(hq:Q x y)(hm:m x<18446744073709551616):BQ step El x=A y:=
 Ai (Aqv Q m hs (m x) x y hq (z_ _)) hm
def AK{S:Type}(h:Nat→S→S):Nat→Nat→S→S
 |0,_,s=>s
 |m+1,i,s=>AK h m (i+1) (h i s)
def AP{S:Type}(N:Nat)(g:Nat→S→X)(h:Nat→S→S)(inv:Nat→S→Prop)(y:S→Y)(h1:∀i s,i<N→inv i s→step (g i s)=A (.inl (g (i+1) (h i s)))∧inv (i+1) (h i s))
  (h2:∀s,inv N s→step (g N s)=A (.inr (y s))):∀(m i:Nat) (s:S),i+m=N→inv i s→BQ step (m+1) (g i s)=A (y (AK h m i s))∧inv N (AK h m i s)
 |0,i,s,hi,hs=>by
  have:i=N:=ω
  subst this;exact⟨Az (h2 s hs),hs⟩
 |m+1,i,s,hi,hs=>by
  obtain⟨q1,q2⟩:=h1 i s ω hs
  rw[Bu q1];exact AP N g h inv y h1 h2 m (i+1) (h i s) ω q2
end
def noB:ByteArray:=⟨#[]⟩
def Wx(d:ByteArray){k:Nat}(h:k≤d.size):(d.extract 0 k).size=k:=by simp;omega
def Al3(d:ByteArray){a b c:Nat}(h:a≤b)(h':b≤c):d.extract a b++d.extract b c=d.extract a c:=by
 apply aD;simp;rw[d0_ h,Nat.max_eq_right h']
def Acp(a:ByteArray):a++noB=a:=by apply aD;simp[noB]
def Ahn(d:ByteArray)(k:Nat):d.extract k k=noB:=by apply aD;simp[noB]
end Go.Ovl
namespace Go.Ovl
open Go Go.Ab
set_option maxRecDepth 100000
variable{c:Bool}
def Sat{α:Type}(o:Option α)(P:α→Prop):Prop:=∃a,o=A a∧P a
section
variable{α β:Type}{P:α→Prop}{Q:β→Prop}
def Sat.ret{a:α}(h:P a):Sat (A a) P:=⟨a,rfl,h⟩
def Sat.bindE{o:Option β}{b:β}{f:β→Option α}(h:o=A b)(h2:Sat (f b) P):Sat (J o f) P:=by
 subst h;exact h2
def Sat.bindS{o:Option β}{f:β→Option α}(h:Sat o Q)(h2:∀b,Q b→Sat (f b) P):Sat (J o f) P:=by
 obtain⟨b,h,hq⟩:=h;subst h;exact h2 b hq
def Sat.bic{x y:Option α}(h1:c=B→Sat x P)(h2:c=C→Sat y P):Sat (bif c then x else y) P:=by
 cases c with
 |true=>exact h1 rfl
 |false=>exact h2 rfl
def Sat.bifT{x y:Option α}(h:c=B)(h1:Sat x P):Sat (bif c then x else y) P:=by subst h;exact h1
def Sat.bifF{x y:Option α}(h:c=C)(h1:Sat y P):Sat (bif c then x else y) P:=by subst h;exact h1
def Sat.bindC{x y:Option β}{f:β→Option α}(h1:c=B→Sat (J x f) P)(h2:c=C→Sat (J y f) P):Sat (J (bif c then x else y) f) P:=by
 cases c with
 |true=>exact h1 rfl
 |false=>exact h2 rfl
def Sat.bindCT{x y:Option β}{f:β→Option α}(h:c=B)(h1:Sat (J x f) P):Sat (J (bif c then x else y) f) P:=by subst h;exact h1
def Sat.bindCF{x y:Option β}{f:β→Option α}(h:c=C)(h1:Sat (J y f) P):Sat (J (bif c then x else y) f) P:=by subst h;exact h1
def Sat.bindR{b:β}{f:β→Option α}(h2:Sat (f b) P):Sat (J (A b) f) P:=h2
def Sat.bindA{γ:Type}{o:Option γ}{g:γ→Option β}{f:β→Option α}(h:Sat (J o λx=>J (g x) f) P):Sat (J (J o g) f) P:=by
 cases o with
 |none=>exact h
 |some a=>exact h
def Sat.mono{R:α→Prop}{o:Option α}(h:Sat o P)(h2:∀a,P a→R a):Sat o R:=by
 obtain⟨a,h,hp⟩:=h;exact⟨a,h,h2 a hp⟩
def Sat.any{o:Option α}(h:Sat o P):Sat o λ_=>True:=h.mono λ_ _=>trivial
def Sat.val{a:α}{o:Option α}(h:o=A a)(hp:P a):Sat o P:=⟨a,h,hp⟩
def Sat.ex{o:Option α}(h:Sat o P):∃a,o=A a∧P a:=h
end
def Sat.iterN{X Y:Type}{step:X→Option (Sum X Y)}(I:Nat→X→Prop)(P:Y→Prop)(hs:∀k x,I k x→Sat (step x) λr=>match r with | .inl x'=>∃k',k=k'+1∧I k' x' | .inr y=>P y):∀(k:Nat) (x:X),I k x→Sat (BQ step (k+1) x) P
 |k,x,hi=>by
  obtain⟨r,h1,h2⟩:=hs k x hi
  match r,h1,h2 with
  | .inr y,h1,h2=>exact⟨y,Az h1,h2⟩
  | .inl x',h1,⟨k',hk,hi'⟩=>
   subst hk;rw[Bu h1];exact Sat.iterN I P hs k' x' hi'
def Sat.loop{X Y:Type}{step:X→Option (Sum X Y)}(I:Nat→X→Prop){P:Y→Prop}(hs:∀k x,I k x→Sat (step x) λr=>match r with | .inl x'=>∃k',k=k'+1∧I k' x' | .inr y=>P y)(k:Nat){x:X}(hi:I k x)(hk:k<18446744073709551616):Sat (BQ step El x) P:=by
 obtain⟨y,h1,h2⟩:=Sat.iterN I P hs k x hi;exact⟨y,Ai h1 ω,h2⟩
def Ae0(n:Int):decide ((0:Int)≤IntKind.u64.wrap n)=B:=by
 simp only[E,IntKind.signed,IntKind.bits];simp;exact Int.emod_nonneg _ (by decide)
class SatT {α:Type}(o:Option α):Prop where
 out:Sat o λ_=>True
section
variable{α β:Type}{P:α→Prop}
def Sat.bT{x y:Option α}(h1:Sat x P)(h:c=true:=by with_reducible first | exact Eq.refl true | exact Ae0 _ | assumption):Sat (bif c then x else y) P:=Sat.bifT h h1
def Sat.bF{x y:Option α}(h1:Sat y P)(h:c=false:=by with_reducible first | exact Eq.refl false | assumption):Sat (bif c then x else y) P:=Sat.bifF h h1
def Sat.cT{x y:Option β}{f:β→Option α}(h1:Sat (Option.bind x f) P)(h:c=true:=by with_reducible first | exact Eq.refl true | exact Ae0 _ | assumption):Sat (Option.bind (bif c then x else y) f) P:=Sat.bindCT h h1
def Sat.cF{x y:Option β}{f:β→Option α}(h1:Sat (Option.bind y f) P)(h:c=false:=by with_reducible first | exact Eq.refl false | assumption):Sat (Option.bind (bif c then x else y) f) P:=Sat.bindCF h h1
def Sat.sT{o:Option β}{f:β→Option α}(h2:∀b,True→Sat (f b) P)(h:Sat o (λ_=>True):=by with_reducible first | assumption | exact SatT.out):Sat (Option.bind o f) P:=Sat.bindS h h2
def Sat.go{o:Option α}(h:Sat o P:=by repeat' with_reducible first | refine Sat.bindR ?_ | refine Sat.bindA ?_ | refine Sat.cT ?_ | refine Sat.cF ?_ | refine Sat.bindC (λ_=>?_) (λ_=>?_) | refine Sat.bT ?_ | refine Sat.bF ?_ | refine Sat.bic (λ_=>?_) (λ_=>?_) | refine Sat.sT λ_ _=>?_ | exact Sat.ret trivial):Sat o P:=h
end
end Go.Ovl
namespace Go.Ovl
open Go Go.Ab
variable{i:Nat}{f:Int}
def bv(f:Int):BitVec 32:=aA 32 f
def vb(b:BitVec 32):Int:=(b.toNat:Int)
def KP(b:BitVec 32):0≤vb b∧vb b<4294967296:=by
 have:=b.isLt
 unfold vb;omega
def Asa(b:BitVec 32):bv (vb b)=b:=by
 apply aF
 have:=b.isLt
 simp only[bv,vb,W_];omega
def Au9(h:0≤f∧f<4294967296):vb (bv f)=f:=by
 simp only[bv,vb,W_];omega
def Td(b:BitVec 32):D.wrap ((b.toNat:Nat):Int)=vb b:=by
 have:=b.isLt
 simp only[E,IntKind.signed,IntKind.bits,vb];simp;omega
def Ak8:IntKind.bits .u32=32:=rfl
def Bg9(f:Int):bv (E D f)=bv f:=by
 apply aF;simp only[bv,W_,E,IntKind.signed,IntKind.bits];simp
def Ala(i:Nat):bv (E D (1*2^min i (IntKind.bits .u32)))=if i<32 then BitVec.twoPow 32 i else 0#32:=by
 rw[Bg9,Int.one_mul];apply aF;simp only[bv,W_,Ak8];by_cases h:i<32
 ·rw[if_pos h,d0_ ω,BitVec.toNat_twoPow]
  have:((2:Int)^i)=((2^i:Nat):Int):=by simp
  rw[this]
  norm_cast
 ·rw[if_neg h,Nat.min_eq_right ω]
  rfl
def CQ(f:Int)(i:Nat):Bool:=(bv f).getLsbD i
def Bbe(h:0≤f∧f<4294967296)(hi:i<32):
  (E D ((aB (aA (IntKind.bits .u32) (Int.fdiv f (2^min i (IntKind.bits .u32)))&&&aA (IntKind.bits .u32) 1):Nat):Int)==1)=CQ f i:=by
 have e:Int.fdiv f (2^min i (IntKind.bits .u32))=((f.toNat/2^i:Nat):Int):=by
  rw[Ak8,d0_ ω,V_ _ (by exact Int.le_of_lt (Int.pow_pos ω))]
  have:f=((f.toNat:Nat):Int):=ω
  rw[this];simp
 rw[e];show(E D (((bv ((f.toNat/2^i:Nat):Int)&&&bv 1).toNat:Nat):Int)==1)=_;rw[Td]
 have hb:(bv ((f.toNat/2^i:Nat):Int)&&&bv 1)=if CQ f i then 1#32 else 0#32:=by
  apply aE;intro j hj
  have h1:(bv ((f.toNat/2^i:Nat):Int)).getLsbD j=(f.toNat/2^i).testBit j:=by
   simp only[bv,BitVec.getLsbD,W_]
   have:(((f.toNat/2^i:Nat):Int)%((2^32:Nat):Int)).toNat=(f.toNat/2^i)%2^32:=by norm_cast
   rw[this,Nat.testBit_mod_two_pow];simp[hj]
  have h2:CQ f i=f.toNat.testBit i:=by
   simp only[CQ,bv,BitVec.getLsbD,W_]
   have:(f%((2^32:Nat):Int)).toNat=f.toNat:=by simp;omega
   rw[this]
  have h3:(bv 1).getLsbD j=decide (j=0):=by
   have:bv 1=1#32:=rfl
   rw[this];simp[BitVec.getLsbD_one]
  rw[f5_,h1,h3,h2];by_cases hj0:j=0
  ·subst hj0
   rw[Nat.testBit_div_two_pow];simp only[p_,decide_true,c6_];cases f.toNat.testBit i<;>simp
  ·simp only[hj0,decide_false,c2_]
   cases f.toNat.testBit i<;>simp[BitVec.getLsbD_one,hj0]
 rw[hb];cases CQ f i<;>rfl
def Xf(f:Int)(i:Nat)(on:Bool):Int:=vb (if on then bv f|||BitVec.twoPow 32 i else bv f&&& ~~~ BitVec.twoPow 32 i)
def Aun(f:Int)(i:Nat)(on:Bool):0≤Xf f i on∧Xf f i on<4294967296:=KP _
def Afi{g:Int}(hf:0≤f∧f<4294967296)(hg:0≤g∧g<4294967296)(h:∀i,i<32→CQ f i=CQ g i):f=g:=by
 rw[← Au9 hf,← Au9 hg];congr 1;apply aE;intro i hi;exact h i hi
def Bpy(f:Int)(hi:i<32):D.wrap ((aB (aA (IntKind.bits .u32) f|||BitVec.ofInt (IntKind.bits .u32) (E D (1*2^min i (IntKind.bits .u32)))):Nat):Int)=Xf f i B:=by
 show D.wrap (((bv f|||bv (E D (1*2^min i (IntKind.bits .u32)))).toNat:Nat):Int)=_
 rw[Td,Ala,if_pos hi];rfl
def Ax0(f:Int)(hi:i<32):D.wrap ((aB (aA (IntKind.bits .u32) f&&& ~~~ aA (IntKind.bits .u32) (E D (1*2^min i (IntKind.bits .u32)))):Nat):Int)=Xf f i C:=by
 show D.wrap (((bv f&&& ~~~ bv (E D (1*2^min i (IntKind.bits .u32)))).toNat:Nat):Int)=_;rw[Td,Ala,if_pos hi];rfl
def Baa(f:Int)(i:Nat):Xf (Xf f i C) i B=Xf f i B:=by
 unfold Xf;simp only[g8_,f2_,g3_,Asa];congr 1;apply aE;intro j hj;simp only[BitVec.getLsbD_or,f5_,BitVec.getLsbD_not];cases(bv f).getLsbD j<;>cases(BitVec.twoPow 32 i).getLsbD j<;>simp[hj]
end Go.Ovl
namespace Go.Ovl
open Go Go.Ab
def Ag4(x y:Int):D.wrap (stk x y (aB (aA (IntKind.bits .u32) x|||BitVec.ofInt (IntKind.bits .u32) y)))=vb (bv x|||bv y):=by
 rw[Kf];exact Td _
def US(x y:Int):D.wrap (stk x y (aB (aA (IntKind.bits .u32) x&&&aA (IntKind.bits .u32) y)))=vb (bv x&&&bv y):=by
 rw[Kf];exact Td _
def KQ(x y:Int):D.wrap (stk x y (aB (aA (IntKind.bits .u32) x&&& ~~~ aA (IntKind.bits .u32) y)))=vb (bv x&&& ~~~ bv y):=by
 rw[Kf];exact Td _
def Ts(b:BitVec 32)(i:Nat):CQ (vb b) i=b.getLsbD i:=by unfold CQ;rw[Asa]
def Ap3{k:Nat}(h:k<32)(i:Nat):CQ (E D (1*2^min k (IntKind.bits .u32))) i=decide (i=k):=by
 unfold CQ;rw[Ala,if_pos h,BitVec.getLsbD_twoPow];by_cases e:i=k
 ·subst e;simp[h]
 ·simp[e,f6_ e]
structure Bldg where
 C0:Int
 E0:Int
 H0:Int
 M0:Int
 J0:Nat
 L0:Nat
 N0:Nat
 B0:List Car
def BU{α:Type}{l:List α}{i:Nat}(d:α)(h:i<l.length):l.drop i=l.getD i d::l.drop (i+1):=by
 rw[h3_ h];simp[h]
def inR(lo hi n:Int):Bool:=decide (lo≤n)&&decide (n≤hi)
def Ao{lo hi n:Int}:inR lo hi n=B↔lo≤n∧n≤hi:=by simp[inR]
def Cg(lo hi:Int){l:List Int}(hl:l.length≤maxLen):BP lo hi l=A ((l.all (inR lo hi),()),()):=by
 have hm:maxLen≤9223372036854775807:=by decide
 have key:∀(m i:Nat),i+m=l.length→BQ (λx=>Ca x.1.1 x.1.2.1 x.1.2.2.1 x.1.2.2.2.1 x.1.2.2.2.2.1) (m+1) ((lo,hi,l,(l.length:Int),(i:Int),()),())=A (if(l.drop i).all (inR lo hi)then .inl ((),())else .inr ((C,()),())):=by
  intro m
  induction m with
  |zero=>
   intro i hi';refine Az ?_;show Ca lo hi l (l.length:Int) (i:Int)=_;unfold Ca;have e:decide ((i:Int)<(l.length:Int))=C:=by simp;omega
   rw[e,show i=l.length by omega];simp
  |succ m ih=>
   intro i hi';have e:decide ((i:Int)<(l.length:Int))=B:=by simp;omega
   have ib:inB (i:Int) l.length=B:=Ac ω ω
   have tn:Int.toNat (i:Int)=i:=ω
   have w:H.wrap ((i:Int)+1)=((i+1:Nat):Int):=by rw[Aa ω ω];omega
   rw[BU (0:Int) (ω:i<l.length)]
   by_cases h1:l.getD i 0<lo
   ·refine(Az (y:=.inr ((C,()),())) ?_).trans ?_
    ·show Ca lo hi l (l.length:Int) (i:Int)=_
     unfold Ca;have d1:decide (l.getD i 0<lo)=B:=by simpa using h1
     simp only[e,ib,tn,d1,d_]
    ·have:inR lo hi (l.getD i 0)=C:=by rw[inR,show decide (lo≤l.getD i 0)=C from f_ ω,a4_]
     rw[X_,this];rfl
   ·have d1:decide (l.getD i 0<lo)=C:=by simpa using h1
    by_cases h2:hi<l.getD i 0
    ·refine(Az (y:=.inr ((C,()),())) ?_).trans ?_
     ·show Ca lo hi l (l.length:Int) (i:Int)=_
      unfold Ca;have d2:decide (hi<l.getD i 0)=B:=by simpa using h2
      simp only[e,ib,tn,d1,d2,d_,c_]
     ·have:inR lo hi (l.getD i 0)=C:=by rw[inR,show decide (l.getD i 0≤hi)=C from f_ ω,c2_]
      rw[X_,this];rfl
    ·have d2:decide (hi<l.getD i 0)=C:=by simpa using h2
     refine(Bu (x':=((lo,hi,l,(l.length:Int),((i+1:Nat):Int),()),())) ?_).trans ?_
     ·show Ca lo hi l (l.length:Int) (i:Int)=_
      unfold Ca;simp only[e,ib,tn,d1,d2,w,d_,c_]
     ·have:inR lo hi (l.getD i 0)=B:=Ao.2 ⟨ω,ω⟩
      rw[ih (i+1) ω,X_,this];rfl
 unfold BP;have h0:Ii ((lo,hi,l,(l.length:Int),(0:Int),()),())=_:=Ai (key l.length 0 ω) ω
 rw[h0];rw[Q_];cases l.all (inR lo hi)<;>rfl
def Ll(n lo hi:Int):Hk n lo hi=A ((inR lo hi n,()),()):=by
 unfold Hk inR;cases h:decide (lo≤n)<;>simp
def Cm(fl:Int)(c:Car):Bool:=
 [c.I1,c.G3,c.J3,c.O3,c.L2,c.K2,c.Q3].all (inR 1 10000)&&(inR 0 10000 c.I2&&(decide (c.K2≤c.Q3)&&inR 0 (E H (fl-1)) c.A4))
def XA(fl:Int)(c:Car):Ko c.I1 c.G3 c.J3 c.I2 c.O3 c.L2 c.K2 c.Q3 c.A4 fl=A ((Cm fl c,()),()):=by
 have hm:7≤maxLen:=by decide
 unfold Ko Cm;rw[Cg 1 10000 (l:=[c.I1,c.G3,c.J3,c.O3,c.L2,c.K2,c.Q3]) (by simpa using hm)]
 generalize [c.I1,c.G3,c.J3,c.O3,c.L2,c.K2,c.Q3].all (inR 1 10000)=a;rw[Cg 0 10000 (l:=[c.I2]) (by simp;omega),Cg 0 _ (l:=[c.A4]) (by simp;omega)]
 simp only[a_,X_,aC,c6_];cases a
 ·rfl
 ·cases inR 0 10000 c.I2
  ·rfl
  ·by_cases h:c.K2≤c.Q3
   ·have:decide (c.K2≤c.Q3)=B:=by simpa using h
    simp only[this,d_,a_,n_]
   ·have:decide (c.K2≤c.Q3)=C:=by simpa using h
    simp only[this,d_,c_,a_,n_,a4_]
def Bldg.tup(b:Bldg):Int×Int×Int×Int×Nat×Nat×Nat×List Car×Unit:=(b.C0,b.E0,b.H0,b.M0,b.J0,b.L0,b.N0,b.B0,())
def Car.tup(c:Car):Int×Int×Int×Int×Int×Int×Int×Int×Int×Unit:=(c.I1,c.G3,c.J3,c.I2,c.O3,c.L2,c.K2,c.Q3,c.A4,())
def Agr(b:Bldg)(c:Car){L:List Int}(hL:L.length=8) :
  NK (((),(),L,(0:Int),()),(b.tup,c.tup,()))=A (if(L.take 7).all (inR 1 10000)then .inl (((),(),()),(b.tup,c.tup,()))else .inr ((C,()),())):=by
 have key:∀(m i:Nat),i+m=7→BQ (λx=>letI a:=x.2.2.1.2.2;letI d:=x.2.1.2.2;letI f:=a.2.2;letI g:=d.2.2;FQ x.1.2.2.1 x.1.2.2.2.1 x.2.1.1 x.2.1.2.1 d.1 d.2.1 g.1 g.2.1 g.2.2.1 g.2.2.2.1 x.2.2.1.1 x.2.2.1.2.1 a.1 a.2.1 f.1 f.2.1 f.2.2.1 f.2.2.2.1 f.2.2.2.2.1) (m+1) (((),(),L,(i:Int),()),(b.tup,c.tup,()))=A (if((L.take 7).drop i).all (inR 1 10000)then .inl (((),(),()),(b.tup,c.tup,()))else .inr ((C,()),())):=by
  intro m
  induction m with
  |zero=>
   intro i hi';refine Az ?_;show FQ L (i:Int) b.C0 b.E0 b.H0 b.M0 b.J0 b.L0 b.N0 b.B0 c.I1 c.G3 c.J3 c.I2 c.O3 c.L2 c.K2 c.Q3 c.A4=_;unfold FQ;have e:decide ((i:Int)<7)=C:=by simp;omega
   have hd:(L.take 7).drop i=[]:=List.drop_eq_nil_of_le (by simp;omega)
   rw[e,hd];rfl
  |succ m ih=>
   intro i hi';have e:decide ((i:Int)<7)=B:=by simp;omega
   have ib:inB (i:Int) L.length=B:=Ac ω ω
   have tn:Int.toNat (i:Int)=i:=ω
   have w:H.wrap ((i:Int)+1)=((i+1:Nat):Int):=by rw[Aa ω ω];omega
   have hg:(L.take 7).getD i 0=L.getD i 0:=by
    simp only[k_,List.getElem?_take];rw[if_pos ω]
   rw[BU (0:Int) (show i<(L.take 7).length by simp;omega),hg,X_]
   cases hr:inR 1 10000 (L.getD i 0)with
   |false=>
    refine(Az (y:=.inr ((C,()),())) ?_).trans rfl;show FQ L (i:Int) b.C0 b.E0 b.H0 b.M0 b.J0 b.L0 b.N0 b.B0 c.I1 c.G3 c.J3 c.I2 c.O3 c.L2 c.K2 c.Q3 c.A4=_;unfold FQ;simp only[e,ib,tn,Ll,hr,d_,a_,c0_]
   |true=>
    refine(Bu (x':=(((),(),L,((i+1:Nat):Int),()),(b.tup,c.tup,()))) ?_).trans ?_
    ·show FQ L (i:Int) b.C0 b.E0 b.H0 b.M0 b.J0 b.L0 b.N0 b.B0 c.I1 c.G3 c.J3 c.I2 c.O3 c.L2 c.K2 c.Q3 c.A4=_
     unfold FQ;simp only[e,ib,tn,w,Ll,hr,d_,c_,a_,o_];rfl
    ·rw[ih (i+1) ω,n_]
 have h0:=key 7 0 rfl;rw[Q_]at h0;exact Ai h0 ω
def Ae2(b:Bldg)(c:Car):QF b.C0 b.E0 b.H0 b.M0 b.J0 b.L0 b.N0 b.B0 c.I1 c.G3 c.J3 c.I2 c.O3 c.L2 c.K2 c.Q3 c.A4=A ((Cm b.C0 c,()),()):=by
 unfold QF Cm;by_cases h1:c.I2<0
 ·have d1:decide (c.I2<0)=B:=by simpa using h1
  have d2:inR 0 10000 c.I2=C:=by rw[inR,show decide (0≤c.I2)=C from f_ ω,a4_]
  rw[d1,d_,d2,a4_,c2_]
 ·have d1:decide (c.I2<0)=C:=by simpa using h1
  rw[d1,c_];by_cases h2:10000<c.I2
  ·have d1:decide (10000<c.I2)=B:=by simpa using h2
   have d2:inR 0 10000 c.I2=C:=by rw[inR,show decide (c.I2≤10000)=C from f_ ω,c2_]
   rw[d1,d_,d2,a4_,c2_]
  ·have d1:decide (10000<c.I2)=C:=by simpa using h2
   have d2:inR 0 10000 c.I2=B:=Ao.2 ⟨ω,ω⟩
   rw[d1,c_,d2,n_];have hl:=Agr b c (L:=[c.I1,c.G3,c.J3,c.O3,c.L2,c.K2,c.Q3,H.wrap (c.I2+1)]) rfl;rw[show([c.I1,c.G3,c.J3,c.O3,c.L2,c.K2,c.Q3,H.wrap (c.I2+1)].take 7)=[c.I1,c.G3,c.J3,c.O3,c.L2,c.K2,c.Q3]from rfl]at hl
   simp only[Bldg.tup,Car.tup]at hl;rw[hl];cases [c.I1,c.G3,c.J3,c.O3,c.L2,c.K2,c.Q3].all (inR 1 10000)with
   |false=>rfl
   |true=>
    simp only[g8_,a_,n_,Ll];by_cases h:c.K2≤c.Q3
    ·have:decide (c.K2≤c.Q3)=B:=by simpa using h
     simp only[this,d_,a_,n_]
    ·have:decide (c.K2≤c.Q3)=C:=by simpa using h
     simp only[this,c_,a_,a4_]
def Bldg.loadsOK(b:Bldg):Bool:=((Go.FloatKind.format Go.FloatKind.f64).order 0 b.J0==A Ordering.lt)&&(((Go.FloatKind.format Go.FloatKind.f64).order b.J0 b.L0==A Ordering.lt)&&(((Go.FloatKind.format Go.FloatKind.f64).order b.L0 b.N0==A Ordering.lt)&&((Go.FloatKind.format Go.FloatKind.f64).order b.N0 9218868437227405311==A Ordering.lt||(Go.FloatKind.format Go.FloatKind.f64).order b.N0 9218868437227405311==A Ordering.eq)))
def Bldg.code(b:Bldg):Int:=
 bif !inR 2 32 b.C0 then 10 else bif !inR 1 8 (b.B0.length:Int)then 11 else
 bif !(inR 1 16 b.E0&&inR 1 10000 b.M0&&b.B0.all (Cm b.C0))then 12 else bif !b.loadsOK then 13 else
 bif !inR (18*(b.B0.length:Int)+24) 65536 b.H0 then 14 else 0
def EO:Car:=⟨0,0,0,0,0,0,0,0,0⟩
def XB(b:Bldg)(hl:b.B0.length≤8)(g:Bool) :
  IU (((),g,b.B0,(b.B0.length:Int),(0:Int),()),(b.tup,()))=A (((),g&&b.B0.all (Cm b.C0),()),(b.tup,())):=by
 have key:∀(m i:Nat) (g:Bool),i+m=b.B0.length→BQ (λx=>letI a:=x.2.1.2.2;letI c:=a.2.2;EY x.1.2.1 x.1.2.2.1 x.1.2.2.2.1 x.1.2.2.2.2.1 x.2.1.1 x.2.1.2.1 a.1 a.2.1 c.1 c.2.1 c.2.2.1 c.2.2.2.1) (m+1) (((),g,b.B0,(b.B0.length:Int),(i:Int),()),(b.tup,()))=A (((),g&&(b.B0.drop i).all (Cm b.C0),()),(b.tup,())):=by
  intro m
  induction m with
  |zero=>
   intro i g hi';refine Az ?_;show EY g b.B0 (b.B0.length:Int) (i:Int) b.C0 b.E0 b.H0 b.M0 b.J0 b.L0 b.N0 b.B0=_;unfold EY;have e:decide ((i:Int)<(b.B0.length:Int))=C:=by simp;omega
   rw[e,show i=b.B0.length by omega,a5_]
   simp only[c_,aC,c6_,Bldg.tup]
  |succ m ih=>
   intro i g hi';have e:decide ((i:Int)<(b.B0.length:Int))=B:=by simp;omega
   have ib:inB (i:Int) b.B0.length=B:=Ac ω ω
   have tn:Int.toNat (i:Int)=i:=ω
   have w:H.wrap ((i:Int)+1)=((i+1:Nat):Int):=by rw[Aa ω ω];omega
   rw[BU EO (ω:i<b.B0.length),X_]
   refine(Bu (x':=(((),g&&Cm b.C0 (b.B0.getD i EO),b.B0,(b.B0.length:Int),((i+1:Nat):Int),()),(b.tup,()))) ?_).trans ?_
   ·show EY g b.B0 (b.B0.length:Int) (i:Int) b.C0 b.E0 b.H0 b.M0 b.J0 b.L0 b.N0 b.B0=_
    unfold EY;simp only[e,ib,tn,d_];rw[XA b.C0 (b.B0.getD i ⟨0,0,0,0,0,0,0,0,0⟩)];cases g
    ·simp only[c_,a_,a4_,w];rfl
    ·simp only[d_,a_,n_,w];rfl
   ·rw[ih (i+1) _ ω,Bool.and_assoc]
 have h0:=key b.B0.length 0 g ω
 rw[Q_]at h0;exact Ai h0 ω
def Agq(b:Bldg)(hl:b.B0.length≤8)(g:Bool) :
  NJ (((),g,(0:Int),()),(b.tup,()))=A (((),g&&b.B0.all (Cm b.C0),()),(b.tup,())):=by
 have key:∀(m i:Nat) (g:Bool),i+m=b.B0.length→BQ (λx=>letI a:=x.2.1.2.2;letI c:=a.2.2;Iy x.1.2.1 x.1.2.2.1 x.2.1.1 x.2.1.2.1 a.1 a.2.1 c.1 c.2.1 c.2.2.1 c.2.2.2.1) (m+1) (((),g,(i:Int),()),(b.tup,()))=A (((),g&&(b.B0.drop i).all (Cm b.C0),()),(b.tup,())):=by
  intro m
  induction m with
  |zero=>
   intro i g hi';refine Az ?_;show Iy g (i:Int) b.C0 b.E0 b.H0 b.M0 b.J0 b.L0 b.N0 b.B0=_;unfold Iy;have e:decide ((i:Int)<(b.B0.length:Int))=C:=by simp;omega
   rw[e,show i=b.B0.length by omega,a5_]
   simp only[c_,aC,c6_,Bldg.tup]
  |succ m ih=>
   intro i g hi';have e:decide ((i:Int)<(b.B0.length:Int))=B:=by simp;omega
   have ib:inB (i:Int) b.B0.length=B:=Ac ω ω
   have tn:Int.toNat (i:Int)=i:=ω
   have w:H.wrap ((i:Int)+1)=((i+1:Nat):Int):=by rw[Aa ω ω];omega
   rw[BU EO (ω:i<b.B0.length),X_]
   refine(Bu (x':=(((),g&&Cm b.C0 (b.B0.getD i EO),((i+1:Nat):Int),()),(b.tup,()))) ?_).trans ?_
   ·show Iy g (i:Int) b.C0 b.E0 b.H0 b.M0 b.J0 b.L0 b.N0 b.B0=_
    unfold Iy;simp only[e,ib,tn,d_];rw[Ae2 b (b.B0.getD i ⟨0,0,0,0,0,0,0,0,0⟩)];cases g
    ·simp only[c_,a_,a4_,w];rfl
    ·simp only[d_,a_,n_,w];rfl
   ·rw[ih (i+1) _ ω,Bool.and_assoc]
 have h0:=key b.B0.length 0 g ω
 rw[Q_]at h0;exact Ai h0 ω
def Xz(b:Bldg):Kn b.C0 b.E0 b.H0 b.M0 b.J0 b.L0 b.N0 b.B0=A ((b.loadsOK,()),()):=by
 unfold Kn Bldg.loadsOK;cases(Go.FloatKind.format Go.FloatKind.f64).order 0 b.J0==A Ordering.lt
 ·rfl
 cases(Go.FloatKind.format Go.FloatKind.f64).order b.J0 b.L0==A Ordering.lt
 ·rfl
 cases(Go.FloatKind.format Go.FloatKind.f64).order b.L0 b.N0==A Ordering.lt
 ·rfl
 rfl
def Bi(b:Bldg):AU b.C0 b.E0 b.H0 b.M0 b.J0 b.L0 b.N0 b.B0=A ((b.code,()),()):=by
 have hm:8≤maxLen:=by decide
 unfold AU Bldg.code;rw[Cg 2 32 (l:=[b.C0]) (by simp;omega),Cg 1 8 (l:=[(b.B0.length:Int)]) (by simp;omega),Cg 1 16 (l:=[b.E0]) (by simp;omega),Cg 1 10000 (l:=[b.M0]) (by simp;omega)]
 simp only[a_,X_,aC,c6_];cases inR 2 32 b.C0
 ·rfl
 cases hc:inR 1 8 (b.B0.length:Int)
 ·rfl
 have hlen:b.B0.length≤8:=by have:=(Ao.1 hc).2;omega
 have hg:(bif inR 1 16 b.E0 then A (((),inR 1 10000 b.M0,()),(b.tup,()))else A (((),C,()),(b.tup,())))=A (((),inR 1 16 b.E0&&inR 1 10000 b.M0,()),(b.tup,())):=by
  cases inR 1 16 b.E0<;>rfl
 simp only[Bldg.tup]at hg;simp only[o_,c_,hg,a_];have hl:=XB b hlen (inR 1 16 b.E0&&inR 1 10000 b.M0);simp only[Bldg.tup]at hl;rw[hl,a_];cases inR 1 16 b.E0&&inR 1 10000 b.M0&&b.B0.all (Cm b.C0)
 ·rfl
 simp only[o_,c_];rw[Xz b,a_];cases b.loadsOK
 ·rfl
 simp only[o_,c_]
 rw[show H.wrap (E H (18*(b.B0.length:Int))+24)=18*(b.B0.length:Int)+24 by rw[Aa (n:=18*(b.B0.length:Int)) ω ω,Aa ω ω],
  Cg _ 65536 (l:=[b.H0]) (by simp;omega)]
 simp only[a_,X_,aC,c6_];cases inR (18*(b.B0.length:Int)+24) 65536 b.H0<;>rfl
def EW(b:Bldg):Eb b.C0 b.E0 b.H0 b.M0 b.J0 b.L0 b.N0 b.B0=A ((b.code,()),()):=by
 unfold Eb Bldg.code;simp only[Ll,a_];cases inR 2 32 b.C0
 ·rfl
 cases hc:inR 1 8 (b.B0.length:Int)
 ·rfl
 have hlen:b.B0.length≤8:=by have:=(Ao.1 hc).2;omega
 have hg:(bif inR 1 16 b.E0 then A (((),inR 1 10000 b.M0,()),(b.tup,()))else A (((),C,()),(b.tup,())))=A (((),inR 1 16 b.E0&&inR 1 10000 b.M0,()),(b.tup,())):=by
  cases inR 1 16 b.E0<;>rfl
 simp only[Bldg.tup]at hg;simp only[o_,c_,hg,a_];have hl:=Agq b hlen (inR 1 16 b.E0&&inR 1 10000 b.M0);simp only[Bldg.tup]at hl;rw[hl,a_];cases inR 1 16 b.E0&&inR 1 10000 b.M0&&b.B0.all (Cm b.C0)
 ·rfl
 simp only[o_,c_];unfold Bldg.loadsOK;cases(Go.FloatKind.format Go.FloatKind.f64).order 0 b.J0==A Ordering.lt
 ·rfl
 cases(Go.FloatKind.format Go.FloatKind.f64).order b.J0 b.L0==A Ordering.lt
 ·rfl
 cases(Go.FloatKind.format Go.FloatKind.f64).order b.L0 b.N0==A Ordering.lt
 ·rfl
 simp only[d_,n_];cases((Go.FloatKind.format Go.FloatKind.f64).order b.N0 9218868437227405311==A Ordering.lt||(Go.FloatKind.format Go.FloatKind.f64).order b.N0 9218868437227405311==A Ordering.eq)
 ·rfl
 simp only[o_,c_];rw[show H.wrap (E H (18*(b.B0.length:Int))+24)=18*(b.B0.length:Int)+24 by rw[Aa (n:=18*(b.B0.length:Int)) ω ω,Aa ω ω]]
 cases inR (18*(b.B0.length:Int)+24) 65536 b.H0<;>rfl
def FS(fl i:Nat):Car:=⟨100,2,6,5,4,2,3,10,((i%fl:Nat):Int)⟩
def AM(fl ca:Nat):Bldg:=⟨fl,1,4000,30,4591870180066957722,4605380978949069210,4607632778762754458,(List.range ca).map (FS fl)⟩
def Bldg.none:Bldg:=⟨0,0,0,0,0,0,0,[]⟩
def Acf{fl ca:Nat}(h1:1≤fl)(h2:ca≤8):OJ fl ca=A (((),()),((AM fl ca).tup,())):=by
 have key:∀(m i:Nat),i+m=ca→BQ (λx=>letI a:=x.2.2.1.2.2;letI b:=x.2.1.2.2;letI d:=b.2.2;letI f:=a.2.2;HL x.1.1 x.1.2.1 x.1.2.2.2.2.1 x.2.1.1 x.2.1.2.1 b.1 b.2.1 d.1 d.2.1 d.2.2.1 d.2.2.2.1 x.2.2.1.1 x.2.2.1.2.1 a.1 a.2.1 f.1 f.2.1 f.2.2.1 f.2.2.2.1) (m+1) (((fl:Int),(ca:Int),(),(),(i:Int),()),(Bldg.none.tup,(AM fl i).tup,()))=A (((),(),()),(Bldg.none.tup,(AM fl ca).tup,())):=by
  intro m
  induction m with
  |zero=>
   intro i hi';refine Az ?_;show HL (fl:Int) (ca:Int) (i:Int) Bldg.none.C0 Bldg.none.E0 Bldg.none.H0 Bldg.none.M0 Bldg.none.J0 Bldg.none.L0 Bldg.none.N0 Bldg.none.B0 (AM fl i).C0 (AM fl i).E0 (AM fl i).H0 (AM fl i).M0 (AM fl i).J0 (AM fl i).L0 (AM fl i).N0 (AM fl i).B0=_;unfold HL;have e:decide ((i:Int)<(ca:Int))=C:=by simp;omega
   rw[e,show i=ca by omega];rfl
  |succ m ih=>
   intro i hi';refine(Bu (x':=(((fl:Int),(ca:Int),(),(),((i+1:Nat):Int),()),(Bldg.none.tup,(AM fl (i+1)).tup,()))) ?_).trans (ih (i+1) ω)
   show HL (fl:Int) (ca:Int) (i:Int) Bldg.none.C0 Bldg.none.E0 Bldg.none.H0 Bldg.none.M0 Bldg.none.J0 Bldg.none.L0 Bldg.none.N0 Bldg.none.B0 (AM fl i).C0 (AM fl i).E0 (AM fl i).H0 (AM fl i).M0 (AM fl i).J0 (AM fl i).L0 (AM fl i).N0 (AM fl i).B0=_;unfold HL;have e:decide ((i:Int)<(ca:Int))=B:=by simp;omega
   have w:H.wrap ((i:Int)+1)=((i+1:Nat):Int):=by rw[Aa ω ω];omega
   have hz:((fl:Int) !=0)=B:=by simp;omega
   have hc:∀c:Car,Nat.ble ((AM fl i).B0.length+[c].length) 2147483648=B:=λc=>Ay (by simp[AM];omega)
   have ht:Int.tmod (i:Int) (fl:Int)=((i%fl:Nat):Int):=by rw[e4_ ω];norm_cast
   simp only[e,hz,hc,w,ht,d_];have hs:(AM fl (i+1)).B0=(AM fl i).B0++[FS fl i]:=by simp[AM,List.range_succ]
   simp only[Bldg.tup,hs];rfl
 unfold OJ;have h0:JN (((fl:Int),(ca:Int),(),(),(0:Int),()),(Bldg.none.tup,(AM fl 0).tup,()))=_:=Ai (key ca 0 ω) ω
 rw[show JN (((fl:Int),(ca:Int),(),(),(0:Int),()),(((0:Int),(0:Int),(0:Int),(0:Int),0,0,0,([]:List Car),()),((fl:Int),(1:Int),(4000:Int),(30:Int),4591870180066957722,4605380978949069210,4607632778762754458,([]:List Car),()),()))=_ from h0]
 rfl
def KD(fl ca:Nat)(room:Int):Bldg:={ AM fl ca with H0:=18*(ca:Int)+24+room }
def Ar3{fl ca:Nat}(h1:2≤fl)(h2:fl≤8)(h3:1≤ca)(h4:ca≤3){room:Int}(hr:0≤room∧room<256):(KD fl ca room).code=0:=by
 have hl:(KD fl ca room).B0.length=ca:=by simp[KD,AM]
 unfold Bldg.code;have e1:inR 2 32 (KD fl ca room).C0=B:=Ao.2 (by simp only[KD,AM];omega)
 have e2:inR 1 8 ((KD fl ca room).B0.length:Int)=B:=Ao.2 ω
 have e3:inR 1 16 (KD fl ca room).E0=B:=rfl;have e4:inR 1 10000 (KD fl ca room).M0=B:=rfl
 have e5:(KD fl ca room).B0.all (Cm (KD fl ca room).C0)=B:=by
  rw[E_];intro c hc;obtain⟨i,_,rfl⟩:=b6_.1 hc;have hm:i%fl<fl:=g1_ _ ω
  have:inR 0 (E H ((fl:Int)-1)) ((i%fl:Nat):Int)=B:=by
   rw[Aa ω ω];exact Ao.2 ω
  show Cm (fl:Int) (FS fl i)=B;unfold Cm FS;simp only[this];rfl
 have e6:(KD fl ca room).loadsOK=B:=by
  show(AM 2 1).loadsOK=B
  kernel_rfl
 have e7:inR (18*((KD fl ca room).B0.length:Int)+24) 65536 (KD fl ca room).H0=B:=Ao.2 (by rw[hl];simp only[KD];omega)
 rw[e1,e2,e3,e4,e5,e6,e7];rfl
end Go.Ovl
namespace Go.Ovl
open Go Go.Ab
variable{α:Type}{b:Bldg}{i:Nat}{l:List α}
structure Bldg.small(b:Bldg):Prop where
 lo:2≤b.C0
 hi:b.C0≤8
def u8r(n:Int):Prop:=0≤n∧n<256
def Bqb:u8r 0:=⟨by decide,by decide⟩
def CA(d:α)(hi:i<l.length):l.getD i d∈l:=by
 simp only[k_,j_ hi,Option.getD_some];exact b2_ hi
def Al8{P:α→Prop}(h:∀e∈l,P e){d:α}(hi:i<l.length):P (l.getD i d):=h _ (CA d hi)
def Aj(h:b.code=0):1≤b.B0.length∧b.B0.length≤8:=by
 unfold Bldg.code at h;cases h1:inR 1 8 (b.B0.length:Int)with
 |true=>have:=Ao.1 h1;omega
 |false=>
  rw[h1]at h;cases h2:inR 2 32 b.C0<;>rw[h2]at h<;>simp at h
def XU(h:b.code=0):18*(b.B0.length:Int)+24≤b.H0∧b.H0≤65536:=by
 unfold Bldg.code at h;cases h1:inR (18*(b.B0.length:Int)+24) 65536 b.H0 with
 |true=>exact Ao.1 h1
 |false=>
  rw[h1]at h;simp only[c0_,d_]at h
  revert h
  cases inR 2 32 b.C0<;>cases inR 1 8 (b.B0.length:Int)<;>cases inR 1 16 b.E0<;>cases inR 1 10000 b.M0<;>cases b.B0.all (Cm b.C0)<;>cases b.loadsOK<;>(intro h;simp at h)
end Go.Ovl
