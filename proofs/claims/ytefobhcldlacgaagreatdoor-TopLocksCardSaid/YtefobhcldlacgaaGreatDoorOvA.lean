import Derived.Test.YtefobhcldlacgaaGreatDoorAbE
import Derived.Test.YtefobhcldlacgaaGreatDoorDefs4
set_option linter.all false
open Option renaming some->A,bind->V
open Bool renaming false->B,true->C
open Go.Ab renaming lo->E
open Go.Ovl renaming Entry->H
open Go.IntKind renaming i64->J,u32->O,wrap->U
open BitVec renaming ofInt->aA,toNat->aB,eq_of_getLsbD_eq->aD,eq_of_toNat_eq->aE
open List renaming all_nil->aC
namespace Go.Ovl
open Go Go.Ab
variable{f:Nat}{α:Type}{n:Int}
def Aa(h:-9223372036854775808≤n)(h':n<9223372036854775808):J.wrap n=n:=by rw[IntKind.wrap_i64];omega
def CN(h:0≤n)(h':n<18446744073709551616):IntKind.u64.wrap n=n:=by simp only[U,IntKind.signed,IntKind.bits];simp;omega
def Ac{i:Int}{n:Nat}(h:0≤i)(h':i<n):inB i n=C:=by simp[inB];omega
def AD{a b:Nat}(h:a≤b):Nat.ble a b=C:=Nat.ble_eq.symm▸h
def Apo(s:ByteArray):s.toList=s.data.toList:=ByteArray.toList_eq s
def Ap6{a b:ByteArray}:eqB a b=C↔a=b:=by
 constructor
 ·intro h;simp[eqB,Apo]at h;exact ByteArray.ext h
 ·rintro rfl;simp[eqB]
def JR [BEq α][LawfulBEq α]{a b:α}(h:¬a=b):(a !=b)=C:=by simpa using h
def An [BEq α][LawfulBEq α]{a b:α}(h:¬a=b):(a==b)=B:=by simpa using h
section
variable{X Y:Type}{step:X→Option (Sum X Y)}
def Ca{x x':X}(h:step x=A (.inl x')):Cd step (f+1) x=Cd step f x':=by simp only[Cd,h,Rf]
def AU{x:X}{y:Y}(h:step x=A (.inr y)):Cd step (f+1) x=A y:=by simp only[Cd,h,Rf]
def Ahw:∀{f:Nat}{x:X}{y:Y},Cd step f x=A y→∀{g:Nat},f≤g→Cd step g x=A y
 |0,_,_,h,_,_=>by simp[Cd]at h
 |f+1,x,y,h,0,hg=>by omega
 |f+1,x,y,h,g+1,hg=>by
  simp only[Cd]at h⊢;cases hs:step x with
  |none=>rw[hs]at h;simp[Rf]at h
  |some z=>
   rw[hs]at h;cases z with
   |inl x'=>exact Ahw (f:=f) (g:=g) h ω
   |inr y'=>exact h
def As{x:X}{y:Y}(h:Cd step f x=A y)(hf:f≤18446744073709551616):Cd step DN x=A y:=Ahw h hf
def Aqj(Q:X→Y→Prop)(m:X→Nat)(hs:∀x y,Q x y→(∃x',step x=A (.inl x')∧Q x' y∧m x'<m x)∨step x=A (.inr y)):∀(n:Nat) (x:X) (y:Y),Q x y→m x≤n→Cd step (n+1) x=A y
 |n,x,y,hq,hm=>by
  rcases hs x y hq with⟨x',h1,h2,h3⟩ | h1
  ·cases n with
   |zero=>omega
   |succ n=>rw[Ca h1];exact Aqj Q m hs n x' y h2 ω
  ·exact AU h1
def Bh7(Q:X→Y→Prop)(m:X→Nat)(hs:∀x y,Q x y→(∃x',step x=A (.inl x')∧Q x' y∧m x'<m x)∨step x=A (.inr y)){x:X}{y:Y}(hq:Q x y)(hm:m x<18446744073709551616):Cd step DN x=A y:=As (Aqj Q m hs (m x) x y hq (y_ _)) hm
def AM{S:Type}(h:Nat→S→S):Nat→Nat→S→S
 |0,_,s=>s
 |m+1,i,s=>AM h m (i+1) (h i s)
def Bc{S:Type}(N:Nat)(g:Nat→S→X)(h:Nat→S→S)(inv:Nat→S→Prop)(y:S→Y)(h1:∀i s,i<N→inv i s→step (g i s)=A (.inl (g (i+1) (h i s)))∧inv (i+1) (h i s))
  (h2:∀s,inv N s→step (g N s)=A (.inr (y s))):∀(m i:Nat) (s:S),i+m=N→inv i s→Cd step (m+1) (g i s)=A (y (AM h m i s))∧inv N (AM h m i s)
 |0,i,s,hi,hs=>by
  have:i=N:=ω
  subst this;exact⟨AU (h2 s hs),hs⟩
 |m+1,i,s,hi,hs=>by obtain⟨q1,q2⟩:=h1 i s ω hs;rw[Ca q1];exact Bc N g h inv y h1 h2 m (i+1) (h i s) ω q2
end
def noB:ByteArray:=⟨#[]⟩
def Wy(d:ByteArray){k:Nat}(h:k≤d.size):(d.extract 0 k).size=k:=by simp;omega
end Go.Ovl
namespace Go.Ovl
open Go Go.Ab
set_option maxRecDepth 100000
variable{c:Bool}
def Sat{α:Type}(o:Option α)(P:α→Prop):Prop:=∃a,o=A a∧P a
section
variable{α β:Type}{P:α→Prop}{Q:β→Prop}
def Sat.ret{a:α}(h:P a):Sat (A a) P:=⟨a,rfl,h⟩
def Sat.bindE{o:Option β}{b:β}{f:β→Option α}(h:o=A b)(h2:Sat (f b) P):Sat (V o f) P:=by subst h;exact h2
def Sat.bindS{o:Option β}{f:β→Option α}(h:Sat o Q)(h2:∀b,Q b→Sat (f b) P):Sat (V o f) P:=by obtain⟨b,h,hq⟩:=h;subst h;exact h2 b hq
def Sat.bic{x y:Option α}(h1:c=C→Sat x P)(h2:c=B→Sat y P):Sat (bif c then x else y) P:=by
 cases c with
 |true=>exact h1 rfl
 |false=>exact h2 rfl
def Sat.bifT{x y:Option α}(h:c=C)(h1:Sat x P):Sat (bif c then x else y) P:=by subst h;exact h1
def Sat.bifF{x y:Option α}(h:c=B)(h1:Sat y P):Sat (bif c then x else y) P:=by subst h;exact h1
def Sat.bindC{x y:Option β}{f:β→Option α}(h1:c=C→Sat (V x f) P)(h2:c=B→Sat (V y f) P):Sat (V (bif c then x else y) f) P:=by
 cases c with
 |true=>exact h1 rfl
 |false=>exact h2 rfl
def Sat.bindCT{x y:Option β}{f:β→Option α}(h:c=C)(h1:Sat (V x f) P):Sat (V (bif c then x else y) f) P:=by subst h;exact h1
def Sat.bindCF{x y:Option β}{f:β→Option α}(h:c=B)(h1:Sat (V y f) P):Sat (V (bif c then x else y) f) P:=by subst h;exact h1
def Sat.bindR{b:β}{f:β→Option α}(h2:Sat (f b) P):Sat (V (A b) f) P:=h2
def Sat.bindA{γ:Type}{o:Option γ}{g:γ→Option β}{f:β→Option α}(h:Sat (V o λx=>V (g x) f) P):Sat (V (V o g) f) P:=by
 cases o with
 |none=>exact h
 |some a=>exact h
def Sat.mono{R:α→Prop}{o:Option α}(h:Sat o P)(h2:∀a,P a→R a):Sat o R:=by obtain⟨a,h,hp⟩:=h;exact⟨a,h,h2 a hp⟩
def Sat.any{o:Option α}(h:Sat o P):Sat o λ_=>True:=h.mono λ_ _=>trivial
def Sat.val{a:α}{o:Option α}(h:o=A a)(hp:P a):Sat o P:=⟨a,h,hp⟩
def Sat.ex{o:Option α}(h:Sat o P):∃a,o=A a∧P a:=h
end
def Sat.iterN{X Y:Type}{step:X→Option (Sum X Y)}(I:Nat→X→Prop)(P:Y→Prop)(hs:∀k x,I k x→Sat (step x) λr=>match r with | .inl x'=>∃k',k=k'+1∧I k' x' | .inr y=>P y):∀(k:Nat) (x:X),I k x→Sat (Cd step (k+1) x) P
 |k,x,hi=>by
  obtain⟨r,h1,h2⟩:=hs k x hi
  match r,h1,h2 with
  | .inr y,h1,h2=>exact⟨y,AU h1,h2⟩
  | .inl x',h1,⟨k',hk,hi'⟩=>subst hk;rw[Ca h1];exact Sat.iterN I P hs k' x' hi'
def Sat.loop{X Y:Type}{step:X→Option (Sum X Y)}(I:Nat→X→Prop){P:Y→Prop}(hs:∀k x,I k x→Sat (step x) λr=>match r with | .inl x'=>∃k',k=k'+1∧I k' x' | .inr y=>P y)(k:Nat){x:X}(hi:I k x)(hk:k<18446744073709551616):Sat (Cd step DN x) P:=by obtain⟨y,h1,h2⟩:=Sat.iterN I P hs k x hi;exact⟨y,As h1 ω,h2⟩
def Aez(n:Int):decide ((0:Int)≤IntKind.u64.wrap n)=C:=by simp only[U,IntKind.signed,IntKind.bits];simp;exact Int.emod_nonneg _ τ
class SatT {α:Type}(o:Option α):Prop where
 out:Sat o λ_=>True
section
variable{α β:Type}{P:α→Prop}
def Sat.bT{x y:Option α}(h1:Sat x P)(h:c=true:=by with_reducible first | exact Eq.refl true | exact Aez _ | assumption):Sat (bif c then x else y) P:=Sat.bifT h h1
def Sat.bF{x y:Option α}(h1:Sat y P)(h:c=false:=by with_reducible first | exact Eq.refl false | assumption):Sat (bif c then x else y) P:=Sat.bifF h h1
def Sat.cT{x y:Option β}{f:β→Option α}(h1:Sat (Option.bind x f) P)(h:c=true:=by with_reducible first | exact Eq.refl true | exact Aez _ | assumption):Sat (Option.bind (bif c then x else y) f) P:=Sat.bindCT h h1
def Sat.cF{x y:Option β}{f:β→Option α}(h1:Sat (Option.bind y f) P)(h:c=false:=by with_reducible first | exact Eq.refl false | assumption):Sat (Option.bind (bif c then x else y) f) P:=Sat.bindCF h h1
def Sat.sT{o:Option β}{f:β→Option α}(h2:∀b,True→Sat (f b) P)(h:Sat o (λ_=>True):=by with_reducible first | assumption | exact SatT.out):Sat (Option.bind o f) P:=Sat.bindS h h2
def Sat.go{o:Option α}(h:Sat o P:=by repeat' with_reducible first | refine Sat.bindR ?_ | refine Sat.bindA ?_ | refine Sat.cT ?_ | refine Sat.cF ?_ | refine Sat.bindC (λ_=>?_) (λ_=>?_) | refine Sat.bT ?_ | refine Sat.bF ?_ | refine Sat.bic (λ_=>?_) (λ_=>?_) | refine Sat.sT λ_ _=>?_ | exact Sat.ret trivial):Sat o P:=h
end
end Go.Ovl
namespace Go.Ovl
open Go Go.Ab
variable{i:Nat}{f:Int}
def bv(f:Int):BitVec 32:=aA 32 f
def vb(b:BitVec 32):Int:=(b.toNat:Int)
def Ln(b:BitVec 32):0≤vb b∧vb b<4294967296:=by
 have:=b.isLt
 unfold vb;omega
def Ar2(b:BitVec 32):bv (vb b)=b:=by
 apply aE
 have:=b.isLt
 simp only[bv,vb,a0_];omega
def Au3(h:0≤f∧f<4294967296):vb (bv f)=f:=by simp only[bv,vb,a0_];omega
def ST(b:BitVec 32):O.wrap ((b.toNat:Nat):Int)=vb b:=by
 have:=b.isLt
 simp only[U,IntKind.signed,IntKind.bits,vb];simp;omega
def Akz:IntKind.bits .u32=32:=rfl
def Bhc(f:Int):bv (U O f)=bv f:=by apply aE;simp only[bv,a0_,U,IntKind.signed,IntKind.bits];simp
def Ak1(i:Nat):bv (U O (1*2^min i (IntKind.bits .u32)))=if i<32 then BitVec.twoPow 32 i else 0#32:=by
 rw[Bhc,Int.one_mul];apply aE;simp only[bv,a0_,Akz];by_cases h:i<32
 ·rw[if_pos h,d6_ ω,BitVec.toNat_twoPow]
  have:((2:Int)^i)=((2^i:Nat):Int):=by simp
  rw[this]
  norm_cast
 ·rw[if_neg h,Nat.min_eq_right ω];rfl
def CW(f:Int)(i:Nat):Bool:=(bv f).getLsbD i
def Bbd(h:0≤f∧f<4294967296)(hi:i<32):
  (U O ((aB (aA (IntKind.bits .u32) (Int.fdiv f (2^min i (IntKind.bits .u32)))&&&aA (IntKind.bits .u32) 1):Nat):Int)==1)=CW f i:=by
 have e:Int.fdiv f (2^min i (IntKind.bits .u32))=((f.toNat/2^i:Nat):Int):=by
  rw[Akz,d6_ ω,X_ _ (by exact Int.le_of_lt (Int.pow_pos ω))]
  have:f=((f.toNat:Nat):Int):=ω
  rw[this];simp
 rw[e];show(U O (((bv ((f.toNat/2^i:Nat):Int)&&&bv 1).toNat:Nat):Int)==1)=_;rw[ST];have hb:(bv ((f.toNat/2^i:Nat):Int)&&&bv 1)=if CW f i then 1#32 else 0#32:=by
  apply aD;intro j hj;have h1:(bv ((f.toNat/2^i:Nat):Int)).getLsbD j=(f.toNat/2^i).testBit j:=by
   simp only[bv,BitVec.getLsbD,a0_]
   have:(((f.toNat/2^i:Nat):Int)%((2^32:Nat):Int)).toNat=(f.toNat/2^i)%2^32:=by norm_cast
   rw[this,Nat.testBit_mod_two_pow];simp[hj]
  have h2:CW f i=f.toNat.testBit i:=by
   simp only[CW,bv,BitVec.getLsbD,a0_]
   have:(f%((2^32:Nat):Int)).toNat=f.toNat:=by simp;omega
   rw[this]
  have h3:(bv 1).getLsbD j=decide (j=0):=by
   have:bv 1=1#32:=rfl
   rw[this];simp[BitVec.getLsbD_one]
  rw[f7_,h1,h3,h2];by_cases hj0:j=0
  ·subst hj0;rw[Nat.testBit_div_two_pow];simp only[o_,decide_true,e3_];cases f.toNat.testBit i<;>simp
  ·simp only[hj0,decide_false,c8_];cases f.toNat.testBit i<;>simp[BitVec.getLsbD_one,hj0]
 rw[hb];cases CW f i<;>rfl
def Xn(f:Int)(i:Nat)(on:Bool):Int:=vb (if on then bv f|||BitVec.twoPow 32 i else bv f&&& ~~~ BitVec.twoPow 32 i)
def Aui(f:Int)(i:Nat)(on:Bool):0≤Xn f i on∧Xn f i on<4294967296:=Ln _
def Afb{g:Int}(hf:0≤f∧f<4294967296)(hg:0≤g∧g<4294967296)(h:∀i,i<32→CW f i=CW g i):f=g:=by rw[← Au3 hf,← Au3 hg];congr 1;apply aD;intro i hi;exact h i hi
def Bpz(f:Int)(hi:i<32):O.wrap ((aB (aA (IntKind.bits .u32) f|||BitVec.ofInt (IntKind.bits .u32) (U O (1*2^min i (IntKind.bits .u32)))):Nat):Int)=Xn f i C:=by show O.wrap (((bv f|||bv (U O (1*2^min i (IntKind.bits .u32)))).toNat:Nat):Int)=_;rw[ST,Ak1,if_pos hi];rfl
def Axv(f:Int)(hi:i<32):O.wrap ((aB (aA (IntKind.bits .u32) f&&& ~~~ aA (IntKind.bits .u32) (U O (1*2^min i (IntKind.bits .u32)))):Nat):Int)=Xn f i B:=by show O.wrap (((bv f&&& ~~~ bv (U O (1*2^min i (IntKind.bits .u32)))).toNat:Nat):Int)=_;rw[ST,Ak1,if_pos hi];rfl
def Az9(f:Int)(i:Nat):Xn (Xn f i B) i C=Xn f i C:=by unfold Xn;simp only[g9_,f3_,g5_,Ar2];congr 1;apply aD;intro j hj;simp only[BitVec.getLsbD_or,f7_,BitVec.getLsbD_not];cases(bv f).getLsbD j<;>cases(BitVec.twoPow 32 i).getLsbD j<;>simp[hj]
end Go.Ovl
namespace Go.Ovl
open Go Go.Ab
def Au4(x y:Int):O.wrap (stk x y (aB (aA (IntKind.bits .u32) x|||BitVec.ofInt (IntKind.bits .u32) y)))=vb (bv x|||bv y):=by rw[LC];exact ST _
def ZK(x y:Int):O.wrap (stk x y (aB (aA (IntKind.bits .u32) x&&&aA (IntKind.bits .u32) y)))=vb (bv x&&&bv y):=by rw[LC];exact ST _
def OF(x y:Int):O.wrap (stk x y (aB (aA (IntKind.bits .u32) x&&& ~~~ aA (IntKind.bits .u32) y)))=vb (bv x&&& ~~~ bv y):=by rw[LC];exact ST _
def Ti(b:BitVec 32)(i:Nat):CW (vb b) i=b.getLsbD i:=by unfold CW;rw[Ar2]
def Apt{k:Nat}(h:k<32)(i:Nat):CW (U O (1*2^min k (IntKind.bits .u32))) i=decide (i=k):=by
 unfold CW;rw[Ak1,if_pos h,BitVec.getLsbD_twoPow];by_cases e:i=k
 ·subst e;simp[h]
 ·simp[e,e8_ e]
structure Bldg where
 C0:Int
 F0:Int
 H0:Int
 M0:Int
 K0:Nat
 L0:Nat
 N0:Nat
 B0:List Car
def Cu{α:Type}{l:List α}{i:Nat}(d:α)(h:i<l.length):l.drop i=l.getD i d::l.drop (i+1):=by rw[h5_ h];simp[h]
def inR(E hi n:Int):Bool:=decide (E≤n)&&decide (n≤hi)
def Ao{E hi n:Int}:inR E hi n=C↔E≤n∧n≤hi:=by simp[inR]
def Cf(E hi:Int){l:List Int}(hl:l.length≤maxLen):BO E hi l=A ((l.all (inR E hi),()),()):=by
 have hm:maxLen≤9223372036854775807:=by decide
 have key:∀(m i:Nat),i+m=l.length→Cd (λx=>BY x.1.1 x.1.2.1 x.1.2.2.1 x.1.2.2.2.1 x.1.2.2.2.2.1) (m+1) ((E,hi,l,(l.length:Int),(i:Int),()),())=A (if(l.drop i).all (inR E hi)then .inl ((),())else .inr ((B,()),())):=by
  intro m;induction m with
  |zero=>
   intro i hi';refine AU ?_;show BY E hi l (l.length:Int) (i:Int)=_;unfold BY;have e:decide ((i:Int)<(l.length:Int))=B:=by simp;omega
   rw[e,show i=l.length by omega];simp
  |succ m ih=>
   intro i hi';have e:decide ((i:Int)<(l.length:Int))=C:=by simp;omega
   have ib:inB (i:Int) l.length=C:=Ac ω ω;have tn:Int.toNat (i:Int)=i:=ω;have w:J.wrap ((i:Int)+1)=((i+1:Nat):Int):=by rw[Aa ω ω];omega
   rw[Cu (0:Int) (ω:i<l.length)];by_cases h1:l.getD i 0<E
   ·refine(AU (y:=.inr ((B,()),())) ?_).trans ?_
    ·show BY E hi l (l.length:Int) (i:Int)=_;unfold BY;have d1:decide (l.getD i 0<E)=C:=by simpa using h1
     simp only[e,ib,tn,d1,d_]
    ·have:inR E hi (l.getD i 0)=B:=by rw[inR,show decide (E≤l.getD i 0)=B from f_ ω,b0_]
     rw[a3_,this];rfl
   ·have d1:decide (l.getD i 0<E)=B:=by simpa using h1
    by_cases h2:hi<l.getD i 0
    ·refine(AU (y:=.inr ((B,()),())) ?_).trans ?_
     ·show BY E hi l (l.length:Int) (i:Int)=_;unfold BY;have d2:decide (hi<l.getD i 0)=C:=by simpa using h2
      simp only[e,ib,tn,d1,d2,d_,c_]
     ·have:inR E hi (l.getD i 0)=B:=by rw[inR,show decide (l.getD i 0≤hi)=B from f_ ω,c8_]
      rw[a3_,this];rfl
    ·have d2:decide (hi<l.getD i 0)=B:=by simpa using h2
     refine(Ca (x':=((E,hi,l,(l.length:Int),((i+1:Nat):Int),()),())) ?_).trans ?_
     ·show BY E hi l (l.length:Int) (i:Int)=_;unfold BY;simp only[e,ib,tn,d1,d2,w,d_,c_]
     ·have:inR E hi (l.getD i 0)=C:=Ao.2 ⟨ω,ω⟩
      rw[ih (i+1) ω,a3_,this];rfl
 unfold BO;have h0:Iw ((E,hi,l,(l.length:Int),(0:Int),()),())=_:=As (key l.length 0 ω) ω;rw[h0];rw[S_];cases l.all (inR E hi)<;>rfl
def LE(n E hi:Int):Hr n E hi=A ((inR E hi n,()),()):=by unfold Hr inR;cases h:decide (E≤n)<;>simp
def Cl(fl:Int)(c:Car):Bool:=[c.K1,c.L3,c.Q3,c.T3,c.Q2,c.N2,c.U3].all (inR 1 10000)&&(inR 0 10000 c.J2&&(decide (c.N2≤c.U3)&&inR 0 (U J (fl-1)) c.B4))
def XH(fl:Int)(c:Car):KO c.K1 c.L3 c.Q3 c.J2 c.T3 c.Q2 c.N2 c.U3 c.B4 fl=A ((Cl fl c,()),()):=by
 have hm:7≤maxLen:=by decide
 unfold KO Cl;rw[Cf 1 10000 (l:=[c.K1,c.L3,c.Q3,c.T3,c.Q2,c.N2,c.U3]) (by simpa using hm)];generalize [c.K1,c.L3,c.Q3,c.T3,c.Q2,c.N2,c.U3].all (inR 1 10000)=a;rw[Cf 0 10000 (l:=[c.J2]) (by simp;omega),Cf 0 _ (l:=[c.B4]) (by simp;omega)];simp only[a_,a3_,aC,e3_];cases a
 ·rfl
 ·cases inR 0 10000 c.J2
  ·rfl
  ·by_cases h:c.N2≤c.U3
   ·have:decide (c.N2≤c.U3)=C:=by simpa using h
    simp only[this,d_,a_,z_]
   ·have:decide (c.N2≤c.U3)=B:=by simpa using h
    simp only[this,d_,c_,a_,z_,b0_]
def Bldg.tup(b:Bldg):Int×Int×Int×Int×Nat×Nat×Nat×List Car×Unit:=(b.C0,b.F0,b.H0,b.M0,b.K0,b.L0,b.N0,b.B0,())
def Car.tup(c:Car):Int×Int×Int×Int×Int×Int×Int×Int×Int×Unit:=(c.K1,c.L3,c.Q3,c.J2,c.T3,c.Q2,c.N2,c.U3,c.B4,())
def Agp(b:Bldg)(c:Car){L:List Int}(hL:L.length=8) :
  Od (((),(),L,(0:Int),()),(b.tup,c.tup,()))=A (if(L.take 7).all (inR 1 10000)then .inl (((),(),()),(b.tup,c.tup,()))else .inr ((B,()),())):=by
 have key:∀(m i:Nat),i+m=7→Cd (λx=>letI a:=x.2.2.1.2.2;letI d:=x.2.1.2.2;letI f:=a.2.2;letI g:=d.2.2;FT x.1.2.2.1 x.1.2.2.2.1 x.2.1.1 x.2.1.2.1 d.1 d.2.1 g.1 g.2.1 g.2.2.1 g.2.2.2.1 x.2.2.1.1 x.2.2.1.2.1 a.1 a.2.1 f.1 f.2.1 f.2.2.1 f.2.2.2.1 f.2.2.2.2.1) (m+1) (((),(),L,(i:Int),()),(b.tup,c.tup,()))=A (if((L.take 7).drop i).all (inR 1 10000)then .inl (((),(),()),(b.tup,c.tup,()))else .inr ((B,()),())):=by
  intro m;induction m with
  |zero=>
   intro i hi';refine AU ?_;show FT L (i:Int) b.C0 b.F0 b.H0 b.M0 b.K0 b.L0 b.N0 b.B0 c.K1 c.L3 c.Q3 c.J2 c.T3 c.Q2 c.N2 c.U3 c.B4=_;unfold FT;have e:decide ((i:Int)<7)=B:=by simp;omega
   have hd:(L.take 7).drop i=[]:=List.drop_eq_nil_of_le (by simp;omega);rw[e,hd];rfl
  |succ m ih=>
   intro i hi';have e:decide ((i:Int)<7)=C:=by simp;omega
   have ib:inB (i:Int) L.length=C:=Ac ω ω;have tn:Int.toNat (i:Int)=i:=ω;have w:J.wrap ((i:Int)+1)=((i+1:Nat):Int):=by rw[Aa ω ω];omega
   have hg:(L.take 7).getD i 0=L.getD i 0:=by simp only[k_,List.getElem?_take];rw[if_pos ω]
   rw[Cu (0:Int) (show i<(L.take 7).length by simp;omega),hg,a3_];cases hr:inR 1 10000 (L.getD i 0)with
   |false=>refine(AU (y:=.inr ((B,()),())) ?_).trans rfl;show FT L (i:Int) b.C0 b.F0 b.H0 b.M0 b.K0 b.L0 b.N0 b.B0 c.K1 c.L3 c.Q3 c.J2 c.T3 c.Q2 c.N2 c.U3 c.B4=_;unfold FT;simp only[e,ib,tn,LE,hr,d_,a_,d4_]
   |true=>
    refine(Ca (x':=(((),(),L,((i+1:Nat):Int),()),(b.tup,c.tup,()))) ?_).trans ?_
    ·show FT L (i:Int) b.C0 b.F0 b.H0 b.M0 b.K0 b.L0 b.N0 b.B0 c.K1 c.L3 c.Q3 c.J2 c.T3 c.Q2 c.N2 c.U3 c.B4=_;unfold FT;simp only[e,ib,tn,w,LE,hr,d_,c_,a_,q_];rfl
    ·rw[ih (i+1) ω,z_]
 have h0:=key 7 0 rfl;rw[S_]at h0;exact As h0 ω
def Ae3(b:Bldg)(c:Car):QC b.C0 b.F0 b.H0 b.M0 b.K0 b.L0 b.N0 b.B0 c.K1 c.L3 c.Q3 c.J2 c.T3 c.Q2 c.N2 c.U3 c.B4=A ((Cl b.C0 c,()),()):=by
 unfold QC Cl;by_cases h1:c.J2<0
 ·have d1:decide (c.J2<0)=C:=by simpa using h1
  have d2:inR 0 10000 c.J2=B:=by rw[inR,show decide (0≤c.J2)=B from f_ ω,b0_]
  rw[d1,d_,d2,b0_,c8_]
 ·have d1:decide (c.J2<0)=B:=by simpa using h1
  rw[d1,c_];by_cases h2:10000<c.J2
  ·have d1:decide (10000<c.J2)=C:=by simpa using h2
   have d2:inR 0 10000 c.J2=B:=by rw[inR,show decide (c.J2≤10000)=B from f_ ω,c8_]
   rw[d1,d_,d2,b0_,c8_]
  ·have d1:decide (10000<c.J2)=B:=by simpa using h2
   have d2:inR 0 10000 c.J2=C:=Ao.2 ⟨ω,ω⟩;rw[d1,c_,d2,z_];have hl:=Agp b c (L:=[c.K1,c.L3,c.Q3,c.T3,c.Q2,c.N2,c.U3,J.wrap (c.J2+1)]) rfl;rw[show([c.K1,c.L3,c.Q3,c.T3,c.Q2,c.N2,c.U3,J.wrap (c.J2+1)].take 7)=[c.K1,c.L3,c.Q3,c.T3,c.Q2,c.N2,c.U3]from rfl]at hl;simp only[Bldg.tup,Car.tup]at hl;rw[hl];cases [c.K1,c.L3,c.Q3,c.T3,c.Q2,c.N2,c.U3].all (inR 1 10000)with
   |false=>rfl
   |true=>
    simp only[g9_,a_,z_,LE];by_cases h:c.N2≤c.U3
    ·have:decide (c.N2≤c.U3)=C:=by simpa using h
     simp only[this,d_,a_,z_]
    ·have:decide (c.N2≤c.U3)=B:=by simpa using h
     simp only[this,c_,a_,b0_]
def Bldg.loadsOK(b:Bldg):Bool:=((Go.FloatKind.format Go.FloatKind.f64).order 0 b.K0==A Ordering.lt)&&(((Go.FloatKind.format Go.FloatKind.f64).order b.K0 b.L0==A Ordering.lt)&&(((Go.FloatKind.format Go.FloatKind.f64).order b.L0 b.N0==A Ordering.lt)&&((Go.FloatKind.format Go.FloatKind.f64).order b.N0 9218868437227405311==A Ordering.lt||(Go.FloatKind.format Go.FloatKind.f64).order b.N0 9218868437227405311==A Ordering.eq)))
def Bldg.code(b:Bldg):Int:=
 bif !inR 2 32 b.C0 then 10 else bif !inR 1 8 (b.B0.length:Int)then 11 else
 bif !(inR 1 16 b.F0&&inR 1 10000 b.M0&&b.B0.all (Cl b.C0))then 12 else bif !b.loadsOK then 13 else
 bif !inR (18*(b.B0.length:Int)+24) 65536 b.H0 then 14 else 0
def ES:Car:=⟨0,0,0,0,0,0,0,0,0⟩
def XI(b:Bldg)(hl:b.B0.length≤8)(g:Bool) :
  Jg (((),g,b.B0,(b.B0.length:Int),(0:Int),()),(b.tup,()))=A (((),g&&b.B0.all (Cl b.C0),()),(b.tup,())):=by
 have key:∀(m i:Nat) (g:Bool),i+m=b.B0.length→Cd (λx=>letI a:=x.2.1.2.2;letI c:=a.2.2;Fa x.1.2.1 x.1.2.2.1 x.1.2.2.2.1 x.1.2.2.2.2.1 x.2.1.1 x.2.1.2.1 a.1 a.2.1 c.1 c.2.1 c.2.2.1 c.2.2.2.1) (m+1) (((),g,b.B0,(b.B0.length:Int),(i:Int),()),(b.tup,()))=A (((),g&&(b.B0.drop i).all (Cl b.C0),()),(b.tup,())):=by
  intro m;induction m with
  |zero=>
   intro i g hi';refine AU ?_;show Fa g b.B0 (b.B0.length:Int) (i:Int) b.C0 b.F0 b.H0 b.M0 b.K0 b.L0 b.N0 b.B0=_;unfold Fa;have e:decide ((i:Int)<(b.B0.length:Int))=B:=by simp;omega
   rw[e,show i=b.B0.length by omega,b9_];simp only[c_,aC,e3_,Bldg.tup]
  |succ m ih=>
   intro i g hi';have e:decide ((i:Int)<(b.B0.length:Int))=C:=by simp;omega
   have ib:inB (i:Int) b.B0.length=C:=Ac ω ω;have tn:Int.toNat (i:Int)=i:=ω;have w:J.wrap ((i:Int)+1)=((i+1:Nat):Int):=by rw[Aa ω ω];omega
   rw[Cu ES (ω:i<b.B0.length),a3_];refine(Ca (x':=(((),g&&Cl b.C0 (b.B0.getD i ES),b.B0,(b.B0.length:Int),((i+1:Nat):Int),()),(b.tup,()))) ?_).trans ?_
   ·show Fa g b.B0 (b.B0.length:Int) (i:Int) b.C0 b.F0 b.H0 b.M0 b.K0 b.L0 b.N0 b.B0=_;unfold Fa;simp only[e,ib,tn,d_];rw[XH b.C0 (b.B0.getD i ⟨0,0,0,0,0,0,0,0,0⟩)];cases g
    ·simp only[c_,a_,b0_,w];rfl
    ·simp only[d_,a_,z_,w];rfl
   ·rw[ih (i+1) _ ω,Bool.and_assoc]
 have h0:=key b.B0.length 0 g ω;rw[S_]at h0;exact As h0 ω
def Ago(b:Bldg)(hl:b.B0.length≤8)(g:Bool) :
  Oc (((),g,(0:Int),()),(b.tup,()))=A (((),g&&b.B0.all (Cl b.C0),()),(b.tup,())):=by
 have key:∀(m i:Nat) (g:Bool),i+m=b.B0.length→Cd (λx=>letI a:=x.2.1.2.2;letI c:=a.2.2;IM x.1.2.1 x.1.2.2.1 x.2.1.1 x.2.1.2.1 a.1 a.2.1 c.1 c.2.1 c.2.2.1 c.2.2.2.1) (m+1) (((),g,(i:Int),()),(b.tup,()))=A (((),g&&(b.B0.drop i).all (Cl b.C0),()),(b.tup,())):=by
  intro m;induction m with
  |zero=>
   intro i g hi';refine AU ?_;show IM g (i:Int) b.C0 b.F0 b.H0 b.M0 b.K0 b.L0 b.N0 b.B0=_;unfold IM;have e:decide ((i:Int)<(b.B0.length:Int))=B:=by simp;omega
   rw[e,show i=b.B0.length by omega,b9_];simp only[c_,aC,e3_,Bldg.tup]
  |succ m ih=>
   intro i g hi';have e:decide ((i:Int)<(b.B0.length:Int))=C:=by simp;omega
   have ib:inB (i:Int) b.B0.length=C:=Ac ω ω;have tn:Int.toNat (i:Int)=i:=ω;have w:J.wrap ((i:Int)+1)=((i+1:Nat):Int):=by rw[Aa ω ω];omega
   rw[Cu ES (ω:i<b.B0.length),a3_];refine(Ca (x':=(((),g&&Cl b.C0 (b.B0.getD i ES),((i+1:Nat):Int),()),(b.tup,()))) ?_).trans ?_
   ·show IM g (i:Int) b.C0 b.F0 b.H0 b.M0 b.K0 b.L0 b.N0 b.B0=_;unfold IM;simp only[e,ib,tn,d_];rw[Ae3 b (b.B0.getD i ⟨0,0,0,0,0,0,0,0,0⟩)];cases g
    ·simp only[c_,a_,b0_,w];rfl
    ·simp only[d_,a_,z_,w];rfl
   ·rw[ih (i+1) _ ω,Bool.and_assoc]
 have h0:=key b.B0.length 0 g ω;rw[S_]at h0;exact As h0 ω
def XG(b:Bldg):KN b.C0 b.F0 b.H0 b.M0 b.K0 b.L0 b.N0 b.B0=A ((b.loadsOK,()),()):=by
 unfold KN Bldg.loadsOK;cases(Go.FloatKind.format Go.FloatKind.f64).order 0 b.K0==A Ordering.lt
 ·rfl
 cases(Go.FloatKind.format Go.FloatKind.f64).order b.K0 b.L0==A Ordering.lt
 ·rfl
 cases(Go.FloatKind.format Go.FloatKind.f64).order b.L0 b.N0==A Ordering.lt
 ·rfl
 rfl
def AR(b:Bldg):AJ b.C0 b.F0 b.H0 b.M0 b.K0 b.L0 b.N0 b.B0=A ((b.code,()),()):=by
 have hm:8≤maxLen:=by decide
 unfold AJ Bldg.code;rw[Cf 2 32 (l:=[b.C0]) (by simp;omega),Cf 1 8 (l:=[(b.B0.length:Int)]) (by simp;omega),Cf 1 16 (l:=[b.F0]) (by simp;omega),Cf 1 10000 (l:=[b.M0]) (by simp;omega)];simp only[a_,a3_,aC,e3_];cases inR 2 32 b.C0
 ·rfl
 cases hc:inR 1 8 (b.B0.length:Int)
 ·rfl
 have hlen:b.B0.length≤8:=by have:=(Ao.1 hc).2;omega
 have hg:(bif inR 1 16 b.F0 then A (((),inR 1 10000 b.M0,()),(b.tup,()))else A (((),B,()),(b.tup,())))=A (((),inR 1 16 b.F0&&inR 1 10000 b.M0,()),(b.tup,())):=by cases inR 1 16 b.F0<;>rfl
 simp only[Bldg.tup]at hg;simp only[q_,c_,hg,a_];have hl:=XI b hlen (inR 1 16 b.F0&&inR 1 10000 b.M0);simp only[Bldg.tup]at hl;rw[hl,a_];cases inR 1 16 b.F0&&inR 1 10000 b.M0&&b.B0.all (Cl b.C0)
 ·rfl
 simp only[q_,c_];rw[XG b,a_];cases b.loadsOK
 ·rfl
 simp only[q_,c_];rw[show J.wrap (U J (18*(b.B0.length:Int))+24)=18*(b.B0.length:Int)+24 by rw[Aa (n:=18*(b.B0.length:Int)) ω ω,Aa ω ω],
  Cf _ 65536 (l:=[b.H0]) (by simp;omega)]
 simp only[a_,a3_,aC,e3_];cases inR (18*(b.B0.length:Int)+24) 65536 b.H0<;>rfl
def Na(b:Bldg):JB b.C0 b.F0 b.H0 b.M0 b.K0 b.L0 b.N0 b.B0=A ((b.code,()),()):=by
 unfold JB Bldg.code;simp only[LE,a_];cases inR 2 32 b.C0
 ·rfl
 cases hc:inR 1 8 (b.B0.length:Int)
 ·rfl
 have hlen:b.B0.length≤8:=by have:=(Ao.1 hc).2;omega
 have hg:(bif inR 1 16 b.F0 then A (((),inR 1 10000 b.M0,()),(b.tup,()))else A (((),B,()),(b.tup,())))=A (((),inR 1 16 b.F0&&inR 1 10000 b.M0,()),(b.tup,())):=by cases inR 1 16 b.F0<;>rfl
 simp only[Bldg.tup]at hg;simp only[q_,c_,hg,a_];have hl:=Ago b hlen (inR 1 16 b.F0&&inR 1 10000 b.M0);simp only[Bldg.tup]at hl;rw[hl,a_];cases inR 1 16 b.F0&&inR 1 10000 b.M0&&b.B0.all (Cl b.C0)
 ·rfl
 simp only[q_,c_];unfold Bldg.loadsOK;cases(Go.FloatKind.format Go.FloatKind.f64).order 0 b.K0==A Ordering.lt
 ·rfl
 cases(Go.FloatKind.format Go.FloatKind.f64).order b.K0 b.L0==A Ordering.lt
 ·rfl
 cases(Go.FloatKind.format Go.FloatKind.f64).order b.L0 b.N0==A Ordering.lt
 ·rfl
 simp only[d_,z_];cases((Go.FloatKind.format Go.FloatKind.f64).order b.N0 9218868437227405311==A Ordering.lt||(Go.FloatKind.format Go.FloatKind.f64).order b.N0 9218868437227405311==A Ordering.eq)
 ·rfl
 simp only[q_,c_];rw[show J.wrap (U J (18*(b.B0.length:Int))+24)=18*(b.B0.length:Int)+24 by rw[Aa (n:=18*(b.B0.length:Int)) ω ω,Aa ω ω]];cases inR (18*(b.B0.length:Int)+24) 65536 b.H0<;>rfl
def FW(fl i:Nat):Car:=⟨100,2,6,5,4,2,3,10,((i%fl:Nat):Int)⟩
def AI(fl ca:Nat):Bldg:=⟨fl,1,4000,30,4591870180066957722,4605380978949069210,4607632778762754458,(List.range ca).map (FW fl)⟩
def Bldg.none:Bldg:=⟨0,0,0,0,0,0,0,[]⟩
def Acn{fl ca:Nat}(h1:1≤fl)(h2:ca≤8):OV fl ca=A (((),()),((AI fl ca).tup,())):=by
 have key:∀(m i:Nat),i+m=ca→Cd (λx=>letI a:=x.2.2.1.2.2;letI b:=x.2.1.2.2;letI d:=b.2.2;letI f:=a.2.2;HX x.1.1 x.1.2.1 x.1.2.2.2.2.1 x.2.1.1 x.2.1.2.1 b.1 b.2.1 d.1 d.2.1 d.2.2.1 d.2.2.2.1 x.2.2.1.1 x.2.2.1.2.1 a.1 a.2.1 f.1 f.2.1 f.2.2.1 f.2.2.2.1) (m+1) (((fl:Int),(ca:Int),(),(),(i:Int),()),(Bldg.none.tup,(AI fl i).tup,()))=A (((),(),()),(Bldg.none.tup,(AI fl ca).tup,())):=by
  intro m;induction m with
  |zero=>
   intro i hi';refine AU ?_;show HX (fl:Int) (ca:Int) (i:Int) Bldg.none.C0 Bldg.none.F0 Bldg.none.H0 Bldg.none.M0 Bldg.none.K0 Bldg.none.L0 Bldg.none.N0 Bldg.none.B0 (AI fl i).C0 (AI fl i).F0 (AI fl i).H0 (AI fl i).M0 (AI fl i).K0 (AI fl i).L0 (AI fl i).N0 (AI fl i).B0=_;unfold HX;have e:decide ((i:Int)<(ca:Int))=B:=by simp;omega
   rw[e,show i=ca by omega];rfl
  |succ m ih=>
   intro i hi';refine(Ca (x':=(((fl:Int),(ca:Int),(),(),((i+1:Nat):Int),()),(Bldg.none.tup,(AI fl (i+1)).tup,()))) ?_).trans (ih (i+1) ω);show HX (fl:Int) (ca:Int) (i:Int) Bldg.none.C0 Bldg.none.F0 Bldg.none.H0 Bldg.none.M0 Bldg.none.K0 Bldg.none.L0 Bldg.none.N0 Bldg.none.B0 (AI fl i).C0 (AI fl i).F0 (AI fl i).H0 (AI fl i).M0 (AI fl i).K0 (AI fl i).L0 (AI fl i).N0 (AI fl i).B0=_;unfold HX;have e:decide ((i:Int)<(ca:Int))=C:=by simp;omega
   have w:J.wrap ((i:Int)+1)=((i+1:Nat):Int):=by rw[Aa ω ω];omega
   have hz:((fl:Int) !=0)=C:=by simp;omega
   have hc:∀c:Car,Nat.ble ((AI fl i).B0.length+[c].length) 2147483648=C:=λc=>AD (by simp[AI];omega);have ht:Int.tmod (i:Int) (fl:Int)=((i%fl:Nat):Int):=by rw[f6_ ω];norm_cast
   simp only[e,hz,hc,w,ht,d_];have hs:(AI fl (i+1)).B0=(AI fl i).B0++[FW fl i]:=by simp[AI,List.range_succ]
   simp only[Bldg.tup,hs];rfl
 unfold OV;have h0:Kg (((fl:Int),(ca:Int),(),(),(0:Int),()),(Bldg.none.tup,(AI fl 0).tup,()))=_:=As (key ca 0 ω) ω;rw[show Kg (((fl:Int),(ca:Int),(),(),(0:Int),()),(((0:Int),(0:Int),(0:Int),(0:Int),0,0,0,([]:List Car),()),((fl:Int),(1:Int),(4000:Int),(30:Int),4591870180066957722,4605380978949069210,4607632778762754458,([]:List Car),()),()))=_ from h0];rfl
def Lc(fl ca:Nat)(room:Int):Bldg:={ AI fl ca with H0:=18*(ca:Int)+24+room }
def Aru{fl ca:Nat}(h1:2≤fl)(h2:fl≤8)(h3:1≤ca)(h4:ca≤3){room:Int}(hr:0≤room∧room<256):(Lc fl ca room).code=0:=by
 have hl:(Lc fl ca room).B0.length=ca:=by simp[Lc,AI]
 unfold Bldg.code;have e1:inR 2 32 (Lc fl ca room).C0=C:=Ao.2 (by simp only[Lc,AI];omega);have e2:inR 1 8 ((Lc fl ca room).B0.length:Int)=C:=Ao.2 ω;have e3:inR 1 16 (Lc fl ca room).F0=C:=rfl;have e4:inR 1 10000 (Lc fl ca room).M0=C:=rfl;have e5:(Lc fl ca room).B0.all (Cl (Lc fl ca room).C0)=C:=by
  rw[I_];intro c hc;obtain⟨i,_,rfl⟩:=b6_.1 hc;have hm:i%fl<fl:=g1_ _ ω
  have:inR 0 (U J ((fl:Int)-1)) ((i%fl:Nat):Int)=C:=by rw[Aa ω ω];exact Ao.2 ω
  show Cl (fl:Int) (FW fl i)=C;unfold Cl FW;simp only[this];rfl
 have e6:(Lc fl ca room).loadsOK=C:=by
  show(AI 2 1).loadsOK=C
  kernel_rfl
 have e7:inR (18*((Lc fl ca room).B0.length:Int)+24) 65536 (Lc fl ca room).H0=C:=Ao.2 (by rw[hl];simp only[Lc];omega);rw[e1,e2,e3,e4,e5,e6,e7];rfl
variable{α:Type}{b:Bldg}{i:Nat}{l:List α}
structure Bldg.small(b:Bldg):Prop where
 lo:2≤b.C0
 hi:b.C0≤8
def u8r(n:Int):Prop:=0≤n∧n<256
def Bqf:u8r 0:=⟨τ,τ⟩
def BN(d:α)(hi:i<l.length):l.getD i d∈l:=by simp only[k_,i_ hi,Option.getD_some];exact b1_ hi
def Al1{P:α→Prop}(h:∀e∈l,P e){d:α}(hi:i<l.length):P (l.getD i d):=h _ (BN d hi)
def Aj(h:b.code=0):1≤b.B0.length∧b.B0.length≤8:=by
 unfold Bldg.code at h;cases h1:inR 1 8 (b.B0.length:Int)with
 |true=>have:=Ao.1 h1;omega
 |false=>rw[h1]at h;cases h2:inR 2 32 b.C0<;>rw[h2]at h<;>simp at h
def Yg(h:b.code=0):18*(b.B0.length:Int)+24≤b.H0∧b.H0≤65536:=by
 unfold Bldg.code at h;cases h1:inR (18*(b.B0.length:Int)+24) 65536 b.H0 with
 |true=>exact Ao.1 h1
 |false=>rw[h1]at h;simp only[d4_,d_]at h;revert h;cases inR 2 32 b.C0<;>cases inR 1 8 (b.B0.length:Int)<;>cases inR 1 16 b.F0<;>cases inR 1 10000 b.M0<;>cases b.B0.all (Cl b.C0)<;>cases b.loadsOK<;>(intro h;simp at h)
end Go.Ovl
namespace Go.Ovl
open Go Go.Ab
variable{b:Bldg}{l:List H}{i:Nat}{α:Type}
def Qq{n:Nat}(h:i<n):decide ((i:Int)<(n:Int))=C:=b_ ω
def Ju{n:Nat}(h:i<n):inB (i:Int) n=C:=Ac ω ω
def Np(n:Nat):decide ((n:Int)<(n:Int))=B:=f_ (Q_ _)
def Ae{β:Type}{o:Option α}{a:α}{f:α→Option β}{r:Option β}(h:o=A a)(h2:f a=r):V o f=r:=by subst h;exact h2
def Bhm{l:List α}(d:α)(hi:i<l.length):l.drop i=l.getD i d::l.drop (i+1):=by rw[h5_ hi,k_,i_ hi];rfl
def Ame{X Y:Type}{step:X→Option (Sum X Y)}(N:Nat)(g:Nat→X)(y:Y)(h1:∀i,i<N→step (g i)=A (.inl (g (i+1))))(h2:step (g N)=A (.inr y)):∀m i:Nat,i+m=N→Cd step (m+1) (g i)=A y
 |0,i,hi=>by obtain rfl:i=N:=ω;exact AU h2
 |m+1,i,hi=>(Ca (h1 i ω)).trans (Ame N g y h1 h2 m (i+1) ω)
def Ahv{X Y α:Type}{step:X→Option (Sum X Y)}(l:List α)(d:α)(p:α→Bool)(g:Nat→X)(y:Y)(z:α→Y)
  (h1:∀i,i<l.length→step (g i)=A (bif p (l.getD i d)then .inl (g (i+1))else .inr (z (l.getD i d)))) (h2:step (g l.length)=A (.inr y)) :
  ∀m i:Nat,i+m=l.length→Cd step (m+1) (g i)=A (match(l.drop i).find? (λx=>!p x)with | none=>y | some x=>z x)
 |0,i,hi=>by obtain rfl:i=l.length:=ω;rw[b9_];exact AU h2
 |m+1,i,hi=>by
  have hlt:i<l.length:=ω;rw[Bhm d hlt];have h:=h1 i hlt;cases hp:p (l.getD i d)with
  |true=>rw[hp,d_]at h;rw[Ca h,Ahv l d p g y z h1 h2 m (i+1) ω,List.find?_cons,hp];rfl
  |false=>rw[hp,c_]at h;rw[AU h,List.find?_cons,hp];rfl
def Bce{β:Type}(p:α→Bool)(y z:β)(l:List α):(match l.find? (λx=>!p x)with | none=>y | some _=>z)=bif l.all p then y else z:=by
 induction l with
 |nil=>rfl
 |cons a l ih=>
  rw[List.find?_cons,a3_];cases p a
  ·rfl
  ·exact ih
def All(x y:Int):decide (x<y)=!decide (y≤x):=by by_cases h:y≤x<;>simp[h]<;>omega
def noE:H:=Entry.mk 0 0 0 0 B
structure Img where
 G0:List Int
 O0:List Bool
 J0:List Bool
 A0:List Entry
def Img.tup(m:Img):List Int×List Bool×List Bool×List H×Unit:=(m.G0,m.O0,m.J0,m.A0,())
def Img.none:Img:=⟨[],[],[],[]⟩
def Oj(fl floor dir:Int):Bool:=(dir==1&&inR 0 (fl-2) floor)||(dir==2&&inR 1 (fl-1) floor)
def Yb{fl:Int}(h:0≤fl∧fl<100)(floor dir:Int):JJ fl floor dir=A ((Oj fl floor dir,()),()):=by
 have w1:J.wrap (fl-1)=fl-1:=Aa ω ω;have w2:J.wrap (fl-2)=fl-2:=Aa ω ω;have k:∀E hi:Int,BO E hi [floor]=A ((inR E hi floor,()),()):=λE hi=>by rw[Cf E hi (show [floor].length≤maxLen from(show 1≤maxLen by decide))];simp
 unfold JJ Oj;rw[w1,w2,k,k];cases dir==1<;>cases dir==2<;>cases inR 0 (fl-2) floor<;>rfl
def Ap(b:Bldg)(floor dir:Int):Bool:=b.code==0&&Oj b.C0 floor dir
def MB(hb:b.small)(floor dir:Int):FK b.C0 b.F0 b.H0 b.M0 b.K0 b.L0 b.N0 b.B0 floor dir=A ((Ap b floor dir,()),()):=by unfold FK Ap;rw[AR,Yb ⟨by have:=hb.lo;omega,by have:=hb.hi;omega⟩];simp only[a_];cases b.code==0<;>rfl
def RI(hb:b.small)(floor dir:Int):Ms b.C0 b.F0 b.H0 b.M0 b.K0 b.L0 b.N0 b.B0 floor dir=A ((Ap b floor dir,()),()):=by have E:=hb.lo;have hi:=hb.hi;have w1:J.wrap (b.C0-1)=b.C0-1:=Aa ω ω;have w2:J.wrap (b.C0-2)=b.C0-2:=Aa ω ω;unfold Ms Ap Oj;rw[Na,w1,w2,LE,LE];simp only[a_,bne];cases b.code==0<;>cases dir==1<;>cases dir==2<;>cases inR 0 (b.C0-2) floor<;>rfl
def Iz(b:Bldg)(e:H):Bool:=Ap b e.E0 e.I0&&(decide (-2≤e.R0)&&(decide (e.R0<(b.B0.length:Int))&&(decide (0≤e.L1)&&decide (e.L1≤255))))
def Agb(hb:b.small)(e:H):NU b.C0 b.F0 b.H0 b.M0 b.K0 b.L0 b.N0 b.B0 e.E0 e.I0 e.R0 e.L1 e.H2=A ((Iz b e,()),()):=by unfold NU Iz;rw[MB hb];simp only[a_];cases Ap b e.E0 e.I0<;>cases decide (-2≤e.R0)<;>cases decide (e.R0<(b.B0.length:Int))<;>cases decide (0≤e.L1)<;>rfl
def Bv(a b:H):Bool:=decide (a.E0<b.E0)||(a.E0==b.E0&&decide (a.I0<b.I0))
def Wi(x y:Int):Int:=bif decide (x<y)then -1 else bif decide (y<x)then 1 else 0
def Ia(x y:Int):Ew x y=A ((Wi x y,()),()):=by unfold Ew LT Wi;simp only[a_,P_,c_];cases decide (x<y)<;>cases decide (y<x)<;>rfl
def Yf(x y:Int):Mn [x,y]=A (((bif x !=0 then x else y),()),()):=by
 have r:∀(l:List Int) (i:Nat),i<l.length→l.length<100→Kj 0 l (l.length:Int) (i:Int)=A (bif l.getD i 0 !=0 then Sum.inr (Sum.inr ((l.getD i 0,()),()))else Sum.inl (((0:Int),l,(l.length:Int),((i+1:Nat):Int),()),())):=λl i hi hl=>by
  have w:J.wrap ((i:Int)+1)=((i+1:Nat):Int):=by rw[Aa ω ω];omega
  unfold Kj;rw[b_ (ω:(i:Int)<(l.length:Int)),Ac (ω:(0:Int)≤(i:Int)) (ω:(i:Int)<(l.length:Int)),j_,w];simp only[d_];cases l.getD i 0 !=0<;>rfl
 have r0:Kj 0 [x,y] 2 0=A (bif x !=0 then Sum.inr (Sum.inr ((x,()),()))else Sum.inl (((0:Int),[x,y],(2:Int),(1:Int),()),())):=r [x,y] 0 σ σ;have r1:Kj 0 [x,y] 2 1=A (bif y !=0 then Sum.inr (Sum.inr ((y,()),()))else Sum.inl (((0:Int),[x,y],(2:Int),(2:Int),()),())):=r [x,y] 1 σ σ;have h:Nc (((0:Int),[x,y],(2:Int),(0:Int),()),())=A (bif x !=0 then .inr ((x,()),())else bif y !=0 then .inr ((y,()),())else .inl (((0:Int),()),())):=by
  refine As (f:=3) ?_ ω;cases hx:x !=0 with
  |true=>rw[hx]at r0;exact AU r0
  |false=>
   rw[hx]at r0;refine(Ca r0).trans ?_;cases hy:y !=0 with
   |true=>rw[hy]at r1;exact AU r1
   |false=>rw[hy]at r1;exact(Ca r1).trans (AU rfl)
 unfold Mn;rw[show((([x,y]:List Int).length:Nat):Int)=2 from rfl,h];cases hx:x !=0 with
 |true=>rfl
 |false=>
  cases hy:y !=0 with
  |true=>rfl
  |false=>
   have:y=0:=by simpa using hy
   subst this;rfl
def Qp(a b:H):∃n:Int,IH a.E0 a.I0 a.R0 a.L1 a.H2 b.E0 b.I0 b.R0 b.L1 b.H2=A ((n,()),())∧decide (0≤n)=!Bv a b∧(n=0↔a.E0=b.E0∧a.I0=b.I0):=by
 unfold IH;rw[Ia,Ia];simp only[a_];rw[Yf];refine⟨_,rfl,?_,?_⟩
 ·unfold Bv Wi;by_cases h1:a.E0<b.E0
  ·rw[b_ h1];rfl
  ·rw[f_ h1];by_cases h2:b.E0<a.E0
   ·rw[b_ h2,An (ω:¬a.E0=b.E0)];rfl
   ·rw[f_ h2,show(a.E0==b.E0)=C by simp;omega];by_cases h3:a.I0<b.I0
    ·rw[b_ h3];rfl
    ·rw[f_ h3];cases decide (b.I0<a.I0)<;>rfl
 ·unfold Wi;by_cases h1:a.E0<b.E0
  ·rw[b_ h1];exact⟨(λh=>by cases h),(λh=>by omega)⟩
  ·rw[f_ h1];by_cases h2:b.E0<a.E0
   ·rw[b_ h2];exact⟨(λh=>by cases h),(λh=>by omega)⟩
   ·rw[f_ h2];by_cases h3:a.I0<b.I0
    ·rw[b_ h3];exact⟨(λh=>by cases h),(λh=>by omega)⟩
    ·rw[f_ h3];by_cases h4:b.I0<a.I0
     ·rw[b_ h4];exact⟨(λh=>by cases h),(λh=>by omega)⟩
     ·rw[f_ h4];exact⟨λ_=>⟨ω,ω⟩,λ_=>rfl⟩
def HG(b:Bldg):Option H→List H→Bool
 |_,[]=>C
 |p,e::t=>Iz b e&&((match p with | some q=>Bv q e | none=>C)&&HG b (A e) t)
def Img.ok(b:Bldg)(m:Img):Bool:=b.code==0&&((m.G0.length:Int)==(b.B0.length:Int)&&((m.O0.length:Int)==(b.B0.length:Int)&&((m.J0.length:Int)==(b.B0.length:Int)&&(m.G0.all (inR 0 4)&&HG b Option.none m.A0))))
def SB(l:List H)(i:Nat):Option H:=if i=0 then none else A (l.getD (i-1) noE)
def As9(h:i<l.length):HG b (SB l i) (l.drop i)=(Iz b (l.getD i noE)&&((match SB l i with | some q=>Bv q (l.getD i noE) | none=>C)&&HG b (SB l (i+1)) (l.drop (i+1)))):=by rw[Cu noE h];simp only[HG,SB,Nat.succ_ne_zero,f3_,Nat.add_sub_cancel]
def Bqb{E hi v:Int}{a c:α}:(bif decide (v<E)then a else bif decide (hi<v)then a else c)=bif inR E hi v then c else a:=by unfold inR;rw[All v E,All hi v];cases decide (E≤v)<;>cases decide (v≤hi)<;>rfl
def wrM{n:Nat}(hn:n≤maxLen)(h:i<n):J.wrap ((i:Int)+1)=((i+1:Nat):Int):=by
 have:maxLen≤9223372036854775807:=by decide
 rw[Aa ω ω];omega
def wrP{j n:Nat}(hn:n≤maxLen)(h:j+1<n):J.wrap (((j+1:Nat):Int)-1)=(j:Int):=by
 have:maxLen≤9223372036854775807:=by decide
 rw[Aa ω ω];omega
def Aq3{X Y:Type}{step:X→Option (Sum X Y)}{N:Nat}(hN:N≤maxLen)(g:Nat→X)(p q:Nat→Bool){y0 y1:Y}(hq:∀i,i<N→q i=(p i&&q (i+1)))(hN':q N=C)(h2:∀i,i<N→step (g i)=A (bif p i then .inl (g (i+1))else .inr y1))(h1:step (g N)=A (.inr y0)):Cd step DN (g 0)=A (if q 0 then y0 else y1):=by
 have hmx:maxLen≤9223372036854775807:=by decide
 have key:∀k i:Nat,i+k=N→Cd step (k+1) (g i)=A (if q i then y0 else y1):=by
  intro k;induction k with
  |zero=>intro i hi;obtain rfl:i=N:=ω;rw[hN'];exact AU h1
  |succ k ih=>
   intro i hi;have h:=h2 i ω;rw[hq i ω];cases hp:p i with
   |true=>rw[hp]at h;exact(Ca h).trans (ih (i+1) ω)
   |false=>rw[hp]at h;exact AU h
 exact As (key N 0 ω) ω
def Bb7(b:Bldg)(l:List H)(i:Nat):Bool:=Iz b (l.getD i noE)&&(match SB l i with | some q=>Bv q (l.getD i noE) | none=>C)
def Ayu(h:i<l.length):HG b (SB l i) (l.drop i)=(Bb7 b l i&&HG b (SB l (i+1)) (l.drop (i+1))):=by rw[As9 h,← Bool.and_assoc];rfl
section
variable{b:Bldg}(hb:b.small)(m:Img)
include hb
theorem Aja(hm:m.A0.length≤maxLen):Mh (((),(),m.A0,(m.A0.length:Int),(0:Int),()),(b.tup,m.tup,()))=A (if HG b none m.A0 then .inl ((),())else .inr ((B,()),())):=by
 refine Aq3 (N:=m.A0.length) hm (λi=>(((),(),m.A0,(m.A0.length:Int),(i:Int),()),(b.tup,m.tup,()))) (Bb7 b m.A0) (λi=>HG b (SB m.A0 i) (m.A0.drop i)) (λi hi=>Ayu hi) (by rw[b9_];rfl) (λi hi=>?_) (by show Jn m.A0 (m.A0.length:Int) (m.A0.length:Int) b.C0 b.F0 b.H0 b.M0 b.K0 b.L0 b.N0 b.B0 m.G0 m.O0 m.J0 m.A0=_;unfold Jn;rw[Np];rfl);have he:=Agb hb (m.A0.getD i noE);unfold noE at he;show Jn m.A0 (m.A0.length:Int) (i:Int) b.C0 b.F0 b.H0 b.M0 b.K0 b.L0 b.N0 b.B0 m.G0 m.O0 m.J0 m.A0=_;unfold Jn Bb7;rw[Qq hi,Ju hi];simp only[d_,j_,he,a_];unfold noE;cases Iz b (m.A0.getD i (Entry.mk 0 0 0 0 B))with
 |false=>rfl
 |true=>
  simp only[q_,c_,z_];cases i with
  |zero=>rfl
  |succ j=>rw[b_ (ω:(0:Int)<((j+1:Nat):Int)),wrP hm hi,Ju (ω:j<m.A0.length)];obtain⟨n,c1,c2,_⟩:=Qp (m.A0.getD j noE) (m.A0.getD (j+1) noE);unfold noE at c1 c2;simp only[d_,j_,c1,a_,wrM hm hi,c2,SB,Nat.succ_ne_zero,f3_,Nat.add_sub_cancel];unfold noE;cases Bv (m.A0.getD j (Entry.mk 0 0 0 0 B)) (m.A0.getD (j+1) (Entry.mk 0 0 0 0 B))<;>rfl
omit hb in
theorem Ai9(hm:m.G0.length≤maxLen):Mg (((),(),m.G0,(m.G0.length:Int),(0:Int),()),(b.tup,m.tup,()))=A (if m.G0.all (inR 0 4)then .inl (((),(),()),(b.tup,m.tup,()))else .inr ((B,()),())):=by refine Aq3 (N:=m.G0.length) hm (λi=>(((),(),m.G0,(m.G0.length:Int),(i:Int),()),(b.tup,m.tup,()))) (λi=>inR 0 4 (m.G0.getD i 0)) (λi=>(m.G0.drop i).all (inR 0 4)) (λi hi=>by rw[Cu (0:Int) hi,a3_]) (by rw[b9_];rfl) (λi hi=>?_) (by show Jm m.G0 (m.G0.length:Int) (m.G0.length:Int) b.C0 b.F0 b.H0 b.M0 b.K0 b.L0 b.N0 b.B0 m.G0 m.O0 m.J0 m.A0=_;unfold Jm;rw[Np];rfl);show Jm m.G0 (m.G0.length:Int) (i:Int) b.C0 b.F0 b.H0 b.M0 b.K0 b.L0 b.N0 b.B0 m.G0 m.O0 m.J0 m.A0=_;unfold Jm;rw[Qq hi,Ju hi,wrM hm hi];simp only[d_,j_];rw[Bqb];cases inR 0 4 (m.G0.getD i 0)<;>rfl
theorem CY(hp:m.G0.length≤maxLen)(he:m.A0.length≤maxLen):Cn b.C0 b.F0 b.H0 b.M0 b.K0 b.L0 b.N0 b.B0 m.G0 m.O0 m.J0 m.A0=A ((m.ok b,()),()):=by
 unfold Cn Img.ok;rw[AR];simp only[a_,bne];cases b.code==0 with
 |false=>rfl
 |true=>
  cases(m.G0.length:Int)==(b.B0.length:Int)with
  |false=>rfl
  |true=>
   cases(m.O0.length:Int)==(b.B0.length:Int)with
   |false=>rfl
   |true=>
    cases(m.J0.length:Int)==(b.B0.length:Int)with
    |false=>rfl
    |true=>
     have h0:=Ai9 (b:=b) m hp;have h1:=Aja hb m he;unfold Bldg.tup Img.tup at h0 h1;simp only[q_,c_,h0,a_,z_];cases m.G0.all (inR 0 4)with
     |false=>rfl
     |true=>simp only[g9_,h1,a_,z_];cases HG b none m.A0<;>rfl
end
def UW(b:Bldg)(r:Record):Bool:=inR 0 ((b.B0.length:Int)-1) r.R0&&(r.E0==0&&r.I0==0)
def Ax(b:Bldg)(r:Record):Bool:=
 b.code==0&&(bif r.Q0==1 then Ap b r.E0 r.I0&&(r.R0==0&&r.Z1==0)
 else bif r.Q0==2 then Ap b r.E0 r.I0&&(r.R0==0&&r.Z1==0)
 else bif r.Q0==3 then Ap b r.E0 r.I0&&(inR (-2) ((b.B0.length:Int)-1) r.R0&&r.Z1==0)
 else bif r.Q0==4 then UW b r&&inR 0 4 r.Z1
 else bif r.Q0==5 then UW b r&&inR 0 1 r.Z1
 else bif r.Q0==6 then UW b r&&inR 0 1 r.Z1
 else bif r.Q0==7 then Ap b r.E0 r.I0&&(inR 0 1 r.R0&&inR 0 255 r.Z1)
 else B)
def isC(F D:Int)(e:H):Bool:=e.E0==F&&e.I0==D
def DM(F D:Int):List H→Nat→Int
 |[],_=>-1
 |e::t,i=>bif isC F D e then(i:Int)else DM F D t (i+1)
def Sl(F D:Int):∀(l:List H) (i:Nat),(DM F D l i=-1∧∀e∈l,isC F D e=B)∨∃k:Nat,k<l.length∧DM F D l i=((i+k:Nat):Int)∧isC F D (l.getD k noE)=C
 |[],_=>.inl ⟨rfl,λ_ h=>by cases h⟩
 |e::t,i=>by
  simp only[DM];cases h:isC F D e with
  |true=>exact .inr ⟨0,σ,rfl,h⟩
  |false=>
   rcases Sl F D t (i+1)with⟨h1,h2⟩ | ⟨k,h1,h2,h3⟩
   ·refine .inl ⟨h1,λx hx=>?_⟩;rcases s_.1 hx with rfl | hx
    ·exact h
    ·exact h2 x hx
   ·refine .inr ⟨k+1,by simp;omega,?_,h3⟩;rw[c_,h2];congr 1;omega
def Hw(e:H):Bool→List H→List H
 |d,[]=>bif d then []else [e]
 |true,x::t=>x::Hw e C t
 |false,x::t=>bif Bv e x then e::x::Hw e C t else x::Hw e B t
def Abl(e:H):∀(l:List H) (d:Bool),(Hw e d l).length≤l.length+1
 |[],C=>by simp[Hw]
 |[],B=>by simp[Hw]
 |x::t,C=>by simp only[Hw,B_];have:=Abl e t C;omega
 |x::t,B=>by
  simp only[Hw];cases Bv e x with
  |true=>
   simp only[d_,B_]
   have:∀t:List H,Hw e C t=t:=λt=>by
    induction t with
    |nil=>rfl
    |cons a t ih=>simp only[Hw,ih]
   rw[this];omega
  |false=>simp only[c_,B_];have:=Abl e t B;omega
def Uv(e:H):∀t:List H,Hw e C t=t
 |[]=>rfl
 |a::t=>by simp only[Hw,Uv e t]
def Img.put(m:Img)(l:List H):Img:=⟨m.G0,m.O0,m.J0,l⟩
def Aeo(e:H)(c:Int):H:=⟨e.E0,e.I0,c,e.L1,e.H2⟩
def TJ(e:H)(n c:Int):H:=⟨e.E0,e.I0,e.R0,n,c==1⟩
def Ak(m:Img)(r:Record):Img:=
 bif r.Q0==4 then⟨m.G0.set r.R0.toNat r.Z1,m.O0,m.J0,m.A0⟩
 else bif r.Q0==5 then⟨m.G0,m.O0.set r.R0.toNat (r.Z1==1),m.J0,m.A0⟩
 else bif r.Q0==6 then⟨m.G0,m.O0,m.J0.set r.R0.toNat (r.Z1==1),m.A0⟩
 else bif DM r.E0 r.I0 m.A0 0==-1 then(bif r.Q0==1 then m.put (Hw ⟨r.E0,r.I0,-1,0,B⟩ B m.A0)else m)
 else bif r.Q0==2 then m.put (m.A0.take (DM r.E0 r.I0 m.A0 0).toNat++m.A0.drop ((DM r.E0 r.I0 m.A0 0).toNat+1))
 else bif r.Q0==3 then m.put (m.A0.set (DM r.E0 r.I0 m.A0 0).toNat (Aeo (m.A0.getD (DM r.E0 r.I0 m.A0 0).toNat noE) r.R0))
 else bif r.Q0==7 then m.put (m.A0.set (DM r.E0 r.I0 m.A0 0).toNat (TJ (m.A0.getD (DM r.E0 r.I0 m.A0 0).toNat noE) r.Z1 r.R0))
 else m
def XW(b:Bldg)(m:Img)(r:Record):(Unit×Int×Unit)×((List Int×List Bool×List Bool×List H×Unit)×Unit):=bif m.ok b&&Ax b r then(((),0,()),((Ak m r).tup,()))else(((),1,()),(Img.none.tup,()))
def Ae0{r:Record}(h:Ax b r=C)(hk:r.Q0=4∨r.Q0=5∨r.Q0=6):0≤r.R0∧r.R0<(b.B0.length:Int):=by
  unfold Ax UW at h;have k:∀q:Bool,(r.R0≥0∧r.R0≤(b.B0.length:Int)-1)→0≤r.R0∧r.R0<(b.B0.length:Int):=λ_ h=>by omega
  rcases hk with hk | hk | hk<;>rw[hk]at h<;>
    (simp only[e_]at h
     have h':=h.2;simp only[show((4:Int)==1)=B from rfl,show((4:Int)==2)=B from rfl,show((4:Int)==3)=B from rfl,show((5:Int)==1)=B from rfl,show((5:Int)==2)=B from rfl,show((5:Int)==3)=B from rfl,show((5:Int)==4)=B from rfl,show((6:Int)==1)=B from rfl,show((6:Int)==2)=B from rfl,show((6:Int)==3)=B from rfl,show((6:Int)==4)=B from rfl,show((6:Int)==5)=B from rfl,l_,c_,d_,e_]at h'
     have:=Ao.1 h'.1.1
     exact k C ⟨this.1,this.2⟩)
section
variable{b:Bldg}(hb:b.small)(m:Img)(hm:m.A0.length≤1000)(r:Record)
include hb hm
end
end Go.Ovl
