import Derived.Test.YtefkhaccplcieaaGreatDoorAbE
import Derived.Test.YtefkhaccplcieaaGreatDoorDefs4
set_option linter.all false
open Option renaming some->A,bind->U,none->W
open Bool renaming true->B,false->C
open Go.Ab renaming lo->D
open Go renaming a_->E
open Go.IntKind renaming i64->H,u32->J,wrap->O
open Go.Ovl renaming Entry->V
open BitVec renaming ofInt->aA,toNat->aB,eq_of_getLsbD_eq->aE,eq_of_toNat_eq->aF
open List renaming all_nil->aC
open ByteArray renaming ext->aD
open Nat renaming add_sub_cancel->aG
namespace Go.Ovl
open Go Go.Ab
variable{f:Nat}{α:Type}{n:Int}
def Aa(h:-9223372036854775808≤n)(h':n<9223372036854775808):H.wrap n=n:=by rw[IntKind.wrap_i64];omega
def EG(h:0≤n)(h':n<18446744073709551616):IntKind.u64.wrap n=n:=by simp only[O,IntKind.signed,IntKind.bits];simp;omega
def Ac{i:Int}{n:Nat}(h:0≤i)(h':i<n):inB i n=B:=by simp[inB];omega
def Az{a b:Nat}(h:a≤b):Nat.ble a b=B:=Nat.ble_eq.symm▸h
def Aq4(s:ByteArray):s.toList=s.data.toList:=ByteArray.toList_eq s
def Bkd{a b:ByteArray}:eqB a b=B↔a=b:=by
 constructor
 ·intro h;simp[eqB,Aq4]at h;exact aD h
 ·rintro rfl;simp[eqB]
def GT [BEq α][LawfulBEq α]{a b:α}(h:¬a=b):(a !=b)=B:=by simpa using h
def Ao [BEq α][LawfulBEq α]{a b:α}(h:¬a=b):(a==b)=C:=by simpa using h
section
variable{X Y:Type}{step:X→Option (Sum X Y)}
def BO{x x':X}(h:step x=A (.inl x')):BX step (f+1) x=BX step f x':=by simp only[BX,h,RU]
def AE{x:X}{y:Y}(h:step x=A (.inr y)):BX step (f+1) x=A y:=by simp only[BX,h,RU]
def Ajc:∀{f:Nat}{x:X}{y:Y},BX step f x=A y→∀{g:Nat},f≤g→BX step g x=A y
 |0,_,_,h,_,_=>by simp[BX]at h
 |f+1,x,y,h,0,hg=>by omega
 |f+1,x,y,h,g+1,hg=>by
  simp only[BX]at h⊢;cases hs:step x with
  |none=>rw[hs]at h;simp[RU]at h
  |some z=>
   rw[hs]at h;cases z with
   |inl x'=>exact Ajc (f:=f) (g:=g) h ω
   |inr y'=>exact h
def Ak{x:X}{y:Y}(h:BX step f x=A y)(hf:f≤18446744073709551616):BX step DT x=A y:=Ajc h hf
def Ar3(Q:X→Y→Prop)(m:X→Nat)(hs:∀x y,Q x y→(∃x',step x=A (.inl x')∧Q x' y∧m x'<m x)∨step x=A (.inr y)):∀(n:Nat) (x:X) (y:Y),Q x y→m x≤n→BX step (n+1) x=A y
 |n,x,y,hq,hm=>by
  rcases hs x y hq with⟨x',h1,h2,h3⟩ | h1
  ·cases n with
   |zero=>omega
   |succ n=>rw[BO h1];exact Ar3 Q m hs n x' y h2 ω
  ·exact AE h1
def Bkw(Q:X→Y→Prop)(m:X→Nat)(hs:∀x y,Q x y→(∃x',step x=A (.inl x')∧Q x' y∧m x'<m x)∨step x=A (.inr y)){x:X}{y:Y}(hq:Q x y)(hm:m x<18446744073709551616):BX step DT x=A y:=Ak (Ar3 Q m hs (m x) x y hq (A_ _)) hm
def Bo{S:Type}(h:Nat→S→S):Nat→Nat→S→S
 |0,_,s=>s
 |m+1,i,s=>Bo h m (i+1) (h i s)
def AQ{S:Type}(N:Nat)(g:Nat→S→X)(h:Nat→S→S)(inv:Nat→S→Prop)(y:S→Y)(h1:∀i s,i<N→inv i s→step (g i s)=A (.inl (g (i+1) (h i s)))∧inv (i+1) (h i s))
  (h2:∀s,inv N s→step (g N s)=A (.inr (y s))):∀(m i:Nat) (s:S),i+m=N→inv i s→BX step (m+1) (g i s)=A (y (Bo h m i s))∧inv N (Bo h m i s)
 |0,i,s,hi,hs=>by
  have:i=N:=ω
  subst this;exact⟨AE (h2 s hs),hs⟩
 |m+1,i,s,hi,hs=>by obtain⟨q1,q2⟩:=h1 i s ω hs;rw[BO q1];exact AQ N g h inv y h1 h2 m (i+1) (h i s) ω q2
end
def noB:ByteArray:=⟨#[]⟩
def Aca(d:ByteArray){k:Nat}(h:k≤d.size):(d.extract 0 k).size=k:=by simp;omega
def Ana(d:ByteArray){a b c:Nat}(h:a≤b)(h':b≤c):d.extract a b++d.extract b c=d.extract a c:=by apply aD;simp;rw[c8_ h,Nat.max_eq_right h']
def Adx(a:ByteArray):a++noB=a:=by apply aD;simp[noB]
def Aiw(d:ByteArray)(k:Nat):d.extract k k=noB:=by apply aD;simp[noB]
end Go.Ovl
namespace Go.Ovl
open Go Go.Ab
set_option maxRecDepth 100000
variable{c:Bool}
def Sat{α:Type}(o:Option α)(P:α→Prop):Prop:=∃a,o=A a∧P a
section
variable{α β:Type}{P:α→Prop}{Q:β→Prop}
def Sat.ret{a:α}(h:P a):Sat (A a) P:=⟨a,rfl,h⟩
def Sat.bindE{o:Option β}{b:β}{f:β→Option α}(h:o=A b)(h2:Sat (f b) P):Sat (U o f) P:=by subst h;exact h2
def Sat.bindS{o:Option β}{f:β→Option α}(h:Sat o Q)(h2:∀b,Q b→Sat (f b) P):Sat (U o f) P:=by obtain⟨b,h,hq⟩:=h;subst h;exact h2 b hq
def Sat.bic{x y:Option α}(h1:c=B→Sat x P)(h2:c=C→Sat y P):Sat (bif c then x else y) P:=by
 cases c with
 |true=>exact h1 rfl
 |false=>exact h2 rfl
def Sat.bifT{x y:Option α}(h:c=B)(h1:Sat x P):Sat (bif c then x else y) P:=by subst h;exact h1
def Sat.bifF{x y:Option α}(h:c=C)(h1:Sat y P):Sat (bif c then x else y) P:=by subst h;exact h1
def Sat.bindC{x y:Option β}{f:β→Option α}(h1:c=B→Sat (U x f) P)(h2:c=C→Sat (U y f) P):Sat (U (bif c then x else y) f) P:=by
 cases c with
 |true=>exact h1 rfl
 |false=>exact h2 rfl
def Sat.bindCT{x y:Option β}{f:β→Option α}(h:c=B)(h1:Sat (U x f) P):Sat (U (bif c then x else y) f) P:=by subst h;exact h1
def Sat.bindCF{x y:Option β}{f:β→Option α}(h:c=C)(h1:Sat (U y f) P):Sat (U (bif c then x else y) f) P:=by subst h;exact h1
def Sat.bindR{b:β}{f:β→Option α}(h2:Sat (f b) P):Sat (U (A b) f) P:=h2
def Sat.bindA{γ:Type}{o:Option γ}{g:γ→Option β}{f:β→Option α}(h:Sat (U o λx=>U (g x) f) P):Sat (U (U o g) f) P:=by
 cases o with
 |none=>exact h
 |some a=>exact h
def Sat.mono{R:α→Prop}{o:Option α}(h:Sat o P)(h2:∀a,P a→R a):Sat o R:=by obtain⟨a,h,hp⟩:=h;exact⟨a,h,h2 a hp⟩
def Sat.any{o:Option α}(h:Sat o P):Sat o λ_=>True:=h.mono λ_ _=>trivial
def Sat.val{a:α}{o:Option α}(h:o=A a)(hp:P a):Sat o P:=⟨a,h,hp⟩
def Sat.ex{o:Option α}(h:Sat o P):∃a,o=A a∧P a:=h
end
def Sat.iterN{X Y:Type}{step:X→Option (Sum X Y)}(I:Nat→X→Prop)(P:Y→Prop)(hs:∀k x,I k x→Sat (step x) λr=>match r with | .inl x'=>∃k',k=k'+1∧I k' x' | .inr y=>P y):∀(k:Nat) (x:X),I k x→Sat (BX step (k+1) x) P
 |k,x,hi=>by
  obtain⟨r,h1,h2⟩:=hs k x hi
  match r,h1,h2 with
  | .inr y,h1,h2=>exact⟨y,AE h1,h2⟩
  | .inl x',h1,⟨k',hk,hi'⟩=>subst hk;rw[BO h1];exact Sat.iterN I P hs k' x' hi'
def Sat.loop{X Y:Type}{step:X→Option (Sum X Y)}(I:Nat→X→Prop){P:Y→Prop}(hs:∀k x,I k x→Sat (step x) λr=>match r with | .inl x'=>∃k',k=k'+1∧I k' x' | .inr y=>P y)(k:Nat){x:X}(hi:I k x)(hk:k<18446744073709551616):Sat (BX step DT x) P:=by obtain⟨y,h1,h2⟩:=Sat.iterN I P hs k x hi;exact⟨y,Ak h1 ω,h2⟩
def Af8(n:Int):decide ((0:Int)≤IntKind.u64.wrap n)=B:=by simp only[O,IntKind.signed,IntKind.bits];simp;exact Int.emod_nonneg _ τ
class SatT {α:Type}(o:Option α):Prop where
 out:Sat o λ_=>True
section
variable{α β:Type}{P:α→Prop}
def Sat.bT{x y:Option α}(h1:Sat x P)(h:c=true:=by with_reducible first | exact Eq.refl true | exact Af8 _ | assumption):Sat (bif c then x else y) P:=Sat.bifT h h1
def Sat.bF{x y:Option α}(h1:Sat y P)(h:c=false:=by with_reducible first | exact Eq.refl false | assumption):Sat (bif c then x else y) P:=Sat.bifF h h1
def Sat.cT{x y:Option β}{f:β→Option α}(h1:Sat (Option.bind x f) P)(h:c=true:=by with_reducible first | exact Eq.refl true | exact Af8 _ | assumption):Sat (Option.bind (bif c then x else y) f) P:=Sat.bindCT h h1
def Sat.cF{x y:Option β}{f:β→Option α}(h1:Sat (Option.bind y f) P)(h:c=false:=by with_reducible first | exact Eq.refl false | assumption):Sat (Option.bind (bif c then x else y) f) P:=Sat.bindCF h h1
def Sat.sT{o:Option β}{f:β→Option α}(h2:∀b,True→Sat (f b) P)(h:Sat o (λ_=>True):=by with_reducible first | assumption | exact SatT.out):Sat (Option.bind o f) P:=Sat.bindS h h2
def Sat.go{o:Option α}(h:Sat o P:=by repeat' with_reducible first | refine Sat.bindR ?_ | refine Sat.bindA ?_ | refine Sat.cT ?_ | refine Sat.cF ?_ | refine Sat.bindC (λ_=>?_) (λ_=>?_) | refine Sat.bT ?_ | refine Sat.bF ?_ | refine Sat.bic (λ_=>?_) (λ_=>?_) | refine Sat.sT λ_ _=>?_ | exact Sat.ret trivial):Sat o P:=h
end
end Go.Ovl
namespace Go.Ovl
open Go Go.Ab
variable{i:Nat}{f:Int}
def bv(f:Int):BitVec 32:=aA 32 f
def vb(b:BitVec 32):Int:=(b.toNat:Int)
def Lx(b:BitVec 32):0≤vb b∧vb b<4294967296:=by
 have:=b.isLt
 unfold vb;omega
def Ato(b:BitVec 32):bv (vb b)=b:=by
 apply aF
 have:=b.isLt
 simp only[bv,vb,X_];omega
def Awt(h:0≤f∧f<4294967296):vb (bv f)=f:=by simp only[bv,vb,X_];omega
def TE(b:BitVec 32):J.wrap ((b.toNat:Nat):Int)=vb b:=by
 have:=b.isLt
 simp only[O,IntKind.signed,IntKind.bits,vb];simp;omega
def Amh:IntKind.bits .u32=32:=rfl
def Bj1(f:Int):bv (O J f)=bv f:=by apply aF;simp only[bv,X_,O,IntKind.signed,IntKind.bits];simp
def Amj(i:Nat):bv (O J (1*2^min i (IntKind.bits .u32)))=if i<32 then BitVec.twoPow 32 i else 0#32:=by
 rw[Bj1,Int.one_mul];apply aF;simp only[bv,X_,Amh];by_cases h:i<32
 ·rw[if_pos h,c8_ ω,BitVec.toNat_twoPow]
  have:((2:Int)^i)=((2^i:Nat):Int):=by simp
  rw[this]
  norm_cast
 ·rw[if_neg h,Nat.min_eq_right ω];rfl
def CZ(f:Int)(i:Nat):Bool:=(bv f).getLsbD i
def Bdv(h:0≤f∧f<4294967296)(hi:i<32):
  (O J ((aB (aA (IntKind.bits .u32) (Int.fdiv f (2^min i (IntKind.bits .u32)))&&&aA (IntKind.bits .u32) 1):Nat):Int)==1)=CZ f i:=by
 have e:Int.fdiv f (2^min i (IntKind.bits .u32))=((f.toNat/2^i:Nat):Int):=by
  rw[Amh,c8_ ω,a6_ _ (by exact Int.le_of_lt (Int.pow_pos ω))]
  have:f=((f.toNat:Nat):Int):=ω
  rw[this];simp
 rw[e];show(O J (((bv ((f.toNat/2^i:Nat):Int)&&&bv 1).toNat:Nat):Int)==1)=_;rw[TE];have hb:(bv ((f.toNat/2^i:Nat):Int)&&&bv 1)=if CZ f i then 1#32 else 0#32:=by
  apply aE;intro j hj;have h1:(bv ((f.toNat/2^i:Nat):Int)).getLsbD j=(f.toNat/2^i).testBit j:=by
   simp only[bv,BitVec.getLsbD,X_]
   have:(((f.toNat/2^i:Nat):Int)%((2^32:Nat):Int)).toNat=(f.toNat/2^i)%2^32:=by norm_cast
   rw[this,Nat.testBit_mod_two_pow];simp[hj]
  have h2:CZ f i=f.toNat.testBit i:=by
   simp only[CZ,bv,BitVec.getLsbD,X_]
   have:(f%((2^32:Nat):Int)).toNat=f.toNat:=by simp;omega
   rw[this]
  have h3:(bv 1).getLsbD j=decide (j=0):=by
   have:bv 1=1#32:=rfl
   rw[this];simp[BitVec.getLsbD_one]
  rw[f6_,h1,h3,h2];by_cases hj0:j=0
  ·subst hj0;rw[Nat.testBit_div_two_pow];simp only[p_,decide_true,d5_];cases f.toNat.testBit i<;>simp
  ·simp only[hj0,decide_false,c1_];cases f.toNat.testBit i<;>simp[BitVec.getLsbD_one,hj0]
 rw[hb];cases CZ f i<;>rfl
def XP(f:Int)(i:Nat)(on:Bool):Int:=vb (if on then bv f|||BitVec.twoPow 32 i else bv f&&& ~~~ BitVec.twoPow 32 i)
def Av6(f:Int)(i:Nat)(on:Bool):0≤XP f i on∧XP f i on<4294967296:=Lx _
def Arc{g:Int}(hf:0≤f∧f<4294967296)(hg:0≤g∧g<4294967296)(h:∀i,i<32→CZ f i=CZ g i):f=g:=by rw[← Awt hf,← Awt hg];congr 1;apply aE;intro i hi;exact h i hi
def Btk(f:Int)(hi:i<32):J.wrap ((aB (aA (IntKind.bits .u32) f|||BitVec.ofInt (IntKind.bits .u32) (O J (1*2^min i (IntKind.bits .u32)))):Nat):Int)=XP f i B:=by show J.wrap (((bv f|||bv (O J (1*2^min i (IntKind.bits .u32)))).toNat:Nat):Int)=_;rw[TE,Amj,if_pos hi];rfl
def Az2(f:Int)(hi:i<32):J.wrap ((aB (aA (IntKind.bits .u32) f&&& ~~~ aA (IntKind.bits .u32) (O J (1*2^min i (IntKind.bits .u32)))):Nat):Int)=XP f i C:=by show J.wrap (((bv f&&& ~~~ bv (O J (1*2^min i (IntKind.bits .u32)))).toNat:Nat):Int)=_;rw[TE,Amj,if_pos hi];rfl
def Bcn(f:Int)(i:Nat):XP (XP f i C) i B=XP f i B:=by unfold XP;simp only[g2_,e4_,g5_,Ato];congr 1;apply aE;intro j hj;simp only[BitVec.getLsbD_or,f6_,BitVec.getLsbD_not];cases(bv f).getLsbD j<;>cases(BitVec.twoPow 32 i).getLsbD j<;>simp[hj]
end Go.Ovl
namespace Go.Ovl
open Go Go.Ab
def Awu(x y:Int):J.wrap (stk x y (aB (aA (IntKind.bits .u32) x|||BitVec.ofInt (IntKind.bits .u32) y)))=vb (bv x|||bv y):=by rw[KH];exact TE _
def Aap(x y:Int):J.wrap (stk x y (aB (aA (IntKind.bits .u32) x&&&aA (IntKind.bits .u32) y)))=vb (bv x&&&bv y):=by rw[KH];exact TE _
def OX(x y:Int):J.wrap (stk x y (aB (aA (IntKind.bits .u32) x&&& ~~~ aA (IntKind.bits .u32) y)))=vb (bv x&&& ~~~ bv y):=by rw[KH];exact TE _
def TV(b:BitVec 32)(i:Nat):CZ (vb b) i=b.getLsbD i:=by unfold CZ;rw[Ato]
def Ard{k:Nat}(h:k<32)(i:Nat):CZ (O J (1*2^min k (IntKind.bits .u32))) i=decide (i=k):=by
 unfold CZ;rw[Amj,if_pos h,BitVec.getLsbD_twoPow];by_cases e:i=k
 ·subst e;simp[h]
 ·simp[e,e9_ e]
structure Bldg where
 C0:Int
 F0:Int
 H0:Int
 M0:Int
 K0:Nat
 L0:Nat
 N0:Nat
 B0:List Car
def BT{α:Type}{l:List α}{i:Nat}(d:α)(h:i<l.length):l.drop i=l.getD i d::l.drop (i+1):=by rw[h5_ h];simp[h]
def inR(D hi n:Int):Bool:=decide (D≤n)&&decide (n≤hi)
def As{D hi n:Int}:inR D hi n=B↔D≤n∧n≤hi:=by simp[inR]
def Ch(D hi:Int){l:List Int}(hl:l.length≤maxLen):BP D hi l=A ((l.all (inR D hi),()),()):=by
 have hm:maxLen≤9223372036854775807:=by decide
 have key:∀(m i:Nat),i+m=l.length→BX (λx=>Ca x.1.1 x.1.2.1 x.1.2.2.1 x.1.2.2.2.1 x.1.2.2.2.2.1) (m+1) ((D,hi,l,(l.length:Int),(i:Int),()),())=A (if(l.drop i).all (inR D hi)then .inl ((),())else .inr ((C,()),())):=by
  intro m;induction m with
  |zero=>
   intro i hi';refine AE ?_;show Ca D hi l (l.length:Int) (i:Int)=_;unfold Ca;have e:decide ((i:Int)<(l.length:Int))=C:=by simp;omega
   rw[e,show i=l.length by omega];simp
  |succ m ih=>
   intro i hi';have e:decide ((i:Int)<(l.length:Int))=B:=by simp;omega
   have ib:inB (i:Int) l.length=B:=Ac ω ω;have tn:Int.toNat (i:Int)=i:=ω;have w:H.wrap ((i:Int)+1)=((i+1:Nat):Int):=by rw[Aa ω ω];omega
   rw[BT (0:Int) (ω:i<l.length)];by_cases h1:l.getD i 0<D
   ·refine(AE (y:=.inr ((C,()),())) ?_).trans ?_
    ·show Ca D hi l (l.length:Int) (i:Int)=_;unfold Ca;have d1:decide (l.getD i 0<D)=B:=by simpa using h1
     simp only[e,ib,tn,d1,d_]
    ·have:inR D hi (l.getD i 0)=C:=by rw[inR,show decide (D≤l.getD i 0)=C from f_ ω,a8_]
     rw[Z_,this];rfl
   ·have d1:decide (l.getD i 0<D)=C:=by simpa using h1
    by_cases h2:hi<l.getD i 0
    ·refine(AE (y:=.inr ((C,()),())) ?_).trans ?_
     ·show Ca D hi l (l.length:Int) (i:Int)=_;unfold Ca;have d2:decide (hi<l.getD i 0)=B:=by simpa using h2
      simp only[e,ib,tn,d1,d2,d_,c_]
     ·have:inR D hi (l.getD i 0)=C:=by rw[inR,show decide (l.getD i 0≤hi)=C from f_ ω,c1_]
      rw[Z_,this];rfl
    ·have d2:decide (hi<l.getD i 0)=C:=by simpa using h2
     refine(BO (x':=((D,hi,l,(l.length:Int),((i+1:Nat):Int),()),())) ?_).trans ?_
     ·show Ca D hi l (l.length:Int) (i:Int)=_;unfold Ca;simp only[e,ib,tn,d1,d2,w,d_,c_]
     ·have:inR D hi (l.getD i 0)=B:=As.2 ⟨ω,ω⟩
      rw[ih (i+1) ω,Z_,this];rfl
 unfold BP;have h0:IB ((D,hi,l,(l.length:Int),(0:Int),()),())=_:=Ak (key l.length 0 ω) ω;rw[h0];rw[P_];cases l.all (inR D hi)<;>rfl
def LS(n D hi:Int):Hy n D hi=A ((inR D hi n,()),()):=by unfold Hy inR;cases h:decide (D≤n)<;>simp
def Co(fl:Int)(c:Car):Bool:=[c.I1,c.L3,c.Q3,c.T3,c.N2,c.M2,c.U3].all (inR 1 10000)&&(inR 0 10000 c.K2&&(decide (c.M2≤c.U3)&&inR 0 (O H (fl-1)) c.D4))
def Yk(fl:Int)(c:Car):KV c.I1 c.L3 c.Q3 c.K2 c.T3 c.N2 c.M2 c.U3 c.D4 fl=A ((Co fl c,()),()):=by
 have hm:7≤maxLen:=by decide
 unfold KV Co;rw[Ch 1 10000 (l:=[c.I1,c.L3,c.Q3,c.T3,c.N2,c.M2,c.U3]) (by simpa using hm)];generalize [c.I1,c.L3,c.Q3,c.T3,c.N2,c.M2,c.U3].all (inR 1 10000)=a;rw[Ch 0 10000 (l:=[c.K2]) (by simp;omega),Ch 0 _ (l:=[c.D4]) (by simp;omega)];simp only[E,Z_,aC,d5_];cases a
 ·rfl
 ·cases inR 0 10000 c.K2
  ·rfl
  ·by_cases h:c.M2≤c.U3
   ·have:decide (c.M2≤c.U3)=B:=by simpa using h
    simp only[this,d_,E,u_]
   ·have:decide (c.M2≤c.U3)=C:=by simpa using h
    simp only[this,d_,c_,E,u_,a8_]
def Bldg.tup(b:Bldg):Int×Int×Int×Int×Nat×Nat×Nat×List Car×Unit:=(b.C0,b.F0,b.H0,b.M0,b.K0,b.L0,b.N0,b.B0,())
def Car.tup(c:Car):Int×Int×Int×Int×Int×Int×Int×Int×Int×Unit:=(c.I1,c.L3,c.Q3,c.K2,c.T3,c.N2,c.M2,c.U3,c.D4,())
def Ahz(b:Bldg)(c:Car){L:List Int}(hL:L.length=8) :
  Ot (((),(),L,(0:Int),()),(b.tup,c.tup,()))=A (if(L.take 7).all (inR 1 10000)then .inl (((),(),()),(b.tup,c.tup,()))else .inr ((C,()),())):=by
 have key:∀(m i:Nat),i+m=7→BX (λx=>letI a:=x.2.2.1.2.2;letI d:=x.2.1.2.2;letI f:=a.2.2;letI g:=d.2.2;Ga x.1.2.2.1 x.1.2.2.2.1 x.2.1.1 x.2.1.2.1 d.1 d.2.1 g.1 g.2.1 g.2.2.1 g.2.2.2.1 x.2.2.1.1 x.2.2.1.2.1 a.1 a.2.1 f.1 f.2.1 f.2.2.1 f.2.2.2.1 f.2.2.2.2.1) (m+1) (((),(),L,(i:Int),()),(b.tup,c.tup,()))=A (if((L.take 7).drop i).all (inR 1 10000)then .inl (((),(),()),(b.tup,c.tup,()))else .inr ((C,()),())):=by
  intro m;induction m with
  |zero=>
   intro i hi';refine AE ?_;show Ga L (i:Int) b.C0 b.F0 b.H0 b.M0 b.K0 b.L0 b.N0 b.B0 c.I1 c.L3 c.Q3 c.K2 c.T3 c.N2 c.M2 c.U3 c.D4=_;unfold Ga;have e:decide ((i:Int)<7)=C:=by simp;omega
   have hd:(L.take 7).drop i=[]:=List.drop_eq_nil_of_le (by simp;omega);rw[e,hd];rfl
  |succ m ih=>
   intro i hi';have e:decide ((i:Int)<7)=B:=by simp;omega
   have ib:inB (i:Int) L.length=B:=Ac ω ω;have tn:Int.toNat (i:Int)=i:=ω;have w:H.wrap ((i:Int)+1)=((i+1:Nat):Int):=by rw[Aa ω ω];omega
   have hg:(L.take 7).getD i 0=L.getD i 0:=by simp only[k_,List.getElem?_take];rw[if_pos ω]
   rw[BT (0:Int) (show i<(L.take 7).length by simp;omega),hg,Z_];cases hr:inR 1 10000 (L.getD i 0)with
   |false=>refine(AE (y:=.inr ((C,()),())) ?_).trans rfl;show Ga L (i:Int) b.C0 b.F0 b.H0 b.M0 b.K0 b.L0 b.N0 b.B0 c.I1 c.L3 c.Q3 c.K2 c.T3 c.N2 c.M2 c.U3 c.D4=_;unfold Ga;simp only[e,ib,tn,LS,hr,d_,E,d4_]
   |true=>
    refine(BO (x':=(((),(),L,((i+1:Nat):Int),()),(b.tup,c.tup,()))) ?_).trans ?_
    ·show Ga L (i:Int) b.C0 b.F0 b.H0 b.M0 b.K0 b.L0 b.N0 b.B0 c.I1 c.L3 c.Q3 c.K2 c.T3 c.N2 c.M2 c.U3 c.D4=_;unfold Ga;simp only[e,ib,tn,w,LS,hr,d_,c_,E,o_];rfl
    ·rw[ih (i+1) ω,u_]
 have h0:=key 7 0 rfl;rw[P_]at h0;exact Ak h0 ω
def Agb(b:Bldg)(c:Car):Ro b.C0 b.F0 b.H0 b.M0 b.K0 b.L0 b.N0 b.B0 c.I1 c.L3 c.Q3 c.K2 c.T3 c.N2 c.M2 c.U3 c.D4=A ((Co b.C0 c,()),()):=by
 unfold Ro Co;by_cases h1:c.K2<0
 ·have d1:decide (c.K2<0)=B:=by simpa using h1
  have d2:inR 0 10000 c.K2=C:=by rw[inR,show decide (0≤c.K2)=C from f_ ω,a8_]
  rw[d1,d_,d2,a8_,c1_]
 ·have d1:decide (c.K2<0)=C:=by simpa using h1
  rw[d1,c_];by_cases h2:10000<c.K2
  ·have d1:decide (10000<c.K2)=B:=by simpa using h2
   have d2:inR 0 10000 c.K2=C:=by rw[inR,show decide (c.K2≤10000)=C from f_ ω,c1_]
   rw[d1,d_,d2,a8_,c1_]
  ·have d1:decide (10000<c.K2)=C:=by simpa using h2
   have d2:inR 0 10000 c.K2=B:=As.2 ⟨ω,ω⟩;rw[d1,c_,d2,u_];have hl:=Ahz b c (L:=[c.I1,c.L3,c.Q3,c.T3,c.N2,c.M2,c.U3,H.wrap (c.K2+1)]) rfl;rw[show([c.I1,c.L3,c.Q3,c.T3,c.N2,c.M2,c.U3,H.wrap (c.K2+1)].take 7)=[c.I1,c.L3,c.Q3,c.T3,c.N2,c.M2,c.U3]from rfl]at hl;simp only[Bldg.tup,Car.tup]at hl;rw[hl];cases [c.I1,c.L3,c.Q3,c.T3,c.N2,c.M2,c.U3].all (inR 1 10000)with
   |false=>rfl
   |true=>
    simp only[g2_,E,u_,LS];by_cases h:c.M2≤c.U3
    ·have:decide (c.M2≤c.U3)=B:=by simpa using h
     simp only[this,d_,E,u_]
    ·have:decide (c.M2≤c.U3)=C:=by simpa using h
     simp only[this,c_,E,a8_]
def Bldg.loadsOK(b:Bldg):Bool:=((Go.FloatKind.format Go.FloatKind.f64).order 0 b.K0==A Ordering.lt)&&(((Go.FloatKind.format Go.FloatKind.f64).order b.K0 b.L0==A Ordering.lt)&&(((Go.FloatKind.format Go.FloatKind.f64).order b.L0 b.N0==A Ordering.lt)&&((Go.FloatKind.format Go.FloatKind.f64).order b.N0 9218868437227405311==A Ordering.lt||(Go.FloatKind.format Go.FloatKind.f64).order b.N0 9218868437227405311==A Ordering.eq)))
def Bldg.code(b:Bldg):Int:=
 bif !inR 2 32 b.C0 then 10 else bif !inR 1 8 (b.B0.length:Int)then 11 else
 bif !(inR 1 16 b.F0&&inR 1 10000 b.M0&&b.B0.all (Co b.C0))then 12 else bif !b.loadsOK then 13 else
 bif !inR (18*(b.B0.length:Int)+24) 65536 b.H0 then 14 else 0
def Fb:Car:=⟨0,0,0,0,0,0,0,0,0⟩
def Yl(b:Bldg)(hl:b.B0.length≤8)(g:Bool) :
  Jm (((),g,b.B0,(b.B0.length:Int),(0:Int),()),(b.tup,()))=A (((),g&&b.B0.all (Co b.C0),()),(b.tup,())):=by
 have key:∀(m i:Nat) (g:Bool),i+m=b.B0.length→BX (λx=>letI a:=x.2.1.2.2;letI c:=a.2.2;Fk x.1.2.1 x.1.2.2.1 x.1.2.2.2.1 x.1.2.2.2.2.1 x.2.1.1 x.2.1.2.1 a.1 a.2.1 c.1 c.2.1 c.2.2.1 c.2.2.2.1) (m+1) (((),g,b.B0,(b.B0.length:Int),(i:Int),()),(b.tup,()))=A (((),g&&(b.B0.drop i).all (Co b.C0),()),(b.tup,())):=by
  intro m;induction m with
  |zero=>
   intro i g hi';refine AE ?_;show Fk g b.B0 (b.B0.length:Int) (i:Int) b.C0 b.F0 b.H0 b.M0 b.K0 b.L0 b.N0 b.B0=_;unfold Fk;have e:decide ((i:Int)<(b.B0.length:Int))=C:=by simp;omega
   rw[e,show i=b.B0.length by omega,a7_];simp only[c_,aC,d5_,Bldg.tup]
  |succ m ih=>
   intro i g hi';have e:decide ((i:Int)<(b.B0.length:Int))=B:=by simp;omega
   have ib:inB (i:Int) b.B0.length=B:=Ac ω ω;have tn:Int.toNat (i:Int)=i:=ω;have w:H.wrap ((i:Int)+1)=((i+1:Nat):Int):=by rw[Aa ω ω];omega
   rw[BT Fb (ω:i<b.B0.length),Z_];refine(BO (x':=(((),g&&Co b.C0 (b.B0.getD i Fb),b.B0,(b.B0.length:Int),((i+1:Nat):Int),()),(b.tup,()))) ?_).trans ?_
   ·show Fk g b.B0 (b.B0.length:Int) (i:Int) b.C0 b.F0 b.H0 b.M0 b.K0 b.L0 b.N0 b.B0=_;unfold Fk;simp only[e,ib,tn,d_];rw[Yk b.C0 (b.B0.getD i ⟨0,0,0,0,0,0,0,0,0⟩)];cases g
    ·simp only[c_,E,a8_,w];rfl
    ·simp only[d_,E,u_,w];rfl
   ·rw[ih (i+1) _ ω,Bool.and_assoc]
 have h0:=key b.B0.length 0 g ω;rw[P_]at h0;exact Ak h0 ω
def Ahy(b:Bldg)(hl:b.B0.length≤8)(g:Bool) :
  Oq (((),g,(0:Int),()),(b.tup,()))=A (((),g&&b.B0.all (Co b.C0),()),(b.tup,())):=by
 have key:∀(m i:Nat) (g:Bool),i+m=b.B0.length→BX (λx=>letI a:=x.2.1.2.2;letI c:=a.2.2;IQ x.1.2.1 x.1.2.2.1 x.2.1.1 x.2.1.2.1 a.1 a.2.1 c.1 c.2.1 c.2.2.1 c.2.2.2.1) (m+1) (((),g,(i:Int),()),(b.tup,()))=A (((),g&&(b.B0.drop i).all (Co b.C0),()),(b.tup,())):=by
  intro m;induction m with
  |zero=>
   intro i g hi';refine AE ?_;show IQ g (i:Int) b.C0 b.F0 b.H0 b.M0 b.K0 b.L0 b.N0 b.B0=_;unfold IQ;have e:decide ((i:Int)<(b.B0.length:Int))=C:=by simp;omega
   rw[e,show i=b.B0.length by omega,a7_];simp only[c_,aC,d5_,Bldg.tup]
  |succ m ih=>
   intro i g hi';have e:decide ((i:Int)<(b.B0.length:Int))=B:=by simp;omega
   have ib:inB (i:Int) b.B0.length=B:=Ac ω ω;have tn:Int.toNat (i:Int)=i:=ω;have w:H.wrap ((i:Int)+1)=((i+1:Nat):Int):=by rw[Aa ω ω];omega
   rw[BT Fb (ω:i<b.B0.length),Z_];refine(BO (x':=(((),g&&Co b.C0 (b.B0.getD i Fb),((i+1:Nat):Int),()),(b.tup,()))) ?_).trans ?_
   ·show IQ g (i:Int) b.C0 b.F0 b.H0 b.M0 b.K0 b.L0 b.N0 b.B0=_;unfold IQ;simp only[e,ib,tn,d_];rw[Agb b (b.B0.getD i ⟨0,0,0,0,0,0,0,0,0⟩)];cases g
    ·simp only[c_,E,a8_,w];rfl
    ·simp only[d_,E,u_,w];rfl
   ·rw[ih (i+1) _ ω,Bool.and_assoc]
 have h0:=key b.B0.length 0 g ω;rw[P_]at h0;exact Ak h0 ω
def Yj(b:Bldg):KU b.C0 b.F0 b.H0 b.M0 b.K0 b.L0 b.N0 b.B0=A ((b.loadsOK,()),()):=by
 unfold KU Bldg.loadsOK;cases(Go.FloatKind.format Go.FloatKind.f64).order 0 b.K0==A Ordering.lt
 ·rfl
 cases(Go.FloatKind.format Go.FloatKind.f64).order b.K0 b.L0==A Ordering.lt
 ·rfl
 cases(Go.FloatKind.format Go.FloatKind.f64).order b.L0 b.N0==A Ordering.lt
 ·rfl
 rfl
def AR(b:Bldg):AK b.C0 b.F0 b.H0 b.M0 b.K0 b.L0 b.N0 b.B0=A ((b.code,()),()):=by
 have hm:8≤maxLen:=by decide
 unfold AK Bldg.code;rw[Ch 2 32 (l:=[b.C0]) (by simp;omega),Ch 1 8 (l:=[(b.B0.length:Int)]) (by simp;omega),Ch 1 16 (l:=[b.F0]) (by simp;omega),Ch 1 10000 (l:=[b.M0]) (by simp;omega)];simp only[E,Z_,aC,d5_];cases inR 2 32 b.C0
 ·rfl
 cases hc:inR 1 8 (b.B0.length:Int)
 ·rfl
 have hlen:b.B0.length≤8:=by have:=(As.1 hc).2;omega
 have hg:(bif inR 1 16 b.F0 then A (((),inR 1 10000 b.M0,()),(b.tup,()))else A (((),C,()),(b.tup,())))=A (((),inR 1 16 b.F0&&inR 1 10000 b.M0,()),(b.tup,())):=by cases inR 1 16 b.F0<;>rfl
 simp only[Bldg.tup]at hg;simp only[o_,c_,hg,E];have hl:=Yl b hlen (inR 1 16 b.F0&&inR 1 10000 b.M0);simp only[Bldg.tup]at hl;rw[hl,E];cases inR 1 16 b.F0&&inR 1 10000 b.M0&&b.B0.all (Co b.C0)
 ·rfl
 simp only[o_,c_];rw[Yj b,E];cases b.loadsOK
 ·rfl
 simp only[o_,c_];rw[show H.wrap (O H (18*(b.B0.length:Int))+24)=18*(b.B0.length:Int)+24 by rw[Aa (n:=18*(b.B0.length:Int)) ω ω,Aa ω ω],
  Ch _ 65536 (l:=[b.H0]) (by simp;omega)]
 simp only[E,Z_,aC,d5_];cases inR (18*(b.B0.length:Int)+24) 65536 b.H0<;>rfl
def Ia(b:Bldg):Fw b.C0 b.F0 b.H0 b.M0 b.K0 b.L0 b.N0 b.B0=A ((b.code,()),()):=by
 unfold Fw Bldg.code;simp only[LS,E];cases inR 2 32 b.C0
 ·rfl
 cases hc:inR 1 8 (b.B0.length:Int)
 ·rfl
 have hlen:b.B0.length≤8:=by have:=(As.1 hc).2;omega
 have hg:(bif inR 1 16 b.F0 then A (((),inR 1 10000 b.M0,()),(b.tup,()))else A (((),C,()),(b.tup,())))=A (((),inR 1 16 b.F0&&inR 1 10000 b.M0,()),(b.tup,())):=by cases inR 1 16 b.F0<;>rfl
 simp only[Bldg.tup]at hg;simp only[o_,c_,hg,E];have hl:=Ahy b hlen (inR 1 16 b.F0&&inR 1 10000 b.M0);simp only[Bldg.tup]at hl;rw[hl,E];cases inR 1 16 b.F0&&inR 1 10000 b.M0&&b.B0.all (Co b.C0)
 ·rfl
 simp only[o_,c_];unfold Bldg.loadsOK;cases(Go.FloatKind.format Go.FloatKind.f64).order 0 b.K0==A Ordering.lt
 ·rfl
 cases(Go.FloatKind.format Go.FloatKind.f64).order b.K0 b.L0==A Ordering.lt
 ·rfl
 cases(Go.FloatKind.format Go.FloatKind.f64).order b.L0 b.N0==A Ordering.lt
 ·rfl
 simp only[d_,u_];cases((Go.FloatKind.format Go.FloatKind.f64).order b.N0 9218868437227405311==A Ordering.lt||(Go.FloatKind.format Go.FloatKind.f64).order b.N0 9218868437227405311==A Ordering.eq)
 ·rfl
 simp only[o_,c_];rw[show H.wrap (O H (18*(b.B0.length:Int))+24)=18*(b.B0.length:Int)+24 by rw[Aa (n:=18*(b.B0.length:Int)) ω ω,Aa ω ω]];cases inR (18*(b.B0.length:Int)+24) 65536 b.H0<;>rfl
def Gd(fl i:Nat):Car:=⟨100,2,6,5,4,2,3,10,((i%fl:Nat):Int)⟩
def AH(fl ca:Nat):Bldg:=⟨fl,1,4000,30,4591870180066957722,4605380978949069210,4607632778762754458,(List.range ca).map (Gd fl)⟩
def Bldg.none:Bldg:=⟨0,0,0,0,0,0,0,[]⟩
def Adp{fl ca:Nat}(h1:1≤fl)(h2:ca≤8):MF fl ca=A (((),()),((AH fl ca).tup,())):=by
 have key:∀(m i:Nat),i+m=ca→BX (λx=>letI a:=x.2.2.1.2.2;letI b:=x.2.1.2.2;letI d:=b.2.2;letI f:=a.2.2;Ic x.1.1 x.1.2.1 x.1.2.2.2.2.1 x.2.1.1 x.2.1.2.1 b.1 b.2.1 d.1 d.2.1 d.2.2.1 d.2.2.2.1 x.2.2.1.1 x.2.2.1.2.1 a.1 a.2.1 f.1 f.2.1 f.2.2.1 f.2.2.2.1) (m+1) (((fl:Int),(ca:Int),(),(),(i:Int),()),(Bldg.none.tup,(AH fl i).tup,()))=A (((),(),()),(Bldg.none.tup,(AH fl ca).tup,())):=by
  intro m;induction m with
  |zero=>
   intro i hi';refine AE ?_;show Ic (fl:Int) (ca:Int) (i:Int) Bldg.none.C0 Bldg.none.F0 Bldg.none.H0 Bldg.none.M0 Bldg.none.K0 Bldg.none.L0 Bldg.none.N0 Bldg.none.B0 (AH fl i).C0 (AH fl i).F0 (AH fl i).H0 (AH fl i).M0 (AH fl i).K0 (AH fl i).L0 (AH fl i).N0 (AH fl i).B0=_;unfold Ic;have e:decide ((i:Int)<(ca:Int))=C:=by simp;omega
   rw[e,show i=ca by omega];rfl
  |succ m ih=>
   intro i hi';refine(BO (x':=(((fl:Int),(ca:Int),(),(),((i+1:Nat):Int),()),(Bldg.none.tup,(AH fl (i+1)).tup,()))) ?_).trans (ih (i+1) ω);show Ic (fl:Int) (ca:Int) (i:Int) Bldg.none.C0 Bldg.none.F0 Bldg.none.H0 Bldg.none.M0 Bldg.none.K0 Bldg.none.L0 Bldg.none.N0 Bldg.none.B0 (AH fl i).C0 (AH fl i).F0 (AH fl i).H0 (AH fl i).M0 (AH fl i).K0 (AH fl i).L0 (AH fl i).N0 (AH fl i).B0=_;unfold Ic;have e:decide ((i:Int)<(ca:Int))=B:=by simp;omega
   have w:H.wrap ((i:Int)+1)=((i+1:Nat):Int):=by rw[Aa ω ω];omega
   have hz:((fl:Int) !=0)=B:=by simp;omega
   have hc:∀c:Car,Nat.ble ((AH fl i).B0.length+[c].length) 2147483648=B:=λc=>Az (by simp[AH];omega);have ht:Int.tmod (i:Int) (fl:Int)=((i%fl:Nat):Int):=by rw[e2_ ω];norm_cast
   simp only[e,hz,hc,w,ht,d_];have hs:(AH fl (i+1)).B0=(AH fl i).B0++[Gd fl i]:=by simp[AH,List.range_succ]
   simp only[Bldg.tup,hs];rfl
 unfold MF;have h0:Kl (((fl:Int),(ca:Int),(),(),(0:Int),()),(Bldg.none.tup,(AH fl 0).tup,()))=_:=Ak (key ca 0 ω) ω;rw[show Kl (((fl:Int),(ca:Int),(),(),(0:Int),()),(((0:Int),(0:Int),(0:Int),(0:Int),0,0,0,([]:List Car),()),((fl:Int),(1:Int),(4000:Int),(30:Int),4591870180066957722,4605380978949069210,4607632778762754458,([]:List Car),()),()))=_ from h0];rfl
def Ll(fl ca:Nat)(room:Int):Bldg:={ AH fl ca with H0:=18*(ca:Int)+24+room }
def Atg{fl ca:Nat}(h1:2≤fl)(h2:fl≤8)(h3:1≤ca)(h4:ca≤3){room:Int}(hr:0≤room∧room<256):(Ll fl ca room).code=0:=by
 have hl:(Ll fl ca room).B0.length=ca:=by simp[Ll,AH]
 unfold Bldg.code;have e1:inR 2 32 (Ll fl ca room).C0=B:=As.2 (by simp only[Ll,AH];omega);have e2:inR 1 8 ((Ll fl ca room).B0.length:Int)=B:=As.2 ω;have e3:inR 1 16 (Ll fl ca room).F0=B:=rfl;have e4:inR 1 10000 (Ll fl ca room).M0=B:=rfl;have e5:(Ll fl ca room).B0.all (Co (Ll fl ca room).C0)=B:=by
  rw[N_];intro c hc;obtain⟨i,_,rfl⟩:=b6_.1 hc;have hm:i%fl<fl:=g0_ _ ω
  have:inR 0 (O H ((fl:Int)-1)) ((i%fl:Nat):Int)=B:=by rw[Aa ω ω];exact As.2 ω
  show Co (fl:Int) (Gd fl i)=B;unfold Co Gd;simp only[this];rfl
 have e6:(Ll fl ca room).loadsOK=B:=by
  show(AH 2 1).loadsOK=B
  kernel_rfl
 have e7:inR (18*((Ll fl ca room).B0.length:Int)+24) 65536 (Ll fl ca room).H0=B:=As.2 (by rw[hl];simp only[Ll];omega);rw[e1,e2,e3,e4,e5,e6,e7];rfl
variable{α:Type}{b:Bldg}{i:Nat}{l:List α}
structure Bldg.small(b:Bldg):Prop where
 lo:2≤b.C0
 hi:b.C0≤8
def u8r(n:Int):Prop:=0≤n∧n<256
def Btz:u8r 0:=⟨τ,τ⟩
def BU(d:α)(hi:i<l.length):l.getD i d∈l:=by simp only[k_,j_ hi,Option.getD_some];exact b2_ hi
def Anh{P:α→Prop}(h:∀e∈l,P e){d:α}(hi:i<l.length):P (l.getD i d):=h _ (BU d hi)
def Aj(h:b.code=0):1≤b.B0.length∧b.B0.length≤8:=by
 unfold Bldg.code at h;cases h1:inR 1 8 (b.B0.length:Int)with
 |true=>have:=As.1 h1;omega
 |false=>rw[h1]at h;cases h2:inR 2 32 b.C0<;>rw[h2]at h<;>simp at h
def YE(h:b.code=0):18*(b.B0.length:Int)+24≤b.H0∧b.H0≤65536:=by
 unfold Bldg.code at h;cases h1:inR (18*(b.B0.length:Int)+24) 65536 b.H0 with
 |true=>exact As.1 h1
 |false=>rw[h1]at h;simp only[d4_,d_]at h;revert h;cases inR 2 32 b.C0<;>cases inR 1 8 (b.B0.length:Int)<;>cases inR 1 16 b.F0<;>cases inR 1 10000 b.M0<;>cases b.B0.all (Co b.C0)<;>cases b.loadsOK<;>(intro h;simp at h)
end Go.Ovl
namespace Go.Ovl
open Go Go.Ab
variable{b:Bldg}{l:List V}{i:Nat}{α:Type}
def OV{n:Nat}(h:i<n):decide ((i:Int)<(n:Int))=B:=b_ ω
def Ht{n:Nat}(h:i<n):inB (i:Int) n=B:=Ac ω ω
def Lq(n:Nat):decide ((n:Int)<(n:Int))=C:=f_ (M_ _)
def Ae{β:Type}{o:Option α}{a:α}{f:α→Option β}{r:Option β}(h:o=A a)(h2:f a=r):U o f=r:=by subst h;exact h2
def Bka{l:List α}(d:α)(hi:i<l.length):l.drop i=l.getD i d::l.drop (i+1):=by rw[h5_ hi,k_,j_ hi];rfl
def Anu{X Y:Type}{step:X→Option (Sum X Y)}(N:Nat)(g:Nat→X)(y:Y)(h1:∀i,i<N→step (g i)=A (.inl (g (i+1))))(h2:step (g N)=A (.inr y)):∀m i:Nat,i+m=N→BX step (m+1) (g i)=A y
 |0,i,hi=>by obtain rfl:i=N:=ω;exact AE h2
 |m+1,i,hi=>(BO (h1 i ω)).trans (Anu N g y h1 h2 m (i+1) ω)
def Ajb{X Y α:Type}{step:X→Option (Sum X Y)}(l:List α)(d:α)(p:α→Bool)(g:Nat→X)(y:Y)(z:α→Y)
  (h1:∀i,i<l.length→step (g i)=A (bif p (l.getD i d)then .inl (g (i+1))else .inr (z (l.getD i d)))) (h2:step (g l.length)=A (.inr y)) :
  ∀m i:Nat,i+m=l.length→BX step (m+1) (g i)=A (match(l.drop i).find? (λx=>!p x)with | none=>y | some x=>z x)
 |0,i,hi=>by obtain rfl:i=l.length:=ω;rw[a7_];exact AE h2
 |m+1,i,hi=>by
  have hlt:i<l.length:=ω;rw[Bka d hlt];have h:=h1 i hlt;cases hp:p (l.getD i d)with
  |true=>rw[hp,d_]at h;rw[BO h,Ajb l d p g y z h1 h2 m (i+1) ω,List.find?_cons,hp];rfl
  |false=>rw[hp,c_]at h;rw[AE h,List.find?_cons,hp];rfl
def Bev{β:Type}(p:α→Bool)(y z:β)(l:List α):(match l.find? (λx=>!p x)with | none=>y | some _=>z)=bif l.all p then y else z:=by
 induction l with
 |nil=>rfl
 |cons a l ih=>
  rw[List.find?_cons,Z_];cases p a
  ·rfl
  ·exact ih
def Ue(x y:Int):decide (x<y)=!decide (y≤x):=by by_cases h:y≤x<;>simp[h]<;>omega
def Boo(x y:Int):decide (x≤y)=!decide (y<x):=by by_cases h:y<x<;>simp[h]<;>omega
def noE:V:=Entry.mk 0 0 0 0 C
structure Img where
 G0:List Int
 O0:List Bool
 J0:List Bool
 A0:List Entry
def Img.tup(m:Img):List Int×List Bool×List Bool×List V×Unit:=(m.G0,m.O0,m.J0,m.A0,())
def Img.none:Img:=⟨[],[],[],[]⟩
def OA(fl floor dir:Int):Bool:=(dir==1&&inR 0 (fl-2) floor)||(dir==2&&inR 1 (fl-1) floor)
def YA{fl:Int}(h:0≤fl∧fl<100)(floor dir:Int):JN fl floor dir=A ((OA fl floor dir,()),()):=by
 have w1:H.wrap (fl-1)=fl-1:=Aa ω ω;have w2:H.wrap (fl-2)=fl-2:=Aa ω ω;have k:∀D hi:Int,BP D hi [floor]=A ((inR D hi floor,()),()):=λD hi=>by rw[Ch D hi (show [floor].length≤maxLen from(show 1≤maxLen by decide))];simp
 unfold JN OA;rw[w1,w2,k,k];cases dir==1<;>cases dir==2<;>cases inR 0 (fl-2) floor<;>rfl
def Ap(b:Bldg)(floor dir:Int):Bool:=b.code==0&&OA b.C0 floor dir
def MR(hb:b.small)(floor dir:Int):FT b.C0 b.F0 b.H0 b.M0 b.K0 b.L0 b.N0 b.B0 floor dir=A ((Ap b floor dir,()),()):=by unfold FT Ap;rw[AR,YA ⟨by have:=hb.lo;omega,by have:=hb.hi;omega⟩];simp only[E];cases b.code==0<;>rfl
def LO(hb:b.small)(floor dir:Int):Io b.C0 b.F0 b.H0 b.M0 b.K0 b.L0 b.N0 b.B0 floor dir=A ((Ap b floor dir,()),()):=by have D:=hb.lo;have hi:=hb.hi;have w1:H.wrap (b.C0-1)=b.C0-1:=Aa ω ω;have w2:H.wrap (b.C0-2)=b.C0-2:=Aa ω ω;unfold Io Ap OA;rw[Ia,w1,w2,LS,LS];simp only[E,bne];cases b.code==0<;>cases dir==1<;>cases dir==2<;>cases inR 0 (b.C0-2) floor<;>rfl
def HN(b:Bldg)(e:V):Bool:=Ap b e.D0 e.I0&&(decide (-2≤e.R0)&&(decide (e.R0<(b.B0.length:Int))&&(decide (0≤e.Z0)&&decide (e.Z0≤255))))
def Ahl(hb:b.small)(e:V):Od b.C0 b.F0 b.H0 b.M0 b.K0 b.L0 b.N0 b.B0 e.D0 e.I0 e.R0 e.Z0 e.R1=A ((HN b e,()),()):=by unfold Od HN;rw[MR hb];simp only[E];cases Ap b e.D0 e.I0<;>cases decide (-2≤e.R0)<;>cases decide (e.R0<(b.B0.length:Int))<;>cases decide (0≤e.Z0)<;>rfl
def Bp(a b:V):Bool:=decide (a.D0<b.D0)||(a.D0==b.D0&&decide (a.I0<b.I0))
def Aqt(a b:V):PE a.D0 a.I0 a.R0 a.Z0 a.R1 b.D0 b.I0 b.R0 b.Z0 b.R1=A ((Bp a b,()),()):=by unfold PE Bp;cases decide (a.D0<b.D0)<;>cases a.D0==b.D0<;>rfl
def WT(x y:Int):Int:=bif decide (x<y)then -1 else bif decide (y<x)then 1 else 0
def Ig(x y:Int):EB x y=A ((WT x y,()),()):=by unfold EB Mh WT;simp only[E,Q_,c_];cases decide (x<y)<;>cases decide (y<x)<;>rfl
def YD(x y:Int):MD [x,y]=A (((bif x !=0 then x else y),()),()):=by
 have r:∀(l:List Int) (i:Nat),i<l.length→l.length<100→Ko 0 l (l.length:Int) (i:Int)=A (bif l.getD i 0 !=0 then Sum.inr (Sum.inr ((l.getD i 0,()),()))else Sum.inl (((0:Int),l,(l.length:Int),((i+1:Nat):Int),()),())):=λl i hi hl=>by
  have w:H.wrap ((i:Int)+1)=((i+1:Nat):Int):=by rw[Aa ω ω];omega
  unfold Ko;rw[b_ (ω:(i:Int)<(l.length:Int)),Ac (ω:(0:Int)≤(i:Int)) (ω:(i:Int)<(l.length:Int)),h_,w];simp only[d_];cases l.getD i 0 !=0<;>rfl
 have r0:Ko 0 [x,y] 2 0=A (bif x !=0 then Sum.inr (Sum.inr ((x,()),()))else Sum.inl (((0:Int),[x,y],(2:Int),(1:Int),()),())):=r [x,y] 0 σ σ;have r1:Ko 0 [x,y] 2 1=A (bif y !=0 then Sum.inr (Sum.inr ((y,()),()))else Sum.inl (((0:Int),[x,y],(2:Int),(2:Int),()),())):=r [x,y] 1 σ σ;have h:Nu (((0:Int),[x,y],(2:Int),(0:Int),()),())=A (bif x !=0 then .inr ((x,()),())else bif y !=0 then .inr ((y,()),())else .inl (((0:Int),()),())):=by
  refine Ak (f:=3) ?_ ω;cases hx:x !=0 with
  |true=>rw[hx]at r0;exact AE r0
  |false=>
   rw[hx]at r0;refine(BO r0).trans ?_;cases hy:y !=0 with
   |true=>rw[hy]at r1;exact AE r1
   |false=>rw[hy]at r1;exact(BO r1).trans (AE rfl)
 unfold MD;rw[show((([x,y]:List Int).length:Nat):Int)=2 from rfl,h];cases hx:x !=0 with
 |true=>rfl
 |false=>
  cases hy:y !=0 with
  |true=>rfl
  |false=>
   have:y=0:=by simpa using hy
   subst this;rfl
def QW(a b:V):∃n:Int,IK a.D0 a.I0 a.R0 a.Z0 a.R1 b.D0 b.I0 b.R0 b.Z0 b.R1=A ((n,()),())∧decide (0≤n)=!Bp a b∧(n=0↔a.D0=b.D0∧a.I0=b.I0):=by
 unfold IK;rw[Ig,Ig];simp only[E];rw[YD];refine⟨_,rfl,?_,?_⟩
 ·unfold Bp WT;by_cases h1:a.D0<b.D0
  ·rw[b_ h1];rfl
  ·rw[f_ h1];by_cases h2:b.D0<a.D0
   ·rw[b_ h2,Ao (ω:¬a.D0=b.D0)];rfl
   ·rw[f_ h2,show(a.D0==b.D0)=B by simp;omega];by_cases h3:a.I0<b.I0
    ·rw[b_ h3];rfl
    ·rw[f_ h3];cases decide (b.I0<a.I0)<;>rfl
 ·unfold WT;by_cases h1:a.D0<b.D0
  ·rw[b_ h1];exact⟨(λh=>by cases h),(λh=>by omega)⟩
  ·rw[f_ h1];by_cases h2:b.D0<a.D0
   ·rw[b_ h2];exact⟨(λh=>by cases h),(λh=>by omega)⟩
   ·rw[f_ h2];by_cases h3:a.I0<b.I0
    ·rw[b_ h3];exact⟨(λh=>by cases h),(λh=>by omega)⟩
    ·rw[f_ h3];by_cases h4:b.I0<a.I0
     ·rw[b_ h4];exact⟨(λh=>by cases h),(λh=>by omega)⟩
     ·rw[f_ h4];exact⟨λ_=>⟨ω,ω⟩,λ_=>rfl⟩
def Gi(b:Bldg):Option V→List V→Bool
 |_,[]=>B
 |p,e::t=>HN b e&&((match p with | some q=>Bp q e | none=>B)&&Gi b (A e) t)
def Img.ok(b:Bldg)(m:Img):Bool:=b.code==0&&((m.G0.length:Int)==(b.B0.length:Int)&&((m.O0.length:Int)==(b.B0.length:Int)&&((m.J0.length:Int)==(b.B0.length:Int)&&(m.G0.all (inR 0 4)&&Gi b Option.none m.A0))))
def Qu(l:List V)(i:Nat):Option V:=if i=0 then W else A (l.getD (i-1) noE)
def Auz(h:i<l.length):Gi b (Qu l i) (l.drop i)=(HN b (l.getD i noE)&&((match Qu l i with | some q=>Bp q (l.getD i noE) | none=>B)&&Gi b (Qu l (i+1)) (l.drop (i+1)))):=by rw[BT noE h];simp only[Gi,Qu,Nat.succ_ne_zero,e4_,aG]
def Bcs{D hi v:Int}{a c:α}:(bif decide (v<D)then a else bif decide (hi<v)then a else c)=bif inR D hi v then c else a:=by unfold inR;rw[Ue v D,Ue hi v];cases decide (D≤v)<;>cases decide (v≤hi)<;>rfl
def wrM{n:Nat}(hn:n≤maxLen)(h:i<n):H.wrap ((i:Int)+1)=((i+1:Nat):Int):=by
 have:maxLen≤9223372036854775807:=by decide
 rw[Aa ω ω];omega
def wrP{j n:Nat}(hn:n≤maxLen)(h:j+1<n):H.wrap (((j+1:Nat):Int)-1)=(j:Int):=by
 have:maxLen≤9223372036854775807:=by decide
 rw[Aa ω ω];omega
def Aak{X Y:Type}{step:X→Option (Sum X Y)}{N:Nat}(hN:N≤maxLen)(g:Nat→X)(p q:Nat→Bool){y0 y1:Y}(hq:∀i,i<N→q i=(p i&&q (i+1)))(hN':q N=B)(h2:∀i,i<N→step (g i)=A (bif p i then .inl (g (i+1))else .inr y1))(h1:step (g N)=A (.inr y0)):BX step DT (g 0)=A (if q 0 then y0 else y1):=by
 have hmx:maxLen≤9223372036854775807:=by decide
 have key:∀k i:Nat,i+k=N→BX step (k+1) (g i)=A (if q i then y0 else y1):=by
  intro k;induction k with
  |zero=>intro i hi;obtain rfl:i=N:=ω;rw[hN'];exact AE h1
  |succ k ih=>
   intro i hi;have h:=h2 i ω;rw[hq i ω];cases hp:p i with
   |true=>rw[hp]at h;exact(BO h).trans (ih (i+1) ω)
   |false=>rw[hp]at h;exact AE h
 exact Ak (key N 0 ω) ω
def Am5(b:Bldg)(l:List V)(i:Nat):Bool:=HN b (l.getD i noE)&&(match Qu l i with | some q=>Bp q (l.getD i noE) | none=>B)
def Ait(h:i<l.length):Gi b (Qu l i) (l.drop i)=(Am5 b l i&&Gi b (Qu l (i+1)) (l.drop (i+1))):=by rw[Auz h,← Bool.and_assoc];rfl
section
variable{b:Bldg}(hb:b.small)(m:Img)
include hb
theorem Akr(hm:m.A0.length≤maxLen):Mu (((),(),m.A0,(m.A0.length:Int),(0:Int),()),(b.tup,m.tup,()))=A (if Gi b W m.A0 then .inl ((),())else .inr ((C,()),())):=by
 refine Aak (N:=m.A0.length) hm (λi=>(((),(),m.A0,(m.A0.length:Int),(i:Int),()),(b.tup,m.tup,()))) (Am5 b m.A0) (λi=>Gi b (Qu m.A0 i) (m.A0.drop i)) (λi hi=>Ait hi) (by rw[a7_];rfl) (λi hi=>?_) (by show Jt m.A0 (m.A0.length:Int) (m.A0.length:Int) b.C0 b.F0 b.H0 b.M0 b.K0 b.L0 b.N0 b.B0 m.G0 m.O0 m.J0 m.A0=_;unfold Jt;rw[Lq];rfl);have he:=Ahl hb (m.A0.getD i noE);unfold noE at he;show Jt m.A0 (m.A0.length:Int) (i:Int) b.C0 b.F0 b.H0 b.M0 b.K0 b.L0 b.N0 b.B0 m.G0 m.O0 m.J0 m.A0=_;unfold Jt Am5;rw[OV hi,Ht hi];simp only[d_,h_,he,E];unfold noE;cases HN b (m.A0.getD i (Entry.mk 0 0 0 0 C))with
 |false=>rfl
 |true=>
  simp only[o_,c_,u_];cases i with
  |zero=>rfl
  |succ j=>rw[b_ (ω:(0:Int)<((j+1:Nat):Int)),wrP hm hi,Ht (ω:j<m.A0.length)];obtain⟨n,c1,c2,_⟩:=QW (m.A0.getD j noE) (m.A0.getD (j+1) noE);unfold noE at c1 c2;simp only[d_,h_,c1,E,wrM hm hi,c2,Qu,Nat.succ_ne_zero,e4_,aG];unfold noE;cases Bp (m.A0.getD j (Entry.mk 0 0 0 0 C)) (m.A0.getD (j+1) (Entry.mk 0 0 0 0 C))<;>rfl
theorem Ak4(n:Int)(hn:n=(b.B0.length:Int))(hm:m.A0.length≤maxLen):Mw (((),(),n,(0:Int),()),(b.tup,m.tup,()))=A (if Gi b W m.A0 then .inl ((),())else .inr ((C,()),())):=by
 refine Aak (N:=m.A0.length) hm (λi=>(((),(),n,(i:Int),()),(b.tup,m.tup,()))) (Am5 b m.A0) (λi=>Gi b (Qu m.A0 i) (m.A0.drop i)) (λi hi=>Ait hi) (by rw[a7_];rfl) (λi hi=>?_) (by show Jv n (m.A0.length:Int) b.C0 b.F0 b.H0 b.M0 b.K0 b.L0 b.N0 b.B0 m.G0 m.O0 m.J0 m.A0=_;unfold Jv;rw[Lq];rfl);have hc:=LO hb (m.A0.getD i noE).D0 (m.A0.getD i noE).I0;show Jv n (i:Int) b.C0 b.F0 b.H0 b.M0 b.K0 b.L0 b.N0 b.B0 m.G0 m.O0 m.J0 m.A0=_;unfold Jv Am5 HN;rw[OV hi,Ht hi,show(Entry.mk 0 0 0 0 C)=noE from rfl];simp only[d_,h_,hc,E];rw[Ue (m.A0.getD i noE).R0 (-2),Boo n (m.A0.getD i noE).R0,Ue (m.A0.getD i noE).Z0 0,Ue 255 (m.A0.getD i noE).Z0,hn];cases Ap b (m.A0.getD i noE).D0 (m.A0.getD i noE).I0 with
 |false=>rfl
 |true=>
 cases decide (-2≤(m.A0.getD i noE).R0)with
 |false=>rfl
 |true=>
 cases decide ((m.A0.getD i noE).R0<(b.B0.length:Int))with
 |false=>rfl
 |true=>
 cases decide (0≤(m.A0.getD i noE).Z0)with
 |false=>rfl
 |true=>
 cases decide ((m.A0.getD i noE).Z0≤255)with
 |false=>rfl
 |true=>
  simp only[o_,c_,a0_,u_];cases i with
  |zero=>rfl
  |succ j=>have hl:=Aqt (m.A0.getD j noE) (m.A0.getD (j+1) noE);rw[b_ (ω:(0:Int)<((j+1:Nat):Int)),wrP hm hi,Ht (ω:j<m.A0.length)];simp only[d_,h_,hl,E,wrM hm hi,Qu,Nat.succ_ne_zero,e4_,aG];cases Bp (m.A0.getD j noE) (m.A0.getD (j+1) noE)<;>rfl
omit hb in
theorem Akq(hm:m.G0.length≤maxLen):Mt (((),(),m.G0,(m.G0.length:Int),(0:Int),()),(b.tup,m.tup,()))=A (if m.G0.all (inR 0 4)then .inl (((),(),()),(b.tup,m.tup,()))else .inr ((C,()),())):=by refine Aak (N:=m.G0.length) hm (λi=>(((),(),m.G0,(m.G0.length:Int),(i:Int),()),(b.tup,m.tup,()))) (λi=>inR 0 4 (m.G0.getD i 0)) (λi=>(m.G0.drop i).all (inR 0 4)) (λi hi=>by rw[BT (0:Int) hi,Z_]) (by rw[a7_];rfl) (λi hi=>?_) (by show Js m.G0 (m.G0.length:Int) (m.G0.length:Int) b.C0 b.F0 b.H0 b.M0 b.K0 b.L0 b.N0 b.B0 m.G0 m.O0 m.J0 m.A0=_;unfold Js;rw[Lq];rfl);show Js m.G0 (m.G0.length:Int) (i:Int) b.C0 b.F0 b.H0 b.M0 b.K0 b.L0 b.N0 b.B0 m.G0 m.O0 m.J0 m.A0=_;unfold Js;rw[OV hi,Ht hi,wrM hm hi];simp only[d_,h_];rw[Bcs];cases inR 0 4 (m.G0.getD i 0)<;>rfl
omit hb in
theorem Ak3(n:Int)(hn:n=(m.G0.length:Int))(hm:m.G0.length≤maxLen):Mv (((),(),n,(0:Int),()),(b.tup,m.tup,()))=A (if m.G0.all (inR 0 4)then .inl (((),(),n,()),(b.tup,m.tup,()))else .inr ((C,()),())):=by subst hn;refine Aak (N:=m.G0.length) hm (λi=>(((),(),(m.G0.length:Int),(i:Int),()),(b.tup,m.tup,()))) (λi=>inR 0 4 (m.G0.getD i 0)) (λi=>(m.G0.drop i).all (inR 0 4)) (λi hi=>by rw[BT (0:Int) hi,Z_]) (by rw[a7_];rfl) (λi hi=>?_) (by show Ju (m.G0.length:Int) (m.G0.length:Int) b.C0 b.F0 b.H0 b.M0 b.K0 b.L0 b.N0 b.B0 m.G0 m.O0 m.J0 m.A0=_;unfold Ju;rw[Lq];rfl);show Ju (m.G0.length:Int) (i:Int) b.C0 b.F0 b.H0 b.M0 b.K0 b.L0 b.N0 b.B0 m.G0 m.O0 m.J0 m.A0=_;unfold Ju;rw[OV hi,Ht hi,wrM hm hi];simp only[d_,h_];rw[Bcs];cases inR 0 4 (m.G0.getD i 0)<;>rfl
theorem Db(hp:m.G0.length≤maxLen)(he:m.A0.length≤maxLen):Cq b.C0 b.F0 b.H0 b.M0 b.K0 b.L0 b.N0 b.B0 m.G0 m.O0 m.J0 m.A0=A ((m.ok b,()),()):=by
 unfold Cq Img.ok;rw[AR];simp only[E,bne];cases b.code==0 with
 |false=>rfl
 |true=>
  cases(m.G0.length:Int)==(b.B0.length:Int)with
  |false=>rfl
  |true=>
   cases(m.O0.length:Int)==(b.B0.length:Int)with
   |false=>rfl
   |true=>
    cases(m.J0.length:Int)==(b.B0.length:Int)with
    |false=>rfl
    |true=>
     have h0:=Akq (b:=b) m hp;have h1:=Akr hb m he;unfold Bldg.tup Img.tup at h0 h1;simp only[o_,c_,h0,E,u_];cases m.G0.all (inR 0 4)with
     |false=>rfl
     |true=>simp only[g2_,h1,E,u_];cases Gi b W m.A0<;>rfl
theorem QY(hp:m.G0.length≤maxLen)(he:m.A0.length≤maxLen):HA b.C0 b.F0 b.H0 b.M0 b.K0 b.L0 b.N0 b.B0 m.G0 m.O0 m.J0 m.A0=A ((m.ok b,()),()):=by
 unfold HA Img.ok;rw[Ia];simp only[E,bne];cases b.code==0 with
 |false=>rfl
 |true=>
  cases hq:(m.G0.length:Int)==(b.B0.length:Int)with
  |false=>rfl
  |true=>
   cases(m.O0.length:Int)==(b.B0.length:Int)with
   |false=>rfl
   |true=>
    cases(m.J0.length:Int)==(b.B0.length:Int)with
    |false=>rfl
    |true=>
     have hq':(m.G0.length:Int)=(b.B0.length:Int):=by simpa using hq
     have h0:=Ak3 (b:=b) m (b.B0.length:Int) hq'.symm hp;have h1:=Ak4 hb m (b.B0.length:Int) rfl he;unfold Bldg.tup Img.tup at h0 h1;simp only[o_,c_,h0,E,u_];cases m.G0.all (inR 0 4)with
     |false=>rfl
     |true=>simp only[g2_,h1,E,u_];cases Gi b W m.A0<;>rfl
end
def Ajr(n D hi:Int):OM n D hi=A ((inR D hi n,()),()):=by unfold OM inR;cases decide (D≤n)<;>rfl
def Ub(b:Bldg)(r:Record):Bool:=inR 0 ((b.B0.length:Int)-1) r.R0&&(r.D0==0&&r.I0==0)
def Au(b:Bldg)(r:Record):Bool:=
 b.code==0&&(bif r.Q0==1 then Ap b r.D0 r.I0&&(r.R0==0&&r.S1==0)
 else bif r.Q0==2 then Ap b r.D0 r.I0&&(r.R0==0&&r.S1==0)
 else bif r.Q0==3 then Ap b r.D0 r.I0&&(inR (-2) ((b.B0.length:Int)-1) r.R0&&r.S1==0)
 else bif r.Q0==4 then Ub b r&&inR 0 4 r.S1
 else bif r.Q0==5 then Ub b r&&inR 0 1 r.S1
 else bif r.Q0==6 then Ub b r&&inR 0 1 r.S1
 else bif r.Q0==7 then Ap b r.D0 r.I0&&(inR 0 1 r.R0&&inR 0 255 r.S1)
 else C)
def Aou(hb:b.small)(hc:b.B0.length≤100)(r:Record):LU b.C0 b.F0 b.H0 b.M0 b.K0 b.L0 b.N0 b.B0 r.Q0 r.D0 r.I0 r.R0 r.S1=A ((Au b r,()),()):=by
  have w:H.wrap ((b.B0.length:Int)-1)=(b.B0.length:Int)-1:=Aa ω ω;unfold LU Au Ub;rw[Ia,LO hb,Ajr,w];simp only[E,bne,Ajr];cases b.code==0 with
  |false=>rfl
  |true=>
    simp only[o_,c_,u_];have k:∀(q:Bool) {x y z:Option ((Bool×Unit)×Unit)}{u v:Bool},(q=B→x=A ((u,()),()))→(q=C→y=A ((v,()),()))→(bif q then x else y)=A (((bif q then u else v),()),()):=λq _ _ _ _ _ h1 h2=>by
      cases q
      · exact h2 rfl
      · exact h1 rfl
    cases inR 0 ((b.B0.length:Int)-1) r.R0<;>cases r.D0==0<;>cases r.I0==0<;>
      (simp only[d_,c_,E,a0_,d5_,c1_,a8_,u_]
       refine k _ (z:=W) (λ_=>?_) λ_=>k _ (z:=W) (λ_=>?_) λ_=>k _ (z:=W) (λ_=>?_) λ_=>k _ (z:=W) (λ_=>?_) λ_=>k _ (z:=W) (λ_=>?_) λ_=>k _ (z:=W) (λ_=>?_) λ_=>k _ (z:=W) (λ_=>?_) λ_=>?_
       all_goals first
         |rfl
         |(cases Ap b r.D0 r.I0<;>cases r.R0==0<;>rfl)
         |(cases Ap b r.D0 r.I0<;>cases inR 0 1 r.R0<;>rfl)
         |(rw[w];cases Ap b r.D0 r.I0<;>cases inR (-2) ((b.B0.length:Int)-1) r.R0<;>rfl))
end Go.Ovl
