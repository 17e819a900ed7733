import Derived.Test.YthidicpicnalfaaGreatDoorAbC
import Derived.Test.YthidicpicnalfaaGreatDoorDefs4
set_option linter.all false
set_option maxRecDepth 100000
open Bool renaming false->B,true->C
open Option renaming some->E,bind->aI
open Go.Ovl renaming Entry->H,Record->aA,NewCar->aF,Belief->aN,Debounced->aS
open Go renaming a_->J,d_->U,j_->V,c_->W,i_->Z
open Go.IntKind renaming i64->O,wrap->aC,u32->aD,u8->aM,u64->aV
open Int renaming toNat->aB,fdiv->aR
open List renaming replicate->aE,range'->aK
open BitVec renaming ofInt->aG,toNat->aL,getLsbD_and->aX,getLsbD_or->aY,eq_of_getLsbD_eq->bA,eq_of_toNat_eq->bB
open Decidable renaming decide->aH
open ByteArray renaming mk->aJ
open Nat renaming ble->aO,le_succ->aW
open Go.Ovl.Duty renaming mk->aP
open Min renaming min->aQ
open Array renaming mk->aT
open Go.Ovl.Record renaming mk->aU
open UInt8 renaming toNat_lt->aZ
namespace Go.Ovl
open Go Go.Ab
variable{f:Nat}{α:Type}{n:Int}
def Aa(h:-9223372036854775808<=n)(h':n<9223372036854775808):O.wrap n=n:=by rw[IntKind.wrap_i64];omega
def ES(h:0<=n)(h':n<18446744073709551616):aV.wrap n=n:=by simp only[aC,IntKind.signed,IntKind.bits];simp;omega
def Ac{i:Int}{n:Nat}(h:0<=i)(h':i<n):inB i n=C:=by simp[inB];omega
def AR{a b:Nat}(h:a<=b):aO a b=C:=Nat.ble_eq.symm▸h
def Aqy(s:ByteArray):s.toList=s.data.toList:=ByteArray.toList_eq s
def Ari{a b:ByteArray}:eqB a b=C↔a=b:=by
 constructor
 .intro h;simp[eqB,Aqy]at h;exact ByteArray.ext h
 .rintro rfl;simp[eqB]
def Ba7(a:ByteArray):eqB a a=C:=Ari.2 rfl
def FT [BEq α][LawfulBEq α]{a b:α}(h:¬a=b):(a !=b)=C:=by simpa using h
def Ao [BEq α][LawfulBEq α]{a b:α}(h:¬a=b):(a==b)=B:=by simpa using h
section
variable{X Y:Type}{step:X->Option (Sum X Y)}
def BH{x x':X}(h:step x=E (.inl x')):BM step (f+1) x=BM step f x':=by simp only[BM,h,QX]
def AU{x:X}{y:Y}(h:step x=E (.inr y)):BM step (f+1) x=E y:=by simp only[BM,h,QX]
def Ai8:∀{f:Nat}{x:X}{y:Y},BM step f x=E y->∀{g:Nat},f<=g->BM step g x=E y
 |0,_,_,h,_,_=>by simp[BM]at h
 |f+1,x,y,h,0,j=>by omega
 |f+1,x,y,h,g+1,j=>by
  simp only[BM]at h|-;cases hs:step x with
  |none=>rw[hs]at h;simp[QX]at h
  |some z=>
   rw[hs]at h;cases z with
   |inl x'=>exact Ai8 h ω
   |inr o=>exact h
def AA{x:X}{y:Y}(h:BM step f x=E y)(hf:f<=18446744073709551616):BM step DF x=E y:=Ai8 h hf
def Aru(Q:X->Y->Prop)(m:X->Nat)(hs:∀x y,Q x y->(∃x',step x=E (.inl x')/\Q x' y/\m x'<m x)\/step x=E (.inr y)):∀(n:Nat) (x:X) (y:Y),Q x y->m x<=n->BM step (n+1) x=E y
 |n,x,y,hq,hm=>by
  rcases hs x y hq with⟨x',h1,g,j⟩|h1
  .cases n with
   |zero=>omega
   |succ n=>rw[BH h1];exact Aru Q m hs n x' y g ω
  .exact AU h1
def Bfs(Q:X->Y->Prop)(m:X->Nat)(hs:∀x y,Q x y->(∃x',step x=E (.inl x')/\Q x' y/\m x'<m x)\/step x=E (.inr y)){x:X}{y:Y}(hq:Q x y)(hm:m x<18446744073709551616):BM step DF x=E y:=AA (Aru Q m hs (m x) x y hq<|t_ _) hm
def Ba{S:Type}(h:Nat->S->S):Nat->Nat->S->S
 |0,_,s=>s
 |m+1,i,s=>Ba h m (i+1)<|h i s
def BN{S:Type}(N:Nat)(g:Nat->S->X)(h:Nat->S->S)(j:Nat->S->Prop)(y:S->Y)(h1:∀i s,i<N->j i s->step (g i s)=E (.inl<|g (i+1)<|h i s)/\j (i+1) (h i s))
  (o:∀s,j N s->step (g N s)=E (.inr<|y s)):∀(m i:Nat) (s:S),i+m=N->j i s->BM step (m+1) (g i s)=E (y<|Ba h m i s)/\j N (Ba h m i s)
 |0,i,s,v,hs=>by
  have:i=N:=ω
  subst this;exact⟨AU<|o s hs,hs⟩
 |m+1,i,s,v,hs=>by obtain⟨q,u⟩:=h1 i s ω hs;rw[BH q];exact BN N g h j y h1 o m (i+1) (h i s) ω u
end
def noB:ByteArray:=⟨#[]⟩
def Ach(d:ByteArray){k:Nat}(h:k<=d.size):(d.extract 0 k).size=k:=by simp;omega
end Go.Ovl
namespace Go.Ovl
open Go Go.Ab
variable{c:Bool}
def Sat{α:Type}(o:Option α)(P:α->Prop):Prop:=∃a,o=E a/\P a
section
variable{α β:Type}{P:α->Prop}{Q:β->Prop}
def Sat.ret{a:α}(h:P a):Sat (E a) P:=⟨a,rfl,h⟩
def Sat.bindE{o:Option β}{b:β}{f:β->Option α}(h:o=E b)(g:Sat (f b) P):Sat (aI o f) P:=by subst h;exact g
def Sat.bindS{o:Option β}{f:β->Option α}(h:Sat o Q)(g:∀b,Q b->Sat (f b) P):Sat (aI o f) P:=by obtain⟨b,h,hq⟩:=h;subst h;exact g b hq
def Sat.bic{x y:Option α}(h1:c=C->Sat x P)(g:c=B->Sat y P):Sat (bif c then x else y) P:=by
 cases c with
 |true=>exact h1 rfl
 |false=>exact g rfl
def Sat.bifT{x y:Option α}(h:c=C)(h1:Sat x P):Sat (bif c then x else y) P:=by subst h;exact h1
def Sat.bifF{x y:Option α}(h:c=B)(h1:Sat y P):Sat (bif c then x else y) P:=by subst h;exact h1
def Sat.bindC{x y:Option β}{f:β->Option α}(h1:c=C->Sat (aI x f) P)(g:c=B->Sat (aI y f) P):Sat (aI (bif c then x else y) f) P:=by
 cases c with
 |true=>exact h1 rfl
 |false=>exact g rfl
def Sat.bindCT{x y:Option β}{f:β->Option α}(h:c=C)(h1:Sat (aI x f) P):Sat (aI (bif c then x else y) f) P:=by subst h;exact h1
def Sat.bindCF{x y:Option β}{f:β->Option α}(h:c=B)(h1:Sat (aI y f) P):Sat (aI (bif c then x else y) f) P:=by subst h;exact h1
def Sat.bindR{b:β}{f:β->Option α}(g:Sat (f b) P):Sat (aI (E b) f) P:=g
def Sat.bindA{γ:Type}{o:Option γ}{g:γ->Option β}{f:β->Option α}(h:Sat (aI o λx=>aI (g x) f) P):Sat (aI (aI o g) f) P:=by
 cases o with
 |none=>exact h
 |some a=>exact h
def Sat.mono{R:α->Prop}{o:Option α}(h:Sat o P)(g:∀a,P a->R a):Sat o R:=by obtain⟨a,h,hp⟩:=h;exact⟨a,h,g a hp⟩
def Sat.any{o:Option α}(h:Sat o P):Sat o λ_=>True:=h.mono λ_ _=>trivial
def Sat.eq{o:Option α}{a:α}(h:Sat o λx=>x=a):o=E a:=by obtain⟨_,h,rfl⟩:=h;exact h
end
def Sat.iterN{X Y:Type}{step:X->Option (Sum X Y)}(I:Nat->X->Prop)(P:Y->Prop)(hs:∀k x,I k x->Sat (step x) λr=>match r with|.inl x'=>∃k',k=k'+1/\I k' x'|.inr y=>P y):∀(k:Nat) (x:X),I k x->Sat (BM step (k+1) x) P
 |k,x,q=>by
  obtain⟨r,h1,j⟩:=hs k x q
  match r,h1,j with
  |.inr y,h1,j=>exact⟨y,AU h1,j⟩
  |.inl x',h1,⟨k',o,g⟩=>subst o;rw[BH h1];exact Sat.iterN I P hs k' x' g
def Sat.loop{X Y:Type}{step:X->Option (Sum X Y)}(I:Nat->X->Prop){P:Y->Prop}(hs:∀k x,I k x->Sat (step x) λr=>match r with|.inl x'=>∃k',k=k'+1/\I k' x'|.inr y=>P y)(k:Nat){x:X}(j:I k x)(o:k<18446744073709551616):Sat (BM step DF x) P:=by obtain⟨y,h1,g⟩:=Sat.iterN I P hs k x j;exact⟨y,AA h1 ω,g⟩
def Azf(n:Int):decide ((0:Int)<=aV.wrap n)=C:=by simp;exact f2_ _ τ
class SatT {α:Type}(o:Option α):Prop where
 out:Sat o λ_=>True
section
variable{α β:Type}{P:α->Prop}
def Sat.bT{x y:Option α}(h1:Sat x P)(h:c=true:=by with_reducible first|exact Eq.refl true|exact Azf _|assumption):Sat (bif c then x else y) P:=Sat.bifT h h1
def Sat.bF{x y:Option α}(h1:Sat y P)(h:c=false:=by with_reducible first|exact Eq.refl false|assumption):Sat (bif c then x else y) P:=Sat.bifF h h1
def Sat.cT{x y:Option β}{f:β->Option α}(h1:Sat (Option.bind x f) P)(h:c=true:=by with_reducible first|exact Eq.refl true|exact Azf _|assumption):Sat (Option.bind (bif c then x else y) f) P:=Sat.bindCT h h1
def Sat.cF{x y:Option β}{f:β->Option α}(h1:Sat (Option.bind y f) P)(h:c=false:=by with_reducible first|exact Eq.refl false|assumption):Sat (Option.bind (bif c then x else y) f) P:=Sat.bindCF h h1
def Sat.sT{o:Option β}{f:β->Option α}(g:∀b,True->Sat (f b) P)(h:Sat o (λ_=>True):=by with_reducible first|assumption|exact SatT.out):Sat (Option.bind o f) P:=Sat.bindS h g
def Sat.go{o:Option α}(h:Sat o P:=by repeat' with_reducible first|refine Sat.bindR ?_|refine Sat.bindA ?_|refine Sat.cT ?_|refine Sat.cF ?_|refine Sat.bindC (λ_=>?_) (λ_=>?_)|refine Sat.bT ?_|refine Sat.bF ?_|refine Sat.bic (λ_=>?_) (λ_=>?_)|refine Sat.sT λ_ _=>?_|exact Sat.ret trivial):Sat o P:=h
end
end Go.Ovl
namespace Go.Ovl
open Go Go.Ab
variable{i:Nat}{f:Int}
def bv(f:Int):BitVec 32:=aG 32 f
def vb(b:BitVec 32):Int:=(b.toNat:Int)
def KW(b:BitVec 32):0<=vb b/\vb b<4294967296:=by unfold vb;omega
def Ak5(b:BitVec 32):bv (vb b)=b:=by apply bB;simp only[bv,vb,a4_];omega
def Avw(h:0<=f/\f<4294967296):vb (bv f)=f:=by simp only[bv,vb,a4_];omega
def Wk(b:BitVec 32):aD.wrap ((b.toNat:Nat):Int)=vb b:=by simp only[aC,IntKind.signed,IntKind.bits,vb];simp;omega
def Ama:IntKind.bits .u32=32:=rfl
def Bey(f:Int):bv (aC aD f)=bv f:=by apply bB;simp only[bv,aC,IntKind.signed,IntKind.bits];simp
def Amc(i:Nat):bv (aC aD<|1*2^min i (IntKind.bits .u32))=if i<32 then BitVec.twoPow 32 i else 0#32:=by
 rw[Bey,Int.one_mul];apply bB;simp only[bv,Ama];by_cases h:i<32
 .rw[if_pos h,d2_ ω,BitVec.toNat_twoPow]
  have:(2^i)=((2^i:Nat):Int):=by simp
  norm_cast
 .rw[if_neg h,Nat.min_eq_right ω];rfl
def BY(f:Int)(i:Nat):Bool:=(bv f).getLsbD i
def Bap(h:0<=f/\f<4294967296)(v:i<32):
  (aC aD ((aL (aG (IntKind.bits .u32) (aR f<|2^min i (IntKind.bits .u32))&&&aG (IntKind.bits .u32) 1):Nat):Int)==1)=BY f i:=by
 have e:aR f (2^min i (IntKind.bits .u32))=((f.toNat/2^i:Nat):Int):=by
  rw[Ama,d2_ ω,H_ _ (by exact Int.le_of_lt<|Int.pow_pos ω)]
  have:f=(f.toNat:Int):=ω
  rw[this];simp
 rw[e];show(aC aD (((bv _&&&bv 1).toNat:Nat):Int)==1)=_;have hb:(bv ((f.toNat/2^i:Nat):Int)&&&bv 1)=if BY f i then 1#32 else 0#32:=by
  apply bA;intro j o;have h1:(bv ((f.toNat/2^i:Nat):Int)).getLsbD j=(f.toNat/2^i).testBit j:=by
   simp only[bv,BitVec.getLsbD,a4_]
   have:(((f.toNat/2^i:Nat):Int)%((2^32:Nat):Int)).toNat=(f.toNat/2^i)%2^32:=by norm_cast
   rw[this,Nat.testBit_mod_two_pow];simp[o]
  have u:BY f i=f.toNat.testBit i:=by
   simp only[BY,bv,BitVec.getLsbD,a4_]
   have:(f%((2^32:Nat):Int)).toNat=f.toNat:=by simp;omega
   rw[this]
  have q:(bv 1).getLsbD j=decide (j=0):=by
   have:bv 1=1#32:=rfl
   rw[this];simp[BitVec.getLsbD_one]
  rw[aX,h1,q,u];by_cases g:j=0
  .subst g;rw[Nat.testBit_div_two_pow];simp only[n_,decide_true];cases f.toNat.testBit i<;>simp
  .simp only[g,decide_false];cases f.toNat.testBit i<;>simp[BitVec.getLsbD_one,g]
 rw[hb];cases BY f i<;>rfl
def RP(f:Int)(i:Nat)(g:Bool):Int:=vb (if g then bv f|||BitVec.twoPow 32 i else bv f&&& ~~~ BitVec.twoPow 32 i)
def Au7(f:Int)(i:Nat)(g:Bool):0<=RP f i g/\RP f i g<4294967296:=KW _
def Bew(f:Int){j:Nat}(g:Bool)(q:i<32)(o:j<32):BY (RP f i g) j=if j=i then g else BY f j:=by
 unfold BY RP;rw[Ak5];cases g with
 |true=>
  by_cases h:j=i
  .subst h;simp[o]
  .simp[h,a7_ h]
 |false=>
  by_cases h:j=i
  .subst h;simp[o]
  .simp[h,o,a7_ h]
def Agp{g:Int}(hf:0<=f/\f<4294967296)(j:0<=g/\g<4294967296)(h:∀i,i<32->BY f i=BY g i):f=g:=by rw[<-Avw hf,<-Avw j];congr 1;apply bA;intro i o;exact h i o
def Bkl(f:Int)(g:i<32):aD.wrap ((aL (aG (IntKind.bits .u32) f|||BitVec.ofInt (IntKind.bits .u32) (aC aD<|1*2^min i (IntKind.bits .u32))):Nat):Int)=RP f i C:=by show aD.wrap (((bv f|||bv _).toNat:Nat):Int)=_;rw[Wk,Amc,if_pos g];rfl
def Awm(f:Int)(g:i<32):aD.wrap ((aL (aG (IntKind.bits .u32) f&&& ~~~ aG (IntKind.bits .u32) (aC aD<|1*2^min i (IntKind.bits .u32))):Nat):Int)=RP f i B:=by show aD.wrap (((bv f&&& ~~~ bv _).toNat:Nat):Int)=_;rw[Wk,Amc,if_pos g];rfl
def Ay6(f:Int)(i:Nat):RP (RP f i B) i C=RP f i C:=by unfold RP;simp only[if_true,g3_,f8_,Ak5];congr 1;apply bA;intro j g;simp only[aY,aX,BitVec.getLsbD_not];cases(bv f).getLsbD j<;>cases(BitVec.twoPow 32 i).getLsbD j<;>simp[g]
end Go.Ovl
namespace Go.Ovl
open Go Go.Ab
def Aph(x y:Int):aD.wrap (stk x y<|aL (aG (IntKind.bits .u32) x|||BitVec.ofInt (IntKind.bits .u32) y))=vb (bv x|||bv y):=by rw[Lk];exact Wk _
def SG(x y:Int):aD.wrap (stk x y<|aL<|aG (IntKind.bits .u32) x&&&aG (IntKind.bits .u32) y)=vb (bv x&&&bv y):=by rw[Lk];exact Wk _
def TY(x y:Int):aD.wrap (stk x y<|aL<|aG (IntKind.bits .u32) x&&& ~~~ aG (IntKind.bits .u32) y)=vb (bv x&&& ~~~ bv y):=by rw[Lk];exact Wk _
def VM(b:BitVec 32)(i:Nat):BY (vb b) i=b.getLsbD i:=by unfold BY;rw[Ak5]
def Aq4{k:Nat}(h:k<32)(i:Nat):BY (aC aD<|1*2^min k (IntKind.bits .u32)) i=decide (i=k):=by
 unfold BY;rw[Amc,if_pos h];by_cases e:i=k
 .subst e;simp[h]
 .simp[e,a7_ e]
structure Bldg where
 C0:Int
 F0:Int
 J0:Int
 L0:Int
 I0:Nat
 M0:Nat
 O0:Nat
 A0:List Car
def CV{α:Type}{l:List α}{i:Nat}(d:α)(h:i<l.length):l.drop i=l.getD i d::l.drop (i+1):=by simp[h]
def inR(lo g n:Int):Bool:=decide (lo<=n)&&decide (n<=g)
def Ak{lo g n:Int}:inR lo g n=C↔lo<=n/\n<=g:=by simp[inR]
def Ci(lo g:Int){l:List Int}(hl:l.length<=maxLen):BK lo g l=E ((l.all<|inR lo g,()),()):=by
 have hm:maxLen<=9223372036854775807:=by decide
 have u:∀(m i:Nat),i+m=l.length->BM (λx=>EW x.1.1 x.1.2.1 x.1.2.2.1 x.1.2.2.2.1 x.1.2.2.2.2.1) (m+1) ((lo,g,l,l.length,i,()),())=E (if(l.drop i).all (inR lo g)then .inl ((),())else .inr ((B,()),())):=by
  intro m;induction m with
  |zero=>
   intro i o;refine AU ?_;unfold EW;have e:decide (i<(l.length:Int))=B:=by simp;omega
   rw[e,show i=l.length by omega];simp
  |succ m A=>
   intro i o;have e:decide (i<(l.length:Int))=C:=by simp;omega
   have v:inB i l.length=C:=Ac ω ω;have tn:aB i=i:=ω;have w:O.wrap (i+1)=((i+1:Nat):Int):=by rw[Aa ω ω];omega
   rw[CV _ ω];by_cases h1:l.getD i 0<lo
   .refine(AU (y:=.inr ((B,()),())) ?_).trans ?_
    .unfold EW;have j:decide (l.getD i 0<lo)=C:=by simpa using h1
     simp only[e,v,tn,j,Z]
    .have:inR lo g (l.getD i 0)=B:=by rw[inR,show decide _=B from W ω,e6_]
     rw[T_,this];rfl
   .have j:decide (l.getD i 0<lo)=B:=by simpa using h1
    by_cases z:g<l.getD i 0
    .refine(AU (y:=.inr ((B,()),())) ?_).trans ?_
     .unfold EW;have q:decide (g<l.getD i 0)=C:=by simpa using z
      simp only[e,v,tn,j,q,Z,V]
     .have:inR lo g (l.getD i 0)=B:=by rw[inR,show decide (l.getD i 0<=g)=B from W ω,d1_]
      rw[T_,this];rfl
    .have q:decide (g<l.getD i 0)=B:=by simpa using z
     refine(BH (x':=((lo,g,l,(l.length:Int),((i+1:Nat):Int),()),())) ?_).trans ?_
     .unfold EW;simp only[e,v,tn,j,q,w,Z,V]
     .have:inR lo g (l.getD i 0)=C:=Ak.2 ⟨ω,ω⟩
      rw[A (i+1) ω,T_,this];rfl
 unfold BK;have h0:Ls ((lo,g,l,l.length,0,()),())=_:=AA (u l.length 0 ω) ω;rw[h0];rw[d8_];cases l.all _<;>rfl
def Lp(n lo g:Int):Hr n lo g=E ((inR lo g n,()),()):=by unfold Hr inR;cases h:decide (lo<=n)<;>simp
def BQ(fl:Int)(c:Car):Bool:=[c.K1,c.N3,c.T3,c.V1,c.B1,c.F1,c.P3].all (inR 1 10000)&&(inR 0 10000 c.B3&&(aH (c.F1<=c.P3)&&inR 0 (aC O<|fl-1) c.H4))
def Yc(fl:Int)(c:Car):Kw c.K1 c.N3 c.T3 c.B3 c.V1 c.B1 c.F1 c.P3 c.H4 fl=E ((BQ fl c,()),()):=by
 have hm:7<=maxLen:=by decide
 unfold Kw BQ;rw[Ci 1 10000 (by simpa using hm)];generalize [c.K1,c.N3,c.T3,c.V1,c.B1,c.F1,c.P3].all _=a;rw[Ci 0 10000 (by simp;omega),Ci 0 _ (by simp;omega)];simp only[ T_,f7_,g1_];cases a
 .rfl
 .cases inR 0 10000 c.B3
  .rfl
  .by_cases h:c.F1<=c.P3
   .have:decide (c.F1<=c.P3)=C:=by simpa using h
    simp only[this,Z,U,b1_]
   .have:decide (c.F1<=c.P3)=B:=by simpa using h
    simp only[this,Z,V,U,b1_,e6_]
def Bldg.tup(b:Bldg):Int×Int×Int×Int×Nat×Nat×Nat×List Car×Unit:=(b.C0,b.F0,b.J0,b.L0,b.I0,b.M0,b.O0,b.A0,())
def Car.tup(c:Car):Int×Int×Int×Int×Int×Int×Int×Int×Int×Unit:=(c.K1,c.N3,c.T3,c.B3,c.V1,c.B1,c.F1,c.P3,c.H4,())
def Ahv(b:Bldg)(c:Car){L:List Int}(D:L.length=8) :
  RC (((),(),L,(0:Int),()),(b.tup,c.tup,()))=E (if(L.take 7).all (inR 1 10000)then .inl (((),(),()),(b.tup,c.tup,()))else .inr ((B,()),())):=by
 have o:∀(m i:Nat),i+m=7->BM (λx=>letI a:=x.2.2.1.2.2;letI d:=x.2.1.2.2;letI f:=a.2.2;letI g:=d.2.2;IR x.1.2.2.1 x.1.2.2.2.1 x.2.1.1 x.2.1.2.1 d.1 d.2.1 g.1 g.2.1 g.2.2.1 g.2.2.2.1 x.2.2.1.1 x.2.2.1.2.1 a.1 a.2.1 f.1 f.2.1 f.2.2.1 f.2.2.2.1 f.2.2.2.2.1) (m+1) (((),(),L,i,()),(b.tup,c.tup,()))=E (if((L.take 7).drop i).all (inR 1 10000)then .inl (((),(),()),(b.tup,c.tup,()))else .inr ((B,()),())):=by
  intro m;induction m with
  |zero=>
   intro i j;refine AU ?_;unfold IR;have e:decide ((i:Int)<7)=B:=by simp;omega
   have z:(L.take 7).drop i=[]:=List.drop_eq_nil_of_le (by simp;omega);rw[e,z];rfl
  |succ m A=>
   intro i j;have e:decide ((i:Int)<7)=C:=by simp;omega
   have u:inB i L.length=C:=Ac ω ω;have tn:aB i=i:=ω;have w:O.wrap (i+1)=((i+1:Nat):Int):=by rw[Aa ω ω];omega
   have v:(L.take 7).getD i 0=L.getD i 0:=by simp only[g_,List.getElem?_take];rw[if_pos ω]
   rw[CV _ (by simp;omega),v,T_];cases q:inR 1 10000 _ with
   |false=>refine(AU (y:=.inr _) ?_).trans rfl;unfold IR;simp only[e,u,tn,Lp,q,Z,U,Bool.not_false]
   |true=>
    refine(BH (x':=(((),(),L,((i+1:Nat):Int),()),(b.tup,c.tup,()))) ?_).trans ?_
    .show IR L _ b.C0 b.F0 b.J0 b.L0 b.I0 b.M0 b.O0 b.A0 c.K1 c.N3 c.T3 c.B3 c.V1 c.B1 c.F1 c.P3 c.H4=_;unfold IR;simp only[e,u,tn,w,Lp,q,a8_];rfl
    .rw[A (i+1) ω,b1_]
 have h0:=o 7 0 rfl;exact AA h0 ω
def Agb(b:Bldg)(c:Car):Qv b.C0 b.F0 b.J0 b.L0 b.I0 b.M0 b.O0 b.A0 c.K1 c.N3 c.T3 c.B3 c.V1 c.B1 c.F1 c.P3 c.H4=E ((BQ b.C0 c,()),()):=by
 unfold Qv BQ;by_cases h1:c.B3<0
 .have g:decide (c.B3<0)=C:=by simpa using h1
  have j:inR 0 10000 c.B3=B:=by rw[inR,show decide _=B from W ω,e6_]
  rw[g,Z,j,e6_,d1_]
 .have g:decide (c.B3<0)=B:=by simpa using h1
  rw[g,V];by_cases o:10000<c.B3
  .have g:decide (10000<c.B3)=C:=by simpa using o
   have j:inR 0 10000 c.B3=B:=by rw[inR,show decide (c.B3<=10000)=B from W ω,d1_]
   rw[g,Z,j,e6_,d1_]
  .have g:decide (10000<c.B3)=B:=by simpa using o
   have j:inR 0 10000 c.B3=C:=Ak.2 ⟨ω,ω⟩;rw[g,V,j];have hl:=Ahv b c (L:=[c.K1,c.N3,c.T3,c.V1,c.B1,c.F1,c.P3,O.wrap<|c.B3+1]) rfl;rw[show([c.K1,c.N3,c.T3,c.V1,c.B1,c.F1,c.P3,O.wrap _].take 7)=[c.K1,c.N3,c.T3,c.V1,c.B1,c.F1,c.P3]from rfl]at hl;simp only[Bldg.tup,Car.tup]at hl;rw[hl];cases [c.K1,c.N3,c.T3,c.V1,c.B1,c.F1,c.P3].all _ with
   |false=>rfl
   |true=>
    simp only[if_true,b1_,Lp];by_cases h:c.F1<=c.P3
    .have:decide (c.F1<=c.P3)=C:=by simpa using h
     simp only[this,Z,U,b1_]
    .have:decide (c.F1<=c.P3)=B:=by simpa using h
     simp only[this,V,U,e6_]
def Bldg.loadsOK(b:Bldg):Bool:=((Go.FloatKind.format Go.FloatKind.f64).order 0 b.I0==E Ordering.lt)&&(((Go.FloatKind.format Go.FloatKind.f64).order b.I0 b.M0==E Ordering.lt)&&(((Go.FloatKind.format Go.FloatKind.f64).order b.M0 b.O0==E Ordering.lt)&&((Go.FloatKind.format Go.FloatKind.f64).order b.O0 9218868437227405311==E Ordering.lt||(Go.FloatKind.format Go.FloatKind.f64).order b.O0 9218868437227405311==E Ordering.eq)))
def Bldg.code(b:Bldg):Int:=
 bif !inR 2 32 b.C0 then 10 else bif !inR 1 8 (b.A0.length:Int)then 11 else
 bif !(inR 1 16 b.F0&&inR 1 10000 b.L0&&b.A0.all (BQ b.C0))then 12 else bif !b.loadsOK then 13 else
 bif !inR (18*(b.A0.length:Int)+24) 65536 b.J0 then 14 else 0
def Ag:Car:=⟨0,0,0,0,0,0,0,0,0⟩
def Yd(b:Bldg)(hl:b.A0.length<=8)(g:Bool) :
  Mb (((),g,b.A0,(b.A0.length:Int),(0:Int),()),(b.tup,()))=E (((),g&&b.A0.all (BQ b.C0),()),(b.tup,())):=by
 have j:∀(m i:Nat) (g:Bool),i+m=b.A0.length->BM (λx=>letI a:=x.2.1.2.2;letI c:=a.2.2;Hc x.1.2.1 x.1.2.2.1 x.1.2.2.2.1 x.1.2.2.2.2.1 x.2.1.1 x.2.1.2.1 a.1 a.2.1 c.1 c.2.1 c.2.2.1 c.2.2.2.1) (m+1) (((),g,b.A0,b.A0.length,i,()),(b.tup,()))=E (((),g&&(b.A0.drop i).all (BQ b.C0),()),(b.tup,())):=by
  intro m;induction m with
  |zero=>
   intro i g o;refine AU ?_;unfold Hc;have e:decide (i<(b.A0.length:Int))=B:=by simp;omega
   rw[e,show i=b.A0.length by omega,d6_];simp only[V,f7_,g1_,Bldg.tup]
  |succ m u=>
   intro i g o;have e:decide (i<(b.A0.length:Int))=C:=by simp;omega
   have q:inB i b.A0.length=C:=Ac ω ω;have tn:aB i=i:=ω;have w:O.wrap (i+1)=((i+1:Nat):Int):=by rw[Aa ω ω];omega
   rw[CV Ag ω,T_];refine(BH (x':=(((),g&&BQ b.C0 (b.A0.getD i Ag),b.A0,(b.A0.length:Int),((i+1:Nat):Int),()),(b.tup,()))) ?_).trans ?_
   .show Hc g b.A0 _ _ b.C0 b.F0 b.J0 b.L0 b.I0 b.M0 b.O0 b.A0=_;unfold Hc;simp only[e,q,tn];rw[Yc b.C0 _];cases g
    .simp only[V,U,w];rfl
    .simp only[Z,U,w];rfl
   .rw[u (i+1) _ ω,Bool.and_assoc]
 have h0:=j b.A0.length 0 g ω;exact AA h0 ω
def Ahu(b:Bldg)(hl:b.A0.length<=8)(g:Bool) :
  RB (((),g,(0:Int),()),(b.tup,()))=E (((),g&&b.A0.all (BQ b.C0),()),(b.tup,())):=by
 have j:∀(m i:Nat) (g:Bool),i+m=b.A0.length->BM (λx=>letI a:=x.2.1.2.2;letI c:=a.2.2;IQ x.1.2.1 x.1.2.2.1 x.2.1.1 x.2.1.2.1 a.1 a.2.1 c.1 c.2.1 c.2.2.1 c.2.2.2.1) (m+1) (((),g,i,()),(b.tup,()))=E (((),g&&(b.A0.drop i).all (BQ b.C0),()),(b.tup,())):=by
  intro m;induction m with
  |zero=>
   intro i g o;refine AU ?_;show IQ g _ b.C0 b.F0 b.J0 b.L0 b.I0 b.M0 b.O0 b.A0=_;unfold IQ;have e:decide (i<(b.A0.length:Int))=B:=by simp;omega
   rw[e,show i=b.A0.length by omega,d6_];simp only[V,f7_,g1_,Bldg.tup]
  |succ m u=>
   intro i g o;have e:decide (i<(b.A0.length:Int))=C:=by simp;omega
   have q:inB i b.A0.length=C:=Ac ω ω;have tn:aB i=i:=ω;have w:O.wrap (i+1)=((i+1:Nat):Int):=by rw[Aa ω ω];omega
   rw[CV Ag ω,T_];refine(BH (x':=(((),g&&BQ b.C0 (b.A0.getD i Ag),((i+1:Nat):Int),()),(b.tup,()))) ?_).trans ?_
   .show IQ g _ b.C0 b.F0 b.J0 b.L0 b.I0 b.M0 b.O0 b.A0=_;unfold IQ;simp only[e,q,tn];rw[Agb b _];cases g
    .simp only[V,U,w];rfl
    .simp only[Z,U,w];rfl
   .rw[u (i+1) _ ω,Bool.and_assoc]
 have h0:=j b.A0.length 0 g ω;exact AA h0 ω
def Yb(b:Bldg):Kv b.C0 b.F0 b.J0 b.L0 b.I0 b.M0 b.O0 b.A0=E ((b.loadsOK,()),()):=by
 unfold Kv Bldg.loadsOK;cases(Go.FloatKind.format Go.FloatKind.f64).order 0 b.I0==E Ordering.lt
 .rfl
 cases(Go.FloatKind.format Go.FloatKind.f64).order b.I0 b.M0==E Ordering.lt
 .rfl
 cases(Go.FloatKind.format Go.FloatKind.f64).order b.M0 b.O0==E Ordering.lt
 .rfl
 rfl
def Az(b:Bldg):Au b.C0 b.F0 b.J0 b.L0 b.I0 b.M0 b.O0 b.A0=E ((b.code,()),()):=by
 have hm:8<=maxLen:=by decide
 unfold Au Bldg.code;rw[Ci 2 32 (by simp;omega),Ci 1 8 (by simp;omega),Ci 1 16 (by simp;omega),Ci 1 10000 (by simp;omega)];simp only[ T_,f7_,g1_];cases inR 2 32 b.C0
 .rfl
 cases hc:inR 1 8 _
 .rfl
 have g:b.A0.length<=8:=by have:=(Ak.1 hc).2;omega
 have j:(bif inR 1 16 b.F0 then E (((),inR 1 10000 b.L0,()),(b.tup,()))else E (((),B,()),(b.tup,())))=E (((),inR 1 16 b.F0&&inR 1 10000 b.L0,()),(b.tup,())):=by cases inR 1 16 b.F0<;>rfl
 simp only[Bldg.tup]at j;simp only[ j,U];have hl:=Yd b g<|inR 1 16 b.F0&&inR 1 10000 b.L0;simp only[Bldg.tup]at hl;rw[hl,U];cases inR 1 16 b.F0&&inR 1 10000 b.L0&&b.A0.all _
 .rfl
 rw[Yb b];cases b.loadsOK
 .rfl
 rw[show O.wrap _=18*b.A0.length+24 by rw[Aa (n:=18*b.A0.length) ω ω,Aa ω ω],
  Ci _ 65536 (by simp;omega)]
 simp only[ T_,f7_];cases inR _ 65536 b.J0<;>rfl
def PK(b:Bldg):Lo b.C0 b.F0 b.J0 b.L0 b.I0 b.M0 b.O0 b.A0=E ((b.code,()),()):=by
 unfold Lo Bldg.code;simp only[Lp];cases inR 2 32 b.C0
 .rfl
 cases hc:inR 1 8 _
 .rfl
 have g:b.A0.length<=8:=by have:=(Ak.1 hc).2;omega
 have j:(bif inR 1 16 b.F0 then E (((),inR 1 10000 b.L0,()),(b.tup,()))else E (((),B,()),(b.tup,())))=E (((),inR 1 16 b.F0&&inR 1 10000 b.L0,()),(b.tup,())):=by cases inR 1 16 b.F0<;>rfl
 simp only[Bldg.tup]at j;simp only[ j,U];have hl:=Ahu b g<|inR 1 16 b.F0&&inR 1 10000 b.L0;simp only[Bldg.tup]at hl;rw[hl,U];cases inR 1 16 b.F0&&inR 1 10000 b.L0&&b.A0.all _
 .rfl
 unfold Bldg.loadsOK;cases(Go.FloatKind.format Go.FloatKind.f64).order 0 b.I0==E Ordering.lt
 .rfl
 cases(Go.FloatKind.format Go.FloatKind.f64).order b.I0 b.M0==E Ordering.lt
 .rfl
 cases(Go.FloatKind.format Go.FloatKind.f64).order b.M0 b.O0==E Ordering.lt
 .rfl
 cases((Go.FloatKind.format Go.FloatKind.f64).order b.O0 9218868437227405311==E Ordering.lt||(Go.FloatKind.format Go.FloatKind.f64).order b.O0 9218868437227405311==E Ordering.eq)
 .rfl
 rw[show O.wrap _=18*b.A0.length+24 by rw[Aa (n:=18*b.A0.length) ω ω,Aa ω ω]];cases inR _ 65536 b.J0<;>rfl
def On(fl i:Nat):Car:=⟨100,2,6,5,4,2,3,10,((i%fl:Nat):Int)⟩
def Bc(fl g:Nat):Bldg:=⟨fl,1,4000,30,4591870180066957722,4605380978949069210,4607632778762754458,(List.range g).map<|On fl⟩
def Bldg.none:Bldg:=⟨0,0,0,0,0,0,0,[]⟩
def Adr{fl g:Nat}(h1:1<=fl)(y:g<=8):Oz fl g=E (((),()),((Bc fl g).tup,())):=by
 have o:∀(m i:Nat),i+m=g->BM (λx=>letI a:=x.2.2.1.2.2;letI b:=x.2.1.2.2;letI d:=b.2.2;letI f:=a.2.2;JZ x.1.1 x.1.2.1 x.1.2.2.2.2.1 x.2.1.1 x.2.1.2.1 b.1 b.2.1 d.1 d.2.1 d.2.2.1 d.2.2.2.1 x.2.2.1.1 x.2.2.1.2.1 a.1 a.2.1 f.1 f.2.1 f.2.2.1 f.2.2.2.1) (m+1) ((fl,g,(),(),i,()),(Bldg.none.tup,(Bc fl i).tup,()))=E (((),(),()),(Bldg.none.tup,(Bc fl g).tup,())):=by
  intro m;induction m with
  |zero=>
   intro i j;refine AU ?_;unfold JZ;have e:decide (i<(g:Int))=B:=by simp;omega
   rw[e,show i=g by omega];rfl
  |succ m v=>
   intro i j;refine(BH (x':=(((fl:Int),(g:Int),(),(),((i+1:Nat):Int),()),(Bldg.none.tup,(Bc fl<|i+1).tup,()))) ?_).trans<|v (i+1) ω;show JZ _ _ _ Bldg.none.C0 Bldg.none.F0 Bldg.none.J0 Bldg.none.L0 Bldg.none.I0 Bldg.none.M0 Bldg.none.O0 Bldg.none.A0 (Bc fl i).C0 (Bc fl i).F0 (Bc fl i).J0 (Bc fl i).L0 (Bc fl i).I0 (Bc fl i).M0 (Bc fl i).O0 (Bc fl i).A0=_;unfold JZ;have e:decide (i<(g:Int))=C:=by simp;omega
   have w:O.wrap (i+1)=((i+1:Nat):Int):=by rw[Aa ω ω];omega
   have q:((fl:Int) !=0)=C:=by simp;omega
   have hc:∀c:Car,aO ((Bc fl i).A0.length+[c].length) 2147483648=C:=λc=>AR (by simp[Bc];omega);have u:Int.tmod i fl=((i%fl:Nat):Int):=by norm_cast
   simp only[e,q,hc,w,u];have hs:(Bc fl<|i+1).A0=(Bc fl i).A0++[On fl i]:=by simp[Bc,List.range_succ]
   simp only[Bldg.tup,hs];rfl
 unfold Oz;have h0:=AA (o g 0 ω) ω;rw[show PO ((fl,g,(),(),0,()),((0,0,0,0,0,0,0,([]:List Car),()),(fl,1,4000,30,4591870180066957722,4605380978949069210,4607632778762754458,([]:List Car),()),()))=_ from h0];rfl
def Bl3(fl g:Nat)(room:Int):Bldg:={ Bc fl g with J0:=18*(g:Int)+24+room }
variable{α:Type}{b:Bldg}{i:Nat}{l:List α}
structure Bldg.small(b:Bldg):Prop where
 lo:2<=b.C0
 hi:b.C0<=8
def u8r(n:Int):Prop:=0<=n/\n<256
def Apf:u8r 0:=⟨τ,τ⟩
def Av(d:α)(g:i<l.length):l.getD i d∈l:=by simp only[g_,h_ g];exact R_ g
def Bbi{P:α->Prop}(h:∀e∈l,P e){d:α}(g:i<l.length):P<|l.getD i d:=h _<|Av d g
def Ah(h:b.code=0):1<=b.A0.length/\b.A0.length<=8:=by
 unfold Bldg.code at h;cases h1:inR 1 8 b.A0.length with
 |true=>have:=Ak.1 h1;omega
 |false=>rw[h1]at h;cases g:inR 2 32 b.C0<;>rw[g]at h<;>simp at h
def YF(h:b.code=0):18*(b.A0.length:Int)+24<=b.J0/\b.J0<=65536:=by
 unfold Bldg.code at h;cases h1:inR _ 65536 b.J0 with
 |true=>exact Ak.1 h1
 |false=>rw[h1]at h;revert h;cases inR 2 32 b.C0<;>cases inR 1 8 _<;>cases inR 1 16 b.F0<;>cases inR 1 10000 b.L0<;>cases b.A0.all _<;>cases b.loadsOK<;>(intro h;simp at h)
end Go.Ovl
namespace Go.Ovl
open Go Go.Ab
variable{b:Bldg}{l:List H}{c p:Int×Int}{e:H}{α:Type}{r:aA}{k i f n:Nat}{d:Int}
def Zi(h:i<n):decide ((i:Int)<(n:Int))=C:=J ω
def NN(h:i<n):inB (i:Int) n=C:=Ac ω ω
def UD(n:Nat):decide ((n:Int)<(n:Int))=B:=W<|Z_ _
def Ae{β:Type}{o:Option α}{a:α}{f:α->Option β}{r:Option β}(h:o=E a)(g:f a=r):aI o f=r:=by subst h;exact g
def Anw{X Y:Type}{step:X->Option (Sum X Y)}(N:Nat)(g:Nat->X)(y:Y)(h1:∀i,i<N->step (g i)=E (.inl<|g<|i+1))(j:step (g N)=E (.inr y)):∀m i:Nat,i+m=N->BM step (m+1) (g i)=E y
 |0,i,o=>by obtain rfl:i=N:=ω;exact AU j
 |m+1,i,o=>(BH<|h1 i ω).trans<|Anw N g y h1 j m (i+1) ω
def Am1(x y:Int):decide (x<y)=!decide (y<=x):=by by_cases h:y<=x<;>simp[h]<;>omega
def noE:H:=Entry.mk 0 0 0 0 B
structure Img where
 G0:List Int
 R0:List Bool
 K0:List Bool
 B0:List Entry
def Img.tup(m:Img):List Int×List Bool×List Bool×List H×Unit:=(m.G0,m.R0,m.K0,m.B0,())
def Img.none:Img:=⟨[],[],[],[]⟩
def Qz(fl g dir:Int):Bool:=(dir==1&&inR 0 (fl-2) g)||(dir==2&&inR 1 (fl-1) g)
def Yw{fl:Int}(h:0<=fl/\fl<100)(g dir:Int):Jz fl g dir=E ((Qz fl g dir,()),()):=by
 have q:O.wrap _=fl-1:=Aa ω ω;have o:O.wrap _=fl-2:=Aa ω ω;have k:∀lo j:Int,BK lo j [g]=E ((inR lo j g,()),()):=λlo j=>by rw[Ci lo j (show [g].length<=maxLen from(show 1<=maxLen by decide))];simp
 unfold Jz Qz;rw[q,o,k,k];cases dir==1<;>cases dir==2<;>cases inR 0 _ g<;>rfl
def Aq(b:Bldg)(g dir:Int):Bool:=b.code==0&&Qz b.C0 g dir
def Mf(hb:b.small)(g dir:Int):Gb b.C0 b.F0 b.J0 b.L0 b.I0 b.M0 b.O0 b.A0 g dir=E ((Aq b g dir,()),()):=by unfold Gb Aq;rw[Az,Yw ⟨by have:=hb.lo;omega,by have:=hb.hi;omega⟩];simp only[U];cases b.code==0<;>rfl
def RM(hb:b.small)(g dir:Int):LX b.C0 b.F0 b.J0 b.L0 b.I0 b.M0 b.O0 b.A0 g dir=E ((Aq b g dir,()),()):=by have lo:=hb.lo;have q:=hb.hi;have o:O.wrap (b.C0-1)=b.C0-1:=Aa ω ω;have j:O.wrap (b.C0-2)=b.C0-2:=Aa ω ω;unfold LX Aq Qz;rw[PK,o,j,Lp,Lp];simp only[U,bne];cases b.code==0<;>cases dir==1<;>cases dir==2<;>cases inR 0 (b.C0-2) g<;>rfl
def Iy(b:Bldg)(e:H):Bool:=Aq b e.D0 e.H0&&(aH (-2<=e.X0)&&(aH (e.X0<(b.A0.length:Int))&&(aH (0<=e.B2)&&decide (e.B2<=255))))
def Ahk(hb:b.small)(e:H):Nv b.C0 b.F0 b.J0 b.L0 b.I0 b.M0 b.O0 b.A0 e.D0 e.H0 e.X0 e.B2 e.Y2=E ((Iy b e,()),()):=by unfold Nv Iy;rw[Mf hb];cases Aq b e.D0 e.H0<;>cases decide (-2<=e.X0)<;>cases decide (e.X0<b.A0.length)<;>cases decide (0<=e.B2)<;>rfl
def By(a b:H):Bool:=decide (a.D0<b.D0)||(a.D0==b.D0&&decide (a.H0<b.H0))
def WB(x y:Int):Int:=bif decide (x<y)then -1 else bif decide (y<x)then 1 else 0
def HS(x y:Int):EL x y=E ((WB x y,()),()):=by unfold EL Lz WB;simp only[ Q_];cases decide (x<y)<;>cases decide (y<x)<;>rfl
def YC(x y:Int):LU [x,y]=E (((bif x !=0 then x else y),()),()):=by
 have r:∀(l:List Int) i,i<l.length->l.length<100->JY 0 l (l.length:Int) (i:Int)=E (bif l.getD i 0 !=0 then Sum.inr _ else Sum.inl _):=λl i o hl=>by
  have w:O.wrap (i+1)=((i+1:Nat):Int):=by rw[Aa ω ω];omega
  unfold JY;rw[J ω,Ac ω ω,l_,w];simp only[Z];cases l.getD i 0 !=0<;>rfl
 have r0:JY 0 [x,y] 2 0=E (bif x !=0 then Sum.inr _ else Sum.inl _):=r [x,y] 0 σ σ;have r1:JY 0 [x,y] 2 1=E (bif y !=0 then Sum.inr _ else Sum.inl _):=r [x,y] 1 σ σ;have h:PN ((0,[x,y],2,0,()),())=E (bif x !=0 then .inr ((x,()),())else bif y !=0 then .inr ((y,()),())else .inl ((0,()),())):=by
  refine AA (f:=3) ?_ ω;cases j:x !=0 with
  |true=>rw[j]at r0;exact AU r0
  |false=>
   rw[j]at r0;refine(BH r0).trans ?_;cases g:y !=0 with
   |true=>rw[g]at r1;exact AU r1
   |false=>rw[g]at r1;exact(BH r1).trans<|AU rfl
 unfold LU;rw[show((([x,y]:List Int).length:Nat):Int)=2 from rfl,h];cases j:x !=0 with
 |true=>rfl
 |false=>
  cases g:y !=0 with
  |true=>rfl
  |false=>
   have:y=0:=by simpa using g
   subst this;rfl
def Qj(a b:H):∃n:Int,IK a.D0 a.H0 a.X0 a.B2 a.Y2 b.D0 b.H0 b.X0 b.B2 b.Y2=E ((n,()),())/\decide (0<=n)=!By a b/\(n=0↔a.D0=b.D0/\a.H0=b.H0):=by
 unfold IK;rw[HS,HS];simp only[U];rw[YC];refine⟨_,rfl,?_,?_⟩
 .unfold By WB;by_cases h1:a.D0<b.D0
  .rw[J h1];rfl
  .rw[W h1];by_cases j:b.D0<a.D0
   .rw[J j,Ao ω];rfl
   .rw[W j,show(a.D0==b.D0)=C by simp;omega];by_cases g:a.H0<b.H0
    .rw[J g];rfl
    .rw[W g];cases decide (b.H0<a.H0)<;>rfl
 .unfold WB;by_cases h1:a.D0<b.D0
  .rw[J h1];exact⟨(λh=>by cases h),(λh=>by omega)⟩
  .rw[W h1];by_cases j:b.D0<a.D0
   .rw[J j];exact⟨(λh=>by cases h),(λh=>by omega)⟩
   .rw[W j];by_cases g:a.H0<b.H0
    .rw[J g];exact⟨(λh=>by cases h),(λh=>by omega)⟩
    .rw[W g];by_cases o:b.H0<a.H0
     .rw[J o];exact⟨(λh=>by cases h),(λh=>by omega)⟩
     .rw[W o];exact⟨λ_=>⟨ω,ω⟩,λ_=>rfl⟩
def Iz(b:Bldg):Option H->List H->Bool
 |_,[]=>C
 |p,e::t=>Iy b e&&((match p with|some q=>By q e|none=>C)&&Iz b (E e) t)
def Img.ok(b:Bldg)(m:Img):Bool:=b.code==0&&((m.G0.length:Int)==(b.A0.length:Int)&&((m.R0.length:Int)==(b.A0.length:Int)&&((m.K0.length:Int)==(b.A0.length:Int)&&(m.G0.all (inR 0 4)&&Iz b Option.none m.B0))))
def UJ(l:List H)(i:Nat):Option H:=if i=0 then none else E (l.getD (i-1) noE)
def Atz(h:i<l.length):Iz b (UJ l i) (l.drop i)=(Iy b (l.getD i noE)&&((match UJ l i with|some q=>By q (l.getD i noE)|none=>C)&&Iz b (UJ l<|i+1) (l.drop<|i+1))):=by rw[CV noE h];simp only[Iz,UJ,Nat.succ_ne_zero,g3_,Nat.add_sub_cancel]
def Bkw{lo g v:Int}{a c:α}:(bif decide (v<lo)then a else bif decide (g<v)then a else c)=bif inR lo g v then c else a:=by unfold inR;rw[Am1 v lo,Am1 g v];cases decide (lo<=v)<;>cases decide (v<=g)<;>rfl
def wrM(g:n<=maxLen)(h:i<n):O.wrap ((i:Int)+1)=((i+1:Nat):Int):=by
 have:maxLen<=9223372036854775807:=by decide
 rw[Aa ω ω];omega
def wrP{j:Nat}(g:n<=maxLen)(h:j+1<n):O.wrap (((j+1:Nat):Int)-1)=(j:Int):=by
 have:maxLen<=9223372036854775807:=by decide
 rw[Aa ω ω];omega
def Asd{X Y:Type}{step:X->Option (Sum X Y)}{N:Nat}(D:N<=maxLen)(g:Nat->X)(p q:Nat->Bool){v u:Y}(hq:∀i,i<N->q i=(p i&&q (i+1)))(o:q N=C)(A:∀i,i<N->step (g i)=E (bif p i then .inl (g<|i+1)else .inr u))(h1:step (g N)=E (.inr v)):BM step DF (g 0)=E (if q 0 then v else u):=by
 have w:maxLen<=9223372036854775807:=by decide
 have j:∀k i:Nat,i+k=N->BM step (k+1) (g i)=E (if q i then v else u):=by
  intro k;induction k with
  |zero=>intro i y;obtain rfl:i=N:=ω;rw[o];exact AU h1
  |succ k z=>
   intro i y;have h:=A i ω;rw[hq i ω];cases hp:p i with
   |true=>rw[hp]at h;exact(BH h).trans<|z (i+1) ω
   |false=>rw[hp]at h;exact AU h
 exact AA (j N 0 ω) ω
def Ba5(b:Bldg)(l:List H)(i:Nat):Bool:=Iy b (l.getD i noE)&&(match UJ l i with|some q=>By q (l.getD i noE)|none=>C)
def Axc(h:i<l.length):Iz b (UJ l i) (l.drop i)=(Ba5 b l i&&Iz b (UJ l<|i+1) (l.drop<|i+1)):=by rw[Atz h,<-Bool.and_assoc];rfl
section
variable{b:Bldg}(hb:b.small)(m:Img)
include hb
theorem Akk(hm:m.B0.length<=maxLen):LL (((),(),m.B0,(m.B0.length:Int),(0:Int),()),(b.tup,m.tup,()))=E (if Iz b none m.B0 then .inl ((),())else .inr ((B,()),())):=by
 refine Asd hm (λi=>(((),(),m.B0,(m.B0.length:Int),(i:Int),()),(b.tup,m.tup,()))) (Ba5 b m.B0) _ (λi g=>Axc g) (by rw[d6_];rfl) (λi g=>?_) (by show Ji m.B0 (m.B0.length:Int) (m.B0.length:Int) b.C0 b.F0 b.J0 b.L0 b.I0 b.M0 b.O0 b.A0 m.G0 m.R0 m.K0 m.B0=_;unfold Ji;rw[UD];rfl);have q:=Ahk hb<|m.B0.getD i noE;unfold noE at q;show Ji m.B0 _ _ b.C0 b.F0 b.J0 b.L0 b.I0 b.M0 b.O0 b.A0 m.G0 m.R0 m.K0 m.B0=_;unfold Ji Ba5;rw[Zi g,NN g];simp only[ l_,q,U];unfold noE;cases Iy b _ with
 |false=>rfl
 |true=>
  simp only[a8_,V];cases i with
  |zero=>rfl
  |succ j=>rw[J ω,wrP hm g,NN ω];obtain⟨n,c1,o,_⟩:=Qj (m.B0.getD j noE)<|m.B0.getD (j+1) noE;unfold noE at c1 o;simp only[Z,l_,c1,U,wrM hm g,o,UJ,Nat.succ_ne_zero,g3_,Nat.add_sub_cancel];unfold noE;cases By _ _<;>rfl
omit hb in
theorem Akj(hm:m.G0.length<=maxLen):LJ (((),(),m.G0,(m.G0.length:Int),(0:Int),()),(b.tup,m.tup,()))=E (if m.G0.all (inR 0 4)then .inl (((),(),()),(b.tup,m.tup,()))else .inr ((B,()),())):=by refine Asd hm (λi=>(((),(),m.G0,(m.G0.length:Int),(i:Int),()),(b.tup,m.tup,()))) _ (λi=>(m.G0.drop i).all _) (λi g=>by rw[CV (0:Int) g,T_]) (by rw[d6_];rfl) (λi g=>?_) (by show Jh m.G0 (m.G0.length:Int) (m.G0.length:Int) b.C0 b.F0 b.J0 b.L0 b.I0 b.M0 b.O0 b.A0 m.G0 m.R0 m.K0 m.B0=_;unfold Jh;rw[UD];rfl);show Jh m.G0 (m.G0.length:Int) (i:Int) b.C0 b.F0 b.J0 b.L0 b.I0 b.M0 b.O0 b.A0 m.G0 m.R0 m.K0 m.B0=_;unfold Jh;rw[Zi g,NN g,wrM hm g];simp only[ l_];rw[Bkw];cases inR 0 4 _<;>rfl
theorem Dw(hp:m.G0.length<=maxLen)(g:m.B0.length<=maxLen):Ct b.C0 b.F0 b.J0 b.L0 b.I0 b.M0 b.O0 b.A0 m.G0 m.R0 m.K0 m.B0=E ((m.ok b,()),()):=by
 unfold Ct Img.ok;rw[Az];simp only[U,bne];cases b.code==0 with
 |false=>rfl
 |true=>
  cases _==(b.A0.length:Int)with
  |false=>rfl
  |true=>
   cases _==(b.A0.length:Int)with
   |false=>rfl
   |true=>
    cases _==(b.A0.length:Int)with
    |false=>rfl
    |true=>
     have h0:=Akj (b:=b) m hp;have h1:=Akk hb m g;unfold Bldg.tup Img.tup at h0 h1;simp only[ h0,b1_];cases m.G0.all _ with
     |false=>rfl
     |true=>simp only[if_true,h1,U,b1_];cases Iz b none m.B0<;>rfl
end
def Vn(b:Bldg)(r:aA):Bool:=inR 0 ((b.A0.length:Int)-1) r.X0&&(r.D0==0&&r.H0==0)
def AB(b:Bldg)(r:aA):Bool:=
 b.code==0&&(bif r.C1==1 then Aq b r.D0 r.H0&&(r.X0==0&&r.P2==0)
 else bif r.C1==2 then Aq b r.D0 r.H0&&(r.X0==0&&r.P2==0)
 else bif r.C1==3 then Aq b r.D0 r.H0&&(inR (-2) ((b.A0.length:Int)-1) r.X0&&r.P2==0)
 else bif r.C1==4 then Vn b r&&inR 0 4 r.P2
 else bif r.C1==5 then Vn b r&&inR 0 1 r.P2
 else bif r.C1==6 then Vn b r&&inR 0 1 r.P2
 else bif r.C1==7 then Aq b r.D0 r.H0&&(inR 0 1 r.X0&&inR 0 255 r.P2)
 else B)
def isC(F D:Int)(e:H):Bool:=e.D0==F&&e.H0==D
def Ej(F D:Int):List H->Nat->Int
 |[],_=>-1
 |e::t,i=>bif isC F D e then(i:Int)else Ej F D t (i+1)
def WV(F D:Int):∀(l:List H) (i:Nat),(Ej F D l i=-1/\∀e∈l,isC F D e=B)\/∃k:Nat,k<l.length/\Ej F D l i=((i+k:Nat):Int)/\isC F D (l.getD k noE)=C
 |[],_=>.inl ⟨rfl,λ_ h=>by cases h⟩
 |e::t,i=>by
  simp only[Ej];cases h:isC F D e with
  |true=>exact .inr ⟨0,σ,rfl,h⟩
  |false=>
   rcases WV F D t (i+1)with⟨h1,j⟩|⟨k,h1,j,o⟩
   .refine .inl ⟨h1,λx g=>?_⟩;rcases A_.1 g with rfl|g
    .exact h
    .exact j x g
   .refine .inr ⟨k+1,by simp;omega,?_,o⟩;rw[V,j];congr 1;omega
def HD(e:H):Bool->List H->List H
 |d,[]=>bif d then []else [e]
 |true,x::t=>x::HD e C t
 |false,x::t=>bif By e x then e::x::HD e C t else x::HD e B t
def Aco(e:H):∀(l:List H) (d:Bool),(HD e d l).length<=l.length+1
 |[],C=>by simp[HD]
 |[],B=>by simp[HD]
 |x::t,C=>by simp only[HD,D_];have:=Aco e t C;omega
 |x::t,B=>by
  simp only[HD];cases By e x with
  |true=>
   simp only[Z,D_]
   have:∀t:List H,HD e C t=t:=λt=>by
    induction t with
    |nil=>rfl
    |cons a t g=>simp only[HD,g]
   rw[this];omega
  |false=>simp only[V,D_];have:=Aco e t B;omega
def Uz(e:H):∀t:List H,HD e C t=t
 |[]=>rfl
 |a::t=>by simp only[HD,Uz e t]
def Img.put(m:Img)(l:List H):Img:=⟨m.G0,m.R0,m.K0,l⟩
def Afq(e:H)(c:Int):H:=⟨e.D0,e.H0,c,e.B2,e.Y2⟩
def TO(e:H)(n c:Int):H:=⟨e.D0,e.H0,e.X0,n,c==1⟩
def Aw(m:Img)(r:aA):Img:=
 bif r.C1==4 then⟨m.G0.set r.X0.toNat r.P2,m.R0,m.K0,m.B0⟩
 else bif r.C1==5 then⟨m.G0,m.R0.set r.X0.toNat<|r.P2==1,m.K0,m.B0⟩
 else bif r.C1==6 then⟨m.G0,m.R0,m.K0.set r.X0.toNat<|r.P2==1,m.B0⟩
 else bif Ej r.D0 r.H0 m.B0 0==-1 then(bif r.C1==1 then m.put (HD ⟨r.D0,r.H0,-1,0,B⟩ B m.B0)else m)
 else bif r.C1==2 then m.put (m.B0.take (Ej r.D0 r.H0 m.B0 0).toNat++m.B0.drop ((Ej r.D0 r.H0 m.B0 0).toNat+1))
 else bif r.C1==3 then m.put (m.B0.set (Ej r.D0 r.H0 m.B0 0).toNat<|Afq (m.B0.getD (Ej r.D0 r.H0 m.B0 0).toNat noE) r.X0)
 else bif r.C1==7 then m.put (m.B0.set (Ej r.D0 r.H0 m.B0 0).toNat<|TO (m.B0.getD (Ej r.D0 r.H0 m.B0 0).toNat noE) r.P2 r.X0)
 else m
def Yt(b:Bldg)(m:Img)(r:aA):(Unit×Int×Unit)×((List Int×List Bool×List Bool×List H×Unit)×Unit):=bif m.ok b&&AB b r then(((),0,()),((Aw m r).tup,()))else(((),1,()),(Img.none.tup,()))
def Af6(h:AB b r=C)(g:r.C1=4\/r.C1=5\/r.C1=6):0<=r.X0/\r.X0<(b.A0.length:Int):=by
  unfold AB Vn at h;have k:∀q:Bool,(r.X0≥0/\r.X0<=b.A0.length-1)->0<=r.X0/\r.X0<b.A0.length:=λ_ h=>by omega
  rcases g with g|g|g<;>rw[g]at h<;>
    (simp only[b_]at h
     have h':=h.2;simp only[show((4:Int)==1)=B from rfl,show((4:Int)==2)=B from rfl,show((4:Int)==3)=B from rfl,show((5:Int)==1)=B from rfl,show((5:Int)==2)=B from rfl,show((5:Int)==3)=B from rfl,show((5:Int)==4)=B from rfl,show((6:Int)==1)=B from rfl,show((6:Int)==2)=B from rfl,show((6:Int)==3)=B from rfl,show((6:Int)==4)=B from rfl,show((6:Int)==5)=B from rfl,q_,V,Z,b_]at h'
     have:=Ak.1 h'.1.1
     exact k C ⟨this.1,this.2⟩)
def HI{a c:H}:By a c=C↔a.D0<c.D0\/(a.D0=c.D0/\a.H0<c.H0):=by unfold By;simp only[O_,b_,r_,I_]
def QD{a c d:H}(h:By a c=C)(h':By c d=C):By a d=C:=by rw[HI]at*;omega
def Ih(e:H):Int×Int:=(e.D0,e.H0)
def ltC(a c:Int×Int):Prop:=a.1<c.1\/(a.1=c.1/\a.2<c.2)
def Br(l:List H):Prop:=(l.map Ih).Pairwise ltC
def EK:Br l↔l.Pairwise λx y=>By x y=C:=by unfold Br;rw[List.pairwise_map];exact⟨λh=>h.imp λhh=>HI.2 hh,λh=>h.imp λhh=>HI.1 hh⟩
def Aiu{b:Bldg}:∀{l:List H}{p:Option H},Iz b p l=C↔(∀e∈l,Iy b e=C)/\Br l/\(∀q,p=E q->∀e∈l,By q e=C)
 |[],p=>by simp[Iz,Br]
 |a::t,p=>by
  simp only[Iz,b_];rw[Aiu (l:=t),EK,EK,f6_];constructor
  .rintro⟨h1,j,o,u,v⟩;refine⟨λe g=>?_,⟨λe g=>v a rfl e g,u⟩,λq hq e g=>?_⟩
   .rcases A_.1 g with rfl|g
    .exact h1
    .exact o e g
   .subst hq;simp only at j;rcases A_.1 g with rfl|g
    .exact j
    .exact QD j<|v a rfl e g
  .rintro⟨h1,⟨j,o⟩,u⟩;refine⟨h1 a<|C_ ..,?_,λe g=>h1 e<|F_ _ g,o,λq hq e g=>?_⟩
   .cases p with
    |none=>rfl
    |some q=>exact u q rfl a<|C_ ..
   .obtain rfl:=s_ hq;exact j e g
def Aej:Iz b none l=C↔(∀e∈l,Iy b e=C)/\Br l:=by rw[Aiu];exact⟨λh=>⟨h.1,h.2.1⟩,λh=>⟨h.1,h.2,λ_ hq=>by cases hq⟩⟩
def Avl(h:Br l)(k:Nat):Br<|l.take k++l.drop (k+1):=by rw[EK]at*;exact h.sublist (by rw[<-List.eraseIdx_eq_take_drop_succ];exact List.eraseIdx_sublist ..)
def An8(g:k<l.length)(j:Ih e=Ih (l.getD k noE)):(l.set k e).map Ih=l.map Ih:=by
 rw[List.map_set,j];apply List.ext_getElem?;intro i;rw[List.getElem?_set];by_cases h:k=i
 .subst h;simp[g,g_]
 .rw[if_neg h]
def Afv(h:Br l)(g:k<l.length)(j:Ih e=Ih (l.getD k noE)):Br<|l.set k e:=by unfold Br at*;rw[An8 g j];exact h
def Ac1{e x:H}:∀{l:List H},x∈HD e B l->x=e\/x∈l
 |[],h=>by simp[HD]at h;exact .inl h
 |a::t,h=>by
  simp only[HD]at h;cases hq:By e a with
  |true=>
   rw[hq,Uz]at h;rcases A_.1 h with h|h
   .exact .inl h
   .exact .inr h
  |false=>
   rw[hq]at h;rcases A_.1 h with h|h
   .exact .inr (by rw[h];exact C_ ..)
   .rcases Ac1 h with h|h
    .exact .inl h
    .exact .inr<|F_ _ h
def Afu{e:H}:∀{l:List H},Br l->(∀x∈l,isC e.D0 e.H0 x=B)->Br (HD e B l)
 |[],_,_=>by simp[HD,Br]
 |a::t,h,o=>by
  rw[EK]at*;obtain⟨h1,q⟩:=f6_.1 h;simp only[HD];cases hq:By e a with
  |true=>
   rw[ Uz];refine f6_.2 ⟨λx g=>?_,h⟩;rcases A_.1 g with rfl|g
   .exact hq
   .exact QD hq<|h1 x g
  |false=>
   refine f6_.2 ⟨λx g=>?_,EK.1 (Afu (EK.2 q) λx g=>o x<|F_ _ g)⟩;rcases Ac1 g with rfl|g
   .rw[HI];have u:¬(x.D0<a.D0\/(x.D0=a.D0/\x.H0<a.H0)):=λhh=>by rw[HI.2 hh]at hq;cases hq
    have j:=o a<|C_ ..;unfold isC at j;simp only[Bool.and_eq_false_iff,beq_eq_false_iff_ne]at j;omega
   .exact h1 x g
structure ImgOK(b:Bldg)(m:Img):Prop where
 code:b.code=0
 lp:m.G0.length=b.A0.length
 lf:m.R0.length=b.A0.length
 ll:m.K0.length=b.A0.length
 ph:∀p∈m.G0,0<=p/\p<=4
 en:∀e∈m.B0,Iy b e=true
 so:Br m.B0
def Img.ok_iff{m:Img}:m.ok b=C↔ImgOK b m:=by
 unfold Img.ok;simp only[b_,I_];constructor
 .rintro⟨h0,h1,u,q,o,j⟩;have g:=Aej.1 j;exact⟨h0,ω,ω,ω,λp hp=>Ak.1<|G_.1 o p hp,g.1,g.2⟩
 .rintro⟨h0,h1,u,q,o,j,g⟩;exact⟨h0,ω,ω,ω,G_.2 λp hp=>Ak.2<|o p hp,Aej.2 ⟨j,g⟩⟩
def Fy:Iy b e=C↔Aq b e.D0 e.H0=C/\(-2<=e.X0/\e.X0<(b.A0.length:Int))/\0<=e.B2/\e.B2<=255:=by
 unfold Iy;simp only[b_,r_];constructor
 .rintro⟨h1,q,o,j,g⟩;exact⟨h1,⟨q,o⟩,j,g⟩
 .rintro⟨h1,⟨q,o⟩,j,g⟩;exact⟨h1,q,o,j,g⟩
def Ahm{l:List α}{a x:α}(h:x∈l.set k a):x=a\/x∈l:=by
 rcases List.mem_or_eq_of_mem_set h with h|h
 .exact .inr h
 .exact .inl h
def Abu(h:AB b r=C):b.code=0/\
    ((r.C1=1/\Aq b r.D0 r.H0=C/\r.X0=0/\r.P2=0)\/(r.C1=2/\Aq b r.D0 r.H0=C/\r.X0=0/\r.P2=0)\/
     (r.C1=3/\Aq b r.D0 r.H0=C/\(-2<=r.X0/\r.X0<(b.A0.length:Int))/\r.P2=0)\/
     (r.C1=4/\(0<=r.X0/\r.X0<(b.A0.length:Int))/\(0<=r.P2/\r.P2<=4))\/
     (r.C1=5/\(0<=r.X0/\r.X0<(b.A0.length:Int))/\(0<=r.P2/\r.P2<=1))\/
     (r.C1=6/\(0<=r.X0/\r.X0<(b.A0.length:Int))/\(0<=r.P2/\r.P2<=1))\/
     (r.C1=7/\Aq b r.D0 r.H0=C/\(0<=r.X0/\r.X0<=1)/\(0<=r.P2/\r.P2<=255))):=by
  unfold AB Vn at h;simp only[b_,I_]at h;obtain⟨h0,h⟩:=h;refine⟨h0,?_⟩;by_cases k1:r.C1=1
  · rw[k1]at h;simp only[q_,Z,b_,I_]at h;exact .inl ⟨k1,h.1,h.2⟩
  rw[Ao k1,V]at h;by_cases u:r.C1=2
  · rw[u]at h;simp only[q_,Z,b_,I_]at h;exact .inr<|.inl ⟨u,h.1,h.2⟩
  rw[Ao u,V]at h;by_cases j:r.C1=3
  · rw[j]at h;simp only[q_,Z,b_,I_,Ak]at h;exact .inr<|.inr<|.inl ⟨j,h.1,ω,h.2.2⟩
  rw[Ao j,V]at h;by_cases k4:r.C1=4
  · rw[k4]at h;simp only[q_,Z,b_,Ak]at h;exact .inr<|.inr<|.inr<|.inl ⟨k4,ω,h.2⟩
  rw[Ao k4,V]at h;by_cases o:r.C1=5
  · rw[o]at h;simp only[q_,Z,b_,Ak]at h;exact .inr<|.inr<|.inr<|.inr<|.inl ⟨o,ω,h.2⟩
  rw[Ao o,V]at h;by_cases g:r.C1=6
  · rw[g]at h;simp only[q_,Z,b_,Ak]at h;exact .inr<|.inr<|.inr<|.inr<|.inr<|.inl ⟨g,ω,h.2⟩
  rw[Ao g,V]at h;by_cases q:r.C1=7
  · rw[q]at h;simp only[q_,Z,b_,Ak]at h;exact .inr<|.inr<|.inr<|.inr<|.inr<|.inr ⟨q,h.1,h.2.1,h.2.2⟩
  rw[Ao q]at h;cases h
def Afg{m:Img}(h:ImgOK b m)(h1:∀e∈l,Iy b e=C)(g:Br l):ImgOK b<|m.put l:=⟨h.code,h.lp,h.lf,h.ll,h.ph,h1,g⟩
def Kq{m:Img}(h:ImgOK b m)(A:AB b r=C):ImgOK b (Aw m r)/\(Aw m r).B0.length<=m.B0.length+1:=by
 obtain⟨_,g⟩:=Abu A;unfold Aw;by_cases k4:r.C1=4
 .rw[show(r.C1==4)=C by rw[k4];rfl];refine⟨⟨h.code,by show(m.G0.set _ _).length=_;rw[z_];exact h.lp,h.lf,h.ll,λp hp=>?_,h.en,h.so⟩,aW _⟩;rcases Ahm hp with rfl|hp
  .omega
  .exact h.ph p hp
 rw[Ao k4,V];by_cases y:r.C1=5
 .rw[show(r.C1==5)=C by rw[y];rfl];exact⟨⟨h.code,h.lp,by show(m.R0.set _ _).length=_;rw[z_];exact h.lf,h.ll,h.ph,h.en,h.so⟩,aW _⟩
 rw[Ao y,V];by_cases v:r.C1=6
 .rw[show(r.C1==6)=C by rw[v];rfl];exact⟨⟨h.code,h.lp,h.lf,by show(m.K0.set _ _).length=_;rw[z_];exact h.ll,h.ph,h.en,h.so⟩,aW _⟩
 rw[Ao v,V];rcases WV r.D0 r.H0 m.B0 0 with⟨h1,u⟩|⟨k,h1,u,D⟩
 .rw[h1,show((-1)==-1)=C from rfl];by_cases k1:r.C1=1
  .rw[show(r.C1==1)=C by rw[k1];rfl];refine⟨Afg h (λe j=>?_)<|Afu h.so u,Aco _ _ _⟩;rcases Ac1 j with rfl|j
   .rw[Fy];have hc:Aq b r.D0 r.H0=C:=by
     rcases g with g|g|g|g|g|g|g
     .exact g.2.1
     all_goals omega
    exact⟨hc,⟨by show _<=-1;omega,by show(-1)<_;omega⟩,by show _<=0;omega,by show 0<=255;omega⟩
   .exact h.en e j
  .rw[Ao k1];exact⟨h,aW _⟩
 .rw[n_]at u;rw[u,Ao ω,V];have q:=Av noE h1;have o:=Fy.1<|h.en _ q;cases r.C1==2 with
  |true=>
   refine⟨Afg h (λe j=>?_)<|Avl h.so k,?_⟩
   .rcases m_.1 j with j|j
    .exact h.en e<|e4_ j
    .exact h.en e<|e5_ j
   .show(m.B0.take k++m.B0.drop (k+1)).length<=_;rw[f_,x_,U_];omega
  |false=>
   by_cases w:r.C1=3
   .rw[show(r.C1==3)=C by rw[w];rfl];refine⟨Afg h (λe j=>?_)<|Afv h.so h1 rfl,by show(m.B0.set _ _).length<=_;rw[z_];omega⟩;rcases Ahm j with rfl|j
    .rw[Fy];refine⟨o.1,?_,o.2.2⟩;rcases g with g|g|g|g|g|g|g
     all_goals first
      |exact g.2.2.1
      |omega
    .exact h.en e j
   .rw[Ao w];by_cases z:r.C1=7
    .rw[show(r.C1==7)=C by rw[z];rfl];refine⟨Afg h (λe j=>?_)<|Afv h.so h1 rfl,by show(m.B0.set _ _).length<=_;rw[z_];omega⟩;rcases Ahm j with rfl|j
     .rw[Fy];refine⟨o.1,o.2.1,?_⟩;rcases g with g|g|g|g|g|g|g
      all_goals first
       |exact g.2.2.2
       |omega
     .exact h.en e j
    .rw[Ao z];exact⟨h,aW _⟩
def Ph(b:Bldg):Img:=⟨aE b.A0.length 0,aE b.A0.length B,aE b.A0.length B,[]⟩
def Acm(hcode:b.code=0):ImgOK b<|Ph b:=⟨hcode,P_,P_,P_,(λp hp=>by rw[List.eq_of_mem_replicate hp];omega),(λ_ h=>by cases h),by simp[Ph,Br]⟩
def Ar(m:Img):List aA->Img
 |[]=>m
 |r::t=>Ar (Aw m r) t
def Ys{b:Bldg}:∀{rs:List aA}{m:Img},ImgOK b m->(∀r∈rs,AB b r=C)->ImgOK b (Ar m rs)/\(Ar m rs).B0.length<=m.B0.length+rs.length
 |[],_,h,_=>⟨h,t_ _⟩
 |r::t,m,h,g=>by obtain⟨h1,u⟩:=Kq h<|g r<|C_ ..;obtain⟨o,q⟩:=Ys h1 λx j=>g x<|F_ _ j;exact⟨o,by show(Ar _ t).B0.length<=_;rw[D_];omega⟩
def Adb(n lo g:Int):FL n lo g=E ((inR lo g n,()),()):=by unfold FL inR;cases decide (lo<=n)<;>rfl
def Pq(hb:b.small)(hc:b.A0.length<=100)(r:aA):HO b.C0 b.F0 b.J0 b.L0 b.I0 b.M0 b.O0 b.A0 r.C1 r.D0 r.H0 r.X0 r.P2=E ((AB b r,()),()):=by
  have w:O.wrap _=b.A0.length-1:=Aa ω ω;unfold HO AB Vn;rw[Az,Mf hb];simp only[U,bne,Adb,w];cases b.code==0 with
  |false=>rfl
  |true=>
    simp only[a8_,V];cases inR 0 _ r.X0<;>cases r.D0==0<;>cases r.H0==0<;>
      (simp only[U,Z,V,e6_,b1_,w]
       by_cases k1:r.C1=1
       · simp only[k1,Z]
         cases Aq b r.D0 r.H0<;>cases r.X0==0<;>rfl
       by_cases u:r.C1=2
       · simp only[u,V]
         cases Aq b r.D0 r.H0<;>cases r.X0==0<;>rfl
       by_cases j:r.C1=3
       · simp only[j,show _=B from rfl]
         cases Aq b r.D0 r.H0<;>cases inR (-2) _ r.X0<;>rfl
       by_cases k4:r.C1=4
       · simp only[k4,q_,Z,V,show((4:Int)==1)=B from rfl,show((4:Int)==2)=B from rfl,show((4:Int)==3)=B from rfl,show((4:Int)==7)=B from rfl]
       by_cases o:r.C1=5
       · simp only[o,q_,Z,V,show((5:Int)==1)=B from rfl,show((5:Int)==2)=B from rfl,show((5:Int)==3)=B from rfl,show((5:Int)==7)=B from rfl,show((5:Int)==4)=B from rfl]
       by_cases g:r.C1=6
       · simp only[g,q_,Z,V,show((6:Int)==1)=B from rfl,show((6:Int)==2)=B from rfl,show((6:Int)==3)=B from rfl,show((6:Int)==7)=B from rfl,show((6:Int)==4)=B from rfl,show((6:Int)==5)=B from rfl]
       by_cases q:r.C1=7
       · simp only[q,show _=B from rfl]
         cases Aq b r.D0 r.H0<;>cases inR 0 1 r.X0<;>rfl
       simp only[Ao k1,Ao u,Ao j,Ao k4,Ao o,Ao g,Ao q,V])
def Zh(m:Img)(h1:m.G0.length<=100000)(o:m.R0.length<=100000)(g:m.K0.length<=100000)(j:m.B0.length<=100000):MY m.G0 m.R0 m.K0 m.B0=E (((),()),(m.tup,())):=by
 have k:∀{α:Type}(l:List α),l.length<=100000->Lv l=E _:=λl h=>by unfold Lv;rw[AR ω];rfl
 unfold MY Be AG AM;rw[k _ h1,k _ o,k _ g,k _ j];rfl
def Bk(c:H):List H->Nat
 |[]=>0
 |e::t=>bif By e c then Bk c t+1 else 0
def Wa(c:H):∀l:List H,Bk c l<=l.length
 |[]=>t_ _
 |e::t=>by
  have:=Wa c t
  simp only[Bk];cases By e c<;>simp<;>omega
def Aht(c:H):∀(l:List H) (k:Nat),k<Bk c l->By (l.getD k noE) c=C
 |[],k,h=>by simp[Bk]at h
 |e::t,k,h=>by
  simp only[Bk]at h;cases g:By e c with
  |false=>rw[g]at h;simp at h
  |true=>
   rw[g]at h;cases k with
   |zero=>exact g
   |succ k=>exact Aht c t k (by simp at h;omega)
def Ahs{c:H}:∀{l:List H},Br l->∀k,Bk c l<=k->k<l.length->By (l.getD k noE) c=B
 |[],_,k,_,h=>by simp at h
 |e::t,hs,k,h1,j=>by
  obtain⟨o,q⟩:=f6_.1<|EK.1 hs;simp only[Bk]at h1;cases g:By e c with
  |true=>
   rw[g,Z]at h1;cases k with
   |zero=>omega
   |succ k=>exact Ahs (EK.2 q) k ω (by simp at j;omega)
  |false=>
   cases k with
   |zero=>exact g
   |succ k=>
    cases hq:By _ c with
    |false=>rfl
    |true=>
     have hm:=Av noE (by simp at j;omega)
     have:=QD (o _ hm) hq
     rw[g]at this;cases this
def Xn{a c:H}(h:isC c.D0 c.H0 a=C):By a c=B/\By c a=B:=by
 unfold isC at h;simp only[b_,I_]at h;constructor
 all_goals
  apply Bool.eq_false_iff.2;intro hh;rw[HI]at hh;omega
def An4{a c:H}(h:isC c.D0 c.H0 a=B)(h':By a c=B):By c a=C:=by
 rw[HI];have h1:¬(a.D0<c.D0\/(a.D0=c.D0/\a.H0<c.H0)):=λhh=>by rw[HI.2 hh]at h';cases h'
 unfold isC at h;simp only[Bool.and_eq_false_iff,beq_eq_false_iff_ne]at h;omega
def Ajd{a c:H}(h:By a c=C):By c a=B:=by apply Bool.eq_false_iff.2;intro hh;rw[HI]at*;omega
def WU{F D:Int}:∀{l:List H}{i:Nat},(∀x∈l,isC F D x=B)->Ej F D l i=-1
 |[],_,_=>rfl
 |e::t,i,h=>by simp only[Ej];rw[h e<|C_ ..];exact WU λx g=>h x<|F_ _ g
def Gm(c:H)(l:List H):Bool:=Nat.blt (Bk c l) l.length&&isC c.D0 c.H0 (l.getD (Bk c l) noE)
def Rm{c:H}:∀{l:List H}(i:Nat),Br l->Ej c.D0 c.H0 l i=bif Gm c l then((i+Bk c l:Nat):Int)else -1
 |[],_,_=>rfl
 |e::t,i,hs=>by
  obtain⟨o,u⟩:=f6_.1<|EK.1 hs;have g:Bk c (e::t)=bif By e c then Bk c t+1 else 0:=rfl;unfold Gm;simp only[Ej];rw[g];cases j:isC c.D0 c.H0 e with
  |true=>rw[(Xn j).1];simp[j,show Nat.blt 0 (t.length+1)=C from rfl]
  |false=>
   cases hl:By e c with
   |true=>rw[V,Z,Rm (i+1)<|EK.2 u];unfold Gm;rw[show((e::t).getD _ noE)=t.getD _ noE from rfl,D_,show Nat.blt _ (t.length+1)=Nat.blt _ t.length from rfl];rw[show i+1+Bk c t=i+(Bk c t+1)by omega]
   |false=>
    rw[V,V,show((e::t).getD 0 noE)=e from rfl,j,d1_];refine WU λx q=>?_;cases hq:isC c.D0 c.H0 x with
    |false=>rfl
    |true=>have h1:=QD (An4 j hl)<|o x q;rw[(Xn hq).2]at h1;cases h1
def Acp{c:H}:∀{l:List H},(∀x∈l,isC c.D0 c.H0 x=B)->HD c B l=l.take (Bk c l)++[c]++l.drop (Bk c l)
 |[],_=>rfl
 |e::t,h=>by
  simp only[HD,Bk];cases hl:By e c with
  |true=>rw[Ajd hl,Acp λx g=>h x<|F_ _ g];simp
  |false=>rw[An4 (h e<|C_ ..) hl,Uz];simp
def Ai7{c:H}(hs:Br l)(h:Gm c l=B):∀x∈l,isC c.D0 c.H0 x=B:=by
 have h1:=Rm (c:=c) 0 hs;rw[h,V]at h1;rcases WV c.D0 c.H0 l 0 with⟨_,g⟩|⟨k,_,g,_⟩
 .exact g
 .rw[h1]at g;omega
def BZ(F D:Int):H:=⟨F,D,0,0,B⟩
def Ai6{j:Nat}(h:i+j<9223372036854775808):O.wrap (aR (aC aV<|aC O<|(i:Int)+(j:Int))<|(2:Int)^(aQ (aB (1:Int))<|IntKind.bits aV))=(((i+j)/2:Nat):Int):=by rw[Aa (n:=i+j) ω ω,ES ω ω];rw[show((2:Int)^(aQ _ _))=2 from rfl];rw[H_ _ ω];rw[Aa ω ω];omega
def Aqs(hs:Br l)(hl:l.length<=100000)(F D:Int):
  AW ((l,(),(),(l.length:Int),(0:Int),(l.length:Int),()),((F,D,0,0,B,()),()))=E ((l,(),(),(l.length:Int),((Bk (BZ F D) l:Nat):Int),()),((F,D,0,0,B,()),())):=by
 refine Bfs (λx y=>∃i j:Nat,i<=Bk (BZ F D) l/\Bk (BZ F D) l<=j/\j<=l.length/\x=((l,(),(),(l.length:Int),(i:Int),(j:Int),()),((F,D,0,0,B,()),()))/\y=((l,(),(),(l.length:Int),((Bk _ l:Nat):Int),()),((F,D,0,0,B,()),()))) (λx=>x.1.2.2.2.2.2.1.toNat-x.1.2.2.2.2.1.toNat) ?_ ⟨0,l.length,W_ _,Wa _ _,t_ _,rfl,rfl⟩ (by show((l.length:Int).toNat-aB 0)<_;omega);rintro _ _ ⟨i,j,h1,v,u,rfl,rfl⟩;show(∃x',AD l (l.length:Int) (i:Int) (j:Int) F D 0 0 B=_/\_)\/AD l (l.length:Int) (i:Int) (j:Int) F D 0 0 B=_;unfold AD;rw[Ai6 ω];by_cases q:i<j
 .left;have hh:(i+j)/2<l.length:=ω;obtain⟨n,c1,o,_⟩:=Qj (l.getD ((i+j)/2) noE)<|BZ F D;unfold BZ at c1;unfold noE at c1;simp only[J (ω:(i:Int)<(j:Int)),Ac ω (ω:(((i+j)/2:Nat):Int)<l.length),l_,c1,U];have g:decide (n<0)=By (l.getD ((i+j)/2) noE) (BZ F D):=by rw[Am1,o,Bool.not_not]
  rw[g];cases hq:By _ _ with
  |true=>
   have:(i+j)/2<Bk (BZ F D) l:=by
    rcases f5_ _ _ with h|h
    .exact h
    .have:=Ahs hs _ h hh
     rw[hq]at this;cases this
   rw[ show O.wrap _=(((i+j)/2+1:Nat):Int)by rw[Aa ω ω];omega];exact⟨_,rfl,⟨(i+j)/2+1,j,ω,v,u,rfl,trivial⟩,by show aB j-aB (((i+j)/2+1:Nat):Int)<aB j-aB i;omega⟩
  |false=>
   have:Bk (BZ F D) l<=(i+j)/2:=by
    rcases f5_ _ _ with h|h
    .have:=Aht (BZ F D) l _ h
     rw[hq]at this;cases this
    .exact h
   exact⟨_,rfl,⟨i,(i+j)/2,h1,this,ω,rfl,trivial⟩,by show aB (((i+j)/2:Nat):Int)-aB i<aB j-aB i;omega⟩
 .right;rw[W (ω:¬(i:Int)<(j:Int)),show i=Bk (BZ F D) l by omega];rfl
def Abn(m:Img)(hs:Br m.B0)(hl:m.B0.length<=100000)(F D:Int):OC m.G0 m.R0 m.K0 m.B0 F D=E ((((Bk (BZ F D) m.B0:Nat):Int),Gm (BZ F D) m.B0,()),()):=by
 unfold OC AZ;simp only;rw[Aqs hs hl F D];simp only[U];unfold Gm;by_cases h:Bk (BZ F D) m.B0<m.B0.length
 .obtain⟨n,c1,_,g⟩:=Qj _ _;rw[J ω,Ac ω ω,l_,show Nat.blt _ m.B0.length=C by rw[g5_];exact h];have e:(n==0)=isC (BZ F D).D0 (BZ F D).H0 (m.B0.getD (Bk (BZ F D) m.B0) noE):=by
   rw[Bool.eq_iff_iff,I_,g];unfold isC;rw[b_,I_,I_]
  rw[<-e];generalize Bk _ m.B0=p at*;unfold noE at c1;unfold BZ at c1;simp only[Z,c1,U,b1_]
 .rw[W ω,show Nat.blt _ m.B0.length=B by rw[<-Bool.not_eq_true,g5_];exact h];rfl
def Axs(x:H)(e:H):By x (BZ e.D0 e.H0)=By x e:=rfl
def TI(e:H):∀l:List H,Bk (BZ e.D0 e.H0) l=Bk e l
 |[]=>rfl
 |x::t=>by simp only[Bk,Axs,TI e t]
def XT{m:Img}(hs:Br m.B0)(hl:m.B0.length<=100000)(r:aA)(hc:(r.C1=4\/r.C1=5\/r.C1=6)->0<=r.X0/\r.X0<(m.G0.length:Int)/\r.X0<(m.R0.length:Int)/\r.X0<(m.K0.length:Int)) :
  LW r.C1 r.D0 r.H0 r.X0 r.P2 m.G0 m.R0 m.K0 m.B0=E ((),((Aw m r).tup,())):=by
 unfold LW Aw;rw[Abn m hs hl];simp only[U];by_cases k4:r.C1=4
 .obtain⟨g,c1,v,o⟩:=hc<|.inl k4;rw[k4];simp only[ Ac g c1];rfl
 rw[Ao k4];by_cases u:r.C1=5
 .obtain⟨g,c1,v,o⟩:=hc<|.inr<|.inl u;rw[u];simp only[ Ac g v];rfl
 rw[Ao u];by_cases q:r.C1=6
 .obtain⟨g,c1,v,o⟩:=hc<|.inr<|.inr q;rw[q];simp only[ Ac g o];rfl
 rw[Ao q];have hf:=Rm (c:=BZ r.D0 r.H0) 0 hs;simp only[n_]at hf;rw[show Ej r.D0 r.H0 m.B0 0=_ from hf];have hp:=Wa (BZ r.D0 r.H0) m.B0;cases hq:Gm _ m.B0 with
 |false=>
  have I:=Ai7 hs hq;by_cases k1:r.C1=1
  .rw[k1];unfold Ed Acn;rw[ J (ω:((Bk (BZ r.D0 r.H0) m.B0:Nat):Int)<=(m.B0.length:Int))];rw[ AR (by rw[L_];omega)];have F:=Acp (c:=⟨r.D0,r.H0,-1,0,B⟩) I;rw[F,show Bk ⟨r.D0,r.H0,-1,0,B⟩ m.B0=Bk _ m.B0 from(TI ⟨r.D0,r.H0,-1,0,B⟩ m.B0).symm];rfl
  .rw[Ao k1];cases r.C1==2<;>cases r.C1==3<;>cases r.C1==7<;>rfl
 |true=>
  have j:Bk (BZ r.D0 r.H0) m.B0<m.B0.length:=by unfold Gm at hq;rw[b_,g5_]at hq;exact hq.1
  simp only[ l_];generalize Bk _ m.B0=p at hp j|-;have w:O.wrap (p+1)=((p+1:Nat):Int):=by rw[Aa ω ω];omega
  have A:inB p m.B0.length=C:=Ac ω ω;by_cases k1:r.C1=1
  .simp only[k1,show _=B from rfl];rfl
  rw[Ao k1];cases r.C1==2 with
  |true=>unfold Ec Am2;simp only[ w,J (ω:p<((p+1:Nat):Int)),J (ω:((p+1:Nat):Int)<=m.B0.length),U];rfl
  |false=>
   cases r.C1==3 with
   |true=>simp only[ A];rfl
   |false=>
    cases r.C1==7 with
    |true=>
     have z:∀y:H,inB p (m.B0.set p y).length=C:=λy=>Ac ω (by rw[z_];omega);have D:∀y:H,(m.B0.set p y).getD p (Entry.mk 0 0 0 0 B)=y:=λy=>by simp[g_,j]
     simp only[ A,z,D,g8_];rfl
    |false=>rfl
def Ze(hb:b.small)(g:b.A0.length<=100)(m:Img)(hp:m.G0.length<=100000)(hl:m.B0.length<=10000)(r:aA):
  MX b.C0 b.F0 b.J0 b.L0 b.I0 b.M0 b.O0 b.A0 m.G0 m.R0 m.K0 m.B0 r.C1 r.D0 r.H0 r.X0 r.P2=E (Yt b m r):=by
 have q:100000<=maxLen:=by decide
 unfold MX Yt;rw[Dw hb m ω ω];cases j:m.ok b with
 |false=>rfl
 |true=>
  rw[Pq hb g r];cases u:AB b r with
  |false=>rfl
  |true=>
   have hm:=Img.ok_iff.1 j;have h1:=hm.lp;have w:=hm.lf;have v:=hm.ll;rw[Zh m hp ω ω ω];simp only[U,Img.tup];rw[XT hm.so ω r λo=>by
    have:=Af6 u o
    omega]
   rfl
def Ahi(b:Bldg):Nt b.C0 b.F0 b.J0 b.L0 b.I0 b.M0 b.O0 b.A0=E (((),()),((bif b.code==0 then(Ph b).tup else Img.none.tup),())):=by
 unfold Nt;rw[Az];simp only[U,bne];cases hc:b.code==0 with
 |false=>rfl
 |true=>
  have j:b.A0.length<=8:=by
   have g:b.code=0:=by simpa using hc
   unfold Bldg.code at g;cases h1:inR 1 8 b.A0.length with
   |true=>have:=(Ak.1 h1).2;omega
   |false=>rw[h1]at g;cases o:inR 2 32 b.C0<;>rw[o]at g<;>simp at g
  simp only[ J<|e1_ _,J (ω:(b.A0.length:Int)<=2147483648),f4_];rfl
def Bmt{a b:Nat}(h:a<=100000)(h':b<=100000):O.wrap (aC O (18*O.wrap (aC O ((a:Int)+(b:Int))+1))+6)=18*((a:Int)+(b:Int)+1)+6:=by rw[Aa (n:=a+b) ω ω,Aa (n:=a+b+1) ω ω,Aa (n:=18*(a+b+1)) ω ω,Aa ω ω]
def Pu(b:Bldg)(m:Img):Bool:=m.ok b&&decide (18*((b.A0.length:Int)+(m.B0.length:Int)+1)+6<=b.J0)
def Abm(hb:b.small)(m:Img)(hc:b.A0.length<=100000)(hp:m.G0.length<=100000)(hl:m.B0.length<=100000):
  Mu b.C0 b.F0 b.J0 b.L0 b.I0 b.M0 b.O0 b.A0 m.G0 m.R0 m.K0 m.B0=E ((Pu b m,()),()):=by
 have g:100000<=maxLen:=by decide
 unfold Mu Pu;rw[Dw hb m ω ω];simp only[ Bmt hc hl];cases m.ok b<;>rfl
def Yp(p:Nat->Bool):Nat->Nat->Bool
 |0,_=>C
 |m+1,i=>p i&&Yp p m (i+1)
def DJ:Nat:=10000000
def GS(h:i<n)(g:n<=DJ):O.wrap ((i:Int)+1)=((i+1:Nat):Int):=by unfold DJ at g;rw[Aa ω ω];omega
structure Img.fit(m:Img):Prop where
 p:m.G0.length<=100000
 f:m.R0.length<=100000
 l:m.K0.length<=100000
 e:m.B0.length<=100000
def Xt(g:Bool):Int:=bif g then 1 else 0
def XU(g:Bool):JO g=E ((Xt g,()),()):=by unfold JO Xt;cases g<;>rfl
def SF(m:Img)(i:Nat):List aA:=[⟨4,0,0,i,m.G0.getD i 0⟩,⟨5,0,0,i,Xt<|m.R0.getD i B⟩,⟨6,0,0,i,Xt<|m.K0.getD i B⟩]
def QK(e:H):List aA:=[⟨1,e.D0,e.H0,0,0⟩,⟨3,e.D0,e.H0,e.X0,0⟩,⟨7,e.D0,e.H0,Xt e.Y2,e.B2⟩]
def FZ(m:Img):List aA:=(aK 0 m.G0.length).flatMap (SF m)++m.B0.flatMap QK
def Mk{α:Type}(f:Nat->List α):∀(k i:Nat) (s:List α),Ba (λi s=>s++f i) k i s=s++(aK i k).flatMap f
 |0,i,s=>by simp[Ba]
 |k+1,i,s=>by simp only[Ba];rw[Mk f k<|i+1,e8_,X_,N_]
def Pp{α β:Type}(f:α->List β)(d:α):∀(l:List α) (i k:Nat),i+k=l.length->(aK i k).flatMap (λi=>f<|l.getD i d)=(l.drop i).flatMap f
 |l,i,0,h=>by obtain rfl:i=l.length:=ω;simp
 |l,i,k+1,h=>by rw[e8_,X_,Pp f d l (i+1) k ω,CV d (ω:i<l.length),X_]
def At0(l:List H):(aK 0 l.length).flatMap (λi=>QK<|l.getD i noE)=l.flatMap QK:=by rw[Pp QK noE l 0 l.length ω,d8_]
section
variable{m:Img}(hf:m.fit)
include hf
theorem Zg{out:List aA}(w:out.length<=300000):KI (((),m.B0,(m.B0.length:Int),(0:Int),()),((out,()),()))=E (((),()),((out++m.B0.flatMap QK,()),())):=by
 have hl:=hf.e;have h:=BN (step:=λx=>KJ x.1.2.1 x.1.2.2.1 x.1.2.2.2.1 x.2.1.1) m.B0.length (λi s=>(((),m.B0,m.B0.length,i,()),((s,()),()))) (λi s=>s++QK (m.B0.getD i noE)) (λi s=>s.length=out.length+3*i) (λs=>(((),()),((s,()),()))) (λi s v hs=>by
  refine⟨?_,by rw[f_,hs];show _+3=_;omega⟩;have o:∀r:aA,aO (s.length+[r].length) 2147483648=C:=λr=>AR (by rw[L_];omega);have u:∀r g:aA,aO ((s++[r]).length+[g].length) 2147483648=C:=λr g=>AR (by rw[f_,L_,L_];omega);have q:∀r g j:aA,aO ((s++[r]++[g]).length+[j].length) 2147483648=C:=λr g j=>AR (by rw[f_,f_,L_,L_,L_];omega);unfold KJ HZ;simp only[J (ω:i<(m.B0.length:Int)),Ac ω (ω:(i:Int)<m.B0.length),Z,XU,U,o,u,q,GS v (by unfold DJ;omega)];simp only[N_];rfl) (λs _=>by
  unfold KJ;simp only[W<|Z_ _,V]) m.B0.length 0 out ω rfl
 have h':=AA h.1 ω;rw[Mk,At0]at h';exact h'
theorem Zf(h1:m.R0.length=m.G0.length)(w:m.K0.length=m.G0.length):KH (((),(),(m.G0.length:Int),(0:Int),()),(m.tup,(([]:List aA),()),()))=E (((),(),()),(m.tup,((aK 0 m.G0.length).flatMap<|SF m,()),())):=by
 have hl:=hf.p;have h:=BN (step:=λx=>GE x.1.2.2.1 x.1.2.2.2.1 x.2.1.1 x.2.1.2.1 x.2.1.2.2.1 x.2.1.2.2.2.1 x.2.2.1.1) m.G0.length (λi s=>(((),(),m.G0.length,i,()),(m.tup,(s,()),()))) (λi s=>s++SF m i) (λi s=>s.length=3*i) _ (λi s v hs=>by
  refine⟨?_,by rw[f_,hs];show _+3=_;omega⟩;show GE _ _ m.G0 m.R0 m.K0 m.B0 s=_;have o:∀r:aA,aO (s.length+[r].length) 2147483648=C:=λr=>AR (by rw[L_];omega);have u:∀r g:aA,aO ((s++[r]).length+[g].length) 2147483648=C:=λr g=>AR (by rw[f_,L_,L_];omega);have q:∀r g j:aA,aO ((s++[r]++[g]).length+[j].length) 2147483648=C:=λr g j=>AR (by rw[f_,f_,L_,L_,L_];omega);unfold GE HY;simp only[J (ω:i<(m.G0.length:Int)),Ac ω (ω:(i:Int)<m.G0.length),Ac ω (ω:(i:Int)<m.R0.length),Ac ω (ω:(i:Int)<m.K0.length),Z,XU,U,o,u,q,GS v (by unfold DJ;omega)];simp only[N_];rfl) (λs _=>by
  show GE _ _ m.G0 m.R0 m.K0 m.B0 s=_;unfold GE;simp only[W<|Z_ _];rfl) m.G0.length 0 [] ω rfl
 have h':=AA h.1 ω;rw[Mk]at h';exact h'
end
def Tx{α β:Type}(f:α->List β)(hf:∀x,(f x).length=3):∀l:List α,(l.flatMap f).length=3*l.length
 |[]=>rfl
 |a::t=>by rw[X_,f_,hf,Tx f hf t,D_];omega
def Ajx(m:Img)(n:Nat):((aK 0 n).flatMap<|SF m).length=3*n:=by rw[Tx _ λ_=>rfl,List.length_range']
def Ajz(m:Img):(FZ m).length=3*(m.G0.length+m.B0.length):=by unfold FZ;rw[f_,Ajx,Tx _ λ_=>rfl];omega
def Alk(b:Bldg)(m:Img):List aA:=bif m.ok b then FZ m else []
section
variable{b:Bldg}(hb:b.small){m:Img}(hf:m.fit)
include hb hf
theorem Ae5:Mv b.C0 b.F0 b.J0 b.L0 b.I0 b.M0 b.O0 b.A0 m.G0 m.R0 m.K0 m.B0=E ((Alk b m,()),()):=by
 have o:100000<=maxLen:=by decide
 have hp:=hf.p;have u:=hf.e;unfold Mv Alk;rw[Dw hb m ω ω];cases g:m.ok b with
 |false=>rfl
 |true=>have hm:=Img.ok_iff.1 g;have j:=Zf hf (by rw[hm.lf,hm.lp]) (by rw[hm.ll,hm.lp]);have q:=Zg hf (out:=(aK 0 m.G0.length).flatMap<|SF m) (by rw[Ajx];omega);simp only[Img.tup]at j;simp only[ j,q,U];rfl
end
def Fi(m:Img):∀(a c:List aA),Ar m (a++c)=Ar (Ar m a) c
 |[],_=>rfl
 |r::t,c=>by exact Fi _ t c
def Ah4(l:List α)(z d:α)(j:k<n)(hl:l.length=n):(l.take k++aE (n-k) z).set k (l.getD k d)=l.take (k+1)++aE (n-(k+1)) z:=by
 have h1:(l.take k).length=k:=by rw[x_];omega
 rw[List.set_append_right _ _ ω,h1,Nat.sub_self,show n-k=(n-(k+1))+1 by omega,List.replicate_succ];have g:k<l.length:=ω;rw[show l.getD k d=l[k]by simp[g]];rw[List.take_succ_eq_append_getElem g,N_];rfl
def Aq1(m:Img)(a c d:aA):Ar m [a,c,d]=Aw (Aw (Aw m a) c) d:=rfl
def Ar1(g:Bool):(Xt g==1)=g:=by cases g<;>rfl
def Aqu{m:Img}(g:k<n)(h1:m.G0.length=n)(v:m.R0.length=n)(q:m.K0.length=n):
  Ar ⟨m.G0.take k++aE (n-k) 0,m.R0.take k++aE (n-k) B,m.K0.take k++aE (n-k) B,[]⟩ (SF m k)=⟨m.G0.take (k+1)++aE (n-(k+1)) 0,m.R0.take (k+1)++aE (n-(k+1)) B,m.K0.take (k+1)++aE (n-(k+1)) B,[]⟩:=by
 have o:=Ah4 m.G0 0 0 g h1;have j:=Ah4 m.R0 B B g v;have u:=Ah4 m.K0 B B g q;unfold SF;rw[Aq1];unfold Aw;simp only[show((4:Int)==4)=C from rfl,show((5:Int)==4)=B from rfl,show((5:Int)==5)=C from rfl,show((6:Int)==4)=B from rfl,show((6:Int)==5)=B from rfl,show((6:Int)==6)=C from rfl,Z,V,l_,Ar1,o,j,u]
def Ajw{m:Img}{n:Nat}(h1:m.G0.length=n)(o:m.R0.length=n)(g:m.K0.length=n):∀j k:Nat,k+j=n->
  Ar ⟨m.G0.take k++aE (n-k) 0,m.R0.take k++aE (n-k) B,m.K0.take k++aE (n-k) B,[]⟩ ((aK k j).flatMap<|SF m)=⟨m.G0,m.R0,m.K0,[]⟩
 |0,k,h=>by obtain rfl:k=n:=ω;rw[Nat.sub_self];simp only[List.replicate_zero,a1_];rw[a3_ ω,a3_ ω,a3_ ω];rfl
 |j+1,k,h=>by rw[e8_,X_,Fi,Aqu ω h1 o g];exact Ajw h1 o g j (k+1) ω
def Aiy{F D:Int}{x:H}(g:isC F D x=C):∀(l:List H) (i:Nat),(∀e∈l,isC F D e=B)->Ej F D (l++[x]) i=((i+l.length:Nat):Int)
 |[],i,_=>by simp[Ej,g]
 |e::t,i,h=>by rw[List.cons_append];simp only[Ej];rw[h e<|C_ ..,V,Aiy g t (i+1) λy j=>h y<|F_ _ j,D_];congr 1;omega
def Anq{x:H}:∀{l:List H},(∀e∈l,By x e=B)->HD x B l=l++[x]
 |[],_=>rfl
 |e::t,h=>by simp only[HD];rw[h e<|C_ ..,Anq λy g=>h y<|F_ _ g];rfl
def Aqv{m:Img}(h:∀x∈m.B0,By x e=C):Ar m (QK e)=m.put (m.B0++[e]):=by
 have w:∀x∈m.B0,isC e.D0 e.H0 x=B:=λx g=>by
  cases hq:isC e.D0 e.H0 x with
  |false=>rfl
  |true=>
   have:=(Xn hq).1
   rw[h x g]at this;cases this
 have z:∀(c k:Int) (q:Bool),isC e.D0 e.H0 ⟨e.D0,e.H0,c,k,q⟩=C:=λc k q=>by unfold isC;simp
 have F:Ej e.D0 e.H0 m.B0 0=-1:=WU w;have o:∀(c k:Int) (q:Bool),Ej e.D0 e.H0 _ 0=(m.B0.length:Int):=λc k q=>by rw[Aiy (z c k q) _ _ w,n_]
 have v:∀x:H,(m.B0++[x]).getD m.B0.length noE=x:=λx=>by simp
 have j:∀x y:H,(m.B0++[x]).set m.B0.length y=m.B0++[y]:=λx y=>by rw[List.set_append_right _ _<|t_ _,Nat.sub_self];rfl
 have D:Aw m ⟨1,e.D0,e.H0,0,0⟩=m.put (m.B0++[⟨e.D0,e.H0,-1,0,B⟩]):=by unfold Aw;rw[F];simp only[show((1:Int)==4)=B from rfl,show((1:Int)==5)=B from rfl,show((1:Int)==6)=B from rfl,V,Z,q_];rw[Anq (x:=⟨e.D0,e.H0,-1,0,B⟩) λx g=>Ajd<|h x g]
 have u:(((m.B0.length:Int))==-1)=B:=Ao ω;have I:Aw (m.put<|m.B0++[⟨e.D0,e.H0,-1,0,B⟩]) ⟨3,e.D0,e.H0,e.X0,0⟩=m.put (m.B0++[⟨e.D0,e.H0,e.X0,0,B⟩]):=by unfold Aw;simp only[Img.put,o,u,show((3:Int)==4)=B from rfl,show((3:Int)==5)=B from rfl,show((3:Int)==6)=B from rfl,show((3:Int)==2)=B from rfl,V,Z,q_,l_,v,j,Afq]
 have A:Aw (m.put<|m.B0++[⟨e.D0,e.H0,e.X0,0,B⟩]) ⟨7,e.D0,e.H0,Xt e.Y2,e.B2⟩=m.put (m.B0++[⟨e.D0,e.H0,e.X0,e.B2,e.Y2⟩]):=by unfold Aw;simp only[Img.put,o,u,show((7:Int)==4)=B from rfl,show((7:Int)==5)=B from rfl,show((7:Int)==6)=B from rfl,show((7:Int)==2)=B from rfl,show((7:Int)==3)=B from rfl,V,Z,q_,l_,v,j,TO,Ar1]
 unfold QK;rw[Aq1,D,I,A]
def Ajy:∀(l:List H) (m:Img),Br (m.B0++l)->Ar m (l.flatMap QK)=m.put (m.B0++l)
 |[],m,_=>by simp[Ar,Img.put]
 |e::t,m,h=>by
  have hp:=EK.1 h;have g:=λx j=>(List.pairwise_append.1 hp).2.2 x j e<|C_ ..;rw[X_,Fi,Aqv g];have o:Br<|(m.put<|m.B0++[e]).B0++t:=by show Br (m.B0++[e]++t);rw[N_];exact h
  rw[Ajy t _ o];show m.put (m.B0++[e]++t)=_;rw[N_];rfl
def Aft{m:Img}(h:ImgOK b m):Ar (Ph b) (FZ m)=m:=by unfold FZ;rw[Fi];have h0:=Ajw h.lp h.lf h.ll b.A0.length 0 ω;simp only[List.take_zero,e0_,Nat.sub_zero]at h0;rw[h.lp];rw[show Ph b=⟨aE b.A0.length 0,aE b.A0.length B,aE b.A0.length B,[]⟩from rfl,h0,Ajy _ _ (by exact h.so)];rfl
def Xu(g:Bool):0<=Xt g/\Xt g<=1:=by cases g<;>exact⟨τ,τ⟩
def XH{m:Img}(h:ImgOK b m):∀r∈FZ m,AB b r=C:=by
 have hcode:=h.code;intro r g;rcases m_.1 g with g|g
 .obtain⟨i,y,g⟩:=c2_.1 g;have o:i<m.G0.length:=by
   have:=List.mem_range'_1.1 y
   omega
  have hp:=h.ph _<|Av 0 o;have q:=h.lp;have j:∀k v:Int,Vn b ⟨k,0,0,i,v⟩=C:=λk v=>by unfold Vn;rw[Ak.2 ⟨show _<=(i:Int)by omega,show _<=(b.A0.length:Int)-1 by omega⟩];rfl
  unfold SF at g;simp only[A_,List.not_mem_nil,or_false]at g;rcases g with rfl|rfl|rfl
  .unfold AB;rw[hcode,j,Ak.2 hp];rfl
  .unfold AB;rw[hcode,j,Ak.2<|Xu _];rfl
  .unfold AB;rw[hcode,j,Ak.2<|Xu _];rfl
 .obtain⟨e,w,g⟩:=c2_.1 g;obtain⟨h1,z,u⟩:=Fy.1<|h.en e w;unfold QK at g;simp only[A_,List.not_mem_nil,or_false]at g;rcases g with rfl|rfl|rfl
  .unfold AB;rw[hcode,h1];rfl
  .unfold AB;rw[hcode,h1,Ak.2 ⟨z.1,show e.X0<=b.A0.length-1 by omega⟩];rfl
  .unfold AB;rw[hcode,h1,Ak.2<|Xu _,Ak.2 u];rfl
def Vy(g:Int):Int:=aD.wrap<|1*2^min (aB g) (IntKind.bits .u32)
def HE(g dir:Int):Int×Int:=bif inR 0 31 g then(bif dir==1 then(Vy g,0)else bif dir==2 then(0,Vy g)else(0,0))else(0,0)
def orC(a c:Int):Int:=vb (bv a|||bv c)
def Bbx(a c:Int):Int:=vb<|bv a&&& ~~~ bv c
def Em(a c:Int×Int):Int×Int:=(orC a.1 c.1,orC a.2 c.2)
def Dj(a c:Int×Int):Int×Int:=(Bbx a.1 c.1,Bbx a.2 c.2)
def Ax(c:Int×Int)(f:Nat)(d:Int):Bool:=bif d==1 then BY c.1 f else bif d==2 then BY c.2 f else B
def Jw(c:Int×Int):Prop:=(0<=c.1/\c.1<4294967296)/\(0<=c.2/\c.2<4294967296)
def ZQ(a c:Int×Int):Jw<|Em a c:=⟨KW _,KW _⟩
def Ajg(a c:Int×Int):Jw<|Dj a c:=⟨KW _,KW _⟩
def Qs:Jw (0,0):=⟨⟨τ,τ⟩,⟨τ,τ⟩⟩
def Yv(i:Nat):BY 0 i=B:=by unfold BY bv;simp
def Og(f:Nat)(d:Int):Ax (0,0) f d=B:=by unfold Ax;simp only[Yv];cases d==1<;>cases d==2<;>rfl
def MA(a c:Int×Int)(f:Nat)(d:Int):Ax (Em a c) f d=(Ax a f d||Ax c f d):=by unfold Ax Em orC;simp only[VM,aY];cases d==1<;>cases d==2<;>rfl
def OS(a c:Int×Int)(hf:f<32)(d:Int):Ax (Dj a c) f d=(Ax a f d&&!Ax c f d):=by unfold Ax Dj Bbx;simp only[VM,aX,BitVec.getLsbD_not,hf,decide_true];cases d==1<;>cases d==2<;>rfl
def Qc{F D:Int}(o:0<=F/\F<32)(j:D=1\/D=2)(f:Nat)(q:d=1\/d=2):Ax (HE F D) f d=decide (((f:Int),d)=(F,D)):=by
 have hp:BY (Vy F) f=decide _:=Aq4 ω f;have e:decide (((f:Int),d)=(F,D))=(aH (f=F.toNat)&&decide (d=D)):=by
  rw[Bool.eq_iff_iff,b_,r_,r_,r_,b9_];constructor
  .rintro⟨h1,g⟩;exact⟨ω,g⟩
  .rintro⟨h1,g⟩;exact⟨ω,g⟩
 rw[e];unfold HE Ax;rw[Ak.2 ⟨o.1,show F<=31 by omega⟩];rcases j with rfl|rfl<;>rcases q with rfl|rfl
 .simp[hp]
 .simp[Yv]
 .simp[Yv]
 .simp[hp]
def Aih{a:Int×Int}(ha:Jw a)(hc:Jw c)(h:∀f:Nat,f<32->∀d:Int,(d=1\/d=2)->Ax a f d=Ax c f d):a=c:=by have h1:=Agp ha.1 hc.1 λi g=>h i g 1<|.inl rfl;have j:=Agp ha.2 hc.2 λi g=>h i g 2<|.inr rfl;exact Prod.ext h1 j
def Bdz(e:H):Prop:=(0<=e.D0/\e.D0<32)/\(e.H0=1\/e.H0=2)
def ofC:List H->Int×Int->Int×Int
 |[],c=>c
 |e::t,c=>ofC t<|Em c<|HE e.D0 e.H0
def Nk(c:Int×Int)(f:Nat):List H:=(bif Ax c f 1 then [⟨(f:Int),1,-1,0,B⟩]else [])++(bif Ax c f 2 then [⟨(f:Int),2,-1,0,B⟩]else [])
def Aei(c:Int×Int)(f:Nat):(Nk c f).length<=2:=by unfold Nk;cases Ax c f 1<;>cases Ax c f 2<;>simp
def GO(c:Int×Int):List H:=(aK 0 32).flatMap<|Nk c
def Ae9:p∈(Nk c f).map Ih↔p.1=(f:Int)/\(p.2=1\/p.2=2)/\Ax c f p.2=C:=by
 obtain⟨a,d⟩:=p;unfold Nk;rw[List.map_append,m_];have h:∀D:Int,(a,d)∈(bif Ax c f D then [Entry.mk f D (-1) 0 B]else []).map Ih↔a=f/\d=D/\Ax c f D=C:=λD=>by cases Ax c f D<;>simp[Ih]
 rw[h,h];constructor
 .rintro(⟨h1,rfl,g⟩|⟨h1,rfl,g⟩)
  .exact⟨h1,.inl rfl,g⟩
  .exact⟨h1,.inr rfl,g⟩
 .rintro⟨h1,j,g⟩;rcases j with rfl|rfl
  .exact .inl ⟨h1,rfl,g⟩
  .exact .inr ⟨h1,rfl,g⟩
def mem_range:p∈((aK i k).flatMap<|Nk c).map Ih↔∃f:Nat,(i<=f/\f<i+k)/\p.1=(f:Int)/\(p.2=1\/p.2=2)/\Ax c f p.2=C:=by
 constructor
 .intro h;obtain⟨e,g,rfl⟩:=b6_.1 h;obtain⟨f,hf,g⟩:=c2_.1 g;exact⟨f,List.mem_range'_1.1 hf,Ae9.1<|b6_.2 ⟨e,g,rfl⟩⟩
 .rintro⟨f,hf,h⟩;obtain⟨e,g,j⟩:=b6_.1<|Ae9.2 h;exact b6_.2 ⟨e,c2_.2 ⟨f,List.mem_range'_1.2 hf,g⟩,j⟩
def FU(j dir:Int):DX j dir=E (((),()),(((HE j dir).1,(HE j dir).2,()),())):=by
 unfold DX HE inR;by_cases g:0<=j
 .by_cases o:j<32
  .rw[J g,J o,J ω];simp only[Z,U,J g];cases dir==1<;>cases dir==2<;>rfl
  .rw[J g,W o,W ω];rfl
 .rw[W g];rfl
def DZ(a c:Int×Int):CM a.1 a.2 c.1 c.2=E (((),()),(((Em a c).1,(Em a c).2,()),())):=by unfold CM;rw[Aph,Aph];rfl
def GG(a c:Int×Int):Fb a.1 a.2 c.1 c.2=E (((),()),(((Dj a c).1,(Dj a c).2,()),())):=by unfold Fb;rw[TY,TY];rfl
def Dz(a c:Int×Int):Int×Int:=(vb<|bv a.1&&&bv c.1,vb<|bv a.2&&&bv c.2)
def Ab7(a c:Int×Int):Jw<|Dz a c:=⟨KW _,KW _⟩
def ED(a c:Int×Int):DN a.1 a.2 c.1 c.2=E (((),()),(((Dz a c).1,(Dz a c).2,()),())):=by unfold DN;rw[SG,SG];rfl
def Aqo(a c:Int×Int):Sb a.1 a.2 c.1 c.2=E (((),()),(((Dz a c).1,(Dz a c).2,()),())):=by unfold Sb;rw[SG,SG];rfl
def Kr(a c:Int×Int)(f:Nat)(d:Int):Ax (Dz a c) f d=(Ax a f d&&Ax c f d):=by unfold Ax Dz;simp only[VM,aX];cases d==1<;>cases d==2<;>rfl
def isZ(c:Int×Int):Bool:=(c.1==0)&&((c.2==0)&&C)
def Ahf(hc:Jw c):isZ c=C↔∀f:Nat,f<32->∀d:Int,(d=1\/d=2)->Ax c f d=B:=by
 constructor
 .intro h f _ d _;unfold isZ at h;simp only[b_,I_]at h;obtain⟨h1,g,_⟩:=h;rw[show c=(0,0)from Prod.ext h1 g,Og]
 .intro h
  have:c=(0,0):=Aih hc Qs λf hf d j=>by rw[h f hf d j,Og]
  rw[this];rfl
def Ii(c:Int×Int){F D:Int}(o:0<=F/\F<32)(j:D=1\/D=2):EC c.1 c.2 F D=E ((Ax c F.toNat D,()),()):=by
 unfold EC;rw[FU];simp only[U];rw[ED c _];show E ((!(isZ _),()),())=_;have e:isZ (Dz c<|HE F D)=!Ax c F.toNat D:=by
  cases h:Ax c F.toNat D with
  |false=>
   refine(Ahf<|Ab7 _ _).2 λf hf d u=>?_;rw[Kr,Qc o j f u];by_cases g:((f:Int),d)=(F,D)
   .obtain⟨h1,v⟩:=Prod.mk.inj g;rw[show f=F.toNat by omega,v,h];rfl
   .rw[W g,d1_]
  |true=>
   cases q:isZ _ with
   |false=>rfl
   |true=>
    have:=(Ahf<|Ab7 _ _).1 q F.toNat ω D j
    rw[Kr,Qc o j F.toNat j,h,J (by rw[a6_ o.1])]at this;cases this
 rw[e,Bool.not_not]
def Bj(b:Bldg):Int×Int:=(aC aD<|aC aD (1*2^min (aB<|b.C0-1) (IntKind.bits .u32))-1,aD.wrap<|aC aD (aC aD (1*2^min (aB<|b.C0-1) (IntKind.bits .u32))-1)*2^min (aB (1:Int)) (IntKind.bits .u32))
def DL(hb:b.small)(hcode:b.code=0):Dx b.C0 b.F0 b.J0 b.L0 b.I0 b.M0 b.O0 b.A0=E (((),()),(((Bj b).1,(Bj b).2,()),())):=by have lo:=hb.lo;have g:=hb.hi;unfold Dx Bj;rw[Az,hcode];simp only[U,Q_,V,Aa (n:=b.C0-1) ω ω,J (ω:0<=b.C0-1),Z]
def Alb(n:Nat):Int:=aD.wrap<|aC aD (1*2^min n (IntKind.bits .u32))-1
def Bbj:((List.range 9).all λn=>(List.range 32).all λi=>(BY (Alb n) i==decide (i<n))&&(BY (aC aD<|Alb n*2^min (aB 1) (IntKind.bits .u32)) i==(aH (1<=i)&&decide (i<=n))))=C:=κ
def Bbk(b:Bldg):Jw<|Bj b:=by
 have k:∀n:Int,0<=aD.wrap n/\aD.wrap n<4294967296:=λn=>by simp only[aC,IntKind.signed,IntKind.bits];simp;omega
 exact⟨k _,k _⟩
def Mn(hb:b.small)(hcode:b.code=0)(hf:f<32)(o:d=1\/d=2):Ax (Bj b) f d=Aq b (f:Int) d:=by
 have q:=hb.hi;have t:=G_.1 (G_.1 Bbj (b.C0-1).toNat<|List.mem_range.2 ω) f<|List.mem_range.2 hf;rw[b_,I_,I_]at t;unfold Aq Qz;rw[hcode];rcases o with rfl|rfl
 .have e:Ax (Bj b) f 1=BY (Alb (b.C0-1).toNat) f:=rfl;rw[e,t.1];unfold inR;by_cases g:f<(b.C0-1).toNat
  .rw[J g,J (ω:(f:Int)<=b.C0-2)];rfl
  .rw[W g,W (ω:¬(f:Int)<=b.C0-2)];rfl
 .have e:Ax (Bj b) f 2=BY (aC aD<|Alb (b.C0-1).toNat*2^min _ _) f:=rfl;rw[e,t.2];unfold inR;by_cases g:1<=f
  .rw[J g,J (ω:1<=(f:Int))];by_cases j:f<=(b.C0-1).toNat
   .rw[J j,J (ω:_<=b.C0-1)];rfl
   .rw[W j,W (ω:¬f<=b.C0-1)];rfl
  .rw[W g,W (ω:¬1<=(f:Int))];rfl
def Xg(b:Bldg)(i:Nat)(s:Int×Int):Int×Int:=(bif Aq b (i:Int) 1 then orC s.1 (Vy (i:Int))else s.1,bif Aq b (i:Int) 2 then orC s.2 (Vy (i:Int))else s.2)
def Aqn(hb:b.small)(hcode:b.code=0):Sa b.C0 b.F0 b.J0 b.L0 b.I0 b.M0 b.O0 b.A0=E (((),()),(((Bj b).1,(Bj b).2,()),())):=by
 have h:=BN (step:=λx=>letI a:=x.2.1.2.2;letI c:=a.2.2;Ka x.1.2.2.2.1 x.2.1.1 x.2.1.2.1 a.1 a.2.1 c.1 c.2.1 c.2.2.1 c.2.2.2.1 x.2.2.1.1 x.2.2.1.2.1 x.2.2.2.1.1 x.2.2.2.1.2.1) 32 (λi (s:Int×Int)=>(((),(),(),(i:Int),()),(b.tup,((0:Int),(0:Int),()),(s.1,s.2,()),()))) (Xg b)
  (λi s=>Jw s/\∀f:Nat,f<32->∀d:Int,(d=1\/d=2)->Ax s f d=(aH (f<i)&&Aq b (f:Int) d)) (λs=>(((),(),()),(((0:Int),(0:Int),()),(s.1,s.2,()),()))) (λi s y hs=>by
  have w:aV.wrap (i:Int)=(i:Int):=ES ω ω;have hp:∀j,BY (Vy (i:Int)) j=decide (j=i):=λj=>Aq4 (k:=i) y j;refine⟨?_,⟨?_,?_⟩,λf hf d q=>?_⟩
  .show Ka (i:Int) b.C0 b.F0 b.J0 b.L0 b.I0 b.M0 b.O0 b.A0 0 0 s.1 s.2=_;unfold Ka Xg;rw[RM hb,J (ω:(i:Int)<32)];simp only[U,Z,w,J (ω:(0:Int)<=(i:Int)),Aph];cases Aq b (i:Int) 1 with
   |true=>simp only[Z,U,RM hb,w,J (ω:(0:Int)<=(i:Int)),Aa (n:=(i:Int)+1) ω ω];cases Aq b (i:Int) 2<;>rfl
   |false=>simp only[V,U,RM hb,w,J (ω:(0:Int)<=(i:Int)),Z,Aa (n:=(i:Int)+1) ω ω];cases Aq b (i:Int) 2<;>rfl
  .unfold Xg;cases Aq b (i:Int) 1
   .exact hs.1.1
   .exact KW _
  .unfold Xg;cases Aq b (i:Int) 2
   .exact hs.1.2
   .exact KW _
  .have v:=hs.2 f hf d q;have dk:decide (f<i+1)=(aH (f<i)||decide (f=i)):=by
    rw[Bool.eq_iff_iff,O_,r_,r_,r_];omega
   rw[dk];rcases q with rfl|rfl
   .have e:Ax (Xg b i s) f 1=BY (bif Aq b (i:Int) 1 then orC s.1 (Vy (i:Int))else s.1) f:=rfl;have o:BY s.1 f=_:=v;rw[e];cases hc:Aq b (i:Int) 1 with
    |true=>
     rw[Z];unfold orC;rw[VM,aY];show(BY s.1 f||BY (Vy (i:Int)) f)=_;rw[o,hp];by_cases g:f=i
     .subst g;rw[hc];simp
     .rw[W g];simp
    |false=>
     rw[V,o];by_cases g:f=i
     .subst g;rw[hc];simp
     .rw[W g];simp
   .have e:Ax (Xg b i s) f 2=BY (bif Aq b (i:Int) 2 then orC s.2 (Vy (i:Int))else s.2) f:=rfl;have o:BY s.2 f=_:=v;rw[e];cases hc:Aq b (i:Int) 2 with
    |true=>
     rw[Z];unfold orC;rw[VM,aY];show(BY s.2 f||BY (Vy (i:Int)) f)=_;rw[o,hp];by_cases g:f=i
     .subst g;rw[hc];simp
     .rw[W g];simp
    |false=>
     rw[V,o];by_cases g:f=i
     .subst g;rw[hc];simp
     .rw[W g];simp) (λs _=>by
  show Ka 32 b.C0 b.F0 b.J0 b.L0 b.I0 b.M0 b.O0 b.A0 0 0 s.1 s.2=_;unfold Ka;rw[show decide ((32:Int)<32)=B from rfl];rfl) 32 0 (0,0) ω ⟨Qs,λf _ d _=>by rw[Og];simp⟩
 have h':=AA h.1 ω;have u:Ba (Xg b) 32 0 (0,0)=Bj b:=Aih h.2.1 (Bbk b) λf hf d q=>by rw[h.2.2 f hf d q,Mn hb hcode hf q,J hf,b1_]
 rw[u]at h';unfold Sa;simp only[Bldg.tup]at h';rw[show Ta (((),(),(),(0:Int),()),((b.C0,b.F0,b.J0,b.L0,b.I0,b.M0,b.O0,b.A0,()),((0:Int),(0:Int),()),((0:Int),(0:Int),()),()))=_ from h'];rfl
def MD(b:Bldg)(v:View):Int×Int:=bif v.R3 then Dz (v.A4,v.J3) (Bj b)else(0,0)
def RU(hb:b.small)(hcode:b.code=0)(v:View):HX b.C0 b.F0 b.J0 b.L0 b.I0 b.M0 b.O0 b.A0 v.B4 v.R3 v.V3 v.G4 v.D0 v.H0 v.D4 v.A4 v.J3 v.H3 v.L2 v.E2=E (((),()),(((MD b v).1,(MD b v).2,()),())):=by
 unfold HX MD;cases v.R3 with
 |false=>rfl
 |true=>rw[DL hb hcode];simp only[ U];rw[ED (v.A4,v.J3) _];rfl
def Ad9{c:Int×Int}(h:Int->Int->Option ((Bool×Unit)×Unit))(hh:∀f:Nat,f<32->∀d:Int,(d=1\/d=2)->h (f:Int) d=E ((Ax c f d,()),())):∀k i:Nat,i+k<=32->WC h (λf d=>Entry.mk f d (-1) 0 B) ((aK i k).flatMap λf:Nat=>[((f:Int),1),((f:Int),2)])=E ((aK i k).flatMap<|Nk c)
 |0,_,_=>rfl
 |k+1,i,g=>by rw[e8_,X_,X_];show WC h _ ((i,1)::(i,2)::((aK (i+1) k).flatMap λf:Nat=>[(f,1),(f,2)]))=_;simp only[WC];rw[hh i ω 1<|.inl rfl,hh i ω 2<|.inr rfl,Ad9 h hh k (i+1) ω];unfold Nk;cases Ax c i 1<;>cases Ax c i 2<;>rfl
def RH(c:Int×Int):LT c.1 c.2=E ((GO c,()),()):=by
 unfold LT An7;have e:pairs64=(aK 0 32).flatMap λf:Nat=>[((f:Int),1),(f,2)]:=by unfold pairs64;rw[List.range_eq_range']
 have h:=Ad9 _ (λf hf d g=>by have h:=Ii c (F:=f) ⟨ω,ω⟩ g;exact h) 32 0 ω;rw[e,h];rfl
end Go.Ovl
namespace Go.Ovl
open Go Go.Ab
variable{b:Bldg}{m:Img}{r:aA}{bud room n:Int}{rs:List aA}{l t:List UInt8}
structure Sto where
 h0:ByteArray
 h1:ByteArray
 sel:Int
def Sto.get(s:Sto)(half:Int):ByteArray:=if half=0 then s.h0 else s.h1
def Sto.set(s:Sto)(half:Int)(x:ByteArray):Sto:=if half=0 then { s with h0:=x }else { s with h1:=x }
def Sto.no:Sto:=⟨noB,noB,0⟩
def Sto.cur(s:Sto):ByteArray:=if s.sel=1 then s.h1 else s.h0
def Sto.ok(room:Int)(s:Sto):Prop:=1<=room/\room<=65536/\s.h0.size<=room/\s.h1.size<=room/\(s.sel=0\/s.sel=1)
instance okSto_ti(room:Int)(s:Sto):Decidable (s.ok room):=by unfold Sto.ok;infer_instance
def Sto.chk(room:Int)(s:Sto)(half bud:Int):Int:=if s.ok room then if(half≠0/\half≠1)\/bud<0 then 2 else 0 else 1
def Sto.write(room:Int)(s:Sto)(half:Int)(d:ByteArray)(bud:Int):Sto×Int×Int:=
 if s.chk room half bud≠0 then(.no,0,s.chk room half bud)
 else if room<(s.get half).size+d.size then(.no,0,7)
 else if bud<d.size then(s.set half<|s.get half++d.extract 0 bud.toNat,0,8)
 else(s.set half<|s.get half++d,bud-d.size,0)
def Sto.act(room:Int)(s:Sto)(half bud:Int)(t:Sto):Sto×Int×Int:=if s.chk room half bud≠0 then(.no,0,s.chk room half bud)else if bud=0 then(s,0,8)else(t,bud-1,0)
def Sto.erase(room:Int)(s:Sto)(half bud:Int):Sto×Int×Int:=s.act room half bud<|s.set half noB
def Sto.choose(room:Int)(s:Sto)(half bud:Int):Sto×Int×Int:=s.act room half bud { s with sel:=half }
def Sto.out(r:Sto×Int×Int):(Unit×Int×Int×Unit)×((ByteArray×ByteArray×Int×Unit)×Unit):=(((),(r.2.1,(r.2.2,()))),((r.1.h0,(r.1.h1,(r.1.sel,()))),()))
def GY(room:Int)(h0 h1:ByteArray)(sel:Int):EU room h0 h1 sel=E ((aH<|Sto.ok room ⟨h0,h1,sel⟩,()),()):=by
 unfold EU Sto.ok;by_cases a:1<=room
 .by_cases b:room<=65536
  .by_cases c:h0.size<=room
   .by_cases d:h1.size<=room
    .by_cases e:sel=0
     .simp[a,b,c,d,e]
     .by_cases f:sel=1<;>simp[a,b,c,d,e,f,Ao]
    .simp[a,b,c,d]
   .simp[a,b,c]
  .simp[a,b]
 .simp[a]
def NR(room:Int)(h0 h1:ByteArray)(sel half bud:Int):IM room h0 h1 sel half bud=E ((Sto.chk room ⟨h0,h1,sel⟩ half bud,()),()):=by
 unfold IM Sto.chk;rw[GY];by_cases a:Sto.ok room ⟨h0,h1,sel⟩
 .by_cases b:half=0
  .by_cases c:bud<0<;>simp[a,b,c]
  .by_cases d:half=1
   .by_cases c:bud<0<;>simp[a,c,d]
   .simp[a,b,d,FT]
 .simp[a]
def Acd{s:Sto}{half:Int}(h:s.chk room half bud=0):s.ok room/\(half=0\/half=1)/\0<=bud:=by
 unfold Sto.chk at h;split at h
 .split at h
  .cases h
  .rename_i h1 g;refine⟨h1,?_,?_⟩<;>omega
 .cases h
def SW(room:Int)(h0 h1:ByteArray)(sel half:Int)(d:ByteArray)(bud:Int)(hb:bud<9223372036854775808) :
  Lg room h0 h1 sel half d bud=E (Sto.out<|Sto.write room ⟨h0,h1,sel⟩ half d bud):=by
 unfold Lg Sto.write;rw[NR];generalize hc:Sto.chk room ⟨h0,h1,sel⟩ half bud=c;by_cases h:c=0
 .subst h;obtain⟨⟨o1,o2,o3,o4,F⟩,hh,z⟩:=Acd hc;have hin:inB half 2=C:=Ac ω ω;have y:(List.getD [h0,h1] half.toNat noB)=Sto.get ⟨h0,h1,sel⟩ half:=by
   rcases hh with rfl|rfl<;>rfl
  have v:((Sto.get ⟨h0,h1,sel⟩ half).size:Int)<=room:=by rcases hh with rfl|rfl<;>simpa[Sto.get]
  have j:∀x:ByteArray,((bif Nat.beq half.toNat 0 then x else h0),((bif Nat.beq half.toNat 1 then x else h1),(sel,())))=((Sto.set ⟨h0,h1,sel⟩ half x).h0,((Sto.set ⟨h0,h1,sel⟩ half x).h1,((Sto.set ⟨h0,h1,sel⟩ half x).sel,()))):=by intro x;rcases hh with rfl|rfl<;>rfl
  have u:(List.getD [h0,h1] half.toNat<|aJ _)=Sto.get ⟨h0,h1,sel⟩ half:=y;simp only[ hin,u,j];generalize Sto.get ⟨h0,h1,sel⟩ half=g at v|-;rw[Aa ω ω];by_cases w:room<g.size+d.size
  .have e:decide (room-g.size<d.size)=C:=by simp;omega
   simp[e,w,Sto.out,Sto.no,noB]
  .have e:decide (room-g.size<d.size)=B:=by simp;omega
   by_cases o:bud<d.size
   .have A:decide (bud<d.size)=C:=by simpa using o
    have D:(aH (0<=bud)&&decide (bud<=d.size))=C:=by simp;omega
    have q:aO (g.size+(d.extract 0 bud.toNat).size) 4611686018427387904=C:=by rw[Ach d ω];exact AR ω
    simp only[e,D,q,w,o,Sto.out];simp
   .have A:decide (bud<d.size)=B:=by simpa using o
    have q:aO (g.size+d.size) 4611686018427387904=C:=AR ω;rw[Aa ω ω];simp only[e,q,w,o,Sto.out];simp
 .simp[h,Sto.out,Sto.no,noB,FT]
def Avv(room:Int)(h0 h1:ByteArray)(sel half bud:Int)(hb:bud<9223372036854775808):NB room h0 h1 sel half bud=E (Sto.out<|Sto.erase room ⟨h0,h1,sel⟩ half bud):=by
 unfold NB Ht Sto.erase Sto.act;rw[NR];generalize hc:Sto.chk room ⟨h0,h1,sel⟩ half bud=c;by_cases h:c=0
 .subst h;obtain⟨_,hh,j⟩:=Acd hc;by_cases g:bud=0
  .simp[g,Sto.out]
  .have hin:=Ac ω ω;rw[Aa ω ω];have e:(bud==0)=B:=by simpa using g
   rcases hh with rfl|rfl<;>simp[hin,e,g,Sto.out,Sto.set,noB]<;>rfl
 .simp[h,Sto.out,Sto.no,noB,FT]
def Aqz(room:Int)(h0 h1:ByteArray)(sel half bud:Int)(hb:bud<9223372036854775808):My room h0 h1 sel half bud=E (Sto.out<|Sto.choose room ⟨h0,h1,sel⟩ half bud):=by
 unfold My GZ Sto.choose Sto.act;rw[NR];generalize hc:Sto.chk room ⟨h0,h1,sel⟩ half bud=c;by_cases h:c=0
 .subst h;obtain⟨_,hh,j⟩:=Acd hc;by_cases g:bud=0
  .simp[g,Sto.out]
  .unfold NQ;rw[Aa ω ω];have e:(bud==0)=B:=by simpa using g
   simp[e,g,Sto.out]
 .simp[h,Sto.out,Sto.no,noB,FT]
def QO(h0 h1:ByteArray)(sel:Int):Je h0 h1 sel=E ((Sto.cur ⟨h0,h1,sel⟩,()),()):=by unfold Je Sto.cur;by_cases h:sel=1<;>simp[h,Ao]
def An:aS:=Debounced.mk 0 B B B B 0 0 0 0 0 0 0 0 0 0 0 0 0 0 0 0 0 0 0 0 0 0 0 0 0 0 0 0 0 0 0 0 0 0 0 0
def Dk:Duty:=aP 0 0 0
def Aj:aF:=NewCar.mk 0 0 0 0 0 B 0 0 0 0 0 0 0 B
def Ac3:Loaded:=Loaded.mk 0
def Ahr:Calls:=Calls.mk 0 0
def AL:aN:=Belief.mk 0 0 0 [] 0 B
def Belief.tup(x:aN):Int×Int×Int×List Duty×Int×Bool×Unit:=(x.D0,x.H0,x.Y0,x.V0,x.I3,x.Y3,())
structure Mch where
 E0:Img
 S1:Sto
 Z0:List Debounced
 P0:List Belief
 A0:List NewCar
 L3:List Loaded
 Z2:List Int
 F4:List Calls
 J4:Int
 X3:Int
 F3:Int
def Mch.tup(m:Mch):List Int×List Bool×List Bool×List H×ByteArray×ByteArray×Int×List aS×List aN×List aF×List Loaded×List Int×List Calls×Int×Int×Int×Unit:=(m.E0.G0,m.E0.R0,m.E0.K0,m.E0.B0,m.S1.h0,m.S1.h1,m.S1.sel,m.Z0,m.P0,m.A0,m.L3,m.Z2,m.F4,m.J4,m.X3,m.F3,())
structure Mch.fit(m:Mch):Prop where
 im:m.E0.fit
 co:m.Z0.length<=100000
 be:m.P0.length<=100000
 du:∀x∈m.P0,x.V0.length<=100000
 ca:m.A0.length<=100000
 lo:m.L3.length<=100000
 ex:m.Z2.length<=100000
 li:m.F4.length<=100000
def bl(s:ByteArray):List UInt8:=s.data.toList
def Rh{a c:ByteArray}(h:bl a=bl c):a=c:=by apply ByteArray.ext;exact Array.toList_inj.1 h
def OT(a c:ByteArray):bl (a++c)=bl a++bl c:=by simp[bl]
def Rf(a:ByteArray)(i j:Nat):bl (a.extract i j)=((bl a).drop i).take (j-i):=by simp[bl]
def Fx(a:ByteArray):(bl a).length=a.size:=by simp[bl]
def Bl2(l:List UInt8):bl ⟨l.toArray⟩=l:=by simp[bl]
def Jl(s:ByteArray)(i:Nat):BJ s i=(((bl s).getD i 0).toNat:Int):=by unfold BJ bl;simp[v_,g_]
def Afw(r:Nat):Nat:=if 128<=r then(r*2%256)^^^7 else r*2%256
def it8:Nat->Nat->Nat
 |0,r=>r
 |k+1,r=>it8 k<|Afw r
def Ak6(r x:Nat):Nat:=it8 8<|r^^^x
def XJ(l:List UInt8):Nat:=l.foldl (λr x=>Ak6 r x.toNat) 0
def Ao6{r:Nat}(g:r<256):Afw r<256:=by
 unfold Afw;split
 .exact e9_ (n:=8) ω τ
 .omega
def Axq:∀(k:Nat) {r:Nat},r<256->it8 k r<256
 |0,_,h=>h
 |k+1,_,h=>Axq k<|Ao6 h
def Amd{r x:Nat}(h:r<256)(h':x<256):Ak6 r x<256:=Axq 8<|e9_ (n:=8) h h'
def Bgf(l:List UInt8):∀r:Nat,r<256->l.foldl (λr x=>Ak6 r x.toNat) r<256:=by
 induction l with
 |nil=>exact λr h=>h
 |cons x t j=>intro r h;rw[List.foldl_cons];have g:=aZ x;exact j _<|Amd h g
def Bgg(l:List UInt8):XJ l<256:=Bgf l 0 ω
def SQ(h:0<=n)(h':n<256):aM.wrap n=n:=by simp only[aC,IntKind.signed,IntKind.bits];simp;omega
def Bk3{a c:Nat}(ha:a<256)(hc:c<256):aM.wrap (stk (a:Int) (c:Int)<|aL<|(aG (IntKind.bits .u8) (a:Int))^^^(aG (IntKind.bits .u8) (c:Int)))=((a^^^c:Nat):Int):=by have h:=e9_ (n:=8) ha hc;rw[Lk,BitVec.toNat_xor,a4_,a4_];rw[show((a)%((2^IntKind.bits .u8:Nat):Int)).toNat=a by simp only[IntKind.bits];omega,show((c)%((2^IntKind.bits .u8:Nat):Int)).toNat=c by simp only[IntKind.bits];omega];exact SQ ω ω
def Aw5(s:ByteArray)(j g:Int){r k:Nat}(q:r<256)(o:k<8):OM s (r:Int) j g (k:Int)=E (Sum.inl ((s,((Afw r:Nat):Int),j,g,((k+1:Nat):Int),()),())):=by
 unfold OM;have w:O.wrap (k+1)=((k+1:Nat):Int):=by rw[Aa ω ω];omega
 have h0:aM.wrap (r*(2^(aQ (aB 1)<|IntKind.bits aM)))=((r*2%256:Nat):Int):=by simp only[aC,IntKind.signed,IntKind.bits];simp
 have h1:aM.wrap ((aR r<|2^(aQ (aB 7)<|IntKind.bits aM))*7)=(((if 128<=r then 7 else 0):Nat):Int):=by
  rw[show((2:Int)^(aQ _ _))=128 from rfl,H_ _ ω];split
  .rw[show(r:Int)/128=1 by omega];rfl
  .rw[show(r:Int)/128=0 by omega];rfl
 simp only[J (ω:(k:Int)<8),Z,h0,h1,w];rw[Bk3 ω (by split<;>omega)];unfold Afw;split
 .rfl
 .rw[Nat.xor_zero]
def Aw4(s:ByteArray)(j g:Int){r:Nat}(o:r<256):OG ((s,(r:Int),j,g,(0:Int),()),())=E ((s,((it8 8 r:Nat):Int),j,g,()),()):=by have h:=BN (step:=λx=>OM x.1.1 x.1.2.1 x.1.2.2.1 x.1.2.2.2.1 x.1.2.2.2.2.1) 8 (λk r=>((s,((r:Nat):Int),j,g,k,()),())) _ _ _ (λk r q o=>⟨Aw5 s j g o q,Ao6 o⟩) (λr _=>rfl) 8 0 r rfl o;have h':=h.1;exact AA h' ω
def Vs{α β:Type}(f:β->α->β)(d:α):∀(l:List α) (k i:Nat) (s:β),i+k=l.length->Ba (λi s=>f s<|l.getD i d) k i s=(l.drop i).foldl f s
 |l,0,i,s,h=>by obtain rfl:i=l.length:=ω;simp[Ba]
 |l,k+1,i,s,h=>by have g:i<l.length:=ω;simp only[Ba];rw[Vs f d l k (i+1) _ ω,List.drop_eq_getElem_cons g,List.foldl_cons];simp[g]
def Abf{s:ByteArray}(hs:s.size<=1000000):Ou s=E ((((XJ (bl s):Nat):Int),()),()):=by
 have h:=BN (step:=λx=>OL x.1.1 x.1.2.1 x.1.2.2.1 x.1.2.2.2.1) s.size (λi r=>((s,((r:Nat):Int),(s.size:Int),i,()),())) _ (λ_ r=>r<256) (λr=>(((r:Int),()),())) (λi r o j=>by
  have g:=aZ<|(bl s).getD i 0;refine⟨?_,Amd j g⟩;have w:O.wrap (i+1)=((i+1:Nat):Int):=by rw[Aa ω ω];omega
  unfold OL;simp only[J (ω:i<(s.size:Int)),Ac ω (ω:(i:Int)<s.size),l_,Jl];rw[Bk3 j g,Aw4 s _ _<|e9_ j g,U,w];rfl) (λr _=>by
  unfold OL;simp only[W<|Z_ _,V]) s.size 0 0 ω ω
 have h':=AA h.1 ω;rw[Vs (λr (x:UInt8)=>Ak6 r x.toNat) 0 (bl s) s.size 0 0 (by rw[Fx];omega)]at h';unfold Ou;rw[show OF ((s,0,(s.size:Int),0,()),())=_ from h'];rfl
def u8n(n:Int):UInt8:=UInt8.ofNat n.toNat
def SP(h:0<=n/\n<256):((u8n n).toNat:Int)=n:=by unfold u8n;rw[UInt8.toNat_ofNat'];omega
def txt(l:List UInt8):ByteArray:=⟨l.toArray⟩
def Lh(l:List UInt8):bl (txt l)=l:=Bl2 l
def Qo(l:List UInt8):(txt l).size=l.length:=by rw[<-Fx,Lh]
def Apc(l:List Int):FC l=txt (l.map u8n):=rfl
def Ahz(r:aA):List UInt8:=[u8n r.C1,u8n r.D0,u8n r.H0,u8n<|r.X0+2,u8n r.P2]
def DE(r:aA):List UInt8:=Ahz r++[u8n ((XJ (Ahz r):Nat):Int)]
def Ik(r:aA):(DE r).length=6:=rfl
def QA(hb:b.small){f d:Int}(h:Aq b f d=C):(0<=f/\f<100)/\(1<=d/\d<=2):=by have g:=hb.hi;unfold Aq Qz at h;simp only[b_,O_,I_,Ak]at h;omega
structure RecOK(r:Record):Prop where
 k:1<=r.C1/\r.C1<=7
 f:0<=r.D0/\r.D0<100
 d:0<=r.H0/\r.H0<100
 c:-2<=r.X0/\r.X0<100
 v:0<=r.P2/\r.P2<256
def Abv(hb:b.small)(hc:b.A0.length<=100)(h:AB b r=C):RecOK r:=by
 have j:=(Abu h).2;have g:(r.C1=4\/r.C1=5\/r.C1=6)->r.D0=0/\r.H0=0:=λhq=>by
  unfold AB Vn at h;rcases hq with q|q|q
  all_goals
   rw[q]at h;simp only[show((4:Int)==1)=B from rfl,show((4:Int)==2)=B from rfl,show((4:Int)==3)=B from rfl,show((5:Int)==1)=B from rfl,show((5:Int)==2)=B from rfl,show((5:Int)==3)=B from rfl,show((5:Int)==4)=B from rfl,show((6:Int)==1)=B from rfl,show((6:Int)==2)=B from rfl,show((6:Int)==3)=B from rfl,show((6:Int)==4)=B from rfl,show((6:Int)==5)=B from rfl,q_,Z,V,b_,I_]at h;exact h.2.1.2
 rcases j with h1|h1|h1|h1|h1|h1|h1
 .have:=QA hb h1.2.1
  exact⟨ω,this.1,ω,ω,ω⟩
 .have:=QA hb h1.2.1
  exact⟨ω,this.1,ω,ω,ω⟩
 .have:=QA hb h1.2.1
  exact⟨ω,this.1,ω,ω,ω⟩
 .have:=g ω
  exact⟨ω,ω,ω,ω,ω⟩
 .have:=g ω
  exact⟨ω,ω,ω,ω,ω⟩
 .have:=g ω
  exact⟨ω,ω,ω,ω,ω⟩
 .have:=QA hb h1.2.1
  exact⟨ω,this.1,ω,ω,ω⟩
def Bmx(h:RecOK r):FC [aM.wrap r.C1,aM.wrap r.D0,aM.wrap r.H0,aM.wrap<|aC O<|r.X0+2,aM.wrap r.P2]=txt (Ahz r):=by obtain⟨h1,q,o,j,g⟩:=h;rw[SQ ω ω,SQ ω ω,SQ ω ω,Aa ω ω,SQ ω ω,SQ ω ω];rfl
def Qg(b:Bldg)(r:aA):ByteArray:=bif AB b r then txt (DE r)else txt []
section
variable{b:Bldg}(hb:b.small)(hc:b.A0.length<=100)
include hb hc
theorem TJ(r:aA):IZ b.C0 b.F0 b.J0 b.L0 b.I0 b.M0 b.O0 b.A0 r.C1 r.D0 r.H0 r.X0 r.P2=E ((Qg b r,(bif AB b r then 0 else 1),()),()):=by
 unfold IZ Qg;rw[Pq hb hc r];cases g:AB b r with
 |false=>rfl
 |true=>have h:=Abv hb hc g;simp only[ Bmx h];rw[Abf (by show 5<=1000000;omega)];simp only[U,Apc];rfl
end
def fld(l:List UInt8)(i:Nat):Int:=((l.getD i 0).toNat:Int)
def Ac9(l:List UInt8):aA:=⟨fld l 0,fld l 1,fld l 2,fld l 3-2,fld l 4⟩
def Sl(b:Bldg)(l:List UInt8):Option aA:=bif l.length==6&&(((((XJ (l.take 5):Nat):Int))==fld l 5)&&AB b (Ac9 l))then E (Ac9 l)else none
def YQ(l:List UInt8)(i:Nat):0<=fld l i/\fld l i<256:=by have h:(l.getD i 0).toNat<256:=aZ _;unfold fld;omega
def Aw9(h:Sl b l=E r):AB b r=C:=by
 unfold Sl at h;cases hq:(l.length==6&&(((((XJ _:Nat):Int))==fld l 5)&&AB b _))with
 |false=>rw[hq]at h;cases h
 |true=>rw[hq]at h;cases h;rw[b_,b_]at hq;exact hq.2.2
def Be8(hb:b.small)(hc:b.A0.length<=100)(h:AB b r=C):Sl b (DE r)=E r:=by
 obtain⟨h1,u,o,q,j⟩:=Abv hb hc h;have hs:=Bgg<|Ahz r;have e:Ac9 (DE r)=r:=by show aU ((u8n r.C1).toNat:Int) ((u8n r.D0).toNat:Int) ((u8n r.H0).toNat:Int) (((u8n _).toNat:Int)-2) ((u8n r.P2).toNat:Int)=r;rw[SP ω,SP ω,SP ω,SP ω,SP ω,show r.X0+2-2=r.X0 by omega]
 have g:fld (DE r) 5=((XJ (Ahz r):Nat):Int):=by exact SP ω
 unfold Sl;rw[e,h,g,show(DE r).take 5=Ahz r from rfl,Ik];simp
def Ada(hb:b.small)(hc:b.A0.length<=100)(hcode:b.code=0)(s:ByteArray)(v:s.size<=1000000):
  ∃(e:Int) (r0:aA),LG b.C0 b.F0 b.J0 b.L0 b.I0 b.M0 b.O0 b.A0 s=E (((),e,()),((r0.C1,r0.D0,r0.H0,r0.X0,r0.P2,()),()))/\(e !=0)=(Sl b<|bl s).isNone/\∀r,Sl b (bl s)=E r->r0=r:=by
 unfold LG;rw[Az,hcode];unfold Sl;by_cases j:s.size=6
 .have u:(bl s).length=6:=by exact j
  have g:∀i:Int,0<=i->i<6->inB i s.size=C:=λi h h'=>Ac h ω;have q:bl (s.extract 0 5)=(bl s).take 5:=by rw[Rf];rfl
  rw[show((s.size:Int) !=6)=B by rw[j];rfl,J ω,Abf (by rw[<-Fx,q,x_];omega),q];simp only[ U,g 5 ω ω,g 0 ω ω,g 1 ω ω,g 2 ω ω,g 3 ω ω,g 4 ω ω,Jl];rw[u,show aB 5=5 from rfl,show aB 0=0 from rfl,show aB 1=1 from rfl,show aB 2=2 from rfl,show aB 3=3 from rfl,show aB 4=4 from rfl];simp only[show ∀i:Nat,(((bl s).getD i 0).toNat:Int)=fld (bl s) i from λ_=>rfl];have y:=YQ (bl s) 0;have A:=YQ (bl s) 1;have z:=YQ (bl s) 2;have w:=YQ (bl s) 3;have D:=YQ (bl s) 4;rw[Aa ω ω,Aa ω ω,Aa ω ω,Aa (n:=fld (bl s) 3) ω ω,Aa ω ω,Aa ω ω];simp only[bne];cases hq:(((XJ _:Nat):Int))==fld (bl s) 5 with
  |false=>exact⟨5,⟨0,0,0,0,0⟩,rfl,rfl,λr h=>by cases h⟩
  |true=>
   have o:=Pq hb hc<|Ac9<|bl s;unfold Ac9 at o;simp only[ o];show ∃e r0,(bif !(AB b<|Ac9<|bl s)then _ else _)=_/\_;cases AB b _ with
   |false=>exact⟨9,⟨0,0,0,0,0⟩,rfl,rfl,λr h=>by cases h⟩
   |true=>exact⟨0,Ac9<|bl s,rfl,rfl,λr h=>s_ h⟩
 .rw[show _=C from FT ω,show _=B from Ao (by exact j)];exact⟨4,⟨0,0,0,0,0⟩,rfl,rfl,λr h=>by cases h⟩
def Jo(b:Bldg):Nat->List UInt8->List aA
 |0,_=>[]
 |k+1,l=>if 6<=l.length then match Sl b (l.take 6)with|some r=>r::Jo b k (l.drop 6)|none=>[]else []
def UK(b:Bldg)(s:ByteArray):List aA:=Jo b s.size<|bl s
def Zy(b:Bldg):∀(k:Nat) (l:List UInt8),6*(Jo b k l).length<=l.length
 |0,_=>by simp[Jo]
 |k+1,l=>by
  simp only[Jo];split
  .split
   .rename_i h _ r _
    have:=Zy b k<|l.drop 6
    rw[U_]at this;rw[D_];omega
   .simp
  .simp
def Vz(b:Bldg):∀(k:Nat) (l:List UInt8),∀r∈Jo b k l,AB b r=C
 |0,_,_,h=>by simp[Jo]at h
 |k+1,l,r,h=>by
  simp only[Jo]at h;split at h
  .split at h
   .rename_i _ _ j g;rcases A_.1 h with rfl|h
    .exact Aw9 g
    .exact Vz b k _ r h
   .cases h
  .cases h
def Aor{b:Bldg}(hb:b.small)(hc:b.A0.length<=100){t:List UInt8}(u:t.length<6):∀(rs:List aA) (k:Nat),rs.length<=k->(∀r∈rs,AB b r=C)->Jo b k (rs.flatMap DE++t)=rs
 |[],0,_,_=>rfl
 |[],k+1,_,_=>by simp only[Jo,List.flatMap_nil,e0_];rw[if_neg ω]
 |r::rs,0,h,_=>by simp at h
 |r::rs,k+1,h,g=>by
  have j:(r::rs).flatMap DE++t=DE r++(rs.flatMap DE++t):=by rw[X_,N_]
  have o:(DE r++(rs.flatMap DE++t)).take 6=DE r:=d9_<|Ik r;have v:(DE r++(rs.flatMap DE++t)).drop 6=rs.flatMap DE++t:=List.drop_left'<|Ik r;simp only[Jo];rw[j,o,v,Be8 hb hc<|g r<|C_ ..,if_pos (by rw[f_,Ik];omega),Aor hb hc u rs k (by simp at h;omega) λx q=>g x<|F_ _ q]
def Ah0(hb:b.small)(hc:b.A0.length<=100)(hcode:b.code=0)(s:ByteArray)(hs:s.size<=1000000):
  ∃n:Int,Nz b.C0 b.F0 b.J0 b.L0 b.I0 b.M0 b.O0 b.A0 s=E ((UK b s,n,()),()):=by
 have v:∀(k n:Nat) (l:List aA),s.size<=n+6*k->n<=s.size->l.length<=n->∃y:Int,BM (λx=>letI a:=x.2.1.2.2;letI c:=a.2.2;Hl x.1.1 x.1.2.2.1 x.1.2.2.2.1 x.2.1.1 x.2.1.2.1 a.1 a.2.1 c.1 c.2.1 c.2.2.1 c.2.2.2.1) (k+1) ((s,(),l,n,()),(b.tup,()))=E ((l++Jo b k ((bl s).drop n),y,()),()):=by
  intro k;induction k with
  |zero=>intro n l h1 L _;refine⟨n,AU ?_⟩;unfold Hl;rw[Aa (n:=(n:Int)+6) ω ω,W (ω:¬(n:Int)+6<=(s.size:Int))];simp only[V,Jo,a1_]
  |succ k N=>
   intro n l h1 L R;have w:O.wrap (n+6)=((n+6:Nat):Int):=by rw[Aa ω ω];omega
   by_cases g:n+6<=s.size
   .have o:((bl s).drop n).length=s.size-n:=by rw[U_,Fx]
    have D:bl (s.extract n<|n+6)=((bl s).drop n).take 6:=by rw[Rf,show n+6-n=6 by omega]
    obtain⟨e,r0,I,q,F⟩:=Ada hb hc hcode _ (by rw[<-Fx,D,x_];omega);rw[D]at q F;have j:∀X,(bif(e !=0)then E (Sum.inr ((l,(n:Int),()),()))else E (Sum.inl ((s,(),(l++[r0]),((n+6:Nat):Int),()),(b.tup,()))))=X->Hl s l n b.C0 b.F0 b.J0 b.L0 b.I0 b.M0 b.O0 b.A0=X:=by rintro X rfl;unfold Hl;simp only[w,J (ω:((n+6:Nat):Int)<=s.size),l_,J (ω:n<=((n+6:Nat):Int)),I,U];rw[AR (by rw[L_];omega)];rfl
    cases u:Sl b _ with
    |none=>rw[u]at q;rw[q]at j;refine⟨n,(AU<|j _ rfl).trans ?_⟩;simp only[Jo,o,u];rw[if_pos ω,a1_]
    |some r=>rw[u]at q;rw[q]at j;obtain rfl:=F r u;obtain⟨y,A⟩:=N (n+6) (l++[r0]) ω g (by rw[f_,L_];omega);refine⟨y,(BH<|j _ rfl).trans<|A.trans ?_⟩;simp only[Jo,o,u];rw[if_pos ω,N_,List.drop_drop];rfl
   .refine⟨n,AU ?_⟩;unfold Hl;rw[w,W (ω:¬((n+6:Nat):Int)<=(s.size:Int))];simp only[V,Jo];rw[if_neg (by rw[U_,Fx];omega),a1_]
 obtain⟨y,A⟩:=v s.size 0 [] ω ω σ;have z:=AA A ω;refine⟨y,?_⟩;unfold Nz;rw[show OK ((s,(),[],0,()),((b.C0,b.F0,b.J0,b.L0,b.I0,b.M0,b.O0,b.A0,()),()))=_ from z];rfl
def Pm(l:List UInt8):List Int:=l.map λx=>(x.toNat:Int)
def Avs(l:List UInt8):FC (Pm l)=txt l:=by
 rw[Apc];unfold Pm;rw[List.map_map];congr 1
 conv=>rhs;rw[<-List.map_id l]
 refine List.map_congr_left λx _=>?_;show UInt8.ofNat _=x;rw[l_,UInt8.ofNat_toNat]
def Bby(l:List UInt8):(Pm l).all (λn=>decide (0<=n)&&decide (n<256))=C:=by
 rw[G_];intro n g;obtain⟨x,_,rfl⟩:=b6_.1 g
 have:x.toNat<256:=aZ x
 simp only[b_,r_];omega
def Awb(h:l≠[]):FN (Pm l)=E ((txt l,()),(((),Pm l,()),())):=by
 unfold FN;rw[Bby,Avs]
 first
 |rfl
 |rw[show Avk _=C by
   cases l with
   |nil=>exact absurd rfl h
   |cons a t=>rfl]
  rfl
def Bag(s:ByteArray)(h:l.length+s.size<=2147483648):Et s (Pm l)=E (((s.size:Int),(),()),(((),Pm<|l++bl s,()),())):=by unfold Et wsF;rw[show(Pm l).length=l.length from d3_ _,AR h];unfold Pm bl;rw[List.map_append];rfl
def Axb(b:Bldg)(r:aA):(bl<|Qg b r).length<=6:=by
 unfold Qg;cases AB b r with
 |true=>rw[Z,Lh,Ik];omega
 |false=>rw[V,Lh];simp
def WL(h:AB b r=C):Qg b r=txt (DE r):=by unfold Qg;rw[h];rfl
def Anf{b:Bldg}:∀{rs:List aA},(∀r∈rs,AB b r=C)->rs.flatMap (λr=>bl<|Qg b r)=rs.flatMap DE
 |[],_=>rfl
 |r::t,h=>by rw[X_,X_,WL<|h r<|C_ ..,Lh,Anf λx g=>h x<|F_ _ g]
def Ag3(rs:List aA):(rs.flatMap DE).length=6*rs.length:=by
 induction rs with
 |nil=>rfl
 |cons r t g=>rw[X_,f_,g,Ik,D_];omega
section
variable{b:Bldg}(hb:b.small)(hc:b.A0.length<=100)
include hb hc
theorem Alr(bud:Int)(hl:rs.length<=1000000)(s t:Sto):OI ((bud,(),(),(),(),rs,(rs.length:Int),(0:Int),()),(b.tup,(s.h0,s.h1,s.sel,()),(t.h0,t.h1,t.sel,()),((),[],()),()))=E ((bud,(),(),(),(),()),(b.tup,(s.h0,s.h1,s.sel,()),(t.h0,t.h1,t.sel,()),((),Pm (rs.flatMap λr=>bl<|Qg b r),()),())):=by
 have h:=BN (step:=λx=>letI a:=x.2.1.2.2;letI c:=x.1.2.2.2.2.2;letI d:=x.2.2;letI f:=a.2.2;Hk x.1.1 c.1 c.2.1 c.2.2.1 x.2.1.1 x.2.1.2.1 a.1 a.2.1 f.1 f.2.1 f.2.2.1 f.2.2.2.1 d.1.1 d.1.2.1 d.1.2.2.1 d.2.1.1 d.2.1.2.1 d.2.1.2.2.1 d.2.2.1.2.1) rs.length
  (λi (l:List UInt8)=>((bud,(),(),(),(),rs,rs.length,i,()),(b.tup,(s.h0,s.h1,s.sel,()),(t.h0,t.h1,t.sel,()),((),Pm l,()),()))) (λi l=>l++bl (Qg b<|rs.getD i<|aU 0 0 0 0 0)) (λi l=>l.length<=6*i) _ (λi l g hs=>by
   have j:=Axb b<|rs.getD i<|aU 0 0 0 0 0;refine⟨?_,by rw[f_];omega⟩;show Hk bud rs _ _ b.C0 b.F0 b.J0 b.L0 b.I0 b.M0 b.O0 b.A0 s.h0 s.h1 s.sel t.h0 t.h1 t.sel _=_;unfold Hk;simp only[J (ω:i<(rs.length:Int)),Ac ω (ω:(i:Int)<rs.length),l_,TJ hb hc,U,Bag (Qg b<|rs.getD i<|aU 0 0 0 0 0) (l:=l) (by rw[<-Fx];omega),GS g (by unfold DJ;omega)];rfl) (λl _=>by
   show Hk bud rs _ _ b.C0 b.F0 b.J0 b.L0 b.I0 b.M0 b.O0 b.A0 s.h0 s.h1 s.sel t.h0 t.h1 t.sel _=_;unfold Hk;simp only[W<|Z_ _];rfl) rs.length 0 [] ω σ
 have h':=AA h.1 ω;have e:Ba (λi l=>l++bl (Qg b<|rs.getD i<|aU 0 0 0 0 0)) rs.length 0 []=rs.flatMap λr=>bl<|Qg b r:=by rw[Mk _,e0_,Pp (λr=>bl _) _ rs 0 rs.length ω,d8_]
 rw[e]at h';exact h'
end
def FW(b:Bldg)(s:Sto)(m:Img)(bud:Int):Sto×Int×Int:=
 bif !(aH<|s.ok b.J0)then(Sto.no,0,1)else bif decide (bud<0)then(Sto.no,0,1)else bif !(m.ok b)then(Sto.no,0,1)else
 bif((s.erase b.J0 (1-s.sel) bud).2.2==0)then
  (bif(((s.erase b.J0 (1-s.sel) bud).1.write b.J0 (1-s.sel) (txt<|(FZ m).flatMap DE) (s.erase b.J0 (1-s.sel) bud).2.1).2.2==0)then
   ((s.erase b.J0 (1-s.sel) bud).1.write b.J0 (1-s.sel) (txt<|(FZ m).flatMap DE) (s.erase b.J0 (1-s.sel) bud).2.1).1.choose b.J0 (1-s.sel) ((s.erase b.J0 (1-s.sel) bud).1.write b.J0 (1-s.sel) (txt<|(FZ m).flatMap DE) (s.erase b.J0 (1-s.sel) bud).2.1).2.1
  else(s.erase b.J0 (1-s.sel) bud).1.write b.J0 (1-s.sel) (txt<|(FZ m).flatMap DE) (s.erase b.J0 (1-s.sel) bud).2.1)
 else s.erase b.J0 (1-s.sel) bud
def Ber(room:Int)(s:Sto)(half bud:Int)(t:Sto)(hb:bud<9223372036854775808):(s.act room half bud t).2.1<9223372036854775808:=by
 unfold Sto.act;split
 .show 0<_;omega
 .split
  .show 0<_;omega
  .show bud-1<_;omega
def Azm(room:Int)(s:Sto)(half:Int)(d:ByteArray)(bud:Int)(hb:bud<9223372036854775808):(s.write room half d bud).2.1<9223372036854775808:=by
 unfold Sto.write;split
 .show 0<_;omega
 .split
  .show 0<_;omega
  .split
   .show 0<_;omega
   .show bud-d.size<_;omega
def VV(hb:b.small)(hc:b.A0.length<=100)(s:Sto)(hf:m.fit)(o:bud<9223372036854775808):
  KZ b.C0 b.F0 b.J0 b.L0 b.I0 b.M0 b.O0 b.A0 s.h0 s.h1 s.sel m.G0 m.R0 m.K0 m.B0 bud=E (Sto.out<|FW b s m bud):=by
 have L:100000<=maxLen:=by decide
 have hp:=hf.p;have R:=hf.e;unfold KZ FW;rw[GY,Dw hb m ω ω,Ae5 hb hf];by_cases hs:s.ok b.J0
 .rw[J hs];by_cases v:bud<0
  .rw[J v];rfl
  rw[W v];cases y:m.ok b with
  |false=>rfl
  |true=>
   have hm:=Img.ok_iff.1 y;have A:=Ah hm.code;have F:=hm.lp;have D:Alk b m=FZ m:=by unfold Alk;rw[y];rfl
   have u:=Ajz m;have z:(FZ m).flatMap DE≠[]:=λh0=>by have h1:=Ag3<|FZ m;rw[h0,u,b7_]at h1;omega
   have g:=Alr hb hc bud (by rw[u];omega) s Sto.no;rw[Anf<|XH hm]at g;simp only[Bldg.tup,Sto.no,noB]at g;have w:O.wrap (1-s.sel)=1-s.sel:=by obtain⟨_,_,_,_,N⟩:=hs;exact Aa ω ω
   simp only[a8_,V,D,g,U,w,Avv _ _ _ _ _ _ o,Sto.out];have j:=Ber b.J0 s (1-s.sel) bud (s.set (1-s.sel) noB) o;rw[show s.act b.J0 _ bud _=s.erase b.J0 _ bud from rfl]at j;generalize s.erase b.J0 _ bud=r1 at j|-;cases hq:r1.2.2==0 with
   |false=>simp only[V,U,hq]
   |true=>
    simp only[Z,Awb z,U,SW _ _ _ _ _ _ _ j,Sto.out];have q:=Azm b.J0 r1.1 (1-s.sel) (txt<|(FZ m).flatMap DE) r1.2.1 j;generalize r1.1.write b.J0 _ _ r1.2.1=r2 at q|-;cases I:r2.2.2==0 with
    |false=>simp only[V]
    |true=>simp only[Z,Aqz _ _ _ _ _ _ q,U,Sto.out]
 .rw[W hs];rfl
def JH(b:Bldg)(m:Img)(r:aA):Bool:=r.C1==1&&(!(Gm (BZ r.D0 r.H0) m.B0)&&!(Pu b m))
def FY(b:Bldg)(s:Sto)(m:Img)(r:aA)(bud:Int):Sto×Int×Int:=bif decide ((6:Int)<=b.J0-(s.cur.size:Int))then s.write b.J0 s.sel (txt<|DE r) bud else FW b s (Aw m r) bud
def PZ(b:Bldg)(s:Sto)(m:Img)(r:aA)(bud:Int):Sto×Img×Int×Int:=
 bif !(m.ok b&&AB b r)then(Sto.no,Img.none,0,1)else bif !(aH<|s.ok b.J0)then(Sto.no,Img.none,0,1)else bif decide (bud<0)then(Sto.no,Img.none,0,1)else
 bif JH b m r then(Sto.no,Img.none,0,7)else
 bif(FY b s m r bud).2.2==0 then((FY b s m r bud).1,Aw m r,(FY b s m r bud).2.1,(FY b s m r bud).2.2)
 else bif(FY b s m r bud).2.2==8 then((FY b s m r bud).1,m,0,(FY b s m r bud).2.2)else(Sto.no,Img.none,0,(FY b s m r bud).2.2)
def Al4(r:Sto×Img×Int×Int):(Unit×Unit×Int×Int×Unit)×((ByteArray×ByteArray×Int×Unit)×(List Int×List Bool×List Bool×List H×Unit)×Unit):=(((),(),r.2.2.1,r.2.2.2,()),((r.1.h0,r.1.h1,r.1.sel,()),r.2.1.tup,()))
def Aki(hb:b.small)(hc:b.A0.length<=100)(s:Sto)(hp:m.G0.length<=100000)(hl:m.B0.length<=10000)(r:aA)(g:bud<9223372036854775808):
    OA b.C0 b.F0 b.J0 b.L0 b.I0 b.M0 b.O0 b.A0 s.h0 s.h1 s.sel m.G0 m.R0 m.K0 m.B0 r.C1 r.D0 r.H0 r.X0 r.P2 bud=E (Al4<|PZ b s m r bud):=by
  unfold OA PZ;rw[Ze hb hc m hp hl r,GY];unfold Yt;cases hq:m.ok b&&AB b r with
  |false=>rfl
  |true=>
    rw[b_]at hq;have hm:=Img.ok_iff.1 hq.1;simp only[ Z,V];by_cases hs:s.ok b.J0
    · rw[J hs]
      by_cases v:bud<0
      · rw[J v];rfl
      rw[W v];obtain⟨o,R⟩:=Kq hm hq.2;have h2:=hm.lf;have L:=hm.ll;have g1:=o.lp;have g2:=o.lf;have g3:=o.ll;have D:(Aw m r).fit:=⟨ω,ω,ω,ω⟩
      have N:s.cur.size<=b.J0:=by
        obtain⟨_,_,L,h4,_⟩:=hs;unfold Sto.cur;split
        · exact h4
        · exact L
      have F:=YF hm.code;have wr:O.wrap _=b.J0-s.cur.size:=Aa ω ω;have y:((Qg b r).size:Int)=6:=by rw[WL hq.2,Qo];rfl
      rw[Abn m hm.so ω];have step:∀q:Bool,q=JH b m r->(bif q then E (((),(),0,7,()),(((aJ<|aT []),(aJ<|aT []),0,()),(([]:List Int),([]:List Bool),([]:List Bool),([]:List H),()),()))else
          E (Al4<|bif(FY b s m r bud).2.2==0 then((FY b s m r bud).1,Aw m r,(FY b s m r bud).2.1,(FY b s m r bud).2.2)else bif(FY b s m r bud).2.2==8 then((FY b s m r bud).1,m,0,(FY b s m r bud).2.2)else(Sto.no,Img.none,0,(FY b s m r bud).2.2)))=
        E (Al4<|bif JH b m r then(Sto.no,Img.none,0,7)else(bif(FY b s m r bud).2.2==0 then((FY b s m r bud).1,Aw m r,(FY b s m r bud).2.1,(FY b s m r bud).2.2)else bif(FY b s m r bud).2.2==8 then((FY b s m r bud).1,m,0,(FY b s m r bud).2.2)else(Sto.no,Img.none,0,(FY b s m r bud).2.2))):=by
        rintro q rfl;cases JH b m r<;>rfl
      simp only[a8_,V,U];have S : ∀ q : Bool, (bif (r.C1 == 1) then
              bif(!(Gm _ m.B0))then
                (Mu b.C0 b.F0 b.J0 b.L0 b.I0 b.M0 b.O0 b.A0 m.G0 m.R0 m.K0 m.B0).bind λy4=>
                E ((bud,(),(),(),(),(),(),(),(!y4.1.1),()),((b.C0,b.F0,b.J0,b.L0,b.I0,b.M0,b.O0,b.A0,()),(s.h0,s.h1,s.sel,()),(m.G0,m.R0,m.K0,m.B0,()),(r.C1,r.D0,r.H0,r.X0,r.P2,()),((aJ _),(aJ _),0,()),(([]:List Int),([]:List Bool),([]:List Bool),([]:List H),()),(Aw m r).tup,()))
              else
                E ((bud,(),(),(),(),(),(),(),B,()),((b.C0,b.F0,b.J0,b.L0,b.I0,b.M0,b.O0,b.A0,()),(s.h0,s.h1,s.sel,()),(m.G0,m.R0,m.K0,m.B0,()),(r.C1,r.D0,r.H0,r.X0,r.P2,()),((aJ _),(aJ _),0,()),(([]:List Int),([]:List Bool),([]:List Bool),([]:List H),()),(Aw m r).tup,()))
            else
              E ((bud,(),(),(),(),(),(),(),B,()),((b.C0,b.F0,b.J0,b.L0,b.I0,b.M0,b.O0,b.A0,()),(s.h0,s.h1,s.sel,()),(m.G0,m.R0,m.K0,m.B0,()),(r.C1,r.D0,r.H0,r.X0,r.P2,()),((aJ _),(aJ _),0,()),(([]:List Int),([]:List Bool),([]:List Bool),([]:List H),()),(Aw m r).tup,())))=E ((bud,(),(),(),(),(),(),(),JH b m r,()),((b.C0,b.F0,b.J0,b.L0,b.I0,b.M0,b.O0,b.A0,()),(s.h0,s.h1,s.sel,()),(m.G0,m.R0,m.K0,m.B0,()),(r.C1,r.D0,r.H0,r.X0,r.P2,()),((aJ<|aT []),(aJ<|aT []),(0:Int),()),(([]:List Int),([]:List Bool),([]:List Bool),([]:List H),()),(Aw m r).tup,())):=λ_=>by
        rw[Abm hb m ω hp ω];unfold JH;cases r.C1==1<;>cases Gm _ m.B0<;>rfl
      have u:=S C;simp only[Img.tup]at u|-;rw[u];simp only[U];cases JH b m r with
      |true=>rfl
      |false=>
        rw[TJ hb hc,QO];simp only[U,y];rw[ wr,WL hq.2];have hw:=SW b.J0 s.h0 s.h1 s.sel s.sel (txt<|DE r) bud g;have I:=VV hb hc s D g;rw[hw,I];simp only[U];have z:∀{A:Type}(f:Sto×Int×Int->A),(bif decide _ then E (f<|s.write b.J0 s.sel _ bud)else E (f<|FW b s _ bud))=E (f<|FY b s m r bud):=λf=>by unfold FY;cases decide (6<=b.J0-s.cur.size)<;>rfl
        have j:=z λw=>((w.2.1,(),(),(),(),(),w.2.2,()),((w.1.h0,w.1.h1,w.1.sel,()),(m.G0,m.R0,m.K0,m.B0,()),((aJ<|aT []),(aJ<|aT []),(0:Int),()),(([]:List Int),([]:List Bool),([]:List Bool),([]:List H),()),(Aw m r).tup,()))
        simp only[Img.tup]at j;simp only[Sto.out];rw[j];simp only[U];generalize FY b s m r bud=w;cases w.2.2==0 with
        |true=>rfl
        |false=>
          cases w.2.2==8 with
          |true=>rw[Zh m hp ω ω ω];rfl
          |false=>rfl
    · rw[W hs]
      rfl
def Apn(z:∀r∈rs,AB b r=C)(hl:rs.length<=90000)(g m:Img)(hm:ImgOK b m)(q:m.B0.length=0):
  PS (((),(),rs,(rs.length:Int),(0:Int),()),(g.tup,m.tup,()))=E (((),(),()),(g.tup,(Ar m rs).tup,())):=by
 have h:=BN (step:=λx=>letI a:=x.2.2.1;HQ x.1.2.2.1 x.1.2.2.2.1 x.1.2.2.2.2.1 x.2.1.1 x.2.1.2.1 x.2.1.2.2.1 x.2.1.2.2.2.1 a.1 a.2.1 a.2.2.1 a.2.2.2.1) rs.length
  (λi (m:Img)=>(((),(),rs,rs.length,i,()),(g.tup,m.tup,()))) _ (λi m=>ImgOK b m/\m.B0.length<=i) _ (λi m o hs=>by
   obtain⟨hm,y⟩:=hs;have j:=z _<|Av (aU 0 0 0 0 0) o;obtain⟨u,D⟩:=Kq hm j;refine⟨?_,u,ω⟩;show HQ rs _ _ g.G0 g.R0 g.K0 g.B0 m.G0 m.R0 m.K0 m.B0=_;unfold HQ;simp only[J (ω:i<(rs.length:Int)),Ac ω (ω:(i:Int)<rs.length),l_,GS o (by unfold DJ;omega)];rw[XT hm.so ω _ λw=>by have h0:=Af6 j w;have h1:=hm.lp;have F:=hm.lf;have A:=hm.ll;omega];rfl) (λm _=>by
   show HQ rs _ _ g.G0 g.R0 g.K0 g.B0 m.G0 m.R0 m.K0 m.B0=_;unfold HQ;simp only[W<|Z_ _];rfl) rs.length 0 m ω ⟨hm,ω⟩
 have h':=AA h.1 ω;have e:∀(l:List aA) (m:Img),l.foldl Aw m=Ar m l:=λl=>by
  induction l with
  |nil=>exact λm=>rfl
  |cons r t v=>exact λm=>v _
 rw[Vs Aw _ rs rs.length 0 m ω,e]at h';exact h'
def EJ(b:Bldg)(s:Sto):Img:=Ar (Ph b)<|UK b s.cur
def Akl(hb:b.small)(hcode:b.code=0)(s:Sto)(hs:s.cur.size<=500000):
  OB b.C0 b.F0 b.J0 b.L0 b.I0 b.M0 b.O0 b.A0 s.h0 s.h1 s.sel=E (((),()),((EJ b s).tup,())):=by
 have j:=Ah hcode;obtain⟨n,o⟩:=Ah0 hb ω hcode s.cur ω;have g:(UK b s.cur).length<=90000:=by
  have:=Zy b s.cur.size<|bl s.cur
  rw[Fx]at this;unfold UK;omega
 have hl:=Apn (rs:=UK b s.cur) (λr o=>Vz b _ _ r o) g Img.none _ (Acm hcode) rfl;unfold OB;rw[Ahi,hcode,QO];simp only[U,q_,Z];rw[ o];simp only[U];simp only[Img.tup,Img.none]at hl|-;rw[hl];rfl
def sB:Bldg:=Bl3 4 2 30
def sM1:Img:=⟨[0,0],[B,B],[B,B],[⟨2,1,-1,0,B⟩]⟩
def sM2:Img:=⟨[0,0],[B,B],[B,B],[⟨2,1,0,0,B⟩]⟩
def ok1:sM1.ok sB=C:=by unfold Img.ok Iz Iy Aq;rfl
def ok2:sM2.ok sB=C:=by unfold Img.ok Iz Iy Aq;rfl
section
variable{s:Sto}{room half bud:Int}(hs:s.ok room)(hh:half=0\/half=1)(hb:0<=bud)
include hs hh hb
theorem Aw0:s.chk room half bud=0:=by unfold Sto.chk;rw[if_pos hs,if_neg ω]
theorem Ado(j:((s.get half).size:Int)+(t.length:Int)<=room):s.write room half (txt t) bud=if bud<(t.length:Int)then(s.set half<|s.get half++txt (t.take bud.toNat),0,8)else(s.set half<|s.get half++txt t,bud-(t.length:Int),0):=by have g:(txt t).extract 0 bud.toNat=txt (t.take bud.toNat):=Rh (by rw[Rf,Lh,Lh];simp);unfold Sto.write;rw[Aw0 hs hh hb,if_neg ω,Qo,if_neg ω,g]
theorem Awj(t:Sto):s.act room half bud t=if bud=0 then(s,0,8)else(t,bud-1,0):=by unfold Sto.act;rw[Aw0 hs hh hb,if_neg ω]
end
def TP{s:Sto}{half:Int}(hs:s.ok room){x:ByteArray}(j:(x.size:Int)<=room):(s.set half x).ok room:=by
 obtain⟨h1,o,q,u,g⟩:=hs;unfold Sto.set Sto.ok;split
 .exact⟨h1,o,j,u,g⟩
 .exact⟨h1,o,q,j,g⟩
def Ay5{s:Sto}{half:Int}(hs:s.ok room)(hh:half=0\/half=1):Sto.ok room { s with sel:=half }:=by obtain⟨h1,o,g,j,_⟩:=hs;exact⟨h1,o,g,j,hh⟩
def UQ{s:Sto}(hs:s.ok room):s.sel=0\/s.sel=1:=hs.2.2.2.2
def Agw{s:Sto}(hh:s.sel=0\/s.sel=1):s.cur=s.get s.sel:=by unfold Sto.cur Sto.get;rcases hh with h|h<;>rw[h]<;>rfl
def Ara{s:Sto}(hh:s.sel=0\/s.sel=1)(x:ByteArray):(s.set s.sel x).cur=x:=by
  obtain⟨h0,h1,sel⟩:=s;rcases hh with h|h<;>
    (simp only at h
     subst h;simp[Sto.cur,Sto.set])
def Aio{s:Sto}(hh:s.sel=0\/s.sel=1)(x:ByteArray):(s.set (1-s.sel) x).cur=s.cur:=by
  obtain⟨h0,h1,sel⟩:=s;rcases hh with h|h<;>
    (simp only at h
     subst h;simp[Sto.cur,Sto.set])
def Ai3{s:Sto}(hh:s.sel=0\/s.sel=1)(x:ByteArray):(s.set (1-s.sel) x).get (1-s.sel)=x:=by
  obtain⟨h0,h1,sel⟩:=s;rcases hh with h|h<;>
    (simp only at h
     subst h;simp[Sto.set,Sto.get])
def Aju{s:Sto}(hh:s.sel=0\/s.sel=1)(x y:ByteArray):(s.set (1-s.sel) x).set (1-s.sel) y=s.set (1-s.sel) y:=by
  obtain⟨h0,h1,sel⟩:=s;rcases hh with h|h<;>
    (simp only at h
     subst h;simp[Sto.set])
def Aee{s:Sto}(hh:s.sel=0\/s.sel=1)(x:ByteArray):Sto.cur { s.set (1-s.sel) x with sel:=1-s.sel }=x:=by
  obtain⟨h0,h1,sel⟩:=s;rcases hh with h|h<;>
    (simp only at h
     subst h;simp[Sto.cur,Sto.set])
def ZA(hb:b.small)(hc:b.A0.length<=100){s:Sto}(h:bl s.cur=rs.flatMap DE++t)(g:t.length<6)(j:∀r∈rs,AB b r=C):EJ b s=Ar (Ph b) rs:=by
 unfold EJ UK;have hl:s.cur.size=6*rs.length+t.length:=by rw[<-Fx,h,f_,Ag3]
 rw[h,Aor hb hc g rs s.cur.size ω j]
structure Jst(b:Bldg)(s:Sto)(m:Img):Prop where
 ok:s.ok b.J0
 img:ImgOK b m
 rs:∃rs:List Record,bl s.cur=rs.flatMap DE/\(∀r∈rs,AB b r=true)/\Ar (Ph b) rs=m
 fits:18*((b.A0.length:Int)+(m.B0.length:Int))+6<=b.J0
def Aic(hs:Br m.B0)(h:r.C1=1->Gm (BZ r.D0 r.H0) m.B0=C):(Aw m r).B0.length<=m.B0.length:=by
 unfold Aw;cases r.C1==4 with
 |true=>exact t_ _
 |false=>
 cases r.C1==5 with
 |true=>exact t_ _
 |false=>
 cases r.C1==6 with
 |true=>exact t_ _
 |false=>
 have hf:=Rm (c:=BZ r.D0 r.H0) 0 hs;rw[show Ej r.D0 r.H0 m.B0 0=_ from hf];cases hq:Gm _ m.B0 with
 |false=>
  by_cases k1:r.C1=1
  .rw[h k1]at hq;cases hq
  .rw[Ao k1];exact t_ _
 |true=>
  cases r.C1==2 with
  |true=>show(m.B0.take _++m.B0.drop _).length<=_;rw[f_,x_,U_];omega
  |false=>
  cases r.C1==3 with
  |true=>show(m.B0.set _ _).length<=_;rw[z_];exact t_ _
  |false=>
  cases r.C1==7 with
  |true=>show(m.B0.set _ _).length<=_;rw[z_];exact t_ _
  |false=>exact t_ _
def Aiz{s:Sto}(j:Jst b s m)(q:AB b r=C)(g:JH b m r=B):18*((b.A0.length:Int)+((Aw m r).B0.length:Int))+6<=b.J0:=by
 have h0:=j.fits;have u:=(Kq j.img q).2;by_cases o:r.C1=1
 .cases hq:Gm (BZ r.D0 r.H0) m.B0 with
  |true=>have:=Aic j.img.so λ_=>hq;omega
  |false=>unfold JH Pu at g;rw[o,hq]at g;simp at g;omega
 .have:=Aic j.img.so λh=>absurd h o
  omega
def Adk(h:ImgOK b m):(((FZ m).flatMap DE).length:Int)=18*((b.A0.length:Int)+(m.B0.length:Int)):=by rw[Ag3,Ajz,h.lp];omega
def WD{s:Sto}(hs:s.ok b.J0)(hm:ImgOK b m)(o:0<=bud)(y:18*((b.A0.length:Int)+(m.B0.length:Int))<=b.J0):
  (2+18*((b.A0.length:Int)+(m.B0.length:Int))<=bud/\FW b s m bud=({ s.set (1-s.sel) (txt<|(FZ m).flatMap DE)with sel:=1-s.sel },bud-(2+18*((b.A0.length:Int)+(m.B0.length:Int))),0))\/
  (bud<2+18*((b.A0.length:Int)+(m.B0.length:Int))/\∃s',FW b s m bud=(s',0,8)/\s'.ok b.J0/\s'.cur=s.cur):=by
 have g:=UQ hs;have hh:1-s.sel=0\/1-s.sel=1:=ω;have D:=Adk hm;have q:s.erase b.J0 _ bud=if bud=0 then _ else _:=Awj hs hh o _
 unfold FW;rw[J hs,W ω,Img.ok_iff.2 hm];generalize F:(FZ m).flatMap DE=T at D|-;by_cases h0:bud=0
 .right;rw[q,if_pos h0];exact⟨ω,s,rfl,hs,rfl⟩
 .rw[if_neg h0]at q;rw[q];have v:(s.set (1-s.sel) noB).ok b.J0:=TP hs (by show 0<=_;omega);have u:=Ado (t:=T) v hh (ω:0<=bud-1) (by rw[Ai3 g];show(0:Int)+_<=_;omega);rw[Ai3 g,Aju g,Aju g]at u;have A:∀x:ByteArray,noB++x=x:=λx=>Rh (by rfl);rw[A,A]at u;simp only[ u];by_cases h1:bud-1<T.length
  .right;rw[if_pos h1];refine⟨ω,_,rfl,TP hs ?_,Aio g _⟩;rw[Qo,x_];omega
  .rw[if_neg h1];have j:(s.set (1-s.sel)<|txt T).ok b.J0:=TP hs (by rw[Qo];omega);have hc:=Awj j hh (ω:0<=bud-1-T.length) { s.set (1-s.sel) (txt T)with sel:=1-s.sel };have w:(s.set _<|txt T).choose b.J0 _ _=_:=hc;simp only[ w];by_cases z:bud-1-T.length=0
   .right;rw[if_pos z];exact⟨ω,_,rfl,j,Aio g _⟩
   .left;rw[if_neg z,show bud-1-T.length-1=bud-(2+18*(b.A0.length+m.B0.length))by omega];exact⟨ω,rfl⟩
def QF(b:Bldg)(s:Sto)(m:Img)(r:aA):Int:=if(s.cur.size:Int)+6<=b.J0 then 6 else 2+18*((b.A0.length:Int)+((Aw m r).B0.length:Int))
def Awp(hb:b.small){s:Sto}(q:Jst b s m)(z:AB b r=C)(u:JH b m r=B)(w:0<=bud):
  (QF b s m r<=bud/\∃s',PZ b s m r bud=(s',Aw m r,bud-QF b s m r,0)/\Jst b s' (Aw m r))\/
  (bud<QF b s m r/\∃s',PZ b s m r bud=(s',m,0,8)/\s'.ok b.J0/\EJ b s'=m):=by
 have L:=Ah q.img.code;have hc:b.A0.length<=100:=ω;have o:=(Kq q.img z).1;have v:=Aiz q z u;obtain⟨rs,D,F,N⟩:=q.rs;have j:=UQ q.ok;unfold PZ;rw[Img.ok_iff.2 q.img,z,J q.ok,W ω,u];simp only[ V];unfold QF FY;by_cases g:s.cur.size+6<=b.J0
 .rw[if_pos g,J ω,Z];have R:=Ado (t:=DE r) q.ok j w (by rw[<-Agw j,Ik];omega);rw[Ik,<-Agw j]at R;rw[R];by_cases h1:bud<((6:Nat):Int)
  .right;rw[if_pos h1];have hl:((DE r).take bud.toNat).length<6:=by rw[x_];omega
   refine⟨ω,_,rfl,TP q.ok ?_,?_⟩
   .rw[<-Fx,OT,Lh,f_,Fx];omega
   .rw[ZA hb hc (by rw[Ara j,OT,Lh,D]) hl F,N]
  .left;rw[if_neg h1];refine⟨ω,_,rfl,TP q.ok ?_,o,⟨rs++[r],?_,?_,?_⟩,v⟩
   .rw[<-Fx,OT,Lh,f_,Fx,Ik];omega
   .rw[Ara j,OT,Lh,D];simp
   .intro x y;rcases m_.1 y with y|y
    .exact F x y
    .rw[y_.1 y];exact z
   .rw[Fi,N];rfl
 .rw[if_neg g,W ω,V];rcases WD q.ok o w ω with⟨A,I⟩|⟨A,s',I,S,q4⟩
  .left;rw[I];refine⟨A,_,rfl,Ay5 (TP q.ok ?_) ω,o,⟨FZ _,?_,XH o,Aft o⟩,v⟩
   .rw[Qo,Adk o];omega
   .rw[Aee j,Lh]
  .right;rw[I];refine⟨A,s',rfl,S,?_⟩;rw[ZA hb hc (by rw[q4,D,a1_]) σ F,N]
def Jst.replay(hb:b.small){s:Sto}(j:Jst b s m):EJ b s=m:=by have g:=Ah j.img.code;obtain⟨rs,q,o,u⟩:=j.rs;rw[ZA hb ω (by rw[q,a1_]) σ o,u]
def Jst.first(hcode:b.code=0):Jst b Sto.no<|Ph b:=by
 have g:=YF hcode;refine⟨⟨ω,ω,?_,?_,.inl rfl⟩,Acm hcode,⟨[],rfl,(λr h=>by cases h),rfl⟩,?_⟩
 .show 0<=_;omega
 .show 0<=_;omega
 .show 18*(b.A0.length+(0:Int))+6<=_;omega
def Jst.ents{s:Sto}(g:Jst b s m):m.B0.length<=4000/\m.fit:=by have h1:=g.fits;have q:=(YF g.img.code).2;have o:=g.img.lp;have u:=g.img.lf;have j:=g.img.ll;exact⟨ω,ω,ω,ω,ω⟩
def Ayz(s:Sto)(m:Img)(bud e:Int):(Unit×Unit×Int×Int×Unit)×((ByteArray×ByteArray×Int×Unit)×(List Int×List Bool×List Bool×List H×Unit)×Unit):=(((),(),bud,e,()),((s.h0,s.h1,s.sel,()),m.tup,()))
def DM(b:Bldg)(s:Sto)(bud:Int):Sto×Img×Int×Int:=
 bif(FW b s (EJ b s) bud).2.2 !=0 then((FW b s (EJ b s) bud).1,Img.none,0,(FW b s (EJ b s) bud).2.2)
 else((FW b s (EJ b s) bud).1,EJ b s,(FW b s (EJ b s) bud).2.1,0)
def Ajn(hcode:b.code=0)(s:Sto)(hs:s.cur.size<=500000):ImgOK b (EJ b s)/\(EJ b s).B0.length<=90000/\(EJ b s).fit:=by have hc:=Ah hcode;obtain⟨h1,w⟩:=Ys (Acm hcode) (rs:=UK b s.cur) λr g=>Vz b _ _ r g;have j:=Zy b s.cur.size<|bl s.cur;rw[Fx]at j;have v:(Ph b).B0.length=0:=rfl;have o:(UK b s.cur).length=(Jo b s.cur.size _).length:=rfl;have u:=h1.lp;have y:=h1.lf;have q:=h1.ll;exact⟨h1,by show(Ar _ _).B0.length<=_;omega,by show(Ar _ _).G0.length<=_;omega,by show(Ar _ _).R0.length<=_;omega,by show(Ar _ _).K0.length<=_;omega,by show(Ar _ _).B0.length<=_;omega⟩
def Ahj(hb:b.small)(hcode:b.code=0)(s:Sto)(hs:s.cur.size<=500000)(g:bud<9223372036854775808):
  Nu b.C0 b.F0 b.J0 b.L0 b.I0 b.M0 b.O0 b.A0 s.h0 s.h1 s.sel bud=E (Ayz (DM b s bud).1 (DM b s bud).2.1 (DM b s bud).2.2.1 (DM b s bud).2.2.2):=by
 have hc:=Ah hcode;obtain⟨_,_,hf⟩:=Ajn hcode s hs;unfold Nu DM;rw[Akl hb hcode s hs];simp only[U,Img.tup];rw[VV hb ω s hf g];simp only[U,Sto.out];generalize FW b s _ bud=w;cases w.2.2 !=0<;>rfl
def WW(b:Bldg)(m:Img):Bool:=m.ok b&&decide (18*((b.A0.length:Int)+(m.B0.length:Int))+6<=b.J0)
def Bsg{a b:Nat}(h:a<=100000)(h':b<=100000):O.wrap (aC O (18*O.wrap ((a:Int)+(b:Int)))+6)=18*((a:Int)+(b:Int))+6:=by rw[Aa (n:=a+b) ω ω,Aa (n:=18*(a+b)) ω ω,Aa ω ω]
def UO(hb:b.small)(m:Img)(hc:b.A0.length<=100000)(hf:m.fit):JV b.C0 b.F0 b.J0 b.L0 b.I0 b.M0 b.O0 b.A0 m.G0 m.R0 m.K0 m.B0=E ((WW b m,()),()):=by
 have g:100000<=maxLen:=by decide
 have hp:=hf.p;have j:=hf.e;unfold JV WW;rw[Dw hb m ω ω];simp only[ Bsg hc j];cases m.ok b<;>rfl
def Aa7(m:Img)(hf:m.fit):KC m.G0 m.R0 m.K0 m.B0=E (((),()),(m.tup,())):=by
 have k:∀{α:Type}(l:List α),l.length<=100000->Lv l=E _:=λl h=>by unfold Lv;rw[AR ω];rfl
 unfold KC Be AG AM;rw[k _ hf.p,k _ hf.f,k _ hf.l,k _ hf.e];rfl
def VX:aN:=⟨-1,0,0,[],0,B⟩
def FV(b:Bldg)(i:Nat):Car:=b.A0.getD i ⟨0,0,0,0,0,0,0,0,0⟩
def VR(b:Bldg)(e:H):Int:=bif decide (0<=e.X0)then(FV b e.X0.toNat).K1 else 0
def Mch.none:Mch:=⟨Img.none,Sto.no,[],[],[],[],[],[],0,0,0⟩
def Ank(b:Bldg)(m:Img)(s:Sto):Mch:=⟨m,s,aE b.A0.length An,aE b.A0.length VX,aE b.A0.length Aj,aE b.A0.length Ac3,m.B0.map<|VR b,aE b.A0.length Ahr,0,0,0⟩
def Mch.withB(m:Mch)(l:List aN):Mch:={ m with P0:=l }
def Mch.withE(m:Mch)(l:List Int):Mch:={ m with Z2:=l }
def Aoz{α:Type}(a:α):∀k i:Nat,(aK i k).flatMap (λ_=>[a])=aE k a
 |0,_=>rfl
 |k+1,i=>by rw[e8_,X_,Aoz a k<|i+1];rfl
def Bbv{α β:Type}(f:α->β)(l:List α):l.flatMap (λx=>[f x])=l.map f:=by
 induction l with
 |nil=>rfl
 |cons a t g=>rw[X_,g];rfl
def Apl(b:Bldg)(hc:b.A0.length<=1000)(m:Img)(z o:Mch)(u:o.P0=[]):JD (((),(),(),(),(b.A0.length:Int),(0:Int),()),(b.tup,m.tup,z.tup,o.tup,()))=E (((),(),(),(),()),(b.tup,m.tup,z.tup,(o.withB<|aE b.A0.length VX).tup,())):=by
 have h:=BN (step:=λx=>letI d:=x.2.2.2;letI j:=d.2.1.2;letI a:=j.2.2.2.2;letI k:=d.1.2;letI c:=k.2.2.2.2;letI e:=c.2.2.2.2;letI f:=a.2.2.2.2;letI g:=x.2.1.2.2;letI n:=e.2.2;letI q:=f.2.2;letI r:=g.2.2;letI s:=x.2.2.1;Gj x.1.2.2.2.2.1 x.1.2.2.2.2.2.1 x.2.1.1 x.2.1.2.1 g.1 g.2.1 r.1 r.2.1 r.2.2.1 r.2.2.2.1 s.1 s.2.1 s.2.2.1 s.2.2.2.1 d.1.1 k.1 k.2.1 k.2.2.1 k.2.2.2.1 c.1 c.2.1 c.2.2.1 c.2.2.2.1 e.1 e.2.1 n.1 n.2.1 n.2.2.1 n.2.2.2.1 n.2.2.2.2.1 d.2.1.1 j.1 j.2.1 j.2.2.1 j.2.2.2.1 a.1 a.2.1 a.2.2.1 a.2.2.2.1 f.1 f.2.1 q.1 q.2.1 q.2.2.1 q.2.2.2.1 q.2.2.2.2.1) b.A0.length (λi (l:List aN)=>(((),(),(),(),b.A0.length,i,()),(b.tup,m.tup,z.tup,(o.withB l).tup,()))) (λ_ l=>l++[VX]) (λi l=>l.length<=i) _ (λi l v hl=>by
  refine⟨?_,by rw[f_,L_];omega⟩;show Gj _ _ b.C0 b.F0 b.J0 b.L0 b.I0 b.M0 b.O0 b.A0 m.G0 m.R0 m.K0 m.B0 z.E0.G0 z.E0.R0 z.E0.K0 z.E0.B0 z.S1.h0 z.S1.h1 z.S1.sel z.Z0 z.P0 z.A0 z.L3 z.Z2 z.F4 z.J4 z.X3 z.F3 (o.withB l).E0.G0 (o.withB l).E0.R0 (o.withB l).E0.K0 (o.withB l).E0.B0 (o.withB l).S1.h0 (o.withB l).S1.h1 (o.withB l).S1.sel (o.withB l).Z0 (o.withB l).P0 (o.withB l).A0 (o.withB l).L3 (o.withB l).Z2 (o.withB l).F4 (o.withB l).J4 (o.withB l).X3 (o.withB l).F3=_;unfold Gj Ot;simp only[J (ω:i<(b.A0.length:Int)),U,GS v (by unfold DJ;omega)];rw[AR (by show l.length+1<=_;omega)];rfl) (λl _=>by
  show Gj _ _ b.C0 b.F0 b.J0 b.L0 b.I0 b.M0 b.O0 b.A0 m.G0 m.R0 m.K0 m.B0 z.E0.G0 z.E0.R0 z.E0.K0 z.E0.B0 z.S1.h0 z.S1.h1 z.S1.sel z.Z0 z.P0 z.A0 z.L3 z.Z2 z.F4 z.J4 z.X3 z.F3 (o.withB l).E0.G0 (o.withB l).E0.R0 (o.withB l).E0.K0 (o.withB l).E0.B0 (o.withB l).S1.h0 (o.withB l).S1.h1 (o.withB l).S1.sel (o.withB l).Z0 (o.withB l).P0 (o.withB l).A0 (o.withB l).L3 (o.withB l).Z2 (o.withB l).F4 (o.withB l).J4 (o.withB l).X3 (o.withB l).F3=_;unfold Gj;simp only[W<|Z_ _];rfl) b.A0.length 0 [] ω σ
 have h':=AA h.1 ω;rw[Mk _,Aoz]at h';rw[show o.tup=(o.withB []).tup by unfold Mch.withB Mch.tup;rw[u]];exact h'
def Apm(b:Bldg){l:List H}(hl:l.length<=100000)(w:∀e∈l,e.X0<(b.A0.length:Int))(z o:Mch)(F:o.Z2=[]):JE (((),(),(),l,(l.length:Int),(0:Int),()),(b.tup,z.tup,o.tup,()))=E (((),(),()),(z.tup,(o.withE<|l.map<|VR b).tup,())):=by
 have h:=BN (step:=λx=>letI j:=x.2.2;letI n:=j.2.1.2;letI a:=n.2.2.2.2;letI m:=j.1.2.2;letI c:=m.2.2.2.2;letI d:=a.2.2.2.2;letI f:=c.2.2.2.2;letI k:=x.2.1.2.2;letI r:=d.2.2;letI s:=k.2.2;letI u:=f.2.2;Gk x.1.2.2.2.1 x.1.2.2.2.2.1 x.1.2.2.2.2.2.1 x.2.1.1 x.2.1.2.1 k.1 k.2.1 s.1 s.2.1 s.2.2.1 s.2.2.2.1 j.1.1 j.1.2.1 m.1 m.2.1 m.2.2.1 m.2.2.2.1 c.1 c.2.1 c.2.2.1 c.2.2.2.1 f.1 f.2.1 u.1 u.2.1 u.2.2.1 u.2.2.2.1 j.2.1.1 n.1 n.2.1 n.2.2.1 n.2.2.2.1 a.1 a.2.1 a.2.2.1 a.2.2.2.1 d.1 d.2.1 r.1 r.2.1 r.2.2.1 r.2.2.2.1 r.2.2.2.2.1) l.length (λi (q:List Int)=>(((),(),(),l,l.length,i,()),(b.tup,z.tup,(o.withE q).tup,()))) (λi q=>q++[VR b _]) (λi q=>q.length<=i) _ (λi q A hq=>by
  refine⟨?_,by rw[f_,L_];omega⟩;have hc:=w _<|Av noE A;have D:∀v:Int,aO ((o.withE q).Z2.length+[v].length) 2147483648=C:=λv=>AR (by show q.length+1<=_;omega);show Gk l _ _ b.C0 b.F0 b.J0 b.L0 b.I0 b.M0 b.O0 b.A0 z.E0.G0 z.E0.R0 z.E0.K0 z.E0.B0 z.S1.h0 z.S1.h1 z.S1.sel z.Z0 z.P0 z.A0 z.L3 z.Z2 z.F4 z.J4 z.X3 z.F3 (o.withE q).E0.G0 (o.withE q).E0.R0 (o.withE q).E0.K0 (o.withE q).E0.B0 (o.withE q).S1.h0 (o.withE q).S1.h1 (o.withE q).S1.sel (o.withE q).Z0 (o.withE q).P0 (o.withE q).A0 (o.withE q).L3 (o.withE q).Z2 (o.withE q).F4 (o.withE q).J4 (o.withE q).X3 (o.withE q).F3=_;unfold Gk;rw[show Entry.mk 0 0 0 0 B=noE from rfl];simp only[J (ω:i<(l.length:Int)),Ac ω (ω:(i:Int)<l.length),l_];have y:VR b _=bif decide _ then(FV b (l.getD i noE).X0.toNat).K1 else 0:=rfl;rw[y];by_cases g:0<=(l.getD i noE).X0
  .rw[J g,Ac g hc];simp only[Z,U,D,GS A (by unfold DJ;omega)];rfl
  .rw[W g];simp only[V,U,D,GS A (by unfold DJ;omega)];rfl) (λq _=>by
  show Gk l _ _ b.C0 b.F0 b.J0 b.L0 b.I0 b.M0 b.O0 b.A0 z.E0.G0 z.E0.R0 z.E0.K0 z.E0.B0 z.S1.h0 z.S1.h1 z.S1.sel z.Z0 z.P0 z.A0 z.L3 z.Z2 z.F4 z.J4 z.X3 z.F3 (o.withE q).E0.G0 (o.withE q).E0.R0 (o.withE q).E0.K0 (o.withE q).E0.B0 (o.withE q).S1.h0 (o.withE q).S1.h1 (o.withE q).S1.sel (o.withE q).Z0 (o.withE q).P0 (o.withE q).A0 (o.withE q).L3 (o.withE q).Z2 (o.withE q).F4 (o.withE q).J4 (o.withE q).X3 (o.withE q).F3=_;unfold Gk;simp only[W<|Z_ _];rfl) l.length 0 [] ω σ
 have h':=AA h.1 ω;rw[Mk _,Pp (λe=>[VR b e]) noE l 0 l.length ω,Bbv]at h';rw[show o.tup=(o.withE []).tup by unfold Mch.withE Mch.tup;rw[F]];exact h'
def Pc(b:Bldg)(m:Img)(s:Sto):Mch×Int:=bif WW b m&&decide (s.ok b.J0)then(Ank b m s,0)else(Mch.none,1)
def Adc(hb:b.small)(m:Img)(hf:m.fit)(hc:b.A0.length<=1000)(s:Sto):LH b.C0 b.F0 b.J0 b.L0 b.I0 b.M0 b.O0 b.A0 m.G0 m.R0 m.K0 m.B0 s.h0 s.h1 s.sel=E (((),(Pc b m s).2,()),((Pc b m s).1.tup,())):=by
 unfold LH Pc;rw[UO hb m ω hf,GY,Aa7 m hf];simp only[U];cases hq:WW b m with
 |false=>rfl
 |true=>
  have hm:ImgOK b m:=by unfold WW at hq;rw[b_]at hq;exact Img.ok_iff.1 hq.1
  by_cases hs:s.ok b.J0
  .rw[J hs];have e:=hf.e
   let o:Mch:=⟨m,s,aE b.A0.length An,[],aE b.A0.length Aj,aE b.A0.length Ac3,[],aE b.A0.length Ahr,0,0,0⟩
   have j:=Apl b hc m Mch.none o rfl;have g:=Apm b e (λx q=>(Fy.1<|hm.en x q).2.1.2) Mch.none (o.withB<|aE b.A0.length VX) rfl;simp only[Mch.tup,Img.tup,Bldg.tup,Mch.none,Img.none,Sto.no,noB,o]at j g;have dl:∀n:Nat,n<=1000->(aH ((0:Int)<=(n:Int))&&decide (n<=(n:Int))&&decide (n<=(2147483648:Int)))=C:=λn u=>by rw[ J<|e1_ _,J (ω:(n:Int)<=2147483648)];rfl
   simp only[ dl _ hc,l_,Img.tup];rw[show Debounced.mk 0 B B B B 0 0 0 0 0 0 0 0 0 0 0 0 0 0 0 0 0 0 0 0 0 0 0 0 0 0 0 0 0 0 0 0 0 0 0 0=An from rfl,show NewCar.mk 0 0 0 0 0 B 0 0 0 0 0 0 0 B=Aj from rfl,show Loaded.mk 0=Ac3 from rfl,show Calls.mk 0 0=Ahr from rfl];rw[j];simp only[U];rw[g];rfl
  .rw[W hs];rfl
def MC(b:Bldg)(s:Sto)(bud:Int):Mch×Int×Int:=
 bif(DM b s bud).2.2.2 !=0 then({ Mch.none with S1:=(DM b s bud).1 },0,(DM b s bud).2.2.2)
 else bif(Pc b (DM b s bud).2.1 (DM b s bud).1).2 !=0 then(Mch.none,0,(Pc b (DM b s bud).2.1 (DM b s bud).1).2)
 else((Pc b (DM b s bud).2.1 (DM b s bud).1).1,(DM b s bud).2.2.1,0)
def Bf4(hcode:b.code=0)(s:Sto)(hs:s.cur.size<=500000)(bud:Int):(DM b s bud).2.1.fit:=by
 obtain⟨_,_,hf⟩:=Ajn hcode s hs;unfold DM;cases(FW b s _ bud).2.2 !=0 with
 |true=>exact⟨W_ _,W_ _,W_ _,W_ _⟩
 |false=>exact hf
def Afl(hb:b.small)(hcode:b.code=0)(s:Sto)(hs:s.cur.size<=500000)(g:bud<9223372036854775808):JU b.C0 b.F0 b.J0 b.L0 b.I0 b.M0 b.O0 b.A0 s.h0 s.h1 s.sel bud=E (((),(MC b s bud).2.1,(MC b s bud).2.2,()),((MC b s bud).1.tup,())):=by
 have hc:=Ah hcode;unfold JU MC;rw[Ahj hb hcode s hs g];have hf:=Bf4 hcode s hs bud;simp only[U,Ayz,Img.tup];generalize DM b s bud=w at hf|-;cases w.2.2.2 !=0 with
 |true=>rfl
 |false=>rw[Adc hb w.2.1 hf ω w.1];simp only[U];generalize Pc b w.2.1 w.1=f;cases f.2 !=0<;>rfl
def Kl(b:Bldg):Mch×Int:=bif b.code==0 then((MC b Sto.no 1048576).1,(MC b Sto.no 1048576).2.2)else(Mch.none,1)
def Add(hb:b.small)(hcode:b.code=0):LI b.C0 b.F0 b.J0 b.L0 b.I0 b.M0 b.O0 b.A0=E (((),(Kl b).2,()),((Kl b).1.tup,())):=by unfold LI Kl;rw[Az,hcode];rw[show JU b.C0 b.F0 b.J0 b.L0 b.I0 b.M0 b.O0 b.A0 (aJ _) (aJ _) 0 1048576=_ from Afl hb hcode Sto.no τ ω];rfl
def Arr:∀{l:List Nat}{a n:Nat},l.Pairwise (· < ·)->(∀x∈l,a<=x/\x<n)->l.length+a<=n\/l=[]
 |[],_,_,_,_=>.inr rfl
 |x::t,a,n,h,j=>by
  left;obtain⟨h1,o⟩:=f6_.1 h;have u:=j x<|C_ ..;rcases Arr o (λy g=>⟨h1 y g,(j y<|F_ _ g).2⟩)with q|q
  .rw[D_];omega
  .subst q;simp;omega
def Bfd(hb:b.small)(hm:ImgOK b m):(m.B0.length:Int)<=2*(b.C0-1):=by
 have lo:=hb.lo
 let ix:Int×Int->Nat:=λp=>if p.1=0 then 0 else if p.1=b.C0-1 then(2*b.C0-3).toNat else(2*p.1+p.2-2).toNat
 have g:∀p∈m.B0.map Ih,(p.2=1/\0<=p.1/\p.1<=b.C0-2)\/(p.2=2/\1<=p.1/\p.1<=b.C0-1):=λp hp=>by obtain⟨e,u,rfl⟩:=b6_.1 hp;have h1:=(Fy.1<|hm.en e u).1;unfold Aq Qz at h1;simp only[b_,O_,I_,Ak]at h1;show(e.H0=1/\0<=e.D0/\e.D0<=b.C0-2)\/(e.H0=2/\1<=e.D0/\e.D0<=b.C0-1);omega
 have hp:((m.B0.map Ih).map ix).Pairwise (· < ·):=by rw[List.pairwise_map];refine List.Pairwise.imp_of_mem (λ{p q} hp hq h=>?_) hm.so;have j:=g p hp;have v:=g q hq;unfold ltC at h;simp only[ix];split<;>split<;>(try split)<;>(try split)<;>omega
 rcases Arr (n:=(2*b.C0-2).toNat) hp (λx o=>by
  obtain⟨p,hp,rfl⟩:=b6_.1 o;have j:=g p hp;refine⟨W_ _,?_⟩;simp only[ix];split
  .omega
  .split<;>omega)with q|q
 .rw[d3_,d3_]at q;omega
 .have:=b5_ List.length q
  rw[d3_,d3_,b7_]at this;omega
def Aro(hm:ImgOK b m)(g:18*((b.A0.length:Int)+(m.B0.length:Int))+6<=b.J0):WW b m=C:=by unfold WW;rw[Img.ok_iff.2 hm,J g];rfl
def Acj(hm:ImgOK b m)(g:18*((b.A0.length:Int)+(m.B0.length:Int))+6<=b.J0){s:Sto}(hs:s.ok b.J0):Pc b m s=(Ank b m s,0):=by unfold Pc;rw[Aro hm g,J hs];rfl
def Aq7(z:b.small){s:Sto}(hs:s.ok b.J0)(hm:ImgOK b m)(g:EJ b s=m)(j:18*((b.A0.length:Int)+(m.B0.length:Int))+6<=b.J0)(u:0<=bud):
  (2+18*((b.A0.length:Int)+(m.B0.length:Int))<=bud/\MC b s bud=(Ank b m { s.set (1-s.sel) (txt<|(FZ m).flatMap DE)with sel:=1-s.sel },bud-(2+18*((b.A0.length:Int)+(m.B0.length:Int))),0)/\Jst b { s.set (1-s.sel) (txt<|(FZ m).flatMap DE)with sel:=1-s.sel } m)\/
  (bud<2+18*((b.A0.length:Int)+(m.B0.length:Int))/\∃s',MC b s bud=({ Mch.none with S1:=s' },0,8)/\s'.ok b.J0/\EJ b s'=m):=by
 have o:=UQ hs;unfold MC DM;rw[g];rcases WD hs hm u ω with⟨q,v⟩|⟨q,s',v,y,A⟩
 .left;have w:Jst b { s.set (1-s.sel) (txt<|(FZ m).flatMap DE)with sel:=1-s.sel } m:=by
   refine⟨Ay5 (TP hs ?_) ω,hm,⟨FZ m,?_,XH hm,Aft hm⟩,j⟩
   .rw[Qo,Adk hm];omega
   .rw[Aee o,Lh]
  rw[v];refine⟨q,?_,w⟩;simp only[Q_,V];rw[Acj hm j w.ok];rfl
 .right;rw[v];refine⟨q,s',rfl,y,?_⟩;rw[<-g];unfold EJ;rw[A]
end Go.Ovl
namespace Go.Ovl
open Go Go.Ab
variable{fl n e f c:Int}{b:Bldg}{x:aF}{d:Bool}
def NW{X Y:Type}{step:X->Option (Sum X Y)}{N:Nat}(o:N<=100000)(g:Nat->X){y:Y}(h1:∀i,i<N->step (g i)=E (.inl<|g<|i+1))(j:step (g N)=E (.inr y)):BM step DF (g 0)=E y:=AA (Anw N g y h1 j N 0<|n_ N) ω
def TZ{i n:Nat}(g:n<=100000)(h:i<n):O.wrap ((i:Int)+1)=((i+1:Nat):Int):=by rw[Aa ω ω];omega
def Uh{p:Nat->Bool}:∀m i:Nat,(∀k,i<=k->k<i+m->p k=C)->Yp p m i=C
 |0,_,_=>rfl
 |m+1,i,h=>by simp only[Yp];rw[h i (t_ _) ω];exact Uh m (i+1) λk h1 g=>h k ω ω
def Th{p:Nat->Bool}:∀m i:Nat,Yp p m i=C->∀k,i<=k->k<i+m->p k=C
 |0,_,_,k,h1,j=>by omega
 |m+1,i,h,k,h1,j=>by
  simp only[Yp,b_]at h;rcases f5_ i k with g|g
  .exact Th m (i+1) h.2 k ω ω
  .obtain rfl:k=i:=ω;exact h.1
def RV{xs:List Int}(hl:xs.length<=100000)(h:∀x∈xs,0<=x/\x<=1000000):Ib xs=E ((C,()),()):=by
 have l:CA ((xs,(),xs.length,0,()),())=E (.inl ((),())):=NW hl (λi=>((xs,(),(xs.length:Int),(i:Int),()),())) (λi g=>by
  have j:=h _<|Av 0 g;have e:Jb (xs.getD i 0)=E ((B,()),()):=by unfold Jb;rw[W ω,W ω];rfl
  simp only[lp,Un.u,CC,Zi g,NN g,TZ hl g,l_,e,Z,V,U]) (by simp only[lp,Un.u,CC,UD,V])
 unfold Ib Cq CK;rw[l];rfl
def YD(x:aS):List Int:=[x.R5,x.S5,x.T5,x.U5,x.V5,x.W5,x.X5,x.Y5,x.Z5,x.A6,x.N4,x.O4,x.P4,x.R4,x.S4,x.T4,x.U4,x.V4,x.W4,x.X4,x.Y4,x.Z4,x.A5,x.B5,x.C5,x.E5,x.F5,x.G5,x.H5,x.I5,x.J5,x.K5,x.L5,x.M5,x.N5,x.O5]
def Amp(n:Int)(x:aS)(i:Nat):Bool:=decide (0<=(YD x).getD i 0)&&decide ((YD x).getD i 0<n)
def Um(n:Int)(x:aS):Bool:=decide (1<=n)&&(aH (n<=16)&&Yp (Amp n x) 36 0)
def YH{x:aS}(h:Um n x=C):EN n x.H1 x.T2 x.G2 x.H2 x.U1 x.R5 x.S5 x.T5 x.U5 x.V5 x.W5 x.X5 x.Y5 x.Z5 x.A6 x.N4 x.O4 x.P4 x.R4 x.S4 x.T4 x.U4 x.V4 x.W4 x.X4 x.Y4 x.Z4 x.A5 x.B5 x.C5 x.E5 x.F5 x.G5 x.H5 x.I5 x.J5 x.K5 x.L5 x.M5 x.N5 x.O5=E ((C,()),()):=by unfold Um at h;simp only[b_,r_]at h;obtain⟨h1,q,o⟩:=h;have l:Iw ((n,(x.R5,x.S5,x.T5,x.U5,x.V5,x.W5,x.X5,x.Y5,x.Z5,x.A6,x.N4,x.O4,x.P4,x.R4,x.S4,x.T4,x.U4,x.V4,x.W4,x.X4,x.Y4,x.Z4,x.A5,x.B5,x.C5,x.E5,x.F5,x.G5,x.H5,x.I5,x.J5,x.K5,x.L5,x.M5,x.N5,x.O5,()),0,()),())=E _:=NW (N:=36) τ (λi=>((n,(x.R5,x.S5,x.T5,x.U5,x.V5,x.W5,x.X5,x.Y5,x.Z5,x.A6,x.N4,x.O4,x.P4,x.R4,x.S4,x.T4,x.U4,x.V4,x.W4,x.X4,x.Y4,x.Z4,x.A5,x.B5,x.C5,x.E5,x.F5,x.G5,x.H5,x.I5,x.J5,x.K5,x.L5,x.M5,x.N5,x.O5,()),(i:Int),()),())) (λi j=>by have g:=Th 36 0 o i (W_ _) ω;unfold Amp at g;simp only[b_,r_]at g;show Dp n x.R5 x.S5 x.T5 x.U5 x.V5 x.W5 x.X5 x.Y5 x.Z5 x.A6 x.N4 x.O4 x.P4 x.R4 x.S4 x.T4 x.U4 x.V4 x.W4 x.X4 x.Y4 x.Z4 x.A5 x.B5 x.C5 x.E5 x.F5 x.G5 x.H5 x.I5 x.J5 x.K5 x.L5 x.M5 x.N5 x.O5 (i:Int)=_;unfold Dp;simp only[J (ω:(i:Int)<36),NN j,TZ τ j,Z];show(bif decide ((YD x).getD i 0<0)then _ else bif decide (n<=(YD x).getD i 0)then _ else _)=_;rw[W ω,W ω];rfl) (by rfl);unfold EN;rw[W ω,W ω,l];rfl
def UB(a b:Duty):Bool:=decide (a.D0<b.D0)||(a.D0==b.D0&&decide (a.H0<b.H0))
def Aa2{a b:Duty}(h:UB a b=C):∃n:Int,Db a.D0 a.H0 a.U3 b.D0 b.H0 b.U3=E ((n,()),())/\decide (0<=n)=B:=by
 unfold Db;rw[HS,HS];simp only[U];rw[YC];refine⟨_,rfl,?_⟩;unfold UB at h;simp only[O_,b_,r_,I_]at h;unfold WB;rcases h with h|⟨h,h'⟩
 .rw[J h];rfl
 .rw[h,W<|Z_ _,J h'];rfl
def Tn(n lo g:Int):Ee n lo g=E ((inR lo g n,()),()):=by unfold Ee inR;cases decide (lo<=n)<;>rfl
def Aty(x:aN)(i:Nat):Bool:=i==0||UB (x.V0.getD (i-1) Dk) (x.V0.getD i Dk)
def Am4(b:Bldg)(car:Nat)(x:aN)(i:Nat):Bool:=Aq b (x.V0.getD i Dk).D0 (x.V0.getD i Dk).H0&&(inR 0 (FV b car).K1 (x.V0.getD i Dk).U3&&Aty x i)
def Ady(b:Bldg)(car:Nat)(x:aN):Bool:=inR (-1) (b.C0-1) x.D0&&(inR 0 3 x.H0&&(inR 0 3 x.Y0&&(inR 0 1000000 x.I3&&(!(x.Y3&&decide ((0:Int)<(x.V0.length:Int)))&&Yp (Am4 b car x) x.V0.length 0))))
def RS(hb:b.small)(hcode:b.code=0){car:Nat}(g:car<b.A0.length){x:aN}(z:x.V0.length<=100000)(h:Ady b car x=C):Cy b.C0 b.F0 b.J0 b.L0 b.I0 b.M0 b.O0 b.A0 (car:Int) x.D0 x.H0 x.Y0 x.V0 x.I3 x.Y3=E ((C,()),()):=by
 have lo:=hb.lo;have A:=hb.hi;have S:=Ah hcode;unfold Ady at h;simp only[b_]at h;obtain⟨h1,I,R,h4,y,N⟩:=h;have l:Ma _=E (.inl ((),())):=NW z (λi=>(((car:Int),(),(),x.V0,(x.V0.length:Int),(i:Int),()),(b.tup,x.tup,()))) (λi q=>by
  have hp:=Th _ 0 N i (W_ _) ω;unfold Am4 Aty at hp;simp only[b_]at hp;obtain⟨w,v,L⟩:=hp;show Jg _ x.V0 _ _ b.C0 b.F0 b.J0 b.L0 b.I0 b.M0 b.O0 b.A0 x.D0 x.H0 x.Y0 x.V0 x.I3 x.Y3=_;unfold Jg;have v:inR 0 (b.A0.getD car _).K1 (x.V0.getD i<|aP 0 0 0).U3=C:=v;have w:Aq b (x.V0.getD i<|aP 0 0 0).D0 (x.V0.getD i<|aP 0 0 0).H0=C:=w;simp only[Zi q,NN q,NN g,l_,Mf hb,Tn,U,w,v,a8_,V];cases i with
  |zero=>rfl
  |succ j=>rw[J ω,Aa ω ω,show _-1=(j:Int)by omega,NN ω];obtain⟨n,F,D⟩:=Aa2 L;simp only[Z,l_];rw[show Db (x.V0.getD j<|aP 0 0 0).D0 (x.V0.getD j<|aP 0 0 0).H0 (x.V0.getD j<|aP 0 0 0).U3 (x.V0.getD (j+1)<|aP 0 0 0).D0 (x.V0.getD (j+1)<|aP 0 0 0).H0 (x.V0.getD (j+1)<|aP 0 0 0).U3=_ from F];simp only[U,D,TZ z q];rfl) (by
  simp only[lp,Un.u,Jg,UD,V])
 have r:(bif x.Y3 then decide (0<(x.V0.length:Int))else B)=B:=by
  cases o:x.Y3 with
  |false=>rfl
  |true=>rw[o]at y;simpa using y
 unfold Cy;rw[Az,hcode];simp only[Tn,Aa (n:=b.A0.length-1) ω ω,Aa (n:=b.C0-1) ω ω,show inR 0 (b.A0.length-1) car=C from Ak.2 ⟨ω,ω⟩,h1,I,R,h4];cases o:x.Y3 with
 |false=>rw[Belief.tup,o]at l;exact Ae rfl<|Ae l rfl
 |true=>rw[o]at r;rw[Belief.tup,o]at l;have r:decide _=B:=r;rw[ r];exact Ae rfl<|Ae l rfl
def Qn(x:aF):Bool:=inR 0 2 x.X1&&inR 0 7 x.L1
def Sn(x:aF):Bool:=(x.U0==0)&&((x.I1==0)&&((x.J1==0)&&((x.N1==B)&&((x.G1==0)&&C))))
def Rk(x:aF):Bool:=bif x.U0==0 then Sn x else inR 0 3 x.U0&&(inR 0 1000000 x.I1&&(inR 0 1000000 x.J1&&inR 0 1000000 x.G1))
def Ac2(x:aF):Bool:=(x.N0==0)&&((x.W0==0)&&((x.S0==0)&&C))
def UF(fl:Int)(x:aF):Bool:=inR 0 1000000 x.W0&&(bif x.N0==0 then x.S0==0 else bif x.N0==1 then inR 0 (fl-1) x.S0&&inR 0 (fl-1) (x.S0+1)else bif x.N0==2 then inR 0 (fl-1) x.S0&&inR 0 (fl-1) (x.S0-1)else B)
def Agt(x:aF):Bool:=(x.X1==0)&&((x.L1==0)&&((x.U0==0)&&((x.I1==0)&&((x.J1==0)&&((x.N1==B)&&((x.G1==0)&&((x.N0==0)&&((x.W0==0)&&((x.S0==0)&&((x.N2==0)&&((x.D3==0)&&((x.O3==0)&&((x.K2==C)&&C)))))))))))))
def Afk(fl:Int)(x:aF):Bool:=(aR x.N2 ((2:Int)^(aB fl))==0)&&(inR 0 2 x.D3&&inR 0 1000000 x.O3)
def Ah6(fl:Int)(x:aF):Bool:=Qn x&&(Rk x&&(UF fl x&&((Sn x||Ac2 x)&&Afk fl x)))
def GP(b:Bldg)(x:aF):Bool:=bif x.K2 then Agt x else Ah6 b.C0 x
def Ep(x:aF):Bm x.X1 x.L1=E ((Qn x,()),()):=by unfold Bm Qn inR;cases decide (0<=x.X1)<;>cases decide (x.X1<=2)<;>cases decide (0<=x.L1)<;>rfl
def Aeg(n:Int):HJ n=E ((inR 0 1000000 n,()),()):=by unfold HJ inR;cases decide (0<=n)<;>rfl
def OX(x:aF):Gs x.U0 x.I1 x.J1 x.N1 x.G1=E ((Rk x,()),()):=by
 unfold Gs Rk Sn;simp only[Aeg];cases x.U0==0 with
 |true=>rfl
 |false=>unfold inR;cases decide (0<=x.U0)<;>cases decide (x.U0<=3)<;>cases(aH (0<=x.I1)&&decide (x.I1<=1000000))<;>cases(aH (0<=x.J1)&&decide (x.J1<=1000000))<;>rfl
def MV(h:2<=fl/\fl<=8)(x:aF):Gu fl x.N0 x.W0 x.S0=E ((UF fl x,()),()):=by
 unfold Gu UF;rw[W ω,W ω];by_cases t:0<=x.W0/\x.W0<=1000000
 .rw[W ω,W ω,show inR 0 1000000 x.W0=C from Ak.2 t];by_cases f:0<=x.S0/\x.S0<fl
  .rw[W ω,W ω,show inR 0 _ x.S0=C from Ak.2 ⟨f.1,ω⟩];by_cases j:x.N0=0
   .rw[j];rfl
   .rw[Ao j];unfold Ef;by_cases c1:x.N0=1
    .rw[c1];simp only[Q_,V,U,Z];rw[show List.getD [0,1,-1] _ 0=1 from rfl,Aa ω ω];unfold inR;by_cases z:x.S0+1<fl
     .rw[J z,J ω,J ω];rfl
     .rw[W z,J ω,W ω];rfl
    .rw[FT c1,Ao c1];by_cases g:x.N0=2
     .rw[g];simp only[ V,U,Z];rw[show List.getD [0,1,-1] _ 0=-1 from rfl,Aa ω ω,show x.S0+ -1=x.S0-1 by omega];unfold inR;by_cases z:0<=x.S0-1
      .rw[J z,J ω,J ω];rfl
      .rw[W z];rfl
     .rw[FT g,Ao g];rfl
  .have hf:inR 0 (fl-1) x.S0=B:=by
    cases hq:inR 0 _ x.S0 with
    |false=>rfl
    |true=>have:=Ak.1 hq;omega
   rw[hf];have o:(x.S0==0)=B:=Ao ω;rw[o];simp only[e6_];have e:(bif x.N0==0 then B else bif x.N0==1 then B else bif x.N0==2 then B else B)=B:=by cases x.N0==0<;>cases x.N0==1<;>cases x.N0==2<;>rfl
   rw[e];by_cases z:x.S0<0
   .rw[J z];rfl
   .rw[W z,J ω];rfl
 .have hf:inR 0 1000000 x.W0=B:=by
   cases hq:inR 0 1000000 x.W0 with
   |false=>rfl
   |true=>exact absurd (Ak.1 hq) t
  rw[hf];by_cases z:x.W0<0
  .rw[J z];rfl
  .rw[W z,J ω];rfl
def JK(hb:b.small)(hcode:b.code=0)(x:aF):Fm b.C0 b.F0 b.J0 b.L0 b.I0 b.M0 b.O0 b.A0 x.X1 x.L1 x.U0 x.I1 x.J1 x.N1 x.G1 x.N0 x.W0 x.S0 x.N2 x.D3 x.O3 x.K2=E ((GP b x,()),()):=by
 have lo:=hb.lo;have q:=hb.hi;have g:aQ _ (IntKind.bits aD)=aB b.C0:=d2_ (by show _<=32;omega);unfold Fm GP;rw[Az,hcode];simp only[U,Q_];cases hF:x.K2 with
 |true=>
  have hZ:Agt x=((x.X1==0)&&((x.L1==0)&&((x.U0==0)&&((x.I1==0)&&((x.J1==0)&&((x.N1==B)&&((x.G1==0)&&((x.N0==0)&&((x.W0==0)&&((x.S0==0)&&((x.N2==0)&&((x.D3==0)&&((x.O3==0)&&((C==C)&&C)))))))))))))):=by unfold Agt;rw[hF]
  rw[Z,<-hZ];cases hq:Agt x with
  |false=>rfl
  |true=>
   have j:=hq;unfold Agt at j;simp only[b_,I_]at j;obtain⟨N,e2,A,z,F,I,D,R,e9,w,u,y,v,_⟩:=j;simp only[ U,V,Ep,OX,MV ⟨lo,q⟩];have S:Qn x=C:=by unfold Qn;rw[N,e2];rfl
   have s2:Rk x=C:=by unfold Rk Sn;rw[A,z,F,I,D];rfl
   have L:UF b.C0 x=C:=by unfold UF;rw[R,e9,w];rfl
   rw[S,s2,L,A,z,F,I,D,u,y,v];simp only[q_,g1_,a8_,V,U];rw[J ω,g];rfl
 |false=>
  simp only[U,V,Ep,OX,MV ⟨lo,q⟩];unfold Ah6;cases Qn x with
  |false=>rfl
  |true=>
  cases Rk x with
  |false=>rfl
  |true=>
  cases UF b.C0 x with
  |false=>rfl
  |true=>
   rw[show((x.U0==0)&&((x.I1==0)&&((x.J1==0)&&((x.N1==B)&&((x.G1==0)&&C)))))=Sn x from rfl,show((x.N0==0)&&((x.W0==0)&&((x.S0==0)&&C)))=Ac2 x from rfl];have o:(bif decide (0<=b.C0)then bif(aR x.N2 (2^(aB b.C0))==0)then bif decide (0<=x.D3)then bif decide (x.D3<=2)then bif decide (0<=x.O3)then E ((aH<|x.O3<=1000000,()),())else E ((B,()),())else E ((B,()),())else E ((B,()),())else E ((B,()),())else none)=E ((Afk b.C0 x,()),()):=by rw[J ω];unfold Afk inR;cases aR x.N2 _==0<;>cases decide (0<=x.D3)<;>cases decide (x.D3<=2)<;>cases decide (0<=x.O3)<;>rfl
   cases Sn x with
   |true=>simp only[a8_,V,U,Bool.true_or];rw[g,o];rfl
   |false=>
    cases Ac2 x with
    |true=>simp only[a8_,Bool.not_false,Z,V,U,Bool.false_or];rw[g,o];rfl
    |false=>rfl
def Aa4(hb:b.small)(hcode:b.code=0){l:List aS}(j:l.length=b.A0.length)(h:∀x∈l,Um b.F0 x=C):Bd l (b.A0.length:Int) b.C0 b.F0 b.J0 b.L0 b.I0 b.M0 b.O0 b.A0=E ((C,()),(b.tup,())):=by
 have o:=Ah hcode;have q:BA _=E _:=NW (N:=l.length) ω (λi=>(((),l,(l.length:Int),(i:Int),()),(b.tup,()))) (λi g=>by
  have e:=YH<|h _<|Av An g;show AJ l (l.length:Int) (i:Int) b.C0 b.F0 b.J0 b.L0 b.I0 b.M0 b.O0 b.A0=_;unfold AJ Gx;simp only[Zi g,NN g,TZ ω g,Z];exact Ae (Ae e rfl) rfl) (by
  show AJ l _ _ b.C0 b.F0 b.J0 b.L0 b.I0 b.M0 b.O0 b.A0=_;simp only[lp,Un.u,AJ,UD];rfl)
 unfold Bd;rw[j,Q_,<-j];exact Ae q rfl
def Agz(hb:b.small)(hcode:b.code=0){l:List aN}(j:l.length=b.A0.length)(h:∀i,i<l.length->Ady b i (l.getD i<|Belief.mk 0 0 0 [] 0 B)=C)(v:∀x∈l,x.V0.length<=100000):Bg l (b.A0.length:Int) b.C0 b.F0 b.J0 b.L0 b.I0 b.M0 b.O0 b.A0=E ((C,()),(b.tup,())):=by
 have o:=Ah hcode;have q:BS _=E _:=NW (N:=l.length) ω (λi=>(((),l,(l.length:Int),(i:Int),()),(b.tup,()))) (λi g=>by
  have e:=RS hb hcode ω (v _<|Av _ g)<|h i g;show AN l (l.length:Int) (i:Int) b.C0 b.F0 b.J0 b.L0 b.I0 b.M0 b.O0 b.A0=_;unfold AN Gy;simp only[Zi g,NN g,TZ ω g,Z];exact Ae (Ae e rfl) rfl) (by
  show AN l _ _ b.C0 b.F0 b.J0 b.L0 b.I0 b.M0 b.O0 b.A0=_;simp only[lp,Un.u,AN,UD];rfl)
 unfold Bg;rw[j,Q_,<-j];exact Ae q rfl
def Ag1(hb:b.small)(hcode:b.code=0){l:List aF}(j:l.length=b.A0.length)(h:∀x∈l,GP b x=C):Bh l (b.A0.length:Int) b.C0 b.F0 b.J0 b.L0 b.I0 b.M0 b.O0 b.A0=E ((C,()),(b.tup,())):=by
 have o:=Ah hcode;have q:BT _=E _:=NW (N:=l.length) ω (λi=>(((),l,(l.length:Int),(i:Int),()),(b.tup,()))) (λi g=>by
  have e:=JK hb hcode<|l.getD i Aj;rw[h _<|Av Aj g]at e;show AO l (l.length:Int) (i:Int) b.C0 b.F0 b.J0 b.L0 b.I0 b.M0 b.O0 b.A0=_;unfold AO Gz;simp only[Zi g,NN g,TZ ω g,Z];exact Ae (Ae e rfl) rfl) (by
  show AO l _ _ b.C0 b.F0 b.J0 b.L0 b.I0 b.M0 b.O0 b.A0=_;simp only[lp,Un.u,AO,UD];rfl)
 unfold Bh;rw[j,Q_,<-j];exact Ae q rfl
def Ag0{l:List Loaded}(hl:l.length<=100000)(o:(l.length:Int)=n)(h:∀x∈l,0<=x.B6/\x.B6<=4):BD l n=E ((C,()),()):=by
 have q:CF _=E (.inl ((),())):=NW hl (λi=>(((),l,(l.length:Int),(i:Int),()),())) (λi g=>by
  have j:=h _<|Av (Loaded.mk 0) g;have e:Hh i (l.getD i<|Loaded.mk 0).B6=E ((C,()),()):=by unfold Hh;rw[J j.1,J j.2];rfl
  simp only[lp,Un.u,CG,Zi g,NN g,TZ hl g,Z];exact Ae e rfl) (by simp only[lp,Un.u,CG,UD,V])
 unfold BD;rw[o,Q_,<-o];exact Ae q rfl
def Amq(h:b.code=0):1<=b.F0/\b.F0<=16:=by
 unfold Bldg.code at h;cases h1:inR 2 32 b.C0<;>rw[h1]at h
 .cases h
 cases j:inR 1 8 _<;>rw[j]at h
 .cases h
 cases g:inR 1 16 b.F0<;>rw[g]at h
 .cases h
 exact Ak.1 g
def Avu{c:Car}(h:BQ fl c=C):0<=c.K1/\c.K1<=1000000:=by
 unfold BQ at h;rw[b_,G_]at h
 have:=Ak.1<|h.1 c.K1<|C_ ..
 omega
def YE(h:b.code=0){c:Car}(hc:c∈b.A0):0<=c.K1/\c.K1<=1000000:=by
 unfold Bldg.code at h;cases h1:inR 2 32 b.C0<;>rw[h1]at h
 .cases h
 cases q:inR 1 8 _<;>rw[q]at h
 .cases h
 cases o:inR 1 16 b.F0<;>rw[o]at h
 .cases h
 cases j:inR 1 10000 b.L0<;>rw[j]at h
 .cases h
 cases g:b.A0.all _<;>rw[g]at h
 .cases h
 exact Avu<|G_.1 g c hc
def Bb5(h:1<=n/\n<=16):Um n An=C:=by
 unfold Um;rw[J h.1,J h.2,b1_];refine Uh 36 0 λk _ g=>?_;unfold Amp
 have:(YD An).getD k 0=0:=by show(aE 36 _).getD k 0=0;rw[g_,List.getElem?_replicate];split<;>rfl
 rw[this,J (ω:_<n)];rfl
def FB(n:Int):0<=aD.wrap n/\aD.wrap n<4294967296:=by simp only[aC,IntKind.bits];simp;exact⟨f2_ _ τ,f1_ _ τ⟩
def TX(n:Int):0<=aM.wrap n/\aM.wrap n<256:=by simp only[aC,IntKind.bits];simp;exact⟨f2_ _ τ,f1_ _ τ⟩
def Ah7(n:Int):Sat (DW n) λy=>0<=y.1.1/\y.1.1<=32:=by
 refine Sat.bic (λ_=>Sat.ret τ) λ_=>Sat.bifT (Ac ?_ ?_)<|Sat.ret ?_
 .rw[H_ _ τ];exact Int.ediv_nonneg (FB _).1 τ
 .rw[H_ _ τ];refine Int.ediv_lt_of_lt_mul τ ?_;exact(FB _).2
 .have h:∀(l:List Int) k,(∀x∈l,0<=x/\x<=32)->0<=O.wrap (l.getD k 0)/\O.wrap _<=32:=λl k h=>by
   have:0<=l.getD k 0/\l.getD k 0<=32:=by
    by_cases g:k<l.length
    .rw[g_,h_ g];exact h _<|R_ g
    .rw[g_,List.getElem?_eq_none ω];decide
   rw[Aa ω ω];exact this
  exact h _ _ τ
instance tz_ti(n:Int):SatT (DW n):=⟨(Ah7 n).any⟩
def Aig(s:ByteArray)(i:Nat):0<=BJ s i/\BJ s i<=255:=by
 unfold BJ
 have:=(s.data.getD i 0).toNat_lt
 omega
def Alf(n:Int):Sat (HV n) λy=>0<=y.1.1/\y.1.1<=300:=by
 refine Sat.bindS (Q:=λy=>y.1.2.1=0\/y.1.2.1=16) (Sat.bic (λ_=>Sat.ret<|.inr rfl) λ_=>Sat.ret<|.inl rfl) λj h1=>Sat.bindS (Q:=λy=>0<=y.1.2.1/\y.1.2.1<=24) (Sat.bic (λ_=>Sat.ret ?_) λ_=>Sat.ret ?_) λg o=>?_
 .show 0<=O.wrap _/\O.wrap _<=24;rw[Aa ω ω];omega
 .show 0<=j.1.2.1/\j.1.2.1<=24;omega
 refine Sat.bifT (Ac (TX _).1 (TX _).2)<|Sat.ret ?_;have h:∀s i,0<=O.wrap (g.1.2.1+O.wrap _)/\O.wrap (g.1.2.1+O.wrap _)<=300:=λs i=>by
  have:=Aig s i
  rw[Aa (n:=BJ s i) ω ω,Aa ω ω];omega
 exact h _ _
instance len_ti(n:Int):SatT (HV n):=⟨(Alf n).any⟩
def Amh(a b c d:Int):Sat (DN a b c d) λ_=>True:=⟨_,ED (a,b) (c,d),trivial⟩
def QB(a b:Int){F D:Int}(j:0<=F/\F<32)(g:D=1\/D=2):Sat (EC a b F D) λ_=>True:=⟨_,Ii (a,b) j g,trivial⟩
def Bkc(fl d o f a b c:Int)(h:0<=fl)(hf:0<=f/\f<32):Sat (EM fl d o f a b c) λy=>y.2.1.2.2.2.2.2.1=o:=by have g:=J hf.1;refine Sat.bifT (J h) (Sat.bindS (Amh ..) λu _=>Sat.bifT g (Sat.bindS (QB _ _ hf<|.inl rfl) λq _=>Sat.bindS (QB _ _ hf<|.inr rfl) λv _=>?_));refine Sat.bindS (Q:=λy=>y.1.1=f/\y.2.2.1.2.2.2.2.2.1=o) (Sat.bifT g (Sat.bic (λ_=>Sat.bindS (Ah7 _) λ_ _=>Sat.ret ⟨rfl,rfl⟩) λ_=>Sat.ret ⟨rfl,rfl⟩)) λw j=>?_;refine Sat.bifT (J (by rw[j.1];exact hf.1)) (Sat.bic (λ_=>Sat.bindS (Alf _) λ_ _=>Sat.ret j.2) λ_=>Sat.ret j.2)
def Azl(a b c:Bool)(d e o:Int):Sat (Df a b c d e o) λy=>y.2.1.2.2.2.2.2.1=o\/y.2.1.2.2.2.2.2.1=0:=by
 refine Sat.bindS (Q:=λy=>y.2.1.2.2.2.2.2.1=o) ?_ λq h1=>?_
 .refine Sat.bic (λ_=>?_) λ_=>?_<;>exact Sat.bic (λ_=>Sat.bic (λ_=>Sat.ret rfl) λ_=>Sat.ret rfl) λ_=>Sat.bic (λ_=>Sat.ret rfl) λ_=>Sat.ret rfl
 refine Sat.bindS (Q:=λy=>y.2.2.1.2.2.2.2.2.1=o) ?_ λj g=>?_
 .refine Sat.bic (λ_=>?_) λ_=>?_<;>exact Sat.bic (λ_=>Sat.bic (λ_=>Sat.ret h1) λ_=>Sat.ret h1) λ_=>Sat.bic (λ_=>Sat.ret h1) λ_=>Sat.ret h1
 exact Sat.bic (λ_=>Sat.ret<|.inl g) λ_=>Sat.bic (λ_=>Sat.ret<|.inl g) λ_=>Sat.bic (λ_=>Sat.ret<|.inl g) λ_=>Sat.bic (λ_=>Sat.ret<|.inl g) λ_=>Sat.bic (λ_=>Sat.ret<|.inl g) λ_=>Sat.ret<|.inr rfl
def dir2(n:Int):Prop:=0<=n/\n<=2
def dir2.zero:dir2 0:=⟨τ,τ⟩
def dir2.one:dir2 1:=⟨τ,τ⟩
def dir2.two:dir2 2:=⟨τ,τ⟩
def Bb0(a b c:Bool)(d e o:Int):Sat (Ev a b c d e o) λy=>dir2 y.1.1:=by refine Sat.bindS (Q:=λ_=>True) Sat.go λg _=>?_;exact Sat.bic (λ_=>Sat.ret dir2.one) λ_=>Sat.bic (λ_=>Sat.ret dir2.two) λ_=>Sat.ret dir2.zero
def chP(y:(Unit×Unit)×((Int×Int×Int×Unit)×Unit)):Prop:=dir2 y.2.1.2.1/\dir2 y.2.1.2.2.1
def Aat(c:Bool)(a:Int){s:Int}(o:Bool)(b:Int)(hf:dir2 f)(hs:dir2 s):Sat (Fu f c a s o b) λy=>dir2 y.1.1:=by exact Sat.bic (λ_=>Sat.ret hf) λ_=>Sat.bic (λ_=>Sat.ret hf) λ_=>Sat.bic (λ_=>Sat.ret hs) λ_=>Sat.bic (λ_=>Sat.ret hs) λ_=>Sat.ret dir2.zero
def VY(h:dir2 n):Sat (BL n) chP:=Sat.ret ⟨h,h⟩
def Ay1(a b c:Bool)(d e o:Int):Sat (Dd a b c d e o) chP:=by refine Sat.bindS (Bb0 ..) λy h=>?_;refine Sat.bic (λ_=>Sat.bindS (VY dir2.one) λ_ h=>Sat.ret h) λ_=>Sat.bic (λ_=>Sat.bindS (VY dir2.two) λ_ h=>Sat.ret h) λ_=>Sat.bic (λ_=>Sat.bindS (VY h) λ_ h=>Sat.ret h) λ_=>?_;exact Sat.bic (λ_=>Sat.ret ⟨h,dir2.zero⟩) λ_=>Sat.bic (λ_=>Sat.ret ⟨h,dir2.zero⟩) λ_=>Sat.ret ⟨dir2.zero,dir2.zero⟩
def Aiw(a b c:Bool)(d e o:Int):Sat (Cj a b c d e o) chP:=by refine Sat.bindS (Q:=λ_=>True) Sat.go λg _=>?_;refine Sat.bic (λ_=>Sat.bindS (Aat _ _ _ _ dir2.two dir2.one) λ_ h=>Sat.bindS (VY h) λ_ h=>Sat.ret h) λ_=>Sat.bic (λ_=>Sat.ret ⟨dir2.two,dir2.zero⟩) λ_=>?_;exact Sat.bic (λ_=>Sat.bindS (VY dir2.one) λ_ h=>Sat.ret h) λ_=>Sat.bic (λ_=>Sat.ret ⟨dir2.one,dir2.zero⟩) λ_=>Sat.ret ⟨dir2.zero,dir2.zero⟩
def Bcm(a b c:Bool)(d e o:Int):Sat (Dt a b c d e o) chP:=by refine Sat.bindS (Q:=λ_=>True) Sat.go λg _=>?_;refine Sat.bic (λ_=>Sat.bindS (Aat _ _ _ _ dir2.one dir2.two) λ_ h=>Sat.bindS (VY h) λ_ h=>Sat.ret h) λ_=>Sat.bic (λ_=>Sat.ret ⟨dir2.one,dir2.zero⟩) λ_=>?_;exact Sat.bindS (Aiw ..) λ_ h=>Sat.ret h
def Amn{w o:Int}(a b c:Int)(h:0<=fl)(hf:0<=f/\f<32)(j:dir2 w):Sat (Cc fl w o f a b c) λy=>chP ((((),()),y.2))/\(y.1.2.1=o\/y.1.2.1=0):=by
 refine Sat.bindS (Bkc _ _ _ _ _ _ _ h hf) λI h1=>Sat.bindS (Azl ..) λA g=>?_;rw[h1]at g;refine Sat.bindS ?_ λL z=>Sat.ret z;refine Sat.bifT (Ac j.1 (by have:=j.2;omega)) ?_;refine Sat.bic (λ_=>Sat.bindS (Ay1 ..) λ_ h=>Sat.ret ⟨h,g⟩) λu=>Sat.bic (λ_=>Sat.bindS (Bcm ..) λ_ h=>Sat.ret ⟨h,g⟩) λv=>?_;have e:Nat.beq (aB w) 2=C:=by
  have D:¬aB w=0:=λq=>by rw[q]at u;cases u
  have F:¬aB w=1:=λq=>by rw[q]at v;cases v
  have:aB w=2:=by have:=j.1;have:=j.2;omega
  rw[this];rfl
 exact Sat.bifT e (Sat.bindS (Aiw ..) λ_ h=>Sat.ret ⟨h,g⟩)
def S2(d o:Int):Prop:=dir2 d/\0<=o/\o<=7
def S2.zero{d:Int}(h:dir2 d):S2 d 0:=⟨h,τ,τ⟩
def Aop(fl w o f:Int):Sat (Do fl w o f) λy=>y.1.1=C->2<=fl/\fl<=32/\0<=f/\f<fl/\S2 w o:=by
 refine Sat.bindS ?_ λy g=>Sat.ret g;refine Sat.bic (λa=>Sat.bic (λb=>Sat.bic (λc=>Sat.bic (λd=>?_) λ_=>Sat.ret λq=>by cases q) λ_=>Sat.ret λq=>by cases q) λ_=>Sat.ret λq=>by cases q) λ_=>Sat.ret λq=>by cases q
 refine Sat.bindE (Ep { Aj with X1:=w,L1:=o }) (Sat.ret λq=>?_);have q:(inR 0 2 w&&inR 0 7 o)=C:=q;rw[b_]at q;exact⟨k_ a,k_ b,k_ c,k_ d,Ak.1 q.1,Ak.1 q.2⟩
def Alq(fl w o f a b c:Int):Sat (Dn fl w o f a b c) chP:=by refine Sat.bindS (Aop ..) λy h=>Sat.bic (λ_=>Sat.ret ⟨dir2.zero,dir2.zero⟩) λq=>?_;obtain⟨h1,v,j,u,g⟩:=h (by simpa using q);exact Sat.bindS (Amn _ _ _ ω ⟨j,ω⟩ g.1) λ_ h=>Sat.ret h.1
def Bcc:∀(o:Fin 8) (s:Fin 3),0<=O.wrap (stk ((o.val:Nat):Int) (aC O<|(1:Int)*((2:Int)^(aQ (aB ((s.val:Nat):Int))<|IntKind.bits O)))<|aL ((aG (IntKind.bits O) ((o.val:Nat):Int))|||(aG (IntKind.bits O)<|aC O<|(1:Int)*((2:Int)^(aQ (aB ((s.val:Nat):Int))<|IntKind.bits O)))))/\O.wrap (stk ((o.val:Nat):Int) (aC O<|(1:Int)*((2:Int)^(aQ (aB ((s.val:Nat):Int))<|IntKind.bits O)))<|aL ((aG (IntKind.bits O) ((o.val:Nat):Int))|||(aG (IntKind.bits O)<|aC O<|(1:Int)*((2:Int)^(aQ (aB ((s.val:Nat):Int))<|IntKind.bits O)))))<=7:=by decide
def Als(fl w o f a b c:Int):Sat (Ea fl w o f a b c) λy=>S2 y.2.1.1 y.2.1.2.1:=by
 refine Sat.bindS (Aop ..) λy h=>Sat.bic (λ_=>Sat.ret<|S2.zero dir2.zero) λq=>?_;obtain⟨h1,I,z,F,u⟩:=h (by simpa using q);refine Sat.bindS (Amn _ _ _ ω ⟨z,ω⟩ u.1) λg h=>?_;refine Sat.bic (λ_=>Sat.ret<|S2.zero h.1.1) λ_=>Sat.bifT (J h.1.2.1)<|Sat.ret ⟨h.1.1,?_⟩;have D:0<=g.1.2.1/\g.1.2.1<8:=by have v:=u.2.1;have A:=u.2.2;rcases h.2 with e|e<;>rw[e]<;>omega
 have hs:dir2 g.2.1.2.2.1:=h.1.2;have j:=Bcc ⟨g.1.2.1.toNat,ω⟩ ⟨g.2.1.2.2.1.toNat,by have:=hs.1;have:=hs.2;omega⟩;rw[show _=g.1.2.1 from a6_ D.1]at j;exact j
def D5(a b c:Int)(d:Bool)(e:Int):Prop:=(a=0/\b=0/\c=0/\d=B/\e=0)\/(0<a/\a<=3/\0<=b/\b<=1000000/\0<=c/\c<=1000000/\0<=e/\e<=1000000)
def D5.zero:D5 0 0 0 B 0:=.inl ⟨rfl,rfl,rfl,rfl,rfl⟩
def D5.at{a:Int}(h:0<a/\a<=3)(hc:0<=c)(g:c<=1000000)(o:0<=e)(j:e<=1000000):D5 a 0 c d e:=.inr ⟨h.1,h.2,e1_ 0,show _<=1000000 from by decide,hc,g,o,j⟩
def CmdR(c:Int):Prop:=(aH (0<=c)&&decide (c<=5))=C
def CmdR.iff:CmdR c↔0<=c/\c<=5:=by unfold CmdR;simp
def dN(a b c:Int)(d:Bool)(e:Int):aF:={ Aj with U0:=a,I1:=b,J1:=c,N1:=d,G1:=e }
def Aef(x:aF):Rk x=C↔D5 x.U0 x.I1 x.J1 x.N1 x.G1:=by
 unfold Rk D5 Sn inR;by_cases g:x.U0=0
 .rw[g];simp
 .rw[Ao g];simp;omega
def Qf(a b c:Int)(d:Bool)(e:Int):∃r,Gs a b c d e=E ((r,()),())/\(r=C↔D5 a b c d e):=⟨_,OX<|dN a b c d e,Aef _⟩
def up1(n:Int):Int:=bif decide (1000000<O.wrap (n+1))then 1000000 else O.wrap (n+1)
def Kn(h:0<=n/\n<=1000000):0<=up1 n/\up1 n<=1000000:=by
 unfold up1;rw[Aa ω ω];by_cases g:1000000<n+1
 .rw[J g,Z];decide
 .rw[W g,V];omega
def Mi(n:Int):Lm n=E ((up1 n,()),()):=rfl
def OY(a b c:Int)(d:Bool)(e:Int):JM a b c d e=E (((),()),((a,b,bif c !=0 then up1 c else c,d,e,()),())):=by unfold JM;cases c !=0<;>rfl
def Aqe{a b:Int}(h:D5 a b c d e):Sat (Qu a b c d e) λy=>letI f:=y.2.1.2;D5 y.2.1.1 f.1 f.2.1 f.2.2.1 f.2.2.2.1:=by
 obtain⟨r,h1,v⟩:=Qf a b c d e;have F:=v.2 h;refine Sat.bindE h1 (Sat.bic (λ_=>Sat.ret h) λ_=>Sat.bic (λ_=>Sat.ret h) λg=>?_);have g:¬a=0:=by simpa using g
 rcases h with h|⟨D,A,q,u,j,o,w,z⟩
 .exact absurd h.1 g
 refine Sat.bindE (OY ..)<|Sat.bindE (Mi _)<|Sat.ret<|.inr ⟨D,A,(Kn ⟨q,u⟩).1,(Kn ⟨q,u⟩).2,?_,?_,w,z⟩
 .cases c !=0 with
  |true=>exact(Kn ⟨j,o⟩).1
  |false=>exact j
 .cases c !=0 with
  |true=>exact(Kn ⟨j,o⟩).2
  |false=>exact o
def Abh(c0 c1 c2 c3 c4 c5 c6 c7 c8 a b c:Int)(d:Bool)(e f:Int)(g h:Bool):Sat (Ll c0 c1 c2 c3 c4 c5 c6 c7 c8 a b c d e f g h) λy=>letI f:=y.2.1.2;D5 y.2.1.1 f.1 f.2.1 f.2.2.1 f.2.2.2.1/\CmdR y.1.2.1:=by
 refine Sat.bindS (Q:=λy=>letI f:=y.2.2.1;D5 f.1 f.2.1 f.2.2.1 f.2.2.2.1 f.2.2.2.2.1) ?_ λy hy=>?_
 .obtain⟨r,h1,h2⟩:=Qf a b c d e;refine Sat.bindE h1 (Sat.bic (λ_=>Sat.ret D5.zero) λk=>Sat.ret<|h2.1 (by simpa using k))
 refine Sat.bic (λ_=>Sat.bic (λ_=>Sat.ret ⟨D5.at τ τ τ τ τ,rfl⟩) λ_=>Sat.ret ⟨hy,rfl⟩) λk=>?_;have k:¬y.2.2.1.1=0:=by simpa using k
 obtain⟨D,F,R,I,N,p6,S,L⟩:=hy.resolve_left λq=>k q.1;have hc:0<=(bif y.2.2.1.2.2.1 !=0 then up1 y.2.2.1.2.2.1 else y.2.2.1.2.2.1)/\(bif y.2.2.1.2.2.1 !=0 then up1 y.2.2.1.2.2.1 else y.2.2.1.2.2.1)<=1000000:=by
  cases y.2.2.1.2.2.1 !=0 with
  |true=>exact Kn ⟨N,p6⟩
  |false=>exact⟨N,p6⟩
 refine Sat.bindE (OY ..) ?_;refine Sat.bindS (Q:=λz=>0<z.2.2.1.1/\z.2.2.1.1<=3/\0<=z.2.2.1.2.1/\z.2.2.1.2.1<=1000000/\0<=z.2.2.1.2.2.1/\z.2.2.1.2.2.1<=1000000/\0<=z.2.2.1.2.2.2.2.1/\z.2.2.1.2.2.2.2.1<=1000000) (Sat.bic (λ_=>Sat.ret ⟨D,F,R,I,hc.1,hc.2,S,L⟩) λ_=>Sat.ret ⟨D,F,R,I,hc.1,hc.2,S,L⟩) λz j=>?_;refine Sat.bic (λ_=>Sat.bindE rfl<|Sat.ret ⟨D5.at (a:=2) τ ?_ ?_ j.2.2.2.2.2.2.1 j.2.2.2.2.2.2.2,rfl⟩) λ_=>?_
 .cases decide (z.2.2.1.2.2.1<1)with
  |true=>exact show _<=1 from by decide
  |false=>exact j.2.2.2.2.1
 .cases decide (z.2.2.1.2.2.1<1)with
  |true=>exact show 1<=1000000 from by decide
  |false=>exact j.2.2.2.2.2.1
 refine Sat.bindS (Q:=λw=>w.2.2.1=z.2.2.1) (Sat.bic (λ_=>Sat.ret rfl) λ_=>Sat.ret rfl) λw A=>?_;refine Sat.bic (λ_=>Sat.ret ⟨D5.zero,rfl⟩) λ_=>?_;refine Sat.bindS (Q:=λv=>v.2.2.1=z.2.2.1) (Sat.bic (λ_=>Sat.bic (λ_=>Sat.ret A) λ_=>Sat.ret A) λ_=>Sat.ret A) λv o=>?_;have stay:∀n:Int,CmdR n->Sat (Ln v.2.2.1.1 v.2.2.1.2.1 v.2.2.1.2.2.1 v.2.2.1.2.2.2.1 v.2.2.1.2.2.2.2.1 n) λy=>letI b:=y.2.1.2;D5 y.2.1.1 b.1 b.2.1 b.2.2.1 b.2.2.2.1/\CmdR y.1.2.1:=λn hn=>by rw[o];exact Sat.bindE (Mi _)<|Sat.ret ⟨.inr ⟨j.1,j.2.1,(Kn ⟨j.2.2.1,j.2.2.2.1⟩).1,(Kn ⟨j.2.2.1,j.2.2.2.1⟩).2,j.2.2.2.2.1,j.2.2.2.2.2.1,j.2.2.2.2.2.2.1,j.2.2.2.2.2.2.2⟩,hn⟩
 refine Sat.bic (λ_=>Sat.bindS (stay 5 rfl) λ_ h=>Sat.ret h) λ_=>?_;refine Sat.bic (λ_=>?_) λ_=>?_
 .rw[o];exact Sat.bindE rfl<|Sat.ret ⟨D5.at (a:=3) τ j.2.2.2.2.1 j.2.2.2.2.2.1 j.2.2.2.2.2.2.1 j.2.2.2.2.2.2.2,rfl⟩
 refine Sat.bic (λ_=>Sat.bindS (stay 3 rfl) λ_ h=>Sat.ret h) λ_=>?_;refine Sat.bic (λ_=>?_) λ_=>?_
 .refine Sat.bindS (Q:=λu=>u.2.1=v.2.2.1) (Sat.bic (λ_=>Sat.ret rfl) λ_=>Sat.ret rfl) λu hu=>?_;rw[hu];refine Sat.bic (λ_=>?_) λ_=>Sat.bindS (stay 0 rfl) λ_ h=>Sat.ret h;rw[o];exact Sat.bindE rfl<|Sat.ret ⟨D5.at (a:=3) τ j.2.2.2.2.1 j.2.2.2.2.2.1 j.2.2.2.2.2.2.1 j.2.2.2.2.2.2.2,rfl⟩
 refine Sat.bic (λ_=>?_) λ_=>Sat.bindS (stay 4 rfl) λ_ h=>Sat.ret h;rw[o];exact Sat.bindE (Mi _)<|Sat.bindE rfl<|Sat.ret ⟨D5.at (a:=1) τ j.2.2.2.2.1 j.2.2.2.2.2.1 (Kn ⟨j.2.2.2.2.2.2.1,j.2.2.2.2.2.2.2⟩).1 (Kn ⟨j.2.2.2.2.2.2.1,j.2.2.2.2.2.2.2⟩).2,rfl⟩
def Aqd(w c1 q o c4 u v g j a b c:Int)(d:Bool)(e:Int):Sat (MW w c1 q o c4 u v g j a b c d e) λ_=>True:=by unfold MW;exact Sat.go
def M3(fl c t f:Int):Prop:=0<=t/\t<=1000000/\((c=0/\f=0)\/(c=1/\0<=f/\f+1<fl)\/(c=2/\0<f/\f<fl))
def M3.zero:M3 fl 0 0 0:=⟨τ,τ,.inl ⟨rfl,rfl⟩⟩
def Ajh(hf:2<=fl)(x:aF):UF fl x=C↔M3 fl x.N0 x.W0 x.S0:=by
 unfold UF M3 inR;by_cases g:x.N0=0
 .rw[g];simp;omega
 by_cases j:x.N0=1
 .rw[j];simp;omega
 by_cases o:x.N0=2
 .rw[o];simp;omega
 .rw[Ao g,Ao j];simp;omega
def mN(c t f:Int):aF:={ Aj with N0:=c,W0:=t,S0:=f }
def TG(h:2<=fl/\fl<=8)(c t f:Int):∃r,Gu fl c t f=E ((r,()),())/\(r=C↔M3 fl c t f):=⟨_,MV h<|mN c t f,Ajh h.1 _⟩
def UG(hf:0<=f/\f<fl)(h:fl<=8):Sat (Ef fl f c) λy=>y.1.2.1=C->(c=1/\0<=f/\f+1<fl)\/(c=2/\0<f/\f<fl):=by
 unfold Ef;by_cases c1:c=1
 .subst c1;refine Sat.bindR<|Sat.bifF rfl<|Sat.bifT rfl (Sat.bindC (λ_=>Sat.bindR (Sat.ret λg=>.inl ⟨rfl,hf.1,?_⟩)) λ_=>Sat.bindR (Sat.ret λg=>by cases g));have g:=k_ g;have e:=Aa (ω:_<=f+1) (ω:f+1<9223372036854775808);exact e▸g
 .rw[FT c1];by_cases o:c=2
  .subst o;have e:=Aa (ω:_<=f+ -1) (ω:f+ -1<9223372036854775808);refine Sat.bindR<|Sat.bifF rfl<|Sat.bifT rfl (Sat.bindC (λj=>Sat.bindR (Sat.ret λg=>.inr ⟨rfl,?_,hf.2⟩)) λ_=>Sat.bindR (Sat.ret λg=>by cases g));have j:=e▸k_ j;omega
  .rw[FT o];exact Sat.bindR<|Sat.bifT rfl (Sat.ret λg=>by cases g)
def Ako{t:Int}(h:M3 fl c t f):Sat (Nw c t f) λy=>M3 fl y.2.1.1 y.2.1.2.1 y.2.1.2.2.1:=by
 refine Sat.bindS (Q:=λy=>y.2.1=(c,t,f,())/\(y.1.2.2.1=C->t<1000000)) ?_ λy j=>?_
 .refine Sat.bic (λ_=>Sat.bic (λ_=>Sat.ret ⟨rfl,λg=>k_ g⟩) λ_=>Sat.ret ⟨rfl,λg=>by cases g⟩) λ_=>?_;exact Sat.bic (λ_=>Sat.bic (λ_=>Sat.ret ⟨rfl,λg=>k_ g⟩) λ_=>Sat.ret ⟨rfl,λg=>by cases g⟩) λ_=>Sat.ret ⟨rfl,λg=>by cases g⟩
 refine Sat.bic (λg=>Sat.ret ?_) λ_=>Sat.ret ?_
 .rw[j.1];have o:=j.2 g
  have:=h.1
  show M3 fl c (aC O<|t+1) f;rw[Aa ω ω];exact⟨ω,ω,h.2.2⟩
 .rw[j.1];exact h
def MZ(y:Int×Int×Int×Unit):Prop:=y=(0,0,0,())
def Akq(h:2<=fl/\fl<=8)(c t f g:Int)(l:Bool)(d:Int)(k:Bool)(w:Int):Sat (La fl c t f g l d k w) λy=>M3 fl y.2.1.1 y.2.1.2.1 y.2.1.2.2.1/\(y.1.2.2.1=C->MZ y.2.1)/\(c=0->w=0->l=C->MZ y.2.1)/\CmdR y.1.2.1:=by
 obtain⟨r,h1,I⟩:=TG h c t f;have j:M3 fl 0 0 0:=M3.zero;refine Sat.bindE h1 (Sat.bic (λ_=>Sat.ret ⟨j,λ_=>rfl,λ_ _ _=>rfl,rfl⟩) λN=>Sat.bic (λ_=>Sat.ret ⟨j,λ_=>rfl,λ_ _ _=>rfl,rfl⟩) λa1=>Sat.bic (λ_=>Sat.ret ⟨j,λ_=>rfl,λ_ _ _=>rfl,rfl⟩) λL=>?_);have hm:=I.1 (by simpa using N);have hg:0<=g/\g<fl:=⟨by have:=o_ a1;omega,by have:=o_ L;omega⟩
 have hf:0<=f/\f<fl:=by rcases hm.2.2 with q|q|q<;>omega
 refine Sat.bindS (UG hf h.2) λz b2=>?_;have nb:c=0->z.1.2.1=B:=λo=>by
  cases q:z.1.2.1 with
  |false=>rfl
  |true=>rcases b2 q with e|e<;>omega
 refine Sat.bindS (Q:=λy=>(y.1.1=fl/\y.1.2.1=w/\y.2.1=(c,t,f,())/\y.2.2.1.1=g)/\y.1.2.2.2.2.2.1=z.1.2.1/\y.2.2.1.2.1=l) ?_ λy3 u=>?_
 .exact Sat.bic (λ_=>Sat.bic (λ_=>Sat.ret ⟨⟨rfl,rfl,rfl,rfl⟩,rfl,rfl⟩) λ_=>Sat.ret ⟨⟨rfl,rfl,rfl,rfl⟩,rfl,rfl⟩) λ_=>Sat.ret ⟨⟨rfl,rfl,rfl,rfl⟩,rfl,rfl⟩
 refine Sat.bic (λ_=>Sat.ret ⟨j,λ_=>rfl,λ_ _ _=>rfl,rfl⟩) λ_=>?_;refine Sat.bindS (Q:=λy=>(y.1.1=fl/\y.1.2.1=w/\y.2.1=(c,t,f,())/\y.2.2.1.1=g)/\(c=0->l=C->y.1.2.2.2.2.2.1=B)) ?_ λy4 h4=>?_
 .refine Sat.bic (λq=>Sat.ret ⟨u.1,λo _=>?_⟩) λ_=>Sat.ret ⟨u.1,λ_ A=>?_⟩
  .rw[u.2.1,nb o]at q;cases q
  .rw[u.2.2,A];rfl
 obtain⟨⟨R,e2,D,F⟩,S⟩:=h4;refine Sat.bic (λq=>Sat.ret ⟨?_,λg=>(by cases g),λo _ A=>?_,?_⟩) λ_=>?_
 .rw[D];exact⟨(Kn ⟨hm.1,hm.2.1⟩).1,(Kn ⟨hm.1,hm.2.1⟩).2,hm.2.2⟩
 .rw[S o A]at q;cases q
 .rw[D];show CmdR c;exact CmdR.iff.2 (by rcases hm.2.2 with q|q|q<;>exact⟨ω,ω⟩)
 rw[R,e2,F];refine Sat.bindS (UG hg h.2) λy5 v=>Sat.bic (λq=>Sat.ret ⟨?_,λg=>(by cases g),λ_ w0 _=>?_,?_⟩) λ_=>Sat.ret ⟨j,λ_=>rfl,λ_ _ _=>rfl,rfl⟩
 .exact⟨show _<=0 from by decide,show 0<=1000000 from by decide,.inr<|v q⟩
 .rcases v q with e|e<;>omega
 .show CmdR w;exact CmdR.iff.2 (by rcases v q with e|e<;>exact⟨ω,ω⟩)
def Akn(w c1 q o c4 u v g j a b c:Int):Sat (Ry w c1 q o c4 u v g j a b c) λ_=>True:=Sat.ret trivial
def Abq(hcode:b.code=0)(q:Au b.C0 b.F0 b.J0 b.L0 b.I0 b.M0 b.O0 b.A0=E ((b.code,()),()))(car j g:Int):Sat (UZ b.C0 b.F0 b.J0 b.L0 b.I0 b.M0 b.O0 b.A0 car j g) λy=>y.1.1=0\/y.1.1=1\/y.1.1=2:=by refine Sat.bindE q (Sat.bic (λ_=>Sat.ret<|.inl rfl) λ_=>Sat.bic (λ_=>Sat.ret<|.inl rfl) λh1=>Sat.bic (λ_=>Sat.ret<|.inl rfl) λo=>?_);have h1:=o_ h1;have o:=o_ o;refine Sat.bic (λ_=>Sat.ret<|.inl rfl) λ_=>Sat.bic (λ_=>Sat.ret<|.inl rfl) λ_=>Sat.bic (λ_=>Sat.ret<|.inl rfl) λ_=>?_;refine Sat.bifT (Ac ω ω) (Sat.bic (λ_=>Sat.ret<|.inr<|.inl rfl) λ_=>Sat.bic (λ_=>Sat.ret<|.inr<|.inr rfl) λ_=>Sat.ret<|.inl rfl)
def C2(fl n:Int):Prop:=0<=n/\n.toNat<2^fl.toNat
def C2.zero:C2 fl 0:=⟨e1_ 0,Nat.two_pow_pos _⟩
def C2.vb{v:BitVec 32}(h:v.toNat<2^fl.toNat):C2 fl<|vb v:=⟨Int.natCast_nonneg _,h⟩
def C2.bv(h:C2 fl n):(bv n).toNat<2^fl.toNat:=by
 refine f0_ ?_ h.2
 have:=h.1
 show(aG 32 n).toNat<=n.toNat;rw[a4_];omega
def C2.and{x y:Int}(h:C2 fl y):C2 fl<|aC aD<|stk x y<|aL<|aG (IntKind.bits .u32) x&&&aG (IntKind.bits .u32) y:=by rw[SG];refine C2.vb ?_;exact f0_ Nat.and_le_right h.bv
def C2.andNot{x y:Int}(h:C2 fl x):C2 fl<|aC aD<|stk x y<|aL<|aG (IntKind.bits .u32) x&&& ~~~ aG (IntKind.bits .u32) y:=by rw[TY];refine C2.vb ?_;exact f0_ Nat.and_le_left h.bv
def C2.or{x y:Int}(h:C2 fl x)(g:C2 fl y):C2 fl<|aC aD<|stk x y<|aL (aG (IntKind.bits .u32) x|||BitVec.ofInt (IntKind.bits .u32) y):=by rw[Aph];refine C2.vb ?_;exact Nat.or_lt_two_pow h.bv g.bv
def C2.all(h:2<=fl/\fl<=8):C2 fl<|aC aD<|aC aD (1*2^min (aB fl) (IntKind.bits .u32))-1:=by
 unfold C2
 have:fl=2\/fl=3\/fl=4\/fl=5\/fl=6\/fl=7\/fl=8:=ω
 rcases this with e|e|e|e|e|e|e<;>rw[e]<;>decide
def QM:(aR n ((2:Int)^aB fl)==0)=C↔C2 fl n:=by
 have hp:(0:Int)<2^aB fl:=Int.pow_pos τ;have hc:((2^aB fl:Nat):Int)=2^aB fl:=by rfl
 rw[H_ _<|Int.le_of_lt hp,I_];unfold C2;constructor
 .intro h;have h1:=Int.mul_ediv_add_emod n<|2^aB fl;rw[h,Int.mul_zero,Int.zero_add]at h1;have g:=f2_ n<|Int.ne_of_gt hp;have j:=f1_ n hp;rw[h1]at g j;refine⟨g,?_⟩;omega
 .intro h;refine Int.ediv_eq_zero_of_lt h.1 ?_;omega
structure Sx(fl:Int)(x:NewCar):Prop where
 sw:S2 x.X1 x.L1
 dr:D5 x.U0 x.I1 x.J1 x.N1 x.G1
 mt:M3 fl x.N0 x.W0 x.S0
 ca:C2 fl x.N2
 sh:dir2 x.D3
 idle:0<=x.O3/\x.O3<=1000000
 nf:x.K2=false
def Mz(x:aF):Prop:=x.N0=0/\x.W0=0/\x.S0=0
def Xq(x:aF):Ac2 x=C↔Mz x:=by unfold Ac2 Mz;simp
def Sy(fl:Int)(x:aF):Prop:=Sx fl x/\(x.U0=0\/Mz x)
def Aip(h:D5 x.U0 x.I1 x.J1 x.N1 x.G1):Sn x=C↔x.U0=0:=by
 unfold Sn;rcases h with⟨h1,q,o,j,g⟩|h
 .rw[h1,q,o,j,g];decide
 .have:¬x.U0=0:=ω
  simp[this]
def SK(hb:b.small)(hf:x.K2=B):GP b x=C↔Sy b.C0 x:=by
 have lo:=hb.lo;unfold GP;rw[hf,V];unfold Ah6 Qn Afk inR;simp only[b_,O_,r_,Aef,Ajh ω,QM,Xq];constructor
 .rintro⟨h1,j,u,g,o,q,v⟩;rw[Aip j]at g;exact⟨⟨⟨h1.1,h1.2⟩,j,u,o,q,v,hf⟩,g⟩
 .rintro⟨h,g⟩;exact⟨⟨h.sw.1,h.sw.2⟩,h.dr,h.mt,g.imp_left (Aip h.dr).2,h.ca,h.sh,h.idle⟩
def D5.one:D5 1 0 0 B 0:=D5.at τ τ τ τ τ
abbrev Agi:=Int×Int×Int×Int×Int×Bool×Int×Int×Int×Int×Int×Int×Int×Bool×Unit
abbrev Ve:=Int×Int×Int×Int×Nat×Nat×Nat×List Car×Int×Int×Int×Int×Int×Int×Bool×Int×Int×Int×Int×Int×Int×Int×Bool×Int×Bool×Int×Bool×Int×Unit
@[reducible] def GH(b:Bldg)(car:Int)(x:aF)(f:Int)(l:Bool)(d:Int)(k:Bool)(c:Int):Ve:=(b.C0,b.F0,b.J0,b.L0,b.I0,b.M0,b.O0,b.A0,car,x.X1,x.L1,x.U0,x.I1,x.J1,x.N1,x.G1,x.N0,x.W0,x.S0,x.N2,x.D3,x.O3,x.K2,f,l,d,k,c,())
section
variable{b:Bldg}(hb:b.small){car f:Int}(hf:0<=f/\f<b.C0){x:aF}(l:Bool)(d:Int)(k:Bool)(c:Int)
include hb
theorem Tt(g:0<=car/\car<b.A0.length):Sat (Bo<|newcar_control.mk b.C0 b.F0 b.J0 b.L0 b.I0 b.M0 b.O0 b.A0 car x.X1 x.L1 x.U0 x.I1 x.J1 x.N1 x.G1 x.N0 x.W0 x.S0 x.N2 x.D3 x.O3 x.K2 f l d k c) λ_=>True:=by exact Sat.bifT (Ac g.1 g.2)<|Sat.ret trivial
include hf
theorem Abg(p:Int)(h:Sx b.C0 x):Sat (Gl p b.C0 b.F0 b.J0 b.L0 b.I0 b.M0 b.O0 b.A0 car x.X1 x.L1 x.U0 x.I1 x.J1 x.N1 x.G1 x.N0 x.W0 x.S0 x.N2 x.D3 x.O3 x.K2 f l d k c) λy=>∃n,y.2.1=GH b car { x with N2:=n } f l d k c/\C2 b.C0 n:=by
 have lo:=hb.lo;have g:=hb.hi;refine Sat.bifT (J ω) ?_;refine Sat.bindS (Q:=λy=>y.2.1=GH b car x f l d k c/\C2 b.C0 y.1.2.1) ?_ λy j=>?_
 .exact Sat.bic (λ_=>Sat.bifT (J hf.1)<|Sat.ret ⟨rfl,(C2.all ⟨ω,g⟩).and.andNot⟩) λ_=>Sat.ret ⟨rfl,(C2.all ⟨ω,g⟩).and⟩
 .obtain⟨u,t,w⟩:=y;obtain⟨e,o⟩:=j;change t=_ at e;subst e;exact Sat.ret ⟨_,rfl,h.ca.or o⟩
omit hf
theorem Aed(w:Int):Sat (AK w b.C0 b.F0 b.J0 b.L0 b.I0 b.M0 b.O0 b.A0 car x.X1 x.L1 x.U0 x.I1 x.J1 x.N1 x.G1 x.N0 x.W0 x.S0 x.N2 x.D3 x.O3 x.K2 f l d k c) λy=>∃o j g u,y.2.1=GH b car { x with N0:=o,W0:=j,S0:=g } f l d k u/\M3 b.C0 o j g/\(y.1.1=C->MZ (o,j,g,()))/\(x.N0=0->w=0->l=C->MZ (o,j,g,()))/\CmdR u:=by have lo:=hb.lo;have v:=hb.hi;exact Sat.bindS (Akq ⟨ω,v⟩ ..) λy q=>Sat.ret ⟨_,_,_,_,rfl,q.1,q.2.1,q.2.2.1,q.2.2.2⟩
omit hb in
theorem Bed{o g j:Int}(x:aF)(h:MZ (o,g,j,())):Mz { x with N0:=o,W0:=g,S0:=j }:=by unfold MZ at h;simp only[b9_]at h;exact⟨h.1,h.2.1,h.2.2.1⟩
theorem Amx(h:Sx b.C0 x)(v:CmdR c):Sat (CR b.C0 b.F0 b.J0 b.L0 b.I0 b.M0 b.O0 b.A0 car x.X1 x.L1 x.U0 x.I1 x.J1 x.N1 x.G1 x.N0 x.W0 x.S0 x.N2 x.D3 x.O3 x.K2 f l d k c) λy=>∃x' j,y.2.1=GH b car x' f l d k j/\Sx b.C0 x'/\x'.U0=x.U0/\(y.1.1=C->Mz x')/\CmdR j:=by
 refine Sat.bindS (Q:=λy=>y.2.1=GH b car x f l d k c/\(y.1.2.1=C->Mz x)) (Sat.bic (λq=>Sat.ret ⟨rfl,λ_=>(Xq x).1 q⟩) λ_=>Sat.ret ⟨rfl,λq=>(by cases q)⟩) ?_;rintro⟨u,t,w⟩ ⟨e,h1⟩;change t=_ at e;subst e;refine Sat.bic (λq=>Sat.ret ⟨x,c,rfl,h,rfl,λ_=>h1 q,v⟩) λ_=>?_;refine Sat.bindS (Q:=λy=>∃x' j,y.2.1=GH b car x' f l d k j/\Sx b.C0 x'/\x'.U0=x.U0/\(y.1.2.2.1=C->Mz x')/\CmdR j) ?_ ?_
 .refine Sat.bindS (Aed hb l d k c 0) ?_;rintro⟨u2,N,w2⟩ ⟨j,F,S,D,e,hm,hs,z,g⟩;change N=_ at e;subst e;have o:Sx b.C0 { x with N0:=j,W0:=F,S0:=S }:=⟨h.sw,h.dr,hm,h.ca,h.sh,h.idle,h.nf⟩
  refine Sat.bic (λq=>Sat.ret ⟨_,D,rfl,o,rfl,λ_=>Bed x<|hs q,g⟩) λ_=>Sat.bic (λq=>Sat.ret ⟨_,D,rfl,o,rfl,λI=>Bed x<|z ?_ rfl I,g⟩) λ_=>Sat.ret ⟨_,D,rfl,o,rfl,λq=>(by cases q),g⟩;simpa using q
 rintro⟨u3,R,w3⟩ ⟨x',j,e,h',A,z,g⟩;change R=_ at e;subst e;refine Sat.bic (λq=>Sat.ret ⟨x',j,rfl,h',A,λ_=>z q,g⟩) λ_=>?_;refine Sat.bindS (Q:=λy=>y.2.1=GH b car x' f l d k j) (Sat.bic (λ_=>Sat.ret rfl) λ_=>Sat.ret rfl) ?_;rintro⟨u4,L,w4⟩ e;change L=_ at e;subst e;exact Sat.bic (λ_=>Sat.ret ⟨{ x' with O3:=0 },j,rfl,⟨h'.sw,h'.dr,h'.mt,h'.ca,h'.sh,⟨e1_ 0,show 0<=1000000 from by decide⟩,h'.nf⟩,A,λq=>(by cases q),g⟩) λ_=>Sat.ret ⟨x',j,rfl,h',A,λq=>(by cases q),g⟩
omit hb in
theorem i00:(0:Int)<=0/\(0:Int)<=1000000:=by decide
include hf
theorem Aqc(q:0<=car/\car<b.A0.length)(h:Sx b.C0 x)(hm:Mz x):Sat (Di b.C0 b.F0 b.J0 b.L0 b.I0 b.M0 b.O0 b.A0 car x.X1 x.L1 x.U0 x.I1 x.J1 x.N1 x.G1 x.N0 x.W0 x.S0 x.N2 x.D3 x.O3 x.K2 f l d k c) λy=>∃x' j,y.2.1=GH b car x' f l d k j/\Sx b.C0 x'/\Mz x'/\CmdR j:=by
 refine Sat.bindS (Tt hb l d k c q) λA _=>Sat.bindS (Abh ..) λg v=>?_;obtain⟨v,o⟩:=v;refine Sat.bindS (Q:=λy=>∃x' j,y.2.1=GH b car x' f l d k j/\Sx b.C0 x'/\Mz x'/\CmdR j) ?_ ?_
 .refine Sat.bic (λ_=>Sat.bifT (J hf.1)<|Sat.ret ⟨{ x with U0:=g.2.1.1,I1:=g.2.1.2.1,J1:=g.2.1.2.2.1,N1:=g.2.1.2.2.2.1,G1:=g.2.1.2.2.2.2.1,N2:=_ },_,rfl,⟨h.sw,v,h.mt,h.ca.andNot,h.sh,h.idle,h.nf⟩,hm,o⟩) λ_=>?_;refine Sat.bic (λ_=>Sat.ret ⟨{ x with U0:=g.2.1.1,I1:=g.2.1.2.1,J1:=g.2.1.2.2.1,N1:=g.2.1.2.2.2.1,G1:=g.2.1.2.2.2.2.1,D3:=0 },_,rfl,⟨h.sw,v,h.mt,h.ca,dir2.zero,h.idle,h.nf⟩,hm,o⟩) λ_=>?_;exact Sat.ret ⟨{ x with U0:=g.2.1.1,I1:=g.2.1.2.1,J1:=g.2.1.2.2.1,N1:=g.2.1.2.2.2.1,G1:=g.2.1.2.2.2.2.1 },_,rfl,⟨h.sw,v,h.mt,h.ca,h.sh,h.idle,h.nf⟩,hm,o⟩
 rintro⟨u,t,w⟩ ⟨x',j,e,h',z⟩;change t=_ at e;subst e;exact Sat.ret ⟨{ x' with O3:=0 },j,rfl,⟨h'.sw,h'.dr,h'.mt,h'.ca,h'.sh,i00,h'.nf⟩,z⟩
def CtP(b:Bldg)(car f:Int)(l:Bool)(d:Int)(k:Bool)(t:Ve):Prop:=∃x' g,t=GH b car x' f l d k g/\Sy b.C0 x'/\CmdR g
def CtS(b:Bldg)(car f:Int)(l:Bool)(d:Int)(k:Bool)(s:(Unit×(Ve×Unit))⊕(Unit×(Ve×Unit))):Prop:=match s with
 |.inl y=>CtP b car f l d k y.2.1
 |.inr y=>CtP b car f l d k y.2.1
omit hf
theorem Amw(hcode:b.code=0)(o:0<=car/\car<b.A0.length)(F q:Int)(h:Sx b.C0 x)(h0:x.U0=0)(hm:Mz x):Sat (CQ F q b.C0 b.F0 b.J0 b.L0 b.I0 b.M0 b.O0 b.A0 car x.X1 x.L1 x.U0 x.I1 x.J1 x.N1 x.G1 x.N0 x.W0 x.S0 x.N2 x.D3 x.O3 x.K2 f l d k c)<|CtS b car f l d k:=by
 refine Sat.bindS (Alq ..) λA hc=>Sat.bindS (Als ..) λg z=>?_;refine Sat.bic (λ_=>?_) λ_=>?_
 .refine Sat.bindS (Tt hb (x:={ x with X1:=g.2.1.1,L1:=g.2.1.2.1,D3:=A.2.1.2.2.1,O3:=0 }) l d k c o) λR _=>Sat.bindS (Abh ..) λv q=>Sat.ret ?_;obtain⟨q,j⟩:=q;exact⟨{ x with X1:=g.2.1.1,L1:=g.2.1.2.1,D3:=A.2.1.2.2.1,O3:=0,U0:=v.2.1.1,I1:=v.2.1.2.1,J1:=v.2.1.2.2.1,N1:=v.2.1.2.2.2.1,G1:=v.2.1.2.2.2.2.1 },_,rfl,⟨⟨z,q,h.mt,h.ca,hc.2,i00,h.nf⟩,.inr hm⟩,j⟩
 have st:∀(w i:Int),(0<=i/\i<=1000000)->Sat (AK w b.C0 b.F0 b.J0 b.L0 b.I0 b.M0 b.O0 b.A0 car g.2.1.1 g.2.1.2.1 x.U0 x.I1 x.J1 x.N1 x.G1 x.N0 x.W0 x.S0 x.N2 x.D3 i x.K2 f l d k c) λy=>CtP b car f l d k y.2.1:=λw i I=>by refine(Aed hb (x:={ x with X1:=g.2.1.1,L1:=g.2.1.2.1,O3:=i }) l d k c w).mono ?_;rintro⟨u,t,w⟩ ⟨c',N,f',D,e,hm,_,_,j⟩;change t=_ at e;subst e;exact⟨_,D,rfl,⟨⟨z,h.dr,hm,h.ca,h.sh,I,h.nf⟩,.inl h0⟩,j⟩
 refine Sat.bic (λ_=>Sat.bindS (st _ _ i00) λ_ h=>Sat.ret h) λ_=>Sat.bic (λ_=>Sat.bindS (st _ _ i00) λ_ h=>Sat.ret h) λ_=>?_;have L:Au b.C0 b.F0 b.J0 b.L0 b.I0 b.M0 b.O0 b.A0=E _:=Az ..;refine Sat.bindS (Abq hcode L ..) λS _=>Sat.bic (λ_=>Sat.bindS (st _ _ h.idle) λ_ h=>Sat.ret h) λ_=>Sat.ret ?_;exact⟨{ x with X1:=g.2.1.1,L1:=g.2.1.2.1,O3:=up1 x.O3 },0,rfl,⟨⟨z,h.dr,h.mt,h.ca,h.sh,Kn h.idle,h.nf⟩,.inl h0⟩,rfl⟩
omit hb in
theorem Bkk:∀(o:Fin 8),0<=O.wrap (stk ((o.val:Nat):Int) 1<|aL ((aG (IntKind.bits O) ((o.val:Nat):Int))|||(aG (IntKind.bits O) 1)))/\O.wrap (stk ((o.val:Nat):Int) 1<|aL ((aG (IntKind.bits O) ((o.val:Nat):Int))|||(aG (IntKind.bits O) 1)))<=7:=by decide
include hf
theorem Aw6(hcode:b.code=0)(o:0<=car/\car<b.A0.length)(p hu I:Int)(h:Sy b.C0 x)(A:CmdR c):Sat (DH p hu I b.C0 b.F0 b.J0 b.L0 b.I0 b.M0 b.O0 b.A0 car x.X1 x.L1 x.U0 x.I1 x.J1 x.N1 x.G1 x.N0 x.W0 x.S0 x.N2 x.D3 x.O3 x.K2 f l d k c)<|CtS b car f l d k:=by
 refine Sat.bindS (Abg hb hf l d k c p h.1) ?_;rintro⟨u,t,w⟩ ⟨n,e,hn⟩;change t=_ at e;subst e;have h1:Sx b.C0 { x with N2:=n }:=⟨h.1.sw,h.1.dr,h.1.mt,hn,h.1.sh,h.1.idle,h.1.nf⟩
 refine Sat.bindS (Q:=λy=>∃x' j,y.2.2.1=GH b car x' f l d k j/\Sy b.C0 x'/\(y.1.2.2.1=B->Mz x')/\CmdR j) ?_ ?_
 .refine Sat.bic (λq=>?_) λq=>Sat.ret ⟨_,c,rfl,⟨h1,h.2⟩,λ_=>h.2.resolve_left (by simpa using q),A⟩;refine Sat.bindS (Amx hb l d k c h1 A) ?_;rintro⟨u2,t2,w2⟩ ⟨x',j,e,h',I,v,g⟩;change t2=_ at e;subst e;exact Sat.ret ⟨x',j,rfl,⟨h',.inl<|I.trans (by simpa using q)⟩,λq=>v (by simpa using q),g⟩
 rintro⟨u3,h8,t3,w3⟩ ⟨x',j,e,h',v,g⟩;change t3=_ at e;subst e;refine Sat.bic (λ_=>Sat.ret ⟨x',j,rfl,h',g⟩) λq=>?_;have v:=v q;refine Sat.bindS (Q:=λy=>∃x' j,y.2.2.1=GH b car x' f l d k j/\Sx b.C0 x'/\Mz x'/\CmdR j) ?_ ?_
 .refine Sat.bindS (Q:=λy=>y.2.2.1=GH b car x' f l d k j) (Sat.bic (λ_=>Sat.ret rfl) λ_=>Sat.ret rfl) ?_;rintro⟨u4,h2,t4,w4⟩ e;change t4=_ at e;subst e;refine Sat.bic (λ_=>Sat.ret ⟨{ x' with L1:=_,U0:=1,I1:=0,J1:=0,N1:=B,G1:=0,D3:=0 },j,rfl,⟨⟨h'.1.sw.1,?_⟩,D5.one,h'.1.mt,h'.1.ca,dir2.zero,h'.1.idle,h'.1.nf⟩,v,g⟩) λ_=>Sat.ret ⟨x',j,rfl,h'.1,v,g⟩;have F:=h'.1.sw.2.1;have h4:=h'.1.sw.2.2
  have:=Bkk ⟨x'.L1.toNat,ω⟩
  simp only[a6_ F]at this;exact this
 rintro⟨u5,h3,t5,w5⟩ ⟨x5,S,e,N,D,h0⟩;change t5=_ at e;subst e;refine Sat.bic (λ_=>?_) λq=>?_
 .refine Sat.bindS (Aqc hb hf l d k S o N D) ?_;rintro⟨u6,t6,w6⟩ ⟨x6,c6,e,h6,L,z⟩;exact Sat.ret ⟨x6,c6,e,⟨h6,.inr L⟩,z⟩
 .refine Sat.bindS ?_ λ_ h=>Sat.ret h;refine Sat.bindS (Amw hb l d k S hcode o _ _ N (by simpa using q) D) λy7 R=>?_;cases y7 with
  |inl _=>exact Sat.ret R
  |inr _=>exact Sat.ret R
end
def Aqf{a b:Int}(h:D5 a b c d e):Sat (Qu a b c d e) λy=>letI b:=y.2.1.2;D5 y.2.1.1 b.1 b.2.1 b.2.2.1 b.2.2.2.1/\(a=0->y.2.1.1=0):=by
 by_cases g:a=0
 .obtain⟨h1,v,u,o,j⟩:=h.resolve_right λq=>absurd g ω;subst h1 v u o j;exact⟨_,rfl,D5.zero,λ_=>rfl⟩
 .exact(Aqe h).mono λ_ q=>⟨q,λq=>absurd q g⟩
def Akp{t:Int}(h:M3 fl c t f):Sat (Nw c t f) λy=>M3 fl y.2.1.1 y.2.1.2.1 y.2.1.2.2.1/\(c=0/\t=0/\f=0->MZ y.2.1):=by
 by_cases g:c=0/\t=0/\f=0
 .obtain⟨h1,o,j⟩:=g;subst h1 o j;exact⟨_,rfl,M3.zero,λ_=>rfl⟩
 .exact(Ako h).mono λ_ q=>⟨q,λq=>absurd q g⟩
@[reducible] def YB(x:aF):Agi:=(x.X1,x.L1,x.U0,x.I1,x.J1,x.N1,x.G1,x.N0,x.W0,x.S0,x.N2,x.D3,x.O3,x.K2,())
def Azq(b:Bldg)(t:Agi):Prop:=∃x,t=YB x/\GP b x=C
def Sy.zero:Sy fl Aj:=⟨⟨S2.zero dir2.zero,D5.zero,M3.zero,C2.zero,dir2.zero,i00,rfl⟩,.inl rfl⟩
def Abp(b:Bldg):GP b { Aj with K2:=C }=C:=rfl
section
variable{b:Bldg}(hb:b.small)
include hb
theorem KR:GP b Aj=C:=(SK hb rfl).2 Sy.zero
theorem Aj7(w c1 q o c4 u v g j:Int)(h:Sy b.C0 x)(z:CmdR n):Sat (Gv w c1 q o c4 u v g j x.X1 x.L1 x.U0 x.I1 x.J1 x.N1 x.G1 x.N0 x.W0 x.S0 x.N2 x.D3 x.O3 x.K2 n) λy=>Azq b y.2.1/\CmdR y.1.2.1:=by refine Sat.bindS (Aqd ..) λD _=>Sat.bic (λ_=>Sat.ret ⟨⟨{ Aj with K2:=C },rfl,Abp b⟩,rfl⟩) λ_=>?_;exact Sat.bindS (Akn ..) λA _=>Sat.bic (λ_=>Sat.ret ⟨⟨{ Aj with K2:=C },rfl,Abp b⟩,rfl⟩) λ_=>Sat.ret ⟨⟨x,rfl,(SK hb h.1.nf).2 h⟩,z⟩
variable(hcode:b.code=0)(car:Int)(x:aF)
include hcode
theorem Acv:JR b.C0 b.F0 b.J0 b.L0 b.I0 b.M0 b.O0 b.A0 car x.X1 x.L1 x.U0 x.I1 x.J1 x.N1 x.G1 x.N0 x.W0 x.S0 x.N2 x.D3 x.O3 x.K2=E ((GP b x&&(aH (0<=car)&&decide (car<(b.A0.length:Int))),()),()):=by unfold JR;rw[JK hb hcode];cases GP b x<;>cases decide (0<=car)<;>rfl
theorem XV(f:Int)(l:Bool)(d:Int)(k:Bool)(p D F:Int):Sat (Lb b.C0 b.F0 b.J0 b.L0 b.I0 b.M0 b.O0 b.A0 car x.X1 x.L1 x.U0 x.I1 x.J1 x.N1 x.G1 x.N0 x.W0 x.S0 x.N2 x.D3 x.O3 x.K2 f l d k p D F) λy=>Azq b y.2.1/\CmdR y.1.2.1:=by
 refine Sat.bindE (Acv hb hcode car x) (Sat.bic (λ_=>Sat.ret ⟨⟨Aj,rfl,KR hb⟩,rfl⟩) λq=>?_);have q:GP b x=C/\0<=car/\car<b.A0.length:=by
  have q:(GP b x&&(aH (0<=car)&&decide (car<b.A0.length)))=C:=by simpa only[Bool.not_eq_false']using q
  simpa only[b_,r_]using q
 obtain⟨I,j⟩:=q;refine Sat.bindS (Q:=λy=>y.1.1=C->0<=f/\f<b.C0) ?_ λy2 N=>?_
 .unfold Iu;refine Sat.bindS ?_ λ_ h=>Sat.ret h;refine Sat.bic (λa=>Sat.bic (λc=>Sat.bic (λ_=>Sat.ret λ_=>⟨k_ a,k_ c⟩) λ_=>Sat.ret λg=>(by cases g)) λ_=>Sat.ret λg=>(by cases g)) λ_=>Sat.ret λg=>(by cases g)
 refine Sat.bic (λ_=>Sat.ret ⟨⟨Aj,rfl,KR hb⟩,rfl⟩) λR=>Sat.bic (λ_=>Sat.ret ⟨⟨x,rfl,I⟩,rfl⟩) λhf=>?_;have o:=N (by simpa using R);refine Sat.bindS (Q:=λ(y:(Unit×Unit×Unit×Unit)×(Agi×Agi×Ve×Unit))=>CtP b car f l d k y.2.2.2.1) (Sat.bindS (Aw6 hb o l d k 0 hcode j p D F ((SK hb hf).1 I) rfl) λS L=>?_) ?_
 .cases S with
  |inl _=>exact Sat.ret L
  |inr _=>exact Sat.ret L
 rintro⟨u,v,w,t,z⟩ ⟨x',c',e,h',A⟩;change t=_ at e;subst e;exact Sat.bindS (Tt hb l d k c' j) λy6 _=>Sat.bindS (Aj7 hb _ _ _ _ _ _ _ _ _ h' A) λy7 h7=>Sat.ret h7
theorem Aho:Sat (PI b.C0 b.F0 b.J0 b.L0 b.I0 b.M0 b.O0 b.A0 car x.X1 x.L1 x.U0 x.I1 x.J1 x.N1 x.G1 x.N0 x.W0 x.S0 x.N2 x.D3 x.O3 x.K2) λy=>Azq b y.2.1/\CmdR y.1.2.1:=by
 refine Sat.bindE (Acv hb hcode car x) (Sat.bic (λ_=>Sat.ret ⟨⟨Aj,rfl,KR hb⟩,rfl⟩) λq=>?_);have q:GP b x=C/\0<=car/\car<b.A0.length:=by
  have q:(GP b x&&(aH (0<=car)&&decide (car<b.A0.length)))=C:=by simpa only[Bool.not_eq_false']using q
  simpa only[b_,r_]using q
 obtain⟨v,j⟩:=q;refine Sat.bic (λ_=>Sat.ret ⟨⟨x,rfl,v⟩,rfl⟩) λhf=>?_;have h:=(SK hb hf).1 v;refine Sat.bindS (Aqf h.1.dr) λo z=>Sat.bindS (Akp h.1.mt) λu w=>Sat.bifT (Ac j.1 j.2) ?_;refine Sat.bindS (Aj7 hb _ _ _ _ _ _ _ _ _ (x:={ x with U0:=o.2.1.1,I1:=o.2.1.2.1,J1:=o.2.1.2.2.1,N1:=o.2.1.2.2.2.1,G1:=o.2.1.2.2.2.2.1,N0:=u.2.1.1,W0:=u.2.1.2.1,S0:=u.2.1.2.2.1 }) ⟨⟨h.1.sw,z.1,w.1,h.1.ca,h.1.sh,h.1.idle,h.1.nf⟩,?_⟩ rfl) λD A=>Sat.ret A;refine h.2.imp (λg=>z.2 g) λg=>?_;have e:=w.2 g;rw[e];exact⟨rfl,rfl,rfl⟩
theorem Ahq(f:Int)(l:Bool)(d:Int)(k:Bool):Sat (Mw b.C0 b.F0 b.J0 b.L0 b.I0 b.M0 b.O0 b.A0 x.X1 x.L1 x.U0 x.I1 x.J1 x.N1 x.G1 x.N0 x.W0 x.S0 x.N2 x.D3 x.O3 x.K2 f l d k) λy=>y.1.1=C->l=C/\d=2:=by
 have i:SatT _:=⟨⟨_,JK hb hcode x,trivial⟩⟩;have no:∀{p:Prop},B=C->p:=λq=>by cases q
 refine Sat.bindS (Sat.bindS i.out λ_ _=>?_) λ_ h=>Sat.ret h;exact Sat.bic (λ_=>Sat.bic (λ_=>Sat.bic (λ_=>Sat.bic (λ_=>Sat.bic (λ_=>Sat.bic (λq=>Sat.ret λg=>⟨q,eq_of_beq g⟩) λ_=>Sat.ret no) λ_=>Sat.ret no) λ_=>Sat.ret no) λ_=>Sat.ret no) λ_=>Sat.ret no) λ_=>Sat.ret no
end
structure RigOK(fl:Int)(r:Rig):Prop where
 f:0<=r.D0/\r.D0<fl
 t:0<=r.R2/\r.R2<fl
 d:-1<=r.R2-r.D0/\r.R2-r.D0<=1
 eq:r.D0=r.R2->r.Y1=0
 ne:r.D0≠r.R2->1<=r.Y1/\r.Y1<=10000/\r.Y0=2
 dr:(r.Y0=0/\(r.Z3=1\/r.Z3=2)/\1<=r.G3/\r.G3<=10000)\/((r.Y0=1\/r.Y0=2)/\r.Z3=0/\r.G3=0)
@[reducible] def Hw(r:Rig):=(r.D0,r.R2,r.Y1,r.Y0,r.Z3,r.G3,())
def AT:Rig:=Rig.mk 0 0 0 0 0 0
def RO(n lo g:Int):DO n lo g=E ((inR lo g n,()),()):=by unfold DO inR;cases decide (lo<=n)<;>rfl
def RigOK.new(h:0<=f/\f<fl):RigOK fl<|Rig.mk f f 0 2 0 0:=⟨h,h,show -1<=f-f/\f-f<=1 by omega,λ_=>rfl,λe=>absurd rfl e,.inr ⟨.inr rfl,rfl,rfl⟩⟩
section
variable{fl:Int}(hl:2<=fl/\fl<=8){r:Rig}(h:RigOK fl r)
include hl h
theorem Qm:Ld fl r.D0 r.R2 r.Y1 r.Y0 r.Z3 r.G3=E ((C,()),()):=by
 have w:O.wrap _=fl-1:=Aa ω ω;have hf:=h.f;have N:=h.t;have L:=h.d;have F:O.wrap _=r.R2-r.D0:=Aa ω ω;refine Sat.eq ?_;have o:∀{n lo z:Int},lo<=n/\n<=z->DO n lo z=E _:=λ{n lo z} h=>by rw[RO,Ak.2 h]
 unfold Ld;rw[w,F];refine Sat.bindE (o ⟨hl.1,show fl<=32 by omega⟩)<|Sat.bifF rfl<|Sat.bindE (o ⟨hf.1,show r.D0<=fl-1 by omega⟩)<|Sat.bifF rfl<|Sat.bindE (o ⟨N.1,show r.R2<=fl-1 by omega⟩)<|Sat.bifF rfl<|Sat.bindE (o L)<|Sat.bifF rfl ?_;refine Sat.bindS (Q:=λy=>y=(((),B,()),(Hw r,()))) ?_ λy u=>?_
 .by_cases e:r.D0=r.R2
  .have A:=I_.2 e;have I:(r.D0 !=r.R2)=B:=by rw[bne,A];rfl
   refine Sat.bifT A<|Sat.bifF (by rw[h.eq e];rfl)<|Sat.bifF I<|Sat.ret rfl
  .obtain⟨S,n2,R⟩:=h.ne e;refine Sat.bifF (Ao e)<|Sat.bifT (FT e)<|Sat.bindE (o ⟨S,n2⟩)<|Sat.bifF rfl<|Sat.ret ?_;show(((),(r.Y0 !=2),()),(Hw r,()))=_;rw[R];rfl
 subst u;refine Sat.bifF rfl ?_;rcases h.dr with⟨j,g,v,D⟩|⟨j,g,v⟩
 .refine Sat.bifT (show(r.Y0==0)=C by rw[j];rfl) (Sat.bindS (Q:=λy=>y=((C,()),())) ?_ λy u=>by subst u;exact Sat.ret rfl);rcases g with g|g
  .exact Sat.bifT (show(r.Z3==1)=C by rw[g];rfl)<|Sat.bindE (o ⟨v,D⟩)<|Sat.ret rfl
  .exact Sat.bifF (show(r.Z3==1)=B by rw[g];rfl)<|Sat.bifT (show(r.Z3==2)=C by rw[g];rfl)<|Sat.bindE (o ⟨v,D⟩)<|Sat.ret rfl
 .refine Sat.bifF (show(r.Y0==0)=B from Ao ω) (Sat.bindS (Q:=λy=>y=((C,()),())) ?_ λy u=>by subst u;exact Sat.ret rfl);have q:((((r.G3==0),()),()):(Bool×Unit)×Unit)=((C,()),()):=by rw[v];rfl
  rcases j with j|j
  .exact Sat.bifT (show(r.Y0==1)=C by rw[j];rfl)<|Sat.bifT (show(r.Z3==0)=C by rw[g];rfl)<|Sat.ret q
  .exact Sat.bifF (show(r.Y0==1)=B by rw[j];rfl)<|Sat.bifT (show(r.Y0==2)=C by rw[j];rfl)<|Sat.bifT (show(r.Z3==0)=C by rw[g];rfl)<|Sat.ret q
omit hl h in
theorem XY{t a k:Int}(hf:0<=f/\f<fl)(g:0<=t/\t<fl)(u:-1<=t-f/\t-f<=1)(j:f≠t)(v:0<=n/\n<=10000)(ha:a=0/\k=0):Sat (GX f t n 2 a k) λy=>∃o,y.2.1=Hw o/\RigOK fl o:=by
 refine Sat.bic (λq=>Sat.ret ⟨Rig.mk t t n 2 a k,rfl,g,g,show -1<=t-t/\t-t<=1 by omega,λ_=>eq_of_beq q,λe=>absurd rfl e,.inr ⟨.inr rfl,ha.1,ha.2⟩⟩) λq=>Sat.ret ⟨Rig.mk f t n 2 a k,rfl,hf,g,u,λe=>absurd e j,λ_=>⟨?_,v.2,rfl⟩,.inr ⟨.inr rfl,ha.1,ha.2⟩⟩;have q:n≠0:=λe=>by have q:=q;rw[e]at q;cases q
 show 1<=n;omega
theorem Aqr(he:r.D0=r.R2){to time:Int}(h0:to=0\/to=1\/to=2)(ht:1<=time/\time<=10000):Sat (KD r.D0 r.R2 r.Y1 r.Y0 r.Z3 r.G3 to time) λy=>∃v,y.2.1=Hw v/\RigOK fl v:=by
 have mk:∀{d a k:Int},(d=0/\(a=1\/a=2)/\1<=k/\k<=10000)\/((d=1\/d=2)/\a=0/\k=0)->RigOK fl (Rig.mk r.D0 r.R2 r.Y1 d a k):=λ{d a k} L=>⟨h.f,h.t,h.d,h.eq,λe=>absurd he e,L⟩
 refine Sat.bindS (Q:=λy=>match y with
  |.inl z=>∃a k:Int,∃w,z=((to,(),(),()),((r.D0,r.R2,r.Y1,0,a,k,()),w))/\a=to/\to≠0/\0<=k/\k<=10000
  |.inr z=>z.2.1=Hw r) ?_ λy F=>?_
 .refine Sat.bic (λ_=>Sat.ret rfl) λg=>Sat.bic (λ_=>Sat.ret rfl) λq1=>?_;have g:to≠0:=λe=>by have q:=g;rw[e]at q;cases q
  refine Sat.bindS (Q:=λy=>y.2.1=Hw r/\y.1.1=to/\y.1.2.1=time/\(y.1.2.2.2.2.1=C->r.Y0=0/\r.Z3=to)) (Sat.bic (λq=>Sat.ret ⟨rfl,rfl,rfl,λN=>⟨eq_of_beq q,eq_of_beq N⟩⟩) λ_=>Sat.ret ⟨rfl,rfl,rfl,λq=>by cases q⟩) ?_;rintro⟨⟨I,y2,y3,y4,y5,y6⟩,R,y8⟩ ⟨D,o,j,A⟩;change R=_ at D;change I=_ at o;change y2=_ at j;change y5=C->_ at A;subst D;have o:=o.symm;have j:=j.symm;subst o j;refine Sat.bic (λq=>?_) λ_=>Sat.ret ⟨to,O.wrap<|time-1,_,rfl,rfl,g,by rw[Aa ω ω];omega,by rw[Aa ω ω];omega⟩;obtain⟨d1,S⟩:=A q;rcases h.dr with⟨_,_,k1,u⟩|⟨d3,_⟩
  .have w:O.wrap _=r.G3-1:=Aa ω ω;refine Sat.ret ⟨r.Z3,O.wrap _,y8,?_,S,g,by rw[w];omega,ω⟩;rw[<-d1]
  .omega
 .cases y with
  |inr z=>exact Sat.ret ⟨r,F,h⟩
  |inl z=>
   obtain⟨a,k,w,rfl,rfl,n0,k1,u⟩:=F;refine Sat.bic (λq=>Sat.ret ⟨Rig.mk r.D0 r.R2 r.Y1 a 0 k,rfl,mk<|.inr ⟨ω,rfl,eq_of_beq q⟩⟩) λq=>Sat.ret ⟨Rig.mk r.D0 r.R2 r.Y1 0 a k,rfl,mk<|.inl ⟨rfl,ω,?_,u⟩⟩;have q:k≠0:=λe=>by have q:=q;rw[e]at q;cases q
   omega
theorem Abr(j time:Int):Sat (Jc fl r.D0 r.R2 r.Y1 r.Y0 r.Z3 r.G3 j time) λy=>∃L,y.2.1=Hw L/\RigOK fl L:=by
 have w:O.wrap _=fl-1:=Aa ω ω;have hf:=h.f;refine Sat.bindE (Qm hl h)<|Sat.bifF rfl ?_;have I:1<=(bif decide (10000<(bif decide (time<1)then 1 else time))then 10000 else(bif decide (time<1)then 1 else time))/\(bif decide (10000<(bif decide (time<1)then 1 else time))then 10000 else(bif decide (time<1)then 1 else time))<=10000:=by
  have h1:1<=(bif decide (time<1)then 1 else time):=by
   by_cases g:time<1
   .rw[J g,Z];decide
   .rw[W g,V];omega
  generalize(bif decide (time<1)then 1 else time)=z at h1;by_cases g:10000<z
  .rw[J g,Z];decide
  .rw[W g,V];omega
 simp only[];generalize(bif decide (10000<(bif decide (time<1)then 1 else time))then _ else _)=z1 at I|-;have o:∃n,Mx r.D0 r.R2 r.Y1 r.Y0 r.Z3 r.G3 j=E ((n,()),())/\-1<=n-r.D0/\n-r.D0<=1:=by
  unfold Mx;by_cases c1:j=1
  .subst c1;exact⟨_,rfl,by rw[Aa ω ω];omega,by rw[Aa ω ω];omega⟩
  .rw[Ao c1];by_cases A:j=2
   .subst A;exact⟨_,rfl,by rw[Aa ω ω];omega,by rw[Aa ω ω];omega⟩
   .rw[Ao A];exact⟨_,rfl,ω,ω⟩
 obtain⟨n,e,D,F⟩:=o;refine Sat.bindE e (Sat.bic (λq=>?_) λq=>?_)
 .have q:r.Y1≠0:=by have q:=q;simpa using q
  have v:=λe=>q<|h.eq e;obtain⟨k1,k2,k3⟩:=h.ne v;have ha:r.Z3=0/\r.G3=0:=by
   rcases h.dr with g|g
   .omega
   .exact g.2
  have wl:O.wrap _=r.Y1-1:=Aa ω ω;rw[wl,k3];exact Sat.bindS (XY h.f h.t h.d v ⟨ω,ω⟩ ha) λ_ h=>Sat.ret h
 have q:r.Y1=0:=by have q:=q;simpa using q
 have hE:r.D0=r.R2:=by
  by_cases e:r.D0=r.R2
  .exact e
  .have:=h.ne e;omega
 refine Sat.bindS (Q:=λy=>∃c:Bool,y=((j,z1,(),(),n,c,()),(Hw r,(0,0,0,0,0,0,()),()))/\(c=C->n≠r.D0/\(0<=n/\n<fl)/\r.Y0=2)) ?_ λy6 h6=>?_
 .refine Sat.bic (λg=>?_) λ_=>Sat.ret ⟨B,rfl,λq=>by cases q⟩;have g:n≠r.D0:=by have g:=g;simpa using g
  rw[w];refine Sat.bindE (RO _ _ _) (Sat.bic (λg2=>Sat.ret ⟨_,rfl,λS=>⟨g,?_,eq_of_beq S⟩⟩) λ_=>Sat.ret ⟨B,rfl,λq=>by cases q⟩)
  have:=Ak.1 (show inR 0 _ n=C from g2)
  omega
 obtain⟨c,rfl,hc⟩:=h6;refine Sat.bic (λg=>?_) λ_=>?_
 .obtain⟨c1,A,R⟩:=hc g;have N:O.wrap _=z1-1:=Aa ω ω;have ha:r.Z3=0/\r.G3=0:=by
   rcases h.dr with g|g
   .omega
   .exact g.2
  show Sat (aI (GX r.D0 n _ r.Y0 r.Z3 r.G3) _) _;rw[N,R];exact Sat.bindS (XY h.f A ⟨D,F⟩ (a7_ c1) ⟨ω,ω⟩ ha) λ_ h=>Sat.ret h
 .have u:∃a,QN r.D0 r.R2 r.Y1 r.Y0 r.Z3 r.G3 j=E ((a,()),())/\(a=0\/a=1\/a=2):=by
   unfold QN;cases j==3 with
   |true=>exact⟨1,rfl,τ⟩
   |false=>
   cases j==5 with
   |true=>exact⟨2,rfl,τ⟩
   |false=>
   cases j==4 with
   |true=>exact⟨2,rfl,τ⟩
   |false=>exact⟨r.Z3,rfl,by rcases h.dr with g|g<;>omega⟩
  obtain⟨a,e,ha⟩:=u;exact Sat.bindE e (Sat.bindS (Aqr hl h hE ha I) λ_ h=>Sat.ret h)
end
end Go.Ovl
