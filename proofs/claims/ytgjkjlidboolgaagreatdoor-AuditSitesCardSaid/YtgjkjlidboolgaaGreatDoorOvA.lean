import Derived.Test.YtgjkjlidboolgaaGreatDoorAbC
import Derived.Test.YtgjkjlidboolgaaGreatDoorDefs4
set_option linter.all false
set_option maxRecDepth 100000
open Bool renaming false->B,true->C,eq_iff_iff->bD
open Option renaming some->E,bind->aN
open Go renaming c_->H,d_->J,a_->U,b_->V,f_->Z
open Go.Ovl renaming Entry->O,Record->aB,NewCar->aJ,Belief->aP,Debounced->aX
open Go.IntKind renaming i64->W,wrap->aC,u32->aD,u8->aM,u64->aZ
open Int renaming toNat->aA,fdiv->aV
open List renaming replicate->aE,range'->aI
open Go.Ovl.Entry renaming mk->aF
open BitVec renaming ofInt->aG,toNat->aU,getLsbD_and->bB,getLsbD_or->bC,eq_of_getLsbD_eq->bG,eq_of_toNat_eq->bH
open Decidable renaming decide->aH
open Array renaming mk->aK
open ByteArray renaming mk->aL
open Go.Ovl.Record renaming mk->aO
open Min renaming min->aQ
open Nat renaming ble->aR,blt->aY,le_succ->bA
open Go.Ovl.Duty renaming mk->aS
open Sum renaming inr->aT,inl->aW
open UInt8 renaming toNat_lt->bE
namespace Go.Ovl
open Go Go.Ab
variable{f:Nat}{α:Type}{n:Int}
def Aa(h:-9223372036854775808<=n)(h':n<9223372036854775808):W.wrap n=n:=by rw[IntKind.wrap_i64];omega
def Gy(h:0<=n)(h':n<18446744073709551616):aZ.wrap n=n:=by simp only[aC,IntKind.signed,IntKind.bits];simp;omega
def Ac{i:Int}{n:Nat}(h:0<=i)(h':i<n):inB i n=C:=by simp[inB];omega
def AR{a b:Nat}(h:a<=b):aR a b=C:=Nat.ble_eq.symm▸h
def Arr(s:ByteArray):s.toList=s.data.toList:=ByteArray.toList_eq s
def Bj9{a b:ByteArray}:eqB a b=C↔a=b:=by
 constructor
 .intro h;simp[eqB,Arr]at h;exact ByteArray.ext h
 .rintro rfl;simp[eqB]
def LZ [BEq α][LawfulBEq α]{a b:α}(h:¬a=b):(a !=b)=C:=by simpa using h
def Ao [BEq α][LawfulBEq α]{a b:α}(h:¬a=b):(a==b)=B:=by simpa using h
section
variable{X Y:Type}{step:X->Option (Sum X Y)}
def Cl{x x':X}(h:step x=E (.inl x')):Cj step (f+1) x=Cj step f x':=by simp only[Cj,h,Sb]
def AS{x:X}{y:Y}(h:step x=E (.inr y)):Cj step (f+1) x=E y:=by simp only[Cj,h,Sb]
def Ajq:∀{f:Nat}{x:X}{y:Y},Cj step f x=E y->∀{g:Nat},f<=g->Cj step g x=E y
 |0,_,_,h,_,_=>by simp[Cj]at h
 |f+1,x,y,h,0,hg=>by omega
 |f+1,x,y,h,g+1,hg=>by
  simp only[Cj]at h|-;cases hs:step x with
  |none=>rw[hs]at h;simp[Sb]at h
  |some z=>
   rw[hs]at h;cases z with
   |inl x'=>exact Ajq (f:=f) (g:=g) h ω
   |inr y'=>exact h
def Aw{x:X}{y:Y}(h:Cj step f x=E y)(hf:f<=18446744073709551616):Cj step Eh x=E y:=Ajq h hf
def Asp(Q:X->Y->Prop)(m:X->Nat)(hs:∀x y,Q x y->(∃x',step x=E (.inl x')/\Q x' y/\m x'<m x)\/step x=E (.inr y)):∀(n:Nat) (x:X) (y:Y),Q x y->m x<=n->Cj step (n+1) x=E y
 |n,x,y,hq,hm=>by
  rcases hs x y hq with⟨x',h1,h2,h3⟩|h1
  .cases n with
   |zero=>omega
   |succ n=>rw[Cl h1];exact Asp Q m hs n x' y h2 ω
  .exact AS h1
def Bku(Q:X->Y->Prop)(m:X->Nat)(hs:∀x y,Q x y->(∃x',step x=E (.inl x')/\Q x' y/\m x'<m x)\/step x=E (.inr y)){x:X}{y:Y}(hq:Q x y)(hm:m x<18446744073709551616):Cj step Eh x=E y:=Aw (Asp Q m hs (m x) x y hq (y_ _)) hm
def AV{S:Type}(h:Nat->S->S):Nat->Nat->S->S
 |0,_,s=>s
 |m+1,i,s=>AV h m (i+1) (h i s)
def Cb{S:Type}(N:Nat)(g:Nat->S->X)(h:Nat->S->S)(inv:Nat->S->Prop)(y:S->Y)(h1:∀i s,i<N->inv i s->step (g i s)=E (.inl (g (i+1) (h i s)))/\inv (i+1) (h i s))
  (h2:∀s,inv N s->step (g N s)=E (.inr (y s))):∀(m i:Nat) (s:S),i+m=N->inv i s->Cj step (m+1) (g i s)=E (y (AV h m i s))/\inv N (AV h m i s)
 |0,i,s,hi,hs=>by
  have:i=N:=ω
  subst this;exact⟨AS (h2 s hs),hs⟩
 |m+1,i,s,hi,hs=>by obtain⟨q1,q2⟩:=h1 i s ω hs;rw[Cl q1];exact Cb N g h inv y h1 h2 m (i+1) (h i s) ω q2
end
def noB:ByteArray:=⟨#[]⟩
def Ac3(d:ByteArray){k:Nat}(h:k<=d.size):(d.extract 0 k).size=k:=by simp;omega
end Go.Ovl
namespace Go.Ovl
open Go Go.Ab
variable{c:Bool}
def Sat{α:Type}(o:Option α)(P:α->Prop):Prop:=∃a,o=E a/\P a
section
variable{α β:Type}{P:α->Prop}{Q:β->Prop}
def Sat.ret{a:α}(h:P a):Sat (E a) P:=⟨a,rfl,h⟩
def Sat.bindE{o:Option β}{b:β}{f:β->Option α}(h:o=E b)(h2:Sat (f b) P):Sat (aN o f) P:=by subst h;exact h2
def Sat.bindS{o:Option β}{f:β->Option α}(h:Sat o Q)(h2:∀b,Q b->Sat (f b) P):Sat (aN o f) P:=by obtain⟨b,h,hq⟩:=h;subst h;exact h2 b hq
def Sat.bic{x y:Option α}(h1:c=C->Sat x P)(h2:c=B->Sat y P):Sat (bif c then x else y) P:=by
 cases c with
 |true=>exact h1 rfl
 |false=>exact h2 rfl
def Sat.bifT{x y:Option α}(h:c=C)(h1:Sat x P):Sat (bif c then x else y) P:=by subst h;exact h1
def Sat.bifF{x y:Option α}(h:c=B)(h1:Sat y P):Sat (bif c then x else y) P:=by subst h;exact h1
def Sat.bindC{x y:Option β}{f:β->Option α}(h1:c=C->Sat (aN x f) P)(h2:c=B->Sat (aN y f) P):Sat (aN (bif c then x else y) f) P:=by
 cases c with
 |true=>exact h1 rfl
 |false=>exact h2 rfl
def Sat.bindR{b:β}{f:β->Option α}(h2:Sat (f b) P):Sat (aN (E b) f) P:=h2
def Sat.bindA{γ:Type}{o:Option γ}{g:γ->Option β}{f:β->Option α}(h:Sat (aN o λx=>aN (g x) f) P):Sat (aN (aN o g) f) P:=by
 cases o with
 |none=>exact h
 |some a=>exact h
def Sat.mono{R:α->Prop}{o:Option α}(h:Sat o P)(h2:∀a,P a->R a):Sat o R:=by obtain⟨a,h,hp⟩:=h;exact⟨a,h,h2 a hp⟩
def Sat.any{o:Option α}(h:Sat o P):Sat o λ_=>True:=h.mono λ_ _=>trivial
def Sat.eq{o:Option α}{a:α}(h:Sat o λx=>x=a):o=E a:=by obtain⟨_,h,rfl⟩:=h;exact h
end
def Sat.iterN{X Y:Type}{step:X->Option (Sum X Y)}(I:Nat->X->Prop)(P:Y->Prop)(hs:∀k x,I k x->Sat (step x) λr=>match r with|.inl x'=>∃k',k=k'+1/\I k' x'|.inr y=>P y):∀(k:Nat) (x:X),I k x->Sat (Cj step (k+1) x) P
 |k,x,hi=>by
  obtain⟨r,h1,h2⟩:=hs k x hi
  match r,h1,h2 with
  |.inr y,h1,h2=>exact⟨y,AS h1,h2⟩
  |.inl x',h1,⟨k',hk,hi'⟩=>subst hk;rw[Cl h1];exact Sat.iterN I P hs k' x' hi'
def Sat.loop{X Y:Type}{step:X->Option (Sum X Y)}(I:Nat->X->Prop){P:Y->Prop}(hs:∀k x,I k x->Sat (step x) λr=>match r with|.inl x'=>∃k',k=k'+1/\I k' x'|.inr y=>P y)(k:Nat){x:X}(hi:I k x)(hk:k<18446744073709551616):Sat (Cj step Eh x) P:=by obtain⟨y,h1,h2⟩:=Sat.iterN I P hs k x hi;exact⟨y,Aw h1 ω,h2⟩
class SatT {α:Type}(o:Option α):Prop where
 out:Sat o λ_=>True
section
variable{α β:Type}{P:α->Prop}
def Sat.sT{o:Option β}{f:β->Option α}(h2:∀b,True->Sat (f b) P)(h:Sat o (λ_=>True):=by with_reducible first|assumption|exact SatT.out):Sat (Option.bind o f) P:=Sat.bindS h h2
def Sat.go{o:Option α}(h:Sat o P:=by repeat' with_reducible first|refine Sat.bindR ?_|refine Sat.bindA ?_|refine Sat.bindC (λ_=>?_) (λ_=>?_)|refine Sat.bic (λ_=>?_) (λ_=>?_)|refine Sat.sT λ_ _=>?_|exact Sat.ret trivial):Sat o P:=h
end
end Go.Ovl
namespace Go.Ovl
open Go Go.Ab
variable{i:Nat}{f:Int}
def bv(f:Int):BitVec 32:=aG 32 f
def vb(b:BitVec 32):Int:=(b.toNat:Int)
def Mi(b:BitVec 32):0<=vb b/\vb b<4294967296:=by
 have:=b.isLt
 unfold vb;omega
def Bi0(b:BitVec 32):bv (vb b)=b:=by
 apply bH
 have:=b.isLt
 simp only[bv,vb,a0_];omega
def Bjh(h:0<=f/\f<4294967296):vb (bv f)=f:=by simp only[bv,vb,a0_];omega
def TS(b:BitVec 32):aD.wrap ((b.toNat:Nat):Int)=vb b:=by
 have:=b.isLt
 simp only[aC,IntKind.signed,IntKind.bits,vb];simp;omega
def Amt:IntKind.bits .u32=32:=rfl
def Bjw(f:Int):bv (aC aD f)=bv f:=by apply bH;simp only[bv,a0_,aC,IntKind.signed,IntKind.bits];simp
def Amv(i:Nat):bv (aC aD (1*2^min i (IntKind.bits .u32)))=if i<32 then BitVec.twoPow 32 i else 0#32:=by
 rw[Bjw,Int.one_mul];apply bH;simp only[bv,a0_,Amt];by_cases h:i<32
 .rw[if_pos h,d4_ ω,BitVec.toNat_twoPow]
  have:((2:Int)^i)=((2^i:Nat):Int):=by simp
  rw[this]
  norm_cast
 .rw[if_neg h,Nat.min_eq_right ω];rfl
def Eg(f:Int)(i:Nat):Bool:=(bv f).getLsbD i
def Bec(h:0<=f/\f<4294967296)(hi:i<32):
  (aC aD ((aU (aG (IntKind.bits .u32) (aV f (2^min i (IntKind.bits .u32)))&&&aG (IntKind.bits .u32) 1):Nat):Int)==1)=Eg f i:=by
 have e:aV f (2^min i (IntKind.bits .u32))=((f.toNat/2^i:Nat):Int):=by
  rw[Amt,d4_ ω,P_ _ (by exact Int.le_of_lt (Int.pow_pos ω))]
  have:f=((f.toNat:Nat):Int):=ω
  rw[this];simp
 rw[e];show(aC aD (((bv ((f.toNat/2^i:Nat):Int)&&&bv 1).toNat:Nat):Int)==1)=_;rw[TS];have hb:(bv ((f.toNat/2^i:Nat):Int)&&&bv 1)=if Eg f i then 1#32 else 0#32:=by
  apply bG;intro j hj;have h1:(bv ((f.toNat/2^i:Nat):Int)).getLsbD j=(f.toNat/2^i).testBit j:=by
   simp only[bv,BitVec.getLsbD,a0_]
   have:(((f.toNat/2^i:Nat):Int)%((2^32:Nat):Int)).toNat=(f.toNat/2^i)%2^32:=by norm_cast
   rw[this,Nat.testBit_mod_two_pow];simp[hj]
  have h2:Eg f i=f.toNat.testBit i:=by
   simp only[Eg,bv,BitVec.getLsbD,a0_]
   have:(f%((2^32:Nat):Int)).toNat=f.toNat:=by simp;omega
   rw[this]
  have h3:(bv 1).getLsbD j=decide (j=0):=by
   have:bv 1=1#32:=rfl
   rw[this];simp[BitVec.getLsbD_one]
  rw[bB,h1,h3,h2];by_cases hj0:j=0
  .subst hj0;rw[Nat.testBit_div_two_pow];simp only[o_,decide_true,d6_];cases f.toNat.testBit i<;>simp
  .simp only[hj0,decide_false,c7_];cases f.toNat.testBit i<;>simp[BitVec.getLsbD_one,hj0]
 rw[hb];cases Eg f i<;>rfl
def Ym(f:Int)(i:Nat)(on:Bool):Int:=vb (if on then bv f|||BitVec.twoPow 32 i else bv f&&& ~~~ BitVec.twoPow 32 i)
def Awg(f:Int)(i:Nat)(on:Bool):0<=Ym f i on/\Ym f i on<4294967296:=Mi _
def Ary{g:Int}(hf:0<=f/\f<4294967296)(hg:0<=g/\g<4294967296)(h:∀i,i<32->Eg f i=Eg g i):f=g:=by rw[<-Bjh hf,<-Bjh hg];congr 1;apply bG;intro i hi;exact h i hi
def Bug(f:Int)(hi:i<32):aD.wrap ((aU (aG (IntKind.bits .u32) f|||BitVec.ofInt (IntKind.bits .u32) (aC aD (1*2^min i (IntKind.bits .u32)))):Nat):Int)=Ym f i C:=by show aD.wrap (((bv f|||bv (aC aD (1*2^min i (IntKind.bits .u32)))).toNat:Nat):Int)=_;rw[TS,Amv,if_pos hi];rfl
def Bak(f:Int)(hi:i<32):aD.wrap ((aU (aG (IntKind.bits .u32) f&&& ~~~ aG (IntKind.bits .u32) (aC aD (1*2^min i (IntKind.bits .u32)))):Nat):Int)=Ym f i B:=by show aD.wrap (((bv f&&& ~~~ bv (aC aD (1*2^min i (IntKind.bits .u32)))).toNat:Nat):Int)=_;rw[TS,Amv,if_pos hi];rfl
def Bc6(f:Int)(i:Nat):Ym (Ym f i B) i C=Ym f i C:=by unfold Ym;simp only[g8_,f0_,g3_,Bi0];congr 1;apply bG;intro j hj;simp only[bC,bB,BitVec.getLsbD_not];cases(bv f).getLsbD j<;>cases(BitVec.twoPow 32 i).getLsbD j<;>simp[hj]
end Go.Ovl
namespace Go.Ovl
open Go Go.Ab
def Aw4(x y:Int):aD.wrap (stk x y (aU (aG (IntKind.bits .u32) x|||BitVec.ofInt (IntKind.bits .u32) y)))=vb (bv x|||bv y):=by rw[My];exact TS _
def Yq(x y:Int):aD.wrap (stk x y (aU (aG (IntKind.bits .u32) x&&&aG (IntKind.bits .u32) y)))=vb (bv x&&&bv y):=by rw[My];exact TS _
def Yr(x y:Int):aD.wrap (stk x y (aU (aG (IntKind.bits .u32) x&&& ~~~ aG (IntKind.bits .u32) y)))=vb (bv x&&& ~~~ bv y):=by rw[My];exact TS _
def Zb(b:BitVec 32)(i:Nat):Eg (vb b) i=b.getLsbD i:=by unfold Eg;rw[Bi0]
def Arz{k:Nat}(h:k<32)(i:Nat):Eg (aC aD (1*2^min k (IntKind.bits .u32))) i=decide (i=k):=by
 unfold Eg;rw[Amv,if_pos h,BitVec.getLsbD_twoPow];by_cases e:i=k
 .subst e;simp[h]
 .simp[e,f4_ e]
structure Bldg where
 C0:Int
 E0:Int
 I0:Int
 M0:Int
 J0:Nat
 L0:Nat
 N0:Nat
 B0:List Car
def Cm{α:Type}{l:List α}{i:Nat}(d:α)(h:i<l.length):l.drop i=l.getD i d::l.drop (i+1):=by rw[List.drop_eq_getElem_cons h];simp[h]
def inR(lo hi n:Int):Bool:=decide (lo<=n)&&decide (n<=hi)
def An{lo hi n:Int}:inR lo hi n=C↔lo<=n/\n<=hi:=by simp[inR]
def Ct(lo hi:Int){l:List Int}(hl:l.length<=maxLen):BZ lo hi l=E ((l.all (inR lo hi),()),()):=by
 have hm:maxLen<=9223372036854775807:=by decide
 have key:∀(m i:Nat),i+m=l.length->Cj (λx=>Ch x.1.1 x.1.2.1 x.1.2.2.1 x.1.2.2.2.1 x.1.2.2.2.2.1) (m+1) ((lo,hi,l,(l.length:Int),(i:Int),()),())=E (if(l.drop i).all (inR lo hi)then .inl ((),())else .inr ((B,()),())):=by
  intro m;induction m with
  |zero=>
   intro i hi';refine AS ?_;show Ch lo hi l (l.length:Int) (i:Int)=_;unfold Ch;have e:decide ((i:Int)<(l.length:Int))=B:=by simp;omega
   rw[e,show i=l.length by omega];simp
  |succ m ih=>
   intro i hi';have e:decide ((i:Int)<(l.length:Int))=C:=by simp;omega
   have ib:inB (i:Int) l.length=C:=Ac ω ω;have tn:aA (i:Int)=i:=ω;have w:W.wrap ((i:Int)+1)=((i+1:Nat):Int):=by rw[Aa ω ω];omega
   rw[Cm (0:Int) (ω:i<l.length)];by_cases h1:l.getD i 0<lo
   .refine(AS (y:=.inr ((B,()),())) ?_).trans ?_
    .show Ch lo hi l (l.length:Int) (i:Int)=_;unfold Ch;have d1:decide (l.getD i 0<lo)=C:=by simpa using h1
     simp only[e,ib,tn,d1,J]
    .have:inR lo hi (l.getD i 0)=B:=by rw[inR,show decide (lo<=l.getD i 0)=B from Z ω,a9_]
     rw[Z_,this];rfl
   .have d1:decide (l.getD i 0<lo)=B:=by simpa using h1
    by_cases h2:hi<l.getD i 0
    .refine(AS (y:=.inr ((B,()),())) ?_).trans ?_
     .show Ch lo hi l (l.length:Int) (i:Int)=_;unfold Ch;have d2:decide (hi<l.getD i 0)=C:=by simpa using h2
      simp only[e,ib,tn,d1,d2,J,H]
     .have:inR lo hi (l.getD i 0)=B:=by rw[inR,show decide (l.getD i 0<=hi)=B from Z ω,c7_]
      rw[Z_,this];rfl
    .have d2:decide (hi<l.getD i 0)=B:=by simpa using h2
     refine(Cl (x':=((lo,hi,l,(l.length:Int),((i+1:Nat):Int),()),())) ?_).trans ?_
     .show Ch lo hi l (l.length:Int) (i:Int)=_;unfold Ch;simp only[e,ib,tn,d1,d2,w,J,H]
     .have:inR lo hi (l.getD i 0)=C:=An.2 ⟨ω,ω⟩
      rw[ih (i+1) ω,Z_,this];rfl
 unfold BZ;have h0:Jk ((lo,hi,l,(l.length:Int),(0:Int),()),())=_:=Aw (key l.length 0 ω) ω;rw[h0];rw[V_];cases l.all (inR lo hi)<;>rfl
def MC(n lo hi:Int):Ia n lo hi=E ((inR lo hi n,()),()):=by unfold Ia inR;cases h:decide (lo<=n)<;>simp
def Bl(fl:Int)(c:Car):Bool:=[c.C1,c.C3,c.H3,c.T2,c.J1,c.Q1,c.E3].all (inR 1 10000)&&(inR 0 10000 c.J2&&(aH (c.Q1<=c.E3)&&inR 0 (aC W (fl-1)) c.D4))
def YK(fl:Int)(c:Car):LG c.C1 c.C3 c.H3 c.J2 c.T2 c.J1 c.Q1 c.E3 c.D4 fl=E ((Bl fl c,()),()):=by
 have hm:7<=maxLen:=by decide
 unfold LG Bl;rw[Ct 1 10000 (l:=[c.C1,c.C3,c.H3,c.T2,c.J1,c.Q1,c.E3]) (by simpa using hm)];generalize [c.C1,c.C3,c.H3,c.T2,c.J1,c.Q1,c.E3].all (inR 1 10000)=a;rw[Ct 0 10000 (l:=[c.J2]) (by simp;omega),Ct 0 _ (l:=[c.D4]) (by simp;omega)];simp only[U,Z_,h3_,d6_];cases a
 .rfl
 .cases inR 0 10000 c.J2
  .rfl
  .by_cases h:c.Q1<=c.E3
   .have:decide (c.Q1<=c.E3)=C:=by simpa using h
    simp only[this,J,U,H_]
   .have:decide (c.Q1<=c.E3)=B:=by simpa using h
    simp only[this,J,H,U,H_,a9_]
def Bldg.tup(b:Bldg):Int×Int×Int×Int×Nat×Nat×Nat×List Car×Unit:=(b.C0,b.E0,b.I0,b.M0,b.J0,b.L0,b.N0,b.B0,())
def Car.tup(c:Car):Int×Int×Int×Int×Int×Int×Int×Int×Int×Unit:=(c.C1,c.C3,c.H3,c.J2,c.T2,c.J1,c.Q1,c.E3,c.D4,())
def Aii(b:Bldg)(c:Car){L:List Int}(hL:L.length=8) :
  Pi (((),(),L,(0:Int),()),(b.tup,c.tup,()))=E (if(L.take 7).all (inR 1 10000)then .inl (((),(),()),(b.tup,c.tup,()))else .inr ((B,()),())):=by
 have key:∀(m i:Nat),i+m=7->Cj (λx=>letI a:=x.2.2.1.2.2;letI d:=x.2.1.2.2;letI f:=a.2.2;letI g:=d.2.2;GK x.1.2.2.1 x.1.2.2.2.1 x.2.1.1 x.2.1.2.1 d.1 d.2.1 g.1 g.2.1 g.2.2.1 g.2.2.2.1 x.2.2.1.1 x.2.2.1.2.1 a.1 a.2.1 f.1 f.2.1 f.2.2.1 f.2.2.2.1 f.2.2.2.2.1) (m+1) (((),(),L,(i:Int),()),(b.tup,c.tup,()))=E (if((L.take 7).drop i).all (inR 1 10000)then .inl (((),(),()),(b.tup,c.tup,()))else .inr ((B,()),())):=by
  intro m;induction m with
  |zero=>
   intro i hi';refine AS ?_;show GK L (i:Int) b.C0 b.E0 b.I0 b.M0 b.J0 b.L0 b.N0 b.B0 c.C1 c.C3 c.H3 c.J2 c.T2 c.J1 c.Q1 c.E3 c.D4=_;unfold GK;have e:decide ((i:Int)<7)=B:=by simp;omega
   have hd:(L.take 7).drop i=[]:=List.drop_eq_nil_of_le (by simp;omega);rw[e,hd];rfl
  |succ m ih=>
   intro i hi';have e:decide ((i:Int)<7)=C:=by simp;omega
   have ib:inB (i:Int) L.length=C:=Ac ω ω;have tn:aA (i:Int)=i:=ω;have w:W.wrap ((i:Int)+1)=((i+1:Nat):Int):=by rw[Aa ω ω];omega
   have hg:(L.take 7).getD i 0=L.getD i 0:=by simp only[k_,List.getElem?_take];rw[if_pos ω]
   rw[Cm (0:Int) (show i<(L.take 7).length by simp;omega),hg,Z_];cases hr:inR 1 10000 (L.getD i 0)with
   |false=>refine(AS (y:=.inr ((B,()),())) ?_).trans rfl;show GK L (i:Int) b.C0 b.E0 b.I0 b.M0 b.J0 b.L0 b.N0 b.B0 c.C1 c.C3 c.H3 c.J2 c.T2 c.J1 c.Q1 c.E3 c.D4=_;unfold GK;simp only[e,ib,tn,MC,hr,J,U,d8_]
   |true=>
    refine(Cl (x':=(((),(),L,((i+1:Nat):Int),()),(b.tup,c.tup,()))) ?_).trans ?_
    .show GK L (i:Int) b.C0 b.E0 b.I0 b.M0 b.J0 b.L0 b.N0 b.B0 c.C1 c.C3 c.H3 c.J2 c.T2 c.J1 c.Q1 c.E3 c.D4=_;unfold GK;simp only[e,ib,tn,w,MC,hr,J,H,U,t_];rfl
    .rw[ih (i+1) ω,H_]
 have h0:=key 7 0 rfl;rw[V_]at h0;exact Aw h0 ω
def Agw(b:Bldg)(c:Car):RD b.C0 b.E0 b.I0 b.M0 b.J0 b.L0 b.N0 b.B0 c.C1 c.C3 c.H3 c.J2 c.T2 c.J1 c.Q1 c.E3 c.D4=E ((Bl b.C0 c,()),()):=by
 unfold RD Bl;by_cases h1:c.J2<0
 .have d1:decide (c.J2<0)=C:=by simpa using h1
  have d2:inR 0 10000 c.J2=B:=by rw[inR,show decide (0<=c.J2)=B from Z ω,a9_]
  rw[d1,J,d2,a9_,c7_]
 .have d1:decide (c.J2<0)=B:=by simpa using h1
  rw[d1,H];by_cases h2:10000<c.J2
  .have d1:decide (10000<c.J2)=C:=by simpa using h2
   have d2:inR 0 10000 c.J2=B:=by rw[inR,show decide (c.J2<=10000)=B from Z ω,c7_]
   rw[d1,J,d2,a9_,c7_]
  .have d1:decide (10000<c.J2)=B:=by simpa using h2
   have d2:inR 0 10000 c.J2=C:=An.2 ⟨ω,ω⟩;rw[d1,H,d2,H_];have hl:=Aii b c (L:=[c.C1,c.C3,c.H3,c.T2,c.J1,c.Q1,c.E3,W.wrap (c.J2+1)]) rfl;rw[show([c.C1,c.C3,c.H3,c.T2,c.J1,c.Q1,c.E3,W.wrap (c.J2+1)].take 7)=[c.C1,c.C3,c.H3,c.T2,c.J1,c.Q1,c.E3]from rfl]at hl;simp only[Bldg.tup,Car.tup]at hl;rw[hl];cases [c.C1,c.C3,c.H3,c.T2,c.J1,c.Q1,c.E3].all (inR 1 10000)with
   |false=>rfl
   |true=>
    simp only[g8_,U,H_,MC];by_cases h:c.Q1<=c.E3
    .have:decide (c.Q1<=c.E3)=C:=by simpa using h
     simp only[this,J,U,H_]
    .have:decide (c.Q1<=c.E3)=B:=by simpa using h
     simp only[this,H,U,a9_]
def Bldg.loadsOK(b:Bldg):Bool:=((Go.FloatKind.format Go.FloatKind.f64).order 0 b.J0==E Ordering.lt)&&(((Go.FloatKind.format Go.FloatKind.f64).order b.J0 b.L0==E Ordering.lt)&&(((Go.FloatKind.format Go.FloatKind.f64).order b.L0 b.N0==E Ordering.lt)&&((Go.FloatKind.format Go.FloatKind.f64).order b.N0 9218868437227405311==E Ordering.lt||(Go.FloatKind.format Go.FloatKind.f64).order b.N0 9218868437227405311==E Ordering.eq)))
def Bldg.code(b:Bldg):Int:=
 bif !inR 2 32 b.C0 then 10 else bif !inR 1 8 (b.B0.length:Int)then 11 else
 bif !(inR 1 16 b.E0&&inR 1 10000 b.M0&&b.B0.all (Bl b.C0))then 12 else bif !b.loadsOK then 13 else
 bif !inR (18*(b.B0.length:Int)+24) 65536 b.I0 then 14 else 0
def BL:Car:=⟨0,0,0,0,0,0,0,0,0⟩
def YL(b:Bldg)(hl:b.B0.length<=8)(g:Bool) :
  JU (((),g,b.B0,(b.B0.length:Int),(0:Int),()),(b.tup,()))=E (((),g&&b.B0.all (Bl b.C0),()),(b.tup,())):=by
 have key:∀(m i:Nat) (g:Bool),i+m=b.B0.length->Cj (λx=>letI a:=x.2.1.2.2;letI c:=a.2.2;FS x.1.2.1 x.1.2.2.1 x.1.2.2.2.1 x.1.2.2.2.2.1 x.2.1.1 x.2.1.2.1 a.1 a.2.1 c.1 c.2.1 c.2.2.1 c.2.2.2.1) (m+1) (((),g,b.B0,(b.B0.length:Int),(i:Int),()),(b.tup,()))=E (((),g&&(b.B0.drop i).all (Bl b.C0),()),(b.tup,())):=by
  intro m;induction m with
  |zero=>
   intro i g hi';refine AS ?_;show FS g b.B0 (b.B0.length:Int) (i:Int) b.C0 b.E0 b.I0 b.M0 b.J0 b.L0 b.N0 b.B0=_;unfold FS;have e:decide ((i:Int)<(b.B0.length:Int))=B:=by simp;omega
   rw[e,show i=b.B0.length by omega,b3_];simp only[H,h3_,d6_,Bldg.tup]
  |succ m ih=>
   intro i g hi';have e:decide ((i:Int)<(b.B0.length:Int))=C:=by simp;omega
   have ib:inB (i:Int) b.B0.length=C:=Ac ω ω;have tn:aA (i:Int)=i:=ω;have w:W.wrap ((i:Int)+1)=((i+1:Nat):Int):=by rw[Aa ω ω];omega
   rw[Cm BL (ω:i<b.B0.length),Z_];refine(Cl (x':=(((),g&&Bl b.C0 (b.B0.getD i BL),b.B0,(b.B0.length:Int),((i+1:Nat):Int),()),(b.tup,()))) ?_).trans ?_
   .show FS g b.B0 (b.B0.length:Int) (i:Int) b.C0 b.E0 b.I0 b.M0 b.J0 b.L0 b.N0 b.B0=_;unfold FS;simp only[e,ib,tn,J];rw[YK b.C0 (b.B0.getD i ⟨0,0,0,0,0,0,0,0,0⟩)];cases g
    .simp only[H,U,a9_,w];rfl
    .simp only[J,U,H_,w];rfl
   .rw[ih (i+1) _ ω,Bool.and_assoc]
 have h0:=key b.B0.length 0 g ω;rw[V_]at h0;exact Aw h0 ω
def Aih(b:Bldg)(hl:b.B0.length<=8)(g:Bool) :
  Ph (((),g,(0:Int),()),(b.tup,()))=E (((),g&&b.B0.all (Bl b.C0),()),(b.tup,())):=by
 have key:∀(m i:Nat) (g:Bool),i+m=b.B0.length->Cj (λx=>letI a:=x.2.1.2.2;letI c:=a.2.2;JB x.1.2.1 x.1.2.2.1 x.2.1.1 x.2.1.2.1 a.1 a.2.1 c.1 c.2.1 c.2.2.1 c.2.2.2.1) (m+1) (((),g,(i:Int),()),(b.tup,()))=E (((),g&&(b.B0.drop i).all (Bl b.C0),()),(b.tup,())):=by
  intro m;induction m with
  |zero=>
   intro i g hi';refine AS ?_;show JB g (i:Int) b.C0 b.E0 b.I0 b.M0 b.J0 b.L0 b.N0 b.B0=_;unfold JB;have e:decide ((i:Int)<(b.B0.length:Int))=B:=by simp;omega
   rw[e,show i=b.B0.length by omega,b3_];simp only[H,h3_,d6_,Bldg.tup]
  |succ m ih=>
   intro i g hi';have e:decide ((i:Int)<(b.B0.length:Int))=C:=by simp;omega
   have ib:inB (i:Int) b.B0.length=C:=Ac ω ω;have tn:aA (i:Int)=i:=ω;have w:W.wrap ((i:Int)+1)=((i+1:Nat):Int):=by rw[Aa ω ω];omega
   rw[Cm BL (ω:i<b.B0.length),Z_];refine(Cl (x':=(((),g&&Bl b.C0 (b.B0.getD i BL),((i+1:Nat):Int),()),(b.tup,()))) ?_).trans ?_
   .show JB g (i:Int) b.C0 b.E0 b.I0 b.M0 b.J0 b.L0 b.N0 b.B0=_;unfold JB;simp only[e,ib,tn,J];rw[Agw b (b.B0.getD i ⟨0,0,0,0,0,0,0,0,0⟩)];cases g
    .simp only[H,U,a9_,w];rfl
    .simp only[J,U,H_,w];rfl
   .rw[ih (i+1) _ ω,Bool.and_assoc]
 have h0:=key b.B0.length 0 g ω;rw[V_]at h0;exact Aw h0 ω
def YJ(b:Bldg):LE b.C0 b.E0 b.I0 b.M0 b.J0 b.L0 b.N0 b.B0=E ((b.loadsOK,()),()):=by
 unfold LE Bldg.loadsOK;cases(Go.FloatKind.format Go.FloatKind.f64).order 0 b.J0==E Ordering.lt
 .rfl
 cases(Go.FloatKind.format Go.FloatKind.f64).order b.J0 b.L0==E Ordering.lt
 .rfl
 cases(Go.FloatKind.format Go.FloatKind.f64).order b.L0 b.N0==E Ordering.lt
 .rfl
 rfl
def AC(b:Bldg):Az b.C0 b.E0 b.I0 b.M0 b.J0 b.L0 b.N0 b.B0=E ((b.code,()),()):=by
 have hm:8<=maxLen:=by decide
 unfold Az Bldg.code;rw[Ct 2 32 (l:=[b.C0]) (by simp;omega),Ct 1 8 (l:=[(b.B0.length:Int)]) (by simp;omega),Ct 1 16 (l:=[b.E0]) (by simp;omega),Ct 1 10000 (l:=[b.M0]) (by simp;omega)];simp only[U,Z_,h3_,d6_];cases inR 2 32 b.C0
 .rfl
 cases hc:inR 1 8 (b.B0.length:Int)
 .rfl
 have hlen:b.B0.length<=8:=by have:=(An.1 hc).2;omega
 have hg:(bif inR 1 16 b.E0 then E (((),inR 1 10000 b.M0,()),(b.tup,()))else E (((),B,()),(b.tup,())))=E (((),inR 1 16 b.E0&&inR 1 10000 b.M0,()),(b.tup,())):=by cases inR 1 16 b.E0<;>rfl
 simp only[Bldg.tup]at hg;simp only[t_,H,hg,U];have hl:=YL b hlen (inR 1 16 b.E0&&inR 1 10000 b.M0);simp only[Bldg.tup]at hl;rw[hl,U];cases inR 1 16 b.E0&&inR 1 10000 b.M0&&b.B0.all (Bl b.C0)
 .rfl
 simp only[t_,H];rw[YJ b,U];cases b.loadsOK
 .rfl
 simp only[t_,H];rw[show W.wrap (aC W (18*(b.B0.length:Int))+24)=18*(b.B0.length:Int)+24 by rw[Aa (n:=18*(b.B0.length:Int)) ω ω,Aa ω ω],
  Ct _ 65536 (l:=[b.I0]) (by simp;omega)]
 simp only[U,Z_,h3_,d6_];cases inR (18*(b.B0.length:Int)+24) 65536 b.I0<;>rfl
def QU(b:Bldg):MB b.C0 b.E0 b.I0 b.M0 b.J0 b.L0 b.N0 b.B0=E ((b.code,()),()):=by
 unfold MB Bldg.code;simp only[MC,U];cases inR 2 32 b.C0
 .rfl
 cases hc:inR 1 8 (b.B0.length:Int)
 .rfl
 have hlen:b.B0.length<=8:=by have:=(An.1 hc).2;omega
 have hg:(bif inR 1 16 b.E0 then E (((),inR 1 10000 b.M0,()),(b.tup,()))else E (((),B,()),(b.tup,())))=E (((),inR 1 16 b.E0&&inR 1 10000 b.M0,()),(b.tup,())):=by cases inR 1 16 b.E0<;>rfl
 simp only[Bldg.tup]at hg;simp only[t_,H,hg,U];have hl:=Aih b hlen (inR 1 16 b.E0&&inR 1 10000 b.M0);simp only[Bldg.tup]at hl;rw[hl,U];cases inR 1 16 b.E0&&inR 1 10000 b.M0&&b.B0.all (Bl b.C0)
 .rfl
 simp only[t_,H];unfold Bldg.loadsOK;cases(Go.FloatKind.format Go.FloatKind.f64).order 0 b.J0==E Ordering.lt
 .rfl
 cases(Go.FloatKind.format Go.FloatKind.f64).order b.J0 b.L0==E Ordering.lt
 .rfl
 cases(Go.FloatKind.format Go.FloatKind.f64).order b.L0 b.N0==E Ordering.lt
 .rfl
 simp only[J,H_];cases((Go.FloatKind.format Go.FloatKind.f64).order b.N0 9218868437227405311==E Ordering.lt||(Go.FloatKind.format Go.FloatKind.f64).order b.N0 9218868437227405311==E Ordering.eq)
 .rfl
 simp only[t_,H];rw[show W.wrap (aC W (18*(b.B0.length:Int))+24)=18*(b.B0.length:Int)+24 by rw[Aa (n:=18*(b.B0.length:Int)) ω ω,Aa ω ω]];cases inR (18*(b.B0.length:Int)+24) 65536 b.I0<;>rfl
def GM(fl i:Nat):Car:=⟨100,2,6,5,4,2,3,10,((i%fl:Nat):Int)⟩
def AH(fl ca:Nat):Bldg:=⟨fl,1,4000,30,4591870180066957722,4605380978949069210,4607632778762754458,(List.range ca).map (GM fl)⟩
def Bldg.none:Bldg:=⟨0,0,0,0,0,0,0,[]⟩
def Aec{fl ca:Nat}(h1:1<=fl)(h2:ca<=8):Nk fl ca=E (((),()),((AH fl ca).tup,())):=by
 have key:∀(m i:Nat),i+m=ca->Cj (λx=>letI a:=x.2.2.1.2.2;letI b:=x.2.1.2.2;letI d:=b.2.2;letI f:=a.2.2;IN x.1.1 x.1.2.1 x.1.2.2.2.2.1 x.2.1.1 x.2.1.2.1 b.1 b.2.1 d.1 d.2.1 d.2.2.1 d.2.2.2.1 x.2.2.1.1 x.2.2.1.2.1 a.1 a.2.1 f.1 f.2.1 f.2.2.1 f.2.2.2.1) (m+1) (((fl:Int),(ca:Int),(),(),(i:Int),()),(Bldg.none.tup,(AH fl i).tup,()))=E (((),(),()),(Bldg.none.tup,(AH fl ca).tup,())):=by
  intro m;induction m with
  |zero=>
   intro i hi';refine AS ?_;show IN (fl:Int) (ca:Int) (i:Int) Bldg.none.C0 Bldg.none.E0 Bldg.none.I0 Bldg.none.M0 Bldg.none.J0 Bldg.none.L0 Bldg.none.N0 Bldg.none.B0 (AH fl i).C0 (AH fl i).E0 (AH fl i).I0 (AH fl i).M0 (AH fl i).J0 (AH fl i).L0 (AH fl i).N0 (AH fl i).B0=_;unfold IN;have e:decide ((i:Int)<(ca:Int))=B:=by simp;omega
   rw[e,show i=ca by omega];rfl
  |succ m ih=>
   intro i hi';refine(Cl (x':=(((fl:Int),(ca:Int),(),(),((i+1:Nat):Int),()),(Bldg.none.tup,(AH fl (i+1)).tup,()))) ?_).trans (ih (i+1) ω);show IN (fl:Int) (ca:Int) (i:Int) Bldg.none.C0 Bldg.none.E0 Bldg.none.I0 Bldg.none.M0 Bldg.none.J0 Bldg.none.L0 Bldg.none.N0 Bldg.none.B0 (AH fl i).C0 (AH fl i).E0 (AH fl i).I0 (AH fl i).M0 (AH fl i).J0 (AH fl i).L0 (AH fl i).N0 (AH fl i).B0=_;unfold IN;have e:decide ((i:Int)<(ca:Int))=C:=by simp;omega
   have w:W.wrap ((i:Int)+1)=((i+1:Nat):Int):=by rw[Aa ω ω];omega
   have hz:((fl:Int) !=0)=C:=by simp;omega
   have hc:∀c:Car,aR ((AH fl i).B0.length+[c].length) 2147483648=C:=λc=>AR (by simp[AH];omega);have ht:Int.tmod (i:Int) (fl:Int)=((i%fl:Nat):Int):=by rw[b4_ ω];norm_cast
   simp only[e,hz,hc,w,ht,J];have hs:(AH fl (i+1)).B0=(AH fl i).B0++[GM fl i]:=by simp[AH,List.range_succ]
   simp only[Bldg.tup,hs];rfl
 unfold Nk;have h0:KW (((fl:Int),(ca:Int),(),(),(0:Int),()),(Bldg.none.tup,(AH fl 0).tup,()))=_:=Aw (key ca 0 ω) ω;rw[show KW (((fl:Int),(ca:Int),(),(),(0:Int),()),(((0:Int),(0:Int),(0:Int),(0:Int),0,0,0,([]:List Car),()),((fl:Int),(1:Int),(4000:Int),(30:Int),4591870180066957722,4605380978949069210,4607632778762754458,([]:List Car),()),()))=_ from h0];rfl
variable{α:Type}{b:Bldg}{i:Nat}{l:List α}
structure Bldg.small(b:Bldg):Prop where
 lo:2<=b.C0
 hi:b.C0<=8
def u8r(n:Int):Prop:=0<=n/\n<256
def Ap2:u8r 0:=⟨τ,τ⟩
def AL(d:α)(hi:i<l.length):l.getD i d∈l:=by simp only[k_,i_ hi,Option.getD_some];exact a6_ hi
def Bfj{P:α->Prop}(h:∀e∈l,P e){d:α}(hi:i<l.length):P (l.getD i d):=h _ (AL d hi)
def Ah(h:b.code=0):1<=b.B0.length/\b.B0.length<=8:=by
 unfold Bldg.code at h;cases h1:inR 1 8 (b.B0.length:Int)with
 |true=>have:=An.1 h1;omega
 |false=>rw[h1]at h;cases h2:inR 2 32 b.C0<;>rw[h2]at h<;>simp at h
def Zk(h:b.code=0):18*(b.B0.length:Int)+24<=b.I0/\b.I0<=65536:=by
 unfold Bldg.code at h;cases h1:inR (18*(b.B0.length:Int)+24) 65536 b.I0 with
 |true=>exact An.1 h1
 |false=>rw[h1]at h;simp only[d8_,J]at h;revert h;cases inR 2 32 b.C0<;>cases inR 1 8 (b.B0.length:Int)<;>cases inR 1 16 b.E0<;>cases inR 1 10000 b.M0<;>cases b.B0.all (Bl b.C0)<;>cases b.loadsOK<;>(intro h;simp at h)
end Go.Ovl
namespace Go.Ovl
open Go Go.Ab
variable{b:Bldg}{l:List O}{α:Type}{e:O}{c p:Int×Int}{r:aB}{k i f n:Nat}{d:Int}
def Rq(h:i<n):decide ((i:Int)<(n:Int))=C:=V ω
def Kh(h:i<n):inB (i:Int) n=C:=Ac ω ω
def On(n:Nat):decide ((n:Int)<(n:Int))=B:=Z (U_ _)
def Ae{β:Type}{o:Option α}{a:α}{f:α->Option β}{r:Option β}(h:o=E a)(h2:f a=r):aN o f=r:=by subst h;exact h2
def Aoj{X Y:Type}{step:X->Option (Sum X Y)}(N:Nat)(g:Nat->X)(y:Y)(h1:∀i,i<N->step (g i)=E (.inl (g (i+1))))(h2:step (g N)=E (.inr y)):∀m i:Nat,i+m=N->Cj step (m+1) (g i)=E y
 |0,i,hi=>by obtain rfl:i=N:=ω;exact AS h2
 |m+1,i,hi=>(Cl (h1 i ω)).trans (Aoj N g y h1 h2 m (i+1) ω)
def Ann(x y:Int):decide (x<y)=!decide (y<=x):=by by_cases h:y<=x<;>simp[h]<;>omega
def noE:O:=aF 0 0 0 0 B
structure Img where
 G0:List Int
 O0:List Bool
 K0:List Bool
 A0:List Entry
def Img.tup(m:Img):List Int×List Bool×List Bool×List O×Unit:=(m.G0,m.O0,m.K0,m.A0,())
def Img.none:Img:=⟨[],[],[],[]⟩
def RI(fl floor dir:Int):Bool:=(dir==1&&inR 0 (fl-2) floor)||(dir==2&&inR 1 (fl-1) floor)
def Zc{fl:Int}(h:0<=fl/\fl<100)(floor dir:Int):Kw fl floor dir=E ((RI fl floor dir,()),()):=by
 have w1:W.wrap (fl-1)=fl-1:=Aa ω ω;have w2:W.wrap (fl-2)=fl-2:=Aa ω ω;have k:∀lo hi:Int,BZ lo hi [floor]=E ((inR lo hi floor,()),()):=λlo hi=>by rw[Ct lo hi (show [floor].length<=maxLen from(show 1<=maxLen by decide))];simp
 unfold Kw RI;rw[w1,w2,k,k];cases dir==1<;>cases dir==2<;>cases inR 0 (fl-2) floor<;>rfl
def Ar(b:Bldg)(floor dir:Int):Bool:=b.code==0&&RI b.C0 floor dir
def Nz(hb:b.small)(floor dir:Int):GA b.C0 b.E0 b.I0 b.M0 b.J0 b.L0 b.N0 b.B0 floor dir=E ((Ar b floor dir,()),()):=by unfold GA Ar;rw[AC,Zc ⟨by have:=hb.lo;omega,by have:=hb.hi;omega⟩];simp only[U];cases b.code==0<;>rfl
def SO(hb:b.small)(floor dir:Int):Np b.C0 b.E0 b.I0 b.M0 b.J0 b.L0 b.N0 b.B0 floor dir=E ((Ar b floor dir,()),()):=by have lo:=hb.lo;have hi:=hb.hi;have w1:W.wrap (b.C0-1)=b.C0-1:=Aa ω ω;have w2:W.wrap (b.C0-2)=b.C0-2:=Aa ω ω;unfold Np Ar RI;rw[QU,w1,w2,MC,MC];simp only[U,bne];cases b.code==0<;>cases dir==1<;>cases dir==2<;>cases inR 0 (b.C0-2) floor<;>rfl
def Jn(b:Bldg)(e:O):Bool:=Ar b e.D0 e.H0&&(aH (-2<=e.R0)&&(aH (e.R0<(b.B0.length:Int))&&(aH (0<=e.D1)&&decide (e.D1<=255))))
def Ah5(hb:b.small)(e:O):OW b.C0 b.E0 b.I0 b.M0 b.J0 b.L0 b.N0 b.B0 e.D0 e.H0 e.R0 e.D1 e.D2=E ((Jn b e,()),()):=by unfold OW Jn;rw[Nz hb];simp only[U];cases Ar b e.D0 e.H0<;>cases decide (-2<=e.R0)<;>cases decide (e.R0<(b.B0.length:Int))<;>cases decide (0<=e.D1)<;>rfl
def BC(a b:O):Bool:=decide (a.D0<b.D0)||(a.D0==b.D0&&decide (a.H0<b.H0))
def Xm(x y:Int):Int:=bif decide (x<y)then -1 else bif decide (y<x)then 1 else 0
def IR(x y:Int):Fh x y=E ((Xm x y,()),()):=by unfold Fh ML Xm;simp only[U,O_,H];cases decide (x<y)<;>cases decide (y<x)<;>rfl
def Zj(x y:Int):Ni [x,y]=E (((bif x !=0 then x else y),()),()):=by
 have r:∀(l:List Int) (i:Nat),i<l.length->l.length<100->KZ 0 l (l.length:Int) (i:Int)=E (bif l.getD i 0 !=0 then aT (aT ((l.getD i 0,()),()))else aW (((0:Int),l,(l.length:Int),((i+1:Nat):Int),()),())):=λl i hi hl=>by
  have w:W.wrap ((i:Int)+1)=((i+1:Nat):Int):=by rw[Aa ω ω];omega
  unfold KZ;rw[V (ω:(i:Int)<(l.length:Int)),Ac (ω:(0:Int)<=(i:Int)) (ω:(i:Int)<(l.length:Int)),j_,w];simp only[J];cases l.getD i 0 !=0<;>rfl
 have r0:KZ 0 [x,y] 2 0=E (bif x !=0 then aT (aT ((x,()),()))else aW (((0:Int),[x,y],(2:Int),(1:Int),()),())):=r [x,y] 0 σ σ;have r1:KZ 0 [x,y] 2 1=E (bif y !=0 then aT (aT ((y,()),()))else aW (((0:Int),[x,y],(2:Int),(2:Int),()),())):=r [x,y] 1 σ σ;have h:Og (((0:Int),[x,y],(2:Int),(0:Int),()),())=E (bif x !=0 then .inr ((x,()),())else bif y !=0 then .inr ((y,()),())else .inl (((0:Int),()),())):=by
  refine Aw (f:=3) ?_ ω;cases hx:x !=0 with
  |true=>rw[hx]at r0;exact AS r0
  |false=>
   rw[hx]at r0;refine(Cl r0).trans ?_;cases hy:y !=0 with
   |true=>rw[hy]at r1;exact AS r1
   |false=>rw[hy]at r1;exact(Cl r1).trans (AS rfl)
 unfold Ni;rw[show((([x,y]:List Int).length:Nat):Int)=2 from rfl,h];cases hx:x !=0 with
 |true=>rfl
 |false=>
  cases hy:y !=0 with
  |true=>rfl
  |false=>
   have:y=0:=by simpa using hy
   subst this;rfl
def Ro(a b:O):∃n:Int,Jv a.D0 a.H0 a.R0 a.D1 a.D2 b.D0 b.H0 b.R0 b.D1 b.D2=E ((n,()),())/\decide (0<=n)=!BC a b/\(n=0↔a.D0=b.D0/\a.H0=b.H0):=by
 unfold Jv;rw[IR,IR];simp only[U];rw[Zj];refine⟨_,rfl,?_,?_⟩
 .unfold BC Xm;by_cases h1:a.D0<b.D0
  .rw[V h1];rfl
  .rw[Z h1];by_cases h2:b.D0<a.D0
   .rw[V h2,Ao (ω:¬a.D0=b.D0)];rfl
   .rw[Z h2,show(a.D0==b.D0)=C by simp;omega];by_cases h3:a.H0<b.H0
    .rw[V h3];rfl
    .rw[Z h3];cases decide (b.H0<a.H0)<;>rfl
 .unfold Xm;by_cases h1:a.D0<b.D0
  .rw[V h1];exact⟨(λh=>by cases h),(λh=>by omega)⟩
  .rw[Z h1];by_cases h2:b.D0<a.D0
   .rw[V h2];exact⟨(λh=>by cases h),(λh=>by omega)⟩
   .rw[Z h2];by_cases h3:a.H0<b.H0
    .rw[V h3];exact⟨(λh=>by cases h),(λh=>by omega)⟩
    .rw[Z h3];by_cases h4:b.H0<a.H0
     .rw[V h4];exact⟨(λh=>by cases h),(λh=>by omega)⟩
     .rw[Z h4];exact⟨λ_=>⟨ω,ω⟩,λ_=>rfl⟩
def Iy(b:Bldg):Option O->List O->Bool
 |_,[]=>C
 |p,e::t=>Jn b e&&((match p with|some q=>BC q e|none=>C)&&Iy b (E e) t)
def Img.ok(b:Bldg)(m:Img):Bool:=b.code==0&&((m.G0.length:Int)==(b.B0.length:Int)&&((m.O0.length:Int)==(b.B0.length:Int)&&((m.K0.length:Int)==(b.B0.length:Int)&&(m.G0.all (inR 0 4)&&Iy b Option.none m.A0))))
def TA(l:List O)(i:Nat):Option O:=if i=0 then none else E (l.getD (i-1) noE)
def Ava(h:i<l.length):Iy b (TA l i) (l.drop i)=(Jn b (l.getD i noE)&&((match TA l i with|some q=>BC q (l.getD i noE)|none=>C)&&Iy b (TA l (i+1)) (l.drop (i+1)))):=by rw[Cm noE h];simp only[Iy,TA,Nat.succ_ne_zero,f0_,Nat.add_sub_cancel]
def But{lo hi v:Int}{a c:α}:(bif decide (v<lo)then a else bif decide (hi<v)then a else c)=bif inR lo hi v then c else a:=by unfold inR;rw[Ann v lo,Ann hi v];cases decide (lo<=v)<;>cases decide (v<=hi)<;>rfl
def wrM(hn:n<=maxLen)(h:i<n):W.wrap ((i:Int)+1)=((i+1:Nat):Int):=by
 have:maxLen<=9223372036854775807:=by decide
 rw[Aa ω ω];omega
def wrP{j:Nat}(hn:n<=maxLen)(h:j+1<n):W.wrap (((j+1:Nat):Int)-1)=(j:Int):=by
 have:maxLen<=9223372036854775807:=by decide
 rw[Aa ω ω];omega
def As9{X Y:Type}{step:X->Option (Sum X Y)}{N:Nat}(hN:N<=maxLen)(g:Nat->X)(p q:Nat->Bool){y0 y1:Y}(hq:∀i,i<N->q i=(p i&&q (i+1)))(hN':q N=C)(h2:∀i,i<N->step (g i)=E (bif p i then .inl (g (i+1))else .inr y1))(h1:step (g N)=E (.inr y0)):Cj step Eh (g 0)=E (if q 0 then y0 else y1):=by
 have hmx:maxLen<=9223372036854775807:=by decide
 have key:∀k i:Nat,i+k=N->Cj step (k+1) (g i)=E (if q i then y0 else y1):=by
  intro k;induction k with
  |zero=>intro i hi;obtain rfl:i=N:=ω;rw[hN'];exact AS h1
  |succ k ih=>
   intro i hi;have h:=h2 i ω;rw[hq i ω];cases hp:p i with
   |true=>rw[hp]at h;exact(Cl h).trans (ih (i+1) ω)
   |false=>rw[hp]at h;exact AS h
 exact Aw (key N 0 ω) ω
def Be7(b:Bldg)(l:List O)(i:Nat):Bool:=Jn b (l.getD i noE)&&(match TA l i with|some q=>BC q (l.getD i noE)|none=>C)
def Bbk(h:i<l.length):Iy b (TA l i) (l.drop i)=(Be7 b l i&&Iy b (TA l (i+1)) (l.drop (i+1))):=by rw[Ava h,<-Bool.and_assoc];rfl
section
variable{b:Bldg}(hb:b.small)(m:Img)
include hb
theorem Ak5(hm:m.A0.length<=maxLen):Na (((),(),m.A0,(m.A0.length:Int),(0:Int),()),(b.tup,m.tup,()))=E (if Iy b none m.A0 then .inl ((),())else .inr ((B,()),())):=by
 refine As9 (N:=m.A0.length) hm (λi=>(((),(),m.A0,(m.A0.length:Int),(i:Int),()),(b.tup,m.tup,()))) (Be7 b m.A0) (λi=>Iy b (TA m.A0 i) (m.A0.drop i)) (λi hi=>Bbk hi) (by rw[b3_];rfl) (λi hi=>?_) (by show Kb m.A0 (m.A0.length:Int) (m.A0.length:Int) b.C0 b.E0 b.I0 b.M0 b.J0 b.L0 b.N0 b.B0 m.G0 m.O0 m.K0 m.A0=_;unfold Kb;rw[On];rfl);have he:=Ah5 hb (m.A0.getD i noE);unfold noE at he;show Kb m.A0 (m.A0.length:Int) (i:Int) b.C0 b.E0 b.I0 b.M0 b.J0 b.L0 b.N0 b.B0 m.G0 m.O0 m.K0 m.A0=_;unfold Kb Be7;rw[Rq hi,Kh hi];simp only[J,j_,he,U];unfold noE;cases Jn b (m.A0.getD i (aF 0 0 0 0 B))with
 |false=>rfl
 |true=>
  simp only[t_,H,H_];cases i with
  |zero=>rfl
  |succ j=>rw[V (ω:(0:Int)<((j+1:Nat):Int)),wrP hm hi,Kh (ω:j<m.A0.length)];obtain⟨n,c1,c2,_⟩:=Ro (m.A0.getD j noE) (m.A0.getD (j+1) noE);unfold noE at c1 c2;simp only[J,j_,c1,U,wrM hm hi,c2,TA,Nat.succ_ne_zero,f0_,Nat.add_sub_cancel];unfold noE;cases BC (m.A0.getD j (aF 0 0 0 0 B)) (m.A0.getD (j+1) (aF 0 0 0 0 B))<;>rfl
omit hb in
theorem Ak4(hm:m.G0.length<=maxLen):MY (((),(),m.G0,(m.G0.length:Int),(0:Int),()),(b.tup,m.tup,()))=E (if m.G0.all (inR 0 4)then .inl (((),(),()),(b.tup,m.tup,()))else .inr ((B,()),())):=by refine As9 (N:=m.G0.length) hm (λi=>(((),(),m.G0,(m.G0.length:Int),(i:Int),()),(b.tup,m.tup,()))) (λi=>inR 0 4 (m.G0.getD i 0)) (λi=>(m.G0.drop i).all (inR 0 4)) (λi hi=>by rw[Cm (0:Int) hi,Z_]) (by rw[b3_];rfl) (λi hi=>?_) (by show Ka m.G0 (m.G0.length:Int) (m.G0.length:Int) b.C0 b.E0 b.I0 b.M0 b.J0 b.L0 b.N0 b.B0 m.G0 m.O0 m.K0 m.A0=_;unfold Ka;rw[On];rfl);show Ka m.G0 (m.G0.length:Int) (i:Int) b.C0 b.E0 b.I0 b.M0 b.J0 b.L0 b.N0 b.B0 m.G0 m.O0 m.K0 m.A0=_;unfold Ka;rw[Rq hi,Kh hi,wrM hm hi];simp only[J,j_];rw[But];cases inR 0 4 (m.G0.getD i 0)<;>rfl
theorem Dv(hp:m.G0.length<=maxLen)(he:m.A0.length<=maxLen):CD b.C0 b.E0 b.I0 b.M0 b.J0 b.L0 b.N0 b.B0 m.G0 m.O0 m.K0 m.A0=E ((m.ok b,()),()):=by
 unfold CD Img.ok;rw[AC];simp only[U,bne];cases b.code==0 with
 |false=>rfl
 |true=>
  cases(m.G0.length:Int)==(b.B0.length:Int)with
  |false=>rfl
  |true=>
   cases(m.O0.length:Int)==(b.B0.length:Int)with
   |false=>rfl
   |true=>
    cases(m.K0.length:Int)==(b.B0.length:Int)with
    |false=>rfl
    |true=>
     have h0:=Ak4 (b:=b) m hp;have h1:=Ak5 hb m he;unfold Bldg.tup Img.tup at h0 h1;simp only[t_,H,h0,U,H_];cases m.G0.all (inR 0 4)with
     |false=>rfl
     |true=>simp only[g8_,h1,U,H_];cases Iy b none m.A0<;>rfl
end
def Wg(b:Bldg)(r:aB):Bool:=inR 0 ((b.B0.length:Int)-1) r.R0&&(r.D0==0&&r.H0==0)
def Ay(b:Bldg)(r:aB):Bool:=
 b.code==0&&(bif r.Q0==1 then Ar b r.D0 r.H0&&(r.R0==0&&r.X1==0)
 else bif r.Q0==2 then Ar b r.D0 r.H0&&(r.R0==0&&r.X1==0)
 else bif r.Q0==3 then Ar b r.D0 r.H0&&(inR (-2) ((b.B0.length:Int)-1) r.R0&&r.X1==0)
 else bif r.Q0==4 then Wg b r&&inR 0 4 r.X1
 else bif r.Q0==5 then Wg b r&&inR 0 1 r.X1
 else bif r.Q0==6 then Wg b r&&inR 0 1 r.X1
 else bif r.Q0==7 then Ar b r.D0 r.H0&&(inR 0 1 r.R0&&inR 0 255 r.X1)
 else B)
def isC(F D:Int)(e:O):Bool:=e.D0==F&&e.H0==D
def Et(F D:Int):List O->Nat->Int
 |[],_=>-1
 |e::t,i=>bif isC F D e then(i:Int)else Et F D t (i+1)
def To(F D:Int):∀(l:List O) (i:Nat),(Et F D l i=-1/\∀e∈l,isC F D e=B)\/∃k:Nat,k<l.length/\Et F D l i=((i+k:Nat):Int)/\isC F D (l.getD k noE)=C
 |[],_=>.inl ⟨rfl,λ_ h=>by cases h⟩
 |e::t,i=>by
  simp only[Et];cases h:isC F D e with
  |true=>exact .inr ⟨0,σ,rfl,h⟩
  |false=>
   rcases To F D t (i+1)with⟨h1,h2⟩|⟨k,h1,h2,h3⟩
   .refine .inl ⟨h1,λx hx=>?_⟩;rcases s_.1 hx with rfl|hx
    .exact h
    .exact h2 x hx
   .refine .inr ⟨k+1,by simp;omega,?_,h3⟩;rw[H,h2];congr 1;omega
def Ij(e:O):Bool->List O->List O
 |d,[]=>bif d then []else [e]
 |true,x::t=>x::Ij e C t
 |false,x::t=>bif BC e x then e::x::Ij e C t else x::Ij e B t
def Ac9(e:O):∀(l:List O) (d:Bool),(Ij e d l).length<=l.length+1
 |[],C=>by simp[Ij]
 |[],B=>by simp[Ij]
 |x::t,C=>by simp only[Ij,E_];have:=Ac9 e t C;omega
 |x::t,B=>by
  simp only[Ij];cases BC e x with
  |true=>
   simp only[J,E_]
   have:∀t:List O,Ij e C t=t:=λt=>by
    induction t with
    |nil=>rfl
    |cons a t ih=>simp only[Ij,ih]
   rw[this];omega
  |false=>simp only[H,E_];have:=Ac9 e t B;omega
def VC(e:O):∀t:List O,Ij e C t=t
 |[]=>rfl
 |a::t=>by simp only[Ij,VC e t]
def Img.put(m:Img)(l:List O):Img:=⟨m.G0,m.O0,m.K0,l⟩
def Agh(e:O)(c:Int):O:=⟨e.D0,e.H0,c,e.D1,e.D2⟩
def UQ(e:O)(n c:Int):O:=⟨e.D0,e.H0,e.R0,n,c==1⟩
def Ak(m:Img)(r:aB):Img:=
 bif r.Q0==4 then⟨m.G0.set r.R0.toNat r.X1,m.O0,m.K0,m.A0⟩
 else bif r.Q0==5 then⟨m.G0,m.O0.set r.R0.toNat (r.X1==1),m.K0,m.A0⟩
 else bif r.Q0==6 then⟨m.G0,m.O0,m.K0.set r.R0.toNat (r.X1==1),m.A0⟩
 else bif Et r.D0 r.H0 m.A0 0==-1 then(bif r.Q0==1 then m.put (Ij ⟨r.D0,r.H0,-1,0,B⟩ B m.A0)else m)
 else bif r.Q0==2 then m.put (m.A0.take (Et r.D0 r.H0 m.A0 0).toNat++m.A0.drop ((Et r.D0 r.H0 m.A0 0).toNat+1))
 else bif r.Q0==3 then m.put (m.A0.set (Et r.D0 r.H0 m.A0 0).toNat (Agh (m.A0.getD (Et r.D0 r.H0 m.A0 0).toNat noE) r.R0))
 else bif r.Q0==7 then m.put (m.A0.set (Et r.D0 r.H0 m.A0 0).toNat (UQ (m.A0.getD (Et r.D0 r.H0 m.A0 0).toNat noE) r.X1 r.R0))
 else m
def YX(b:Bldg)(m:Img)(r:aB):(Unit×Int×Unit)×((List Int×List Bool×List Bool×List O×Unit)×Unit):=bif m.ok b&&Ay b r then(((),0,()),((Ak m r).tup,()))else(((),1,()),(Img.none.tup,()))
def Agu(h:Ay b r=C)(hk:r.Q0=4\/r.Q0=5\/r.Q0=6):0<=r.R0/\r.R0<(b.B0.length:Int):=by
  unfold Ay Wg at h;have k:∀q:Bool,(r.R0≥0/\r.R0<=(b.B0.length:Int)-1)->0<=r.R0/\r.R0<(b.B0.length:Int):=λ_ h=>by omega
  rcases hk with hk|hk|hk<;>rw[hk]at h<;>
    (simp only[e_]at h
     have h':=h.2;simp only[show((4:Int)==1)=B from rfl,show((4:Int)==2)=B from rfl,show((4:Int)==3)=B from rfl,show((5:Int)==1)=B from rfl,show((5:Int)==2)=B from rfl,show((5:Int)==3)=B from rfl,show((5:Int)==4)=B from rfl,show((6:Int)==1)=B from rfl,show((6:Int)==2)=B from rfl,show((6:Int)==3)=B from rfl,show((6:Int)==4)=B from rfl,show((6:Int)==5)=B from rfl,m_,H,J,e_]at h'
     have:=An.1 h'.1.1
     exact k C ⟨this.1,this.2⟩)
section
variable{b:Bldg}(hb:b.small)(m:Img)(hm:m.A0.length<=1000)(r:aB)
include hb hm
end
def IF{a c:O}:BC a c=C↔a.D0<c.D0\/(a.D0=c.D0/\a.H0<c.H0):=by unfold BC;simp only[Q_,e_,q_,R_]
def RN{a c d:O}(h:BC a c=C)(h':BC c d=C):BC a d=C:=by rw[IF]at*;omega
def Ce(e:O):Int×Int:=(e.D0,e.H0)
def ltC(a c:Int×Int):Prop:=a.1<c.1\/(a.1=c.1/\a.2<c.2)
def Bk(l:List O):Prop:=(l.map Ce).Pairwise ltC
def Ff:Bk l↔l.Pairwise λx y=>BC x y=C:=by unfold Bk;rw[List.pairwise_map];exact⟨λh=>h.imp λhh=>IF.2 hh,λh=>h.imp λhh=>IF.1 hh⟩
def Ajb{b:Bldg}:∀{l:List O}{p:Option O},Iy b p l=C↔(∀e∈l,Jn b e=C)/\Bk l/\(∀q,p=E q->∀e∈l,BC q e=C)
 |[],p=>by simp[Iy,Bk]
 |a::t,p=>by
  simp only[Iy,e_];rw[Ajb (l:=t),Ff,Ff,e3_];constructor
  .rintro⟨h1,h2,h3,h4,h5⟩;refine⟨λe he=>?_,⟨λe he=>h5 a rfl e he,h4⟩,λq hq e he=>?_⟩
   .rcases s_.1 he with rfl|he
    .exact h1
    .exact h3 e he
   .subst hq;simp only at h2;rcases s_.1 he with rfl|he
    .exact h2
    .exact RN h2 (h5 a rfl e he)
  .rintro⟨h1,⟨h2,h3⟩,h4⟩;refine⟨h1 a (p_ ..),?_,λe he=>h1 e (r_ _ he),h3,λq hq e he=>?_⟩
   .cases p with
    |none=>rfl
    |some q=>exact h4 q rfl a (p_ ..)
   .obtain rfl:=F_ hq;exact h2 e he
def Ae4:Iy b none l=C↔(∀e∈l,Jn b e=C)/\Bk l:=by rw[Ajb];exact⟨λh=>⟨h.1,h.2.1⟩,λh=>⟨h.1,h.2,λ_ hq=>by cases hq⟩⟩
def Awt(h:Bk l)(k:Nat):Bk (l.take k++l.drop (k+1)):=by rw[Ff]at*;exact h.sublist (by rw[<-List.eraseIdx_eq_take_drop_succ];exact List.eraseIdx_sublist ..)
def UE(hk:k<l.length)(he:Ce e=Ce (l.getD k noE)):(l.set k e).map Ce=l.map Ce:=by
 rw[List.map_set,he];apply List.ext_getElem?;intro i;rw[List.getElem?_set];by_cases h:k=i
 .subst h;rw[if_pos rfl];simp[hk,k_]
 .rw[if_neg h]
def Agl(h:Bk l)(hk:k<l.length)(he:Ce e=Ce (l.getD k noE)):Bk (l.set k e):=by unfold Bk at*;rw[UE hk he];exact h
def Adi{e x:O}:∀{l:List O},x∈Ij e B l->x=e\/x∈l
 |[],h=>by simp[Ij]at h;exact .inl h
 |a::t,h=>by
  simp only[Ij]at h;cases hq:BC e a with
  |true=>
   rw[hq,J,VC]at h;rcases s_.1 h with h|h
   .exact .inl h
   .exact .inr h
  |false=>
   rw[hq,H]at h;rcases s_.1 h with h|h
   .exact .inr (by rw[h];exact p_ ..)
   .rcases Adi h with h|h
    .exact .inl h
    .exact .inr (r_ _ h)
def Agk{e:O}:∀{l:List O},Bk l->(∀x∈l,isC e.D0 e.H0 x=B)->Bk (Ij e B l)
 |[],_,_=>by simp[Ij,Bk]
 |a::t,h,hn=>by
  rw[Ff]at*;obtain⟨h1,h2⟩:=e3_.1 h;simp only[Ij];cases hq:BC e a with
  |true=>
   rw[J,VC];refine e3_.2 ⟨λx hx=>?_,h⟩;rcases s_.1 hx with rfl|hx
   .exact hq
   .exact RN hq (h1 x hx)
  |false=>
   rw[H];refine e3_.2 ⟨λx hx=>?_,Ff.1 (Agk (Ff.2 h2) λx hx=>hn x (r_ _ hx))⟩;rcases Adi hx with rfl|hx
   .rw[IF];have h3:¬(x.D0<a.D0\/(x.D0=a.D0/\x.H0<a.H0)):=λhh=>by rw[IF.2 hh]at hq;cases hq
    have h4:=hn a (p_ ..);unfold isC at h4;simp only[Bool.and_eq_false_iff,beq_eq_false_iff_ne]at h4;omega
   .exact h1 x hx
structure ImgOK(b:Bldg)(m:Img):Prop where
 code:b.code=0
 lp:m.G0.length=b.B0.length
 lf:m.O0.length=b.B0.length
 ll:m.K0.length=b.B0.length
 ph:∀p∈m.G0,0<=p/\p<=4
 en:∀e∈m.A0,Jn b e=true
 so:Bk m.A0
def Img.ok_iff{m:Img}:m.ok b=C↔ImgOK b m:=by
 unfold Img.ok;simp only[e_,R_];constructor
 .rintro⟨h0,h1,h2,h3,h4,h5⟩;have h6:=Ae4.1 h5;exact⟨h0,ω,ω,ω,λp hp=>An.1 (L_.1 h4 p hp),h6.1,h6.2⟩
 .rintro⟨h0,h1,h2,h3,h4,h5,h6⟩;exact⟨h0,ω,ω,ω,L_.2 λp hp=>An.2 (h4 p hp),Ae4.2 ⟨h5,h6⟩⟩
def CZ:Jn b e=C↔Ar b e.D0 e.H0=C/\(-2<=e.R0/\e.R0<(b.B0.length:Int))/\0<=e.D1/\e.D1<=255:=by
 unfold Jn;simp only[e_,q_];constructor
 .rintro⟨h1,h2,h3,h4,h5⟩;exact⟨h1,⟨h2,h3⟩,h4,h5⟩
 .rintro⟨h1,⟨h2,h3⟩,h4,h5⟩;exact⟨h1,h2,h3,h4,h5⟩
def Ah8{l:List α}{a x:α}(h:x∈l.set k a):x=a\/x∈l:=by
 rcases List.mem_or_eq_of_mem_set h with h|h
 .exact .inr h
 .exact .inl h
def Wy(h:Ay b r=C):b.code=0/\
    ((r.Q0=1/\Ar b r.D0 r.H0=C/\r.R0=0/\r.X1=0)\/(r.Q0=2/\Ar b r.D0 r.H0=C/\r.R0=0/\r.X1=0)\/
     (r.Q0=3/\Ar b r.D0 r.H0=C/\(-2<=r.R0/\r.R0<(b.B0.length:Int))/\r.X1=0)\/
     (r.Q0=4/\(0<=r.R0/\r.R0<(b.B0.length:Int))/\(0<=r.X1/\r.X1<=4))\/
     (r.Q0=5/\(0<=r.R0/\r.R0<(b.B0.length:Int))/\(0<=r.X1/\r.X1<=1))\/
     (r.Q0=6/\(0<=r.R0/\r.R0<(b.B0.length:Int))/\(0<=r.X1/\r.X1<=1))\/
     (r.Q0=7/\Ar b r.D0 r.H0=C/\(0<=r.R0/\r.R0<=1)/\(0<=r.X1/\r.X1<=255))):=by
  unfold Ay Wg at h;simp only[e_,R_]at h;obtain⟨h0,h⟩:=h;refine⟨h0,?_⟩;by_cases k1:r.Q0=1
  · rw[k1]at h;simp only[m_,J,e_,R_]at h;exact .inl ⟨k1,h.1,h.2⟩
  rw[Ao k1,H]at h;by_cases k2:r.Q0=2
  · rw[k2]at h;simp only[m_,J,e_,R_]at h;exact .inr (.inl ⟨k2,h.1,h.2⟩)
  rw[Ao k2,H]at h;by_cases k3:r.Q0=3
  · rw[k3]at h;simp only[m_,J,e_,R_,An]at h;exact .inr (.inr (.inl ⟨k3,h.1,ω,h.2.2⟩))
  rw[Ao k3,H]at h;by_cases k4:r.Q0=4
  · rw[k4]at h;simp only[m_,J,e_,R_,An]at h;exact .inr (.inr (.inr (.inl ⟨k4,ω,h.2⟩)))
  rw[Ao k4,H]at h;by_cases k5:r.Q0=5
  · rw[k5]at h;simp only[m_,J,e_,R_,An]at h;exact .inr (.inr (.inr (.inr (.inl ⟨k5,ω,h.2⟩))))
  rw[Ao k5,H]at h;by_cases k6:r.Q0=6
  · rw[k6]at h;simp only[m_,J,e_,R_,An]at h;exact .inr (.inr (.inr (.inr (.inr (.inl ⟨k6,ω,h.2⟩)))))
  rw[Ao k6,H]at h;by_cases k7:r.Q0=7
  · rw[k7]at h;simp only[m_,J,e_,An]at h;exact .inr (.inr (.inr (.inr (.inr (.inr ⟨k7,h.1,h.2.1,h.2.2⟩)))))
  rw[Ao k7]at h;cases h
def Af4{m:Img}(h:ImgOK b m)(h1:∀e∈l,Jn b e=C)(h2:Bk l):ImgOK b (m.put l):=⟨h.code,h.lp,h.lf,h.ll,h.ph,h1,h2⟩
def Asn{F D:Int}:isC F D e=C↔Ce e=(F,D):=by unfold isC Ce;simp only[e_,R_,f2_]
def Ke{m:Img}(h:ImgOK b m)(hv:Ay b r=C):ImgOK b (Ak m r)/\(Ak m r).A0.length<=m.A0.length+1:=by
 obtain⟨_,hk⟩:=Wy hv;unfold Ak;by_cases k4:r.Q0=4
 .rw[show(r.Q0==4)=C by rw[k4];rfl];refine⟨⟨h.code,by show(m.G0.set _ _).length=_;rw[z_];exact h.lp,h.lf,h.ll,λp hp=>?_,h.en,h.so⟩,bA _⟩;rcases Ah8 hp with rfl|hp
  .omega
  .exact h.ph p hp
 rw[Ao k4,H];by_cases k5:r.Q0=5
 .rw[show(r.Q0==5)=C by rw[k5];rfl];exact⟨⟨h.code,h.lp,by show(m.O0.set _ _).length=_;rw[z_];exact h.lf,h.ll,h.ph,h.en,h.so⟩,bA _⟩
 rw[Ao k5,H];by_cases k6:r.Q0=6
 .rw[show(r.Q0==6)=C by rw[k6];rfl];exact⟨⟨h.code,h.lp,h.lf,by show(m.K0.set _ _).length=_;rw[z_];exact h.ll,h.ph,h.en,h.so⟩,bA _⟩
 rw[Ao k6,H];rcases To r.D0 r.H0 m.A0 0 with⟨h1,h2⟩|⟨k,h1,h2,h3⟩
 .rw[h1,show((-1:Int)==-1)=C from rfl,J];by_cases k1:r.Q0=1
  .rw[show(r.Q0==1)=C by rw[k1];rfl,J];refine⟨Af4 h (λe he=>?_) (Agk h.so h2),Ac9 _ _ _⟩;rcases Adi he with rfl|he
   .rw[CZ];have hc:Ar b r.D0 r.H0=C:=by
     rcases hk with hk|hk|hk|hk|hk|hk|hk
     .exact hk.2.1
     all_goals omega
    exact⟨hc,⟨by show(-2:Int)<=-1;omega,by show(-1:Int)<_;omega⟩,by show(0:Int)<=0;omega,by show(0:Int)<=255;omega⟩
   .exact h.en e he
  .rw[Ao k1,H];exact⟨h,bA _⟩
 .rw[o_]at h2;rw[h2,Ao (ω:¬(k:Int)=-1),H,j_];have hmem:=AL noE h1;have hent:=CZ.1 (h.en _ hmem);cases r.Q0==2 with
  |true=>
   refine⟨Af4 h (λe he=>?_) (Awt h.so k),?_⟩
   .rcases n_.1 he with he|he
    .exact h.en e (e5_ he)
    .exact h.en e (e6_ he)
   .show(m.A0.take k++m.A0.drop (k+1)).length<=_;rw[g_,x_,W_];omega
  |false=>
   rw[H];by_cases k3:r.Q0=3
   .rw[show(r.Q0==3)=C by rw[k3];rfl,J];refine⟨Af4 h (λe he=>?_) (Agl h.so h1 rfl),by show(m.A0.set _ _).length<=_;rw[z_];omega⟩;rcases Ah8 he with rfl|he
    .rw[CZ];refine⟨hent.1,?_,hent.2.2⟩;show -2<=r.R0/\r.R0<_;rcases hk with hk|hk|hk|hk|hk|hk|hk
     all_goals first
      |exact hk.2.2.1
      |omega
    .exact h.en e he
   .rw[Ao k3,H];by_cases k7:r.Q0=7
    .rw[show(r.Q0==7)=C by rw[k7];rfl,J];refine⟨Af4 h (λe he=>?_) (Agl h.so h1 rfl),by show(m.A0.set _ _).length<=_;rw[z_];omega⟩;rcases Ah8 he with rfl|he
     .rw[CZ];refine⟨hent.1,hent.2.1,?_⟩;show 0<=r.X1/\r.X1<=255;rcases hk with hk|hk|hk|hk|hk|hk|hk
      all_goals first
       |exact hk.2.2.2
       |omega
     .exact h.en e he
    .rw[Ao k7,H];exact⟨h,bA _⟩
def Gu(b:Bldg):Img:=⟨aE b.B0.length 0,aE b.B0.length B,aE b.B0.length B,[]⟩
def Ac7(hcode:b.code=0):ImgOK b (Gu b):=⟨hcode,S_,S_,S_,(λp hp=>by rw[List.eq_of_mem_replicate hp];omega),(λ_ h=>by cases h),by simp[Gu,Bk]⟩
def Aj(m:Img):List aB->Img
 |[]=>m
 |r::t=>Aj (Ak m r) t
def YV{b:Bldg}:∀{rs:List aB}{m:Img},ImgOK b m->(∀r∈rs,Ay b r=C)->ImgOK b (Aj m rs)/\(Aj m rs).A0.length<=m.A0.length+rs.length
 |[],_,h,_=>⟨h,y_ _⟩
 |r::t,m,h,hv=>by obtain⟨h1,h2⟩:=Ke h (hv r (p_ ..));obtain⟨h3,h4⟩:=YV (rs:=t) h1 λx hx=>hv x (r_ _ hx);exact⟨h3,by show(Aj (Ak m r) t).A0.length<=_;rw[E_];omega⟩
def Adv(n lo hi:Int):Gj n lo hi=E ((inR lo hi n,()),()):=by unfold Gj inR;cases decide (lo<=n)<;>rfl
def QL(hb:b.small)(hc:b.B0.length<=100)(r:aB):IL b.C0 b.E0 b.I0 b.M0 b.J0 b.L0 b.N0 b.B0 r.Q0 r.D0 r.H0 r.R0 r.X1=E ((Ay b r,()),()):=by
  have w:W.wrap ((b.B0.length:Int)-1)=(b.B0.length:Int)-1:=Aa ω ω;unfold IL Ay Wg;rw[AC,Nz hb];simp only[U,bne,Adv,w];cases b.code==0 with
  |false=>rfl
  |true=>
    simp only[t_,H,H_];cases inR 0 ((b.B0.length:Int)-1) r.R0<;>cases r.D0==0<;>cases r.H0==0<;>
      (simp only[U,J,H,b2_,d6_,c7_,a9_,H_,w]
       by_cases k1:r.Q0=1
       · simp only[k1,m_,J]
         cases Ar b r.D0 r.H0<;>cases r.R0==0<;>rfl
       by_cases k2:r.Q0=2
       · simp only[k2,m_,J,H,show((2:Int)==1)=B from rfl]
         cases Ar b r.D0 r.H0<;>cases r.R0==0<;>rfl
       by_cases k3:r.Q0=3
       · simp only[k3,m_,J,H,show((3:Int)==1)=B from rfl,show((3:Int)==2)=B from rfl]
         cases Ar b r.D0 r.H0<;>cases inR (-2) ((b.B0.length:Int)-1) r.R0<;>rfl
       by_cases k4:r.Q0=4
       · simp only[k4,m_,J,H,show((4:Int)==1)=B from rfl,show((4:Int)==2)=B from rfl,show((4:Int)==3)=B from rfl,show((4:Int)==7)=B from rfl]
       by_cases k5:r.Q0=5
       · simp only[k5,m_,J,H,show((5:Int)==1)=B from rfl,show((5:Int)==2)=B from rfl,show((5:Int)==3)=B from rfl,show((5:Int)==7)=B from rfl,show((5:Int)==4)=B from rfl]
       by_cases k6:r.Q0=6
       · simp only[k6,m_,J,H,show((6:Int)==1)=B from rfl,show((6:Int)==2)=B from rfl,show((6:Int)==3)=B from rfl,show((6:Int)==7)=B from rfl,show((6:Int)==4)=B from rfl,show((6:Int)==5)=B from rfl]
       by_cases k7:r.Q0=7
       · simp only[k7,m_,J,H,show((7:Int)==1)=B from rfl,show((7:Int)==2)=B from rfl,show((7:Int)==3)=B from rfl,show((7:Int)==4)=B from rfl,show((7:Int)==5)=B from rfl,show((7:Int)==6)=B from rfl]
         cases Ar b r.D0 r.H0<;>cases inR 0 1 r.R0<;>rfl
       simp only[Ao k1,Ao k2,Ao k3,Ao k4,Ao k5,Ao k6,Ao k7,H])
def ZK(m:Img)(h1:m.G0.length<=100000)(h2:m.O0.length<=100000)(h3:m.K0.length<=100000)(h4:m.A0.length<=100000):OF m.G0 m.O0 m.K0 m.A0=E (((),()),(m.tup,())):=by
 have k:∀{α:Type}(l:List α),l.length<=100000->MH l=E ((l,()),()):=λl h=>by unfold MH;rw[AR (ω:l.length<=2147483648)];rfl
 unfold OF Bf AI AM;rw[k _ h1,k _ h2,k _ h3,k _ h4];rfl
def AB(c:O):List O->Nat
 |[]=>0
 |e::t=>bif BC e c then AB c t+1 else 0
def TO(c:O):∀l:List O,AB c l<=l.length
 |[]=>y_ _
 |e::t=>by
  have:=TO c t
  simp only[AB,E_];cases BC e c<;>simp<;>omega
def Aig(c:O):∀(l:List O) (k:Nat),k<AB c l->BC (l.getD k noE) c=C
 |[],k,h=>by simp[AB]at h
 |e::t,k,h=>by
  simp only[AB]at h;cases he:BC e c with
  |false=>rw[he]at h;simp at h
  |true=>
   rw[he]at h;cases k with
   |zero=>exact he
   |succ k=>exact Aig c t k (by simp at h;omega)
def Aif{c:O}:∀{l:List O},Bk l->∀k,AB c l<=k->k<l.length->BC (l.getD k noE) c=B
 |[],_,k,_,h=>by simp at h
 |e::t,hs,k,h1,h2=>by
  obtain⟨a1,a2⟩:=e3_.1 (Ff.1 hs);simp only[AB]at h1;cases he:BC e c with
  |true=>
   rw[he,J]at h1;cases k with
   |zero=>omega
   |succ k=>exact Aif (Ff.2 a2) k ω (by simp at h2;omega)
  |false=>
   cases k with
   |zero=>exact he
   |succ k=>
    cases hq:BC ((e::t).getD (k+1) noE) c with
    |false=>rfl
    |true=>
     have hm:t.getD k noE∈t:=AL noE (by simp at h2;omega)
     have:=RN (a1 _ hm) hq
     rw[he]at this;cases this
def XW{a c:O}(h:isC c.D0 c.H0 a=C):BC a c=B/\BC c a=B:=by
 unfold isC at h;simp only[e_,R_]at h;constructor
 all_goals
  apply Bool.eq_false_iff.2;intro hh;rw[IF]at hh;omega
def Aos{a c:O}(h:isC c.D0 c.H0 a=B)(h':BC a c=B):BC c a=C:=by
 rw[IF];have h1:¬(a.D0<c.D0\/(a.D0=c.D0/\a.H0<c.H0)):=λhh=>by rw[IF.2 hh]at h';cases h'
 unfold isC at h;simp only[Bool.and_eq_false_iff,beq_eq_false_iff_ne]at h;omega
def Ajv{a c:O}(h:BC a c=C):BC c a=B:=by apply Bool.eq_false_iff.2;intro hh;rw[IF]at*;omega
def XE{F D:Int}:∀{l:List O}{i:Nat},(∀x∈l,isC F D x=B)->Et F D l i=-1
 |[],_,_=>rfl
 |e::t,i,h=>by simp only[Et];rw[h e (p_ ..),H];exact XE λx hx=>h x (r_ _ hx)
def GO(c:O)(l:List O):Bool:=aY (AB c l) l.length&&isC c.D0 c.H0 (l.getD (AB c l) noE)
def Sm{c:O}:∀{l:List O}(i:Nat),Bk l->Et c.D0 c.H0 l i=bif GO c l then((i+AB c l:Nat):Int)else -1
 |[],_,_=>rfl
 |e::t,i,hs=>by
  obtain⟨a1,a2⟩:=e3_.1 (Ff.1 hs);have hpos:AB c (e::t)=bif BC e c then AB c t+1 else 0:=rfl;unfold GO;simp only[Et];rw[hpos];cases he:isC c.D0 c.H0 e with
  |true=>rw[(XW he).1];simp[he,show aY 0 (t.length+1)=C from rfl]
  |false=>
   cases hl:BC e c with
   |true=>rw[H,J,Sm (i+1) (Ff.2 a2)];unfold GO;rw[show((e::t).getD (AB c t+1) noE)=t.getD (AB c t) noE from rfl,E_,show aY (AB c t+1) (t.length+1)=aY (AB c t) t.length from rfl];rw[show i+1+AB c t=i+(AB c t+1)by omega]
   |false=>
    rw[H,H,show((e::t).getD 0 noE)=e from rfl,he,c7_,H];refine XE λx hx=>?_;cases hq:isC c.D0 c.H0 x with
    |false=>rfl
    |true=>have h1:=RN (Aos he hl) (a1 x hx);rw[(XW hq).2]at h1;cases h1
def XR{c:O}:∀{l:List O},(∀x∈l,isC c.D0 c.H0 x=B)->Ij c B l=l.take (AB c l)++[c]++l.drop (AB c l)
 |[],_=>rfl
 |e::t,h=>by
  simp only[Ij,AB];cases hl:BC e c with
  |true=>rw[Ajv hl,H,XR λx hx=>h x (r_ _ hx)];simp
  |false=>rw[Aos (h e (p_ ..)) hl,J,VC];simp
def Ajp{c:O}(hs:Bk l)(h:GO c l=B):∀x∈l,isC c.D0 c.H0 x=B:=by
 have h1:=Sm (c:=c) 0 hs;rw[h,H]at h1;rcases To c.D0 c.H0 l 0 with⟨_,h2⟩|⟨k,_,h2,_⟩
 .exact h2
 .rw[h1]at h2;omega
def Ax(F D:Int):O:=⟨F,D,0,0,B⟩
def Ajo{j:Nat}(h:i+j<9223372036854775808):W.wrap (aV (aC aZ (aC W ((i:Int)+(j:Int)))) ((2:Int)^(aQ (aA (1:Int)) (IntKind.bits aZ))))=(((i+j)/2:Nat):Int):=by rw[Aa (n:=(i:Int)+(j:Int)) ω ω,Gy ω ω];rw[show((2:Int)^(aQ (aA (1:Int)) (IntKind.bits aZ)))=2 from rfl];rw[P_ _ ω];rw[Aa ω ω];omega
def Ark(hs:Bk l)(hl:l.length<=100000)(F D:Int):
  AD ((l,(),(),(l.length:Int),(0:Int),(l.length:Int),()),((F,D,0,0,B,()),()))=E ((l,(),(),(l.length:Int),((AB (Ax F D) l:Nat):Int),()),((F,D,0,0,B,()),())):=by
 refine Bku (λx y=>∃i j:Nat,i<=AB (Ax F D) l/\AB (Ax F D) l<=j/\j<=l.length/\x=((l,(),(),(l.length:Int),(i:Int),(j:Int),()),((F,D,(0:Int),(0:Int),B,()),()))/\y=((l,(),(),(l.length:Int),((AB (Ax F D) l:Nat):Int),()),((F,D,(0:Int),(0:Int),B,()),()))) (λx=>x.1.2.2.2.2.2.1.toNat-x.1.2.2.2.2.1.toNat) ?_ (x:=((l,(),(),(l.length:Int),(0:Int),(l.length:Int),()),((F,D,0,0,B,()),()))) (y:=((l,(),(),(l.length:Int),((AB (Ax F D) l:Nat):Int),()),((F,D,0,0,B,()),()))) ⟨0,l.length,a3_ _,TO _ _,y_ _,rfl,rfl⟩ (by show((l.length:Int).toNat-aA 0)<_;omega);rintro _ _ ⟨i,j,h1,h2,h3,rfl,rfl⟩;show(∃x',AE l (l.length:Int) (i:Int) (j:Int) F D 0 0 B=_/\_)\/AE l (l.length:Int) (i:Int) (j:Int) F D 0 0 B=_;unfold AE;rw[Ajo ω];by_cases hij:i<j
 .left;have hh:(i+j)/2<l.length:=ω;obtain⟨n,c1,c2,_⟩:=Ro (l.getD ((i+j)/2) noE) (Ax F D);unfold Ax at c1;unfold noE at c1;simp only[V (ω:(i:Int)<(j:Int)),Ac (ω:(0:Int)<=(((i+j)/2:Nat):Int)) (ω:(((i+j)/2:Nat):Int)<(l.length:Int)),j_,J,c1,U];have c2':decide (n<0)=BC (l.getD ((i+j)/2) noE) (Ax F D):=by rw[Ann,c2,Bool.not_not]
  rw[c2'];cases hq:BC (l.getD ((i+j)/2) noE) (Ax F D)with
  |true=>
   have:(i+j)/2<AB (Ax F D) l:=by
    rcases g0_ ((i+j)/2) (AB (Ax F D) l)with h|h
    .exact h
    .have:=Aif hs _ h hh
     rw[hq]at this;cases this
   rw[J,show W.wrap ((((i+j)/2:Nat):Int)+1)=(((i+j)/2+1:Nat):Int)by rw[Aa ω ω];omega];exact⟨_,rfl,⟨(i+j)/2+1,j,ω,h2,h3,rfl,trivial⟩,by show aA (j:Int)-aA (((i+j)/2+1:Nat):Int)<aA (j:Int)-aA (i:Int);omega⟩
  |false=>
   have:AB (Ax F D) l<=(i+j)/2:=by
    rcases g0_ ((i+j)/2) (AB (Ax F D) l)with h|h
    .have:=Aig (Ax F D) l _ h
     rw[hq]at this;cases this
    .exact h
   rw[H];exact⟨_,rfl,⟨i,(i+j)/2,h1,this,ω,rfl,trivial⟩,by show aA (((i+j)/2:Nat):Int)-aA (i:Int)<aA (j:Int)-aA (i:Int);omega⟩
 .right;rw[Z (ω:¬(i:Int)<(j:Int)),show i=AB (Ax F D) l by omega];rfl
def Acc(m:Img)(hs:Bk m.A0)(hl:m.A0.length<=100000)(F D:Int):Qb m.G0 m.O0 m.K0 m.A0 F D=E ((((AB (Ax F D) m.A0:Nat):Int),GO (Ax F D) m.A0,()),()):=by
 unfold Qb Bc;simp only;rw[Ark hs hl F D];simp only[U];have hp:=TO (Ax F D) m.A0;unfold GO;by_cases h:AB (Ax F D) m.A0<m.A0.length
 .obtain⟨n,c1,_,c3⟩:=Ro (m.A0.getD (AB (Ax F D) m.A0) noE) (Ax F D);rw[V (ω:((AB (Ax F D) m.A0:Nat):Int)<(m.A0.length:Int)),Ac (ω:(0:Int)<=((AB (Ax F D) m.A0:Nat):Int)) (ω:((AB (Ax F D) m.A0:Nat):Int)<(m.A0.length:Int)),j_,show aY (AB (Ax F D) m.A0) m.A0.length=C by rw[g9_];exact h];have e:(n==0)=isC (Ax F D).D0 (Ax F D).H0 (m.A0.getD (AB (Ax F D) m.A0) noE):=by
   rw[bD,R_,c3];unfold isC;rw[e_,R_,R_]
  rw[<-e];generalize AB (Ax F D) m.A0=p at*;unfold noE at c1;unfold Ax at c1;simp only[J,c1,U,H_]
 .rw[Z (ω:¬((AB (Ax F D) m.A0:Nat):Int)<(m.A0.length:Int)),show aY (AB (Ax F D) m.A0) m.A0.length=B by rw[<-Bool.not_eq_true,g9_];exact h];rfl
def Bbz(x:O)(e:O):BC x (Ax e.D0 e.H0)=BC x e:=rfl
def UI(e:O):∀l:List O,AB (Ax e.D0 e.H0) l=AB e l
 |[]=>rfl
 |x::t=>by simp only[AB,Bbz,UI e t]
def YC{m:Img}(hs:Bk m.A0)(hl:m.A0.length<=100000)(r:aB)(hc:(r.Q0=4\/r.Q0=5\/r.Q0=6)->0<=r.R0/\r.R0<(m.G0.length:Int)/\r.R0<(m.O0.length:Int)/\r.R0<(m.K0.length:Int)) :
  Nm r.Q0 r.D0 r.H0 r.R0 r.X1 m.G0 m.O0 m.K0 m.A0=E ((),((Ak m r).tup,())):=by
 unfold Nm Ak;rw[Acc m hs hl];simp only[U];by_cases k4:r.Q0=4
 .obtain⟨c0,c1,c2,c3⟩:=hc (.inl k4);rw[k4];simp only[m_,J,Ac c0 c1];rfl
 rw[Ao k4];by_cases k5:r.Q0=5
 .obtain⟨c0,c1,c2,c3⟩:=hc (.inr (.inl k5));rw[k5];simp only[m_,J,H,Ac c0 c2];rfl
 rw[Ao k5];by_cases k6:r.Q0=6
 .obtain⟨c0,c1,c2,c3⟩:=hc (.inr (.inr k6));rw[k6];simp only[m_,J,H,Ac c0 c3];rfl
 rw[Ao k6];simp only[H];have hf:=Sm (c:=Ax r.D0 r.H0) 0 hs;simp only[o_]at hf;rw[show Et r.D0 r.H0 m.A0 0=_ from hf];have hp:=TO (Ax r.D0 r.H0) m.A0;cases hq:GO (Ax r.D0 r.H0) m.A0 with
 |false=>
  have hn:=Ajp hs hq;simp only[H,J,d8_,m_];by_cases k1:r.Q0=1
  .rw[k1];simp only[m_,J];unfold Ef Ac8;rw[V (ω:(0:Int)<=((AB (Ax r.D0 r.H0) m.A0:Nat):Int)),V (ω:((AB (Ax r.D0 r.H0) m.A0:Nat):Int)<=(m.A0.length:Int))];rw[show aY 0 [aF r.D0 r.H0 (-1) 0 B].length=C from rfl,AR (show m.A0.length+[aF r.D0 r.H0 (-1) 0 B].length<=2147483648 by rw[G_];omega)];have hi:=XR (c:=⟨r.D0,r.H0,-1,0,B⟩) (l:=m.A0) hn;rw[hi,show AB ⟨r.D0,r.H0,-1,0,B⟩ m.A0=AB (Ax r.D0 r.H0) m.A0 from(UI ⟨r.D0,r.H0,-1,0,B⟩ m.A0).symm];rfl
  .rw[Ao k1];cases r.Q0==2<;>cases r.Q0==3<;>cases r.Q0==7<;>rfl
 |true=>
  have hlt:AB (Ax r.D0 r.H0) m.A0<m.A0.length:=by unfold GO at hq;rw[e_,g9_]at hq;exact hq.1
  simp only[J,t_,H,Ao (ω:¬((AB (Ax r.D0 r.H0) m.A0:Nat):Int)=-1),j_];generalize AB (Ax r.D0 r.H0) m.A0=p at hp hlt|-;have w:W.wrap ((p:Int)+1)=((p+1:Nat):Int):=by rw[Aa ω ω];omega
  have ib:inB (p:Int) m.A0.length=C:=Ac ω ω;by_cases k1:r.Q0=1
  .simp only[k1,m_,J,H,show((1:Int)==2)=B from rfl,show((1:Int)==3)=B from rfl,show((1:Int)==7)=B from rfl];rfl
  rw[Ao k1,H];cases r.Q0==2 with
  |true=>unfold Ee Ano;simp only[J,w,V (ω:(0:Int)<=(p:Int)),V (ω:(p:Int)<((p+1:Nat):Int)),V (ω:((p+1:Nat):Int)<=(m.A0.length:Int)),b2_,U,j_];rfl
  |false=>
   simp only[H];cases r.Q0==3 with
   |true=>simp only[J,ib];rfl
   |false=>
    simp only[H];cases r.Q0==7 with
    |true=>
     have ib2:∀y:O,inB (p:Int) (m.A0.set p y).length=C:=λy=>Ac ω (by rw[z_];omega);have hg:∀y:O,(m.A0.set p y).getD p (aF 0 0 0 0 B)=y:=λy=>by simp[k_,hlt]
     simp only[J,ib,ib2,hg,h2_];rfl
    |false=>rfl
def ZH(hb:b.small)(hcl:b.B0.length<=100)(m:Img)(hp:m.G0.length<=100000)(hl:m.A0.length<=10000)(r:aB):
  OE b.C0 b.E0 b.I0 b.M0 b.J0 b.L0 b.N0 b.B0 m.G0 m.O0 m.K0 m.A0 r.Q0 r.D0 r.H0 r.R0 r.X1=E (YX b m r):=by
 have hmx:100000<=maxLen:=by decide
 unfold OE YX;rw[Dv hb m ω ω];simp only[U];cases hok:m.ok b with
 |false=>rfl
 |true=>
  rw[QL hb hcl r];simp only[t_,H,U,H_];cases hv:Ay b r with
  |false=>rfl
  |true=>
   have hm:=Img.ok_iff.1 hok;have h1:=hm.lp;have h2:=hm.lf;have h3:=hm.ll;simp only[t_,H,J];rw[ZK m hp ω ω ω];simp only[U,Img.tup];rw[YC hm.so ω r λhk=>by
    have:=Agu hv hk
    omega]
   rfl
def Ah3(b:Bldg):OU b.C0 b.E0 b.I0 b.M0 b.J0 b.L0 b.N0 b.B0=E (((),()),((bif b.code==0 then(Gu b).tup else Img.none.tup),())):=by
 unfold OU;rw[AC];simp only[U,bne];cases hc:b.code==0 with
 |false=>rfl
 |true=>
  have hlen:b.B0.length<=8:=by
   have hc':b.code=0:=by simpa using hc
   unfold Bldg.code at hc';cases h1:inR 1 8 (b.B0.length:Int)with
   |true=>have:=(An.1 h1).2;omega
   |false=>rw[h1]at hc';cases h2:inR 2 32 b.C0<;>rw[h2]at hc'<;>simp at hc'
  simp only[t_,H,J,V (ω:(0:Int)<=(b.B0.length:Int)),V (d9_ (b.B0.length:Int)),V (ω:(b.B0.length:Int)<=2147483648),b2_,j_];rfl
def Bw7{a b:Nat}(h:a<=100000)(h':b<=100000):W.wrap (aC W (18*W.wrap (aC W ((a:Int)+(b:Int))+1))+6)=18*((a:Int)+(b:Int)+1)+6:=by rw[Aa (n:=(a:Int)+(b:Int)) ω ω,Aa (n:=(a:Int)+(b:Int)+1) ω ω,Aa (n:=18*((a:Int)+(b:Int)+1)) ω ω,Aa ω ω]
def KG(b:Bldg)(m:Img):Bool:=m.ok b&&decide (18*((b.B0.length:Int)+(m.A0.length:Int)+1)+6<=b.I0)
def Acb(hb:b.small)(m:Img)(hc:b.B0.length<=100000)(hp:m.G0.length<=100000)(hl:m.A0.length<=100000):
  NW b.C0 b.E0 b.I0 b.M0 b.J0 b.L0 b.N0 b.B0 m.G0 m.O0 m.K0 m.A0=E ((KG b m,()),()):=by
 have hmx:100000<=maxLen:=by decide
 unfold NW KG;rw[Dv hb m ω ω];simp only[U,Bw7 hc hl];cases m.ok b<;>rfl
def Qu(p:Nat->Bool):Nat->Nat->Bool
 |0,_=>C
 |m+1,i=>p i&&Qu p m (i+1)
def VD{X Y:Type}{step:X->Option (Sum X Y)}(N:Nat)(g:Nat->X)(p:Nat->Bool)(y0 y1:Y)(h1:∀i,i<N->step (g i)=E (bif p i then .inl (g (i+1))else .inr y1))(h2:step (g N)=E (.inr y0)) :
  ∀m i:Nat,i+m=N->Cj step (m+1) (g i)=E (bif Qu p m i then y0 else y1)
 |0,i,hi=>by obtain rfl:i=N:=ω;exact AS h2
 |m+1,i,hi=>by
  have h:=h1 i ω;simp only[Qu];cases hp:p i with
  |true=>rw[hp]at h;rw[Cl h,H_];exact VD N g p y0 y1 h1 h2 m (i+1) ω
  |false=>rw[hp]at h;rw[AS h];rfl
def Arv{α:Type}(f:α->α->Bool)(hf:∀x y,f x y=C↔x=y)(d:α)(a b:List α)(hl:a.length=b.length):∀m i:Nat,i+m=a.length->(Qu (λi=>f (a.getD i d) (b.getD i d)) m i=C↔a.drop i=b.drop i)
 |0,i,hi=>by obtain rfl:i=a.length:=ω;rw[b3_,hl,b3_];exact⟨λ_=>rfl,λ_=>rfl⟩
 |m+1,i,hi=>by simp only[Qu,e_,hf];rw[Arv f hf d a b hl m (i+1) ω,Cm d (ω:i<a.length),Cm d (ω:i<b.length),List.cons.injEq]
def Bd8(f:α->α->Bool)(hf:∀x y,f x y=C↔x=y)(d:α){a b:List α}(hl:a.length=b.length):Qu (λi=>f (a.getD i d) (b.getD i d)) a.length 0=@decide (a=b) (Classical.propDecidable _):=by rw[bD,Arv f hf d a b hl a.length 0 ω];simp
noncomputable def eqL{α:Type}(a b:List α):Bool:=@decide (a=b) (Classical.propDecidable _)
def Ahp{a b:List α}(h:¬a.length=b.length):eqL a b=B:=by
 have:¬a=b:=λe=>h (by rw[e])
 unfold eqL;simp[this]
def Be9(a:List α):eqL a a=C:=by unfold eqL;simp
def Anw(f:α->α->Bool)(hf:∀x y,f x y=C↔x=y)(d:α){a b:List α}(hl:a.length=b.length):Qu (λi=>f (a.getD i d) (b.getD i d)) a.length 0=eqL a b:=Bd8 f hf d hl
def Aoq(a b:List α):(((a.length:Int) !=(b.length:Int))=C)↔¬a.length=b.length:=by simp;omega
def Ae5(x y:O):Bool:=(x.D0==y.D0)&&((x.H0==y.H0)&&((x.R0==y.R0)&&((x.D1==y.D1)&&((x.D2==y.D2)&&C))))
def Bbm(x y:O):Ae5 x y=C↔x=y:=by cases x;cases y;simp[Ae5]
def Amq [BEq α][LawfulBEq α](x y:α):(x==y)=C↔x=y:=R_
def AX:Nat:=10000000
def Gx(h:i<n)(hn:n<=AX):W.wrap ((i:Int)+1)=((i+1:Nat):Int):=by unfold AX at hn;rw[Aa ω ω];omega
section
variable{α:Type}
def Ad3{a b:List Int}(ha:a.length<=AX):FX a b=E ((eqL a b,()),()):=by
 unfold FX;by_cases hl:a.length=b.length
 .rw[show((a.length:Int) !=(b.length:Int))=B by simp[hl],H];have h:=Aw (VD (step:=λx=>CL x.1.1 x.1.2.1 x.1.2.2.1 x.1.2.2.2.1) a.length (λi=>((a,b,(a.length:Int),(i:Int),()),())) (λi=>a.getD i 0==b.getD i 0) (aW ((),())) (aT ((B,()),())) (λi hi=>by
   show CL a b (a.length:Int) (i:Int)=_;unfold CL;simp only[V (ω:(i:Int)<(a.length:Int)),Ac (ω:(0:Int)<=(i:Int)) (ω:(i:Int)<(a.length:Int)),Ac (ω:(0:Int)<=(i:Int)) (ω:(i:Int)<(b.length:Int)),J,j_,Gx hi ha,bne];cases a.getD i 0==b.getD i 0<;>rfl) (by
   show CL a b (a.length:Int) (a.length:Int)=_;unfold CL;simp only[Z (U_ (a.length:Int)),H]) a.length 0 ω) (by unfold AX at ha;omega)
  rw[Anw (λx y=>x==y) Amq 0 hl]at h;rw[show Fv ((a,b,(a.length:Int),(0:Int),()),())=_ from h];cases eqL a b<;>rfl
 .rw[(Aoq a b).2 hl,Ahp hl];rfl
def ST{a b:List Bool}(ha:a.length<=AX):DA a b=E ((eqL a b,()),()):=by
 unfold DA;by_cases hl:a.length=b.length
 .rw[show((a.length:Int) !=(b.length:Int))=B by simp[hl],H];have h:=Aw (VD (step:=λx=>Cs x.1.1 x.1.2.1 x.1.2.2.1 x.1.2.2.2.1) a.length (λi=>((a,b,(a.length:Int),(i:Int),()),())) (λi=>a.getD i B==b.getD i B) (aW ((),())) (aT ((B,()),())) (λi hi=>by
   show Cs a b (a.length:Int) (i:Int)=_;unfold Cs;simp only[V (ω:(i:Int)<(a.length:Int)),Ac (ω:(0:Int)<=(i:Int)) (ω:(i:Int)<(a.length:Int)),Ac (ω:(0:Int)<=(i:Int)) (ω:(i:Int)<(b.length:Int)),J,j_,Gx hi ha];cases a.getD i B==b.getD i B<;>rfl) (by
   show Cs a b (a.length:Int) (a.length:Int)=_;unfold Cs;simp only[Z (U_ (a.length:Int)),H]) a.length 0 ω) (by unfold AX at ha;omega)
  rw[Anw (λx y=>x==y) Amq B hl]at h;rw[show EC ((a,b,(a.length:Int),(0:Int),()),())=_ from h];cases eqL a b<;>rfl
 .rw[(Aoq a b).2 hl,Ahp hl];rfl
def Aaf{a b:List O}(ha:a.length<=AX):CQ a b=E ((eqL a b,()),()):=by
 unfold CQ;by_cases hl:a.length=b.length
 .rw[show((a.length:Int) !=(b.length:Int))=B by simp[hl],H];have h:=Aw (VD (step:=λx=>Bg x.1.1 x.1.2.1 x.1.2.2.1 x.1.2.2.2.1) a.length (λi=>((a,b,(a.length:Int),(i:Int),()),())) (λi=>Ae5 (a.getD i noE) (b.getD i noE)) (aW ((),())) (aT ((B,()),())) (λi hi=>by
   show Bg a b (a.length:Int) (i:Int)=_;unfold Bg Ae5 noE;simp only[V (ω:(i:Int)<(a.length:Int)),Ac (ω:(0:Int)<=(i:Int)) (ω:(i:Int)<(a.length:Int)),Ac (ω:(0:Int)<=(i:Int)) (ω:(i:Int)<(b.length:Int)),J,j_,Gx hi ha];generalize((a.getD i (aF 0 0 0 0 B)).D0==(b.getD i (aF 0 0 0 0 B)).D0&&((a.getD i (aF 0 0 0 0 B)).H0==(b.getD i (aF 0 0 0 0 B)).H0&&((a.getD i (aF 0 0 0 0 B)).R0==(b.getD i (aF 0 0 0 0 B)).R0&&((a.getD i (aF 0 0 0 0 B)).D1==(b.getD i (aF 0 0 0 0 B)).D1&&((a.getD i (aF 0 0 0 0 B)).D2==(b.getD i (aF 0 0 0 0 B)).D2&&C)))))=q;cases q<;>rfl) (by
   show Bg a b (a.length:Int) (a.length:Int)=_;unfold Bg;simp only[Z (U_ (a.length:Int)),H]) a.length 0 ω) (by unfold AX at ha;omega)
  rw[Anw Ae5 Bbm noE hl]at h;rw[show CE ((a,b,(a.length:Int),(0:Int),()),())=_ from h];cases eqL a b<;>rfl
 .rw[(Aoq a b).2 hl,Ahp hl];rfl
end
structure Img.fit(m:Img):Prop where
 p:m.G0.length<=100000
 f:m.O0.length<=100000
 l:m.K0.length<=100000
 e:m.A0.length<=100000
noncomputable def Al1(a c:Img):Bool:=eqL a.G0 c.G0&&(eqL a.O0 c.O0&&(eqL a.K0 c.K0&&eqL a.A0 c.A0))
def Awe(a:Img):Al1 a a=C:=by unfold Al1;simp[Be9]
def Arb{a c:Img}(ha:a.fit):SX a.G0 a.O0 a.K0 a.A0 c.G0 c.O0 c.K0 c.A0=E ((Al1 a c,()),()):=by
 have h5:100000<=AX:=by decide
 unfold SX Al1;rw[Ad3 (by have:=ha.p;omega),ST (by have:=ha.f;omega),ST (by have:=ha.l;omega),Aaf (by have:=ha.e;omega)];cases eqL a.G0 c.G0<;>cases eqL a.O0 c.O0<;>cases eqL a.K0 c.K0<;>rfl
section
variable{a c:Img}(ha:a.fit)
include ha
end
def Yb(on:Bool):Int:=bif on then 1 else 0
def YD(on:Bool):KP on=E ((Yb on,()),()):=by unfold KP Yb;cases on<;>rfl
def TE(m:Img)(i:Nat):List aB:=[⟨4,0,0,i,m.G0.getD i 0⟩,⟨5,0,0,i,Yb (m.O0.getD i B)⟩,⟨6,0,0,i,Yb (m.K0.getD i B)⟩]
def RS(e:O):List aB:=[⟨1,e.D0,e.H0,0,0⟩,⟨3,e.D0,e.H0,e.R0,0⟩,⟨7,e.D0,e.H0,Yb e.D2,e.D1⟩]
def Fd(m:Img):List aB:=(aI 0 m.G0.length).flatMap (TE m)++m.A0.flatMap RS
def NI{α:Type}(f:Nat->List α):∀(k i:Nat) (s:List α),AV (λi s=>s++f i) k i s=s++(aI i k).flatMap f
 |0,i,s=>by simp[AV]
 |k+1,i,s=>by simp only[AV];rw[NI f k (i+1),e2_,a1_,M_]
def QK{α β:Type}(f:α->List β)(d:α):∀(l:List α) (i k:Nat),i+k=l.length->(aI i k).flatMap (λi=>f (l.getD i d))=(l.drop i).flatMap f
 |l,i,0,h=>by obtain rfl:i=l.length:=ω;simp
 |l,i,k+1,h=>by rw[e2_,a1_,QK f d l (i+1) k ω,Cm d (ω:i<l.length),a1_]
def Avb(l:List O):(aI 0 l.length).flatMap (λi=>RS (l.getD i noE))=l.flatMap RS:=by rw[QK RS noE l 0 l.length ω,V_]
section
variable{m:Img}(hf:m.fit)
include hf
theorem ZJ{out:List aB}(ho:out.length<=300000):LS (((),m.A0,(m.A0.length:Int),(0:Int),()),((out,()),()))=E (((),()),((out++m.A0.flatMap RS,()),())):=by
 have hl:=hf.e;have h:=Cb (step:=λx=>Hi x.1.2.1 x.1.2.2.1 x.1.2.2.2.1 x.2.1.1) m.A0.length (λi s=>(((),m.A0,(m.A0.length:Int),(i:Int),()),((s,()),()))) (λi s=>s++RS (m.A0.getD i noE)) (λi s=>s.length=out.length+3*i) (λs=>(((),()),((s,()),()))) (λi s hi hs=>by
  refine⟨?_,by rw[g_,hs];show _+3=_;omega⟩;show Hi m.A0 (m.A0.length:Int) (i:Int) s=_;have b1:∀r:aB,aR (s.length+[r].length) 2147483648=C:=λr=>AR (by rw[G_];omega);have b2:∀r r':aB,aR ((s++[r]).length+[r'].length) 2147483648=C:=λr r'=>AR (by rw[g_,G_,G_];omega);have b3:∀r r' r'':aB,aR ((s++[r]++[r']).length+[r''].length) 2147483648=C:=λr r' r''=>AR (by rw[g_,g_,G_,G_,G_];omega);unfold Hi IX;simp only[V (ω:(i:Int)<(m.A0.length:Int)),Ac (ω:(0:Int)<=(i:Int)) (ω:(i:Int)<(m.A0.length:Int)),J,j_,YD,U,b1,b2,b3,Gx hi (show m.A0.length<=AX by unfold AX;omega)];simp only[M_];rfl) (λs _=>by
  show Hi m.A0 (m.A0.length:Int) (m.A0.length:Int) s=_;unfold Hi;simp only[Z (U_ (m.A0.length:Int)),H]) m.A0.length 0 out ω rfl
 have h':=Aw h.1 ω;rw[NI,Avb]at h';exact h'
theorem ZI(h1:m.O0.length=m.G0.length)(h2:m.K0.length=m.G0.length):LR (((),(),(m.G0.length:Int),(0:Int),()),(m.tup,(([]:List aB),()),()))=E (((),(),()),(m.tup,((aI 0 m.G0.length).flatMap (TE m),()),())):=by
 have hl:=hf.p;have h:=Cb (step:=λx=>Hh x.1.2.2.1 x.1.2.2.2.1 x.2.1.1 x.2.1.2.1 x.2.1.2.2.1 x.2.1.2.2.2.1 x.2.2.1.1) m.G0.length (λi s=>(((),(),(m.G0.length:Int),(i:Int),()),(m.tup,(s,()),()))) (λi s=>s++TE m i) (λi s=>s.length=3*i) (λs=>(((),(),()),(m.tup,(s,()),()))) (λi s hi hs=>by
  refine⟨?_,by rw[g_,hs];show _+3=_;omega⟩;show Hh (m.G0.length:Int) (i:Int) m.G0 m.O0 m.K0 m.A0 s=_;have b1:∀r:aB,aR (s.length+[r].length) 2147483648=C:=λr=>AR (by rw[G_];omega);have b2:∀r r':aB,aR ((s++[r]).length+[r'].length) 2147483648=C:=λr r'=>AR (by rw[g_,G_,G_];omega);have b3:∀r r' r'':aB,aR ((s++[r]++[r']).length+[r''].length) 2147483648=C:=λr r' r''=>AR (by rw[g_,g_,G_,G_,G_];omega);unfold Hh IW;simp only[V (ω:(i:Int)<(m.G0.length:Int)),Ac (ω:(0:Int)<=(i:Int)) (ω:(i:Int)<(m.G0.length:Int)),Ac (ω:(0:Int)<=(i:Int)) (ω:(i:Int)<(m.O0.length:Int)),Ac (ω:(0:Int)<=(i:Int)) (ω:(i:Int)<(m.K0.length:Int)),J,j_,YD,U,b1,b2,b3,Gx hi (show m.G0.length<=AX by unfold AX;omega)];simp only[M_];rfl) (λs _=>by
  show Hh (m.G0.length:Int) (m.G0.length:Int) m.G0 m.O0 m.K0 m.A0 s=_;unfold Hh;simp only[Z (U_ (m.G0.length:Int)),H];rfl) m.G0.length 0 [] ω rfl
 have h':=Aw h.1 ω;rw[NI,a4_]at h';exact h'
end
def Uw{α β:Type}(f:α->List β)(hf:∀x,(f x).length=3):∀l:List α,(l.flatMap f).length=3*l.length
 |[]=>rfl
 |a::t=>by rw[a1_,g_,hf,Uw f hf t,E_];omega
def Aki(m:Img)(n:Nat):((aI 0 n).flatMap (TE m)).length=3*n:=by rw[Uw _ λ_=>rfl,List.length_range']
def Akk(m:Img):(Fd m).length=3*(m.G0.length+m.A0.length):=by unfold Fd;rw[g_,Aki,Uw _ λ_=>rfl];omega
def Al3(b:Bldg)(m:Img):List aB:=bif m.ok b then Fd m else []
section
variable{b:Bldg}(hb:b.small){m:Img}(hf:m.fit)
include hb hf
theorem Afv:NX b.C0 b.E0 b.I0 b.M0 b.J0 b.L0 b.N0 b.B0 m.G0 m.O0 m.K0 m.A0=E ((Al3 b m,()),()):=by
 have hmx:100000<=maxLen:=by decide
 have hp:=hf.p;have he:=hf.e;unfold NX Al3;rw[Dv hb m ω ω];simp only[U];cases hok:m.ok b with
 |false=>rfl
 |true=>have hm:=Img.ok_iff.1 hok;have l0:=ZI hf (by rw[hm.lf,hm.lp]) (by rw[hm.ll,hm.lp]);have l1:=ZJ hf (out:=(aI 0 m.G0.length).flatMap (TE m)) (by rw[Aki];omega);simp only[Img.tup]at l0;simp only[t_,H,J,l0,l1,U];rfl
end
def EO(m:Img):∀(a c:List aB),Aj m (a++c)=Aj (Aj m a) c
 |[],_=>rfl
 |r::t,c=>by show Aj (Ak m r) (t++c)=Aj (Aj (Ak m r) t) c;exact EO (Ak m r) t c
def Aiq(l:List α)(z d:α)(hk:k<n)(hl:l.length=n):(l.take k++aE (n-k) z).set k (l.getD k d)=l.take (k+1)++aE (n-(k+1)) z:=by
 have h1:(l.take k).length=k:=by rw[x_];omega
 rw[List.set_append_right _ _ ω,h1,Nat.sub_self,show n-k=(n-(k+1))+1 by omega,List.replicate_succ,List.set_cons_zero];have h2:k<l.length:=ω;rw[show l.getD k d=l[k]by simp[h2]];rw[List.take_succ_eq_append_getElem h2,M_];rfl
def Arw(m:Img)(a c d:aB):Aj m [a,c,d]=Ak (Ak (Ak m a) c) d:=rfl
def Asw(on:Bool):(Yb on==1)=on:=by cases on<;>rfl
def Arm{m:Img}(hk:k<n)(h1:m.G0.length=n)(h2:m.O0.length=n)(h3:m.K0.length=n):
  Aj ⟨m.G0.take k++aE (n-k) 0,m.O0.take k++aE (n-k) B,m.K0.take k++aE (n-k) B,[]⟩ (TE m k)=⟨m.G0.take (k+1)++aE (n-(k+1)) 0,m.O0.take (k+1)++aE (n-(k+1)) B,m.K0.take (k+1)++aE (n-(k+1)) B,[]⟩:=by
 have e1:=Aiq m.G0 0 0 hk h1;have e2:=Aiq m.O0 B B hk h2;have e3:=Aiq m.K0 B B hk h3;unfold TE;rw[Arw];unfold Ak;simp only[show((4:Int)==4)=C from rfl,show((5:Int)==4)=B from rfl,show((5:Int)==5)=C from rfl,show((6:Int)==4)=B from rfl,show((6:Int)==5)=B from rfl,show((6:Int)==6)=C from rfl,J,H,j_,Asw,e1,e2,e3]
def Akh{m:Img}{n:Nat}(h1:m.G0.length=n)(h2:m.O0.length=n)(h3:m.K0.length=n):∀j k:Nat,k+j=n->
  Aj ⟨m.G0.take k++aE (n-k) 0,m.O0.take k++aE (n-k) B,m.K0.take k++aE (n-k) B,[]⟩ ((aI k j).flatMap (TE m))=⟨m.G0,m.O0,m.K0,[]⟩
 |0,k,h=>by obtain rfl:k=n:=ω;rw[Nat.sub_self];simp only[List.replicate_zero,Y_];rw[a8_ ω,a8_ ω,a8_ ω];rfl
 |j+1,k,h=>by rw[e2_,a1_,EO,Arm ω h1 h2 h3];exact Akh h1 h2 h3 j (k+1) ω
def Aje{F D:Int}{x:O}(hx:isC F D x=C):∀(l:List O) (i:Nat),(∀e∈l,isC F D e=B)->Et F D (l++[x]) i=((i+l.length:Nat):Int)
 |[],i,_=>by simp[Et,hx]
 |e::t,i,h=>by rw[List.cons_append];simp only[Et];rw[h e (p_ ..),H,Aje hx t (i+1) λy hy=>h y (r_ _ hy),E_];congr 1;omega
def Aoc{x:O}:∀{l:List O},(∀e∈l,BC x e=B)->Ij x B l=l++[x]
 |[],_=>rfl
 |e::t,h=>by simp only[Ij];rw[h e (p_ ..),H,Aoc λy hy=>h y (r_ _ hy)];rfl
def Arn{m:Img}(h:∀x∈m.A0,BC x e=C):Aj m (RS e)=m.put (m.A0++[e]):=by
 have hn:∀x∈m.A0,isC e.D0 e.H0 x=B:=λx hx=>by
  cases hq:isC e.D0 e.H0 x with
  |false=>rfl
  |true=>
   have:=(XW (c:=e) hq).1
   rw[h x hx]at this;cases this
 have e0:∀(c k:Int) (q:Bool),isC e.D0 e.H0 ⟨e.D0,e.H0,c,k,q⟩=C:=λc k q=>by unfold isC;simp
 have f0:Et e.D0 e.H0 m.A0 0=-1:=XE hn;have f1:∀(c k:Int) (q:Bool),Et e.D0 e.H0 (m.A0++[⟨e.D0,e.H0,c,k,q⟩]) 0=(m.A0.length:Int):=λc k q=>by rw[Aje (e0 c k q) _ _ hn,o_]
 have g1:∀x:O,(m.A0++[x]).getD m.A0.length noE=x:=λx=>by simp
 have s1:∀x y:O,(m.A0++[x]).set m.A0.length y=m.A0++[y]:=λx y=>by rw[List.set_append_right _ _ (y_ _),Nat.sub_self];rfl
 have a1:Ak m ⟨1,e.D0,e.H0,0,0⟩=m.put (m.A0++[⟨e.D0,e.H0,-1,0,B⟩]):=by unfold Ak;rw[f0];simp only[show((1:Int)==4)=B from rfl,show((1:Int)==5)=B from rfl,show((1:Int)==6)=B from rfl,H,J,m_];rw[Aoc (x:=⟨e.D0,e.H0,-1,0,B⟩) λx hx=>Ajv (show BC x ⟨e.D0,e.H0,-1,0,B⟩=C from h x hx)]
 have ne:(((m.A0.length:Int))==-1)=B:=Ao ω;have a2:Ak (m.put (m.A0++[⟨e.D0,e.H0,-1,0,B⟩])) ⟨3,e.D0,e.H0,e.R0,0⟩=m.put (m.A0++[⟨e.D0,e.H0,e.R0,0,B⟩]):=by unfold Ak;simp only[Img.put,f1,ne,show((3:Int)==4)=B from rfl,show((3:Int)==5)=B from rfl,show((3:Int)==6)=B from rfl,show((3:Int)==2)=B from rfl,H,J,m_,j_,g1,s1,Agh]
 have a3:Ak (m.put (m.A0++[⟨e.D0,e.H0,e.R0,0,B⟩])) ⟨7,e.D0,e.H0,Yb e.D2,e.D1⟩=m.put (m.A0++[⟨e.D0,e.H0,e.R0,e.D1,e.D2⟩]):=by unfold Ak;simp only[Img.put,f1,ne,show((7:Int)==4)=B from rfl,show((7:Int)==5)=B from rfl,show((7:Int)==6)=B from rfl,show((7:Int)==2)=B from rfl,show((7:Int)==3)=B from rfl,H,J,m_,j_,g1,s1,UQ,Asw]
 unfold RS;rw[Arw,a1,a2,a3]
def Akj:∀(l:List O) (m:Img),Bk (m.A0++l)->Aj m (l.flatMap RS)=m.put (m.A0++l)
 |[],m,_=>by simp[Aj,Img.put]
 |e::t,m,h=>by
  have hp:=Ff.1 h;have hlt:∀x∈m.A0,BC x e=C:=λx hx=>(f7_.1 hp).2.2 x hx e (p_ ..);rw[a1_,EO,Arn hlt];have h2:Bk ((m.put (m.A0++[e])).A0++t):=by show Bk (m.A0++[e]++t);rw[M_];exact h
  rw[Akj t _ h2];show m.put (m.A0++[e]++t)=_;rw[M_];rfl
def Agj{m:Img}(h:ImgOK b m):Aj (Gu b) (Fd m)=m:=by unfold Fd;rw[EO];have h0:=Akh (m:=m) h.lp h.lf h.ll b.B0.length 0 ω;simp only[List.take_zero,a4_,Nat.sub_zero]at h0;rw[h.lp];rw[show Gu b=⟨aE b.B0.length 0,aE b.B0.length B,aE b.B0.length B,[]⟩from rfl,h0,Akj _ _ (by show Bk ([]++m.A0);exact h.so)];rfl
def Yc(on:Bool):0<=Yb on/\Yb on<=1:=by cases on<;>exact⟨τ,τ⟩
def Yn{m:Img}(h:ImgOK b m):∀r∈Fd m,Ay b r=C:=by
 have hcode:=h.code;intro r hr;unfold Fd at hr;rcases n_.1 hr with hr|hr
 .obtain⟨i,hi,hr⟩:=c9_.1 hr;have hi':i<m.G0.length:=by
   have:=List.mem_range'_1.1 hi
   omega
  have hp:=h.ph _ (AL 0 hi');have hlp:=h.lp;have hcar:∀k v:Int,Wg b ⟨k,0,0,i,v⟩=C:=λk v=>by unfold Wg;rw[An.2 ⟨show(0:Int)<=(i:Int)by omega,show(i:Int)<=(b.B0.length:Int)-1 by omega⟩];rfl
  unfold TE at hr;simp only[s_,List.not_mem_nil,or_false]at hr;rcases hr with rfl|rfl|rfl
  .unfold Ay;rw[hcode,hcar,An.2 hp];rfl
  .unfold Ay;rw[hcode,hcar,An.2 (Yc _)];rfl
  .unfold Ay;rw[hcode,hcar,An.2 (Yc _)];rfl
 .obtain⟨e,he,hr⟩:=c9_.1 hr;obtain⟨h1,h2,h3⟩:=CZ.1 (h.en e he);unfold RS at hr;simp only[s_,List.not_mem_nil,or_false]at hr;rcases hr with rfl|rfl|rfl
  .unfold Ay;rw[hcode,h1];rfl
  .unfold Ay;rw[hcode,h1,An.2 ⟨h2.1,show e.R0<=(b.B0.length:Int)-1 by omega⟩];rfl
  .unfold Ay;rw[hcode,h1,An.2 (Yc _),An.2 h3];rfl
def Wu(floor:Int):Int:=aD.wrap (1*2^min (aA floor) (IntKind.bits .u32))
def FP(floor dir:Int):Int×Int:=bif inR 0 31 floor then(bif dir==1 then(Wu floor,0)else bif dir==2 then(0,Wu floor)else(0,0))else(0,0)
def orC(a c:Int):Int:=vb (bv a|||bv c)
def Adj(a c:Int):Int:=vb (bv a&&& ~~~ bv c)
def BD(a c:Int×Int):Int×Int:=(orC a.1 c.1,orC a.2 c.2)
def Au(a c:Int×Int):Int×Int:=(Adj a.1 c.1,Adj a.2 c.2)
def Am(c:Int×Int)(f:Nat)(d:Int):Bool:=bif d==1 then Eg c.1 f else bif d==2 then Eg c.2 f else B
def EN(c:Int×Int):Prop:=(0<=c.1/\c.1<4294967296)/\(0<=c.2/\c.2<4294967296)
def Lz(a c:Int×Int):EN (BD a c):=⟨Mi _,Mi _⟩
def GL(a c:Int×Int):EN (Au a c):=⟨Mi _,Mi _⟩
def Gz:EN (0,0):=⟨⟨τ,τ⟩,⟨τ,τ⟩⟩
def Za(i:Nat):Eg 0 i=B:=by unfold Eg bv;simp
def EI(f:Nat)(d:Int):Am (0,0) f d=B:=by unfold Am;simp only[Za];cases d==1<;>cases d==2<;>rfl
def FH(a c:Int×Int)(f:Nat)(d:Int):Am (BD a c) f d=(Am a f d||Am c f d):=by unfold Am BD orC;simp only[Zb,bC];cases d==1<;>cases d==2<;>rfl
def Bd(a c:Int×Int)(hf:f<32)(d:Int):Am (Au a c) f d=(Am a f d&&!Am c f d):=by unfold Am Au Adj;simp only[Zb,bB,BitVec.getLsbD_not,hf,decide_true,H_];cases d==1<;>cases d==2<;>rfl
def LX{F D:Int}(hF:0<=F/\F<32)(hD:D=1\/D=2)(f:Nat)(hd:d=1\/d=2):Am (FP F D) f d=decide (((f:Int),d)=(F,D)):=by
 have hp:Eg (Wu F) f=decide (f=F.toNat):=Arz (k:=F.toNat) ω f;have e:decide (((f:Int),d)=(F,D))=(aH (f=F.toNat)&&decide (d=D)):=by
  rw[bD,e_,q_,q_,q_,f2_];constructor
  .rintro⟨h1,h2⟩;exact⟨ω,h2⟩
  .rintro⟨h1,h2⟩;exact⟨ω,h2⟩
 rw[e];unfold FP Am;rw[An.2 ⟨hF.1,show F<=31 by omega⟩];rcases hD with rfl|rfl<;>rcases hd with rfl|rfl
 .simp[hp]
 .simp[Za]
 .simp[Za]
 .simp[hp]
def NE{a:Int×Int}(ha:EN a)(hc:EN c)(h:∀f:Nat,f<32->∀d:Int,(d=1\/d=2)->Am a f d=Am c f d):a=c:=by have h1:a.1=c.1:=Ary ha.1 hc.1 λi hi=>h i hi 1 (.inl rfl);have h2:a.2=c.2:=Ary ha.2 hc.2 λi hi=>h i hi 2 (.inr rfl);exact Prod.ext h1 h2
def RJ(e:O):Prop:=(0<=e.D0/\e.D0<32)/\(e.H0=1\/e.H0=2)
def ofC:List O->Int×Int->Int×Int
 |[],c=>c
 |e::t,c=>ofC t (BD c (FP e.D0 e.H0))
def Aba:∀(l:List O) {c:Int×Int},EN c->EN (ofC l c)
 |[],_,h=>h
 |_::t,_,_=>Aba t (Lz _ _)
def Aid:∀{l:List O}{c:Int×Int},(∀e∈l,RJ e)->∀(f:Nat) {d:Int},(d=1\/d=2)->(Am (ofC l c) f d=C↔Am c f d=C\/((f:Int),d)∈l.map Ce)
 |[],_,_,f,d,_=>by simp[ofC]
 |e::t,c,h,f,d,hd=>by have he:=h e (p_ ..);simp only[ofC];rw[Aid (λx hx=>h x (r_ _ hx)) f hd,FH,LX he.1 he.2 f hd,Q_,q_,b8_,s_];show(_\/_=(e.D0,e.H0))\/_↔_\/_=(e.D0,e.H0)\/_;exact or_assoc
def Mv(c:Int×Int)(f:Nat):List O:=(bif Am c f 1 then [⟨(f:Int),1,-1,0,B⟩]else [])++(bif Am c f 2 then [⟨(f:Int),2,-1,0,B⟩]else [])
def Ae3(c:Int×Int)(f:Nat):(Mv c f).length<=2:=by unfold Mv;cases Am c f 1<;>cases Am c f 2<;>simp
def FY(c:Int×Int):List O:=(aI 0 32).flatMap (Mv c)
def XZ:p∈(Mv c f).map Ce↔p.1=(f:Int)/\(p.2=1\/p.2=2)/\Am c f p.2=C:=by
 obtain⟨a,d⟩:=p;unfold Mv;rw[List.map_append,n_];have h:∀D:Int,(a,d)∈(bif Am c f D then [aF (f:Int) D (-1) 0 B]else []).map Ce↔a=(f:Int)/\d=D/\Am c f D=C:=λD=>by cases Am c f D<;>simp[Ce]
 rw[h,h];constructor
 .rintro(⟨h1,rfl,h3⟩|⟨h1,rfl,h3⟩)
  .exact⟨h1,.inl rfl,h3⟩
  .exact⟨h1,.inr rfl,h3⟩
 .rintro⟨h1,h2,h3⟩;simp only at h1 h2 h3;rcases h2 with rfl|rfl
  .exact .inl ⟨h1,rfl,h3⟩
  .exact .inr ⟨h1,rfl,h3⟩
def mem_range:p∈((aI i k).flatMap (Mv c)).map Ce↔∃f:Nat,(i<=f/\f<i+k)/\p.1=(f:Int)/\(p.2=1\/p.2=2)/\Am c f p.2=C:=by
 constructor
 .intro h;obtain⟨e,he,rfl⟩:=b6_.1 h;obtain⟨f,hf,he⟩:=c9_.1 he;exact⟨f,List.mem_range'_1.1 hf,XZ.1 (b6_.2 ⟨e,he,rfl⟩)⟩
 .rintro⟨f,hf,h⟩;obtain⟨e,he,h2⟩:=b6_.1 (XZ.2 h);exact b6_.2 ⟨e,c9_.2 ⟨f,List.mem_range'_1.2 hf,he⟩,h2⟩
def Aag(c:Int×Int):∀k i:Nat,Bk ((aI i k).flatMap (Mv c))
 |0,i=>by simp[Bk]
 |k+1,i=>by
  unfold Bk;rw[e2_,a1_,List.map_append,f7_];refine⟨?_,Aag c k (i+1),λp hp q hq=>?_⟩
  .unfold Mv;cases Am c i 1<;>cases Am c i 2<;>simp[Ce,ltC]
  .have h1:=XZ.1 hp;obtain⟨f,hf,h2,_⟩:=mem_range.1 hq;left;rw[h1.1,h2];omega
def Je(floor dir:Int):DW floor dir=E (((),()),(((FP floor dir).1,(FP floor dir).2,()),())):=by
 unfold DW FP inR;by_cases g:0<=floor
 .by_cases g':floor<32
  .rw[V g,V g',V (ω:floor<=31)];simp only[J,U,b2_,V g];cases dir==1<;>cases dir==2<;>rfl
  .rw[V g,Z g',Z (ω:¬floor<=31)];rfl
 .rw[Z g];rfl
def EY(a c:Int×Int):Ci a.1 a.2 c.1 c.2=E (((),()),(((BD a c).1,(BD a c).2,()),())):=by unfold Ci;rw[Aw4,Aw4];rfl
def DY(a c:Int×Int):CV a.1 a.2 c.1 c.2=E (((),()),(((Au a c).1,(Au a c).2,()),())):=by unfold CV;rw[Yr,Yr];rfl
def BR(a c:Int×Int):Int×Int:=(vb (bv a.1&&&bv c.1),vb (bv a.2&&&bv c.2))
def Uj(a c:Int×Int):EN (BR a c):=⟨Mi _,Mi _⟩
def EP(a c:Int×Int):Cn a.1 a.2 c.1 c.2=E (((),()),(((BR a c).1,(BR a c).2,()),())):=by unfold Cn;rw[Yq,Yq];rfl
def Arf(a c:Int×Int):SZ a.1 a.2 c.1 c.2=E (((),()),(((BR a c).1,(BR a c).2,()),())):=by unfold SZ;rw[Yq,Yq];rfl
def HI(a c:Int×Int)(f:Nat)(d:Int):Am (BR a c) f d=(Am a f d&&Am c f d):=by unfold Am BR;simp only[Zb,bB];cases d==1<;>cases d==2<;>rfl
def isZ(c:Int×Int):Bool:=(c.1==0)&&((c.2==0)&&C)
def Lm(hc:EN c):isZ c=C↔∀f:Nat,f<32->∀d:Int,(d=1\/d=2)->Am c f d=B:=by
 constructor
 .intro h f _ d _;unfold isZ at h;simp only[e_,R_]at h;obtain⟨h1,h2,_⟩:=h;rw[show c=(0,0)from Prod.ext h1 h2,EI]
 .intro h
  have:c=(0,0):=NE hc Gz λf hf d hd=>by rw[h f hf d hd,EI]
  rw[this];rfl
def Qw(c:Int×Int){F D:Int}(hF:0<=F/\F<32)(hD:D=1\/D=2):DV c.1 c.2 F D=E ((Am c F.toNat D,()),()):=by
 unfold DV;rw[Je];simp only[U];rw[EP c (FP F D)];simp only[U];show E ((!(isZ (BR c (FP F D))),()),())=_;have e:isZ (BR c (FP F D))=!Am c F.toNat D:=by
  cases h:Am c F.toNat D with
  |false=>
   refine(Lm (Uj _ _)).2 λf hf d hd=>?_;rw[HI,LX hF hD f hd];by_cases g:((f:Int),d)=(F,D)
   .obtain⟨h1,h2⟩:=Prod.mk.inj g;rw[show f=F.toNat by omega,h2,h];rfl
   .rw[Z g,c7_]
  |true=>
   cases hz:isZ (BR c (FP F D))with
   |false=>rfl
   |true=>
    have:=(Lm (Uj _ _)).1 hz F.toNat ω D hD
    rw[HI,LX hF hD F.toNat hD,h,V (show(((F.toNat:Nat):Int),D)=(F,D)by rw[f1_ hF.1])]at this;cases this
 rw[e,Bool.not_not]
def AW(b:Bldg):Int×Int:=(aC aD (aC aD (1*2^min (aA (b.C0-1)) (IntKind.bits .u32))-1),aD.wrap (aC aD (aC aD (1*2^min (aA (b.C0-1)) (IntKind.bits .u32))-1)*2^min (aA (1:Int)) (IntKind.bits .u32)))
def FN(hb:b.small)(hcode:b.code=0):Dx b.C0 b.E0 b.I0 b.M0 b.J0 b.L0 b.N0 b.B0=E (((),()),(((AW b).1,(AW b).2,()),())):=by have lo:=hb.lo;have hi:=hb.hi;unfold Dx AW;rw[AC,hcode];simp only[U,O_,H,Aa (n:=b.C0-1) ω ω,V (ω:0<=b.C0-1),J]
def Alt(n:Nat):Int:=aD.wrap (aC aD (1*2^min n (IntKind.bits .u32))-1)
def Bfk:((List.range 9).all λn=>(List.range 32).all λi=>(Eg (Alt n) i==decide (i<n))&&(Eg (aC aD (Alt n*2^min (aA 1) (IntKind.bits .u32))) i==(aH (1<=i)&&decide (i<=n))))=C:=κ
def Bfl(b:Bldg):EN (AW b):=by
 have k:∀n:Int,0<=aD.wrap n/\aD.wrap n<4294967296:=λn=>by simp only[aC,IntKind.signed,IntKind.bits];simp;omega
 exact⟨k _,k _⟩
def PD(hb:b.small)(hcode:b.code=0)(hf:f<32)(hd:d=1\/d=2):Am (AW b) f d=Ar b (f:Int) d:=by
 have lo:=hb.lo;have hi:=hb.hi;have t:=L_.1 (L_.1 Bfk (b.C0-1).toNat (List.mem_range.2 ω)) f (List.mem_range.2 hf);rw[e_,R_,R_]at t;unfold Ar RI;rw[hcode];rcases hd with rfl|rfl
 .have e:Am (AW b) f 1=Eg (Alt (b.C0-1).toNat) f:=rfl;rw[e,t.1];unfold inR;rw[V (ω:(0:Int)<=(f:Int))];by_cases g:f<(b.C0-1).toNat
  .rw[V g,V (ω:(f:Int)<=b.C0-2)];rfl
  .rw[Z g,Z (ω:¬(f:Int)<=b.C0-2)];rfl
 .have e:Am (AW b) f 2=Eg (aC aD (Alt (b.C0-1).toNat*2^min (aA 1) (IntKind.bits .u32))) f:=rfl;rw[e,t.2];unfold inR;by_cases g:1<=f
  .rw[V g,V (ω:(1:Int)<=(f:Int))];by_cases g':f<=(b.C0-1).toNat
   .rw[V g',V (ω:(f:Int)<=b.C0-1)];rfl
   .rw[Z g',Z (ω:¬(f:Int)<=b.C0-1)];rfl
  .rw[Z g,Z (ω:¬(1:Int)<=(f:Int))];rfl
def XN(b:Bldg)(i:Nat)(s:Int×Int):Int×Int:=(bif Ar b (i:Int) 1 then orC s.1 (Wu (i:Int))else s.1,bif Ar b (i:Int) 2 then orC s.2 (Wu (i:Int))else s.2)
def Are(hb:b.small)(hcode:b.code=0):SY b.C0 b.E0 b.I0 b.M0 b.J0 b.L0 b.N0 b.B0=E (((),()),(((AW b).1,(AW b).2,()),())):=by
 have h:=Cb (step:=λx=>letI a:=x.2.1.2.2;letI c:=a.2.2;Lc x.1.2.2.2.1 x.2.1.1 x.2.1.2.1 a.1 a.2.1 c.1 c.2.1 c.2.2.1 c.2.2.2.1 x.2.2.1.1 x.2.2.1.2.1 x.2.2.2.1.1 x.2.2.2.1.2.1) 32 (λi (s:Int×Int)=>(((),(),(),(i:Int),()),(b.tup,((0:Int),(0:Int),()),(s.1,s.2,()),()))) (XN b)
  (λi s=>EN s/\∀f:Nat,f<32->∀d:Int,(d=1\/d=2)->Am s f d=(aH (f<i)&&Ar b (f:Int) d)) (λs=>(((),(),()),(((0:Int),(0:Int),()),(s.1,s.2,()),()))) (λi s hi hs=>by
  have w:aZ.wrap (i:Int)=(i:Int):=Gy ω ω;have hp:∀j,Eg (Wu (i:Int)) j=decide (j=i):=λj=>Arz (k:=i) hi j;refine⟨?_,⟨?_,?_⟩,λf hf d hd=>?_⟩
  .show Lc (i:Int) b.C0 b.E0 b.I0 b.M0 b.J0 b.L0 b.N0 b.B0 0 0 s.1 s.2=_;unfold Lc XN;rw[SO hb,V (ω:(i:Int)<32)];simp only[U,J,w,V (ω:(0:Int)<=(i:Int)),Aw4];cases Ar b (i:Int) 1 with
   |true=>simp only[J,U,SO hb,w,V (ω:(0:Int)<=(i:Int)),Aa (n:=(i:Int)+1) ω ω];cases Ar b (i:Int) 2<;>rfl
   |false=>simp only[H,U,SO hb,w,V (ω:(0:Int)<=(i:Int)),J,Aa (n:=(i:Int)+1) ω ω];cases Ar b (i:Int) 2<;>rfl
  .unfold XN;cases Ar b (i:Int) 1
   .exact hs.1.1
   .exact Mi _
  .unfold XN;cases Ar b (i:Int) 2
   .exact hs.1.2
   .exact Mi _
  .have hk:=hs.2 f hf d hd;have dk:decide (f<i+1)=(aH (f<i)||decide (f=i)):=by
    rw[bD,Q_,q_,q_,q_];omega
   rw[dk];rcases hd with rfl|rfl
   .have e:Am (XN b i s) f 1=Eg (bif Ar b (i:Int) 1 then orC s.1 (Wu (i:Int))else s.1) f:=rfl;have hk':Eg s.1 f=_:=hk;rw[e];cases hc:Ar b (i:Int) 1 with
    |true=>
     rw[J];unfold orC;rw[Zb,bC];show(Eg s.1 f||Eg (Wu (i:Int)) f)=_;rw[hk',hp];by_cases g:f=i
     .subst g;rw[hc];simp
     .rw[Z g];simp
    |false=>
     rw[H,hk'];by_cases g:f=i
     .subst g;rw[hc];simp
     .rw[Z g];simp
   .have e:Am (XN b i s) f 2=Eg (bif Ar b (i:Int) 2 then orC s.2 (Wu (i:Int))else s.2) f:=rfl;have hk':Eg s.2 f=_:=hk;rw[e];cases hc:Ar b (i:Int) 2 with
    |true=>
     rw[J];unfold orC;rw[Zb,bC];show(Eg s.2 f||Eg (Wu (i:Int)) f)=_;rw[hk',hp];by_cases g:f=i
     .subst g;rw[hc];simp
     .rw[Z g];simp
    |false=>
     rw[H,hk'];by_cases g:f=i
     .subst g;rw[hc];simp
     .rw[Z g];simp) (λs _=>by
  show Lc 32 b.C0 b.E0 b.I0 b.M0 b.J0 b.L0 b.N0 b.B0 0 0 s.1 s.2=_;unfold Lc;rw[show decide ((32:Int)<32)=B from rfl];rfl) 32 0 (0,0) ω ⟨Gz,λf _ d _=>by rw[EI];simp⟩
 have h':=Aw h.1 ω;have hall:AV (XN b) 32 0 (0,0)=AW b:=NE h.2.1 (Bfl b) λf hf d hd=>by rw[h.2.2 f hf d hd,PD hb hcode hf hd,V hf,H_]
 rw[hall]at h';unfold SY;simp only[Bldg.tup]at h';rw[show Ql (((),(),(),(0:Int),()),((b.C0,b.E0,b.I0,b.M0,b.J0,b.L0,b.N0,b.B0,()),((0:Int),(0:Int),()),((0:Int),(0:Int),()),()))=_ from h'];rfl
def DE(b:Bldg)(v:View):Int×Int:=bif v.O3 then BR (v.U3,v.B3) (AW b)else(0,0)
def SR(hb:b.small)(hcode:b.code=0)(v:View):IV b.C0 b.E0 b.I0 b.M0 b.J0 b.L0 b.N0 b.B0 v.L3 v.O3 v.R3 v.C4 v.D0 v.H0 v.A4 v.U3 v.B3 v.Y2 v.Z1 v.N1=E (((),()),(((DE b v).1,(DE b v).2,()),())):=by
 unfold IV DE;cases v.O3 with
 |false=>rfl
 |true=>rw[FN hb hcode];simp only[t_,H,U,J];rw[EP (v.U3,v.B3) (AW b)];rfl
def Aev{c:Int×Int}(h:Int->Int->Option ((Bool×Unit)×Unit))(hh:∀f:Nat,f<32->∀d:Int,(d=1\/d=2)->h (f:Int) d=E ((Am c f d,()),())):∀k i:Nat,i+k<=32->Xo h (λf d=>aF f d (-1) 0 B) ((aI i k).flatMap λf:Nat=>[((f:Int),1),((f:Int),2)])=E ((aI i k).flatMap (Mv c))
 |0,_,_=>rfl
 |k+1,i,hk=>by rw[e2_,a1_,a1_];show Xo h _ (((i:Int),1)::((i:Int),2)::((aI (i+1) k).flatMap λf:Nat=>[((f:Int),1),((f:Int),2)]))=_;simp only[Xo];rw[hh i ω 1 (.inl rfl),hh i ω 2 (.inr rfl),Aev h hh k (i+1) ω];unfold Mv;cases Am c i 1<;>cases Am c i 2<;>rfl
def Yw(c:Int×Int):Nh c.1 c.2=E ((FY c,()),()):=by
 unfold Nh Aoy;have e:pairs64=(aI 0 32).flatMap λf:Nat=>[((f:Int),1),((f:Int),2)]:=by unfold pairs64;rw[List.range_eq_range']
 have h:=Aev (c:=c) (λf d=>DV c.1 c.2 f d) (λf hf d hd=>by have h:=Qw c (F:=(f:Int)) (D:=d) ⟨ω,ω⟩ hd;rw[j_]at h;exact h) 32 0 ω;rw[e,h];rfl
end Go.Ovl
namespace Go.Ovl
open Go Go.Ab
variable{b:Bldg}{m:Img}{r:aB}{bud n room fl:Int}{rs:List aB}{l t:List UInt8}{c:Car}
structure Sto where
 h0:ByteArray
 h1:ByteArray
 sel:Int
def Sto.get(s:Sto)(half:Int):ByteArray:=if half=0 then s.h0 else s.h1
def Sto.set(s:Sto)(half:Int)(x:ByteArray):Sto:=if half=0 then { s with h0:=x }else { s with h1:=x }
def Sto.no:Sto:=⟨noB,noB,0⟩
def Sto.cur(s:Sto):ByteArray:=if s.sel=1 then s.h1 else s.h0
def Sto.ok(room:Int)(s:Sto):Prop:=1<=room/\room<=65536/\s.h0.size<=room/\s.h1.size<=room/\(s.sel=0\/s.sel=1)
instance okSto_ti(room:Int)(s:Sto):Decidable (s.ok room):=by unfold Sto.ok;infer_instance
def Sto.chk(room:Int)(s:Sto)(half bud:Int):Int:=if s.ok room then if(half≠0/\half≠1)\/bud<0 then 2 else 0 else 1
def Sto.write(room:Int)(s:Sto)(half:Int)(d:ByteArray)(bud:Int):Sto×Int×Int:=
 if s.chk room half bud≠0 then(.no,0,s.chk room half bud)
 else if room<(s.get half).size+d.size then(.no,0,7)
 else if bud<d.size then(s.set half (s.get half++d.extract 0 bud.toNat),0,8)
 else(s.set half (s.get half++d),bud-d.size,0)
def Sto.act(room:Int)(s:Sto)(half bud:Int)(t:Sto):Sto×Int×Int:=if s.chk room half bud≠0 then(.no,0,s.chk room half bud)else if bud=0 then(s,0,8)else(t,bud-1,0)
def Sto.erase(room:Int)(s:Sto)(half bud:Int):Sto×Int×Int:=s.act room half bud (s.set half noB)
def Sto.choose(room:Int)(s:Sto)(half bud:Int):Sto×Int×Int:=s.act room half bud { s with sel:=half }
def Sto.out(r:Sto×Int×Int):(Unit×Int×Int×Unit)×((ByteArray×ByteArray×Int×Unit)×Unit):=(((),(r.2.1,(r.2.2,()))),((r.1.h0,(r.1.h1,(r.1.sel,()))),()))
def HC(room:Int)(h0 h1:ByteArray)(sel:Int):En room h0 h1 sel=E ((aH (Sto.ok room ⟨h0,h1,sel⟩),()),()):=by
 unfold En Sto.ok;by_cases a:1<=room
 .by_cases b:room<=65536
  .by_cases c:(h0.size:Int)<=room
   .by_cases d:(h1.size:Int)<=room
    .by_cases e:sel=0
     .simp[a,b,c,d,e]
     .by_cases f:sel=1<;>simp[a,b,c,d,e,f,Ao]
    .simp[a,b,c,d]
   .simp[a,b,c]
  .simp[a,b]
 .simp[a]
def Px(room:Int)(h0 h1:ByteArray)(sel half bud:Int):Jy room h0 h1 sel half bud=E ((Sto.chk room ⟨h0,h1,sel⟩ half bud,()),()):=by
 unfold Jy Sto.chk;rw[HC];by_cases a:Sto.ok room ⟨h0,h1,sel⟩
 .by_cases b:half=0
  .by_cases c:bud<0<;>simp[a,b,c]
  .by_cases d:half=1
   .by_cases c:bud<0<;>simp[a,c,d]
   .simp[a,b,d,LZ]
 .simp[a]
def Acx{s:Sto}{half:Int}(h:s.chk room half bud=0):s.ok room/\(half=0\/half=1)/\0<=bud:=by
 unfold Sto.chk at h;split at h
 .split at h
  .cases h
  .rename_i h1 h2;refine⟨h1,?_,?_⟩<;>omega
 .cases h
def TV(room:Int)(h0 h1:ByteArray)(sel half:Int)(d:ByteArray)(bud:Int)(hb:bud<9223372036854775808) :
  Jw room h0 h1 sel half d bud=E (Sto.out (Sto.write room ⟨h0,h1,sel⟩ half d bud)):=by
 unfold Jw Sto.write;rw[Px];generalize hc:Sto.chk room ⟨h0,h1,sel⟩ half bud=c;by_cases h:c=0
 .subst h;obtain⟨⟨o1,o2,o3,o4,o5⟩,hh,hb0⟩:=Acx hc;simp only at o3 o4;have hin:inB half 2=C:=Ac ω ω;have hg:(List.getD [h0,h1] half.toNat noB)=Sto.get ⟨h0,h1,sel⟩ half:=by
   rcases hh with rfl|rfl<;>rfl
  have hgs:((Sto.get ⟨h0,h1,sel⟩ half).size:Int)<=room:=by rcases hh with rfl|rfl<;>simpa[Sto.get]
  have hset:∀x:ByteArray,((bif Nat.beq half.toNat 0 then x else h0),((bif Nat.beq half.toNat 1 then x else h1),(sel,())))=((Sto.set ⟨h0,h1,sel⟩ half x).h0,((Sto.set ⟨h0,h1,sel⟩ half x).h1,((Sto.set ⟨h0,h1,sel⟩ half x).sel,()))):=by intro x;rcases hh with rfl|rfl<;>rfl
  have hg':(List.getD [h0,h1] half.toNat (aL (aK [])))=Sto.get ⟨h0,h1,sel⟩ half:=hg;simp only[U,hin,J,hg',hset];generalize Sto.get ⟨h0,h1,sel⟩ half=g at hgs|-;rw[Aa (n:=room-g.size) ω ω];by_cases h2:room<(g.size:Int)+d.size
  .have e:decide (room-(g.size:Int)<d.size)=C:=by simp;omega
   simp[e,h2,Sto.out,Sto.no,noB]
  .have e:decide (room-(g.size:Int)<d.size)=B:=by simp;omega
   by_cases h3:bud<d.size
   .have e2:decide (bud<(d.size:Int))=C:=by simpa using h3
    have e3:(aH (0<=bud)&&decide (bud<=(d.size:Int)))=C:=by simp;omega
    have e4:aR (g.size+(d.extract 0 bud.toNat).size) 4611686018427387904=C:=by rw[Ac3 d ω];exact AR ω
    simp only[e,e3,e4,h2,h3,J,H,g8_,f0_,Sto.out];simp
   .have e2:decide (bud<(d.size:Int))=B:=by simpa using h3
    have e4:aR (g.size+d.size) 4611686018427387904=C:=AR ω;rw[Aa (n:=bud-d.size) ω ω];simp only[e,e4,h2,h3,J,H,f0_,Sto.out];simp
 .simp[h,Sto.out,Sto.no,noB,LZ]
def Aw3(room:Int)(h0 h1:ByteArray)(sel half bud:Int)(hb:bud<9223372036854775808):Pe room h0 h1 sel half bud=E (Sto.out (Sto.erase room ⟨h0,h1,sel⟩ half bud)):=by
 unfold Pe Ic Sto.erase Sto.act;rw[Px];generalize hc:Sto.chk room ⟨h0,h1,sel⟩ half bud=c;by_cases h:c=0
 .subst h;obtain⟨_,hh,hb0⟩:=Acx hc;by_cases h2:bud=0
  .simp[h2,Sto.out]
  .have hin:inB half 2=C:=Ac ω ω;unfold Qe;rw[Aa (n:=bud-1) ω ω];have e:(bud==0)=B:=by simpa using h2
   rcases hh with rfl|rfl<;>simp[hin,e,h2,Sto.out,Sto.set,noB]<;>rfl
 .simp[h,Sto.out,Sto.no,noB,LZ]
def Ars(room:Int)(h0 h1:ByteArray)(sel half bud:Int)(hb:bud<9223372036854775808):Of room h0 h1 sel half bud=E (Sto.out (Sto.choose room ⟨h0,h1,sel⟩ half bud)):=by
 unfold Of HD Sto.choose Sto.act;rw[Px];generalize hc:Sto.chk room ⟨h0,h1,sel⟩ half bud=c;by_cases h:c=0
 .subst h;obtain⟨_,hh,hb0⟩:=Acx hc;by_cases h2:bud=0
  .simp[h2,Sto.out]
  .unfold Pw;rw[Aa (n:=bud-1) ω ω];have e:(bud==0)=B:=by simpa using h2
   simp[e,h2,Sto.out]
 .simp[h,Sto.out,Sto.no,noB,LZ]
def RW(h0 h1:ByteArray)(sel:Int):JQ h0 h1 sel=E ((Sto.cur ⟨h0,h1,sel⟩,()),()):=by unfold JQ Sto.cur;by_cases h:sel=1<;>simp[h,Ao]
def Ge:aX:=Debounced.mk 0 B B B B 0 0 0 0 0 0 0 0 0 0 0 0 0 0 0 0 0 0 0 0 0 0 0 0 0 0 0 0 0 0 0 0 0 0 0 0
def HK:Duty:=aS 0 0 0
def Bs:aJ:=NewCar.mk 0 0 0 0 0 B 0 0 0 0 0 0 0 B
def Adl:Loaded:=Loaded.mk 0
def Aic:Calls:=Calls.mk 0 0
def Hw:aP:=Belief.mk 0 0 0 [] 0 B
def Belief.tup(x:aP):Int×Int×Int×List Duty×Int×Bool×Unit:=(x.D0,x.H0,x.G1,x.V0,x.I3,x.Z3,())
structure Mch where
 F0:Img
 Z0:Sto
 K1:List Debounced
 U0:List Belief
 B0:List NewCar
 N3:List Loaded
 Y1:List Int
 G3:List Calls
 H4:Int
 T3:Int
 A3:Int
def Mch.tup(m:Mch):List Int×List Bool×List Bool×List O×ByteArray×ByteArray×Int×List aX×List aP×List aJ×List Loaded×List Int×List Calls×Int×Int×Int×Unit:=(m.F0.G0,m.F0.O0,m.F0.K0,m.F0.A0,m.Z0.h0,m.Z0.h1,m.Z0.sel,m.K1,m.U0,m.B0,m.N3,m.Y1,m.G3,m.H4,m.T3,m.A3,())
structure Mch.fit(m:Mch):Prop where
 im:m.F0.fit
 co:m.K1.length<=100000
 be:m.U0.length<=100000
 du:∀x∈m.U0,x.V0.length<=100000
 ca:m.B0.length<=100000
 lo:m.N3.length<=100000
 ex:m.Y1.length<=100000
 li:m.G3.length<=100000
section
variable{a c:Mch}(ha:a.fit)
include ha
end
def bl(s:ByteArray):List UInt8:=s.data.toList
def Sf{a c:ByteArray}(h:bl a=bl c):a=c:=by apply ByteArray.ext;unfold bl at h;exact Array.toList_inj.1 h
def Mu(a c:ByteArray):bl (a++c)=bl a++bl c:=by simp[bl]
def WC(a:ByteArray)(i j:Nat):bl (a.extract i j)=((bl a).drop i).take (j-i):=by simp[bl]
def FT(a:ByteArray):(bl a).length=a.size:=by simp[bl]
def Bv1(l:List UInt8):bl ⟨l.toArray⟩=l:=by simp[bl]
def NA(s:ByteArray)(i:Nat):BG s i=(((bl s).getD i 0).toNat:Int):=by unfold BG bl;simp[w_,k_]
def VU(r:Nat):Nat:=if 128<=r then(r*2%256)^^^7 else r*2%256
def it8:Nat->Nat->Nat
 |0,r=>r
 |k+1,r=>it8 k (VU r)
def Aer(r x:Nat):Nat:=it8 8 (r^^^x)
def VV(l:List UInt8):Nat:=l.foldl (λr x=>Aer r x.toNat) 0
def Apr{r:Nat}(_h:r<256):VU r<256:=by
 unfold VU;split
 .exact f3_ (n:=8) ω τ
 .omega
def Bby:∀(k:Nat) {r:Nat},r<256->it8 k r<256
 |0,_,h=>h
 |k+1,_,h=>Bby k (Apr h)
def Amw{r x:Nat}(h:r<256)(h':x<256):Aer r x<256:=Bby 8 (f3_ (n:=8) h h')
def Blc(l:List UInt8):∀r:Nat,r<256->l.foldl (λr x=>Aer r x.toNat) r<256:=by
 induction l with
 |nil=>exact λr h=>h
 |cons x t ih=>intro r h;rw[g5_];have hx:x.toNat<256:=bE x;exact ih _ (Amw h hx)
def Bld(l:List UInt8):VV l<256:=Blc l 0 ω
def TR(h:0<=n)(h':n<256):aM.wrap n=n:=by simp only[aC,IntKind.signed,IntKind.bits];simp;omega
def Bu0{a c:Nat}(ha:a<256)(hc:c<256):aM.wrap (stk (a:Int) (c:Int) (aU ((aG (IntKind.bits .u8) (a:Int))^^^(aG (IntKind.bits .u8) (c:Int)))))=((a^^^c:Nat):Int):=by have h:=f3_ (n:=8) ha hc;rw[My,BitVec.toNat_xor,a0_,a0_];rw[show(((a:Int))%((2^IntKind.bits .u8:Nat):Int)).toNat=a by simp only[IntKind.bits];omega,show(((c:Int))%((2^IntKind.bits .u8:Nat):Int)).toNat=c by simp only[IntKind.bits];omega];exact TR ω ω
def Bi5:∀(k i r:Nat),AV (λ_ r=>VU r) k i r=it8 k r
 |0,_,_=>rfl
 |k+1,i,r=>Bi5 k (i+1) (VU r)
def Bbb(s:ByteArray)(s7 s8:Int){r k:Nat}(hr:r<256)(hk:k<8):Qo s (r:Int) s7 s8 (k:Int)=E (aW ((s,((VU r:Nat):Int),s7,s8,((k+1:Nat):Int),()),())):=by
 unfold Qo;have w:W.wrap ((k:Int)+1)=((k+1:Nat):Int):=by rw[Aa ω ω];omega
 have h0:aM.wrap ((r:Int)*((2:Int)^(aQ (aA (1:Int)) (IntKind.bits aM))))=((r*2%256:Nat):Int):=by rw[show((2:Int)^(aQ (aA (1:Int)) (IntKind.bits aM)))=2 from rfl];simp only[aC,IntKind.signed,IntKind.bits];simp
 have h1:aM.wrap ((aV (r:Int) ((2:Int)^(aQ (aA (7:Int)) (IntKind.bits aM))))*(7:Int))=(((if 128<=r then 7 else 0):Nat):Int):=by
  rw[show((2:Int)^(aQ (aA (7:Int)) (IntKind.bits aM)))=128 from rfl,P_ _ ω];split
  .rw[show(r:Int)/128=1 by omega];rfl
  .rw[show(r:Int)/128=0 by omega];rfl
 simp only[V (ω:(k:Int)<8),J,h0,h1,w];rw[Bu0 ω (by split<;>omega)];unfold VU;split
 .rfl
 .rw[Nat.xor_zero]
def Bba(s:ByteArray)(s7 s8:Int){r:Nat}(hr:r<256):Qi ((s,(r:Int),s7,s8,(0:Int),()),())=E ((s,((it8 8 r:Nat):Int),s7,s8,()),()):=by have h:=Cb (step:=λx=>Qo x.1.1 x.1.2.1 x.1.2.2.1 x.1.2.2.2.1 x.1.2.2.2.2.1) 8 (λk r=>((s,((r:Nat):Int),s7,s8,(k:Int),()),())) (λ_ r=>VU r) (λ_ r=>r<256) (λr=>((s,((r:Nat):Int),s7,s8,()),())) (λk r hk hr=>⟨Bbb s s7 s8 hr hk,Apr hr⟩) (λr _=>rfl) 8 0 r rfl hr;have h':=h.1;rw[Bi5]at h';exact Aw h' ω
def Wm{α β:Type}(f:β->α->β)(d:α):∀(l:List α) (k i:Nat) (s:β),i+k=l.length->AV (λi s=>f s (l.getD i d)) k i s=(l.drop i).foldl f s
 |l,0,i,s,h=>by obtain rfl:i=l.length:=ω;simp[AV]
 |l,k+1,i,s,h=>by have hi:i<l.length:=ω;simp only[AV];rw[Wm f d l k (i+1) _ ω,List.drop_eq_getElem_cons hi,g5_];simp[hi]
def Ab6{s:ByteArray}(hs:s.size<=1000000):PS s=E ((((VV (bl s):Nat):Int),()),()):=by
 have h:=Cb (step:=λx=>La x.1.1 x.1.2.1 x.1.2.2.1 x.1.2.2.2.1) s.size (λi r=>((s,((r:Nat):Int),(s.size:Int),(i:Int),()),())) (λi r=>Aer r ((bl s).getD i 0).toNat) (λ_ r=>r<256) (λr=>((((r:Nat):Int),()),())) (λi r hi hr=>by
  have hx:=bE ((bl s).getD i 0);refine⟨?_,Amw hr hx⟩;show La s ((r:Nat):Int) (s.size:Int) (i:Int)=_;have w:W.wrap ((i:Int)+1)=((i+1:Nat):Int):=by rw[Aa ω ω];omega
  unfold La;simp only[V (ω:(i:Int)<(s.size:Int)),Ac (ω:(0:Int)<=(i:Int)) (ω:(i:Int)<(s.size:Int)),J,j_,NA];rw[Bu0 hr hx,Bba s _ _ (f3_ (n:=8) hr hx),U,w];rfl) (λr _=>by
  show La s ((r:Nat):Int) (s.size:Int) (s.size:Int)=_;unfold La;simp only[Z (U_ (s.size:Int)),H]) s.size 0 0 ω ω
 have h':=Aw h.1 ω;rw[Wm (λr (x:UInt8)=>Aer r x.toNat) 0 (bl s) s.size 0 0 (by rw[FT];omega),V_]at h';unfold PS;rw[show Qh ((s,(0:Int),(s.size:Int),(0:Int),()),())=_ from h'];rfl
def u8n(n:Int):UInt8:=UInt8.ofNat n.toNat
def TQ(h:0<=n/\n<256):((u8n n).toNat:Int)=n:=by unfold u8n;rw[UInt8.toNat_ofNat'];omega
def txt(l:List UInt8):ByteArray:=⟨l.toArray⟩
def Iq(l:List UInt8):bl (txt l)=l:=Bv1 l
def Blf(a c:List UInt8):txt a++txt c=txt (a++c):=Sf (by rw[Mu,Iq,Iq,Iq])
def Mh(l:List UInt8):(txt l).size=l.length:=by rw[<-FT,Iq]
def Apx(l:List Int):EF l=txt (l.map u8n):=rfl
def Adt(r:aB):List UInt8:=[u8n r.Q0,u8n r.D0,u8n r.H0,u8n (r.R0+2),u8n r.X1]
def CT(r:aB):List UInt8:=Adt r++[u8n ((VV (Adt r):Nat):Int)]
def Hl(r:aB):(CT r).length=6:=rfl
def RK(hb:b.small){f d:Int}(h:Ar b f d=C):(0<=f/\f<100)/\(1<=d/\d<=2):=by have lo:=hb.lo;have hi:=hb.hi;unfold Ar RI at h;simp only[e_,Q_,R_,An]at h;omega
structure RecOK(r:Record):Prop where
 k:1<=r.Q0/\r.Q0<=7
 f:0<=r.D0/\r.D0<100
 d:0<=r.H0/\r.H0<100
 c:-2<=r.R0/\r.R0<100
 v:0<=r.X1/\r.X1<256
def Ach(hb:b.small)(hc:b.B0.length<=100)(h:Ay b r=C):RecOK r:=by
 have hk:=(Wy h).2;have hcar:(r.Q0=4\/r.Q0=5\/r.Q0=6)->r.D0=0/\r.H0=0:=λhq=>by
  unfold Ay Wg at h;rcases hq with q|q|q
  all_goals
   rw[q]at h;simp only[show((4:Int)==1)=B from rfl,show((4:Int)==2)=B from rfl,show((4:Int)==3)=B from rfl,show((5:Int)==1)=B from rfl,show((5:Int)==2)=B from rfl,show((5:Int)==3)=B from rfl,show((5:Int)==4)=B from rfl,show((6:Int)==1)=B from rfl,show((6:Int)==2)=B from rfl,show((6:Int)==3)=B from rfl,show((6:Int)==4)=B from rfl,show((6:Int)==5)=B from rfl,m_,J,H,e_,R_]at h;exact h.2.1.2
 rcases hk with h1|h1|h1|h1|h1|h1|h1
 .have:=RK hb h1.2.1
  exact⟨ω,this.1,ω,ω,ω⟩
 .have:=RK hb h1.2.1
  exact⟨ω,this.1,ω,ω,ω⟩
 .have:=RK hb h1.2.1
  exact⟨ω,this.1,ω,ω,ω⟩
 .have:=hcar ω
  exact⟨ω,ω,ω,ω,ω⟩
 .have:=hcar ω
  exact⟨ω,ω,ω,ω,ω⟩
 .have:=hcar ω
  exact⟨ω,ω,ω,ω,ω⟩
 .have:=RK hb h1.2.1
  exact⟨ω,this.1,ω,ω,ω⟩
def Bw9(h:RecOK r):EF [aM.wrap r.Q0,aM.wrap r.D0,aM.wrap r.H0,aM.wrap (aC W (r.R0+2)),aM.wrap r.X1]=txt (Adt r):=by obtain⟨h1,h2,h3,h4,h5⟩:=h;rw[TR (n:=r.Q0) ω ω,TR (n:=r.D0) ω ω,TR (n:=r.H0) ω ω,Aa (n:=r.R0+2) ω ω,TR (n:=r.R0+2) ω ω,TR (n:=r.X1) ω ω];rfl
def PC(b:Bldg)(r:aB):ByteArray:=bif Ay b r then txt (CT r)else txt []
section
variable{b:Bldg}(hb:b.small)(hc:b.B0.length<=100)
include hb hc
theorem UK(r:aB):JN b.C0 b.E0 b.I0 b.M0 b.J0 b.L0 b.N0 b.B0 r.Q0 r.D0 r.H0 r.R0 r.X1=E ((PC b r,(bif Ay b r then 0 else 1),()),()):=by
 unfold JN PC;rw[QL hb hc r];simp only[U];cases hv:Ay b r with
 |false=>rfl
 |true=>have h:=Ach hb hc hv;simp only[t_,H,J,Bw9 h];rw[Ab6 (by rw[Mh];show 5<=1000000;omega)];simp only[U,Iq,Apx];rw[AR (by rw[Mh,Mh];show 5+1<=4611686018427387904;omega),Blf];rfl
end
def fld(l:List UInt8)(i:Nat):Int:=((l.getD i 0).toNat:Int)
def Yf(l:List UInt8):aB:=⟨fld l 0,fld l 1,fld l 2,fld l 3-2,fld l 4⟩
def Th(b:Bldg)(l:List UInt8):Option aB:=bif l.length==6&&(((((VV (l.take 5):Nat):Int))==fld l 5)&&Ay b (Yf l))then E (Yf l)else none
def Zt(l:List UInt8)(i:Nat):0<=fld l i/\fld l i<256:=by have h:(l.getD i 0).toNat<256:=bE _;unfold fld;omega
def Bbf(h:Th b l=E r):Ay b r=C:=by
 unfold Th at h;cases hq:(l.length==6&&(((((VV (l.take 5):Nat):Int))==fld l 5)&&Ay b (Yf l)))with
 |false=>rw[hq]at h;cases h
 |true=>rw[hq]at h;cases h;rw[e_,e_]at hq;exact hq.2.2
def Bj4(hb:b.small)(hc:b.B0.length<=100)(h:Ay b r=C):Th b (CT r)=E r:=by
 obtain⟨h1,h2,h3,h4,h5⟩:=Ach hb hc h;have hs:=Bld (Adt r);have e:Yf (CT r)=r:=by show aO ((u8n r.Q0).toNat:Int) ((u8n r.D0).toNat:Int) ((u8n r.H0).toNat:Int) (((u8n (r.R0+2)).toNat:Int)-2) ((u8n r.X1).toNat:Int)=r;rw[TQ ω,TQ ω,TQ ω,TQ ω,TQ ω,show r.R0+2-2=r.R0 by omega]
 have e5:fld (CT r) 5=((VV (Adt r):Nat):Int):=by show((u8n ((VV (Adt r):Nat):Int)).toNat:Int)=_;exact TQ ω
 unfold Th;rw[e,h,e5,show(CT r).take 5=Adt r from rfl,Hl];simp
def Adu(hb:b.small)(hc:b.B0.length<=100)(hcode:b.code=0)(s:ByteArray)(_hs:s.size<=1000000):
  ∃(e:Int) (r0:aB),MQ b.C0 b.E0 b.I0 b.M0 b.J0 b.L0 b.N0 b.B0 s=E (((),e,()),((r0.Q0,r0.D0,r0.H0,r0.R0,r0.X1,()),()))/\(e !=0)=(Th b (bl s)).isNone/\∀r,Th b (bl s)=E r->r0=r:=by
 unfold MQ;rw[AC,hcode];simp only[U,O_,H];unfold Th;by_cases h6:s.size=6
 .have l6:(bl s).length=6:=by rw[FT];exact h6
  have ib:∀i:Int,0<=i->i<6->inB i s.size=C:=λi h h'=>Ac h ω;have x5:bl (s.extract 0 5)=(bl s).take 5:=by rw[WC];rfl
  rw[show((s.size:Int) !=6)=B by rw[h6];rfl,V (ω:(5:Int)<=(s.size:Int)),Ab6 (by rw[<-FT,x5,x_];omega),x5];simp only[H,J,U,ib 5 ω ω,ib 0 ω ω,ib 1 ω ω,ib 2 ω ω,ib 3 ω ω,ib 4 ω ω,NA];rw[l6,show aA 5=5 from rfl,show aA 0=0 from rfl,show aA 1=1 from rfl,show aA 2=2 from rfl,show aA 3=3 from rfl,show aA 4=4 from rfl];simp only[show ∀i:Nat,(((bl s).getD i 0).toNat:Int)=fld (bl s) i from λ_=>rfl];have f0:=Zt (bl s) 0;have f1:=Zt (bl s) 1;have f2:=Zt (bl s) 2;have f3:=Zt (bl s) 3;have f4:=Zt (bl s) 4;rw[Aa (n:=fld (bl s) 0) ω ω,Aa (n:=fld (bl s) 1) ω ω,Aa (n:=fld (bl s) 2) ω ω,Aa (n:=fld (bl s) 3) ω ω,Aa (n:=fld (bl s) 3-2) ω ω,Aa (n:=fld (bl s) 4) ω ω];simp only[bne];cases hq:(((VV ((bl s).take 5):Nat):Int))==fld (bl s) 5 with
  |false=>exact⟨5,⟨0,0,0,0,0⟩,rfl,rfl,λr h=>by cases h⟩
  |true=>
   have hv:=QL hb hc (Yf (bl s));unfold Yf at hv;simp only at hv;simp only[t_,H,hv,U];show ∃e r0,(bif !(Ay b (Yf (bl s)))then _ else _)=_/\_;cases Ay b (Yf (bl s))with
   |false=>exact⟨9,⟨0,0,0,0,0⟩,rfl,rfl,λr h=>by cases h⟩
   |true=>exact⟨0,Yf (bl s),rfl,rfl,λr h=>F_ h⟩
 .rw[show((s.size:Int) !=6)=C from LZ ω,show((bl s).length==6)=B from Ao (by rw[FT];exact h6)];exact⟨4,⟨0,0,0,0,0⟩,rfl,rfl,λr h=>by cases h⟩
def Kl(b:Bldg):Nat->List UInt8->List aB
 |0,_=>[]
 |k+1,l=>if 6<=l.length then match Th b (l.take 6)with|some r=>r::Kl b k (l.drop 6)|none=>[]else []
def Oq(b:Bldg)(s:ByteArray):List aB:=Kl b s.size (bl s)
def ZY(b:Bldg):∀(k:Nat) (l:List UInt8),6*(Kl b k l).length<=l.length
 |0,_=>by simp[Kl]
 |k+1,l=>by
  simp only[Kl];split
  .split
   .rename_i h _ r _
    have:=ZY b k (l.drop 6)
    rw[W_]at this;rw[E_];omega
   .simp
  .simp
def Wv(b:Bldg):∀(k:Nat) (l:List UInt8),∀r∈Kl b k l,Ay b r=C
 |0,_,_,h=>by simp[Kl]at h
 |k+1,l,r,h=>by
  simp only[Kl]at h;split at h
  .split at h
   .rename_i _ _ r' hr;rcases s_.1 h with rfl|h
    .exact Bbf hr
    .exact Wv b k _ r h
   .cases h
  .cases h
def Apg{b:Bldg}(hb:b.small)(hc:b.B0.length<=100){t:List UInt8}(ht:t.length<6):∀(rs:List aB) (k:Nat),rs.length<=k->(∀r∈rs,Ay b r=C)->Kl b k (rs.flatMap CT++t)=rs
 |[],0,_,_=>rfl
 |[],k+1,_,_=>by simp only[Kl,List.flatMap_nil,a4_];rw[if_neg ω]
 |r::rs,0,h,_=>by simp at h
 |r::rs,k+1,h,hv=>by
  have e1:(r::rs).flatMap CT++t=CT r++(rs.flatMap CT++t):=by rw[a1_,M_]
  have e2:(CT r++(rs.flatMap CT++t)).take 6=CT r:=e9_ (Hl r);have e3:(CT r++(rs.flatMap CT++t)).drop 6=rs.flatMap CT++t:=List.drop_left' (Hl r);simp only[Kl];rw[e1,e2,e3,Bj4 hb hc (hv r (p_ ..)),if_pos (by rw[g_,Hl];omega),Apg hb hc ht rs k (by simp at h;omega) λx hx=>hv x (r_ _ hx)]
def Ain(hb:b.small)(hc:b.B0.length<=100)(hcode:b.code=0)(s:ByteArray)(hs:s.size<=1000000):
  ∃n:Int,Pb b.C0 b.E0 b.I0 b.M0 b.J0 b.L0 b.N0 b.B0 s=E ((Oq b s,n,()),()):=by
 have key:∀(k n:Nat) (l:List aB),s.size<=n+6*k->n<=s.size->l.length<=n->∃y:Int,Cj (λx=>letI a:=x.2.1.2.2;letI c:=a.2.2;Fw x.1.1 x.1.2.2.1 x.1.2.2.2.1 x.2.1.1 x.2.1.2.1 a.1 a.2.1 c.1 c.2.1 c.2.2.1 c.2.2.2.1) (k+1) ((s,(),l,(n:Int),()),(b.tup,()))=E ((l++Kl b k ((bl s).drop n),y,()),()):=by
  intro k;induction k with
  |zero=>intro n l h1 h2 _;refine⟨(n:Int),AS ?_⟩;show Fw s l (n:Int) b.C0 b.E0 b.I0 b.M0 b.J0 b.L0 b.N0 b.B0=_;unfold Fw;rw[Aa (n:=(n:Int)+6) ω ω,Z (ω:¬(n:Int)+6<=(s.size:Int))];simp only[H,Kl,Y_]
  |succ k ih=>
   intro n l h1 h2 h3;have w:W.wrap ((n:Int)+6)=((n+6:Nat):Int):=by rw[Aa ω ω];omega
   by_cases g:n+6<=s.size
   .have hbl:((bl s).drop n).length=s.size-n:=by rw[W_,FT]
    have hx:bl (s.extract n (n+6))=((bl s).drop n).take 6:=by rw[WC,show n+6-n=6 by omega]
    obtain⟨e,r0,d1,d2,d3⟩:=Adu hb hc hcode (s.extract n (n+6)) (by rw[<-FT,hx,x_];omega);rw[hx]at d2 d3;have hstep:∀X,(bif(e !=0)then E (aT ((l,(n:Int),()),()))else E (aW ((s,(),(l++[r0]),((n+6:Nat):Int),()),(b.tup,()))))=X->Fw s l (n:Int) b.C0 b.E0 b.I0 b.M0 b.J0 b.L0 b.N0 b.B0=X:=by rintro X rfl;unfold Fw;simp only[w,V (ω:((n+6:Nat):Int)<=(s.size:Int)),V (ω:(0:Int)<=((n+6:Nat):Int)),V (ω:(0:Int)<=(n:Int)),j_,V (ω:(n:Int)<=((n+6:Nat):Int)),b2_,J,d1,U];rw[AR (show l.length+[aO r0.Q0 r0.D0 r0.H0 r0.R0 r0.X1].length<=2147483648 by rw[G_];omega)];rfl
    cases hd:Th b (((bl s).drop n).take 6)with
    |none=>rw[hd]at d2;rw[d2]at hstep;refine⟨(n:Int),(AS (hstep _ rfl)).trans ?_⟩;simp only[Kl,hbl,hd];rw[if_pos ω,Y_]
    |some r=>rw[hd]at d2;rw[d2]at hstep;obtain rfl:=d3 r hd;obtain⟨y,hy⟩:=ih (n+6) (l++[r0]) ω g (by rw[g_,G_];omega);refine⟨y,(Cl (hstep _ rfl)).trans (hy.trans ?_)⟩;simp only[Kl,hbl,hd];rw[if_pos ω,M_,List.drop_drop];rfl
   .refine⟨(n:Int),AS ?_⟩;show Fw s l (n:Int) b.C0 b.E0 b.I0 b.M0 b.J0 b.L0 b.N0 b.B0=_;unfold Fw;rw[w,Z (ω:¬((n+6:Nat):Int)<=(s.size:Int))];simp only[H,Kl];rw[if_neg (by rw[W_,FT];omega),Y_]
 obtain⟨y,hy⟩:=key s.size 0 [] ω ω σ;have hy':=Aw hy ω;refine⟨y,?_⟩;unfold Pb;rw[show Nb ((s,(),[],(0:Int),()),((b.C0,b.E0,b.I0,b.M0,b.J0,b.L0,b.N0,b.B0,()),()))=_ from hy'];rw[V_,a4_];rfl
def Md(l:List UInt8):List Int:=l.map λx=>(x.toNat:Int)
def Aw0(l:List UInt8):EF (Md l)=txt l:=by
 rw[Apx];unfold Md;rw[List.map_map];congr 1
 conv=>rhs;rw[<-List.map_id l]
 refine List.map_congr_left λx _=>?_;show UInt8.ofNat (aA (x.toNat:Int))=x;rw[j_,UInt8.ofNat_toNat]
def Bf9(l:List UInt8):(Md l).all (λn=>decide (0<=n)&&decide (n<256))=C:=by
 rw[L_];intro n hn;obtain⟨x,_,rfl⟩:=b6_.1 hn
 have:x.toNat<256:=bE x
 simp only[e_,q_];omega
def Ayv(h:l≠[]):Gl (Md l)=E ((txt l,()),(((),Md l,()),())):=by
 unfold Gl;rw[Bf9,Aw0,show Aws (Md l)=C by
  cases l with
  |nil=>exact absurd rfl h
  |cons a t=>rfl]
 rfl
def Bd4(s:ByteArray)(h:l.length+s.size<=2147483648):EB s (Md l)=E (((s.size:Int),(),()),(((),Md (l++bl s),()),())):=by unfold EB wsF;rw[show(Md l).length=l.length from c8_ _,AR h];unfold Md bl;rw[List.map_append];rfl
def Bbj(b:Bldg)(r:aB):(bl (PC b r)).length<=6:=by
 unfold PC;cases Ay b r with
 |true=>rw[J,Iq,Hl];omega
 |false=>rw[H,Iq];simp
def Xx(h:Ay b r=C):PC b r=txt (CT r):=by unfold PC;rw[h];rfl
def An4{b:Bldg}:∀{rs:List aB},(∀r∈rs,Ay b r=C)->rs.flatMap (λr=>bl (PC b r))=rs.flatMap CT
 |[],_=>rfl
 |r::t,h=>by rw[a1_,a1_,Xx (h r (p_ ..)),Iq,An4 λx hx=>h x (r_ _ hx)]
def Ahn(rs:List aB):(rs.flatMap CT).length=6*rs.length:=by
 induction rs with
 |nil=>rfl
 |cons r t ih=>rw[a1_,g_,ih,Hl,E_];omega
section
variable{b:Bldg}(hb:b.small)(hc:b.B0.length<=100)
include hb hc
theorem Al9(bud:Int)(hl:rs.length<=1000000)(s t:Sto):MX ((bud,(),(),(),(),rs,(rs.length:Int),(0:Int),()),(b.tup,(s.h0,s.h1,s.sel,()),(t.h0,t.h1,t.sel,()),((),[],()),()))=E ((bud,(),(),(),(),()),(b.tup,(s.h0,s.h1,s.sel,()),(t.h0,t.h1,t.sel,()),((),Md (rs.flatMap λr=>bl (PC b r)),()),())):=by
 have h:=Cb (step:=λx=>letI a:=x.2.1.2.2;letI c:=x.1.2.2.2.2.2;letI d:=x.2.2;letI f:=a.2.2;HT x.1.1 c.1 c.2.1 c.2.2.1 x.2.1.1 x.2.1.2.1 a.1 a.2.1 f.1 f.2.1 f.2.2.1 f.2.2.2.1 d.1.1 d.1.2.1 d.1.2.2.1 d.2.1.1 d.2.1.2.1 d.2.1.2.2.1 d.2.2.1.2.1) rs.length
  (λi (l:List UInt8)=>((bud,(),(),(),(),rs,(rs.length:Int),(i:Int),()),(b.tup,(s.h0,s.h1,s.sel,()),(t.h0,t.h1,t.sel,()),((),Md l,()),()))) (λi l=>l++bl (PC b (rs.getD i (aO 0 0 0 0 0)))) (λi l=>l.length<=6*i) (λl=>((bud,(),(),(),(),()),(b.tup,(s.h0,s.h1,s.sel,()),(t.h0,t.h1,t.sel,()),((),Md l,()),()))) (λi l hi hs=>by
   have he:=Bbj b (rs.getD i (aO 0 0 0 0 0));refine⟨?_,by rw[g_];omega⟩;show HT bud rs (rs.length:Int) (i:Int) b.C0 b.E0 b.I0 b.M0 b.J0 b.L0 b.N0 b.B0 s.h0 s.h1 s.sel t.h0 t.h1 t.sel (Md l)=_;unfold HT;simp only[V (ω:(i:Int)<(rs.length:Int)),Ac (ω:(0:Int)<=(i:Int)) (ω:(i:Int)<(rs.length:Int)),J,j_,UK hb hc,U,Bd4 (PC b (rs.getD i (aO 0 0 0 0 0))) (l:=l) (by rw[<-FT];omega),Gx hi (show rs.length<=AX by unfold AX;omega)];rfl) (λl _=>by
   show HT bud rs (rs.length:Int) (rs.length:Int) b.C0 b.E0 b.I0 b.M0 b.J0 b.L0 b.N0 b.B0 s.h0 s.h1 s.sel t.h0 t.h1 t.sel (Md l)=_;unfold HT;simp only[Z (U_ (rs.length:Int)),H];rfl) rs.length 0 [] ω σ
 have h':=Aw h.1 ω;have e:AV (λi l=>l++bl (PC b (rs.getD i (aO 0 0 0 0 0)))) rs.length 0 []=rs.flatMap λr=>bl (PC b r):=by rw[NI (λi=>bl (PC b (rs.getD i (aO 0 0 0 0 0)))),a4_,QK (λr=>bl (PC b r)) (aO 0 0 0 0 0) rs 0 rs.length ω,V_]
 rw[e]at h';exact h'
end
def Gs(b:Bldg)(s:Sto)(m:Img)(bud:Int):Sto×Int×Int:=
 bif !(aH (s.ok b.I0))then(Sto.no,0,1)else bif decide (bud<0)then(Sto.no,0,1)else bif !(m.ok b)then(Sto.no,0,1)else
 bif((s.erase b.I0 (1-s.sel) bud).2.2==0)then
  (bif(((s.erase b.I0 (1-s.sel) bud).1.write b.I0 (1-s.sel) (txt ((Fd m).flatMap CT)) (s.erase b.I0 (1-s.sel) bud).2.1).2.2==0)then
   ((s.erase b.I0 (1-s.sel) bud).1.write b.I0 (1-s.sel) (txt ((Fd m).flatMap CT)) (s.erase b.I0 (1-s.sel) bud).2.1).1.choose b.I0 (1-s.sel) ((s.erase b.I0 (1-s.sel) bud).1.write b.I0 (1-s.sel) (txt ((Fd m).flatMap CT)) (s.erase b.I0 (1-s.sel) bud).2.1).2.1
  else(s.erase b.I0 (1-s.sel) bud).1.write b.I0 (1-s.sel) (txt ((Fd m).flatMap CT)) (s.erase b.I0 (1-s.sel) bud).2.1)
 else s.erase b.I0 (1-s.sel) bud
def Bjp(room:Int)(s:Sto)(half bud:Int)(t:Sto)(hb:bud<9223372036854775808):(s.act room half bud t).2.1<9223372036854775808:=by
 unfold Sto.act;split
 .show(0:Int)<_;omega
 .split
  .show(0:Int)<_;omega
  .show bud-1<_;omega
def Bdg(room:Int)(s:Sto)(half:Int)(d:ByteArray)(bud:Int)(hb:bud<9223372036854775808):(s.write room half d bud).2.1<9223372036854775808:=by
 unfold Sto.write;split
 .show(0:Int)<_;omega
 .split
  .show(0:Int)<_;omega
  .split
   .show(0:Int)<_;omega
   .show bud-(d.size:Int)<_;omega
def WL(hb:b.small)(hc:b.B0.length<=100)(s:Sto)(hf:m.fit)(hbud:bud<9223372036854775808):
  Mm b.C0 b.E0 b.I0 b.M0 b.J0 b.L0 b.N0 b.B0 s.h0 s.h1 s.sel m.G0 m.O0 m.K0 m.A0 bud=E (Sto.out (Gs b s m bud)):=by
 have hmx:100000<=maxLen:=by decide
 have hp:=hf.p;have he:=hf.e;unfold Mm Gs;rw[HC,Dv hb m ω ω,Afv hb hf];simp only[U];by_cases hs:s.ok b.I0
 .rw[V (show Sto.ok b.I0 ⟨s.h0,s.h1,s.sel⟩from hs)];by_cases hb0:bud<0
  .rw[V hb0];rfl
  rw[Z hb0];cases hok:m.ok b with
  |false=>rfl
  |true=>
   have hm:=Img.ok_iff.1 hok;have hcars:=Ah hm.code;have hlp:=hm.lp;have hsn:Al3 b m=Fd m:=by unfold Al3;rw[hok];rfl
   have hsl:=Akk m;have hne:(Fd m).flatMap CT≠[]:=λh0=>by have h1:=Ahn (Fd m);rw[h0,hsl,d5_]at h1;omega
   have hloop:=Al9 hb hc bud (rs:=Fd m) (by rw[hsl];omega) s Sto.no;rw[An4 (Yn hm)]at hloop;simp only[Bldg.tup,Sto.no,noB]at hloop;have hsel:W.wrap (1-s.sel)=1-s.sel:=by obtain⟨_,_,_,_,h5⟩:=hs;exact Aa ω ω
   simp only[t_,H,hsn,hloop,U,hsel,Aw3 _ _ _ _ _ _ hbud,Sto.out];have hb1:=Bjp b.I0 s (1-s.sel) bud (s.set (1-s.sel) noB) hbud;rw[show s.act b.I0 (1-s.sel) bud (s.set (1-s.sel) noB)=s.erase b.I0 (1-s.sel) bud from rfl]at hb1;rw[show Sto.mk s.h0 s.h1 s.sel=s from rfl];generalize s.erase b.I0 (1-s.sel) bud=r1 at hb1|-;cases hq:r1.2.2==0 with
   |false=>simp only[H,U,hq]
   |true=>
    simp only[J,Ayv hne,U,TV _ _ _ _ _ _ _ hb1,Sto.out];have hb2:=Bdg b.I0 r1.1 (1-s.sel) (txt ((Fd m).flatMap CT)) r1.2.1 hb1;rw[show Sto.mk r1.1.h0 r1.1.h1 r1.1.sel=r1.1 from rfl];generalize r1.1.write b.I0 (1-s.sel) (txt ((Fd m).flatMap CT)) r1.2.1=r2 at hb2|-;cases hq2:r2.2.2==0 with
    |false=>simp only[H]
    |true=>simp only[J,Ars _ _ _ _ _ _ hb2,U,Sto.out]
 .rw[Z (show ¬Sto.ok b.I0 ⟨s.h0,s.h1,s.sel⟩from hs)];rfl
def KD(b:Bldg)(m:Img)(r:aB):Bool:=r.Q0==1&&(!(GO (Ax r.D0 r.H0) m.A0)&&!(KG b m))
def Gv(b:Bldg)(s:Sto)(m:Img)(r:aB)(bud:Int):Sto×Int×Int:=bif decide ((6:Int)<=b.I0-(s.cur.size:Int))then s.write b.I0 s.sel (txt (CT r)) bud else Gs b s (Ak m r) bud
def Ra(b:Bldg)(s:Sto)(m:Img)(r:aB)(bud:Int):Sto×Img×Int×Int:=
 bif !(m.ok b&&Ay b r)then(Sto.no,Img.none,0,1)else bif !(aH (s.ok b.I0))then(Sto.no,Img.none,0,1)else bif decide (bud<0)then(Sto.no,Img.none,0,1)else
 bif KD b m r then(Sto.no,Img.none,0,7)else
 bif(Gv b s m r bud).2.2==0 then((Gv b s m r bud).1,Ak m r,(Gv b s m r bud).2.1,(Gv b s m r bud).2.2)
 else bif(Gv b s m r bud).2.2==8 then((Gv b s m r bud).1,m,0,(Gv b s m r bud).2.2)else(Sto.no,Img.none,0,(Gv b s m r bud).2.2)
def Aml(r:Sto×Img×Int×Int):(Unit×Unit×Int×Int×Unit)×((ByteArray×ByteArray×Int×Unit)×(List Int×List Bool×List Bool×List O×Unit)×Unit):=(((),(),r.2.2.1,r.2.2.2,()),((r.1.h0,r.1.h1,r.1.sel,()),r.2.1.tup,()))
def Ak3(hb:b.small)(hc:b.B0.length<=100)(s:Sto)(hp:m.G0.length<=100000)(hl:m.A0.length<=10000)(r:aB)(hbud:bud<9223372036854775808):
    Qa b.C0 b.E0 b.I0 b.M0 b.J0 b.L0 b.N0 b.B0 s.h0 s.h1 s.sel m.G0 m.O0 m.K0 m.A0 r.Q0 r.D0 r.H0 r.R0 r.X1 bud=E (Aml (Ra b s m r bud)):=by
  unfold Qa Ra;rw[ZH hb hc m hp hl r,HC];unfold YX;cases hq:m.ok b&&Ay b r with
  |false=>rfl
  |true=>
    rw[e_]at hq;have hm:=Img.ok_iff.1 hq.1;simp only[U,J,O_,H,t_];by_cases hs:s.ok b.I0
    · rw[V (show Sto.ok b.I0 ⟨s.h0,s.h1,s.sel⟩from hs)]
      by_cases hb0:bud<0
      · rw[V hb0];rfl
      rw[Z hb0];obtain⟨hm2,hl2⟩:=Ke hm hq.2;have h1:=hm.lp;have h2:=hm.lf;have h3:=hm.ll;have g1:=hm2.lp;have g2:=hm2.lf;have g3:=hm2.ll;have hf2:(Ak m r).fit:=⟨ω,ω,ω,ω⟩
      have hcur:(s.cur.size:Int)<=b.I0:=by
        obtain⟨_,_,h3,h4,_⟩:=hs;unfold Sto.cur;split
        · exact h4
        · exact h3
      have hroom:=Zk hm.code;have wr:W.wrap (b.I0-(s.cur.size:Int))=b.I0-(s.cur.size:Int):=Aa ω ω;have hsz:((PC b r).size:Int)=6:=by rw[Xx hq.2,Mh,Hl];rfl
      rw[Acc m hm.so ω];have step:∀q:Bool,q=KD b m r->(bif q then E (((),(),(0:Int),(7:Int),()),(((aL (aK [])),(aL (aK [])),(0:Int),()),(([]:List Int),([]:List Bool),([]:List Bool),([]:List O),()),()))else
          E (Aml (bif(Gv b s m r bud).2.2==0 then((Gv b s m r bud).1,Ak m r,(Gv b s m r bud).2.1,(Gv b s m r bud).2.2)else bif(Gv b s m r bud).2.2==8 then((Gv b s m r bud).1,m,0,(Gv b s m r bud).2.2)else(Sto.no,Img.none,0,(Gv b s m r bud).2.2))))=
        E (Aml (bif KD b m r then(Sto.no,Img.none,0,7)else(bif(Gv b s m r bud).2.2==0 then((Gv b s m r bud).1,Ak m r,(Gv b s m r bud).2.1,(Gv b s m r bud).2.2)else bif(Gv b s m r bud).2.2==8 then((Gv b s m r bud).1,m,0,(Gv b s m r bud).2.2)else(Sto.no,Img.none,0,(Gv b s m r bud).2.2)))):=by
        rintro q rfl;cases KD b m r<;>rfl
      simp only[t_,H,U];rw[<-step _ rfl];have e5 : ∀ q : Bool, (bif (r.Q0 == (1 : Int)) then
              bif(!(GO (Ax r.D0 r.H0) m.A0))then
                (NW b.C0 b.E0 b.I0 b.M0 b.J0 b.L0 b.N0 b.B0 m.G0 m.O0 m.K0 m.A0).bind λy4=>
                E ((bud,(),(),(),(),(),(),(),(!y4.1.1),()),((b.C0,b.E0,b.I0,b.M0,b.J0,b.L0,b.N0,b.B0,()),(s.h0,s.h1,s.sel,()),(m.G0,m.O0,m.K0,m.A0,()),(r.Q0,r.D0,r.H0,r.R0,r.X1,()),((aL (aK [])),(aL (aK [])),(0:Int),()),(([]:List Int),([]:List Bool),([]:List Bool),([]:List O),()),(Ak m r).tup,()))
              else
                E ((bud,(),(),(),(),(),(),(),B,()),((b.C0,b.E0,b.I0,b.M0,b.J0,b.L0,b.N0,b.B0,()),(s.h0,s.h1,s.sel,()),(m.G0,m.O0,m.K0,m.A0,()),(r.Q0,r.D0,r.H0,r.R0,r.X1,()),((aL (aK [])),(aL (aK [])),(0:Int),()),(([]:List Int),([]:List Bool),([]:List Bool),([]:List O),()),(Ak m r).tup,()))
            else
              E ((bud,(),(),(),(),(),(),(),B,()),((b.C0,b.E0,b.I0,b.M0,b.J0,b.L0,b.N0,b.B0,()),(s.h0,s.h1,s.sel,()),(m.G0,m.O0,m.K0,m.A0,()),(r.Q0,r.D0,r.H0,r.R0,r.X1,()),((aL (aK [])),(aL (aK [])),(0:Int),()),(([]:List Int),([]:List Bool),([]:List Bool),([]:List O),()),(Ak m r).tup,())))=E ((bud,(),(),(),(),(),(),(),KD b m r,()),((b.C0,b.E0,b.I0,b.M0,b.J0,b.L0,b.N0,b.B0,()),(s.h0,s.h1,s.sel,()),(m.G0,m.O0,m.K0,m.A0,()),(r.Q0,r.D0,r.H0,r.R0,r.X1,()),((aL (aK [])),(aL (aK [])),(0:Int),()),(([]:List Int),([]:List Bool),([]:List Bool),([]:List O),()),(Ak m r).tup,())):=λ_=>by
        rw[Acb hb m ω hp ω];unfold KD;cases r.Q0==1<;>cases GO (Ax r.D0 r.H0) m.A0<;>rfl
      have e5':=e5 C;simp only[Img.tup]at e5'|-;rw[e5'];simp only[U];cases KD b m r with
      |true=>rfl
      |false=>
        simp only[H];rw[UK hb hc,RW];simp only[U,hsz];rw[show Sto.cur ⟨s.h0,s.h1,s.sel⟩=s.cur from rfl,wr,Xx hq.2];have hw:Jw b.I0 s.h0 s.h1 s.sel s.sel (txt (CT r)) bud=_:=TV b.I0 s.h0 s.h1 s.sel s.sel (txt (CT r)) bud hbud;have hcp:=WL hb hc s hf2 hbud;rw[hw,hcp];simp only[U];have e10:∀{A:Type}(f:Sto×Int×Int->A),(bif decide ((6:Int)<=b.I0-(s.cur.size:Int))then E (f (s.write b.I0 s.sel (txt (CT r)) bud))else E (f (Gs b s (Ak m r) bud)))=E (f (Gv b s m r bud)):=λf=>by unfold Gv;cases decide ((6:Int)<=b.I0-(s.cur.size:Int))<;>rfl
        rw[show Sto.mk s.h0 s.h1 s.sel=s from rfl];have e10':=e10 λw=>((w.2.1,(),(),(),(),(),w.2.2,()),((w.1.h0,w.1.h1,w.1.sel,()),(m.G0,m.O0,m.K0,m.A0,()),((aL (aK [])),(aL (aK [])),(0:Int),()),(([]:List Int),([]:List Bool),([]:List Bool),([]:List O),()),(Ak m r).tup,()))
        simp only[Img.tup]at e10';simp only[Sto.out];rw[e10'];simp only[U];generalize Gv b s m r bud=w;cases w.2.2==0 with
        |true=>rfl
        |false=>
          simp only[H];cases w.2.2==8 with
          |true=>rw[ZK m hp ω ω ω];rfl
          |false=>rfl
    · rw[Z (show ¬Sto.ok b.I0 ⟨s.h0,s.h1,s.sel⟩from hs)]
      rfl
def Ap9(hv:∀r∈rs,Ay b r=C)(hl:rs.length<=90000)(m0 m:Img)(hm:ImgOK b m)(hml:m.A0.length=0):
  Oi (((),(),rs,(rs.length:Int),(0:Int),()),(m0.tup,m.tup,()))=E (((),(),()),(m0.tup,(Aj m rs).tup,())):=by
 have hcars:=Ah hm.code;have h:=Cb (step:=λx=>letI a:=x.2.2.1;IP x.1.2.2.1 x.1.2.2.2.1 x.1.2.2.2.2.1 x.2.1.1 x.2.1.2.1 x.2.1.2.2.1 x.2.1.2.2.2.1 a.1 a.2.1 a.2.2.1 a.2.2.2.1) rs.length
  (λi (m:Img)=>(((),(),rs,(rs.length:Int),(i:Int),()),(m0.tup,m.tup,()))) (λi m=>Ak m (rs.getD i (aO 0 0 0 0 0))) (λi m=>ImgOK b m/\m.A0.length<=i) (λm=>(((),(),()),(m0.tup,m.tup,()))) (λi m hi hs=>by
   obtain⟨hm,hle⟩:=hs;have hr:=hv _ (AL (aO 0 0 0 0 0) hi);obtain⟨a1,a2⟩:=Ke hm hr;refine⟨?_,a1,ω⟩;show IP rs (rs.length:Int) (i:Int) m0.G0 m0.O0 m0.K0 m0.A0 m.G0 m.O0 m.K0 m.A0=_;unfold IP;simp only[V (ω:(i:Int)<(rs.length:Int)),Ac (ω:(0:Int)<=(i:Int)) (ω:(i:Int)<(rs.length:Int)),J,j_,Gx hi (show rs.length<=AX by unfold AX;omega)];rw[YC hm.so ω (rs.getD i (aO 0 0 0 0 0)) λhk=>by have h0:=Agu hr hk;have h1:=hm.lp;have h2:=hm.lf;have h3:=hm.ll;omega];rfl) (λm _=>by
   show IP rs (rs.length:Int) (rs.length:Int) m0.G0 m0.O0 m0.K0 m0.A0 m.G0 m.O0 m.K0 m.A0=_;unfold IP;simp only[Z (U_ (rs.length:Int)),H];rfl) rs.length 0 m ω ⟨hm,ω⟩
 have h':=Aw h.1 ω;have e:∀(l:List aB) (m:Img),l.foldl Ak m=Aj m l:=λl=>by
  induction l with
  |nil=>exact λm=>rfl
  |cons r t ih=>exact λm=>ih (Ak m r)
 rw[Wm Ak (aO 0 0 0 0 0) rs rs.length 0 m ω,V_,e]at h';exact h'
def DZ(b:Bldg)(s:Sto):Img:=Aj (Gu b) (Oq b s.cur)
def YB(hb:b.small)(hcode:b.code=0)(s:Sto)(hs:s.cur.size<=500000):
  Nl b.C0 b.E0 b.I0 b.M0 b.J0 b.L0 b.N0 b.B0 s.h0 s.h1 s.sel=E (((),()),((DZ b s).tup,())):=by
 have hcars:=Ah hcode;obtain⟨n,hr⟩:=Ain hb ω hcode s.cur ω;have hlen:(Oq b s.cur).length<=90000:=by
  have:=ZY b s.cur.size (bl s.cur)
  rw[FT]at this;unfold Oq;omega
 have hl:=Ap9 (b:=b) (rs:=Oq b s.cur) (λr hr=>Wv b _ _ r hr) hlen Img.none (Gu b) (Ac7 hcode) rfl;unfold Nl;rw[Ah3,hcode,RW];simp only[U,m_,J];rw[show Sto.cur ⟨s.h0,s.h1,s.sel⟩=s.cur from rfl,hr];simp only[U];simp only[Img.tup,Img.none]at hl|-;rw[hl];rfl
section
variable{s:Sto}{room half bud:Int}(hs:s.ok room)(hh:half=0\/half=1)(hb:0<=bud)
include hs hh hb
theorem Ba5:s.chk room half bud=0:=by unfold Sto.chk;rw[if_pos hs,if_neg ω]
theorem Ad8(hr:((s.get half).size:Int)+(t.length:Int)<=room):s.write room half (txt t) bud=if bud<(t.length:Int)then(s.set half (s.get half++txt (t.take bud.toNat)),0,8)else(s.set half (s.get half++txt t),bud-(t.length:Int),0):=by have he:(txt t).extract 0 bud.toNat=txt (t.take bud.toNat):=Sf (by rw[WC,Iq,Iq];simp);unfold Sto.write;rw[Ba5 hs hh hb,if_neg ω,Mh,if_neg ω,he]
theorem Bai(t:Sto):s.act room half bud t=if bud=0 then(s,0,8)else(t,bud-1,0):=by unfold Sto.act;rw[Ba5 hs hh hb,if_neg ω]
end
def UR{s:Sto}{half:Int}(hs:s.ok room){x:ByteArray}(hx:(x.size:Int)<=room):(s.set half x).ok room:=by
 obtain⟨h1,h2,h3,h4,h5⟩:=hs;unfold Sto.set Sto.ok;split
 .exact⟨h1,h2,hx,h4,h5⟩
 .exact⟨h1,h2,h3,hx,h5⟩
def Bc5{s:Sto}{half:Int}(hs:s.ok room)(hh:half=0\/half=1):Sto.ok room { s with sel:=half }:=by obtain⟨h1,h2,h3,h4,_⟩:=hs;exact⟨h1,h2,h3,h4,hh⟩
def VS{s:Sto}(hs:s.ok room):s.sel=0\/s.sel=1:=hs.2.2.2.2
def Ahf{s:Sto}(hh:s.sel=0\/s.sel=1):s.cur=s.get s.sel:=by unfold Sto.cur Sto.get;rcases hh with h|h<;>rw[h]<;>rfl
def Ar6{s:Sto}(hh:s.sel=0\/s.sel=1)(x:ByteArray):(s.set s.sel x).cur=x:=by
  obtain⟨h0,h1,sel⟩:=s;rcases hh with h|h<;>
    (simp only at h
     subst h;simp[Sto.cur,Sto.set])
def Ai5{s:Sto}(hh:s.sel=0\/s.sel=1)(x:ByteArray):(s.set (1-s.sel) x).cur=s.cur:=by
  obtain⟨h0,h1,sel⟩:=s;rcases hh with h|h<;>
    (simp only at h
     subst h;simp[Sto.cur,Sto.set])
def Ajl{s:Sto}(hh:s.sel=0\/s.sel=1)(x:ByteArray):(s.set (1-s.sel) x).get (1-s.sel)=x:=by
  obtain⟨h0,h1,sel⟩:=s;rcases hh with h|h<;>
    (simp only at h
     subst h;simp[Sto.set,Sto.get])
def Akf{s:Sto}(hh:s.sel=0\/s.sel=1)(x y:ByteArray):(s.set (1-s.sel) x).set (1-s.sel) y=s.set (1-s.sel) y:=by
  obtain⟨h0,h1,sel⟩:=s;rcases hh with h|h<;>
    (simp only at h
     subst h;simp[Sto.set])
def Aez{s:Sto}(hh:s.sel=0\/s.sel=1)(x:ByteArray):Sto.cur { s.set (1-s.sel) x with sel:=1-s.sel }=x:=by
  obtain⟨h0,h1,sel⟩:=s;rcases hh with h|h<;>
    (simp only at h
     subst h;simp[Sto.cur,Sto.set])
def Aaa(hb:b.small)(hc:b.B0.length<=100){s:Sto}(h:bl s.cur=rs.flatMap CT++t)(ht:t.length<6)(hv:∀r∈rs,Ay b r=C):DZ b s=Aj (Gu b) rs:=by
 unfold DZ Oq;have hl:s.cur.size=6*rs.length+t.length:=by rw[<-FT,h,g_,Ahn]
 rw[h,Apg hb hc ht rs s.cur.size ω hv]
structure Jst(b:Bldg)(s:Sto)(m:Img):Prop where
 ok:s.ok b.I0
 img:ImgOK b m
 rs:∃rs:List Record,bl s.cur=rs.flatMap CT/\(∀r∈rs,Ay b r=true)/\Aj (Gu b) rs=m
 fits:18*((b.B0.length:Int)+(m.A0.length:Int))+6<=b.I0
def Aiy(hs:Bk m.A0)(h:r.Q0=1->GO (Ax r.D0 r.H0) m.A0=C):(Ak m r).A0.length<=m.A0.length:=by
 unfold Ak;cases r.Q0==4 with
 |true=>exact y_ _
 |false=>
 cases r.Q0==5 with
 |true=>exact y_ _
 |false=>
 cases r.Q0==6 with
 |true=>exact y_ _
 |false=>
 simp only[H];have hf:=Sm (c:=Ax r.D0 r.H0) 0 hs;rw[show Et r.D0 r.H0 m.A0 0=_ from hf];cases hq:GO (Ax r.D0 r.H0) m.A0 with
 |false=>
  simp only[H,m_,J];by_cases k1:r.Q0=1
  .rw[h k1]at hq;cases hq
  .rw[Ao k1];exact y_ _
 |true=>
  rw[J,Ao (ω:¬((0+AB (Ax r.D0 r.H0) m.A0:Nat):Int)=-1),H];cases r.Q0==2 with
  |true=>show(m.A0.take _++m.A0.drop _).length<=_;rw[g_,x_,W_];omega
  |false=>
  cases r.Q0==3 with
  |true=>show(m.A0.set _ _).length<=_;rw[z_];exact y_ _
  |false=>
  cases r.Q0==7 with
  |true=>show(m.A0.set _ _).length<=_;rw[z_];exact y_ _
  |false=>exact y_ _
def Ajf{s:Sto}(hj:Jst b s m)(hv:Ay b r=C)(hfull:KD b m r=B):18*((b.B0.length:Int)+((Ak m r).A0.length:Int))+6<=b.I0:=by
 have h0:=hj.fits;have h2:=(Ke hj.img hv).2;by_cases hk:r.Q0=1
 .cases hq:GO (Ax r.D0 r.H0) m.A0 with
  |true=>have:=Aiy hj.img.so λ_=>hq;omega
  |false=>unfold KD KG at hfull;rw[hk,hq,Img.ok_iff.2 hj.img]at hfull;simp at hfull;omega
 .have:=Aiy hj.img.so (r:=r) λh=>absurd h hk
  omega
def Ad5(h:ImgOK b m):(((Fd m).flatMap CT).length:Int)=18*((b.B0.length:Int)+(m.A0.length:Int)):=by rw[Ahn,Akk,h.lp];omega
def Xp{s:Sto}(hs:s.ok b.I0)(hm:ImgOK b m)(hb0:0<=bud)(hfit:18*((b.B0.length:Int)+(m.A0.length:Int))<=b.I0):
  (2+18*((b.B0.length:Int)+(m.A0.length:Int))<=bud/\Gs b s m bud=({ s.set (1-s.sel) (txt ((Fd m).flatMap CT))with sel:=1-s.sel },bud-(2+18*((b.B0.length:Int)+(m.A0.length:Int))),0))\/
  (bud<2+18*((b.B0.length:Int)+(m.A0.length:Int))/\∃s',Gs b s m bud=(s',0,8)/\s'.ok b.I0/\s'.cur=s.cur):=by
 have hsel:=VS hs;have hh:1-s.sel=0\/1-s.sel=1:=ω;have hL:=Ad5 hm;have hroom:=hs.1;have he:s.erase b.I0 (1-s.sel) bud=if bud=0 then(s,0,8)else(s.set (1-s.sel) noB,bud-1,0):=Bai hs hh hb0 _
 unfold Gs;rw[V hs,Z (ω:¬bud<0),Img.ok_iff.2 hm];simp only[t_,H];generalize hT:(Fd m).flatMap CT=T at hL|-;by_cases h0:bud=0
 .right;rw[he,if_pos h0];exact⟨ω,s,rfl,hs,rfl⟩
 .rw[if_neg h0]at he;rw[he];have hs1:(s.set (1-s.sel) noB).ok b.I0:=UR hs (by show(0:Int)<=_;omega);have hw:=Ad8 (t:=T) hs1 hh (ω:0<=bud-1) (by rw[Ajl hsel];show((0:Nat):Int)+_<=_;omega);rw[Ajl hsel,Akf hsel,Akf hsel]at hw;have nb:∀x:ByteArray,noB++x=x:=λx=>Sf (by rw[Mu];rfl);rw[nb,nb]at hw;simp only[m_,J,hw];by_cases h1:bud-1<(T.length:Int)
  .right;rw[if_pos h1];refine⟨ω,_,rfl,UR hs ?_,Ai5 hsel _⟩;rw[Mh,x_];omega
  .rw[if_neg h1];have hs2:(s.set (1-s.sel) (txt T)).ok b.I0:=UR hs (by rw[Mh];omega);have hc:=Bai hs2 hh (ω:0<=bud-1-(T.length:Int)) { s.set (1-s.sel) (txt T)with sel:=1-s.sel };have hc':(s.set (1-s.sel) (txt T)).choose b.I0 (1-s.sel) (bud-1-(T.length:Int))=_:=hc;simp only[m_,J,hc'];by_cases h2:bud-1-(T.length:Int)=0
   .right;rw[if_pos h2];exact⟨ω,_,rfl,hs2,Ai5 hsel _⟩
   .left;rw[if_neg h2,show bud-1-(T.length:Int)-1=bud-(2+18*((b.B0.length:Int)+(m.A0.length:Int)))by omega];exact⟨ω,rfl⟩
def RO(b:Bldg)(s:Sto)(m:Img)(r:aB):Int:=if(s.cur.size:Int)+6<=b.I0 then 6 else 2+18*((b.B0.length:Int)+((Ak m r).A0.length:Int))
def Bam(hb:b.small){s:Sto}(hj:Jst b s m)(hv:Ay b r=C)(hfull:KD b m r=B)(hb0:0<=bud):
  (RO b s m r<=bud/\∃s',Ra b s m r bud=(s',Ak m r,bud-RO b s m r,0)/\Jst b s' (Ak m r))\/
  (bud<RO b s m r/\∃s',Ra b s m r bud=(s',m,0,8)/\s'.ok b.I0/\DZ b s'=m):=by
 have hcars:=Ah hj.img.code;have hc:b.B0.length<=100:=ω;have hm2:=(Ke hj.img hv).1;have hfit:=Ajf hj hv hfull;obtain⟨rs,e1,e2,e3⟩:=hj.rs;have hsel:=VS hj.ok;unfold Ra;rw[Img.ok_iff.2 hj.img,hv,V hj.ok,Z (ω:¬bud<0),hfull];simp only[b2_,t_,H];unfold RO Gv;by_cases g:(s.cur.size:Int)+6<=b.I0
 .rw[if_pos g,V (ω:(6:Int)<=b.I0-(s.cur.size:Int)),J];have hw:=Ad8 (t:=CT r) hj.ok hsel hb0 (by rw[<-Ahf hsel,Hl];omega);rw[Hl,<-Ahf hsel]at hw;rw[hw];by_cases h1:bud<((6:Nat):Int)
  .right;rw[if_pos h1];have hl:((CT r).take bud.toNat).length<6:=by rw[x_,Hl];omega
   refine⟨ω,_,rfl,UR hj.ok ?_,?_⟩
   .rw[<-FT,Mu,Iq,g_,FT];omega
   .rw[Aaa hb hc (rs:=rs) (t:=(CT r).take bud.toNat) (by rw[Ar6 hsel,Mu,Iq,e1]) hl e2,e3]
  .left;rw[if_neg h1];refine⟨ω,_,rfl,UR hj.ok ?_,hm2,⟨rs++[r],?_,?_,?_⟩,hfit⟩
   .rw[<-FT,Mu,Iq,g_,FT,Hl];omega
   .rw[Ar6 hsel,Mu,Iq,e1,List.flatMap_append];simp
   .intro x hx;rcases n_.1 hx with hx|hx
    .exact e2 x hx
    .rw[B_.1 hx];exact hv
   .rw[EO,e3];rfl
 .rw[if_neg g,Z (ω:¬(6:Int)<=b.I0-(s.cur.size:Int)),H];rcases Xp hj.ok hm2 hb0 ω with⟨q1,q2⟩|⟨q1,s',q2,q3,q4⟩
  .left;rw[q2];refine⟨q1,_,rfl,Bc5 (UR hj.ok ?_) ω,hm2,⟨Fd (Ak m r),?_,Yn hm2,Agj hm2⟩,hfit⟩
   .rw[Mh,Ad5 hm2];omega
   .rw[Aez hsel,Iq]
  .right;rw[q2];refine⟨q1,s',rfl,q3,?_⟩;rw[Aaa hb hc (rs:=rs) (t:=[]) (by rw[q4,e1,Y_]) σ e2,e3]
def Jst.replay(hb:b.small){s:Sto}(hj:Jst b s m):DZ b s=m:=by have hcars:=Ah hj.img.code;obtain⟨rs,e1,e2,e3⟩:=hj.rs;rw[Aaa hb ω (rs:=rs) (t:=[]) (by rw[e1,Y_]) σ e2,e3]
def Jst.first(hcode:b.code=0):Jst b Sto.no (Gu b):=by
 have hr:=Zk hcode;have hcars:=Ah hcode;refine⟨⟨ω,ω,?_,?_,.inl rfl⟩,Ac7 hcode,⟨[],rfl,(λr h=>by cases h),rfl⟩,?_⟩
 .show(0:Int)<=_;omega
 .show(0:Int)<=_;omega
 .show 18*((b.B0.length:Int)+((0:Nat):Int))+6<=_;omega
def Jst.ents{s:Sto}(hj:Jst b s m):m.A0.length<=4000/\m.fit:=by have h1:=hj.fits;have h2:=(Zk hj.img.code).2;have h3:=Ah hj.img.code;have g1:=hj.img.lp;have g2:=hj.img.lf;have g3:=hj.img.ll;exact⟨ω,ω,ω,ω,ω⟩
def Buc{s:Sto}(hs:s.ok room):(s.cur.size:Int)<=room:=by
 obtain⟨_,_,h3,h4,_⟩:=hs;unfold Sto.cur;split
 .exact h4
 .exact h3
def Bc1(s:Sto)(m:Img)(bud e:Int):(Unit×Unit×Int×Int×Unit)×((ByteArray×ByteArray×Int×Unit)×(List Int×List Bool×List Bool×List O×Unit)×Unit):=(((),(),bud,e,()),((s.h0,s.h1,s.sel,()),m.tup,()))
def DL(b:Bldg)(s:Sto)(bud:Int):Sto×Img×Int×Int:=
 bif(Gs b s (DZ b s) bud).2.2 !=0 then((Gs b s (DZ b s) bud).1,Img.none,0,(Gs b s (DZ b s) bud).2.2)
 else((Gs b s (DZ b s) bud).1,DZ b s,(Gs b s (DZ b s) bud).2.1,0)
def Aj7(hcode:b.code=0)(s:Sto)(hs:s.cur.size<=500000):ImgOK b (DZ b s)/\(DZ b s).A0.length<=90000/\(DZ b s).fit:=by have hc:=Ah hcode;obtain⟨h1,h2⟩:=YV (Ac7 hcode) (rs:=Oq b s.cur) λr hr=>Wv b _ _ r hr;have h3:=ZY b s.cur.size (bl s.cur);rw[FT]at h3;have h4:(Gu b).A0.length=0:=rfl;have h5:(Oq b s.cur).length=(Kl b s.cur.size (bl s.cur)).length:=rfl;have g1:=h1.lp;have g2:=h1.lf;have g3:=h1.ll;exact⟨h1,by show(Aj (Gu b) (Oq b s.cur)).A0.length<=_;omega,by show(Aj (Gu b) (Oq b s.cur)).G0.length<=_;omega,by show(Aj (Gu b) (Oq b s.cur)).O0.length<=_;omega,by show(Aj (Gu b) (Oq b s.cur)).K0.length<=_;omega,by show(Aj (Gu b) (Oq b s.cur)).A0.length<=_;omega⟩
def Ah4(hb:b.small)(hcode:b.code=0)(s:Sto)(hs:s.cur.size<=500000)(hbud:bud<9223372036854775808):
  OV b.C0 b.E0 b.I0 b.M0 b.J0 b.L0 b.N0 b.B0 s.h0 s.h1 s.sel bud=E (Bc1 (DL b s bud).1 (DL b s bud).2.1 (DL b s bud).2.2.1 (DL b s bud).2.2.2):=by
 have hc:=Ah hcode;obtain⟨_,_,hf⟩:=Aj7 hcode s hs;unfold OV DL;rw[YB hb hcode s hs];simp only[U,Img.tup];rw[WL hb ω s hf hbud];simp only[U,Sto.out];generalize Gs b s (DZ b s) bud=w;cases w.2.2 !=0<;>rfl
def XG(b:Bldg)(m:Img):Bool:=m.ok b&&decide (18*((b.B0.length:Int)+(m.A0.length:Int))+6<=b.I0)
def Cc1{a b:Nat}(h:a<=100000)(h':b<=100000):W.wrap (aC W (18*W.wrap ((a:Int)+(b:Int)))+6)=18*((a:Int)+(b:Int))+6:=by rw[Aa (n:=(a:Int)+(b:Int)) ω ω,Aa (n:=18*((a:Int)+(b:Int))) ω ω,Aa ω ω]
def VQ(hb:b.small)(m:Img)(hc:b.B0.length<=100000)(hf:m.fit):IM b.C0 b.E0 b.I0 b.M0 b.J0 b.L0 b.N0 b.B0 m.G0 m.O0 m.K0 m.A0=E ((XG b m,()),()):=by
 have hmx:100000<=maxLen:=by decide
 have hp:=hf.p;have he:=hf.e;unfold IM XG;rw[Dv hb m ω ω];simp only[U,Cc1 hc he];cases m.ok b<;>rfl
def Abw(m:Img)(hf:m.fit):IZ m.G0 m.O0 m.K0 m.A0=E (((),()),(m.tup,())):=by
 have k:∀{α:Type}(l:List α),l.length<=100000->MH l=E ((l,()),()):=λl h=>by unfold MH;rw[AR (ω:l.length<=2147483648)];rfl
 unfold IZ Bf AI AM;rw[k _ hf.p,k _ hf.f,k _ hf.l,k _ hf.e];rfl
def WN:aP:=⟨-1,0,0,[],0,B⟩
def Li(b:Bldg)(i:Nat):Car:=b.B0.getD i ⟨0,0,0,0,0,0,0,0,0⟩
def TG(b:Bldg)(e:O):Int:=bif decide (0<=e.R0)then(Li b e.R0.toNat).C1 else 0
def Mch.none:Mch:=⟨Img.none,Sto.no,[],[],[],[],[],[],0,0,0⟩
def Afg(b:Bldg)(m:Img)(s:Sto):Mch:=⟨m,s,aE b.B0.length Ge,aE b.B0.length WN,aE b.B0.length Bs,aE b.B0.length Adl,m.A0.map (TG b),aE b.B0.length Aic,0,0,0⟩
def Mch.withB(m:Mch)(l:List aP):Mch:={ m with U0:=l }
def Mch.withE(m:Mch)(l:List Int):Mch:={ m with Y1:=l }
def Apj{α:Type}(a:α):∀k i:Nat,(aI i k).flatMap (λ_=>[a])=aE k a
 |0,_=>rfl
 |k+1,i=>by rw[e2_,a1_,Apj a k (i+1),List.replicate_succ];rfl
def Bf7{α β:Type}(f:α->β)(l:List α):l.flatMap (λx=>[f x])=l.map f:=by
 induction l with
 |nil=>rfl
 |cons a t ih=>rw[a1_,ih];rfl
def Ap7(b:Bldg)(hc:b.B0.length<=1000)(m:Img)(z o:Mch)(ho:o.U0=[]):Im (((),(),(),(),(b.B0.length:Int),(0:Int),()),(b.tup,m.tup,z.tup,o.tup,()))=E (((),(),(),(),()),(b.tup,m.tup,z.tup,(o.withB (aE b.B0.length WN)).tup,())):=by
 have h:=Cb (step:=λx=>letI d:=x.2.2.2;letI j:=d.2.1.2;letI a:=j.2.2.2.2;letI k:=d.1.2;letI c:=k.2.2.2.2;letI e:=c.2.2.2.2;letI f:=a.2.2.2.2;letI g:=x.2.1.2.2;letI n:=e.2.2;letI q:=f.2.2;letI r:=g.2.2;letI s:=x.2.2.1;GI x.1.2.2.2.2.1 x.1.2.2.2.2.2.1 x.2.1.1 x.2.1.2.1 g.1 g.2.1 r.1 r.2.1 r.2.2.1 r.2.2.2.1 s.1 s.2.1 s.2.2.1 s.2.2.2.1 d.1.1 k.1 k.2.1 k.2.2.1 k.2.2.2.1 c.1 c.2.1 c.2.2.1 c.2.2.2.1 e.1 e.2.1 n.1 n.2.1 n.2.2.1 n.2.2.2.1 n.2.2.2.2.1 d.2.1.1 j.1 j.2.1 j.2.2.1 j.2.2.2.1 a.1 a.2.1 a.2.2.1 a.2.2.2.1 f.1 f.2.1 q.1 q.2.1 q.2.2.1 q.2.2.2.1 q.2.2.2.2.1) b.B0.length (λi (l:List aP)=>(((),(),(),(),(b.B0.length:Int),(i:Int),()),(b.tup,m.tup,z.tup,(o.withB l).tup,()))) (λ_ l=>l++[WN]) (λi l=>l.length<=i) (λl=>(((),(),(),(),()),(b.tup,m.tup,z.tup,(o.withB l).tup,()))) (λi l hi hl=>by
  refine⟨?_,by rw[g_,G_];omega⟩;show GI (b.B0.length:Int) (i:Int) b.C0 b.E0 b.I0 b.M0 b.J0 b.L0 b.N0 b.B0 m.G0 m.O0 m.K0 m.A0 z.F0.G0 z.F0.O0 z.F0.K0 z.F0.A0 z.Z0.h0 z.Z0.h1 z.Z0.sel z.K1 z.U0 z.B0 z.N3 z.Y1 z.G3 z.H4 z.T3 z.A3 (o.withB l).F0.G0 (o.withB l).F0.O0 (o.withB l).F0.K0 (o.withB l).F0.A0 (o.withB l).Z0.h0 (o.withB l).Z0.h1 (o.withB l).Z0.sel (o.withB l).K1 (o.withB l).U0 (o.withB l).B0 (o.withB l).N3 (o.withB l).Y1 (o.withB l).G3 (o.withB l).H4 (o.withB l).T3 (o.withB l).A3=_;unfold GI Gf;simp only[V (ω:(i:Int)<(b.B0.length:Int)),J,U,Gx hi (show b.B0.length<=AX by unfold AX;omega)];rw[AR (show(o.withB l).U0.length+[Belief.mk (-1) 0 0 [] 0 B].length<=2147483648 by show l.length+1<=_;omega)];rfl) (λl _=>by
  show GI (b.B0.length:Int) (b.B0.length:Int) b.C0 b.E0 b.I0 b.M0 b.J0 b.L0 b.N0 b.B0 m.G0 m.O0 m.K0 m.A0 z.F0.G0 z.F0.O0 z.F0.K0 z.F0.A0 z.Z0.h0 z.Z0.h1 z.Z0.sel z.K1 z.U0 z.B0 z.N3 z.Y1 z.G3 z.H4 z.T3 z.A3 (o.withB l).F0.G0 (o.withB l).F0.O0 (o.withB l).F0.K0 (o.withB l).F0.A0 (o.withB l).Z0.h0 (o.withB l).Z0.h1 (o.withB l).Z0.sel (o.withB l).K1 (o.withB l).U0 (o.withB l).B0 (o.withB l).N3 (o.withB l).Y1 (o.withB l).G3 (o.withB l).H4 (o.withB l).T3 (o.withB l).A3=_;unfold GI;simp only[Z (U_ (b.B0.length:Int)),H];rfl) b.B0.length 0 [] ω σ
 have h':=Aw h.1 ω;rw[NI (λ_=>[WN]),Apj,a4_]at h';rw[show o.tup=(o.withB []).tup by unfold Mch.withB Mch.tup;rw[ho]];exact h'
def Ap8(b:Bldg){l:List O}(hl:l.length<=100000)(hcar:∀e∈l,e.R0<(b.B0.length:Int))(z o:Mch)(ho:o.Y1=[]):Io (((),(),(),l,(l.length:Int),(0:Int),()),(b.tup,z.tup,o.tup,()))=E (((),(),()),(z.tup,(o.withE (l.map (TG b))).tup,())):=by
 have h:=Cb (step:=λx=>letI j:=x.2.2;letI n:=j.2.1.2;letI a:=n.2.2.2.2;letI m:=j.1.2.2;letI c:=m.2.2.2.2;letI d:=a.2.2.2.2;letI f:=c.2.2.2.2;letI k:=x.2.1.2.2;letI r:=d.2.2;letI s:=k.2.2;letI u:=f.2.2;GJ x.1.2.2.2.1 x.1.2.2.2.2.1 x.1.2.2.2.2.2.1 x.2.1.1 x.2.1.2.1 k.1 k.2.1 s.1 s.2.1 s.2.2.1 s.2.2.2.1 j.1.1 j.1.2.1 m.1 m.2.1 m.2.2.1 m.2.2.2.1 c.1 c.2.1 c.2.2.1 c.2.2.2.1 f.1 f.2.1 u.1 u.2.1 u.2.2.1 u.2.2.2.1 j.2.1.1 n.1 n.2.1 n.2.2.1 n.2.2.2.1 a.1 a.2.1 a.2.2.1 a.2.2.2.1 d.1 d.2.1 r.1 r.2.1 r.2.2.1 r.2.2.2.1 r.2.2.2.2.1) l.length (λi (q:List Int)=>(((),(),(),l,(l.length:Int),(i:Int),()),(b.tup,z.tup,(o.withE q).tup,()))) (λi q=>q++[TG b (l.getD i noE)]) (λi q=>q.length<=i) (λq=>(((),(),()),(z.tup,(o.withE q).tup,()))) (λi q hi hq=>by
  refine⟨?_,by rw[g_,G_];omega⟩;have hc:=hcar _ (AL noE hi);have b1:∀v:Int,aR ((o.withE q).Y1.length+[v].length) 2147483648=C:=λv=>AR (by show q.length+1<=_;omega);show GJ l (l.length:Int) (i:Int) b.C0 b.E0 b.I0 b.M0 b.J0 b.L0 b.N0 b.B0 z.F0.G0 z.F0.O0 z.F0.K0 z.F0.A0 z.Z0.h0 z.Z0.h1 z.Z0.sel z.K1 z.U0 z.B0 z.N3 z.Y1 z.G3 z.H4 z.T3 z.A3 (o.withE q).F0.G0 (o.withE q).F0.O0 (o.withE q).F0.K0 (o.withE q).F0.A0 (o.withE q).Z0.h0 (o.withE q).Z0.h1 (o.withE q).Z0.sel (o.withE q).K1 (o.withE q).U0 (o.withE q).B0 (o.withE q).N3 (o.withE q).Y1 (o.withE q).G3 (o.withE q).H4 (o.withE q).T3 (o.withE q).A3=_;unfold GJ;rw[show aF 0 0 0 0 B=noE from rfl];simp only[V (ω:(i:Int)<(l.length:Int)),Ac (ω:(0:Int)<=(i:Int)) (ω:(i:Int)<(l.length:Int)),J,j_];have hex:TG b (l.getD i noE)=bif decide (0<=(l.getD i noE).R0)then(Li b (l.getD i noE).R0.toNat).C1 else 0:=rfl;rw[hex];by_cases g:0<=(l.getD i noE).R0
  .rw[V g,Ac g hc];simp only[J,U,b1,Gx hi (show l.length<=AX by unfold AX;omega)];rfl
  .rw[Z g];simp only[H,J,U,b1,Gx hi (show l.length<=AX by unfold AX;omega)];rfl) (λq _=>by
  show GJ l (l.length:Int) (l.length:Int) b.C0 b.E0 b.I0 b.M0 b.J0 b.L0 b.N0 b.B0 z.F0.G0 z.F0.O0 z.F0.K0 z.F0.A0 z.Z0.h0 z.Z0.h1 z.Z0.sel z.K1 z.U0 z.B0 z.N3 z.Y1 z.G3 z.H4 z.T3 z.A3 (o.withE q).F0.G0 (o.withE q).F0.O0 (o.withE q).F0.K0 (o.withE q).F0.A0 (o.withE q).Z0.h0 (o.withE q).Z0.h1 (o.withE q).Z0.sel (o.withE q).K1 (o.withE q).U0 (o.withE q).B0 (o.withE q).N3 (o.withE q).Y1 (o.withE q).G3 (o.withE q).H4 (o.withE q).T3 (o.withE q).A3=_;unfold GJ;simp only[Z (U_ (l.length:Int)),H];rfl) l.length 0 [] ω σ
 have h':=Aw h.1 ω;rw[NI (λi=>[TG b (l.getD i noE)]),QK (λe=>[TG b e]) noE l 0 l.length ω,V_,Bf7,a4_]at h';rw[show o.tup=(o.withE []).tup by unfold Mch.withE Mch.tup;rw[ho]];exact h'
def QD(b:Bldg)(m:Img)(s:Sto):Mch×Int:=bif XG b m&&decide (s.ok b.I0)then(Afg b m s,0)else(Mch.none,1)
def Ady(hb:b.small)(m:Img)(hf:m.fit)(hc:b.B0.length<=1000)(s:Sto):MR b.C0 b.E0 b.I0 b.M0 b.J0 b.L0 b.N0 b.B0 m.G0 m.O0 m.K0 m.A0 s.h0 s.h1 s.sel=E (((),(QD b m s).2,()),((QD b m s).1.tup,())):=by
 unfold MR QD;rw[VQ hb m ω hf,HC,Abw m hf];simp only[U];cases hq:XG b m with
 |false=>rfl
 |true=>
  have hm:ImgOK b m:=by unfold XG at hq;rw[e_]at hq;exact Img.ok_iff.1 hq.1
  by_cases hs:s.ok b.I0
  .rw[V (show Sto.ok b.I0 ⟨s.h0,s.h1,s.sel⟩from hs)];have e:=hf.e
   let o:Mch:=⟨m,s,aE b.B0.length Ge,[],aE b.B0.length Bs,aE b.B0.length Adl,[],aE b.B0.length Aic,0,0,0⟩
   have l0:=Ap7 b hc m Mch.none o rfl;have l1:=Ap8 b (l:=m.A0) e (λx hx=>(CZ.1 (hm.en x hx)).2.1.2) Mch.none (o.withB (aE b.B0.length WN)) rfl;simp only[Mch.tup,Img.tup,Bldg.tup,Mch.withB,Mch.withE,Mch.none,Img.none,Sto.no,noB,o]at l0 l1;have dl:∀n:Nat,n<=1000->(aH ((0:Int)<=(n:Int))&&decide ((n:Int)<=(n:Int))&&decide ((n:Int)<=(2147483648:Int)))=C:=λn hn=>by rw[V (ω:(0:Int)<=(n:Int)),V (d9_ (n:Int)),V (ω:(n:Int)<=2147483648)];rfl
   simp only[t_,H,b2_,J,dl _ hc,j_,Img.tup];rw[show Debounced.mk 0 B B B B 0 0 0 0 0 0 0 0 0 0 0 0 0 0 0 0 0 0 0 0 0 0 0 0 0 0 0 0 0 0 0 0 0 0 0 0=Ge from rfl,show NewCar.mk 0 0 0 0 0 B 0 0 0 0 0 0 0 B=Bs from rfl,show Loaded.mk 0=Adl from rfl,show Calls.mk 0 0=Aic from rfl];rw[l0];simp only[U];rw[l1];rfl
  .rw[Z (show ¬Sto.ok b.I0 ⟨s.h0,s.h1,s.sel⟩from hs)];rfl
def Qv(b:Bldg)(s:Sto)(bud:Int):Mch×Int×Int:=
 bif(DL b s bud).2.2.2 !=0 then({ Mch.none with Z0:=(DL b s bud).1 },0,(DL b s bud).2.2.2)
 else bif(QD b (DL b s bud).2.1 (DL b s bud).1).2 !=0 then(Mch.none,0,(QD b (DL b s bud).2.1 (DL b s bud).1).2)
 else((QD b (DL b s bud).2.1 (DL b s bud).1).1,(DL b s bud).2.2.1,0)
def Bk3(hcode:b.code=0)(s:Sto)(hs:s.cur.size<=500000)(bud:Int):(DL b s bud).2.1.fit:=by
 obtain⟨_,_,hf⟩:=Aj7 hcode s hs;unfold DL;cases(Gs b s (DZ b s) bud).2.2 !=0 with
 |true=>exact⟨a3_ _,a3_ _,a3_ _,a3_ _⟩
 |false=>exact hf
def Af9(hb:b.small)(hcode:b.code=0)(s:Sto)(hs:s.cur.size<=500000)(hbud:bud<9223372036854775808):KU b.C0 b.E0 b.I0 b.M0 b.J0 b.L0 b.N0 b.B0 s.h0 s.h1 s.sel bud=E (((),(Qv b s bud).2.1,(Qv b s bud).2.2,()),((Qv b s bud).1.tup,())):=by
 have hc:=Ah hcode;unfold KU Qv;rw[Ah4 hb hcode s hs hbud];have hf:=Bk3 hcode s hs bud;simp only[U,Bc1,Img.tup];generalize DL b s bud=w at hf|-;cases w.2.2.2 !=0 with
 |true=>rfl
 |false=>simp only[H];rw[Ady hb w.2.1 hf ω w.1];simp only[U,Mch.tup];generalize QD b w.2.1 w.1=f;cases f.2 !=0<;>rfl
def HL(b:Bldg):Mch×Int:=bif b.code==0 then((Qv b Sto.no 1048576).1,(Qv b Sto.no 1048576).2.2)else(Mch.none,1)
def Adz(hb:b.small)(hcode:b.code=0):MS b.C0 b.E0 b.I0 b.M0 b.J0 b.L0 b.N0 b.B0=E (((),(HL b).2,()),((HL b).1.tup,())):=by unfold MS HL;rw[AC,hcode];simp only[U,O_,H,m_,J];rw[show KU b.C0 b.E0 b.I0 b.M0 b.J0 b.L0 b.N0 b.B0 (aL (aK [])) (aL (aK [])) 0 1048576=_ from Af9 hb hcode Sto.no τ (bud:=1048576) ω];rfl
def Asm:∀{l:List Nat}{a n:Nat},l.Pairwise (· < ·)->(∀x∈l,a<=x/\x<n)->l.length+a<=n\/l=[]
 |[],_,_,_,_=>.inr rfl
 |x::t,a,n,h,hr=>by
  left;obtain⟨h1,h2⟩:=e3_.1 h;have hx:=hr x (p_ ..);rcases Asm (a:=x+1) (n:=n) h2 (λy hy=>⟨h1 y hy,(hr y (r_ _ hy)).2⟩)with q|q
  .rw[E_];omega
  .subst q;simp;omega
def Bj8(hb:b.small)(hm:ImgOK b m):(m.A0.length:Int)<=2*(b.C0-1):=by
 have lo:=hb.lo;have hi:=hb.hi
 let ix:Int×Int->Nat:=λp=>if p.1=0 then 0 else if p.1=b.C0-1 then(2*b.C0-3).toNat else(2*p.1+p.2-2).toNat
 have hv:∀p∈m.A0.map Ce,(p.2=1/\0<=p.1/\p.1<=b.C0-2)\/(p.2=2/\1<=p.1/\p.1<=b.C0-1):=λp hp=>by obtain⟨e,he,rfl⟩:=b6_.1 hp;have h1:=(CZ.1 (hm.en e he)).1;unfold Ar RI at h1;simp only[e_,Q_,R_,An]at h1;show(e.H0=1/\0<=e.D0/\e.D0<=b.C0-2)\/(e.H0=2/\1<=e.D0/\e.D0<=b.C0-1);omega
 have hp:((m.A0.map Ce).map ix).Pairwise (· < ·):=by rw[List.pairwise_map];refine List.Pairwise.imp_of_mem (λ{p q} hp hq h=>?_) hm.so;have v1:=hv p hp;have v2:=hv q hq;unfold ltC at h;show ix p<ix q;simp only[ix];split<;>split<;>(try split)<;>(try split)<;>omega
 rcases Asm (a:=0) (n:=(2*b.C0-2).toNat) hp (λx hx=>by
  obtain⟨p,hp,rfl⟩:=b6_.1 hx;have v1:=hv p hp;refine⟨a3_ _,?_⟩;show ix p<_;simp only[ix];split
  .omega
  .split<;>omega)with q|q
 .rw[c8_,c8_]at q;omega
 .have:=f8_ List.length q
  rw[c8_,c8_,d5_]at this;omega
def Asj(hm:ImgOK b m)(hfit:18*((b.B0.length:Int)+(m.A0.length:Int))+6<=b.I0):XG b m=C:=by unfold XG;rw[Img.ok_iff.2 hm,V hfit];rfl
def Ac4(hm:ImgOK b m)(hfit:18*((b.B0.length:Int)+(m.A0.length:Int))+6<=b.I0){s:Sto}(hs:s.ok b.I0):QD b m s=(Afg b m s,0):=by unfold QD;rw[Asj hm hfit,V hs];rfl
def Bjv(_hb:b.small){s:Sto}(hs:s.ok b.I0)(hm:ImgOK b m)(hrep:DZ b s=m)(hfit:18*((b.B0.length:Int)+(m.A0.length:Int))+6<=b.I0)(hb0:0<=bud):
  (2+18*((b.B0.length:Int)+(m.A0.length:Int))<=bud/\Qv b s bud=(Afg b m { s.set (1-s.sel) (txt ((Fd m).flatMap CT))with sel:=1-s.sel },bud-(2+18*((b.B0.length:Int)+(m.A0.length:Int))),0)/\Jst b { s.set (1-s.sel) (txt ((Fd m).flatMap CT))with sel:=1-s.sel } m)\/
  (bud<2+18*((b.B0.length:Int)+(m.A0.length:Int))/\∃s',Qv b s bud=({ Mch.none with Z0:=s' },0,8)/\s'.ok b.I0/\DZ b s'=m):=by
 have hsel:=VS hs;unfold Qv DL;rw[hrep];rcases Xp hs hm hb0 ω with⟨q1,q2⟩|⟨q1,s',q2,q3,q4⟩
 .left;have hj:Jst b { s.set (1-s.sel) (txt ((Fd m).flatMap CT))with sel:=1-s.sel } m:=by
   refine⟨Bc5 (UR hs ?_) ω,hm,⟨Fd m,?_,Yn hm,Agj hm⟩,hfit⟩
   .rw[Mh,Ad5 hm];omega
   .rw[Aez hsel,Iq]
  rw[q2];refine⟨q1,?_,hj⟩;simp only[O_,H];rw[Ac4 hm hfit hj.ok];rfl
 .right;rw[q2];refine⟨q1,s',rfl,q3,?_⟩;rw[<-hrep];unfold DZ;rw[q4]
def Ig{X Y:Type}{step:X->Option (Sum X Y)}{N:Nat}(hN:N<=100000)(g:Nat->X){y:Y}(h1:∀i,i<N->step (g i)=E (.inl (g (i+1))))(h2:step (g N)=E (.inr y)):Cj step Eh (g 0)=E y:=Aw (Aoj N g y h1 h2 N 0 (o_ N)) ω
def Lw{i n:Nat}(hn:n<=100000)(h:i<n):W.wrap ((i:Int)+1)=((i+1:Nat):Int):=Gx h (by unfold AX;omega)
def Vj{p:Nat->Bool}:∀m i:Nat,(∀k,i<=k->k<i+m->p k=C)->Qu p m i=C
 |0,_,_=>rfl
 |m+1,i,h=>by simp only[Qu];rw[h i (y_ _) ω,H_];exact Vj m (i+1) λk h1 h2=>h k ω ω
def Uc{p:Nat->Bool}:∀m i:Nat,Qu p m i=C->∀k,i<=k->k<i+m->p k=C
 |0,_,_,k,h1,h2=>by omega
 |m+1,i,h,k,h1,h2=>by
  simp only[Qu,e_]at h;rcases g0_ i k with g|g
  .exact Uc m (i+1) h.2 k ω ω
  .obtain rfl:k=i:=ω;exact h.1
def SS{xs:List Int}(hl:xs.length<=100000)(h:∀x∈xs,0<=x/\x<=1000000):Ja xs=E ((C,()),()):=by
 have l:BB ((xs,(),(xs.length:Int),(0:Int),()),())=E (.inl ((),())):=Ig hl (λi=>((xs,(),(xs.length:Int),(i:Int),()),())) (λi hi=>by
  have hx:=h _ (AL 0 hi);have e:JP (xs.getD i 0)=E ((B,()),()):=by unfold JP;rw[Z ω,Z ω];rfl
  simp only[lp,Un.u,CH,Rq hi,Kh hi,Lw hl hi,j_,e,J,H,U]) (by simp only[lp,Un.u,CH,On,H])
 unfold Ja CA CR;rw[l];rfl
def Acy(x:aX):List Int:=[x.T5,x.U5,x.V5,x.X5,x.Y5,x.Z5,x.A6,x.B6,x.C6,x.D6,x.P4,x.Q4,x.R4,x.S4,x.T4,x.U4,x.V4,x.X4,x.Y4,x.Z4,x.A5,x.B5,x.C5,x.E5,x.F5,x.G5,x.H5,x.I5,x.K5,x.L5,x.M5,x.N5,x.O5,x.Q5,x.R5,x.S5]
def Anc(n:Int)(x:aX)(i:Nat):Bool:=decide (0<=(Acy x).getD i 0)&&decide ((Acy x).getD i 0<n)
def Vr(n:Int)(x:aX):Bool:=decide (1<=n)&&(aH (n<=16)&&Qu (Anc n x) 36 0)
def Zl{x:aX}(h:Vr n x=C):Fj n x.H1 x.V2 x.K2 x.L2 x.U1 x.T5 x.U5 x.V5 x.X5 x.Y5 x.Z5 x.A6 x.B6 x.C6 x.D6 x.P4 x.Q4 x.R4 x.S4 x.T4 x.U4 x.V4 x.X4 x.Y4 x.Z4 x.A5 x.B5 x.C5 x.E5 x.F5 x.G5 x.H5 x.I5 x.K5 x.L5 x.M5 x.N5 x.O5 x.Q5 x.R5 x.S5=E ((C,()),()):=by unfold Vr at h;simp only[e_,q_]at h;obtain⟨h1,h2,h3⟩:=h;have l:Fy ((n,(x.T5,x.U5,x.V5,x.X5,x.Y5,x.Z5,x.A6,x.B6,x.C6,x.D6,x.P4,x.Q4,x.R4,x.S4,x.T4,x.U4,x.V4,x.X4,x.Y4,x.Z4,x.A5,x.B5,x.C5,x.E5,x.F5,x.G5,x.H5,x.I5,x.K5,x.L5,x.M5,x.N5,x.O5,x.Q5,x.R5,x.S5,()),(0:Int),()),())=E (.inl ((),())):=Ig (N:=36) τ (λi=>((n,(x.T5,x.U5,x.V5,x.X5,x.Y5,x.Z5,x.A6,x.B6,x.C6,x.D6,x.P4,x.Q4,x.R4,x.S4,x.T4,x.U4,x.V4,x.X4,x.Y4,x.Z4,x.A5,x.B5,x.C5,x.E5,x.F5,x.G5,x.H5,x.I5,x.K5,x.L5,x.M5,x.N5,x.O5,x.Q5,x.R5,x.S5,()),(i:Int),()),())) (λi hi=>by have hx:=Uc 36 0 h3 i (a3_ _) ω;unfold Anc at hx;simp only[e_,q_]at hx;show Dm n x.T5 x.U5 x.V5 x.X5 x.Y5 x.Z5 x.A6 x.B6 x.C6 x.D6 x.P4 x.Q4 x.R4 x.S4 x.T4 x.U4 x.V4 x.X4 x.Y4 x.Z4 x.A5 x.B5 x.C5 x.E5 x.F5 x.G5 x.H5 x.I5 x.K5 x.L5 x.M5 x.N5 x.O5 x.Q5 x.R5 x.S5 (i:Int)=_;unfold Dm;simp only[V (ω:(i:Int)<36),Kh hi,Lw (show 36<=100000 by decide) hi,j_,J];show(bif decide ((Acy x).getD i 0<0)then _ else bif decide (n<=(Acy x).getD i 0)then _ else _)=_;rw[Z ω,Z ω];rfl) (by rfl);unfold Fj;rw[Z ω,Z ω,l];rfl
def VF(a b:Duty):Bool:=decide (a.D0<b.D0)||(a.D0==b.D0&&decide (a.H0<b.H0))
def Abp{a b:Duty}(h:VF a b=C):∃n:Int,Dc a.D0 a.H0 a.N4 b.D0 b.H0 b.N4=E ((n,()),())/\decide (0<=n)=B:=by
 unfold Dc;rw[IR,IR];simp only[U];rw[Zj];refine⟨_,rfl,?_⟩;unfold VF at h;simp only[Q_,e_,q_,R_]at h;unfold Xm;rcases h with h|⟨h,h'⟩
 .rw[V h];rfl
 .rw[h,Z (U_ _),V h'];rfl
def Uh(n lo hi:Int):Ej n lo hi=E ((inR lo hi n,()),()):=by unfold Ej inR;cases decide (lo<=n)<;>rfl
def Auu(x:aP)(i:Nat):Bool:=i==0||VF (x.V0.getD (i-1) HK) (x.V0.getD i HK)
def Anq(b:Bldg)(car:Nat)(x:aP)(i:Nat):Bool:=Ar b (x.V0.getD i HK).D0 (x.V0.getD i HK).H0&&(inR 0 (Li b car).C1 (x.V0.getD i HK).N4&&Auu x i)
def Aej(b:Bldg)(car:Nat)(x:aP):Bool:=inR (-1) (b.C0-1) x.D0&&(inR 0 3 x.H0&&(inR 0 3 x.G1&&(inR 0 1000000 x.I3&&(!(x.Z3&&decide ((0:Int)<(x.V0.length:Int)))&&Qu (Anq b car x) x.V0.length 0))))
def SQ(hb:b.small)(hcode:b.code=0){car:Nat}(hcar:car<b.B0.length){x:aP}(hx:x.V0.length<=100000)(h:Aej b car x=C):CF b.C0 b.E0 b.I0 b.M0 b.J0 b.L0 b.N0 b.B0 (car:Int) x.D0 x.H0 x.G1 x.V0 x.I3 x.Z3=E ((C,()),()):=by
 have lo:=hb.lo;have hi8:=hb.hi;have hcc:=Ah hcode;unfold Aej at h;simp only[e_]at h;obtain⟨h1,h2,h3,h4,h5,h6⟩:=h;have l:JT (((car:Int),(),(),x.V0,(x.V0.length:Int),(0:Int),()),(b.tup,x.tup,()))=E (.inl ((),())):=Ig hx (λi=>(((car:Int),(),(),x.V0,(x.V0.length:Int),(i:Int),()),(b.tup,x.tup,()))) (λi hi=>by
  have hp:=Uc _ 0 h6 i (a3_ _) ω;unfold Anq Auu at hp;simp only[e_]at hp;obtain⟨p1,p2,p3⟩:=hp;show HG (car:Int) x.V0 (x.V0.length:Int) (i:Int) b.C0 b.E0 b.I0 b.M0 b.J0 b.L0 b.N0 b.B0 x.D0 x.H0 x.G1 x.V0 x.I3 x.Z3=_;unfold HG;have p2:inR 0 (b.B0.getD car (Car.mk 0 0 0 0 0 0 0 0 0)).C1 (x.V0.getD i (aS 0 0 0)).N4=C:=p2;have p1:Ar b (x.V0.getD i (aS 0 0 0)).D0 (x.V0.getD i (aS 0 0 0)).H0=C:=p1;simp only[Rq hi,Kh hi,Kh hcar,Lw hx hi,J,j_,Nz hb,Uh,U,p1,p2,t_,H];cases i with
  |zero=>rfl
  |succ j=>rw[V (ω:(0:Int)<((j+1:Nat):Int)),Aa (n:=((j+1:Nat):Int)-1) ω ω,show((j+1:Nat):Int)-1=(j:Int)by omega,Kh (ω:j<x.V0.length)];obtain⟨n,e1,e2⟩:=Abp p3;simp only[J,j_];rw[show Dc (x.V0.getD j (aS 0 0 0)).D0 (x.V0.getD j (aS 0 0 0)).H0 (x.V0.getD j (aS 0 0 0)).N4 (x.V0.getD (j+1) (aS 0 0 0)).D0 (x.V0.getD (j+1) (aS 0 0 0)).H0 (x.V0.getD (j+1) (aS 0 0 0)).N4=_ from e1];simp only[U,e2,Lw hx hi];rfl) (by
  show HG (car:Int) x.V0 (x.V0.length:Int) (x.V0.length:Int) b.C0 b.E0 b.I0 b.M0 b.J0 b.L0 b.N0 b.B0 x.D0 x.H0 x.G1 x.V0 x.I3 x.Z3=_;simp only[lp,Un.u,HG,On,H])
 have r:(bif x.Z3 then decide ((0:Int)<(x.V0.length:Int))else B)=B:=by
  cases hL:x.Z3 with
  |false=>rfl
  |true=>rw[hL]at h5;simpa using h5
 unfold CF;rw[AC,hcode];simp only[Uh,U,O_,H,Aa (n:=(b.B0.length:Int)-1) ω ω,Aa (n:=b.C0-1) ω ω,show inR 0 ((b.B0.length:Int)-1) (car:Int)=C from An.2 ⟨ω,ω⟩,h1,h2,h3,h4,t_];cases hL:x.Z3 with
 |false=>rw[Belief.tup,hL]at l;exact Ae rfl (Ae l rfl)
 |true=>rw[hL]at r;rw[Belief.tup,hL]at l;have r:decide ((0:Int)<(x.V0.length:Int))=B:=r;rw[J,r];exact Ae rfl (Ae l rfl)
def Ru(x:aJ):Bool:=inR 0 2 x.T1&&inR 0 7 x.F1
def Ti(x:aJ):Bool:=(x.X0==0)&&((x.M1==0)&&((x.I1==0)&&((x.L1==B)&&((x.E1==0)&&C))))
def Sj(x:aJ):Bool:=bif x.X0==0 then Ti x else inR 0 3 x.X0&&(inR 0 1000000 x.M1&&(inR 0 1000000 x.I1&&inR 0 1000000 x.E1))
def Ao1(x:aJ):Bool:=(x.T0==0)&&((x.W0==0)&&((x.S0==0)&&C))
def VJ(fl:Int)(x:aJ):Bool:=inR 0 1000000 x.W0&&(bif x.T0==0 then x.S0==0 else bif x.T0==1 then inR 0 (fl-1) x.S0&&inR 0 (fl-1) (x.S0+1)else bif x.T0==2 then inR 0 (fl-1) x.S0&&inR 0 (fl-1) (x.S0-1)else B)
def Ahb(x:aJ):Bool:=(x.T1==0)&&((x.F1==0)&&((x.X0==0)&&((x.M1==0)&&((x.I1==0)&&((x.L1==B)&&((x.E1==0)&&((x.T0==0)&&((x.W0==0)&&((x.S0==0)&&((x.M2==0)&&((x.J3==0)&&((x.Y3==0)&&((x.Q3==C)&&C)))))))))))))
def Af8(fl:Int)(x:aJ):Bool:=(aV x.M2 ((2:Int)^(aA fl))==0)&&(inR 0 2 x.J3&&inR 0 1000000 x.Y3)
def WV(fl:Int)(x:aJ):Bool:=Ru x&&(Sj x&&(VJ fl x&&((Ti x||Ao1 x)&&Af8 fl x)))
def IB(b:Bldg)(x:aJ):Bool:=bif x.Q3 then Ahb x else WV b.C0 x
def FU(x:aJ):Ca x.T1 x.F1=E ((Ru x,()),()):=by unfold Ca Ru inR;cases decide (0<=x.T1)<;>cases decide (x.T1<=2)<;>cases decide (0<=x.F1)<;>rfl
def Ae1(n:Int):IH n=E ((inR 0 1000000 n,()),()):=by unfold IH inR;cases decide (0<=n)<;>rfl
def QA(x:aJ):GU x.X0 x.M1 x.I1 x.L1 x.E1=E ((Sj x,()),()):=by
 unfold GU Sj Ti;simp only[Ae1,U];cases x.X0==0 with
 |true=>rfl
 |false=>unfold inR;cases decide (0<=x.X0)<;>cases decide (x.X0<=3)<;>cases(aH (0<=x.M1)&&decide (x.M1<=1000000))<;>cases(aH (0<=x.I1)&&decide (x.I1<=1000000))<;>rfl
def OB(h:2<=fl/\fl<=8)(x:aJ):GV fl x.T0 x.W0 x.S0=E ((VJ fl x,()),()):=by
 unfold GV VJ;rw[Z (ω:¬fl<2),Z (ω:¬32<fl)];simp only[H];by_cases t:0<=x.W0/\x.W0<=1000000
 .rw[Z (ω:¬x.W0<0),Z (ω:¬1000000<x.W0),show inR 0 1000000 x.W0=C from An.2 t];simp only[H,H_];by_cases f:0<=x.S0/\x.S0<fl
  .rw[Z (ω:¬x.S0<0),Z (ω:¬fl<=x.S0),show inR 0 (fl-1) x.S0=C from An.2 ⟨f.1,ω⟩];simp only[H,H_];by_cases c0:x.T0=0
   .rw[c0];rfl
   .rw[Ao c0];simp only[H];unfold Gi;by_cases c1:x.T0=1
    .rw[c1];simp only[O_,H,U,show inB 1 3=C from rfl,J,m_];rw[show List.getD [(0:Int),1,-1] (aA 1) 0=1 from rfl,Aa ω ω];unfold inR;by_cases z:x.S0+1<fl
     .rw[V z,V (ω:0<=x.S0+1),V (ω:x.S0+1<=fl-1)];rfl
     .rw[Z z,V (ω:0<=x.S0+1),Z (ω:¬x.S0+1<=fl-1)];rfl
    .rw[LZ c1,Ao c1];simp only[J,H];by_cases c2:x.T0=2
     .rw[c2];simp only[O_,H,U,show inB 2 3=C from rfl,J,m_];rw[show List.getD [(0:Int),1,-1] (aA 2) 0=-1 from rfl,Aa ω ω,show x.S0+ -1=x.S0-1 by omega];unfold inR;by_cases z:0<=x.S0-1
      .rw[V z,V (ω:x.S0-1<fl),V (ω:x.S0-1<=fl-1)];rfl
      .rw[Z z];rfl
     .rw[LZ c2,Ao c2];rfl
  .have hf:inR 0 (fl-1) x.S0=B:=by
    cases hq:inR 0 (fl-1) x.S0 with
    |false=>rfl
    |true=>have:=An.1 hq;omega
   rw[hf];have hz:(x.S0==0)=B:=Ao ω;rw[hz];simp only[a9_];have e:(bif x.T0==0 then B else bif x.T0==1 then B else bif x.T0==2 then B else B)=B:=by cases x.T0==0<;>cases x.T0==1<;>cases x.T0==2<;>rfl
   rw[e];by_cases z:x.S0<0
   .rw[V z];rfl
   .rw[Z z,V (ω:fl<=x.S0)];rfl
 .have hf:inR 0 1000000 x.W0=B:=by
   cases hq:inR 0 1000000 x.W0 with
   |false=>rfl
   |true=>exact absurd (An.1 hq) t
  rw[hf];simp only[a9_];by_cases z:x.W0<0
  .rw[V z];rfl
  .rw[Z z,V (ω:1000000<x.W0)];rfl
def KE(hb:b.small)(hcode:b.code=0)(x:aJ):EG b.C0 b.E0 b.I0 b.M0 b.J0 b.L0 b.N0 b.B0 x.T1 x.F1 x.X0 x.M1 x.I1 x.L1 x.E1 x.T0 x.W0 x.S0 x.M2 x.J3 x.Y3 x.Q3=E ((IB b x,()),()):=by
 have lo:=hb.lo;have hi8:=hb.hi;have hmin:aQ (aA b.C0) (IntKind.bits aD)=aA b.C0:=d4_ (by show _<=32;omega);unfold EG IB;rw[AC,hcode];simp only[U,O_,H];have main:WV b.C0 x=WV b.C0 x:=rfl;cases hF:x.Q3 with
 |true=>
  have hZ:Ahb x=((x.T1==0)&&((x.F1==0)&&((x.X0==0)&&((x.M1==0)&&((x.I1==0)&&((x.L1==B)&&((x.E1==0)&&((x.T0==0)&&((x.W0==0)&&((x.S0==0)&&((x.M2==0)&&((x.J3==0)&&((x.Y3==0)&&((C==C)&&C)))))))))))))):=by unfold Ahb;rw[hF]
  rw[J,<-hZ];cases hq:Ahb x with
  |false=>rfl
  |true=>
   have hq':=hq;unfold Ahb at hq';simp only[e_,R_]at hq';obtain⟨e1,e2,e3,e4,e5,e6,e7,e8,e9,e10,e11,e12,e13,_⟩:=hq';simp only[t_,U,H,J,FU,QA,OB ⟨lo,hi8⟩];have s1:Ru x=C:=by unfold Ru;rw[e1,e2];rfl
   have s2:Sj x=C:=by unfold Sj Ti;rw[e3,e4,e5,e6,e7];rfl
   have s3:VJ b.C0 x=C:=by unfold VJ;rw[e8,e9,e10];rfl
   rw[s1,s2,s3,e3,e4,e5,e6,e7,e11,e12,e13];simp only[m_,d6_,t_,H,U];rw[V (ω:0<=b.C0),hmin];simp only[J];rw[show aV 0 ((2:Int)^aA b.C0)=0 from Int.zero_fdiv _];rfl
 |false=>
  simp only[U,H,FU,QA,OB ⟨lo,hi8⟩];unfold WV;cases Ru x with
  |false=>rfl
  |true=>
  cases Sj x with
  |false=>rfl
  |true=>
  cases VJ b.C0 x with
  |false=>rfl
  |true=>
   simp only[t_,H,H_];rw[show((x.X0==0)&&((x.M1==0)&&((x.I1==0)&&((x.L1==B)&&((x.E1==0)&&C)))))=Ti x from rfl,show((x.T0==0)&&((x.W0==0)&&((x.S0==0)&&C)))=Ao1 x from rfl];have fin:(bif decide (0<=b.C0)then bif(aV x.M2 ((2:Int)^(aA b.C0))==0)then bif decide (0<=x.J3)then bif decide (x.J3<=2)then bif decide (0<=x.Y3)then E ((aH (x.Y3<=1000000),()),())else E ((B,()),())else E ((B,()),())else E ((B,()),())else E ((B,()),())else none)=E ((Af8 b.C0 x,()),()):=by rw[V (ω:0<=b.C0)];unfold Af8 inR;cases aV x.M2 ((2:Int)^(aA b.C0))==0<;>cases decide (0<=x.J3)<;>cases decide (x.J3<=2)<;>cases decide (0<=x.Y3)<;>rfl
   cases Ti x with
   |true=>simp only[t_,H,U,Bool.true_or,H_];rw[hmin,fin];rfl
   |false=>
    cases Ao1 x with
    |true=>simp only[t_,d8_,J,H,U,Bool.false_or,H_];rw[hmin,fin];rfl
    |false=>rfl
def Abr(hb:b.small)(hcode:b.code=0){l:List aX}(hn:l.length=b.B0.length)(h:∀x∈l,Vr b.E0 x=C):Be l (b.B0.length:Int) b.C0 b.E0 b.I0 b.M0 b.J0 b.L0 b.N0 b.B0=E ((C,()),(b.tup,())):=by
 have hcc:=Ah hcode;have q:Bb (((),l,(l.length:Int),(0:Int),()),(b.tup,()))=E (.inl ((),(b.tup,()))):=Ig (N:=l.length) ω (λi=>(((),l,(l.length:Int),(i:Int),()),(b.tup,()))) (λi hi=>by
  have e:=Zl (h _ (AL Ge hi));show AK l (l.length:Int) (i:Int) b.C0 b.E0 b.I0 b.M0 b.J0 b.L0 b.N0 b.B0=_;unfold AK GW;simp only[Rq hi,Kh hi,Lw (ω:l.length<=100000) hi,j_,J];exact Ae (Ae e rfl) rfl) (by
  show AK l (l.length:Int) (l.length:Int) b.C0 b.E0 b.I0 b.M0 b.J0 b.L0 b.N0 b.B0=_;simp only[lp,Un.u,AK,On,H];rfl)
 unfold Be;rw[hn,O_,<-hn];exact Ae q rfl
def Ahj(hb:b.small)(hcode:b.code=0){l:List aP}(hn:l.length=b.B0.length)(h:∀i,i<l.length->Aej b i (l.getD i (Belief.mk 0 0 0 [] 0 B))=C)(hd:∀x∈l,x.V0.length<=100000):Bo l (b.B0.length:Int) b.C0 b.E0 b.I0 b.M0 b.J0 b.L0 b.N0 b.B0=E ((C,()),(b.tup,())):=by
 have hcc:=Ah hcode;have q:Bi (((),l,(l.length:Int),(0:Int),()),(b.tup,()))=E (.inl ((),(b.tup,()))):=Ig (N:=l.length) ω (λi=>(((),l,(l.length:Int),(i:Int),()),(b.tup,()))) (λi hi=>by
  have e:=SQ hb hcode (ω:i<b.B0.length) (hd _ (AL (Belief.mk 0 0 0 [] 0 B) hi)) (h i hi);show AN l (l.length:Int) (i:Int) b.C0 b.E0 b.I0 b.M0 b.J0 b.L0 b.N0 b.B0=_;unfold AN GX;simp only[Rq hi,Kh hi,Lw (ω:l.length<=100000) hi,j_,J];exact Ae (Ae e rfl) rfl) (by
  show AN l (l.length:Int) (l.length:Int) b.C0 b.E0 b.I0 b.M0 b.J0 b.L0 b.N0 b.B0=_;simp only[lp,Un.u,AN,On,H];rfl)
 unfold Bo;rw[hn,O_,<-hn];exact Ae q rfl
def Ahl(hb:b.small)(hcode:b.code=0){l:List aJ}(hn:l.length=b.B0.length)(h:∀x∈l,IB b x=C):Bp l (b.B0.length:Int) b.C0 b.E0 b.I0 b.M0 b.J0 b.L0 b.N0 b.B0=E ((C,()),(b.tup,())):=by
 have hcc:=Ah hcode;have q:Bj (((),l,(l.length:Int),(0:Int),()),(b.tup,()))=E (.inl ((),(b.tup,()))):=Ig (N:=l.length) ω (λi=>(((),l,(l.length:Int),(i:Int),()),(b.tup,()))) (λi hi=>by
  have e:=KE hb hcode (l.getD i Bs);rw[h _ (AL Bs hi)]at e;show AO l (l.length:Int) (i:Int) b.C0 b.E0 b.I0 b.M0 b.J0 b.L0 b.N0 b.B0=_;unfold AO GY;simp only[Rq hi,Kh hi,Lw (ω:l.length<=100000) hi,j_,J];exact Ae (Ae e rfl) rfl) (by
  show AO l (l.length:Int) (l.length:Int) b.C0 b.E0 b.I0 b.M0 b.J0 b.L0 b.N0 b.B0=_;simp only[lp,Un.u,AO,On,H];rfl)
 unfold Bp;rw[hn,O_,<-hn];exact Ae q rfl
def Ahk{l:List Loaded}(hl:l.length<=100000)(hn:(l.length:Int)=n)(h:∀x∈l,0<=x.F6/\x.F6<=4):BP l n=E ((C,()),()):=by
 have q:BF (((),l,(l.length:Int),(0:Int),()),())=E (.inl ((),())):=Ig hl (λi=>(((),l,(l.length:Int),(i:Int),()),())) (λi hi=>by
  have hx:=h _ (AL (Loaded.mk 0) hi);have e:HR (i:Int) (l.getD i (Loaded.mk 0)).F6=E ((C,()),()):=by unfold HR;rw[V hx.1,V hx.2];rfl
  simp only[lp,Un.u,CM,Rq hi,Kh hi,Lw hl hi,j_,J];exact Ae e rfl) (by simp only[lp,Un.u,CM,On,H])
 unfold BP;rw[hn,O_,<-hn];exact Ae q rfl
def Ane(h:b.code=0):1<=b.E0/\b.E0<=16:=by
 unfold Bldg.code at h;cases h1:inR 2 32 b.C0<;>rw[h1]at h
 .cases h
 cases h2:inR 1 8 (b.B0.length:Int)<;>rw[h2]at h
 .cases h
 cases h3:inR 1 16 b.E0<;>rw[h3]at h
 .cases h
 exact An.1 h3
def Aw2(h:Bl fl c=C):0<=c.C1/\c.C1<=1000000:=by
 unfold Bl at h;rw[e_,L_]at h
 have:=An.1 (h.1 c.C1 (p_ ..))
 omega
def Ai2(h:b.code=0)(hc:c∈b.B0):0<=c.C1/\c.C1<=1000000:=by
 unfold Bldg.code at h;cases h1:inR 2 32 b.C0<;>rw[h1]at h
 .cases h
 cases h2:inR 1 8 (b.B0.length:Int)<;>rw[h2]at h
 .cases h
 cases h3:inR 1 16 b.E0<;>rw[h3]at h
 .cases h
 cases h4:inR 1 10000 b.M0<;>rw[h4]at h
 .cases h
 cases h5:b.B0.all (Bl b.C0)<;>rw[h5]at h
 .cases h
 exact Aw2 (L_.1 h5 c hc)
def Bgf(h:1<=n/\n<=16):Vr n Ge=C:=by
 unfold Vr;rw[V h.1,V h.2,H_,H_];refine Vj 36 0 λk _ hk=>?_;unfold Anc
 have:(Acy Ge).getD k 0=0:=by show(aE 36 (0:Int)).getD k 0=0;rw[k_,List.getElem?_replicate];split<;>rfl
 rw[this,V (ω:(0:Int)<n)];rfl
def IG(n:Int):0<=aD.wrap n/\aD.wrap n<4294967296:=by simp only[aC,IntKind.signed,IntKind.bits];simp;exact⟨Int.emod_nonneg _ τ,Int.emod_lt_of_pos _ τ⟩
def Ad7(n:Int):0<=aM.wrap n/\aM.wrap n<256:=by simp only[aC,IntKind.signed,IntKind.bits];simp;exact⟨Int.emod_nonneg _ τ,Int.emod_lt_of_pos _ τ⟩
def Ap0(n:Int):Sat (Dd n) λy=>0<=y.1.1/\y.1.1<=32:=by
 unfold Dd;refine Sat.bic (λ_=>Sat.ret (show(0:Int)<=32/\(32:Int)<=32 by decide)) λ_=>Sat.bifT (Ac ?_ ?_) (Sat.ret ?_)
 .rw[P_ _ τ];exact Int.ediv_nonneg (IG _).1 τ
 .rw[P_ _ τ];refine Int.ediv_lt_of_lt_mul τ ?_;exact(IG _).2
 .have h:∀(l:List Int) (k:Nat),(∀x∈l,0<=x/\x<=32)->0<=W.wrap (l.getD k 0)/\W.wrap (l.getD k 0)<=32:=λl k h=>by
   have:0<=l.getD k 0/\l.getD k 0<=32:=by
    by_cases hk:k<l.length
    .rw[k_,i_ hk];exact h _ (a6_ hk)
    .rw[k_,List.getElem?_eq_none ω];decide
   rw[Aa ω ω];exact this
  exact h _ _ τ
instance tz_ti(n:Int):SatT (Dd n):=⟨(Ap0 n).any⟩
def Ba1(s:ByteArray)(i:Nat):0<=BG s i/\BG s i<=255:=by
 unfold BG
 have:=(s.data.getD i 0).toNat_lt
 omega
def Aly(n:Int):Sat (KI n) λy=>0<=y.1.1/\y.1.1<=300:=by
 unfold KI;refine Sat.bindS (Q:=λy=>y.1.2.1=0\/y.1.2.1=16) (Sat.bic (λ_=>Sat.ret (.inr rfl)) λ_=>Sat.ret (.inl rfl)) λy1 h1=>Sat.bindS (Q:=λy=>0<=y.1.2.1/\y.1.2.1<=24) (Sat.bic (λ_=>Sat.ret ?_) λ_=>Sat.ret ?_) λy2 h2=>?_
 .show 0<=W.wrap (y1.1.2.1+8)/\W.wrap (y1.1.2.1+8)<=24;rw[Aa ω ω];omega
 .show 0<=y1.1.2.1/\y1.1.2.1<=24;omega
 refine Sat.bifT (Ac (Ad7 _).1 (Ad7 _).2) (Sat.ret ?_);have h:∀s i,0<=W.wrap (y2.1.2.1+W.wrap (BG s i))/\W.wrap (y2.1.2.1+W.wrap (BG s i))<=300:=λs i=>by
  have:=Ba1 s i
  rw[Aa (n:=BG s i) ω ω,Aa ω ω];omega
 exact h _ _
instance len_ti(n:Int):SatT (KI n):=⟨(Aly n).any⟩
def Amy(a b c d:Int):Sat (Cn a b c d) λ_=>True:=⟨_,EP (a,b) (c,d),trivial⟩
def RL(a b:Int){F D:Int}(hF:0<=F/\F<32)(hD:D=1\/D=2):Sat (DV a b F D) λ_=>True:=⟨_,Qw (a,b) hF hD,trivial⟩
def Bt7(fl d o f a b c:Int)(h:0<=fl)(hf:0<=f/\f<32):Sat (GB fl d o f a b c) λy=>y.2.1.2.2.2.2.2.1=o:=by unfold GB;have g:=V hf.1;refine Sat.bifT (V h) (Sat.bindS (Amy ..) λy1 _=>Sat.bifT g (Sat.bindS (RL _ _ hf (.inl rfl)) λy2 _=>Sat.bindS (RL _ _ hf (.inr rfl)) λy3 _=>?_));refine Sat.bindS (Q:=λy=>y.1.1=f/\y.2.2.1.2.2.2.2.2.1=o) (Sat.bifT g (Sat.bic (λ_=>Sat.bindS (Ap0 _) λ_ _=>Sat.ret ⟨rfl,rfl⟩) λ_=>Sat.ret ⟨rfl,rfl⟩)) λy5 h5=>?_;refine Sat.bifT (V (by rw[h5.1];exact hf.1)) (Sat.bic (λ_=>Sat.bindS (Aly _) λ_ _=>Sat.ret h5.2) λ_=>Sat.ret h5.2)
def Bdf(a b c:Bool)(d e o:Int):Sat (Di a b c d e o) λy=>y.2.1.2.2.2.2.2.1=o\/y.2.1.2.2.2.2.2.1=0:=by
 unfold Di;refine Sat.bindS (Q:=λy=>y.2.1.2.2.2.2.2.1=o) ?_ λy1 h1=>?_
 .refine Sat.bic (λ_=>?_) λ_=>?_<;>exact Sat.bic (λ_=>Sat.bic (λ_=>Sat.ret rfl) λ_=>Sat.ret rfl) λ_=>Sat.bic (λ_=>Sat.ret rfl) λ_=>Sat.ret rfl
 refine Sat.bindS (Q:=λy=>y.2.2.1.2.2.2.2.2.1=o) ?_ λy2 h2=>?_
 .refine Sat.bic (λ_=>?_) λ_=>?_<;>exact Sat.bic (λ_=>Sat.bic (λ_=>Sat.ret h1) λ_=>Sat.ret h1) λ_=>Sat.bic (λ_=>Sat.ret h1) λ_=>Sat.ret h1
 exact Sat.bic (λ_=>Sat.ret (.inl h2)) λ_=>Sat.bic (λ_=>Sat.ret (.inl h2)) λ_=>Sat.bic (λ_=>Sat.ret (.inl h2)) λ_=>Sat.bic (λ_=>Sat.ret (.inl h2)) λ_=>Sat.bic (λ_=>Sat.ret (.inl h2)) λ_=>Sat.ret (.inr rfl)
def dir2(n:Int):Prop:=0<=n/\n<=2
def dir2.zero:dir2 0:=⟨τ,τ⟩
def dir2.one:dir2 1:=⟨τ,τ⟩
def dir2.two:dir2 2:=⟨τ,τ⟩
def Bgb(a b c:Bool)(d e o:Int):Sat (Ds a b c d e o) λy=>dir2 y.1.1:=by unfold Ds;refine Sat.bindS (Q:=λ_=>True) Sat.go λy1 _=>?_;exact Sat.bic (λ_=>Sat.ret dir2.one) λ_=>Sat.bic (λ_=>Sat.ret dir2.two) λ_=>Sat.ret dir2.zero
def chP(y:(Unit×Unit)×((Int×Int×Int×Unit)×Unit)):Prop:=dir2 y.2.1.2.1/\dir2 y.2.1.2.2.1
def Abe{f:Int}(c:Bool)(a:Int){s:Int}(o:Bool)(b:Int)(hf:dir2 f)(hs:dir2 s):Sat (HA f c a s o b) λy=>dir2 y.1.1:=by unfold HA;exact Sat.bic (λ_=>Sat.ret hf) λ_=>Sat.bic (λ_=>Sat.ret hf) λ_=>Sat.bic (λ_=>Sat.ret hs) λ_=>Sat.bic (λ_=>Sat.ret hs) λ_=>Sat.ret dir2.zero
def WP(h:dir2 n):Sat (Dn n) chP:=Sat.ret ⟨h,h⟩
def Bc2(a b c:Bool)(d e o:Int):Sat (Dh a b c d e o) chP:=by unfold Dh;refine Sat.bindS (Bgb ..) λy h=>?_;refine Sat.bic (λ_=>Sat.bindS (WP dir2.one) λ_ h=>Sat.ret h) λ_=>Sat.bic (λ_=>Sat.bindS (WP dir2.two) λ_ h=>Sat.ret h) λ_=>Sat.bic (λ_=>Sat.bindS (WP h) λ_ h=>Sat.ret h) λ_=>?_;exact Sat.bic (λ_=>Sat.ret ⟨h,dir2.zero⟩) λ_=>Sat.bic (λ_=>Sat.ret ⟨h,dir2.zero⟩) λ_=>Sat.ret ⟨dir2.zero,dir2.zero⟩
def Ajc(a b c:Bool)(d e o:Int):Sat (Cu a b c d e o) chP:=by unfold Cu;refine Sat.bindS (Q:=λ_=>True) Sat.go λy1 _=>?_;refine Sat.bic (λ_=>Sat.bindS (Abe _ _ _ _ dir2.two dir2.one) λ_ h=>Sat.bindS (WP h) λ_ h=>Sat.ret h) λ_=>Sat.bic (λ_=>Sat.ret ⟨dir2.two,dir2.zero⟩) λ_=>?_;exact Sat.bic (λ_=>Sat.bindS (WP dir2.one) λ_ h=>Sat.ret h) λ_=>Sat.bic (λ_=>Sat.ret ⟨dir2.one,dir2.zero⟩) λ_=>Sat.ret ⟨dir2.zero,dir2.zero⟩
def Bgt(a b c:Bool)(d e o:Int):Sat (Dt a b c d e o) chP:=by unfold Dt;refine Sat.bindS (Q:=λ_=>True) Sat.go λy1 _=>?_;refine Sat.bic (λ_=>Sat.bindS (Abe _ _ _ _ dir2.one dir2.two) λ_ h=>Sat.bindS (WP h) λ_ h=>Sat.ret h) λ_=>Sat.bic (λ_=>Sat.ret ⟨dir2.one,dir2.zero⟩) λ_=>?_;exact Sat.bindS (Ajc ..) λ_ h=>Sat.ret h
def Am1{w o f:Int}(a b c:Int)(h:0<=fl)(hf:0<=f/\f<32)(hw:dir2 w):Sat (CJ fl w o f a b c) λy=>chP ((((),()),y.2))/\(y.1.2.1=o\/y.1.2.1=0):=by
 unfold CJ;refine Sat.bindS (Bt7 _ _ _ _ _ _ _ h hf) λy1 h1=>Sat.bindS (Bdf ..) λy2 h2=>?_;rw[h1]at h2;refine Sat.bindS (Q:=λy=>chP ((((),()),y.2))/\(y.1.2.1=o\/y.1.2.1=0)) ?_ λy6 h6=>Sat.ret h6;refine Sat.bifT (Ac hw.1 (by have:=hw.2;show w<(3:Int);omega)) ?_;refine Sat.bic (λ_=>Sat.bindS (Bc2 ..) λ_ h=>Sat.ret ⟨h,h2⟩) λn0=>Sat.bic (λ_=>Sat.bindS (Bgt ..) λ_ h=>Sat.ret ⟨h,h2⟩) λn1=>?_;have e:Nat.beq (aA w) 2=C:=by
  have a0:¬aA w=0:=λq=>by rw[q]at n0;cases n0
  have a1:¬aA w=1:=λq=>by rw[q]at n1;cases n1
  have:aA w=2:=by have:=hw.1;have:=hw.2;omega
  rw[this];rfl
 exact Sat.bifT e (Sat.bindS (Ajc ..) λ_ h=>Sat.ret ⟨h,h2⟩)
def S2(d o:Int):Prop:=dir2 d/\0<=o/\o<=7
def S2.zero{d:Int}(h:dir2 d):S2 d 0:=⟨h,τ,τ⟩
def Ape(fl w o f:Int):Sat (Ec fl w o f) λy=>y.1.1=C->2<=fl/\fl<=32/\0<=f/\f<fl/\S2 w o:=by
 unfold Ec;refine Sat.bindS (Q:=λy=>y.1.1=C->2<=fl/\fl<=32/\0<=f/\f<fl/\S2 w o) ?_ λy hy=>Sat.ret hy;refine Sat.bic (λa=>Sat.bic (λb=>Sat.bic (λc=>Sat.bic (λd=>?_) λ_=>Sat.ret λq=>by cases q) λ_=>Sat.ret λq=>by cases q) λ_=>Sat.ret λq=>by cases q) λ_=>Sat.ret λq=>by cases q
 refine Sat.bindE (FU { Bs with T1:=w,F1:=o }) (Sat.ret λq=>?_);have q:(inR 0 2 w&&inR 0 7 o)=C:=q;rw[e_]at q;exact⟨l_ a,l_ b,l_ c,l_ d,An.1 q.1,An.1 q.2⟩
def Bdm(fl w o f a b c:Int):Sat (Eb fl w o f a b c) chP:=by unfold Eb;refine Sat.bindS (Ape ..) λy h=>Sat.bic (λ_=>Sat.ret ⟨dir2.zero,dir2.zero⟩) λq=>?_;obtain⟨h1,h2,h3,h4,h5⟩:=h (by simpa using q);exact Sat.bindS (Am1 _ _ _ ω ⟨h3,ω⟩ h5.1) λ_ h=>Sat.ret h.1
def Bgn:∀(o:Fin 8) (s:Fin 3),0<=W.wrap (stk ((o.val:Nat):Int) (aC W ((1:Int)*((2:Int)^(aQ (aA ((s.val:Nat):Int)) (IntKind.bits W))))) (aU ((aG (IntKind.bits W) ((o.val:Nat):Int))|||(aG (IntKind.bits W) (aC W ((1:Int)*((2:Int)^(aQ (aA ((s.val:Nat):Int)) (IntKind.bits W)))))))))/\W.wrap (stk ((o.val:Nat):Int) (aC W ((1:Int)*((2:Int)^(aQ (aA ((s.val:Nat):Int)) (IntKind.bits W))))) (aU ((aG (IntKind.bits W) ((o.val:Nat):Int))|||(aG (IntKind.bits W) (aC W ((1:Int)*((2:Int)^(aQ (aA ((s.val:Nat):Int)) (IntKind.bits W)))))))))<=7:=by decide
def Aw8(fl w o f a b c:Int):Sat (Fi fl w o f a b c) λy=>S2 y.2.1.1 y.2.1.2.1:=by
 unfold Fi;refine Sat.bindS (Ape ..) λy h=>Sat.bic (λ_=>Sat.ret (S2.zero dir2.zero)) λq=>?_;obtain⟨h1,h2,h3,h4,h5⟩:=h (by simpa using q);refine Sat.bindS (Am1 _ _ _ ω ⟨h3,ω⟩ h5.1) λy2 h=>?_;refine Sat.bic (λ_=>Sat.ret (S2.zero h.1.1)) λ_=>Sat.bifT (V h.1.2.1) (Sat.ret ⟨h.1.1,?_⟩);have ho:0<=y2.1.2.1/\y2.1.2.1<8:=by have h5a:=h5.2.1;have h5b:=h5.2.2;rcases h.2 with e|e<;>rw[e]<;>omega
 have hs:dir2 y2.2.1.2.2.1:=h.1.2;have key:=Bgn ⟨y2.1.2.1.toNat,ω⟩ ⟨y2.2.1.2.2.1.toNat,by have:=hs.1;have:=hs.2;omega⟩;rw[show((y2.1.2.1.toNat:Nat):Int)=y2.1.2.1 from f1_ ho.1,show((y2.2.1.2.2.1.toNat:Nat):Int)=y2.2.1.2.2.1 from f1_ hs.1]at key;exact key
end Go.Ovl
