import Derived.Test.YtnfjkodplikhjaaGreatDoorAbC
import Derived.Test.YtnfjkodplikhjaaGreatDoorAbH
import Derived.Test.YtnfjkodplikhjaaGreatDoorDefs5
set_option linter.all false
set_option maxRecDepth 100000
open Bool renaming false->B,true->E
open Option renaming some->C,bind->aM
open Go renaming g_->H,c_->O,b_->U,h_->V,d_->Z
open Go.Ovl renaming Entry->J,Record->aA,NewCar->aG,Event->aI,Belief->aO,Debounced->aU
open Go.IntKind renaming i64->W,wrap->aC,u32->aF,u8->aN,u64->bB
open Int renaming toNat->aB,fdiv->aV
open List renaming replicate->aD,range'->aL,all_nil->aY
open Go.Ab renaming iter->aE
open BitVec renaming ofInt->aH,toNat->aS,getLsbD_and->bA,eq_of_getLsbD_eq->bD,eq_of_toNat_eq->bE
open Decidable renaming decide->aJ
open ByteArray renaming mk->aK
open Nat renaming ble->aP,le_succ->aZ
open Go.Ovl.Duty renaming mk->aQ
open Min renaming min->aR
open Sum renaming inl->aT
open Array renaming mk->aW
open Go.Ovl.Record renaming mk->aX
open UInt8 renaming toNat_lt->bC
namespace Go.Ovl
open Go Go.Ab
variable{f:Nat}{α:Type}{n:Int}
def Aa(h:-9223372036854775808<=n)(h':n<9223372036854775808):W.wrap n=n:=by rw[IntKind.wrap_i64];omega
def Ih(h:0<=n)(h':n<18446744073709551616):bB.wrap n=n:=by simp only[aC,IntKind.signed,IntKind.bits];simp;omega
def Ac{i:Int}{n:Nat}(h:0<=i)(h':i<n):inB i n=E:=by simp[inB];omega
def Am{a b:Nat}(h:a<=b):aP a b=E:=Nat.ble_eq.symm▸h
def toList_data(s:ByteArray):s.toList=s.data.toList:=ByteArray.toList_eq s
def Aje{a b:ByteArray}:eqB a b=E↔a=b:=by
 constructor
 .intro h;simp[eqB,toList_data]at h;exact ByteArray.ext h
 .rintro rfl;simp[eqB]
def Ap3(a:ByteArray):eqB a a=E:=Aje.2 rfl
def Jc [BEq α][LawfulBEq α]{a b:α}(h:¬a=b):(a !=b)=E:=by simpa using h
def At [BEq α][LawfulBEq α]{a b:α}(h:¬a=b):(a==b)=B:=by simpa using h
section
variable{X Y:Type}{step:X->Option (Sum X Y)}
def Aq{x x':X}(h:step x=C (.inl x')):aE step (f+1) x=aE step f x':=by simp only[aE,h,Rn]
def Ax{x:X}{y:Y}(h:step x=C (.inr y)):aE step (f+1) x=C y:=by simp only[aE,h,Rn]
def Alm:∀{f:Nat}{x:X}{y:Y},aE step f x=C y->∀{g:Nat},f<=g->aE step g x=C y
 |0,_,_,h,_,_=>by simp[aE]at h
 |f+1,x,y,h,0,j=>by omega
 |f+1,x,y,h,g+1,j=>by
  simp only[aE]at h|-;cases hs:step x with
  |none=>rw[hs]at h;simp[Rn]at h
  |some z=>
   rw[hs]at h;cases z with
   |inl x'=>exact Alm h ω
   |inr o=>exact h
def Aj{x:X}{y:Y}(h:aE step f x=C y)(hf:f<=18446744073709551616):aE step Db x=C y:=Alm h hf
def Auz(Q:X->Y->Prop)(m:X->Nat)(hs:∀x y,Q x y->(∃x',step x=C (.inl x')/\Q x' y/\m x'<m x)\/step x=C (.inr y)):∀(n:Nat) (x:X) (y:Y),Q x y->m x<=n->aE step (n+1) x=C y
 |n,x,y,hq,hm=>by
  rcases hs x y hq with⟨x',h1,g,h⟩|h1
  .cases n with
   |zero=>omega
   |succ n=>rw[Aq h1];exact Auz Q m hs n x' y g ω
  .exact Ax h1
def Bkd(Q:X->Y->Prop)(m:X->Nat)(hs:∀x y,Q x y->(∃x',step x=C (.inl x')/\Q x' y/\m x'<m x)\/step x=C (.inr y)){x:X}{y:Y}(hq:Q x y)(hm:m x<18446744073709551616):aE step Db x=C y:=Aj (Auz Q m hs (m x) x y hq<|q_ _) hm
def Bd{S:Type}(h:Nat->S->S):Nat->Nat->S->S
 |0,_,s=>s
 |m+1,i,s=>Bd h m (i+1)<|h i s
def BN{S:Type}(N:Nat)(g:Nat->S->X)(h:Nat->S->S)(j:Nat->S->Prop)(y:S->Y)(h1:∀i s,i<N->j i s->step (g i s)=C (.inl<|g (i+1)<|h i s)/\j (i+1) (h i s))
  (o:∀s,j N s->step (g N s)=C (.inr<|y s)):∀(m i:Nat) (s:S),i+m=N->j i s->aE step (m+1) (g i s)=C (y<|Bd h m i s)/\j N (Bd h m i s)
 |0,i,s,u,hs=>by
  have:i=N:=ω
  subst this;exact⟨Ax<|o s hs,hs⟩
 |m+1,i,s,u,hs=>by obtain⟨q,v⟩:=h1 i s ω hs;rw[Aq q];exact BN N g h j y h1 o m (i+1) (h i s) ω v
end
def noB:ByteArray:=⟨#[]⟩
def Aed(d:ByteArray){k:Nat}(h:k<=d.size):(d.extract 0 k).size=k:=by simp;omega
end Go.Ovl
namespace Go.Ovl
open Go Go.Ab
def Lm{i n:Nat}(h:i<n):decide ((i:Int)<(n:Int))=E:=U ω
def Ga{i n:Nat}(h:i<n):inB (i:Int) n=E:=Ac ω ω
def Ip(n:Nat):decide ((n:Int)<(n:Int))=B:=Z<|a0_ _
def Ae{α β:Type}{o:Option α}{a:α}{f:α->Option β}{r:Option β}(h:o=C a)(g:f a=r):aM o f=r:=by subst h;exact g
def Ai8{α:Type}{l:List α}{i:Nat}(d:α)(g:i<l.length):l.drop i=l.getD i d::l.drop (i+1):=by rw[List.drop_eq_getElem_cons g,k_,i_ g];rfl
def Aqu{X Y:Type}{step:X->Option (Sum X Y)}(N:Nat)(g:Nat->X)(y:Y)(h1:∀i,i<N->step (g i)=C (.inl<|g<|i+1))(h:step (g N)=C (.inr y)):∀m i:Nat,i+m=N->aE step (m+1) (g i)=C y
 |0,i,j=>by obtain rfl:i=N:=ω;exact Ax h
 |m+1,i,j=>(Aq<|h1 i ω).trans<|Aqu N g y h1 h m (i+1) ω
abbrev Bs:=List UInt8
def Awg{a b:Bs}(h:AB a=AB b):a=b:=by
 have:(AB a).data.toList=(AB b).data.toList:=by rw[h]
 simpa[AB]using this
def Ba9(a b:Bs):eqB (AB a) (AB b)=decide (a=b):=by
 by_cases h:a=b
 .subst h;rw[U rfl];exact Ap3 _
 .rw[Z h];cases g:eqB _ _ with
  |false=>rfl
  |true=>exact absurd (Awg<|Aje.1 g) h
variable{c:Bool}
def Sat{α:Type}(o:Option α)(P:α->Prop):Prop:=∃a,o=C a/\P a
section
variable{α β:Type}{P:α->Prop}{Q:β->Prop}
def Sat.ret{a:α}(h:P a):Sat (C a) P:=⟨a,rfl,h⟩
def Sat.bindE{o:Option β}{b:β}{f:β->Option α}(h:o=C b)(g:Sat (f b) P):Sat (aM o f) P:=by subst h;exact g
def Sat.bindS{o:Option β}{f:β->Option α}(h:Sat o Q)(g:∀b,Q b->Sat (f b) P):Sat (aM o f) P:=by obtain⟨b,h,hq⟩:=h;subst h;exact g b hq
def Sat.bic{x y:Option α}(h1:c=E->Sat x P)(g:c=B->Sat y P):Sat (bif c then x else y) P:=by
 cases c with
 |true=>exact h1 rfl
 |false=>exact g rfl
def Sat.bifT{x y:Option α}(h:c=E)(h1:Sat x P):Sat (bif c then x else y) P:=by subst h;exact h1
def Sat.bifF{x y:Option α}(h:c=B)(h1:Sat y P):Sat (bif c then x else y) P:=by subst h;exact h1
def Sat.bindC{x y:Option β}{f:β->Option α}(h1:c=E->Sat (aM x f) P)(g:c=B->Sat (aM y f) P):Sat (aM (bif c then x else y) f) P:=by
 cases c with
 |true=>exact h1 rfl
 |false=>exact g rfl
def Sat.bindCT{x y:Option β}{f:β->Option α}(h:c=E)(h1:Sat (aM x f) P):Sat (aM (bif c then x else y) f) P:=by subst h;exact h1
def Sat.bindCF{x y:Option β}{f:β->Option α}(h:c=B)(h1:Sat (aM y f) P):Sat (aM (bif c then x else y) f) P:=by subst h;exact h1
def Sat.bindR{b:β}{f:β->Option α}(g:Sat (f b) P):Sat (aM (C b) f) P:=g
def Sat.bindA{γ:Type}{o:Option γ}{g:γ->Option β}{f:β->Option α}(h:Sat (aM o λx=>aM (g x) f) P):Sat (aM (aM o g) f) P:=by
 cases o with
 |none=>exact h
 |some a=>exact h
def Sat.mono{R:α->Prop}{o:Option α}(h:Sat o P)(g:∀a,P a->R a):Sat o R:=by obtain⟨a,h,hp⟩:=h;exact⟨a,h,g a hp⟩
def Sat.any{o:Option α}(h:Sat o P):Sat o λ_=>True:=h.mono λ_ _=>trivial
def Sat.eq{o:Option α}{a:α}(h:Sat o λx=>x=a):o=C a:=by obtain⟨_,h,rfl⟩:=h;exact h
end
def Sat.iterN{X Y:Type}{step:X->Option (Sum X Y)}(I:Nat->X->Prop)(P:Y->Prop)(hs:∀k x,I k x->Sat (step x) λr=>match r with|.inl x'=>∃k',k=k'+1/\I k' x'|.inr y=>P y):∀(k:Nat) (x:X),I k x->Sat (aE step (k+1) x) P
 |k,x,o=>by
  obtain⟨r,h1,g⟩:=hs k x o
  match r,h1,g with
  |.inr y,h1,g=>exact⟨y,Ax h1,g⟩
  |.inl x',h1,⟨k',j,h⟩=>subst j;rw[Aq h1];exact Sat.iterN I P hs k' x' h
def Sat.loop{X Y:Type}{step:X->Option (Sum X Y)}(I:Nat->X->Prop){P:Y->Prop}(hs:∀k x,I k x->Sat (step x) λr=>match r with|.inl x'=>∃k',k=k'+1/\I k' x'|.inr y=>P y)(k:Nat){x:X}(g:I k x)(j:k<18446744073709551616):Sat (aE step Db x) P:=by obtain⟨y,h1,h⟩:=Sat.iterN I P hs k x g;exact⟨y,Aj h1 ω,h⟩
def Aig(n:Int):decide ((0:Int)<=bB.wrap n)=E:=by simp;exact Int.emod_nonneg _ τ
class SatT {α:Type}(o:Option α):Prop where
 out:Sat o λ_=>True
section
variable{α β:Type}{P:α->Prop}
def Sat.bT{x y:Option α}(h1:Sat x P)(h:c=true:=by with_reducible first|exact Eq.refl true|exact Aig _|assumption):Sat (bif c then x else y) P:=Sat.bifT h h1
def Sat.bF{x y:Option α}(h1:Sat y P)(h:c=false:=by with_reducible first|exact Eq.refl false|assumption):Sat (bif c then x else y) P:=Sat.bifF h h1
def Sat.cT{x y:Option β}{f:β->Option α}(h1:Sat (Option.bind x f) P)(h:c=true:=by with_reducible first|exact Eq.refl true|exact Aig _|assumption):Sat (Option.bind (bif c then x else y) f) P:=Sat.bindCT h h1
def Sat.cF{x y:Option β}{f:β->Option α}(h1:Sat (Option.bind y f) P)(h:c=false:=by with_reducible first|exact Eq.refl false|assumption):Sat (Option.bind (bif c then x else y) f) P:=Sat.bindCF h h1
def Sat.sT{o:Option β}{f:β->Option α}(g:∀b,True->Sat (f b) P)(h:Sat o (λ_=>True):=by with_reducible first|assumption|exact SatT.out):Sat (Option.bind o f) P:=Sat.bindS h g
def Sat.go{o:Option α}(h:Sat o P:=by repeat' with_reducible first|refine Sat.bindR ?_|refine Sat.bindA ?_|refine Sat.cT ?_|refine Sat.cF ?_|refine Sat.bindC (λ_=>?_) (λ_=>?_)|refine Sat.bT ?_|refine Sat.bF ?_|refine Sat.bic (λ_=>?_) (λ_=>?_)|refine Sat.sT λ_ _=>?_|exact Sat.ret trivial):Sat o P:=h
end
abbrev Event.tup(e:aI):Int×Int×Int×Int×Int×Unit:=(e.R0,e.D0,e.I0,e.S0,e.N,())
structure Bldg where
 C0:Int
 E0:Int
 J0:Int
 M0:Int
 K0:Nat
 N0:Nat
 O0:Nat
 B0:List Car
def BS{α:Type}{l:List α}{i:Nat}(d:α)(h:i<l.length):l.drop i=l.getD i d::l.drop (i+1):=by simp[h]
def inR(lo g n:Int):Bool:=decide (lo<=n)&&decide (n<=g)
def Ah{lo g n:Int}:inR lo g n=E↔lo<=n/\n<=g:=by simp[inR]
def BX(lo g:Int){l:List Int}(A:l.length<=maxLen):BE lo g l=C ((l.all<|inR lo g,()),()):=by
 have hm:maxLen<=9223372036854775807:=by decide
 have u:∀(m i:Nat),i+m=l.length->aE (λx=>Ep x.1.1 x.1.2.1 x.1.2.2.1 x.1.2.2.2.1 x.1.2.2.2.2.1) (m+1) ((lo,g,l,l.length,i,()),())=C (if(l.drop i).all (inR lo g)then .inl ((),())else .inr ((B,()),())):=by
  intro m;induction m with
  |zero=>
   intro i q;refine Ax ?_;unfold Ep;have e:decide (i<(l.length:Int))=B:=by simp;omega
   rw[e,show i=l.length by omega];simp
  |succ m z=>
   intro i q;have e:decide (i<(l.length:Int))=E:=by simp;omega
   have j:inB i l.length=E:=Ac ω ω;have tn:aB i=i:=ω;have w:W.wrap (i+1)=((i+1:Nat):Int):=by rw[Aa ω ω];omega
   rw[BS _ ω];by_cases h1:l.getD i 0<lo
   .refine(Ax (y:=.inr ((B,()),())) ?_).trans ?_
    .unfold Ep;have h:decide (l.getD i 0<lo)=E:=by simpa using h1
     simp only[e,j,tn,h,V]
    .have:inR lo g (l.getD i 0)=B:=by rw[inR,show decide _=B from Z ω,e2_]
     rw[U_,this];rfl
   .have h:decide (l.getD i 0<lo)=B:=by simpa using h1
    by_cases v:g<l.getD i 0
    .refine(Ax (y:=.inr ((B,()),())) ?_).trans ?_
     .unfold Ep;have o:decide (g<l.getD i 0)=E:=by simpa using v
      simp only[e,j,tn,h,o,V,H]
     .have:inR lo g (l.getD i 0)=B:=by rw[inR,show decide (l.getD i 0<=g)=B from Z ω,d4_]
      rw[U_,this];rfl
    .have o:decide (g<l.getD i 0)=B:=by simpa using v
     refine(Aq (x':=((lo,g,l,(l.length:Int),((i+1:Nat):Int),()),())) ?_).trans ?_
     .unfold Ep;simp only[e,j,tn,h,o,w,V,H]
     .have:inR lo g (l.getD i 0)=E:=Ah.2 ⟨ω,ω⟩
      rw[z (i+1) ω,U_,this];rfl
 unfold BE;have h0:Li ((lo,g,l,l.length,0,()),())=_:=Aj (u l.length 0 ω) ω;rw[h0];rw[d3_];cases l.all _<;>rfl
def QC(n lo g:Int):Jm n lo g=C ((inR lo g n,()),()):=by unfold Jm inR;cases h:decide (lo<=n)<;>simp
def Cg(fl:Int)(c:Car):Bool:=[c.D1,c.O3,c.T3,c.F3,c.U1,c.V1,c.R3].all (inR 1 10000)&&(inR 0 10000 c.L2&&(aJ (c.V1<=c.R3)&&inR 0 (aC W<|fl-1) c.I4))
def Zl(fl:Int)(c:Car):Ko c.D1 c.O3 c.T3 c.L2 c.F3 c.U1 c.V1 c.R3 c.I4 fl=C ((Cg fl c,()),()):=by
 have hm:7<=maxLen:=by decide
 unfold Ko Cg;rw[BX 1 10000 (by simpa using hm)];generalize [c.D1,c.O3,c.T3,c.F3,c.U1,c.V1,c.R3].all _=a;rw[BX 0 10000 (by simp;omega),BX 0 _ (by simp;omega)];simp only[ U_,aY,f8_];cases a
 .rfl
 .cases inR 0 10000 c.L2
  .rfl
  .by_cases h:c.V1<=c.R3
   .have:decide (c.V1<=c.R3)=E:=by simpa using h
    simp only[this,V,O,c1_]
   .have:decide (c.V1<=c.R3)=B:=by simpa using h
    simp only[this,V,H,O,c1_,e2_]
def Bldg.tup(b:Bldg):Int×Int×Int×Int×Nat×Nat×Nat×List Car×Unit:=(b.C0,b.E0,b.J0,b.M0,b.K0,b.N0,b.O0,b.B0,())
def Car.tup(c:Car):Int×Int×Int×Int×Int×Int×Int×Int×Int×Unit:=(c.D1,c.O3,c.T3,c.L2,c.F3,c.U1,c.V1,c.R3,c.I4,())
def Aj8(b:Bldg)(c:Car){L:List Int}(A:L.length=8) :
  RV (((),(),L,(0:Int),()),(b.tup,c.tup,()))=C (if(L.take 7).all (inR 1 10000)then .inl (((),(),()),(b.tup,c.tup,()))else .inr ((B,()),())):=by
 have j:∀(m i:Nat),i+m=7->aE (λx=>letI a:=x.2.2.1.2.2;letI d:=x.2.1.2.2;letI f:=a.2.2;letI g:=d.2.2;IF x.1.2.2.1 x.1.2.2.2.1 x.2.1.1 x.2.1.2.1 d.1 d.2.1 g.1 g.2.1 g.2.2.1 g.2.2.2.1 x.2.2.1.1 x.2.2.1.2.1 a.1 a.2.1 f.1 f.2.1 f.2.2.1 f.2.2.2.1 f.2.2.2.2.1) (m+1) (((),(),L,i,()),(b.tup,c.tup,()))=C (if((L.take 7).drop i).all (inR 1 10000)then .inl (((),(),()),(b.tup,c.tup,()))else .inr ((B,()),())):=by
  intro m;induction m with
  |zero=>
   intro i h;refine Ax ?_;unfold IF;have e:decide ((i:Int)<7)=B:=by simp;omega
   have v:(L.take 7).drop i=[]:=List.drop_eq_nil_of_le (by simp;omega);rw[e,v];rfl
  |succ m u=>
   intro i h;have e:decide ((i:Int)<7)=E:=by simp;omega
   have o:inB i L.length=E:=Ac ω ω;have tn:aB i=i:=ω;have w:W.wrap (i+1)=((i+1:Nat):Int):=by rw[Aa ω ω];omega
   have z:(L.take 7).getD i 0=L.getD i 0:=by simp only[k_,List.getElem?_take];rw[if_pos ω]
   rw[BS _ (by simp;omega),z,U_];cases q:inR 1 10000 _ with
   |false=>refine(Ax (y:=.inr _) ?_).trans rfl;unfold IF;simp only[e,o,tn,QC,q,V,O,Bool.not_false]
   |true=>
    refine(Aq (x':=(((),(),L,((i+1:Nat):Int),()),(b.tup,c.tup,()))) ?_).trans ?_
    .show IF L _ b.C0 b.E0 b.J0 b.M0 b.K0 b.N0 b.O0 b.B0 c.D1 c.O3 c.T3 c.L2 c.F3 c.U1 c.V1 c.R3 c.I4=_;unfold IF;simp only[e,o,tn,w,QC,q,W_];rfl
    .rw[u (i+1) ω,c1_]
 have h0:=j 7 0 rfl;exact Aj h0 ω
def Aio(b:Bldg)(c:Car):QD b.C0 b.E0 b.J0 b.M0 b.K0 b.N0 b.O0 b.B0 c.D1 c.O3 c.T3 c.L2 c.F3 c.U1 c.V1 c.R3 c.I4=C ((Cg b.C0 c,()),()):=by
 unfold QD Cg;by_cases h1:c.L2<0
 .have g:decide (c.L2<0)=E:=by simpa using h1
  have j:inR 0 10000 c.L2=B:=by rw[inR,show decide _=B from Z ω,e2_]
  rw[g,V,j,e2_,d4_]
 .have g:decide (c.L2<0)=B:=by simpa using h1
  rw[g,H];by_cases q:10000<c.L2
  .have g:decide (10000<c.L2)=E:=by simpa using q
   have j:inR 0 10000 c.L2=B:=by rw[inR,show decide (c.L2<=10000)=B from Z ω,d4_]
   rw[g,V,j,e2_,d4_]
  .have g:decide (10000<c.L2)=B:=by simpa using q
   have j:inR 0 10000 c.L2=E:=Ah.2 ⟨ω,ω⟩;rw[g,H,j];have o:=Aj8 b c (L:=[c.D1,c.O3,c.T3,c.F3,c.U1,c.V1,c.R3,W.wrap<|c.L2+1]) rfl;rw[show([c.D1,c.O3,c.T3,c.F3,c.U1,c.V1,c.R3,W.wrap _].take 7)=[c.D1,c.O3,c.T3,c.F3,c.U1,c.V1,c.R3]from rfl]at o;simp only[Bldg.tup,Car.tup]at o;rw[o];cases [c.D1,c.O3,c.T3,c.F3,c.U1,c.V1,c.R3].all _ with
   |false=>rfl
   |true=>
    simp only[if_true,c1_,QC];by_cases h:c.V1<=c.R3
    .have:decide (c.V1<=c.R3)=E:=by simpa using h
     simp only[this,V,O,c1_]
    .have:decide (c.V1<=c.R3)=B:=by simpa using h
     simp only[this,H,O,e2_]
def Bldg.loadsOK(b:Bldg):Bool:=((Go.FloatKind.format Go.FloatKind.f64).order 0 b.K0==C Ordering.lt)&&(((Go.FloatKind.format Go.FloatKind.f64).order b.K0 b.N0==C Ordering.lt)&&(((Go.FloatKind.format Go.FloatKind.f64).order b.N0 b.O0==C Ordering.lt)&&((Go.FloatKind.format Go.FloatKind.f64).order b.O0 9218868437227405311==C Ordering.lt||(Go.FloatKind.format Go.FloatKind.f64).order b.O0 9218868437227405311==C Ordering.eq)))
def Bldg.code(b:Bldg):Int:=
 bif !inR 2 32 b.C0 then 10 else bif !inR 1 8 (b.B0.length:Int)then 11 else
 bif !(inR 1 16 b.E0&&inR 1 10000 b.M0&&b.B0.all (Cg b.C0))then 12 else bif !b.loadsOK then 13 else
 bif !inR (18*(b.B0.length:Int)+24) 65536 b.J0 then 14 else 0
def Cm:Car:=⟨0,0,0,0,0,0,0,0,0⟩
def Zm(b:Bldg)(u:b.B0.length<=8)(g:Bool) :
  LW (((),g,b.B0,(b.B0.length:Int),(0:Int),()),(b.tup,()))=C (((),g&&b.B0.all (Cg b.C0),()),(b.tup,())):=by
 have j:∀(m i:Nat) (g:Bool),i+m=b.B0.length->aE (λx=>letI a:=x.2.1.2.2;letI c:=a.2.2;GN x.1.2.1 x.1.2.2.1 x.1.2.2.2.1 x.1.2.2.2.2.1 x.2.1.1 x.2.1.2.1 a.1 a.2.1 c.1 c.2.1 c.2.2.1 c.2.2.2.1) (m+1) (((),g,b.B0,b.B0.length,i,()),(b.tup,()))=C (((),g&&(b.B0.drop i).all (Cg b.C0),()),(b.tup,())):=by
  intro m;induction m with
  |zero=>
   intro i g h;refine Ax ?_;unfold GN;have e:decide (i<(b.B0.length:Int))=B:=by simp;omega
   rw[e,show i=b.B0.length by omega,b1_];simp only[H,aY,f8_,Bldg.tup]
  |succ m q=>
   intro i g h;have e:decide (i<(b.B0.length:Int))=E:=by simp;omega
   have o:inB i b.B0.length=E:=Ac ω ω;have tn:aB i=i:=ω;have w:W.wrap (i+1)=((i+1:Nat):Int):=by rw[Aa ω ω];omega
   rw[BS Cm ω,U_];refine(Aq (x':=(((),g&&Cg b.C0 (b.B0.getD i Cm),b.B0,(b.B0.length:Int),((i+1:Nat):Int),()),(b.tup,()))) ?_).trans ?_
   .show GN g b.B0 _ _ b.C0 b.E0 b.J0 b.M0 b.K0 b.N0 b.O0 b.B0=_;unfold GN;simp only[e,o,tn];rw[Zl b.C0 _];cases g
    .simp only[H,O,w];rfl
    .simp only[V,O,w];rfl
   .rw[q (i+1) _ ω,Bool.and_assoc]
 have h0:=j b.B0.length 0 g ω;exact Aj h0 ω
def Aj7(b:Bldg)(u:b.B0.length<=8)(g:Bool) :
  RU (((),g,(0:Int),()),(b.tup,()))=C (((),g&&b.B0.all (Cg b.C0),()),(b.tup,())):=by
 have j:∀(m i:Nat) (g:Bool),i+m=b.B0.length->aE (λx=>letI a:=x.2.1.2.2;letI c:=a.2.2;IE x.1.2.1 x.1.2.2.1 x.2.1.1 x.2.1.2.1 a.1 a.2.1 c.1 c.2.1 c.2.2.1 c.2.2.2.1) (m+1) (((),g,i,()),(b.tup,()))=C (((),g&&(b.B0.drop i).all (Cg b.C0),()),(b.tup,())):=by
  intro m;induction m with
  |zero=>
   intro i g h;refine Ax ?_;show IE g _ b.C0 b.E0 b.J0 b.M0 b.K0 b.N0 b.O0 b.B0=_;unfold IE;have e:decide (i<(b.B0.length:Int))=B:=by simp;omega
   rw[e,show i=b.B0.length by omega,b1_];simp only[H,aY,f8_,Bldg.tup]
  |succ m q=>
   intro i g h;have e:decide (i<(b.B0.length:Int))=E:=by simp;omega
   have o:inB i b.B0.length=E:=Ac ω ω;have tn:aB i=i:=ω;have w:W.wrap (i+1)=((i+1:Nat):Int):=by rw[Aa ω ω];omega
   rw[BS Cm ω,U_];refine(Aq (x':=(((),g&&Cg b.C0 (b.B0.getD i Cm),((i+1:Nat):Int),()),(b.tup,()))) ?_).trans ?_
   .show IE g _ b.C0 b.E0 b.J0 b.M0 b.K0 b.N0 b.O0 b.B0=_;unfold IE;simp only[e,o,tn];rw[Aio b _];cases g
    .simp only[H,O,w];rfl
    .simp only[V,O,w];rfl
   .rw[q (i+1) _ ω,Bool.and_assoc]
 have h0:=j b.B0.length 0 g ω;exact Aj h0 ω
def Zk(b:Bldg):Kn b.C0 b.E0 b.J0 b.M0 b.K0 b.N0 b.O0 b.B0=C ((b.loadsOK,()),()):=by
 unfold Kn Bldg.loadsOK;cases(Go.FloatKind.format Go.FloatKind.f64).order 0 b.K0==C Ordering.lt
 .rfl
 cases(Go.FloatKind.format Go.FloatKind.f64).order b.K0 b.N0==C Ordering.lt
 .rfl
 cases(Go.FloatKind.format Go.FloatKind.f64).order b.N0 b.O0==C Ordering.lt
 .rfl
 rfl
def Ap(b:Bldg):Ak b.C0 b.E0 b.J0 b.M0 b.K0 b.N0 b.O0 b.B0=C ((b.code,()),()):=by
 have hm:8<=maxLen:=by decide
 unfold Ak Bldg.code;rw[BX 2 32 (by simp;omega),BX 1 8 (by simp;omega),BX 1 16 (by simp;omega),BX 1 10000 (by simp;omega)];simp only[ U_,aY,f8_];cases inR 2 32 b.C0
 .rfl
 cases hc:inR 1 8 _
 .rfl
 have g:b.B0.length<=8:=by have:=(Ah.1 hc).2;omega
 have j:(bif inR 1 16 b.E0 then C (((),inR 1 10000 b.M0,()),(b.tup,()))else C (((),B,()),(b.tup,())))=C (((),inR 1 16 b.E0&&inR 1 10000 b.M0,()),(b.tup,())):=by cases inR 1 16 b.E0<;>rfl
 simp only[Bldg.tup]at j;simp only[ j,O];have h:=Zm b g<|inR 1 16 b.E0&&inR 1 10000 b.M0;simp only[Bldg.tup]at h;rw[h,O];cases inR 1 16 b.E0&&inR 1 10000 b.M0&&b.B0.all _
 .rfl
 rw[Zk b];cases b.loadsOK
 .rfl
 rw[show W.wrap _=18*b.B0.length+24 by rw[Aa (n:=18*b.B0.length) ω ω,Aa ω ω],
  BX _ 65536 (by simp;omega)]
 simp only[ U_,aY];cases inR _ 65536 b.J0<;>rfl
def Ww(b:Bldg):Nc b.C0 b.E0 b.J0 b.M0 b.K0 b.N0 b.O0 b.B0=C ((b.code,()),()):=by
 unfold Nc Bldg.code;simp only[QC];cases inR 2 32 b.C0
 .rfl
 cases hc:inR 1 8 _
 .rfl
 have g:b.B0.length<=8:=by have:=(Ah.1 hc).2;omega
 have j:(bif inR 1 16 b.E0 then C (((),inR 1 10000 b.M0,()),(b.tup,()))else C (((),B,()),(b.tup,())))=C (((),inR 1 16 b.E0&&inR 1 10000 b.M0,()),(b.tup,())):=by cases inR 1 16 b.E0<;>rfl
 simp only[Bldg.tup]at j;simp only[ j,O];have h:=Aj7 b g<|inR 1 16 b.E0&&inR 1 10000 b.M0;simp only[Bldg.tup]at h;rw[h,O];cases inR 1 16 b.E0&&inR 1 10000 b.M0&&b.B0.all _
 .rfl
 unfold Bldg.loadsOK;cases(Go.FloatKind.format Go.FloatKind.f64).order 0 b.K0==C Ordering.lt
 .rfl
 cases(Go.FloatKind.format Go.FloatKind.f64).order b.K0 b.N0==C Ordering.lt
 .rfl
 cases(Go.FloatKind.format Go.FloatKind.f64).order b.N0 b.O0==C Ordering.lt
 .rfl
 cases((Go.FloatKind.format Go.FloatKind.f64).order b.O0 9218868437227405311==C Ordering.lt||(Go.FloatKind.format Go.FloatKind.f64).order b.O0 9218868437227405311==C Ordering.eq)
 .rfl
 rw[show W.wrap _=18*b.B0.length+24 by rw[Aa (n:=18*b.B0.length) ω ω,Aa ω ω]];cases inR _ 65536 b.J0<;>rfl
def Oq(fl i:Nat):Car:=⟨100,2,6,5,4,2,3,10,((i%fl:Nat):Int)⟩
def AU(fl g:Nat):Bldg:=⟨fl,1,4000,30,4591870180066957722,4605380978949069210,4607632778762754458,(List.range g).map<|Oq fl⟩
def Bldg.none:Bldg:=⟨0,0,0,0,0,0,0,[]⟩
def Afn{fl g:Nat}(h1:1<=fl)(v:g<=8):OB fl g=C (((),()),((AU fl g).tup,())):=by
 have j:∀(m i:Nat),i+m=g->aE (λx=>letI a:=x.2.2.1.2.2;letI b:=x.2.1.2.2;letI d:=b.2.2;letI f:=a.2.2;JR x.1.1 x.1.2.1 x.1.2.2.2.2.1 x.2.1.1 x.2.1.2.1 b.1 b.2.1 d.1 d.2.1 d.2.2.1 d.2.2.2.1 x.2.2.1.1 x.2.2.1.2.1 a.1 a.2.1 f.1 f.2.1 f.2.2.1 f.2.2.2.1) (m+1) ((fl,g,(),(),i,()),(Bldg.none.tup,(AU fl i).tup,()))=C (((),(),()),(Bldg.none.tup,(AU fl g).tup,())):=by
  intro m;induction m with
  |zero=>
   intro i h;refine Ax ?_;unfold JR;have e:decide (i<(g:Int))=B:=by simp;omega
   rw[e,show i=g by omega];rfl
  |succ m q=>
   intro i h;refine(Aq (x':=(((fl:Int),(g:Int),(),(),((i+1:Nat):Int),()),(Bldg.none.tup,(AU fl<|i+1).tup,()))) ?_).trans<|q (i+1) ω;show JR _ _ _ Bldg.none.C0 Bldg.none.E0 Bldg.none.J0 Bldg.none.M0 Bldg.none.K0 Bldg.none.N0 Bldg.none.O0 Bldg.none.B0 (AU fl i).C0 (AU fl i).E0 (AU fl i).J0 (AU fl i).M0 (AU fl i).K0 (AU fl i).N0 (AU fl i).O0 (AU fl i).B0=_;unfold JR;have e:decide (i<(g:Int))=E:=by simp;omega
   have w:W.wrap (i+1)=((i+1:Nat):Int):=by rw[Aa ω ω];omega
   have o:((fl:Int) !=0)=E:=by simp;omega
   have hc:∀c:Car,aP ((AU fl i).B0.length+[c].length) 2147483648=E:=λc=>Am (by simp[AU];omega);have u:Int.tmod i fl=((i%fl:Nat):Int):=by norm_cast
   simp only[e,o,hc,w,u];have hs:(AU fl<|i+1).B0=(AU fl i).B0++[Oq fl i]:=by simp[AU,List.range_succ]
   simp only[Bldg.tup,hs];rfl
 unfold OB;have h0:=Aj (j g 0 ω) ω;rw[show Qa ((fl,g,(),(),0,()),((0,0,0,0,0,0,0,([]:List Car),()),(fl,1,4000,30,4591870180066957722,4605380978949069210,4607632778762754458,([]:List Car),()),()))=_ from h0];rfl
def Bsa(fl g:Nat)(room:Int):Bldg:={ AU fl g with J0:=18*(g:Int)+24+room }
end Go.Ovl
namespace Go.Ovl
open Go Go.Ab
variable{b:Bldg}{i:Nat}{l:List J}{α:Type}
structure Bldg.small(b:Bldg):Prop where
 lo:2<=b.C0
 hi:b.C0<=8
def AE{l:List α}(d:α)(g:i<l.length):l.getD i d∈l:=by simp only[k_,i_ g];exact a4_ g
def Aqe{P:α->Prop}{l:List α}(h:∀e∈l,P e){d:α}(g:i<l.length):P<|l.getD i d:=h _<|AE d g
def Ag(h:b.code=0):1<=b.B0.length/\b.B0.length<=8:=by
 unfold Bldg.code at h;cases h1:inR 1 8 b.B0.length with
 |true=>have:=Ah.1 h1;omega
 |false=>rw[h1]at h;cases g:inR 2 32 b.C0<;>rw[g]at h<;>simp at h
def ZQ(h:b.code=0):18*(b.B0.length:Int)+24<=b.J0/\b.J0<=65536:=by
 unfold Bldg.code at h;cases h1:inR _ 65536 b.J0 with
 |true=>exact Ah.1 h1
 |false=>rw[h1]at h;revert h;cases inR 2 32 b.C0<;>cases inR 1 8 _<;>cases inR 1 16 b.E0<;>cases inR 1 10000 b.M0<;>cases b.B0.all _<;>cases b.loadsOK<;>(intro h;simp at h)
def Apv(x y:Int):decide (x<y)=!decide (y<=x):=by by_cases h:y<=x<;>simp[h]<;>omega
def noE:J:=Entry.mk 0 0 0 0 B
structure Img where
 F0:List Int
 L0:List Bool
 H0:List Bool
 A0:List Entry
def Img.tup(m:Img):List Int×List Bool×List Bool×List J×Unit:=(m.F0,m.L0,m.H0,m.A0,())
def Img.none:Img:=⟨[],[],[],[]⟩
def NE(fl g h:Int):Bool:=(h==1&&inR 0 (fl-2) g)||(h==2&&inR 1 (fl-1) g)
def ZJ{fl:Int}(h:0<=fl/\fl<100)(g j:Int):Jv fl g j=C ((NE fl g j,()),()):=by
 have u:W.wrap _=fl-1:=Aa ω ω;have q:W.wrap _=fl-2:=Aa ω ω;have k:∀lo o:Int,BE lo o [g]=C ((inR lo o g,()),()):=λlo o=>by rw[BX lo o (show [g].length<=maxLen from(show 1<=maxLen by decide))];simp
 unfold Jv NE;rw[u,q,k,k];cases j==1<;>cases j==2<;>cases inR 0 _ g<;>rfl
def Au(b:Bldg)(g h:Int):Bool:=b.code==0&&NE b.C0 g h
def Jd(hb:b.small)(g h:Int):Ee b.C0 b.E0 b.J0 b.M0 b.K0 b.N0 b.O0 b.B0 g h=C ((Au b g h,()),()):=by unfold Ee Au;rw[Ap,ZJ ⟨by have:=hb.lo;omega,by have:=hb.hi;omega⟩];simp only[O];cases b.code==0<;>rfl
def Im(b:Bldg)(e:J):Bool:=Au b e.D0 e.I0&&(aJ (-2<=e.S0)&&(aJ (e.S0<(b.B0.length:Int))&&(aJ (0<=e.H1)&&decide (e.H1<=255))))
def Ajw(hb:b.small)(e:J):Nu b.C0 b.E0 b.J0 b.M0 b.K0 b.N0 b.O0 b.B0 e.D0 e.I0 e.S0 e.H1 e.Z1=C ((Im b e,()),()):=by unfold Nu Im;rw[Jd hb];cases Au b e.D0 e.I0<;>cases decide (-2<=e.S0)<;>cases decide (e.S0<b.B0.length)<;>cases decide (0<=e.H1)<;>rfl
def Bv(a b:J):Bool:=decide (a.D0<b.D0)||(a.D0==b.D0&&decide (a.I0<b.I0))
def XE(x y:Int):Int:=bif decide (x<y)then -1 else bif decide (y<x)then 1 else 0
def HM(x y:Int):Ef x y=C ((XE x y,()),()):=by unfold Ef Lp XE;simp only[ P_];cases decide (x<y)<;>cases decide (y<x)<;>rfl
def ZP(x y:Int):LN [x,y]=C (((bif x !=0 then x else y),()),()):=by
 have r:∀(l:List Int) i,i<l.length->l.length<100->JQ 0 l (l.length:Int) (i:Int)=C (bif l.getD i 0 !=0 then Sum.inr _ else aT _):=λl i q o=>by
  have w:W.wrap (i+1)=((i+1:Nat):Int):=by rw[Aa ω ω];omega
  unfold JQ;rw[U ω,Ac ω ω,l_,w];simp only[V];cases l.getD i 0 !=0<;>rfl
 have r0:JQ 0 [x,y] 2 0=C (bif x !=0 then Sum.inr _ else aT _):=r [x,y] 0 σ σ;have r1:JQ 0 [x,y] 2 1=C (bif y !=0 then Sum.inr _ else aT _):=r [x,y] 1 σ σ;have h:PZ ((0,[x,y],2,0,()),())=C (bif x !=0 then .inr ((x,()),())else bif y !=0 then .inr ((y,()),())else .inl ((0,()),())):=by
  refine Aj (f:=3) ?_ ω;cases j:x !=0 with
  |true=>rw[j]at r0;exact Ax r0
  |false=>
   rw[j]at r0;refine(Aq r0).trans ?_;cases g:y !=0 with
   |true=>rw[g]at r1;exact Ax r1
   |false=>rw[g]at r1;exact(Aq r1).trans<|Ax rfl
 unfold LN;rw[show((([x,y]:List Int).length:Nat):Int)=2 from rfl,h];cases j:x !=0 with
 |true=>rfl
 |false=>
  cases g:y !=0 with
  |true=>rfl
  |false=>
   have:y=0:=by simpa using g
   subst this;rfl
def Qq(a b:J):∃n:Int,IA a.D0 a.I0 a.S0 a.H1 a.Z1 b.D0 b.I0 b.S0 b.H1 b.Z1=C ((n,()),())/\decide (0<=n)=!Bv a b/\(n=0↔a.D0=b.D0/\a.I0=b.I0):=by
 unfold IA;rw[HM,HM];simp only[O];rw[ZP];refine⟨_,rfl,?_,?_⟩
 .unfold Bv XE;by_cases h1:a.D0<b.D0
  .rw[U h1];rfl
  .rw[Z h1];by_cases g:b.D0<a.D0
   .rw[U g,At ω];rfl
   .rw[Z g,show(a.D0==b.D0)=E by simp;omega];by_cases j:a.I0<b.I0
    .rw[U j];rfl
    .rw[Z j];cases decide (b.I0<a.I0)<;>rfl
 .unfold XE;by_cases h1:a.D0<b.D0
  .rw[U h1];exact⟨(λh=>by cases h),(λh=>by omega)⟩
  .rw[Z h1];by_cases g:b.D0<a.D0
   .rw[U g];exact⟨(λh=>by cases h),(λh=>by omega)⟩
   .rw[Z g];by_cases j:a.I0<b.I0
    .rw[U j];exact⟨(λh=>by cases h),(λh=>by omega)⟩
    .rw[Z j];by_cases o:b.I0<a.I0
     .rw[U o];exact⟨(λh=>by cases h),(λh=>by omega)⟩
     .rw[Z o];exact⟨λ_=>⟨ω,ω⟩,λ_=>rfl⟩
def Io(b:Bldg):Option J->List J->Bool
 |_,[]=>E
 |p,e::t=>Im b e&&((match p with|some q=>Bv q e|none=>E)&&Io b (C e) t)
def Img.ok(b:Bldg)(m:Img):Bool:=b.code==0&&((m.F0.length:Int)==(b.B0.length:Int)&&((m.L0.length:Int)==(b.B0.length:Int)&&((m.H0.length:Int)==(b.B0.length:Int)&&(m.F0.all (inR 0 4)&&Io b Option.none m.A0))))
def VE(l:List J)(i:Nat):Option J:=if i=0 then none else C (l.getD (i-1) noE)
def Aw3(h:i<l.length):Io b (VE l i) (l.drop i)=(Im b (l.getD i noE)&&((match VE l i with|some q=>Bv q (l.getD i noE)|none=>E)&&Io b (VE l<|i+1) (l.drop<|i+1))):=by rw[BS noE h];simp only[Io,VE,Nat.succ_ne_zero,f6_,Nat.add_sub_cancel]
def Bqn{lo g v:Int}{a c:α}:(bif decide (v<lo)then a else bif decide (g<v)then a else c)=bif inR lo g v then c else a:=by unfold inR;rw[Apv v lo,Apv g v];cases decide (lo<=v)<;>cases decide (v<=g)<;>rfl
def wrM{n:Nat}(g:n<=maxLen)(h:i<n):W.wrap ((i:Int)+1)=((i+1:Nat):Int):=by
 have:maxLen<=9223372036854775807:=by decide
 rw[Aa ω ω];omega
def wrP{j n:Nat}(g:n<=maxLen)(h:j+1<n):W.wrap (((j+1:Nat):Int)-1)=(j:Int):=by
 have:maxLen<=9223372036854775807:=by decide
 rw[Aa ω ω];omega
def Avk{X Y:Type}{step:X->Option (Sum X Y)}{N:Nat}(A:N<=maxLen)(g:Nat->X)(p q:Nat->Bool){u v:Y}(hq:∀i,i<N->q i=(p i&&q (i+1)))(o:q N=E)(z:∀i,i<N->step (g i)=C (bif p i then .inl (g<|i+1)else .inr v))(h1:step (g N)=C (.inr u)):aE step Db (g 0)=C (if q 0 then u else v):=by
 have w:maxLen<=9223372036854775807:=by decide
 have j:∀k i:Nat,i+k=N->aE step (k+1) (g i)=C (if q i then u else v):=by
  intro k;induction k with
  |zero=>intro i y;obtain rfl:i=N:=ω;rw[o];exact Ax h1
  |succ k x=>
   intro i y;have h:=z i ω;rw[hq i ω];cases hp:p i with
   |true=>rw[hp]at h;exact(Aq h).trans<|x (i+1) ω
   |false=>rw[hp]at h;exact Ax h
 exact Aj (j N 0 ω) ω
def Be8(b:Bldg)(l:List J)(i:Nat):Bool:=Im b (l.getD i noE)&&(match VE l i with|some q=>Bv q (l.getD i noE)|none=>E)
def Ba7(h:i<l.length):Io b (VE l i) (l.drop i)=(Be8 b l i&&Io b (VE l<|i+1) (l.drop<|i+1)):=by rw[Aw3 h,<-Bool.and_assoc];rfl
section
variable{b:Bldg}(hb:b.small)(m:Img)
include hb
theorem Amx(hm:m.A0.length<=maxLen):LB (((),(),m.A0,(m.A0.length:Int),(0:Int),()),(b.tup,m.tup,()))=C (if Io b none m.A0 then .inl ((),())else .inr ((B,()),())):=by
 refine Avk hm (λi=>(((),(),m.A0,(m.A0.length:Int),(i:Int),()),(b.tup,m.tup,()))) (Be8 b m.A0) _ (λi g=>Ba7 g) (by rw[b1_];rfl) (λi g=>?_) (by show IW m.A0 (m.A0.length:Int) (m.A0.length:Int) b.C0 b.E0 b.J0 b.M0 b.K0 b.N0 b.O0 b.B0 m.F0 m.L0 m.H0 m.A0=_;unfold IW;rw[Ip];rfl);have o:=Ajw hb<|m.A0.getD i noE;unfold noE at o;show IW m.A0 _ _ b.C0 b.E0 b.J0 b.M0 b.K0 b.N0 b.O0 b.B0 m.F0 m.L0 m.H0 m.A0=_;unfold IW Be8;rw[Lm g,Ga g];simp only[ l_,o,O];unfold noE;cases Im b _ with
 |false=>rfl
 |true=>
  simp only[W_,H];cases i with
  |zero=>rfl
  |succ j=>rw[U ω,wrP hm g,Ga ω];obtain⟨n,c1,h,_⟩:=Qq (m.A0.getD j noE)<|m.A0.getD (j+1) noE;unfold noE at c1 h;simp only[V,l_,c1,O,wrM hm g,h,VE,Nat.succ_ne_zero,f6_,Nat.add_sub_cancel];unfold noE;cases Bv _ _<;>rfl
omit hb in
theorem Amw(hm:m.F0.length<=maxLen):LA (((),(),m.F0,(m.F0.length:Int),(0:Int),()),(b.tup,m.tup,()))=C (if m.F0.all (inR 0 4)then .inl (((),(),()),(b.tup,m.tup,()))else .inr ((B,()),())):=by refine Avk hm (λi=>(((),(),m.F0,(m.F0.length:Int),(i:Int),()),(b.tup,m.tup,()))) _ (λi=>(m.F0.drop i).all _) (λi g=>by rw[BS (0:Int) g,U_]) (by rw[b1_];rfl) (λi g=>?_) (by show IV m.F0 (m.F0.length:Int) (m.F0.length:Int) b.C0 b.E0 b.J0 b.M0 b.K0 b.N0 b.O0 b.B0 m.F0 m.L0 m.H0 m.A0=_;unfold IV;rw[Ip];rfl);show IV m.F0 (m.F0.length:Int) (i:Int) b.C0 b.E0 b.J0 b.M0 b.K0 b.N0 b.O0 b.B0 m.F0 m.L0 m.H0 m.A0=_;unfold IV;rw[Lm g,Ga g,wrM hm g];simp only[ l_];rw[Bqn];cases inR 0 4 _<;>rfl
theorem CV(hp:m.F0.length<=maxLen)(g:m.A0.length<=maxLen):Cj b.C0 b.E0 b.J0 b.M0 b.K0 b.N0 b.O0 b.B0 m.F0 m.L0 m.H0 m.A0=C ((m.ok b,()),()):=by
 unfold Cj Img.ok;rw[Ap];simp only[O,bne];cases b.code==0 with
 |false=>rfl
 |true=>
  cases _==(b.B0.length:Int)with
  |false=>rfl
  |true=>
   cases _==(b.B0.length:Int)with
   |false=>rfl
   |true=>
    cases _==(b.B0.length:Int)with
    |false=>rfl
    |true=>
     have h0:=Amw (b:=b) m hp;have h1:=Amx hb m g;unfold Bldg.tup Img.tup at h0 h1;simp only[ h0,c1_];cases m.F0.all _ with
     |false=>rfl
     |true=>simp only[if_true,h1,O,c1_];cases Io b none m.A0<;>rfl
end
def BR(n lo g:Int):Bool:=decide (lo<=n)&&decide (n<=g)
def Bde(n lo g:Int):GX n lo g=C ((BR n lo g,()),()):=by unfold GX BR;cases decide (lo<=n)<;>rfl
def FI(b:Bldg)(e:aI):Bool:=
 let car:=BR e.S0 0<|(b.B0.length:Int)-1
 let plain:=e.D0==0&&e.I0==0
 bif e.R0==1 then plain&&(e.S0==0&&BR e.N 1 5000)else
 bif e.R0==2 then Au b e.D0 e.I0&&(e.S0==0&&e.N==0)else
 bif e.R0==3 then car&&(BR e.D0 0 (b.C0-1)&&(e.I0==0&&e.N==0))else
 bif e.R0==4 then plain&&(car&&BR e.N 0 1000)else
 bif e.R0==5 then plain&&(car&&BR e.N 0 10000)else
 bif e.R0==6 then plain&&(car&&BR e.N 1 8)else
 bif e.R0==7 then plain&&(e.S0==0&&e.N==0)else
 bif e.R0==8 then plain&&(e.S0==0&&BR e.N 0 100000)else B
def Bhb(hb:b.small)(hc:b.B0.length<=1000)(e:aI):HF b.C0 b.E0 b.J0 b.M0 b.K0 b.N0 b.O0 b.B0 e.R0 e.D0 e.I0 e.S0 e.N=C ((FI b e,()),()):=by
 have hf:=hb.1;have y:=hb.2;unfold HF FI;simp only[Bde,O,Aa (n:=(b.B0.length:Int)-1) ω ω,Aa (n:=b.C0-1) ω ω];have w:=Jd hb e.D0 e.I0;generalize BR e.S0 0 ((b.B0.length:Int)-1)=car;cases h1:e.R0==1
 .cases g:e.R0==2
  .cases h:e.R0==3
   .cases j:e.R0==4
    .cases o:e.R0==5
     .cases q:e.R0==6
      .cases u:e.R0==7
       .cases v:e.R0==8
        .cases e.D0==0<;>simp only[V,H,O,h1,g,h,j,o,q,u,v]
        .cases e.D0==0<;>(try simp only[V,H,O,h1,g,h,j,o,q,u,v])<;>cases e.I0==0<;>(try simp only[V,H,O])<;>cases e.S0==0<;>rfl
       .cases e.D0==0<;>(try simp only[V,H,O,h1,g,h,j,o,q,u])<;>cases e.I0==0<;>(try simp only[V,H,O])<;>cases e.S0==0<;>rfl
      .cases e.D0==0<;>(try simp only[V,H,O,h1,g,h,j,o,q])<;>cases e.I0==0<;>(try simp only[V,H,O])<;>cases car<;>rfl
     .cases e.D0==0<;>(try simp only[V,H,O,h1,g,h,j,o])<;>cases e.I0==0<;>(try simp only[V,H,O])<;>cases car<;>rfl
    .cases e.D0==0<;>(try simp only[V,H,O,h1,g,h,j])<;>cases e.I0==0<;>(try simp only[V,H,O])<;>cases car<;>rfl
   .have x:W.wrap (b.C0-1)=b.C0-1:=Aa ω ω;cases e.D0==0<;>(try simp only[V,H,O,h1,g,h,x])<;>generalize BR e.D0 0 (b.C0-1)=fl<;>cases car<;>cases fl<;>cases e.I0==0<;>rfl
  .generalize Au b e.D0 e.I0=ic at w|-;cases e.D0==0<;>(try simp only[V,H,O,h1,g,w])<;>cases ic<;>cases e.S0==0<;>rfl
 .cases e.D0==0<;>(try simp only[V,H,O,h1])<;>cases e.I0==0<;>(try simp only[V,H,O])<;>cases e.S0==0<;>rfl
abbrev Bldg.tp(b:Bldg):Int×Int×Int×Int×Nat×Nat×Nat×List Car×Unit:=(b.C0,b.E0,b.J0,b.M0,b.K0,b.N0,b.O0,b.B0,())
def Gz:aI:=⟨0,0,0,0,0⟩
def mt(e:aI)(p:Bs×aI):Bool:=p.2.R0==e.R0&&(p.2.I0==e.I0&&(bif e.R0==6 then p.2.N==e.N else E))
def CI{n lo g:Int}:BR n lo g=E↔lo<=n/\n<=g:=by simp[BR]
end Go.Ovl
namespace Go.Ovl
open Go Go.Ab
variable{l:List aI}{n:Int}
def FB{X Y:Type}{step:X->Option (Sum X Y)}{N:Nat}(j:N<=100000)(g:Nat->X){y:Y}(h1:∀i,i<N->step (g i)=C (.inl<|g<|i+1))(h:step (g N)=C (.inr y)):aE step Db (g 0)=C y:=Aj (Aqu N g y h1 h N 0<|m_ N) ω
def GS{i n:Nat}(g:n<=100000)(h:i<n):W.wrap ((i:Int)+1)=((i+1:Nat):Int):=by rw[Aa ω ω];omega
def Bj6(h:0<=n/\n<1000000):BL n=C ((AB<|Ym n,()),()):=by show(bif decide _&&decide _ then _ else none)=_;rw[U ω,U ω];rfl
def map_set(l:List Bs)(i:Nat)(x:Bs):(l.map AB).set i (AB x)=(l.set i x).map AB:=by rw[List.map_set]
section
variable{b:Bldg}(hb:b.small)(hc:b.B0.length<=1000)
include hb hc
noncomputable abbrev Bgv(x:(List aI×Unit×Int×Int×Unit)×((Int×Int×Int×Int×Nat×Nat×Nat×List Car×Unit)×Unit)):=AH x.1.1 x.1.2.2.1 x.1.2.2.2.1 x.2.1.1 x.2.1.2.1 x.2.1.2.2.1 x.2.1.2.2.2.1 x.2.1.2.2.2.2.1 x.2.1.2.2.2.2.2.1 x.2.1.2.2.2.2.2.2.1 x.2.1.2.2.2.2.2.2.2.1
theorem Aqk{l:List aI}(o:l.length<=100000):∀(m i:Nat),i+m=l.length->Sat (aE Bgv (m+1) ((l,(),(l.length:Int),(i:Int),()),(b.tp,()))) λy=>bif(l.drop i).all (FI b)then y=.inl ((),(b.tp,()))else ∃k:Nat,y=.inr (((k:Int),()),(b.tp,()))
 |0,i,q=>by obtain rfl:i=l.length:=ω;rw[b1_];refine⟨.inl _,Ax ?_,rfl⟩;simp only[lp,Un.u,AH,Ip,H]
 |m+1,i,q=>by
  have g:i<l.length:=ω;rw[Ai8 Gz g,U_];obtain⟨r0,h⟩:∃r0,Bgv ((l,(),l.length,i,()),(b.tp,()))=r0:=⟨_,rfl⟩;have hs:=h;unfold Bgv AH Iu at hs;simp only[Lm g,Ga g,l_,Bhb hb hc,GS o g]at hs;rw[show(Event.mk 0 0 0 0 0)=Gz from rfl]at hs;cases j:FI b _ with
  |true=>rw[j]at hs;rw[Aq<|h.trans hs.symm];exact Aqk o m (i+1) ω
  |false=>rw[j]at hs;exact⟨_,Ax<|h.trans hs.symm,i,rfl⟩
theorem Beg(j:l.length<=100000):MA b.C0 b.E0 b.J0 b.M0 b.K0 b.N0 b.O0 b.B0 l=C ((b.code==0&&l.all (FI b),()),()):=by
 refine Ae (a:=((b.code==0&&l.all _,()),())) (Ae (Ap b) ?_) rfl;cases b.code==0 with
 |false=>rfl
 |true=>
  obtain⟨y,h1,g⟩:=Aqk hb hc j l.length 0<|m_ _;have h1:Bc ((l,(),l.length,0,()),(b.tp,()))=C y:=Aj h1 ω;rw[d3_]at g;unfold AX Be;rw[h1];cases h:l.all _ with
  |true=>rw[h]at g;have g:y=_:=g;subst g;rfl
  |false=>rw[h]at g;obtain⟨k,rfl⟩:=g;show C _=_;rfl
end
def mil(n:Int):Int:=bif decide ((1000000:Int)<n)then 1000000 else n
def tkE(n:Int)(e:aI):Int:=bif e.R0==1 then mil (n+mil (bif decide (e.N<0)then 0 else e.N))else bif e.R0==7 then mil (n+1)else bif e.R0==8 then mil (n+1)else n
def Yq(h:0<=n):0<=mil n/\mil n<=1000000:=by
 unfold mil;cases g:decide (1000000<n)with
 |true=>exact⟨show _<=1000000 by decide,show 1000000<=1000000 by decide⟩
 |false=>exact⟨h,by have:=w_ g;rw[H];omega⟩
def Bpj(h:n<=1000000):mil n=n:=by rw[mil,Z ω];rfl
def Axu(n:Int):0<=(bif decide (n<0)then(0:Int)else n):=by
 cases h:decide (n<0)with
 |true=>exact b8_ 0
 |false=>have:=w_ h;rw[H];omega
def Ayr(h:0<=n/\n<=1000000)(e:aI):0<=tkE n e/\tkE n e<=1000000:=by
 unfold tkE;cases e.R0==1 with
 |true=>exact Yq<|Int.add_nonneg h.1 (Yq<|Axu _).1
 |false=>cases e.R0==7 with
  |true=>exact Yq ω
  |false=>cases e.R0==8 with
   |true=>exact Yq ω
   |false=>exact h
noncomputable abbrev sTk(x:(Int×List aI×Int×Int×Unit)×Unit):=KF x.1.1 x.1.2.1 x.1.2.2.1 x.1.2.2.2.1
def Avl{l:List aI}(o:l.length<=100000):∀(m i:Nat) (n:Int),i+m=l.length->0<=n/\n<=1000000->aE sTk (m+1) ((n,l,(l.length:Int),(i:Int),()),())=C (((l.drop i).foldl tkE n,()),())
 |0,i,n,w,_=>by obtain rfl:i=l.length:=ω;rw[b1_];refine Ax ?_;simp only[lp,Un.u,KF,Ip,H,List.foldl_nil]
 |m+1,i,n,w,v=>by
  have g:i<l.length:=ω;rw[Ai8 Gz g];obtain⟨r0,h⟩:∃r0,sTk ((n,l,l.length,i,()),())=r0:=⟨_,rfl⟩;have hs:=h;have hp:=Yq<|Axu (l.getD i Gz).N;have q:W.wrap (n+mil (bif decide ((l.getD i Gz).N<0)then 0 else(l.getD i Gz).N))=_:=Aa ω ω;have j:W.wrap (n+1)=_:=Aa ω ω;unfold sTk KF at hs;simp only[Lm g,Ga g,l_,GS o g]at hs;rw[show(Event.mk 0 0 0 0 0)=Gz from rfl]at hs;have hs:C (aT ((tkE n<|l.getD i Gz,l,(l.length:Int),((i+1:Nat):Int),()),()))=r0:=by
   rw[<-hs];unfold mil at q;unfold tkE;cases(l.getD i Gz).R0==1 with
   |true=>simp only[ q];rfl
   |false=>cases(l.getD i Gz).R0==7 with
    |true=>simp only[ j];rfl
    |false=>cases(l.getD i Gz).R0==8 with
     |true=>simp only[ j];rfl
     |false=>simp only[H];rw[Z ω];rfl
  rw[Aq<|h.trans hs.symm];exact Avl o m (i+1) _ ω<|Ayr v _
def GR(l:List aI):Int:=l.foldl tkE 0
def Bee(g:l.length<=100000):JN l=C ((GR l,()),()):=by exact Ae (Aj (Avl g l.length 0 0 (m_ _) ⟨τ,τ⟩) ω) rfl
noncomputable abbrev Bgw(x:(List aI×Int×Int×Unit)×Unit):=NB x.1.1 x.1.2.1 x.1.2.2.1
def Asj{l:List aI}(q:l.length<=100000):∀(m i:Nat) (n:Int),i+m=l.length->0<=n/\n<=1000000->aE Bgw (m+1) ((l,n,(i:Int),()),())=C (((l.drop i).foldl tkE n,()),())
 |0,i,n,w,_=>by obtain rfl:i=l.length:=ω;rw[b1_];refine Ax ?_;simp only[lp,Un.u,NB,Ip,H,List.foldl_nil]
 |m+1,i,n,w,v=>by
  have g:i<l.length:=ω;rw[Ai8 Gz g];obtain⟨r0,h⟩:∃r0,Bgw ((l,n,i,()),())=r0:=⟨_,rfl⟩;have hs:=h;have hp:=Yq<|Axu (l.getD i Gz).N;have j:W.wrap (n+mil (bif decide ((l.getD i Gz).N<0)then 0 else(l.getD i Gz).N))=_:=Aa ω ω;have o:W.wrap (n+1)=_:=Aa ω ω;have hq:(bif decide (0<mil (l.getD i Gz).N)then mil (l.getD i Gz).N else 0)=mil (bif decide ((l.getD i Gz).N<0)then 0 else(l.getD i Gz).N):=by
   generalize(l.getD i Gz).N=k;by_cases h0:k<0
   .rw[Bpj ω,U h0,Z ω];rfl
   .rw[Z h0,H]
    have:=Yq (ω:0<=k)
    by_cases h1:0<mil k
    .rw[U h1];rfl
    .rw[Z h1,H];omega
  unfold Bgw NB at hs;simp only[Lm g,Ga g,l_,GS q g]at hs;rw[show(Event.mk 0 0 0 0 0)=Gz from rfl]at hs;have hs:C (aT ((l,tkE n<|l.getD i Gz,((i+1:Nat):Int),()),()))=r0:=by
   rw[<-hs];unfold tkE;cases(l.getD i Gz).R0==1 with
   |true=>rw[<-hq]at j|-;unfold mil at j;simp only[ j];rfl
   |false=>cases(l.getD i Gz).R0==7 with
    |true=>simp only[ o];rfl
    |false=>cases(l.getD i Gz).R0==8 with
     |true=>simp only[ o];rfl
     |false=>simp only[H];rw[Z ω];rfl
  rw[Aq<|h.trans hs.symm];exact Asj q m (i+1) _ ω<|Ayr v _
def Arq(g:l.length<=100000):VW l=C ((GR l,()),()):=by exact Ae (Aj (Asj g l.length 0 0 (m_ _) ⟨τ,τ⟩) ω) rfl
end Go.Ovl
namespace Go.Ovl
open Go Go.Ab
variable{i:Nat}{f:Int}
def bv(f:Int):BitVec 32:=aH 32 f
def vb(b:BitVec 32):Int:=(b.toNat:Int)
def Of(b:BitVec 32):0<=vb b/\vb b<4294967296:=by unfold vb;omega
def Bh4(b:BitVec 32):bv (vb b)=b:=by apply bE;simp only[bv,vb,a9_];omega
def Bi7(h:0<=f/\f<4294967296):vb (bv f)=f:=by simp only[bv,vb,a9_];omega
def Xl(b:BitVec 32):aF.wrap ((b.toNat:Nat):Int)=vb b:=by simp only[aC,IntKind.signed,IntKind.bits,vb];simp;omega
def Ao1:IntKind.bits .u32=32:=rfl
def Bjj(f:Int):bv (aC aF f)=bv f:=by apply bE;simp only[bv,aC,IntKind.signed,IntKind.bits];simp
def Ao5(i:Nat):bv (aC aF<|1*2^min i (IntKind.bits .u32))=if i<32 then BitVec.twoPow 32 i else 0#32:=by
 rw[Bjj,Int.one_mul];apply bE;simp only[bv,Ao1];by_cases h:i<32
 .rw[if_pos h,d5_ ω,BitVec.toNat_twoPow]
  have:(2^i)=((2^i:Nat):Int):=by simp
  norm_cast
 .rw[if_neg h,Nat.min_eq_right ω];rfl
def Jn(f:Int)(i:Nat):Bool:=(bv f).getLsbD i
def Bep(h:0<=f/\f<4294967296)(v:i<32):
  (aC aF ((aS (aH (IntKind.bits .u32) (aV f<|2^min i (IntKind.bits .u32))&&&aH (IntKind.bits .u32) 1):Nat):Int)==1)=Jn f i:=by
 have e:aV f (2^min i (IntKind.bits .u32))=((f.toNat/2^i:Nat):Int):=by
  rw[Ao1,d5_ ω,R_ _ (by exact Int.le_of_lt<|Int.pow_pos ω)]
  have:f=(f.toNat:Int):=ω
  rw[this];simp
 rw[e];show(aC aF (((bv _&&&bv 1).toNat:Nat):Int)==1)=_;have hb:(bv ((f.toNat/2^i:Nat):Int)&&&bv 1)=if Jn f i then 1#32 else 0#32:=by
  apply bD;intro j u;have h1:(bv ((f.toNat/2^i:Nat):Int)).getLsbD j=(f.toNat/2^i).testBit j:=by
   simp only[bv,BitVec.getLsbD,a9_]
   have:(((f.toNat/2^i:Nat):Int)%((2^32:Nat):Int)).toNat=(f.toNat/2^i)%2^32:=by norm_cast
   rw[this,Nat.testBit_mod_two_pow];simp[u]
  have o:Jn f i=f.toNat.testBit i:=by
   simp only[Jn,bv,BitVec.getLsbD,a9_]
   have:(f%((2^32:Nat):Int)).toNat=f.toNat:=by simp;omega
   rw[this]
  have q:(bv 1).getLsbD j=decide (j=0):=by
   have:bv 1=1#32:=rfl
   rw[this];simp[BitVec.getLsbD_one]
  rw[bA,h1,q,o];by_cases g:j=0
  .subst g;rw[Nat.testBit_div_two_pow];simp only[m_,decide_true];cases f.toNat.testBit i<;>simp
  .simp only[g,decide_false];cases f.toNat.testBit i<;>simp[BitVec.getLsbD_one,g]
 rw[hb];cases Jn f i<;>rfl
def YG(f:Int)(i:Nat)(g:Bool):Int:=vb (if g then bv f|||BitVec.twoPow 32 i else bv f&&& ~~~ BitVec.twoPow 32 i)
def Ayb(f:Int)(i:Nat)(g:Bool):0<=YG f i g/\YG f i g<4294967296:=Of _
def At9{g:Int}(hf:0<=f/\f<4294967296)(j:0<=g/\g<4294967296)(h:∀i,i<32->Jn f i=Jn g i):f=g:=by rw[<-Bi7 hf,<-Bi7 j];congr 1;apply bD;intro i o;exact h i o
def Bpq(f:Int)(g:i<32):aF.wrap ((aS (aH (IntKind.bits .u32) f|||BitVec.ofInt (IntKind.bits .u32) (aC aF<|1*2^min i (IntKind.bits .u32))):Nat):Int)=YG f i E:=by show aF.wrap (((bv f|||bv _).toNat:Nat):Int)=_;rw[Xl,Ao5,if_pos g];rfl
def Bab(f:Int)(g:i<32):aF.wrap ((aS (aH (IntKind.bits .u32) f&&& ~~~ aH (IntKind.bits .u32) (aC aF<|1*2^min i (IntKind.bits .u32))):Nat):Int)=YG f i B:=by show aF.wrap (((bv f&&& ~~~ bv _).toNat:Nat):Int)=_;rw[Xl,Ao5,if_pos g];rfl
def Bcz(f:Int)(i:Nat):YG (YG f i B) i E=YG f i E:=by unfold YG;simp only[if_true,f6_,f5_,Bh4];congr 1;apply bD;intro j g;simp only[BitVec.getLsbD_or,bA,BitVec.getLsbD_not];cases(bv f).getLsbD j<;>cases(BitVec.twoPow 32 i).getLsbD j<;>simp[g]
end Go.Ovl
namespace Go.Ovl
open Go Go.Ab
variable{b:Bldg}{l:List J}{α:Type}{m:Img}{c p:Int×Int}{e:J}{k f:Nat}{r:aA}{d:Int}
def Bhc(x y:Int):aF.wrap (stk x y<|aS (aH (IntKind.bits .u32) x|||BitVec.ofInt (IntKind.bits .u32) y))=vb (bv x|||bv y):=by rw[Lc];exact Xl _
def Aii(x y:Int):aF.wrap (stk x y<|aS<|aH (IntKind.bits .u32) x&&&aH (IntKind.bits .u32) y)=vb (bv x&&&bv y):=by rw[Lc];exact Xl _
def YQ(x y:Int):aF.wrap (stk x y<|aS<|aH (IntKind.bits .u32) x&&& ~~~ aH (IntKind.bits .u32) y)=vb (bv x&&& ~~~ bv y):=by rw[Lc];exact Xl _
def Ao0(b:BitVec 32)(i:Nat):Jn (vb b) i=b.getLsbD i:=by unfold Jn;rw[Bh4]
def Bjh(h:k<32)(i:Nat):Jn (aC aF<|1*2^min k (IntKind.bits .u32)) i=decide (i=k):=by
 unfold Jn;rw[Ao5,if_pos h];by_cases e:i=k
 .subst e;simp[h]
 .simp[e,e4_ e]
def Wf(b:Bldg)(r:aA):Bool:=inR 0 ((b.B0.length:Int)-1) r.S0&&(r.D0==0&&r.I0==0)
def Ar(b:Bldg)(r:aA):Bool:=
 b.code==0&&(bif r.R0==1 then Au b r.D0 r.I0&&(r.S0==0&&r.M2==0)
 else bif r.R0==2 then Au b r.D0 r.I0&&(r.S0==0&&r.M2==0)
 else bif r.R0==3 then Au b r.D0 r.I0&&(inR (-2) ((b.B0.length:Int)-1) r.S0&&r.M2==0)
 else bif r.R0==4 then Wf b r&&inR 0 4 r.M2
 else bif r.R0==5 then Wf b r&&inR 0 1 r.M2
 else bif r.R0==6 then Wf b r&&inR 0 1 r.M2
 else bif r.R0==7 then Au b r.D0 r.I0&&(inR 0 1 r.S0&&inR 0 255 r.M2)
 else B)
def isC(F D:Int)(e:J):Bool:=e.D0==F&&e.I0==D
def DN(F D:Int):List J->Nat->Int
 |[],_=>-1
 |e::t,i=>bif isC F D e then(i:Int)else DN F D t (i+1)
def XX(F D:Int):∀(l:List J) (i:Nat),(DN F D l i=-1/\∀e∈l,isC F D e=B)\/∃k:Nat,k<l.length/\DN F D l i=((i+k:Nat):Int)/\isC F D (l.getD k noE)=E
 |[],_=>.inl ⟨rfl,λ_ h=>by cases h⟩
 |e::t,i=>by
  simp only[DN];cases h:isC F D e with
  |true=>exact .inr ⟨0,σ,rfl,h⟩
  |false=>
   rcases XX F D t (i+1)with⟨h1,j⟩|⟨k,h1,j,o⟩
   .refine .inl ⟨h1,λx g=>?_⟩;rcases x_.1 g with rfl|g
    .exact h
    .exact j x g
   .refine .inr ⟨k+1,by simp;omega,?_,o⟩;rw[H,j];congr 1;omega
def Hq(e:J):Bool->List J->List J
 |d,[]=>bif d then []else [e]
 |true,x::t=>x::Hq e E t
 |false,x::t=>bif Bv e x then e::x::Hq e E t else x::Hq e B t
def Ael(e:J):∀(l:List J) (d:Bool),(Hq e d l).length<=l.length+1
 |[],E=>by simp[Hq]
 |[],B=>by simp[Hq]
 |x::t,E=>by simp only[Hq,s_];have:=Ael e t E;omega
 |x::t,B=>by
  simp only[Hq];cases Bv e x with
  |true=>
   simp only[V,s_]
   have:∀t:List J,Hq e E t=t:=λt=>by
    induction t with
    |nil=>rfl
    |cons a t g=>simp only[Hq,g]
   rw[this];omega
  |false=>simp only[H,s_];have:=Ael e t B;omega
def Vv(e:J):∀t:List J,Hq e E t=t
 |[]=>rfl
 |a::t=>by simp only[Hq,Vv e t]
def Img.put(m:Img)(l:List J):Img:=⟨m.F0,m.L0,m.H0,l⟩
def Ahx(e:J)(c:Int):J:=⟨e.D0,e.I0,c,e.H1,e.Z1⟩
def UI(e:J)(n c:Int):J:=⟨e.D0,e.I0,e.S0,n,c==1⟩
def AA(m:Img)(r:aA):Img:=
 bif r.R0==4 then⟨m.F0.set r.S0.toNat r.M2,m.L0,m.H0,m.A0⟩
 else bif r.R0==5 then⟨m.F0,m.L0.set r.S0.toNat<|r.M2==1,m.H0,m.A0⟩
 else bif r.R0==6 then⟨m.F0,m.L0,m.H0.set r.S0.toNat<|r.M2==1,m.A0⟩
 else bif DN r.D0 r.I0 m.A0 0==-1 then(bif r.R0==1 then m.put (Hq ⟨r.D0,r.I0,-1,0,B⟩ B m.A0)else m)
 else bif r.R0==2 then m.put (m.A0.take (DN r.D0 r.I0 m.A0 0).toNat++m.A0.drop ((DN r.D0 r.I0 m.A0 0).toNat+1))
 else bif r.R0==3 then m.put (m.A0.set (DN r.D0 r.I0 m.A0 0).toNat<|Ahx (m.A0.getD (DN r.D0 r.I0 m.A0 0).toNat noE) r.S0)
 else bif r.R0==7 then m.put (m.A0.set (DN r.D0 r.I0 m.A0 0).toNat<|UI (m.A0.getD (DN r.D0 r.I0 m.A0 0).toNat noE) r.M2 r.S0)
 else m
def ZG(b:Bldg)(m:Img)(r:aA):(Unit×Int×Unit)×((List Int×List Bool×List Bool×List J×Unit)×Unit):=bif m.ok b&&Ar b r then(((),0,()),((AA m r).tup,()))else(((),1,()),(Img.none.tup,()))
def Aih(h:Ar b r=E)(g:r.R0=4\/r.R0=5\/r.R0=6):0<=r.S0/\r.S0<(b.B0.length:Int):=by
  unfold Ar Wf at h;have k:∀q:Bool,(r.S0≥0/\r.S0<=b.B0.length-1)->0<=r.S0/\r.S0<b.B0.length:=λ_ h=>by omega
  rcases g with g|g|g<;>rw[g]at h<;>
    (simp only[a_]at h
     have h':=h.2;simp only[show((4:Int)==1)=B from rfl,show((4:Int)==2)=B from rfl,show((4:Int)==3)=B from rfl,show((5:Int)==1)=B from rfl,show((5:Int)==2)=B from rfl,show((5:Int)==3)=B from rfl,show((5:Int)==4)=B from rfl,show((6:Int)==1)=B from rfl,show((6:Int)==2)=B from rfl,show((6:Int)==3)=B from rfl,show((6:Int)==4)=B from rfl,show((6:Int)==5)=B from rfl,p_,H,V,a_]at h'
     have:=Ah.1 h'.1.1
     exact k E ⟨this.1,this.2⟩)
def Hw{a c:J}:Bv a c=E↔a.D0<c.D0\/(a.D0=c.D0/\a.I0<c.I0):=by unfold Bv;simp only[V_,a_,t_,a1_]
def QP{a c d:J}(h:Bv a c=E)(h':Bv c d=E):Bv a d=E:=by rw[Hw]at*;omega
def HZ(e:J):Int×Int:=(e.D0,e.I0)
def ltC(a c:Int×Int):Prop:=a.1<c.1\/(a.1=c.1/\a.2<c.2)
def Bo(l:List J):Prop:=(l.map HZ).Pairwise ltC
def Ec:Bo l↔l.Pairwise λx y=>Bv x y=E:=by unfold Bo;rw[List.pairwise_map];exact⟨λh=>h.imp λhh=>Hw.2 hh,λh=>h.imp λhh=>Hw.1 hh⟩
def Ak7{b:Bldg}:∀{l:List J}{p:Option J},Io b p l=E↔(∀e∈l,Im b e=E)/\Bo l/\(∀q,p=C q->∀e∈l,Bv q e=E)
 |[],p=>by simp[Io,Bo]
 |a::t,p=>by
  simp only[Io,a_];rw[Ak7 (l:=t),Ec,Ec,f4_];constructor
  .rintro⟨h1,h,o,j,u⟩;refine⟨λe g=>?_,⟨λe g=>u a rfl e g,j⟩,λq hq e g=>?_⟩
   .rcases x_.1 g with rfl|g
    .exact h1
    .exact o e g
   .subst hq;simp only at h;rcases x_.1 g with rfl|g
    .exact h
    .exact QP h<|u a rfl e g
  .rintro⟨h1,⟨h,o⟩,j⟩;refine⟨h1 a<|H_ ..,?_,λe g=>h1 e<|L_ _ g,o,λq hq e g=>?_⟩
   .cases p with
    |none=>rfl
    |some q=>exact j q rfl a<|H_ ..
   .obtain rfl:=r_ hq;exact h e g
def Agh:Io b none l=E↔(∀e∈l,Im b e=E)/\Bo l:=by rw[Ak7];exact⟨λh=>⟨h.1,h.2.1⟩,λh=>⟨h.1,h.2,λ_ hq=>by cases hq⟩⟩
def Ayd(h:Bo l)(k:Nat):Bo<|l.take k++l.drop (k+1):=by rw[Ec]at*;exact h.sublist (by rw[<-List.eraseIdx_eq_take_drop_succ];exact List.eraseIdx_sublist ..)
def Aq8(j:k<l.length)(g:HZ e=HZ (l.getD k noE)):(l.set k e).map HZ=l.map HZ:=by
 rw[List.map_set,g];apply List.ext_getElem?;intro i;rw[List.getElem?_set];by_cases h:k=i
 .subst h;simp[j,k_]
 .rw[if_neg h]
def Ah4(h:Bo l)(j:k<l.length)(g:HZ e=HZ (l.getD k noE)):Bo<|l.set k e:=by unfold Bo at*;rw[Aq8 j g];exact h
def Aew{e x:J}:∀{l:List J},x∈Hq e B l->x=e\/x∈l
 |[],h=>by simp[Hq]at h;exact .inl h
 |a::t,h=>by
  simp only[Hq]at h;cases hq:Bv e a with
  |true=>
   rw[hq,Vv]at h;rcases x_.1 h with h|h
   .exact .inl h
   .exact .inr h
  |false=>
   rw[hq]at h;rcases x_.1 h with h|h
   .exact .inr (by rw[h];exact H_ ..)
   .rcases Aew h with h|h
    .exact .inl h
    .exact .inr<|L_ _ h
def Ah3{e:J}:∀{l:List J},Bo l->(∀x∈l,isC e.D0 e.I0 x=B)->Bo (Hq e B l)
 |[],_,_=>by simp[Hq,Bo]
 |a::t,h,j=>by
  rw[Ec]at*;obtain⟨h1,q⟩:=f4_.1 h;simp only[Hq];cases hq:Bv e a with
  |true=>
   rw[ Vv];refine f4_.2 ⟨λx g=>?_,h⟩;rcases x_.1 g with rfl|g
   .exact hq
   .exact QP hq<|h1 x g
  |false=>
   refine f4_.2 ⟨λx g=>?_,Ec.1 (Ah3 (Ec.2 q) λx g=>j x<|L_ _ g)⟩;rcases Aew g with rfl|g
   .rw[Hw];have u:¬(x.D0<a.D0\/(x.D0=a.D0/\x.I0<a.I0)):=λhh=>by rw[Hw.2 hh]at hq;cases hq
    have o:=j a<|H_ ..;unfold isC at o;simp only[Bool.and_eq_false_iff,beq_eq_false_iff_ne]at o;omega
   .exact h1 x g
structure ImgOK(b:Bldg)(m:Img):Prop where
 code:b.code=0
 lp:m.F0.length=b.B0.length
 lf:m.L0.length=b.B0.length
 ll:m.H0.length=b.B0.length
 ph:∀p∈m.F0,0<=p/\p<=4
 en:∀e∈m.A0,Im b e=true
 so:Bo m.A0
def Img.ok_iff:m.ok b=E↔ImgOK b m:=by
 unfold Img.ok;simp only[a_,a1_];constructor
 .rintro⟨h0,h1,o,q,h,j⟩;have g:=Agh.1 j;exact⟨h0,ω,ω,ω,λp hp=>Ah.1<|F_.1 h p hp,g.1,g.2⟩
 .rintro⟨h0,h1,o,q,h,j,g⟩;exact⟨h0,ω,ω,ω,F_.2 λp hp=>Ah.2<|h p hp,Agh.2 ⟨j,g⟩⟩
def FT:Im b e=E↔Au b e.D0 e.I0=E/\(-2<=e.S0/\e.S0<(b.B0.length:Int))/\0<=e.H1/\e.H1<=255:=by
 unfold Im;simp only[a_,t_];constructor
 .rintro⟨h1,h,o,g,j⟩;exact⟨h1,⟨h,o⟩,g,j⟩
 .rintro⟨h1,⟨h,o⟩,g,j⟩;exact⟨h1,h,o,g,j⟩
def Ajy{l:List α}{a x:α}(h:x∈l.set k a):x=a\/x∈l:=by
 rcases List.mem_or_eq_of_mem_set h with h|h
 .exact .inr h
 .exact .inl h
def Adj(h:Ar b r=E):b.code=0/\
    ((r.R0=1/\Au b r.D0 r.I0=E/\r.S0=0/\r.M2=0)\/(r.R0=2/\Au b r.D0 r.I0=E/\r.S0=0/\r.M2=0)\/
     (r.R0=3/\Au b r.D0 r.I0=E/\(-2<=r.S0/\r.S0<(b.B0.length:Int))/\r.M2=0)\/
     (r.R0=4/\(0<=r.S0/\r.S0<(b.B0.length:Int))/\(0<=r.M2/\r.M2<=4))\/
     (r.R0=5/\(0<=r.S0/\r.S0<(b.B0.length:Int))/\(0<=r.M2/\r.M2<=1))\/
     (r.R0=6/\(0<=r.S0/\r.S0<(b.B0.length:Int))/\(0<=r.M2/\r.M2<=1))\/
     (r.R0=7/\Au b r.D0 r.I0=E/\(0<=r.S0/\r.S0<=1)/\(0<=r.M2/\r.M2<=255))):=by
  unfold Ar Wf at h;simp only[a_,a1_]at h;obtain⟨h0,h⟩:=h;refine⟨h0,?_⟩;by_cases k1:r.R0=1
  · rw[k1]at h;simp only[p_,V,a_,a1_]at h;exact .inl ⟨k1,h.1,h.2⟩
  rw[At k1,H]at h;by_cases q:r.R0=2
  · rw[q]at h;simp only[p_,V,a_,a1_]at h;exact .inr<|.inl ⟨q,h.1,h.2⟩
  rw[At q,H]at h;by_cases o:r.R0=3
  · rw[o]at h;simp only[p_,V,a_,a1_,Ah]at h;exact .inr<|.inr<|.inl ⟨o,h.1,ω,h.2.2⟩
  rw[At o,H]at h;by_cases k4:r.R0=4
  · rw[k4]at h;simp only[p_,V,a_,Ah]at h;exact .inr<|.inr<|.inr<|.inl ⟨k4,ω,h.2⟩
  rw[At k4,H]at h;by_cases g:r.R0=5
  · rw[g]at h;simp only[p_,V,a_,Ah]at h;exact .inr<|.inr<|.inr<|.inr<|.inl ⟨g,ω,h.2⟩
  rw[At g,H]at h;by_cases u:r.R0=6
  · rw[u]at h;simp only[p_,V,a_,Ah]at h;exact .inr<|.inr<|.inr<|.inr<|.inr<|.inl ⟨u,ω,h.2⟩
  rw[At u,H]at h;by_cases j:r.R0=7
  · rw[j]at h;simp only[p_,V,a_,Ah]at h;exact .inr<|.inr<|.inr<|.inr<|.inr<|.inr ⟨j,h.1,h.2.1,h.2.2⟩
  rw[At j]at h;cases h
def Aho(h:ImgOK b m)(h1:∀e∈l,Im b e=E)(g:Bo l):ImgOK b<|m.put l:=⟨h.code,h.lp,h.lf,h.ll,h.ph,h1,g⟩
def Kk(h:ImgOK b m)(z:Ar b r=E):ImgOK b (AA m r)/\(AA m r).A0.length<=m.A0.length+1:=by
 obtain⟨_,g⟩:=Adj z;unfold AA;by_cases k4:r.R0=4
 .rw[show(r.R0==4)=E by rw[k4];rfl];refine⟨⟨h.code,by show(m.F0.set _ _).length=_;rw[z_];exact h.lp,h.lf,h.ll,λp hp=>?_,h.en,h.so⟩,aZ _⟩;rcases Ajy hp with rfl|hp
  .omega
  .exact h.ph p hp
 rw[At k4,H];by_cases v:r.R0=5
 .rw[show(r.R0==5)=E by rw[v];rfl];exact⟨⟨h.code,h.lp,by show(m.L0.set _ _).length=_;rw[z_];exact h.lf,h.ll,h.ph,h.en,h.so⟩,aZ _⟩
 rw[At v,H];by_cases y:r.R0=6
 .rw[show(r.R0==6)=E by rw[y];rfl];exact⟨⟨h.code,h.lp,h.lf,by show(m.H0.set _ _).length=_;rw[z_];exact h.ll,h.ph,h.en,h.so⟩,aZ _⟩
 rw[At y,H];rcases XX r.D0 r.I0 m.A0 0 with⟨h1,u⟩|⟨k,h1,u,A⟩
 .rw[h1,show((-1)==-1)=E from rfl];by_cases k1:r.R0=1
  .rw[show(r.R0==1)=E by rw[k1];rfl];refine⟨Aho h (λe j=>?_)<|Ah3 h.so u,Ael _ _ _⟩;rcases Aew j with rfl|j
   .rw[FT];have hc:Au b r.D0 r.I0=E:=by
     rcases g with g|g|g|g|g|g|g
     .exact g.2.1
     all_goals omega
    exact⟨hc,⟨by show _<=-1;omega,by show(-1)<_;omega⟩,by show _<=0;omega,by show 0<=255;omega⟩
   .exact h.en e j
  .rw[At k1];exact⟨h,aZ _⟩
 .rw[m_]at u;rw[u,At ω,H];have q:=AE noE h1;have o:=FT.1<|h.en _ q;cases r.R0==2 with
  |true=>
   refine⟨Aho h (λe j=>?_)<|Ayd h.so k,?_⟩
   .rcases n_.1 j with j|j
    .exact h.en e<|f0_ j
    .exact h.en e<|f1_ j
   .show(m.A0.take k++m.A0.drop (k+1)).length<=_;rw[e_,v_,Y_];omega
  |false=>
   by_cases w:r.R0=3
   .rw[show(r.R0==3)=E by rw[w];rfl];refine⟨Aho h (λe j=>?_)<|Ah4 h.so h1 rfl,by show(m.A0.set _ _).length<=_;rw[z_];omega⟩;rcases Ajy j with rfl|j
    .rw[FT];refine⟨o.1,?_,o.2.2⟩;rcases g with g|g|g|g|g|g|g
     all_goals first
      |exact g.2.2.1
      |omega
    .exact h.en e j
   .rw[At w];by_cases x:r.R0=7
    .rw[show(r.R0==7)=E by rw[x];rfl];refine⟨Aho h (λe j=>?_)<|Ah4 h.so h1 rfl,by show(m.A0.set _ _).length<=_;rw[z_];omega⟩;rcases Ajy j with rfl|j
     .rw[FT];refine⟨o.1,o.2.1,?_⟩;rcases g with g|g|g|g|g|g|g
      all_goals first
       |exact g.2.2.2
       |omega
     .exact h.en e j
    .rw[At x];exact⟨h,aZ _⟩
def Pw(b:Bldg):Img:=⟨aD b.B0.length 0,aD b.B0.length B,aD b.B0.length B,[]⟩
def Aek(g:b.code=0):ImgOK b<|Pw b:=⟨g,A_,A_,A_,(λp hp=>by rw[List.eq_of_mem_replicate hp];omega),(λ_ h=>by cases h),by simp[Pw,Bo]⟩
def Aw(m:Img):List aA->Img
 |[]=>m
 |r::t=>Aw (AA m r) t
def ZF{b:Bldg}:∀{rs:List aA}{m:Img},ImgOK b m->(∀r∈rs,Ar b r=E)->ImgOK b (Aw m rs)/\(Aw m rs).A0.length<=m.A0.length+rs.length
 |[],_,h,_=>⟨h,q_ _⟩
 |r::t,m,h,g=>by obtain⟨h1,u⟩:=Kk h<|g r<|H_ ..;obtain⟨j,q⟩:=ZF h1 λx o=>g x<|L_ _ o;exact⟨j,by show(Aw _ t).A0.length<=_;rw[s_];omega⟩
def Ae9(n lo g:Int):Fv n lo g=C ((inR lo g n,()),()):=by unfold Fv inR;cases decide (lo<=n)<;>rfl
def PE(hb:b.small)(hc:b.B0.length<=100)(r:aA):HD b.C0 b.E0 b.J0 b.M0 b.K0 b.N0 b.O0 b.B0 r.R0 r.D0 r.I0 r.S0 r.M2=C ((Ar b r,()),()):=by
  have w:W.wrap _=b.B0.length-1:=Aa ω ω;unfold HD Ar Wf;rw[Ap,Jd hb];simp only[O,bne,Ae9,w];cases b.code==0 with
  |false=>rfl
  |true=>
    simp only[W_,H];cases inR 0 _ r.S0<;>cases r.D0==0<;>cases r.I0==0<;>
      (simp only[O,V,H,e2_,c1_,w]
       by_cases k1:r.R0=1
       · simp only[k1,V]
         cases Au b r.D0 r.I0<;>cases r.S0==0<;>rfl
       by_cases o:r.R0=2
       · simp only[o,H]
         cases Au b r.D0 r.I0<;>cases r.S0==0<;>rfl
       by_cases j:r.R0=3
       · simp only[j,show _=B from rfl]
         cases Au b r.D0 r.I0<;>cases inR (-2) _ r.S0<;>rfl
       by_cases k4:r.R0=4
       · simp only[k4,p_,V,H,show((4:Int)==1)=B from rfl,show((4:Int)==2)=B from rfl,show((4:Int)==3)=B from rfl,show((4:Int)==7)=B from rfl]
       by_cases g:r.R0=5
       · simp only[g,p_,V,H,show((5:Int)==1)=B from rfl,show((5:Int)==2)=B from rfl,show((5:Int)==3)=B from rfl,show((5:Int)==7)=B from rfl,show((5:Int)==4)=B from rfl]
       by_cases q:r.R0=6
       · simp only[q,p_,V,H,show((6:Int)==1)=B from rfl,show((6:Int)==2)=B from rfl,show((6:Int)==3)=B from rfl,show((6:Int)==7)=B from rfl,show((6:Int)==4)=B from rfl,show((6:Int)==5)=B from rfl]
       by_cases h:r.R0=7
       · simp only[h,show _=B from rfl]
         cases Au b r.D0 r.I0<;>cases inR 0 1 r.S0<;>rfl
       simp only[At k1,At o,At j,At k4,At g,At q,At h,H])
def Aar(m:Img)(h1:m.F0.length<=100000)(j:m.L0.length<=100000)(o:m.H0.length<=100000)(g:m.A0.length<=100000):Nb m.F0 m.L0 m.H0 m.A0=C (((),()),(m.tup,())):=by
 have k:∀{α:Type}(l:List α),l.length<=100000->Lk l=C _:=λl h=>by unfold Lk;rw[Am ω];rfl
 unfold Nb AW AC AG;rw[k _ h1,k _ j,k _ o,k _ g];rfl
def Bg(c:J):List J->Nat
 |[]=>0
 |e::t=>bif Bv e c then Bg c t+1 else 0
def Xa(c:J):∀l:List J,Bg c l<=l.length
 |[]=>q_ _
 |e::t=>by
  have:=Xa c t
  simp only[Bg];cases Bv e c<;>simp<;>omega
def Aj6(c:J):∀(l:List J) (k:Nat),k<Bg c l->Bv (l.getD k noE) c=E
 |[],k,h=>by simp[Bg]at h
 |e::t,k,h=>by
  simp only[Bg]at h;cases g:Bv e c with
  |false=>rw[g]at h;simp at h
  |true=>
   rw[g]at h;cases k with
   |zero=>exact g
   |succ k=>exact Aj6 c t k (by simp at h;omega)
def Aj5{c:J}:∀{l:List J},Bo l->∀k,Bg c l<=k->k<l.length->Bv (l.getD k noE) c=B
 |[],_,k,_,h=>by simp at h
 |e::t,hs,k,h1,j=>by
  obtain⟨o,a2⟩:=f4_.1<|Ec.1 hs;simp only[Bg]at h1;cases g:Bv e c with
  |true=>
   rw[g,V]at h1;cases k with
   |zero=>omega
   |succ k=>exact Aj5 (Ec.2 a2) k ω (by simp at j;omega)
  |false=>
   cases k with
   |zero=>exact g
   |succ k=>
    cases hq:Bv _ c with
    |false=>rfl
    |true=>
     have hm:=AE noE (by simp at j;omega)
     have:=QP (o _ hm) hq
     rw[g]at this;cases this
def Yn{a c:J}(h:isC c.D0 c.I0 a=E):Bv a c=B/\Bv c a=B:=by
 unfold isC at h;simp only[a_,a1_]at h;constructor
 all_goals
  apply Bool.eq_false_iff.2;intro hh;rw[Hw]at hh;omega
def Aq3{a c:J}(h:isC c.D0 c.I0 a=B)(h':Bv a c=B):Bv c a=E:=by
 rw[Hw];have h1:¬(a.D0<c.D0\/(a.D0=c.D0/\a.I0<c.I0)):=λhh=>by rw[Hw.2 hh]at h';cases h'
 unfold isC at h;simp only[Bool.and_eq_false_iff,beq_eq_false_iff_ne]at h;omega
def Als{a c:J}(h:Bv a c=E):Bv c a=B:=by apply Bool.eq_false_iff.2;intro hh;rw[Hw]at*;omega
def XW{F D:Int}:∀{l:List J}{i:Nat},(∀x∈l,isC F D x=B)->DN F D l i=-1
 |[],_,_=>rfl
 |e::t,i,h=>by simp only[DN];rw[h e<|H_ ..];exact XW λx g=>h x<|L_ _ g
def FX(c:J)(l:List J):Bool:=Nat.blt (Bg c l) l.length&&isC c.D0 c.I0 (l.getD (Bg c l) noE)
def RA{c:J}:∀{l:List J}(i:Nat),Bo l->DN c.D0 c.I0 l i=bif FX c l then((i+Bg c l:Nat):Int)else -1
 |[],_,_=>rfl
 |e::t,i,hs=>by
  obtain⟨o,a2⟩:=f4_.1<|Ec.1 hs;have g:Bg c (e::t)=bif Bv e c then Bg c t+1 else 0:=rfl;unfold FX;simp only[DN];rw[g];cases h:isC c.D0 c.I0 e with
  |true=>rw[(Yn h).1];simp[h,show Nat.blt 0 (t.length+1)=E from rfl]
  |false=>
   cases j:Bv e c with
   |true=>rw[H,V,RA (i+1)<|Ec.2 a2];unfold FX;rw[show((e::t).getD _ noE)=t.getD _ noE from rfl,s_,show Nat.blt _ (t.length+1)=Nat.blt _ t.length from rfl];rw[show i+1+Bg c t=i+(Bg c t+1)by omega]
   |false=>
    rw[H,H,show((e::t).getD 0 noE)=e from rfl,h,d4_];refine XW λx q=>?_;cases hq:isC c.D0 c.I0 x with
    |false=>rfl
    |true=>have h1:=QP (Aq3 h j)<|o x q;rw[(Yn hq).2]at h1;cases h1
def Aem{c:J}:∀{l:List J},(∀x∈l,isC c.D0 c.I0 x=B)->Hq c B l=l.take (Bg c l)++[c]++l.drop (Bg c l)
 |[],_=>rfl
 |e::t,h=>by
  simp only[Hq,Bg];cases g:Bv e c with
  |true=>rw[Als g,Aem λx j=>h x<|L_ _ j];simp
  |false=>rw[Aq3 (h e<|H_ ..) g,Vv];simp
def Alk{c:J}(hs:Bo l)(h:FX c l=B):∀x∈l,isC c.D0 c.I0 x=B:=by
 have h1:=RA (c:=c) 0 hs;rw[h,H]at h1;rcases XX c.D0 c.I0 l 0 with⟨_,g⟩|⟨k,_,g,_⟩
 .exact g
 .rw[h1]at g;omega
def BK(F D:Int):J:=⟨F,D,0,0,B⟩
def Alj{i j:Nat}(h:i+j<9223372036854775808):W.wrap (aV (aC bB<|aC W<|(i:Int)+(j:Int))<|(2:Int)^(aR (aB (1:Int))<|IntKind.bits bB))=(((i+j)/2:Nat):Int):=by rw[Aa (n:=i+j) ω ω,Ih ω ω];rw[show((2:Int)^(aR _ _))=2 from rfl];rw[R_ _ ω];rw[Aa ω ω];omega
def Atz(hs:Bo l)(w:l.length<=100000)(F D:Int):
  AQ ((l,(),(),(l.length:Int),(0:Int),(l.length:Int),()),((F,D,0,0,B,()),()))=C ((l,(),(),(l.length:Int),((Bg (BK F D) l:Nat):Int),()),((F,D,0,0,B,()),())):=by
 refine Bkd (λx y=>∃i j:Nat,i<=Bg (BK F D) l/\Bg (BK F D) l<=j/\j<=l.length/\x=((l,(),(),(l.length:Int),(i:Int),(j:Int),()),((F,D,0,0,B,()),()))/\y=((l,(),(),(l.length:Int),((Bg _ l:Nat):Int),()),((F,D,0,0,B,()),()))) (λx=>x.1.2.2.2.2.2.1.toNat-x.1.2.2.2.2.1.toNat) ?_ ⟨0,l.length,Q_ _,Xa _ _,q_ _,rfl,rfl⟩ (by show((l.length:Int).toNat-aB 0)<_;omega);rintro _ _ ⟨i,j,h1,v,u,rfl,rfl⟩;show(∃x',Av l (l.length:Int) (i:Int) (j:Int) F D 0 0 B=_/\_)\/Av l (l.length:Int) (i:Int) (j:Int) F D 0 0 B=_;unfold Av;rw[Alj ω];by_cases o:i<j
 .left;have hh:(i+j)/2<l.length:=ω;obtain⟨n,c1,q,_⟩:=Qq (l.getD ((i+j)/2) noE)<|BK F D;unfold BK at c1;unfold noE at c1;simp only[U (ω:(i:Int)<(j:Int)),Ac ω (ω:(((i+j)/2:Nat):Int)<l.length),l_,c1,O];have g:decide (n<0)=Bv (l.getD ((i+j)/2) noE) (BK F D):=by rw[Apv,q,Bool.not_not]
  rw[g];cases hq:Bv _ _ with
  |true=>
   have:(i+j)/2<Bg (BK F D) l:=by
    rcases f2_ _ _ with h|h
    .exact h
    .have:=Aj5 hs _ h hh
     rw[hq]at this;cases this
   rw[ show W.wrap _=(((i+j)/2+1:Nat):Int)by rw[Aa ω ω];omega];exact⟨_,rfl,⟨(i+j)/2+1,j,ω,v,u,rfl,trivial⟩,by show aB j-aB (((i+j)/2+1:Nat):Int)<aB j-aB i;omega⟩
  |false=>
   have:Bg (BK F D) l<=(i+j)/2:=by
    rcases f2_ _ _ with h|h
    .have:=Aj6 (BK F D) l _ h
     rw[hq]at this;cases this
    .exact h
   exact⟨_,rfl,⟨i,(i+j)/2,h1,this,ω,rfl,trivial⟩,by show aB (((i+j)/2:Nat):Int)-aB i<aB j-aB i;omega⟩
 .right;rw[Z (ω:¬(i:Int)<(j:Int)),show i=Bg (BK F D) l by omega];rfl
def Ade(m:Img)(hs:Bo m.A0)(g:m.A0.length<=100000)(F D:Int):OG m.F0 m.L0 m.H0 m.A0 F D=C ((((Bg (BK F D) m.A0:Nat):Int),FX (BK F D) m.A0,()),()):=by
 unfold OG AS;simp only;rw[Atz hs g F D];simp only[O];unfold FX;by_cases h:Bg (BK F D) m.A0<m.A0.length
 .obtain⟨n,c1,_,j⟩:=Qq _ _;rw[U ω,Ac ω ω,l_,show Nat.blt _ m.A0.length=E by rw[d9_];exact h];have e:(n==0)=isC (BK F D).D0 (BK F D).I0 (m.A0.getD (Bg (BK F D) m.A0) noE):=by
   rw[Bool.eq_iff_iff,a1_,j];unfold isC;rw[a_,a1_,a1_]
  rw[<-e];generalize Bg _ m.A0=p at*;unfold noE at c1;unfold BK at c1;simp only[V,c1,O,c1_]
 .rw[Z ω,show Nat.blt _ m.A0.length=B by rw[<-Bool.not_eq_true,d9_];exact h];rfl
def Bbo(x:J)(e:J):Bv x (BK e.D0 e.I0)=Bv x e:=rfl
def UC(e:J):∀l:List J,Bg (BK e.D0 e.I0) l=Bg e l
 |[]=>rfl
 |x::t=>by simp only[Bg,Bbo,UC e t]
def Zd(hs:Bo m.A0)(F:m.A0.length<=100000)(r:aA)(hc:(r.R0=4\/r.R0=5\/r.R0=6)->0<=r.S0/\r.S0<(m.F0.length:Int)/\r.S0<(m.L0.length:Int)/\r.S0<(m.H0.length:Int)):
  LR r.R0 r.D0 r.I0 r.S0 r.M2 m.F0 m.L0 m.H0 m.A0=C ((),((AA m r).tup,())):=by
 unfold LR AA;rw[Ade m hs F];simp only[O];by_cases k4:r.R0=4
 .obtain⟨g,c1,o,u⟩:=hc<|.inl k4;rw[k4];simp only[ Ac g c1];rfl
 rw[At k4];by_cases j:r.R0=5
 .obtain⟨g,c1,o,u⟩:=hc<|.inr<|.inl j;rw[j];simp only[ Ac g o];rfl
 rw[At j];by_cases v:r.R0=6
 .obtain⟨g,c1,o,u⟩:=hc<|.inr<|.inr v;rw[v];simp only[ Ac g u];rfl
 rw[At v];have hf:=RA (c:=BK r.D0 r.I0) 0 hs;simp only[m_]at hf;rw[show DN r.D0 r.I0 m.A0 0=_ from hf];have hp:=Xa (BK r.D0 r.I0) m.A0;cases hq:FX _ m.A0 with
 |false=>
  have A:=Alk hs hq;by_cases k1:r.R0=1
  .rw[k1];unfold DA Ajp;rw[ U (ω:((Bg (BK r.D0 r.I0) m.A0:Nat):Int)<=(m.A0.length:Int))];rw[ Am (by rw[D_];omega)];have D:=Aem (c:=⟨r.D0,r.I0,-1,0,B⟩) A;rw[D,show Bg ⟨r.D0,r.I0,-1,0,B⟩ m.A0=Bg _ m.A0 from(UC ⟨r.D0,r.I0,-1,0,B⟩ m.A0).symm];rfl
  .rw[At k1];cases r.R0==2<;>cases r.R0==3<;>cases r.R0==7<;>rfl
 |true=>
  have h:Bg (BK r.D0 r.I0) m.A0<m.A0.length:=by unfold FX at hq;rw[a_,d9_]at hq;exact hq.1
  simp only[ l_];generalize Bg _ m.A0=p at hp h|-;have w:W.wrap (p+1)=((p+1:Nat):Int):=by rw[Aa ω ω];omega
  have x:inB p m.A0.length=E:=Ac ω ω;by_cases k1:r.R0=1
  .simp only[k1,show _=B from rfl];rfl
  rw[At k1];cases r.R0==2 with
  |true=>unfold Dz Apw;simp only[ w,U (ω:p<((p+1:Nat):Int)),U (ω:((p+1:Nat):Int)<=m.A0.length),O];rfl
  |false=>
   cases r.R0==3 with
   |true=>simp only[ x];rfl
   |false=>
    cases r.R0==7 with
    |true=>
     have q:∀y:J,inB p (m.A0.set p y).length=E:=λy=>Ac ω (by rw[z_];omega);have z:∀y:J,(m.A0.set p y).getD p (Entry.mk 0 0 0 0 B)=y:=λy=>by simp[k_,h]
     simp only[ x,q,z,g2_];rfl
    |false=>rfl
def Aao(hb:b.small)(h:b.B0.length<=100)(m:Img)(hp:m.F0.length<=100000)(w:m.A0.length<=10000)(r:aA):
  Na b.C0 b.E0 b.J0 b.M0 b.K0 b.N0 b.O0 b.B0 m.F0 m.L0 m.H0 m.A0 r.R0 r.D0 r.I0 r.S0 r.M2=C (ZG b m r):=by
 have j:100000<=maxLen:=by decide
 unfold Na ZG;rw[CV hb m ω ω];cases g:m.ok b with
 |false=>rfl
 |true=>
  rw[PE hb h r];cases o:Ar b r with
  |false=>rfl
  |true=>
   have hm:=Img.ok_iff.1 g;have h1:=hm.lp;have u:=hm.lf;have v:=hm.ll;rw[Aar m hp ω ω ω];simp only[O,Img.tup];rw[Zd hm.so ω r λq=>by
    have:=Aih o q
    omega]
   rfl
def Aju(b:Bldg):Ns b.C0 b.E0 b.J0 b.M0 b.K0 b.N0 b.O0 b.B0=C (((),()),((bif b.code==0 then(Pw b).tup else Img.none.tup),())):=by
 unfold Ns;rw[Ap];simp only[O,bne];cases hc:b.code==0 with
 |false=>rfl
 |true=>
  have h:b.B0.length<=8:=by
   have g:b.code=0:=by simpa using hc
   unfold Bldg.code at g;cases h1:inR 1 8 b.B0.length with
   |true=>have:=(Ah.1 h1).2;omega
   |false=>rw[h1]at g;cases j:inR 2 32 b.C0<;>rw[j]at g<;>simp at g
  simp only[ U<|b8_ _,U (ω:(b.B0.length:Int)<=2147483648),c7_];rfl
def Bs6{a b:Nat}(h:a<=100000)(h':b<=100000):W.wrap (aC W (18*W.wrap (aC W ((a:Int)+(b:Int))+1))+6)=18*((a:Int)+(b:Int)+1)+6:=by rw[Aa (n:=a+b) ω ω,Aa (n:=a+b+1) ω ω,Aa (n:=18*(a+b+1)) ω ω,Aa ω ω]
def QT(b:Bldg)(m:Img):Bool:=m.ok b&&decide (18*((b.B0.length:Int)+(m.A0.length:Int)+1)+6<=b.J0)
def Add(hb:b.small)(m:Img)(hc:b.B0.length<=100000)(hp:m.F0.length<=100000)(h:m.A0.length<=100000):
  Mt b.C0 b.E0 b.J0 b.M0 b.K0 b.N0 b.O0 b.B0 m.F0 m.L0 m.H0 m.A0=C ((QT b m,()),()):=by
 have g:100000<=maxLen:=by decide
 unfold Mt QT;rw[CV hb m ω ω];simp only[ Bs6 hc h];cases m.ok b<;>rfl
def Pl(p:Nat->Bool):Nat->Nat->Bool
 |0,_=>E
 |m+1,i=>p i&&Pl p m (i+1)
def RD{X Y:Type}{step:X->Option (Sum X Y)}(N:Nat)(g:Nat->X)(p:Nat->Bool)(j o:Y)(h1:∀i,i<N->step (g i)=C (bif p i then .inl (g<|i+1)else .inr o))(q:step (g N)=C (.inr j)) :
  ∀m i:Nat,i+m=N->aE step (m+1) (g i)=C (bif Pl p m i then j else o)
 |0,i,u=>by obtain rfl:i=N:=ω;exact Ax q
 |m+1,i,u=>by
  have h:=h1 i ω;simp only[Pl];cases hp:p i with
  |true=>rw[hp]at h;rw[Aq h];exact RD N g p j o h1 q m (i+1) ω
  |false=>rw[hp]at h;rw[Ax h];rfl
def At6{α:Type}(f:α->α->Bool)(hf:∀x y,f x y=E↔x=y)(d:α)(a b:List α)(g:a.length=b.length):∀m i:Nat,i+m=a.length->(Pl (λi=>f (a.getD i d)<|b.getD i d) m i=E↔a.drop i=b.drop i)
 |0,i,h=>by obtain rfl:i=a.length:=ω;rw[b1_,g,b1_];exact⟨λ_=>rfl,λ_=>rfl⟩
 |m+1,i,h=>by simp only[Pl,a_,hf];rw[At6 f hf d a b g m (i+1) ω,BS d (ω:i<a.length),BS d (ω:i<b.length),List.cons.injEq]
def Bek(f:α->α->Bool)(hf:∀x y,f x y=E↔x=y)(d:α){a b:List α}(g:a.length=b.length):Pl (λi=>f (a.getD i d)<|b.getD i d) a.length 0=@decide (a=b) (Classical.propDecidable _):=by rw[Bool.eq_iff_iff,At6 f hf d a b g a.length 0 ω];simp
noncomputable def eqL{α:Type}(a b:List α):Bool:=@decide (a=b)<|Classical.propDecidable _
def Ab2{a b:List α}(h:¬a.length=b.length):eqL a b=B:=by
 have:¬a=b:=λe=>h (by rw[e])
 unfold eqL;simp[this]
def Bfb(a:List α):eqL a a=E:=by unfold eqL;simp
def Agj(f:α->α->Bool)(hf:∀x y,f x y=E↔x=y)(d:α){a b:List α}(g:a.length=b.length):Pl (λi=>f (a.getD i d)<|b.getD i d) a.length 0=eqL a b:=Bek f hf d g
def Ag6(a b:List α):(((a.length:Int) !=(b.length:Int))=E)↔¬a.length=b.length:=by simp;omega
def Agi(x y:J):Bool:=(x.D0==y.D0)&&((x.I0==y.I0)&&((x.S0==y.S0)&&((x.H1==y.H1)&&((x.Z1==y.Z1)&&E))))
def Bba(x y:J):Agi x y=E↔x=y:=by cases x;cases y;simp[Agi]
def Adw [BEq α][LawfulBEq α](x y:α):(x==y)=E↔x=y:=a1_
def Df:Nat:=10000000
def FJ{i n:Nat}(h:i<n)(g:n<=Df):W.wrap ((i:Int)+1)=((i+1:Nat):Int):=by unfold Df at g;rw[Aa ω ω];omega
structure Img.fit(m:Img):Prop where
 p:m.F0.length<=100000
 f:m.L0.length<=100000
 l:m.H0.length<=100000
 e:m.A0.length<=100000
noncomputable def An2(a c:Img):Bool:=eqL a.F0 c.F0&&(eqL a.L0 c.L0&&(eqL a.H0 c.H0&&eqL a.A0 c.A0))
def Ax7(a:Img):An2 a a=E:=by unfold An2;simp[Bfb]
section
variable{a c:Img}(ha:a.fit)
include ha
theorem Aj9(g:a.F0.length=c.F0.length):OQ (((),(),(0:Int),()),(a.tup,c.tup,()))=C (bif eqL a.F0 c.F0 then .inl (((),(),()),(a.tup,c.tup,()))else .inr ((B,()),())):=by
 have hs:=ha.p;have o:100000<=Df:=by decide
 have h:=Aj (RD (step:=λx=>letI b:=x.2.2.1;JS x.1.2.2.1 x.2.1.1 x.2.1.2.1 x.2.1.2.2.1 x.2.1.2.2.2.1 b.1 b.2.1 b.2.2.1 b.2.2.2.1) a.F0.length (λi=>(((),(),i,()),(a.tup,c.tup,()))) (λi=>a.F0.getD i 0==c.F0.getD i 0) _ _ (λi j=>by
  show JS _ a.F0 a.L0 a.H0 a.A0 c.F0 c.L0 c.H0 c.A0=_;unfold JS;simp only[U (ω:i<(a.F0.length:Int)),Ac ω (ω:(i:Int)<a.F0.length),Ac ω (ω:(i:Int)<c.F0.length),l_,FJ j ω,bne];cases a.F0.getD i 0==c.F0.getD i 0<;>rfl) (by
  show JS _ a.F0 a.L0 a.H0 a.A0 c.F0 c.L0 c.H0 c.A0=_;unfold JS;simp only[Z<|a0_ _];rfl) a.F0.length 0 ω) ω
 rw[Agj _ Adw 0 g]at h;exact h
theorem Aka(g:a.L0.length=c.L0.length):OR (((),(),(0:Int),()),(a.tup,c.tup,()))=C (bif eqL a.L0 c.L0 then .inl (((),(),()),(a.tup,c.tup,()))else .inr ((B,()),())):=by
 have hs:=ha.f;have o:100000<=Df:=by decide
 have h:=Aj (RD (step:=λx=>letI b:=x.2.2.1;JT x.1.2.2.1 x.2.1.1 x.2.1.2.1 x.2.1.2.2.1 x.2.1.2.2.2.1 b.1 b.2.1 b.2.2.1 b.2.2.2.1) a.L0.length (λi=>(((),(),i,()),(a.tup,c.tup,()))) (λi=>a.L0.getD i B==c.L0.getD i B) _ _ (λi j=>by
  show JT _ a.F0 a.L0 a.H0 a.A0 c.F0 c.L0 c.H0 c.A0=_;unfold JT;simp only[U (ω:i<(a.L0.length:Int)),Ac ω (ω:(i:Int)<a.L0.length),Ac ω (ω:(i:Int)<c.L0.length),l_,FJ j ω];cases a.L0.getD i B==c.L0.getD i B<;>rfl) (by
  show JT _ a.F0 a.L0 a.H0 a.A0 c.F0 c.L0 c.H0 c.A0=_;unfold JT;simp only[Z<|a0_ _];rfl) a.L0.length 0 ω) ω
 rw[Agj _ Adw B g]at h;exact h
theorem Akb(g:a.H0.length=c.H0.length):OS (((),(),(0:Int),()),(a.tup,c.tup,()))=C (bif eqL a.H0 c.H0 then .inl (((),(),()),(a.tup,c.tup,()))else .inr ((B,()),())):=by
 have hs:=ha.l;have o:100000<=Df:=by decide
 have h:=Aj (RD (step:=λx=>letI b:=x.2.2.1;JU x.1.2.2.1 x.2.1.1 x.2.1.2.1 x.2.1.2.2.1 x.2.1.2.2.2.1 b.1 b.2.1 b.2.2.1 b.2.2.2.1) a.H0.length (λi=>(((),(),i,()),(a.tup,c.tup,()))) (λi=>a.H0.getD i B==c.H0.getD i B) _ _ (λi j=>by
  show JU _ a.F0 a.L0 a.H0 a.A0 c.F0 c.L0 c.H0 c.A0=_;unfold JU;simp only[U (ω:i<(a.H0.length:Int)),Ac ω (ω:(i:Int)<a.H0.length),Ac ω (ω:(i:Int)<c.H0.length),l_,FJ j ω];cases a.H0.getD i B==c.H0.getD i B<;>rfl) (by
  show JU _ a.F0 a.L0 a.H0 a.A0 c.F0 c.L0 c.H0 c.A0=_;unfold JU;simp only[Z<|a0_ _];rfl) a.H0.length 0 ω) ω
 rw[Agj _ Adw B g]at h;exact h
theorem Akc(g:a.A0.length=c.A0.length):OT (((),(),(0:Int),()),(a.tup,c.tup,()))=C (bif eqL a.A0 c.A0 then .inl ((),())else .inr ((B,()),())):=by
 have hs:=ha.e;have o:100000<=Df:=by decide
 have h:=Aj (RD (step:=λx=>letI b:=x.2.2.1;JV x.1.2.2.1 x.2.1.1 x.2.1.2.1 x.2.1.2.2.1 x.2.1.2.2.2.1 b.1 b.2.1 b.2.2.1 b.2.2.2.1) a.A0.length (λi=>(((),(),i,()),(a.tup,c.tup,()))) (λi=>Agi (a.A0.getD i noE)<|c.A0.getD i noE) (aT ((),())) _ (λi j=>by
  show JV _ a.F0 a.L0 a.H0 a.A0 c.F0 c.L0 c.H0 c.A0=_;unfold JV Agi noE;simp only[U (ω:i<(a.A0.length:Int)),Ac ω (ω:(i:Int)<a.A0.length),Ac ω (ω:(i:Int)<c.A0.length),l_,FJ j ω];generalize((a.A0.getD i _).D0==(c.A0.getD i _).D0&&((a.A0.getD i _).I0==(c.A0.getD i _).I0&&((a.A0.getD i _).S0==(c.A0.getD i _).S0&&((a.A0.getD i _).H1==(c.A0.getD i _).H1&&((a.A0.getD i _).Z1==(c.A0.getD i _).Z1&&E)))))=q;cases q<;>rfl) (by
  show JV _ a.F0 a.L0 a.H0 a.A0 c.F0 c.L0 c.H0 c.A0=_;unfold JV;simp only[Z<|a0_ _,H]) a.A0.length 0 ω) ω
 rw[Agj Agi Bba noE g]at h;exact h
theorem Atu:SB a.F0 a.L0 a.H0 a.A0 c.F0 c.L0 c.H0 c.A0=C ((An2 a c,()),()):=by
 unfold SB An2;by_cases h0:a.F0.length=c.F0.length
 .rw[show((a.F0.length:Int) !=(c.F0.length:Int))=B by simp[h0]];by_cases h1:a.L0.length=c.L0.length
  .rw[show((a.L0.length:Int) !=(c.L0.length:Int))=B by simp[h1]];by_cases g:a.H0.length=c.H0.length
   .rw[show((a.H0.length:Int) !=(c.H0.length:Int))=B by simp[g]];by_cases h:a.A0.length=c.A0.length
    .rw[show((a.A0.length:Int) !=(c.A0.length:Int))=B by simp[h]];have q:=Aj9 ha h0;have o:=Aka ha h1;have u:=Akb ha g;have j:=Akc ha h;simp only[Img.tup]at q o u j;rw[q];cases eqL a.F0 c.F0
     .rfl
     simp only[O,V,o];cases eqL a.L0 c.L0
     .rfl
     simp only[O,V,u];cases eqL a.H0 c.H0
     .rfl
     simp only[ V,j];cases eqL a.A0 c.A0<;>rfl
    .rw[(Ag6 _ _).2 h,Ab2 h];simp
   .rw[(Ag6 _ _).2 g,Ab2 g];simp
  .rw[(Ag6 _ _).2 h1,Ab2 h1];simp
 .rw[(Ag6 _ _).2 h0,Ab2 h0];simp
end
def Yt(g:Bool):Int:=bif g then 1 else 0
def Ze(g:Bool):JJ g=C ((Yt g,()),()):=by unfold JJ Yt;cases g<;>rfl
def Tj(m:Img)(i:Nat):List aA:=[⟨4,0,0,i,m.F0.getD i 0⟩,⟨5,0,0,i,Yt<|m.L0.getD i B⟩,⟨6,0,0,i,Yt<|m.H0.getD i B⟩]
def QV(e:J):List aA:=[⟨1,e.D0,e.I0,0,0⟩,⟨3,e.D0,e.I0,e.S0,0⟩,⟨7,e.D0,e.I0,Yt e.Z1,e.H1⟩]
def FF(m:Img):List aA:=(aL 0 m.F0.length).flatMap (Tj m)++m.A0.flatMap QV
def Mg{α:Type}(f:Nat->List α):∀(k i:Nat) (s:List α),Bd (λi s=>s++f i) k i s=s++(aL i k).flatMap f
 |0,i,s=>by simp[Bd]
 |k+1,i,s=>by simp only[Bd];rw[Mg f k<|i+1,e0_,a2_,G_]
def PD{α β:Type}(f:α->List β)(d:α):∀(l:List α) (i k:Nat),i+k=l.length->(aL i k).flatMap (λi=>f<|l.getD i d)=(l.drop i).flatMap f
 |l,i,0,h=>by obtain rfl:i=l.length:=ω;simp
 |l,i,k+1,h=>by rw[e0_,a2_,PD f d l (i+1) k ω,BS d (ω:i<l.length),a2_]
def Aw4(l:List J):(aL 0 l.length).flatMap (λi=>QV<|l.getD i noE)=l.flatMap QV:=by rw[PD QV noE l 0 l.length ω,d3_]
section
variable{m:Img}(hf:m.fit)
include hf
theorem Aaq{out:List aA}(w:out.length<=300000):KC (((),m.A0,(m.A0.length:Int),(0:Int),()),((out,()),()))=C (((),()),((out++m.A0.flatMap QV,()),())):=by
 have y:=hf.e;have h:=BN (step:=λx=>KE x.1.2.1 x.1.2.2.1 x.1.2.2.2.1 x.2.1.1) m.A0.length (λi s=>(((),m.A0,m.A0.length,i,()),((s,()),()))) (λi s=>s++QV (m.A0.getD i noE)) (λi s=>s.length=out.length+3*i) (λs=>(((),()),((s,()),()))) (λi s u hs=>by
  refine⟨?_,by rw[e_,hs];show _+3=_;omega⟩;have q:∀r:aA,aP (s.length+[r].length) 2147483648=E:=λr=>Am (by rw[D_];omega);have o:∀r j:aA,aP ((s++[r]).length+[j].length) 2147483648=E:=λr j=>Am (by rw[e_,D_,D_];omega);have v:∀r j g:aA,aP ((s++[r]++[j]).length+[g].length) 2147483648=E:=λr j g=>Am (by rw[e_,e_,D_,D_,D_];omega);unfold KE HT;simp only[U (ω:i<(m.A0.length:Int)),Ac ω (ω:(i:Int)<m.A0.length),V,Ze,O,q,o,v,FJ u (by unfold Df;omega)];simp only[G_];rfl) (λs _=>by
  unfold KE;simp only[Z<|a0_ _,H]) m.A0.length 0 out ω rfl
 have h':=Aj h.1 ω;rw[Mg,Aw4]at h';exact h'
theorem Aap(h1:m.L0.length=m.F0.length)(w:m.H0.length=m.F0.length):KB (((),(),(m.F0.length:Int),(0:Int),()),(m.tup,(([]:List aA),()),()))=C (((),(),()),(m.tup,((aL 0 m.F0.length).flatMap<|Tj m,()),())):=by
 have y:=hf.p;have h:=BN (step:=λx=>Gu x.1.2.2.1 x.1.2.2.2.1 x.2.1.1 x.2.1.2.1 x.2.1.2.2.1 x.2.1.2.2.2.1 x.2.2.1.1) m.F0.length (λi s=>(((),(),m.F0.length,i,()),(m.tup,(s,()),()))) (λi s=>s++Tj m i) (λi s=>s.length=3*i) _ (λi s u hs=>by
  refine⟨?_,by rw[e_,hs];show _+3=_;omega⟩;show Gu _ _ m.F0 m.L0 m.H0 m.A0 s=_;have q:∀r:aA,aP (s.length+[r].length) 2147483648=E:=λr=>Am (by rw[D_];omega);have o:∀r j:aA,aP ((s++[r]).length+[j].length) 2147483648=E:=λr j=>Am (by rw[e_,D_,D_];omega);have v:∀r j g:aA,aP ((s++[r]++[j]).length+[g].length) 2147483648=E:=λr j g=>Am (by rw[e_,e_,D_,D_,D_];omega);unfold Gu HS;simp only[U (ω:i<(m.F0.length:Int)),Ac ω (ω:(i:Int)<m.F0.length),Ac ω (ω:(i:Int)<m.L0.length),Ac ω (ω:(i:Int)<m.H0.length),V,Ze,O,q,o,v,FJ u (by unfold Df;omega)];simp only[G_];rfl) (λs _=>by
  show Gu _ _ m.F0 m.L0 m.H0 m.A0 s=_;unfold Gu;simp only[Z<|a0_ _];rfl) m.F0.length 0 [] ω rfl
 have h':=Aj h.1 ω;rw[Mg]at h';exact h'
end
def Um{α β:Type}(f:α->List β)(hf:∀x,(f x).length=3):∀l:List α,(l.flatMap f).length=3*l.length
 |[]=>rfl
 |a::t=>by rw[a2_,e_,hf,Um f hf t,s_];omega
def Ama(m:Img)(n:Nat):((aL 0 n).flatMap<|Tj m).length=3*n:=by rw[Um _ λ_=>rfl,List.length_range']
def Amc(m:Img):(FF m).length=3*(m.F0.length+m.A0.length):=by unfold FF;rw[e_,Ama,Um _ λ_=>rfl];omega
def An4(b:Bldg)(m:Img):List aA:=bif m.ok b then FF m else []
section
variable{b:Bldg}(hb:b.small){m:Img}(hf:m.fit)
include hb hf
theorem Aha:Mu b.C0 b.E0 b.J0 b.M0 b.K0 b.N0 b.O0 b.B0 m.F0 m.L0 m.H0 m.A0=C ((An4 b m,()),()):=by
 have j:100000<=maxLen:=by decide
 have hp:=hf.p;have q:=hf.e;unfold Mu An4;rw[CV hb m ω ω];cases g:m.ok b with
 |false=>rfl
 |true=>have hm:=Img.ok_iff.1 g;have h:=Aap hf (by rw[hm.lf,hm.lp]) (by rw[hm.ll,hm.lp]);have o:=Aaq hf (out:=(aL 0 m.F0.length).flatMap<|Tj m) (by rw[Ama];omega);simp only[Img.tup]at h;simp only[ h,o,O];rfl
end
def EF(m:Img):∀(a c:List aA),Aw m (a++c)=Aw (Aw m a) c
 |[],_=>rfl
 |r::t,c=>by exact EF _ t c
def Akk(l:List α)(z d:α){n:Nat}(j:k<n)(h:l.length=n):(l.take k++aD (n-k) z).set k (l.getD k d)=l.take (k+1)++aD (n-(k+1)) z:=by
 have h1:(l.take k).length=k:=by rw[v_];omega
 rw[List.set_append_right _ _ ω,h1,Nat.sub_self,show n-k=(n-(k+1))+1 by omega,List.replicate_succ];have g:k<l.length:=ω;rw[show l.getD k d=l[k]by simp[g]];rw[List.take_succ_eq_append_getElem g,G_];rfl
def At7(m:Img)(a c d:aA):Aw m [a,c,d]=AA (AA (AA m a) c) d:=rfl
def Au6(g:Bool):(Yt g==1)=g:=by cases g<;>rfl
def At1{n:Nat}(g:k<n)(h1:m.F0.length=n)(j:m.L0.length=n)(q:m.H0.length=n):
  Aw ⟨m.F0.take k++aD (n-k) 0,m.L0.take k++aD (n-k) B,m.H0.take k++aD (n-k) B,[]⟩ (Tj m k)=⟨m.F0.take (k+1)++aD (n-(k+1)) 0,m.L0.take (k+1)++aD (n-(k+1)) B,m.H0.take (k+1)++aD (n-(k+1)) B,[]⟩:=by
 have o:=Akk m.F0 0 0 g h1;have u:=Akk m.L0 B B g j;have h:=Akk m.H0 B B g q;unfold Tj;rw[At7];unfold AA;simp only[show((4:Int)==4)=E from rfl,show((5:Int)==4)=B from rfl,show((5:Int)==5)=E from rfl,show((6:Int)==4)=B from rfl,show((6:Int)==5)=B from rfl,show((6:Int)==6)=E from rfl,V,H,l_,Au6,o,u,h]
def Al9{m:Img}{n:Nat}(h1:m.F0.length=n)(g:m.L0.length=n)(o:m.H0.length=n):∀j k:Nat,k+j=n->
  Aw ⟨m.F0.take k++aD (n-k) 0,m.L0.take k++aD (n-k) B,m.H0.take k++aD (n-k) B,[]⟩ ((aL k j).flatMap<|Tj m)=⟨m.F0,m.L0,m.H0,[]⟩
 |0,k,h=>by obtain rfl:k=n:=ω;rw[Nat.sub_self];simp only[List.replicate_zero,T_];rw[a8_ ω,a8_ ω,a8_ ω];rfl
 |j+1,k,h=>by rw[e0_,a2_,EF,At1 ω h1 g o];exact Al9 h1 g o j (k+1) ω
def Alb{F D:Int}{x:J}(g:isC F D x=E):∀(l:List J) (i:Nat),(∀e∈l,isC F D e=B)->DN F D (l++[x]) i=((i+l.length:Nat):Int)
 |[],i,_=>by simp[DN,g]
 |e::t,i,h=>by rw[List.cons_append];simp only[DN];rw[h e<|H_ ..,H,Alb g t (i+1) λy j=>h y<|L_ _ j,s_];congr 1;omega
def Aqn{x:J}:∀{l:List J},(∀e∈l,Bv x e=B)->Hq x B l=l++[x]
 |[],_=>rfl
 |e::t,h=>by simp only[Hq];rw[h e<|H_ ..,Aqn λy g=>h y<|L_ _ g];rfl
def At2(h:∀x∈m.A0,Bv x e=E):Aw m (QV e)=m.put (m.A0++[e]):=by
 have o:∀x∈m.A0,isC e.D0 e.I0 x=B:=λx g=>by
  cases hq:isC e.D0 e.I0 x with
  |false=>rfl
  |true=>
   have:=(Yn hq).1
   rw[h x g]at this;cases this
 have w:∀(c k:Int) (q:Bool),isC e.D0 e.I0 ⟨e.D0,e.I0,c,k,q⟩=E:=λc k q=>by unfold isC;simp
 have z:DN e.D0 e.I0 m.A0 0=-1:=XW o;have u:∀(c k:Int) (q:Bool),DN e.D0 e.I0 _ 0=(m.A0.length:Int):=λc k q=>by rw[Alb (w c k q) _ _ o,m_]
 have g1:∀x:J,(m.A0++[x]).getD m.A0.length noE=x:=λx=>by simp
 have v:∀x y:J,(m.A0++[x]).set m.A0.length y=m.A0++[y]:=λx y=>by rw[List.set_append_right _ _<|q_ _,Nat.sub_self];rfl
 have A:AA m ⟨1,e.D0,e.I0,0,0⟩=m.put (m.A0++[⟨e.D0,e.I0,-1,0,B⟩]):=by unfold AA;rw[z];simp only[show((1:Int)==4)=B from rfl,show((1:Int)==5)=B from rfl,show((1:Int)==6)=B from rfl,H,V,p_];rw[Aqn (x:=⟨e.D0,e.I0,-1,0,B⟩) λx g=>Als<|h x g]
 have j:(((m.A0.length:Int))==-1)=B:=At ω;have a2:AA (m.put<|m.A0++[⟨e.D0,e.I0,-1,0,B⟩]) ⟨3,e.D0,e.I0,e.S0,0⟩=m.put (m.A0++[⟨e.D0,e.I0,e.S0,0,B⟩]):=by unfold AA;simp only[Img.put,u,j,show((3:Int)==4)=B from rfl,show((3:Int)==5)=B from rfl,show((3:Int)==6)=B from rfl,show((3:Int)==2)=B from rfl,H,V,p_,l_,g1,v,Ahx]
 have a3:AA (m.put<|m.A0++[⟨e.D0,e.I0,e.S0,0,B⟩]) ⟨7,e.D0,e.I0,Yt e.Z1,e.H1⟩=m.put (m.A0++[⟨e.D0,e.I0,e.S0,e.H1,e.Z1⟩]):=by unfold AA;simp only[Img.put,u,j,show((7:Int)==4)=B from rfl,show((7:Int)==5)=B from rfl,show((7:Int)==6)=B from rfl,show((7:Int)==2)=B from rfl,show((7:Int)==3)=B from rfl,H,V,p_,l_,g1,v,UI,Au6]
 unfold QV;rw[At7,A,a2,a3]
def Amb:∀(l:List J) (m:Img),Bo (m.A0++l)->Aw m (l.flatMap QV)=m.put (m.A0++l)
 |[],m,_=>by simp[Aw,Img.put]
 |e::t,m,h=>by
  have hp:=Ec.1 h;have g:=λx j=>(List.pairwise_append.1 hp).2.2 x j e<|H_ ..;rw[a2_,EF,At2 g];have o:Bo<|(m.put<|m.A0++[e]).A0++t:=by show Bo (m.A0++[e]++t);rw[G_];exact h
  rw[Amb t _ o];show m.put (m.A0++[e]++t)=_;rw[G_];rfl
def Ah1(h:ImgOK b m):Aw (Pw b) (FF m)=m:=by unfold FF;rw[EF];have h0:=Al9 h.lp h.lf h.ll b.B0.length 0 ω;simp only[List.take_zero,c5_,Nat.sub_zero]at h0;rw[h.lp];rw[show Pw b=⟨aD b.B0.length 0,aD b.B0.length B,aD b.B0.length B,[]⟩from rfl,h0,Amb _ _ (by exact h.so)];rfl
def Yu(g:Bool):0<=Yt g/\Yt g<=1:=by cases g<;>exact⟨τ,τ⟩
def YI(h:ImgOK b m):∀r∈FF m,Ar b r=E:=by
 have g:=h.code;intro r j;rcases n_.1 j with j|j
 .obtain⟨i,y,j⟩:=c0_.1 j;have q:i<m.F0.length:=by
   have:=List.mem_range'_1.1 y
   omega
  have hp:=h.ph _<|AE 0 q;have u:=h.lp;have o:∀k v:Int,Wf b ⟨k,0,0,i,v⟩=E:=λk v=>by unfold Wf;rw[Ah.2 ⟨show _<=(i:Int)by omega,show _<=(b.B0.length:Int)-1 by omega⟩];rfl
  unfold Tj at j;simp only[x_,g3_,or_false]at j;rcases j with rfl|rfl|rfl
  .unfold Ar;rw[g,o,Ah.2 hp];rfl
  .unfold Ar;rw[g,o,Ah.2<|Yu _];rfl
  .unfold Ar;rw[g,o,Ah.2<|Yu _];rfl
 .obtain⟨e,w,j⟩:=c0_.1 j;obtain⟨h1,z,x⟩:=FT.1<|h.en e w;unfold QV at j;simp only[x_,g3_,or_false]at j;rcases j with rfl|rfl|rfl
  .unfold Ar;rw[g,h1];rfl
  .unfold Ar;rw[g,h1,Ah.2 ⟨z.1,show e.S0<=b.B0.length-1 by omega⟩];rfl
  .unfold Ar;rw[g,h1,Ah.2<|Yu _,Ah.2 x];rfl
def Bgn(g:Int):Int:=aF.wrap<|1*2^min (aB g) (IntKind.bits .u32)
def Qs(g h:Int):Int×Int:=bif inR 0 31 g then(bif h==1 then(Bgn g,0)else bif h==2 then(0,Bgn g)else(0,0))else(0,0)
def orC(a c:Int):Int:=vb (bv a|||bv c)
def Bf7(a c:Int):Int:=vb<|bv a&&& ~~~ bv c
def FH(a c:Int×Int):Int×Int:=(orC a.1 c.1,orC a.2 c.2)
def Dt(a c:Int×Int):Int×Int:=(Bf7 a.1 c.1,Bf7 a.2 c.2)
def BP(c:Int×Int)(f:Nat)(d:Int):Bool:=bif d==1 then Jn c.1 f else bif d==2 then Jn c.2 f else B
def KO(c:Int×Int):Prop:=(0<=c.1/\c.1<4294967296)/\(0<=c.2/\c.2<4294967296)
def VQ(a c:Int×Int):KO<|FH a c:=⟨Of _,Of _⟩
def Alv(a c:Int×Int):KO<|Dt a c:=⟨Of _,Of _⟩
def US:KO (0,0):=⟨⟨τ,τ⟩,⟨τ,τ⟩⟩
def ZI(i:Nat):Jn 0 i=B:=by unfold Jn bv;simp
def Vj(f:Nat)(d:Int):BP (0,0) f d=B:=by unfold BP;simp only[ZI];cases d==1<;>cases d==2<;>rfl
def SM(a c:Int×Int)(f:Nat)(d:Int):BP (FH a c) f d=(BP a f d||BP c f d):=by unfold BP FH orC;simp only[Ao0,BitVec.getLsbD_or];cases d==1<;>cases d==2<;>rfl
def SK(a c:Int×Int)(hf:f<32)(d:Int):BP (Dt a c) f d=(BP a f d&&!BP c f d):=by unfold BP Dt Bf7;simp only[Ao0,bA,BitVec.getLsbD_not,hf,decide_true];cases d==1<;>cases d==2<;>rfl
def Xz{F D:Int}(o:0<=F/\F<32)(h:D=1\/D=2)(f:Nat)(j:d=1\/d=2):BP (Qs F D) f d=decide (((f:Int),d)=(F,D)):=by
 have hp:Jn (Bgn F) f=decide _:=Bjh ω f;have e:decide (((f:Int),d)=(F,D))=(aJ (f=F.toNat)&&decide (d=D)):=by
  rw[Bool.eq_iff_iff,a_,t_,t_,t_,e1_];constructor
  .rintro⟨h1,g⟩;exact⟨ω,g⟩
  .rintro⟨h1,g⟩;exact⟨ω,g⟩
 rw[e];unfold Qs BP;rw[Ah.2 ⟨o.1,show F<=31 by omega⟩];rcases h with rfl|rfl<;>rcases j with rfl|rfl
 .simp[hp]
 .simp[ZI]
 .simp[ZI]
 .simp[hp]
def Ban{a:Int×Int}(ha:KO a)(hc:KO c)(h:∀f:Nat,f<32->∀d:Int,(d=1\/d=2)->BP a f d=BP c f d):a=c:=by have h1:=At9 ha.1 hc.1 λi g=>h i g 1<|.inl rfl;have j:=At9 ha.2 hc.2 λi g=>h i g 2<|.inr rfl;exact Prod.ext h1 j
def Bh5(e:J):Prop:=(0<=e.D0/\e.D0<32)/\(e.I0=1\/e.I0=2)
def ofC:List J->Int×Int->Int×Int
 |[],c=>c
 |e::t,c=>ofC t<|FH c<|Qs e.D0 e.I0
def Me(c:Int×Int)(f:Nat):List J:=(bif BP c f 1 then [⟨(f:Int),1,-1,0,B⟩]else [])++(bif BP c f 2 then [⟨(f:Int),2,-1,0,B⟩]else [])
def XP(c:Int×Int)(f:Nat):(Me c f).length<=2:=by unfold Me;cases BP c f 1<;>cases BP c f 2<;>simp
def Hf(c:Int×Int):List J:=(aL 0 32).flatMap<|Me c
def Ahe:p∈(Me c f).map HZ↔p.1=(f:Int)/\(p.2=1\/p.2=2)/\BP c f p.2=E:=by
 obtain⟨a,d⟩:=p;unfold Me;rw[List.map_append,n_];have h:∀D:Int,(a,d)∈(bif BP c f D then [Entry.mk f D (-1) 0 B]else []).map HZ↔a=f/\d=D/\BP c f D=E:=λD=>by cases BP c f D<;>simp[HZ]
 rw[h,h];constructor
 .rintro(⟨h1,rfl,g⟩|⟨h1,rfl,g⟩)
  .exact⟨h1,.inl rfl,g⟩
  .exact⟨h1,.inr rfl,g⟩
 .rintro⟨h1,j,g⟩;rcases j with rfl|rfl
  .exact .inl ⟨h1,rfl,g⟩
  .exact .inr ⟨h1,rfl,g⟩
def mem_range{i:Nat}:p∈((aL i k).flatMap<|Me c).map HZ↔∃f:Nat,(i<=f/\f<i+k)/\p.1=(f:Int)/\(p.2=1\/p.2=2)/\BP c f p.2=E:=by
 constructor
 .intro h;obtain⟨e,g,rfl⟩:=b3_.1 h;obtain⟨f,hf,g⟩:=c0_.1 g;exact⟨f,List.mem_range'_1.1 hf,Ahe.1<|b3_.2 ⟨e,g,rfl⟩⟩
 .rintro⟨f,hf,h⟩;obtain⟨e,g,j⟩:=b3_.1<|Ahe.2 h;exact b3_.2 ⟨e,c0_.2 ⟨f,List.mem_range'_1.2 hf,g⟩,j⟩
def GO(h j:Int):CY h j=C (((),()),(((Qs h j).1,(Qs h j).2,()),())):=by
 unfold CY Qs inR;by_cases g:0<=h
 .by_cases o:h<32
  .rw[U g,U o,U ω];simp only[V,O,U g];cases j==1<;>cases j==2<;>rfl
  .rw[U g,Z o,Z ω];rfl
 .rw[Z g];rfl
def DZ(a c:Int×Int):Ci a.1 a.2 c.1 c.2=C (((),()),(((FH a c).1,(FH a c).2,()),())):=by unfold Ci;rw[Bhc,Bhc];rfl
def HL(a c:Int×Int):EA a.1 a.2 c.1 c.2=C (((),()),(((Dt a c).1,(Dt a c).2,()),())):=by unfold EA;rw[YQ,YQ];rfl
def JC(a c:Int×Int):Int×Int:=(vb<|bv a.1&&&bv c.1,vb<|bv a.2&&&bv c.2)
def Ao4(a c:Int×Int):KO<|JC a c:=⟨Of _,Of _⟩
def Hi(a c:Int×Int):Dk a.1 a.2 c.1 c.2=C (((),()),(((JC a c).1,(JC a c).2,()),())):=by unfold Dk;rw[Aii,Aii];rfl
def Rt(a c:Int×Int)(f:Nat)(d:Int):BP (JC a c) f d=(BP a f d&&BP c f d):=by unfold BP JC;simp only[Ao0,bA];cases d==1<;>cases d==2<;>rfl
def isZ(c:Int×Int):Bool:=(c.1==0)&&((c.2==0)&&E)
def Ajr(hc:KO c):isZ c=E↔∀f:Nat,f<32->∀d:Int,(d=1\/d=2)->BP c f d=B:=by
 constructor
 .intro h f _ d _;unfold isZ at h;simp only[a_,a1_]at h;obtain⟨h1,j,_⟩:=h;rw[show c=(0,0)from Prod.ext h1 j,Vj]
 .intro h
  have:c=(0,0):=Ban hc US λf hf d g=>by rw[h f hf d g,Vj]
  rw[this];rfl
def Pn(c:Int×Int){F D:Int}(o:0<=F/\F<32)(j:D=1\/D=2):DV c.1 c.2 F D=C ((BP c F.toNat D,()),()):=by
 unfold DV;rw[GO];simp only[O];rw[Hi c _];show C ((!(isZ _),()),())=_;have e:isZ (JC c<|Qs F D)=!BP c F.toNat D:=by
  cases h:BP c F.toNat D with
  |false=>
   refine(Ajr<|Ao4 _ _).2 λf hf d u=>?_;rw[Rt,Xz o j f u];by_cases g:((f:Int),d)=(F,D)
   .obtain⟨h1,v⟩:=Prod.mk.inj g;rw[show f=F.toNat by omega,v,h];rfl
   .rw[Z g,d4_]
  |true=>
   cases q:isZ _ with
   |false=>rfl
   |true=>
    have:=(Ajr<|Ao4 _ _).1 q F.toNat ω D j
    rw[Rt,Xz o j F.toNat j,h,U (by rw[Int.toNat_of_nonneg o.1])]at this;cases this
 rw[e,Bool.not_not]
def Di(b:Bldg):Int×Int:=(aC aF<|aC aF (1*2^min (aB<|b.C0-1) (IntKind.bits .u32))-1,aF.wrap<|aC aF (aC aF (1*2^min (aB<|b.C0-1) (IntKind.bits .u32))-1)*2^min (aB (1:Int)) (IntKind.bits .u32))
def EM(hb:b.small)(g:b.code=0):CX b.C0 b.E0 b.J0 b.M0 b.K0 b.N0 b.O0 b.B0=C (((),()),(((Di b).1,(Di b).2,()),())):=by have lo:=hb.lo;have h:=hb.hi;unfold CX Di;rw[Ap,g];simp only[O,P_,H,Aa (n:=b.C0-1) ω ω,U (ω:0<=b.C0-1),V]
def Anr(n:Nat):Int:=aF.wrap<|aC aF (1*2^min n (IntKind.bits .u32))-1
def Bfm:((List.range 9).all λn=>(List.range 32).all λi=>(Jn (Anr n) i==decide (i<n))&&(Jn (aC aF<|Anr n*2^min (aB 1) (IntKind.bits .u32)) i==(aJ (1<=i)&&decide (i<=n))))=E:=κ
def Uv(hb:b.small)(h:b.code=0)(hf:f<32)(o:d=1\/d=2):BP (Di b) f d=Au b (f:Int) d:=by
 have q:=hb.hi;have t:=F_.1 (F_.1 Bfm (b.C0-1).toNat<|List.mem_range.2 ω) f<|List.mem_range.2 hf;rw[a_,a1_,a1_]at t;unfold Au NE;rw[h];rcases o with rfl|rfl
 .have e:BP (Di b) f 1=Jn (Anr (b.C0-1).toNat) f:=rfl;rw[e,t.1];unfold inR;by_cases g:f<(b.C0-1).toNat
  .rw[U g,U (ω:(f:Int)<=b.C0-2)];rfl
  .rw[Z g,Z (ω:¬(f:Int)<=b.C0-2)];rfl
 .have e:BP (Di b) f 2=Jn (aC aF<|Anr (b.C0-1).toNat*2^min _ _) f:=rfl;rw[e,t.2];unfold inR;by_cases g:1<=f
  .rw[U g,U (ω:1<=(f:Int))];by_cases j:f<=(b.C0-1).toNat
   .rw[U j,U (ω:_<=b.C0-1)];rfl
   .rw[Z j,Z (ω:¬f<=b.C0-1)];rfl
  .rw[Z g,Z (ω:¬1<=(f:Int))];rfl
def MG(b:Bldg)(v:View):Int×Int:=bif v.L3 then JC (v.U3,v.A3) (Di b)else(0,0)
def Sq(hb:b.small)(g:b.code=0)(v:View):HR b.C0 b.E0 b.J0 b.M0 b.K0 b.N0 b.O0 b.B0 v.Z3 v.L3 v.N3 v.E4 v.D0 v.I0 v.C4 v.U3 v.A3 v.Z2 v.X1 v.N1=C (((),()),(((MG b v).1,(MG b v).2,()),())):=by
 unfold HR MG;cases v.L3 with
 |false=>rfl
 |true=>rw[EM hb g];simp only[ O];rw[Hi (v.U3,v.A3) _];rfl
def Af7{c:Int×Int}(h:Int->Int->Option ((Bool×Unit)×Unit))(hh:∀f:Nat,f<32->∀d:Int,(d=1\/d=2)->h (f:Int) d=C ((BP c f d,()),())):∀k i:Nat,i+k<=32->XG h (λf d=>Entry.mk f d (-1) 0 B) ((aL i k).flatMap λf:Nat=>[((f:Int),1),((f:Int),2)])=C ((aL i k).flatMap<|Me c)
 |0,_,_=>rfl
 |k+1,i,g=>by rw[e0_,a2_,a2_];show XG h _ ((i,1)::(i,2)::((aL (i+1) k).flatMap λf:Nat=>[(f,1),(f,2)]))=_;simp only[XG];rw[hh i ω 1<|.inl rfl,hh i ω 2<|.inr rfl,Af7 h hh k (i+1) ω];unfold Me;cases BP c i 1<;>cases BP c i 2<;>rfl
def Sb(c:Int×Int):JF c.1 c.2=C ((Hf c,()),()):=by
 unfold JF Aq7;have e:pairs64=(aL 0 32).flatMap λf:Nat=>[((f:Int),1),(f,2)]:=by unfold pairs64;rw[List.range_eq_range']
 have h:=Af7 _ (λf hf d g=>by have h:=Pn c (F:=f) ⟨ω,ω⟩ g;exact h) 32 0 ω;rw[e,h];rfl
end Go.Ovl
namespace Go.Ovl
open Go Go.Ab
variable{b:Bldg}{m:Img}{r:aA}{bud fl n room f c e:Int}{rs:List aA}{l t:List UInt8}{d:Bool}
structure Sto where
 h0:ByteArray
 h1:ByteArray
 sel:Int
def Sto.get(s:Sto)(half:Int):ByteArray:=if half=0 then s.h0 else s.h1
def Sto.set(s:Sto)(half:Int)(x:ByteArray):Sto:=if half=0 then { s with h0:=x }else { s with h1:=x }
def Sto.no:Sto:=⟨noB,noB,0⟩
def Sto.cur(s:Sto):ByteArray:=if s.sel=1 then s.h1 else s.h0
def Sto.ok(room:Int)(s:Sto):Prop:=1<=room/\room<=65536/\s.h0.size<=room/\s.h1.size<=room/\(s.sel=0\/s.sel=1)
instance okSto_ti(room:Int)(s:Sto):Decidable (s.ok room):=by unfold Sto.ok;infer_instance
def Sto.chk(room:Int)(s:Sto)(half bud:Int):Int:=if s.ok room then if(half≠0/\half≠1)\/bud<0 then 2 else 0 else 1
def Sto.write(room:Int)(s:Sto)(half:Int)(d:ByteArray)(bud:Int):Sto×Int×Int:=
 if s.chk room half bud≠0 then(.no,0,s.chk room half bud)
 else if room<(s.get half).size+d.size then(.no,0,7)
 else if bud<d.size then(s.set half<|s.get half++d.extract 0 bud.toNat,0,8)
 else(s.set half<|s.get half++d,bud-d.size,0)
def Sto.act(room:Int)(s:Sto)(half bud:Int)(t:Sto):Sto×Int×Int:=if s.chk room half bud≠0 then(.no,0,s.chk room half bud)else if bud=0 then(s,0,8)else(t,bud-1,0)
def Sto.erase(room:Int)(s:Sto)(half bud:Int):Sto×Int×Int:=s.act room half bud<|s.set half noB
def Sto.choose(room:Int)(s:Sto)(half bud:Int):Sto×Int×Int:=s.act room half bud { s with sel:=half }
def Sto.out(r:Sto×Int×Int):(Unit×Int×Int×Unit)×((ByteArray×ByteArray×Int×Unit)×Unit):=(((),(r.2.1,(r.2.2,()))),((r.1.h0,(r.1.h1,(r.1.sel,()))),()))
def GK(room:Int)(h0 h1:ByteArray)(sel:Int):Ej room h0 h1 sel=C ((aJ<|Sto.ok room ⟨h0,h1,sel⟩,()),()):=by
 unfold Ej Sto.ok;by_cases a:1<=room
 .by_cases b:room<=65536
  .by_cases c:h0.size<=room
   .by_cases d:h1.size<=room
    .by_cases e:sel=0
     .simp[a,b,c,d,e]
     .by_cases f:sel=1<;>simp[a,b,c,d,e,f,At]
    .simp[a,b,c,d]
   .simp[a,b,c]
  .simp[a,b]
 .simp[a]
def NO(room:Int)(h0 h1:ByteArray)(sel half bud:Int):IB room h0 h1 sel half bud=C ((Sto.chk room ⟨h0,h1,sel⟩ half bud,()),()):=by
 unfold IB Sto.chk;rw[GK];by_cases a:Sto.ok room ⟨h0,h1,sel⟩
 .by_cases b:half=0
  .by_cases c:bud<0<;>simp[a,b,c]
  .by_cases d:half=1
   .by_cases c:bud<0<;>simp[a,c,d]
   .simp[a,b,d,Jc]
 .simp[a]
def Ad3{s:Sto}{half:Int}(h:s.chk room half bud=0):s.ok room/\(half=0\/half=1)/\0<=bud:=by
 unfold Sto.chk at h;split at h
 .split at h
  .cases h
  .rename_i h1 g;refine⟨h1,?_,?_⟩<;>omega
 .cases h
def TC(room:Int)(h0 h1:ByteArray)(sel half:Int)(d:ByteArray)(bud:Int)(hb:bud<9223372036854775808) :
  KZ room h0 h1 sel half d bud=C (Sto.out<|Sto.write room ⟨h0,h1,sel⟩ half d bud):=by
 unfold KZ Sto.write;rw[NO];generalize hc:Sto.chk room ⟨h0,h1,sel⟩ half bud=c;by_cases h:c=0
 .subst h;obtain⟨⟨o1,o2,o3,o4,F⟩,hh,y⟩:=Ad3 hc;have hin:inB half 2=E:=Ac ω ω;have A:(List.getD [h0,h1] half.toNat noB)=Sto.get ⟨h0,h1,sel⟩ half:=by
   rcases hh with rfl|rfl<;>rfl
  have w:((Sto.get ⟨h0,h1,sel⟩ half).size:Int)<=room:=by rcases hh with rfl|rfl<;>simpa[Sto.get]
  have j:∀x:ByteArray,((bif Nat.beq half.toNat 0 then x else h0),((bif Nat.beq half.toNat 1 then x else h1),(sel,())))=((Sto.set ⟨h0,h1,sel⟩ half x).h0,((Sto.set ⟨h0,h1,sel⟩ half x).h1,((Sto.set ⟨h0,h1,sel⟩ half x).sel,()))):=by intro x;rcases hh with rfl|rfl<;>rfl
  have v:(List.getD [h0,h1] half.toNat<|aK _)=Sto.get ⟨h0,h1,sel⟩ half:=A;simp only[ hin,v,j];generalize Sto.get ⟨h0,h1,sel⟩ half=g at w|-;rw[Aa ω ω];by_cases u:room<g.size+d.size
  .have e:decide (room-g.size<d.size)=E:=by simp;omega
   simp[e,u,Sto.out,Sto.no,noB]
  .have e:decide (room-g.size<d.size)=B:=by simp;omega
   by_cases o:bud<d.size
   .have D:decide (bud<d.size)=E:=by simpa using o
    have z:(aJ (0<=bud)&&decide (bud<=d.size))=E:=by simp;omega
    have q:aP (g.size+(d.extract 0 bud.toNat).size) 4611686018427387904=E:=by rw[Aed d ω];exact Am ω
    simp only[e,z,q,u,o,Sto.out];simp
   .have D:decide (bud<d.size)=B:=by simpa using o
    have q:aP (g.size+d.size) 4611686018427387904=E:=Am ω;rw[Aa ω ω];simp only[e,q,u,o,Sto.out];simp
 .simp[h,Sto.out,Sto.no,noB,Jc]
def Ayt(room:Int)(h0 h1:ByteArray)(sel half bud:Int)(hb:bud<9223372036854775808):Nz room h0 h1 sel half bud=C (Sto.out<|Sto.erase room ⟨h0,h1,sel⟩ half bud):=by
 unfold Nz Hh Sto.erase Sto.act;rw[NO];generalize hc:Sto.chk room ⟨h0,h1,sel⟩ half bud=c;by_cases h:c=0
 .subst h;obtain⟨_,hh,j⟩:=Ad3 hc;by_cases g:bud=0
  .simp[g,Sto.out]
  .have hin:=Ac ω ω;rw[Aa ω ω];have e:(bud==0)=B:=by simpa using g
   rcases hh with rfl|rfl<;>simp[hin,e,g,Sto.out,Sto.set,noB]<;>rfl
 .simp[h,Sto.out,Sto.no,noB,Jc]
def At4(room:Int)(h0 h1:ByteArray)(sel half bud:Int)(hb:bud<9223372036854775808):MD room h0 h1 sel half bud=C (Sto.out<|Sto.choose room ⟨h0,h1,sel⟩ half bud):=by
 unfold MD GL Sto.choose Sto.act;rw[NO];generalize hc:Sto.chk room ⟨h0,h1,sel⟩ half bud=c;by_cases h:c=0
 .subst h;obtain⟨_,hh,j⟩:=Ad3 hc;by_cases g:bud=0
  .simp[g,Sto.out]
  .unfold NN;rw[Aa ω ω];have e:(bud==0)=B:=by simpa using g
   simp[e,g,Sto.out]
 .simp[h,Sto.out,Sto.no,noB,Jc]
def Ra(h0 h1:ByteArray)(sel:Int):IR h0 h1 sel=C ((Sto.cur ⟨h0,h1,sel⟩,()),()):=by unfold IR Sto.cur;by_cases h:sel=1<;>simp[h,At]
def Fj:aU:=Debounced.mk 0 B B B B 0 0 0 0 0 0 0 0 0 0 0 0 0 0 0 0 0 0 0 0 0 0 0 0 0 0 0 0 0 0 0 0 0 0 0 0
def Ic:Duty:=aQ 0 0 0
def BD:aG:=NewCar.mk 0 0 0 0 0 B 0 0 0 0 0 0 0 B
def Aey:Loaded:=Loaded.mk 0
def Aj2:Calls:=Calls.mk 0 0
def KN:aO:=Belief.mk 0 0 0 [] 0 B
def Belief.tup(x:aO):Int×Int×Int×List Duty×Int×Bool×Unit:=(x.D0,x.I0,x.G1,x.B1,x.G3,x.A4,())
structure Mch where
 G0:Img
 W0:Sto
 J1:List Debounced
 Y0:List Belief
 B0:List NewCar
 E3:List Loaded
 K2:List Int
 F4:List Calls
 B4:Int
 I3:Int
 V2:Int
def Mch.tup(m:Mch):List Int×List Bool×List Bool×List J×ByteArray×ByteArray×Int×List aU×List aO×List aG×List Loaded×List Int×List Calls×Int×Int×Int×Unit:=(m.G0.F0,m.G0.L0,m.G0.H0,m.G0.A0,m.W0.h0,m.W0.h1,m.W0.sel,m.J1,m.Y0,m.B0,m.E3,m.K2,m.F4,m.B4,m.I3,m.V2,())
structure Mch.fit(m:Mch):Prop where
 im:m.G0.fit
 co:m.J1.length<=100000
 be:m.Y0.length<=100000
 du:∀x∈m.Y0,x.B1.length<=100000
 ca:m.B0.length<=100000
 lo:m.E3.length<=100000
 ex:m.K2.length<=100000
 li:m.F4.length<=100000
def bl(s:ByteArray):List UInt8:=s.data.toList
def Ub{a c:ByteArray}(h:bl a=bl c):a=c:=by apply ByteArray.ext;exact Array.toList_inj.1 h
def Ru(a c:ByteArray):bl (a++c)=bl a++bl c:=by simp[bl]
def WK(a:ByteArray)(i j:Nat):bl (a.extract i j)=((bl a).drop i).take (j-i):=by simp[bl]
def Gf(a:ByteArray):(bl a).length=a.size:=by simp[bl]
def Br9(l:List UInt8):bl ⟨l.toArray⟩=l:=by simp[bl]
def LZ(s:ByteArray)(i:Nat):Cr s i=(((bl s).getD i 0).toNat:Int):=by unfold Cr bl;simp[y_,k_]
def Ah6(r:Nat):Nat:=if 128<=r then(r*2%256)^^^7 else r*2%256
def it8:Nat->Nat->Nat
 |0,r=>r
 |k+1,r=>it8 k<|Ah6 r
def Anl(r x:Nat):Nat:=it8 8<|r^^^x
def YM(l:List UInt8):Nat:=l.foldl (λr x=>Anl r x.toNat) 0
def Ar6{r:Nat}(g:r<256):Ah6 r<256:=by
 unfold Ah6;split
 .exact e5_ (n:=8) ω τ
 .omega
def Bbn:∀(k:Nat) {r:Nat},r<256->it8 k r<256
 |0,_,h=>h
 |k+1,_,h=>Bbn k<|Ar6 h
def Ao6{r x:Nat}(h:r<256)(h':x<256):Anl r x<256:=Bbn 8<|e5_ (n:=8) h h'
def Bkw(l:List UInt8):∀r:Nat,r<256->l.foldl (λr x=>Anl r x.toNat) r<256:=by
 induction l with
 |nil=>exact λr h=>h
 |cons x t g=>intro r h;rw[List.foldl_cons];have j:=bC x;exact g _<|Ao6 h j
def Bkx(l:List UInt8):YM l<256:=Bkw l 0 ω
def Tt(h:0<=n)(h':n<256):aN.wrap n=n:=by simp only[aC,IntKind.signed,IntKind.bits];simp;omega
def Bqt{a c:Nat}(ha:a<256)(hc:c<256):aN.wrap (stk (a:Int) (c:Int)<|aS<|(aH (IntKind.bits .u8) (a:Int))^^^(aH (IntKind.bits .u8) (c:Int)))=((a^^^c:Nat):Int):=by have h:=e5_ (n:=8) ha hc;rw[Lc,BitVec.toNat_xor,a9_,a9_];rw[show((a)%((2^IntKind.bits .u8:Nat):Int)).toNat=a by simp only[IntKind.bits];omega,show((c)%((2^IntKind.bits .u8:Nat):Int)).toNat=c by simp only[IntKind.bits];omega];exact Tt ω ω
def Bax(s:ByteArray)(g h:Int){r k:Nat}(o:r<256)(j:k<8):Pe s (r:Int) g h (k:Int)=C (aT ((s,((Ah6 r:Nat):Int),g,h,((k+1:Nat):Int),()),())):=by
 unfold Pe;have w:W.wrap (k+1)=((k+1:Nat):Int):=by rw[Aa ω ω];omega
 have h0:aN.wrap (r*(2^(aR (aB 1)<|IntKind.bits aN)))=((r*2%256:Nat):Int):=by simp only[aC,IntKind.signed,IntKind.bits];simp
 have h1:aN.wrap ((aV r<|2^(aR (aB 7)<|IntKind.bits aN))*7)=(((if 128<=r then 7 else 0):Nat):Int):=by
  rw[show((2:Int)^(aR _ _))=128 from rfl,R_ _ ω];split
  .rw[show(r:Int)/128=1 by omega];rfl
  .rw[show(r:Int)/128=0 by omega];rfl
 simp only[U (ω:(k:Int)<8),V,h0,h1,w];rw[Bqt ω (by split<;>omega)];unfold Ah6;split
 .rfl
 .rw[Nat.xor_zero]
def Baw(s:ByteArray)(g o:Int){r:Nat}(j:r<256):OM ((s,(r:Int),g,o,(0:Int),()),())=C ((s,((it8 8 r:Nat):Int),g,o,()),()):=by have h:=BN (step:=λx=>Pe x.1.1 x.1.2.1 x.1.2.2.1 x.1.2.2.2.1 x.1.2.2.2.2.1) 8 (λk r=>((s,((r:Nat):Int),g,o,k,()),())) _ _ _ (λk r q j=>⟨Bax s g o j q,Ar6 j⟩) (λr _=>rfl) 8 0 r rfl j;have h':=h.1;exact Aj h' ω
def Wk{α β:Type}(f:β->α->β)(d:α):∀(l:List α) (k i:Nat) (s:β),i+k=l.length->Bd (λi s=>f s<|l.getD i d) k i s=(l.drop i).foldl f s
 |l,0,i,s,h=>by obtain rfl:i=l.length:=ω;simp[Bd]
 |l,k+1,i,s,h=>by have g:i<l.length:=ω;simp only[Bd];rw[Wk f d l k (i+1) _ ω,List.drop_eq_getElem_cons g,List.foldl_cons];simp[g]
def Ac7{s:ByteArray}(hs:s.size<=1000000):Ow s=C ((((YM (bl s):Nat):Int),()),()):=by
 have h:=BN (step:=λx=>Pd x.1.1 x.1.2.1 x.1.2.2.1 x.1.2.2.2.1) s.size (λi r=>((s,((r:Nat):Int),(s.size:Int),i,()),())) _ (λ_ r=>r<256) (λr=>(((r:Int),()),())) (λi r o j=>by
  have g:=bC<|(bl s).getD i 0;refine⟨?_,Ao6 j g⟩;have w:W.wrap (i+1)=((i+1:Nat):Int):=by rw[Aa ω ω];omega
  unfold Pd;simp only[U (ω:i<(s.size:Int)),Ac ω (ω:(i:Int)<s.size),l_,LZ];rw[Bqt j g,Baw s _ _<|e5_ j g,O,w];rfl) (λr _=>by
  unfold Pd;simp only[Z<|a0_ _,H]) s.size 0 0 ω ω
 have h':=Aj h.1 ω;rw[Wk (λr (x:UInt8)=>Anl r x.toNat) 0 (bl s) s.size 0 0 (by rw[Gf];omega)]at h';unfold Ow;rw[show OL ((s,0,(s.size:Int),0,()),())=_ from h'];rfl
def u8n(n:Int):UInt8:=UInt8.ofNat n.toNat
def Ts(h:0<=n/\n<256):((u8n n).toNat:Int)=n:=by unfold u8n;rw[UInt8.toNat_ofNat'];omega
def txt(l:List UInt8):ByteArray:=⟨l.toArray⟩
def La(l:List UInt8):bl (txt l)=l:=Br9 l
def Qv(l:List UInt8):(txt l).size=l.length:=by rw[<-Gf,La]
def Ase(l:List Int):EW l=txt (l.map u8n):=rfl
def Akg(r:aA):List UInt8:=[u8n r.R0,u8n r.D0,u8n r.I0,u8n<|r.S0+2,u8n r.M2]
def Da(r:aA):List UInt8:=Akg r++[u8n ((YM (Akg r):Nat):Int)]
def Ia(r:aA):(Da r).length=6:=rfl
def QL(hb:b.small){d:Int}(h:Au b f d=E):(0<=f/\f<100)/\(1<=d/\d<=2):=by have g:=hb.hi;unfold Au NE at h;simp only[a_,V_,a1_,Ah]at h;omega
structure RecOK(r:Record):Prop where
 k:1<=r.R0/\r.R0<=7
 f:0<=r.D0/\r.D0<100
 d:0<=r.I0/\r.I0<100
 c:-2<=r.S0/\r.S0<100
 v:0<=r.M2/\r.M2<256
def Adk(hb:b.small)(hc:b.B0.length<=100)(h:Ar b r=E):RecOK r:=by
 have j:=(Adj h).2;have g:(r.R0=4\/r.R0=5\/r.R0=6)->r.D0=0/\r.I0=0:=λhq=>by
  unfold Ar Wf at h;rcases hq with q|q|q
  all_goals
   rw[q]at h;simp only[show((4:Int)==1)=B from rfl,show((4:Int)==2)=B from rfl,show((4:Int)==3)=B from rfl,show((5:Int)==1)=B from rfl,show((5:Int)==2)=B from rfl,show((5:Int)==3)=B from rfl,show((5:Int)==4)=B from rfl,show((6:Int)==1)=B from rfl,show((6:Int)==2)=B from rfl,show((6:Int)==3)=B from rfl,show((6:Int)==4)=B from rfl,show((6:Int)==5)=B from rfl,p_,V,H,a_,a1_]at h;exact h.2.1.2
 rcases j with h1|h1|h1|h1|h1|h1|h1
 .have:=QL hb h1.2.1
  exact⟨ω,this.1,ω,ω,ω⟩
 .have:=QL hb h1.2.1
  exact⟨ω,this.1,ω,ω,ω⟩
 .have:=QL hb h1.2.1
  exact⟨ω,this.1,ω,ω,ω⟩
 .have:=g ω
  exact⟨ω,ω,ω,ω,ω⟩
 .have:=g ω
  exact⟨ω,ω,ω,ω,ω⟩
 .have:=g ω
  exact⟨ω,ω,ω,ω,ω⟩
 .have:=QL hb h1.2.1
  exact⟨ω,this.1,ω,ω,ω⟩
def Bte(h:RecOK r):EW [aN.wrap r.R0,aN.wrap r.D0,aN.wrap r.I0,aN.wrap<|aC W<|r.S0+2,aN.wrap r.M2]=txt (Akg r):=by obtain⟨h1,j,q,g,o⟩:=h;rw[Tt ω ω,Tt ω ω,Tt ω ω,Aa ω ω,Tt ω ω,Tt ω ω];rfl
def Qm(b:Bldg)(r:aA):ByteArray:=bif Ar b r then txt (Da r)else txt []
section
variable{b:Bldg}(hb:b.small)(hc:b.B0.length<=100)
include hb hc
theorem UD(r:aA):IN b.C0 b.E0 b.J0 b.M0 b.K0 b.N0 b.O0 b.B0 r.R0 r.D0 r.I0 r.S0 r.M2=C ((Qm b r,(bif Ar b r then 0 else 1),()),()):=by
 unfold IN Qm;rw[PE hb hc r];cases g:Ar b r with
 |false=>rfl
 |true=>have h:=Adk hb hc g;simp only[ Bte h];rw[Ac7 (by show 5<=1000000;omega)];simp only[O,Ase];rfl
end
def fld(l:List UInt8)(i:Nat):Int:=((l.getD i 0).toNat:Int)
def Ae7(l:List UInt8):aA:=⟨fld l 0,fld l 1,fld l 2,fld l 3-2,fld l 4⟩
def SR(b:Bldg)(l:List UInt8):Option aA:=bif l.length==6&&(((((YM (l.take 5):Nat):Int))==fld l 5)&&Ar b (Ae7 l))then C (Ae7 l)else none
def Aaa(l:List UInt8)(i:Nat):0<=fld l i/\fld l i<256:=by have h:(l.getD i 0).toNat<256:=bC _;unfold fld;omega
def Ba1(h:SR b l=C r):Ar b r=E:=by
 unfold SR at h;cases hq:(l.length==6&&(((((YM _:Nat):Int))==fld l 5)&&Ar b _))with
 |false=>rw[hq]at h;cases h
 |true=>rw[hq]at h;cases h;rw[a_,a_]at hq;exact hq.2.2
def Bjr(hb:b.small)(hc:b.B0.length<=100)(h:Ar b r=E):SR b (Da r)=C r:=by
 obtain⟨h1,q,u,j,o⟩:=Adk hb hc h;have hs:=Bkx<|Akg r;have e:Ae7 (Da r)=r:=by show aX ((u8n r.R0).toNat:Int) ((u8n r.D0).toNat:Int) ((u8n r.I0).toNat:Int) (((u8n _).toNat:Int)-2) ((u8n r.M2).toNat:Int)=r;rw[Ts ω,Ts ω,Ts ω,Ts ω,Ts ω,show r.S0+2-2=r.S0 by omega]
 have g:fld (Da r) 5=((YM (Akg r):Nat):Int):=by exact Ts ω
 unfold SR;rw[e,h,g,show(Da r).take 5=Akg r from rfl,Ia];simp
def Ae8(hb:b.small)(hc:b.B0.length<=100)(g:b.code=0)(s:ByteArray)(w:s.size<=1000000):
  ∃(e:Int) (r0:aA),Lx b.C0 b.E0 b.J0 b.M0 b.K0 b.N0 b.O0 b.B0 s=C (((),e,()),((r0.R0,r0.D0,r0.I0,r0.S0,r0.M2,()),()))/\(e !=0)=(SR b<|bl s).isNone/\∀r,SR b (bl s)=C r->r0=r:=by
 unfold Lx;rw[Ap,g];unfold SR;by_cases o:s.size=6
 .have v:(bl s).length=6:=by exact o
  have j:∀i:Int,0<=i->i<6->inB i s.size=E:=λi h h'=>Ac h ω;have q:bl (s.extract 0 5)=(bl s).take 5:=by rw[WK];rfl
  rw[show((s.size:Int) !=6)=B by rw[o];rfl,U ω,Ac7 (by rw[<-Gf,q,v_];omega),q];simp only[ O,j 5 ω ω,j 0 ω ω,j 1 ω ω,j 2 ω ω,j 3 ω ω,j 4 ω ω,LZ];rw[v,show aB 5=5 from rfl,show aB 0=0 from rfl,show aB 1=1 from rfl,show aB 2=2 from rfl,show aB 3=3 from rfl,show aB 4=4 from rfl];simp only[show ∀i:Nat,(((bl s).getD i 0).toNat:Int)=fld (bl s) i from λ_=>rfl];have y:=Aaa (bl s) 0;have D:=Aaa (bl s) 1;have A:=Aaa (bl s) 2;have z:=Aaa (bl s) 3;have x:=Aaa (bl s) 4;rw[Aa ω ω,Aa ω ω,Aa ω ω,Aa (n:=fld (bl s) 3) ω ω,Aa ω ω,Aa ω ω];simp only[bne];cases hq:(((YM _:Nat):Int))==fld (bl s) 5 with
  |false=>exact⟨5,⟨0,0,0,0,0⟩,rfl,rfl,λr h=>by cases h⟩
  |true=>
   have u:=PE hb hc<|Ae7<|bl s;unfold Ae7 at u;simp only[ u];show ∃e r0,(bif !(Ar b<|Ae7<|bl s)then _ else _)=_/\_;cases Ar b _ with
   |false=>exact⟨9,⟨0,0,0,0,0⟩,rfl,rfl,λr h=>by cases h⟩
   |true=>exact⟨0,Ae7<|bl s,rfl,rfl,λr h=>r_ h⟩
 .rw[show _=E from Jc ω,show _=B from At (by exact o)];exact⟨4,⟨0,0,0,0,0⟩,rfl,rfl,λr h=>by cases h⟩
def Jk(b:Bldg):Nat->List UInt8->List aA
 |0,_=>[]
 |k+1,l=>if 6<=l.length then match SR b (l.take 6)with|some r=>r::Jk b k (l.drop 6)|none=>[]else []
def VF(b:Bldg)(s:ByteArray):List aA:=Jk b s.size<|bl s
def Aa5(b:Bldg):∀(k:Nat) (l:List UInt8),6*(Jk b k l).length<=l.length
 |0,_=>by simp[Jk]
 |k+1,l=>by
  simp only[Jk];split
  .split
   .rename_i h _ r _
    have:=Aa5 b k<|l.drop 6
    rw[Y_]at this;rw[s_];omega
   .simp
  .simp
def Wq(b:Bldg):∀(k:Nat) (l:List UInt8),∀r∈Jk b k l,Ar b r=E
 |0,_,_,h=>by simp[Jk]at h
 |k+1,l,r,h=>by
  simp only[Jk]at h;split at h
  .split at h
   .rename_i _ _ j g;rcases x_.1 h with rfl|h
    .exact Ba1 g
    .exact Wq b k _ r h
   .cases h
  .cases h
def Ars{b:Bldg}(hb:b.small)(hc:b.B0.length<=100){t:List UInt8}(v:t.length<6):∀(rs:List aA) (k:Nat),rs.length<=k->(∀r∈rs,Ar b r=E)->Jk b k (rs.flatMap Da++t)=rs
 |[],0,_,_=>rfl
 |[],k+1,_,_=>by simp only[Jk,List.flatMap_nil,c5_];rw[if_neg ω]
 |r::rs,0,h,_=>by simp at h
 |r::rs,k+1,h,g=>by
  have o:(r::rs).flatMap Da++t=Da r++(rs.flatMap Da++t):=by rw[a2_,G_]
  have q:(Da r++(rs.flatMap Da++t)).take 6=Da r:=d6_<|Ia r;have j:(Da r++(rs.flatMap Da++t)).drop 6=rs.flatMap Da++t:=List.drop_left'<|Ia r;simp only[Jk];rw[o,q,j,Bjr hb hc<|g r<|H_ ..,if_pos (by rw[e_,Ia];omega),Ars hb hc v rs k (by simp at h;omega) λx u=>g x<|L_ _ u]
def Akh(hb:b.small)(hc:b.B0.length<=100)(j:b.code=0)(s:ByteArray)(hs:s.size<=1000000):
  ∃n:Int,Nx b.C0 b.E0 b.J0 b.M0 b.K0 b.N0 b.O0 b.B0 s=C ((VF b s,n,()),()):=by
 have A:∀(k n:Nat) (l:List aA),s.size<=n+6*k->n<=s.size->l.length<=n->∃y:Int,aE (λx=>letI a:=x.2.1.2.2;letI c:=a.2.2;Hb x.1.1 x.1.2.2.1 x.1.2.2.2.1 x.2.1.1 x.2.1.2.1 a.1 a.2.1 c.1 c.2.1 c.2.2.1 c.2.2.2.1) (k+1) ((s,(),l,n,()),(b.tup,()))=C ((l++Jk b k ((bl s).drop n),y,()),()):=by
  intro k;induction k with
  |zero=>intro n l h1 L _;refine⟨n,Ax ?_⟩;unfold Hb;rw[Aa (n:=(n:Int)+6) ω ω,Z (ω:¬(n:Int)+6<=(s.size:Int))];simp only[H,Jk,T_]
  |succ k I=>
   intro n l h1 L R;have w:W.wrap (n+6)=((n+6:Nat):Int):=by rw[Aa ω ω];omega
   by_cases g:n+6<=s.size
   .have u:((bl s).drop n).length=s.size-n:=by rw[Y_,Gf]
    have F:bl (s.extract n<|n+6)=((bl s).drop n).take 6:=by rw[WK,show n+6-n=6 by omega]
    obtain⟨e,r0,N,q,D⟩:=Ae8 hb hc j _ (by rw[<-Gf,F,v_];omega);rw[F]at q D;have h:∀X,(bif(e !=0)then C (Sum.inr ((l,(n:Int),()),()))else C (aT ((s,(),(l++[r0]),((n+6:Nat):Int),()),(b.tup,()))))=X->Hb s l n b.C0 b.E0 b.J0 b.M0 b.K0 b.N0 b.O0 b.B0=X:=by rintro X rfl;unfold Hb;simp only[w,U (ω:((n+6:Nat):Int)<=s.size),l_,U (ω:n<=((n+6:Nat):Int)),N,O];rw[Am (by rw[D_];omega)];rfl
    cases o:SR b _ with
    |none=>rw[o]at q;rw[q]at h;refine⟨n,(Ax<|h _ rfl).trans ?_⟩;simp only[Jk,u,o];rw[if_pos ω,T_]
    |some r=>rw[o]at q;rw[q]at h;obtain rfl:=D r o;obtain⟨y,z⟩:=I (n+6) (l++[r0]) ω g (by rw[e_,D_];omega);refine⟨y,(Aq<|h _ rfl).trans<|z.trans ?_⟩;simp only[Jk,u,o];rw[if_pos ω,G_,List.drop_drop];rfl
   .refine⟨n,Ax ?_⟩;unfold Hb;rw[w,Z (ω:¬((n+6:Nat):Int)<=(s.size:Int))];simp only[H,Jk];rw[if_neg (by rw[Y_,Gf];omega),T_]
 obtain⟨y,z⟩:=A s.size 0 [] ω ω σ;have v:=Aj z ω;refine⟨y,?_⟩;unfold Nx;rw[show Pa ((s,(),[],0,()),((b.C0,b.E0,b.J0,b.M0,b.K0,b.N0,b.O0,b.B0,()),()))=_ from v];rfl
def PA(l:List UInt8):List Int:=l.map λx=>(x.toNat:Int)
def Ayn(l:List UInt8):EW (PA l)=txt l:=by
 rw[Ase];unfold PA;rw[List.map_map];congr 1
 conv=>rhs;rw[<-List.map_id l]
 refine List.map_congr_left λx _=>?_;show UInt8.ofNat _=x;rw[l_,UInt8.ofNat_toNat]
def Bf8(l:List UInt8):(PA l).all (λn=>decide (0<=n)&&decide (n<256))=E:=by
 rw[F_];intro n g;obtain⟨x,_,rfl⟩:=b3_.1 g
 have:x.toNat<256:=bC x
 simp only[a_,t_];omega
def Azm(h:l≠[]):DR (PA l)=C ((txt l,()),(((),PA l,()),())):=by
 unfold DR;rw[Bf8,Ayn]
 first
 |rfl
 |rw[show Bi4 _=E by
   cases l with
   |nil=>exact absurd rfl h
   |cons a t=>rfl]
  rfl
def Beh(s:ByteArray)(h:l.length+s.size<=2147483648):CM s (PA l)=C (((s.size:Int),(),()),(((),PA<|l++bl s,()),())):=by unfold CM wsF;rw[show(PA l).length=l.length from a3_ _,Am h];unfold PA bl;rw[List.map_append];rfl
def Ba6(b:Bldg)(r:aA):(bl<|Qm b r).length<=6:=by
 unfold Qm;cases Ar b r with
 |true=>rw[V,La,Ia];omega
 |false=>rw[H,La];simp
def XO(h:Ar b r=E):Qm b r=txt (Da r):=by unfold Qm;rw[h];rfl
def Aqa{b:Bldg}:∀{rs:List aA},(∀r∈rs,Ar b r=E)->rs.flatMap (λr=>bl<|Qm b r)=rs.flatMap Da
 |[],_=>rfl
 |r::t,h=>by rw[a2_,a2_,XO<|h r<|H_ ..,La,Aqa λx g=>h x<|L_ _ g]
def Ajd(rs:List aA):(rs.flatMap Da).length=6*rs.length:=by
 induction rs with
 |nil=>rfl
 |cons r t g=>rw[a2_,e_,g,Ia,s_];omega
section
variable{b:Bldg}(hb:b.small)(hc:b.B0.length<=100)
include hb hc
theorem Aoa(bud:Int)(o:rs.length<=1000000)(s t:Sto):OO ((bud,(),(),(),(),rs,(rs.length:Int),(0:Int),()),(b.tup,(s.h0,s.h1,s.sel,()),(t.h0,t.h1,t.sel,()),((),[],()),()))=C ((bud,(),(),(),(),()),(b.tup,(s.h0,s.h1,s.sel,()),(t.h0,t.h1,t.sel,()),((),PA (rs.flatMap λr=>bl<|Qm b r),()),())):=by
 have h:=BN (step:=λx=>letI a:=x.2.1.2.2;letI c:=x.1.2.2.2.2.2;letI d:=x.2.2;letI f:=a.2.2;Ha x.1.1 c.1 c.2.1 c.2.2.1 x.2.1.1 x.2.1.2.1 a.1 a.2.1 f.1 f.2.1 f.2.2.1 f.2.2.2.1 d.1.1 d.1.2.1 d.1.2.2.1 d.2.1.1 d.2.1.2.1 d.2.1.2.2.1 d.2.2.1.2.1) rs.length
  (λi (l:List UInt8)=>((bud,(),(),(),(),rs,rs.length,i,()),(b.tup,(s.h0,s.h1,s.sel,()),(t.h0,t.h1,t.sel,()),((),PA l,()),()))) (λi l=>l++bl (Qm b<|rs.getD i<|aX 0 0 0 0 0)) (λi l=>l.length<=6*i) _ (λi l g hs=>by
   have j:=Ba6 b<|rs.getD i<|aX 0 0 0 0 0;refine⟨?_,by rw[e_];omega⟩;show Ha bud rs _ _ b.C0 b.E0 b.J0 b.M0 b.K0 b.N0 b.O0 b.B0 s.h0 s.h1 s.sel t.h0 t.h1 t.sel _=_;unfold Ha;simp only[U (ω:i<(rs.length:Int)),Ac ω (ω:(i:Int)<rs.length),l_,UD hb hc,O,Beh (Qm b<|rs.getD i<|aX 0 0 0 0 0) (l:=l) (by rw[<-Gf];omega),FJ g (by unfold Df;omega)];rfl) (λl _=>by
   show Ha bud rs _ _ b.C0 b.E0 b.J0 b.M0 b.K0 b.N0 b.O0 b.B0 s.h0 s.h1 s.sel t.h0 t.h1 t.sel _=_;unfold Ha;simp only[Z<|a0_ _];rfl) rs.length 0 [] ω σ
 have h':=Aj h.1 ω;have e:Bd (λi l=>l++bl (Qm b<|rs.getD i<|aX 0 0 0 0 0)) rs.length 0 []=rs.flatMap λr=>bl<|Qm b r:=by rw[Mg _,c5_,PD (λr=>bl _) _ rs 0 rs.length ω,d3_]
 rw[e]at h';exact h'
end
def FD(b:Bldg)(s:Sto)(m:Img)(bud:Int):Sto×Int×Int:=
 bif !(aJ<|s.ok b.J0)then(Sto.no,0,1)else bif decide (bud<0)then(Sto.no,0,1)else bif !(m.ok b)then(Sto.no,0,1)else
 bif((s.erase b.J0 (1-s.sel) bud).2.2==0)then
  (bif(((s.erase b.J0 (1-s.sel) bud).1.write b.J0 (1-s.sel) (txt<|(FF m).flatMap Da) (s.erase b.J0 (1-s.sel) bud).2.1).2.2==0)then
   ((s.erase b.J0 (1-s.sel) bud).1.write b.J0 (1-s.sel) (txt<|(FF m).flatMap Da) (s.erase b.J0 (1-s.sel) bud).2.1).1.choose b.J0 (1-s.sel) ((s.erase b.J0 (1-s.sel) bud).1.write b.J0 (1-s.sel) (txt<|(FF m).flatMap Da) (s.erase b.J0 (1-s.sel) bud).2.1).2.1
  else(s.erase b.J0 (1-s.sel) bud).1.write b.J0 (1-s.sel) (txt<|(FF m).flatMap Da) (s.erase b.J0 (1-s.sel) bud).2.1)
 else s.erase b.J0 (1-s.sel) bud
def Bjd(room:Int)(s:Sto)(half bud:Int)(t:Sto)(hb:bud<9223372036854775808):(s.act room half bud t).2.1<9223372036854775808:=by
 unfold Sto.act;split
 .show 0<_;omega
 .split
  .show 0<_;omega
  .show bud-1<_;omega
def Bdg(room:Int)(s:Sto)(half:Int)(d:ByteArray)(bud:Int)(hb:bud<9223372036854775808):(s.write room half d bud).2.1<9223372036854775808:=by
 unfold Sto.write;split
 .show 0<_;omega
 .split
  .show 0<_;omega
  .split
   .show 0<_;omega
   .show bud-d.size<_;omega
def WU(hb:b.small)(hc:b.B0.length<=100)(s:Sto)(hf:m.fit)(j:bud<9223372036854775808):
  KU b.C0 b.E0 b.J0 b.M0 b.K0 b.N0 b.O0 b.B0 s.h0 s.h1 s.sel m.F0 m.L0 m.H0 m.A0 bud=C (Sto.out<|FD b s m bud):=by
 have A:100000<=maxLen:=by decide
 have hp:=hf.p;have I:=hf.e;unfold KU FD;rw[GK,CV hb m ω ω,Aha hb hf];by_cases hs:s.ok b.J0
 .rw[U hs];by_cases q:bud<0
  .rw[U q];rfl
  rw[Z q];cases o:m.ok b with
  |false=>rfl
  |true=>
   have hm:=Img.ok_iff.1 o;have z:=Ag hm.code;have D:=hm.lp;have y:An4 b m=FF m:=by unfold An4;rw[o];rfl
   have w:=Amc m;have x:(FF m).flatMap Da≠[]:=λh0=>by have h1:=Ajd<|FF m;rw[h0,w,c6_]at h1;omega
   have g:=Aoa hb hc bud (by rw[w];omega) s Sto.no;rw[Aqa<|YI hm]at g;simp only[Bldg.tup,Sto.no,noB]at g;have v:W.wrap (1-s.sel)=1-s.sel:=by obtain⟨_,_,_,_,L⟩:=hs;exact Aa ω ω
   simp only[W_,H,y,g,O,v,Ayt _ _ _ _ _ _ j,Sto.out];have h:=Bjd b.J0 s (1-s.sel) bud (s.set (1-s.sel) noB) j;rw[show s.act b.J0 _ bud _=s.erase b.J0 _ bud from rfl]at h;generalize s.erase b.J0 _ bud=r1 at h|-;cases hq:r1.2.2==0 with
   |false=>simp only[H,O,hq]
   |true=>
    simp only[V,Azm x,O,TC _ _ _ _ _ _ _ h,Sto.out];have u:=Bdg b.J0 r1.1 (1-s.sel) (txt<|(FF m).flatMap Da) r1.2.1 h;generalize r1.1.write b.J0 _ _ r1.2.1=r2 at u|-;cases F:r2.2.2==0 with
    |false=>simp only[H]
    |true=>simp only[V,At4 _ _ _ _ _ _ u,O,Sto.out]
 .rw[Z hs];rfl
def Jf(b:Bldg)(m:Img)(r:aA):Bool:=r.R0==1&&(!(FX (BK r.D0 r.I0) m.A0)&&!(QT b m))
def FE(b:Bldg)(s:Sto)(m:Img)(r:aA)(bud:Int):Sto×Int×Int:=bif decide ((6:Int)<=b.J0-(s.cur.size:Int))then s.write b.J0 s.sel (txt<|Da r) bud else FD b s (AA m r) bud
def Qh(b:Bldg)(s:Sto)(m:Img)(r:aA)(bud:Int):Sto×Img×Int×Int:=
 bif !(m.ok b&&Ar b r)then(Sto.no,Img.none,0,1)else bif !(aJ<|s.ok b.J0)then(Sto.no,Img.none,0,1)else bif decide (bud<0)then(Sto.no,Img.none,0,1)else
 bif Jf b m r then(Sto.no,Img.none,0,7)else
 bif(FE b s m r bud).2.2==0 then((FE b s m r bud).1,AA m r,(FE b s m r bud).2.1,(FE b s m r bud).2.2)
 else bif(FE b s m r bud).2.2==8 then((FE b s m r bud).1,m,0,(FE b s m r bud).2.2)else(Sto.no,Img.none,0,(FE b s m r bud).2.2)
def Aou(r:Sto×Img×Int×Int):(Unit×Unit×Int×Int×Unit)×((ByteArray×ByteArray×Int×Unit)×(List Int×List Bool×List Bool×List J×Unit)×Unit):=(((),(),r.2.2.1,r.2.2.2,()),((r.1.h0,r.1.h1,r.1.sel,()),r.2.1.tup,()))
def Amv(hb:b.small)(hc:b.B0.length<=100)(s:Sto)(hp:m.F0.length<=100000)(S:m.A0.length<=10000)(r:aA)(h:bud<9223372036854775808):
    OE b.C0 b.E0 b.J0 b.M0 b.K0 b.N0 b.O0 b.B0 s.h0 s.h1 s.sel m.F0 m.L0 m.H0 m.A0 r.R0 r.D0 r.I0 r.S0 r.M2 bud=C (Aou<|Qh b s m r bud):=by
  unfold OE Qh;rw[Aao hb hc m hp S r,GK];unfold ZG;cases hq:m.ok b&&Ar b r with
  |false=>rfl
  |true=>
    rw[a_]at hq;have hm:=Img.ok_iff.1 hq.1;simp only[ V,H];by_cases hs:s.ok b.J0
    · rw[U hs]
      by_cases o:bud<0
      · rw[U o];rfl
      rw[Z o];obtain⟨j,h5⟩:=Kk hm hq.2;have h2:=hm.lf;have I:=hm.ll;have g1:=j.lp;have g2:=j.lf;have g3:=j.ll;have v:(AA m r).fit:=⟨ω,ω,ω,ω⟩
      have F:s.cur.size<=b.J0:=by
        obtain⟨_,_,I,R,_⟩:=hs;unfold Sto.cur;split
        · exact R
        · exact I
      have z:=ZQ hm.code;have L:W.wrap _=b.J0-s.cur.size:=Aa ω ω;have D:((Qm b r).size:Int)=6:=by rw[XO hq.2,Qv];rfl
      rw[Ade m hm.so ω];have step:∀q:Bool,q=Jf b m r->(bif q then C (((),(),0,7,()),(((aK<|aW []),(aK<|aW []),0,()),(([]:List Int),([]:List Bool),([]:List Bool),([]:List J),()),()))else
          C (Aou<|bif(FE b s m r bud).2.2==0 then((FE b s m r bud).1,AA m r,(FE b s m r bud).2.1,(FE b s m r bud).2.2)else bif(FE b s m r bud).2.2==8 then((FE b s m r bud).1,m,0,(FE b s m r bud).2.2)else(Sto.no,Img.none,0,(FE b s m r bud).2.2)))=
        C (Aou<|bif Jf b m r then(Sto.no,Img.none,0,7)else(bif(FE b s m r bud).2.2==0 then((FE b s m r bud).1,AA m r,(FE b s m r bud).2.1,(FE b s m r bud).2.2)else bif(FE b s m r bud).2.2==8 then((FE b s m r bud).1,m,0,(FE b s m r bud).2.2)else(Sto.no,Img.none,0,(FE b s m r bud).2.2))):=by
        rintro q rfl;cases Jf b m r<;>rfl
      simp only[W_,H,O];have e5 : ∀ q : Bool, (bif (r.R0 == 1) then
              bif(!(FX _ m.A0))then
                (Mt b.C0 b.E0 b.J0 b.M0 b.K0 b.N0 b.O0 b.B0 m.F0 m.L0 m.H0 m.A0).bind λN=>
                C ((bud,(),(),(),(),(),(),(),(!N.1.1),()),((b.C0,b.E0,b.J0,b.M0,b.K0,b.N0,b.O0,b.B0,()),(s.h0,s.h1,s.sel,()),(m.F0,m.L0,m.H0,m.A0,()),(r.R0,r.D0,r.I0,r.S0,r.M2,()),((aK _),(aK _),0,()),(([]:List Int),([]:List Bool),([]:List Bool),([]:List J),()),(AA m r).tup,()))
              else
                C ((bud,(),(),(),(),(),(),(),B,()),((b.C0,b.E0,b.J0,b.M0,b.K0,b.N0,b.O0,b.B0,()),(s.h0,s.h1,s.sel,()),(m.F0,m.L0,m.H0,m.A0,()),(r.R0,r.D0,r.I0,r.S0,r.M2,()),((aK _),(aK _),0,()),(([]:List Int),([]:List Bool),([]:List Bool),([]:List J),()),(AA m r).tup,()))
            else
              C ((bud,(),(),(),(),(),(),(),B,()),((b.C0,b.E0,b.J0,b.M0,b.K0,b.N0,b.O0,b.B0,()),(s.h0,s.h1,s.sel,()),(m.F0,m.L0,m.H0,m.A0,()),(r.R0,r.D0,r.I0,r.S0,r.M2,()),((aK _),(aK _),0,()),(([]:List Int),([]:List Bool),([]:List Bool),([]:List J),()),(AA m r).tup,())))=C ((bud,(),(),(),(),(),(),(),Jf b m r,()),((b.C0,b.E0,b.J0,b.M0,b.K0,b.N0,b.O0,b.B0,()),(s.h0,s.h1,s.sel,()),(m.F0,m.L0,m.H0,m.A0,()),(r.R0,r.D0,r.I0,r.S0,r.M2,()),((aK<|aW []),(aK<|aW []),(0:Int),()),(([]:List Int),([]:List Bool),([]:List Bool),([]:List J),()),(AA m r).tup,())):=λ_=>by
        rw[Add hb m ω hp ω];unfold Jf;cases r.R0==1<;>cases FX _ m.A0<;>rfl
      have u:=e5 E;simp only[Img.tup]at u|-;rw[u];simp only[O];cases Jf b m r with
      |true=>rfl
      |false=>
        rw[UD hb hc,Ra];simp only[O,D];rw[ L,XO hq.2];have hw:=TC b.J0 s.h0 s.h1 s.sel s.sel (txt<|Da r) bud h;have x:=WU hb hc s v h;rw[hw,x];simp only[O];have y:∀{A:Type}(f:Sto×Int×Int->A),(bif decide _ then C (f<|s.write b.J0 s.sel _ bud)else C (f<|FD b s _ bud))=C (f<|FE b s m r bud):=λf=>by unfold FE;cases decide (6<=b.J0-s.cur.size)<;>rfl
        have g:=y λw=>((w.2.1,(),(),(),(),(),w.2.2,()),((w.1.h0,w.1.h1,w.1.sel,()),(m.F0,m.L0,m.H0,m.A0,()),((aK<|aW []),(aK<|aW []),(0:Int),()),(([]:List Int),([]:List Bool),([]:List Bool),([]:List J),()),(AA m r).tup,()))
        simp only[Img.tup]at g;simp only[Sto.out];rw[g];simp only[O];generalize FE b s m r bud=w;cases w.2.2==0 with
        |true=>rfl
        |false=>
          cases w.2.2==8 with
          |true=>rw[Aar m hp ω ω ω];rfl
          |false=>rfl
    · rw[Z hs]
      rfl
def Ast(v:∀r∈rs,Ar b r=E)(F:rs.length<=90000)(g m:Img)(hm:ImgOK b m)(q:m.A0.length=0):
  Qb (((),(),rs,(rs.length:Int),(0:Int),()),(g.tup,m.tup,()))=C (((),(),()),(g.tup,(Aw m rs).tup,())):=by
 have h:=BN (step:=λx=>letI a:=x.2.2.1;HJ x.1.2.2.1 x.1.2.2.2.1 x.1.2.2.2.2.1 x.2.1.1 x.2.1.2.1 x.2.1.2.2.1 x.2.1.2.2.2.1 a.1 a.2.1 a.2.2.1 a.2.2.2.1) rs.length
  (λi (m:Img)=>(((),(),rs,rs.length,i,()),(g.tup,m.tup,()))) _ (λi m=>ImgOK b m/\m.A0.length<=i) _ (λi m j hs=>by
   obtain⟨hm,y⟩:=hs;have o:=v _<|AE (aX 0 0 0 0 0) j;obtain⟨z,a2⟩:=Kk hm o;refine⟨?_,z,ω⟩;show HJ rs _ _ g.F0 g.L0 g.H0 g.A0 m.F0 m.L0 m.H0 m.A0=_;unfold HJ;simp only[U (ω:i<(rs.length:Int)),Ac ω (ω:(i:Int)<rs.length),l_,FJ j (by unfold Df;omega)];rw[Zd hm.so ω _ λw=>by have h0:=Aih o w;have h1:=hm.lp;have A:=hm.lf;have D:=hm.ll;omega];rfl) (λm _=>by
   show HJ rs _ _ g.F0 g.L0 g.H0 g.A0 m.F0 m.L0 m.H0 m.A0=_;unfold HJ;simp only[Z<|a0_ _];rfl) rs.length 0 m ω ⟨hm,ω⟩
 have h':=Aj h.1 ω;have e:∀(l:List aA) (m:Img),l.foldl AA m=Aw m l:=λl=>by
  induction l with
  |nil=>exact λm=>rfl
  |cons r t u=>exact λm=>u _
 rw[Wk AA _ rs rs.length 0 m ω,e]at h';exact h'
def CW(b:Bldg)(s:Sto):Img:=Aw (Pw b)<|VF b s.cur
def Amy(hb:b.small)(g:b.code=0)(s:Sto)(hs:s.cur.size<=500000):
  OF b.C0 b.E0 b.J0 b.M0 b.K0 b.N0 b.O0 b.B0 s.h0 s.h1 s.sel=C (((),()),((CW b s).tup,())):=by
 have j:=Ag g;obtain⟨n,o⟩:=Akh hb ω g s.cur ω;have h:(VF b s.cur).length<=90000:=by
  have:=Aa5 b s.cur.size<|bl s.cur
  rw[Gf]at this;unfold VF;omega
 have q:=Ast (rs:=VF b s.cur) (λr o=>Wq b _ _ r o) h Img.none _ (Aek g) rfl;unfold OF;rw[Aju,g,Ra];simp only[O,p_,V];rw[ o];simp only[O];simp only[Img.tup,Img.none]at q|-;rw[q];rfl
def sB:Bldg:=Bsa 4 2 30
def sM1:Img:=⟨[0,0],[B,B],[B,B],[⟨2,1,-1,0,B⟩]⟩
def sM2:Img:=⟨[0,0],[B,B],[B,B],[⟨2,1,0,0,B⟩]⟩
def ok1:sM1.ok sB=E:=by unfold Img.ok Io Im Au;rfl
def ok2:sM2.ok sB=E:=by unfold Img.ok Io Im Au;rfl
section
variable{s:Sto}{room half bud:Int}(hs:s.ok room)(hh:half=0\/half=1)(hb:0<=bud)
include hs hh hb
theorem Bar:s.chk room half bud=0:=by unfold Sto.chk;rw[if_pos hs,if_neg ω]
theorem Afl(h:((s.get half).size:Int)+(t.length:Int)<=room):s.write room half (txt t) bud=if bud<(t.length:Int)then(s.set half<|s.get half++txt (t.take bud.toNat),0,8)else(s.set half<|s.get half++txt t,bud-(t.length:Int),0):=by have g:(txt t).extract 0 bud.toNat=txt (t.take bud.toNat):=Ub (by rw[WK,La,La];simp);unfold Sto.write;rw[Bar hs hh hb,if_neg ω,Qv,if_neg ω,g]
theorem Az9(t:Sto):s.act room half bud t=if bud=0 then(s,0,8)else(t,bud-1,0):=by unfold Sto.act;rw[Bar hs hh hb,if_neg ω]
end
def UJ{s:Sto}{half:Int}(hs:s.ok room){x:ByteArray}(j:(x.size:Int)<=room):(s.set half x).ok room:=by
 obtain⟨h1,h,q,o,g⟩:=hs;unfold Sto.set Sto.ok;split
 .exact⟨h1,h,j,o,g⟩
 .exact⟨h1,h,q,j,g⟩
def Bcy{s:Sto}{half:Int}(hs:s.ok room)(hh:half=0\/half=1):Sto.ok room { s with sel:=half }:=by obtain⟨h1,h,j,g,_⟩:=hs;exact⟨h1,h,j,g,hh⟩
def VL{s:Sto}(hs:s.ok room):s.sel=0\/s.sel=1:=hs.2.2.2.2
def Ai5{s:Sto}(hh:s.sel=0\/s.sel=1):s.cur=s.get s.sel:=by unfold Sto.cur Sto.get;rcases hh with h|h<;>rw[h]<;>rfl
def Aue{s:Sto}(hh:s.sel=0\/s.sel=1)(x:ByteArray):(s.set s.sel x).cur=x:=by
  obtain⟨h0,h1,sel⟩:=s;rcases hh with h|h<;>
    (simp only at h
     subst h;simp[Sto.cur,Sto.set])
def Ak2{s:Sto}(hh:s.sel=0\/s.sel=1)(x:ByteArray):(s.set (1-s.sel) x).cur=s.cur:=by
  obtain⟨h0,h1,sel⟩:=s;rcases hh with h|h<;>
    (simp only at h
     subst h;simp[Sto.cur,Sto.set])
def Alg{s:Sto}(hh:s.sel=0\/s.sel=1)(x:ByteArray):(s.set (1-s.sel) x).get (1-s.sel)=x:=by
  obtain⟨h0,h1,sel⟩:=s;rcases hh with h|h<;>
    (simp only at h
     subst h;simp[Sto.set,Sto.get])
def Al7{s:Sto}(hh:s.sel=0\/s.sel=1)(x y:ByteArray):(s.set (1-s.sel) x).set (1-s.sel) y=s.set (1-s.sel) y:=by
  obtain⟨h0,h1,sel⟩:=s;rcases hh with h|h<;>
    (simp only at h
     subst h;simp[Sto.set])
def Agb{s:Sto}(hh:s.sel=0\/s.sel=1)(x:ByteArray):Sto.cur { s.set (1-s.sel) x with sel:=1-s.sel }=x:=by
  obtain⟨h0,h1,sel⟩:=s;rcases hh with h|h<;>
    (simp only at h
     subst h;simp[Sto.cur,Sto.set])
def Aa7(hb:b.small)(hc:b.B0.length<=100){s:Sto}(h:bl s.cur=rs.flatMap Da++t)(g:t.length<6)(j:∀r∈rs,Ar b r=E):CW b s=Aw (Pw b) rs:=by
 unfold CW VF;have o:s.cur.size=6*rs.length+t.length:=by rw[<-Gf,h,e_,Ajd]
 rw[h,Ars hb hc g rs s.cur.size ω j]
structure Jst(b:Bldg)(s:Sto)(m:Img):Prop where
 ok:s.ok b.J0
 img:ImgOK b m
 rs:∃rs:List Record,bl s.cur=rs.flatMap Da/\(∀r∈rs,Ar b r=true)/\Aw (Pw b) rs=m
 fits:18*((b.B0.length:Int)+(m.A0.length:Int))+6<=b.J0
def Akv(hs:Bo m.A0)(h:r.R0=1->FX (BK r.D0 r.I0) m.A0=E):(AA m r).A0.length<=m.A0.length:=by
 unfold AA;cases r.R0==4 with
 |true=>exact q_ _
 |false=>
 cases r.R0==5 with
 |true=>exact q_ _
 |false=>
 cases r.R0==6 with
 |true=>exact q_ _
 |false=>
 have hf:=RA (c:=BK r.D0 r.I0) 0 hs;rw[show DN r.D0 r.I0 m.A0 0=_ from hf];cases hq:FX _ m.A0 with
 |false=>
  by_cases k1:r.R0=1
  .rw[h k1]at hq;cases hq
  .rw[At k1];exact q_ _
 |true=>
  cases r.R0==2 with
  |true=>show(m.A0.take _++m.A0.drop _).length<=_;rw[e_,v_,Y_];omega
  |false=>
  cases r.R0==3 with
  |true=>show(m.A0.set _ _).length<=_;rw[z_];exact q_ _
  |false=>
  cases r.R0==7 with
  |true=>show(m.A0.set _ _).length<=_;rw[z_];exact q_ _
  |false=>exact q_ _
def Alc{s:Sto}(j:Jst b s m)(q:Ar b r=E)(g:Jf b m r=B):18*((b.B0.length:Int)+((AA m r).A0.length:Int))+6<=b.J0:=by
 have h0:=j.fits;have u:=(Kk j.img q).2;by_cases o:r.R0=1
 .cases hq:FX (BK r.D0 r.I0) m.A0 with
  |true=>have:=Akv j.img.so λ_=>hq;omega
  |false=>unfold Jf QT at g;rw[o,hq]at g;simp at g;omega
 .have:=Akv j.img.so λh=>absurd h o
  omega
def Afj(h:ImgOK b m):(((FF m).flatMap Da).length:Int)=18*((b.B0.length:Int)+(m.A0.length:Int)):=by rw[Ajd,Amc,h.lp];omega
def XH{s:Sto}(hs:s.ok b.J0)(hm:ImgOK b m)(o:0<=bud)(z:18*((b.B0.length:Int)+(m.A0.length:Int))<=b.J0):
  (2+18*((b.B0.length:Int)+(m.A0.length:Int))<=bud/\FD b s m bud=({ s.set (1-s.sel) (txt<|(FF m).flatMap Da)with sel:=1-s.sel },bud-(2+18*((b.B0.length:Int)+(m.A0.length:Int))),0))\/
  (bud<2+18*((b.B0.length:Int)+(m.A0.length:Int))/\∃s',FD b s m bud=(s',0,8)/\s'.ok b.J0/\s'.cur=s.cur):=by
 have g:=VL hs;have hh:1-s.sel=0\/1-s.sel=1:=ω;have A:=Afj hm;have q:s.erase b.J0 _ bud=if bud=0 then _ else _:=Az9 hs hh o _
 unfold FD;rw[U hs,Z ω,Img.ok_iff.2 hm];generalize D:(FF m).flatMap Da=T at A|-;by_cases h0:bud=0
 .right;rw[q,if_pos h0];exact⟨ω,s,rfl,hs,rfl⟩
 .rw[if_neg h0]at q;rw[q];have j:(s.set (1-s.sel) noB).ok b.J0:=UJ hs (by show 0<=_;omega);have u:=Afl (t:=T) j hh (ω:0<=bud-1) (by rw[Alg g];show(0:Int)+_<=_;omega);rw[Alg g,Al7 g,Al7 g]at u;have w:∀x:ByteArray,noB++x=x:=λx=>Ub (by rfl);rw[w,w]at u;simp only[ u];by_cases h1:bud-1<T.length
  .right;rw[if_pos h1];refine⟨ω,_,rfl,UJ hs ?_,Ak2 g _⟩;rw[Qv,v_];omega
  .rw[if_neg h1];have h:(s.set (1-s.sel)<|txt T).ok b.J0:=UJ hs (by rw[Qv];omega);have hc:=Az9 h hh (ω:0<=bud-1-T.length) { s.set (1-s.sel) (txt T)with sel:=1-s.sel };have v:(s.set _<|txt T).choose b.J0 _ _=_:=hc;simp only[ v];by_cases y:bud-1-T.length=0
   .right;rw[if_pos y];exact⟨ω,_,rfl,h,Ak2 g _⟩
   .left;rw[if_neg y,show bud-1-T.length-1=bud-(2+18*(b.B0.length+m.A0.length))by omega];exact⟨ω,rfl⟩
def NI(b:Bldg)(s:Sto)(m:Img)(r:aA):Int:=if(s.cur.size:Int)+6<=b.J0 then 6 else 2+18*((b.B0.length:Int)+((AA m r).A0.length:Int))
def ZE(hb:b.small){s:Sto}(o:Jst b s m)(y:Ar b r=E)(q:Jf b m r=B)(v:0<=bud):
  (NI b s m r<=bud/\∃s',Qh b s m r bud=(s',AA m r,bud-NI b s m r,0)/\Jst b s' (AA m r))\/
  (bud<NI b s m r/\∃s',Qh b s m r bud=(s',m,0,8)/\s'.ok b.J0/\CW b s'=m):=by
 have D:=Ag o.img.code;have hc:b.B0.length<=100:=ω;have j:=(Kk o.img y).1;have u:=Alc o y q;obtain⟨rs,F,L,A⟩:=o.rs;have h:=VL o.ok;unfold Qh;rw[Img.ok_iff.2 o.img,y,U o.ok,Z ω,q];simp only[ H];unfold NI FE;by_cases g:s.cur.size+6<=b.J0
 .rw[if_pos g,U ω,V];have N:=Afl (t:=Da r) o.ok h v (by rw[<-Ai5 h,Ia];omega);rw[Ia,<-Ai5 h]at N;rw[N];by_cases h1:bud<((6:Nat):Int)
  .right;rw[if_pos h1];have hl:((Da r).take bud.toNat).length<6:=by rw[v_];omega
   refine⟨ω,_,rfl,UJ o.ok ?_,?_⟩
   .rw[<-Gf,Ru,La,e_,Gf];omega
   .rw[Aa7 hb hc (by rw[Aue h,Ru,La,F]) hl L,A]
  .left;rw[if_neg h1];refine⟨ω,_,rfl,UJ o.ok ?_,j,⟨rs++[r],?_,?_,?_⟩,u⟩
   .rw[<-Gf,Ru,La,e_,Gf,Ia];omega
   .rw[Aue h,Ru,La,F];simp
   .intro x w;rcases n_.1 w with w|w
    .exact L x w
    .rw[E_.1 w];exact y
   .rw[EF,A];rfl
 .rw[if_neg g,Z ω,H];rcases XH o.ok j v ω with⟨z,I⟩|⟨z,s',I,S,R⟩
  .left;rw[I];refine⟨z,_,rfl,Bcy (UJ o.ok ?_) ω,j,⟨FF _,?_,YI j,Ah1 j⟩,u⟩
   .rw[Qv,Afj j];omega
   .rw[Agb h,La]
  .right;rw[I];refine⟨z,s',rfl,S,?_⟩;rw[Aa7 hb hc (by rw[R,F,T_]) σ L,A]
def Jst.replay(hb:b.small){s:Sto}(h:Jst b s m):CW b s=m:=by have g:=Ag h.img.code;obtain⟨rs,o,q,j⟩:=h.rs;rw[Aa7 hb ω (by rw[o,T_]) σ q,j]
def Jst.first(g:b.code=0):Jst b Sto.no<|Pw b:=by
 have j:=ZQ g;refine⟨⟨ω,ω,?_,?_,.inl rfl⟩,Aek g,⟨[],rfl,(λr h=>by cases h),rfl⟩,?_⟩
 .show 0<=_;omega
 .show 0<=_;omega
 .show 18*(b.B0.length+(0:Int))+6<=_;omega
def Jst.ents{s:Sto}(g:Jst b s m):m.A0.length<=4000/\m.fit:=by have h1:=g.fits;have j:=(ZQ g.img.code).2;have g1:=g.img.lp;have h:=g.img.lf;have g3:=g.img.ll;exact⟨ω,ω,ω,ω,ω⟩
def Bpn{s:Sto}(hs:s.ok room):(s.cur.size:Int)<=room:=by
 obtain⟨_,_,h,g,_⟩:=hs;unfold Sto.cur;split
 .exact g
 .exact h
def Bcr(s:Sto)(m:Img)(bud e:Int):(Unit×Unit×Int×Int×Unit)×((ByteArray×ByteArray×Int×Unit)×(List Int×List Bool×List Bool×List J×Unit)×Unit):=(((),(),bud,e,()),((s.h0,s.h1,s.sel,()),m.tup,()))
def Dj(b:Bldg)(s:Sto)(bud:Int):Sto×Img×Int×Int:=
 bif(FD b s (CW b s) bud).2.2 !=0 then((FD b s (CW b s) bud).1,Img.none,0,(FD b s (CW b s) bud).2.2)
 else((FD b s (CW b s) bud).1,CW b s,(FD b s (CW b s) bud).2.1,0)
def Al2(g:b.code=0)(s:Sto)(hs:s.cur.size<=500000):ImgOK b (CW b s)/\(CW b s).A0.length<=90000/\(CW b s).fit:=by have hc:=Ag g;obtain⟨h1,v⟩:=ZF (Aek g) (rs:=VF b s.cur) λr j=>Wq b _ _ r j;have h:=Aa5 b s.cur.size<|bl s.cur;rw[Gf]at h;have o:(Pw b).A0.length=0:=rfl;have q:(VF b s.cur).length=(Jk b s.cur.size _).length:=rfl;have g1:=h1.lp;have u:=h1.lf;have g3:=h1.ll;exact⟨h1,by show(Aw _ _).A0.length<=_;omega,by show(Aw _ _).F0.length<=_;omega,by show(Aw _ _).L0.length<=_;omega,by show(Aw _ _).H0.length<=_;omega,by show(Aw _ _).A0.length<=_;omega⟩
def Ajv(hb:b.small)(g:b.code=0)(s:Sto)(hs:s.cur.size<=500000)(h:bud<9223372036854775808):
  Nt b.C0 b.E0 b.J0 b.M0 b.K0 b.N0 b.O0 b.B0 s.h0 s.h1 s.sel bud=C (Bcr (Dj b s bud).1 (Dj b s bud).2.1 (Dj b s bud).2.2.1 (Dj b s bud).2.2.2):=by
 have hc:=Ag g;obtain⟨_,_,hf⟩:=Al2 g s hs;unfold Nt Dj;rw[Amy hb g s hs];simp only[O,Img.tup];rw[WU hb ω s hf h];simp only[O,Sto.out];generalize FD b s _ bud=w;cases w.2.2 !=0<;>rfl
def XY(b:Bldg)(m:Img):Bool:=m.ok b&&decide (18*((b.B0.length:Int)+(m.A0.length:Int))+6<=b.J0)
def Bzm{a b:Nat}(h:a<=100000)(h':b<=100000):W.wrap (aC W (18*W.wrap ((a:Int)+(b:Int)))+6)=18*((a:Int)+(b:Int))+6:=by rw[Aa (n:=a+b) ω ω,Aa (n:=18*(a+b)) ω ω,Aa ω ω]
def VJ(hb:b.small)(m:Img)(hc:b.B0.length<=100000)(hf:m.fit):JM b.C0 b.E0 b.J0 b.M0 b.K0 b.N0 b.O0 b.B0 m.F0 m.L0 m.H0 m.A0=C ((XY b m,()),()):=by
 have g:100000<=maxLen:=by decide
 have hp:=hf.p;have h:=hf.e;unfold JM XY;rw[CV hb m ω ω];simp only[ Bzm hc h];cases m.ok b<;>rfl
def Acv(m:Img)(hf:m.fit):Kw m.F0 m.L0 m.H0 m.A0=C (((),()),(m.tup,())):=by
 have k:∀{α:Type}(l:List α),l.length<=100000->Lk l=C _:=λl h=>by unfold Lk;rw[Am ω];rfl
 unfold Kw AW AC AG;rw[k _ hf.p,k _ hf.f,k _ hf.l,k _ hf.e];rfl
def WW:aO:=⟨-1,0,0,[],0,B⟩
def GP(b:Bldg)(i:Nat):Car:=b.B0.getD i ⟨0,0,0,0,0,0,0,0,0⟩
def Tl(b:Bldg)(e:J):Int:=bif decide (0<=e.S0)then(GP b e.S0.toNat).D1 else 0
def Mch.none:Mch:=⟨Img.none,Sto.no,[],[],[],[],[],[],0,0,0⟩
def Agu(b:Bldg)(m:Img)(s:Sto):Mch:=⟨m,s,aD b.B0.length Fj,aD b.B0.length WW,aD b.B0.length BD,aD b.B0.length Aey,m.A0.map<|Tl b,aD b.B0.length Aj2,0,0,0⟩
def Mch.withB(m:Mch)(l:List aO):Mch:={ m with Y0:=l }
def Mch.withE(m:Mch)(l:List Int):Mch:={ m with K2:=l }
def Arx{α:Type}(a:α):∀k i:Nat,(aL i k).flatMap (λ_=>[a])=aD k a
 |0,_=>rfl
 |k+1,i=>by rw[e0_,a2_,Arx a k<|i+1];rfl
def Bf5{α β:Type}(f:α->β)(l:List α):l.flatMap (λx=>[f x])=l.map f:=by
 induction l with
 |nil=>rfl
 |cons a t g=>rw[a2_,g];rfl
def Asr(b:Bldg)(hc:b.B0.length<=1000)(m:Img)(z o:Mch)(u:o.Y0=[]):JA (((),(),(),(),(b.B0.length:Int),(0:Int),()),(b.tup,m.tup,z.tup,o.tup,()))=C (((),(),(),(),()),(b.tup,m.tup,z.tup,(o.withB<|aD b.B0.length WW).tup,())):=by
 have h:=BN (step:=λx=>letI d:=x.2.2.2;letI j:=d.2.1.2;letI a:=j.2.2.2.2;letI k:=d.1.2;letI c:=k.2.2.2.2;letI e:=c.2.2.2.2;letI f:=a.2.2.2.2;letI g:=x.2.1.2.2;letI n:=e.2.2;letI q:=f.2.2;letI r:=g.2.2;letI s:=x.2.2.1;FQ x.1.2.2.2.2.1 x.1.2.2.2.2.2.1 x.2.1.1 x.2.1.2.1 g.1 g.2.1 r.1 r.2.1 r.2.2.1 r.2.2.2.1 s.1 s.2.1 s.2.2.1 s.2.2.2.1 d.1.1 k.1 k.2.1 k.2.2.1 k.2.2.2.1 c.1 c.2.1 c.2.2.1 c.2.2.2.1 e.1 e.2.1 n.1 n.2.1 n.2.2.1 n.2.2.2.1 n.2.2.2.2.1 d.2.1.1 j.1 j.2.1 j.2.2.1 j.2.2.2.1 a.1 a.2.1 a.2.2.1 a.2.2.2.1 f.1 f.2.1 q.1 q.2.1 q.2.2.1 q.2.2.2.1 q.2.2.2.2.1) b.B0.length (λi (l:List aO)=>(((),(),(),(),b.B0.length,i,()),(b.tup,m.tup,z.tup,(o.withB l).tup,()))) (λ_ l=>l++[WW]) (λi l=>l.length<=i) _ (λi l v w=>by
  refine⟨?_,by rw[e_,D_];omega⟩;show FQ _ _ b.C0 b.E0 b.J0 b.M0 b.K0 b.N0 b.O0 b.B0 m.F0 m.L0 m.H0 m.A0 z.G0.F0 z.G0.L0 z.G0.H0 z.G0.A0 z.W0.h0 z.W0.h1 z.W0.sel z.J1 z.Y0 z.B0 z.E3 z.K2 z.F4 z.B4 z.I3 z.V2 (o.withB l).G0.F0 (o.withB l).G0.L0 (o.withB l).G0.H0 (o.withB l).G0.A0 (o.withB l).W0.h0 (o.withB l).W0.h1 (o.withB l).W0.sel (o.withB l).J1 (o.withB l).Y0 (o.withB l).B0 (o.withB l).E3 (o.withB l).K2 (o.withB l).F4 (o.withB l).B4 (o.withB l).I3 (o.withB l).V2=_;unfold FQ Ov;simp only[U (ω:i<(b.B0.length:Int)),O,FJ v (by unfold Df;omega)];rw[Am (by show l.length+1<=_;omega)];rfl) (λl _=>by
  show FQ _ _ b.C0 b.E0 b.J0 b.M0 b.K0 b.N0 b.O0 b.B0 m.F0 m.L0 m.H0 m.A0 z.G0.F0 z.G0.L0 z.G0.H0 z.G0.A0 z.W0.h0 z.W0.h1 z.W0.sel z.J1 z.Y0 z.B0 z.E3 z.K2 z.F4 z.B4 z.I3 z.V2 (o.withB l).G0.F0 (o.withB l).G0.L0 (o.withB l).G0.H0 (o.withB l).G0.A0 (o.withB l).W0.h0 (o.withB l).W0.h1 (o.withB l).W0.sel (o.withB l).J1 (o.withB l).Y0 (o.withB l).B0 (o.withB l).E3 (o.withB l).K2 (o.withB l).F4 (o.withB l).B4 (o.withB l).I3 (o.withB l).V2=_;unfold FQ;simp only[Z<|a0_ _];rfl) b.B0.length 0 [] ω σ
 have h':=Aj h.1 ω;rw[Mg _,Arx]at h';rw[show o.tup=(o.withB []).tup by unfold Mch.withB Mch.tup;rw[u]];exact h'
def Ass(b:Bldg){l:List J}(I:l.length<=100000)(w:∀e∈l,e.S0<(b.B0.length:Int))(z o:Mch)(F:o.K2=[]):JB (((),(),(),l,(l.length:Int),(0:Int),()),(b.tup,z.tup,o.tup,()))=C (((),(),()),(z.tup,(o.withE<|l.map<|Tl b).tup,())):=by
 have h:=BN (step:=λx=>letI j:=x.2.2;letI n:=j.2.1.2;letI a:=n.2.2.2.2;letI m:=j.1.2.2;letI c:=m.2.2.2.2;letI d:=a.2.2.2.2;letI f:=c.2.2.2.2;letI k:=x.2.1.2.2;letI r:=d.2.2;letI s:=k.2.2;letI u:=f.2.2;FR x.1.2.2.2.1 x.1.2.2.2.2.1 x.1.2.2.2.2.2.1 x.2.1.1 x.2.1.2.1 k.1 k.2.1 s.1 s.2.1 s.2.2.1 s.2.2.2.1 j.1.1 j.1.2.1 m.1 m.2.1 m.2.2.1 m.2.2.2.1 c.1 c.2.1 c.2.2.1 c.2.2.2.1 f.1 f.2.1 u.1 u.2.1 u.2.2.1 u.2.2.2.1 j.2.1.1 n.1 n.2.1 n.2.2.1 n.2.2.2.1 a.1 a.2.1 a.2.2.1 a.2.2.2.1 d.1 d.2.1 r.1 r.2.1 r.2.2.1 r.2.2.2.1 r.2.2.2.2.1) l.length (λi (q:List Int)=>(((),(),(),l,l.length,i,()),(b.tup,z.tup,(o.withE q).tup,()))) (λi q=>q++[Tl b _]) (λi q=>q.length<=i) _ (λi q A hq=>by
  refine⟨?_,by rw[e_,D_];omega⟩;have hc:=w _<|AE noE A;have D:∀v:Int,aP ((o.withE q).K2.length+[v].length) 2147483648=E:=λv=>Am (by show q.length+1<=_;omega);show FR l _ _ b.C0 b.E0 b.J0 b.M0 b.K0 b.N0 b.O0 b.B0 z.G0.F0 z.G0.L0 z.G0.H0 z.G0.A0 z.W0.h0 z.W0.h1 z.W0.sel z.J1 z.Y0 z.B0 z.E3 z.K2 z.F4 z.B4 z.I3 z.V2 (o.withE q).G0.F0 (o.withE q).G0.L0 (o.withE q).G0.H0 (o.withE q).G0.A0 (o.withE q).W0.h0 (o.withE q).W0.h1 (o.withE q).W0.sel (o.withE q).J1 (o.withE q).Y0 (o.withE q).B0 (o.withE q).E3 (o.withE q).K2 (o.withE q).F4 (o.withE q).B4 (o.withE q).I3 (o.withE q).V2=_;unfold FR;rw[show Entry.mk 0 0 0 0 B=noE from rfl];simp only[U (ω:i<(l.length:Int)),Ac ω (ω:(i:Int)<l.length),l_];have y:Tl b _=bif decide _ then(GP b (l.getD i noE).S0.toNat).D1 else 0:=rfl;rw[y];by_cases g:0<=(l.getD i noE).S0
  .rw[U g,Ac g hc];simp only[V,O,D,FJ A (by unfold Df;omega)];rfl
  .rw[Z g];simp only[H,O,D,FJ A (by unfold Df;omega)];rfl) (λq _=>by
  show FR l _ _ b.C0 b.E0 b.J0 b.M0 b.K0 b.N0 b.O0 b.B0 z.G0.F0 z.G0.L0 z.G0.H0 z.G0.A0 z.W0.h0 z.W0.h1 z.W0.sel z.J1 z.Y0 z.B0 z.E3 z.K2 z.F4 z.B4 z.I3 z.V2 (o.withE q).G0.F0 (o.withE q).G0.L0 (o.withE q).G0.H0 (o.withE q).G0.A0 (o.withE q).W0.h0 (o.withE q).W0.h1 (o.withE q).W0.sel (o.withE q).J1 (o.withE q).Y0 (o.withE q).B0 (o.withE q).E3 (o.withE q).K2 (o.withE q).F4 (o.withE q).B4 (o.withE q).I3 (o.withE q).V2=_;unfold FR;simp only[Z<|a0_ _];rfl) l.length 0 [] ω σ
 have h':=Aj h.1 ω;rw[Mg _,PD (λe=>[Tl b e]) noE l 0 l.length ω,Bf5]at h';rw[show o.tup=(o.withE []).tup by unfold Mch.withE Mch.tup;rw[F]];exact h'
def Pt(b:Bldg)(m:Img)(s:Sto):Mch×Int:=bif XY b m&&decide (s.ok b.J0)then(Agu b m s,0)else(Mch.none,1)
def Afa(hb:b.small)(m:Img)(hf:m.fit)(hc:b.B0.length<=1000)(s:Sto):Ly b.C0 b.E0 b.J0 b.M0 b.K0 b.N0 b.O0 b.B0 m.F0 m.L0 m.H0 m.A0 s.h0 s.h1 s.sel=C (((),(Pt b m s).2,()),((Pt b m s).1.tup,())):=by
 unfold Ly Pt;rw[VJ hb m ω hf,GK,Acv m hf];simp only[O];cases hq:XY b m with
 |false=>rfl
 |true=>
  have hm:ImgOK b m:=by unfold XY at hq;rw[a_]at hq;exact Img.ok_iff.1 hq.1
  by_cases hs:s.ok b.J0
  .rw[U hs];have e:=hf.e
   let o:Mch:=⟨m,s,aD b.B0.length Fj,[],aD b.B0.length BD,aD b.B0.length Aey,[],aD b.B0.length Aj2,0,0,0⟩
   have h:=Asr b hc m Mch.none o rfl;have g:=Ass b e (λx j=>(FT.1<|hm.en x j).2.1.2) Mch.none (o.withB<|aD b.B0.length WW) rfl;simp only[Mch.tup,Img.tup,Bldg.tup,Mch.none,Img.none,Sto.no,noB,o]at h g;have dl:∀n:Nat,n<=1000->(aJ ((0:Int)<=(n:Int))&&decide (n<=(n:Int))&&decide (n<=(2147483648:Int)))=E:=λn q=>by rw[ U<|b8_ _,U (ω:(n:Int)<=2147483648)];rfl
   simp only[ dl _ hc,l_,Img.tup];rw[show Debounced.mk 0 B B B B 0 0 0 0 0 0 0 0 0 0 0 0 0 0 0 0 0 0 0 0 0 0 0 0 0 0 0 0 0 0 0 0 0 0 0 0=Fj from rfl,show NewCar.mk 0 0 0 0 0 B 0 0 0 0 0 0 0 B=BD from rfl,show Loaded.mk 0=Aey from rfl,show Calls.mk 0 0=Aj2 from rfl];rw[h];simp only[O];rw[g];rfl
  .rw[Z hs];rfl
def Pm(b:Bldg)(s:Sto)(bud:Int):Mch×Int×Int:=
 bif(Dj b s bud).2.2.2 !=0 then({ Mch.none with W0:=(Dj b s bud).1 },0,(Dj b s bud).2.2.2)
 else bif(Pt b (Dj b s bud).2.1 (Dj b s bud).1).2 !=0 then(Mch.none,0,(Pt b (Dj b s bud).2.1 (Dj b s bud).1).2)
 else((Pt b (Dj b s bud).2.1 (Dj b s bud).1).1,(Dj b s bud).2.2.1,0)
def Bko(g:b.code=0)(s:Sto)(hs:s.cur.size<=500000)(bud:Int):(Dj b s bud).2.1.fit:=by
 obtain⟨_,_,hf⟩:=Al2 g s hs;unfold Dj;cases(FD b s _ bud).2.2 !=0 with
 |true=>exact⟨Q_ _,Q_ _,Q_ _,Q_ _⟩
 |false=>exact hf
def VH(hb:b.small)(g:b.code=0)(s:Sto)(hs:s.cur.size<=500000)(h:bud<9223372036854775808):HE b.C0 b.E0 b.J0 b.M0 b.K0 b.N0 b.O0 b.B0 s.h0 s.h1 s.sel bud=C (((),(Pm b s bud).2.1,(Pm b s bud).2.2,()),((Pm b s bud).1.tup,())):=by
 have hc:=Ag g;unfold HE Pm;rw[Ajv hb g s hs h];have hf:=Bko g s hs bud;simp only[O,Bcr,Img.tup];generalize Dj b s bud=w at hf|-;cases w.2.2.2 !=0 with
 |true=>rfl
 |false=>rw[Afa hb w.2.1 hf ω w.1];simp only[O];generalize Pt b w.2.1 w.1=f;cases f.2 !=0<;>rfl
def Kg(b:Bldg):Mch×Int:=bif b.code==0 then((Pm b Sto.no 1048576).1,(Pm b Sto.no 1048576).2.2)else(Mch.none,1)
def Afb(hb:b.small)(g:b.code=0):Lz b.C0 b.E0 b.J0 b.M0 b.K0 b.N0 b.O0 b.B0=C (((),(Kg b).2,()),((Kg b).1.tup,())):=by unfold Lz Kg;rw[Ap,g];rw[show HE b.C0 b.E0 b.J0 b.M0 b.K0 b.N0 b.O0 b.B0 (aK _) (aK _) 0 1048576=_ from VH hb g Sto.no τ ω];rfl
def Aux:∀{l:List Nat}{a n:Nat},l.Pairwise (· < ·)->(∀x∈l,a<=x/\x<n)->l.length+a<=n\/l=[]
 |[],_,_,_,_=>.inr rfl
 |x::t,a,n,h,j=>by
  left;obtain⟨h1,o⟩:=f4_.1 h;have u:=j x<|H_ ..;rcases Aux o (λy g=>⟨h1 y g,(j y<|L_ _ g).2⟩)with q|q
  .rw[s_];omega
  .subst q;simp;omega
def Bjv(hb:b.small)(hm:ImgOK b m):(m.A0.length:Int)<=2*(b.C0-1):=by
 have lo:=hb.lo
 let ix:Int×Int->Nat:=λp=>if p.1=0 then 0 else if p.1=b.C0-1 then(2*b.C0-3).toNat else(2*p.1+p.2-2).toNat
 have g:∀p∈m.A0.map HZ,(p.2=1/\0<=p.1/\p.1<=b.C0-2)\/(p.2=2/\1<=p.1/\p.1<=b.C0-1):=λp hp=>by obtain⟨e,j,rfl⟩:=b3_.1 hp;have h1:=(FT.1<|hm.en e j).1;unfold Au NE at h1;simp only[a_,V_,a1_,Ah]at h1;show(e.I0=1/\0<=e.D0/\e.D0<=b.C0-2)\/(e.I0=2/\1<=e.D0/\e.D0<=b.C0-1);omega
 have hp:((m.A0.map HZ).map ix).Pairwise (· < ·):=by rw[List.pairwise_map];refine List.Pairwise.imp_of_mem (λ{p q} hp hq h=>?_) hm.so;have u:=g p hp;have v2:=g q hq;unfold ltC at h;simp only[ix];split<;>split<;>(try split)<;>(try split)<;>omega
 rcases Aux (n:=(2*b.C0-2).toNat) hp (λx o=>by
  obtain⟨p,hp,rfl⟩:=b3_.1 o;have u:=g p hp;refine⟨Q_ _,?_⟩;simp only[ix];split
  .omega
  .split<;>omega)with q|q
 .rw[a3_,a3_]at q;omega
 .have:=J_ List.length q
  rw[a3_,a3_,c6_]at this;omega
def Aut(hm:ImgOK b m)(g:18*((b.B0.length:Int)+(m.A0.length:Int))+6<=b.J0):XY b m=E:=by unfold XY;rw[Img.ok_iff.2 hm,U g];rfl
def Aef(hm:ImgOK b m)(g:18*((b.B0.length:Int)+(m.A0.length:Int))+6<=b.J0){s:Sto}(hs:s.ok b.J0):Pt b m s=(Agu b m s,0):=by unfold Pt;rw[Aut hm g,U hs];rfl
def Auc(y:b.small){s:Sto}(hs:s.ok b.J0)(hm:ImgOK b m)(g:CW b s=m)(h:18*((b.B0.length:Int)+(m.A0.length:Int))+6<=b.J0)(q:0<=bud):
  (2+18*((b.B0.length:Int)+(m.A0.length:Int))<=bud/\Pm b s bud=(Agu b m { s.set (1-s.sel) (txt<|(FF m).flatMap Da)with sel:=1-s.sel },bud-(2+18*((b.B0.length:Int)+(m.A0.length:Int))),0)/\Jst b { s.set (1-s.sel) (txt<|(FF m).flatMap Da)with sel:=1-s.sel } m)\/
  (bud<2+18*((b.B0.length:Int)+(m.A0.length:Int))/\∃s',Pm b s bud=({ Mch.none with W0:=s' },0,8)/\s'.ok b.J0/\CW b s'=m):=by
 have j:=VL hs;unfold Pm Dj;rw[g];rcases XH hs hm q ω with⟨o,u⟩|⟨o,s',u,x,w⟩
 .left;have v:Jst b { s.set (1-s.sel) (txt<|(FF m).flatMap Da)with sel:=1-s.sel } m:=by
   refine⟨Bcy (UJ hs ?_) ω,hm,⟨FF m,?_,YI hm,Ah1 hm⟩,h⟩
   .rw[Qv,Afj hm];omega
   .rw[Agb j,La]
  rw[u];refine⟨o,?_,v⟩;simp only[P_,H];rw[Aef hm h v.ok];rfl
 .right;rw[u];refine⟨o,s',rfl,x,?_⟩;rw[<-g];unfold CW;rw[w]
def Aki(a:List Calls)(h:a.length<=100000):Lw a a=C ((E,()),()):=by have l:MS ((a,a,0,()),())=C (.inl ((),())):=FB h (λi=>((a,a,(i:Int),()),())) (λi g=>by simp only[lp,Un.u,MT,Lm g,Ga g,GS h g,p_,c7_,W_,V,H]) (by simp only[lp,Un.u,MT,Ip,H]);unfold Lw;rw[l];simp
def Am9(a:List Int)(h:a.length<=100000):Mx a a=C ((E,()),()):=by have l:NT ((a,a,0,()),())=C (.inl ((),())):=FB h (λi=>((a,a,(i:Int),()),())) (λi g=>by simp only[lp,Un.u,NV,Lm g,Ga g,GS h g,P_,V,H]) (by simp only[lp,Un.u,NV,Ip,H]);unfold Mx;rw[l];simp
def Bgp(x:aO)(h:x.B1.length<=100000):SC x.D0 x.I0 x.G1 x.B1 x.G3 x.A4 x.D0 x.I0 x.G1 x.B1 x.G3 x.A4=C ((E,()),()):=by have l:TH (((),(),0,()),(x.tup,x.tup,()))=C (.inl ((),())):=FB h (λi=>(((),(),(i:Int),()),(x.tup,x.tup,()))) (λi g=>by unfold Belief.tup;simp only[lp,Un.u,TO,Lm g,Ga g,GS h g,p_,c7_,W_,V,H]) (by unfold Belief.tup;simp only[lp,Un.u,TO,Ip,H]);unfold SC;simp only[Belief.tup]at l;rw[l];simp
def Bgq{m:Mch}(hm:m.fit):SD m.G0.F0 m.G0.L0 m.G0.H0 m.G0.A0 m.W0.h0 m.W0.h1 m.W0.sel m.J1 m.Y0 m.B0 m.E3 m.K2 m.F4 m.B4 m.I3 m.V2 m.G0.F0 m.G0.L0 m.G0.H0 m.G0.A0 m.W0.h0 m.W0.h1 m.W0.sel m.J1 m.Y0 m.B0 m.E3 m.K2 m.F4 m.B4 m.I3 m.V2=C ((E,()),()):=by have q:OU (((),(),0,()),(m.tup,m.tup,()))=C (.inl (((),(),()),(m.tup,m.tup,()))):=FB hm.co (λi=>(((),(),(i:Int),()),(m.tup,m.tup,()))) (λi g=>by unfold Mch.tup;simp only[lp,Un.u,TP,Lm g,Ga g,GS hm.co g,p_,c7_,W_,V,H]) (by unfold Mch.tup;simp only[lp,Un.u,TP,Ip,H]);have j:OV (((),(),0,()),(m.tup,m.tup,()))=C (.inl (((),(),()),(m.tup,m.tup,()))):=FB hm.be (λi=>(((),(),(i:Int),()),(m.tup,m.tup,()))) (λi g=>by have o:=Bgp (m.Y0.getD i KN)<|hm.du _ (by rw[k_,i_ g];exact a4_ g);rw[KN]at o;unfold Mch.tup;simp only[lp,Un.u,TQ,Lm g,Ga g,GS hm.be g,l_,o,O,W_,V,H]) (by unfold Mch.tup;simp only[lp,Un.u,TQ,Ip,H]);have v:OW (((),(),0,()),(m.tup,m.tup,()))=C (.inl (((),(),()),(m.tup,m.tup,()))):=FB hm.ca (λi=>(((),(),(i:Int),()),(m.tup,m.tup,()))) (λi g=>by unfold Mch.tup;simp only[lp,Un.u,TR,Lm g,Ga g,GS hm.ca g,p_,c7_,W_,V,H]) (by unfold Mch.tup;simp only[lp,Un.u,TR,Ip,H]);have h:OX (((),(),0,()),(m.tup,m.tup,()))=C (.inl ((),())):=FB hm.lo (λi=>(((),(),(i:Int),()),(m.tup,m.tup,()))) (λi g=>by unfold Mch.tup;simp only[lp,Un.u,TS,Lm g,Ga g,GS hm.lo g,p_,c7_,W_,V,H]) (by unfold Mch.tup;simp only[lp,Un.u,TS,Ip,H]);simp only[Mch.tup]at q j v h;unfold SD;rw[Atu hm.im,Ax7,Aki _ hm.li,Am9 _ hm.ex];simp only[O,Ap3,p_,P_,c7_,W_,H,q,j,v,h]
def Vg{p:Nat->Bool}:∀m i:Nat,(∀k,i<=k->k<i+m->p k=E)->Pl p m i=E
 |0,_,_=>rfl
 |m+1,i,h=>by simp only[Pl];rw[h i (q_ _) ω];exact Vg m (i+1) λk h1 g=>h k ω ω
def TW{p:Nat->Bool}:∀m i:Nat,Pl p m i=E->∀k,i<=k->k<i+m->p k=E
 |0,_,_,k,h1,j=>by omega
 |m+1,i,h,k,h1,j=>by
  simp only[Pl,a_]at h;rcases f2_ i k with g|g
  .exact TW m (i+1) h.2 k ω ω
  .obtain rfl:k=i:=ω;exact h.1
def Sr{xs:List Int}(j:xs.length<=100000)(h:∀x∈xs,0<=x/\x<=1000000):HU xs=C ((E,()),()):=by
 have l:Cp ((xs,(),xs.length,0,()),())=C (.inl ((),())):=FB j (λi=>((xs,(),(xs.length:Int),(i:Int),()),())) (λi g=>by
  have o:=h _<|AE 0 g;have e:IQ (xs.getD i 0)=C ((B,()),()):=by unfold IQ;rw[Z ω,Z ω];rfl
  simp only[lp,Un.u,Cq,Lm g,Ga g,GS j g,l_,e,V,H,O]) (by simp only[lp,Un.u,Cq,Ip,H])
 unfold HU Cd Cz;rw[l];rfl
def Ad4(x:aU):List Int:=[x.R5,x.S5,x.T5,x.U5,x.V5,x.W5,x.X5,x.Y5,x.Z5,x.A6,x.K4,x.L4,x.M4,x.N4,x.O4,x.P4,x.R4,x.S4,x.T4,x.U4,x.V4,x.W4,x.X4,x.Y4,x.Z4,x.A5,x.B5,x.C5,x.E5,x.F5,x.G5,x.H5,x.I5,x.J5,x.K5,x.L5]
def Apl(n:Int)(x:aU)(i:Nat):Bool:=decide (0<=(Ad4 x).getD i 0)&&decide ((Ad4 x).getD i 0<n)
def Vn(n:Int)(x:aU):Bool:=decide (1<=n)&&(aJ (n<=16)&&Pl (Apl n x) 36 0)
def ZR{x:aU}(h:Vn n x=E):Eg n x.C1 x.X2 x.D2 x.E2 x.R1 x.R5 x.S5 x.T5 x.U5 x.V5 x.W5 x.X5 x.Y5 x.Z5 x.A6 x.K4 x.L4 x.M4 x.N4 x.O4 x.P4 x.R4 x.S4 x.T4 x.U4 x.V4 x.W4 x.X4 x.Y4 x.Z4 x.A5 x.B5 x.C5 x.E5 x.F5 x.G5 x.H5 x.I5 x.J5 x.K5 x.L5=C ((E,()),()):=by unfold Vn at h;simp only[a_,t_]at h;obtain⟨h1,q,o⟩:=h;have l:Ik ((n,(x.R5,x.S5,x.T5,x.U5,x.V5,x.W5,x.X5,x.Y5,x.Z5,x.A6,x.K4,x.L4,x.M4,x.N4,x.O4,x.P4,x.R4,x.S4,x.T4,x.U4,x.V4,x.W4,x.X4,x.Y4,x.Z4,x.A5,x.B5,x.C5,x.E5,x.F5,x.G5,x.H5,x.I5,x.J5,x.K5,x.L5,()),0,()),())=C _:=FB (N:=36) τ (λi=>((n,(x.R5,x.S5,x.T5,x.U5,x.V5,x.W5,x.X5,x.Y5,x.Z5,x.A6,x.K4,x.L4,x.M4,x.N4,x.O4,x.P4,x.R4,x.S4,x.T4,x.U4,x.V4,x.W4,x.X4,x.Y4,x.Z4,x.A5,x.B5,x.C5,x.E5,x.F5,x.G5,x.H5,x.I5,x.J5,x.K5,x.L5,()),(i:Int),()),())) (λi j=>by have g:=TW 36 0 o i (Q_ _) ω;unfold Apl at g;simp only[a_,t_]at g;show CO n x.R5 x.S5 x.T5 x.U5 x.V5 x.W5 x.X5 x.Y5 x.Z5 x.A6 x.K4 x.L4 x.M4 x.N4 x.O4 x.P4 x.R4 x.S4 x.T4 x.U4 x.V4 x.W4 x.X4 x.Y4 x.Z4 x.A5 x.B5 x.C5 x.E5 x.F5 x.G5 x.H5 x.I5 x.J5 x.K5 x.L5 (i:Int)=_;unfold CO;simp only[U (ω:(i:Int)<36),Ga j,GS τ j,V];show(bif decide ((Ad4 x).getD i 0<0)then _ else bif decide (n<=(Ad4 x).getD i 0)then _ else _)=_;rw[Z ω,Z ω];rfl) (by rfl);unfold Eg;rw[Z ω,Z ω,l];rfl
def Vx(a b:Duty):Bool:=decide (a.D0<b.D0)||(a.D0==b.D0&&decide (a.I0<b.I0))
def Aco{a b:Duty}(h:Vx a b=E):∃n:Int,CK a.D0 a.I0 a.P5 b.D0 b.I0 b.P5=C ((n,()),())/\decide (0<=n)=B:=by
 unfold CK;rw[HM,HM];simp only[O];rw[ZP];refine⟨_,rfl,?_⟩;unfold Vx at h;simp only[V_,a_,t_,a1_]at h;unfold XE;rcases h with h|⟨h,h'⟩
 .rw[U h];rfl
 .rw[h,Z<|a0_ _,U h'];rfl
def Ua(n lo g:Int):DD n lo g=C ((inR lo g n,()),()):=by unfold DD inR;cases decide (lo<=n)<;>rfl
def Aw2(x:aO)(i:Nat):Bool:=i==0||Vx (x.B1.getD (i-1) Ic) (x.B1.getD i Ic)
def Ap0(b:Bldg)(car:Nat)(x:aO)(i:Nat):Bool:=Au b (x.B1.getD i Ic).D0 (x.B1.getD i Ic).I0&&(inR 0 (GP b car).D1 (x.B1.getD i Ic).P5&&Aw2 x i)
def Afw(b:Bldg)(car:Nat)(x:aO):Bool:=inR (-1) (b.C0-1) x.D0&&(inR 0 3 x.I0&&(inR 0 3 x.G1&&(inR 0 1000000 x.G3&&(!(x.A4&&decide ((0:Int)<(x.B1.length:Int)))&&Pl (Ap0 b car x) x.B1.length 0))))
def So(hb:b.small)(g:b.code=0){car:Nat}(q:car<b.B0.length){x:aO}(A:x.B1.length<=100000)(h:Afw b car x=E):Co b.C0 b.E0 b.J0 b.M0 b.K0 b.N0 b.O0 b.B0 (car:Int) x.D0 x.I0 x.G1 x.B1 x.G3 x.A4=C ((E,()),()):=by
 have lo:=hb.lo;have I:=hb.hi;have h0:=Ag g;unfold Afw at h;simp only[a_]at h;obtain⟨h1,N,L,F,z,D⟩:=h;have l:LV _=C (.inl ((),())):=FB A (λi=>(((car:Int),(),(),x.B1,(x.B1.length:Int),(i:Int),()),(b.tup,x.tup,()))) (λi y=>by
  have hp:=TW _ 0 D i (Q_ _) ω;unfold Ap0 Aw2 at hp;simp only[a_]at hp;obtain⟨v,w,R⟩:=hp;show IU _ x.B1 _ _ b.C0 b.E0 b.J0 b.M0 b.K0 b.N0 b.O0 b.B0 x.D0 x.I0 x.G1 x.B1 x.G3 x.A4=_;unfold IU;have w:inR 0 (b.B0.getD car _).D1 (x.B1.getD i<|aQ 0 0 0).P5=E:=w;have v:Au b (x.B1.getD i<|aQ 0 0 0).D0 (x.B1.getD i<|aQ 0 0 0).I0=E:=v;simp only[Lm y,Ga y,Ga q,l_,Jd hb,Ua,O,v,w,W_,H];cases i with
  |zero=>rfl
  |succ j=>rw[U ω,Aa ω ω,show _-1=(j:Int)by omega,Ga ω];obtain⟨n,S,e2⟩:=Aco R;simp only[V,l_];rw[show CK (x.B1.getD j<|aQ 0 0 0).D0 (x.B1.getD j<|aQ 0 0 0).I0 (x.B1.getD j<|aQ 0 0 0).P5 (x.B1.getD (j+1)<|aQ 0 0 0).D0 (x.B1.getD (j+1)<|aQ 0 0 0).I0 (x.B1.getD (j+1)<|aQ 0 0 0).P5=_ from S];simp only[O,e2,GS A y];rfl) (by
  simp only[lp,Un.u,IU,Ip,H])
 have r:(bif x.A4 then decide (0<(x.B1.length:Int))else B)=B:=by
  cases o:x.A4 with
  |false=>rfl
  |true=>rw[o]at z;simpa using z
 unfold Co;rw[Ap,g];simp only[Ua,Aa (n:=b.B0.length-1) ω ω,Aa (n:=b.C0-1) ω ω,show inR 0 (b.B0.length-1) car=E from Ah.2 ⟨ω,ω⟩,h1,N,L,F];cases o:x.A4 with
 |false=>rw[Belief.tup,o]at l;exact Ae rfl<|Ae l rfl
 |true=>rw[o]at r;rw[Belief.tup,o]at l;have r:decide _=B:=r;rw[ r];exact Ae rfl<|Ae l rfl
def Qu(x:aG):Bool:=inR 0 2 x.S1&&inR 0 7 x.E1
def SS(x:aG):Bool:=(x.X0==0)&&((x.L1==0)&&((x.I1==0)&&((x.K1==B)&&((x.F1==0)&&E))))
def Rx(x:aG):Bool:=bif x.X0==0 then SS x else inR 0 3 x.X0&&(inR 0 1000000 x.L1&&(inR 0 1000000 x.I1&&inR 0 1000000 x.F1))
def Ara(x:aG):Bool:=(x.U0==0)&&((x.Z0==0)&&((x.V0==0)&&E))
def Vz(fl:Int)(x:aG):Bool:=inR 0 1000000 x.Z0&&(bif x.U0==0 then x.V0==0 else bif x.U0==1 then inR 0 (fl-1) x.V0&&inR 0 (fl-1) (x.V0+1)else bif x.U0==2 then inR 0 (fl-1) x.V0&&inR 0 (fl-1) (x.V0-1)else B)
def Ai2(x:aG):Bool:=(x.S1==0)&&((x.E1==0)&&((x.X0==0)&&((x.L1==0)&&((x.I1==0)&&((x.K1==B)&&((x.F1==0)&&((x.U0==0)&&((x.Z0==0)&&((x.V0==0)&&((x.I2==0)&&((x.H3==0)&&((x.V3==0)&&((x.J3==E)&&E)))))))))))))
def Ahs(fl:Int)(x:aG):Bool:=(aV x.I2 ((2:Int)^(aB fl))==0)&&(inR 0 2 x.H3&&inR 0 1000000 x.V3)
def Ako(fl:Int)(x:aG):Bool:=Qu x&&(Rx x&&(Vz fl x&&((SS x||Ara x)&&Ahs fl x)))
def Hr(b:Bldg)(x:aG):Bool:=bif x.J3 then Ai2 x else Ako b.C0 x
def EQ(x:aG):BY x.S1 x.E1=C ((Qu x,()),()):=by unfold BY Qu inR;cases decide (0<=x.S1)<;>cases decide (x.S1<=2)<;>cases decide (0<=x.E1)<;>rfl
def Agd(n:Int):Hy n=C ((inR 0 1000000 n,()),()):=by unfold Hy inR;cases decide (0<=n)<;>rfl
def Pq(x:aG):Gh x.X0 x.L1 x.I1 x.K1 x.F1=C ((Rx x,()),()):=by
 unfold Gh Rx SS;simp only[Agd];cases x.X0==0 with
 |true=>rfl
 |false=>unfold inR;cases decide (0<=x.X0)<;>cases decide (x.X0<=3)<;>cases(aJ (0<=x.L1)&&decide (x.L1<=1000000))<;>cases(aJ (0<=x.I1)&&decide (x.I1<=1000000))<;>rfl
def MW(h:2<=fl/\fl<=8)(x:aG):Gk fl x.U0 x.Z0 x.V0=C ((Vz fl x,()),()):=by
 unfold Gk Vz;rw[Z ω,Z ω];by_cases t:0<=x.Z0/\x.Z0<=1000000
 .rw[Z ω,Z ω,show inR 0 1000000 x.Z0=E from Ah.2 t];by_cases f:0<=x.V0/\x.V0<fl
  .rw[Z ω,Z ω,show inR 0 _ x.V0=E from Ah.2 ⟨f.1,ω⟩];by_cases j:x.U0=0
   .rw[j];rfl
   .rw[At j];unfold Fs;by_cases c1:x.U0=1
    .rw[c1];simp only[P_,H,O,V];rw[show List.getD [0,1,-1] _ 0=1 from rfl,Aa ω ω];unfold inR;by_cases z:x.V0+1<fl
     .rw[U z,U ω,U ω];rfl
     .rw[Z z,U ω,Z ω];rfl
    .rw[Jc c1,At c1];by_cases g:x.U0=2
     .rw[g];simp only[ H,O,V];rw[show List.getD [0,1,-1] _ 0=-1 from rfl,Aa ω ω,show x.V0+ -1=x.V0-1 by omega];unfold inR;by_cases z:0<=x.V0-1
      .rw[U z,U ω,U ω];rfl
      .rw[Z z];rfl
     .rw[Jc g,At g];rfl
  .have hf:inR 0 (fl-1) x.V0=B:=by
    cases hq:inR 0 _ x.V0 with
    |false=>rfl
    |true=>have:=Ah.1 hq;omega
   rw[hf];have o:(x.V0==0)=B:=At ω;rw[o];simp only[e2_];have e:(bif x.U0==0 then B else bif x.U0==1 then B else bif x.U0==2 then B else B)=B:=by cases x.U0==0<;>cases x.U0==1<;>cases x.U0==2<;>rfl
   rw[e];by_cases z:x.V0<0
   .rw[U z];rfl
   .rw[Z z,U ω];rfl
 .have hf:inR 0 1000000 x.Z0=B:=by
   cases hq:inR 0 1000000 x.Z0 with
   |false=>rfl
   |true=>exact absurd (Ah.1 hq) t
  rw[hf];by_cases z:x.Z0<0
  .rw[U z];rfl
  .rw[Z z,U ω];rfl
def JE(hb:b.small)(j:b.code=0)(x:aG):EJ b.C0 b.E0 b.J0 b.M0 b.K0 b.N0 b.O0 b.B0 x.S1 x.E1 x.X0 x.L1 x.I1 x.K1 x.F1 x.U0 x.Z0 x.V0 x.I2 x.H3 x.V3 x.J3=C ((Hr b x,()),()):=by
 have lo:=hb.lo;have o:=hb.hi;have g:aR _ (IntKind.bits aF)=aB b.C0:=d5_ (by show _<=32;omega);unfold EJ Hr;rw[Ap,j];simp only[O,P_];cases hF:x.J3 with
 |true=>
  have L:Ai2 x=((x.S1==0)&&((x.E1==0)&&((x.X0==0)&&((x.L1==0)&&((x.I1==0)&&((x.K1==B)&&((x.F1==0)&&((x.U0==0)&&((x.Z0==0)&&((x.V0==0)&&((x.I2==0)&&((x.H3==0)&&((x.V3==0)&&((E==E)&&E)))))))))))))):=by unfold Ai2;rw[hF]
  rw[V,<-L];cases hq:Ai2 x with
  |false=>rfl
  |true=>
   have h:=hq;unfold Ai2 at h;simp only[a_,a1_]at h;obtain⟨S,e2,z,I,A,F,D,N,e9,y,w,u,v,_⟩:=h;simp only[ O,H,EQ,Pq,MW ⟨lo,o⟩];have s1:Qu x=E:=by unfold Qu;rw[S,e2];rfl
   have s2:Rx x=E:=by unfold Rx SS;rw[z,I,A,F,D];rfl
   have R:Vz b.C0 x=E:=by unfold Vz;rw[N,e9,y];rfl
   rw[s1,s2,R,z,I,A,F,D,w,u,v];simp only[p_,f8_,W_,H,O];rw[U ω,g];rfl
 |false=>
  simp only[O,H,EQ,Pq,MW ⟨lo,o⟩];unfold Ako;cases Qu x with
  |false=>rfl
  |true=>
  cases Rx x with
  |false=>rfl
  |true=>
  cases Vz b.C0 x with
  |false=>rfl
  |true=>
   rw[show((x.X0==0)&&((x.L1==0)&&((x.I1==0)&&((x.K1==B)&&((x.F1==0)&&E)))))=SS x from rfl,show((x.U0==0)&&((x.Z0==0)&&((x.V0==0)&&E)))=Ara x from rfl];have q:(bif decide (0<=b.C0)then bif(aV x.I2 (2^(aB b.C0))==0)then bif decide (0<=x.H3)then bif decide (x.H3<=2)then bif decide (0<=x.V3)then C ((aJ<|x.V3<=1000000,()),())else C ((B,()),())else C ((B,()),())else C ((B,()),())else C ((B,()),())else none)=C ((Ahs b.C0 x,()),()):=by rw[U ω];unfold Ahs inR;cases aV x.I2 _==0<;>cases decide (0<=x.H3)<;>cases decide (x.H3<=2)<;>cases decide (0<=x.V3)<;>rfl
   cases SS x with
   |true=>simp only[W_,H,O,Bool.true_or];rw[g,q];rfl
   |false=>
    cases Ara x with
    |true=>simp only[W_,Bool.not_false,V,H,O,Bool.false_or];rw[g,q];rfl
    |false=>rfl
def Acq(hb:b.small)(g:b.code=0){l:List aU}(o:l.length=b.B0.length)(h:∀x∈l,Vn b.E0 x=E):AV l (b.B0.length:Int) b.C0 b.E0 b.J0 b.M0 b.K0 b.N0 b.O0 b.B0=C ((E,()),(b.tup,())):=by
 have v:=Ag g;have q:Bx _=C _:=FB (N:=l.length) ω (λi=>(((),l,(l.length:Int),(i:Int),()),(b.tup,()))) (λi j=>by
  have e:=ZR<|h _<|AE Fj j;show AF l (l.length:Int) (i:Int) b.C0 b.E0 b.J0 b.M0 b.K0 b.N0 b.O0 b.B0=_;unfold AF Gm;simp only[Lm j,Ga j,GS ω j,V];exact Ae (Ae e rfl) rfl) (by
  show AF l _ _ b.C0 b.E0 b.J0 b.M0 b.K0 b.N0 b.O0 b.B0=_;simp only[lp,Un.u,AF,Ip];rfl)
 unfold AV;rw[o,P_,<-o];exact Ae q rfl
def Ai9(hb:b.small)(g:b.code=0){l:List aO}(o:l.length=b.B0.length)(h:∀i,i<l.length->Afw b i (l.getD i<|Belief.mk 0 0 0 [] 0 B)=E)(v:∀x∈l,x.B1.length<=100000):AZ l (b.B0.length:Int) b.C0 b.E0 b.J0 b.M0 b.K0 b.N0 b.O0 b.B0=C ((E,()),(b.tup,())):=by
 have w:=Ag g;have q:BH _=C _:=FB (N:=l.length) ω (λi=>(((),l,(l.length:Int),(i:Int),()),(b.tup,()))) (λi j=>by
  have e:=So hb g ω (v _<|AE _ j)<|h i j;show AI l (l.length:Int) (i:Int) b.C0 b.E0 b.J0 b.M0 b.K0 b.N0 b.O0 b.B0=_;unfold AI Gn;simp only[Lm j,Ga j,GS ω j,V];exact Ae (Ae e rfl) rfl) (by
  show AI l _ _ b.C0 b.E0 b.J0 b.M0 b.K0 b.N0 b.O0 b.B0=_;simp only[lp,Un.u,AI,Ip];rfl)
 unfold AZ;rw[o,P_,<-o];exact Ae q rfl
def Ajb(hb:b.small)(g:b.code=0){l:List aG}(o:l.length=b.B0.length)(h:∀x∈l,Hr b x=E):Ba l (b.B0.length:Int) b.C0 b.E0 b.J0 b.M0 b.K0 b.N0 b.O0 b.B0=C ((E,()),(b.tup,())):=by
 have v:=Ag g;have q:BI _=C _:=FB (N:=l.length) ω (λi=>(((),l,(l.length:Int),(i:Int),()),(b.tup,()))) (λi j=>by
  have e:=JE hb g<|l.getD i BD;rw[h _<|AE BD j]at e;show AJ l (l.length:Int) (i:Int) b.C0 b.E0 b.J0 b.M0 b.K0 b.N0 b.O0 b.B0=_;unfold AJ Gp;simp only[Lm j,Ga j,GS ω j,V];exact Ae (Ae e rfl) rfl) (by
  show AJ l _ _ b.C0 b.E0 b.J0 b.M0 b.K0 b.N0 b.O0 b.B0=_;simp only[lp,Un.u,AJ,Ip];rfl)
 unfold Ba;rw[o,P_,<-o];exact Ae q rfl
def Aja{l:List Loaded}(j:l.length<=100000)(v:(l.length:Int)=n)(h:∀x∈l,0<=x.E6/\x.E6<=4):BA l n=C ((E,()),()):=by
 have q:Cw _=C (.inl ((),())):=FB j (λi=>(((),l,(l.length:Int),(i:Int),()),())) (λi g=>by
  have o:=h _<|AE (Loaded.mk 0) g;have e:GW i (l.getD i<|Loaded.mk 0).E6=C ((E,()),()):=by unfold GW;rw[U o.1,U o.2];rfl
  simp only[lp,Un.u,Cy,Lm g,Ga g,GS j g,V];exact Ae e rfl) (by simp only[lp,Un.u,Cy,Ip,H])
 unfold BA;rw[v,P_,<-v];exact Ae q rfl
def Ad5(h:b.code=0):1<=b.E0/\b.E0<=16:=by
 unfold Bldg.code at h;cases h1:inR 2 32 b.C0<;>rw[h1]at h
 .cases h
 cases j:inR 1 8 _<;>rw[j]at h
 .cases h
 cases g:inR 1 16 b.E0<;>rw[g]at h
 .cases h
 exact Ah.1 g
def Ayq{c:Car}(h:Cg fl c=E):0<=c.D1/\c.D1<=1000000:=by
 unfold Cg at h;rw[a_,F_]at h
 have:=Ah.1<|h.1 c.D1<|H_ ..
 omega
def Akz(h:b.code=0){c:Car}(hc:c∈b.B0):0<=c.D1/\c.D1<=1000000:=by
 unfold Bldg.code at h;cases h1:inR 2 32 b.C0<;>rw[h1]at h
 .cases h
 cases o:inR 1 8 _<;>rw[o]at h
 .cases h
 cases q:inR 1 16 b.E0<;>rw[q]at h
 .cases h
 cases j:inR 1 10000 b.M0<;>rw[j]at h
 .cases h
 cases g:b.B0.all _<;>rw[g]at h
 .cases h
 exact Ayq<|F_.1 g c hc
def Arc(h:1<=n/\n<=16):Vn n Fj=E:=by
 unfold Vn;rw[U h.1,U h.2,c1_];refine Vg 36 0 λk _ g=>?_;unfold Apl
 have:(Ad4 Fj).getD k 0=0:=by show(aD 36 _).getD k 0=0;rw[k_,List.getElem?_replicate];split<;>rfl
 rw[this,U (ω:_<n)];rfl
def Hx(n:Int):0<=aF.wrap n/\aF.wrap n<4294967296:=by simp only[aC,IntKind.bits];simp;exact⟨Int.emod_nonneg _ τ,Int.emod_lt_of_pos _ τ⟩
def Afk(n:Int):0<=aN.wrap n/\aN.wrap n<256:=by simp only[aC,IntKind.bits];simp;exact⟨Int.emod_nonneg _ τ,Int.emod_lt_of_pos _ τ⟩
def Asm(n:Int):Sat (Dw n) λy=>0<=y.1.1/\y.1.1<=32:=by
 refine Sat.bic (λ_=>Sat.ret τ) λ_=>Sat.bifT (Ac ?_ ?_)<|Sat.ret ?_
 .rw[R_ _ τ];exact Int.ediv_nonneg (Hx _).1 τ
 .rw[R_ _ τ];refine Int.ediv_lt_of_lt_mul τ ?_;exact(Hx _).2
 .have h:∀(l:List Int) k,(∀x∈l,0<=x/\x<=32)->0<=W.wrap (l.getD k 0)/\W.wrap _<=32:=λl k h=>by
   have:0<=l.getD k 0/\l.getD k 0<=32:=by
    by_cases g:k<l.length
    .rw[k_,i_ g];exact h _<|a4_ g
    .rw[k_,List.getElem?_eq_none ω];decide
   rw[Aa ω ω];exact this
  exact h _ _ τ
instance tz_ti(n:Int):SatT (Dw n):=⟨(Asm n).any⟩
def Bam(s:ByteArray)(i:Nat):0<=Cr s i/\Cr s i<=255:=by
 unfold Cr
 have:=(s.data.getD i 0).toNat_lt
 omega
def Anv(n:Int):Sat (LM n) λy=>0<=y.1.1/\y.1.1<=300:=by
 refine Sat.bindS (Q:=λy=>y.1.2.1=0\/y.1.2.1=16) (Sat.bic (λ_=>Sat.ret<|.inr rfl) λ_=>Sat.ret<|.inl rfl) λj h1=>Sat.bindS (Q:=λy=>0<=y.1.2.1/\y.1.2.1<=24) (Sat.bic (λ_=>Sat.ret ?_) λ_=>Sat.ret ?_) λg o=>?_
 .show 0<=W.wrap _/\W.wrap _<=24;rw[Aa ω ω];omega
 .show 0<=j.1.2.1/\j.1.2.1<=24;omega
 refine Sat.bifT (Ac (Afk _).1 (Afk _).2)<|Sat.ret ?_;have h:∀s i,0<=W.wrap (g.1.2.1+W.wrap _)/\W.wrap (g.1.2.1+W.wrap _)<=300:=λs i=>by
  have:=Bam s i
  rw[Aa (n:=Cr s i) ω ω,Aa ω ω];omega
 exact h _ _
instance len_ti(n:Int):SatT (LM n):=⟨(Anv n).any⟩
def Ao9(a b c d:Int):Sat (Dk a b c d) λ_=>True:=⟨_,Hi (a,b) (c,d),trivial⟩
def QM(a b:Int){F D:Int}(h:0<=F/\F<32)(g:D=1\/D=2):Sat (DV a b F D) λ_=>True:=⟨_,Pn (a,b) h g,trivial⟩
def Bpg(fl d o f a b c:Int)(h:0<=fl)(hf:0<=f/\f<32):Sat (Jw fl d o f a b c) λy=>y.2.1.2.2.2.2.2.1=o:=by have g:=U hf.1;refine Sat.bifT (U h) (Sat.bindS (Ao9 ..) λv _=>Sat.bifT g (Sat.bindS (QM _ _ hf<|.inl rfl) λu _=>Sat.bindS (QM _ _ hf<|.inr rfl) λq _=>?_));refine Sat.bindS (Q:=λy=>y.1.1=f/\y.2.2.1.2.2.2.2.2.1=o) (Sat.bifT g (Sat.bic (λ_=>Sat.bindS (Asm _) λ_ _=>Sat.ret ⟨rfl,rfl⟩) λ_=>Sat.ret ⟨rfl,rfl⟩)) λw j=>?_;refine Sat.bifT (U (by rw[j.1];exact hf.1)) (Sat.bic (λ_=>Sat.bindS (Anv _) λ_ _=>Sat.ret j.2) λ_=>Sat.ret j.2)
def Bdf(a b c:Bool)(d e o:Int):Sat (EV a b c d e o) λy=>y.2.1.2.2.2.2.2.1=o\/y.2.1.2.2.2.2.2.1=0:=by
 refine Sat.bindS (Q:=λy=>y.2.1.2.2.2.2.2.1=o) ?_ λj h1=>?_
 .refine Sat.bic (λ_=>?_) λ_=>?_<;>exact Sat.bic (λ_=>Sat.bic (λ_=>Sat.ret rfl) λ_=>Sat.ret rfl) λ_=>Sat.bic (λ_=>Sat.ret rfl) λ_=>Sat.ret rfl
 refine Sat.bindS (Q:=λy=>y.2.2.1.2.2.2.2.2.1=o) ?_ λh g=>?_
 .refine Sat.bic (λ_=>?_) λ_=>?_<;>exact Sat.bic (λ_=>Sat.bic (λ_=>Sat.ret h1) λ_=>Sat.ret h1) λ_=>Sat.bic (λ_=>Sat.ret h1) λ_=>Sat.ret h1
 exact Sat.bic (λ_=>Sat.ret<|.inl g) λ_=>Sat.bic (λ_=>Sat.ret<|.inl g) λ_=>Sat.bic (λ_=>Sat.ret<|.inl g) λ_=>Sat.bic (λ_=>Sat.ret<|.inl g) λ_=>Sat.bic (λ_=>Sat.ret<|.inl g) λ_=>Sat.ret<|.inr rfl
def dir2(n:Int):Prop:=0<=n/\n<=2
def dir2.zero:dir2 0:=⟨τ,τ⟩
def dir2.one:dir2 1:=⟨τ,τ⟩
def dir2.two:dir2 2:=⟨τ,τ⟩
def Bga(a b c:Bool)(d e o:Int):Sat (Fk a b c d e o) λy=>dir2 y.1.1:=by refine Sat.bindS (Q:=λ_=>True) Sat.go λg _=>?_;exact Sat.bic (λ_=>Sat.ret dir2.one) λ_=>Sat.bic (λ_=>Sat.ret dir2.two) λ_=>Sat.ret dir2.zero
def chP(y:(Unit×Unit)×((Int×Int×Int×Unit)×Unit)):Prop:=dir2 y.2.1.2.1/\dir2 y.2.1.2.2.1
def Ab9(c:Bool)(a:Int){s:Int}(o:Bool)(b:Int)(hf:dir2 f)(hs:dir2 s):Sat (IK f c a s o b) λy=>dir2 y.1.1:=by exact Sat.bic (λ_=>Sat.ret hf) λ_=>Sat.bic (λ_=>Sat.ret hf) λ_=>Sat.bic (λ_=>Sat.ret hs) λ_=>Sat.bic (λ_=>Sat.ret hs) λ_=>Sat.ret dir2.zero
def WY(h:dir2 n):Sat (CP n) chP:=Sat.ret ⟨h,h⟩
def Bcs(a b c:Bool)(d e o:Int):Sat (EU a b c d e o) chP:=by refine Sat.bindS (Bga ..) λy h=>?_;refine Sat.bic (λ_=>Sat.bindS (WY dir2.one) λ_ h=>Sat.ret h) λ_=>Sat.bic (λ_=>Sat.bindS (WY dir2.two) λ_ h=>Sat.ret h) λ_=>Sat.bic (λ_=>Sat.bindS (WY h) λ_ h=>Sat.ret h) λ_=>?_;exact Sat.bic (λ_=>Sat.ret ⟨h,dir2.zero⟩) λ_=>Sat.bic (λ_=>Sat.ret ⟨h,dir2.zero⟩) λ_=>Sat.ret ⟨dir2.zero,dir2.zero⟩
def Ak9(a b c:Bool)(d e o:Int):Sat (DE a b c d e o) chP:=by refine Sat.bindS (Q:=λ_=>True) Sat.go λg _=>?_;refine Sat.bic (λ_=>Sat.bindS (Ab9 _ _ _ _ dir2.two dir2.one) λ_ h=>Sat.bindS (WY h) λ_ h=>Sat.ret h) λ_=>Sat.bic (λ_=>Sat.ret ⟨dir2.two,dir2.zero⟩) λ_=>?_;exact Sat.bic (λ_=>Sat.bindS (WY dir2.one) λ_ h=>Sat.ret h) λ_=>Sat.bic (λ_=>Sat.ret ⟨dir2.one,dir2.zero⟩) λ_=>Sat.ret ⟨dir2.zero,dir2.zero⟩
def Bgt(a b c:Bool)(d e o:Int):Sat (Fl a b c d e o) chP:=by refine Sat.bindS (Q:=λ_=>True) Sat.go λg _=>?_;refine Sat.bic (λ_=>Sat.bindS (Ab9 _ _ _ _ dir2.one dir2.two) λ_ h=>Sat.bindS (WY h) λ_ h=>Sat.ret h) λ_=>Sat.bic (λ_=>Sat.ret ⟨dir2.one,dir2.zero⟩) λ_=>?_;exact Sat.bindS (Ak9 ..) λ_ h=>Sat.ret h
def Apb{w o:Int}(a b c:Int)(h:0<=fl)(hf:0<=f/\f<32)(g:dir2 w):Sat (Em fl w o f a b c) λy=>chP ((((),()),y.2))/\(y.1.2.1=o\/y.1.2.1=0):=by
 refine Sat.bindS (Bpg _ _ _ _ _ _ _ h hf) λz h1=>Sat.bindS (Bdf ..) λx j=>?_;rw[h1]at j;refine Sat.bindS ?_ λv u=>Sat.ret u;refine Sat.bifT (Ac g.1 (by have:=g.2;omega)) ?_;refine Sat.bic (λ_=>Sat.bindS (Bcs ..) λ_ h=>Sat.ret ⟨h,j⟩) λn0=>Sat.bic (λ_=>Sat.bindS (Bgt ..) λ_ h=>Sat.ret ⟨h,j⟩) λn1=>?_;have e:Nat.beq (aB w) 2=E:=by
  have a0:¬aB w=0:=λq=>by rw[q]at n0;cases n0
  have A:¬aB w=1:=λq=>by rw[q]at n1;cases n1
  have:aB w=2:=by have:=g.1;have:=g.2;omega
  rw[this];rfl
 exact Sat.bifT e (Sat.bindS (Ak9 ..) λ_ h=>Sat.ret ⟨h,j⟩)
def S2(d o:Int):Prop:=dir2 d/\0<=o/\o<=7
def S2.zero{d:Int}(h:dir2 d):S2 d 0:=⟨h,τ,τ⟩
def Arp(fl w o f:Int):Sat (En fl w o f) λy=>y.1.1=E->2<=fl/\fl<=32/\0<=f/\f<fl/\S2 w o:=by
 refine Sat.bindS ?_ λy g=>Sat.ret g;refine Sat.bic (λa=>Sat.bic (λb=>Sat.bic (λc=>Sat.bic (λd=>?_) λ_=>Sat.ret λq=>by cases q) λ_=>Sat.ret λq=>by cases q) λ_=>Sat.ret λq=>by cases q) λ_=>Sat.ret λq=>by cases q
 refine Sat.bindE (EQ { BD with S1:=w,E1:=o }) (Sat.ret λq=>?_);have q:(inR 0 2 w&&inR 0 7 o)=E:=q;rw[a_]at q;exact⟨j_ a,j_ b,j_ c,j_ d,Ah.1 q.1,Ah.1 q.2⟩
def Bdl(fl w o f a b c:Int):Sat (El fl w o f a b c) chP:=by refine Sat.bindS (Arp ..) λy h=>Sat.bic (λ_=>Sat.ret ⟨dir2.zero,dir2.zero⟩) λq=>?_;obtain⟨h1,v,j,u,g⟩:=h (by simpa using q);exact Sat.bindS (Apb _ _ _ ω ⟨j,ω⟩ g.1) λ_ h=>Sat.ret h.1
def Bgk:∀(o:Fin 8) (s:Fin 3),0<=W.wrap (stk ((o.val:Nat):Int) (aC W<|(1:Int)*((2:Int)^(aR (aB ((s.val:Nat):Int))<|IntKind.bits W)))<|aS ((aH (IntKind.bits W) ((o.val:Nat):Int))|||(aH (IntKind.bits W)<|aC W<|(1:Int)*((2:Int)^(aR (aB ((s.val:Nat):Int))<|IntKind.bits W)))))/\W.wrap (stk ((o.val:Nat):Int) (aC W<|(1:Int)*((2:Int)^(aR (aB ((s.val:Nat):Int))<|IntKind.bits W)))<|aS ((aH (IntKind.bits W) ((o.val:Nat):Int))|||(aH (IntKind.bits W)<|aC W<|(1:Int)*((2:Int)^(aR (aB ((s.val:Nat):Int))<|IntKind.bits W)))))<=7:=by decide
def Ayy(fl w o f a b c:Int):Sat (FK fl w o f a b c) λy=>S2 y.2.1.1 y.2.1.2.1:=by
 refine Sat.bindS (Arp ..) λy h=>Sat.bic (λ_=>Sat.ret<|S2.zero dir2.zero) λq=>?_;obtain⟨h1,F,z,D,u⟩:=h (by simpa using q);refine Sat.bindS (Apb _ _ _ ω ⟨z,ω⟩ u.1) λg h=>?_;refine Sat.bic (λ_=>Sat.ret<|S2.zero h.1.1) λ_=>Sat.bifT (U h.1.2.1)<|Sat.ret ⟨h.1.1,?_⟩;have v:0<=g.1.2.1/\g.1.2.1<8:=by have x:=u.2.1;have A:=u.2.2;rcases h.2 with e|e<;>rw[e]<;>omega
 have hs:dir2 g.2.1.2.2.1:=h.1.2;have j:=Bgk ⟨g.1.2.1.toNat,ω⟩ ⟨g.2.1.2.2.1.toNat,by have:=hs.1;have:=hs.2;omega⟩;rw[show _=g.1.2.1 from Int.toNat_of_nonneg v.1]at j;exact j
def D5(a b c:Int)(d:Bool)(e:Int):Prop:=(a=0/\b=0/\c=0/\d=B/\e=0)\/(0<a/\a<=3/\0<=b/\b<=1000000/\0<=c/\c<=1000000/\0<=e/\e<=1000000)
def D5.zero:D5 0 0 0 B 0:=.inl ⟨rfl,rfl,rfl,rfl,rfl⟩
def D5.at{a:Int}(h:0<a/\a<=3)(hc:0<=c)(g:c<=1000000)(o:0<=e)(j:e<=1000000):D5 a 0 c d e:=.inr ⟨h.1,h.2,b8_ 0,show _<=1000000 from by decide,hc,g,o,j⟩
def CmdR(c:Int):Prop:=(aJ (0<=c)&&decide (c<=5))=E
def CmdR.iff:CmdR c↔0<=c/\c<=5:=by unfold CmdR;simp
def dN(a b c:Int)(d:Bool)(e:Int):aG:={ BD with X0:=a,L1:=b,I1:=c,K1:=d,F1:=e }
def Agc(x:aG):Rx x=E↔D5 x.X0 x.L1 x.I1 x.K1 x.F1:=by
 unfold Rx D5 SS inR;by_cases g:x.X0=0
 .rw[g];simp
 .rw[At g];simp;omega
def WO(a b c:Int)(d:Bool)(e:Int):∃r,Gh a b c d e=C ((r,()),())/\(r=E↔D5 a b c d e):=⟨_,Pq<|dN a b c d e,Agc _⟩
def up1(n:Int):Int:=bif decide (1000000<W.wrap (n+1))then 1000000 else W.wrap (n+1)
def Ki(h:0<=n/\n<=1000000):0<=up1 n/\up1 n<=1000000:=by
 unfold up1;rw[Aa ω ω];by_cases g:1000000<n+1
 .rw[U g,V];decide
 .rw[Z g,H];omega
def Uh(n:Int):Ld n=C ((up1 n,()),()):=rfl
def Vq(a b c:Int)(d:Bool)(e:Int):JH a b c d e=C (((),()),((a,b,bif c !=0 then up1 c else c,d,e,()),())):=by unfold JH;cases c !=0<;>rfl
def Atj{a b:Int}(h:D5 a b c d e):Sat (Qz a b c d e) λy=>letI f:=y.2.1.2;D5 y.2.1.1 f.1 f.2.1 f.2.2.1 f.2.2.2.1:=by
 obtain⟨r,h1,A⟩:=WO a b c d e;have D:=A.2 h;refine Sat.bindE h1 (Sat.bic (λ_=>Sat.ret h) λ_=>Sat.bic (λ_=>Sat.ret h) λg=>?_);have g:¬a=0:=by simpa using g
 rcases h with h|⟨v,x,u,q,o,j,w,z⟩
 .exact absurd h.1 g
 refine Sat.bindE (Vq ..)<|Sat.bindE (Uh _)<|Sat.ret<|.inr ⟨v,x,(Ki ⟨u,q⟩).1,(Ki ⟨u,q⟩).2,?_,?_,w,z⟩
 .cases c !=0 with
  |true=>exact(Ki ⟨o,j⟩).1
  |false=>exact o
 .cases c !=0 with
  |true=>exact(Ki ⟨o,j⟩).2
  |false=>exact j
def Ac8(c0 c1 c2 c3 c4 c5 c6 c7 c8 a b c:Int)(d:Bool)(e f:Int)(g h:Bool):Sat (QA c0 c1 c2 c3 c4 c5 c6 c7 c8 a b c d e f g h) λy=>letI f:=y.2.1.2;D5 y.2.1.1 f.1 f.2.1 f.2.2.1 f.2.2.2.1/\CmdR y.1.2.1:=by
 refine Sat.bindS (Q:=λy=>letI f:=y.2.2.1;D5 f.1 f.2.1 f.2.2.1 f.2.2.2.1 f.2.2.2.2.1) ?_ λy D=>?_
 .obtain⟨r,h1,h2⟩:=WO a b c d e;refine Sat.bindE h1 (Sat.bic (λ_=>Sat.ret D5.zero) λk=>Sat.ret<|h2.1 (by simpa using k))
 refine Sat.bic (λ_=>Sat.bic (λ_=>Sat.ret ⟨D5.at τ τ τ τ τ,rfl⟩) λ_=>Sat.ret ⟨D,rfl⟩) λk=>?_;have k:¬y.2.2.1.1=0:=by simpa using k
 obtain⟨L,R,S,N,I,A,F,p8⟩:=D.resolve_left λq=>k q.1;have hc:0<=(bif y.2.2.1.2.2.1 !=0 then up1 y.2.2.1.2.2.1 else y.2.2.1.2.2.1)/\(bif y.2.2.1.2.2.1 !=0 then up1 y.2.2.1.2.2.1 else y.2.2.1.2.2.1)<=1000000:=by
  cases y.2.2.1.2.2.1 !=0 with
  |true=>exact Ki ⟨I,A⟩
  |false=>exact⟨I,A⟩
 refine Sat.bindE (Vq ..) ?_;refine Sat.bindS (Q:=λz=>0<z.2.2.1.1/\z.2.2.1.1<=3/\0<=z.2.2.1.2.1/\z.2.2.1.2.1<=1000000/\0<=z.2.2.1.2.2.1/\z.2.2.1.2.2.1<=1000000/\0<=z.2.2.1.2.2.2.2.1/\z.2.2.1.2.2.2.2.1<=1000000) (Sat.bic (λ_=>Sat.ret ⟨L,R,S,N,hc.1,hc.2,F,p8⟩) λ_=>Sat.ret ⟨L,R,S,N,hc.1,hc.2,F,p8⟩) λz j=>?_;refine Sat.bic (λ_=>Sat.bindE rfl<|Sat.ret ⟨D5.at (a:=2) τ ?_ ?_ j.2.2.2.2.2.2.1 j.2.2.2.2.2.2.2,rfl⟩) λ_=>?_
 .cases decide (z.2.2.1.2.2.1<1)with
  |true=>exact show _<=1 from by decide
  |false=>exact j.2.2.2.2.1
 .cases decide (z.2.2.1.2.2.1<1)with
  |true=>exact show 1<=1000000 from by decide
  |false=>exact j.2.2.2.2.2.1
 refine Sat.bindS (Q:=λw=>w.2.2.1=z.2.2.1) (Sat.bic (λ_=>Sat.ret rfl) λ_=>Sat.ret rfl) λw x=>?_;refine Sat.bic (λ_=>Sat.ret ⟨D5.zero,rfl⟩) λ_=>?_;refine Sat.bindS (Q:=λv=>v.2.2.1=z.2.2.1) (Sat.bic (λ_=>Sat.bic (λ_=>Sat.ret x) λ_=>Sat.ret x) λ_=>Sat.ret x) λv o=>?_;have stay:∀n:Int,CmdR n->Sat (QB v.2.2.1.1 v.2.2.1.2.1 v.2.2.1.2.2.1 v.2.2.1.2.2.2.1 v.2.2.1.2.2.2.2.1 n) λy=>letI b:=y.2.1.2;D5 y.2.1.1 b.1 b.2.1 b.2.2.1 b.2.2.2.1/\CmdR y.1.2.1:=λn hn=>by rw[o];exact Sat.bindE (Uh _)<|Sat.ret ⟨.inr ⟨j.1,j.2.1,(Ki ⟨j.2.2.1,j.2.2.2.1⟩).1,(Ki ⟨j.2.2.1,j.2.2.2.1⟩).2,j.2.2.2.2.1,j.2.2.2.2.2.1,j.2.2.2.2.2.2.1,j.2.2.2.2.2.2.2⟩,hn⟩
 refine Sat.bic (λ_=>Sat.bindS (stay 5 rfl) λ_ h=>Sat.ret h) λ_=>?_;refine Sat.bic (λ_=>?_) λ_=>?_
 .rw[o];exact Sat.bindE rfl<|Sat.ret ⟨D5.at (a:=3) τ j.2.2.2.2.1 j.2.2.2.2.2.1 j.2.2.2.2.2.2.1 j.2.2.2.2.2.2.2,rfl⟩
 refine Sat.bic (λ_=>Sat.bindS (stay 3 rfl) λ_ h=>Sat.ret h) λ_=>?_;refine Sat.bic (λ_=>?_) λ_=>?_
 .refine Sat.bindS (Q:=λu=>u.2.1=v.2.2.1) (Sat.bic (λ_=>Sat.ret rfl) λ_=>Sat.ret rfl) λu hu=>?_;rw[hu];refine Sat.bic (λ_=>?_) λ_=>Sat.bindS (stay 0 rfl) λ_ h=>Sat.ret h;rw[o];exact Sat.bindE rfl<|Sat.ret ⟨D5.at (a:=3) τ j.2.2.2.2.1 j.2.2.2.2.2.1 j.2.2.2.2.2.2.1 j.2.2.2.2.2.2.2,rfl⟩
 refine Sat.bic (λ_=>?_) λ_=>Sat.bindS (stay 4 rfl) λ_ h=>Sat.ret h;rw[o];exact Sat.bindE (Uh _)<|Sat.bindE rfl<|Sat.ret ⟨D5.at (a:=1) τ j.2.2.2.2.1 j.2.2.2.2.2.1 (Ki ⟨j.2.2.2.2.2.2.1,j.2.2.2.2.2.2.2⟩).1 (Ki ⟨j.2.2.2.2.2.2.1,j.2.2.2.2.2.2.2⟩).2,rfl⟩
def Ati(j c1 g o c4 u v q h a b c:Int)(d:Bool)(e:Int):Sat (Qy j c1 g o c4 u v q h a b c d e) λ_=>True:=by unfold Qy;exact Sat.go
def M3(fl c t f:Int):Prop:=0<=t/\t<=1000000/\((c=0/\f=0)\/(c=1/\0<=f/\f+1<fl)\/(c=2/\0<f/\f<fl))
def M3.zero:M3 fl 0 0 0:=⟨τ,τ,.inl ⟨rfl,rfl⟩⟩
def Alw(hf:2<=fl)(x:aG):Vz fl x=E↔M3 fl x.U0 x.Z0 x.V0:=by
 unfold Vz M3 inR;by_cases g:x.U0=0
 .rw[g];simp;omega
 by_cases g1:x.U0=1
 .rw[g1];simp;omega
 by_cases h:x.U0=2
 .rw[h];simp;omega
 .rw[At g,At g1];simp;omega
def mN(c t f:Int):aG:={ BD with U0:=c,Z0:=t,V0:=f }
def Aex(h:2<=fl/\fl<=8)(c t f:Int):∃r,Gk fl c t f=C ((r,()),())/\(r=E↔M3 fl c t f):=⟨_,MW h<|mN c t f,Alw h.1 _⟩
def VB(hf:0<=f/\f<fl)(h:fl<=8):Sat (Fs fl f c) λy=>y.1.2.1=E->(c=1/\0<=f/\f+1<fl)\/(c=2/\0<f/\f<fl):=by
 unfold Fs;by_cases c1:c=1
 .subst c1;refine Sat.bindR<|Sat.bifF rfl<|Sat.bifT rfl (Sat.bindC (λ_=>Sat.bindR (Sat.ret λg=>.inl ⟨rfl,hf.1,?_⟩)) λ_=>Sat.bindR (Sat.ret λg=>by cases g));have g:=j_ g;have e:=Aa (ω:_<=f+1) (ω:f+1<9223372036854775808);exact e▸g
 .rw[Jc c1];by_cases j:c=2
  .subst j;have e:=Aa (ω:_<=f+ -1) (ω:f+ -1<9223372036854775808);refine Sat.bindR<|Sat.bifF rfl<|Sat.bifT rfl (Sat.bindC (λg0=>Sat.bindR (Sat.ret λg=>.inr ⟨rfl,?_,hf.2⟩)) λ_=>Sat.bindR (Sat.ret λg=>by cases g));have g0:=e▸j_ g0;omega
  .rw[Jc j];exact Sat.bindR<|Sat.bifT rfl (Sat.ret λg=>by cases g)
def Am1{t:Int}(h:M3 fl c t f):Sat (Nv c t f) λy=>M3 fl y.2.1.1 y.2.1.2.1 y.2.1.2.2.1:=by
 refine Sat.bindS (Q:=λy=>y.2.1=(c,t,f,())/\(y.1.2.2.1=E->t<1000000)) ?_ λy j=>?_
 .refine Sat.bic (λ_=>Sat.bic (λ_=>Sat.ret ⟨rfl,λg=>j_ g⟩) λ_=>Sat.ret ⟨rfl,λg=>by cases g⟩) λ_=>?_;exact Sat.bic (λ_=>Sat.bic (λ_=>Sat.ret ⟨rfl,λg=>j_ g⟩) λ_=>Sat.ret ⟨rfl,λg=>by cases g⟩) λ_=>Sat.ret ⟨rfl,λg=>by cases g⟩
 refine Sat.bic (λg=>Sat.ret ?_) λ_=>Sat.ret ?_
 .rw[j.1];have o:=j.2 g
  have:=h.1
  show M3 fl c (aC W<|t+1) f;rw[Aa ω ω];exact⟨ω,ω,h.2.2⟩
 .rw[j.1];exact h
def MZ(y:Int×Int×Int×Unit):Prop:=y=(0,0,0,())
def Am3(h:2<=fl/\fl<=8)(c t f g:Int)(l:Bool)(d:Int)(k:Bool)(w:Int):Sat (RN fl c t f g l d k w) λy=>M3 fl y.2.1.1 y.2.1.2.1 y.2.1.2.2.1/\(y.1.2.2.1=E->MZ y.2.1)/\(c=0->w=0->l=E->MZ y.2.1)/\CmdR y.1.2.1:=by
 obtain⟨r,h1,h2⟩:=Aex h c t f;have j:M3 fl 0 0 0:=M3.zero;refine Sat.bindE h1 (Sat.bic (λ_=>Sat.ret ⟨j,λ_=>rfl,λ_ _ _=>rfl,rfl⟩) λI=>Sat.bic (λ_=>Sat.ret ⟨j,λ_=>rfl,λ_ _ _=>rfl,rfl⟩) λa1=>Sat.bic (λ_=>Sat.ret ⟨j,λ_=>rfl,λ_ _ _=>rfl,rfl⟩) λa2=>?_);have hm:=h2.1 (by simpa using I);have D:0<=g/\g<fl:=⟨by have:=w_ a1;omega,by have:=w_ a2;omega⟩
 have hf:0<=f/\f<fl:=by rcases hm.2.2 with q|q|q<;>omega
 refine Sat.bindS (VB hf h.2) λz S=>?_;have nb:c=0->z.1.2.1=B:=λo=>by
  cases q:z.1.2.1 with
  |false=>rfl
  |true=>rcases S q with e|e<;>omega
 refine Sat.bindS (Q:=λy=>(y.1.1=fl/\y.1.2.1=w/\y.2.1=(c,t,f,())/\y.2.2.1.1=g)/\y.1.2.2.2.2.2.1=z.1.2.1/\y.2.2.1.2.1=l) ?_ λy3 u=>?_
 .exact Sat.bic (λ_=>Sat.bic (λ_=>Sat.ret ⟨⟨rfl,rfl,rfl,rfl⟩,rfl,rfl⟩) λ_=>Sat.ret ⟨⟨rfl,rfl,rfl,rfl⟩,rfl,rfl⟩) λ_=>Sat.ret ⟨⟨rfl,rfl,rfl,rfl⟩,rfl,rfl⟩
 refine Sat.bic (λ_=>Sat.ret ⟨j,λ_=>rfl,λ_ _ _=>rfl,rfl⟩) λ_=>?_;refine Sat.bindS (Q:=λy=>(y.1.1=fl/\y.1.2.1=w/\y.2.1=(c,t,f,())/\y.2.2.1.1=g)/\(c=0->l=E->y.1.2.2.2.2.2.1=B)) ?_ λy4 F=>?_
 .refine Sat.bic (λq=>Sat.ret ⟨u.1,λo _=>?_⟩) λ_=>Sat.ret ⟨u.1,λ_ v=>?_⟩
  .rw[u.2.1,nb o]at q;cases q
  .rw[u.2.2,v];rfl
 obtain⟨⟨N,R,A,e4⟩,L⟩:=F;refine Sat.bic (λq=>Sat.ret ⟨?_,λg=>(by cases g),λo _ v=>?_,?_⟩) λ_=>?_
 .rw[A];exact⟨(Ki ⟨hm.1,hm.2.1⟩).1,(Ki ⟨hm.1,hm.2.1⟩).2,hm.2.2⟩
 .rw[L o v]at q;cases q
 .rw[A];show CmdR c;exact CmdR.iff.2 (by rcases hm.2.2 with q|q|q<;>exact⟨ω,ω⟩)
 rw[N,R,e4];refine Sat.bindS (VB D h.2) λy5 x=>Sat.bic (λq=>Sat.ret ⟨?_,λg=>(by cases g),λ_ w0 _=>?_,?_⟩) λ_=>Sat.ret ⟨j,λ_=>rfl,λ_ _ _=>rfl,rfl⟩
 .exact⟨show _<=0 from by decide,show 0<=1000000 from by decide,.inr<|x q⟩
 .rcases x q with e|e<;>omega
 .show CmdR w;exact CmdR.iff.2 (by rcases x q with e|e<;>exact⟨ω,ω⟩)
def Am0(j c1 g o c4 u v q h a b c:Int):Sat (RM j c1 g o c4 u v q h a b c) λ_=>True:=Sat.ret trivial
def Ats(j:b.code=0)(q:Ak b.C0 b.E0 b.J0 b.M0 b.K0 b.N0 b.O0 b.B0=C ((b.code,()),()))(car h g:Int):Sat (VV b.C0 b.E0 b.J0 b.M0 b.K0 b.N0 b.O0 b.B0 car h g) λy=>y.1.1=0\/y.1.1=1\/y.1.1=2:=by refine Sat.bindE q (Sat.bic (λ_=>Sat.ret<|.inl rfl) λ_=>Sat.bic (λ_=>Sat.ret<|.inl rfl) λh1=>Sat.bic (λ_=>Sat.ret<|.inl rfl) λo=>?_);have h1:=w_ h1;have o:=w_ o;refine Sat.bic (λ_=>Sat.ret<|.inl rfl) λ_=>Sat.bic (λ_=>Sat.ret<|.inl rfl) λ_=>Sat.bic (λ_=>Sat.ret<|.inl rfl) λ_=>?_;refine Sat.bifT (Ac ω ω) (Sat.bic (λ_=>Sat.ret<|.inr<|.inl rfl) λ_=>Sat.bic (λ_=>Sat.ret<|.inr<|.inr rfl) λ_=>Sat.ret<|.inl rfl)
end Go.Ovl
