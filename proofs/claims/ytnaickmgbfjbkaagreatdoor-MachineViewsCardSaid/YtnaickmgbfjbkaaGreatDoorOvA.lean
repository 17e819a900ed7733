import Derived.Test.YtnaickmgbfjbkaaGreatDoorAbC
import Derived.Test.YtnaickmgbfjbkaaGreatDoorDefs6
set_option linter.all false
set_option maxRecDepth 100000
open Bool renaming false->B,true->E,and_eq_false_iff->bI
open Option renaming some->C,bind->aJ
open Go renaming c_->H,a_->J,d_->O,b_->V,f_->W
open Go.Ovl renaming Entry->U,Record->aB,NewCar->aH,Belief->aO,Debounced->aV
open Go.Ab renaming lo->Z
open Go.IntKind renaming i64->aA,wrap->aC,u32->aF,u64->aS,u8->aX
open Decidable renaming decide->aD
open Int renaming toNat->aE,fdiv->aW
open List renaming replicate->aG,range'->aT,all_nil->aZ,drop_eq_getElem_cons->bJ
open Nat renaming ble->aI,le_succ->bA,xor_lt_two_pow->bD,add_sub_cancel->bK
open Array renaming mk->aK
open Go.Ovl.Belief renaming mk->aL
open ByteArray renaming mk->aM,ext->bB
open Sum renaming inr->aN,inl->aP
open Go.Ovl.Entry renaming mk->aQ
open BitVec renaming ofInt->aR,toNat->aY,eq_of_toNat_eq->bE,getLsbD_and->bG,getLsbD_or->bH
open Go.Ovl.Record renaming mk->aU
open Go.Ovl.Debounced renaming mk->bC
namespace Go.Ovl
open Go Go.Ab
variable{f:Nat}{α:Type}{n:Int}
def Ad(h:-9223372036854775808<=n)(h':n<9223372036854775808):aA.wrap n=n:=by rw[IntKind.wrap_i64];omega
def ET(h:0<=n)(h':n<18446744073709551616):aS.wrap n=n:=by simp only[aC,IntKind.signed,IntKind.bits];simp;omega
def Aa{i:Int}{n:Nat}(h:0<=i)(h':i<n):inB i n=E:=by simp[inB];omega
def Ah{a b:Nat}(h:a<=b):aI a b=E:=Nat.ble_eq.symm▸h
def FP [BEq α][LawfulBEq α]{a b:α}(h:¬a=b):(a !=b)=E:=by simpa using h
def Av [BEq α][LawfulBEq α]{a b:α}(h:¬a=b):(a==b)=B:=by simpa using h
section
variable{X Y:Type}{step:X->Option (Sum X Y)}
def AM{x x':X}(h:step x=C (.inl x')):Bx step (f+1) x=Bx step f x':=by simp only[Bx,h,Ra]
def At{x:X}{y:Y}(h:step x=C (.inr y)):Bx step (f+1) x=C y:=by simp only[Bx,h,Ra]
def Ajx:∀{f:Nat}{x:X}{y:Y},Bx step f x=C y->∀{g:Nat},f<=g->Bx step g x=C y
 |0,_,_,h,_,_=>by simp[Bx]at h
 |f+1,x,y,h,0,hg=>by omega
 |f+1,x,y,h,g+1,hg=>by
  simp only[Bx]at h|-;cases hs:step x with
  |none=>rw[hs]at h;simp[Ra]at h
  |some z=>
   rw[hs]at h;cases z with
   |inl x'=>exact Ajx (f:=f) (g:=g) h ω
   |inr y'=>exact h
def Af{x:X}{y:Y}(h:Bx step f x=C y)(hf:f<=18446744073709551616):Bx step CK x=C y:=Ajx h hf
def Cr{S:Type}(h:Nat->S->S):Nat->Nat->S->S
 |0,_,s=>s
 |m+1,i,s=>Cr h m (i+1) (h i s)
def AN{S:Type}(N:Nat)(g:Nat->S->X)(h:Nat->S->S)(inv:Nat->S->Prop)(y:S->Y)(h1:∀i s,i<N->inv i s->step (g i s)=C (.inl (g (i+1) (h i s)))/\inv (i+1) (h i s))
  (h2:∀s,inv N s->step (g N s)=C (.inr (y s))):∀(m i:Nat) (s:S),i+m=N->inv i s->Bx step (m+1) (g i s)=C (y (Cr h m i s))/\inv N (Cr h m i s)
 |0,i,s,hi,hs=>by
  have:i=N:=ω
  subst this;exact⟨At (h2 s hs),hs⟩
 |m+1,i,s,hi,hs=>by obtain⟨q1,q2⟩:=h1 i s ω hs;rw[AM q1];exact AN N g h inv y h1 h2 m (i+1) (h i s) ω q2
end
def noB:ByteArray:=⟨#[]⟩
def Bch(d:ByteArray){k:Nat}(h:k<=d.size):(d.extract 0 k).size=k:=by simp;omega
def Anp(d:ByteArray){a b c:Nat}(h:a<=b)(h':b<=c):d.extract a b++d.extract b c=d.extract a c:=by apply bB;simp;rw[c8_ h,Nat.max_eq_right h']
def Afj(a:ByteArray):a++noB=a:=by apply bB;simp[noB]
def Ajp(d:ByteArray)(k:Nat):d.extract k k=noB:=by apply bB;simp[noB]
end Go.Ovl
namespace Go.Ovl
open Go Go.Ab
variable{c:Bool}
def Sat{α:Type}(o:Option α)(P:α->Prop):Prop:=∃a,o=C a/\P a
section
variable{α β:Type}{P:α->Prop}{Q:β->Prop}
def Sat.ret{a:α}(h:P a):Sat (C a) P:=⟨a,rfl,h⟩
def Sat.bindE{o:Option β}{b:β}{f:β->Option α}(h:o=C b)(h2:Sat (f b) P):Sat (aJ o f) P:=by subst h;exact h2
def Sat.bindS{o:Option β}{f:β->Option α}(h:Sat o Q)(h2:∀b,Q b->Sat (f b) P):Sat (aJ o f) P:=by obtain⟨b,h,hq⟩:=h;subst h;exact h2 b hq
def Sat.bic{x y:Option α}(h1:c=E->Sat x P)(h2:c=B->Sat y P):Sat (bif c then x else y) P:=by
 cases c with
 |true=>exact h1 rfl
 |false=>exact h2 rfl
def Sat.bifT{x y:Option α}(h:c=E)(h1:Sat x P):Sat (bif c then x else y) P:=by subst h;exact h1
def Sat.bifF{x y:Option α}(h:c=B)(h1:Sat y P):Sat (bif c then x else y) P:=by subst h;exact h1
def Sat.bindC{x y:Option β}{f:β->Option α}(h1:c=E->Sat (aJ x f) P)(h2:c=B->Sat (aJ y f) P):Sat (aJ (bif c then x else y) f) P:=by
 cases c with
 |true=>exact h1 rfl
 |false=>exact h2 rfl
def Sat.bindCT{x y:Option β}{f:β->Option α}(h:c=E)(h1:Sat (aJ x f) P):Sat (aJ (bif c then x else y) f) P:=by subst h;exact h1
def Sat.bindCF{x y:Option β}{f:β->Option α}(h:c=B)(h1:Sat (aJ y f) P):Sat (aJ (bif c then x else y) f) P:=by subst h;exact h1
def Sat.bindR{b:β}{f:β->Option α}(h2:Sat (f b) P):Sat (aJ (C b) f) P:=h2
def Sat.bindA{γ:Type}{o:Option γ}{g:γ->Option β}{f:β->Option α}(h:Sat (aJ o λx=>aJ (g x) f) P):Sat (aJ (aJ o g) f) P:=by
 cases o with
 |none=>exact h
 |some a=>exact h
def Sat.mono{R:α->Prop}{o:Option α}(h:Sat o P)(h2:∀a,P a->R a):Sat o R:=by obtain⟨a,h,hp⟩:=h;exact⟨a,h,h2 a hp⟩
def Sat.any{o:Option α}(h:Sat o P):Sat o λ_=>True:=h.mono λ_ _=>trivial
def Sat.eq{o:Option α}{a:α}(h:Sat o λx=>x=a):o=C a:=by obtain⟨_,h,rfl⟩:=h;exact h
end
def Sat.iterN{X Y:Type}{step:X->Option (Sum X Y)}(I:Nat->X->Prop)(P:Y->Prop)(hs:∀k x,I k x->Sat (step x) λr=>match r with|.inl x'=>∃k',k=k'+1/\I k' x'|.inr y=>P y):∀(k:Nat) (x:X),I k x->Sat (Bx step (k+1) x) P
 |k,x,hi=>by
  obtain⟨r,h1,h2⟩:=hs k x hi
  match r,h1,h2 with
  |.inr y,h1,h2=>exact⟨y,At h1,h2⟩
  |.inl x',h1,⟨k',hk,hi'⟩=>subst hk;rw[AM h1];exact Sat.iterN I P hs k' x' hi'
def Sat.loop{X Y:Type}{step:X->Option (Sum X Y)}(I:Nat->X->Prop){P:Y->Prop}(hs:∀k x,I k x->Sat (step x) λr=>match r with|.inl x'=>∃k',k=k'+1/\I k' x'|.inr y=>P y)(k:Nat){x:X}(hi:I k x)(hk:k<18446744073709551616):Sat (Bx step CK x) P:=by obtain⟨y,h1,h2⟩:=Sat.iterN I P hs k x hi;exact⟨y,Af h1 ω,h2⟩
def MB(n:Int):decide ((0:Int)<=aS.wrap n)=E:=by simp only[aC,IntKind.signed,IntKind.bits];simp;exact Int.emod_nonneg _ τ
class SatT {α:Type}(o:Option α):Prop where
 out:Sat o λ_=>True
section
variable{α β:Type}{P:α->Prop}
def Sat.bT{x y:Option α}(h1:Sat x P)(h:c=true:=by with_reducible first|exact Eq.refl true|exact MB _|assumption):Sat (bif c then x else y) P:=Sat.bifT h h1
def Sat.bF{x y:Option α}(h1:Sat y P)(h:c=false:=by with_reducible first|exact Eq.refl false|assumption):Sat (bif c then x else y) P:=Sat.bifF h h1
def Sat.cT{x y:Option β}{f:β->Option α}(h1:Sat (Option.bind x f) P)(h:c=true:=by with_reducible first|exact Eq.refl true|exact MB _|assumption):Sat (Option.bind (bif c then x else y) f) P:=Sat.bindCT h h1
def Sat.cF{x y:Option β}{f:β->Option α}(h1:Sat (Option.bind y f) P)(h:c=false:=by with_reducible first|exact Eq.refl false|assumption):Sat (Option.bind (bif c then x else y) f) P:=Sat.bindCF h h1
def Sat.sT{o:Option β}{f:β->Option α}(h2:∀b,True->Sat (f b) P)(h:Sat o (λ_=>True):=by with_reducible first|assumption|exact SatT.out):Sat (Option.bind o f) P:=Sat.bindS h h2
def Sat.go{o:Option α}(h:Sat o P:=by repeat' with_reducible first|refine Sat.bindR ?_|refine Sat.bindA ?_|refine Sat.cT ?_|refine Sat.cF ?_|refine Sat.bindC (λ_=>?_) (λ_=>?_)|refine Sat.bT ?_|refine Sat.bF ?_|refine Sat.bic (λ_=>?_) (λ_=>?_)|refine Sat.sT λ_ _=>?_|exact Sat.ret trivial):Sat o P:=h
end
structure Bldg where
 D0:Int
 E0:Int
 J0:Int
 O0:Int
 L0:Nat
 N0:Nat
 P0:Nat
 B0:List Car
def AR{α:Type}{l:List α}{i:Nat}(d:α)(h:i<l.length):l.drop i=l.getD i d::l.drop (i+1):=by rw[bJ h];simp[h]
def inR(Z hi n:Int):Bool:=decide (Z<=n)&&decide (n<=hi)
def Al{Z hi n:Int}:inR Z hi n=E↔Z<=n/\n<=hi:=by simp[inR]
def BA(Z hi:Int){l:List Int}(hl:l.length<=maxLen):Ba Z hi l=C ((l.all (inR Z hi),()),()):=by
 have hm:maxLen<=9223372036854775807:=by decide
 have key:∀(m i:Nat),i+m=l.length->Bx (λx=>Bw x.1.1 x.1.2.1 x.1.2.2.1 x.1.2.2.2.1 x.1.2.2.2.2.1) (m+1) ((Z,hi,l,(l.length:Int),(i:Int),()),())=C (if(l.drop i).all (inR Z hi)then .inl ((),())else .inr ((B,()),())):=by
  intro m;induction m with
  |zero=>
   intro i hi';refine At ?_;show Bw Z hi l (l.length:Int) (i:Int)=_;unfold Bw;have e:decide ((i:Int)<(l.length:Int))=B:=by simp;omega
   rw[e,show i=l.length by omega];simp
  |succ m ih=>
   intro i hi';have e:decide ((i:Int)<(l.length:Int))=E:=by simp;omega
   have ib:inB (i:Int) l.length=E:=Aa ω ω;have tn:aE (i:Int)=i:=ω;have w:aA.wrap ((i:Int)+1)=((i+1:Nat):Int):=by rw[Ad ω ω];omega
   rw[AR (0:Int) (ω:i<l.length)];by_cases h1:l.getD i 0<Z
   .refine(At (y:=.inr ((B,()),())) ?_).trans ?_
    .show Bw Z hi l (l.length:Int) (i:Int)=_;unfold Bw;have d1:decide (l.getD i 0<Z)=E:=by simpa using h1
     simp only[e,ib,tn,d1,O]
    .have:inR Z hi (l.getD i 0)=B:=by rw[inR,show decide (Z<=l.getD i 0)=B from W ω,S_]
     rw[U_,this];rfl
   .have d1:decide (l.getD i 0<Z)=B:=by simpa using h1
    by_cases h2:hi<l.getD i 0
    .refine(At (y:=.inr ((B,()),())) ?_).trans ?_
     .show Bw Z hi l (l.length:Int) (i:Int)=_;unfold Bw;have d2:decide (hi<l.getD i 0)=E:=by simpa using h2
      simp only[e,ib,tn,d1,d2,O,H]
     .have:inR Z hi (l.getD i 0)=B:=by rw[inR,show decide (l.getD i 0<=hi)=B from W ω,a9_]
      rw[U_,this];rfl
    .have d2:decide (hi<l.getD i 0)=B:=by simpa using h2
     refine(AM (x':=((Z,hi,l,(l.length:Int),((i+1:Nat):Int),()),())) ?_).trans ?_
     .show Bw Z hi l (l.length:Int) (i:Int)=_;unfold Bw;simp only[e,ib,tn,d1,d2,w,O,H]
     .have:inR Z hi (l.getD i 0)=E:=Al.2 ⟨ω,ω⟩
      rw[ih (i+1) ω,U_,this];rfl
 unfold Ba;have h0:Ki ((Z,hi,l,(l.length:Int),(0:Int),()),())=_:=Af (key l.length 0 ω) ω;rw[h0];rw[O_];cases l.all (inR Z hi)<;>rfl
def JT(n Z hi:Int):Fz n Z hi=C ((inR Z hi n,()),()):=by unfold Fz inR;cases h:decide (Z<=n)<;>simp
def DI(fl:Int)(c:Car):Bool:=[c.T1,c.A3,c.E3,c.M4,c.Y2,c.U2,c.G3].all (inR 1 10000)&&(inR 0 10000 c.P2&&(aD (c.U2<=c.G3)&&inR 0 (aC aA (fl-1)) c.C5))
def YY(fl:Int)(c:Car):IZ c.T1 c.A3 c.E3 c.P2 c.M4 c.Y2 c.U2 c.G3 c.C5 fl=C ((DI fl c,()),()):=by
 have hm:7<=maxLen:=by decide
 unfold IZ DI;rw[BA 1 10000 (l:=[c.T1,c.A3,c.E3,c.M4,c.Y2,c.U2,c.G3]) (by simpa using hm)];generalize [c.T1,c.A3,c.E3,c.M4,c.Y2,c.U2,c.G3].all (inR 1 10000)=a;rw[BA 0 10000 (l:=[c.P2]) (by simp;omega),BA 0 _ (l:=[c.C5]) (by simp;omega)];simp only[J,U_,aZ,c4_];cases a
 .rfl
 .cases inR 0 10000 c.P2
  .rfl
  .by_cases h:c.U2<=c.G3
   .have:decide (c.U2<=c.G3)=E:=by simpa using h
    simp only[this,O,J,l_]
   .have:decide (c.U2<=c.G3)=B:=by simpa using h
    simp only[this,O,H,J,l_,S_]
def Bldg.tup(b:Bldg):Int×Int×Int×Int×Nat×Nat×Nat×List Car×Unit:=(b.D0,b.E0,b.J0,b.O0,b.L0,b.N0,b.P0,b.B0,())
def Car.tup(c:Car):Int×Int×Int×Int×Int×Int×Int×Int×Int×Unit:=(c.T1,c.A3,c.E3,c.P2,c.M4,c.Y2,c.U2,c.G3,c.C5,())
def Aiw(b:Bldg)(c:Car){L:List Int}(hL:L.length=8) :
  RB (((),(),L,(0:Int),()),(b.tup,c.tup,()))=C (if(L.take 7).all (inR 1 10000)then .inl (((),(),()),(b.tup,c.tup,()))else .inr ((B,()),())):=by
 have key:∀(m i:Nat),i+m=7->Bx (λx=>letI a:=x.2.2.1.2.2;letI d:=x.2.1.2.2;letI f:=a.2.2;letI g:=d.2.2;En x.1.2.2.1 x.1.2.2.2.1 x.2.1.1 x.2.1.2.1 d.1 d.2.1 g.1 g.2.1 g.2.2.1 g.2.2.2.1 x.2.2.1.1 x.2.2.1.2.1 a.1 a.2.1 f.1 f.2.1 f.2.2.1 f.2.2.2.1 f.2.2.2.2.1) (m+1) (((),(),L,(i:Int),()),(b.tup,c.tup,()))=C (if((L.take 7).drop i).all (inR 1 10000)then .inl (((),(),()),(b.tup,c.tup,()))else .inr ((B,()),())):=by
  intro m;induction m with
  |zero=>
   intro i hi';refine At ?_;show En L (i:Int) b.D0 b.E0 b.J0 b.O0 b.L0 b.N0 b.P0 b.B0 c.T1 c.A3 c.E3 c.P2 c.M4 c.Y2 c.U2 c.G3 c.C5=_;unfold En;have e:decide ((i:Int)<7)=B:=by simp;omega
   have hd:(L.take 7).drop i=[]:=List.drop_eq_nil_of_le (by simp;omega);rw[e,hd];rfl
  |succ m ih=>
   intro i hi';have e:decide ((i:Int)<7)=E:=by simp;omega
   have ib:inB (i:Int) L.length=E:=Aa ω ω;have tn:aE (i:Int)=i:=ω;have w:aA.wrap ((i:Int)+1)=((i+1:Nat):Int):=by rw[Ad ω ω];omega
   have hg:(L.take 7).getD i 0=L.getD i 0:=by simp only[n_,List.getElem?_take];rw[if_pos ω]
   rw[AR (0:Int) (show i<(L.take 7).length by simp;omega),hg,U_];cases hr:inR 1 10000 (L.getD i 0)with
   |false=>refine(At (y:=.inr ((B,()),())) ?_).trans rfl;show En L (i:Int) b.D0 b.E0 b.J0 b.O0 b.L0 b.N0 b.P0 b.B0 c.T1 c.A3 c.E3 c.P2 c.M4 c.Y2 c.U2 c.G3 c.C5=_;unfold En;simp only[e,ib,tn,JT,hr,O,J,a7_]
   |true=>
    refine(AM (x':=(((),(),L,((i+1:Nat):Int),()),(b.tup,c.tup,()))) ?_).trans ?_
    .show En L (i:Int) b.D0 b.E0 b.J0 b.O0 b.L0 b.N0 b.P0 b.B0 c.T1 c.A3 c.E3 c.P2 c.M4 c.Y2 c.U2 c.G3 c.C5=_;unfold En;simp only[e,ib,tn,w,JT,hr,O,H,J,m_];rfl
    .rw[ih (i+1) ω,l_]
 have h0:=key 7 0 rfl;rw[O_]at h0;exact Af h0 ω
def Ahx(b:Bldg)(c:Car):Qg b.D0 b.E0 b.J0 b.O0 b.L0 b.N0 b.P0 b.B0 c.T1 c.A3 c.E3 c.P2 c.M4 c.Y2 c.U2 c.G3 c.C5=C ((DI b.D0 c,()),()):=by
 unfold Qg DI;by_cases h1:c.P2<0
 .have d1:decide (c.P2<0)=E:=by simpa using h1
  have d2:inR 0 10000 c.P2=B:=by rw[inR,show decide (0<=c.P2)=B from W ω,S_]
  rw[d1,O,d2,S_,a9_]
 .have d1:decide (c.P2<0)=B:=by simpa using h1
  rw[d1,H];by_cases h2:10000<c.P2
  .have d1:decide (10000<c.P2)=E:=by simpa using h2
   have d2:inR 0 10000 c.P2=B:=by rw[inR,show decide (c.P2<=10000)=B from W ω,a9_]
   rw[d1,O,d2,S_,a9_]
  .have d1:decide (10000<c.P2)=B:=by simpa using h2
   have d2:inR 0 10000 c.P2=E:=Al.2 ⟨ω,ω⟩;rw[d1,H,d2,l_];have hl:=Aiw b c (L:=[c.T1,c.A3,c.E3,c.M4,c.Y2,c.U2,c.G3,aA.wrap (c.P2+1)]) rfl;rw[show([c.T1,c.A3,c.E3,c.M4,c.Y2,c.U2,c.G3,aA.wrap (c.P2+1)].take 7)=[c.T1,c.A3,c.E3,c.M4,c.Y2,c.U2,c.G3]from rfl]at hl;simp only[Bldg.tup,Car.tup]at hl;rw[hl];cases [c.T1,c.A3,c.E3,c.M4,c.Y2,c.U2,c.G3].all (inR 1 10000)with
   |false=>rfl
   |true=>
    simp only[if_true,J,l_,JT];by_cases h:c.U2<=c.G3
    .have:decide (c.U2<=c.G3)=E:=by simpa using h
     simp only[this,O,J,l_]
    .have:decide (c.U2<=c.G3)=B:=by simpa using h
     simp only[this,H,J,S_]
def Bldg.loadsOK(b:Bldg):Bool:=((Go.FloatKind.format Go.FloatKind.f64).order 0 b.L0==C Ordering.lt)&&(((Go.FloatKind.format Go.FloatKind.f64).order b.L0 b.N0==C Ordering.lt)&&(((Go.FloatKind.format Go.FloatKind.f64).order b.N0 b.P0==C Ordering.lt)&&((Go.FloatKind.format Go.FloatKind.f64).order b.P0 9218868437227405311==C Ordering.lt||(Go.FloatKind.format Go.FloatKind.f64).order b.P0 9218868437227405311==C Ordering.eq)))
def Bldg.code(b:Bldg):Int:=
 bif !inR 2 32 b.D0 then 10 else bif !inR 1 8 (b.B0.length:Int)then 11 else
 bif !(inR 1 16 b.E0&&inR 1 10000 b.O0&&b.B0.all (DI b.D0))then 12 else bif !b.loadsOK then 13 else
 bif !inR (18*(b.B0.length:Int)+24) 65536 b.J0 then 14 else 0
def MZ:Car:=⟨0,0,0,0,0,0,0,0,0⟩
def YZ(b:Bldg)(hl:b.B0.length<=8)(g:Bool) :
  KX (((),g,b.B0,(b.B0.length:Int),(0:Int),()),(b.tup,()))=C (((),g&&b.B0.all (DI b.D0),()),(b.tup,())):=by
 have key:∀(m i:Nat) (g:Bool),i+m=b.B0.length->Bx (λx=>letI a:=x.2.1.2.2;letI c:=a.2.2;DF x.1.2.1 x.1.2.2.1 x.1.2.2.2.1 x.1.2.2.2.2.1 x.2.1.1 x.2.1.2.1 a.1 a.2.1 c.1 c.2.1 c.2.2.1 c.2.2.2.1) (m+1) (((),g,b.B0,(b.B0.length:Int),(i:Int),()),(b.tup,()))=C (((),g&&(b.B0.drop i).all (DI b.D0),()),(b.tup,())):=by
  intro m;induction m with
  |zero=>
   intro i g hi';refine At ?_;show DF g b.B0 (b.B0.length:Int) (i:Int) b.D0 b.E0 b.J0 b.O0 b.L0 b.N0 b.P0 b.B0=_;unfold DF;have e:decide ((i:Int)<(b.B0.length:Int))=B:=by simp;omega
   rw[e,show i=b.B0.length by omega,Y_];simp only[H,aZ,c4_,Bldg.tup]
  |succ m ih=>
   intro i g hi';have e:decide ((i:Int)<(b.B0.length:Int))=E:=by simp;omega
   have ib:inB (i:Int) b.B0.length=E:=Aa ω ω;have tn:aE (i:Int)=i:=ω;have w:aA.wrap ((i:Int)+1)=((i+1:Nat):Int):=by rw[Ad ω ω];omega
   rw[AR MZ (ω:i<b.B0.length),U_];refine(AM (x':=(((),g&&DI b.D0 (b.B0.getD i MZ),b.B0,(b.B0.length:Int),((i+1:Nat):Int),()),(b.tup,()))) ?_).trans ?_
   .show DF g b.B0 (b.B0.length:Int) (i:Int) b.D0 b.E0 b.J0 b.O0 b.L0 b.N0 b.P0 b.B0=_;unfold DF;simp only[e,ib,tn,O];rw[YY b.D0 (b.B0.getD i ⟨0,0,0,0,0,0,0,0,0⟩)];cases g
    .simp only[H,J,S_,w];rfl
    .simp only[O,J,l_,w];rfl
   .rw[ih (i+1) _ ω,Bool.and_assoc]
 have h0:=key b.B0.length 0 g ω;rw[O_]at h0;exact Af h0 ω
def Aiv(b:Bldg)(hl:b.B0.length<=8)(g:Bool) :
  RA (((),g,(0:Int),()),(b.tup,()))=C (((),g&&b.B0.all (DI b.D0),()),(b.tup,())):=by
 have key:∀(m i:Nat) (g:Bool),i+m=b.B0.length->Bx (λx=>letI a:=x.2.1.2.2;letI c:=a.2.2;GP x.1.2.1 x.1.2.2.1 x.2.1.1 x.2.1.2.1 a.1 a.2.1 c.1 c.2.1 c.2.2.1 c.2.2.2.1) (m+1) (((),g,(i:Int),()),(b.tup,()))=C (((),g&&(b.B0.drop i).all (DI b.D0),()),(b.tup,())):=by
  intro m;induction m with
  |zero=>
   intro i g hi';refine At ?_;show GP g (i:Int) b.D0 b.E0 b.J0 b.O0 b.L0 b.N0 b.P0 b.B0=_;unfold GP;have e:decide ((i:Int)<(b.B0.length:Int))=B:=by simp;omega
   rw[e,show i=b.B0.length by omega,Y_];simp only[H,aZ,c4_,Bldg.tup]
  |succ m ih=>
   intro i g hi';have e:decide ((i:Int)<(b.B0.length:Int))=E:=by simp;omega
   have ib:inB (i:Int) b.B0.length=E:=Aa ω ω;have tn:aE (i:Int)=i:=ω;have w:aA.wrap ((i:Int)+1)=((i+1:Nat):Int):=by rw[Ad ω ω];omega
   rw[AR MZ (ω:i<b.B0.length),U_];refine(AM (x':=(((),g&&DI b.D0 (b.B0.getD i MZ),((i+1:Nat):Int),()),(b.tup,()))) ?_).trans ?_
   .show GP g (i:Int) b.D0 b.E0 b.J0 b.O0 b.L0 b.N0 b.P0 b.B0=_;unfold GP;simp only[e,ib,tn,O];rw[Ahx b (b.B0.getD i ⟨0,0,0,0,0,0,0,0,0⟩)];cases g
    .simp only[H,J,S_,w];rfl
    .simp only[O,J,l_,w];rfl
   .rw[ih (i+1) _ ω,Bool.and_assoc]
 have h0:=key b.B0.length 0 g ω;rw[O_]at h0;exact Af h0 ω
def YX(b:Bldg):IY b.D0 b.E0 b.J0 b.O0 b.L0 b.N0 b.P0 b.B0=C ((b.loadsOK,()),()):=by
 unfold IY Bldg.loadsOK;cases(Go.FloatKind.format Go.FloatKind.f64).order 0 b.L0==C Ordering.lt
 .rfl
 cases(Go.FloatKind.format Go.FloatKind.f64).order b.L0 b.N0==C Ordering.lt
 .rfl
 cases(Go.FloatKind.format Go.FloatKind.f64).order b.N0 b.P0==C Ordering.lt
 .rfl
 rfl
def Gz(b:Bldg):AH b.D0 b.E0 b.J0 b.O0 b.L0 b.N0 b.P0 b.B0=C ((b.code,()),()):=by
 have hm:8<=maxLen:=by decide
 unfold AH Bldg.code;rw[BA 2 32 (l:=[b.D0]) (by simp;omega),BA 1 8 (l:=[(b.B0.length:Int)]) (by simp;omega),BA 1 16 (l:=[b.E0]) (by simp;omega),BA 1 10000 (l:=[b.O0]) (by simp;omega)];simp only[J,U_,aZ,c4_];cases inR 2 32 b.D0
 .rfl
 cases hc:inR 1 8 (b.B0.length:Int)
 .rfl
 have hlen:b.B0.length<=8:=by have:=(Al.1 hc).2;omega
 have hg:(bif inR 1 16 b.E0 then C (((),inR 1 10000 b.O0,()),(b.tup,()))else C (((),B,()),(b.tup,())))=C (((),inR 1 16 b.E0&&inR 1 10000 b.O0,()),(b.tup,())):=by cases inR 1 16 b.E0<;>rfl
 simp only[Bldg.tup]at hg;simp only[m_,H,hg,J];have hl:=YZ b hlen (inR 1 16 b.E0&&inR 1 10000 b.O0);simp only[Bldg.tup]at hl;rw[hl,J];cases inR 1 16 b.E0&&inR 1 10000 b.O0&&b.B0.all (DI b.D0)
 .rfl
 simp only[m_,H];rw[YX b,J];cases b.loadsOK
 .rfl
 simp only[m_,H];rw[show aA.wrap (aC aA (18*(b.B0.length:Int))+24)=18*(b.B0.length:Int)+24 by rw[Ad (n:=18*(b.B0.length:Int)) ω ω,Ad ω ω],
  BA _ 65536 (l:=[b.J0]) (by simp;omega)]
 simp only[J,U_,aZ,c4_];cases inR (18*(b.B0.length:Int)+24) 65536 b.J0<;>rfl
def AO(b:Bldg):AU b.D0 b.E0 b.J0 b.O0 b.L0 b.N0 b.P0 b.B0=C ((b.code,()),()):=by
 unfold AU Bldg.code;simp only[JT,J];cases inR 2 32 b.D0
 .rfl
 cases hc:inR 1 8 (b.B0.length:Int)
 .rfl
 have hlen:b.B0.length<=8:=by have:=(Al.1 hc).2;omega
 have hg:(bif inR 1 16 b.E0 then C (((),inR 1 10000 b.O0,()),(b.tup,()))else C (((),B,()),(b.tup,())))=C (((),inR 1 16 b.E0&&inR 1 10000 b.O0,()),(b.tup,())):=by cases inR 1 16 b.E0<;>rfl
 simp only[Bldg.tup]at hg;simp only[m_,H,hg,J];have hl:=Aiv b hlen (inR 1 16 b.E0&&inR 1 10000 b.O0);simp only[Bldg.tup]at hl;rw[hl,J];cases inR 1 16 b.E0&&inR 1 10000 b.O0&&b.B0.all (DI b.D0)
 .rfl
 simp only[m_,H];unfold Bldg.loadsOK;cases(Go.FloatKind.format Go.FloatKind.f64).order 0 b.L0==C Ordering.lt
 .rfl
 cases(Go.FloatKind.format Go.FloatKind.f64).order b.L0 b.N0==C Ordering.lt
 .rfl
 cases(Go.FloatKind.format Go.FloatKind.f64).order b.N0 b.P0==C Ordering.lt
 .rfl
 simp only[O,l_];cases((Go.FloatKind.format Go.FloatKind.f64).order b.P0 9218868437227405311==C Ordering.lt||(Go.FloatKind.format Go.FloatKind.f64).order b.P0 9218868437227405311==C Ordering.eq)
 .rfl
 simp only[m_,H];rw[show aA.wrap (aC aA (18*(b.B0.length:Int))+24)=18*(b.B0.length:Int)+24 by rw[Ad (n:=18*(b.B0.length:Int)) ω ω,Ad ω ω]];cases inR (18*(b.B0.length:Int)+24) 65536 b.J0<;>rfl
def Gb(fl i:Nat):Car:=⟨100,2,6,5,4,2,3,10,((i%fl:Nat):Int)⟩
def Au(fl ca:Nat):Bldg:=⟨fl,1,4000,30,4591870180066957722,4605380978949069210,4607632778762754458,(List.range ca).map (Gb fl)⟩
def Bldg.none:Bldg:=⟨0,0,0,0,0,0,0,[]⟩
def Ae9{fl ca:Nat}(h1:1<=fl)(h2:ca<=8):NS fl ca=C (((),()),((Au fl ca).tup,())):=by
 have key:∀(m i:Nat),i+m=ca->Bx (λx=>letI a:=x.2.2.1.2.2;letI b:=x.2.1.2.2;letI d:=b.2.2;letI f:=a.2.2;Gi x.1.1 x.1.2.1 x.1.2.2.2.2.1 x.2.1.1 x.2.1.2.1 b.1 b.2.1 d.1 d.2.1 d.2.2.1 d.2.2.2.1 x.2.2.1.1 x.2.2.1.2.1 a.1 a.2.1 f.1 f.2.1 f.2.2.1 f.2.2.2.1) (m+1) (((fl:Int),(ca:Int),(),(),(i:Int),()),(Bldg.none.tup,(Au fl i).tup,()))=C (((),(),()),(Bldg.none.tup,(Au fl ca).tup,())):=by
  intro m;induction m with
  |zero=>
   intro i hi';refine At ?_;show Gi (fl:Int) (ca:Int) (i:Int) Bldg.none.D0 Bldg.none.E0 Bldg.none.J0 Bldg.none.O0 Bldg.none.L0 Bldg.none.N0 Bldg.none.P0 Bldg.none.B0 (Au fl i).D0 (Au fl i).E0 (Au fl i).J0 (Au fl i).O0 (Au fl i).L0 (Au fl i).N0 (Au fl i).P0 (Au fl i).B0=_;unfold Gi;have e:decide ((i:Int)<(ca:Int))=B:=by simp;omega
   rw[e,show i=ca by omega];rfl
  |succ m ih=>
   intro i hi';refine(AM (x':=(((fl:Int),(ca:Int),(),(),((i+1:Nat):Int),()),(Bldg.none.tup,(Au fl (i+1)).tup,()))) ?_).trans (ih (i+1) ω);show Gi (fl:Int) (ca:Int) (i:Int) Bldg.none.D0 Bldg.none.E0 Bldg.none.J0 Bldg.none.O0 Bldg.none.L0 Bldg.none.N0 Bldg.none.P0 Bldg.none.B0 (Au fl i).D0 (Au fl i).E0 (Au fl i).J0 (Au fl i).O0 (Au fl i).L0 (Au fl i).N0 (Au fl i).P0 (Au fl i).B0=_;unfold Gi;have e:decide ((i:Int)<(ca:Int))=E:=by simp;omega
   have w:aA.wrap ((i:Int)+1)=((i+1:Nat):Int):=by rw[Ad ω ω];omega
   have hz:((fl:Int) !=0)=E:=by simp;omega
   have hc:∀c:Car,aI ((Au fl i).B0.length+[c].length) 2147483648=E:=λc=>Ah (by simp[Au];omega);have ht:Int.tmod (i:Int) (fl:Int)=((i%fl:Nat):Int):=by rw[e8_ ω];norm_cast
   simp only[e,hz,hc,w,ht,O];have hs:(Au fl (i+1)).B0=(Au fl i).B0++[Gb fl i]:=by simp[Au,List.range_succ]
   simp only[Bldg.tup,hs];rfl
 unfold NS;have h0:LB (((fl:Int),(ca:Int),(),(),(0:Int),()),(Bldg.none.tup,(Au fl 0).tup,()))=_:=Af (key ca 0 ω) ω;rw[show LB (((fl:Int),(ca:Int),(),(),(0:Int),()),(((0:Int),(0:Int),(0:Int),(0:Int),0,0,0,([]:List Car),()),((fl:Int),(1:Int),(4000:Int),(30:Int),4591870180066957722,4605380978949069210,4607632778762754458,([]:List Car),()),()))=_ from h0];rfl
end Go.Ovl
namespace Go.Ovl
open Go Go.Ab
variable{α:Type}{b:Bldg}{i:Nat}{l:List α}
structure Bldg.small(b:Bldg):Prop where
 lo:2<=b.D0
 hi:b.D0<=8
def u8r(n:Int):Prop:=0<=n/\n<256
def Bll:u8r 0:=⟨τ,τ⟩
def AT(d:α)(hi:i<l.length):l.getD i d∈l:=by simp only[n_,j_ hi,Option.getD_some];exact f1_ hi
def Bcn{P:α->Prop}(h:∀e∈l,P e){d:α}(hi:i<l.length):P (l.getD i d):=h _ (AT d hi)
def Ai(h:b.code=0):1<=b.B0.length/\b.B0.length<=8:=by
 unfold Bldg.code at h;cases h1:inR 1 8 (b.B0.length:Int)with
 |true=>have:=Al.1 h1;omega
 |false=>rw[h1]at h;cases h2:inR 2 32 b.D0<;>rw[h2]at h<;>simp at h
def Ax9(h:b.code=0):18*(b.B0.length:Int)+24<=b.J0/\b.J0<=65536:=by
 unfold Bldg.code at h;cases h1:inR (18*(b.B0.length:Int)+24) 65536 b.J0 with
 |true=>exact Al.1 h1
 |false=>rw[h1]at h;simp only[a7_,O]at h;revert h;cases inR 2 32 b.D0<;>cases inR 1 8 (b.B0.length:Int)<;>cases inR 1 16 b.E0<;>cases inR 1 10000 b.O0<;>cases b.B0.all (DI b.D0)<;>cases b.loadsOK<;>(intro h;simp at h)
end Go.Ovl
namespace Go.Ovl
open Go Go.Ab
variable{l:List U}{b:Bldg}{r:aB}{e c:U}{α:Type}{i k:Nat}
def Auy{n:Nat}(h:i<n):decide ((i:Int)<(n:Int))=E:=V ω
def Abx{n:Nat}(h:i<n):inB (i:Int) n=E:=Aa ω ω
def Al5(n:Nat):decide ((n:Int)<(n:Int))=B:=W (I_ _)
def Ag{β:Type}{o:Option α}{a:α}{f:α->Option β}{r:Option β}(h:o=C a)(h2:f a=r):aJ o f=r:=by subst h;exact h2
def Bgb{l:List α}(d:α)(hi:i<l.length):l.drop i=l.getD i d::l.drop (i+1):=by rw[bJ hi,n_,j_ hi];rfl
def Ajw{X Y α:Type}{step:X->Option (Sum X Y)}(l:List α)(d:α)(p:α->Bool)(g:Nat->X)(y:Y)(z:α->Y)
  (h1:∀i,i<l.length->step (g i)=C (bif p (l.getD i d)then .inl (g (i+1))else .inr (z (l.getD i d)))) (h2:step (g l.length)=C (.inr y)) :
  ∀m i:Nat,i+m=l.length->Bx step (m+1) (g i)=C (match(l.drop i).find? (λx=>!p x)with|none=>y|some x=>z x)
 |0,i,hi=>by obtain rfl:i=l.length:=ω;rw[Y_];exact At h2
 |m+1,i,hi=>by
  have hlt:i<l.length:=ω;rw[Bgb d hlt];have h:=h1 i hlt;cases hp:p (l.getD i d)with
  |true=>rw[hp,O]at h;rw[AM h,Ajw l d p g y z h1 h2 m (i+1) ω,List.find?_cons,hp];rfl
  |false=>rw[hp,H]at h;rw[At h,List.find?_cons,hp];rfl
def Bci{β:Type}(p:α->Bool)(y z:β)(l:List α):(match l.find? (λx=>!p x)with|none=>y|some _=>z)=bif l.all p then y else z:=by
 induction l with
 |nil=>rfl
 |cons a l ih=>
  rw[List.find?_cons,U_];cases p a
  .rfl
  .exact ih
def TP(x y:Int):decide (x<y)=!decide (y<=x):=by by_cases h:y<=x<;>simp[h]<;>omega
def Bjz(x y:Int):decide (x<=y)=!decide (y<x):=by by_cases h:y<x<;>simp[h]<;>omega
def noE:U:=aQ 0 0 0 0 B
structure Img where
 F0:List Int
 M0:List Bool
 I0:List Bool
 A0:List Entry
def Img.tup(m:Img):List Int×List Bool×List Bool×List U×Unit:=(m.F0,m.M0,m.I0,m.A0,())
def Img.none:Img:=⟨[],[],[],[]⟩
def Fq(fl floor dir:Int):Bool:=(dir==1&&inR 0 (fl-2) floor)||(dir==2&&inR 1 (fl-1) floor)
def ZM{fl:Int}(h:0<=fl/\fl<100)(floor dir:Int):HU fl floor dir=C ((Fq fl floor dir,()),()):=by
 have w1:aA.wrap (fl-1)=fl-1:=Ad ω ω;have w2:aA.wrap (fl-2)=fl-2:=Ad ω ω;have k:∀Z hi:Int,Ba Z hi [floor]=C ((inR Z hi floor,()),()):=λZ hi=>by rw[BA Z hi (show [floor].length<=maxLen from(show 1<=maxLen by decide))];simp
 unfold HU Fq;rw[w1,w2,k,k];cases dir==1<;>cases dir==2<;>cases inR 0 (fl-2) floor<;>rfl
def Ak(b:Bldg)(floor dir:Int):Bool:=b.code==0&&Fq b.D0 floor dir
def Rh(hb:b.small)(floor dir:Int):Ee b.D0 b.E0 b.J0 b.O0 b.L0 b.N0 b.P0 b.B0 floor dir=C ((Ak b floor dir,()),()):=by unfold Ee Ak;rw[Gz,ZM ⟨by have:=hb.lo;omega,by have:=hb.hi;omega⟩];simp only[J];cases b.code==0<;>rfl
def Ep(hb:b.small)(floor dir:Int):DS b.D0 b.E0 b.J0 b.O0 b.L0 b.N0 b.P0 b.B0 floor dir=C ((Ak b floor dir,()),()):=by have Z:=hb.lo;have hi:=hb.hi;have w1:aA.wrap (b.D0-1)=b.D0-1:=Ad ω ω;have w2:aA.wrap (b.D0-2)=b.D0-2:=Ad ω ω;unfold DS Ak Fq;rw[AO,w1,w2,JT,JT];simp only[J,bne];cases b.code==0<;>cases dir==1<;>cases dir==2<;>cases inR 0 (b.D0-2) floor<;>rfl
def Hy(b:Bldg)(e:U):Bool:=Ak b e.C0 e.G0&&(aD (-2<=e.U0)&&(aD (e.U0<(b.B0.length:Int))&&(aD (0<=e.X0)&&decide (e.X0<=255))))
def Air(hb:b.small)(e:U):ME b.D0 b.E0 b.J0 b.O0 b.L0 b.N0 b.P0 b.B0 e.C0 e.G0 e.U0 e.X0 e.N1=C ((Hy b e,()),()):=by unfold ME Hy;rw[Rh hb];simp only[J];cases Ak b e.C0 e.G0<;>cases decide (-2<=e.U0)<;>cases decide (e.U0<(b.B0.length:Int))<;>cases decide (0<=e.X0)<;>rfl
def Bq(a b:U):Bool:=decide (a.C0<b.C0)||(a.C0==b.C0&&decide (a.G0<b.G0))
def Add(a b:U):Oh a.C0 a.G0 a.U0 a.X0 a.N1 b.C0 b.G0 b.U0 b.X0 b.N1=C ((Bq a b,()),()):=by unfold Oh Bq;cases decide (a.C0<b.C0)<;>cases a.C0==b.C0<;>rfl
def ZO(x y:Int):Int:=bif decide (x<y)then -1 else bif decide (y<x)then 1 else 0
def LJ(x y:Int):CX x y=C ((ZO x y,()),()):=by unfold CX Ks ZO;simp only[J,L_,H];cases decide (x<y)<;>cases decide (y<x)<;>rfl
def Ajh(x y:Int):KG [x,y]=C (((bif x !=0 then x else y),()),()):=by
 have r:∀(l:List Int) (i:Nat),i<l.length->l.length<100->Il 0 l (l.length:Int) (i:Int)=C (bif l.getD i 0 !=0 then aN (aN ((l.getD i 0,()),()))else aP (((0:Int),l,(l.length:Int),((i+1:Nat):Int),()),())):=λl i hi hl=>by
  have w:aA.wrap ((i:Int)+1)=((i+1:Nat):Int):=by rw[Ad ω ω];omega
  unfold Il;rw[V (ω:(i:Int)<(l.length:Int)),Aa (ω:(0:Int)<=(i:Int)) (ω:(i:Int)<(l.length:Int)),i_,w];simp only[O];cases l.getD i 0 !=0<;>rfl
 have r0:Il 0 [x,y] 2 0=C (bif x !=0 then aN (aN ((x,()),()))else aP (((0:Int),[x,y],(2:Int),(1:Int),()),())):=r [x,y] 0 σ σ;have r1:Il 0 [x,y] 2 1=C (bif y !=0 then aN (aN ((y,()),()))else aP (((0:Int),[x,y],(2:Int),(2:Int),()),())):=r [x,y] 1 σ σ;have h:PK (((0:Int),[x,y],(2:Int),(0:Int),()),())=C (bif x !=0 then .inr ((x,()),())else bif y !=0 then .inr ((y,()),())else .inl (((0:Int),()),())):=by
  refine Af (f:=3) ?_ ω;cases hx:x !=0 with
  |true=>rw[hx]at r0;exact At r0
  |false=>
   rw[hx]at r0;refine(AM r0).trans ?_;cases hy:y !=0 with
   |true=>rw[hy]at r1;exact At r1
   |false=>rw[hy]at r1;exact(AM r1).trans (At rfl)
 unfold KG;rw[show((([x,y]:List Int).length:Nat):Int)=2 from rfl,h];cases hx:x !=0 with
 |true=>rfl
 |false=>
  cases hy:y !=0 with
  |true=>rfl
  |false=>
   have:y=0:=by simpa using hy
   subst this;rfl
def Aiq(a b:U):∃n:Int,GL a.C0 a.G0 a.U0 a.X0 a.N1 b.C0 b.G0 b.U0 b.X0 b.N1=C ((n,()),())/\decide (0<=n)=!Bq a b/\(n=0↔a.C0=b.C0/\a.G0=b.G0):=by
 unfold GL;rw[LJ,LJ];simp only[J];rw[Ajh];refine⟨_,rfl,?_,?_⟩
 .unfold Bq ZO;by_cases h1:a.C0<b.C0
  .rw[V h1];rfl
  .rw[W h1];by_cases h2:b.C0<a.C0
   .rw[V h2,Av (ω:¬a.C0=b.C0)];rfl
   .rw[W h2,show(a.C0==b.C0)=E by simp;omega];by_cases h3:a.G0<b.G0
    .rw[V h3];rfl
    .rw[W h3];cases decide (b.G0<a.G0)<;>rfl
 .unfold ZO;by_cases h1:a.C0<b.C0
  .rw[V h1];exact⟨(λh=>by cases h),(λh=>by omega)⟩
  .rw[W h1];by_cases h2:b.C0<a.C0
   .rw[V h2];exact⟨(λh=>by cases h),(λh=>by omega)⟩
   .rw[W h2];by_cases h3:a.G0<b.G0
    .rw[V h3];exact⟨(λh=>by cases h),(λh=>by omega)⟩
    .rw[W h3];by_cases h4:b.G0<a.G0
     .rw[V h4];exact⟨(λh=>by cases h),(λh=>by omega)⟩
     .rw[W h4];exact⟨λ_=>⟨ω,ω⟩,λ_=>rfl⟩
def Ft(b:Bldg):Option U->List U->Bool
 |_,[]=>E
 |p,e::t=>Hy b e&&((match p with|some q=>Bq q e|none=>E)&&Ft b (C e) t)
def Img.ok(b:Bldg)(m:Img):Bool:=b.code==0&&((m.F0.length:Int)==(b.B0.length:Int)&&((m.M0.length:Int)==(b.B0.length:Int)&&((m.I0.length:Int)==(b.B0.length:Int)&&(m.F0.all (inR 0 4)&&Ft b Option.none m.A0))))
def Po(l:List U)(i:Nat):Option U:=if i=0 then none else C (l.getD (i-1) noE)
def Auc(h:i<l.length):Ft b (Po l i) (l.drop i)=(Hy b (l.getD i noE)&&((match Po l i with|some q=>Bq q (l.getD i noE)|none=>E)&&Ft b (Po l (i+1)) (l.drop (i+1)))):=by rw[AR noE h];simp only[Ft,Po,Nat.succ_ne_zero,if_false,bK]
def Az9{Z hi v:Int}{a c:α}:(bif decide (v<Z)then a else bif decide (hi<v)then a else c)=bif inR Z hi v then c else a:=by unfold inR;rw[TP v Z,TP hi v];cases decide (Z<=v)<;>cases decide (v<=hi)<;>rfl
def wrM{n:Nat}(hn:n<=maxLen)(h:i<n):aA.wrap ((i:Int)+1)=((i+1:Nat):Int):=by
 have:maxLen<=9223372036854775807:=by decide
 rw[Ad ω ω];omega
def wrP{j n:Nat}(hn:n<=maxLen)(h:j+1<n):aA.wrap (((j+1:Nat):Int)-1)=(j:Int):=by
 have:maxLen<=9223372036854775807:=by decide
 rw[Ad ω ω];omega
def Ab5{X Y:Type}{step:X->Option (Sum X Y)}{N:Nat}(hN:N<=maxLen)(g:Nat->X)(p q:Nat->Bool){y0 y1:Y}(hq:∀i,i<N->q i=(p i&&q (i+1)))(hN':q N=E)(h2:∀i,i<N->step (g i)=C (bif p i then .inl (g (i+1))else .inr y1))(h1:step (g N)=C (.inr y0)):Bx step CK (g 0)=C (if q 0 then y0 else y1):=by
 have hmx:maxLen<=9223372036854775807:=by decide
 have key:∀k i:Nat,i+k=N->Bx step (k+1) (g i)=C (if q i then y0 else y1):=by
  intro k;induction k with
  |zero=>intro i hi;obtain rfl:i=N:=ω;rw[hN'];exact At h1
  |succ k ih=>
   intro i hi;have h:=h2 i ω;rw[hq i ω];cases hp:p i with
   |true=>rw[hp]at h;exact(AM h).trans (ih (i+1) ω)
   |false=>rw[hp]at h;exact At h
 exact Af (key N 0 ω) ω
def Anm(b:Bldg)(l:List U)(i:Nat):Bool:=Hy b (l.getD i noE)&&(match Po l i with|some q=>Bq q (l.getD i noE)|none=>E)
def Ajm(h:i<l.length):Ft b (Po l i) (l.drop i)=(Anm b l i&&Ft b (Po l (i+1)) (l.drop (i+1))):=by rw[Auc h,<-Bool.and_assoc];rfl
section
variable{b:Bldg}(hb:b.small)(m:Img)
include hb
theorem Ak1(hm:m.A0.length<=maxLen):Kw (((),(),m.A0,(m.A0.length:Int),(0:Int),()),(b.tup,m.tup,()))=C (if Ft b none m.A0 then .inl ((),())else .inr ((B,()),())):=by
 refine Ab5 (N:=m.A0.length) hm (λi=>(((),(),m.A0,(m.A0.length:Int),(i:Int),()),(b.tup,m.tup,()))) (Anm b m.A0) (λi=>Ft b (Po m.A0 i) (m.A0.drop i)) (λi hi=>Ajm hi) (by rw[Y_];rfl) (λi hi=>?_) (by show Hs m.A0 (m.A0.length:Int) (m.A0.length:Int) b.D0 b.E0 b.J0 b.O0 b.L0 b.N0 b.P0 b.B0 m.F0 m.M0 m.I0 m.A0=_;unfold Hs;rw[Al5];rfl);have he:=Air hb (m.A0.getD i noE);unfold noE at he;show Hs m.A0 (m.A0.length:Int) (i:Int) b.D0 b.E0 b.J0 b.O0 b.L0 b.N0 b.P0 b.B0 m.F0 m.M0 m.I0 m.A0=_;unfold Hs Anm;rw[Auy hi,Abx hi];simp only[O,i_,he,J];unfold noE;cases Hy b (m.A0.getD i (aQ 0 0 0 0 B))with
 |false=>rfl
 |true=>
  simp only[m_,H,l_];cases i with
  |zero=>rfl
  |succ j=>rw[V (ω:(0:Int)<((j+1:Nat):Int)),wrP hm hi,Abx (ω:j<m.A0.length)];obtain⟨n,c1,c2,_⟩:=Aiq (m.A0.getD j noE) (m.A0.getD (j+1) noE);unfold noE at c1 c2;simp only[O,i_,c1,J,wrM hm hi,c2,Po,Nat.succ_ne_zero,if_false,bK];unfold noE;cases Bq (m.A0.getD j (aQ 0 0 0 0 B)) (m.A0.getD (j+1) (aQ 0 0 0 0 B))<;>rfl
theorem Ak9(n:Int)(hn:n=(b.B0.length:Int))(hm:m.A0.length<=maxLen):Ky (((),(),n,(0:Int),()),(b.tup,m.tup,()))=C (if Ft b none m.A0 then .inl ((),())else .inr ((B,()),())):=by
 refine Ab5 (N:=m.A0.length) hm (λi=>(((),(),n,(i:Int),()),(b.tup,m.tup,()))) (Anm b m.A0) (λi=>Ft b (Po m.A0 i) (m.A0.drop i)) (λi hi=>Ajm hi) (by rw[Y_];rfl) (λi hi=>?_) (by show Hu n (m.A0.length:Int) b.D0 b.E0 b.J0 b.O0 b.L0 b.N0 b.P0 b.B0 m.F0 m.M0 m.I0 m.A0=_;unfold Hu;rw[Al5];rfl);have hc:=Ep hb (m.A0.getD i noE).C0 (m.A0.getD i noE).G0;show Hu n (i:Int) b.D0 b.E0 b.J0 b.O0 b.L0 b.N0 b.P0 b.B0 m.F0 m.M0 m.I0 m.A0=_;unfold Hu Anm Hy;rw[Auy hi,Abx hi,show(aQ 0 0 0 0 B)=noE from rfl];simp only[O,i_,hc,J];rw[TP (m.A0.getD i noE).U0 (-2),Bjz n (m.A0.getD i noE).U0,TP (m.A0.getD i noE).X0 0,TP 255 (m.A0.getD i noE).X0,hn];cases Ak b (m.A0.getD i noE).C0 (m.A0.getD i noE).G0 with
 |false=>rfl
 |true=>
 cases decide (-2<=(m.A0.getD i noE).U0)with
 |false=>rfl
 |true=>
 cases decide ((m.A0.getD i noE).U0<(b.B0.length:Int))with
 |false=>rfl
 |true=>
 cases decide (0<=(m.A0.getD i noE).X0)with
 |false=>rfl
 |true=>
 cases decide ((m.A0.getD i noE).X0<=255)with
 |false=>rfl
 |true=>
  simp only[m_,H,V_,l_];cases i with
  |zero=>rfl
  |succ j=>have hl:=Add (m.A0.getD j noE) (m.A0.getD (j+1) noE);rw[V (ω:(0:Int)<((j+1:Nat):Int)),wrP hm hi,Abx (ω:j<m.A0.length)];simp only[O,i_,hl,J,wrM hm hi,Po,Nat.succ_ne_zero,if_false,bK];cases Bq (m.A0.getD j noE) (m.A0.getD (j+1) noE)<;>rfl
omit hb in
theorem Ak0(hm:m.F0.length<=maxLen):Kv (((),(),m.F0,(m.F0.length:Int),(0:Int),()),(b.tup,m.tup,()))=C (if m.F0.all (inR 0 4)then .inl (((),(),()),(b.tup,m.tup,()))else .inr ((B,()),())):=by refine Ab5 (N:=m.F0.length) hm (λi=>(((),(),m.F0,(m.F0.length:Int),(i:Int),()),(b.tup,m.tup,()))) (λi=>inR 0 4 (m.F0.getD i 0)) (λi=>(m.F0.drop i).all (inR 0 4)) (λi hi=>by rw[AR (0:Int) hi,U_]) (by rw[Y_];rfl) (λi hi=>?_) (by show Hr m.F0 (m.F0.length:Int) (m.F0.length:Int) b.D0 b.E0 b.J0 b.O0 b.L0 b.N0 b.P0 b.B0 m.F0 m.M0 m.I0 m.A0=_;unfold Hr;rw[Al5];rfl);show Hr m.F0 (m.F0.length:Int) (i:Int) b.D0 b.E0 b.J0 b.O0 b.L0 b.N0 b.P0 b.B0 m.F0 m.M0 m.I0 m.A0=_;unfold Hr;rw[Auy hi,Abx hi,wrM hm hi];simp only[O,i_];rw[Az9];cases inR 0 4 (m.F0.getD i 0)<;>rfl
omit hb in
theorem Ak8(n:Int)(hn:n=(m.F0.length:Int))(hm:m.F0.length<=maxLen):Kx (((),(),n,(0:Int),()),(b.tup,m.tup,()))=C (if m.F0.all (inR 0 4)then .inl (((),(),n,()),(b.tup,m.tup,()))else .inr ((B,()),())):=by subst hn;refine Ab5 (N:=m.F0.length) hm (λi=>(((),(),(m.F0.length:Int),(i:Int),()),(b.tup,m.tup,()))) (λi=>inR 0 4 (m.F0.getD i 0)) (λi=>(m.F0.drop i).all (inR 0 4)) (λi hi=>by rw[AR (0:Int) hi,U_]) (by rw[Y_];rfl) (λi hi=>?_) (by show Ht (m.F0.length:Int) (m.F0.length:Int) b.D0 b.E0 b.J0 b.O0 b.L0 b.N0 b.P0 b.B0 m.F0 m.M0 m.I0 m.A0=_;unfold Ht;rw[Al5];rfl);show Ht (m.F0.length:Int) (i:Int) b.D0 b.E0 b.J0 b.O0 b.L0 b.N0 b.P0 b.B0 m.F0 m.M0 m.I0 m.A0=_;unfold Ht;rw[Auy hi,Abx hi,wrM hm hi];simp only[O,i_];rw[Az9];cases inR 0 4 (m.F0.getD i 0)<;>rfl
theorem WK(hp:m.F0.length<=maxLen)(he:m.A0.length<=maxLen):BG b.D0 b.E0 b.J0 b.O0 b.L0 b.N0 b.P0 b.B0 m.F0 m.M0 m.I0 m.A0=C ((m.ok b,()),()):=by
 unfold BG Img.ok;rw[Gz];simp only[J,bne];cases b.code==0 with
 |false=>rfl
 |true=>
  cases(m.F0.length:Int)==(b.B0.length:Int)with
  |false=>rfl
  |true=>
   cases(m.M0.length:Int)==(b.B0.length:Int)with
   |false=>rfl
   |true=>
    cases(m.I0.length:Int)==(b.B0.length:Int)with
    |false=>rfl
    |true=>
     have h0:=Ak0 (b:=b) m hp;have h1:=Ak1 hb m he;unfold Bldg.tup Img.tup at h0 h1;simp only[m_,H,h0,J,l_];cases m.F0.all (inR 0 4)with
     |false=>rfl
     |true=>simp only[if_true,h1,J,l_];cases Ft b none m.A0<;>rfl
theorem Cd(hp:m.F0.length<=maxLen)(he:m.A0.length<=maxLen):Bb b.D0 b.E0 b.J0 b.O0 b.L0 b.N0 b.P0 b.B0 m.F0 m.M0 m.I0 m.A0=C ((m.ok b,()),()):=by
 unfold Bb Img.ok;rw[AO];simp only[J,bne];cases b.code==0 with
 |false=>rfl
 |true=>
  cases hq:(m.F0.length:Int)==(b.B0.length:Int)with
  |false=>rfl
  |true=>
   cases(m.M0.length:Int)==(b.B0.length:Int)with
   |false=>rfl
   |true=>
    cases(m.I0.length:Int)==(b.B0.length:Int)with
    |false=>rfl
    |true=>
     have hq':(m.F0.length:Int)=(b.B0.length:Int):=by simpa using hq
     have h0:=Ak8 (b:=b) m (b.B0.length:Int) hq'.symm hp;have h1:=Ak9 hb m (b.B0.length:Int) rfl he;unfold Bldg.tup Img.tup at h0 h1;simp only[m_,H,h0,J,l_];cases m.F0.all (inR 0 4)with
     |false=>rfl
     |true=>simp only[if_true,h1,J,l_];cases Ft b none m.A0<;>rfl
end
def Akd(n Z hi:Int):Ni n Z hi=C ((inR Z hi n,()),()):=by unfold Ni inR;cases decide (Z<=n)<;>rfl
def Xq(b:Bldg)(r:aB):Bool:=inR 0 ((b.B0.length:Int)-1) r.U0&&(r.C0==0&&r.G0==0)
def Ax(b:Bldg)(r:aB):Bool:=
 b.code==0&&(bif r.B1==1 then Ak b r.C0 r.G0&&(r.U0==0&&r.H2==0)
 else bif r.B1==2 then Ak b r.C0 r.G0&&(r.U0==0&&r.H2==0)
 else bif r.B1==3 then Ak b r.C0 r.G0&&(inR (-2) ((b.B0.length:Int)-1) r.U0&&r.H2==0)
 else bif r.B1==4 then Xq b r&&inR 0 4 r.H2
 else bif r.B1==5 then Xq b r&&inR 0 1 r.H2
 else bif r.B1==6 then Xq b r&&inR 0 1 r.H2
 else bif r.B1==7 then Ak b r.C0 r.G0&&(inR 0 1 r.U0&&inR 0 255 r.H2)
 else B)
def Uc(hb:b.small)(hc:b.B0.length<=100)(r:aB):HD b.D0 b.E0 b.J0 b.O0 b.L0 b.N0 b.P0 b.B0 r.B1 r.C0 r.G0 r.U0 r.H2=C ((Ax b r,()),()):=by
  have w:aA.wrap ((b.B0.length:Int)-1)=(b.B0.length:Int)-1:=Ad ω ω;unfold HD Ax Xq;rw[AO,Ep hb,Akd,w];simp only[J,bne,Akd];cases b.code==0 with
  |false=>rfl
  |true=>
    simp only[m_,H,l_];have k:∀(q:Bool) {x y z:Option ((Bool×Unit)×Unit)}{u v:Bool},(q=E->x=C ((u,()),()))->(q=B->y=C ((v,()),()))->(bif q then x else y)=C (((bif q then u else v),()),()):=λq _ _ _ _ _ h1 h2=>by
      cases q
      · exact h2 rfl
      · exact h1 rfl
    cases inR 0 ((b.B0.length:Int)-1) r.U0<;>cases r.C0==0<;>cases r.G0==0<;>
      (simp only[O,H,J,V_,c4_,a9_,S_,l_]
       refine k _ (z:=none) (λ_=>?_) λ_=>k _ (z:=none) (λ_=>?_) λ_=>k _ (z:=none) (λ_=>?_) λ_=>k _ (z:=none) (λ_=>?_) λ_=>k _ (z:=none) (λ_=>?_) λ_=>k _ (z:=none) (λ_=>?_) λ_=>k _ (z:=none) (λ_=>?_) λ_=>?_
       all_goals first
         |rfl
         |(cases Ak b r.C0 r.G0<;>cases r.U0==0<;>rfl)
         |(cases Ak b r.C0 r.G0<;>cases inR 0 1 r.U0<;>rfl)
         |(rw[w];cases Ak b r.C0 r.G0<;>cases inR (-2) ((b.B0.length:Int)-1) r.U0<;>rfl))
def isC(F D:Int)(e:U):Bool:=e.C0==F&&e.G0==D
def BL(F D:Int):List U->Nat->Int
 |[],_=>-1
 |e::t,i=>bif isC F D e then(i:Int)else BL F D t (i+1)
def Pf(F D:Int):∀(l:List U) (i:Nat),(BL F D l i=-1/\∀e∈l,isC F D e=B)\/∃k:Nat,k<l.length/\BL F D l i=((i+k:Nat):Int)/\isC F D (l.getD k noE)=E
 |[],_=>.inl ⟨rfl,λ_ h=>by cases h⟩
 |e::t,i=>by
  simp only[BL];cases h:isC F D e with
  |true=>exact .inr ⟨0,σ,rfl,h⟩
  |false=>
   rcases Pf F D t (i+1)with⟨h1,h2⟩|⟨k,h1,h2,h3⟩
   .refine .inl ⟨h1,λx hx=>?_⟩;rcases v_.1 hx with rfl|hx
    .exact h
    .exact h2 x hx
   .refine .inr ⟨k+1,by simp;omega,?_,h3⟩;rw[H,h2];congr 1;omega
def QF(m:Img)(hm:m.A0.length<=2000)(F D:Int):Hk m.F0 m.M0 m.I0 m.A0 F D=C ((BL F D m.A0 0,()),()):=by
 have key:∀(k i:Nat),i+k=m.A0.length->Bx (λx=>Ir x.1.1 x.1.2.1 x.1.2.2.2.1 x.2.1.1 x.2.1.2.1 x.2.1.2.2.1 x.2.1.2.2.2.1) (k+1) ((F,D,(),(i:Int),()),(m.tup,()))=C (bif BL F D (m.A0.drop i) i==-1 then .inl ((),())else .inr ((BL F D (m.A0.drop i) i,()),())):=by
  intro k;induction k with
  |zero=>intro i hi;refine At ?_;show Ir F D (i:Int) m.F0 m.M0 m.I0 m.A0=_;unfold Ir;rw[show decide ((i:Int)<(m.A0.length:Int))=B by simp;omega,show i=m.A0.length by omega,Y_];rfl
  |succ k ih=>
   intro i hi;have hi':i<m.A0.length:=ω;have w:aA.wrap ((i:Int)+1)=((i+1:Nat):Int):=by rw[Ad ω ω];omega
   have hs:Ir F D (i:Int) m.F0 m.M0 m.I0 m.A0=C (bif isC F D (m.A0.getD i noE)then .inr (.inr (((i:Int),()),()))else .inl ((F,D,(),((i+1:Nat):Int),()),(m.tup,()))):=by
    unfold Ir isC;rw[show decide ((i:Int)<(m.A0.length:Int))=E by simp;omega,Aa (ω:(0:Int)<=(i:Int)) (ω:(i:Int)<(m.A0.length:Int)),show aQ 0 0 0 0 B=noE from rfl];simp only[O,i_];cases(m.A0.getD i noE).C0==F with
    |false=>simp only[H,J,w,S_];rfl
    |true=>
     simp only[O,J,l_];cases(m.A0.getD i noE).G0==D with
     |false=>simp only[H,w];rfl
     |true=>rfl
   rw[AR noE hi'];simp only[BL];cases hq:isC F D (m.A0.getD i noE)with
   |true=>rw[hq]at hs;rw[O,Av (ω:¬(i:Int)=-1)];exact At hs
   |false=>rw[hq]at hs;exact(AM hs).trans (ih (i+1) ω)
 have h:TA ((F,D,(),(0:Int),()),(m.tup,()))=_:=Af (key m.A0.length 0 ω) ω;rw[O_]at h;unfold Img.tup at h;unfold Hk;rw[h];cases hq:BL F D m.A0 0==-1 with
 |true=>
  have:BL F D m.A0 0=-1:=by simpa using hq
  rw[this];rfl
 |false=>rfl
def EP(e:U):Bool->List U->List U
 |d,[]=>bif d then []else [e]
 |true,x::t=>x::EP e E t
 |false,x::t=>bif Bq e x then e::x::EP e E t else x::EP e B t
def Aee(e:U):∀(l:List U) (d:Bool),(EP e d l).length<=l.length+1
 |[],E=>by simp[EP]
 |[],B=>by simp[EP]
 |x::t,E=>by simp only[EP,N_];have:=Aee e t E;omega
 |x::t,B=>by
  simp only[EP];cases Bq e x with
  |true=>
   simp only[O,N_]
   have:∀t:List U,EP e E t=t:=λt=>by
    induction t with
    |nil=>rfl
    |cons a t ih=>simp only[EP,ih]
   rw[this];omega
  |false=>simp only[H,N_];have:=Aee e t B;omega
def Vd(e:U):∀t:List U,EP e E t=t
 |[]=>rfl
 |a::t=>by simp only[EP,Vd e t]
def Entry.tup5(e:U):Int×Int×Int×Int×Bool×Unit:=(e.C0,e.G0,e.U0,e.X0,e.N1,())
def Ai0(e:U)(hl:l.length<=2000):MH l e.C0 e.G0 e.U0 e.X0 e.N1=C ((EP e B l,()),()):=by
 have key:∀(k i:Nat) (out:List U) (d:Bool),i+k=l.length->out.length<=i+d.toNat->∃(o:List U) (d':Bool),Bx (λx=>letI a:=x.2.1.2;Fm x.1.1 x.1.2.2.1 x.1.2.2.2.1 x.1.2.2.2.2.1 x.2.1.1 a.1 a.2.1 a.2.2.1 a.2.2.2.1) (k+1) ((l,(),out,d,(i:Int),()),(e.tup5,()))=C (((),o,d',()),(e.tup5,()))/\o.length<=2001/\o++(bif d' then []else [e])=out++EP e d (l.drop i):=by
  intro k;induction k with
  |zero=>
   intro i out d hi ho;refine⟨out,d,At ?_,by have:=Bool.toNat_le d;omega,?_⟩
   .show Fm l out d (i:Int) e.C0 e.G0 e.U0 e.X0 e.N1=_;unfold Fm;rw[show decide ((i:Int)<(l.length:Int))=B by simp;omega];rfl
   .rw[show i=l.length by omega,Y_];cases d<;>rfl
  |succ k ih=>
   intro i out d hi ho;have hi':i<l.length:=ω;have hd1:=Bool.toNat_le d;have w:aA.wrap ((i:Int)+1)=((i+1:Nat):Int):=by rw[Ad ω ω];omega
   have b1:∀y:U,aI (out.length+[y].length) 2147483648=E:=λ_=>Ah (by simp;omega);have b2:∀y z:U,aI ((out++[z]).length+[y].length) 2147483648=E:=λ_ _=>Ah (by simp;omega);have ib:inB (i:Int) l.length=E:=Aa ω ω;have hle:=Add e (l.getD i noE);have hs:Fm l out d (i:Int) e.C0 e.G0 e.U0 e.X0 e.N1=C (.inl ((l,(),(bif !d&&Bq e (l.getD i noE)then out++[e]else out)++[l.getD i noE],d||Bq e (l.getD i noE),((i+1:Nat):Int),()),(e.tup5,()))):=by
    unfold Fm;rw[show decide ((i:Int)<(l.length:Int))=E by simp;omega,ib,show aQ 0 0 0 0 B=noE from rfl];cases d with
    |true=>simp only[O,H,m_,J,ib,i_,b1,w,S_,Bool.true_or];rfl
    |false=>
     simp only[O,a7_,i_,hle,J,l_,c6_];cases Bq e (l.getD i noE)with
     |true=>simp only[O,b1,J,ib,i_,b2,w];rfl
     |false=>simp only[H,J,ib,O,i_,b1,w];rfl
   rw[AR noE hi'];cases d with
   |true=>obtain⟨o,d',h1,h2,h3⟩:=ih (i+1) (out++[l.getD i noE]) E ω (by rw[h_];simp only[Bool.toNat_true,a8_]at ho|-;omega);refine⟨o,d',(AM hs).trans h1,h2,?_⟩;rw[h3];simp only[EP,M_,c9_]
   |false=>
    simp only[Bool.toNat_false]at ho;cases hq:Bq e (l.getD i noE)with
    |true=>rw[hq]at hs;obtain⟨o,d',h1,h2,h3⟩:=ih (i+1) ((out++[e])++[l.getD i noE]) E ω (by simp only[h_,a8_,Bool.toNat_true];omega);refine⟨o,d',(AM hs).trans h1,h2,?_⟩;rw[h3];simp only[EP,hq,O,M_,List.cons_append,y_]
    |false=>rw[hq]at hs;obtain⟨o,d',h1,h2,h3⟩:=ih (i+1) (out++[l.getD i noE]) B ω (by simp only[h_,a8_,Bool.toNat_false];omega);refine⟨o,d',(AM hs).trans h1,h2,?_⟩;rw[h3];simp only[EP,hq,H,M_,c9_]
 obtain⟨o,d',h1,h2,h3⟩:=key l.length 0 [] B ω σ;have h:OH ((l,(),([]:List U),B,(0:Int),()),(e.tup5,()))=_:=Af h1 ω;rw[O_,y_]at h3;unfold Entry.tup5 at h;unfold MH;rw[h,<-h3];have b1:aI (o.length+[e].length) 2147483648=E:=Ah (by simp;omega);cases d' with
 |true=>simp only[J,m_,H,O,b3_]
 |false=>simp only[J,a7_,O,H,b1]
def Img.put(m:Img)(l:List U):Img:=⟨m.F0,m.M0,m.I0,l⟩
def Ahh(e:U)(c:Int):U:=⟨e.C0,e.G0,c,e.X0,e.N1⟩
def Uj(e:U)(n c:Int):U:=⟨e.C0,e.G0,e.U0,n,c==1⟩
def By(m:Img)(r:aB):Img:=
 bif r.B1==4 then⟨m.F0.set r.U0.toNat r.H2,m.M0,m.I0,m.A0⟩
 else bif r.B1==5 then⟨m.F0,m.M0.set r.U0.toNat (r.H2==1),m.I0,m.A0⟩
 else bif r.B1==6 then⟨m.F0,m.M0,m.I0.set r.U0.toNat (r.H2==1),m.A0⟩
 else bif BL r.C0 r.G0 m.A0 0==-1 then(bif r.B1==1 then m.put (EP ⟨r.C0,r.G0,-1,0,B⟩ B m.A0)else m)
 else bif r.B1==2 then m.put (m.A0.take (BL r.C0 r.G0 m.A0 0).toNat++m.A0.drop ((BL r.C0 r.G0 m.A0 0).toNat+1))
 else bif r.B1==3 then m.put (m.A0.set (BL r.C0 r.G0 m.A0 0).toNat (Ahh (m.A0.getD (BL r.C0 r.G0 m.A0 0).toNat noE) r.U0))
 else bif r.B1==7 then m.put (m.A0.set (BL r.C0 r.G0 m.A0 0).toNat (Uj (m.A0.getD (BL r.C0 r.G0 m.A0 0).toNat noE) r.H2 r.U0))
 else m
def ZI(b:Bldg)(m:Img)(r:aB):(Unit×Int×Unit)×((List Int×List Bool×List Bool×List U×Unit)×Unit):=bif m.ok b&&Ax b r then(((),0,()),((By m r).tup,()))else(((),1,()),(Img.none.tup,()))
def Yn(h:Ax b r=E)(hk:r.B1=4\/r.B1=5\/r.B1=6):0<=r.U0/\r.U0<(b.B0.length:Int):=by
  unfold Ax Xq at h;have k:∀q:Bool,(r.U0≥0/\r.U0<=(b.B0.length:Int)-1)->0<=r.U0/\r.U0<(b.B0.length:Int):=λ_ h=>by omega
  rcases hk with hk|hk|hk<;>rw[hk]at h<;>
    (simp only[e_]at h
     have h':=h.2;simp only[show((4:Int)==1)=B from rfl,show((4:Int)==2)=B from rfl,show((4:Int)==3)=B from rfl,show((5:Int)==1)=B from rfl,show((5:Int)==2)=B from rfl,show((5:Int)==3)=B from rfl,show((5:Int)==4)=B from rfl,show((6:Int)==1)=B from rfl,show((6:Int)==2)=B from rfl,show((6:Int)==3)=B from rfl,show((6:Int)==4)=B from rfl,show((6:Int)==5)=B from rfl,s_,H,O,e_]at h'
     have:=Al.1 h'.1.1
     exact k E ⟨this.1,this.2⟩)
section
variable{b:Bldg}(hb:b.small)(m:Img)(hm:m.A0.length<=1000)(r:aB)
include hb hm
theorem Aat(hp:m.F0.length<=maxLen)(hcl:b.B0.length<=100):JX b.D0 b.E0 b.J0 b.O0 b.L0 b.N0 b.P0 b.B0 m.F0 m.M0 m.I0 m.A0 r.B1 r.C0 r.G0 r.U0 r.H2=C (ZI b m r):=by
 have hmx:1000<=maxLen:=by decide
 unfold JX ZI;rw[Cd hb m hp ω];simp only[J];cases hok:m.ok b with
 |false=>rfl
 |true=>
  rw[Uc hb hcl r];simp only[m_,H,J,l_];cases hv:Ax b r with
  |false=>rfl
  |true=>
   obtain⟨_,l1,l2,l3,_⟩:b.code=0/\m.F0.length=b.B0.length/\m.M0.length=b.B0.length/\m.I0.length=b.B0.length/\True:=by unfold Img.ok at hok;simp only[e_,a3_]at hok;obtain⟨h0,h1,h2,h3,h4,h5⟩:=hok;exact⟨h0,ω,ω,ω,trivial⟩
   have b1:aI (([]:List Int).length+m.F0.length) 2147483648=E:=Ah (by simp;omega);have b2:aI (([]:List Bool).length+m.M0.length) 2147483648=E:=Ah (by simp;omega);have b3:aI (([]:List Bool).length+m.I0.length) 2147483648=E:=Ah (by simp;omega);have b4:aI (([]:List U).length+m.A0.length) 2147483648=E:=Ah (by simp;omega);simp only[m_,H,O,b1,b2,b3,b4,y_];rw[QF m ω];simp only[J];unfold By;by_cases k4:r.B1=4
   .have hc:=Yn hv (.inl k4);rw[k4];simp only[s_,O,Aa hc.1 (ω:r.U0<(m.F0.length:Int))];rfl
   rw[Av k4];by_cases k5:r.B1=5
   .have hc:=Yn hv (.inr (.inl k5));rw[k5];simp only[s_,O,H,Aa hc.1 (ω:r.U0<(m.M0.length:Int))];rfl
   rw[Av k5];by_cases k6:r.B1=6
   .have hc:=Yn hv (.inr (.inr k6));rw[k6];simp only[s_,O,H,Aa hc.1 (ω:r.U0<(m.I0.length:Int))];rfl
   rw[Av k6];simp only[H];have hent:=Ai0 ⟨r.C0,r.G0,-1,0,B⟩ (l:=m.A0) ω;simp only at hent;rcases Pf r.C0 r.G0 m.A0 0 with⟨h1,_⟩|⟨k,h1,h2,_⟩
   .rw[h1,show decide ((-1:Int)<0)=E from rfl,show((-1:Int)==-1)=E from rfl];simp only[O];cases r.B1==1 with
    |true=>simp only[O,J,hent];rfl
    |false=>simp only[H,J];rfl
   .rw[k_]at h2;have hk:aE (k:Int)=k:=ω;rw[h2,Av (ω:¬(k:Int)=-1),W (ω:¬(k:Int)<0),show aQ 0 0 0 0 B=noE from rfl];simp only[H,hk];have e1:(bif r.B1==1 then C (((),(),(),(k:Int),B,()),((m.F0,m.M0,m.I0,m.A0,()),(r.B1,r.C0,r.G0,r.U0,r.H2,()),(([]:List Int),([]:List Bool),([]:List Bool),([]:List U),()),()))else C (((),(),(),(k:Int),B,()),((m.F0,m.M0,m.I0,m.A0,()),(r.B1,r.C0,r.G0,r.U0,r.H2,()),(([]:List Int),([]:List Bool),([]:List Bool),([]:List U),()),())))=C (((),(),(),(k:Int),B,()),((m.F0,m.M0,m.I0,m.A0,()),(r.B1,r.C0,r.G0,r.U0,r.H2,()),(([]:List Int),([]:List Bool),([]:List Bool),([]:List U),()),())):=by cases r.B1==1<;>rfl
    rw[e1];simp only[J,H,W (ω:¬(k:Int)<0),hk];have ib:inB (k:Int) m.A0.length=E:=Aa ω ω;cases r.B1==2 with
    |true=>
     have w:aA.wrap ((k:Int)+1)=((k+1:Nat):Int):=by rw[Ad ω ω];omega
     have b5:aI (([]:List U).length+(m.A0.take k).length) 2147483648=E:=Ah (by simp;omega);have b6:aI ((m.A0.take k).length+(m.A0.drop (k+1)).length) 2147483648=E:=Ah (by simp;omega);simp only[O,V (ω:(0:Int)<=(k:Int)),V (ω:(k:Int)<=(m.A0.length:Int)),V_,b5,w,V (ω:(0:Int)<=((k+1:Nat):Int)),V (ω:((k+1:Nat):Int)<=(m.A0.length:Int)),i_,List.take_length,b6,O_];rfl
    |false=>
     simp only[H];cases r.B1==3 with
     |true=>simp only[O,ib];rfl
     |false=>
      simp only[H];cases r.B1==7 with
      |true=>
       have ib2:∀y:U,inB (k:Int) (m.A0.set k y).length=E:=λy=>Aa ω (by rw[E_];omega);have hg:∀y:U,(m.A0.set k y).getD k noE=y:=λy=>by simp[n_,h1]
       simp only[O,ib,ib2,hg,List.set_set];rfl
      |false=>rfl
end
def Ga{a:U}:Bq a c=E↔a.C0<c.C0\/(a.C0=c.C0/\a.G0<c.G0):=by unfold Bq;simp only[b0_,e_,R_,a3_]
def QD{a d:U}(h:Bq a c=E)(h':Bq c d=E):Bq a d=E:=by rw[Ga]at*;omega
def Ew(e:U):Int×Int:=(e.C0,e.G0)
def ltC(a c:Int×Int):Prop:=a.1<c.1\/(a.1=c.1/\a.2<c.2)
def Be(l:List U):Prop:=(l.map Ew).Pairwise ltC
def Dw:Be l↔l.Pairwise λx y=>Bq x y=E:=by unfold Be;rw[List.pairwise_map];exact⟨λh=>h.imp λhh=>Ga.2 hh,λh=>h.imp λhh=>Ga.1 hh⟩
def Ajo{b:Bldg}:∀{l:List U}{p:Option U},Ft b p l=E↔(∀e∈l,Hy b e=E)/\Be l/\(∀q,p=C q->∀e∈l,Bq q e=E)
 |[],p=>by simp[Ft,Be]
 |a::t,p=>by
  simp only[Ft,e_];rw[Ajo (l:=t),Dw,Dw,e1_];constructor
  .rintro⟨h1,h2,h3,h4,h5⟩;refine⟨λe he=>?_,⟨λe he=>h5 a rfl e he,h4⟩,λq hq e he=>?_⟩
   .rcases v_.1 he with rfl|he
    .exact h1
    .exact h3 e he
   .subst hq;simp only at h2;rcases v_.1 he with rfl|he
    .exact h2
    .exact QD h2 (h5 a rfl e he)
  .rintro⟨h1,⟨h2,h3⟩,h4⟩;refine⟨h1 a (W_ ..),?_,λe he=>h1 e (Q_ _ he),h3,λq hq e he=>?_⟩
   .cases p with
    |none=>rfl
    |some q=>exact h4 q rfl a (W_ ..)
   .obtain rfl:=D_ hq;exact h2 e he
def Afz:Ft b none l=E↔(∀e∈l,Hy b e=E)/\Be l:=by rw[Ajo];exact⟨λh=>⟨h.1,h.2.1⟩,λh=>⟨h.1,h.2,λ_ hq=>by cases hq⟩⟩
def Av4(h:Be l)(k:Nat):Be (l.take k++l.drop (k+1)):=by rw[Dw]at*;exact h.sublist (by rw[<-List.eraseIdx_eq_take_drop_succ];exact List.eraseIdx_sublist ..)
def Aoj(hk:k<l.length)(he:Ew e=Ew (l.getD k noE)):(l.set k e).map Ew=l.map Ew:=by
 rw[List.map_set,he];apply List.ext_getElem?;intro i;rw[List.getElem?_set];by_cases h:k=i
 .subst h;rw[if_pos rfl];simp[hk,n_]
 .rw[if_neg h]
def Ahl(h:Be l)(hk:k<l.length)(he:Ew e=Ew (l.getD k noE)):Be (l.set k e):=by unfold Be at*;rw[Aoj hk he];exact h
def Aeo{e x:U}:∀{l:List U},x∈EP e B l->x=e\/x∈l
 |[],h=>by simp[EP]at h;exact .inl h
 |a::t,h=>by
  simp only[EP]at h;cases hq:Bq e a with
  |true=>
   rw[hq,O,Vd]at h;rcases v_.1 h with h|h
   .exact .inl h
   .exact .inr h
  |false=>
   rw[hq,H]at h;rcases v_.1 h with h|h
   .exact .inr (by rw[h];exact W_ ..)
   .rcases Aeo h with h|h
    .exact .inl h
    .exact .inr (Q_ _ h)
def Ahk{e:U}:∀{l:List U},Be l->(∀x∈l,isC e.C0 e.G0 x=B)->Be (EP e B l)
 |[],_,_=>by simp[EP,Be]
 |a::t,h,hn=>by
  rw[Dw]at*;obtain⟨h1,h2⟩:=e1_.1 h;simp only[EP];cases hq:Bq e a with
  |true=>
   rw[O,Vd];refine e1_.2 ⟨λx hx=>?_,h⟩;rcases v_.1 hx with rfl|hx
   .exact hq
   .exact QD hq (h1 x hx)
  |false=>
   rw[H];refine e1_.2 ⟨λx hx=>?_,Dw.1 (Ahk (Dw.2 h2) λx hx=>hn x (Q_ _ hx))⟩;rcases Aeo hx with rfl|hx
   .rw[Ga];have h3:¬(x.C0<a.C0\/(x.C0=a.C0/\x.G0<a.G0)):=λhh=>by rw[Ga.2 hh]at hq;cases hq
    have h4:=hn a (W_ ..);unfold isC at h4;simp only[bI,beq_eq_false_iff_ne]at h4;omega
   .exact h1 x hx
structure ImgOK(b:Bldg)(m:Img):Prop where
 code:b.code=0
 lp:m.F0.length=b.B0.length
 lf:m.M0.length=b.B0.length
 ll:m.I0.length=b.B0.length
 ph:∀p∈m.F0,0<=p/\p<=4
 en:∀e∈m.A0,Hy b e=true
 so:Be m.A0
def Img.ok_iff{m:Img}:m.ok b=E↔ImgOK b m:=by
 unfold Img.ok;simp only[e_,a3_];constructor
 .rintro⟨h0,h1,h2,h3,h4,h5⟩;have h6:=Afz.1 h5;exact⟨h0,ω,ω,ω,λp hp=>Al.1 (C_.1 h4 p hp),h6.1,h6.2⟩
 .rintro⟨h0,h1,h2,h3,h4,h5,h6⟩;exact⟨h0,ω,ω,ω,C_.2 λp hp=>Al.2 (h4 p hp),Afz.2 ⟨h5,h6⟩⟩
def Eo:Hy b e=E↔Ak b e.C0 e.G0=E/\(-2<=e.U0/\e.U0<(b.B0.length:Int))/\0<=e.X0/\e.X0<=255:=by
 unfold Hy;simp only[e_,R_];constructor
 .rintro⟨h1,h2,h3,h4,h5⟩;exact⟨h1,⟨h2,h3⟩,h4,h5⟩
 .rintro⟨h1,⟨h2,h3⟩,h4,h5⟩;exact⟨h1,h2,h3,h4,h5⟩
def Ab1{l:List α}{a x:α}(h:x∈l.set k a):x=a\/x∈l:=by
 rcases List.mem_or_eq_of_mem_set h with h|h
 .exact .inr h
 .exact .inl h
def Adm(h:Ax b r=E):b.code=0/\
    ((r.B1=1/\Ak b r.C0 r.G0=E/\r.U0=0/\r.H2=0)\/(r.B1=2/\Ak b r.C0 r.G0=E/\r.U0=0/\r.H2=0)\/
     (r.B1=3/\Ak b r.C0 r.G0=E/\(-2<=r.U0/\r.U0<(b.B0.length:Int))/\r.H2=0)\/
     (r.B1=4/\(0<=r.U0/\r.U0<(b.B0.length:Int))/\(0<=r.H2/\r.H2<=4))\/
     (r.B1=5/\(0<=r.U0/\r.U0<(b.B0.length:Int))/\(0<=r.H2/\r.H2<=1))\/
     (r.B1=6/\(0<=r.U0/\r.U0<(b.B0.length:Int))/\(0<=r.H2/\r.H2<=1))\/
     (r.B1=7/\Ak b r.C0 r.G0=E/\(0<=r.U0/\r.U0<=1)/\(0<=r.H2/\r.H2<=255))):=by
  unfold Ax Xq at h;simp only[e_,a3_]at h;obtain⟨h0,h⟩:=h;refine⟨h0,?_⟩;by_cases k1:r.B1=1
  · rw[k1]at h;simp only[s_,O,e_,a3_]at h;exact .inl ⟨k1,h.1,h.2⟩
  rw[Av k1,H]at h;by_cases k2:r.B1=2
  · rw[k2]at h;simp only[s_,O,e_,a3_]at h;exact .inr (.inl ⟨k2,h.1,h.2⟩)
  rw[Av k2,H]at h;by_cases k3:r.B1=3
  · rw[k3]at h;simp only[s_,O,e_,a3_,Al]at h;exact .inr (.inr (.inl ⟨k3,h.1,ω,h.2.2⟩))
  rw[Av k3,H]at h;by_cases k4:r.B1=4
  · rw[k4]at h;simp only[s_,O,e_,a3_,Al]at h;exact .inr (.inr (.inr (.inl ⟨k4,ω,h.2⟩)))
  rw[Av k4,H]at h;by_cases k5:r.B1=5
  · rw[k5]at h;simp only[s_,O,e_,a3_,Al]at h;exact .inr (.inr (.inr (.inr (.inl ⟨k5,ω,h.2⟩))))
  rw[Av k5,H]at h;by_cases k6:r.B1=6
  · rw[k6]at h;simp only[s_,O,e_,a3_,Al]at h;exact .inr (.inr (.inr (.inr (.inr (.inl ⟨k6,ω,h.2⟩)))))
  rw[Av k6,H]at h;by_cases k7:r.B1=7
  · rw[k7]at h;simp only[s_,O,e_,Al]at h;exact .inr (.inr (.inr (.inr (.inr (.inr ⟨k7,h.1,h.2.1,h.2.2⟩)))))
  rw[Av k7]at h;cases h
def Agx{m:Img}(h:ImgOK b m)(h1:∀e∈l,Hy b e=E)(h2:Be l):ImgOK b (m.put l):=⟨h.code,h.lp,h.lf,h.ll,h.ph,h1,h2⟩
def Ar1{F D:Int}:isC F D e=E↔Ew e=(F,D):=by unfold isC Ew;simp only[e_,a3_,Prod.mk.injEq]
def Ld{m:Img}(h:ImgOK b m)(hv:Ax b r=E):ImgOK b (By m r)/\(By m r).A0.length<=m.A0.length+1:=by
 obtain⟨_,hk⟩:=Adm hv;unfold By;by_cases k4:r.B1=4
 .rw[show(r.B1==4)=E by rw[k4];rfl];refine⟨⟨h.code,by show(m.F0.set _ _).length=_;rw[E_];exact h.lp,h.lf,h.ll,λp hp=>?_,h.en,h.so⟩,bA _⟩;rcases Ab1 hp with rfl|hp
  .omega
  .exact h.ph p hp
 rw[Av k4,H];by_cases k5:r.B1=5
 .rw[show(r.B1==5)=E by rw[k5];rfl];exact⟨⟨h.code,h.lp,by show(m.M0.set _ _).length=_;rw[E_];exact h.lf,h.ll,h.ph,h.en,h.so⟩,bA _⟩
 rw[Av k5,H];by_cases k6:r.B1=6
 .rw[show(r.B1==6)=E by rw[k6];rfl];exact⟨⟨h.code,h.lp,h.lf,by show(m.I0.set _ _).length=_;rw[E_];exact h.ll,h.ph,h.en,h.so⟩,bA _⟩
 rw[Av k6,H];rcases Pf r.C0 r.G0 m.A0 0 with⟨h1,h2⟩|⟨k,h1,h2,h3⟩
 .rw[h1,show((-1:Int)==-1)=E from rfl,O];by_cases k1:r.B1=1
  .rw[show(r.B1==1)=E by rw[k1];rfl,O];refine⟨Agx h (λe he=>?_) (Ahk h.so h2),Aee _ _ _⟩;rcases Aeo he with rfl|he
   .rw[Eo];have hc:Ak b r.C0 r.G0=E:=by
     rcases hk with hk|hk|hk|hk|hk|hk|hk
     .exact hk.2.1
     all_goals omega
    exact⟨hc,⟨by show(-2:Int)<=-1;omega,by show(-1:Int)<_;omega⟩,by show(0:Int)<=0;omega,by show(0:Int)<=255;omega⟩
   .exact h.en e he
  .rw[Av k1,H];exact⟨h,bA _⟩
 .rw[k_]at h2;rw[h2,Av (ω:¬(k:Int)=-1),H,i_];have hmem:=AT noE h1;have hent:=Eo.1 (h.en _ hmem);cases r.B1==2 with
  |true=>
   refine⟨Agx h (λe he=>?_) (Av4 h.so k),?_⟩
   .rcases u_.1 he with he|he
    .exact h.en e (e5_ he)
    .exact h.en e (e6_ he)
   .show(m.A0.take k++m.A0.drop (k+1)).length<=_;rw[h_,w_,X_];omega
  |false=>
   rw[H];by_cases k3:r.B1=3
   .rw[show(r.B1==3)=E by rw[k3];rfl,O];refine⟨Agx h (λe he=>?_) (Ahl h.so h1 rfl),by show(m.A0.set _ _).length<=_;rw[E_];omega⟩;rcases Ab1 he with rfl|he
    .rw[Eo];refine⟨hent.1,?_,hent.2.2⟩;show -2<=r.U0/\r.U0<_;rcases hk with hk|hk|hk|hk|hk|hk|hk
     all_goals first
      |exact hk.2.2.1
      |omega
    .exact h.en e he
   .rw[Av k3,H];by_cases k7:r.B1=7
    .rw[show(r.B1==7)=E by rw[k7];rfl,O];refine⟨Agx h (λe he=>?_) (Ahl h.so h1 rfl),by show(m.A0.set _ _).length<=_;rw[E_];omega⟩;rcases Ab1 he with rfl|he
     .rw[Eo];refine⟨hent.1,hent.2.1,?_⟩;show 0<=r.H2/\r.H2<=255;rcases hk with hk|hk|hk|hk|hk|hk|hk
      all_goals first
       |exact hk.2.2.2
       |omega
     .exact h.en e he
    .rw[Av k7,H];exact⟨h,bA _⟩
def MY(b:Bldg):Img:=⟨aG b.B0.length 0,aG b.B0.length B,aG b.B0.length B,[]⟩
def Aiy(hcode:b.code=0)(hc:b.B0.length<=100):MF b.D0 b.E0 b.J0 b.O0 b.L0 b.N0 b.P0 b.B0=C (((),()),((MY b).tup,())):=by unfold MF;rw[AO,hcode];simp only[J,L_,H,V (ω:(0:Int)<=(b.B0.length:Int)),V (a2_ (b.B0.length:Int)),V (ω:(b.B0.length:Int)<=2147483648),V_,O,i_];rfl
def An2(hcode:b.code=0):ImgOK b (MY b):=⟨hcode,J_,J_,J_,(λp hp=>by rw[List.eq_of_mem_replicate hp];omega),(λ_ h=>by cases h),by simp[MY,Be]⟩
def BT(m:Img):List aB->Img
 |[]=>m
 |r::t=>BT (By m r) t
def UV{b:Bldg}:∀{rs:List aB}{m:Img},ImgOK b m->(∀r∈rs,Ax b r=E)->ImgOK b (BT m rs)/\(BT m rs).A0.length<=m.A0.length+rs.length
 |[],_,h,_=>⟨h,H_ _⟩
 |r::t,m,h,hv=>by obtain⟨h1,h2⟩:=Ld h (hv r (W_ ..));obtain⟨h3,h4⟩:=UV (rs:=t) h1 λx hx=>hv x (Q_ _ hx);exact⟨h3,by show(BT (By m r) t).A0.length<=_;rw[N_];omega⟩
def Ax0{m:Img}(h:ImgOK b m)(hv:Ax b r=E):ZI b m r=(((),0,()),((By m r).tup,())):=by unfold ZI;rw[Img.ok_iff.2 h,hv];rfl
def Bz(c:U):List U->Nat
 |[]=>0
 |e::t=>bif Bq e c then Bz c t+1 else 0
def Ase(c:U):∀(l:List U) (k:Nat),k<Bz c l->Bq (l.getD k noE) c=E
 |[],k,h=>by simp[Bz]at h
 |e::t,k,h=>by
  simp only[Bz]at h;cases he:Bq e c with
  |false=>rw[he]at h;simp at h
  |true=>
   rw[he]at h;cases k with
   |zero=>exact he
   |succ k=>exact Ase c t k (by simp at h;omega)
def Asd{c:U}:∀{l:List U},Be l->∀k,Bz c l<=k->k<l.length->Bq (l.getD k noE) c=B
 |[],_,k,_,h=>by simp at h
 |e::t,hs,k,h1,h2=>by
  obtain⟨a1,a2⟩:=e1_.1 (Dw.1 hs);simp only[Bz]at h1;cases he:Bq e c with
  |true=>
   rw[he,O]at h1;cases k with
   |zero=>omega
   |succ k=>exact Asd (Dw.2 a2) k ω (by simp at h2;omega)
  |false=>
   cases k with
   |zero=>exact he
   |succ k=>
    cases hq:Bq ((e::t).getD (k+1) noE) c with
    |false=>rfl
    |true=>
     have hm:t.getD k noE∈t:=AT noE (by simp at h2;omega)
     have:=QD (a1 _ hm) hq
     rw[he]at this;cases this
def Aem{a:U}(h:isC c.C0 c.G0 a=E):Bq a c=B/\Bq c a=B:=by
 unfold isC at h;simp only[e_,a3_]at h;constructor
 all_goals
  apply Bool.eq_false_iff.2;intro hh;rw[Ga]at hh;omega
def Aof{a:U}(h:isC c.C0 c.G0 a=B)(h':Bq a c=B):Bq c a=E:=by
 rw[Ga];have h1:¬(a.C0<c.C0\/(a.C0=c.C0/\a.G0<c.G0)):=λhh=>by rw[Ga.2 hh]at h';cases h'
 unfold isC at h;simp only[bI,beq_eq_false_iff_ne]at h;omega
def Ay8{a:U}(h:Bq a c=E):Bq c a=B:=by apply Bool.eq_false_iff.2;intro hh;rw[Ga]at*;omega
def Af2{F D:Int}:∀{l:List U}{i:Nat},(∀x∈l,isC F D x=B)->BL F D l i=-1
 |[],_,_=>rfl
 |e::t,i,h=>by simp only[BL];rw[h e (W_ ..),H];exact Af2 λx hx=>h x (Q_ _ hx)
def Kq(c:U)(l:List U):Bool:=Nat.blt (Bz c l) l.length&&isC c.C0 c.G0 (l.getD (Bz c l) noE)
def NG{c:U}:∀{l:List U}(i:Nat),Be l->BL c.C0 c.G0 l i=bif Kq c l then((i+Bz c l:Nat):Int)else -1
 |[],_,_=>rfl
 |e::t,i,hs=>by
  obtain⟨a1,a2⟩:=e1_.1 (Dw.1 hs);have hpos:Bz c (e::t)=bif Bq e c then Bz c t+1 else 0:=rfl;unfold Kq;simp only[BL];rw[hpos];cases he:isC c.C0 c.G0 e with
  |true=>rw[(Aem he).1];simp[he,show Nat.blt 0 (t.length+1)=E from rfl]
  |false=>
   cases hl:Bq e c with
   |true=>rw[H,O,NG (i+1) (Dw.2 a2)];unfold Kq;rw[show((e::t).getD (Bz c t+1) noE)=t.getD (Bz c t) noE from rfl,N_,show Nat.blt (Bz c t+1) (t.length+1)=Nat.blt (Bz c t) t.length from rfl];rw[show i+1+Bz c t=i+(Bz c t+1)by omega]
   |false=>
    rw[H,H,show((e::t).getD 0 noE)=e from rfl,he,a9_,H];refine Af2 λx hx=>?_;cases hq:isC c.C0 c.G0 x with
    |false=>rfl
    |true=>have h1:=QD (Aof he hl) (a1 x hx);rw[(Aem hq).2]at h1;cases h1
def An3{c:U}:∀{l:List U},(∀x∈l,isC c.C0 c.G0 x=B)->EP c B l=l.take (Bz c l)++[c]++l.drop (Bz c l)
 |[],_=>rfl
 |e::t,h=>by
  simp only[EP,Bz];cases hl:Bq e c with
  |true=>rw[Ay8 hl,H,An3 λx hx=>h x (Q_ _ hx)];simp
  |false=>rw[Aof (h e (W_ ..)) hl,O,Vd];simp
def Ayu(hs:Be l)(h:Kq c l=B):∀x∈l,isC c.C0 c.G0 x=B:=by
 have h1:=NG (c:=c) 0 hs;rw[h,H]at h1;rcases Pf c.C0 c.G0 l 0 with⟨_,h2⟩|⟨k,_,h2,_⟩
 .exact h2
 .rw[h1]at h2;omega
def Cy(F D:Int):U:=⟨F,D,0,0,B⟩
def Ayw(x:U)(e:U):Bq x (Cy e.C0 e.G0)=Bq x e:=rfl
def Ya(e:U):∀l:List U,Bz (Cy e.C0 e.G0) l=Bz e l
 |[]=>rfl
 |x::t=>by simp only[Bz,Ayw,Ya e t]
def Bn4{a b:Nat}(h:a<=100000)(h':b<=100000):aA.wrap (aC aA (18*aA.wrap (aC aA ((a:Int)+(b:Int))+1))+6)=18*((a:Int)+(b:Int)+1)+6:=by rw[Ad (n:=(a:Int)+(b:Int)) ω ω,Ad (n:=(a:Int)+(b:Int)+1) ω ω,Ad (n:=18*((a:Int)+(b:Int)+1)) ω ω,Ad ω ω]
def Vq(b:Bldg)(m:Img):Bool:=m.ok b&&decide (18*((b.B0.length:Int)+(m.A0.length:Int)+1)+6<=b.J0)
def DM(p:Nat->Bool):Nat->Nat->Bool
 |0,_=>E
 |m+1,i=>p i&&DM p m (i+1)
def FZ{X Y:Type}{step:X->Option (Sum X Y)}(N:Nat)(g:Nat->X)(p:Nat->Bool)(y0 y1:Y)(h1:∀i,i<N->step (g i)=C (bif p i then .inl (g (i+1))else .inr y1))(h2:step (g N)=C (.inr y0)) :
  ∀m i:Nat,i+m=N->Bx step (m+1) (g i)=C (bif DM p m i then y0 else y1)
 |0,i,hi=>by obtain rfl:i=N:=ω;exact At h2
 |m+1,i,hi=>by
  have h:=h1 i ω;simp only[DM];cases hp:p i with
  |true=>rw[hp]at h;rw[AM h,l_];exact FZ N g p y0 y1 h1 h2 m (i+1) ω
  |false=>rw[hp]at h;rw[At h];rfl
def AB:Nat:=10000000
def CU{n:Nat}(h:i<n)(hn:n<=AB):aA.wrap ((i:Int)+1)=((i+1:Nat):Int):=by unfold AB at hn;rw[Ad ω ω];omega
section
variable{α:Type}
end
structure Img.fit(m:Img):Prop where
 p:m.F0.length<=100000
 f:m.M0.length<=100000
 l:m.I0.length<=100000
 e:m.A0.length<=100000
section
variable{a c:Img}(ha:a.fit)
include ha
end
end Go.Ovl
namespace Go.Ovl
open Go Go.Ab
variable{b:Bldg}{r:aB}{m:Img}{room:Int}
structure Sto where
 h0:ByteArray
 h1:ByteArray
 sel:Int
def Sto.get(s:Sto)(half:Int):ByteArray:=if half=0 then s.h0 else s.h1
def Sto.set(s:Sto)(half:Int)(x:ByteArray):Sto:=if half=0 then { s with h0:=x }else { s with h1:=x }
def Sto.no:Sto:=⟨noB,noB,0⟩
def Sto.cur(s:Sto):ByteArray:=if s.sel=1 then s.h1 else s.h0
def Sto.ok(room:Int)(s:Sto):Prop:=1<=room/\room<=65536/\s.h0.size<=room/\s.h1.size<=room/\(s.sel=0\/s.sel=1)
instance okSto_ti(room:Int)(s:Sto):Decidable (s.ok room):=by unfold Sto.ok;infer_instance
def Sto.tup(s:Sto):ByteArray×ByteArray×Int×Unit:=(s.h0,(s.h1,(s.sel,())))
def Sto.chk(room:Int)(s:Sto)(half bud:Int):Int:=if s.ok room then if(half≠0/\half≠1)\/bud<0 then 2 else 0 else 1
def Sto.write(room:Int)(s:Sto)(half:Int)(d:ByteArray)(bud:Int):Sto×Int×Int:=
 if s.chk room half bud≠0 then(.no,0,s.chk room half bud)
 else if room<(s.get half).size+d.size then(.no,0,7)
 else if bud<d.size then(s.set half (s.get half++d.extract 0 bud.toNat),0,8)
 else(s.set half (s.get half++d),bud-d.size,0)
def Sto.act(room:Int)(s:Sto)(half bud:Int)(t:Sto):Sto×Int×Int:=if s.chk room half bud≠0 then(.no,0,s.chk room half bud)else if bud=0 then(s,0,8)else(t,bud-1,0)
def Sto.erase(room:Int)(s:Sto)(half bud:Int):Sto×Int×Int:=s.act room half bud (s.set half noB)
def Sto.choose(room:Int)(s:Sto)(half bud:Int):Sto×Int×Int:=s.act room half bud { s with sel:=half }
def Sto.out(r:Sto×Int×Int):(Unit×Int×Int×Unit)×((ByteArray×ByteArray×Int×Unit)×Unit):=(((),(r.2.1,(r.2.2,()))),((r.1.h0,(r.1.h1,(r.1.sel,()))),()))
def Zl(room:Int)(h0 h1:ByteArray)(sel:Int):DX room h0 h1 sel=C ((aD (Sto.ok room ⟨h0,h1,sel⟩),()),()):=by
 unfold DX Sto.ok;by_cases a:1<=room
 .by_cases b:room<=65536
  .by_cases c:(h0.size:Int)<=room
   .by_cases d:(h1.size:Int)<=room
    .by_cases e:sel=0
     .simp[a,b,c,d,e]
     .by_cases f:sel=1<;>simp[a,b,c,d,e,f,Av]
    .simp[a,b,c,d]
   .simp[a,b,c]
  .simp[a,b]
 .simp[a]
def Ad7{s:Sto}{half bud:Int}(h:s.chk room half bud=0):s.ok room/\(half=0\/half=1)/\0<=bud:=by
 unfold Sto.chk at h;split at h
 .split at h
  .cases h
  .rename_i h1 h2;refine⟨h1,?_,?_⟩<;>omega
 .cases h
def BC:aV:=bC 0 B B B B 0 0 0 0 0 0 0 0 0 0 0 0 0 0 0 0 0 0 0 0 0 0 0 0 0 0 0 0 0 0 0 0 0 0 0 0
def AS:Duty:=Duty.mk 0 0 0
def AK:aH:=NewCar.mk 0 0 0 0 0 B 0 0 0 0 0 0 0 B
def BP:Loaded:=Loaded.mk 0
def Ab2:Calls:=Calls.mk 0 0
def Jw:aO:=aL 0 0 0 [] 0 B
structure Mch where
 H0:Img
 W0:Sto
 E1:List Debounced
 R0:List Belief
 B0:List NewCar
 Y1:List Loaded
 J1:List Int
 D3:List Calls
 C3:Int
 J2:Int
 C2:Int
def Mch.tup(m:Mch):List Int×List Bool×List Bool×List U×ByteArray×ByteArray×Int×List aV×List aO×List aH×List Loaded×List Int×List Calls×Int×Int×Int×Unit:=(m.H0.F0,m.H0.M0,m.H0.I0,m.H0.A0,m.W0.h0,m.W0.h1,m.W0.sel,m.E1,m.R0,m.B0,m.Y1,m.J1,m.D3,m.C3,m.J2,m.C2,())
structure Mch.fit(m:Mch):Prop where
 im:m.H0.fit
 co:m.E1.length<=100000
 be:m.R0.length<=100000
 du:∀x∈m.R0,x.K0.length<=100000
 ca:m.B0.length<=100000
 lo:m.Y1.length<=100000
 ex:m.J1.length<=100000
 li:m.D3.length<=100000
section
variable{a c:Mch}(ha:a.fit)
include ha
end
def bl(s:ByteArray):List UInt8:=s.data.toList
def Ax3{a c:ByteArray}(h:bl a=bl c):a=c:=by apply bB;unfold bl at h;exact Array.toList_inj.1 h
def Bjp(a c:ByteArray):bl (a++c)=bl a++bl c:=by simp[bl]
def ZL(a:ByteArray):(bl a).length=a.size:=by simp[bl]
def Bng(l:List UInt8):bl ⟨l.toArray⟩=l:=by simp[bl]
def Ax7(s:ByteArray)(i:Nat):Bu s i=(((bl s).getD i 0).toNat:Int):=by unfold Bu bl;simp[r_,n_]
def Vu(r:Nat):Nat:=if 128<=r then(r*2%256)^^^7 else r*2%256
def it8:Nat->Nat->Nat
 |0,r=>r
 |k+1,r=>it8 k (Vu r)
def Abl(r x:Nat):Nat:=it8 8 (r^^^x)
def Acb(l:List UInt8):Nat:=l.foldl (λr x=>Abl r x.toNat) 0
def Apl{r:Nat}(_h:r<256):Vu r<256:=by
 unfold Vu;split
 .exact bD (n:=8) ω τ
 .omega
def Ayv:∀(k:Nat) {r:Nat},r<256->it8 k r<256
 |0,_,h=>h
 |k+1,_,h=>Ayv k (Apl h)
def Amy{r x:Nat}(h:r<256)(h':x<256):Abl r x<256:=Ayv 8 (bD (n:=8) h h')
def Bgy(l:List UInt8):∀r:Nat,r<256->l.foldl (λr x=>Abl r x.toNat) r<256:=by
 induction l with
 |nil=>exact λr h=>h
 |cons x t ih=>intro r h;rw[List.foldl_cons];have hx:x.toNat<256:=UInt8.toNat_lt x;exact ih _ (Amy h hx)
def Bgz(l:List UInt8):Acb l<256:=Bgy l 0 ω
def Te{n:Int}(h:0<=n)(h':n<256):aX.wrap n=n:=by simp only[aC,IntKind.signed,IntKind.bits];simp;omega
def Bfx{a c:Nat}(ha:a<256)(hc:c<256):aA.wrap (stk (a:Int) (c:Int) (aY ((aR (IntKind.bits .i64) (a:Int))^^^(aR (IntKind.bits .i64) (c:Int)))))=((a^^^c:Nat):Int):=by have h:=bD (n:=8) ha hc;rw[Um,BitVec.toNat_xor,d9_,d9_];rw[show(((a:Int))%((2^IntKind.bits .i64:Nat):Int)).toNat=a by simp only[IntKind.bits];omega,show(((c:Int))%((2^IntKind.bits .i64:Nat):Int)).toNat=c by simp only[IntKind.bits];omega];exact Ad ω ω
def Bff:∀(k i r:Nat),Cr (λ_ r=>Vu r) k i r=it8 k r
 |0,_,_=>rfl
 |k+1,i,r=>Bff k (i+1) (Vu r)
def Azp(s:ByteArray)(i:Int){r k:Nat}(hr:r<256)(hk:k<8):OR s (r:Int) i (k:Int)=C (aP ((s,((Vu r:Nat):Int),i,((k+1:Nat):Int),()),())):=by
 unfold OR;have w:aA.wrap ((k:Int)+1)=((k+1:Nat):Int):=by rw[Ad ω ω];omega
 have h0:Int.tmod (aC aA ((r:Int)*2)) 256=((r*2%256:Nat):Int):=by rw[Ad ω ω,e8_ ω];omega
 simp only[V (ω:(k:Int)<8),O,h0,w];unfold Vu;by_cases h:128<=r
 .rw[V (ω:(128:Int)<=(r:Int)),if_pos h,O];have hx:=Bfx (a:=r*2%256) (c:=7) ω ω;rw[show((7:Nat):Int)=7 from rfl]at hx;rw[hx]
 .rw[W (ω:¬(128:Int)<=(r:Int)),if_neg h];rfl
def Azo(s:ByteArray)(i:Int){r:Nat}(hr:r<256):OC ((s,(r:Int),i,(0:Int),()),())=C ((s,((it8 8 r:Nat):Int),i,()),()):=by have h:=AN (step:=λx=>OR x.1.1 x.1.2.1 x.1.2.2.1 x.1.2.2.2.1) 8 (λk r=>((s,((r:Nat):Int),i,(k:Int),()),())) (λ_ r=>Vu r) (λ_ r=>r<256) (λr=>((s,((r:Nat):Int),i,()),())) (λk r hk hr=>⟨Azp s i hr hk,Apl hr⟩) (λr _=>rfl) 8 0 r rfl hr;have h':=h.1;rw[Bff]at h';exact Af h' ω
def Ac6{α β:Type}(f:β->α->β)(d:α):∀(l:List α) (k i:Nat) (s:β),i+k=l.length->Cr (λi s=>f s (l.getD i d)) k i s=(l.drop i).foldl f s
 |l,0,i,s,h=>by obtain rfl:i=l.length:=ω;simp[Cr]
 |l,k+1,i,s,h=>by have hi:i<l.length:=ω;simp only[Cr];rw[Ac6 f d l k (i+1) _ ω,bJ hi,List.foldl_cons];simp[hi]
def Aql{s:ByteArray}(hs:s.size<=1000000):NX s=C ((((Acb (bl s):Nat):Int),()),()):=by
 have h:=AN (step:=λx=>Io x.1.1 x.1.2.1 x.1.2.2.1) s.size (λi r=>((s,((r:Nat):Int),(i:Int),()),())) (λi r=>Abl r ((bl s).getD i 0).toNat) (λ_ r=>r<256) (λr=>((((r:Nat):Int),()),())) (λi r hi hr=>by
  have hx:=UInt8.toNat_lt ((bl s).getD i 0);refine⟨?_,Amy hr hx⟩;show Io s ((r:Nat):Int) (i:Int)=_;have w:aA.wrap ((i:Int)+1)=((i+1:Nat):Int):=by rw[Ad ω ω];omega
  unfold Io;simp only[V (ω:(i:Int)<(s.size:Int)),Aa (ω:(0:Int)<=(i:Int)) (ω:(i:Int)<(s.size:Int)),O,i_,Ax7,Ad (n:=(((bl s).getD i 0).toNat:Int)) ω ω];rw[Bfx hr hx,Azo s _ (bD (n:=8) hr hx),J,w];rfl) (λr _=>by
  show Io s ((r:Nat):Int) (s.size:Int)=_;unfold Io;simp only[W (I_ (s.size:Int)),H]) s.size 0 0 ω ω
 have h':=Af h.1 ω;rw[Ac6 (λr (x:UInt8)=>Abl r x.toNat) 0 (bl s) s.size 0 0 (by rw[ZL];omega),O_]at h';have hl:=Bgz (bl s);unfold NX;rw[show OB ((s,(0:Int),(0:Int),()),())=_ from h'];simp only[J];rw[show((bl s).foldl (λr (x:UInt8)=>Abl r x.toNat) 0)=Acb (bl s)from rfl,Te ω ω]
def Aep(on:Bool):Int:=bif on then 1 else 0
def Ag1(on:Bool):NC on=C ((Aep on,()),()):=by unfold NC Aep;cases on<;>rfl
def Ab7(m:Img)(i:Nat):List aB:=[⟨4,0,0,i,m.F0.getD i 0⟩,⟨5,0,0,i,Aep (m.M0.getD i B)⟩,⟨6,0,0,i,Aep (m.I0.getD i B)⟩]
def Yk(e:U):List aB:=[⟨1,e.C0,e.G0,0,0⟩,⟨3,e.C0,e.G0,e.U0,0⟩,⟨7,e.C0,e.G0,Aep e.N1,e.X0⟩]
def GC(m:Img):List aB:=(aT 0 m.F0.length).flatMap (Ab7 m)++m.A0.flatMap Yk
def IX{α:Type}(f:Nat->List α):∀(k i:Nat) (s:List α),Cr (λi s=>s++f i) k i s=s++(aT i k).flatMap f
 |0,i,s=>by simp[Cr]
 |k+1,i,s=>by simp only[Cr];rw[IX f k (i+1),d0_,a1_,M_]
def Pr{α β:Type}(f:α->List β)(d:α):∀(l:List α) (i k:Nat),i+k=l.length->(aT i k).flatMap (λi=>f (l.getD i d))=(l.drop i).flatMap f
 |l,i,0,h=>by obtain rfl:i=l.length:=ω;simp
 |l,i,k+1,h=>by rw[d0_,a1_,Pr f d l (i+1) k ω,AR d (ω:i<l.length),a1_]
def Aud(l:List U):(aT 0 l.length).flatMap (λi=>Yk (l.getD i noE))=l.flatMap Yk:=by rw[Pr Yk noE l 0 l.length ω,O_]
section
variable{m:Img}(hf:m.fit)
include hf
theorem Aaw{out:List aB}(ho:out.length<=300000):Jo (((),out,(0:Int),()),(m.tup,()))=C ((out++m.A0.flatMap Yk,()),()):=by
 have hl:=hf.e;have h:=AN (step:=λx=>EM x.1.2.1 x.1.2.2.1 x.2.1.1 x.2.1.2.1 x.2.1.2.2.1 x.2.1.2.2.2.1) m.A0.length (λi s=>(((),s,(i:Int),()),(m.tup,()))) (λi s=>s++Yk (m.A0.getD i noE)) (λi s=>s.length=out.length+3*i) (λs=>((s,()),())) (λi s hi hs=>by
  refine⟨?_,by rw[h_,hs];show _+3=_;omega⟩;have b1:∀r r' r'':aB,aI (s.length+[r,r',r''].length) 2147483648=E:=λr r' r''=>Ah (by show s.length+3<=_;omega);show EM s (i:Int) m.F0 m.M0 m.I0 m.A0=_;unfold EM;simp only[V (ω:(i:Int)<(m.A0.length:Int)),Aa (ω:(0:Int)<=(i:Int)) (ω:(i:Int)<(m.A0.length:Int)),O,i_,Ag1,J,b1,CU hi (show m.A0.length<=AB by unfold AB;omega)];rfl) (λs _=>by
  show EM s (m.A0.length:Int) m.F0 m.M0 m.I0 m.A0=_;unfold EM;simp only[W (I_ (m.A0.length:Int)),H]) m.A0.length 0 out ω rfl
 have h':=Af h.1 ω;rw[IX,Aud]at h';exact h'
theorem Aav(h1:m.M0.length=m.F0.length)(h2:m.I0.length=m.F0.length):Jn (((),[],(0:Int),()),(m.tup,()))=C (((),(aT 0 m.F0.length).flatMap (Ab7 m),()),(m.tup,())):=by
 have hl:=hf.p;have h:=AN (step:=λx=>EL x.1.2.1 x.1.2.2.1 x.2.1.1 x.2.1.2.1 x.2.1.2.2.1 x.2.1.2.2.2.1) m.F0.length (λi s=>(((),s,(i:Int),()),(m.tup,()))) (λi s=>s++Ab7 m i) (λi s=>s.length=3*i) (λs=>(((),s,()),(m.tup,()))) (λi s hi hs=>by
  refine⟨?_,by rw[h_,hs];show _+3=_;omega⟩;have b1:∀r r' r'':aB,aI (s.length+[r,r',r''].length) 2147483648=E:=λr r' r''=>Ah (by show s.length+3<=_;omega);show EL s (i:Int) m.F0 m.M0 m.I0 m.A0=_;unfold EL;simp only[V (ω:(i:Int)<(m.F0.length:Int)),Aa (ω:(0:Int)<=(i:Int)) (ω:(i:Int)<(m.F0.length:Int)),Aa (ω:(0:Int)<=(i:Int)) (ω:(i:Int)<(m.M0.length:Int)),Aa (ω:(0:Int)<=(i:Int)) (ω:(i:Int)<(m.I0.length:Int)),O,i_,Ag1,J,b1,CU hi (show m.F0.length<=AB by unfold AB;omega)];rfl) (λs _=>by
  show EL s (m.F0.length:Int) m.F0 m.M0 m.I0 m.A0=_;unfold EL;simp only[W (I_ (m.F0.length:Int)),H];rfl) m.F0.length 0 [] ω rfl
 have h':=Af h.1 ω;rw[IX,y_]at h';exact h'
end
def TT{α β:Type}(f:α->List β)(hf:∀x,(f x).length=3):∀l:List α,(l.flatMap f).length=3*l.length
 |[]=>rfl
 |a::t=>by rw[a1_,h_,hf,TT f hf t,N_];omega
def Ako(m:Img)(n:Nat):((aT 0 n).flatMap (Ab7 m)).length=3*n:=by rw[TT _ λ_=>rfl,List.length_range']
def Az2(m:Img):(GC m).length=3*(m.F0.length+m.A0.length):=by unfold GC;rw[h_,Ako,TT _ λ_=>rfl];omega
def Ama(b:Bldg)(m:Img):List aB:=bif m.ok b then GC m else []
section
variable{b:Bldg}(hb:b.small){m:Img}(hf:m.fit)
include hb hf
theorem Ag0:Lw b.D0 b.E0 b.J0 b.O0 b.L0 b.N0 b.P0 b.B0 m.F0 m.M0 m.I0 m.A0=C ((Ama b m,()),()):=by
 have hmx:100000<=maxLen:=by decide
 have hp:=hf.p;have he:=hf.e;unfold Lw Ama;rw[Cd hb m ω ω];simp only[J];cases hok:m.ok b with
 |false=>rfl
 |true=>have hm:=Img.ok_iff.1 hok;have l0:=Aav hf (by rw[hm.lf,hm.lp]) (by rw[hm.ll,hm.lp]);have l1:=Aaw hf (out:=(aT 0 m.F0.length).flatMap (Ab7 m)) (by rw[Ako];omega);simp only[Img.tup]at l0 l1;simp only[m_,H,O,l0,l1,J];rfl
end
def XX(on:Bool):0<=Aep on/\Aep on<=1:=by cases on<;>exact⟨τ,τ⟩
def Av3(h:ImgOK b m):∀r∈GC m,Ax b r=E:=by
 have hcode:=h.code;intro r hr;unfold GC at hr;rcases u_.1 hr with hr|hr
 .obtain⟨i,hi,hr⟩:=b4_.1 hr;have hi':i<m.F0.length:=by
   have:=List.mem_range'_1.1 hi
   omega
  have hp:=h.ph _ (AT 0 hi');have hlp:=h.lp;have hcar:∀k v:Int,Xq b ⟨k,0,0,i,v⟩=E:=λk v=>by unfold Xq;rw[Al.2 ⟨show(0:Int)<=(i:Int)by omega,show(i:Int)<=(b.B0.length:Int)-1 by omega⟩];rfl
  unfold Ab7 at hr;simp only[v_,f0_,or_false]at hr;rcases hr with rfl|rfl|rfl
  .unfold Ax;rw[hcode,hcar,Al.2 hp];rfl
  .unfold Ax;rw[hcode,hcar,Al.2 (XX _)];rfl
  .unfold Ax;rw[hcode,hcar,Al.2 (XX _)];rfl
 .obtain⟨e,he,hr⟩:=b4_.1 hr;obtain⟨h1,h2,h3⟩:=Eo.1 (h.en e he);unfold Yk at hr;simp only[v_,f0_,or_false]at hr;rcases hr with rfl|rfl|rfl
  .unfold Ax;rw[hcode,h1];rfl
  .unfold Ax;rw[hcode,h1,Al.2 ⟨h2.1,show e.U0<=(b.B0.length:Int)-1 by omega⟩];rfl
  .unfold Ax;rw[hcode,h1,Al.2 (XX _),Al.2 h3];rfl
def u8n(n:Int):UInt8:=UInt8.ofNat n.toNat
def txt(l:List UInt8):ByteArray:=⟨l.toArray⟩
def Mv(l:List UInt8):bl (txt l)=l:=Bng l
def Blh(s:ByteArray):txt (bl s)=s:=Ax3 (Mv _)
def Asq(a c:List UInt8):txt a++txt c=txt (a++c):=Ax3 (by rw[Bjp,Mv,Mv,Mv])
def Qd(l:List UInt8):(txt l).size=l.length:=by rw[<-ZL,Mv]
def Bdx(l:List Int):KF l=txt (l.map u8n):=rfl
def Bdd(r:aB):List UInt8:=[u8n r.B1,u8n r.C0,u8n r.G0,u8n (r.U0+2),u8n r.H2]
def IA(r:aB):List UInt8:=Bdd r++[u8n ((Acb (Bdd r):Nat):Int)]
def Aeb(r:aB):(IA r).length=6:=rfl
def Ke(hb:b.small){f d:Int}(h:Ak b f d=E):(0<=f/\f<100)/\(1<=d/\d<=2):=by have Z:=hb.lo;have hi:=hb.hi;unfold Ak Fq at h;simp only[e_,b0_,a3_,Al]at h;omega
structure RecOK(r:Record):Prop where
 k:1<=r.B1/\r.B1<=7
 f:0<=r.C0/\r.C0<100
 d:0<=r.G0/\r.G0<100
 c:-2<=r.U0/\r.U0<100
 v:0<=r.H2/\r.H2<256
def Arf(hb:b.small)(hc:b.B0.length<=100)(h:Ax b r=E):RecOK r:=by
 have hk:=(Adm h).2;have hcar:(r.B1=4\/r.B1=5\/r.B1=6)->r.C0=0/\r.G0=0:=λhq=>by
  unfold Ax Xq at h;rcases hq with q|q|q
  all_goals
   rw[q]at h;simp only[show((4:Int)==1)=B from rfl,show((4:Int)==2)=B from rfl,show((4:Int)==3)=B from rfl,show((5:Int)==1)=B from rfl,show((5:Int)==2)=B from rfl,show((5:Int)==3)=B from rfl,show((5:Int)==4)=B from rfl,show((6:Int)==1)=B from rfl,show((6:Int)==2)=B from rfl,show((6:Int)==3)=B from rfl,show((6:Int)==4)=B from rfl,show((6:Int)==5)=B from rfl,s_,O,H,e_,a3_]at h;exact h.2.1.2
 rcases hk with h1|h1|h1|h1|h1|h1|h1
 .have:=Ke hb h1.2.1
  exact⟨ω,this.1,ω,ω,ω⟩
 .have:=Ke hb h1.2.1
  exact⟨ω,this.1,ω,ω,ω⟩
 .have:=Ke hb h1.2.1
  exact⟨ω,this.1,ω,ω,ω⟩
 .have:=hcar ω
  exact⟨ω,ω,ω,ω,ω⟩
 .have:=hcar ω
  exact⟨ω,ω,ω,ω,ω⟩
 .have:=hcar ω
  exact⟨ω,ω,ω,ω,ω⟩
 .have:=Ke hb h1.2.1
  exact⟨ω,this.1,ω,ω,ω⟩
def Bn6(h:RecOK r):KF [aX.wrap r.B1,aX.wrap r.C0,aX.wrap r.G0,aX.wrap (aC aA (r.U0+2)),aX.wrap r.H2]=txt (Bdd r):=by obtain⟨h1,h2,h3,h4,h5⟩:=h;rw[Te (n:=r.B1) ω ω,Te (n:=r.C0) ω ω,Te (n:=r.G0) ω ω,Ad (n:=r.U0+2) ω ω,Te (n:=r.U0+2) ω ω,Te (n:=r.H2) ω ω];rfl
def Nt(b:Bldg)(r:aB):ByteArray:=bif Ax b r then txt (IA r)else txt []
section
variable{b:Bldg}(hb:b.small)(hc:b.B0.length<=100)
include hb hc
theorem Ak6(r:aB):Of b.D0 b.E0 b.J0 b.O0 b.L0 b.N0 b.P0 b.B0 r.B1 r.C0 r.G0 r.U0 r.H2=C ((Nt b r,(bif Ax b r then 0 else 1),()),()):=by
 unfold Of Nt;rw[Uc hb hc r];simp only[J];cases hv:Ax b r with
 |false=>rfl
 |true=>have h:=Arf hb hc hv;simp only[m_,H,O,Bn6 h];rw[Aql (by rw[Qd];show 5<=1000000;omega)];simp only[J,Mv,Bdx];rw[Ah (by rw[Qd,Qd];show 5+1<=4611686018427387904;omega),Asq];rfl
end
def fld(l:List UInt8)(i:Nat):Int:=((l.getD i 0).toNat:Int)
def Bde(l:List UInt8):aB:=⟨fld l 0,fld l 1,fld l 2,fld l 3-2,fld l 4⟩
def At7(b:Bldg)(l:List UInt8):Option aB:=bif l.length==6&&(((((Acb (l.take 5):Nat):Int))==fld l 5)&&Ax b (Bde l))then C (Bde l)else none
def Aye{l:List UInt8}(h:At7 b l=C r):Ax b r=E:=by
 unfold At7 at h;cases hq:(l.length==6&&(((((Acb (l.take 5):Nat):Int))==fld l 5)&&Ax b (Bde l)))with
 |false=>rw[hq]at h;cases h
 |true=>rw[hq]at h;cases h;rw[e_,e_]at hq;exact hq.2.2
def QI(b:Bldg):Nat->List UInt8->List aB
 |0,_=>[]
 |k+1,l=>if 6<=l.length then match At7 b (l.take 6)with|some r=>r::QI b k (l.drop 6)|none=>[]else []
def Ps(b:Bldg)(s:ByteArray):List aB:=QI b s.size (bl s)
def Aa1(b:Bldg):∀(k:Nat) (l:List UInt8),6*(QI b k l).length<=l.length
 |0,_=>by simp[QI]
 |k+1,l=>by
  simp only[QI];split
  .split
   .rename_i h _ r _
    have:=Aa1 b k (l.drop 6)
    rw[X_]at this;rw[N_];omega
   .simp
  .simp
def Wb(b:Bldg):∀(k:Nat) (l:List UInt8),∀r∈QI b k l,Ax b r=E
 |0,_,_,h=>by simp[QI]at h
 |k+1,l,r,h=>by
  simp only[QI]at h;split at h
  .split at h
   .rename_i _ _ r' hr;rcases v_.1 h with rfl|h
    .exact Aye hr
    .exact Wb b k _ r h
   .cases h
  .cases h
def Ayg(b:Bldg)(r:aB):(bl (Nt b r)).length<=6:=by
 unfold Nt;cases Ax b r with
 |true=>rw[O,Mv,Aeb];omega
 |false=>rw[H,Mv];simp
def Afy(h:Ax b r=E):Nt b r=txt (IA r):=by unfold Nt;rw[h];rfl
def Ant{b:Bldg}:∀{rs:List aB},(∀r∈rs,Ax b r=E)->rs.flatMap (λr=>bl (Nt b r))=rs.flatMap IA
 |[],_=>rfl
 |r::t,h=>by rw[a1_,a1_,Afy (h r (W_ ..)),Mv,Ant λx hx=>h x (Q_ _ hx)]
def Bgd(rs:List aB):(rs.flatMap IA).length=6*rs.length:=by
 induction rs with
 |nil=>rfl
 |cons r t ih=>rw[a1_,h_,ih,Aeb,N_];omega
section
variable{b:Bldg}(hb:b.small)(hc:b.B0.length<=100)
include hb hc
end
def DB(b:Bldg)(s:Sto)(m:Img)(bud:Int):Sto×Int×Int:=
 bif !(aD (s.ok b.J0))then(Sto.no,0,1)else bif decide (bud<0)then(Sto.no,0,1)else bif !(m.ok b)then(Sto.no,0,1)else
 bif((s.erase b.J0 (1-s.sel) bud).2.2==0)then
  (bif(((s.erase b.J0 (1-s.sel) bud).1.write b.J0 (1-s.sel) (txt ((GC m).flatMap IA)) (s.erase b.J0 (1-s.sel) bud).2.1).2.2==0)then
   ((s.erase b.J0 (1-s.sel) bud).1.write b.J0 (1-s.sel) (txt ((GC m).flatMap IA)) (s.erase b.J0 (1-s.sel) bud).2.1).1.choose b.J0 (1-s.sel) ((s.erase b.J0 (1-s.sel) bud).1.write b.J0 (1-s.sel) (txt ((GC m).flatMap IA)) (s.erase b.J0 (1-s.sel) bud).2.1).2.1
  else(s.erase b.J0 (1-s.sel) bud).1.write b.J0 (1-s.sel) (txt ((GC m).flatMap IA)) (s.erase b.J0 (1-s.sel) bud).2.1)
 else s.erase b.J0 (1-s.sel) bud
def Ah4(room:Int)(s:Sto)(half bud:Int)(t:Sto)(hb:bud<9223372036854775808):(s.act room half bud t).2.1<9223372036854775808:=by
 unfold Sto.act;split
 .show(0:Int)<_;omega
 .split
  .show(0:Int)<_;omega
  .show bud-1<_;omega
def Abg(room:Int)(s:Sto)(half:Int)(d:ByteArray)(bud:Int)(hb:bud<9223372036854775808):(s.write room half d bud).2.1<9223372036854775808:=by
 unfold Sto.write;split
 .show(0:Int)<_;omega
 .split
  .show(0:Int)<_;omega
  .split
   .show(0:Int)<_;omega
   .show bud-(d.size:Int)<_;omega
def Abv(b:Bldg)(m:Img)(r:aB):Bool:=r.B1==1&&(!(Kq (Cy r.C0 r.G0) m.A0)&&!(Vq b m))
def Nx(b:Bldg)(s:Sto)(m:Img)(r:aB)(bud:Int):Sto×Int×Int:=bif decide ((6:Int)<=b.J0-(s.cur.size:Int))then s.write b.J0 s.sel (txt (IA r)) bud else DB b s (By m r) bud
def EN(b:Bldg)(s:Sto)(m:Img)(r:aB)(bud:Int):Sto×Img×Int×Int:=
 bif !(m.ok b&&Ax b r)then(Sto.no,Img.none,0,1)else bif !(aD (s.ok b.J0))then(Sto.no,Img.none,0,1)else bif decide (bud<0)then(Sto.no,Img.none,0,1)else
 bif Abv b m r then(Sto.no,Img.none,0,7)else
 bif(Nx b s m r bud).2.2==0 then((Nx b s m r bud).1,By m r,(Nx b s m r bud).2.1,(Nx b s m r bud).2.2)
 else bif(Nx b s m r bud).2.2==8 then((Nx b s m r bud).1,m,0,(Nx b s m r bud).2.2)else(Sto.no,Img.none,0,(Nx b s m r bud).2.2)
def Bjm(r:Sto×Img×Int×Int):(Unit×Unit×Int×Int×Unit)×((ByteArray×ByteArray×Int×Unit)×(List Int×List Bool×List Bool×List U×Unit)×Unit):=(((),(),r.2.2.1,r.2.2.2,()),((r.1.h0,r.1.h1,r.1.sel,()),r.2.1.tup,()))
def Ej(b:Bldg)(s:Sto):Img:=BT (MY b) (Ps b s.cur)
section
variable{s:Sto}{room half bud:Int}(hs:s.ok room)(hh:half=0\/half=1)(hb:0<=bud)
include hs hh hb
end
def Blb{s:Sto}(hs:s.ok room):(s.cur.size:Int)<=room:=by
 obtain⟨_,_,h3,h4,_⟩:=hs;unfold Sto.cur;split
 .exact h4
 .exact h3
def Azz(s:Sto)(m:Img)(bud e:Int):(Unit×Unit×Int×Int×Unit)×((ByteArray×ByteArray×Int×Unit)×(List Int×List Bool×List Bool×List U×Unit)×Unit):=(((),(),bud,e,()),((s.h0,s.h1,s.sel,()),m.tup,()))
def Ce(b:Bldg)(s:Sto)(bud:Int):Sto×Img×Int×Int:=
 bif(DB b s (Ej b s) bud).2.2 !=0 then((DB b s (Ej b s) bud).1,Img.none,0,(DB b s (Ej b s) bud).2.2)
 else((DB b s (Ej b s) bud).1,Ej b s,(DB b s (Ej b s) bud).2.1,0)
def Akh(hcode:b.code=0)(s:Sto)(hs:s.cur.size<=500000):ImgOK b (Ej b s)/\(Ej b s).A0.length<=90000/\(Ej b s).fit:=by have hc:=Ai hcode;obtain⟨h1,h2⟩:=UV (An2 hcode) (rs:=Ps b s.cur) λr hr=>Wb b _ _ r hr;have h3:=Aa1 b s.cur.size (bl s.cur);rw[ZL]at h3;have h4:(MY b).A0.length=0:=rfl;have h5:(Ps b s.cur).length=(QI b s.cur.size (bl s.cur)).length:=rfl;have g1:=h1.lp;have g2:=h1.lf;have g3:=h1.ll;exact⟨h1,by show(BT (MY b) (Ps b s.cur)).A0.length<=_;omega,by show(BT (MY b) (Ps b s.cur)).F0.length<=_;omega,by show(BT (MY b) (Ps b s.cur)).M0.length<=_;omega,by show(BT (MY b) (Ps b s.cur)).I0.length<=_;omega,by show(BT (MY b) (Ps b s.cur)).A0.length<=_;omega⟩
def KA(b:Bldg)(m:Img):Bool:=m.ok b&&decide (18*((b.B0.length:Int)+(m.A0.length:Int))+6<=b.J0)
def Bj5{a b:Nat}(h:a<=100000)(h':b<=100000):aA.wrap (aC aA (18*aA.wrap ((a:Int)+(b:Int)))+6)=18*((a:Int)+(b:Int))+6:=by rw[Ad (n:=(a:Int)+(b:Int)) ω ω,Ad (n:=18*((a:Int)+(b:Int))) ω ω,Ad ω ω]
def Aha(hb:b.small)(m:Img)(hc:b.B0.length<=100000)(hf:m.fit):LA b.D0 b.E0 b.J0 b.O0 b.L0 b.N0 b.P0 b.B0 m.F0 m.M0 m.I0 m.A0=C ((KA b m,()),()):=by
 have hmx:100000<=maxLen:=by decide
 have hp:=hf.p;have he:=hf.e;unfold LA KA;rw[WK hb m ω ω];simp only[J,Bj5 hc he];cases m.ok b<;>rfl
def Ro:aO:=⟨-1,0,0,[],0,B⟩
def Ri(b:Bldg)(i:Nat):Car:=b.B0.getD i ⟨0,0,0,0,0,0,0,0,0⟩
def PY(b:Bldg)(e:U):Int:=bif decide (0<=e.U0)then(Ri b e.U0.toNat).T1 else 0
def Mch.none:Mch:=⟨Img.none,Sto.no,[],[],[],[],[],[],0,0,0⟩
def Ayo(b:Bldg)(m:Img)(s:Sto):Mch:=⟨m,s,aG b.B0.length BC,aG b.B0.length Ro,aG b.B0.length AK,aG b.B0.length BP,m.A0.map (PY b),aG b.B0.length Ab2,0,0,0⟩
def Mch.withB(m:Mch)(l:List aO):Mch:={ m with R0:=l }
def Mch.withE(m:Mch)(l:List Int):Mch:={ m with J1:=l }
def Apg{α:Type}(a:α):∀k i:Nat,(aT i k).flatMap (λ_=>[a])=aG k a
 |0,_=>rfl
 |k+1,i=>by rw[d0_,a1_,Apg a k (i+1),List.replicate_succ];rfl
def Bc2{α β:Type}(f:α->β)(l:List α):l.flatMap (λx=>[f x])=l.map f:=by
 induction l with
 |nil=>rfl
 |cons a t ih=>rw[a1_,ih];rfl
def Hz(b:Bldg)(m:Img)(s:Sto):Mch×Int:=bif KA b m&&decide (s.ok b.J0)then(Ayo b m s,0)else(Mch.none,1)
def OZ(b:Bldg)(s:Sto)(bud:Int):Mch×Int×Int:=
 bif(Ce b s bud).2.2.2 !=0 then({ Mch.none with W0:=(Ce b s bud).1 },0,(Ce b s bud).2.2.2)
 else bif(Hz b (Ce b s bud).2.1 (Ce b s bud).1).2 !=0 then(Mch.none,0,(Hz b (Ce b s bud).2.1 (Ce b s bud).1).2)
 else((Hz b (Ce b s bud).2.1 (Ce b s bud).1).1,(Ce b s bud).2.2.1,0)
def Asf(hcode:b.code=0)(s:Sto)(hs:s.cur.size<=500000)(bud:Int):(Ce b s bud).2.1.fit:=by
 obtain⟨_,_,hf⟩:=Akh hcode s hs;unfold Ce;cases(DB b s (Ej b s) bud).2.2 !=0 with
 |true=>exact⟨G_ _,G_ _,G_ _,G_ _⟩
 |false=>exact hf
def Aa9(b:Bldg):Mch×Int:=bif b.code==0 then((OZ b Sto.no 1048576).1,(OZ b Sto.no 1048576).2.2)else(Mch.none,1)
def Ayp(hf:m.fit)(hc:b.B0.length<=1000)(s:Sto):(Ayo b m s).fit:=by
 have he:=hf.e;refine⟨hf,?_,?_,λx hx=>?_,?_,?_,?_,?_⟩
 .show(aG b.B0.length BC).length<=_;rw[J_];omega
 .show(aG b.B0.length Ro).length<=_;rw[J_];omega
 .rw[List.eq_of_mem_replicate (show x∈aG b.B0.length Ro from hx)];exact G_ _
 .show(aG b.B0.length AK).length<=_;rw[J_];omega
 .show(aG b.B0.length BP).length<=_;rw[J_];omega
 .show(m.A0.map (PY b)).length<=_;rw[d7_];omega
 .show(aG b.B0.length Ab2).length<=_;rw[J_];omega
def Ar0:∀{l:List Nat}{a n:Nat},l.Pairwise (· < ·)->(∀x∈l,a<=x/\x<n)->l.length+a<=n\/l=[]
 |[],_,_,_,_=>.inr rfl
 |x::t,a,n,h,hr=>by
  left;obtain⟨h1,h2⟩:=e1_.1 h;have hx:=hr x (W_ ..);rcases Ar0 (a:=x+1) (n:=n) h2 (λy hy=>⟨h1 y hy,(hr y (Q_ _ hy)).2⟩)with q|q
  .rw[N_];omega
  .subst q;simp;omega
def Bge(hb:b.small)(hm:ImgOK b m):(m.A0.length:Int)<=2*(b.D0-1):=by
 have Z:=hb.lo;have hi:=hb.hi
 let ix:Int×Int->Nat:=λp=>if p.1=0 then 0 else if p.1=b.D0-1 then(2*b.D0-3).toNat else(2*p.1+p.2-2).toNat
 have hv:∀p∈m.A0.map Ew,(p.2=1/\0<=p.1/\p.1<=b.D0-2)\/(p.2=2/\1<=p.1/\p.1<=b.D0-1):=λp hp=>by obtain⟨e,he,rfl⟩:=b2_.1 hp;have h1:=(Eo.1 (hm.en e he)).1;unfold Ak Fq at h1;simp only[e_,b0_,a3_,Al]at h1;show(e.G0=1/\0<=e.C0/\e.C0<=b.D0-2)\/(e.G0=2/\1<=e.C0/\e.C0<=b.D0-1);omega
 have hp:((m.A0.map Ew).map ix).Pairwise (· < ·):=by rw[List.pairwise_map];refine List.Pairwise.imp_of_mem (λ{p q} hp hq h=>?_) hm.so;have v1:=hv p hp;have v2:=hv q hq;unfold ltC at h;show ix p<ix q;simp only[ix];split<;>split<;>(try split)<;>(try split)<;>omega
 rcases Ar0 (a:=0) (n:=(2*b.D0-2).toNat) hp (λx hx=>by
  obtain⟨p,hp,rfl⟩:=b2_.1 hx;have v1:=hv p hp;refine⟨G_ _,?_⟩;show ix p<_;simp only[ix];split
  .omega
  .split<;>omega)with q|q
 .rw[d7_,d7_]at q;omega
 .have:=congrArg List.length q
  rw[d7_,d7_,List.length_nil]at this;omega
def Afi{p q:Nat->Bool}:∀m i:Nat,(∀k,i<=k->k<i+m->(∀j,i<=j->j<k->p j=E)->p k=q k)->DM p m i=DM q m i
 |0,_,_=>rfl
 |m+1,i,h=>by
  have h0:=h i (H_ _) ω (λj h1 h2=>by omega);simp only[DM];cases hp:p i with
  |false=>rw[<-h0,hp];rfl
  |true=>
   rw[<-h0,hp,l_,l_];exact Afi m (i+1) λk h1 h2 h3=>h k ω ω λj h4 h5=>by
    rcases Nat.lt_or_ge i j with g|g
    .exact h3 j ω h5
    .obtain rfl:j=i:=ω;exact hp
def ltD(a b:Int):decide (a<b)=!decide (b<=a):=by
 by_cases h:a<b
 .rw[V h,W (ω:¬b<=a)];rfl
 .rw[W h,V (ω:b<=a)];rfl
def leD(a b:Int):decide (a<=b)=!decide (b<a):=by rw[ltD b a,Bool.not_not]
def JO(xs:List Int):Bool:=xs.all (inR 0 1000000)
def Aqd(n:Int):Hn n=C ((!inR 0 1000000 n,()),()):=by unfold Hn inR;rw[ltD n 0,ltD 1000000 n];cases decide (0<=n)<;>cases decide (n<=1000000)<;>rfl
def Sg{xs:List Int}(hl:xs.length<=1000000):Gt xs=C ((JO xs,()),()):=by
 have key:∀(k i:Nat),i+k=xs.length->∃y,Bx (λx=>Aw x.1.1 x.1.2.2.1 x.1.2.2.2.1) (k+1) ((xs,(),(xs.length:Int),(i:Int),()),())=C y/\(match y with|.inl _=>(xs.drop i).all (inR 0 1000000)=E|.inr z=>0<=z.1.1/\(xs.drop i).all (inR 0 1000000)=B):=by
  intro k;induction k with
  |zero=>
   intro i hi;refine⟨.inl ((),()),At ?_,?_⟩
   .show Aw xs (xs.length:Int) (i:Int)=_;unfold Aw;rw[W (ω:¬(i:Int)<(xs.length:Int))];rfl
   .rw[show i=xs.length by omega,Y_];rfl
  |succ k ih=>
   intro i hi;have hi':i<xs.length:=ω;have hs:Aw xs (xs.length:Int) (i:Int)=C (bif inR 0 1000000 (xs.getD i 0)then .inl ((xs,(),(xs.length:Int),((i+1:Nat):Int),()),())else .inr (.inr (((i:Int),()),()))):=by unfold Aw;rw[V (ω:(i:Int)<(xs.length:Int)),Aa ω ω,Aqd,CU hi' (show xs.length<=AB by unfold AB;omega)];simp only[O,i_,J];cases inR 0 1000000 (xs.getD i 0)<;>rfl
   rw[AR (0:Int) hi',U_];cases hq:inR 0 1000000 (xs.getD i 0)with
   |true=>rw[hq]at hs;obtain⟨y,h1,h2⟩:=ih (i+1) ω;exact⟨y,(AM hs).trans h1,by rw[l_];exact h2⟩
   |false=>rw[hq]at hs;exact⟨_,At hs,by show(0:Int)<=(i:Int)/\_;exact⟨ω,rfl⟩⟩
 obtain⟨y,h1,h2⟩:=key xs.length 0 ω;have h1':BI ((xs,(),(xs.length:Int),(0:Int),()),())=C y:=Af h1 ω;rw[O_]at h2;unfold Gt BE BO JO;rw[h1'];cases y with
 |inl z=>simp only at h2;rw[h2];rfl
 |inr z=>simp only at h2;rw[h2.2];simp only[J];rw[V h2.1];rfl
def Ko(x:aV):List Int:=[x.R4,x.S4,x.T4,x.U4,x.V4,x.W4,x.X4,x.Y4,x.Z4,x.A5,x.I3,x.J3,x.K3,x.L3,x.M3,x.N3,x.O3,x.P3,x.R3,x.T3,x.U3,x.V3,x.X3,x.Y3,x.Z3,x.A4,x.B4,x.C4,x.D4,x.E4,x.F4,x.G4,x.H4,x.I4,x.J4,x.K4]
def Anf(n:Int)(x:aV)(i:Nat):Bool:=decide (0<=(Ko x).getD i 0)&&decide ((Ko x).getD i 0<n)
def LL(n:Int)(x:aV):Bool:=decide (1<=n)&&(aD (n<=16)&&DM (Anf n x) 36 0)
def ZP(n:Int)(x:aV):FG n x.Y0 x.B2 x.L1 x.M1 x.F1 x.R4 x.S4 x.T4 x.U4 x.V4 x.W4 x.X4 x.Y4 x.Z4 x.A5 x.I3 x.J3 x.K3 x.L3 x.M3 x.N3 x.O3 x.P3 x.R3 x.T3 x.U3 x.V3 x.X3 x.Y3 x.Z3 x.A4 x.B4 x.C4 x.D4 x.E4 x.F4 x.G4 x.H4 x.I4 x.J4 x.K4=C ((LL n x,()),()):=by
 have h:=Af (FZ (step:=λx=>letI g:=x.1.2.1.2;letI l:=g.2.2;letI c:=l.2.2.2;letI d:=c.2.2.2.2;letI j:=d.2.2;letI a:=j.2.2.2.2;letI f:=a.2.2.2.2;letI m:=f.2.2;letI b:=m.2.2.2;letI e:=b.2.2.2.2;letI k:=e.2.2;Dh x.1.1 x.1.2.1.1 g.1 g.2.1 l.1 l.2.1 l.2.2.1 c.1 c.2.1 c.2.2.1 c.2.2.2.1 d.1 d.2.1 j.1 j.2.1 j.2.2.1 j.2.2.2.1 a.1 a.2.1 a.2.2.1 a.2.2.2.1 f.1 f.2.1 m.1 m.2.1 m.2.2.1 b.1 b.2.1 b.2.2.1 b.2.2.2.1 e.1 e.2.1 k.1 k.2.1 k.2.2.1 k.2.2.2.1 k.2.2.2.2.1 x.1.2.2.1) 36 (λi=>((n,(x.R4,x.S4,x.T4,x.U4,x.V4,x.W4,x.X4,x.Y4,x.Z4,x.A5,x.I3,x.J3,x.K3,x.L3,x.M3,x.N3,x.O3,x.P3,x.R3,x.T3,x.U3,x.V3,x.X3,x.Y3,x.Z3,x.A4,x.B4,x.C4,x.D4,x.E4,x.F4,x.G4,x.H4,x.I4,x.J4,x.K4,()),(i:Int),()),())) (Anf n x) (aP ((),())) (aN ((B,()),())) (λi hi=>by
  show Dh n x.R4 x.S4 x.T4 x.U4 x.V4 x.W4 x.X4 x.Y4 x.Z4 x.A5 x.I3 x.J3 x.K3 x.L3 x.M3 x.N3 x.O3 x.P3 x.R3 x.T3 x.U3 x.V3 x.X3 x.Y3 x.Z3 x.A4 x.B4 x.C4 x.D4 x.E4 x.F4 x.G4 x.H4 x.I4 x.J4 x.K4 (i:Int)=_;unfold Dh;simp only[V (ω:(i:Int)<36),Aa (ω:(0:Int)<=(i:Int)) (ω:(i:Int)<((36:Nat):Int)),O,i_,CU hi (show 36<=AB by decide)];show(bif decide ((Ko x).getD i 0<0)then _ else bif decide (n<=(Ko x).getD i 0)then _ else _)=C (bif(aD (0<=(Ko x).getD i 0)&&decide ((Ko x).getD i 0<n))then _ else _);rw[ltD ((Ko x).getD i 0) 0,leD n ((Ko x).getD i 0)];cases decide (0<=(Ko x).getD i 0)<;>cases decide ((Ko x).getD i 0<n)<;>rfl) (by
  show Dh n x.R4 x.S4 x.T4 x.U4 x.V4 x.W4 x.X4 x.Y4 x.Z4 x.A5 x.I3 x.J3 x.K3 x.L3 x.M3 x.N3 x.O3 x.P3 x.R3 x.T3 x.U3 x.V3 x.X3 x.Y3 x.Z3 x.A4 x.B4 x.C4 x.D4 x.E4 x.F4 x.G4 x.H4 x.I4 x.J4 x.K4 (36:Int)=_;unfold Dh;simp only[show decide ((36:Int)<36)=B from rfl,H]) 36 0 ω) ω
 have h':Kj ((n,(x.R4,x.S4,x.T4,x.U4,x.V4,x.W4,x.X4,x.Y4,x.Z4,x.A5,x.I3,x.J3,x.K3,x.L3,x.M3,x.N3,x.O3,x.P3,x.R3,x.T3,x.U3,x.V3,x.X3,x.Y3,x.Z3,x.A4,x.B4,x.C4,x.D4,x.E4,x.F4,x.G4,x.H4,x.I4,x.J4,x.K4,()),(0:Int),()),())=_:=h;unfold FG LL;rw[ltD n 1,ltD 16 n];cases decide (1<=n)with
 |false=>rfl
 |true=>
  cases decide (n<=16)with
  |false=>rfl
  |true=>simp only[m_,H,l_,h'];cases DM (Anf n x) 36 0<;>rfl
def Ab0(a b:Duty):Bool:=decide (a.C0<b.C0)||(a.C0==b.C0&&decide (a.G0<b.G0))
def Acn(a b:Duty):∃n:Int,Ez a.C0 a.G0 a.I5 b.C0 b.G0 b.I5=C ((n,()),())/\decide (0<=n)=!Ab0 a b:=by
 unfold Ez;rw[LJ,LJ];simp only[J];rw[Ajh];refine⟨_,rfl,?_⟩;unfold Ab0 ZO;by_cases h1:a.C0<b.C0
 .rw[V h1];rfl
 .rw[W h1];by_cases h2:b.C0<a.C0
  .rw[V h2,Av (ω:¬a.C0=b.C0)];rfl
  .rw[W h2,show(a.C0==b.C0)=E by simp;omega];by_cases h3:a.G0<b.G0
   .rw[V h3];rfl
   .rw[W h3];cases decide (b.G0<a.G0)<;>rfl
def TH(n Z hi:Int):Cu n Z hi=C ((inR Z hi n,()),()):=by unfold Cu inR;cases decide (Z<=n)<;>rfl
def Bcc(x:aO)(i:Nat):Bool:=i==0||Ab0 (x.K0.getD (i-1) AS) (x.K0.getD i AS)
def Xz(b:Bldg)(car:Nat)(x:aO)(i:Nat):Bool:=Ak b (x.K0.getD i AS).C0 (x.K0.getD i AS).G0&&(inR 0 (Ri b car).T1 (x.K0.getD i AS).I5&&Bcc x i)
def LG(b:Bldg)(car:Nat)(x:aO):Bool:=inR (-1) (b.D0-1) x.C0&&(inR 0 3 x.G0&&(inR 0 3 x.K2&&(inR 0 1000000 x.M2&&(!(x.V2&&decide ((0:Int)<(x.K0.length:Int)))&&DM (Xz b car x) x.K0.length 0))))
def Acm(hb:b.small)(hcode:b.code=0){car:Nat}(hcar:car<b.B0.length)(x:aO)(hx:x.K0.length<=100000):BV b.D0 b.E0 b.J0 b.O0 b.L0 b.N0 b.P0 b.B0 (car:Int) x.C0 x.G0 x.K2 x.K0 x.M2 x.V2=C ((LG b car x,()),()):=by
 have Z:=hb.lo;have hi8:=hb.hi;have hcc:=Ai hcode;have h5:100000<=AB:=by decide
 have h:=Af (FZ (step:=λx=>letI a:=x.2.1.2.2;letI c:=x.2.2.1.2;letI d:=a.2.2;DE x.1.1 x.1.2.2.2.1 x.1.2.2.2.2.1 x.1.2.2.2.2.2.1 x.2.1.1 x.2.1.2.1 a.1 a.2.1 d.1 d.2.1 d.2.2.1 d.2.2.2.1 x.2.2.1.1 c.1 c.2.1 c.2.2.1 c.2.2.2.1 c.2.2.2.2.1) x.K0.length (λi=>(((car:Int),(),(),x.K0,(x.K0.length:Int),(i:Int),()),(b.tup,(x.C0,x.G0,x.K2,x.K0,x.M2,x.V2,()),()))) (Xz b car x) (aP ((),())) (aN ((B,()),())) (λi hi=>by
  show DE (car:Int) x.K0 (x.K0.length:Int) (i:Int) b.D0 b.E0 b.J0 b.O0 b.L0 b.N0 b.P0 b.B0 x.C0 x.G0 x.K2 x.K0 x.M2 x.V2=_;unfold DE;simp only[V (ω:(i:Int)<(x.K0.length:Int)),Aa (ω:(0:Int)<=(i:Int)) (ω:(i:Int)<(x.K0.length:Int)),Aa (ω:(0:Int)<=(car:Int)) (ω:(car:Int)<(b.B0.length:Int)),O,i_,Rh hb,TH,J];rw[show Duty.mk 0 0 0=AS from rfl,show Car.mk 0 0 0 0 0 0 0 0 0=⟨0,0,0,0,0,0,0,0,0⟩from rfl];rw[show b.B0.getD car ⟨0,0,0,0,0,0,0,0,0⟩=Ri b car from rfl];unfold Xz Bcc;cases Ak b (x.K0.getD i AS).C0 (x.K0.getD i AS).G0 with
  |false=>rfl
  |true=>
  cases inR 0 (Ri b car).T1 (x.K0.getD i AS).I5 with
  |false=>rfl
  |true=>
   simp only[m_,H,l_];by_cases i0:i=0
   .subst i0;simp only[show decide ((0:Int)<((0:Nat):Int))=B from rfl,H,J,CU hi (ω:x.K0.length<=AB)];rfl
   .rw[V (ω:(0:Int)<(i:Int)),show(i==0)=B by simpa using i0];simp only[O,c6_,Ad (n:=(i:Int)-1) ω ω,Aa (ω:(0:Int)<=(i:Int)-1) (ω:(i:Int)-1<(x.K0.length:Int))];obtain⟨n,e1,e2⟩:=Acn (x.K0.getD (i-1) AS) (x.K0.getD i AS);rw[show aE ((i:Int)-1)=i-1 by omega];rw[e1];simp only[J,e2,CU hi (ω:x.K0.length<=AB)];cases Ab0 (x.K0.getD (i-1) AS) (x.K0.getD i AS)<;>rfl) (by
  show DE (car:Int) x.K0 (x.K0.length:Int) (x.K0.length:Int) b.D0 b.E0 b.J0 b.O0 b.L0 b.N0 b.P0 b.B0 x.C0 x.G0 x.K2 x.K0 x.M2 x.V2=_;unfold DE;simp only[W (I_ (x.K0.length:Int)),H]) x.K0.length 0 ω) ω
 have h':KW (((car:Int),(),(),x.K0,(x.K0.length:Int),(0:Int),()),(b.tup,(x.C0,x.G0,x.K2,x.K0,x.M2,x.V2,()),()))=_:=h;simp only[Bldg.tup]at h';unfold BV LG;rw[Gz,hcode];simp only[TH,J,L_,H,Ad (n:=(b.B0.length:Int)-1) ω ω,Ad (n:=b.D0-1) ω ω,show inR 0 ((b.B0.length:Int)-1) (car:Int)=E from Al.2 ⟨ω,ω⟩,m_];cases inR (-1) (b.D0-1) x.C0 with
 |false=>rfl
 |true=>
 cases inR 0 3 x.G0 with
 |false=>rfl
 |true=>
 cases inR 0 3 x.K2 with
 |false=>rfl
 |true=>
 cases inR 0 1000000 x.M2 with
 |false=>rfl
 |true=>
  simp only[m_,H,l_];cases hL:x.V2 with
  |false=>rw[hL]at h';simp only[H,J,S_,a7_,l_,h'];cases DM (Xz b car x) x.K0.length 0<;>rfl
  |true=>
   rw[hL]at h';cases hD:decide ((0:Int)<(x.K0.length:Int))with
   |true=>simp only[O,J];rfl
   |false=>simp only[O,H,J,a9_,a7_,l_,h'];cases DM (Xz b car x) x.K0.length 0<;>rfl
def LW(x:aH):Bool:=inR 0 2 x.R1&&inR 0 7 x.H1
def QB(x:aH):Bool:=(x.C1==0)&&((x.V1==0)&&((x.O1==0)&&((x.Z1==B)&&((x.P1==0)&&E))))
def JP(x:aH):Bool:=bif x.C1==0 then QB x else inR 0 3 x.C1&&(inR 0 1000000 x.V1&&(inR 0 1000000 x.O1&&inR 0 1000000 x.P1))
def Aok(x:aH):Bool:=(x.V0==0)&&((x.Z0==0)&&((x.S0==0)&&E))
def SS(fl:Int)(x:aH):Bool:=inR 0 1000000 x.Z0&&(bif x.V0==0 then x.S0==0 else bif x.V0==1 then inR 0 (fl-1) x.S0&&inR 0 (fl-1) (x.S0+1)else bif x.V0==2 then inR 0 (fl-1) x.S0&&inR 0 (fl-1) (x.S0-1)else B)
def Ah8(x:aH):Bool:=(x.R1==0)&&((x.H1==0)&&((x.C1==0)&&((x.V1==0)&&((x.O1==0)&&((x.Z1==B)&&((x.P1==0)&&((x.V0==0)&&((x.Z0==0)&&((x.S0==0)&&((x.I1==0)&&((x.R2==0)&&((x.L4==0)&&((x.F3==E)&&E)))))))))))))
def Aa3(fl:Int)(x:aH):Bool:=(aW x.I1 ((2:Int)^(aE fl))==0)&&(inR 0 2 x.R2&&inR 0 1000000 x.L4)
def WW(fl:Int)(x:aH):Bool:=LW x&&(JP x&&(SS fl x&&((QB x||Aok x)&&Aa3 fl x)))
def Fx(b:Bldg)(x:aH):Bool:=bif x.F3 then Ah8 x else WW b.D0 x
def NF(x:aH):DP x.R1 x.H1=C ((LW x,()),()):=by unfold DP LW inR;cases decide (0<=x.R1)<;>cases decide (x.R1<=2)<;>cases decide (0<=x.H1)<;>rfl
def Afw(n:Int):Gf n=C ((inR 0 1000000 n,()),()):=by unfold Gf inR;cases decide (0<=n)<;>rfl
def UZ(x:aH):Ge x.C1 x.V1 x.O1 x.Z1 x.P1=C ((JP x,()),()):=by
 unfold Ge JP QB;simp only[Afw,J];cases x.C1==0 with
 |true=>rfl
 |false=>unfold inR;cases decide (0<=x.C1)<;>cases decide (x.C1<=3)<;>cases(aD (0<=x.V1)&&decide (x.V1<=1000000))<;>cases(aD (0<=x.O1)&&decide (x.O1<=1000000))<;>rfl
def Se{fl:Int}(h:2<=fl/\fl<=8)(x:aH):Gr fl x.V0 x.Z0 x.S0=C ((SS fl x,()),()):=by
 unfold Gr SS;rw[W (ω:¬fl<2),W (ω:¬32<fl)];simp only[H];by_cases t:0<=x.Z0/\x.Z0<=1000000
 .rw[W (ω:¬x.Z0<0),W (ω:¬1000000<x.Z0),show inR 0 1000000 x.Z0=E from Al.2 t];simp only[H,l_];by_cases f:0<=x.S0/\x.S0<fl
  .rw[W (ω:¬x.S0<0),W (ω:¬fl<=x.S0),show inR 0 (fl-1) x.S0=E from Al.2 ⟨f.1,ω⟩];simp only[H,l_];by_cases c0:x.V0=0
   .rw[c0];rfl
   .rw[Av c0];simp only[H];unfold Hg;by_cases c1:x.V0=1
    .rw[c1];simp only[L_,H,J,show inB 1 3=E from rfl,O,s_];rw[show List.getD [(0:Int),1,-1] (aE 1) 0=1 from rfl,Ad ω ω];unfold inR;by_cases z:x.S0+1<fl
     .rw[V z,V (ω:0<=x.S0+1),V (ω:x.S0+1<=fl-1)];rfl
     .rw[W z,V (ω:0<=x.S0+1),W (ω:¬x.S0+1<=fl-1)];rfl
    .rw[FP c1,Av c1];simp only[O,H];by_cases c2:x.V0=2
     .rw[c2];simp only[L_,H,J,show inB 2 3=E from rfl,O,s_];rw[show List.getD [(0:Int),1,-1] (aE 2) 0=-1 from rfl,Ad ω ω,show x.S0+ -1=x.S0-1 by omega];unfold inR;by_cases z:0<=x.S0-1
      .rw[V z,V (ω:x.S0-1<fl),V (ω:x.S0-1<=fl-1)];rfl
      .rw[W z];rfl
     .rw[FP c2,Av c2];rfl
  .have hf:inR 0 (fl-1) x.S0=B:=by
    cases hq:inR 0 (fl-1) x.S0 with
    |false=>rfl
    |true=>have:=Al.1 hq;omega
   rw[hf];have hz:(x.S0==0)=B:=Av ω;rw[hz];simp only[S_];have e:(bif x.V0==0 then B else bif x.V0==1 then B else bif x.V0==2 then B else B)=B:=by cases x.V0==0<;>cases x.V0==1<;>cases x.V0==2<;>rfl
   rw[e];by_cases z:x.S0<0
   .rw[V z];rfl
   .rw[W z,V (ω:fl<=x.S0)];rfl
 .have hf:inR 0 1000000 x.Z0=B:=by
   cases hq:inR 0 1000000 x.Z0 with
   |false=>rfl
   |true=>exact absurd (Al.1 hq) t
  rw[hf];simp only[S_];by_cases z:x.Z0<0
  .rw[V z];rfl
  .rw[W z,V (ω:1000000<x.Z0)];rfl
def Sf(hb:b.small)(hcode:b.code=0)(x:aH):Dy b.D0 b.E0 b.J0 b.O0 b.L0 b.N0 b.P0 b.B0 x.R1 x.H1 x.C1 x.V1 x.O1 x.Z1 x.P1 x.V0 x.Z0 x.S0 x.I1 x.R2 x.L4 x.F3=C ((Fx b x,()),()):=by
 have Z:=hb.lo;have hi8:=hb.hi;have hmin:Min.min (aE b.D0) (IntKind.bits aF)=aE b.D0:=c8_ (by show _<=32;omega);unfold Dy Fx;rw[Gz,hcode];simp only[J,L_,H];have main:WW b.D0 x=WW b.D0 x:=rfl;cases hF:x.F3 with
 |true=>
  have hZ:Ah8 x=((x.R1==0)&&((x.H1==0)&&((x.C1==0)&&((x.V1==0)&&((x.O1==0)&&((x.Z1==B)&&((x.P1==0)&&((x.V0==0)&&((x.Z0==0)&&((x.S0==0)&&((x.I1==0)&&((x.R2==0)&&((x.L4==0)&&((E==E)&&E)))))))))))))):=by unfold Ah8;rw[hF]
  rw[O,<-hZ];cases hq:Ah8 x with
  |false=>rfl
  |true=>
   have hq':=hq;unfold Ah8 at hq';simp only[e_,a3_]at hq';obtain⟨e1,e2,e3,e4,e5,e6,e7,e8,e9,e10,e11,e12,e13,_⟩:=hq';simp only[m_,J,H,O,NF,UZ,Se ⟨Z,hi8⟩];have s1:LW x=E:=by unfold LW;rw[e1,e2];rfl
   have s2:JP x=E:=by unfold JP QB;rw[e3,e4,e5,e6,e7];rfl
   have s3:SS b.D0 x=E:=by unfold SS;rw[e8,e9,e10];rfl
   rw[s1,s2,s3,e3,e4,e5,e6,e7,e11,e12,e13];simp only[s_,c4_,m_,H,J];rw[V (ω:0<=b.D0),hmin];simp only[O];rw[show aW 0 ((2:Int)^aE b.D0)=0 from Int.zero_fdiv _];rfl
 |false=>
  simp only[J,H,NF,UZ,Se ⟨Z,hi8⟩];unfold WW;cases LW x with
  |false=>rfl
  |true=>
  cases JP x with
  |false=>rfl
  |true=>
  cases SS b.D0 x with
  |false=>rfl
  |true=>
   simp only[m_,H,l_];rw[show((x.C1==0)&&((x.V1==0)&&((x.O1==0)&&((x.Z1==B)&&((x.P1==0)&&E)))))=QB x from rfl,show((x.V0==0)&&((x.Z0==0)&&((x.S0==0)&&E)))=Aok x from rfl];have fin:(bif decide (0<=b.D0)then bif(aW x.I1 ((2:Int)^(aE b.D0))==0)then bif decide (0<=x.R2)then bif decide (x.R2<=2)then bif decide (0<=x.L4)then C ((aD (x.L4<=1000000),()),())else C ((B,()),())else C ((B,()),())else C ((B,()),())else C ((B,()),())else none)=C ((Aa3 b.D0 x,()),()):=by rw[V (ω:0<=b.D0)];unfold Aa3 inR;cases aW x.I1 ((2:Int)^(aE b.D0))==0<;>cases decide (0<=x.R2)<;>cases decide (x.R2<=2)<;>cases decide (0<=x.L4)<;>rfl
   cases QB x with
   |true=>simp only[m_,H,J,Bool.true_or,l_];rw[hmin,fin];rfl
   |false=>
    cases Aok x with
    |true=>simp only[m_,a7_,O,H,J,c6_,l_];rw[hmin,fin];rfl
    |false=>rfl
def FS{α:Type}(p:Nat->α->Bool)(d:α)(l:List α)(n:Int):Bool:=((l.length:Int)==n)&&DM (λi=>p i (l.getD i d)) l.length 0
def Mz(x:Loaded):Bool:=inR 0 4 x.F5
def Aco(hb:b.small)(hcode:b.code=0){l:List aV}(_hl:l.length<=100000):AG l (b.B0.length:Int) b.D0 b.E0 b.J0 b.O0 b.L0 b.N0 b.P0 b.B0=C ((FS (λ_ x=>LL b.E0 x) BC l (b.B0.length:Int),()),(b.tup,())):=by
 have h5:100000<=AB:=by decide
 have Z:=hb.lo;have hcc:=Ai hcode;unfold AG FS;by_cases hn:l.length=b.B0.length
 .have h:=Af (FZ (step:=λx=>letI a:=x.2.1.2.2;letI c:=a.2.2;An x.1.2.1 x.1.2.2.1 x.1.2.2.2.1 x.2.1.1 x.2.1.2.1 a.1 a.2.1 c.1 c.2.1 c.2.2.1 c.2.2.2.1) l.length (λi=>(((),l,(l.length:Int),(i:Int),()),(b.tup,()))) (λi=>(λ_ x=>LL b.E0 x) i (l.getD i BC)) (aP ((),(b.tup,()))) (aN ((B,()),(b.tup,()))) (λi hi=>by
   show An l (l.length:Int) (i:Int) b.D0 b.E0 b.J0 b.O0 b.L0 b.N0 b.P0 b.B0=_;unfold An EC;simp only[V (ω:(i:Int)<(l.length:Int)),Aa (ω:(0:Int)<=(i:Int)) (ω:(i:Int)<(l.length:Int)),O,i_,CU hi (ω:l.length<=AB)];rw[show bC 0 B B B B 0 0 0 0 0 0 0 0 0 0 0 0 0 0 0 0 0 0 0 0 0 0 0 0 0 0 0 0 0 0 0 0 0 0 0 0=BC from rfl];rw[ZP b.E0 (l.getD i BC)];simp only[J];generalize LL b.E0 (l.getD i BC)=q;cases q<;>rfl) (by
   show An l (l.length:Int) (l.length:Int) b.D0 b.E0 b.J0 b.O0 b.L0 b.N0 b.P0 b.B0=_;unfold An;simp only[W (I_ (l.length:Int)),H];rfl) l.length 0 ω) ω
  have h':AV (((),l,(l.length:Int),(0:Int),()),(b.tup,()))=_:=h;simp only[Bldg.tup]at h';rw[show((l.length:Int) !=(b.B0.length:Int))=B by rw[hn,L_],show((l.length:Int)==(b.B0.length:Int))=E by rw[hn];exact s_ _];simp only[H,l_,h'];generalize DM (λi=>(λ_ x=>LL b.E0 x) i (l.getD i BC)) l.length 0=q;cases q<;>rfl
 .rw[show((l.length:Int) !=(b.B0.length:Int))=E from FP ω,Av (ω:¬(l.length:Int)=(b.B0.length:Int))];rfl
def Aid(hb:b.small)(hcode:b.code=0){l:List aO}(_hl:l.length<=100000)(hd:∀x∈l,x.K0.length<=100000):AI l (b.B0.length:Int) b.D0 b.E0 b.J0 b.O0 b.L0 b.N0 b.P0 b.B0=C ((FS (λi x=>LG b i x) (aL 0 0 0 [] 0 B) l (b.B0.length:Int),()),(b.tup,())):=by
 have h5:100000<=AB:=by decide
 have Z:=hb.lo;have hcc:=Ai hcode;unfold AI FS;by_cases hn:l.length=b.B0.length
 .have h:=Af (FZ (step:=λx=>letI a:=x.2.1.2.2;letI c:=a.2.2;Ao x.1.2.1 x.1.2.2.1 x.1.2.2.2.1 x.2.1.1 x.2.1.2.1 a.1 a.2.1 c.1 c.2.1 c.2.2.1 c.2.2.2.1) l.length (λi=>(((),l,(l.length:Int),(i:Int),()),(b.tup,()))) (λi=>(λi x=>LG b i x) i (l.getD i (aL 0 0 0 [] 0 B))) (aP ((),(b.tup,()))) (aN ((B,()),(b.tup,()))) (λi hi=>by
   show Ao l (l.length:Int) (i:Int) b.D0 b.E0 b.J0 b.O0 b.L0 b.N0 b.P0 b.B0=_;unfold Ao ED;simp only[V (ω:(i:Int)<(l.length:Int)),Aa (ω:(0:Int)<=(i:Int)) (ω:(i:Int)<(l.length:Int)),O,i_,CU hi (ω:l.length<=AB)];have hm:=AT (aL 0 0 0 [] 0 B) hi;rw[Acm hb hcode (ω:i<b.B0.length) (l.getD i (aL 0 0 0 [] 0 B)) (hd _ hm)];simp only[J];generalize LG b i (l.getD i (aL 0 0 0 [] 0 B))=q;cases q<;>rfl) (by
   show Ao l (l.length:Int) (l.length:Int) b.D0 b.E0 b.J0 b.O0 b.L0 b.N0 b.P0 b.B0=_;unfold Ao;simp only[W (I_ (l.length:Int)),H];rfl) l.length 0 ω) ω
  have h':Bh (((),l,(l.length:Int),(0:Int),()),(b.tup,()))=_:=h;simp only[Bldg.tup]at h';rw[show((l.length:Int) !=(b.B0.length:Int))=B by rw[hn,L_],show((l.length:Int)==(b.B0.length:Int))=E by rw[hn];exact s_ _];simp only[H,l_,h'];generalize DM (λi=>(λi x=>LG b i x) i (l.getD i (aL 0 0 0 [] 0 B))) l.length 0=q;cases q<;>rfl
 .rw[show((l.length:Int) !=(b.B0.length:Int))=E from FP ω,Av (ω:¬(l.length:Int)=(b.B0.length:Int))];rfl
def Aif(hb:b.small)(hcode:b.code=0){l:List aH}(_hl:l.length<=100000):AJ l (b.B0.length:Int) b.D0 b.E0 b.J0 b.O0 b.L0 b.N0 b.P0 b.B0=C ((FS (λ_ x=>Fx b x) AK l (b.B0.length:Int),()),(b.tup,())):=by
 have h5:100000<=AB:=by decide
 have Z:=hb.lo;have hcc:=Ai hcode;unfold AJ FS;by_cases hn:l.length=b.B0.length
 .have h:=Af (FZ (step:=λx=>letI a:=x.2.1.2.2;letI c:=a.2.2;Ap x.1.2.1 x.1.2.2.1 x.1.2.2.2.1 x.2.1.1 x.2.1.2.1 a.1 a.2.1 c.1 c.2.1 c.2.2.1 c.2.2.2.1) l.length (λi=>(((),l,(l.length:Int),(i:Int),()),(b.tup,()))) (λi=>(λ_ x=>Fx b x) i (l.getD i AK)) (aP ((),(b.tup,()))) (aN ((B,()),(b.tup,()))) (λi hi=>by
   show Ap l (l.length:Int) (i:Int) b.D0 b.E0 b.J0 b.O0 b.L0 b.N0 b.P0 b.B0=_;unfold Ap EE;simp only[V (ω:(i:Int)<(l.length:Int)),Aa (ω:(0:Int)<=(i:Int)) (ω:(i:Int)<(l.length:Int)),O,i_,CU hi (ω:l.length<=AB)];rw[show NewCar.mk 0 0 0 0 0 B 0 0 0 0 0 0 0 B=AK from rfl];rw[Sf hb hcode (l.getD i AK)];simp only[J];generalize Fx b (l.getD i AK)=q;cases q<;>rfl) (by
   show Ap l (l.length:Int) (l.length:Int) b.D0 b.E0 b.J0 b.O0 b.L0 b.N0 b.P0 b.B0=_;unfold Ap;simp only[W (I_ (l.length:Int)),H];rfl) l.length 0 ω) ω
  have h':Bi (((),l,(l.length:Int),(0:Int),()),(b.tup,()))=_:=h;simp only[Bldg.tup]at h';rw[show((l.length:Int) !=(b.B0.length:Int))=B by rw[hn,L_],show((l.length:Int)==(b.B0.length:Int))=E by rw[hn];exact s_ _];simp only[H,l_,h'];generalize DM (λi=>(λ_ x=>Fx b x) i (l.getD i AK)) l.length 0=q;cases q<;>rfl
 .rw[show((l.length:Int) !=(b.B0.length:Int))=E from FP ω,Av (ω:¬(l.length:Int)=(b.B0.length:Int))];rfl
def Aie(hb:b.small)(hcode:b.code=0){l:List Loaded}(_hl:l.length<=100000):AX l (b.B0.length:Int)=C ((FS (λ_ x=>Mz x) BP l (b.B0.length:Int),()),()):=by
 have h5:100000<=AB:=by decide
 have Z:=hb.lo;have hcc:=Ai hcode;unfold AX FS;by_cases hn:l.length=b.B0.length
 .have h:=Af (FZ (step:=λx=>Ay x.1.2.1 x.1.2.2.1 x.1.2.2.2.1) l.length (λi=>(((),l,(l.length:Int),(i:Int),()),())) (λi=>(λ_ x=>Mz x) i (l.getD i BP)) (aP ((),())) (aN ((B,()),())) (λi hi=>by
   show Ay l (l.length:Int) (i:Int)=_;unfold Ay Ij;simp only[V (ω:(i:Int)<(l.length:Int)),Aa (ω:(0:Int)<=(i:Int)) (ω:(i:Int)<(l.length:Int)),O,i_,CU hi (ω:l.length<=AB)];rw[show Loaded.mk 0=BP from rfl];have hk:∀c:Int,(aJ (bif decide (0<=c)then C ((aD (c<=4),()),())else C ((B,()),())) λy1:(Bool×Unit)×Unit=>C ((y1.1.1,()),()))=C ((inR 0 4 c,()),()):=λc=>by unfold inR;cases decide (0<=c)<;>rfl
   rw[hk];simp only[J];show(bif !(Mz (l.getD i BP))then _ else _)=_;generalize Mz (l.getD i BP)=q;cases q<;>rfl) (by
   show Ay l (l.length:Int) (l.length:Int)=_;unfold Ay;simp only[W (I_ (l.length:Int)),H]) l.length 0 ω) ω
  have h':BM (((),l,(l.length:Int),(0:Int),()),())=_:=h
  skip
  rw[show((l.length:Int) !=(b.B0.length:Int))=B by rw[hn,L_],show((l.length:Int)==(b.B0.length:Int))=E by rw[hn];exact s_ _];simp only[H,l_,h'];generalize DM (λi=>(λ_ x=>Mz x) i (l.getD i BP)) l.length 0=q;cases q<;>rfl
 .rw[show((l.length:Int) !=(b.B0.length:Int))=E from FP ω,Av (ω:¬(l.length:Int)=(b.B0.length:Int))];rfl
def Ei(b:Bldg)(m:Mch):Bool:=KA b m.H0&&(aD (m.W0.ok b.J0)&&(((m.J1.length:Int)==(m.H0.A0.length:Int))&&(JO m.J1&&(JO [m.C3,m.J2,m.C2]&&(FS (λ_ x=>LL b.E0 x) BC m.E1 (b.B0.length:Int)&&(FS (λi x=>LG b i x) (aL 0 0 0 [] 0 B) m.R0 (b.B0.length:Int)&&(FS (λ_ x=>Fx b x) AK m.B0 (b.B0.length:Int)&&(FS (λ_ x=>Mz x) BP m.Y1 (b.B0.length:Int)&&((m.D3.length:Int)==(b.B0.length:Int))))))))))
def Yd(hb:b.small)(hcode:b.code=0){m:Mch}(hm:m.fit):Et b.D0 b.E0 b.J0 b.O0 b.L0 b.N0 b.P0 b.B0 m.H0.F0 m.H0.M0 m.H0.I0 m.H0.A0 m.W0.h0 m.W0.h1 m.W0.sel m.E1 m.R0 m.B0 m.Y1 m.J1 m.D3 m.C3 m.J2 m.C2=C ((Ei b m,()),()):=by
 have hcc:=Ai hcode;have hex:=hm.ex;unfold Et Ei;rw[Aha hb m.H0 ω hm.im,Zl,Sg (xs:=m.J1) ω,Sg (xs:=[m.C3,m.J2,m.C2]) (by show 3<=1000000;omega)];simp only[J];rw[show decide (Sto.ok b.J0 ⟨m.W0.h0,m.W0.h1,m.W0.sel⟩)=decide (m.W0.ok b.J0)from rfl];cases KA b m.H0 with
 |false=>rfl
 |true=>
 cases decide (m.W0.ok b.J0)with
 |false=>rfl
 |true=>
 simp only[bne];cases((m.J1.length:Int)==(m.H0.A0.length:Int))with
 |false=>rfl
 |true=>
 cases JO m.J1 with
 |false=>rfl
 |true=>
 cases JO [m.C3,m.J2,m.C2]with
 |false=>rfl
 |true=>
 simp only[m_,H,l_];rw[Aco hb hcode hm.co];simp only[J,Bldg.tup];rw[Aid hb hcode hm.be hm.du];simp only[J,Bldg.tup];rw[Aif hb hcode hm.ca];simp only[J,Bldg.tup];rw[Aie hb hcode hm.lo];simp only[J];generalize FS (λ_ x=>LL b.E0 x) BC m.E1 (b.B0.length:Int)=q1;generalize FS (λi x=>LG b i x) (aL 0 0 0 [] 0 B) m.R0 (b.B0.length:Int)=q2;generalize FS (λ_ x=>Fx b x) AK m.B0 (b.B0.length:Int)=q3;generalize FS (λ_ x=>Mz x) BP m.Y1 (b.B0.length:Int)=q4;cases q1<;>cases q2<;>cases q3<;>cases q4<;>rfl
end Go.Ovl
namespace Go.Ovl
open Go Go.Ab
variable{b:Bldg}{half bud room:Int}{s:Sto}{d:ByteArray}{m:Img}{car:Nat}
def Jg(room:Int)(h0 h1:ByteArray)(sel:Int):FA room h0 h1 sel=C ((aD (Sto.ok room ⟨h0,h1,sel⟩),()),()):=by
 unfold FA Sto.ok;by_cases a:1<=room
 .by_cases b:room<=65536
  .by_cases c:(h0.size:Int)<=room
   .by_cases d:(h1.size:Int)<=room
    .by_cases e:sel=0
     .simp[a,b,c,d,e]
     .by_cases f:sel=1<;>simp[a,b,c,d,e,f,Av]
    .simp[a,b,c,d]
   .simp[a,b,c]
  .simp[a,b]
 .simp[a]
def PF(room:Int)(h0 h1:ByteArray)(sel half bud:Int):JW room h0 h1 sel half bud=C ((Sto.chk room ⟨h0,h1,sel⟩ half bud,()),()):=by
 unfold JW Sto.chk;rw[Jg];by_cases a:Sto.ok room ⟨h0,h1,sel⟩
 .by_cases b:half=0
  .by_cases c:bud<0<;>simp[a,b,c]
  .by_cases d:half=1
   .by_cases c:bud<0<;>simp[a,c,d]
   .simp[a,b,d,FP]
 .simp[a]
def Azs(room:Int)(h0 h1:ByteArray)(sel half bud:Int)(hb:bud<9223372036854775808):Ql room h0 h1 sel half bud=C (Sto.out (Sto.erase room ⟨h0,h1,sel⟩ half bud)):=by
 unfold Ql Sto.erase Sto.act;rw[PF];generalize hc:Sto.chk room ⟨h0,h1,sel⟩ half bud=c;by_cases h:c=0
 .subst h;obtain⟨_,hh,hb0⟩:=Ad7 hc;by_cases h2:bud=0
  .simp[h2,Sto.out]
  .have hin:inB half 2=E:=Aa ω ω;rw[Ad (n:=bud-1) ω ω];have e:(bud==0)=B:=by simpa using h2
   rcases hh with rfl|rfl<;>simp[hin,e,h2,Sto.out,Sto.set,noB]<;>rfl
 .simp[h,Sto.out,Sto.no,noB,FP]
def Avb(room:Int)(h0 h1:ByteArray)(sel half bud:Int)(hb:bud<9223372036854775808):Oe room h0 h1 sel half bud=C (Sto.out (Sto.choose room ⟨h0,h1,sel⟩ half bud)):=by
 unfold Oe Sto.choose Sto.act;rw[PF];generalize hc:Sto.chk room ⟨h0,h1,sel⟩ half bud=c;by_cases h:c=0
 .subst h;obtain⟨_,hh,hb0⟩:=Ad7 hc;by_cases h2:bud=0
  .simp[h2,Sto.out]
  .rw[Ad (n:=bud-1) ω ω];have e:(bud==0)=B:=by simpa using h2
   simp[e,h2,Sto.out]
 .simp[h,Sto.out,Sto.no,noB,FP]
def Tq(h0 h1:ByteArray)(sel:Int):JD h0 h1 sel=C ((Sto.cur ⟨h0,h1,sel⟩,()),()):=by unfold JD Sto.cur;by_cases h:sel=1<;>simp[h,Av]
def Arz(hh:half=0\/half=1)(x:ByteArray):(s.set half x).get half=x:=by rcases hh with rfl|rfl<;>rfl
def set_set(hh:half=0\/half=1)(x y:ByteArray):(s.set half x).set half y=s.set half y:=by rcases hh with rfl|rfl<;>rfl
def Aso(hh:half=0\/half=1):s.set half (s.get half)=s:=by rcases hh with rfl|rfl<;>rfl
def Ajt(hh:half=0\/half=1):List.getD [s.h0,s.h1] half.toNat (aM (aK []))=s.get half:=by rcases hh with rfl|rfl<;>rfl
def Azl(hh:half=0\/half=1)(x:ByteArray):((bif Nat.beq half.toNat 0 then x else s.h0),((bif Nat.beq half.toNat 1 then x else s.h1),(s.sel,())))=(s.set half x).tup:=by rcases hh with rfl|rfl<;>rfl
def Ak5{i:Int}{t:Sto}(h:(d.size:Int)<=i):
  Co half d bud i s.h0 s.h1 s.sel t.h0 t.h1 t.sel=C (.inr (.inl ((bud,((),((),()))),(s.tup,(t.tup,()))))):=by
 unfold Co;have e:decide (i<(d.size:Int))=B:=by simp;omega
 rw[e];rfl
def Aix{i:Int}{t:Sto}(h:i<(d.size:Int)):
  Co half d 0 i s.h0 s.h1 s.sel t.h0 t.h1 t.sel=C (.inr (.inr (((),(0,(8,()))),(s.tup,())))):=by
 unfold Co;have e:decide (i<(d.size:Int))=E:=by simpa using h
 rw[e];rfl
def Aoy(hh:half=0\/half=1){i:Nat}{t:Sto}(h:i<d.size)(hd:d.size<1000000)(hb:0<bud)(hb':bud<9223372036854775808)(hs:(s.get half).size<1000000):
  Co half d bud i s.h0 s.h1 s.sel t.h0 t.h1 t.sel=
   C (.inl ((half,(d,(bud-1,((),((),(((i+1:Nat):Int),())))))),((s.set half (s.get half++d.extract i (i+1))).tup,(t.tup,())))):=by
 unfold Co;have e:decide ((i:Int)<(d.size:Int))=E:=by simp;omega
 have e1:(bud==0)=B:=Av ω;have e2:inB half 2=E:=Aa ω ω;have w:aA.wrap ((i:Int)+1)=((i+1:Nat):Int):=by rw[Ad ω ω];omega
 have w2:aA.wrap (bud-1)=bud-1:=Ad ω ω;have e3:(aD ((0:Int)<=((i+1:Nat):Int))&&decide (((i+1:Nat):Int)<=(d.size:Int)))=E:=by simp;omega
 have e4:(aD ((0:Int)<=(i:Int))&&decide ((i:Int)<=((aE ((i+1:Nat):Int):Nat):Int)))=E:=by simp;omega
 have e5:aE ((i+1:Nat):Int)=i+1:=ω;have e6:aE (i:Int)=i:=ω;simp only[e,e1,e2,w,w2,e3,e4,O,H,Ajt hh];simp only[e5,e6];have e7:aI ((s.get half).size+(d.extract i (i+1)).size) 4611686018427387904=E:=Ah (by simp;omega);rw[e7,O,Azl hh];rfl
def Aox{half:Int}(hh:half=0\/half=1){d:ByteArray}{t:Sto}(hd:d.size<=65536):∀(n i:Nat) (bud:Int) (s:Sto),d.size-i=n->i<=d.size->0<=bud->bud<9223372036854775808->(s.get half).size+(d.size-i)<=65536->
  Bx (λx=>Co x.1.1 x.1.2.1 x.1.2.2.1 x.1.2.2.2.2.2.1 x.2.1.1 x.2.1.2.1 x.2.1.2.2.1 x.2.2.1.1 x.2.2.1.2.1 x.2.2.1.2.2.1) (n+1)
    ((half,(d,(bud,((),((),((i:Int),())))))),(s.tup,(t.tup,())))=
   C (if bud<(d.size:Int)-i then .inr (((),(0,(8,()))),((s.set half (s.get half++d.extract i (i+bud.toNat))).tup,()))
    else .inl ((bud-((d.size:Int)-i),((),((),()))),((s.set half (s.get half++d.extract i d.size)).tup,(t.tup,()))))
 |0,i,bud,s,hn,hi,hb,hb',hs=>by
  have:i=d.size:=ω
  subst this;refine At (y:=_) ?_;rw[if_neg ω,Ajp,Afj,Aso hh];show Co half d bud (d.size:Int) s.h0 s.h1 s.sel t.h0 t.h1 t.sel=_;rw[Ak5 (a2_ _)];simp
 |n+1,i,bud,s,hn,hi,hb,hb',hs=>by
  by_cases h0:bud=0
  .subst h0;refine At (y:=_) ?_;rw[if_pos ω];show Co half d 0 (i:Int) s.h0 s.h1 s.sel t.h0 t.h1 t.sel=_;rw[Aix ω];simp only[Int.toNat_zero,b6_,Ajp,Afj,Aso hh]
  .rw[AM (show Co half d bud (i:Int) s.h0 s.h1 s.sel t.h0 t.h1 t.sel=_ from Aoy hh ω ω ω hb' ω),
    Aox hh hd n (i+1) (bud-1) _ ω ω ω ω (by rw[Arz hh];simp;omega)]
   rw[Arz hh,set_set hh,set_set hh,ByteArray.append_assoc,ByteArray.append_assoc];by_cases h1:bud<(d.size:Int)-i
   .rw[if_pos h1,if_pos ω,Anp d ω ω,show i+1+(bud-1).toNat=i+bud.toNat by omega]
   .rw[if_neg h1,if_neg ω,Anp d ω ω];congr 3
    have:bud-1-((d.size:Int)-((i+1:Nat):Int))=bud-((d.size:Int)-i):=ω
    rw[this]
def Wq(room:Int)(h0 h1:ByteArray)(sel half:Int)(d:ByteArray)(bud:Int)(hb:bud<9223372036854775808)(hd:d.size<1000000) :
  Mm room h0 h1 sel half d bud=C (Sto.out (Sto.write room ⟨h0,h1,sel⟩ half d bud)):=by
 unfold Mm Sto.write;rw[PF];generalize hc:Sto.chk room ⟨h0,h1,sel⟩ half bud=c;by_cases h:c=0
 .subst h;obtain⟨⟨o1,o2,o3,o4,o5⟩,hh,hb0⟩:=Ad7 hc;simp only at o3 o4;have hin:inB half 2=E:=Aa ω ω;have hg:List.getD [h0,h1] half.toNat (aM (aK []))=Sto.get ⟨h0,h1,sel⟩ half:=Ajt (s:=⟨h0,h1,sel⟩) hh;have hgs:((Sto.get ⟨h0,h1,sel⟩ half).size:Int)<=room:=by rcases hh with rfl|rfl<;>simpa[Sto.get]
  simp only[J,hin,O,hg];rw[Ad (n:=((Sto.get ⟨h0,h1,sel⟩ half).size:Int)+d.size) ω ω];by_cases h2:room<((Sto.get ⟨h0,h1,sel⟩ half).size:Int)+d.size
  .simp[h2,Sto.out,Sto.no,noB]
  .have hl:=Aox (t:=Sto.no) hh (d:=d) ω d.size 0 bud ⟨h0,h1,sel⟩ ω ω hb0 hb ω;have hl':MP ((half,(d,(bud,((),((),((0:Int),())))))),((Sto.tup ⟨h0,h1,sel⟩),(Sto.no.tup,())))=_:=Af hl ω;have e:decide (room<((Sto.get ⟨h0,h1,sel⟩ half).size:Int)+d.size)=B:=by simpa using h2
   have z:((0:Int) !=0)=B:=rfl;simp only[z,H,h2,if_false,ne_eq,not_true_eq_false];show(MP ((half,(d,(bud,((),((),((0:Int),())))))),((Sto.tup ⟨h0,h1,sel⟩),(Sto.no.tup,())))).bind _=_;rw[hl'];by_cases h3:bud<d.size
   .rw[if_pos ω,if_pos h3];simp[Sto.out,Sto.tup]
   .rw[if_neg ω,if_neg h3];simp[Sto.out,Sto.tup]
 .simp[h,Sto.out,Sto.no,noB,FP]
def Aau(hb:b.small)(hc:b.B0.length<=100){rs:List aB}(hl:rs.length<=100000):Mn b.D0 b.E0 b.J0 b.O0 b.L0 b.N0 b.P0 b.B0 rs=C ((txt (rs.flatMap λr=>bl (Nt b r)),()),()):=by
 have h:=AN (step:=λx=>letI a:=x.2.1.2.2;letI c:=a.2.2;GT x.1.1 x.1.2.2.1 x.1.2.2.2.1 x.2.1.1 x.2.1.2.1 a.1 a.2.1 c.1 c.2.1 c.2.2.1 c.2.2.2.1) rs.length (λi (l:List UInt8)=>((rs,(),txt l,(i:Int),()),(b.tup,()))) (λi l=>l++bl (Nt b (rs.getD i (aU 0 0 0 0 0)))) (λi l=>l.length<=6*i) (λl=>((txt l,()),())) (λi l hi hs=>by
  have he:=Ayg b (rs.getD i (aU 0 0 0 0 0));refine⟨?_,by rw[h_];omega⟩;show GT rs (txt l) (i:Int) b.D0 b.E0 b.J0 b.O0 b.L0 b.N0 b.P0 b.B0=_;unfold GT;simp only[V (ω:(i:Int)<(rs.length:Int)),Aa (ω:(0:Int)<=(i:Int)) (ω:(i:Int)<(rs.length:Int)),O,i_,Ak6 hb hc,J,CU hi (show rs.length<=AB by unfold AB;omega)];rw[Ah (show(txt l).size+(Nt b (rs.getD i (aU 0 0 0 0 0))).size<=4611686018427387904 by rw[Qd,<-ZL];omega)];rw[show txt l++Nt b (rs.getD i (aU 0 0 0 0 0))=txt (l++bl (Nt b (rs.getD i (aU 0 0 0 0 0))))by rw[<-Asq,Blh]];rfl) (λl _=>by
  show GT rs (txt l) (rs.length:Int) b.D0 b.E0 b.J0 b.O0 b.L0 b.N0 b.P0 b.B0=_;unfold GT;simp only[W (I_ (rs.length:Int)),H]) rs.length 0 [] ω σ
 have h':=Af h.1 ω;rw[IX (λi=>bl (Nt b (rs.getD i (aU 0 0 0 0 0)))),y_,Pr (λr=>bl (Nt b r)) (aU 0 0 0 0 0) rs 0 rs.length ω,O_]at h';unfold Mn;rw[show RD ((rs,(),aM (aK []),(0:Int),()),((b.D0,b.E0,b.J0,b.O0,b.L0,b.N0,b.P0,b.B0,()),()))=_ from h'];rfl
def Adc(hb:b.small)(m:Img)(hc:b.B0.length<=100000)(hp:m.F0.length<=100000)(hl:m.A0.length<=100000):
  Lv b.D0 b.E0 b.J0 b.O0 b.L0 b.N0 b.P0 b.B0 m.F0 m.M0 m.I0 m.A0=C ((Vq b m,()),()):=by
 have hmx:100000<=maxLen:=by decide
 unfold Lv Vq;rw[Cd hb m ω ω];simp only[J,Bn4 hc hl];cases m.ok b<;>rfl
def Aax(hcode:b.code=0)(s:Sto)(bud:Int):PG b.D0 b.E0 b.J0 b.O0 b.L0 b.N0 b.P0 b.B0 s.h0 s.h1 s.sel bud=C ((aD (s.ok b.J0)&&decide (0<=bud),()),()):=by unfold PG;rw[AO,hcode,Jg];simp only[J,s_,O];rw[show Sto.mk s.h0 s.h1 s.sel=s from rfl];cases decide (s.ok b.J0)<;>rfl
def Bf2{t:Sto}(h:(s.act room half bud t).2.2≠0):(s.act room half bud t).2.1=0:=by
 unfold Sto.act at*;split
 .rfl
 .split
  .rfl
  .rename_i h1 h2;rw[if_neg h1,if_neg h2]at h;exact absurd rfl h
def Baf(h:(s.write room half d bud).2.2≠0):(s.write room half d bud).2.1=0:=by
 unfold Sto.write at*;split
 .rfl
 .split
  .rfl
  .split
   .rfl
   .rename_i h1 h2 h3;rw[if_neg h1,if_neg h2,if_neg h3]at h;exact absurd rfl h
def Aoh(bud:Int):decide (bud<0)=!decide (0<=bud):=TP bud 0
def WO(hb:b.small)(hcode:b.code=0)(s:Sto)(hf:m.fit)(hl:m.A0.length<=5000)(hbud:bud<9223372036854775808):
  JE b.D0 b.E0 b.J0 b.O0 b.L0 b.N0 b.P0 b.B0 s.h0 s.h1 s.sel m.F0 m.M0 m.I0 m.A0 bud=C (Sto.out (DB b s m bud)):=by
 have hmx:100000<=maxLen:=by decide
 have hp:=hf.p;have he:=hf.e;have hcars:=Ai hcode;unfold JE DB;rw[Aax hcode,Cd hb m ω ω,Ag0 hb hf,Aoh];simp only[J];by_cases hs:s.ok b.J0
 .rw[V hs];by_cases hb0:0<=bud
  .rw[V hb0];cases hok:m.ok b with
   |false=>rfl
   |true=>
    have hm:=Img.ok_iff.1 hok;have hlp:=hm.lp;have hsn:Ama b m=GC m:=by unfold Ama;rw[hok];rfl
    have hsl:=Az2 m;have hby:=Aau hb ω (rs:=GC m) (by rw[hsl];omega);rw[Ant (Av3 hm)]at hby;have hsel:aA.wrap (1-s.sel)=1-s.sel:=by obtain⟨_,_,_,_,h5⟩:=hs;exact Ad ω ω
    simp only[V_,m_,H,hsn,hby,J,hsel,Azs _ _ _ _ _ _ hbud,Sto.out];have hb1:=Ah4 b.J0 s (1-s.sel) bud (s.set (1-s.sel) noB) hbud;have he1:(s.erase b.J0 (1-s.sel) bud).2.2≠0->(s.erase b.J0 (1-s.sel) bud).2.1=0:=Bf2;rw[show s.act b.J0 (1-s.sel) bud (s.set (1-s.sel) noB)=s.erase b.J0 (1-s.sel) bud from rfl]at hb1;rw[show Sto.mk s.h0 s.h1 s.sel=s from rfl];generalize s.erase b.J0 (1-s.sel) bud=r1 at hb1 he1|-;by_cases hq:r1.2.2=0
    .have hdl:(txt ((GC m).flatMap IA)).size<1000000:=by rw[Qd,Bgd,hsl];omega
     simp only[hq,L_,H,s_,O,Wq _ _ _ _ _ _ _ hb1 hdl,J,Sto.out];have hb2:=Abg b.J0 r1.1 (1-s.sel) (txt ((GC m).flatMap IA)) r1.2.1 hb1;have he2:(r1.1.write b.J0 (1-s.sel) (txt ((GC m).flatMap IA)) r1.2.1).2.2≠0->(r1.1.write b.J0 (1-s.sel) (txt ((GC m).flatMap IA)) r1.2.1).2.1=0:=Baf;rw[show Sto.mk r1.1.h0 r1.1.h1 r1.1.sel=r1.1 from rfl];generalize r1.1.write b.J0 (1-s.sel) (txt ((GC m).flatMap IA)) r1.2.1=r2 at hb2 he2|-;by_cases hq2:r2.2.2=0
     .simp only[hq2,L_,H,s_,O,Avb _ _ _ _ _ _ hb2,J,Sto.out]
     .rw[FP hq2,Av hq2,O,H,he2 hq2]
    .rw[FP hq,Av hq,O,H,he1 hq]
  .rw[W hb0];rfl
 .rw[W hs];rfl
def Aiz(hb:b.small)(hcode:b.code=0)(s:Sto)(hs:s.cur.size<=5000)(hbud:bud<9223372036854775808)(hR:Ih b.D0 b.E0 b.J0 b.O0 b.L0 b.N0 b.P0 b.B0 s.h0 s.h1 s.sel=C (((),()),((Ej b s).tup,()))):
  MG b.D0 b.E0 b.J0 b.O0 b.L0 b.N0 b.P0 b.B0 s.h0 s.h1 s.sel bud=C (Azz (Ce b s bud).1 (Ce b s bud).2.1 (Ce b s bud).2.2.1 (Ce b s bud).2.2.2):=by
 have hc:=Ai hcode;obtain⟨hok,hle,hf⟩:=Akh hcode s ω;have hle2:(Ej b s).A0.length<=900:=by have h2:=(UV (An2 hcode) (rs:=Ps b s.cur) λr hr=>Wb b _ _ r hr).2;have h3:=Aa1 b s.cur.size (bl s.cur);rw[ZL]at h3;have h4:(MY b).A0.length=0:=rfl;have h5:(Ps b s.cur).length=(QI b s.cur.size (bl s.cur)).length:=rfl;show(BT (MY b) (Ps b s.cur)).A0.length<=_;omega
 unfold MG;rw[Aax hcode,hR];simp only[J,Img.tup];rw[WO hb hcode s hf ω hbud];simp only[J,Sto.out];unfold Ce;cases hq:decide (s.ok b.J0)&&decide (0<=bud)with
 |false=>
  have e:DB b s (Ej b s) bud=(Sto.no,0,1):=by
   unfold DB;rw[Aoh];rw[bI]at hq;rcases hq with hq|hq
   .rw[hq];rfl
   .rw[hq];cases decide (s.ok b.J0)<;>rfl
  rw[e];rfl
 |true=>generalize DB b s (Ej b s) bud=w;cases w.2.2 !=0<;>rfl
def Ala(hcode:b.code=0):Ih b.D0 b.E0 b.J0 b.O0 b.L0 b.N0 b.P0 b.B0 Sto.no.h0 Sto.no.h1 Sto.no.sel=C (((),()),((Ej b Sto.no).tup,())):=by have hcars:=Ai hcode;unfold Ih;rw[Aiy hcode ω,Tq];simp only[J];have h:∀t,Tz ((noB,(),([]:List aB),(0:Int),()),t)=C (([],0,()),()):=λt=>Af (f:=1) (At rfl) τ;unfold Xd;rw[show Sto.cur ⟨Sto.no.h0,Sto.no.h1,Sto.no.sel⟩=noB from rfl,h];simp only[J];have h2:∀a c d,PO (((),(),(),([]:List aB),(0:Int),()),(a,c,d,()))=C (((),(),()),(c,d,())):=λa c d=>Af (f:=1) (At rfl) τ;rw[h2];rfl
def Ak7(hb:b.small)(hcode:b.code=0)(s:Sto)(hp:m.F0.length<=100000)(hl:m.A0.length<=900)(r:aB)(hbud:bud<9223372036854775808):
    Og b.D0 b.E0 b.J0 b.O0 b.L0 b.N0 b.P0 b.B0 s.h0 s.h1 s.sel m.F0 m.M0 m.I0 m.A0 r.B1 r.C0 r.G0 r.U0 r.H2 bud=C (Bjm (EN b s m r bud)):=by
  have hmx:100000<=maxLen:=by decide
  have hcars:=Ai hcode;unfold Og EN;rw[Aax hcode,Cd hb m ω ω,Uc hb ω r,Aoh];simp only[J];cases hq1:m.ok b with
  |false=>cases decide (s.ok b.J0)<;>cases decide (0<=bud)<;>rfl
  |true=>
  cases hq2:Ax b r with
  |false=>cases decide (s.ok b.J0)<;>cases decide (0<=bud)<;>rfl
  |true=>
  by_cases hs:s.ok b.J0
  · rw[V hs]
    by_cases hb0:0<=bud
    · rw[V hb0]
      have hm:=Img.ok_iff.1 hq1;obtain⟨hm2,hl2⟩:=Ld hm hq2;have h1:=hm.lp;have h2:=hm.lf;have h3:=hm.ll;have g1:=hm2.lp;have g2:=hm2.lf;have g3:=hm2.ll;have hf2:(By m r).fit:=⟨ω,ω,ω,ω⟩
      have hcur:(s.cur.size:Int)<=b.J0:=Blb hs;have hroom:=Ax9 hcode;have wr:aA.wrap ((s.cur.size:Int)+6)=(s.cur.size:Int)+6:=Ad ω ω;have hfind:=QF m ω r.C0 r.G0;have hpos:=NG (c:=Cy r.C0 r.G0) 0 hm.so;have hneg:decide (BL r.C0 r.G0 m.A0 0<0)=!(Kq (Cy r.C0 r.G0) m.A0):=by
        rw[show BL r.C0 r.G0 m.A0 0=_ from hpos];cases Kq (Cy r.C0 r.G0) m.A0 with
        |true=>rw[O];exact W ω
        |false=>rfl
      have e5 : (bif (r.B1 == (1 : Int)) then
              (Hk m.F0 m.M0 m.I0 m.A0 r.C0 r.G0).bind λy4=>
              bif(aD (y4.1.1<(0:Int)))then
                (Lv b.D0 b.E0 b.J0 b.O0 b.L0 b.N0 b.P0 b.B0 m.F0 m.M0 m.I0 m.A0).bind λy5=>
                C ((bud,(),(),(),(),(),(),(!y5.1.1),()),((b.D0,b.E0,b.J0,b.O0,b.L0,b.N0,b.P0,b.B0,()),(s.h0,s.h1,s.sel,()),(m.F0,m.M0,m.I0,m.A0,()),(r.B1,r.C0,r.G0,r.U0,r.H2,()),((aM (aK [])),(aM (aK [])),(0:Int),()),(([]:List Int),([]:List Bool),([]:List Bool),([]:List U),()),()))
              else
                C ((bud,(),(),(),(),(),(),B,()),((b.D0,b.E0,b.J0,b.O0,b.L0,b.N0,b.P0,b.B0,()),(s.h0,s.h1,s.sel,()),(m.F0,m.M0,m.I0,m.A0,()),(r.B1,r.C0,r.G0,r.U0,r.H2,()),((aM (aK [])),(aM (aK [])),(0:Int),()),(([]:List Int),([]:List Bool),([]:List Bool),([]:List U),()),()))
            else
              C ((bud,(),(),(),(),(),(),B,()),((b.D0,b.E0,b.J0,b.O0,b.L0,b.N0,b.P0,b.B0,()),(s.h0,s.h1,s.sel,()),(m.F0,m.M0,m.I0,m.A0,()),(r.B1,r.C0,r.G0,r.U0,r.H2,()),((aM (aK [])),(aM (aK [])),(0:Int),()),(([]:List Int),([]:List Bool),([]:List Bool),([]:List U),()),())))=
          C ((bud,(),(),(),(),(),(),Abv b m r,()),((b.D0,b.E0,b.J0,b.O0,b.L0,b.N0,b.P0,b.B0,()),(s.h0,s.h1,s.sel,()),(m.F0,m.M0,m.I0,m.A0,()),(r.B1,r.C0,r.G0,r.U0,r.H2,()),((aM (aK [])),(aM (aK [])),(0:Int),()),(([]:List Int),([]:List Bool),([]:List Bool),([]:List U),()),())):=by
        rw[hfind];simp only[J,hneg];rw[Adc hb m ω hp ω];unfold Abv;cases r.B1==1<;>cases Kq (Cy r.C0 r.G0) m.A0<;>rfl
      simp only[V_,m_,H];rw[e5];simp only[J];cases Abv b m r with
      |true=>rfl
      |false=>
        simp only[H];have hra:=Aat hb m ω r ω ω;rw[Ax0 hm hq2]at hra;rw[hra];simp only[J,Tq,Img.tup];rw[show Sto.cur ⟨s.h0,s.h1,s.sel⟩=s.cur from rfl,wr];have hby:=Aau hb ω (rs:=[aU r.B1 r.C0 r.G0 r.U0 r.H2]) (by rw[a8_];omega);rw[show(([aU r.B1 r.C0 r.G0 r.U0 r.H2]).flatMap λx=>bl (Nt b x))=IA r by rw[a1_,List.flatMap_nil,b3_,show aU r.B1 r.C0 r.G0 r.U0 r.H2=r from rfl,Afy hq2,Mv]]at hby;rw[hby];simp only[J];rw[Wq b.J0 s.h0 s.h1 s.sel s.sel (txt (IA r)) bud hbud (by rw[Qd,Aeb];omega),WO hb hcode s hf2 ω hbud];simp only[J,Sto.out];rw[show Sto.mk s.h0 s.h1 s.sel=s from rfl,show decide ((s.cur.size:Int)+6<=b.J0)=decide ((6:Int)<=b.J0-(s.cur.size:Int))from decide_eq_decide.2 ω];have e10:∀{A:Type}(f:Sto×Int×Int->A),(bif decide ((6:Int)<=b.J0-(s.cur.size:Int))then C (f (s.write b.J0 s.sel (txt (IA r)) bud))else C (f (DB b s (By m r) bud)))=C (f (Nx b s m r bud)):=λf=>by unfold Nx;cases decide ((6:Int)<=b.J0-(s.cur.size:Int))<;>rfl
        have e10':=e10 λw=>((w.2.1,(),(),(),(),(),w.2.2,()),((w.1.h0,w.1.h1,w.1.sel,()),(m.F0,m.M0,m.I0,m.A0,()),((aM (aK [])),(aM (aK [])),(0:Int),()),(([]:List Int),([]:List Bool),([]:List Bool),([]:List U),()),(By m r).tup,()))
        simp only[Img.tup]at e10';rw[e10'];simp only[J];generalize Nx b s m r bud=w;by_cases hw:w.2.2=0
        · rw[hw];rfl
        · rw[Av hw]
          simp only[H];cases w.2.2==8<;>rfl
    · rw[W hb0];rfl
  · rw[W hs];cases decide (0<=bud)<;>rfl
def Adg(hb:b.small)(m:Img)(hc:b.B0.length<=100000)(hf:m.fit):Oz b.D0 b.E0 b.J0 b.O0 b.L0 b.N0 b.P0 b.B0 m.F0 m.M0 m.I0 m.A0=C ((KA b m,()),()):=by
 have hmx:100000<=maxLen:=by decide
 have hp:=hf.p;have he:=hf.e;unfold Oz KA;rw[Cd hb m ω ω];simp only[J,Bj5 hc he];cases m.ok b<;>rfl
def Amg(b:Bldg)(hc:b.B0.length<=1000)(m:Img)(z o:Mch)(ho:o.R0=[]):MS (((),(),(),(b.B0.length:Int),(),(0:Int),()),(b.tup,m.tup,z.tup,o.tup,()))=C (((),(),(),(),()),(b.tup,m.tup,z.tup,(o.withB (aG b.B0.length Ro)).tup,())):=by
 have h:=AN (step:=λx=>letI d:=x.2.2.2;letI j:=d.2.1.2;letI a:=j.2.2.2.2;letI k:=d.1.2;letI c:=k.2.2.2.2;letI e:=c.2.2.2.2;letI f:=a.2.2.2.2;letI g:=x.2.1.2.2;letI n:=e.2.2;letI q:=f.2.2;letI r:=g.2.2;letI s:=x.2.2.1;GZ x.1.2.2.2.1 x.1.2.2.2.2.2.1 x.2.1.1 x.2.1.2.1 g.1 g.2.1 r.1 r.2.1 r.2.2.1 r.2.2.2.1 s.1 s.2.1 s.2.2.1 s.2.2.2.1 d.1.1 k.1 k.2.1 k.2.2.1 k.2.2.2.1 c.1 c.2.1 c.2.2.1 c.2.2.2.1 e.1 e.2.1 n.1 n.2.1 n.2.2.1 n.2.2.2.1 n.2.2.2.2.1 d.2.1.1 j.1 j.2.1 j.2.2.1 j.2.2.2.1 a.1 a.2.1 a.2.2.1 a.2.2.2.1 f.1 f.2.1 q.1 q.2.1 q.2.2.1 q.2.2.2.1 q.2.2.2.2.1) b.B0.length (λi (l:List aO)=>(((),(),(),(b.B0.length:Int),(),(i:Int),()),(b.tup,m.tup,z.tup,(o.withB l).tup,()))) (λ_ l=>l++[Ro]) (λi l=>l.length<=i) (λl=>(((),(),(),(),()),(b.tup,m.tup,z.tup,(o.withB l).tup,()))) (λi l hi hl=>by
  refine⟨?_,by rw[h_,a8_];omega⟩;show GZ (b.B0.length:Int) (i:Int) b.D0 b.E0 b.J0 b.O0 b.L0 b.N0 b.P0 b.B0 m.F0 m.M0 m.I0 m.A0 z.H0.F0 z.H0.M0 z.H0.I0 z.H0.A0 z.W0.h0 z.W0.h1 z.W0.sel z.E1 z.R0 z.B0 z.Y1 z.J1 z.D3 z.C3 z.J2 z.C2 (o.withB l).H0.F0 (o.withB l).H0.M0 (o.withB l).H0.I0 (o.withB l).H0.A0 (o.withB l).W0.h0 (o.withB l).W0.h1 (o.withB l).W0.sel (o.withB l).E1 (o.withB l).R0 (o.withB l).B0 (o.withB l).Y1 (o.withB l).J1 (o.withB l).D3 (o.withB l).C3 (o.withB l).J2 (o.withB l).C2=_;unfold GZ UH;simp only[V (ω:(i:Int)<(b.B0.length:Int)),O,J,CU hi (show b.B0.length<=AB by unfold AB;omega)];rw[Ah (show(o.withB l).R0.length+[aL (-1) 0 0 [] 0 B].length<=2147483648 by show l.length+1<=_;omega)];rfl) (λl _=>by
  show GZ (b.B0.length:Int) (b.B0.length:Int) b.D0 b.E0 b.J0 b.O0 b.L0 b.N0 b.P0 b.B0 m.F0 m.M0 m.I0 m.A0 z.H0.F0 z.H0.M0 z.H0.I0 z.H0.A0 z.W0.h0 z.W0.h1 z.W0.sel z.E1 z.R0 z.B0 z.Y1 z.J1 z.D3 z.C3 z.J2 z.C2 (o.withB l).H0.F0 (o.withB l).H0.M0 (o.withB l).H0.I0 (o.withB l).H0.A0 (o.withB l).W0.h0 (o.withB l).W0.h1 (o.withB l).W0.sel (o.withB l).E1 (o.withB l).R0 (o.withB l).B0 (o.withB l).Y1 (o.withB l).J1 (o.withB l).D3 (o.withB l).C3 (o.withB l).J2 (o.withB l).C2=_;unfold GZ;simp only[W (I_ (b.B0.length:Int)),H];rfl) b.B0.length 0 [] ω σ
 have h':=Af h.1 ω;rw[IX (λ_=>[Ro]),Apg,y_]at h';rw[show o.tup=(o.withB []).tup by unfold Mch.withB Mch.tup;rw[ho]];exact h'
def Amh(b:Bldg)(m:Img)(hl:m.A0.length<=100000)(hcar:∀e∈m.A0,e.U0<(b.B0.length:Int))(z o:Mch)(ho:o.J1=[]):MT (((),(),(),(),(0:Int),()),(b.tup,m.tup,z.tup,o.tup,()))=C (((),(),()),(z.tup,(o.withE (m.A0.map (PY b))).tup,())):=by
 have h:=AN (step:=λx=>letI d:=x.2.2.2;letI l:=d.2.1.2;letI a:=l.2.2.2.2;letI n:=d.1.2;letI c:=n.2.2.2.2;letI f:=c.2.2.2.2;letI j:=a.2.2.2.2;letI k:=x.2.1.2.2;letI r:=f.2.2;letI s:=j.2.2;letI u:=k.2.2;letI w:=x.2.2.1;Ha x.1.2.2.2.2.1 x.2.1.1 x.2.1.2.1 k.1 k.2.1 u.1 u.2.1 u.2.2.1 u.2.2.2.1 w.1 w.2.1 w.2.2.1 w.2.2.2.1 d.1.1 n.1 n.2.1 n.2.2.1 n.2.2.2.1 c.1 c.2.1 c.2.2.1 c.2.2.2.1 f.1 f.2.1 r.1 r.2.1 r.2.2.1 r.2.2.2.1 r.2.2.2.2.1 d.2.1.1 l.1 l.2.1 l.2.2.1 l.2.2.2.1 a.1 a.2.1 a.2.2.1 a.2.2.2.1 j.1 j.2.1 s.1 s.2.1 s.2.2.1 s.2.2.2.1 s.2.2.2.2.1) m.A0.length (λi (q:List Int)=>(((),(),(),(),(i:Int),()),(b.tup,m.tup,z.tup,(o.withE q).tup,()))) (λi q=>q++[PY b (m.A0.getD i noE)]) (λi q=>q.length<=i) (λq=>(((),(),()),(z.tup,(o.withE q).tup,()))) (λi q hi hq=>by
  refine⟨?_,by rw[h_,a8_];omega⟩;have hc:=hcar _ (AT noE hi);have b1:∀v:Int,aI ((o.withE q).J1.length+[v].length) 2147483648=E:=λv=>Ah (by show q.length+1<=_;omega);show Ha (i:Int) b.D0 b.E0 b.J0 b.O0 b.L0 b.N0 b.P0 b.B0 m.F0 m.M0 m.I0 m.A0 z.H0.F0 z.H0.M0 z.H0.I0 z.H0.A0 z.W0.h0 z.W0.h1 z.W0.sel z.E1 z.R0 z.B0 z.Y1 z.J1 z.D3 z.C3 z.J2 z.C2 (o.withE q).H0.F0 (o.withE q).H0.M0 (o.withE q).H0.I0 (o.withE q).H0.A0 (o.withE q).W0.h0 (o.withE q).W0.h1 (o.withE q).W0.sel (o.withE q).E1 (o.withE q).R0 (o.withE q).B0 (o.withE q).Y1 (o.withE q).J1 (o.withE q).D3 (o.withE q).C3 (o.withE q).J2 (o.withE q).C2=_;unfold Ha;rw[show aQ 0 0 0 0 B=noE from rfl];simp only[V (ω:(i:Int)<(m.A0.length:Int)),Aa (ω:(0:Int)<=(i:Int)) (ω:(i:Int)<(m.A0.length:Int)),O,i_];have hex:PY b (m.A0.getD i noE)=bif decide (0<=(m.A0.getD i noE).U0)then(Ri b (m.A0.getD i noE).U0.toNat).T1 else 0:=rfl;rw[hex];by_cases g:0<=(m.A0.getD i noE).U0
  .rw[V g,Aa g hc];simp only[O,J,b1,CU hi (show m.A0.length<=AB by unfold AB;omega)];rfl
  .rw[W g];simp only[H,O,J,b1,CU hi (show m.A0.length<=AB by unfold AB;omega)];rfl) (λq _=>by
  show Ha (m.A0.length:Int) b.D0 b.E0 b.J0 b.O0 b.L0 b.N0 b.P0 b.B0 m.F0 m.M0 m.I0 m.A0 z.H0.F0 z.H0.M0 z.H0.I0 z.H0.A0 z.W0.h0 z.W0.h1 z.W0.sel z.E1 z.R0 z.B0 z.Y1 z.J1 z.D3 z.C3 z.J2 z.C2 (o.withE q).H0.F0 (o.withE q).H0.M0 (o.withE q).H0.I0 (o.withE q).H0.A0 (o.withE q).W0.h0 (o.withE q).W0.h1 (o.withE q).W0.sel (o.withE q).E1 (o.withE q).R0 (o.withE q).B0 (o.withE q).Y1 (o.withE q).J1 (o.withE q).D3 (o.withE q).C3 (o.withE q).J2 (o.withE q).C2=_;unfold Ha;simp only[W (I_ (m.A0.length:Int)),H];rfl) m.A0.length 0 [] ω σ
 have h':=Af h.1 ω;rw[IX (λi=>[PY b (m.A0.getD i noE)]),Pr (λe=>[PY b e]) noE m.A0 0 m.A0.length ω,O_,Bc2,y_]at h';rw[show o.tup=(o.withE []).tup by unfold Mch.withE Mch.tup;rw[ho]];exact h'
def Ao9(hb:b.small)(m:Img)(hf:m.fit)(hc:b.B0.length<=1000)(s:Sto):Qx b.D0 b.E0 b.J0 b.O0 b.L0 b.N0 b.P0 b.B0 m.F0 m.M0 m.I0 m.A0 s.h0 s.h1 s.sel=C (((),(Hz b m s).2,()),((Hz b m s).1.tup,())):=by
 unfold Qx Hz;rw[Adg hb m ω hf,Jg];simp only[J];cases hq:KA b m with
 |false=>rfl
 |true=>
  have hm:ImgOK b m:=by unfold KA at hq;rw[e_]at hq;exact Img.ok_iff.1 hq.1
  by_cases hs:s.ok b.J0
  .rw[V (show Sto.ok b.J0 ⟨s.h0,s.h1,s.sel⟩from hs)];have e:=hf.e
   let o:Mch:=⟨m,s,aG b.B0.length BC,[],aG b.B0.length AK,aG b.B0.length BP,[],aG b.B0.length Ab2,0,0,0⟩
   have l0:=Amg b hc m Mch.none o rfl;have l1:=Amh b m e (λx hx=>(Eo.1 (hm.en x hx)).2.1.2) Mch.none (o.withB (aG b.B0.length Ro)) rfl;simp only[Mch.tup,Img.tup,Bldg.tup,Mch.withB,Mch.withE,Mch.none,Img.none,Sto.no,noB,o]at l0 l1;have dl:∀n:Nat,n<=1000->(aD ((0:Int)<=(n:Int))&&decide ((n:Int)<=(n:Int))&&decide ((n:Int)<=(2147483648:Int)))=E:=λn hn=>by rw[V (ω:(0:Int)<=(n:Int)),V (a2_ (n:Int)),V (ω:(n:Int)<=2147483648)];rfl
   simp only[m_,H,O,dl _ hc,i_];rw[show bC 0 B B B B 0 0 0 0 0 0 0 0 0 0 0 0 0 0 0 0 0 0 0 0 0 0 0 0 0 0 0 0 0 0 0 0 0 0 0 0=BC from rfl,show NewCar.mk 0 0 0 0 0 B 0 0 0 0 0 0 0 B=AK from rfl,show Loaded.mk 0=BP from rfl,show Calls.mk 0 0=Ab2 from rfl];rw[l0];simp only[J];rw[l1];rfl
  .rw[W (show ¬Sto.ok b.J0 ⟨s.h0,s.h1,s.sel⟩from hs)];rfl
def Ara(hb:b.small)(hcode:b.code=0)(s:Sto)(hs:s.cur.size<=5000)(hbud:bud<9223372036854775808)(hR:Ih b.D0 b.E0 b.J0 b.O0 b.L0 b.N0 b.P0 b.B0 s.h0 s.h1 s.sel=C (((),()),((Ej b s).tup,()))):Oy b.D0 b.E0 b.J0 b.O0 b.L0 b.N0 b.P0 b.B0 s.h0 s.h1 s.sel bud=C (((),(OZ b s bud).2.1,(OZ b s bud).2.2,()),((OZ b s bud).1.tup,())):=by
 have hc:=Ai hcode;unfold Oy OZ;rw[Aiz hb hcode s hs hbud hR];have hf:=Asf hcode s ω bud;simp only[J,Azz,Img.tup];generalize Ce b s bud=w at hf|-;cases w.2.2.2 !=0 with
 |true=>rfl
 |false=>simp only[H];rw[Ao9 hb w.2.1 hf ω w.1];simp only[J,Mch.tup];generalize Hz b w.2.1 w.1=f;cases f.2 !=0<;>rfl
def Apa(hb:b.small)(hcode:b.code=0):Ka b.D0 b.E0 b.J0 b.O0 b.L0 b.N0 b.P0 b.B0=C (((),(Aa9 b).2,()),((Aa9 b).1.tup,())):=by unfold Ka Aa9;rw[hcode];simp only[s_,O];rw[show Oy b.D0 b.E0 b.J0 b.O0 b.L0 b.N0 b.P0 b.B0 (aM (aK [])) (aM (aK [])) 0 1048576=_ from Ara hb hcode Sto.no τ (bud:=1048576) ω (Ala hcode)];rfl
def XV(s:Sto):Mch.fit { Mch.none with W0:=s }:=⟨⟨G_ _,G_ _,G_ _,G_ _⟩,G_ _,G_ _,(λx h=>by cases h),G_ _,G_ _,G_ _,G_ _⟩
def Aul(hf:m.fit)(hc:b.B0.length<=1000)(s:Sto):(Hz b m s).1.fit:=by
 unfold Hz;cases KA b m&&decide (s.ok b.J0)with
 |true=>exact Ayp hf hc s
 |false=>exact XV Sto.no
def Ax6(hcode:b.code=0)(s:Sto)(hs:s.cur.size<=500000)(bud:Int):(OZ b s bud).1.fit:=by
 have hc:=Ai hcode;have hf:=Asf hcode s hs bud;unfold OZ;generalize Ce b s bud=w at hf|-;cases w.2.2.2 !=0 with
 |true=>exact XV w.1
 |false=>
  simp only[H];have h:=Aul (b:=b) hf ω w.1;generalize Hz b w.2.1 w.1=f at h|-;cases f.2 !=0 with
  |true=>exact XV Sto.no
  |false=>exact h
def WN(n:Int)(x:aV):JC n x.Y0 x.B2 x.L1 x.M1 x.F1 x.R4 x.S4 x.T4 x.U4 x.V4 x.W4 x.X4 x.Y4 x.Z4 x.A5 x.I3 x.J3 x.K3 x.L3 x.M3 x.N3 x.O3 x.P3 x.R3 x.T3 x.U3 x.V3 x.X3 x.Y3 x.Z3 x.A4 x.B4 x.C4 x.D4 x.E4 x.F4 x.G4 x.H4 x.I4 x.J4 x.K4=C ((LL n x,()),()):=by
 have h:=Af (FZ (step:=λx=>letI g:=x.2.1.2.2.2;letI m:=g.2.2;letI c:=m.2.2.2;letI o:=c.2.2;letI d:=o.2.2.2;letI j:=d.2.2;letI a:=j.2.2.2.2;letI f:=a.2.2.2.2;letI k:=f.2.2;letI b:=k.2.2.2.2;letI q:=b.2.2;letI e:=q.2.2.2;letI l:=e.2.2;Fl x.1.1 x.1.2.2.1 x.2.1.1 x.2.1.2.1 x.2.1.2.2.1 g.1 g.2.1 m.1 m.2.1 m.2.2.1 c.1 c.2.1 o.1 o.2.1 o.2.2.1 d.1 d.2.1 j.1 j.2.1 j.2.2.1 j.2.2.2.1 a.1 a.2.1 a.2.2.1 a.2.2.2.1 f.1 f.2.1 k.1 k.2.1 k.2.2.1 k.2.2.2.1 b.1 b.2.1 q.1 q.2.1 q.2.2.1 e.1 e.2.1 l.1 l.2.1 l.2.2.1 l.2.2.2.1 l.2.2.2.2.1) 36 (λi=>((n,(),(i:Int),()),((x.Y0,x.B2,x.L1,x.M1,x.F1,x.R4,x.S4,x.T4,x.U4,x.V4,x.W4,x.X4,x.Y4,x.Z4,x.A5,x.I3,x.J3,x.K3,x.L3,x.M3,x.N3,x.O3,x.P3,x.R3,x.T3,x.U3,x.V3,x.X3,x.Y3,x.Z3,x.A4,x.B4,x.C4,x.D4,x.E4,x.F4,x.G4,x.H4,x.I4,x.J4,x.K4,()),()))) (Anf n x) (aP ((),())) (aN ((B,()),())) (λi hi=>by
  show Fl n (i:Int) x.Y0 x.B2 x.L1 x.M1 x.F1 x.R4 x.S4 x.T4 x.U4 x.V4 x.W4 x.X4 x.Y4 x.Z4 x.A5 x.I3 x.J3 x.K3 x.L3 x.M3 x.N3 x.O3 x.P3 x.R3 x.T3 x.U3 x.V3 x.X3 x.Y3 x.Z3 x.A4 x.B4 x.C4 x.D4 x.E4 x.F4 x.G4 x.H4 x.I4 x.J4 x.K4=_;unfold Fl;simp only[V (ω:(i:Int)<36),Aa (ω:(0:Int)<=(i:Int)) (ω:(i:Int)<((36:Nat):Int)),O,i_,CU hi (show 36<=AB by decide)];show(bif decide ((Ko x).getD i 0<0)then _ else bif decide (n<=(Ko x).getD i 0)then _ else _)=C (bif(aD (0<=(Ko x).getD i 0)&&decide ((Ko x).getD i 0<n))then _ else _);rw[ltD ((Ko x).getD i 0) 0,leD n ((Ko x).getD i 0)];cases decide (0<=(Ko x).getD i 0)<;>cases decide ((Ko x).getD i 0<n)<;>rfl) (by
  show Fl n (36:Int) x.Y0 x.B2 x.L1 x.M1 x.F1 x.R4 x.S4 x.T4 x.U4 x.V4 x.W4 x.X4 x.Y4 x.Z4 x.A5 x.I3 x.J3 x.K3 x.L3 x.M3 x.N3 x.O3 x.P3 x.R3 x.T3 x.U3 x.V3 x.X3 x.Y3 x.Z3 x.A4 x.B4 x.C4 x.D4 x.E4 x.F4 x.G4 x.H4 x.I4 x.J4 x.K4=_;unfold Fl;simp only[show decide ((36:Int)<36)=B from rfl,H]) 36 0 ω) ω
 have h':OE ((n,(),(0:Int),()),((x.Y0,x.B2,x.L1,x.M1,x.F1,x.R4,x.S4,x.T4,x.U4,x.V4,x.W4,x.X4,x.Y4,x.Z4,x.A5,x.I3,x.J3,x.K3,x.L3,x.M3,x.N3,x.O3,x.P3,x.R3,x.T3,x.U3,x.V3,x.X3,x.Y3,x.Z3,x.A4,x.B4,x.C4,x.D4,x.E4,x.F4,x.G4,x.H4,x.I4,x.J4,x.K4,()),()))=_:=h;unfold JC LL;rw[ltD n 1,ltD 16 n];cases decide (1<=n)with
 |false=>rfl
 |true=>
  cases decide (n<=16)with
  |false=>rfl
  |true=>simp only[m_,H,l_,h'];cases DM (Anf n x) 36 0<;>rfl
def Ake(n Z hi:Int):Ji n Z hi=C ((inR Z hi n,()),()):=by unfold Ji inR;cases decide (Z<=n)<;>rfl
def XA(d:Duty):Int:=aA.wrap (aC aA (4*d.C0)+d.G0)
def Bcd(x:aO)(i:Nat):Bool:=i==0||decide (XA (x.K0.getD (i-1) AS)<XA (x.K0.getD i AS))
def Anj(b:Bldg)(car:Nat)(x:aO)(i:Nat):Bool:=Ak b (x.K0.getD i AS).C0 (x.K0.getD i AS).G0&&(inR 0 (Ri b car).T1 (x.K0.getD i AS).I5&&Bcd x i)
def Bgc(hb:b.small){x:aO}:DM (Anj b car x) x.K0.length 0=DM (Xz b car x) x.K0.length 0:=by
 refine Afi _ _ λk _ _ h=>?_;unfold Anj Xz;cases hc:Ak b (x.K0.getD k AS).C0 (x.K0.getD k AS).G0 with
 |false=>rfl
 |true=>
  unfold Bcd Bcc;by_cases k0:k=0
  .subst k0;rfl
  .have hp:=h (k-1) ω ω;unfold Anj at hp;rw[e_]at hp;have r1:=Ke hb hp.1;have r2:=Ke hb hc;have e:decide (XA (x.K0.getD (k-1) AS)<XA (x.K0.getD k AS))=Ab0 (x.K0.getD (k-1) AS) (x.K0.getD k AS):=by
    unfold XA Ab0;generalize x.K0.getD (k-1) AS=d1 at r1;generalize x.K0.getD k AS=d2 at r2;rw[Ad (n:=4*d1.C0) ω ω,Ad (n:=4*d2.C0) ω ω,Ad (n:=4*d1.C0+d1.G0) ω ω,Ad (n:=4*d2.C0+d2.G0) ω ω];by_cases g:d1.C0<d2.C0
    .rw[V g,V (ω:4*d1.C0+d1.G0<4*d2.C0+d2.G0)];rfl
    .rw[W g];by_cases g2:d1.C0=d2.C0
     .rw[g2,s_,c6_,l_];by_cases g3:d1.G0<d2.G0
      .rw[V g3,V ω]
      .rw[W g3,W ω]
     .rw[Av g2,W ω];rfl
   rw[e]
def ES(hb:b.small)(hcode:b.code=0)(hcar:car<b.B0.length)(x:aO)(hx:x.K0.length<=100000):CM b.D0 b.E0 b.J0 b.O0 b.L0 b.N0 b.P0 b.B0 (car:Int) x.C0 x.G0 x.K2 x.K0 x.M2 x.V2=C ((LG b car x,()),()):=by
 have Z:=hb.lo;have hi8:=hb.hi;have hcc:=Ai hcode;have h5:100000<=AB:=by decide
 have h:=Af (FZ (step:=λx=>letI a:=x.2.1.2.2;letI c:=x.2.2.1.2;letI d:=a.2.2;Fp x.1.1 x.1.2.2.2.1 x.2.1.1 x.2.1.2.1 a.1 a.2.1 d.1 d.2.1 d.2.2.1 d.2.2.2.1 x.2.2.1.1 c.1 c.2.1 c.2.2.1 c.2.2.2.1 c.2.2.2.2.1) x.K0.length (λi=>(((car:Int),(),(),(i:Int),()),(b.tup,(x.C0,x.G0,x.K2,x.K0,x.M2,x.V2,()),()))) (Anj b car x) (aP ((),())) (aN ((B,()),())) (λi hi=>by
  show Fp (car:Int) (i:Int) b.D0 b.E0 b.J0 b.O0 b.L0 b.N0 b.P0 b.B0 x.C0 x.G0 x.K2 x.K0 x.M2 x.V2=_;unfold Fp;simp only[V (ω:(i:Int)<(x.K0.length:Int)),Aa (ω:(0:Int)<=(i:Int)) (ω:(i:Int)<(x.K0.length:Int)),Aa (ω:(0:Int)<=(car:Int)) (ω:(car:Int)<(b.B0.length:Int)),O,i_,Ep hb,Ake,J];rw[show Duty.mk 0 0 0=AS from rfl,show Car.mk 0 0 0 0 0 0 0 0 0=⟨0,0,0,0,0,0,0,0,0⟩from rfl];rw[show b.B0.getD car ⟨0,0,0,0,0,0,0,0,0⟩=Ri b car from rfl];unfold Anj Bcd;cases Ak b (x.K0.getD i AS).C0 (x.K0.getD i AS).G0 with
  |false=>rfl
  |true=>
  cases inR 0 (Ri b car).T1 (x.K0.getD i AS).I5 with
  |false=>rfl
  |true=>
   simp only[m_,H,l_];by_cases i0:i=0
   .subst i0;simp only[show decide ((0:Int)<((0:Nat):Int))=B from rfl,H,J,CU hi (ω:x.K0.length<=AB)];rfl
   .rw[V (ω:(0:Int)<(i:Int)),show(i==0)=B by simpa using i0];simp only[O,c6_,Ad (n:=(i:Int)-1) ω ω,Aa (ω:(0:Int)<=(i:Int)-1) (ω:(i:Int)-1<(x.K0.length:Int))];rw[show aE ((i:Int)-1)=i-1 by omega];rw[show aA.wrap (aC aA (4*(x.K0.getD (i-1) AS).C0)+(x.K0.getD (i-1) AS).G0)=XA (x.K0.getD (i-1) AS)from rfl,show aA.wrap (aC aA (4*(x.K0.getD i AS).C0)+(x.K0.getD i AS).G0)=XA (x.K0.getD i AS)from rfl,leD];simp only[J];rw[CU hi (ω:x.K0.length<=AB)];cases decide (XA (x.K0.getD (i-1) AS)<XA (x.K0.getD i AS))<;>rfl) (by
  show Fp (car:Int) (x.K0.length:Int) b.D0 b.E0 b.J0 b.O0 b.L0 b.N0 b.P0 b.B0 x.C0 x.G0 x.K2 x.K0 x.M2 x.V2=_;unfold Fp;simp only[W (I_ (x.K0.length:Int)),H]) x.K0.length 0 ω) ω
 have h':OI (((car:Int),(),(),(0:Int),()),(b.tup,(x.C0,x.G0,x.K2,x.K0,x.M2,x.V2,()),()))=_:=h;rw[Bgc hb]at h';simp only[Bldg.tup]at h';unfold CM LG;rw[AO,hcode];simp only[Ake,J,L_,H,Ad (n:=(b.B0.length:Int)-1) ω ω,Ad (n:=b.D0-1) ω ω,show inR 0 ((b.B0.length:Int)-1) (car:Int)=E from Al.2 ⟨ω,ω⟩,m_];cases inR (-1) (b.D0-1) x.C0 with
 |false=>rfl
 |true=>
 cases inR 0 3 x.G0 with
 |false=>rfl
 |true=>
 cases inR 0 3 x.K2 with
 |false=>rfl
 |true=>
 cases inR 0 1000000 x.M2 with
 |false=>rfl
 |true=>
  simp only[m_,H,l_];cases hL:x.V2 with
  |false=>rw[hL]at h';simp only[H,J,S_,a7_,l_,h'];cases DM (Xz b car x) x.K0.length 0<;>rfl
  |true=>
   rw[hL]at h';cases hD:decide ((0:Int)<(x.K0.length:Int))with
   |true=>simp only[O,J];rfl
   |false=>simp only[O,H,J,a9_,a7_,l_,h'];cases DM (Xz b car x) x.K0.length 0<;>rfl
def WP(x:aH):Do x.R1 x.H1=C ((LW x,()),()):=by unfold Do LW inR;cases decide (0<=x.R1)<;>cases decide (x.R1<=2)<;>cases decide (0<=x.H1)<;>rfl
def Azt(n:Int):PH n=C ((inR 0 1000000 n,()),()):=by unfold PH inR;cases decide (0<=n)<;>rfl
def WQ(x:aH):FB x.C1 x.V1 x.O1 x.Z1 x.P1=C ((JP x,()),()):=by
 unfold FB JP QB;simp only[Azt,J];by_cases h:x.C1=0
 .rw[h];rfl
 .rw[Av h];have e:decide (0<x.C1)=decide (0<=x.C1):=by
   by_cases g:0<x.C1
   .rw[V g,V ω]
   .rw[W g,W ω]
  rw[e];unfold inR;cases decide (0<=x.C1)<;>cases decide (x.C1<=3)<;>cases(aD (0<=x.V1)&&decide (x.V1<=1000000))<;>cases(aD (0<=x.O1)&&decide (x.O1<=1000000))<;>rfl
def Aa0(fl n:Int):HE fl n=C ((inR 0 (fl-1) n,()),()):=by
 unfold HE inR;have e:decide (n<fl)=decide (n<=fl-1):=by
  by_cases g:n<fl
  .rw[V g,V ω]
  .rw[W g,W ω]
 rw[e];cases decide (0<=n)<;>rfl
def Ai2{fl:Int}(h:2<=fl/\fl<=8)(x:aH):Dp fl x.V0 x.Z0 x.S0=C ((SS fl x,()),()):=by
 unfold Dp SS;rw[W (ω:¬fl<2),W (ω:¬32<fl),ltD x.Z0 0,ltD 1000000 x.Z0];simp only[H,Aa0,J];unfold inR;cases decide (0<=x.Z0)with
 |false=>rfl
 |true=>
 cases decide (x.Z0<=1000000)with
 |false=>rfl
 |true=>
 simp only[m_,H,l_];by_cases c0:x.V0=0
 .rw[c0];rfl
 .rw[Av c0];simp only[H];by_cases c1:x.V0=1
  .rw[c1];simp only[s_,O];cases hf:(aD (0<=x.S0)&&decide (x.S0<=fl-1))with
   |false=>rfl
   |true=>
    have:=Al.1 (show inR 0 (fl-1) x.S0=E from hf)
    unfold DU;simp only[O,s_,J];rw[Ad ω ω];rfl
  .rw[Av c1];simp only[H];by_cases c2:x.V0=2
   .rw[c2];simp only[s_,O];cases hf:(aD (0<=x.S0)&&decide (x.S0<=fl-1))with
    |false=>rfl
    |true=>
     have:=Al.1 (show inR 0 (fl-1) x.S0=E from hf)
     unfold DU;simp only[O,show((2:Int)==1)=B from rfl,H,J];rw[Ad ω ω];rfl
   .rw[Av c2];rfl
def IF(hb:b.small)(hcode:b.code=0)(x:aH)(hx:0<=x.I1/\x.I1<18446744073709551616):FC b.D0 b.E0 b.J0 b.O0 b.L0 b.N0 b.P0 b.B0 x.R1 x.H1 x.C1 x.V1 x.O1 x.Z1 x.P1 x.V0 x.Z0 x.S0 x.I1 x.R2 x.L4 x.F3=C ((Fx b x,()),()):=by
 have Z:=hb.lo;have hi8:=hb.hi;have hmin:Min.min (aE b.D0) (IntKind.bits aS)=aE b.D0:=c8_ (by show _<=64;omega);unfold FC Fx;rw[AO,hcode];simp only[J,L_,H];cases hF:x.F3 with
 |true=>unfold Ah8;rw[hF];rfl
 |false=>
  simp only[J,H,WP,WQ,Ai2 ⟨Z,hi8⟩];unfold WW;cases LW x with
  |false=>rfl
  |true=>
  cases JP x with
  |false=>rfl
  |true=>
  cases SS b.D0 x with
  |false=>rfl
  |true=>
   simp only[m_,H,l_];rw[show((x.C1==0)&&((x.V1==0)&&((x.O1==0)&&((x.Z1==B)&&((x.P1==0)&&E)))))=QB x from rfl,show((x.V0==0)&&((x.Z0==0)&&((x.S0==0)&&E)))=Aok x from rfl];have fin:(bif decide (0<=aS.wrap b.D0)then bif(aW (aC aS x.I1) ((2:Int)^(Min.min (aE (aC aS b.D0)) (IntKind.bits aS)))==0)then bif decide (0<=x.R2)then bif decide (x.R2<=2)then bif decide (0<=x.L4)then C ((aD (x.L4<=1000000),()),())else C ((B,()),())else C ((B,()),())else C ((B,()),())else C ((B,()),())else none)=C ((Aa3 b.D0 x,()),()):=by rw[ET (n:=b.D0) ω ω,ET hx.1 hx.2,hmin,V (ω:0<=b.D0)];unfold Aa3 inR;cases aW x.I1 ((2:Int)^(aE b.D0))==0<;>cases decide (0<=x.R2)<;>cases decide (x.R2<=2)<;>cases decide (0<=x.L4)<;>rfl
   cases QB x with
   |true=>simp only[m_,H,J,Bool.true_or,l_];rw[fin];rfl
   |false=>
    cases Aok x with
    |true=>simp only[m_,a7_,O,H,J,c6_,l_];rw[fin];rfl
    |false=>rfl
def Uf(n:Int):Kb n=C ((inR 0 1000000 n,()),()):=by unfold Kb inR;cases decide (0<=n)<;>rfl
def Ag7(m:Img){xs:List Int}(hl:xs.length<=1000000):DD m.F0 m.M0 m.I0 m.A0 xs=C ((JO xs&&(xs.length:Int)==(m.A0.length:Int),()),()):=by
 have key:∀(k i:Nat),i+k=xs.length->Bx (λx=>BJ x.1.1 x.1.2.2.1 x.2.1.1 x.2.1.2.1 x.2.1.2.2.1 x.2.1.2.2.2.1) (k+1) ((xs,(),(i:Int),()),(m.tup,()))=C (if(xs.drop i).all (inR 0 1000000)then .inl ((xs,(),()),(m.tup,()))else .inr ((B,()),())):=by
  intro k;induction k with
  |zero=>intro i hi;refine At ?_;show BJ xs (i:Int) m.F0 m.M0 m.I0 m.A0=_;unfold BJ;rw[show decide ((i:Int)<(xs.length:Int))=B by simp;omega,show i=xs.length by omega,Y_];rfl
  |succ k ih=>
   intro i hi;have hi':i<xs.length:=ω;have hs:BJ xs (i:Int) m.F0 m.M0 m.I0 m.A0=C (bif inR 0 1000000 (xs.getD i 0)then .inl ((xs,(),((i+1:Nat):Int),()),(m.tup,()))else .inr (.inr ((B,()),()))):=by unfold BJ;rw[V (ω:(i:Int)<(xs.length:Int)),Aa ω ω,CU hi' (show xs.length<=AB by unfold AB;omega)];simp only[O,i_];unfold inR;rw[ltD (xs.getD i 0) 0,ltD 1000000 (xs.getD i 0)];cases decide (0<=xs.getD i 0)<;>cases decide (xs.getD i 0<=1000000)<;>rfl
   rw[AR (0:Int) hi',U_];cases hq:inR 0 1000000 (xs.getD i 0)with
   |true=>rw[hq]at hs;exact(AM hs).trans (ih (i+1) ω)
   |false=>rw[hq]at hs;exact At hs
 have h1:Jp ((xs,(),(0:Int),()),(m.tup,()))=_:=Af (key xs.length 0 ω) ω;rw[O_]at h1;unfold Img.tup at h1;unfold DD;rw[h1];unfold JO;cases xs.all (inR 0 1000000)<;>rfl
def Xk(p q:Nat->Bool):∀m i:Nat,DM (λk=>p k&&q k) m i=(DM p m i&&DM q m i)
 |0,_=>rfl
 |m+1,i=>by simp only[DM];rw[Xk p q m (i+1)];cases p i<;>cases q i<;>cases DM p m (i+1)<;>rfl
def Ny(hb:b.small)(hcode:b.code=0){m:Mch}(hm:m.fit)(hcalls:∀x∈m.B0,0<=x.I1/\x.I1<18446744073709551616):Fj b.D0 b.E0 b.J0 b.O0 b.L0 b.N0 b.P0 b.B0 m.H0.F0 m.H0.M0 m.H0.I0 m.H0.A0 m.W0.h0 m.W0.h1 m.W0.sel m.E1 m.R0 m.B0 m.Y1 m.J1 m.D3 m.C3 m.J2 m.C2=C ((Ei b m,()),()):=by
 have hcc:=Ai hcode;have hex:=hm.ex;have h5:100000<=AB:=by decide
 unfold Fj Ei;rw[AO,hcode,Adg hb m.H0 ω hm.im,Jg,Ag7 m.H0 (xs:=m.J1) ω,Uf,Uf,Uf];simp only[J,L_,H];rw[show decide (Sto.ok b.J0 ⟨m.W0.h0,m.W0.h1,m.W0.sel⟩)=decide (m.W0.ok b.J0)from rfl,show JO [m.C3,m.J2,m.C2]=(inR 0 1000000 m.C3&&(inR 0 1000000 m.J2&&(inR 0 1000000 m.C2&&E)))from rfl];unfold FS;simp only[bne];cases KA b m.H0 with
 |false=>rfl
 |true=>
 cases decide (m.W0.ok b.J0)with
 |false=>rfl
 |true=>
 by_cases l1:m.E1.length=b.B0.length
 .by_cases l2:m.R0.length=b.B0.length
  .by_cases l3:m.B0.length=b.B0.length
   .by_cases l4:m.Y1.length=b.B0.length
    .by_cases l5:m.D3.length=b.B0.length
     .have h:=Af (FZ (step:=λx=>letI e:=x.2.2.1.2;letI g:=e.2.2;letI a:=g.2.2.2;letI c:=a.2.2.2.2;letI d:=x.2.1.2.2;letI f:=d.2.2;letI j:=c.2.2;Eg x.1.2.2.1 x.1.2.2.2.1 x.2.1.1 x.2.1.2.1 d.1 d.2.1 f.1 f.2.1 f.2.2.1 f.2.2.2.1 x.2.2.1.1 e.1 e.2.1 g.1 g.2.1 g.2.2.1 a.1 a.2.1 a.2.2.1 a.2.2.2.1 c.1 c.2.1 j.1 j.2.1 j.2.2.1 j.2.2.2.1) b.B0.length (λi=>(((),(),(b.B0.length:Int),(i:Int),()),(b.tup,m.tup,()))) (λi=>LL b.E0 (m.E1.getD i BC)&&(LG b i (m.R0.getD i (aL 0 0 0 [] 0 B))&&(Fx b (m.B0.getD i AK)&&Mz (m.Y1.getD i BP)))) (aP ((),())) (aN ((B,()),())) (λi hi=>by
       have hm2:=AT (l:=m.R0) (aL 0 0 0 [] 0 B) (i:=i) ω;have hm3:=AT (l:=m.B0) AK (i:=i) ω;show Eg (b.B0.length:Int) (i:Int) b.D0 b.E0 b.J0 b.O0 b.L0 b.N0 b.P0 b.B0 m.H0.F0 m.H0.M0 m.H0.I0 m.H0.A0 m.W0.h0 m.W0.h1 m.W0.sel m.E1 m.R0 m.B0 m.Y1 m.J1 m.D3 m.C3 m.J2 m.C2=_;unfold Eg;simp only[V (ω:(i:Int)<(b.B0.length:Int)),Aa (ω:(0:Int)<=(i:Int)) (ω:(i:Int)<(m.E1.length:Int)),Aa (ω:(0:Int)<=(i:Int)) (ω:(i:Int)<(m.R0.length:Int)),Aa (ω:(0:Int)<=(i:Int)) (ω:(i:Int)<(m.B0.length:Int)),Aa (ω:(0:Int)<=(i:Int)) (ω:(i:Int)<(m.Y1.length:Int)),O,i_,CU hi (ω:b.B0.length<=AB)];rw[show bC 0 B B B B 0 0 0 0 0 0 0 0 0 0 0 0 0 0 0 0 0 0 0 0 0 0 0 0 0 0 0 0 0 0 0 0 0 0 0 0=BC from rfl,show NewCar.mk 0 0 0 0 0 B 0 0 0 0 0 0 0 B=AK from rfl,show Loaded.mk 0=BP from rfl];rw[WN b.E0 (m.E1.getD i BC),ES hb hcode hi (m.R0.getD i (aL 0 0 0 [] 0 B)) (hm.du _ hm2),IF hb hcode (m.B0.getD i AK) (hcalls _ hm3)];simp only[J];rw[ltD (m.Y1.getD i BP).F5 0,ltD 4 (m.Y1.getD i BP).F5];unfold Mz inR;cases LL b.E0 (m.E1.getD i BC)<;>cases LG b i (m.R0.getD i (aL 0 0 0 [] 0 B))<;>cases Fx b (m.B0.getD i AK)<;>cases decide (0<=(m.Y1.getD i BP).F5)<;>cases decide ((m.Y1.getD i BP).F5<=4)<;>rfl) (by
       show Eg (b.B0.length:Int) (b.B0.length:Int) b.D0 b.E0 b.J0 b.O0 b.L0 b.N0 b.P0 b.B0 m.H0.F0 m.H0.M0 m.H0.I0 m.H0.A0 m.W0.h0 m.W0.h1 m.W0.sel m.E1 m.R0 m.B0 m.Y1 m.J1 m.D3 m.C3 m.J2 m.C2=_;unfold Eg;simp only[W (I_ (b.B0.length:Int)),H]) b.B0.length 0 ω) ω
      rw[Xk,Xk,Xk]at h;have h':Mc (((),(),(b.B0.length:Int),(0:Int),()),(b.tup,m.tup,()))=_:=h;simp only[Bldg.tup,Mch.tup]at h';rw[l1,l2,l3,l4,l5];simp only[s_,m_,H,l_,c4_];rw[h'];generalize DM (λi=>LL b.E0 (m.E1.getD i BC)) b.B0.length 0=q1;generalize DM (λi=>LG b i (m.R0.getD i (aL 0 0 0 [] 0 B))) b.B0.length 0=q2;generalize DM (λi=>Fx b (m.B0.getD i AK)) b.B0.length 0=q3;generalize DM (λi=>Mz (m.Y1.getD i BP)) b.B0.length 0=q4;generalize((m.J1.length:Int)==(m.H0.A0.length:Int))=q5;generalize inR 0 1000000 m.C3=q6;generalize inR 0 1000000 m.J2=q7;generalize inR 0 1000000 m.C2=q8;cases JO m.J1
      .cases q5<;>rfl
      cases q5
      .rfl
      cases q6
      .rfl
      cases q7
      .rfl
      cases q8
      .rfl
      cases q1<;>cases q2<;>cases q3<;>cases q4<;>rfl
     .simp[Av (ω:¬(m.D3.length:Int)=(b.B0.length:Int))]
    .simp[Av (ω:¬(m.Y1.length:Int)=(b.B0.length:Int))]
   .simp[Av (ω:¬(m.B0.length:Int)=(b.B0.length:Int))]
  .simp[Av (ω:¬(m.R0.length:Int)=(b.B0.length:Int))]
 .simp[Av (ω:¬(m.E1.length:Int)=(b.B0.length:Int))]
end Go.Ovl
namespace Go.Ovl
open Go Go.Ab
variable{f:Int}
def bv(f:Int):BitVec 32:=aR 32 f
def vb(b:BitVec 32):Int:=(b.toNat:Int)
def HN(b:BitVec 32):0<=vb b/\vb b<4294967296:=by
 have:=b.isLt
 unfold vb;omega
def Bfa(b:BitVec 32):bv (vb b)=b:=by
 apply bE
 have:=b.isLt
 simp only[bv,vb,d9_];omega
def Awe(h:0<=f/\f<4294967296):vb (bv f)=f:=by simp only[bv,vb,d9_];omega
def Acd(b:BitVec 32):aF.wrap ((b.toNat:Nat):Int)=vb b:=by
 have:=b.isLt
 simp only[aC,IntKind.signed,IntKind.bits,vb];simp;omega
def Amw:IntKind.bits .u32=32:=rfl
def Bf6(f:Int):bv (aC aF f)=bv f:=by apply bE;simp only[bv,d9_,aC,IntKind.signed,IntKind.bits];simp
def Bjq(i:Nat):bv (aC aF (1*2^min i (IntKind.bits .u32)))=if i<32 then BitVec.twoPow 32 i else 0#32:=by
 rw[Bf6,Int.one_mul];apply bE;simp only[bv,d9_,Amw];by_cases h:i<32
 .rw[if_pos h,c8_ ω,BitVec.toNat_twoPow]
  have:((2:Int)^i)=((2^i:Nat):Int):=by simp
  rw[this]
  norm_cast
 .rw[if_neg h,Nat.min_eq_right ω];rfl
def CQ(f:Int)(i:Nat):Bool:=(bv f).getLsbD i
def Amv(h:0<=f/\f<4294967296){i:Nat}(hi:i<32):
  (aC aF ((aY (aR (IntKind.bits .u32) (aW f (2^min i (IntKind.bits .u32)))&&&aR (IntKind.bits .u32) 1):Nat):Int)==1)=CQ f i:=by
 have e:aW f (2^min i (IntKind.bits .u32))=((f.toNat/2^i:Nat):Int):=by
  rw[Amw,c8_ ω,Int.fdiv_eq_ediv_of_nonneg _ (by exact Int.le_of_lt (Int.pow_pos ω))]
  have:f=((f.toNat:Nat):Int):=ω
  rw[this];simp
 rw[e];show(aC aF (((bv ((f.toNat/2^i:Nat):Int)&&&bv 1).toNat:Nat):Int)==1)=_;rw[Acd];have hb:(bv ((f.toNat/2^i:Nat):Int)&&&bv 1)=if CQ f i then 1#32 else 0#32:=by
  apply BitVec.eq_of_getLsbD_eq;intro j hj;have h1:(bv ((f.toNat/2^i:Nat):Int)).getLsbD j=(f.toNat/2^i).testBit j:=by
   simp only[bv,BitVec.getLsbD,d9_]
   have:(((f.toNat/2^i:Nat):Int)%((2^32:Nat):Int)).toNat=(f.toNat/2^i)%2^32:=by norm_cast
   rw[this,Nat.testBit_mod_two_pow];simp[hj]
  have h2:CQ f i=f.toNat.testBit i:=by
   simp only[CQ,bv,BitVec.getLsbD,d9_]
   have:(f%((2^32:Nat):Int)).toNat=f.toNat:=by simp;omega
   rw[this]
  have h3:(bv 1).getLsbD j=decide (j=0):=by
   have:bv 1=1#32:=rfl
   rw[this];simp[BitVec.getLsbD_one]
  rw[bG,h1,h3,h2];by_cases hj0:j=0
  .subst hj0;rw[Nat.testBit_div_two_pow];simp only[k_,decide_true,c4_];cases f.toNat.testBit i<;>simp
  .simp only[hj0,decide_false,a9_];cases f.toNat.testBit i<;>simp[BitVec.getLsbD_one,hj0]
 rw[hb];cases CQ f i<;>rfl
def Ari{g:Int}(hf:0<=f/\f<4294967296)(hg:0<=g/\g<4294967296)(h:∀i,i<32->CQ f i=CQ g i):f=g:=by rw[<-Awe hf,<-Awe hg];congr 1;apply BitVec.eq_of_getLsbD_eq;intro i hi;exact h i hi
end Go.Ovl
namespace Go.Ovl
open Go Go.Ab
variable{c p:Int×Int}{f:Nat}{b:Bldg}{d:Int}
def Bd1(x y:Int):aF.wrap (stk x y (aY (aR (IntKind.bits .u32) x|||BitVec.ofInt (IntKind.bits .u32) y)))=vb (bv x|||bv y):=by rw[Um];exact Acd _
def Ame(x y:Int):aF.wrap (stk x y (aY (aR (IntKind.bits .u32) x&&&aR (IntKind.bits .u32) y)))=vb (bv x&&&bv y):=by rw[Um];exact Acd _
def Uu(x y:Int):aF.wrap (stk x y (aY (aR (IntKind.bits .u32) x&&& ~~~ aR (IntKind.bits .u32) y)))=vb (bv x&&& ~~~ bv y):=by rw[Um];exact Acd _
def TM(b:BitVec 32)(i:Nat):CQ (vb b) i=b.getLsbD i:=by unfold CQ;rw[Bfa]
def Arj{k:Nat}(h:k<32)(i:Nat):CQ (aC aF (1*2^min k (IntKind.bits .u32))) i=decide (i=k):=by
 unfold CQ;rw[Bjq,if_pos h,BitVec.getLsbD_twoPow];by_cases e:i=k
 .subst e;simp[h]
 .simp[e,e0_ e]
def VV(floor:Int):Int:=aF.wrap (1*2^min (aE floor) (IntKind.bits .u32))
def Lh(floor dir:Int):Int×Int:=bif inR 0 31 floor then(bif dir==1 then(VV floor,0)else bif dir==2 then(0,VV floor)else(0,0))else(0,0)
def LS(floor dir:Int):El floor dir=C (((),()),(((Lh floor dir).1,(Lh floor dir).2,()),())):=by
 unfold El Lh inR;by_cases g:floor<0
 .rw[V g,W (ω:¬0<=floor)];rfl
 .rw[W g,V (ω:0<=floor)];by_cases g':31<floor
  .rw[V g',W (ω:¬floor<=31)];rfl
  .rw[W g',V (ω:floor<=31)];have w:aS.wrap floor=floor:=ET ω ω;simp only[H,w,V (ω:0<=floor),O,V_];cases dir==1<;>cases dir==2<;>rfl
def orC(a c:Int):Int:=vb (bv a|||bv c)
def Bc3(a c:Int):Int:=vb (bv a&&& ~~~ bv c)
def FL(a c:Int×Int):Int×Int:=(orC a.1 c.1,orC a.2 c.2)
def CW(a c:Int×Int):Int×Int:=(Bc3 a.1 c.1,Bc3 a.2 c.2)
def IE(a c:Int×Int):Di a.1 a.2 c.1 c.2=C (((),()),(((FL a c).1,(FL a c).2,()),())):=by unfold Di;rw[Bd1,Bd1];rfl
def Ub(a c:Int×Int):FW a.1 a.2 c.1 c.2=C (((),()),(((CW a c).1,(CW a c).2,()),())):=by unfold FW;rw[Uu,Uu];rfl
def AZ(c:Int×Int)(f:Nat)(d:Int):Bool:=bif d==1 then CQ c.1 f else bif d==2 then CQ c.2 f else B
def Ln(c:Int×Int):Prop:=(0<=c.1/\c.1<4294967296)/\(0<=c.2/\c.2<4294967296)
def Baa(a c:Int×Int):Ln (FL a c):=⟨HN _,HN _⟩
def Azh(a c:Int×Int):Ln (CW a c):=⟨HN _,HN _⟩
def Ae3:Ln (0,0):=⟨⟨τ,τ⟩,⟨τ,τ⟩⟩
def ZK(i:Nat):CQ 0 i=B:=by unfold CQ bv;simp
def Rg(f:Nat)(d:Int):AZ (0,0) f d=B:=by unfold AZ;simp only[ZK];cases d==1<;>cases d==2<;>rfl
def Atm(a c:Int×Int)(f:Nat)(d:Int):AZ (FL a c) f d=(AZ a f d||AZ c f d):=by unfold AZ FL orC;simp only[TM,bH];cases d==1<;>cases d==2<;>rfl
def SD(a c:Int×Int)(hf:f<32)(d:Int):AZ (CW a c) f d=(AZ a f d&&!AZ c f d):=by unfold AZ CW Bc3;simp only[TM,bG,BitVec.getLsbD_not,hf,decide_true,l_];cases d==1<;>cases d==2<;>rfl
def Bb0{F D:Int}(hF:0<=F/\F<32)(hD:D=1\/D=2)(f:Nat)(hd:d=1\/d=2):AZ (Lh F D) f d=decide (((f:Int),d)=(F,D)):=by
 have hp:CQ (VV F) f=decide (f=F.toNat):=Arj (k:=F.toNat) ω f;have e:decide (((f:Int),d)=(F,D))=(aD (f=F.toNat)&&decide (d=D)):=by
  rw[Bool.eq_iff_iff,e_,R_,R_,R_,Prod.mk.injEq];constructor
  .rintro⟨h1,h2⟩;exact⟨ω,h2⟩
  .rintro⟨h1,h2⟩;exact⟨ω,h2⟩
 rw[e];unfold Lh AZ;rw[Al.2 ⟨hF.1,show F<=31 by omega⟩];rcases hD with rfl|rfl<;>rcases hd with rfl|rfl
 .simp[hp]
 .simp[ZK]
 .simp[ZK]
 .simp[hp]
def Ajf{a:Int×Int}(ha:Ln a)(hc:Ln c)(h:∀f:Nat,f<32->∀d:Int,(d=1\/d=2)->AZ a f d=AZ c f d):a=c:=by have h1:a.1=c.1:=Ari ha.1 hc.1 λi hi=>h i hi 1 (.inl rfl);have h2:a.2=c.2:=Ari ha.2 hc.2 λi hi=>h i hi 2 (.inr rfl);exact Prod.ext h1 h2
def Afr(e:U):Prop:=(0<=e.C0/\e.C0<32)/\(e.G0=1\/e.G0=2)
def ofC:List U->Int×Int->Int×Int
 |[],c=>c
 |e::t,c=>ofC t (FL c (Lh e.C0 e.G0))
def Asb:∀{l:List U}{c:Int×Int},(∀e∈l,Afr e)->∀(f:Nat) {d:Int},(d=1\/d=2)->(AZ (ofC l c) f d=E↔AZ c f d=E\/((f:Int),d)∈l.map Ew)
 |[],_,_,f,d,_=>by simp[ofC]
 |e::t,c,h,f,d,hd=>by have he:=h e (W_ ..);simp only[ofC];rw[Asb (λx hx=>h x (Q_ _ hx)) f hd,Atm,Bb0 he.1 he.2 f hd,b0_,R_,d4_,v_];show(_\/_=(e.C0,e.G0))\/_↔_\/_=(e.C0,e.G0)\/_;exact or_assoc
def Azr{l:List U}(hl:l.length<=100000):Xc l=C (((),()),(((ofC l (0,0)).1,(ofC l (0,0)).2,()),())):=by
 have h:=AN (step:=λx=>LE x.1.1 x.1.2.2.2.1 x.2.1.1 x.2.1.2.1 x.2.2.1.1 x.2.2.1.2.1) l.length (λi (c:Int×Int)=>((l,(),(),(i:Int),()),(((0:Int),(0:Int),()),(c.1,c.2,()),()))) (λi c=>FL c (Lh (l.getD i noE).C0 (l.getD i noE).G0)) (λ_ _=>True) (λc=>(((),(),()),(((0:Int),(0:Int),()),(c.1,c.2,()),()))) (λi c hi _=>by
  refine⟨?_,trivial⟩;show LE l (i:Int) 0 0 c.1 c.2=_;unfold LE;rw[show aQ 0 0 0 0 B=noE from rfl];have hu:=IE c (Lh (l.getD i noE).C0 (l.getD i noE).G0);simp only[V (ω:(i:Int)<(l.length:Int)),Aa (ω:(0:Int)<=(i:Int)) (ω:(i:Int)<(l.length:Int)),O,i_,LS,J,hu,CU hi (show l.length<=AB by unfold AB;omega)]) (λc _=>by
  show LE l (l.length:Int) 0 0 c.1 c.2=_;unfold LE;simp only[W (I_ (l.length:Int)),H]) l.length 0 (0,0) ω trivial
 have h':=Af h.1 ω;have e:∀(l:List U) (c:Int×Int),l.foldl (λc e=>FL c (Lh e.C0 e.G0)) c=ofC l c:=λl=>by
  induction l with
  |nil=>exact λc=>rfl
  |cons a t ih=>exact λc=>ih _
 have e2:∀(k i:Nat) (c:Int×Int),i+k=l.length->Cr (λi c=>FL c (Lh (l.getD i noE).C0 (l.getD i noE).G0)) k i c=ofC (l.drop i) c:=by
  intro k;induction k with
  |zero=>intro i c hi;obtain rfl:i=l.length:=ω;rw[Y_];rfl
  |succ k ih=>intro i c hi;rw[AR noE (ω:i<l.length)];exact ih (i+1) _ ω
 rw[e2 l.length 0 (0,0) ω,O_]at h';unfold Xc;rw[show Xe ((l,(),(),(0:Int),()),(((0:Int),(0:Int),()),((0:Int),(0:Int),()),()))=_ from h'];rfl
def Agz(hc:Ln c)(hf:f<32)(hd:d=1\/d=2):Ek c.1 c.2 (f:Int) d=C ((AZ c f d,()),()):=by
 have w:aS.wrap (f:Int)=(f:Int):=ET ω ω;have t1:=Amv hc.1 hf;have t2:=Amv hc.2 hf;unfold Ek AZ;rw[W (ω:¬(f:Int)<0),W (ω:¬(31:Int)<(f:Int))];simp only[H,w,V (ω:(0:Int)<=(f:Int)),O,i_,Um,t1,t2];rcases hd with rfl|rfl
 .simp only[s_,O,show((1:Int)==2)=B from rfl,H];cases CQ c.1 f<;>rfl
 .simp only[show((2:Int)==1)=B from rfl,H,s_,O,J]
def Ey(c:Int×Int)(f:Nat):List U:=(bif AZ c f 1 then [⟨(f:Int),1,-1,0,B⟩]else [])++(bif AZ c f 2 then [⟨(f:Int),2,-1,0,B⟩]else [])
def XC(c:Int×Int)(f:Nat):(Ey c f).length<=2:=by unfold Ey;cases AZ c f 1<;>cases AZ c f 2<;>simp
def Asy(hc:Ln c)(hf:f<32){out:List U}(ho:out.length<=1000):OG (((),out,(f:Int),(1:Int),()),((c.1,c.2,()),()))=C (((),out++Ey c f,(f:Int),()),((c.1,c.2,()),())):=by
 have b1:∀(l:List U) (e:U),l.length<=1001->aI (l.length+[e].length) 2147483648=E:=λl e h=>Ah (by rw[a8_];omega);have r:∀(l:List U) (d:Int),l.length<=1001->(d=1\/d=2)->OT l (f:Int) d c.1 c.2=C (.inl (((),l++(bif AZ c f d then [⟨(f:Int),d,-1,0,B⟩]else []),(f:Int),d+1,()),((c.1,c.2,()),()))):=λl d hl hd=>by
  unfold OT;rw[V (ω:d<=2),Agz hc hf hd,Ad (n:=d+1) ω ω];simp only[O,J,b1 l _ hl];cases AZ c f d
  .simp
  .rfl
 have h:Bx (λx=>OT x.1.2.1 x.1.2.2.1 x.1.2.2.2.1 x.2.1.1 x.2.1.2.1) 3 (((),out,(f:Int),(1:Int),()),((c.1,c.2,()),()))=C (((),out++Ey c f,(f:Int),()),((c.1,c.2,()),())):=by
  refine(AM (r out 1 ω (.inl rfl))).trans ?_;refine(AM (r _ 2 ?_ (.inr rfl))).trans ?_
  .rw[h_];cases AZ c f 1<;>simp<;>omega
  .rw[M_];exact At rfl
 exact Af h ω
def KD(c:Int×Int):List U:=(aT 0 32).flatMap (Ey c)
def Agp:p∈(Ey c f).map Ew↔p.1=(f:Int)/\(p.2=1\/p.2=2)/\AZ c f p.2=E:=by
 obtain⟨a,d⟩:=p;unfold Ey;rw[List.map_append,u_];have h:∀D:Int,(a,d)∈(bif AZ c f D then [aQ (f:Int) D (-1) 0 B]else []).map Ew↔a=(f:Int)/\d=D/\AZ c f D=E:=λD=>by cases AZ c f D<;>simp[Ew]
 rw[h,h];constructor
 .rintro(⟨h1,rfl,h3⟩|⟨h1,rfl,h3⟩)
  .exact⟨h1,.inl rfl,h3⟩
  .exact⟨h1,.inr rfl,h3⟩
 .rintro⟨h1,h2,h3⟩;simp only at h1 h2 h3;rcases h2 with rfl|rfl
  .exact .inl ⟨h1,rfl,h3⟩
  .exact .inr ⟨h1,rfl,h3⟩
def mem_range{i k:Nat}:p∈((aT i k).flatMap (Ey c)).map Ew↔∃f:Nat,(i<=f/\f<i+k)/\p.1=(f:Int)/\(p.2=1\/p.2=2)/\AZ c f p.2=E:=by
 constructor
 .intro h;obtain⟨e,he,rfl⟩:=b2_.1 h;obtain⟨f,hf,he⟩:=b4_.1 he;exact⟨f,List.mem_range'_1.1 hf,Agp.1 (b2_.2 ⟨e,he,rfl⟩)⟩
 .rintro⟨f,hf,h⟩;obtain⟨e,he,h2⟩:=b2_.1 (Agp.2 h);exact b2_.2 ⟨e,b4_.2 ⟨f,List.mem_range'_1.2 hf,he⟩,h2⟩
def Pa(a c:Int×Int):Int×Int:=(vb (bv a.1&&&bv c.1),vb (bv a.2&&&bv c.2))
def Ad2(a c:Int×Int):Ln (Pa a c):=⟨HN _,HN _⟩
def VX(a c:Int×Int):Oc a.1 a.2 c.1 c.2=C (((),()),(((Pa a c).1,(Pa a c).2,()),())):=by unfold Oc;rw[Ame,Ame];rfl
def ZJ(a c:Int×Int)(f:Nat)(d:Int):AZ (Pa a c) f d=(AZ a f d&&AZ c f d):=by unfold AZ Pa;simp only[TM,bG];cases d==1<;>cases d==2<;>rfl
def isZ(c:Int×Int):Bool:=(c.1==0)&&((c.2==0)&&E)
def Bgk(hc:Ln c):isZ c=E↔∀f:Nat,f<32->∀d:Int,(d=1\/d=2)->AZ c f d=B:=by
 constructor
 .intro h f _ d _;unfold isZ at h;simp only[e_,a3_]at h;obtain⟨h1,h2,_⟩:=h;rw[show c=(0,0)from Prod.ext h1 h2,Rg]
 .intro h
  have:c=(0,0):=Ajf hc Ae3 λf hf d hd=>by rw[h f hf d hd,Rg]
  rw[this];rfl
def Ava(hc:Ln c){F D:Int}(hF:0<=F/\F<32)(hD:D=1\/D=2):Ek c.1 c.2 F D=C ((AZ c F.toNat D,()),()):=by have h:=Agz hc (f:=F.toNat) ω hD;rw[Int.toNat_of_nonneg hF.1]at h;exact h
def Dg(b:Bldg):Int×Int:=(aC aF (aC aF (1*2^min (aE (b.D0-1)) (IntKind.bits .u32))-1),aF.wrap (aC aF (aC aF (1*2^min (aE (b.D0-1)) (IntKind.bits .u32))-1)*2^min (aE (1:Int)) (IntKind.bits .u32)))
def Al0(n:Nat):Int:=aF.wrap (aC aF (1*2^min n (IntKind.bits .u32))-1)
def Bcq:((List.range 9).all λn=>(List.range 32).all λi=>(CQ (Al0 n) i==decide (i<n))&&(CQ (aC aF (Al0 n*2^min (aE 1) (IntKind.bits .u32))) i==(aD (1<=i)&&decide (i<=n))))=E:=κ
def Anz(b:Bldg):Ln (Dg b):=by
 have k:∀n:Int,0<=aF.wrap n/\aF.wrap n<4294967296:=λn=>by simp only[aC,IntKind.signed,IntKind.bits];simp;omega
 exact⟨k _,k _⟩
def XO(hb:b.small)(hcode:b.code=0)(hf:f<32)(hd:d=1\/d=2):AZ (Dg b) f d=Ak b (f:Int) d:=by
 have Z:=hb.lo;have hi:=hb.hi;have t:=C_.1 (C_.1 Bcq (b.D0-1).toNat (List.mem_range.2 ω)) f (List.mem_range.2 hf);rw[e_,a3_,a3_]at t;unfold Ak Fq;rw[hcode];rcases hd with rfl|rfl
 .have e:AZ (Dg b) f 1=CQ (Al0 (b.D0-1).toNat) f:=rfl;rw[e,t.1];unfold inR;rw[V (ω:(0:Int)<=(f:Int))];by_cases g:f<(b.D0-1).toNat
  .rw[V g,V (ω:(f:Int)<=b.D0-2)];rfl
  .rw[W g,W (ω:¬(f:Int)<=b.D0-2)];rfl
 .have e:AZ (Dg b) f 2=CQ (aC aF (Al0 (b.D0-1).toNat*2^min (aE 1) (IntKind.bits .u32))) f:=rfl;rw[e,t.2];unfold inR;by_cases g:1<=f
  .rw[V g,V (ω:(1:Int)<=(f:Int))];by_cases g':f<=(b.D0-1).toNat
   .rw[V g',V (ω:(f:Int)<=b.D0-1)];rfl
   .rw[W g',W (ω:¬(f:Int)<=b.D0-1)];rfl
  .rw[W g,W (ω:¬(1:Int)<=(f:Int))];rfl
def XN(b:Bldg)(i:Nat)(s:Int×Int):Int×Int:=(bif Ak b (i:Int) 1 then orC s.1 (VV (i:Int))else s.1,bif Ak b (i:Int) 2 then orC s.2 (VV (i:Int))else s.2)
def QE(hb:b.small)(hcode:b.code=0):Jf b.D0 b.E0 b.J0 b.O0 b.L0 b.N0 b.P0 b.B0=C (((),()),(((Dg b).1,(Dg b).2,()),())):=by
 have h:=AN (step:=λx=>letI a:=x.2.1.2.2;letI c:=a.2.2;Im x.1.2.2.2.1 x.2.1.1 x.2.1.2.1 a.1 a.2.1 c.1 c.2.1 c.2.2.1 c.2.2.2.1 x.2.2.1.1 x.2.2.1.2.1 x.2.2.2.1.1 x.2.2.2.1.2.1) 32 (λi (s:Int×Int)=>(((),(),(),(i:Int),()),(b.tup,((0:Int),(0:Int),()),(s.1,s.2,()),()))) (XN b)
  (λi s=>Ln s/\∀f:Nat,f<32->∀d:Int,(d=1\/d=2)->AZ s f d=(aD (f<i)&&Ak b (f:Int) d)) (λs=>(((),(),()),(((0:Int),(0:Int),()),(s.1,s.2,()),()))) (λi s hi hs=>by
  have w:aS.wrap (i:Int)=(i:Int):=ET ω ω;have hp:∀j,CQ (VV (i:Int)) j=decide (j=i):=λj=>Arj (k:=i) hi j;refine⟨?_,⟨?_,?_⟩,λf hf d hd=>?_⟩
  .show Im (i:Int) b.D0 b.E0 b.J0 b.O0 b.L0 b.N0 b.P0 b.B0 0 0 s.1 s.2=_;unfold Im XN;rw[Ep hb,V (ω:(i:Int)<32)];simp only[J,O,w,V (ω:(0:Int)<=(i:Int)),Bd1];cases Ak b (i:Int) 1 with
   |true=>simp only[O,J,Ep hb,w,V (ω:(0:Int)<=(i:Int)),Ad (n:=(i:Int)+1) ω ω];cases Ak b (i:Int) 2<;>rfl
   |false=>simp only[H,J,Ep hb,w,V (ω:(0:Int)<=(i:Int)),O,Ad (n:=(i:Int)+1) ω ω];cases Ak b (i:Int) 2<;>rfl
  .unfold XN;cases Ak b (i:Int) 1
   .exact hs.1.1
   .exact HN _
  .unfold XN;cases Ak b (i:Int) 2
   .exact hs.1.2
   .exact HN _
  .have hk:=hs.2 f hf d hd;have dk:decide (f<i+1)=(aD (f<i)||decide (f=i)):=by
    rw[Bool.eq_iff_iff,b0_,R_,R_,R_];omega
   rw[dk];rcases hd with rfl|rfl
   .have e:AZ (XN b i s) f 1=CQ (bif Ak b (i:Int) 1 then orC s.1 (VV (i:Int))else s.1) f:=rfl;have hk':CQ s.1 f=_:=hk;rw[e];cases hc:Ak b (i:Int) 1 with
    |true=>
     rw[O];unfold orC;rw[TM,bH];show(CQ s.1 f||CQ (VV (i:Int)) f)=_;rw[hk',hp];by_cases g:f=i
     .subst g;rw[hc];simp
     .rw[W g];simp
    |false=>
     rw[H,hk'];by_cases g:f=i
     .subst g;rw[hc];simp
     .rw[W g];simp
   .have e:AZ (XN b i s) f 2=CQ (bif Ak b (i:Int) 2 then orC s.2 (VV (i:Int))else s.2) f:=rfl;have hk':CQ s.2 f=_:=hk;rw[e];cases hc:Ak b (i:Int) 2 with
    |true=>
     rw[O];unfold orC;rw[TM,bH];show(CQ s.2 f||CQ (VV (i:Int)) f)=_;rw[hk',hp];by_cases g:f=i
     .subst g;rw[hc];simp
     .rw[W g];simp
    |false=>
     rw[H,hk'];by_cases g:f=i
     .subst g;rw[hc];simp
     .rw[W g];simp) (λs _=>by
  show Im 32 b.D0 b.E0 b.J0 b.O0 b.L0 b.N0 b.P0 b.B0 0 0 s.1 s.2=_;unfold Im;rw[show decide ((32:Int)<32)=B from rfl];rfl) 32 0 (0,0) ω ⟨Ae3,λf _ d _=>by rw[Rg];simp⟩
 have h':=Af h.1 ω;have hall:Cr (XN b) 32 0 (0,0)=Dg b:=Ajf h.2.1 (Anz b) λf hf d hd=>by rw[h.2.2 f hf d hd,XO hb hcode hf hd,V hf,l_]
 rw[hall]at h';unfold Jf;simp only[Bldg.tup]at h';rw[show Tw (((),(),(),(0:Int),()),((b.D0,b.E0,b.J0,b.O0,b.L0,b.N0,b.P0,b.B0,()),((0:Int),(0:Int),()),((0:Int),(0:Int),()),()))=_ from h'];rfl
def Eh(b:Bldg)(v:View):Int×Int:=bif v.L2 then Pa (v.I2,v.X1) (Dg b)else(0,0)
def At0(b:Bldg)(v:View):Ln (Eh b v):=by
 unfold Eh;cases v.L2
 .exact Ae3
 .exact Ad2 _ _
def YU(hb:b.small)(hcode:b.code=0)(v:View):KU b.D0 b.E0 b.J0 b.O0 b.L0 b.N0 b.P0 b.B0 v.O2 v.L2 v.N2 v.B3 v.C0 v.G0 v.X2 v.I2 v.X1 v.D2 v.G1 v.D1=C (((),()),(((Eh b v).1,(Eh b v).2,()),())):=by
 unfold KU Eh;cases v.L2 with
 |false=>rfl
 |true=>rw[QE hb hcode];simp only[m_,H,J,O];rw[VX (v.I2,v.X1) (Dg b)];rfl
def VY(hc:Ln c):Od c.1 c.2=C ((KD c,()),()):=by
 have h:=AN (step:=λx=>OS x.1.2.1 x.1.2.2.1 x.2.1.1 x.2.1.2.1) 32 (λf out=>(((),out,(f:Int),()),((c.1,c.2,()),()))) (λf out=>out++Ey c f) (λf out=>out.length<=2*f) (λout=>((out,()),())) (λf out hf ho=>by
  have:=XC c f
  refine⟨?_,by rw[h_];omega⟩;show OS out (f:Int) c.1 c.2=_;unfold OS;rw[V (ω:(f:Int)<32),Asy hc hf ω];simp only[O,J,Ad (n:=(f:Int)+1) ω ω];rfl) (λout _=>rfl) 32 0 [] ω σ
 have h':=Af h.1 ω;rw[IX,y_]at h';unfold Od;rw[show OF (((),([]:List U),(0:Int),()),((c.1,c.2,()),()))=_ from h'];rfl
end Go.Ovl
