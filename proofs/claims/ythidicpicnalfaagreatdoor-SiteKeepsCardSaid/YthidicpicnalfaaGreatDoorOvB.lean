import Derived.Test.YthidicpicnalfaaGreatDoorOvA
import Derived.Test.YthidicpicnalfaaGreatDoorDefs4
set_option linter.all false
set_option maxRecDepth 100000
open Go.Ovl.Sat renaming ret->A,bic->C,bindS->U,bifT->aE,bindE->aJ,bifF->aS,loop->bA
open Bool renaming true->B,false->H,not_false->bD
open Go.IntKind renaming wrap->I,i64->R,u64->aB,u32->aH,u16->aM,u8->aN
open Option renaming some->J,bind->bC
open Go.Ovl renaming Bldg->O,noE->W,Aa->Z,Entry->aA,Sat->aC,View->aD,Record->aF,Img->aI,inR->aK,CarInput->aQ,Calls->aT
open Go renaming a_->V
open Int renaming toNat->aG,tmod->aO,fdiv->aR,tdiv->aV,lt_of_lt_of_le->bE
open Min renaming min->aL
open BitVec renaming ofInt->aP,toNat->aX
open List renaming replicate->aU,range->aW,getD->bB,cons_append->bG,singleton_append->bH
open Go.Ovl.Entry renaming mk->aY
open Go.Ovl.Record renaming mk->aZ
namespace Go.Ovl
open Go Go.Ab
variable{b:O}{s:ByteArray}{i k car t:Nat}{e:aA}{xs:List Int}{vs:List aD}{α:Type}{n fl D time f d:Int}{m:aI}{l:List aF}{E es:List aA}{c:Int×Int}{calm:List Bool}{r:aF}{x:NewCar}{fr:Bool}
def Qt(T a b j ra rt:Int):Prop:=(a=0/\j=2)\/(a=2/\j=1)\/(a=1/\(j=1\/(j=0/\ra=1/\b+rt<=T-1)))\/(a=3/\(j=2\/(j=0/\ra=2/\b+rt<=T-1)))
def DoorC(T j ra rt a b c:Int):Prop:=(a=0/\c=0/\j=2)\/(a=2/\c=0/\j=1)\/(a=1/\c=3/\j≠1/\((b=0/\(j=0->rt<=T))\/(j=0/\ra=1/\0<=b/\b+rt<=T)))\/(a=3/\(c=4\/c=5)/\j≠2/\((b=0/\(j=0->rt<=T))\/(j=0/\ra=2/\0<=b/\b+rt<=T)))
def Af5(h:0<=n/\n<1000000):up1 n=n+1:=by unfold up1;rw[Z ω ω,c_ ω];rfl
def Axa{T:Int}(c0 c1 Y X c4 S v P:Int){a b c:Int}{n:Bool}{e o ra rt:Int}(hD:D5 a b c n e)(hI:Qt T a b o ra rt)(hr:o=0->1<=rt)(hT:1<=T/\T<=10000)(g h:Bool):aC (Ll c0 c1 Y X c4 T S v P a b c n e o g h) λy=>DoorC T o ra rt y.2.1.1 y.2.1.2.1 y.1.2.1:=by
 obtain⟨r,h1,h2⟩:=Qf a b c n e;have h4:r=B:=h2.2 hD;subst h4;have h5:0<=b/\b<=1000000:=by unfold D5 at hD;omega
 unfold Qt at hI;unfold Ll;refine U (Q:=λy=>y=((o,g,h,(),(),(),()),((c0,c1,Y,X,c4,T,S,v,P,()),(a,b,c,n,e,()),((0:Int),(0:Int),(0:Int),H,(0:Int),()),()))) (aJ h1<|aS rfl<|A rfl) λy p=>?_;subst p;refine C (λq=>?_) λq=>?_
 .have q:a=0:=eq_of_beq q;refine C (λ_=>A ?_) λ_=>A ?_
  .exact .inr<|.inr<|.inl ⟨rfl,rfl,ω,.inl ⟨rfl,ω⟩⟩
  .exact .inl ⟨q,rfl,ω⟩
 have q:a≠0:=λe=>by have q:(a==0)=H:=q;rw[e]at q;cases q
 refine aJ (OY ..) ?_;generalize(bif c !=0 then up1 c else c)=c';refine U (Q:=λy=>∃w:Bool,y=((o,g,(),(),(),decide<|v<c',w,()),((c0,c1,Y,X,c4,T,S,v,P,()),(a,b,c',n,e,()),((0:Int),(0:Int),(0:Int),H,(0:Int),()),()))/\(w=B↔a=1/\o=1)) (C (λj=>A ⟨o==1,rfl,?_⟩) λj=>A ⟨H,rfl,?_⟩) λy p=>?_
 .have j:a=1:=eq_of_beq j;rw[I_];exact⟨λz=>⟨j,z⟩,λz=>z.2⟩
 .have j:a≠1:=λe=>by have q:(a==1)=H:=j;rw[e]at q;cases q
  exact⟨λz=>(by cases z),λz=>absurd z.1 j⟩
 obtain⟨w1,rfl,h0⟩:=p;refine C (λj=>aJ rfl<|A ?_) λj=>?_
 .exact .inr<|.inl ⟨rfl,rfl,(h0.1 j).2⟩
 have j:¬(a=1/\o=1):=λz=>by have:=h0.2 z;have j:w1=H:=j;rw[j]at this;cases this
 refine U (Q:=λy=>∃w:Bool,y=((g,(),(),(),decide<|v<c',w,()),((c0,c1,Y,X,c4,T,S,v,P,()),(a,b,c',n,e,()),((0:Int),(0:Int),(0:Int),H,(0:Int),()),()))/\(w=B↔a=3/\o=2)) (C (λj=>A ⟨o==2,rfl,?_⟩) λj=>A ⟨H,rfl,?_⟩) λy p=>?_
 .have j:a=3:=eq_of_beq j;rw[I_];exact⟨λz=>⟨j,z⟩,λz=>z.2⟩
 .have j:a≠3:=λe=>by have q:(a==3)=H:=j;rw[e]at q;cases q
  exact⟨λz=>(by cases z),λz=>absurd z.1 j⟩
 obtain⟨w2,rfl,h3⟩:=p;refine C (λq2=>A ?_) λq2=>?_
 .exact .inl ⟨rfl,rfl,(h3.1 q2).2⟩
 have q2:¬(a=3/\o=2):=λz=>by have:=h3.2 z;have j:w2=H:=q2;rw[j]at this;cases this
 refine U (Q:=λy=>∃w:Bool,y=((g,(),(),(),decide<|v<c',w,()),((c0,c1,Y,X,c4,T,S,v,P,()),(a,b,c',n,e,()),((0:Int),(0:Int),(0:Int),H,(0:Int),()),()))/\(w=B->a=3)) (C (λq3=>C (λ_=>A ⟨_,rfl,λ_=>eq_of_beq q3⟩) λ_=>A ⟨_,rfl,λz=>by cases z⟩) λ_=>A ⟨_,rfl,λz=>by cases z⟩) λy p=>?_;obtain⟨w,rfl,hw⟩:=p;have st:∀m:Int,Ln a b c' n e m=J (((),m,()),((a,up1 b,c',n,e,()),())):=λm=>by unfold Ln;rw[Mi];rfl
 refine C (λq3=>aJ (st 5)<|A ?_) λq3=>C (λq4=>aJ rfl<|A ?_) λq4=>C (λu=>aJ (st 3)<|A ?_) λu=>C (λN=>?_) λN=>C (λq7=>aJ (Mi e)<|aJ rfl<|A ?_) λq7=>aJ (st 4)<|A ?_
 .have:=hw q3
  have e1:up1 b=b+1:=Af5 ω;exact .inr<|.inr<|.inr ⟨this,.inr rfl,ω,.inr ⟨ω,ω,by show 0<=up1 b;omega,by show up1 b+rt<=T;omega⟩⟩
 .exact .inr<|.inr<|.inr ⟨rfl,.inr rfl,ω,.inl ⟨rfl,ω⟩⟩
 .have u:a=1:=eq_of_beq u;have e1:up1 b=b+1:=Af5 ω;exact .inr<|.inr<|.inl ⟨u,rfl,ω,.inr ⟨ω,ω,by show 0<=up1 b;omega,by show up1 b+rt<=T;omega⟩⟩
 .have N:a=2:=eq_of_beq N;refine U (Q:=λy=>∃w:Bool,y=(((),(),w,()),((a,b,c',n,e,()),((0:Int),(0:Int),(0:Int),H,(0:Int),()),()))) (C (λ_=>A ⟨_,rfl⟩) λ_=>A ⟨_,rfl⟩) λy p=>?_;obtain⟨w3,rfl⟩:=p;refine C (λ_=>aJ rfl<|A ?_) λ_=>aJ (st 0)<|A ?_
  .exact .inr<|.inr<|.inr ⟨rfl,.inl rfl,ω,.inl ⟨rfl,ω⟩⟩
  .exact .inr<|.inl ⟨N,rfl,ω⟩
 .have u:a≠1:=λe=>by have q:(a==1)=H:=u;rw[e]at q;cases q
  have N:a≠2:=λe=>by have q:(a==2)=H:=N;rw[e]at q;cases q
  exact .inr<|.inr<|.inl ⟨rfl,rfl,ω,.inl ⟨rfl,ω⟩⟩
 .have u:a≠1:=λe=>by have q:(a==1)=H:=u;rw[e]at q;cases q
  have N:a≠2:=λe=>by have q:(a==2)=H:=N;rw[e]at q;cases q
  have e1:up1 b=b+1:=Af5 ω;exact .inr<|.inr<|.inr ⟨show a=3 by omega,.inl rfl,ω,.inr ⟨ω,ω,by show 0<=up1 b;omega,by show up1 b+rt<=T;omega⟩⟩
def Adl(c f:Int):Int:=bif c==1 then f+1 else f-1
def Al7{c:Int}(h:fl<=8)(hf:0<=f/\f<fl):∃t o,Ef fl f c=J ((t,o,()),())/\(o=B↔(c=1/\f+1<fl)\/(c=2/\0<f))/\(o=B->t=Adl c f):=by
 unfold Ef Adl;by_cases c1:c=1
 .subst c1;have e:R.wrap (f+bB [(0:Int),1,-1] (aG 1) 0)=f+1:=Z (ω:(-9223372036854775808:Int)<=f+1) (ω:f+1<9223372036854775808);refine⟨f+1,decide<|f+1<fl,?_,⟨λz=>.inl ⟨rfl,k_ z⟩,λz=>V ω⟩,λ_=>rfl⟩;show bC (bif decide (0<=R.wrap (f+bB [(0:Int),1,-1] (aG 1) 0))then _ else _) _=_;rw[e,V (ω:0<=f+1)];rfl
 .rw[FT c1];by_cases a:c=2
  .subst a;have e:R.wrap (f+bB [(0:Int),1,-1] (aG 2) 0)=f+ -1:=Z (ω:(-9223372036854775808:Int)<=f+ -1) (ω:f+ -1<9223372036854775808);refine⟨f-1,decide<|0<f,?_,⟨λz=>.inr ⟨rfl,k_ z⟩,λz=>V ω⟩,λ_=>rfl⟩;show bC (bif decide (0<=R.wrap (f+bB [(0:Int),1,-1] (aG 2) 0))then _ else _) _=_;rw[e];by_cases g:0<f
   .rw[V (ω:0<=f+ -1),V g,i_];show J ((f+ -1,decide<|f+ -1<fl,()),())=_;rw[V (ω:f+ -1<fl)];rfl
   .rw[c_ (ω:¬0<=f+ -1),c_ g];rfl
  .rw[FT a];exact⟨0,H,rfl,⟨λz=>(by cases z),λz=>by omega⟩,λz=>by cases z⟩
def An9(h:2<=fl/\fl<=8){c t:Int}(hm:M3 fl c t f){g:Int}(hg:0<=g/\g<fl)(l:Bool)(d:Int)(k:Bool)(w:Int):aC (La fl c t f g l d k w) λy=>
  (c≠0->(l=B/\g=Adl c f/\y=(((),(0:Int),B,()),(((0:Int),(0:Int),(0:Int),()),())))\/(¬(l=B/\g=Adl c f)/\y=(((),c,H,()),((c,up1 t,f,()),()))))/\
  (c=0->l=B->y=(((),(0:Int),H,()),(((0:Int),(0:Int),(0:Int),()),()))\/(((w=1/\g+1<fl)\/(w=2/\0<g))/\y=(((),w,H,()),((w,(0:Int),g,()),())))):=by
 unfold La;obtain⟨r,h1,h2⟩:=TG h c t f;have hr:r=B:=h2.2 hm;subst hr;have hf:0<=f/\f<fl:=by rcases hm.2.2 with q|q|q<;>omega
 obtain⟨S,o1,e1,X,P⟩:=Al7 (c:=c) h.2 hf;refine aJ h1<|aS rfl<|aS (c_ ω)<|aS (c_ ω)<|aJ e1 ?_;have p:o1=B↔c≠0:=by rw[X];rcases hm.2.2 with q|q|q<;>omega
 refine U (Q:=λy=>∃v:Bool,y=((fl,w,(),(),(),o1,v,()),((c,t,f,()),(g,l,d,k,()),((0:Int),(0:Int),(0:Int),()),()))/\(v=B↔o1=B/\l=B/\g=S)) ?_ λy N=>?_
 .refine C (λq=>C (λa=>A ⟨g==S,rfl,?_⟩) λa=>A ⟨H,rfl,?_⟩) λq=>A ⟨H,rfl,?_⟩
  .rw[I_];exact⟨λz=>⟨q,a,z⟩,λz=>z.2.2⟩
  .exact⟨λz=>(by cases z),λz=>by rw[z.2.1]at a;cases a⟩
  .exact⟨λz=>(by cases z),λz=>by have q:o1=H:=q;rw[q]at z;cases z.1⟩
 obtain⟨v,rfl,hv⟩:=N;refine C (λq=>A ⟨λ_=>.inl ?_,λj=>?_⟩) λq=>?_
 .obtain⟨k1,Y,k3⟩:=hv.1 q;exact⟨Y,k3.trans<|P k1,rfl⟩
 .exact absurd j<|p.1 (hv.1 q).1
 have q:v=H:=q;refine U (Q:=λy=>∃u:Bool,y=((fl,w,(),(),(),u,()),((c,t,f,()),(g,l,d,k,()),((0:Int),(0:Int),(0:Int),()),()))/\((o1=B/\u=B)\/(o1=H/\u=!l))) (C (λa=>A ⟨B,rfl,.inl ⟨a,rfl⟩⟩) λa=>A ⟨!l,rfl,.inr ⟨a,rfl⟩⟩) λy N=>?_;obtain⟨u,rfl,hu⟩:=N;rcases hu with⟨a,rfl⟩|⟨a,rfl⟩
 .refine aE rfl<|A ⟨λ_=>.inr ⟨λz=>?_,rfl⟩,λj=>absurd j<|p.1 a⟩
  have:=hv.2 ⟨a,z.1,z.2.trans (P a).symm⟩
  rw[q]at this;cases this
 .have j:c=0:=Decidable.byContradiction λz=>by have:=p.2 z;rw[a]at this;cases this
  obtain⟨b2,o2,e2,i2,j2⟩:=Al7 (c:=w) h.2 hg;refine C (λo=>A ⟨λz=>absurd j z,λ_ l1=>?_⟩) λo=>aJ e2 (C (λq4=>A ⟨λz=>absurd j z,λ_ _=>.inr ⟨i2.1 q4,rfl⟩⟩) λ_=>A ⟨λz=>absurd j z,λ_ _=>.inl rfl⟩);have o:(!l)=B:=o;rw[l1]at o;cases o
structure RigI(T S:Int)(x:NewCar)(r:Rig):Prop where
 dr:Qt T x.U0 x.I1 r.Y0 r.Z3 r.G3
 mt:(Mz x/\r.Y1=0)\/((x.N0=1\/x.N0=2)/\r.R2=Adl x.N0 x.S0/\r.Y0=2/\x.U0=0/\0<=x.W0/\((r.Y1=0/\x.W0<=S-1)\/(r.D0=x.S0/\x.W0+r.Y1<=S-1)))
def CmdQ(fl T S:Int)(x:NewCar)(r:Rig)(c:Int):Prop:=
 (Mz x/\r.Y1=0/\DoorC T r.Y0 r.Z3 r.G3 x.U0 x.I1 c)\/
 (x.U0=0/\r.Y0=2/\x.N0=c/\(c=1\/c=2)/\((r.Y1=0/\r.D0=x.S0/\x.W0=0/\((c=1/\r.D0+1<fl)\/(c=2/\0<r.D0)))\/(r.Y1≠0/\r.D0=x.S0/\r.R2=Adl c x.S0/\0<=x.W0/\x.W0+r.Y1<=S)))
def CmdQ.quiet{T S:Int}{r:Rig}{c:Int}(h:CmdQ fl T S x r c)(j:RigOK fl r)(v:1<=T)(w:1<=S):(x.U0=1\/x.U0=3->x.I1<=T)/\x.W0<=S:=by
 have u:=j.dr;rcases h with⟨h1,q,o⟩|⟨h1,q,o,y,a⟩
 .refine⟨λp=>?_,by have:=h1.2.1;omega⟩;rcases o with k|k|⟨_,_,_,k|k⟩|⟨_,_,_,k|k⟩<;>omega
 .refine⟨λp=>by omega,?_⟩;rcases a with a|a
  .omega
  .by_cases e:r.D0=r.R2
   .exact absurd (j.eq e) a.1
   .have:=(j.ne e).1
    omega
def DoorC.opens{T j ra rt a b:Int}(h:DoorC T j ra rt a b 3)(v:1<=time/\time<=T):j≠1/\∀d z k o:Int,((j=0/\ra=1/\o=rt-1)\/(¬(j=0/\ra=1)/\o=time-1))->((o=0/\d=1/\z=0/\k=0)\/(o≠0/\d=0/\z=1/\k=o))->Qt T a b d z k:=by
 have k:a=1/\j≠1/\((b=0/\(j=0->rt<=T))\/(j=0/\ra=1/\0<=b/\b+rt<=T)):=by
  rcases h with⟨_,h,_⟩|⟨_,h,_⟩|⟨h1,_,q⟩|⟨_,h,_⟩
  .cases h
  .cases h
  .exact⟨h1,q⟩
  .omega
 refine⟨k.2.1,λd z k1 o u p=>.inr<|.inr<|.inl ⟨k.1,?_⟩⟩;rcases p with p|p
 .exact .inl p.2.1
 .refine .inr ⟨p.2.1,p.2.2.1,?_⟩;have k:=k.2.2;clear h;rcases k with k|k<;>omega
def DoorC.closes{T j ra rt a b c:Int}(h:DoorC T j ra rt a b c)(u:c=4\/c=5)(w:1<=time/\time<=T):j≠2/\∀d z k o:Int,((j=0/\ra=2/\o=rt-1)\/(¬(j=0/\ra=2)/\o=time-1))->((o=0/\d=2/\z=0/\k=0)\/(o≠0/\d=0/\z=2/\k=o))->Qt T a b d z k:=by
 have k:a=3/\j≠2/\((b=0/\(j=0->rt<=T))\/(j=0/\ra=2/\0<=b/\b+rt<=T)):=by
  rcases h with⟨_,h,_⟩|⟨_,h,_⟩|⟨_,h,_⟩|⟨h1,_,q⟩
  .omega
  .omega
  .omega
  .exact⟨h1,q⟩
 refine⟨k.2.1,λd z k1 o v p=>.inr<|.inr<|.inr ⟨k.1,?_⟩⟩;rcases p with p|p
 .exact .inl p.2.1
 .refine .inr ⟨p.2.1,p.2.2.1,?_⟩;have k:=k.2.2;clear h;rcases k with k|k<;>omega
def DoorC.rests{T o ra rt a b c:Int}(h:DoorC T o ra rt a b c)(q:c≠3)(u:c≠4)(p:c≠5):(o=1\/o=2)/\∀z k,Qt T a b o z k:=by
 rcases h with⟨h1,_,j⟩|⟨h1,_,j⟩|⟨_,h,_⟩|⟨_,h,_⟩
 .exact⟨.inr j,λ_ _=>.inl ⟨h1,j⟩⟩
 .exact⟨.inl j,λ_ _=>.inr<|.inl ⟨h1,j⟩⟩
 .exact absurd h q
 .exact(h.elim u p).elim
section
variable{fl:Int}(hl:2<=fl/\fl<=8){r:Rig}(h:RigOK fl r)
include h
theorem Au3{to:Int}(hr:r.Y0≠to)(h0:to=1\/to=2)(ht:1<=time/\time<=10000):aC (KD r.D0 r.R2 r.Y1 r.Y0 r.Z3 r.G3 to time) λy=>∃d a k,y.2.1=Hw (Rig.mk r.D0 r.R2 r.Y1 d a k)/\∃j:Int,((r.Y0=0/\r.Z3=to/\j=r.G3-1)\/(¬(r.Y0=0/\r.Z3=to)/\j=time-1))/\((j=0/\d=to/\a=0/\k=0)\/(j≠0/\d=0/\a=to/\k=j)):=by
 have hd:=h.dr;unfold KD;refine U (Q:=λy=>∃w j,y=.inl ((to,(),(),()),((r.D0,r.R2,r.Y1,0,to,j,()),w))/\((r.Y0=0/\r.Z3=to/\j=r.G3-1)\/(¬(r.Y0=0/\r.Z3=to)/\j=time-1))) ?_ λy hy=>?_
 .refine aS (Ao ω)<|aS (Ao hr) ?_;refine U (Q:=λy=>∃(v:Bool),y.2.1=Hw r/\y.1.1=to/\y.1.2.1=time/\y.1.2.2.2.2.1=v/\(v=B↔r.Y0=0/\r.Z3=to)) (C (λq=>A ⟨r.Z3==to,rfl,rfl,rfl,rfl,?_⟩) λq=>A ⟨H,rfl,rfl,rfl,rfl,?_⟩) ?_
  .have q:r.Y0=0:=eq_of_beq q;rw[I_];exact⟨λz=>⟨q,z⟩,λz=>z.2⟩
  .have q:r.Y0≠0:=λe=>by have q:(r.Y0==0)=H:=q;rw[e]at q;cases q
   exact⟨λz=>(by cases z),λz=>absurd z.1 q⟩
  rintro⟨⟨y1,y2,y3,y4,y5,y6⟩,y7,y8⟩ ⟨v,X,p,o,S,N⟩;change y7=_ at X;change y1=_ at p;change y2=_ at o;change y5=v at S;subst X S;have p:=p.symm;have o:=o.symm;subst p o;refine C (λq=>?_) λq=>A ⟨_,_,rfl,.inr ⟨λz=>?_,Z (n:=time-1) ω ω⟩⟩
  .obtain⟨Y,P⟩:=N.1 q;refine A ⟨y8,R.wrap<|r.G3-1,?_,.inl ⟨Y,P,Z ω ω⟩⟩;rw[<-Y,<-P]
  .have:=N.2 z
   have q:y5=H:=q;rw[q]at this;cases this
 .obtain⟨w,j,rfl,u⟩:=hy;refine C (λq=>A ⟨to,0,j,rfl,j,u,.inl ⟨eq_of_beq q,rfl,rfl,eq_of_beq q⟩⟩) λq=>A ⟨0,to,j,rfl,j,u,.inr ⟨?_,rfl,rfl,rfl⟩⟩;exact λe=>by have q:(j==0)=H:=q;rw[e]at q;cases q
include hl
theorem Beg{T S:Int}(hT:1<=T/\T<=10000)(hS:1<=S/\S<=10000){c:Int}(hc:CmdQ fl T S x r c)(N:1<=time/\time<=T/\time<=S):aC (Jc fl r.D0 r.R2 r.Y1 r.Y0 r.Z3 r.G3 c time) λy=>∃v,y.2.1=Hw v/\RigI T S x v:=by
 have w:R.wrap (fl-1)=fl-1:=Z ω ω;have hf:=h.f;have hd:=h.dr;unfold Jc;refine aJ (Qm hl h)<|aS rfl ?_;simp only[];rw[c_ (ω:¬time<1),j_,c_ (ω:¬10000<time),j_];have nx:∃n,Mx r.D0 r.R2 r.Y1 r.Y0 r.Z3 r.G3 c=J ((n,()),())/\(c=1->n=r.D0+1)/\(c=2->n=r.D0-1)/\(c≠1->c≠2->n=r.D0):=by
  unfold Mx;by_cases c1:c=1
  .subst c1;exact⟨_,rfl,λ_=>Z (n:=r.D0+1) ω ω,λe=>absurd e τ,λe=>absurd rfl e⟩
  .rw[Ao c1,j_];by_cases c2:c=2
   .subst c2;exact⟨_,rfl,λe=>absurd e τ,λ_=>Z (n:=r.D0-1) ω ω,λ_ e=>absurd rfl e⟩
   .rw[Ao c2,j_];exact⟨_,rfl,λe=>absurd e c1,λe=>absurd e c2,λ_ _=>rfl⟩
 obtain⟨n,e,n1,n2,n3⟩:=nx;have arr:∀{f t k:Int},aC (GX f t k 2 r.Z3 r.G3) λy=>y.2.1=Hw (Rig.mk (bif k==0 then t else f) t k 2 r.Z3 r.G3):=λ{f t k}=>by
  unfold GX;cases k==0
  .exact aS rfl<|A rfl
  .exact aE rfl<|A rfl
 refine aJ e (C (λq=>?_) λq=>?_)
 .have q:r.Y1≠0:=by have q:(r.Y1 !=0)=B:=q;simpa using q
  rcases hc with hc|⟨k1,Y,p,k4,k5⟩
  .exact absurd hc.2.1 q
  .obtain⟨_,k6,k7,X,k9⟩:=k5.resolve_left λz=>q z.1;rw[show R.wrap (r.Y1-1)=r.Y1-1 from ?_,Y]
   .refine U arr λy j=>A ⟨_,j,⟨.inl ⟨k1,rfl⟩,.inr ⟨by rw[p];exact k4,by rw[p];exact k7,rfl,k1,X,?_⟩⟩⟩;by_cases z:r.Y1-1=0
    .exact .inl ⟨z,ω⟩
    .refine .inr ⟨?_,by show x.W0+(r.Y1-1)<=_;omega⟩;show(bif r.Y1-1==0 then r.R2 else r.D0)=_;rw[Ao z];exact k6
   .by_cases e:r.D0=r.R2
    .exact absurd (h.eq e) q
    .have:=h.ne e
     exact Z ω ω
 have q:r.Y1=0:=by have q:(r.Y1 !=0)=H:=q;simpa using q
 have hE:r.D0=r.R2:=Decidable.byContradiction λe=>by have:=h.ne e;omega
 rcases hc with⟨k1,_,p⟩|⟨k1,Y,p,k4,k5⟩
 .have nc:c≠1/\c≠2:=by rcases p with k|k|k|k<;>omega
  have en:=n3 nc.1 nc.2;subst en;refine U (Q:=λy=>y=((c,time,(),(),r.D0,H,()),(Hw r,(0,0,0,0,0,0,()),()))) (aS (Q_ _)<|A rfl) λy j=>?_;subst j;have go:∀{to d:Int},r.Y0≠to->(to=1\/to=2)->(∀d a k P:Int,((r.Y0=0/\r.Z3=to/\P=r.G3-1)\/(¬(r.Y0=0/\r.Z3=to)/\P=time-1))->((P=0/\d=to/\a=0/\k=0)\/(P≠0/\d=0/\a=to/\k=P))->Qt T x.U0 x.I1 d a k)->aC (KD r.D0 r.R2 r.Y1 r.Y0 r.Z3 r.G3 to time) λy=>∃v,y.2.1=Hw v/\RigI T S x v:=λ{to d} u o g3=>by refine(Au3 h u o ⟨N.1,ω⟩).mono λy j=>?_;obtain⟨d,a,k,e,P,z1,z2⟩:=j;exact⟨_,e,⟨g3 d a k P z1 z2,.inl ⟨k1,q⟩⟩⟩
  have h0:∀{to:Int},to=0->Qt T x.U0 x.I1 r.Y0 r.Z3 r.G3->aC (KD r.D0 r.R2 r.Y1 r.Y0 r.Z3 r.G3 to time) λy=>∃v,y.2.1=Hw v/\RigI T S x v:=λ{to} u o=>by subst u;exact⟨_,rfl,r,rfl,⟨o,.inl ⟨k1,q⟩⟩⟩
  refine aS rfl ?_;unfold QN;by_cases c3:c=3
  .subst c3;obtain⟨u,o⟩:=p.opens (time:=time) ⟨N.1,N.2.1⟩;exact aJ rfl (U (go (to:=1) (d:=0) u (.inl rfl) o) λy j=>A j)
  .rw[Ao c3,j_];by_cases c5:c=5
   .obtain⟨u,o⟩:=p.closes (.inr c5) (time:=time) ⟨N.1,N.2.1⟩;subst c5;exact aJ rfl (U (go (to:=2) (d:=0) u (.inr rfl) o) λy j=>A j)
   .rw[Ao c5,j_];by_cases c4:c=4
    .obtain⟨u,o⟩:=p.closes (.inl c4) (time:=time) ⟨N.1,N.2.1⟩;subst c4;exact aJ rfl (U (go (to:=2) (d:=0) u (.inr rfl) o) λy j=>A j)
    .rw[Ao c4,j_];obtain⟨u,o⟩:=p.rests c3 c4 c5;exact aJ rfl (U (h0 (by show r.Z3=0;omega)<|o _ _) λy j=>A j)
 .obtain⟨_,k6,k7,X⟩:=k5.resolve_right λz=>z.1 q;have nn:n=Adl c r.D0/\(0<=n/\n<=fl-1)/\n≠r.D0:=by
   rcases X with⟨rfl,X⟩|⟨rfl,X⟩
   .have:=n1 rfl
    exact⟨this,ω,ω⟩
   .have:=n2 rfl
    exact⟨this,ω,ω⟩
  refine U (Q:=λy=>y=((c,time,(),(),n,B,()),(Hw r,(0,0,0,0,0,0,()),()))) (aE (FT nn.2.2)<|aJ (RO ..)<|aE ?_<|A ?_) λy j=>?_
  .show aK 0 (I R<|fl-1) n=B;rw[w];exact Ak.2 nn.2.1
  .rw[show(r.Y0==(2:Int))=B by rw[Y];rfl]
  subst j;refine aE rfl ?_;show aC (bC (GX r.D0 n (I R<|time-1) r.Y0 r.Z3 r.G3) _) _;rw[show R.wrap (time-1)=time-1 from Z ω ω,Y];refine U arr λy j=>A ⟨_,j,⟨.inl ⟨k1,rfl⟩,.inr ⟨by rw[p];exact k4,by rw[p,<-k6];exact nn.1,rfl,k1,ω,?_⟩⟩⟩;by_cases z:time-1=0
  .exact .inl ⟨z,ω⟩
  .refine .inr ⟨?_,by show x.W0+(time-1)<=_;omega⟩;show(bif time-1==0 then n else r.D0)=_;rw[Ao z];exact k6
end
def HP(fl f a j:Int):Prop:=(0<a->f+1<fl)/\(0<j->0<f)
def chF(fl f:Int)(y:Int×Int×Int×Unit):Prop:=(y.1=1->y.2.1=1/\f+1<fl)/\(y.1=2->y.2.1=2/\0<f)
def chF.no{s:Int}(h:n=0\/n=3):chF fl f (n,d,s,()):=⟨λe=>by have e:n=1:=e;omega,λe=>by have e:n=2:=e;omega⟩
def chF.up{s:Int}(h:f+1<fl):chF fl f (1,1,s,()):=⟨λ_=>⟨rfl,h⟩,λe=>absurd e (show ¬1=2 by decide)⟩
def chF.dn{s:Int}(h:0<f):chF fl f (2,2,s,()):=⟨λe=>absurd e (show ¬2=1 by decide),λ_=>⟨rfl,h⟩⟩
def Aao:aC (BL n) λy=>chF fl f y.2.1:=A<|chF.no<|.inr rfl
def Bip{z:Int}(hl:fl<=8)(hf:0<=f/\f<fl)(j:C2 fl z)(h:(aR (aR z<|(2:Int)^(aL (aG f)<|IntKind.bits aH)) ((2:Int)^(aL (aG (1:Int))<|IntKind.bits aH)) !=0)=B):f+1<fl:=by
 by_cases g:f+1<fl
 .exact g
 .obtain rfl:fl=f+1:=ω;obtain⟨h1,a⟩:=j;have e:aR (aR z<|2^(aL (aG f)<|IntKind.bits aH)) (2^(aL (aG 1)<|IntKind.bits aH))=0:=by
   have p:∀k:Nat,(0:Int)<=2^k:=λk=>Int.le_of_lt<|Int.pow_pos τ;rw[H_ _<|p _,H_ _<|p _];have c:f=0\/f=1\/f=2\/f=3\/f=4\/f=5\/f=6\/f=7:=ω;rcases c with rfl|rfl|rfl|rfl|rfl|rfl|rfl|rfl
   .have a:z.toNat<2:=a;show z/1/2=0;omega
   .have a:z.toNat<4:=a;show z/2/2=0;omega
   .have a:z.toNat<8:=a;show z/4/2=0;omega
   .have a:z.toNat<16:=a;show z/8/2=0;omega
   .have a:z.toNat<32:=a;show z/16/2=0;omega
   .have a:z.toNat<64:=a;show z/32/2=0;omega
   .have a:z.toNat<128:=a;show z/64/2=0;omega
   .have a:z.toNat<256:=a;show z/128/2=0;omega
  rw[e]at h;cases h
def Bix{z:Int}(hf:0<=f)(h:(I aH (stk z (I aH<|(I aH<|(1:Int)*((2:Int)^(aL (aG f)<|IntKind.bits aH)))-(1:Int))<|aX<|(aP (IntKind.bits aH) z)&&&(aP (IntKind.bits aH)<|I aH<|(I aH<|(1:Int)*((2:Int)^(aL (aG f)<|IntKind.bits aH)))-(1:Int))) !=0)=B):0<f:=by
 by_cases g:f=0
 .subst g;rw[SG,show aH.wrap _=0 by decide]at h;have e:vb (bv z&&&bv 0)=0:=by rw[show bv 0=0#32 from rfl,BitVec.and_zero];rfl
  rw[e]at h;cases h
 .omega
section
variable{fl f:Int}(hl:2<=fl/\fl<=8)(hf:0<=f/\f<fl)
include hl hf
theorem Beb(d o a b c:Int):aC (EM fl d o f a b c) λy=>HP fl f y.2.1.2.2.2.1 y.2.1.2.2.2.2.1:=by
 have g:=V hf.1;have hA:=C2.all hl;have j:C2 fl<|aR (I aH<|(I aH<|1*(2^(aL (aG fl)<|IntKind.bits aH)))-1)<|2^(aL (aG 1)<|IntKind.bits aH):=by rw[H_ _<|Int.le_of_lt<|Int.pow_pos τ];obtain⟨h1,P⟩:=hA;have e:(2:Int)^(aL (aG 1)<|IntKind.bits aH)=2:=rfl;rw[e];exact⟨ω,ω⟩
 refine aE (V ω) ?_;refine U (Q:=λy=>C2 fl y.2.1.1/\C2 fl y.2.1.2.1) ⟨_,ED (_,_) (_,_),?_⟩ λX h1=>?_
 .refine⟨C2.vb ?_,C2.vb ?_⟩
  .rw[BitVec.toNat_and];exact f0_ Nat.and_le_right j.bv
  .rw[BitVec.toNat_and];exact f0_ Nat.and_le_right hA.andNot.bv
 have p:=((C2.and (x:=a) hA).or h1.1).or h1.2;refine aE g (U (QB _ _ ⟨hf.1,ω⟩<|.inl rfl) λN _=>U (QB _ _ ⟨hf.1,ω⟩<|.inr rfl) λY _=>?_);refine U (Q:=λy=>y.1.1=f/\(0<y.2.2.1.2.2.2.1->f+1<fl)/\y.2.2.1.2.2.2.2.1=0) (aE g (C (λq=>U (Ah7 _) λ_ _=>A ⟨rfl,λ_=>Bip hl.2 hf p q,rfl⟩) λ_=>A ⟨rfl,λh=>absurd h (show ¬(0:Int)<0 by decide),rfl⟩)) λz v=>?_;obtain⟨w,u,S⟩:=v;rw[w];refine aE g (C (λq=>U (Alf _) λ_ _=>A ⟨u,λ_=>Bix hf.1 q⟩) λ_=>A ⟨u,λh=>?_⟩);have h:0<z.2.2.1.2.2.2.2.1:=h;omega
omit hl hf
theorem Bc8{a b c:Bool}{e o:Int}(h:HP fl f d e):aC (Df a b c d e o) λy=>HP fl f y.2.1.2.2.2.1 y.2.1.2.2.2.2.1:=by
 refine U (Q:=λy=>HP fl f y.2.1.2.2.2.1 y.2.1.2.2.2.2.1) ?_ λq h1=>?_
 .refine C (λ_=>?_) λ_=>?_<;>exact C (λ_=>C (λ_=>A h) λ_=>A h) λ_=>C (λ_=>A h) λ_=>A h
 refine U (Q:=λy=>HP fl f y.2.1.2.2.2.1 y.2.1.2.2.2.2.1/\HP fl f y.2.2.1.2.2.2.1 y.2.2.1.2.2.2.2.1) ?_ λp j=>?_
 .refine C (λ_=>?_) λ_=>?_<;>exact C (λ_=>C (λ_=>A ⟨h1,h1⟩) λ_=>A ⟨h1,h1⟩) λ_=>C (λ_=>A ⟨h1,h1⟩) λ_=>A ⟨h1,h1⟩
 exact C (λ_=>A j.2) λ_=>C (λ_=>A j.2) λ_=>C (λ_=>A j.2) λ_=>C (λ_=>A j.2) λ_=>C (λ_=>A j.2) λ_=>A j.1
theorem Bfw{a b c:Bool}{e o:Int}(h:HP fl f d e):aC (Ev a b c d e o) λy=>(y.1.1=1->f+1<fl)/\(y.1.1=2->0<f):=by
 refine U (Q:=λy=>(y.1.2.1=B->f+1<fl)/\y.2.1.2.2.2.2.1=e) ?_ λj h1=>?_
 .exact C (λq=>C (λ_=>A ⟨λ_=>h.1<|k_ q,rfl⟩) λ_=>A ⟨λ_=>h.1<|k_ q,rfl⟩) λ_=>A ⟨(λq=>by cases q),rfl⟩
 refine C (λq=>A ⟨λ_=>h1.1 q,λe=>absurd e τ⟩) λ_=>C (λq=>A ⟨λe=>absurd e τ,λ_=>h.2 ?_⟩) λ_=>A ⟨λe=>absurd e τ,λe=>absurd e τ⟩;have q:=k_ q;omega
theorem Bck{a b c:Bool}{e o:Int}(h:HP fl f d e):aC (Dd a b c d e o) λy=>chF fl f y.2.1:=by
 refine U (Bfw h) λy h=>?_;refine C (λ_=>U Aao λ_ h=>A h) λ_=>C (λ_=>U Aao λ_ h=>A h) λ_=>C (λ_=>U Aao λ_ h=>A h) λ_=>?_;refine C (λq=>A ?_) λ_=>C (λq=>A ?_) λ_=>A<|chF.no<|.inl rfl
 .have q:=eq_of_beq q;rw[q];exact chF.up<|h.1 q
 .have q:=eq_of_beq q;rw[q];exact chF.dn<|h.2 q
theorem Anb{a b c:Bool}{e o:Int}(h:HP fl f d e):aC (Cj a b c d e o) λy=>chF fl f y.2.1:=by
 refine U (Q:=λy=>y.2.1.2.2.2.1=d/\y.2.1.2.2.2.2.1=e) (C (λ_=>A ⟨rfl,rfl⟩) λ_=>A ⟨rfl,rfl⟩) λj h1=>?_;refine C (λ_=>U (Aat _ _ _ _ dir2.two dir2.one) λ_ h=>U Aao λ_ h=>A h) λ_=>C (λq=>A<|chF.dn<|h.2 ?_) λ_=>?_
 .have q:=k_ q;omega
 refine C (λ_=>U Aao λ_ h=>A h) λ_=>C (λq=>A<|chF.up<|h.1 ?_) λ_=>A<|chF.no<|.inl rfl;have q:=k_ q;omega
theorem Bf8{a b c:Bool}{e o:Int}(h:HP fl f d e):aC (Dt a b c d e o) λy=>chF fl f y.2.1:=by
 refine U (Q:=λy=>y.2.1.2.2.2.1=d/\y.2.1.2.2.2.2.1=e) (C (λ_=>A ⟨rfl,rfl⟩) λ_=>A ⟨rfl,rfl⟩) λj h1=>?_;refine C (λ_=>U (Aat _ _ _ _ dir2.one dir2.two) λ_ h=>U Aao λ_ h=>A h) λ_=>C (λq=>A<|chF.up<|h.1 ?_) λ_=>?_
 .have q:=k_ q;omega
 rw[h1.1,h1.2];exact U (Anb h) λ_ h=>A h
include hl hf
theorem Be3{w:Int}(j:dir2 w)(o a b c:Int):aC (Cc fl w o f a b c) λy=>chF fl f y.2.1:=by
 refine U (Beb hl hf w o a b c) λS h1=>U (Bc8 h1) λN p=>?_;refine U ?_ λX z=>A z;refine aE (Ac j.1 (by have:=j.2;omega)) ?_;refine C (λ_=>U (Bck p) λ_ h=>A h) λu=>C (λ_=>U (Bf8 p) λ_ h=>A h) λv=>?_;have e:Nat.beq (aG w) 2=B:=by
  have P:¬aG w=0:=λq=>by rw[q]at u;cases u
  have Q:¬aG w=1:=λq=>by rw[q]at v;cases v
  have:aG w=2:=by have:=j.1;have:=j.2;omega
  rw[this];rfl
 exact aE e (U (Anb p) λ_ h=>A h)
theorem Asg{w o:Int}(p:S2 w o)(a b c:Int):∃y z,Dn fl w o f a b c=J (((),()),(y,()))/\Ea fl w o f a b c=J (((),()),(z,()))/\chF fl f y/\S2 z.1 z.2.1/\(y.1≠3->z.1=y.2.1):=by
 have hp:Do fl w o f=J ((B,()),()):=by unfold Do;rw[V hl.1,V ω,V hf.1,V hf.2];rw[show Bm w o=J (((aK 0 2 w&&aK 0 7 o),()),())from Ep { Aj with X1:=w,L1:=o },Ak.2 p.1,Ak.2 p.2];rfl
 obtain⟨y,q,h1⟩:=Be3 hl hf p.1 o a b c;obtain⟨z,j,u⟩:=Als fl w o f a b c;obtain⟨⟨_,n,_⟩,y,_⟩:=y;obtain⟨_,z,_⟩:=z;refine⟨y,z,?_,j,h1,u,λv=>?_⟩
 .unfold Dn;rw[hp];rw[q];rfl
 .unfold Ea at j;rw[hp]at j;change(Cc fl w o f a b c).bind _=_ at j;rw[q]at j;change(bif _ then _ else _)=_ at j;rw[FT v]at j
  have:=(Prod.mk.inj (Prod.mk.inj<|s_ j).2).1
  rw[<-this]
end
def U2(a c:Int):Prop:=(0<=a/\a<4294967296)/\0<=c/\c<4294967296
def U2.zero:U2 0 0:=by unfold U2;decide
def U2.fst:U2 (I aH n) 0:=⟨FB n,τ⟩
def U2.snd:U2 0<|I aH n:=⟨τ,FB n⟩
instance isFloors_ti(n:Int):SatT (FJ n):=⟨by unfold FJ;exact Sat.go⟩
instance isObs_ti(n a c d:Int):SatT (EO n a c d):=⟨by unfold EO;exact Sat.go⟩
def JI(n a c d:Int):aC (CH n a c d) λy=>U2 y.2.1.1 y.2.1.2.1:=by
 refine U (isObs_ti n a c d).out λ_ _=>C (λ_=>A U2.zero) λ_=>C (λ_=>A U2.zero) λ_=>C (λ_=>A U2.zero) λh=>?_;have h0:0<=a:=by have:=o_ h;omega
 refine U (Q:=λy=>y.2.1.1=a) (C (λ_=>A rfl) λ_=>A rfl) λp j=>?_;refine C (λ_=>aE (V<|j▸h0)<|A U2.fst) λ_=>?_;refine U (Q:=λy=>y.2.1.1=a) (C (λ_=>A j) λ_=>A j) λq o=>?_;exact C (λ_=>aE (V<|o▸h0)<|A U2.snd) λ_=>A U2.zero
def Ahp(hb:b.small)(hcode:b.code=0)(x:NewCar)(f:Int)(l:Bool)(d:Int)(k:Bool):aC (PJ b.C0 b.F0 b.J0 b.L0 b.I0 b.M0 b.O0 b.A0 x.X1 x.L1 x.U0 x.I1 x.J1 x.N1 x.G1 x.N0 x.W0 x.S0 x.N2 x.D3 x.O3 x.K2 f l d k) λy=>U2 y.2.1.1 y.2.1.2.1:=by refine aJ (JK hb hcode x) (C (λ_=>A U2.zero) λ_=>C (λ_=>A U2.zero) λ_=>C (λ_=>A U2.zero) λ_=>C (λ_=>A U2.zero) λ_=>?_);exact U (JI ..) λ_ h=>A h
instance pair_ti(a c:Bool):SatT (HW a c 0 1 2 3):=⟨by cases a<;>cases c<;>exact⟨_,rfl,trivial⟩⟩
def Bko(a c:Bool):aC (HW a c 0 1 2 3) λy=>0<=y.1.1/\y.1.1<=3:=by cases a<;>cases c<;>exact⟨_,rfl,τ⟩
def dK(e:Duty):Int:=4*e.D0+e.H0
structure DutOK(b:Bldg)(D:Int)(l:List Duty):Prop where
 each:∀e∈l,Aq b e.D0 e.H0=true/\0<=e.U3/\e.U3<=D
 sort:l.Pairwise λa c=>dK a<dK c
def DutOK.nil:DutOK b D []:=⟨λ_ h=>(by cases h),List.Pairwise.nil⟩
def DA(hb:b.small)(h:Aq b f d=B):(0<=f/\f<8)/\(1<=d/\d<=2):=by have hi:=hb.hi;unfold Aq Qz aK at h;simp only[b_,O_,I_,r_]at h;omega
def Zd{a c:Duty}(j:1<=a.H0/\a.H0<=2)(o:1<=c.H0/\c.H0<=2):UB a c=B↔dK a<dK c:=by unfold UB dK;simp only[b_,O_,I_,r_];omega
def XZ{l:List Duty}(h:∀i,i+1<l.length->dK (l.getD i Dk)<dK (l.getD (i+1) Dk)):∀i k:Nat,i+1+k<l.length->dK (l.getD i Dk)<dK (l.getD (i+1+k) Dk)
 |i,0,a=>h i a
 |i,k+1,a=>Int.lt_trans (XZ h i k ω)<|h _ ω
def gD{l:List Duty}(h:i<l.length):l.getD i Dk=l[i]:=by simp only[g_,h_ h,Option.getD_some]
def Bfc(hb:b.small)(x:Belief):Yp (Am4 b car x) x.V0.length 0=B↔DutOK b (FV b car).K1 x.V0:=by
 constructor
 .intro h;have h:=Th _ _ h;have hp:∀i,i<x.V0.length->Aq b (x.V0.getD i Dk).D0 (x.V0.getD i Dk).H0=B/\(0<=(x.V0.getD i Dk).U3/\(x.V0.getD i Dk).U3<=(FV b car).K1)/\(i=0\/UB _ _=B):=λi hi=>by
   have h:=h i ω ω;unfold Am4 Aty aK at h;simpa only[b_,O_,I_,r_]using h
  refine⟨λe he=>?_,?_⟩
  .obtain⟨i,hi,rfl⟩:=List.mem_iff_getElem.1 he
   have:=hp i hi
   rw[gD hi]at this;exact⟨this.1,this.2.1⟩
  .rw[a5_];intro i j hi a p
   have:=XZ (λi hi=>by have h1:=hp (i+1) hi;have h0:=hp i ω;have u:=h1.2.2.resolve_left ω;exact(Zd (DA hb h0.1).2 (DA hb h1.1).2).1 u) i (j-i-1) ω
   rw[show i+1+(j-i-1)=j by omega,gD hi,gD a]at this;exact this
 .intro h;refine Uh _ _ λk _ o=>?_;have o:k<x.V0.length:=ω;have h1:=h.each _<|R_ o;unfold Am4 Aty aK;simp only[b_,O_,I_,r_,gD o];refine⟨h1.1,h1.2,?_⟩;by_cases q:k=0
  .exact .inl q
  .have a:k-1<x.V0.length:=ω;rw[gD a];have h0:=h.each _<|R_ a;exact .inr<|(Zd (DA hb h0.1).2 (DA hb h1.1).2).2<|a5_.1 h.sort _ _ a o ω
def DutOK.len(hb:b.small){l:List Duty}(h:DutOK b D l):l.length<=30:=by
 have a:∀i (hi:i<l.length),i+1<=dK l[i]:=λi=>by
  induction i with
  |zero=>
   intro hi
   have:=DA hb (h.each _<|R_ hi).1
   unfold dK;omega
  |succ i j=>intro hi;have h1:=j ω;have o:=a5_.1 h.sort i (i+1) ω hi ω;omega
 rcases Nat.eq_zero_or_pos l.length with g|g
 .omega
 .have hi:l.length-1<l.length:=ω;have h1:=a _ hi
  have:=DA hb (h.each _<|R_ hi).1
  unfold dK at h1;omega
def DutOK.push{l:List Duty}{e:Duty}(h:DutOK b D l)(h1:Aq b e.D0 e.H0=B/\0<=e.U3/\e.U3<=D)(p:∀a∈l,dK a<dK e):DutOK b D<|l++[e]:=by
 refine⟨λx hx=>?_,List.pairwise_append.2 ⟨h.sort,List.pairwise_singleton ..,λa j c o=>?_⟩⟩
 .rcases m_.1 hx with g|g
  .exact h.each x g
  .rw[y_.1 g];exact h1
 .rw[y_.1 o];exact p a j
def Awk(hb:b.small)(hD:D<=1000000000){l:List Duty}(h:DutOK b D l)(u d:Int):aC (IJ l D u d) λy=>DutOK b D y.1.1/\(y.1.2.1=B->y.1.1=[]):=by
 have hl:=h.len hb;refine U (Q:=λy=>match y with|.inl z=>DutOK b D z.1.1|.inr z=>z.1.1=[]) (bA (λk x=>∃(out:List Duty) (i:Nat),x=((D,(),out,l,(l.length:Int),(i:Int),()),((u,d,()),()))/\i+k=l.length/\DutOK b D out/\∀a∈out,∀j _,i<=j->dK a<dK l[j]) ?_ l.length ⟨[],0,rfl,ω,.nil,λa o=>by cases o⟩ ω) ?_
 .rintro k x ⟨out,i,rfl,Y,v,o⟩;show aC (LN D out l l.length i u d) _;refine C (λq=>?_) λ_=>A v;have hi:i<l.length:=by have:=k_ q;omega
  have he:=h.each _<|R_ hi;have X:=DA hb he.1;have g:bB l (aG i) (Duty.mk 0 0 0)=l[i]:=gD hi;have w:R.wrap _=l[i].U3+1:=Z ω ω;refine aE (Ac ω ω) ?_;simp only[g,w,GS hi (by unfold DJ;omega)];refine C (λ_=>A rfl) λS=>?_;have S:=o_ S;refine aJ (Ii (u,d) ⟨ω,ω⟩ ω) ?_;refine C (λ_=>?_) λ_=>A ⟨k-1,ω,out,i+1,rfl,ω,v,λa m j p N=>o a m j p ω⟩;have hp:DutOK b D<|out++[Duty.mk l[i].D0 l[i].H0<|l[i].U3+1]:=v.push ⟨he.1,by show 0<=l[i].U3+1;omega,by show l[i].U3+1<=D;omega⟩ λa m=>o a m i hi<|t_ _;have hlen:=v.len hb;refine aE (e2_ (by simp only[D_,b7_];omega))<|A ⟨k-1,ω,_,i+1,rfl,ω,hp,λa m j p N=>?_⟩;rcases m_.1 m with m|m
  .exact o a m j p ω
  .rw[y_.1 m];exact a5_.1 h.sort i j hi p ω
 .intro y P;cases y with
  |inl z=>exact A ⟨P,λq=>by cases q⟩
  |inr z=>exact A ⟨by rw[show z.1.1=[]from P];exact .nil,λ_=>P⟩
structure BelOK(b:Bldg)(car:Nat)(x:Belief):Prop where
 fl:-1<=x.D0/\x.D0<=b.C0-1
 dir:0<=x.H0/\x.H0<=3
 door:0<=x.Y0/\x.Y0<=3
 still:0<=x.I3/\x.I3<=1000000
 late:x.Y3=true->x.V0=[]
 dut:DutOK b (FV b car).K1 x.V0
abbrev Ab0:=Int×Int×Int×List Duty×Int×Bool×Unit
@[reducible] def Agk(x:Belief):Ab0:=(x.D0,x.H0,x.Y0,x.V0,x.I3,x.Y3,())
def Azp(b:O)(car:Nat)(t:Ab0):Prop:=∃x,t=Agk x/\BelOK b car x
section
variable{b:O}(hb:b.small)
include hb
theorem Aid{x:Belief}:Ady b car x=B↔BelOK b car x:=by
 unfold Ady aK;simp only[b_,r_,Bfc hb,b4_,Bool.and_eq_false_imp,decide_eq_false_iff_not];constructor
 .rintro⟨h1,u,o,p,a,j⟩;exact⟨h1,u,o,p,λq=>List.length_eq_zero_iff.1 (by have:=a q;omega),j⟩
 .intro h;exact⟨h.fl,h.dir,h.door,h.still,λq=>(by rw[h.late q];decide),h.dut⟩
theorem BelOK.zero:BelOK b car ⟨0,0,0,[],0,H⟩:=by
 have:=hb.lo
 exact⟨⟨τ,show 0<=b.C0-1 by omega⟩,τ,τ,τ,λ_=>rfl,.nil⟩
variable(hcode:b.code=0){car:Nat}(hcar:car<b.A0.length){x:Belief}(h:BelOK b car x)
include hcode hcar h
theorem Fj:Cy b.C0 b.F0 b.J0 b.L0 b.I0 b.M0 b.O0 b.A0 (car:Int) x.D0 x.H0 x.Y0 x.V0 x.I3 x.Y3=J ((B,()),()):=by exact RS hb hcode hcar (c5_ (h.dut.len hb) τ)<|(Aid hb).2 h
theorem Ab3:(FV b car).K1<=1000000000:=by
 have:=YE hcode (c:=FV b car) (by unfold FV;rw[g_,h_ hcar];exact R_ hcar)
 omega
theorem Agl:aC (PD b.C0 b.F0 b.J0 b.L0 b.I0 b.M0 b.O0 b.A0 (car:Int) x.D0 x.H0 x.Y0 x.V0 x.I3 x.Y3) λy=>Azp b car y.2.1:=by refine aJ (Fj hb hcode hcar h)<|aS rfl<|aE (Ac ω ω) ?_;refine U (Awk hb (Ab3 hb hcode hcar h) h.dut 0 0) λa j=>A ⟨⟨x.D0,x.H0,x.Y0,a.1.1,0,a.1.2.1⟩,rfl,⟨h.fl,h.dir,h.door,?_,j.2,j.1⟩⟩;exact show _<=0/\0<=1000000 from by decide
theorem Adz:aC (Oq b.C0 b.F0 b.J0 b.L0 b.I0 b.M0 b.O0 b.A0 (car:Int) x.D0 x.H0 x.Y0 x.V0 x.I3 x.Y3) λy=>Azp b car y.2.1:=by refine aJ (Fj hb hcode hcar h)<|aS rfl<|A ⟨⟨x.D0,x.H0,x.Y0,[],0,H⟩,rfl,⟨h.fl,h.dir,h.door,?_,λ_=>rfl,.nil⟩⟩;exact show _<=0/\0<=1000000 from by decide
theorem Agm:aC (PE b.C0 b.F0 b.J0 b.L0 b.I0 b.M0 b.O0 b.A0 (car:Int) x.D0 x.H0 x.Y0 x.V0 x.I3 x.Y3) λy=>y.1.1=B->x.Y0=2:=by refine U (aJ (Fj hb hcode hcar h)<|aE rfl ?_) λ_ h=>A h;exact C (λ_=>C (λq=>aE (Ac ω ω) (A λ_=>eq_of_beq q)) λ_=>A λq=>by cases q) λ_=>A λq=>by cases q
theorem Tm(o p q:Int):aC (HU b.C0 b.F0 b.J0 b.L0 b.I0 b.M0 b.O0 b.A0 (car:Int) x.D0 x.H0 x.Y0 x.V0 x.I3 x.Y3 o p q) λy=>∃v,y.2.1=Agk v/\BelOK b car v/\(v.Y0=2->q=2):=by
 refine aJ (Fj hb hcode hcar h)<|aS rfl ?_;refine U (Q:=λy=>y.1.1=B->(-1<=o/\o<=b.C0-1)/\(0<=p/\p<=3)/\0<=q/\q<=3) ?_ λy2 h2=>?_
 .unfold EO;refine U ?_ λ_ h=>A h;refine U (isFloors_ti _).out λ_ _=>C (λ_=>?_) λ_=>A λg=>(by cases g)
  refine C (λg1=>?_) λ_=>A λg=>(by cases g)
  refine C (λP=>?_) λ_=>A λg=>(by cases g)
  refine C (λg3=>?_) λ_=>A λg=>(by cases g)
  refine C (λg4=>?_) λ_=>A λg=>(by cases g)
  refine C (λY=>A λg6=>?_) λ_=>A λg=>(by cases g)
  have P:=k_ P;exact⟨⟨k_ g1,ω⟩,⟨k_ g3,k_ g4⟩,k_ Y,k_ g6⟩
 refine C (λ_=>A ⟨⟨0,0,0,[],0,H⟩,rfl,BelOK.zero hb,λe=>absurd e τ⟩) λk=>aE (Ac ω ω) ?_;obtain⟨ho,hp,hq⟩:=h2 (by simpa using k);refine U (JI ..) λy3 _=>U (Awk hb (Ab3 hb hcode hcar h) h.dut _ _) λa u=>?_;have i0:(0:Int)<=0/\(0:Int)<=1000000:=by decide
 refine U (Q:=λ(y:(Unit×Unit×Unit×Int×Unit)×(Ab0×(Int×Int×Int×Unit)×Ab0×Unit))=>(y.2.1=Agk ⟨x.D0,x.H0,x.Y0,a.1.1,x.I3,a.1.2.1⟩/\y.2.2.1=(o,p,q,()))/\0<=y.1.2.2.2.1/\y.1.2.2.2.1<=1000000) ?_ ?_
 .refine U (Q:=λy=>(y.2.1=Agk ⟨x.D0,x.H0,x.Y0,a.1.1,x.I3,a.1.2.1⟩/\y.2.2.1=(o,p,q,()))/\y.1.2.2.2.1=0) ?_ ?_
  .exact C (λ_=>C (λ_=>A ⟨⟨rfl,rfl⟩,rfl⟩) λ_=>A ⟨⟨rfl,rfl⟩,rfl⟩) λ_=>A ⟨⟨rfl,rfl⟩,rfl⟩
  .intro y5 j;refine C (λ_=>A ⟨j.1,?_⟩) λ_=>A ⟨j.1,?_⟩
   .rw[j.1.1];exact Kn h.still
   .rw[j.2];exact i0
 rintro⟨⟨a1,a2,a3,n,a4⟩,t,v,w,z⟩ ⟨⟨N,S⟩,X⟩;change t=_ at N;change v=_ at S;subst N S;exact Sat.bindC (λ_=>Sat.bindR<|A ⟨⟨o,p,q,a.1.1,n,a.1.2.1⟩,rfl,⟨ho,hp,hq,X,u.2,u.1⟩,id⟩) λ_=>Sat.bindR<|A ⟨⟨x.D0,p,q,a.1.1,n,a.1.2.1⟩,rfl,⟨h.fl,hp,hq,X,u.2,u.1⟩,id⟩
end
def Br4(a c:Duty):∃n:Int,Db a.D0 a.H0 a.U3 c.D0 c.H0 c.U3=J ((n,()),())/\(n<0↔UB a c=B)/\(n=0↔a.D0=c.D0/\a.H0=c.H0):=by
 unfold Db;rw[HS,HS];simp only[d_];rw[YC];refine⟨_,rfl,?_⟩;unfold UB WB;by_cases h1:a.D0<c.D0
 .simp[h1];omega
 .by_cases j:c.D0<a.D0
  .simp[h1,j];omega
  .by_cases o:a.H0<c.H0
   .simp[h1,j,o];omega
   .by_cases p:c.H0<a.H0
    .simp[h1,j,o,p];omega
    .simp[h1,j,o,p];omega
def Bjs{j:Nat}(h:i+j<9223372036854775808):R.wrap (aR (I aB<|I R<|(i:Int)+(j:Int))<|(2:Int)^(aL (aG (1:Int))<|IntKind.bits aB))=(((i+j)/2:Nat):Int):=Ai6 h
section
variable{b:O}(hb:b.small){D:Int}{l:List Duty}(h:DutOK b D l){F Dr:Int}(hD:1<=Dr/\Dr<=2)
include hb h hD
theorem Aq2(hi:i<l.length):∃n:Int,Db l[i].D0 l[i].H0 l[i].U3 F Dr 0=J ((n,()),())/\(n<0↔dK l[i]<4*F+Dr)/\(n=0↔dK l[i]=4*F+Dr):=by obtain⟨n,h1,o,a⟩:=Br4 l[i]<|Duty.mk F Dr 0;have j:=DA hb (h.each _<|R_ hi).1;refine⟨n,h1,o.trans<|Zd j.2 hD,a.trans ?_⟩;unfold dK;simp only;omega
theorem Bco:aC (AV ((l,(),(),(l.length:Int),0,(l.length:Int),()),((F,Dr,0,()),()))) λy=>∃p:Nat,y=((l,(),(),(l.length:Int),(p:Int),()),((F,Dr,0,()),()))/\p<=l.length/\(∀i (hi:i<l.length),i<p->dK l[i]<4*F+Dr)/\∀i (hi:i<l.length),p<=i->4*F+Dr<=dK l[i]:=by
 have hl:=h.len hb;refine bA (λk x=>∃i j:Nat,x=((l,(),(),(l.length:Int),(i:Int),(j:Int),()),((F,Dr,0,()),()))/\j<=i+k/\i<=j/\j<=l.length/\(∀a _,a<i->dK l[a]<4*F+Dr)/\∀a _,j<=a->4*F+Dr<=dK l[a]) ?_ l.length ⟨0,l.length,rfl,ω,ω,ω,λa _ g=>by omega,λa _ g=>by omega⟩ ω;rintro k x ⟨i,j,rfl,X,Q,N,h1,z⟩;show aC (BU l _ i j F Dr 0) _;refine C (λq=>?_) λq=>A ?_
 .have q:=k_ q;have hm:(i+j)/2<l.length:=ω;rw[Bjs ω];refine aE (Ac ω ω) ?_;have g:bB l (aG (((i+j)/2:Nat):Int)) (Duty.mk 0 0 0)=l[(i+j)/2]:=gD hm;simp only[g,GS hm (by unfold DJ;omega)];obtain⟨n,c1,w,S⟩:=Aq2 hb h hD hm;refine aJ c1 (C (λv=>A ⟨k-1,ω,(i+j)/2+1,j,rfl,ω,ω,N,λa o P=>?_,z⟩) λv=>A ⟨k-1,ω,i,(i+j)/2,rfl,ω,ω,ω,h1,λa o P=>?_⟩)
  .have:=w.1<|k_ v
   rcases f5_ a _ with u|u
   .have:=a5_.1 h.sort a _ o hm u
    omega
   .obtain rfl:a=(i+j)/2:=ω;exact this
  .have:¬dK l[(i+j)/2]<4*F+Dr:=λe=>o_ v<|w.2 e
   rcases f5_ _ a with u|u
   .have:=a5_.1 h.sort _ a hm o u
    omega
   .obtain rfl:a=(i+j)/2:=ω;omega
 .have q:=o_ q;exact⟨i,rfl,ω,h1,λa o g=>z a o ω⟩
theorem Axh:aC (AY l F Dr 0) λy=>∃p:Nat,y.1.1=(p:Int)/\p<=l.length/\(∀i (hi:i<l.length),i<p->dK l[i]<4*F+Dr)/\(y.1.2.1=H->∀i (hi:i<l.length),p<=i->4*F+Dr<dK l[i]):=by
 refine U (Bco hb h hD) ?_;rintro y ⟨p,rfl,hp,h1,u⟩;refine U (Q:=λy=>y.1.1=(p:Int)/\(y.1.2.1=H->∀i _,p<=i->4*F+Dr<dK l[i])) (C (λq=>?_) λq=>A ⟨rfl,λ_ i hi g=>?_⟩) λy j=>A ⟨p,j.1,hp,h1,j.2⟩
 .have q:p<l.length:=by have:=k_ q;exact Int.ofNat_lt.1 this
  refine aE (Ac (Int.natCast_nonneg p)<|Int.ofNat_lt.2 q) ?_;have g:bB l (aG p) (Duty.mk 0 0 0)=l[p]:=gD q;simp only[g];obtain⟨n,c1,w,v⟩:=Aq2 hb h hD q;refine aJ c1<|A ⟨rfl,λe i hi z=>?_⟩;have e:¬n=0:=λo=>by rw[o]at e;cases e
  have:=u p q<|t_ _
  rcases f5_ p i with a|a
  .have:=a5_.1 h.sort _ i q hi a
   omega
  .obtain rfl:i=p:=ω;omega
 .have:=o_ q
  have:¬p<l.length:=λe=>this<|Int.ofNat_lt.2 e
  omega
theorem Bd8(o:Aq b F Dr=B)(h0:0<=D){p:Nat}(hp:p<=l.length)(h1:∀i (hi:i<l.length),i<p->dK l[i]<4*F+Dr)(v:∀i (hi:i<l.length),p<=i->4*F+Dr<dK l[i]):aC (BR l (p:Int) [Duty.mk F Dr 0]) λy=>DutOK b D y.1.1/\y.1.1≠[]:=by
 have hl:=h.len hb;refine aE ?_<|A ⟨⟨λe he=>?_,?_⟩,?_⟩
 .simp;omega
 .rcases m_.1 he with he|he
  .rcases m_.1 he with he|he
   .exact h.each e<|e4_ he
   .rw[y_.1 he];exact⟨o,e1_ 0,h0⟩
  .exact h.each e<|e5_ he
 .have u:∀a∈l.take p,dK a<4*F+Dr:=λa j=>by
   obtain⟨i,hi,rfl⟩:=List.mem_take_iff_getElem.1 j;exact h1 i ω ω
  have q:∀a∈l.drop p,4*F+Dr<dK a:=λa j=>by obtain⟨i,hi,rfl⟩:=List.mem_drop_iff_getElem.1 j;exact v (p+i) ω ω
  refine List.pairwise_append.2 ⟨List.pairwise_append.2 ⟨h.sort.take,List.pairwise_singleton ..,λa j c o=>?_⟩,h.sort.drop,λa j c o=>?_⟩
  .rw[y_.1 o];exact u a j
  .rcases m_.1 j with j|j
   .exact Int.lt_trans (u a j)<|q c o
   .rw[y_.1 j];exact q c o
 .simp
end
def Aec(z:α)(l:List α):NJ (aU (aG (l.length:Int)) z) l=l:=by unfold NJ;simp
def Bj8(c:Int×Int):(GO c).length<=64:=by
 have h:∀k i:Nat,((List.range' i k).flatMap<|Nk c).length<=2*k:=by
  intro k;induction k with
  |zero=>intro i;exact t_ _
  |succ k a=>
   intro i;rw[e8_,X_,f_]
   have:=a<|i+1
   have:=Aei c i
   omega
 exact h 32 0
def Bsp(h:e∈GO c):(0<=e.D0/\e.D0<32)/\(e.H0=1\/e.H0=2)/\Ax c e.D0.toNat e.H0=B:=by obtain⟨f,h1,o,a,j⟩:=mem_range.1<|b6_.2 ⟨e,h,rfl⟩;simp only[Ih]at o a j;refine⟨ω,a,?_⟩;rw[o];exact j
def Aif(hb:b.small)(hcode:b.code=0)(h:e∈GO (Dz c<|Bj b)):Aq b e.D0 e.H0=B:=by obtain⟨h1,j,a⟩:=Bsp h;rw[Kr,b_,Mn hb hcode ω j,a6_ h1.1]at a;exact a.2
section
variable{b:O}(hb:b.small)(hcode:b.code=0){car:Nat}(hcar:car<b.A0.length){x:Belief}(h:BelOK b car x)
include hb hcode hcar h
theorem Akf(he:∀e∈es,Aq b e.D0 e.H0=B)(hl:es.length<=1000)(z:Ab0):aC (JA (((),(),es,(es.length:Int),0,()),((x.D0,x.H0,x.Y0,x.V0,x.I3,x.Y3,()),z,()))) λy=>∃a,y.2.1=(x.D0,x.H0,x.Y0,a,x.I3,x.Y3,())/\DutOK b (FV b car).K1 a:=by
 have N:=YE hcode (c:=FV b car) (by unfold FV;rw[g_,h_ hcar];exact R_ hcar);refine bA (λk y=>∃(a:List Duty) (i:Nat),y=(((),(),es,(es.length:Int),(i:Int),()),((x.D0,x.H0,x.Y0,a,x.I3,x.Y3,()),z,()))/\i+k=es.length/\DutOK b (FV b car).K1 a) ?_ es.length ⟨x.V0,0,rfl,ω,h.dut⟩ ω;rintro k y ⟨a,i,rfl,Q,j⟩;show aC (JF es es.length i x.D0 x.H0 x.Y0 a x.I3 x.Y3 z.1 z.2.1 z.2.2.1 z.2.2.2.1 z.2.2.2.2.1 z.2.2.2.2.2.1) _;refine C (λq=>?_) λ_=>A ⟨a,rfl,j⟩;have hi:i<es.length:=by have:=k_ q;omega
 refine aE (Ac ω ω) ?_;have g:bB es (aG i) (aY 0 0 0 0 H)=es[i]:=by simp only[l_,g_,h_ hi,Option.getD_some]
 simp only[g,GS hi (by unfold DJ;omega)];have o:=he _<|R_ hi;refine U (Axh hb j (DA hb o).2) ?_;rintro S ⟨p,v,hp,h1,w⟩;refine C (λq=>?_) λ_=>A ⟨k-1,ω,a,i+1,rfl,ω,j⟩;rw[v];refine U (Bd8 hb j (DA hb o).2 o N.1 hp h1<|w (by simpa using q)) λu P=>A ⟨k-1,ω,u.1.1,i+1,rfl,ω,P.1⟩
theorem Ui(u d:Int):aC (IV b.C0 b.F0 b.J0 b.L0 b.I0 b.M0 b.O0 b.A0 (car:Int) x.D0 x.H0 x.Y0 x.V0 x.I3 x.Y3 u d) λy=>Azp b car y.2.1:=by
 have hl:=h.dut.len hb;refine aJ (Fj hb hcode hcar h)<|aS rfl<|aE ?_ ?_
 .simp;omega
 refine aJ (DL hb hcode)<|aJ (ED (u,d) _)<|aJ (RH _) ?_;simp only[Aec];refine U (Akf hb hcode hcar h (λe he=>Aif hb hcode he) ?_ _) ?_
 .have:=Bj8<|Dz (u,d)<|Bj b
  omega
 rintro⟨a,t,w⟩ ⟨j,e,o⟩;change t=_ at e;subst e;refine Sat.bindC (λ_=>Sat.bindR<|A ⟨⟨x.D0,x.H0,x.Y0,j,x.I3,(j.length:Int)==0⟩,rfl,⟨h.fl,h.dir,h.door,h.still,λq=>?_,o⟩⟩) λ_=>Sat.bindR<|A ⟨⟨x.D0,x.H0,x.Y0,j,x.I3,H⟩,rfl,⟨h.fl,h.dir,h.door,h.still,λq=>(by cases q),o⟩⟩;have q:(j.length:Int)=0:=by simpa using q
 exact(List.length_eq_zero_iff (l:=j)).1 ω
end
def An5(f d r p:Int)(e u o:Nat)(cs:List Car)(x:Nat):aC (SU f d r p e u o cs x) λy=>0<=y.1.1/\y.1.1<=4:=by refine C (λ_=>A τ) λ_=>C (λ_=>A τ) λ_=>C (λ_=>A τ) λ_=>C (λ_=>A τ) λ_=>A τ
def Abl(j:aC (arF .sub .f64 b.M0 4589168020290535424) λ_=>True)(o:aC (arF .sub .f64 b.O0 4589168020290535424) λ_=>True)(s:Int)(x:Nat):aC (UY b.C0 b.F0 b.J0 b.L0 b.I0 b.M0 b.O0 b.A0 s x) λy=>0<=y.2.1.1/\y.2.1.1<=4:=by
 refine aJ (Az b) (C (λ_=>A ⟨e1_ 0,show _<=4 from by decide⟩) λ_=>U (An5 ..) λu v=>?_);refine U (Q:=λy=>y.1.2.2.2.2.1=u.1.1/\y.2.1=b.tup) (C (λ_=>A ⟨rfl,rfl⟩) λ_=>A ⟨rfl,rfl⟩) λa p=>?_;have k:0<=a.1.2.2.2.2.1/\a.1.2.2.2.2.1<=4:=by rw[p.1];exact v
 refine C (λ_=>C (λq=>?_) λ_=>C (λq=>?_) λ_=>A k) λ_=>A k
 .have q:a.2.2.1.1=3:=by simpa using q
  rw[p.2];refine U j λ_ _=>C (λ_=>A ?_) λ_=>A k;show 0<=a.2.2.1.1/\a.2.2.1.1<=4;omega
 .have q:a.2.2.1.1=4:=by simpa using q
  rw[p.2];refine U o λ_ _=>C (λ_=>A ?_) λ_=>A k;show 0<=a.2.2.1.1/\a.2.2.1.1<=4;omega
def Yu{c:Bool}{x y r:α}(h:c=B)(a:x=r):(bif c then x else y)=r:=by subst h;exact a
def Aj5(hcode:b.code=0){car:Int}(a:0<=car/\car<(b.A0.length:Int)){k v:Int}(h:(k=4/\0<=v/\v<=4)\/((k=5\/k=6)/\0<=v/\v<=1)):AB b (aZ k 0 0 car v)=B:=by unfold AB Vn aK;rcases h with⟨rfl,h⟩|⟨rfl|rfl,h⟩<;>simp<;>omega
def phA(m:aI)(i:Nat):Int:=m.G0.getD i 0
def flA(m:aI)(i:Nat):Bool:=m.R0.getD i H
def lvA(m:aI)(i:Nat):Bool:=m.K0.getD i H
def Afh(m:aI)(i:Nat):Bool:=(phA m i==0||phA m i==4)&&(!flA m i&&!lvA m i)
def Nr(m:aI)(i:Nat):Bool:=phA m i==0||(phA m i==1||phA m i==4)
section
variable{b:O}{m:aI}(hm:ImgOK b m)
include hm
theorem Ant(hi:i<b.A0.length):Lc m.G0 m.R0 m.K0 m.B0 (i:Int)=J ((B,()),()):=by unfold Lc;simp only[hm.lp,hm.lf,hm.ll,V (ω:0<=(i:Int)),c_<|Z_ _,i_,j_,V (ω:i<(b.A0.length:Int)),d_]
theorem Alv(hi:i<b.A0.length):Nx m.G0 m.R0 m.K0 m.B0 (i:Int)=J ((Afh m i,()),()):=by have p:inB i m.G0.length=B:=Ac ω (by rw[hm.lp];omega);have o:inB i m.R0.length=B:=Ac ω (by rw[hm.lf];omega);have j:inB i m.K0.length=B:=Ac ω (by rw[hm.ll];omega);refine Ae (a:=(((m.G0.getD i 0==0||m.G0.getD i 0==4)&&(!m.R0.getD i H&&!m.K0.getD i H),()),())) (Ae (Ant hm hi) ?_) rfl;simp only[p,o,j,l_];cases m.G0.getD i 0==0<;>cases m.G0.getD i 0==4<;>cases m.R0.getD i H<;>rfl
theorem Ads(hi:i<b.A0.length):IY m.G0 m.R0 m.K0 m.B0 (i:Int)=J ((Nr m i,()),()):=by have a:inB i m.G0.length=B:=Ac ω (by rw[hm.lp];omega);unfold IY Nr phA;refine Ae (Ant hm hi) ?_;simp only[a,l_];cases m.G0.getD i 0==0<;>cases m.G0.getD i 0==1<;>rfl
theorem Arp:∃fr:Bool,Ey m.G0 m.R0 m.K0 m.B0=J ((fr,()),()):=by
 have a:=Ah hm.code;have hp:=hm.lp;have hl:=hm.ll;have h:aC (Ey m.G0 m.R0 m.K0 m.B0) λ_=>True:=by
  refine U (Q:=λ_=>True) (bA (λk x=>∃i:Nat,x=(((),m.G0,(m.G0.length:Int),(i:Int),()),((m.G0,m.R0,m.K0,m.B0,()),()))/\i+k=m.G0.length) ?_ m.G0.length ⟨0,rfl,ω⟩ ω) λy _=>?_
  .rintro k x ⟨i,rfl,j⟩;show aC (VH m.G0 m.G0.length i m.G0 m.R0 m.K0 m.B0) _;refine C (λq=>?_) λ_=>A trivial;have hi:i<m.G0.length:=by have:=k_ q;omega
   refine aE (Ac ω ω) ?_;simp only[GS hi (by unfold DJ;omega)];refine C (λ_=>A trivial) λ_=>C (λ_=>A trivial) λ_=>C (λ_=>A trivial) λ_=>?_;exact aE (Ac ω ω) (C (λ_=>A trivial) λ_=>A ⟨k-1,ω,i+1,rfl,ω⟩)
  .cases y with
   |inl _=>exact A trivial
   |inr _=>exact A trivial
 obtain⟨y,h,_⟩:=h;exact⟨y.1.1,h⟩
end
def Ni(m:aI)(i:Nat)(calm fr:Bool)(a:Int):List aF×Int:=
 bif a==1&&phA m i==0 then(bif fr then([⟨4,0,0,i,1⟩],0)else([],261))
 else bif(a==2&&phA m i==1)then([⟨4,0,0,i,0⟩],0)
 else bif(a==3&&phA m i==2)then([⟨4,0,0,i,0⟩],0)
 else bif(a==2&&(phA m i==4&&lvA m i))then([⟨6,0,0,i,0⟩],0)
 else bif(a==4&&phA m i==2)then([⟨4,0,0,i,3⟩],0)
 else bif(a==5&&phA m i==3)then(bif calm then([⟨4,0,0,i,2⟩],0)else([],262))
 else bif(a==6&&phA m i==3)then(bif !flA m i then([⟨4,0,0,i,4⟩],0)else([],262))
 else bif(a==7&&(phA m i==4&&!lvA m i))then(bif fr then([⟨6,0,0,i,1⟩],0)else([],261))
 else bif(a==8&&flA m i)then([⟨5,0,0,i,0⟩],0)else([],260)
section
variable{b:O}{m:aI}(hm:ImgOK b m){i:Nat}(hi:i<b.A0.length)
include hm hi
theorem Bgk(a:Bool)(e:Int)(l:List aF):EV a e l=J (((bif a then(l,(0:Int))else([],e)).1,(bif a then(l,(0:Int))else([],e)).2,()),()):=by cases a<;>rfl
theorem Bmc(calm:Bool)(p:Int):Cd m.G0 m.R0 m.K0 m.B0 (i:Int) calm p=J ((phA m i==p,()),()):=by unfold Cd;rw[Ac ω (by rw[hm.lp];omega)];rfl
theorem Baw(hf:Ey m.G0 m.R0 m.K0 m.B0=J ((fr,()),()))(calm:Bool)(j:Int):Iv m.G0 m.R0 m.K0 m.B0 (i:Int) calm j=J (((Ni m i calm fr j).1,(Ni m i calm fr j).2,()),()):=by
 have o:inB i m.R0.length=B:=Ac ω (by rw[hm.lf];omega);have u:=Bmc hm hi calm;have q:=Bgk hm hi;unfold Iv Ni;rw[Ac ω (by rw[hm.ll];omega)]
 let T:=((m.G0,m.R0,m.K0,m.B0,(i:Int),calm,()),(m.G0,m.R0,m.K0,m.B0,()),())
 have st:∀(k p:Int),(bif j==k then(Cd m.G0 m.R0 m.K0 m.B0 _ calm p).bind λv=>J ((j,(),(),lvA m i,v.1.1,()),T)else J _)=J ((j,(),(),lvA m i,(j==k&&phA m i==p),()),T):=λk p=>by
  cases j==k with
  |true=>exact Ae (u p) rfl
  |false=>rfl
 refine Ae (st 1 0) ?_;cases j==1&&phA m i==0 with
 |true=>refine Ae hf<|Ae rfl<|Ae (q fr 261 [⟨4,0,0,i,1⟩]) ?_;cases fr<;>rfl
 |false=>
 refine Ae (st 2 1) ?_;cases w:j==2&&phA m i==1 with
 |true=>rfl
 |false=>
 refine Ae (st 3 2) ?_;cases j==3&&phA m i==2 with
 |true=>rfl
 |false=>
 refine Ae (a:=((j,(),(),lvA m i,(j==2&&(phA m i==4&&lvA m i)),()),T)) ?_ ?_
 .cases j==2 with
  |false=>rfl
  |true=>refine Ae (u 4) ?_;cases phA m i==4<;>rfl
 cases j==2&&(phA m i==4&&lvA m i)with
 |true=>rfl
 |false=>
 refine Ae (st 4 2) ?_;cases j==4&&phA m i==2 with
 |true=>rfl
 |false=>
 refine Ae (st 5 3) ?_;cases j==5&&phA m i==3 with
 |true=>rw[i_];refine Ae rfl ?_;refine Ae (q calm 262 [⟨4,0,0,i,2⟩]) ?_;cases calm<;>rfl
 |false=>
 refine Ae (st 6 3) ?_;cases j==6&&phA m i==3 with
 |true=>show(bif inB _ m.R0.length then _ else _)=_;rw[o,i_];refine Ae rfl ?_;refine Ae (q (!flA m i) 262 [⟨4,0,0,i,4⟩]) ?_;cases flA m i<;>rfl
 |false=>
 refine Ae (a:=((j,(),(),(j==7&&(phA m i==4&&!lvA m i)),()),T)) ?_ ?_
 .cases j==7 with
  |false=>rfl
  |true=>refine Ae (u 4) ?_;cases phA m i==4<;>rfl
 cases j==7&&(phA m i==4&&!lvA m i)with
 |true=>refine Ae hf<|Ae (q fr 261 [⟨6,0,0,i,1⟩]) ?_;cases fr<;>rfl
 |false=>
 refine Ae (a:=(((),(j==8&&flA m i),()),(T.1,()))) ?_ ?_
 .cases j==8 with
  |false=>rfl
  |true=>rw[o];rfl
 cases j==8&&flA m i<;>rfl
end
def Sg(m:aI)(car:Int):Bool:=m.B0.any λe=>e.X0==car
def JJ(m:aI)(i:Nat):Bool:=phA m i==4&&lvA m i
def Pe(m:aI)(calm:List Bool)(i:Nat):Bool:=calm.getD i H&&((phA m i==1||JJ m i)&&!Sg m i)
def NF(m:aI)(calm:List Bool)(i:Nat):List aF:=bif Pe m calm i then [⟨4,0,0,i,2⟩]++(bif JJ m i then [⟨6,0,0,i,0⟩]else [])++(bif flA m i then [⟨5,0,0,i,0⟩]else [])else []
def FR(m:aI)(calm:List Bool):Nat->List aF
 |0=>[]
 |i+1=>FR m calm i++NF m calm i
def Awq(m:aI)(calm:List Bool)(i:Nat):(NF m calm i).length<=3:=by unfold NF;cases Pe m calm i<;>cases JJ m i<;>cases flA m i<;>simp
def QZ(m:aI)(calm:List Bool):∀i,(FR m calm i).length<=3*i
 |0=>t_ 0
 |i+1=>by
  have:=QZ m calm i
  have:=Awq m calm i
  show(FR m calm i++NF m calm i).length<=_;rw[f_];omega
section
variable{b:O}{m:aI}(hm:ImgOK b m)(hb:b.small)(he:m.B0.length<=100000)
include hm he
omit hm in
theorem Apt(car:Int):Gw m.G0 m.R0 m.K0 m.B0 car=J ((Sg m car,()),()):=by
 have h:aC (Gw m.G0 m.R0 m.K0 m.B0 car) λy=>y=((Sg m car,()),()):=by
  refine U (Q:=λy=>match y with|.inl _=>Sg m car=H|.inr z=>z=((B,()),())/\Sg m car=B) (bA (λk x=>∃i:Nat,x=((car,m.B0,(m.B0.length:Int),(i:Int),()),())/\i+k=m.B0.length/\∀e∈m.B0.take i,(e.X0==car)=H) ?_ m.B0.length ⟨0,rfl,ω,λe h=>(by simp at h)⟩ ω) λy o=>?_
  .rintro k x ⟨i,rfl,u,j⟩;show aC (QS car m.B0 m.B0.length i) _;refine C (λq=>?_) λq=>A ?_
   .have hi:i<m.B0.length:=by have:=k_ q;omega
    refine aE (Ac ω ω) (C (λa=>A ⟨rfl,?_⟩) λa=>A ⟨k-1,ω,i+1,?_,ω,λe h=>?_⟩)
    .exact List.any_eq_true.2 ⟨_,Av _ hi,a⟩
    .rw[show R.wrap _=((i+1:Nat):Int)by rw[Z ω ω];omega]
    .rw[List.take_succ,h_ hi]at h;rcases m_.1 h with h|h
     .exact j e h
     .rw[l_,g_,h_ hi]at a
      have:e=m.B0[i]:=by simpa using h
      rw[this];exact a
   .have:=o_ q
    rw[a3_ ω]at j;exact List.any_eq_false.2 λe h=>by rw[j e h];decide
  .cases y with
   |inl _=>rw[show Sg m car=H from o];exact A rfl
   |inr z=>obtain⟨h1,p⟩:=o;subst h1;rw[p];exact A rfl
 obtain⟨y,h,rfl⟩:=h;exact h
include hb in
theorem VZ{a:Int}(p:0<=a/\a<=8)(hi:i<b.A0.length)(j:calm.length=b.A0.length)(hf:Ey m.G0 m.R0 m.K0 m.B0=J ((fr,()),())):Rz b.C0 b.F0 b.J0 b.L0 b.I0 b.M0 b.O0 b.A0 m.G0 m.R0 m.K0 m.B0 a (i:Int) calm=J (((bif a==0 then([],(0:Int))else Ni m i (calm.getD i H) fr a).1,(bif a==0 then([],(0:Int))else Ni m i (calm.getD i H) fr a).2,()),()):=by
 have o:=Ah hm.code;refine Ae (Dw hb m (c5_ (show m.G0.length<=8 by rw[hm.lp];omega) τ)<|c5_ he τ) ?_;rw[Img.ok_iff.2 hm,j,Q_,c_ ω,c_ ω,c_ (ω:¬(b.A0.length:Int)<=(i:Int))];cases a==0 with
 |true=>rfl
 |false=>rw[ Ac ω ω];exact Ae (Baw hm hi hf _ a) rfl
include hb in
theorem XW(o:calm.length=b.A0.length):SV b.C0 b.F0 b.J0 b.L0 b.I0 b.M0 b.O0 b.A0 m.G0 m.R0 m.K0 m.B0 calm=J ((FR m calm b.A0.length,()),()):=by
 have P:=Ah hm.code;have lp:=hm.lp;have lf:=hm.lf;have Y:=hm.ll;have z:aC (PT ((calm,(),([]:List aF),m.G0,m.G0.length,0,()),(m.tup,()))) λy=>y=((FR m calm b.A0.length,()),()):=by
  refine bA (λk x=>∃i,x=((calm,(),FR m calm i,m.G0,(m.G0.length:Int),(i:Int),()),(m.tup,()))/\i+k=m.G0.length) ?_ m.G0.length ⟨0,rfl,ω⟩ ω;rintro k x ⟨i,rfl,X⟩;have hl:=QZ m calm i;show aC (VG calm _ m.G0 m.G0.length i m.G0 m.R0 m.K0 m.B0) _;refine C (λq=>?_) λq=>A (by have q:=o_ q;rw[show b.A0.length=i by omega]);have hi:i<m.G0.length:=by have:=k_ q;omega
  have w:=GS hi (by unfold DJ;omega);have N:inB i m.G0.length=B:=Ac ω ω;have v:inB i m.K0.length=B:=Ac ω ω;have u:inB i m.R0.length=B:=Ac ω ω;have Q:inB i calm.length=B:=Ac ω ω;refine aE N ?_;refine aJ (b:=((calm,(),FR m calm i,(i:Int),phA m i,JJ m i,m.G0,(m.G0.length:Int),(i:Int),()),(m.tup,()))) ?_ ?_
  .show(bif phA m i==4 then _ else _)=_;unfold JJ;cases phA m i==4 with
   |true=>rw[ v];rfl
   |false=>rfl
  refine aJ (b:=((calm,(),FR m calm i,(i:Int),JJ m i,m.G0,(m.G0.length:Int),(i:Int),!Pe m calm i,()),(m.tup,()))) ?_ ?_
  .have p:=Apt he i;rw[Q];unfold Pe;show(bif !calm.getD i H then _ else bif phA m i !=1 then bif !JJ m i then _ else(Gw m.G0 m.R0 m.K0 m.B0 _).bind _ else(Gw m.G0 m.R0 m.K0 m.B0 _).bind _)=_;cases calm.getD i H with
   |false=>rfl
   |true=>
    rw[a8_,b1_];unfold bne;cases phA m i==1 with
    |true=>exact Ae p (by rw[Bool.true_or,b1_,Bool.not_not])
    |false=>
     cases JJ m i with
     |false=>rfl
     |true=>exact Ae p (by rw[Bool.or_true,b1_,Bool.not_not])
  refine C (λa=>A ⟨k-1,ω,i+1,?_,ω⟩) λa=>?_
  .simp only[w];have a:Pe m calm i=H:=by simpa using a
   show _=((calm,(),FR m calm i++NF m calm i,m.G0,(m.G0.length:Int),((i+1:Nat):Int),()),(m.tup,()));rw[show NF m calm i=[]by unfold NF;rw[a];rfl,a1_]
  .have a:Pe m calm i=B:=by simpa using a
   refine aE (e2_ (by simp only[D_,b7_];omega)) ?_;refine aJ (b:=((calm,(),FR m calm i++[⟨4,0,0,i,2⟩]++(bif JJ m i then [⟨6,0,0,i,0⟩]else []),(i:Int),m.G0,(m.G0.length:Int),(i:Int),()),(m.tup,()))) ?_ ?_
   .cases JJ m i with
    |true=>rw[i_];refine Yu (e2_ (by simp only[f_,D_,b7_];omega)) rfl
    |false=>rw[j_,j_,a1_]
   refine aE u ?_;have e:FR m calm (i+1)=FR m calm i++[⟨4,0,0,i,2⟩]++(bif JJ m i then [⟨6,0,0,i,0⟩]else [])++(bif flA m i then [⟨5,0,0,i,0⟩]else []):=by show FR m calm i++NF m calm i=_;unfold NF;rw[a,i_];simp only[N_]
   refine C (λj=>?_) λj=>A ⟨k-1,ω,i+1,?_,ω⟩
   .have j:flA m i=B:=j;rw[j,i_]at e;refine aE (e2_ (by have:(bif JJ m i then [(⟨6,0,0,i,0⟩:aF)]else []).length<=1:=(by cases JJ m i<;>simp);simp only[f_,D_,b7_];omega))<|A ⟨k-1,ω,i+1,?_,ω⟩;simp only[w];rw[e]
   .have j:flA m i=H:=j;rw[j,j_,a1_]at e;simp only[w];rw[e]
 obtain⟨y,S,rfl⟩:=z;refine Ae (Dw hb m (c5_ (ω:m.G0.length<=8) τ)<|c5_ he τ) ?_;rw[Img.ok_iff.2 hm,o,Q_,a8_,j_];exact Ae S rfl
end
def VK(x:Int):0<=aH.wrap (stk x 255<|aX<|aP (IntKind.bits .u32) x&&&aP (IntKind.bits .u32) 255)/\aH.wrap (stk x 255<|aX<|aP (IntKind.bits .u32) x&&&aP (IntKind.bits .u32) 255)<256:=by
 rw[SG];unfold vb;have h:(bv x&&&bv 255).toNat<256:=by exact f0_ Nat.and_le_right τ
 omega
def Bky(n:Int):0<=R.wrap (I aN n)/\R.wrap (I aN n)<=255:=by
 have:=TX n
 rw[Z ω ω];omega
def Xw{x:Int}(h:0<=x/\x<4294967296):aC (Ft x) λy=>0<=y.1.1/\y.1.1<=255:=by
 refine aE (Ac ?_<|bE ?_<|Int.ofNat_le.2<|E_ (n:=256) rfl) ?_
 .rw[H_ _ τ];exact Int.ediv_nonneg h.1 τ
 .rw[H_ _ τ];exact Int.ediv_lt_of_lt_mul τ h.2
 refine aE (Ac (VK _).1<|bE (VK _).2<|Int.ofNat_le.2<|E_ rfl) ?_;refine aE (Ac (VK _).1<|bE (VK _).2<|Int.ofNat_le.2<|E_ rfl) ?_;exact aE (Ac (VK _).1<|bE (VK _).2<|Int.ofNat_le.2<|E_ rfl)<|A<|Bky _
def Rn(fl:Int){j:Int}(h:0<=j/\j<4294967296)(a c d e:Bool):aC (Ew fl j a c d e) λy=>y.2.1.2.2.1=2->e=B:=by refine U (Q:=λ_=>True) (U (Ah7 j) λ_ _=>U (Q:=λ_=>True) ?_ λ_ _=>C (λ_=>A trivial) λ_=>A trivial) λ_ _=>U (Bko a c) λ_ _=>U (Q:=λy=>y.1.1=2->e=B) (by cases d<;>cases e<;>exact⟨_,rfl,τ⟩) λ_ h=>A h;refine U (isFloors_ti fl).out λ_ _=>C (λ_=>U (Xw h) λ_ _=>C (λ_=>A trivial) λ_=>A trivial) λ_=>A trivial
def orL(x y:Int):Int:=aB.wrap<|stk x y<|aX ((aP (IntKind.bits aB) x)|||(aP (IntKind.bits aB) y))
def leV(s:ByteArray):Nat->Int
 |0=>0
 |i+1=>orL (leV s i)<|I aB<|I aB (BJ s i)*((2:Int)^(aL (aG<|8*(i:Int))<|IntKind.bits aB))
def Ml(b:O)(o:k<=8)(p:k<=s.size):BC (k:Int) s b.C0 b.F0 b.J0 b.L0 b.I0 b.M0 b.O0 b.A0=J ((leV s k,()),((s.extract k s.size,b.C0,b.F0,b.J0,b.L0,b.I0,b.M0,b.O0,b.A0,()),())):=by
 have h:aC (Hb (((),k,0,k,0,()),((s,b.C0,b.F0,b.J0,b.L0,b.I0,b.M0,b.O0,b.A0,()),()))) λy=>y=(((),(k:Int),leV s k,()),((s,b.C0,b.F0,b.J0,b.L0,b.I0,b.M0,b.O0,b.A0,()),())):=by
  refine bA (λm x=>∃i:Nat,x=(((),(k:Int),leV s i,(k:Int),(i:Int),()),((s,b.C0,b.F0,b.J0,b.L0,b.I0,b.M0,b.O0,b.A0,()),()))/\i+m=k) ?_ k ⟨0,rfl,ω⟩ ω;rintro m x ⟨i,rfl,hm⟩;show aC (Ko _ _ k i s b.C0 b.F0 b.J0 b.L0 b.I0 b.M0 b.O0 b.A0) _;refine C (λq=>?_) λq=>A ?_
  .have q:=k_ q;refine aE (Ac ω ω) ?_;have a:R.wrap _=8*i:=Z ω ω;have j:R.wrap (i+1)=((i+1:Nat):Int):=by rw[Z ω ω];omega
   simp only[a,j];exact aE (V ω)<|A ⟨m-1,ω,i+1,rfl,ω⟩
  .have q:=o_ q;obtain rfl:i=k:=ω;rfl
 obtain⟨y,h1,rfl⟩:=h;unfold BC;rw[h1];simp only[d_];rw[ V (ω:(k:Int)<=(s.size:Int))];rfl
def Po{α:Type}(d:α)(g:Nat->α->α)(i:Nat)(l:List α):List α:=l.set i<|g i<|l.getD i d
def Ai1{α:Type}(d:α)(g:Nat->α->α):∀(m i:Nat) (l:List α),i+m=l.length->Ba (Po d g) m i l=l.take i++(List.range' i m).map (λj=>g j<|l.getD j d)
 |0,i,l,h=>by rw[show i=l.length by omega,List.take_length];simp[Ba]
 |m+1,i,l,h=>by
  have hi:i<l.length:=ω;unfold Ba;rw[Ai1 d g m (i+1) _ (by rw[Po,z_];omega)];have o:(Po d g i l).take (i+1)=l.take i++[g i<|l.getD i d]:=by unfold Po;rw[List.take_add_one,List.take_set_of_le ω,List.getElem?_set_self ω];rfl
  rw[o,e8_,N_,bH];congr 2;apply List.map_congr_left;intro j a;rw[List.mem_range']at a;obtain⟨k,p,rfl⟩:=a;unfold Po;rw[g_,List.getElem?_set_ne ω,<-g_]
def WZ(d:α)(g:Nat->α->α)(f:Nat->α)(n:Nat):Ba (Po d g) n 0 ((aW n).map f)=(aW n).map (λj=>g j<|f j):=by rw[Ai1 d g n 0 _ σ,List.take_zero,<-List.range_eq_range'];apply List.map_congr_left;intro j a;rw[List.mem_range]at a;simp[g_,a]
def Am{l:List α}(d x:α)(h:i<l.length):(l.set i x).getD i d=x:=by rw[g_,List.getElem?_set_self h];rfl
def g15(fl t i:Nat)(c:Car):Car:=⟨c.K1,c.N3,c.T3,c.B3,((1+t%3:Nat):Int),((1+t/3%3:Nat):Int),((1+t/9%3:Nat):Int),((1+t/9%3+t/27%5:Nat):Int),(((i+t)%fl:Nat):Int)⟩
def g18(t:Nat)(_:Nat)(c:Car):Car:={ c with K1:=((1+t%16:Nat):Int) }
def g27(a j:Nat)(_:Nat)(c:Car):Car:={ c with T3:=((1+j%4:Nat):Int),B3:=((a%5:Nat):Int) }
def Fk(fl a t:Nat):O:={ Bc fl a with L0:=((1+t%7:Nat):Int),A0:=(aW a).map λi=>g15 fl t i (On fl i) }
def Uk(fl a t:Nat):O:={ Fk fl a t with A0:=(aW a).map λi=>g18 t i (g15 fl t i<|On fl i) }
def FS(fl j a o:Nat):O:={ Fk fl j a with F0:=((1+o%3:Nat):Int),J0:=((18*j+24+6*(o/3):Nat):Int),A0:=(aW j).map λi=>g27 a o i (g18 a i<|g15 fl a i<|On fl i) }
def Adn(h:0<=n)(h':n<256):aN.wrap n=n:=by simp only[I,IntKind.signed,IntKind.bits];simp;omega
def TV(a b:Nat):aO (a:Int) (b:Int)=((a%b:Nat):Int):=by norm_cast
def Bc3(a b:Nat):aV (a:Int) (b:Int)=((a/b:Nat):Int):=by norm_cast
def Ok(k:Nat)(a:t<100000):R.wrap ((1:Int)+R.wrap (aO (t:Int) (k:Int)))=((1+t%k:Nat):Int):=by
 have:t%k<=t:=Nat.mod_le _ _
 rw[TV];generalize t%k=q at this|-;rw[Z (n:=q) ω ω,Z ω ω];norm_cast
def YK(k:Nat)(a:t<256):aN.wrap (aV (t:Int) (k:Int))=((t/k:Nat):Int):=by
 have:t/k<=t:=Nat.div_le_self _ _
 generalize hq:t/k=q at this;rw[Bc3,hq,Adn ω ω]
def As4{fl j:Nat}(h1:1<=fl)(hf:fl<=100)(u:j<=8)(p:t<256):
  NT (((t:Int),(),(),(0:Int),()),(Bldg.none.tup,(Bc fl j).tup,()))=J (((t:Int),(),(),()),(Bldg.none.tup,({ Bc fl j with A0:=(Fk fl j t).A0 }:O).tup,())):=by
 have hl:(Bc fl j).A0.length=j:=by simp[Bc]
 have h:=BN (step:=λx=>letI a:=x.2.2.1.2.2;letI b:=x.2.1.2.2;letI c:=b.2.2;letI d:=a.2.2;GB x.1.1 x.1.2.2.2.1 x.2.1.1 x.2.1.2.1 b.1 b.2.1 c.1 c.2.1 c.2.2.1 c.2.2.2.1 x.2.2.1.1 x.2.2.1.2.1 a.1 a.2.1 d.1 d.2.1 d.2.2.1 d.2.2.2.1) j
  (λi l=>((t,(),(),i,()),(Bldg.none.tup,({ Bc fl j with A0:=l }:O).tup,()))) (Po Ag<|g15 fl t) (λ_ l=>l.length=j) (λl=>((t,(),(),()),(Bldg.none.tup,({ Bc fl j with A0:=l }:O).tup,())))
  (λi l hi o=>by
   refine⟨?_,by rw[Po,z_,o]⟩;show GB _ _ Bldg.none.C0 Bldg.none.F0 Bldg.none.J0 Bldg.none.L0 Bldg.none.I0 Bldg.none.M0 Bldg.none.O0 Bldg.none.A0 (Bc fl j).C0 (Bc fl j).F0 (Bc fl j).J0 (Bc fl j).L0 (Bc fl j).I0 (Bc fl j).M0 (Bc fl j).O0 l=_;unfold GB;have q:i<l.length:=ω;have v:((Bc fl j).C0 !=0)=B:=by show((fl:Int) !=0)=B;simp;omega
   have w:R.wrap (i+1)=((i+1:Nat):Int):=by rw[Z ω ω];omega
   have z:R.wrap (1+R.wrap (aO _ 3))=((1+t%3:Nat):Int):=Ok 3 ω;have N:R.wrap (1+R.wrap (aO (I aN<|aV t 3) 3))=((1+t/3%3:Nat):Int):=by rw[show aN.wrap (aV _ 3)=((t/3:Nat):Int)from YK 3 p];exact Ok 3 ω
   have P:R.wrap (1+R.wrap (aO (I aN<|aV t 9) 3))=((1+t/9%3:Nat):Int):=by rw[show aN.wrap (aV _ 9)=((t/9:Nat):Int)from YK 9 p];exact Ok 3 ω
   have y:R.wrap (((1+t/9%3:Nat):Int)+R.wrap (aO (I aN<|aV t 27) 5))=((1+t/9%3+t/27%5:Nat):Int):=by rw[show aN.wrap (aV _ 27)=((t/27:Nat):Int)from YK 27 p,show aO _ 5=((t/27%5:Nat):Int)from TV _ 5,Z (n:=((t/27%5:Nat):Int)) ω ω,Z ω ω];norm_cast
   have Q:aO (I R<|i+R.wrap t) (Bc fl j).C0=(((i+t)%fl:Nat):Int):=by rw[Z (n:=t) ω ω,Z ω ω];exact TV (i+t) fl
   rw[show Car.mk 0 0 0 0 0 0 0 0 0=Ag from rfl];simp only[V (ω:i<(l.length:Int)),Ac ω (ω:(i:Int)<l.length),l_,v,w,Am Ag _ q,g8_,z,N,P,y,Q];rfl)
  (λl o=>by show GB _ _ Bldg.none.C0 Bldg.none.F0 Bldg.none.J0 Bldg.none.L0 Bldg.none.I0 Bldg.none.M0 Bldg.none.O0 Bldg.none.A0 (Bc fl j).C0 (Bc fl j).F0 (Bc fl j).J0 (Bc fl j).L0 (Bc fl j).I0 (Bc fl j).M0 (Bc fl j).O0 l=_;unfold GB;rw[o,c_<|Z_ _];rfl)
  j 0 (Bc fl j).A0 ω hl
 have u:=AA h.1 ω;rw[show(Bc fl j).A0=(aW j).map _ from rfl,WZ]at u;exact u
def As5{fl j:Nat}(q:fl<=100)(p:j<=8)(v:t<256):
  NU (((t:Int),(),(),(0:Int),()),(Bldg.none.tup,(Fk fl j t).tup,()))=J (((),(),()),(Bldg.none.tup,(Uk fl j t).tup,())):=by
 have hl:(Fk fl j t).A0.length=j:=by simp[Fk]
 have h:=BN (step:=λx=>letI a:=x.2.2.1.2.2;letI b:=x.2.1.2.2;letI c:=b.2.2;letI d:=a.2.2;GC x.1.1 x.1.2.2.2.1 x.2.1.1 x.2.1.2.1 b.1 b.2.1 c.1 c.2.1 c.2.2.1 c.2.2.2.1 x.2.2.1.1 x.2.2.1.2.1 a.1 a.2.1 d.1 d.2.1 d.2.2.1 d.2.2.2.1) j
  (λi l=>((t,(),(),i,()),(Bldg.none.tup,({ Fk fl j t with A0:=l }:O).tup,()))) (Po Ag<|g18 t) (λ_ l=>l.length=j) (λl=>(((),(),()),(Bldg.none.tup,({ Fk fl j t with A0:=l }:O).tup,())))
  (λi l hi o=>by
   refine⟨?_,by rw[Po,z_,o]⟩;show GC _ _ Bldg.none.C0 Bldg.none.F0 Bldg.none.J0 Bldg.none.L0 Bldg.none.I0 Bldg.none.M0 Bldg.none.O0 Bldg.none.A0 (Fk fl j t).C0 (Fk fl j t).F0 (Fk fl j t).J0 (Fk fl j t).L0 (Fk fl j t).I0 (Fk fl j t).M0 (Fk fl j t).O0 l=_;unfold GC;have w:R.wrap (i+1)=((i+1:Nat):Int):=by rw[Z ω ω];omega
   have u:R.wrap (1+R.wrap (aO _ 16))=((1+t%16:Nat):Int):=Ok 16 ω;simp only[V (ω:i<(l.length:Int)),Ac ω (ω:(i:Int)<l.length),w,u];rfl)
  (λl o=>by show GC _ _ Bldg.none.C0 Bldg.none.F0 Bldg.none.J0 Bldg.none.L0 Bldg.none.I0 Bldg.none.M0 Bldg.none.O0 Bldg.none.A0 (Fk fl j t).C0 (Fk fl j t).F0 (Fk fl j t).J0 (Fk fl j t).L0 (Fk fl j t).I0 (Fk fl j t).M0 (Fk fl j t).O0 l=_;unfold GC;rw[o,c_<|Z_ _];rfl)
  j 0 (Fk fl j t).A0 ω hl
 have p:=AA h.1 ω;rw[show(Fk fl j t).A0=(aW j).map _ from rfl,WZ]at p;exact p
def GQ(fl a j o:Nat):O:={ FS fl a j o with A0:=(Uk fl a j).A0 }
def As6{fl o y j p:Nat}(v:o<=8)(P:j<256)(Q:p<256) :
  KG (((),(),(),(0:Int),()),(((y:Int),(j:Int),(p:Int),()),Bldg.none.tup,(GQ fl o j p).tup,()))=J (((),(),()),(Bldg.none.tup,(FS fl o j p).tup,())):=by
 have hl:(GQ fl o j p).A0.length=o:=by simp[GQ,Uk]
 have h:=BN (step:=λx=>letI a:=x.2.2;letI b:=a.2.1.2.2;letI c:=a.1.2.2;letI d:=c.2.2;letI e:=b.2.2;GD x.1.2.2.2.1 x.2.1.1 x.2.1.2.1 x.2.1.2.2.1 a.1.1 a.1.2.1 c.1 c.2.1 d.1 d.2.1 d.2.2.1 d.2.2.2.1 a.2.1.1 a.2.1.2.1 b.1 b.2.1 e.1 e.2.1 e.2.2.1 e.2.2.2.1) o
  (λi l=>(((),(),(),i,()),((y,j,p,()),Bldg.none.tup,({ GQ fl o j p with A0:=l }:O).tup,()))) (Po Ag<|g27 j p) (λ_ l=>l.length=o) (λl=>(((),(),()),(Bldg.none.tup,({ GQ fl o j p with A0:=l }:O).tup,())))
  (λi l hi q=>by
   refine⟨?_,by rw[Po,z_,q]⟩;show GD _ _ _ _ Bldg.none.C0 Bldg.none.F0 Bldg.none.J0 Bldg.none.L0 Bldg.none.I0 Bldg.none.M0 Bldg.none.O0 Bldg.none.A0 (GQ fl o j p).C0 (GQ fl o j p).F0 (GQ fl o j p).J0 (GQ fl o j p).L0 (GQ fl o j p).I0 (GQ fl o j p).M0 (GQ fl o j p).O0 l=_;unfold GD;have u:i<l.length:=ω;have w:R.wrap (i+1)=((i+1:Nat):Int):=by rw[Z ω ω];omega
   have z:R.wrap (1+R.wrap (aO _ 4))=((1+p%4:Nat):Int):=Ok 4 ω;have N:R.wrap (aO j 5)=((j%5:Nat):Int):=by rw[show aO _ 5=((j%5:Nat):Int)from TV j 5,Z ω ω]
   rw[show Car.mk 0 0 0 0 0 0 0 0 0=Ag from rfl];simp only[V (ω:i<(l.length:Int)),Ac ω (ω:(i:Int)<l.length),l_,w,z,N,Am Ag _ u,g8_,z_];rfl)
  (λl q=>by show GD _ _ _ _ Bldg.none.C0 Bldg.none.F0 Bldg.none.J0 Bldg.none.L0 Bldg.none.I0 Bldg.none.M0 Bldg.none.O0 Bldg.none.A0 (GQ fl o j p).C0 (GQ fl o j p).F0 (GQ fl o j p).J0 (GQ fl o j p).L0 (GQ fl o j p).I0 (GQ fl o j p).M0 (GQ fl o j p).O0 l=_;unfold GD;rw[q,c_<|Z_ _];rfl)
  o 0 (GQ fl o j p).A0 ω hl
 have v:=AA h.1 ω;rw[show(GQ fl o j p).A0=(aW o).map _ from rfl,WZ]at v;exact v
def Lw(a:Nat):Nat:=2+a%5
def Ig(a:Nat):Nat:=1+a/5%3
def Aay{a:Nat}(u:a<256)(p:t<256):Ms (a:Int) (t:Int)=J (((),()),((Fk (Lw a) (Ig a) t).tup,())):=by
 have o:R.wrap (2+R.wrap (aO a 5))=((Lw a:Nat):Int):=by rw[show aO _ 5=((a%5:Nat):Int)from TV a 5,Z (n:=((a%5:Nat):Int)) ω ω,Z ω ω];unfold Lw;norm_cast
 have j:R.wrap (1+R.wrap (aO (I aN<|aV a 5) 3))=((Ig a:Nat):Int):=by rw[show aN.wrap (aV _ 5)=((a/5:Nat):Int)from YK 5 u];exact Ok 3 ω
 have hf:2<=Lw a/\Lw a<=6:=by unfold Lw;omega
 have v:1<=Ig a/\Ig a<=3:=by unfold Ig;omega
 have q:R.wrap (1+R.wrap (aO _ 7))=((1+t%7:Nat):Int):=Ok 7 ω;unfold Ms;rw[o,j];refine Ae (Adr ω ω) ?_;refine Ae (As4 ω ω ω p) ?_;rw[q];rfl
def Aaz{a:Nat}(o:a<256)(j:t<256):PG (a:Int) (t:Int)=J (((),()),((Uk (Lw a) (Ig a) t).tup,())):=by
 have hf:2<=Lw a/\Lw a<=6:=by unfold Lw;omega
 have p:1<=Ig a/\Ig a<=3:=by unfold Ig;omega
 refine Ae (Aay o j) ?_;exact Ae (As5 ω ω j) rfl
def Aa0{j p o:Nat}(h0:j<256)(h1:p<256)(q:o<256):Mt (j:Int) (p:Int) (o:Int)=J (((),()),((FS (Lw j) (Ig j) p o).tup,())):=by
 have w:1<=Ig j/\Ig j<=3:=by unfold Ig;omega
 have v:R.wrap (1+R.wrap (aO _ 3))=((1+o%3:Nat):Int):=Ok 3 ω;have hl:(Uk (Lw j) (Ig j) p).A0.length=Ig j:=by simp[Uk]
 have u:R.wrap (I R (I R (18*(((Uk (Lw j) (Ig j) p).A0.length:Nat):Int))+24)+R.wrap (6*R.wrap (I aN<|aV o 3)))=((18*Ig j+24+6*(o/3):Nat):Int):=by
  rw[hl,show aN.wrap (aV _ 3)=((o/3:Nat):Int)from YK 3 q,Z (n:=18*((Ig j:Nat):Int)) ω ω,Z (n:=18*((Ig j:Nat):Int)+24) ω ω,Z (n:=((o/3:Nat):Int)) ω ω,Z (n:=6*((o/3:Nat):Int)) ω ω,Z ω ω]
  norm_cast
 refine Ae (Aaz h0 h1) ?_;refine Ae (a:=(((),(),()),(Bldg.none.tup,(FS _ _ p o).tup,()))) ?_ rfl;show KG (((),(),(),0,()),((j,p,o,()),Bldg.none.tup,(((Lw j:Nat):Int),R.wrap _,R.wrap<|I R (I R (18*(((Uk _ _ p).A0.length:Nat):Int))+24)+R.wrap _,_,_,_,_,_,()),()))=_;rw[v,u];exact As6 ω h1 q
def Aps{fl a j o:Nat}(hf:2<=fl/\fl<=6)(S:1<=a/\a<=3)(P:j<256)(X:o<256):(FS fl a j o).small/\(FS fl a j o).code=0/\(FS fl a j o).A0.length=a/\(FS fl a j o).C0=(fl:Int)/\18*(a:Int)+24<=(FS fl a j o).J0/\(FS fl a j o).J0<=600:=by
 have hl:(FS fl a j o).A0.length=a:=by simp[FS]
 have u:(FS fl a j o).J0=((18*a+24+6*(o/3):Nat):Int):=rfl;refine⟨⟨by show _<=(fl:Int);omega,by show(fl:Int)<=8;omega⟩,?_,hl,rfl,ω,ω⟩;unfold Bldg.code;have v:aK 2 32 (FS fl a j o).C0=B:=Ak.2 (by show _<=(fl:Int)/\(fl:Int)<=32;omega);have w:aK 1 8 ((FS fl a j o).A0.length:Int)=B:=Ak.2 ω;have N:aK 1 16 (FS fl a j o).F0=B:=Ak.2 (by show _<=((1+o%3:Nat):Int)/\((1+o%3:Nat):Int)<=16;omega);have q:aK 1 10000 (FS fl a j o).L0=B:=Ak.2 (by show _<=((1+j%7:Nat):Int)/\((1+j%7:Nat):Int)<=10000;omega);have z:(FS fl a j o).A0.all (BQ (FS fl a j o).C0)=B:=by rw[G_];intro c p;obtain⟨i,_,rfl⟩:=b6_.1 p;have hm:(i+j)%fl<fl:=g4_ _ ω;show BQ fl _=B;unfold BQ g27 g18 g15 On;simp only[T_,f7_,g1_,b_,Ak,r_];rw[Z ω ω];refine⟨⟨?_,?_,?_,?_,?_,?_,?_⟩,?_,?_,?_⟩<;>omega
 have y:(FS fl a j o).loadsOK=B:=by kernel_rfl
 have Q:aK (18*((FS fl a j o).A0.length:Int)+24) 65536 (FS fl a j o).J0=B:=Ak.2 (by rw[hl,u];omega);rw[v,w,N,q,z,y,Q];rfl
def Cm{n:Nat}(h:n<1000000000):R.wrap ((n:Int)+1)=((n+1:Nat):Int):=by rw[Z ω ω];omega
def Avt(l:List Int):(FC l).size=l.length:=by simp[FC,ByteArray.size]
def Avz(x y:Int):Int:=R.wrap<|stk x y<|aX<|(aP (IntKind.bits R) x)^^^(aP (IntKind.bits R) y)
def Ao5(_:Nat)(r:Int):Int:=bif decide (32768<=r)then Avz (aO (I R<|r*2) 65536) 4129 else aO (I R<|r*2) 65536
def As8(s:ByteArray)(i:Nat)(r:Int):Int:=Ba Ao5 8 0<|Avz r<|I R<|I R (BJ s i)*256
def Afz(s:ByteArray):Int:=Ba (As8 s) s.size 0 65535
def Alj(s:ByteArray):ByteArray:=FC [aN.wrap<|I aM<|aV (I aM<|Afz s) 256,aN.wrap<|aO (I aM<|Afz s) 256]
def NO(s:ByteArray):ByteArray:=s++Alj s
def Pw(s:ByteArray):(NO s).size=s.size+2:=by unfold NO Alj;rw[d0_];rfl
def MI(s:ByteArray):ByteArray×Int:=bif decide ((s.size:Int)<2)then(noB,4)else bif eqB (NO<|s.extract 0<|s.size-2) s then(s.extract 0<|s.size-2,0)else(noB,5)
def DU(n:Int)(k:Nat):List Int:=(aW k).map λi=>aN.wrap<|aR n<|(2:Int)^(aL (8*i)<|IntKind.bits .u64)
def nmB(n:Int)(k:Nat):ByteArray:=FC<|DU n k
def Ce(n:Int)(k:Nat):(nmB n k).size=k:=by unfold nmB;rw[Avt];simp[DU]
def Yz(c:Int×Int):ByteArray:=nmB (I aB c.1) 4++nmB (I aB c.2) 4
def Apu(c:Int×Int):(Yz c).size=8:=by unfold Yz;rw[d0_,Ce,Ce]
def Bkj(x y:Int):Int:=aB.wrap<|stk x y<|aX ((aP (IntKind.bits aB) x)|||(aP (IntKind.bits aB) y))
def Qd(l:List Bool)(i:Nat)(n:Int):Int:=bif l.getD i H then Bkj n (I aB<|1*2^min i (IntKind.bits .u64))else n
def ZW(l:List Bool):ByteArray:=nmB (Ba (Qd l) l.length 0 0) 1
def Sd(l:List Bool):(ZW l).size=1:=Ce _ _
structure Inp where
 press:Int×Int
 kind:Int
 car:Int
 cars:List CarInput
def Inp.tup(x:Inp):Int×Int×Int×Int×List aQ×Unit:=(x.press.1,x.press.2,x.kind,x.car,x.cars,())
def Inp.none:Inp:=⟨(0,0),0,0,[]⟩
def CY:aQ:=CarInput.mk 0 H H H H 0 H 0 H 0 0
def flV(b:O)(n:Int):Bool:=aR (I aB n) ((2:Int)^b.C0.toNat)==0
def Pg(b:O)(c:aQ):Bool:=flV b c.H1&&(flV b c.N2&&(aK 0 (b.C0-1) c.D2&&aK 0 2 c.Z1))
def ML(b:O)(c:Int×Int):Bool:=isZ<|Dj c<|Bj b
def Xj(b:O)(x:Inp):Bool:=ML b x.press&&(aK 0 8 x.kind&&(aK 0 ((b.A0.length:Int)-1) x.car&&(!(x.kind==0&&x.car !=0)&&((x.cars.length:Int)==(b.A0.length:Int)&&x.cars.all (Pg b)))))
def OU(s:ByteArray)(c:aQ):ByteArray:=s++nmB (I aB c.H1) 4++ZW [c.T2,c.G2,c.H2,c.U1,c.J2,c.A3]++nmB (I aB c.D2) 1++nmB (I aB c.Z1) 1++nmB (I aB c.N2) 4++nmB ((c.D4:Nat):Int) 8
def Aww(s:ByteArray)(c:aQ):(OU s c).size=s.size+19:=by unfold OU;simp only[d0_,Ce,Sd]
def Pf(b:O)(x:Inp):ByteArray:=nmB 165 1++nmB (I aB (b.A0.length:Int)) 1++Yz x.press++nmB (I aB x.kind) 1++nmB (I aB x.car) 1
def Aew(b:O)(x:Inp):(Pf b x).size=12:=by unfold Pf;simp only[d0_,Ce,Apu]
def inV(b:O)(x:Inp):ByteArray:=NO<|x.cars.foldl OU<|Pf b x
def Aeq(l:List aQ)(s:ByteArray):(l.foldl OU s).size=s.size+19*l.length:=by
 induction l generalizing s with
 |nil=>simp
 |cons c t a=>rw[List.foldl_cons,a,Aww,D_];omega
def Xh(b:O)(x:Inp):(inV b x).size=14+19*x.cars.length:=by unfold inV;rw[Pw,Aeq,Aew];omega
def Bel{a c:Nat}(j:a<65536)(o:c<65536):aM.wrap (stk (a:Int) (c:Int)<|aX<|(aP (IntKind.bits .u16) (a:Int))^^^(aP (IntKind.bits .u16) (c:Int)))=((a^^^c:Nat):Int):=by have h:=e9_ (n:=16) j o;rw[Lk,BitVec.toNat_xor,a4_,a4_];rw[show((a)%((2^IntKind.bits .u16:Nat):Int)).toNat=a by simp only[IntKind.bits];omega,show((c)%((2^IntKind.bits .u16:Nat):Int)).toNat=c by simp only[IntKind.bits];omega];simp only[I,IntKind.signed,IntKind.bits];simp;omega
def Apk{a c:Nat}(j:a<65536)(o:c<65536):Avz (a:Int) (c:Int)=((a^^^c:Nat):Int):=by have h:=e9_ (n:=16) j o;unfold Avz;rw[Lk,BitVec.toNat_xor,a4_,a4_];rw[show((a)%((2^IntKind.bits .i64:Nat):Int)).toNat=a by simp only[IntKind.bits];omega,show((c)%((2^IntKind.bits .i64:Nat):Int)).toNat=c by simp only[IntKind.bits];omega];exact Z ω ω
def Qr(n:Nat):aM.wrap (n:Int)=((n%65536:Nat):Int):=by simp only[I,IntKind.signed,IntKind.bits];simp
def n16(_:Nat)(r:Nat):Nat:=if 32768<=r then(2*r%65536)^^^4129 else 2*r%65536
def Ayb{r:Nat}:n16 i r<65536:=by
 unfold n16;split
 .exact e9_ (n:=16) (g4_ _ τ) τ
 .exact g4_ _ τ
def Bcx{r:Nat}(h:r<65536):Ao5 i (r:Int)=((n16 i r:Nat):Int):=by
 have w:aO (I R<|r*2) 65536=((2*r%65536:Nat):Int):=by rw[Z ω ω,a9_ ω];omega
 unfold Ao5 n16;rw[w];by_cases g:32768<=r
 .rw[V ω,if_pos g];exact Apk (g4_ _ τ) τ
 .rw[c_ ω,j_,if_neg g]
def Bmq{r:Nat}(h:r<65536):(I aM<|stk (I aM<|(r:Int)*((2:Int)^(aL (aG (1:Int))<|IntKind.bits aM))) (I aM<|(aR (r:Int)<|(2:Int)^(aL (aG (15:Int))<|IntKind.bits aM))*(4129:Int))<|aX<|(aP (IntKind.bits aM)<|I aM<|(r:Int)*((2:Int)^(aL (aG (1:Int))<|IntKind.bits aM)))^^^(aP (IntKind.bits aM)<|I aM<|(aR (r:Int)<|(2:Int)^(aL (aG (15:Int))<|IntKind.bits aM))*(4129:Int)))=((n16 i r:Nat):Int):=by
 have j:aM.wrap (r*(2^(aL (aG 1)<|IntKind.bits aM)))=((2*r%65536:Nat):Int):=by rw[show((2:Int)^(aL _ _))=2 from rfl,show _*2=((2*r:Nat):Int)by omega];exact Qr _
 have d:aR r (2^(aL (aG 15)<|IntKind.bits aM))=((r/32768:Nat):Int):=by rw[show((2:Int)^(aL _ _))=32768 from rfl,H_ _ ω];omega
 have a:aM.wrap ((aR r<|2^(aL (aG 15)<|IntKind.bits aM))*4129)=((r/32768*4129:Nat):Int):=by
  rw[d,show _*4129=((r/32768*4129:Nat):Int)by omega,Qr]
  have:r/32768*4129<65536:=ω
  rw[g7_ this]
 rw[j,a,Bel (g4_ _ τ) ω];unfold n16;by_cases g:32768<=r
 .rw[if_pos g,show r/32768*4129=4129 by omega]
 .rw[if_neg g,show r/32768*4129=0 by omega,Nat.xor_zero]
def Aep:∀(k i r:Nat),r<65536->Ba Ao5 k i (r:Int)=((Ba n16 k i r:Nat):Int)/\Ba n16 k i r<65536
 |0,_,_,h=>⟨rfl,h⟩
 |k+1,i,r,h=>by show Ba Ao5 k (i+1) _=_/\_;rw[Bcx h];exact Aep k (i+1) _ Ayb
def Ayn(s:ByteArray){r:Nat}(j:r<65536)(a c:Int):NC ((s,(r:Int),a,c,(0:Int),()),())=J ((s,((Ba n16 8 0 r:Nat):Int),a,c,()),()):=by
 have h:=BN (S:=Nat) (step:=λx=>IP x.1.1 x.1.2.1 x.1.2.2.1 x.1.2.2.2.1 x.1.2.2.2.2.1) 8 (λk r=>((s,r,a,c,k,()),())) n16 (λ_ r=>r<65536) _
  (λk r o j=>by refine⟨?_,Ayb⟩;show IP s (r:Int) a c (k:Int)=_;unfold IP;simp only[V (ω:(k:Int)<8),i_,Cm (ω:k<1000000000)];rw[Bmq j])
  (λr _=>by show IP s _ a c 8=_;unfold IP;rfl) 8 0 r ω j
 exact AA h.1 ω
def byN(s:ByteArray)(i:Nat):Nat:=((bl s).getD i 0).toNat
def Ri(s:ByteArray)(i:Nat):byN s i<256:=UInt8.toNat_lt _
def b16(s:ByteArray)(i:Nat)(r:Nat):Nat:=Ba n16 8 0<|r^^^(byN s i*256)
def s16(s:ByteArray):Nat:=Ba (b16 s) s.size 0 65535
def Alo{r:Nat}(a:r<65536):r^^^(byN s i*256)<65536:=e9_ (n:=16) a (by have:=Ri s i;omega)
def Amv(o:s.size<=1000000):UX s=J ((((s16 s:Nat):Int),()),())/\s16 s<65536:=by
 have h:=BN (S:=Nat) (step:=λx=>IN x.1.1 x.1.2.1 x.1.2.2.1 x.1.2.2.2.1) s.size (λi r=>((s,r,s.size,i,()),())) (b16 s) (λ_ r=>r<65536) _
  (λi r hi a=>by
   refine⟨?_,(Aep 8 0 _<|Alo a).2⟩;show IN s (r:Int) (s.size:Int) (i:Int)=_;unfold IN;have hb:=Ri s i;have z:aM.wrap ((I aM<|BJ s i)*(2^(aL (aG 8)<|IntKind.bits aM)))=((byN s i*256:Nat):Int):=by rw[Jl];show aM.wrap (I aM ((byN s i:Nat):Int)*256)=_;rw[Qr,g7_ ω,show _*256=((byN s i*256:Nat):Int)by omega,Qr,g7_ ω]
   simp only[V (ω:i<(s.size:Int)),Ac ω (ω:(i:Int)<s.size),i_,l_];rw[z,Bel a ω];refine Ae (Ayn s (Alo a) _ _) ?_;rw[Cm ω];rfl)
  (λr _=>by show IN s (r:Int) (s.size:Int) (s.size:Int)=_;unfold IN;rw[c_<|Z_ _];rfl) s.size 0 65535 ω τ
 have j:=AA h.1 ω;exact⟨Ae j rfl,h.2⟩
def Bd5:∀(s:ByteArray) (k i r:Nat),r<65536->Ba (As8 s) k i (r:Int)=((Ba (b16 s) k i r:Nat):Int)
 |_,0,_,_,_=>rfl
 |s,k+1,i,r,h=>by
  have hb:=Ri s i;have e:As8 s i r=((b16 s i r:Nat):Int):=by
   unfold As8 b16;have z:R.wrap (I R (BJ s i)*256)=((byN s i*256:Nat):Int):=by rw[Jl];show R.wrap (I R ((byN s i:Nat):Int)*256)=_;rw[Z (n:=((byN s i:Nat):Int)) ω ω,Z ω ω];omega
   rw[z,Apk h ω];exact(Aep 8 0 _<|Alo h).1
  show Ba _ k (i+1) _=((Ba (b16 s) k (i+1) _:Nat):Int);rw[e];exact Bd5 s k (i+1) _ (Aep 8 0 _<|Alo h).2
def Azb(s:ByteArray):Afz s=((s16 s:Nat):Int):=Bd5 s s.size 0 65535 τ
def XN(n:Nat):aN.wrap (n:Int)=((n%256:Nat):Int):=by simp only[I,IntKind.signed,IntKind.bits];simp
def Ay4(s:ByteArray)(h:s16 s<65536):Alj s=FC [aN.wrap<|aR ((s16 s:Nat):Int)<|(2:Int)^(aL (aG (8:Int))<|IntKind.bits aM),aN.wrap ((s16 s:Nat):Int)]:=by
 have w:aM.wrap (Afz s)=((s16 s:Nat):Int):=by rw[Azb,Qr,g7_ h]
 have o:aV ((s16 s:Nat):Int) 256=((s16 s/256:Nat):Int):=by rw[Int.tdiv_eq_ediv_of_nonneg ω];omega
 have a:aR ((s16 s:Nat):Int) (2^(aL (aG 8)<|IntKind.bits aM))=((s16 s/256:Nat):Int):=by rw[show((2:Int)^(aL _ _))=256 from rfl,H_ _ ω];omega
 have j:aO ((s16 s:Nat):Int) 256=((s16 s%256:Nat):Int):=by rw[a9_ ω];omega
 unfold Alj;rw[w,o,a,j,Qr,XN,XN,XN,XN];congr 3
 .omega
 .congr 1;omega
def Abe(a:s.size<=1000000):RY s=J ((NO s,()),()):=by
 obtain⟨h1,j⟩:=Amv a;refine Ae h1 ?_
 have:=Pw s
 unfold NO at this;rw[d0_]at this;show(bif Nat.ble _ 4611686018427387904 then J _ else none)=_;rw[<-Ay4 s j,AR ω];rfl
def Aqb(a:s.size<=1000000):RX s=J (((MI s).1,(MI s).2,()),()):=by
 unfold RX MI;by_cases h:(s.size:Int)<2
 .have w:R.wrap _=s.size-2:=Z ω ω;simp only[w];rw[V h,V ω];rfl
 .rw[c_ h];have w:R.wrap (s.size-2)=((s.size-2:Nat):Int):=by rw[Z ω ω];omega
  simp only[w,l_];rw[c_ ω,V ω,V ω,f4_,i_];refine Ae (Abe (by rw[Ach s ω];omega)) ?_;cases eqB _ s<;>rfl
def Ago(n:Int)(k:Nat):Bool:=aN.wrap (stk (aR n<|(2:Int)^min k (IntKind.bits .u8)) 1<|aX<|(aP (IntKind.bits aN)<|aR n<|(2:Int)^min k (IntKind.bits .u8))&&&(aP (IntKind.bits aN) 1))==1
def Bl1(a b c d e f:Bool):(0<=Ba (Qd [a,b,c,d,e,f]) 6 0 0/\Ba (Qd [a,b,c,d,e,f]) 6 0 0<64)/\Ago (Ba (Qd [a,b,c,d,e,f]) 6 0 0) 0=a/\Ago (Ba (Qd [a,b,c,d,e,f]) 6 0 0) 1=b/\Ago (Ba (Qd [a,b,c,d,e,f]) 6 0 0) 2=c/\Ago (Ba (Qd [a,b,c,d,e,f]) 6 0 0) 3=d/\Ago (Ba (Qd [a,b,c,d,e,f]) 6 0 0) 4=e/\Ago (Ba (Qd [a,b,c,d,e,f]) 6 0 0) 5=f:=by cases a<;>cases b<;>cases c<;>cases d<;>cases e<;>cases f<;>decide+kernel
def Ek(b:O)(s:ByteArray):Int:=bif(s.size:Int) !=14+19*(b.A0.length:Int)then 4 else bif R.wrap (BJ s 0) !=165 then 30 else bif R.wrap (BJ s 1) !=(b.A0.length:Int)then 30 else(MI s).2
def Bb8(h:(MI s).2=0):2<=s.size/\(MI s).1=s.extract 0 (s.size-2):=by
 unfold MI at h|-;cases q:decide ((s.size:Int)<2)with
 |true=>rw[q]at h;cases h
 |false=>
  rw[q]at h;have q:=o_ q;refine⟨ω,?_⟩;cases a:eqB _ s with
  |true=>rfl
  |false=>rw[a]at h;cases h
def YR(hcode:b.code=0)(s:ByteArray)(u:s.size<=1000000):aC (Oy b.C0 b.F0 b.J0 b.L0 b.I0 b.M0 b.O0 b.A0 s (14+19*(b.A0.length:Int)) 165) λy=>match y with
  |.inl z=>z.1.2.1=Ek b s/\Ek b s≠0
  |.inr z=>Ek b s=0/\z.1.2.1=0/\z.2.1=((s.extract 0<|s.size-2).extract 2<|s.size-2,b.C0,b.F0,b.J0,b.L0,b.I0,b.M0,b.O0,b.A0,()):=by
 unfold Oy Ek;refine aJ (Az b)<|aS (by rw[hcode];rfl) ?_;refine C (λq=>A ?_) λq=>?_
 .rw[q];exact⟨rfl,show 4≠0 by decide⟩
 rw[q];have v:s.size=14+19*(b.A0.length:Int):=by simpa using q
 have w:∀i,R.wrap (BJ s i)=BJ s i:=λi=>by
  rw[Jl]
  have:=Ri s i
  unfold byN at this;exact Z ω ω
 rw[w 0];refine aE (Ac ω ω) (C (λq=>A ?_) λq=>aE (Ac ω ω) (C (λj=>A ?_) λj=>?_))
 .rw[show(BJ s 0 !=165)=B from q];exact⟨rfl,show 30≠0 by decide⟩
 .rw[show(BJ s 0 !=165)=H from q,show(I R (BJ s 1) !=b.A0.length)=B from j];exact⟨rfl,show 30≠0 by decide⟩
 rw[show(BJ s 0 !=165)=H from q,show(I R (BJ s 1) !=b.A0.length)=H from j];refine aJ (Aqb u) (C (λa=>A ⟨rfl,?_⟩) λa=>?_)
 .simpa using a
 have a:(MI s).2=0:=by simpa using a
 obtain⟨N,o⟩:=Bb8 a;have p:(MI s).1.size=s.size-2:=by rw[o,Ach s ω]
 refine aE (V (ω:_<=(((MI s).1.size:Nat):Int)))<|A ⟨a,rfl,?_⟩;rw[p,o]
def Bcb{n:Nat}(h:n<18446744073709551616):orL 0 (n:Int)=(n:Int):=by unfold orL;rw[Lk,BitVec.toNat_or,a4_,a4_];rw[show(0%((2^IntKind.bits .u64:Nat):Int)).toNat=0 from rfl,Nat.zero_or,show((n:Int)%((2^IntKind.bits .u64:Nat):Int)).toNat=n by simp only[IntKind.bits];omega];exact ES ω ω
def Bfq(s:ByteArray):leV s 1=((byN s 0:Nat):Int):=by have hb:=Ri s 0;show orL 0 (I aB<|I aB _*1)=_;rw[Jl,Int.mul_one];show orL 0 (I aB<|I aB ((byN s 0:Nat):Int))=_;rw[ES (n:=((byN s 0:Nat):Int)) ω ω,ES ω ω];exact Bcb ω
def Jm(b:O)(j:1<=s.size){a:Int}(h:((byN s 0:Nat):Int)<=a):BF a s b.C0 b.F0 b.J0 b.L0 b.I0 b.M0 b.O0 b.A0=J ((((byN s 0:Nat):Int),()),((s.extract 1 s.size,b.C0,b.F0,b.J0,b.L0,b.I0,b.M0,b.O0,b.A0,()),())):=by have hb:=Ri s 0;refine Ae (Ml b τ j) ?_;simp only[Bfq];rw[Z ω ω,V h];rfl
def XR(hb:b.small)(j:4<=s.size)(h:C2 b.C0<|I aH<|leV s 4):Fc s b.C0 b.F0 b.J0 b.L0 b.I0 b.M0 b.O0 b.A0=J ((I aH<|leV s 4,()),((s.extract 4 s.size,b.C0,b.F0,b.J0,b.L0,b.I0,b.M0,b.O0,b.A0,()),())):=by have lo:=hb.lo;have hi:=hb.hi;have a:aL _ (IntKind.bits aH)=aG b.C0:=d2_ (by show _<=32;omega);refine Ae (Ml b τ j) ?_;rw[V (ω:(0:Int)<=b.C0),i_];rw[a,QM.2 h];rfl
section
variable{b:O}(hb:b.small)(hcode:b.code=0)
include hb hcode
theorem Tz{u:Int}(h1:vb (bv u&&& ~~~ bv (Bj b).1)=0)(a:vb (bv d&&& ~~~ bv (Bj b).2)=0):LC b.C0 b.F0 b.J0 b.L0 b.I0 b.M0 b.O0 b.A0 u d=J ((B,()),()):=by refine Ae (DL hb hcode) ?_;simp only[TY,h1,a];rfl
theorem Ag8(j:8<=s.size)(h1:vb (bv (I aH<|leV s 4)&&& ~~~ bv (Bj b).1)=0)(a:vb (bv (I aH<|leV (s.extract 4 s.size) 4)&&& ~~~ bv (Bj b).2)=0):GT s b.C0 b.F0 b.J0 b.L0 b.I0 b.M0 b.O0 b.A0=J (((),()),((I aH<|leV s 4,aH.wrap<|leV (s.extract 4 s.size) 4,()),((s.extract 4 s.size).extract 4 (s.extract 4 s.size).size,b.C0,b.F0,b.J0,b.L0,b.I0,b.M0,b.O0,b.A0,()),())):=by
 have e:(s.extract 4 s.size).size=s.size-4:=by rw[ByteArray.size_extract];omega
 refine Ae (Ml b (k:=4) τ ω) ?_;refine Ae (Ml b (k:=4) τ (by rw[e];omega)) ?_;exact Ae (Tz hb hcode h1 a) rfl
end
def Bjk(n:Int)(i:Nat):Bool:=R.wrap (stk (aR n<|(2:Int)^(aL i<|IntKind.bits R)) (1:Int)<|aX<|(aP (IntKind.bits R)<|aR n<|(2:Int)^(aL i<|IntKind.bits R))&&&(aP (IntKind.bits R) (1:Int)))==(1:Int)
def flL(n:Int):List Bool:=(aW 6).map<|Bjk n
def Ag9(b:O)(j:1<=s.size)(h:byN s 0<=63):GU 6 s b.C0 b.F0 b.J0 b.L0 b.I0 b.M0 b.O0 b.A0=J ((flL ((byN s 0:Nat):Int),()),((s.extract 1 s.size,b.C0,b.F0,b.J0,b.L0,b.I0,b.M0,b.O0,b.A0,()),())):=by
 have h1:=BN (step:=λx=>letI a:=x.2.1.2.2.2;letI c:=a.2.2;Ch x.1.1 x.1.2.1 x.1.2.2.1 x.1.2.2.2.1 x.2.1.1 x.2.1.2.1 x.2.1.2.2.1 a.1 a.2.1 c.1 c.2.1 c.2.2.1 c.2.2.2.1) 6 (λi l=>((((byN s 0:Nat):Int),l,6,i,()),((s.extract 1 s.size,b.C0,b.F0,b.J0,b.L0,b.I0,b.M0,b.O0,b.A0,()),()))) (Po H (λi _=>Bjk _ i)) (λ_ l=>l.length=6) _
  (λi l hi hl=>by refine⟨?_,by rw[Po,z_,hl]⟩;show Ch ((byN s 0:Nat):Int) l 6 (i:Int) (s.extract 1 s.size) b.C0 b.F0 b.J0 b.L0 b.I0 b.M0 b.O0 b.A0=_;unfold Ch;simp only[V (ω:(i:Int)<6),Ac ω (ω:(i:Int)<l.length),Cm (ω:i<1000000000)];rfl)
  (λl _=>by show Ch _ l 6 6 _ b.C0 b.F0 b.J0 b.L0 b.I0 b.M0 b.O0 b.A0=_;unfold Ch;rfl) 6 0 ((aW 6).map λ_=>H) rfl rfl
 have o:=AA h1.1 ω;exact Ae (Jm b j (by show _<=63;omega))<|Ae o rfl
def XQ(hcode:b.code=0):ST b.C0 b.F0 b.J0 b.L0 b.I0 b.M0 b.O0 b.A0=J ((14+19*(b.A0.length:Int),23+19*(b.A0.length:Int),()),()):=by have a:=Ah hcode;refine Ae (Az b) ?_;rw[hcode,show((0:Int) !=0)=H from rfl,j_];rw[Z (n:=19*b.A0.length) ω ω,Z ω ω,Z ω ω]
def Aci(hcode:b.code=0)(o:s.size<=1000000)(h:Ek b s≠0):EF b.C0 b.F0 b.J0 b.L0 b.I0 b.M0 b.O0 b.A0 s=J (((),Ek b s,()),(Inp.none.tup,())):=by
 obtain⟨y,h1,a⟩:=YR hcode s o;refine Ae (XQ hcode)<|Ae h1 ?_;cases y with
 |inl z=>
  show(bif z.1.2.1 !=0 then J (((),z.1.2.1,()),(Inp.none.tup,()))else none)=_;have j:(Ek b s !=0)=B:=by simpa using h
  rw[a.1,j,i_]
 |inr z=>exact absurd a.1 h
def tl(k:Nat)(s:ByteArray):ByteArray:=s.extract k s.size
def Er(k:Nat)(s:ByteArray):(tl k s).size=s.size-k:=by unfold tl;rw[ByteArray.size_extract];omega
structure Ck(b:Bldg)(s:ByteArray):Prop where
 size:19<=s.size
 c1:C2 b.C0 (IntKind.u32.wrap (leV s 4))
 fg:byN (tl 4 s) 0<=63
 fl:((byN (tl 1 (tl 4 s)) 0:Nat):Int)<=b.C0-1
 dr:((byN (tl 1 (tl 1 (tl 4 s))) 0:Nat):Int)<=2
 c2:C2 b.C0 (IntKind.u32.wrap (leV (tl 1 (tl 1 (tl 1 (tl 4 s)))) 4))
def rest(s:ByteArray):ByteArray:=tl 8<|tl 4<|tl 1<|tl 1<|tl 1<|tl 4 s
def Ags(s:ByteArray):aQ:=CarInput.mk (I aH<|leV s 4) ((flL ((byN (tl 4 s) 0:Nat):Int)).getD (aG (0:Int)) H) ((flL ((byN (tl 4 s) 0:Nat):Int)).getD (aG (1:Int)) H) ((flL ((byN (tl 4 s) 0:Nat):Int)).getD (aG (2:Int)) H) ((flL ((byN (tl 4 s) 0:Nat):Int)).getD (aG (3:Int)) H) ((byN (tl 1<|tl 4 s) 0:Nat):Int) ((flL ((byN (tl 4 s) 0:Nat):Int)).getD (aG (4:Int)) H) ((byN (tl 1<|tl 1<|tl 4 s) 0:Nat):Int) ((flL ((byN (tl 4 s) 0:Nat):Int)).getD (aG (5:Int)) H) (I aH<|leV (tl 1<|tl 1<|tl 1<|tl 4 s) 4)<|aG<|leV (tl 4<|tl 1<|tl 1<|tl 1<|tl 4 s) 8
def Ahd(hb:b.small)(h:Ck b s){N:Nat}(hi:i<N)(v:N<=8)(u d k c:Int){cs:List aQ}(o:cs.length<=1000)(e:Int):Cb (N:Int) (i:Int) u d k c cs e s b.C0 b.F0 b.J0 b.L0 b.I0 b.M0 b.O0 b.A0=J (.inl (((),(),(),(N:Int),((i+1:Nat):Int),()),((u,d,k,c,cs++[Ags s],()),(e,()),(rest s,b.C0,b.F0,b.J0,b.L0,b.I0,b.M0,b.O0,b.A0,()),()))):=by have lo:=hb.lo;have a:=hb.hi;have p:=h.size;unfold Cb;rw[V ω];refine Ae (XR hb ω h.c1) ?_;refine Ae (Ag9 b (s:=tl 4 s) (by rw[Er];omega) h.fg) ?_;have hin:∀j:Nat,j<6->inB j (flL ((byN (tl 4 s) 0:Nat):Int)).length=B:=λj q=>Ac ω (by rw[show(flL _).length=6 by simp[flL]];omega);refine Yu (hin 0 τ)<|Yu (hin 1 τ)<|Yu (hin 2 τ)<|Yu (hin 3 τ)<|Yu (hin 4 τ)<|Yu (hin 5 τ) ?_;refine Ae (Jm b (s:=tl 1 _) (by rw[Er,Er];omega) (by show _<=R.wrap (b.C0-1);rw[Z ω ω];exact h.fl)) ?_;refine Ae (Jm b (s:=tl 1 _) (by rw[Er,Er,Er];omega) h.dr) ?_;refine Ae (XR hb (s:=tl 1 _) (by rw[Er,Er,Er,Er];omega) h.c2) ?_;refine Ae (Ml b (k:=8) (s:=tl 4 _) τ (by rw[Er,Er,Er,Er,Er];omega)) ?_;refine Yu (AR (by simp only[D_,b7_];omega)) ?_;unfold Ags rest tl;rw[Cm ω]
def SD:Nat->ByteArray->ByteArray
 |0,s=>s
 |n+1,s=>SD n<|rest s
def NI:Nat->ByteArray->List aQ
 |0,_=>[]
 |n+1,s=>Ags s::NI n (rest s)
def Aij:∀(n:Nat) (s:ByteArray),(NI n s).length=n
 |0,_=>rfl
 |n+1,s=>by show(NI n _).length+1=_;rw[Aij n]
def Abk{b:O}(hb:b.small){N:Nat}(p:N<=8)(u d k c e:Int):∀(m i:Nat) (s:ByteArray) (cs:List aQ),i+m=N->cs.length=i->(∀j,j<m->Ck b (SD j s))->BM (λx=>letI a:=x.2.2.2.1.2.2;letI f:=a.2.2;letI g:=x.2.1.2;Cb x.1.2.2.2.1 x.1.2.2.2.2.1 x.2.1.1 g.1 g.2.1 g.2.2.1 g.2.2.2.1 x.2.2.1.1 x.2.2.2.1.1 x.2.2.2.1.2.1 a.1 a.2.1 f.1 f.2.1 f.2.2.1 f.2.2.2.1 f.2.2.2.2.1) (m+1) (((),(),(),(N:Int),(i:Int),()),((u,d,k,c,cs,()),(e,()),(s,b.C0,b.F0,b.J0,b.L0,b.I0,b.M0,b.O0,b.A0,()),()))=J (((),(),()),((u,d,k,c,cs++NI m s,()),(e,()),(SD m s,b.C0,b.F0,b.J0,b.L0,b.I0,b.M0,b.O0,b.A0,()),()))
 |0,i,s,cs,hm,_,_=>by refine AU ?_;show Cb (N:Int) (i:Int) u d k c cs e s b.C0 b.F0 b.J0 b.L0 b.I0 b.M0 b.O0 b.A0=_;unfold Cb;rw[c_ (ω:¬(i:Int)<(N:Int)),j_,show cs++NI 0 s=cs from a1_ cs];rfl
 |m+1,i,s,cs,hm,hl,h=>by have h1:=Ahd hb (h 0 ω) (i:=i) ω p u d k c (cs:=cs) ω e;have o:=Abk hb p u d k c e m (i+1) _ (cs++[Ags s]) ω (by rw[f_,L_,hl]) λj q=>h (j+1) ω;rw[N_]at o;exact(BH h1).trans o
def Ahc(hb:b.small){N:Nat}(a:N<=8)(h:∀j,j<N->Ck b (SD j s))(u d k c e:Int):Eg (((),(),(),(N:Int),0,()),((u,d,k,c,[],()),(e,()),(s,b.C0,b.F0,b.J0,b.L0,b.I0,b.M0,b.O0,b.A0,()),()))=J (((),(),()),((u,d,k,c,NI N s,()),(e,()),(SD N s,b.C0,b.F0,b.J0,b.L0,b.I0,b.M0,b.O0,b.A0,()),())):=AA (Abk hb a u d k c e N 0 s [] (n_ _) rfl h) ω
structure Hd(b:Bldg)(s:ByteArray):Prop where
 size:10<=s.size
 u:vb (bv (IntKind.u32.wrap (leV s 4))&&& ~~~ bv (Bj b).1)=0
 d:vb (bv (IntKind.u32.wrap (leV (tl 4 s) 4))&&& ~~~ bv (Bj b).2)=0
 kind:((byN (tl 4 (tl 4 s)) 0:Nat):Int)<=8
 car:((byN (tl 1 (tl 4 (tl 4 s))) 0:Nat):Int)<=(b.A0.length:Int)-1
 none:byN (tl 4 (tl 4 s)) 0=0->byN (tl 1 (tl 4 (tl 4 s))) 0=0
 cars:∀j,j<b.A0.length->Ck b (SD j (tl 1 (tl 1 (tl 4 (tl 4 s)))))
def hdP(n:Nat)(s:ByteArray):Inp:=⟨(I aH<|leV s 4,aH.wrap<|leV (tl 4 s) 4),((byN (tl 4<|tl 4 s) 0:Nat):Int),((byN (tl 1<|tl 4<|tl 4 s) 0:Nat):Int),NI n<|tl 1<|tl 1<|tl 4<|tl 4 s⟩
def Aet(hb:b.small)(hcode:b.code=0)(h:Hd b s):∃z,Gt s b.C0 b.F0 b.J0 b.L0 b.I0 b.M0 b.O0 b.A0=J (((),(),()),((hdP b.A0.length s).tup,((0:Int),()),z)):=by
 have j:=Ah hcode;have o:=h.size;refine⟨((SD b.A0.length<|tl 1<|tl 1<|tl 4<|tl 4 s,b.C0,b.F0,b.J0,b.L0,b.I0,b.M0,b.O0,b.A0,()),()),?_⟩;refine Ae (Ag8 hb hcode ω h.u h.d) ?_;refine Ae (Jm b (s:=tl 4<|tl 4 s) (by rw[Er,Er];omega) h.kind) ?_;refine Ae (Jm b (s:=tl 1 _) (by rw[Er,Er,Er];omega) (by show _<=R.wrap (b.A0.length-1);rw[Z ω ω];exact h.car)) ?_;refine Ae (a:=(((),(),(),()),((I aH _,aH.wrap _,((byN _ 0:Nat):Int),((byN _ 0:Nat):Int),([]:List aQ),()),(0,()),(tl 1 _,b.C0,b.F0,b.J0,b.L0,b.I0,b.M0,b.O0,b.A0,()),()))) ?_<|Ae (Ahc hb j.2 h.cars _ _ _ _ 0) rfl;cases q:(((byN _ 0:Nat):Int) !=0)with
 |true=>rfl
 |false=>
  have q:((byN (tl 4<|tl 4 s) 0:Nat):Int)=0:=by simpa using q
  rw[h.none ω];rfl
def RT(hb:b.small)(hcode:b.code=0)(p:s.size<=1000000)(h:Ek b s=0)(u:Hd b<|(s.extract 0<|s.size-2).extract 2<|s.size-2):EF b.C0 b.F0 b.J0 b.L0 b.I0 b.M0 b.O0 b.A0 s=J (((),(0:Int),()),((hdP b.A0.length<|(s.extract 0<|s.size-2).extract 2<|s.size-2).tup,())):=by
 obtain⟨y,h1,a⟩:=YR hcode s p;obtain⟨z,q⟩:=Aet hb hcode u;refine Ae (XQ hcode)<|Ae h1 ?_;cases y with
 |inl z=>exact absurd h a.2
 |inr w=>obtain⟨_,o,j⟩:=a;show(bif w.1.2.1 !=0 then _ else _)=_;rw[o];rw[j];exact Ae q rfl
def Bf1{a c:Nat}(j:a<2^i)(o:c<256)(hi:i+8<=64):orL (a:Int) (I aB<|I aB (c:Int)*((2^i:Nat):Int))=((a+c*2^i:Nat):Int):=by
 have h1:c*2^i<2^(i+8):=by rw[Nat.pow_add,f3_];exact Nat.mul_lt_mul_of_pos_left o<|Nat.two_pow_pos i
 have w:2^(i+8)<=2^64:=Nat.pow_le_pow_right τ hi;have v:2^i<=2^64:=Nat.pow_le_pow_right τ ω;have u:=Nat.or_lt_two_pow (n:=64) (x:=a) (y:=c*2^i) ω ω;have q:a|||c*2^i=a+c*2^i:=by rw[Nat.or_comm,<-Nat.shiftLeft_eq,<-Nat.shiftLeft_add_eq_or_of_lt j,d7_]
 unfold orL;rw[ES (n:=c) ω ω,show _*((2^i:Nat):Int)=((c*2^i:Nat):Int)by rw[Int.natCast_mul],<-q];generalize c*2^i=p at*;rw[ES (n:=p) ω ω];rw[Lk,BitVec.toNat_or,a4_,a4_];rw[show(a%((2^IntKind.bits .u64:Nat):Int)).toNat=a by simp only[IntKind.bits];omega,show(p%((2^IntKind.bits .u64:Nat):Int)).toNat=p by simp only[IntKind.bits];omega];exact ES ω ω
def leN(s:ByteArray):Nat->Nat
 |0=>0
 |i+1=>leN s i+byN s i*2^(8*i)
def Ax0(s:ByteArray):∀i,leN s i<2^(8*i)
 |0=>by show 0<1;decide
 |i+1=>by
  have h:=Ax0 s i;have hb:=Ri s i;show leN s i+byN s i*2^(8*i)<2^(8*i+8);rw[Nat.pow_add]
  have:byN s i*2^(8*i)<=255*2^(8*i):=w_ _ ω
  omega
def Ary(s:ByteArray):∀i,i<=8->leV s i=((leN s i:Nat):Int)
 |0,_=>rfl
 |i+1,h=>by show orL _ _=_;rw[Ary s i ω,Jl,show(2^(aL _ _))=((2^(8*i):Nat):Int)by rw[show aL _ _=8*i by show min _ 64=8*i;omega];norm_cast];exact Bf1 (Ax0 s i) (Ri s i) ω
def Ww(l:List Int):bl (FC l)=l.map λn=>UInt8.ofNat n.toNat:=by simp[bl,FC]
def Awv{n:Nat}(hi:i<k)(j:k<=8)(r:ByteArray):byN (nmB (n:Int) k++r) i=n/2^(8*i)%256:=by
 have hl:(DU n k).length=k:=by simp[DU]
 have a:(DU n k)[i]?=J ((n/2^(8*i)%256:Nat):Int):=by unfold DU;rw[b3_,List.getElem?_range hi];show J (I aN _)=_;rw[show aL (8*i) _=8*i by show min (8*i) 64=8*i;omega,H_ _<|Int.le_of_lt<|Int.pow_pos τ,show _^(8*i)=((2^(8*i):Nat):Int)by norm_cast];simp only[I,IntKind.signed,IntKind.bits];simp
 unfold byN nmB;rw[OT,Ww,g_,b2_ (by rw[d3_,hl];exact hi),b3_,a];show n/2^(8*i)%256%256=_;omega
def Ax1{n k:Nat}(a:k<=8)(r:ByteArray):∀i,i<=k->leN (nmB (n:Int) k++r) i=n%2^(8*i)
 |0,_=>by show 0=n%1;omega
 |i+1,h=>by show leN _ i+byN _ i*2^(8*i)=n%2^(8*i+8);rw[Ax1 a r i ω,Awv ω a,Nat.pow_add,Nat.mod_mul,f3_<|2^(8*i)]
def Ax2(n:Int)(a:k<=8)(j:0<=n)(r:ByteArray):leV (nmB n k++r) k=((n.toNat%2^(8*k):Nat):Int):=by obtain⟨m,rfl⟩:=c6_ j;rw[Ary _ _ a,Ax1 a r k<|t_ k,l_]
def Ga{a:ByteArray}(h:a.size=k)(r:ByteArray):tl k (a++r)=r:=by subst h;unfold tl;apply Rh;rw[Rf,OT,List.drop_left'<|Fx a,d0_,<-Fx r];exact a3_ ω
def Bbn(h:0<=n/\n<4294967296)(r:ByteArray):aH.wrap (leV (nmB n 4++r) 4)=n:=by rw[Ax2 n τ h.1,show n.toNat%2^(8*4)=n.toNat by omega];simp only[I,IntKind.signed,IntKind.bits];simp;omega
def Lr(h:0<=n/\n<256)(r:ByteArray):((byN (nmB n 1++r) 0:Nat):Int)=n:=by obtain⟨m,rfl⟩:=c6_ h.1;rw[Awv τ τ];omega
def KV:List aQ->ByteArray
 |[]=>noB
 |c::l=>nmB (I aB c.H1) 4++(ZW [c.T2,c.G2,c.H2,c.U1,c.J2,c.A3]++(nmB (I aB c.D2) 1++(nmB (I aB c.Z1) 1++(nmB (I aB c.N2) 4++(nmB ((c.D4:Nat):Int) 8++KV l)))))
def ZK(c:aQ)(l:List aQ):KV (c::l)=nmB (I aB c.H1) 4++(ZW [c.T2,c.G2,c.H2,c.U1,c.J2,c.A3]++(nmB (I aB c.D2) 1++(nmB (I aB c.Z1) 1++(nmB (I aB c.N2) 4++(nmB ((c.D4:Nat):Int) 8++KV l))))):=rfl
def Beu(s:ByteArray):s++noB=s:=Rh (by rw[OT,show bl noB=[]from rfl,a1_])
def Xa:∀(l:List aQ) (s:ByteArray),l.foldl OU s=s++KV l
 |[],s=>(Beu s).symm
 |c::l,s=>by rw[List.foldl_cons,Xa l,ZK];unfold OU;simp only[ByteArray.append_assoc]
def Vu(x:Inp):ByteArray:=nmB (I aB x.press.1) 4++(nmB (I aB x.press.2) 4++(nmB (I aB x.kind) 1++(nmB (I aB x.car) 1++KV x.cars)))
def Aak(b:O)(x:Inp):((inV b x).extract 0<|(inV b x).size-2).extract 2 ((inV b x).size-2)=Vu x:=by
 have e:x.cars.foldl OU (Pf b x)=(nmB 165 1++nmB (I aB b.A0.length) 1)++Vu x:=by rw[Xa];unfold Pf Yz Vu;simp only[ByteArray.append_assoc]
 have a:(nmB 165 1++nmB (I aB b.A0.length) 1).size=2:=by rw[d0_,Ce,Ce]
 unfold inV;rw[Pw,Nat.add_sub_cancel];generalize x.cars.foldl OU _=t at e;have j:(NO t).extract 0 t.size=t:=by unfold NO;apply Rh;rw[Rf,Nat.sub_zero];exact d9_<|Fx t
 rw[j,e];exact Ga a _
def Jq(n:Int):0<=aB.wrap n/\aB.wrap n<18446744073709551616:=by simp only[I,IntKind.bits];simp;exact⟨f2_ _ τ,f1_ _ τ⟩
def Bfk(a b c d e f:Bool)(r:ByteArray):byN (ZW [a,b,c,d,e,f]++r) 0<=63:=by
 have h:∀n:Int,0<=n/\n<64->byN (nmB n 1++r) 0<=63:=λn h=>by
  have:=Lr (n:=n) ω r
  omega
 refine h _ ?_;cases a<;>cases b<;>cases c<;>cases d<;>cases e<;>cases f<;>decide
section
variable{b:O}(hb:b.small)
include hb
theorem Af4:4<=2^b.C0.toNat/\2^b.C0.toNat<=(256:Nat):=by have lo:=hb.lo;have hi:=hb.hi;have h:b.C0.toNat=2\/b.C0.toNat=3\/b.C0.toNat=4\/b.C0.toNat=5\/b.C0.toNat=6\/b.C0.toNat=7\/b.C0.toNat=8:=ω;rcases h with h|h|h|h|h|h|h<;>rw[h]<;>decide
theorem Ar4(h:flV b n=B)(r:ByteArray):C2 b.C0<|I aH<|leV (nmB (I aB n) 4++r) 4:=by have h1:=QM.1 h;have o:=Af4 hb;obtain⟨a,j⟩:=h1;rw[Bbn ω];exact⟨a,j⟩
theorem Aga{c:aQ}(h:Pg b c=B)(l:List aQ):Ck b (KV<|c::l)/\rest (KV<|c::l)=KV l:=by
 have hi:=hb.hi;unfold Pg at h;simp only[b_]at h;obtain⟨h1,z,o,p⟩:=h;have o:=Ak.1 o;have p:=Ak.1 p;have u:∀n:Int,0<=n/\n<256->aB.wrap n=n:=λn h=>ES h.1 ω;rw[ZK];have a:=λr=>Ga (Ce (I aB c.H1) 4) r;have j:=λr=>Ga (Sd [c.T2,c.G2,c.H2,c.U1,c.J2,c.A3]) r;have q:=λr=>Ga (Ce (I aB c.D2) 1) r;have v:=λr=>Ga (Ce (I aB c.Z1) 1) r;have w:=λr=>Ga (Ce (I aB c.N2) 4) r;have y:=λr=>Ga (Ce (c.D4:Int) 8) r;refine⟨⟨?_,?_,?_,?_,?_,?_⟩,?_⟩
 .simp only[d0_,Ce,Sd];omega
 .exact Ar4 hb h1 _
 .rw[a];exact Bfk ..
 .rw[a,j,u _ ω,Lr ω];exact o.2
 .rw[a,j,q,u _ ω,Lr ω];exact p.2
 .rw[a,j,q,v];exact Ar4 hb z _
 .unfold rest;rw[a,j,q,v,w,y]
theorem Afj:∀(l:List aQ),(∀c∈l,Pg b c=B)->∀j,j<l.length->Ck b (SD j<|KV l)
 |[],_,_,o=>absurd o<|Y_ _
 |c::l,h,0,_=>(Aga hb (h c<|C_ ..) l).1
 |c::l,h,j+1,o=>by show Ck b (SD j _);rw[(Aga hb (h c<|C_ ..) l).2];exact Afj l (λa p=>h a<|F_ _ p) j (by rw[D_]at o;omega)
end
def Wi(n:Int)(r:ByteArray):aH.wrap (leV (nmB (I aB n) 4++r) 4)=aH.wrap n:=by
 have h:=Jq n;rw[Ax2 _ τ h.1];have e:aB.wrap n=n%18446744073709551616:=by simp only[I,IntKind.signed,IntKind.bits];simp
 simp only[I,IntKind.signed,IntKind.bits];simp;omega
def Awu(n:Int):bv (I aH n)=bv n:=by unfold bv;apply BitVec.eq_of_toNat_eq;simp only[ I,IntKind.signed,IntKind.bits];simp
def Av1(hb:b.small)(hcode:b.code=0){x:Inp}(h:Xj b x=B):Hd b (Vu x)/\(hdP b.A0.length<|Vu x).press=(I aH x.press.1,aH.wrap x.press.2)/\(hdP b.A0.length<|Vu x).kind=x.kind/\(hdP b.A0.length<|Vu x).car=x.car:=by
 have z:=Ah hcode;unfold Xj at h;simp only[b_,I_]at h;obtain⟨h1,v,w,Q,Y,X⟩:=h;have v:=Ak.1 v;have w:=Ak.1 w;have u:∀n:Int,0<=n/\n<256->aB.wrap n=n:=λn h=>ES h.1 ω;have a:=λr=>Ga (Ce (I aB x.press.1) 4) r;have o:=λr=>Ga (Ce (I aB x.press.2) 4) r;have p:=λr=>Ga (Ce (I aB x.kind) 1) r;have S:=λr=>Ga (Ce (I aB x.car) 1) r;have P:vb (bv x.press.1&&& ~~~ bv (Bj b).1)=0/\vb (bv x.press.2&&& ~~~ bv (Bj b).2)=0:=by
  unfold ML isZ at h1;have h1:(Dj x.press<|Bj b).1=0/\(Dj x.press<|Bj b).2=0:=by simpa using h1
  exact h1
 have k1:∀r,((byN (nmB (I aB x.kind) 1++r) 0:Nat):Int)=x.kind:=λr=>by rw[u _ ω,Lr ω]
 have y:∀r,((byN (nmB (I aB x.car) 1++r) 0:Nat):Int)=x.car:=λr=>by rw[u _ ω,Lr ω]
 unfold Vu;refine⟨⟨?_,?_,?_,?_,?_,?_,?_⟩,?_,?_,?_⟩
 .simp only[d0_,Ce];omega
 .rw[Wi,Awu];exact P.1
 .rw[a,Wi,Awu];exact P.2
 .rw[a,o,k1];exact v.2
 .rw[a,o,p,y];exact w.2
 .rw[a,o,p];intro q;have N:=k1<|nmB (I aB x.car) 1++KV x.cars;have q2:=y<|KV x.cars;rw[q]at N
  have:x.car=0:=by rw[<-N]at Q;simpa using Q
  omega
 .rw[a,o,p,S];intro j hj;exact Afj hb x.cars (λc z=>G_.1 X c z) j ω
 .unfold hdP;rw[a,Wi,Wi]
 .unfold hdP;rw[a,o];exact k1 _
 .unfold hdP;rw[a,o,p];exact y _
def Bm3(b:O)(x:Inp):Prop:=Xj b x=B/\Jw x.press
def FrX(b:O)(x:Inp)(s:ByteArray):Prop:=s.size=(inV b x).size/\s.extract 0 (s.size-2)=(inV b x).extract 0 (s.size-2)
def Fr(b:O)(s:ByteArray):Prop:=∃x,Bm3 b x/\FrX b x s
def As{l:List α}{j:Nat}(d x:α)(h:i≠j):(l.set i x).getD j d=l.getD j d:=by rw[g_,List.getElem?_set_ne h,<-g_]
structure InOK(b:Bldg)(x:Inp):Prop where
 press:ML b x.press=true
 pu:Jw x.press
 kind:0<=x.kind/\x.kind<=8
 car:0<=x.car/\x.car<(b.A0.length:Int)
 len:x.cars.length=b.A0.length
 flo:∀c∈x.cars,0<=c.H1/\c.H1<4294967296
def Aii:∀(n:Nat) (s:ByteArray),∀c∈NI n s,0<=c.H1/\c.H1<4294967296
 |0,_,_,h=>by cases h
 |n+1,s,c,h=>by
  rcases A_.1 h with rfl|h
  .exact FB _
  .exact Aii n _ c h
def Fr.good{x:Inp}(h:FrX b x s)(a:Ek b s=0):s=inV b x:=by
 obtain⟨h1,v⟩:=h;have j:(MI s).2=0:=by
  unfold Ek at a;cases o:(s.size !=14+19*(b.A0.length:Int))with
  |true=>rw[o]at a;cases a
  |false=>
  rw[o]at a;cases p:(I R _ !=165)with
  |true=>rw[p]at a;cases a
  |false=>
  rw[p]at a;cases u:(I R _ !=b.A0.length)with
  |true=>rw[u]at a;cases a
  |false=>rw[u]at a;exact a
 have hi:=Xh b x;unfold MI at j;rw[c_ ω,v]at j;cases q:eqB _ s with
 |false=>rw[q]at j;cases j
 |true=>have q:=Ari.1 q;rw[<-q,h1];unfold inV;rw[Pw];generalize x.cars.foldl OU _=t;congr 1;unfold NO;apply Rh;rw[Rf,Nat.sub_zero];exact(d9_<|Fx t)
def ZP(h:0<=n/\n<4294967296):aH.wrap n=n:=by simp only[I,IntKind.signed,IntKind.bits];simp;omega
def RdX(b:O)(s:ByteArray):Prop:=∃x:Inp,EF b.C0 b.F0 b.J0 b.L0 b.I0 b.M0 b.O0 b.A0 s=J (((),Ek b s,()),(x.tup,()))/\(Ek b s≠0->x=Inp.none)/\(Ek b s=0->InOK b x)
def Aes(hb:b.small)(hcode:b.code=0)(w:Fr b s):RdX b s:=by
 have P:=Ah hcode;obtain⟨x,⟨hx,j⟩,hf⟩:=w;have z:x.cars.length=b.A0.length:=by unfold Xj at hx;simp only[b_,I_]at hx;omega
 have p:s.size<=1000000:=by rw[hf.1,Xh];omega
 by_cases a:Ek b s=0
 .have e:=Fr.good hf a;subst e;obtain⟨y,u,v,Q⟩:=Av1 hb hcode hx;have h:=RT hb hcode p a (by rw[Aak];exact y);rw[Aak]at h;refine⟨_,by rw[a];exact h,λg=>absurd a g,λ_=>?_⟩;unfold Xj at hx;simp only[b_]at hx;obtain⟨N,o,q,_⟩:=hx;have o:=Ak.1 o;have q:=Ak.1 q;refine⟨?_,?_,?_,?_,Aij _ _,Aii _ _⟩
  .rw[u,ZP j.1,ZP j.2];exact N
  .rw[u,ZP j.1,ZP j.2];exact j
  .rw[v];exact o
  .omega
 .exact⟨Inp.none,Aci hcode p a,λ_=>rfl,λg=>absurd g a⟩
def Uq(n:Int):aC (LA n) λy=>y.1.1=B->2<=n/\n<=32:=by exact U (C (λq=>A λg=>⟨k_ q,k_ g⟩) λ_=>A λg=>(by cases g)) λ_ h=>A h
def Akd(j:2<=n/\n<=32)(f d:Int):aC (Rw n f d) λy=>y.1.1=B->0<=f/\f<n:=by
 have w:R.wrap (n-1)=n-1:=Z ω ω;have p:aC (bif(d==2)then bif(decide<|0<f)then J (((decide<|f<n),()),())else J ((H,()),())else J ((H,()),())) λ(y:(Bool×Unit)×Unit)=>y.1.1=B->0<=f/\f<n:=C (λ_=>C (λq=>A λg=>by have:=k_ q;have:=k_ g;omega) λ_=>A λg=>(by cases g)) λ_=>A λg=>(by cases g)
 exact U (C (λ_=>C (λq=>C (λa=>A λ_=>by have:=k_ q;have a:=k_ a;rw[w]at a;omega) λ_=>p) λ_=>p) λ_=>p) λ_ h=>A h
def VP(h:0<=n)(a c d:Int):aC (Mq n a c d) λy=>(0<=y.2.1.1/\y.2.1.1<4294967296)/\U2 y.2.1.2.1 y.2.1.2.2.1:=by exact aE (V h)<|aJ (rfl:DN ..=_)<|A ⟨FB _,FB _,FB _⟩
def Amt(a c d:Int):aC (SS n a c d) λy=>0<=y.1.1/\y.1.1<=1000:=by
 refine U (Uq n) λw h1=>C (λ_=>A τ) λq=>?_;have h1:=h1 (by simpa using q);refine U (VP ω a c d) λo j=>U (Xw j.1) λz v=>?_;refine U (Q:=λy=>0<=y.1.1/\y.1.1<=510) ?_ λu N=>A ?_
 .unfold Rv;refine U (Xw j.2.1) λp k1=>U (Xw j.2.2) λP S=>A ?_;show 0<=R.wrap _/\R.wrap _<=510;rw[Z ω ω];omega
 .show 0<=R.wrap _/\R.wrap _<=1000;rw[Z ω ω];omega
def nf(x:Int):Prop:=-1<=x/\x<=300
def Amu{l:List Int}(hl:l.length<=10){a c:Int}(o:nf a)(u:nf c)(hx:∀x∈l,nf x):aC (CP l a c) λy=>0<=y.1.1/\y.1.1<=4400:=by
 refine aE (e2_ (by simp only[D_,b7_];omega)) ?_;refine U ?_ λ_ h=>A h;have w:(l++[c]).length<=11:=by rw[f_,L_];omega
 have j:∀x∈l++[c],nf x:=λx h=>by
  rcases m_.1 h with h|h
  .exact hx x h
  .rw[y_.1 h];exact u
 refine bA (λk x=>∃(n p:Int) (i:Nat),x=((n,p,l++[c],((l++[c]).length:Int),(i:Int),()),((a,()),(c,()),()))/\i+k=(l++[c]).length/\nf p/\0<=n/\n<=400*i) ?_ (l++[c]).length ⟨0,a,0,rfl,ω,o,τ,τ⟩ ω;rintro k x ⟨n,p,i,rfl,N,hp,P,v⟩;show aC (Nh n p _ ((l++[c]).length:Int) i a c) _;refine C (λq=>?_) λ_=>A (ω:0<=n/\n<=4400);have q:=k_ q;simp only[Cm (ω:i<1000000000)];have hv:=Bbi j (i:=i) (d:=0) ω;refine aE (Ac ω ω)<|A ⟨k-1,ω,_,_,i+1,rfl,ω,hv,?_⟩;rw[l_];generalize(l++[c]).getD i 0=z at hv|-;unfold nf at hp hv;rw[Z (n:=z-p) ω ω,Z (n:=p-z) ω ω];by_cases g:z-p<p-z
 .rw[V g,i_,Z ω ω];omega
 .rw[c_ g,j_,Z ω ω];omega
def Aqa(n f w a c d g e:Int):aC (UW n f w a c d g e) λy=>-1<=y.1.1/\y.1.1<=4400:=by
 have no:(-1)<=-1/\(-1)<=4400:=by decide
 refine U (Uq n) λy1 h1=>C (λ_=>A no) λq1=>C (λ_=>A no) λq2=>C (λ_=>A no) λq4=>C (λ_=>A no) λ_=>C (λ_=>A no) λ_=>?_;have h1:=h1 (by simpa using q1);have q2:=o_ q2;have q4:=o_ q4;refine U (Akd h1 g e) λy2 q=>C (λ_=>A no) λq3=>?_;have q:=q (by simpa using q3);refine U (VP ω a c d) λy3 _=>aE (V ω)<|aE (V q.1) ?_;refine U (Ah7 _) λy4 h4=>U (Alf _) λy5 h5=>?_;have o:nf<|I R<|y5.1.1-1:=by rw[Z ω ω];exact⟨ω,ω⟩
 have X:nf y4.1.1:=⟨ω,ω⟩
 have h0:nf f:=⟨ω,ω⟩
 have h3:nf g:=⟨ω,ω⟩
 generalize R.wrap _=z at o;have j:nf y4.1.1/\nf z/\nf f/\nf g:=⟨X,o,h0,h3⟩;refine U (Q:=λy=>nf y.1.2.2.1/\nf y.1.2.2.2.1/\nf y.2.1.1/\nf y.2.2.1.1) ?_ λy6 h6=>U (Q:=λy=>nf y.1.2.2.1/\nf y.1.2.2.2.1/\nf y.2.1.1/\nf y.2.2.1.1) ?_ λy7 v=>?_
 .exact C (λ_=>C (λ_=>A j) λ_=>C (λ_=>A j) λ_=>A j) λ_=>C (λ_=>A j) λ_=>A j
 .exact C (λ_=>A h6) λ_=>C (λ_=>A h6) λ_=>A h6
 have p:∀(l:List Int) {a c:Int},l.length<=10->nf a->nf c->(∀x∈l,nf x)->aC (bC (CP l a c) λP=>J ((P.1.1,()),())) λy=>-1<=y.1.1/\y.1.1<=4400:=λl a c hl ha hc hx=>U (Amu hl ha hc hx) λy h=>A ⟨Int.le_trans τ h.1,h.2⟩;have Y:∀{x:Int},nf x->∀y∈[x],nf y:=λh y u=>by rw[y_.1 u];exact h
 have m2:∀{x z:Int},nf x->nf z->∀y∈[x,z],nf y:=λh q y u=>by
  rcases A_.1 u with rfl|u
  .exact h
  .exact Y q y u
 refine C (λ_=>p _ (W_ _) v.2.2.1 v.2.2.2 λx hx=>by cases hx) λ_=>U (Q:=λy=>nf y.1.2.2.1/\nf y.1.2.2.2.1/\nf y.2.1.1/\nf y.2.2.1.1) ?_ λy9 h9=>?_
 .exact C (λ_=>A v) λ_=>A v
 obtain⟨k1,S,N,k4⟩:=h9;exact C (λ_=>p _ (show 1<=10 by decide) N k4<|Y S) λ_=>C (λ_=>p _ (show 1<=10 by decide) N k4<|Y k1) λ_=>C (λ_=>p _ (show 2<=10 by decide) N k4<|m2 S k1) λ_=>p _ (show 2<=10 by decide) N k4<|m2 k1 S
def Ij(h:b.code=0){c:Car}(j:c∈b.A0):BQ b.C0 c=B:=by
 unfold Bldg.code at h;cases h1:aK 2 32 b.C0<;>rw[h1]at h
 .cases h
 cases q:aK 1 8 _<;>rw[q]at h
 .cases h
 cases o:aK 1 16 b.F0<;>rw[o]at h
 .cases h
 cases p:aK 1 10000 b.L0<;>rw[p]at h
 .cases h
 cases a:b.A0.all _<;>rw[a]at h
 .cases h
 exact G_.1 a c j
def Ad7(h:b.code=0)(hi:i<b.A0.length):(0<=(b.A0.getD i Ag).V1/\(b.A0.getD i Ag).V1<=10000)/\(0<=(b.A0.getD i Ag).B1/\(b.A0.getD i Ag).B1<=10000)/\(0<=(b.A0.getD i Ag).F1/\(b.A0.getD i Ag).F1<=10000)/\0<=(b.A0.getD i Ag).B3/\(b.A0.getD i Ag).B3<=10000:=by have a:BQ b.C0 (b.A0.getD i Ag)=B:=Ij h<|Av _ hi;unfold BQ at a;simp only[T_,b_,Ak]at a;omega
def Uo(b:O)(car:Int)(v:aD)(a dir:Int):aC (FI b.C0 b.F0 b.J0 b.L0 b.I0 b.M0 b.O0 b.A0 car v.B4 v.R3 v.V3 v.G4 v.D0 v.H0 v.D4 v.A4 v.J3 v.H3 v.L2 v.E2 a dir) λy=>0<=y.1.1/\y.1.1<=1000000:=by
 have one:(0:Int)<=1000000/\(1000000:Int)<=1000000:=by decide
 refine aJ (Az b) (C (λ_=>A one) λhc=>C (λ_=>A one) λP=>C (λ_=>A one) λS=>?_);have P:=o_ P;have S:=o_ S;have hcode:b.code=0:=by simpa using hc
 have Y:inB car b.A0.length=B:=Ac ω ω;refine U (Q:=λy=>y.1.1=car/\y.2.1=b.tup) (C (λ_=>A ⟨rfl,rfl⟩) λ_=>A ⟨rfl,rfl⟩) λy2 h2=>?_;obtain⟨⟨j,ya⟩,yb,yv⟩:=y2;obtain⟨N,X⟩:=h2;simp only at N X;subst N X;have ht:=Ad7 hcode (ω:j.toNat<b.A0.length);refine U (Aqa ..) λu h3=>C (λ_=>A one) λz=>aE Y ?_;have z:=o_ z;refine U (Amt ..) λo h4=>A ?_;have w:∀n:Int,0<=n->0<=(bif decide _ then _ else n)/\(bif decide _ then _ else n)<=1000000:=λn hn=>by
  by_cases g:1000000<n
  .rw[V g];exact one
  .rw[c_ g,j_];omega
 refine w _ ?_;show 0<=R.wrap (I R (u.1.1*(b.A0.getD j.toNat Ag).V1)+R.wrap (o.1.1*R.wrap (I R (2*(b.A0.getD j.toNat Ag).B1)+(b.A0.getD j.toNat Ag).F1)));generalize b.A0.getD j.toNat Ag=c at ht;have k1:0<=u.1.1*c.V1/\u.1.1*c.V1<=4400*10000:=⟨Int.mul_nonneg ω ω,Int.mul_le_mul ω ω ω τ⟩
 rw[Z (n:=2*c.B1) ω ω,Z (n:=2*c.B1+c.F1) ω ω];have k2:0<=o.1.1*(2*c.B1+c.F1)/\o.1.1*(2*c.B1+c.F1)<=1000*30000:=⟨Int.mul_nonneg ω ω,Int.mul_le_mul ω ω ω τ⟩
 generalize o.1.1*(2*c.B1+c.F1)=p at k2;generalize u.1.1*c.V1=q at k1;rw[Z (n:=q) ω ω,Z (n:=p) ω ω,Z ω ω];omega
def Ah8(n:Int):Prop:=0<=n/\n<4294967296
structure View.ok(v:View):Prop where
 c:Ah8 v.H3
 u:Ah8 v.L2
 d:Ah8 v.E2
noncomputable def Am7(b:O)(car:Int)(v:aD)(a dir:Int):Option<|(Int×Unit)×Unit:=FI b.C0 b.F0 b.J0 b.L0 b.I0 b.M0 b.O0 b.A0 car v.B4 v.R3 v.V3 v.G4 v.D0 v.H0 v.D4 v.A4 v.J3 v.H3 v.L2 v.E2 a dir
noncomputable def Tv(b:O)(car:Int)(v:aD)(a dir:Int):Int:=match Am7 b car v a dir with|some r=>r.1.1|none=>0
def Arm(o:b.small){v:aD}(j:v.ok)(car a dir:Int):Am7 b car v a dir=J ((Tv b car v a dir,()),()):=by obtain⟨r,h,_⟩:=Uo b car v a dir;have h':Am7 b car v a dir=J r:=h;rw[show Tv b car v a dir=r.1.1 by unfold Tv;rw[h']];exact h'
def Bfh(b:O)(car:Int)(v:aD)(a dir:Int):0<=Tv b car v a dir/\Tv b car v a dir<=1000000:=by obtain⟨r,h,j⟩:=Uo b car v a dir;have h':Am7 b car v a dir=J r:=h;rw[show Tv b car v a dir=r.1.1 by unfold Tv;rw[h']];exact j
def Uw(v:aD):Bool:=v.D4==3||v.D4==4
def Qa(v:aD):Hq v.B4 v.R3 v.V3 v.G4 v.D0 v.H0 v.D4 v.A4 v.J3 v.H3 v.L2 v.E2=J ((Uw v,()),()):=by unfold Hq Uw;cases v.D4==3<;>rfl
def Ab4(a b:Int×Int):Bool:=decide (a.1<b.1)||(a.1==b.1&&decide (a.2<b.2))
def Tj(a b:Int×Int):IU a.1 a.2 b.1 b.2=J ((Ab4 a b,()),()):=by
 unfold IU Ab4;by_cases h:a.1=b.1
 .by_cases h':a.2=b.2
  .rw[h,h',q_,q_,c_ ω,c_ ω];rfl
  .rw[h,q_,Ao h',c_ ω];rfl
 .rw[Ao h];cases decide (a.1<b.1)<;>rfl
def AC(vs:List aD)(i:Int):aD:=vs.getD i.toNat<|View.mk H H H H 0 0 0 0 0 0 0 0
def okViews(vs:List aD):Prop:=∀v∈vs,v.ok
def View.ok_none:View.ok<|View.mk H H H H 0 0 0 0 0 0 0 0:=⟨⟨τ,τ⟩,⟨τ,τ⟩,⟨τ,τ⟩⟩
def okViews.at(h:okViews vs)(i:Int):(AC vs i).ok:=by
 unfold AC;rw[g_];cases hq:vs[i.toNat]? with
 |none=>exact View.ok_none
 |some v=>exact h v<|p_ hq
noncomputable def SC(b:O)(vs:List aD)(a dir:Int)(car:Int):Int×Int:=((bif Uw (AC vs car)then 1 else 0),Tv b car (AC vs car) a dir)
def Qb(hb:b.small)(hv:okViews vs){car:Int}(j:0<=car/\car<vs.length)(a dir:Int):
  KX b.C0 b.F0 b.J0 b.L0 b.I0 b.M0 b.O0 b.A0 vs car a dir=J (((),()),(((SC b vs a dir car).1,(SC b vs a dir car).2,()),())):=by
 unfold KX;have e:FI b.C0 b.F0 b.J0 b.L0 b.I0 b.M0 b.O0 b.A0 car (AC vs car).B4 (AC vs car).R3 (AC vs car).V3 (AC vs car).G4 (AC vs car).D0 (AC vs car).H0 (AC vs car).D4 (AC vs car).A4 (AC vs car).J3 (AC vs car).H3 (AC vs car).L2 (AC vs car).E2 a dir=_:=Arm hb (hv.at car) car a dir;rw[Ac j.1 j.2];show(FI b.C0 b.F0 b.J0 b.L0 b.I0 b.M0 b.O0 b.A0 car (AC vs car).B4 (AC vs car).R3 (AC vs car).V3 (AC vs car).G4 (AC vs car).D0 (AC vs car).H0 (AC vs car).D4 (AC vs car).A4 (AC vs car).J3 (AC vs car).H3 (AC vs car).L2 (AC vs car).E2 a dir).bind (λo=>(Hq (AC vs car).B4 (AC vs car).R3 (AC vs car).V3 (AC vs car).G4 (AC vs car).D0 (AC vs car).H0 (AC vs car).D4 (AC vs car).A4 (AC vs car).J3 (AC vs car).H3 (AC vs car).L2 (AC vs car).E2).bind _)=_;rw[e,Qa];unfold SC;cases Uw _<;>rfl
noncomputable def NY(b:O)(vs:List aD)(j dir o:Int)(i a:Int):Int:=bif !(AC vs i).B4||i==o then a else bif a==-1||Ab4 (SC b vs j dir i) (SC b vs j dir a)then i else a
noncomputable def Ak3(b:O)(vs:List aD)(j dir a:Int):Nat->Nat->Int->Int
 |0,_,o=>o
 |m+1,i,o=>Ak3 b vs j dir a m (i+1)<|NY b vs j dir a i o
noncomputable def Kd(b:O)(vs:List aD)(j dir a:Int):Int:=bif b.code !=0||(vs.length:Int) !=(b.A0.length:Int)then -1 else Ak3 b vs j dir a vs.length 0 (-1)
def Ra(vs:List aD)(a:Int):Prop:=a=-1\/(0<=a/\a<vs.length)
def Abd{o dir a:Int}(hi:i<vs.length){j:Int}(h:Ra vs j):Ra vs<|NY b vs o dir a i j:=by
 unfold NY;cases(!(AC vs i).B4||i==a)with
 |true=>exact h
 |false=>
  simp only[j_];cases(j==-1||Ab4 _ _)with
  |true=>exact .inr (by simp only[i_];omega)
  |false=>exact h
def QY{b:O}(hb:b.small){vs:List aD}(hv:okViews vs)(hl:vs.length<=100)(o dir j:Int) :
  ∀(m i:Nat) (p z y:Int),i+m=vs.length->Ra vs p->(p≠ -1->(z,y)=SC b vs o dir p)->
   BM (λx=>letI a:=x.2.1.2.2;letI c:=x.1.2.2.2.2.2;letI d:=a.2.2;Gf x.1.1 x.1.2.1 x.1.2.2.1 x.1.2.2.2.1 c.1 c.2.2.1 c.2.2.2.1 c.2.2.2.2.1 x.2.1.1 x.2.1.2.1 a.1 a.2.1 d.1 d.2.1 d.2.2.1 d.2.2.2.1 x.2.2.1.1 x.2.2.1.2.1) (m+1) ((vs,o,dir,j,(),p,(),vs,(vs.length:Int),(i:Int),()),(b.tup,(z,y,()),()))=J ((Ak3 b vs o dir j m i p,()),())
 |0,i,p,z,y,hi,hin,P=>by
  refine AU ?_;show Gf vs o dir j p vs (vs.length:Int) (i:Int) b.C0 b.F0 b.J0 b.L0 b.I0 b.M0 b.O0 b.A0 z y=_;unfold Gf;have e:decide ((i:Int)<(vs.length:Int))=H:=by simp;omega
  rw[e];rfl
 |m+1,i,p,z,y,hi,hin,P=>by
  have Q:i<vs.length:=ω;have e:decide (i<(vs.length:Int))=B:=by simp;omega
  have Y:inB i vs.length=B:=Ac ω ω;have w:R.wrap (i+1)=((i+1:Nat):Int):=by rw[Z ω ω];omega
  have X:∃u v,(NY b vs o dir j i p≠ -1->(u,v)=SC b vs o dir (NY b vs o dir j i p))/\Gf vs o dir j p vs vs.length i b.C0 b.F0 b.J0 b.L0 b.I0 b.M0 b.O0 b.A0 z y=J (.inl ((vs,o,dir,j,(),NY b vs o dir j i p,(),vs,vs.length,((i+1:Nat):Int),()),(b.tup,(u,v,()),()))):=by
   unfold Gf;have k1:=Qb hb hv (car:=i) ω o dir;rw[e,Y,w];unfold NY;rw[show vs.getD _ _=AC vs _ from rfl];cases(AC vs _).B4 with
   |false=>exact⟨z,y,P,rfl⟩
   |true=>
    cases _==j with
    |true=>exact⟨z,y,P,rfl⟩
    |false=>
     simp only[ k1];rcases hin with q|q
     .subst q;rw[show((-1)==-1)=B from rfl];simp only[i_,d_,w];exact⟨_,_,λ_=>rfl,rfl⟩
     .have N:=P ω;have S:=b5_ Prod.fst N;have e2:=b5_ Prod.snd N;subst S e2;rw[Ao ω];simp only[j_,d_,Tj];cases Ab4 _ _ with
      |true=>simp only[ w];exact⟨_,_,λ_=>rfl,rfl⟩
      |false=>simp only[ w];exact⟨_,_,λ_=>rfl,rfl⟩
  obtain⟨u,v,h1,h2⟩:=X;exact(BH h2).trans<|QY hb hv hl o dir j m (i+1) _ u v ω (Abd Q hin) h1
def NX(hb:b.small)(hv:okViews vs)(hl:vs.length<=100)(j dir a:Int):
  Hf b.C0 b.F0 b.J0 b.L0 b.I0 b.M0 b.O0 b.A0 vs j dir a=J ((Kd b vs j dir a,()),()):=by
 unfold Hf Kd;rw[Az,d_];cases b.code !=0 with
 |true=>rfl
 |false=>
  cases _ !=(b.A0.length:Int)with
  |true=>rfl
  |false=>have h:=AA (QY hb hv hl j dir a vs.length 0 (-1) 0 0 ω (.inl rfl) (λh=>absurd rfl h)) ω;have h':MO _=_:=h;refine(b5_ (λz=>bC z _) h').trans ?_;rfl
def Al8{b:O}{vs:List aD}{o dir j:Int}:∀(m i:Nat) (a:Int),i+m=vs.length->Ra vs a->Ra vs (Ak3 b vs o dir j m i a)
 |0,_,_,_,h=>h
 |m+1,i,a,hi,h=>Al8 m (i+1) _ ω<|Abd ω h
def Si(b:O)(vs:List aD)(j dir a:Int):Ra vs<|Kd b vs j dir a:=by
 unfold Kd;cases(b.code !=0||vs.length !=(b.A0.length:Int))with
 |true=>exact .inl rfl
 |false=>exact Al8 vs.length 0 (-1) ω<|.inl rfl
noncomputable def Agn(b:O)(vs:List aD)(e:aA)(x n:Int):Bool:=((AC vs e.X0).V3&&(x==0&&Ab4 (SC b vs e.D0 e.H0 n) (SC b vs e.D0 e.H0 e.X0)))||(!(AC vs e.X0).V3&&(Uw (AC vs e.X0)&&!Uw (AC vs n)))
noncomputable def Nn(b:O)(vs:List aD)(e:aA)(x:Int):Int:=bif Kd b vs e.D0 e.H0 e.X0==-1 then -1 else bif Agn b vs e x (Kd b vs e.D0 e.H0 e.X0)then Kd b vs e.D0 e.H0 e.X0 else -1
noncomputable def GI(b:O)(vs:List aD)(e:aA)(x:Int):aA:=
 bif e.X0==-2 then e
 else bif e.X0==-1 then⟨e.D0,e.H0,Kd b vs e.D0 e.H0<|-1,e.B2,e.Y2⟩
 else bif(AC vs e.X0).G4 then(bif decide ((b.A0.length:Int)<e.B2)then⟨e.D0,e.H0,-2,e.B2,e.Y2⟩else⟨e.D0,e.H0,Kd b vs e.D0 e.H0 e.X0,e.B2+1,e.Y2⟩)
 else bif !e.Y2&&decide (e.B2<=(b.A0.length:Int))then(bif Nn b vs e x != -1 then⟨e.D0,e.H0,Nn b vs e x,e.B2+1,B⟩else e)
 else e
def Entry.tup(e:aA):Int×Int×Int×Int×Bool×Unit:=(e.D0,e.H0,e.X0,e.B2,e.Y2,())
section
variable{b:O}(hb:b.small){vs:List aD}(hv:okViews vs)(hl:vs.length<=100){e:aA}
include hb hv hl
theorem Ac6(o:0<=e.X0/\e.X0<vs.length)(x:Int):GN b.C0 b.F0 b.J0 b.L0 b.I0 b.M0 b.O0 b.A0 vs e.D0 e.H0 e.X0 e.B2 e.Y2 x=J ((Nn b vs e x,()),()):=by
 unfold GN Nn;have a:=Si b vs e.D0 e.H0 e.X0;rw[NX hb hv hl];generalize Kd b vs e.D0 e.H0 e.X0=n at a;simp only[d_];rcases a with rfl|a
 .rfl
 .have k1:=Qb hb hv a e.D0 e.H0;have u:=Qb hb hv o e.D0 e.H0;have p:=Qa<|AC vs e.X0;have q:=Qa<|AC vs n;rw[Ao ω,Ac o.1 o.2];unfold Agn;unfold AC at p q|-;cases j:(vs.getD e.X0.toNat _).V3 with
  |true=>
   cases x==0 with
   |true=>simp only[ k1,u,d_,Tj];cases Ab4 _ _<;>rfl
   |false=>rfl
  |false=>
   rw[j]at p;simp only[j_,d_,p];cases Uw _ with
   |false=>rfl
   |true=>simp only[ Ac a.1 a.2,q];cases Uw _<;>rfl
theorem Aa5(v:-2<=e.X0/\e.X0<vs.length)(hm:0<=e.B2/\e.B2<=255)(x:Int):Gn b.C0 b.F0 b.J0 b.L0 b.I0 b.M0 b.O0 b.A0 vs e.D0 e.H0 e.X0 e.B2 e.Y2 x=J (((),()),((GI b vs e x).tup,())):=by
 unfold Gn GI;have w:R.wrap _=e.B2+1:=Z ω ω;by_cases p:e.X0=-2
 .rw[show(e.X0==-2)=B by rw[p];rfl];rfl
 rw[Ao p];by_cases u:e.X0=-1
 .rw[show(e.X0==-1)=B by rw[u];rfl];simp only[ NX hb hv hl];rfl
 rw[Ao u];have a:0<=e.X0/\e.X0<vs.length:=ω;have q:=Ac6 hb hv hl a x;unfold AC;simp only[ Ac a.1 a.2];cases j:(vs.getD e.X0.toNat _).G4 with
 |true=>
  cases decide (b.A0.length<e.B2)with
  |true=>rfl
  |false=>simp only[ Ac a.1 a.2,i_,j,NX hb hv hl,d_,w];rfl
 |false=>
  simp only[j_,d_,Ac a.1 a.2,i_,j];cases o:e.Y2 with
  |true=>simp only[a8_,j_,d_,e6_];unfold Entry.tup;rw[o]
  |false=>
   rw[o]at q;simp only[bD,i_,d_,b1_];cases decide (e.B2<=b.A0.length)with
   |false=>simp only[j_];unfold Entry.tup;rw[o]
   |true=>
    simp only[i_,q,d_,w];cases Nn b vs e x != -1 with
    |true=>rfl
    |false=>simp only[j_];unfold Entry.tup;rw[o]
end
def Pr(j a:aA):List aF:=(bif j.B2 !=a.B2||!(j.Y2==a.Y2)then [⟨7,a.D0,a.H0,(bif a.Y2 then 1 else 0),a.B2⟩]else [])++(bif j.X0 !=a.X0 then [⟨3,a.D0,a.H0,a.X0,0⟩]else [])
def Ajl(a b:aA):(Pr a b).length<=2:=by unfold Pr;cases(a.B2 !=b.B2||!(a.Y2==b.Y2))<;>cases a.X0 !=b.X0<;>simp
def Aa1(a c:aA):Ku a.D0 a.H0 a.X0 a.B2 a.Y2 c.D0 c.H0 c.X0 c.B2 c.Y2=J ((Pr a c,()),()):=by
 unfold Ku Pr;have o:∀r:aF,Nat.ble (([]:List aF).length+[r].length) 2147483648=B:=λ_=>AR σ;have p:∀r s:aF,Nat.ble (([]++[s]:List aF).length+[r].length) 2147483648=B:=λ_ _=>AR σ;cases a.B2 !=c.B2<;>cases a.Y2==c.Y2<;>cases hm:c.Y2<;>cases j:a.X0 !=c.X0<;>
  simp only[i_,j_,d_,a8_,bD,o,p,j]<;>rfl
def Aaa(b:O)(i:Int):Car:=b.A0.getD i.toNat<|Car.mk 0 0 0 0 0 0 0 0 0
noncomputable def Aan(b:O)(vs:List aD)(e n:aA)(x:Int):Int:=
 bif n.X0 !=e.X0&&decide (0<=n.X0)then(bif decide (1000000<R.wrap (Tv b n.X0 (AC vs n.X0) e.D0 e.H0+(Aaa b n.X0).B3))then 1000000 else R.wrap (Tv b n.X0 (AC vs n.X0) e.D0 e.H0+(Aaa b n.X0).B3))
 else(bif decide (I R (x-1)<0)then 0 else R.wrap (x-1))
noncomputable def HF(b:O)(vs:List aD):List aA->List Int->List aF
 |e::t,x::xs=>Pr e (GI b vs e x)++HF b vs t xs
 |_,_=>[]
noncomputable def LS(b:O)(vs:List aD):List aA->List Int->List Int
 |e::t,x::xs=>Aan b vs e (GI b vs e x) x::LS b vs t xs
 |_,_=>[]
def Aw8(b:O)(vs:List aD)(e:aA)(x:Int):(GI b vs e x).D0=e.D0/\(GI b vs e x).H0=e.H0:=by unfold GI;cases e.X0==-2<;>cases e.X0==-1<;>cases(AC vs e.X0).G4<;>cases decide (b.A0.length<e.B2)<;>cases(!e.Y2&&decide (e.B2<=b.A0.length))<;>cases Nn b vs e x != -1<;>exact⟨rfl,rfl⟩
def Ayl(b:O)(vs:List aD)(e:aA)(x:Int):Ra vs<|Nn b vs e x:=by
 unfold Nn;cases Kd b vs e.D0 e.H0 e.X0==-1 with
 |true=>exact .inl rfl
 |false=>
  cases Agn b vs e x _ with
  |true=>exact Si ..
  |false=>exact .inl rfl
def Ard(b:O)(h:-2<=e.X0/\e.X0<vs.length)(x:Int):-2<=(GI b vs e x).X0/\(GI b vs e x).X0<vs.length:=by
 have k:∀n:Int,Ra vs n->-2<=n/\n<vs.length:=λn h=>by
  rcases h with rfl|h
  .omega
  .omega
 unfold GI;by_cases a:e.X0=-2
 .rw[show(e.X0==-2)=B by rw[a];rfl];exact h
 rw[Ao a];by_cases j:e.X0=-1
 .rw[show(e.X0==-1)=B by rw[j];rfl];exact k _<|Si ..
 rw[Ao j];cases(AC vs e.X0).G4 with
 |true=>
  cases decide (b.A0.length<e.B2)with
  |true=>exact⟨by show _<=-2;omega,by show(-2)<_;omega⟩
  |false=>exact k _<|Si ..
 |false=>
  cases(!e.Y2&&decide (e.B2<=b.A0.length))with
  |true=>
   cases Nn b vs e x != -1 with
   |true=>exact k _<|Ayl ..
   |false=>exact h
  |false=>exact h
def Ait{b:O}:∀{l:List aA}{p:Option aA},Iz b p l=B->∀e∈l,Iy b e=B
 |[],_,_,_,he=>by cases he
 |a::t,p,h,e,he=>by
  simp only[Iz,b_]at h;rcases A_.1 he with rfl|he
  .exact h.1
  .exact Ait h.2.2 e he
def Wc(N:List α)(a v:α)(t:List α):(N++a::t).set N.length v=N++v::t:=by
 induction N with
 |nil=>rfl
 |cons h N j=>simp only[bG,D_,List.set_cons_succ,j]
section
variable{b:O}(hb:b.small){vs:List aD}(hv:okViews vs)(hl:vs.length<=100)(hlen:(vs.length:Int)=(b.A0.length:Int)){m:aI}(hm:∀e∈m.B0,Iy b e=B)(hm':m.B0.length<=1000){xs:List Int}(hx:xs.length=m.B0.length)
include hb hv hl hlen hm hm' hx
theorem Tl:∀(k i:Nat) (out:List aF) (N:List Int),i+k=m.B0.length->N.length=i->out.length<=2*i->
  BM (λx=>letI a:=x.2.2.1.2.2;letI c:=x.1.2.2.2.2;letI d:=x.2.1.2.2;letI f:=a.2.2;letI g:=d.2.2;Hj x.1.1 x.1.2.1 c.1 c.2.1 c.2.2.1 c.2.2.2.1 c.2.2.2.2.1 x.2.1.1 x.2.1.2.1 d.1 d.2.1 g.1 g.2.1 g.2.2.1 g.2.2.2.1 x.2.2.1.1 x.2.2.1.2.1 a.1 a.2.1 f.1 f.2.1 f.2.2.1 f.2.2.2.1 f.2.2.2.2.1) (k+1)
   ((xs,vs,(),(),out,N++aU k 0,m.B0,(m.B0.length:Int),(i:Int),()),(b.tup,(b.C0,b.F0,b.J0,b.L0,b.I0,b.M0,b.O0,b.A0,vs,()),()))=J ((out++HF b vs (m.B0.drop i) (xs.drop i),N++LS b vs (m.B0.drop i) (xs.drop i),()),())
 |0,i,out,N,hi,X,ho=>by
  refine AU ?_;show Hj xs vs out (N++[]) m.B0 (m.B0.length:Int) (i:Int) b.C0 b.F0 b.J0 b.L0 b.I0 b.M0 b.O0 b.A0 b.C0 b.F0 b.J0 b.L0 b.I0 b.M0 b.O0 b.A0 vs=_;unfold Hj;have e:decide ((i:Int)<(m.B0.length:Int))=H:=by simp;omega
  rw[e,show i=m.B0.length by omega];simp[HF,LS]
 |k+1,i,out,N,hi,X,ho=>by
  have Q:i<m.B0.length:=ω;have h1:i<xs.length:=ω;have e:decide (i<(m.B0.length:Int))=B:=by simp;omega
  have ib:inB i m.B0.length=B:=Ac ω ω;have h0:inB i xs.length=B:=Ac ω ω;have h3:inB i (N++aU (k+1) 0).length=B:=Ac ω (by simp;omega);have w:R.wrap (i+1)=((i+1:Nat):Int):=by rw[Z ω ω];omega
  have h2:=Av W Q;have p:=hm _ h2;simp only[Iy,b_,r_]at p;obtain⟨_,c1,c2,c3,c4⟩:=p;have hd:=Aa5 hb hv hl ω ⟨c3,c4⟩<|xs.getD i 0;have hr:=Aa1 (m.B0.getD i W)<|GI b vs (m.B0.getD i W)<|xs.getD i 0;have hin:=Ard b (vs:=vs) (e:=m.B0.getD i W) ω<|xs.getD i 0;have h5:=Ajl (m.B0.getD i W)<|GI b vs (m.B0.getD i W)<|xs.getD i 0;have z:Nat.ble (out.length+(Pr (m.B0.getD i W)<|GI b vs (m.B0.getD i W)<|xs.getD i 0).length) 2147483648=B:=AR ω;have S:∀v:Int,(N++aU (k+1) 0).set i v=N++v::aU k 0:=λv=>by rw[<-X];exact Wc N 0 v _
  have q:∀v u:Int,(N++v::aU k _).set i u=N++u::aU k 0:=λv u=>by rw[<-X];exact Wc N v u _
  have y:∀v:Int,inB i (N++v::aU k 0).length=B:=λv=>Ac ω (by simp;omega);rw[CV W Q,CV 0 h1];refine(BH (x':=((xs,vs,(),(),out++Pr (m.B0.getD i W) (GI b vs (m.B0.getD i W)<|xs.getD i 0),(N++[Aan b vs (m.B0.getD i W) (GI b vs (m.B0.getD i W)<|xs.getD i 0)<|xs.getD i 0])++aU k 0,m.B0,(m.B0.length:Int),((i+1:Nat):Int),()),(b.tup,(b.C0,b.F0,b.J0,b.L0,b.I0,b.M0,b.O0,b.A0,vs,()),()))) ?_).trans ?_
  .show Hj xs vs out _ m.B0 _ _ b.C0 b.F0 b.J0 b.L0 b.I0 b.M0 b.O0 b.A0 b.C0 b.F0 b.J0 b.L0 b.I0 b.M0 b.O0 b.A0 vs=_;unfold Hj;rw[e,ib,h0,show aY 0 0 0 0 H=W from rfl];unfold Entry.tup at hd;simp only[ l_,hd,d_,hr,z,h3,S];unfold Aan;have o:=Arm hb (hv.at (GI b vs (m.B0.getD i W)<|xs.getD i 0).X0) (GI b vs (m.B0.getD i W)<|xs.getD i 0).X0 (m.B0.getD i W).D0 (m.B0.getD i W).H0;unfold Am7 AC at o;cases h4:((GI b vs _ _).X0 !=(m.B0.getD i W).X0)with
   |false=>simp only[j_,d_,N_,w];rfl
   |true=>
    simp only[i_,d_];by_cases j:0<=(GI b vs (m.B0.getD i W)<|xs.getD i 0).X0
    .have Y:=Ac j hin.2;have P:inB (GI b vs _ _).X0 b.A0.length=B:=Ac j ω;rw[V j];simp only[ Y,o,P,y,l_,q,N_,w];rfl
    .rw[c_ j];simp only[ N_,w];rfl
  .rw[Tl k (i+1) _ _ ω (by simp;omega) (by rw[f_];omega)];simp only[HF,LS,N_,bH]
end
def Pb(xs:List Int):Bool:=xs.all<|aK 0 1000000
def Ayr(n:Int):Ly n=J ((!aK 0 1000000 n,()),()):=by
 unfold Ly aK;by_cases g:n<0
 .rw[V g,c_ (ω:¬0<=n)];rfl
 .rw[c_ g,V (ω:0<=n)];by_cases a:1000000<n
  .rw[V a,c_ ω];rfl
  .rw[c_ a,V ω];rfl
def Ap9(hl:xs.length<=maxLen):Bx xs=J ((!Pb xs,()),()):=by
 have hm:maxLen<=9223372036854775807:=by decide
 have p:∀(k i:Nat),i+k=xs.length->∃y,BM (λx=>AS x.1.1 x.1.2.2.1 x.1.2.2.2.1) (k+1) ((xs,(),xs.length,i,()),())=J y/\(match y with|.inl _=>(xs.drop i).all (aK 0 1000000)=B|.inr z=>0<=z.1.1/\(xs.drop i).all (aK 0 1000000)=H):=by
  intro k;induction k with
  |zero=>
   intro i hi;refine⟨.inl ((),()),AU ?_,?_⟩
   .show AS xs (xs.length:Int) (i:Int)=_;unfold AS;rw[show decide _=H by simp;omega];rfl
   .rw[show i=xs.length by omega,d6_];rfl
  |succ k u=>
   intro i hi;have o:i<xs.length:=ω;have j:AS xs xs.length i=J (bif aK 0 1000000 (xs.getD i 0)then .inl ((xs,(),xs.length,((i+1:Nat):Int),()),())else .inr (.inr ((i,()),()))):=by
    unfold AS;have w:R.wrap (i+1)=((i+1:Nat):Int):=by rw[Z ω ω];omega
    rw[show decide _=B by simp;omega,Ac ω ω,Ayr,w];simp only[ l_];cases aK 0 1000000 _<;>rfl
   rw[CV _ o,T_];cases hq:aK 0 1000000 _ with
   |true=>rw[hq]at j;obtain⟨y,h1,a⟩:=u (i+1) ω;exact⟨y,(BH j).trans h1,by exact a⟩
   |false=>rw[hq]at j;exact⟨_,AU j,by show _<=(i:Int)/\_;exact⟨ω,rfl⟩⟩
 obtain⟨y,h1,a⟩:=p xs.length 0 ω;have q:CU ((xs,(),xs.length,0,()),())=J y:=AA h1 ω;rw[d8_]at a;unfold Bx Dl Pb;rw[q];cases y with
 |inl z=>simp only at a;rw[a];rfl
 |inr z=>rw[a.2];simp only[d_];rw[V a.1];rfl
noncomputable def Pn(b:O)(m:aI)(xs:List Int)(vs:List aD):List aF×List Int×Int×Unit:=bif m.ok b&&((xs.length:Int)==(m.B0.length:Int)&&((vs.length:Int)==(b.A0.length:Int)&&Pb xs))then(HF b vs m.B0 xs,LS b vs m.B0 xs,0,())else([],[],1,())
def Img.ok_all(h:m.ok b=B):b.code=0/\m.G0.length=b.A0.length/\m.R0.length=b.A0.length/\m.K0.length=b.A0.length/\(∀p∈m.G0,0<=p/\p<=4)/\(∀e∈m.B0,Iy b e=B)/\Iz b Option.none m.B0=B:=by unfold Img.ok at h;simp only[b_,I_]at h;obtain⟨h0,h1,q,o,j,a⟩:=h;exact⟨h0,ω,ω,ω,λp hp=>Ak.1<|G_.1 j p hp,Ait a,a⟩
section
variable{b:O}(hb:b.small){vs:List aD}(hv:okViews vs)(hl:vs.length<=100)(m:aI)(hm:m.B0.length<=1000)(hp:m.G0.length<=maxLen)(xs:List Int)(hx:xs.length<=maxLen)
include hb hv hl hm hp hx
theorem Agj:II b.C0 b.F0 b.J0 b.L0 b.I0 b.M0 b.O0 b.A0 m.G0 m.R0 m.K0 m.B0 xs vs=J (Pn b m xs vs,()):=by
 have w:1000<=maxLen:=by decide
 unfold II Pn;rw[Dw hb m hp ω,Ap9 hx];simp only[ bne];cases u:m.ok b with
 |false=>rfl
 |true=>
  cases hq:xs.length==(m.B0.length:Int)with
  |false=>rfl
  |true=>
   cases v:vs.length==(b.A0.length:Int)with
   |false=>rfl
   |true=>
    cases Pb xs with
    |false=>rfl
    |true=>
     have q:xs.length=(m.B0.length:Int):=by simpa using hq
     have p:vs.length=(b.A0.length:Int):=by simpa using v
     obtain⟨_,_,_,_,_,j,_⟩:=Img.ok_all u;have o:=AA (Tl hb hv hl p j hm (xs:=xs) ω m.B0.length 0 [] [] ω rfl σ) ω;have a:OD ((xs,vs,(),(),([]:List aF),aU m.B0.length _,m.B0,m.B0.length,0,()),(b.tup,(b.C0,b.F0,b.J0,b.L0,b.I0,b.M0,b.O0,b.A0,vs,()),()))=_:=o;unfold Bldg.tup at a;simp only[a8_,j_,q,V (ω:0<=(m.B0.length:Int)),V<|e1_ _,V (ω:(m.B0.length:Int)<=2147483648),f4_,i_,l_,a,d_,d8_,e0_]
end
def Zw(b:O)(vs:List aD):∀(l:List aA) (xs:List Int),(HF b vs l xs).length<=2*l.length
 |[],_=>by simp[HF]
 |_::_,[]=>by simp[HF]
 |e::t,x::xs=>by have h1:=Zw b vs t xs;have a:=Ajl e<|GI b vs e x;simp only[HF,f_,D_];omega
def Zv(b:O)(vs:List aD):∀(l:List aA) (xs:List Int),xs.length=l.length->(LS b vs l xs).length=l.length
 |[],_,_=>by simp[LS]
 |_::_,[],h=>by simp at h
 |e::t,x::xs,h=>by simp only[LS,D_,Zv b vs t xs (by simpa using h)]
def Ayq(b:O)(m:aI)(xs:List Int)(vs:List aD):(Pn b m xs vs).1.length<=2*m.B0.length/\(Pn b m xs vs).2.1.length<=m.B0.length:=by
 unfold Pn;cases hq:(m.ok b&&(xs.length==(m.B0.length:Int)&&(vs.length==(b.A0.length:Int)&&Pb xs)))with
 |false=>exact⟨σ,σ⟩
 |true=>simp only[b_,I_]at hq;refine⟨Zw b vs m.B0 xs,?_⟩;show(LS b vs m.B0 xs).length<=_;rw[Zv b vs m.B0 xs ω];exact t_ _
def noV:aD:=View.mk H H H H 0 0 0 0 0 0 0 0
def noP:aT:=Calls.mk 0 0
structure Lan where
 lit:List Calls
 gong:List Bool
 cl:Int×Int
def Lan.tup(l:Lan):List aT×List Bool×Int×Int×Unit:=(l.lit,l.gong,l.cl.1,l.cl.2,())
def Lan.none:Lan:=⟨[],[],(0,0)⟩
def Ac0(b:O)(vs:List aD)(i:Nat)(s:Lan):Int×Int:=Dj (MD b<|vs.getD i noV) s.cl
def TF(b:O)(vs:List aD)(ps:List aT)(i:Nat)(s:Lan):Lan:=⟨s.lit++[Calls.mk (Ac0 b vs i s).1 (Ac0 b vs i s).2],s.gong++[!isZ (Dj (Ac0 b vs i s) ((ps.getD i noP).Up,(ps.getD i noP).C4))],Em s.cl<|Ac0 b vs i s⟩
def Nm(b:O)(vs:List aD)(ps:List aT):Lan:=Ba (TF b vs ps) vs.length 0 Lan.none
def Ae4(b:O)(vs:List aD)(ps:List aT):Lan×Int:=bif(vs.length:Int)==(b.A0.length:Int)&&((ps.length:Int)==(b.A0.length:Int))then(Nm b vs ps,0)else(Lan.none,1)
section
variable{b:O}(hb:b.small)(hcode:b.code=0)
include hb hcode
theorem Zb(vs:List aD)(ps:List aT)(hl:vs.length<=1000)(hp:ps.length=vs.length):MP ((ps,(),(),(),vs,(vs.length:Int),(0:Int),()),(b.tup,Lan.none.tup,Lan.none.tup,()))=J (((),(),()),(Lan.none.tup,(Nm b vs ps).tup,()))/\(Nm b vs ps).lit.length=vs.length/\(Nm b vs ps).gong.length=vs.length:=by
 have o:=λ(step:_->_) (h1:∀i (s:Lan),i<vs.length->(s.lit.length=i/\s.gong.length=i)->step ((ps,(),(),(),vs,(vs.length:Int),(i:Int),()),(b.tup,Lan.none.tup,s.tup,()))=J _) h2=>BN (step:=step) vs.length _ (TF b vs ps) _ (λs=>(((),(),()),(Lan.none.tup,s.tup,()))) (λi s hi j=>⟨h1 i s hi j,by
   constructor
   .show(s.lit++[_]).length=_;rw[f_,L_,j.1]
   .show(s.gong++[_]).length=_;rw[f_,L_,j.2]⟩) h2 vs.length 0 Lan.none ω ⟨rfl,rfl⟩
 have h:=o (λx=>letI a:=x.2.1.2.2;letI c:=x.2.2;letI d:=x.1.2.2.2.2;letI e:=a.2.2;letI f:=c.2.1;Gg x.1.1 d.1 d.2.1 d.2.2.1 x.2.1.1 x.2.1.2.1 a.1 a.2.1 e.1 e.2.1 e.2.2.1 e.2.2.2.1 c.1.1 c.1.2.1 c.1.2.2.1 c.1.2.2.2.1 f.1 f.2.1 f.2.2.1 f.2.2.2.1) (λi s hi j=>by
  show Gg ps vs _ _ b.C0 b.F0 b.J0 b.L0 b.I0 b.M0 b.O0 b.A0 [] [] 0 0 s.lit s.gong s.cl.1 s.cl.2=_;unfold Gg;rw[show View.mk H H H H 0 0 0 0 0 0 0 0=noV from rfl,show Calls.mk 0 0=noP from rfl];simp only[V (ω:i<(vs.length:Int)),Ac ω (ω:(i:Int)<vs.length),Ac ω (ω:(i:Int)<ps.length),l_,RU hb hcode,GS hi (by unfold DJ;omega)];have u:=GG (MD b<|vs.getD i noV) s.cl;have p:=GG (Ac0 b vs i s) ((ps.getD i noP).Up,(ps.getD i noP).C4);have q:=DZ s.cl<|Ac0 b vs i s;unfold Ac0 at p q;simp only[u,d_,p,q];rw[AR (by show s.lit.length+1<=_;omega)];rw[AR (by show s.gong.length+1<=_;omega)];rfl) (λs _=>by
  show Gg ps vs _ _ b.C0 b.F0 b.J0 b.L0 b.I0 b.M0 b.O0 b.A0 [] [] 0 0 s.lit s.gong s.cl.1 s.cl.2=_;unfold Gg;simp only[c_<|Z_ _];rfl)
 exact⟨AA h.1 ω,h.2.1,h.2.2⟩
theorem Acw(vs:List aD)(ps:List aT)(hl:vs.length<=1000):LD b.C0 b.F0 b.J0 b.L0 b.I0 b.M0 b.O0 b.A0 vs ps=J (((),(Ae4 b vs ps).2,()),((Ae4 b vs ps).1.tup,())):=by
 unfold LD Ae4;rw[Az,hcode];by_cases h1:vs.length=b.A0.length
 .by_cases a:ps.length=b.A0.length
  .have h:=(Zb hb hcode vs ps hl ω).1;simp only[Bldg.tup,Lan.tup,Lan.none]at h;rw[h1]at h|-;rw[a];simp only[Q_,q_,h];rfl
  .rw[h1,Q_,FT ω,Ao (ω:¬ps.length=(b.A0.length:Int)),d1_];rfl
 .rw[FT ω,Ao ω];rfl
end
def UR(b:O)(vs:List aD)(F D:Int):Bool:=vs.any λv=>Ax (MD b v) F.toNat D
def SE(b:O)(vs:List aD)(l:List aA):List aF:=l.flatMap λe=>bif UR b vs e.D0 e.H0 then [aZ 2 e.D0 e.H0 0 0]else []
def Al3(b:O)(vs:List aD){f:Nat}{d:Int}:∀(k i:Nat) (s:Int×Int),i+k=vs.length->Ax (Ba (λi s=>Em s<|MD b<|vs.getD i noV) k i s) f d=(Ax s f d||(vs.drop i).any λv=>Ax (MD b v) f d)
 |0,i,s,hi=>by rw[show i=vs.length by omega];simp[Ba]
 |k+1,i,s,hi=>by show Ax (Ba _ k (i+1) _) f d=_;rw[Al3 b vs k (i+1) _ ω,MA,CV noV (ω:i<vs.length),List.any_cons,Bool.or_assoc]
def ZD(b:O)(vs:List aD):∀l:List aA,(SE b vs l).length<=l.length
 |[]=>t_ _
 |e::t=>by have h:=ZD b vs t;show((bif UR b vs e.D0 e.H0 then [aZ 2 e.D0 e.H0 0 0]else [])++SE b vs t).length<=_;cases UR b vs e.D0 e.H0<;>simp<;>omega
def Amg(hb:b.small)(h:Aq b e.D0 e.H0=B):Bdz e:=by have hi:=hb.hi;unfold Aq Qz at h;simp only[b_,O_,I_,Ak]at h;unfold Bdz;omega
section
variable{b:O}(hb:b.small)(hcode:b.code=0){m:aI}(hm:ImgOK b m)(hl:m.B0.length<=100000)(vs:List aD)(hv:(vs.length:Int)=(b.A0.length:Int))
include hb hcode hm hl hv
theorem Acx:LE b.C0 b.F0 b.J0 b.L0 b.I0 b.M0 b.O0 b.A0 m.G0 m.R0 m.K0 m.B0 vs=J ((SE b vs m.B0,()),()):=by
 have N:=Ah hcode;have y:100000<=maxLen:=by decide
 have w:=hm.lp;have h0:=BN (step:=λx=>letI a:=x.2.1.2.2;letI c:=x.2.2;letI g:=a.2.2;Gh x.1.2.2.2.1 x.1.2.2.2.2.1 x.1.2.2.2.2.2.1 x.2.1.1 x.2.1.2.1 a.1 a.2.1 g.1 g.2.1 g.2.2.1 g.2.2.2.1 c.1.1 c.1.2.1 c.1.2.2.1 c.1.2.2.2.1 c.2.1.1 c.2.1.2.1) vs.length (λi (s:Int×Int)=>(((),(),(),vs,vs.length,i,()),(b.tup,m.tup,(s.1,s.2,()),()))) _ (λ_ _=>True) _ (λi s hi _=>⟨by
  show Gh vs _ _ b.C0 b.F0 b.J0 b.L0 b.I0 b.M0 b.O0 b.A0 m.G0 m.R0 m.K0 m.B0 s.1 s.2=_;unfold Gh;rw[show View.mk H H H H 0 0 0 0 0 0 0 0=noV from rfl];have z:=DZ s<|MD b<|vs.getD i noV;simp only[V (ω:i<(vs.length:Int)),Ac ω (ω:(i:Int)<vs.length),l_,RU hb hcode,d_,z,GS hi (by unfold DJ;omega)];rfl,trivial⟩) (λs _=>by
  show Gh vs _ _ b.C0 b.F0 b.J0 b.L0 b.I0 b.M0 b.O0 b.A0 m.G0 m.R0 m.K0 m.B0 s.1 s.2=_;unfold Gh;simp only[c_<|Z_ _];rfl) vs.length 0 (0,0) ω trivial
 have o:JB (((),(),(),vs,vs.length,0,()),(b.tup,m.tup,(0,0,()),()))=_:=AA h0.1 ω;have j:∀f d,Ax _ f d=vs.any λv=>Ax _ f d:=λf d=>by rw[Al3 b vs vs.length 0 (0,0) ω,Og,Bool.false_or,d8_]
 generalize Ba (λi s=>Em s _) vs.length 0 (0,0)=u at o j;have h1:=BN (step:=λx=>Gi x.1.2.1 x.1.2.2.1 x.1.2.2.2.1 x.1.2.2.2.2.1 x.2.1.1 x.2.1.2.1) m.B0.length (λi (out:List aF)=>(((),out,m.B0,m.B0.length,i,()),((u.1,u.2,()),()))) (λi out=>out++(bif UR b vs (m.B0.getD i W).D0 (m.B0.getD i W).H0 then [aZ 2 (m.B0.getD i W).D0 (m.B0.getD i W).H0 0 0]else [])) (λi out=>out.length<=i) (λout=>((out,()),())) (λi out hi P=>by
  have q:=Amg hb (Fy.1<|hm.en _<|Av W hi).1;refine⟨?_,?_⟩
  .show Gi out m.B0 (m.B0.length:Int) (i:Int) u.1 u.2=_;unfold Gi;rw[show aY 0 0 0 0 H=W from rfl];simp only[V (ω:i<(m.B0.length:Int)),Ac ω (ω:(i:Int)<m.B0.length),l_,Ii u q.1 q.2,GS hi (by unfold DJ;omega),j];rw[AR (by show out.length+1<=_;omega)];unfold UR;cases vs.any λv=>Ax _ (m.B0.getD i W).D0.toNat (m.B0.getD i W).H0
   .simp
   .rfl
  .rw[f_];cases UR b vs (m.B0.getD i W).D0 (m.B0.getD i W).H0<;>simp<;>omega) (λout _=>by
  show Gi out m.B0 (m.B0.length:Int) (m.B0.length:Int) u.1 u.2=_;unfold Gi;simp only[c_<|Z_ _,j_]) m.B0.length 0 [] ω σ
 have p:=AA h1.1 ω;rw[Mk,Pp (λe=>bif UR b vs e.D0 e.H0 then [aZ 2 e.D0 e.H0 0 0]else []) W m.B0 0 m.B0.length ω]at p;unfold LE;rw[Dw hb m ω ω,Img.ok_iff.2 hm];rw[show(vs.length !=(b.A0.length:Int))=H by rw[hv,Q_]];simp only[Bldg.tup,Img.tup]at o;simp only[ o,d_];rw[show JC (((),([]:List aF),m.B0,m.B0.length,0,()),((u.1,u.2,()),()))=_ from p];rfl
end
def xsV(E:List aA)(xs:List Int)(r:aF):List Int:=
 bif(r.C1==2)&&Gm (BZ r.D0 r.H0) E then xs.take (Bk (BZ r.D0 r.H0) E)++xs.drop (Bk (BZ r.D0 r.H0) E+1)
 else bif(r.C1==1)&&!Gm (BZ r.D0 r.H0) E then xs.take (Bk (BZ r.D0 r.H0) E)++[0]++xs.drop (Bk (BZ r.D0 r.H0) E)
 else xs
def Bb6(E:List aA)(xs:List Int)(F D:Int):Int:=bif Gm (BZ F D) E then xs.getD (Bk (BZ F D) E) 0 else 0
def Xv(E:List aA)(xs:List Int)(e:aA):Int:=Bb6 E xs e.D0 e.H0
def Ans(e:aA):isC e.D0 e.H0 e=B:=by unfold isC;simp
def Ar3(q:Br E)(hi:i<E.length):Bk (E.getD i W) E=i:=by
 have hp:=EK.1 q;rcases Nat.lt_trichotomy (Bk (E.getD i W) E) i with h|h|h
 .have h1:=Ahs q (Bk (E.getD i W) E) (t_ _) ω;have a:By (E.getD (Bk (E.getD i W) E) W) (E.getD i W)=B:=by
   generalize Bk _ E=p at h;have o:∀j _,E.getD j W=E[j]:=λj u=>by simp[g_,u]
   rw[o p ω,o i hi];exact a5_.1 hp p i ω hi h
  rw[h1]at a;cases a
 .exact h
 .have h1:=Aht _ E i h;have a:=(Xn<|Ans<|E.getD i W).1;rw[h1]at a;cases a
def Bfn(a:Br E)(hi:i<E.length):Gm (BZ (E.getD i W).D0 (E.getD i W).H0) E=B:=by unfold Gm;rw[TI,Ar3 a hi,b_];exact⟨Eq.mpr g5_ hi,Ans _⟩
def Ar2(a:Br E)(xs:List Int)(hi:i<E.length):Xv E xs (E.getD i W)=xs.getD i 0:=by unfold Xv Bb6;rw[Bfn a hi,TI,Ar3 a hi];rfl
def Am9{a b:List α}(d:α)(hl:a.length=b.length)(h:∀i,i<a.length->a.getD i d=b.getD i d):a=b:=by
 refine List.ext_getElem hl λi h1 j=>?_
 have:=h i h1
 simpa[g_,h1,j]using this
def Bbw{β:Type}(f:α->β){l:List α}(hi:i<l.length)(d:α)(a:β):(l.map f).getD i a=f (l.getD i d):=by simp[g_,hi]
def Bfu(a:Br E)(hl:xs.length=E.length):E.map (Xv E xs)=xs:=by refine Am9 0 (by rw[d3_,hl]) λi hi=>?_;rw[d3_]at hi;rw[Bbw _ hi W,Ar2 a xs hi]
def Ao1{l:List α}{a:α}(d:α)(h:a=l.getD k d):l.set k a=l:=by
 by_cases o:k<l.length
 .refine Am9 d (z_ ..) λi hi=>?_;by_cases j:k=i
  .subst j;rw[h];simp[g_,o]
  .simp[g_,j]
 .rw[List.set_eq_of_length_le ω]
def Arq{c:aA}{l:List aA}(h:Gm c l=B):Bk c l<l.length/\isC c.D0 c.H0 (l.getD (Bk c l) W)=B:=by unfold Gm at h;rw[b_]at h;exact⟨Eq.mp g5_ h.1,h.2⟩
def Azn(w:Br m.B0)(hl:xs.length=m.B0.length)(r:aF):xsV m.B0 xs r=(Aw m r).B0.map (Xv m.B0 xs):=by
 have a:=Bfu w hl;have u:=Rm (c:=BZ r.D0 r.H0) 0 w;rw[n_]at u;have v:Ej r.D0 r.H0 m.B0 0=_:=u;unfold Aw xsV;by_cases k4:r.C1=4
 .rw[k4];exact a.symm
 by_cases z:r.C1=5
 .rw[z];exact a.symm
 by_cases y:r.C1=6
 .rw[y];exact a.symm
 rw[Ao k4,Ao z,Ao y,v];cases hh:Gm _ m.B0 with
 |false=>
  simp only[j_,d1_,bD,g1_];cases k1:r.C1==1 with
  |false=>exact a.symm
  |true=>
   simp only[i_];show _=(HD _ H m.B0).map _;have o:=Ai7 w hh;rw[Acp (c:=aY r.D0 r.H0 (-1) 0 H) (λx hx=>o x hx)];have hp:=(TI (aY r.D0 r.H0 (-1) 0 H) m.B0).symm;have Q:Xv m.B0 xs (aY r.D0 r.H0 (-1) 0 H)=0:=by unfold Xv Bb6;rw[hh];rfl
   rw[hp,List.map_append,List.map_append,List.map_take,List.map_drop,a,List.map_singleton,Q]
 |true=>
  obtain⟨N,S⟩:=Arq hh;simp only[i_,g1_,a8_,d1_];generalize Bk _ m.B0=p at N S|-;have j:∀q:aA,q.D0=(m.B0.getD p W).D0->q.H0=(m.B0.getD p W).H0->(m.B0.set p q).map _=xs:=λq h1 P=>by
   rw[List.map_set,a];refine Ao1 0 ?_
   have:Xv m.B0 xs q=Xv m.B0 xs (m.B0.getD p W):=by unfold Xv;rw[h1,P]
   rw[this,Ar2 w xs N]
  cases k2:r.C1==2 with
  |true=>simp only[i_];show _=(m.B0.take p++m.B0.drop (p+1)).map _;rw[List.map_append,List.map_take,List.map_drop,a]
  |false=>
   cases X:r.C1==3 with
   |true=>exact(j (Afq _ r.X0) rfl rfl).symm
   |false=>
    cases Y:r.C1==7 with
    |true=>exact(j (TO _ r.P2 r.X0) rfl rfl).symm
    |false=>exact a.symm
def Bgm(a:Br m.B0)(hl:xs.length=m.B0.length)(r:aF):(xsV m.B0 xs r).length=(Aw m r).B0.length:=by rw[Azn a hl,d3_]
def xsL:aI->List Int->List aF->List Int
 |_,xs,[]=>xs
 |m,xs,r::t=>xsL (Aw m r) (xsV m.B0 xs r) t
def Auq(e:aA)(F D:Int):IW e.D0 e.H0 e.X0 e.B2 e.Y2 F D=J ((!By e (BZ F D),()),((F,()),(D,()),())):=by
 unfold IW By BZ;by_cases h1:F<e.D0
 .rw[V h1,c_ (ω:¬e.D0<F),Ao ω];rfl
 .rw[c_ h1];by_cases j:e.D0=F
  .rw[j,c_<|Z_ F,q_];by_cases a:e.H0<D
   .rw[V a,c_ ω];rfl
   .rw[c_ a,V ω];rfl
  .rw[Ao j,V (ω:e.D0<F)];rfl
def Afe(E:List aA)(hl:E.length<=100000)(F D:Int):∀(k i:Nat),i+k=E.length->BM (λx=>At x.1.1 x.1.2.2.1 x.1.2.2.2.1 x.2.1.1 x.2.2.1.1) (k+1) ((E,(),(E.length:Int),(i:Int),()),((F,()),(D,()),()))=J (bif Nat.blt (i+Bk (BZ F D) (E.drop i)) E.length then .inr ((((i+Bk (BZ F D) (E.drop i):Nat):Int),()),((F,()),(D,()),()))else .inl ((),((F,()),(D,()),())))
 |0,i,hi=>by
  obtain rfl:i=E.length:=ω;refine AU ?_;show At E (E.length:Int) (E.length:Int) F D=_;unfold At;rw[c_<|Z_ _,d6_]
  have:Nat.blt (E.length+Bk (BZ F D) []) E.length=H:=by
   cases h:Nat.blt _ E.length with
   |false=>rfl
   |true=>have:=Eq.mp g5_ h;omega
  rw[this];rfl
 |k+1,i,hi=>by
  have a:i<E.length:=ω;have j:At E E.length i F D=J (bif By (E.getD i W) (BZ F D)then .inl ((E,(),E.length,((i+1:Nat):Int),()),((F,()),(D,()),()))else .inr (.inr ((i,()),((F,()),(D,()),())))):=by unfold At;rw[show aY 0 0 0 0 H=W from rfl];simp only[V (ω:i<(E.length:Int)),Ac ω (ω:(i:Int)<E.length),l_,Auq,GS a (by unfold DJ;omega)];cases By _ _<;>rfl
  have o:=CV W a;rw[o];simp only[Bk];cases hq:By _ _ with
  |true=>rw[hq]at j;refine(BH j).trans ?_;rw[Afe E hl F D k (i+1) ω,i_,show i+1+Bk _ _=i+(Bk (BZ F D) (E.drop<|i+1)+1)by omega]
  |false=>rw[hq]at j;refine(AU j).trans ?_;rw[j_,c7_,show Nat.blt i E.length=B from Eq.mpr g5_ a];rfl
def Aa3(m:aI)(hl:m.B0.length<=100000)(F D:Int):Kx m.G0 m.R0 m.K0 m.B0 F D=J ((((Bk (BZ F D) m.B0:Nat):Int),Gm (BZ F D) m.B0,()),()):=by
 have h:=Afe m.B0 hl F D m.B0.length 0 ω;have h':=AA h ω;rw[d8_,n_]at h';have a:=Wa (BZ F D) m.B0;unfold Kx Bw Gm;rw[show Bp ((m.B0,(),m.B0.length,0,()),((F,()),(D,()),()))=_ from h'];cases hq:Nat.blt _ m.B0.length with
 |false=>
  have o:m.B0.length<=Bk (BZ F D) m.B0:=by
   rcases f5_ _ m.B0.length with g|g
   .rw[Eq.mpr g5_ g]at hq;cases hq
   .exact g
  rw[show Bk _ m.B0=m.B0.length by omega];rfl
 |true=>have j:=Eq.mp g5_ hq;simp only[i_,d_];simp only[ Ac ω (ω:((Bk (BZ F D) m.B0:Nat):Int)<m.B0.length),i_,l_];rw[show aY 0 0 0 0 H=W from rfl];show bC _ _=J ((_,B&&((m.B0.getD _ W).D0==F&&(m.B0.getD _ W).H0==D),()),());cases(m.B0.getD _ W).D0==F<;>rfl
structure Rnd where
 recs:List Record
 img:Img
 xs:List Int
 lan:Lan
 ref:Int×Int
def Rnd.tup(r:Rnd):List aF×List Int×List Bool×List Bool×List aA×List Int×List aT×List Bool×Int×Int×Int×Int×Unit:=(r.recs,r.img.G0,r.img.R0,r.img.K0,r.img.B0,r.xs,r.lan.lit,r.lan.gong,r.lan.cl.1,r.lan.cl.2,r.ref.1,r.ref.2,())
def Rnd.tupB(b:O)(r:Rnd):List aF×List Int×List Bool×List Bool×List aA×List Int×List aT×List Bool×Int×Int×Int×Int×Int×Int×Int×Int×Nat×Nat×Nat×List Car×Unit:=(r.recs,r.img.G0,r.img.R0,r.img.K0,r.img.B0,r.xs,r.lan.lit,r.lan.gong,r.lan.cl.1,r.lan.cl.2,r.ref.1,r.ref.2,b.C0,b.F0,b.J0,b.L0,b.I0,b.M0,b.O0,b.A0,())
structure Rnd.ok(b:Bldg)(r:Rnd):Prop where
 img:ImgOK b r.img
 len:r.xs.length=r.img.B0.length
def LQ:aF:=aZ 0 0 0 0 0
def US(r:aF)(X:Rnd):Rnd:=⟨X.recs++[r],Aw X.img r,xsV X.img.B0 X.xs r,X.lan,X.ref⟩
def wrL(l:List aF)(X:Rnd):Rnd:=⟨X.recs++l,Ar X.img l,xsL X.img X.xs l,X.lan,X.ref⟩
def XM(r:aF)(l:List aF)(X:Rnd):wrL (r::l) X=wrL l (US r X):=by unfold wrL US;simp only[N_];rfl
def XI{X:Rnd}(h:X.ok b)(hv:AB b r=B):(US r X).ok b:=⟨(Kq h.img hv).1,Bgm h.img.so h.len r⟩
def Apj{b:O}:∀{l:List aF}{X:Rnd},X.ok b->(∀r∈l,AB b r=B)->(wrL l X).ok b
 |[],X,h,_=>by unfold wrL;exact⟨h.img,h.len⟩
 |r::t,X,h,hv=>by rw[XM];exact Apj (XI h<|hv r<|C_ ..) λx hx=>hv x<|F_ _ hx
def Bjg(h:k<xs.length)(hl:xs.length<=100000):Ff xs (k:Int) (I R<|(k:Int)+1)=J ((xs.take k++xs.drop (k+1),()),()):=by unfold Ff Am2;rw[Z ω ω,V (ω:(k:Int)<(k:Int)+1),V (ω:(k:Int)+1<=(xs.length:Int)),l_];rfl
def Bju(h:k<=xs.length)(hl:xs.length<=100000):Fg xs (k:Int) [0]=J ((xs.take k++[0]++xs.drop k,()),()):=by unfold Fg Acn;rw[ V (ω:(k:Int)<=(xs.length:Int)),AR (by show xs.length+1<=_;omega)];rfl
section
variable{b:O}(hb:b.small)(hcode:b.code=0)
include hb hcode
omit hcode in
theorem CW(hm:ImgOK b m):m.B0.length<=14:=by
 have:=Bfd hb hm
 have:=hb.hi
 omega
theorem Avy{X:Rnd}(w:X.ok b)(hl:l.length<=100000)(hi:i<l.length)(hv:AB b (l.getD i LQ)=B)(Y:X.recs.length<=1000000):BP l (l.length:Int) (i:Int) X.recs X.img.G0 X.img.R0 X.img.K0 X.img.B0 X.xs X.lan.lit X.lan.gong X.lan.cl.1 X.lan.cl.2 X.ref.1 X.ref.2 b.C0 b.F0 b.J0 b.L0 b.I0 b.M0 b.O0 b.A0=J (.inl (((),l,(l.length:Int),((i+1:Nat):Int),()),((US (l.getD i LQ) X).tupB b,()))):=by
 have N:=Ah hcode;have he:=CW hb w.img;have Q:=w.img.lp;have S:=w.len;have P:=Wa (BZ (l.getD i LQ).D0 (l.getD i LQ).H0) X.img.B0;have u:=Ze hb ω X.img ω ω<|l.getD i LQ;have y:Yt b X.img (l.getD i LQ)=(((),0,()),((Aw X.img<|l.getD i LQ).tup,())):=by unfold Yt;rw[Img.ok_iff.2 w.img,hv];rfl
 rw[y]at u;unfold BP;rw[show aZ 0 0 0 0 0=LQ from rfl];simp only[V (ω:i<(l.length:Int)),Ac ω (ω:(i:Int)<l.length),l_];rw[Aa3 X.img ω];generalize l.getD i LQ=r at*;have o:Nat.ble (X.recs.length+[aZ r.C1 r.D0 r.H0 r.X0 r.P2].length) 2147483648=B:=AR (by show X.recs.length+1<=_;omega);have v:=GS hi (by unfold DJ;omega);have p:∀q,xsV X.img.B0 X.xs r=q->(US r X).tupB b=(X.recs++[aZ r.C1 r.D0 r.H0 r.X0 r.P2],(Aw X.img r).G0,(Aw X.img r).R0,(Aw X.img r).K0,(Aw X.img r).B0,q,X.lan.lit,X.lan.gong,X.lan.cl.1,X.lan.cl.2,X.ref.1,X.ref.2,b.C0,b.F0,b.J0,b.L0,b.I0,b.M0,b.O0,b.A0,()):=λq h=>by rw[<-h];rfl
 by_cases z:r.C1=2
 .have k1:(r.C1==1)=H:=Ao ω;have a:(r.C1==2)=B:=by rw[z];rfl
  cases hf:Gm _ X.img.B0 with
  |true=>rw[p _ (show _=X.xs.take _++X.xs.drop _ by unfold xsV;rw[a,hf];rfl)];have hp:=(Arq hf).1;simp only[a,i_,d_,Bjg (ω:Bk (BZ r.D0 r.H0) X.img.B0<X.xs.length) ω];rw[u];simp only[ o,v];rfl
  |false=>rw[p X.xs (by unfold xsV;rw[hf,k1,d1_];rfl)];simp only[a,k1,i_,j_,d_];rw[u];simp only[ o,v];rfl
 .have a:(r.C1==2)=H:=Ao z;by_cases k1:r.C1=1
  .have j:(r.C1==1)=B:=by rw[k1];rfl
   cases hf:Gm _ X.img.B0 with
   |false=>rw[p _ (show _=X.xs.take _++[0]++X.xs.drop _ by unfold xsV;rw[a,j,hf];rfl)];simp only[a,j,i_,j_,d_,bD,Bju (ω:Bk (BZ r.D0 r.H0) X.img.B0<=X.xs.length) ω];rw[u];simp only[ o,v];rfl
   |true=>rw[p X.xs (by unfold xsV;rw[hf,a,a8_,d1_];rfl)];simp only[a,j,i_,j_,d_,a8_];rw[u];simp only[ o,v];rfl
  .have j:(r.C1==1)=H:=Ao k1;rw[p X.xs (by unfold xsV;rw[a,j,e6_];rfl)];simp only[a,j,j_,d_];rw[u];simp only[ o,v];rfl
theorem Adp{X:Rnd}(v:X.ok b)(hl:l.length<=100000)(hv:∀r∈l,AB b r=B)(u:X.recs.length<=100000):Bv l X.recs X.img.G0 X.img.R0 X.img.K0 X.img.B0 X.xs X.lan.lit X.lan.gong X.lan.cl.1 X.lan.cl.2 X.ref.1 X.ref.2 b.C0 b.F0 b.J0 b.L0 b.I0 b.M0 b.O0 b.A0=J ((),((wrL l X).tupB b,())):=by
 have p:∀(k i:Nat) (Y:Rnd),i+k=l.length->Y.ok b->Y.recs.length<=100000+i->BM (λx=>letI d:=x.2.1.2.2.2;letI f:=d.2.2;letI a:=f.2.2.2;letI g:=a.2.2;letI c:=g.2.2.2;letI e:=c.2.2;BP x.1.2.1 x.1.2.2.1 x.1.2.2.2.1 x.2.1.1 x.2.1.2.1 x.2.1.2.2.1 d.1 d.2.1 f.1 f.2.1 f.2.2.1 a.1 a.2.1 g.1 g.2.1 g.2.2.1 c.1 c.2.1 e.1 e.2.1 e.2.2.1 e.2.2.2.1 e.2.2.2.2.1) (k+1) (((),l,l.length,i,()),(Y.tupB b,()))=J ((),((wrL (l.drop i) Y).tupB b,())):=by
  intro k;induction k with
  |zero=>intro i Y hi _ _;obtain rfl:i=l.length:=ω;refine AU ?_;show BP l (l.length:Int) (l.length:Int) Y.recs Y.img.G0 Y.img.R0 Y.img.K0 Y.img.B0 Y.xs Y.lan.lit Y.lan.gong Y.lan.cl.1 Y.lan.cl.2 Y.ref.1 Y.ref.2 b.C0 b.F0 b.J0 b.L0 b.I0 b.M0 b.O0 b.A0=_;unfold BP;rw[c_<|Z_ _,d6_];unfold wrL;rw[a1_];rfl
  |succ k w=>intro i Y hi q u;have j:i<l.length:=ω;have o:=hv _<|Av LQ j;rw[CV LQ j,XM];exact(BH<|Avy hb hcode q hl j o ω).trans<|w (i+1) _ ω (XI q o) (by show(Y.recs++[_]).length<=_;rw[f_,L_];omega)
 have h:=p l.length 0 X ω v ω;have h':DV _=_:=AA h ω;unfold Bv;rw[show DV (((),l,l.length,0,()),((X.recs,X.img.G0,X.img.R0,X.img.K0,X.img.B0,X.xs,X.lan.lit,X.lan.gong,X.lan.cl.1,X.lan.cl.2,X.ref.1,X.ref.2,b.C0,b.F0,b.J0,b.L0,b.I0,b.M0,b.O0,b.A0,()),()))=_ from h'];rfl
end
def YP{F D:Int}{e:aA}(he:isC F D e=B)(T:List aA):∀(P:List aA) (i:Nat),(∀p∈P,isC F D p=H)->Ej F D (P++e::T) i=((i+P.length:Nat):Int)
 |[],i,_=>by simp only[e0_,Ej,he,i_,b7_,c7_]
 |p::P,i,h=>by simp only[bG,Ej,h p<|C_ ..,j_];rw[YP he T P (i+1) λx hx=>h x<|F_ _ hx,D_];congr 1;omega
def Avm{P T:List aA}(h:Br<|P++e::T):∀p∈P,isC e.D0 e.H0 p=H:=by intro p hp;rw[EK]at h;have a:=(List.pairwise_append.1 h).2.2 p hp e<|C_ ..;rw[HI]at a;unfold isC;simp only[Bool.and_eq_false_iff,beq_eq_false_iff_ne];omega
def Anl(P T:List aA)(e:aA):(P++e::T).getD P.length W=e:=by simp[g_]
def Wz(e:aA):isC e.D0 e.H0 e=B:=by unfold isC;simp
def Apr{P T:List aA}(a:m.B0=P++e::T)(j:∀p∈P,isC e.D0 e.H0 p=H)(n c:Int):Aw m ⟨7,e.D0,e.H0,c,n⟩=m.put (P++TO e n c::T):=by
 unfold Aw;have hf:Ej e.D0 e.H0 m.B0 0=P.length:=by rw[a,YP (Wz e) T P 0 j,n_]
 simp only[hf];rw[ a,l_,Anl,Wc,Wc];rfl
def Aib{P T:List aA}(a:m.B0=P++e::T)(j:∀p∈P,isC e.D0 e.H0 p=H)(c:Int):Aw m ⟨3,e.D0,e.H0,c,0⟩=m.put (P++Afq e c::T):=by
 unfold Aw;have hf:Ej e.D0 e.H0 m.B0 0=P.length:=by rw[a,YP (Wz e) T P 0 j,n_]
 simp only[hf];rw[ a,l_,Anl,Wc];rfl
def Img.put_put(m:aI)(l a:List aA):(m.put l).put a=m.put a:=rfl
def Img.put_self(m:aI):m.put m.B0=m:=rfl
def Asy{P T:List aA}{n:aA}(z:m.B0=P++e::T)(v:∀p∈P,isC e.D0 e.H0 p=H)(X:n.D0=e.D0)(hD:n.H0=e.H0):Ar m (Pr e n)=m.put (P++n::T):=by
 obtain⟨u,y,o,q,j⟩:=n;obtain⟨eF,eD,a,Q,N⟩:=e;subst X hD;unfold Pr;have Y:∀c:Int,TO ⟨u,y,a,Q,N⟩ q c=⟨u,y,a,q,c==1⟩:=λ_=>rfl;have S:((bif j then(1:Int)else 0)==1)=j:=by cases j<;>rfl
 cases hp:(Q !=q||!(N==j))with
 |true=>
  have h1:=Apr z v q<|bif j then 1 else 0;rw[Y,S]at h1;cases hq:a !=o with
  |true=>have w:=Aib (m:=m.put _) (T:=T) (e:=⟨u,y,a,q,j⟩) rfl v o;simp only[i_,bG,e0_,Ar];rw[h1,w];rfl
  |false=>
   have:a=o:=by simpa[bne]using hq
   subst this;exact h1
 |false=>
  simp only[Bool.or_eq_false_iff,Bool.not_eq_false',bne_eq_false_iff_eq,I_]at hp;obtain⟨rfl,rfl⟩:=hp;cases hq:a !=o with
  |true=>have w:=Aib z v o;exact w
  |false=>
   have:a=o:=by simpa[bne]using hq
   subst this;rw[<-z];exact(Img.put_self m).symm
def Auy{n:aA}(hcode:b.code=0)(a:Aq b n.D0 n.H0=B)(j:-2<=n.X0/\n.X0<(b.A0.length:Int))(hm:0<=n.B2/\n.B2<=255):∀r∈Pr e n,AB b r=B:=by
 intro r o;rcases m_.1 o with h|h
 .cases hp:(e.B2 !=n.B2||!(e.Y2==n.Y2))with
  |false=>rw[hp]at h;cases h
  |true=>rw[hp]at h;rw[y_.1 h];unfold AB;rw[hcode,a,Ak.2 hm];cases n.Y2<;>rfl
 .cases hp:e.X0 !=n.X0 with
  |false=>rw[hp]at h;cases h
  |true=>rw[hp]at h;rw[y_.1 h];unfold AB;rw[hcode,a,Ak.2 ⟨j.1,show n.X0<=b.A0.length-1 by omega⟩];rfl
noncomputable def Vo(b:O)(vs:List aD):List aA->List Int->List aA
 |e::t,x::xs=>GI b vs e x::Vo b vs t xs
 |_,_=>[]
def Am0(b:O)(vs:List aD):∀(l:List aA) (xs:List Int),xs.length=l.length->(Vo b vs l xs).length=l.length
 |[],_,_=>by simp[Vo]
 |_::_,[],h=>by simp at h
 |e::t,x::xs,h=>by simp only[Vo,D_,Am0 b vs t xs (by simpa using h)]
def Att(a:b.A0.length<=100)(hm:0<=e.B2/\e.B2<=255)(x:Int):0<=(GI b vs e x).B2/\(GI b vs e x).B2<=255:=by
 unfold GI;cases e.X0==-2 with
 |true=>exact hm
 |false=>
  cases e.X0==-1 with
  |true=>exact hm
  |false=>
   cases(AC vs e.X0).G4 with
   |true=>
    by_cases g:b.A0.length<e.B2
    .rw[V g];exact hm
    .rw[c_ g];exact⟨by show 0<=e.B2+1;omega,by show e.B2+1<=255;omega⟩
   |false=>
    by_cases g:e.B2<=b.A0.length
    .rw[V g];cases e.Y2 with
     |true=>exact hm
     |false=>
      cases Nn b vs e x != -1 with
      |true=>exact⟨by show 0<=e.B2+1;omega,by show e.B2+1<=255;omega⟩
      |false=>exact hm
    .rw[c_ g,d1_];exact hm
def XA{b:O}(N:b.A0.length<=100){vs:List aD}(hlen:(vs.length:Int)=(b.A0.length:Int)):∀(T:List aA) (xs:List Int) (P:List aA) (m:aI),xs.length=T.length->ImgOK b m->m.B0=P++T->Ar m (HF b vs T xs)=m.put (P++Vo b vs T xs)/\(∀r∈HF b vs T xs,AB b r=B)/\ImgOK b (m.put<|P++Vo b vs T xs)
 |[],xs,P,m,_,hm,u=>by
  have:Vo b vs [] xs=[]:=by simp[Vo]
  have h2:HF b vs [] xs=[]:=by simp[HF]
  rw[this,h2,<-u];exact⟨rfl,(λ_ h=>by cases h),hm⟩
 |_::_,[],_,_,h,_,_=>by simp at h
 |e::T,x::xs,P,m,h,hm,u=>by
  have j:=Fy.1<|hm.en e (by rw[u];simp);have o:=hm.so;rw[u]at o;have X:=Avm o;obtain⟨c1,S⟩:=Aw8 b vs e x;have hin:=Ard b (vs:=vs) (e:=e) ω x;have w:=Att N (vs:=vs) j.2.2 x;have a:=Auy (e:=e) hm.code (by rw[c1,S];exact j.1) ω w;have q:=Asy u X c1 S;have y:ImgOK b<|m.put<|P++GI b vs e x::T:=by rw[<-q];exact(Ys hm a).1
  obtain⟨g1,Y,Q⟩:=XA N hlen T xs (P++[GI b vs e x]) _ (by simpa using h) y (by simp[Img.put]);simp only[HF,Vo];have z:∀(rs v:List aF) (m:aI),Ar m (rs++v)=Ar (Ar m rs) v:=λrs=>by
   induction rs with
   |nil=>intro _ _;rfl
   |cons r rs ih=>intro v m;exact ih v _
  rw[z,q,g1,Img.put_put];simp only[N_,bH]at Q|-;exact⟨trivial,(λr p=>by
   rcases m_.1 p with p|p
   .exact a r p
   .exact Y r p),Q⟩
def Vm{l:List aA}(hl:l.length<=100000):RW l=J (((),()),(((ofC l (0,0)).1,(ofC l (0,0)).2,()),())):=by
 have p:∀(k i:Nat) (c:Int×Int),i+k=l.length->BM (λx=>JX x.1.2.2.1 x.1.2.2.2.1 x.1.2.2.2.2.1 x.2.1.1 x.2.1.2.1 x.2.2.1.1 x.2.2.1.2.1) (k+1) (((),(),l,l.length,i,()),((0,0,()),(c.1,c.2,()),()))=J (((),(),()),((0,0,()),((ofC (l.drop i) c).1,(ofC (l.drop i) c).2,()),())):=by
  intro k;induction k with
  |zero=>intro i c hi;obtain rfl:i=l.length:=ω;refine AU ?_;show JX l (l.length:Int) (l.length:Int) 0 0 c.1 c.2=_;unfold JX;rw[c_<|Z_ _,d6_];rfl
  |succ k o=>intro i c hi;have a:i<l.length:=ω;rw[CV W a];refine(BH (x':=(((),(),l,(l.length:Int),((i+1:Nat):Int),()),((0,0,()),((Em c _).1,(Em c _).2,()),()))) ?_).trans<|o (i+1) _ ω;show JX l (l.length:Int) (i:Int) 0 0 c.1 c.2=_;unfold JX;rw[show aY 0 0 0 0 H=W from rfl];have j:=DZ c<|HE (l.getD i W).D0 (l.getD i W).H0;simp only[V (ω:i<(l.length:Int)),Ac ω (ω:(i:Int)<l.length),i_,l_,FU,d_,j,GS a (by unfold DJ;omega)]
 have h:=p l.length 0 (0,0) ω;have h':SX (((),(),l,l.length,0,()),((0,0,()),(0,0,()),()))=_:=AA h ω;unfold RW;rw[h'];rfl
def Aot(e:aA):aF:=aZ 1 e.D0 e.H0 0 0
def Px(b:O)(e:aA)(X:Rnd):Rnd:=bif Pu b X.img then US (Aot e) X else⟨X.recs,X.img,X.xs,X.lan,Em X.ref<|HE e.D0 e.H0⟩
def Lx(b:O):List aA->Rnd->Rnd
 |[],X=>X
 |e::t,X=>Lx b t<|Px b e X
def Bk1(r:aF)(X:Rnd):wrL [r] X=US r X:=by rw[XM];unfold wrL;rw[a1_];rfl
def Zz(h:Aq b e.D0 e.H0=B):AB b (Aot e)=B:=by
 have a:(b.code==0)=B:=by unfold Aq at h;rw[b_]at h;exact h.1
 unfold AB Aot;rw[a];simp only[q_,i_,h,f4_]
def Ao7{X:Rnd}(h:X.ok b)(he:Aq b e.D0 e.H0=B):(Px b e X).ok b:=by
 unfold Px;cases Pu b X.img with
 |true=>exact XI h<|Zz he
 |false=>exact⟨h.img,h.len⟩
def Ar6{b:O}:∀{l:List aA}{X:Rnd},X.ok b->(∀e∈l,Aq b e.D0 e.H0=B)->(Lx b l X).ok b
 |[],_,h,_=>h
 |e::t,X,h,hv=>by show(Lx b t _).ok b;exact Ar6 (Ao7 h<|hv e<|C_ ..) λx hx=>hv x<|F_ _ hx
def Afx(b:O)(e:aA)(X:Rnd):(Px b e X).recs.length<=X.recs.length+1:=by
 unfold Px;cases Pu b X.img with
 |true=>show(X.recs++[_]).length<=_;rw[f_];exact t_ _
 |false=>exact Nat.le_succ _
def Ajm(b:O):∀(l:List aA) (X:Rnd),(Lx b l X).recs.length<=X.recs.length+l.length
 |[],_=>t_ _
 |e::t,X=>by have h1:=Ajm b t<|Px b e X;have a:=Afx b e X;show(Lx b t _).recs.length<=_;rw[D_];omega
def Aje(c:Int×Int):(GO c).length<=64:=by
 have h:∀k i:Nat,((List.range' i k).flatMap<|Nk c).length<=2*k:=by
  intro k;induction k with
  |zero=>intro i;exact t_ _
  |succ k a=>
   intro i;rw[e8_,X_,f_]
   have:=a<|i+1
   have:=Aei c i
   omega
 exact h 32 0
def Ax9(h:e∈GO c):(0<=e.D0/\e.D0<32)/\(e.H0=1\/e.H0=2)/\Ax c e.D0.toNat e.H0=B:=by obtain⟨f,h1,o,a,j⟩:=mem_range.1<|b6_.2 ⟨e,h,rfl⟩;simp only[Ih]at o a j;refine⟨ω,a,?_⟩;rw[o];exact j
def Anj(b:O)(m:aI)(press:Int×Int):Int×Int:=Dj (Dz press<|Bj b)<|ofC m.B0 (0,0)
def Xb(hb:b.small)(hcode:b.code=0){press a:Int×Int}(h:e∈GO (Dj (Dz press<|Bj b) a)):Aq b e.D0 e.H0=B:=by obtain⟨h1,o,j⟩:=Ax9 h;rw[OS _ _ ω,Kr,b_,b_,Mn hb hcode ω o,a6_ h1.1]at j;exact j.1.2
section
variable{b:O}(hb:b.small)(hcode:b.code=0)
include hb hcode
theorem Akr(hl:es.length<=1000)(hv:∀e∈es,Aq b e.D0 e.H0=B):∀(k i:Nat) (Y:Rnd),i+k=es.length->Y.ok b->Y.recs.length<=1000+i->BM (λx=>letI d:=x.2.1.2.2.2;letI f:=d.2.2;letI a:=f.2.2.2;letI g:=a.2.2;letI c:=g.2.2.2;letI e:=c.2.2;Bq x.1.2.1 x.1.2.2.1 x.1.2.2.2.1 x.2.1.1 x.2.1.2.1 x.2.1.2.2.1 d.1 d.2.1 f.1 f.2.1 f.2.2.1 a.1 a.2.1 g.1 g.2.1 g.2.2.1 c.1 c.2.1 e.1 e.2.1 e.2.2.1 e.2.2.2.1 e.2.2.2.2.1) (k+1) (((),es,(es.length:Int),(i:Int),()),(Y.tupB b,()))=J ((),((Lx b (es.drop i) Y).tupB b,())):=by
 intro k;induction k with
 |zero=>intro i Y hi _ _;obtain rfl:i=es.length:=ω;refine AU ?_;show Bq es (es.length:Int) (es.length:Int) Y.recs Y.img.G0 Y.img.R0 Y.img.K0 Y.img.B0 Y.xs Y.lan.lit Y.lan.gong Y.lan.cl.1 Y.lan.cl.2 Y.ref.1 Y.ref.2 b.C0 b.F0 b.J0 b.L0 b.I0 b.M0 b.O0 b.A0=_;unfold Bq;rw[c_<|Z_ (es.length:Int),d6_];rfl
 |succ k z=>
  intro i Y hi p u;have j:i<es.length:=ω;have o:=hv _<|Av W j;have y:=Ah hcode;have he:=CW hb p.img;have v:=p.img.lp;rw[CV W j];refine(BH (x':=(((),es,(es.length:Int),((i+1:Nat):Int),()),((Px b (es.getD i W) Y).tupB b,()))) ?_).trans<|z (i+1) _ ω (Ao7 p o) (by have:=Afx b (es.getD i W) Y;omega);show Bq es (es.length:Int) (i:Int) Y.recs Y.img.G0 Y.img.R0 Y.img.K0 Y.img.B0 Y.xs Y.lan.lit Y.lan.gong Y.lan.cl.1 Y.lan.cl.2 Y.ref.1 Y.ref.2 b.C0 b.F0 b.J0 b.L0 b.I0 b.M0 b.O0 b.A0=_;unfold Bq Px;rw[show aY 0 0 0 0 H=W from rfl,Abm hb Y.img ω ω ω];simp only[V (ω:(i:Int)<(es.length:Int)),Ac (ω:(0:Int)<=(i:Int)) (ω:(i:Int)<(es.length:Int)),i_,l_,d_,GS j (show es.length<=DJ by unfold DJ;omega)];cases Pu b Y.img with
  |true=>have q:=Adp hb hcode p (l:=[Aot<|es.getD i W]) (by show 1<=100000;omega) (by intro r u;rw[y_.1 u];exact Zz o) ω;rw[Bk1]at q;unfold Aot at q;simp only[i_,q,d_];rfl
  |false=>have w:=DZ Y.ref<|HE (es.getD i W).D0 (es.getD i W).H0;simp only[j_,FU,d_,w];rfl
theorem Aqp(press a:Int×Int){X:Rnd}(j:X.ok b)(o:X.recs.length<=1000):DK press.1 press.2 a.1 a.2 X.recs X.img.G0 X.img.R0 X.img.K0 X.img.B0 X.xs X.lan.lit X.lan.gong X.lan.cl.1 X.lan.cl.2 X.ref.1 X.ref.2 b.C0 b.F0 b.J0 b.L0 b.I0 b.M0 b.O0 b.A0=J ((),((Lx b (GO<|Dj (Dz press<|Bj b) a) X).tupB b,())):=by have hl:=Aje<|Dj (Dz press<|Bj b) a;have h:=Akr hb hcode (es:=GO<|Dj (Dz press _) a) ω (λe he=>Xb hb hcode he) _ 0 X (n_ _) j ω;have h':EP (((),GO _,((GO _).length:Int),0,()),(X.tupB b,()))=_:=AA h ω;unfold DK;rw[DL hb hcode];simp only[d_];rw[ED press _];simp only[d_];rw[GG _ a];simp only[d_];rw[RH];simp only[d_];unfold Rnd.tupB at h';rw[h'];rfl
end
def Akg(n:Int):Hg n=J ((!aK 0 1000000 n,()),()):=by
 unfold Hg aK;by_cases g:n<0
 .rw[V g,c_ (ω:¬0<=n)];rfl
 .rw[c_ g,V (ω:0<=n)];by_cases a:1000000<n
  .rw[V a,c_ ω];rfl
  .rw[c_ a,V ω];rfl
def Ams(hl:xs.length<=maxLen):Bi xs=J ((!Pb xs,()),()):=by
 have hm:maxLen<=9223372036854775807:=by decide
 have p:∀(k i:Nat),i+k=xs.length->∃y,BM (λx=>AE x.1.1 x.1.2.2.1 x.1.2.2.2.1) (k+1) ((xs,(),xs.length,i,()),())=J y/\(match y with|.inl _=>(xs.drop i).all (aK 0 1000000)=B|.inr z=>0<=z.1.1/\(xs.drop i).all (aK 0 1000000)=H):=by
  intro k;induction k with
  |zero=>
   intro i hi;refine⟨.inl ((),()),AU ?_,?_⟩
   .show AE xs (xs.length:Int) (i:Int)=_;unfold AE;rw[show decide _=H by simp;omega];rfl
   .rw[show i=xs.length by omega,d6_];rfl
  |succ k u=>
   intro i hi;have o:i<xs.length:=ω;have j:AE xs xs.length i=J (bif aK 0 1000000 (xs.getD i 0)then .inl ((xs,(),xs.length,((i+1:Nat):Int),()),())else .inr (.inr ((i,()),()))):=by
    unfold AE;have w:R.wrap (i+1)=((i+1:Nat):Int):=by rw[Z ω ω];omega
    rw[show decide _=B by simp;omega,Ac ω ω,Akg,w];simp only[ l_];cases aK 0 1000000 _<;>rfl
   rw[CV _ o,T_];cases hq:aK 0 1000000 _ with
   |true=>rw[hq]at j;obtain⟨y,h1,a⟩:=u (i+1) ω;exact⟨y,(BH j).trans h1,by exact a⟩
   |false=>rw[hq]at j;exact⟨_,AU j,by show _<=(i:Int)/\_;exact⟨ω,rfl⟩⟩
 obtain⟨y,h1,a⟩:=p xs.length 0 ω;have q:Cf ((xs,(),xs.length,0,()),())=J y:=AA h1 ω;rw[d8_]at a;unfold Bi Cr Pb;rw[q];cases y with
 |inl z=>simp only at a;rw[a];rfl
 |inr z=>rw[a.2];simp only[d_];rw[V a.1];rfl
def WI(m:aI)(hl:xs.length<=maxLen):It m.G0 m.R0 m.K0 m.B0 xs=J (((((xs.length:Int)==(m.B0.length:Int))&&Pb xs),()),()):=by
 unfold It;rw[Ams hl];cases(xs.length==(m.B0.length:Int))with
 |false=>rfl
 |true=>simp only[i_,d_,b1_,Bool.not_not]
def BX(l:List α)(h:l.length<=100000):Lv l=J ((l,()),()):=by unfold Lv;rw[AR ω];rfl
def Bd4(n:Nat):Lan:=⟨aU n noP,aU n H,(0,0)⟩
def FD(b:O)(m:aI)(xs:List Int)(vs:List aD)(ps:List aT)(press:Int×Int)(good:Bool):Rnd:=bif good then Lx b (GO<|Anj b m press) (wrL (SE b vs m.B0) ⟨[],m,xs,Nm b vs ps,(0,0)⟩)else⟨[],m,xs,Bd4 vs.length,(0,0)⟩
noncomputable def Aln(b:O)(m:aI)(xs:List Int)(vs:List aD)(ps:List aT)(press:Int×Int)(good:Bool):List aF×List Int×Int×Unit:=Pn b (FD b m xs vs ps press good).img (FD b m xs vs ps press good).xs vs
noncomputable def MK(b:O)(m:aI)(xs:List Int)(vs:List aD)(ps:List aT)(press:Int×Int)(good:Bool):Rnd:={ wrL (Aln b m xs vs ps press good).1 (FD b m xs vs ps press good)with xs:=(Aln b m xs vs ps press good).2.1 }
def QJ(hcode:b.code=0)(vs:List aD):∀{l:List aA},(∀e∈l,Aq b e.D0 e.H0=B)->∀r∈SE b vs l,AB b r=B/\r.C1=2:=λh r a=>by
 obtain⟨e,he,a⟩:=c2_.1 a;have o:=h e he;cases j:UR b vs e.D0 e.H0 with
 |false=>rw[j]at a;cases a
 |true=>rw[j]at a;rw[y_.1 a];refine⟨?_,rfl⟩;unfold AB;rw[hcode];simp only[show((2:Int)==1)=H from rfl,j_,q_,i_,o,f4_]
def Aqm(hcode:b.code=0)(hm:ImgOK b m)(xs:List Int):∀r∈(Pn b m xs vs).1,AB b r=B:=by
 have j:=Ah hcode;unfold Pn;rw[Img.ok_iff.2 hm];cases hq:(xs.length==(m.B0.length:Int))with
 |false=>exact λr a=>by cases a
 |true=>
  cases hv:(vs.length==(b.A0.length:Int))with
  |false=>exact λr a=>by cases a
  |true=>
   cases Pb xs with
   |false=>exact λr a=>by cases a
   |true=>
    have h1:xs.length=(m.B0.length:Int):=by simpa using hq
    have o:vs.length=(b.A0.length:Int):=by simpa using hv
    exact(XA ω o m.B0 xs [] m ω hm rfl).2.1
section
variable{b:O}(hb:b.small)(hcode:b.code=0){m:aI}(hm:ImgOK b m){xs:List Int}(hx:xs.length=m.B0.length){vs:List aD}(ps:List aT)(press:Int×Int)(good:Bool)
include hb hcode hm hx
theorem Apd:(FD b m xs vs ps press good).ok b/\(FD b m xs vs ps press good).recs.length<=100:=by
 have he:=CW hb hm;have a:∀L:Lan,Rnd.ok b ⟨[],m,xs,L,(0,0)⟩:=λL=>⟨hm,hx⟩
 cases good with
 |false=>exact⟨a _,W_ _⟩
 |true=>have hv:=QJ hcode vs λe he=>(Fy.1<|hm.en e he).1;refine⟨Ar6 (Apj (a _) λr j=>(hv r j).1) λe he=>Xb hb hcode he,?_⟩;have h1:=Ajm b (GO<|Anj b m press)<|wrL (SE b vs m.B0) ⟨[],m,xs,Nm b vs ps,(0,0)⟩;have q:=Aje<|Anj b m press;have o:=ZD b vs m.B0;have p:(wrL (SE b vs m.B0) ⟨[],m,xs,Nm b vs ps,(0,0)⟩).recs.length=(SE b vs m.B0).length:=rfl;show(Lx b _ _).recs.length<=100;omega
theorem Tu(q:Pb xs=B)(hv:okViews vs)(N:vs.length=b.A0.length)(hp:ps.length=b.A0.length):LB b.C0 b.F0 b.J0 b.L0 b.I0 b.M0 b.O0 b.A0 m.G0 m.R0 m.K0 m.B0 xs vs ps press.1 press.2 good=J (((),0,()),((MK b m xs vs ps press good).tup,())):=by
 have h5:=Ah hcode;have he:=CW hb hm;have S:=hm.lp;have h4:=hm.lf;have h0:=hm.ll;have h2:100000<=maxLen:=by decide
 have P:∀L:Lan,Rnd.ok b ⟨[],m,xs,L,(0,0)⟩:=λL=>⟨hm,hx⟩
 obtain⟨j,h3⟩:=Apd hb hcode hm hx (vs:=vs) ps press good;have a:=Acw hb hcode vs ps ω;unfold Ae4 at a;rw[show(vs.length==(b.A0.length:Int))=B by rw[N];exact q_ _,show(ps.length==(b.A0.length:Int))=B by rw[hp];exact q_ _]at a;have Q:=CW hb j.img;have Y:=j.img.lp;have h6:=j.len;have p:=Agj hb hv ω (FD b m xs vs ps press good).img ω ω (FD b m xs vs ps press good).xs ω;have h1:=(Ayq b (FD b m xs vs ps press good).img (FD b m xs vs ps press good).xs vs).1;have v:=Adp hb hcode j (l:=(Pn b (FD b m xs vs ps press good).img (FD b m xs vs ps press good).xs vs).1) ω (Aqm hcode j.img _) ω;unfold LB;rw[a];simp only[ Lan.tup];rw[Dw hb m ω ω,Img.ok_iff.2 hm];rw[WI m ω,show(xs.length==(m.B0.length:Int))=B by rw[hx];exact q_ _,q];unfold MM Be AG AM Ov;rw[BX m.G0 ω,BX m.R0 ω,BX m.K0 ω,BX m.B0 ω,BX xs ω];simp only[ f4_,V (ω:0<=(vs.length:Int)),V<|e1_ _,V (ω:(vs.length:Int)<=2147483648),i_,l_];cases good with
 |false=>simp only[j_,d_];rw[show II b.C0 b.F0 b.J0 b.L0 b.I0 b.M0 b.O0 b.A0 m.G0 m.R0 m.K0 m.B0 xs vs=_ from p];simp only[d_];rw[show Bv (Pn b (FD b m xs vs ps press H).img (FD b m xs vs ps press H).xs vs).1 [] m.G0 m.R0 m.K0 m.B0 xs (aU vs.length<|Calls.mk 0 0) (aU vs.length H) 0 0 0 0 b.C0 b.F0 b.J0 b.L0 b.I0 b.M0 b.O0 b.A0=_ from v];rfl
 |true=>have u:=QJ hcode vs λe he=>(Fy.1<|hm.en e he).1;have h7:=ZD b vs m.B0;have z:=Adp hb hcode (P<|Nm b vs ps) ω (λr w=>(u r w).1)<|W_ _;have y:=Aqp hb hcode press (ofC m.B0 (0,0)) (X:=wrL _ ⟨[],m,xs,Nm b vs ps,(0,0)⟩) (Apj (P _) λr w=>(u r w).1) (by show([]++SE b vs m.B0).length<=_;rw[e0_];omega);unfold ET;simp only[i_];rw[Acx hb hcode hm ω vs ω];simp only[d_];rw[z];simp only[d_,Vm (ω:m.B0.length<=100000),Rnd.tupB];rw[y];simp only[d_,Rnd.tupB];rw[show II b.C0 b.F0 b.J0 b.L0 b.I0 b.M0 b.O0 b.A0 (Lx b (GO<|Dj _ _) _).img.G0 (Lx b (GO<|Dj _ _) _).img.R0 (Lx b (GO<|Dj _ _) _).img.K0 (Lx b (GO<|Dj _ _) _).img.B0 (Lx b (GO<|Dj _ _) _).xs vs=_ from p];simp only[d_];refine Eq.trans (b5_ (λo=>bC o _) v) ?_;rfl
end
def Af:CarOutput:=CarOutput.mk 0 0 H 0 0 H 0 0 H
structure Pk where
 m:Mch
 budget:Int
 e:Int
 legacy:List Bool
 shows:List Calls
 reset:List Bool
 out:Outputs
def Pk.ap{α:Type}(f:Int->Int->Int->Int->Nat->Nat->Nat->List Car->List Int->List Bool->List Bool->List aA->ByteArray->ByteArray->Int->List Debounced->List Belief->List NewCar->List Loaded->List Int->List aT->Int->Int->Int->Int->Int->Int->Int->List aQ->Bool->Int->Int->List Bool->List aT->List Bool->Int->Int->Int->Int->Bool->Bool->Int->List CarOutput->α)(b:O)(x:Inp)(g:Bool)(t:Pk):α:=f b.C0 b.F0 b.J0 b.L0 b.I0 b.M0 b.O0 b.A0 t.m.E0.G0 t.m.E0.R0 t.m.E0.K0 t.m.E0.B0 t.m.S1.h0 t.m.S1.h1 t.m.S1.sel t.m.Z0 t.m.P0 t.m.A0 t.m.L3 t.m.Z2 t.m.F4 t.m.J4 t.m.X3 t.m.F3 x.press.1 x.press.2 x.kind x.car x.cars g t.budget t.e t.legacy t.shows t.reset t.out.E6 t.out.C6 t.out.L4 t.out.I4 t.out.F6 t.out.M0 t.out.D6 t.out.A0
def Pk.tup(b:O)(x:Inp)(g:Bool)(t:Pk):=(b.C0,b.F0,b.J0,b.L0,b.I0,b.M0,b.O0,b.A0,t.m.E0.G0,t.m.E0.R0,t.m.E0.K0,t.m.E0.B0,t.m.S1.h0,t.m.S1.h1,t.m.S1.sel,t.m.Z0,t.m.P0,t.m.A0,t.m.L3,t.m.Z2,t.m.F4,t.m.J4,t.m.X3,t.m.F3,x.press.1,x.press.2,x.kind,x.car,x.cars,g,t.budget,t.e,t.legacy,t.shows,t.reset,t.out.E6,t.out.C6,t.out.L4,t.out.I4,t.out.F6,t.out.M0,t.out.D6,t.out.A0,())
def Pk.wr(t:Pk)(j:aI)(s:Sto)(a e:Int):Pk:={ t with m:={ t.m with E0:=j,S1:=s },budget:=a,e:=e }
def goodL(b:O):aI->List aF->Prop
 |_,[]=>True
 |m,r::l=>AB b r=B/\JH b m r=H/\goodL b (Aw m r) l
def goodL.app:∀{l:List aF}{m:aI}{k:List aF},goodL b m l->goodL b (Ar m l) k->goodL b m (l++k)
 |[],_,_,_,h=>h
 |_::_,_,_,⟨h1,j,a⟩,h=>⟨h1,j,a.app h⟩
def Xf{b:O}:∀{l:List aF}(m:aI),(∀r∈l,AB b r=B/\r.C1≠1)->goodL b m l
 |[],_,_=>trivial
 |r::l,m,h=>by have h1:=h r<|C_ ..;refine⟨h1.1,?_,Xf _ λx hx=>h x<|F_ _ hx⟩;unfold JH;rw[Ao h1.2];rfl
def goodL.drop:∀{l:List aF}{m:aI},goodL b m l->∀i,i<l.length->AB b (l.getD i ⟨0,0,0,0,0⟩)=B/\JH b (Ar m<|l.take i) (l.getD i ⟨0,0,0,0,0⟩)=H
 |[],_,_,_,h=>absurd h<|Y_ _
 |_::_,_,⟨h1,j,_⟩,0,_=>⟨h1,j⟩
 |_::_,_,⟨_,_,a⟩,i+1,h=>a.drop i (by rw[D_]at h;omega)
def Apq(h:i<l.length):Ar m (l.take<|i+1)=Aw (Ar m<|l.take i) (l.getD i ⟨0,0,0,0,0⟩):=by rw[List.take_succ,Fi,g_,h_ h];rfl
def Aum(b:O)(s:Sto)(m:aI)(r:aF):Sto:=if(s.cur.size:Int)+6<=b.J0 then s.set s.sel (s.get s.sel++txt (DE r))else { s.set (1-s.sel) (txt<|(FZ<|Aw m r).flatMap DE)with sel:=1-s.sel }
def Asx{s:Sto}(o:Jst b s m)(hv:AB b r=B)(a:JH b m r=H){bud:Int}(p:0<=bud)(u:QF b s m r<=bud):(PZ b s m r bud).1=Aum b s m r:=by
 have q:=(Kq o.img hv).1;have v:=Aiz o hv a;have j:=UQ o.ok;unfold PZ;rw[Img.ok_iff.2 o.img,hv,V o.ok,c_ ω,a];unfold QF at u;unfold FY Aum;by_cases g:s.cur.size+6<=b.J0
 .rw[if_pos g]at u;rw[if_pos g,V ω];have w:=Ado (t:=DE r) o.ok j p (by rw[<-Agw j,Ik];omega);rw[Ik,if_neg ω]at w;rw[w];rfl
 .rw[if_neg g]at u;rw[if_neg g,c_ ω];rcases WD o.ok q p ω with⟨_,y⟩|⟨z,_⟩
  .rw[y];rfl
  .omega
def Ao8(b:O):Sto->aI->List aF->Sto
 |s,_,[]=>s
 |s,m,r::l=>Ao8 b (Aum b s m r) (Aw m r) l
def Ao9(b:O):∀(l:List aF) (k:List aF) (s:Sto) (m:aI),Ao8 b s m (l++k)=Ao8 b (Ao8 b s m l) (Ar m l) k
 |[],_,_,_=>rfl
 |_::l,k,_,_=>Ao9 b l k _ _
def Wr(b:O)(t:Pk)(l:List aF)(o:Pk):Prop:=∃j s a e,o=t.wr j s a e/\((e=0/\j=Ar t.m.E0 l/\Jst b s j/\t.budget-600*(l.length:Int)<=a/\0<=a/\a<=t.budget/\s=Ao8 b t.m.S1 t.m.E0 l)\/(e=8/\t.budget<600*(l.length:Int)/\s.ok b.J0/\∃k,k<l.length/\EJ b s=Ar t.m.E0 (l.take k)))
section
variable{b:O}(hb:b.small){x:Inp}{g:Bool}
include hb
theorem Bfx{s:Sto}(a:Jst b s m)(hv:AB b r=B):6<=QF b s m r/\QF b s m r<=600:=by have j:=Ah a.img.code;have o:=CW hb (Kq a.img hv).1;unfold QF;split<;>omega
theorem Oo{t:Pk}(hj:Jst b t.m.S1 t.m.E0)(h0:0<=t.budget/\t.budget<9223372036854775808)(he:t.e=0)(hl:goodL b t.m.E0 l)(hn:l.length<=100000):aC (t.ap (Cg l) b x g) λy=>∃a,(y=.inl ((),(a.tup b x g,()))\/y=.inr ((),(a.tup b x g,())))/\Wr b t l a:=by
 have h8:=Ah hj.img.code;refine U (Q:=λy=>∃a,(y=.inl ((),(a.tup b x g,()))\/y=.inr ((),(a.tup b x g,())))/\Wr b t l a) ?_ λy hy=>?_
 .unfold FF;refine bA (λk z=>∃(i:Nat) (a:Pk),z=(((),l,(l.length:Int),(i:Int),()),(a.tup b x g,()))/\i+k=l.length/\Wr b t (l.take i) a) (λk z hz=>?_) l.length ⟨0,t,rfl,n_ _,t.m.E0,t.m.S1,t.budget,t.e,rfl,.inl ⟨he,rfl,hj,σ,h0.1,e1_ _,rfl⟩⟩ ω;obtain⟨i,a,rfl,hk,S,s,u,e,rfl,hw⟩:=hz;show aC (Pk.ap (ID l (l.length:Int) i) b x g _) _;refine C (λq=>?_) λq=>A ⟨t.wr S s u e,.inl rfl,S,s,u,e,rfl,?_⟩
  .have q:=k_ q;have hi:i<l.length:=ω;have h4:(l.take i).length=i:=by rw[x_];omega
   have p:(l.take<|i+1).length=i+1:=by rw[x_];omega
   refine aE (Ac ω q) ?_;rcases hw with⟨he,X,j,N,v,h9,h3⟩|⟨he,N,hs,k',h6,hr⟩
   .subst he X;obtain⟨hv,hf⟩:=hl.drop i hi;have h5:=CW hb j.img;have hp:=j.img.lp;refine aS rfl<|aJ (Aki hb ω s (m:=Ar t.m.E0 _) ω ω (l.getD i ⟨0,0,0,0,0⟩) (bud:=u) ω) ?_;have w:=Cm (n:=i) ω;have h7:=Bfx hb j hv;rcases Awp hb j hv hf v with⟨c1,s',P,Y⟩|⟨c1,s',P,Y,c4⟩
    .have o:=Asx j hv hf v c1;rw[P]at o;rw[P];refine A ⟨k-1,ω,i+1,t.wr _ s' (u-QF b s _ _) 0,by first|(rw[<-w];rfl)|rw[<-w],ω,_,s',_,0,rfl,.inl ⟨rfl,(Apq hi).symm,Y,?_,ω,ω,?_⟩⟩
     .rw[p];omega
     .rw[List.take_succ,Ao9,<-h3,h_ hi];rw[g_,h_ hi]at o;exact o
    .rw[P];refine A ⟨k-1,ω,i+1,t.wr _ s' 0 8,by first|(rw[<-w];rfl)|rw[<-w],ω,_,s',0,8,rfl,.inr ⟨rfl,?_,Y,i,ω,?_⟩⟩
     .rw[p];omega
     .rw[c4,List.take_take,d2_ ω]
   .subst he;refine aE rfl<|A ⟨t.wr S s u 8,.inr rfl,S,s,u,8,rfl,.inr ⟨rfl,?_,hs,k',ω,?_⟩⟩
    .rw[h4]at N;omega
    .rw[hr,List.take_take,d2_ ω]
  .have q:=o_ q;rw[a3_ ω]at hw;exact hw
 .obtain⟨a,h1|h1,h2⟩:=hy
  .subst h1;exact A ⟨a,.inr rfl,h2⟩
  .subst h1;exact A ⟨a,.inl rfl,h2⟩
end
end Go.Ovl
namespace Go.Ovl
open Go Go.Ab
variable{n:Int}{L:List Int}{i:Nat}
structure Contacts where
 C0:Int
 Up:Bool
 C4:Bool
 M4:Bool
 E4:Bool
def Contacts.get(c:Contacts)(i:Int):Bool:=if i=32 then c.Up else if i=33 then c.C4 else if i=34 then c.M4 else if i=35 then c.E4 else decide (0<=i/\i<32)&&BY c.C0 i.toNat
def Contacts.set(c:Contacts)(i:Int)(a:Bool):Contacts:=
 if i=32 then { c with Up:=a }else if i=33 then { c with C4:=a }else if i=34 then { c with M4:=a }else if i=35 then { c with E4:=a }
 else if 0<=i/\i<32 then { c with C0:=RP c.C0 i.toNat a }else c
def Contacts.wf(c:Contacts):Prop:=0<=c.C0/\c.C0<4294967296
def Contacts.tup(c:Contacts):Int×Bool×Bool×Bool×Bool×Unit:=(c.C0,c.Up,c.C4,c.M4,c.E4,())
def Contacts.get_lt(c:Contacts){j:Int}(h0:0<=j)(h:j<32):c.get j=BY c.C0 j.toNat:=by unfold Contacts.get;rw[if_neg ω,if_neg ω,if_neg ω,if_neg ω];simp[h0,h]
def Contacts.set_wf{c:Contacts}(h:c.wf)(i:Int)(a:Bool):(c.set i a).wf:=by
 unfold Contacts.set
 repeat(split;exact h)
 split
 .exact Au7 _ _ _
 .exact h
def Contacts.get_set(c:Contacts){i j:Int}(o:Bool)(hi:0<=i/\i<36)(q:0<=j/\j<36):(c.set i o).get j=if j=i then o else c.get j:=by
 by_cases h:i<32
 .have e:c.set i o={ c with C0:=RP c.C0 i.toNat o }:=by
   unfold Contacts.set;rw[if_neg ω,if_neg ω,if_neg ω,if_neg ω,if_pos ω]
  rw[e];by_cases p:j<32
  .rw[Contacts.get_lt _ q.1 p,Contacts.get_lt _ q.1 p];rw[Bew _ _ ω ω];by_cases a:j=i
   .rw[if_pos a,if_pos ω]
   .rw[if_neg a,if_neg ω]
  .have:j=32\/j=33\/j=34\/j=35:=ω
   rw[if_neg ω];rcases this with rfl|rfl|rfl|rfl<;>simp[Contacts.get]
 .have:i=32\/i=33\/i=34\/i=35:=ω
  by_cases a:j=i
  .subst a;rcases this with rfl|rfl|rfl|rfl<;>simp[Contacts.set,Contacts.get]
  .rw[if_neg a];rcases this with rfl|rfl|rfl|rfl<;>simp only[Contacts.set,Contacts.get]<;>simp[a]
def Contacts.ext'{c d:Contacts}(u:c.wf)(v:d.wf)(h:∀j:Int,0<=j->j<36->c.get j=d.get j):c=d:=by
 have w:c.C0=d.C0:=by
  refine Agp u v λi hi=>?_
  have:=h i ω ω
  unfold Contacts.get at this;rw[if_neg ω,if_neg ω,if_neg ω,if_neg ω,if_neg ω,if_neg ω,if_neg ω,if_neg ω]at this;simpa[show(0<=i/\(i:Int)<32)from⟨ω,ω⟩,hi]using this
 have a:=h 32 ω ω;have q:=h 33 ω ω;have o:=h 34 ω ω;have p:=h 35 ω ω;simp[Contacts.get]at a q o p;cases c;cases d
 simp_all
def Auk{i:Int}(h:0<=i)(a:i<32):i.toNat<32:=ω
def SR(c:Contacts)(q:c.wf)(i:Int):KY c.C0 c.Up c.C4 c.M4 c.E4 i=J ((c.get i,()),()):=by
 unfold KY Contacts.get;by_cases a:i=32
 .simp[a]
 by_cases p:i=33
 .simp[p]
 by_cases j:i=34
 .simp[j]
 by_cases o:i=35
 .simp[o]
 simp only[a,p,j,o,Ao a,Ao p,Ao j,Ao o];by_cases h0:0<=i
 .by_cases h1:i<32
  .simp only[Lk];rw[Bap q<|Auk h0 h1];simp[h0,h1]
  .simp[h0,h1]
 .simp[h0]
def Abw(c:Contacts)(i:Int)(u:Bool):Ns c.C0 c.Up c.C4 c.M4 c.E4 i u=J (((),()),((c.set i u).tup,())):=by
 unfold Ns Contacts.set;by_cases a:i=32
 .simp[a,Contacts.tup]
 by_cases p:i=33
 .simp[p,Contacts.tup]
 by_cases j:i=34
 .simp[j,Contacts.tup]
 by_cases o:i=35
 .simp[o,Contacts.tup]
 simp only[a,p,j,o,g3_,Ao a,Ao p,Ao j,Ao o];by_cases h0:0<=i
 .have q:decide (0<=i)=B:=by simpa using h0
  by_cases h1:i<32
  .have v:decide (i<32)=B:=by simpa using h1
   simp only[q,v,i_,d_,Lk];rw[Awm _<|Auk h0 h1,Bkl _<|Auk h0 h1,Ay6,if_pos ⟨h0,h1⟩];cases u<;>rfl
  .have v:decide (i<32)=H:=by simpa using h1
   simp only[q,v,j_];rw[if_neg ω];rfl
 .have q:decide (0<=i)=H:=by simpa using h0
  simp only[q,j_];rw[if_neg ω];rfl
structure Deb where
 c:Contacts
 k:List Int
def Deb.no:Deb:=⟨⟨0,H,H,H,H⟩,aU 36 0⟩
def Deb.tup(s:Deb):Int×Bool×Bool×Bool×Bool×Int×Int×Int×Int×Int×Int×Int×Int×Int×Int×Int×Int×Int×Int×Int×Int×Int×Int×Int×Int×Int×Int×Int×Int×Int×Int×Int×Int×Int×Int×Int×Int×Int×Int×Int×Int×Unit:=(s.c.C0,s.c.Up,s.c.C4,s.c.M4,s.c.E4,s.k.getD 0 0,s.k.getD 1 0,s.k.getD 2 0,s.k.getD 3 0,s.k.getD 4 0,s.k.getD 5 0,s.k.getD 6 0,s.k.getD 7 0,s.k.getD 8 0,s.k.getD 9 0,s.k.getD 10 0,s.k.getD 11 0,s.k.getD 12 0,s.k.getD 13 0,s.k.getD 14 0,s.k.getD 15 0,s.k.getD 16 0,s.k.getD 17 0,s.k.getD 18 0,s.k.getD 19 0,s.k.getD 20 0,s.k.getD 21 0,s.k.getD 22 0,s.k.getD 23 0,s.k.getD 24 0,s.k.getD 25 0,s.k.getD 26 0,s.k.getD 27 0,s.k.getD 28 0,s.k.getD 29 0,s.k.getD 30 0,s.k.getD 31 0,s.k.getD 32 0,s.k.getD 33 0,s.k.getD 34 0,s.k.getD 35 0,())
def Deb.cnt(s:Deb):Int×Int×Int×Int×Int×Int×Int×Int×Int×Int×Int×Int×Int×Int×Int×Int×Int×Int×Int×Int×Int×Int×Int×Int×Int×Int×Int×Int×Int×Int×Int×Int×Int×Int×Int×Int×Unit:=(s.k.getD 0 0,s.k.getD 1 0,s.k.getD 2 0,s.k.getD 3 0,s.k.getD 4 0,s.k.getD 5 0,s.k.getD 6 0,s.k.getD 7 0,s.k.getD 8 0,s.k.getD 9 0,s.k.getD 10 0,s.k.getD 11 0,s.k.getD 12 0,s.k.getD 13 0,s.k.getD 14 0,s.k.getD 15 0,s.k.getD 16 0,s.k.getD 17 0,s.k.getD 18 0,s.k.getD 19 0,s.k.getD 20 0,s.k.getD 21 0,s.k.getD 22 0,s.k.getD 23 0,s.k.getD 24 0,s.k.getD 25 0,s.k.getD 26 0,s.k.getD 27 0,s.k.getD 28 0,s.k.getD 29 0,s.k.getD 30 0,s.k.getD 31 0,s.k.getD 32 0,s.k.getD 33 0,s.k.getD 34 0,s.k.getD 35 0,())
def Deb.at(n:Int)(r:Contacts)(i:Nat)(s:Deb):Deb:=if r.get i=s.c.get i then⟨s.c,s.k.set i 0⟩else if s.k.getD i 0+1=n then⟨s.c.set i<|r.get i,s.k.set i 0⟩else⟨s.c,s.k.set i<|s.k.getD i 0+1⟩
def Deb.step(n:Int)(s:Deb)(r:Contacts):Deb:=Ba (Deb.at n r) 36 0 s
structure Deb.wf(s:Deb):Prop where
 c:s.c.wf
 len:s.k.length=36
 lo:∀j,j<36->0<=s.k.getD j 0
 hi:∀j,j<36->s.k.getD j 0<1000
def Deb.is(n:Int)(s:Deb):Prop:=1<=n/\n<=16/\∀j,j<36->0<=s.k.getD j 0/\s.k.getD j 0<n
def TE(h:L.length=36):[L.getD 0 0,L.getD 1 0,L.getD 2 0,L.getD 3 0,L.getD 4 0,L.getD 5 0,L.getD 6 0,L.getD 7 0,L.getD 8 0,L.getD 9 0,L.getD 10 0,L.getD 11 0,L.getD 12 0,L.getD 13 0,L.getD 14 0,L.getD 15 0,L.getD 16 0,L.getD 17 0,L.getD 18 0,L.getD 19 0,L.getD 20 0,L.getD 21 0,L.getD 22 0,L.getD 23 0,L.getD 24 0,L.getD 25 0,L.getD 26 0,L.getD 27 0,L.getD 28 0,L.getD 29 0,L.getD 30 0,L.getD 31 0,L.getD 32 0,L.getD 33 0,L.getD 34 0,L.getD 35 0]=L:=by
 have e:[L.getD 0 0,L.getD 1 0,L.getD 2 0,L.getD 3 0,L.getD 4 0,L.getD 5 0,L.getD 6 0,L.getD 7 0,L.getD 8 0,L.getD 9 0,L.getD 10 0,L.getD 11 0,L.getD 12 0,L.getD 13 0,L.getD 14 0,L.getD 15 0,L.getD 16 0,L.getD 17 0,L.getD 18 0,L.getD 19 0,L.getD 20 0,L.getD 21 0,L.getD 22 0,L.getD 23 0,L.getD 24 0,L.getD 25 0,L.getD 26 0,L.getD 27 0,L.getD 28 0,L.getD 29 0,L.getD 30 0,L.getD 31 0,L.getD 32 0,L.getD 33 0,L.getD 34 0,L.getD 35 0]=(aW 36).map (λq=>L.getD q 0):=rfl;rw[e];apply List.ext_getElem
 .simp[h]
 .intro j h1 a;simp[a]
def Xc(h:i<L.length)(q:Nat)(v:Int):(bif Nat.beq i q then v else L.getD q 0)=(L.set i v).getD q 0:=by
 rw[Bs];by_cases e:i=q
 .subst e;simp[h]
 .simp[e]
def Ak0{s:Deb}(h:s.wf)(q:s.is n){r:Contacts}(hi:i<36):(s.at n r i).wf/\(s.at n r i).is n:=by
 have p:∀v j,(s.k.set i v).getD j 0=if j=i then v else s.k.getD j 0:=by
  intro v j;rw[<-Xc (by rw[h.len];exact hi),Bs];by_cases e:i=j
  .simp[e]
  .simp[e,a7_ e]
 have Q:=q.1;have y:=q.2.1;have u:∀v:Int,0<=v->v<n->∀j,j<36->0<=(s.k.set i v).getD j 0/\(s.k.set i v).getD j 0<n:=by
  intro v h1 z j o;rw[p];by_cases e:j=i
  .rw[if_pos e];exact⟨h1,z⟩
  .rw[if_neg e];exact q.2.2 j o
 have a:∀(c:Contacts) v,c.wf->0<=v->v<n->Deb.wf ⟨c,s.k.set i v⟩/\Deb.is n ⟨c,s.k.set i v⟩:=by intro c v N h1 z;have w:=u v h1 z;exact⟨⟨N,by simp[h.len],λj o=>(w j o).1,λj o=>by have:=(w j o).2;simp only at this|-;omega⟩,Q,y,w⟩
 have P:=q.2.2 i hi;unfold Deb.at;split
 .exact a _ _ h.c ω ω
 .split
  .exact a _ _ (Contacts.set_wf h.c _ _) ω ω
  .exact a _ _ h.c ω ω
def Ai0{n:Int}{r:Contacts}:∀(m i:Nat) (s:Deb),i+m<=36->s.wf->s.is n->(Ba (Deb.at n r) m i s).wf/\(Ba (Deb.at n r) m i s).is n
 |0,_,_,_,h,a=>⟨h,a⟩
 |m+1,i,s,hi,h,a=>Ai0 m (i+1) _ ω (Ak0 h a ω).1 (Ak0 h a ω).2
def Wh{s:Deb}(h:s.wf)(a:s.is n)(r:Contacts):(s.step n r).wf/\(s.step n r).is n:=Ai0 36 0 s ω h a
def Akb{s:Deb}(h:s.wf)(Q:s.is n){r:Contacts}(y:r.wf)(b:Deb)(hi:i<36):
  Ic n (i:Int) s.c.C0 s.c.Up s.c.C4 s.c.M4 s.c.E4 (s.k.getD 0 0) (s.k.getD 1 0) (s.k.getD 2 0) (s.k.getD 3 0) (s.k.getD 4 0) (s.k.getD 5 0) (s.k.getD 6 0) (s.k.getD 7 0) (s.k.getD 8 0) (s.k.getD 9 0) (s.k.getD 10 0) (s.k.getD 11 0) (s.k.getD 12 0) (s.k.getD 13 0) (s.k.getD 14 0) (s.k.getD 15 0) (s.k.getD 16 0) (s.k.getD 17 0) (s.k.getD 18 0) (s.k.getD 19 0) (s.k.getD 20 0) (s.k.getD 21 0) (s.k.getD 22 0) (s.k.getD 23 0) (s.k.getD 24 0) (s.k.getD 25 0) (s.k.getD 26 0) (s.k.getD 27 0) (s.k.getD 28 0) (s.k.getD 29 0) (s.k.getD 30 0) (s.k.getD 31 0) (s.k.getD 32 0) (s.k.getD 33 0) (s.k.getD 34 0) (s.k.getD 35 0) r.C0 r.Up r.C4 r.M4 r.E4 b.c.C0 b.c.Up b.c.C4 b.c.M4 b.c.E4 (b.k.getD 0 0) (b.k.getD 1 0) (b.k.getD 2 0) (b.k.getD 3 0) (b.k.getD 4 0) (b.k.getD 5 0) (b.k.getD 6 0) (b.k.getD 7 0) (b.k.getD 8 0) (b.k.getD 9 0) (b.k.getD 10 0) (b.k.getD 11 0) (b.k.getD 12 0) (b.k.getD 13 0) (b.k.getD 14 0) (b.k.getD 15 0) (b.k.getD 16 0) (b.k.getD 17 0) (b.k.getD 18 0) (b.k.getD 19 0) (b.k.getD 20 0) (b.k.getD 21 0) (b.k.getD 22 0) (b.k.getD 23 0) (b.k.getD 24 0) (b.k.getD 25 0) (b.k.getD 26 0) (b.k.getD 27 0) (b.k.getD 28 0) (b.k.getD 29 0) (b.k.getD 30 0) (b.k.getD 31 0) (b.k.getD 32 0) (b.k.getD 33 0) (b.k.getD 34 0) (b.k.getD 35 0)=
   J (.inl ((n,(),(),(),((i+1:Nat):Int),()),((s.at n r i).tup,r.tup,b.tup,()))):=by
 unfold Ic;have u:decide ((i:Int)<36)=B:=by simp;omega
 have P:inB i 36=B:=Ac ω ω;have tn:aG i=i:=ω;have w:R.wrap (i+1)=((i+1:Nat):Int):=by rw[Z ω ω];omega
 have z:=h.lo i hi;have q:=h.hi i hi;have N:R.wrap _=s.k.getD i 0+1:=Z ω ω;have hl:i<s.k.length:=by rw[h.len];exact hi
 have o:∀v:Int,i<(s.k.set i v).length:=λv=>by simp;exact hl
 have j:∀v:Int,(s.k.set i v).getD i 0=v:=λv=>by simp[hl]
 rw[u,SR r y _,SR s.c h.c _];simp only[d_,P,tn,Xc hl,w,TE h.len,N];unfold Deb.at;by_cases hq:r.get i=s.c.get i
 .simp only[hq,q_,if_true];rfl
 .simp only[Ao hq,hq];have p:∀v:Int,(s.k.set i v).length=36:=λv=>by simp[h.len]
  try simp only[TE<|p _,j,Xc<|o _,g8_]
  by_cases a:s.k.getD i 0+1=n
  .have:(s.k.getD i 0+1==n)=B:=by simpa using a
   simp only[this,a,q_];rw[Abw s.c _ _];rfl
  .simp only[Ao a,a];rfl
noncomputable instance isDeb_ti(n:Int)(s:Deb):Decidable (s.is n):=Classical.propDecidable _
def Deb.rng(n:Int)(s:Deb):Prop:=∀j,j<36->0<=s.k.getD j 0/\s.k.getD j 0<n
noncomputable instance rngDeb_ti(n:Int)(s:Deb):Decidable (s.rng n):=Classical.propDecidable _
def Axp{s:Deb}:s.is n↔1<=n/\n<=16/\s.rng n:=Iff.rfl
def Akc{s:Deb}(h:s.wf)(a:s.is n){r:Contacts}(j:r.wf):
  KE ((n,(),(),(),(0:Int),()),(s.tup,r.tup,Deb.no.tup,()))=J (((),(),()),((s.step n r).tup,Deb.no.tup,())):=by
 refine AA (BN 36 (λi (s:Deb)=>((n,(),(),(),(i:Int),()),(s.tup,r.tup,Deb.no.tup,()))) _ (λ_ s=>s.wf/\s.is n) (λs=>(((),(),()),(s.tup,Deb.no.tup,()))) (λi s hi hin=>⟨Akb hin.1 hin.2 j Deb.no hi,Ak0 hin.1 hin.2 hi⟩) (λs hin=>?_) 36 0 s rfl ⟨h,a⟩).1 ω;show Ic n ((36:Nat):Int) s.c.C0 s.c.Up s.c.C4 s.c.M4 s.c.E4 (s.k.getD 0 0) (s.k.getD 1 0) (s.k.getD 2 0) (s.k.getD 3 0) (s.k.getD 4 0) (s.k.getD 5 0) (s.k.getD 6 0) (s.k.getD 7 0) (s.k.getD 8 0) (s.k.getD 9 0) (s.k.getD 10 0) (s.k.getD 11 0) (s.k.getD 12 0) (s.k.getD 13 0) (s.k.getD 14 0) (s.k.getD 15 0) (s.k.getD 16 0) (s.k.getD 17 0) (s.k.getD 18 0) (s.k.getD 19 0) (s.k.getD 20 0) (s.k.getD 21 0) (s.k.getD 22 0) (s.k.getD 23 0) (s.k.getD 24 0) (s.k.getD 25 0) (s.k.getD 26 0) (s.k.getD 27 0) (s.k.getD 28 0) (s.k.getD 29 0) (s.k.getD 30 0) (s.k.getD 31 0) (s.k.getD 32 0) (s.k.getD 33 0) (s.k.getD 34 0) (s.k.getD 35 0) r.C0 r.Up r.C4 r.M4 r.E4 Deb.no.c.C0 Deb.no.c.Up Deb.no.c.C4 Deb.no.c.M4 Deb.no.c.E4 (Deb.no.k.getD 0 0) (Deb.no.k.getD 1 0) (Deb.no.k.getD 2 0) (Deb.no.k.getD 3 0) (Deb.no.k.getD 4 0) (Deb.no.k.getD 5 0) (Deb.no.k.getD 6 0) (Deb.no.k.getD 7 0) (Deb.no.k.getD 8 0) (Deb.no.k.getD 9 0) (Deb.no.k.getD 10 0) (Deb.no.k.getD 11 0) (Deb.no.k.getD 12 0) (Deb.no.k.getD 13 0) (Deb.no.k.getD 14 0) (Deb.no.k.getD 15 0) (Deb.no.k.getD 16 0) (Deb.no.k.getD 17 0) (Deb.no.k.getD 18 0) (Deb.no.k.getD 19 0) (Deb.no.k.getD 20 0) (Deb.no.k.getD 21 0) (Deb.no.k.getD 22 0) (Deb.no.k.getD 23 0) (Deb.no.k.getD 24 0) (Deb.no.k.getD 25 0) (Deb.no.k.getD 26 0) (Deb.no.k.getD 27 0) (Deb.no.k.getD 28 0) (Deb.no.k.getD 29 0) (Deb.no.k.getD 30 0) (Deb.no.k.getD 31 0) (Deb.no.k.getD 32 0) (Deb.no.k.getD 33 0) (Deb.no.k.getD 34 0) (Deb.no.k.getD 35 0)=_;unfold Ic;have e:decide ((36:Int)<36)=H:=rfl;rfl
def Aka{s:Deb}(hl:s.k.length=36):Iw ((n,s.cnt,(0:Int),()),())=J (if s.rng n then .inl ((),())else .inr ((H,()),())):=by
 have u:∀(step:_->_),(∀i:Nat,step ((n,s.cnt,(i:Int),()),())=Dp n (s.k.getD 0 0) (s.k.getD 1 0) (s.k.getD 2 0) (s.k.getD 3 0) (s.k.getD 4 0) (s.k.getD 5 0) (s.k.getD 6 0) (s.k.getD 7 0) (s.k.getD 8 0) (s.k.getD 9 0) (s.k.getD 10 0) (s.k.getD 11 0) (s.k.getD 12 0) (s.k.getD 13 0) (s.k.getD 14 0) (s.k.getD 15 0) (s.k.getD 16 0) (s.k.getD 17 0) (s.k.getD 18 0) (s.k.getD 19 0) (s.k.getD 20 0) (s.k.getD 21 0) (s.k.getD 22 0) (s.k.getD 23 0) (s.k.getD 24 0) (s.k.getD 25 0) (s.k.getD 26 0) (s.k.getD 27 0) (s.k.getD 28 0) (s.k.getD 29 0) (s.k.getD 30 0) (s.k.getD 31 0) (s.k.getD 32 0) (s.k.getD 33 0) (s.k.getD 34 0) (s.k.getD 35 0) i)->∀(m i:Nat),i+m=36->(∀j,j<i->0<=s.k.getD j 0/\s.k.getD j 0<n)->BM step (m+1) ((n,s.cnt,i,()),())=J (if s.rng n then Sum.inl ((),())else Sum.inr ((H,()),())):=by
  intro step a m;induction m with
  |zero=>
   intro i hi p
   have:i=36:=ω
   subst this;rw[if_pos (show s.rng n from p)];refine AU ?_;rw[a];unfold Dp;have e:decide ((36:Int)<36)=H:=rfl;rfl
  |succ m Q=>
   intro i hi p;have v:decide ((i:Int)<36)=B:=by simp;omega
   have z:inB i 36=B:=Ac ω ω;have tn:aG i=i:=ω;have w:R.wrap (i+1)=((i+1:Nat):Int):=by rw[Z ω ω];omega
   by_cases h1:s.k.getD i 0<0
   .rw[if_neg (λo=>by have:=(o i ω).1;omega)];refine AU ?_;rw[a];unfold Dp;have q:decide (s.k.getD i 0<0)=B:=by simpa using h1
    simp only[v,z,tn,TE hl,q,i_]
   .have q:decide (s.k.getD i 0<0)=H:=by simpa using h1
    by_cases N:n<=s.k.getD i 0
    .rw[if_neg (λo=>by have:=(o i ω).2;omega)];refine AU ?_;rw[a];unfold Dp;have y:decide (n<=s.k.getD i 0)=B:=by simpa using N
     simp only[v,z,tn,TE hl,q,y,i_,j_]
    .have y:decide (n<=s.k.getD i 0)=H:=by simpa using N
     have st:step ((n,s.cnt,i,()),())=J (.inl ((n,s.cnt,((i+1:Nat):Int),()),())):=by rw[a];unfold Dp;simp only[v,z,tn,TE hl,q,y,w];rfl
     rw[BH st];exact Q (i+1) ω λj P=>if e:j=i then by subst e;omega else p j ω
 exact AA (u _ (λ_=>rfl) 36 0 rfl (λj p=>by omega)) ω
def Wm{s:Deb}(hl:s.k.length=36):EN n s.c.C0 s.c.Up s.c.C4 s.c.M4 s.c.E4 (s.k.getD 0 0) (s.k.getD 1 0) (s.k.getD 2 0) (s.k.getD 3 0) (s.k.getD 4 0) (s.k.getD 5 0) (s.k.getD 6 0) (s.k.getD 7 0) (s.k.getD 8 0) (s.k.getD 9 0) (s.k.getD 10 0) (s.k.getD 11 0) (s.k.getD 12 0) (s.k.getD 13 0) (s.k.getD 14 0) (s.k.getD 15 0) (s.k.getD 16 0) (s.k.getD 17 0) (s.k.getD 18 0) (s.k.getD 19 0) (s.k.getD 20 0) (s.k.getD 21 0) (s.k.getD 22 0) (s.k.getD 23 0) (s.k.getD 24 0) (s.k.getD 25 0) (s.k.getD 26 0) (s.k.getD 27 0) (s.k.getD 28 0) (s.k.getD 29 0) (s.k.getD 30 0) (s.k.getD 31 0) (s.k.getD 32 0) (s.k.getD 33 0) (s.k.getD 34 0) (s.k.getD 35 0)=J ((decide<|s.is n,()),()):=by
 unfold EN;by_cases h1:n<1
 .have:¬s.is n:=λh=>by have:=h.1;omega
  simp[h1,this]
 .have o:1<=n:=ω;by_cases q:16<n
  .have:¬s.is n:=λh=>by have:=h.2.1;omega
   simp[h1,q,this]
  .have p:n<=16:=ω;have a:=Aka (n:=n) hl;simp only[Deb.cnt]at a;have v:decide (n<1)=H:=by simpa using h1
   have u:decide (16<n)=H:=by simpa using q
   simp only[v,u,j_,a,d_];by_cases j:s.rng n
   .rw[if_pos j,V<|Axp.2 ⟨o,p,j⟩]
   .rw[if_neg j,c_ λh=>j (Axp.1 h).2.2]
def Aax{s:Deb}(h:s.wf)(a:s.is n){r:Contacts}(j:r.wf):PF n s.c.C0 s.c.Up s.c.C4 s.c.M4 s.c.E4 (s.k.getD 0 0) (s.k.getD 1 0) (s.k.getD 2 0) (s.k.getD 3 0) (s.k.getD 4 0) (s.k.getD 5 0) (s.k.getD 6 0) (s.k.getD 7 0) (s.k.getD 8 0) (s.k.getD 9 0) (s.k.getD 10 0) (s.k.getD 11 0) (s.k.getD 12 0) (s.k.getD 13 0) (s.k.getD 14 0) (s.k.getD 15 0) (s.k.getD 16 0) (s.k.getD 17 0) (s.k.getD 18 0) (s.k.getD 19 0) (s.k.getD 20 0) (s.k.getD 21 0) (s.k.getD 22 0) (s.k.getD 23 0) (s.k.getD 24 0) (s.k.getD 25 0) (s.k.getD 26 0) (s.k.getD 27 0) (s.k.getD 28 0) (s.k.getD 29 0) (s.k.getD 30 0) (s.k.getD 31 0) (s.k.getD 32 0) (s.k.getD 33 0) (s.k.getD 34 0) (s.k.getD 35 0) r.C0 r.Up r.C4 r.M4 r.E4=J (((),()),((s.step n r).tup,())):=by have hl:=Akc h a j;show(KE ((n,(),(),(),0,()),(s.tup,r.tup,Deb.no.tup,()))).bind _=_;rw[hl];rfl
def Aaw{s:Deb}(h:s.k.length=36)(p:s.c.wf){r:Contacts}(q:r.wf):
  JL n s.c.C0 s.c.Up s.c.C4 s.c.M4 s.c.E4 (s.k.getD 0 0) (s.k.getD 1 0) (s.k.getD 2 0) (s.k.getD 3 0) (s.k.getD 4 0) (s.k.getD 5 0) (s.k.getD 6 0) (s.k.getD 7 0) (s.k.getD 8 0) (s.k.getD 9 0) (s.k.getD 10 0) (s.k.getD 11 0) (s.k.getD 12 0) (s.k.getD 13 0) (s.k.getD 14 0) (s.k.getD 15 0) (s.k.getD 16 0) (s.k.getD 17 0) (s.k.getD 18 0) (s.k.getD 19 0) (s.k.getD 20 0) (s.k.getD 21 0) (s.k.getD 22 0) (s.k.getD 23 0) (s.k.getD 24 0) (s.k.getD 25 0) (s.k.getD 26 0) (s.k.getD 27 0) (s.k.getD 28 0) (s.k.getD 29 0) (s.k.getD 30 0) (s.k.getD 31 0) (s.k.getD 32 0) (s.k.getD 33 0) (s.k.getD 34 0) (s.k.getD 35 0) r.C0 r.Up r.C4 r.M4 r.E4=if s.is n then J (((),(0:Int),()),((s.step n r).tup,()))else J (((),(1:Int),()),(Deb.no.tup,())):=by
 unfold JL;rw[Wm h];by_cases a:s.is n
 .have u:s.wf:=⟨p,h,λj o=>(a.2.2 j o).1,λj o=>by have:=(a.2.2 j o).2;have:=a.2.1;omega⟩
  simp only[a,if_true];rw[Aax u a q];rfl
 .simp only[a,g3_];rfl
end Go.Ovl
