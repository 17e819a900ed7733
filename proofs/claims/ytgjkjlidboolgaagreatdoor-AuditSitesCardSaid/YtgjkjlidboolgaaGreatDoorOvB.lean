import Derived.Test.YtgjkjlidboolgaaGreatDoorOvA
set_option linter.all false
set_option maxRecDepth 100000
open Go.Ovl.Sat renaming ret->B,bic->C,bindS->J,bifT->aC,bindE->aG,bindR->aU,loop->aX,bifF->aZ
open Bool renaming true->H,false->L,false_or->bD
open Go.IntKind renaming wrap->I,i64->O,u64->V,u32->aB,u16->aH,u8->aK
open Option renaming some->P,bind->bB
open Go.Ovl renaming Bldg->R,Sat->U,noE->W,View->aD,Entry->aF,Record->aI,CarInput->aN,NewCar->aQ
open Go renaming d_->Z
open Int renaming toNat->aA,tmod->aL,fdiv->aM,tdiv->aP,le_of_lt->bE,lt_of_lt_of_le->bG
open Min renaming min->aE
open BitVec renaming ofInt->aJ,toNat->aO,toNat_and->bC,toNat_or->bI
open List renaming replicate->aR,range->aT,getD->bA
open Go.Ovl.Record renaming mk->aS
open Go.Ovl.Entry renaming mk->aV
open Go.Ovl.View renaming mk->aW
open Go.Ovl.Duty renaming mk->aY
open Nat renaming and_le_right->bH
namespace Go.Ovl
open Go Go.Ab
noncomputable section
variable{b:R}{s:ByteArray}{i k car t r:Nat}{fl n D f:Int}{xs:List Int}{α:Type}{vs:List aD}{E:List aF}{l:List Duty}{e:aF}{calm:List Bool}{x:aQ}{m:Img}{d fr:Bool}{c:Int×Int}
def D5(a b c:Int)(d:Bool)(e:Int):Prop:=(a=0/\b=0/\c=0/\d=L/\e=0)\/(0<a/\a<=3/\0<=b/\b<=1000000/\0<=c/\c<=1000000/\0<=e/\e<=1000000)
def D5.zero:D5 0 0 0 L 0:=.inl ⟨rfl,rfl,rfl,rfl,rfl⟩
def D5.at{a c:Int}{e:Int}(h:0<a/\a<=3)(hc:0<=c)(hc':c<=1000000)(he:0<=e)(he':e<=1000000):D5 a 0 c d e:=.inr ⟨h.1,h.2,d9_ 0,show(0:Int)<=1000000 from by decide,hc,hc',he,he'⟩
def CmdR(c:Int):Prop:=(decide (0<=c)&&decide (c<=5))=H
def CmdR.iff{c:Int}:CmdR c↔0<=c/\c<=5:=by unfold CmdR;simp
def dN(a b c:Int)(d:Bool)(e:Int):aQ:={ Bs with X0:=a,M1:=b,I1:=c,L1:=d,E1:=e }
def Ae0(x:aQ):Sj x=H↔D5 x.X0 x.M1 x.I1 x.L1 x.E1:=by
 unfold Sj D5 Ti inR;by_cases g:x.X0=0
 .rw[g];simp
 .rw[Ao g];simp;omega
def WF(a b c:Int)(d:Bool)(e:Int):∃r,GU a b c d e=P ((r,()),())/\(r=H↔D5 a b c d e):=⟨_,QA (dN a b c d e),Ae0 (dN a b c d e)⟩
def up1(n:Int):Int:=bif decide (1000000<O.wrap (n+1))then 1000000 else O.wrap (n+1)
def Lv(h:0<=n/\n<=1000000):0<=up1 n/\up1 n<=1000000:=by
 unfold up1;rw[Aa ω ω];by_cases g:1000000<n+1
 .rw[b_ g,Z];decide
 .rw[f_ g,c_];omega
def Us(n:Int):MA n=P ((up1 n,()),()):=rfl
def Vu(a b c:Int)(d:Bool)(e:Int):KL a b c d e=P (((),()),((a,b,bif c !=0 then up1 c else c,d,e,()),())):=by unfold KL;cases c !=0<;>rfl
def Aq2{a b c:Int}{e:Int}(h:D5 a b c d e):U (OC a b c d e) λy=>letI f:=y.2.1.2;D5 y.2.1.1 f.1 f.2.1 f.2.2.1 f.2.2.2.1:=by
 obtain⟨r,h1,h2⟩:=WF a b c d e;have hr:r=H:=h2.2 h;subst hr;unfold OC;refine aG h1 (C (λ_=>B h) λ_=>C (λ_=>B h) λg=>?_);have g:¬a=0:=by simpa using g
 rcases h with h|⟨p1,p2,p3,p4,p5,p6,p7,p8⟩
 .exact absurd h.1 g
 refine aG (Vu ..) (aG (Us _) (B (.inr ⟨p1,p2,(Lv ⟨p3,p4⟩).1,(Lv ⟨p3,p4⟩).2,?_,?_,p7,p8⟩)))
 .show 0<=(bif c !=0 then up1 c else c)
  cases c !=0 with
  |true=>exact(Lv ⟨p5,p6⟩).1
  |false=>exact p5
 .show(bif c !=0 then up1 c else c)<=1000000;cases c !=0 with
  |true=>exact(Lv ⟨p5,p6⟩).2
  |false=>exact p6
def Ab7(c0 c1 c2 c3 c4 c5 c6 c7 c8 a b c:Int)(d:Bool)(e f:Int)(g h:Bool):U (OD c0 c1 c2 c3 c4 c5 c6 c7 c8 a b c d e f g h) λy=>letI f:=y.2.1.2;D5 y.2.1.1 f.1 f.2.1 f.2.2.1 f.2.2.2.1/\CmdR y.1.2.1:=by
 unfold OD;refine J (Q:=λy=>letI f:=y.2.2.1;D5 f.1 f.2.1 f.2.2.1 f.2.2.2.1 f.2.2.2.2.1) ?_ λy hy=>?_
 .obtain⟨r,h1,h2⟩:=WF a b c d e;refine aG h1 (C (λ_=>B D5.zero) λk=>B (h2.1 (by simpa using k)))
 refine C (λ_=>C (λ_=>B ⟨D5.at (a:=1) τ τ τ τ τ,rfl⟩) λ_=>B ⟨hy,rfl⟩) λk=>?_;have k:¬y.2.2.1.1=0:=by simpa using k
 obtain⟨p1,p2,p3,p4,p5,p6,p7,p8⟩:=hy.resolve_left λq=>k q.1;have hc:0<=(bif y.2.2.1.2.2.1 !=0 then up1 y.2.2.1.2.2.1 else y.2.2.1.2.2.1)/\(bif y.2.2.1.2.2.1 !=0 then up1 y.2.2.1.2.2.1 else y.2.2.1.2.2.1)<=1000000:=by
  cases y.2.2.1.2.2.1 !=0 with
  |true=>exact Lv ⟨p5,p6⟩
  |false=>exact⟨p5,p6⟩
 refine aG (Vu ..) ?_;refine J (Q:=λz=>0<z.2.2.1.1/\z.2.2.1.1<=3/\0<=z.2.2.1.2.1/\z.2.2.1.2.1<=1000000/\0<=z.2.2.1.2.2.1/\z.2.2.1.2.2.1<=1000000/\0<=z.2.2.1.2.2.2.2.1/\z.2.2.1.2.2.2.2.1<=1000000) (C (λ_=>B ⟨p1,p2,p3,p4,hc.1,hc.2,p7,p8⟩) λ_=>B ⟨p1,p2,p3,p4,hc.1,hc.2,p7,p8⟩) λz hz=>?_;refine C (λ_=>aG rfl (B ⟨D5.at (a:=2) τ ?_ ?_ hz.2.2.2.2.2.2.1 hz.2.2.2.2.2.2.2,rfl⟩)) λ_=>?_
 .show 0<=(bif decide (z.2.2.1.2.2.1<1)then 1 else z.2.2.1.2.2.1)
  cases decide (z.2.2.1.2.2.1<1)with
  |true=>exact show(0:Int)<=1 from by decide
  |false=>exact hz.2.2.2.2.1
 .show(bif decide (z.2.2.1.2.2.1<1)then 1 else z.2.2.1.2.2.1)<=1000000;cases decide (z.2.2.1.2.2.1<1)with
  |true=>exact show(1:Int)<=1000000 from by decide
  |false=>exact hz.2.2.2.2.2.1
 refine J (Q:=λw=>w.2.2.1=z.2.2.1) (C (λ_=>B rfl) λ_=>B rfl) λw hw=>?_;refine C (λ_=>B ⟨D5.zero,rfl⟩) λ_=>?_;refine J (Q:=λv=>v.2.2.1=z.2.2.1) (C (λ_=>C (λ_=>B hw) λ_=>B hw) λ_=>B hw) λv hv=>?_;have stay:∀n:Int,CmdR n->U (RA v.2.2.1.1 v.2.2.1.2.1 v.2.2.1.2.2.1 v.2.2.1.2.2.2.1 v.2.2.1.2.2.2.2.1 n) λy=>letI b:=y.2.1.2;D5 y.2.1.1 b.1 b.2.1 b.2.2.1 b.2.2.2.1/\CmdR y.1.2.1:=λn hn=>by rw[hv];exact aG (Us _) (B ⟨.inr ⟨hz.1,hz.2.1,(Lv ⟨hz.2.2.1,hz.2.2.2.1⟩).1,(Lv ⟨hz.2.2.1,hz.2.2.2.1⟩).2,hz.2.2.2.2.1,hz.2.2.2.2.2.1,hz.2.2.2.2.2.2.1,hz.2.2.2.2.2.2.2⟩,hn⟩)
 refine C (λ_=>J (stay 5 rfl) λ_ h=>B h) λ_=>?_;refine C (λ_=>?_) λ_=>?_
 .rw[hv];exact aG rfl (B ⟨D5.at (a:=3) τ hz.2.2.2.2.1 hz.2.2.2.2.2.1 hz.2.2.2.2.2.2.1 hz.2.2.2.2.2.2.2,rfl⟩)
 refine C (λ_=>J (stay 3 rfl) λ_ h=>B h) λ_=>?_;refine C (λ_=>?_) λ_=>?_
 .refine J (Q:=λu=>u.2.1=v.2.2.1) (C (λ_=>B rfl) λ_=>B rfl) λu hu=>?_;rw[hu];refine C (λ_=>?_) λ_=>J (stay 0 rfl) λ_ h=>B h;rw[hv];exact aG rfl (B ⟨D5.at (a:=3) τ hz.2.2.2.2.1 hz.2.2.2.2.2.1 hz.2.2.2.2.2.2.1 hz.2.2.2.2.2.2.2,rfl⟩)
 refine C (λ_=>?_) λ_=>J (stay 4 rfl) λ_ h=>B h;rw[hv];exact aG (Us _) (aG rfl (B ⟨D5.at (a:=1) τ hz.2.2.2.2.1 hz.2.2.2.2.2.1 (Lv ⟨hz.2.2.2.2.2.2.1,hz.2.2.2.2.2.2.2⟩).1 (Lv ⟨hz.2.2.2.2.2.2.1,hz.2.2.2.2.2.2.2⟩).2,rfl⟩))
def Aq1(c0 c1 c2 c3 c4 c5 c6 c7 c8 a b c:Int)(d:Bool)(e:Int):U (Rz c0 c1 c2 c3 c4 c5 c6 c7 c8 a b c d e) λ_=>True:=by unfold Rz;exact Sat.go
def M3(fl c t f:Int):Prop:=0<=t/\t<=1000000/\((c=0/\f=0)\/(c=1/\0<=f/\f+1<fl)\/(c=2/\0<f/\f<fl))
def M3.zero:M3 fl 0 0 0:=⟨τ,τ,.inl ⟨rfl,rfl⟩⟩
def Aj1(hf:2<=fl)(x:aQ):VJ fl x=H↔M3 fl x.T0 x.W0 x.S0:=by
 unfold VJ M3 inR;by_cases g:x.T0=0
 .rw[g];simp;omega
 by_cases g1:x.T0=1
 .rw[g1];simp;omega
 by_cases g2:x.T0=2
 .rw[g2];simp;omega
 .rw[Ao g,Ao g1,Ao g2];simp;omega
def mN(c t f:Int):aQ:={ Bs with T0:=c,W0:=t,S0:=f }
def Adk(h:2<=fl/\fl<=8)(c t f:Int):∃r,GV fl c t f=P ((r,()),())/\(r=H↔M3 fl c t f):=⟨_,OB h (mN c t f),Aj1 h.1 (mN c t f)⟩
def VK{c:Int}(hf:0<=f/\f<fl)(h:fl<=8):U (Gi fl f c) λy=>y.1.2.1=H->(c=1/\0<=f/\f+1<fl)\/(c=2/\0<f/\f<fl):=by
 unfold Gi;by_cases c1:c=1
 .subst c1;refine aU (aZ rfl (aC rfl (Sat.bindC (λ_=>aU (B λg=>.inl ⟨rfl,hf.1,?_⟩)) λ_=>aU (B λg=>by cases g))));have g:=l_ g;have e:O.wrap (f+bA [(0:Int),1,-1] (aA 1) 0)=f+1:=Aa (ω:(-9223372036854775808:Int)<=f+1) (ω:f+1<9223372036854775808);exact e▸g
 .rw[LZ c1];by_cases c2:c=2
  .subst c2;have e:O.wrap (f+bA [(0:Int),1,-1] (aA 2) 0)=f+ -1:=Aa (ω:(-9223372036854775808:Int)<=f+ -1) (ω:f+ -1<9223372036854775808);refine aU (aZ rfl (aC rfl (Sat.bindC (λg0=>aU (B λg=>.inr ⟨rfl,?_,hf.2⟩)) λ_=>aU (B λg=>by cases g))));have g0:0<=f+ -1:=e▸l_ g0;omega
  .rw[LZ c2];exact aU (aC rfl (B λg=>by cases g))
def Ak8{c t:Int}(h:M3 fl c t f):U (Mn c t f) λy=>M3 fl y.2.1.1 y.2.1.2.1 y.2.1.2.2.1:=by
 unfold Mn;refine J (Q:=λy=>y.2.1=(c,t,f,())/\(y.1.2.2.1=H->t<1000000)) ?_ λy hy=>?_
 .refine C (λ_=>C (λ_=>B ⟨rfl,λg=>l_ g⟩) λ_=>B ⟨rfl,λg=>by cases g⟩) λ_=>?_;exact C (λ_=>C (λ_=>B ⟨rfl,λg=>l_ g⟩) λ_=>B ⟨rfl,λg=>by cases g⟩) λ_=>B ⟨rfl,λg=>by cases g⟩
 refine C (λg=>B ?_) λ_=>B ?_
 .rw[hy.1];have ht:=hy.2 g
  have:=h.1
  show M3 fl c (I O (t+1)) f;rw[Aa ω ω];exact⟨ω,ω,h.2.2⟩
 .rw[hy.1];exact h
def MZ(y:Int×Int×Int×Unit):Prop:=y=(0,0,0,())
def Ala(h:2<=fl/\fl<=8)(c t f g:Int)(l:Bool)(d:Int)(k:Bool)(w:Int):U (OY fl c t f g l d k w) λy=>M3 fl y.2.1.1 y.2.1.2.1 y.2.1.2.2.1/\(y.1.2.2.1=H->MZ y.2.1)/\(c=0->w=0->l=H->MZ y.2.1)/\CmdR y.1.2.1:=by
 unfold OY;obtain⟨r,h1,h2⟩:=Adk h c t f;have hz:M3 fl 0 0 0:=M3.zero;refine aG h1 (C (λ_=>B ⟨hz,λ_=>rfl,λ_ _ _=>rfl,rfl⟩) λhr=>C (λ_=>B ⟨hz,λ_=>rfl,λ_ _ _=>rfl,rfl⟩) λa1=>C (λ_=>B ⟨hz,λ_=>rfl,λ_ _ _=>rfl,rfl⟩) λa2=>?_);have hm:M3 fl c t f:=h2.1 (by simpa using hr);have hg:0<=g/\g<fl:=⟨by have:=C_ a1;omega,by have:=C_ a2;omega⟩
 have hf:0<=f/\f<fl:=by rcases hm.2.2 with q|q|q<;>omega
 refine J (VK hf h.2) λy2 b2=>?_;have nb:c=0->y2.1.2.1=L:=λc0=>by
  cases q:y2.1.2.1 with
  |false=>rfl
  |true=>rcases b2 q with e|e<;>omega
 refine J (Q:=λy=>(y.1.1=fl/\y.1.2.1=w/\y.2.1=(c,t,f,())/\y.2.2.1.1=g)/\y.1.2.2.2.2.2.1=y2.1.2.1/\y.2.2.1.2.1=l) ?_ λy3 h3=>?_
 .exact C (λ_=>C (λ_=>B ⟨⟨rfl,rfl,rfl,rfl⟩,rfl,rfl⟩) λ_=>B ⟨⟨rfl,rfl,rfl,rfl⟩,rfl,rfl⟩) λ_=>B ⟨⟨rfl,rfl,rfl,rfl⟩,rfl,rfl⟩
 refine C (λ_=>B ⟨hz,λ_=>rfl,λ_ _ _=>rfl,rfl⟩) λ_=>?_;refine J (Q:=λy=>(y.1.1=fl/\y.1.2.1=w/\y.2.1=(c,t,f,())/\y.2.2.1.1=g)/\(c=0->l=H->y.1.2.2.2.2.2.1=L)) ?_ λy4 h4=>?_
 .refine C (λq=>B ⟨h3.1,λc0 _=>?_⟩) λ_=>B ⟨h3.1,λ_ l1=>?_⟩
  .rw[h3.2.1,nb c0]at q;cases q
  .show(!y3.2.2.1.2.1)=L;rw[h3.2.2,l1];rfl
 obtain⟨⟨e1,e2,e3,e4⟩,e5⟩:=h4;refine C (λq=>B ⟨?_,λg=>(by cases g),λc0 _ l1=>?_,?_⟩) λ_=>?_
 .rw[e3];exact⟨(Lv ⟨hm.1,hm.2.1⟩).1,(Lv ⟨hm.1,hm.2.1⟩).2,hm.2.2⟩
 .rw[e5 c0 l1]at q;cases q
 .rw[e3];show CmdR c;exact CmdR.iff.2 (by rcases hm.2.2 with q|q|q<;>exact⟨ω,ω⟩)
 rw[e1,e2,e4];refine J (VK hg h.2) λy5 h5=>C (λq=>B ⟨?_,λg=>(by cases g),λ_ w0 _=>?_,?_⟩) λ_=>B ⟨hz,λ_=>rfl,λ_ _ _=>rfl,rfl⟩
 .exact⟨show(0:Int)<=0 from by decide,show(0:Int)<=1000000 from by decide,.inr (h5 q)⟩
 .rcases h5 q with e|e<;>omega
 .show CmdR w;exact CmdR.iff.2 (by rcases h5 q with e|e<;>exact⟨ω,ω⟩)
def Ak7(c0 c1 c2 c3 c4 c5 c6 c7 c8 a b c:Int):U (SC c0 c1 c2 c3 c4 c5 c6 c7 c8 a b c) λ_=>True:=B trivial
def Arc(hcode:b.code=0)(hv:Az b.C0 b.E0 b.I0 b.M0 b.J0 b.L0 b.N0 b.B0=P ((b.code,()),()))(car idle floor:Int):U (RC b.C0 b.E0 b.I0 b.M0 b.J0 b.L0 b.N0 b.B0 car idle floor) λy=>y.1.1=0\/y.1.1=1\/y.1.1=2:=by unfold RC;refine aG hv (C (λ_=>B (.inl rfl)) λ_=>C (λ_=>B (.inl rfl)) λh1=>C (λ_=>B (.inl rfl)) λh2=>?_);have h1:=C_ h1;have h2:=C_ h2;refine C (λ_=>B (.inl rfl)) λ_=>C (λ_=>B (.inl rfl)) λ_=>C (λ_=>B (.inl rfl)) λ_=>?_;refine aC (Ac ω ω) (C (λ_=>B (.inr (.inl rfl))) λ_=>C (λ_=>B (.inr (.inr rfl))) λ_=>B (.inl rfl))
def C2(fl n:Int):Prop:=0<=n/\n.toNat<2^fl.toNat
def C2.zero:C2 fl 0:=⟨d9_ 0,Nat.two_pow_pos _⟩
def C2.vb{v:BitVec 32}(h:v.toNat<2^fl.toNat):C2 fl (vb v):=⟨Int.natCast_nonneg _,h⟩
def C2.bv(h:C2 fl n):(bv n).toNat<2^fl.toNat:=by
 refine g1_ ?_ h.2
 have:=h.1
 show(aJ 32 n).toNat<=n.toNat;rw[a0_];show(n%4294967296).toNat<=n.toNat;omega
def C2.and{x y:Int}(h:C2 fl y):C2 fl (I aB (stk x y (aO (aJ (IntKind.bits .u32) x&&&aJ (IntKind.bits .u32) y)))):=by rw[Yq];refine C2.vb ?_;rw[bC];exact g1_ bH h.bv
def C2.andNot{x y:Int}(h:C2 fl x):C2 fl (I aB (stk x y (aO (aJ (IntKind.bits .u32) x&&& ~~~ aJ (IntKind.bits .u32) y)))):=by rw[Yr];refine C2.vb ?_;rw[bC];exact g1_ Nat.and_le_left h.bv
def C2.or{x y:Int}(h:C2 fl x)(h2:C2 fl y):C2 fl (I aB (stk x y (aO (aJ (IntKind.bits .u32) x|||BitVec.ofInt (IntKind.bits .u32) y)))):=by rw[Aw4];refine C2.vb ?_;rw[bI];exact Nat.or_lt_two_pow h.bv h2.bv
def C2.all(h:2<=fl/\fl<=8):C2 fl (I aB (I aB (1*2^min (aA fl) (IntKind.bits .u32))-1)):=by
 unfold C2
 have:fl=2\/fl=3\/fl=4\/fl=5\/fl=6\/fl=7\/fl=8:=ω
 rcases this with e|e|e|e|e|e|e<;>rw[e]<;>decide
def RV:(aM n ((2:Int)^aA fl)==0)=H↔C2 fl n:=by
 have hp:(0:Int)<2^aA fl:=Int.pow_pos τ;have hc:((2^aA fl:Nat):Int)=(2:Int)^aA fl:=by rw[Int.natCast_pow];rfl
 rw[P_ _ (bE hp),R_];unfold C2;constructor
 .intro h;have h1:=Int.mul_ediv_add_emod n (2^aA fl);rw[h,Int.mul_zero,Int.zero_add]at h1;have h2:=Int.emod_nonneg n (Int.ne_of_gt hp);have h3:=Int.emod_lt_of_pos n hp;rw[h1]at h2 h3;refine⟨h2,?_⟩;rw[<-hc]at h3;omega
 .intro h;refine Int.ediv_eq_zero_of_lt h.1 ?_;rw[<-hc]
  have:=h.1
  have:=h.2
  omega
structure Sx(fl:Int)(x:NewCar):Prop where
 sw:S2 x.T1 x.F1
 dr:D5 x.X0 x.M1 x.I1 x.L1 x.E1
 mt:M3 fl x.T0 x.W0 x.S0
 ca:C2 fl x.M2
 sh:dir2 x.J3
 idle:0<=x.Y3/\x.Y3<=1000000
 nf:x.Q3=false
def Mz(x:aQ):Prop:=x.T0=0/\x.W0=0/\x.S0=0
def Ao2(x:aQ):Ao1 x=H↔Mz x:=by unfold Ao1 Mz;simp
def Sy(fl:Int)(x:aQ):Prop:=Sx fl x/\(x.X0=0\/Mz x)
def Ai8(h:D5 x.X0 x.M1 x.I1 x.L1 x.E1):Ti x=H↔x.X0=0:=by
 unfold Ti;rcases h with⟨h1,h2,h3,h4,h5⟩|h
 .rw[h1,h2,h3,h4,h5];decide
 .have:¬x.X0=0:=ω
  simp[this]
def WO(hb:b.small)(hf:x.Q3=L):IB b x=H↔Sy b.C0 x:=by
 have lo:=hb.lo;unfold IB;rw[hf,c_];unfold WV Ru Af8 inR;simp only[e_,Q_,q_,Ae0,Aj1 (ω:2<=b.C0),RV,Ao2];constructor
 .rintro⟨h1,h2,h3,h4,h5,h6,h7⟩;rw[Ai8 h2]at h4;exact⟨⟨⟨h1.1,h1.2⟩,h2,h3,h5,h6,h7,hf⟩,h4⟩
 .rintro⟨h,h4⟩;exact⟨⟨h.sw.1,h.sw.2⟩,h.dr,h.mt,h4.imp_left (Ai8 h.dr).2,h.ca,h.sh,h.idle⟩
def D5.one:D5 1 0 0 L 0:=D5.at (a:=1) τ τ τ τ τ
abbrev Atk:=Int×Int×Int×Int×Int×Bool×Int×Int×Int×Int×Int×Int×Int×Bool×Unit
abbrev Ag1:=Int×Int×Int×Int×Nat×Nat×Nat×List Car×Int×Int×Int×Int×Int×Int×Bool×Int×Int×Int×Int×Int×Int×Int×Bool×Int×Bool×Int×Bool×Int×Unit
@[reducible] def Rk(b:R)(car:Int)(x:aQ)(f:Int)(l:Bool)(d:Int)(k:Bool)(c:Int):Ag1:=(b.C0,b.E0,b.I0,b.M0,b.J0,b.L0,b.N0,b.B0,car,x.T1,x.F1,x.X0,x.M1,x.I1,x.L1,x.E1,x.T0,x.W0,x.S0,x.M2,x.J3,x.Y3,x.Q3,f,l,d,k,c,())
section
variable{b:R}(hb:b.small){car f:Int}(hf:0<=f/\f<b.C0){x:aQ}(l:Bool)(d:Int)(k:Bool)(c:Int)
include hb
theorem Uq(hcar:0<=car/\car<b.B0.length):U (Cf (newcar_control.mk b.C0 b.E0 b.I0 b.M0 b.J0 b.L0 b.N0 b.B0 car x.T1 x.F1 x.X0 x.M1 x.I1 x.L1 x.E1 x.T0 x.W0 x.S0 x.M2 x.J3 x.Y3 x.Q3 f l d k c)) λ_=>True:=by unfold Cf;exact aC (Ac hcar.1 hcar.2) (B trivial)
include hf
theorem Aq0(p:Int)(h:Sx b.C0 x):U (EA p b.C0 b.E0 b.I0 b.M0 b.J0 b.L0 b.N0 b.B0 car x.T1 x.F1 x.X0 x.M1 x.I1 x.L1 x.E1 x.T0 x.W0 x.S0 x.M2 x.J3 x.Y3 x.Q3 f l d k c) λy=>∃n,y.2.1=Rk b car { x with M2:=n } f l d k c/\C2 b.C0 n:=by
 have lo:=hb.lo;have hi:=hb.hi;unfold EA;refine aC (b_ (ω:0<=b.C0)) ?_;refine J (Q:=λy=>y.2.1=Rk b car x f l d k c/\C2 b.C0 y.1.2.1) ?_ λy hy=>?_
 .exact C (λ_=>aC (b_ hf.1) (B ⟨rfl,(C2.all ⟨ω,hi⟩).and.andNot⟩)) λ_=>B ⟨rfl,(C2.all ⟨ω,hi⟩).and⟩
 .obtain⟨u,t,w⟩:=y;obtain⟨e,hn⟩:=hy;change t=_ at e;subst e;exact B ⟨_,rfl,h.ca.or hn⟩
omit hf
theorem Aey(w:Int):U (BV w b.C0 b.E0 b.I0 b.M0 b.J0 b.L0 b.N0 b.B0 car x.T1 x.F1 x.X0 x.M1 x.I1 x.L1 x.E1 x.T0 x.W0 x.S0 x.M2 x.J3 x.Y3 x.Q3 f l d k c) λy=>∃c' t' f' cm,y.2.1=Rk b car { x with T0:=c',W0:=t',S0:=f' } f l d k cm/\M3 b.C0 c' t' f'/\(y.1.1=H->MZ (c',t',f',()))/\(x.T0=0->w=0->l=H->MZ (c',t',f',()))/\CmdR cm:=by have lo:=hb.lo;have hi:=hb.hi;unfold BV;exact J (Ala ⟨ω,hi⟩ ..) λy hy=>B ⟨_,_,_,_,rfl,hy.1,hy.2.1,hy.2.2.1,hy.2.2.2⟩
omit hb in
theorem Bja{c' t' f':Int}(x:aQ)(h:MZ (c',t',f',())):Mz { x with T0:=c',W0:=t',S0:=f' }:=by unfold MZ at h;simp only[f2_]at h;exact⟨h.1,h.2.1,h.2.2.1⟩
theorem Ank(h:Sx b.C0 x)(hcm:CmdR c):U (Em b.C0 b.E0 b.I0 b.M0 b.J0 b.L0 b.N0 b.B0 car x.T1 x.F1 x.X0 x.M1 x.I1 x.L1 x.E1 x.T0 x.W0 x.S0 x.M2 x.J3 x.Y3 x.Q3 f l d k c) λy=>∃x' c',y.2.1=Rk b car x' f l d k c'/\Sx b.C0 x'/\x'.X0=x.X0/\(y.1.1=H->Mz x')/\CmdR c':=by
 unfold Em;refine J (Q:=λy=>y.2.1=Rk b car x f l d k c/\(y.1.2.1=H->Mz x)) (C (λq=>B ⟨rfl,λ_=>(Ao2 x).1 q⟩) λ_=>B ⟨rfl,λq=>(by cases q)⟩) ?_;rintro⟨u,t,w⟩ ⟨e,h1⟩;change t=_ at e;subst e;refine C (λq=>B ⟨x,c,rfl,h,rfl,λ_=>h1 q,hcm⟩) λ_=>?_;refine J (Q:=λy=>∃x' c',y.2.1=Rk b car x' f l d k c'/\Sx b.C0 x'/\x'.X0=x.X0/\(y.1.2.2.1=H->Mz x')/\CmdR c') ?_ ?_
 .refine J (Aey hb (x:=x) l d k c 0) ?_;rintro⟨u2,t2,w2⟩ ⟨c',t',f',cm,e,hm,hs,hz,hcm'⟩;change t2=_ at e;subst e;have hx':Sx b.C0 { x with T0:=c',W0:=t',S0:=f' }:=⟨h.sw,h.dr,hm,h.ca,h.sh,h.idle,h.nf⟩
  refine C (λq=>B ⟨_,cm,rfl,hx',rfl,λ_=>Bja x (hs q),hcm'⟩) λ_=>C (λq=>B ⟨_,cm,rfl,hx',rfl,λq2=>Bja x (hz ?_ rfl q2),hcm'⟩) λ_=>B ⟨_,cm,rfl,hx',rfl,λq=>(by cases q),hcm'⟩;simpa using q
 rintro⟨u3,t3,w3⟩ ⟨x',c',e,h',hd,hz,hcm'⟩;change t3=_ at e;subst e;refine C (λq=>B ⟨x',c',rfl,h',hd,λ_=>hz q,hcm'⟩) λ_=>?_;refine J (Q:=λy=>y.2.1=Rk b car x' f l d k c') (C (λ_=>B rfl) λ_=>B rfl) ?_;rintro⟨u4,t4,w4⟩ e;change t4=_ at e;subst e;exact C (λ_=>B ⟨{ x' with Y3:=0 },c',rfl,⟨h'.sw,h'.dr,h'.mt,h'.ca,h'.sh,⟨d9_ 0,show(0:Int)<=1000000 from by decide⟩,h'.nf⟩,hd,λq=>(by cases q),hcm'⟩) λ_=>B ⟨x',c',rfl,h',hd,λq=>(by cases q),hcm'⟩
omit hb in
theorem i00:(0:Int)<=0/\(0:Int)<=1000000:=by decide
include hf
theorem Aqz(hcar:0<=car/\car<b.B0.length)(h:Sx b.C0 x)(hm:Mz x):U (Ez b.C0 b.E0 b.I0 b.M0 b.J0 b.L0 b.N0 b.B0 car x.T1 x.F1 x.X0 x.M1 x.I1 x.L1 x.E1 x.T0 x.W0 x.S0 x.M2 x.J3 x.Y3 x.Q3 f l d k c) λy=>∃x' c',y.2.1=Rk b car x' f l d k c'/\Sx b.C0 x'/\Mz x'/\CmdR c':=by
 unfold Ez;refine J (Uq hb l d k c hcar) λy1 _=>J (Ab7 ..) λy2 hd=>?_;obtain⟨hd,hcm⟩:=hd;refine J (Q:=λy=>∃x' c',y.2.1=Rk b car x' f l d k c'/\Sx b.C0 x'/\Mz x'/\CmdR c') ?_ ?_
 .refine C (λ_=>aC (b_ hf.1) (B ⟨{ x with X0:=y2.2.1.1,M1:=y2.2.1.2.1,I1:=y2.2.1.2.2.1,L1:=y2.2.1.2.2.2.1,E1:=y2.2.1.2.2.2.2.1,M2:=_ },_,rfl,⟨h.sw,hd,h.mt,h.ca.andNot,h.sh,h.idle,h.nf⟩,hm,hcm⟩)) λ_=>?_;refine C (λ_=>B ⟨{ x with X0:=y2.2.1.1,M1:=y2.2.1.2.1,I1:=y2.2.1.2.2.1,L1:=y2.2.1.2.2.2.1,E1:=y2.2.1.2.2.2.2.1,J3:=0 },_,rfl,⟨h.sw,hd,h.mt,h.ca,dir2.zero,h.idle,h.nf⟩,hm,hcm⟩) λ_=>?_;exact B ⟨{ x with X0:=y2.2.1.1,M1:=y2.2.1.2.1,I1:=y2.2.1.2.2.1,L1:=y2.2.1.2.2.2.1,E1:=y2.2.1.2.2.2.2.1 },_,rfl,⟨h.sw,hd,h.mt,h.ca,h.sh,h.idle,h.nf⟩,hm,hcm⟩
 rintro⟨u,t,w⟩ ⟨x',c',e,h',hz⟩;change t=_ at e;subst e;exact B ⟨{ x' with Y3:=0 },c',rfl,⟨h'.sw,h'.dr,h'.mt,h'.ca,h'.sh,i00,h'.nf⟩,hz⟩
def CtP(b:R)(car f:Int)(l:Bool)(d:Int)(k:Bool)(t:Ag1):Prop:=∃x' c',t=Rk b car x' f l d k c'/\Sy b.C0 x'/\CmdR c'
def CtS(b:R)(car f:Int)(l:Bool)(d:Int)(k:Bool)(s:(Unit×(Ag1×Unit))⊕(Unit×(Ag1×Unit))):Prop:=match s with
 |.inl y=>CtP b car f l d k y.2.1
 |.inr y=>CtP b car f l d k y.2.1
omit hf
theorem Anj(hcode:b.code=0)(hcar:0<=car/\car<b.B0.length)(hu hd:Int)(h:Sx b.C0 x)(h0:x.X0=0)(hm:Mz x):U (El hu hd b.C0 b.E0 b.I0 b.M0 b.J0 b.L0 b.N0 b.B0 car x.T1 x.F1 x.X0 x.M1 x.I1 x.L1 x.E1 x.T0 x.W0 x.S0 x.M2 x.J3 x.Y3 x.Q3 f l d k c) (CtS b car f l d k):=by
 unfold El;refine J (Bdm ..) λy1 hc=>J (Aw8 ..) λy2 hn=>?_;refine C (λ_=>?_) λ_=>?_
 .refine J (Uq hb (x:={ x with T1:=y2.2.1.1,F1:=y2.2.1.2.1,J3:=y1.2.1.2.2.1,Y3:=0 }) l d k c hcar) λy3 _=>J (Ab7 ..) λy4 hd=>B ?_;obtain⟨hd,hcm⟩:=hd;exact⟨{ x with T1:=y2.2.1.1,F1:=y2.2.1.2.1,J3:=y1.2.1.2.2.1,Y3:=0,X0:=y4.2.1.1,M1:=y4.2.1.2.1,I1:=y4.2.1.2.2.1,L1:=y4.2.1.2.2.2.1,E1:=y4.2.1.2.2.2.2.1 },_,rfl,⟨⟨hn,hd,h.mt,h.ca,hc.2,i00,h.nf⟩,.inr hm⟩,hcm⟩
 have st:∀(w i:Int),(0<=i/\i<=1000000)->U (BV w b.C0 b.E0 b.I0 b.M0 b.J0 b.L0 b.N0 b.B0 car y2.2.1.1 y2.2.1.2.1 x.X0 x.M1 x.I1 x.L1 x.E1 x.T0 x.W0 x.S0 x.M2 x.J3 i x.Q3 f l d k c) λy=>CtP b car f l d k y.2.1:=λw i hi=>by refine(Aey hb (x:={ x with T1:=y2.2.1.1,F1:=y2.2.1.2.1,Y3:=i }) l d k c w).mono ?_;rintro⟨u,t,w⟩ ⟨c',t',f',cm,e,hm,_,_,hcm⟩;change t=_ at e;subst e;exact⟨_,cm,rfl,⟨⟨hn,h.dr,hm,h.ca,h.sh,hi,h.nf⟩,.inl h0⟩,hcm⟩
 refine C (λ_=>J (st _ _ i00) λ_ h=>B h) λ_=>C (λ_=>J (st _ _ i00) λ_ h=>B h) λ_=>?_;have hv:Az b.C0 b.E0 b.I0 b.M0 b.J0 b.L0 b.N0 b.B0=P ((b.code,()),()):=AC ..;refine J (Arc hcode hv ..) λy7 _=>C (λ_=>J (st _ _ h.idle) λ_ h=>B h) λ_=>B ?_;exact⟨{ x with T1:=y2.2.1.1,F1:=y2.2.1.2.1,Y3:=up1 x.Y3 },0,rfl,⟨⟨hn,h.dr,h.mt,h.ca,h.sh,Lv h.idle,h.nf⟩,.inl h0⟩,rfl⟩
omit hb in
theorem Buf:∀(o:Fin 8),0<=O.wrap (stk ((o.val:Nat):Int) 1 (aO ((aJ (IntKind.bits O) ((o.val:Nat):Int))|||(aJ (IntKind.bits O) 1))))/\O.wrap (stk ((o.val:Nat):Int) 1 (aO ((aJ (IntKind.bits O) ((o.val:Nat):Int))|||(aJ (IntKind.bits O) 1))))<=7:=by decide
include hf
theorem Bbc(hcode:b.code=0)(hcar:0<=car/\car<b.B0.length)(p hu hd:Int)(h:Sy b.C0 x)(hcm:CmdR c):U (Fu p hu hd b.C0 b.E0 b.I0 b.M0 b.J0 b.L0 b.N0 b.B0 car x.T1 x.F1 x.X0 x.M1 x.I1 x.L1 x.E1 x.T0 x.W0 x.S0 x.M2 x.J3 x.Y3 x.Q3 f l d k c) (CtS b car f l d k):=by
 unfold Fu;refine J (Aq0 hb hf l d k c p h.1) ?_;rintro⟨u,t,w⟩ ⟨n,e,hn⟩;change t=_ at e;subst e;have h1:Sx b.C0 { x with M2:=n }:=⟨h.1.sw,h.1.dr,h.1.mt,hn,h.1.sh,h.1.idle,h.1.nf⟩
 refine J (Q:=λy=>∃x' c',y.2.2.1=Rk b car x' f l d k c'/\Sy b.C0 x'/\(y.1.2.2.1=L->Mz x')/\CmdR c') ?_ ?_
 .refine C (λq=>?_) λq=>B ⟨_,c,rfl,⟨h1,h.2⟩,λ_=>h.2.resolve_left (by simpa using q),hcm⟩;refine J (Ank hb l d k c h1 hcm) ?_;rintro⟨u2,t2,w2⟩ ⟨x',c',e,h',hd,hz,hcm'⟩;change t2=_ at e;subst e;exact B ⟨x',c',rfl,⟨h',.inl (hd.trans (by simpa using q))⟩,λq=>hz (by simpa using q),hcm'⟩
 rintro⟨u3,u3b,t3,w3⟩ ⟨x',c',e,h',hz,hcm'⟩;change t3=_ at e;subst e;refine C (λ_=>B ⟨x',c',rfl,h',hcm'⟩) λq=>?_;have hz:=hz q;refine J (Q:=λy=>∃x' c',y.2.2.1=Rk b car x' f l d k c'/\Sx b.C0 x'/\Mz x'/\CmdR c') ?_ ?_
 .refine J (Q:=λy=>y.2.2.1=Rk b car x' f l d k c') (C (λ_=>B rfl) λ_=>B rfl) ?_;rintro⟨u4,u4b,t4,w4⟩ e;change t4=_ at e;subst e;refine C (λ_=>B ⟨{ x' with F1:=_,X0:=1,M1:=0,I1:=0,L1:=L,E1:=0,J3:=0 },c',rfl,⟨⟨h'.1.sw.1,?_⟩,D5.one,h'.1.mt,h'.1.ca,dir2.zero,h'.1.idle,h'.1.nf⟩,hz,hcm'⟩) λ_=>B ⟨x',c',rfl,h'.1,hz,hcm'⟩;have h5a:=h'.1.sw.2.1;have h5b:=h'.1.sw.2.2
  have:=Buf ⟨x'.F1.toNat,ω⟩
  simp only[f1_ h5a]at this;exact this
 rintro⟨u5,u5b,t5,w5⟩ ⟨x5,c5,e,h5,hz5,hcm5⟩;change t5=_ at e;subst e;refine C (λ_=>?_) λq=>?_
 .refine J (Aqz hb hf l d k c5 hcar h5 hz5) ?_;rintro⟨u6,t6,w6⟩ ⟨x6,c6,e,h6,hz6,hcm6⟩;exact B ⟨x6,c6,e,⟨h6,.inr hz6⟩,hcm6⟩
 .refine J (Q:=λ(y:Unit×(Ag1×Unit))=>CtP b car f l d k y.2.1) ?_ λ_ h=>B h;refine J (Anj hb l d k c5 hcode hcar _ _ h5 (by simpa using q) hz5) λy7 h7=>?_;cases y7 with
  |inl _=>exact B h7
  |inr _=>exact B h7
end
def HP(fl f ab be:Int):Prop:=(0<ab->f+1<fl)/\(0<be->0<f)
def chF(fl f:Int)(y:Int×Int×Int×Unit):Prop:=(y.1=1->y.2.1=1/\f+1<fl)/\(y.1=2->y.2.1=2/\0<f)
def chF.no{d s:Int}(h:n=0\/n=3):chF fl f (n,d,s,()):=⟨λe=>by have e:n=1:=e;omega,λe=>by have e:n=2:=e;omega⟩
def chF.up{s:Int}(h:f+1<fl):chF fl f (1,1,s,()):=⟨λ_=>⟨rfl,h⟩,λe=>absurd e (show ¬(1:Int)=2 by decide)⟩
def chF.dn{s:Int}(h:0<f):chF fl f (2,2,s,()):=⟨λe=>absurd e (show ¬(2:Int)=1 by decide),λ_=>⟨rfl,h⟩⟩
def Abb:U (Dn n) λy=>chF fl f y.2.1:=B (chF.no (.inr rfl))
def Bok{z:Int}(hl:fl<=8)(hf:0<=f/\f<fl)(hz:C2 fl z)(h:(aM (aM z ((2:Int)^(aE (aA f) (IntKind.bits aB)))) ((2:Int)^(aE (aA (1:Int)) (IntKind.bits aB))) !=0)=H):f+1<fl:=by
 by_cases g:f+1<fl
 .exact g
 .obtain rfl:fl=f+1:=ω;obtain⟨h1,h2⟩:=hz;have e:aM (aM z ((2:Int)^(aE (aA f) (IntKind.bits aB)))) ((2:Int)^(aE (aA (1:Int)) (IntKind.bits aB)))=0:=by
   have p:∀k:Nat,(0:Int)<=2^k:=λk=>bE (Int.pow_pos τ);rw[P_ _ (p _),P_ _ (p _)];have c:f=0\/f=1\/f=2\/f=3\/f=4\/f=5\/f=6\/f=7:=ω;rcases c with rfl|rfl|rfl|rfl|rfl|rfl|rfl|rfl
   .have h2:z.toNat<2:=h2;show z/1/2=0;omega
   .have h2:z.toNat<4:=h2;show z/2/2=0;omega
   .have h2:z.toNat<8:=h2;show z/4/2=0;omega
   .have h2:z.toNat<16:=h2;show z/8/2=0;omega
   .have h2:z.toNat<32:=h2;show z/16/2=0;omega
   .have h2:z.toNat<64:=h2;show z/32/2=0;omega
   .have h2:z.toNat<128:=h2;show z/64/2=0;omega
   .have h2:z.toNat<256:=h2;show z/128/2=0;omega
  rw[e]at h;cases h
def Boo{z:Int}(hf:0<=f)(h:(I aB (stk z (I aB ((I aB ((1:Int)*((2:Int)^(aE (aA f) (IntKind.bits aB)))))-(1:Int))) (aO ((aJ (IntKind.bits aB) z)&&&(aJ (IntKind.bits aB) (I aB ((I aB ((1:Int)*((2:Int)^(aE (aA f) (IntKind.bits aB)))))-(1:Int))))))) !=0)=H):0<f:=by
 by_cases g:f=0
 .subst g;rw[Yq,show aB.wrap ((I aB ((1:Int)*((2:Int)^(aE (aA 0) (IntKind.bits aB)))))-(1:Int))=0 by decide]at h;have e:vb (bv z&&&bv 0)=0:=by rw[show bv 0=0#32 from rfl,BitVec.and_zero];rfl
  rw[e]at h;cases h
 .omega
section
variable{fl f:Int}(hl:2<=fl/\fl<=8)(hf:0<=f/\f<fl)
include hl hf
theorem Bw2(d o a b c:Int):U (GB fl d o f a b c) λy=>HP fl f y.2.1.2.2.2.1 y.2.1.2.2.2.2.1:=by
 unfold GB;have g:=b_ hf.1;have hA:=C2.all hl;have half:C2 fl (aM (I aB ((I aB ((1:Int)*((2:Int)^(aE (aA fl) (IntKind.bits aB)))))-(1:Int))) ((2:Int)^(aE (aA (1:Int)) (IntKind.bits aB)))):=by rw[P_ _ (bE (Int.pow_pos τ))];generalize aB.wrap ((I aB ((1:Int)*((2:Int)^(aE (aA fl) (IntKind.bits aB)))))-(1:Int))=A at hA;obtain⟨h1,h2⟩:=hA;have e:(2:Int)^(aE (aA (1:Int)) (IntKind.bits aB))=2:=rfl;rw[e];exact⟨ω,ω⟩
 refine aC (b_ (ω:(0:Int)<=fl)) ?_;refine J (Q:=λy=>C2 fl y.2.1.1/\C2 fl y.2.1.2.1) ⟨_,EP (_,_) (_,_),?_⟩ λy1 h1=>?_
 .refine⟨C2.vb ?_,C2.vb ?_⟩
  .rw[bC];exact g1_ bH half.bv
  .rw[bC];exact g1_ bH hA.andNot.bv
 have hset:=((C2.and (x:=a) hA).or h1.1).or h1.2;refine aC g (J (RL _ _ ⟨hf.1,ω⟩ (.inl rfl)) λy2 _=>J (RL _ _ ⟨hf.1,ω⟩ (.inr rfl)) λy3 _=>?_);refine J (Q:=λy=>y.1.1=f/\(0<y.2.2.1.2.2.2.1->f+1<fl)/\y.2.2.1.2.2.2.2.1=0) (aC g (C (λq=>J (Ap0 _) λ_ _=>B ⟨rfl,λ_=>Bok hl.2 hf hset q,rfl⟩) λ_=>B ⟨rfl,λh=>absurd h (show ¬(0:Int)<0 by decide),rfl⟩)) λy5 h5=>?_;obtain⟨e1,e2,e3⟩:=h5;rw[e1];refine aC g (C (λq=>J (Aly _) λ_ _=>B ⟨e2,λ_=>Boo hf.1 q⟩) λ_=>B ⟨e2,λh=>?_⟩);have h:0<y5.2.2.1.2.2.2.2.1:=h;omega
omit hl hf
theorem Bhe{a b c:Bool}{d e o:Int}(h:HP fl f d e):U (Di a b c d e o) λy=>HP fl f y.2.1.2.2.2.1 y.2.1.2.2.2.2.1:=by
 unfold Di;refine J (Q:=λy=>HP fl f y.2.1.2.2.2.1 y.2.1.2.2.2.2.1) ?_ λy1 h1=>?_
 .refine C (λ_=>?_) λ_=>?_<;>exact C (λ_=>C (λ_=>B h) λ_=>B h) λ_=>C (λ_=>B h) λ_=>B h
 refine J (Q:=λy=>HP fl f y.2.1.2.2.2.1 y.2.1.2.2.2.2.1/\HP fl f y.2.2.1.2.2.2.1 y.2.2.1.2.2.2.2.1) ?_ λy2 h2=>?_
 .refine C (λ_=>?_) λ_=>?_<;>exact C (λ_=>C (λ_=>B ⟨h1,h1⟩) λ_=>B ⟨h1,h1⟩) λ_=>C (λ_=>B ⟨h1,h1⟩) λ_=>B ⟨h1,h1⟩
 exact C (λ_=>B h2.2) λ_=>C (λ_=>B h2.2) λ_=>C (λ_=>B h2.2) λ_=>C (λ_=>B h2.2) λ_=>C (λ_=>B h2.2) λ_=>B h2.1
theorem Bkx{a b c:Bool}{d e o:Int}(h:HP fl f d e):U (Ds a b c d e o) λy=>(y.1.1=1->f+1<fl)/\(y.1.1=2->0<f):=by
 unfold Ds;refine J (Q:=λy=>(y.1.2.1=H->f+1<fl)/\y.2.1.2.2.2.2.1=e) ?_ λy1 h1=>?_
 .exact C (λq=>C (λ_=>B ⟨λ_=>h.1 (l_ q),rfl⟩) λ_=>B ⟨λ_=>h.1 (l_ q),rfl⟩) λ_=>B ⟨(λq=>by cases q),rfl⟩
 refine C (λq=>B ⟨λ_=>h1.1 q,λe=>absurd e (show ¬(1:Int)=2 by decide)⟩) λ_=>C (λq=>B ⟨λe=>absurd e (show ¬(2:Int)=1 by decide),λ_=>h.2 ?_⟩) λ_=>B ⟨λe=>absurd e (show ¬(0:Int)=1 by decide),λe=>absurd e (show ¬(0:Int)=2 by decide)⟩;have q:=l_ q;omega
theorem Bgs{a b c:Bool}{d e o:Int}(h:HP fl f d e):U (Dh a b c d e o) λy=>chF fl f y.2.1:=by
 unfold Dh;refine J (Bkx h) λy h=>?_;refine C (λ_=>J Abb λ_ h=>B h) λ_=>C (λ_=>J Abb λ_ h=>B h) λ_=>C (λ_=>J Abb λ_ h=>B h) λ_=>?_;refine C (λq=>B ?_) λ_=>C (λq=>B ?_) λ_=>B (chF.no (.inl rfl))
 .have q:y.1.1=1:=eq_of_beq q;rw[q];exact chF.up (h.1 q)
 .have q:y.1.1=2:=eq_of_beq q;rw[q];exact chF.dn (h.2 q)
theorem An1{a b c:Bool}{d e o:Int}(h:HP fl f d e):U (Cu a b c d e o) λy=>chF fl f y.2.1:=by
 unfold Cu;refine J (Q:=λy=>y.2.1.2.2.2.1=d/\y.2.1.2.2.2.2.1=e) (C (λ_=>B ⟨rfl,rfl⟩) λ_=>B ⟨rfl,rfl⟩) λy1 h1=>?_;refine C (λ_=>J (Abe _ _ _ _ dir2.two dir2.one) λ_ h=>J Abb λ_ h=>B h) λ_=>C (λq=>B (chF.dn (h.2 ?_))) λ_=>?_
 .have q:=l_ q;omega
 refine C (λ_=>J Abb λ_ h=>B h) λ_=>C (λq=>B (chF.up (h.1 ?_))) λ_=>B (chF.no (.inl rfl));have q:=l_ q;omega
theorem Bk7{a b c:Bool}{d e o:Int}(h:HP fl f d e):U (Dt a b c d e o) λy=>chF fl f y.2.1:=by
 unfold Dt;refine J (Q:=λy=>y.2.1.2.2.2.1=d/\y.2.1.2.2.2.2.1=e) (C (λ_=>B ⟨rfl,rfl⟩) λ_=>B ⟨rfl,rfl⟩) λy1 h1=>?_;refine C (λ_=>J (Abe _ _ _ _ dir2.one dir2.two) λ_ h=>J Abb λ_ h=>B h) λ_=>C (λq=>B (chF.up (h.1 ?_))) λ_=>?_
 .have q:=l_ q;omega
 rw[h1.1,h1.2];exact J (An1 h) λ_ h=>B h
include hl hf
theorem Bjz{w:Int}(hw:dir2 w)(o a b c:Int):U (CJ fl w o f a b c) λy=>chF fl f y.2.1:=by
 unfold CJ;refine J (Bw2 hl hf w o a b c) λy1 h1=>J (Bhe h1) λy2 h2=>?_;refine J (Q:=λy=>chF fl f y.2.1) ?_ λy6 h6=>B h6;refine aC (Ac hw.1 (by have:=hw.2;show w<(3:Int);omega)) ?_;refine C (λ_=>J (Bgs h2) λ_ h=>B h) λn0=>C (λ_=>J (Bk7 h2) λ_ h=>B h) λn1=>?_;have e:Nat.beq (aA w) 2=H:=by
  have a0:¬aA w=0:=λq=>by rw[q]at n0;cases n0
  have a1:¬aA w=1:=λq=>by rw[q]at n1;cases n1
  have:aA w=2:=by have:=hw.1;have:=hw.2;omega
  rw[this];rfl
 exact aC e (J (An1 h2) λ_ h=>B h)
theorem Ata{w o:Int}(hw:S2 w o)(a b c:Int):∃y z,Eb fl w o f a b c=P (((),()),(y,()))/\Fi fl w o f a b c=P (((),()),(z,()))/\chF fl f y/\S2 z.1 z.2.1/\(y.1≠3->z.1=y.2.1):=by
 have hp:Ec fl w o f=P ((H,()),()):=by unfold Ec;rw[b_ hl.1,b_ (ω:fl<=32),b_ hf.1,b_ hf.2];show bB (bB (Ca w o) _) _=_;rw[show Ca w o=P (((inR 0 2 w&&inR 0 7 o),()),())from FU { Bs with T1:=w,F1:=o },An.2 hw.1,An.2 hw.2];rfl
 obtain⟨y,e1,h1⟩:=Bjz hl hf hw.1 o a b c;obtain⟨z,e2,h2⟩:=Aw8 fl w o f a b c;obtain⟨⟨_,n,_⟩,y,_⟩:=y;obtain⟨_,z,_⟩:=z;refine⟨y,z,?_,e2,h1,h2,λhn=>?_⟩
 .unfold Eb;rw[hp];show(CJ fl w o f a b c).bind _=_;rw[e1];rfl
 .unfold Fi at e2;rw[hp]at e2;change(CJ fl w o f a b c).bind _=_ at e2;rw[e1]at e2;change(bif(y.1 !=(3:Int))then _ else _)=_ at e2;rw[LZ hn,Z]at e2
  have:=(Prod.mk.inj (Prod.mk.inj (F_ e2)).2).1
  rw[<-this]
end
def Aq3{a b c:Int}{e:Int}(h:D5 a b c d e):U (OC a b c d e) λy=>letI f:=y.2.1.2;D5 y.2.1.1 f.1 f.2.1 f.2.2.1 f.2.2.2.1/\(a=0->y.2.1.1=0):=by
 by_cases g:a=0
 .obtain⟨h1,h2,h3,h4,h5⟩:a=0/\b=0/\c=0/\d=L/\e=0:=h.resolve_right λq=>absurd g ω;subst h1 h2 h3 h4 h5;exact⟨_,rfl,D5.zero,λ_=>rfl⟩
 .exact(Aq2 h).mono λ_ q=>⟨q,λq=>absurd q g⟩
def Ak9{c t:Int}(h:M3 fl c t f):U (Mn c t f) λy=>M3 fl y.2.1.1 y.2.1.2.1 y.2.1.2.2.1/\(c=0/\t=0/\f=0->MZ y.2.1):=by
 by_cases g:c=0/\t=0/\f=0
 .obtain⟨h1,h2,h3⟩:=g;subst h1 h2 h3;exact⟨_,rfl,M3.zero,λ_=>rfl⟩
 .exact(Ak8 h).mono λ_ q=>⟨q,λq=>absurd q g⟩
@[reducible] def Bei(x:aQ):Atk:=(x.T1,x.F1,x.X0,x.M1,x.I1,x.L1,x.E1,x.T0,x.W0,x.S0,x.M2,x.J3,x.Y3,x.Q3,())
def Bdl(b:R)(t:Atk):Prop:=∃x,t=Bei x/\IB b x=H
def Sy.zero:Sy fl Bs:=⟨⟨S2.zero dir2.zero,D5.zero,M3.zero,C2.zero,dir2.zero,i00,rfl⟩,.inl rfl⟩
def Ace(b:R):IB b { Bs with Q3:=H }=H:=rfl
section
variable{b:R}(hb:b.small)
include hb
theorem Oo:IB b Bs=H:=(WO hb rfl).2 Sy.zero
theorem Aks(c0 c1 c2 c3 c4 c5 c6 c7 c8:Int)(h:Sy b.C0 x)(hn:CmdR n):U (IY c0 c1 c2 c3 c4 c5 c6 c7 c8 x.T1 x.F1 x.X0 x.M1 x.I1 x.L1 x.E1 x.T0 x.W0 x.S0 x.M2 x.J3 x.Y3 x.Q3 n) λy=>Bdl b y.2.1/\CmdR y.1.2.1:=by unfold IY;refine J (Aq1 ..) λy1 _=>C (λ_=>B ⟨⟨{ Bs with Q3:=H },rfl,Ace b⟩,rfl⟩) λ_=>?_;exact J (Ak7 ..) λy2 _=>C (λ_=>B ⟨⟨{ Bs with Q3:=H },rfl,Ace b⟩,rfl⟩) λ_=>B ⟨⟨x,rfl,(WO hb h.1.nf).2 h⟩,hn⟩
variable(hcode:b.code=0)(car:Int)(x:aQ)
include hcode
theorem Aof:KT b.C0 b.E0 b.I0 b.M0 b.J0 b.L0 b.N0 b.B0 car x.T1 x.F1 x.X0 x.M1 x.I1 x.L1 x.E1 x.T0 x.W0 x.S0 x.M2 x.J3 x.Y3 x.Q3=P ((IB b x&&(decide (0<=car)&&decide (car<(b.B0.length:Int))),()),()):=by unfold KT;rw[KE hb hcode];simp only[a_];cases IB b x<;>cases decide (0<=car)<;>rfl
theorem Alb(f:Int)(l:Bool)(d:Int)(k:Bool)(p hu hd:Int):U (OZ b.C0 b.E0 b.I0 b.M0 b.J0 b.L0 b.N0 b.B0 car x.T1 x.F1 x.X0 x.M1 x.I1 x.L1 x.E1 x.T0 x.W0 x.S0 x.M2 x.J3 x.Y3 x.Q3 f l d k p hu hd) λy=>Bdl b y.2.1/\CmdR y.1.2.1:=by
 unfold OZ;refine aG (Aof hb hcode car x) (C (λ_=>B ⟨⟨Bs,rfl,Oo hb⟩,rfl⟩) λq=>?_);have q:IB b x=H/\0<=car/\car<(b.B0.length:Int):=by
  have q:(IB b x&&(decide (0<=car)&&decide (car<(b.B0.length:Int))))=H:=by simpa only[g2_]using q
  simpa only[e_,q_]using q
 obtain⟨hx,hcar⟩:=q;refine J (Q:=λy=>y.1.1=H->0<=f/\f<b.C0) ?_ λy2 h2=>?_
 .unfold MF;refine J (Q:=λy=>y.1.1=H->0<=f/\f<b.C0) ?_ λ_ h=>B h;refine C (λa=>C (λc=>C (λ_=>B λ_=>⟨l_ a,l_ c⟩) λ_=>B λg=>(by cases g)) λ_=>B λg=>(by cases g)) λ_=>B λg=>(by cases g)
 refine C (λ_=>B ⟨⟨Bs,rfl,Oo hb⟩,rfl⟩) λq2=>C (λ_=>B ⟨⟨x,rfl,hx⟩,rfl⟩) λhf=>?_;have hff:=h2 (by simpa using q2);refine J (Q:=λ(y:(Unit×Unit×Unit×Unit)×(Atk×Atk×Ag1×Unit))=>CtP b car f l d k y.2.2.2.1) (J (Bbc hb hff l d k 0 hcode hcar p hu hd ((WO hb hf).1 hx) rfl) λy3 h3=>?_) ?_
 .cases y3 with
  |inl _=>exact B h3
  |inr _=>exact B h3
 rintro⟨u,v,w,t,z⟩ ⟨x',c',e,h',hcm⟩;change t=_ at e;subst e;exact J (Uq hb (x:=x') l d k c' hcar) λy6 _=>J (Aks hb _ _ _ _ _ _ _ _ _ h' hcm) λy7 h7=>B h7
theorem Ah9:U (Oa b.C0 b.E0 b.I0 b.M0 b.J0 b.L0 b.N0 b.B0 car x.T1 x.F1 x.X0 x.M1 x.I1 x.L1 x.E1 x.T0 x.W0 x.S0 x.M2 x.J3 x.Y3 x.Q3) λy=>Bdl b y.2.1/\CmdR y.1.2.1:=by
 unfold Oa;refine aG (Aof hb hcode car x) (C (λ_=>B ⟨⟨Bs,rfl,Oo hb⟩,rfl⟩) λq=>?_);have q:IB b x=H/\0<=car/\car<(b.B0.length:Int):=by
  have q:(IB b x&&(decide (0<=car)&&decide (car<(b.B0.length:Int))))=H:=by simpa only[g2_]using q
  simpa only[e_,q_]using q
 obtain⟨hx,hcar⟩:=q;refine C (λ_=>B ⟨⟨x,rfl,hx⟩,rfl⟩) λhf=>?_;have h:=(WO hb hf).1 hx;refine J (Aq3 h.1.dr) λy2 h2=>J (Ak9 h.1.mt) λy3 h3=>aC (Ac hcar.1 hcar.2) ?_;refine J (Aks hb _ _ _ _ _ _ _ _ _ (x:={ x with X0:=y2.2.1.1,M1:=y2.2.1.2.1,I1:=y2.2.1.2.2.1,L1:=y2.2.1.2.2.2.1,E1:=y2.2.1.2.2.2.2.1,T0:=y3.2.1.1,W0:=y3.2.1.2.1,S0:=y3.2.1.2.2.1 }) ⟨⟨h.1.sw,h2.1,h3.1,h.1.ca,h.1.sh,h.1.idle,h.1.nf⟩,?_⟩ (n:=0) rfl) λy4 h4=>B h4;refine h.2.imp (λg=>h2.2 g) λg=>?_;have e:=h3.2 g;unfold MZ at e;show y3.2.1.1=0/\y3.2.1.2.1=0/\y3.2.1.2.2.1=0;rw[e];exact⟨rfl,rfl,rfl⟩
theorem Aib(f:Int)(l:Bool)(d:Int)(k:Bool):U (KR b.C0 b.E0 b.I0 b.M0 b.J0 b.L0 b.N0 b.B0 x.T1 x.F1 x.X0 x.M1 x.I1 x.L1 x.E1 x.T0 x.W0 x.S0 x.M2 x.J3 x.Y3 x.Q3 f l d k) λy=>y.1.1=H->l=H/\d=2:=by
 unfold KR;have i:SatT (EG b.C0 b.E0 b.I0 b.M0 b.J0 b.L0 b.N0 b.B0 x.T1 x.F1 x.X0 x.M1 x.I1 x.L1 x.E1 x.T0 x.W0 x.S0 x.M2 x.J3 x.Y3 x.Q3):=⟨⟨_,KE hb hcode x,trivial⟩⟩;have no:∀{p:Prop},L=H->p:=λq=>by cases q
 refine J (Q:=λy=>y.1.1=H->l=H/\d=2) (J i.out λ_ _=>?_) λ_ h=>B h;exact C (λ_=>C (λ_=>C (λ_=>C (λ_=>C (λ_=>C (λq=>B λq2=>⟨q,eq_of_beq q2⟩) λ_=>B no) λ_=>B no) λ_=>B no) λ_=>B no) λ_=>B no) λ_=>B no
end
def U2(a c:Int):Prop:=(0<=a/\a<4294967296)/\0<=c/\c<4294967296
def U2.zero:U2 0 0:=by unfold U2;decide
def U2.fst:U2 (I aB n) 0:=⟨IG n,τ⟩
def U2.snd:U2 0 (I aB n):=⟨τ,IG n⟩
instance isFloors_ti(n:Int):SatT (Gg n):=⟨by unfold Gg;exact Sat.go⟩
instance isObs_ti(n a c d:Int):SatT (GC n a c d):=⟨by unfold GC;exact Sat.go⟩
def OA(n a c d:Int):U (GD n a c d) λy=>U2 y.2.1.1 y.2.1.2.1:=by
 unfold GD;refine J (isObs_ti n a c d).out λ_ _=>C (λ_=>B U2.zero) λ_=>C (λ_=>B U2.zero) λ_=>C (λ_=>B U2.zero) λh=>?_;have h0:0<=a:=by have:=C_ h;omega
 refine J (Q:=λy=>y.2.1.1=a) (C (λ_=>B rfl) λ_=>B rfl) λy2 h2=>?_;refine C (λ_=>aC (b_ (h2▸h0)) (B U2.fst)) λ_=>?_;refine J (Q:=λy=>y.2.1.1=a) (C (λ_=>B h2) λ_=>B h2) λy3 h3=>?_;exact C (λ_=>aC (b_ (h3▸h0)) (B U2.snd)) λ_=>B U2.zero
def Aia(hb:b.small)(hcode:b.code=0)(x:aQ)(f:Int)(l:Bool)(d:Int)(k:Bool):U (Ob b.C0 b.E0 b.I0 b.M0 b.J0 b.L0 b.N0 b.B0 x.T1 x.F1 x.X0 x.M1 x.I1 x.L1 x.E1 x.T0 x.W0 x.S0 x.M2 x.J3 x.Y3 x.Q3 f l d k) λy=>U2 y.2.1.1 y.2.1.2.1:=by unfold Ob;refine aG (KE hb hcode x) (C (λ_=>B U2.zero) λ_=>C (λ_=>B U2.zero) λ_=>C (λ_=>B U2.zero) λ_=>C (λ_=>B U2.zero) λ_=>?_);exact J (OA ..) λ_ h=>B h
instance pair_ti(a c:Bool):SatT (IU a c 0 1 2 3):=⟨by cases a<;>cases c<;>exact⟨_,rfl,trivial⟩⟩
def Buk(a c:Bool):U (IU a c 0 1 2 3) λy=>0<=y.1.1/\y.1.1<=3:=by cases a<;>cases c<;>exact⟨_,rfl,τ⟩
def dK(e:Duty):Int:=4*e.D0+e.H0
structure DutOK(b:Bldg)(D:Int)(l:List Duty):Prop where
 each:∀e∈l,Ar b e.D0 e.H0=true/\0<=e.N4/\e.N4<=D
 sort:l.Pairwise λa c=>dK a<dK c
def DutOK.nil:DutOK b D []:=⟨λ_ h=>(by cases h),List.Pairwise.nil⟩
def Gd(hb:b.small){d:Int}(h:Ar b f d=H):(0<=f/\f<8)/\(1<=d/\d<=2):=by have lo:=hb.lo;have hi:=hb.hi;unfold Ar RI inR at h;simp only[e_,Q_,R_,q_]at h;omega
def ZG{a c:Duty}(ha:1<=a.H0/\a.H0<=2)(hc:1<=c.H0/\c.H0<=2):VF a c=H↔dK a<dK c:=by unfold VF dK;simp only[e_,Q_,R_,q_];omega
def YH{l:List Duty}(h:∀i,i+1<l.length->dK (l.getD i HK)<dK (l.getD (i+1) HK)):∀i k:Nat,i+1+k<l.length->dK (l.getD i HK)<dK (l.getD (i+1+k) HK)
 |i,0,hk=>h i hk
 |i,k+1,hk=>Int.lt_trans (YH h i k ω) (h (i+1+k) ω)
def gD(h:i<l.length):l.getD i HK=l[i]:=by simp only[k_,i_ h,Option.getD_some]
def Bj7(hb:b.small)(x:Belief):Qu (Anq b car x) x.V0.length 0=H↔DutOK b (Li b car).C1 x.V0:=by
 constructor
 .intro h;have h:=Uc _ _ h;have hp:∀i,i<x.V0.length->Ar b (x.V0.getD i HK).D0 (x.V0.getD i HK).H0=H/\(0<=(x.V0.getD i HK).N4/\(x.V0.getD i HK).N4<=(Li b car).C1)/\(i=0\/VF (x.V0.getD (i-1) HK) (x.V0.getD i HK)=H):=λi hi=>by
   have h:=h i ω ω;unfold Anq Auu inR at h;simpa only[e_,Q_,R_,q_]using h
  refine⟨λe he=>?_,?_⟩
  .obtain⟨i,hi,rfl⟩:=List.mem_iff_getElem.1 he
   have:=hp i hi
   rw[gD hi]at this;exact⟨this.1,this.2.1⟩
  .rw[b0_];intro i j hi hj hij
   have:=YH (l:=x.V0) (λi hi=>by have h1:=hp (i+1) hi;have h0:=hp i ω;have h2:=h1.2.2.resolve_left ω;exact(ZG (Gd hb h0.1).2 (Gd hb h1.1).2).1 h2) i (j-i-1) ω
   rw[show i+1+(j-i-1)=j by omega,gD hi,gD hj]at this;exact this
 .intro h;refine Vj _ _ λk _ hk=>?_;have hk:k<x.V0.length:=ω;have h1:=h.each _ (a6_ hk);unfold Anq Auu inR;simp only[e_,Q_,R_,q_,gD hk];refine⟨h1.1,h1.2,?_⟩;by_cases k0:k=0
  .exact .inl k0
  .have hj:k-1<x.V0.length:=ω;rw[gD hj];have h0:=h.each _ (a6_ hj);exact .inr ((ZG (Gd hb h0.1).2 (Gd hb h1.1).2).2 (b0_.1 h.sort _ _ hj hk ω))
def DutOK.len(hb:b.small)(h:DutOK b D l):l.length<=30:=by
 have key:∀i (hi:i<l.length),(i:Int)+1<=dK l[i]:=λi=>by
  induction i with
  |zero=>
   intro hi
   have:=Gd hb (h.each _ (a6_ hi)).1
   unfold dK;omega
  |succ i ih=>intro hi;have h1:=ih ω;have h2:=b0_.1 h.sort i (i+1) ω hi ω;omega
 rcases Nat.eq_zero_or_pos l.length with g|g
 .omega
 .have hi:l.length-1<l.length:=ω;have h1:=key _ hi
  have:=Gd hb (h.each _ (a6_ hi)).1
  unfold dK at h1;omega
def DutOK.push{e:Duty}(h:DutOK b D l)(h1:Ar b e.D0 e.H0=H/\0<=e.N4/\e.N4<=D)(h2:∀a∈l,dK a<dK e):DutOK b D (l++[e]):=by
 refine⟨λx hx=>?_,f7_.2 ⟨h.sort,List.pairwise_singleton ..,λa ha c hc=>?_⟩⟩
 .rcases n_.1 hx with g|g
  .exact h.each x g
  .rw[B_.1 g];exact h1
 .rw[B_.1 hc];exact h2 a ha
def Baj(hb:b.small)(hD:D<=1000000000)(h:DutOK b D l)(u d:Int):U (Mk l D u d) λy=>DutOK b D y.1.1/\(y.1.2.1=H->y.1.1=[]):=by
 have hl:=h.len hb;unfold Mk MW;refine J (Q:=λy=>match y with|.inl z=>DutOK b D z.1.1|.inr z=>z.1.1=[]) (aX (λk x=>∃(out:List Duty) (i:Nat),x=((D,(),out,l,(l.length:Int),(i:Int),()),((u,d,()),()))/\i+k=l.length/\DutOK b D out/\∀a∈out,∀j (hj:j<l.length),i<=j->dK a<dK l[j]) ?_ l.length ⟨[],0,rfl,ω,.nil,λa ha=>by cases ha⟩ ω) ?_
 .rintro k x ⟨out,i,rfl,hk,ho,ha⟩;show U (Qn D out l (l.length:Int) (i:Int) u d) _;unfold Qn;refine C (λq=>?_) λ_=>B ho;have hi:i<l.length:=by have:=l_ q;omega
  have he:=h.each _ (a6_ hi);have hc:=Gd hb he.1;have g:bA l (aA (i:Int)) (aY 0 0 0)=l[i]:=gD hi;have w:O.wrap (l[i].N4+1)=l[i].N4+1:=Aa ω ω;refine aC (Ac ω ω) ?_;simp only[g,w,Gx hi (show l.length<=AX by unfold AX;omega)];refine C (λ_=>B rfl) λq2=>?_;have q2:=C_ q2;refine aG (Qw (u,d) (F:=l[i].D0) (D:=l[i].H0) ⟨ω,ω⟩ ω) ?_;refine C (λ_=>?_) λ_=>B ⟨k-1,ω,out,i+1,rfl,ω,ho,λa m j hj hij=>ha a m j hj ω⟩;have hp:DutOK b D (out++[aY l[i].D0 l[i].H0 (l[i].N4+1)]):=ho.push ⟨he.1,by show 0<=l[i].N4+1;omega,by show l[i].N4+1<=D;omega⟩ λa m=>ha a m i hi (y_ _);have hlen:=ho.len hb;refine aC (f5_ (by simp only[E_,d5_];omega)) (B ⟨k-1,ω,_,i+1,rfl,ω,hp,λa m j hj hij=>?_⟩);rcases n_.1 m with m|m
  .exact ha a m j hj ω
  .rw[B_.1 m];exact b0_.1 h.sort i j hi hj ω
 .intro y hy;cases y with
  |inl z=>exact B ⟨hy,λq=>by cases q⟩
  |inr z=>exact B ⟨by show DutOK b D z.1.1;rw[show z.1.1=[]from hy];exact .nil,λ_=>hy⟩
structure BelOK(b:Bldg)(car:Nat)(x:Belief):Prop where
 fl:-1<=x.D0/\x.D0<=b.C0-1
 dir:0<=x.H0/\x.H0<=3
 door:0<=x.G1/\x.G1<=3
 still:0<=x.I3/\x.I3<=1000000
 late:x.Z3=true->x.V0=[]
 dut:DutOK b (Li b car).C1 x.V0
abbrev Amf:=Int×Int×Int×List Duty×Int×Bool×Unit
@[reducible] def Aty(x:Belief):Amf:=(x.D0,x.H0,x.G1,x.V0,x.I3,x.Z3,())
def Bdk(b:R)(car:Nat)(t:Amf):Prop:=∃x,t=Aty x/\BelOK b car x
section
variable{b:R}(hb:b.small)
include hb
theorem Aiz{x:Belief}:Aej b car x=H↔BelOK b car x:=by
 unfold Aej inR;simp only[e_,q_,Bj7 hb,a2_,Bool.and_eq_false_imp,decide_eq_false_iff_not];constructor
 .rintro⟨h1,h2,h3,h4,h5,h6⟩;exact⟨h1,h2,h3,h4,λq=>List.length_eq_zero_iff.1 (by have:=h5 q;omega),h6⟩
 .intro h;exact⟨h.fl,h.dir,h.door,h.still,λq=>(by rw[h.late q];decide),h.dut⟩
theorem BelOK.zero:BelOK b car ⟨0,0,0,[],0,L⟩:=by
 have:=hb.lo
 exact⟨⟨τ,show(0:Int)<=b.C0-1 by omega⟩,τ,τ,τ,λ_=>rfl,.nil⟩
variable(hcode:b.code=0){car:Nat}(hcar:car<b.B0.length){x:Belief}(h:BelOK b car x)
include hcode hcar h
theorem JC:CF b.C0 b.E0 b.I0 b.M0 b.J0 b.L0 b.N0 b.B0 (car:Int) x.D0 x.H0 x.G1 x.V0 x.I3 x.Z3=P ((H,()),()):=by exact SQ hb hcode hcar (c1_ (h.dut.len hb) τ) ((Aiz hb).2 h)
theorem Amp:(Li b car).C1<=1000000000:=by
 have:=Ai2 hcode (c:=Li b car) (by unfold Li;rw[k_,i_ hcar];exact a6_ hcar)
 omega
theorem Ag4:U (NP b.C0 b.E0 b.I0 b.M0 b.J0 b.L0 b.N0 b.B0 (car:Int) x.D0 x.H0 x.G1 x.V0 x.I3 x.Z3) λy=>Bdk b car y.2.1:=by unfold NP;refine aG (JC hb hcode hcar h) (aZ rfl (aC (Ac ω ω) ?_));refine J (Baj hb (Amp hb hcode hcar h) h.dut 0 0) λy2 h2=>B ⟨⟨x.D0,x.H0,x.G1,y2.1.1,0,y2.1.2.1⟩,rfl,⟨h.fl,h.dir,h.door,?_,h2.2,h2.1⟩⟩;exact show(0:Int)<=0/\(0:Int)<=1000000 from by decide
theorem Aek:U (JI b.C0 b.E0 b.I0 b.M0 b.J0 b.L0 b.N0 b.B0 (car:Int) x.D0 x.H0 x.G1 x.V0 x.I3 x.Z3) λy=>Bdk b car y.2.1:=by unfold JI;refine aG (JC hb hcode hcar h) (aZ rfl (B ⟨⟨x.D0,x.H0,x.G1,[],0,L⟩,rfl,⟨h.fl,h.dir,h.door,?_,λ_=>rfl,.nil⟩⟩));exact show(0:Int)<=0/\(0:Int)<=1000000 from by decide
theorem Ag5:U (NQ b.C0 b.E0 b.I0 b.M0 b.J0 b.L0 b.N0 b.B0 (car:Int) x.D0 x.H0 x.G1 x.V0 x.I3 x.Z3) λy=>y.1.1=H->x.G1=2:=by unfold NQ;refine J (Q:=λy=>y.1.1=H->x.G1=2) (aG (JC hb hcode hcar h) (aC rfl ?_)) λ_ h=>B h;exact C (λ_=>C (λq=>aC (Ac ω ω) (B λ_=>eq_of_beq q)) λ_=>B λq=>by cases q) λ_=>B λq=>by cases q
theorem Acp(o p q:Int):U (LD b.C0 b.E0 b.I0 b.M0 b.J0 b.L0 b.N0 b.B0 (car:Int) x.D0 x.H0 x.G1 x.V0 x.I3 x.Z3 o p q) λy=>∃v,y.2.1=Aty v/\BelOK b car v/\(v.G1=2->q=2):=by
 unfold LD;refine aG (JC hb hcode hcar h) (aZ rfl ?_);refine J (Q:=λy=>y.1.1=H->(-1<=o/\o<=b.C0-1)/\(0<=p/\p<=3)/\0<=q/\q<=3) ?_ λy2 h2=>?_
 .unfold GC;refine J (Q:=λy=>y.1.1=H->(-1<=o/\o<=b.C0-1)/\(0<=p/\p<=3)/\0<=q/\q<=3) ?_ λ_ h=>B h;refine J (isFloors_ti _).out λ_ _=>C (λ_=>?_) λ_=>B λg=>(by cases g)
  refine C (λg1=>?_) λ_=>B λg=>(by cases g)
  refine C (λg2=>?_) λ_=>B λg=>(by cases g)
  refine C (λg3=>?_) λ_=>B λg=>(by cases g)
  refine C (λg4=>?_) λ_=>B λg=>(by cases g)
  refine C (λg5=>B λg6=>?_) λ_=>B λg=>(by cases g)
  have g2:=l_ g2;exact⟨⟨l_ g1,ω⟩,⟨l_ g3,l_ g4⟩,l_ g5,l_ g6⟩
 refine C (λ_=>B ⟨⟨0,0,0,[],0,L⟩,rfl,BelOK.zero hb,λe=>absurd e (show ¬(0:Int)=2 by decide)⟩) λk=>aC (Ac ω ω) ?_;obtain⟨ho,hp,hq⟩:=h2 (by simpa using k);refine J (OA ..) λy3 _=>J (Baj hb (Amp hb hcode hcar h) h.dut _ _) λy4 h4=>?_;have i0:(0:Int)<=0/\(0:Int)<=1000000:=by decide
 refine J (Q:=λ(y:(Unit×Unit×Unit×Int×Unit)×(Amf×(Int×Int×Int×Unit)×Amf×Unit))=>(y.2.1=Aty ⟨x.D0,x.H0,x.G1,y4.1.1,x.I3,y4.1.2.1⟩/\y.2.2.1=(o,p,q,()))/\0<=y.1.2.2.2.1/\y.1.2.2.2.1<=1000000) ?_ ?_
 .refine J (Q:=λy=>(y.2.1=Aty ⟨x.D0,x.H0,x.G1,y4.1.1,x.I3,y4.1.2.1⟩/\y.2.2.1=(o,p,q,()))/\y.1.2.2.2.1=0) ?_ ?_
  .exact C (λ_=>C (λ_=>B ⟨⟨rfl,rfl⟩,rfl⟩) λ_=>B ⟨⟨rfl,rfl⟩,rfl⟩) λ_=>B ⟨⟨rfl,rfl⟩,rfl⟩
  .intro y5 h5;refine C (λ_=>B ⟨h5.1,?_⟩) λ_=>B ⟨h5.1,?_⟩
   .rw[h5.1.1];exact Lv h.still
   .show 0<=y5.1.2.2.2.1/\y5.1.2.2.2.1<=1000000;rw[h5.2];exact i0
 rintro⟨⟨a1,a2,a3,n,a4⟩,t,v,w,z⟩ ⟨⟨e1,e2⟩,hn⟩;change t=_ at e1;change v=_ at e2;subst e1 e2;exact Sat.bindC (λ_=>aU (B ⟨⟨o,p,q,y4.1.1,n,y4.1.2.1⟩,rfl,⟨ho,hp,hq,hn,h4.2,h4.1⟩,id⟩)) λ_=>aU (B ⟨⟨x.D0,p,q,y4.1.1,n,y4.1.2.1⟩,rfl,⟨h.fl,hp,hq,hn,h4.2,h4.1⟩,id⟩)
end
def Bzc(a c:Duty):∃n:Int,Dc a.D0 a.H0 a.N4 c.D0 c.H0 c.N4=P ((n,()),())/\(n<0↔VF a c=H)/\(n=0↔a.D0=c.D0/\a.H0=c.H0):=by
 unfold Dc;rw[IR,IR];simp only[a_];rw[Zj];refine⟨_,rfl,?_⟩;unfold VF Xm;by_cases h1:a.D0<c.D0
 .simp[h1];omega
 .by_cases h2:c.D0<a.D0
  .simp[h1,h2];omega
  .by_cases h3:a.H0<c.H0
   .simp[h1,h2,h3];omega
   .by_cases h4:c.H0<a.H0
    .simp[h1,h2,h3,h4];omega
    .simp[h1,h2,h3,h4];omega
def Bqz{j:Nat}(h:i+j<9223372036854775808):O.wrap (aM (I V (I O ((i:Int)+(j:Int)))) ((2:Int)^(aE (aA (1:Int)) (IntKind.bits V))))=(((i+j)/2:Nat):Int):=Ajo h
section
variable{b:R}(hb:b.small){D:Int}{l:List Duty}(h:DutOK b D l){F Dr:Int}(hD:1<=Dr/\Dr<=2)
include hb h hD
theorem Arx(hi:i<l.length):∃n:Int,Dc l[i].D0 l[i].H0 l[i].N4 F Dr 0=P ((n,()),())/\(n<0↔dK l[i]<4*F+Dr)/\(n=0↔dK l[i]=4*F+Dr):=by obtain⟨n,h1,h2,h3⟩:=Bzc l[i] (aY F Dr 0);have hc:=Gd hb (h.each _ (a6_ hi)).1;refine⟨n,h1,h2.trans (ZG hc.2 hD),h3.trans ?_⟩;unfold dK;simp only;omega
theorem Bgv:U (As ((l,(),(),(l.length:Int),0,(l.length:Int),()),((F,Dr,0,()),()))) λy=>∃p:Nat,y=((l,(),(),(l.length:Int),(p:Int),()),((F,Dr,0,()),()))/\p<=l.length/\(∀i (hi:i<l.length),i<p->dK l[i]<4*F+Dr)/\∀i (hi:i<l.length),p<=i->4*F+Dr<=dK l[i]:=by
 have hl:=h.len hb;unfold As;refine aX (λk x=>∃i j:Nat,x=((l,(),(),(l.length:Int),(i:Int),(j:Int),()),((F,Dr,0,()),()))/\j<=i+k/\i<=j/\j<=l.length/\(∀a (ha:a<l.length),a<i->dK l[a]<4*F+Dr)/\∀a (ha:a<l.length),j<=a->4*F+Dr<=dK l[a]) ?_ l.length ⟨0,l.length,rfl,ω,ω,ω,λa _ g=>by omega,λa _ g=>by omega⟩ ω;rintro k x ⟨i,j,rfl,hk,hij,hj,h1,h2⟩;show U (Ba l (l.length:Int) (i:Int) (j:Int) F Dr 0) _;unfold Ba;refine C (λq=>?_) λq=>B ?_
 .have q:=l_ q;have hm:(i+j)/2<l.length:=ω;rw[Bqz ω];refine aC (Ac ω ω) ?_;have g:bA l (aA (((i+j)/2:Nat):Int)) (aY 0 0 0)=l[(i+j)/2]:=gD hm;simp only[g,Gx hm (show l.length<=AX by unfold AX;omega)];obtain⟨n,c1,c2,c3⟩:=Arx hb h (F:=F) hD hm;refine aG c1 (C (λg2=>B ⟨k-1,ω,(i+j)/2+1,j,rfl,ω,ω,hj,λa ha g3=>?_,h2⟩) λg2=>B ⟨k-1,ω,i,(i+j)/2,rfl,ω,ω,ω,h1,λa ha g3=>?_⟩)
  .have:=c2.1 (l_ g2)
   rcases g0_ a ((i+j)/2)with g4|g4
   .have:=b0_.1 h.sort a _ ha hm g4
    omega
   .obtain rfl:a=(i+j)/2:=ω;exact this
  .have:¬dK l[(i+j)/2]<4*F+Dr:=λe=>C_ g2 (c2.2 e)
   rcases g0_ ((i+j)/2) a with g4|g4
   .have:=b0_.1 h.sort _ a hm ha g4
    omega
   .obtain rfl:a=(i+j)/2:=ω;omega
 .have q:=C_ q;exact⟨i,rfl,ω,h1,λa ha g=>h2 a ha ω⟩
theorem Bqu:U (AJ l F Dr 0) λy=>∃p:Nat,y.1.1=(p:Int)/\p<=l.length/\(∀i (hi:i<l.length),i<p->dK l[i]<4*F+Dr)/\(y.1.2.1=L->∀i (hi:i<l.length),p<=i->4*F+Dr<dK l[i]):=by
 have hl:=h.len hb;unfold AJ;refine J (Bgv hb h (F:=F) hD) ?_;rintro y ⟨p,rfl,hp,h1,h2⟩;refine J (Q:=λy=>y.1.1=(p:Int)/\(y.1.2.1=L->∀i (hi:i<l.length),p<=i->4*F+Dr<dK l[i])) (C (λq=>?_) λq=>B ⟨rfl,λ_ i hi g=>?_⟩) λy hy=>B ⟨p,hy.1,hp,h1,hy.2⟩
 .have q:p<l.length:=by have:=l_ q;exact Int.ofNat_lt.1 this
  refine aC (Ac (Int.natCast_nonneg p) (Int.ofNat_lt.2 q)) ?_;have g:bA l (aA (p:Int)) (aY 0 0 0)=l[p]:=gD q;simp only[g];obtain⟨n,c1,c2,c3⟩:=Arx hb h (F:=F) hD q;refine aG c1 (B ⟨rfl,λe i hi g2=>?_⟩);have e:¬n=0:=λe0=>by rw[e0]at e;cases e
  have e:=mt c3.2 e
  have:=h2 p q (y_ _)
  rcases g0_ p i with g4|g4
  .have:=b0_.1 h.sort _ i q hi g4
   omega
  .obtain rfl:i=p:=ω;omega
 .have:=C_ q
  have:¬p<l.length:=λe=>this (Int.ofNat_lt.2 e)
  omega
theorem Bwa(hc:Ar b F Dr=H)(h0:0<=D){p:Nat}(hp:p<=l.length)(h1:∀i (hi:i<l.length),i<p->dK l[i]<4*F+Dr)(h2:∀i (hi:i<l.length),p<=i->4*F+Dr<dK l[i]):U (CX l (p:Int) [aY F Dr 0]) λy=>DutOK b D y.1.1/\y.1.1≠[]:=by
 have hl:=h.len hb;unfold CX Ac8;refine aC ?_ (B ⟨⟨λe he=>?_,?_⟩,?_⟩)
 .simp;omega
 .rcases n_.1 he with he|he
  .rcases n_.1 he with he|he
   .exact h.each e (e5_ he)
   .rw[B_.1 he];exact⟨hc,d9_ 0,h0⟩
  .exact h.each e (e6_ he)
 .have ht:∀a∈l.take p,dK a<4*F+Dr:=λa ha=>by
   obtain⟨i,hi,rfl⟩:=List.mem_take_iff_getElem.1 ha;exact h1 i ω ω
  have hd:∀a∈l.drop p,4*F+Dr<dK a:=λa ha=>by obtain⟨i,hi,rfl⟩:=List.mem_drop_iff_getElem.1 ha;exact h2 (p+i) ω ω
  show((l.take p++[aY F Dr 0])++l.drop p).Pairwise _;refine f7_.2 ⟨f7_.2 ⟨h.sort.take,List.pairwise_singleton ..,λa ha c hc=>?_⟩,h.sort.drop,λa ha c hc=>?_⟩
  .rw[B_.1 hc];exact ht a ha
  .rcases n_.1 ha with ha|ha
   .exact Int.lt_trans (ht a ha) (hd c hc)
   .rw[B_.1 ha];exact hd c hc
 .simp
end
def Aum(z:α)(l:List α):Po (aR (aA (l.length:Int)) z) l=l:=by unfold Po;simp
def Chn(c:Int×Int):(FY c).length<=64:=by
 have h:∀k i:Nat,((List.range' i k).flatMap (Mv c)).length<=2*k:=by
  intro k;induction k with
  |zero=>intro i;exact y_ _
  |succ k ih=>
   intro i;rw[e2_,a1_,g_]
   have:=ih (i+1)
   have:=Ae3 c i
   omega
 exact h 32 0
def Chq(h:e∈FY c):(0<=e.D0/\e.D0<32)/\(e.H0=1\/e.H0=2)/\Am c e.D0.toNat e.H0=H:=by obtain⟨f,h1,h2,h3,h4⟩:=mem_range.1 (b6_.2 ⟨e,h,rfl⟩);simp only[Ce]at h2 h3 h4;refine⟨ω,h3,?_⟩;rw[h2,j_];exact h4
def Bax(hb:b.small)(hcode:b.code=0)(h:e∈FY (BR c (AW b))):Ar b e.D0 e.H0=H:=by obtain⟨h1,h2,h3⟩:=Chq h;rw[HI,e_,PD hb hcode ω h2,f1_ h1.1]at h3;exact h3.2
section
variable{b:R}(hb:b.small)(hcode:b.code=0){car:Nat}(hcar:car<b.B0.length){x:Belief}(h:BelOK b car x)
include hb hcode hcar h
theorem Ak1{es:List aF}(he:∀e∈es,Ar b e.D0 e.H0=H)(hl:es.length<=1000)(z:Amf):U (Il (((),(),es,(es.length:Int),0,()),((x.D0,x.H0,x.G1,x.V0,x.I3,x.Z3,()),z,()))) λy=>∃du,y.2.1=(x.D0,x.H0,x.G1,du,x.I3,x.Z3,())/\DutOK b (Li b car).C1 du:=by
 have hd:=Ai2 hcode (c:=Li b car) (by unfold Li;rw[k_,i_ hcar];exact a6_ hcar);unfold Il;refine aX (λk y=>∃(du:List Duty) (i:Nat),y=(((),(),es,(es.length:Int),(i:Int),()),((x.D0,x.H0,x.G1,du,x.I3,x.Z3,()),z,()))/\i+k=es.length/\DutOK b (Li b car).C1 du) ?_ es.length ⟨x.V0,0,rfl,ω,h.dut⟩ ω;rintro k y ⟨du,i,rfl,hk,ho⟩;show U (Oy es (es.length:Int) (i:Int) x.D0 x.H0 x.G1 du x.I3 x.Z3 z.1 z.2.1 z.2.2.1 z.2.2.2.1 z.2.2.2.2.1 z.2.2.2.2.2.1) _;unfold Oy;refine C (λq=>?_) λ_=>B ⟨du,rfl,ho⟩;have hi:i<es.length:=by have:=l_ q;omega
 refine aC (Ac ω ω) ?_;have g:bA es (aA (i:Int)) (aV 0 0 0 0 L)=es[i]:=by simp only[j_,k_,i_ hi,Option.getD_some]
 simp only[g,Gx hi (show es.length<=AX by unfold AX;omega)];have hc:=he _ (a6_ hi);refine J (Bqu hb ho (F:=es[i].D0) (Gd hb hc).2) ?_;rintro y1 ⟨p,e1,hp,h1,h2⟩;refine C (λq=>?_) λ_=>B ⟨k-1,ω,du,i+1,rfl,ω,ho⟩;rw[e1];refine J (Bwa hb ho (Gd hb hc).2 hc hd.1 hp h1 (h2 (by simpa using q))) λy2 hy=>B ⟨k-1,ω,y2.1.1,i+1,rfl,ω,hy.1⟩
theorem Ael(u d:Int):U (MK b.C0 b.E0 b.I0 b.M0 b.J0 b.L0 b.N0 b.B0 (car:Int) x.D0 x.H0 x.G1 x.V0 x.I3 x.Z3 u d) λy=>Bdk b car y.2.1:=by
 have hl:=h.dut.len hb;unfold MK;refine aG (JC hb hcode hcar h) (aZ rfl (aC ?_ ?_))
 .simp;omega
 refine aG (FN hb hcode) (aG (EP (u,d) (AW b)) (aG (Yw (BR (u,d) (AW b))) ?_));simp only[Aum];refine J (Ak1 hb hcode hcar h (λe he=>Bax hb hcode he) ?_ _) ?_
 .have:=Chn (BR (u,d) (AW b))
  omega
 rintro⟨a,t,w⟩ ⟨du,e,ho⟩;change t=_ at e;subst e;refine Sat.bindC (λ_=>aU (B ⟨⟨x.D0,x.H0,x.G1,du,x.I3,(du.length:Int)==0⟩,rfl,⟨h.fl,h.dir,h.door,h.still,λq=>?_,ho⟩⟩)) λ_=>aU (B ⟨⟨x.D0,x.H0,x.G1,du,x.I3,L⟩,rfl,⟨h.fl,h.dir,h.door,h.still,λq=>(by cases q),ho⟩⟩);have q:(du.length:Int)=0:=by simpa using q
 exact(List.length_eq_zero_iff (l:=du)).1 ω
end
def Aow(f d r p:Int)(e u o:Nat)(cs:List Car)(x:Nat):U (PZ f d r p e u o cs x) λy=>0<=y.1.1/\y.1.1<=4:=by unfold PZ;refine C (λ_=>B τ) λ_=>C (λ_=>B τ) λ_=>C (λ_=>B τ) λ_=>C (λ_=>B τ) λ_=>B τ
def Ara(full:U (arF .sub .f64 b.L0 4589168020290535424) λ_=>True)(over:U (arF .sub .f64 b.N0 4589168020290535424) λ_=>True)(s:Int)(x:Nat):U (RB b.C0 b.E0 b.I0 b.M0 b.J0 b.L0 b.N0 b.B0 s x) λy=>0<=y.2.1.1/\y.2.1.1<=4:=by
 unfold RB;refine aG (AC b) (C (λ_=>B ⟨d9_ 0,show(0:Int)<=4 from by decide⟩) λ_=>J (Aow ..) λy2 h2=>?_);refine J (Q:=λy=>y.1.2.2.2.2.1=y2.1.1/\y.2.1=b.tup) (C (λ_=>B ⟨rfl,rfl⟩) λ_=>B ⟨rfl,rfl⟩) λy3 h3=>?_;have k:0<=y3.1.2.2.2.2.1/\y3.1.2.2.2.2.1<=4:=by rw[h3.1];exact h2
 refine C (λ_=>C (λq=>?_) λ_=>C (λq=>?_) λ_=>B k) λ_=>B k
 .have q:y3.2.2.1.1=3:=by simpa using q
  rw[h3.2];refine J full λ_ _=>C (λ_=>B ?_) λ_=>B k;show 0<=y3.2.2.1.1/\y3.2.2.1.1<=4;omega
 .have q:y3.2.2.1.1=4:=by simpa using q
  rw[h3.2];refine J over λ_ _=>C (λ_=>B ?_) λ_=>B k;show 0<=y3.2.2.1.1/\y3.2.2.1.1<=4;omega
def YZ{c:Bool}{x y r:α}(h:c=H)(h2:x=r):(bif c then x else y)=r:=by subst h;exact h2
def Akq(hcode:b.code=0){car:Int}(hc:0<=car/\car<(b.B0.length:Int)){k v:Int}(h:(k=4/\0<=v/\v<=4)\/((k=5\/k=6)/\0<=v/\v<=1)):Ay b (aS k 0 0 car v)=H:=by unfold Ay Wg inR;simp only[hcode];rcases h with⟨rfl,h⟩|⟨rfl|rfl,h⟩<;>simp<;>omega
def phA(m:Img)(i:Nat):Int:=m.G0.getD i 0
def flA(m:Img)(i:Nat):Bool:=m.O0.getD i L
def lvA(m:Img)(i:Nat):Bool:=m.K0.getD i L
def Ss(m:Img)(i:Nat):Bool:=(phA m i==0||phA m i==4)&&(!flA m i&&!lvA m i)
def Gw(m:Img)(i:Nat):Bool:=phA m i==0||(phA m i==1||phA m i==4)
section
variable{b:R}{m:Img}(hm:ImgOK b m)
include hm
theorem Aog(hi:i<b.B0.length):Mq m.G0 m.O0 m.K0 m.A0 (i:Int)=P ((H,()),()):=by unfold Mq;simp only[hm.lp,hm.lf,hm.ll,b_ (ω:(0:Int)<=(i:Int)),f_ (U_ (b.B0.length:Int)),Z,c_,b_ (ω:(i:Int)<(b.B0.length:Int)),a_]
theorem Amb(hi:i<b.B0.length):Mp m.G0 m.O0 m.K0 m.A0 (i:Int)=P ((Ss m i,()),()):=by have i1:inB (i:Int) m.G0.length=H:=Ac ω (by rw[hm.lp];omega);have i2:inB (i:Int) m.O0.length=H:=Ac ω (by rw[hm.lf];omega);have i3:inB (i:Int) m.K0.length=H:=Ac ω (by rw[hm.ll];omega);unfold Mp Ss phA flA lvA;refine Ae (a:=(((m.G0.getD i 0==0||m.G0.getD i 0==4)&&(!m.O0.getD i L&&!m.K0.getD i L),()),())) (Ae (Aog hm hi) ?_) rfl;simp only[i1,i2,i3,Z,j_];cases m.G0.getD i 0==0<;>cases m.G0.getD i 0==4<;>cases m.O0.getD i L<;>rfl
theorem WZ(hi:i<b.B0.length):HQ m.G0 m.O0 m.K0 m.A0 (i:Int)=P ((Gw m i,()),()):=by have i1:inB (i:Int) m.G0.length=H:=Ac ω (by rw[hm.lp];omega);unfold HQ Gw phA;refine Ae (Aog hm hi) ?_;simp only[i1,Z,c_,t_,j_];cases m.G0.getD i 0==0<;>cases m.G0.getD i 0==1<;>rfl
theorem Bki:∃fr:Bool,Du m.G0 m.O0 m.K0 m.A0=P ((fr,()),()):=by
 have hcc:=Ah hm.code;have hp:=hm.lp;have hl:=hm.ll;have h:U (Du m.G0 m.O0 m.K0 m.A0) λ_=>True:=by
  unfold Du Hb;refine J (Q:=λ_=>True) (aX (λk x=>∃i:Nat,x=(((),m.G0,(m.G0.length:Int),(i:Int),()),((m.G0,m.O0,m.K0,m.A0,()),()))/\i+k=m.G0.length) ?_ m.G0.length ⟨0,rfl,ω⟩ ω) λy _=>?_
  .rintro k x ⟨i,rfl,hk⟩;show U (Lb m.G0 (m.G0.length:Int) (i:Int) m.G0 m.O0 m.K0 m.A0) _;unfold Lb;refine C (λq=>?_) λ_=>B trivial;have hi:i<m.G0.length:=by have:=l_ q;omega
   refine aC (Ac ω ω) ?_;simp only[Gx hi (show m.G0.length<=AX by unfold AX;omega)];refine C (λ_=>B trivial) λ_=>C (λ_=>B trivial) λ_=>C (λ_=>B trivial) λ_=>?_;exact aC (Ac ω ω) (C (λ_=>B trivial) λ_=>B ⟨k-1,ω,i+1,rfl,ω⟩)
  .cases y with
   |inl _=>exact B trivial
   |inr _=>exact B trivial
 obtain⟨y,h,_⟩:=h;exact⟨y.1.1,h⟩
end
def NF(m:Img)(i:Nat)(calm fr:Bool)(kind:Int):List aI×Int:=
 bif kind==1&&phA m i==0 then(bif fr then([⟨4,0,0,i,1⟩],0)else([],261))
 else bif(kind==2&&phA m i==1)then([⟨4,0,0,i,0⟩],0)
 else bif(kind==3&&phA m i==2)then([⟨4,0,0,i,0⟩],0)
 else bif(kind==2&&(phA m i==4&&lvA m i))then([⟨6,0,0,i,0⟩],0)
 else bif(kind==4&&phA m i==2)then([⟨4,0,0,i,3⟩],0)
 else bif(kind==5&&phA m i==3)then(bif calm then([⟨4,0,0,i,2⟩],0)else([],262))
 else bif(kind==6&&phA m i==3)then(bif !flA m i then([⟨4,0,0,i,4⟩],0)else([],262))
 else bif(kind==7&&(phA m i==4&&!lvA m i))then(bif fr then([⟨6,0,0,i,1⟩],0)else([],261))
 else bif(kind==8&&flA m i)then([⟨5,0,0,i,0⟩],0)else([],260)
section
variable{b:R}{m:Img}(hm:ImgOK b m){i:Nat}(hi:i<b.B0.length)
include hm hi
theorem Blj(ok:Bool)(e:Int)(l:List aI):Ed ok e l=P (((bif ok then(l,(0:Int))else([],e)).1,(bif ok then(l,(0:Int))else([],e)).2,()),()):=by unfold Ed;cases ok<;>rfl
theorem Bv8(calm:Bool)(p:Int):BA m.G0 m.O0 m.K0 m.A0 (i:Int) calm p=P ((phA m i==p,()),()):=by unfold BA;rw[Ac ω (by rw[hm.lp];omega),Z];rfl
theorem Bek(hf:Du m.G0 m.O0 m.K0 m.A0=P ((fr,()),()))(calm:Bool)(kind:Int):Jj m.G0 m.O0 m.K0 m.A0 (i:Int) calm kind=P (((NF m i calm fr kind).1,(NF m i calm fr kind).2,()),()):=by
 have ifl:inB (i:Int) m.O0.length=H:=Ac ω (by rw[hm.lf];omega);have it:=Bv8 hm hi calm;have wi:=Blj hm hi;unfold Jj NF;rw[Ac ω (show(i:Int)<(m.K0.length:Int)by rw[hm.ll];omega),Z]
 let T:=((m.G0,m.O0,m.K0,m.A0,(i:Int),calm,()),(m.G0,m.O0,m.K0,m.A0,()),())
 have st:∀(k p:Int),(bif kind==k then(BA m.G0 m.O0 m.K0 m.A0 (i:Int) calm p).bind λy1=>P ((kind,(),(),lvA m i,y1.1.1,()),T)else P ((kind,(),(),lvA m i,L,()),T))=P ((kind,(),(),lvA m i,(kind==k&&phA m i==p),()),T):=λk p=>by
  cases kind==k with
  |true=>exact Ae (it p) rfl
  |false=>rfl
 refine Ae (st 1 0) ?_;show(bif(kind==1&&phA m i==0)then _ else _)=_;cases kind==1&&phA m i==0 with
 |true=>refine Ae hf (Ae (a:=(([aS 4 0 0 i 1],()),())) rfl (Ae (wi fr 261 [⟨4,0,0,i,1⟩]) ?_));cases fr<;>rfl
 |false=>
 refine Ae (st 2 1) ?_;show(bif(kind==2&&phA m i==1)then _ else _)=_;cases h2:kind==2&&phA m i==1 with
 |true=>rfl
 |false=>
 refine Ae (st 3 2) ?_;show(bif(kind==3&&phA m i==2)then _ else _)=_;cases kind==3&&phA m i==2 with
 |true=>rfl
 |false=>
 refine Ae (a:=((kind,(),(),lvA m i,(kind==2&&(phA m i==4&&lvA m i)),()),T)) ?_ ?_
 .show(bif kind==2 then(BA m.G0 m.O0 m.K0 m.A0 (i:Int) calm 4).bind _ else _)=_;cases kind==2 with
  |false=>rfl
  |true=>refine Ae (it 4) ?_;show(bif phA m i==4 then _ else _)=_;cases phA m i==4<;>rfl
 show(bif(kind==2&&(phA m i==4&&lvA m i))then _ else _)=_;cases kind==2&&(phA m i==4&&lvA m i)with
 |true=>rfl
 |false=>
 refine Ae (st 4 2) ?_;show(bif(kind==4&&phA m i==2)then _ else _)=_;cases kind==4&&phA m i==2 with
 |true=>rfl
 |false=>
 refine Ae (st 5 3) ?_;show(bif(kind==5&&phA m i==3)then _ else _)=_;cases kind==5&&phA m i==3 with
 |true=>rw[Z];refine Ae (a:=(([aS 4 0 0 i 2],()),())) rfl ?_;refine Ae (wi calm 262 [⟨4,0,0,i,2⟩]) ?_;cases calm<;>rfl
 |false=>
 refine Ae (st 6 3) ?_;show(bif(kind==6&&phA m i==3)then _ else _)=_;cases kind==6&&phA m i==3 with
 |true=>show(bif inB (i:Int) m.O0.length then _ else _)=_;rw[ifl,Z];refine Ae (a:=(([aS 4 0 0 i 4],()),())) rfl ?_;refine Ae (wi (!flA m i) 262 [⟨4,0,0,i,4⟩]) ?_;cases flA m i<;>rfl
 |false=>
 refine Ae (a:=((kind,(),(),(kind==7&&(phA m i==4&&!lvA m i)),()),T)) ?_ ?_
 .show(bif kind==7 then(BA m.G0 m.O0 m.K0 m.A0 (i:Int) calm 4).bind _ else _)=_;cases kind==7 with
  |false=>rfl
  |true=>refine Ae (it 4) ?_;show(bif phA m i==4 then _ else _)=_;cases phA m i==4<;>rfl
 show(bif(kind==7&&(phA m i==4&&!lvA m i))then _ else _)=_;cases kind==7&&(phA m i==4&&!lvA m i)with
 |true=>refine Ae hf (Ae (wi fr 261 [⟨6,0,0,i,1⟩]) ?_);cases fr<;>rfl
 |false=>
 refine Ae (a:=(((),(kind==8&&flA m i),()),(T.1,()))) ?_ ?_
 .show(bif kind==8 then(bif inB (i:Int) m.O0.length then _ else _)else _)=_;cases kind==8 with
  |false=>rfl
  |true=>rw[ifl];rfl
 show(bif(kind==8&&flA m i)then _ else _)=_;cases kind==8&&flA m i<;>rfl
end
def Pm(m:Img)(car:Int):Bool:=m.A0.any λe=>e.R0==car
def IA(m:Img)(i:Nat):Bool:=phA m i==4&&lvA m i
def Ps(m:Img)(calm:List Bool)(i:Nat):Bool:=calm.getD i L&&((phA m i==1||IA m i)&&!Pm m i)
def Pj(m:Img)(calm:List Bool)(i:Nat):List aI:=bif Ps m calm i then [⟨4,0,0,i,2⟩]++(bif IA m i then [⟨6,0,0,i,0⟩]else [])++(bif flA m i then [⟨5,0,0,i,0⟩]else [])else []
def Es(m:Img)(calm:List Bool):Nat->List aI
 |0=>[]
 |i+1=>Es m calm i++Pj m calm i
def Baq(m:Img)(calm:List Bool)(i:Nat):(Pj m calm i).length<=3:=by unfold Pj;cases Ps m calm i<;>cases IA m i<;>cases flA m i<;>simp
def Vk(m:Img)(calm:List Bool):∀i,(Es m calm i).length<=3*i
 |0=>y_ 0
 |i+1=>by
  have:=Vk m calm i
  have:=Baq m calm i
  show(Es m calm i++Pj m calm i).length<=_;rw[g_];omega
section
variable{b:R}{m:Img}(hm:ImgOK b m)(hb:b.small)(he:m.A0.length<=100000)
include hm he
omit hm in
theorem Aqh(car:Int):FL m.G0 m.O0 m.K0 m.A0 car=P ((Pm m car,()),()):=by
 have h:U (FL m.G0 m.O0 m.K0 m.A0 car) λy=>y=((Pm m car,()),()):=by
  unfold FL JX;refine J (Q:=λy=>match y with|.inl _=>Pm m car=L|.inr z=>z=((H,()),())/\Pm m car=H) (aX (λk x=>∃i:Nat,x=((car,m.A0,(m.A0.length:Int),(i:Int),()),())/\i+k=m.A0.length/\∀e∈m.A0.take i,(e.R0==car)=L) ?_ m.A0.length ⟨0,rfl,ω,λe h=>(by simp at h)⟩ ω) λy hy=>?_
  .rintro k x ⟨i,rfl,hk,hn⟩;show U (Nv car m.A0 (m.A0.length:Int) (i:Int)) _;unfold Nv;refine C (λq=>?_) λq=>B ?_
   .have hi:i<m.A0.length:=by have:=l_ q;omega
    refine aC (Ac ω ω) (C (λq2=>B ⟨rfl,?_⟩) λq2=>B ⟨k-1,ω,i+1,?_,ω,λe h=>?_⟩)
    .exact List.any_eq_true.2 ⟨_,AL _ hi,q2⟩
    .rw[show O.wrap ((i:Int)+1)=((i+1:Nat):Int)by rw[Aa ω ω];omega]
    .rw[List.take_succ,i_ hi]at h;rcases n_.1 h with h|h
     .exact hn e h
     .rw[j_,k_,i_ hi]at q2
      have:e=m.A0[i]:=by simpa using h
      rw[this];exact q2
   .have:=C_ q
    rw[a8_ ω]at hn;show Pm m car=L;exact List.any_eq_false.2 λe h=>by rw[hn e h];decide
  .cases y with
   |inl _=>rw[show Pm m car=L from hy];exact B rfl
   |inr z=>obtain⟨h1,h2⟩:=hy;subst h1;rw[h2];exact B rfl
 obtain⟨y,h,rfl⟩:=h;exact h
include hb in
theorem Aie{kind:Int}(hk:0<=kind/\kind<=8)(hi:i<b.B0.length)(hcalm:calm.length=b.B0.length)(hf:Du m.G0 m.O0 m.K0 m.A0=P ((fr,()),())):Mo b.C0 b.E0 b.I0 b.M0 b.J0 b.L0 b.N0 b.B0 m.G0 m.O0 m.K0 m.A0 kind (i:Int) calm=P (((bif kind==0 then([],(0:Int))else NF m i (calm.getD i L) fr kind).1,(bif kind==0 then([],(0:Int))else NF m i (calm.getD i L) fr kind).2,()),()):=by
 have hcc:=Ah hm.code;unfold Mo;refine Ae (Dv hb m (c1_ (show m.G0.length<=8 by rw[hm.lp];omega) τ) (c1_ he τ)) ?_;show(bif !m.ok b then _ else _)=_;rw[Img.ok_iff.2 hm,hcalm,O_,f_ (ω:¬kind<0),f_ (ω:¬8<kind),f_ (ω:¬(i:Int)<0),f_ (ω:¬(b.B0.length:Int)<=(i:Int))];simp only[t_,c_];cases kind==0 with
 |true=>rfl
 |false=>rw[c_,Ac ω ω,Z];exact Ae (Bek hm hi hf _ kind) rfl
include hb in
theorem Alc(hcalm:calm.length=b.B0.length):Nn b.C0 b.E0 b.I0 b.M0 b.J0 b.L0 b.N0 b.B0 m.G0 m.O0 m.K0 m.A0 calm=P ((Es m calm b.B0.length,()),()):=by
 have hcc:=Ah hm.code;have lp:=hm.lp;have lf:=hm.lf;have ll:=hm.ll;have hL:U (KX ((calm,(),([]:List aI),m.G0,(m.G0.length:Int),(0:Int),()),(m.tup,()))) λy=>y=((Es m calm b.B0.length,()),()):=by
  unfold KX;refine aX (λk x=>∃(i:Nat),x=((calm,(),Es m calm i,m.G0,(m.G0.length:Int),(i:Int),()),(m.tup,()))/\i+k=m.G0.length) ?_ m.G0.length ⟨0,rfl,ω⟩ ω;rintro k x ⟨i,rfl,hk⟩;have hl:=Vk m calm i;show U (QW calm (Es m calm i) m.G0 (m.G0.length:Int) (i:Int) m.G0 m.O0 m.K0 m.A0) _;unfold QW;refine C (λq=>?_) λq=>B (by have q:=C_ q;show((Es m calm i,()),())=((Es m calm b.B0.length,()),());rw[show b.B0.length=i by omega]);have hi:i<m.G0.length:=by have:=l_ q;omega
  have w:=Gx hi (show m.G0.length<=AX by unfold AX;omega);have i1:inB (i:Int) m.G0.length=H:=Ac ω ω;have i2:inB (i:Int) m.K0.length=H:=Ac ω ω;have i3:inB (i:Int) m.O0.length=H:=Ac ω ω;have i4:inB (i:Int) calm.length=H:=Ac ω ω;refine aC i1 ?_;refine aG (b:=((calm,(),Es m calm i,(i:Int),phA m i,IA m i,m.G0,(m.G0.length:Int),(i:Int),()),(m.tup,()))) ?_ ?_
  .show(bif phA m i==4 then _ else _)=_;unfold IA;cases phA m i==4 with
   |true=>rw[Z,i2];rfl
   |false=>rfl
  refine aG (b:=((calm,(),Es m calm i,(i:Int),IA m i,m.G0,(m.G0.length:Int),(i:Int),!Ps m calm i,()),(m.tup,()))) ?_ ?_
  .have hb2:=Aqh (m:=m) he (i:Int);show(bif inB (i:Int) calm.length then _ else _)=_;rw[i4,Z];unfold Ps;show(bif !calm.getD i L then _ else bif phA m i !=1 then bif !IA m i then _ else(FL m.G0 m.O0 m.K0 m.A0 (i:Int)).bind _ else(FL m.G0 m.O0 m.K0 m.A0 (i:Int)).bind _)=_;cases calm.getD i L with
   |false=>rfl
   |true=>
    rw[t_,c_,H_];unfold bne;cases phA m i==1 with
    |true=>rw[t_,c_];exact Ae hb2 (by show P ((calm,(),Es m calm i,(i:Int),IA m i,m.G0,(m.G0.length:Int),(i:Int),Pm m (i:Int),()),_)=_;rw[Bool.true_or,H_,Bool.not_not])
    |false=>
     rw[d8_,Z];cases IA m i with
     |false=>rfl
     |true=>exact Ae hb2 (by show P ((calm,(),Es m calm i,(i:Int),H,m.G0,(m.G0.length:Int),(i:Int),Pm m (i:Int),()),_)=_;rw[Bool.or_true,H_,Bool.not_not])
  refine C (λq2=>B ⟨k-1,ω,i+1,?_,ω⟩) λq2=>?_
  .simp only[w];have q2:Ps m calm i=L:=by simpa using q2
   show _=((calm,(),Es m calm i++Pj m calm i,m.G0,(m.G0.length:Int),((i+1:Nat):Int),()),(m.tup,()));rw[show Pj m calm i=[]by unfold Pj;rw[q2];rfl,Y_]
  .have q2:Ps m calm i=H:=by simpa using q2
   refine aC (f5_ (by simp only[E_,d5_];omega)) ?_;refine aG (b:=((calm,(),Es m calm i++[⟨4,0,0,i,2⟩]++(bif IA m i then [⟨6,0,0,i,0⟩]else []),(i:Int),m.G0,(m.G0.length:Int),(i:Int),()),(m.tup,()))) ?_ ?_
   .show(bif IA m i then _ else _)=_;cases IA m i with
    |true=>rw[Z];refine YZ (f5_ (by simp only[g_,E_,d5_];omega)) rfl
    |false=>rw[c_,c_,Y_]
   refine aC i3 ?_;have e:Es m calm (i+1)=Es m calm i++[⟨4,0,0,i,2⟩]++(bif IA m i then [⟨6,0,0,i,0⟩]else [])++(bif flA m i then [⟨5,0,0,i,0⟩]else []):=by show Es m calm i++Pj m calm i=_;unfold Pj;rw[q2,Z];simp only[M_]
   refine C (λq3=>?_) λq3=>B ⟨k-1,ω,i+1,?_,ω⟩
   .have q3:flA m i=H:=q3;rw[q3,Z]at e;refine aC (f5_ (by have:(bif IA m i then [(⟨6,0,0,i,0⟩:aI)]else []).length<=1:=(by cases IA m i<;>simp);simp only[g_,E_,d5_];omega)) (B ⟨k-1,ω,i+1,?_,ω⟩);simp only[w];rw[e]
   .have q3:flA m i=L:=q3;rw[q3,c_,Y_]at e;simp only[w];rw[e]
 obtain⟨y,hy,rfl⟩:=hL;unfold Nn;refine Ae (Dv hb m (c1_ (show m.G0.length<=8 by rw[hm.lp];omega) τ) (c1_ he τ)) ?_;show(bif !m.ok b then _ else _)=_;rw[Img.ok_iff.2 hm,hcalm,O_,t_,c_,c_];exact Ae hy rfl
end
def WA(x:Int):0<=aB.wrap (stk x 255 (aO (aJ (IntKind.bits .u32) x&&&aJ (IntKind.bits .u32) 255)))/\aB.wrap (stk x 255 (aO (aJ (IntKind.bits .u32) x&&&aJ (IntKind.bits .u32) 255)))<256:=by
 rw[Yq];unfold vb;have h:(bv x&&&bv 255).toNat<256:=by rw[bC];exact g1_ bH (show(bv 255).toNat<256 by decide)
 omega
def Buv(n:Int):0<=O.wrap (I aK n)/\O.wrap (I aK n)<=255:=by
 have:=Ad7 n
 rw[Aa ω ω];omega
def UG{x:Int}(h:0<=x/\x<4294967296):U (Dz x) λy=>0<=y.1.1/\y.1.1<=255:=by
 unfold Dz;refine aC (Ac ?_ (bG ?_ (Int.ofNat_le.2 (D_ (n:=256) rfl)))) ?_
 .rw[P_ _ τ];exact Int.ediv_nonneg h.1 τ
 .rw[P_ _ τ];exact Int.ediv_lt_of_lt_mul τ h.2
 refine aC (Ac (WA _).1 (bG (WA _).2 (Int.ofNat_le.2 (D_ (n:=256) rfl)))) ?_;refine aC (Ac (WA _).1 (bG (WA _).2 (Int.ofNat_le.2 (D_ (n:=256) rfl)))) ?_;exact aC (Ac (WA _).1 (bG (WA _).2 (Int.ofNat_le.2 (D_ (n:=256) rfl)))) (B (Buv _))
def Zy(fl:Int){set:Int}(h:0<=set/\set<4294967296)(a c d e:Bool):U (JM fl set a c d e) λy=>y.2.1.2.2.1=2->e=H:=by unfold JM Ow;have i:SatT (Dz set):=⟨(UG h).any⟩;refine J (Q:=λ_=>True) (J (Ap0 set) λ_ _=>J (Q:=λ_=>True) ?_ λ_ _=>C (λ_=>B trivial) λ_=>B trivial) λ_ _=>J (Buk a c) λ_ _=>J (Q:=λy=>y.1.1=2->e=H) (by cases d<;>cases e<;>exact⟨_,rfl,τ⟩) λ_ h=>B h;refine J (isFloors_ti fl).out λ_ _=>C (λ_=>J (UG h) λ_ _=>C (λ_=>B trivial) λ_=>B trivial) λ_=>B trivial
def orL(x y:Int):Int:=V.wrap (stk x y (aO ((aJ (IntKind.bits V) x)|||(aJ (IntKind.bits V) y))))
def leV(s:ByteArray):Nat->Int
 |0=>0
 |i+1=>orL (leV s i) (I V (I V (BG s i)*((2:Int)^(aE (aA (8*(i:Int))) (IntKind.bits V)))))
def NJ(b:R)(hk:k<=8)(hs:k<=s.size):BO (k:Int) s b.C0 b.E0 b.I0 b.M0 b.J0 b.L0 b.N0 b.B0=P ((leV s k,()),((s.extract k s.size,b.C0,b.E0,b.I0,b.M0,b.J0,b.L0,b.N0,b.B0,()),())):=by
 have h:U (DD (((),(k:Int),(0:Int),(k:Int),(0:Int),()),((s,b.C0,b.E0,b.I0,b.M0,b.J0,b.L0,b.N0,b.B0,()),()))) λy=>y=(((),(k:Int),leV s k,()),((s,b.C0,b.E0,b.I0,b.M0,b.J0,b.L0,b.N0,b.B0,()),())):=by
  unfold DD;refine aX (λm x=>∃i:Nat,x=(((),(k:Int),leV s i,(k:Int),(i:Int),()),((s,b.C0,b.E0,b.I0,b.M0,b.J0,b.L0,b.N0,b.B0,()),()))/\i+m=k) ?_ k ⟨0,rfl,ω⟩ ω;rintro m x ⟨i,rfl,hm⟩;show U (HH (k:Int) (leV s i) (k:Int) (i:Int) s b.C0 b.E0 b.I0 b.M0 b.J0 b.L0 b.N0 b.B0) _;unfold HH;refine C (λq=>?_) λq=>B ?_
  .have q:=l_ q;have hi:i<s.size:=ω;refine aC (Ac ω ω) ?_;have w8:O.wrap (8*(i:Int))=8*(i:Int):=Aa ω ω;have w1:O.wrap ((i:Int)+1)=((i+1:Nat):Int):=by rw[Aa ω ω];omega
   simp only[w8,w1];exact aC (b_ ω) (B ⟨m-1,ω,i+1,rfl,ω⟩)
  .have q:=C_ q;obtain rfl:i=k:=ω;rfl
 obtain⟨y,h1,rfl⟩:=h;unfold BO;rw[h1];simp only[a_];rw[b_ (ω:(0:Int)<=(k:Int)),b_ (ω:(k:Int)<=(s.size:Int))];rfl
def NM{α:Type}(d:α)(g:Nat->α->α)(i:Nat)(l:List α):List α:=l.set i (g i (l.getD i d))
def Ajh{α:Type}(d:α)(g:Nat->α->α):∀(m i:Nat) (l:List α),i+m=l.length->AV (NM d g) m i l=l.take i++(List.range' i m).map (λj=>g j (l.getD j d))
 |0,i,l,h=>by rw[show i=l.length by omega,List.take_length];simp[AV]
 |m+1,i,l,h=>by
  have hi:i<l.length:=ω;unfold AV;rw[Ajh d g m (i+1) _ (by rw[NM,z_];omega)];have e1:(NM d g i l).take (i+1)=l.take i++[g i (l.getD i d)]:=by unfold NM;rw[List.take_add_one,List.take_set_of_le ω,List.getElem?_set_self ω];rfl
  rw[e1,e2_,b8_,M_,e0_];congr 2;apply List.map_congr_left;intro j hj;rw[List.mem_range']at hj;obtain⟨k,hk,rfl⟩:=hj;unfold NM;rw[k_,List.getElem?_set_ne ω,<-k_]
def Tr(d:α)(g:Nat->α->α)(f:Nat->α)(n:Nat):AV (NM d g) n 0 ((aT n).map f)=(aT n).map (λj=>g j (f j)):=by rw[Ajh d g n 0 _ σ,List.take_zero,a4_,<-List.range_eq_range'];apply List.map_congr_left;intro j hj;rw[List.mem_range]at hj;simp[k_,hj]
def By{l:List α}(d x:α)(h:i<l.length):(l.set i x).getD i d=x:=by rw[k_,List.getElem?_set_self h];rfl
def g15(fl t i:Nat)(c:Car):Car:=⟨c.C1,c.C3,c.H3,c.J2,((1+t%3:Nat):Int),((1+t/3%3:Nat):Int),((1+t/9%3:Nat):Int),((1+t/9%3+t/27%5:Nat):Int),(((i+t)%fl:Nat):Int)⟩
def g18(t:Nat)(_:Nat)(c:Car):Car:={ c with C1:=((1+t%16:Nat):Int) }
def g27(n1 n2:Nat)(_:Nat)(c:Car):Car:={ c with H3:=((1+n2%4:Nat):Int),J2:=((n1%5:Nat):Int) }
def FI(fl ca t:Nat):R:={ AH fl ca with M0:=((1+t%7:Nat):Int),B0:=(aT ca).map λi=>g15 fl t i (GM fl i) }
def Vn(fl ca t:Nat):R:={ FI fl ca t with B0:=(aT ca).map λi=>g18 t i (g15 fl t i (GM fl i)) }
def Gr(fl ca n1 n2:Nat):R:={ FI fl ca n1 with E0:=((1+n2%3:Nat):Int),I0:=((18*ca+24+6*(n2/3):Nat):Int),B0:=(aT ca).map λi=>g27 n1 n2 i (g18 n1 i (g15 fl n1 i (GM fl i))) }
def Ap1(h:0<=n)(h':n<256):aK.wrap n=n:=by simp only[I,IntKind.signed,IntKind.bits];simp;omega
def UZ(a b:Nat):aL (a:Int) (b:Int)=((a%b:Nat):Int):=by rw[b4_ ω];norm_cast
def Bha(a b:Nat):aP (a:Int) (b:Int)=((a/b:Nat):Int):=by rw[Int.tdiv_eq_ediv_of_nonneg ω];norm_cast
def PL(k:Nat)(ht:t<100000):O.wrap ((1:Int)+O.wrap (aL (t:Int) (k:Int)))=((1+t%k:Nat):Int):=by
 have:t%k<=t:=Nat.mod_le _ _
 rw[UZ];generalize t%k=q at this|-;rw[Aa (n:=(q:Int)) ω ω,Aa ω ω];norm_cast
def Zn(k:Nat)(ht:t<256):aK.wrap (aP (t:Int) (k:Int))=((t/k:Nat):Int):=by
 have:t/k<=t:=Nat.div_le_self _ _
 generalize hq:t/k=q at this;rw[Bha,hq,Ap1 ω ω]
def At1{fl ca:Nat}(h1:1<=fl)(hf:fl<=100)(h2:ca<=8)(ht:t<256):
  LO (((t:Int),(),(),(0:Int),()),(Bldg.none.tup,(AH fl ca).tup,()))=P (((t:Int),(),(),()),(Bldg.none.tup,({ AH fl ca with B0:=(FI fl ca t).B0 }:R).tup,())):=by
 have hl:(AH fl ca).B0.length=ca:=by simp[AH]
 have h:=Cb (step:=λx=>letI a:=x.2.2.1.2.2;letI b:=x.2.1.2.2;letI c:=b.2.2;letI d:=a.2.2;He x.1.1 x.1.2.2.2.1 x.2.1.1 x.2.1.2.1 b.1 b.2.1 c.1 c.2.1 c.2.2.1 c.2.2.2.1 x.2.2.1.1 x.2.2.1.2.1 a.1 a.2.1 d.1 d.2.1 d.2.2.1 d.2.2.2.1) ca
  (λi l=>(((t:Int),(),(),(i:Int),()),(Bldg.none.tup,({ AH fl ca with B0:=l }:R).tup,()))) (NM BL (g15 fl t)) (λ_ l=>l.length=ca) (λl=>(((t:Int),(),(),()),(Bldg.none.tup,({ AH fl ca with B0:=l }:R).tup,())))
  (λi l hi hll=>by
   refine⟨?_,by rw[NM,z_,hll]⟩;show He (t:Int) (i:Int) Bldg.none.C0 Bldg.none.E0 Bldg.none.I0 Bldg.none.M0 Bldg.none.J0 Bldg.none.L0 Bldg.none.N0 Bldg.none.B0 (AH fl ca).C0 (AH fl ca).E0 (AH fl ca).I0 (AH fl ca).M0 (AH fl ca).J0 (AH fl ca).L0 (AH fl ca).N0 l=_;unfold He;have hil:i<l.length:=ω;have hz:((AH fl ca).C0 !=0)=H:=by show((fl:Int) !=0)=H;simp;omega
   have w:O.wrap ((i:Int)+1)=((i+1:Nat):Int):=by rw[Aa ω ω];omega
   have e1:O.wrap ((1:Int)+O.wrap (aL (t:Int) 3))=((1+t%3:Nat):Int):=PL 3 ω;have e2:O.wrap ((1:Int)+O.wrap (aL (I aK (aP (t:Int) 3)) 3))=((1+t/3%3:Nat):Int):=by rw[show aK.wrap (aP (t:Int) 3)=((t/3:Nat):Int)from Zn 3 ht];exact PL 3 ω
   have e3:O.wrap ((1:Int)+O.wrap (aL (I aK (aP (t:Int) 9)) 3))=((1+t/9%3:Nat):Int):=by rw[show aK.wrap (aP (t:Int) 9)=((t/9:Nat):Int)from Zn 9 ht];exact PL 3 ω
   have e4:O.wrap (((1+t/9%3:Nat):Int)+O.wrap (aL (I aK (aP (t:Int) 27)) 5))=((1+t/9%3+t/27%5:Nat):Int):=by rw[show aK.wrap (aP (t:Int) 27)=((t/27:Nat):Int)from Zn 27 ht,show aL ((t/27:Nat):Int) 5=((t/27%5:Nat):Int)from UZ _ 5,Aa (n:=((t/27%5:Nat):Int)) ω ω,Aa ω ω];norm_cast
   have e5:aL (I O ((i:Int)+O.wrap (t:Int))) (AH fl ca).C0=(((i+t)%fl:Nat):Int):=by show aL _ (fl:Int)=_;rw[Aa (n:=(t:Int)) ω ω,Aa ω ω];exact UZ (i+t) fl
   rw[show Car.mk 0 0 0 0 0 0 0 0 0=BL from rfl];simp only[b_ (ω:(i:Int)<(l.length:Int)),Ac (ω:(0:Int)<=(i:Int)) (ω:(i:Int)<(l.length:Int)),Z,j_,hz,w,By BL _ hil,h2_,e1,e2,e3,e4,e5];unfold NM g15;rfl)
  (λl hll=>by show He (t:Int) (ca:Int) Bldg.none.C0 Bldg.none.E0 Bldg.none.I0 Bldg.none.M0 Bldg.none.J0 Bldg.none.L0 Bldg.none.N0 Bldg.none.B0 (AH fl ca).C0 (AH fl ca).E0 (AH fl ca).I0 (AH fl ca).M0 (AH fl ca).J0 (AH fl ca).L0 (AH fl ca).N0 l=_;unfold He;rw[hll,f_ (U_ (ca:Int))];rfl)
  ca 0 (AH fl ca).B0 ω hl
 have h2:=Aw h.1 ω;rw[show(AH fl ca).B0=(aT ca).map (GM fl)from rfl,Tr]at h2;exact h2
def At2{fl ca:Nat}(_hf:fl<=100)(h2:ca<=8)(ht:t<256):
  LQ (((t:Int),(),(),(0:Int),()),(Bldg.none.tup,(FI fl ca t).tup,()))=P (((),(),()),(Bldg.none.tup,(Vn fl ca t).tup,())):=by
 have hl:(FI fl ca t).B0.length=ca:=by simp[FI]
 have h:=Cb (step:=λx=>letI a:=x.2.2.1.2.2;letI b:=x.2.1.2.2;letI c:=b.2.2;letI d:=a.2.2;Hf x.1.1 x.1.2.2.2.1 x.2.1.1 x.2.1.2.1 b.1 b.2.1 c.1 c.2.1 c.2.2.1 c.2.2.2.1 x.2.2.1.1 x.2.2.1.2.1 a.1 a.2.1 d.1 d.2.1 d.2.2.1 d.2.2.2.1) ca
  (λi l=>(((t:Int),(),(),(i:Int),()),(Bldg.none.tup,({ FI fl ca t with B0:=l }:R).tup,()))) (NM BL (g18 t)) (λ_ l=>l.length=ca) (λl=>(((),(),()),(Bldg.none.tup,({ FI fl ca t with B0:=l }:R).tup,())))
  (λi l hi hll=>by
   refine⟨?_,by rw[NM,z_,hll]⟩;show Hf (t:Int) (i:Int) Bldg.none.C0 Bldg.none.E0 Bldg.none.I0 Bldg.none.M0 Bldg.none.J0 Bldg.none.L0 Bldg.none.N0 Bldg.none.B0 (FI fl ca t).C0 (FI fl ca t).E0 (FI fl ca t).I0 (FI fl ca t).M0 (FI fl ca t).J0 (FI fl ca t).L0 (FI fl ca t).N0 l=_;unfold Hf;have w:O.wrap ((i:Int)+1)=((i+1:Nat):Int):=by rw[Aa ω ω];omega
   have e1:O.wrap ((1:Int)+O.wrap (aL (t:Int) 16))=((1+t%16:Nat):Int):=PL 16 ω;rw[show Car.mk 0 0 0 0 0 0 0 0 0=BL from rfl];simp only[b_ (ω:(i:Int)<(l.length:Int)),Ac (ω:(0:Int)<=(i:Int)) (ω:(i:Int)<(l.length:Int)),Z,j_,w,e1];unfold NM g18;rfl)
  (λl hll=>by show Hf (t:Int) (ca:Int) Bldg.none.C0 Bldg.none.E0 Bldg.none.I0 Bldg.none.M0 Bldg.none.J0 Bldg.none.L0 Bldg.none.N0 Bldg.none.B0 (FI fl ca t).C0 (FI fl ca t).E0 (FI fl ca t).I0 (FI fl ca t).M0 (FI fl ca t).J0 (FI fl ca t).L0 (FI fl ca t).N0 l=_;unfold Hf;rw[hll,f_ (U_ (ca:Int))];rfl)
  ca 0 (FI fl ca t).B0 ω hl
 have h2:=Aw h.1 ω;rw[show(FI fl ca t).B0=(aT ca).map (λi=>g15 fl t i (GM fl i))from rfl,Tr]at h2;exact h2
def Hy(fl ca n1 n2:Nat):R:={ Gr fl ca n1 n2 with B0:=(Vn fl ca n1).B0 }
def At3{fl ca n0 n1 n2:Nat}(h2:ca<=8)(_h3:n1<256)(h4:n2<256) :
  Jb (((),(),(),(0:Int),()),(((n0:Int),(n1:Int),(n2:Int),()),Bldg.none.tup,(Hy fl ca n1 n2).tup,()))=P (((),(),()),(Bldg.none.tup,(Gr fl ca n1 n2).tup,())):=by
 have hl:(Hy fl ca n1 n2).B0.length=ca:=by simp[Hy,Vn]
 have h:=Cb (step:=λx=>letI a:=x.2.2;letI b:=a.2.1.2.2;letI c:=a.1.2.2;letI d:=c.2.2;letI e:=b.2.2;Hg x.1.2.2.2.1 x.2.1.1 x.2.1.2.1 x.2.1.2.2.1 a.1.1 a.1.2.1 c.1 c.2.1 d.1 d.2.1 d.2.2.1 d.2.2.2.1 a.2.1.1 a.2.1.2.1 b.1 b.2.1 e.1 e.2.1 e.2.2.1 e.2.2.2.1) ca
  (λi l=>(((),(),(),(i:Int),()),(((n0:Int),(n1:Int),(n2:Int),()),Bldg.none.tup,({ Hy fl ca n1 n2 with B0:=l }:R).tup,()))) (NM BL (g27 n1 n2)) (λ_ l=>l.length=ca) (λl=>(((),(),()),(Bldg.none.tup,({ Hy fl ca n1 n2 with B0:=l }:R).tup,())))
  (λi l hi hll=>by
   refine⟨?_,by rw[NM,z_,hll]⟩;show Hg (i:Int) (n0:Int) (n1:Int) (n2:Int) Bldg.none.C0 Bldg.none.E0 Bldg.none.I0 Bldg.none.M0 Bldg.none.J0 Bldg.none.L0 Bldg.none.N0 Bldg.none.B0 (Hy fl ca n1 n2).C0 (Hy fl ca n1 n2).E0 (Hy fl ca n1 n2).I0 (Hy fl ca n1 n2).M0 (Hy fl ca n1 n2).J0 (Hy fl ca n1 n2).L0 (Hy fl ca n1 n2).N0 l=_;unfold Hg;have hil:i<l.length:=ω;have w:O.wrap ((i:Int)+1)=((i+1:Nat):Int):=by rw[Aa ω ω];omega
   have e1:O.wrap ((1:Int)+O.wrap (aL (n2:Int) 4))=((1+n2%4:Nat):Int):=PL 4 ω;have e2:O.wrap (aL (n1:Int) 5)=((n1%5:Nat):Int):=by rw[show aL (n1:Int) 5=((n1%5:Nat):Int)from UZ n1 5,Aa ω ω]
   rw[show Car.mk 0 0 0 0 0 0 0 0 0=BL from rfl];simp only[b_ (ω:(i:Int)<(l.length:Int)),Ac (ω:(0:Int)<=(i:Int)) (ω:(i:Int)<(l.length:Int)),Z,j_,w,e1,e2,By BL _ hil,h2_,z_];unfold NM g27;rfl)
  (λl hll=>by show Hg (ca:Int) (n0:Int) (n1:Int) (n2:Int) Bldg.none.C0 Bldg.none.E0 Bldg.none.I0 Bldg.none.M0 Bldg.none.J0 Bldg.none.L0 Bldg.none.N0 Bldg.none.B0 (Hy fl ca n1 n2).C0 (Hy fl ca n1 n2).E0 (Hy fl ca n1 n2).I0 (Hy fl ca n1 n2).M0 (Hy fl ca n1 n2).J0 (Hy fl ca n1 n2).L0 (Hy fl ca n1 n2).N0 l=_;unfold Hg;rw[hll,f_ (U_ (ca:Int))];rfl)
  ca 0 (Hy fl ca n1 n2).B0 ω hl
 have h2:=Aw h.1 ω;rw[show(Hy fl ca n1 n2).B0=(aT ca).map (λi=>g18 n1 i (g15 fl n1 i (GM fl i)))from rfl,Tr]at h2;exact h2
def Iz(n0:Nat):Nat:=2+n0%5
def Ii(n0:Nat):Nat:=1+n0/5%3
def Abl{n0:Nat}(hn:n0<256)(ht:t<256):NT (n0:Int) (t:Int)=P (((),()),((FI (Iz n0) (Ii n0) t).tup,())):=by
 have e1:O.wrap ((2:Int)+O.wrap (aL (n0:Int) 5))=((Iz n0:Nat):Int):=by rw[show aL (n0:Int) 5=((n0%5:Nat):Int)from UZ n0 5,Aa (n:=((n0%5:Nat):Int)) ω ω,Aa ω ω];unfold Iz;norm_cast
 have e2:O.wrap ((1:Int)+O.wrap (aL (I aK (aP (n0:Int) 5)) 3))=((Ii n0:Nat):Int):=by rw[show aK.wrap (aP (n0:Int) 5)=((n0/5:Nat):Int)from Zn 5 hn];exact PL 3 ω
 have hf:2<=Iz n0/\Iz n0<=6:=by unfold Iz;omega
 have hc:1<=Ii n0/\Ii n0<=3:=by unfold Ii;omega
 have e3:O.wrap ((1:Int)+O.wrap (aL (t:Int) 7))=((1+t%7:Nat):Int):=PL 7 ω;unfold NT;rw[e1,e2];refine Ae (Aec ω ω) ?_;refine Ae (At1 ω ω ω ht) ?_;show P (((),()),(((Iz n0:Nat):Int),(1:Int),(4000:Int),O.wrap ((1:Int)+O.wrap (aL (t:Int) 7)),_,_,_,_,()),())=_;rw[e3];rfl
def Abm{n0:Nat}(hn:n0<256)(ht:t<256):NU (n0:Int) (t:Int)=P (((),()),((Vn (Iz n0) (Ii n0) t).tup,())):=by
 have hf:2<=Iz n0/\Iz n0<=6:=by unfold Iz;omega
 have hc:1<=Ii n0/\Ii n0<=3:=by unfold Ii;omega
 unfold NU;refine Ae (Abl hn ht) ?_;exact Ae (At2 ω ω ht) rfl
def Abn{n0 n1 n2:Nat}(h0:n0<256)(h1:n1<256)(h2:n2<256):KN (n0:Int) (n1:Int) (n2:Int)=P (((),()),((Gr (Iz n0) (Ii n0) n1 n2).tup,())):=by
 have hf:2<=Iz n0/\Iz n0<=6:=by unfold Iz;omega
 have hc:1<=Ii n0/\Ii n0<=3:=by unfold Ii;omega
 have e1:O.wrap ((1:Int)+O.wrap (aL (n2:Int) 3))=((1+n2%3:Nat):Int):=PL 3 ω;have hl:(Vn (Iz n0) (Ii n0) n1).B0.length=Ii n0:=by simp[Vn]
 have e2:O.wrap (I O (I O (18*(((Vn (Iz n0) (Ii n0) n1).B0.length:Nat):Int))+24)+O.wrap (6*O.wrap (I aK (aP (n2:Int) 3))))=((18*Ii n0+24+6*(n2/3):Nat):Int):=by
  rw[hl,show aK.wrap (aP (n2:Int) 3)=((n2/3:Nat):Int)from Zn 3 h2,Aa (n:=18*((Ii n0:Nat):Int)) ω ω,Aa (n:=18*((Ii n0:Nat):Int)+24) ω ω,Aa (n:=((n2/3:Nat):Int)) ω ω,Aa (n:=6*((n2/3:Nat):Int)) ω ω,Aa ω ω]
  norm_cast
 unfold KN;refine Ae (Abm h0 h1) ?_;refine Ae (a:=(((),(),()),(Bldg.none.tup,(Gr (Iz n0) (Ii n0) n1 n2).tup,()))) ?_ rfl;show Jb (((),(),(),(0:Int),()),(((n0:Int),(n1:Int),(n2:Int),()),Bldg.none.tup,(((Iz n0:Nat):Int),O.wrap ((1:Int)+O.wrap (aL (n2:Int) 3)),O.wrap (I O (I O (18*(((Vn (Iz n0) (Ii n0) n1).B0.length:Nat):Int))+24)+O.wrap (6*O.wrap (I aK (aP (n2:Int) 3)))),_,_,_,_,_,()),()))=_;rw[e1,e2];exact At3 ω h1 h2
def Aqg{fl ca n1 n2:Nat}(hf:2<=fl/\fl<=6)(hc:1<=ca/\ca<=3)(_h1:n1<256)(h2:n2<256):(Gr fl ca n1 n2).small/\(Gr fl ca n1 n2).code=0/\(Gr fl ca n1 n2).B0.length=ca/\(Gr fl ca n1 n2).C0=(fl:Int)/\18*(ca:Int)+24<=(Gr fl ca n1 n2).I0/\(Gr fl ca n1 n2).I0<=600:=by
 have hl:(Gr fl ca n1 n2).B0.length=ca:=by simp[Gr]
 have hr:(Gr fl ca n1 n2).I0=((18*ca+24+6*(n2/3):Nat):Int):=rfl;refine⟨⟨by show(2:Int)<=(fl:Int);omega,by show(fl:Int)<=8;omega⟩,?_,hl,rfl,by rw[hr];omega,by rw[hr];omega⟩;unfold Bldg.code;have e1:inR 2 32 (Gr fl ca n1 n2).C0=H:=An.2 (by show(2:Int)<=(fl:Int)/\(fl:Int)<=32;omega);have e2:inR 1 8 ((Gr fl ca n1 n2).B0.length:Int)=H:=An.2 ω;have e3:inR 1 16 (Gr fl ca n1 n2).E0=H:=An.2 (by show(1:Int)<=((1+n2%3:Nat):Int)/\((1+n2%3:Nat):Int)<=16;omega);have e4:inR 1 10000 (Gr fl ca n1 n2).M0=H:=An.2 (by show(1:Int)<=((1+n1%7:Nat):Int)/\((1+n1%7:Nat):Int)<=10000;omega);have e5:(Gr fl ca n1 n2).B0.all (Bl (Gr fl ca n1 n2).C0)=H:=by rw[L_];intro c hc';obtain⟨i,_,rfl⟩:=b6_.1 hc';have hm:(i+n1)%fl<fl:=f9_ _ ω;show Bl (fl:Int) (g27 n1 n2 i (g18 n1 i (g15 fl n1 i (GM fl i))))=H;unfold Bl g27 g18 g15 GM;simp only[Z_,h3_,d6_,e_,An,q_];rw[Aa (n:=(fl:Int)-1) ω ω];refine⟨⟨?_,?_,?_,?_,?_,?_,?_⟩,?_,?_,?_⟩<;>omega
 have e6:(Gr fl ca n1 n2).loadsOK=H:=by
  show(AH 2 1).loadsOK=H
  kernel_rfl
 have e7:inR (18*((Gr fl ca n1 n2).B0.length:Int)+24) 65536 (Gr fl ca n1 n2).I0=H:=An.2 (by rw[hl,hr];omega);rw[e1,e2,e3,e4,e5,e6,e7];rfl
def Dq{n:Nat}(h:n<1000000000):O.wrap ((n:Int)+1)=((n+1:Nat):Int):=by rw[Aa ω ω];omega
def Agr(l:List Int):(EF l).size=l.length:=by simp[EF,ByteArray.size]
def Aw6(x y:Int):Int:=O.wrap (stk x y (aO ((aJ (IntKind.bits O) x)^^^(aJ (IntKind.bits O) y))))
def Aiu(_:Nat)(r:Int):Int:=bif decide (32768<=r)then Aw6 (aL (I O (r*2)) 65536) 4129 else aL (I O (r*2)) 65536
def Ag7(s:ByteArray)(i:Nat)(r:Int):Int:=AV Aiu 8 0 (Aw6 r (I O (I O (BG s i)*256)))
def Ago(s:ByteArray):Int:=AV (Ag7 s) s.size 0 65535
def Al2(s:ByteArray):ByteArray:=EF [aK.wrap (I aH (aP (I aH (Ago s)) 256)),aK.wrap (aL (I aH (Ago s)) 256)]
def Mf(s:ByteArray):ByteArray:=s++Al2 s
def TD(s:ByteArray):(Mf s).size=s.size+2:=by unfold Mf Al2;rw[d3_,Agr];rfl
def Me(s:ByteArray):ByteArray×Int:=bif decide ((s.size:Int)<2)then(noB,4)else bif eqB (Mf (s.extract 0 (s.size-2))) s then(s.extract 0 (s.size-2),0)else(noB,5)
def DJ(n:Int)(k:Nat):List Int:=(aT k).map λi=>aK.wrap (aM n ((2:Int)^(aE (8*i) (IntKind.bits .u64))))
def nmB(n:Int)(k:Nat):ByteArray:=EF (DJ n k)
def Ei(n:Int)(k:Nat):(nmB n k).size=k:=by unfold nmB;rw[Agr];simp[DJ]
def Zh(c:Int×Int):ByteArray:=nmB (I V c.1) 4++nmB (I V c.2) 4
def Aqi(c:Int×Int):(Zh c).size=8:=by unfold Zh;rw[d3_,Ei,Ei]
def Bue(x y:Int):Int:=V.wrap (stk x y (aO ((aJ (IntKind.bits V) x)|||(aJ (IntKind.bits V) y))))
def Rh(l:List Bool)(i:Nat)(n:Int):Int:=bif l.getD i L then Bue n (I V (1*2^min i (IntKind.bits .u64)))else n
def Aep(l:List Bool):ByteArray:=nmB (AV (Rh l) l.length 0 0) 1
def Xf(l:List Bool):(Aep l).size=1:=Ei _ _
structure Inp where
 press:Int×Int
 kind:Int
 car:Int
 cars:List CarInput
def Inp.tup(x:Inp):Int×Int×Int×Int×List aN×Unit:=(x.press.1,x.press.2,x.kind,x.car,x.cars,())
def Inp.none:Inp:=⟨(0,0),0,0,[]⟩
def UF:aN:=CarInput.mk 0 L L L L 0 L 0 L 0 0
def flV(b:R)(n:Int):Bool:=aM (I V n) ((2:Int)^b.C0.toNat)==0
def WH(b:R)(c:aN):Bool:=flV b c.H1&&(flV b c.M2&&(inR 0 (b.C0-1) c.H2&&inR 0 2 c.E2))
def JE(b:R)(c:Int×Int):Bool:=isZ (Au c (AW b))
def XS(b:R)(x:Inp):Bool:=JE b x.press&&(inR 0 8 x.kind&&(inR 0 ((b.B0.length:Int)-1) x.car&&(!(x.kind==0&&x.car !=0)&&((x.cars.length:Int)==(b.B0.length:Int)&&x.cars.all (WH b)))))
def SH(s:ByteArray)(c:aN):ByteArray:=s++nmB (I V c.H1) 4++Aep [c.V2,c.K2,c.L2,c.U1,c.Q2,c.Z2]++nmB (I V c.H2) 1++nmB (I V c.E2) 1++nmB (I V c.M2) 4++nmB ((c.A4:Nat):Int) 8
def Ba3(s:ByteArray)(c:aN):(SH s c).size=s.size+19:=by unfold SH;simp only[d3_,Ei,Xf]
def QF(b:R)(x:Inp):ByteArray:=nmB 165 1++nmB (I V (b.B0.length:Int)) 1++Zh x.press++nmB (I V x.kind) 1++nmB (I V x.car) 1
def Afj(b:R)(x:Inp):(QF b x).size=12:=by unfold QF;simp only[d3_,Ei,Aqi]
def inV(b:R)(x:Inp):ByteArray:=Mf (x.cars.foldl SH (QF b x))
def Afb(l:List aN)(s:ByteArray):(l.foldl SH s).size=s.size+19*l.length:=by
 induction l generalizing s with
 |nil=>simp
 |cons c t ih=>rw[g5_,ih,Ba3,E_];omega
def XO(b:R)(x:Inp):(inV b x).size=14+19*x.cars.length:=by unfold inV;rw[TD,Afb,Afj];omega
section
variable{b:R}(hb:b.small)(hcode:b.code=0)
include hb
include hcode
end
def Bjj{a c:Nat}(ha:a<65536)(hc:c<65536):aH.wrap (stk (a:Int) (c:Int) (aO ((aJ (IntKind.bits .u16) (a:Int))^^^(aJ (IntKind.bits .u16) (c:Int)))))=((a^^^c:Nat):Int):=by have h:=f3_ (n:=16) ha hc;rw[My,BitVec.toNat_xor,a0_,a0_];rw[show(((a:Int))%((2^IntKind.bits .u16:Nat):Int)).toNat=a by simp only[IntKind.bits];omega,show(((c:Int))%((2^IntKind.bits .u16:Nat):Int)).toNat=c by simp only[IntKind.bits];omega];generalize a^^^c=n at*;simp only[I,IntKind.signed,IntKind.bits];simp;omega
def Ap6{a c:Nat}(ha:a<65536)(hc:c<65536):Aw6 (a:Int) (c:Int)=((a^^^c:Nat):Int):=by have h:=f3_ (n:=16) ha hc;unfold Aw6;rw[My,BitVec.toNat_xor,a0_,a0_];rw[show(((a:Int))%((2^IntKind.bits .i64:Nat):Int)).toNat=a by simp only[IntKind.bits];omega,show(((c:Int))%((2^IntKind.bits .i64:Nat):Int)).toNat=c by simp only[IntKind.bits];omega];exact Aa ω ω
def Rw(n:Nat):aH.wrap (n:Int)=((n%65536:Nat):Int):=by simp only[I,IntKind.signed,IntKind.bits];simp
def n16(_:Nat)(r:Nat):Nat:=if 32768<=r then(2*r%65536)^^^4129 else 2*r%65536
def Bch:n16 i r<65536:=by
 unfold n16;split
 .exact f3_ (n:=16) (f9_ _ τ) τ
 .exact f9_ _ τ
def Bg5(h:r<65536):Aiu i (r:Int)=((n16 i r:Nat):Int):=by
 have w:aL (I O ((r:Int)*2)) 65536=((2*r%65536:Nat):Int):=by rw[Aa ω ω,b4_ ω];omega
 unfold Aiu n16;rw[w];by_cases g:32768<=r
 .rw[b_ (ω:(32768:Int)<=(r:Int)),Z,if_pos g];exact Ap6 (f9_ _ τ) τ
 .rw[f_ (ω:¬(32768:Int)<=(r:Int)),c_,if_neg g]
def Bw5(h:r<65536):(I aH (stk (I aH ((r:Int)*((2:Int)^(aE (aA (1:Int)) (IntKind.bits aH))))) (I aH ((aM (r:Int) ((2:Int)^(aE (aA (15:Int)) (IntKind.bits aH))))*(4129:Int))) (aO ((aJ (IntKind.bits aH) (I aH ((r:Int)*((2:Int)^(aE (aA (1:Int)) (IntKind.bits aH))))))^^^(aJ (IntKind.bits aH) (I aH ((aM (r:Int) ((2:Int)^(aE (aA (15:Int)) (IntKind.bits aH))))*(4129:Int))))))))=((n16 i r:Nat):Int):=by
 have w1:aH.wrap ((r:Int)*((2:Int)^(aE (aA (1:Int)) (IntKind.bits aH))))=((2*r%65536:Nat):Int):=by rw[show((2:Int)^(aE (aA (1:Int)) (IntKind.bits aH)))=2 from rfl,show(r:Int)*2=((2*r:Nat):Int)by omega];exact Rw _
 have d:aM (r:Int) ((2:Int)^(aE (aA (15:Int)) (IntKind.bits aH)))=((r/32768:Nat):Int):=by rw[show((2:Int)^(aE (aA (15:Int)) (IntKind.bits aH)))=32768 from rfl,P_ _ ω];omega
 have w2:aH.wrap ((aM (r:Int) ((2:Int)^(aE (aA (15:Int)) (IntKind.bits aH))))*(4129:Int))=((r/32768*4129:Nat):Int):=by
  rw[d,show((r/32768:Nat):Int)*4129=((r/32768*4129:Nat):Int)by omega,Rw]
  have:r/32768*4129<65536:=ω
  rw[h1_ this]
 rw[w1,w2,Bjj (f9_ _ τ) ω];unfold n16;by_cases g:32768<=r
 .rw[if_pos g,show r/32768*4129=4129 by omega]
 .rw[if_neg g,show r/32768*4129=0 by omega,Nat.xor_zero]
def Afa:∀(k i r:Nat),r<65536->AV Aiu k i (r:Int)=((AV n16 k i r:Nat):Int)/\AV n16 k i r<65536
 |0,_,_,h=>⟨rfl,h⟩
 |k+1,i,r,h=>by show AV Aiu k (i+1) (Aiu i (r:Int))=_/\_;rw[Bg5 (i:=i) h];exact Afa k (i+1) (n16 i r) Bch
def Bcs(s:ByteArray)(hr:r<65536)(a c:Int):Pg ((s,(r:Int),a,c,(0:Int),()),())=P ((s,((AV n16 8 0 r:Nat):Int),a,c,()),()):=by
 have h:=Cb (S:=Nat) (step:=λx=>JA x.1.1 x.1.2.1 x.1.2.2.1 x.1.2.2.2.1 x.1.2.2.2.2.1) 8 (λk r=>((s,(r:Int),a,c,(k:Int),()),())) n16 (λ_ r=>r<65536) (λ(r:Nat)=>((s,(r:Int),a,c,()),()))
  (λk r hk hr=>by refine⟨?_,Bch⟩;show JA s (r:Int) a c (k:Int)=_;unfold JA;simp only[b_ (ω:(k:Int)<8),Z,Dq (ω:k<1000000000)];rw[Bw5 (i:=k) hr])
  (λr _=>by show JA s (r:Int) a c 8=_;unfold JA;rw[f_ (U_ (8:Int))];rfl) 8 0 r ω hr
 exact Aw h.1 ω
def byN(s:ByteArray)(i:Nat):Nat:=((bl s).getD i 0).toNat
def Sg(s:ByteArray)(i:Nat):byN s i<256:=UInt8.toNat_lt _
def b16(s:ByteArray)(i:Nat)(r:Nat):Nat:=AV n16 8 0 (r^^^(byN s i*256))
def s16(s:ByteArray):Nat:=AV (b16 s) s.size 0 65535
def Al8(hr:r<65536):r^^^(byN s i*256)<65536:=f3_ (n:=16) hr (by have:=Sg s i;omega)
def Ani(hs:s.size<=1000000):Ry s=P ((((s16 s:Nat):Int),()),())/\s16 s<65536:=by
 have h:=Cb (S:=Nat) (step:=λx=>Jz x.1.1 x.1.2.1 x.1.2.2.1 x.1.2.2.2.1) s.size (λi r=>((s,(r:Int),(s.size:Int),(i:Int),()),())) (b16 s) (λ_ r=>r<65536) (λ(r:Nat)=>(((r:Int),()),()))
  (λi r hi hr=>by
   refine⟨?_,(Afa 8 0 _ (Al8 hr)).2⟩;show Jz s (r:Int) (s.size:Int) (i:Int)=_;unfold Jz;have hb:=Sg s i;have z:aH.wrap ((I aH (BG s i))*((2:Int)^(aE (aA (8:Int)) (IntKind.bits aH))))=((byN s i*256:Nat):Int):=by rw[NA];show aH.wrap (I aH ((byN s i:Nat):Int)*256)=_;rw[Rw,h1_ ω,show((byN s i:Nat):Int)*256=((byN s i*256:Nat):Int)by omega,Rw,h1_ ω]
   simp only[b_ (ω:(i:Int)<(s.size:Int)),Ac (ω:(0:Int)<=(i:Int)) (ω:(i:Int)<(s.size:Int)),Z,j_];rw[z,Bjj hr ω];refine Ae (Bcs s (Al8 hr) _ _) ?_;show P (Sum.inl ((s,_,_,O.wrap ((i:Int)+1),()),()))=_;rw[Dq (ω:i<1000000000)];rfl)
  (λr _=>by show Jz s (r:Int) (s.size:Int) (s.size:Int)=_;unfold Jz;rw[f_ (U_ (s.size:Int))];rfl) s.size 0 65535 ω τ
 have h2:Pf ((s,(65535:Int),(s.size:Int),(0:Int),()),())=_:=Aw h.1 ω;unfold Ry;exact⟨Ae h2 rfl,h.2⟩
def Bi6:∀(s:ByteArray) (k i r:Nat),r<65536->AV (Ag7 s) k i (r:Int)=((AV (b16 s) k i r:Nat):Int)
 |_,0,_,_,_=>rfl
 |s,k+1,i,r,h=>by
  have hb:=Sg s i;have e:Ag7 s i (r:Int)=((b16 s i r:Nat):Int):=by
   unfold Ag7 b16;have z:O.wrap (I O (BG s i)*256)=((byN s i*256:Nat):Int):=by rw[NA];show O.wrap (I O ((byN s i:Nat):Int)*256)=_;rw[Aa (n:=((byN s i:Nat):Int)) ω ω,Aa ω ω];omega
   rw[z,Ap6 h ω];exact(Afa 8 0 _ (Al8 h)).1
  show AV (Ag7 s) k (i+1) (Ag7 s i (r:Int))=((AV (b16 s) k (i+1) (b16 s i r):Nat):Int);rw[e];exact Bi6 s k (i+1) _ (Afa 8 0 _ (Al8 h)).2
def Bc9(s:ByteArray):Ago s=((s16 s:Nat):Int):=Bi6 s s.size 0 65535 τ
def Yu(n:Nat):aK.wrap (n:Int)=((n%256:Nat):Int):=by simp only[I,IntKind.signed,IntKind.bits];simp
def Bc4(s:ByteArray)(h:s16 s<65536):Al2 s=EF [aK.wrap (aM ((s16 s:Nat):Int) ((2:Int)^(aE (aA (8:Int)) (IntKind.bits aH)))),aK.wrap ((s16 s:Nat):Int)]:=by
 have w:aH.wrap (Ago s)=((s16 s:Nat):Int):=by rw[Bc9,Rw,h1_ h]
 have d1:aP ((s16 s:Nat):Int) 256=((s16 s/256:Nat):Int):=by rw[Int.tdiv_eq_ediv_of_nonneg ω];omega
 have d2:aM ((s16 s:Nat):Int) ((2:Int)^(aE (aA (8:Int)) (IntKind.bits aH)))=((s16 s/256:Nat):Int):=by rw[show((2:Int)^(aE (aA (8:Int)) (IntKind.bits aH)))=256 from rfl,P_ _ ω];omega
 have d3:aL ((s16 s:Nat):Int) 256=((s16 s%256:Nat):Int):=by rw[b4_ ω];omega
 unfold Al2;rw[w,d1,d2,d3,Rw,Yu,Yu,Yu,Yu];congr 3
 .omega
 .congr 1;omega
def Ab5(hs:s.size<=1000000):PQ s=P ((Mf s,()),()):=by
 obtain⟨h1,h2⟩:=Ani hs;unfold PQ;refine Ae h1 ?_
 have:=TD s
 unfold Mf at this;rw[d3_]at this;show(bif Nat.ble (s.size+(EF [aK.wrap (aM ((s16 s:Nat):Int) ((2:Int)^(aE (aA (8:Int)) (IntKind.bits aH)))),aK.wrap ((s16 s:Nat):Int)]).size) 4611686018427387904 then P ((s++EF [aK.wrap (aM ((s16 s:Nat):Int) ((2:Int)^(aE (aA (8:Int)) (IntKind.bits aH)))),aK.wrap ((s16 s:Nat):Int)],()),())else none)=_;rw[<-Bc4 s h2,AR ω];rfl
def Aqy(hs:s.size<=1000000):SV s=P (((Me s).1,(Me s).2,()),()):=by
 unfold SV Me;by_cases h:(s.size:Int)<2
 .have w:O.wrap ((s.size:Int)-2)=(s.size:Int)-2:=Aa ω ω;simp only[w];rw[b_ h,b_ (ω:(s.size:Int)-2<0)];rfl
 .rw[f_ h,c_];have w:O.wrap ((s.size:Int)-2)=((s.size-2:Nat):Int):=by rw[Aa ω ω];omega
  simp only[w,j_];rw[f_ (ω:¬((s.size-2:Nat):Int)<0),b_ (ω:(0:Int)<=((s.size-2:Nat):Int)),b_ (ω:((s.size-2:Nat):Int)<=(s.size:Int)),b2_,Z,c_];refine Ae (Ab5 (s:=s.extract 0 (s.size-2)) (by rw[Ac3 s ω];omega)) ?_;show(bif !eqB (Mf (s.extract 0 (s.size-2))) s then _ else _)=_;cases eqB (Mf (s.extract 0 (s.size-2))) s<;>rfl
def Ag6(n:Int)(k:Nat):Bool:=aK.wrap (stk (aM n ((2:Int)^min k (IntKind.bits .u8))) 1 (aO ((aJ (IntKind.bits aK) (aM n ((2:Int)^min k (IntKind.bits .u8))))&&&(aJ (IntKind.bits aK) 1))))==1
def Bv0(a b c d e f:Bool):(0<=AV (Rh [a,b,c,d,e,f]) 6 0 0/\AV (Rh [a,b,c,d,e,f]) 6 0 0<64)/\Ag6 (AV (Rh [a,b,c,d,e,f]) 6 0 0) 0=a/\Ag6 (AV (Rh [a,b,c,d,e,f]) 6 0 0) 1=b/\Ag6 (AV (Rh [a,b,c,d,e,f]) 6 0 0) 2=c/\Ag6 (AV (Rh [a,b,c,d,e,f]) 6 0 0) 3=d/\Ag6 (AV (Rh [a,b,c,d,e,f]) 6 0 0) 4=e/\Ag6 (AV (Rh [a,b,c,d,e,f]) 6 0 0) 5=f:=by cases a<;>cases b<;>cases c<;>cases d<;>cases e<;>cases f<;>decide+kernel
section
variable{b:R}(hb:b.small)(hcode:b.code=0)
include hb hcode
end
def DK(b:R)(s:ByteArray):Int:=bif(s.size:Int) !=14+19*(b.B0.length:Int)then 4 else bif O.wrap (BG s 0) !=165 then 30 else bif O.wrap (BG s 1) !=(b.B0.length:Int)then 30 else(Me s).2
def Av1(h:DK b s=0):s.size=14+19*b.B0.length:=by
 unfold DK at h;cases hq:((s.size:Int) !=14+19*(b.B0.length:Int))with
 |true=>rw[hq]at h;cases h
 |false=>
  have:(s.size:Int)=14+19*(b.B0.length:Int):=by simpa using hq
  omega
section
variable{b:R}(hb:b.small)(hcode:b.code=0)
include hb hcode
end
def Bgi(h:(Me s).2=0):2<=s.size/\(Me s).1=s.extract 0 (s.size-2):=by
 unfold Me at h|-;cases q:decide ((s.size:Int)<2)with
 |true=>rw[q]at h;cases h
 |false=>
  rw[q]at h;have q:=C_ q;refine⟨ω,?_⟩;cases q2:eqB (Mf (s.extract 0 (s.size-2))) s with
  |true=>rfl
  |false=>rw[q2]at h;cases h
def Zu(hcode:b.code=0)(s:ByteArray)(hs:s.size<=1000000):U (PX b.C0 b.E0 b.I0 b.M0 b.J0 b.L0 b.N0 b.B0 s (14+19*(b.B0.length:Int)) 165) λy=>match y with
  |.inl z=>z.1.2.1=DK b s/\DK b s≠0
  |.inr z=>DK b s=0/\z.1.2.1=0/\z.2.1=((s.extract 0 (s.size-2)).extract 2 (s.size-2),b.C0,b.E0,b.I0,b.M0,b.J0,b.L0,b.N0,b.B0,()):=by
 have hcc:=Ah hcode;unfold PX DK;refine aG (AC b) (aZ (show(b.code !=0)=L by rw[hcode];rfl) ?_);refine C (λq=>B ?_) λq=>?_
 .rw[q];exact⟨rfl,show(4:Int)≠0 by decide⟩
 rw[q];have hsz:(s.size:Int)=14+19*(b.B0.length:Int):=by simpa using q
 have w:∀i,O.wrap (BG s i)=BG s i:=λi=>by
  rw[NA]
  have:=Sg s i
  unfold byN at this;exact Aa ω ω
 rw[w 0];refine aC (Ac ω ω) (C (λq=>B ?_) λq=>aC (Ac ω ω) (C (λq2=>B ?_) λq2=>?_))
 .rw[show(BG s 0 !=165)=H from q];exact⟨rfl,show(30:Int)≠0 by decide⟩
 .rw[show(BG s 0 !=165)=L from q,show(I O (BG s 1) !=(b.B0.length:Int))=H from q2];exact⟨rfl,show(30:Int)≠0 by decide⟩
 rw[show(BG s 0 !=165)=L from q,show(I O (BG s 1) !=(b.B0.length:Int))=L from q2];refine aG (Aqy hs) (C (λq3=>B ⟨rfl,?_⟩) λq3=>?_)
 .show(Me s).2≠0;simpa using q3
 have q3:(Me s).2=0:=by simpa using q3
 obtain⟨h2,h3⟩:=Bgi q3;have hz:(Me s).1.size=s.size-2:=by rw[h3,Ac3 s ω]
 refine aC (b_ (ω:(2:Int)<=(((Me s).1.size:Nat):Int))) (B ⟨q3,rfl,?_⟩);show((Me s).1.extract 2 (Me s).1.size,_)=_;rw[hz,h3]
def Bgm{n:Nat}(h:n<18446744073709551616):orL 0 (n:Int)=(n:Int):=by unfold orL;rw[My,bI,a0_,a0_];rw[show((0:Int)%((2^IntKind.bits .u64:Nat):Int)).toNat=0 from rfl,Nat.zero_or,show(((n:Nat):Int)%((2^IntKind.bits .u64:Nat):Int)).toNat=n by simp only[IntKind.bits];omega];exact Gy ω ω
def Bks(s:ByteArray):leV s 1=((byN s 0:Nat):Int):=by have hb:=Sg s 0;show orL 0 (I V (I V (BG s 0)*1))=_;rw[NA,Int.mul_one];show orL 0 (I V (I V ((byN s 0:Nat):Int)))=_;rw[Gy (n:=((byN s 0:Nat):Int)) ω ω,Gy ω ω];exact Bgm ω
def Kg(b:R)(hs:1<=s.size){most:Int}(h:((byN s 0:Nat):Int)<=most):Bv most s b.C0 b.E0 b.I0 b.M0 b.J0 b.L0 b.N0 b.B0=P ((((byN s 0:Nat):Int),()),((s.extract 1 s.size,b.C0,b.E0,b.I0,b.M0,b.J0,b.L0,b.N0,b.B0,()),())):=by have hb:=Sg s 0;unfold Bv;refine Ae (NJ b (k:=1) τ hs) ?_;simp only[Bks];rw[Aa (n:=((byN s 0:Nat):Int)) ω ω,b_ h];rfl
def Yz(hb:b.small)(hs:4<=s.size)(h:C2 b.C0 (I aB (leV s 4))):DM s b.C0 b.E0 b.I0 b.M0 b.J0 b.L0 b.N0 b.B0=P ((I aB (leV s 4),()),((s.extract 4 s.size,b.C0,b.E0,b.I0,b.M0,b.J0,b.L0,b.N0,b.B0,()),())):=by have lo:=hb.lo;have hi:=hb.hi;have hmin:aE (aA b.C0) (IntKind.bits aB)=aA b.C0:=d4_ (by show _<=32;omega);unfold DM;refine Ae (NJ b (k:=4) τ hs) ?_;show(bif decide ((0:Int)<=b.C0)then _ else _)=_;rw[b_ (ω:(0:Int)<=b.C0),Z];rw[hmin,RV.2 h];rfl
section
variable{b:R}(hb:b.small)(hcode:b.code=0)
include hb hcode
theorem Uy{u d:Int}(h1:vb (bv u&&& ~~~ bv (AW b).1)=0)(h2:vb (bv d&&& ~~~ bv (AW b).2)=0):JL b.C0 b.E0 b.I0 b.M0 b.J0 b.L0 b.N0 b.B0 u d=P ((H,()),()):=by unfold JL;refine Ae (FN hb hcode) ?_;simp only[Yr,h1,h2];rfl
theorem Aht(hs:8<=s.size)(h1:vb (bv (I aB (leV s 4))&&& ~~~ bv (AW b).1)=0)(h2:vb (bv (I aB (leV (s.extract 4 s.size) 4))&&& ~~~ bv (AW b).2)=0):Fq s b.C0 b.E0 b.I0 b.M0 b.J0 b.L0 b.N0 b.B0=P (((),()),((I aB (leV s 4),aB.wrap (leV (s.extract 4 s.size) 4),()),((s.extract 4 s.size).extract 4 (s.extract 4 s.size).size,b.C0,b.E0,b.I0,b.M0,b.J0,b.L0,b.N0,b.B0,()),())):=by
 have e:(s.extract 4 s.size).size=s.size-4:=by rw[ByteArray.size_extract];omega
 unfold Fq;refine Ae (NJ b (k:=4) τ ω) ?_;refine Ae (NJ b (k:=4) (s:=s.extract 4 s.size) τ (by rw[e];omega)) ?_;exact Ae (Uy hb hcode h1 h2) rfl
end
def Bqt(n:Int)(i:Nat):Bool:=O.wrap (stk (aM n ((2:Int)^(aE i (IntKind.bits O)))) (1:Int) (aO ((aJ (IntKind.bits O) (aM n ((2:Int)^(aE i (IntKind.bits O)))))&&&(aJ (IntKind.bits O) (1:Int)))))==(1:Int)
def flL(n:Int):List Bool:=(aT 6).map (Bqt n)
def Ahu(b:R)(hs:1<=s.size)(h:byN s 0<=63):Fs 6 s b.C0 b.E0 b.I0 b.M0 b.J0 b.L0 b.N0 b.B0=P ((flL ((byN s 0:Nat):Int),()),((s.extract 1 s.size,b.C0,b.E0,b.I0,b.M0,b.J0,b.L0,b.N0,b.B0,()),())):=by
 have h1:=Cb (step:=λx=>letI a:=x.2.1.2.2.2;letI c:=a.2.2;Cr x.1.1 x.1.2.1 x.1.2.2.1 x.1.2.2.2.1 x.2.1.1 x.2.1.2.1 x.2.1.2.2.1 a.1 a.2.1 c.1 c.2.1 c.2.2.1 c.2.2.2.1) 6 (λi l=>((((byN s 0:Nat):Int),l,6,(i:Int),()),((s.extract 1 s.size,b.C0,b.E0,b.I0,b.M0,b.J0,b.L0,b.N0,b.B0,()),()))) (NM L (λi _=>Bqt ((byN s 0:Nat):Int) i)) (λ_ l=>l.length=6) (λl=>((l,()),((s.extract 1 s.size,b.C0,b.E0,b.I0,b.M0,b.J0,b.L0,b.N0,b.B0,()),())))
  (λi l hi hl=>by refine⟨?_,by rw[NM,z_,hl]⟩;show Cr ((byN s 0:Nat):Int) l 6 (i:Int) (s.extract 1 s.size) b.C0 b.E0 b.I0 b.M0 b.J0 b.L0 b.N0 b.B0=_;unfold Cr;simp only[b_ (ω:(i:Int)<6),b_ (ω:(0:Int)<=(i:Int)),Ac (ω:(0:Int)<=(i:Int)) (ω:(i:Int)<(l.length:Int)),Z,j_,Dq (ω:i<1000000000)];rfl)
  (λl _=>by show Cr ((byN s 0:Nat):Int) l 6 6 (s.extract 1 s.size) b.C0 b.E0 b.I0 b.M0 b.J0 b.L0 b.N0 b.B0=_;unfold Cr;rw[f_ (U_ (6:Int))];rfl) 6 0 ((aT 6).map λ_=>L) rfl rfl
 have h2:=Aw h1.1 ω;rw[Tr]at h2;unfold Fs;exact Ae (Kg b hs (by show((byN s 0:Nat):Int)<=63;omega)) (Ae h2 rfl)
def Yy(hcode:b.code=0):PU b.C0 b.E0 b.I0 b.M0 b.J0 b.L0 b.N0 b.B0=P ((14+19*(b.B0.length:Int),23+19*(b.B0.length:Int),()),()):=by have hcc:=Ah hcode;unfold PU;refine Ae (AC b) ?_;show(bif b.code !=0 then _ else _)=_;rw[hcode,show((0:Int) !=0)=L from rfl,c_];rw[Aa (n:=19*(b.B0.length:Int)) ω ω,Aa ω ω,Aa ω ω]
def Ux(hcode:b.code=0)(hs:s.size<=1000000)(h:DK b s≠0):ER b.C0 b.E0 b.I0 b.M0 b.J0 b.L0 b.N0 b.B0 s=P (((),DK b s,()),(Inp.none.tup,())):=by
 obtain⟨y,h1,hy⟩:=Zu hcode s hs;unfold ER;refine Ae (Yy hcode) (Ae h1 ?_);cases y with
 |inl z=>
  show(bif z.1.2.1 !=0 then P (((),z.1.2.1,()),(Inp.none.tup,()))else none)=_;have hz:(DK b s !=0)=H:=by simpa using h
  rw[hy.1,hz,Z]
 |inr z=>exact absurd hy.1 h
def tl(k:Nat)(s:ByteArray):ByteArray:=s.extract k s.size
def Ew(k:Nat)(s:ByteArray):(tl k s).size=s.size-k:=by unfold tl;rw[ByteArray.size_extract];omega
structure Ck(b:Bldg)(s:ByteArray):Prop where
 size:19<=s.size
 c1:C2 b.C0 (IntKind.u32.wrap (leV s 4))
 fg:byN (tl 4 s) 0<=63
 fl:((byN (tl 1 (tl 4 s)) 0:Nat):Int)<=b.C0-1
 dr:((byN (tl 1 (tl 1 (tl 4 s))) 0:Nat):Int)<=2
 c2:C2 b.C0 (IntKind.u32.wrap (leV (tl 1 (tl 1 (tl 1 (tl 4 s)))) 4))
def rest(s:ByteArray):ByteArray:=tl 8 (tl 4 (tl 1 (tl 1 (tl 1 (tl 4 s)))))
def Aue(s:ByteArray):aN:=CarInput.mk (I aB (leV s 4)) ((flL ((byN (tl 4 s) 0:Nat):Int)).getD (aA (0:Int)) L) ((flL ((byN (tl 4 s) 0:Nat):Int)).getD (aA (1:Int)) L) ((flL ((byN (tl 4 s) 0:Nat):Int)).getD (aA (2:Int)) L) ((flL ((byN (tl 4 s) 0:Nat):Int)).getD (aA (3:Int)) L) ((byN (tl 1 (tl 4 s)) 0:Nat):Int) ((flL ((byN (tl 4 s) 0:Nat):Int)).getD (aA (4:Int)) L) ((byN (tl 1 (tl 1 (tl 4 s))) 0:Nat):Int) ((flL ((byN (tl 4 s) 0:Nat):Int)).getD (aA (5:Int)) L) (I aB (leV (tl 1 (tl 1 (tl 1 (tl 4 s)))) 4)) (aA (leV (tl 4 (tl 1 (tl 1 (tl 1 (tl 4 s))))) 8))
def Ahz(hb:b.small)(h:Ck b s){N:Nat}(hi:i<N)(hN:N<=8)(u d k c:Int){cs:List aN}(hcs:cs.length<=1000)(e:Int):Cg (N:Int) (i:Int) u d k c cs e s b.C0 b.E0 b.I0 b.M0 b.J0 b.L0 b.N0 b.B0=P (.inl (((),(),(),(N:Int),((i+1:Nat):Int),()),((u,d,k,c,cs++[Aue s],()),(e,()),(rest s,b.C0,b.E0,b.I0,b.M0,b.J0,b.L0,b.N0,b.B0,()),()))):=by have lo:=hb.lo;have hi8:=hb.hi;have hz:=h.size;unfold Cg;rw[b_ (ω:(i:Int)<(N:Int)),Z];refine Ae (Yz hb ω h.c1) ?_;refine Ae (Ahu b (s:=tl 4 s) (by rw[Ew];omega) h.fg) ?_;have hin:∀j:Nat,j<6->inB (j:Int) (flL ((byN (tl 4 s) 0:Nat):Int)).length=H:=λj hj=>Ac ω (by rw[show(flL ((byN (tl 4 s) 0:Nat):Int)).length=6 by simp[flL]];omega);refine YZ (hin 0 τ) (YZ (hin 1 τ) (YZ (hin 2 τ) (YZ (hin 3 τ) (YZ (hin 4 τ) (YZ (hin 5 τ) ?_)))));refine Ae (Kg b (s:=tl 1 (tl 4 s)) (by rw[Ew,Ew];omega) (by show _<=O.wrap (b.C0-1);rw[Aa ω ω];exact h.fl)) ?_;refine Ae (Kg b (s:=tl 1 (tl 1 (tl 4 s))) (by rw[Ew,Ew,Ew];omega) h.dr) ?_;refine Ae (Yz hb (s:=tl 1 (tl 1 (tl 1 (tl 4 s)))) (by rw[Ew,Ew,Ew,Ew];omega) h.c2) ?_;refine Ae (NJ b (k:=8) (s:=tl 4 (tl 1 (tl 1 (tl 1 (tl 4 s))))) τ (by rw[Ew,Ew,Ew,Ew,Ew];omega)) ?_;refine YZ (AR (by simp only[E_,d5_];omega)) ?_;unfold Aue rest tl;rw[Dq (ω:i<1000000000)]
def TC:Nat->ByteArray->ByteArray
 |0,s=>s
 |n+1,s=>TC n (rest s)
def Vq:Nat->ByteArray->List aN
 |0,_=>[]
 |n+1,s=>Aue s::Vq n (rest s)
def Ai1:∀(n:Nat) (s:ByteArray),(Vq n s).length=n
 |0,_=>rfl
 |n+1,s=>by show(Vq n (rest s)).length+1=_;rw[Ai1 n]
def Aca{b:R}(hb:b.small){N:Nat}(hN:N<=8)(u d k c e:Int):∀(m i:Nat) (s:ByteArray) (cs:List aN),i+m=N->cs.length=i->(∀j,j<m->Ck b (TC j s))->Cj (λx=>letI a:=x.2.2.2.1.2.2;letI f:=a.2.2;letI g:=x.2.1.2;Cg x.1.2.2.2.1 x.1.2.2.2.2.1 x.2.1.1 g.1 g.2.1 g.2.2.1 g.2.2.2.1 x.2.2.1.1 x.2.2.2.1.1 x.2.2.2.1.2.1 a.1 a.2.1 f.1 f.2.1 f.2.2.1 f.2.2.2.1 f.2.2.2.2.1) (m+1) (((),(),(),(N:Int),(i:Int),()),((u,d,k,c,cs,()),(e,()),(s,b.C0,b.E0,b.I0,b.M0,b.J0,b.L0,b.N0,b.B0,()),()))=P (((),(),()),((u,d,k,c,cs++Vq m s,()),(e,()),(TC m s,b.C0,b.E0,b.I0,b.M0,b.J0,b.L0,b.N0,b.B0,()),()))
 |0,i,s,cs,hm,_,_=>by refine AS ?_;show Cg (N:Int) (i:Int) u d k c cs e s b.C0 b.E0 b.I0 b.M0 b.J0 b.L0 b.N0 b.B0=_;unfold Cg;rw[f_ (ω:¬(i:Int)<(N:Int)),c_,show cs++Vq 0 s=cs from Y_ cs];rfl
 |m+1,i,s,cs,hm,hl,h=>by have h1:=Ahz hb (h 0 ω) (i:=i) (N:=N) ω hN u d k c (cs:=cs) ω e;have h2:=Aca hb hN u d k c e m (i+1) (rest s) (cs++[Aue s]) ω (by rw[g_,G_,hl]) λj hj=>h (j+1) ω;rw[M_,e0_]at h2;exact(Cl h1).trans h2
def Ahy(hb:b.small){N:Nat}(hN:N<=8)(h:∀j,j<N->Ck b (TC j s))(u d k c e:Int):Eo (((),(),(),(N:Int),0,()),((u,d,k,c,[],()),(e,()),(s,b.C0,b.E0,b.I0,b.M0,b.J0,b.L0,b.N0,b.B0,()),()))=P (((),(),()),((u,d,k,c,Vq N s,()),(e,()),(TC N s,b.C0,b.E0,b.I0,b.M0,b.J0,b.L0,b.N0,b.B0,()),())):=Aw (Aca hb hN u d k c e N 0 s [] (o_ _) rfl h) ω
structure Hd(b:Bldg)(s:ByteArray):Prop where
 size:10<=s.size
 u:vb (bv (IntKind.u32.wrap (leV s 4))&&& ~~~ bv (AW b).1)=0
 d:vb (bv (IntKind.u32.wrap (leV (tl 4 s) 4))&&& ~~~ bv (AW b).2)=0
 kind:((byN (tl 4 (tl 4 s)) 0:Nat):Int)<=8
 car:((byN (tl 1 (tl 4 (tl 4 s))) 0:Nat):Int)<=(b.B0.length:Int)-1
 none:byN (tl 4 (tl 4 s)) 0=0->byN (tl 1 (tl 4 (tl 4 s))) 0=0
 cars:∀j,j<b.B0.length->Ck b (TC j (tl 1 (tl 1 (tl 4 (tl 4 s)))))
def hdP(n:Nat)(s:ByteArray):Inp:=⟨(I aB (leV s 4),aB.wrap (leV (tl 4 s) 4)),((byN (tl 4 (tl 4 s)) 0:Nat):Int),((byN (tl 1 (tl 4 (tl 4 s))) 0:Nat):Int),Vq n (tl 1 (tl 1 (tl 4 (tl 4 s))))⟩
def Aff(hb:b.small)(hcode:b.code=0)(h:Hd b s):∃z,ES s b.C0 b.E0 b.I0 b.M0 b.J0 b.L0 b.N0 b.B0=P (((),(),()),((hdP b.B0.length s).tup,((0:Int),()),z)):=by
 have hcc:=Ah hcode;have hz:=h.size;refine⟨((TC b.B0.length (tl 1 (tl 1 (tl 4 (tl 4 s)))),b.C0,b.E0,b.I0,b.M0,b.J0,b.L0,b.N0,b.B0,()),()),?_⟩;unfold ES;refine Ae (Aht hb hcode ω h.u h.d) ?_;refine Ae (Kg b (s:=tl 4 (tl 4 s)) (by rw[Ew,Ew];omega) h.kind) ?_;refine Ae (Kg b (s:=tl 1 (tl 4 (tl 4 s))) (by rw[Ew,Ew,Ew];omega) (by show _<=O.wrap ((b.B0.length:Int)-1);rw[Aa ω ω];exact h.car)) ?_;refine Ae (a:=(((),(),(),()),((I aB (leV s 4),aB.wrap (leV (tl 4 s) 4),((byN (tl 4 (tl 4 s)) 0:Nat):Int),((byN (tl 1 (tl 4 (tl 4 s))) 0:Nat):Int),([]:List aN),()),((0:Int),()),(tl 1 (tl 1 (tl 4 (tl 4 s))),b.C0,b.E0,b.I0,b.M0,b.J0,b.L0,b.N0,b.B0,()),()))) ?_ (Ae (Ahy hb hcc.2 h.cars _ _ _ _ 0) rfl);show(bif((byN (tl 4 (tl 4 s)) 0:Nat):Int) !=(0:Int)then(HB H).bind _ else(HB (((byN (tl 1 (tl 4 (tl 4 s))) 0:Nat):Int)==0)).bind _)=_;cases q:(((byN (tl 4 (tl 4 s)) 0:Nat):Int) !=(0:Int))with
 |true=>rfl
 |false=>
  have q:((byN (tl 4 (tl 4 s)) 0:Nat):Int)=0:=by simpa using q
  rw[h.none ω];rfl
def Abs(hb:b.small)(hcode:b.code=0)(hs:s.size<=1000000)(h:DK b s=0)(hd:Hd b ((s.extract 0 (s.size-2)).extract 2 (s.size-2))):ER b.C0 b.E0 b.I0 b.M0 b.J0 b.L0 b.N0 b.B0 s=P (((),(0:Int),()),((hdP b.B0.length ((s.extract 0 (s.size-2)).extract 2 (s.size-2))).tup,())):=by
 obtain⟨y,h1,hy⟩:=Zu hcode s hs;obtain⟨z,h2⟩:=Aff hb hcode hd;unfold ER;refine Ae (Yy hcode) (Ae h1 ?_);cases y with
 |inl z=>exact absurd h hy.2
 |inr w=>obtain⟨_,e1,e2⟩:=hy;show(bif w.1.2.1 !=0 then _ else _)=_;rw[e1];show bB _ _=_;rw[e2];exact Ae h2 rfl
def Bk1{a c:Nat}(ha:a<2^i)(hc:c<256)(hi:i+8<=64):orL (a:Int) (I V (I V (c:Int)*((2^i:Nat):Int)))=((a+c*2^i:Nat):Int):=by
 have h1:c*2^i<2^(i+8):=by rw[Nat.pow_add,f6_];exact Nat.mul_lt_mul_of_pos_left hc (Nat.two_pow_pos i)
 have h2:(2:Nat)^(i+8)<=2^64:=Nat.pow_le_pow_right τ hi;have h3:(2:Nat)^i<=2^64:=Nat.pow_le_pow_right τ ω;have h4:(2:Nat)^64=18446744073709551616:=by decide
 have h5:=Nat.or_lt_two_pow (n:=64) (x:=a) (y:=c*2^i) ω ω;have h6:a|||c*2^i=a+c*2^i:=by rw[Nat.or_comm,<-Nat.shiftLeft_eq,<-Nat.shiftLeft_add_eq_or_of_lt ha,d7_]
 unfold orL;rw[Gy (n:=(c:Int)) ω ω,show(c:Int)*((2^i:Nat):Int)=((c*2^i:Nat):Int)by rw[Int.natCast_mul],<-h6];generalize c*2^i=p at*;rw[Gy (n:=(p:Int)) ω ω];rw[My,bI,a0_,a0_];rw[show((a:Int)%((2^IntKind.bits .u64:Nat):Int)).toNat=a by simp only[IntKind.bits];omega,show((p:Int)%((2^IntKind.bits .u64:Nat):Int)).toNat=p by simp only[IntKind.bits];omega];exact Gy ω ω
def leN(s:ByteArray):Nat->Nat
 |0=>0
 |i+1=>leN s i+byN s i*2^(8*i)
def Bb7(s:ByteArray):∀i,leN s i<2^(8*i)
 |0=>by show 0<1;decide
 |i+1=>by
  have h:=Bb7 s i;have hb:=Sg s i;show leN s i+byN s i*2^(8*i)<2^(8*i+8);rw[Nat.pow_add]
  have:byN s i*2^(8*i)<=255*2^(8*i):=J_ _ ω
  omega
def Ast(s:ByteArray):∀i,i<=8->leV s i=((leN s i:Nat):Int)
 |0,_=>rfl
 |i+1,h=>by show orL (leV s i) (I V (I V (BG s i)*((2:Int)^(aE (aA (8*(i:Int))) (IntKind.bits V)))))=_;rw[Ast s i ω,NA,show((2:Int)^(aE (aA (8*(i:Int))) (IntKind.bits V)))=((2^(8*i):Nat):Int)by rw[show aE (aA (8*(i:Int))) (IntKind.bits V)=8*i by show min (aA (8*(i:Int))) 64=8*i;omega];norm_cast];exact Bk1 (Bb7 s i) (Sg s i) ω
def Xg(l:List Int):bl (EF l)=l.map λn=>UInt8.ofNat n.toNat:=by simp[bl,EF]
def Ba0{n:Nat}(hi:i<k)(hk:k<=8)(r:ByteArray):byN (nmB (n:Int) k++r) i=n/2^(8*i)%256:=by
 have hl:(DJ (n:Int) k).length=k:=by simp[DJ]
 have hg:(DJ (n:Int) k)[i]?=P ((n/2^(8*i)%256:Nat):Int):=by unfold DJ;rw[b7_,List.getElem?_range hi];show P (I aK (aM (n:Int) ((2:Int)^(aE (8*i) (IntKind.bits .u64)))))=_;rw[show aE (8*i) (IntKind.bits .u64)=8*i by show min (8*i) 64=8*i;omega,P_ _ (bE (Int.pow_pos τ)),show(2:Int)^(8*i)=((2^(8*i):Nat):Int)by norm_cast,<-Int.natCast_ediv];simp only[I,IntKind.signed,IntKind.bits];simp
 unfold byN nmB;rw[Mu,Xg,k_,b9_ (by rw[c8_,hl];exact hi),b7_,hg];show n/2^(8*i)%256%256=_;omega
def Bb8{n k:Nat}(hk:k<=8)(r:ByteArray):∀i,i<=k->leN (nmB (n:Int) k++r) i=n%2^(8*i)
 |0,_=>by show 0=n%1;omega
 |i+1,h=>by show leN _ i+byN _ i*2^(8*i)=n%2^(8*i+8);rw[Bb8 hk r i ω,Ba0 ω hk,Nat.pow_add,Nat.mod_mul,f6_ (2^(8*i))]
def Bb9(n:Int)(hk:k<=8)(hn:0<=n)(r:ByteArray):leV (nmB n k++r) k=((n.toNat%2^(8*k):Nat):Int):=by obtain⟨m,rfl⟩:=c3_ hn;rw[Ast _ _ hk,Bb8 hk r k (y_ k),j_]
def NN{a:ByteArray}(h:a.size=k)(r:ByteArray):tl k (a++r)=r:=by subst h;unfold tl;apply Sf;rw[WC,Mu,List.drop_left' (FT a),d3_,<-FT r];exact a8_ ω
def Bfy(h:0<=n/\n<4294967296)(r:ByteArray):aB.wrap (leV (nmB n 4++r) 4)=n:=by rw[Bb9 n τ h.1,show n.toNat%2^(8*4)=n.toNat by show n.toNat%4294967296=_;omega,f1_ h.1];simp only[I,IntKind.signed,IntKind.bits];simp;omega
def WD(h:0<=n/\n<256)(r:ByteArray):((byN (nmB n 1++r) 0:Nat):Int)=n:=by obtain⟨m,rfl⟩:=c3_ h.1;rw[Ba0 τ τ];show((m/1%256:Nat):Int)=m;omega
def Pu:List aN->ByteArray
 |[]=>noB
 |c::l=>nmB (I V c.H1) 4++(Aep [c.V2,c.K2,c.L2,c.U1,c.Q2,c.Z2]++(nmB (I V c.H2) 1++(nmB (I V c.E2) 1++(nmB (I V c.M2) 4++(nmB ((c.A4:Nat):Int) 8++Pu l)))))
def Akl(c:aN)(l:List aN):Pu (c::l)=nmB (I V c.H1) 4++(Aep [c.V2,c.K2,c.L2,c.U1,c.Q2,c.Z2]++(nmB (I V c.H2) 1++(nmB (I V c.E2) 1++(nmB (I V c.M2) 4++(nmB ((c.A4:Nat):Int) 8++Pu l))))):=rfl
def Bjs(s:ByteArray):s++noB=s:=Sf (by rw[Mu,show bl noB=[]from rfl,Y_])
def Afd:∀(l:List aN) (s:ByteArray),l.foldl SH s=s++Pu l
 |[],s=>(Bjs s).symm
 |c::l,s=>by rw[g5_,Afd l,Akl];unfold SH;simp only[ByteArray.append_assoc]
def XQ(x:Inp):ByteArray:=nmB (I V x.press.1) 4++(nmB (I V x.press.2) 4++(nmB (I V x.kind) 1++(nmB (I V x.car) 1++Pu x.cars)))
def Asl(b:R)(x:Inp):((inV b x).extract 0 ((inV b x).size-2)).extract 2 ((inV b x).size-2)=XQ x:=by
 have e:x.cars.foldl SH (QF b x)=(nmB 165 1++nmB (I V (b.B0.length:Int)) 1)++XQ x:=by rw[Afd];unfold QF Zh XQ;simp only[ByteArray.append_assoc]
 have h2:(nmB 165 1++nmB (I V (b.B0.length:Int)) 1).size=2:=by rw[d3_,Ei,Ei]
 unfold inV;rw[TD,Nat.add_sub_cancel];generalize x.cars.foldl SH (QF b x)=t at e;have e1:(Mf t).extract 0 t.size=t:=by unfold Mf;apply Sf;rw[WC,Mu,V_,Nat.sub_zero];exact e9_ (FT t)
 rw[e1,e];exact NN h2 (XQ x)
def Kn(n:Int):0<=V.wrap n/\V.wrap n<18446744073709551616:=by simp only[I,IntKind.signed,IntKind.bits];simp;exact⟨Int.emod_nonneg _ τ,Int.emod_lt_of_pos _ τ⟩
def Bkh(a b c d e f:Bool)(r:ByteArray):byN (Aep [a,b,c,d,e,f]++r) 0<=63:=by
 have h:∀n:Int,0<=n/\n<64->byN (nmB n 1++r) 0<=63:=λn h=>by
  have:=WD (n:=n) ω r
  omega
 refine h _ ?_;cases a<;>cases b<;>cases c<;>cases d<;>cases e<;>cases f<;>decide
section
variable{b:R}(hb:b.small)
include hb
theorem Apz:4<=2^b.C0.toNat/\2^b.C0.toNat<=(256:Nat):=by have lo:=hb.lo;have hi:=hb.hi;have h:b.C0.toNat=2\/b.C0.toNat=3\/b.C0.toNat=4\/b.C0.toNat=5\/b.C0.toNat=6\/b.C0.toNat=7\/b.C0.toNat=8:=ω;rcases h with h|h|h|h|h|h|h<;>rw[h]<;>decide
theorem Asz(h:flV b n=H)(r:ByteArray):C2 b.C0 (I aB (leV (nmB (I V n) 4++r) 4)):=by have h1:C2 b.C0 (I V n):=RV.1 h;have h2:=Apz hb;obtain⟨h3,h4⟩:=h1;rw[Bfy ω];exact⟨h3,h4⟩
theorem Aru{c:aN}(h:WH b c=H)(l:List aN):Ck b (Pu (c::l))/\rest (Pu (c::l))=Pu l:=by
 have lo:=hb.lo;have hi:=hb.hi;unfold WH at h;simp only[e_]at h;obtain⟨h1,h2,h3,h4⟩:=h;have h3:=An.1 h3;have h4:=An.1 h4;have u:∀n:Int,0<=n/\n<256->V.wrap n=n:=λn h=>Gy h.1 ω;rw[Akl];have t1:=λr=>NN (Ei (I V c.H1) 4) r;have t2:=λr=>NN (Xf [c.V2,c.K2,c.L2,c.U1,c.Q2,c.Z2]) r;have t3:=λr=>NN (Ei (I V c.H2) 1) r;have t4:=λr=>NN (Ei (I V c.E2) 1) r;have t5:=λr=>NN (Ei (I V c.M2) 4) r;have t6:=λr=>NN (Ei ((c.A4:Nat):Int) 8) r;refine⟨⟨?_,?_,?_,?_,?_,?_⟩,?_⟩
 .simp only[d3_,Ei,Xf];omega
 .exact Asz hb h1 _
 .rw[t1];exact Bkh ..
 .rw[t1,t2,u _ ω,WD ω];exact h3.2
 .rw[t1,t2,t3,u _ ω,WD ω];exact h4.2
 .rw[t1,t2,t3,t4];exact Asz hb h2 _
 .unfold rest;rw[t1,t2,t3,t4,t5,t6]
theorem Af7:∀(l:List aN),(∀c∈l,WH b c=H)->∀j,j<l.length->Ck b (TC j (Pu l))
 |[],_,_,hj=>absurd hj (e8_ _)
 |c::l,h,0,_=>(Aru hb (h c (p_ ..)) l).1
 |c::l,h,j+1,hj=>by show Ck b (TC j (rest (Pu (c::l))));rw[(Aru hb (h c (p_ ..)) l).2];exact Af7 l (λa ha=>h a (r_ _ ha)) j (by rw[E_]at hj;omega)
end
def Abh(n:Int)(r:ByteArray):aB.wrap (leV (nmB (I V n) 4++r) 4)=aB.wrap n:=by
 have h:=Kn n;rw[Bb9 _ τ h.1];have e:V.wrap n=n%18446744073709551616:=by simp only[I,IntKind.signed,IntKind.bits];simp
 show aB.wrap (((I V n).toNat%4294967296:Nat):Int)=_;generalize V.wrap n=m at*;simp only[I,IntKind.signed,IntKind.bits];simp;omega
def Baz(n:Int):bv (I aB n)=bv n:=by unfold bv;apply BitVec.eq_of_toNat_eq;simp only[a0_,I,IntKind.signed,IntKind.bits];simp
def Blr(hb:b.small)(hcode:b.code=0){x:Inp}(h:XS b x=H):Hd b (XQ x)/\(hdP b.B0.length (XQ x)).press=(I aB x.press.1,aB.wrap x.press.2)/\(hdP b.B0.length (XQ x)).kind=x.kind/\(hdP b.B0.length (XQ x)).car=x.car:=by
 have hc:=Ah hcode;unfold XS at h;simp only[e_,R_]at h;obtain⟨h1,h2,h3,h4,h5,h6⟩:=h;have h2:=An.1 h2;have h3:=An.1 h3;have u:∀n:Int,0<=n/\n<256->V.wrap n=n:=λn h=>Gy h.1 ω;have t1:=λr=>NN (Ei (I V x.press.1) 4) r;have t2:=λr=>NN (Ei (I V x.press.2) 4) r;have t3:=λr=>NN (Ei (I V x.kind) 1) r;have t4:=λr=>NN (Ei (I V x.car) 1) r;have hw:vb (bv x.press.1&&& ~~~ bv (AW b).1)=0/\vb (bv x.press.2&&& ~~~ bv (AW b).2)=0:=by
  unfold JE isZ at h1;have h1:(Au x.press (AW b)).1=0/\(Au x.press (AW b)).2=0:=by simpa using h1
  exact h1
 have k1:∀r,((byN (nmB (I V x.kind) 1++r) 0:Nat):Int)=x.kind:=λr=>by rw[u _ ω,WD ω]
 have k2:∀r,((byN (nmB (I V x.car) 1++r) 0:Nat):Int)=x.car:=λr=>by rw[u _ ω,WD ω]
 unfold XQ;refine⟨⟨?_,?_,?_,?_,?_,?_,?_⟩,?_,?_,?_⟩
 .simp only[d3_,Ei];omega
 .rw[Abh,Baz];exact hw.1
 .rw[t1,Abh,Baz];exact hw.2
 .rw[t1,t2,k1];exact h2.2
 .rw[t1,t2,t3,k2];exact h3.2
 .rw[t1,t2,t3];intro q;have q1:=k1 (nmB (I V x.car) 1++Pu x.cars);have q2:=k2 (Pu x.cars);rw[q]at q1
  have:x.car=0:=by rw[<-q1]at h4;simpa using h4
  omega
 .rw[t1,t2,t3,t4];intro j hj;exact Af7 hb x.cars (λc hc=>L_.1 h6 c hc) j ω
 .unfold hdP;rw[t1,Abh,Abh]
 .unfold hdP;rw[t1,t2];exact k1 _
 .unfold hdP;rw[t1,t2,t3];exact k2 _
def Bx7(b:R)(x:Inp):Prop:=XS b x=H/\EN x.press
def FrX(b:R)(x:Inp)(s:ByteArray):Prop:=s.size=(inV b x).size/\s.extract 0 (s.size-2)=(inV b x).extract 0 (s.size-2)
def Fr(b:R)(s:ByteArray):Prop:=∃x,Bx7 b x/\FrX b x s
section
variable{b:R}(hb:b.small)(hcode:b.code=0)
end
def Df{l:List α}{j:Nat}(d x:α)(h:i≠j):(l.set i x).getD j d=l.getD j d:=by rw[k_,List.getElem?_set_ne h,<-k_]
section
variable{b:R}(hb:b.small)(hcode:b.code=0)
include hb hcode
end
section
variable{b:R}(hb:b.small)(hcode:b.code=0)
include hb hcode
end
structure InOK(b:Bldg)(x:Inp):Prop where
 press:JE b x.press=true
 pu:EN x.press
 kind:0<=x.kind/\x.kind<=8
 car:0<=x.car/\x.car<(b.B0.length:Int)
 len:x.cars.length=b.B0.length
 flo:∀c∈x.cars,0<=c.H1/\c.H1<4294967296
def Ai0:∀(n:Nat) (s:ByteArray),∀c∈Vq n s,0<=c.H1/\c.H1<4294967296
 |0,_,_,h=>by cases h
 |n+1,s,c,h=>by
  rcases s_.1 h with rfl|h
  .exact IG _
  .exact Ai0 n (rest s) c h
def Fr.good{x:Inp}(h:FrX b x s)(ho:DK b s=0):s=inV b x:=by
 obtain⟨h1,h2⟩:=h;have h3:(Me s).2=0:=by
  unfold DK at ho;cases q1:((s.size:Int) !=14+19*(b.B0.length:Int))with
  |true=>rw[q1]at ho;cases ho
  |false=>
  rw[q1]at ho;cases q2:(I O (BG s 0) !=165)with
  |true=>rw[q2]at ho;cases ho
  |false=>
  rw[q2]at ho;cases q3:(I O (BG s 1) !=(b.B0.length:Int))with
  |true=>rw[q3]at ho;cases ho
  |false=>rw[q3]at ho;exact ho
 have hi:=XO b x;unfold Me at h3;rw[f_ (ω:¬(s.size:Int)<2),c_,h2]at h3;cases q:eqB (Mf ((inV b x).extract 0 (s.size-2))) s with
 |false=>rw[q]at h3;cases h3
 |true=>have q:Mf ((inV b x).extract 0 (s.size-2))=s:=Bj9.1 q;rw[<-q,h1];unfold inV;rw[TD,Nat.add_sub_cancel];generalize x.cars.foldl SH (QF b x)=t;congr 1;unfold Mf;apply Sf;rw[WC,Mu,V_,Nat.sub_zero];exact(e9_ (FT t))
def Agt(h:0<=n/\n<4294967296):aB.wrap n=n:=by simp only[I,IntKind.signed,IntKind.bits];simp;omega
def RdX(b:R)(s:ByteArray):Prop:=∃x:Inp,ER b.C0 b.E0 b.I0 b.M0 b.J0 b.L0 b.N0 b.B0 s=P (((),DK b s,()),(x.tup,()))/\(DK b s≠0->x=Inp.none)/\(DK b s=0->InOK b x)
def Afe(hb:b.small)(hcode:b.code=0)(hs:Fr b s):RdX b s:=by
 have hc:=Ah hcode;obtain⟨x,⟨hx,hu⟩,hf⟩:=hs;have hxl:x.cars.length=b.B0.length:=by unfold XS at hx;simp only[e_,R_]at hx;omega
 have hz:s.size<=1000000:=by rw[hf.1,XO];omega
 by_cases ho:DK b s=0
 .have e:=Fr.good hf ho;subst e;obtain⟨hd,e1,e2,e3⟩:=Blr hb hcode hx;have h:=Abs hb hcode hz ho (by rw[Asl];exact hd);rw[Asl]at h;refine⟨_,by rw[ho];exact h,λg=>absurd ho g,λ_=>?_⟩;unfold XS at hx;simp only[e_,R_]at hx;obtain⟨g1,g2,g3,_⟩:=hx;have g2:=An.1 g2;have g3:=An.1 g3;refine⟨?_,?_,?_,?_,Ai1 _ _,Ai0 _ _⟩
  .rw[e1,Agt hu.1,Agt hu.2];exact g1
  .rw[e1,Agt hu.1,Agt hu.2];exact hu
  .rw[e2];exact g2
  .rw[e3];omega
 .exact⟨Inp.none,Ux hcode hz ho,λ_=>rfl,λg=>absurd g ho⟩
def Vt(n:Int):U (JJ n) λy=>y.1.1=H->2<=n/\n<=32:=by unfold JJ;exact J (Q:=λy=>y.1.1=H->2<=n/\n<=32) (C (λq=>B λg=>⟨l_ q,l_ g⟩) λ_=>B λg=>(by cases g)) λ_ h=>B h
def Akz(hn:2<=n/\n<=32)(f d:Int):U (OS n f d) λy=>y.1.1=H->0<=f/\f<n:=by
 unfold OS;have w:O.wrap (n-1)=n-1:=Aa ω ω;have p:U (bif(d==(2:Int))then bif(decide ((0:Int)<f))then P (((decide (f<n)),()),())else P ((L,()),())else P ((L,()),())) λ(y:(Bool×Unit)×Unit)=>y.1.1=H->0<=f/\f<n:=C (λ_=>C (λq=>B λg=>by have:=l_ q;have:=l_ g;omega) λ_=>B λg=>(by cases g)) λ_=>B λg=>(by cases g)
 exact J (Q:=λy=>y.1.1=H->0<=f/\f<n) (C (λ_=>C (λq=>C (λq2=>B λ_=>by have:=l_ q;have q2:=l_ q2;rw[w]at q2;omega) λ_=>p) λ_=>p) λ_=>p) λ_ h=>B h
def WE(h:0<=n)(a c d:Int):U (KK n a c d) λy=>(0<=y.2.1.1/\y.2.1.1<4294967296)/\U2 y.2.1.2.1 y.2.1.2.2.1:=by unfold KK;exact aC (b_ h) (aG (rfl:Cn ..=_) (B ⟨IG _,IG _,IG _⟩))
def Ang(a c d:Int):U (PP n a c d) λy=>0<=y.1.1/\y.1.1<=1000:=by
 unfold PP;refine J (Vt n) λy1 h1=>C (λ_=>B (show(0:Int)<=0/\(0:Int)<=1000 by decide)) λq=>?_;have h1:=h1 (by simpa using q);refine J (WE ω a c d) λy2 h2=>J (UG h2.1) λy3 h3=>?_;refine J (Q:=λy=>0<=y.1.1/\y.1.1<=510) ?_ λy4 h4=>B ?_
 .unfold SB;refine J (UG h2.2.1) λz1 k1=>J (UG h2.2.2) λz2 k2=>B ?_;show 0<=O.wrap (z1.1.1+z2.1.1)/\O.wrap (z1.1.1+z2.1.1)<=510;rw[Aa ω ω];omega
 .show 0<=O.wrap (y3.1.1+y4.1.1)/\O.wrap (y3.1.1+y4.1.1)<=1000;rw[Aa ω ω];omega
def nf(x:Int):Prop:=-1<=x/\x<=300
def Anh{l:List Int}(hl:l.length<=10){a c:Int}(ha:nf a)(hc:nf c)(hx:∀x∈l,nf x):U (Cw l a c) λy=>0<=y.1.1/\y.1.1<=4400:=by
 unfold Cw;refine aC (f5_ (by simp only[E_,d5_];omega)) ?_;refine J (Q:=λy=>0<=y.1.1/\y.1.1<=4400) ?_ λ_ h=>B h;unfold Hs;have hz:(l++[c]).length<=11:=by rw[g_,G_];omega
 have hall:∀x∈l++[c],nf x:=λx h=>by
  rcases n_.1 h with h|h
  .exact hx x h
  .rw[B_.1 h];exact hc
 refine aX (λk x=>∃(n p:Int) (i:Nat),x=((n,p,l++[c],((l++[c]).length:Int),(i:Int),()),((a,()),(c,()),()))/\i+k=(l++[c]).length/\nf p/\0<=n/\n<=400*(i:Int)) ?_ (l++[c]).length ⟨0,a,0,rfl,ω,ha,τ,τ⟩ ω;rintro k x ⟨n,p,i,rfl,hk,hp,hn,hn2⟩;show U (Ko n p (l++[c]) ((l++[c]).length:Int) (i:Int) a c) _;unfold Ko;refine C (λq=>?_) λ_=>B (ω:0<=n/\n<=4400);have q:=l_ q;simp only[Dq (ω:i<1000000000)];have hv:=Bfj hall (i:=i) (d:=(0:Int)) ω;refine aC (Ac ω ω) (B ⟨k-1,ω,_,_,i+1,rfl,ω,hv,?_⟩);show 0<=O.wrap (n+_)/\O.wrap (n+_)<=_;rw[j_];generalize(l++[c]).getD i 0=z at hv|-;unfold nf at hp hv;rw[Aa (n:=z-p) ω ω,Aa (n:=p-z) ω ω];by_cases g:z-p<p-z
 .rw[b_ g,Z,Aa ω ω];omega
 .rw[f_ g,c_,Aa ω ω];omega
def Aqx(n f w a c d g e:Int):U (Rx n f w a c d g e) λy=>-1<=y.1.1/\y.1.1<=4400:=by
 unfold Rx;have no:(-1:Int)<=-1/\(-1:Int)<=4400:=by decide
 refine J (Vt n) λy1 h1=>C (λ_=>B no) λq1=>C (λ_=>B no) λq2=>C (λ_=>B no) λq4=>C (λ_=>B no) λ_=>C (λ_=>B no) λ_=>?_;have h1:=h1 (by simpa using q1);have q2:=C_ q2;have q4:=C_ q4;refine J (Akz h1 g e) λy2 h2=>C (λ_=>B no) λq3=>?_;have h2:=h2 (by simpa using q3);refine J (WE ω a c d) λy3 _=>aC (b_ ω) (aC (b_ h2.1) ?_);refine J (Ap0 _) λy4 h4=>J (Aly _) λy5 h5=>?_;have nf6:nf (I O (y5.1.1-1)):=by rw[Aa ω ω];exact⟨ω,ω⟩
 have nf4:nf y4.1.1:=⟨ω,ω⟩
 have nff:nf f:=⟨ω,ω⟩
 have nfg:nf g:=⟨ω,ω⟩
 generalize O.wrap (y5.1.1-1)=z at nf6;have all:nf y4.1.1/\nf z/\nf f/\nf g:=⟨nf4,nf6,nff,nfg⟩;refine J (Q:=λy=>nf y.1.2.2.1/\nf y.1.2.2.2.1/\nf y.2.1.1/\nf y.2.2.1.1) ?_ λy6 h6=>J (Q:=λy=>nf y.1.2.2.1/\nf y.1.2.2.2.1/\nf y.2.1.1/\nf y.2.2.1.1) ?_ λy7 h7=>?_
 .exact C (λ_=>C (λ_=>B all) λ_=>C (λ_=>B all) λ_=>B all) λ_=>C (λ_=>B all) λ_=>B all
 .exact C (λ_=>B h6) λ_=>C (λ_=>B h6) λ_=>B h6
 have p:∀(l:List Int) {a c:Int},l.length<=10->nf a->nf c->(∀x∈l,nf x)->U (bB (Cw l a c) λy10=>P ((y10.1.1,()),())) λy=>-1<=y.1.1/\y.1.1<=4400:=λl a c hl ha hc hx=>J (Anh hl ha hc hx) λy h=>B ⟨Int.le_trans τ h.1,h.2⟩;have m1:∀{x:Int},nf x->∀y∈[x],nf y:=λh y hy=>by rw[B_.1 hy];exact h
 have m2:∀{x z:Int},nf x->nf z->∀y∈[x,z],nf y:=λh h2 y hy=>by
  rcases s_.1 hy with rfl|hy
  .exact h
  .exact m1 h2 y hy
 refine C (λ_=>p _ (a3_ _) h7.2.2.1 h7.2.2.2 λx hx=>by cases hx) λ_=>J (Q:=λy=>nf y.1.2.2.1/\nf y.1.2.2.2.1/\nf y.2.1.1/\nf y.2.2.1.1) ?_ λy9 h9=>?_
 .exact C (λ_=>B h7) λ_=>B h7
 obtain⟨k1,k2,k3,k4⟩:=h9;exact C (λ_=>p _ (show(1:Nat)<=10 by decide) k3 k4 (m1 k2)) λ_=>C (λ_=>p _ (show(1:Nat)<=10 by decide) k3 k4 (m1 k1)) λ_=>C (λ_=>p _ (show(2:Nat)<=10 by decide) k3 k4 (m2 k2 k1)) λ_=>p _ (show(2:Nat)<=10 by decide) k3 k4 (m2 k1 k2)
def Qz(h:b.code=0){c:Car}(hc:c∈b.B0):Bl b.C0 c=H:=by
 unfold Bldg.code at h;cases h1:inR 2 32 b.C0<;>rw[h1]at h
 .cases h
 cases h2:inR 1 8 (b.B0.length:Int)<;>rw[h2]at h
 .cases h
 cases h3:inR 1 16 b.E0<;>rw[h3]at h
 .cases h
 cases h4:inR 1 10000 b.M0<;>rw[h4]at h
 .cases h
 cases h5:b.B0.all (Bl b.C0)<;>rw[h5]at h
 .cases h
 exact L_.1 h5 c hc
def Aet(h:b.code=0)(hi:i<b.B0.length):(0<=(b.B0.getD i BL).T2/\(b.B0.getD i BL).T2<=10000)/\(0<=(b.B0.getD i BL).J1/\(b.B0.getD i BL).J1<=10000)/\(0<=(b.B0.getD i BL).Q1/\(b.B0.getD i BL).Q1<=10000)/\0<=(b.B0.getD i BL).J2/\(b.B0.getD i BL).J2<=10000:=by have ht:Bl b.C0 (b.B0.getD i BL)=H:=Qz h (AL _ hi);unfold Bl at ht;simp only[Z_,h3_,d6_,e_,An]at ht;omega
def Vs(b:R)(car:Int)(v:aD)(floor dir:Int):U (Fp b.C0 b.E0 b.I0 b.M0 b.J0 b.L0 b.N0 b.B0 car v.L3 v.O3 v.R3 v.C4 v.D0 v.H0 v.A4 v.U3 v.B3 v.Y2 v.Z1 v.N1 floor dir) λy=>0<=y.1.1/\y.1.1<=1000000:=by
 unfold Fp;have one:(0:Int)<=1000000/\(1000000:Int)<=1000000:=by decide
 refine aG (AC b) (C (λ_=>B one) λhc=>C (λ_=>B one) λg1=>C (λ_=>B one) λg2=>?_);have g1:=C_ g1;have g2:=C_ g2;have hcode:b.code=0:=by simpa using hc
 have ib:inB car b.B0.length=H:=Ac ω ω;refine J (Q:=λy=>y.1.1=car/\y.2.1=b.tup) (C (λ_=>B ⟨rfl,rfl⟩) λ_=>B ⟨rfl,rfl⟩) λy2 h2=>?_;obtain⟨⟨yc,ya⟩,yb,yv⟩:=y2;obtain⟨e1,e2⟩:=h2;simp only at e1 e2;subst e1 e2;have ht:=Aet hcode (ω:yc.toNat<b.B0.length);refine J (Aqx ..) λy3 h3=>C (λ_=>B one) λq3=>aC ib ?_;have q3:=C_ q3;refine J (Ang ..) λy4 h4=>B ?_;have key:∀n:Int,0<=n->0<=(bif decide (1000000<n)then(1000000:Int)else n)/\(bif decide (1000000<n)then(1000000:Int)else n)<=1000000:=λn hn=>by
  by_cases g:1000000<n
  .rw[b_ g];exact one
  .rw[f_ g,c_];omega
 refine key _ ?_;show 0<=O.wrap (I O (y3.1.1*(b.B0.getD yc.toNat BL).T2)+O.wrap (y4.1.1*O.wrap (I O (2*(b.B0.getD yc.toNat BL).J1)+(b.B0.getD yc.toNat BL).Q1)));generalize b.B0.getD yc.toNat BL=c at ht;have k1:0<=y3.1.1*c.T2/\y3.1.1*c.T2<=4400*10000:=⟨Int.mul_nonneg ω ω,Int.mul_le_mul ω ω ω τ⟩
 rw[Aa (n:=2*c.J1) ω ω,Aa (n:=2*c.J1+c.Q1) ω ω];have k2:0<=y4.1.1*(2*c.J1+c.Q1)/\y4.1.1*(2*c.J1+c.Q1)<=1000*30000:=⟨Int.mul_nonneg ω ω,Int.mul_le_mul ω ω ω τ⟩
 generalize y4.1.1*(2*c.J1+c.Q1)=p at k2;generalize y3.1.1*c.T2=q at k1;rw[Aa (n:=q) ω ω,Aa (n:=p) ω ω,Aa ω ω];omega
def Aiv(n:Int):Prop:=0<=n/\n<4294967296
structure View.ok(v:View):Prop where
 c:Aiv v.Y2
 u:Aiv v.Z1
 d:Aiv v.N1
def Anx(b:R)(car:Int)(v:aD)(floor dir:Int):Option ((Int×Unit)×Unit):=Fp b.C0 b.E0 b.I0 b.M0 b.J0 b.L0 b.N0 b.B0 car v.L3 v.O3 v.R3 v.C4 v.D0 v.H0 v.A4 v.U3 v.B3 v.Y2 v.Z1 v.N1 floor dir
def SJ(b:R)(car:Int)(v:aD)(floor dir:Int):Int:=match Anx b car v floor dir with|some r=>r.1.1|none=>0
def Asg(_hb:b.small){v:aD}(_hv:v.ok)(car floor dir:Int):Anx b car v floor dir=P ((SJ b car v floor dir,()),()):=by obtain⟨r,h,_⟩:=Vs b car v floor dir;have h':Anx b car v floor dir=P r:=h;rw[show SJ b car v floor dir=r.1.1 by unfold SJ;rw[h']];exact h'
def Bkd(b:R)(car:Int)(v:aD)(floor dir:Int):0<=SJ b car v floor dir/\SJ b car v floor dir<=1000000:=by obtain⟨r,h,h2⟩:=Vs b car v floor dir;have h':Anx b car v floor dir=P r:=h;rw[show SJ b car v floor dir=r.1.1 by unfold SJ;rw[h']];exact h2
def Vy(v:aD):Bool:=v.A4==3||v.A4==4
def Re(v:aD):HY v.L3 v.O3 v.R3 v.C4 v.D0 v.H0 v.A4 v.U3 v.B3 v.Y2 v.Z1 v.N1=P ((Vy v,()),()):=by unfold HY Vy;cases v.A4==3<;>rfl
def YY(a b:Int×Int):Bool:=decide (a.1<b.1)||(a.1==b.1&&decide (a.2<b.2))
def Uf(a b:Int×Int):JG a.1 a.2 b.1 b.2=P ((YY a b,()),()):=by
 unfold JG YY;by_cases h:a.1=b.1
 .by_cases h':a.2=b.2
  .rw[h,h',m_,m_,f_ ω,f_ ω];rfl
  .rw[h,m_,Ao h',f_ ω];rfl
 .rw[Ao h];cases decide (a.1<b.1)<;>rfl
def Aq(vs:List aD)(i:Int):aD:=vs.getD i.toNat (aW L L L L 0 0 0 0 0 0 0 0)
def okViews(vs:List aD):Prop:=∀v∈vs,v.ok
def View.ok_none:View.ok (aW L L L L 0 0 0 0 0 0 0 0):=⟨⟨τ,τ⟩,⟨τ,τ⟩,⟨τ,τ⟩⟩
def okViews.at(h:okViews vs)(i:Int):(Aq vs i).ok:=by
 unfold Aq;rw[k_];cases hq:vs[i.toNat]? with
 |none=>exact View.ok_none
 |some v=>exact h v (v_ hq)
def IC(b:R)(vs:List aD)(floor dir:Int)(car:Int):Int×Int:=((bif Vy (Aq vs car)then 1 else 0),SJ b car (Aq vs car) floor dir)
def Rf(hb:b.small)(hv:okViews vs){car:Int}(hc:0<=car/\car<vs.length)(floor dir:Int):
  Mj b.C0 b.E0 b.I0 b.M0 b.J0 b.L0 b.N0 b.B0 vs car floor dir=P (((),()),(((IC b vs floor dir car).1,(IC b vs floor dir car).2,()),())):=by
 unfold Mj;have e:Fp b.C0 b.E0 b.I0 b.M0 b.J0 b.L0 b.N0 b.B0 car (Aq vs car).L3 (Aq vs car).O3 (Aq vs car).R3 (Aq vs car).C4 (Aq vs car).D0 (Aq vs car).H0 (Aq vs car).A4 (Aq vs car).U3 (Aq vs car).B3 (Aq vs car).Y2 (Aq vs car).Z1 (Aq vs car).N1 floor dir=_:=Asg hb (hv.at car) car floor dir;rw[Ac hc.1 hc.2];show(Fp b.C0 b.E0 b.I0 b.M0 b.J0 b.L0 b.N0 b.B0 car (Aq vs car).L3 (Aq vs car).O3 (Aq vs car).R3 (Aq vs car).C4 (Aq vs car).D0 (Aq vs car).H0 (Aq vs car).A4 (Aq vs car).U3 (Aq vs car).B3 (Aq vs car).Y2 (Aq vs car).Z1 (Aq vs car).N1 floor dir).bind (λy1=>(HY (Aq vs car).L3 (Aq vs car).O3 (Aq vs car).R3 (Aq vs car).C4 (Aq vs car).D0 (Aq vs car).H0 (Aq vs car).A4 (Aq vs car).U3 (Aq vs car).B3 (Aq vs car).Y2 (Aq vs car).Z1 (Aq vs car).N1).bind (λy2=>bif y2.1.1 then P (((),()),(((1:Int),y1.1.1,()),()))else P (((),()),(((0:Int),y1.1.1,()),()))))=_;rw[e,a_,Re,a_];unfold IC;cases Vy (Aq vs car)<;>rfl
def Ny(b:R)(vs:List aD)(floor dir except:Int)(i best:Int):Int:=bif !(Aq vs i).L3||i==except then best else bif best==-1||YY (IC b vs floor dir i) (IC b vs floor dir best)then i else best
def Vl(b:R)(vs:List aD)(floor dir except:Int):Nat->Nat->Int->Int
 |0,_,best=>best
 |m+1,i,best=>Vl b vs floor dir except m (i+1) (Ny b vs floor dir except i best)
def Ev(b:R)(vs:List aD)(floor dir except:Int):Int:=bif b.code !=0||(vs.length:Int) !=(b.B0.length:Int)then -1 else Vl b vs floor dir except vs.length 0 (-1)
def Sd(vs:List aD)(best:Int):Prop:=best=-1\/(0<=best/\best<vs.length)
def Ab3{floor dir except:Int}(hi:i<vs.length){best:Int}(h:Sd vs best):Sd vs (Ny b vs floor dir except i best):=by
 unfold Ny;cases(!(Aq vs i).L3||(i:Int)==except)with
 |true=>exact h
 |false=>
  simp only[c_];cases(best==-1||YY (IC b vs floor dir i) (IC b vs floor dir best))with
  |true=>exact .inr (by simp only[Z];omega)
  |false=>exact h
def Sc{b:R}(hb:b.small){vs:List aD}(hv:okViews vs)(hl:vs.length<=100)(floor dir except:Int) :
  ∀(m i:Nat) (best l0 l1:Int),i+m=vs.length->Sd vs best->(best≠ -1->(l0,l1)=IC b vs floor dir best)->
   Cj (λx=>letI a:=x.2.1.2.2;letI c:=x.1.2.2.2.2.2;letI d:=a.2.2;GE x.1.1 x.1.2.1 x.1.2.2.1 x.1.2.2.2.1 c.1 c.2.2.1 c.2.2.2.1 c.2.2.2.2.1 x.2.1.1 x.2.1.2.1 a.1 a.2.1 d.1 d.2.1 d.2.2.1 d.2.2.2.1 x.2.2.1.1 x.2.2.1.2.1) (m+1) ((vs,floor,dir,except,(),best,(),vs,(vs.length:Int),(i:Int),()),(b.tup,(l0,l1,()),()))=P ((Vl b vs floor dir except m i best,()),())
 |0,i,best,l0,l1,hi,hin,hr=>by
  refine AS ?_;show GE vs floor dir except best vs (vs.length:Int) (i:Int) b.C0 b.E0 b.I0 b.M0 b.J0 b.L0 b.N0 b.B0 l0 l1=_;unfold GE;have e:decide ((i:Int)<(vs.length:Int))=L:=by simp;omega
  rw[e];rfl
 |m+1,i,best,l0,l1,hi,hin,hr=>by
  have hi':i<vs.length:=ω;have e:decide ((i:Int)<(vs.length:Int))=H:=by simp;omega
  have ib:inB (i:Int) vs.length=H:=Ac ω ω;have w:O.wrap ((i:Int)+1)=((i+1:Nat):Int):=by rw[Aa ω ω];omega
  have hs:∃l0' l1',(Ny b vs floor dir except i best≠ -1->(l0',l1')=IC b vs floor dir (Ny b vs floor dir except i best))/\GE vs floor dir except best vs (vs.length:Int) (i:Int) b.C0 b.E0 b.I0 b.M0 b.J0 b.L0 b.N0 b.B0 l0 l1=P (.inl ((vs,floor,dir,except,(),Ny b vs floor dir except i best,(),vs,(vs.length:Int),((i+1:Nat):Int),()),(b.tup,(l0',l1',()),()))):=by
   unfold GE;have k1:=Rf hb hv (car:=(i:Int)) ω floor dir;rw[e,ib,w];simp only[Z];unfold Ny;rw[show vs.getD (aA (i:Int)) (aW L L L L 0 0 0 0 0 0 0 0)=Aq vs (i:Int)from rfl];cases(Aq vs (i:Int)).L3 with
   |false=>exact⟨l0,l1,hr,rfl⟩
   |true=>
    simp only[t_,c_,bD];cases(i:Int)==except with
    |true=>exact⟨l0,l1,hr,rfl⟩
    |false=>
     simp only[c_,k1,a_];rcases hin with hbest|hbest
     .subst hbest;rw[show((-1:Int)==-1)=H from rfl];simp only[Z,a_,w,Bool.true_or];exact⟨_,_,λ_=>rfl,rfl⟩
     .have hr':=hr ω;have e1:l0=(IC b vs floor dir best).1:=f8_ Prod.fst hr';have e2:l1=(IC b vs floor dir best).2:=f8_ Prod.snd hr';subst e1 e2;rw[Ao (ω:¬best=-1)];simp only[c_,a_,bD,Uf];cases YY (IC b vs floor dir i) (IC b vs floor dir best)with
      |true=>simp only[Z,w];exact⟨_,_,λ_=>rfl,rfl⟩
      |false=>simp only[c_,w];exact⟨_,_,λ_=>rfl,rfl⟩
  obtain⟨l0',l1',h1,h2⟩:=hs;exact(Cl h2).trans (Sc hb hv hl floor dir except m (i+1) _ l0' l1' ω (Ab3 hi' hin) h1)
def PA(hb:b.small)(hv:okViews vs)(hl:vs.length<=100)(floor dir except:Int):
  HM b.C0 b.E0 b.I0 b.M0 b.J0 b.L0 b.N0 b.B0 vs floor dir except=P ((Ev b vs floor dir except,()),()):=by
 unfold HM Ev;rw[AC,a_];cases b.code !=0 with
 |true=>rfl
 |false=>
  simp only[c_,bD];cases(vs.length:Int) !=(b.B0.length:Int)with
  |true=>rfl
  |false=>have h:=Aw (Sc hb hv hl floor dir except vs.length 0 (-1) 0 0 ω (.inl rfl) (λh=>absurd rfl h)) ω;have h':Ky ((vs,floor,dir,except,(),(-1:Int),(),vs,(vs.length:Int),(0:Int),()),(b.tup,((0:Int),(0:Int),()),()))=_:=h;simp only[c_];refine(f8_ (λz=>bB z _) h').trans ?_;rfl
def Amr{b:R}{vs:List aD}{floor dir except:Int}:∀(m i:Nat) (best:Int),i+m=vs.length->Sd vs best->Sd vs (Vl b vs floor dir except m i best)
 |0,_,_,_,h=>h
 |m+1,i,best,hi,h=>Amr m (i+1) _ ω (Ab3 ω h)
def Tg(b:R)(vs:List aD)(floor dir except:Int):Sd vs (Ev b vs floor dir except):=by
 unfold Ev;cases(b.code !=0||(vs.length:Int) !=(b.B0.length:Int))with
 |true=>exact .inl rfl
 |false=>exact Amr vs.length 0 (-1) ω (.inl rfl)
def Aat(b:R)(vs:List aD)(e:aF)(x n:Int):Bool:=((Aq vs e.R0).R3&&(x==0&&YY (IC b vs e.D0 e.H0 n) (IC b vs e.D0 e.H0 e.R0)))||(!(Aq vs e.R0).R3&&(Vy (Aq vs e.R0)&&!Vy (Aq vs n)))
def Lo(b:R)(vs:List aD)(e:aF)(x:Int):Int:=bif Ev b vs e.D0 e.H0 e.R0==-1 then -1 else bif Aat b vs e x (Ev b vs e.D0 e.H0 e.R0)then Ev b vs e.D0 e.H0 e.R0 else -1
def EZ(b:R)(vs:List aD)(e:aF)(x:Int):aF:=
 bif e.R0==-2 then e
 else bif e.R0==-1 then⟨e.D0,e.H0,Ev b vs e.D0 e.H0 (-1),e.D1,e.D2⟩
 else bif(Aq vs e.R0).C4 then(bif decide ((b.B0.length:Int)<e.D1)then⟨e.D0,e.H0,-2,e.D1,e.D2⟩else⟨e.D0,e.H0,Ev b vs e.D0 e.H0 e.R0,e.D1+1,e.D2⟩)
 else bif !e.D2&&decide (e.D1<=(b.B0.length:Int))then(bif Lo b vs e x != -1 then⟨e.D0,e.H0,Lo b vs e x,e.D1+1,H⟩else e)
 else e
def Entry.tup(e:aF):Int×Int×Int×Int×Bool×Unit:=(e.D0,e.H0,e.R0,e.D1,e.D2,())
section
variable{b:R}(hb:b.small){vs:List aD}(hv:okViews vs)(hl:vs.length<=100){e:aF}
include hb hv hl
theorem Adq(hc:0<=e.R0/\e.R0<vs.length)(x:Int):Hr b.C0 b.E0 b.I0 b.M0 b.J0 b.L0 b.N0 b.B0 vs e.D0 e.H0 e.R0 e.D1 e.D2 x=P ((Lo b vs e x,()),()):=by
 unfold Hr Lo;have hn:=Tg b vs e.D0 e.H0 e.R0;rw[PA hb hv hl];generalize Ev b vs e.D0 e.H0 e.R0=n at hn;simp only[a_];rcases hn with rfl|hn
 .rfl
 .have k1:=Rf hb hv hn e.D0 e.H0;have k2:=Rf hb hv hc e.D0 e.H0;have f1:=Re (Aq vs e.R0);have f2:=Re (Aq vs n);rw[Ao (ω:¬n=-1),Ac hc.1 hc.2];unfold Aat;unfold Aq at f1 f2|-;simp only[Z,c_];cases hleg:(vs.getD e.R0.toNat (aW L L L L 0 0 0 0 0 0 0 0)).R3 with
  |true=>
   simp only[Z,H_,t_,a9_,Bool.or_false];cases x==0 with
   |true=>simp only[Z,H_,k1,k2,a_,Uf];cases YY (IC b vs e.D0 e.H0 n) (IC b vs e.D0 e.H0 e.R0)<;>rfl
   |false=>rfl
  |false=>
   rw[hleg]at f1;simp only[c_,a9_,d8_,H_,bD,a_,Z,f1];cases Vy (vs.getD e.R0.toNat (aW L L L L 0 0 0 0 0 0 0 0))with
   |false=>rfl
   |true=>simp only[Z,Ac hn.1 hn.2,H_,f2,a_];cases Vy (vs.getD n.toNat (aW L L L L 0 0 0 0 0 0 0 0))<;>rfl
theorem Abu(hc:-2<=e.R0/\e.R0<vs.length)(hm:0<=e.D1/\e.D1<=255)(x:Int):GQ b.C0 b.E0 b.I0 b.M0 b.J0 b.L0 b.N0 b.B0 vs e.D0 e.H0 e.R0 e.D1 e.D2 x=P (((),()),((EZ b vs e x).tup,())):=by
 unfold GQ EZ;have w:O.wrap (e.D1+1)=e.D1+1:=Aa ω ω;by_cases g1:e.R0=-2
 .rw[show(e.R0==-2)=H by rw[g1];rfl];rfl
 rw[Ao g1];by_cases g2:e.R0=-1
 .rw[show(e.R0==-1)=H by rw[g2];rfl];simp only[Z,c_,PA hb hv hl,a_];rfl
 rw[Ao g2];have hc':0<=e.R0/\e.R0<vs.length:=ω;have ho:=Adq hb hv hl hc' x;unfold Aq;simp only[c_,Ac hc'.1 hc'.2,Z];cases hlost:(vs.getD e.R0.toNat (aW L L L L 0 0 0 0 0 0 0 0)).C4 with
 |true=>
  simp only[Z,a_];cases decide ((b.B0.length:Int)<e.D1)with
  |true=>rfl
  |false=>simp only[c_,Ac hc'.1 hc'.2,Z,hlost,PA hb hv hl,a_,w];rfl
 |false=>
  simp only[c_,a_,Ac hc'.1 hc'.2,Z,hlost];cases hmv:e.D2 with
  |true=>simp only[t_,c_,a_,a9_];unfold Entry.tup;rw[hmv]
  |false=>
   rw[hmv]at ho;simp only[d8_,Z,a_,H_];cases decide (e.D1<=(b.B0.length:Int))with
   |false=>simp only[c_];unfold Entry.tup;rw[hmv]
   |true=>
    simp only[Z,ho,a_,w];cases Lo b vs e x != -1 with
    |true=>rfl
    |false=>simp only[c_];unfold Entry.tup;rw[hmv]
end
def Ot(was now:aF):List aI:=(bif was.D1 !=now.D1||!(was.D2==now.D2)then [⟨7,now.D0,now.H0,(bif now.D2 then 1 else 0),now.D1⟩]else [])++(bif was.R0 !=now.R0 then [⟨3,now.D0,now.H0,now.R0,0⟩]else [])
def Aj5(a b:aF):(Ot a b).length<=2:=by unfold Ot;cases(a.D1 !=b.D1||!(a.D2==b.D2))<;>cases a.R0 !=b.R0<;>simp
def Abo(a c:aF):LA a.D0 a.H0 a.R0 a.D1 a.D2 c.D0 c.H0 c.R0 c.D1 c.D2=P ((Ot a c,()),()):=by
 unfold LA Ot;have b1:∀r:aI,Nat.ble (([]:List aI).length+[r].length) 2147483648=H:=λ_=>AR σ;have b2:∀r s:aI,Nat.ble (([]++[s]:List aI).length+[r].length) 2147483648=H:=λ_ _=>AR σ;cases a.D1 !=c.D1<;>cases a.D2==c.D2<;>cases hm:c.D2<;>cases hc:a.R0 !=c.R0<;>
  simp only[Z,c_,a_,t_,d8_,Bool.or_true,Bool.true_or,Bool.or_self,b1,b2,hc]<;>rfl
def Xk(b:R)(i:Int):Car:=b.B0.getD i.toNat (Car.mk 0 0 0 0 0 0 0 0 0)
def Aa9(b:R)(vs:List aD)(e n:aF)(x:Int):Int:=
 bif n.R0 !=e.R0&&decide (0<=n.R0)then(bif decide (1000000<O.wrap (SJ b n.R0 (Aq vs n.R0) e.D0 e.H0+(Xk b n.R0).J2))then 1000000 else O.wrap (SJ b n.R0 (Aq vs n.R0) e.D0 e.H0+(Xk b n.R0).J2))
 else(bif decide (I O (x-1)<0)then 0 else O.wrap (x-1))
def Hx(b:R)(vs:List aD):List aF->List Int->List aI
 |e::t,x::xs=>Ot e (EZ b vs e x)++Hx b vs t xs
 |_,_=>[]
def Ng(b:R)(vs:List aD):List aF->List Int->List Int
 |e::t,x::xs=>Aa9 b vs e (EZ b vs e x) x::Ng b vs t xs
 |_,_=>[]
def Bbe(b:R)(vs:List aD)(e:aF)(x:Int):(EZ b vs e x).D0=e.D0/\(EZ b vs e x).H0=e.H0:=by unfold EZ;cases e.R0==-2<;>cases e.R0==-1<;>cases(Aq vs e.R0).C4<;>cases decide ((b.B0.length:Int)<e.D1)<;>cases(!e.D2&&decide (e.D1<=(b.B0.length:Int)))<;>cases Lo b vs e x != -1<;>exact⟨rfl,rfl⟩
def Bcr(b:R)(vs:List aD)(e:aF)(x:Int):Sd vs (Lo b vs e x):=by
 unfold Lo;cases Ev b vs e.D0 e.H0 e.R0==-1 with
 |true=>exact .inl rfl
 |false=>
  cases Aat b vs e x (Ev b vs e.D0 e.H0 e.R0)with
  |true=>exact Tg ..
  |false=>exact .inl rfl
def Ar9(b:R)(h:-2<=e.R0/\e.R0<vs.length)(x:Int):-2<=(EZ b vs e x).R0/\(EZ b vs e x).R0<vs.length:=by
 have k:∀n:Int,Sd vs n->-2<=n/\n<vs.length:=λn h=>by
  rcases h with rfl|h
  .omega
  .omega
 unfold EZ;by_cases g1:e.R0=-2
 .rw[show(e.R0==-2)=H by rw[g1];rfl];exact h
 rw[Ao g1];by_cases g2:e.R0=-1
 .rw[show(e.R0==-1)=H by rw[g2];rfl];exact k _ (Tg ..)
 rw[Ao g2];simp only[c_];cases(Aq vs e.R0).C4 with
 |true=>
  cases decide ((b.B0.length:Int)<e.D1)with
  |true=>exact⟨by show(-2:Int)<=-2;omega,by show(-2:Int)<_;omega⟩
  |false=>exact k _ (Tg ..)
 |false=>
  cases(!e.D2&&decide (e.D1<=(b.B0.length:Int)))with
  |true=>
   cases Lo b vs e x != -1 with
   |true=>exact k _ (Bcr ..)
   |false=>exact h
  |false=>exact h
def Aja{b:R}:∀{l:List aF}{p:Option aF},Iy b p l=H->∀e∈l,Jn b e=H
 |[],_,_,_,he=>by cases he
 |a::t,p,h,e,he=>by
  simp only[Iy,e_]at h;rcases s_.1 he with rfl|he
  .exact h.1
  .exact Aja h.2.2 e he
def TP(N:List α)(a v:α)(t:List α):(N++a::t).set N.length v=N++v::t:=by
 induction N with
 |nil=>rfl
 |cons h N ih=>simp only[List.cons_append,E_,List.set_cons_succ,ih]
section
variable{b:R}(hb:b.small){vs:List aD}(hv:okViews vs)(hl:vs.length<=100)(hlen:(vs.length:Int)=(b.B0.length:Int)){m:Img}(hm:∀e∈m.A0,Jn b e=H)(hm':m.A0.length<=1000){xs:List Int}(hx:xs.length=m.A0.length)
include hb hv hl hlen hm hm' hx
theorem Ug:∀(k i:Nat) (out:List aI) (N:List Int),i+k=m.A0.length->N.length=i->out.length<=2*i->
  Cj (λx=>letI a:=x.2.2.1.2.2;letI c:=x.1.2.2.2.2;letI d:=x.2.1.2.2;letI f:=a.2.2;letI g:=d.2.2;HS x.1.1 x.1.2.1 c.1 c.2.1 c.2.2.1 c.2.2.2.1 c.2.2.2.2.1 x.2.1.1 x.2.1.2.1 d.1 d.2.1 g.1 g.2.1 g.2.2.1 g.2.2.2.1 x.2.2.1.1 x.2.2.1.2.1 a.1 a.2.1 f.1 f.2.1 f.2.2.1 f.2.2.2.1 f.2.2.2.2.1) (k+1)
   ((xs,vs,(),(),out,N++aR k 0,m.A0,(m.A0.length:Int),(i:Int),()),(b.tup,(b.C0,b.E0,b.I0,b.M0,b.J0,b.L0,b.N0,b.B0,vs,()),()))=P ((out++Hx b vs (m.A0.drop i) (xs.drop i),N++Ng b vs (m.A0.drop i) (xs.drop i),()),())
 |0,i,out,N,hi,hN,ho=>by
  refine AS ?_;show HS xs vs out (N++[]) m.A0 (m.A0.length:Int) (i:Int) b.C0 b.E0 b.I0 b.M0 b.J0 b.L0 b.N0 b.B0 b.C0 b.E0 b.I0 b.M0 b.J0 b.L0 b.N0 b.B0 vs=_;unfold HS;have e:decide ((i:Int)<(m.A0.length:Int))=L:=by simp;omega
  rw[e,show i=m.A0.length by omega,b3_];simp[Hx,Ng]
 |k+1,i,out,N,hi,hN,ho=>by
  have hi':i<m.A0.length:=ω;have hix:i<xs.length:=ω;have e:decide ((i:Int)<(m.A0.length:Int))=H:=by simp;omega
  have ib:inB (i:Int) m.A0.length=H:=Ac ω ω;have ibx:inB (i:Int) xs.length=H:=Ac ω ω;have ibn:inB (i:Int) (N++aR (k+1) (0:Int)).length=H:=Ac ω (by simp;omega);have w:O.wrap ((i:Int)+1)=((i+1:Nat):Int):=by rw[Aa ω ω];omega
  have hok:=AL W hi';have hent:=hm _ hok;simp only[Jn,e_,q_]at hent;obtain⟨_,c1,c2,c3,c4⟩:=hent;have hd:=Abu hb hv hl (e:=m.A0.getD i W) ω ⟨c3,c4⟩ (xs.getD i 0);have hr:=Abo (m.A0.getD i W) (EZ b vs (m.A0.getD i W) (xs.getD i 0));have hin:=Ar9 b (vs:=vs) (e:=m.A0.getD i W) ω (xs.getD i 0);have hrl:=Aj5 (m.A0.getD i W) (EZ b vs (m.A0.getD i W) (xs.getD i 0));have hble:Nat.ble (out.length+(Ot (m.A0.getD i W) (EZ b vs (m.A0.getD i W) (xs.getD i 0))).length) 2147483648=H:=AR ω;have hset:∀v:Int,(N++aR (k+1) (0:Int)).set i v=N++v::aR k 0:=λv=>by rw[<-hN];exact TP N 0 v (aR k 0)
  have hset2:∀v u:Int,(N++v::aR k (0:Int)).set i u=N++u::aR k 0:=λv u=>by rw[<-hN];exact TP N v u (aR k 0)
  have ibn2:∀v:Int,inB (i:Int) (N++v::aR k (0:Int)).length=H:=λv=>Ac ω (by simp;omega);rw[Cm W hi',Cm (0:Int) hix];refine(Cl (x':=((xs,vs,(),(),out++Ot (m.A0.getD i W) (EZ b vs (m.A0.getD i W) (xs.getD i 0)),(N++[Aa9 b vs (m.A0.getD i W) (EZ b vs (m.A0.getD i W) (xs.getD i 0)) (xs.getD i 0)])++aR k 0,m.A0,(m.A0.length:Int),((i+1:Nat):Int),()),(b.tup,(b.C0,b.E0,b.I0,b.M0,b.J0,b.L0,b.N0,b.B0,vs,()),()))) ?_).trans ?_
  .show HS xs vs out (N++aR (k+1) 0) m.A0 (m.A0.length:Int) (i:Int) b.C0 b.E0 b.I0 b.M0 b.J0 b.L0 b.N0 b.B0 b.C0 b.E0 b.I0 b.M0 b.J0 b.L0 b.N0 b.B0 vs=_;unfold HS;rw[e,ib,ibx,show aV 0 0 0 0 L=W from rfl];unfold Entry.tup at hd;simp only[Z,j_,hd,a_,hr,hble,ibn,hset];unfold Aa9;have hest:=Asg hb (hv.at (EZ b vs (m.A0.getD i W) (xs.getD i 0)).R0) (EZ b vs (m.A0.getD i W) (xs.getD i 0)).R0 (m.A0.getD i W).D0 (m.A0.getD i W).H0;unfold Anx Aq at hest;cases hne:((EZ b vs (m.A0.getD i W) (xs.getD i 0)).R0 !=(m.A0.getD i W).R0)with
   |false=>simp only[c_,a_,a9_,M_,e0_,w];rfl
   |true=>
    simp only[Z,a_,H_];by_cases hge:0<=(EZ b vs (m.A0.getD i W) (xs.getD i 0)).R0
    .have ibc:inB (EZ b vs (m.A0.getD i W) (xs.getD i 0)).R0 vs.length=H:=Ac hge hin.2;have ibc':inB (EZ b vs (m.A0.getD i W) (xs.getD i 0)).R0 b.B0.length=H:=Ac hge ω;rw[b_ hge];simp only[Z,ibc,hest,a_,ibc',ibn2,j_,hset2,M_,e0_,w];rfl
    .rw[f_ hge];simp only[c_,M_,e0_,w];rfl
  .rw[Ug k (i+1) _ (N++[_]) ω (by simp;omega) (by rw[g_];omega)];simp only[Hx,Ng,M_,e0_]
end
def QC(xs:List Int):Bool:=xs.all (inR 0 1000000)
def Bcw(n:Int):MI n=P ((!inR 0 1000000 n,()),()):=by
 unfold MI inR;by_cases g:n<0
 .rw[b_ g,f_ (ω:¬0<=n)];rfl
 .rw[f_ g,b_ (ω:0<=n)];by_cases g':1000000<n
  .rw[b_ g',f_ (ω:¬n<=1000000)];rfl
  .rw[f_ g',b_ (ω:n<=1000000)];rfl
def Aqw(hl:xs.length<=maxLen):BK xs=P ((!QC xs,()),()):=by
 have hm:maxLen<=9223372036854775807:=by decide
 have key:∀(k i:Nat),i+k=xs.length->∃y,Cj (λx=>AQ x.1.1 x.1.2.2.1 x.1.2.2.2.1) (k+1) ((xs,(),(xs.length:Int),(i:Int),()),())=P y/\(match y with|.inl _=>(xs.drop i).all (inR 0 1000000)=H|.inr z=>0<=z.1.1/\(xs.drop i).all (inR 0 1000000)=L):=by
  intro k;induction k with
  |zero=>
   intro i hi;refine⟨.inl ((),()),AS ?_,?_⟩
   .show AQ xs (xs.length:Int) (i:Int)=_;unfold AQ;rw[show decide ((i:Int)<(xs.length:Int))=L by simp;omega];rfl
   .rw[show i=xs.length by omega,b3_];rfl
  |succ k ih=>
   intro i hi;have hi':i<xs.length:=ω;have hs:AQ xs (xs.length:Int) (i:Int)=P (bif inR 0 1000000 (xs.getD i 0)then .inl ((xs,(),(xs.length:Int),((i+1:Nat):Int),()),())else .inr (.inr (((i:Int),()),()))):=by
    unfold AQ;have w:O.wrap ((i:Int)+1)=((i+1:Nat):Int):=by rw[Aa ω ω];omega
    rw[show decide ((i:Int)<(xs.length:Int))=H by simp;omega,Ac ω ω,Bcw,w];simp only[Z,j_,a_];cases inR 0 1000000 (xs.getD i 0)<;>rfl
   rw[Cm (0:Int) hi',Z_];cases hq:inR 0 1000000 (xs.getD i 0)with
   |true=>rw[hq]at hs;obtain⟨y,h1,h2⟩:=ih (i+1) ω;exact⟨y,(Cl hs).trans h1,by rw[H_];exact h2⟩
   |false=>rw[hq]at hs;exact⟨_,AS hs,by show(0:Int)<=(i:Int)/\_;exact⟨ω,rfl⟩⟩
 obtain⟨y,h1,h2⟩:=key xs.length 0 ω;have h1':BQ ((xs,(),(xs.length:Int),(0:Int),()),())=P y:=Aw h1 ω;rw[V_]at h2;unfold BK Dl QC;rw[h1'];cases y with
 |inl z=>simp only at h2;rw[h2];rfl
 |inr z=>simp only at h2;rw[h2.2];simp only[a_];rw[b_ h2.1];rfl
def Pt(b:R)(m:Img)(xs:List Int)(vs:List aD):List aI×List Int×Int×Unit:=bif m.ok b&&((xs.length:Int)==(m.A0.length:Int)&&((vs.length:Int)==(b.B0.length:Int)&&QC xs))then(Hx b vs m.A0 xs,Ng b vs m.A0 xs,0,())else([],[],1,())
def Img.ok_all(h:m.ok b=H):b.code=0/\m.G0.length=b.B0.length/\m.O0.length=b.B0.length/\m.K0.length=b.B0.length/\(∀p∈m.G0,0<=p/\p<=4)/\(∀e∈m.A0,Jn b e=H)/\Iy b Option.none m.A0=H:=by unfold Img.ok at h;simp only[e_,R_]at h;obtain⟨h0,h1,h2,h3,h4,h5⟩:=h;exact⟨h0,ω,ω,ω,λp hp=>An.1 (L_.1 h4 p hp),Aja h5,h5⟩
section
variable{b:R}(hb:b.small){vs:List aD}(hv:okViews vs)(hl:vs.length<=100)(m:Img)(hm:m.A0.length<=1000)(hp:m.G0.length<=maxLen)(xs:List Int)(hx:xs.length<=maxLen)
include hb hv hl hm hp hx
theorem Ag2:Ju b.C0 b.E0 b.I0 b.M0 b.J0 b.L0 b.N0 b.B0 m.G0 m.O0 m.K0 m.A0 xs vs=P (Pt b m xs vs,()):=by
 have hmx:1000<=maxLen:=by decide
 unfold Ju Pt;rw[Dv hb m hp ω,Aqw hx];simp only[a_,bne];cases hok:m.ok b with
 |false=>rfl
 |true=>
  cases hq:(xs.length:Int)==(m.A0.length:Int)with
  |false=>rfl
  |true=>
   cases hr:(vs.length:Int)==(b.B0.length:Int)with
   |false=>rfl
   |true=>
    cases QC xs with
    |false=>rfl
    |true=>
     have hq':(xs.length:Int)=(m.A0.length:Int):=by simpa using hq
     have hr':(vs.length:Int)=(b.B0.length:Int):=by simpa using hr
     obtain⟨_,_,_,_,_,hall,_⟩:=Img.ok_all hok;have hlp:=Aw (Ug hb hv hl hr' hall hm (xs:=xs) ω m.A0.length 0 [] [] ω rfl σ) ω;have hlp':MT ((xs,vs,(),(),([]:List aI),aR m.A0.length (0:Int),m.A0,(m.A0.length:Int),(0:Int),()),(b.tup,(b.C0,b.E0,b.I0,b.M0,b.J0,b.L0,b.N0,b.B0,vs,()),()))=_:=hlp;unfold Bldg.tup at hlp';simp only[t_,c_,hq',b_ (ω:(0:Int)<=(m.A0.length:Int)),b_ (d9_ (m.A0.length:Int)),b_ (ω:(m.A0.length:Int)<=2147483648),b2_,Z,j_,hlp',a_,V_,a4_]
end
def ZW(b:R)(vs:List aD):∀(l:List aF) (xs:List Int),(Hx b vs l xs).length<=2*l.length
 |[],_=>by simp[Hx]
 |_::_,[]=>by simp[Hx]
 |e::t,x::xs=>by have h1:=ZW b vs t xs;have h2:=Aj5 e (EZ b vs e x);simp only[Hx,g_,E_];omega
def ZV(b:R)(vs:List aD):∀(l:List aF) (xs:List Int),xs.length=l.length->(Ng b vs l xs).length=l.length
 |[],_,_=>by simp[Ng]
 |_::_,[],h=>by simp at h
 |e::t,x::xs,h=>by simp only[Ng,E_,ZV b vs t xs (by simpa using h)]
def Bcv(b:R)(m:Img)(xs:List Int)(vs:List aD):(Pt b m xs vs).1.length<=2*m.A0.length/\(Pt b m xs vs).2.1.length<=m.A0.length:=by
 unfold Pt;cases hq:(m.ok b&&((xs.length:Int)==(m.A0.length:Int)&&((vs.length:Int)==(b.B0.length:Int)&&QC xs)))with
 |false=>exact⟨σ,σ⟩
 |true=>simp only[e_,R_]at hq;refine⟨ZW b vs m.A0 xs,?_⟩;show(Ng b vs m.A0 xs).length<=_;rw[ZV b vs m.A0 xs ω];exact y_ _
def noV:aD:=aW L L L L 0 0 0 0 0 0 0 0
def noP:Calls:=Calls.mk 0 0
structure Lan where
 lit:List Calls
 gong:List Bool
 cl:Int×Int
def Lan.tup(l:Lan):List Calls×List Bool×Int×Int×Unit:=(l.lit,l.gong,l.cl.1,l.cl.2,())
def Lan.none:Lan:=⟨[],[],(0,0)⟩
def NL(b:R)(vs:List aD)(i:Nat)(s:Lan):Int×Int:=Au (DE b (vs.getD i noV)) s.cl
def Ln(b:R)(vs:List aD)(ps:List Calls)(i:Nat)(s:Lan):Lan:=⟨s.lit++[Calls.mk (NL b vs i s).1 (NL b vs i s).2],s.gong++[!isZ (Au (NL b vs i s) ((ps.getD i noP).Up,(ps.getD i noP).B4))],BD s.cl (NL b vs i s)⟩
def Dk(b:R)(vs:List aD)(ps:List Calls):Lan:=AV (Ln b vs ps) vs.length 0 Lan.none
def Aft(b:R)(vs:List aD)(ps:List Calls):Lan×Int:=bif(vs.length:Int)==(b.B0.length:Int)&&((ps.length:Int)==(b.B0.length:Int))then(Dk b vs ps,0)else(Lan.none,1)
section
variable{b:R}(hb:b.small)(hcode:b.code=0)
include hb hcode
theorem ZE(vs:List aD)(ps:List Calls)(hl:vs.length<=1000)(hp:ps.length=vs.length):Kz ((ps,(),(),(),vs,(vs.length:Int),(0:Int),()),(b.tup,Lan.none.tup,Lan.none.tup,()))=P (((),(),()),(Lan.none.tup,(Dk b vs ps).tup,()))/\(Dk b vs ps).lit.length=vs.length/\(Dk b vs ps).gong.length=vs.length:=by
 have key:=λ(step:_->_) (h1:∀(i:Nat) (s:Lan),i<vs.length->(s.lit.length=i/\s.gong.length=i)->step ((ps,(),(),(),vs,(vs.length:Int),(i:Int),()),(b.tup,Lan.none.tup,s.tup,()))=P (.inl ((ps,(),(),(),vs,(vs.length:Int),((i+1:Nat):Int),()),(b.tup,Lan.none.tup,(Ln b vs ps i s).tup,())))) h2=>Cb (step:=step) vs.length (λi (s:Lan)=>((ps,(),(),(),vs,(vs.length:Int),(i:Int),()),(b.tup,Lan.none.tup,s.tup,()))) (Ln b vs ps) (λi s=>s.lit.length=i/\s.gong.length=i) (λs=>(((),(),()),(Lan.none.tup,s.tup,()))) (λi s hi hs=>⟨h1 i s hi hs,by
   constructor
   .show(s.lit++[_]).length=_;rw[g_,G_,hs.1]
   .show(s.gong++[_]).length=_;rw[g_,G_,hs.2]⟩) h2 vs.length 0 Lan.none ω ⟨rfl,rfl⟩
 have h:=key (λx=>letI a:=x.2.1.2.2;letI c:=x.2.2;letI d:=x.1.2.2.2.2;letI e:=a.2.2;letI f:=c.2.1;GF x.1.1 d.1 d.2.1 d.2.2.1 x.2.1.1 x.2.1.2.1 a.1 a.2.1 e.1 e.2.1 e.2.2.1 e.2.2.2.1 c.1.1 c.1.2.1 c.1.2.2.1 c.1.2.2.2.1 f.1 f.2.1 f.2.2.1 f.2.2.2.1) (λi s hi hs=>by
  show GF ps vs (vs.length:Int) (i:Int) b.C0 b.E0 b.I0 b.M0 b.J0 b.L0 b.N0 b.B0 [] [] 0 0 s.lit s.gong s.cl.1 s.cl.2=_;unfold GF;rw[show aW L L L L 0 0 0 0 0 0 0 0=noV from rfl,show Calls.mk 0 0=noP from rfl];simp only[b_ (ω:(i:Int)<(vs.length:Int)),Ac (ω:(0:Int)<=(i:Int)) (ω:(i:Int)<(vs.length:Int)),Ac (ω:(0:Int)<=(i:Int)) (ω:(i:Int)<(ps.length:Int)),Z,j_,SR hb hcode,a_,Gx hi (show vs.length<=AX by unfold AX;omega)];have e1:=DY (DE b (vs.getD i noV)) s.cl;have e2:=DY (NL b vs i s) ((ps.getD i noP).Up,(ps.getD i noP).B4);have e3:=EY s.cl (NL b vs i s);unfold NL at e2 e3;simp only at e2;simp only[e1,a_,e2,e3];rw[AR (show s.lit.length+[Calls.mk (Au (DE b (vs.getD i noV)) s.cl).1 (Au (DE b (vs.getD i noV)) s.cl).2].length<=2147483648 by show s.lit.length+1<=_;omega)];rw[AR (show s.gong.length+[!((Au (Au (DE b (vs.getD i noV)) s.cl) ((ps.getD i noP).Up,(ps.getD i noP).B4)).1==0&&((Au (Au (DE b (vs.getD i noV)) s.cl) ((ps.getD i noP).Up,(ps.getD i noP).B4)).2==0&&H))].length<=2147483648 by show s.gong.length+1<=_;omega)];rfl) (λs _=>by
  show GF ps vs (vs.length:Int) (vs.length:Int) b.C0 b.E0 b.I0 b.M0 b.J0 b.L0 b.N0 b.B0 [] [] 0 0 s.lit s.gong s.cl.1 s.cl.2=_;unfold GF;simp only[f_ (U_ (vs.length:Int)),c_];rfl)
 exact⟨Aw h.1 ω,h.2.1,h.2.2⟩
theorem Ade(vs:List aD)(ps:List Calls)(hl:vs.length<=1000):MN b.C0 b.E0 b.I0 b.M0 b.J0 b.L0 b.N0 b.B0 vs ps=P (((),(Aft b vs ps).2,()),((Aft b vs ps).1.tup,())):=by
 unfold MN Aft;rw[AC,hcode];simp only[a_,O_,c_];by_cases h1:vs.length=b.B0.length
 .by_cases h2:ps.length=b.B0.length
  .have h:=(ZE hb hcode vs ps hl ω).1;simp only[Bldg.tup,Lan.tup,Lan.none]at h;rw[h1]at h|-;rw[h2];simp only[O_,c_,m_,b2_,Z,h];rfl
  .rw[h1,O_,LZ (ω:¬(ps.length:Int)=(b.B0.length:Int)),Ao (ω:¬(ps.length:Int)=(b.B0.length:Int)),c7_];rfl
 .rw[LZ (ω:¬(vs.length:Int)=(b.B0.length:Int)),Ao (ω:¬(vs.length:Int)=(b.B0.length:Int))];rfl
end
def Km(b:R)(vs:List aD)(F D:Int):Bool:=vs.any λv=>Am (DE b v) F.toNat D
def Dp(b:R)(vs:List aD)(l:List aF):List aI:=l.flatMap λe=>bif Km b vs e.D0 e.H0 then [aS 2 e.D0 e.H0 0 0]else []
def Amk(b:R)(vs:List aD){f:Nat}{d:Int}:∀(k i:Nat) (s:Int×Int),i+k=vs.length->Am (AV (λi s=>BD s (DE b (vs.getD i noV))) k i s) f d=(Am s f d||(vs.drop i).any λv=>Am (DE b v) f d)
 |0,i,s,hi=>by rw[show i=vs.length by omega,b3_];simp[AV]
 |k+1,i,s,hi=>by show Am (AV (λi s=>BD s (DE b (vs.getD i noV))) k (i+1) (BD s (DE b (vs.getD i noV)))) f d=_;rw[Amk b vs k (i+1) _ ω,FH,Cm noV (ω:i<vs.length),List.any_cons,Bool.or_assoc]
def Aae(b:R)(vs:List aD):∀l:List aF,(Dp b vs l).length<=l.length
 |[]=>y_ _
 |e::t=>by have h:=Aae b vs t;show((bif Km b vs e.D0 e.H0 then [aS 2 e.D0 e.H0 0 0]else [])++Dp b vs t).length<=_;rw[g_,E_];cases Km b vs e.D0 e.H0<;>simp<;>omega
def Rj(hb:b.small)(h:Ar b e.D0 e.H0=H):RJ e:=by have lo:=hb.lo;have hi:=hb.hi;unfold Ar RI at h;simp only[e_,Q_,R_,An]at h;unfold RJ;omega
section
variable{b:R}(hb:b.small)(hcode:b.code=0){m:Img}(hm:ImgOK b m)(hl:m.A0.length<=100000)(vs:List aD)(hv:(vs.length:Int)=(b.B0.length:Int))
include hb hcode hm hl hv
theorem Adf:MO b.C0 b.E0 b.I0 b.M0 b.J0 b.L0 b.N0 b.B0 m.G0 m.O0 m.K0 m.A0 vs=P ((Dp b vs m.A0,()),()):=by
 have hcc:=Ah hcode;have hmx:100000<=maxLen:=by decide
 have hlp:=hm.lp;have h0:=Cb (step:=λx=>letI a:=x.2.1.2.2;letI c:=x.2.2;letI g:=a.2.2;GG x.1.2.2.2.1 x.1.2.2.2.2.1 x.1.2.2.2.2.2.1 x.2.1.1 x.2.1.2.1 a.1 a.2.1 g.1 g.2.1 g.2.2.1 g.2.2.2.1 c.1.1 c.1.2.1 c.1.2.2.1 c.1.2.2.2.1 c.2.1.1 c.2.1.2.1) vs.length (λi (s:Int×Int)=>(((),(),(),vs,(vs.length:Int),(i:Int),()),(b.tup,m.tup,(s.1,s.2,()),()))) (λi s=>BD s (DE b (vs.getD i noV))) (λ_ _=>True) (λs=>(((),(),()),(m.tup,(s.1,s.2,()),()))) (λi s hi _=>⟨by
  show GG vs (vs.length:Int) (i:Int) b.C0 b.E0 b.I0 b.M0 b.J0 b.L0 b.N0 b.B0 m.G0 m.O0 m.K0 m.A0 s.1 s.2=_;unfold GG;rw[show aW L L L L 0 0 0 0 0 0 0 0=noV from rfl];have e3:=EY s (DE b (vs.getD i noV));simp only[b_ (ω:(i:Int)<(vs.length:Int)),Ac (ω:(0:Int)<=(i:Int)) (ω:(i:Int)<(vs.length:Int)),Z,j_,SR hb hcode,a_,e3,Gx hi (show vs.length<=AX by unfold AX;omega)];rfl,trivial⟩) (λs _=>by
  show GG vs (vs.length:Int) (vs.length:Int) b.C0 b.E0 b.I0 b.M0 b.J0 b.L0 b.N0 b.B0 m.G0 m.O0 m.K0 m.A0 s.1 s.2=_;unfold GG;simp only[f_ (U_ (vs.length:Int)),c_];rfl) vs.length 0 (0,0) ω trivial
 have h0':KA (((),(),(),vs,(vs.length:Int),(0:Int),()),(b.tup,m.tup,((0:Int),(0:Int),()),()))=_:=Aw h0.1 ω;have hbit:∀(f:Nat) (d:Int),Am (AV (λi s=>BD s (DE b (vs.getD i noV))) vs.length 0 (0,0)) f d=vs.any λv=>Am (DE b v) f d:=λf d=>by rw[Amk b vs vs.length 0 (0,0) ω,EI,bD,V_]
 generalize AV (λi s=>BD s (DE b (vs.getD i noV))) vs.length 0 (0,0)=u at h0' hbit;have h1:=Cb (step:=λx=>GH x.1.2.1 x.1.2.2.1 x.1.2.2.2.1 x.1.2.2.2.2.1 x.2.1.1 x.2.1.2.1) m.A0.length (λi (out:List aI)=>(((),out,m.A0,(m.A0.length:Int),(i:Int),()),((u.1,u.2,()),()))) (λi out=>out++(bif Km b vs (m.A0.getD i W).D0 (m.A0.getD i W).H0 then [aS 2 (m.A0.getD i W).D0 (m.A0.getD i W).H0 0 0]else [])) (λi out=>out.length<=i) (λout=>((out,()),())) (λi out hi ho=>by
  have hc:=Rj hb (CZ.1 (hm.en _ (AL W hi))).1;refine⟨?_,?_⟩
  .show GH out m.A0 (m.A0.length:Int) (i:Int) u.1 u.2=_;unfold GH;rw[show aV 0 0 0 0 L=W from rfl];simp only[b_ (ω:(i:Int)<(m.A0.length:Int)),Ac (ω:(0:Int)<=(i:Int)) (ω:(i:Int)<(m.A0.length:Int)),Z,j_,Qw u hc.1 hc.2,a_,Gx hi (show m.A0.length<=AX by unfold AX;omega),hbit];rw[AR (show out.length+[aS 2 (m.A0.getD i W).D0 (m.A0.getD i W).H0 0 0].length<=2147483648 by show out.length+1<=_;omega)];unfold Km;cases vs.any λv=>Am (DE b v) (m.A0.getD i W).D0.toNat (m.A0.getD i W).H0
   .simp
   .rfl
  .rw[g_];cases Km b vs (m.A0.getD i W).D0 (m.A0.getD i W).H0<;>simp<;>omega) (λout _=>by
  show GH out m.A0 (m.A0.length:Int) (m.A0.length:Int) u.1 u.2=_;unfold GH;simp only[f_ (U_ (m.A0.length:Int)),c_]) m.A0.length 0 [] ω σ
 have h1':=Aw h1.1 ω;rw[NI,a4_,QK (λe=>bif Km b vs e.D0 e.H0 then [aS 2 e.D0 e.H0 0 0]else []) W m.A0 0 m.A0.length ω,V_]at h1';unfold MO;rw[Dv hb m ω ω,Img.ok_iff.2 hm];simp only[a_,t_,c_];rw[show((vs.length:Int) !=(b.B0.length:Int))=L by rw[hv,O_]];simp only[Bldg.tup,Img.tup]at h0';simp only[c_,h0',a_];rw[show KB (((),([]:List aI),m.A0,(m.A0.length:Int),(0:Int),()),((u.1,u.2,()),()))=_ from h1'];rfl
end
def xsV(E:List aF)(xs:List Int)(r:aI):List Int:=
 bif(r.Q0==2)&&GO (Ax r.D0 r.H0) E then xs.take (AB (Ax r.D0 r.H0) E)++xs.drop (AB (Ax r.D0 r.H0) E+1)
 else bif(r.Q0==1)&&!GO (Ax r.D0 r.H0) E then xs.take (AB (Ax r.D0 r.H0) E)++[0]++xs.drop (AB (Ax r.D0 r.H0) E)
 else xs
def Bgg(E:List aF)(xs:List Int)(F D:Int):Int:=bif GO (Ax F D) E then xs.getD (AB (Ax F D) E) 0 else 0
def SM(E:List aF)(xs:List Int)(e:aF):Int:=Bgg E xs e.D0 e.H0
def Aoe(e:aF):isC e.D0 e.H0 e=H:=by unfold isC;simp
def Asy(hs:Bk E)(hi:i<E.length):AB (E.getD i W) E=i:=by
 have hp:=Ff.1 hs;rcases Nat.lt_trichotomy (AB (E.getD i W) E) i with h|h|h
 .have h1:=Aif hs (AB (E.getD i W) E) (y_ _) ω;have h2:BC (E.getD (AB (E.getD i W) E) W) (E.getD i W)=H:=by
   generalize AB (E.getD i W) E=p at h;have hg:∀j (hj:j<E.length),E.getD j W=E[j]:=λj hj=>by simp[k_,hj]
   rw[hg p ω,hg i hi];exact b0_.1 hp p i ω hi h
  rw[h1]at h2;cases h2
 .exact h
 .have h1:=Aig (E.getD i W) E i h;have h2:=(XW (Aoe (E.getD i W))).1;rw[h1]at h2;cases h2
def Bkl(hs:Bk E)(hi:i<E.length):GO (Ax (E.getD i W).D0 (E.getD i W).H0) E=H:=by unfold GO;rw[UI,Asy hs hi,e_];exact⟨Eq.mpr g9_ hi,Aoe _⟩
def Asx(hs:Bk E)(xs:List Int)(hi:i<E.length):SM E xs (E.getD i W)=xs.getD i 0:=by unfold SM Bgg;rw[Bkl hs hi,UI,Asy hs hi];rfl
def Anz{a b:List α}(d:α)(hl:a.length=b.length)(h:∀i,i<a.length->a.getD i d=b.getD i d):a=b:=by
 refine List.ext_getElem hl λi h1 h2=>?_
 have:=h i h1
 simpa[k_,h1,h2]using this
def Bf8{β:Type}(f:α->β){l:List α}(hi:i<l.length)(d:α)(d':β):(l.map f).getD i d'=f (l.getD i d):=by simp[k_,hi]
def Bkw(hs:Bk E)(hl:xs.length=E.length):E.map (SM E xs)=xs:=by refine Anz 0 (by rw[c8_,hl]) λi hi=>?_;rw[c8_]at hi;rw[Bf8 _ hi W,Asx hs xs hi]
def Apl{l:List α}{a:α}(d:α)(h:a=l.getD k d):l.set k a=l:=by
 by_cases hk:k<l.length
 .refine Anz d (z_ ..) λi hi=>?_;by_cases hik:k=i
  .subst hik;rw[h];simp[k_,hk]
  .simp[k_,hik]
 .rw[List.set_eq_of_length_le ω]
def Ask{c:aF}{l:List aF}(h:GO c l=H):AB c l<l.length/\isC c.D0 c.H0 (l.getD (AB c l) W)=H:=by unfold GO at h;rw[e_]at h;exact⟨Eq.mp g9_ h.1,h.2⟩
def Bdi(hs:Bk m.A0)(hl:xs.length=m.A0.length)(r:aI):xsV m.A0 xs r=(Ak m r).A0.map (SM m.A0 xs):=by
 have hbase:=Bkw hs hl;have hfp:=Sm (c:=Ax r.D0 r.H0) 0 hs;rw[o_]at hfp;have hfp':Et r.D0 r.H0 m.A0 0=_:=hfp;unfold Ak xsV;by_cases k4:r.Q0=4
 .rw[k4];exact hbase.symm
 by_cases k5:r.Q0=5
 .rw[k5];exact hbase.symm
 by_cases k6:r.Q0=6
 .rw[k6];exact hbase.symm
 rw[Ao k4,Ao k5,Ao k6,hfp'];simp only[c_];cases hh:GO (Ax r.D0 r.H0) m.A0 with
 |false=>
  simp only[c_,m_,Z,c7_,d8_,d6_];cases k1:r.Q0==1 with
  |false=>exact hbase.symm
  |true=>
   simp only[Z];show _=(Ij (aV r.D0 r.H0 (-1) 0 L) L m.A0).map (SM m.A0 xs);have hnone:=Ajp hs hh;rw[XR (c:=aV r.D0 r.H0 (-1) 0 L) (λx hx=>hnone x hx)];have hp:AB (aV r.D0 r.H0 (-1) 0 L) m.A0=AB (Ax r.D0 r.H0) m.A0:=(UI (aV r.D0 r.H0 (-1) 0 L) m.A0).symm;have hn:SM m.A0 xs (aV r.D0 r.H0 (-1) 0 L)=0:=by unfold SM Bgg;rw[hh];rfl
   rw[hp,List.map_append,List.map_append,List.map_take,List.map_drop,hbase,List.map_singleton,hn]
 |true=>
  obtain⟨p1,p2⟩:=Ask hh;simp only[Z,d6_,t_,c7_,c_];rw[Ao (ω:¬((AB (Ax r.D0 r.H0) m.A0:Nat):Int)=-1)];simp only[c_,j_];generalize AB (Ax r.D0 r.H0) m.A0=p at p1 p2|-;have hset:∀e':aF,e'.D0=(m.A0.getD p W).D0->e'.H0=(m.A0.getD p W).H0->(m.A0.set p e').map (SM m.A0 xs)=xs:=λe' h1 h2=>by
   rw[List.map_set,hbase];refine Apl 0 ?_
   have:SM m.A0 xs e'=SM m.A0 xs (m.A0.getD p W):=by unfold SM;rw[h1,h2]
   rw[this,Asx hs xs p1]
  cases k2:r.Q0==2 with
  |true=>simp only[Z];show _=(m.A0.take p++m.A0.drop (p+1)).map (SM m.A0 xs);rw[List.map_append,List.map_take,List.map_drop,hbase]
  |false=>
   simp only[c_];cases k3:r.Q0==3 with
   |true=>exact(hset (Agh (m.A0.getD p W) r.R0) rfl rfl).symm
   |false=>
    simp only[c_];cases k7:r.Q0==7 with
    |true=>exact(hset (UQ (m.A0.getD p W) r.X1 r.R0) rfl rfl).symm
    |false=>exact hbase.symm
def Blm(hs:Bk m.A0)(hl:xs.length=m.A0.length)(r:aI):(xsV m.A0 xs r).length=(Ak m r).A0.length:=by rw[Bdi hs hl,c8_]
def xsL:Img->List Int->List aI->List Int
 |_,xs,[]=>xs
 |m,xs,r::t=>xsL (Ak m r) (xsV m.A0 xs r) t
def Av3(e:aF)(F D:Int):JK e.D0 e.H0 e.R0 e.D1 e.D2 F D=P ((!BC e (Ax F D),()),((F,()),(D,()),())):=by
 unfold JK BC Ax;by_cases h1:F<e.D0
 .rw[b_ h1,f_ (ω:¬e.D0<F),Ao (ω:¬e.D0=F)];rfl
 .rw[f_ h1];by_cases h2:e.D0=F
  .rw[h2,f_ (U_ F),m_];by_cases h3:e.H0<D
   .rw[b_ h3,f_ (ω:¬D<=e.H0)];rfl
   .rw[f_ h3,b_ (ω:D<=e.H0)];rfl
  .rw[Ao h2,b_ (ω:e.D0<F)];rfl
def Af2(E:List aF)(hl:E.length<=100000)(F D:Int):∀(k i:Nat),i+k=E.length->Cj (λx=>At x.1.1 x.1.2.2.1 x.1.2.2.2.1 x.2.1.1 x.2.2.1.1) (k+1) ((E,(),(E.length:Int),(i:Int),()),((F,()),(D,()),()))=P (bif Nat.blt (i+AB (Ax F D) (E.drop i)) E.length then .inr ((((i+AB (Ax F D) (E.drop i):Nat):Int),()),((F,()),(D,()),()))else .inl ((),((F,()),(D,()),())))
 |0,i,hi=>by
  obtain rfl:i=E.length:=ω;refine AS ?_;show At E (E.length:Int) (E.length:Int) F D=_;unfold At;rw[f_ (U_ (E.length:Int)),b3_]
  have:Nat.blt (E.length+AB (Ax F D) []) E.length=L:=by
   cases h:Nat.blt (E.length+AB (Ax F D) []) E.length with
   |false=>rfl
   |true=>have:=Eq.mp g9_ h;omega
  rw[this];rfl
 |k+1,i,hi=>by
  have hi':i<E.length:=ω;have hs:At E (E.length:Int) (i:Int) F D=P (bif BC (E.getD i W) (Ax F D)then .inl ((E,(),(E.length:Int),((i+1:Nat):Int),()),((F,()),(D,()),()))else .inr (.inr (((i:Int),()),((F,()),(D,()),())))):=by unfold At;rw[show aV 0 0 0 0 L=W from rfl];simp only[b_ (ω:(i:Int)<(E.length:Int)),Ac (ω:(0:Int)<=(i:Int)) (ω:(i:Int)<(E.length:Int)),Z,j_,Av3,a_,Gx hi' (show E.length<=AX by unfold AX;omega)];cases BC (E.getD i W) (Ax F D)<;>rfl
  have hd:=Cm W hi';rw[hd];simp only[AB];cases hq:BC (E.getD i W) (Ax F D)with
  |true=>rw[hq]at hs;refine(Cl hs).trans ?_;rw[Af2 E hl F D k (i+1) ω,Z,show i+1+AB (Ax F D) (E.drop (i+1))=i+(AB (Ax F D) (E.drop (i+1))+1)by omega]
  |false=>rw[hq]at hs;refine(AS hs).trans ?_;rw[c_,c2_,show Nat.blt i E.length=H from Eq.mpr g9_ hi'];rfl
def Abq(m:Img)(hl:m.A0.length<=100000)(F D:Int):LH m.G0 m.O0 m.K0 m.A0 F D=P ((((AB (Ax F D) m.A0:Nat):Int),GO (Ax F D) m.A0,()),()):=by
 have h:=Af2 m.A0 hl F D m.A0.length 0 ω;have h':=Aw h ω;rw[V_,o_]at h';have hle:=TO (Ax F D) m.A0;unfold LH BI GO;rw[show AT ((m.A0,(),(m.A0.length:Int),(0:Int),()),((F,()),(D,()),()))=_ from h'];cases hq:Nat.blt (AB (Ax F D) m.A0) m.A0.length with
 |false=>
  have hge:m.A0.length<=AB (Ax F D) m.A0:=by
   rcases g0_ (AB (Ax F D) m.A0) m.A0.length with g|g
   .rw[Eq.mpr g9_ g]at hq;cases hq
   .exact g
  rw[show AB (Ax F D) m.A0=m.A0.length by omega];rfl
 |true=>have hlt:AB (Ax F D) m.A0<m.A0.length:=Eq.mp g9_ hq;simp only[Z,a_];rw[f_ (ω:¬((AB (Ax F D) m.A0:Nat):Int)<0)];simp only[c_,Ac (ω:(0:Int)<=((AB (Ax F D) m.A0:Nat):Int)) (ω:((AB (Ax F D) m.A0:Nat):Int)<(m.A0.length:Int)),Z,j_];rw[show aV 0 0 0 0 L=W from rfl];unfold isC;show bB (bif(m.A0.getD (AB (Ax F D) m.A0) W).D0==F then _ else _) _=P ((_,H&&((m.A0.getD (AB (Ax F D) m.A0) W).D0==F&&(m.A0.getD (AB (Ax F D) m.A0) W).H0==D),()),());cases(m.A0.getD (AB (Ax F D) m.A0) W).D0==F<;>rfl
structure Rnd where
 recs:List Record
 img:Img
 xs:List Int
 lan:Lan
 ref:Int×Int
def Rnd.tup(r:Rnd):List aI×List Int×List Bool×List Bool×List aF×List Int×List Calls×List Bool×Int×Int×Int×Int×Unit:=(r.recs,r.img.G0,r.img.O0,r.img.K0,r.img.A0,r.xs,r.lan.lit,r.lan.gong,r.lan.cl.1,r.lan.cl.2,r.ref.1,r.ref.2,())
def Rnd.tupB(b:R)(r:Rnd):List aI×List Int×List Bool×List Bool×List aF×List Int×List Calls×List Bool×Int×Int×Int×Int×Int×Int×Int×Int×Nat×Nat×Nat×List Car×Unit:=(r.recs,r.img.G0,r.img.O0,r.img.K0,r.img.A0,r.xs,r.lan.lit,r.lan.gong,r.lan.cl.1,r.lan.cl.2,r.ref.1,r.ref.2,b.C0,b.E0,b.I0,b.M0,b.J0,b.L0,b.N0,b.B0,())
structure Rnd.ok(b:Bldg)(r:Rnd):Prop where
 img:ImgOK b r.img
 len:r.xs.length=r.img.A0.length
def Jo:aI:=aS 0 0 0 0 0
def RT(r:aI)(X:Rnd):Rnd:=⟨X.recs++[r],Ak X.img r,xsV X.img.A0 X.xs r,X.lan,X.ref⟩
def wrL(l:List aI)(X:Rnd):Rnd:=⟨X.recs++l,Aj X.img l,xsL X.img X.xs l,X.lan,X.ref⟩
def Yt(r:aI)(l:List aI)(X:Rnd):wrL (r::l) X=wrL l (RT r X):=by unfold wrL RT;simp only[M_,e0_];rfl
def Yo{X:Rnd}(h:X.ok b){r:aI}(hv:Ay b r=H):(RT r X).ok b:=⟨(Ke h.img hv).1,Blm h.img.so h.len r⟩
def Ap5{b:R}:∀{l:List aI}{X:Rnd},X.ok b->(∀r∈l,Ay b r=H)->(wrL l X).ok b
 |[],X,h,_=>by unfold wrL;rw[Y_];exact⟨h.img,h.len⟩
 |r::t,X,h,hv=>by rw[Yt];exact Ap5 (Yo h (hv r (p_ ..))) λx hx=>hv x (r_ _ hx)
def Bo3(h:k<xs.length)(hl:xs.length<=100000):FE xs (k:Int) (I O ((k:Int)+1))=P ((xs.take k++xs.drop (k+1),()),()):=by unfold FE Ano;rw[Aa ω ω,b_ (ω:(0:Int)<=(k:Int)),b_ (ω:(k:Int)<(k:Int)+1),b_ (ω:(k:Int)+1<=(xs.length:Int)),show aA ((k:Int)+1)=k+1 by omega,j_];rfl
def Bq1(h:k<=xs.length)(hl:xs.length<=100000):FF xs (k:Int) [0]=P ((xs.take k++[0]++xs.drop k,()),()):=by unfold FF Ac8;rw[b_ (ω:(0:Int)<=(k:Int)),b_ (ω:(k:Int)<=(xs.length:Int)),AR (show xs.length+[(0:Int)].length<=2147483648 by show xs.length+1<=_;omega),j_];rfl
section
variable{b:R}(hb:b.small)(hcode:b.code=0)
include hb hcode
omit hcode in
theorem DH(hm:ImgOK b m):m.A0.length<=14:=by
 have:=Bj8 hb hm
 have:=hb.hi
 omega
theorem Aw5{X:Rnd}(hX:X.ok b){l:List aI}(hl:l.length<=100000)(hi:i<l.length)(hv:Ay b (l.getD i Jo)=H)(hr:X.recs.length<=1000000):Cd l (l.length:Int) (i:Int) X.recs X.img.G0 X.img.O0 X.img.K0 X.img.A0 X.xs X.lan.lit X.lan.gong X.lan.cl.1 X.lan.cl.2 X.ref.1 X.ref.2 b.C0 b.E0 b.I0 b.M0 b.J0 b.L0 b.N0 b.B0=P (.inl (((),l,(l.length:Int),((i+1:Nat):Int),()),((RT (l.getD i Jo) X).tupB b,()))):=by
 have hcc:=Ah hcode;have he:=DH hb hX.img;have hlp:=hX.img.lp;have hxl:=hX.len;have hpl:=TO (Ax (l.getD i Jo).D0 (l.getD i Jo).H0) X.img.A0;have ha:=ZH hb ω X.img ω ω (l.getD i Jo);have ha':YX b X.img (l.getD i Jo)=(((),0,()),((Ak X.img (l.getD i Jo)).tup,())):=by unfold YX;rw[Img.ok_iff.2 hX.img,hv];rfl
 rw[ha']at ha;unfold Cd;rw[show aS 0 0 0 0 0=Jo from rfl];simp only[b_ (ω:(i:Int)<(l.length:Int)),Ac (ω:(0:Int)<=(i:Int)) (ω:(i:Int)<(l.length:Int)),Z,j_];rw[Abq X.img ω];simp only[a_];generalize l.getD i Jo=r at*;have hbl:Nat.ble (X.recs.length+[aS r.Q0 r.D0 r.H0 r.R0 r.X1].length) 2147483648=H:=AR (by show X.recs.length+1<=_;omega);have hw:=Gx hi (show l.length<=AX by unfold AX;omega);have hxs:∀q,xsV X.img.A0 X.xs r=q->(RT r X).tupB b=(X.recs++[aS r.Q0 r.D0 r.H0 r.R0 r.X1],(Ak X.img r).G0,(Ak X.img r).O0,(Ak X.img r).K0,(Ak X.img r).A0,q,X.lan.lit,X.lan.gong,X.lan.cl.1,X.lan.cl.2,X.ref.1,X.ref.2,b.C0,b.E0,b.I0,b.M0,b.J0,b.L0,b.N0,b.B0,()):=λq h=>by rw[<-h];rfl
 by_cases k2:r.Q0=2
 .have k1:(r.Q0==1)=L:=Ao ω;have k2':(r.Q0==2)=H:=by rw[k2];rfl
  cases hf:GO (Ax r.D0 r.H0) X.img.A0 with
  |true=>rw[hxs _ (show _=X.xs.take (AB (Ax r.D0 r.H0) X.img.A0)++X.xs.drop (AB (Ax r.D0 r.H0) X.img.A0+1)by unfold xsV;rw[k2',hf];rfl)];have hp:=(Ask hf).1;simp only[k2',Z,a_,Bo3 (ω:AB (Ax r.D0 r.H0) X.img.A0<X.xs.length) ω];rw[ha];simp only[a_,m_,Z,hbl,hw];rfl
  |false=>rw[hxs X.xs (by unfold xsV;rw[hf,k1,c7_,a9_];rfl)];simp only[k2',k1,Z,c_,a_];rw[ha];simp only[a_,m_,Z,hbl,hw];rfl
 .have k2':(r.Q0==2)=L:=Ao k2;by_cases k1:r.Q0=1
  .have k1':(r.Q0==1)=H:=by rw[k1];rfl
   cases hf:GO (Ax r.D0 r.H0) X.img.A0 with
   |false=>rw[hxs _ (show _=X.xs.take (AB (Ax r.D0 r.H0) X.img.A0)++[0]++X.xs.drop (AB (Ax r.D0 r.H0) X.img.A0)by unfold xsV;rw[k2',k1',hf];rfl)];simp only[k2',k1',Z,c_,a_,d8_,Bq1 (ω:AB (Ax r.D0 r.H0) X.img.A0<=X.xs.length) ω];rw[ha];simp only[a_,m_,Z,hbl,hw];rfl
   |true=>rw[hxs X.xs (by unfold xsV;rw[hf,k2',a9_,t_,c7_];rfl)];simp only[k2',k1',Z,c_,a_,t_];rw[ha];simp only[a_,m_,Z,hbl,hw];rfl
  .have k1':(r.Q0==1)=L:=Ao k1;rw[hxs X.xs (by unfold xsV;rw[k2',k1',a9_,a9_];rfl)];simp only[k2',k1',c_,a_];rw[ha];simp only[a_,m_,Z,hbl,hw];rfl
theorem Ad9{X:Rnd}(hX:X.ok b){l:List aI}(hl:l.length<=100000)(hv:∀r∈l,Ay b r=H)(hr:X.recs.length<=100000):BH l X.recs X.img.G0 X.img.O0 X.img.K0 X.img.A0 X.xs X.lan.lit X.lan.gong X.lan.cl.1 X.lan.cl.2 X.ref.1 X.ref.2 b.C0 b.E0 b.I0 b.M0 b.J0 b.L0 b.N0 b.B0=P ((),((wrL l X).tupB b,())):=by
 have key:∀(k i:Nat) (Y:Rnd),i+k=l.length->Y.ok b->Y.recs.length<=100000+i->Cj (λx=>letI d:=x.2.1.2.2.2;letI f:=d.2.2;letI a:=f.2.2.2;letI g:=a.2.2;letI c:=g.2.2.2;letI e:=c.2.2;Cd x.1.2.1 x.1.2.2.1 x.1.2.2.2.1 x.2.1.1 x.2.1.2.1 x.2.1.2.2.1 d.1 d.2.1 f.1 f.2.1 f.2.2.1 a.1 a.2.1 g.1 g.2.1 g.2.2.1 c.1 c.2.1 e.1 e.2.1 e.2.2.1 e.2.2.2.1 e.2.2.2.2.1) (k+1) (((),l,(l.length:Int),(i:Int),()),(Y.tupB b,()))=P ((),((wrL (l.drop i) Y).tupB b,())):=by
  intro k;induction k with
  |zero=>intro i Y hi _ _;obtain rfl:i=l.length:=ω;refine AS ?_;show Cd l (l.length:Int) (l.length:Int) Y.recs Y.img.G0 Y.img.O0 Y.img.K0 Y.img.A0 Y.xs Y.lan.lit Y.lan.gong Y.lan.cl.1 Y.lan.cl.2 Y.ref.1 Y.ref.2 b.C0 b.E0 b.I0 b.M0 b.J0 b.L0 b.N0 b.B0=_;unfold Cd;rw[f_ (U_ (l.length:Int)),b3_];unfold wrL;rw[Y_];rfl
  |succ k ih=>intro i Y hi hY hr;have hi':i<l.length:=ω;have hv':=hv _ (AL Jo hi');rw[Cm Jo hi',Yt];exact(Cl (Aw5 hb hcode hY hl hi' hv' ω)).trans (ih (i+1) _ ω (Yo hY hv') (by show(Y.recs++[_]).length<=_;rw[g_,G_];omega))
 have h:=key l.length 0 X ω hX ω;rw[V_]at h;have h':CN (((),l,(l.length:Int),(0:Int),()),(X.tupB b,()))=_:=Aw h ω;unfold BH;rw[show CN (((),l,(l.length:Int),(0:Int),()),((X.recs,X.img.G0,X.img.O0,X.img.K0,X.img.A0,X.xs,X.lan.lit,X.lan.gong,X.lan.cl.1,X.lan.cl.2,X.ref.1,X.ref.2,b.C0,b.E0,b.I0,b.M0,b.J0,b.L0,b.N0,b.B0,()),()))=_ from h'];rfl
end
end
end Go.Ovl
