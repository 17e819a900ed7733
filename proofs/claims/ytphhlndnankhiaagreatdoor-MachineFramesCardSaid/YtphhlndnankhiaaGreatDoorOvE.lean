import Derived.Test.YtphhlndnankhiaaGreatDoorOvA
import Derived.Test.YtphhlndnankhiaaGreatDoorOvD
set_option linter.all false
open Go.Ovl.Sat renaming ret->A,bic->B,bindS->C,bindE->I,bifT->J,bindR->aC
open Bool renaming true->E,false->L
open Go.Ovl renaming Sat->H,NewCar->O
open Go.IntKind renaming i64->N,wrap->aB,u32->aE
open Int renaming toNat->P
open BitVec renaming ofInt->aA,toNat->aF
open Go.Ovl.Duty renaming mk->aD
open List renaming getD->aG
open Nat renaming lt_of_le_of_lt->aH
namespace Go.Ovl
open Go Go.Ab
set_option maxRecDepth 100000
variable{fl n D e c:Int}{b:Bldg}{l:List Duty}{x:O}{car i:Nat}{d:Bool}
def D5(a b c:Int)(d:Bool)(e:Int):Prop:=(a=0∧b=0∧c=0∧d=L∧e=0)∨(0<a∧a≤3∧0≤b∧b≤1000000∧0≤c∧c≤1000000∧0≤e∧e≤1000000)
def D5.zero:D5 0 0 0 L 0:=.inl ⟨rfl,rfl,rfl,rfl,rfl⟩
def D5.at{a:Int}(h:0<a∧a≤3)(hc:0≤c)(hc':c≤1000000)(he:0≤e)(he':e≤1000000):D5 a 0 c d e:=.inr ⟨h.1,h.2,e0_ 0,show(0:Int)≤1000000 from by decide,hc,hc',he,he'⟩
def CmdR(c:Int):Prop:=(decide (0≤c)&&decide (c≤5))=E
def CmdR.iff:CmdR c↔0≤c∧c≤5:=by unfold CmdR;simp
def dN(a b c:Int)(d:Bool)(e:Int):O:={ Bu with Y0:=a,Q1:=b,H1:=c,L1:=d,E1:=e }
def Adk(x:O):RF x=E↔D5 x.Y0 x.Q1 x.H1 x.L1 x.E1:=by
 unfold RF D5 SB inR;by_cases g:x.Y0=0
 ·rw[g];simp
 ·rw[An g];simp;omega
def VP(a b c:Int)(d:Bool)(e:Int):∃r,Gh a b c d e=some ((r,()),())∧(r=E↔D5 a b c d e):=⟨_,PO (dN a b c d e),Adk (dN a b c d e)⟩
def up1(n:Int):Int:=bif decide (1000000<N.wrap (n+1))then 1000000 else N.wrap (n+1)
def Ki(h:0≤n∧n≤1000000):0≤up1 n∧up1 n≤1000000:=by
 unfold up1;rw[Aa ω ω];by_cases g:1000000<n+1
 ·rw[b_ g,d_];decide
 ·rw[f_ g,c_];omega
def TB(n:Int):Lq n=some ((up1 n,()),()):=rfl
def UA(a b c:Int)(d:Bool)(e:Int):JF a b c d e=some (((),()),((a,b,bif c !=0 then up1 c else c,d,e,()),())):=by unfold JF;cases c !=0<;>rfl
def Apc{a b:Int}(h:D5 a b c d e):H (Nt a b c d e) λy=>letI f:=y.2.1.2;D5 y.2.1.1 f.1 f.2.1 f.2.2.1 f.2.2.2.1:=by
 obtain⟨r,h1,h2⟩:=VP a b c d e;have hr:r=E:=h2.2 h;subst hr;unfold Nt;refine I h1 (B (λ_=>A h) λ_=>B (λ_=>A h) λg=>?_);have g:¬a=0:=by simpa using g
 rcases h with h | ⟨p1,p2,p3,p4,p5,p6,p7,p8⟩
 ·exact absurd h.1 g
 refine I (UA ..) (I (TB _) (A (.inr ⟨p1,p2,(Ki ⟨p3,p4⟩).1,(Ki ⟨p3,p4⟩).2,?_,?_,p7,p8⟩)))
 ·show 0≤(bif c !=0 then up1 c else c)
  cases c !=0 with
  |true=>exact(Ki ⟨p5,p6⟩).1
  |false=>exact p5
 ·show(bif c !=0 then up1 c else c)≤1000000;cases c !=0 with
  |true=>exact(Ki ⟨p5,p6⟩).2
  |false=>exact p6
def Aak(c0 c1 c2 c3 c4 c5 c6 c7 c8 a b c:Int)(d:Bool)(e f:Int)(g h:Bool):H (Nu c0 c1 c2 c3 c4 c5 c6 c7 c8 a b c d e f g h) λy=>letI f:=y.2.1.2;D5 y.2.1.1 f.1 f.2.1 f.2.2.1 f.2.2.2.1∧CmdR y.1.2.1:=by
 unfold Nu;refine C (Q:=λy=>letI f:=y.2.2.1;D5 f.1 f.2.1 f.2.2.1 f.2.2.2.1 f.2.2.2.2.1) ?_ λy hy=>?_
 ·obtain⟨r,h1,h2⟩:=VP a b c d e;refine I h1 (B (λ_=>A D5.zero) λk=>A (h2.1 (by simpa using k)))
 refine B (λ_=>B (λ_=>A ⟨D5.at (a:=1) τ τ τ τ τ,rfl⟩) λ_=>A ⟨hy,rfl⟩) λk=>?_;have k:¬y.2.2.1.1=0:=by simpa using k
 obtain⟨p1,p2,p3,p4,p5,p6,p7,p8⟩:=hy.resolve_left λq=>k q.1;have hc:0≤(bif y.2.2.1.2.2.1 !=0 then up1 y.2.2.1.2.2.1 else y.2.2.1.2.2.1)∧(bif y.2.2.1.2.2.1 !=0 then up1 y.2.2.1.2.2.1 else y.2.2.1.2.2.1)≤1000000:=by
  cases y.2.2.1.2.2.1 !=0 with
  |true=>exact Ki ⟨p5,p6⟩
  |false=>exact⟨p5,p6⟩
 refine I (UA ..) ?_;refine C (Q:=λz=>0<z.2.2.1.1∧z.2.2.1.1≤3∧0≤z.2.2.1.2.1∧z.2.2.1.2.1≤1000000∧0≤z.2.2.1.2.2.1∧z.2.2.1.2.2.1≤1000000∧0≤z.2.2.1.2.2.2.2.1∧z.2.2.1.2.2.2.2.1≤1000000) (B (λ_=>A ⟨p1,p2,p3,p4,hc.1,hc.2,p7,p8⟩) λ_=>A ⟨p1,p2,p3,p4,hc.1,hc.2,p7,p8⟩) λz hz=>?_;refine B (λ_=>I rfl (A ⟨D5.at (a:=2) τ ?_ ?_ hz.2.2.2.2.2.2.1 hz.2.2.2.2.2.2.2,rfl⟩)) λ_=>?_
 ·show 0≤(bif decide (z.2.2.1.2.2.1<1)then 1 else z.2.2.1.2.2.1)
  cases decide (z.2.2.1.2.2.1<1)with
  |true=>exact show(0:Int)≤1 from by decide
  |false=>exact hz.2.2.2.2.1
 ·show(bif decide (z.2.2.1.2.2.1<1)then 1 else z.2.2.1.2.2.1)≤1000000;cases decide (z.2.2.1.2.2.1<1)with
  |true=>exact show(1:Int)≤1000000 from by decide
  |false=>exact hz.2.2.2.2.2.1
 refine C (Q:=λw=>w.2.2.1=z.2.2.1) (B (λ_=>A rfl) λ_=>A rfl) λw hw=>?_;refine B (λ_=>A ⟨D5.zero,rfl⟩) λ_=>?_;refine C (Q:=λv=>v.2.2.1=z.2.2.1) (B (λ_=>B (λ_=>A hw) λ_=>A hw) λ_=>A hw) λv hv=>?_;have stay:∀n:Int,CmdR n→H (QM v.2.2.1.1 v.2.2.1.2.1 v.2.2.1.2.2.1 v.2.2.1.2.2.2.1 v.2.2.1.2.2.2.2.1 n) λy=>letI b:=y.2.1.2;D5 y.2.1.1 b.1 b.2.1 b.2.2.1 b.2.2.2.1∧CmdR y.1.2.1:=λn hn=>by rw[hv];exact I (TB _) (A ⟨.inr ⟨hz.1,hz.2.1,(Ki ⟨hz.2.2.1,hz.2.2.2.1⟩).1,(Ki ⟨hz.2.2.1,hz.2.2.2.1⟩).2,hz.2.2.2.2.1,hz.2.2.2.2.2.1,hz.2.2.2.2.2.2.1,hz.2.2.2.2.2.2.2⟩,hn⟩)
 refine B (λ_=>C (stay 5 rfl) λ_ h=>A h) λ_=>?_;refine B (λ_=>?_) λ_=>?_
 ·rw[hv];exact I rfl (A ⟨D5.at (a:=3) τ hz.2.2.2.2.1 hz.2.2.2.2.2.1 hz.2.2.2.2.2.2.1 hz.2.2.2.2.2.2.2,rfl⟩)
 refine B (λ_=>C (stay 3 rfl) λ_ h=>A h) λ_=>?_;refine B (λ_=>?_) λ_=>?_
 ·refine C (Q:=λu=>u.2.1=v.2.2.1) (B (λ_=>A rfl) λ_=>A rfl) λu hu=>?_;rw[hu];refine B (λ_=>?_) λ_=>C (stay 0 rfl) λ_ h=>A h;rw[hv];exact I rfl (A ⟨D5.at (a:=3) τ hz.2.2.2.2.1 hz.2.2.2.2.2.1 hz.2.2.2.2.2.2.1 hz.2.2.2.2.2.2.2,rfl⟩)
 refine B (λ_=>?_) λ_=>C (stay 4 rfl) λ_ h=>A h;rw[hv];exact I (TB _) (I rfl (A ⟨D5.at (a:=1) τ hz.2.2.2.2.1 hz.2.2.2.2.2.1 (Ki ⟨hz.2.2.2.2.2.2.1,hz.2.2.2.2.2.2.2⟩).1 (Ki ⟨hz.2.2.2.2.2.2.1,hz.2.2.2.2.2.2.2⟩).2,rfl⟩))
def Apb(c0 c1 c2 c3 c4 c5 c6 c7 c8 a b c:Int)(d:Bool)(e:Int):H (QL c0 c1 c2 c3 c4 c5 c6 c7 c8 a b c d e) λ_=>True:=by unfold QL;exact Sat.go
def M3(fl c t f:Int):Prop:=0≤t∧t≤1000000∧((c=0∧f=0)∨(c=1∧0≤f∧f+1<fl)∨(c=2∧0<f∧f<fl))
def M3.zero:M3 fl 0 0 0:=⟨τ,τ,.inl ⟨rfl,rfl⟩⟩
def Ait(hf:2≤fl)(x:O):UM fl x=E↔M3 fl x.S0 x.X0 x.Q0:=by
 unfold UM M3 inR;by_cases g:x.S0=0
 ·rw[g];simp;omega
 by_cases g1:x.S0=1
 ·rw[g1];simp;omega
 by_cases g2:x.S0=2
 ·rw[g2];simp;omega
 ·rw[An g,An g1,An g2];simp;omega
def mN(c t f:Int):O:={ Bu with S0:=c,X0:=t,Q0:=f }
def Ab1(h:2≤fl∧fl≤8)(c t f:Int):∃r,Gj fl c t f=some ((r,()),())∧(r=E↔M3 fl c t f):=⟨_,Nr h (mN c t f),Ait h.1 (mN c t f)⟩
def UN{f:Int}(hf:0≤f∧f<fl)(h:fl≤8):H (Fu fl f c) λy=>y.1.2.1=E→(c=1∧0≤f∧f+1<fl)∨(c=2∧0<f∧f<fl):=by
 unfold Fu;by_cases c1:c=1
 ·subst c1;refine aC (Sat.bifF rfl (J rfl (Sat.bindC (λ_=>aC (A λg=>.inl ⟨rfl,hf.1,?_⟩)) λ_=>aC (A λg=>by cases g))));have g:=m_ g;have e:N.wrap (f+aG [(0:Int),1,-1] (P 1) 0)=f+1:=Aa (ω:(-9223372036854775808:Int)≤f+1) (ω:f+1<9223372036854775808);exact e▸g
 ·rw[Ig c1];by_cases c2:c=2
  ·subst c2;have e:N.wrap (f+aG [(0:Int),1,-1] (P 2) 0)=f+ -1:=Aa (ω:(-9223372036854775808:Int)≤f+ -1) (ω:f+ -1<9223372036854775808);refine aC (Sat.bifF rfl (J rfl (Sat.bindC (λg0=>aC (A λg=>.inr ⟨rfl,?_,hf.2⟩)) λ_=>aC (A λg=>by cases g))));have g0:0≤f+ -1:=e▸m_ g0;omega
  ·rw[Ig c2];exact aC (J rfl (A λg=>by cases g))
def Aj0{t f:Int}(h:M3 fl c t f):H (KZ c t f) λy=>M3 fl y.2.1.1 y.2.1.2.1 y.2.1.2.2.1:=by
 unfold KZ;refine C (Q:=λy=>y.2.1=(c,t,f,())∧(y.1.2.2.1=E→t<1000000)) ?_ λy hy=>?_
 ·refine B (λ_=>B (λ_=>A ⟨rfl,λg=>m_ g⟩) λ_=>A ⟨rfl,λg=>by cases g⟩) λ_=>?_;exact B (λ_=>B (λ_=>A ⟨rfl,λg=>m_ g⟩) λ_=>A ⟨rfl,λg=>by cases g⟩) λ_=>A ⟨rfl,λg=>by cases g⟩
 refine B (λg=>A ?_) λ_=>A ?_
 ·rw[hy.1];have ht:=hy.2 g
  have:=h.1
  show M3 fl c (aB N (t+1)) f;rw[Aa ω ω];exact⟨ω,ω,h.2.2⟩
 ·rw[hy.1];exact h
def MZ(y:Int×Int×Int×Unit):Prop:=y=(0,0,0,())
def Aj2(h:2≤fl∧fl≤8)(c t f g:Int)(l:Bool)(d:Int)(k:Bool)(w:Int):H (NH fl c t f g l d k w) λy=>M3 fl y.2.1.1 y.2.1.2.1 y.2.1.2.2.1∧(y.1.2.2.1=E→MZ y.2.1)∧(c=0→w=0→l=E→MZ y.2.1)∧CmdR y.1.2.1:=by
 unfold NH;obtain⟨r,h1,h2⟩:=Ab1 h c t f;have hz:M3 fl 0 0 0:=M3.zero;refine I h1 (B (λ_=>A ⟨hz,λ_=>rfl,λ_ _ _=>rfl,rfl⟩) λhr=>B (λ_=>A ⟨hz,λ_=>rfl,λ_ _ _=>rfl,rfl⟩) λa1=>B (λ_=>A ⟨hz,λ_=>rfl,λ_ _ _=>rfl,rfl⟩) λa2=>?_);have hm:M3 fl c t f:=h2.1 (by simpa using hr);have hg:0≤g∧g<fl:=⟨by have:=E_ a1;omega,by have:=E_ a2;omega⟩
 have hf:0≤f∧f<fl:=by rcases hm.2.2 with q | q | q<;>omega
 refine C (UN hf h.2) λy2 b2=>?_;have nb:c=0→y2.1.2.1=L:=λc0=>by
  cases q:y2.1.2.1 with
  |false=>rfl
  |true=>rcases b2 q with e | e<;>omega
 refine C (Q:=λy=>(y.1.1=fl∧y.1.2.1=w∧y.2.1=(c,t,f,())∧y.2.2.1.1=g)∧y.1.2.2.2.2.2.1=y2.1.2.1∧y.2.2.1.2.1=l) ?_ λy3 h3=>?_
 ·exact B (λ_=>B (λ_=>A ⟨⟨rfl,rfl,rfl,rfl⟩,rfl,rfl⟩) λ_=>A ⟨⟨rfl,rfl,rfl,rfl⟩,rfl,rfl⟩) λ_=>A ⟨⟨rfl,rfl,rfl,rfl⟩,rfl,rfl⟩
 refine B (λ_=>A ⟨hz,λ_=>rfl,λ_ _ _=>rfl,rfl⟩) λ_=>?_;refine C (Q:=λy=>(y.1.1=fl∧y.1.2.1=w∧y.2.1=(c,t,f,())∧y.2.2.1.1=g)∧(c=0→l=E→y.1.2.2.2.2.2.1=L)) ?_ λy4 h4=>?_
 ·refine B (λq=>A ⟨h3.1,λc0 _=>?_⟩) λ_=>A ⟨h3.1,λ_ l1=>?_⟩
  ·rw[h3.2.1,nb c0]at q;cases q
  ·show(!y3.2.2.1.2.1)=L;rw[h3.2.2,l1];rfl
 obtain⟨⟨e1,e2,e3,e4⟩,e5⟩:=h4;refine B (λq=>A ⟨?_,λg=>(by cases g),λc0 _ l1=>?_,?_⟩) λ_=>?_
 ·rw[e3];exact⟨(Ki ⟨hm.1,hm.2.1⟩).1,(Ki ⟨hm.1,hm.2.1⟩).2,hm.2.2⟩
 ·rw[e5 c0 l1]at q;cases q
 ·rw[e3];show CmdR c;exact CmdR.iff.2 (by rcases hm.2.2 with q | q | q<;>exact⟨ω,ω⟩)
 rw[e1,e2,e4];refine C (UN hg h.2) λy5 h5=>B (λq=>A ⟨?_,λg=>(by cases g),λ_ w0 _=>?_,?_⟩) λ_=>A ⟨hz,λ_=>rfl,λ_ _ _=>rfl,rfl⟩
 ·exact⟨show(0:Int)≤0 from by decide,show(0:Int)≤1000000 from by decide,.inr (h5 q)⟩
 ·rcases h5 q with e | e<;>omega
 ·show CmdR w;exact CmdR.iff.2 (by rcases h5 q with e | e<;>exact⟨ω,ω⟩)
def Ajz(c0 c1 c2 c3 c4 c5 c6 c7 c8 a b c:Int):H (RQ c0 c1 c2 c3 c4 c5 c6 c7 c8 a b c) λ_=>True:=A trivial
def Apl(hcode:b.code=0)(hv:AR b.C0 b.E0 b.H0 b.M0 b.J0 b.L0 b.N0 b.B0=some ((b.code,()),()))(car idle floor:Int):H (QO b.C0 b.E0 b.H0 b.M0 b.J0 b.L0 b.N0 b.B0 car idle floor) λy=>y.1.1=0∨y.1.1=1∨y.1.1=2:=by unfold QO;refine I hv (B (λ_=>A (.inl rfl)) λ_=>B (λ_=>A (.inl rfl)) λh1=>B (λ_=>A (.inl rfl)) λh2=>?_);have h1:=E_ h1;have h2:=E_ h2;refine B (λ_=>A (.inl rfl)) λ_=>B (λ_=>A (.inl rfl)) λ_=>B (λ_=>A (.inl rfl)) λ_=>?_;refine J (Ac ω ω) (B (λ_=>A (.inr (.inl rfl))) λ_=>B (λ_=>A (.inr (.inr rfl))) λ_=>A (.inl rfl))
def C2(fl n:Int):Prop:=0≤n∧n.toNat<2^fl.toNat
def C2.zero:C2 fl 0:=⟨e0_ 0,Nat.two_pow_pos _⟩
def C2.vb{v:BitVec 32}(h:v.toNat<2^fl.toNat):C2 fl (vb v):=⟨Int.natCast_nonneg _,h⟩
def C2.bv(h:C2 fl n):(bv n).toNat<2^fl.toNat:=by
 refine aH ?_ h.2
 have:=h.1
 show(aA 32 n).toNat≤n.toNat;rw[V_];show(n%4294967296).toNat≤n.toNat;omega
def C2.and{x y:Int}(h:C2 fl y):C2 fl (aB aE (stk x y (aF (aA (IntKind.bits .u32) x&&&aA (IntKind.bits .u32) y)))):=by rw[ZN];refine C2.vb ?_;rw[BitVec.toNat_and];exact aH Nat.and_le_right h.bv
def C2.andNot{x y:Int}(h:C2 fl x):C2 fl (aB aE (stk x y (aF (aA (IntKind.bits .u32) x&&& ~~~ aA (IntKind.bits .u32) y)))):=by rw[OC];refine C2.vb ?_;rw[BitVec.toNat_and];exact aH Nat.and_le_left h.bv
def C2.or{x y:Int}(h:C2 fl x)(h2:C2 fl y):C2 fl (aB aE (stk x y (aF (aA (IntKind.bits .u32) x|||BitVec.ofInt (IntKind.bits .u32) y)))):=by rw[Avq];refine C2.vb ?_;rw[BitVec.toNat_or];exact Nat.or_lt_two_pow h.bv h2.bv
def C2.all(h:2≤fl∧fl≤8):C2 fl (aB aE (aB aE (1*2^min (P fl) (IntKind.bits .u32))-1)):=by
 unfold C2
 have:fl=2∨fl=3∨fl=4∨fl=5∨fl=6∨fl=7∨fl=8:=ω
 rcases this with e | e | e | e | e | e | e<;>rw[e]<;>decide
def Ak1:(Int.fdiv n ((2:Int)^P fl)==0)=E↔C2 fl n:=by
 have hp:(0:Int)<2^P fl:=Int.pow_pos τ;have hc:((2^P fl:Nat):Int)=(2:Int)^P fl:=by rw[Int.natCast_pow];rfl
 rw[a4_ _ (Int.le_of_lt hp),W_];unfold C2;constructor
 ·intro h;have h1:=Int.mul_ediv_add_emod n (2^P fl);rw[h,Int.mul_zero,Int.zero_add]at h1;have h2:=Int.emod_nonneg n (Int.ne_of_gt hp);have h3:=Int.emod_lt_of_pos n hp;rw[h1]at h2 h3;refine⟨h2,?_⟩;rw[← hc]at h3;omega
 ·intro h;refine Int.ediv_eq_zero_of_lt h.1 ?_;rw[← hc]
  have:=h.1
  have:=h.2
  omega
structure Sx(fl:Int)(x:NewCar):Prop where
 sw:S2 x.V1 x.F1
 dr:D5 x.Y0 x.Q1 x.H1 x.L1 x.E1
 mt:M3 fl x.S0 x.X0 x.Q0
 ca:C2 fl x.D2
 sh:dir2 x.C3
 idle:0≤x.R3∧x.R3≤1000000
 nf:x.E3=false
def Mz(x:O):Prop:=x.S0=0∧x.X0=0∧x.Q0=0
def Anf(x:O):Ane x=E↔Mz x:=by unfold Ane Mz;simp
def Sy(fl:Int)(x:O):Prop:=Sx fl x∧(x.Y0=0∨Mz x)
def Ahv(h:D5 x.Y0 x.Q1 x.H1 x.L1 x.E1):SB x=E↔x.Y0=0:=by
 unfold SB;rcases h with⟨h1,h2,h3,h4,h5⟩ | h
 ·rw[h1,h2,h3,h4,h5];decide
 ·have:¬x.Y0=0:=ω
  simp[this]
def VW(hb:b.small)(hf:x.E3=L):Hx b x=E↔Sy b.C0 x:=by
 have lo:=hb.lo;unfold Hx;rw[hf,c_];unfold Wd QF Aew inR;simp only[e_,S_,r_,Adk,Ait (ω:2≤b.C0),Ak1,Anf];constructor
 ·rintro⟨h1,h2,h3,h4,h5,h6,h7⟩;rw[Ahv h2]at h4;exact⟨⟨⟨h1.1,h1.2⟩,h2,h3,h5,h6,h7,hf⟩,h4⟩
 ·rintro⟨h,h4⟩;exact⟨⟨h.sw.1,h.sw.2⟩,h.dr,h.mt,h4.imp_left (Ahv h.dr).2,h.ca,h.sh,h.idle⟩
def D5.one:D5 1 0 0 L 0:=D5.at (a:=1) τ τ τ τ τ
abbrev Ar0:=Int×Int×Int×Int×Int×Bool×Int×Int×Int×Int×Int×Int×Int×Bool×Unit
abbrev Afq:=Int×Int×Int×Int×Nat×Nat×Nat×List Car×Int×Int×Int×Int×Int×Int×Bool×Int×Int×Int×Int×Int×Int×Int×Bool×Int×Bool×Int×Bool×Int×Unit
@[reducible] def Qx(b:Bldg)(car:Int)(x:O)(f:Int)(l:Bool)(d:Int)(k:Bool)(c:Int):Afq:=(b.C0,b.E0,b.H0,b.M0,b.J0,b.L0,b.N0,b.B0,car,x.V1,x.F1,x.Y0,x.Q1,x.H1,x.L1,x.E1,x.S0,x.X0,x.Q0,x.D2,x.C3,x.R3,x.E3,f,l,d,k,c,())
section
variable{b:Bldg}(hb:b.small){car f:Int}(hf:0≤f∧f<b.C0){x:O}(l:Bool)(d:Int)(k:Bool)(c:Int)
include hb
theorem Tz(hcar:0≤car∧car<b.B0.length):H (BT (newcar_control.mk b.C0 b.E0 b.H0 b.M0 b.J0 b.L0 b.N0 b.B0 car x.V1 x.F1 x.Y0 x.Q1 x.H1 x.L1 x.E1 x.S0 x.X0 x.Q0 x.D2 x.C3 x.R3 x.E3 f l d k c)) λ_=>True:=by unfold BT;exact J (Ac hcar.1 hcar.2) (A trivial)
include hf
theorem Apa(p:Int)(h:Sx b.C0 x):H (DQ p b.C0 b.E0 b.H0 b.M0 b.J0 b.L0 b.N0 b.B0 car x.V1 x.F1 x.Y0 x.Q1 x.H1 x.L1 x.E1 x.S0 x.X0 x.Q0 x.D2 x.C3 x.R3 x.E3 f l d k c) λy=>∃n,y.2.1=Qx b car { x with D2:=n } f l d k c∧C2 b.C0 n:=by
 have lo:=hb.lo;have hi:=hb.hi;unfold DQ;refine J (b_ (ω:0≤b.C0)) ?_;refine C (Q:=λy=>y.2.1=Qx b car x f l d k c∧C2 b.C0 y.1.2.1) ?_ λy hy=>?_
 ·exact B (λ_=>J (b_ hf.1) (A ⟨rfl,(C2.all ⟨ω,hi⟩).and.andNot⟩)) λ_=>A ⟨rfl,(C2.all ⟨ω,hi⟩).and⟩
 ·obtain⟨u,t,w⟩:=y;obtain⟨e,hn⟩:=hy;change t=_ at e;subst e;exact A ⟨_,rfl,h.ca.or hn⟩
omit hf
theorem Adh(w:Int):H (BL w b.C0 b.E0 b.H0 b.M0 b.J0 b.L0 b.N0 b.B0 car x.V1 x.F1 x.Y0 x.Q1 x.H1 x.L1 x.E1 x.S0 x.X0 x.Q0 x.D2 x.C3 x.R3 x.E3 f l d k c) λy=>∃c' t' f' cm,y.2.1=Qx b car { x with S0:=c',X0:=t',Q0:=f' } f l d k cm∧M3 b.C0 c' t' f'∧(y.1.1=E→MZ (c',t',f',()))∧(x.S0=0→w=0→l=E→MZ (c',t',f',()))∧CmdR cm:=by have lo:=hb.lo;have hi:=hb.hi;unfold BL;exact C (Aj2 ⟨ω,hi⟩ ..) λy hy=>A ⟨_,_,_,_,rfl,hy.1,hy.2.1,hy.2.2.1,hy.2.2.2⟩
omit hb in
theorem Bhc{c' t' f':Int}(x:O)(h:MZ (c',t',f',())):Mz { x with S0:=c',X0:=t',Q0:=f' }:=by unfold MZ at h;simp only[g6_]at h;exact⟨h.1,h.2.1,h.2.2.1⟩
theorem Alz(h:Sx b.C0 x)(hcm:CmdR c):H (DF b.C0 b.E0 b.H0 b.M0 b.J0 b.L0 b.N0 b.B0 car x.V1 x.F1 x.Y0 x.Q1 x.H1 x.L1 x.E1 x.S0 x.X0 x.Q0 x.D2 x.C3 x.R3 x.E3 f l d k c) λy=>∃x' c',y.2.1=Qx b car x' f l d k c'∧Sx b.C0 x'∧x'.Y0=x.Y0∧(y.1.1=E→Mz x')∧CmdR c':=by
 unfold DF;refine C (Q:=λy=>y.2.1=Qx b car x f l d k c∧(y.1.2.1=E→Mz x)) (B (λq=>A ⟨rfl,λ_=>(Anf x).1 q⟩) λ_=>A ⟨rfl,λq=>(by cases q)⟩) ?_;rintro⟨u,t,w⟩ ⟨e,h1⟩;change t=_ at e;subst e;refine B (λq=>A ⟨x,c,rfl,h,rfl,λ_=>h1 q,hcm⟩) λ_=>?_;refine C (Q:=λy=>∃x' c',y.2.1=Qx b car x' f l d k c'∧Sx b.C0 x'∧x'.Y0=x.Y0∧(y.1.2.2.1=E→Mz x')∧CmdR c') ?_ ?_
 ·refine C (Adh hb (x:=x) l d k c 0) ?_;rintro⟨u2,t2,w2⟩ ⟨c',t',f',cm,e,hm,hs,hz,hcm'⟩;change t2=_ at e;subst e;have hx':Sx b.C0 { x with S0:=c',X0:=t',Q0:=f' }:=⟨h.sw,h.dr,hm,h.ca,h.sh,h.idle,h.nf⟩
  refine B (λq=>A ⟨_,cm,rfl,hx',rfl,λ_=>Bhc x (hs q),hcm'⟩) λ_=>B (λq=>A ⟨_,cm,rfl,hx',rfl,λq2=>Bhc x (hz ?_ rfl q2),hcm'⟩) λ_=>A ⟨_,cm,rfl,hx',rfl,λq=>(by cases q),hcm'⟩;simpa using q
 rintro⟨u3,t3,w3⟩ ⟨x',c',e,h',hd,hz,hcm'⟩;change t3=_ at e;subst e;refine B (λq=>A ⟨x',c',rfl,h',hd,λ_=>hz q,hcm'⟩) λ_=>?_;refine C (Q:=λy=>y.2.1=Qx b car x' f l d k c') (B (λ_=>A rfl) λ_=>A rfl) ?_;rintro⟨u4,t4,w4⟩ e;change t4=_ at e;subst e;exact B (λ_=>A ⟨{ x' with R3:=0 },c',rfl,⟨h'.sw,h'.dr,h'.mt,h'.ca,h'.sh,⟨e0_ 0,show(0:Int)≤1000000 from by decide⟩,h'.nf⟩,hd,λq=>(by cases q),hcm'⟩) λ_=>A ⟨x',c',rfl,h',hd,λq=>(by cases q),hcm'⟩
omit hb in
theorem i00:(0:Int)≤0∧(0:Int)≤1000000:=by decide
include hf
theorem Ao9(hcar:0≤car∧car<b.B0.length)(h:Sx b.C0 x)(hm:Mz x):H (DP b.C0 b.E0 b.H0 b.M0 b.J0 b.L0 b.N0 b.B0 car x.V1 x.F1 x.Y0 x.Q1 x.H1 x.L1 x.E1 x.S0 x.X0 x.Q0 x.D2 x.C3 x.R3 x.E3 f l d k c) λy=>∃x' c',y.2.1=Qx b car x' f l d k c'∧Sx b.C0 x'∧Mz x'∧CmdR c':=by
 unfold DP;refine C (Tz hb l d k c hcar) λy1 _=>C (Aak ..) λy2 hd=>?_;obtain⟨hd,hcm⟩:=hd;refine C (Q:=λy=>∃x' c',y.2.1=Qx b car x' f l d k c'∧Sx b.C0 x'∧Mz x'∧CmdR c') ?_ ?_
 ·refine B (λ_=>J (b_ hf.1) (A ⟨{ x with Y0:=y2.2.1.1,Q1:=y2.2.1.2.1,H1:=y2.2.1.2.2.1,L1:=y2.2.1.2.2.2.1,E1:=y2.2.1.2.2.2.2.1,D2:=_ },_,rfl,⟨h.sw,hd,h.mt,h.ca.andNot,h.sh,h.idle,h.nf⟩,hm,hcm⟩)) λ_=>?_;refine B (λ_=>A ⟨{ x with Y0:=y2.2.1.1,Q1:=y2.2.1.2.1,H1:=y2.2.1.2.2.1,L1:=y2.2.1.2.2.2.1,E1:=y2.2.1.2.2.2.2.1,C3:=0 },_,rfl,⟨h.sw,hd,h.mt,h.ca,dir2.zero,h.idle,h.nf⟩,hm,hcm⟩) λ_=>?_;exact A ⟨{ x with Y0:=y2.2.1.1,Q1:=y2.2.1.2.1,H1:=y2.2.1.2.2.1,L1:=y2.2.1.2.2.2.1,E1:=y2.2.1.2.2.2.2.1 },_,rfl,⟨h.sw,hd,h.mt,h.ca,h.sh,h.idle,h.nf⟩,hm,hcm⟩
 rintro⟨u,t,w⟩ ⟨x',c',e,h',hz⟩;change t=_ at e;subst e;exact A ⟨{ x' with R3:=0 },c',rfl,⟨h'.sw,h'.dr,h'.mt,h'.ca,h'.sh,i00,h'.nf⟩,hz⟩
def CtP(b:Bldg)(car f:Int)(l:Bool)(d:Int)(k:Bool)(t:Afq):Prop:=∃x' c',t=Qx b car x' f l d k c'∧Sy b.C0 x'∧CmdR c'
def CtS(b:Bldg)(car f:Int)(l:Bool)(d:Int)(k:Bool)(s:(Unit×(Afq×Unit))⊕(Unit×(Afq×Unit))):Prop:=match s with
 | .inl y=>CtP b car f l d k y.2.1
 | .inr y=>CtP b car f l d k y.2.1
omit hf
theorem Aly(hcode:b.code=0)(hcar:0≤car∧car<b.B0.length)(hu hd:Int)(h:Sx b.C0 x)(h0:x.Y0=0)(hm:Mz x):H (DE hu hd b.C0 b.E0 b.H0 b.M0 b.J0 b.L0 b.N0 b.B0 car x.V1 x.F1 x.Y0 x.Q1 x.H1 x.L1 x.E1 x.S0 x.X0 x.Q0 x.D2 x.C3 x.R3 x.E3 f l d k c) (CtS b car f l d k):=by
 unfold DE;refine C (Ba9 ..) λy1 hc=>C (Bjn ..) λy2 hn=>?_;refine B (λ_=>?_) λ_=>?_
 ·refine C (Tz hb (x:={ x with V1:=y2.2.1.1,F1:=y2.2.1.2.1,C3:=y1.2.1.2.2.1,R3:=0 }) l d k c hcar) λy3 _=>C (Aak ..) λy4 hd=>A ?_;obtain⟨hd,hcm⟩:=hd;exact⟨{ x with V1:=y2.2.1.1,F1:=y2.2.1.2.1,C3:=y1.2.1.2.2.1,R3:=0,Y0:=y4.2.1.1,Q1:=y4.2.1.2.1,H1:=y4.2.1.2.2.1,L1:=y4.2.1.2.2.2.1,E1:=y4.2.1.2.2.2.2.1 },_,rfl,⟨⟨hn,hd,h.mt,h.ca,hc.2,i00,h.nf⟩,.inr hm⟩,hcm⟩
 have st:∀(w i:Int),(0≤i∧i≤1000000)→H (BL w b.C0 b.E0 b.H0 b.M0 b.J0 b.L0 b.N0 b.B0 car y2.2.1.1 y2.2.1.2.1 x.Y0 x.Q1 x.H1 x.L1 x.E1 x.S0 x.X0 x.Q0 x.D2 x.C3 i x.E3 f l d k c) λy=>CtP b car f l d k y.2.1:=λw i hi=>by refine(Adh hb (x:={ x with V1:=y2.2.1.1,F1:=y2.2.1.2.1,R3:=i }) l d k c w).mono ?_;rintro⟨u,t,w⟩ ⟨c',t',f',cm,e,hm,_,_,hcm⟩;change t=_ at e;subst e;exact⟨_,cm,rfl,⟨⟨hn,h.dr,hm,h.ca,h.sh,hi,h.nf⟩,.inl h0⟩,hcm⟩
 refine B (λ_=>C (st _ _ i00) λ_ h=>A h) λ_=>B (λ_=>C (st _ _ i00) λ_ h=>A h) λ_=>?_;have hv:AR b.C0 b.E0 b.H0 b.M0 b.J0 b.L0 b.N0 b.B0=some ((b.code,()),()):=Bg ..;refine C (Apl hcode hv ..) λy7 _=>B (λ_=>C (st _ _ h.idle) λ_ h=>A h) λ_=>A ?_;exact⟨{ x with V1:=y2.2.1.1,F1:=y2.2.1.2.1,R3:=up1 x.R3 },0,rfl,⟨⟨hn,h.dr,h.mt,h.ca,h.sh,Ki h.idle,h.nf⟩,.inl h0⟩,rfl⟩
omit hb in
theorem Bqu:∀(o:Fin 8),0≤N.wrap (stk ((o.val:Nat):Int) 1 (aF ((aA (IntKind.bits N) ((o.val:Nat):Int))|||(aA (IntKind.bits N) 1))))∧N.wrap (stk ((o.val:Nat):Int) 1 (aF ((aA (IntKind.bits N) ((o.val:Nat):Int))|||(aA (IntKind.bits N) 1))))≤7:=by decide
include hf
theorem Ay6(hcode:b.code=0)(hcar:0≤car∧car<b.B0.length)(p hu hd:Int)(h:Sy b.C0 x)(hcm:CmdR c):H (EG p hu hd b.C0 b.E0 b.H0 b.M0 b.J0 b.L0 b.N0 b.B0 car x.V1 x.F1 x.Y0 x.Q1 x.H1 x.L1 x.E1 x.S0 x.X0 x.Q0 x.D2 x.C3 x.R3 x.E3 f l d k c) (CtS b car f l d k):=by
 unfold EG;refine C (Apa hb hf l d k c p h.1) ?_;rintro⟨u,t,w⟩ ⟨n,e,hn⟩;change t=_ at e;subst e;have h1:Sx b.C0 { x with D2:=n }:=⟨h.1.sw,h.1.dr,h.1.mt,hn,h.1.sh,h.1.idle,h.1.nf⟩
 refine C (Q:=λy=>∃x' c',y.2.2.1=Qx b car x' f l d k c'∧Sy b.C0 x'∧(y.1.2.2.1=L→Mz x')∧CmdR c') ?_ ?_
 ·refine B (λq=>?_) λq=>A ⟨_,c,rfl,⟨h1,h.2⟩,λ_=>h.2.resolve_left (by simpa using q),hcm⟩;refine C (Alz hb l d k c h1 hcm) ?_;rintro⟨u2,t2,w2⟩ ⟨x',c',e,h',hd,hz,hcm'⟩;change t2=_ at e;subst e;exact A ⟨x',c',rfl,⟨h',.inl (hd.trans (by simpa using q))⟩,λq=>hz (by simpa using q),hcm'⟩
 rintro⟨u3,u3b,t3,w3⟩ ⟨x',c',e,h',hz,hcm'⟩;change t3=_ at e;subst e;refine B (λ_=>A ⟨x',c',rfl,h',hcm'⟩) λq=>?_;have hz:=hz q;refine C (Q:=λy=>∃x' c',y.2.2.1=Qx b car x' f l d k c'∧Sx b.C0 x'∧Mz x'∧CmdR c') ?_ ?_
 ·refine C (Q:=λy=>y.2.2.1=Qx b car x' f l d k c') (B (λ_=>A rfl) λ_=>A rfl) ?_;rintro⟨u4,u4b,t4,w4⟩ e;change t4=_ at e;subst e;refine B (λ_=>A ⟨{ x' with F1:=_,Y0:=1,Q1:=0,H1:=0,L1:=L,E1:=0,C3:=0 },c',rfl,⟨⟨h'.1.sw.1,?_⟩,D5.one,h'.1.mt,h'.1.ca,dir2.zero,h'.1.idle,h'.1.nf⟩,hz,hcm'⟩) λ_=>A ⟨x',c',rfl,h'.1,hz,hcm'⟩;have h5a:=h'.1.sw.2.1;have h5b:=h'.1.sw.2.2
  have:=Bqu ⟨x'.F1.toNat,ω⟩
  simp only[e5_ h5a]at this;exact this
 rintro⟨u5,u5b,t5,w5⟩ ⟨x5,c5,e,h5,hz5,hcm5⟩;change t5=_ at e;subst e;refine B (λ_=>?_) λq=>?_
 ·refine C (Ao9 hb hf l d k c5 hcar h5 hz5) ?_;rintro⟨u6,t6,w6⟩ ⟨x6,c6,e,h6,hz6,hcm6⟩;exact A ⟨x6,c6,e,⟨h6,.inr hz6⟩,hcm6⟩
 ·refine C (Q:=λ(y:Unit×(Afq×Unit))=>CtP b car f l d k y.2.1) ?_ λ_ h=>A h;refine C (Aly hb l d k c5 hcode hcar _ _ h5 (by simpa using q) hz5) λy7 h7=>?_;cases y7 with
  |inl _=>exact A h7
  |inr _=>exact A h7
end
def Apd{a b:Int}(h:D5 a b c d e):H (Nt a b c d e) λy=>letI f:=y.2.1.2;D5 y.2.1.1 f.1 f.2.1 f.2.2.1 f.2.2.2.1∧(a=0→y.2.1.1=0):=by
 by_cases g:a=0
 ·obtain⟨h1,h2,h3,h4,h5⟩:a=0∧b=0∧c=0∧d=L∧e=0:=h.resolve_right λq=>absurd g ω;subst h1 h2 h3 h4 h5;exact⟨_,rfl,D5.zero,λ_=>rfl⟩
 ·exact(Apc h).mono λ_ q=>⟨q,λq=>absurd q g⟩
def Aj1{t f:Int}(h:M3 fl c t f):H (KZ c t f) λy=>M3 fl y.2.1.1 y.2.1.2.1 y.2.1.2.2.1∧(c=0∧t=0∧f=0→MZ y.2.1):=by
 by_cases g:c=0∧t=0∧f=0
 ·obtain⟨h1,h2,h3⟩:=g;subst h1 h2 h3;exact⟨_,rfl,M3.zero,λ_=>rfl⟩
 ·exact(Aj0 h).mono λ_ q=>⟨q,λq=>absurd q g⟩
@[reducible] def Bb9(x:O):Ar0:=(x.V1,x.F1,x.Y0,x.Q1,x.H1,x.L1,x.E1,x.S0,x.X0,x.Q0,x.D2,x.C3,x.R3,x.E3,())
def Ba8(b:Bldg)(t:Ar0):Prop:=∃x,t=Bb9 x∧Hx b x=E
def Sy.zero:Sy fl Bu:=⟨⟨S2.zero dir2.zero,D5.zero,M3.zero,C2.zero,dir2.zero,i00,rfl⟩,.inl rfl⟩
def Aas(b:Bldg):Hx b { Bu with E3:=E }=E:=rfl
section
variable{b:Bldg}(hb:b.small)
include hb
theorem Nh:Hx b Bu=E:=(VW hb rfl).2 Sy.zero
theorem Ajk(c0 c1 c2 c3 c4 c5 c6 c7 c8:Int)(h:Sy b.C0 x)(hn:CmdR n):H (HP c0 c1 c2 c3 c4 c5 c6 c7 c8 x.V1 x.F1 x.Y0 x.Q1 x.H1 x.L1 x.E1 x.S0 x.X0 x.Q0 x.D2 x.C3 x.R3 x.E3 n) λy=>Ba8 b y.2.1∧CmdR y.1.2.1:=by unfold HP;refine C (Apb ..) λy1 _=>B (λ_=>A ⟨⟨{ Bu with E3:=E },rfl,Aas b⟩,rfl⟩) λ_=>?_;exact C (Ajz ..) λy2 _=>B (λ_=>A ⟨⟨{ Bu with E3:=E },rfl,Aas b⟩,rfl⟩) λ_=>A ⟨⟨x,rfl,(VW hb h.1.nf).2 h⟩,hn⟩
variable(hcode:b.code=0)(car:Int)(x:O)
include hcode
theorem Ams:JJ b.C0 b.E0 b.H0 b.M0 b.J0 b.L0 b.N0 b.B0 car x.V1 x.F1 x.Y0 x.Q1 x.H1 x.L1 x.E1 x.S0 x.X0 x.Q0 x.D2 x.C3 x.R3 x.E3=some ((Hx b x&&(decide (0≤car)&&decide (car<(b.B0.length:Int))),()),()):=by unfold JJ;rw[JB hb hcode];simp only[a_];cases Hx b x<;>cases decide (0≤car)<;>rfl
theorem Aj3(f:Int)(l:Bool)(d:Int)(k:Bool)(p hu hd:Int):H (NI b.C0 b.E0 b.H0 b.M0 b.J0 b.L0 b.N0 b.B0 car x.V1 x.F1 x.Y0 x.Q1 x.H1 x.L1 x.E1 x.S0 x.X0 x.Q0 x.D2 x.C3 x.R3 x.E3 f l d k p hu hd) λy=>Ba8 b y.2.1∧CmdR y.1.2.1:=by
 unfold NI;refine I (Ams hb hcode car x) (B (λ_=>A ⟨⟨Bu,rfl,Nh hb⟩,rfl⟩) λq=>?_);have q:Hx b x=E∧0≤car∧car<(b.B0.length:Int):=by
  have q:(Hx b x&&(decide (0≤car)&&decide (car<(b.B0.length:Int))))=E:=by simpa only[Bool.not_eq_false']using q
  simpa only[e_,r_]using q
 obtain⟨hx,hcar⟩:=q;refine C (Q:=λy=>y.1.1=E→0≤f∧f<b.C0) ?_ λy2 h2=>?_
 ·unfold Lz;refine C (Q:=λy=>y.1.1=E→0≤f∧f<b.C0) ?_ λ_ h=>A h;refine B (λa=>B (λc=>B (λ_=>A λ_=>⟨m_ a,m_ c⟩) λ_=>A λg=>(by cases g)) λ_=>A λg=>(by cases g)) λ_=>A λg=>(by cases g)
 refine B (λ_=>A ⟨⟨Bu,rfl,Nh hb⟩,rfl⟩) λq2=>B (λ_=>A ⟨⟨x,rfl,hx⟩,rfl⟩) λhf=>?_;have hff:=h2 (by simpa using q2);refine C (Q:=λ(y:(Unit×Unit×Unit×Unit)×(Ar0×Ar0×Afq×Unit))=>CtP b car f l d k y.2.2.2.1) (C (Ay6 hb hff l d k 0 hcode hcar p hu hd ((VW hb hf).1 hx) rfl) λy3 h3=>?_) ?_
 ·cases y3 with
  |inl _=>exact A h3
  |inr _=>exact A h3
 rintro⟨u,v,w,t,z⟩ ⟨x',c',e,h',hcm⟩;change t=_ at e;subst e;exact C (Tz hb (x:=x') l d k c' hcar) λy6 _=>C (Ajk hb _ _ _ _ _ _ _ _ _ h' hcm) λy7 h7=>A h7
theorem Agu:H (MO b.C0 b.E0 b.H0 b.M0 b.J0 b.L0 b.N0 b.B0 car x.V1 x.F1 x.Y0 x.Q1 x.H1 x.L1 x.E1 x.S0 x.X0 x.Q0 x.D2 x.C3 x.R3 x.E3) λy=>Ba8 b y.2.1∧CmdR y.1.2.1:=by
 unfold MO;refine I (Ams hb hcode car x) (B (λ_=>A ⟨⟨Bu,rfl,Nh hb⟩,rfl⟩) λq=>?_);have q:Hx b x=E∧0≤car∧car<(b.B0.length:Int):=by
  have q:(Hx b x&&(decide (0≤car)&&decide (car<(b.B0.length:Int))))=E:=by simpa only[Bool.not_eq_false']using q
  simpa only[e_,r_]using q
 obtain⟨hx,hcar⟩:=q;refine B (λ_=>A ⟨⟨x,rfl,hx⟩,rfl⟩) λhf=>?_;have h:=(VW hb hf).1 hx;refine C (Apd h.1.dr) λy2 h2=>C (Aj1 h.1.mt) λy3 h3=>J (Ac hcar.1 hcar.2) ?_;refine C (Ajk hb _ _ _ _ _ _ _ _ _ (x:={ x with Y0:=y2.2.1.1,Q1:=y2.2.1.2.1,H1:=y2.2.1.2.2.1,L1:=y2.2.1.2.2.2.1,E1:=y2.2.1.2.2.2.2.1,S0:=y3.2.1.1,X0:=y3.2.1.2.1,Q0:=y3.2.1.2.2.1 }) ⟨⟨h.1.sw,h2.1,h3.1,h.1.ca,h.1.sh,h.1.idle,h.1.nf⟩,?_⟩ (n:=0) rfl) λy4 h4=>A h4;refine h.2.imp (λg=>h2.2 g) λg=>?_;have e:=h3.2 g;unfold MZ at e;show y3.2.1.1=0∧y3.2.1.2.1=0∧y3.2.1.2.2.1=0;rw[e];exact⟨rfl,rfl,rfl⟩
theorem Agw(f:Int)(l:Bool)(d:Int)(k:Bool):H (JI b.C0 b.E0 b.H0 b.M0 b.J0 b.L0 b.N0 b.B0 x.V1 x.F1 x.Y0 x.Q1 x.H1 x.L1 x.E1 x.S0 x.X0 x.Q0 x.D2 x.C3 x.R3 x.E3 f l d k) λy=>y.1.1=E→l=E∧d=2:=by
 unfold JI;have i:SatT (DY b.C0 b.E0 b.H0 b.M0 b.J0 b.L0 b.N0 b.B0 x.V1 x.F1 x.Y0 x.Q1 x.H1 x.L1 x.E1 x.S0 x.X0 x.Q0 x.D2 x.C3 x.R3 x.E3):=⟨⟨_,JB hb hcode x,trivial⟩⟩;have no:∀{p:Prop},L=E→p:=λq=>by cases q
 refine C (Q:=λy=>y.1.1=E→l=E∧d=2) (C i.out λ_ _=>?_) λ_ h=>A h;exact B (λ_=>B (λ_=>B (λ_=>B (λ_=>B (λ_=>B (λq=>A λq2=>⟨q,eq_of_beq q2⟩) λ_=>A no) λ_=>A no) λ_=>A no) λ_=>A no) λ_=>A no) λ_=>A no
end
def U2(a c:Int):Prop:=(0≤a∧a<4294967296)∧0≤c∧c<4294967296
def U2.zero:U2 0 0:=by unfold U2;decide
def U2.fst:U2 (aB aE n) 0:=⟨HE n,τ⟩
def U2.snd:U2 0 (aB aE n):=⟨τ,HE n⟩
instance isFloors_ti(n:Int):SatT (Fs n):=⟨by unfold Fs;exact Sat.go⟩
instance isObs_ti(n a c d:Int):SatT (FL n a c d):=⟨by unfold FL;exact Sat.go⟩
def Nq(n a c d:Int):H (FM n a c d) λy=>U2 y.2.1.1 y.2.1.2.1:=by
 unfold FM;refine C (isObs_ti n a c d).out λ_ _=>B (λ_=>A U2.zero) λ_=>B (λ_=>A U2.zero) λ_=>B (λ_=>A U2.zero) λh=>?_;have h0:0≤a:=by have:=E_ h;omega
 refine C (Q:=λy=>y.2.1.1=a) (B (λ_=>A rfl) λ_=>A rfl) λy2 h2=>?_;refine B (λ_=>J (b_ (h2▸h0)) (A U2.fst)) λ_=>?_;refine C (Q:=λy=>y.2.1.1=a) (B (λ_=>A h2) λ_=>A h2) λy3 h3=>?_;exact B (λ_=>J (b_ (h3▸h0)) (A U2.snd)) λ_=>A U2.zero
def Agv(hb:b.small)(hcode:b.code=0)(x:O)(f:Int)(l:Bool)(d:Int)(k:Bool):H (MP b.C0 b.E0 b.H0 b.M0 b.J0 b.L0 b.N0 b.B0 x.V1 x.F1 x.Y0 x.Q1 x.H1 x.L1 x.E1 x.S0 x.X0 x.Q0 x.D2 x.C3 x.R3 x.E3 f l d k) λy=>U2 y.2.1.1 y.2.1.2.1:=by unfold MP;refine I (JB hb hcode x) (B (λ_=>A U2.zero) λ_=>B (λ_=>A U2.zero) λ_=>B (λ_=>A U2.zero) λ_=>B (λ_=>A U2.zero) λ_=>?_);exact C (Nq ..) λ_ h=>A h
instance pair_ti(a c:Bool):SatT (HL a c 0 1 2 3):=⟨by cases a<;>cases c<;>exact⟨_,rfl,trivial⟩⟩
def Bqz(a c:Bool):H (HL a c 0 1 2 3) λy=>0≤y.1.1∧y.1.1≤3:=by cases a<;>cases c<;>exact⟨_,rfl,τ⟩
def dK(e:Duty):Int:=4*e.D0+e.I0
structure DutOK(b:Bldg)(D:Int)(l:List Duty):Prop where
 each:∀e∈l,Ai b e.D0 e.I0=true∧0≤e.F4∧e.F4≤D
 sort:l.Pairwise λa c=>dK a<dK c
def DutOK.nil:DutOK b D []:=⟨λ_ h=>(by cases h),List.Pairwise.nil⟩
def Fj(hb:b.small){f d:Int}(h:Ai b f d=E):(0≤f∧f<8)∧(1≤d∧d≤2):=by have lo:=hb.lo;have hi:=hb.hi;unfold Ai NY inR at h;simp only[e_,S_,W_,r_]at h;omega
def YE{a c:Duty}(ha:1≤a.I0∧a.I0≤2)(hc:1≤c.I0∧c.I0≤2):UJ a c=E↔dK a<dK c:=by unfold UJ dK;simp only[e_,S_,W_,r_];omega
def XI{l:List Duty}(h:∀i,i+1<l.length→dK (l.getD i GT)<dK (l.getD (i+1) GT)):∀i k:Nat,i+1+k<l.length→dK (l.getD i GT)<dK (l.getD (i+1+k) GT)
 |i,0,hk=>h i hk
 |i,k+1,hk=>Int.lt_trans (XI h i k ω) (h (i+1+k) ω)
def gD(h:i<l.length):l.getD i GT=l[i]:=by simp only[k_,i_ h,Option.getD_some]
def Bh4(hb:b.small)(x:Belief):XY (Al5 b car x) x.W0.length 0=E↔DutOK b (JZ b car).I1 x.W0:=by
 constructor
 ·intro h;have h:=To _ _ h;have hp:∀i,i<x.W0.length→Ai b (x.W0.getD i GT).D0 (x.W0.getD i GT).I0=E∧(0≤(x.W0.getD i GT).F4∧(x.W0.getD i GT).F4≤(JZ b car).I1)∧(i=0∨UJ (x.W0.getD (i-1) GT) (x.W0.getD i GT)=E):=λi hi=>by
   have h:=h i ω ω;unfold Al5 Atg inR at h;simpa only[e_,S_,W_,r_]using h
  refine⟨λe he=>?_,?_⟩
  ·obtain⟨i,hi,rfl⟩:=List.mem_iff_getElem.1 he
   have:=hp i hi
   rw[gD hi]at this;exact⟨this.1,this.2.1⟩
  ·rw[b3_];intro i j hi hj hij
   have:=XI (l:=x.W0) (λi hi=>by have h1:=hp (i+1) hi;have h0:=hp i ω;have h2:=h1.2.2.resolve_left ω;exact(YE (Fj hb h0.1).2 (Fj hb h1.1).2).1 h2) i (j-i-1) ω
   rw[show i+1+(j-i-1)=j by omega,gD hi,gD hj]at this;exact this
 ·intro h;refine Ul _ _ λk _ hk=>?_;have hk:k<x.W0.length:=ω;have h1:=h.each _ (b1_ hk);unfold Al5 Atg inR;simp only[e_,S_,W_,r_,gD hk];refine⟨h1.1,h1.2,?_⟩;by_cases k0:k=0
  ·exact .inl k0
  ·have hj:k-1<x.W0.length:=ω;rw[gD hj];have h0:=h.each _ (b1_ hj);exact .inr ((YE (Fj hb h0.1).2 (Fj hb h1.1).2).2 (b3_.1 h.sort _ _ hj hk ω))
def DutOK.len(hb:b.small)(h:DutOK b D l):l.length≤30:=by
 have key:∀i (hi:i<l.length),(i:Int)+1≤dK l[i]:=λi=>by
  induction i with
  |zero=>
   intro hi
   have:=Fj hb (h.each _ (b1_ hi)).1
   unfold dK;omega
  |succ i ih=>intro hi;have h1:=ih ω;have h2:=b3_.1 h.sort i (i+1) ω hi ω;omega
 rcases Nat.eq_zero_or_pos l.length with g | g
 ·omega
 ·have hi:l.length-1<l.length:=ω;have h1:=key _ hi
  have:=Fj hb (h.each _ (b1_ hi)).1
  unfold dK at h1;omega
def DutOK.push{e:Duty}(h:DutOK b D l)(h1:Ai b e.D0 e.I0=E∧0≤e.F4∧e.F4≤D)(h2:∀a∈l,dK a<dK e):DutOK b D (l++[e]):=by
 refine⟨λx hx=>?_,g0_.2 ⟨h.sort,List.pairwise_singleton ..,λa ha c hc=>?_⟩⟩
 ·rcases p_.1 hx with g | g
  ·exact h.each x g
  ·rw[P_.1 g];exact h1
 ·rw[P_.1 hc];exact h2 a ha
def Ayl(hb:b.small)(hD:D≤1000000000)(h:DutOK b D l)(u d:Int):H (KV l D u d) λy=>DutOK b D y.1.1∧(y.1.2.1=E→y.1.1=[]):=by
 have hl:=h.len hb;unfold KV LQ;refine C (Q:=λy=>match y with | .inl z=>DutOK b D z.1.1 | .inr z=>z.1.1=[]) (Sat.loop (λk x=>∃(out:List Duty) (i:Nat),x=((D,(),out,l,(l.length:Int),(i:Int),()),((u,d,()),()))∧i+k=l.length∧DutOK b D out∧∀a∈out,∀j (hj:j<l.length),i≤j→dK a<dK l[j]) ?_ l.length ⟨[],0,rfl,ω,.nil,λa ha=>by cases ha⟩ ω) ?_
 ·rintro k x ⟨out,i,rfl,hk,ho,ha⟩;show H (Pu D out l (l.length:Int) (i:Int) u d) _;unfold Pu;refine B (λq=>?_) λ_=>A ho;have hi:i<l.length:=by have:=m_ q;omega
  have he:=h.each _ (b1_ hi);have hc:=Fj hb he.1;have g:aG l (P (i:Int)) (aD 0 0 0)=l[i]:=gD hi;have w:N.wrap (l[i].F4+1)=l[i].F4+1:=Aa ω ω;refine J (Ac ω ω) ?_;simp only[g,w,Gb hi (show l.length≤Ba by unfold Ba;omega)];refine B (λ_=>A rfl) λq2=>?_;have q2:=E_ q2;refine I (PH (u,d) (F:=l[i].D0) (D:=l[i].I0) ⟨ω,ω⟩ ω) ?_;refine B (λ_=>?_) λ_=>A ⟨k-1,ω,out,i+1,rfl,ω,ho,λa m j hj hij=>ha a m j hj ω⟩;have hp:DutOK b D (out++[aD l[i].D0 l[i].I0 (l[i].F4+1)]):=ho.push ⟨he.1,by show 0≤l[i].F4+1;omega,by show l[i].F4+1≤D;omega⟩ λa m=>ha a m i hi (A_ _);have hlen:=ho.len hb;refine J (f7_ (by simp only[x_,c7_];omega)) (A ⟨k-1,ω,_,i+1,rfl,ω,hp,λa m j hj hij=>?_⟩);rcases p_.1 m with m | m
  ·exact ha a m j hj ω
  ·rw[P_.1 m];exact b3_.1 h.sort i j hi hj ω
 ·intro y hy;cases y with
  |inl z=>exact A ⟨hy,λq=>by cases q⟩
  |inr z=>exact A ⟨by show DutOK b D z.1.1;rw[show z.1.1=[]from hy];exact .nil,λ_=>hy⟩
structure BelOK(b:Bldg)(car:Nat)(x:Belief):Prop where
 fl:-1≤x.D0∧x.D0≤b.C0-1
 dir:0≤x.I0∧x.I0≤3
 door:0≤x.F3∧x.F3≤3
 still:0≤x.B3∧x.B3≤1000000
 late:x.V3=true→x.W0=[]
 dut:DutOK b (JZ b car).I1 x.W0
abbrev Ak9:=Int×Int×Int×List Duty×Int×Bool×Unit
@[reducible] def Asd(x:Belief):Ak9:=(x.D0,x.I0,x.F3,x.W0,x.B3,x.V3,())
def Ba7(b:Bldg)(car:Nat)(t:Ak9):Prop:=∃x,t=Asd x∧BelOK b car x
section
variable{b:Bldg}(hb:b.small)
include hb
theorem Ahl{x:Belief}:Ac3 b car x=E↔BelOK b car x:=by
 unfold Ac3 inR;simp only[e_,r_,Bh4 hb,a9_,Bool.and_eq_false_imp,decide_eq_false_iff_not];constructor
 ·rintro⟨h1,h2,h3,h4,h5,h6⟩;exact⟨h1,h2,h3,h4,λq=>List.length_eq_zero_iff.1 (by have:=h5 q;omega),h6⟩
 ·intro h;exact⟨h.fl,h.dir,h.door,h.still,λq=>(by rw[h.late q];decide),h.dut⟩
theorem BelOK.zero:BelOK b car ⟨0,0,0,[],0,L⟩:=by
 have:=hb.lo
 exact⟨⟨τ,show(0:Int)≤b.C0-1 by omega⟩,τ,τ,τ,λ_=>rfl,.nil⟩
variable(hcode:b.code=0){car:Nat}(hcar:car<b.B0.length){x:Belief}(h:BelOK b car x)
include hcode hcar h
theorem IE:Cm b.C0 b.E0 b.H0 b.M0 b.J0 b.L0 b.N0 b.B0 (car:Int) x.D0 x.I0 x.F3 x.W0 x.B3 x.V3=some ((E,()),()):=by exact Sc hb hcode hcar (c4_ (h.dut.len hb) τ) ((Ahl hb).2 h)
theorem Alg:(JZ b car).I1≤1000000000:=by
 have:=Ahq hcode (c:=JZ b car) (by unfold JZ;rw[k_,i_ hcar];exact b1_ hcar)
 omega
theorem Aft:H (MD b.C0 b.E0 b.H0 b.M0 b.J0 b.L0 b.N0 b.B0 (car:Int) x.D0 x.I0 x.F3 x.W0 x.B3 x.V3) λy=>Ba7 b car y.2.1:=by unfold MD;refine I (IE hb hcode hcar h) (Sat.bifF rfl (J (Ac ω ω) ?_));refine C (Ayl hb (Alg hb hcode hcar h) h.dut 0 0) λy2 h2=>A ⟨⟨x.D0,x.I0,x.F3,y2.1.1,0,y2.1.2.1⟩,rfl,⟨h.fl,h.dir,h.door,?_,h2.2,h2.1⟩⟩;exact show(0:Int)≤0∧(0:Int)≤1000000 from by decide
theorem Ac4:H (IJ b.C0 b.E0 b.H0 b.M0 b.J0 b.L0 b.N0 b.B0 (car:Int) x.D0 x.I0 x.F3 x.W0 x.B3 x.V3) λy=>Ba7 b car y.2.1:=by unfold IJ;refine I (IE hb hcode hcar h) (Sat.bifF rfl (A ⟨⟨x.D0,x.I0,x.F3,[],0,L⟩,rfl,⟨h.fl,h.dir,h.door,?_,λ_=>rfl,.nil⟩⟩));exact show(0:Int)≤0∧(0:Int)≤1000000 from by decide
theorem Afu:H (ME b.C0 b.E0 b.H0 b.M0 b.J0 b.L0 b.N0 b.B0 (car:Int) x.D0 x.I0 x.F3 x.W0 x.B3 x.V3) λy=>y.1.1=E→x.F3=2:=by unfold ME;refine C (Q:=λy=>y.1.1=E→x.F3=2) (I (IE hb hcode hcar h) (J rfl ?_)) λ_ h=>A h;exact B (λ_=>B (λq=>J (Ac ω ω) (A λ_=>eq_of_beq q)) λ_=>A λq=>by cases q) λ_=>A λq=>by cases q
theorem Aa2(o p q:Int):H (Km b.C0 b.E0 b.H0 b.M0 b.J0 b.L0 b.N0 b.B0 (car:Int) x.D0 x.I0 x.F3 x.W0 x.B3 x.V3 o p q) λy=>∃v,y.2.1=Asd v∧BelOK b car v∧(v.F3=2→q=2):=by
 unfold Km;refine I (IE hb hcode hcar h) (Sat.bifF rfl ?_);refine C (Q:=λy=>y.1.1=E→(-1≤o∧o≤b.C0-1)∧(0≤p∧p≤3)∧0≤q∧q≤3) ?_ λy2 h2=>?_
 ·unfold FL;refine C (Q:=λy=>y.1.1=E→(-1≤o∧o≤b.C0-1)∧(0≤p∧p≤3)∧0≤q∧q≤3) ?_ λ_ h=>A h;refine C (isFloors_ti _).out λ_ _=>B (λ_=>?_) λ_=>A λg=>(by cases g)
  refine B (λg1=>?_) λ_=>A λg=>(by cases g)
  refine B (λg2=>?_) λ_=>A λg=>(by cases g)
  refine B (λg3=>?_) λ_=>A λg=>(by cases g)
  refine B (λg4=>?_) λ_=>A λg=>(by cases g)
  refine B (λg5=>A λg6=>?_) λ_=>A λg=>(by cases g)
  have g2:=m_ g2;exact⟨⟨m_ g1,ω⟩,⟨m_ g3,m_ g4⟩,m_ g5,m_ g6⟩
 refine B (λ_=>A ⟨⟨0,0,0,[],0,L⟩,rfl,BelOK.zero hb,λe=>absurd e (show ¬(0:Int)=2 by decide)⟩) λk=>J (Ac ω ω) ?_;obtain⟨ho,hp,hq⟩:=h2 (by simpa using k);refine C (Nq ..) λy3 _=>C (Ayl hb (Alg hb hcode hcar h) h.dut _ _) λy4 h4=>?_;have i0:(0:Int)≤0∧(0:Int)≤1000000:=by decide
 refine C (Q:=λ(y:(Unit×Unit×Unit×Int×Unit)×(Ak9×(Int×Int×Int×Unit)×Ak9×Unit))=>(y.2.1=Asd ⟨x.D0,x.I0,x.F3,y4.1.1,x.B3,y4.1.2.1⟩∧y.2.2.1=(o,p,q,()))∧0≤y.1.2.2.2.1∧y.1.2.2.2.1≤1000000) ?_ ?_
 ·refine C (Q:=λy=>(y.2.1=Asd ⟨x.D0,x.I0,x.F3,y4.1.1,x.B3,y4.1.2.1⟩∧y.2.2.1=(o,p,q,()))∧y.1.2.2.2.1=0) ?_ ?_
  ·exact B (λ_=>B (λ_=>A ⟨⟨rfl,rfl⟩,rfl⟩) λ_=>A ⟨⟨rfl,rfl⟩,rfl⟩) λ_=>A ⟨⟨rfl,rfl⟩,rfl⟩
  ·intro y5 h5;refine B (λ_=>A ⟨h5.1,?_⟩) λ_=>A ⟨h5.1,?_⟩
   ·rw[h5.1.1];exact Ki h.still
   ·show 0≤y5.1.2.2.2.1∧y5.1.2.2.2.1≤1000000;rw[h5.2];exact i0
 rintro⟨⟨a1,a2,a3,n,a4⟩,t,v,w,z⟩ ⟨⟨e1,e2⟩,hn⟩;change t=_ at e1;change v=_ at e2;subst e1 e2;exact Sat.bindC (λ_=>aC (A ⟨⟨o,p,q,y4.1.1,n,y4.1.2.1⟩,rfl,⟨ho,hp,hq,hn,h4.2,h4.1⟩,id⟩)) λ_=>aC (A ⟨⟨x.D0,p,q,y4.1.1,n,y4.1.2.1⟩,rfl,⟨h.fl,hp,hq,hn,h4.2,h4.1⟩,id⟩)
end
def Bvr(a c:Duty):∃n:Int,CH a.D0 a.I0 a.F4 c.D0 c.I0 c.F4=some ((n,()),())∧(n<0↔UJ a c=E)∧(n=0↔a.D0=c.D0∧a.I0=c.I0):=by
 unfold CH;rw[HJ,HJ];simp only[a_];rw[Yg];refine⟨_,rfl,?_⟩;unfold UJ Ww;by_cases h1:a.D0<c.D0
 ·simp[h1];omega
 ·by_cases h2:c.D0<a.D0
  ·simp[h1,h2];omega
  ·by_cases h3:a.I0<c.I0
   ·simp[h1,h2,h3];omega
   ·by_cases h4:c.I0<a.I0
    ·simp[h1,h2,h3,h4];omega
    ·simp[h1,h2,h3,h4];omega
def Bnz{j:Nat}(h:i+j<9223372036854775808):N.wrap (Int.fdiv (aB IntKind.u64 (aB N ((i:Int)+(j:Int)))) ((2:Int)^(Min.min (P (1:Int)) (IntKind.bits IntKind.u64))))=(((i+j)/2:Nat):Int):=Aif h
section
variable{b:Bldg}(hb:b.small){D:Int}{l:List Duty}(h:DutOK b D l){F Dr:Int}(hD:1≤Dr∧Dr≤2)
include hb h hD
theorem Aqa(hi:i<l.length):∃n:Int,CH l[i].D0 l[i].I0 l[i].F4 F Dr 0=some ((n,()),())∧(n<0↔dK l[i]<4*F+Dr)∧(n=0↔dK l[i]=4*F+Dr):=by obtain⟨n,h1,h2,h3⟩:=Bvr l[i] (aD F Dr 0);have hc:=Fj hb (h.each _ (b1_ hi)).1;refine⟨n,h1,h2.trans (YE hc.2 hD),h3.trans ?_⟩;unfold dK;simp only;omega
theorem Beb:H (Ar ((l,(),(),(l.length:Int),0,(l.length:Int),()),((F,Dr,0,()),()))) λy=>∃p:Nat,y=((l,(),(),(l.length:Int),(p:Int),()),((F,Dr,0,()),()))∧p≤l.length∧(∀i (hi:i<l.length),i<p→dK l[i]<4*F+Dr)∧∀i (hi:i<l.length),p≤i→4*F+Dr≤dK l[i]:=by
 have hl:=h.len hb;unfold Ar;refine Sat.loop (λk x=>∃i j:Nat,x=((l,(),(),(l.length:Int),(i:Int),(j:Int),()),((F,Dr,0,()),()))∧j≤i+k∧i≤j∧j≤l.length∧(∀a (ha:a<l.length),a<i→dK l[a]<4*F+Dr)∧∀a (ha:a<l.length),j≤a→4*F+Dr≤dK l[a]) ?_ l.length ⟨0,l.length,rfl,ω,ω,ω,λa _ g=>by omega,λa _ g=>by omega⟩ ω;rintro k x ⟨i,j,rfl,hk,hij,hj,h1,h2⟩;show H (AW l (l.length:Int) (i:Int) (j:Int) F Dr 0) _;unfold AW;refine B (λq=>?_) λq=>A ?_
 ·have q:=m_ q;have hm:(i+j)/2<l.length:=ω;rw[Bnz ω];refine J (Ac ω ω) ?_;have g:aG l (P (((i+j)/2:Nat):Int)) (aD 0 0 0)=l[(i+j)/2]:=gD hm;simp only[g,Gb hm (show l.length≤Ba by unfold Ba;omega)];obtain⟨n,c1,c2,c3⟩:=Aqa hb h (F:=F) hD hm;refine I c1 (B (λg2=>A ⟨k-1,ω,(i+j)/2+1,j,rfl,ω,ω,hj,λa ha g3=>?_,h2⟩) λg2=>A ⟨k-1,ω,i,(i+j)/2,rfl,ω,ω,ω,h1,λa ha g3=>?_⟩)
  ·have:=c2.1 (m_ g2)
   rcases g2_ a ((i+j)/2)with g4 | g4
   ·have:=b3_.1 h.sort a _ ha hm g4
    omega
   ·obtain rfl:a=(i+j)/2:=ω;exact this
  ·have:¬dK l[(i+j)/2]<4*F+Dr:=λe=>E_ g2 (c2.2 e)
   rcases g2_ ((i+j)/2) a with g4 | g4
   ·have:=b3_.1 h.sort _ a hm ha g4
    omega
   ·obtain rfl:a=(i+j)/2:=ω;omega
 ·have q:=E_ q;exact⟨i,rfl,ω,h1,λa ha g=>h2 a ha ω⟩
theorem Bnu:H (AH l F Dr 0) λy=>∃p:Nat,y.1.1=(p:Int)∧p≤l.length∧(∀i (hi:i<l.length),i<p→dK l[i]<4*F+Dr)∧(y.1.2.1=L→∀i (hi:i<l.length),p≤i→4*F+Dr<dK l[i]):=by
 have hl:=h.len hb;unfold AH;refine C (Beb hb h (F:=F) hD) ?_;rintro y ⟨p,rfl,hp,h1,h2⟩;refine C (Q:=λy=>y.1.1=(p:Int)∧(y.1.2.1=L→∀i (hi:i<l.length),p≤i→4*F+Dr<dK l[i])) (B (λq=>?_) λq=>A ⟨rfl,λ_ i hi g=>?_⟩) λy hy=>A ⟨p,hy.1,hp,h1,hy.2⟩
 ·have q:p<l.length:=by have:=m_ q;exact Int.ofNat_lt.1 this
  refine J (Ac (Int.natCast_nonneg p) (Int.ofNat_lt.2 q)) ?_;have g:aG l (P (p:Int)) (aD 0 0 0)=l[p]:=gD q;simp only[g];obtain⟨n,c1,c2,c3⟩:=Aqa hb h (F:=F) hD q;refine I c1 (A ⟨rfl,λe i hi g2=>?_⟩);have e:¬n=0:=λe0=>by rw[e0]at e;cases e
  have e:=mt c3.2 e
  have:=h2 p q (A_ _)
  rcases g2_ p i with g4 | g4
  ·have:=b3_.1 h.sort _ i q hi g4
   omega
  ·obtain rfl:i=p:=ω;omega
 ·have:=E_ q
  have:¬p<l.length:=λe=>this (Int.ofNat_lt.2 e)
  omega
theorem Bsm(hc:Ai b F Dr=E)(h0:0≤D){p:Nat}(hp:p≤l.length)(h1:∀i (hi:i<l.length),i<p→dK l[i]<4*F+Dr)(h2:∀i (hi:i<l.length),p≤i→4*F+Dr<dK l[i]):H (CC l (p:Int) [aD F Dr 0]) λy=>DutOK b D y.1.1∧y.1.1≠[]:=by
 have hl:=h.len hb;unfold CC Abo;refine J ?_ (A ⟨⟨λe he=>?_,?_⟩,?_⟩)
 ·simp;omega
 ·rcases p_.1 he with he | he
  ·rcases p_.1 he with he | he
   ·exact h.each e (d8_ he)
   ·rw[P_.1 he];exact⟨hc,e0_ 0,h0⟩
  ·exact h.each e (d9_ he)
 ·have ht:∀a∈l.take p,dK a<4*F+Dr:=λa ha=>by
   obtain⟨i,hi,rfl⟩:=List.mem_take_iff_getElem.1 ha;exact h1 i ω ω
  have hd:∀a∈l.drop p,4*F+Dr<dK a:=λa ha=>by obtain⟨i,hi,rfl⟩:=List.mem_drop_iff_getElem.1 ha;exact h2 (p+i) ω ω
  show((l.take p++[aD F Dr 0])++l.drop p).Pairwise _;refine g0_.2 ⟨g0_.2 ⟨h.sort.take,List.pairwise_singleton ..,λa ha c hc=>?_⟩,h.sort.drop,λa ha c hc=>?_⟩
  ·rw[P_.1 hc];exact ht a ha
  ·rcases p_.1 ha with ha | ha
   ·exact Int.lt_trans (ht a ha) (hd c hc)
   ·rw[P_.1 ha];exact hd c hc
 ·simp
end
end Go.Ovl
