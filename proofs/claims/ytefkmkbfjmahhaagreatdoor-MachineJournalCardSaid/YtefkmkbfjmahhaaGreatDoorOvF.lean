import Derived.Test.YtefkmkbfjmahhaaGreatDoorOvE
import Derived.Test.YtefkmkbfjmahhaaGreatDoorOvC
import Derived.Test.YtefkmkbfjmahhaaGreatDoorOvA
set_option linter.all false
open Go.Ovl.Sat renaming ret->A,bic->B,bindS->C,bifT->I,bindE->N
open Bool renaming true->E,false->J
open Go.Ovl renaming Sat->H,Bldg->O,NewCar->aB
open Option renaming some->L
open Int renaming toNat->P
open BitVec renaming ofInt->aA,toNat->aG
open Go.IntKind renaming i64->aC,wrap->aD,u32->aF
open Go.Ovl.Duty renaming mk->aE
open Nat renaming lt_of_le_of_lt->aH
namespace Go.Ovl
open Go Go.Ab
set_option maxRecDepth 100000
variable{b:O}{l:List Duty}{fl D n:Int}{i car:Nat}{x:aB}{c:Int×Int}{α:Type}{e:Entry}
def C2(fl n:Int):Prop:=0≤n∧n.toNat<2^fl.toNat
def C2.zero:C2 fl 0:=⟨e0_ 0,Nat.two_pow_pos _⟩
def C2.vb{v:BitVec 32}(h:v.toNat<2^fl.toNat):C2 fl (vb v):=⟨Int.natCast_nonneg _,h⟩
def C2.bv(h:C2 fl n):(bv n).toNat<2^fl.toNat:=by
 refine aH ?_ h.2
 have:=h.1
 show(aA 32 n).toNat≤n.toNat;rw[Z_];show(n%4294967296).toNat≤n.toNat;omega
def C2.and{x y:Int}(h:C2 fl y):C2 fl (aD aF (stk x y (aG (aA (IntKind.bits .u32) x&&&aA (IntKind.bits .u32) y)))):=by rw[Vo];refine C2.vb ?_;rw[BitVec.toNat_and];exact aH Nat.and_le_right h.bv
def C2.andNot{x y:Int}(h:C2 fl x):C2 fl (aD aF (stk x y (aG (aA (IntKind.bits .u32) x&&& ~~~ aA (IntKind.bits .u32) y)))):=by rw[KU];refine C2.vb ?_;rw[BitVec.toNat_and];exact aH Nat.and_le_left h.bv
def C2.or{x y:Int}(h:C2 fl x)(h2:C2 fl y):C2 fl (aD aF (stk x y (aG (aA (IntKind.bits .u32) x|||BitVec.ofInt (IntKind.bits .u32) y)))):=by rw[Ahy];refine C2.vb ?_;rw[BitVec.toNat_or];exact Nat.or_lt_two_pow h.bv h2.bv
def C2.all(h:2≤fl∧fl≤8):C2 fl (aD aF (aD aF (1*2^min (P fl) (IntKind.bits .u32))-1)):=by
 unfold C2
 have:fl=2∨fl=3∨fl=4∨fl=5∨fl=6∨fl=7∨fl=8:=ω
 rcases this with e | e | e | e | e | e | e<;>rw[e]<;>decide
def Alc:(Int.fdiv n ((2:Int)^P fl)==0)=E↔C2 fl n:=by
 have hp:(0:Int)<2^P fl:=Int.pow_pos τ;have hc:((2^P fl:Nat):Int)=(2:Int)^P fl:=by rw[Int.natCast_pow];rfl
 rw[a9_ _ (Int.le_of_lt hp),U_];unfold C2;constructor
 ·intro h;have h1:=Int.mul_ediv_add_emod n (2^P fl);rw[h,Int.mul_zero,Int.zero_add]at h1;have h2:=Int.emod_nonneg n (Int.ne_of_gt hp);have h3:=Int.emod_lt_of_pos n hp;rw[h1]at h2 h3;refine⟨h2,?_⟩;rw[← hc]at h3;omega
 ·intro h;refine Int.ediv_eq_zero_of_lt h.1 ?_;rw[← hc]
  have:=h.1
  have:=h.2
  omega
structure Sx(fl:Int)(x:NewCar):Prop where
 sw:S2 x.S1 x.C1
 dr:D5 x.Z0 x.I1 x.F1 x.H1 x.D1
 mt:M3 fl x.T0 x.Y0 x.S0
 ca:C2 fl x.V1
 sh:dir2 x.Y2
 idle:0≤x.J3∧x.J3≤1000000
 nf:x.Z2=false
def Mz(x:aB):Prop:=x.T0=0∧x.Y0=0∧x.S0=0
def Anp(x:aB):Ano x=E↔Mz x:=by unfold Ano Mz;simp
def Sy(fl:Int)(x:aB):Prop:=Sx fl x∧(x.Z0=0∨Mz x)
def Aic(h:D5 x.Z0 x.I1 x.F1 x.H1 x.D1):SO x=E↔x.Z0=0:=by
 unfold SO;rcases h with⟨h1,h2,h3,h4,h5⟩ | h
 ·rw[h1,h2,h3,h4,h5];decide
 ·have:¬x.Z0=0:=ω
  simp[this]
def We(hb:b.small)(hf:x.Z2=J):Hn b x=E↔Sy b.D0 x:=by
 have lo:=hb.lo;unfold Hn;rw[hf,b_];unfold Wn QP Ae3 inR;simp only[e_,a2_,v_,Adp,Ai7 (ω:2≤b.D0),Alc,Anp];constructor
 ·rintro⟨h1,h2,h3,h4,h5,h6,h7⟩;rw[Aic h2]at h4;exact⟨⟨⟨h1.1,h1.2⟩,h2,h3,h5,h6,h7,hf⟩,h4⟩
 ·rintro⟨h,h4⟩;exact⟨⟨h.sw.1,h.sw.2⟩,h.dr,h.mt,h4.imp_left (Aic h.dr).2,h.ca,h.sh,h.idle⟩
def D5.one:D5 1 0 0 J 0:=D5.at (a:=1) τ τ τ τ τ
@[reducible] def QI(b:O)(car:Int)(x:aB)(f:Int)(l:Bool)(d:Int)(k:Bool)(c:Int):PJ:=(b.D0,b.G0,b.I0,b.M0,b.L0,b.N0,b.O0,b.B0,car,x.S1,x.C1,x.Z0,x.I1,x.F1,x.H1,x.D1,x.T0,x.Y0,x.S0,x.V1,x.Y2,x.J3,x.Z2,f,l,d,k,c,())
section
variable{b:O}(hb:b.small){car f:Int}(hf:0≤f∧f<b.D0){x:aB}(l:Bool)(d:Int)(k:Bool)(c:Int)
include hb
theorem TQ(hcar:0≤car∧car<b.B0.length):H (Cn (newcar_control.mk b.D0 b.G0 b.I0 b.M0 b.L0 b.N0 b.O0 b.B0 car x.S1 x.C1 x.Z0 x.I1 x.F1 x.H1 x.D1 x.T0 x.Y0 x.S0 x.V1 x.Y2 x.J3 x.Z2 f l d k c)) λ_=>True:=by unfold Cn;exact I (Ac hcar.1 hcar.2) (A trivial)
include hf
theorem Apm(p:Int)(h:Sx b.D0 x):H (Ea p b.D0 b.G0 b.I0 b.M0 b.L0 b.N0 b.O0 b.B0 car x.S1 x.C1 x.Z0 x.I1 x.F1 x.H1 x.D1 x.T0 x.Y0 x.S0 x.V1 x.Y2 x.J3 x.Z2 f l d k c) λy=>∃n,y.2.1=QI b car { x with V1:=n } f l d k c∧C2 b.D0 n:=by
 have lo:=hb.lo;have hi:=hb.hi;unfold Ea;refine I (c_ (ω:0≤b.D0)) ?_;refine C (Q:=λy=>y.2.1=QI b car x f l d k c∧C2 b.D0 y.1.2.1) ?_ λy hy=>?_
 ·exact B (λ_=>I (c_ hf.1) (A ⟨rfl,(C2.all ⟨ω,hi⟩).and.andNot⟩)) λ_=>A ⟨rfl,(C2.all ⟨ω,hi⟩).and⟩
 ·obtain⟨u,t,w⟩:=y;obtain⟨e,hn⟩:=hy;change t=_ at e;subst e;exact A ⟨_,rfl,h.ca.or hn⟩
omit hf
theorem Adn(w:Int):H (Cc w b.D0 b.G0 b.I0 b.M0 b.L0 b.N0 b.O0 b.B0 car x.S1 x.C1 x.Z0 x.I1 x.F1 x.H1 x.D1 x.T0 x.Y0 x.S0 x.V1 x.Y2 x.J3 x.Z2 f l d k c) λy=>∃c' t' f' cm,y.2.1=QI b car { x with T0:=c',Y0:=t',S0:=f' } f l d k cm∧M3 b.D0 c' t' f'∧(y.1.1=E→MZ (c',t',f',()))∧(x.T0=0→w=0→l=E→MZ (c',t',f',())):=by have lo:=hb.lo;have hi:=hb.hi;unfold Cc;exact C (Akd ⟨ω,hi⟩ ..) λy hy=>A ⟨_,_,_,_,rfl,hy.1,hy.2.1,hy.2.2⟩
omit hb in
theorem Bh2{c' t' f':Int}(x:aB)(h:MZ (c',t',f',())):Mz { x with T0:=c',Y0:=t',S0:=f' }:=by unfold MZ at h;simp only[f7_]at h;exact⟨h.1,h.2.1,h.2.2.1⟩
theorem Amb(h:Sx b.D0 x):H (DU b.D0 b.G0 b.I0 b.M0 b.L0 b.N0 b.O0 b.B0 car x.S1 x.C1 x.Z0 x.I1 x.F1 x.H1 x.D1 x.T0 x.Y0 x.S0 x.V1 x.Y2 x.J3 x.Z2 f l d k c) λy=>∃x' c',y.2.1=QI b car x' f l d k c'∧Sx b.D0 x'∧x'.Z0=x.Z0∧(y.1.1=E→Mz x'):=by
 unfold DU;refine C (Q:=λy=>y.2.1=QI b car x f l d k c∧(y.1.2.1=E→Mz x)) (B (λq=>A ⟨rfl,λ_=>(Anp x).1 q⟩) λ_=>A ⟨rfl,λq=>(by cases q)⟩) ?_;rintro⟨u,t,w⟩ ⟨e,h1⟩;change t=_ at e;subst e;refine B (λq=>A ⟨x,c,rfl,h,rfl,λ_=>h1 q⟩) λ_=>?_;refine C (Q:=λy=>∃x' c',y.2.1=QI b car x' f l d k c'∧Sx b.D0 x'∧x'.Z0=x.Z0∧(y.1.2.2.1=E→Mz x')) ?_ ?_
 ·refine C (Adn hb (x:=x) l d k c 0) ?_;rintro⟨u2,t2,w2⟩ ⟨c',t',f',cm,e,hm,hs,hz⟩;change t2=_ at e;subst e;have hx':Sx b.D0 { x with T0:=c',Y0:=t',S0:=f' }:=⟨h.sw,h.dr,hm,h.ca,h.sh,h.idle,h.nf⟩
  refine B (λq=>A ⟨_,cm,rfl,hx',rfl,λ_=>Bh2 x (hs q)⟩) λ_=>B (λq=>A ⟨_,cm,rfl,hx',rfl,λq2=>Bh2 x (hz ?_ rfl q2)⟩) λ_=>A ⟨_,cm,rfl,hx',rfl,λq=>(by cases q)⟩;simpa using q
 rintro⟨u3,t3,w3⟩ ⟨x',c',e,h',hd,hz⟩;change t3=_ at e;subst e;refine B (λq=>A ⟨x',c',rfl,h',hd,λ_=>hz q⟩) λ_=>?_;refine C (Q:=λy=>y.2.1=QI b car x' f l d k c') (B (λ_=>A rfl) λ_=>A rfl) ?_;rintro⟨u4,t4,w4⟩ e;change t4=_ at e;subst e;exact B (λ_=>A ⟨{ x' with J3:=0 },c',rfl,⟨h'.sw,h'.dr,h'.mt,h'.ca,h'.sh,⟨e0_ 0,show(0:Int)≤1000000 from by decide⟩,h'.nf⟩,hd,λq=>(by cases q)⟩) λ_=>A ⟨x',c',rfl,h',hd,λq=>(by cases q)⟩
omit hb in
theorem i00:(0:Int)≤0∧(0:Int)≤1000000:=by decide
include hf
theorem Apl(hcar:0≤car∧car<b.B0.length)(h:Sx b.D0 x)(hm:Mz x):H (DZ b.D0 b.G0 b.I0 b.M0 b.L0 b.N0 b.O0 b.B0 car x.S1 x.C1 x.Z0 x.I1 x.F1 x.H1 x.D1 x.T0 x.Y0 x.S0 x.V1 x.Y2 x.J3 x.Z2 f l d k c) λy=>∃x' c',y.2.1=QI b car x' f l d k c'∧Sx b.D0 x'∧Mz x':=by
 unfold DZ;refine C (TQ hb l d k c hcar) λy1 _=>C (Aau ..) λy2 hd=>?_;refine C (Q:=λy=>∃x' c',y.2.1=QI b car x' f l d k c'∧Sx b.D0 x'∧Mz x') ?_ ?_
 ·refine B (λ_=>I (c_ hf.1) (A ⟨{ x with Z0:=y2.2.1.1,I1:=y2.2.1.2.1,F1:=y2.2.1.2.2.1,H1:=y2.2.1.2.2.2.1,D1:=y2.2.1.2.2.2.2.1,V1:=_ },_,rfl,⟨h.sw,hd,h.mt,h.ca.andNot,h.sh,h.idle,h.nf⟩,hm⟩)) λ_=>?_;refine B (λ_=>A ⟨{ x with Z0:=y2.2.1.1,I1:=y2.2.1.2.1,F1:=y2.2.1.2.2.1,H1:=y2.2.1.2.2.2.1,D1:=y2.2.1.2.2.2.2.1,Y2:=0 },_,rfl,⟨h.sw,hd,h.mt,h.ca,dir2.zero,h.idle,h.nf⟩,hm⟩) λ_=>?_;exact A ⟨{ x with Z0:=y2.2.1.1,I1:=y2.2.1.2.1,F1:=y2.2.1.2.2.1,H1:=y2.2.1.2.2.2.1,D1:=y2.2.1.2.2.2.2.1 },_,rfl,⟨h.sw,hd,h.mt,h.ca,h.sh,h.idle,h.nf⟩,hm⟩
 rintro⟨u,t,w⟩ ⟨x',c',e,h',hz⟩;change t=_ at e;subst e;exact A ⟨{ x' with J3:=0 },c',rfl,⟨h'.sw,h'.dr,h'.mt,h'.ca,h'.sh,i00,h'.nf⟩,hz⟩
def CtP(b:O)(car f:Int)(l:Bool)(d:Int)(k:Bool)(t:PJ):Prop:=∃x' c',t=QI b car x' f l d k c'∧Sy b.D0 x'
def CtS(b:O)(car f:Int)(l:Bool)(d:Int)(k:Bool)(s:(Unit×(PJ×Unit))⊕(Unit×(PJ×Unit))):Prop:=match s with
 | .inl y=>CtP b car f l d k y.2.1
 | .inr y=>CtP b car f l d k y.2.1
omit hf
theorem Ama(hcode:b.code=0)(hcar:0≤car∧car<b.B0.length)(hu hd:Int)(h:Sx b.D0 x)(h0:x.Z0=0)(hm:Mz x):H (DT hu hd b.D0 b.G0 b.I0 b.M0 b.L0 b.N0 b.O0 b.B0 car x.S1 x.C1 x.Z0 x.I1 x.F1 x.H1 x.D1 x.T0 x.Y0 x.S0 x.V1 x.Y2 x.J3 x.Z2 f l d k c) (CtS b car f l d k):=by
 unfold DT;refine C (Bbt ..) λy1 hc=>C (Bkj ..) λy2 hn=>?_;refine B (λ_=>?_) λ_=>?_
 ·refine C (TQ hb (x:={ x with S1:=y2.2.1.1,C1:=y2.2.1.2.1,Y2:=y1.2.1.2.2.1,J3:=0 }) l d k c hcar) λy3 _=>C (Aau ..) λy4 hd=>A ?_;exact⟨{ x with S1:=y2.2.1.1,C1:=y2.2.1.2.1,Y2:=y1.2.1.2.2.1,J3:=0,Z0:=y4.2.1.1,I1:=y4.2.1.2.1,F1:=y4.2.1.2.2.1,H1:=y4.2.1.2.2.2.1,D1:=y4.2.1.2.2.2.2.1 },_,rfl,⟨hn,hd,h.mt,h.ca,hc.2,i00,h.nf⟩,.inr hm⟩
 have st:∀(w i:Int),(0≤i∧i≤1000000)→H (Cc w b.D0 b.G0 b.I0 b.M0 b.L0 b.N0 b.O0 b.B0 car y2.2.1.1 y2.2.1.2.1 x.Z0 x.I1 x.F1 x.H1 x.D1 x.T0 x.Y0 x.S0 x.V1 x.Y2 i x.Z2 f l d k c) λy=>CtP b car f l d k y.2.1:=λw i hi=>by refine(Adn hb (x:={ x with S1:=y2.2.1.1,C1:=y2.2.1.2.1,J3:=i }) l d k c w).mono ?_;rintro⟨u,t,w⟩ ⟨c',t',f',cm,e,hm,_⟩;change t=_ at e;subst e;exact⟨_,cm,rfl,⟨hn,h.dr,hm,h.ca,h.sh,hi,h.nf⟩,.inl h0⟩
 refine B (λ_=>C (st _ _ i00) λ_ h=>A h) λ_=>B (λ_=>C (st _ _ i00) λ_ h=>A h) λ_=>?_;have hv:AV b.D0 b.G0 b.I0 b.M0 b.L0 b.N0 b.O0 b.B0=L ((b.code,()),()):=Bk ..;refine C (Apw hcode hv ..) λy7 _=>B (λ_=>C (st _ _ h.idle) λ_ h=>A h) λ_=>A ?_;exact⟨{ x with S1:=y2.2.1.1,C1:=y2.2.1.2.1,J3:=up1 x.J3 },0,rfl,⟨hn,h.dr,h.mt,h.ca,h.sh,Kk h.idle,h.nf⟩,.inl h0⟩
omit hb in
theorem Brr:∀(o:Fin 8),0≤aC.wrap (stk ((o.val:Nat):Int) 1 (aG ((aA (IntKind.bits aC) ((o.val:Nat):Int))|||(aA (IntKind.bits aC) 1))))∧aC.wrap (stk ((o.val:Nat):Int) 1 (aG ((aA (IntKind.bits aC) ((o.val:Nat):Int))|||(aA (IntKind.bits aC) 1))))≤7:=by decide
include hf
theorem Azj(hcode:b.code=0)(hcar:0≤car∧car<b.B0.length)(p hu hd:Int)(h:Sy b.D0 x):H (EF p hu hd b.D0 b.G0 b.I0 b.M0 b.L0 b.N0 b.O0 b.B0 car x.S1 x.C1 x.Z0 x.I1 x.F1 x.H1 x.D1 x.T0 x.Y0 x.S0 x.V1 x.Y2 x.J3 x.Z2 f l d k c) (CtS b car f l d k):=by
 unfold EF;refine C (Apm hb hf l d k c p h.1) ?_;rintro⟨u,t,w⟩ ⟨n,e,hn⟩;change t=_ at e;subst e;have h1:Sx b.D0 { x with V1:=n }:=⟨h.1.sw,h.1.dr,h.1.mt,hn,h.1.sh,h.1.idle,h.1.nf⟩
 refine C (Q:=λy=>∃x' c',y.2.2.1=QI b car x' f l d k c'∧Sy b.D0 x'∧(y.1.2.2.1=J→Mz x')) ?_ ?_
 ·refine B (λq=>?_) λq=>A ⟨_,c,rfl,⟨h1,h.2⟩,λ_=>h.2.resolve_left (by simpa using q)⟩;refine C (Amb hb l d k c h1) ?_;rintro⟨u2,t2,w2⟩ ⟨x',c',e,h',hd,hz⟩;change t2=_ at e;subst e;exact A ⟨x',c',rfl,⟨h',.inl (hd.trans (by simpa using q))⟩,λq=>hz (by simpa using q)⟩
 rintro⟨u3,u3b,t3,w3⟩ ⟨x',c',e,h',hz⟩;change t3=_ at e;subst e;refine B (λ_=>A ⟨x',c',rfl,h'⟩) λq=>?_;have hz:=hz q;refine C (Q:=λy=>∃x' c',y.2.2.1=QI b car x' f l d k c'∧Sx b.D0 x'∧Mz x') ?_ ?_
 ·refine C (Q:=λy=>y.2.2.1=QI b car x' f l d k c') (B (λ_=>A rfl) λ_=>A rfl) ?_;rintro⟨u4,u4b,t4,w4⟩ e;change t4=_ at e;subst e;refine B (λ_=>A ⟨{ x' with C1:=_,Z0:=1,I1:=0,F1:=0,H1:=J,D1:=0,Y2:=0 },c',rfl,⟨⟨h'.1.sw.1,?_⟩,D5.one,h'.1.mt,h'.1.ca,dir2.zero,h'.1.idle,h'.1.nf⟩,hz⟩) λ_=>A ⟨x',c',rfl,h'.1,hz⟩;have h5a:=h'.1.sw.2.1;have h5b:=h'.1.sw.2.2
  have:=Brr ⟨x'.C1.toNat,ω⟩
  simp only[g0_ h5a]at this;exact this
 rintro⟨u5,u5b,t5,w5⟩ ⟨x5,c5,e,h5,hz5⟩;change t5=_ at e;subst e;refine B (λ_=>?_) λq=>?_
 ·refine C (Apl hb hf l d k c5 hcar h5 hz5) ?_;rintro⟨u6,t6,w6⟩ ⟨x6,c6,e,h6,hz6⟩;exact A ⟨x6,c6,e,h6,.inr hz6⟩
 ·refine C (Q:=λ(y:Unit×(PJ×Unit))=>CtP b car f l d k y.2.1) ?_ λ_ h=>A h;refine C (Ama hb l d k c5 hcode hcar _ _ h5 (by simpa using q) hz5) λy7 h7=>?_;cases y7 with
  |inl _=>exact A h7
  |inr _=>exact A h7
end
def App{a b c:Int}{d:Bool}{e:Int}(h:D5 a b c d e):H (Nn a b c d e) λy=>letI f:=y.2.1.2;D5 y.2.1.1 f.1 f.2.1 f.2.2.1 f.2.2.2.1∧(a=0→y.2.1.1=0):=by
 by_cases g:a=0
 ·obtain⟨h1,h2,h3,h4,h5⟩:a=0∧b=0∧c=0∧d=J∧e=0:=h.resolve_right λq=>absurd g ω;subst h1 h2 h3 h4 h5;exact⟨_,rfl,D5.zero,λ_=>rfl⟩
 ·exact(Apo h).mono λ_ q=>⟨q,λq=>absurd q g⟩
def Akc{c t f:Int}(h:M3 fl c t f):H (KY c t f) λy=>M3 fl y.2.1.1 y.2.1.2.1 y.2.1.2.2.1∧(c=0∧t=0∧f=0→MZ y.2.1):=by
 by_cases g:c=0∧t=0∧f=0
 ·obtain⟨h1,h2,h3⟩:=g;subst h1 h2 h3;exact⟨_,rfl,M3.zero,λ_=>rfl⟩
 ·exact(Akb h).mono λ_ q=>⟨q,λq=>absurd q g⟩
@[reducible] def Bcs(x:aB):Aba:=(x.S1,x.C1,x.Z0,x.I1,x.F1,x.H1,x.D1,x.T0,x.Y0,x.S0,x.V1,x.Y2,x.J3,x.Z2,())
def Bbs(b:O)(t:Aba):Prop:=∃x,t=Bcs x∧Hn b x=E
def Sy.zero:Sy fl BG:=⟨⟨S2.zero dir2.zero,D5.zero,M3.zero,C2.zero,dir2.zero,i00,rfl⟩,.inl rfl⟩
def Aa1(b:O):Hn b { BG with Z2:=E }=E:=rfl
section
variable{b:O}(hb:b.small)
include hb
theorem Nb:Hn b BG=E:=(We hb rfl).2 Sy.zero
theorem Ajv(c0 c1 c2 c3 c4 c5 c6 c7 c8:Int)(h:Sy b.D0 x)(n:Int):H (HH c0 c1 c2 c3 c4 c5 c6 c7 c8 x.S1 x.C1 x.Z0 x.I1 x.F1 x.H1 x.D1 x.T0 x.Y0 x.S0 x.V1 x.Y2 x.J3 x.Z2 n) λy=>Bbs b y.2.1:=by unfold HH;refine C (Apn ..) λy1 _=>B (λ_=>A ⟨{ BG with Z2:=E },rfl,Aa1 b⟩) λ_=>?_;exact C (Aka ..) λy2 _=>B (λ_=>A ⟨{ BG with Z2:=E },rfl,Aa1 b⟩) λ_=>A ⟨x,rfl,(We hb h.1.nf).2 h⟩
variable(hcode:b.code=0)(car:Int)(x:aB)
include hcode
theorem Am6:JI b.D0 b.G0 b.I0 b.M0 b.L0 b.N0 b.O0 b.B0 car x.S1 x.C1 x.Z0 x.I1 x.F1 x.H1 x.D1 x.T0 x.Y0 x.S0 x.V1 x.Y2 x.J3 x.Z2=L ((Hn b x&&(decide (0≤car)&&decide (car<(b.B0.length:Int))),()),()):=by unfold JI;rw[Jw hb hcode];simp only[a_];cases Hn b x<;>cases decide (0≤car)<;>rfl
theorem Ake(f:Int)(l:Bool)(d:Int)(k:Bool)(p hu hd:Int):H (NF b.D0 b.G0 b.I0 b.M0 b.L0 b.N0 b.O0 b.B0 car x.S1 x.C1 x.Z0 x.I1 x.F1 x.H1 x.D1 x.T0 x.Y0 x.S0 x.V1 x.Y2 x.J3 x.Z2 f l d k p hu hd) λy=>Bbs b y.2.1:=by
 unfold NF;refine N (Am6 hb hcode car x) (B (λ_=>A ⟨BG,rfl,Nb hb⟩) λq=>?_);have q:Hn b x=E∧0≤car∧car<(b.B0.length:Int):=by
  have q:(Hn b x&&(decide (0≤car)&&decide (car<(b.B0.length:Int))))=E:=by simpa only[Bool.not_eq_false']using q
  simpa only[e_,v_]using q
 obtain⟨hx,hcar⟩:=q;refine C (Q:=λy=>y.1.1=E→0≤f∧f<b.D0) ?_ λy2 h2=>?_
 ·unfold Lx;refine C (Q:=λy=>y.1.1=E→0≤f∧f<b.D0) ?_ λ_ h=>A h;refine B (λa=>B (λc=>B (λ_=>A λ_=>⟨n_ a,n_ c⟩) λ_=>A λg=>(by cases g)) λ_=>A λg=>(by cases g)) λ_=>A λg=>(by cases g)
 refine B (λ_=>A ⟨BG,rfl,Nb hb⟩) λq2=>B (λ_=>A ⟨x,rfl,hx⟩) λhf=>?_;have hff:=h2 (by simpa using q2);refine C (Q:=λ(y:(Unit×Unit×Unit×Unit)×(Aba×Aba×PJ×Unit))=>CtP b car f l d k y.2.2.2.1) (C (Azj hb hff l d k 0 hcode hcar p hu hd ((We hb hf).1 hx)) λy3 h3=>?_) ?_
 ·cases y3 with
  |inl _=>exact A h3
  |inr _=>exact A h3
 rintro⟨u,v,w,t,z⟩ ⟨x',c',e,h'⟩;change t=_ at e;subst e;exact C (TQ hb (x:=x') l d k c' hcar) λy6 _=>C (Ajv hb _ _ _ _ _ _ _ _ _ h' c') λy7 h7=>A h7
theorem Ag6:H (MJ b.D0 b.G0 b.I0 b.M0 b.L0 b.N0 b.O0 b.B0 car x.S1 x.C1 x.Z0 x.I1 x.F1 x.H1 x.D1 x.T0 x.Y0 x.S0 x.V1 x.Y2 x.J3 x.Z2) λy=>Bbs b y.2.1:=by
 unfold MJ;refine N (Am6 hb hcode car x) (B (λ_=>A ⟨BG,rfl,Nb hb⟩) λq=>?_);have q:Hn b x=E∧0≤car∧car<(b.B0.length:Int):=by
  have q:(Hn b x&&(decide (0≤car)&&decide (car<(b.B0.length:Int))))=E:=by simpa only[Bool.not_eq_false']using q
  simpa only[e_,v_]using q
 obtain⟨hx,hcar⟩:=q;refine B (λ_=>A ⟨x,rfl,hx⟩) λhf=>?_;have h:=(We hb hf).1 hx;refine C (App h.1.dr) λy2 h2=>C (Akc h.1.mt) λy3 h3=>I (Ac hcar.1 hcar.2) ?_;refine C (Ajv hb _ _ _ _ _ _ _ _ _ (x:={ x with Z0:=y2.2.1.1,I1:=y2.2.1.2.1,F1:=y2.2.1.2.2.1,H1:=y2.2.1.2.2.2.1,D1:=y2.2.1.2.2.2.2.1,T0:=y3.2.1.1,Y0:=y3.2.1.2.1,S0:=y3.2.1.2.2.1 }) ⟨⟨h.1.sw,h2.1,h3.1,h.1.ca,h.1.sh,h.1.idle,h.1.nf⟩,?_⟩ 0) λy4 h4=>A h4;refine h.2.imp (λg=>h2.2 g) λg=>?_;have e:=h3.2 g;unfold MZ at e;show y3.2.1.1=0∧y3.2.1.2.1=0∧y3.2.1.2.2.1=0;rw[e];exact⟨rfl,rfl,rfl⟩
theorem Ag8(f:Int)(l:Bool)(d:Int)(k:Bool):H (JH b.D0 b.G0 b.I0 b.M0 b.L0 b.N0 b.O0 b.B0 x.S1 x.C1 x.Z0 x.I1 x.F1 x.H1 x.D1 x.T0 x.Y0 x.S0 x.V1 x.Y2 x.J3 x.Z2 f l d k) λ_=>True:=by unfold JH;have i:SatT (Eh b.D0 b.G0 b.I0 b.M0 b.L0 b.N0 b.O0 b.B0 x.S1 x.C1 x.Z0 x.I1 x.F1 x.H1 x.D1 x.T0 x.Y0 x.S0 x.V1 x.Y2 x.J3 x.Z2):=⟨⟨_,Jw hb hcode x,trivial⟩⟩;exact Sat.go
end
def U2(a c:Int):Prop:=(0≤a∧a<4294967296)∧0≤c∧c<4294967296
def U2.zero:U2 0 0:=by unfold U2;decide
def U2.fst:U2 (aD aF n) 0:=⟨Hu n,τ⟩
def U2.snd:U2 0 (aD aF n):=⟨τ,Hu n⟩
instance isFloors_ti(n:Int):SatT (Fi n):=⟨by unfold Fi;exact Sat.go⟩
instance isObs_ti(n a c d:Int):SatT (Fy n a c d):=⟨by unfold Fy;exact Sat.go⟩
def Nl(n a c d:Int):H (Fz n a c d) λy=>U2 y.2.1.1 y.2.1.2.1:=by
 unfold Fz;refine C (isObs_ti n a c d).out λ_ _=>B (λ_=>A U2.zero) λ_=>B (λ_=>A U2.zero) λ_=>B (λ_=>A U2.zero) λh=>?_;have h0:0≤a:=by have:=H_ h;omega
 refine C (Q:=λy=>y.2.1.1=a) (B (λ_=>A rfl) λ_=>A rfl) λy2 h2=>?_;refine B (λ_=>I (c_ (h2▸h0)) (A U2.fst)) λ_=>?_;refine C (Q:=λy=>y.2.1.1=a) (B (λ_=>A h2) λ_=>A h2) λy3 h3=>?_;exact B (λ_=>I (c_ (h3▸h0)) (A U2.snd)) λ_=>A U2.zero
def Ag7(hb:b.small)(hcode:b.code=0)(x:aB)(f:Int)(l:Bool)(d:Int)(k:Bool):H (MK b.D0 b.G0 b.I0 b.M0 b.L0 b.N0 b.O0 b.B0 x.S1 x.C1 x.Z0 x.I1 x.F1 x.H1 x.D1 x.T0 x.Y0 x.S0 x.V1 x.Y2 x.J3 x.Z2 f l d k) λy=>U2 y.2.1.1 y.2.1.2.1:=by unfold MK;refine N (Jw hb hcode x) (B (λ_=>A U2.zero) λ_=>B (λ_=>A U2.zero) λ_=>B (λ_=>A U2.zero) λ_=>B (λ_=>A U2.zero) λ_=>?_);exact C (Nl ..) λ_ h=>A h
instance pair_ti(a c:Bool):SatT (HD a c 0 1 2 3):=⟨by cases a<;>cases c<;>exact⟨_,rfl,trivial⟩⟩
def Baw(a c:Bool):H (HD a c 0 1 2 3) λy=>0≤y.1.1∧y.1.1≤3:=by cases a<;>cases c<;>exact⟨_,rfl,τ⟩
def dK(e:Duty):Int:=4*e.E0+e.J0
structure DutOK(b:Bldg)(D:Int)(l:List Duty):Prop where
 each:∀e∈l,Ao b e.E0 e.J0=true∧0≤e.Z4∧e.Z4≤D
 sort:l.Pairwise λa c=>dK a<dK c
def DutOK.nil:DutOK b D []:=⟨λ_ h=>(by cases h),List.Pairwise.nil⟩
def Fc(hb:b.small){f d:Int}(h:Ao b f d=E):(0≤f∧f<8)∧(1≤d∧d≤2):=by have lo:=hb.lo;have hi:=hb.hi;unfold Ao NW inR at h;simp only[e_,a2_,U_,v_]at h;omega
def YM{a c:Duty}(ha:1≤a.J0∧a.J0≤2)(hc:1≤c.J0∧c.J0≤2):UW a c=E↔dK a<dK c:=by unfold UW dK;simp only[e_,a2_,U_,v_];omega
def XT{l:List Duty}(h:∀i,i+1<l.length→dK (l.getD i Hh)<dK (l.getD (i+1) Hh)):∀i k:Nat,i+1+k<l.length→dK (l.getD i Hh)<dK (l.getD (i+1+k) Hh)
 |i,0,hk=>h i hk
 |i,k+1,hk=>Int.lt_trans (XT h i k ω) (h (i+1+k) ω)
def gD(h:i<l.length):l.getD i Hh=l[i]:=by simp only[k_,j_ h,Option.getD_some]
def Biz(hb:b.small)(x:Belief):PO (Amh b car x) x.W0.length 0=E↔DutOK b (Kb b car).G1 x.W0:=by
 constructor
 ·intro h;have h:=TF _ _ h;have hp:∀i,i<x.W0.length→Ao b (x.W0.getD i Hh).E0 (x.W0.getD i Hh).J0=E∧(0≤(x.W0.getD i Hh).Z4∧(x.W0.getD i Hh).Z4≤(Kb b car).G1)∧(i=0∨UW (x.W0.getD (i-1) Hh) (x.W0.getD i Hh)=E):=λi hi=>by
   have h:=h i ω ω;unfold Amh Atn inR at h;simpa only[e_,a2_,U_,v_]using h
  refine⟨λe he=>?_,?_⟩
  ·obtain⟨i,hi,rfl⟩:=List.mem_iff_getElem.1 he
   have:=hp i hi
   rw[gD hi]at this;exact⟨this.1,this.2.1⟩
  ·rw[b5_];intro i j hi hj hij
   have:=XT (l:=x.W0) (λi hi=>by have h1:=hp (i+1) hi;have h0:=hp i ω;have h2:=h1.2.2.resolve_left ω;exact(YM (Fc hb h0.1).2 (Fc hb h1.1).2).1 h2) i (j-i-1) ω
   rw[show i+1+(j-i-1)=j by omega,gD hi,gD hj]at this;exact this
 ·intro h;refine UG _ _ λk _ hk=>?_;have hk:k<x.W0.length:=ω;have h1:=h.each _ (b3_ hk);unfold Amh Atn inR;simp only[e_,a2_,U_,v_,gD hk];refine⟨h1.1,h1.2,?_⟩;by_cases k0:k=0
  ·exact .inl k0
  ·have hj:k-1<x.W0.length:=ω;rw[gD hj];have h0:=h.each _ (b3_ hj);exact .inr ((YM (Fc hb h0.1).2 (Fc hb h1.1).2).2 (b5_.1 h.sort _ _ hj hk ω))
def DutOK.len(hb:b.small)(h:DutOK b D l):l.length≤30:=by
 have key:∀i (hi:i<l.length),(i:Int)+1≤dK l[i]:=λi=>by
  induction i with
  |zero=>
   intro hi
   have:=Fc hb (h.each _ (b3_ hi)).1
   unfold dK;omega
  |succ i ih=>intro hi;have h1:=ih ω;have h2:=b5_.1 h.sort i (i+1) ω hi ω;omega
 rcases Nat.eq_zero_or_pos l.length with g | g
 ·omega
 ·have hi:l.length-1<l.length:=ω;have h1:=key _ hi
  have:=Fc hb (h.each _ (b3_ hi)).1
  unfold dK at h1;omega
def DutOK.push{e:Duty}(h:DutOK b D l)(h1:Ao b e.E0 e.J0=E∧0≤e.Z4∧e.Z4≤D)(h2:∀a∈l,dK a<dK e):DutOK b D (l++[e]):=by
 refine⟨λx hx=>?_,g8_.2 ⟨h.sort,List.pairwise_singleton ..,λa ha c hc=>?_⟩⟩
 ·rcases o_.1 hx with g | g
  ·exact h.each x g
  ·rw[C_.1 g];exact h1
 ·rw[C_.1 hc];exact h2 a ha
def Ayy(hb:b.small)(hD:D≤1000000000)(h:DutOK b D l)(u d:Int):H (KW l D u d) λy=>DutOK b D y.1.1∧(y.1.2.1=E→y.1.1=[]):=by
 have hl:=h.len hb;unfold KW LO;refine C (Q:=λy=>match y with | .inl z=>DutOK b D z.1.1 | .inr z=>z.1.1=[]) (Sat.loop (λk x=>∃(out:List Duty) (i:Nat),x=((D,(),out,l,(l.length:Int),(i:Int),()),((u,d,()),()))∧i+k=l.length∧DutOK b D out∧∀a∈out,∀j (hj:j<l.length),i≤j→dK a<dK l[j]) ?_ l.length ⟨[],0,rfl,ω,.nil,λa ha=>by cases ha⟩ ω) ?_
 ·rintro k x ⟨out,i,rfl,hk,ho,ha⟩;show H (PE D out l (l.length:Int) (i:Int) u d) _;unfold PE;refine B (λq=>?_) λ_=>A ho;have hi:i<l.length:=by have:=n_ q;omega
  have he:=h.each _ (b3_ hi);have hc:=Fc hb he.1;have g:List.getD l (P (i:Int)) (aE 0 0 0)=l[i]:=gD hi;have w:aC.wrap (l[i].Z4+1)=l[i].Z4+1:=Aa ω ω;refine I (Ac ω ω) ?_;simp only[g,w,Ef hi (show l.length≤AN by unfold AN;omega)];refine B (λ_=>A rfl) λq2=>?_;have q2:=H_ q2;refine N (PU (u,d) (F:=l[i].E0) (D:=l[i].J0) ⟨ω,ω⟩ ω) ?_;refine B (λ_=>?_) λ_=>A ⟨k-1,ω,out,i+1,rfl,ω,ho,λa m j hj hij=>ha a m j hj ω⟩;have hp:DutOK b D (out++[aE l[i].E0 l[i].J0 (l[i].Z4+1)]):=ho.push ⟨he.1,by show 0≤l[i].Z4+1;omega,by show l[i].Z4+1≤D;omega⟩ λa m=>ha a m i hi (A_ _);have hlen:=ho.len hb;refine I (f5_ (by simp only[E_,d6_];omega)) (A ⟨k-1,ω,_,i+1,rfl,ω,hp,λa m j hj hij=>?_⟩);rcases o_.1 m with m | m
  ·exact ha a m j hj ω
  ·rw[C_.1 m];exact b5_.1 h.sort i j hi hj ω
 ·intro y hy;cases y with
  |inl z=>exact A ⟨hy,λq=>by cases q⟩
  |inr z=>exact A ⟨by show DutOK b D z.1.1;rw[show z.1.1=[]from hy];exact .nil,λ_=>hy⟩
structure BelOK(b:Bldg)(car:Nat)(x:Belief):Prop where
 fl:-1≤x.E0∧x.E0≤b.D0-1
 dir:0≤x.J0∧x.J0≤3
 door:0≤x.D3∧x.D3≤3
 still:0≤x.T2∧x.T2≤1000000
 late:x.H3=true→x.W0=[]
 dut:DutOK b (Kb b car).G1 x.W0
@[reducible] def Bci(x:Belief):FH:=(x.E0,x.J0,x.D3,x.W0,x.T2,x.H3,())
def Ar4(b:O)(car:Nat)(t:FH):Prop:=∃x,t=Bci x∧BelOK b car x
section
variable{b:O}(hb:b.small)
include hb
theorem Ah3{x:Belief}:Ac9 b car x=E↔BelOK b car x:=by
 unfold Ac9 inR;simp only[e_,v_,Biz hb,b2_,Bool.and_eq_false_imp,decide_eq_false_iff_not];constructor
 ·rintro⟨h1,h2,h3,h4,h5,h6⟩;exact⟨h1,h2,h3,h4,λq=>List.length_eq_zero_iff.1 (by have:=h5 q;omega),h6⟩
 ·intro h;exact⟨h.fl,h.dir,h.door,h.still,λq=>(by rw[h.late q];decide),h.dut⟩
theorem BelOK.zero:BelOK b car ⟨0,0,0,[],0,J⟩:=by
 have:=hb.lo
 exact⟨⟨τ,show(0:Int)≤b.D0-1 by omega⟩,τ,τ,τ,λ_=>rfl,.nil⟩
variable(hcode:b.code=0){car:Nat}(hcar:car<b.B0.length){x:Belief}(h:BelOK b car x)
include hcode hcar h
theorem Iu:CI b.D0 b.G0 b.I0 b.M0 b.L0 b.N0 b.O0 b.B0 (car:Int) x.E0 x.J0 x.D3 x.W0 x.T2 x.H3=L ((E,()),()):=by exact Sm hb hcode hcar (c6_ (h.dut.len hb) τ) ((Ah3 hb).2 h)
theorem Alr:(Kb b car).G1≤1000000000:=by
 have:=Ah7 hcode (c:=Kb b car) (by unfold Kb;rw[k_,j_ hcar];exact b3_ hcar)
 omega
theorem Af4:H (Mx b.D0 b.G0 b.I0 b.M0 b.L0 b.N0 b.O0 b.B0 (car:Int) x.E0 x.J0 x.D3 x.W0 x.T2 x.H3) λy=>Ar4 b car y.2.1:=by unfold Mx;refine N (Iu hb hcode hcar h) (Sat.bifF rfl (I (Ac ω ω) ?_));refine C (Ayy hb (Alr hb hcode hcar h) h.dut 0 0) λy2 h2=>A ⟨⟨x.E0,x.J0,x.D3,y2.1.1,0,y2.1.2.1⟩,rfl,⟨h.fl,h.dir,h.door,?_,h2.2,h2.1⟩⟩;exact show(0:Int)≤0∧(0:Int)≤1000000 from by decide
theorem Ada:H (IA b.D0 b.G0 b.I0 b.M0 b.L0 b.N0 b.O0 b.B0 (car:Int) x.E0 x.J0 x.D3 x.W0 x.T2 x.H3) λy=>Ar4 b car y.2.1:=by unfold IA;refine N (Iu hb hcode hcar h) (Sat.bifF rfl (A ⟨⟨x.E0,x.J0,x.D3,[],0,J⟩,rfl,⟨h.fl,h.dir,h.door,?_,λ_=>rfl,.nil⟩⟩));exact show(0:Int)≤0∧(0:Int)≤1000000 from by decide
theorem Af5:H (My b.D0 b.G0 b.I0 b.M0 b.L0 b.N0 b.O0 b.B0 (car:Int) x.E0 x.J0 x.D3 x.W0 x.T2 x.H3) λ_=>True:=by unfold My;refine C (Q:=λ_=>True) (N (Iu hb hcode hcar h) (I rfl ?_)) λ_ _=>A trivial;exact B (λ_=>B (λ_=>I (Ac ω ω) (A trivial)) λ_=>A trivial) λ_=>A trivial
theorem Abd(o p q:Int):H (Kp b.D0 b.G0 b.I0 b.M0 b.L0 b.N0 b.O0 b.B0 (car:Int) x.E0 x.J0 x.D3 x.W0 x.T2 x.H3 o p q) λy=>Ar4 b car y.2.1:=by
 unfold Kp;refine N (Iu hb hcode hcar h) (Sat.bifF rfl ?_);refine C (Q:=λy=>y.1.1=E→(-1≤o∧o≤b.D0-1)∧(0≤p∧p≤3)∧0≤q∧q≤3) ?_ λy2 h2=>?_
 ·unfold Fy;refine C (Q:=λy=>y.1.1=E→(-1≤o∧o≤b.D0-1)∧(0≤p∧p≤3)∧0≤q∧q≤3) ?_ λ_ h=>A h;refine C (isFloors_ti _).out λ_ _=>B (λ_=>?_) λ_=>A λg=>(by cases g)
  refine B (λg1=>?_) λ_=>A λg=>(by cases g)
  refine B (λg2=>?_) λ_=>A λg=>(by cases g)
  refine B (λg3=>?_) λ_=>A λg=>(by cases g)
  refine B (λg4=>?_) λ_=>A λg=>(by cases g)
  refine B (λg5=>A λg6=>?_) λ_=>A λg=>(by cases g)
  have g2:=n_ g2;exact⟨⟨n_ g1,ω⟩,⟨n_ g3,n_ g4⟩,n_ g5,n_ g6⟩
 refine B (λ_=>A ⟨⟨0,0,0,[],0,J⟩,rfl,BelOK.zero hb⟩) λk=>I (Ac ω ω) ?_;obtain⟨ho,hp,hq⟩:=h2 (by simpa using k);refine C (Nl ..) λy3 _=>C (Ayy hb (Alr hb hcode hcar h) h.dut _ _) λy4 h4=>?_;have i0:(0:Int)≤0∧(0:Int)≤1000000:=by decide
 refine C (Q:=λ(y:(Unit×Unit×Unit×Int×Unit)×(FH×(Int×Int×Int×Unit)×FH×Unit))=>(y.2.1=Bci ⟨x.E0,x.J0,x.D3,y4.1.1,x.T2,y4.1.2.1⟩∧y.2.2.1=(o,p,q,()))∧0≤y.1.2.2.2.1∧y.1.2.2.2.1≤1000000) ?_ ?_
 ·refine C (Q:=λy=>(y.2.1=Bci ⟨x.E0,x.J0,x.D3,y4.1.1,x.T2,y4.1.2.1⟩∧y.2.2.1=(o,p,q,()))∧y.1.2.2.2.1=0) ?_ ?_
  ·exact B (λ_=>B (λ_=>A ⟨⟨rfl,rfl⟩,rfl⟩) λ_=>A ⟨⟨rfl,rfl⟩,rfl⟩) λ_=>A ⟨⟨rfl,rfl⟩,rfl⟩
  ·intro y5 h5;refine B (λ_=>A ⟨h5.1,?_⟩) λ_=>A ⟨h5.1,?_⟩
   ·rw[h5.1.1];exact Kk h.still
   ·show 0≤y5.1.2.2.2.1∧y5.1.2.2.2.1≤1000000;rw[h5.2];exact i0
 rintro⟨⟨a1,a2,a3,n,a4⟩,t,v,w,z⟩ ⟨⟨e1,e2⟩,hn⟩;change t=_ at e1;change v=_ at e2;subst e1 e2;exact Sat.bindC (λ_=>Sat.bindR (A ⟨⟨o,p,q,y4.1.1,n,y4.1.2.1⟩,rfl,⟨ho,hp,hq,hn,h4.2,h4.1⟩⟩)) λ_=>Sat.bindR (A ⟨⟨x.E0,p,q,y4.1.1,n,y4.1.2.1⟩,rfl,⟨h.fl,hp,hq,hn,h4.2,h4.1⟩⟩)
end
def Bwj(a c:Duty):∃n:Int,CX a.E0 a.J0 a.Z4 c.E0 c.J0 c.Z4=L ((n,()),())∧(n<0↔UW a c=E)∧(n=0↔a.E0=c.E0∧a.J0=c.J0):=by
 unfold CX;rw[HB,HB];simp only[a_];rw[Yl];refine⟨_,rfl,?_⟩;unfold UW WG;by_cases h1:a.E0<c.E0
 ·simp[h1];omega
 ·by_cases h2:c.E0<a.E0
  ·simp[h1,h2];omega
  ·by_cases h3:a.J0<c.J0
   ·simp[h1,h2,h3];omega
   ·by_cases h4:c.J0<a.J0
    ·simp[h1,h2,h3,h4];omega
    ·simp[h1,h2,h3,h4];omega
def Boq{j:Nat}(h:i+j<9223372036854775808):aC.wrap (Int.fdiv (aD IntKind.u64 (aD aC ((i:Int)+(j:Int)))) ((2:Int)^(Min.min (P (1:Int)) (IntKind.bits IntKind.u64))))=(((i+j)/2:Nat):Int):=Aiv h
section
variable{b:O}(hb:b.small){D:Int}{l:List Duty}(h:DutOK b D l){F Dr:Int}(hD:1≤Dr∧Dr≤2)
include hb h hD
theorem Aqn(hi:i<l.length):∃n:Int,CX l[i].E0 l[i].J0 l[i].Z4 F Dr 0=L ((n,()),())∧(n<0↔dK l[i]<4*F+Dr)∧(n=0↔dK l[i]=4*F+Dr):=by obtain⟨n,h1,h2,h3⟩:=Bwj l[i] (aE F Dr 0);have hc:=Fc hb (h.each _ (b3_ hi)).1;refine⟨n,h1,h2.trans (YM hc.2 hD),h3.trans ?_⟩;unfold dK;simp only;omega
theorem Be0:H (At ((l,(),(),(l.length:Int),0,(l.length:Int),()),((F,Dr,0,()),()))) λy=>∃p:Nat,y=((l,(),(),(l.length:Int),(p:Int),()),((F,Dr,0,()),()))∧p≤l.length∧(∀i (hi:i<l.length),i<p→dK l[i]<4*F+Dr)∧∀i (hi:i<l.length),p≤i→4*F+Dr≤dK l[i]:=by
 have hl:=h.len hb;unfold At;refine Sat.loop (λk x=>∃i j:Nat,x=((l,(),(),(l.length:Int),(i:Int),(j:Int),()),((F,Dr,0,()),()))∧j≤i+k∧i≤j∧j≤l.length∧(∀a (ha:a<l.length),a<i→dK l[a]<4*F+Dr)∧∀a (ha:a<l.length),j≤a→4*F+Dr≤dK l[a]) ?_ l.length ⟨0,l.length,rfl,ω,ω,ω,λa _ g=>by omega,λa _ g=>by omega⟩ ω;rintro k x ⟨i,j,rfl,hk,hij,hj,h1,h2⟩;show H (Ba l (l.length:Int) (i:Int) (j:Int) F Dr 0) _;unfold Ba;refine B (λq=>?_) λq=>A ?_
 ·have q:=n_ q;have hm:(i+j)/2<l.length:=ω;rw[Boq ω];refine I (Ac ω ω) ?_;have g:List.getD l (P (((i+j)/2:Nat):Int)) (aE 0 0 0)=l[(i+j)/2]:=gD hm;simp only[g,Ef hm (show l.length≤AN by unfold AN;omega)];obtain⟨n,c1,c2,c3⟩:=Aqn hb h (F:=F) hD hm;refine N c1 (B (λg2=>A ⟨k-1,ω,(i+j)/2+1,j,rfl,ω,ω,hj,λa ha g3=>?_,h2⟩) λg2=>A ⟨k-1,ω,i,(i+j)/2,rfl,ω,ω,ω,h1,λa ha g3=>?_⟩)
  ·have:=c2.1 (n_ g2)
   rcases g1_ a ((i+j)/2)with g4 | g4
   ·have:=b5_.1 h.sort a _ ha hm g4
    omega
   ·obtain rfl:a=(i+j)/2:=ω;exact this
  ·have:¬dK l[(i+j)/2]<4*F+Dr:=λe=>H_ g2 (c2.2 e)
   rcases g1_ ((i+j)/2) a with g4 | g4
   ·have:=b5_.1 h.sort _ a hm ha g4
    omega
   ·obtain rfl:a=(i+j)/2:=ω;omega
 ·have q:=H_ q;exact⟨i,rfl,ω,h1,λa ha g=>h2 a ha ω⟩
theorem Bok:H (AH l F Dr 0) λy=>∃p:Nat,y.1.1=(p:Int)∧p≤l.length∧(∀i (hi:i<l.length),i<p→dK l[i]<4*F+Dr)∧(y.1.2.1=J→∀i (hi:i<l.length),p≤i→4*F+Dr<dK l[i]):=by
 have hl:=h.len hb;unfold AH;refine C (Be0 hb h (F:=F) hD) ?_;rintro y ⟨p,rfl,hp,h1,h2⟩;refine C (Q:=λy=>y.1.1=(p:Int)∧(y.1.2.1=J→∀i (hi:i<l.length),p≤i→4*F+Dr<dK l[i])) (B (λq=>?_) λq=>A ⟨rfl,λ_ i hi g=>?_⟩) λy hy=>A ⟨p,hy.1,hp,h1,hy.2⟩
 ·have q:p<l.length:=by have:=n_ q;exact Int.ofNat_lt.1 this
  refine I (Ac (Int.natCast_nonneg p) (Int.ofNat_lt.2 q)) ?_;have g:List.getD l (P (p:Int)) (aE 0 0 0)=l[p]:=gD q;simp only[g];obtain⟨n,c1,c2,c3⟩:=Aqn hb h (F:=F) hD q;refine N c1 (A ⟨rfl,λe i hi g2=>?_⟩);have e:¬n=0:=λe0=>by rw[e0]at e;cases e
  have e:=mt c3.2 e
  have:=h2 p q (A_ _)
  rcases g1_ p i with g4 | g4
  ·have:=b5_.1 h.sort _ i q hi g4
   omega
  ·obtain rfl:i=p:=ω;omega
 ·have:=H_ q
  have:¬p<l.length:=λe=>this (Int.ofNat_lt.2 e)
  omega
theorem Bte(hc:Ao b F Dr=E)(h0:0≤D){p:Nat}(hp:p≤l.length)(h1:∀i (hi:i<l.length),i<p→dK l[i]<4*F+Dr)(h2:∀i (hi:i<l.length),p≤i→4*F+Dr<dK l[i]):H (CR l (p:Int) [aE F Dr 0]) λy=>DutOK b D y.1.1∧y.1.1≠[]:=by
 have hl:=h.len hb;unfold CR Ab0;refine I ?_ (A ⟨⟨λe he=>?_,?_⟩,?_⟩)
 ·simp;omega
 ·rcases o_.1 he with he | he
  ·rcases o_.1 he with he | he
   ·exact h.each e (T_ he)
   ·rw[C_.1 he];exact⟨hc,e0_ 0,h0⟩
  ·exact h.each e (d9_ he)
 ·have ht:∀a∈l.take p,dK a<4*F+Dr:=λa ha=>by
   obtain⟨i,hi,rfl⟩:=List.mem_take_iff_getElem.1 ha;exact h1 i ω ω
  have hd:∀a∈l.drop p,4*F+Dr<dK a:=λa ha=>by obtain⟨i,hi,rfl⟩:=List.mem_drop_iff_getElem.1 ha;exact h2 (p+i) ω ω
  show((l.take p++[aE F Dr 0])++l.drop p).Pairwise _;refine g8_.2 ⟨g8_.2 ⟨h.sort.take,List.pairwise_singleton ..,λa ha c hc=>?_⟩,h.sort.drop,λa ha c hc=>?_⟩
  ·rw[C_.1 hc];exact ht a ha
  ·rcases o_.1 ha with ha | ha
   ·exact Int.lt_trans (ht a ha) (hd c hc)
   ·rw[C_.1 ha];exact hd c hc
 ·simp
end
def Atg(z:α)(l:List α):KK (List.replicate (P (l.length:Int)) z) l=l:=by unfold KK;simp
def Cdv(c:Int×Int):(GV c).length≤64:=by
 have h:∀k i:Nat,((List.range' i k).flatMap (Nv c)).length≤2*k:=by
  intro k;induction k with
  |zero=>intro i;exact A_ _
  |succ k ih=>
   intro i;rw[f1_,a8_,h_]
   have:=ih (i+1)
   have:=Ads c i
   omega
 exact h 32 0
def Cdy(h:e∈GV c):(0≤e.E0∧e.E0<32)∧(e.J0=1∨e.J0=2)∧Az c e.E0.toNat e.J0=E:=by obtain⟨f,h1,h2,h3,h4⟩:=mem_range.1 (b8_.2 ⟨e,h,rfl⟩);simp only[Dm]at h2 h3 h4;refine⟨ω,h3,?_⟩;rw[h2,i_];exact h4
def Ay7(hb:b.small)(hcode:b.code=0)(h:e∈GV (CU c (BM b))):Ao b e.E0 e.J0=E:=by obtain⟨h1,h2,h3⟩:=Cdy h;rw[Ml,e_,Xg hb hcode ω h2,g0_ h1.1]at h3;exact h3.2
section
variable{b:O}(hb:b.small)(hcode:b.code=0){car:Nat}(hcar:car<b.B0.length){x:Belief}(h:BelOK b car x)
include hb hcode hcar h
theorem Aj3{es:List Entry}(he:∀e∈es,Ao b e.E0 e.J0=E)(hl:es.length≤1000)(z:FH):H (Hf (((),(),es,(es.length:Int),0,()),((x.E0,x.J0,x.D3,x.W0,x.T2,x.H3,()),z,()))) λy=>∃du,y.2.1=(x.E0,x.J0,x.D3,du,x.T2,x.H3,())∧DutOK b (Kb b car).G1 du:=by
 have hd:=Ah7 hcode (c:=Kb b car) (by unfold Kb;rw[k_,j_ hcar];exact b3_ hcar);unfold Hf;refine Sat.loop (λk y=>∃(du:List Duty) (i:Nat),y=(((),(),es,(es.length:Int),(i:Int),()),((x.E0,x.J0,x.D3,du,x.T2,x.H3,()),z,()))∧i+k=es.length∧DutOK b (Kb b car).G1 du) ?_ es.length ⟨x.W0,0,rfl,ω,h.dut⟩ ω;rintro k y ⟨du,i,rfl,hk,ho⟩;show H (Nj es (es.length:Int) (i:Int) x.E0 x.J0 x.D3 du x.T2 x.H3 z.1 z.2.1 z.2.2.1 z.2.2.2.1 z.2.2.2.2.1 z.2.2.2.2.2.1) _;unfold Nj;refine B (λq=>?_) λ_=>A ⟨du,rfl,ho⟩;have hi:i<es.length:=by have:=n_ q;omega
 refine I (Ac ω ω) ?_;have g:List.getD es (P (i:Int)) (Entry.mk 0 0 0 0 J)=es[i]:=by simp only[i_,k_,j_ hi,Option.getD_some]
 simp only[g,Ef hi (show es.length≤AN by unfold AN;omega)];have hc:=he _ (b3_ hi);refine C (Bok hb ho (F:=es[i].E0) (Fc hb hc).2) ?_;rintro y1 ⟨p,e1,hp,h1,h2⟩;refine B (λq=>?_) λ_=>A ⟨k-1,ω,du,i+1,rfl,ω,ho⟩;rw[e1];refine C (Bte hb ho (Fc hb hc).2 hc hd.1 hp h1 (h2 (by simpa using q))) λy2 hy=>A ⟨k-1,ω,y2.1.1,i+1,rfl,ω,hy.1⟩
theorem Adb(u d:Int):H (LC b.D0 b.G0 b.I0 b.M0 b.L0 b.N0 b.O0 b.B0 (car:Int) x.E0 x.J0 x.D3 x.W0 x.T2 x.H3 u d) λy=>Ar4 b car y.2.1:=by
 have hl:=h.dut.len hb;unfold LC;refine N (Iu hb hcode hcar h) (Sat.bifF rfl (I ?_ ?_))
 ·simp;omega
 refine N (KI hb hcode) (N (Lh (u,d) (BM b)) (N (XK (CU (u,d) (BM b))) ?_));simp only[Atg];refine C (Aj3 hb hcode hcar h (λe he=>Ay7 hb hcode he) ?_ _) ?_
 ·have:=Cdv (CU (u,d) (BM b))
  omega
 rintro⟨a,t,w⟩ ⟨du,e,ho⟩;change t=_ at e;subst e;refine Sat.bindC (λ_=>Sat.bindR (A ⟨⟨x.E0,x.J0,x.D3,du,x.T2,(du.length:Int)==0⟩,rfl,⟨h.fl,h.dir,h.door,h.still,λq=>?_,ho⟩⟩)) λ_=>Sat.bindR (A ⟨⟨x.E0,x.J0,x.D3,du,x.T2,J⟩,rfl,⟨h.fl,h.dir,h.door,h.still,λq=>(by cases q),ho⟩⟩);have q:(du.length:Int)=0:=by simpa using q
 exact(List.length_eq_zero_iff (l:=du)).1 ω
end
def Anl(f d r p:Int)(e u o:Nat)(cs:List Car)(x:Nat):H (OT f d r p e u o cs x) λy=>0≤y.1.1∧y.1.1≤4:=by unfold OT;refine B (λ_=>A τ) λ_=>B (λ_=>A τ) λ_=>B (λ_=>A τ) λ_=>B (λ_=>A τ) λ_=>A τ
def Apv(full:H (arF .sub .f64 b.N0 4589168020290535424) λ_=>True)(over:H (arF .sub .f64 b.O0 4589168020290535424) λ_=>True)(s:Int)(x:Nat):H (QX b.D0 b.G0 b.I0 b.M0 b.L0 b.N0 b.O0 b.B0 s x) λy=>0≤y.2.1.1∧y.2.1.1≤4:=by
 unfold QX;refine N (Bk b) (B (λ_=>A ⟨e0_ 0,show(0:Int)≤4 from by decide⟩) λ_=>C (Anl ..) λy2 h2=>?_);refine C (Q:=λy=>y.1.2.2.2.2.1=y2.1.1∧y.2.1=b.tup) (B (λ_=>A ⟨rfl,rfl⟩) λ_=>A ⟨rfl,rfl⟩) λy3 h3=>?_;have k:0≤y3.1.2.2.2.2.1∧y3.1.2.2.2.2.1≤4:=by rw[h3.1];exact h2
 refine B (λ_=>B (λq=>?_) λ_=>B (λq=>?_) λ_=>A k) λ_=>A k
 ·have q:y3.2.2.1.1=3:=by simpa using q
  rw[h3.2];refine C full λ_ _=>B (λ_=>A ?_) λ_=>A k;show 0≤y3.2.2.1.1∧y3.2.2.1.1≤4;omega
 ·have q:y3.2.2.1.1=4:=by simpa using q
  rw[h3.2];refine C over λ_ _=>B (λ_=>A ?_) λ_=>A k;show 0≤y3.2.2.1.1∧y3.2.2.1.1≤4;omega
def Yg{c:Bool}{x y r:α}(h:c=E)(h2:x=r):(bif c then x else y)=r:=by subst h;exact h2
def Ajt(hcode:b.code=0){car:Int}(hc:0≤car∧car<(b.B0.length:Int)){k v:Int}(h:(k=4∧0≤v∧v≤4)∨((k=5∨k=6)∧0≤v∧v≤1)):As b (Record.mk k 0 0 car v)=E:=by unfold As TO inR;simp only[hcode];rcases h with⟨rfl,h⟩ | ⟨rfl | rfl,h⟩<;>simp<;>omega
def phA(m:Img)(i:Nat):Int:=m.F0.getD i 0
def flA(m:Img)(i:Nat):Bool:=m.K0.getD i J
def lvA(m:Img)(i:Nat):Bool:=m.H0.getD i J
def Uj(m:Img)(i:Nat):Bool:=(phA m i==0||phA m i==4)&&(!flA m i&&!lvA m i)
def Ja(m:Img)(i:Nat):Bool:=phA m i==0||(phA m i==1||phA m i==4)
section
variable{b:O}{m:Img}(hm:ImgOK b m)
include hm
theorem Am7(hi:i<b.B0.length):Lb m.F0 m.K0 m.H0 m.A0 (i:Int)=L ((E,()),()):=by unfold Lb;simp only[hm.lp,hm.lf,hm.ll,c_ (ω:(0:Int)≤(i:Int)),f_ (J_ (b.B0.length:Int)),d_,b_,c_ (ω:(i:Int)<(b.B0.length:Int)),a_]
theorem Ali(hi:i<b.B0.length):La m.F0 m.K0 m.H0 m.A0 (i:Int)=L ((Uj m i,()),()):=by have i1:inB (i:Int) m.F0.length=E:=Ac ω (by rw[hm.lp];omega);have i2:inB (i:Int) m.K0.length=E:=Ac ω (by rw[hm.lf];omega);have i3:inB (i:Int) m.H0.length=E:=Ac ω (by rw[hm.ll];omega);unfold La Uj phA flA lvA;refine Ae (a:=(((m.F0.getD i 0==0||m.F0.getD i 0==4)&&(!m.K0.getD i J&&!m.H0.getD i J),()),())) (Ae (Am7 hm hi) ?_) rfl;simp only[i1,i2,i3,d_,i_];cases m.F0.getD i 0==0<;>cases m.F0.getD i 0==4<;>cases m.K0.getD i J<;>rfl
theorem Ac1(hi:i<b.B0.length):IE m.F0 m.K0 m.H0 m.A0 (i:Int)=L ((Ja m i,()),()):=by have i1:inB (i:Int) m.F0.length=E:=Ac ω (by rw[hm.lp];omega);unfold IE Ja phA;refine Ae (Am7 hm hi) ?_;simp only[i1,d_,b_,m_,i_];cases m.F0.getD i 0==0<;>cases m.F0.getD i 0==1<;>rfl
theorem Bi7:∃fr:Bool,Dx m.F0 m.K0 m.H0 m.A0=L ((fr,()),()):=by
 have hcc:=An hm.code;have hp:=hm.lp;have hl:=hm.ll;have h:H (Dx m.F0 m.K0 m.H0 m.A0) λ_=>True:=by
  unfold Dx MR;refine C (Q:=λ_=>True) (Sat.loop (λk x=>∃i:Nat,x=(((),m.F0,(m.F0.length:Int),(i:Int),()),((m.F0,m.K0,m.H0,m.A0,()),()))∧i+k=m.F0.length) ?_ m.F0.length ⟨0,rfl,ω⟩ ω) λy _=>?_
  ·rintro k x ⟨i,rfl,hk⟩;show H (Qx m.F0 (m.F0.length:Int) (i:Int) m.F0 m.K0 m.H0 m.A0) _;unfold Qx;refine B (λq=>?_) λ_=>A trivial;have hi:i<m.F0.length:=by have:=n_ q;omega
   refine I (Ac ω ω) ?_;simp only[Ef hi (show m.F0.length≤AN by unfold AN;omega)];refine B (λ_=>A trivial) λ_=>B (λ_=>A trivial) λ_=>B (λ_=>A trivial) λ_=>?_;exact I (Ac ω ω) (B (λ_=>A trivial) λ_=>A ⟨k-1,ω,i+1,rfl,ω⟩)
  ·cases y with
   |inl _=>exact A trivial
   |inr _=>exact A trivial
 obtain⟨y,h,_⟩:=h;exact⟨y.1.1,h⟩
end
def Nt(m:Img)(i:Nat)(calm fr:Bool)(kind:Int):List Record×Int:=
 bif kind==1&&phA m i==0 then(bif fr then([⟨4,0,0,i,1⟩],0)else([],261))
 else bif(kind==2&&phA m i==1)then([⟨4,0,0,i,0⟩],0)
 else bif(kind==3&&phA m i==2)then([⟨4,0,0,i,0⟩],0)
 else bif(kind==2&&(phA m i==4&&lvA m i))then([⟨6,0,0,i,0⟩],0)
 else bif(kind==4&&phA m i==2)then([⟨4,0,0,i,3⟩],0)
 else bif(kind==5&&phA m i==3)then(bif calm then([⟨4,0,0,i,2⟩],0)else([],262))
 else bif(kind==6&&phA m i==3)then(bif !flA m i then([⟨4,0,0,i,4⟩],0)else([],262))
 else bif(kind==7&&(phA m i==4&&!lvA m i))then(bif fr then([⟨6,0,0,i,1⟩],0)else([],261))
 else bif(kind==8&&flA m i)then([⟨5,0,0,i,0⟩],0)else([],260)
section
variable{b:O}{m:Img}(hm:ImgOK b m){i:Nat}(hi:i<b.B0.length)
include hm hi
theorem Bjx(ok:Bool)(e:Int)(l:List Record):DN ok e l=L (((bif ok then(l,(0:Int))else([],e)).1,(bif ok then(l,(0:Int))else([],e)).2,()),()):=by unfold DN;cases ok<;>rfl
theorem Btc(calm:Bool)(p:Int):BC m.F0 m.K0 m.H0 m.A0 (i:Int) calm p=L ((phA m i==p,()),()):=by unfold BC;rw[Ac ω (by rw[hm.lp];omega),d_];rfl
theorem Bcu{fr:Bool}(hf:Dx m.F0 m.K0 m.H0 m.A0=L ((fr,()),()))(calm:Bool)(kind:Int):HS m.F0 m.K0 m.H0 m.A0 (i:Int) calm kind=L (((Nt m i calm fr kind).1,(Nt m i calm fr kind).2,()),()):=by
 have ifl:inB (i:Int) m.K0.length=E:=Ac ω (by rw[hm.lf];omega);have it:=Btc hm hi calm;have wi:=Bjx hm hi;unfold HS Nt;rw[Ac ω (show(i:Int)<(m.H0.length:Int)by rw[hm.ll];omega),d_]
 let T:=((m.F0,m.K0,m.H0,m.A0,(i:Int),calm,()),(m.F0,m.K0,m.H0,m.A0,()),())
 have st:∀(k p:Int),(bif kind==k then(BC m.F0 m.K0 m.H0 m.A0 (i:Int) calm p).bind λy1=>L ((kind,(),(),lvA m i,y1.1.1,()),T)else L ((kind,(),(),lvA m i,J,()),T))=L ((kind,(),(),lvA m i,(kind==k&&phA m i==p),()),T):=λk p=>by
  cases kind==k with
  |true=>exact Ae (it p) rfl
  |false=>rfl
 refine Ae (st 1 0) ?_;show(bif(kind==1&&phA m i==0)then _ else _)=_;cases kind==1&&phA m i==0 with
 |true=>refine Ae hf (Ae (a:=(([Record.mk 4 0 0 i 1],()),())) rfl (Ae (wi fr 261 [⟨4,0,0,i,1⟩]) ?_));cases fr<;>rfl
 |false=>
 refine Ae (st 2 1) ?_;show(bif(kind==2&&phA m i==1)then _ else _)=_;cases h2:kind==2&&phA m i==1 with
 |true=>rfl
 |false=>
 refine Ae (st 3 2) ?_;show(bif(kind==3&&phA m i==2)then _ else _)=_;cases kind==3&&phA m i==2 with
 |true=>rfl
 |false=>
 refine Ae (a:=((kind,(),(),lvA m i,(kind==2&&(phA m i==4&&lvA m i)),()),T)) ?_ ?_
 ·show(bif kind==2 then(BC m.F0 m.K0 m.H0 m.A0 (i:Int) calm 4).bind _ else _)=_;cases kind==2 with
  |false=>rfl
  |true=>refine Ae (it 4) ?_;show(bif phA m i==4 then _ else _)=_;cases phA m i==4<;>rfl
 show(bif(kind==2&&(phA m i==4&&lvA m i))then _ else _)=_;cases kind==2&&(phA m i==4&&lvA m i)with
 |true=>rfl
 |false=>
 refine Ae (st 4 2) ?_;show(bif(kind==4&&phA m i==2)then _ else _)=_;cases kind==4&&phA m i==2 with
 |true=>rfl
 |false=>
 refine Ae (st 5 3) ?_;show(bif(kind==5&&phA m i==3)then _ else _)=_;cases kind==5&&phA m i==3 with
 |true=>rw[d_];refine Ae (a:=(([Record.mk 4 0 0 i 2],()),())) rfl ?_;refine Ae (wi calm 262 [⟨4,0,0,i,2⟩]) ?_;cases calm<;>rfl
 |false=>
 refine Ae (st 6 3) ?_;show(bif(kind==6&&phA m i==3)then _ else _)=_;cases kind==6&&phA m i==3 with
 |true=>show(bif inB (i:Int) m.K0.length then _ else _)=_;rw[ifl,d_];refine Ae (a:=(([Record.mk 4 0 0 i 4],()),())) rfl ?_;refine Ae (wi (!flA m i) 262 [⟨4,0,0,i,4⟩]) ?_;cases flA m i<;>rfl
 |false=>
 refine Ae (a:=((kind,(),(),(kind==7&&(phA m i==4&&!lvA m i)),()),T)) ?_ ?_
 ·show(bif kind==7 then(BC m.F0 m.K0 m.H0 m.A0 (i:Int) calm 4).bind _ else _)=_;cases kind==7 with
  |false=>rfl
  |true=>refine Ae (it 4) ?_;show(bif phA m i==4 then _ else _)=_;cases phA m i==4<;>rfl
 show(bif(kind==7&&(phA m i==4&&!lvA m i))then _ else _)=_;cases kind==7&&(phA m i==4&&!lvA m i)with
 |true=>refine Ae hf (Ae (wi fr 261 [⟨6,0,0,i,1⟩]) ?_);cases fr<;>rfl
 |false=>
 refine Ae (a:=(((),(kind==8&&flA m i),()),(T.1,()))) ?_ ?_
 ·show(bif kind==8 then(bif inB (i:Int) m.K0.length then _ else _)else _)=_;cases kind==8 with
  |false=>rfl
  |true=>rw[ifl];rfl
 show(bif(kind==8&&flA m i)then _ else _)=_;cases kind==8&&flA m i<;>rfl
end
end Go.Ovl
