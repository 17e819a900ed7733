/- A modernised car (layer 15): its control answers, and what it leaves is a state. -/
import Derived.Test.YtgmkjajpbaghgaaGreatDoorOvE
import Derived.Test.YtgmkjajpbaghgaaGreatDoorOvC
import Derived.Test.YtgmkjajpbaghgaaGreatDoorOvA
set_option linter.all false
open Go.Ovl.Sat renaming ret->A,bic->B,bindS->C,bifT->I,bindE->O
open Bool renaming true->E,false->L
open Go.Ovl renaming Sat->H,Bldg->N,NewCar->aB
open Option renaming some->J
open Int renaming toNat->P
open BitVec renaming ofInt->aA,toNat->aG
open Go.IntKind renaming i64->aC,wrap->aD,u32->aF
open Go.Ovl.Duty renaming mk->aE
open Nat renaming lt_of_le_of_lt->aH
namespace Go.Ovl
open Go Go.Ab
set_option maxRecDepth 100000
variable{b:N}{l:List Duty}{fl D n:Int}{x:aB}{car i:Nat}{c:Int×Int}{e:Entry}
def C2(fl n:Int):Prop:=0≤n∧n.toNat<2^fl.toNat
def C2.zero:C2 fl 0:=⟨d5_ 0,Nat.two_pow_pos _⟩
def C2.vb{v:BitVec 32}(h:v.toNat<2^fl.toNat):C2 fl (vb v):=⟨Int.natCast_nonneg _,h⟩
def C2.bv(h:C2 fl n):(bv n).toNat<2^fl.toNat:=by
 refine aH ?_ h.2
 have:=h.1
 show(aA 32 n).toNat≤n.toNat;rw[U_];show(n%4294967296).toNat≤n.toNat;omega
def C2.and{x y:Int}(h:C2 fl y):C2 fl (aD aF (stk x y (aG (aA (IntKind.bits .u32) x&&&aA (IntKind.bits .u32) y)))):=by
 rw[Ua];refine C2.vb ?_;rw[BitVec.toNat_and];exact aH Nat.and_le_right h.bv
def C2.andNot{x y:Int}(h:C2 fl x):C2 fl (aD aF (stk x y (aG (aA (IntKind.bits .u32) x&&& ~~~ aA (IntKind.bits .u32) y)))):=by
 rw[NO];refine C2.vb ?_;rw[BitVec.toNat_and];exact aH Nat.and_le_left h.bv
def C2.or{x y:Int}(h:C2 fl x)(h2:C2 fl y):C2 fl (aD aF (stk x y (aG (aA (IntKind.bits .u32) x|||BitVec.ofInt (IntKind.bits .u32) y)))):=by
 rw[Afj];refine C2.vb ?_;rw[BitVec.toNat_or];exact Nat.or_lt_two_pow h.bv h2.bv
def C2.all(h:2≤fl∧fl≤8):C2 fl (aD aF (aD aF (1*2^min (P fl) (IntKind.bits .u32))-1)):=by
 unfold C2
 have:fl=2∨fl=3∨fl=4∨fl=5∨fl=6∨fl=7∨fl=8:=ω
 rcases this with e | e | e | e | e | e | e<;>rw[e]<;>decide
def Aiy:(Int.fdiv n ((2:Int)^P fl)==0)=E↔C2 fl n:=by
 have hp:(0:Int)<2^P fl:=Int.pow_pos (by decide)
 have hc:((2^P fl:Nat):Int)=(2:Int)^P fl:=by rw[Int.natCast_pow];rfl
 rw[a1_ _ (Int.le_of_lt hp),Y_];unfold C2;constructor
 ·intro h
  have h1:=Int.mul_ediv_add_emod n (2^P fl);rw[h,Int.mul_zero,Int.zero_add]at h1;have h2:=Int.emod_nonneg n (Int.ne_of_gt hp);have h3:=Int.emod_lt_of_pos n hp;rw[h1]at h2 h3;refine⟨h2,?_⟩;rw[← hc]at h3;omega
 ·intro h
  refine Int.ediv_eq_zero_of_lt h.1 ?_;rw[← hc]
  have:=h.1
  have:=h.2
  omega
structure Sx(fl:Int)(x:NewCar):Prop where
 sw:S2 x.U1 x.D1
 dr:D5 x.Y0 x.K1 x.E1 x.I1 x.C1
 mt:M3 fl x.S0 x.X0 x.R0
 ca:C2 fl x.Z1
 sh:dir2 x.X2
 idle:0≤x.I3∧x.I3≤1000000
 nf:x.Z2=false
def Mz(x:aB):Prop:=x.S0=0∧x.X0=0∧x.R0=0
def Alb(x:aB):Ala x=E↔Mz x:=by unfold Ala Mz;simp
def Sy(fl:Int)(x:aB):Prop:=Sx fl x∧(x.Y0=0∨Mz x)
def Afy(h:D5 x.Y0 x.K1 x.E1 x.I1 x.C1):RF x=E↔x.Y0=0:=by
 unfold RF;rcases h with⟨h1,h2,h3,h4,h5⟩ | h
 ·rw[h1,h2,h3,h4,h5];decide
 ·have:¬x.Y0=0:=ω
  simp[this]
def UT(hb:b.small)(hf:x.Z2=L):ED b x=E↔Sy b.C0 x:=by
 have lo:=hb.lo;unfold ED;rw[hf,c_];unfold UZ PW Acw inR;simp only[e_,b3_,A_,Abk,Ags (ω:2≤b.C0),Aiy,Alb]
 constructor
 ·rintro⟨h1,h2,h3,h4,h5,h6,h7⟩
  rw[Afy h2]at h4;exact⟨⟨⟨h1.1,h1.2⟩,h2,h3,h5,h6,h7,hf⟩,h4⟩
 ·rintro⟨h,h4⟩
  exact⟨⟨h.sw.1,h.sw.2⟩,h.dr,h.mt,h4.imp_left (Afy h.dr).2,h.ca,h.sh,h.idle⟩
def D5.one:D5 1 0 0 L 0:=D5.at (a:=1) (by decide) (by decide) (by decide) (by decide) (by decide)
@[reducible] def PL(b:N)(car:Int)(x:aB)(f:Int)(l:Bool)(d:Int)(k:Bool)(c:Int):OM:=(b.C0,b.E0,b.H0,b.M0,b.J0,b.L0,b.N0,b.B0,car,x.U1,x.D1,x.Y0,x.K1,x.E1,x.I1,x.C1,x.S0,x.X0,x.R0,x.Z1,x.X2,x.I3,x.Z2,f,l,d,k,c,())
section
variable{b:N}(hb:b.small){car f:Int}(hf:0≤f∧f<b.C0){x:aB}(l:Bool)(d:Int)(k:Bool)(c:Int)
include hb
theorem SG(hcar:0≤car∧car<b.B0.length):H (BR (newcar_control.mk b.C0 b.E0 b.H0 b.M0 b.J0 b.L0 b.N0 b.B0 car x.U1 x.D1 x.Y0 x.K1 x.E1 x.I1 x.C1 x.S0 x.X0 x.R0 x.Z1 x.X2 x.I3 x.Z2 f l d k c)) λ_=>True:=by
 unfold BR;exact I (Aa hcar.1 hcar.2) (A trivial)
include hf
theorem Am8(p:Int)(h:Sx b.C0 x):H (DF p b.C0 b.E0 b.H0 b.M0 b.J0 b.L0 b.N0 b.B0 car x.U1 x.D1 x.Y0 x.K1 x.E1 x.I1 x.C1 x.S0 x.X0 x.R0 x.Z1 x.X2 x.I3 x.Z2 f l d k c) λy=>∃n,y.2.1=PL b car { x with Z1:=n } f l d k c∧C2 b.C0 n:=by
 have lo:=hb.lo;have hi:=hb.hi;unfold DF;refine I (b_ (ω:0≤b.C0)) ?_
 refine C (Q:=λy=>y.2.1=PL b car x f l d k c∧C2 b.C0 y.1.2.1) ?_ λy hy=>?_
 ·exact B (λ_=>I (b_ hf.1) (A ⟨rfl,(C2.all ⟨ω,hi⟩).and.andNot⟩)) λ_=>A ⟨rfl,(C2.all ⟨ω,hi⟩).and⟩
 ·obtain⟨u,t,w⟩:=y
  obtain⟨e,hn⟩:=hy;change t=_ at e;subst e;exact A ⟨_,rfl,h.ca.or hn⟩
omit hf
theorem Abh(w:Int):H (BK w b.C0 b.E0 b.H0 b.M0 b.J0 b.L0 b.N0 b.B0 car x.U1 x.D1 x.Y0 x.K1 x.E1 x.I1 x.C1 x.S0 x.X0 x.R0 x.Z1 x.X2 x.I3 x.Z2 f l d k c) λy=>∃c' t' f' cm,y.2.1=PL b car { x with S0:=c',X0:=t',R0:=f' } f l d k cm∧M3 b.C0 c' t' f'∧(y.1.1=E→MZ (c',t',f',()))∧(x.S0=0→w=0→l=E→MZ (c',t',f',())):=by
 have lo:=hb.lo;have hi:=hb.hi;unfold BK;exact C (Ah0 ⟨ω,hi⟩ ..) λy hy=>A ⟨_,_,_,_,rfl,hy.1,hy.2.1,hy.2.2⟩
omit hb in
theorem Bey{c' t' f':Int}(x:aB)(h:MZ (c',t',f',())):Mz { x with S0:=c',X0:=t',R0:=f' }:=by
 unfold MZ at h;simp only[Prod.mk.injEq]at h;exact⟨h.1,h.2.1,h.2.2.1⟩
theorem Ajy(h:Sx b.C0 x):H (Dt b.C0 b.E0 b.H0 b.M0 b.J0 b.L0 b.N0 b.B0 car x.U1 x.D1 x.Y0 x.K1 x.E1 x.I1 x.C1 x.S0 x.X0 x.R0 x.Z1 x.X2 x.I3 x.Z2 f l d k c) λy=>∃x' c',y.2.1=PL b car x' f l d k c'∧Sx b.C0 x'∧x'.Y0=x.Y0∧(y.1.1=E→Mz x'):=by
 unfold Dt;refine C (Q:=λy=>y.2.1=PL b car x f l d k c∧(y.1.2.1=E→Mz x)) (B (λq=>A ⟨rfl,λ_=>(Alb x).1 q⟩) λ_=>A ⟨rfl,λq=>(by cases q)⟩) ?_
 rintro⟨u,t,w⟩ ⟨e,h1⟩;change t=_ at e;subst e;refine B (λq=>A ⟨x,c,rfl,h,rfl,λ_=>h1 q⟩) λ_=>?_
 refine C (Q:=λy=>∃x' c',y.2.1=PL b car x' f l d k c'∧Sx b.C0 x'∧x'.Y0=x.Y0∧(y.1.2.2.1=E→Mz x')) ?_ ?_
 ·refine C (Abh hb (x:=x) l d k c 0) ?_
  rintro⟨u2,t2,w2⟩ ⟨c',t',f',cm,e,hm,hs,hz⟩;change t2=_ at e;subst e;have hx':Sx b.C0 { x with S0:=c',X0:=t',R0:=f' }:=⟨h.sw,h.dr,hm,h.ca,h.sh,h.idle,h.nf⟩
  refine B (λq=>A ⟨_,cm,rfl,hx',rfl,λ_=>Bey x (hs q)⟩) λ_=>B (λq=>A ⟨_,cm,rfl,hx',rfl,λq2=>Bey x (hz ?_ rfl q2)⟩) λ_=>A ⟨_,cm,rfl,hx',rfl,λq=>(by cases q)⟩
  simpa using q
 rintro⟨u3,t3,w3⟩ ⟨x',c',e,h',hd,hz⟩;change t3=_ at e;subst e;refine B (λq=>A ⟨x',c',rfl,h',hd,λ_=>hz q⟩) λ_=>?_
 refine C (Q:=λy=>y.2.1=PL b car x' f l d k c') (B (λ_=>A rfl) λ_=>A rfl) ?_
 rintro⟨u4,t4,w4⟩ e;change t4=_ at e;subst e;exact B (λ_=>A ⟨{ x' with I3:=0 },c',rfl,⟨h'.sw,h'.dr,h'.mt,h'.ca,h'.sh,⟨d5_ 0,show(0:Int)≤1000000 from by decide⟩,h'.nf⟩,hd,λq=>(by cases q)⟩) λ_=>A ⟨x',c',rfl,h',hd,λq=>(by cases q)⟩
omit hb in
theorem i00:(0:Int)≤0∧(0:Int)≤1000000:=by decide
include hf
theorem Am7(hcar:0≤car∧car<b.B0.length)(h:Sx b.C0 x)(hm:Mz x):H (DE b.C0 b.E0 b.H0 b.M0 b.J0 b.L0 b.N0 b.B0 car x.U1 x.D1 x.Y0 x.K1 x.E1 x.I1 x.C1 x.S0 x.X0 x.R0 x.Z1 x.X2 x.I3 x.Z2 f l d k c) λy=>∃x' c',y.2.1=PL b car x' f l d k c'∧Sx b.C0 x'∧Mz x':=by
 unfold DE;refine C (SG hb l d k c hcar) λy1 _=>C (YW ..) λy2 hd=>?_
 refine C (Q:=λy=>∃x' c',y.2.1=PL b car x' f l d k c'∧Sx b.C0 x'∧Mz x') ?_ ?_
 ·refine B (λ_=>I (b_ hf.1) (A ⟨{ x with Y0:=y2.2.1.1,K1:=y2.2.1.2.1,E1:=y2.2.1.2.2.1,I1:=y2.2.1.2.2.2.1,C1:=y2.2.1.2.2.2.2.1,Z1:=_ },_,rfl,⟨h.sw,hd,h.mt,h.ca.andNot,h.sh,h.idle,h.nf⟩,hm⟩)) λ_=>?_
  refine B (λ_=>A ⟨{ x with Y0:=y2.2.1.1,K1:=y2.2.1.2.1,E1:=y2.2.1.2.2.1,I1:=y2.2.1.2.2.2.1,C1:=y2.2.1.2.2.2.2.1,X2:=0 },_,rfl,⟨h.sw,hd,h.mt,h.ca,dir2.zero,h.idle,h.nf⟩,hm⟩) λ_=>?_
  exact A ⟨{ x with Y0:=y2.2.1.1,K1:=y2.2.1.2.1,E1:=y2.2.1.2.2.1,I1:=y2.2.1.2.2.2.1,C1:=y2.2.1.2.2.2.2.1 },_,rfl,⟨h.sw,hd,h.mt,h.ca,h.sh,h.idle,h.nf⟩,hm⟩
 rintro⟨u,t,w⟩ ⟨x',c',e,h',hz⟩;change t=_ at e;subst e;exact A ⟨{ x' with I3:=0 },c',rfl,⟨h'.sw,h'.dr,h'.mt,h'.ca,h'.sh,i00,h'.nf⟩,hz⟩
def CtP(b:N)(car f:Int)(l:Bool)(d:Int)(k:Bool)(t:OM):Prop:=∃x' c',t=PL b car x' f l d k c'∧Sy b.C0 x'
def CtS(b:N)(car f:Int)(l:Bool)(d:Int)(k:Bool)(s:(Unit×(OM×Unit))⊕(Unit×(OM×Unit))):Prop:=match s with
 | .inl y=>CtP b car f l d k y.2.1
 | .inr y=>CtP b car f l d k y.2.1
omit hf
theorem Ajx(hcode:b.code=0)(hcar:0≤car∧car<b.B0.length)(hu hd:Int)(h:Sx b.C0 x)(h0:x.Y0=0)(hm:Mz x):H (Ds hu hd b.C0 b.E0 b.H0 b.M0 b.J0 b.L0 b.N0 b.B0 car x.U1 x.D1 x.Y0 x.K1 x.E1 x.I1 x.C1 x.S0 x.X0 x.R0 x.Z1 x.X2 x.I3 x.Z2 f l d k c) (CtS b car f l d k):=by
 unfold Ds;refine C (Ayn ..) λy1 hc=>C (Bhb ..) λy2 hn=>?_
 refine B (λ_=>?_) λ_=>?_
 ·refine C (SG hb (x:={ x with U1:=y2.2.1.1,D1:=y2.2.1.2.1,X2:=y1.2.1.2.2.1,I3:=0 }) l d k c hcar) λy3 _=>C (YW ..) λy4 hd=>A ?_
  exact⟨{ x with U1:=y2.2.1.1,D1:=y2.2.1.2.1,X2:=y1.2.1.2.2.1,I3:=0,Y0:=y4.2.1.1,K1:=y4.2.1.2.1,E1:=y4.2.1.2.2.1,I1:=y4.2.1.2.2.2.1,C1:=y4.2.1.2.2.2.2.1 },_,rfl,⟨hn,hd,h.mt,h.ca,hc.2,i00,h.nf⟩,.inr hm⟩
 have st:∀(w i:Int),(0≤i∧i≤1000000)→H (BK w b.C0 b.E0 b.H0 b.M0 b.J0 b.L0 b.N0 b.B0 car y2.2.1.1 y2.2.1.2.1 x.Y0 x.K1 x.E1 x.I1 x.C1 x.S0 x.X0 x.R0 x.Z1 x.X2 i x.Z2 f l d k c) λy=>CtP b car f l d k y.2.1:=λw i hi=>by
  refine(Abh hb (x:={ x with U1:=y2.2.1.1,D1:=y2.2.1.2.1,I3:=i }) l d k c w).mono ?_
  rintro⟨u,t,w⟩ ⟨c',t',f',cm,e,hm,_⟩;change t=_ at e;subst e;exact⟨_,cm,rfl,⟨hn,h.dr,hm,h.ca,h.sh,hi,h.nf⟩,.inl h0⟩
 refine B (λ_=>C (st _ _ i00) λ_ h=>A h) λ_=>B (λ_=>C (st _ _ i00) λ_ h=>A h) λ_=>?_
 have hv:AO b.C0 b.E0 b.H0 b.M0 b.J0 b.L0 b.N0 b.B0=J ((b.code,()),()):=Be ..;refine C (Anj hcode hv ..) λy7 _=>B (λ_=>C (st _ _ h.idle) λ_ h=>A h) λ_=>A ?_
 exact⟨{ x with U1:=y2.2.1.1,D1:=y2.2.1.2.1,I3:=up1 x.I3 },0,rfl,⟨hn,h.dr,h.mt,h.ca,h.sh,JM h.idle,h.nf⟩,.inl h0⟩
omit hb in
theorem Bnz:∀(o:Fin 8),0≤aC.wrap (stk ((o.val:Nat):Int) 1 (aG ((aA (IntKind.bits aC) ((o.val:Nat):Int))|||(aA (IntKind.bits aC) 1))))∧aC.wrap (stk ((o.val:Nat):Int) 1 (aG ((aA (IntKind.bits aC) ((o.val:Nat):Int))|||(aA (IntKind.bits aC) 1))))≤7:=by decide
include hf
theorem Awi(hcode:b.code=0)(hcar:0≤car∧car<b.B0.length)(p hu hd:Int)(h:Sy b.C0 x):H (Ep p hu hd b.C0 b.E0 b.H0 b.M0 b.J0 b.L0 b.N0 b.B0 car x.U1 x.D1 x.Y0 x.K1 x.E1 x.I1 x.C1 x.S0 x.X0 x.R0 x.Z1 x.X2 x.I3 x.Z2 f l d k c) (CtS b car f l d k):=by
 unfold Ep;refine C (Am8 hb hf l d k c p h.1) ?_;rintro⟨u,t,w⟩ ⟨n,e,hn⟩;change t=_ at e;subst e;have h1:Sx b.C0 { x with Z1:=n }:=⟨h.1.sw,h.1.dr,h.1.mt,hn,h.1.sh,h.1.idle,h.1.nf⟩
 refine C (Q:=λy=>∃x' c',y.2.2.1=PL b car x' f l d k c'∧Sy b.C0 x'∧(y.1.2.2.1=L→Mz x')) ?_ ?_
 ·refine B (λq=>?_) λq=>A ⟨_,c,rfl,⟨h1,h.2⟩,λ_=>h.2.resolve_left (by simpa using q)⟩
  refine C (Ajy hb l d k c h1) ?_;rintro⟨u2,t2,w2⟩ ⟨x',c',e,h',hd,hz⟩;change t2=_ at e;subst e;exact A ⟨x',c',rfl,⟨h',.inl (hd.trans (by simpa using q))⟩,λq=>hz (by simpa using q)⟩
 rintro⟨u3,u3b,t3,w3⟩ ⟨x',c',e,h',hz⟩;change t3=_ at e;subst e;refine B (λ_=>A ⟨x',c',rfl,h'⟩) λq=>?_
 have hz:=hz q;refine C (Q:=λy=>∃x' c',y.2.2.1=PL b car x' f l d k c'∧Sx b.C0 x'∧Mz x') ?_ ?_
 ·refine C (Q:=λy=>y.2.2.1=PL b car x' f l d k c') (B (λ_=>A rfl) λ_=>A rfl) ?_
  rintro⟨u4,u4b,t4,w4⟩ e;change t4=_ at e;subst e;refine B (λ_=>A ⟨{ x' with D1:=_,Y0:=1,K1:=0,E1:=0,I1:=L,C1:=0,X2:=0 },c',rfl,⟨⟨h'.1.sw.1,?_⟩,D5.one,h'.1.mt,h'.1.ca,dir2.zero,h'.1.idle,h'.1.nf⟩,hz⟩) λ_=>A ⟨x',c',rfl,h'.1,hz⟩
  have h5a:=h'.1.sw.2.1;have h5b:=h'.1.sw.2.2
  have:=Bnz ⟨x'.D1.toNat,ω⟩
  simp only[f5_ h5a]at this;exact this
 rintro⟨u5,u5b,t5,w5⟩ ⟨x5,c5,e,h5,hz5⟩;change t5=_ at e;subst e;refine B (λ_=>?_) λq=>?_
 ·refine C (Am7 hb hf l d k c5 hcar h5 hz5) ?_
  rintro⟨u6,t6,w6⟩ ⟨x6,c6,e,h6,hz6⟩;exact A ⟨x6,c6,e,h6,.inr hz6⟩
 ·refine C (Q:=λ(y:Unit×(OM×Unit))=>CtP b car f l d k y.2.1) ?_ λ_ h=>A h
  refine C (Ajx hb l d k c5 hcode hcar _ _ h5 (by simpa using q) hz5) λy7 h7=>?_
  cases y7 with
  |inl _=>exact A h7
  |inr _=>exact A h7
end
def Anb{a b c:Int}{d:Bool}{e:Int}(h:D5 a b c d e):H (MK a b c d e) λy=>letI f:=y.2.1.2;D5 y.2.1.1 f.1 f.2.1 f.2.2.1 f.2.2.2.1∧(a=0→y.2.1.1=0):=by
 by_cases g:a=0
 ·obtain⟨h1,h2,h3,h4,h5⟩:a=0∧b=0∧c=0∧d=L∧e=0:=h.resolve_right λq=>absurd g ω
  subst h1 h2 h3 h4 h5;exact⟨_,rfl,D5.zero,λ_=>rfl⟩
 ·exact(Ana h).mono λ_ q=>⟨q,λq=>absurd q g⟩
def Ahz{c t f:Int}(h:M3 fl c t f):H (Kw c t f) λy=>M3 fl y.2.1.1 y.2.1.2.1 y.2.1.2.2.1∧(c=0∧t=0∧f=0→MZ y.2.1):=by
 by_cases g:c=0∧t=0∧f=0
 ·obtain⟨h1,h2,h3⟩:=g
  subst h1 h2 h3;exact⟨_,rfl,M3.zero,λ_=>rfl⟩
 ·exact(Ahy h).mono λ_ q=>⟨q,λq=>absurd q g⟩
@[reducible] def Azm(x:aB):Zm:=(x.U1,x.D1,x.Y0,x.K1,x.E1,x.I1,x.C1,x.S0,x.X0,x.R0,x.Z1,x.X2,x.I3,x.Z2,())
def Aym(b:N)(t:Zm):Prop:=∃x,t=Azm x∧ED b x=E
def Sy.zero:Sy fl AS:=⟨⟨S2.zero dir2.zero,D5.zero,M3.zero,C2.zero,dir2.zero,i00,rfl⟩,.inl rfl⟩
def Zd(b:N):ED b { AS with Z2:=E }=E:=rfl
section
variable{b:N}(hb:b.small)
include hb
theorem Mw:ED b AS=E:=(UT hb rfl).2 Sy.zero
theorem Ahi(c0 c1 c2 c3 c4 c5 c6 c7 c8:Int)(h:Sy b.C0 x)(n:Int):H (Hw c0 c1 c2 c3 c4 c5 c6 c7 c8 x.U1 x.D1 x.Y0 x.K1 x.E1 x.I1 x.C1 x.S0 x.X0 x.R0 x.Z1 x.X2 x.I3 x.Z2 n) λy=>Aym b y.2.1:=by
 unfold Hw;refine C (Am9 ..) λy1 _=>B (λ_=>A ⟨{ AS with Z2:=E },rfl,Zd b⟩) λ_=>?_
 exact C (Ahx ..) λy2 _=>B (λ_=>A ⟨{ AS with Z2:=E },rfl,Zd b⟩) λ_=>A ⟨x,rfl,(UT hb h.1.nf).2 h⟩
variable(hcode:b.code=0)(car:Int)(x:aB)
include hcode
theorem Aks:Jl b.C0 b.E0 b.H0 b.M0 b.J0 b.L0 b.N0 b.B0 car x.U1 x.D1 x.Y0 x.K1 x.E1 x.I1 x.C1 x.S0 x.X0 x.R0 x.Z1 x.X2 x.I3 x.Z2=J ((ED b x&&(decide (0≤car)&&decide (car<(b.B0.length:Int))),()),()):=by
 unfold Jl;rw[IZ hb hcode];simp only[a_];cases ED b x<;>cases decide (0≤car)<;>rfl
theorem Ah1(f:Int)(l:Bool)(d:Int)(k:Bool)(p hu hd:Int):H (Nb b.C0 b.E0 b.H0 b.M0 b.J0 b.L0 b.N0 b.B0 car x.U1 x.D1 x.Y0 x.K1 x.E1 x.I1 x.C1 x.S0 x.X0 x.R0 x.Z1 x.X2 x.I3 x.Z2 f l d k p hu hd) λy=>Aym b y.2.1:=by
 unfold Nb;refine O (Aks hb hcode car x) (B (λ_=>A ⟨AS,rfl,Mw hb⟩) λq=>?_)
 have q:ED b x=E∧0≤car∧car<(b.B0.length:Int):=by
  have q:(ED b x&&(decide (0≤car)&&decide (car<(b.B0.length:Int))))=E:=by simpa only[Bool.not_eq_false']using q
  simpa only[e_,A_]using q
 obtain⟨hx,hcar⟩:=q;refine C (Q:=λy=>y.1.1=E→0≤f∧f<b.C0) ?_ λy2 h2=>?_
 ·unfold KT
  refine C (Q:=λy=>y.1.1=E→0≤f∧f<b.C0) ?_ λ_ h=>A h
  refine B (λa=>B (λc=>B (λ_=>A λ_=>⟨m_ a,m_ c⟩) λ_=>A λg=>(by cases g)) λ_=>A λg=>(by cases g)) λ_=>A λg=>(by cases g)
 refine B (λ_=>A ⟨AS,rfl,Mw hb⟩) λq2=>B (λ_=>A ⟨x,rfl,hx⟩) λhf=>?_
 have hff:=h2 (by simpa using q2)
 refine C (Q:=λ(y:(Unit×Unit×Unit×Unit)×(Zm×Zm×OM×Unit))=>CtP b car f l d k y.2.2.2.1) (C (Awi hb hff l d k 0 hcode hcar p hu hd ((UT hb hf).1 hx)) λy3 h3=>?_) ?_
 ·cases y3 with
  |inl _=>exact A h3
  |inr _=>exact A h3
 rintro⟨u,v,w,t,z⟩ ⟨x',c',e,h'⟩;change t=_ at e;subst e;exact C (SG hb (x:=x') l d k c' hcar) λy6 _=>C (Ahi hb _ _ _ _ _ _ _ _ _ h' c') λy7 h7=>A h7
theorem Aev:H (Mh b.C0 b.E0 b.H0 b.M0 b.J0 b.L0 b.N0 b.B0 car x.U1 x.D1 x.Y0 x.K1 x.E1 x.I1 x.C1 x.S0 x.X0 x.R0 x.Z1 x.X2 x.I3 x.Z2) λy=>Aym b y.2.1:=by
 unfold Mh;refine O (Aks hb hcode car x) (B (λ_=>A ⟨AS,rfl,Mw hb⟩) λq=>?_)
 have q:ED b x=E∧0≤car∧car<(b.B0.length:Int):=by
  have q:(ED b x&&(decide (0≤car)&&decide (car<(b.B0.length:Int))))=E:=by simpa only[Bool.not_eq_false']using q
  simpa only[e_,A_]using q
 obtain⟨hx,hcar⟩:=q;refine B (λ_=>A ⟨x,rfl,hx⟩) λhf=>?_
 have h:=(UT hb hf).1 hx;refine C (Anb h.1.dr) λy2 h2=>C (Ahz h.1.mt) λy3 h3=>I (Aa hcar.1 hcar.2) ?_
 refine C (Ahi hb _ _ _ _ _ _ _ _ _ (x:={ x with Y0:=y2.2.1.1,K1:=y2.2.1.2.1,E1:=y2.2.1.2.2.1,I1:=y2.2.1.2.2.2.1,C1:=y2.2.1.2.2.2.2.1,S0:=y3.2.1.1,X0:=y3.2.1.2.1,R0:=y3.2.1.2.2.1 }) ⟨⟨h.1.sw,h2.1,h3.1,h.1.ca,h.1.sh,h.1.idle,h.1.nf⟩,?_⟩ 0) λy4 h4=>A h4
 refine h.2.imp (λg=>h2.2 g) λg=>?_
 have e:=h3.2 g;unfold MZ at e;show y3.2.1.1=0∧y3.2.1.2.1=0∧y3.2.1.2.2.1=0;rw[e];exact⟨rfl,rfl,rfl⟩
theorem Aex(f:Int)(l:Bool)(d:Int)(k:Bool):H (Jk b.C0 b.E0 b.H0 b.M0 b.J0 b.L0 b.N0 b.B0 x.U1 x.D1 x.Y0 x.K1 x.E1 x.I1 x.C1 x.S0 x.X0 x.R0 x.Z1 x.X2 x.I3 x.Z2 f l d k) λ_=>True:=by
 unfold Jk;have i:SatT (DM b.C0 b.E0 b.H0 b.M0 b.J0 b.L0 b.N0 b.B0 x.U1 x.D1 x.Y0 x.K1 x.E1 x.I1 x.C1 x.S0 x.X0 x.R0 x.Z1 x.X2 x.I3 x.Z2):=⟨⟨_,IZ hb hcode x,trivial⟩⟩;exact Sat.go
end
def U2(a c:Int):Prop:=(0≤a∧a<4294967296)∧0≤c∧c<4294967296
def U2.zero:U2 0 0:=by unfold U2;decide
def U2.fst:U2 (aD aF n) 0:=⟨Hj n,by decide⟩
def U2.snd:U2 0 (aD aF n):=⟨by decide,Hj n⟩
instance isFloors_ti(n:Int):SatT (Fc n):=⟨by unfold Fc;exact Sat.go⟩
instance isObs_ti(n a c d:Int):SatT (Fw n a c d):=⟨by unfold Fw;exact Sat.go⟩
def MG(n a c d:Int):H (Fx n a c d) λy=>U2 y.2.1.1 y.2.1.2.1:=by
 unfold Fx;refine C (isObs_ti n a c d).out λ_ _=>B (λ_=>A U2.zero) λ_=>B (λ_=>A U2.zero) λ_=>B (λ_=>A U2.zero) λh=>?_
 have h0:0≤a:=by have:=C_ h;omega
 refine C (Q:=λy=>y.2.1.1=a) (B (λ_=>A rfl) λ_=>A rfl) λy2 h2=>?_
 refine B (λ_=>I (b_ (h2▸h0)) (A U2.fst)) λ_=>?_
 refine C (Q:=λy=>y.2.1.1=a) (B (λ_=>A h2) λ_=>A h2) λy3 h3=>?_
 exact B (λ_=>I (b_ (h3▸h0)) (A U2.snd)) λ_=>A U2.zero
def Aew(hb:b.small)(hcode:b.code=0)(x:aB)(f:Int)(l:Bool)(d:Int)(k:Bool):H (Mi b.C0 b.E0 b.H0 b.M0 b.J0 b.L0 b.N0 b.B0 x.U1 x.D1 x.Y0 x.K1 x.E1 x.I1 x.C1 x.S0 x.X0 x.R0 x.Z1 x.X2 x.I3 x.Z2 f l d k) λy=>U2 y.2.1.1 y.2.1.2.1:=by
 unfold Mi;refine O (IZ hb hcode x) (B (λ_=>A U2.zero) λ_=>B (λ_=>A U2.zero) λ_=>B (λ_=>A U2.zero) λ_=>B (λ_=>A U2.zero) λ_=>?_)
 exact C (MG ..) λ_ h=>A h
instance pair_ti(a c:Bool):SatT (Hs a c 0 1 2 3):=⟨by cases a<;>cases c<;>exact⟨_,rfl,trivial⟩⟩
def Axt(a c:Bool):H (Hs a c 0 1 2 3) λy=>0≤y.1.1∧y.1.1≤3:=by cases a<;>cases c<;>exact⟨_,rfl,by decide⟩
def dK(e:Duty):Int:=4*e.D0+e.I0
structure DutOK(b:Bldg)(D:Int)(l:List Duty):Prop where
 each:∀e∈l,Ak b e.D0 e.I0=true∧0≤e.B5∧e.B5≤D
 sort:l.Pairwise λa c=>dK a<dK c
def DutOK.nil:DutOK b D []:=⟨λ_ h=>(by cases h),List.Pairwise.nil⟩
def EX(hb:b.small){f d:Int}(h:Ak b f d=E):(0≤f∧f<8)∧(1≤d∧d≤2):=by
 have lo:=hb.lo;have hi:=hb.hi;unfold Ak OT inR at h;simp only[e_,b3_,Y_,A_]at h;omega
def Xr{a c:Duty}(ha:1≤a.I0∧a.I0≤2)(hc:1≤c.I0∧c.I0≤2):RN a c=E↔dK a<dK c:=by
 unfold RN dK;simp only[e_,b3_,Y_,A_];omega
def Zo{p:Nat→Bool}:∀m i:Nat,KX p m i=E→∀k,i≤k→k<i+m→p k=E
 |0,_,_,k,h1,h2=>by omega
 |m+1,i,h,k,h1,h2=>by
  simp only[KX,e_]at h;rcases f6_ i k with g | g
  ·exact Zo m (i+1) h.2 k ω ω
  ·obtain rfl:k=i:=ω
   exact h.1
def WA{l:List Duty}(h:∀i,i+1<l.length→dK (l.getD i Dy)<dK (l.getD (i+1) Dy)):∀i k:Nat,i+1+k<l.length→dK (l.getD i Dy)<dK (l.getD (i+1+k) Dy)
 |i,0,hk=>h i hk
 |i,k+1,hk=>Int.lt_trans (WA h i k ω) (h (i+1+k) ω)
def gD(h:i<l.length):l.getD i Dy=l[i]:=by
 simp only[k_,i_ h,Option.getD_some]
def Bfr(hb:b.small)(x:Belief):KX (Xa b car x) x.U0.length 0=E↔DutOK b (HC b car).F1 x.U0:=by
 constructor
 ·intro h
  have h:=Zo _ _ h
  have hp:∀i,i<x.U0.length→Ak b (x.U0.getD i Dy).D0 (x.U0.getD i Dy).I0=E∧(0≤(x.U0.getD i Dy).B5∧(x.U0.getD i Dy).B5≤(HC b car).F1)∧(i=0∨RN (x.U0.getD (i-1) Dy) (x.U0.getD i Dy)=E):=λi hi=>by
   have h:=h i ω ω
   unfold Xa Ara inR at h;simpa only[e_,b3_,Y_,A_]using h
  refine⟨λe he=>?_,?_⟩
  ·obtain⟨i,hi,rfl⟩:=List.mem_iff_getElem.1 he
   have:=hp i hi
   rw[gD hi]at this;exact⟨this.1,this.2.1⟩
  ·rw[b0_]
   intro i j hi hj hij
   have:=WA (l:=x.U0) (λi hi=>by
    have h1:=hp (i+1) hi;have h0:=hp i ω
    have h2:=h1.2.2.resolve_left ω
    exact(Xr (EX hb h0.1).2 (EX hb h1.1).2).1 h2) i (j-i-1) ω
   rw[show i+1+(j-i-1)=j by omega,gD hi,gD hj]at this
   exact this
 ·intro h
  refine QE _ _ λk _ hk=>?_
  have hk:k<x.U0.length:=ω
  have h1:=h.each _ (a7_ hk);unfold Xa Ara inR;simp only[e_,b3_,Y_,A_,gD hk];refine⟨h1.1,h1.2,?_⟩;by_cases k0:k=0
  ·exact .inl k0
  ·have hj:k-1<x.U0.length:=ω
   rw[gD hj];have h0:=h.each _ (a7_ hj);exact .inr ((Xr (EX hb h0.1).2 (EX hb h1.1).2).2 (b0_.1 h.sort _ _ hj hk ω))
def DutOK.len(hb:b.small)(h:DutOK b D l):l.length≤30:=by
 have key:∀i (hi:i<l.length),(i:Int)+1≤dK l[i]:=λi=>by
  induction i with
  |zero=>
   intro hi
   have:=EX hb (h.each _ (a7_ hi)).1
   unfold dK;omega
  |succ i ih=>
   intro hi;have h1:=ih ω
   have h2:=b0_.1 h.sort i (i+1) ω hi ω
   omega
 rcases Nat.eq_zero_or_pos l.length with g | g
 ·omega
 ·have hi:l.length-1<l.length:=ω
  have h1:=key _ hi
  have:=EX hb (h.each _ (a7_ hi)).1
  unfold dK at h1;omega
def DutOK.push{e:Duty}(h:DutOK b D l)(h1:Ak b e.D0 e.I0=E∧0≤e.B5∧e.B5≤D)(h2:∀a∈l,dK a<dK e):DutOK b D (l++[e]):=by
 refine⟨λx hx=>?_,List.pairwise_append.2 ⟨h.sort,List.pairwise_singleton ..,λa ha c hc=>?_⟩⟩
 ·rcases p_.1 hx with g | g
  ·exact h.each x g
  ·rw[D_.1 g];exact h1
 ·rw[D_.1 hc];exact h2 a ha
def Avx(hb:b.small)(hD:D≤1000000000)(h:DutOK b D l)(u d:Int):H (Ku l D u d) λy=>DutOK b D y.1.1∧(y.1.2.1=E→y.1.1=[]):=by
 have hl:=h.len hb;unfold Ku Lk;refine C (Q:=λy=>match y with | .inl z=>DutOK b D z.1.1 | .inr z=>z.1.1=[]) (Sat.loop (λk x=>∃(out:List Duty) (i:Nat),x=((D,(),out,l,(l.length:Int),(i:Int),()),((u,d,()),()))∧i+k=l.length∧DutOK b D out∧∀a∈out,∀j (hj:j<l.length),i≤j→dK a<dK l[j]) ?_ l.length ⟨[],0,rfl,ω,.nil,λa ha=>by cases ha⟩ ω) ?_
 ·rintro k x ⟨out,i,rfl,hk,ho,ha⟩
  show H (OH D out l (l.length:Int) (i:Int) u d) _;unfold OH;refine B (λq=>?_) λ_=>A ho
  have hi:i<l.length:=by have:=m_ q;omega
  have he:=h.each _ (a7_ hi);have hc:=EX hb he.1;have g:List.getD l (P (i:Int)) (aE 0 0 0)=l[i]:=gD hi;have w:aC.wrap (l[i].B5+1)=l[i].B5+1:=Ac ω ω
  refine I (Aa ω ω) ?_
  simp only[g,w,Dz hi (show l.length≤AI by unfold AI;omega)]
  refine B (λ_=>A rfl) λq2=>?_
  have q2:=C_ q2;refine O (OU (u,d) (F:=l[i].D0) (D:=l[i].I0) ⟨ω,ω⟩ ω) ?_
  refine B (λ_=>?_) λ_=>A ⟨k-1,ω,out,i+1,rfl,ω,ho,λa m j hj hij=>ha a m j hj ω⟩
  have hp:DutOK b D (out++[aE l[i].D0 l[i].I0 (l[i].B5+1)]):=ho.push ⟨he.1,by show 0≤l[i].B5+1;omega,by show l[i].B5+1≤D;omega⟩ λa m=>ha a m i hi (w_ _)
  have hlen:=ho.len hb;refine I (f2_ (by simp only[z_,d1_];omega)) (A ⟨k-1,ω,_,i+1,rfl,ω,hp,λa m j hj hij=>?_⟩)
  rcases p_.1 m with m | m
  ·exact ha a m j hj ω
  ·rw[D_.1 m]
   exact b0_.1 h.sort i j hi hj ω
 ·intro y hy
  cases y with
  |inl z=>exact A ⟨hy,λq=>by cases q⟩
  |inr z=>exact A ⟨by show DutOK b D z.1.1;rw[show z.1.1=[]from hy];exact .nil,λ_=>hy⟩
structure BelOK(b:Bldg)(car:Nat)(x:Belief):Prop where
 fl:-1≤x.D0∧x.D0≤b.C0-1
 dir:0≤x.I0∧x.I0≤3
 door:0≤x.C3∧x.C3≤3
 still:0≤x.V2∧x.V2≤1000000
 late:x.L3=true→x.U0=[]
 dut:DutOK b (HC b car).F1 x.U0
@[reducible] def Azb(x:Belief):Gz:=(x.D0,x.I0,x.C3,x.U0,x.V2,x.L3,())
def Apq(b:N)(car:Nat)(t:Gz):Prop:=∃x,t=Azb x∧BelOK b car x
section
variable{b:N}(hb:b.small)
include hb
theorem Afo{x:Belief}:OQ b car x=E↔BelOK b car x:=by
 unfold OQ inR;simp only[e_,A_,Bfr hb,b8_,Bool.and_eq_false_imp,decide_eq_false_iff_not];constructor
 ·rintro⟨h1,h2,h3,h4,h5,h6⟩
  exact⟨h1,h2,h3,h4,λq=>List.length_eq_zero_iff.1 (by have:=h5 q;omega),h6⟩
 ·intro h
  exact⟨h.fl,h.dir,h.door,h.still,λq=>(by rw[h.late q];decide),h.dut⟩
theorem BelOK.zero:BelOK b car ⟨0,0,0,[],0,L⟩:=by
 have:=hb.lo
 exact⟨⟨by decide,show(0:Int)≤b.C0-1 by omega⟩,by decide,by decide,by decide,λ_=>rfl,.nil⟩
variable(hcode:b.code=0){car:Nat}(hcar:car<b.B0.length){x:Belief}(h:BelOK b car x)
include hcode hcar h
theorem Ih:Ch b.C0 b.E0 b.H0 b.M0 b.J0 b.L0 b.N0 b.B0 (car:Int) x.D0 x.I0 x.C3 x.U0 x.V2 x.L3=J ((E,()),()):=by
 rw[Rl hb hcode hcar x (c2_ (h.dut.len hb) (by decide)),(Afo hb).2 h]
theorem Aje:(HC b car).F1≤1000000000:=by
 have:=Aft hcode (c:=HC b car) (by unfold HC;rw[k_,i_ hcar];exact a7_ hcar)
 omega
theorem Adw:H (LW b.C0 b.E0 b.H0 b.M0 b.J0 b.L0 b.N0 b.B0 (car:Int) x.D0 x.I0 x.C3 x.U0 x.V2 x.L3) λy=>Apq b car y.2.1:=by
 unfold LW;refine O (Ih hb hcode hcar h) (Sat.bifF rfl (I (Aa ω ω) ?_))
 refine C (Avx hb (Aje hb hcode hcar h) h.dut 0 0) λy2 h2=>A ⟨⟨x.D0,x.I0,x.C3,y2.1.1,0,y2.1.2.1⟩,rfl,⟨h.fl,h.dir,h.door,?_,h2.2,h2.1⟩⟩
 exact show(0:Int)≤0∧(0:Int)≤1000000 from by decide
theorem Aa4:H (Io b.C0 b.E0 b.H0 b.M0 b.J0 b.L0 b.N0 b.B0 (car:Int) x.D0 x.I0 x.C3 x.U0 x.V2 x.L3) λy=>Apq b car y.2.1:=by
 unfold Io;refine O (Ih hb hcode hcar h) (Sat.bifF rfl (A ⟨⟨x.D0,x.I0,x.C3,[],0,L⟩,rfl,⟨h.fl,h.dir,h.door,?_,λ_=>rfl,.nil⟩⟩))
 exact show(0:Int)≤0∧(0:Int)≤1000000 from by decide
theorem Adx:H (LX b.C0 b.E0 b.H0 b.M0 b.J0 b.L0 b.N0 b.B0 (car:Int) x.D0 x.I0 x.C3 x.U0 x.V2 x.L3) λ_=>True:=by
 unfold LX;refine C (Q:=λ_=>True) (O (Ih hb hcode hcar h) (I rfl ?_)) λ_ _=>A trivial
 exact B (λ_=>B (λ_=>I (Aa ω ω) (A trivial)) λ_=>A trivial) λ_=>A trivial
theorem Zq(o p q:Int):H (JP b.C0 b.E0 b.H0 b.M0 b.J0 b.L0 b.N0 b.B0 (car:Int) x.D0 x.I0 x.C3 x.U0 x.V2 x.L3 o p q) λy=>Apq b car y.2.1:=by
 unfold JP;refine O (Ih hb hcode hcar h) (Sat.bifF rfl ?_);refine C (Q:=λy=>y.1.1=E→(-1≤o∧o≤b.C0-1)∧(0≤p∧p≤3)∧0≤q∧q≤3) ?_ λy2 h2=>?_
 ·unfold Fw
  refine C (Q:=λy=>y.1.1=E→(-1≤o∧o≤b.C0-1)∧(0≤p∧p≤3)∧0≤q∧q≤3) ?_ λ_ h=>A h
  refine C (isFloors_ti _).out λ_ _=>B (λ_=>?_) λ_=>A λg=>(by cases g)
  refine B (λg1=>?_) λ_=>A λg=>(by cases g)
  refine B (λg2=>?_) λ_=>A λg=>(by cases g)
  refine B (λg3=>?_) λ_=>A λg=>(by cases g)
  refine B (λg4=>?_) λ_=>A λg=>(by cases g)
  refine B (λg5=>A λg6=>?_) λ_=>A λg=>(by cases g)
  have g2:=m_ g2;exact⟨⟨m_ g1,ω⟩,⟨m_ g3,m_ g4⟩,m_ g5,m_ g6⟩
 refine B (λ_=>A ⟨⟨0,0,0,[],0,L⟩,rfl,BelOK.zero hb⟩) λk=>I (Aa ω ω) ?_
 obtain⟨ho,hp,hq⟩:=h2 (by simpa using k)
 refine C (MG ..) λy3 _=>C (Avx hb (Aje hb hcode hcar h) h.dut _ _) λy4 h4=>?_
 have i0:(0:Int)≤0∧(0:Int)≤1000000:=by decide
 refine C (Q:=λ(y:(Unit×Unit×Unit×Int×Unit)×(Gz×(Int×Int×Int×Unit)×Gz×Unit))=>(y.2.1=Azb ⟨x.D0,x.I0,x.C3,y4.1.1,x.V2,y4.1.2.1⟩∧y.2.2.1=(o,p,q,()))∧0≤y.1.2.2.2.1∧y.1.2.2.2.1≤1000000) ?_ ?_
 ·refine C (Q:=λy=>(y.2.1=Azb ⟨x.D0,x.I0,x.C3,y4.1.1,x.V2,y4.1.2.1⟩∧y.2.2.1=(o,p,q,()))∧y.1.2.2.2.1=0) ?_ ?_
  ·exact B (λ_=>B (λ_=>A ⟨⟨rfl,rfl⟩,rfl⟩) λ_=>A ⟨⟨rfl,rfl⟩,rfl⟩) λ_=>A ⟨⟨rfl,rfl⟩,rfl⟩
  ·intro y5 h5
   refine B (λ_=>A ⟨h5.1,?_⟩) λ_=>A ⟨h5.1,?_⟩
   ·rw[h5.1.1];exact JM h.still
   ·show 0≤y5.1.2.2.2.1∧y5.1.2.2.2.1≤1000000
    rw[h5.2];exact i0
 rintro⟨⟨a1,a2,a3,n,a4⟩,t,v,w,z⟩ ⟨⟨e1,e2⟩,hn⟩;change t=_ at e1;change v=_ at e2;subst e1 e2;exact Sat.bindC (λ_=>Sat.bindR (A ⟨⟨o,p,q,y4.1.1,n,y4.1.2.1⟩,rfl,⟨ho,hp,hq,hn,h4.2,h4.1⟩⟩)) λ_=>Sat.bindR (A ⟨⟨x.D0,p,q,y4.1.1,n,y4.1.2.1⟩,rfl,⟨h.fl,hp,hq,hn,h4.2,h4.1⟩⟩)
end
def Bsn(a c:Duty):∃n:Int,CQ a.D0 a.I0 a.B5 c.D0 c.I0 c.B5=J ((n,()),())∧(n<0↔RN a c=E)∧(n=0↔a.D0=c.D0∧a.I0=c.I0):=by
 unfold CQ;rw[Hq,Hq];simp only[a_];rw[WT];refine⟨_,rfl,?_⟩;unfold RN Vp;by_cases h1:a.D0<c.D0
 ·simp[h1];omega
 ·by_cases h2:c.D0<a.D0
  ·simp[h1,h2];omega
  ·by_cases h3:a.I0<c.I0
   ·simp[h1,h2,h3];omega
   ·by_cases h4:c.I0<a.I0
    ·simp[h1,h2,h3,h4];omega
    ·simp[h1,h2,h3,h4];omega
def Bla{j:Nat}(h:i+j<9223372036854775808):aC.wrap (Int.fdiv (aD IntKind.u64 (aD aC ((i:Int)+(j:Int)))) ((2:Int)^(Min.min (P (1:Int)) (IntKind.bits IntKind.u64))))=(((i+j)/2:Nat):Int):=Agh h
section
variable{b:N}(hb:b.small){D:Int}{l:List Duty}(h:DutOK b D l){F Dr:Int}(hD:1≤Dr∧Dr≤2)
include hb h hD
theorem Aob(hi:i<l.length):∃n:Int,CQ l[i].D0 l[i].I0 l[i].B5 F Dr 0=J ((n,()),())∧(n<0↔dK l[i]<4*F+Dr)∧(n=0↔dK l[i]=4*F+Dr):=by
 obtain⟨n,h1,h2,h3⟩:=Bsn l[i] (aE F Dr 0);have hc:=EX hb (h.each _ (a7_ hi)).1;refine⟨n,h1,h2.trans (Xr hc.2 hD),h3.trans ?_⟩;unfold dK;simp only;omega
theorem Bbt:H (Ar ((l,(),(),(l.length:Int),0,(l.length:Int),()),((F,Dr,0,()),()))) λy=>∃p:Nat,y=((l,(),(),(l.length:Int),(p:Int),()),((F,Dr,0,()),()))∧p≤l.length∧(∀i (hi:i<l.length),i<p→dK l[i]<4*F+Dr)∧∀i (hi:i<l.length),p≤i→4*F+Dr≤dK l[i]:=by
 have hl:=h.len hb;unfold Ar;refine Sat.loop (λk x=>∃i j:Nat,x=((l,(),(),(l.length:Int),(i:Int),(j:Int),()),((F,Dr,0,()),()))∧j≤i+k∧i≤j∧j≤l.length∧(∀a (ha:a<l.length),a<i→dK l[a]<4*F+Dr)∧∀a (ha:a<l.length),j≤a→4*F+Dr≤dK l[a]) ?_ l.length ⟨0,l.length,rfl,ω,ω,ω,λa _ g=>by omega,λa _ g=>by omega⟩ ω
 rintro k x ⟨i,j,rfl,hk,hij,hj,h1,h2⟩;show H (AV l (l.length:Int) (i:Int) (j:Int) F Dr 0) _;unfold AV;refine B (λq=>?_) λq=>A ?_
 ·have q:=m_ q
  have hm:(i+j)/2<l.length:=ω
  rw[Bla ω]
  refine I (Aa ω ω) ?_
  have g:List.getD l (P (((i+j)/2:Nat):Int)) (aE 0 0 0)=l[(i+j)/2]:=gD hm;simp only[g,Dz hm (show l.length≤AI by unfold AI;omega)]
  obtain⟨n,c1,c2,c3⟩:=Aob hb h (F:=F) hD hm;refine O c1 (B (λg2=>A ⟨k-1,ω,(i+j)/2+1,j,rfl,ω,ω,hj,λa ha g3=>?_,h2⟩) λg2=>A ⟨k-1,ω,i,(i+j)/2,rfl,ω,ω,ω,h1,λa ha g3=>?_⟩)
  ·have:=c2.1 (m_ g2)
   rcases f6_ a ((i+j)/2)with g4 | g4
   ·have:=b0_.1 h.sort a _ ha hm g4
    omega
   ·obtain rfl:a=(i+j)/2:=ω
    exact this
  ·have:¬dK l[(i+j)/2]<4*F+Dr:=λe=>C_ g2 (c2.2 e)
   rcases f6_ ((i+j)/2) a with g4 | g4
   ·have:=b0_.1 h.sort _ a hm ha g4
    omega
   ·obtain rfl:a=(i+j)/2:=ω
    omega
 ·have q:=C_ q
  exact⟨i,rfl,ω,h1,λa ha g=>h2 a ha ω⟩
theorem Bk4:H (AJ l F Dr 0) λy=>∃p:Nat,y.1.1=(p:Int)∧p≤l.length∧(∀i (hi:i<l.length),i<p→dK l[i]<4*F+Dr)∧(y.1.2.1=L→∀i (hi:i<l.length),p≤i→4*F+Dr<dK l[i]):=by
 have hl:=h.len hb;unfold AJ;refine C (Bbt hb h (F:=F) hD) ?_;rintro y ⟨p,rfl,hp,h1,h2⟩;refine C (Q:=λy=>y.1.1=(p:Int)∧(y.1.2.1=L→∀i (hi:i<l.length),p≤i→4*F+Dr<dK l[i])) (B (λq=>?_) λq=>A ⟨rfl,λ_ i hi g=>?_⟩) λy hy=>A ⟨p,hy.1,hp,h1,hy.2⟩
 ·have q:p<l.length:=by have:=m_ q;exact Int.ofNat_lt.1 this
  refine I (Aa (Int.natCast_nonneg p) (Int.ofNat_lt.2 q)) ?_;have g:List.getD l (P (p:Int)) (aE 0 0 0)=l[p]:=gD q;simp only[g];obtain⟨n,c1,c2,c3⟩:=Aob hb h (F:=F) hD q;refine O c1 (A ⟨rfl,λe i hi g2=>?_⟩)
  have e:¬n=0:=λe0=>by rw[e0]at e;cases e
  have e:=mt c3.2 e
  have:=h2 p q (w_ _)
  rcases f6_ p i with g4 | g4
  ·have:=b0_.1 h.sort _ i q hi g4
   omega
  ·obtain rfl:i=p:=ω
   omega
 ·have:=C_ q
  have:¬p<l.length:=λe=>this (Int.ofNat_lt.2 e)
  omega
theorem Bpi(hc:Ak b F Dr=E)(h0:0≤D){p:Nat}(hp:p≤l.length)(h1:∀i (hi:i<l.length),i<p→dK l[i]<4*F+Dr)(h2:∀i (hi:i<l.length),p≤i→4*F+Dr<dK l[i]):H (Cu l (p:Int) [aE F Dr 0]) λy=>DutOK b D y.1.1∧y.1.1≠[]:=by
 have hl:=h.len hb;unfold Cu ZM;refine I ?_ (A ⟨⟨λe he=>?_,?_⟩,?_⟩)
 ·simp
  omega
 ·rcases p_.1 he with he | he
  ·rcases p_.1 he with he | he
   ·exact h.each e (e2_ he)
   ·rw[D_.1 he]
    exact⟨hc,d5_ 0,h0⟩
  ·exact h.each e (e3_ he)
 ·have ht:∀a∈l.take p,dK a<4*F+Dr:=λa ha=>by
   obtain⟨i,hi,rfl⟩:=List.mem_take_iff_getElem.1 ha;exact h1 i ω ω
  have hd:∀a∈l.drop p,4*F+Dr<dK a:=λa ha=>by
   obtain⟨i,hi,rfl⟩:=List.mem_drop_iff_getElem.1 ha;exact h2 (p+i) ω ω
  show((l.take p++[aE F Dr 0])++l.drop p).Pairwise _;refine List.pairwise_append.2 ⟨List.pairwise_append.2 ⟨h.sort.take,List.pairwise_singleton ..,λa ha c hc=>?_⟩,h.sort.drop,λa ha c hc=>?_⟩
  ·rw[D_.1 hc];exact ht a ha
  ·rcases p_.1 ha with ha | ha
   ·exact Int.lt_trans (ht a ha) (hd c hc)
   ·rw[D_.1 ha];exact hd c hc
 ·simp
end
def Aq3{α:Type}(z:α)(l:List α):Kj (List.replicate (P (l.length:Int)) z) l=l:=by
 unfold Kj;simp
def Bzx(c:Int×Int):(He c).length≤64:=by
 have h:∀k i:Nat,((List.range' i k).flatMap (MQ c)).length≤2*k:=by
  intro k
  induction k with
  |zero=>intro i;exact w_ _
  |succ k ih=>
   intro i;rw[e9_,a0_,h_]
   have:=ih (i+1)
   have:=Abn c i
   omega
 exact h 32 0
def Bz0(h:e∈He c):(0≤e.D0∧e.D0<32)∧(e.I0=1∨e.I0=2)∧BQ c e.D0.toNat e.I0=E:=by
 obtain⟨f,h1,h2,h3,h4⟩:=mem_range.1 (c3_.2 ⟨e,h,rfl⟩);simp only[HB]at h2 h3 h4;refine⟨ω,h3,?_⟩
 rw[h2,j_];exact h4
def Av5(hb:b.small)(hcode:b.code=0)(h:e∈He (CF c (Bx b))):Ak b e.D0 e.I0=E:=by
 obtain⟨h1,h2,h3⟩:=Bz0 h;rw[Tt,e_,VR hb hcode ω h2,f5_ h1.1]at h3
 exact h3.2
section
variable{b:N}(hb:b.small)(hcode:b.code=0){car:Nat}(hcar:car<b.B0.length){x:Belief}(h:BelOK b car x)
include hb hcode hcar h
theorem Ahq{es:List Entry}(he:∀e∈es,Ak b e.D0 e.I0=E)(hl:es.length≤1000)(z:Gz):H (GW (((),(),es,(es.length:Int),0,()),((x.D0,x.I0,x.C3,x.U0,x.V2,x.L3,()),z,()))) λy=>∃du,y.2.1=(x.D0,x.I0,x.C3,du,x.V2,x.L3,())∧DutOK b (HC b car).F1 du:=by
 have hd:=Aft hcode (c:=HC b car) (by unfold HC;rw[k_,i_ hcar];exact a7_ hcar)
 unfold GW;refine Sat.loop (λk y=>∃(du:List Duty) (i:Nat),y=(((),(),es,(es.length:Int),(i:Int),()),((x.D0,x.I0,x.C3,du,x.V2,x.L3,()),z,()))∧i+k=es.length∧DutOK b (HC b car).F1 du) ?_ es.length ⟨x.U0,0,rfl,ω,h.dut⟩ ω
 rintro k y ⟨du,i,rfl,hk,ho⟩;show H (MF es (es.length:Int) (i:Int) x.D0 x.I0 x.C3 du x.V2 x.L3 z.1 z.2.1 z.2.2.1 z.2.2.2.1 z.2.2.2.2.1 z.2.2.2.2.2.1) _;unfold MF;refine B (λq=>?_) λ_=>A ⟨du,rfl,ho⟩
 have hi:i<es.length:=by have:=m_ q;omega
 refine I (Aa ω ω) ?_
 have g:List.getD es (P (i:Int)) (Entry.mk 0 0 0 0 L)=es[i]:=by
  simp only[j_,k_,i_ hi,Option.getD_some]
 simp only[g,Dz hi (show es.length≤AI by unfold AI;omega)]
 have hc:=he _ (a7_ hi);refine C (Bk4 hb ho (F:=es[i].D0) (EX hb hc).2) ?_;rintro y1 ⟨p,e1,hp,h1,h2⟩;refine B (λq=>?_) λ_=>A ⟨k-1,ω,du,i+1,rfl,ω,ho⟩
 rw[e1];refine C (Bpi hb ho (EX hb hc).2 hc hd.1 hp h1 (h2 (by simpa using q))) λy2 hy=>A ⟨k-1,ω,y2.1.1,i+1,rfl,ω,hy.1⟩
theorem Aa5(u d:Int):H (La b.C0 b.E0 b.H0 b.M0 b.J0 b.L0 b.N0 b.B0 (car:Int) x.D0 x.I0 x.C3 x.U0 x.V2 x.L3 u d) λy=>Apq b car y.2.1:=by
 have hl:=h.dut.len hb;unfold La;refine O (Ih hb hcode hcar h) (Sat.bifF rfl (I ?_ ?_))
 ·simp;omega
 refine O (Kh hb hcode) (O (KF (u,d) (Bx b)) (O (Wt (CF (u,d) (Bx b))) ?_));simp only[Aq3];refine C (Ahq hb hcode hcar h (λe he=>Av5 hb hcode he) ?_ _) ?_
 ·have:=Bzx (CF (u,d) (Bx b))
  omega
 rintro⟨a,t,w⟩ ⟨du,e,ho⟩;change t=_ at e;subst e;refine Sat.bindC (λ_=>Sat.bindR (A ⟨⟨x.D0,x.I0,x.C3,du,x.V2,(du.length:Int)==0⟩,rfl,⟨h.fl,h.dir,h.door,h.still,λq=>?_,ho⟩⟩)) λ_=>Sat.bindR (A ⟨⟨x.D0,x.I0,x.C3,du,x.V2,L⟩,rfl,⟨h.fl,h.dir,h.door,h.still,λq=>(by cases q),ho⟩⟩)
 have q:(du.length:Int)=0:=by simpa using q
 exact(List.length_eq_zero_iff (l:=du)).1 ω
end
def Ak5(f d r p:Int)(e u o:Nat)(cs:List Car)(x:Nat):H (Og f d r p e u o cs x) λy=>0≤y.1.1∧y.1.1≤4:=by
 unfold Og;refine B (λ_=>A (by decide)) λ_=>B (λ_=>A (by decide)) λ_=>B (λ_=>A (by decide)) λ_=>B (λ_=>A (by decide)) λ_=>A (by decide)
def Ani(full:H (arF .sub .f64 b.L0 4589168020290535424) λ_=>True)(over:H (arF .sub .f64 b.N0 4589168020290535424) λ_=>True)(s:Int)(x:Nat):H (Qe b.C0 b.E0 b.H0 b.M0 b.J0 b.L0 b.N0 b.B0 s x) λy=>0≤y.2.1.1∧y.2.1.1≤4:=by
 unfold Qe;refine O (Be b) (B (λ_=>A ⟨d5_ 0,show(0:Int)≤4 from by decide⟩) λ_=>C (Ak5 ..) λy2 h2=>?_)
 refine C (Q:=λy=>y.1.2.2.2.2.1=y2.1.1∧y.2.1=b.tup) (B (λ_=>A ⟨rfl,rfl⟩) λ_=>A ⟨rfl,rfl⟩) λy3 h3=>?_
 have k:0≤y3.1.2.2.2.2.1∧y3.1.2.2.2.2.1≤4:=by rw[h3.1];exact h2
 refine B (λ_=>B (λq=>?_) λ_=>B (λq=>?_) λ_=>A k) λ_=>A k
 ·have q:y3.2.2.1.1=3:=by simpa using q
  rw[h3.2];refine C full λ_ _=>B (λ_=>A ?_) λ_=>A k
  show 0≤y3.2.2.1.1∧y3.2.2.1.1≤4;omega
 ·have q:y3.2.2.1.1=4:=by simpa using q
  rw[h3.2];refine C over λ_ _=>B (λ_=>A ?_) λ_=>A k
  show 0≤y3.2.2.1.1∧y3.2.2.1.1≤4;omega
end Go.Ovl
namespace Go.Ovl
open Go Go.Ab
variable{i:Nat}{α:Type}
def Ae{β:Type}{o:Option α}{a:α}{f:α→Option β}{r:Option β}(h:o=J a)(h2:f a=r):Option.bind o f=r:=by
 subst h;exact h2
def Bfq{l:List α}(d:α)(hi:i<l.length):l.drop i=l.getD i d::l.drop (i+1):=by
 rw[List.drop_eq_getElem_cons hi,k_,i_ hi];rfl
def Agj{X Y α:Type}{step:X→Option (Sum X Y)}(l:List α)(d:α)(p:α→Bool)(g:Nat→X)(y:Y)(z:α→Y)
  (h1:∀i,i<l.length→step (g i)=J (bif p (l.getD i d)then .inl (g (i+1))else .inr (z (l.getD i d)))) (h2:step (g l.length)=J (.inr y)) :
  ∀m i:Nat,i+m=l.length→BN step (m+1) (g i)=J (match(l.drop i).find? (λx=>!p x)with | none=>y | some x=>z x)
 |0,i,hi=>by
  obtain rfl:i=l.length:=ω
  rw[a8_];exact Ay h2
 |m+1,i,hi=>by
  have hlt:i<l.length:=ω
  rw[Bfq d hlt];have h:=h1 i hlt;cases hp:p (l.getD i d)with
  |true=>
   rw[hp,d_]at h;rw[Bs h,Agj l d p g y z h1 h2 m (i+1) ω,List.find?_cons,hp]
   rfl
  |false=>
   rw[hp,c_]at h;rw[Ay h,List.find?_cons,hp];rfl
def Baa{β:Type}(p:α→Bool)(y z:β)(l:List α):(match l.find? (λx=>!p x)with | none=>y | some _=>z)=bif l.all p then y else z:=by
 induction l with
 |nil=>rfl
 |cons a l ih=>
  rw[List.find?_cons,V_];cases p a
  ·rfl
  ·exact ih
def WO{c:Bool}{x y r:α}(h:c=E)(h2:x=r):(bif c then x else y)=r:=by subst h;exact h2
def Ahg{b:N}(hcode:b.code=0){car:Int}(hc:0≤car∧car<(b.B0.length:Int)){k v:Int}(h:(k=4∧0≤v∧v≤4)∨((k=5∨k=6)∧0≤v∧v≤1)):Az b (Record.mk k 0 0 car v)=E:=by
 unfold Az SE inR;simp only[hcode];rcases h with⟨rfl,h⟩ | ⟨rfl | rfl,h⟩<;>simp<;>omega
def phA(m:Img)(i:Nat):Int:=m.F0.getD i 0
def flA(m:Img)(i:Nat):Bool:=m.O0.getD i L
def lvA(m:Img)(i:Nat):Bool:=m.K0.getD i L
def SW(m:Img)(i:Nat):Bool:=(phA m i==0||phA m i==4)&&(!flA m i&&!lvA m i)
def II(m:Img)(i:Nat):Bool:=phA m i==0||(phA m i==1||phA m i==4)
section
variable{b:N}{m:Img}(hm:ImgOK b m)
include hm
theorem Akt(hi:i<b.B0.length):Kz m.F0 m.O0 m.K0 m.A0 (i:Int)=J ((E,()),()):=by
 unfold Kz;simp only[hm.lp,hm.lf,hm.ll,b_ (ω:(0:Int)≤(i:Int)),f_ (N_ (b.B0.length:Int)),d_,c_,b_ (ω:(i:Int)<(b.B0.length:Int)),a_]
theorem Ai5(hi:i<b.B0.length):Ky m.F0 m.O0 m.K0 m.A0 (i:Int)=J ((SW m i,()),()):=by
 have i1:inB (i:Int) m.F0.length=E:=Aa ω (by rw[hm.lp];omega)
 have i2:inB (i:Int) m.O0.length=E:=Aa ω (by rw[hm.lf];omega)
 have i3:inB (i:Int) m.K0.length=E:=Aa ω (by rw[hm.ll];omega)
 unfold Ky SW phA flA lvA;refine Ae (a:=(((m.F0.getD i 0==0||m.F0.getD i 0==4)&&(!m.O0.getD i L&&!m.K0.getD i L),()),())) (Ae (Akt hm hi) ?_) rfl
 simp only[i1,i2,i3,d_,j_];cases m.F0.getD i 0==0<;>cases m.F0.getD i 0==4<;>cases m.O0.getD i L<;>rfl
theorem Aaw(hi:i<b.B0.length):It m.F0 m.O0 m.K0 m.A0 (i:Int)=J ((II m i,()),()):=by
 have i1:inB (i:Int) m.F0.length=E:=Aa ω (by rw[hm.lp];omega)
 unfold It II phA;refine Ae (Akt hm hi) ?_;simp only[i1,d_,c_,n_,j_];cases m.F0.getD i 0==0<;>cases m.F0.getD i 0==1<;>rfl
theorem Bf0:∃fr:Bool,Gv m.F0 m.O0 m.K0 m.A0=J ((fr,()),()):=by
 have hcc:=Aj hm.code;have hp:=hm.lp;have hl:=hm.ll
 have h:H (Gv m.F0 m.O0 m.K0 m.A0) λ_=>True:=by
  unfold Gv Mo;refine C (Q:=λ_=>True) (Sat.loop (λk x=>∃i:Nat,x=(((),m.F0,(m.F0.length:Int),(i:Int),()),((m.F0,m.O0,m.K0,m.A0,()),()))∧i+k=m.F0.length) ?_ m.F0.length ⟨0,rfl,ω⟩ ω) λy _=>?_
  ·rintro k x ⟨i,rfl,hk⟩
   show H (PA m.F0 (m.F0.length:Int) (i:Int) m.F0 m.O0 m.K0 m.A0) _;unfold PA;refine B (λq=>?_) λ_=>A trivial
   have hi:i<m.F0.length:=by have:=m_ q;omega
   refine I (Aa ω ω) ?_
   simp only[Dz hi (show m.F0.length≤AI by unfold AI;omega)]
   refine B (λ_=>A trivial) λ_=>B (λ_=>A trivial) λ_=>B (λ_=>A trivial) λ_=>?_
   exact I (Aa ω ω) (B (λ_=>A trivial) λ_=>A ⟨k-1,ω,i+1,rfl,ω⟩)
  ·cases y with
   |inl _=>exact A trivial
   |inr _=>exact A trivial
 obtain⟨y,h,_⟩:=h;exact⟨y.1.1,h⟩
end
def OV(m:Img)(i:Nat)(calm fr:Bool)(kind:Int):List Record×Int:=
 bif kind==1&&phA m i==0 then(bif fr then([⟨4,0,0,i,1⟩],0)else([],261))
 else bif(kind==2&&phA m i==1)then([⟨4,0,0,i,0⟩],0)
 else bif(kind==3&&phA m i==2)then([⟨4,0,0,i,0⟩],0)
 else bif(kind==2&&(phA m i==4&&lvA m i))then([⟨6,0,0,i,0⟩],0)
 else bif(kind==4&&phA m i==2)then([⟨4,0,0,i,3⟩],0)
 else bif(kind==5&&phA m i==3)then(bif calm then([⟨4,0,0,i,2⟩],0)else([],262))
 else bif(kind==6&&phA m i==3)then(bif !flA m i then([⟨4,0,0,i,4⟩],0)else([],262))
 else bif(kind==7&&(phA m i==4&&!lvA m i))then(bif fr then([⟨6,0,0,i,1⟩],0)else([],261))
 else bif(kind==8&&flA m i)then([⟨5,0,0,i,0⟩],0)else([],260)
section
variable{b:N}{m:Img}(hm:ImgOK b m){i:Nat}(hi:i<b.B0.length)
include hm hi
theorem Bgp(ok:Bool)(e:Int)(l:List Record):Dk ok e l=J (((bif ok then(l,(0:Int))else([],e)).1,(bif ok then(l,(0:Int))else([],e)).2,()),()):=by
 unfold Dk;cases ok<;>rfl
theorem Bpg(calm:Bool)(p:Int):Bq m.F0 m.O0 m.K0 m.A0 (i:Int) calm p=J ((phA m i==p,()),()):=by
 unfold Bq;rw[Aa ω (by rw[hm.lp];omega),d_]
 rfl
theorem Azo{fr:Bool}(hf:Gv m.F0 m.O0 m.K0 m.A0=J ((fr,()),()))(calm:Bool)(kind:Int):HJ m.F0 m.O0 m.K0 m.A0 (i:Int) calm kind=J (((OV m i calm fr kind).1,(OV m i calm fr kind).2,()),()):=by
 have ifl:inB (i:Int) m.O0.length=E:=Aa ω (by rw[hm.lf];omega)
 have it:=Bpg hm hi calm;have wi:=Bgp hm hi;unfold HJ OV;rw[Aa ω (show(i:Int)<(m.K0.length:Int)by rw[hm.ll];omega),d_]
 let T:=((m.F0,m.O0,m.K0,m.A0,(i:Int),calm,()),(m.F0,m.O0,m.K0,m.A0,()),())
 have st:∀(k p:Int),(bif kind==k then(Bq m.F0 m.O0 m.K0 m.A0 (i:Int) calm p).bind λy1=>J ((kind,(),(),lvA m i,y1.1.1,()),T)else J ((kind,(),(),lvA m i,L,()),T))=J ((kind,(),(),lvA m i,(kind==k&&phA m i==p),()),T):=λk p=>by
  cases kind==k with
  |true=>exact Ae (it p) rfl
  |false=>rfl
 refine Ae (st 1 0) ?_;show(bif(kind==1&&phA m i==0)then _ else _)=_;cases kind==1&&phA m i==0 with
 |true=>
  refine Ae hf (Ae (a:=(([Record.mk 4 0 0 i 1],()),())) rfl (Ae (wi fr 261 [⟨4,0,0,i,1⟩]) ?_));cases fr<;>rfl
 |false=>
 refine Ae (st 2 1) ?_;show(bif(kind==2&&phA m i==1)then _ else _)=_;cases h2:kind==2&&phA m i==1 with
 |true=>rfl
 |false=>
 refine Ae (st 3 2) ?_;show(bif(kind==3&&phA m i==2)then _ else _)=_;cases kind==3&&phA m i==2 with
 |true=>rfl
 |false=>
 refine Ae (a:=((kind,(),(),lvA m i,(kind==2&&(phA m i==4&&lvA m i)),()),T)) ?_ ?_
 ·show(bif kind==2 then(Bq m.F0 m.O0 m.K0 m.A0 (i:Int) calm 4).bind _ else _)=_
  cases kind==2 with
  |false=>rfl
  |true=>
   refine Ae (it 4) ?_;show(bif phA m i==4 then _ else _)=_;cases phA m i==4<;>rfl
 show(bif(kind==2&&(phA m i==4&&lvA m i))then _ else _)=_;cases kind==2&&(phA m i==4&&lvA m i)with
 |true=>rfl
 |false=>
 refine Ae (st 4 2) ?_;show(bif(kind==4&&phA m i==2)then _ else _)=_;cases kind==4&&phA m i==2 with
 |true=>rfl
 |false=>
 refine Ae (st 5 3) ?_;show(bif(kind==5&&phA m i==3)then _ else _)=_;cases kind==5&&phA m i==3 with
 |true=>
  rw[d_];refine Ae (a:=(([Record.mk 4 0 0 i 2],()),())) rfl ?_;refine Ae (wi calm 262 [⟨4,0,0,i,2⟩]) ?_;cases calm<;>rfl
 |false=>
 refine Ae (st 6 3) ?_;show(bif(kind==6&&phA m i==3)then _ else _)=_;cases kind==6&&phA m i==3 with
 |true=>
  show(bif inB (i:Int) m.O0.length then _ else _)=_;rw[ifl,d_];refine Ae (a:=(([Record.mk 4 0 0 i 4],()),())) rfl ?_;refine Ae (wi (!flA m i) 262 [⟨4,0,0,i,4⟩]) ?_;cases flA m i<;>rfl
 |false=>
 refine Ae (a:=((kind,(),(),(kind==7&&(phA m i==4&&!lvA m i)),()),T)) ?_ ?_
 ·show(bif kind==7 then(Bq m.F0 m.O0 m.K0 m.A0 (i:Int) calm 4).bind _ else _)=_
  cases kind==7 with
  |false=>rfl
  |true=>
   refine Ae (it 4) ?_;show(bif phA m i==4 then _ else _)=_;cases phA m i==4<;>rfl
 show(bif(kind==7&&(phA m i==4&&!lvA m i))then _ else _)=_;cases kind==7&&(phA m i==4&&!lvA m i)with
 |true=>
  refine Ae hf (Ae (wi fr 261 [⟨6,0,0,i,1⟩]) ?_);cases fr<;>rfl
 |false=>
 refine Ae (a:=(((),(kind==8&&flA m i),()),(T.1,()))) ?_ ?_
 ·show(bif kind==8 then(bif inB (i:Int) m.O0.length then _ else _)else _)=_
  cases kind==8 with
  |false=>rfl
  |true=>rw[ifl];rfl
 show(bif(kind==8&&flA m i)then _ else _)=_;cases kind==8&&flA m i<;>rfl
end
end Go.Ovl
