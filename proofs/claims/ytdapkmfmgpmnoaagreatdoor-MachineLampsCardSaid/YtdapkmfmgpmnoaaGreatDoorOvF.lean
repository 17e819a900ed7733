/- A modernised car (layer 15): its control answers, and what it leaves is a state. -/
import Derived.Test.YtdapkmfmgpmnoaaGreatDoorOvE
import Derived.Test.YtdapkmfmgpmnoaaGreatDoorOvC
import Derived.Test.YtdapkmfmgpmnoaaGreatDoorOvA
set_option linter.all false
open Go.Ovl.Sat renaming ret->A,bic->B,bindS->C,bifT->I,bindE->O
open Bool renaming true->E,false->L
open Go.Ovl renaming Sat->H,Bldg->N,NewCar->aB
open Option renaming some->J
open Int renaming toNat->P
open BitVec renaming ofInt->aA,toNat->aG
open Go.IntKind renaming i64->aC,wrap->aD,u32->aF
open Go.Ovl.Duty renaming mk->aE
open Nat renaming lt_of_le_of_lt->aH
namespace Go.Ovl
open Go Go.Ab
set_option maxRecDepth 100000
variable{b:N}{l:List Duty}{fl D n:Int}{x:aB}{car i:Nat}{c:Int×Int}{e:Entry}
def C2(fl n:Int):Prop:=0≤n∧n.toNat<2^fl.toNat
def C2.zero:C2 fl 0:=⟨e1_ 0,Nat.two_pow_pos _⟩
def C2.vb{v:BitVec 32}(h:v.toNat<2^fl.toNat):C2 fl (vb v):=⟨Int.natCast_nonneg _,h⟩
def C2.bv(h:C2 fl n):(bv n).toNat<2^fl.toNat:=by
 refine aH ?_ h.2
 have:=h.1
 show(aA 32 n).toNat≤n.toNat;rw[W_];show(n%4294967296).toNat≤n.toNat;omega
def C2.and{x y:Int}(h:C2 fl y):C2 fl (aD aF (stk x y (aG (aA (IntKind.bits .u32) x&&&aA (IntKind.bits .u32) y)))):=by
 rw[US];refine C2.vb ?_;rw[BitVec.toNat_and];exact aH Nat.and_le_right h.bv
def C2.andNot{x y:Int}(h:C2 fl x):C2 fl (aD aF (stk x y (aG (aA (IntKind.bits .u32) x&&& ~~~ aA (IntKind.bits .u32) y)))):=by
 rw[KQ];refine C2.vb ?_;rw[BitVec.toNat_and];exact aH Nat.and_le_left h.bv
def C2.or{x y:Int}(h:C2 fl x)(h2:C2 fl y):C2 fl (aD aF (stk x y (aG (aA (IntKind.bits .u32) x|||BitVec.ofInt (IntKind.bits .u32) y)))):=by
 rw[Ag4];refine C2.vb ?_;rw[BitVec.toNat_or];exact Nat.or_lt_two_pow h.bv h2.bv
def C2.all(h:2≤fl∧fl≤8):C2 fl (aD aF (aD aF (1*2^min (P fl) (IntKind.bits .u32))-1)):=by
 unfold C2
 have:fl=2∨fl=3∨fl=4∨fl=5∨fl=6∨fl=7∨fl=8:=ω
 rcases this with e | e | e | e | e | e | e<;>rw[e]<;>decide
def Acd:(Int.fdiv n ((2:Int)^P fl)==0)=E↔C2 fl n:=by
 have hp:(0:Int)<2^P fl:=Int.pow_pos (by decide)
 have hc:((2^P fl:Nat):Int)=(2:Int)^P fl:=by rw[Int.natCast_pow];rfl
 rw[V_ _ (Int.le_of_lt hp),R_];unfold C2;constructor
 ·intro h
  have h1:=Int.mul_ediv_add_emod n (2^P fl);rw[h,Int.mul_zero,Int.zero_add]at h1;have h2:=Int.emod_nonneg n (Int.ne_of_gt hp);have h3:=Int.emod_lt_of_pos n hp;rw[h1]at h2 h3;refine⟨h2,?_⟩;rw[← hc]at h3;omega
 ·intro h
  refine Int.ediv_eq_zero_of_lt h.1 ?_;rw[← hc]
  have:=h.1
  have:=h.2
  omega
structure Sx(fl:Int)(x:NewCar):Prop where
 sw:S2 x.V1 x.E1
 dr:D5 x.Y0 x.N1 x.H1 x.K1 x.D1
 mt:M3 fl x.T0 x.X0 x.Q0
 ca:C2 fl x.Y1
 sh:dir2 x.X2
 idle:0≤x.I3∧x.I3≤1000000
 nf:x.Z2=false
def Mz(x:aB):Prop:=x.T0=0∧x.X0=0∧x.Q0=0
def Am2(x:aB):Am1 x=E↔Mz x:=by unfold Am1 Mz;simp
def Sy(fl:Int)(x:aB):Prop:=Sx fl x∧(x.Y0=0∨Mz x)
def Ahi(h:D5 x.Y0 x.N1 x.H1 x.K1 x.D1):SA x=E↔x.Y0=0:=by
 unfold SA;rcases h with⟨h1,h2,h3,h4,h5⟩ | h
 ·rw[h1,h2,h3,h4,h5];decide
 ·have:¬x.Y0=0:=ω
  simp[this]
def VK(hb:b.small)(hf:x.Z2=L):EN b x=E↔Sy b.C0 x:=by
 have lo:=hb.lo;unfold EN;rw[hf,c_];unfold VQ Qv Aeh inR;simp only[e_,Y_,t_,Ac8,Aig (ω:2≤b.C0),Acd,Am2]
 constructor
 ·rintro⟨h1,h2,h3,h4,h5,h6,h7⟩
  rw[Ahi h2]at h4;exact⟨⟨⟨h1.1,h1.2⟩,h2,h3,h5,h6,h7,hf⟩,h4⟩
 ·rintro⟨h,h4⟩
  exact⟨⟨h.sw.1,h.sw.2⟩,h.dr,h.mt,h4.imp_left (Ahi h.dr).2,h.ca,h.sh,h.idle⟩
def D5.one:D5 1 0 0 L 0:=D5.at (a:=1) (by decide) (by decide) (by decide) (by decide) (by decide)
@[reducible] def Ql(b:N)(car:Int)(x:aB)(f:Int)(l:Bool)(d:Int)(k:Bool)(c:Int):Pp:=(b.C0,b.E0,b.H0,b.M0,b.J0,b.L0,b.N0,b.B0,car,x.V1,x.E1,x.Y0,x.N1,x.H1,x.K1,x.D1,x.T0,x.X0,x.Q0,x.Y1,x.X2,x.I3,x.Z2,f,l,d,k,c,())
section
variable{b:N}(hb:b.small){car f:Int}(hf:0≤f∧f<b.C0){x:aB}(l:Bool)(d:Int)(k:Bool)(c:Int)
include hb
theorem Tz(hcar:0≤car∧car<b.B0.length):H (BV (newcar_control.mk b.C0 b.E0 b.H0 b.M0 b.J0 b.L0 b.N0 b.B0 car x.V1 x.E1 x.Y0 x.N1 x.H1 x.K1 x.D1 x.T0 x.X0 x.Q0 x.Y1 x.X2 x.I3 x.Z2 f l d k c)) λ_=>True:=by
 unfold BV;exact I (Ac hcar.1 hcar.2) (A trivial)
include hf
theorem Ao0(p:Int)(h:Sx b.C0 x):H (DN p b.C0 b.E0 b.H0 b.M0 b.J0 b.L0 b.N0 b.B0 car x.V1 x.E1 x.Y0 x.N1 x.H1 x.K1 x.D1 x.T0 x.X0 x.Q0 x.Y1 x.X2 x.I3 x.Z2 f l d k c) λy=>∃n,y.2.1=Ql b car { x with Y1:=n } f l d k c∧C2 b.C0 n:=by
 have lo:=hb.lo;have hi:=hb.hi;unfold DN;refine I (b_ (ω:0≤b.C0)) ?_
 refine C (Q:=λy=>y.2.1=Ql b car x f l d k c∧C2 b.C0 y.1.2.1) ?_ λy hy=>?_
 ·exact B (λ_=>I (b_ hf.1) (A ⟨rfl,(C2.all ⟨ω,hi⟩).and.andNot⟩)) λ_=>A ⟨rfl,(C2.all ⟨ω,hi⟩).and⟩
 ·obtain⟨u,t,w⟩:=y
  obtain⟨e,hn⟩:=hy;change t=_ at e;subst e;exact A ⟨_,rfl,h.ca.or hn⟩
omit hf
theorem Ac5(w:Int):H (BN w b.C0 b.E0 b.H0 b.M0 b.J0 b.L0 b.N0 b.B0 car x.V1 x.E1 x.Y0 x.N1 x.H1 x.K1 x.D1 x.T0 x.X0 x.Q0 x.Y1 x.X2 x.I3 x.Z2 f l d k c) λy=>∃c' t' f' cm,y.2.1=Ql b car { x with T0:=c',X0:=t',Q0:=f' } f l d k cm∧M3 b.C0 c' t' f'∧(y.1.1=E→MZ (c',t',f',()))∧(x.T0=0→w=0→l=E→MZ (c',t',f',())):=by
 have lo:=hb.lo;have hi:=hb.hi;unfold BN;exact C (Ajp ⟨ω,hi⟩ ..) λy hy=>A ⟨_,_,_,_,rfl,hy.1,hy.2.1,hy.2.2⟩
omit hb in
theorem Bgo{c' t' f':Int}(x:aB)(h:MZ (c',t',f',())):Mz { x with T0:=c',X0:=t',Q0:=f' }:=by
 unfold MZ at h;simp only[g0_]at h;exact⟨h.1,h.2.1,h.2.2.1⟩
theorem Alo(h:Sx b.C0 x):H (DD b.C0 b.E0 b.H0 b.M0 b.J0 b.L0 b.N0 b.B0 car x.V1 x.E1 x.Y0 x.N1 x.H1 x.K1 x.D1 x.T0 x.X0 x.Q0 x.Y1 x.X2 x.I3 x.Z2 f l d k c) λy=>∃x' c',y.2.1=Ql b car x' f l d k c'∧Sx b.C0 x'∧x'.Y0=x.Y0∧(y.1.1=E→Mz x'):=by
 unfold DD;refine C (Q:=λy=>y.2.1=Ql b car x f l d k c∧(y.1.2.1=E→Mz x)) (B (λq=>A ⟨rfl,λ_=>(Am2 x).1 q⟩) λ_=>A ⟨rfl,λq=>(by cases q)⟩) ?_
 rintro⟨u,t,w⟩ ⟨e,h1⟩;change t=_ at e;subst e;refine B (λq=>A ⟨x,c,rfl,h,rfl,λ_=>h1 q⟩) λ_=>?_
 refine C (Q:=λy=>∃x' c',y.2.1=Ql b car x' f l d k c'∧Sx b.C0 x'∧x'.Y0=x.Y0∧(y.1.2.2.1=E→Mz x')) ?_ ?_
 ·refine C (Ac5 hb (x:=x) l d k c 0) ?_
  rintro⟨u2,t2,w2⟩ ⟨c',t',f',cm,e,hm,hs,hz⟩;change t2=_ at e;subst e;have hx':Sx b.C0 { x with T0:=c',X0:=t',Q0:=f' }:=⟨h.sw,h.dr,hm,h.ca,h.sh,h.idle,h.nf⟩
  refine B (λq=>A ⟨_,cm,rfl,hx',rfl,λ_=>Bgo x (hs q)⟩) λ_=>B (λq=>A ⟨_,cm,rfl,hx',rfl,λq2=>Bgo x (hz ?_ rfl q2)⟩) λ_=>A ⟨_,cm,rfl,hx',rfl,λq=>(by cases q)⟩
  simpa using q
 rintro⟨u3,t3,w3⟩ ⟨x',c',e,h',hd,hz⟩;change t3=_ at e;subst e;refine B (λq=>A ⟨x',c',rfl,h',hd,λ_=>hz q⟩) λ_=>?_
 refine C (Q:=λy=>y.2.1=Ql b car x' f l d k c') (B (λ_=>A rfl) λ_=>A rfl) ?_
 rintro⟨u4,t4,w4⟩ e;change t4=_ at e;subst e;exact B (λ_=>A ⟨{ x' with I3:=0 },c',rfl,⟨h'.sw,h'.dr,h'.mt,h'.ca,h'.sh,⟨e1_ 0,show(0:Int)≤1000000 from by decide⟩,h'.nf⟩,hd,λq=>(by cases q)⟩) λ_=>A ⟨x',c',rfl,h',hd,λq=>(by cases q)⟩
omit hb in
theorem i00:(0:Int)≤0∧(0:Int)≤1000000:=by decide
include hf
theorem Aoz(hcar:0≤car∧car<b.B0.length)(h:Sx b.C0 x)(hm:Mz x):H (DM b.C0 b.E0 b.H0 b.M0 b.J0 b.L0 b.N0 b.B0 car x.V1 x.E1 x.Y0 x.N1 x.H1 x.K1 x.D1 x.T0 x.X0 x.Q0 x.Y1 x.X2 x.I3 x.Z2 f l d k c) λy=>∃x' c',y.2.1=Ql b car x' f l d k c'∧Sx b.C0 x'∧Mz x':=by
 unfold DM;refine C (Tz hb l d k c hcar) λy1 _=>C (Aaa ..) λy2 hd=>?_
 refine C (Q:=λy=>∃x' c',y.2.1=Ql b car x' f l d k c'∧Sx b.C0 x'∧Mz x') ?_ ?_
 ·refine B (λ_=>I (b_ hf.1) (A ⟨{ x with Y0:=y2.2.1.1,N1:=y2.2.1.2.1,H1:=y2.2.1.2.2.1,K1:=y2.2.1.2.2.2.1,D1:=y2.2.1.2.2.2.2.1,Y1:=_ },_,rfl,⟨h.sw,hd,h.mt,h.ca.andNot,h.sh,h.idle,h.nf⟩,hm⟩)) λ_=>?_
  refine B (λ_=>A ⟨{ x with Y0:=y2.2.1.1,N1:=y2.2.1.2.1,H1:=y2.2.1.2.2.1,K1:=y2.2.1.2.2.2.1,D1:=y2.2.1.2.2.2.2.1,X2:=0 },_,rfl,⟨h.sw,hd,h.mt,h.ca,dir2.zero,h.idle,h.nf⟩,hm⟩) λ_=>?_
  exact A ⟨{ x with Y0:=y2.2.1.1,N1:=y2.2.1.2.1,H1:=y2.2.1.2.2.1,K1:=y2.2.1.2.2.2.1,D1:=y2.2.1.2.2.2.2.1 },_,rfl,⟨h.sw,hd,h.mt,h.ca,h.sh,h.idle,h.nf⟩,hm⟩
 rintro⟨u,t,w⟩ ⟨x',c',e,h',hz⟩;change t=_ at e;subst e;exact A ⟨{ x' with I3:=0 },c',rfl,⟨h'.sw,h'.dr,h'.mt,h'.ca,h'.sh,i00,h'.nf⟩,hz⟩
def CtP(b:N)(car f:Int)(l:Bool)(d:Int)(k:Bool)(t:Pp):Prop:=∃x' c',t=Ql b car x' f l d k c'∧Sy b.C0 x'
def CtS(b:N)(car f:Int)(l:Bool)(d:Int)(k:Bool)(s:(Unit×(Pp×Unit))⊕(Unit×(Pp×Unit))):Prop:=match s with
 | .inl y=>CtP b car f l d k y.2.1
 | .inr y=>CtP b car f l d k y.2.1
omit hf
theorem Aln(hcode:b.code=0)(hcar:0≤car∧car<b.B0.length)(hu hd:Int)(h:Sx b.C0 x)(h0:x.Y0=0)(hm:Mz x):H (DC hu hd b.C0 b.E0 b.H0 b.M0 b.J0 b.L0 b.N0 b.B0 car x.V1 x.E1 x.Y0 x.N1 x.H1 x.K1 x.D1 x.T0 x.X0 x.Q0 x.Y1 x.X2 x.I3 x.Z2 f l d k c) (CtS b car f l d k):=by
 unfold DC;refine C (Ban ..) λy1 hc=>C (Bi0 ..) λy2 hn=>?_
 refine B (λ_=>?_) λ_=>?_
 ·refine C (Tz hb (x:={ x with V1:=y2.2.1.1,E1:=y2.2.1.2.1,X2:=y1.2.1.2.2.1,I3:=0 }) l d k c hcar) λy3 _=>C (Aaa ..) λy4 hd=>A ?_
  exact⟨{ x with V1:=y2.2.1.1,E1:=y2.2.1.2.1,X2:=y1.2.1.2.2.1,I3:=0,Y0:=y4.2.1.1,N1:=y4.2.1.2.1,H1:=y4.2.1.2.2.1,K1:=y4.2.1.2.2.2.1,D1:=y4.2.1.2.2.2.2.1 },_,rfl,⟨hn,hd,h.mt,h.ca,hc.2,i00,h.nf⟩,.inr hm⟩
 have st:∀(w i:Int),(0≤i∧i≤1000000)→H (BN w b.C0 b.E0 b.H0 b.M0 b.J0 b.L0 b.N0 b.B0 car y2.2.1.1 y2.2.1.2.1 x.Y0 x.N1 x.H1 x.K1 x.D1 x.T0 x.X0 x.Q0 x.Y1 x.X2 i x.Z2 f l d k c) λy=>CtP b car f l d k y.2.1:=λw i hi=>by
  refine(Ac5 hb (x:={ x with V1:=y2.2.1.1,E1:=y2.2.1.2.1,I3:=i }) l d k c w).mono ?_
  rintro⟨u,t,w⟩ ⟨c',t',f',cm,e,hm,_⟩;change t=_ at e;subst e;exact⟨_,cm,rfl,⟨hn,h.dr,hm,h.ca,h.sh,hi,h.nf⟩,.inl h0⟩
 refine B (λ_=>C (st _ _ i00) λ_ h=>A h) λ_=>B (λ_=>C (st _ _ i00) λ_ h=>A h) λ_=>?_
 have hv:AU b.C0 b.E0 b.H0 b.M0 b.J0 b.L0 b.N0 b.B0=J ((b.code,()),()):=Bi ..;refine C (Apa hcode hv ..) λy7 _=>B (λ_=>C (st _ _ h.idle) λ_ h=>A h) λ_=>A ?_
 exact⟨{ x with V1:=y2.2.1.1,E1:=y2.2.1.2.1,I3:=up1 x.I3 },0,rfl,⟨hn,h.dr,h.mt,h.ca,h.sh,Ki h.idle,h.nf⟩,.inl h0⟩
omit hb in
theorem Bpx:∀(o:Fin 8),0≤aC.wrap (stk ((o.val:Nat):Int) 1 (aG ((aA (IntKind.bits aC) ((o.val:Nat):Int))|||(aA (IntKind.bits aC) 1))))∧aC.wrap (stk ((o.val:Nat):Int) 1 (aG ((aA (IntKind.bits aC) ((o.val:Nat):Int))|||(aA (IntKind.bits aC) 1))))≤7:=by decide
include hf
theorem Ayj(hcode:b.code=0)(hcar:0≤car∧car<b.B0.length)(p hu hd:Int)(h:Sy b.C0 x):H (ED p hu hd b.C0 b.E0 b.H0 b.M0 b.J0 b.L0 b.N0 b.B0 car x.V1 x.E1 x.Y0 x.N1 x.H1 x.K1 x.D1 x.T0 x.X0 x.Q0 x.Y1 x.X2 x.I3 x.Z2 f l d k c) (CtS b car f l d k):=by
 unfold ED;refine C (Ao0 hb hf l d k c p h.1) ?_;rintro⟨u,t,w⟩ ⟨n,e,hn⟩;change t=_ at e;subst e;have h1:Sx b.C0 { x with Y1:=n }:=⟨h.1.sw,h.1.dr,h.1.mt,hn,h.1.sh,h.1.idle,h.1.nf⟩
 refine C (Q:=λy=>∃x' c',y.2.2.1=Ql b car x' f l d k c'∧Sy b.C0 x'∧(y.1.2.2.1=L→Mz x')) ?_ ?_
 ·refine B (λq=>?_) λq=>A ⟨_,c,rfl,⟨h1,h.2⟩,λ_=>h.2.resolve_left (by simpa using q)⟩
  refine C (Alo hb l d k c h1) ?_;rintro⟨u2,t2,w2⟩ ⟨x',c',e,h',hd,hz⟩;change t2=_ at e;subst e;exact A ⟨x',c',rfl,⟨h',.inl (hd.trans (by simpa using q))⟩,λq=>hz (by simpa using q)⟩
 rintro⟨u3,u3b,t3,w3⟩ ⟨x',c',e,h',hz⟩;change t3=_ at e;subst e;refine B (λ_=>A ⟨x',c',rfl,h'⟩) λq=>?_
 have hz:=hz q;refine C (Q:=λy=>∃x' c',y.2.2.1=Ql b car x' f l d k c'∧Sx b.C0 x'∧Mz x') ?_ ?_
 ·refine C (Q:=λy=>y.2.2.1=Ql b car x' f l d k c') (B (λ_=>A rfl) λ_=>A rfl) ?_
  rintro⟨u4,u4b,t4,w4⟩ e;change t4=_ at e;subst e;refine B (λ_=>A ⟨{ x' with E1:=_,Y0:=1,N1:=0,H1:=0,K1:=L,D1:=0,X2:=0 },c',rfl,⟨⟨h'.1.sw.1,?_⟩,D5.one,h'.1.mt,h'.1.ca,dir2.zero,h'.1.idle,h'.1.nf⟩,hz⟩) λ_=>A ⟨x',c',rfl,h'.1,hz⟩
  have h5a:=h'.1.sw.2.1;have h5b:=h'.1.sw.2.2
  have:=Bpx ⟨x'.E1.toNat,ω⟩
  simp only[f3_ h5a]at this;exact this
 rintro⟨u5,u5b,t5,w5⟩ ⟨x5,c5,e,h5,hz5⟩;change t5=_ at e;subst e;refine B (λ_=>?_) λq=>?_
 ·refine C (Aoz hb hf l d k c5 hcar h5 hz5) ?_
  rintro⟨u6,t6,w6⟩ ⟨x6,c6,e,h6,hz6⟩;exact A ⟨x6,c6,e,h6,.inr hz6⟩
 ·refine C (Q:=λ(y:Unit×(Pp×Unit))=>CtP b car f l d k y.2.1) ?_ λ_ h=>A h
  refine C (Aln hb l d k c5 hcode hcar _ _ h5 (by simpa using q) hz5) λy7 h7=>?_
  cases y7 with
  |inl _=>exact A h7
  |inr _=>exact A h7
end
def Ao3{a b c:Int}{d:Bool}{e:Int}(h:D5 a b c d e):H (Nl a b c d e) λy=>letI f:=y.2.1.2;D5 y.2.1.1 f.1 f.2.1 f.2.2.1 f.2.2.2.1∧(a=0→y.2.1.1=0):=by
 by_cases g:a=0
 ·obtain⟨h1,h2,h3,h4,h5⟩:a=0∧b=0∧c=0∧d=L∧e=0:=h.resolve_right λq=>absurd g ω
  subst h1 h2 h3 h4 h5;exact⟨_,rfl,D5.zero,λ_=>rfl⟩
 ·exact(Ao2 h).mono λ_ q=>⟨q,λq=>absurd q g⟩
def Ajo{c t f:Int}(h:M3 fl c t f):H (KV c t f) λy=>M3 fl y.2.1.1 y.2.1.2.1 y.2.1.2.2.1∧(c=0∧t=0∧f=0→MZ y.2.1):=by
 by_cases g:c=0∧t=0∧f=0
 ·obtain⟨h1,h2,h3⟩:=g
  subst h1 h2 h3;exact⟨_,rfl,M3.zero,λ_=>rfl⟩
 ·exact(Ajn h).mono λ_ q=>⟨q,λq=>absurd q g⟩
@[reducible] def Bbl(x:aB):Aap:=(x.V1,x.E1,x.Y0,x.N1,x.H1,x.K1,x.D1,x.T0,x.X0,x.Q0,x.Y1,x.X2,x.I3,x.Z2,())
def Bam(b:N)(t:Aap):Prop:=∃x,t=Bbl x∧EN b x=E
def Sy.zero:Sy fl AX:=⟨⟨S2.zero dir2.zero,D5.zero,M3.zero,C2.zero,dir2.zero,i00,rfl⟩,.inl rfl⟩
def Aah(b:N):EN b { AX with Z2:=E }=E:=rfl
section
variable{b:N}(hb:b.small)
include hb
theorem MW:EN b AX=E:=(VK hb rfl).2 Sy.zero
theorem Ai7(c0 c1 c2 c3 c4 c5 c6 c7 c8:Int)(h:Sy b.C0 x)(n:Int):H (HT c0 c1 c2 c3 c4 c5 c6 c7 c8 x.V1 x.E1 x.Y0 x.N1 x.H1 x.K1 x.D1 x.T0 x.X0 x.Q0 x.Y1 x.X2 x.I3 x.Z2 n) λy=>Bam b y.2.1:=by
 unfold HT;refine C (Ao1 ..) λy1 _=>B (λ_=>A ⟨{ AX with Z2:=E },rfl,Aah b⟩) λ_=>?_
 exact C (Ajm ..) λy2 _=>B (λ_=>A ⟨{ AX with Z2:=E },rfl,Aah b⟩) λ_=>A ⟨x,rfl,(VK hb h.1.nf).2 h⟩
variable(hcode:b.code=0)(car:Int)(x:aB)
include hcode
theorem Amh:JI b.C0 b.E0 b.H0 b.M0 b.J0 b.L0 b.N0 b.B0 car x.V1 x.E1 x.Y0 x.N1 x.H1 x.K1 x.D1 x.T0 x.X0 x.Q0 x.Y1 x.X2 x.I3 x.Z2=J ((EN b x&&(decide (0≤car)&&decide (car<(b.B0.length:Int))),()),()):=by
 unfold JI;rw[Jy hb hcode];simp only[a_];cases EN b x<;>cases decide (0≤car)<;>rfl
theorem Ajq(f:Int)(l:Bool)(d:Int)(k:Bool)(p hu hd:Int):H (NB b.C0 b.E0 b.H0 b.M0 b.J0 b.L0 b.N0 b.B0 car x.V1 x.E1 x.Y0 x.N1 x.H1 x.K1 x.D1 x.T0 x.X0 x.Q0 x.Y1 x.X2 x.I3 x.Z2 f l d k p hu hd) λy=>Bam b y.2.1:=by
 unfold NB;refine O (Amh hb hcode car x) (B (λ_=>A ⟨AX,rfl,MW hb⟩) λq=>?_)
 have q:EN b x=E∧0≤car∧car<(b.B0.length:Int):=by
  have q:(EN b x&&(decide (0≤car)&&decide (car<(b.B0.length:Int))))=E:=by simpa only[Bool.not_eq_false']using q
  simpa only[e_,t_]using q
 obtain⟨hx,hcar⟩:=q;refine C (Q:=λy=>y.1.1=E→0≤f∧f<b.C0) ?_ λy2 h2=>?_
 ·unfold Ls
  refine C (Q:=λy=>y.1.1=E→0≤f∧f<b.C0) ?_ λ_ h=>A h
  refine B (λa=>B (λc=>B (λ_=>A λ_=>⟨m_ a,m_ c⟩) λ_=>A λg=>(by cases g)) λ_=>A λg=>(by cases g)) λ_=>A λg=>(by cases g)
 refine B (λ_=>A ⟨AX,rfl,MW hb⟩) λq2=>B (λ_=>A ⟨x,rfl,hx⟩) λhf=>?_
 have hff:=h2 (by simpa using q2)
 refine C (Q:=λ(y:(Unit×Unit×Unit×Unit)×(Aap×Aap×Pp×Unit))=>CtP b car f l d k y.2.2.2.1) (C (Ayj hb hff l d k 0 hcode hcar p hu hd ((VK hb hf).1 hx)) λy3 h3=>?_) ?_
 ·cases y3 with
  |inl _=>exact A h3
  |inr _=>exact A h3
 rintro⟨u,v,w,t,z⟩ ⟨x',c',e,h'⟩;change t=_ at e;subst e;exact C (Tz hb (x:=x') l d k c' hcar) λy6 _=>C (Ai7 hb _ _ _ _ _ _ _ _ _ h' c') λy7 h7=>A h7
theorem Agi:H (MF b.C0 b.E0 b.H0 b.M0 b.J0 b.L0 b.N0 b.B0 car x.V1 x.E1 x.Y0 x.N1 x.H1 x.K1 x.D1 x.T0 x.X0 x.Q0 x.Y1 x.X2 x.I3 x.Z2) λy=>Bam b y.2.1:=by
 unfold MF;refine O (Amh hb hcode car x) (B (λ_=>A ⟨AX,rfl,MW hb⟩) λq=>?_)
 have q:EN b x=E∧0≤car∧car<(b.B0.length:Int):=by
  have q:(EN b x&&(decide (0≤car)&&decide (car<(b.B0.length:Int))))=E:=by simpa only[Bool.not_eq_false']using q
  simpa only[e_,t_]using q
 obtain⟨hx,hcar⟩:=q;refine B (λ_=>A ⟨x,rfl,hx⟩) λhf=>?_
 have h:=(VK hb hf).1 hx;refine C (Ao3 h.1.dr) λy2 h2=>C (Ajo h.1.mt) λy3 h3=>I (Ac hcar.1 hcar.2) ?_
 refine C (Ai7 hb _ _ _ _ _ _ _ _ _ (x:={ x with Y0:=y2.2.1.1,N1:=y2.2.1.2.1,H1:=y2.2.1.2.2.1,K1:=y2.2.1.2.2.2.1,D1:=y2.2.1.2.2.2.2.1,T0:=y3.2.1.1,X0:=y3.2.1.2.1,Q0:=y3.2.1.2.2.1 }) ⟨⟨h.1.sw,h2.1,h3.1,h.1.ca,h.1.sh,h.1.idle,h.1.nf⟩,?_⟩ 0) λy4 h4=>A h4
 refine h.2.imp (λg=>h2.2 g) λg=>?_
 have e:=h3.2 g;unfold MZ at e;show y3.2.1.1=0∧y3.2.1.2.1=0∧y3.2.1.2.2.1=0;rw[e];exact⟨rfl,rfl,rfl⟩
theorem Agk(f:Int)(l:Bool)(d:Int)(k:Bool):H (JH b.C0 b.E0 b.H0 b.M0 b.J0 b.L0 b.N0 b.B0 x.V1 x.E1 x.Y0 x.N1 x.H1 x.K1 x.D1 x.T0 x.X0 x.Q0 x.Y1 x.X2 x.I3 x.Z2 f l d k) λ_=>True:=by
 unfold JH;have i:SatT (DU b.C0 b.E0 b.H0 b.M0 b.J0 b.L0 b.N0 b.B0 x.V1 x.E1 x.Y0 x.N1 x.H1 x.K1 x.D1 x.T0 x.X0 x.Q0 x.Y1 x.X2 x.I3 x.Z2):=⟨⟨_,Jy hb hcode x,trivial⟩⟩;exact Sat.go
end
def U2(a c:Int):Prop:=(0≤a∧a<4294967296)∧0≤c∧c<4294967296
def U2.zero:U2 0 0:=by unfold U2;decide
def U2.fst:U2 (aD aF n) 0:=⟨HG n,by decide⟩
def U2.snd:U2 0 (aD aF n):=⟨by decide,HG n⟩
instance isFloors_ti(n:Int):SatT (Fs n):=⟨by unfold Fs;exact Sat.go⟩
instance isObs_ti(n a c d:Int):SatT (FK n a c d):=⟨by unfold FK;exact Sat.go⟩
def Ni(n a c d:Int):H (FL n a c d) λy=>U2 y.2.1.1 y.2.1.2.1:=by
 unfold FL;refine C (isObs_ti n a c d).out λ_ _=>B (λ_=>A U2.zero) λ_=>B (λ_=>A U2.zero) λ_=>B (λ_=>A U2.zero) λh=>?_
 have h0:0≤a:=by have:=F_ h;omega
 refine C (Q:=λy=>y.2.1.1=a) (B (λ_=>A rfl) λ_=>A rfl) λy2 h2=>?_
 refine B (λ_=>I (b_ (h2▸h0)) (A U2.fst)) λ_=>?_
 refine C (Q:=λy=>y.2.1.1=a) (B (λ_=>A h2) λ_=>A h2) λy3 h3=>?_
 exact B (λ_=>I (b_ (h3▸h0)) (A U2.snd)) λ_=>A U2.zero
def Agj(hb:b.small)(hcode:b.code=0)(x:aB)(f:Int)(l:Bool)(d:Int)(k:Bool):H (MG b.C0 b.E0 b.H0 b.M0 b.J0 b.L0 b.N0 b.B0 x.V1 x.E1 x.Y0 x.N1 x.H1 x.K1 x.D1 x.T0 x.X0 x.Q0 x.Y1 x.X2 x.I3 x.Z2 f l d k) λy=>U2 y.2.1.1 y.2.1.2.1:=by
 unfold MG;refine O (Jy hb hcode x) (B (λ_=>A U2.zero) λ_=>B (λ_=>A U2.zero) λ_=>B (λ_=>A U2.zero) λ_=>B (λ_=>A U2.zero) λ_=>?_)
 exact C (Ni ..) λ_ h=>A h
instance pair_ti(a c:Bool):SatT (HP a c 0 1 2 3):=⟨by cases a<;>cases c<;>exact⟨_,rfl,trivial⟩⟩
def Azr(a c:Bool):H (HP a c 0 1 2 3) λy=>0≤y.1.1∧y.1.1≤3:=by cases a<;>cases c<;>exact⟨_,rfl,by decide⟩
def dK(e:Duty):Int:=4*e.D0+e.I0
structure DutOK(b:Bldg)(D:Int)(l:List Duty):Prop where
 each:∀e∈l,Am b e.D0 e.I0=true∧0≤e.C5∧e.C5≤D
 sort:l.Pairwise λa c=>dK a<dK c
def DutOK.nil:DutOK b D []:=⟨λ_ h=>(by cases h),List.Pairwise.nil⟩
def Fj(hb:b.small){f d:Int}(h:Am b f d=E):(0≤f∧f<8)∧(1≤d∧d≤2):=by
 have lo:=hb.lo;have hi:=hb.hi;unfold Am NQ inR at h;simp only[e_,Y_,R_,t_]at h;omega
def Yr{a c:Duty}(ha:1≤a.I0∧a.I0≤2)(hc:1≤c.I0∧c.I0≤2):SJ a c=E↔dK a<dK c:=by
 unfold SJ dK;simp only[e_,Y_,R_,t_];omega
def Aar{p:Nat→Bool}:∀m i:Nat,Lw p m i=E→∀k,i≤k→k<i+m→p k=E
 |0,_,_,k,h1,h2=>by omega
 |m+1,i,h,k,h1,h2=>by
  simp only[Lw,e_]at h;rcases g2_ i k with g | g
  ·exact Aar m (i+1) h.2 k ω ω
  ·obtain rfl:k=i:=ω
   exact h.1
def Xx{l:List Duty}(h:∀i,i+1<l.length→dK (l.getD i DH)<dK (l.getD (i+1) DH)):∀i k:Nat,i+1+k<l.length→dK (l.getD i DH)<dK (l.getD (i+1+k) DH)
 |i,0,hk=>h i hk
 |i,k+1,hk=>Int.lt_trans (Xx h i k ω) (h (i+1+k) ω)
def gD(h:i<l.length):l.getD i DH=l[i]:=by
 simp only[k_,j_ h,Option.getD_some]
def Bhi(hb:b.small)(x:Belief):Lw (Ya b car x) x.U0.length 0=E↔DutOK b (HY b car).I1 x.U0:=by
 constructor
 ·intro h
  have h:=Aar _ _ h
  have hp:∀i,i<x.U0.length→Am b (x.U0.getD i DH).D0 (x.U0.getD i DH).I0=E∧(0≤(x.U0.getD i DH).C5∧(x.U0.getD i DH).C5≤(HY b car).I1)∧(i=0∨SJ (x.U0.getD (i-1) DH) (x.U0.getD i DH)=E):=λi hi=>by
   have h:=h i ω ω
   unfold Ya As4 inR at h;simpa only[e_,Y_,R_,t_]using h
  refine⟨λe he=>?_,?_⟩
  ·obtain⟨i,hi,rfl⟩:=List.mem_iff_getElem.1 he
   have:=hp i hi
   rw[gD hi]at this;exact⟨this.1,this.2.1⟩
  ·rw[b3_]
   intro i j hi hj hij
   have:=Xx (l:=x.U0) (λi hi=>by
    have h1:=hp (i+1) hi;have h0:=hp i ω
    have h2:=h1.2.2.resolve_left ω
    exact(Yr (Fj hb h0.1).2 (Fj hb h1.1).2).1 h2) i (j-i-1) ω
   rw[show i+1+(j-i-1)=j by omega,gD hi,gD hj]at this
   exact this
 ·intro h
  refine Rm _ _ λk _ hk=>?_
  have hk:k<x.U0.length:=ω
  have h1:=h.each _ (b2_ hk);unfold Ya As4 inR;simp only[e_,Y_,R_,t_,gD hk];refine⟨h1.1,h1.2,?_⟩;by_cases k0:k=0
  ·exact .inl k0
  ·have hj:k-1<x.U0.length:=ω
   rw[gD hj];have h0:=h.each _ (b2_ hj);exact .inr ((Yr (Fj hb h0.1).2 (Fj hb h1.1).2).2 (b3_.1 h.sort _ _ hj hk ω))
def DutOK.len(hb:b.small)(h:DutOK b D l):l.length≤30:=by
 have key:∀i (hi:i<l.length),(i:Int)+1≤dK l[i]:=λi=>by
  induction i with
  |zero=>
   intro hi
   have:=Fj hb (h.each _ (b2_ hi)).1
   unfold dK;omega
  |succ i ih=>
   intro hi;have h1:=ih ω
   have h2:=b3_.1 h.sort i (i+1) ω hi ω
   omega
 rcases Nat.eq_zero_or_pos l.length with g | g
 ·omega
 ·have hi:l.length-1<l.length:=ω
  have h1:=key _ hi
  have:=Fj hb (h.each _ (b2_ hi)).1
  unfold dK at h1;omega
def DutOK.push{e:Duty}(h:DutOK b D l)(h1:Am b e.D0 e.I0=E∧0≤e.C5∧e.C5≤D)(h2:∀a∈l,dK a<dK e):DutOK b D (l++[e]):=by
 refine⟨λx hx=>?_,f9_.2 ⟨h.sort,List.pairwise_singleton ..,λa ha c hc=>?_⟩⟩
 ·rcases q_.1 hx with g | g
  ·exact h.each x g
  ·rw[P_.1 g];exact h1
 ·rw[P_.1 hc];exact h2 a ha
def Axz(hb:b.small)(hD:D≤1000000000)(h:DutOK b D l)(u d:Int):H (KT l D u d) λy=>DutOK b D y.1.1∧(y.1.2.1=E→y.1.1=[]):=by
 have hl:=h.len hb;unfold KT LI;refine C (Q:=λy=>match y with | .inl z=>DutOK b D z.1.1 | .inr z=>z.1.1=[]) (Sat.loop (λk x=>∃(out:List Duty) (i:Nat),x=((D,(),out,l,(l.length:Int),(i:Int),()),((u,d,()),()))∧i+k=l.length∧DutOK b D out∧∀a∈out,∀j (hj:j<l.length),i≤j→dK a<dK l[j]) ?_ l.length ⟨[],0,rfl,ω,.nil,λa ha=>by cases ha⟩ ω) ?_
 ·rintro k x ⟨out,i,rfl,hk,ho,ha⟩
  show H (Pj D out l (l.length:Int) (i:Int) u d) _;unfold Pj;refine B (λq=>?_) λ_=>A ho
  have hi:i<l.length:=by have:=m_ q;omega
  have he:=h.each _ (b2_ hi);have hc:=Fj hb he.1;have g:List.getD l (P (i:Int)) (aE 0 0 0)=l[i]:=gD hi;have w:aC.wrap (l[i].C5+1)=l[i].C5+1:=Aa ω ω
  refine I (Ac ω ω) ?_
  simp only[g,w,Dp hi (show l.length≤AG by unfold AG;omega)]
  refine B (λ_=>A rfl) λq2=>?_
  have q2:=F_ q2;refine O (Pz (u,d) (F:=l[i].D0) (D:=l[i].I0) ⟨ω,ω⟩ ω) ?_
  refine B (λ_=>?_) λ_=>A ⟨k-1,ω,out,i+1,rfl,ω,ho,λa m j hj hij=>ha a m j hj ω⟩
  have hp:DutOK b D (out++[aE l[i].D0 l[i].I0 (l[i].C5+1)]):=ho.push ⟨he.1,by show 0≤l[i].C5+1;omega,by show l[i].C5+1≤D;omega⟩ λa m=>ha a m i hi (z_ _)
  have hlen:=ho.len hb;refine I (f7_ (by simp only[C_,d5_];omega)) (A ⟨k-1,ω,_,i+1,rfl,ω,hp,λa m j hj hij=>?_⟩)
  rcases q_.1 m with m | m
  ·exact ha a m j hj ω
  ·rw[P_.1 m]
   exact b3_.1 h.sort i j hi hj ω
 ·intro y hy
  cases y with
  |inl z=>exact A ⟨hy,λq=>by cases q⟩
  |inr z=>exact A ⟨by show DutOK b D z.1.1;rw[show z.1.1=[]from hy];exact .nil,λ_=>hy⟩
structure BelOK(b:Bldg)(car:Nat)(x:Belief):Prop where
 fl:-1≤x.D0∧x.D0≤b.C0-1
 dir:0≤x.I0∧x.I0≤3
 door:0≤x.E3∧x.E3≤3
 still:0≤x.V2∧x.V2≤1000000
 late:x.N3=true→x.U0=[]
 dut:DutOK b (HY b car).I1 x.U0
@[reducible] def Bbb(x:Belief):GQ:=(x.D0,x.I0,x.E3,x.U0,x.V2,x.N3,())
def Ari(b:N)(car:Nat)(t:GQ):Prop:=∃x,t=Bbb x∧BelOK b car x
section
variable{b:N}(hb:b.small)
include hb
theorem Ag8{x:Belief}:Pt b car x=E↔BelOK b car x:=by
 unfold Pt inR;simp only[e_,t_,Bhi hb,a8_,Bool.and_eq_false_imp,decide_eq_false_iff_not];constructor
 ·rintro⟨h1,h2,h3,h4,h5,h6⟩
  exact⟨h1,h2,h3,h4,λq=>List.length_eq_zero_iff.1 (by have:=h5 q;omega),h6⟩
 ·intro h
  exact⟨h.fl,h.dir,h.door,h.still,λq=>(by rw[h.late q];decide),h.dut⟩
theorem BelOK.zero:BelOK b car ⟨0,0,0,[],0,L⟩:=by
 have:=hb.lo
 exact⟨⟨by decide,show(0:Int)≤b.C0-1 by omega⟩,by decide,by decide,by decide,λ_=>rfl,.nil⟩
variable(hcode:b.code=0){car:Nat}(hcar:car<b.B0.length){x:Belief}(h:BelOK b car x)
include hcode hcar h
theorem IF:Co b.C0 b.E0 b.H0 b.M0 b.J0 b.L0 b.N0 b.B0 (car:Int) x.D0 x.I0 x.E3 x.U0 x.V2 x.N3=J ((E,()),()):=by
 rw[RX hb hcode hcar x (c8_ (h.dut.len hb) (by decide)),(Ag8 hb).2 h]
theorem Ak5:(HY b car).I1≤1000000000:=by
 have:=Ahd hcode (c:=HY b car) (by unfold HY;rw[k_,j_ hcar];exact b2_ hcar)
 omega
theorem Aff:H (Mt b.C0 b.E0 b.H0 b.M0 b.J0 b.L0 b.N0 b.B0 (car:Int) x.D0 x.I0 x.E3 x.U0 x.V2 x.N3) λy=>Ari b car y.2.1:=by
 unfold Mt;refine O (IF hb hcode hcar h) (Sat.bifF rfl (I (Ac ω ω) ?_))
 refine C (Axz hb (Ak5 hb hcode hcar h) h.dut 0 0) λy2 h2=>A ⟨⟨x.D0,x.I0,x.E3,y2.1.1,0,y2.1.2.1⟩,rfl,⟨h.fl,h.dir,h.door,?_,h2.2,h2.1⟩⟩
 exact show(0:Int)≤0∧(0:Int)≤1000000 from by decide
theorem Acr:H (IK b.C0 b.E0 b.H0 b.M0 b.J0 b.L0 b.N0 b.B0 (car:Int) x.D0 x.I0 x.E3 x.U0 x.V2 x.N3) λy=>Ari b car y.2.1:=by
 unfold IK;refine O (IF hb hcode hcar h) (Sat.bifF rfl (A ⟨⟨x.D0,x.I0,x.E3,[],0,L⟩,rfl,⟨h.fl,h.dir,h.door,?_,λ_=>rfl,.nil⟩⟩))
 exact show(0:Int)≤0∧(0:Int)≤1000000 from by decide
theorem Afg:H (Mu b.C0 b.E0 b.H0 b.M0 b.J0 b.L0 b.N0 b.B0 (car:Int) x.D0 x.I0 x.E3 x.U0 x.V2 x.N3) λ_=>True:=by
 unfold Mu;refine C (Q:=λ_=>True) (O (IF hb hcode hcar h) (I rfl ?_)) λ_ _=>A trivial
 exact B (λ_=>B (λ_=>I (Ac ω ω) (A trivial)) λ_=>A trivial) λ_=>A trivial
theorem Aat(o p q:Int):H (Km b.C0 b.E0 b.H0 b.M0 b.J0 b.L0 b.N0 b.B0 (car:Int) x.D0 x.I0 x.E3 x.U0 x.V2 x.N3 o p q) λy=>Ari b car y.2.1:=by
 unfold Km;refine O (IF hb hcode hcar h) (Sat.bifF rfl ?_);refine C (Q:=λy=>y.1.1=E→(-1≤o∧o≤b.C0-1)∧(0≤p∧p≤3)∧0≤q∧q≤3) ?_ λy2 h2=>?_
 ·unfold FK
  refine C (Q:=λy=>y.1.1=E→(-1≤o∧o≤b.C0-1)∧(0≤p∧p≤3)∧0≤q∧q≤3) ?_ λ_ h=>A h
  refine C (isFloors_ti _).out λ_ _=>B (λ_=>?_) λ_=>A λg=>(by cases g)
  refine B (λg1=>?_) λ_=>A λg=>(by cases g)
  refine B (λg2=>?_) λ_=>A λg=>(by cases g)
  refine B (λg3=>?_) λ_=>A λg=>(by cases g)
  refine B (λg4=>?_) λ_=>A λg=>(by cases g)
  refine B (λg5=>A λg6=>?_) λ_=>A λg=>(by cases g)
  have g2:=m_ g2;exact⟨⟨m_ g1,ω⟩,⟨m_ g3,m_ g4⟩,m_ g5,m_ g6⟩
 refine B (λ_=>A ⟨⟨0,0,0,[],0,L⟩,rfl,BelOK.zero hb⟩) λk=>I (Ac ω ω) ?_
 obtain⟨ho,hp,hq⟩:=h2 (by simpa using k)
 refine C (Ni ..) λy3 _=>C (Axz hb (Ak5 hb hcode hcar h) h.dut _ _) λy4 h4=>?_
 have i0:(0:Int)≤0∧(0:Int)≤1000000:=by decide
 refine C (Q:=λ(y:(Unit×Unit×Unit×Int×Unit)×(GQ×(Int×Int×Int×Unit)×GQ×Unit))=>(y.2.1=Bbb ⟨x.D0,x.I0,x.E3,y4.1.1,x.V2,y4.1.2.1⟩∧y.2.2.1=(o,p,q,()))∧0≤y.1.2.2.2.1∧y.1.2.2.2.1≤1000000) ?_ ?_
 ·refine C (Q:=λy=>(y.2.1=Bbb ⟨x.D0,x.I0,x.E3,y4.1.1,x.V2,y4.1.2.1⟩∧y.2.2.1=(o,p,q,()))∧y.1.2.2.2.1=0) ?_ ?_
  ·exact B (λ_=>B (λ_=>A ⟨⟨rfl,rfl⟩,rfl⟩) λ_=>A ⟨⟨rfl,rfl⟩,rfl⟩) λ_=>A ⟨⟨rfl,rfl⟩,rfl⟩
  ·intro y5 h5
   refine B (λ_=>A ⟨h5.1,?_⟩) λ_=>A ⟨h5.1,?_⟩
   ·rw[h5.1.1];exact Ki h.still
   ·show 0≤y5.1.2.2.2.1∧y5.1.2.2.2.1≤1000000
    rw[h5.2];exact i0
 rintro⟨⟨a1,a2,a3,n,a4⟩,t,v,w,z⟩ ⟨⟨e1,e2⟩,hn⟩;change t=_ at e1;change v=_ at e2;subst e1 e2;exact Sat.bindC (λ_=>Sat.bindR (A ⟨⟨o,p,q,y4.1.1,n,y4.1.2.1⟩,rfl,⟨ho,hp,hq,hn,h4.2,h4.1⟩⟩)) λ_=>Sat.bindR (A ⟨⟨x.D0,p,q,y4.1.1,n,y4.1.2.1⟩,rfl,⟨h.fl,hp,hq,hn,h4.2,h4.1⟩⟩)
end
def Bup(a c:Duty):∃n:Int,Da a.D0 a.I0 a.C5 c.D0 c.I0 c.C5=J ((n,()),())∧(n<0↔SJ a c=E)∧(n=0↔a.D0=c.D0∧a.I0=c.I0):=by
 unfold Da;rw[HN,HN];simp only[a_];rw[XT];refine⟨_,rfl,?_⟩;unfold SJ Wi;by_cases h1:a.D0<c.D0
 ·simp[h1];omega
 ·by_cases h2:c.D0<a.D0
  ·simp[h1,h2];omega
  ·by_cases h3:a.I0<c.I0
   ·simp[h1,h2,h3];omega
   ·by_cases h4:c.I0<a.I0
    ·simp[h1,h2,h3,h4];omega
    ·simp[h1,h2,h3,h4];omega
def Bm6{j:Nat}(h:i+j<9223372036854775808):aC.wrap (Int.fdiv (aD IntKind.u64 (aD aC ((i:Int)+(j:Int)))) ((2:Int)^(Min.min (P (1:Int)) (IntKind.bits IntKind.u64))))=(((i+j)/2:Nat):Int):=Ah2 h
section
variable{b:N}(hb:b.small){D:Int}{l:List Duty}(h:DutOK b D l){F Dr:Int}(hD:1≤Dr∧Dr≤2)
include hb h hD
theorem Ap2(hi:i<l.length):∃n:Int,Da l[i].D0 l[i].I0 l[i].C5 F Dr 0=J ((n,()),())∧(n<0↔dK l[i]<4*F+Dr)∧(n=0↔dK l[i]=4*F+Dr):=by
 obtain⟨n,h1,h2,h3⟩:=Bup l[i] (aE F Dr 0);have hc:=Fj hb (h.each _ (b2_ hi)).1;refine⟨n,h1,h2.trans (Yr hc.2 hD),h3.trans ?_⟩;unfold dK;simp only;omega
theorem Bdm:H (Ar ((l,(),(),(l.length:Int),0,(l.length:Int),()),((F,Dr,0,()),()))) λy=>∃p:Nat,y=((l,(),(),(l.length:Int),(p:Int),()),((F,Dr,0,()),()))∧p≤l.length∧(∀i (hi:i<l.length),i<p→dK l[i]<4*F+Dr)∧∀i (hi:i<l.length),p≤i→4*F+Dr≤dK l[i]:=by
 have hl:=h.len hb;unfold Ar;refine Sat.loop (λk x=>∃i j:Nat,x=((l,(),(),(l.length:Int),(i:Int),(j:Int),()),((F,Dr,0,()),()))∧j≤i+k∧i≤j∧j≤l.length∧(∀a (ha:a<l.length),a<i→dK l[a]<4*F+Dr)∧∀a (ha:a<l.length),j≤a→4*F+Dr≤dK l[a]) ?_ l.length ⟨0,l.length,rfl,ω,ω,ω,λa _ g=>by omega,λa _ g=>by omega⟩ ω
 rintro k x ⟨i,j,rfl,hk,hij,hj,h1,h2⟩;show H (Ba l (l.length:Int) (i:Int) (j:Int) F Dr 0) _;unfold Ba;refine B (λq=>?_) λq=>A ?_
 ·have q:=m_ q
  have hm:(i+j)/2<l.length:=ω
  rw[Bm6 ω]
  refine I (Ac ω ω) ?_
  have g:List.getD l (P (((i+j)/2:Nat):Int)) (aE 0 0 0)=l[(i+j)/2]:=gD hm;simp only[g,Dp hm (show l.length≤AG by unfold AG;omega)]
  obtain⟨n,c1,c2,c3⟩:=Ap2 hb h (F:=F) hD hm;refine O c1 (B (λg2=>A ⟨k-1,ω,(i+j)/2+1,j,rfl,ω,ω,hj,λa ha g3=>?_,h2⟩) λg2=>A ⟨k-1,ω,i,(i+j)/2,rfl,ω,ω,ω,h1,λa ha g3=>?_⟩)
  ·have:=c2.1 (m_ g2)
   rcases g2_ a ((i+j)/2)with g4 | g4
   ·have:=b3_.1 h.sort a _ ha hm g4
    omega
   ·obtain rfl:a=(i+j)/2:=ω
    exact this
  ·have:¬dK l[(i+j)/2]<4*F+Dr:=λe=>F_ g2 (c2.2 e)
   rcases g2_ ((i+j)/2) a with g4 | g4
   ·have:=b3_.1 h.sort _ a hm ha g4
    omega
   ·obtain rfl:a=(i+j)/2:=ω
    omega
 ·have q:=F_ q
  exact⟨i,rfl,ω,h1,λa ha g=>h2 a ha ω⟩
theorem Bm0:H (AN l F Dr 0) λy=>∃p:Nat,y.1.1=(p:Int)∧p≤l.length∧(∀i (hi:i<l.length),i<p→dK l[i]<4*F+Dr)∧(y.1.2.1=L→∀i (hi:i<l.length),p≤i→4*F+Dr<dK l[i]):=by
 have hl:=h.len hb;unfold AN;refine C (Bdm hb h (F:=F) hD) ?_;rintro y ⟨p,rfl,hp,h1,h2⟩;refine C (Q:=λy=>y.1.1=(p:Int)∧(y.1.2.1=L→∀i (hi:i<l.length),p≤i→4*F+Dr<dK l[i])) (B (λq=>?_) λq=>A ⟨rfl,λ_ i hi g=>?_⟩) λy hy=>A ⟨p,hy.1,hp,h1,hy.2⟩
 ·have q:p<l.length:=by have:=m_ q;exact Int.ofNat_lt.1 this
  refine I (Ac (Int.natCast_nonneg p) (Int.ofNat_lt.2 q)) ?_;have g:List.getD l (P (p:Int)) (aE 0 0 0)=l[p]:=gD q;simp only[g];obtain⟨n,c1,c2,c3⟩:=Ap2 hb h (F:=F) hD q;refine O c1 (A ⟨rfl,λe i hi g2=>?_⟩)
  have e:¬n=0:=λe0=>by rw[e0]at e;cases e
  have e:=mt c3.2 e
  have:=h2 p q (z_ _)
  rcases g2_ p i with g4 | g4
  ·have:=b3_.1 h.sort _ i q hi g4
   omega
  ·obtain rfl:i=p:=ω
   omega
 ·have:=F_ q
  have:¬p<l.length:=λe=>this (Int.ofNat_lt.2 e)
  omega
theorem Brj(hc:Am b F Dr=E)(h0:0≤D){p:Nat}(hp:p≤l.length)(h1:∀i (hi:i<l.length),i<p→dK l[i]<4*F+Dr)(h2:∀i (hi:i<l.length),p≤i→4*F+Dr<dK l[i]):H (CE l (p:Int) [aE F Dr 0]) λy=>DutOK b D y.1.1∧y.1.1≠[]:=by
 have hl:=h.len hb;unfold CE Abd;refine I ?_ (A ⟨⟨λe he=>?_,?_⟩,?_⟩)
 ·simp
  omega
 ·rcases q_.1 he with he | he
  ·rcases q_.1 he with he | he
   ·exact h.each e (d9_ he)
   ·rw[P_.1 he]
    exact⟨hc,e1_ 0,h0⟩
  ·exact h.each e (e0_ he)
 ·have ht:∀a∈l.take p,dK a<4*F+Dr:=λa ha=>by
   obtain⟨i,hi,rfl⟩:=List.mem_take_iff_getElem.1 ha;exact h1 i ω ω
  have hd:∀a∈l.drop p,4*F+Dr<dK a:=λa ha=>by
   obtain⟨i,hi,rfl⟩:=List.mem_drop_iff_getElem.1 ha;exact h2 (p+i) ω ω
  show((l.take p++[aE F Dr 0])++l.drop p).Pairwise _;refine f9_.2 ⟨f9_.2 ⟨h.sort.take,List.pairwise_singleton ..,λa ha c hc=>?_⟩,h.sort.drop,λa ha c hc=>?_⟩
  ·rw[P_.1 hc];exact ht a ha
  ·rcases q_.1 ha with ha | ha
   ·exact Int.lt_trans (ht a ha) (hd c hc)
   ·rw[P_.1 ha];exact hd c hc
 ·simp
end
def Asw{α:Type}(z:α)(l:List α):KG (List.replicate (P (l.length:Int)) z) l=l:=by
 unfold KG;simp
def Cb4(c:Int×Int):(Ff c).length≤64:=by
 have h:∀k i:Nat,((List.range' i k).flatMap (Lf c)).length≤2*k:=by
  intro k
  induction k with
  |zero=>intro i;exact z_ _
  |succ k ih=>
   intro i;rw[d8_,a1_,h_]
   have:=ih (i+1)
   have:=Adb c i
   omega
 exact h 32 0
def Cb7(h:e∈Ff c):(0≤e.D0∧e.D0<32)∧(e.I0=1∨e.I0=2)∧Ak c e.D0.toNat e.I0=E:=by
 obtain⟨f,h1,h2,h3,h4⟩:=mem_range.1 (b6_.2 ⟨e,h,rfl⟩);simp only[BT]at h2 h3 h4;refine⟨ω,h3,?_⟩
 rw[h2,i_];exact h4
def Ax7(hb:b.small)(hcode:b.code=0)(h:e∈Ff (CT c (Bx b))):Am b e.D0 e.I0=E:=by
 obtain⟨h1,h2,h3⟩:=Cb7 h;rw[Oq,e_,WK hb hcode ω h2,f3_ h1.1]at h3
 exact h3.2
section
variable{b:N}(hb:b.small)(hcode:b.code=0){car:Nat}(hcar:car<b.B0.length){x:Belief}(h:BelOK b car x)
include hb hcode hcar h
theorem Ajf{es:List Entry}(he:∀e∈es,Am b e.D0 e.I0=E)(hl:es.length≤1000)(z:GQ):H (Hu (((),(),es,(es.length:Int),0,()),((x.D0,x.I0,x.E3,x.U0,x.V2,x.N3,()),z,()))) λy=>∃du,y.2.1=(x.D0,x.I0,x.E3,du,x.V2,x.N3,())∧DutOK b (HY b car).I1 du:=by
 have hd:=Ahd hcode (c:=HY b car) (by unfold HY;rw[k_,j_ hcar];exact b2_ hcar)
 unfold Hu;refine Sat.loop (λk y=>∃(du:List Duty) (i:Nat),y=(((),(),es,(es.length:Int),(i:Int),()),((x.D0,x.I0,x.E3,du,x.V2,x.N3,()),z,()))∧i+k=es.length∧DutOK b (HY b car).I1 du) ?_ es.length ⟨x.U0,0,rfl,ω,h.dut⟩ ω
 rintro k y ⟨du,i,rfl,hk,ho⟩;show H (Ng es (es.length:Int) (i:Int) x.D0 x.I0 x.E3 du x.V2 x.N3 z.1 z.2.1 z.2.2.1 z.2.2.2.1 z.2.2.2.2.1 z.2.2.2.2.2.1) _;unfold Ng;refine B (λq=>?_) λ_=>A ⟨du,rfl,ho⟩
 have hi:i<es.length:=by have:=m_ q;omega
 refine I (Ac ω ω) ?_
 have g:List.getD es (P (i:Int)) (Entry.mk 0 0 0 0 L)=es[i]:=by
  simp only[i_,k_,j_ hi,Option.getD_some]
 simp only[g,Dp hi (show es.length≤AG by unfold AG;omega)]
 have hc:=he _ (b2_ hi);refine C (Bm0 hb ho (F:=es[i].D0) (Fj hb hc).2) ?_;rintro y1 ⟨p,e1,hp,h1,h2⟩;refine B (λq=>?_) λ_=>A ⟨k-1,ω,du,i+1,rfl,ω,ho⟩
 rw[e1];refine C (Brj hb ho (Fj hb hc).2 hc hd.1 hp h1 (h2 (by simpa using q))) λy2 hy=>A ⟨k-1,ω,y2.1.1,i+1,rfl,ω,hy.1⟩
theorem Acs(u d:Int):H (Ly b.C0 b.E0 b.H0 b.M0 b.J0 b.L0 b.N0 b.B0 (car:Int) x.D0 x.I0 x.E3 x.U0 x.V2 x.N3 u d) λy=>Ari b car y.2.1:=by
 have hl:=h.dut.len hb;unfold Ly;refine O (IF hb hcode hcar h) (Sat.bifF rfl (I ?_ ?_))
 ·simp;omega
 refine O (KE hb hcode) (O (Ld (u,d) (Bx b)) (O (Xq (CT (u,d) (Bx b))) ?_));simp only[Asw];refine C (Ajf hb hcode hcar h (λe he=>Ax7 hb hcode he) ?_ _) ?_
 ·have:=Cb4 (CT (u,d) (Bx b))
  omega
 rintro⟨a,t,w⟩ ⟨du,e,ho⟩;change t=_ at e;subst e;refine Sat.bindC (λ_=>Sat.bindR (A ⟨⟨x.D0,x.I0,x.E3,du,x.V2,(du.length:Int)==0⟩,rfl,⟨h.fl,h.dir,h.door,h.still,λq=>?_,ho⟩⟩)) λ_=>Sat.bindR (A ⟨⟨x.D0,x.I0,x.E3,du,x.V2,L⟩,rfl,⟨h.fl,h.dir,h.door,h.still,λq=>(by cases q),ho⟩⟩)
 have q:(du.length:Int)=0:=by simpa using q
 exact(List.length_eq_zero_iff (l:=du)).1 ω
end
def Amw(f d r p:Int)(e u o:Nat)(cs:List Car)(x:Nat):H (OL f d r p e u o cs x) λy=>0≤y.1.1∧y.1.1≤4:=by
 unfold OL;refine B (λ_=>A (by decide)) λ_=>B (λ_=>A (by decide)) λ_=>B (λ_=>A (by decide)) λ_=>B (λ_=>A (by decide)) λ_=>A (by decide)
def Ao9(full:H (arF .sub .f64 b.L0 4589168020290535424) λ_=>True)(over:H (arF .sub .f64 b.N0 4589168020290535424) λ_=>True)(s:Int)(x:Nat):H (QD b.C0 b.E0 b.H0 b.M0 b.J0 b.L0 b.N0 b.B0 s x) λy=>0≤y.2.1.1∧y.2.1.1≤4:=by
 unfold QD;refine O (Bi b) (B (λ_=>A ⟨e1_ 0,show(0:Int)≤4 from by decide⟩) λ_=>C (Amw ..) λy2 h2=>?_)
 refine C (Q:=λy=>y.1.2.2.2.2.1=y2.1.1∧y.2.1=b.tup) (B (λ_=>A ⟨rfl,rfl⟩) λ_=>A ⟨rfl,rfl⟩) λy3 h3=>?_
 have k:0≤y3.1.2.2.2.2.1∧y3.1.2.2.2.2.1≤4:=by rw[h3.1];exact h2
 refine B (λ_=>B (λq=>?_) λ_=>B (λq=>?_) λ_=>A k) λ_=>A k
 ·have q:y3.2.2.1.1=3:=by simpa using q
  rw[h3.2];refine C full λ_ _=>B (λ_=>A ?_) λ_=>A k
  show 0≤y3.2.2.1.1∧y3.2.2.1.1≤4;omega
 ·have q:y3.2.2.1.1=4:=by simpa using q
  rw[h3.2];refine C over λ_ _=>B (λ_=>A ?_) λ_=>A k
  show 0≤y3.2.2.1.1∧y3.2.2.1.1≤4;omega
end Go.Ovl
namespace Go.Ovl
open Go Go.Ab
variable{i:Nat}{α:Type}
def Ae{β:Type}{o:Option α}{a:α}{f:α→Option β}{r:Option β}(h:o=J a)(h2:f a=r):Option.bind o f=r:=by
 subst h;exact h2
def Bhh{l:List α}(d:α)(hi:i<l.length):l.drop i=l.getD i d::l.drop (i+1):=by
 rw[h3_ hi,k_,j_ hi];rfl
def Ah4{X Y α:Type}{step:X→Option (Sum X Y)}(l:List α)(d:α)(p:α→Bool)(g:Nat→X)(y:Y)(z:α→Y)
  (h1:∀i,i<l.length→step (g i)=J (bif p (l.getD i d)then .inl (g (i+1))else .inr (z (l.getD i d)))) (h2:step (g l.length)=J (.inr y)) :
  ∀m i:Nat,i+m=l.length→BQ step (m+1) (g i)=J (match(l.drop i).find? (λx=>!p x)with | none=>y | some x=>z x)
 |0,i,hi=>by
  obtain rfl:i=l.length:=ω
  rw[a5_];exact Az h2
 |m+1,i,hi=>by
  have hlt:i<l.length:=ω
  rw[Bhh d hlt];have h:=h1 i hlt;cases hp:p (l.getD i d)with
  |true=>
   rw[hp,d_]at h;rw[Bu h,Ah4 l d p g y z h1 h2 m (i+1) ω,List.find?_cons,hp]
   rfl
  |false=>
   rw[hp,c_]at h;rw[Az h,List.find?_cons,hp];rfl
def Bb8{β:Type}(p:α→Bool)(y z:β)(l:List α):(match l.find? (λx=>!p x)with | none=>y | some _=>z)=bif l.all p then y else z:=by
 induction l with
 |nil=>rfl
 |cons a l ih=>
  rw[List.find?_cons,X_];cases p a
  ·rfl
  ·exact ih
def XM{c:Bool}{x y r:α}(h:c=E)(h2:x=r):(bif c then x else y)=r:=by subst h;exact h2
def Ai5{b:N}(hcode:b.code=0){car:Int}(hc:0≤car∧car<(b.B0.length:Int)){k v:Int}(h:(k=4∧0≤v∧v≤4)∨((k=5∨k=6)∧0≤v∧v≤1)):Au b (Record.mk k 0 0 car v)=E:=by
 unfold Au Tw inR;simp only[hcode];rcases h with⟨rfl,h⟩ | ⟨rfl | rfl,h⟩<;>simp<;>omega
def phA(m:Img)(i:Nat):Int:=m.F0.getD i 0
def flA(m:Img)(i:Nat):Bool:=m.O0.getD i L
def lvA(m:Img)(i:Nat):Bool:=m.K0.getD i L
def TP(m:Img)(i:Nat):Bool:=(phA m i==0||phA m i==4)&&(!flA m i&&!lvA m i)
def Jf(m:Img)(i:Nat):Bool:=phA m i==0||(phA m i==1||phA m i==4)
section
variable{b:N}{m:Img}(hm:ImgOK b m)
include hm
theorem Ami(hi:i<b.B0.length):KY m.F0 m.O0 m.K0 m.A0 (i:Int)=J ((E,()),()):=by
 unfold KY;simp only[hm.lp,hm.lf,hm.ll,b_ (ω:(0:Int)≤(i:Int)),f_ (H_ (b.B0.length:Int)),d_,c_,b_ (ω:(i:Int)<(b.B0.length:Int)),a_]
theorem Akw(hi:i<b.B0.length):KX m.F0 m.O0 m.K0 m.A0 (i:Int)=J ((TP m i,()),()):=by
 have i1:inB (i:Int) m.F0.length=E:=Ac ω (by rw[hm.lp];omega)
 have i2:inB (i:Int) m.O0.length=E:=Ac ω (by rw[hm.lf];omega)
 have i3:inB (i:Int) m.K0.length=E:=Ac ω (by rw[hm.ll];omega)
 unfold KX TP phA flA lvA;refine Ae (a:=(((m.F0.getD i 0==0||m.F0.getD i 0==4)&&(!m.O0.getD i L&&!m.K0.getD i L),()),())) (Ae (Ami hm hi) ?_) rfl
 simp only[i1,i2,i3,d_,i_];cases m.F0.getD i 0==0<;>cases m.F0.getD i 0==4<;>cases m.O0.getD i L<;>rfl
theorem Aci(hi:i<b.B0.length):IP m.F0 m.O0 m.K0 m.A0 (i:Int)=J ((Jf m i,()),()):=by
 have i1:inB (i:Int) m.F0.length=E:=Ac ω (by rw[hm.lp];omega)
 unfold IP Jf phA;refine Ae (Ami hm hi) ?_;simp only[i1,d_,c_,o_,i_];cases m.F0.getD i 0==0<;>cases m.F0.getD i 0==1<;>rfl
theorem Bhq:∃fr:Bool,GM m.F0 m.O0 m.K0 m.A0=J ((fr,()),()):=by
 have hcc:=Aj hm.code;have hp:=hm.lp;have hl:=hm.ll
 have h:H (GM m.F0 m.O0 m.K0 m.A0) λ_=>True:=by
  unfold GM MM;refine C (Q:=λ_=>True) (Sat.loop (λk x=>∃i:Nat,x=(((),m.F0,(m.F0.length:Int),(i:Int),()),((m.F0,m.O0,m.K0,m.A0,()),()))∧i+k=m.F0.length) ?_ m.F0.length ⟨0,rfl,ω⟩ ω) λy _=>?_
  ·rintro k x ⟨i,rfl,hk⟩
   show H (Qc m.F0 (m.F0.length:Int) (i:Int) m.F0 m.O0 m.K0 m.A0) _;unfold Qc;refine B (λq=>?_) λ_=>A trivial
   have hi:i<m.F0.length:=by have:=m_ q;omega
   refine I (Ac ω ω) ?_
   simp only[Dp hi (show m.F0.length≤AG by unfold AG;omega)]
   refine B (λ_=>A trivial) λ_=>B (λ_=>A trivial) λ_=>B (λ_=>A trivial) λ_=>?_
   exact I (Ac ω ω) (B (λ_=>A trivial) λ_=>A ⟨k-1,ω,i+1,rfl,ω⟩)
  ·cases y with
   |inl _=>exact A trivial
   |inr _=>exact A trivial
 obtain⟨y,h,_⟩:=h;exact⟨y.1.1,h⟩
end
def Rv(m:Img)(i:Nat)(calm fr:Bool)(kind:Int):List Record×Int:=
 bif kind==1&&phA m i==0 then(bif fr then([⟨4,0,0,i,1⟩],0)else([],261))
 else bif(kind==2&&phA m i==1)then([⟨4,0,0,i,0⟩],0)
 else bif(kind==3&&phA m i==2)then([⟨4,0,0,i,0⟩],0)
 else bif(kind==2&&(phA m i==4&&lvA m i))then([⟨6,0,0,i,0⟩],0)
 else bif(kind==4&&phA m i==2)then([⟨4,0,0,i,3⟩],0)
 else bif(kind==5&&phA m i==3)then(bif calm then([⟨4,0,0,i,2⟩],0)else([],262))
 else bif(kind==6&&phA m i==3)then(bif !flA m i then([⟨4,0,0,i,4⟩],0)else([],262))
 else bif(kind==7&&(phA m i==4&&!lvA m i))then(bif fr then([⟨6,0,0,i,1⟩],0)else([],261))
 else bif(kind==8&&flA m i)then([⟨5,0,0,i,0⟩],0)else([],260)
section
variable{b:N}{m:Img}(hm:ImgOK b m){i:Nat}(hi:i<b.B0.length)
include hm hi
theorem Bif(ok:Bool)(e:Int)(l:List Record):Dv ok e l=J (((bif ok then(l,(0:Int))else([],e)).1,(bif ok then(l,(0:Int))else([],e)).2,()),()):=by
 unfold Dv;cases ok<;>rfl
theorem Brh(calm:Bool)(p:Int):Bs m.F0 m.O0 m.K0 m.A0 (i:Int) calm p=J ((phA m i==p,()),()):=by
 unfold Bs;rw[Ac ω (by rw[hm.lp];omega),d_]
 rfl
theorem Bbm{fr:Bool}(hf:GM m.F0 m.O0 m.K0 m.A0=J ((fr,()),()))(calm:Bool)(kind:Int):Ih m.F0 m.O0 m.K0 m.A0 (i:Int) calm kind=J (((Rv m i calm fr kind).1,(Rv m i calm fr kind).2,()),()):=by
 have ifl:inB (i:Int) m.O0.length=E:=Ac ω (by rw[hm.lf];omega)
 have it:=Brh hm hi calm;have wi:=Bif hm hi;unfold Ih Rv;rw[Ac ω (show(i:Int)<(m.K0.length:Int)by rw[hm.ll];omega),d_]
 let T:=((m.F0,m.O0,m.K0,m.A0,(i:Int),calm,()),(m.F0,m.O0,m.K0,m.A0,()),())
 have st:∀(k p:Int),(bif kind==k then(Bs m.F0 m.O0 m.K0 m.A0 (i:Int) calm p).bind λy1=>J ((kind,(),(),lvA m i,y1.1.1,()),T)else J ((kind,(),(),lvA m i,L,()),T))=J ((kind,(),(),lvA m i,(kind==k&&phA m i==p),()),T):=λk p=>by
  cases kind==k with
  |true=>exact Ae (it p) rfl
  |false=>rfl
 refine Ae (st 1 0) ?_;show(bif(kind==1&&phA m i==0)then _ else _)=_;cases kind==1&&phA m i==0 with
 |true=>
  refine Ae hf (Ae (a:=(([Record.mk 4 0 0 i 1],()),())) rfl (Ae (wi fr 261 [⟨4,0,0,i,1⟩]) ?_));cases fr<;>rfl
 |false=>
 refine Ae (st 2 1) ?_;show(bif(kind==2&&phA m i==1)then _ else _)=_;cases h2:kind==2&&phA m i==1 with
 |true=>rfl
 |false=>
 refine Ae (st 3 2) ?_;show(bif(kind==3&&phA m i==2)then _ else _)=_;cases kind==3&&phA m i==2 with
 |true=>rfl
 |false=>
 refine Ae (a:=((kind,(),(),lvA m i,(kind==2&&(phA m i==4&&lvA m i)),()),T)) ?_ ?_
 ·show(bif kind==2 then(Bs m.F0 m.O0 m.K0 m.A0 (i:Int) calm 4).bind _ else _)=_
  cases kind==2 with
  |false=>rfl
  |true=>
   refine Ae (it 4) ?_;show(bif phA m i==4 then _ else _)=_;cases phA m i==4<;>rfl
 show(bif(kind==2&&(phA m i==4&&lvA m i))then _ else _)=_;cases kind==2&&(phA m i==4&&lvA m i)with
 |true=>rfl
 |false=>
 refine Ae (st 4 2) ?_;show(bif(kind==4&&phA m i==2)then _ else _)=_;cases kind==4&&phA m i==2 with
 |true=>rfl
 |false=>
 refine Ae (st 5 3) ?_;show(bif(kind==5&&phA m i==3)then _ else _)=_;cases kind==5&&phA m i==3 with
 |true=>
  rw[d_];refine Ae (a:=(([Record.mk 4 0 0 i 2],()),())) rfl ?_;refine Ae (wi calm 262 [⟨4,0,0,i,2⟩]) ?_;cases calm<;>rfl
 |false=>
 refine Ae (st 6 3) ?_;show(bif(kind==6&&phA m i==3)then _ else _)=_;cases kind==6&&phA m i==3 with
 |true=>
  show(bif inB (i:Int) m.O0.length then _ else _)=_;rw[ifl,d_];refine Ae (a:=(([Record.mk 4 0 0 i 4],()),())) rfl ?_;refine Ae (wi (!flA m i) 262 [⟨4,0,0,i,4⟩]) ?_;cases flA m i<;>rfl
 |false=>
 refine Ae (a:=((kind,(),(),(kind==7&&(phA m i==4&&!lvA m i)),()),T)) ?_ ?_
 ·show(bif kind==7 then(Bs m.F0 m.O0 m.K0 m.A0 (i:Int) calm 4).bind _ else _)=_
  cases kind==7 with
  |false=>rfl
  |true=>
   refine Ae (it 4) ?_;show(bif phA m i==4 then _ else _)=_;cases phA m i==4<;>rfl
 show(bif(kind==7&&(phA m i==4&&!lvA m i))then _ else _)=_;cases kind==7&&(phA m i==4&&!lvA m i)with
 |true=>
  refine Ae hf (Ae (wi fr 261 [⟨6,0,0,i,1⟩]) ?_);cases fr<;>rfl
 |false=>
 refine Ae (a:=(((),(kind==8&&flA m i),()),(T.1,()))) ?_ ?_
 ·show(bif kind==8 then(bif inB (i:Int) m.O0.length then _ else _)else _)=_
  cases kind==8 with
  |false=>rfl
  |true=>rw[ifl];rfl
 show(bif(kind==8&&flA m i)then _ else _)=_;cases kind==8&&flA m i<;>rfl
end
end Go.Ovl
