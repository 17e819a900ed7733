import Derived.Test.YtefkhaccplcieaaGreatDoorOvE
import Derived.Test.YtefkhaccplcieaaGreatDoorOvC
import Derived.Test.YtefkhaccplcieaaGreatDoorOvA
set_option linter.all false
open Go.Ovl.Sat renaming ret->A,bic->B,bindS->C,bifT->I,bindE->N
open Bool renaming true->E,false->J
open Go.Ovl renaming Sat->H,Bldg->O,NewCar->aB
open Option renaming some->L
open Int renaming toNat->P
open BitVec renaming ofInt->aA,toNat->aG
open Go.IntKind renaming i64->aC,wrap->aD,u32->aF
open Go.Ovl.Duty renaming mk->aE
open Nat renaming lt_of_le_of_lt->aH
namespace Go.Ovl
open Go Go.Ab
set_option maxRecDepth 100000
variable{b:O}{l:List Duty}{fl D n:Int}{i car:Nat}{x:aB}{c:Int×Int}{α:Type}{e:Entry}
def C2(fl n:Int):Prop:=0≤n∧n.toNat<2^fl.toNat
def C2.zero:C2 fl 0:=⟨c7_ 0,Nat.two_pow_pos _⟩
def C2.vb{v:BitVec 32}(h:v.toNat<2^fl.toNat):C2 fl (vb v):=⟨Int.natCast_nonneg _,h⟩
def C2.bv(h:C2 fl n):(bv n).toNat<2^fl.toNat:=by
 refine aH ?_ h.2
 have:=h.1
 show(aA 32 n).toNat≤n.toNat;rw[X_];show(n%4294967296).toNat≤n.toNat;omega
def C2.and{x y:Int}(h:C2 fl y):C2 fl (aD aF (stk x y (aG (aA (IntKind.bits .u32) x&&&aA (IntKind.bits .u32) y)))):=by rw[Aap];refine C2.vb ?_;rw[BitVec.toNat_and];exact aH Nat.and_le_right h.bv
def C2.andNot{x y:Int}(h:C2 fl x):C2 fl (aD aF (stk x y (aG (aA (IntKind.bits .u32) x&&& ~~~ aA (IntKind.bits .u32) y)))):=by rw[OX];refine C2.vb ?_;rw[BitVec.toNat_and];exact aH Nat.and_le_left h.bv
def C2.or{x y:Int}(h:C2 fl x)(h2:C2 fl y):C2 fl (aD aF (stk x y (aG (aA (IntKind.bits .u32) x|||BitVec.ofInt (IntKind.bits .u32) y)))):=by rw[Awu];refine C2.vb ?_;rw[BitVec.toNat_or];exact Nat.or_lt_two_pow h.bv h2.bv
def C2.all(h:2≤fl∧fl≤8):C2 fl (aD aF (aD aF (1*2^min (P fl) (IntKind.bits .u32))-1)):=by
 unfold C2
 have:fl=2∨fl=3∨fl=4∨fl=5∨fl=6∨fl=7∨fl=8:=ω
 rcases this with e | e | e | e | e | e | e<;>rw[e]<;>decide
def Alw:(Int.fdiv n ((2:Int)^P fl)==0)=E↔C2 fl n:=by
 have hp:(0:Int)<2^P fl:=Int.pow_pos τ;have hc:((2^P fl:Nat):Int)=(2:Int)^P fl:=by rw[Int.natCast_pow];rfl
 rw[a6_ _ (Int.le_of_lt hp),U_];unfold C2;constructor
 ·intro h;have h1:=Int.mul_ediv_add_emod n (2^P fl);rw[h,Int.mul_zero,Int.zero_add]at h1;have h2:=Int.emod_nonneg n (Int.ne_of_gt hp);have h3:=Int.emod_lt_of_pos n hp;rw[h1]at h2 h3;refine⟨h2,?_⟩;rw[← hc]at h3;omega
 ·intro h;refine Int.ediv_eq_zero_of_lt h.1 ?_;rw[← hc]
  have:=h.1
  have:=h.2
  omega
structure Sx(fl:Int)(x:NewCar):Prop where
 sw:S2 x.V1 x.F1
 dr:D5 x.Y0 x.N1 x.H1 x.K1 x.E1
 mt:M3 fl x.T0 x.X0 x.S0
 ca:C2 fl x.E2
 sh:dir2 x.A3
 idle:0≤x.O3∧x.O3≤1000000
 nf:x.E3=false
def Mz(x:aB):Prop:=x.T0=0∧x.X0=0∧x.S0=0
def Aod(x:aB):Aoc x=E↔Mz x:=by unfold Aoc Mz;simp
def Sy(fl:Int)(x:aB):Prop:=Sx fl x∧(x.Y0=0∨Mz x)
def Aiq(h:D5 x.Y0 x.N1 x.H1 x.K1 x.E1):SY x=E↔x.Y0=0:=by
 unfold SY;rcases h with⟨h1,h2,h3,h4,h5⟩ | h
 ·rw[h1,h2,h3,h4,h5];decide
 ·have:¬x.Y0=0:=ω
  simp[this]
def Ws(hb:b.small)(hf:x.E3=J):HQ b x=E↔Sy b.C0 x:=by
 have lo:=hb.lo;unfold HQ;rw[hf,c_];unfold Wy Ra Afo inR;simp only[e_,S_,t_,Aee,Ajn (ω:2≤b.C0),Alw,Aod];constructor
 ·rintro⟨h1,h2,h3,h4,h5,h6,h7⟩;rw[Aiq h2]at h4;exact⟨⟨⟨h1.1,h1.2⟩,h2,h3,h5,h6,h7,hf⟩,h4⟩
 ·rintro⟨h,h4⟩;exact⟨⟨h.sw.1,h.sw.2⟩,h.dr,h.mt,h4.imp_left (Aiq h.dr).2,h.ca,h.sh,h.idle⟩
def D5.one:D5 1 0 0 J 0:=D5.at (a:=1) τ τ τ τ τ
abbrev As0:=Int×Int×Int×Int×Int×Bool×Int×Int×Int×Int×Int×Int×Int×Bool×Unit
abbrev Agk:=Int×Int×Int×Int×Nat×Nat×Nat×List Car×Int×Int×Int×Int×Int×Int×Bool×Int×Int×Int×Int×Int×Int×Int×Bool×Int×Bool×Int×Bool×Int×Unit
@[reducible] def QS(b:O)(car:Int)(x:aB)(f:Int)(l:Bool)(d:Int)(k:Bool)(c:Int):Agk:=(b.C0,b.F0,b.H0,b.M0,b.K0,b.L0,b.N0,b.B0,car,x.V1,x.F1,x.Y0,x.N1,x.H1,x.K1,x.E1,x.T0,x.X0,x.S0,x.E2,x.A3,x.O3,x.E3,f,l,d,k,c,())
section
variable{b:O}(hb:b.small){car f:Int}(hf:0≤f∧f<b.C0){x:aB}(l:Bool)(d:Int)(k:Bool)(c:Int)
include hb
theorem Ud(hcar:0≤car∧car<b.B0.length):H (BY (newcar_control.mk b.C0 b.F0 b.H0 b.M0 b.K0 b.L0 b.N0 b.B0 car x.V1 x.F1 x.Y0 x.N1 x.H1 x.K1 x.E1 x.T0 x.X0 x.S0 x.E2 x.A3 x.O3 x.E3 f l d k c)) λ_=>True:=by unfold BY;exact I (Ac hcar.1 hcar.2) (A trivial)
include hf
theorem Ap9(p:Int)(h:Sx b.C0 x):H (DY p b.C0 b.F0 b.H0 b.M0 b.K0 b.L0 b.N0 b.B0 car x.V1 x.F1 x.Y0 x.N1 x.H1 x.K1 x.E1 x.T0 x.X0 x.S0 x.E2 x.A3 x.O3 x.E3 f l d k c) λy=>∃n,y.2.1=QS b car { x with E2:=n } f l d k c∧C2 b.C0 n:=by
 have lo:=hb.lo;have hi:=hb.hi;unfold DY;refine I (b_ (ω:0≤b.C0)) ?_;refine C (Q:=λy=>y.2.1=QS b car x f l d k c∧C2 b.C0 y.1.2.1) ?_ λy hy=>?_
 ·exact B (λ_=>I (b_ hf.1) (A ⟨rfl,(C2.all ⟨ω,hi⟩).and.andNot⟩)) λ_=>A ⟨rfl,(C2.all ⟨ω,hi⟩).and⟩
 ·obtain⟨u,t,w⟩:=y;obtain⟨e,hn⟩:=hy;change t=_ at e;subst e;exact A ⟨_,rfl,h.ca.or hn⟩
omit hf
theorem Aec(w:Int):H (BM w b.C0 b.F0 b.H0 b.M0 b.K0 b.L0 b.N0 b.B0 car x.V1 x.F1 x.Y0 x.N1 x.H1 x.K1 x.E1 x.T0 x.X0 x.S0 x.E2 x.A3 x.O3 x.E3 f l d k c) λy=>∃c' t' f' cm,y.2.1=QS b car { x with T0:=c',X0:=t',S0:=f' } f l d k cm∧M3 b.C0 c' t' f'∧(y.1.1=E→MZ (c',t',f',()))∧(x.T0=0→w=0→l=E→MZ (c',t',f',())):=by have lo:=hb.lo;have hi:=hb.hi;unfold BM;exact C (Akx ⟨ω,hi⟩ ..) λy hy=>A ⟨_,_,_,_,rfl,hy.1,hy.2.1,hy.2.2⟩
omit hb in
theorem Bjf{c' t' f':Int}(x:aB)(h:MZ (c',t',f',())):Mz { x with T0:=c',X0:=t',S0:=f' }:=by unfold MZ at h;simp only[f4_]at h;exact⟨h.1,h.2.1,h.2.2.1⟩
theorem Amx(h:Sx b.C0 x):H (DK b.C0 b.F0 b.H0 b.M0 b.K0 b.L0 b.N0 b.B0 car x.V1 x.F1 x.Y0 x.N1 x.H1 x.K1 x.E1 x.T0 x.X0 x.S0 x.E2 x.A3 x.O3 x.E3 f l d k c) λy=>∃x' c',y.2.1=QS b car x' f l d k c'∧Sx b.C0 x'∧x'.Y0=x.Y0∧(y.1.1=E→Mz x'):=by
 unfold DK;refine C (Q:=λy=>y.2.1=QS b car x f l d k c∧(y.1.2.1=E→Mz x)) (B (λq=>A ⟨rfl,λ_=>(Aod x).1 q⟩) λ_=>A ⟨rfl,λq=>(by cases q)⟩) ?_;rintro⟨u,t,w⟩ ⟨e,h1⟩;change t=_ at e;subst e;refine B (λq=>A ⟨x,c,rfl,h,rfl,λ_=>h1 q⟩) λ_=>?_;refine C (Q:=λy=>∃x' c',y.2.1=QS b car x' f l d k c'∧Sx b.C0 x'∧x'.Y0=x.Y0∧(y.1.2.2.1=E→Mz x')) ?_ ?_
 ·refine C (Aec hb (x:=x) l d k c 0) ?_;rintro⟨u2,t2,w2⟩ ⟨c',t',f',cm,e,hm,hs,hz⟩;change t2=_ at e;subst e;have hx':Sx b.C0 { x with T0:=c',X0:=t',S0:=f' }:=⟨h.sw,h.dr,hm,h.ca,h.sh,h.idle,h.nf⟩
  refine B (λq=>A ⟨_,cm,rfl,hx',rfl,λ_=>Bjf x (hs q)⟩) λ_=>B (λq=>A ⟨_,cm,rfl,hx',rfl,λq2=>Bjf x (hz ?_ rfl q2)⟩) λ_=>A ⟨_,cm,rfl,hx',rfl,λq=>(by cases q)⟩;simpa using q
 rintro⟨u3,t3,w3⟩ ⟨x',c',e,h',hd,hz⟩;change t3=_ at e;subst e;refine B (λq=>A ⟨x',c',rfl,h',hd,λ_=>hz q⟩) λ_=>?_;refine C (Q:=λy=>y.2.1=QS b car x' f l d k c') (B (λ_=>A rfl) λ_=>A rfl) ?_;rintro⟨u4,t4,w4⟩ e;change t4=_ at e;subst e;exact B (λ_=>A ⟨{ x' with O3:=0 },c',rfl,⟨h'.sw,h'.dr,h'.mt,h'.ca,h'.sh,⟨c7_ 0,show(0:Int)≤1000000 from by decide⟩,h'.nf⟩,hd,λq=>(by cases q)⟩) λ_=>A ⟨x',c',rfl,h',hd,λq=>(by cases q)⟩
omit hb in
theorem i00:(0:Int)≤0∧(0:Int)≤1000000:=by decide
include hf
theorem Ap8(hcar:0≤car∧car<b.B0.length)(h:Sx b.C0 x)(hm:Mz x):H (DX b.C0 b.F0 b.H0 b.M0 b.K0 b.L0 b.N0 b.B0 car x.V1 x.F1 x.Y0 x.N1 x.H1 x.K1 x.E1 x.T0 x.X0 x.S0 x.E2 x.A3 x.O3 x.E3 f l d k c) λy=>∃x' c',y.2.1=QS b car x' f l d k c'∧Sx b.C0 x'∧Mz x':=by
 unfold DX;refine C (Ud hb l d k c hcar) λy1 _=>C (Abf ..) λy2 hd=>?_;refine C (Q:=λy=>∃x' c',y.2.1=QS b car x' f l d k c'∧Sx b.C0 x'∧Mz x') ?_ ?_
 ·refine B (λ_=>I (b_ hf.1) (A ⟨{ x with Y0:=y2.2.1.1,N1:=y2.2.1.2.1,H1:=y2.2.1.2.2.1,K1:=y2.2.1.2.2.2.1,E1:=y2.2.1.2.2.2.2.1,E2:=_ },_,rfl,⟨h.sw,hd,h.mt,h.ca.andNot,h.sh,h.idle,h.nf⟩,hm⟩)) λ_=>?_;refine B (λ_=>A ⟨{ x with Y0:=y2.2.1.1,N1:=y2.2.1.2.1,H1:=y2.2.1.2.2.1,K1:=y2.2.1.2.2.2.1,E1:=y2.2.1.2.2.2.2.1,A3:=0 },_,rfl,⟨h.sw,hd,h.mt,h.ca,dir2.zero,h.idle,h.nf⟩,hm⟩) λ_=>?_;exact A ⟨{ x with Y0:=y2.2.1.1,N1:=y2.2.1.2.1,H1:=y2.2.1.2.2.1,K1:=y2.2.1.2.2.2.1,E1:=y2.2.1.2.2.2.2.1 },_,rfl,⟨h.sw,hd,h.mt,h.ca,h.sh,h.idle,h.nf⟩,hm⟩
 rintro⟨u,t,w⟩ ⟨x',c',e,h',hz⟩;change t=_ at e;subst e;exact A ⟨{ x' with O3:=0 },c',rfl,⟨h'.sw,h'.dr,h'.mt,h'.ca,h'.sh,i00,h'.nf⟩,hz⟩
def CtP(b:O)(car f:Int)(l:Bool)(d:Int)(k:Bool)(t:Agk):Prop:=∃x' c',t=QS b car x' f l d k c'∧Sy b.C0 x'
def CtS(b:O)(car f:Int)(l:Bool)(d:Int)(k:Bool)(s:(Unit×(Agk×Unit))⊕(Unit×(Agk×Unit))):Prop:=match s with
 | .inl y=>CtP b car f l d k y.2.1
 | .inr y=>CtP b car f l d k y.2.1
omit hf
theorem Amw(hcode:b.code=0)(hcar:0≤car∧car<b.B0.length)(hu hd:Int)(h:Sx b.C0 x)(h0:x.Y0=0)(hm:Mz x):H (DJ hu hd b.C0 b.F0 b.H0 b.M0 b.K0 b.L0 b.N0 b.B0 car x.V1 x.F1 x.Y0 x.N1 x.H1 x.K1 x.E1 x.T0 x.X0 x.S0 x.E2 x.A3 x.O3 x.E3 f l d k c) (CtS b car f l d k):=by
 unfold DJ;refine C (Bc1 ..) λy1 hc=>C (Bl4 ..) λy2 hn=>?_;refine B (λ_=>?_) λ_=>?_
 ·refine C (Ud hb (x:={ x with V1:=y2.2.1.1,F1:=y2.2.1.2.1,A3:=y1.2.1.2.2.1,O3:=0 }) l d k c hcar) λy3 _=>C (Abf ..) λy4 hd=>A ?_;exact⟨{ x with V1:=y2.2.1.1,F1:=y2.2.1.2.1,A3:=y1.2.1.2.2.1,O3:=0,Y0:=y4.2.1.1,N1:=y4.2.1.2.1,H1:=y4.2.1.2.2.1,K1:=y4.2.1.2.2.2.1,E1:=y4.2.1.2.2.2.2.1 },_,rfl,⟨hn,hd,h.mt,h.ca,hc.2,i00,h.nf⟩,.inr hm⟩
 have st:∀(w i:Int),(0≤i∧i≤1000000)→H (BM w b.C0 b.F0 b.H0 b.M0 b.K0 b.L0 b.N0 b.B0 car y2.2.1.1 y2.2.1.2.1 x.Y0 x.N1 x.H1 x.K1 x.E1 x.T0 x.X0 x.S0 x.E2 x.A3 i x.E3 f l d k c) λy=>CtP b car f l d k y.2.1:=λw i hi=>by refine(Aec hb (x:={ x with V1:=y2.2.1.1,F1:=y2.2.1.2.1,O3:=i }) l d k c w).mono ?_;rintro⟨u,t,w⟩ ⟨c',t',f',cm,e,hm,_⟩;change t=_ at e;subst e;exact⟨_,cm,rfl,⟨hn,h.dr,hm,h.ca,h.sh,hi,h.nf⟩,.inl h0⟩
 refine B (λ_=>C (st _ _ i00) λ_ h=>A h) λ_=>B (λ_=>C (st _ _ i00) λ_ h=>A h) λ_=>?_;have hv:AK b.C0 b.F0 b.H0 b.M0 b.K0 b.L0 b.N0 b.B0=L ((b.code,()),()):=AR ..;refine C (Aqk hcode hv ..) λy7 _=>B (λ_=>C (st _ _ h.idle) λ_ h=>A h) λ_=>A ?_;exact⟨{ x with V1:=y2.2.1.1,F1:=y2.2.1.2.1,O3:=up1 x.O3 },0,rfl,⟨hn,h.dr,h.mt,h.ca,h.sh,KK h.idle,h.nf⟩,.inl h0⟩
omit hb in
theorem Btj:∀(o:Fin 8),0≤aC.wrap (stk ((o.val:Nat):Int) 1 (aG ((aA (IntKind.bits aC) ((o.val:Nat):Int))|||(aA (IntKind.bits aC) 1))))∧aC.wrap (stk ((o.val:Nat):Int) 1 (aG ((aA (IntKind.bits aC) ((o.val:Nat):Int))|||(aA (IntKind.bits aC) 1))))≤7:=by decide
include hf
theorem Bav(hcode:b.code=0)(hcar:0≤car∧car<b.B0.length)(p hu hd:Int)(h:Sy b.C0 x):H (EL p hu hd b.C0 b.F0 b.H0 b.M0 b.K0 b.L0 b.N0 b.B0 car x.V1 x.F1 x.Y0 x.N1 x.H1 x.K1 x.E1 x.T0 x.X0 x.S0 x.E2 x.A3 x.O3 x.E3 f l d k c) (CtS b car f l d k):=by
 unfold EL;refine C (Ap9 hb hf l d k c p h.1) ?_;rintro⟨u,t,w⟩ ⟨n,e,hn⟩;change t=_ at e;subst e;have h1:Sx b.C0 { x with E2:=n }:=⟨h.1.sw,h.1.dr,h.1.mt,hn,h.1.sh,h.1.idle,h.1.nf⟩
 refine C (Q:=λy=>∃x' c',y.2.2.1=QS b car x' f l d k c'∧Sy b.C0 x'∧(y.1.2.2.1=J→Mz x')) ?_ ?_
 ·refine B (λq=>?_) λq=>A ⟨_,c,rfl,⟨h1,h.2⟩,λ_=>h.2.resolve_left (by simpa using q)⟩;refine C (Amx hb l d k c h1) ?_;rintro⟨u2,t2,w2⟩ ⟨x',c',e,h',hd,hz⟩;change t2=_ at e;subst e;exact A ⟨x',c',rfl,⟨h',.inl (hd.trans (by simpa using q))⟩,λq=>hz (by simpa using q)⟩
 rintro⟨u3,u3b,t3,w3⟩ ⟨x',c',e,h',hz⟩;change t3=_ at e;subst e;refine B (λ_=>A ⟨x',c',rfl,h'⟩) λq=>?_;have hz:=hz q;refine C (Q:=λy=>∃x' c',y.2.2.1=QS b car x' f l d k c'∧Sx b.C0 x'∧Mz x') ?_ ?_
 ·refine C (Q:=λy=>y.2.2.1=QS b car x' f l d k c') (B (λ_=>A rfl) λ_=>A rfl) ?_;rintro⟨u4,u4b,t4,w4⟩ e;change t4=_ at e;subst e;refine B (λ_=>A ⟨{ x' with F1:=_,Y0:=1,N1:=0,H1:=0,K1:=J,E1:=0,A3:=0 },c',rfl,⟨⟨h'.1.sw.1,?_⟩,D5.one,h'.1.mt,h'.1.ca,dir2.zero,h'.1.idle,h'.1.nf⟩,hz⟩) λ_=>A ⟨x',c',rfl,h'.1,hz⟩;have h5a:=h'.1.sw.2.1;have h5b:=h'.1.sw.2.2
  have:=Btj ⟨x'.F1.toNat,ω⟩
  simp only[f3_ h5a]at this;exact this
 rintro⟨u5,u5b,t5,w5⟩ ⟨x5,c5,e,h5,hz5⟩;change t5=_ at e;subst e;refine B (λ_=>?_) λq=>?_
 ·refine C (Ap8 hb hf l d k c5 hcar h5 hz5) ?_;rintro⟨u6,t6,w6⟩ ⟨x6,c6,e,h6,hz6⟩;exact A ⟨x6,c6,e,h6,.inr hz6⟩
 ·refine C (Q:=λ(y:Unit×(Agk×Unit))=>CtP b car f l d k y.2.1) ?_ λ_ h=>A h;refine C (Amw hb l d k c5 hcode hcar _ _ h5 (by simpa using q) hz5) λy7 h7=>?_;cases y7 with
  |inl _=>exact A h7
  |inr _=>exact A h7
end
def Aqc{a b c:Int}{d:Bool}{e:Int}(h:D5 a b c d e):H (NN a b c d e) λy=>letI f:=y.2.1.2;D5 y.2.1.1 f.1 f.2.1 f.2.2.1 f.2.2.2.1∧(a=0→y.2.1.1=0):=by
 by_cases g:a=0
 ·obtain⟨h1,h2,h3,h4,h5⟩:a=0∧b=0∧c=0∧d=J∧e=0:=h.resolve_right λq=>absurd g ω;subst h1 h2 h3 h4 h5;exact⟨_,rfl,D5.zero,λ_=>rfl⟩
 ·exact(Aqb h).mono λ_ q=>⟨q,λq=>absurd q g⟩
def Akw{c t f:Int}(h:M3 fl c t f):H (LB c t f) λy=>M3 fl y.2.1.1 y.2.1.2.1 y.2.1.2.2.1∧(c=0∧t=0∧f=0→MZ y.2.1):=by
 by_cases g:c=0∧t=0∧f=0
 ·obtain⟨h1,h2,h3⟩:=g;subst h1 h2 h3;exact⟨_,rfl,M3.zero,λ_=>rfl⟩
 ·exact(Akv h).mono λ_ q=>⟨q,λq=>absurd q g⟩
@[reducible] def Bd2(x:aB):As0:=(x.V1,x.F1,x.Y0,x.N1,x.H1,x.K1,x.E1,x.T0,x.X0,x.S0,x.E2,x.A3,x.O3,x.E3,())
def Bc0(b:O)(t:As0):Prop:=∃x,t=Bd2 x∧HQ b x=E
def Sy.zero:Sy fl Bw:=⟨⟨S2.zero dir2.zero,D5.zero,M3.zero,C2.zero,dir2.zero,i00,rfl⟩,.inl rfl⟩
def Abm(b:O):HQ b { Bw with E3:=E }=E:=rfl
section
variable{b:O}(hb:b.small)
include hb
theorem ND:HQ b Bw=E:=(Ws hb rfl).2 Sy.zero
theorem Ake(c0 c1 c2 c3 c4 c5 c6 c7 c8:Int)(h:Sy b.C0 x)(n:Int):H (Im c0 c1 c2 c3 c4 c5 c6 c7 c8 x.V1 x.F1 x.Y0 x.N1 x.H1 x.K1 x.E1 x.T0 x.X0 x.S0 x.E2 x.A3 x.O3 x.E3 n) λy=>Bc0 b y.2.1:=by unfold Im;refine C (Aqa ..) λy1 _=>B (λ_=>A ⟨{ Bw with E3:=E },rfl,Abm b⟩) λ_=>?_;exact C (Aku ..) λy2 _=>B (λ_=>A ⟨{ Bw with E3:=E },rfl,Abm b⟩) λ_=>A ⟨x,rfl,(Ws hb h.1.nf).2 h⟩
variable(hcode:b.code=0)(car:Int)(x:aB)
include hcode
theorem Anq:Kj b.C0 b.F0 b.H0 b.M0 b.K0 b.L0 b.N0 b.B0 car x.V1 x.F1 x.Y0 x.N1 x.H1 x.K1 x.E1 x.T0 x.X0 x.S0 x.E2 x.A3 x.O3 x.E3=L ((HQ b x&&(decide (0≤car)&&decide (car<(b.B0.length:Int))),()),()):=by unfold Kj;rw[JW hb hcode];simp only[a_];cases HQ b x<;>cases decide (0≤car)<;>rfl
theorem Aky(f:Int)(l:Bool)(d:Int)(k:Bool)(p hu hd:Int):H (Og b.C0 b.F0 b.H0 b.M0 b.K0 b.L0 b.N0 b.B0 car x.V1 x.F1 x.Y0 x.N1 x.H1 x.K1 x.E1 x.T0 x.X0 x.S0 x.E2 x.A3 x.O3 x.E3 f l d k p hu hd) λy=>Bc0 b y.2.1:=by
 unfold Og;refine N (Anq hb hcode car x) (B (λ_=>A ⟨Bw,rfl,ND hb⟩) λq=>?_);have q:HQ b x=E∧0≤car∧car<(b.B0.length:Int):=by
  have q:(HQ b x&&(decide (0≤car)&&decide (car<(b.B0.length:Int))))=E:=by simpa only[g4_]using q
  simpa only[e_,t_]using q
 obtain⟨hx,hcar⟩:=q;refine C (Q:=λy=>y.1.1=E→0≤f∧f<b.C0) ?_ λy2 h2=>?_
 ·unfold LZ;refine C (Q:=λy=>y.1.1=E→0≤f∧f<b.C0) ?_ λ_ h=>A h;refine B (λa=>B (λc=>B (λ_=>A λ_=>⟨m_ a,m_ c⟩) λ_=>A λg=>(by cases g)) λ_=>A λg=>(by cases g)) λ_=>A λg=>(by cases g)
 refine B (λ_=>A ⟨Bw,rfl,ND hb⟩) λq2=>B (λ_=>A ⟨x,rfl,hx⟩) λhf=>?_;have hff:=h2 (by simpa using q2);refine C (Q:=λ(y:(Unit×Unit×Unit×Unit)×(As0×As0×Agk×Unit))=>CtP b car f l d k y.2.2.2.1) (C (Bav hb hff l d k 0 hcode hcar p hu hd ((Ws hb hf).1 hx)) λy3 h3=>?_) ?_
 ·cases y3 with
  |inl _=>exact A h3
  |inr _=>exact A h3
 rintro⟨u,v,w,t,z⟩ ⟨x',c',e,h'⟩;change t=_ at e;subst e;exact C (Ud hb (x:=x') l d k c' hcar) λy6 _=>C (Ake hb _ _ _ _ _ _ _ _ _ h' c') λy7 h7=>A h7
theorem Ahp:H (Np b.C0 b.F0 b.H0 b.M0 b.K0 b.L0 b.N0 b.B0 car x.V1 x.F1 x.Y0 x.N1 x.H1 x.K1 x.E1 x.T0 x.X0 x.S0 x.E2 x.A3 x.O3 x.E3) λy=>Bc0 b y.2.1:=by
 unfold Np;refine N (Anq hb hcode car x) (B (λ_=>A ⟨Bw,rfl,ND hb⟩) λq=>?_);have q:HQ b x=E∧0≤car∧car<(b.B0.length:Int):=by
  have q:(HQ b x&&(decide (0≤car)&&decide (car<(b.B0.length:Int))))=E:=by simpa only[g4_]using q
  simpa only[e_,t_]using q
 obtain⟨hx,hcar⟩:=q;refine B (λ_=>A ⟨x,rfl,hx⟩) λhf=>?_;have h:=(Ws hb hf).1 hx;refine C (Aqc h.1.dr) λy2 h2=>C (Akw h.1.mt) λy3 h3=>I (Ac hcar.1 hcar.2) ?_;refine C (Ake hb _ _ _ _ _ _ _ _ _ (x:={ x with Y0:=y2.2.1.1,N1:=y2.2.1.2.1,H1:=y2.2.1.2.2.1,K1:=y2.2.1.2.2.2.1,E1:=y2.2.1.2.2.2.2.1,T0:=y3.2.1.1,X0:=y3.2.1.2.1,S0:=y3.2.1.2.2.1 }) ⟨⟨h.1.sw,h2.1,h3.1,h.1.ca,h.1.sh,h.1.idle,h.1.nf⟩,?_⟩ 0) λy4 h4=>A h4;refine h.2.imp (λg=>h2.2 g) λg=>?_;have e:=h3.2 g;unfold MZ at e;show y3.2.1.1=0∧y3.2.1.2.1=0∧y3.2.1.2.2.1=0;rw[e];exact⟨rfl,rfl,rfl⟩
theorem Ahr(f:Int)(l:Bool)(d:Int)(k:Bool):H (Ki b.C0 b.F0 b.H0 b.M0 b.K0 b.L0 b.N0 b.B0 x.V1 x.F1 x.Y0 x.N1 x.H1 x.K1 x.E1 x.T0 x.X0 x.S0 x.E2 x.A3 x.O3 x.E3 f l d k) λy=>y.1.1=E→l=E∧d=2:=by
 unfold Ki;have i:SatT (Ef b.C0 b.F0 b.H0 b.M0 b.K0 b.L0 b.N0 b.B0 x.V1 x.F1 x.Y0 x.N1 x.H1 x.K1 x.E1 x.T0 x.X0 x.S0 x.E2 x.A3 x.O3 x.E3):=⟨⟨_,JW hb hcode x,trivial⟩⟩;have no:∀{p:Prop},J=E→p:=λq=>by cases q
 refine C (Q:=λy=>y.1.1=E→l=E∧d=2) (C i.out λ_ _=>?_) λ_ h=>A h;exact B (λ_=>B (λ_=>B (λ_=>B (λ_=>B (λ_=>B (λq=>A λq2=>⟨q,eq_of_beq q2⟩) λ_=>A no) λ_=>A no) λ_=>A no) λ_=>A no) λ_=>A no) λ_=>A no
end
def U2(a c:Int):Prop:=(0≤a∧a<4294967296)∧0≤c∧c<4294967296
def U2.zero:U2 0 0:=by unfold U2;decide
def U2.fst:U2 (aD aF n) 0:=⟨HV n,τ⟩
def U2.snd:U2 0 (aD aF n):=⟨τ,HV n⟩
instance isFloors_ti(n:Int):SatT (FD n):=⟨by unfold FD;exact Sat.go⟩
instance isObs_ti(n a c d:Int):SatT (FU n a c d):=⟨by unfold FU;exact Sat.go⟩
def NL(n a c d:Int):H (FV n a c d) λy=>U2 y.2.1.1 y.2.1.2.1:=by
 unfold FV;refine C (isObs_ti n a c d).out λ_ _=>B (λ_=>A U2.zero) λ_=>B (λ_=>A U2.zero) λ_=>B (λ_=>A U2.zero) λh=>?_;have h0:0≤a:=by have:=D_ h;omega
 refine C (Q:=λy=>y.2.1.1=a) (B (λ_=>A rfl) λ_=>A rfl) λy2 h2=>?_;refine B (λ_=>I (b_ (h2▸h0)) (A U2.fst)) λ_=>?_;refine C (Q:=λy=>y.2.1.1=a) (B (λ_=>A h2) λ_=>A h2) λy3 h3=>?_;exact B (λ_=>I (b_ (h3▸h0)) (A U2.snd)) λ_=>A U2.zero
def Ahq(hb:b.small)(hcode:b.code=0)(x:aB)(f:Int)(l:Bool)(d:Int)(k:Bool):H (Nq b.C0 b.F0 b.H0 b.M0 b.K0 b.L0 b.N0 b.B0 x.V1 x.F1 x.Y0 x.N1 x.H1 x.K1 x.E1 x.T0 x.X0 x.S0 x.E2 x.A3 x.O3 x.E3 f l d k) λy=>U2 y.2.1.1 y.2.1.2.1:=by unfold Nq;refine N (JW hb hcode x) (B (λ_=>A U2.zero) λ_=>B (λ_=>A U2.zero) λ_=>B (λ_=>A U2.zero) λ_=>B (λ_=>A U2.zero) λ_=>?_);exact C (NL ..) λ_ h=>A h
instance pair_ti(a c:Bool):SatT (Ii a c 0 1 2 3):=⟨by cases a<;>cases c<;>exact⟨_,rfl,trivial⟩⟩
def Btn(a c:Bool):H (Ii a c 0 1 2 3) λy=>0≤y.1.1∧y.1.1≤3:=by cases a<;>cases c<;>exact⟨_,rfl,τ⟩
def dK(e:Duty):Int:=4*e.D0+e.I0
structure DutOK(b:Bldg)(D:Int)(l:List Duty):Prop where
 each:∀e∈l,Ap b e.D0 e.I0=true∧0≤e.E4∧e.E4≤D
 sort:l.Pairwise λa c=>dK a<dK c
def DutOK.nil:DutOK b D []:=⟨λ_ h=>(by cases h),List.Pairwise.nil⟩
def Fx(hb:b.small){f d:Int}(h:Ap b f d=E):(0≤f∧f<8)∧(1≤d∧d≤2):=by have lo:=hb.lo;have hi:=hb.hi;unfold Ap OA inR at h;simp only[e_,S_,U_,t_]at h;omega
def Zb{a c:Duty}(ha:1≤a.I0∧a.I0≤2)(hc:1≤c.I0∧c.I0≤2):Vn a c=E↔dK a<dK c:=by unfold Vn dK;simp only[e_,S_,U_,t_];omega
def Yh{l:List Duty}(h:∀i,i+1<l.length→dK (l.getD i HJ)<dK (l.getD (i+1) HJ)):∀i k:Nat,i+1+k<l.length→dK (l.getD i HJ)<dK (l.getD (i+1+k) HJ)
 |i,0,hk=>h i hk
 |i,k+1,hk=>Int.lt_trans (Yh h i k ω) (h (i+1+k) ω)
def gD(h:i<l.length):l.getD i HJ=l[i]:=by simp only[k_,j_ h,Option.getD_some]
def Bkb(hb:b.small)(x:Belief):Qc (Am2 b car x) x.W0.length 0=E↔DutOK b (Kx b car).I1 x.W0:=by
 constructor
 ·intro h;have h:=TP _ _ h;have hp:∀i,i<x.W0.length→Ap b (x.W0.getD i HJ).D0 (x.W0.getD i HJ).I0=E∧(0≤(x.W0.getD i HJ).E4∧(x.W0.getD i HJ).E4≤(Kx b car).I1)∧(i=0∨Vn (x.W0.getD (i-1) HJ) (x.W0.getD i HJ)=E):=λi hi=>by
   have h:=h i ω ω;unfold Am2 Auh inR at h;simpa only[e_,S_,U_,t_]using h
  refine⟨λe he=>?_,?_⟩
  ·obtain⟨i,hi,rfl⟩:=List.mem_iff_getElem.1 he
   have:=hp i hi
   rw[gD hi]at this;exact⟨this.1,this.2.1⟩
  ·rw[b3_];intro i j hi hj hij
   have:=Yh (l:=x.W0) (λi hi=>by have h1:=hp (i+1) hi;have h0:=hp i ω;have h2:=h1.2.2.resolve_left ω;exact(Zb (Fx hb h0.1).2 (Fx hb h1.1).2).1 h2) i (j-i-1) ω
   rw[show i+1+(j-i-1)=j by omega,gD hi,gD hj]at this;exact this
 ·intro h;refine UQ _ _ λk _ hk=>?_;have hk:k<x.W0.length:=ω;have h1:=h.each _ (b2_ hk);unfold Am2 Auh inR;simp only[e_,S_,U_,t_,gD hk];refine⟨h1.1,h1.2,?_⟩;by_cases k0:k=0
  ·exact .inl k0
  ·have hj:k-1<x.W0.length:=ω;rw[gD hj];have h0:=h.each _ (b2_ hj);exact .inr ((Zb (Fx hb h0.1).2 (Fx hb h1.1).2).2 (b3_.1 h.sort _ _ hj hk ω))
def DutOK.len(hb:b.small)(h:DutOK b D l):l.length≤30:=by
 have key:∀i (hi:i<l.length),(i:Int)+1≤dK l[i]:=λi=>by
  induction i with
  |zero=>
   intro hi
   have:=Fx hb (h.each _ (b2_ hi)).1
   unfold dK;omega
  |succ i ih=>intro hi;have h1:=ih ω;have h2:=b3_.1 h.sort i (i+1) ω hi ω;omega
 rcases Nat.eq_zero_or_pos l.length with g | g
 ·omega
 ·have hi:l.length-1<l.length:=ω;have h1:=key _ hi
  have:=Fx hb (h.each _ (b2_ hi)).1
  unfold dK at h1;omega
def DutOK.push{e:Duty}(h:DutOK b D l)(h1:Ap b e.D0 e.I0=E∧0≤e.E4∧e.E4≤D)(h2:∀a∈l,dK a<dK e):DutOK b D (l++[e]):=by
 refine⟨λx hx=>?_,f9_.2 ⟨h.sort,List.pairwise_singleton ..,λa ha c hc=>?_⟩⟩
 ·rcases n_.1 hx with g | g
  ·exact h.each x g
  ·rw[E_.1 g];exact h1
 ·rw[E_.1 hc];exact h2 a ha
def Az1(hb:b.small)(hD:D≤1000000000)(h:DutOK b D l)(u d:Int):H (Lz l D u d) λy=>DutOK b D y.1.1∧(y.1.2.1=E→y.1.1=[]):=by
 have hl:=h.len hb;unfold Lz Mr;refine C (Q:=λy=>match y with | .inl z=>DutOK b D z.1.1 | .inr z=>z.1.1=[]) (Sat.loop (λk x=>∃(out:List Duty) (i:Nat),x=((D,(),out,l,(l.length:Int),(i:Int),()),((u,d,()),()))∧i+k=l.length∧DutOK b D out∧∀a∈out,∀j (hj:j<l.length),i≤j→dK a<dK l[j]) ?_ l.length ⟨[],0,rfl,ω,.nil,λa ha=>by cases ha⟩ ω) ?_
 ·rintro k x ⟨out,i,rfl,hk,ho,ha⟩;show H (PV D out l (l.length:Int) (i:Int) u d) _;unfold PV;refine B (λq=>?_) λ_=>A ho;have hi:i<l.length:=by have:=m_ q;omega
  have he:=h.each _ (b2_ hi);have hc:=Fx hb he.1;have g:List.getD l (P (i:Int)) (aE 0 0 0)=l[i]:=gD hi;have w:aC.wrap (l[i].E4+1)=l[i].E4+1:=Aa ω ω;refine I (Ac ω ω) ?_;simp only[g,w,ER hi (show l.length≤AL by unfold AL;omega)];refine B (λ_=>A rfl) λq2=>?_;have q2:=D_ q2;refine N (Qg (u,d) (F:=l[i].D0) (D:=l[i].I0) ⟨ω,ω⟩ ω) ?_;refine B (λ_=>?_) λ_=>A ⟨k-1,ω,out,i+1,rfl,ω,ho,λa m j hj hij=>ha a m j hj ω⟩;have hp:DutOK b D (out++[aE l[i].D0 l[i].I0 (l[i].E4+1)]):=ho.push ⟨he.1,by show 0≤l[i].E4+1;omega,by show l[i].E4+1≤D;omega⟩ λa m=>ha a m i hi (A_ _);have hlen:=ho.len hb;refine I (f7_ (by simp only[C_,d6_];omega)) (A ⟨k-1,ω,_,i+1,rfl,ω,hp,λa m j hj hij=>?_⟩);rcases n_.1 m with m | m
  ·exact ha a m j hj ω
  ·rw[E_.1 m];exact b3_.1 h.sort i j hi hj ω
 ·intro y hy;cases y with
  |inl z=>exact A ⟨hy,λq=>by cases q⟩
  |inr z=>exact A ⟨by show DutOK b D z.1.1;rw[show z.1.1=[]from hy];exact .nil,λ_=>hy⟩
structure BelOK(b:Bldg)(car:Nat)(x:Belief):Prop where
 fl:-1≤x.D0∧x.D0≤b.C0-1
 dir:0≤x.I0∧x.I0≤3
 door:0≤x.F3∧x.F3≤3
 still:0≤x.Z2∧x.Z2≤1000000
 late:x.R3=true→x.W0=[]
 dut:DutOK b (Kx b car).I1 x.W0
abbrev Al4:=Int×Int×Int×List Duty×Int×Bool×Unit
@[reducible] def Ate(x:Belief):Al4:=(x.D0,x.I0,x.F3,x.W0,x.Z2,x.R3,())
def Bcz(b:O)(car:Nat)(t:Al4):Prop:=∃x,t=Ate x∧BelOK b car x
section
variable{b:O}(hb:b.small)
include hb
theorem Aig{x:Belief}:Adz b car x=E↔BelOK b car x:=by
 unfold Adz inR;simp only[e_,t_,Bkb hb,a4_,Bool.and_eq_false_imp,decide_eq_false_iff_not];constructor
 ·rintro⟨h1,h2,h3,h4,h5,h6⟩;exact⟨h1,h2,h3,h4,λq=>List.length_eq_zero_iff.1 (by have:=h5 q;omega),h6⟩
 ·intro h;exact⟨h.fl,h.dir,h.door,h.still,λq=>(by rw[h.late q];decide),h.dut⟩
theorem BelOK.zero:BelOK b car ⟨0,0,0,[],0,J⟩:=by
 have:=hb.lo
 exact⟨⟨τ,show(0:Int)≤b.C0-1 by omega⟩,τ,τ,τ,λ_=>rfl,.nil⟩
variable(hcode:b.code=0){car:Nat}(hcar:car<b.B0.length){x:Belief}(h:BelOK b car x)
include hcode hcar h
theorem IW:Cs b.C0 b.F0 b.H0 b.M0 b.K0 b.L0 b.N0 b.B0 (car:Int) x.D0 x.I0 x.F3 x.W0 x.Z2 x.R3=L ((E,()),()):=by exact SE hb hcode hcar (c3_ (h.dut.len hb) τ) ((Aig hb).2 h)
theorem Amd:(Kx b car).I1≤1000000000:=by
 have:=Aik hcode (c:=Kx b car) (by unfold Kx;rw[k_,j_ hcar];exact b2_ hcar)
 omega
theorem Agn:H (Nf b.C0 b.F0 b.H0 b.M0 b.K0 b.L0 b.N0 b.B0 (car:Int) x.D0 x.I0 x.F3 x.W0 x.Z2 x.R3) λy=>Bcz b car y.2.1:=by unfold Nf;refine N (IW hb hcode hcar h) (Sat.bifF rfl (I (Ac ω ω) ?_));refine C (Az1 hb (Amd hb hcode hcar h) h.dut 0 0) λy2 h2=>A ⟨⟨x.D0,x.I0,x.F3,y2.1.1,0,y2.1.2.1⟩,rfl,⟨h.fl,h.dir,h.door,?_,h2.2,h2.1⟩⟩;exact show(0:Int)≤0∧(0:Int)≤1000000 from by decide
theorem Ad0:H (Jb b.C0 b.F0 b.H0 b.M0 b.K0 b.L0 b.N0 b.B0 (car:Int) x.D0 x.I0 x.F3 x.W0 x.Z2 x.R3) λy=>Bcz b car y.2.1:=by unfold Jb;refine N (IW hb hcode hcar h) (Sat.bifF rfl (A ⟨⟨x.D0,x.I0,x.F3,[],0,J⟩,rfl,⟨h.fl,h.dir,h.door,?_,λ_=>rfl,.nil⟩⟩));exact show(0:Int)≤0∧(0:Int)≤1000000 from by decide
theorem Ago:H (Ng b.C0 b.F0 b.H0 b.M0 b.K0 b.L0 b.N0 b.B0 (car:Int) x.D0 x.I0 x.F3 x.W0 x.Z2 x.R3) λy=>y.1.1=E→x.F3=2:=by unfold Ng;refine C (Q:=λy=>y.1.1=E→x.F3=2) (N (IW hb hcode hcar h) (I rfl ?_)) λ_ h=>A h;exact B (λ_=>B (λq=>I (Ac ω ω) (A λ_=>eq_of_beq q)) λ_=>A λq=>by cases q) λ_=>A λq=>by cases q
theorem Abx(o p q:Int):H (KT b.C0 b.F0 b.H0 b.M0 b.K0 b.L0 b.N0 b.B0 (car:Int) x.D0 x.I0 x.F3 x.W0 x.Z2 x.R3 o p q) λy=>∃v,y.2.1=Ate v∧BelOK b car v∧(v.F3=2→q=2):=by
 unfold KT;refine N (IW hb hcode hcar h) (Sat.bifF rfl ?_);refine C (Q:=λy=>y.1.1=E→(-1≤o∧o≤b.C0-1)∧(0≤p∧p≤3)∧0≤q∧q≤3) ?_ λy2 h2=>?_
 ·unfold FU;refine C (Q:=λy=>y.1.1=E→(-1≤o∧o≤b.C0-1)∧(0≤p∧p≤3)∧0≤q∧q≤3) ?_ λ_ h=>A h;refine C (isFloors_ti _).out λ_ _=>B (λ_=>?_) λ_=>A λg=>(by cases g)
  refine B (λg1=>?_) λ_=>A λg=>(by cases g)
  refine B (λg2=>?_) λ_=>A λg=>(by cases g)
  refine B (λg3=>?_) λ_=>A λg=>(by cases g)
  refine B (λg4=>?_) λ_=>A λg=>(by cases g)
  refine B (λg5=>A λg6=>?_) λ_=>A λg=>(by cases g)
  have g2:=m_ g2;exact⟨⟨m_ g1,ω⟩,⟨m_ g3,m_ g4⟩,m_ g5,m_ g6⟩
 refine B (λ_=>A ⟨⟨0,0,0,[],0,J⟩,rfl,BelOK.zero hb,λe=>absurd e (show ¬(0:Int)=2 by decide)⟩) λk=>I (Ac ω ω) ?_;obtain⟨ho,hp,hq⟩:=h2 (by simpa using k);refine C (NL ..) λy3 _=>C (Az1 hb (Amd hb hcode hcar h) h.dut _ _) λy4 h4=>?_;have i0:(0:Int)≤0∧(0:Int)≤1000000:=by decide
 refine C (Q:=λ(y:(Unit×Unit×Unit×Int×Unit)×(Al4×(Int×Int×Int×Unit)×Al4×Unit))=>(y.2.1=Ate ⟨x.D0,x.I0,x.F3,y4.1.1,x.Z2,y4.1.2.1⟩∧y.2.2.1=(o,p,q,()))∧0≤y.1.2.2.2.1∧y.1.2.2.2.1≤1000000) ?_ ?_
 ·refine C (Q:=λy=>(y.2.1=Ate ⟨x.D0,x.I0,x.F3,y4.1.1,x.Z2,y4.1.2.1⟩∧y.2.2.1=(o,p,q,()))∧y.1.2.2.2.1=0) ?_ ?_
  ·exact B (λ_=>B (λ_=>A ⟨⟨rfl,rfl⟩,rfl⟩) λ_=>A ⟨⟨rfl,rfl⟩,rfl⟩) λ_=>A ⟨⟨rfl,rfl⟩,rfl⟩
  ·intro y5 h5;refine B (λ_=>A ⟨h5.1,?_⟩) λ_=>A ⟨h5.1,?_⟩
   ·rw[h5.1.1];exact KK h.still
   ·show 0≤y5.1.2.2.2.1∧y5.1.2.2.2.1≤1000000;rw[h5.2];exact i0
 rintro⟨⟨a1,a2,a3,n,a4⟩,t,v,w,z⟩ ⟨⟨e1,e2⟩,hn⟩;change t=_ at e1;change v=_ at e2;subst e1 e2;exact Sat.bindC (λ_=>Sat.bindR (A ⟨⟨o,p,q,y4.1.1,n,y4.1.2.1⟩,rfl,⟨ho,hp,hq,hn,h4.2,h4.1⟩,id⟩)) λ_=>Sat.bindR (A ⟨⟨x.D0,p,q,y4.1.1,n,y4.1.2.1⟩,rfl,⟨h.fl,hp,hq,hn,h4.2,h4.1⟩,id⟩)
end
def Byi(a c:Duty):∃n:Int,CO a.D0 a.I0 a.E4 c.D0 c.I0 c.E4=L ((n,()),())∧(n<0↔Vn a c=E)∧(n=0↔a.D0=c.D0∧a.I0=c.I0):=by
 unfold CO;rw[Ig,Ig];simp only[a_];rw[YD];refine⟨_,rfl,?_⟩;unfold Vn WT;by_cases h1:a.D0<c.D0
 ·simp[h1];omega
 ·by_cases h2:c.D0<a.D0
  ·simp[h1,h2];omega
  ·by_cases h3:a.I0<c.I0
   ·simp[h1,h2,h3];omega
   ·by_cases h4:c.I0<a.I0
    ·simp[h1,h2,h3,h4];omega
    ·simp[h1,h2,h3,h4];omega
def Bqh{j:Nat}(h:i+j<9223372036854775808):aC.wrap (Int.fdiv (aD IntKind.u64 (aD aC ((i:Int)+(j:Int)))) ((2:Int)^(Min.min (P (1:Int)) (IntKind.bits IntKind.u64))))=(((i+j)/2:Nat):Int):=Ai9 h
section
variable{b:O}(hb:b.small){D:Int}{l:List Duty}(h:DutOK b D l){F Dr:Int}(hD:1≤Dr∧Dr≤2)
include hb h hD
theorem Arb(hi:i<l.length):∃n:Int,CO l[i].D0 l[i].I0 l[i].E4 F Dr 0=L ((n,()),())∧(n<0↔dK l[i]<4*F+Dr)∧(n=0↔dK l[i]=4*F+Dr):=by obtain⟨n,h1,h2,h3⟩:=Byi l[i] (aE F Dr 0);have hc:=Fx hb (h.each _ (b2_ hi)).1;refine⟨n,h1,h2.trans (Zb hc.2 hD),h3.trans ?_⟩;unfold dK;simp only;omega
theorem Bgd:H (At ((l,(),(),(l.length:Int),0,(l.length:Int),()),((F,Dr,0,()),()))) λy=>∃p:Nat,y=((l,(),(),(l.length:Int),(p:Int),()),((F,Dr,0,()),()))∧p≤l.length∧(∀i (hi:i<l.length),i<p→dK l[i]<4*F+Dr)∧∀i (hi:i<l.length),p≤i→4*F+Dr≤dK l[i]:=by
 have hl:=h.len hb;unfold At;refine Sat.loop (λk x=>∃i j:Nat,x=((l,(),(),(l.length:Int),(i:Int),(j:Int),()),((F,Dr,0,()),()))∧j≤i+k∧i≤j∧j≤l.length∧(∀a (ha:a<l.length),a<i→dK l[a]<4*F+Dr)∧∀a (ha:a<l.length),j≤a→4*F+Dr≤dK l[a]) ?_ l.length ⟨0,l.length,rfl,ω,ω,ω,λa _ g=>by omega,λa _ g=>by omega⟩ ω;rintro k x ⟨i,j,rfl,hk,hij,hj,h1,h2⟩;show H (AW l (l.length:Int) (i:Int) (j:Int) F Dr 0) _;unfold AW;refine B (λq=>?_) λq=>A ?_
 ·have q:=m_ q;have hm:(i+j)/2<l.length:=ω;rw[Bqh ω];refine I (Ac ω ω) ?_;have g:List.getD l (P (((i+j)/2:Nat):Int)) (aE 0 0 0)=l[(i+j)/2]:=gD hm;simp only[g,ER hm (show l.length≤AL by unfold AL;omega)];obtain⟨n,c1,c2,c3⟩:=Arb hb h (F:=F) hD hm;refine N c1 (B (λg2=>A ⟨k-1,ω,(i+j)/2+1,j,rfl,ω,ω,hj,λa ha g3=>?_,h2⟩) λg2=>A ⟨k-1,ω,i,(i+j)/2,rfl,ω,ω,ω,h1,λa ha g3=>?_⟩)
  ·have:=c2.1 (m_ g2)
   rcases g3_ a ((i+j)/2)with g4 | g4
   ·have:=b3_.1 h.sort a _ ha hm g4
    omega
   ·obtain rfl:a=(i+j)/2:=ω;exact this
  ·have:¬dK l[(i+j)/2]<4*F+Dr:=λe=>D_ g2 (c2.2 e)
   rcases g3_ ((i+j)/2) a with g4 | g4
   ·have:=b3_.1 h.sort _ a hm ha g4
    omega
   ·obtain rfl:a=(i+j)/2:=ω;omega
 ·have q:=D_ q;exact⟨i,rfl,ω,h1,λa ha g=>h2 a ha ω⟩
theorem Bqc:H (AI l F Dr 0) λy=>∃p:Nat,y.1.1=(p:Int)∧p≤l.length∧(∀i (hi:i<l.length),i<p→dK l[i]<4*F+Dr)∧(y.1.2.1=J→∀i (hi:i<l.length),p≤i→4*F+Dr<dK l[i]):=by
 have hl:=h.len hb;unfold AI;refine C (Bgd hb h (F:=F) hD) ?_;rintro y ⟨p,rfl,hp,h1,h2⟩;refine C (Q:=λy=>y.1.1=(p:Int)∧(y.1.2.1=J→∀i (hi:i<l.length),p≤i→4*F+Dr<dK l[i])) (B (λq=>?_) λq=>A ⟨rfl,λ_ i hi g=>?_⟩) λy hy=>A ⟨p,hy.1,hp,h1,hy.2⟩
 ·have q:p<l.length:=by have:=m_ q;exact Int.ofNat_lt.1 this
  refine I (Ac (Int.natCast_nonneg p) (Int.ofNat_lt.2 q)) ?_;have g:List.getD l (P (p:Int)) (aE 0 0 0)=l[p]:=gD q;simp only[g];obtain⟨n,c1,c2,c3⟩:=Arb hb h (F:=F) hD q;refine N c1 (A ⟨rfl,λe i hi g2=>?_⟩);have e:¬n=0:=λe0=>by rw[e0]at e;cases e
  have e:=mt c3.2 e
  have:=h2 p q (A_ _)
  rcases g3_ p i with g4 | g4
  ·have:=b3_.1 h.sort _ i q hi g4
   omega
  ·obtain rfl:i=p:=ω;omega
 ·have:=D_ q
  have:¬p<l.length:=λe=>this (Int.ofNat_lt.2 e)
  omega
theorem Bvc(hc:Ap b F Dr=E)(h0:0≤D){p:Nat}(hp:p≤l.length)(h1:∀i (hi:i<l.length),i<p→dK l[i]<4*F+Dr)(h2:∀i (hi:i<l.length),p≤i→4*F+Dr<dK l[i]):H (CK l (p:Int) [aE F Dr 0]) λy=>DutOK b D y.1.1∧y.1.1≠[]:=by
 have hl:=h.len hb;unfold CK Aci;refine I ?_ (A ⟨⟨λe he=>?_,?_⟩,?_⟩)
 ·simp;omega
 ·rcases n_.1 he with he | he
  ·rcases n_.1 he with he | he
   ·exact h.each e (d8_ he)
   ·rw[E_.1 he];exact⟨hc,c7_ 0,h0⟩
  ·exact h.each e (d9_ he)
 ·have ht:∀a∈l.take p,dK a<4*F+Dr:=λa ha=>by
   obtain⟨i,hi,rfl⟩:=List.mem_take_iff_getElem.1 ha;exact h1 i ω ω
  have hd:∀a∈l.drop p,4*F+Dr<dK a:=λa ha=>by obtain⟨i,hi,rfl⟩:=List.mem_drop_iff_getElem.1 ha;exact h2 (p+i) ω ω
  show((l.take p++[aE F Dr 0])++l.drop p).Pairwise _;refine f9_.2 ⟨f9_.2 ⟨h.sort.take,List.pairwise_singleton ..,λa ha c hc=>?_⟩,h.sort.drop,λa ha c hc=>?_⟩
  ·rw[E_.1 hc];exact ht a ha
  ·rcases n_.1 ha with ha | ha
   ·exact Int.lt_trans (ht a ha) (hd c hc)
   ·rw[E_.1 ha];exact hd c hc
 ·simp
end
def At9(z:α)(l:List α):Lo (List.replicate (P (l.length:Int)) z) l=l:=by unfold Lo;simp
def Cgf(c:Int×Int):(Ft c).length≤64:=by
 have h:∀k i:Nat,((List.range' i k).flatMap (LL c)).length≤2*k:=by
  intro k;induction k with
  |zero=>intro i;exact A_ _
  |succ k ih=>
   intro i;rw[e7_,a3_,i_]
   have:=ih (i+1)
   have:=Aeh c i
   omega
 exact h 32 0
def Cgi(h:e∈Ft c):(0≤e.D0∧e.D0<32)∧(e.I0=1∨e.I0=2)∧An c e.D0.toNat e.I0=E:=by obtain⟨f,h1,h2,h3,h4⟩:=mem_range.1 (b6_.2 ⟨e,h,rfl⟩);simp only[BS]at h2 h3 h4;refine⟨ω,h3,?_⟩;rw[h2,h_];exact h4
def Bag(hb:b.small)(hcode:b.code=0)(h:e∈Ft (Cz c (Bz b))):Ap b e.D0 e.I0=E:=by obtain⟨h1,h2,h3⟩:=Cgi h;rw[Jz,e_,Xt hb hcode ω h2,f3_ h1.1]at h3;exact h3.2
section
variable{b:O}(hb:b.small)(hcode:b.code=0){car:Nat}(hcar:car<b.B0.length){x:Belief}(h:BelOK b car x)
include hb hcode hcar h
theorem Akn{es:List Entry}(he:∀e∈es,Ap b e.D0 e.I0=E)(hl:es.length≤1000)(z:Al4):H (HH (((),(),es,(es.length:Int),0,()),((x.D0,x.I0,x.F3,x.W0,x.Z2,x.R3,()),z,()))) λy=>∃du,y.2.1=(x.D0,x.I0,x.F3,du,x.Z2,x.R3,())∧DutOK b (Kx b car).I1 du:=by
 have hd:=Aik hcode (c:=Kx b car) (by unfold Kx;rw[k_,j_ hcar];exact b2_ hcar);unfold HH;refine Sat.loop (λk y=>∃(du:List Duty) (i:Nat),y=(((),(),es,(es.length:Int),(i:Int),()),((x.D0,x.I0,x.F3,du,x.Z2,x.R3,()),z,()))∧i+k=es.length∧DutOK b (Kx b car).I1 du) ?_ es.length ⟨x.W0,0,rfl,ω,h.dut⟩ ω;rintro k y ⟨du,i,rfl,hk,ho⟩;show H (NK es (es.length:Int) (i:Int) x.D0 x.I0 x.F3 du x.Z2 x.R3 z.1 z.2.1 z.2.2.1 z.2.2.2.1 z.2.2.2.2.1 z.2.2.2.2.2.1) _;unfold NK;refine B (λq=>?_) λ_=>A ⟨du,rfl,ho⟩;have hi:i<es.length:=by have:=m_ q;omega
 refine I (Ac ω ω) ?_;have g:List.getD es (P (i:Int)) (Entry.mk 0 0 0 0 J)=es[i]:=by simp only[h_,k_,j_ hi,Option.getD_some]
 simp only[g,ER hi (show es.length≤AL by unfold AL;omega)];have hc:=he _ (b2_ hi);refine C (Bqc hb ho (F:=es[i].D0) (Fx hb hc).2) ?_;rintro y1 ⟨p,e1,hp,h1,h2⟩;refine B (λq=>?_) λ_=>A ⟨k-1,ω,du,i+1,rfl,ω,ho⟩;rw[e1];refine C (Bvc hb ho (Fx hb hc).2 hc hd.1 hp h1 (h2 (by simpa using q))) λy2 hy=>A ⟨k-1,ω,y2.1.1,i+1,rfl,ω,hy.1⟩
theorem Ad1(u d:Int):H (Mg b.C0 b.F0 b.H0 b.M0 b.K0 b.L0 b.N0 b.B0 (car:Int) x.D0 x.I0 x.F3 x.W0 x.Z2 x.R3 u d) λy=>Bcz b car y.2.1:=by
 have hl:=h.dut.len hb;unfold Mg;refine N (IW hb hcode hcar h) (Sat.bifF rfl (I ?_ ?_))
 ·simp;omega
 refine N (Lm hb hcode) (N (Gb (u,d) (Bz b)) (N (XZ (Cz (u,d) (Bz b))) ?_));simp only[At9];refine C (Akn hb hcode hcar h (λe he=>Bag hb hcode he) ?_ _) ?_
 ·have:=Cgf (Cz (u,d) (Bz b))
  omega
 rintro⟨a,t,w⟩ ⟨du,e,ho⟩;change t=_ at e;subst e;refine Sat.bindC (λ_=>Sat.bindR (A ⟨⟨x.D0,x.I0,x.F3,du,x.Z2,(du.length:Int)==0⟩,rfl,⟨h.fl,h.dir,h.door,h.still,λq=>?_,ho⟩⟩)) λ_=>Sat.bindR (A ⟨⟨x.D0,x.I0,x.F3,du,x.Z2,J⟩,rfl,⟨h.fl,h.dir,h.door,h.still,λq=>(by cases q),ho⟩⟩);have q:(du.length:Int)=0:=by simpa using q
 exact(List.length_eq_zero_iff (l:=du)).1 ω
end
def An7(f d r p:Int)(e u o:Nat)(cs:List Car)(x:Nat):H (Pu f d r p e u o cs x) λy=>0≤y.1.1∧y.1.1≤4:=by unfold Pu;refine B (λ_=>A τ) λ_=>B (λ_=>A τ) λ_=>B (λ_=>A τ) λ_=>B (λ_=>A τ) λ_=>A τ
def Aqi(full:H (arF .sub .f64 b.L0 4589168020290535424) λ_=>True)(over:H (arF .sub .f64 b.N0 4589168020290535424) λ_=>True)(s:Int)(x:Nat):H (Rm b.C0 b.F0 b.H0 b.M0 b.K0 b.L0 b.N0 b.B0 s x) λy=>0≤y.2.1.1∧y.2.1.1≤4:=by
 unfold Rm;refine N (AR b) (B (λ_=>A ⟨c7_ 0,show(0:Int)≤4 from by decide⟩) λ_=>C (An7 ..) λy2 h2=>?_);refine C (Q:=λy=>y.1.2.2.2.2.1=y2.1.1∧y.2.1=b.tup) (B (λ_=>A ⟨rfl,rfl⟩) λ_=>A ⟨rfl,rfl⟩) λy3 h3=>?_;have k:0≤y3.1.2.2.2.2.1∧y3.1.2.2.2.2.1≤4:=by rw[h3.1];exact h2
 refine B (λ_=>B (λq=>?_) λ_=>B (λq=>?_) λ_=>A k) λ_=>A k
 ·have q:y3.2.2.1.1=3:=by simpa using q
  rw[h3.2];refine C full λ_ _=>B (λ_=>A ?_) λ_=>A k;show 0≤y3.2.2.1.1∧y3.2.2.1.1≤4;omega
 ·have q:y3.2.2.1.1=4:=by simpa using q
  rw[h3.2];refine C over λ_ _=>B (λ_=>A ?_) λ_=>A k;show 0≤y3.2.2.1.1∧y3.2.2.1.1≤4;omega
def Yy{c:Bool}{x y r:α}(h:c=E)(h2:x=r):(bif c then x else y)=r:=by subst h;exact h2
def Akc(hcode:b.code=0){car:Int}(hc:0≤car∧car<(b.B0.length:Int)){k v:Int}(h:(k=4∧0≤v∧v≤4)∨((k=5∨k=6)∧0≤v∧v≤1)):Au b (Record.mk k 0 0 car v)=E:=by unfold Au Ub inR;simp only[hcode];rcases h with⟨rfl,h⟩ | ⟨rfl | rfl,h⟩<;>simp<;>omega
def phA(m:Img)(i:Nat):Int:=m.G0.getD i 0
def flA(m:Img)(i:Nat):Bool:=m.O0.getD i J
def lvA(m:Img)(i:Nat):Bool:=m.J0.getD i J
def Sh(m:Img)(i:Nat):Bool:=(phA m i==0||phA m i==4)&&(!flA m i&&!lvA m i)
def FR(m:Img)(i:Nat):Bool:=phA m i==0||(phA m i==1||phA m i==4)
section
variable{b:O}{m:Img}(hm:ImgOK b m)
include hm
theorem Anr(hi:i<b.B0.length):LE m.G0 m.O0 m.J0 m.A0 (i:Int)=L ((E,()),()):=by unfold LE;simp only[hm.lp,hm.lf,hm.ll,b_ (ω:(0:Int)≤(i:Int)),f_ (M_ (b.B0.length:Int)),d_,c_,b_ (ω:(i:Int)<(b.B0.length:Int)),a_]
theorem Al3(hi:i<b.B0.length):LD m.G0 m.O0 m.J0 m.A0 (i:Int)=L ((Sh m i,()),()):=by have i1:inB (i:Int) m.G0.length=E:=Ac ω (by rw[hm.lp];omega);have i2:inB (i:Int) m.O0.length=E:=Ac ω (by rw[hm.lf];omega);have i3:inB (i:Int) m.J0.length=E:=Ac ω (by rw[hm.ll];omega);unfold LD Sh phA flA lvA;refine Ae (a:=(((m.G0.getD i 0==0||m.G0.getD i 0==4)&&(!m.O0.getD i J&&!m.J0.getD i J),()),())) (Ae (Anr hm hi) ?_) rfl;simp only[i1,i2,i3,d_,h_];cases m.G0.getD i 0==0<;>cases m.G0.getD i 0==4<;>cases m.O0.getD i J<;>rfl
theorem WE(hi:i<b.B0.length):Hm m.G0 m.O0 m.J0 m.A0 (i:Int)=L ((FR m i,()),()):=by have i1:inB (i:Int) m.G0.length=E:=Ac ω (by rw[hm.lp];omega);unfold Hm FR phA;refine Ae (Anr hm hi) ?_;simp only[i1,d_,c_,o_,h_];cases m.G0.getD i 0==0<;>cases m.G0.getD i 0==1<;>rfl
theorem Bkk:∃fr:Bool,CY m.G0 m.O0 m.J0 m.A0=L ((fr,()),()):=by
 have hcc:=Aj hm.code;have hp:=hm.lp;have hl:=hm.ll;have h:H (CY m.G0 m.O0 m.J0 m.A0) λ_=>True:=by
  unfold CY Gy;refine C (Q:=λ_=>True) (Sat.loop (λk x=>∃i:Nat,x=(((),m.G0,(m.G0.length:Int),(i:Int),()),((m.G0,m.O0,m.J0,m.A0,()),()))∧i+k=m.G0.length) ?_ m.G0.length ⟨0,rfl,ω⟩ ω) λy _=>?_
  ·rintro k x ⟨i,rfl,hk⟩;show H (Kq m.G0 (m.G0.length:Int) (i:Int) m.G0 m.O0 m.J0 m.A0) _;unfold Kq;refine B (λq=>?_) λ_=>A trivial;have hi:i<m.G0.length:=by have:=m_ q;omega
   refine I (Ac ω ω) ?_;simp only[ER hi (show m.G0.length≤AL by unfold AL;omega)];refine B (λ_=>A trivial) λ_=>B (λ_=>A trivial) λ_=>B (λ_=>A trivial) λ_=>?_;exact I (Ac ω ω) (B (λ_=>A trivial) λ_=>A ⟨k-1,ω,i+1,rfl,ω⟩)
  ·cases y with
   |inl _=>exact A trivial
   |inr _=>exact A trivial
 obtain⟨y,h,_⟩:=h;exact⟨y.1.1,h⟩
end
def NS(m:Img)(i:Nat)(calm fr:Bool)(kind:Int):List Record×Int:=
 bif kind==1&&phA m i==0 then(bif fr then([⟨4,0,0,i,1⟩],0)else([],261))
 else bif(kind==2&&phA m i==1)then([⟨4,0,0,i,0⟩],0)
 else bif(kind==3&&phA m i==2)then([⟨4,0,0,i,0⟩],0)
 else bif(kind==2&&(phA m i==4&&lvA m i))then([⟨6,0,0,i,0⟩],0)
 else bif(kind==4&&phA m i==2)then([⟨4,0,0,i,3⟩],0)
 else bif(kind==5&&phA m i==3)then(bif calm then([⟨4,0,0,i,2⟩],0)else([],262))
 else bif(kind==6&&phA m i==3)then(bif !flA m i then([⟨4,0,0,i,4⟩],0)else([],262))
 else bif(kind==7&&(phA m i==4&&!lvA m i))then(bif fr then([⟨6,0,0,i,1⟩],0)else([],261))
 else bif(kind==8&&flA m i)then([⟨5,0,0,i,0⟩],0)else([],260)
section
variable{b:O}{m:Img}(hm:ImgOK b m){i:Nat}(hi:i<b.B0.length)
include hm hi
theorem Ble(ok:Bool)(e:Int)(l:List Record):DB ok e l=L (((bif ok then(l,(0:Int))else([],e)).1,(bif ok then(l,(0:Int))else([],e)).2,()),()):=by unfold DB;cases ok<;>rfl
theorem Bva(calm:Bool)(p:Int):Bt m.G0 m.O0 m.J0 m.A0 (i:Int) calm p=L ((phA m i==p,()),()):=by unfold Bt;rw[Ac ω (by rw[hm.lp];omega),d_];rfl
theorem Bd4{fr:Bool}(hf:CY m.G0 m.O0 m.J0 m.A0=L ((fr,()),()))(calm:Bool)(kind:Int):IA m.G0 m.O0 m.J0 m.A0 (i:Int) calm kind=L (((NS m i calm fr kind).1,(NS m i calm fr kind).2,()),()):=by
 have ifl:inB (i:Int) m.O0.length=E:=Ac ω (by rw[hm.lf];omega);have it:=Bva hm hi calm;have wi:=Ble hm hi;unfold IA NS;rw[Ac ω (show(i:Int)<(m.J0.length:Int)by rw[hm.ll];omega),d_]
 let T:=((m.G0,m.O0,m.J0,m.A0,(i:Int),calm,()),(m.G0,m.O0,m.J0,m.A0,()),())
 have st:∀(k p:Int),(bif kind==k then(Bt m.G0 m.O0 m.J0 m.A0 (i:Int) calm p).bind λy1=>L ((kind,(),(),lvA m i,y1.1.1,()),T)else L ((kind,(),(),lvA m i,J,()),T))=L ((kind,(),(),lvA m i,(kind==k&&phA m i==p),()),T):=λk p=>by
  cases kind==k with
  |true=>exact Ae (it p) rfl
  |false=>rfl
 refine Ae (st 1 0) ?_;show(bif(kind==1&&phA m i==0)then _ else _)=_;cases kind==1&&phA m i==0 with
 |true=>refine Ae hf (Ae (a:=(([Record.mk 4 0 0 i 1],()),())) rfl (Ae (wi fr 261 [⟨4,0,0,i,1⟩]) ?_));cases fr<;>rfl
 |false=>
 refine Ae (st 2 1) ?_;show(bif(kind==2&&phA m i==1)then _ else _)=_;cases h2:kind==2&&phA m i==1 with
 |true=>rfl
 |false=>
 refine Ae (st 3 2) ?_;show(bif(kind==3&&phA m i==2)then _ else _)=_;cases kind==3&&phA m i==2 with
 |true=>rfl
 |false=>
 refine Ae (a:=((kind,(),(),lvA m i,(kind==2&&(phA m i==4&&lvA m i)),()),T)) ?_ ?_
 ·show(bif kind==2 then(Bt m.G0 m.O0 m.J0 m.A0 (i:Int) calm 4).bind _ else _)=_;cases kind==2 with
  |false=>rfl
  |true=>refine Ae (it 4) ?_;show(bif phA m i==4 then _ else _)=_;cases phA m i==4<;>rfl
 show(bif(kind==2&&(phA m i==4&&lvA m i))then _ else _)=_;cases kind==2&&(phA m i==4&&lvA m i)with
 |true=>rfl
 |false=>
 refine Ae (st 4 2) ?_;show(bif(kind==4&&phA m i==2)then _ else _)=_;cases kind==4&&phA m i==2 with
 |true=>rfl
 |false=>
 refine Ae (st 5 3) ?_;show(bif(kind==5&&phA m i==3)then _ else _)=_;cases kind==5&&phA m i==3 with
 |true=>rw[d_];refine Ae (a:=(([Record.mk 4 0 0 i 2],()),())) rfl ?_;refine Ae (wi calm 262 [⟨4,0,0,i,2⟩]) ?_;cases calm<;>rfl
 |false=>
 refine Ae (st 6 3) ?_;show(bif(kind==6&&phA m i==3)then _ else _)=_;cases kind==6&&phA m i==3 with
 |true=>show(bif inB (i:Int) m.O0.length then _ else _)=_;rw[ifl,d_];refine Ae (a:=(([Record.mk 4 0 0 i 4],()),())) rfl ?_;refine Ae (wi (!flA m i) 262 [⟨4,0,0,i,4⟩]) ?_;cases flA m i<;>rfl
 |false=>
 refine Ae (a:=((kind,(),(),(kind==7&&(phA m i==4&&!lvA m i)),()),T)) ?_ ?_
 ·show(bif kind==7 then(Bt m.G0 m.O0 m.J0 m.A0 (i:Int) calm 4).bind _ else _)=_;cases kind==7 with
  |false=>rfl
  |true=>refine Ae (it 4) ?_;show(bif phA m i==4 then _ else _)=_;cases phA m i==4<;>rfl
 show(bif(kind==7&&(phA m i==4&&!lvA m i))then _ else _)=_;cases kind==7&&(phA m i==4&&!lvA m i)with
 |true=>refine Ae hf (Ae (wi fr 261 [⟨6,0,0,i,1⟩]) ?_);cases fr<;>rfl
 |false=>
 refine Ae (a:=(((),(kind==8&&flA m i),()),(T.1,()))) ?_ ?_
 ·show(bif kind==8 then(bif inB (i:Int) m.O0.length then _ else _)else _)=_;cases kind==8 with
  |false=>rfl
  |true=>rw[ifl];rfl
 show(bif(kind==8&&flA m i)then _ else _)=_;cases kind==8&&flA m i<;>rfl
end
end Go.Ovl
