import Derived.Test.YtnfjkodplikhjaaGreatDoorOvA
import Derived.Test.YtnfjkodplikhjaaGreatDoorDefs5
set_option linter.all false
set_option maxRecDepth 100000
open Go.Ovl.Sat renaming ret->A,bic->C,bindS->I,bifT->aE,bindE->aN,loop->aZ,bifF->bA
open Bool renaming true->B,false->J,not_false->bB,not_eq_false'->bH
open Go.IntKind renaming wrap->H,i64->U,u64->aB,u32->aD,u16->aL,u8->aM
open Go.Ovl renaming Bldg->O,noE->V,Sat->W,Entry->aA,View->aC,Record->aG,Img->aH,inR->aI,CarInput->aP,Calls->aS,NewCar->aW
open Option renaming some->R,bind->bG
open Go renaming b_->Z
open Int renaming toNat->aF,tmod->aO,fdiv->aQ,tdiv->aU,le_of_lt->bC,lt_of_lt_of_le->bD,toNat_of_nonneg->bI
open Min renaming min->aJ
open BitVec renaming ofInt->aK,toNat->aR
open List renaming replicate->aT,range->aV,cons_append->bJ,singleton_append->bK
open Go.Ovl.Entry renaming mk->aX
open Go.Ovl.Record renaming mk->aY
open Nat renaming and_le_right->bE
namespace Go.Ovl
open Go Go.Ab
variable{b:O}{s:ByteArray}{i k car t:Nat}{e:aA}{xs:List Int}{vs:List aC}{n fl D f d:Int}{α:Type}{m:aH}{l:List aG}{E es:List aA}{c:Int×Int}{calm:List Bool}{x:aW}{r:aG}{fr:Bool}
def C2(fl n:Int):Prop:=0<=n/\n.toNat<2^fl.toNat
def C2.zero:C2 fl 0:=⟨b8_ 0,Nat.two_pow_pos _⟩
def C2.vb{v:BitVec 32}(h:v.toNat<2^fl.toNat):C2 fl<|vb v:=⟨Int.natCast_nonneg _,h⟩
def C2.bv(h:C2 fl n):(bv n).toNat<2^fl.toNat:=by
 refine f3_ ?_ h.2
 have:=h.1
 show(aK 32 n).toNat<=n.toNat;rw[a9_];omega
def C2.and{x y:Int}(h:C2 fl y):C2 fl<|H aD<|stk x y<|aR<|aK (IntKind.bits .u32) x&&&aK (IntKind.bits .u32) y:=by rw[Aii];refine C2.vb ?_;exact f3_ bE h.bv
def C2.andNot{x y:Int}(h:C2 fl x):C2 fl<|H aD<|stk x y<|aR<|aK (IntKind.bits .u32) x&&& ~~~ aK (IntKind.bits .u32) y:=by rw[YQ];refine C2.vb ?_;exact f3_ Nat.and_le_left h.bv
def C2.or{x y:Int}(h:C2 fl x)(a:C2 fl y):C2 fl<|H aD<|stk x y<|aR (aK (IntKind.bits .u32) x|||BitVec.ofInt (IntKind.bits .u32) y):=by rw[Bhc];refine C2.vb ?_;exact Nat.or_lt_two_pow h.bv a.bv
def C2.all(h:2<=fl/\fl<=8):C2 fl<|H aD<|H aD (1*2^min (aF fl) (IntKind.bits .u32))-1:=by
 unfold C2
 have:fl=2\/fl=3\/fl=4\/fl=5\/fl=6\/fl=7\/fl=8:=ω
 rcases this with e|e|e|e|e|e|e<;>rw[e]<;>decide
def QZ:(aQ n ((2:Int)^aF fl)==0)=B↔C2 fl n:=by
 have hp:(0:Int)<2^aF fl:=Int.pow_pos τ;have o:((2^aF fl:Nat):Int)=2^aF fl:=by rfl
 rw[R_ _<|bC hp,a1_];unfold C2;constructor
 .intro h;have h1:=Int.mul_ediv_add_emod n<|2^aF fl;rw[h,Int.mul_zero,Int.zero_add]at h1;have a:=Int.emod_nonneg n<|Int.ne_of_gt hp;have j:=Int.emod_lt_of_pos n hp;rw[h1]at a j;refine⟨a,?_⟩;omega
 .intro h;refine Int.ediv_eq_zero_of_lt h.1 ?_;omega
structure Sx(fl:Int)(x:NewCar):Prop where
 sw:S2 x.S1 x.E1
 dr:D5 x.X0 x.L1 x.I1 x.K1 x.F1
 mt:M3 fl x.U0 x.Z0 x.V0
 ca:C2 fl x.I2
 sh:dir2 x.H3
 idle:0<=x.V3/\x.V3<=1000000
 nf:x.J3=false
def Mz(x:aW):Prop:=x.U0=0/\x.Z0=0/\x.V0=0
def Arb(x:aW):Ara x=B↔Mz x:=by unfold Ara Mz;simp
def Sy(fl:Int)(x:aW):Prop:=Sx fl x/\(x.X0=0\/Mz x)
def Ak4(h:D5 x.X0 x.L1 x.I1 x.K1 x.F1):SS x=B↔x.X0=0:=by
 unfold SS;rcases h with⟨h1,j,p,a,o⟩|h
 .rw[h1,j,p,a,o];decide
 .have:¬x.X0=0:=ω
  simp[this]
def WX(hb:b.small)(hf:x.J3=J):Hr b x=B↔Sy b.C0 x:=by
 have lo:=hb.lo;unfold Hr;rw[hf,g_];unfold Ako Qu Ahs aI;simp only[a_,V_,t_,Agc,Alw ω,QZ,Arb];constructor
 .rintro⟨h1,j,u,a,q,p,o⟩;rw[Ak4 j]at a;exact⟨⟨⟨h1.1,h1.2⟩,j,u,q,p,o,hf⟩,a⟩
 .rintro⟨h,a⟩;exact⟨⟨h.sw.1,h.sw.2⟩,h.dr,h.mt,a.imp_left (Ak4 h.dr).2,h.ca,h.sh,h.idle⟩
def D5.one:D5 1 0 0 J 0:=D5.at τ τ τ τ τ
abbrev Avx:=Int×Int×Int×Int×Int×Bool×Int×Int×Int×Int×Int×Int×Int×Bool×Unit
abbrev Aoo:=Int×Int×Int×Int×Nat×Nat×Nat×List Car×Int×Int×Int×Int×Int×Int×Bool×Int×Int×Int×Int×Int×Int×Int×Bool×Int×Bool×Int×Bool×Int×Unit
@[reducible] def Ql(b:O)(car:Int)(x:aW)(f:Int)(l:Bool)(d:Int)(k:Bool)(c:Int):Aoo:=(b.C0,b.E0,b.J0,b.M0,b.K0,b.N0,b.O0,b.B0,car,x.S1,x.E1,x.X0,x.L1,x.I1,x.K1,x.F1,x.U0,x.Z0,x.V0,x.I2,x.H3,x.V3,x.J3,f,l,d,k,c,())
section
variable{b:O}(hb:b.small){car f:Int}(hf:0<=f/\f<b.C0){x:aW}(l:Bool)(d:Int)(k:Bool)(c:Int)
include hb
theorem Ug(hcar:0<=car/\car<b.B0.length):W (CE<|newcar_control.mk b.C0 b.E0 b.J0 b.M0 b.K0 b.N0 b.O0 b.B0 car x.S1 x.E1 x.X0 x.L1 x.I1 x.K1 x.F1 x.U0 x.Z0 x.V0 x.I2 x.H3 x.V3 x.J3 f l d k c) λ_=>True:=by exact aE (Ac hcar.1 hcar.2)<|A trivial
include hf
theorem Ath(p:Int)(h:Sx b.C0 x):W (FW p b.C0 b.E0 b.J0 b.M0 b.K0 b.N0 b.O0 b.B0 car x.S1 x.E1 x.X0 x.L1 x.I1 x.K1 x.F1 x.U0 x.Z0 x.V0 x.I2 x.H3 x.V3 x.J3 f l d k c) λy=>∃n,y.2.1=Ql b car { x with I2:=n } f l d k c/\C2 b.C0 n:=by
 have lo:=hb.lo;have hi:=hb.hi;refine aE (Z ω) ?_;refine I (Q:=λy=>y.2.1=Ql b car x f l d k c/\C2 b.C0 y.1.2.1) ?_ λy a=>?_
 .exact C (λ_=>aE (Z hf.1)<|A ⟨rfl,(C2.all ⟨ω,hi⟩).and.andNot⟩) λ_=>A ⟨rfl,(C2.all ⟨ω,hi⟩).and⟩
 .obtain⟨u,t,w⟩:=y;obtain⟨e,j⟩:=a;change t=_ at e;subst e;exact A ⟨_,rfl,h.ca.or j⟩
omit hf
theorem Aga(w:Int):W (Cc w b.C0 b.E0 b.J0 b.M0 b.K0 b.N0 b.O0 b.B0 car x.S1 x.E1 x.X0 x.L1 x.I1 x.K1 x.F1 x.U0 x.Z0 x.V0 x.I2 x.H3 x.V3 x.J3 f l d k c) λy=>∃p j a q,y.2.1=Ql b car { x with U0:=p,Z0:=j,V0:=a } f l d k q/\M3 b.C0 p j a/\(y.1.1=B->MZ (p,j,a,()))/\(x.U0=0->w=0->l=B->MZ (p,j,a,()))/\CmdR q:=by have lo:=hb.lo;have hi:=hb.hi;exact I (Am3 ⟨ω,hi⟩ ..) λy o=>A ⟨_,_,_,_,rfl,o.1,o.2.1,o.2.2.1,o.2.2.2⟩
omit hb in
theorem Bin{o j a:Int}(x:aW)(h:MZ (o,j,a,())):Mz { x with U0:=o,Z0:=j,V0:=a }:=by unfold MZ at h;simp only[e1_]at h;exact⟨h.1,h.2.1,h.2.2.1⟩
theorem Apr(h:Sx b.C0 x)(z:CmdR c):W (Fu b.C0 b.E0 b.J0 b.M0 b.K0 b.N0 b.O0 b.B0 car x.S1 x.E1 x.X0 x.L1 x.I1 x.K1 x.F1 x.U0 x.Z0 x.V0 x.I2 x.H3 x.V3 x.J3 f l d k c) λy=>∃x' j,y.2.1=Ql b car x' f l d k j/\Sx b.C0 x'/\x'.X0=x.X0/\(y.1.1=B->Mz x')/\CmdR j:=by
 refine I (Q:=λy=>y.2.1=Ql b car x f l d k c/\(y.1.2.1=B->Mz x)) (C (λq=>A ⟨rfl,λ_=>(Arb x).1 q⟩) λ_=>A ⟨rfl,λq=>(by cases q)⟩) ?_;rintro⟨u,t,w⟩ ⟨e,h1⟩;change t=_ at e;subst e;refine C (λq=>A ⟨x,c,rfl,h,rfl,λ_=>h1 q,z⟩) λ_=>?_;refine I (Q:=λy=>∃x' j,y.2.1=Ql b car x' f l d k j/\Sx b.C0 x'/\x'.X0=x.X0/\(y.1.2.2.1=B->Mz x')/\CmdR j) ?_ ?_
 .refine I (Aga hb l d k c 0) ?_;rintro⟨u2,t2,w2⟩ ⟨j,X,S,N,e,hm,P,p,a⟩;change t2=_ at e;subst e;have o:Sx b.C0 { x with U0:=j,Z0:=X,V0:=S }:=⟨h.sw,h.dr,hm,h.ca,h.sh,h.idle,h.nf⟩
  refine C (λq=>A ⟨_,N,rfl,o,rfl,λ_=>Bin x<|P q,a⟩) λ_=>C (λq=>A ⟨_,N,rfl,o,rfl,λY=>Bin x<|p ?_ rfl Y,a⟩) λ_=>A ⟨_,N,rfl,o,rfl,λq=>(by cases q),a⟩;simpa using q
 rintro⟨u3,t3,w3⟩ ⟨x',j,e,h',v,p,a⟩;change t3=_ at e;subst e;refine C (λq=>A ⟨x',j,rfl,h',v,λ_=>p q,a⟩) λ_=>?_;refine I (Q:=λy=>y.2.1=Ql b car x' f l d k j) (C (λ_=>A rfl) λ_=>A rfl) ?_;rintro⟨u4,t4,w4⟩ e;change t4=_ at e;subst e;exact C (λ_=>A ⟨{ x' with V3:=0 },j,rfl,⟨h'.sw,h'.dr,h'.mt,h'.ca,h'.sh,⟨b8_ 0,show 0<=1000000 from by decide⟩,h'.nf⟩,v,λq=>(by cases q),a⟩) λ_=>A ⟨x',j,rfl,h',v,λq=>(by cases q),a⟩
omit hb in
theorem i00:(0:Int)<=0/\(0:Int)<=1000000:=by decide
include hf
theorem Atg(hcar:0<=car/\car<b.B0.length)(h:Sx b.C0 x)(hm:Mz x):W (FV b.C0 b.E0 b.J0 b.M0 b.K0 b.N0 b.O0 b.B0 car x.S1 x.E1 x.X0 x.L1 x.I1 x.K1 x.F1 x.U0 x.Z0 x.V0 x.I2 x.H3 x.V3 x.J3 f l d k c) λy=>∃x' o,y.2.1=Ql b car x' f l d k o/\Sx b.C0 x'/\Mz x'/\CmdR o:=by
 refine I (Ug hb l d k c hcar) λv _=>I (Ac8 ..) λa p=>?_;obtain⟨p,j⟩:=p;refine I (Q:=λy=>∃x' o,y.2.1=Ql b car x' f l d k o/\Sx b.C0 x'/\Mz x'/\CmdR o) ?_ ?_
 .refine C (λ_=>aE (Z hf.1)<|A ⟨{ x with X0:=a.2.1.1,L1:=a.2.1.2.1,I1:=a.2.1.2.2.1,K1:=a.2.1.2.2.2.1,F1:=a.2.1.2.2.2.2.1,I2:=_ },_,rfl,⟨h.sw,p,h.mt,h.ca.andNot,h.sh,h.idle,h.nf⟩,hm,j⟩) λ_=>?_;refine C (λ_=>A ⟨{ x with X0:=a.2.1.1,L1:=a.2.1.2.1,I1:=a.2.1.2.2.1,K1:=a.2.1.2.2.2.1,F1:=a.2.1.2.2.2.2.1,H3:=0 },_,rfl,⟨h.sw,p,h.mt,h.ca,dir2.zero,h.idle,h.nf⟩,hm,j⟩) λ_=>?_;exact A ⟨{ x with X0:=a.2.1.1,L1:=a.2.1.2.1,I1:=a.2.1.2.2.1,K1:=a.2.1.2.2.2.1,F1:=a.2.1.2.2.2.2.1 },_,rfl,⟨h.sw,p,h.mt,h.ca,h.sh,h.idle,h.nf⟩,hm,j⟩
 rintro⟨u,t,w⟩ ⟨x',o,e,h',q⟩;change t=_ at e;subst e;exact A ⟨{ x' with V3:=0 },o,rfl,⟨h'.sw,h'.dr,h'.mt,h'.ca,h'.sh,i00,h'.nf⟩,q⟩
def CtP(b:O)(car f:Int)(l:Bool)(d:Int)(k:Bool)(t:Aoo):Prop:=∃x' a,t=Ql b car x' f l d k a/\Sy b.C0 x'/\CmdR a
def CtS(b:O)(car f:Int)(l:Bool)(d:Int)(k:Bool)(s:(Unit×(Aoo×Unit))⊕(Unit×(Aoo×Unit))):Prop:=match s with
 |.inl y=>CtP b car f l d k y.2.1
 |.inr y=>CtP b car f l d k y.2.1
omit hf
theorem Apq(hcode:b.code=0)(hcar:0<=car/\car<b.B0.length)(z o:Int)(h:Sx b.C0 x)(h0:x.X0=0)(hm:Mz x):W (Ft z o b.C0 b.E0 b.J0 b.M0 b.K0 b.N0 b.O0 b.B0 car x.S1 x.E1 x.X0 x.L1 x.I1 x.K1 x.F1 x.U0 x.Z0 x.V0 x.I2 x.H3 x.V3 x.J3 f l d k c)<|CtS b car f l d k:=by
 refine I (Bdl ..) λv N=>I (Ayy ..) λa q=>?_;refine C (λ_=>?_) λ_=>?_
 .refine I (Ug hb (x:={ x with S1:=a.2.1.1,E1:=a.2.1.2.1,H3:=v.2.1.2.2.1,V3:=0 }) l d k c hcar) λY _=>I (Ac8 ..) λp o=>A ?_;obtain⟨o,j⟩:=o;exact⟨{ x with S1:=a.2.1.1,E1:=a.2.1.2.1,H3:=v.2.1.2.2.1,V3:=0,X0:=p.2.1.1,L1:=p.2.1.2.1,I1:=p.2.1.2.2.1,K1:=p.2.1.2.2.2.1,F1:=p.2.1.2.2.2.2.1 },_,rfl,⟨⟨q,o,h.mt,h.ca,N.2,i00,h.nf⟩,.inr hm⟩,j⟩
 have st:∀(w i:Int),(0<=i/\i<=1000000)->W (Cc w b.C0 b.E0 b.J0 b.M0 b.K0 b.N0 b.O0 b.B0 car a.2.1.1 a.2.1.2.1 x.X0 x.L1 x.I1 x.K1 x.F1 x.U0 x.Z0 x.V0 x.I2 x.H3 i x.J3 f l d k c) λy=>CtP b car f l d k y.2.1:=λw i hi=>by refine(Aga hb (x:={ x with S1:=a.2.1.1,E1:=a.2.1.2.1,V3:=i }) l d k c w).mono ?_;rintro⟨u,t,w⟩ ⟨c',X,Q,P,e,hm,_,_,j⟩;change t=_ at e;subst e;exact⟨_,P,rfl,⟨⟨q,h.dr,hm,h.ca,h.sh,hi,h.nf⟩,.inl h0⟩,j⟩
 refine C (λ_=>I (st _ _ i00) λ_ h=>A h) λ_=>C (λ_=>I (st _ _ i00) λ_ h=>A h) λ_=>?_;have hv:Ak b.C0 b.E0 b.J0 b.M0 b.K0 b.N0 b.O0 b.B0=R _:=Ap ..;refine I (Ats hcode hv ..) λS _=>C (λ_=>I (st _ _ h.idle) λ_ h=>A h) λ_=>A ?_;exact⟨{ x with S1:=a.2.1.1,E1:=a.2.1.2.1,V3:=up1 x.V3 },0,rfl,⟨⟨q,h.dr,h.mt,h.ca,h.sh,Ki h.idle,h.nf⟩,.inl h0⟩,rfl⟩
omit hb in
theorem Bpp:∀(o:Fin 8),0<=U.wrap (stk ((o.val:Nat):Int) 1<|aR ((aK (IntKind.bits U) ((o.val:Nat):Int))|||(aK (IntKind.bits U) 1)))/\U.wrap (stk ((o.val:Nat):Int) 1<|aR ((aK (IntKind.bits U) ((o.val:Nat):Int))|||(aK (IntKind.bits U) 1)))<=7:=by decide
include hf
theorem Bay(hcode:b.code=0)(hcar:0<=car/\car<b.B0.length)(p hu P:Int)(h:Sy b.C0 x)(v:CmdR c):W (GH p hu P b.C0 b.E0 b.J0 b.M0 b.K0 b.N0 b.O0 b.B0 car x.S1 x.E1 x.X0 x.L1 x.I1 x.K1 x.F1 x.U0 x.Z0 x.V0 x.I2 x.H3 x.V3 x.J3 f l d k c)<|CtS b car f l d k:=by
 refine I (Ath hb hf l d k c p h.1) ?_;rintro⟨u,t,w⟩ ⟨n,e,hn⟩;change t=_ at e;subst e;have h1:Sx b.C0 { x with I2:=n }:=⟨h.1.sw,h.1.dr,h.1.mt,hn,h.1.sh,h.1.idle,h.1.nf⟩
 refine I (Q:=λy=>∃x' j,y.2.2.1=Ql b car x' f l d k j/\Sy b.C0 x'/\(y.1.2.2.1=J->Mz x')/\CmdR j) ?_ ?_
 .refine C (λq=>?_) λq=>A ⟨_,c,rfl,⟨h1,h.2⟩,λ_=>h.2.resolve_left (by simpa using q),v⟩;refine I (Apr hb l d k c h1 v) ?_;rintro⟨u2,t2,w2⟩ ⟨x',j,e,h',P,o,a⟩;change t2=_ at e;subst e;exact A ⟨x',j,rfl,⟨h',.inl<|P.trans (by simpa using q)⟩,λq=>o (by simpa using q),a⟩
 rintro⟨u3,h3,t3,w3⟩ ⟨x',j,e,h',o,a⟩;change t3=_ at e;subst e;refine C (λ_=>A ⟨x',j,rfl,h',a⟩) λq=>?_;have o:=o q;refine I (Q:=λy=>∃x' j,y.2.2.1=Ql b car x' f l d k j/\Sx b.C0 x'/\Mz x'/\CmdR j) ?_ ?_
 .refine I (Q:=λy=>y.2.2.1=Ql b car x' f l d k j) (C (λ_=>A rfl) λ_=>A rfl) ?_;rintro⟨u4,h2,t4,w4⟩ e;change t4=_ at e;subst e;refine C (λ_=>A ⟨{ x' with E1:=_,X0:=1,L1:=0,I1:=0,K1:=J,F1:=0,H3:=0 },j,rfl,⟨⟨h'.1.sw.1,?_⟩,D5.one,h'.1.mt,h'.1.ca,dir2.zero,h'.1.idle,h'.1.nf⟩,o,a⟩) λ_=>A ⟨x',j,rfl,h'.1,o,a⟩;have S:=h'.1.sw.2.1;have h8:=h'.1.sw.2.2
  have:=Bpp ⟨x'.E1.toNat,ω⟩
  simp only[bI S]at this;exact this
 rintro⟨u5,h4,t5,w5⟩ ⟨x5,c5,e,h5,N,h0⟩;change t5=_ at e;subst e;refine C (λ_=>?_) λq=>?_
 .refine I (Atg hb hf l d k c5 hcar h5 N) ?_;rintro⟨u6,t6,w6⟩ ⟨x6,c6,e,h6,X,z⟩;exact A ⟨x6,c6,e,⟨h6,.inr X⟩,z⟩
 .refine I ?_ λ_ h=>A h;refine I (Apq hb l d k c5 hcode hcar _ _ h5 (by simpa using q) N) λy7 Y=>?_;cases y7 with
  |inl _=>exact A Y
  |inr _=>exact A Y
end
def HP(fl f a j:Int):Prop:=(0<a->f+1<fl)/\(0<j->0<f)
def chF(fl f:Int)(y:Int×Int×Int×Unit):Prop:=(y.1=1->y.2.1=1/\f+1<fl)/\(y.1=2->y.2.1=2/\0<f)
def chF.no{s:Int}(h:n=0\/n=3):chF fl f (n,d,s,()):=⟨λe=>by have e:n=1:=e;omega,λe=>by have e:n=2:=e;omega⟩
def chF.up{s:Int}(h:f+1<fl):chF fl f (1,1,s,()):=⟨λ_=>⟨rfl,h⟩,λe=>absurd e (show ¬1=2 by decide)⟩
def chF.dn{s:Int}(h:0<f):chF fl f (2,2,s,()):=⟨λe=>absurd e (show ¬2=1 by decide),λ_=>⟨rfl,h⟩⟩
def Ab7:W (CP n) λy=>chF fl f y.2.1:=A<|chF.no<|.inr rfl
def Bnd{z:Int}(hl:fl<=8)(hf:0<=f/\f<fl)(j:C2 fl z)(h:(aQ (aQ z<|(2:Int)^(aJ (aF f)<|IntKind.bits aD)) ((2:Int)^(aJ (aF (1:Int))<|IntKind.bits aD)) !=0)=B):f+1<fl:=by
 by_cases g:f+1<fl
 .exact g
 .obtain rfl:fl=f+1:=ω;obtain⟨h1,a⟩:=j;have e:aQ (aQ z<|2^(aJ (aF f)<|IntKind.bits aD)) (2^(aJ (aF 1)<|IntKind.bits aD))=0:=by
   have p:∀k:Nat,(0:Int)<=2^k:=λk=>bC<|Int.pow_pos τ;rw[R_ _<|p _,R_ _<|p _];have c:f=0\/f=1\/f=2\/f=3\/f=4\/f=5\/f=6\/f=7:=ω;rcases c with rfl|rfl|rfl|rfl|rfl|rfl|rfl|rfl
   .have a:z.toNat<2:=a;show z/1/2=0;omega
   .have a:z.toNat<4:=a;show z/2/2=0;omega
   .have a:z.toNat<8:=a;show z/4/2=0;omega
   .have a:z.toNat<16:=a;show z/8/2=0;omega
   .have a:z.toNat<32:=a;show z/16/2=0;omega
   .have a:z.toNat<64:=a;show z/32/2=0;omega
   .have a:z.toNat<128:=a;show z/64/2=0;omega
   .have a:z.toNat<256:=a;show z/128/2=0;omega
  rw[e]at h;cases h
def Bnj{z:Int}(hf:0<=f)(h:(H aD (stk z (H aD<|(H aD<|(1:Int)*((2:Int)^(aJ (aF f)<|IntKind.bits aD)))-(1:Int))<|aR<|(aK (IntKind.bits aD) z)&&&(aK (IntKind.bits aD)<|H aD<|(H aD<|(1:Int)*((2:Int)^(aJ (aF f)<|IntKind.bits aD)))-(1:Int))) !=0)=B):0<f:=by
 by_cases g:f=0
 .subst g;rw[Aii,show aD.wrap _=0 by decide]at h;have e:vb (bv z&&&bv 0)=0:=by rw[show bv 0=0#32 from rfl,BitVec.and_zero];rfl
  rw[e]at h;cases h
 .omega
section
variable{fl f:Int}(hl:2<=fl/\fl<=8)(hf:0<=f/\f<fl)
include hl hf
theorem Bs0(d o a b c:Int):W (Jw fl d o f a b c) λy=>HP fl f y.2.1.2.2.2.1 y.2.1.2.2.2.2.1:=by
 have g:=Z hf.1;have hA:=C2.all hl;have p:C2 fl<|aQ (H aD<|(H aD<|1*(2^(aJ (aF fl)<|IntKind.bits aD)))-1)<|2^(aJ (aF 1)<|IntKind.bits aD):=by rw[R_ _<|bC<|Int.pow_pos τ];obtain⟨h1,X⟩:=hA;have e:(2:Int)^(aJ (aF 1)<|IntKind.bits aD)=2:=rfl;rw[e];exact⟨ω,ω⟩
 refine aE (Z ω) ?_;refine I (Q:=λy=>C2 fl y.2.1.1/\C2 fl y.2.1.2.1) ⟨_,Hi (_,_) (_,_),?_⟩ λS h1=>?_
 .refine⟨C2.vb ?_,C2.vb ?_⟩
  .rw[BitVec.toNat_and];exact f3_ bE p.bv
  .rw[BitVec.toNat_and];exact f3_ bE hA.andNot.bv
 have j:=((C2.and (x:=a) hA).or h1.1).or h1.2;refine aE g (I (QM _ _ ⟨hf.1,ω⟩<|.inl rfl) λY _=>I (QM _ _ ⟨hf.1,ω⟩<|.inr rfl) λN _=>?_);refine I (Q:=λy=>y.1.1=f/\(0<y.2.2.1.2.2.2.1->f+1<fl)/\y.2.2.1.2.2.2.2.1=0) (aE g (C (λq=>I (Asm _) λ_ _=>A ⟨rfl,λ_=>Bnd hl.2 hf j q,rfl⟩) λ_=>A ⟨rfl,λh=>absurd h (show ¬(0:Int)<0 by decide),rfl⟩)) λz v=>?_;obtain⟨w,u,P⟩:=v;rw[w];refine aE g (C (λq=>I (Anv _) λ_ _=>A ⟨u,λ_=>Bnj hf.1 q⟩) λ_=>A ⟨u,λh=>?_⟩);have h:0<z.2.2.1.2.2.2.2.1:=h;omega
omit hl hf
theorem Bhd{a b c:Bool}{e o:Int}(h:HP fl f d e):W (EV a b c d e o) λy=>HP fl f y.2.1.2.2.2.1 y.2.1.2.2.2.2.1:=by
 refine I (Q:=λy=>HP fl f y.2.1.2.2.2.1 y.2.1.2.2.2.2.1) ?_ λq h1=>?_
 .refine C (λ_=>?_) λ_=>?_<;>exact C (λ_=>C (λ_=>A h) λ_=>A h) λ_=>C (λ_=>A h) λ_=>A h
 refine I (Q:=λy=>HP fl f y.2.1.2.2.2.1 y.2.1.2.2.2.2.1/\HP fl f y.2.2.1.2.2.2.1 y.2.2.1.2.2.2.2.1) ?_ λp j=>?_
 .refine C (λ_=>?_) λ_=>?_<;>exact C (λ_=>C (λ_=>A ⟨h1,h1⟩) λ_=>A ⟨h1,h1⟩) λ_=>C (λ_=>A ⟨h1,h1⟩) λ_=>A ⟨h1,h1⟩
 exact C (λ_=>A j.2) λ_=>C (λ_=>A j.2) λ_=>C (λ_=>A j.2) λ_=>C (λ_=>A j.2) λ_=>C (λ_=>A j.2) λ_=>A j.1
theorem Bkg{a b c:Bool}{e o:Int}(h:HP fl f d e):W (Fk a b c d e o) λy=>(y.1.1=1->f+1<fl)/\(y.1.1=2->0<f):=by
 refine I (Q:=λy=>(y.1.2.1=B->f+1<fl)/\y.2.1.2.2.2.2.1=e) ?_ λj h1=>?_
 .exact C (λq=>C (λ_=>A ⟨λ_=>h.1<|j_ q,rfl⟩) λ_=>A ⟨λ_=>h.1<|j_ q,rfl⟩) λ_=>A ⟨(λq=>by cases q),rfl⟩
 refine C (λq=>A ⟨λ_=>h1.1 q,λe=>absurd e τ⟩) λ_=>C (λq=>A ⟨λe=>absurd e τ,λ_=>h.2 ?_⟩) λ_=>A ⟨λe=>absurd e τ,λe=>absurd e τ⟩;have q:=j_ q;omega
theorem Bgs{a b c:Bool}{e o:Int}(h:HP fl f d e):W (EU a b c d e o) λy=>chF fl f y.2.1:=by
 refine I (Bkg h) λy h=>?_;refine C (λ_=>I Ab7 λ_ h=>A h) λ_=>C (λ_=>I Ab7 λ_ h=>A h) λ_=>C (λ_=>I Ab7 λ_ h=>A h) λ_=>?_;refine C (λq=>A ?_) λ_=>C (λq=>A ?_) λ_=>A<|chF.no<|.inl rfl
 .have q:=eq_of_beq q;rw[q];exact chF.up<|h.1 q
 .have q:=eq_of_beq q;rw[q];exact chF.dn<|h.2 q
theorem Ap8{a b c:Bool}{e o:Int}(h:HP fl f d e):W (DE a b c d e o) λy=>chF fl f y.2.1:=by
 refine I (Q:=λy=>y.2.1.2.2.2.1=d/\y.2.1.2.2.2.2.1=e) (C (λ_=>A ⟨rfl,rfl⟩) λ_=>A ⟨rfl,rfl⟩) λj h1=>?_;refine C (λ_=>I (Ab9 _ _ _ _ dir2.two dir2.one) λ_ h=>I Ab7 λ_ h=>A h) λ_=>C (λq=>A<|chF.dn<|h.2 ?_) λ_=>?_
 .have q:=j_ q;omega
 refine C (λ_=>I Ab7 λ_ h=>A h) λ_=>C (λq=>A<|chF.up<|h.1 ?_) λ_=>A<|chF.no<|.inl rfl;have q:=j_ q;omega
theorem Bkq{a b c:Bool}{e o:Int}(h:HP fl f d e):W (Fl a b c d e o) λy=>chF fl f y.2.1:=by
 refine I (Q:=λy=>y.2.1.2.2.2.1=d/\y.2.1.2.2.2.2.1=e) (C (λ_=>A ⟨rfl,rfl⟩) λ_=>A ⟨rfl,rfl⟩) λj h1=>?_;refine C (λ_=>I (Ab9 _ _ _ _ dir2.one dir2.two) λ_ h=>I Ab7 λ_ h=>A h) λ_=>C (λq=>A<|chF.up<|h.1 ?_) λ_=>?_
 .have q:=j_ q;omega
 rw[h1.1,h1.2];exact I (Ap8 h) λ_ h=>A h
include hl hf
theorem Bjm{w:Int}(j:dir2 w)(o a b c:Int):W (Em fl w o f a b c) λy=>chF fl f y.2.1:=by
 refine I (Bs0 hl hf w o a b c) λN h1=>I (Bhd h1) λz p=>?_;refine I ?_ λv u=>A u;refine aE (Ac j.1 (by have:=j.2;omega)) ?_;refine C (λ_=>I (Bgs p) λ_ h=>A h) λn0=>C (λ_=>I (Bkq p) λ_ h=>A h) λn1=>?_;have e:Nat.beq (aF w) 2=B:=by
  have a0:¬aF w=0:=λq=>by rw[q]at n0;cases n0
  have P:¬aF w=1:=λq=>by rw[q]at n1;cases n1
  have:aF w=2:=by have:=j.1;have:=j.2;omega
  rw[this];rfl
 exact aE e (I (Ap8 p) λ_ h=>A h)
theorem Avm{w o:Int}(p:S2 w o)(a b c:Int):∃y z,El fl w o f a b c=R (((),()),(y,()))/\FK fl w o f a b c=R (((),()),(z,()))/\chF fl f y/\S2 z.1 z.2.1/\(y.1≠3->z.1=y.2.1):=by
 have hp:En fl w o f=R ((B,()),()):=by unfold En;rw[Z hl.1,Z ω,Z hf.1,Z hf.2];rw[show BY w o=R (((aI 0 2 w&&aI 0 7 o),()),())from EQ { BD with S1:=w,E1:=o },Ah.2 p.1,Ah.2 p.2];rfl
 obtain⟨y,q,h1⟩:=Bjm hl hf p.1 o a b c;obtain⟨z,j,v⟩:=Ayy fl w o f a b c;obtain⟨⟨_,n,_⟩,y,_⟩:=y;obtain⟨_,z,_⟩:=z;refine⟨y,z,?_,j,h1,v,λu=>?_⟩
 .unfold El;rw[hp];rw[q];rfl
 .unfold FK at j;rw[hp]at j;change(Em fl w o f a b c).bind _=_ at j;rw[q]at j;change(bif _ then _ else _)=_ at j;rw[Jc u]at j
  have:=(Prod.mk.inj (Prod.mk.inj<|r_ j).2).1
  rw[<-this]
end
def Atk{a b c:Int}{d:Bool}{e:Int}(h:D5 a b c d e):W (Qz a b c d e) λy=>letI b:=y.2.1.2;D5 y.2.1.1 b.1 b.2.1 b.2.2.1 b.2.2.2.1/\(a=0->y.2.1.1=0):=by
 by_cases g:a=0
 .obtain⟨h1,o,u,j,p⟩:=h.resolve_right λq=>absurd g ω;subst h1 o u j p;exact⟨_,rfl,D5.zero,λ_=>rfl⟩
 .exact(Atj h).mono λ_ q=>⟨q,λq=>absurd q g⟩
def Am2{c t:Int}(h:M3 fl c t f):W (Nv c t f) λy=>M3 fl y.2.1.1 y.2.1.2.1 y.2.1.2.2.1/\(c=0/\t=0/\f=0->MZ y.2.1):=by
 by_cases g:c=0/\t=0/\f=0
 .obtain⟨h1,a,j⟩:=g;subst h1 a j;exact⟨_,rfl,M3.zero,λ_=>rfl⟩
 .exact(Am1 h).mono λ_ q=>⟨q,λq=>absurd q g⟩
@[reducible] def Be0(x:aW):Avx:=(x.S1,x.E1,x.X0,x.L1,x.I1,x.K1,x.F1,x.U0,x.Z0,x.V0,x.I2,x.H3,x.V3,x.J3,())
def Bdk(b:O)(t:Avx):Prop:=∃x,t=Be0 x/\Hr b x=B
def Sy.zero:Sy fl BD:=⟨⟨S2.zero dir2.zero,D5.zero,M3.zero,C2.zero,dir2.zero,i00,rfl⟩,.inl rfl⟩
def Adg(b:O):Hr b { BD with J3:=B }=B:=rfl
section
variable{b:O}(hb:b.small)
include hb
theorem KM:Hr b BD=B:=(WX hb rfl).2 Sy.zero
theorem Aml(o c1 a p c4 v w q j:Int)(h:Sy b.C0 x)(u:CmdR n):W (Ku o c1 a p c4 v w q j x.S1 x.E1 x.X0 x.L1 x.I1 x.K1 x.F1 x.U0 x.Z0 x.V0 x.I2 x.H3 x.V3 x.J3 n) λy=>Bdk b y.2.1/\CmdR y.1.2.1:=by refine I (Ati ..) λz _=>C (λ_=>A ⟨⟨{ BD with J3:=B },rfl,Adg b⟩,rfl⟩) λ_=>?_;exact I (Am0 ..) λN _=>C (λ_=>A ⟨⟨{ BD with J3:=B },rfl,Adg b⟩,rfl⟩) λ_=>A ⟨⟨x,rfl,(WX hb h.1.nf).2 h⟩,u⟩
variable(hcode:b.code=0)(car:Int)(x:aW)
include hcode
theorem Aqq:JL b.C0 b.E0 b.J0 b.M0 b.K0 b.N0 b.O0 b.B0 car x.S1 x.E1 x.X0 x.L1 x.I1 x.K1 x.F1 x.U0 x.Z0 x.V0 x.I2 x.H3 x.V3 x.J3=R ((Hr b x&&(decide (0<=car)&&decide (car<(b.B0.length:Int))),()),()):=by unfold JL;rw[JE hb hcode];cases Hr b x<;>cases decide (0<=car)<;>rfl
theorem Am4(f:Int)(l:Bool)(d:Int)(k:Bool)(p P N:Int):W (RO b.C0 b.E0 b.J0 b.M0 b.K0 b.N0 b.O0 b.B0 car x.S1 x.E1 x.X0 x.L1 x.I1 x.K1 x.F1 x.U0 x.Z0 x.V0 x.I2 x.H3 x.V3 x.J3 f l d k p P N) λy=>Bdk b y.2.1/\CmdR y.1.2.1:=by
 refine aN (Aqq hb hcode car x) (C (λ_=>A ⟨⟨BD,rfl,KM hb⟩,rfl⟩) λq=>?_);have q:Hr b x=B/\0<=car/\car<b.B0.length:=by
  have q:(Hr b x&&(decide (0<=car)&&decide (car<b.B0.length)))=B:=by simpa only[bH]using q
  simpa only[a_,t_]using q
 obtain⟨hx,hcar⟩:=q;refine I (Q:=λy=>y.1.1=B->0<=f/\f<b.C0) ?_ λy2 h2=>?_
 .unfold Lh;refine I ?_ λ_ h=>A h;refine C (λa=>C (λc=>C (λ_=>A λ_=>⟨j_ a,j_ c⟩) λ_=>A λg=>(by cases g)) λ_=>A λg=>(by cases g)) λ_=>A λg=>(by cases g)
 refine C (λ_=>A ⟨⟨BD,rfl,KM hb⟩,rfl⟩) λq2=>C (λ_=>A ⟨⟨x,rfl,hx⟩,rfl⟩) λhf=>?_;have j:=h2 (by simpa using q2);refine I (Q:=λ(y:(Unit×Unit×Unit×Unit)×(Avx×Avx×Aoo×Unit))=>CtP b car f l d k y.2.2.2.1) (I (Bay hb j l d k 0 hcode hcar p P N ((WX hb hf).1 hx) rfl) λX S=>?_) ?_
 .cases X with
  |inl _=>exact A S
  |inr _=>exact A S
 rintro⟨u,v,w,t,z⟩ ⟨x',c',e,h',o⟩;change t=_ at e;subst e;exact I (Ug hb l d k c' hcar) λy6 _=>I (Aml hb _ _ _ _ _ _ _ _ _ h' o) λy7 Y=>A Y
theorem Ajz:W (PW b.C0 b.E0 b.J0 b.M0 b.K0 b.N0 b.O0 b.B0 car x.S1 x.E1 x.X0 x.L1 x.I1 x.K1 x.F1 x.U0 x.Z0 x.V0 x.I2 x.H3 x.V3 x.J3) λy=>Bdk b y.2.1/\CmdR y.1.2.1:=by
 refine aN (Aqq hb hcode car x) (C (λ_=>A ⟨⟨BD,rfl,KM hb⟩,rfl⟩) λq=>?_);have q:Hr b x=B/\0<=car/\car<b.B0.length:=by
  have q:(Hr b x&&(decide (0<=car)&&decide (car<b.B0.length)))=B:=by simpa only[bH]using q
  simpa only[a_,t_]using q
 obtain⟨hx,hcar⟩:=q;refine C (λ_=>A ⟨⟨x,rfl,hx⟩,rfl⟩) λhf=>?_;have h:=(WX hb hf).1 hx;refine I (Atk h.1.dr) λa o=>I (Am2 h.1.mt) λj p=>aE (Ac hcar.1 hcar.2) ?_;refine I (Aml hb _ _ _ _ _ _ _ _ _ (x:={ x with X0:=a.2.1.1,L1:=a.2.1.2.1,I1:=a.2.1.2.2.1,K1:=a.2.1.2.2.2.1,F1:=a.2.1.2.2.2.2.1,U0:=j.2.1.1,Z0:=j.2.1.2.1,V0:=j.2.1.2.2.1 }) ⟨⟨h.1.sw,o.1,p.1,h.1.ca,h.1.sh,h.1.idle,h.1.nf⟩,?_⟩ rfl) λv u=>A u;refine h.2.imp (λg=>o.2 g) λg=>?_;have e:=p.2 g;rw[e];exact⟨rfl,rfl,rfl⟩
theorem Aj1(f:Int)(l:Bool)(d:Int)(k:Bool):W (Mw b.C0 b.E0 b.J0 b.M0 b.K0 b.N0 b.O0 b.B0 x.S1 x.E1 x.X0 x.L1 x.I1 x.K1 x.F1 x.U0 x.Z0 x.V0 x.I2 x.H3 x.V3 x.J3 f l d k) λy=>y.1.1=B->l=B/\d=2:=by
 have i:SatT _:=⟨⟨_,JE hb hcode x,trivial⟩⟩;have no:∀{p:Prop},J=B->p:=λq=>by cases q
 refine I (I i.out λ_ _=>?_) λ_ h=>A h;exact C (λ_=>C (λ_=>C (λ_=>C (λ_=>C (λ_=>C (λq=>A λa=>⟨q,eq_of_beq a⟩) λ_=>A no) λ_=>A no) λ_=>A no) λ_=>A no) λ_=>A no) λ_=>A no
end
def U2(a c:Int):Prop:=(0<=a/\a<4294967296)/\0<=c/\c<4294967296
def U2.zero:U2 0 0:=by unfold U2;decide
def U2.fst:U2 (H aD n) 0:=⟨Hx n,τ⟩
def U2.snd:U2 0<|H aD n:=⟨τ,Hx n⟩
instance isFloors_ti(n:Int):SatT (Fp n):=⟨by unfold Fp;exact Sat.go⟩
instance isObs_ti(n a c d:Int):SatT (FL n a c d):=⟨by unfold FL;exact Sat.go⟩
def MV(n a c d:Int):W (Hl n a c d) λy=>U2 y.2.1.1 y.2.1.2.1:=by
 refine I (isObs_ti n a c d).out λ_ _=>C (λ_=>A U2.zero) λ_=>C (λ_=>A U2.zero) λ_=>C (λ_=>A U2.zero) λh=>?_;have h0:0<=a:=by have:=w_ h;omega
 refine I (Q:=λy=>y.2.1.1=a) (C (λ_=>A rfl) λ_=>A rfl) λp j=>?_;refine C (λ_=>aE (Z<|j▸h0)<|A U2.fst) λ_=>?_;refine I (Q:=λy=>y.2.1.1=a) (C (λ_=>A j) λ_=>A j) λq o=>?_;exact C (λ_=>aE (Z<|o▸h0)<|A U2.snd) λ_=>A U2.zero
def Aj0(hb:b.small)(hcode:b.code=0)(x:aW)(f:Int)(l:Bool)(d:Int)(k:Bool):W (PX b.C0 b.E0 b.J0 b.M0 b.K0 b.N0 b.O0 b.B0 x.S1 x.E1 x.X0 x.L1 x.I1 x.K1 x.F1 x.U0 x.Z0 x.V0 x.I2 x.H3 x.V3 x.J3 f l d k) λy=>U2 y.2.1.1 y.2.1.2.1:=by refine aN (JE hb hcode x) (C (λ_=>A U2.zero) λ_=>C (λ_=>A U2.zero) λ_=>C (λ_=>A U2.zero) λ_=>C (λ_=>A U2.zero) λ_=>?_);exact I (MV ..) λ_ h=>A h
instance pair_ti(a c:Bool):SatT (HQ a c 0 1 2 3):=⟨by cases a<;>cases c<;>exact⟨_,rfl,trivial⟩⟩
def Bp4(a c:Bool):W (HQ a c 0 1 2 3) λy=>0<=y.1.1/\y.1.1<=3:=by cases a<;>cases c<;>exact⟨_,rfl,τ⟩
def dK(e:Duty):Int:=4*e.D0+e.I0
structure DutOK(b:Bldg)(D:Int)(l:List Duty):Prop where
 each:∀e∈l,Au b e.D0 e.I0=true/\0<=e.P5/\e.P5<=D
 sort:l.Pairwise λa c=>dK a<dK c
def DutOK.nil:DutOK b D []:=⟨λ_ h=>(by cases h),List.Pairwise.nil⟩
def Fh(hb:b.small)(h:Au b f d=B):(0<=f/\f<8)/\(1<=d/\d<=2):=by have hi:=hb.hi;unfold Au NE aI at h;simp only[a_,V_,a1_,t_]at h;omega
def Aan{a c:Duty}(j:1<=a.I0/\a.I0<=2)(o:1<=c.I0/\c.I0<=2):Vx a c=B↔dK a<dK c:=by unfold Vx dK;simp only[a_,V_,a1_,t_];omega
def Zi{l:List Duty}(h:∀i,i+1<l.length->dK (l.getD i Ic)<dK (l.getD (i+1) Ic)):∀i k:Nat,i+1+k<l.length->dK (l.getD i Ic)<dK (l.getD (i+1+k) Ic)
 |i,0,a=>h i a
 |i,k+1,a=>Int.lt_trans (Zi h i k ω)<|h _ ω
def gD{l:List Duty}(h:i<l.length):l.getD i Ic=l[i]:=by simp only[k_,i_ h,Option.getD_some]
def Bju(hb:b.small)(x:Belief):Pl (Ap0 b car x) x.B1.length 0=B↔DutOK b (GP b car).D1 x.B1:=by
 constructor
 .intro h;have h:=TW _ _ h;have hp:∀i,i<x.B1.length->Au b (x.B1.getD i Ic).D0 (x.B1.getD i Ic).I0=B/\(0<=(x.B1.getD i Ic).P5/\(x.B1.getD i Ic).P5<=(GP b car).D1)/\(i=0\/Vx _ _=B):=λi hi=>by
   have h:=h i ω ω;unfold Ap0 Aw2 aI at h;simpa only[a_,V_,a1_,t_]using h
  refine⟨λe he=>?_,?_⟩
  .obtain⟨i,hi,rfl⟩:=List.mem_iff_getElem.1 he
   have:=hp i hi
   rw[gD hi]at this;exact⟨this.1,this.2.1⟩
  .rw[b0_];intro i j hi a p
   have:=Zi (λi hi=>by have h1:=hp (i+1) hi;have h0:=hp i ω;have u:=h1.2.2.resolve_left ω;exact(Aan (Fh hb h0.1).2 (Fh hb h1.1).2).1 u) i (j-i-1) ω
   rw[show i+1+(j-i-1)=j by omega,gD hi,gD a]at this;exact this
 .intro h;refine Vg _ _ λk _ o=>?_;have o:k<x.B1.length:=ω;have h1:=h.each _<|a4_ o;unfold Ap0 Aw2 aI;simp only[a_,V_,a1_,t_,gD o];refine⟨h1.1,h1.2,?_⟩;by_cases q:k=0
  .exact .inl q
  .have a:k-1<x.B1.length:=ω;rw[gD a];have h0:=h.each _<|a4_ a;exact .inr<|(Aan (Fh hb h0.1).2 (Fh hb h1.1).2).2<|b0_.1 h.sort _ _ a o ω
def DutOK.len(hb:b.small){l:List Duty}(h:DutOK b D l):l.length<=30:=by
 have a:∀i (hi:i<l.length),i+1<=dK l[i]:=λi=>by
  induction i with
  |zero=>
   intro hi
   have:=Fh hb (h.each _<|a4_ hi).1
   unfold dK;omega
  |succ i j=>intro hi;have h1:=j ω;have o:=b0_.1 h.sort i (i+1) ω hi ω;omega
 rcases Nat.eq_zero_or_pos l.length with g|g
 .omega
 .have hi:l.length-1<l.length:=ω;have h1:=a _ hi
  have:=Fh hb (h.each _<|a4_ hi).1
  unfold dK at h1;omega
def DutOK.push{l:List Duty}{e:Duty}(h:DutOK b D l)(h1:Au b e.D0 e.I0=B/\0<=e.P5/\e.P5<=D)(j:∀a∈l,dK a<dK e):DutOK b D<|l++[e]:=by
 refine⟨λx hx=>?_,List.pairwise_append.2 ⟨h.sort,List.pairwise_singleton ..,λa o c p=>?_⟩⟩
 .rcases n_.1 hx with g|g
  .exact h.each x g
  .rw[E_.1 g];exact h1
 .rw[E_.1 p];exact j a o
def Baa(hb:b.small)(hD:D<=1000000000){l:List Duty}(h:DutOK b D l)(u d:Int):W (Nq l D u d) λy=>DutOK b D y.1.1/\(y.1.2.1=B->y.1.1=[]):=by
 have hl:=h.len hb;refine I (Q:=λy=>match y with|.inl z=>DutOK b D z.1.1|.inr z=>z.1.1=[]) (aZ (λk x=>∃(out:List Duty) (i:Nat),x=((D,(),out,l,(l.length:Int),(i:Int),()),((u,d,()),()))/\i+k=l.length/\DutOK b D out/\∀a∈out,∀j _,i<=j->dK a<dK l[j]) ?_ l.length ⟨[],0,rfl,ω,.nil,λa o=>by cases o⟩ ω) ?_
 .rintro k x ⟨out,i,rfl,X,p,o⟩;show W (UZ D out l l.length i u d) _;refine C (λq=>?_) λ_=>A p;have hi:i<l.length:=by have:=j_ q;omega
  have he:=h.each _<|a4_ hi;have Y:=Fh hb he.1;have g:List.getD l (aF i) (Duty.mk 0 0 0)=l[i]:=gD hi;have w:U.wrap _=l[i].P5+1:=Aa ω ω;refine aE (Ac ω ω) ?_;simp only[g,w,FJ hi (by unfold Df;omega)];refine C (λ_=>A rfl) λS=>?_;have S:=w_ S;refine aN (Pn (u,d) ⟨ω,ω⟩ ω) ?_;refine C (λ_=>?_) λ_=>A ⟨k-1,ω,out,i+1,rfl,ω,p,λa m j v N=>o a m j v ω⟩;have hp:DutOK b D<|out++[Duty.mk l[i].D0 l[i].I0<|l[i].P5+1]:=p.push ⟨he.1,by show 0<=l[i].P5+1;omega,by show l[i].P5+1<=D;omega⟩ λa m=>o a m i hi<|q_ _;have hlen:=p.len hb;refine aE (e6_ (by simp only[s_,c6_];omega))<|A ⟨k-1,ω,_,i+1,rfl,ω,hp,λa m j v N=>?_⟩;rcases n_.1 m with m|m
  .exact o a m j v ω
  .rw[E_.1 m];exact b0_.1 h.sort i j hi v ω
 .intro y P;cases y with
  |inl z=>exact A ⟨P,λq=>by cases q⟩
  |inr z=>exact A ⟨by rw[show z.1.1=[]from P];exact .nil,λ_=>P⟩
structure BelOK(b:Bldg)(car:Nat)(x:Belief):Prop where
 fl:-1<=x.D0/\x.D0<=b.C0-1
 dir:0<=x.I0/\x.I0<=3
 door:0<=x.G1/\x.G1<=3
 still:0<=x.G3/\x.G3<=1000000
 late:x.A4=true->x.B1=[]
 dut:DutOK b (GP b car).D1 x.B1
abbrev Aon:=Int×Int×Int×List Duty×Int×Bool×Unit
@[reducible] def Av9(x:Belief):Aon:=(x.D0,x.I0,x.G1,x.B1,x.G3,x.A4,())
def Bdj(b:O)(car:Nat)(t:Aon):Prop:=∃x,t=Av9 x/\BelOK b car x
section
variable{b:O}(hb:b.small)
include hb
theorem Akw{x:Belief}:Afw b car x=B↔BelOK b car x:=by
 unfold Afw aI;simp only[a_,t_,Bju hb,b2_,Bool.and_eq_false_imp,decide_eq_false_iff_not];constructor
 .rintro⟨h1,p,u,j,o,a⟩;exact⟨h1,p,u,j,λq=>List.length_eq_zero_iff.1 (by have:=o q;omega),a⟩
 .intro h;exact⟨h.fl,h.dir,h.door,h.still,λq=>(by rw[h.late q];decide),h.dut⟩
theorem BelOK.zero:BelOK b car ⟨0,0,0,[],0,J⟩:=by
 have:=hb.lo
 exact⟨⟨τ,show 0<=b.C0-1 by omega⟩,τ,τ,τ,λ_=>rfl,.nil⟩
variable(hcode:b.code=0){car:Nat}(hcar:car<b.B0.length){x:Belief}(h:BelOK b car x)
include hcode hcar h
theorem IG:Co b.C0 b.E0 b.J0 b.M0 b.K0 b.N0 b.O0 b.B0 (car:Int) x.D0 x.I0 x.G1 x.B1 x.G3 x.A4=R ((B,()),()):=by exact So hb hcode hcar (b7_ (h.dut.len hb) τ)<|(Akw hb).2 h
theorem Aow:(GP b car).D1<=1000000000:=by
 have:=Akz hcode (c:=GP b car) (by unfold GP;rw[k_,i_ hcar];exact a4_ hcar)
 omega
theorem Aiw:W (PP b.C0 b.E0 b.J0 b.M0 b.K0 b.N0 b.O0 b.B0 (car:Int) x.D0 x.I0 x.G1 x.B1 x.G3 x.A4) λy=>Bdj b car y.2.1:=by refine aN (IG hb hcode hcar h)<|bA rfl<|aE (Ac ω ω) ?_;refine I (Baa hb (Aow hb hcode hcar h) h.dut 0 0) λa j=>A ⟨⟨x.D0,x.I0,x.G1,a.1.1,0,a.1.2.1⟩,rfl,⟨h.fl,h.dir,h.door,?_,j.2,j.1⟩⟩;exact show _<=0/\0<=1000000 from by decide
theorem Afx:W (Ot b.C0 b.E0 b.J0 b.M0 b.K0 b.N0 b.O0 b.B0 (car:Int) x.D0 x.I0 x.G1 x.B1 x.G3 x.A4) λy=>Bdj b car y.2.1:=by refine aN (IG hb hcode hcar h)<|bA rfl<|A ⟨⟨x.D0,x.I0,x.G1,[],0,J⟩,rfl,⟨h.fl,h.dir,h.door,?_,λ_=>rfl,.nil⟩⟩;exact show _<=0/\0<=1000000 from by decide
theorem Aix:W (PQ b.C0 b.E0 b.J0 b.M0 b.K0 b.N0 b.O0 b.B0 (car:Int) x.D0 x.I0 x.G1 x.B1 x.G3 x.A4) λy=>y.1.1=B->x.G1=2:=by refine I (aN (IG hb hcode hcar h)<|aE rfl ?_) λ_ h=>A h;exact C (λ_=>C (λq=>aE (Ac ω ω) (A λ_=>eq_of_beq q)) λ_=>A λq=>by cases q) λ_=>A λq=>by cases q
theorem Adv(o p q:Int):W (NK b.C0 b.E0 b.J0 b.M0 b.K0 b.N0 b.O0 b.B0 (car:Int) x.D0 x.I0 x.G1 x.B1 x.G3 x.A4 o p q) λy=>∃v,y.2.1=Av9 v/\BelOK b car v/\(v.G1=2->q=2):=by
 refine aN (IG hb hcode hcar h)<|bA rfl ?_;refine I (Q:=λy=>y.1.1=B->(-1<=o/\o<=b.C0-1)/\(0<=p/\p<=3)/\0<=q/\q<=3) ?_ λy2 h2=>?_
 .unfold FL;refine I ?_ λ_ h=>A h;refine I (isFloors_ti _).out λ_ _=>C (λ_=>?_) λ_=>A λg=>(by cases g)
  refine C (λg1=>?_) λ_=>A λg=>(by cases g)
  refine C (λP=>?_) λ_=>A λg=>(by cases g)
  refine C (λg3=>?_) λ_=>A λg=>(by cases g)
  refine C (λg4=>?_) λ_=>A λg=>(by cases g)
  refine C (λg5=>A λg6=>?_) λ_=>A λg=>(by cases g)
  have P:=j_ P;exact⟨⟨j_ g1,ω⟩,⟨j_ g3,j_ g4⟩,j_ g5,j_ g6⟩
 refine C (λ_=>A ⟨⟨0,0,0,[],0,J⟩,rfl,BelOK.zero hb,λe=>absurd e τ⟩) λk=>aE (Ac ω ω) ?_;obtain⟨Y,hp,hq⟩:=h2 (by simpa using k);refine I (MV ..) λy3 _=>I (Baa hb (Aow hb hcode hcar h) h.dut _ _) λa j=>?_;have i0:(0:Int)<=0/\(0:Int)<=1000000:=by decide
 refine I (Q:=λ(y:(Unit×Unit×Unit×Int×Unit)×(Aon×(Int×Int×Int×Unit)×Aon×Unit))=>(y.2.1=Av9 ⟨x.D0,x.I0,x.G1,a.1.1,x.G3,a.1.2.1⟩/\y.2.2.1=(o,p,q,()))/\0<=y.1.2.2.2.1/\y.1.2.2.2.1<=1000000) ?_ ?_
 .refine I (Q:=λy=>(y.2.1=Av9 ⟨x.D0,x.I0,x.G1,a.1.1,x.G3,a.1.2.1⟩/\y.2.2.1=(o,p,q,()))/\y.1.2.2.2.1=0) ?_ ?_
  .exact C (λ_=>C (λ_=>A ⟨⟨rfl,rfl⟩,rfl⟩) λ_=>A ⟨⟨rfl,rfl⟩,rfl⟩) λ_=>A ⟨⟨rfl,rfl⟩,rfl⟩
  .intro y5 u;refine C (λ_=>A ⟨u.1,?_⟩) λ_=>A ⟨u.1,?_⟩
   .rw[u.1.1];exact Ki h.still
   .rw[u.2];exact i0
 rintro⟨⟨a1,a2,a3,n,a4⟩,t,v,w,z⟩ ⟨⟨S,X⟩,N⟩;change t=_ at S;change v=_ at X;subst S X;exact Sat.bindC (λ_=>Sat.bindR<|A ⟨⟨o,p,q,a.1.1,n,a.1.2.1⟩,rfl,⟨Y,hp,hq,N,j.2,j.1⟩,id⟩) λ_=>Sat.bindR<|A ⟨⟨x.D0,p,q,a.1.1,n,a.1.2.1⟩,rfl,⟨h.fl,hp,hq,N,j.2,j.1⟩,id⟩
end
def Byz(a c:Duty):∃n:Int,CK a.D0 a.I0 a.P5 c.D0 c.I0 c.P5=R ((n,()),())/\(n<0↔Vx a c=B)/\(n=0↔a.D0=c.D0/\a.I0=c.I0):=by
 unfold CK;rw[HM,HM];simp only[c_];rw[ZP];refine⟨_,rfl,?_⟩;unfold Vx XE;by_cases h1:a.D0<c.D0
 .simp[h1];omega
 .by_cases j:c.D0<a.D0
  .simp[h1,j];omega
  .by_cases o:a.I0<c.I0
   .simp[h1,j,o];omega
   .by_cases p:c.I0<a.I0
    .simp[h1,j,o,p];omega
    .simp[h1,j,o,p];omega
def Bok{j:Nat}(h:i+j<9223372036854775808):U.wrap (aQ (H aB<|H U<|(i:Int)+(j:Int))<|(2:Int)^(aJ (aF (1:Int))<|IntKind.bits aB))=(((i+j)/2:Nat):Int):=Alj h
section
variable{b:O}(hb:b.small){D:Int}{l:List Duty}(h:DutOK b D l){F Dr:Int}(hD:1<=Dr/\Dr<=2)
include hb h hD
theorem At8(hi:i<l.length):∃n:Int,CK l[i].D0 l[i].I0 l[i].P5 F Dr 0=R ((n,()),())/\(n<0↔dK l[i]<4*F+Dr)/\(n=0↔dK l[i]=4*F+Dr):=by obtain⟨n,h1,a,o⟩:=Byz l[i]<|Duty.mk F Dr 0;have j:=Fh hb (h.each _<|a4_ hi).1;refine⟨n,h1,a.trans<|Aan j.2 hD,o.trans ?_⟩;unfold dK;simp only;omega
theorem Bgx:W (AP ((l,(),(),(l.length:Int),0,(l.length:Int),()),((F,Dr,0,()),()))) λy=>∃p:Nat,y=((l,(),(),(l.length:Int),(p:Int),()),((F,Dr,0,()),()))/\p<=l.length/\(∀i (hi:i<l.length),i<p->dK l[i]<4*F+Dr)/\∀i (hi:i<l.length),p<=i->4*F+Dr<=dK l[i]:=by
 have hl:=h.len hb;refine aZ (λk x=>∃i j:Nat,x=((l,(),(),(l.length:Int),(i:Int),(j:Int),()),((F,Dr,0,()),()))/\j<=i+k/\i<=j/\j<=l.length/\(∀a _,a<i->dK l[a]<4*F+Dr)/\∀a _,j<=a->4*F+Dr<=dK l[a]) ?_ l.length ⟨0,l.length,rfl,ω,ω,ω,λa _ g=>by omega,λa _ g=>by omega⟩ ω;rintro k x ⟨i,j,rfl,Q,z,N,h1,w⟩;show W (BJ l _ i j F Dr 0) _;refine C (λq=>?_) λq=>A ?_
 .have q:=j_ q;have hm:(i+j)/2<l.length:=ω;rw[Bok ω];refine aE (Ac ω ω) ?_;have g:List.getD l (aF (((i+j)/2:Nat):Int)) (Duty.mk 0 0 0)=l[(i+j)/2]:=gD hm;simp only[g,FJ hm (by unfold Df;omega)];obtain⟨n,c1,v,P⟩:=At8 hb h hD hm;refine aN c1 (C (λu=>A ⟨k-1,ω,(i+j)/2+1,j,rfl,ω,ω,N,λa o g3=>?_,w⟩) λu=>A ⟨k-1,ω,i,(i+j)/2,rfl,ω,ω,ω,h1,λa o g3=>?_⟩)
  .have:=v.1<|j_ u
   rcases f2_ a _ with g4|g4
   .have:=b0_.1 h.sort a _ o hm g4
    omega
   .obtain rfl:a=(i+j)/2:=ω;exact this
  .have:¬dK l[(i+j)/2]<4*F+Dr:=λe=>w_ u<|v.2 e
   rcases f2_ _ a with g4|g4
   .have:=b0_.1 h.sort _ a hm o g4
    omega
   .obtain rfl:a=(i+j)/2:=ω;omega
 .have q:=w_ q;exact⟨i,rfl,ω,h1,λa o g=>w a o ω⟩
theorem Boc:W (AR l F Dr 0) λy=>∃p:Nat,y.1.1=(p:Int)/\p<=l.length/\(∀i (hi:i<l.length),i<p->dK l[i]<4*F+Dr)/\(y.1.2.1=J->∀i (hi:i<l.length),p<=i->4*F+Dr<dK l[i]):=by
 refine I (Bgx hb h hD) ?_;rintro y ⟨p,rfl,hp,h1,o⟩;refine I (Q:=λy=>y.1.1=(p:Int)/\(y.1.2.1=J->∀i _,p<=i->4*F+Dr<dK l[i])) (C (λq=>?_) λq=>A ⟨rfl,λ_ i hi g=>?_⟩) λy a=>A ⟨p,a.1,hp,h1,a.2⟩
 .have q:p<l.length:=by have:=j_ q;exact Int.ofNat_lt.1 this
  refine aE (Ac (Int.natCast_nonneg p)<|Int.ofNat_lt.2 q) ?_;have g:List.getD l (aF p) (Duty.mk 0 0 0)=l[p]:=gD q;simp only[g];obtain⟨n,c1,u,v⟩:=At8 hb h hD q;refine aN c1<|A ⟨rfl,λe i hi w=>?_⟩;have e:¬n=0:=λj=>by rw[j]at e;cases e
  have:=o p q<|q_ _
  rcases f2_ p i with g4|g4
  .have:=b0_.1 h.sort _ i q hi g4
   omega
  .obtain rfl:i=p:=ω;omega
 .have:=w_ q
  have:¬p<l.length:=λe=>this<|Int.ofNat_lt.2 e
  omega
theorem Bso(o:Au b F Dr=B)(h0:0<=D){p:Nat}(hp:p<=l.length)(h1:∀i (hi:i<l.length),i<p->dK l[i]<4*F+Dr)(v:∀i (hi:i<l.length),p<=i->4*F+Dr<dK l[i]):W (DQ l (p:Int) [Duty.mk F Dr 0]) λy=>DutOK b D y.1.1/\y.1.1≠[]:=by
 have hl:=h.len hb;refine aE ?_<|A ⟨⟨λe he=>?_,?_⟩,?_⟩
 .simp;omega
 .rcases n_.1 he with he|he
  .rcases n_.1 he with he|he
   .exact h.each e<|f0_ he
   .rw[E_.1 he];exact⟨o,b8_ 0,h0⟩
  .exact h.each e<|f1_ he
 .have u:∀a∈l.take p,dK a<4*F+Dr:=λa j=>by
   obtain⟨i,hi,rfl⟩:=List.mem_take_iff_getElem.1 j;exact h1 i ω ω
  have q:∀a∈l.drop p,4*F+Dr<dK a:=λa j=>by obtain⟨i,hi,rfl⟩:=List.mem_drop_iff_getElem.1 j;exact v (p+i) ω ω
  refine List.pairwise_append.2 ⟨List.pairwise_append.2 ⟨h.sort.take,List.pairwise_singleton ..,λa j c o=>?_⟩,h.sort.drop,λa j c o=>?_⟩
  .rw[E_.1 o];exact u a j
  .rcases n_.1 j with j|j
   .exact Int.lt_trans (u a j)<|q c o
   .rw[E_.1 j];exact q c o
 .simp
end
def Aww(z:α)(l:List α):NF (aT (aF (l.length:Int)) z) l=l:=by unfold NF;simp
def Bzy(c:Int×Int):(Hf c).length<=64:=by
 have h:∀k i:Nat,((List.range' i k).flatMap<|Me c).length<=2*k:=by
  intro k;induction k with
  |zero=>intro i;exact q_ _
  |succ k a=>
   intro i;rw[e0_,a2_,e_]
   have:=a<|i+1
   have:=XP c i
   omega
 exact h 32 0
def Bz1(h:e∈Hf c):(0<=e.D0/\e.D0<32)/\(e.I0=1\/e.I0=2)/\BP c e.D0.toNat e.I0=B:=by obtain⟨f,h1,j,o,a⟩:=mem_range.1<|b3_.2 ⟨e,h,rfl⟩;simp only[HZ]at j o a;refine⟨ω,o,?_⟩;rw[j];exact a
def Baj(hb:b.small)(hcode:b.code=0)(h:e∈Hf (JC c<|Di b)):Au b e.D0 e.I0=B:=by obtain⟨h1,j,a⟩:=Bz1 h;rw[Rt,a_,Uv hb hcode ω j,bI h1.1]at a;exact a.2
section
variable{b:O}(hb:b.small)(hcode:b.code=0){car:Nat}(hcar:car<b.B0.length){x:Belief}(h:BelOK b car x)
include hb hcode hcar h
theorem Amt(he:∀e∈es,Au b e.D0 e.I0=B)(hl:es.length<=1000)(z:Aon):W (MQ (((),(),es,(es.length:Int),0,()),((x.D0,x.I0,x.G1,x.B1,x.G3,x.A4,()),z,()))) λy=>∃a,y.2.1=(x.D0,x.I0,x.G1,a,x.G3,x.A4,())/\DutOK b (GP b car).D1 a:=by
 have v:=Akz hcode (c:=GP b car) (by unfold GP;rw[k_,i_ hcar];exact a4_ hcar);refine aZ (λk y=>∃(a:List Duty) (i:Nat),y=(((),(),es,(es.length:Int),(i:Int),()),((x.D0,x.I0,x.G1,a,x.G3,x.A4,()),z,()))/\i+k=es.length/\DutOK b (GP b car).D1 a) ?_ es.length ⟨x.B1,0,rfl,ω,h.dut⟩ ω;rintro k y ⟨a,i,rfl,Q,j⟩;show W (Sm es es.length i x.D0 x.I0 x.G1 a x.G3 x.A4 z.1 z.2.1 z.2.2.1 z.2.2.2.1 z.2.2.2.2.1 z.2.2.2.2.2.1) _;refine C (λq=>?_) λ_=>A ⟨a,rfl,j⟩;have hi:i<es.length:=by have:=j_ q;omega
 refine aE (Ac ω ω) ?_;have g:List.getD es (aF i) (aX 0 0 0 0 J)=es[i]:=by simp only[l_,k_,i_ hi,Option.getD_some]
 simp only[g,FJ hi (by unfold Df;omega)];have o:=he _<|a4_ hi;refine I (Boc hb j (Fh hb o).2) ?_;rintro S ⟨p,w,hp,h1,P⟩;refine C (λq=>?_) λ_=>A ⟨k-1,ω,a,i+1,rfl,ω,j⟩;rw[w];refine I (Bso hb j (Fh hb o).2 o v.1 hp h1<|P (by simpa using q)) λN u=>A ⟨k-1,ω,N.1.1,i+1,rfl,ω,u.1⟩
theorem Afy(u d:Int):W (Ou b.C0 b.E0 b.J0 b.M0 b.K0 b.N0 b.O0 b.B0 (car:Int) x.D0 x.I0 x.G1 x.B1 x.G3 x.A4 u d) λy=>Bdj b car y.2.1:=by
 have hl:=h.dut.len hb;refine aN (IG hb hcode hcar h)<|bA rfl<|aE ?_ ?_
 .simp;omega
 refine aN (EM hb hcode)<|aN (Hi (u,d) _)<|aN (Sb _) ?_;simp only[Aww];refine I (Amt hb hcode hcar h (λe he=>Baj hb hcode he) ?_ _) ?_
 .have:=Bzy<|JC (u,d)<|Di b
  omega
 rintro⟨a,t,w⟩ ⟨j,e,o⟩;change t=_ at e;subst e;refine Sat.bindC (λ_=>Sat.bindR<|A ⟨⟨x.D0,x.I0,x.G1,j,x.G3,(j.length:Int)==0⟩,rfl,⟨h.fl,h.dir,h.door,h.still,λq=>?_,o⟩⟩) λ_=>Sat.bindR<|A ⟨⟨x.D0,x.I0,x.G1,j,x.G3,J⟩,rfl,⟨h.fl,h.dir,h.door,h.still,λq=>(by cases q),o⟩⟩;have q:(j.length:Int)=0:=by simpa using q
 exact(List.length_eq_zero_iff (l:=j)).1 ω
end
def Aq5(f d r p:Int)(e u o:Nat)(cs:List Car)(x:Nat):W (Tx f d r p e u o cs x) λy=>0<=y.1.1/\y.1.1<=4:=by refine C (λ_=>A τ) λ_=>C (λ_=>A τ) λ_=>C (λ_=>A τ) λ_=>C (λ_=>A τ) λ_=>A τ
def Atq(o:W (arF .sub .f64 b.N0 4589168020290535424) λ_=>True)(j:W (arF .sub .f64 b.O0 4589168020290535424) λ_=>True)(s:Int)(x:Nat):W (VU b.C0 b.E0 b.J0 b.M0 b.K0 b.N0 b.O0 b.B0 s x) λy=>0<=y.2.1.1/\y.2.1.1<=4:=by
 refine aN (Ap b) (C (λ_=>A ⟨b8_ 0,show _<=4 from by decide⟩) λ_=>I (Aq5 ..) λu v=>?_);refine I (Q:=λy=>y.1.2.2.2.2.1=u.1.1/\y.2.1=b.tup) (C (λ_=>A ⟨rfl,rfl⟩) λ_=>A ⟨rfl,rfl⟩) λa p=>?_;have k:0<=a.1.2.2.2.2.1/\a.1.2.2.2.2.1<=4:=by rw[p.1];exact v
 refine C (λ_=>C (λq=>?_) λ_=>C (λq=>?_) λ_=>A k) λ_=>A k
 .have q:a.2.2.1.1=3:=by simpa using q
  rw[p.2];refine I o λ_ _=>C (λ_=>A ?_) λ_=>A k;show 0<=a.2.2.1.1/\a.2.2.1.1<=4;omega
 .have q:a.2.2.1.1=4:=by simpa using q
  rw[p.2];refine I j λ_ _=>C (λ_=>A ?_) λ_=>A k;show 0<=a.2.2.1.1/\a.2.2.1.1<=4;omega
def ZH{c:Bool}{x y r:α}(h:c=B)(a:x=r):(bif c then x else y)=r:=by subst h;exact a
def Amj(hcode:b.code=0){car:Int}(a:0<=car/\car<(b.B0.length:Int)){k v:Int}(h:(k=4/\0<=v/\v<=4)\/((k=5\/k=6)/\0<=v/\v<=1)):Ar b (aY k 0 0 car v)=B:=by unfold Ar Wf aI;rcases h with⟨rfl,h⟩|⟨rfl|rfl,h⟩<;>simp<;>omega
def phA(m:aH)(i:Nat):Int:=m.F0.getD i 0
def flA(m:aH)(i:Nat):Bool:=m.L0.getD i J
def lvA(m:aH)(i:Nat):Bool:=m.H0.getD i J
def Ahp(m:aH)(i:Nat):Bool:=(phA m i==0||phA m i==4)&&(!flA m i&&!lvA m i)
def Np(m:aH)(i:Nat):Bool:=phA m i==0||(phA m i==1||phA m i==4)
section
variable{b:O}{m:aH}(hm:ImgOK b m)
include hm
theorem Aqr(hi:i<b.B0.length):KV m.F0 m.L0 m.H0 m.A0 (i:Int)=R ((B,()),()):=by unfold KV;simp only[hm.lp,hm.lf,hm.ll,Z (ω:0<=(i:Int)),d_<|a0_ _,h_,g_,Z (ω:i<(b.B0.length:Int)),c_]
theorem Aog(hi:i<b.B0.length):Nw m.F0 m.L0 m.H0 m.A0 (i:Int)=R ((Ahp m i,()),()):=by have j:inB i m.F0.length=B:=Ac ω (by rw[hm.lp];omega);have i2:inB i m.L0.length=B:=Ac ω (by rw[hm.lf];omega);have i3:inB i m.H0.length=B:=Ac ω (by rw[hm.ll];omega);refine Ae (a:=(((m.F0.getD i 0==0||m.F0.getD i 0==4)&&(!m.L0.getD i J&&!m.H0.getD i J),()),())) (Ae (Aqr hm hi) ?_) rfl;simp only[j,i2,i3,l_];cases m.F0.getD i 0==0<;>cases m.F0.getD i 0==4<;>cases m.L0.getD i J<;>rfl
theorem Afq(hi:i<b.B0.length):IM m.F0 m.L0 m.H0 m.A0 (i:Int)=R ((Np m i,()),()):=by have a:inB i m.F0.length=B:=Ac ω (by rw[hm.lp];omega);unfold IM Np phA;refine Ae (Aqr hm hi) ?_;simp only[a,l_];cases m.F0.getD i 0==0<;>cases m.F0.getD i 0==1<;>rfl
theorem Bj3:∃fr:Bool,Er m.F0 m.L0 m.H0 m.A0=R ((fr,()),()):=by
 have a:=Ag hm.code;have hp:=hm.lp;have hl:=hm.ll;have h:W (Er m.F0 m.L0 m.H0 m.A0) λ_=>True:=by
  refine I (Q:=λ_=>True) (aZ (λk x=>∃i:Nat,x=(((),m.F0,(m.F0.length:Int),(i:Int),()),((m.F0,m.L0,m.H0,m.A0,()),()))/\i+k=m.F0.length) ?_ m.F0.length ⟨0,rfl,ω⟩ ω) λy _=>?_
  .rintro k x ⟨i,rfl,j⟩;show W (WE m.F0 m.F0.length i m.F0 m.L0 m.H0 m.A0) _;refine C (λq=>?_) λ_=>A trivial;have hi:i<m.F0.length:=by have:=j_ q;omega
   refine aE (Ac ω ω) ?_;simp only[FJ hi (by unfold Df;omega)];refine C (λ_=>A trivial) λ_=>C (λ_=>A trivial) λ_=>C (λ_=>A trivial) λ_=>?_;exact aE (Ac ω ω) (C (λ_=>A trivial) λ_=>A ⟨k-1,ω,i+1,rfl,ω⟩)
  .cases y with
   |inl _=>exact A trivial
   |inr _=>exact A trivial
 obtain⟨y,h,_⟩:=h;exact⟨y.1.1,h⟩
end
def Uc(m:aH)(i:Nat)(calm fr:Bool)(kind:Int):List aG×Int:=
 bif kind==1&&phA m i==0 then(bif fr then([⟨4,0,0,i,1⟩],0)else([],261))
 else bif(kind==2&&phA m i==1)then([⟨4,0,0,i,0⟩],0)
 else bif(kind==3&&phA m i==2)then([⟨4,0,0,i,0⟩],0)
 else bif(kind==2&&(phA m i==4&&lvA m i))then([⟨6,0,0,i,0⟩],0)
 else bif(kind==4&&phA m i==2)then([⟨4,0,0,i,3⟩],0)
 else bif(kind==5&&phA m i==3)then(bif calm then([⟨4,0,0,i,2⟩],0)else([],262))
 else bif(kind==6&&phA m i==3)then(bif !flA m i then([⟨4,0,0,i,4⟩],0)else([],262))
 else bif(kind==7&&(phA m i==4&&!lvA m i))then(bif fr then([⟨6,0,0,i,1⟩],0)else([],261))
 else bif(kind==8&&flA m i)then([⟨5,0,0,i,0⟩],0)else([],260)
section
variable{b:O}{m:aH}(hm:ImgOK b m){i:Nat}(hi:i<b.B0.length)
include hm hi
theorem Bk1(a:Bool)(e:Int)(l:List aG):Eo a e l=R (((bif a then(l,(0:Int))else([],e)).1,(bif a then(l,(0:Int))else([],e)).2,()),()):=by cases a<;>rfl
theorem Bsl(calm:Bool)(p:Int):BO m.F0 m.L0 m.H0 m.A0 (i:Int) calm p=R ((phA m i==p,()),()):=by unfold BO;rw[Ac ω (by rw[hm.lp];omega)];rfl
theorem Be1(hf:Er m.F0 m.L0 m.H0 m.A0=R ((fr,()),()))(calm:Bool)(kind:Int):Ij m.F0 m.L0 m.H0 m.A0 (i:Int) calm kind=R (((Uc m i calm fr kind).1,(Uc m i calm fr kind).2,()),()):=by
 have j:inB i m.L0.length=B:=Ac ω (by rw[hm.lf];omega);have q:=Bsl hm hi calm;have o:=Bk1 hm hi;unfold Ij Uc;rw[Ac ω (by rw[hm.ll];omega)]
 let T:=((m.F0,m.L0,m.H0,m.A0,(i:Int),calm,()),(m.F0,m.L0,m.H0,m.A0,()),())
 have st:∀(k p:Int),(bif kind==k then(BO m.F0 m.L0 m.H0 m.A0 _ calm p).bind λu=>R ((kind,(),(),lvA m i,u.1.1,()),T)else R _)=R ((kind,(),(),lvA m i,(kind==k&&phA m i==p),()),T):=λk p=>by
  cases kind==k with
  |true=>exact Ae (q p) rfl
  |false=>rfl
 refine Ae (st 1 0) ?_;cases kind==1&&phA m i==0 with
 |true=>refine Ae hf<|Ae rfl<|Ae (o fr 261 [⟨4,0,0,i,1⟩]) ?_;cases fr<;>rfl
 |false=>
 refine Ae (st 2 1) ?_;cases v:kind==2&&phA m i==1 with
 |true=>rfl
 |false=>
 refine Ae (st 3 2) ?_;cases kind==3&&phA m i==2 with
 |true=>rfl
 |false=>
 refine Ae (a:=((kind,(),(),lvA m i,(kind==2&&(phA m i==4&&lvA m i)),()),T)) ?_ ?_
 .cases kind==2 with
  |false=>rfl
  |true=>refine Ae (q 4) ?_;cases phA m i==4<;>rfl
 cases kind==2&&(phA m i==4&&lvA m i)with
 |true=>rfl
 |false=>
 refine Ae (st 4 2) ?_;cases kind==4&&phA m i==2 with
 |true=>rfl
 |false=>
 refine Ae (st 5 3) ?_;cases kind==5&&phA m i==3 with
 |true=>rw[h_];refine Ae rfl ?_;refine Ae (o calm 262 [⟨4,0,0,i,2⟩]) ?_;cases calm<;>rfl
 |false=>
 refine Ae (st 6 3) ?_;cases kind==6&&phA m i==3 with
 |true=>show(bif inB _ m.L0.length then _ else _)=_;rw[j,h_];refine Ae rfl ?_;refine Ae (o (!flA m i) 262 [⟨4,0,0,i,4⟩]) ?_;cases flA m i<;>rfl
 |false=>
 refine Ae (a:=((kind,(),(),(kind==7&&(phA m i==4&&!lvA m i)),()),T)) ?_ ?_
 .cases kind==7 with
  |false=>rfl
  |true=>refine Ae (q 4) ?_;cases phA m i==4<;>rfl
 cases kind==7&&(phA m i==4&&!lvA m i)with
 |true=>refine Ae hf<|Ae (o fr 261 [⟨6,0,0,i,1⟩]) ?_;cases fr<;>rfl
 |false=>
 refine Ae (a:=(((),(kind==8&&flA m i),()),(T.1,()))) ?_ ?_
 .cases kind==8 with
  |false=>rfl
  |true=>rw[j];rfl
 cases kind==8&&flA m i<;>rfl
end
def Abp(m:aH)(car:Int):Bool:=m.A0.any λe=>e.S0==car
def LI(m:aH)(i:Nat):Bool:=phA m i==4&&lvA m i
def Yf(m:aH)(calm:List Bool)(i:Nat):Bool:=calm.getD i J&&((phA m i==1||LI m i)&&!Abp m i)
def QJ(m:aH)(calm:List Bool)(i:Nat):List aG:=bif Yf m calm i then [⟨4,0,0,i,2⟩]++(bif LI m i then [⟨6,0,0,i,0⟩]else [])++(bif flA m i then [⟨5,0,0,i,0⟩]else [])else []
def Jb(m:aH)(calm:List Bool):Nat->List aG
 |0=>[]
 |i+1=>Jb m calm i++QJ m calm i
def Bag(m:aH)(calm:List Bool)(i:Nat):(QJ m calm i).length<=3:=by unfold QJ;cases Yf m calm i<;>cases LI m i<;>cases flA m i<;>simp
def Vh(m:aH)(calm:List Bool):∀i,(Jb m calm i).length<=3*i
 |0=>q_ 0
 |i+1=>by
  have:=Vh m calm i
  have:=Bag m calm i
  show(Jb m calm i++QJ m calm i).length<=_;rw[e_];omega
section
variable{b:O}{m:aH}(hm:ImgOK b m)(hb:b.small)(he:m.A0.length<=100000)
include hm he
omit hm in
theorem Asz(car:Int):Gl m.F0 m.L0 m.H0 m.A0 car=R ((Abp m car,()),()):=by
 have h:W (Gl m.F0 m.L0 m.H0 m.A0 car) λy=>y=((Abp m car,()),()):=by
  refine I (Q:=λy=>match y with|.inl _=>Abp m car=J|.inr z=>z=((B,()),())/\Abp m car=B) (aZ (λk x=>∃i:Nat,x=((car,m.A0,(m.A0.length:Int),(i:Int),()),())/\i+k=m.A0.length/\∀e∈m.A0.take i,(e.S0==car)=J) ?_ m.A0.length ⟨0,rfl,ω,λe h=>(by simp at h)⟩ ω) λy o=>?_
  .rintro k x ⟨i,rfl,u,j⟩;show W (Ri car m.A0 m.A0.length i) _;refine C (λq=>?_) λq=>A ?_
   .have hi:i<m.A0.length:=by have:=j_ q;omega
    refine aE (Ac ω ω) (C (λa=>A ⟨rfl,?_⟩) λa=>A ⟨k-1,ω,i+1,?_,ω,λe h=>?_⟩)
    .exact List.any_eq_true.2 ⟨_,AE _ hi,a⟩
    .rw[show U.wrap _=((i+1:Nat):Int)by rw[Aa ω ω];omega]
    .rw[List.take_succ,i_ hi]at h;rcases n_.1 h with h|h
     .exact j e h
     .rw[l_,k_,i_ hi]at a
      have:e=m.A0[i]:=by simpa using h
      rw[this];exact a
   .have:=w_ q
    rw[a8_ ω]at j;exact List.any_eq_false.2 λe h=>by rw[j e h];decide
  .cases y with
   |inl _=>rw[show Abp m car=J from o];exact A rfl
   |inr z=>obtain⟨h1,p⟩:=o;subst h1;rw[p];exact A rfl
 obtain⟨y,h,rfl⟩:=h;exact h
include hb in
theorem Aj4{kind:Int}(o:0<=kind/\kind<=8)(hi:i<b.B0.length)(a:calm.length=b.B0.length)(hf:Er m.F0 m.L0 m.H0 m.A0=R ((fr,()),())):RP b.C0 b.E0 b.J0 b.M0 b.K0 b.N0 b.O0 b.B0 m.F0 m.L0 m.H0 m.A0 kind (i:Int) calm=R (((bif kind==0 then([],(0:Int))else Uc m i (calm.getD i J) fr kind).1,(bif kind==0 then([],(0:Int))else Uc m i (calm.getD i J) fr kind).2,()),()):=by
 have j:=Ag hm.code;refine Ae (CV hb m (b7_ (show m.F0.length<=8 by rw[hm.lp];omega) τ)<|b7_ he τ) ?_;rw[Img.ok_iff.2 hm,a,P_,d_ ω,d_ ω,d_ (ω:¬(b.B0.length:Int)<=(i:Int))];cases kind==0 with
 |true=>rfl
 |false=>rw[ Ac ω ω];exact Ae (Be1 hm hi hf _ kind) rfl
include hb in
theorem Am5(a:calm.length=b.B0.length):Tz b.C0 b.E0 b.J0 b.M0 b.K0 b.N0 b.O0 b.B0 m.F0 m.L0 m.H0 m.A0 calm=R ((Jb m calm b.B0.length,()),()):=by
 have z:=Ag hm.code;have lp:=hm.lp;have lf:=hm.lf;have P:=hm.ll;have N:W (Qc ((calm,(),([]:List aG),m.F0,m.F0.length,0,()),(m.tup,()))) λy=>y=((Jb m calm b.B0.length,()),()):=by
  refine aZ (λk x=>∃i,x=((calm,(),Jb m calm i,m.F0,(m.F0.length:Int),(i:Int),()),(m.tup,()))/\i+k=m.F0.length) ?_ m.F0.length ⟨0,rfl,ω⟩ ω;rintro k x ⟨i,rfl,Q⟩;have hl:=Vh m calm i;show W (WD calm _ m.F0 m.F0.length i m.F0 m.L0 m.H0 m.A0) _;refine C (λq=>?_) λq=>A (by have q:=w_ q;rw[show b.B0.length=i by omega]);have hi:i<m.F0.length:=by have:=j_ q;omega
  have w:=FJ hi (by unfold Df;omega);have v:inB i m.F0.length=B:=Ac ω ω;have i2:inB i m.H0.length=B:=Ac ω ω;have i3:inB i m.L0.length=B:=Ac ω ω;have i4:inB i calm.length=B:=Ac ω ω;refine aE v ?_;refine aN (b:=((calm,(),Jb m calm i,(i:Int),phA m i,LI m i,m.F0,(m.F0.length:Int),(i:Int),()),(m.tup,()))) ?_ ?_
  .show(bif phA m i==4 then _ else _)=_;unfold LI;cases phA m i==4 with
   |true=>rw[ i2];rfl
   |false=>rfl
  refine aN (b:=((calm,(),Jb m calm i,(i:Int),LI m i,m.F0,(m.F0.length:Int),(i:Int),!Yf m calm i,()),(m.tup,()))) ?_ ?_
  .have p:=Asz he i;rw[i4];unfold Yf;show(bif !calm.getD i J then _ else bif phA m i !=1 then bif !LI m i then _ else(Gl m.F0 m.L0 m.H0 m.A0 _).bind _ else(Gl m.F0 m.L0 m.H0 m.A0 _).bind _)=_;cases calm.getD i J with
   |false=>rfl
   |true=>
    rw[W_,c1_];unfold bne;cases phA m i==1 with
    |true=>exact Ae p (by rw[Bool.true_or,c1_,Bool.not_not])
    |false=>
     cases LI m i with
     |false=>rfl
     |true=>exact Ae p (by rw[Bool.or_true,c1_,Bool.not_not])
  refine C (λj=>A ⟨k-1,ω,i+1,?_,ω⟩) λj=>?_
  .simp only[w];have j:Yf m calm i=J:=by simpa using j
   show _=((calm,(),Jb m calm i++QJ m calm i,m.F0,(m.F0.length:Int),((i+1:Nat):Int),()),(m.tup,()));rw[show QJ m calm i=[]by unfold QJ;rw[j];rfl,T_]
  .have j:Yf m calm i=B:=by simpa using j
   refine aE (e6_ (by simp only[s_,c6_];omega)) ?_;refine aN (b:=((calm,(),Jb m calm i++[⟨4,0,0,i,2⟩]++(bif LI m i then [⟨6,0,0,i,0⟩]else []),(i:Int),m.F0,(m.F0.length:Int),(i:Int),()),(m.tup,()))) ?_ ?_
   .cases LI m i with
    |true=>rw[h_];refine ZH (e6_ (by simp only[e_,s_,c6_];omega)) rfl
    |false=>rw[g_,g_,T_]
   refine aE i3 ?_;have e:Jb m calm (i+1)=Jb m calm i++[⟨4,0,0,i,2⟩]++(bif LI m i then [⟨6,0,0,i,0⟩]else [])++(bif flA m i then [⟨5,0,0,i,0⟩]else []):=by show Jb m calm i++QJ m calm i=_;unfold QJ;rw[j,h_];simp only[G_]
   refine C (λo=>?_) λo=>A ⟨k-1,ω,i+1,?_,ω⟩
   .have o:flA m i=B:=o;rw[o,h_]at e;refine aE (e6_ (by have:(bif LI m i then [(⟨6,0,0,i,0⟩:aG)]else []).length<=1:=(by cases LI m i<;>simp);simp only[e_,s_,c6_];omega))<|A ⟨k-1,ω,i+1,?_,ω⟩;simp only[w];rw[e]
   .have o:flA m i=J:=o;rw[o,g_,T_]at e;simp only[w];rw[e]
 obtain⟨y,u,rfl⟩:=N;refine Ae (CV hb m (b7_ (ω:m.F0.length<=8) τ)<|b7_ he τ) ?_;rw[Img.ok_iff.2 hm,a,P_,W_,g_];exact Ae u rfl
end
def WI(x:Int):0<=aD.wrap (stk x 255<|aR<|aK (IntKind.bits .u32) x&&&aK (IntKind.bits .u32) 255)/\aD.wrap (stk x 255<|aR<|aK (IntKind.bits .u32) x&&&aK (IntKind.bits .u32) 255)<256:=by
 rw[Aii];unfold vb;have h:(bv x&&&bv 255).toNat<256:=by exact f3_ bE τ
 omega
def Bqp(n:Int):0<=U.wrap (H aM n)/\U.wrap (H aM n)<=255:=by
 have:=Afk n
 rw[Aa ω ω];omega
def Yw{x:Int}(h:0<=x/\x<4294967296):W (EO x) λy=>0<=y.1.1/\y.1.1<=255:=by
 refine aE (Ac ?_<|bD ?_<|Int.ofNat_le.2<|C_ (n:=256) rfl) ?_
 .rw[R_ _ τ];exact Int.ediv_nonneg h.1 τ
 .rw[R_ _ τ];exact Int.ediv_lt_of_lt_mul τ h.2
 refine aE (Ac (WI _).1<|bD (WI _).2<|Int.ofNat_le.2<|C_ rfl) ?_;refine aE (Ac (WI _).1<|bD (WI _).2<|Int.ofNat_le.2<|C_ rfl) ?_;exact aE (Ac (WI _).1<|bD (WI _).2<|Int.ofNat_le.2<|C_ rfl)<|A<|Bqp _
def Aaf(fl:Int){j:Int}(h:0<=j/\j<4294967296)(a c d e:Bool):W (LQ fl j a c d e) λy=>y.2.1.2.2.1=2->e=B:=by refine I (Q:=λ_=>True) (I (Asm j) λ_ _=>I (Q:=λ_=>True) ?_ λ_ _=>C (λ_=>A trivial) λ_=>A trivial) λ_ _=>I (Bp4 a c) λ_ _=>I (Q:=λy=>y.1.1=2->e=B) (by cases d<;>cases e<;>exact⟨_,rfl,τ⟩) λ_ h=>A h;refine I (isFloors_ti fl).out λ_ _=>C (λ_=>I (Yw h) λ_ _=>C (λ_=>A trivial) λ_=>A trivial) λ_=>A trivial
def orL(x y:Int):Int:=aB.wrap<|stk x y<|aR ((aK (IntKind.bits aB) x)|||(aK (IntKind.bits aB) y))
def leV(s:ByteArray):Nat->Int
 |0=>0
 |i+1=>orL (leV s i)<|H aB<|H aB (Cr s i)*((2:Int)^(aJ (aF<|8*(i:Int))<|IntKind.bits aB))
def Mh(b:O)(p:k<=8)(o:k<=s.size):Bz (k:Int) s b.C0 b.E0 b.J0 b.M0 b.K0 b.N0 b.O0 b.B0=R ((leV s k,()),((s.extract k s.size,b.C0,b.E0,b.J0,b.M0,b.K0,b.N0,b.O0,b.B0,()),())):=by
 have h:W (GM (((),k,0,k,0,()),((s,b.C0,b.E0,b.J0,b.M0,b.K0,b.N0,b.O0,b.B0,()),()))) λy=>y=(((),(k:Int),leV s k,()),((s,b.C0,b.E0,b.J0,b.M0,b.K0,b.N0,b.O0,b.B0,()),())):=by
  refine aZ (λm x=>∃i:Nat,x=(((),(k:Int),leV s i,(k:Int),(i:Int),()),((s,b.C0,b.E0,b.J0,b.M0,b.K0,b.N0,b.O0,b.B0,()),()))/\i+m=k) ?_ k ⟨0,rfl,ω⟩ ω;rintro m x ⟨i,rfl,hm⟩;show W (Kj _ _ k i s b.C0 b.E0 b.J0 b.M0 b.K0 b.N0 b.O0 b.B0) _;refine C (λq=>?_) λq=>A ?_
  .have q:=j_ q;refine aE (Ac ω ω) ?_;have a:U.wrap _=8*i:=Aa ω ω;have j:U.wrap (i+1)=((i+1:Nat):Int):=by rw[Aa ω ω];omega
   simp only[a,j];exact aE (Z ω)<|A ⟨m-1,ω,i+1,rfl,ω⟩
  .have q:=w_ q;obtain rfl:i=k:=ω;rfl
 obtain⟨y,h1,rfl⟩:=h;unfold Bz;rw[h1];simp only[c_];rw[ Z (ω:(k:Int)<=(s.size:Int))];rfl
def PC{α:Type}(d:α)(g:Nat->α->α)(i:Nat)(l:List α):List α:=l.set i<|g i<|l.getD i d
def Ale{α:Type}(d:α)(g:Nat->α->α):∀(m i:Nat) (l:List α),i+m=l.length->Bd (PC d g) m i l=l.take i++(List.range' i m).map (λj=>g j<|l.getD j d)
 |0,i,l,h=>by rw[show i=l.length by omega,List.take_length];simp[Bd]
 |m+1,i,l,h=>by
  have hi:i<l.length:=ω;unfold Bd;rw[Ale d g m (i+1) _ (by rw[PC,z_];omega)];have o:(PC d g i l).take (i+1)=l.take i++[g i<|l.getD i d]:=by unfold PC;rw[List.take_add_one,List.take_set_of_le ω,List.getElem?_set_self ω];rfl
  rw[o,e0_,G_,bK];congr 2;apply List.map_congr_left;intro j a;rw[List.mem_range']at a;obtain⟨k,p,rfl⟩:=a;unfold PC;rw[k_,List.getElem?_set_ne ω,<-k_]
def Yb(d:α)(g:Nat->α->α)(f:Nat->α)(n:Nat):Bd (PC d g) n 0 ((aV n).map f)=(aV n).map (λj=>g j<|f j):=by rw[Ale d g n 0 _ σ,List.take_zero,<-List.range_eq_range'];apply List.map_congr_left;intro j a;rw[List.mem_range]at a;simp[k_,a]
def BQ{l:List α}(d x:α)(h:i<l.length):(l.set i x).getD i d=x:=by rw[k_,List.getElem?_set_self h];rfl
def g15(fl t i:Nat)(c:Car):Car:=⟨c.D1,c.O3,c.T3,c.L2,((1+t%3:Nat):Int),((1+t/3%3:Nat):Int),((1+t/9%3:Nat):Int),((1+t/9%3+t/27%5:Nat):Int),(((i+t)%fl:Nat):Int)⟩
def g18(t:Nat)(_:Nat)(c:Car):Car:={ c with D1:=((1+t%16:Nat):Int) }
def g27(n1 n2:Nat)(_:Nat)(c:Car):Car:={ c with T3:=((1+n2%4:Nat):Int),L2:=((n1%5:Nat):Int) }
def EG(fl a t:Nat):O:={ AU fl a with M0:=((1+t%7:Nat):Int),B0:=(aV a).map λi=>g15 fl t i (Oq fl i) }
def Vk(fl a t:Nat):O:={ EG fl a t with B0:=(aV a).map λi=>g18 t i (g15 fl t i<|Oq fl i) }
def FC(fl a n1 n2:Nat):O:={ EG fl a n1 with E0:=((1+n2%3:Nat):Int),J0:=((18*a+24+6*(n2/3):Nat):Int),B0:=(aV a).map λi=>g27 n1 n2 i (g18 n1 i<|g15 fl n1 i<|Oq fl i) }
def Bha(h:0<=n)(h':n<256):aM.wrap n=n:=by simp only[H,IntKind.signed,IntKind.bits];simp;omega
def UP(a b:Nat):aO (a:Int) (b:Int)=((a%b:Nat):Int):=by norm_cast
def Bg8(a b:Nat):aU (a:Int) (b:Int)=((a/b:Nat):Int):=by norm_cast
def Ol(k:Nat)(a:t<100000):U.wrap ((1:Int)+U.wrap (aO (t:Int) (k:Int)))=((1+t%k:Nat):Int):=by
 have:t%k<=t:=Nat.mod_le _ _
 rw[UP];generalize t%k=q at this|-;rw[Aa (n:=q) ω ω,Aa ω ω];norm_cast
def ZT(k:Nat)(a:t<256):aM.wrap (aU (t:Int) (k:Int))=((t/k:Nat):Int):=by
 have:t/k<=t:=Nat.div_le_self _ _
 generalize hq:t/k=q at this;rw[Bg8,hq,Bha ω ω]
def Awb{fl j:Nat}(h1:1<=fl)(hf:fl<=100)(q:j<=8)(u:t<256):
  NR (((t:Int),(),(),(0:Int),()),(Bldg.none.tup,(AU fl j).tup,()))=R (((t:Int),(),(),()),(Bldg.none.tup,({ AU fl j with B0:=(EG fl j t).B0 }:O).tup,())):=by
 have hl:(AU fl j).B0.length=j:=by simp[AU]
 have h:=BN (step:=λx=>letI a:=x.2.2.1.2.2;letI b:=x.2.1.2.2;letI c:=b.2.2;letI d:=a.2.2;Gr x.1.1 x.1.2.2.2.1 x.2.1.1 x.2.1.2.1 b.1 b.2.1 c.1 c.2.1 c.2.2.1 c.2.2.2.1 x.2.2.1.1 x.2.2.1.2.1 a.1 a.2.1 d.1 d.2.1 d.2.2.1 d.2.2.2.1) j
  (λi l=>((t,(),(),i,()),(Bldg.none.tup,({ AU fl j with B0:=l }:O).tup,()))) (PC Cm<|g15 fl t) (λ_ l=>l.length=j) (λl=>((t,(),(),()),(Bldg.none.tup,({ AU fl j with B0:=l }:O).tup,())))
  (λi l hi o=>by
   refine⟨?_,by rw[PC,z_,o]⟩;show Gr _ _ Bldg.none.C0 Bldg.none.E0 Bldg.none.J0 Bldg.none.M0 Bldg.none.K0 Bldg.none.N0 Bldg.none.O0 Bldg.none.B0 (AU fl j).C0 (AU fl j).E0 (AU fl j).J0 (AU fl j).M0 (AU fl j).K0 (AU fl j).N0 (AU fl j).O0 l=_;unfold Gr;have p:i<l.length:=ω;have v:((AU fl j).C0 !=0)=B:=by show((fl:Int) !=0)=B;simp;omega
   have w:U.wrap (i+1)=((i+1:Nat):Int):=by rw[Aa ω ω];omega
   have N:U.wrap (1+U.wrap (aO _ 3))=((1+t%3:Nat):Int):=Ol 3 ω;have P:U.wrap (1+U.wrap (aO (H aM<|aU t 3) 3))=((1+t/3%3:Nat):Int):=by rw[show aM.wrap (aU _ 3)=((t/3:Nat):Int)from ZT 3 u];exact Ol 3 ω
   have y:U.wrap (1+U.wrap (aO (H aM<|aU t 9) 3))=((1+t/9%3:Nat):Int):=by rw[show aM.wrap (aU _ 9)=((t/9:Nat):Int)from ZT 9 u];exact Ol 3 ω
   have z:U.wrap (((1+t/9%3:Nat):Int)+U.wrap (aO (H aM<|aU t 27) 5))=((1+t/9%3+t/27%5:Nat):Int):=by rw[show aM.wrap (aU _ 27)=((t/27:Nat):Int)from ZT 27 u,show aO _ 5=((t/27%5:Nat):Int)from UP _ 5,Aa (n:=((t/27%5:Nat):Int)) ω ω,Aa ω ω];norm_cast
   have Q:aO (H U<|i+U.wrap t) (AU fl j).C0=(((i+t)%fl:Nat):Int):=by rw[Aa (n:=t) ω ω,Aa ω ω];exact UP (i+t) fl
   rw[show Car.mk 0 0 0 0 0 0 0 0 0=Cm from rfl];simp only[Z (ω:i<(l.length:Int)),Ac ω (ω:(i:Int)<l.length),l_,v,w,BQ Cm _ p,g2_,N,P,y,z,Q];rfl)
  (λl o=>by show Gr _ _ Bldg.none.C0 Bldg.none.E0 Bldg.none.J0 Bldg.none.M0 Bldg.none.K0 Bldg.none.N0 Bldg.none.O0 Bldg.none.B0 (AU fl j).C0 (AU fl j).E0 (AU fl j).J0 (AU fl j).M0 (AU fl j).K0 (AU fl j).N0 (AU fl j).O0 l=_;unfold Gr;rw[o,d_<|a0_ _];rfl)
  j 0 (AU fl j).B0 ω hl
 have q:=Aj h.1 ω;rw[show(AU fl j).B0=(aV j).map _ from rfl,Yb]at q;exact q
def Awc{fl j:Nat}(q:fl<=100)(p:j<=8)(v:t<256):
  NS (((t:Int),(),(),(0:Int),()),(Bldg.none.tup,(EG fl j t).tup,()))=R (((),(),()),(Bldg.none.tup,(Vk fl j t).tup,())):=by
 have hl:(EG fl j t).B0.length=j:=by simp[EG]
 have h:=BN (step:=λx=>letI a:=x.2.2.1.2.2;letI b:=x.2.1.2.2;letI c:=b.2.2;letI d:=a.2.2;Gs x.1.1 x.1.2.2.2.1 x.2.1.1 x.2.1.2.1 b.1 b.2.1 c.1 c.2.1 c.2.2.1 c.2.2.2.1 x.2.2.1.1 x.2.2.1.2.1 a.1 a.2.1 d.1 d.2.1 d.2.2.1 d.2.2.2.1) j
  (λi l=>((t,(),(),i,()),(Bldg.none.tup,({ EG fl j t with B0:=l }:O).tup,()))) (PC Cm<|g18 t) (λ_ l=>l.length=j) (λl=>(((),(),()),(Bldg.none.tup,({ EG fl j t with B0:=l }:O).tup,())))
  (λi l hi o=>by
   refine⟨?_,by rw[PC,z_,o]⟩;show Gs _ _ Bldg.none.C0 Bldg.none.E0 Bldg.none.J0 Bldg.none.M0 Bldg.none.K0 Bldg.none.N0 Bldg.none.O0 Bldg.none.B0 (EG fl j t).C0 (EG fl j t).E0 (EG fl j t).J0 (EG fl j t).M0 (EG fl j t).K0 (EG fl j t).N0 (EG fl j t).O0 l=_;unfold Gs;have w:U.wrap (i+1)=((i+1:Nat):Int):=by rw[Aa ω ω];omega
   have u:U.wrap (1+U.wrap (aO _ 16))=((1+t%16:Nat):Int):=Ol 16 ω;simp only[Z (ω:i<(l.length:Int)),Ac ω (ω:(i:Int)<l.length),w,u];rfl)
  (λl o=>by show Gs _ _ Bldg.none.C0 Bldg.none.E0 Bldg.none.J0 Bldg.none.M0 Bldg.none.K0 Bldg.none.N0 Bldg.none.O0 Bldg.none.B0 (EG fl j t).C0 (EG fl j t).E0 (EG fl j t).J0 (EG fl j t).M0 (EG fl j t).K0 (EG fl j t).N0 (EG fl j t).O0 l=_;unfold Gs;rw[o,d_<|a0_ _];rfl)
  j 0 (EG fl j t).B0 ω hl
 have p:=Aj h.1 ω;rw[show(EG fl j t).B0=(aV j).map _ from rfl,Yb]at p;exact p
def GC(fl a n1 n2:Nat):O:={ FC fl a n1 n2 with B0:=(Vk fl a n1).B0 }
def Awd{fl j n0 n1 n2:Nat}(q:j<=8)(u:n1<256)(z:n2<256) :
  KA (((),(),(),(0:Int),()),(((n0:Int),(n1:Int),(n2:Int),()),Bldg.none.tup,(GC fl j n1 n2).tup,()))=R (((),(),()),(Bldg.none.tup,(FC fl j n1 n2).tup,())):=by
 have hl:(GC fl j n1 n2).B0.length=j:=by simp[GC,Vk]
 have h:=BN (step:=λx=>letI a:=x.2.2;letI b:=a.2.1.2.2;letI c:=a.1.2.2;letI d:=c.2.2;letI e:=b.2.2;Gt x.1.2.2.2.1 x.2.1.1 x.2.1.2.1 x.2.1.2.2.1 a.1.1 a.1.2.1 c.1 c.2.1 d.1 d.2.1 d.2.2.1 d.2.2.2.1 a.2.1.1 a.2.1.2.1 b.1 b.2.1 e.1 e.2.1 e.2.2.1 e.2.2.2.1) j
  (λi l=>(((),(),(),i,()),((n0,n1,n2,()),Bldg.none.tup,({ GC fl j n1 n2 with B0:=l }:O).tup,()))) (PC Cm<|g27 n1 n2) (λ_ l=>l.length=j) (λl=>(((),(),()),(Bldg.none.tup,({ GC fl j n1 n2 with B0:=l }:O).tup,())))
  (λi l hi o=>by
   refine⟨?_,by rw[PC,z_,o]⟩;show Gt _ _ _ _ Bldg.none.C0 Bldg.none.E0 Bldg.none.J0 Bldg.none.M0 Bldg.none.K0 Bldg.none.N0 Bldg.none.O0 Bldg.none.B0 (GC fl j n1 n2).C0 (GC fl j n1 n2).E0 (GC fl j n1 n2).J0 (GC fl j n1 n2).M0 (GC fl j n1 n2).K0 (GC fl j n1 n2).N0 (GC fl j n1 n2).O0 l=_;unfold Gt;have p:i<l.length:=ω;have w:U.wrap (i+1)=((i+1:Nat):Int):=by rw[Aa ω ω];omega
   have v:U.wrap (1+U.wrap (aO _ 4))=((1+n2%4:Nat):Int):=Ol 4 ω;have y:U.wrap (aO n1 5)=((n1%5:Nat):Int):=by rw[show aO _ 5=((n1%5:Nat):Int)from UP n1 5,Aa ω ω]
   rw[show Car.mk 0 0 0 0 0 0 0 0 0=Cm from rfl];simp only[Z (ω:i<(l.length:Int)),Ac ω (ω:(i:Int)<l.length),l_,w,v,y,BQ Cm _ p,g2_,z_];rfl)
  (λl o=>by show Gt _ _ _ _ Bldg.none.C0 Bldg.none.E0 Bldg.none.J0 Bldg.none.M0 Bldg.none.K0 Bldg.none.N0 Bldg.none.O0 Bldg.none.B0 (GC fl j n1 n2).C0 (GC fl j n1 n2).E0 (GC fl j n1 n2).J0 (GC fl j n1 n2).M0 (GC fl j n1 n2).K0 (GC fl j n1 n2).N0 (GC fl j n1 n2).O0 l=_;unfold Gt;rw[o,d_<|a0_ _];rfl)
  j 0 (GC fl j n1 n2).B0 ω hl
 have q:=Aj h.1 ω;rw[show(GC fl j n1 n2).B0=(aV j).map _ from rfl,Yb]at q;exact q
def Ll(n0:Nat):Nat:=2+n0%5
def HY(n0:Nat):Nat:=1+n0/5%3
def Aci{n0:Nat}(j:n0<256)(q:t<256):Mr (n0:Int) (t:Int)=R (((),()),((EG (Ll n0) (HY n0) t).tup,())):=by
 have o:U.wrap (2+U.wrap (aO n0 5))=((Ll n0:Nat):Int):=by rw[show aO _ 5=((n0%5:Nat):Int)from UP n0 5,Aa (n:=((n0%5:Nat):Int)) ω ω,Aa ω ω];unfold Ll;norm_cast
 have p:U.wrap (1+U.wrap (aO (H aM<|aU n0 5) 3))=((HY n0:Nat):Int):=by rw[show aM.wrap (aU _ 5)=((n0/5:Nat):Int)from ZT 5 j];exact Ol 3 ω
 have hf:2<=Ll n0/\Ll n0<=6:=by unfold Ll;omega
 have u:1<=HY n0/\HY n0<=3:=by unfold HY;omega
 have a:U.wrap (1+U.wrap (aO _ 7))=((1+t%7:Nat):Int):=Ol 7 ω;unfold Mr;rw[o,p];refine Ae (Afn ω ω) ?_;refine Ae (Awb ω ω ω q) ?_;rw[a];rfl
def Acj{n0:Nat}(j:n0<256)(a:t<256):PT (n0:Int) (t:Int)=R (((),()),((Vk (Ll n0) (HY n0) t).tup,())):=by
 have hf:2<=Ll n0/\Ll n0<=6:=by unfold Ll;omega
 have o:1<=HY n0/\HY n0<=3:=by unfold HY;omega
 refine Ae (Aci j a) ?_;exact Ae (Awc ω ω a) rfl
def Ack{n0 n1 n2:Nat}(h0:n0<256)(h1:n1<256)(j:n2<256):Ms (n0:Int) (n1:Int) (n2:Int)=R (((),()),((FC (Ll n0) (HY n0) n1 n2).tup,())):=by
 have q:1<=HY n0/\HY n0<=3:=by unfold HY;omega
 have p:U.wrap (1+U.wrap (aO _ 3))=((1+n2%3:Nat):Int):=Ol 3 ω;have hl:(Vk (Ll n0) (HY n0) n1).B0.length=HY n0:=by simp[Vk]
 have o:U.wrap (H U (H U (18*(((Vk (Ll n0) (HY n0) n1).B0.length:Nat):Int))+24)+U.wrap (6*U.wrap (H aM<|aU n2 3)))=((18*HY n0+24+6*(n2/3):Nat):Int):=by
  rw[hl,show aM.wrap (aU _ 3)=((n2/3:Nat):Int)from ZT 3 j,Aa (n:=18*((HY n0:Nat):Int)) ω ω,Aa (n:=18*((HY n0:Nat):Int)+24) ω ω,Aa (n:=((n2/3:Nat):Int)) ω ω,Aa (n:=6*((n2/3:Nat):Int)) ω ω,Aa ω ω]
  norm_cast
 refine Ae (Acj h0 h1) ?_;refine Ae (a:=(((),(),()),(Bldg.none.tup,(FC _ _ n1 n2).tup,()))) ?_ rfl;show KA (((),(),(),0,()),((n0,n1,n2,()),Bldg.none.tup,(((Ll n0:Nat):Int),U.wrap _,U.wrap<|H U (H U (18*(((Vk _ _ n1).B0.length:Nat):Int))+24)+U.wrap _,_,_,_,_,_,()),()))=_;rw[p,o];exact Awd ω h1 j
def Asy{fl a n1 n2:Nat}(hf:2<=fl/\fl<=6)(P:1<=a/\a<=3)(o:n1<256)(Q:n2<256):(FC fl a n1 n2).small/\(FC fl a n1 n2).code=0/\(FC fl a n1 n2).B0.length=a/\(FC fl a n1 n2).C0=(fl:Int)/\18*(a:Int)+24<=(FC fl a n1 n2).J0/\(FC fl a n1 n2).J0<=600:=by
 have hl:(FC fl a n1 n2).B0.length=a:=by simp[FC]
 have z:(FC fl a n1 n2).J0=((18*a+24+6*(n2/3):Nat):Int):=rfl;refine⟨⟨by show _<=(fl:Int);omega,by show(fl:Int)<=8;omega⟩,?_,hl,rfl,ω,ω⟩;unfold Bldg.code;have w:aI 2 32 (FC fl a n1 n2).C0=B:=Ah.2 (by show _<=(fl:Int)/\(fl:Int)<=32;omega);have v:aI 1 8 ((FC fl a n1 n2).B0.length:Int)=B:=Ah.2 ω;have p:aI 1 16 (FC fl a n1 n2).E0=B:=Ah.2 (by show _<=((1+n2%3:Nat):Int)/\((1+n2%3:Nat):Int)<=16;omega);have y:aI 1 10000 (FC fl a n1 n2).M0=B:=Ah.2 (by show _<=((1+n1%7:Nat):Int)/\((1+n1%7:Nat):Int)<=10000;omega);have N:(FC fl a n1 n2).B0.all (Cg (FC fl a n1 n2).C0)=B:=by rw[F_];intro c j;obtain⟨i,_,rfl⟩:=b3_.1 j;have hm:(i+n1)%fl<fl:=f9_ _ ω;show Cg fl _=B;unfold Cg g27 g18 g15 Oq;simp only[U_,List.all_nil,f8_,a_,Ah,t_];rw[Aa ω ω];refine⟨⟨?_,?_,?_,?_,?_,?_,?_⟩,?_,?_,?_⟩<;>omega
 have u:(FC fl a n1 n2).loadsOK=B:=by kernel_rfl
 have q:aI (18*((FC fl a n1 n2).B0.length:Int)+24) 65536 (FC fl a n1 n2).J0=B:=Ah.2 (by rw[hl,z];omega);rw[w,v,p,y,N,u,q];rfl
def Cn{n:Nat}(h:n<1000000000):U.wrap ((n:Int)+1)=((n+1:Nat):Int):=by rw[Aa ω ω];omega
def Ayo(l:List Int):(EW l).size=l.length:=by simp[EW,ByteArray.size]
def Ayw(x y:Int):Int:=U.wrap<|stk x y<|aR<|(aK (IntKind.bits U) x)^^^(aK (IntKind.bits U) y)
def Ar4(_:Nat)(r:Int):Int:=bif decide (32768<=r)then Ayw (aO (H U<|r*2) 65536) 4129 else aO (H U<|r*2) 65536
def Awf(s:ByteArray)(i:Nat)(r:Int):Int:=Bd Ar4 8 0<|Ayw r<|H U<|H U (Cr s i)*256
def Aia(s:ByteArray):Int:=Bd (Awf s) s.size 0 65535
def An3(s:ByteArray):ByteArray:=EW [aM.wrap<|H aL<|aU (H aL<|Aia s) 256,aM.wrap<|aO (H aL<|Aia s) 256]
def Tf(s:ByteArray):ByteArray:=s++An3 s
def Tg(s:ByteArray):(Tf s).size=s.size+2:=by unfold Tf An3;rw[O_];rfl
def NJ(s:ByteArray):ByteArray×Int:=bif decide ((s.size:Int)<2)then(noB,4)else bif eqB (Tf<|s.extract 0<|s.size-2) s then(s.extract 0<|s.size-2,0)else(noB,5)
def CL(n:Int)(k:Nat):List Int:=(aV k).map λi=>aM.wrap<|aQ n<|(2:Int)^(aJ (8*i)<|IntKind.bits .u64)
def nmB(n:Int)(k:Nat):ByteArray:=EW<|CL n k
def DB(n:Int)(k:Nat):(nmB n k).size=k:=by unfold nmB;rw[Ayo];simp[CL]
def ZN(c:Int×Int):ByteArray:=nmB (H aB c.1) 4++nmB (H aB c.2) 4
def As0(c:Int×Int):(ZN c).size=8:=by unfold ZN;rw[O_,DB,DB]
def Bpo(x y:Int):Int:=aB.wrap<|stk x y<|aR ((aK (IntKind.bits aB) x)|||(aK (IntKind.bits aB) y))
def Qk(l:List Bool)(i:Nat)(n:Int):Int:=bif l.getD i J then Bpo n (H aB<|1*2^min i (IntKind.bits .u64))else n
def Af2(l:List Bool):ByteArray:=nmB (Bd (Qk l) l.length 0 0) 1
def XA(l:List Bool):(Af2 l).size=1:=DB _ _
structure Inp where
 press:Int×Int
 kind:Int
 car:Int
 cars:List CarInput
def Inp.tup(x:Inp):Int×Int×Int×Int×List aP×Unit:=(x.press.1,x.press.2,x.kind,x.car,x.cars,())
def Inp.none:Inp:=⟨(0,0),0,0,[]⟩
def UA:aP:=CarInput.mk 0 J J J J 0 J 0 J 0 0
def flV(b:O)(n:Int):Bool:=aQ (H aB n) ((2:Int)^b.C0.toNat)==0
def WQ(b:O)(c:aP):Bool:=flV b c.C1&&(flV b c.I2&&(aI 0 (b.C0-1) c.H2&&aI 0 2 c.Y1))
def MM(b:O)(c:Int×Int):Bool:=isZ<|Dt c<|Di b
def Yk(b:O)(x:Inp):Bool:=MM b x.press&&(aI 0 8 x.kind&&(aI 0 ((b.B0.length:Int)-1) x.car&&(!(x.kind==0&&x.car !=0)&&((x.cars.length:Int)==(b.B0.length:Int)&&x.cars.all (WQ b)))))
def Sc(s:ByteArray)(c:aP):ByteArray:=s++nmB (H aB c.C1) 4++Af2 [c.X2,c.D2,c.E2,c.R1,c.T2,c.C3]++nmB (H aB c.H2) 1++nmB (H aB c.Y1) 1++nmB (H aB c.I2) 4++nmB ((c.C4:Nat):Int) 8
def Bap(s:ByteArray)(c:aP):(Sc s c).size=s.size+19:=by unfold Sc;simp only[O_,DB,XA]
def Vu(b:O)(x:Inp):ByteArray:=nmB 165 1++nmB (H aB (b.B0.length:Int)) 1++ZN x.press++nmB (H aB x.kind) 1++nmB (H aB x.car) 1
def Agx(b:O)(x:Inp):(Vu b x).size=12:=by unfold Vu;simp only[O_,DB,As0]
def inV(b:O)(x:Inp):ByteArray:=Tf<|x.cars.foldl Sc<|Vu b x
def Agp(l:List aP)(s:ByteArray):(l.foldl Sc s).size=s.size+19*l.length:=by
 induction l generalizing s with
 |nil=>simp
 |cons c t a=>rw[List.foldl_cons,a,Bap,s_];omega
def Yh(b:O)(x:Inp):(inV b x).size=14+19*x.cars.length:=by unfold inV;rw[Tg,Agp,Agx];omega
def Bi9{a c:Nat}(j:a<65536)(o:c<65536):aL.wrap (stk (a:Int) (c:Int)<|aR<|(aK (IntKind.bits .u16) (a:Int))^^^(aK (IntKind.bits .u16) (c:Int)))=((a^^^c:Nat):Int):=by have h:=e5_ (n:=16) j o;rw[Lc,BitVec.toNat_xor,a9_,a9_];rw[show((a)%((2^IntKind.bits .u16:Nat):Int)).toNat=a by simp only[IntKind.bits];omega,show((c)%((2^IntKind.bits .u16:Nat):Int)).toNat=c by simp only[IntKind.bits];omega];simp only[H,IntKind.signed,IntKind.bits];simp;omega
def Asq{a c:Nat}(j:a<65536)(o:c<65536):Ayw (a:Int) (c:Int)=((a^^^c:Nat):Int):=by have h:=e5_ (n:=16) j o;unfold Ayw;rw[Lc,BitVec.toNat_xor,a9_,a9_];rw[show((a)%((2^IntKind.bits .i64:Nat):Int)).toNat=a by simp only[IntKind.bits];omega,show((c)%((2^IntKind.bits .i64:Nat):Int)).toNat=c by simp only[IntKind.bits];omega];exact Aa ω ω
def Qx(n:Nat):aL.wrap (n:Int)=((n%65536:Nat):Int):=by simp only[H,IntKind.signed,IntKind.bits];simp
def n16(_:Nat)(r:Nat):Nat:=if 32768<=r then(2*r%65536)^^^4129 else 2*r%65536
def Bb8{r:Nat}:n16 i r<65536:=by
 unfold n16;split
 .exact e5_ (n:=16) (f9_ _ τ) τ
 .exact f9_ _ τ
def Bg2{r:Nat}(h:r<65536):Ar4 i (r:Int)=((n16 i r:Nat):Int):=by
 have w:aO (H U<|r*2) 65536=((2*r%65536:Nat):Int):=by rw[Aa ω ω,Int.tmod_eq_emod_of_nonneg ω];omega
 unfold Ar4 n16;rw[w];by_cases g:32768<=r
 .rw[Z ω,if_pos g];exact Asq (f9_ _ τ) τ
 .rw[d_ ω,g_,if_neg g]
def Bs3{r:Nat}(h:r<65536):(H aL<|stk (H aL<|(r:Int)*((2:Int)^(aJ (aF (1:Int))<|IntKind.bits aL))) (H aL<|(aQ (r:Int)<|(2:Int)^(aJ (aF (15:Int))<|IntKind.bits aL))*(4129:Int))<|aR<|(aK (IntKind.bits aL)<|H aL<|(r:Int)*((2:Int)^(aJ (aF (1:Int))<|IntKind.bits aL)))^^^(aK (IntKind.bits aL)<|H aL<|(aQ (r:Int)<|(2:Int)^(aJ (aF (15:Int))<|IntKind.bits aL))*(4129:Int)))=((n16 i r:Nat):Int):=by
 have a:aL.wrap (r*(2^(aJ (aF 1)<|IntKind.bits aL)))=((2*r%65536:Nat):Int):=by rw[show((2:Int)^(aJ _ _))=2 from rfl,show _*2=((2*r:Nat):Int)by omega];exact Qx _
 have d:aQ r (2^(aJ (aF 15)<|IntKind.bits aL))=((r/32768:Nat):Int):=by rw[show((2:Int)^(aJ _ _))=32768 from rfl,R_ _ ω];omega
 have j:aL.wrap ((aQ r<|2^(aJ (aF 15)<|IntKind.bits aL))*4129)=((r/32768*4129:Nat):Int):=by
  rw[d,show _*4129=((r/32768*4129:Nat):Int)by omega,Qx]
  have:r/32768*4129<65536:=ω
  rw[g1_ this]
 rw[a,j,Bi9 (f9_ _ τ) ω];unfold n16;by_cases g:32768<=r
 .rw[if_pos g,show r/32768*4129=4129 by omega]
 .rw[if_neg g,show r/32768*4129=0 by omega,Nat.xor_zero]
def Ago:∀(k i r:Nat),r<65536->Bd Ar4 k i (r:Int)=((Bd n16 k i r:Nat):Int)/\Bd n16 k i r<65536
 |0,_,_,h=>⟨rfl,h⟩
 |k+1,i,r,h=>by show Bd Ar4 k (i+1) _=_/\_;rw[Bg2 h];exact Ago k (i+1) _ Bb8
def Bcg(s:ByteArray){r:Nat}(j:r<65536)(a c:Int):NA ((s,(r:Int),a,c,(0:Int),()),())=R ((s,((Bd n16 8 0 r:Nat):Int),a,c,()),()):=by
 have h:=BN (S:=Nat) (step:=λx=>ID x.1.1 x.1.2.1 x.1.2.2.1 x.1.2.2.2.1 x.1.2.2.2.2.1) 8 (λk r=>((s,r,a,c,k,()),())) n16 (λ_ r=>r<65536) _
  (λk r o j=>by refine⟨?_,Bb8⟩;show ID s (r:Int) a c (k:Int)=_;unfold ID;simp only[Z (ω:(k:Int)<8),h_,Cn (ω:k<1000000000)];rw[Bs3 j])
  (λr _=>by show ID s _ a c 8=_;unfold ID;rfl) 8 0 r ω j
 exact Aj h.1 ω
def byN(s:ByteArray)(i:Nat):Nat:=((bl s).getD i 0).toNat
def Rw(s:ByteArray)(i:Nat):byN s i<256:=UInt8.toNat_lt _
def b16(s:ByteArray)(i:Nat)(r:Nat):Nat:=Bd n16 8 0<|r^^^(byN s i*256)
def s16(s:ByteArray):Nat:=Bd (b16 s) s.size 0 65535
def An9{r:Nat}(a:r<65536):r^^^(byN s i*256)<65536:=e5_ (n:=16) a (by have:=Rw s i;omega)
def App(o:s.size<=1000000):VT s=R ((((s16 s:Nat):Int),()),())/\s16 s<65536:=by
 have h:=BN (S:=Nat) (step:=λx=>IC x.1.1 x.1.2.1 x.1.2.2.1 x.1.2.2.2.1) s.size (λi r=>((s,r,s.size,i,()),())) (b16 s) (λ_ r=>r<65536) _
  (λi r hi a=>by
   refine⟨?_,(Ago 8 0 _<|An9 a).2⟩;show IC s (r:Int) (s.size:Int) (i:Int)=_;unfold IC;have hb:=Rw s i;have z:aL.wrap ((H aL<|Cr s i)*(2^(aJ (aF 8)<|IntKind.bits aL)))=((byN s i*256:Nat):Int):=by rw[LZ];show aL.wrap (H aL ((byN s i:Nat):Int)*256)=_;rw[Qx,g1_ ω,show _*256=((byN s i*256:Nat):Int)by omega,Qx,g1_ ω]
   simp only[Z (ω:i<(s.size:Int)),Ac ω (ω:(i:Int)<s.size),h_,l_];rw[z,Bi9 a ω];refine Ae (Bcg s (An9 a) _ _) ?_;rw[Cn ω];rfl)
  (λr _=>by show IC s (r:Int) (s.size:Int) (s.size:Int)=_;unfold IC;rw[d_<|a0_ _];rfl) s.size 0 65535 ω τ
 have j:=Aj h.1 ω;exact⟨Ae j rfl,h.2⟩
def Bid:∀(s:ByteArray) (k i r:Nat),r<65536->Bd (Awf s) k i (r:Int)=((Bd (b16 s) k i r:Nat):Int)
 |_,0,_,_,_=>rfl
 |s,k+1,i,r,h=>by
  have hb:=Rw s i;have e:Awf s i r=((b16 s i r:Nat):Int):=by
   unfold Awf b16;have z:U.wrap (H U (Cr s i)*256)=((byN s i*256:Nat):Int):=by rw[LZ];show U.wrap (H U ((byN s i:Nat):Int)*256)=_;rw[Aa (n:=((byN s i:Nat):Int)) ω ω,Aa ω ω];omega
   rw[z,Asq h ω];exact(Ago 8 0 _<|An9 h).1
  show Bd _ k (i+1) _=((Bd (b16 s) k (i+1) _:Nat):Int);rw[e];exact Bid s k (i+1) _ (Ago 8 0 _<|An9 h).2
def Bc5(s:ByteArray):Aia s=((s16 s:Nat):Int):=Bid s s.size 0 65535 τ
def YT(n:Nat):aM.wrap (n:Int)=((n%256:Nat):Int):=by simp only[H,IntKind.signed,IntKind.bits];simp
def Bcx(s:ByteArray)(h:s16 s<65536):An3 s=EW [aM.wrap<|aQ ((s16 s:Nat):Int)<|(2:Int)^(aJ (aF (8:Int))<|IntKind.bits aL),aM.wrap ((s16 s:Nat):Int)]:=by
 have w:aL.wrap (Aia s)=((s16 s:Nat):Int):=by rw[Bc5,Qx,g1_ h]
 have j:aU ((s16 s:Nat):Int) 256=((s16 s/256:Nat):Int):=by rw[Int.tdiv_eq_ediv_of_nonneg ω];omega
 have o:aQ ((s16 s:Nat):Int) (2^(aJ (aF 8)<|IntKind.bits aL))=((s16 s/256:Nat):Int):=by rw[show((2:Int)^(aJ _ _))=256 from rfl,R_ _ ω];omega
 have a:aO ((s16 s:Nat):Int) 256=((s16 s%256:Nat):Int):=by rw[Int.tmod_eq_emod_of_nonneg ω];omega
 unfold An3;rw[w,j,o,a,Qx,YT,YT,YT,YT];congr 3
 .omega
 .congr 1;omega
def Ac6(a:s.size<=1000000):Sw s=R ((Tf s,()),()):=by
 obtain⟨h1,j⟩:=App a;refine Ae h1 ?_
 have:=Tg s
 unfold Tf at this;rw[O_]at this;show(bif Nat.ble _ 4611686018427387904 then R _ else none)=_;rw[<-Bcx s j,Am ω];rfl
def Atf(a:s.size<=1000000):Su s=R (((NJ s).1,(NJ s).2,()),()):=by
 unfold Su NJ;by_cases h:(s.size:Int)<2
 .have w:U.wrap _=s.size-2:=Aa ω ω;simp only[w];rw[Z h,Z ω];rfl
 .rw[d_ h];have w:U.wrap (s.size-2)=((s.size-2:Nat):Int):=by rw[Aa ω ω];omega
  simp only[w,l_];rw[d_ ω,Z ω,Z ω,c7_,h_];refine Ae (Ac6 (by rw[Aed s ω];omega)) ?_;cases eqB _ s<;>rfl
def Aiz(n:Int)(k:Nat):Bool:=aM.wrap (stk (aQ n<|(2:Int)^min k (IntKind.bits .u8)) 1<|aR<|(aK (IntKind.bits aM)<|aQ n<|(2:Int)^min k (IntKind.bits .u8))&&&(aK (IntKind.bits aM) 1))==1
def Br8(a b c d e f:Bool):(0<=Bd (Qk [a,b,c,d,e,f]) 6 0 0/\Bd (Qk [a,b,c,d,e,f]) 6 0 0<64)/\Aiz (Bd (Qk [a,b,c,d,e,f]) 6 0 0) 0=a/\Aiz (Bd (Qk [a,b,c,d,e,f]) 6 0 0) 1=b/\Aiz (Bd (Qk [a,b,c,d,e,f]) 6 0 0) 2=c/\Aiz (Bd (Qk [a,b,c,d,e,f]) 6 0 0) 3=d/\Aiz (Bd (Qk [a,b,c,d,e,f]) 6 0 0) 4=e/\Aiz (Bd (Qk [a,b,c,d,e,f]) 6 0 0) 5=f:=by cases a<;>cases b<;>cases c<;>cases d<;>cases e<;>cases f<;>decide+kernel
def Ek(b:O)(s:ByteArray):Int:=bif(s.size:Int) !=14+19*(b.B0.length:Int)then 4 else bif U.wrap (Cr s 0) !=165 then 30 else bif U.wrap (Cr s 1) !=(b.B0.length:Int)then 30 else(NJ s).2
def Axs(h:Ek b s=0):s.size=14+19*b.B0.length:=by
 unfold Ek at h;cases hq:(s.size !=14+19*(b.B0.length:Int))with
 |true=>rw[hq]at h;cases h
 |false=>
  have:s.size=14+19*(b.B0.length:Int):=by simpa using hq
  omega
def Bgg(h:(NJ s).2=0):2<=s.size/\(NJ s).1=s.extract 0 (s.size-2):=by
 unfold NJ at h|-;cases q:decide ((s.size:Int)<2)with
 |true=>rw[q]at h;cases h
 |false=>
  rw[q]at h;have q:=w_ q;refine⟨ω,?_⟩;cases a:eqB _ s with
  |true=>rfl
  |false=>rw[a]at h;cases h
def Aab(hcode:b.code=0)(s:ByteArray)(p:s.size<=1000000):W (OA b.C0 b.E0 b.J0 b.M0 b.K0 b.N0 b.O0 b.B0 s (14+19*(b.B0.length:Int)) 165) λy=>match y with
  |.inl z=>z.1.2.1=Ek b s/\Ek b s≠0
  |.inr z=>Ek b s=0/\z.1.2.1=0/\z.2.1=((s.extract 0<|s.size-2).extract 2<|s.size-2,b.C0,b.E0,b.J0,b.M0,b.K0,b.N0,b.O0,b.B0,()):=by
 unfold OA Ek;refine aN (Ap b)<|bA (by rw[hcode];rfl) ?_;refine C (λq=>A ?_) λq=>?_
 .rw[q];exact⟨rfl,show 4≠0 by decide⟩
 rw[q];have v:s.size=14+19*(b.B0.length:Int):=by simpa using q
 have w:∀i,U.wrap (Cr s i)=Cr s i:=λi=>by
  rw[LZ]
  have:=Rw s i
  unfold byN at this;exact Aa ω ω
 rw[w 0];refine aE (Ac ω ω) (C (λq=>A ?_) λq=>aE (Ac ω ω) (C (λj=>A ?_) λj=>?_))
 .rw[show(Cr s 0 !=165)=B from q];exact⟨rfl,show 30≠0 by decide⟩
 .rw[show(Cr s 0 !=165)=J from q,show(H U (Cr s 1) !=b.B0.length)=B from j];exact⟨rfl,show 30≠0 by decide⟩
 rw[show(Cr s 0 !=165)=J from q,show(H U (Cr s 1) !=b.B0.length)=J from j];refine aN (Atf p) (C (λa=>A ⟨rfl,?_⟩) λa=>?_)
 .simpa using a
 have a:(NJ s).2=0:=by simpa using a
 obtain⟨N,o⟩:=Bgg a;have u:(NJ s).1.size=s.size-2:=by rw[o,Aed s ω]
 refine aE (Z (ω:_<=(((NJ s).1.size:Nat):Int)))<|A ⟨a,rfl,?_⟩;rw[u,o]
def Bgj{n:Nat}(h:n<18446744073709551616):orL 0 (n:Int)=(n:Int):=by unfold orL;rw[Lc,BitVec.toNat_or,a9_,a9_];rw[show(0%((2^IntKind.bits .u64:Nat):Int)).toNat=0 from rfl,Nat.zero_or,show((n:Int)%((2^IntKind.bits .u64:Nat):Int)).toNat=n by simp only[IntKind.bits];omega];exact Ih ω ω
def Bkb(s:ByteArray):leV s 1=((byN s 0:Nat):Int):=by have hb:=Rw s 0;show orL 0 (H aB<|H aB _*1)=_;rw[LZ,Int.mul_one];show orL 0 (H aB<|H aB ((byN s 0:Nat):Int))=_;rw[Ih (n:=((byN s 0:Nat):Int)) ω ω,Ih ω ω];exact Bgj ω
def Je(b:O)(j:1<=s.size){a:Int}(h:((byN s 0:Nat):Int)<=a):BC a s b.C0 b.E0 b.J0 b.M0 b.K0 b.N0 b.O0 b.B0=R ((((byN s 0:Nat):Int),()),((s.extract 1 s.size,b.C0,b.E0,b.J0,b.M0,b.K0,b.N0,b.O0,b.B0,()),())):=by have hb:=Rw s 0;refine Ae (Mh b τ j) ?_;simp only[Bkb];rw[Aa ω ω,Z h];rfl
def Zb(hb:b.small)(j:4<=s.size)(h:C2 b.C0<|H aD<|leV s 4):EB s b.C0 b.E0 b.J0 b.M0 b.K0 b.N0 b.O0 b.B0=R ((H aD<|leV s 4,()),((s.extract 4 s.size,b.C0,b.E0,b.J0,b.M0,b.K0,b.N0,b.O0,b.B0,()),())):=by have lo:=hb.lo;have hi:=hb.hi;have a:aJ _ (IntKind.bits aD)=aF b.C0:=d5_ (by show _<=32;omega);refine Ae (Mh b τ j) ?_;rw[Z (ω:(0:Int)<=b.C0),h_];rw[a,QZ.2 h];rfl
section
variable{b:O}(hb:b.small)(hcode:b.code=0)
include hb hcode
theorem Uq{u:Int}(h1:vb (bv u&&& ~~~ bv (Di b).1)=0)(a:vb (bv d&&& ~~~ bv (Di b).2)=0):Ls b.C0 b.E0 b.J0 b.M0 b.K0 b.N0 b.O0 b.B0 u d=R ((B,()),()):=by refine Ae (EM hb hcode) ?_;simp only[YQ,h1,a];rfl
theorem Ajj(j:8<=s.size)(h1:vb (bv (H aD<|leV s 4)&&& ~~~ bv (Di b).1)=0)(a:vb (bv (H aD<|leV (s.extract 4 s.size) 4)&&& ~~~ bv (Di b).2)=0):GE s b.C0 b.E0 b.J0 b.M0 b.K0 b.N0 b.O0 b.B0=R (((),()),((H aD<|leV s 4,aD.wrap<|leV (s.extract 4 s.size) 4,()),((s.extract 4 s.size).extract 4 (s.extract 4 s.size).size,b.C0,b.E0,b.J0,b.M0,b.K0,b.N0,b.O0,b.B0,()),())):=by
 have e:(s.extract 4 s.size).size=s.size-4:=by rw[ByteArray.size_extract];omega
 refine Ae (Mh b (k:=4) τ ω) ?_;refine Ae (Mh b (k:=4) τ (by rw[e];omega)) ?_;exact Ae (Uq hb hcode h1 a) rfl
end
def Bob(n:Int)(i:Nat):Bool:=U.wrap (stk (aQ n<|(2:Int)^(aJ i<|IntKind.bits U)) (1:Int)<|aR<|(aK (IntKind.bits U)<|aQ n<|(2:Int)^(aJ i<|IntKind.bits U))&&&(aK (IntKind.bits U) (1:Int)))==(1:Int)
def flL(n:Int):List Bool:=(aV 6).map<|Bob n
def Ajk(b:O)(j:1<=s.size)(h:byN s 0<=63):GF 6 s b.C0 b.E0 b.J0 b.M0 b.K0 b.N0 b.O0 b.B0=R ((flL ((byN s 0:Nat):Int),()),((s.extract 1 s.size,b.C0,b.E0,b.J0,b.M0,b.K0,b.N0,b.O0,b.B0,()),())):=by
 have h1:=BN (step:=λx=>letI a:=x.2.1.2.2.2;letI c:=a.2.2;BV x.1.1 x.1.2.1 x.1.2.2.1 x.1.2.2.2.1 x.2.1.1 x.2.1.2.1 x.2.1.2.2.1 a.1 a.2.1 c.1 c.2.1 c.2.2.1 c.2.2.2.1) 6 (λi l=>((((byN s 0:Nat):Int),l,6,i,()),((s.extract 1 s.size,b.C0,b.E0,b.J0,b.M0,b.K0,b.N0,b.O0,b.B0,()),()))) (PC J (λi _=>Bob _ i)) (λ_ l=>l.length=6) _
  (λi l hi hl=>by refine⟨?_,by rw[PC,z_,hl]⟩;show BV ((byN s 0:Nat):Int) l 6 (i:Int) (s.extract 1 s.size) b.C0 b.E0 b.J0 b.M0 b.K0 b.N0 b.O0 b.B0=_;unfold BV;simp only[Z (ω:(i:Int)<6),Ac ω (ω:(i:Int)<l.length),Cn (ω:i<1000000000)];rfl)
  (λl _=>by show BV _ l 6 6 _ b.C0 b.E0 b.J0 b.M0 b.K0 b.N0 b.O0 b.B0=_;unfold BV;rfl) 6 0 ((aV 6).map λ_=>J) rfl rfl
 have o:=Aj h1.1 ω;exact Ae (Je b j (by show _<=63;omega))<|Ae o rfl
def Za(hcode:b.code=0):Tw b.C0 b.E0 b.J0 b.M0 b.K0 b.N0 b.O0 b.B0=R ((14+19*(b.B0.length:Int),23+19*(b.B0.length:Int),()),()):=by have a:=Ag hcode;refine Ae (Ap b) ?_;rw[hcode,show((0:Int) !=0)=J from rfl,g_];rw[Aa (n:=19*b.B0.length) ω ω,Aa ω ω,Aa ω ω]
def Uo(hcode:b.code=0)(j:s.size<=1000000)(h:Ek b s≠0):Hz b.C0 b.E0 b.J0 b.M0 b.K0 b.N0 b.O0 b.B0 s=R (((),Ek b s,()),(Inp.none.tup,())):=by
 obtain⟨y,h1,a⟩:=Aab hcode s j;refine Ae (Za hcode)<|Ae h1 ?_;cases y with
 |inl z=>
  show(bif z.1.2.1 !=0 then R (((),z.1.2.1,()),(Inp.none.tup,()))else none)=_;have o:(Ek b s !=0)=B:=by simpa using h
  rw[a.1,o,h_]
 |inr z=>exact absurd a.1 h
def tl(k:Nat)(s:ByteArray):ByteArray:=s.extract k s.size
def DL(k:Nat)(s:ByteArray):(tl k s).size=s.size-k:=by unfold tl;rw[ByteArray.size_extract];omega
structure Ck(b:Bldg)(s:ByteArray):Prop where
 size:19<=s.size
 c1:C2 b.C0 (IntKind.u32.wrap (leV s 4))
 fg:byN (tl 4 s) 0<=63
 fl:((byN (tl 1 (tl 4 s)) 0:Nat):Int)<=b.C0-1
 dr:((byN (tl 1 (tl 1 (tl 4 s))) 0:Nat):Int)<=2
 c2:C2 b.C0 (IntKind.u32.wrap (leV (tl 1 (tl 1 (tl 1 (tl 4 s)))) 4))
def rest(s:ByteArray):ByteArray:=tl 8<|tl 4<|tl 1<|tl 1<|tl 1<|tl 4 s
def Awm(s:ByteArray):aP:=CarInput.mk (H aD<|leV s 4) ((flL ((byN (tl 4 s) 0:Nat):Int)).getD (aF (0:Int)) J) ((flL ((byN (tl 4 s) 0:Nat):Int)).getD (aF (1:Int)) J) ((flL ((byN (tl 4 s) 0:Nat):Int)).getD (aF (2:Int)) J) ((flL ((byN (tl 4 s) 0:Nat):Int)).getD (aF (3:Int)) J) ((byN (tl 1<|tl 4 s) 0:Nat):Int) ((flL ((byN (tl 4 s) 0:Nat):Int)).getD (aF (4:Int)) J) ((byN (tl 1<|tl 1<|tl 4 s) 0:Nat):Int) ((flL ((byN (tl 4 s) 0:Nat):Int)).getD (aF (5:Int)) J) (H aD<|leV (tl 1<|tl 1<|tl 1<|tl 4 s) 4)<|aF<|leV (tl 4<|tl 1<|tl 1<|tl 1<|tl 4 s) 8
def Ajo(hb:b.small)(h:Ck b s){N:Nat}(hi:i<N)(q:N<=8)(u d k c:Int){cs:List aP}(o:cs.length<=1000)(e:Int):BM (N:Int) (i:Int) u d k c cs e s b.C0 b.E0 b.J0 b.M0 b.K0 b.N0 b.O0 b.B0=R (.inl (((),(),(),(N:Int),((i+1:Nat):Int),()),((u,d,k,c,cs++[Awm s],()),(e,()),(rest s,b.C0,b.E0,b.J0,b.M0,b.K0,b.N0,b.O0,b.B0,()),()))):=by have lo:=hb.lo;have a:=hb.hi;have p:=h.size;unfold BM;rw[Z ω];refine Ae (Zb hb ω h.c1) ?_;refine Ae (Ajk b (s:=tl 4 s) (by rw[DL];omega) h.fg) ?_;have hin:∀j:Nat,j<6->inB j (flL ((byN (tl 4 s) 0:Nat):Int)).length=B:=λj v=>Ac ω (by rw[show(flL _).length=6 by simp[flL]];omega);refine ZH (hin 0 τ)<|ZH (hin 1 τ)<|ZH (hin 2 τ)<|ZH (hin 3 τ)<|ZH (hin 4 τ)<|ZH (hin 5 τ) ?_;refine Ae (Je b (s:=tl 1 _) (by rw[DL,DL];omega) (by show _<=U.wrap (b.C0-1);rw[Aa ω ω];exact h.fl)) ?_;refine Ae (Je b (s:=tl 1 _) (by rw[DL,DL,DL];omega) h.dr) ?_;refine Ae (Zb hb (s:=tl 1 _) (by rw[DL,DL,DL,DL];omega) h.c2) ?_;refine Ae (Mh b (k:=8) (s:=tl 4 _) τ (by rw[DL,DL,DL,DL,DL];omega)) ?_;refine ZH (Am (by simp only[s_,c6_];omega)) ?_;unfold Awm rest tl;rw[Cn ω]
def Te:Nat->ByteArray->ByteArray
 |0,s=>s
 |n+1,s=>Te n<|rest s
def Vm:Nat->ByteArray->List aP
 |0,_=>[]
 |n+1,s=>Awm s::Vm n (rest s)
def Aky:∀(n:Nat) (s:ByteArray),(Vm n s).length=n
 |0,_=>rfl
 |n+1,s=>by show(Vm n _).length+1=_;rw[Aky n]
def Adc{b:O}(hb:b.small){N:Nat}(p:N<=8)(u d k c e:Int):∀(m i:Nat) (s:ByteArray) (cs:List aP),i+m=N->cs.length=i->(∀j,j<m->Ck b (Te j s))->iter (λx=>letI a:=x.2.2.2.1.2.2;letI f:=a.2.2;letI g:=x.2.1.2;BM x.1.2.2.2.1 x.1.2.2.2.2.1 x.2.1.1 g.1 g.2.1 g.2.2.1 g.2.2.2.1 x.2.2.1.1 x.2.2.2.1.1 x.2.2.2.1.2.1 a.1 a.2.1 f.1 f.2.1 f.2.2.1 f.2.2.2.1 f.2.2.2.2.1) (m+1) (((),(),(),(N:Int),(i:Int),()),((u,d,k,c,cs,()),(e,()),(s,b.C0,b.E0,b.J0,b.M0,b.K0,b.N0,b.O0,b.B0,()),()))=R (((),(),()),((u,d,k,c,cs++Vm m s,()),(e,()),(Te m s,b.C0,b.E0,b.J0,b.M0,b.K0,b.N0,b.O0,b.B0,()),()))
 |0,i,s,cs,hm,_,_=>by refine Ax ?_;show BM (N:Int) (i:Int) u d k c cs e s b.C0 b.E0 b.J0 b.M0 b.K0 b.N0 b.O0 b.B0=_;unfold BM;rw[d_ (ω:¬(i:Int)<(N:Int)),g_,show cs++Vm 0 s=cs from T_ cs];rfl
 |m+1,i,s,cs,hm,hl,h=>by have h1:=Ajo hb (h 0 ω) (i:=i) ω p u d k c (cs:=cs) ω e;have o:=Adc hb p u d k c e m (i+1) _ (cs++[Awm s]) ω (by rw[e_,D_,hl]) λj q=>h (j+1) ω;rw[G_]at o;exact(Aq h1).trans o
def Ajn(hb:b.small){N:Nat}(a:N<=8)(h:∀j,j<N->Ck b (Te j s))(u d k c e:Int):DG (((),(),(),(N:Int),0,()),((u,d,k,c,[],()),(e,()),(s,b.C0,b.E0,b.J0,b.M0,b.K0,b.N0,b.O0,b.B0,()),()))=R (((),(),()),((u,d,k,c,Vm N s,()),(e,()),(Te N s,b.C0,b.E0,b.J0,b.M0,b.K0,b.N0,b.O0,b.B0,()),())):=Aj (Adc hb a u d k c e N 0 s [] (m_ _) rfl h) ω
structure Hd(b:Bldg)(s:ByteArray):Prop where
 size:10<=s.size
 u:vb (bv (IntKind.u32.wrap (leV s 4))&&& ~~~ bv (Di b).1)=0
 d:vb (bv (IntKind.u32.wrap (leV (tl 4 s) 4))&&& ~~~ bv (Di b).2)=0
 kind:((byN (tl 4 (tl 4 s)) 0:Nat):Int)<=8
 car:((byN (tl 1 (tl 4 (tl 4 s))) 0:Nat):Int)<=(b.B0.length:Int)-1
 none:byN (tl 4 (tl 4 s)) 0=0->byN (tl 1 (tl 4 (tl 4 s))) 0=0
 cars:∀j,j<b.B0.length->Ck b (Te j (tl 1 (tl 1 (tl 4 (tl 4 s)))))
def hdP(n:Nat)(s:ByteArray):Inp:=⟨(H aD<|leV s 4,aD.wrap<|leV (tl 4 s) 4),((byN (tl 4<|tl 4 s) 0:Nat):Int),((byN (tl 1<|tl 4<|tl 4 s) 0:Nat):Int),Vm n<|tl 1<|tl 1<|tl 4<|tl 4 s⟩
def Agt(hb:b.small)(hcode:b.code=0)(h:Hd b s):∃z,Gi s b.C0 b.E0 b.J0 b.M0 b.K0 b.N0 b.O0 b.B0=R (((),(),()),((hdP b.B0.length s).tup,((0:Int),()),z)):=by
 have j:=Ag hcode;have o:=h.size;refine⟨((Te b.B0.length<|tl 1<|tl 1<|tl 4<|tl 4 s,b.C0,b.E0,b.J0,b.M0,b.K0,b.N0,b.O0,b.B0,()),()),?_⟩;refine Ae (Ajj hb hcode ω h.u h.d) ?_;refine Ae (Je b (s:=tl 4<|tl 4 s) (by rw[DL,DL];omega) h.kind) ?_;refine Ae (Je b (s:=tl 1 _) (by rw[DL,DL,DL];omega) (by show _<=U.wrap (b.B0.length-1);rw[Aa ω ω];exact h.car)) ?_;refine Ae (a:=(((),(),(),()),((H aD _,aD.wrap _,((byN _ 0:Nat):Int),((byN _ 0:Nat):Int),([]:List aP),()),(0,()),(tl 1 _,b.C0,b.E0,b.J0,b.M0,b.K0,b.N0,b.O0,b.B0,()),()))) ?_<|Ae (Ajn hb j.2 h.cars _ _ _ _ 0) rfl;cases q:(((byN _ 0:Nat):Int) !=0)with
 |true=>rfl
 |false=>
  have q:((byN (tl 4<|tl 4 s) 0:Nat):Int)=0:=by simpa using q
  rw[h.none ω];rfl
def Acr(hb:b.small)(hcode:b.code=0)(j:s.size<=1000000)(h:Ek b s=0)(o:Hd b<|(s.extract 0<|s.size-2).extract 2<|s.size-2):Hz b.C0 b.E0 b.J0 b.M0 b.K0 b.N0 b.O0 b.B0 s=R (((),(0:Int),()),((hdP b.B0.length<|(s.extract 0<|s.size-2).extract 2<|s.size-2).tup,())):=by
 obtain⟨y,h1,a⟩:=Aab hcode s j;obtain⟨z,p⟩:=Agt hb hcode o;refine Ae (Za hcode)<|Ae h1 ?_;cases y with
 |inl z=>exact absurd h a.2
 |inr w=>obtain⟨_,q,u⟩:=a;show(bif w.1.2.1 !=0 then _ else _)=_;rw[q];rw[u];exact Ae p rfl
def Bkk{a c:Nat}(o:a<2^i)(q:c<256)(hi:i+8<=64):orL (a:Int) (H aB<|H aB (c:Int)*((2^i:Nat):Int))=((a+c*2^i:Nat):Int):=by
 have h1:c*2^i<2^(i+8):=by rw[Nat.pow_add,e9_];exact Nat.mul_lt_mul_of_pos_left q<|Nat.two_pow_pos i
 have v:2^(i+8)<=2^64:=Nat.pow_le_pow_right τ hi;have w:2^i<=2^64:=Nat.pow_le_pow_right τ ω;have u:=Nat.or_lt_two_pow (n:=64) (x:=a) (y:=c*2^i) ω ω;have j:a|||c*2^i=a+c*2^i:=by rw[Nat.or_comm,<-Nat.shiftLeft_eq,<-Nat.shiftLeft_add_eq_or_of_lt o,d1_]
 unfold orL;rw[Ih (n:=c) ω ω,show _*((2^i:Nat):Int)=((c*2^i:Nat):Int)by rw[Int.natCast_mul],<-j];generalize c*2^i=p at*;rw[Ih (n:=p) ω ω];rw[Lc,BitVec.toNat_or,a9_,a9_];rw[show(a%((2^IntKind.bits .u64:Nat):Int)).toNat=a by simp only[IntKind.bits];omega,show(p%((2^IntKind.bits .u64:Nat):Int)).toNat=p by simp only[IntKind.bits];omega];exact Ih ω ω
def leN(s:ByteArray):Nat->Nat
 |0=>0
 |i+1=>leN s i+byN s i*2^(8*i)
def Bbw(s:ByteArray):∀i,leN s i<2^(8*i)
 |0=>by show 0<1;decide
 |i+1=>by
  have h:=Bbw s i;have hb:=Rw s i;show leN s i+byN s i*2^(8*i)<2^(8*i+8);rw[Nat.pow_add]
  have:byN s i*2^(8*i)<=255*2^(8*i):=K_ _ ω
  omega
def Au3(s:ByteArray):∀i,i<=8->leV s i=((leN s i:Nat):Int)
 |0,_=>rfl
 |i+1,h=>by show orL _ _=_;rw[Au3 s i ω,LZ,show(2^(aJ _ _))=((2^(8*i):Nat):Int)by rw[show aJ _ _=8*i by show min _ 64=8*i;omega];norm_cast];exact Bkk (Bbw s i) (Rw s i) ω
def XB(l:List Int):bl (EW l)=l.map λn=>UInt8.ofNat n.toNat:=by simp[bl,EW]
def Bal{n:Nat}(hi:i<k)(j:k<=8)(r:ByteArray):byN (nmB (n:Int) k++r) i=n/2^(8*i)%256:=by
 have hl:(CL n k).length=k:=by simp[CL]
 have a:(CL n k)[i]?=R ((n/2^(8*i)%256:Nat):Int):=by unfold CL;rw[X_,List.getElem?_range hi];show R (H aM _)=_;rw[show aJ (8*i) _=8*i by show min (8*i) 64=8*i;omega,R_ _<|bC<|Int.pow_pos τ,show _^(8*i)=((2^(8*i):Nat):Int)by norm_cast];simp only[H,IntKind.signed,IntKind.bits];simp
 unfold byN nmB;rw[Ru,XB,k_,d2_ (by rw[a3_,hl];exact hi),X_,a];show n/2^(8*i)%256%256=_;omega
def Bbx{n k:Nat}(a:k<=8)(r:ByteArray):∀i,i<=k->leN (nmB (n:Int) k++r) i=n%2^(8*i)
 |0,_=>by show 0=n%1;omega
 |i+1,h=>by show leN _ i+byN _ i*2^(8*i)=n%2^(8*i+8);rw[Bbx a r i ω,Bal ω a,Nat.pow_add,Nat.mod_mul,e9_<|2^(8*i)]
def Bby(n:Int)(a:k<=8)(j:0<=n)(r:ByteArray):leV (nmB n k++r) k=((n.toNat%2^(8*k):Nat):Int):=by obtain⟨m,rfl⟩:=a6_ j;rw[Au3 _ _ a,Bbx a r k<|q_ k,l_]
def Mm{a:ByteArray}(h:a.size=k)(r:ByteArray):tl k (a++r)=r:=by subst h;unfold tl;apply Ub;rw[WK,Ru,List.drop_left'<|Gf a,O_,<-Gf r];exact a8_ ω
def Bfv(h:0<=n/\n<4294967296)(r:ByteArray):aD.wrap (leV (nmB n 4++r) 4)=n:=by rw[Bby n τ h.1,show n.toNat%2^(8*4)=n.toNat by omega];simp only[H,IntKind.signed,IntKind.bits];simp;omega
def WL(h:0<=n/\n<256)(r:ByteArray):((byN (nmB n 1++r) 0:Nat):Int)=n:=by obtain⟨m,rfl⟩:=a6_ h.1;rw[Bal τ τ];omega
def PI:List aP->ByteArray
 |[]=>noB
 |c::l=>nmB (H aB c.C1) 4++(Af2 [c.X2,c.D2,c.E2,c.R1,c.T2,c.C3]++(nmB (H aB c.H2) 1++(nmB (H aB c.Y1) 1++(nmB (H aB c.I2) 4++(nmB ((c.C4:Nat):Int) 8++PI l)))))
def Ame(c:aP)(l:List aP):PI (c::l)=nmB (H aB c.C1) 4++(Af2 [c.X2,c.D2,c.E2,c.R1,c.T2,c.C3]++(nmB (H aB c.H2) 1++(nmB (H aB c.Y1) 1++(nmB (H aB c.I2) 4++(nmB ((c.C4:Nat):Int) 8++PI l))))):=rfl
def Bjg(s:ByteArray):s++noB=s:=Ub (by rw[Ru,show bl noB=[]from rfl,T_])
def Agr:∀(l:List aP) (s:ByteArray),l.foldl Sc s=s++PI l
 |[],s=>(Bjg s).symm
 |c::l,s=>by rw[List.foldl_cons,Agr l,Ame];unfold Sc;simp only[ByteArray.append_assoc]
def Aag(x:Inp):ByteArray:=nmB (H aB x.press.1) 4++(nmB (H aB x.press.2) 4++(nmB (H aB x.kind) 1++(nmB (H aB x.car) 1++PI x.cars)))
def Auw(b:O)(x:Inp):((inV b x).extract 0<|(inV b x).size-2).extract 2 ((inV b x).size-2)=Aag x:=by
 have e:x.cars.foldl Sc (Vu b x)=(nmB 165 1++nmB (H aB b.B0.length) 1)++Aag x:=by rw[Agr];unfold Vu ZN Aag;simp only[ByteArray.append_assoc]
 have a:(nmB 165 1++nmB (H aB b.B0.length) 1).size=2:=by rw[O_,DB,DB]
 unfold inV;rw[Tg,Nat.add_sub_cancel];generalize x.cars.foldl Sc _=t at e;have j:(Tf t).extract 0 t.size=t:=by unfold Tf;apply Ub;rw[WK,Nat.sub_zero];exact d6_<|Gf t
 rw[j,e];exact Mm a _
def Jl(n:Int):0<=aB.wrap n/\aB.wrap n<18446744073709551616:=by simp only[H,IntKind.bits];simp;exact⟨Int.emod_nonneg _ τ,Int.emod_lt_of_pos _ τ⟩
def Bj1(a b c d e f:Bool)(r:ByteArray):byN (Af2 [a,b,c,d,e,f]++r) 0<=63:=by
 have h:∀n:Int,0<=n/\n<64->byN (nmB n 1++r) 0<=63:=λn h=>by
  have:=WL (n:=n) ω r
  omega
 refine h _ ?_;cases a<;>cases b<;>cases c<;>cases d<;>cases e<;>cases f<;>decide
section
variable{b:O}(hb:b.small)
include hb
theorem Asl:4<=2^b.C0.toNat/\2^b.C0.toNat<=(256:Nat):=by have lo:=hb.lo;have hi:=hb.hi;have h:b.C0.toNat=2\/b.C0.toNat=3\/b.C0.toNat=4\/b.C0.toNat=5\/b.C0.toNat=6\/b.C0.toNat=7\/b.C0.toNat=8:=ω;rcases h with h|h|h|h|h|h|h<;>rw[h]<;>decide
theorem Au9(h:flV b n=B)(r:ByteArray):C2 b.C0<|H aD<|leV (nmB (H aB n) 4++r) 4:=by have h1:=QZ.1 h;have o:=Asl hb;obtain⟨j,a⟩:=h1;rw[Bfv ω];exact⟨j,a⟩
theorem At5{c:aP}(h:WQ b c=B)(l:List aP):Ck b (PI<|c::l)/\rest (PI<|c::l)=PI l:=by
 have hi:=hb.hi;unfold WQ at h;simp only[a_]at h;obtain⟨h1,p,o,j⟩:=h;have o:=Ah.1 o;have j:=Ah.1 j;have u:∀n:Int,0<=n/\n<256->aB.wrap n=n:=λn h=>Ih h.1 ω;rw[Ame];have a:=λr=>Mm (DB (H aB c.C1) 4) r;have t2:=λr=>Mm (XA [c.X2,c.D2,c.E2,c.R1,c.T2,c.C3]) r;have t3:=λr=>Mm (DB (H aB c.H2) 1) r;have t4:=λr=>Mm (DB (H aB c.Y1) 1) r;have t5:=λr=>Mm (DB (H aB c.I2) 4) r;have q:=λr=>Mm (DB (c.C4:Int) 8) r;refine⟨⟨?_,?_,?_,?_,?_,?_⟩,?_⟩
 .simp only[O_,DB,XA];omega
 .exact Au9 hb h1 _
 .rw[a];exact Bj1 ..
 .rw[a,t2,u _ ω,WL ω];exact o.2
 .rw[a,t2,t3,u _ ω,WL ω];exact j.2
 .rw[a,t2,t3,t4];exact Au9 hb p _
 .unfold rest;rw[a,t2,t3,t4,t5,q]
theorem Ahr:∀(l:List aP),(∀c∈l,WQ b c=B)->∀j,j<l.length->Ck b (Te j<|PI l)
 |[],_,_,o=>absurd o<|Nat.not_lt_zero _
 |c::l,h,0,_=>(At5 hb (h c<|H_ ..) l).1
 |c::l,h,j+1,o=>by show Ck b (Te j _);rw[(At5 hb (h c<|H_ ..) l).2];exact Ahr l (λa p=>h a<|L_ _ p) j (by rw[s_]at o;omega)
end
def Acc(n:Int)(r:ByteArray):aD.wrap (leV (nmB (H aB n) 4++r) 4)=aD.wrap n:=by
 have h:=Jl n;rw[Bby _ τ h.1];have e:aB.wrap n=n%18446744073709551616:=by simp only[H,IntKind.signed,IntKind.bits];simp
 simp only[H,IntKind.signed,IntKind.bits];simp;omega
def Bak(n:Int):bv (H aD n)=bv n:=by unfold bv;apply BitVec.eq_of_toNat_eq;simp only[ H,IntKind.signed,IntKind.bits];simp
def Bk7(hb:b.small)(hcode:b.code=0){x:Inp}(h:Yk b x=B):Hd b (Aag x)/\(hdP b.B0.length<|Aag x).press=(H aD x.press.1,aD.wrap x.press.2)/\(hdP b.B0.length<|Aag x).kind=x.kind/\(hdP b.B0.length<|Aag x).car=x.car:=by
 have N:=Ag hcode;unfold Yk at h;simp only[a_,a1_]at h;obtain⟨h1,p,v,z,Q,P⟩:=h;have p:=Ah.1 p;have v:=Ah.1 v;have u:∀n:Int,0<=n/\n<256->aB.wrap n=n:=λn h=>Ih h.1 ω;have a:=λr=>Mm (DB (H aB x.press.1) 4) r;have t2:=λr=>Mm (DB (H aB x.press.2) 4) r;have t3:=λr=>Mm (DB (H aB x.kind) 1) r;have t4:=λr=>Mm (DB (H aB x.car) 1) r;have y:vb (bv x.press.1&&& ~~~ bv (Di b).1)=0/\vb (bv x.press.2&&& ~~~ bv (Di b).2)=0:=by
  unfold MM isZ at h1;have h1:(Dt x.press<|Di b).1=0/\(Dt x.press<|Di b).2=0:=by simpa using h1
  exact h1
 have k1:∀r,((byN (nmB (H aB x.kind) 1++r) 0:Nat):Int)=x.kind:=λr=>by rw[u _ ω,WL ω]
 have o:∀r,((byN (nmB (H aB x.car) 1++r) 0:Nat):Int)=x.car:=λr=>by rw[u _ ω,WL ω]
 unfold Aag;refine⟨⟨?_,?_,?_,?_,?_,?_,?_⟩,?_,?_,?_⟩
 .simp only[O_,DB];omega
 .rw[Acc,Bak];exact y.1
 .rw[a,Acc,Bak];exact y.2
 .rw[a,t2,k1];exact p.2
 .rw[a,t2,t3,o];exact v.2
 .rw[a,t2,t3];intro q;have w:=k1<|nmB (H aB x.car) 1++PI x.cars;have X:=o<|PI x.cars;rw[q]at w
  have:x.car=0:=by rw[<-w]at z;simpa using z
  omega
 .rw[a,t2,t3,t4];intro j S;exact Ahr hb x.cars (λc N=>F_.1 P c N) j ω
 .unfold hdP;rw[a,Acc,Acc]
 .unfold hdP;rw[a,t2];exact k1 _
 .unfold hdP;rw[a,t2,t3];exact o _
def Btm(b:O)(x:Inp):Prop:=Yk b x=B/\KO x.press
def FrX(b:O)(x:Inp)(s:ByteArray):Prop:=s.size=(inV b x).size/\s.extract 0 (s.size-2)=(inV b x).extract 0 (s.size-2)
def Fr(b:O)(s:ByteArray):Prop:=∃x,Btm b x/\FrX b x s
def Fi{l:List α}{j:Nat}(d x:α)(h:i≠j):(l.set i x).getD j d=l.getD j d:=by rw[k_,List.getElem?_set_ne h,<-k_]
structure InOK(b:Bldg)(x:Inp):Prop where
 press:MM b x.press=true
 pu:KO x.press
 kind:0<=x.kind/\x.kind<=8
 car:0<=x.car/\x.car<(b.B0.length:Int)
 len:x.cars.length=b.B0.length
 flo:∀c∈x.cars,0<=c.C1/\c.C1<4294967296
def Akx:∀(n:Nat) (s:ByteArray),∀c∈Vm n s,0<=c.C1/\c.C1<4294967296
 |0,_,_,h=>by cases h
 |n+1,s,c,h=>by
  rcases x_.1 h with rfl|h
  .exact Hx _
  .exact Akx n _ c h
def Fr.good{x:Inp}(h:FrX b x s)(a:Ek b s=0):s=inV b x:=by
 obtain⟨h1,v⟩:=h;have j:(NJ s).2=0:=by
  unfold Ek at a;cases o:(s.size !=14+19*(b.B0.length:Int))with
  |true=>rw[o]at a;cases a
  |false=>
  rw[o]at a;cases p:(H U _ !=165)with
  |true=>rw[p]at a;cases a
  |false=>
  rw[p]at a;cases u:(H U _ !=b.B0.length)with
  |true=>rw[u]at a;cases a
  |false=>rw[u]at a;exact a
 have hi:=Yh b x;unfold NJ at j;rw[d_ ω,v]at j;cases q:eqB _ s with
 |false=>rw[q]at j;cases j
 |true=>have q:=Aje.1 q;rw[<-q,h1];unfold inV;rw[Tg];generalize x.cars.foldl Sc _=t;congr 1;unfold Tf;apply Ub;rw[WK,Nat.sub_zero];exact(d6_<|Gf t)
def Aif(h:0<=n/\n<4294967296):aD.wrap n=n:=by simp only[H,IntKind.signed,IntKind.bits];simp;omega
def RdX(b:O)(s:ByteArray):Prop:=∃x:Inp,Hz b.C0 b.E0 b.J0 b.M0 b.K0 b.N0 b.O0 b.B0 s=R (((),Ek b s,()),(x.tup,()))/\(Ek b s≠0->x=Inp.none)/\(Ek b s=0->InOK b x)
def Ags(hb:b.small)(hcode:b.code=0)(u:Fr b s):RdX b s:=by
 have N:=Ag hcode;obtain⟨x,⟨hx,j⟩,hf⟩:=u;have v:x.cars.length=b.B0.length:=by unfold Yk at hx;simp only[a_,a1_]at hx;omega
 have p:s.size<=1000000:=by rw[hf.1,Yh];omega
 by_cases a:Ek b s=0
 .have e:=Fr.good hf a;subst e;obtain⟨w,q,y,z⟩:=Bk7 hb hcode hx;have h:=Acr hb hcode p a (by rw[Auw];exact w);rw[Auw]at h;refine⟨_,by rw[a];exact h,λg=>absurd a g,λ_=>?_⟩;unfold Yk at hx;simp only[a_]at hx;obtain⟨g1,o,g3,_⟩:=hx;have o:=Ah.1 o;have g3:=Ah.1 g3;refine⟨?_,?_,?_,?_,Aky _ _,Akx _ _⟩
  .rw[q,Aif j.1,Aif j.2];exact g1
  .rw[q,Aif j.1,Aif j.2];exact j
  .rw[y];exact o
  .omega
 .exact⟨Inp.none,Uo hcode p a,λ_=>rfl,λg=>absurd g a⟩
def Vp(n:Int):W (Lq n) λy=>y.1.1=B->2<=n/\n<=32:=by exact I (C (λq=>A λg=>⟨j_ q,j_ g⟩) λ_=>A λg=>(by cases g)) λ_ h=>A h
def Amr(j:2<=n/\n<=32)(f d:Int):W (RK n f d) λy=>y.1.1=B->0<=f/\f<n:=by
 have w:U.wrap (n-1)=n-1:=Aa ω ω;have p:W (bif(d==2)then bif(decide<|0<f)then R (((decide<|f<n),()),())else R ((J,()),())else R ((J,()),())) λ(y:(Bool×Unit)×Unit)=>y.1.1=B->0<=f/\f<n:=C (λ_=>C (λq=>A λg=>by have:=j_ q;have:=j_ g;omega) λ_=>A λg=>(by cases g)) λ_=>A λg=>(by cases g)
 exact I (C (λ_=>C (λq=>C (λa=>A λ_=>by have:=j_ q;have a:=j_ a;rw[w]at a;omega) λ_=>p) λ_=>p) λ_=>p) λ_ h=>A h
def WN(h:0<=n)(a c d:Int):W (Mo n a c d) λy=>(0<=y.2.1.1/\y.2.1.1<4294967296)/\U2 y.2.1.2.1 y.2.1.2.2.1:=by exact aE (Z h)<|aN (rfl:Dk ..=_)<|A ⟨Hx _,Hx _,Hx _⟩
def Apn(a c d:Int):W (Tv n a c d) λy=>0<=y.1.1/\y.1.1<=1000:=by
 refine I (Vp n) λN h1=>C (λ_=>A τ) λq=>?_;have h1:=h1 (by simpa using q);refine I (WN ω a c d) λz j=>I (Yw j.1) λo w=>?_;refine I (Q:=λy=>0<=y.1.1/\y.1.1<=510) ?_ λp u=>A ?_
 .unfold RJ;refine I (Yw j.2.1) λP k1=>I (Yw j.2.2) λz2 v=>A ?_;show 0<=U.wrap _/\U.wrap _<=510;rw[Aa ω ω];omega
 .show 0<=U.wrap _/\U.wrap _<=1000;rw[Aa ω ω];omega
def nf(x:Int):Prop:=-1<=x/\x<=300
def Apo{l:List Int}(hl:l.length<=10){a c:Int}(u:nf a)(v:nf c)(hx:∀x∈l,nf x):W (CD l a c) λy=>0<=y.1.1/\y.1.1<=4400:=by
 refine aE (e6_ (by simp only[s_,c6_];omega)) ?_;refine I ?_ λ_ h=>A h;have w:(l++[c]).length<=11:=by rw[e_,D_];omega
 have j:∀x∈l++[c],nf x:=λx h=>by
  rcases n_.1 h with h|h
  .exact hx x h
  .rw[E_.1 h];exact v
 refine aZ (λk x=>∃(n p:Int) (i:Nat),x=((n,p,l++[c],((l++[c]).length:Int),(i:Int),()),((a,()),(c,()),()))/\i+k=(l++[c]).length/\nf p/\0<=n/\n<=400*i) ?_ (l++[c]).length ⟨0,a,0,rfl,ω,u,τ,τ⟩ ω;rintro k x ⟨n,p,i,rfl,P,hp,N,o⟩;show W (Ni n p _ ((l++[c]).length:Int) i a c) _;refine C (λq=>?_) λ_=>A (ω:0<=n/\n<=4400);have q:=j_ q;simp only[Cn (ω:i<1000000000)];have hv:=Aqe j (i:=i) (d:=0) ω;refine aE (Ac ω ω)<|A ⟨k-1,ω,_,_,i+1,rfl,ω,hv,?_⟩;rw[l_];generalize(l++[c]).getD i 0=z at hv|-;unfold nf at hp hv;rw[Aa (n:=z-p) ω ω,Aa (n:=p-z) ω ω];by_cases g:z-p<p-z
 .rw[Z g,h_,Aa ω ω];omega
 .rw[d_ g,g_,Aa ω ω];omega
def Ate(n f w a c d g e:Int):W (VS n f w a c d g e) λy=>-1<=y.1.1/\y.1.1<=4400:=by
 have no:(-1)<=-1/\(-1)<=4400:=by decide
 refine I (Vp n) λy1 h1=>C (λ_=>A no) λq1=>C (λ_=>A no) λq2=>C (λ_=>A no) λq4=>C (λ_=>A no) λ_=>C (λ_=>A no) λ_=>?_;have h1:=h1 (by simpa using q1);have q2:=w_ q2;have q4:=w_ q4;refine I (Amr h1 g e) λy2 u=>C (λ_=>A no) λq3=>?_;have u:=u (by simpa using q3);refine I (WN ω a c d) λy3 _=>aE (Z ω)<|aE (Z u.1) ?_;refine I (Asm _) λy4 h4=>I (Anv _) λy5 h5=>?_;have q:nf<|H U<|y5.1.1-1:=by rw[Aa ω ω];exact⟨ω,ω⟩
 have Y:nf y4.1.1:=⟨ω,ω⟩
 have h8:nf f:=⟨ω,ω⟩
 have h0:nf g:=⟨ω,ω⟩
 generalize U.wrap _=z at q;have j:nf y4.1.1/\nf z/\nf f/\nf g:=⟨Y,q,h8,h0⟩;refine I (Q:=λy=>nf y.1.2.2.1/\nf y.1.2.2.2.1/\nf y.2.1.1/\nf y.2.2.1.1) ?_ λy6 P=>I (Q:=λy=>nf y.1.2.2.1/\nf y.1.2.2.2.1/\nf y.2.1.1/\nf y.2.2.1.1) ?_ λy7 v=>?_
 .exact C (λ_=>C (λ_=>A j) λ_=>C (λ_=>A j) λ_=>A j) λ_=>C (λ_=>A j) λ_=>A j
 .exact C (λ_=>A P) λ_=>C (λ_=>A P) λ_=>A P
 have p:∀(l:List Int) {a c:Int},l.length<=10->nf a->nf c->(∀x∈l,nf x)->W (bG (CD l a c) λh3=>R ((h3.1.1,()),())) λy=>-1<=y.1.1/\y.1.1<=4400:=λl a c hl ha hc hx=>I (Apo hl ha hc hx) λy h=>A ⟨Int.le_trans τ h.1,h.2⟩;have X:∀{x:Int},nf x->∀y∈[x],nf y:=λh y o=>by rw[E_.1 o];exact h
 have m2:∀{x z:Int},nf x->nf z->∀y∈[x,z],nf y:=λh u y o=>by
  rcases x_.1 o with rfl|o
  .exact h
  .exact X u y o
 refine C (λ_=>p _ (Q_ _) v.2.2.1 v.2.2.2 λx hx=>by cases hx) λ_=>I (Q:=λy=>nf y.1.2.2.1/\nf y.1.2.2.2.1/\nf y.2.1.1/\nf y.2.2.1.1) ?_ λy9 h9=>?_
 .exact C (λ_=>A v) λ_=>A v
 obtain⟨k1,S,N,k4⟩:=h9;exact C (λ_=>p _ (show 1<=10 by decide) N k4<|X S) λ_=>C (λ_=>p _ (show 1<=10 by decide) N k4<|X k1) λ_=>C (λ_=>p _ (show 2<=10 by decide) N k4<|m2 S k1) λ_=>p _ (show 2<=10 by decide) N k4<|m2 k1 S
def Pp(h:b.code=0){c:Car}(p:c∈b.B0):Cg b.C0 c=B:=by
 unfold Bldg.code at h;cases h1:aI 2 32 b.C0<;>rw[h1]at h
 .cases h
 cases o:aI 1 8 _<;>rw[o]at h
 .cases h
 cases q:aI 1 16 b.E0<;>rw[q]at h
 .cases h
 cases j:aI 1 10000 b.M0<;>rw[j]at h
 .cases h
 cases a:b.B0.all _<;>rw[a]at h
 .cases h
 exact F_.1 a c p
def Af5(h:b.code=0)(hi:i<b.B0.length):(0<=(b.B0.getD i Cm).F3/\(b.B0.getD i Cm).F3<=10000)/\(0<=(b.B0.getD i Cm).U1/\(b.B0.getD i Cm).U1<=10000)/\(0<=(b.B0.getD i Cm).V1/\(b.B0.getD i Cm).V1<=10000)/\0<=(b.B0.getD i Cm).L2/\(b.B0.getD i Cm).L2<=10000:=by have a:Cg b.C0 (b.B0.getD i Cm)=B:=Pp h<|AE _ hi;unfold Cg at a;simp only[U_,a_,Ah]at a;omega
def Vo(b:O)(car:Int)(v:aC)(a w:Int):W (Fm b.C0 b.E0 b.J0 b.M0 b.K0 b.N0 b.O0 b.B0 car v.Z3 v.L3 v.N3 v.E4 v.D0 v.I0 v.C4 v.U3 v.A3 v.Z2 v.X1 v.N1 a w) λy=>0<=y.1.1/\y.1.1<=1000000:=by
 have one:(0:Int)<=1000000/\(1000000:Int)<=1000000:=by decide
 refine aN (Ap b) (C (λ_=>A one) λY=>C (λ_=>A one) λg1=>C (λ_=>A one) λN=>?_);have g1:=w_ g1;have N:=w_ N;have hcode:b.code=0:=by simpa using Y
 have ib:inB car b.B0.length=B:=Ac ω ω;refine I (Q:=λy=>y.1.1=car/\y.2.1=b.tup) (C (λ_=>A ⟨rfl,rfl⟩) λ_=>A ⟨rfl,rfl⟩) λy2 h2=>?_;obtain⟨⟨j,ya⟩,yb,yv⟩:=y2;obtain⟨P,X⟩:=h2;simp only at P X;subst P X;have ht:=Af5 hcode (ω:j.toNat<b.B0.length);refine I (Ate ..) λo h3=>C (λ_=>A one) λS=>aE ib ?_;have S:=w_ S;refine I (Apn ..) λu h4=>A ?_;have z:∀n:Int,0<=n->0<=(bif decide _ then _ else n)/\(bif decide _ then _ else n)<=1000000:=λn hn=>by
  by_cases g:1000000<n
  .rw[Z g];exact one
  .rw[d_ g,g_];omega
 refine z _ ?_;show 0<=U.wrap (H U (o.1.1*(b.B0.getD j.toNat Cm).F3)+U.wrap (u.1.1*U.wrap (H U (2*(b.B0.getD j.toNat Cm).U1)+(b.B0.getD j.toNat Cm).V1)));generalize b.B0.getD j.toNat Cm=c at ht;have k1:0<=o.1.1*c.F3/\o.1.1*c.F3<=4400*10000:=⟨Int.mul_nonneg ω ω,Int.mul_le_mul ω ω ω τ⟩
 rw[Aa (n:=2*c.U1) ω ω,Aa (n:=2*c.U1+c.V1) ω ω];have k2:0<=u.1.1*(2*c.U1+c.V1)/\u.1.1*(2*c.U1+c.V1)<=1000*30000:=⟨Int.mul_nonneg ω ω,Int.mul_le_mul ω ω ω τ⟩
 generalize u.1.1*(2*c.U1+c.V1)=p at k2;generalize o.1.1*c.F3=q at k1;rw[Aa (n:=q) ω ω,Aa (n:=p) ω ω,Aa ω ω];omega
def Akr(n:Int):Prop:=0<=n/\n<4294967296
structure View.ok(v:View):Prop where
 c:Akr v.Z2
 u:Akr v.X1
 d:Akr v.N1
noncomputable def Ap4(b:O)(car:Int)(v:aC)(a j:Int):Option<|(Int×Unit)×Unit:=Fm b.C0 b.E0 b.J0 b.M0 b.K0 b.N0 b.O0 b.B0 car v.Z3 v.L3 v.N3 v.E4 v.D0 v.I0 v.C4 v.U3 v.A3 v.Z2 v.X1 v.N1 a j
noncomputable def Uk(b:O)(car:Int)(v:aC)(a j:Int):Int:=match Ap4 b car v a j with|some r=>r.1.1|none=>0
def Auq(o:b.small){v:aC}(p:v.ok)(car a j:Int):Ap4 b car v a j=R ((Uk b car v a j,()),()):=by obtain⟨r,h,_⟩:=Vo b car v a j;have h':Ap4 b car v a j=R r:=h;rw[show Uk b car v a j=r.1.1 by unfold Uk;rw[h']];exact h'
def Bjz(b:O)(car:Int)(v:aC)(a j:Int):0<=Uk b car v a j/\Uk b car v a j<=1000000:=by obtain⟨r,h,o⟩:=Vo b car v a j;have h':Ap4 b car v a j=R r:=h;rw[show Uk b car v a j=r.1.1 by unfold Uk;rw[h']];exact o
def Vt(v:aC):Bool:=v.C4==3||v.C4==4
def Qi(v:aC):Hg v.Z3 v.L3 v.N3 v.E4 v.D0 v.I0 v.C4 v.U3 v.A3 v.Z2 v.X1 v.N1=R ((Vt v,()),()):=by unfold Hg Vt;cases v.C4==3<;>rfl
def Adx(a b:Int×Int):Bool:=decide (a.1<b.1)||(a.1==b.1&&decide (a.2<b.2))
def TY(a b:Int×Int):IJ a.1 a.2 b.1 b.2=R ((Adx a b,()),()):=by
 unfold IJ Adx;by_cases h:a.1=b.1
 .by_cases h':a.2=b.2
  .rw[h,h',p_,p_,d_ ω,d_ ω];rfl
  .rw[h,p_,At h',d_ ω];rfl
 .rw[At h];cases decide (a.1<b.1)<;>rfl
def As(vs:List aC)(i:Int):aC:=vs.getD i.toNat<|View.mk J J J J 0 0 0 0 0 0 0 0
def okViews(vs:List aC):Prop:=∀v∈vs,v.ok
def View.ok_none:View.ok<|View.mk J J J J 0 0 0 0 0 0 0 0:=⟨⟨τ,τ⟩,⟨τ,τ⟩,⟨τ,τ⟩⟩
def okViews.at(h:okViews vs)(i:Int):(As vs i).ok:=by
 unfold As;rw[k_];cases hq:vs[i.toNat]? with
 |none=>exact View.ok_none
 |some v=>exact h v<|o_ hq
noncomputable def Td(b:O)(vs:List aC)(a j:Int)(car:Int):Int×Int:=((bif Vt (As vs car)then 1 else 0),Uk b car (As vs car) a j)
def Qj(hb:b.small)(hv:okViews vs){car:Int}(o:0<=car/\car<vs.length)(a j:Int):
  KR b.C0 b.E0 b.J0 b.M0 b.K0 b.N0 b.O0 b.B0 vs car a j=R (((),()),(((Td b vs a j car).1,(Td b vs a j car).2,()),())):=by
 unfold KR;have e:Fm b.C0 b.E0 b.J0 b.M0 b.K0 b.N0 b.O0 b.B0 car (As vs car).Z3 (As vs car).L3 (As vs car).N3 (As vs car).E4 (As vs car).D0 (As vs car).I0 (As vs car).C4 (As vs car).U3 (As vs car).A3 (As vs car).Z2 (As vs car).X1 (As vs car).N1 a j=_:=Auq hb (hv.at car) car a j;rw[Ac o.1 o.2];show(Fm b.C0 b.E0 b.J0 b.M0 b.K0 b.N0 b.O0 b.B0 car (As vs car).Z3 (As vs car).L3 (As vs car).N3 (As vs car).E4 (As vs car).D0 (As vs car).I0 (As vs car).C4 (As vs car).U3 (As vs car).A3 (As vs car).Z2 (As vs car).X1 (As vs car).N1 a j).bind (λp=>(Hg (As vs car).Z3 (As vs car).L3 (As vs car).N3 (As vs car).E4 (As vs car).D0 (As vs car).I0 (As vs car).C4 (As vs car).U3 (As vs car).A3 (As vs car).Z2 (As vs car).X1 (As vs car).N1).bind _)=_;rw[e,Qi];unfold Td;cases Vt _<;>rfl
noncomputable def NY(b:O)(vs:List aC)(j p o:Int)(i a:Int):Int:=bif !(As vs i).Z3||i==o then a else bif a==-1||Adx (Td b vs j p i) (Td b vs j p a)then i else a
noncomputable def Anj(b:O)(vs:List aC)(o p a:Int):Nat->Nat->Int->Int
 |0,_,j=>j
 |m+1,i,j=>Anj b vs o p a m (i+1)<|NY b vs o p a i j
noncomputable def JZ(b:O)(vs:List aC)(j o a:Int):Int:=bif b.code !=0||(vs.length:Int) !=(b.B0.length:Int)then -1 else Anj b vs j o a vs.length 0 (-1)
def Rq(vs:List aC)(a:Int):Prop:=a=-1\/(0<=a/\a<vs.length)
def Ac4{o p a:Int}(hi:i<vs.length){j:Int}(h:Rq vs j):Rq vs<|NY b vs o p a i j:=by
 unfold NY;cases(!(As vs i).Z3||i==a)with
 |true=>exact h
 |false=>
  simp only[g_];cases(j==-1||Adx _ _)with
  |true=>exact .inr (by simp only[h_];omega)
  |false=>exact h
def Ro{b:O}(hb:b.small){vs:List aC}(hv:okViews vs)(hl:vs.length<=100)(o q j:Int) :
  ∀(m i:Nat) (p N z:Int),i+m=vs.length->Rq vs p->(p≠ -1->(N,z)=Td b vs o q p)->
   iter (λx=>letI a:=x.2.1.2.2;letI c:=x.1.2.2.2.2.2;letI d:=a.2.2;FM x.1.1 x.1.2.1 x.1.2.2.1 x.1.2.2.2.1 c.1 c.2.2.1 c.2.2.2.1 c.2.2.2.2.1 x.2.1.1 x.2.1.2.1 a.1 a.2.1 d.1 d.2.1 d.2.2.1 d.2.2.2.1 x.2.2.1.1 x.2.2.1.2.1) (m+1) ((vs,o,q,j,(),p,(),vs,(vs.length:Int),(i:Int),()),(b.tup,(N,z,()),()))=R ((Anj b vs o q j m i p,()),())
 |0,i,p,N,z,hi,hin,Q=>by
  refine Ax ?_;show FM vs o q j p vs (vs.length:Int) (i:Int) b.C0 b.E0 b.J0 b.M0 b.K0 b.N0 b.O0 b.B0 N z=_;unfold FM;have e:decide ((i:Int)<(vs.length:Int))=J:=by simp;omega
  rw[e];rfl
 |m+1,i,p,N,z,hi,hin,Q=>by
  have S:i<vs.length:=ω;have e:decide (i<(vs.length:Int))=B:=by simp;omega
  have Y:inB i vs.length=B:=Ac ω ω;have w:U.wrap (i+1)=((i+1:Nat):Int):=by rw[Aa ω ω];omega
  have X:∃v y,(NY b vs o q j i p≠ -1->(v,y)=Td b vs o q (NY b vs o q j i p))/\FM vs o q j p vs vs.length i b.C0 b.E0 b.J0 b.M0 b.K0 b.N0 b.O0 b.B0 N z=R (.inl ((vs,o,q,j,(),NY b vs o q j i p,(),vs,vs.length,((i+1:Nat):Int),()),(b.tup,(v,y,()),()))):=by
   unfold FM;have k1:=Qj hb hv (car:=i) ω o q;rw[e,Y,w];unfold NY;rw[show vs.getD _ _=As vs _ from rfl];cases(As vs _).Z3 with
   |false=>exact⟨N,z,Q,rfl⟩
   |true=>
    cases _==j with
    |true=>exact⟨N,z,Q,rfl⟩
    |false=>
     simp only[ k1];rcases hin with u|u
     .subst u;rw[show((-1)==-1)=B from rfl];simp only[h_,c_,w];exact⟨_,_,λ_=>rfl,rfl⟩
     .have P:=Q ω;have e1:=J_ Prod.fst P;have e2:=J_ Prod.snd P;subst e1 e2;rw[At ω];simp only[g_,c_,TY];cases Adx _ _ with
      |true=>simp only[ w];exact⟨_,_,λ_=>rfl,rfl⟩
      |false=>simp only[ w];exact⟨_,_,λ_=>rfl,rfl⟩
  obtain⟨v,y,h1,h2⟩:=X;exact(Aq h2).trans<|Ro hb hv hl o q j m (i+1) _ v y ω (Ac4 S hin) h1
def NX(hb:b.small)(hv:okViews vs)(hl:vs.length<=100)(j o a:Int):
  GT b.C0 b.E0 b.J0 b.M0 b.K0 b.N0 b.O0 b.B0 vs j o a=R ((JZ b vs j o a,()),()):=by
 unfold GT JZ;rw[Ap,c_];cases b.code !=0 with
 |true=>rfl
 |false=>
  cases _ !=(b.B0.length:Int)with
  |true=>rfl
  |false=>have h:=Aj (Ro hb hv hl j o a vs.length 0 (-1) 0 0 ω (.inl rfl) (λh=>absurd rfl h)) ω;have h':MP _=_:=h;refine(J_ (λz=>bG z _) h').trans ?_;rfl
def Aox{b:O}{vs:List aC}{o p j:Int}:∀(m i:Nat) (a:Int),i+m=vs.length->Rq vs a->Rq vs (Anj b vs o p j m i a)
 |0,_,_,_,h=>h
 |m+1,i,a,hi,h=>Aox m (i+1) _ ω<|Ac4 ω h
def SQ(b:O)(vs:List aC)(j o a:Int):Rq vs<|JZ b vs j o a:=by
 unfold JZ;cases(b.code !=0||vs.length !=(b.B0.length:Int))with
 |true=>exact .inl rfl
 |false=>exact Aox vs.length 0 (-1) ω<|.inl rfl
noncomputable def Aiy(b:O)(vs:List aC)(e:aA)(x n:Int):Bool:=((As vs e.S0).N3&&(x==0&&Adx (Td b vs e.D0 e.I0 n) (Td b vs e.D0 e.I0 e.S0)))||(!(As vs e.S0).N3&&(Vt (As vs e.S0)&&!Vt (As vs n)))
noncomputable def Nm(b:O)(vs:List aC)(e:aA)(x:Int):Int:=bif JZ b vs e.D0 e.I0 e.S0==-1 then -1 else bif Aiy b vs e x (JZ b vs e.D0 e.I0 e.S0)then JZ b vs e.D0 e.I0 e.S0 else -1
noncomputable def Gw(b:O)(vs:List aC)(e:aA)(x:Int):aA:=
 bif e.S0==-2 then e
 else bif e.S0==-1 then⟨e.D0,e.I0,JZ b vs e.D0 e.I0<|-1,e.H1,e.Z1⟩
 else bif(As vs e.S0).E4 then(bif decide ((b.B0.length:Int)<e.H1)then⟨e.D0,e.I0,-2,e.H1,e.Z1⟩else⟨e.D0,e.I0,JZ b vs e.D0 e.I0 e.S0,e.H1+1,e.Z1⟩)
 else bif !e.Z1&&decide (e.H1<=(b.B0.length:Int))then(bif Nm b vs e x != -1 then⟨e.D0,e.I0,Nm b vs e x,e.H1+1,B⟩else e)
 else e
def Entry.tup(e:aA):Int×Int×Int×Int×Bool×Unit:=(e.D0,e.I0,e.S0,e.H1,e.Z1,())
section
variable{b:O}(hb:b.small){vs:List aC}(hv:okViews vs)(hl:vs.length<=100){e:aA}
include hb hv hl
theorem Ae3(o:0<=e.S0/\e.S0<vs.length)(x:Int):GB b.C0 b.E0 b.J0 b.M0 b.K0 b.N0 b.O0 b.B0 vs e.D0 e.I0 e.S0 e.H1 e.Z1 x=R ((Nm b vs e x,()),()):=by
 unfold GB Nm;have a:=SQ b vs e.D0 e.I0 e.S0;rw[NX hb hv hl];generalize JZ b vs e.D0 e.I0 e.S0=n at a;simp only[c_];rcases a with rfl|a
 .rfl
 .have k1:=Qj hb hv a e.D0 e.I0;have u:=Qj hb hv o e.D0 e.I0;have p:=Qi<|As vs e.S0;have q:=Qi<|As vs n;rw[At ω,Ac o.1 o.2];unfold Aiy;unfold As at p q|-;cases j:(vs.getD e.S0.toNat _).N3 with
  |true=>
   cases x==0 with
   |true=>simp only[ k1,u,c_,TY];cases Adx _ _<;>rfl
   |false=>rfl
  |false=>
   rw[j]at p;simp only[g_,c_,p];cases Vt _ with
   |false=>rfl
   |true=>simp only[ Ac a.1 a.2,q];cases Vt _<;>rfl
theorem Acs(u:-2<=e.S0/\e.S0<vs.length)(hm:0<=e.H1/\e.H1<=255)(x:Int):FY b.C0 b.E0 b.J0 b.M0 b.K0 b.N0 b.O0 b.B0 vs e.D0 e.I0 e.S0 e.H1 e.Z1 x=R (((),()),((Gw b vs e x).tup,())):=by
 unfold FY Gw;have w:U.wrap _=e.H1+1:=Aa ω ω;by_cases g1:e.S0=-2
 .rw[show(e.S0==-2)=B by rw[g1];rfl];rfl
 rw[At g1];by_cases q:e.S0=-1
 .rw[show(e.S0==-1)=B by rw[q];rfl];simp only[ NX hb hv hl];rfl
 rw[At q];have a:0<=e.S0/\e.S0<vs.length:=ω;have p:=Ae3 hb hv hl a x;unfold As;simp only[ Ac a.1 a.2];cases j:(vs.getD e.S0.toNat _).E4 with
 |true=>
  cases decide (b.B0.length<e.H1)with
  |true=>rfl
  |false=>simp only[ Ac a.1 a.2,h_,j,NX hb hv hl,c_,w];rfl
 |false=>
  simp only[g_,c_,Ac a.1 a.2,h_,j];cases o:e.Z1 with
  |true=>simp only[W_,g_,c_,e2_];unfold Entry.tup;rw[o]
  |false=>
   rw[o]at p;simp only[bB,h_,c_,c1_];cases decide (e.H1<=b.B0.length)with
   |false=>simp only[g_];unfold Entry.tup;rw[o]
   |true=>
    simp only[h_,p,c_,w];cases Nm b vs e x != -1 with
    |true=>rfl
    |false=>simp only[g_];unfold Entry.tup;rw[o]
end
def PF(j a:aA):List aG:=(bif j.H1 !=a.H1||!(j.Z1==a.Z1)then [⟨7,a.D0,a.I0,(bif a.Z1 then 1 else 0),a.H1⟩]else [])++(bif j.S0 !=a.S0 then [⟨3,a.D0,a.I0,a.S0,0⟩]else [])
def Al0(a b:aA):(PF a b).length<=2:=by unfold PF;cases(a.H1 !=b.H1||!(a.Z1==b.Z1))<;>cases a.S0 !=b.S0<;>simp
def Acn(a c:aA):Km a.D0 a.I0 a.S0 a.H1 a.Z1 c.D0 c.I0 c.S0 c.H1 c.Z1=R ((PF a c,()),()):=by
 unfold Km PF;have o:∀r:aG,Nat.ble (([]:List aG).length+[r].length) 2147483648=B:=λ_=>Am σ;have j:∀r s:aG,Nat.ble (([]++[s]:List aG).length+[r].length) 2147483648=B:=λ_ _=>Am σ;cases a.H1 !=c.H1<;>cases a.Z1==c.Z1<;>cases hm:c.Z1<;>cases p:a.S0 !=c.S0<;>
  simp only[h_,g_,c_,W_,bB,o,j,p]<;>rfl
def Abt(b:O)(i:Int):Car:=b.B0.getD i.toNat<|Car.mk 0 0 0 0 0 0 0 0 0
noncomputable def Ab6(b:O)(vs:List aC)(e n:aA)(x:Int):Int:=
 bif n.S0 !=e.S0&&decide (0<=n.S0)then(bif decide (1000000<U.wrap (Uk b n.S0 (As vs n.S0) e.D0 e.I0+(Abt b n.S0).L2))then 1000000 else U.wrap (Uk b n.S0 (As vs n.S0) e.D0 e.I0+(Abt b n.S0).L2))
 else(bif decide (H U (x-1)<0)then 0 else U.wrap (x-1))
noncomputable def Ht(b:O)(vs:List aC):List aA->List Int->List aG
 |e::t,x::xs=>PF e (Gw b vs e x)++Ht b vs t xs
 |_,_=>[]
noncomputable def LL(b:O)(vs:List aC):List aA->List Int->List Int
 |e::t,x::xs=>Ab6 b vs e (Gw b vs e x) x::LL b vs t xs
 |_,_=>[]
def Ba0(b:O)(vs:List aC)(e:aA)(x:Int):(Gw b vs e x).D0=e.D0/\(Gw b vs e x).I0=e.I0:=by unfold Gw;cases e.S0==-2<;>cases e.S0==-1<;>cases(As vs e.S0).E4<;>cases decide (b.B0.length<e.H1)<;>cases(!e.Z1&&decide (e.H1<=b.B0.length))<;>cases Nm b vs e x != -1<;>exact⟨rfl,rfl⟩
def Bcf(b:O)(vs:List aC)(e:aA)(x:Int):Rq vs<|Nm b vs e x:=by
 unfold Nm;cases JZ b vs e.D0 e.I0 e.S0==-1 with
 |true=>exact .inl rfl
 |false=>
  cases Aiy b vs e x _ with
  |true=>exact SQ ..
  |false=>exact .inl rfl
def Aui(b:O)(h:-2<=e.S0/\e.S0<vs.length)(x:Int):-2<=(Gw b vs e x).S0/\(Gw b vs e x).S0<vs.length:=by
 have k:∀n:Int,Rq vs n->-2<=n/\n<vs.length:=λn h=>by
  rcases h with rfl|h
  .omega
  .omega
 unfold Gw;by_cases g1:e.S0=-2
 .rw[show(e.S0==-2)=B by rw[g1];rfl];exact h
 rw[At g1];by_cases a:e.S0=-1
 .rw[show(e.S0==-1)=B by rw[a];rfl];exact k _<|SQ ..
 rw[At a];cases(As vs e.S0).E4 with
 |true=>
  cases decide (b.B0.length<e.H1)with
  |true=>exact⟨by show _<=-2;omega,by show(-2)<_;omega⟩
  |false=>exact k _<|SQ ..
 |false=>
  cases(!e.Z1&&decide (e.H1<=b.B0.length))with
  |true=>
   cases Nm b vs e x != -1 with
   |true=>exact k _<|Bcf ..
   |false=>exact h
  |false=>exact h
def Ak6{b:O}:∀{l:List aA}{p:Option aA},Io b p l=B->∀e∈l,Im b e=B
 |[],_,_,_,he=>by cases he
 |a::t,p,h,e,he=>by
  simp only[Io,a_]at h;rcases x_.1 he with rfl|he
  .exact h.1
  .exact Ak6 h.2.2 e he
def Xe(N:List α)(a v:α)(t:List α):(N++a::t).set N.length v=N++v::t:=by
 induction N with
 |nil=>rfl
 |cons h N j=>simp only[bJ,s_,List.set_cons_succ,j]
section
variable{b:O}(hb:b.small){vs:List aC}(hv:okViews vs)(hl:vs.length<=100)(hlen:(vs.length:Int)=(b.B0.length:Int)){m:aH}(hm:∀e∈m.A0,Im b e=B)(hm':m.A0.length<=1000){xs:List Int}(hx:xs.length=m.A0.length)
include hb hv hl hlen hm hm' hx
theorem TZ:∀(k i:Nat) (out:List aG) (N:List Int),i+k=m.A0.length->N.length=i->out.length<=2*i->
  iter (λx=>letI a:=x.2.2.1.2.2;letI c:=x.1.2.2.2.2;letI d:=x.2.1.2.2;letI f:=a.2.2;letI g:=d.2.2;GZ x.1.1 x.1.2.1 c.1 c.2.1 c.2.2.1 c.2.2.2.1 c.2.2.2.2.1 x.2.1.1 x.2.1.2.1 d.1 d.2.1 g.1 g.2.1 g.2.2.1 g.2.2.2.1 x.2.2.1.1 x.2.2.1.2.1 a.1 a.2.1 f.1 f.2.1 f.2.2.1 f.2.2.2.1 f.2.2.2.2.1) (k+1)
   ((xs,vs,(),(),out,N++aT k 0,m.A0,(m.A0.length:Int),(i:Int),()),(b.tup,(b.C0,b.E0,b.J0,b.M0,b.K0,b.N0,b.O0,b.B0,vs,()),()))=R ((out++Ht b vs (m.A0.drop i) (xs.drop i),N++LL b vs (m.A0.drop i) (xs.drop i),()),())
 |0,i,out,N,hi,hN,ho=>by
  refine Ax ?_;show GZ xs vs out (N++[]) m.A0 (m.A0.length:Int) (i:Int) b.C0 b.E0 b.J0 b.M0 b.K0 b.N0 b.O0 b.B0 b.C0 b.E0 b.J0 b.M0 b.K0 b.N0 b.O0 b.B0 vs=_;unfold GZ;have e:decide ((i:Int)<(m.A0.length:Int))=J:=by simp;omega
  rw[e,show i=m.A0.length by omega];simp[Ht,LL]
 |k+1,i,out,N,hi,hN,ho=>by
  have z:i<m.A0.length:=ω;have X:i<xs.length:=ω;have e:decide (i<(m.A0.length:Int))=B:=by simp;omega
  have ib:inB i m.A0.length=B:=Ac ω ω;have Y:inB i xs.length=B:=Ac ω ω;have h1:inB i (N++aT (k+1) 0).length=B:=Ac ω (by simp;omega);have w:U.wrap (i+1)=((i+1:Nat):Int):=by rw[Aa ω ω];omega
  have h0:=AE V z;have p:=hm _ h0;simp only[Im,a_,t_]at p;obtain⟨_,c1,c2,c3,c4⟩:=p;have hd:=Acs hb hv hl ω ⟨c3,c4⟩<|xs.getD i 0;have hr:=Acn (m.A0.getD i V)<|Gw b vs (m.A0.getD i V)<|xs.getD i 0;have hin:=Aui b (vs:=vs) (e:=m.A0.getD i V) ω<|xs.getD i 0;have h4:=Al0 (m.A0.getD i V)<|Gw b vs (m.A0.getD i V)<|xs.getD i 0;have S:Nat.ble (out.length+(PF (m.A0.getD i V)<|Gw b vs (m.A0.getD i V)<|xs.getD i 0).length) 2147483648=B:=Am ω;have y:∀v:Int,(N++aT (k+1) 0).set i v=N++v::aT k 0:=λv=>by rw[<-hN];exact Xe N 0 v _
  have q:∀v u:Int,(N++v::aT k _).set i u=N++u::aT k 0:=λv u=>by rw[<-hN];exact Xe N v u _
  have P:∀v:Int,inB i (N++v::aT k 0).length=B:=λv=>Ac ω (by simp;omega);rw[BS V z,BS 0 X];refine(Aq (x':=((xs,vs,(),(),out++PF (m.A0.getD i V) (Gw b vs (m.A0.getD i V)<|xs.getD i 0),(N++[Ab6 b vs (m.A0.getD i V) (Gw b vs (m.A0.getD i V)<|xs.getD i 0)<|xs.getD i 0])++aT k 0,m.A0,(m.A0.length:Int),((i+1:Nat):Int),()),(b.tup,(b.C0,b.E0,b.J0,b.M0,b.K0,b.N0,b.O0,b.B0,vs,()),()))) ?_).trans ?_
  .show GZ xs vs out _ m.A0 _ _ b.C0 b.E0 b.J0 b.M0 b.K0 b.N0 b.O0 b.B0 b.C0 b.E0 b.J0 b.M0 b.K0 b.N0 b.O0 b.B0 vs=_;unfold GZ;rw[e,ib,Y,show aX 0 0 0 0 J=V from rfl];unfold Entry.tup at hd;simp only[ l_,hd,c_,hr,S,h1,y];unfold Ab6;have o:=Auq hb (hv.at (Gw b vs (m.A0.getD i V)<|xs.getD i 0).S0) (Gw b vs (m.A0.getD i V)<|xs.getD i 0).S0 (m.A0.getD i V).D0 (m.A0.getD i V).I0;unfold Ap4 As at o;cases h3:((Gw b vs _ _).S0 !=(m.A0.getD i V).S0)with
   |false=>simp only[g_,c_,G_,w];rfl
   |true=>
    simp only[h_,c_];by_cases j:0<=(Gw b vs (m.A0.getD i V)<|xs.getD i 0).S0
    .have h2:=Ac j hin.2;have Q:inB (Gw b vs _ _).S0 b.B0.length=B:=Ac j ω;rw[Z j];simp only[ h2,o,Q,P,l_,q,G_,w];rfl
    .rw[d_ j];simp only[ G_,w];rfl
  .rw[TZ k (i+1) _ _ ω (by simp;omega) (by rw[e_];omega)];simp only[Ht,LL,G_,bK]
end
def Ps(xs:List Int):Bool:=xs.all<|aI 0 1000000
def Bck(n:Int):Lo n=R ((!aI 0 1000000 n,()),()):=by
 unfold Lo aI;by_cases g:n<0
 .rw[Z g,d_ (ω:¬0<=n)];rfl
 .rw[d_ g,Z (ω:0<=n)];by_cases a:1000000<n
  .rw[Z a,d_ ω];rfl
  .rw[d_ a,Z ω];rfl
def Atd(hl:xs.length<=maxLen):Bu xs=R ((!Ps xs,()),()):=by
 have hm:maxLen<=9223372036854775807:=by decide
 have q:∀(k i:Nat),i+k=xs.length->∃y,iter (λx=>AL x.1.1 x.1.2.2.1 x.1.2.2.2.1) (k+1) ((xs,(),xs.length,i,()),())=R y/\(match y with|.inl _=>(xs.drop i).all (aI 0 1000000)=B|.inr z=>0<=z.1.1/\(xs.drop i).all (aI 0 1000000)=J):=by
  intro k;induction k with
  |zero=>
   intro i hi;refine⟨.inl ((),()),Ax ?_,?_⟩
   .show AL xs (xs.length:Int) (i:Int)=_;unfold AL;rw[show decide _=J by simp;omega];rfl
   .rw[show i=xs.length by omega,b1_];rfl
  |succ k u=>
   intro i hi;have p:i<xs.length:=ω;have j:AL xs xs.length i=R (bif aI 0 1000000 (xs.getD i 0)then .inl ((xs,(),xs.length,((i+1:Nat):Int),()),())else .inr (.inr ((i,()),()))):=by
    unfold AL;have w:U.wrap (i+1)=((i+1:Nat):Int):=by rw[Aa ω ω];omega
    rw[show decide _=B by simp;omega,Ac ω ω,Bck,w];simp only[ l_];cases aI 0 1000000 _<;>rfl
   rw[BS _ p,U_];cases hq:aI 0 1000000 _ with
   |true=>rw[hq]at j;obtain⟨y,h1,a⟩:=u (i+1) ω;exact⟨y,(Aq j).trans h1,by exact a⟩
   |false=>rw[hq]at j;exact⟨_,Ax j,by show _<=(i:Int)/\_;exact⟨ω,rfl⟩⟩
 obtain⟨y,h1,a⟩:=q xs.length 0 ω;have o:CG ((xs,(),xs.length,0,()),())=R y:=Aj h1 ω;rw[d3_]at a;unfold Bu CN Ps;rw[o];cases y with
 |inl z=>simp only at a;rw[a];rfl
 |inr z=>rw[a.2];simp only[c_];rw[Z a.1];rfl
noncomputable def PB(b:O)(m:aH)(xs:List Int)(vs:List aC):List aG×List Int×Int×Unit:=bif m.ok b&&((xs.length:Int)==(m.A0.length:Int)&&((vs.length:Int)==(b.B0.length:Int)&&Ps xs))then(Ht b vs m.A0 xs,LL b vs m.A0 xs,0,())else([],[],1,())
def Img.ok_all(h:m.ok b=B):b.code=0/\m.F0.length=b.B0.length/\m.L0.length=b.B0.length/\m.H0.length=b.B0.length/\(∀p∈m.F0,0<=p/\p<=4)/\(∀e∈m.A0,Im b e=B)/\Io b Option.none m.A0=B:=by unfold Img.ok at h;simp only[a_,a1_]at h;obtain⟨h0,h1,o,q,j,a⟩:=h;exact⟨h0,ω,ω,ω,λp hp=>Ah.1<|F_.1 j p hp,Ak6 a,a⟩
section
variable{b:O}(hb:b.small){vs:List aC}(hv:okViews vs)(hl:vs.length<=100)(m:aH)(hm:m.A0.length<=1000)(hp:m.F0.length<=maxLen)(xs:List Int)(hx:xs.length<=maxLen)
include hb hv hl hm hp hx
theorem Aiu:Iz b.C0 b.E0 b.J0 b.M0 b.K0 b.N0 b.O0 b.B0 m.F0 m.L0 m.H0 m.A0 xs vs=R (PB b m xs vs,()):=by
 have v:1000<=maxLen:=by decide
 unfold Iz PB;rw[CV hb m hp ω,Atd hx];simp only[ bne];cases o:m.ok b with
 |false=>rfl
 |true=>
  cases hq:xs.length==(m.A0.length:Int)with
  |false=>rfl
  |true=>
   cases w:vs.length==(b.B0.length:Int)with
   |false=>rfl
   |true=>
    cases Ps xs with
    |false=>rfl
    |true=>
     have u:xs.length=(m.A0.length:Int):=by simpa using hq
     have q:vs.length=(b.B0.length:Int):=by simpa using w
     obtain⟨_,_,_,_,_,j,_⟩:=Img.ok_all o;have p:=Aj (TZ hb hv hl q j hm (xs:=xs) ω m.A0.length 0 [] [] ω rfl σ) ω;have a:OK ((xs,vs,(),(),([]:List aG),aT m.A0.length _,m.A0,m.A0.length,0,()),(b.tup,(b.C0,b.E0,b.J0,b.M0,b.K0,b.N0,b.O0,b.B0,vs,()),()))=_:=p;unfold Bldg.tup at a;simp only[W_,g_,u,Z (ω:0<=(m.A0.length:Int)),Z<|b8_ _,Z (ω:(m.A0.length:Int)<=2147483648),c7_,h_,l_,a,c_,d3_,c5_]
end
def Aa3(b:O)(vs:List aC):∀(l:List aA) (xs:List Int),(Ht b vs l xs).length<=2*l.length
 |[],_=>by simp[Ht]
 |_::_,[]=>by simp[Ht]
 |e::t,x::xs=>by have h1:=Aa3 b vs t xs;have a:=Al0 e<|Gw b vs e x;simp only[Ht,e_,s_];omega
def Aa2(b:O)(vs:List aC):∀(l:List aA) (xs:List Int),xs.length=l.length->(LL b vs l xs).length=l.length
 |[],_,_=>by simp[LL]
 |_::_,[],h=>by simp at h
 |e::t,x::xs,h=>by simp only[LL,s_,Aa2 b vs t xs (by simpa using h)]
def Bcj(b:O)(m:aH)(xs:List Int)(vs:List aC):(PB b m xs vs).1.length<=2*m.A0.length/\(PB b m xs vs).2.1.length<=m.A0.length:=by
 unfold PB;cases hq:(m.ok b&&(xs.length==(m.A0.length:Int)&&(vs.length==(b.B0.length:Int)&&Ps xs)))with
 |false=>exact⟨σ,σ⟩
 |true=>simp only[a_,a1_]at hq;refine⟨Aa3 b vs m.A0 xs,?_⟩;show(LL b vs m.A0 xs).length<=_;rw[Aa2 b vs m.A0 xs ω];exact q_ _
def noV:aC:=View.mk J J J J 0 0 0 0 0 0 0 0
def noP:aS:=Calls.mk 0 0
structure Lan where
 lit:List Calls
 gong:List Bool
 cl:Int×Int
def Lan.tup(l:Lan):List aS×List Bool×Int×Int×Unit:=(l.lit,l.gong,l.cl.1,l.cl.2,())
def Lan.none:Lan:=⟨[],[],(0,0)⟩
def Aev(b:O)(vs:List aC)(i:Nat)(s:Lan):Int×Int:=Dt (MG b<|vs.getD i noV) s.cl
def Uz(b:O)(vs:List aC)(ps:List aS)(i:Nat)(s:Lan):Lan:=⟨s.lit++[Calls.mk (Aev b vs i s).1 (Aev b vs i s).2],s.gong++[!isZ (Dt (Aev b vs i s) ((ps.getD i noP).Up,(ps.getD i noP).D4))],FH s.cl<|Aev b vs i s⟩
def Nl(b:O)(vs:List aC)(ps:List aS):Lan:=Bd (Uz b vs ps) vs.length 0 Lan.none
def Ag8(b:O)(vs:List aC)(ps:List aS):Lan×Int:=bif(vs.length:Int)==(b.B0.length:Int)&&((ps.length:Int)==(b.B0.length:Int))then(Nl b vs ps,0)else(Lan.none,1)
section
variable{b:O}(hb:b.small)(hcode:b.code=0)
include hb hcode
theorem Aal(vs:List aC)(ps:List aS)(hl:vs.length<=1000)(hp:ps.length=vs.length):MR ((ps,(),(),(),vs,(vs.length:Int),(0:Int),()),(b.tup,Lan.none.tup,Lan.none.tup,()))=R (((),(),()),(Lan.none.tup,(Nl b vs ps).tup,()))/\(Nl b vs ps).lit.length=vs.length/\(Nl b vs ps).gong.length=vs.length:=by
 have o:=λ(step:_->_) (h1:∀i (s:Lan),i<vs.length->(s.lit.length=i/\s.gong.length=i)->step ((ps,(),(),(),vs,(vs.length:Int),(i:Int),()),(b.tup,Lan.none.tup,s.tup,()))=R _) h2=>BN (step:=step) vs.length _ (Uz b vs ps) _ (λs=>(((),(),()),(Lan.none.tup,s.tup,()))) (λi s hi j=>⟨h1 i s hi j,by
   constructor
   .show(s.lit++[_]).length=_;rw[e_,D_,j.1]
   .show(s.gong++[_]).length=_;rw[e_,D_,j.2]⟩) h2 vs.length 0 Lan.none ω ⟨rfl,rfl⟩
 have h:=o (λx=>letI a:=x.2.1.2.2;letI c:=x.2.2;letI d:=x.1.2.2.2.2;letI e:=a.2.2;letI f:=c.2.1;FN x.1.1 d.1 d.2.1 d.2.2.1 x.2.1.1 x.2.1.2.1 a.1 a.2.1 e.1 e.2.1 e.2.2.1 e.2.2.2.1 c.1.1 c.1.2.1 c.1.2.2.1 c.1.2.2.2.1 f.1 f.2.1 f.2.2.1 f.2.2.2.1) (λi s hi j=>by
  show FN ps vs _ _ b.C0 b.E0 b.J0 b.M0 b.K0 b.N0 b.O0 b.B0 [] [] 0 0 s.lit s.gong s.cl.1 s.cl.2=_;unfold FN;rw[show View.mk J J J J 0 0 0 0 0 0 0 0=noV from rfl,show Calls.mk 0 0=noP from rfl];simp only[Z (ω:i<(vs.length:Int)),Ac ω (ω:(i:Int)<vs.length),Ac ω (ω:(i:Int)<ps.length),l_,Sq hb hcode,FJ hi (by unfold Df;omega)];have u:=HL (MG b<|vs.getD i noV) s.cl;have q:=HL (Aev b vs i s) ((ps.getD i noP).Up,(ps.getD i noP).D4);have p:=DZ s.cl<|Aev b vs i s;unfold Aev at q p;simp only[u,c_,q,p];rw[Am (by show s.lit.length+1<=_;omega)];rw[Am (by show s.gong.length+1<=_;omega)];rfl) (λs _=>by
  show FN ps vs _ _ b.C0 b.E0 b.J0 b.M0 b.K0 b.N0 b.O0 b.B0 [] [] 0 0 s.lit s.gong s.cl.1 s.cl.2=_;unfold FN;simp only[d_<|a0_ _];rfl)
 exact⟨Aj h.1 ω,h.2.1,h.2.2⟩
theorem Aer(vs:List aC)(ps:List aS)(hl:vs.length<=1000):Lu b.C0 b.E0 b.J0 b.M0 b.K0 b.N0 b.O0 b.B0 vs ps=R (((),(Ag8 b vs ps).2,()),((Ag8 b vs ps).1.tup,())):=by
 unfold Lu Ag8;rw[Ap,hcode];by_cases h1:vs.length=b.B0.length
 .by_cases a:ps.length=b.B0.length
  .have h:=(Aal hb hcode vs ps hl ω).1;simp only[Bldg.tup,Lan.tup,Lan.none]at h;rw[h1]at h|-;rw[a];simp only[P_,p_,h];rfl
  .rw[h1,P_,Jc ω,At (ω:¬ps.length=(b.B0.length:Int)),d4_];rfl
 .rw[Jc ω,At ω];rfl
end
def VM(b:O)(vs:List aC)(F D:Int):Bool:=vs.any λv=>BP (MG b v) F.toNat D
def Ti(b:O)(vs:List aC)(l:List aA):List aG:=l.flatMap λe=>bif VM b vs e.D0 e.I0 then [aY 2 e.D0 e.I0 0 0]else []
def Aot(b:O)(vs:List aC){f:Nat}{d:Int}:∀(k i:Nat) (s:Int×Int),i+k=vs.length->BP (Bd (λi s=>FH s<|MG b<|vs.getD i noV) k i s) f d=(BP s f d||(vs.drop i).any λv=>BP (MG b v) f d)
 |0,i,s,hi=>by rw[show i=vs.length by omega];simp[Bd]
 |k+1,i,s,hi=>by show BP (Bd _ k (i+1) _) f d=_;rw[Aot b vs k (i+1) _ ω,SM,BS noV (ω:i<vs.length),List.any_cons,Bool.or_assoc]
def Abd(b:O)(vs:List aC):∀l:List aA,(Ti b vs l).length<=l.length
 |[]=>q_ _
 |e::t=>by have h:=Abd b vs t;show((bif VM b vs e.D0 e.I0 then [aY 2 e.D0 e.I0 0 0]else [])++Ti b vs t).length<=_;cases VM b vs e.D0 e.I0<;>simp<;>omega
def Ao8(hb:b.small)(h:Au b e.D0 e.I0=B):Bh5 e:=by have hi:=hb.hi;unfold Au NE at h;simp only[a_,V_,a1_,Ah]at h;unfold Bh5;omega
section
variable{b:O}(hb:b.small)(hcode:b.code=0){m:aH}(hm:ImgOK b m)(hl:m.A0.length<=100000)(vs:List aC)(hv:(vs.length:Int)=(b.B0.length:Int))
include hb hcode hm hl hv
theorem Aes:Lv b.C0 b.E0 b.J0 b.M0 b.K0 b.N0 b.O0 b.B0 m.F0 m.L0 m.H0 m.A0 vs=R ((Ti b vs m.A0,()),()):=by
 have N:=Ag hcode;have w:100000<=maxLen:=by decide
 have y:=hm.lp;have h0:=BN (step:=λx=>letI a:=x.2.1.2.2;letI c:=x.2.2;letI g:=a.2.2;FO x.1.2.2.2.1 x.1.2.2.2.2.1 x.1.2.2.2.2.2.1 x.2.1.1 x.2.1.2.1 a.1 a.2.1 g.1 g.2.1 g.2.2.1 g.2.2.2.1 c.1.1 c.1.2.1 c.1.2.2.1 c.1.2.2.2.1 c.2.1.1 c.2.1.2.1) vs.length (λi (s:Int×Int)=>(((),(),(),vs,vs.length,i,()),(b.tup,m.tup,(s.1,s.2,()),()))) _ (λ_ _=>True) _ (λi s hi _=>⟨by
  show FO vs _ _ b.C0 b.E0 b.J0 b.M0 b.K0 b.N0 b.O0 b.B0 m.F0 m.L0 m.H0 m.A0 s.1 s.2=_;unfold FO;rw[show View.mk J J J J 0 0 0 0 0 0 0 0=noV from rfl];have z:=DZ s<|MG b<|vs.getD i noV;simp only[Z (ω:i<(vs.length:Int)),Ac ω (ω:(i:Int)<vs.length),l_,Sq hb hcode,c_,z,FJ hi (by unfold Df;omega)];rfl,trivial⟩) (λs _=>by
  show FO vs _ _ b.C0 b.E0 b.J0 b.M0 b.K0 b.N0 b.O0 b.B0 m.F0 m.L0 m.H0 m.A0 s.1 s.2=_;unfold FO;simp only[d_<|a0_ _];rfl) vs.length 0 (0,0) ω trivial
 have o:Jy (((),(),(),vs,vs.length,0,()),(b.tup,m.tup,(0,0,()),()))=_:=Aj h0.1 ω;have j:∀f d,BP _ f d=vs.any λv=>BP _ f d:=λf d=>by rw[Aot b vs vs.length 0 (0,0) ω,Vj,Bool.false_or,d3_]
 generalize Bd (λi s=>FH s _) vs.length 0 (0,0)=u at o j;have h1:=BN (step:=λx=>FP x.1.2.1 x.1.2.2.1 x.1.2.2.2.1 x.1.2.2.2.2.1 x.2.1.1 x.2.1.2.1) m.A0.length (λi (out:List aG)=>(((),out,m.A0,m.A0.length,i,()),((u.1,u.2,()),()))) (λi out=>out++(bif VM b vs (m.A0.getD i V).D0 (m.A0.getD i V).I0 then [aY 2 (m.A0.getD i V).D0 (m.A0.getD i V).I0 0 0]else [])) (λi out=>out.length<=i) (λout=>((out,()),())) (λi out hi P=>by
  have q:=Ao8 hb (FT.1<|hm.en _<|AE V hi).1;refine⟨?_,?_⟩
  .show FP out m.A0 (m.A0.length:Int) (i:Int) u.1 u.2=_;unfold FP;rw[show aX 0 0 0 0 J=V from rfl];simp only[Z (ω:i<(m.A0.length:Int)),Ac ω (ω:(i:Int)<m.A0.length),l_,Pn u q.1 q.2,FJ hi (by unfold Df;omega),j];rw[Am (by show out.length+1<=_;omega)];unfold VM;cases vs.any λv=>BP _ (m.A0.getD i V).D0.toNat (m.A0.getD i V).I0
   .simp
   .rfl
  .rw[e_];cases VM b vs (m.A0.getD i V).D0 (m.A0.getD i V).I0<;>simp<;>omega) (λout _=>by
  show FP out m.A0 (m.A0.length:Int) (m.A0.length:Int) u.1 u.2=_;unfold FP;simp only[d_<|a0_ _,g_]) m.A0.length 0 [] ω σ
 have p:=Aj h1.1 ω;rw[Mg,PD (λe=>bif VM b vs e.D0 e.I0 then [aY 2 e.D0 e.I0 0 0]else []) V m.A0 0 m.A0.length ω]at p;unfold Lv;rw[CV hb m ω ω,Img.ok_iff.2 hm];rw[show(vs.length !=(b.B0.length:Int))=J by rw[hv,P_]];simp only[Bldg.tup,Img.tup]at o;simp only[ o,c_];rw[show Jz (((),([]:List aG),m.A0,m.A0.length,0,()),((u.1,u.2,()),()))=_ from p];rfl
end
def xsV(E:List aA)(xs:List Int)(r:aG):List Int:=
 bif(r.R0==2)&&FX (BK r.D0 r.I0) E then xs.take (Bg (BK r.D0 r.I0) E)++xs.drop (Bg (BK r.D0 r.I0) E+1)
 else bif(r.R0==1)&&!FX (BK r.D0 r.I0) E then xs.take (Bg (BK r.D0 r.I0) E)++[0]++xs.drop (Bg (BK r.D0 r.I0) E)
 else xs
def Bge(E:List aA)(xs:List Int)(F D:Int):Int:=bif FX (BK F D) E then xs.getD (Bg (BK F D) E) 0 else 0
def Yv(E:List aA)(xs:List Int)(e:aA):Int:=Bge E xs e.D0 e.I0
def Aqp(e:aA):isC e.D0 e.I0 e=B:=by unfold isC;simp
def Au8(o:Bo E)(hi:i<E.length):Bg (E.getD i V) E=i:=by
 have hp:=Ec.1 o;rcases Nat.lt_trichotomy (Bg (E.getD i V) E) i with h|h|h
 .have h1:=Aj5 o (Bg (E.getD i V) E) (q_ _) ω;have a:Bv (E.getD (Bg (E.getD i V) E) V) (E.getD i V)=B:=by
   generalize Bg _ E=p at h;have q:∀j _,E.getD j V=E[j]:=λj u=>by simp[k_,u]
   rw[q p ω,q i hi];exact b0_.1 hp p i ω hi h
  rw[h1]at a;cases a
 .exact h
 .have h1:=Aj6 _ E i h;have a:=(Yn<|Aqp<|E.getD i V).1;rw[h1]at a;cases a
def Bj4(a:Bo E)(hi:i<E.length):FX (BK (E.getD i V).D0 (E.getD i V).I0) E=B:=by unfold FX;rw[UC,Au8 a hi,a_];exact⟨Eq.mpr d9_ hi,Aqp _⟩
def Au7(a:Bo E)(xs:List Int)(hi:i<E.length):Yv E xs (E.getD i V)=xs.getD i 0:=by unfold Yv Bge;rw[Bj4 a hi,UC,Au8 a hi];rfl
def Ap6{a b:List α}(d:α)(hl:a.length=b.length)(h:∀i,i<a.length->a.getD i d=b.getD i d):a=b:=by
 refine List.ext_getElem hl λi h1 j=>?_
 have:=h i h1
 simpa[k_,h1,j]using this
def Bf6{β:Type}(f:α->β){l:List α}(hi:i<l.length)(d:α)(a:β):(l.map f).getD i a=f (l.getD i d):=by simp[k_,hi]
def Bkf(a:Bo E)(hl:xs.length=E.length):E.map (Yv E xs)=xs:=by refine Ap6 0 (by rw[a3_,hl]) λi hi=>?_;rw[a3_]at hi;rw[Bf6 _ hi V,Au7 a xs hi]
def Ary{l:List α}{a:α}(d:α)(h:a=l.getD k d):l.set k a=l:=by
 by_cases o:k<l.length
 .refine Ap6 d (z_ ..) λi hi=>?_;by_cases j:k=i
  .subst j;rw[h];simp[k_,o]
  .simp[k_,j]
 .rw[List.set_eq_of_length_le ω]
def Auv{c:aA}{l:List aA}(h:FX c l=B):Bg c l<l.length/\isC c.D0 c.I0 (l.getD (Bg c l) V)=B:=by unfold FX at h;rw[a_]at h;exact⟨Eq.mp d9_ h.1,h.2⟩
def Bdh(w:Bo m.A0)(hl:xs.length=m.A0.length)(r:aG):xsV m.A0 xs r=(AA m r).A0.map (Yv m.A0 xs):=by
 have a:=Bkf w hl;have u:=RA (c:=BK r.D0 r.I0) 0 w;rw[m_]at u;have q:DN r.D0 r.I0 m.A0 0=_:=u;unfold AA xsV;by_cases k4:r.R0=4
 .rw[k4];exact a.symm
 by_cases y:r.R0=5
 .rw[y];exact a.symm
 by_cases N:r.R0=6
 .rw[N];exact a.symm
 rw[At k4,At y,At N,q];cases hh:FX _ m.A0 with
 |false=>
  simp only[g_,d4_,bB,f8_];cases k1:r.R0==1 with
  |false=>exact a.symm
  |true=>
   simp only[h_];show _=(Hq _ J m.A0).map _;have o:=Alk w hh;rw[Aem (c:=aX r.D0 r.I0 (-1) 0 J) (λx hx=>o x hx)];have hp:=(UC (aX r.D0 r.I0 (-1) 0 J) m.A0).symm;have Q:Yv m.A0 xs (aX r.D0 r.I0 (-1) 0 J)=0:=by unfold Yv Bge;rw[hh];rfl
   rw[hp,List.map_append,List.map_append,List.map_take,List.map_drop,a,List.map_singleton,Q]
 |true=>
  obtain⟨z,P⟩:=Auv hh;simp only[h_,f8_,W_,d4_];generalize Bg _ m.A0=p at z P|-;have j:∀v:aA,v.D0=(m.A0.getD p V).D0->v.I0=(m.A0.getD p V).I0->(m.A0.set p v).map _=xs:=λv h1 S=>by
   rw[List.map_set,a];refine Ary 0 ?_
   have:Yv m.A0 xs v=Yv m.A0 xs (m.A0.getD p V):=by unfold Yv;rw[h1,S]
   rw[this,Au7 w xs z]
  cases k2:r.R0==2 with
  |true=>simp only[h_];show _=(m.A0.take p++m.A0.drop (p+1)).map _;rw[List.map_append,List.map_take,List.map_drop,a]
  |false=>
   cases X:r.R0==3 with
   |true=>exact(j (Ahx _ r.S0) rfl rfl).symm
   |false=>
    cases Y:r.R0==7 with
    |true=>exact(j (UI _ r.M2 r.S0) rfl rfl).symm
    |false=>exact a.symm
def Bk3(a:Bo m.A0)(hl:xs.length=m.A0.length)(r:aG):(xsV m.A0 xs r).length=(AA m r).A0.length:=by rw[Bdh a hl,a3_]
def xsL:aH->List Int->List aG->List Int
 |_,xs,[]=>xs
 |m,xs,r::t=>xsL (AA m r) (xsV m.A0 xs r) t
def Axt(e:aA)(F D:Int):IL e.D0 e.I0 e.S0 e.H1 e.Z1 F D=R ((!Bv e (BK F D),()),((F,()),(D,()),())):=by
 unfold IL Bv BK;by_cases h1:F<e.D0
 .rw[Z h1,d_ (ω:¬e.D0<F),At ω];rfl
 .rw[d_ h1];by_cases a:e.D0=F
  .rw[a,d_<|a0_ F,p_];by_cases j:e.I0<D
   .rw[Z j,d_ ω];rfl
   .rw[d_ j,Z ω];rfl
  .rw[At a,Z (ω:e.D0<F)];rfl
def Ahl(E:List aA)(hl:E.length<=100000)(F D:Int):∀(k i:Nat),i+k=E.length->iter (λx=>Ao x.1.1 x.1.2.2.1 x.1.2.2.2.1 x.2.1.1 x.2.2.1.1) (k+1) ((E,(),(E.length:Int),(i:Int),()),((F,()),(D,()),()))=R (bif Nat.blt (i+Bg (BK F D) (E.drop i)) E.length then .inr ((((i+Bg (BK F D) (E.drop i):Nat):Int),()),((F,()),(D,()),()))else .inl ((),((F,()),(D,()),())))
 |0,i,hi=>by
  obtain rfl:i=E.length:=ω;refine Ax ?_;show Ao E (E.length:Int) (E.length:Int) F D=_;unfold Ao;rw[d_<|a0_ _,b1_]
  have:Nat.blt (E.length+Bg (BK F D) []) E.length=J:=by
   cases h:Nat.blt _ E.length with
   |false=>rfl
   |true=>have:=Eq.mp d9_ h;omega
  rw[this];rfl
 |k+1,i,hi=>by
  have a:i<E.length:=ω;have j:Ao E E.length i F D=R (bif Bv (E.getD i V) (BK F D)then .inl ((E,(),E.length,((i+1:Nat):Int),()),((F,()),(D,()),()))else .inr (.inr ((i,()),((F,()),(D,()),())))):=by unfold Ao;rw[show aX 0 0 0 0 J=V from rfl];simp only[Z (ω:i<(E.length:Int)),Ac ω (ω:(i:Int)<E.length),l_,Axt,FJ a (by unfold Df;omega)];cases Bv _ _<;>rfl
  have o:=BS V a;rw[o];simp only[Bg];cases hq:Bv _ _ with
  |true=>rw[hq]at j;refine(Aq j).trans ?_;rw[Ahl E hl F D k (i+1) ω,h_,show i+1+Bg _ _=i+(Bg (BK F D) (E.drop<|i+1)+1)by omega]
  |false=>rw[hq]at j;refine(Ax j).trans ?_;rw[g_,d0_,show Nat.blt i E.length=B from Eq.mpr d9_ a];rfl
def Acp(m:aH)(hl:m.A0.length<=100000)(F D:Int):Kq m.F0 m.L0 m.H0 m.A0 F D=R ((((Bg (BK F D) m.A0:Nat):Int),FX (BK F D) m.A0,()),()):=by
 have h:=Ahl m.A0 hl F D m.A0.length 0 ω;have h':=Aj h ω;rw[d3_,m_]at h';have j:=Xa (BK F D) m.A0;unfold Kq Bt FX;rw[show Bk ((m.A0,(),m.A0.length,0,()),((F,()),(D,()),()))=_ from h'];cases hq:Nat.blt _ m.A0.length with
 |false=>
  have a:m.A0.length<=Bg (BK F D) m.A0:=by
   rcases f2_ _ m.A0.length with g|g
   .rw[Eq.mpr d9_ g]at hq;cases hq
   .exact g
  rw[show Bg _ m.A0=m.A0.length by omega];rfl
 |true=>have o:=Eq.mp d9_ hq;simp only[h_,c_];simp only[ Ac ω (ω:((Bg (BK F D) m.A0:Nat):Int)<m.A0.length),h_,l_];rw[show aX 0 0 0 0 J=V from rfl];show bG _ _=R ((_,B&&((m.A0.getD _ V).D0==F&&(m.A0.getD _ V).I0==D),()),());cases(m.A0.getD _ V).D0==F<;>rfl
structure Rnd where
 recs:List Record
 img:Img
 xs:List Int
 lan:Lan
 ref:Int×Int
def Rnd.tup(r:Rnd):List aG×List Int×List Bool×List Bool×List aA×List Int×List aS×List Bool×Int×Int×Int×Int×Unit:=(r.recs,r.img.F0,r.img.L0,r.img.H0,r.img.A0,r.xs,r.lan.lit,r.lan.gong,r.lan.cl.1,r.lan.cl.2,r.ref.1,r.ref.2,())
def Rnd.tupB(b:O)(r:Rnd):List aG×List Int×List Bool×List Bool×List aA×List Int×List aS×List Bool×Int×Int×Int×Int×Int×Int×Int×Int×Nat×Nat×Nat×List Car×Unit:=(r.recs,r.img.F0,r.img.L0,r.img.H0,r.img.A0,r.xs,r.lan.lit,r.lan.gong,r.lan.cl.1,r.lan.cl.2,r.ref.1,r.ref.2,b.C0,b.E0,b.J0,b.M0,b.K0,b.N0,b.O0,b.B0,())
structure Rnd.ok(b:Bldg)(r:Rnd):Prop where
 img:ImgOK b r.img
 len:r.xs.length=r.img.A0.length
def LJ:aG:=aY 0 0 0 0 0
def VN(r:aG)(X:Rnd):Rnd:=⟨X.recs++[r],AA X.img r,xsV X.img.A0 X.xs r,X.lan,X.ref⟩
def wrL(l:List aG)(X:Rnd):Rnd:=⟨X.recs++l,Aw X.img l,xsL X.img X.xs l,X.lan,X.ref⟩
def YS(r:aG)(l:List aG)(X:Rnd):wrL (r::l) X=wrL l (VN r X):=by unfold wrL VN;simp only[G_];rfl
def YK{X:Rnd}(h:X.ok b)(hv:Ar b r=B):(VN r X).ok b:=⟨(Kk h.img hv).1,Bk3 h.img.so h.len r⟩
def Asp{b:O}:∀{l:List aG}{X:Rnd},X.ok b->(∀r∈l,Ar b r=B)->(wrL l X).ok b
 |[],X,h,_=>by unfold wrL;exact⟨h.img,h.len⟩
 |r::t,X,h,hv=>by rw[YS];exact Asp (YK h<|hv r<|H_ ..) λx hx=>hv x<|L_ _ hx
def Bn1(h:k<xs.length)(hl:xs.length<=100000):EC xs (k:Int) (H U<|(k:Int)+1)=R ((xs.take k++xs.drop (k+1),()),()):=by unfold EC Apw;rw[Aa ω ω,Z (ω:(k:Int)<(k:Int)+1),Z (ω:(k:Int)+1<=(xs.length:Int)),l_];rfl
def Bom(h:k<=xs.length)(hl:xs.length<=100000):ED xs (k:Int) [0]=R ((xs.take k++[0]++xs.drop k,()),()):=by unfold ED Ajp;rw[ Z (ω:(k:Int)<=(xs.length:Int)),Am (by show xs.length+1<=_;omega)];rfl
section
variable{b:O}(hb:b.small)(hcode:b.code=0)
include hb hcode
omit hcode in
theorem DH(hm:ImgOK b m):m.A0.length<=14:=by
 have:=Bjv hb hm
 have:=hb.hi
 omega
theorem Ayu{X:Rnd}(w:X.ok b)(hl:l.length<=100000)(hi:i<l.length)(hv:Ar b (l.getD i LJ)=B)(Y:X.recs.length<=1000000):BG l (l.length:Int) (i:Int) X.recs X.img.F0 X.img.L0 X.img.H0 X.img.A0 X.xs X.lan.lit X.lan.gong X.lan.cl.1 X.lan.cl.2 X.ref.1 X.ref.2 b.C0 b.E0 b.J0 b.M0 b.K0 b.N0 b.O0 b.B0=R (.inl (((),l,(l.length:Int),((i+1:Nat):Int),()),((VN (l.getD i LJ) X).tupB b,()))):=by
 have S:=Ag hcode;have he:=DH hb w.img;have N:=w.img.lp;have P:=w.len;have Q:=Xa (BK (l.getD i LJ).D0 (l.getD i LJ).I0) X.img.A0;have u:=Aao hb ω X.img ω ω<|l.getD i LJ;have y:ZG b X.img (l.getD i LJ)=(((),0,()),((AA X.img<|l.getD i LJ).tup,())):=by unfold ZG;rw[Img.ok_iff.2 w.img,hv];rfl
 rw[y]at u;unfold BG;rw[show aY 0 0 0 0 0=LJ from rfl];simp only[Z (ω:i<(l.length:Int)),Ac ω (ω:(i:Int)<l.length),l_];rw[Acp X.img ω];generalize l.getD i LJ=r at*;have p:Nat.ble (X.recs.length+[aY r.R0 r.D0 r.I0 r.S0 r.M2].length) 2147483648=B:=Am (by show X.recs.length+1<=_;omega);have v:=FJ hi (by unfold Df;omega);have o:∀q,xsV X.img.A0 X.xs r=q->(VN r X).tupB b=(X.recs++[aY r.R0 r.D0 r.I0 r.S0 r.M2],(AA X.img r).F0,(AA X.img r).L0,(AA X.img r).H0,(AA X.img r).A0,q,X.lan.lit,X.lan.gong,X.lan.cl.1,X.lan.cl.2,X.ref.1,X.ref.2,b.C0,b.E0,b.J0,b.M0,b.K0,b.N0,b.O0,b.B0,()):=λq h=>by rw[<-h];rfl
 by_cases z:r.R0=2
 .have k1:(r.R0==1)=J:=At ω;have a:(r.R0==2)=B:=by rw[z];rfl
  cases hf:FX _ X.img.A0 with
  |true=>rw[o _ (show _=X.xs.take _++X.xs.drop _ by unfold xsV;rw[a,hf];rfl)];have hp:=(Auv hf).1;simp only[a,h_,c_,Bn1 (ω:Bg (BK r.D0 r.I0) X.img.A0<X.xs.length) ω];rw[u];simp only[ p,v];rfl
  |false=>rw[o X.xs (by unfold xsV;rw[hf,k1,d4_];rfl)];simp only[a,k1,h_,g_,c_];rw[u];simp only[ p,v];rfl
 .have a:(r.R0==2)=J:=At z;by_cases k1:r.R0=1
  .have j:(r.R0==1)=B:=by rw[k1];rfl
   cases hf:FX _ X.img.A0 with
   |false=>rw[o _ (show _=X.xs.take _++[0]++X.xs.drop _ by unfold xsV;rw[a,j,hf];rfl)];simp only[a,j,h_,g_,c_,bB,Bom (ω:Bg (BK r.D0 r.I0) X.img.A0<=X.xs.length) ω];rw[u];simp only[ p,v];rfl
   |true=>rw[o X.xs (by unfold xsV;rw[hf,a,W_,d4_];rfl)];simp only[a,j,h_,g_,c_,W_];rw[u];simp only[ p,v];rfl
  .have j:(r.R0==1)=J:=At k1;rw[o X.xs (by unfold xsV;rw[a,j,e2_];rfl)];simp only[a,j,g_,c_];rw[u];simp only[ p,v];rfl
theorem Afm{X:Rnd}(v:X.ok b)(hl:l.length<=100000)(hv:∀r∈l,Ar b r=B)(w:X.recs.length<=100000):Bq l X.recs X.img.F0 X.img.L0 X.img.H0 X.img.A0 X.xs X.lan.lit X.lan.gong X.lan.cl.1 X.lan.cl.2 X.ref.1 X.ref.2 b.C0 b.E0 b.J0 b.M0 b.K0 b.N0 b.O0 b.B0=R ((),((wrL l X).tupB b,())):=by
 have p:∀(k i:Nat) (Y:Rnd),i+k=l.length->Y.ok b->Y.recs.length<=100000+i->iter (λx=>letI d:=x.2.1.2.2.2;letI f:=d.2.2;letI a:=f.2.2.2;letI g:=a.2.2;letI c:=g.2.2.2;letI e:=c.2.2;BG x.1.2.1 x.1.2.2.1 x.1.2.2.2.1 x.2.1.1 x.2.1.2.1 x.2.1.2.2.1 d.1 d.2.1 f.1 f.2.1 f.2.2.1 a.1 a.2.1 g.1 g.2.1 g.2.2.1 c.1 c.2.1 e.1 e.2.1 e.2.2.1 e.2.2.2.1 e.2.2.2.2.1) (k+1) (((),l,l.length,i,()),(Y.tupB b,()))=R ((),((wrL (l.drop i) Y).tupB b,())):=by
  intro k;induction k with
  |zero=>intro i Y hi _ _;obtain rfl:i=l.length:=ω;refine Ax ?_;show BG l (l.length:Int) (l.length:Int) Y.recs Y.img.F0 Y.img.L0 Y.img.H0 Y.img.A0 Y.xs Y.lan.lit Y.lan.gong Y.lan.cl.1 Y.lan.cl.2 Y.ref.1 Y.ref.2 b.C0 b.E0 b.J0 b.M0 b.K0 b.N0 b.O0 b.B0=_;unfold BG;rw[d_<|a0_ _,b1_];unfold wrL;rw[T_];rfl
  |succ k u=>intro i Y hi q w;have j:i<l.length:=ω;have o:=hv _<|AE LJ j;rw[BS LJ j,YS];exact(Aq<|Ayu hb hcode q hl j o ω).trans<|u (i+1) _ ω (YK q o) (by show(Y.recs++[_]).length<=_;rw[e_,D_];omega)
 have h:=p l.length 0 X ω v ω;have h':Du _=_:=Aj h ω;unfold Bq;rw[show Du (((),l,l.length,0,()),((X.recs,X.img.F0,X.img.L0,X.img.H0,X.img.A0,X.xs,X.lan.lit,X.lan.gong,X.lan.cl.1,X.lan.cl.2,X.ref.1,X.ref.2,b.C0,b.E0,b.J0,b.M0,b.K0,b.N0,b.O0,b.B0,()),()))=_ from h'];rfl
end
def ZZ{F D:Int}{e:aA}(he:isC F D e=B)(T:List aA):∀(P:List aA) (i:Nat),(∀p∈P,isC F D p=J)->DN F D (P++e::T) i=((i+P.length:Nat):Int)
 |[],i,_=>by simp only[c5_,DN,he,h_,c6_,d0_]
 |p::P,i,h=>by simp only[bJ,DN,h p<|H_ ..,g_];rw[ZZ he T P (i+1) λx hx=>h x<|L_ _ hx,s_];congr 1;omega
def Aye{P T:List aA}(h:Bo<|P++e::T):∀p∈P,isC e.D0 e.I0 p=J:=by intro p hp;rw[Ec]at h;have a:=(List.pairwise_append.1 h).2.2 p hp e<|H_ ..;rw[Hw]at a;unfold isC;simp only[Bool.and_eq_false_iff,beq_eq_false_iff_ne];omega
def Aqf(P T:List aA)(e:aA):(P++e::T).getD P.length V=e:=by simp[k_]
def XC(e:aA):isC e.D0 e.I0 e=B:=by unfold isC;simp
def Asx{P T:List aA}(a:m.A0=P++e::T)(j:∀p∈P,isC e.D0 e.I0 p=J)(n c:Int):AA m ⟨7,e.D0,e.I0,c,n⟩=m.put (P++UI e n c::T):=by
 unfold AA;have hf:DN e.D0 e.I0 m.A0 0=P.length:=by rw[a,ZZ (XC e) T P 0 j,m_]
 simp only[hf];rw[ a,l_,Aqf,Xe,Xe];rfl
def Aku{P T:List aA}(a:m.A0=P++e::T)(j:∀p∈P,isC e.D0 e.I0 p=J)(c:Int):AA m ⟨3,e.D0,e.I0,c,0⟩=m.put (P++Ahx e c::T):=by
 unfold AA;have hf:DN e.D0 e.I0 m.A0 0=P.length:=by rw[a,ZZ (XC e) T P 0 j,m_]
 simp only[hf];rw[ a,l_,Aqf,Xe];rfl
def Img.put_put(m:aH)(l a:List aA):(m.put l).put a=m.put a:=rfl
def Img.put_self(m:aH):m.put m.A0=m:=rfl
def Av3{P T:List aA}{n:aA}(z:m.A0=P++e::T)(u:∀p∈P,isC e.D0 e.I0 p=J)(X:n.D0=e.D0)(hD:n.I0=e.I0):Aw m (PF e n)=m.put (P++n::T):=by
 obtain⟨w,v,o,q,j⟩:=n;obtain⟨eF,eD,a,Q,N⟩:=e;subst X hD;unfold PF;have S:∀c:Int,UI ⟨w,v,a,Q,N⟩ q c=⟨w,v,a,q,c==1⟩:=λ_=>rfl;have Y:((bif j then(1:Int)else 0)==1)=j:=by cases j<;>rfl
 cases hp:(Q !=q||!(N==j))with
 |true=>
  have h1:=Asx z u q<|bif j then 1 else 0;rw[S,Y]at h1;cases hq:a !=o with
  |true=>have y:=Aku (m:=m.put _) (T:=T) (e:=⟨w,v,a,q,j⟩) rfl u o;simp only[h_,bJ,c5_,Aw];rw[h1,y];rfl
  |false=>
   have:a=o:=by simpa[bne]using hq
   subst this;exact h1
 |false=>
  simp only[Bool.or_eq_false_iff,bH,bne_eq_false_iff_eq,a1_]at hp;obtain⟨rfl,rfl⟩:=hp;cases hq:a !=o with
  |true=>have y:=Aku z u o;exact y
  |false=>
   have:a=o:=by simpa[bne]using hq
   subst this;rw[<-z];exact(Img.put_self m).symm
def Ax1{n:aA}(hcode:b.code=0)(a:Au b n.D0 n.I0=B)(o:-2<=n.S0/\n.S0<(b.B0.length:Int))(hm:0<=n.H1/\n.H1<=255):∀r∈PF e n,Ar b r=B:=by
 intro r j;rcases n_.1 j with h|h
 .cases hp:(e.H1 !=n.H1||!(e.Z1==n.Z1))with
  |false=>rw[hp]at h;cases h
  |true=>rw[hp]at h;rw[E_.1 h];unfold Ar;rw[hcode,a,Ah.2 hm];cases n.Z1<;>rfl
 .cases hp:e.S0 !=n.S0 with
  |false=>rw[hp]at h;cases h
  |true=>rw[hp]at h;rw[E_.1 h];unfold Ar;rw[hcode,a,Ah.2 ⟨o.1,show n.S0<=b.B0.length-1 by omega⟩];rfl
noncomputable def Wg(b:O)(vs:List aC):List aA->List Int->List aA
 |e::t,x::xs=>Gw b vs e x::Wg b vs t xs
 |_,_=>[]
def Apu(b:O)(vs:List aC):∀(l:List aA) (xs:List Int),xs.length=l.length->(Wg b vs l xs).length=l.length
 |[],_,_=>by simp[Wg]
 |_::_,[],h=>by simp at h
 |e::t,x::xs,h=>by simp only[Wg,s_,Apu b vs t xs (by simpa using h)]
def Awy(a:b.B0.length<=100)(hm:0<=e.H1/\e.H1<=255)(x:Int):0<=(Gw b vs e x).H1/\(Gw b vs e x).H1<=255:=by
 unfold Gw;cases e.S0==-2 with
 |true=>exact hm
 |false=>
  cases e.S0==-1 with
  |true=>exact hm
  |false=>
   cases(As vs e.S0).E4 with
   |true=>
    by_cases g:b.B0.length<e.H1
    .rw[Z g];exact hm
    .rw[d_ g];exact⟨by show 0<=e.H1+1;omega,by show e.H1+1<=255;omega⟩
   |false=>
    by_cases g:e.H1<=b.B0.length
    .rw[Z g];cases e.Z1 with
     |true=>exact hm
     |false=>
      cases Nm b vs e x != -1 with
      |true=>exact⟨by show 0<=e.H1+1;omega,by show e.H1+1<=255;omega⟩
      |false=>exact hm
    .rw[d_ g,d4_];exact hm
def YA{b:O}(Q:b.B0.length<=100){vs:List aC}(hlen:(vs.length:Int)=(b.B0.length:Int)):∀(T:List aA) (xs:List Int) (P:List aA) (m:aH),xs.length=T.length->ImgOK b m->m.A0=P++T->Aw m (Ht b vs T xs)=m.put (P++Wg b vs T xs)/\(∀r∈Ht b vs T xs,Ar b r=B)/\ImgOK b (m.put<|P++Wg b vs T xs)
 |[],xs,P,m,_,hm,q=>by
  have:Wg b vs [] xs=[]:=by simp[Wg]
  have h2:Ht b vs [] xs=[]:=by simp[Ht]
  rw[this,h2,<-q];exact⟨rfl,(λ_ h=>by cases h),hm⟩
 |_::_,[],_,_,h,_,_=>by simp at h
 |e::T,x::xs,P,m,h,hm,q=>by
  have a:=FT.1<|hm.en e (by rw[q];simp);have o:=hm.so;rw[q]at o;have S:=Aye o;obtain⟨c1,N⟩:=Ba0 b vs e x;have hin:=Aui b (vs:=vs) (e:=e) ω x;have z:=Awy Q (vs:=vs) a.2.2 x;have j:=Ax1 (e:=e) hm.code (by rw[c1,N];exact a.1) ω z;have p:=Av3 q S c1 N;have w:ImgOK b<|m.put<|P++Gw b vs e x::T:=by rw[<-p];exact(ZF hm j).1
  obtain⟨g1,Y,g3⟩:=YA Q hlen T xs (P++[Gw b vs e x]) _ (by simpa using h) w (by simp[Img.put]);simp only[Ht,Wg];have y:∀(rs v:List aG) (m:aH),Aw m (rs++v)=Aw (Aw m rs) v:=λrs=>by
   induction rs with
   |nil=>intro _ _;rfl
   |cons r rs X=>intro v m;exact X v _
  rw[y,p,g1,Img.put_put];simp only[G_,bK]at g3|-;exact⟨trivial,(λr u=>by
   rcases n_.1 u with u|u
   .exact j r u
   .exact Y r u),g3⟩
def Ac5{l:List aA}(hl:l.length<=100000):Ss l=R (((),()),(((ofC l (0,0)).1,(ofC l (0,0)).2,()),())):=by
 have p:∀(k i:Nat) (c:Int×Int),i+k=l.length->iter (λx=>JP x.1.2.2.1 x.1.2.2.2.1 x.1.2.2.2.2.1 x.2.1.1 x.2.1.2.1 x.2.2.1.1 x.2.2.1.2.1) (k+1) (((),(),l,l.length,i,()),((0,0,()),(c.1,c.2,()),()))=R (((),(),()),((0,0,()),((ofC (l.drop i) c).1,(ofC (l.drop i) c).2,()),())):=by
  intro k;induction k with
  |zero=>intro i c hi;obtain rfl:i=l.length:=ω;refine Ax ?_;show JP l (l.length:Int) (l.length:Int) 0 0 c.1 c.2=_;unfold JP;rw[d_<|a0_ _,b1_];rfl
  |succ k j=>intro i c hi;have a:i<l.length:=ω;rw[BS V a];refine(Aq (x':=(((),(),l,(l.length:Int),((i+1:Nat):Int),()),((0,0,()),((FH c _).1,(FH c _).2,()),()))) ?_).trans<|j (i+1) _ ω;show JP l (l.length:Int) (i:Int) 0 0 c.1 c.2=_;unfold JP;rw[show aX 0 0 0 0 J=V from rfl];have o:=DZ c<|Qs (l.getD i V).D0 (l.getD i V).I0;simp only[Z (ω:i<(l.length:Int)),Ac ω (ω:(i:Int)<l.length),h_,l_,GO,c_,o,FJ a (by unfold Df;omega)]
 have h:=p l.length 0 (0,0) ω;have h':TD (((),(),l,l.length,0,()),((0,0,()),(0,0,()),()))=_:=Aj h ω;unfold Ss;rw[h'];rfl
def Aru(e:aA):aG:=aY 1 e.D0 e.I0 0 0
def QW(b:O)(e:aA)(X:Rnd):Rnd:=bif QT b X.img then VN (Aru e) X else⟨X.recs,X.img,X.xs,X.lan,FH X.ref<|Qs e.D0 e.I0⟩
def Mk(b:O):List aA->Rnd->Rnd
 |[],X=>X
 |e::t,X=>Mk b t<|QW b e X
def Bqr(r:aG)(X:Rnd):wrL [r] X=VN r X:=by rw[YS];unfold wrL;rw[T_];rfl
def Aa6(h:Au b e.D0 e.I0=B):Ar b (Aru e)=B:=by
 have a:(b.code==0)=B:=by unfold Au at h;rw[a_]at h;exact h.1
 unfold Ar Aru;rw[a];simp only[p_,h_,h,c7_]
def Ar7{X:Rnd}(h:X.ok b)(he:Au b e.D0 e.I0=B):(QW b e X).ok b:=by
 unfold QW;cases QT b X.img with
 |true=>exact YK h<|Aa6 he
 |false=>exact⟨h.img,h.len⟩
def Ava{b:O}:∀{l:List aA}{X:Rnd},X.ok b->(∀e∈l,Au b e.D0 e.I0=B)->(Mk b l X).ok b
 |[],_,h,_=>h
 |e::t,X,h,hv=>by show(Mk b t _).ok b;exact Ava (Ar7 h<|hv e<|H_ ..) λx hx=>hv x<|L_ _ hx
def Ah7(b:O)(e:aA)(X:Rnd):(QW b e X).recs.length<=X.recs.length+1:=by
 unfold QW;cases QT b X.img with
 |true=>show(X.recs++[_]).length<=_;rw[e_];exact q_ _
 |false=>exact Nat.le_succ _
def Al1(b:O):∀(l:List aA) (X:Rnd),(Mk b l X).recs.length<=X.recs.length+l.length
 |[],_=>q_ _
 |e::t,X=>by have h1:=Al1 b t<|QW b e X;have a:=Ah7 b e X;show(Mk b t _).recs.length<=_;rw[s_];omega
def Alt(c:Int×Int):(Hf c).length<=64:=by
 have h:∀k i:Nat,((List.range' i k).flatMap<|Me c).length<=2*k:=by
  intro k;induction k with
  |zero=>intro i;exact q_ _
  |succ k a=>
   intro i;rw[e0_,a2_,e_]
   have:=a<|i+1
   have:=XP c i
   omega
 exact h 32 0
def Bb5(h:e∈Hf c):(0<=e.D0/\e.D0<32)/\(e.I0=1\/e.I0=2)/\BP c e.D0.toNat e.I0=B:=by obtain⟨f,h1,j,o,a⟩:=mem_range.1<|b3_.2 ⟨e,h,rfl⟩;simp only[HZ]at j o a;refine⟨ω,o,?_⟩;rw[j];exact a
def Aqd(b:O)(m:aH)(press:Int×Int):Int×Int:=Dt (JC press<|Di b)<|ofC m.A0 (0,0)
def Yc(hb:b.small)(hcode:b.code=0){press a:Int×Int}(h:e∈Hf (Dt (JC press<|Di b) a)):Au b e.D0 e.I0=B:=by obtain⟨h1,o,j⟩:=Bb5 h;rw[SK _ _ ω,Rt,a_,a_,Uv hb hcode ω o,bI h1.1]at j;exact j.1.2
section
variable{b:O}(hb:b.small)(hcode:b.code=0)
include hb hcode
theorem Am6(hl:es.length<=1000)(hv:∀e∈es,Au b e.D0 e.I0=B):∀(k i:Nat) (Y:Rnd),i+k=es.length->Y.ok b->Y.recs.length<=1000+i->iter (λx=>letI d:=x.2.1.2.2.2;letI f:=d.2.2;letI a:=f.2.2.2;letI g:=a.2.2;letI c:=g.2.2.2;letI e:=c.2.2;Bm x.1.2.1 x.1.2.2.1 x.1.2.2.2.1 x.2.1.1 x.2.1.2.1 x.2.1.2.2.1 d.1 d.2.1 f.1 f.2.1 f.2.2.1 a.1 a.2.1 g.1 g.2.1 g.2.2.1 c.1 c.2.1 e.1 e.2.1 e.2.2.1 e.2.2.2.1 e.2.2.2.2.1) (k+1) (((),es,(es.length:Int),(i:Int),()),(Y.tupB b,()))=R ((),((Mk b (es.drop i) Y).tupB b,())):=by
 intro k;induction k with
 |zero=>intro i Y hi _ _;obtain rfl:i=es.length:=ω;refine Ax ?_;show Bm es (es.length:Int) (es.length:Int) Y.recs Y.img.F0 Y.img.L0 Y.img.H0 Y.img.A0 Y.xs Y.lan.lit Y.lan.gong Y.lan.cl.1 Y.lan.cl.2 Y.ref.1 Y.ref.2 b.C0 b.E0 b.J0 b.M0 b.K0 b.N0 b.O0 b.B0=_;unfold Bm;rw[d_<|a0_ (es.length:Int),b1_];rfl
 |succ k w=>
  intro i Y hi p u;have j:i<es.length:=ω;have o:=hv _<|AE V j;have z:=Ag hcode;have he:=DH hb p.img;have v:=p.img.lp;rw[BS V j];refine(Aq (x':=(((),es,(es.length:Int),((i+1:Nat):Int),()),((QW b (es.getD i V) Y).tupB b,()))) ?_).trans<|w (i+1) _ ω (Ar7 p o) (by have:=Ah7 b (es.getD i V) Y;omega);show Bm es (es.length:Int) (i:Int) Y.recs Y.img.F0 Y.img.L0 Y.img.H0 Y.img.A0 Y.xs Y.lan.lit Y.lan.gong Y.lan.cl.1 Y.lan.cl.2 Y.ref.1 Y.ref.2 b.C0 b.E0 b.J0 b.M0 b.K0 b.N0 b.O0 b.B0=_;unfold Bm QW;rw[show aX 0 0 0 0 J=V from rfl,Add hb Y.img ω ω ω];simp only[Z (ω:(i:Int)<(es.length:Int)),Ac (ω:(0:Int)<=(i:Int)) (ω:(i:Int)<(es.length:Int)),h_,l_,c_,FJ j (show es.length<=Df by unfold Df;omega)];cases QT b Y.img with
  |true=>have q:=Afm hb hcode p (l:=[Aru<|es.getD i V]) (by show 1<=100000;omega) (by intro r u;rw[E_.1 u];exact Aa6 o) ω;rw[Bqr]at q;unfold Aru at q;simp only[h_,q,c_];rfl
  |false=>have y:=DZ Y.ref<|Qs (es.getD i V).D0 (es.getD i V).I0;simp only[g_,GO,c_,y];rfl
theorem Atv(press a:Int×Int){X:Rnd}(j:X.ok b)(o:X.recs.length<=1000):Dg press.1 press.2 a.1 a.2 X.recs X.img.F0 X.img.L0 X.img.H0 X.img.A0 X.xs X.lan.lit X.lan.gong X.lan.cl.1 X.lan.cl.2 X.ref.1 X.ref.2 b.C0 b.E0 b.J0 b.M0 b.K0 b.N0 b.O0 b.B0=R ((),((Mk b (Hf<|Dt (JC press<|Di b) a) X).tupB b,())):=by have hl:=Alt<|Dt (JC press<|Di b) a;have h:=Am6 hb hcode (es:=Hf<|Dt (JC press _) a) ω (λe he=>Yc hb hcode he) _ 0 X (m_ _) j ω;have h':Eh (((),Hf _,((Hf _).length:Int),0,()),(X.tupB b,()))=_:=Aj h ω;unfold Dg;rw[EM hb hcode];simp only[c_];rw[Hi press _];simp only[c_];rw[HL _ a];simp only[c_];rw[Sb];simp only[c_];unfold Rnd.tupB at h';rw[h'];rfl
end
def Amu(n:Int):GU n=R ((!aI 0 1000000 n,()),()):=by
 unfold GU aI;by_cases g:n<0
 .rw[Z g,d_ (ω:¬0<=n)];rfl
 .rw[d_ g,Z (ω:0<=n)];by_cases a:1000000<n
  .rw[Z a,d_ ω];rfl
  .rw[d_ a,Z ω];rfl
def Apm(hl:xs.length<=maxLen):Bb xs=R ((!Ps xs,()),()):=by
 have hm:maxLen<=9223372036854775807:=by decide
 have q:∀(k i:Nat),i+k=xs.length->∃y,iter (λx=>Az x.1.1 x.1.2.2.1 x.1.2.2.2.1) (k+1) ((xs,(),xs.length,i,()),())=R y/\(match y with|.inl _=>(xs.drop i).all (aI 0 1000000)=B|.inr z=>0<=z.1.1/\(xs.drop i).all (aI 0 1000000)=J):=by
  intro k;induction k with
  |zero=>
   intro i hi;refine⟨.inl ((),()),Ax ?_,?_⟩
   .show Az xs (xs.length:Int) (i:Int)=_;unfold Az;rw[show decide _=J by simp;omega];rfl
   .rw[show i=xs.length by omega,b1_];rfl
  |succ k u=>
   intro i hi;have p:i<xs.length:=ω;have j:Az xs xs.length i=R (bif aI 0 1000000 (xs.getD i 0)then .inl ((xs,(),xs.length,((i+1:Nat):Int),()),())else .inr (.inr ((i,()),()))):=by
    unfold Az;have w:U.wrap (i+1)=((i+1:Nat):Int):=by rw[Aa ω ω];omega
    rw[show decide _=B by simp;omega,Ac ω ω,Amu,w];simp only[ l_];cases aI 0 1000000 _<;>rfl
   rw[BS _ p,U_];cases hq:aI 0 1000000 _ with
   |true=>rw[hq]at j;obtain⟨y,h1,a⟩:=u (i+1) ω;exact⟨y,(Aq j).trans h1,by exact a⟩
   |false=>rw[hq]at j;exact⟨_,Ax j,by show _<=(i:Int)/\_;exact⟨ω,rfl⟩⟩
 obtain⟨y,h1,a⟩:=q xs.length 0 ω;have o:BT ((xs,(),xs.length,0,()),())=R y:=Aj h1 ω;rw[d3_]at a;unfold Bb Ce Ps;rw[o];cases y with
 |inl z=>simp only at a;rw[a];rfl
 |inr z=>rw[a.2];simp only[c_];rw[Z a.1];rfl
def XM(m:aH)(hl:xs.length<=maxLen):Ii m.F0 m.L0 m.H0 m.A0 xs=R (((((xs.length:Int)==(m.A0.length:Int))&&Ps xs),()),()):=by
 unfold Ii;rw[Apm hl];cases(xs.length==(m.A0.length:Int))with
 |false=>rfl
 |true=>simp only[h_,c_,c1_,Bool.not_not]
def Ca(l:List α)(h:l.length<=100000):Lk l=R ((l,()),()):=by unfold Lk;rw[Am ω];rfl
def Bib(n:Nat):Lan:=⟨aT n noP,aT n J,(0,0)⟩
def FG(b:O)(m:aH)(xs:List Int)(vs:List aC)(ps:List aS)(press:Int×Int)(good:Bool):Rnd:=bif good then Mk b (Hf<|Aqd b m press) (wrL (Ti b vs m.A0) ⟨[],m,xs,Nl b vs ps,(0,0)⟩)else⟨[],m,xs,Bib vs.length,(0,0)⟩
noncomputable def An8(b:O)(m:aH)(xs:List Int)(vs:List aC)(ps:List aS)(press:Int×Int)(good:Bool):List aG×List Int×Int×Unit:=PB b (FG b m xs vs ps press good).img (FG b m xs vs ps press good).xs vs
noncomputable def QY(b:O)(m:aH)(xs:List Int)(vs:List aC)(ps:List aS)(press:Int×Int)(good:Bool):Rnd:={ wrL (An8 b m xs vs ps press good).1 (FG b m xs vs ps press good)with xs:=(An8 b m xs vs ps press good).2.1 }
def Wt(hcode:b.code=0)(vs:List aC):∀{l:List aA},(∀e∈l,Au b e.D0 e.I0=B)->∀r∈Ti b vs l,Ar b r=B/\r.R0=2:=λh r a=>by
 obtain⟨e,he,a⟩:=c0_.1 a;have o:=h e he;cases j:VM b vs e.D0 e.I0 with
 |false=>rw[j]at a;cases a
 |true=>rw[j]at a;rw[E_.1 a];refine⟨?_,rfl⟩;unfold Ar;rw[hcode];simp only[show((2:Int)==1)=J from rfl,g_,p_,h_,o,c7_]
def Att(hcode:b.code=0)(hm:ImgOK b m)(xs:List Int):∀r∈(PB b m xs vs).1,Ar b r=B:=by
 have o:=Ag hcode;unfold PB;rw[Img.ok_iff.2 hm];cases hq:(xs.length==(m.A0.length:Int))with
 |false=>exact λr a=>by cases a
 |true=>
  cases hv:(vs.length==(b.B0.length:Int))with
  |false=>exact λr a=>by cases a
  |true=>
   cases Ps xs with
   |false=>exact λr a=>by cases a
   |true=>
    have h1:xs.length=(m.A0.length:Int):=by simpa using hq
    have j:vs.length=(b.B0.length:Int):=by simpa using hv
    exact(YA ω j m.A0 xs [] m ω hm rfl).2.1
section
variable{b:O}(hb:b.small)(hcode:b.code=0){m:aH}(hm:ImgOK b m){xs:List Int}(hx:xs.length=m.A0.length){vs:List aC}(ps:List aS)(press:Int×Int)(good:Bool)
include hb hcode hm hx
theorem Asg:(FG b m xs vs ps press good).ok b/\(FG b m xs vs ps press good).recs.length<=100:=by
 have he:=DH hb hm;have a:∀L:Lan,Rnd.ok b ⟨[],m,xs,L,(0,0)⟩:=λL=>⟨hm,hx⟩
 cases good with
 |false=>exact⟨a _,Q_ _⟩
 |true=>have hv:=Wt hcode vs λe he=>(FT.1<|hm.en e he).1;refine⟨Ava (Asp (a _) λr j=>(hv r j).1) λe he=>Yc hb hcode he,?_⟩;have h1:=Al1 b (Hf<|Aqd b m press)<|wrL (Ti b vs m.A0) ⟨[],m,xs,Nl b vs ps,(0,0)⟩;have p:=Alt<|Aqd b m press;have q:=Abd b vs m.A0;have o:(wrL (Ti b vs m.A0) ⟨[],m,xs,Nl b vs ps,(0,0)⟩).recs.length=(Ti b vs m.A0).length:=rfl;show(Mk b _ _).recs.length<=100;omega
theorem Aea(q:Ps xs=B)(hv:okViews vs)(w:vs.length=b.B0.length)(hp:ps.length=b.B0.length):Lr b.C0 b.E0 b.J0 b.M0 b.K0 b.N0 b.O0 b.B0 m.F0 m.L0 m.H0 m.A0 xs vs ps press.1 press.2 good=R (((),0,()),((QY b m xs vs ps press good).tup,())):=by
 have S:=Ag hcode;have he:=DH hb hm;have h0:=hm.lp;have Y:=hm.lf;have h5:=hm.ll;have Q:100000<=maxLen:=by decide
 have P:∀L:Lan,Rnd.ok b ⟨[],m,xs,L,(0,0)⟩:=λL=>⟨hm,hx⟩
 obtain⟨p,h1⟩:=Asg hb hcode hm hx (vs:=vs) ps press good;have a:=Aer hb hcode vs ps ω;unfold Ag8 at a;rw[show(vs.length==(b.B0.length:Int))=B by rw[w];exact p_ _,show(ps.length==(b.B0.length:Int))=B by rw[hp];exact p_ _]at a;have h2:=DH hb p.img;have h3:=p.img.lp;have h6:=p.len;have j:=Aiu hb hv ω (FG b m xs vs ps press good).img ω ω (FG b m xs vs ps press good).xs ω;have h4:=(Bcj b (FG b m xs vs ps press good).img (FG b m xs vs ps press good).xs vs).1;have u:=Afm hb hcode p (l:=(PB b (FG b m xs vs ps press good).img (FG b m xs vs ps press good).xs vs).1) ω (Att hcode p.img _) ω;unfold Lr;rw[a];simp only[ Lan.tup];rw[CV hb m ω ω,Img.ok_iff.2 hm];rw[XM m ω,show(xs.length==(m.A0.length:Int))=B by rw[hx];exact p_ _,q];unfold MN AW AC AG Ox;rw[Ca m.F0 ω,Ca m.L0 ω,Ca m.H0 ω,Ca m.A0 ω,Ca xs ω];simp only[ c7_,Z (ω:0<=(vs.length:Int)),Z<|b8_ _,Z (ω:(vs.length:Int)<=2147483648),h_,l_];cases good with
 |false=>simp only[g_,c_];rw[show Iz b.C0 b.E0 b.J0 b.M0 b.K0 b.N0 b.O0 b.B0 m.F0 m.L0 m.H0 m.A0 xs vs=_ from j];simp only[c_];rw[show Bq (PB b (FG b m xs vs ps press J).img (FG b m xs vs ps press J).xs vs).1 [] m.F0 m.L0 m.H0 m.A0 xs (aT vs.length<|Calls.mk 0 0) (aT vs.length J) 0 0 0 0 b.C0 b.E0 b.J0 b.M0 b.K0 b.N0 b.O0 b.B0=_ from u];rfl
 |true=>have v:=Wt hcode vs λe he=>(FT.1<|hm.en e he).1;have h7:=Abd b vs m.A0;have z:=Afm hb hcode (P<|Nl b vs ps) ω (λr y=>(v r y).1)<|Q_ _;have N:=Atv hb hcode press (ofC m.A0 (0,0)) (X:=wrL _ ⟨[],m,xs,Nl b vs ps,(0,0)⟩) (Asp (P _) λr y=>(v r y).1) (by show([]++Ti b vs m.A0).length<=_;rw[c5_];omega);unfold GV;simp only[h_];rw[Aes hb hcode hm ω vs ω];simp only[c_];rw[z];simp only[c_,Ac5 (ω:m.A0.length<=100000),Rnd.tupB];rw[N];simp only[c_,Rnd.tupB];rw[show Iz b.C0 b.E0 b.J0 b.M0 b.K0 b.N0 b.O0 b.B0 (Mk b (Hf<|Dt _ _) _).img.F0 (Mk b (Hf<|Dt _ _) _).img.L0 (Mk b (Hf<|Dt _ _) _).img.H0 (Mk b (Hf<|Dt _ _) _).img.A0 (Mk b (Hf<|Dt _ _) _).xs vs=_ from j];simp only[c_];refine Eq.trans (J_ (λo=>bG o _) u) ?_;rfl
end
def Bi:CarOutput:=CarOutput.mk 0 0 J 0 0 J 0 0 J
structure Pk where
 m:Mch
 budget:Int
 e:Int
 legacy:List Bool
 shows:List Calls
 reset:List Bool
 out:Outputs
def Pk.ap{α:Type}(f:Int->Int->Int->Int->Nat->Nat->Nat->List Car->List Int->List Bool->List Bool->List aA->ByteArray->ByteArray->Int->List Debounced->List Belief->List aW->List Loaded->List Int->List aS->Int->Int->Int->Int->Int->Int->Int->List aP->Bool->Int->Int->List Bool->List aS->List Bool->Int->Int->Int->Int->Bool->Bool->Int->List CarOutput->α)(b:O)(x:Inp)(g:Bool)(t:Pk):α:=f b.C0 b.E0 b.J0 b.M0 b.K0 b.N0 b.O0 b.B0 t.m.G0.F0 t.m.G0.L0 t.m.G0.H0 t.m.G0.A0 t.m.W0.h0 t.m.W0.h1 t.m.W0.sel t.m.J1 t.m.Y0 t.m.B0 t.m.E3 t.m.K2 t.m.F4 t.m.B4 t.m.I3 t.m.V2 x.press.1 x.press.2 x.kind x.car x.cars g t.budget t.e t.legacy t.shows t.reset t.out.I6 t.out.H6 t.out.O5 t.out.H4 t.out.K6 t.out.N0 t.out.G6 t.out.B0
def Pk.tup(b:O)(x:Inp)(g:Bool)(t:Pk):=(b.C0,b.E0,b.J0,b.M0,b.K0,b.N0,b.O0,b.B0,t.m.G0.F0,t.m.G0.L0,t.m.G0.H0,t.m.G0.A0,t.m.W0.h0,t.m.W0.h1,t.m.W0.sel,t.m.J1,t.m.Y0,t.m.B0,t.m.E3,t.m.K2,t.m.F4,t.m.B4,t.m.I3,t.m.V2,x.press.1,x.press.2,x.kind,x.car,x.cars,g,t.budget,t.e,t.legacy,t.shows,t.reset,t.out.I6,t.out.H6,t.out.O5,t.out.H4,t.out.K6,t.out.N0,t.out.G6,t.out.B0,())
def Pk.wr(t:Pk)(a:aH)(s:Sto)(j e:Int):Pk:={ t with m:={ t.m with G0:=a,W0:=s },budget:=j,e:=e }
def goodL(b:O):aH->List aG->Prop
 |_,[]=>True
 |m,r::l=>Ar b r=B/\Jf b m r=J/\goodL b (AA m r) l
def goodL.app:∀{l:List aG}{m:aH}{k:List aG},goodL b m l->goodL b (Aw m l) k->goodL b m (l++k)
 |[],_,_,_,h=>h
 |_::_,_,_,⟨h1,a,j⟩,h=>⟨h1,a,j.app h⟩
def Yg{b:O}:∀{l:List aG}(m:aH),(∀r∈l,Ar b r=B/\r.R0≠1)->goodL b m l
 |[],_,_=>trivial
 |r::l,m,h=>by have h1:=h r<|H_ ..;refine⟨h1.1,?_,Yg _ λx hx=>h x<|L_ _ hx⟩;unfold Jf;rw[At h1.2];rfl
def goodL.drop:∀{l:List aG}{m:aH},goodL b m l->∀i,i<l.length->Ar b (l.getD i ⟨0,0,0,0,0⟩)=B/\Jf b (Aw m<|l.take i) (l.getD i ⟨0,0,0,0,0⟩)=J
 |[],_,_,_,h=>absurd h<|Nat.not_lt_zero _
 |_::_,_,⟨h1,a,_⟩,0,_=>⟨h1,a⟩
 |_::_,_,⟨_,_,j⟩,i+1,h=>j.drop i (by rw[s_]at h;omega)
def Asw(h:i<l.length):Aw m (l.take<|i+1)=AA (Aw m<|l.take i) (l.getD i ⟨0,0,0,0,0⟩):=by rw[List.take_succ,EF,k_,i_ h];rfl
def Axq(b:O)(s:Sto)(m:aH)(r:aG):Sto:=if(s.cur.size:Int)+6<=b.J0 then s.set s.sel (s.get s.sel++txt (Da r))else { s.set (1-s.sel) (txt<|(FF<|AA m r).flatMap Da)with sel:=1-s.sel }
def Av2{s:Sto}(o:Jst b s m)(hv:Ar b r=B)(a:Jf b m r=J){bud:Int}(p:0<=bud)(u:NI b s m r<=bud):(Qh b s m r bud).1=Axq b s m r:=by
 have q:=(Kk o.img hv).1;have w:=Alc o hv a;have j:=VL o.ok;unfold Qh;rw[Img.ok_iff.2 o.img,hv,Z o.ok,d_ ω,a];unfold NI at u;unfold FE Axq;by_cases g:s.cur.size+6<=b.J0
 .rw[if_pos g]at u;rw[if_pos g,Z ω];have v:=Afl (t:=Da r) o.ok j p (by rw[<-Ai5 j,Ia];omega);rw[Ia,if_neg ω]at v;rw[v];rfl
 .rw[if_neg g]at u;rw[if_neg g,d_ ω];rcases XH o.ok q p ω with⟨_,y⟩|⟨z,_⟩
  .rw[y];rfl
  .omega
def Ar8(b:O):Sto->aH->List aG->Sto
 |s,_,[]=>s
 |s,m,r::l=>Ar8 b (Axq b s m r) (AA m r) l
def Ar9(b:O):∀(l:List aG) (k:List aG) (s:Sto) (m:aH),Ar8 b s m (l++k)=Ar8 b (Ar8 b s m l) (Aw m l) k
 |[],_,_,_=>rfl
 |_::l,k,_,_=>Ar9 b l k _ _
def Wr(b:O)(t:Pk)(l:List aG)(o:Pk):Prop:=∃j s a e,o=t.wr j s a e/\((e=0/\j=Aw t.m.G0 l/\Jst b s j/\t.budget-600*(l.length:Int)<=a/\0<=a/\a<=t.budget/\s=Ar8 b t.m.W0 t.m.G0 l)\/(e=8/\t.budget<600*(l.length:Int)/\s.ok b.J0/\∃k,k<l.length/\CW b s=Aw t.m.G0 (l.take k)))
section
variable{b:O}(hb:b.small){x:Inp}{g:Bool}
include hb
theorem Bkh{s:Sto}(a:Jst b s m)(hv:Ar b r=B):6<=NI b s m r/\NI b s m r<=600:=by have o:=Ag a.img.code;have j:=DH hb (Kk a.img hv).1;unfold NI;split<;>omega
theorem Acf{t:Pk}(hj:Jst b t.m.W0 t.m.G0)(h0:0<=t.budget/\t.budget<9223372036854775808)(he:t.e=0)(hl:goodL b t.m.G0 l)(hn:l.length<=100000):W (t.ap (BU l) b x g) λy=>∃a,(y=.inl ((),(a.tup b x g,()))\/y=.inr ((),(a.tup b x g,())))/\Wr b t l a:=by
 have h6:=Ag hj.img.code;refine I (Q:=λy=>∃a,(y=.inl ((),(a.tup b x g,()))\/y=.inr ((),(a.tup b x g,())))/\Wr b t l a) ?_ λy hy=>?_
 .unfold Fa;refine aZ (λk z=>∃(i:Nat) (a:Pk),z=(((),l,(l.length:Int),(i:Int),()),(a.tup b x g,()))/\i+k=l.length/\Wr b t (l.take i) a) (λk z hz=>?_) l.length ⟨0,t,rfl,m_ _,t.m.G0,t.m.W0,t.budget,t.e,rfl,.inl ⟨he,rfl,hj,σ,h0.1,b8_ _,rfl⟩⟩ ω;obtain⟨i,a,rfl,hk,S,s,u,e,rfl,hw⟩:=hz;show W (Pk.ap (It l (l.length:Int) i) b x g _) _;refine C (λq=>?_) λq=>A ⟨t.wr S s u e,.inl rfl,S,s,u,e,rfl,?_⟩
  .have q:=j_ q;have hi:i<l.length:=ω;have h3:(l.take i).length=i:=by rw[v_];omega
   have p:(l.take<|i+1).length=i+1:=by rw[v_];omega
   refine aE (Ac ω q) ?_;rcases hw with⟨he,h4,j,N,v,h9,Y⟩|⟨he,N,hs,k',h8,hr⟩
   .subst he h4;obtain⟨hv,hf⟩:=hl.drop i hi;have h5:=DH hb j.img;have hp:=j.img.lp;refine bA rfl<|aN (Amv hb ω s (m:=Aw t.m.G0 _) ω ω (l.getD i ⟨0,0,0,0,0⟩) (bud:=u) ω) ?_;have w:=Cn (n:=i) ω;have h7:=Bkh hb j hv;rcases ZE hb j hv hf v with⟨c1,s',P,X⟩|⟨c1,s',P,X,c4⟩
    .have o:=Av2 j hv hf v c1;rw[P]at o;rw[P];refine A ⟨k-1,ω,i+1,t.wr _ s' (u-NI b s _ _) 0,by first|(rw[<-w];rfl)|rw[<-w],ω,_,s',_,0,rfl,.inl ⟨rfl,(Asw hi).symm,X,?_,ω,ω,?_⟩⟩
     .rw[p];omega
     .rw[List.take_succ,Ar9,<-Y,i_ hi];rw[k_,i_ hi]at o;exact o
    .rw[P];refine A ⟨k-1,ω,i+1,t.wr _ s' 0 8,by first|(rw[<-w];rfl)|rw[<-w],ω,_,s',0,8,rfl,.inr ⟨rfl,?_,X,i,ω,?_⟩⟩
     .rw[p];omega
     .rw[c4,List.take_take,d5_ ω]
   .subst he;refine aE rfl<|A ⟨t.wr S s u 8,.inr rfl,S,s,u,8,rfl,.inr ⟨rfl,?_,hs,k',ω,?_⟩⟩
    .rw[h3]at N;omega
    .rw[hr,List.take_take,d5_ ω]
  .have q:=w_ q;rw[a8_ ω]at hw;exact hw
 .obtain⟨a,h1|h1,h2⟩:=hy
  .subst h1;exact A ⟨a,.inr rfl,h2⟩
  .subst h1;exact A ⟨a,.inl rfl,h2⟩
end
end Go.Ovl
namespace Go.Ovl
open Go Go.Ab
variable{n:Int}{L:List Int}{i:Nat}
structure Contacts where
 C0:Int
 Up:Bool
 D4:Bool
 F6:Bool
 J4:Bool
def Contacts.get(c:Contacts)(i:Int):Bool:=if i=32 then c.Up else if i=33 then c.D4 else if i=34 then c.F6 else if i=35 then c.J4 else decide (0<=i/\i<32)&&Jn c.C0 i.toNat
def Contacts.set(c:Contacts)(i:Int)(a:Bool):Contacts:=
 if i=32 then { c with Up:=a }else if i=33 then { c with D4:=a }else if i=34 then { c with F6:=a }else if i=35 then { c with J4:=a }
 else if 0<=i/\i<32 then { c with C0:=YG c.C0 i.toNat a }else c
def Contacts.wf(c:Contacts):Prop:=0<=c.C0/\c.C0<4294967296
def Contacts.tup(c:Contacts):Int×Bool×Bool×Bool×Bool×Unit:=(c.C0,c.Up,c.D4,c.F6,c.J4,())
def Contacts.set_wf{c:Contacts}(h:c.wf)(i:Int)(a:Bool):(c.set i a).wf:=by
 unfold Contacts.set
 repeat(split;exact h)
 split
 .exact Ayb _ _ _
 .exact h
def Axo{i:Int}(h:0<=i)(a:i<32):i.toNat<32:=ω
def Tu(c:Contacts)(q:c.wf)(i:Int):KT c.C0 c.Up c.D4 c.F6 c.J4 i=R ((c.get i,()),()):=by
 unfold KT Contacts.get;by_cases p:i=32
 .simp[p]
 by_cases a:i=33
 .simp[a]
 by_cases j:i=34
 .simp[j]
 by_cases o:i=35
 .simp[o]
 simp only[p,a,j,o,At p,At a,At j,At o];by_cases h0:0<=i
 .by_cases h1:i<32
  .simp only[Lc];rw[Bep q<|Axo h0 h1];simp[h0,h1]
  .simp[h0,h1]
 .simp[h0]
def Adl(c:Contacts)(i:Int)(v:Bool):Nr c.C0 c.Up c.D4 c.F6 c.J4 i v=R (((),()),((c.set i v).tup,())):=by
 unfold Nr Contacts.set;by_cases p:i=32
 .simp[p,Contacts.tup]
 by_cases a:i=33
 .simp[a,Contacts.tup]
 by_cases j:i=34
 .simp[j,Contacts.tup]
 by_cases o:i=35
 .simp[o,Contacts.tup]
 simp only[p,a,j,o,f6_,At p,At a,At j,At o];by_cases h0:0<=i
 .have q:decide (0<=i)=B:=by simpa using h0
  by_cases h1:i<32
  .have u:decide (i<32)=B:=by simpa using h1
   simp only[q,u,h_,c_,Lc];rw[Bab _<|Axo h0 h1,Bpq _<|Axo h0 h1,Bcz,if_pos ⟨h0,h1⟩];cases v<;>rfl
  .have u:decide (i<32)=J:=by simpa using h1
   simp only[q,u,g_];rw[if_neg ω];rfl
 .have q:decide (0<=i)=J:=by simpa using h0
  simp only[q,g_];rw[if_neg ω];rfl
structure Deb where
 c:Contacts
 k:List Int
def Deb.no:Deb:=⟨⟨0,J,J,J,J⟩,aT 36 0⟩
def Deb.tup(s:Deb):Int×Bool×Bool×Bool×Bool×Int×Int×Int×Int×Int×Int×Int×Int×Int×Int×Int×Int×Int×Int×Int×Int×Int×Int×Int×Int×Int×Int×Int×Int×Int×Int×Int×Int×Int×Int×Int×Int×Int×Int×Int×Int×Unit:=(s.c.C0,s.c.Up,s.c.D4,s.c.F6,s.c.J4,s.k.getD 0 0,s.k.getD 1 0,s.k.getD 2 0,s.k.getD 3 0,s.k.getD 4 0,s.k.getD 5 0,s.k.getD 6 0,s.k.getD 7 0,s.k.getD 8 0,s.k.getD 9 0,s.k.getD 10 0,s.k.getD 11 0,s.k.getD 12 0,s.k.getD 13 0,s.k.getD 14 0,s.k.getD 15 0,s.k.getD 16 0,s.k.getD 17 0,s.k.getD 18 0,s.k.getD 19 0,s.k.getD 20 0,s.k.getD 21 0,s.k.getD 22 0,s.k.getD 23 0,s.k.getD 24 0,s.k.getD 25 0,s.k.getD 26 0,s.k.getD 27 0,s.k.getD 28 0,s.k.getD 29 0,s.k.getD 30 0,s.k.getD 31 0,s.k.getD 32 0,s.k.getD 33 0,s.k.getD 34 0,s.k.getD 35 0,())
def Deb.cnt(s:Deb):Int×Int×Int×Int×Int×Int×Int×Int×Int×Int×Int×Int×Int×Int×Int×Int×Int×Int×Int×Int×Int×Int×Int×Int×Int×Int×Int×Int×Int×Int×Int×Int×Int×Int×Int×Int×Unit:=(s.k.getD 0 0,s.k.getD 1 0,s.k.getD 2 0,s.k.getD 3 0,s.k.getD 4 0,s.k.getD 5 0,s.k.getD 6 0,s.k.getD 7 0,s.k.getD 8 0,s.k.getD 9 0,s.k.getD 10 0,s.k.getD 11 0,s.k.getD 12 0,s.k.getD 13 0,s.k.getD 14 0,s.k.getD 15 0,s.k.getD 16 0,s.k.getD 17 0,s.k.getD 18 0,s.k.getD 19 0,s.k.getD 20 0,s.k.getD 21 0,s.k.getD 22 0,s.k.getD 23 0,s.k.getD 24 0,s.k.getD 25 0,s.k.getD 26 0,s.k.getD 27 0,s.k.getD 28 0,s.k.getD 29 0,s.k.getD 30 0,s.k.getD 31 0,s.k.getD 32 0,s.k.getD 33 0,s.k.getD 34 0,s.k.getD 35 0,())
def Deb.at(n:Int)(r:Contacts)(i:Nat)(s:Deb):Deb:=if r.get i=s.c.get i then⟨s.c,s.k.set i 0⟩else if s.k.getD i 0+1=n then⟨s.c.set i<|r.get i,s.k.set i 0⟩else⟨s.c,s.k.set i<|s.k.getD i 0+1⟩
def Deb.step(n:Int)(s:Deb)(r:Contacts):Deb:=Bd (Deb.at n r) 36 0 s
structure Deb.wf(s:Deb):Prop where
 c:s.c.wf
 len:s.k.length=36
 lo:∀j,j<36->0<=s.k.getD j 0
 hi:∀j,j<36->s.k.getD j 0<1000
def Deb.is(n:Int)(s:Deb):Prop:=1<=n/\n<=16/\∀j,j<36->0<=s.k.getD j 0/\s.k.getD j 0<n
def WR(h:L.length=36):[L.getD 0 0,L.getD 1 0,L.getD 2 0,L.getD 3 0,L.getD 4 0,L.getD 5 0,L.getD 6 0,L.getD 7 0,L.getD 8 0,L.getD 9 0,L.getD 10 0,L.getD 11 0,L.getD 12 0,L.getD 13 0,L.getD 14 0,L.getD 15 0,L.getD 16 0,L.getD 17 0,L.getD 18 0,L.getD 19 0,L.getD 20 0,L.getD 21 0,L.getD 22 0,L.getD 23 0,L.getD 24 0,L.getD 25 0,L.getD 26 0,L.getD 27 0,L.getD 28 0,L.getD 29 0,L.getD 30 0,L.getD 31 0,L.getD 32 0,L.getD 33 0,L.getD 34 0,L.getD 35 0]=L:=by
 have e:[L.getD 0 0,L.getD 1 0,L.getD 2 0,L.getD 3 0,L.getD 4 0,L.getD 5 0,L.getD 6 0,L.getD 7 0,L.getD 8 0,L.getD 9 0,L.getD 10 0,L.getD 11 0,L.getD 12 0,L.getD 13 0,L.getD 14 0,L.getD 15 0,L.getD 16 0,L.getD 17 0,L.getD 18 0,L.getD 19 0,L.getD 20 0,L.getD 21 0,L.getD 22 0,L.getD 23 0,L.getD 24 0,L.getD 25 0,L.getD 26 0,L.getD 27 0,L.getD 28 0,L.getD 29 0,L.getD 30 0,L.getD 31 0,L.getD 32 0,L.getD 33 0,L.getD 34 0,L.getD 35 0]=(aV 36).map (λq=>L.getD q 0):=rfl;rw[e];apply List.ext_getElem
 .simp[h]
 .intro j h1 a;simp[a]
def Aei(h:i<L.length)(q:Nat)(v:Int):(bif Nat.beq i q then v else L.getD q 0)=(L.set i v).getD q 0:=by
 rw[Bj];by_cases e:i=q
 .subst e;simp[h]
 .simp[e]
def Av5{s:Deb}(h:s.wf)(q:s.is n){r:Contacts}(hi:i<36):(s.at n r i).wf/\(s.at n r i).is n:=by
 have o:∀v j,(s.k.set i v).getD j 0=if j=i then v else s.k.getD j 0:=by
  intro v j;rw[<-Aei (by rw[h.len];exact hi),Bj];by_cases e:i=j
  .simp[e]
  .simp[e,e4_ e]
 have N:=q.1;have u:=q.2.1;have z:∀v:Int,0<=v->v<n->∀j,j<36->0<=(s.k.set i v).getD j 0/\(s.k.set i v).getD j 0<n:=by
  intro v h1 y j p;rw[o];by_cases e:j=i
  .rw[if_pos e];exact⟨h1,y⟩
  .rw[if_neg e];exact q.2.2 j p
 have a:∀(c:Contacts) v,c.wf->0<=v->v<n->Deb.wf ⟨c,s.k.set i v⟩/\Deb.is n ⟨c,s.k.set i v⟩:=by intro c v Q h1 y;have w:=z v h1 y;exact⟨⟨Q,by simp[h.len],λj p=>(w j p).1,λj p=>by have:=(w j p).2;simp only at this|-;omega⟩,N,u,w⟩
 have P:=q.2.2 i hi;unfold Deb.at;split
 .exact a _ _ h.c ω ω
 .split
  .exact a _ _ (Contacts.set_wf h.c _ _) ω ω
  .exact a _ _ h.c ω ω
def Ald{n:Int}{r:Contacts}:∀(m i:Nat) (s:Deb),i+m<=36->s.wf->s.is n->(Bd (Deb.at n r) m i s).wf/\(Bd (Deb.at n r) m i s).is n
 |0,_,_,_,h,a=>⟨h,a⟩
 |m+1,i,s,hi,h,a=>Ald m (i+1) _ ω (Av5 h a ω).1 (Av5 h a ω).2
def Bkv{s:Deb}(h:s.wf)(a:s.is n)(r:Contacts):(s.step n r).wf/\(s.step n r).is n:=Ald 36 0 s ω h a
def Amp{s:Deb}(h:s.wf)(Q:s.is n){r:Contacts}(P:r.wf)(b:Deb)(hi:i<36):
  HV n (i:Int) s.c.C0 s.c.Up s.c.D4 s.c.F6 s.c.J4 (s.k.getD 0 0) (s.k.getD 1 0) (s.k.getD 2 0) (s.k.getD 3 0) (s.k.getD 4 0) (s.k.getD 5 0) (s.k.getD 6 0) (s.k.getD 7 0) (s.k.getD 8 0) (s.k.getD 9 0) (s.k.getD 10 0) (s.k.getD 11 0) (s.k.getD 12 0) (s.k.getD 13 0) (s.k.getD 14 0) (s.k.getD 15 0) (s.k.getD 16 0) (s.k.getD 17 0) (s.k.getD 18 0) (s.k.getD 19 0) (s.k.getD 20 0) (s.k.getD 21 0) (s.k.getD 22 0) (s.k.getD 23 0) (s.k.getD 24 0) (s.k.getD 25 0) (s.k.getD 26 0) (s.k.getD 27 0) (s.k.getD 28 0) (s.k.getD 29 0) (s.k.getD 30 0) (s.k.getD 31 0) (s.k.getD 32 0) (s.k.getD 33 0) (s.k.getD 34 0) (s.k.getD 35 0) r.C0 r.Up r.D4 r.F6 r.J4 b.c.C0 b.c.Up b.c.D4 b.c.F6 b.c.J4 (b.k.getD 0 0) (b.k.getD 1 0) (b.k.getD 2 0) (b.k.getD 3 0) (b.k.getD 4 0) (b.k.getD 5 0) (b.k.getD 6 0) (b.k.getD 7 0) (b.k.getD 8 0) (b.k.getD 9 0) (b.k.getD 10 0) (b.k.getD 11 0) (b.k.getD 12 0) (b.k.getD 13 0) (b.k.getD 14 0) (b.k.getD 15 0) (b.k.getD 16 0) (b.k.getD 17 0) (b.k.getD 18 0) (b.k.getD 19 0) (b.k.getD 20 0) (b.k.getD 21 0) (b.k.getD 22 0) (b.k.getD 23 0) (b.k.getD 24 0) (b.k.getD 25 0) (b.k.getD 26 0) (b.k.getD 27 0) (b.k.getD 28 0) (b.k.getD 29 0) (b.k.getD 30 0) (b.k.getD 31 0) (b.k.getD 32 0) (b.k.getD 33 0) (b.k.getD 34 0) (b.k.getD 35 0)=
   R (.inl ((n,(),(),(),((i+1:Nat):Int),()),((s.at n r i).tup,r.tup,b.tup,()))):=by
 unfold HV;have z:decide ((i:Int)<36)=B:=by simp;omega
 have y:inB i 36=B:=Ac ω ω;have tn:aF i=i:=ω;have w:U.wrap (i+1)=((i+1:Nat):Int):=by rw[Aa ω ω];omega
 have N:=h.lo i hi;have q:=h.hi i hi;have u:U.wrap _=s.k.getD i 0+1:=Aa ω ω;have hl:i<s.k.length:=by rw[h.len];exact hi
 have o:∀v:Int,i<(s.k.set i v).length:=λv=>by simp;exact hl
 have j:∀v:Int,(s.k.set i v).getD i 0=v:=λv=>by simp[hl]
 rw[z,Tu r P _,Tu s.c h.c _];simp only[c_,y,tn,Aei hl,w,WR h.len,u];unfold Deb.at;by_cases hq:r.get i=s.c.get i
 .simp only[hq,p_,if_true];rfl
 .simp only[At hq,hq];have p:∀v:Int,(s.k.set i v).length=36:=λv=>by simp[h.len]
  try simp only[WR<|p _,j,Aei<|o _,g2_]
  by_cases a:s.k.getD i 0+1=n
  .have:(s.k.getD i 0+1==n)=B:=by simpa using a
   simp only[this,a,p_];rw[Adl s.c _ _];rfl
  .simp only[At a,a];rfl
noncomputable instance isDeb_ti(n:Int)(s:Deb):Decidable (s.is n):=Classical.propDecidable _
def Deb.rng(n:Int)(s:Deb):Prop:=∀j,j<36->0<=s.k.getD j 0/\s.k.getD j 0<n
noncomputable instance rngDeb_ti(n:Int)(s:Deb):Decidable (s.rng n):=Classical.propDecidable _
def Bbm{s:Deb}:s.is n↔1<=n/\n<=16/\s.rng n:=Iff.rfl
def Amq{s:Deb}(h:s.wf)(a:s.is n){r:Contacts}(j:r.wf):
  Kz ((n,(),(),(),(0:Int),()),(s.tup,r.tup,Deb.no.tup,()))=R (((),(),()),((s.step n r).tup,Deb.no.tup,())):=by
 refine Aj (BN 36 (λi (s:Deb)=>((n,(),(),(),(i:Int),()),(s.tup,r.tup,Deb.no.tup,()))) _ (λ_ s=>s.wf/\s.is n) (λs=>(((),(),()),(s.tup,Deb.no.tup,()))) (λi s hi hin=>⟨Amp hin.1 hin.2 j Deb.no hi,Av5 hin.1 hin.2 hi⟩) (λs hin=>?_) 36 0 s rfl ⟨h,a⟩).1 ω;show HV n ((36:Nat):Int) s.c.C0 s.c.Up s.c.D4 s.c.F6 s.c.J4 (s.k.getD 0 0) (s.k.getD 1 0) (s.k.getD 2 0) (s.k.getD 3 0) (s.k.getD 4 0) (s.k.getD 5 0) (s.k.getD 6 0) (s.k.getD 7 0) (s.k.getD 8 0) (s.k.getD 9 0) (s.k.getD 10 0) (s.k.getD 11 0) (s.k.getD 12 0) (s.k.getD 13 0) (s.k.getD 14 0) (s.k.getD 15 0) (s.k.getD 16 0) (s.k.getD 17 0) (s.k.getD 18 0) (s.k.getD 19 0) (s.k.getD 20 0) (s.k.getD 21 0) (s.k.getD 22 0) (s.k.getD 23 0) (s.k.getD 24 0) (s.k.getD 25 0) (s.k.getD 26 0) (s.k.getD 27 0) (s.k.getD 28 0) (s.k.getD 29 0) (s.k.getD 30 0) (s.k.getD 31 0) (s.k.getD 32 0) (s.k.getD 33 0) (s.k.getD 34 0) (s.k.getD 35 0) r.C0 r.Up r.D4 r.F6 r.J4 Deb.no.c.C0 Deb.no.c.Up Deb.no.c.D4 Deb.no.c.F6 Deb.no.c.J4 (Deb.no.k.getD 0 0) (Deb.no.k.getD 1 0) (Deb.no.k.getD 2 0) (Deb.no.k.getD 3 0) (Deb.no.k.getD 4 0) (Deb.no.k.getD 5 0) (Deb.no.k.getD 6 0) (Deb.no.k.getD 7 0) (Deb.no.k.getD 8 0) (Deb.no.k.getD 9 0) (Deb.no.k.getD 10 0) (Deb.no.k.getD 11 0) (Deb.no.k.getD 12 0) (Deb.no.k.getD 13 0) (Deb.no.k.getD 14 0) (Deb.no.k.getD 15 0) (Deb.no.k.getD 16 0) (Deb.no.k.getD 17 0) (Deb.no.k.getD 18 0) (Deb.no.k.getD 19 0) (Deb.no.k.getD 20 0) (Deb.no.k.getD 21 0) (Deb.no.k.getD 22 0) (Deb.no.k.getD 23 0) (Deb.no.k.getD 24 0) (Deb.no.k.getD 25 0) (Deb.no.k.getD 26 0) (Deb.no.k.getD 27 0) (Deb.no.k.getD 28 0) (Deb.no.k.getD 29 0) (Deb.no.k.getD 30 0) (Deb.no.k.getD 31 0) (Deb.no.k.getD 32 0) (Deb.no.k.getD 33 0) (Deb.no.k.getD 34 0) (Deb.no.k.getD 35 0)=_;unfold HV;have e:decide ((36:Int)<36)=J:=rfl;rfl
def Amo{s:Deb}(hl:s.k.length=36):Ik ((n,s.cnt,(0:Int),()),())=R (if s.rng n then .inl ((),())else .inr ((J,()),())):=by
 have z:∀(step:_->_),(∀i:Nat,step ((n,s.cnt,(i:Int),()),())=CO n (s.k.getD 0 0) (s.k.getD 1 0) (s.k.getD 2 0) (s.k.getD 3 0) (s.k.getD 4 0) (s.k.getD 5 0) (s.k.getD 6 0) (s.k.getD 7 0) (s.k.getD 8 0) (s.k.getD 9 0) (s.k.getD 10 0) (s.k.getD 11 0) (s.k.getD 12 0) (s.k.getD 13 0) (s.k.getD 14 0) (s.k.getD 15 0) (s.k.getD 16 0) (s.k.getD 17 0) (s.k.getD 18 0) (s.k.getD 19 0) (s.k.getD 20 0) (s.k.getD 21 0) (s.k.getD 22 0) (s.k.getD 23 0) (s.k.getD 24 0) (s.k.getD 25 0) (s.k.getD 26 0) (s.k.getD 27 0) (s.k.getD 28 0) (s.k.getD 29 0) (s.k.getD 30 0) (s.k.getD 31 0) (s.k.getD 32 0) (s.k.getD 33 0) (s.k.getD 34 0) (s.k.getD 35 0) i)->∀(m i:Nat),i+m=36->(∀j,j<i->0<=s.k.getD j 0/\s.k.getD j 0<n)->iter step (m+1) ((n,s.cnt,i,()),())=R (if s.rng n then Sum.inl ((),())else Sum.inr ((J,()),())):=by
  intro step a m;induction m with
  |zero=>
   intro i hi q
   have:i=36:=ω
   subst this;rw[if_pos (show s.rng n from q)];refine Ax ?_;rw[a];unfold CO;have e:decide ((36:Int)<36)=J:=rfl;rfl
  |succ m P=>
   intro i hi q;have v:decide ((i:Int)<36)=B:=by simp;omega
   have u:inB i 36=B:=Ac ω ω;have tn:aF i=i:=ω;have w:U.wrap (i+1)=((i+1:Nat):Int):=by rw[Aa ω ω];omega
   by_cases h1:s.k.getD i 0<0
   .rw[if_neg (λo=>by have:=(o i ω).1;omega)];refine Ax ?_;rw[a];unfold CO;have p:decide (s.k.getD i 0<0)=B:=by simpa using h1
    simp only[v,u,tn,WR hl,p,h_]
   .have p:decide (s.k.getD i 0<0)=J:=by simpa using h1
    by_cases N:n<=s.k.getD i 0
    .rw[if_neg (λo=>by have:=(o i ω).2;omega)];refine Ax ?_;rw[a];unfold CO;have y:decide (n<=s.k.getD i 0)=B:=by simpa using N
     simp only[v,u,tn,WR hl,p,y,h_,g_]
    .have y:decide (n<=s.k.getD i 0)=J:=by simpa using N
     have st:step ((n,s.cnt,i,()),())=R (.inl ((n,s.cnt,((i+1:Nat):Int),()),())):=by rw[a];unfold CO;simp only[v,u,tn,WR hl,p,y,w];rfl
     rw[Aq st];exact P (i+1) ω λj Q=>if e:j=i then by subst e;omega else q j ω
 exact Aj (z _ (λ_=>rfl) 36 0 rfl (λj q=>by omega)) ω
def Xn{s:Deb}(hl:s.k.length=36):Eg n s.c.C0 s.c.Up s.c.D4 s.c.F6 s.c.J4 (s.k.getD 0 0) (s.k.getD 1 0) (s.k.getD 2 0) (s.k.getD 3 0) (s.k.getD 4 0) (s.k.getD 5 0) (s.k.getD 6 0) (s.k.getD 7 0) (s.k.getD 8 0) (s.k.getD 9 0) (s.k.getD 10 0) (s.k.getD 11 0) (s.k.getD 12 0) (s.k.getD 13 0) (s.k.getD 14 0) (s.k.getD 15 0) (s.k.getD 16 0) (s.k.getD 17 0) (s.k.getD 18 0) (s.k.getD 19 0) (s.k.getD 20 0) (s.k.getD 21 0) (s.k.getD 22 0) (s.k.getD 23 0) (s.k.getD 24 0) (s.k.getD 25 0) (s.k.getD 26 0) (s.k.getD 27 0) (s.k.getD 28 0) (s.k.getD 29 0) (s.k.getD 30 0) (s.k.getD 31 0) (s.k.getD 32 0) (s.k.getD 33 0) (s.k.getD 34 0) (s.k.getD 35 0)=R ((decide<|s.is n,()),()):=by
 unfold Eg;by_cases h1:n<1
 .have:¬s.is n:=λh=>by have:=h.1;omega
  simp[h1,this]
 .have o:1<=n:=ω;by_cases q:16<n
  .have:¬s.is n:=λh=>by have:=h.2.1;omega
   simp[h1,q,this]
  .have p:n<=16:=ω;have a:=Amo (n:=n) hl;simp only[Deb.cnt]at a;have u:decide (n<1)=J:=by simpa using h1
   have v:decide (16<n)=J:=by simpa using q
   simp only[u,v,g_,a,c_];by_cases j:s.rng n
   .rw[if_pos j,Z<|Bbm.2 ⟨o,p,j⟩]
   .rw[if_neg j,d_ λh=>j (Bbm.1 h).2.2]
def Ach{s:Deb}(h:s.wf)(a:s.is n){r:Contacts}(j:r.wf):PS n s.c.C0 s.c.Up s.c.D4 s.c.F6 s.c.J4 (s.k.getD 0 0) (s.k.getD 1 0) (s.k.getD 2 0) (s.k.getD 3 0) (s.k.getD 4 0) (s.k.getD 5 0) (s.k.getD 6 0) (s.k.getD 7 0) (s.k.getD 8 0) (s.k.getD 9 0) (s.k.getD 10 0) (s.k.getD 11 0) (s.k.getD 12 0) (s.k.getD 13 0) (s.k.getD 14 0) (s.k.getD 15 0) (s.k.getD 16 0) (s.k.getD 17 0) (s.k.getD 18 0) (s.k.getD 19 0) (s.k.getD 20 0) (s.k.getD 21 0) (s.k.getD 22 0) (s.k.getD 23 0) (s.k.getD 24 0) (s.k.getD 25 0) (s.k.getD 26 0) (s.k.getD 27 0) (s.k.getD 28 0) (s.k.getD 29 0) (s.k.getD 30 0) (s.k.getD 31 0) (s.k.getD 32 0) (s.k.getD 33 0) (s.k.getD 34 0) (s.k.getD 35 0) r.C0 r.Up r.D4 r.F6 r.J4=R (((),()),((s.step n r).tup,())):=by have hl:=Amq h a j;show(Kz ((n,(),(),(),0,()),(s.tup,r.tup,Deb.no.tup,()))).bind _=_;rw[hl];rfl
def Acg{s:Deb}(h:s.k.length=36)(q:s.c.wf){r:Contacts}(u:r.wf):
  JG n s.c.C0 s.c.Up s.c.D4 s.c.F6 s.c.J4 (s.k.getD 0 0) (s.k.getD 1 0) (s.k.getD 2 0) (s.k.getD 3 0) (s.k.getD 4 0) (s.k.getD 5 0) (s.k.getD 6 0) (s.k.getD 7 0) (s.k.getD 8 0) (s.k.getD 9 0) (s.k.getD 10 0) (s.k.getD 11 0) (s.k.getD 12 0) (s.k.getD 13 0) (s.k.getD 14 0) (s.k.getD 15 0) (s.k.getD 16 0) (s.k.getD 17 0) (s.k.getD 18 0) (s.k.getD 19 0) (s.k.getD 20 0) (s.k.getD 21 0) (s.k.getD 22 0) (s.k.getD 23 0) (s.k.getD 24 0) (s.k.getD 25 0) (s.k.getD 26 0) (s.k.getD 27 0) (s.k.getD 28 0) (s.k.getD 29 0) (s.k.getD 30 0) (s.k.getD 31 0) (s.k.getD 32 0) (s.k.getD 33 0) (s.k.getD 34 0) (s.k.getD 35 0) r.C0 r.Up r.D4 r.F6 r.J4=if s.is n then R (((),(0:Int),()),((s.step n r).tup,()))else R (((),(1:Int),()),(Deb.no.tup,())):=by
 unfold JG;rw[Xn h];by_cases a:s.is n
 .have p:s.wf:=⟨q,h,λj o=>(a.2.2 j o).1,λj o=>by have:=(a.2.2 j o).2;have:=a.2.1;omega⟩
  simp only[a,if_true];rw[Ach p a u];rfl
 .simp only[a,f6_];rfl
end Go.Ovl
