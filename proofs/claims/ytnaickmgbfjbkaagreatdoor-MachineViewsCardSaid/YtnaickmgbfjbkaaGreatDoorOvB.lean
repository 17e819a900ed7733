import Derived.Test.YtnaickmgbfjbkaaGreatDoorOvA
import Derived.Test.YtnaickmgbfjbkaaGreatDoorDefs6
set_option linter.all false
set_option maxRecDepth 100000
open Go.Ovl.Sat renaming ret->A,bic->C,bindS->I,bifT->U,go->aH,loop->aQ,bindE->aS,bindR->aX
open Bool renaming false->B,true->H,or_self->bM
open Go.IntKind renaming i64->J,wrap->aA,u64->aE,u8->aO,u32->bC,u16->bO
open Go.Ovl renaming Bldg->O,Aa->V,Entry->Z,noE->aB,Sat->aC,View->aD,Img->aF,Record->aI,SatT->aK,ImgOK->aM,Calls->aP,NewCar->aV,Belief->aW,CarInput->bB
open Option renaming some->R,bind->bI
open Go renaming d_->S,c_->W
open Go.Ab renaming inB->aG
open Go.Ovl.Record renaming mk->aJ
open Go.Ovl.View renaming mk->aL
open Int renaming tmod->aN,tdiv->aT,toNat->bK
open Nat renaming ble->aR
open List renaming range->aU,range'->bG,replicate->bH,cons_append->bP,map_congr_left->bQ
open Go.Ovl.Belief renaming mk->aY
open Go.Ovl.Duty renaming mk->aZ
open Go.Ovl.Entry renaming mk->bA
open Go.Ovl.NewCar renaming mk->bD
open BitVec renaming ofInt->bE,toNat->bL
open Go.Ovl.Calls renaming mk->bJ
open Go.Ovl.CarInput renaming mk->bN
namespace Go.Ovl
open Go Go.Ab
noncomputable section
variable{b:O}{m:aF}{vs:List aD}{e:Z}{xs:List Int}{s:ByteArray}{E:List Z}{α:Type}{r:aI}{i t k n:Nat}{l:List aI}{fl bud f z:Int}{calm:List Bool}{c:Int×Int}{a:α}
def Ud(a b c:Int)(d:Bool)(e f:Int):Nj a b c d e f=R (((),()),((f,0,c,d,e,()),())):=rfl
def SW(a:Int):aC (EY a) λ_=>True:=by unfold EY;exact aH
instance r12_more_ti(a:Int):aK (EY a):=⟨SW ..⟩
def Aaz(a b c:Int)(d:Bool)(e:Int):aC (KO a b c d e) λ_=>True:=by unfold KO;simp only[Ud];exact aH
instance r12_nudged_ti(a b c:Int)(d:Bool)(e:Int):aK (KO a b c d e):=⟨Aaz ..⟩
def dNC(a b c:Int)(d:Bool)(e:Int):aV:={ AK with C1:=a,V1:=b,O1:=c,Z1:=d,P1:=e }
def YR(a b c:Int)(d:Bool)(e:Int):FB a b c d e=R ((JP (dNC a b c d e),()),()):=WQ (dNC a b c d e)
def Aub{x:aV}(h:JP x=H):0<=x.C1/\x.C1<=3:=by
 unfold JP at h;by_cases g:x.C1=0
 .omega
 .rw[Av g]at h;simp[inR,QB]at h;omega
def Yc(c0 c1 c2 c3 c4 c5 c6 c7 c8 a b c:Int)(d:Bool)(e f:Int)(g h:Bool):aC (Lx c0 c1 c2 c3 c4 c5 c6 c7 c8 a b c d e f g h) λ_=>True:=by
 unfold Lx;rw[YR];refine I (Q:=λy=>0<=y.2.2.1.1/\y.2.2.1.1<=3) ?_ (λy h2=>?_)
 .refine aS rfl (C (λ_=>A ⟨a2_ 0,show(0:Int)<=3 from by decide⟩) λhh=>A ?_);rw[d2_]at hh;exact Aub (x:=dNC a b c d e) hh
 refine C (λ_=>?_) (λ_=>?_)
 .simp only[Ud];exact aH
 refine I (Q:=λy=>0<=y.2.2.1.1/\y.2.2.1.1<=3) ?_ (λy h2=>?_)
 .refine C (λ_=>?_) (λ_=>A h2);exact I (SW _) λ_ _=>A h2
 refine I (Q:=λy=>0<=y.2.2.1.1/\y.2.2.1.1<=3) ?_ (λy h2=>?_)
 .exact C (λ_=>A h2) (λ_=>A h2)
 refine C (λ_=>?_) (λ_=>?_)
 .exact aS (Ud _ _ _ _ _ _) (A trivial)
 refine I (Q:=λy=>0<=y.2.2.1.1/\y.2.2.1.1<=3) ?_ (λy h2=>?_)
 .exact C (λ_=>A h2) (λ_=>A h2)
 refine C (λ_=>A trivial) (λ_=>?_);refine C (λ_=>?_) (λ_=>?_)
 .exact I (Aaz _ _ _ _ _) λ_ _=>A trivial
 refine I (Q:=λy=>0<=y.2.1.1/\y.2.1.1<=3) ?_ (λy h2=>?_)
 .exact C (λ_=>C (λ_=>A h2) (λ_=>A h2)) (λ_=>A h2)
 refine C (λ_=>?_) (λ_=>?_)
 .exact aS (Ud _ _ _ _ _ _) (A trivial)
 refine I (Q:=λy=>0<=y.2.1.1/\y.2.1.1<=3) ?_ (λy h2=>?_)
 .exact C (λ_=>A h2) (λ_=>A h2)
 refine C (λ_=>?_) (λ_=>?_)
 .exact aS (Ud _ _ _ _ _ _) (I (SW _) λ_ _=>A trivial)
 refine I (SW _) λ_ _=>?_;exact U (V h2.1 (by show _<(4:Int);omega)) (A trivial)
def Ag3(a b c:Int)(d:Bool)(e:Int):aC (Ok a b c d e) λ_=>True:=by unfold Ok;rw[YR];refine aX ?_;exact aH
def Ag2(c0 c1 c2 c3 c4 c5 c6 c7 c8 a b c:Int)(d:Bool)(e:Int):aC (Oj c0 c1 c2 c3 c4 c5 c6 c7 c8 a b c d e) λ_=>True:=by unfold Oj;exact aH
instance r12_Step_ti(c0 c1 c2 c3 c4 c5 c6 c7 c8 a b c:Int)(d:Bool)(e f:Int)(g h:Bool):aK (Lx c0 c1 c2 c3 c4 c5 c6 c7 c8 a b c d e f g h):=⟨Yc ..⟩
instance r12_Skip_ti(a b c:Int)(d:Bool)(e:Int):aK (Ok a b c d e):=⟨Ag3 ..⟩
instance r12_Late_ti(c0 c1 c2 c3 c4 c5 c6 c7 c8 a b c:Int)(d:Bool)(e:Int):aK (Oj c0 c1 c2 c3 c4 c5 c6 c7 c8 a b c d e):=⟨Ag2 ..⟩
def Aqy(a b:Int):aC (HE a b) λ_=>True:=⟨_,Aa0 a b,trivial⟩
def Ao1(a b c:Int):aC (DU a b c) λ_=>True:=by unfold DU;exact aH
def Aqz(a b c:Int):aC (HF a b c) λ_=>True:=by unfold HF;exact aH
instance r13_floor_ti(a b:Int):aK (HE a b):=⟨Aqy ..⟩
instance r13_target_ti(a b c:Int):aK (DU a b c):=⟨Ao1 ..⟩
instance r13_later_ti(a b c:Int):aK (HF a b c):=⟨Aqz ..⟩
def Ale(a b c d:Int):aC (Dp a b c d) λ_=>True:=by unfold Dp;exact aH
instance r13_IsState_ti(a b c d:Int):aK (Dp a b c d):=⟨Ale ..⟩
def Pp(a b c d e:Int)(f:Bool)(g:Int)(h:Bool)(w:Int):aC (Ly a b c d e f g h w) λ_=>True:=by unfold Ly;exact aH
def Ag5(a b c:Int):aC (Om a b c) λ_=>True:=by unfold Om;exact aH
def Ag4(c0 c1 c2 c3 c4 c5 c6 c7 c8 a b c:Int):aC (Ol c0 c1 c2 c3 c4 c5 c6 c7 c8 a b c) λ_=>True:=by unfold Ol;exact aH
instance r13_Step_ti(a b c d e:Int)(f:Bool)(g:Int)(h:Bool)(w:Int):aK (Ly a b c d e f g h w):=⟨Pp ..⟩
instance r13_Skip_ti(a b c:Int):aK (Om a b c):=⟨Ag5 ..⟩
instance r13_Late_ti(c0 c1 c2 c3 c4 c5 c6 c7 c8 a b c:Int):aK (Ol c0 c1 c2 c3 c4 c5 c6 c7 c8 a b c):=⟨Ag4 ..⟩
def Aar(a b c d:Int):aC (Ek a b c d) λ_=>True:=by unfold Ek;exact aH
def Aqu(a b c d:Int):aC (FW a b c d) λ_=>True:=⟨_,Ub (a,b) (c,d),trivial⟩
instance r07_Has_ti(a b c d:Int):aK (Ek a b c d):=⟨Aar ..⟩
instance r07_Minus_ti(a b c d:Int):aK (FW a b c d):=⟨Aqu ..⟩
def Alb(a b:Int):aC (Do a b) λ_=>True:=⟨_,WP { AK with R1:=a,H1:=b },trivial⟩
def Ao0(a b c d:Int):aC (Gs a b c d) λ_=>True:=by unfold Gs;exact aH
def Aoz(a b c d e f:Int):aC (Ii a b c d e f) λ_=>True:=by unfold Ii;exact aH
instance r11_IsSweep_ti(a b:Int):aK (Do a b):=⟨Alb ..⟩
instance r11_proper_ti(a b c d:Int):aK (Gs a b c d):=⟨Ao0 ..⟩
instance r11_marked_ti(a b c d e f:Int):aK (Ii a b c d e f):=⟨Aoz ..⟩
def Alc(a b c d e f:Int):aC (GM a b c d e f) λ_=>True:=by unfold GM;exact aH
instance r11_counted_ti(a b c d e f:Int):aK (GM a b c d e f):=⟨Alc ..⟩
def Aqv(z a b c d e f:Int):aC (Mo z a b c d e f) λ_=>True:=by unfold Mo;exact aH
def Aqw(a b c:Int)(hf:0<=f/\f<100):aC (Mp a b c f) λ_=>True:=by
 unfold Mp;refine I (Q:=λ_=>True) ?_ (λy _=>?_)
 .refine aQ (λ(k:Nat) x=>(0:Int)<=x.1.2.2.1/\(200:Int)<=x.1.2.2.1+(k:Int)) (λk x hx=>?_) 200 ?_ τ
  .unfold YG;obtain⟨h1,h2⟩:=hx;refine C (λg=>?_) (λ_=>A trivial);have g:=o_ g;refine U (MB _) (C (λ_=>A trivial) (λ_=>A ⟨k-1,ω,?_,?_⟩))
   .show 0<=J.wrap (x.1.2.2.1+1);rw[Ad ω ω];omega
   .show 200<=J.wrap (x.1.2.2.1+1)+_;rw[Ad ω ω];omega
  .show(0:Int)<=J.wrap (f+1)/\(200:Int)<=J.wrap (f+1)+((200:Nat):Int)
   rw[Ad ω ω];omega
 .cases y<;>exact A trivial
def Aqx(a b c:Int)(hf:0<=f/\f<100):aC (Mq a b c f) λ_=>True:=by
 unfold Mq;refine I (Q:=λ_=>True) ?_ (λy _=>?_)
 .refine aQ (λ(k:Nat) x=>x.1.2.2.1<(200:Int)/\x.1.2.2.1<(k:Int)) (λk x hx=>?_) 200 ?_ τ
  .unfold YH;obtain⟨h1,h2⟩:=hx;refine C (λg=>?_) (λ_=>A trivial);have g:=o_ g;refine U (MB _) (C (λ_=>A trivial) (λ_=>A ⟨k-1,ω,?_,?_⟩))
   .show J.wrap (x.1.2.2.1-1)<200;rw[Ad ω ω];omega
   .show J.wrap (x.1.2.2.1-1)<_;rw[Ad ω ω];omega
  .show J.wrap (f-1)<(200:Int)/\J.wrap (f-1)<((200:Nat):Int)
   rw[Ad ω ω];omega
 .cases y<;>exact A trivial
instance r11_Spent_ti(z a b c d e f:Int):aK (Mo z a b c d e f):=⟨Aqv ..⟩
def Avd(z a b:Int){c:Int}(hf:0<=c/\c<100)(d e f:Int):aC (Oi z a b c d e f) λ_=>True:=by
 unfold Oi;have k1:∀x y w,aK (Mp x y w c):=λx y w=>⟨Aqw x y w hf⟩
 have k2:∀x y w,aK (Mq x y w c):=λx y w=>⟨Aqx x y w hf⟩
 exact aH
def Ai1(a b:Int)(c d e f g:Bool):aC (Gh a b c d e f g) λ_=>True:=by unfold Gh DT Jh;exact aH
def Ald(a:Int)(b c:Bool):aC (GN a b c) λ_=>True:=by unfold GN DT Jh;exact aH
instance r11_sweeping_ti(a b:Int)(c d e f g:Bool):aK (Gh a b c d e f g):=⟨Ai1 ..⟩
instance r11_turning_ti(a:Int)(b c:Bool):aK (GN a b c):=⟨Ald ..⟩
def Aay(hz:z<=32)(a b c d e f:Int):aC (KN z a b c d e f) λ_=>True:=by
 unfold KN DT Jh;by_cases g1:c<0
 .have g:=b_ g1;exact aH
 by_cases g2:z<=c
 .have g:=b_ g2;exact aH
 have hc:0<=c/\c<100:=ω;have k1:∀x y w p q r,aK (Oi x y w c p q r):=λx y w p q r=>⟨Avd x y w hc p q r⟩
 exact aH
def Avc(hz:z<=32)(a b c d e f:Int):aC (Sr z a b c d e f) λ_=>True:=by unfold Sr;have hch:=Aay hz a b c d e f;exact aH
def ucR(n:Int):Prop:=0<=n/\n<4294967296
def Acc(n:Int):ucR (aA bC n):=by unfold ucR;simp only[aA,IntKind.signed,IntKind.bits];simp;exact⟨Int.emod_nonneg _ τ,Int.emod_lt_of_pos _ τ⟩
section
variable{b:O}(hb:b.small)(hcode:b.code=0){car:Int}(hcar:aG car b.B0.length=H)
include hcar in
theorem Ave(i f:Int):aC (Ss b.D0 b.E0 b.J0 b.O0 b.L0 b.N0 b.P0 b.B0 car i f) λ_=>True:=by unfold Ss;rw[AO];exact aH
include hcar in
theorem Vk(x:aV)(hx:ucR x.I1)(cmd:Int):aC (KQ b.D0 b.E0 b.J0 b.O0 b.L0 b.N0 b.P0 b.B0 car x.R1 x.H1 x.C1 x.V1 x.O1 x.Z1 x.P1 x.V0 x.Z0 x.S0 x.I1 x.R2 x.L4 x.F3 cmd) λy=>ucR y.2.1.2.2.2.2.2.2.2.2.2.2.1:=by unfold KQ;refine U hcar (I (Ag2 _ _ _ _ _ _ _ _ _ _ _ _ _ _) λ_ _=>C (λ_=>A ⟨a2_ 0,show(0:Int)<4294967296 from by decide⟩) λ_=>?_);exact U hcar (I (Ag4 _ _ _ _ _ _ _ _ _ _ _ _) λ_ _=>C (λ_=>A ⟨a2_ 0,show(0:Int)<4294967296 from by decide⟩) λ_=>A hx)
include hb hcar in
theorem Ao3(x:aV)(hx:ucR x.I1)(f0:Int)(f1:Bool)(f2:Int)(f3:Bool)(h0 h1:Int):aC (On b.D0 b.E0 b.J0 b.O0 b.L0 b.N0 b.P0 b.B0 car x.R1 x.H1 x.C1 x.V1 x.O1 x.Z1 x.P1 x.V0 x.Z0 x.S0 x.I1 x.R2 x.L4 x.F3 f0 f1 f2 f3 h0 h1) λy=>ucR y.2.1.2.2.2.2.2.2.2.2.2.2.1:=by
 have hz:=hb.hi;unfold On;refine U hcar (I (Aay ω _ _ _ _ _ _) λ_ _=>I (Avc ω _ _ _ _ _ _) λ_ _=>?_);refine I (Q:=λy=>y.1.1=car/\y.2.1=b.tup/\ucR y.2.2.1.2.2.2.2.2.2.2.2.2.2.1) ?_ (λy hy=>?_)
 .refine C (λ_=>I (Yc _ _ _ _ _ _ _ _ _ _ _ _ _ _ _ _ _) λ_ _=>A ⟨rfl,rfl,hx⟩) λ_=>?_;refine C (λ_=>I (Pp _ _ _ _ _ _ _ _ _) λ_ _=>A ⟨rfl,rfl,hx⟩) λ_=>?_;refine C (λ_=>I (Pp _ _ _ _ _ _ _ _ _) λ_ _=>A ⟨rfl,rfl,hx⟩) λ_=>?_;refine I (Ave hcar _ _) λ_ _=>?_;exact C (λ_=>I (Pp _ _ _ _ _ _ _ _ _) λ_ _=>A ⟨rfl,rfl,hx⟩) λ_=>A ⟨rfl,rfl,hx⟩
 .obtain⟨⟨y1,yr⟩,⟨yb,⟨a0,a1,a2,a3,a4,a5,a6,a7,a8,a9,a10,a11,a12,a13,_⟩,yt⟩⟩:=y;obtain⟨e1,e2,e3⟩:=hy;simp only at e1 e2;subst e1 e2;exact I (Vk hcar (bD a0 a1 a2 a3 a4 a5 a6 a7 a8 a9 a10 a11 a12 a13) e3 _) λ_ h=>A h
include hb hcode
theorem Ade(x:aV)(hx:ucR x.I1)(car:Int):Mr b.D0 b.E0 b.J0 b.O0 b.L0 b.N0 b.P0 b.B0 car x.R1 x.H1 x.C1 x.V1 x.O1 x.Z1 x.P1 x.V0 x.Z0 x.S0 x.I1 x.R2 x.L4 x.F3=R ((Fx b x&&(decide (0<=car)&&decide (car<(b.B0.length:Int))),()),()):=by
 unfold Mr;rw[IF hb hcode x ⟨hx.1,by have:=hx.2;omega⟩];cases Fx b x with
 |false=>rfl
 |true=>cases h:decide (0<=car)<;>simp[]
omit hb hcode in
theorem Aet(f0:Int)(f1:Bool)(f2:Int)(f3:Bool):aC (Dz b.D0 b.E0 b.J0 b.O0 b.L0 b.N0 b.P0 b.B0 f0 f1 f2 f3) λ_=>True:=by unfold Dz;exact aH
theorem Aq0(x:aV)(hx:ucR x.I1)(car:Int):aC (Qm b.D0 b.E0 b.J0 b.O0 b.L0 b.N0 b.P0 b.B0 car x.R1 x.H1 x.C1 x.V1 x.O1 x.Z1 x.P1 x.V0 x.Z0 x.S0 x.I1 x.R2 x.L4 x.F3) λy=>ucR y.2.1.2.2.2.2.2.2.2.2.2.2.1:=by
 unfold Qm;rw[Ade hb hcode x hx];refine aX (C (λ_=>A ⟨a2_ 0,show(0:Int)<4294967296 from by decide⟩) λg=>?_);refine C (λ_=>A hx) λ_=>?_;have hcar:aG car b.B0.length=H:=by rw[d2_]at g;have g:=(Bool.and_eq_true_iff.1 (show(Fx b x&&(decide (0<=car)&&decide (car<(b.B0.length:Int))))=H from g)).2;rw[Bool.and_eq_true_iff,decide_eq_true_iff,decide_eq_true_iff]at g;exact V g.1 g.2
 refine I (Ag3 _ _ _ _ _) λu _=>?_;refine I (Ag5 _ _ _) λv _=>?_;exact I (Vk hcar (bD x.R1 x.H1 u.2.1.1 u.2.1.2.1 u.2.1.2.2.1 u.2.1.2.2.2.1 u.2.1.2.2.2.2.1 v.2.1.1 v.2.1.2.1 v.2.1.2.2.1 x.I1 x.R2 x.L4 x.F3) hx _) λ_ h=>A h
theorem Avf(x:aV)(hx:ucR x.I1)(car f0:Int)(f1:Bool)(f2:Int)(f3:Bool)(pr h0 h1:Int):aC (Su b.D0 b.E0 b.J0 b.O0 b.L0 b.N0 b.P0 b.B0 car x.R1 x.H1 x.C1 x.V1 x.O1 x.Z1 x.P1 x.V0 x.Z0 x.S0 x.I1 x.R2 x.L4 x.F3 f0 f1 f2 f3 pr h0 h1) λy=>ucR y.2.1.2.2.2.2.2.2.2.2.2.2.1:=by
 unfold Su;rw[Ade hb hcode x hx];refine aX (C (λ_=>A ⟨a2_ 0,show(0:Int)<4294967296 from by decide⟩) λg=>?_);have hcar:aG car b.B0.length=H:=by rw[d2_]at g;have g:=(Bool.and_eq_true_iff.1 (show(Fx b x&&(decide (0<=car)&&decide (car<(b.B0.length:Int))))=H from g)).2;rw[Bool.and_eq_true_iff,decide_eq_true_iff,decide_eq_true_iff]at g;exact V g.1 g.2
 refine I (Aet _ _ _ _) λ_ _=>?_;refine C (λ_=>A ⟨a2_ 0,show(0:Int)<4294967296 from by decide⟩) λ_=>?_;refine C (λ_=>A hx) λ_=>?_;refine U hcar (U (MB _) (U (MB _) ?_));refine I (Q:=λy=>y.1.1=car/\y.2.1=b.tup) (C (λ_=>A ⟨rfl,rfl⟩) λ_=>A ⟨rfl,rfl⟩) λy3 h3=>?_;refine I (Q:=λy=>match y with
  |.inl y=>y.1.1=car/\y.2.1=b.tup/\ucR y.2.2.1.2.2.2.2.2.2.2.2.2.2.1
  |.inr y=>ucR y.2.1.2.2.2.2.2.2.2.2.2.2.1) ?_ (λy hy=>?_)
 .refine I (Q:=λy=>y.1.1=car/\y.2.1=b.tup/\ucR y.2.2.1.2.2.2.2.2.2.2.2.2.2.1) ?_ (λy4 h4=>?_)
  .exact C (λ_=>C (λ_=>A ⟨h3.1,h3.2,Acc _⟩) λ_=>A ⟨h3.1,h3.2,Acc _⟩) λ_=>A ⟨h3.1,h3.2,Acc _⟩
  refine C (λ_=>?_) λ_=>A h4;refine I (Pp _ _ _ _ _ _ _ _ _) λy5 _=>?_;refine I (Q:=λy=>y.1.1=car/\y.2.1=b.tup/\ucR y.2.2.1.2.2.2.2.2.2.2.2.2.2.1) ?_ (λy6 h6=>?_)
  .exact C (λ_=>C (λ_=>A h4) λ_=>A h4) λ_=>A h4
  refine C (λ_=>?_) λ_=>A h6;refine I (Q:=λy=>y.1.1=car/\y.2.1=b.tup/\ucR y.2.2.1.2.2.2.2.2.2.2.2.2.2.1) ?_ (λy8 h8=>?_)
  .refine I (Q:=λy=>y.1.1=car/\y.2.1=b.tup/\ucR y.2.2.1.2.2.2.2.2.2.2.2.2.2.1) ?_ (λy7 h7=>?_)
   .exact C (λ_=>A h6) λ_=>A h6
   exact C (λ_=>A h7) λ_=>A h7
  obtain⟨⟨y1,yr⟩,⟨yb,⟨a0,a1,a2,a3,a4,a5,a6,a7,a8,a9,a10,a11,a12,a13,_⟩,yt⟩⟩:=y8;obtain⟨e1,e2,e3⟩:=h8;simp only at e1 e2;subst e1 e2;exact I (Vk hcar (bD a0 a1 a2 a3 a4 a5 a6 a7 a8 a9 a10 a11 a12 a13) e3 _) λ_ h=>A h
 .cases y with
  |inr y=>exact A hy
  |inl y11=>
   refine I (Q:=λy=>y.1.1=car/\y.2.1=b.tup/\ucR y.2.2.1.2.2.2.2.2.2.2.2.2.2.1) ?_ (λy13 h13=>?_)
   .refine I (Q:=λy=>y.1.1=car/\y.2.1=b.tup/\ucR y.2.2.1.2.2.2.2.2.2.2.2.2.2.1) ?_ (λy12 h12=>?_)
    .exact C (λ_=>A hy) λ_=>A hy
    exact C (λ_=>A h12) λ_=>A h12
   refine C (λ_=>?_) λ_=>?_
   .obtain⟨⟨y1,yr⟩,⟨yb,⟨a0,a1,a2,a3,a4,a5,a6,a7,a8,a9,a10,a11,a12,a13,_⟩,yt⟩⟩:=y13;obtain⟨e1,e2,e3⟩:=h13;simp only at e1 e2;subst e1 e2;exact I (Ao3 hb hcar (bD a0 a1 a2 a3 a4 a5 a6 a7 a8 a9 a10 a11 a12 a13) e3 _ _ _ _ _ _) λ_ h=>A h
   .refine I (Yc _ _ _ _ _ _ _ _ _ _ _ _ _ _ _ _ _) λy15 _=>?_;refine I (Q:=λy=>y.1.1=car/\y.2.1=b.tup/\ucR y.2.2.1.2.2.2.2.2.2.2.2.2.2.1) ?_ (λy16 h16=>?_)
    .exact C (λ_=>A ⟨h13.1,h13.2.1,Acc _⟩) λ_=>A h13
    refine I (Q:=λy=>y.1.1=car/\y.2.1=b.tup/\ucR y.2.2.1.2.2.2.2.2.2.2.2.2.2.1) ?_ (λy17 h17=>?_)
    .exact C (λ_=>A h16) λ_=>A h16
    obtain⟨⟨y1,yr⟩,⟨yb,⟨a0,a1,a2,a3,a4,a5,a6,a7,a8,a9,a10,a11,a12,a13,_⟩,yt⟩⟩:=y17;obtain⟨e1,e2,e3⟩:=h17;simp only at e1 e2;subst e1 e2;exact I (Vk hcar (bD a0 a1 a2 a3 a4 a5 a6 a7 a8 a9 a10 a11 0 a13) e3 _) λ_ h=>A h
end
def Li{α:Type}(d:α)(g:Nat->α->α)(i:Nat)(l:List α):List α:=l.set i (g i (l.getD i d))
def Ajr{α:Type}(d:α)(g:Nat->α->α):∀(m i:Nat) (l:List α),i+m=l.length->Cr (Li d g) m i l=l.take i++(bG i m).map (λj=>g j (l.getD j d))
 |0,i,l,h=>by rw[show i=l.length by omega,List.take_length];simp[Cr]
 |m+1,i,l,h=>by
  have hi:i<l.length:=ω;unfold Cr;rw[Ajr d g m (i+1) _ (by rw[Li,E_];omega)];have e1:(Li d g i l).take (i+1)=l.take i++[g i (l.getD i d)]:=by unfold Li;rw[List.take_add_one,List.take_set_of_le ω,List.getElem?_set_self ω];rfl
  rw[e1,d0_,d4_,M_,c9_];congr 2;apply bQ;intro j hj;rw[List.mem_range']at hj;obtain⟨k,hk,rfl⟩:=hj;unfold Li;rw[n_,List.getElem?_set_ne ω,<-n_]
def SN(d:α)(g:Nat->α->α)(f:Nat->α)(n:Nat):Cr (Li d g) n 0 ((aU n).map f)=(aU n).map (λj=>g j (f j)):=by rw[Ajr d g n 0 _ σ,List.take_zero,y_,<-List.range_eq_range'];apply bQ;intro j hj;rw[List.mem_range]at hj;simp[n_,hj]
def Dt{l:List α}(d x:α)(h:i<l.length):(l.set i x).getD i d=x:=by rw[n_,List.getElem?_set_self h];rfl
def g15(fl t i:Nat)(c:Car):Car:=⟨c.T1,c.A3,c.E3,c.P2,((1+t%3:Nat):Int),((1+t/3%3:Nat):Int),((1+t/9%3:Nat):Int),((1+t/9%3+t/27%5:Nat):Int),(((i+t)%fl:Nat):Int)⟩
def g18(t:Nat)(_:Nat)(c:Car):Car:={ c with T1:=((1+t%16:Nat):Int) }
def g27(n1 n2:Nat)(_:Nat)(c:Car):Car:={ c with E3:=((1+n2%4:Nat):Int),P2:=((n1%5:Nat):Int) }
def Ds(fl ca t:Nat):O:={ Au fl ca with O0:=((1+t%7:Nat):Int),B0:=(aU ca).map λi=>g15 fl t i (Gb fl i) }
def UX(fl ca t:Nat):O:={ Ds fl ca t with B0:=(aU ca).map λi=>g18 t i (g15 fl t i (Gb fl i)) }
def DL(fl ca n1 n2:Nat):O:={ Ds fl ca n1 with E0:=((1+n2%3:Nat):Int),J0:=((18*ca+24+6*(n2/3):Nat):Int),B0:=(aU ca).map λi=>g27 n1 n2 i (g18 n1 i (g15 fl n1 i (Gb fl i))) }
def Aps{n:Int}(h:0<=n)(h':n<256):aO.wrap n=n:=by simp only[aA,IntKind.signed,IntKind.bits];simp;omega
def Lm(a b:Nat):aN (a:Int) (b:Int)=((a%b:Nat):Int):=by rw[e8_ ω];norm_cast
def Bdw(a b:Nat):aT (a:Int) (b:Int)=((a/b:Nat):Int):=by rw[Int.tdiv_eq_ediv_of_nonneg ω];norm_cast
def NJ(k:Nat)(ht:t<100000):J.wrap ((1:Int)+J.wrap (aN (t:Int) (k:Int)))=((1+t%k:Nat):Int):=by
 have:t%k<=t:=Nat.mod_le _ _
 rw[Lm];generalize t%k=q at this|-;rw[Ad (n:=(q:Int)) ω ω,Ad ω ω];norm_cast
def ZQ(k:Nat)(ht:t<256):aO.wrap (aT (t:Int) (k:Int))=((t/k:Nat):Int):=by
 have:t/k<=t:=Nat.div_le_self _ _
 generalize hq:t/k=q at this;rw[Bdw,hq,Aps ω ω]
def Ato{fl ca:Nat}(h1:1<=fl)(hf:fl<=100)(h2:ca<=8)(ht:t<256):
  Nl (((t:Int),(),(),(0:Int),()),(Bldg.none.tup,(Au fl ca).tup,()))=R (((t:Int),(),(),()),(Bldg.none.tup,({ Au fl ca with B0:=(Ds fl ca t).B0 }:O).tup,())):=by
 have hl:(Au fl ca).B0.length=ca:=by simp[Au]
 have h:=AN (step:=λx=>letI a:=x.2.2.1.2.2;letI b:=x.2.1.2.2;letI c:=b.2.2;letI d:=a.2.2;EI x.1.1 x.1.2.2.2.1 x.2.1.1 x.2.1.2.1 b.1 b.2.1 c.1 c.2.1 c.2.2.1 c.2.2.2.1 x.2.2.1.1 x.2.2.1.2.1 a.1 a.2.1 d.1 d.2.1 d.2.2.1 d.2.2.2.1) ca
  (λi l=>(((t:Int),(),(),(i:Int),()),(Bldg.none.tup,({ Au fl ca with B0:=l }:O).tup,()))) (Li MZ (g15 fl t)) (λ_ l=>l.length=ca) (λl=>(((t:Int),(),(),()),(Bldg.none.tup,({ Au fl ca with B0:=l }:O).tup,())))
  (λi l hi hll=>by
   refine⟨?_,by rw[Li,E_,hll]⟩;show EI (t:Int) (i:Int) Bldg.none.D0 Bldg.none.E0 Bldg.none.J0 Bldg.none.O0 Bldg.none.L0 Bldg.none.N0 Bldg.none.P0 Bldg.none.B0 (Au fl ca).D0 (Au fl ca).E0 (Au fl ca).J0 (Au fl ca).O0 (Au fl ca).L0 (Au fl ca).N0 (Au fl ca).P0 l=_;unfold EI;have hil:i<l.length:=ω;have hz:((Au fl ca).D0 !=0)=H:=by show((fl:Int) !=0)=H;simp;omega
   have w:J.wrap ((i:Int)+1)=((i+1:Nat):Int):=by rw[Ad ω ω];omega
   have e1:J.wrap ((1:Int)+J.wrap (aN (t:Int) 3))=((1+t%3:Nat):Int):=NJ 3 ω;have e2:J.wrap ((1:Int)+J.wrap (aN (aA aO (aT (t:Int) 3)) 3))=((1+t/3%3:Nat):Int):=by rw[show aO.wrap (aT (t:Int) 3)=((t/3:Nat):Int)from ZQ 3 ht];exact NJ 3 ω
   have e3:J.wrap ((1:Int)+J.wrap (aN (aA aO (aT (t:Int) 9)) 3))=((1+t/9%3:Nat):Int):=by rw[show aO.wrap (aT (t:Int) 9)=((t/9:Nat):Int)from ZQ 9 ht];exact NJ 3 ω
   have e4:J.wrap (((1+t/9%3:Nat):Int)+J.wrap (aN (aA aO (aT (t:Int) 27)) 5))=((1+t/9%3+t/27%5:Nat):Int):=by rw[show aO.wrap (aT (t:Int) 27)=((t/27:Nat):Int)from ZQ 27 ht,show aN ((t/27:Nat):Int) 5=((t/27%5:Nat):Int)from Lm _ 5,Ad (n:=((t/27%5:Nat):Int)) ω ω,Ad ω ω];norm_cast
   have e5:aN (aA J ((i:Int)+J.wrap (t:Int))) (Au fl ca).D0=(((i+t)%fl:Nat):Int):=by show aN _ (fl:Int)=_;rw[Ad (n:=(t:Int)) ω ω,Ad ω ω];exact Lm (i+t) fl
   rw[show Car.mk 0 0 0 0 0 0 0 0 0=MZ from rfl];simp only[b_ (ω:(i:Int)<(l.length:Int)),V (ω:(0:Int)<=(i:Int)) (ω:(i:Int)<(l.length:Int)),S,i_,hz,w,Dt MZ _ hil,List.set_set,e1,e2,e3,e4,e5];unfold Li g15;rfl)
  (λl hll=>by show EI (t:Int) (ca:Int) Bldg.none.D0 Bldg.none.E0 Bldg.none.J0 Bldg.none.O0 Bldg.none.L0 Bldg.none.N0 Bldg.none.P0 Bldg.none.B0 (Au fl ca).D0 (Au fl ca).E0 (Au fl ca).J0 (Au fl ca).O0 (Au fl ca).L0 (Au fl ca).N0 (Au fl ca).P0 l=_;unfold EI;rw[hll,f_ (I_ (ca:Int))];rfl)
  ca 0 (Au fl ca).B0 ω hl
 have h2:=Af h.1 ω;rw[show(Au fl ca).B0=(aU ca).map (Gb fl)from rfl,SN]at h2;exact h2
def Atp{fl ca:Nat}(_hf:fl<=100)(h2:ca<=8)(ht:t<256):
  Nm (((t:Int),(),(),(0:Int),()),(Bldg.none.tup,(Ds fl ca t).tup,()))=R (((),(),()),(Bldg.none.tup,(UX fl ca t).tup,())):=by
 have hl:(Ds fl ca t).B0.length=ca:=by simp[Ds]
 have h:=AN (step:=λx=>letI a:=x.2.2.1.2.2;letI b:=x.2.1.2.2;letI c:=b.2.2;letI d:=a.2.2;EJ x.1.1 x.1.2.2.2.1 x.2.1.1 x.2.1.2.1 b.1 b.2.1 c.1 c.2.1 c.2.2.1 c.2.2.2.1 x.2.2.1.1 x.2.2.1.2.1 a.1 a.2.1 d.1 d.2.1 d.2.2.1 d.2.2.2.1) ca
  (λi l=>(((t:Int),(),(),(i:Int),()),(Bldg.none.tup,({ Ds fl ca t with B0:=l }:O).tup,()))) (Li MZ (g18 t)) (λ_ l=>l.length=ca) (λl=>(((),(),()),(Bldg.none.tup,({ Ds fl ca t with B0:=l }:O).tup,())))
  (λi l hi hll=>by
   refine⟨?_,by rw[Li,E_,hll]⟩;show EJ (t:Int) (i:Int) Bldg.none.D0 Bldg.none.E0 Bldg.none.J0 Bldg.none.O0 Bldg.none.L0 Bldg.none.N0 Bldg.none.P0 Bldg.none.B0 (Ds fl ca t).D0 (Ds fl ca t).E0 (Ds fl ca t).J0 (Ds fl ca t).O0 (Ds fl ca t).L0 (Ds fl ca t).N0 (Ds fl ca t).P0 l=_;unfold EJ;have w:J.wrap ((i:Int)+1)=((i+1:Nat):Int):=by rw[Ad ω ω];omega
   have e1:J.wrap ((1:Int)+J.wrap (aN (t:Int) 16))=((1+t%16:Nat):Int):=NJ 16 ω;rw[show Car.mk 0 0 0 0 0 0 0 0 0=MZ from rfl];simp only[b_ (ω:(i:Int)<(l.length:Int)),V (ω:(0:Int)<=(i:Int)) (ω:(i:Int)<(l.length:Int)),S,i_,w,e1];unfold Li g18;rfl)
  (λl hll=>by show EJ (t:Int) (ca:Int) Bldg.none.D0 Bldg.none.E0 Bldg.none.J0 Bldg.none.O0 Bldg.none.L0 Bldg.none.N0 Bldg.none.P0 Bldg.none.B0 (Ds fl ca t).D0 (Ds fl ca t).E0 (Ds fl ca t).J0 (Ds fl ca t).O0 (Ds fl ca t).L0 (Ds fl ca t).N0 (Ds fl ca t).P0 l=_;unfold EJ;rw[hll,f_ (I_ (ca:Int))];rfl)
  ca 0 (Ds fl ca t).B0 ω hl
 have h2:=Af h.1 ω;rw[show(Ds fl ca t).B0=(aU ca).map (λi=>g15 fl t i (Gb fl i))from rfl,SN]at h2;exact h2
def EZ(fl ca n1 n2:Nat):O:={ DL fl ca n1 n2 with B0:=(UX fl ca n1).B0 }
def Atq{fl ca n0 n1 n2:Nat}(h2:ca<=8)(_h3:n1<256)(h4:n2<256) :
  Jm (((),(),(),(0:Int),()),(((n0:Int),(n1:Int),(n2:Int),()),Bldg.none.tup,(EZ fl ca n1 n2).tup,()))=R (((),(),()),(Bldg.none.tup,(DL fl ca n1 n2).tup,())):=by
 have hl:(EZ fl ca n1 n2).B0.length=ca:=by simp[EZ,UX]
 have h:=AN (step:=λx=>letI a:=x.2.2;letI b:=a.2.1.2.2;letI c:=a.1.2.2;letI d:=c.2.2;letI e:=b.2.2;EK x.1.2.2.2.1 x.2.1.1 x.2.1.2.1 x.2.1.2.2.1 a.1.1 a.1.2.1 c.1 c.2.1 d.1 d.2.1 d.2.2.1 d.2.2.2.1 a.2.1.1 a.2.1.2.1 b.1 b.2.1 e.1 e.2.1 e.2.2.1 e.2.2.2.1) ca
  (λi l=>(((),(),(),(i:Int),()),(((n0:Int),(n1:Int),(n2:Int),()),Bldg.none.tup,({ EZ fl ca n1 n2 with B0:=l }:O).tup,()))) (Li MZ (g27 n1 n2)) (λ_ l=>l.length=ca) (λl=>(((),(),()),(Bldg.none.tup,({ EZ fl ca n1 n2 with B0:=l }:O).tup,())))
  (λi l hi hll=>by
   refine⟨?_,by rw[Li,E_,hll]⟩;show EK (i:Int) (n0:Int) (n1:Int) (n2:Int) Bldg.none.D0 Bldg.none.E0 Bldg.none.J0 Bldg.none.O0 Bldg.none.L0 Bldg.none.N0 Bldg.none.P0 Bldg.none.B0 (EZ fl ca n1 n2).D0 (EZ fl ca n1 n2).E0 (EZ fl ca n1 n2).J0 (EZ fl ca n1 n2).O0 (EZ fl ca n1 n2).L0 (EZ fl ca n1 n2).N0 (EZ fl ca n1 n2).P0 l=_;unfold EK;have hil:i<l.length:=ω;have w:J.wrap ((i:Int)+1)=((i+1:Nat):Int):=by rw[Ad ω ω];omega
   have e1:J.wrap ((1:Int)+J.wrap (aN (n2:Int) 4))=((1+n2%4:Nat):Int):=NJ 4 ω;have e2:J.wrap (aN (n1:Int) 5)=((n1%5:Nat):Int):=by rw[show aN (n1:Int) 5=((n1%5:Nat):Int)from Lm n1 5,Ad ω ω]
   rw[show Car.mk 0 0 0 0 0 0 0 0 0=MZ from rfl];simp only[b_ (ω:(i:Int)<(l.length:Int)),V (ω:(0:Int)<=(i:Int)) (ω:(i:Int)<(l.length:Int)),S,i_,w,e1,e2,Dt MZ _ hil,List.set_set,E_];unfold Li g27;rfl)
  (λl hll=>by show EK (ca:Int) (n0:Int) (n1:Int) (n2:Int) Bldg.none.D0 Bldg.none.E0 Bldg.none.J0 Bldg.none.O0 Bldg.none.L0 Bldg.none.N0 Bldg.none.P0 Bldg.none.B0 (EZ fl ca n1 n2).D0 (EZ fl ca n1 n2).E0 (EZ fl ca n1 n2).J0 (EZ fl ca n1 n2).O0 (EZ fl ca n1 n2).L0 (EZ fl ca n1 n2).N0 (EZ fl ca n1 n2).P0 l=_;unfold EK;rw[hll,f_ (I_ (ca:Int))];rfl)
  ca 0 (EZ fl ca n1 n2).B0 ω hl
 have h2:=Af h.1 ω;rw[show(EZ fl ca n1 n2).B0=(aU ca).map (λi=>g18 n1 i (g15 fl n1 i (Gb fl i)))from rfl,SN]at h2;exact h2
def FE(n0:Nat):Nat:=2+n0%5
def Fh(n0:Nat):Nat:=1+n0/5%3
def Ace{n0:Nat}(hn:n0<256)(ht:t<256):Lp (n0:Int) (t:Int)=R (((),()),((Ds (FE n0) (Fh n0) t).tup,())):=by
 have e1:J.wrap ((2:Int)+J.wrap (aN (n0:Int) 5))=((FE n0:Nat):Int):=by rw[show aN (n0:Int) 5=((n0%5:Nat):Int)from Lm n0 5,Ad (n:=((n0%5:Nat):Int)) ω ω,Ad ω ω];unfold FE;norm_cast
 have e2:J.wrap ((1:Int)+J.wrap (aN (aA aO (aT (n0:Int) 5)) 3))=((Fh n0:Nat):Int):=by rw[show aO.wrap (aT (n0:Int) 5)=((n0/5:Nat):Int)from ZQ 5 hn];exact NJ 3 ω
 have hf:2<=FE n0/\FE n0<=6:=by unfold FE;omega
 have hc:1<=Fh n0/\Fh n0<=3:=by unfold Fh;omega
 have e3:J.wrap ((1:Int)+J.wrap (aN (t:Int) 7))=((1+t%7:Nat):Int):=NJ 7 ω;unfold Lp;rw[e1,e2];refine Ag (Ae9 ω ω) ?_;refine Ag (Ato ω ω ω ht) ?_;show R (((),()),(((FE n0:Nat):Int),(1:Int),(4000:Int),J.wrap ((1:Int)+J.wrap (aN (t:Int) 7)),_,_,_,_,()),())=_;rw[e3];rfl
def Acf{n0:Nat}(hn:n0<256)(ht:t<256):Lq (n0:Int) (t:Int)=R (((),()),((UX (FE n0) (Fh n0) t).tup,())):=by
 have hf:2<=FE n0/\FE n0<=6:=by unfold FE;omega
 have hc:1<=Fh n0/\Fh n0<=3:=by unfold Fh;omega
 unfold Lq;refine Ag (Ace hn ht) ?_;exact Ag (Atp ω ω ht) rfl
def Acg{n0 n1 n2:Nat}(h0:n0<256)(h1:n1<256)(h2:n2<256):EA (n0:Int) (n1:Int) (n2:Int)=R (((),()),((DL (FE n0) (Fh n0) n1 n2).tup,())):=by
 have hf:2<=FE n0/\FE n0<=6:=by unfold FE;omega
 have hc:1<=Fh n0/\Fh n0<=3:=by unfold Fh;omega
 have e1:J.wrap ((1:Int)+J.wrap (aN (n2:Int) 3))=((1+n2%3:Nat):Int):=NJ 3 ω;have hl:(UX (FE n0) (Fh n0) n1).B0.length=Fh n0:=by simp[UX]
 have e2:J.wrap (aA J (aA J (18*(((UX (FE n0) (Fh n0) n1).B0.length:Nat):Int))+24)+J.wrap (6*J.wrap (aA aO (aT (n2:Int) 3))))=((18*Fh n0+24+6*(n2/3):Nat):Int):=by
  rw[hl,show aO.wrap (aT (n2:Int) 3)=((n2/3:Nat):Int)from ZQ 3 h2,Ad (n:=18*((Fh n0:Nat):Int)) ω ω,Ad (n:=18*((Fh n0:Nat):Int)+24) ω ω,Ad (n:=((n2/3:Nat):Int)) ω ω,Ad (n:=6*((n2/3:Nat):Int)) ω ω,Ad ω ω]
  norm_cast
 unfold EA;refine Ag (Acf h0 h1) ?_;refine Ag (a:=(((),(),()),(Bldg.none.tup,(DL (FE n0) (Fh n0) n1 n2).tup,()))) ?_ rfl;show Jm (((),(),(),(0:Int),()),(((n0:Int),(n1:Int),(n2:Int),()),Bldg.none.tup,(((FE n0:Nat):Int),J.wrap ((1:Int)+J.wrap (aN (n2:Int) 3)),J.wrap (aA J (aA J (18*(((UX (FE n0) (Fh n0) n1).B0.length:Nat):Int))+24)+J.wrap (6*J.wrap (aA aO (aT (n2:Int) 3)))),_,_,_,_,_,()),()))=_;rw[e1,e2];exact Atq ω h1 h2
def Apz{fl ca n1 n2:Nat}(hf:2<=fl/\fl<=6)(hc:1<=ca/\ca<=3)(_h1:n1<256)(h2:n2<256):(DL fl ca n1 n2).small/\(DL fl ca n1 n2).code=0/\(DL fl ca n1 n2).B0.length=ca/\(DL fl ca n1 n2).D0=(fl:Int)/\18*(ca:Int)+24<=(DL fl ca n1 n2).J0/\(DL fl ca n1 n2).J0<=600:=by
 have hl:(DL fl ca n1 n2).B0.length=ca:=by simp[DL]
 have hr:(DL fl ca n1 n2).J0=((18*ca+24+6*(n2/3):Nat):Int):=rfl;refine⟨⟨by show(2:Int)<=(fl:Int);omega,by show(fl:Int)<=8;omega⟩,?_,hl,rfl,by rw[hr];omega,by rw[hr];omega⟩;unfold Bldg.code;have e1:inR 2 32 (DL fl ca n1 n2).D0=H:=Al.2 (by show(2:Int)<=(fl:Int)/\(fl:Int)<=32;omega);have e2:inR 1 8 ((DL fl ca n1 n2).B0.length:Int)=H:=Al.2 ω;have e3:inR 1 16 (DL fl ca n1 n2).E0=H:=Al.2 (by show(1:Int)<=((1+n2%3:Nat):Int)/\((1+n2%3:Nat):Int)<=16;omega);have e4:inR 1 10000 (DL fl ca n1 n2).O0=H:=Al.2 (by show(1:Int)<=((1+n1%7:Nat):Int)/\((1+n1%7:Nat):Int)<=10000;omega);have e5:(DL fl ca n1 n2).B0.all (DI (DL fl ca n1 n2).D0)=H:=by rw[C_];intro c hc';obtain⟨i,_,rfl⟩:=b2_.1 hc';have hm:(i+n1)%fl<fl:=Nat.mod_lt _ ω;show DI (fl:Int) (g27 n1 n2 i (g18 n1 i (g15 fl n1 i (Gb fl i))))=H;unfold DI g27 g18 g15 Gb;simp only[U_,List.all_nil,c4_,e_,Al,R_];rw[Ad (n:=(fl:Int)-1) ω ω];refine⟨⟨?_,?_,?_,?_,?_,?_,?_⟩,?_,?_,?_⟩<;>omega
 have e6:(DL fl ca n1 n2).loadsOK=H:=by
  show(Au 2 1).loadsOK=H
  kernel_rfl
 have e7:inR (18*((DL fl ca n1 n2).B0.length:Int)+24) 65536 (DL fl ca n1 n2).J0=H:=Al.2 (by rw[hl,hr];omega);rw[e1,e2,e3,e4,e5,e6,e7];rfl
def Br(h:n<1000000000):J.wrap ((n:Int)+1)=((n+1:Nat):Int):=by rw[Ad ω ω];omega
def Bli(h:n<1000000000):aE.wrap (n:Int)=(n:Int):=ET ω ω
def Ahq(l:List Int):(KF l).size=l.length:=by simp[KF,ByteArray.size]
def Bd4(x y:Int):Int:=J.wrap (stk x y (bL ((bE (IntKind.bits J) x)^^^(bE (IntKind.bits J) y))))
def Av6(_:Nat)(r:Int):Int:=bif decide (32768<=r)then Bd4 (aN (aA J (r*2)) 65536) 4129 else aN (aA J (r*2)) 65536
def Bjr(s:ByteArray)(i:Nat)(r:Int):Int:=Cr Av6 8 0 (Bd4 r (aA J (aA J (Bu s i)*256)))
def App(s:ByteArray):Int:=Cr (Bjr s) s.size 0 65535
def Aqm(s:ByteArray)(r i:Int):MO ((s,r,i,(0:Int),()),())=R ((s,Cr Av6 8 0 r,i,()),()):=by
 have h:=AN (step:=λx=>GR x.1.1 x.1.2.1 x.1.2.2.1 x.1.2.2.2.1) 8 (λk r=>((s,r,i,(k:Int),()),())) Av6 (λ_ _=>True) (λr=>((s,r,i,()),()))
  (λk r hk _=>by refine⟨?_,trivial⟩;show GR s r i (k:Int)=_;unfold GR;simp only[b_ (ω:(k:Int)<8),S,Br (ω:k<1000000000)];unfold Av6 Bd4;cases decide ((32768:Int)<=r)<;>rfl)
  (λr _=>by show GR s r i 8=_;unfold GR;rw[f_ (I_ (8:Int))];rfl) 8 0 r ω trivial
 exact Af h.1 ω
def Aot(hs:s.size<=1000000):Qh s=R ((aA bO (App s),()),()):=by
 have h:=AN (step:=λx=>GQ x.1.1 x.1.2.1 x.1.2.2.1) s.size (λi r=>((s,r,(i:Int),()),())) (Bjr s) (λ_ _=>True) (λr=>((r,()),()))
  (λi r hi _=>by refine⟨?_,trivial⟩;show GQ s r (i:Int)=_;unfold GQ;simp only[b_ (ω:(i:Int)<(s.size:Int)),V (ω:(0:Int)<=(i:Int)) (ω:(i:Int)<(s.size:Int)),S,i_];refine Ag (Aqm s _ _) ?_;show R (Sum.inl ((s,_,J.wrap ((i:Int)+1),()),()))=_;rw[Br (ω:i<1000000000)];rfl)
  (λr _=>by show GQ s r (s.size:Int)=_;unfold GQ;rw[f_ (I_ (s.size:Int))];rfl) s.size 0 65535 ω trivial
 have h2:MN ((s,(65535:Int),(0:Int),()),())=_:=Af h.1 ω;unfold Qh;exact Ag h2 rfl
def Al9(s:ByteArray):ByteArray:=KF [aO.wrap (aA bO (aT (aA bO (App s)) 256)),aO.wrap (aN (aA bO (App s)) 256)]
def Vs(s:ByteArray):ByteArray:=s++Al9 s
def Ahe(s:ByteArray):(Vs s).size=s.size+2:=by unfold Vs Al9;rw[Z_,Ahq];rfl
def Ada(hs:s.size<=1000000):NW s=R ((Vs s,()),()):=by
 unfold NW;refine Ag (Aot hs) ?_
 have:=Ahe s
 unfold Vs at this;rw[Z_]at this;show(bif aR (s.size+(Al9 s).size) 4611686018427387904 then R ((s++Al9 s,()),())else none)=_;rw[Ah ω];rfl
def Al7(s:ByteArray):ByteArray×Int:=bif decide ((s.size:Int)<2)then(noB,4)else bif eqB (Vs (s.extract 0 (s.size-2))) s then(s.extract 0 (s.size-2),0)else(noB,5)
def Aqk(hs:s.size<=1000000):Sh s=R (((Al7 s).1,(Al7 s).2,()),()):=by
 unfold Sh Al7;by_cases h:(s.size:Int)<2
 .rw[b_ h];rfl
 .rw[f_ h,W,W];have w:J.wrap ((s.size:Int)-2)=((s.size-2:Nat):Int):=by rw[Ad ω ω];omega
  simp only[w,i_];rw[b_ (ω:(0:Int)<=((s.size-2:Nat):Int)),b_ (ω:((s.size-2:Nat):Int)<=(s.size:Int)),V_,S];refine Ag (Ada (s:=s.extract 0 (s.size-2)) (by rw[Bch s ω];omega)) ?_;show(bif eqB (Vs (s.extract 0 (s.size-2))) s then _ else _)=_;cases eqB (Vs (s.extract 0 (s.size-2))) s<;>rfl
def Bk9(n:Int)(k:Nat):List Int:=(aU k).map λi=>aO.wrap (Int.fdiv n ((2:Int)^(Min.min (8*i) (IntKind.bits .u64))))
def nmB(n:Int)(k:Nat):ByteArray:=KF (Bk9 n k)
def De(n:Int)(k:Nat):(nmB n k).size=k:=by unfold nmB;rw[Ahq];simp[Bk9]
def Du(n:Int)(hk:k<=100):CE n (k:Int)=R ((nmB n k,()),()):=by
 have h:=AN (step:=λx=>Kc x.1.1 x.1.2.1 x.1.2.2.1 x.1.2.2.2.1) k (λi l=>((n,(k:Int),l,(i:Int),()),())) (Li 0 (λi _=>aO.wrap (Int.fdiv n ((2:Int)^(Min.min (8*i) (IntKind.bits .u64)))))) (λ_ l=>l.length=k) (λl=>((l,()),()))
  (λi l hi hl=>by
   refine⟨?_,by rw[Li,E_,hl]⟩;show Kc n (k:Int) l (i:Int)=_;unfold Kc;have e:aE.wrap (aA J (8*(i:Int)))=((8*i:Nat):Int):=by rw[Ad (n:=8*(i:Int)) ω ω,ET ω ω];norm_cast
   simp only[b_ (ω:(i:Int)<(k:Int)),V (ω:(0:Int)<=(i:Int)) (ω:(i:Int)<(l.length:Int)),S,i_,e,b_ (ω:(0:Int)<=((8*i:Nat):Int)),Br (ω:i<1000000000)];rfl)
  (λl hl=>by show Kc n (k:Int) l (k:Int)=_;unfold Kc;rw[f_ (I_ (k:Int))];rfl) k 0 (bH k 0) ω σ
 have h2:=Af h.1 ω;rw[show bH k (0:Int)=(aU k).map (λ_=>0)by simp[List.map_const'],SN]at h2;have h3:VD ((n,(k:Int),(aU k).map (λ_=>(0:Int)),(0:Int),()),())=_:=h2;unfold CE;rw[b_ (ω:(0:Int)<=(k:Int)),b_ (a2_ (k:Int)),b_ (ω:(k:Int)<=2147483648),V_,V_,S,i_,show bH k (0:Int)=(aU k).map (λ_=>0)by simp[List.map_const']];exact Ag h3 rfl
def WF(c:Int×Int):ByteArray:=nmB (aA aE c.1) 4++nmB (aA aE c.2) 4
def Ac4(c:Int×Int):(WF c).size=8:=by unfold WF;rw[Z_,De,De]
def Aou(c:Int×Int):Qi c.1 c.2=R ((WF c,()),()):=by unfold Qi;refine Ag (Du (aA aE c.1) (k:=4) ω) ?_;refine Ag (Du (aA aE c.2) (k:=4) ω) ?_;show(bif aR ((nmB (aA aE c.1) 4).size+(nmB (aA aE c.2) 4).size) 4611686018427387904 then _ else _)=_;rw[De,De];rfl
def Bc9(x y:Int):Int:=aE.wrap (stk x y (bL ((bE (IntKind.bits aE) x)|||(bE (IntKind.bits aE) y))))
def Bb1(l:List Bool)(i:Nat)(n:Int):Int:=bif l.getD i B then Bc9 n (aA aE (1*2^min i (IntKind.bits .u64)))else n
def Alt(l:List Bool):ByteArray:=nmB (Cr (Bb1 l) l.length 0 0) 1
def Afp(l:List Bool):(Alt l).size=1:=De _ _
def Aqp{l:List Bool}(hl:l.length<=100):Sl l=R ((Alt l,()),()):=by
 have h:=AN (step:=λx=>Iq x.1.1 x.1.2.1 x.1.2.2.1) l.length (λi n=>((l,n,(i:Int),()),())) (Bb1 l) (λ_ _=>True) (λn=>((n,()),()))
  (λi n hi _=>by refine⟨?_,trivial⟩;show Iq l n (i:Int)=_;unfold Iq;simp only[b_ (ω:(i:Int)<(l.length:Int)),V (ω:(0:Int)<=(i:Int)) (ω:(i:Int)<(l.length:Int)),S,i_,Bli (ω:i<1000000000),b_ (ω:(0:Int)<=(i:Int)),Br (ω:i<1000000000)];unfold Bb1 Bc9;cases l.getD i B<;>rfl)
  (λn _=>by show Iq l n (l.length:Int)=_;unfold Iq;rw[f_ (I_ (l.length:Int))];rfl) l.length 0 0 ω trivial
 have h2:Tx ((l,(0:Int),(0:Int),()),())=_:=Af h.1 ω;unfold Sl;refine Ag h2 ?_;exact Ag (Du _ (k:=1) ω) rfl
structure Inp where
 press:Int×Int
 kind:Int
 car:Int
 cars:List CarInput
def Inp.tup(x:Inp):Int×Int×Int×Int×List bB×Unit:=(x.press.1,x.press.2,x.kind,x.car,x.cars,())
def Inp.none:Inp:=⟨(0,0),0,0,[]⟩
def VT:bB:=bN 0 B B B B 0 B 0 B 0 0
def flV(b:O)(n:Int):Bool:=Int.fdiv (aA aE n) ((2:Int)^b.D0.toNat)==0
def Ph(b:O)(c:bB):Bool:=flV b c.Y0&&(flV b c.I1&&(inR 0 (b.D0-1) c.S1&&inR 0 2 c.U1))
def Kf(b:O)(c:Int×Int):Bool:=isZ (CW c (Dg b))
def KC(b:O)(x:Inp):Bool:=Kf b x.press&&(inR 0 8 x.kind&&(inR 0 ((b.B0.length:Int)-1) x.car&&(!(x.kind==0&&x.car !=0)&&((x.cars.length:Int)==(b.B0.length:Int)&&x.cars.all (Ph b)))))
def VK(s:ByteArray)(c:bB):ByteArray:=s++nmB (aA aE c.Y0) 4++Alt [c.B2,c.L1,c.M1,c.F1,c.E2,c.G2]++nmB (aA aE c.S1) 1++nmB (aA aE c.U1) 1++nmB (aA aE c.I1) 4++nmB ((c.X2:Nat):Int) 8
def Ajg(s:ByteArray)(c:bB):(VK s c).size=s.size+19:=by unfold VK;simp only[Z_,De,Afp]
def Al2(b:O)(x:Inp):ByteArray:=nmB 165 1++nmB (aA aE (b.B0.length:Int)) 1++WF x.press++nmB (aA aE x.kind) 1++nmB (aA aE x.car) 1
def Aga(b:O)(x:Inp):(Al2 b x).size=12:=by unfold Al2;simp only[Z_,De,Ac4]
def inV(b:O)(x:Inp):ByteArray:=Vs (x.cars.foldl VK (Al2 b x))
def Af5(l:List bB)(s:ByteArray):(l.foldl VK s).size=s.size+19*l.length:=by
 induction l generalizing s with
 |nil=>simp
 |cons c t ih=>rw[List.foldl_cons,ih,Ajg,N_];omega
def Bcr(b:O)(x:Inp):(inV b x).size=14+19*x.cars.length:=by unfold inV;rw[Ahe,Af5,Aga];omega
def Lj(n lo hi:Int):Nh n lo hi=R ((inR lo hi n,()),()):=by unfold Nh inR;cases decide (lo<=n)<;>rfl
section
variable{b:O}(hb:b.small)(hcode:b.code=0)
include hb
theorem YQ(n:Int):NZ b.D0 b.E0 b.J0 b.O0 b.L0 b.N0 b.P0 b.B0 n=R ((flV b n,()),()):=by
 have h1:=hb.1;have h2:=hb.2;have e:aE.wrap b.D0=b.D0:=ET ω ω;have e2:Min.min b.D0.toNat (IntKind.bits .u64)=b.D0.toNat:=by show min b.D0.toNat 64=_;omega
 unfold NZ flV;simp only[e,b_ (ω:(0:Int)<=b.D0),S,e2]
theorem Ak3(x:Inp)(hx:x.cars.length<=1000):OD (((),(),(0:Int),()),(b.tup,x.tup,()))=R (bif x.cars.all (Ph b)then .inl ((),())else .inr ((B,()),())):=by
 have h1:=hb.1;have h2:=hb.2;have h:=Af (Ajw (step:=λx=>letI a:=x.2.1.2.2;letI d:=x.2.2.1;letI e:=a.2.2;Ip x.1.2.2.1 x.2.1.1 x.2.1.2.1 a.1 a.2.1 e.1 e.2.1 e.2.2.1 e.2.2.2.1 d.1 d.2.1 d.2.2.1 d.2.2.2.1 d.2.2.2.2.1) x.cars VT (Ph b) (λi=>(((),(),(i:Int),()),(b.tup,x.tup,()))) (.inl ((),())) (λ_=>.inr ((B,()),())) (λi hi=>by
  show Ip (i:Int) b.D0 b.E0 b.J0 b.O0 b.L0 b.N0 b.P0 b.B0 x.press.1 x.press.2 x.kind x.car x.cars=_;unfold Ip;rw[show bN 0 B B B B 0 B 0 B 0 0=VT from rfl];have w:J.wrap (b.D0-1)=b.D0-1:=Ad ω ω;simp only[b_ (ω:(i:Int)<(x.cars.length:Int)),S,V (ω:(0:Int)<=(i:Int)) (ω:(i:Int)<(x.cars.length:Int)),i_,Br (ω:i<1000000000),w];generalize x.cars.getD i VT=c;unfold Ph;refine Ag (YQ hb c.Y0) ?_;show(bif !flV b c.Y0 then _ else _)=_;cases flV b c.Y0 with
  |false=>rfl
  |true=>
  rw[m_,W,l_];refine Ag (YQ hb c.I1) ?_;show(bif !flV b c.I1 then _ else _)=_;cases flV b c.I1 with
  |false=>rfl
  |true=>
  rw[m_,W,l_];refine Ag (Lj _ _ _) ?_;show(bif !inR 0 (b.D0-1) c.S1 then _ else _)=_;cases inR 0 (b.D0-1) c.S1 with
  |false=>rfl
  |true=>
  rw[m_,W,l_];refine Ag (Lj _ _ _) ?_;show(bif !inR 0 2 c.U1 then _ else _)=_;cases inR 0 2 c.U1<;>rfl) (by
  show Ip (x.cars.length:Int) b.D0 b.E0 b.J0 b.O0 b.L0 b.N0 b.P0 b.B0 x.press.1 x.press.2 x.kind x.car x.cars=_;unfold Ip;rw[f_ (I_ _),W]) x.cars.length 0 ω) ω
 rw[O_,Bci]at h;exact h
include hcode
theorem Nb(c:Int×Int):Oa b.D0 b.E0 b.J0 b.O0 b.L0 b.N0 b.P0 b.B0 c.1 c.2=R ((Kf b c,()),()):=by
 unfold Oa;refine Ag (QE hb hcode) ?_;have e1:=Uu c.1 (Dg b).1;have e2:=Uu c.2 (Dg b).2;show bI (bif bC.wrap _==0 then R ((aA bC _==0,()),())else _) _=_;rw[e1,e2];unfold Kf isZ;show bI (bif(CW c (Dg b)).1==0 then R (((CW c (Dg b)).2==0,()),())else _) _=_;cases(CW c (Dg b)).1==0 with
 |false=>rfl
 |true=>rw[l_,c4_];rfl
theorem Aqo(x:Inp)(hx:x.cars.length<=1000):Si b.D0 b.E0 b.J0 b.O0 b.L0 b.N0 b.P0 b.B0 x.press.1 x.press.2 x.kind x.car x.cars=R ((KC b x,()),()):=by
 have hc:=Ai hcode;have w:J.wrap ((b.B0.length:Int)-1)=(b.B0.length:Int)-1:=Ad ω ω;unfold Si KC;rw[w];have fin:∀g:Bool,bI (R (((),(),!g,()),(b.tup,x.tup,()))) (λy5:(Unit×Unit×Bool×Unit)×_=>bif y5.1.2.2.1 then R ((B,()),())else(OD (((),(),(0:Int),()),(y5.2.1,y5.2.2.1,()))).bind λy6=>(match y6 with|.inl y7=>R ((H,()),())|.inr y7=>R ((y7.1.1,()),())))=R (((g&&x.cars.all (Ph b)),()),()):=by
  intro g;cases g with
  |false=>rfl
  |true=>refine Ag rfl ?_;show(bif !H then _ else _)=_;rw[m_,W,l_];refine Ag (Ak3 hb x hx) ?_;cases x.cars.all (Ph b)<;>rfl
 rw[AO];show bI (bI (R ((b.code,()),())) _) _=_;rw[hcode];cases h1:Kf b x.press with
 |false=>refine Ag (Ag rfl (show(bif((0:Int) !=0)then _ else _)=R (((),(),!B,()),(b.tup,x.tup,()))from Ag (Nb hb hcode x.press) (by show(bif !Kf b x.press then _ else _)=_;rw[h1];rfl))) ?_;exact fin B
 |true=>
 cases h2:inR 0 8 x.kind with
 |false=>refine Ag (Ag rfl (show(bif((0:Int) !=0)then _ else _)=R (((),(),!B,()),(b.tup,x.tup,()))from Ag (Nb hb hcode x.press) (by show(bif !Kf b x.press then _ else _)=_;rw[h1,m_,W];refine Ag (Lj _ _ _) ?_;show(bif !inR 0 8 x.kind then _ else _)=_;rw[h2];rfl))) ?_;exact fin B
 |true=>
 cases h3:inR 0 ((b.B0.length:Int)-1) x.car with
 |false=>refine Ag (Ag rfl (show(bif((0:Int) !=0)then _ else _)=R (((),(),!B,()),(b.tup,x.tup,()))from Ag (Nb hb hcode x.press) (by show(bif !Kf b x.press then _ else _)=_;rw[h1,m_,W];refine Ag (Lj _ _ _) ?_;show(bif !inR 0 8 x.kind then _ else _)=_;rw[h2,m_,W];refine Ag (Lj _ _ _) ?_;show(bif !inR 0 ((b.B0.length:Int)-1) x.car then _ else _)=_;rw[h3];rfl))) ?_;exact fin B
 |true=>refine Ag (Ag rfl (show(bif((0:Int) !=0)then _ else _)=R (((),(),!(!(x.kind==0&&x.car !=0)&&((x.cars.length:Int)==(b.B0.length:Int))),()),(b.tup,x.tup,()))from Ag (Nb hb hcode x.press) (by show(bif !Kf b x.press then _ else _)=_;rw[h1,m_,W];refine Ag (Lj _ _ _) ?_;show(bif !inR 0 8 x.kind then _ else _)=_;rw[h2,m_,W];refine Ag (Lj _ _ _) ?_;show(bif !inR 0 ((b.B0.length:Int)-1) x.car then _ else _)=_;rw[h3,m_,W];have hne:((x.cars.length:Int) !=(b.B0.length:Int))=!((x.cars.length:Int)==(b.B0.length:Int)):=rfl;rw[hne];cases(x.cars.length:Int)==(b.B0.length:Int)<;>cases x.kind==0<;>cases x.car !=0<;>rfl))) ?_;refine Eq.trans (fin (!(x.kind==0&&x.car !=0)&&((x.cars.length:Int)==(b.B0.length:Int)))) ?_;simp only[l_,Bool.and_assoc]
end
def Aow(n:Int):aC (PE n) λ_=>True:=by unfold PE;exact aH
instance r05_ok_ti(n:Int):aK (PE n):=⟨Aow ..⟩
def Aqs(hf:fl<=100)(bits:Int):aC (Qj fl bits) λ_=>True:=by
 unfold Qj;refine I (Aow _) λ_ _=>C (λ_=>A trivial) λ_=>?_;refine I (Q:=λ_=>True) ?_ (λy _=>?_)
 .refine aQ (λ(k:Nat) x=>x.1.1=fl/\(0:Int)<=x.1.2.2.1/\(200:Int)<=x.1.2.2.1+(k:Int)) (λk x hx=>?_) 200 ⟨rfl,a2_ 0,show(200:Int)<=0+((200:Nat):Int)by omega⟩ τ;unfold YF;obtain⟨h0,h1,h2⟩:=hx;refine C (λg=>?_) (λ_=>A trivial);have g:=o_ g;refine U (MB _) (C (λ_=>A trivial) (λ_=>A ⟨k-1,ω,h0,?_,?_⟩))
  .show 0<=J.wrap (x.1.2.2.1+1);rw[Ad ω ω];omega
  .show 200<=J.wrap (x.1.2.2.1+1)+_;rw[Ad ω ω];omega
 .cases y<;>exact A trivial
def Aov(hf:fl<=100)(a:Int)(b c d e:Bool):aC (Ob fl a b c d e) λ_=>True:=by unfold Ob;refine I (Aqs hf _) λ_ _=>?_;exact aH
def Adb(a b c d:Int):aC (JU a b c d) λ_=>True:=by unfold JU;exact aH
instance r05_IsObs_ti(a b c d:Int):aK (JU a b c d):=⟨Adb ..⟩
def VW(a b c d:Int):aC (JV a b c d) λ_=>True:=by unfold JV;exact aH
instance r05_Shows_ti(a b c d:Int):aK (JV a b c d):=⟨VW ..⟩
def Auv(c:Int×Int):(KD c).length<=64:=by
 have h:∀k i:Nat,((bG i k).flatMap (Ey c)).length<=2*k:=by
  intro k;induction k with
  |zero=>intro i;exact H_ _
  |succ k ih=>
   intro i;rw[d0_,a1_,h_]
   have:=ih (i+1)
   have:=XC c i
   omega
 exact h 32 0
section
variable{b:O}(hb:b.small)(hcode:b.code=0){car:Nat}(hcar:car<b.B0.length)
theorem Aqt(b:O)(x:Nat):aC (Qk b.D0 b.E0 b.J0 b.O0 b.L0 b.N0 b.P0 b.B0 x) λ_=>True:=by unfold Qk;rw[AO];exact aH
structure Bldg.loads(b:Bldg):Prop where
 full:Sat (arF .sub .f64 b.N0 4589168020290535424) λ_=>True
 over:Sat (arF .sub .f64 b.P0 4589168020290535424) λ_=>True
theorem Au9(hl:b.loads)(s:Int)(x:Nat):aC (Sq b.D0 b.E0 b.J0 b.O0 b.L0 b.N0 b.P0 b.B0 s x) λ_=>True:=by unfold Sq;refine I (Aqt b x) λ_ _=>C (λ_=>A trivial) λ_=>?_;refine I (Q:=λy=>y.2.1=b.tup) (C (λ_=>C (λ_=>I hl.full λ_ _=>A rfl) λ_=>A rfl) λ_=>A rfl) λy3 h3=>?_;obtain⟨ya,yb,yc⟩:=y3;simp only at h3;subst h3;refine C (λ_=>A trivial) λ_=>?_;refine I (Q:=λ_=>True) (C (λ_=>C (λ_=>I hl.over λ_ _=>A trivial) λ_=>A trivial) λ_=>A trivial) λ_ _=>?_;exact C (λ_=>A trivial) λ_=>A trivial
include hcar in
theorem Ag6(x:aW)(hx:x.K0.length<=1000)(s0 s1:Int):aC (Ot b.D0 b.E0 b.J0 b.O0 b.L0 b.N0 b.P0 b.B0 (car:Int) x.C0 x.G0 x.K2 x.K0 x.M2 x.V2 s0 s1) λy=>y.2.1.2.2.2.1.length<=1000:=by
 unfold Ot;refine I (Q:=λy=>y.1.2.2.1.length<=x.K0.length) ?_ λy hy=>?_
 .refine aQ (λ(k:Nat) z=>∃(l:List Duty) (late:Bool) (i:Nat),z=(((car:Int),(),(),(),(),l,late,(i:Int),()),(b.tup,(x.C0,x.G0,x.K2,x.K0,x.M2,x.V2,()),(s0,s1,()),((0:Int),(0:Int),(0:Int),([]:List Duty),(0:Int),B,()),()))/\l.length<=i/\i+k=x.K0.length) (λk z hz=>?_) x.K0.length ⟨[],B,0,rfl,H_ 0,k_ _⟩ ω;obtain⟨l,late,i,rfl,hl,hk⟩:=hz;unfold Zx;refine C (λg=>?_) λ_=>A (ω:l.length<=_);have g:(i:Int)<(x.K0.length:Int):=o_ g;refine U (V (ω:(0:Int)<=(i:Int)) (show(i:Int)<(x.K0.length:Int)from g)) ?_;refine I (Q:=λy=>y.1.1=(car:Int)/\y.1.2.2.2.2.2.1=l/\y.1.2.2.2.2.2.2.2.1=(i:Int)/\y.2.1=b.tup/\y.2.2.1=(x.C0,x.G0,x.K2,x.K0,x.M2,x.V2,())/\y.2.2.2.1=(s0,s1,())/\y.2.2.2.2.1=((0:Int),(0:Int),(0:Int),([]:List Duty),(0:Int),B,())) ?_ λy hy=>?_
  .refine C (λ_=>A ⟨rfl,rfl,rfl,rfl,rfl,rfl,rfl⟩) λ_=>?_;exact U (V (ω:(0:Int)<=(car:Int)) (ω:(car:Int)<(b.B0.length:Int))) (A ⟨rfl,rfl,rfl,rfl,rfl,rfl,rfl⟩)
  .obtain⟨⟨y1,_,_,_,_,yl,yt,yi,_⟩,yb,ys,yc,y8,yd⟩:=y;obtain⟨e1,e2,e3,e4,e5,e6,e7⟩:=hy;simp only at e1 e2 e3 e4 e5 e6 e7;subst e1 e2 e3 e4 e5 e6 e7;have w:=Br (n:=i) ω;refine I (Aar _ _ _ _) λ_ _=>C (λ_=>?_) λ_=>?_
   .refine U (Ah (ω:yl.length+1<=_)) (A ⟨k-1,ω,yl++[aZ yd.1.1 yd.1.2.1 yd.1.2.2.1],yt,i+1,?_,?_,ω⟩)
    .rw[<-w]
    .rw[h_];show yl.length+1<=_;omega
   .refine A ⟨k-1,ω,yl,yt,i+1,?_,ω,ω⟩;rw[<-w]
 .exact C (λ_=>A (show([]:List Duty).length<=1000 by decide)) λ_=>A (ω:y.1.2.2.1.length<=1000)
include hb hcode hcar
theorem Alf(x:aW)(hx:x.K0.length<=1000)(a c d:Int):aC (MI b.D0 b.E0 b.J0 b.O0 b.L0 b.N0 b.P0 b.B0 (car:Int) x.C0 x.G0 x.K2 x.K0 x.M2 x.V2 a c d) λy=>y.2.1.2.2.2.1.length<=1000:=by
 have hz:([]:List Duty).length<=1000:=by decide
 unfold MI;rw[ES hb hcode hcar x ω];refine aX (C (λ_=>A hz) λ_=>?_);refine I (Adb _ _ _ _) λ_ _=>C (λ_=>A hz) λ_=>?_;refine I (VW _ _ _ _) λ_ _=>?_;refine I (Ag6 hcar x hx _ _) λy4 h4=>?_;refine I (Q:=λy=>y.2.1.2.2.2.1.length<=1000) (C (λ_=>A h4) λ_=>A h4) λy5 h5=>?_;refine I (Q:=λy=>y.2.1.2.2.2.1.length<=1000) (C (λ_=>C (λ_=>A h5) λ_=>A h5) λ_=>A h5) λy6 h6=>?_;exact C (λ_=>A h6) λ_=>A h6
theorem Aq3(x:aW)(hx:x.K0.length<=1000):aC (Qo b.D0 b.E0 b.J0 b.O0 b.L0 b.N0 b.P0 b.B0 (car:Int) x.C0 x.G0 x.K2 x.K0 x.M2 x.V2) λy=>y.2.1.2.2.2.1.length<=1000:=by
 have hz:([]:List Duty).length<=1000:=by decide
 unfold Qo;rw[ES hb hcode hcar x ω];refine aX (C (λ_=>A hz) λ_=>?_);exact I (Ag6 hcar x hx _ _) λy4 h4=>A h4
theorem Ao4(x:aW)(hx:x.K0.length<=1000):aC (Oo b.D0 b.E0 b.J0 b.O0 b.L0 b.N0 b.P0 b.B0 (car:Int) x.C0 x.G0 x.K2 x.K0 x.M2 x.V2) λy=>y.2.1.2.2.2.1.length<=1000:=by
 have hz:([]:List Duty).length<=1000:=by decide
 unfold Oo;rw[ES hb hcode hcar x ω];exact aX (C (λ_=>A hz) λ_=>A hz)
theorem Aq4(x:aW)(hx:x.K0.length<=1000):aC (Qp b.D0 b.E0 b.J0 b.O0 b.L0 b.N0 b.P0 b.B0 (car:Int) x.C0 x.G0 x.K2 x.K0 x.M2 x.V2) λ_=>True:=by have ib:aG (car:Int) b.B0.length=H:=V ω ω;unfold Qp;rw[ES hb hcode hcar x ω];exact aH
theorem Ao5(x:aW)(hx:x.K0.length<=1000)(c0 c1:Int):aC (Oq b.D0 b.E0 b.J0 b.O0 b.L0 b.N0 b.P0 b.B0 (car:Int) x.C0 x.G0 x.K2 x.K0 x.M2 x.V2 c0 c1) λy=>y.2.1.2.2.2.1.length<=1000:=by
 have hz:([]:List Duty).length<=1000:=by decide
 unfold Oq;rw[ES hb hcode hcar x ω];refine aX (C (λ_=>A hz) λ_=>?_);refine aS (QE hb hcode) ?_;refine aS (VY (Anz b)) ?_;have hlc:=Auv (Dg b);generalize KD (Dg b)=all at hlc;refine I (Q:=λy=>y.1.2.2.1.length<=1000) ?_ λy hy=>C (λ_=>A hy) λ_=>A hy;refine aQ (λ(k:Nat) z=>∃(l:List Duty) (i:Nat),z=(((),(),(),all,l,(i:Int),()),((x.C0,x.G0,x.K2,x.K0,x.M2,x.V2,()),(c0,c1,()),((0:Int),(0:Int),(0:Int),([]:List Duty),(0:Int),B,()),()))/\l.length<=i/\i+k=all.length) (λk z hz=>?_) all.length ⟨[],0,rfl,H_ 0,k_ _⟩ ω;obtain⟨l,i,rfl,hl,hk⟩:=hz;unfold WA;refine C (λg=>?_) λ_=>A (ω:l.length<=_);have g:(i:Int)<(all.length:Int):=o_ g;have ib:aG (i:Int) all.length=H:=V (ω:(0:Int)<=(i:Int)) g;refine U ib (U ib ?_);refine I (Q:=λy=>y.1.2.2.2.1=all/\y.1.2.2.2.2.1=l/\y.1.2.2.2.2.2.1=(i:Int)/\y.2.1=(x.C0,x.G0,x.K2,x.K0,x.M2,x.V2,())/\y.2.2.1=(c0,c1,())/\y.2.2.2.1=((0:Int),(0:Int),(0:Int),([]:List Duty),(0:Int),B,())) ?_ λy1 h1=>?_
 .refine aQ (λ(k:Nat) z=>∃(f d age:Int) (j:Nat),z=(((),(),(),all,l,(i:Int),f,d,age,(j:Int),()),((x.C0,x.G0,x.K2,x.K0,x.M2,x.V2,()),(c0,c1,()),((0:Int),(0:Int),(0:Int),([]:List Duty),(0:Int),B,()),()))/\j+k=x.K0.length) (λk z hz=>?_) x.K0.length ⟨_,_,_,0,rfl,k_ _⟩ ω;obtain⟨f,d,age,j,rfl,hj⟩:=hz;unfold WB;refine C (λg=>?_) λ_=>A ⟨rfl,rfl,rfl,rfl,rfl,rfl⟩;have g:(j:Int)<(x.K0.length:Int):=o_ g;have ib:aG (j:Int) x.K0.length=H:=V (ω:(0:Int)<=(j:Int)) g;have w:=Br (n:=j) ω;refine I (Q:=λy=>∃q:Bool,y=(((),(),(),all,l,(i:Int),f,d,age,(j:Int),q,()),((x.C0,x.G0,x.K2,x.K0,x.M2,x.V2,()),(c0,c1,()),((0:Int),(0:Int),(0:Int),([]:List Duty),(0:Int),B,()),()))) ?_ λy hy=>?_
  .exact U ib (C (λ_=>U ib (A ⟨_,rfl⟩)) λ_=>A ⟨_,rfl⟩)
  .obtain⟨q,rfl⟩:=hy;refine C (λ_=>U ib (A ⟨k-1,ω,f,d,(x.K0.getD j (aZ 0 0 0)).I5,j+1,?_,ω⟩)) λ_=>A ⟨k-1,ω,f,d,age,j+1,?_,ω⟩
   .rw[<-w];rfl
   .rw[<-w]
 .obtain⟨⟨_,_,_,ya,yl,yi,yf,yd,yage,_⟩,ys,yc,y8,_⟩:=y1;obtain⟨e1,e2,e3,e4,e5,e6⟩:=h1;simp only at e1 e2 e3 e4 e5 e6;subst e1 e2 e3 e4 e5 e6;have w:=Br (n:=i) ω;refine I (Q:=λy=>∃age:Int,y=(((),(),(),ya,yl,(i:Int),yf,yd,age,()),((x.C0,x.G0,x.K2,x.K0,x.M2,x.V2,()),(c0,c1,()),((0:Int),(0:Int),(0:Int),([]:List Duty),(0:Int),B,()),()))) ?_ λy hy=>?_
  .refine I (Q:=λy=>∃q:Bool,y=(((),(),(),ya,yl,(i:Int),yf,yd,yage,q,()),((x.C0,x.G0,x.K2,x.K0,x.M2,x.V2,()),(c0,c1,()),((0:Int),(0:Int),(0:Int),([]:List Duty),(0:Int),B,()),()))) ?_ λy hy=>?_
   .exact C (λ_=>I (Aar _ _ _ _) λ_ _=>A ⟨_,rfl⟩) λ_=>A ⟨_,rfl⟩
   .obtain⟨q,rfl⟩:=hy;exact C (λ_=>A ⟨_,rfl⟩) λ_=>A ⟨_,rfl⟩
  .obtain⟨age,rfl⟩:=hy;refine C (λ_=>?_) λ_=>A ⟨k-1,ω,yl,i+1,?_,ω,ω⟩
   .refine U (Ah (ω:yl.length+1<=_)) (A ⟨k-1,ω,yl++[aZ yf yd age],i+1,?_,?_,ω⟩)
    .rw[<-w]
    .rw[h_];show yl.length+1<=_;omega
   .rw[<-w]
theorem Aq5(p:Int)(x:aW)(hx:x.K0.length<=1000):aC (Qq b.D0 b.E0 b.J0 b.O0 b.L0 b.N0 b.P0 b.B0 (car:Int) p x.C0 x.G0 x.K2 x.K0 x.M2 x.V2) λ_=>True:=by
 unfold Qq;rw[ES hb hcode hcar x ω];refine I (Q:=λy=>∃q:Bool,y=(((car:Int),(),(),(),q,()),(b.tup,(x.C0,x.G0,x.K2,x.K0,x.M2,x.V2,()),((0:Int),(0:Int),B,()),()))) ?_ λy hy=>?_
 .exact C (λ_=>C (λ_=>A ⟨_,rfl⟩) λ_=>aX (A ⟨_,rfl⟩)) λ_=>aX (A ⟨_,rfl⟩)
 obtain⟨q,rfl⟩:=hy;refine C (λ_=>A trivial) λ_=>I (Q:=λ_=>True) ?_ λ_ _=>A trivial;refine aQ (λ(k:Nat) z=>∃(u v:Int) (w:Bool) (i:Nat),z=(((car:Int),(),(),(),(),(i:Int),()),(b.tup,(x.C0,x.G0,x.K2,x.K0,x.M2,x.V2,()),((0:Int),(0:Int),B,()),(u,v,w,()),()))/\i+k=x.K0.length) (λk z hz=>?_) x.K0.length ⟨_,_,_,0,rfl,k_ _⟩ ω;obtain⟨u,v,cw,i,rfl,hk⟩:=hz;unfold YI;refine C (λg=>?_) λ_=>A trivial;have g:(i:Int)<(x.K0.length:Int):=o_ g;have ib:aG (i:Int) x.K0.length=H:=V (ω:(0:Int)<=(i:Int)) g;have ic:aG (car:Int) b.B0.length=H:=V ω ω;have w:=Br (n:=i) ω;refine U ib (U ic (C (λ_=>U ib (U ib ?_)) λ_=>A ⟨k-1,ω,u,v,cw,i+1,?_,ω⟩))
 .refine aS (LS _ _) (aS (IE (u,v) _) (A ⟨k-1,ω,(FL (u,v) (Lh (x.K0.getD i (aZ 0 0 0)).C0 (x.K0.getD i (aZ 0 0 0)).G0)).1,(FL (u,v) (Lh (x.K0.getD i (aZ 0 0 0)).C0 (x.K0.getD i (aZ 0 0 0)).G0)).2,cw,i+1,?_,ω⟩));rw[<-w];rfl
 .rw[<-w]
end
def Qe(n:Int):Prop:=0<=n/\n<4294967296
def Ue(a b c d e f:Int):aC (PI a b c d e f) λ_=>True:=by unfold PI;exact aH
instance r21_is_ti(a b c d e f:Int):aK (PI a b c d e f):=⟨Ue ..⟩
def Avg(hf:fl<=100)(a b c d e f g:Int):aC (Sw fl a b c d e f g) λ_=>True:=by
 unfold Sw;refine C (λ_=>A trivial) λ_=>C (λ_=>A trivial) λ_=>C (λ_=>A trivial) λ_=>C (λ_=>A trivial) λ_=>C (λ_=>A trivial) λ_=>C (λ_=>A trivial) λ_=>?_;refine I (Q:=λy=>y.1.1=fl) ?_ λy1 h1=>C (λ_=>A trivial) λ_=>?_
 .refine C (λ_=>C (λ_=>C (λ_=>A rfl) λ_=>?_) λ_=>?_) λ_=>?_
  .exact C (λ_=>C (λ_=>A rfl) λ_=>A rfl) λ_=>A rfl
  .exact C (λ_=>C (λ_=>A rfl) λ_=>A rfl) λ_=>A rfl
  .exact C (λ_=>C (λ_=>A rfl) λ_=>A rfl) λ_=>A rfl
 refine I (Q:=λ_=>True) ?_ λy2 _=>?_
 .refine aQ (λ(k:Nat) x=>x.1.1=fl/\(0:Int)<=x.1.2.2.2.2.2.2.2.2.1/\(200:Int)<=x.1.2.2.2.2.2.2.2.2.1+(k:Int)) (λk x hx=>?_) 200 ⟨h1,a2_ 0,show(200:Int)<=0+((200:Nat):Int)by omega⟩ τ;unfold Zy;obtain⟨h0,h1,h2⟩:=hx;refine C (λg=>?_) (λ_=>A trivial);have g:=o_ g;refine I (Q:=λy=>y.1.1=fl/\y.1.2.2.2.2.2.2.2.2.1=x.1.2.2.2.2.2.2.2.2.1) ?_ λy hy=>?_
  .refine I (Ue _ _ _ _ _ _) λ_ _=>C (λ_=>A ⟨h0,rfl⟩) λ_=>?_;refine I (Ue _ _ _ _ _ _) λ_ _=>C (λ_=>A ⟨h0,rfl⟩) λ_=>?_;exact I (Ue _ _ _ _ _ _) λ_ _=>A ⟨h0,rfl⟩
  .obtain⟨e0,e1⟩:=hy;have w:J.wrap (y.1.2.2.2.2.2.2.2.2.1+1)=x.1.2.2.2.2.2.2.2.2.1+1:=by rw[e1,Ad ω ω]
   exact C (λ_=>A ⟨k-1,ω,e0,by show 0<=J.wrap (y.1.2.2.2.2.2.2.2.2.1+1);omega,by show 200<=J.wrap (y.1.2.2.2.2.2.2.2.2.1+1)+_;omega⟩) λ_=>A ⟨k-1,ω,e0,by show 0<=J.wrap (y.1.2.2.2.2.2.2.2.2.1+1);omega,by show 200<=J.wrap (y.1.2.2.2.2.2.2.2.2.1+1)+_;omega⟩
 .exact aH
def Aq6(hf:fl<=100)(a b c:Int):aC (Qr fl a b c) λ_=>True:=by
 unfold Qr;refine C (λ_=>A trivial) λ_=>C (λ_=>A trivial) λ_=>?_;refine I (Q:=λ_=>True) ?_ λ_ _=>A trivial;refine aQ (λ(k:Nat) x=>x.1.1=fl/\(0:Int)<=x.1.2.2.2.1/\(200:Int)<=x.1.2.2.2.1+(k:Int)) (λk x hx=>?_) 200 ⟨rfl,a2_ 0,show(200:Int)<=0+((200:Nat):Int)by omega⟩ τ;unfold YJ;obtain⟨h0,h1,h2⟩:=hx;refine C (λg=>?_) (λ_=>A trivial);have g:=o_ g;refine I (Q:=λy=>y.1.1=fl/\y.1.2.2.2.1=x.1.2.2.2.1) ?_ λy hy=>?_
 .refine aQ (λ(k:Nat) z=>z.1.1=fl/\z.1.2.2.2.1=x.1.2.2.2.1/\(0:Int)<=z.1.2.2.2.2.1/\(3:Int)<=z.1.2.2.2.2.1+(k:Int)) (λk z hz=>?_) 3 ⟨h0,rfl,a2_ 0,show(3:Int)<=0+((3:Nat):Int)by omega⟩ τ;unfold YK;obtain⟨z0,z1,z2,z3⟩:=hz;refine C (λg=>?_) (λ_=>A ⟨z0,z1⟩);have g:=o_ g;have w:J.wrap (z.1.2.2.2.2.1+1)=z.1.2.2.2.2.1+1:=Ad ω ω;refine I (Ue _ _ _ _ _ _) λ_ _=>?_;exact C (λ_=>A ⟨k-1,ω,z0,z1,by show 0<=J.wrap (z.1.2.2.2.2.1+1);omega,by show 3<=J.wrap (z.1.2.2.2.2.1+1)+_;omega⟩) λ_=>A ⟨k-1,ω,z0,z1,by show 0<=J.wrap (z.1.2.2.2.2.1+1);omega,by show 3<=J.wrap (z.1.2.2.2.2.1+1)+_;omega⟩
 .obtain⟨e0,e1⟩:=hy;have w:J.wrap (y.1.2.2.2.1+1)=x.1.2.2.2.1+1:=by rw[e1,Ad ω ω]
  exact A ⟨k-1,ω,e0,by show 0<=J.wrap (y.1.2.2.2.1+1);omega,by show 200<=J.wrap (y.1.2.2.2.1+1)+_;omega⟩
def Ai3(hb:b.small)(car:Int)(v:aD)(floor dir:Int):aC (EB b.D0 b.E0 b.J0 b.O0 b.L0 b.N0 b.P0 b.B0 car v.O2 v.L2 v.N2 v.B3 v.C0 v.G0 v.X2 v.I2 v.X1 v.D2 v.G1 v.D1 floor dir) λ_=>True:=by have hz:=hb.hi;unfold EB;rw[AO];refine aX (C (λ_=>A trivial) λ_=>C (λ_=>A trivial) λg1=>C (λ_=>A trivial) λg2=>?_);have ib:aG car b.B0.length=H:=V (by have:=K_ g1;omega) (by have:=K_ g2;omega);refine C (λ_=>A trivial) λ_=>?_;refine I (Q:=λy=>y.1.1=car/\y.2.1=b.tup) (C (λ_=>A ⟨rfl,rfl⟩) λ_=>A ⟨rfl,rfl⟩) λy2 h2=>?_;obtain⟨⟨yc,ya⟩,yb,yv⟩:=y2;obtain⟨e1,e2⟩:=h2;simp only at e1 e2;subst e1 e2;refine I (Avg (fl:=b.D0) ω _ _ _ _ _ _ _) λ_ _=>C (λ_=>A trivial) λ_=>?_;refine U ib ?_;exact I (Aq6 (fl:=b.D0) ω _ _ _) λ_ _=>A trivial
structure View.ok(v:View):Prop where
 c:Qe v.D2
 u:Qe v.G1
 d:Qe v.D1
def Auf(b:O)(car:Int)(v:aD)(floor dir:Int):Option ((Int×Unit)×Unit):=EB b.D0 b.E0 b.J0 b.O0 b.L0 b.N0 b.P0 b.B0 car v.O2 v.L2 v.N2 v.B3 v.C0 v.G0 v.X2 v.I2 v.X1 v.D2 v.G1 v.D1 floor dir
def Aij(b:O)(car:Int)(v:aD)(floor dir:Int):Int:=match Auf b car v floor dir with|some r=>r.1.1|none=>0
def Arw(hb:b.small){v:aD}(_hv:v.ok)(car floor dir:Int):Auf b car v floor dir=R ((Aij b car v floor dir,()),()):=by obtain⟨r,h,_⟩:=Ai3 hb car v floor dir;have h':Auf b car v floor dir=R r:=h;rw[show Aij b car v floor dir=r.1.1 by unfold Aij;rw[h']];exact h'
def Vc(v:aD):Bool:=v.X2==3||v.X2==4
def VZ(v:aD):Lz v.O2 v.L2 v.N2 v.B3 v.C0 v.G0 v.X2 v.I2 v.X1 v.D2 v.G1 v.D1=R ((Vc v,()),()):=by unfold Lz Vc;cases v.X2==3<;>rfl
def Ady(a b:Int×Int):Bool:=decide (a.1<b.1)||(a.1==b.1&&decide (a.2<b.2))
def YS(a b:Int×Int):KR a.1 a.2 b.1 b.2=R ((Ady a b,()),()):=by unfold KR Ady;cases decide (a.1<b.1)<;>cases a.1==b.1<;>rfl
def AD(vs:List aD)(i:Int):aD:=vs.getD i.toNat (aL B B B B 0 0 0 0 0 0 0 0)
def okViews(vs:List aD):Prop:=∀v∈vs,v.ok
def View.ok_none:View.ok (aL B B B B 0 0 0 0 0 0 0 0):=⟨⟨τ,τ⟩,⟨τ,τ⟩,⟨τ,τ⟩⟩
def okViews.at(h:okViews vs)(i:Int):(AD vs i).ok:=by
 unfold AD;rw[n_];cases hq:vs[i.toNat]? with
 |none=>exact View.ok_none
 |some v=>exact h v (p_ hq)
def LT(b:O)(vs:List aD)(floor dir:Int)(car:Int):Int×Int:=((bif Vc (AD vs car)then 1 else 0),Aij b car (AD vs car) floor dir)
def QG(hb:b.small)(hv:okViews vs){car:Int}(hc:0<=car/\car<vs.length)(floor dir:Int):
  Ov b.D0 b.E0 b.J0 b.O0 b.L0 b.N0 b.P0 b.B0 vs car floor dir=R (((),()),(((LT b vs floor dir car).1,(LT b vs floor dir car).2,()),())):=by
 unfold Ov;have e:EB b.D0 b.E0 b.J0 b.O0 b.L0 b.N0 b.P0 b.B0 car (AD vs car).O2 (AD vs car).L2 (AD vs car).N2 (AD vs car).B3 (AD vs car).C0 (AD vs car).G0 (AD vs car).X2 (AD vs car).I2 (AD vs car).X1 (AD vs car).D2 (AD vs car).G1 (AD vs car).D1 floor dir=_:=Arw hb (hv.at car) car floor dir;have ef:=VZ (AD vs car);unfold AD at ef e;simp only[V hc.1 hc.2,S,ef,a_];unfold LT;unfold AD;cases Vc (vs.getD car.toNat (aL B B B B 0 0 0 0 0 0 0 0))<;>(simp only[S,W,a_,V hc.1 hc.2,e])
def TK(b:O)(vs:List aD)(floor dir except:Int)(i best:Int):Int:=bif !(AD vs i).O2||i==except then best else bif best==-1||Ady (LT b vs floor dir i) (LT b vs floor dir best)then i else best
def Als(b:O)(vs:List aD)(floor dir except:Int):Nat->Nat->Int->Int
 |0,_,best=>best
 |m+1,i,best=>Als b vs floor dir except m (i+1) (TK b vs floor dir except i best)
def Hb(b:O)(vs:List aD)(floor dir except:Int):Int:=bif b.code !=0||(vs.length:Int) !=(b.B0.length:Int)then -1 else Als b vs floor dir except vs.length 0 (-1)
def Re(vs:List aD)(best:Int):Prop:=best=-1\/(0<=best/\best<vs.length)
def Ac3{floor dir except:Int}(hi:i<vs.length){best:Int}(h:Re vs best):Re vs (TK b vs floor dir except i best):=by
 unfold TK;cases(!(AD vs i).O2||(i:Int)==except)with
 |true=>exact h
 |false=>
  simp only[W];cases(best==-1||Ady (LT b vs floor dir i) (LT b vs floor dir best))with
  |true=>exact .inr (by simp only[S];omega)
  |false=>exact h
def Vl{b:O}(hb:b.small){vs:List aD}(hv:okViews vs)(hl:vs.length<=100)(floor dir except:Int) :
  ∀(m i:Nat) (best:Int),i+m=vs.length->Re vs best->
   Bx (λx=>letI a:=x.2.1.2.2;letI c:=x.1.2.2;letI d:=a.2.2;Gk x.1.1 x.1.2.1 c.1 c.2.1 c.2.2.2.1 c.2.2.2.2.1 x.2.1.1 x.2.1.2.1 a.1 a.2.1 d.1 d.2.1 d.2.2.1 d.2.2.2.1) (m+1) ((vs,floor,dir,except,(),best,(i:Int),()),(b.tup,()))=R ((Als b vs floor dir except m i best,()),())
 |0,i,best,hi,hin=>by
  refine At ?_;show Gk vs floor dir except best (i:Int) b.D0 b.E0 b.J0 b.O0 b.L0 b.N0 b.P0 b.B0=_;unfold Gk;have e:decide ((i:Int)<(vs.length:Int))=B:=by simp;omega
  rw[e];rfl
 |m+1,i,best,hi,hin=>by
  have hi':i<vs.length:=ω;have e:decide ((i:Int)<(vs.length:Int))=H:=by simp;omega
  have ib:aG (i:Int) vs.length=H:=V ω ω;have w:J.wrap ((i:Int)+1)=((i+1:Nat):Int):=by rw[Ad ω ω];omega
  refine(AM (x':=((vs,floor,dir,except,(),TK b vs floor dir except i best,((i+1:Nat):Int),()),(b.tup,()))) ?_).trans (Vl hb hv hl floor dir except m (i+1) _ ω (Ac3 hi' hin));show Gk vs floor dir except best (i:Int) b.D0 b.E0 b.J0 b.O0 b.L0 b.N0 b.P0 b.B0=_;unfold Gk;have k1:=QG hb hv (car:=(i:Int)) ω floor dir;rw[e,ib,w];simp only[S];unfold TK;rw[show vs.getD (bK (i:Int)) (aL B B B B 0 0 0 0 0 0 0 0)=AD vs (i:Int)from rfl];cases(AD vs (i:Int)).O2 with
  |false=>rfl
  |true=>
   simp only[m_,W,c6_];cases(i:Int)==except with
   |true=>rfl
   |false=>
    simp only[W];rcases hin with hbest|hbest
    .subst hbest;rw[show decide ((-1:Int)<0)=H from rfl,show((-1:Int)==-1)=H from rfl];simp only[S,a_,w,Bool.true_or];rfl
    .have k2:=QG hb hv hbest floor dir;rw[f_ (ω:¬best<0),Av (ω:¬best=-1),k1,k2];simp only[W,a_,c6_,YS];cases Ady (LT b vs floor dir i) (LT b vs floor dir best)<;>(simp only[S,W,w];rfl)
def RS(hb:b.small)(hv:okViews vs)(hl:vs.length<=100)(floor dir except:Int):
  KT b.D0 b.E0 b.J0 b.O0 b.L0 b.N0 b.P0 b.B0 vs floor dir except=R ((Hb b vs floor dir except,()),()):=by
 unfold KT Hb;rw[AO,a_];cases b.code !=0 with
 |true=>rfl
 |false=>
  simp only[W,c6_];cases(vs.length:Int) !=(b.B0.length:Int)with
  |true=>rfl
  |false=>have h:=Af (Vl hb hv hl floor dir except vs.length 0 (-1) ω (.inl rfl)) ω;have h':PR ((vs,floor,dir,except,(),(-1:Int),(0:Int),()),(b.tup,()))=_:=h;simp only[W];refine(congrArg (λz=>bI z _) h').trans ?_;rfl
def Amt{b:O}{vs:List aD}{floor dir except:Int}:∀(m i:Nat) (best:Int),i+m=vs.length->Re vs best->Re vs (Als b vs floor dir except m i best)
 |0,_,_,_,h=>h
 |m+1,i,best,hi,h=>Amt m (i+1) _ ω (Ac3 ω h)
def SH(b:O)(vs:List aD)(floor dir except:Int):Re vs (Hb b vs floor dir except):=by
 unfold Hb;cases(b.code !=0||(vs.length:Int) !=(b.B0.length:Int))with
 |true=>exact .inl rfl
 |false=>exact Amt vs.length 0 (-1) ω (.inl rfl)
def Ah5(b:O)(vs:List aD)(e:Z)(x n:Int):Bool:=((AD vs e.U0).N2&&(x==0&&Ady (LT b vs e.C0 e.G0 n) (LT b vs e.C0 e.G0 e.U0)))||(!(AD vs e.U0).N2&&(Vc (AD vs e.U0)&&!Vc (AD vs n)))
def Rq(b:O)(vs:List aD)(e:Z)(x:Int):Int:=bif Hb b vs e.C0 e.G0 e.U0==-1 then -1 else bif Ah5 b vs e x (Hb b vs e.C0 e.G0 e.U0)then Hb b vs e.C0 e.G0 e.U0 else -1
def Iz(b:O)(vs:List aD)(e:Z)(x:Int):Z:=
 bif e.U0==-2 then e
 else bif e.U0==-1 then⟨e.C0,e.G0,Hb b vs e.C0 e.G0 (-1),e.X0,e.N1⟩
 else bif(AD vs e.U0).B3 then(bif decide ((b.B0.length:Int)<e.X0)then⟨e.C0,e.G0,-2,e.X0,e.N1⟩else⟨e.C0,e.G0,Hb b vs e.C0 e.G0 e.U0,e.X0+1,e.N1⟩)
 else bif !e.N1&&decide (e.X0<=(b.B0.length:Int))then(bif Rq b vs e x != -1 then⟨e.C0,e.G0,Rq b vs e x,e.X0+1,H⟩else e)
 else e
def Entry.tup(e:Z):Int×Int×Int×Int×Bool×Unit:=(e.C0,e.G0,e.U0,e.X0,e.N1,())
section
variable{b:O}(hb:b.small){vs:List aD}(hv:okViews vs)(hl:vs.length<=100){e:Z}
include hb hv hl
theorem Ai4(hcl:b.B0.length<=100)(hc:-2<=e.U0/\e.U0<vs.length)(hm:0<=e.X0/\e.X0<=255)(x:Int):MK b.D0 b.E0 b.J0 b.O0 b.L0 b.N0 b.P0 b.B0 e.C0 e.G0 e.U0 e.X0 e.N1 x vs=R (((),()),((Iz b vs e x).tup,())):=by
 unfold MK Iz;have w:J.wrap (e.X0+1)=e.X0+1:=Ad ω ω;have wc:J.wrap ((b.B0.length:Int)+1)=(b.B0.length:Int)+1:=Ad ω ω;have d1:decide ((b.B0.length:Int)+1<=e.X0)=decide ((b.B0.length:Int)<e.X0):=decide_eq_decide.2 ω;have d2:decide ((b.B0.length:Int)<e.X0)=!decide (e.X0<=(b.B0.length:Int)):=TP _ _;by_cases g1:e.U0=-2
 .rw[show(e.U0==-2)=H by rw[g1];rfl];rfl
 rw[Av g1];by_cases g2:e.U0=-1
 .rw[show(e.U0==-1)=H by rw[g2];rfl];simp only[S,W,RS hb hv hl,a_];rfl
 rw[Av g2];have hc':0<=e.U0/\e.U0<vs.length:=ω;unfold AD;simp only[W,V hc'.1 hc'.2,S,wc,d1];cases hlost:(vs.getD e.U0.toNat (aL B B B B 0 0 0 0 0 0 0 0)).B3 with
 |true=>
  simp only[S,a_];cases decide ((b.B0.length:Int)<e.X0)with
  |true=>rfl
  |false=>simp only[W,V hc'.1 hc'.2,S,hlost,RS hb hv hl,a_,w];rfl
 |false=>
  simp only[W,a_,V hc'.1 hc'.2,S,hlost];cases hmv:e.N1 with
  |true=>simp only[m_,S,W,S_];unfold Entry.tup;rw[hmv]
  |false=>
   simp only[a7_,W,l_,d1,d2];cases decide (e.X0<=(b.B0.length:Int))with
   |false=>simp only[a7_,S,W];unfold Entry.tup;rw[hmv]
   |true=>
    simp only[m_,S,W,RS hb hv hl,a_];unfold Rq;have hn:=SH b vs e.C0 e.G0 e.U0;generalize Hb b vs e.C0 e.G0 e.U0=n at hn;rcases hn with rfl|hn
    .show _=R (((),()),(Entry.tup e,()));unfold Entry.tup;rw[hmv];rfl
    .have k1:=QG hb hv hn e.C0 e.G0;have k2:=QG hb hv hc' e.C0 e.G0;have f1:=VZ (AD vs e.U0);have f2:=VZ (AD vs n);rw[f_ (ω:¬n<0),Av (ω:¬n=-1)];unfold Ah5;unfold AD at f1 f2|-;rw[hlost]at f1;simp only[W];have fin:∀p:Bool,(R (((),()),((bif p then(⟨e.C0,e.G0,n,e.X0+1,H⟩:Z)else e).tup,())):Option ((Unit×Unit)×((Int×Int×Int×Int×Bool×Unit)×Unit)))=R (((),()),((bif(bif p then n else -1) != -1 then(⟨e.C0,e.G0,(bif p then n else -1),e.X0+1,H⟩:Z)else e).tup,())):=λp=>by
      cases p with
      |true=>simp only[S];rw[FP (ω:¬n=-1)];rfl
      |false=>rfl
     refine Eq.trans ?_ (fin _);cases hleg:(vs.getD e.U0.toNat (aL B B B B 0 0 0 0 0 0 0 0)).N2 with
     |true=>
      simp only[S,l_,m_,S_,Bool.or_false];cases x==0 with
      |true=>
       simp only[S,l_,k1,k2,a_,YS];cases Ady (LT b vs e.C0 e.G0 n) (LT b vs e.C0 e.G0 e.U0)with
       |true=>simp only[S,a_,w];rfl
       |false=>simp only[W,a_,m_];unfold Entry.tup;rw[hmv]
      |false=>simp only[W,a_,m_,S_];unfold Entry.tup;rw[hmv]
     |false=>
      rw[hleg]at f1;simp only[W,S_,a7_,l_,c6_,a_,S,f1];cases Vc (vs.getD e.U0.toNat (aL B B B B 0 0 0 0 0 0 0 0))with
      |false=>simp only[W,a_,S_];unfold Entry.tup;rw[hmv]
      |true=>
       simp only[S,V hn.1 hn.2,l_,f2,a_];cases Vc (vs.getD n.toNat (aL B B B B 0 0 0 0 0 0 0 0))with
       |true=>simp only[m_,W];unfold Entry.tup;rw[hmv]
       |false=>simp only[a7_,S,w];rfl
end
def Arm(x y:Int):(x !=y)=(y !=x):=by
 by_cases h:x=y
 .rw[h]
 .rw[FP h,FP (λh'=>h h'.symm)]
def QJ(was now:Z):List aI:=(bif was.X0 !=now.X0||!(was.N1==now.N1)then [⟨7,now.C0,now.G0,(bif now.N1 then 1 else 0),now.X0⟩]else [])++(bif was.U0 !=now.U0 then [⟨3,now.C0,now.G0,now.U0,0⟩]else [])
def Akf(a b:Z):(QJ a b).length<=2:=by unfold QJ;cases(a.X0 !=b.X0||!(a.N1==b.N1))<;>cases a.U0 !=b.U0<;>simp
def At1(b:O)(i:Int):Car:=b.B0.getD i.toNat (Car.mk 0 0 0 0 0 0 0 0 0)
def Au0(b:O)(vs:List aD)(e n:Z)(x:Int):Int:=
 bif n.U0 !=e.U0&&decide (0<=n.U0)then(bif decide (1000000<J.wrap (Aij b n.U0 (AD vs n.U0) e.C0 e.G0+(At1 b n.U0).P2))then 1000000 else J.wrap (Aij b n.U0 (AD vs n.U0) e.C0 e.G0+(At1 b n.U0).P2))
 else(bif decide (aA J (x-1)<0)then 0 else J.wrap (x-1))
def GB(b:O)(vs:List aD):List Z->List Int->List aI
 |e::t,x::xs=>QJ e (Iz b vs e x)++GB b vs t xs
 |_,_=>[]
def SU(b:O)(vs:List aD):List Z->List Int->List Int
 |e::t,x::xs=>Au0 b vs e (Iz b vs e x) x::SU b vs t xs
 |_,_=>[]
def Ajk(b:O)(vs:List aD)(e:Z)(x:Int):(Iz b vs e x).C0=e.C0/\(Iz b vs e x).G0=e.G0:=by unfold Iz;cases e.U0==-2<;>cases e.U0==-1<;>cases(AD vs e.U0).B3<;>cases decide ((b.B0.length:Int)<e.X0)<;>cases(!e.N1&&decide (e.X0<=(b.B0.length:Int)))<;>cases Rq b vs e x != -1<;>exact⟨rfl,rfl⟩
def Azk(b:O)(vs:List aD)(e:Z)(x:Int):Re vs (Rq b vs e x):=by
 unfold Rq;cases Hb b vs e.C0 e.G0 e.U0==-1 with
 |true=>exact .inl rfl
 |false=>
  cases Ah5 b vs e x (Hb b vs e.C0 e.G0 e.U0)with
  |true=>exact SH ..
  |false=>exact .inl rfl
def Arp(b:O)(h:-2<=e.U0/\e.U0<vs.length)(x:Int):-2<=(Iz b vs e x).U0/\(Iz b vs e x).U0<vs.length:=by
 have k:∀n:Int,Re vs n->-2<=n/\n<vs.length:=λn h=>by
  rcases h with rfl|h
  .omega
  .omega
 unfold Iz;by_cases g1:e.U0=-2
 .rw[show(e.U0==-2)=H by rw[g1];rfl];exact h
 rw[Av g1];by_cases g2:e.U0=-1
 .rw[show(e.U0==-1)=H by rw[g2];rfl];exact k _ (SH ..)
 rw[Av g2];simp only[W];cases(AD vs e.U0).B3 with
 |true=>
  cases decide ((b.B0.length:Int)<e.X0)with
  |true=>exact⟨by show(-2:Int)<=-2;omega,by show(-2:Int)<_;omega⟩
  |false=>exact k _ (SH ..)
 |false=>
  cases(!e.N1&&decide (e.X0<=(b.B0.length:Int)))with
  |true=>
   cases Rq b vs e x != -1 with
   |true=>exact k _ (Azk ..)
   |false=>exact h
  |false=>exact h
def Ajn{b:O}:∀{l:List Z}{p:Option Z},Ft b p l=H->∀e∈l,Hy b e=H
 |[],_,_,_,he=>by cases he
 |a::t,p,h,e,he=>by
  simp only[Ft,e_]at h;rcases v_.1 he with rfl|he
  .exact h.1
  .exact Ajn h.2.2 e he
def Ab6(N:List α)(a v:α)(t:List α):(N++a::t).set N.length v=N++v::t:=by
 induction N with
 |nil=>rfl
 |cons h N ih=>simp only[bP,N_,List.set_cons_succ,ih]
section
variable{b:O}(hb:b.small){vs:List aD}(hv:okViews vs)(hl:vs.length<=100)(hlen:(vs.length:Int)=(b.B0.length:Int)){m:aF}(hm:∀e∈m.A0,Hy b e=H)(hm':m.A0.length<=1000){xs:List Int}(hx:xs.length=m.A0.length)
include hb hv hl hlen hm hm' hx
theorem YT:∀(k i:Nat) (out:List aI) (N:List Int),i+k=m.A0.length->N.length=i->out.length<=2*i->
  Bx (λx=>letI c:=x.2.1.2.2;letI d:=x.1.2.2.2.2;letI f:=c.2.2;letI h:=x.2.2.1;It x.1.1 x.1.2.1 d.1 d.2.1 d.2.2.1 x.2.1.1 x.2.1.2.1 c.1 c.2.1 f.1 f.2.1 f.2.2.1 f.2.2.2.1 h.1 h.2.1 h.2.2.1 h.2.2.2.1) (k+1)
   ((xs,vs,(),(),out,N,(i:Int),()),(b.tup,m.tup,()))=R ((out++GB b vs (m.A0.drop i) (xs.drop i),N++SU b vs (m.A0.drop i) (xs.drop i),()),())
 |0,i,out,N,hi,hN,ho=>by
  refine At ?_;show It xs vs out N (i:Int) b.D0 b.E0 b.J0 b.O0 b.L0 b.N0 b.P0 b.B0 m.F0 m.M0 m.I0 m.A0=_;unfold It;have e:decide ((i:Int)<(m.A0.length:Int))=B:=by simp;omega
  rw[e,show i=m.A0.length by omega,Y_];simp[GB,SU]
 |k+1,i,out,N,hi,hN,ho=>by
  have hi':i<m.A0.length:=ω;have hix:i<xs.length:=ω;have e:decide ((i:Int)<(m.A0.length:Int))=H:=by simp;omega
  have ib:aG (i:Int) m.A0.length=H:=V ω ω;have ibx:aG (i:Int) xs.length=H:=V ω ω;have w:J.wrap ((i:Int)+1)=((i+1:Nat):Int):=by rw[Ad ω ω];omega
  have hok:=AT aB hi';have hent:=hm _ hok;simp only[Hy,e_,R_]at hent;obtain⟨_,c1,c2,c3,c4⟩:=hent;rw[AR aB hi',AR (0:Int) hix];simp only[GB,SU];obtain⟨x,hxx⟩:∃x,x=xs.getD i 0:=⟨_,rfl⟩;obtain⟨a,ha⟩:∃a,a=m.A0.getD i aB:=⟨_,rfl⟩;rw[<-hxx,<-ha];rw[<-ha]at c1 c2 c3 c4;have hd:=Ai4 hb hv hl (e:=a) ω ω ⟨c3,c4⟩ x;have hin:=Arp b (vs:=vs) (e:=a) ω x;have hcall:=Ajk b vs a x;obtain⟨n,hn⟩:∃n,n=Iz b vs a x:=⟨_,rfl⟩;rw[<-hn]at hd hin hcall|-;have hrl:=Akf a n;refine(AM (x':=((xs,vs,(),(),out++QJ a n,N++[Au0 b vs a n x],((i+1:Nat):Int),()),(b.tup,m.tup,()))) ?_).trans ?_
  .show It xs vs out N (i:Int) b.D0 b.E0 b.J0 b.O0 b.L0 b.N0 b.P0 b.B0 m.F0 m.M0 m.I0 m.A0=_;unfold It;rw[e,ib,ibx,show bA 0 0 0 0 B=aB from rfl];unfold Entry.tup at hd;have s1:(n.X0 !=a.X0)=(a.X0 !=n.X0):=Arm _ _;have s2:(n.N1==a.N1)=(a.N1==n.N1):=by cases n.N1<;>cases a.N1<;>rfl
   have s3:(n.U0 !=a.U0)=(a.U0 !=n.U0):=Arm _ _;have b1:∀r:aI,aR (out.length+[r].length) 2147483648=H:=λ_=>Ah (by simp;omega);have b2:∀r s:aI,aR ((out++[s]).length+[r].length) 2147483648=H:=λ_ _=>Ah (by simp;omega);have b3:∀y:Int,aR (N.length+[y].length) 2147483648=H:=λ_=>Ah (by simp;omega);have w3:∀y:Int,(bif decide (0<y)then y else 0)=(bif decide (y<0)then 0 else y):=λy=>by
    by_cases g:0<y
    .rw[b_ g,f_ (ω:¬y<0)];rfl
    .rw[f_ g];by_cases g':y<0
     .rw[b_ g'];rfl
     .rw[f_ g'];simp only[W];omega
   have hest:=Arw hb (hv.at n.U0) n.U0 a.C0 a.G0;unfold Auf AD at hest;have fl:((vs,xs,out).1:List aD)=vs:=rfl;rw[i_,<-ha,<-hxx];simp only[S,hd,a_,s1,s2];unfold Au0;rw[s3];unfold QJ At1 AD;rw[hcall.1,hcall.2];by_cases hge:0<=n.U0
   .have ibc:aG n.U0 vs.length=H:=V hge hin.2;have ibc':aG n.U0 b.B0.length=H:=V hge ω;rw[b_ hge];cases hne:a.U0 !=n.U0<;>cases hmv:a.X0 !=n.X0<;>cases hmd:a.N1==n.N1<;>cases hnm:n.N1<;>
     (simp only[S,W,a_,hne,s3,hge,decide_true,m_,a7_,bM,Bool.or_true,Bool.or_false,V_,S_,b1,b2,b3,ibc,ibc',ibx,hest,w,w3,M_,y_,b3_,i_,<-hxx];rfl)
   .rw[f_ hge];cases hne:a.U0 !=n.U0<;>cases hmv:a.X0 !=n.X0<;>cases hmd:a.N1==n.N1<;>cases hnm:n.N1<;>
     (simp only[S,W,a_,hne,s3,hge,decide_false,m_,a7_,bM,Bool.or_true,Bool.or_false,a9_,b1,b2,b3,ibx,w,w3,M_,y_,b3_,i_,<-hxx];rfl)
  .rw[YT k (i+1) _ (N++[_]) ω (by simp;omega) (by rw[h_];omega)];simp only[M_,c9_]
end
def SJ(xs:List Int):Bool:=xs.all (inR 0 1000000)
def Ac8(m:aF)(hl:xs.length<=maxLen):DD m.F0 m.M0 m.I0 m.A0 xs=R ((SJ xs&&(xs.length:Int)==(m.A0.length:Int),()),()):=by
 have hm:maxLen<=9223372036854775807:=by decide
 have key:∀(k i:Nat),i+k=xs.length->Bx (λx=>BJ x.1.1 x.1.2.2.1 x.2.1.1 x.2.1.2.1 x.2.1.2.2.1 x.2.1.2.2.2.1) (k+1) ((xs,(),(i:Int),()),(m.tup,()))=R (if(xs.drop i).all (inR 0 1000000)then .inl ((xs,(),()),(m.tup,()))else .inr ((B,()),())):=by
  intro k;induction k with
  |zero=>intro i hi;refine At ?_;show BJ xs (i:Int) m.F0 m.M0 m.I0 m.A0=_;unfold BJ;rw[show decide ((i:Int)<(xs.length:Int))=B by simp;omega,show i=xs.length by omega,Y_];rfl
  |succ k ih=>
   intro i hi;have hi':i<xs.length:=ω;have hs:BJ xs (i:Int) m.F0 m.M0 m.I0 m.A0=R (bif inR 0 1000000 (xs.getD i 0)then .inl ((xs,(),((i+1:Nat):Int),()),(m.tup,()))else .inr (.inr ((B,()),()))):=by
    unfold BJ;have w:J.wrap ((i:Int)+1)=((i+1:Nat):Int):=by rw[Ad ω ω];omega
    rw[show decide ((i:Int)<(xs.length:Int))=H by simp;omega,V ω ω,w];simp only[S,i_];unfold inR;by_cases g:xs.getD i 0<0
    .rw[b_ g,f_ (ω:¬0<=xs.getD i 0)];rfl
    .rw[f_ g,b_ (ω:0<=xs.getD i 0)];by_cases g':1000000<xs.getD i 0
     .rw[b_ g',f_ (ω:¬xs.getD i 0<=1000000)];rfl
     .rw[f_ g',b_ (ω:xs.getD i 0<=1000000)];rfl
   rw[AR (0:Int) hi',U_];cases hq:inR 0 1000000 (xs.getD i 0)with
   |true=>rw[hq]at hs;exact(AM hs).trans (ih (i+1) ω)
   |false=>rw[hq]at hs;exact At hs
 have h1:Jp ((xs,(),(0:Int),()),(m.tup,()))=_:=Af (key xs.length 0 ω) ω;rw[O_]at h1;unfold Img.tup at h1;unfold DD;rw[h1];unfold SJ;cases xs.all (inR 0 1000000)<;>rfl
def Na(b:O)(m:aF)(xs:List Int)(vs:List aD):List aI×List Int×Int×Unit:=bif m.ok b&&((xs.length:Int)==(m.A0.length:Int)&&((vs.length:Int)==(b.B0.length:Int)&&SJ xs))then(GB b vs m.A0 xs,SU b vs m.A0 xs,0,())else([],[],1,())
def Img.ok_all(h:m.ok b=H):b.code=0/\m.F0.length=b.B0.length/\m.M0.length=b.B0.length/\m.I0.length=b.B0.length/\(∀p∈m.F0,0<=p/\p<=4)/\(∀e∈m.A0,Hy b e=H)/\Ft b Option.none m.A0=H:=by unfold Img.ok at h;simp only[e_,a3_]at h;obtain⟨h0,h1,h2,h3,h4,h5⟩:=h;exact⟨h0,ω,ω,ω,λp hp=>Al.1 (C_.1 h4 p hp),Ajn h5,h5⟩
section
variable{b:O}(hb:b.small){vs:List aD}(hv:okViews vs)(hl:vs.length<=100)(m:aF)(hm:m.A0.length<=1000)(hp:m.F0.length<=maxLen)(xs:List Int)(hx:xs.length<=maxLen)
include hb hv hl hm hp hx
theorem Aq7:Ou b.D0 b.E0 b.J0 b.O0 b.L0 b.N0 b.P0 b.B0 m.F0 m.M0 m.I0 m.A0 xs vs=R (Na b m xs vs,()):=by
 have hmx:1000<=maxLen:=by decide
 unfold Ou Na;rw[Cd hb m hp ω,Ac8 m hx];simp only[a_,bne];cases hok:m.ok b with
 |false=>rfl
 |true=>
  cases hq:(xs.length:Int)==(m.A0.length:Int)with
  |false=>cases SJ xs<;>rfl
  |true=>
   cases he:SJ xs with
   |false=>cases(vs.length:Int)==(b.B0.length:Int)<;>rfl
   |true=>
    cases hr:(vs.length:Int)==(b.B0.length:Int)with
    |false=>rfl
    |true=>
     have hq':(xs.length:Int)=(m.A0.length:Int):=by simpa using hq
     have hr':(vs.length:Int)=(b.B0.length:Int):=by simpa using hr
     obtain⟨_,_,_,_,_,hall,_⟩:=Img.ok_all hok;have hlp:=Af (YT hb hv hl hr' hall hm (xs:=xs) ω m.A0.length 0 [] [] ω rfl σ) ω;have hlp':TB ((xs,vs,(),(),([]:List aI),([]:List Int),(0:Int),()),(b.tup,m.tup,()))=_:=hlp;unfold Bldg.tup Img.tup at hlp';simp only[V_,m_,W,S,hlp',a_,O_,y_]
end
def Aj9(b:O)(vs:List aD):∀(l:List Z) (xs:List Int),(GB b vs l xs).length<=2*l.length
 |[],_=>by simp[GB]
 |_::_,[]=>by simp[GB]
 |e::t,x::xs=>by have h1:=Aj9 b vs t xs;have h2:=Akf e (Iz b vs e x);simp only[GB,h_,N_];omega
def Aj8(b:O)(vs:List aD):∀(l:List Z) (xs:List Int),xs.length=l.length->(SU b vs l xs).length=l.length
 |[],_,_=>by simp[SU]
 |_::_,[],h=>by simp at h
 |e::t,x::xs,h=>by simp only[SU,N_,Aj8 b vs t xs (by simpa using h)]
def Aka(b:O)(m:aF)(xs:List Int)(vs:List aD):(Na b m xs vs).1.length<=2*m.A0.length/\(Na b m xs vs).2.1.length<=m.A0.length:=by
 unfold Na;cases hq:(m.ok b&&((xs.length:Int)==(m.A0.length:Int)&&((vs.length:Int)==(b.B0.length:Int)&&SJ xs)))with
 |false=>exact⟨σ,σ⟩
 |true=>simp only[e_,a3_]at hq;refine⟨Aj9 b vs m.A0 xs,?_⟩;show(SU b vs m.A0 xs).length<=_;rw[Aj8 b vs m.A0 xs ω];exact H_ _
def noV:aD:=aL B B B B 0 0 0 0 0 0 0 0
def noP:aP:=bJ 0 0
structure Lan where
 lit:List Calls
 gong:List Bool
 cl:Int×Int
def Lan.tup(l:Lan):List aP×List Bool×Int×Int×Unit:=(l.lit,l.gong,l.cl.1,l.cl.2,())
def Lan.none:Lan:=⟨[],[],(0,0)⟩
def Aen(b:O)(vs:List aD)(i:Nat)(s:Lan):Int×Int:=CW (Eh b (vs.getD i noV)) s.cl
def Qa(b:O)(vs:List aD)(ps:List aP)(i:Nat)(s:Lan):Lan:=⟨s.lit++[bJ (Aen b vs i s).1 (Aen b vs i s).2],s.gong++[!isZ (CW (Aen b vs i s) ((ps.getD i noP).Up,(ps.getD i noP).H5))],FL s.cl (Aen b vs i s)⟩
def My(b:O)(vs:List aD)(ps:List aP):Lan:=Cr (Qa b vs ps) vs.length 0 Lan.none
def Aaf(b:O)(vs:List aD)(ps:List aP):Lan×Int:=bif(vs.length:Int)==(b.B0.length:Int)&&((ps.length:Int)==(b.B0.length:Int))then(My b vs ps,0)else(Lan.none,1)
section
variable{b:O}(hb:b.small)(hcode:b.code=0)
include hb hcode
theorem Ao6(vs:List aD)(ps:List aP)(hl:vs.length<=1000):Qt b.D0 b.E0 b.J0 b.O0 b.L0 b.N0 b.P0 b.B0 vs ps=R (((),(Aaf b vs ps).2,()),((Aaf b vs ps).1.tup,())):=by
 unfold Qt Aaf;rw[AO,hcode];simp only[a_,L_,W];by_cases h1:vs.length=b.B0.length
 .by_cases h2:ps.length=b.B0.length
  .have h:=AN (step:=λx=>letI a:=x.2.1.2.2;letI c:=x.2.2;letI d:=a.2.2;letI e:=c.2.1;GV x.1.1 x.1.2.1 x.1.2.2.2.2.2.1 x.2.1.1 x.2.1.2.1 a.1 a.2.1 d.1 d.2.1 d.2.2.1 d.2.2.2.1 c.1.1 c.1.2.1 c.1.2.2.1 c.1.2.2.2.1 e.1 e.2.1 e.2.2.1 e.2.2.2.1) vs.length (λi (s:Lan)=>((vs,ps,(),(),(),(i:Int),()),(b.tup,Lan.none.tup,s.tup,()))) (Qa b vs ps) (λi s=>s.lit.length=i/\s.gong.length=i) (λs=>(((),(),()),(Lan.none.tup,s.tup,()))) (λi s hi hs=>⟨by
    show GV vs ps (i:Int) b.D0 b.E0 b.J0 b.O0 b.L0 b.N0 b.P0 b.B0 [] [] 0 0 s.lit s.gong s.cl.1 s.cl.2=_;unfold GV;rw[show aL B B B B 0 0 0 0 0 0 0 0=noV from rfl,show bJ 0 0=noP from rfl];simp only[b_ (ω:(i:Int)<(vs.length:Int)),V (ω:(0:Int)<=(i:Int)) (ω:(i:Int)<(vs.length:Int)),V (ω:(0:Int)<=(i:Int)) (ω:(i:Int)<(ps.length:Int)),S,i_,YU hb hcode,a_,CU hi (show vs.length<=AB by unfold AB;omega)];have e1:=Ub (Eh b (vs.getD i noV)) s.cl;have e2:=Ub (Aen b vs i s) ((ps.getD i noP).Up,(ps.getD i noP).H5);have e3:=IE s.cl (Aen b vs i s);unfold Aen at e2 e3;simp only at e2;simp only[e1,a_,e2,e3];rw[Ah (show s.lit.length+[bJ (CW (Eh b (vs.getD i noV)) s.cl).1 (CW (Eh b (vs.getD i noV)) s.cl).2].length<=2147483648 by show s.lit.length+1<=_;omega)];rw[Ah (show s.gong.length+[!((CW (CW (Eh b (vs.getD i noV)) s.cl) ((ps.getD i noP).Up,(ps.getD i noP).H5)).1==0&&((CW (CW (Eh b (vs.getD i noV)) s.cl) ((ps.getD i noP).Up,(ps.getD i noP).H5)).2==0&&H))].length<=2147483648 by show s.gong.length+1<=_;omega)];rfl,by
    constructor
    .show(s.lit++[_]).length=_;rw[h_,a8_,hs.1]
    .show(s.gong++[_]).length=_;rw[h_,a8_,hs.2]⟩) (λs _=>by
    show GV vs ps (vs.length:Int) b.D0 b.E0 b.J0 b.O0 b.L0 b.N0 b.P0 b.B0 [] [] 0 0 s.lit s.gong s.cl.1 s.cl.2=_;unfold GV;simp only[f_ (I_ (vs.length:Int)),W];rfl) vs.length 0 Lan.none ω ⟨rfl,rfl⟩
   have h:RH ((vs,ps,(),(),(),(0:Int),()),(b.tup,Lan.none.tup,Lan.none.tup,()))=R (((),(),()),(Lan.none.tup,(My b vs ps).tup,())):=Af h.1 ω;simp only[Bldg.tup,Lan.tup,Lan.none]at h;rw[h1,h2];simp only[L_,W,s_,V_,S,h];rfl
  .rw[h1,L_,FP (ω:¬(ps.length:Int)=(b.B0.length:Int)),Av (ω:¬(ps.length:Int)=(b.B0.length:Int)),a9_];rfl
 .rw[FP (ω:¬(vs.length:Int)=(b.B0.length:Int)),Av (ω:¬(vs.length:Int)=(b.B0.length:Int))];rfl
end
def Vt(b:O)(vs:List aD)(F D:Int):Bool:=vs.any λv=>AZ (Eh b v) F.toNat D
def LU(b:O)(vs:List aD)(l:List Z):List aI:=l.flatMap λe=>bif Vt b vs e.C0 e.G0 then [aJ 2 e.C0 e.G0 0 0]else []
def Aa6(b:O)(vs:List aD):∀l:List Z,(LU b vs l).length<=l.length
 |[]=>H_ _
 |e::t=>by have h:=Aa6 b vs t;show((bif Vt b vs e.C0 e.G0 then [aJ 2 e.C0 e.G0 0 0]else [])++LU b vs t).length<=_;rw[h_,N_];cases Vt b vs e.C0 e.G0<;>simp<;>omega
def Am1(hb:b.small)(h:Ak b e.C0 e.G0=H):Afr e:=by have lo:=hb.lo;have hi:=hb.hi;unfold Ak Fq at h;simp only[e_,b0_,a3_,Al]at h;unfold Afr;omega
section
variable{b:O}(hb:b.small)(hcode:b.code=0){m:aF}(hm:aM b m)(hl:m.A0.length<=100000)(vs:List aD)(hv:(vs.length:Int)=(b.B0.length:Int))
include hb hcode hm hl hv
omit hm hl in
theorem Ag8(he:Afr e)(i:Int){out:List aI}(ho:out.length<=100000):MR ((vs,(),(),out,i,(),(0:Int),()),(b.tup,m.tup,(e.C0,e.G0,e.U0,e.X0,e.N1,()),()))=R ((vs,(),(),out++(bif Vt b vs e.C0 e.G0 then [aJ 2 e.C0 e.G0 0 0]else []),i,()),(b.tup,m.tup,())):=by
 have hcc:=Ai hcode;have key:∀(k j:Nat),j+k=vs.length->Bx (λx=>letI a:=x.2.1.2.2;letI c:=x.2.2;letI d:=c.2.1;letI f:=a.2.2;GX x.1.1 x.1.2.2.2.1 x.1.2.2.2.2.1 x.1.2.2.2.2.2.2.1 x.2.1.1 x.2.1.2.1 a.1 a.2.1 f.1 f.2.1 f.2.2.1 f.2.2.2.1 c.1.1 c.1.2.1 c.1.2.2.1 c.1.2.2.2.1 d.1 d.2.1 d.2.2.1 d.2.2.2.1 d.2.2.2.2.1) (k+1) ((vs,(),(),out,i,(),(j:Int),()),(b.tup,m.tup,(e.C0,e.G0,e.U0,e.X0,e.N1,()),()))=R ((vs,(),(),out++(bif(vs.drop j).any (λv=>AZ (Eh b v) e.C0.toNat e.G0)then [aJ 2 e.C0 e.G0 0 0]else []),i,()),(b.tup,m.tup,())):=by
  intro k;induction k with
  |zero=>intro j hj;obtain rfl:j=vs.length:=ω;refine At ?_;show GX vs out i (vs.length:Int) b.D0 b.E0 b.J0 b.O0 b.L0 b.N0 b.P0 b.B0 m.F0 m.M0 m.I0 m.A0 e.C0 e.G0 e.U0 e.X0 e.N1=_;unfold GX;rw[f_ (I_ (vs.length:Int)),Y_];simp only[List.any_nil,W,b3_];rfl
  |succ k ih=>
   intro j hj;have hj':j<vs.length:=ω;have hs:GX vs out i (j:Int) b.D0 b.E0 b.J0 b.O0 b.L0 b.N0 b.P0 b.B0 m.F0 m.M0 m.I0 m.A0 e.C0 e.G0 e.U0 e.X0 e.N1=R (bif AZ (Eh b (vs.getD j noV)) e.C0.toNat e.G0 then .inr ((vs,(),(),out++[aJ 2 e.C0 e.G0 0 0],i,()),(b.tup,m.tup,()))else .inl ((vs,(),(),out,i,(),((j+1:Nat):Int),()),(b.tup,m.tup,(e.C0,e.G0,e.U0,e.X0,e.N1,()),()))):=by unfold GX;rw[show aL B B B B 0 0 0 0 0 0 0 0=noV from rfl];simp only[b_ (ω:(j:Int)<(vs.length:Int)),V (ω:(0:Int)<=(j:Int)) (ω:(j:Int)<(vs.length:Int)),S,i_,YU hb hcode,a_,Ava (At0 b (vs.getD j noV)) he.1 he.2,CU hj' (show vs.length<=AB by unfold AB;omega)];rw[Ah (show out.length+[aJ 2 e.C0 e.G0 0 0].length<=2147483648 by show out.length+1<=_;omega)];cases AZ (Eh b (vs.getD j noV)) e.C0.toNat e.G0<;>rfl
   rw[AR noV hj',List.any_cons];cases hq:AZ (Eh b (vs.getD j noV)) e.C0.toNat e.G0 with
   |true=>rw[hq]at hs;exact At hs
   |false=>rw[hq]at hs;rw[c6_];exact(AM hs).trans (ih (j+1) ω)
 have h:=key vs.length 0 ω;rw[O_]at h;exact Af h ω
theorem Ao7:Qu b.D0 b.E0 b.J0 b.O0 b.L0 b.N0 b.P0 b.B0 m.F0 m.M0 m.I0 m.A0 vs=R ((LU b vs m.A0,()),()):=by
 have hcc:=Ai hcode;have hmx:100000<=maxLen:=by decide
 have hlp:=hm.lp;have h1:=AN (step:=λx=>letI a:=x.2.1.2.2;letI c:=a.2.2;letI d:=x.2.2.1;GW x.1.1 x.1.2.2.2.1 x.1.2.2.2.2.1 x.2.1.1 x.2.1.2.1 a.1 a.2.1 c.1 c.2.1 c.2.2.1 c.2.2.2.1 d.1 d.2.1 d.2.2.1 d.2.2.2.1) m.A0.length (λi (out:List aI)=>((vs,(),(),out,(i:Int),()),(b.tup,m.tup,()))) (λi out=>out++(bif Vt b vs (m.A0.getD i aB).C0 (m.A0.getD i aB).G0 then [aJ 2 (m.A0.getD i aB).C0 (m.A0.getD i aB).G0 0 0]else [])) (λi out=>out.length<=i) (λout=>((out,()),())) (λi out hi ho=>by
  have hc:=Am1 hb (Eo.1 (hm.en _ (AT aB hi))).1;refine⟨?_,?_⟩
  .show GW vs out (i:Int) b.D0 b.E0 b.J0 b.O0 b.L0 b.N0 b.P0 b.B0 m.F0 m.M0 m.I0 m.A0=_;unfold GW;rw[show bA 0 0 0 0 B=aB from rfl];have hin:=Ag8 hb hcode (m:=m) vs hv hc (i:Int) (out:=out) ω;simp only[Bldg.tup,Img.tup]at hin;simp only[b_ (ω:(i:Int)<(m.A0.length:Int)),V (ω:(0:Int)<=(i:Int)) (ω:(i:Int)<(m.A0.length:Int)),S,i_,hin,a_,CU hi (show m.A0.length<=AB by unfold AB;omega)];rfl
  .rw[h_];cases Vt b vs (m.A0.getD i aB).C0 (m.A0.getD i aB).G0<;>simp<;>omega) (λout _=>by
  show GW vs out (m.A0.length:Int) b.D0 b.E0 b.J0 b.O0 b.L0 b.N0 b.P0 b.B0 m.F0 m.M0 m.I0 m.A0=_;unfold GW;simp only[f_ (I_ (m.A0.length:Int)),W]) m.A0.length 0 [] ω σ
 have h1':=Af h1.1 ω;rw[IX,y_,Pr (λe=>bif Vt b vs e.C0 e.G0 then [aJ 2 e.C0 e.G0 0 0]else []) aB m.A0 0 m.A0.length ω,O_]at h1';unfold Qu;rw[Cd hb m ω ω,Img.ok_iff.2 hm];simp only[a_,m_,W];rw[show((vs.length:Int) !=(b.B0.length:Int))=B by rw[hv,L_]];simp only[W];simp only[Bldg.tup,Img.tup]at h1';rw[show MQ ((vs,(),(),([]:List aI),(0:Int),()),((b.D0,b.E0,b.J0,b.O0,b.L0,b.N0,b.P0,b.B0,()),(m.F0,m.M0,m.I0,m.A0,()),()))=_ from h1'];rfl
end
def xsV(E:List Z)(xs:List Int)(r:aI):List Int:=
 bif(r.B1==2)&&Kq (Cy r.C0 r.G0) E then xs.take (Bz (Cy r.C0 r.G0) E)++xs.drop (Bz (Cy r.C0 r.G0) E+1)
 else bif(r.B1==1)&&!Kq (Cy r.C0 r.G0) E then xs.take (Bz (Cy r.C0 r.G0) E)++[0]++xs.drop (Bz (Cy r.C0 r.G0) E)
 else xs
def Ait(E:List Z)(xs:List Int)(F D:Int):Int:=bif Kq (Cy F D) E then xs.getD (Bz (Cy F D) E) 0 else 0
def FT(E:List Z)(xs:List Int)(e:Z):Int:=Ait E xs e.C0 e.G0
def An5(e:Z):isC e.C0 e.G0 e=H:=by unfold isC;simp
def Asc(hs:Be E)(hi:i<E.length):Bz (E.getD i aB) E=i:=by
 have hp:=Dw.1 hs;rcases Nat.lt_trichotomy (Bz (E.getD i aB) E) i with h|h|h
 .have h1:=Asd hs (Bz (E.getD i aB) E) (H_ _) ω;have h2:Bq (E.getD (Bz (E.getD i aB) E) aB) (E.getD i aB)=H:=by
   generalize Bz (E.getD i aB) E=p at h;have hg:∀j (hj:j<E.length),E.getD j aB=E[j]:=λj hj=>by simp[n_,hj]
   rw[hg p ω,hg i hi];exact List.pairwise_iff_getElem.1 hp p i ω hi h
  rw[h1]at h2;cases h2
 .exact h
 .have h1:=Ase (E.getD i aB) E i h;have h2:=(Aem (An5 (E.getD i aB))).1;rw[h1]at h2;cases h2
def Bgj(hs:Be E)(hi:i<E.length):Kq (Cy (E.getD i aB).C0 (E.getD i aB).G0) E=H:=by unfold Kq;rw[Ya,Asc hs hi,e_];exact⟨Eq.mpr Nat.blt_eq hi,An5 _⟩
def Aiu(hs:Be E)(xs:List Int)(hi:i<E.length):FT E xs (E.getD i aB)=xs.getD i 0:=by unfold FT Ait;rw[Bgj hs hi,Ya,Asc hs hi];rfl
def Ano{a b:List α}(d:α)(hl:a.length=b.length)(h:∀i,i<a.length->a.getD i d=b.getD i d):a=b:=by
 refine List.ext_getElem hl λi h1 h2=>?_
 have:=h i h1
 simpa[n_,h1,h2]using this
def Aoi{β:Type}(f:α->β){l:List α}(hi:i<l.length)(d:α)(d':β):(l.map f).getD i d'=f (l.getD i d):=by simp[n_,hi]
def Ar6(hs:Be E)(hl:xs.length=E.length):E.map (FT E xs)=xs:=by refine Ano 0 (by rw[d7_,hl]) λi hi=>?_;rw[d7_]at hi;rw[Aoi _ hi aB,Aiu hs xs hi]
def Bdh{l:List α}(d:α)(h:a=l.getD k d):l.set k a=l:=by
 by_cases hk:k<l.length
 .refine Ano d (E_ ..) λi hi=>?_;by_cases hik:k=i
  .subst hik;rw[h];simp[n_,hk]
  .simp[n_,hik]
 .rw[List.set_eq_of_length_le ω]
def Aim{c:Z}{l:List Z}(h:Kq c l=H):Bz c l<l.length/\isC c.C0 c.G0 (l.getD (Bz c l) aB)=H:=by unfold Kq at h;rw[e_]at h;exact⟨Eq.mp Nat.blt_eq h.1,h.2⟩
def Abi(hs:Be m.A0)(hl:xs.length=m.A0.length)(r:aI):xsV m.A0 xs r=(By m r).A0.map (FT m.A0 xs):=by
 have hbase:=Ar6 hs hl;have hfp:=NG (c:=Cy r.C0 r.G0) 0 hs;rw[k_]at hfp;have hfp':BL r.C0 r.G0 m.A0 0=_:=hfp;unfold By xsV;by_cases k4:r.B1=4
 .rw[k4];exact hbase.symm
 by_cases k5:r.B1=5
 .rw[k5];exact hbase.symm
 by_cases k6:r.B1=6
 .rw[k6];exact hbase.symm
 rw[Av k4,Av k5,Av k6,hfp'];simp only[W];cases hh:Kq (Cy r.C0 r.G0) m.A0 with
 |false=>
  simp only[W,s_,S,a9_,a7_,c4_];cases k1:r.B1==1 with
  |false=>exact hbase.symm
  |true=>
   simp only[S];show _=(EP (bA r.C0 r.G0 (-1) 0 B) B m.A0).map (FT m.A0 xs);have hnone:=Ayu hs hh;rw[An3 (c:=bA r.C0 r.G0 (-1) 0 B) (λx hx=>hnone x hx)];have hp:Bz (bA r.C0 r.G0 (-1) 0 B) m.A0=Bz (Cy r.C0 r.G0) m.A0:=(Ya (bA r.C0 r.G0 (-1) 0 B) m.A0).symm;have hn:FT m.A0 xs (bA r.C0 r.G0 (-1) 0 B)=0:=by unfold FT Ait;rw[hh];rfl
   rw[hp,List.map_append,List.map_append,List.map_take,List.map_drop,hbase,List.map_singleton,hn]
 |true=>
  obtain⟨p1,p2⟩:=Aim hh;simp only[S,c4_,m_,a9_,W];rw[Av (ω:¬((Bz (Cy r.C0 r.G0) m.A0:Nat):Int)=-1)];simp only[W,i_];generalize Bz (Cy r.C0 r.G0) m.A0=p at p1 p2|-;have hset:∀e':Z,e'.C0=(m.A0.getD p aB).C0->e'.G0=(m.A0.getD p aB).G0->(m.A0.set p e').map (FT m.A0 xs)=xs:=λe' h1 h2=>by
   rw[List.map_set,hbase];refine Bdh 0 ?_
   have:FT m.A0 xs e'=FT m.A0 xs (m.A0.getD p aB):=by unfold FT;rw[h1,h2]
   rw[this,Aiu hs xs p1]
  cases k2:r.B1==2 with
  |true=>simp only[S];show _=(m.A0.take p++m.A0.drop (p+1)).map (FT m.A0 xs);rw[List.map_append,List.map_take,List.map_drop,hbase]
  |false=>
   simp only[W];cases k3:r.B1==3 with
   |true=>exact(hset (Ahh (m.A0.getD p aB) r.U0) rfl rfl).symm
   |false=>
    simp only[W];cases k7:r.B1==7 with
    |true=>exact(hset (Uj (m.A0.getD p aB) r.H2 r.U0) rfl rfl).symm
    |false=>exact hbase.symm
def Asu(hs:Be m.A0)(hl:xs.length=m.A0.length)(r:aI):(xsV m.A0 xs r).length=(By m r).A0.length:=by rw[Abi hs hl,d7_]
def Ax1(hs:Be m.A0)(h1:r.B1≠1)(he:e∈(By m r).A0):∃e0∈m.A0,e0.C0=e.C0/\e0.G0=e.G0:=by
 have hfp:=NG (c:=Cy r.C0 r.G0) 0 hs;rw[k_]at hfp;have hfp':BL r.C0 r.G0 m.A0 0=_:=hfp;unfold By at he;by_cases k4:r.B1=4
 .rw[k4]at he;exact⟨e,he,rfl,rfl⟩
 by_cases k5:r.B1=5
 .rw[k5]at he;exact⟨e,he,rfl,rfl⟩
 by_cases k6:r.B1=6
 .rw[k6]at he;exact⟨e,he,rfl,rfl⟩
 rw[Av k4,Av k5,Av k6,hfp',Av h1]at he;simp only[W]at he;cases hh:Kq (Cy r.C0 r.G0) m.A0 with
 |false=>rw[hh]at he;exact⟨e,he,rfl,rfl⟩
 |true=>
  obtain⟨p1,p2⟩:=Aim hh;rw[hh]at he;simp only[S]at he;rw[Av (ω:¬((Bz (Cy r.C0 r.G0) m.A0:Nat):Int)=-1)]at he;simp only[W,i_]at he;have hset:∀e':Z,e'.C0=(m.A0.getD (Bz (Cy r.C0 r.G0) m.A0) aB).C0->e'.G0=(m.A0.getD (Bz (Cy r.C0 r.G0) m.A0) aB).G0->e∈m.A0.set (Bz (Cy r.C0 r.G0) m.A0) e'->∃e0∈m.A0,e0.C0=e.C0/\e0.G0=e.G0:=λe' q1 q2 he=>by
   rcases Ab1 he with rfl|he
   .exact⟨_,AT aB p1,q1.symm,q2.symm⟩
   .exact⟨e,he,rfl,rfl⟩
  cases k2:r.B1==2 with
  |true=>
   rw[k2]at he;have he':e∈m.A0.take (Bz (Cy r.C0 r.G0) m.A0)++m.A0.drop (Bz (Cy r.C0 r.G0) m.A0+1):=he;rcases u_.1 he' with h|h
   .exact⟨e,e5_ h,rfl,rfl⟩
   .exact⟨e,e6_ h,rfl,rfl⟩
  |false=>
   rw[k2]at he;simp only[W]at he;cases k3:r.B1==3 with
   |true=>rw[k3]at he;exact hset (Ahh (m.A0.getD (Bz (Cy r.C0 r.G0) m.A0) aB) r.U0) rfl rfl he
   |false=>
    rw[k3]at he;simp only[W]at he;cases k7:r.B1==7 with
    |true=>rw[k7]at he;exact hset (Uj (m.A0.getD (Bz (Cy r.C0 r.G0) m.A0) aB) r.H2 r.U0) rfl rfl he
    |false=>rw[k7]at he;exact⟨e,he,rfl,rfl⟩
def xsL:aF->List Int->List aI->List Int
 |_,xs,[]=>xs
 |m,xs,r::t=>xsL (By m r) (xsV m.A0 xs r) t
def Bla(hs:Be E)(f:Z->Int)(hf:∀e e':Z,e.C0=e'.C0->e.G0=e'.G0->f e=f e')(he:∃e0∈E,e0.C0=e.C0/\e0.G0=e.G0):FT E (E.map f) e=f e:=by
 obtain⟨e0,h0,h1,h2⟩:=he;obtain⟨i,hi,rfl⟩:=List.getElem_of_mem h0;have hg:E.getD i aB=E[i]:=by simp[n_,hi]
 have h:=Aiu hs (E.map f) hi;rw[Aoi f hi aB,hg]at h;have e1:FT E (E.map f) e=FT E (E.map f) E[i]:=by unfold FT;rw[h1,h2]
 rw[e1,h];exact hf _ _ h1 h2
def Afk{b:O}:∀{l:List aI}{m:aF},aM b m->(∀r∈l,Ax b r=H/\r.B1≠1)->∀{e:Z},e∈(BT m l).A0->∃e0∈m.A0,e0.C0=e.C0/\e0.G0=e.G0
 |[],_,_,_,e,he=>⟨e,he,rfl,rfl⟩
 |r::t,m,hm,hv,e,he=>by have h0:=hv r (W_ ..);obtain⟨e1,h1,h2,h3⟩:=Afk (Ld hm h0.1).1 (λx hx=>hv x (Q_ _ hx)) (show e∈(BT (By m r) t).A0 from he);obtain⟨e2,h4,h5,h6⟩:=Ax1 hm.so h0.2 h1;exact⟨e2,h4,by rw[h5,h2],by rw[h6,h3]⟩
def Abh{b:O}:∀{l:List aI}{m:aF}{xs:List Int},aM b m->xs.length=m.A0.length->(∀r∈l,Ax b r=H/\r.B1≠1)->xsL m xs l=(BT m l).A0.map (FT m.A0 xs)
 |[],m,xs,hm,hl,_=>(Ar6 hm.so hl).symm
 |r::t,m,xs,hm,hl,hv=>by have h0:=hv r (W_ ..);have hm1:=(Ld hm h0.1).1;have ht:=λx hx=>hv x (Q_ _ hx);show xsL (By m r) (xsV m.A0 xs r) t=(BT (By m r) t).A0.map (FT m.A0 xs);rw[Abh hm1 (Asu hm.so hl r) ht,Abi hm.so hl];refine bQ λe he=>?_;exact Bla hm1.so (FT m.A0 xs) (λe e' h1 h2=>by unfold FT;rw[h1,h2]) (Afk hm1 ht he)
structure Rnd where
 recs:List Record
 img:Img
 xs:List Int
 lan:Lan
 ref:Int×Int
def Rnd.tup(r:Rnd):List aI×List Int×List Bool×List Bool×List Z×List Int×List aP×List Bool×Int×Int×Int×Int×Unit:=(r.recs,r.img.F0,r.img.M0,r.img.I0,r.img.A0,r.xs,r.lan.lit,r.lan.gong,r.lan.cl.1,r.lan.cl.2,r.ref.1,r.ref.2,())
structure Rnd.ok(b:Bldg)(r:Rnd):Prop where
 img:ImgOK b r.img
 len:r.xs.length=r.img.A0.length
def Ab3:aI:=aJ 0 0 0 0 0
def Ab9(r:aI)(X:Rnd):Rnd:=⟨X.recs++[r],By X.img r,xsV X.img.A0 X.xs r,X.lan,X.ref⟩
def wrL(l:List aI)(X:Rnd):Rnd:=⟨X.recs++l,BT X.img l,xsL X.img X.xs l,X.lan,X.ref⟩
def Apv(r:aI)(l:List aI)(X:Rnd):wrL (r::l) X=wrL l (Ab9 r X):=by unfold wrL Ab9;simp only[M_,c9_];rfl
def Apn{X:Rnd}(h:X.ok b)(hv:Ax b r=H):(Ab9 r X).ok b:=⟨(Ld h.img hv).1,Asu h.img.so h.len r⟩
def Ahv{b:O}:∀{l:List aI}{X:Rnd},X.ok b->(∀r∈l,Ax b r=H)->(wrL l X).ok b
 |[],X,h,_=>by unfold wrL;rw[b3_];exact⟨h.img,h.len⟩
 |r::t,X,h,hv=>by rw[Apv];exact Ahv (Apn h (hv r (W_ ..))) λx hx=>hv x (Q_ _ hx)
section
variable{b:O}(hb:b.small)(hcode:b.code=0)
include hb hcode
omit hcode in
theorem Bv(hm:aM b m):m.A0.length<=14:=by
 have:=Bge hb hm
 have:=hb.hi
 omega
end
def ZV{F D:Int}{e:Z}(he:isC F D e=H)(T:List Z):∀(P:List Z) (i:Nat),(∀p∈P,isC F D p=B)->BL F D (P++e::T) i=((i+P.length:Nat):Int)
 |[],i,_=>by simp only[y_,BL,he,S,List.length_nil,b6_]
 |p::P,i,h=>by simp only[bP,BL,h p (W_ ..),W];rw[ZV he T P (i+1) λx hx=>h x (Q_ _ hx),N_];congr 1;omega
def Av5{P T:List Z}(h:Be (P++e::T)):∀p∈P,isC e.C0 e.G0 p=B:=by intro p hp;rw[Dw]at h;have h2:=(List.pairwise_append.1 h).2.2 p hp e (W_ ..);rw[Ga]at h2;unfold isC;simp only[Bool.and_eq_false_iff,beq_eq_false_iff_ne];omega
def Anw(P T:List Z)(e:Z):(P++e::T).getD P.length aB=e:=by simp[n_]
def Xp(e:Z):isC e.C0 e.G0 e=H:=by unfold isC;simp
def Apy{P T:List Z}(hE:m.A0=P++e::T)(hs:∀p∈P,isC e.C0 e.G0 p=B)(n c:Int):By m ⟨7,e.C0,e.G0,c,n⟩=m.put (P++Uj e n c::T):=by
 unfold By;have hf:BL e.C0 e.G0 m.A0 0=(P.length:Int):=by rw[hE,ZV (Xp e) T P 0 hs,k_]
 simp only[hf];rw[Av (ω:¬(P.length:Int)=-1),hE,i_,Anw,Ab6,Ab6];rfl
def Aje{P T:List Z}(hE:m.A0=P++e::T)(hs:∀p∈P,isC e.C0 e.G0 p=B)(c:Int):By m ⟨3,e.C0,e.G0,c,0⟩=m.put (P++Ahh e c::T):=by
 unfold By;have hf:BL e.C0 e.G0 m.A0 0=(P.length:Int):=by rw[hE,ZV (Xp e) T P 0 hs,k_]
 simp only[hf];rw[Av (ω:¬(P.length:Int)=-1),hE,i_,Anw,Ab6,Ab6];rfl
def Img.put_put(m:aF)(l l':List Z):(m.put l).put l'=m.put l':=rfl
def Img.put_self(m:aF):m.put m.A0=m:=rfl
def Ath{P T:List Z}{n:Z}(hE:m.A0=P++e::T)(hs:∀p∈P,isC e.C0 e.G0 p=B)(hF:n.C0=e.C0)(hD:n.G0=e.G0):BT m (QJ e n)=m.put (P++n::T):=by
 obtain⟨nF,nD,nC,nM,nV⟩:=n;obtain⟨eF,eD,eC,eM,eV⟩:=e;simp only at hF hD;subst hF hD;unfold QJ;simp only;have mv:∀c:Int,Uj ⟨nF,nD,eC,eM,eV⟩ nM c=⟨nF,nD,eC,nM,c==1⟩:=λ_=>rfl;have cv:((bif nV then(1:Int)else 0)==1)=nV:=by cases nV<;>rfl
 cases hp:(eM !=nM||!(eV==nV))with
 |true=>
  have h1:=Apy hE hs nM (bif nV then 1 else 0);rw[mv,cv]at h1;cases hq:eC !=nC with
  |true=>have h2:=Aje (m:=m.put (P++⟨nF,nD,eC,nM,nV⟩::T)) (P:=P) (T:=T) (e:=⟨nF,nD,eC,nM,nV⟩) rfl hs nC;simp only[S,bP,y_,BT];rw[h1,h2];rfl
  |false=>
   have:eC=nC:=by simpa[bne]using hq
   subst this;simp only[S,W,b3_,BT];exact h1
 |false=>
  simp only[Bool.or_eq_false_iff,d2_,bne_eq_false_iff_eq,a3_]at hp;obtain⟨rfl,rfl⟩:=hp;cases hq:eC !=nC with
  |true=>have h2:=Aje hE hs nC;simp only[S,W,y_,BT];exact h2
  |false=>
   have:eC=nC:=by simpa[bne]using hq
   subst this;simp only[W,b3_,BT];rw[<-hE];exact(Img.put_self m).symm
def Avm{n:Z}(hcode:b.code=0)(hcall:Ak b n.C0 n.G0=H)(hc:-2<=n.U0/\n.U0<(b.B0.length:Int))(hm:0<=n.X0/\n.X0<=255):∀r∈QJ e n,Ax b r=H:=by
 intro r hr;unfold QJ at hr;rcases u_.1 hr with h|h
 .cases hp:(e.X0 !=n.X0||!(e.N1==n.N1))with
  |false=>rw[hp]at h;cases h
  |true=>rw[hp]at h;rw[d1_.1 h];unfold Ax;rw[hcode,hcall,Al.2 hm];cases n.N1<;>rfl
 .cases hp:e.U0 !=n.U0 with
  |false=>rw[hp]at h;cases h
  |true=>rw[hp]at h;rw[d1_.1 h];unfold Ax;rw[hcode,hcall,Al.2 ⟨hc.1,show n.U0<=(b.B0.length:Int)-1 by omega⟩];rfl
def Aib(b:O)(vs:List aD):List Z->List Int->List Z
 |e::t,x::xs=>Iz b vs e x::Aib b vs t xs
 |_,_=>[]
def At8(hc:b.B0.length<=100)(hm:0<=e.X0/\e.X0<=255)(x:Int):0<=(Iz b vs e x).X0/\(Iz b vs e x).X0<=255:=by
 unfold Iz;cases e.U0==-2 with
 |true=>exact hm
 |false=>
  cases e.U0==-1 with
  |true=>exact hm
  |false=>
   cases(AD vs e.U0).B3 with
   |true=>
    by_cases g:(b.B0.length:Int)<e.X0
    .rw[b_ g];exact hm
    .rw[f_ g];exact⟨by show 0<=e.X0+1;omega,by show e.X0+1<=255;omega⟩
   |false=>
    by_cases g:e.X0<=(b.B0.length:Int)
    .rw[b_ g];cases e.N1 with
     |true=>exact hm
     |false=>
      cases Rq b vs e x != -1 with
      |true=>exact⟨by show 0<=e.X0+1;omega,by show e.X0+1<=255;omega⟩
      |false=>exact hm
    .rw[f_ g,a9_];exact hm
def Agv{b:O}(hc:b.B0.length<=100){vs:List aD}(hlen:(vs.length:Int)=(b.B0.length:Int)):∀(T:List Z) (xs:List Int) (P:List Z) (m:aF),xs.length=T.length->aM b m->m.A0=P++T->BT m (GB b vs T xs)=m.put (P++Aib b vs T xs)/\(∀r∈GB b vs T xs,Ax b r=H)/\aM b (m.put (P++Aib b vs T xs))
 |[],xs,P,m,_,hm,hE=>by
  have:Aib b vs [] xs=[]:=by simp[Aib]
  have h2:GB b vs [] xs=[]:=by simp[GB]
  rw[this,h2,<-hE];exact⟨rfl,(λ_ h=>by cases h),hm⟩
 |_::_,[],_,_,h,_,_=>by simp at h
 |e::T,x::xs,P,m,h,hm,hE=>by
  have hent:=Eo.1 (hm.en e (by rw[hE];simp));have hso:=hm.so;rw[hE]at hso;have hs:=Av5 hso;obtain⟨c1,c2⟩:=Ajk b vs e x;have hin:=Arp b (vs:=vs) (e:=e) ω x;have hmv:=At8 hc (vs:=vs) hent.2.2 x;have hval:=Avm (b:=b) (e:=e) (n:=Iz b vs e x) hm.code (by rw[c1,c2];exact hent.1) ω hmv;have hap:=Ath hE hs c1 c2;have hok:aM b (m.put (P++Iz b vs e x::T)):=by rw[<-hap];exact(UV hm hval).1
  obtain⟨g1,g2,g3⟩:=Agv hc hlen T xs (P++[Iz b vs e x]) (m.put (P++Iz b vs e x::T)) (by simpa using h) hok (by simp[Img.put]);simp only[GB,Aib];have app:∀(rs qs:List aI) (m:aF),BT m (rs++qs)=BT (BT m rs) qs:=λrs=>by
   induction rs with
   |nil=>intro _ _;rfl
   |cons r rs ih=>intro qs m;exact ih qs (By m r)
  rw[app,hap,g1,Img.put_put];rw[Img.put_put]at g3;simp only[M_,c9_]at g3|-;exact⟨trivial,(λr hr=>by
   rcases u_.1 hr with hr|hr
   .exact hval r hr
   .exact g2 r hr),g3⟩
def Ai9(e:Z):aI:=aJ 1 e.C0 e.G0 0 0
def LV(b:O)(e:Z)(X:Rnd):Rnd:=bif Vq b X.img then Ab9 (Ai9 e) X else⟨X.recs,X.img,X.xs,X.lan,FL X.ref (Lh e.C0 e.G0)⟩
def Mi(b:O):List Z->Rnd->Rnd
 |[],X=>X
 |e::t,X=>Mi b t (LV b e X)
def Blo(r:aI)(X:Rnd):wrL [r] X=Ab9 r X:=by rw[Apv];unfold wrL;rw[b3_];rfl
def Akg(h:Ak b e.C0 e.G0=H):Ax b (Ai9 e)=H:=by
 have hc:(b.code==0)=H:=by unfold Ak at h;rw[e_]at h;exact h.1
 unfold Ax Ai9;rw[hc];simp only[s_,S,h,V_]
def Apm{X:Rnd}(h:X.ok b)(he:Ak b e.C0 e.G0=H):(LV b e X).ok b:=by
 unfold LV;cases Vq b X.img with
 |true=>exact Apn h (Akg he)
 |false=>exact⟨h.img,h.len⟩
def Asg{b:O}:∀{l:List Z}{X:Rnd},X.ok b->(∀e∈l,Ak b e.C0 e.G0=H)->(Mi b l X).ok b
 |[],_,h,_=>h
 |e::t,X,h,hv=>by show(Mi b t (LV b e X)).ok b;exact Asg (Apm h (hv e (W_ ..))) λx hx=>hv x (Q_ _ hx)
def Av9(b:O)(e:Z)(X:Rnd):(LV b e X).recs.length<=X.recs.length+1:=by
 unfold LV;cases Vq b X.img with
 |true=>show(X.recs++[_]).length<=_;rw[h_,a8_];exact H_ _
 |false=>exact Nat.le_succ _
def Aa2(b:O):∀(l:List Z) (X:Rnd),(Mi b l X).recs.length<=X.recs.length+l.length
 |[],_=>H_ _
 |e::t,X=>by have h1:=Aa2 b t (LV b e X);have h2:=Av9 b e X;show(Mi b t (LV b e X)).recs.length<=_;rw[N_];omega
def Aj2(c:Int×Int):(KD c).length<=64:=by
 have h:∀k i:Nat,((bG i k).flatMap (Ey c)).length<=2*k:=by
  intro k;induction k with
  |zero=>intro i;exact H_ _
  |succ k ih=>
   intro i;rw[d0_,a1_,h_]
   have:=ih (i+1)
   have:=XC c i
   omega
 exact h 32 0
def Aj4(h:e∈KD c):(0<=e.C0/\e.C0<32)/\(e.G0=1\/e.G0=2)/\AZ c e.C0.toNat e.G0=H:=by obtain⟨f,h1,h2,h3,h4⟩:=mem_range.1 (b2_.2 ⟨e,h,rfl⟩);simp only[Ew]at h2 h3 h4;refine⟨ω,h3,?_⟩;rw[h2,i_];exact h4
def Af7(b:O)(m:aF)(press:Int×Int):Int×Int:=CW (Pa press (Dg b)) (ofC m.A0 (0,0))
def Aum(hb:b.small)(hcode:b.code=0){press old:Int×Int}(h:e∈KD (CW (Pa press (Dg b)) old)):Ak b e.C0 e.G0=H:=by obtain⟨h1,h2,h3⟩:=Aj4 h;rw[SD _ _ ω,ZJ,e_,e_,XO hb hcode ω h2,Int.toNat_of_nonneg h1.1]at h3;exact h3.1.2
section
variable{b:O}(hb:b.small)(hcode:b.code=0)
include hb hcode
end
def At6(n:Nat):Lan:=⟨bH n noP,bH n B,(0,0)⟩
def BH(b:O)(m:aF)(xs:List Int)(vs:List aD)(ps:List aP)(press:Int×Int)(good:Bool):Rnd:=bif good then Mi b (KD (Af7 b m press)) (wrL (LU b vs m.A0) ⟨[],m,xs,My b vs ps,(0,0)⟩)else⟨[],m,xs,At6 vs.length,(0,0)⟩
def Vw(b:O)(m:aF)(xs:List Int)(vs:List aD)(ps:List aP)(press:Int×Int)(good:Bool):List aI×List Int×Int×Unit:=Na b (BH b m xs vs ps press good).img (BH b m xs vs ps press good).xs vs
def Ahr(b:O)(m:aF)(xs:List Int)(vs:List aD)(ps:List aP)(press:Int×Int)(good:Bool):Rnd:={ wrL (Vw b m xs vs ps press good).1 (BH b m xs vs ps press good)with xs:=(Vw b m xs vs ps press good).2.1 }
def Adj(hcode:b.code=0)(vs:List aD):∀{l:List Z},(∀e∈l,Ak b e.C0 e.G0=H)->∀r∈LU b vs l,Ax b r=H/\r.B1=2:=λh r hr=>by
 obtain⟨e,he,hr⟩:=b4_.1 hr;have hc:=h e he;cases hs:Vt b vs e.C0 e.G0 with
 |false=>rw[hs]at hr;cases hr
 |true=>rw[hs]at hr;rw[d1_.1 hr];refine⟨?_,rfl⟩;unfold Ax;rw[hcode];simp only[show((2:Int)==1)=B from rfl,W,s_,S,hc,V_]
def Aqj(hcode:b.code=0)(hm:aM b m)(xs:List Int):∀r∈(Na b m xs vs).1,Ax b r=H:=by
 have hcc:=Ai hcode;unfold Na;rw[Img.ok_iff.2 hm];cases hq:((xs.length:Int)==(m.A0.length:Int))with
 |false=>exact λr hr=>by cases hr
 |true=>
  cases hv:((vs.length:Int)==(b.B0.length:Int))with
  |false=>exact λr hr=>by cases hr
  |true=>
   cases SJ xs with
   |false=>exact λr hr=>by cases hr
   |true=>
    have h1:(xs.length:Int)=(m.A0.length:Int):=by simpa using hq
    have h2:(vs.length:Int)=(b.B0.length:Int):=by simpa using hv
    exact(Agv (b:=b) ω h2 m.A0 xs [] m ω hm rfl).2.1
section
variable{b:O}(hb:b.small)(hcode:b.code=0){m:aF}(hm:aM b m){xs:List Int}(hx:xs.length=m.A0.length){vs:List aD}(ps:List aP)(press:Int×Int)(good:Bool)
include hb hcode hm hx
theorem Ae2:(BH b m xs vs ps press good).ok b/\(BH b m xs vs ps press good).recs.length<=100:=by
 have he:=Bv hb hm;have hX:∀L:Lan,Rnd.ok b ⟨[],m,xs,L,(0,0)⟩:=λL=>⟨hm,hx⟩
 unfold BH;cases good with
 |false=>exact⟨hX _,G_ _⟩
 |true=>have hv:=Adj hcode vs (l:=m.A0) λe he=>(Eo.1 (hm.en e he)).1;refine⟨Asg (Ahv (hX _) λr hr=>(hv r hr).1) λe he=>Aum hb hcode he,?_⟩;have h1:=Aa2 b (KD (Af7 b m press)) (wrL (LU b vs m.A0) ⟨[],m,xs,My b vs ps,(0,0)⟩);have h2:=Aj2 (Af7 b m press);have h3:=Aa6 b vs m.A0;have h4:(wrL (LU b vs m.A0) ⟨[],m,xs,My b vs ps,(0,0)⟩).recs.length=(LU b vs m.A0).length:=rfl;show(Mi b (KD (Af7 b m press)) (wrL (LU b vs m.A0) ⟨[],m,xs,My b vs ps,(0,0)⟩)).recs.length<=100;omega
end
structure Made(b:Bldg)(vs:List View):Prop where
 len:vs.length=b.B0.length
 ok:okViews vs
 lost:∀v∈vs,v.B3=true->v.O2=false
 flo:∀v∈vs,-1<=v.C0/\v.C0<b.D0
structure Plan22(b:Bldg)(m:Img)(vs:List View)(xs:List Int):Prop where
 small:b.small
 code:b.code=0
 cars:1<=b.B0.length/\b.B0.length<=3
 img:ImgOK b m
 Bj3:m.A0.length<=60
 made:Made b vs
 xlen:xs.length=m.A0.length
 xval:∀x∈xs,0<=x/\x<=1000000
structure MadeW(b:Bldg)(vs:List View):Prop where
 len:vs.length=b.B0.length
 ok:okViews vs
structure PlanW(b:Bldg)(m:Img)(vs:List View)(xs:List Int):Prop where
 small:b.small
 code:b.code=0
 cars:1<=b.B0.length/\b.B0.length<=3
 img:ImgOK b m
 made:MadeW b vs
 xlen:xs.length=m.A0.length
 xval:∀x∈xs,0<=x/\x<=1000000
def PlanW.exp(h:PlanW b m vs xs):SJ xs=H:=C_.2 λx hx=>Al.2 (h.xval x hx)
section
variable{b:O}{m:aF}{vs:List aD}{xs:List Int}(h:Plan22 b m vs xs)
include h
end
def Ar7{c:Bool}{r:α}(h:r∈(bif c then [a]else [])):r=a:=by
 cases c with
 |true=>exact d1_.1 h
 |false=>cases h
def Agu(b:O)(vs:List aD):∀(l:List Z) (xs:List Int),∀r∈GB b vs l xs,r.B1=3\/r.B1=7
 |[],xs,r,hr=>by simp[GB]at hr
 |_::_,[],r,hr=>by simp[GB]at hr
 |e::t,x::xs,r,hr=>by
  simp only[GB]at hr;rcases u_.1 hr with h|h
  .unfold QJ at h;rcases u_.1 h with h|h
   .right;rw[Ar7 h]
   .left;rw[Ar7 h]
  .exact Agu b vs t xs r h
def Au3(b:O)(m:aF)(xs:List Int)(vs:List aD):∀r∈(Na b m xs vs).1,r.B1=3\/r.B1=7:=by
 unfold Na;cases m.ok b&&((xs.length:Int)==(m.A0.length:Int)&&((vs.length:Int)==(b.B0.length:Int)&&SJ xs))with
 |true=>exact Agu b vs m.A0 xs
 |false=>exact λr hr=>by cases hr
def Gm(b:O):aF->List aI->aF×Int
 |m,[]=>(m,0)
 |m,r::t=>bif Ax b r then Gm b (By m r) t else(Img.none,1)
def YV{b:O}:∀{l:List aI}{m:aF},(∀r∈l,Ax b r=H)->Gm b m l=(BT m l,0)
 |[],_,_=>rfl
 |r::t,m,h=>by simp only[Gm];rw[h r (W_ ..),S];exact YV λx hx=>h x (Q_ _ hx)
def Adi{b:O}:∀{l:List aI}{m:aF},(Gm b m l).2≠0->Gm b m l=(Img.none,1)
 |[],_,h=>absurd rfl h
 |r::t,m,h=>by
  simp only[Gm]at h|-;cases hv:Ax b r with
  |true=>rw[hv]at h;exact Adi h
  |false=>rfl
section
variable{b:O}(hb:b.small)(hcode:b.code=0)
include hb hcode
theorem Ag9(hl:l.length<=10000):∀(k i:Nat) (Y:aF),i+k=l.length->aM b Y->Bx (λx=>letI a:=x.2.1.2.2;letI c:=x.2.2;letI d:=a.2.2;letI e:=c.2.1;DG x.1.1 x.1.2.2.2.2.1 x.2.1.1 x.2.1.2.1 a.1 a.2.1 d.1 d.2.1 d.2.2.1 d.2.2.2.1 c.1.1 c.1.2.1 c.1.2.2.1 c.1.2.2.2.1 e.1 e.2.1 e.2.2.1 e.2.2.2.1) (k+1) ((l,(),(),(),(i:Int),()),(b.tup,Y.tup,Img.none.tup,()))=R (bif(Gm b Y (l.drop i)).2==0 then .inl (((),(),()),((Gm b Y (l.drop i)).1.tup,Img.none.tup,()))else .inr (((),1,()),(Img.none.tup,()))):=by
 intro k;induction k with
 |zero=>intro i Y hi hY;obtain rfl:i=l.length:=ω;refine At ?_;show DG l (l.length:Int) b.D0 b.E0 b.J0 b.O0 b.L0 b.N0 b.P0 b.B0 Y.F0 Y.M0 Y.I0 Y.A0 [] [] [] []=_;unfold DG;rw[f_ (I_ (l.length:Int)),Y_];rfl
 |succ k ih=>
  intro i Y hi hY;have hi':i<l.length:=ω;have hcc:=Ai hcode;have he:=Bv hb hY;have hlp:=hY.lp;have hmx:100000<=maxLen:=by decide
  have ha:=Aat hb Y ω ω ω (r:=l.getD i Ab3);unfold ZI at ha;rw[Img.ok_iff.2 hY,l_]at ha;rw[AR Ab3 hi'];simp only[Gm];cases hv:Ax b (l.getD i Ab3)with
  |true=>rw[hv]at ha;refine(AM (x':=((l,(),(),(),((i+1:Nat):Int),()),(b.tup,(By Y (l.getD i Ab3)).tup,Img.none.tup,()))) ?_).trans (ih (i+1) _ ω (Ld hY hv).1);show DG l (i:Int) b.D0 b.E0 b.J0 b.O0 b.L0 b.N0 b.P0 b.B0 Y.F0 Y.M0 Y.I0 Y.A0 [] [] [] []=_;unfold DG;rw[show aJ 0 0 0 0 0=Ab3 from rfl];simp only[b_ (ω:(i:Int)<(l.length:Int)),V (ω:(0:Int)<=(i:Int)) (ω:(i:Int)<(l.length:Int)),S,i_,ha,a_,L_,W,CU hi' (show l.length<=AB by unfold AB;omega)];rfl
  |false=>rw[hv]at ha;refine At ?_;show DG l (i:Int) b.D0 b.E0 b.J0 b.O0 b.L0 b.N0 b.P0 b.B0 Y.F0 Y.M0 Y.I0 Y.A0 [] [] [] []=_;unfold DG;rw[show aJ 0 0 0 0 0=Ab3 from rfl];simp only[b_ (ω:(i:Int)<(l.length:Int)),V (ω:(0:Int)<=(i:Int)) (ω:(i:Int)<(l.length:Int)),S,i_,ha,W,a_];rfl
theorem Bj6(hm:aM b m):m.fit:=by have hcc:=Ai hcode;have he:=Bv hb hm;have h1:=hm.lp;have h2:=hm.lf;have h3:=hm.ll;exact⟨ω,ω,ω,ω⟩
theorem Alh(hm:aM b m)(hl:l.length<=10000):Ow b.D0 b.E0 b.J0 b.O0 b.L0 b.N0 b.P0 b.B0 m.F0 m.M0 m.I0 m.A0 l=R (((),(Gm b m l).2,()),((Gm b m l).1.tup,())):=by
 have h:=Ag9 hb hcode hl l.length 0 m ω hm;rw[O_]at h;have h':LC ((l,(),(),(),(0:Int),()),(b.tup,m.tup,Img.none.tup,()))=_:=Af h ω;unfold Ow;rw[show LC ((l,(),(),(),(0:Int),()),((b.D0,b.E0,b.J0,b.O0,b.L0,b.N0,b.P0,b.B0,()),(m.F0,m.M0,m.I0,m.A0,()),(([]:List Int),([]:List Bool),([]:List Bool),([]:List Z),()),()))=_ from h'];by_cases g:(Gm b m l).2=0
 .generalize Gm b m l=w at g;rw[g];rfl
 .rw[Av g,Adi g];rfl
end
section
variable{b:O}{m:aF}{vs:List aD}{xs:List Int}(h:Plan22 b m vs xs)(ps:List aP)(press:Int×Int)(good:Bool)
include h
end
def Blq(c:Int×Int)(m:aF):Prop:=∀f:Nat,f<32->∀d:Int,(d=1\/d=2)->(AZ c f d=H↔((f:Int),d)∈m.A0.map Ew)
def Apd{b:O}:∀{l:List Z}{X:Rnd},(Mi b l X).lan=X.lan
 |[],_=>rfl
 |e::t,X=>by show(Mi b t (LV b e X)).lan=X.lan;rw[Apd];unfold LV;cases Vq b X.img<;>rfl
def Ayh(hb:b.small)(hm:aM b m):Blq (ofC m.A0 (0,0)) m:=λf _ d hd=>by have hc:∀e∈m.A0,Afr e:=λe he=>Am1 hb (Eo.1 (hm.en e he)).1;rw[Asb hc f hd,Rg];simp
section
variable{b:O}{m:aF}{vs:List aD}{xs:List Int}(h:Plan22 b m vs xs)(ps:List aP)(press:Int×Int)
include h
end
def Cf{β:Type}{o:Option α}{f:α->Option β}{r:Option β}(h:o=R a)(h2:f a=r):bI o f=r:=by subst h;exact h2
def Ali(hs:Be m.A0)(hl:m.A0.length<=1000)(hx:xs.length=m.A0.length)(F D:Int):Ox m.F0 m.M0 m.I0 m.A0 xs F D=R ((Ait m.A0 xs F D,()),()):=by
 have hfp:=NG (c:=Cy F D) 0 hs;rw[k_]at hfp;have hfp':BL F D m.A0 0=_:=hfp;unfold Ox Ait;rw[QF m ω,hfp'];cases hh:Kq (Cy F D) m.A0 with
 |false=>rfl
 |true=>obtain⟨p1,_⟩:=Aim hh;simp only[S,a_];rw[b_ (ω:(0:Int)<=((Bz (Cy F D) m.A0:Nat):Int)),V (ω:(0:Int)<=((Bz (Cy F D) m.A0:Nat):Int)) (ω:((Bz (Cy F D) m.A0:Nat):Int)<(xs.length:Int)),i_];rfl
def Ao8(hs:Be m.A0)(hl:m.A0.length<=1000)(hx:xs.length=m.A0.length){q:aF}(hq:q.A0.length<=1000):Qv m.F0 m.M0 m.I0 m.A0 xs q.F0 q.M0 q.I0 q.A0=R ((q.A0.map (FT m.A0 xs),()),()):=by
 have key:∀(k i:Nat) (out:List Int),i+k=q.A0.length->out.length=i->Bx (λx=>letI a:=x.2.2.1;GY x.1.1 x.1.2.2.2.1 x.1.2.2.2.2.1 x.2.1.1 x.2.1.2.1 x.2.1.2.2.1 x.2.1.2.2.2.1 a.1 a.2.1 a.2.2.1 a.2.2.2.1) (k+1) ((xs,(),(),out,(i:Int),()),(m.tup,q.tup,()))=R ((out++(q.A0.drop i).map (FT m.A0 xs),()),()):=by
  intro k;induction k with
  |zero=>intro i out hi _;obtain rfl:i=q.A0.length:=ω;refine At ?_;show GY xs out (q.A0.length:Int) m.F0 m.M0 m.I0 m.A0 q.F0 q.M0 q.I0 q.A0=_;unfold GY;rw[f_ (I_ (q.A0.length:Int)),Y_,List.map_nil,b3_];rfl
  |succ k ih=>
   intro i out hi ho;have hi':i<q.A0.length:=ω;have hs1:GY xs out (i:Int) m.F0 m.M0 m.I0 m.A0 q.F0 q.M0 q.I0 q.A0=R (.inl ((xs,(),(),out++[FT m.A0 xs (q.A0.getD i aB)],((i+1:Nat):Int),()),(m.tup,q.tup,()))):=by unfold GY;rw[show bA 0 0 0 0 B=aB from rfl];simp only[b_ (ω:(i:Int)<(q.A0.length:Int)),V (ω:(0:Int)<=(i:Int)) (ω:(i:Int)<(q.A0.length:Int)),S,i_];refine Cf (Ali hs hl hx _ _) ?_;rw[Ah (show out.length+[Ait m.A0 xs (q.A0.getD i aB).C0 (q.A0.getD i aB).G0].length<=2147483648 by show out.length+1<=_;omega),CU hi' (show q.A0.length<=AB by unfold AB;omega)];rfl
   refine(AM hs1).trans ?_;rw[ih (i+1) _ ω (by rw[h_,a8_];omega),AR aB hi',d4_,M_,c9_]
 have h:=key q.A0.length 0 [] ω rfl;rw[O_,y_]at h;have h':RJ ((xs,(),(),([]:List Int),(0:Int),()),(m.tup,q.tup,()))=_:=Af h ω;unfold Qv;exact Cf h' rfl
section
variable{b:O}(hb:b.small)(hcode:b.code=0)
include hb hcode
theorem Wa{X:Rnd}(hX:X.ok b)(hl:l.length<=10000)(hv:∀r∈l,Ax b r=H)(hxs:xsL X.img X.xs l=(BT X.img l).A0.map (FT X.img.A0 X.xs))(hr:X.recs.length<=100000):Hl b.D0 b.E0 b.J0 b.O0 b.L0 b.N0 b.P0 b.B0 X.recs X.img.F0 X.img.M0 X.img.I0 X.img.A0 X.xs X.lan.lit X.lan.gong X.lan.cl.1 X.lan.cl.2 X.ref.1 X.ref.2 l=R (((),()),((wrL l X).tup,())):=by have h1:=Alh hb hcode hX.img hl;rw[YV hv]at h1;have hok:=(Ahv hX hv).img;have he:=Bv hb hX.img;have he2:=Bv hb hok;have he3:(BT X.img l).A0.length<=14:=he2;have h2:=Ao8 hX.img.so ω hX.len (q:=BT X.img l) ω;rw[<-hxs]at h2;unfold Hl;refine Cf h1 (Cf h2 ?_);rw[Ah (show([]:List aI).length+X.recs.length<=2147483648 by show 0+X.recs.length<=_;omega),y_];show(bif aR (X.recs.length+l.length) 2147483648 then _ else _)=_;rw[Ah (ω:X.recs.length+l.length<=2147483648)];rfl
theorem Bd3{X:Rnd}(hX:X.ok b)(he:Ak b e.C0 e.G0=H)(hr:X.recs.length<=100000):Hl b.D0 b.E0 b.J0 b.O0 b.L0 b.N0 b.P0 b.B0 X.recs X.img.F0 X.img.M0 X.img.I0 X.img.A0 X.xs X.lan.lit X.lan.gong X.lan.cl.1 X.lan.cl.2 X.ref.1 X.ref.2 [Ai9 e]=R (((),()),((Ab9 (Ai9 e) X).tup,())):=by
 rw[<-Blo];refine Wa hb hcode hX (by show 1<=10000;omega) (λr hr=>?_) ?_ hr
 .rw[d1_.1 hr];exact Akg he
 .exact Abi hX.img.so hX.len (Ai9 e)
end
def QM(b:O)(m:aF)(e:Z)(X:Rnd):Rnd:=bif decide (0<=BL e.C0 e.G0 m.A0 0)then X else LV b e X
def Wc(b:O)(m:aF):List Z->Rnd->Rnd
 |[],X=>X
 |e::t,X=>Wc b m t (QM b m e X)
def Aev(b:O)(m:aF):∀(l k:List Z) (X:Rnd),Wc b m (l++k) X=Wc b m k (Wc b m l X)
 |[],_,_=>rfl
 |e::t,k,X=>Aev b m t k (QM b m e X)
def Aew(b:O):∀(l k:List Z) (X:Rnd),Mi b (l++k) X=Mi b k (Mi b l X)
 |[],_,_=>rfl
 |e::t,k,X=>Aew b t k (LV b e X)
def Ans(h:PlanW b m vs xs){f:Nat}(hf:f<32){d:Int}(hd:d=1\/d=2):decide (0<=BL (f:Int) d m.A0 0)=AZ (ofC m.A0 (0,0)) f d:=by
 have ha:=Ayh h.small h.img f hf d hd;rw[Bool.eq_iff_iff,ha,R_];rcases Pf (f:Int) d m.A0 0 with⟨h1,h2⟩|⟨k,h1,h2,h3⟩
 .rw[h1];constructor
  .intro q;omega
  .intro q;obtain⟨e,he,hq⟩:=b2_.1 q
   have:=h2 e he
   rw[Ar1.2 hq]at this;cases this
 .rw[h2];constructor
  .intro _;exact b2_.2 ⟨_,AT aB h1,Ar1.1 h3⟩
  .intro _;omega
def Bgt(h:PlanW b m vs xs)(c:Int×Int){f:Nat}(hf:f<32)(X:Rnd):Wc b m (Ey c f) X=Mi b (Ey (CW c (ofC m.A0 (0,0))) f) X:=by
 have f1:=Ans h hf (d:=1) (.inl rfl);have f2:=Ans h hf (d:=2) (.inr rfl);have b1:=SD c (ofC m.A0 (0,0)) hf (d:=1);have b2:=SD c (ofC m.A0 (0,0)) hf (d:=2);unfold Ey;rw[b1,b2,Aev,Aew];have one:∀(d:Int) (u v:Bool),decide (0<=BL (f:Int) d m.A0 0)=v->∀Y:Rnd,Wc b m (bif u then [⟨(f:Int),d,-1,0,B⟩]else []) Y=Mi b (bif(u&&!v)then [⟨(f:Int),d,-1,0,B⟩]else []) Y:=λd u v hv Y=>by
  cases u with
  |false=>rfl
  |true=>show QM b m ⟨(f:Int),d,-1,0,B⟩ Y=_;unfold QM;simp only;rw[hv];cases v<;>rfl
 rw[one 1 (AZ c f 1) _ f1,one 2 (AZ c f 2) _ f2]
def Az0(h:PlanW b m vs xs)(c:Int×Int)(X:Rnd):Wc b m (KD c) X=Mi b (KD (CW c (ofC m.A0 (0,0)))) X:=by
 have key:∀(k i:Nat) (Y:Rnd),i+k<=32->Wc b m ((bG i k).flatMap (Ey c)) Y=Mi b ((bG i k).flatMap (Ey (CW c (ofC m.A0 (0,0))))) Y:=by
  intro k;induction k with
  |zero=>exact λ_ _ _=>rfl
  |succ k ih=>intro i Y hi;rw[d0_,a1_,a1_,Aev,Aew,Bgt h c (ω:i<32),ih (i+1) _ ω]
 exact key 32 0 X ω
def Azb(h:∀f:Nat,f<32->∀d:Int,AZ c f d=B):KD c=[]:=by
 have key:∀(k i:Nat),i+k<=32->(bG i k).flatMap (Ey c)=[]:=by
  intro k;induction k with
  |zero=>exact λ_ _=>rfl
  |succ k ih=>intro i hi;rw[d0_,a1_,ih (i+1) ω];unfold Ey;rw[h i ω 1,h i ω 2];rfl
 exact key 32 0 ω
def Ays(hb:b.small)(hcode:b.code=0){press:Int×Int}(h:e∈KD (Pa press (Dg b))):Ak b e.C0 e.G0=H:=by obtain⟨h1,h2,h3⟩:=Aj4 h;rw[ZJ,e_,XO hb hcode ω h2,Int.toNat_of_nonneg h1.1]at h3;exact h3.2
def Bdr{X:Rnd}(h:X.ok b)(he:Ak b e.C0 e.G0=H):(QM b m e X).ok b:=by
 unfold QM;cases decide (0<=BL e.C0 e.G0 m.A0 0)with
 |true=>exact h
 |false=>exact Apm h he
def Av8(b:O)(m:aF)(e:Z)(X:Rnd):(QM b m e X).recs.length<=X.recs.length+1:=by
 unfold QM;cases decide (0<=BL e.C0 e.G0 m.A0 0)with
 |true=>exact Nat.le_succ _
 |false=>exact Aa2 b [e] X
def Rnd.none:Rnd:=⟨[],Img.none,[],Lan.none,(0,0)⟩
section
variable{b:O}(hb:b.small)(hcode:b.code=0)
include hb hcode
theorem Az6(hm:aM b m)(vs:List aD){l:List Z}(hl:l.length<=64)(hi:i<l.length)(hv:Ak b (l.getD i aB).C0 (l.getD i aB).G0=H){X:Rnd}(hX:X.ok b)(hr:X.recs.length<=10000):Iu vs l (i:Int) b.D0 b.E0 b.J0 b.O0 b.L0 b.N0 b.P0 b.B0 m.F0 m.M0 m.I0 m.A0 [] [] [] [] [] [] [] [] 0 0 0 0 X.recs X.img.F0 X.img.M0 X.img.I0 X.img.A0 X.xs X.lan.lit X.lan.gong X.lan.cl.1 X.lan.cl.2 X.ref.1 X.ref.2=R (.inl ((vs,(),(),(),(),l,((i+1:Nat):Int),()),(b.tup,m.tup,Rnd.none.tup,(QM b m (l.getD i aB) X).tup,()))):=by
 have hcc:=Ai hcode;have he:=Bv hb hm;have heX:=Bv hb hX.img;have hlp:=hX.img.lp;have hf:=QF m ω (l.getD i aB).C0 (l.getD i aB).G0;have hrm:=Adc hb X.img ω ω ω;have hw:=Bd3 hb hcode hX hv ω;unfold Iu;rw[show bA 0 0 0 0 B=aB from rfl];simp only[b_ (ω:(i:Int)<(l.length:Int)),V (ω:(0:Int)<=(i:Int)) (ω:(i:Int)<(l.length:Int)),S,i_,CU hi (show l.length<=AB by unfold AB;omega)];generalize l.getD i aB=e at*;refine Cf hf ?_;unfold QM;cases hq:decide (0<=BL e.C0 e.G0 m.A0 0)with
 |true=>rfl
 |false=>
  refine Cf hrm ?_;unfold LV;cases hz:Vq b X.img with
  |false=>refine Cf (LS e.C0 e.G0) ?_;refine Cf (IE X.ref (Lh e.C0 e.G0)) ?_;rfl
  |true=>refine Cf hw ?_;show R (Sum.inl ((vs,(),(),(),(),l,J.wrap ((i:Int)+1),()),_))=_;rw[CU hi (show l.length<=AB by unfold AB;omega)];rfl
theorem Akt(hm:aM b m)(vs:List aD){l:List Z}(hl:l.length<=64)(hv:∀e∈l,Ak b e.C0 e.G0=H){X:Rnd}(hX:X.ok b)(hr:X.recs.length<=1000):TC ((vs,(),(),(),(),l,(0:Int),()),(b.tup,m.tup,Rnd.none.tup,X.tup,()))=R ((vs,(),(),(),()),(b.tup,Rnd.none.tup,(Wc b m l X).tup,())):=by
 have key:∀(k i:Nat) (Y:Rnd),i+k=l.length->Y.ok b->Y.recs.length<=1000+i->Bx (λx=>letI a:=x.2.2.2;letI j:=a.2.1;letI c:=j.2.2.2.2;letI q:=a.1.2;letI d:=q.2.2.2;letI e:=x.2.1.2.2;letI f:=d.2.2.2;letI g:=c.2.2.2;letI n:=e.2.2;letI o:=x.2.2.1;Iu x.1.1 x.1.2.2.2.2.2.1 x.1.2.2.2.2.2.2.1 x.2.1.1 x.2.1.2.1 e.1 e.2.1 n.1 n.2.1 n.2.2.1 n.2.2.2.1 o.1 o.2.1 o.2.2.1 o.2.2.2.1 a.1.1 q.1 q.2.1 q.2.2.1 d.1 d.2.1 d.2.2.1 f.1 f.2.1 f.2.2.1 f.2.2.2.1 f.2.2.2.2.1 j.1 j.2.1 j.2.2.1 j.2.2.2.1 c.1 c.2.1 c.2.2.1 g.1 g.2.1 g.2.2.1 g.2.2.2.1 g.2.2.2.2.1) (k+1) ((vs,(),(),(),(),l,(i:Int),()),(b.tup,m.tup,Rnd.none.tup,Y.tup,()))=R ((vs,(),(),(),()),(b.tup,Rnd.none.tup,(Wc b m (l.drop i) Y).tup,())):=by
  intro k;induction k with
  |zero=>intro i Y hi _ _;obtain rfl:i=l.length:=ω;refine At ?_;show Iu vs l (l.length:Int) b.D0 b.E0 b.J0 b.O0 b.L0 b.N0 b.P0 b.B0 m.F0 m.M0 m.I0 m.A0 [] [] [] [] [] [] [] [] 0 0 0 0 Y.recs Y.img.F0 Y.img.M0 Y.img.I0 Y.img.A0 Y.xs Y.lan.lit Y.lan.gong Y.lan.cl.1 Y.lan.cl.2 Y.ref.1 Y.ref.2=_;unfold Iu;rw[f_ (I_ (l.length:Int)),Y_];rfl
  |succ k ih=>intro i Y hi hY hr;have hi':i<l.length:=ω;have hv':=hv _ (AT aB hi');have hrs:=Av8 b m (l.getD i aB) Y;rw[AR aB hi'];exact(AM (Az6 hb hcode hm vs hl hi' hv' hY ω)).trans (ih (i+1) _ ω (Bdr hY hv') ω)
 have h:=key l.length 0 X ω hX ω;rw[O_]at h;exact Af h ω
end
section
variable{b:O}{m:aF}{vs:List aD}{xs:List Int}(h:PlanW b m vs xs){ps:List aP}(hp:ps.length=b.B0.length)(press:Int×Int)
include h
theorem Aku(good:Bool):Ou b.D0 b.E0 b.J0 b.O0 b.L0 b.N0 b.P0 b.B0 (BH b m xs vs ps press good).img.F0 (BH b m xs vs ps press good).img.M0 (BH b m xs vs ps press good).img.I0 (BH b m xs vs ps press good).img.A0 (BH b m xs vs ps press good).xs vs=R (Vw b m xs vs ps press good,()):=by
 have hcc:=h.cars;have hvl:=h.made.len;have hmx:100000<=maxLen:=by decide
 obtain⟨hok,_⟩:=Ae2 h.small h.code h.img h.xlen (vs:=vs) ps press good;have hXl:=Bv h.small hok.img;have hXp:=hok.img.lp;have hXx:=hok.len;exact Aq7 h.small h.made.ok ω (BH b m xs vs ps press good).img ω ω (BH b m xs vs ps press good).xs ω
theorem Apr(good:Bool):Hl b.D0 b.E0 b.J0 b.O0 b.L0 b.N0 b.P0 b.B0 (BH b m xs vs ps press good).recs (BH b m xs vs ps press good).img.F0 (BH b m xs vs ps press good).img.M0 (BH b m xs vs ps press good).img.I0 (BH b m xs vs ps press good).img.A0 (BH b m xs vs ps press good).xs (BH b m xs vs ps press good).lan.lit (BH b m xs vs ps press good).lan.gong (BH b m xs vs ps press good).lan.cl.1 (BH b m xs vs ps press good).lan.cl.2 (BH b m xs vs ps press good).ref.1 (BH b m xs vs ps press good).ref.2 (Vw b m xs vs ps press good).1=R (((),()),((wrL (Vw b m xs vs ps press good).1 (BH b m xs vs ps press good)).tup,())):=by obtain⟨hok,hrl⟩:=Ae2 h.small h.code h.img h.xlen (vs:=vs) ps press good;have hXl:=Bv h.small hok.img;have hv:∀r∈(Vw b m xs vs ps press good).1,Ax b r=H:=Aqj h.code hok.img _;have hk:∀r∈(Vw b m xs vs ps press good).1,r.B1=3\/r.B1=7:=Au3 b _ _ vs;have hpl:(Vw b m xs vs ps press good).1.length<=_:=(Aka b (BH b m xs vs ps press good).img (BH b m xs vs ps press good).xs vs).1;refine Wa h.small h.code hok ω hv ?_ ω;exact Abh hok.img hok.len λr hr=>⟨hv r hr,by have:=hk r hr;omega⟩
include hp
theorem Aq8(good:Bool):Sx b.D0 b.E0 b.J0 b.O0 b.L0 b.N0 b.P0 b.B0 m.F0 m.M0 m.I0 m.A0 xs vs ps press.1 press.2 good=R (((),0,()),((Ahr b m xs vs ps press good).tup,())):=by
 have hb:=h.small;have hcode:=h.code;have hcc:=h.cars;have hvl:=h.made.len;have hmx:100000<=maxLen:=by decide
 have he:=Bv hb h.img;have hlp:=h.img.lp;have hxl:=h.xlen;have e1:=Cd hb m ω ω;rw[Img.ok_iff.2 h.img]at e1;have e2:=Ac8 m (xs:=xs) ω;rw[h.exp,show((xs.length:Int)==(m.A0.length:Int))=H by rw[h.xlen];exact s_ _]at e2;have n1:((vs.length:Int) !=(b.B0.length:Int))=B:=by rw[hvl,L_]
 have n2:((ps.length:Int) !=(b.B0.length:Int))=B:=by rw[hp,L_]
 have hH:=QE hb hcode;have hX:∀L:Lan,Rnd.ok b ⟨[],m,xs,L,(0,0)⟩:=λL=>⟨h.img,h.xlen⟩
 unfold Sx;refine Cf e1 ?_;refine Cf e2 ?_;simp only[n1,n2,W];cases good with
 |true=>
  have hlight:=Ao6 hb hcode vs ps ω;have hlR:Aaf b vs ps=(My b vs ps,0):=by unfold Aaf;rw[show((vs.length:Int)==(b.B0.length:Int))=H by rw[hvl];exact s_ _,show((ps.length:Int)==(b.B0.length:Int))=H by rw[hp];exact s_ _];rfl
  rw[hlR]at hlight;have hsv:=Adj hcode vs (l:=m.A0) λe he=>(Eo.1 (h.img.en e he)).1;have hsl:=Aa6 b vs m.A0;have hserve:=Ao7 hb hcode h.img ω vs ω;have hw1:=Wa hb hcode (hX (My b vs ps)) (l:=LU b vs m.A0) ω (λr hr=>(hsv r hr).1) (Abh h.img h.xlen λr hr=>⟨(hsv r hr).1,by rw[(hsv r hr).2];omega⟩) (G_ _);have hok1:(wrL (LU b vs m.A0) ⟨[],m,xs,My b vs ps,(0,0)⟩).ok b:=Ahv (hX _) λr hr=>(hsv r hr).1;have hlc:=Aj2 (Pa press (Dg b));have hloop:=Akt hb hcode h.img vs hlc (λe he=>Ays hb hcode he) hok1 (by show([]++LU b vs m.A0).length<=_;rw[y_];omega);rw[Az0 h]at hloop;have hpl:=Aku h (ps:=ps) press H;have hen:=Apr h (ps:=ps) press H;refine Cf (a:=((vs,(),(),(),(),(),()),(b.tup,m.tup,(press.1,press.2,()),Rnd.none.tup,(wrL (LU b vs m.A0) ⟨[],m,xs,My b vs ps,(0,0)⟩).tup,()))) ?_ ?_
  .refine Cf hlight ?_;refine Cf rfl ?_;refine Cf hserve ?_;exact Cf hw1 rfl
  refine Cf hH ?_;refine Cf (VX press (Dg b)) ?_;refine Cf (VY (Ad2 press (Dg b))) ?_;refine Cf hloop ?_;refine Cf hpl ?_;refine Cf rfl ?_;refine Cf hen ?_;rfl
 |false=>
  have hz:KD (Pa (0,0) (Dg b))=[]:=Azb λf hf d=>by rw[ZJ,Rg];rfl
  have hloop:=Akt hb hcode h.img vs (l:=[]) (G_ _) (λe he=>by cases he) (hX (At6 vs.length)) (G_ _);have hli:=VY (Ad2 (0,0) (Dg b));rw[hz]at hli;have hpl:=Aku h (ps:=ps) press B;have hen:=Apr h (ps:=ps) press B;refine Cf (a:=((vs,(),(),(),(),(),()),(b.tup,m.tup,(0,0,()),Rnd.none.tup,(⟨[],m,xs,At6 vs.length,(0,0)⟩:Rnd).tup,()))) ?_ ?_
  .simp only[b_ (ω:(0:Int)<=(vs.length:Int)),b_ (a2_ (vs.length:Int)),b_ (ω:(vs.length:Int)<=2147483648),V_,S,W,i_];rfl
  refine Cf hH ?_;refine Cf (VX (0,0) (Dg b)) ?_;refine Cf hli ?_;refine Cf hloop ?_;refine Cf hpl ?_;refine Cf rfl ?_;refine Cf hen ?_;rfl
end
def Au5(floor:Int):Int:=bC.wrap (1*2^min (bK floor) (IntKind.bits .u32))
def HL(floor dir:Int):Int×Int:=bif inR 0 31 floor then(bif dir==1 then(Au5 floor,0)else bif dir==2 then(0,Au5 floor)else(0,0))else(0,0)
def TN(floor dir:Int):DO floor dir=R (((),()),(((HL floor dir).1,(HL floor dir).2,()),())):=by
 unfold DO HL inR;by_cases g:0<=floor
 .by_cases g':floor<32
  .rw[b_ g,b_ g',b_ (ω:floor<=31)];simp only[S,a_,V_,b_ g];cases dir==1<;>cases dir==2<;>rfl
  .rw[b_ g,f_ g',f_ (ω:¬floor<=31)];rfl
 .rw[f_ g];rfl
def SV(floor dir:Int):El floor dir=R (((),()),(((HL floor dir).1,(HL floor dir).2,()),())):=by
 unfold El HL inR;by_cases g:floor<0
 .rw[b_ g,f_ (ω:¬0<=floor)];rfl
 .rw[f_ g,b_ (ω:0<=floor)];by_cases g':31<floor
  .rw[b_ g',f_ (ω:¬floor<=31)];rfl
  .rw[f_ g',b_ (ω:floor<=31)];have w:aE.wrap floor=floor:=ET ω ω;simp only[W,w,b_ (ω:0<=floor),S,V_];cases dir==1<;>cases dir==2<;>rfl
def orV(a c:Int):Int:=bC.wrap (stk a c (bL (bE (IntKind.bits .u32) a|||BitVec.ofInt (IntKind.bits .u32) c)))
def WX(a c:Int×Int):Int×Int:=(orV a.1 c.1,orV a.2 c.2)
def WG(a c:Int×Int):CL a.1 a.2 c.1 c.2=R (((),()),(((WX a c).1,(WX a c).2,()),())):=rfl
def Aas(a c:Int×Int):Di a.1 a.2 c.1 c.2=R (((),()),(((WX a c).1,(WX a c).2,()),())):=rfl
def Ahm(vs:List aD)(car:Int)(e:Z):Bool:=e.U0==car||(e.U0==-2&&(AD vs car).O2)
def Jz(vs:List aD)(car:Int)(e:Z)(c:Int×Int):Int×Int:=bif Ahm vs car e then WX c (HL e.C0 e.G0)else c
def Ll(vs:List aD)(car:Int):List Z->Int×Int->Int×Int
 |[],c=>c
 |e::t,c=>Ll vs car t (Jz vs car e c)
def JS(b:O)(m:aF)(vs:List aD)(car:Int):Int×Int:=bif m.ok b&&((vs.length:Int)==(b.B0.length:Int)&&(decide (0<=car)&&decide (car<(b.B0.length:Int))))then Ll vs car m.A0 (0,0)else(0,0)
section
variable{vs:List aD}{car:Int}(hc:0<=car/\car<vs.length){m:aF}(hm:m.A0.length<=1000)
include hc hm
theorem Sd:∀(k i:Nat) (c:Int×Int),i+k=m.A0.length->
  Bx (λx=>letI a:=x.1.2.2.2.2;EH x.1.1 x.1.2.1 a.1 a.2.1 a.2.2.1 x.2.1.1 x.2.1.2.1 x.2.2.1.1 x.2.2.1.2.1) (k+1) ((vs,car,(),(),m.A0,(m.A0.length:Int),(i:Int),()),(((0:Int),(0:Int),()),(c.1,c.2,()),()))=R (((),(),()),(((0:Int),(0:Int),()),((Ll vs car (m.A0.drop i) c).1,(Ll vs car (m.A0.drop i) c).2,()),()))
 |0,i,c,hi=>by refine At ?_;show EH vs car m.A0 (m.A0.length:Int) (i:Int) 0 0 c.1 c.2=_;unfold EH;rw[show decide ((i:Int)<(m.A0.length:Int))=B by simp;omega,show i=m.A0.length by omega,Y_];rfl
 |k+1,i,c,hi=>by
  have hi':i<m.A0.length:=ω;have w:J.wrap ((i:Int)+1)=((i+1:Nat):Int):=by rw[Ad ω ω];omega
  rw[AR aB hi'];refine(AM (x':=((vs,car,(),(),m.A0,(m.A0.length:Int),((i+1:Nat):Int),()),(((0:Int),(0:Int),()),((Jz vs car (m.A0.getD i aB) c).1,(Jz vs car (m.A0.getD i aB) c).2,()),()))) ?_).trans (Sd k (i+1) _ ω);show EH vs car m.A0 (m.A0.length:Int) (i:Int) 0 0 c.1 c.2=_;unfold EH;rw[show decide ((i:Int)<(m.A0.length:Int))=H by simp;omega,V (ω:(0:Int)<=(i:Int)) (ω:(i:Int)<(m.A0.length:Int)),show bA 0 0 0 0 B=aB from rfl];unfold Jz Ahm AD;have hu:=WG c (HL (m.A0.getD i aB).C0 (m.A0.getD i aB).G0);simp only[S,i_];cases(m.A0.getD i aB).U0==car with
  |true=>simp only[S,a_,Bool.true_or,TN,hu,w]
  |false=>
   cases(m.A0.getD i aB).U0==-2 with
   |true=>
    simp only[S,W,V hc.1 hc.2,a_,c6_,l_];cases(vs.getD car.toNat (aL B B B B 0 0 0 0 0 0 0 0)).O2 with
    |true=>simp only[S,TN,a_,hu,w]
    |false=>simp only[W,w]
   |false=>simp only[W,a_,S_,bM,w]
theorem WR:∀(k i:Nat) (c:Int×Int),i+k=m.A0.length->
  Bx (λx=>GU x.1.1 x.1.2.1 x.1.2.2.2.2.2.1 x.2.1.1 x.2.1.2.1 x.2.1.2.2.1 x.2.1.2.2.2.1 x.2.2.1.1 x.2.2.1.2.1 x.2.2.2.1.1 x.2.2.2.1.2.1) (k+1) ((vs,car,(),(),(),(i:Int),()),(m.tup,((0:Int),(0:Int),()),(c.1,c.2,()),()))=R (((),(),()),(((0:Int),(0:Int),()),((Ll vs car (m.A0.drop i) c).1,(Ll vs car (m.A0.drop i) c).2,()),()))
 |0,i,c,hi=>by refine At ?_;show GU vs car (i:Int) m.F0 m.M0 m.I0 m.A0 0 0 c.1 c.2=_;unfold GU;rw[show decide ((i:Int)<(m.A0.length:Int))=B by simp;omega,show i=m.A0.length by omega,Y_];rfl
 |k+1,i,c,hi=>by
  have hi':i<m.A0.length:=ω;have w:J.wrap ((i:Int)+1)=((i+1:Nat):Int):=by rw[Ad ω ω];omega
  rw[AR aB hi'];refine(AM (x':=((vs,car,(),(),(),((i+1:Nat):Int),()),(m.tup,((0:Int),(0:Int),()),((Jz vs car (m.A0.getD i aB) c).1,(Jz vs car (m.A0.getD i aB) c).2,()),()))) ?_).trans (WR k (i+1) _ ω);show GU vs car (i:Int) m.F0 m.M0 m.I0 m.A0 0 0 c.1 c.2=_;unfold GU;rw[show decide ((i:Int)<(m.A0.length:Int))=H by simp;omega,V (ω:(0:Int)<=(i:Int)) (ω:(i:Int)<(m.A0.length:Int)),show bA 0 0 0 0 B=aB from rfl];unfold Jz Ahm AD;have hu:=Aas c (HL (m.A0.getD i aB).C0 (m.A0.getD i aB).G0);simp only[S,i_];cases(m.A0.getD i aB).U0==car with
  |true=>simp only[S,a_,Bool.true_or,SV,hu,w];rfl
  |false=>
   cases(m.A0.getD i aB).U0==-2 with
   |true=>
    simp only[S,W,V hc.1 hc.2,a_,c6_,l_];cases(vs.getD car.toNat (aL B B B B 0 0 0 0 0 0 0 0)).O2 with
    |true=>simp only[S,SV,a_,hu,w];rfl
    |false=>simp only[W,w];rfl
   |false=>simp only[W,a_,S_,bM,w];rfl
end
section
variable{b:O}(hb:b.small)(vs:List aD)(m:aF)(hm:m.A0.length<=1000)(hp:m.F0.length<=maxLen)(car:Int)
include hb hm hp
theorem Afl:Lo b.D0 b.E0 b.J0 b.O0 b.L0 b.N0 b.P0 b.B0 m.F0 m.M0 m.I0 m.A0 vs car=R (((),()),(((JS b m vs car).1,(JS b m vs car).2,()),())):=by
 have hmx:1000<=maxLen:=by decide
 unfold Lo JS;rw[WK hb m hp ω];simp only[a_,bne];cases hok:m.ok b with
 |false=>rfl
 |true=>
  cases hq:(vs.length:Int)==(b.B0.length:Int)with
  |false=>rfl
  |true=>
   have hq':(vs.length:Int)=(b.B0.length:Int):=by simpa using hq
   by_cases g:0<=car
   .rw[b_ g,f_ (ω:¬car<0)];by_cases g':car<(b.B0.length:Int)
    .rw[b_ g',f_ (ω:¬(b.B0.length:Int)<=car)];have hlp:=Af (Sd (vs:=vs) (car:=car) ⟨g,ω⟩ hm m.A0.length 0 (0,0) ω) ω;have hlp':Nk ((vs,car,(),(),m.A0,(m.A0.length:Int),(0:Int),()),(((0:Int),(0:Int),()),((0:Int),(0:Int),()),()))=_:=hlp;simp only[m_,W,hlp',a_,O_,V_,S]
    .rw[f_ g',b_ (ω:(b.B0.length:Int)<=car)];rfl
   .rw[f_ g,b_ (ω:car<0)];rfl
theorem Pq:JZ b.D0 b.E0 b.J0 b.O0 b.L0 b.N0 b.P0 b.B0 m.F0 m.M0 m.I0 m.A0 vs car=R (((),()),(((JS b m vs car).1,(JS b m vs car).2,()),())):=by
 have hmx:1000<=maxLen:=by decide
 unfold JZ JS;rw[Cd hb m hp ω];simp only[a_,bne];cases hok:m.ok b with
 |false=>rfl
 |true=>
  cases hq:(vs.length:Int)==(b.B0.length:Int)with
  |false=>rfl
  |true=>
   have hq':(vs.length:Int)=(b.B0.length:Int):=by simpa using hq
   by_cases g:0<=car
   .rw[b_ g,f_ (ω:¬car<0)];by_cases g':car<(b.B0.length:Int)
    .rw[b_ g',f_ (ω:¬(b.B0.length:Int)<=car)];have hlp:=Af (WR (vs:=vs) (car:=car) ⟨g,ω⟩ hm m.A0.length 0 (0,0) ω) ω;have hlp':RG ((vs,car,(),(),(),(0:Int),()),(m.tup,((0:Int),(0:Int),()),((0:Int),(0:Int),()),()))=_:=hlp;unfold Img.tup at hlp';simp only[m_,W,hlp',a_,O_,V_,S]
    .rw[f_ g',b_ (ω:(b.B0.length:Int)<=car)];rfl
   .rw[f_ g,b_ (ω:car<0)];rfl
end
def Akc(a:Int)(b c d e:Bool){i:Int}(hi:i<=35):aC (QQ a b c d e i) λ_=>True:=by unfold QQ;refine C (λ_=>A trivial) λg1=>C (λ_=>A trivial) λ_=>C (λ_=>U (MB _) (A trivial)) λg3=>?_;have g1:=K_ g1;have g3:=K_ g3;have w:J.wrap (i-32)=i-32:=Ad ω ω;exact U (V (by show 0<=J.wrap (i-32);omega) (by show J.wrap (i-32)<(4:Int);omega)) (A trivial)
def Azq(a:Int)(b c d e:Bool)(i:Int)(o:Bool):aC (UG a b c d e i o) λ_=>True:=by unfold UG;exact aH
def Au8(n:Int)(x:Debounced)(a:Int)(b c d e:Bool):aC (So n x.Y0 x.B2 x.L1 x.M1 x.F1 x.R4 x.S4 x.T4 x.U4 x.V4 x.W4 x.X4 x.Y4 x.Z4 x.A5 x.I3 x.J3 x.K3 x.L3 x.M3 x.N3 x.O3 x.P3 x.R3 x.T3 x.U3 x.V3 x.X3 x.Y3 x.Z3 x.A4 x.B4 x.C4 x.D4 x.E4 x.F4 x.G4 x.H4 x.I4 x.J4 x.K4 a b c d e) λ_=>True:=by unfold So;rw[WN];refine aX (C (λ_=>A trivial) λ_=>I (Q:=λ_=>True) ?_ λ_ _=>A trivial);refine aQ (λ(k:Nat) x=>(0:Int)<=x.1.2.2.2.2.1/\(36:Int)<=x.1.2.2.2.2.1+(k:Int)) (λk x hx=>?_) 36 ⟨a2_ 0,show(36:Int)<=0+((36:Nat):Int)by omega⟩ τ;unfold Zw;obtain⟨h1,h2⟩:=hx;refine C (λg=>?_) (λ_=>A trivial);have g:x.1.2.2.2.2.1<(36:Int):=o_ g;have w:J.wrap (x.1.2.2.2.2.1+1)=x.1.2.2.2.2.1+1:=Ad ω ω;have ib:aG x.1.2.2.2.2.1 36=H:=V h1 g;have fin:(0:Int)<=J.wrap (x.1.2.2.2.2.1+1)/\(36:Int)<=J.wrap (x.1.2.2.2.2.1+1)+((k-1:Nat):Int):=ω;refine I (Akc _ _ _ _ _ ω) λ_ _=>I (Akc _ _ _ _ _ ω) λ_ _=>?_;refine C (λ_=>U ib (A ⟨k-1,ω,fin⟩)) λ_=>U ib ?_;refine C (λ_=>I (Azq _ _ _ _ _ _ _) λ_ _=>U ib (A ⟨k-1,ω,fin⟩)) λ_=>?_;exact U ib (U ib (A ⟨k-1,ω,fin⟩))
def K456(l:List aI):Prop:=∀r∈l,r.B1=4\/r.B1=5\/r.B1=6
def K1(l:List aI):Prop:=l.length<=1/\K456 l
def K1.nil:K1 []:=⟨G_ _,λr h=>by cases h⟩
def K1.one(h:r.B1=4\/r.B1=5\/r.B1=6):K1 [r]:=⟨H_ 1,λx hx=>by rw[d1_]at hx;subst hx;exact h⟩
def K1.r4(a b c d:Int):K1 [aJ 4 a b c d]:=K1.one (.inl rfl)
def K1.r5(a b c d:Int):K1 [aJ 5 a b c d]:=K1.one (.inr (.inl rfl))
def K1.r6(a b c d:Int):K1 [aJ 6 a b c d]:=K1.one (.inr (.inr rfl))
def K456.app{r:List aI}(h:K456 l)(h':K456 r):K456 (l++r):=λx hx=>by
 rcases u_.1 hx with hx|hx
 .exact h x hx
 .exact h' x hx
section
variable{b:O}(hb:b.small){m:aF}(hm:aM b m)
include hm in
theorem Alk:aC (ML m.F0 m.M0 m.I0 m.A0) λ_=>True:=by
 have hc:=Ai hm.code;have hp:=hm.lp;have hl:=hm.ll;unfold ML;refine I (Q:=λ_=>True) ?_ λ_ _=>A trivial;refine aQ (λ(k:Nat) z=>∃(n:Int) (i:Nat),z=(((),n,(i:Int),()),(m.tup,()))/\i+k=m.F0.length) (λk z hz=>?_) m.F0.length ⟨_,0,rfl,k_ _⟩ ω;obtain⟨n,i,rfl,hk⟩:=hz;unfold UQ;refine C (λg=>?_) λ_=>A trivial;have g:(i:Int)<(m.F0.length:Int):=o_ g;have i1:aG (i:Int) m.F0.length=H:=V ω g;have i2:aG (i:Int) m.I0.length=H:=V ω ω;have w:=Br (n:=i) ω;refine I (Q:=λy=>∃q:Bool,y=(((),n,(i:Int),q,()),(m.tup,()))) ?_ λy hy=>?_
 .exact U i1 (C (λ_=>U i1 (C (λ_=>A ⟨_,rfl⟩) λ_=>U i2 (A ⟨_,rfl⟩))) λ_=>U i2 (A ⟨_,rfl⟩))
 .obtain⟨q,rfl⟩:=hy;refine C (λ_=>A ⟨k-1,ω,J.wrap (n+1),i+1,?_,ω⟩) λ_=>A ⟨k-1,ω,n,i+1,?_,ω⟩
  .rw[<-w]
  .rw[<-w]
theorem Aeu(car:Int)(hl:m.A0.length<=1000):aC (Jj m.F0 m.M0 m.I0 m.A0 car) λ_=>True:=by
 unfold Jj;refine I (Q:=λ_=>True) ?_ λy _=>by cases y<;>exact A trivial
 refine aQ (λ(k:Nat) z=>∃(i:Nat),z=((car,(),(i:Int),()),(m.tup,()))/\i+k=m.A0.length) (λk z hz=>?_) m.A0.length ⟨0,rfl,k_ _⟩ ω;obtain⟨i,rfl,hk⟩:=hz;unfold QV;refine C (λg=>?_) λ_=>A trivial;have g:(i:Int)<(m.A0.length:Int):=o_ g;have i1:aG (i:Int) m.A0.length=H:=V ω g;have w:=Br (n:=i) ω;refine U i1 (C (λ_=>A trivial) λ_=>A ⟨k-1,ω,i+1,?_,ω⟩);rw[<-w]
include hb hm
theorem An0:Bb b.D0 b.E0 b.J0 b.O0 b.L0 b.N0 b.P0 b.B0 m.F0 m.M0 m.I0 m.A0=R ((H,()),()):=by
 have hc:=Ai hm.code;have he:=Bv hb hm;have hp:=hm.lp;have hmx:100000<=maxLen:=by decide
 have e1:=Cd hb m ω ω;rw[Img.ok_iff.2 hm]at e1;exact e1
theorem Aq9(kd car:Int)(hcl:calm.length=b.B0.length):aC (Qw b.D0 b.E0 b.J0 b.O0 b.L0 b.N0 b.P0 b.B0 m.F0 m.M0 m.I0 m.A0 kd car calm) λy=>K1 y.1.1:=by
 have ht:=Alk hm;unfold Qw FX;refine aS (An0 hb hm) (C (λ_=>A K1.nil) λ_=>C (λ_=>A K1.nil) λ_=>?_);refine C (λ_=>A K1.nil) λ_=>C (λ_=>A K1.nil) λ_=>?_;refine C (λ_=>A K1.nil) λg1=>C (λ_=>A K1.nil) λg2=>?_;have g1:=K_ g1;have g2:=K_ g2;have i1:aG car m.F0.length=H:=V ω (by rw[hm.lp];omega);have i2:aG car m.I0.length=H:=V ω (by rw[hm.ll];omega);have i3:aG car m.M0.length=H:=V ω (by rw[hm.lf];omega);have i4:aG car calm.length=H:=V ω (by rw[hcl];omega)
 repeat' first|(with_reducible first|refine aX ?_|refine Sat.bindA ?_|refine Sat.cT ?_|refine Sat.cF ?_|refine Sat.bindC (λ_=>?_) (λ_=>?_)|refine Sat.bT ?_|refine Sat.bF ?_|refine C (λ_=>?_) (λ_=>?_)|refine Sat.sT λ_ _=>?_)|exact A K1.nil|exact A (K1.r4 _ _ _ _)|exact A (K1.r5 _ _ _ _)|exact A (K1.r6 _ _ _ _)
end
def Gd:Qe 0:=⟨a2_ 0,τ⟩
def Ahn(vs:List aD)(car:Int):∀(l:List Z) (c:Int×Int),(Qe c.1/\Qe c.2)->Qe (Ll vs car l c).1/\Qe (Ll vs car l c).2
 |[],_,h=>h
 |e::t,c,h=>Ahn vs car t _ (by
  unfold Jz;cases Ahm vs car e with
  |true=>exact⟨Acc _,Acc _⟩
  |false=>exact h)
def Awa(b:O)(m:aF)(vs:List aD)(car:Int):Qe (JS b m vs car).1/\Qe (JS b m vs car).2:=by
 unfold JS;cases m.ok b&&((vs.length:Int)==(b.B0.length:Int)&&(decide (0<=car)&&decide (car<(b.B0.length:Int))))with
 |true=>exact Ahn vs car _ _ ⟨Gd,Gd⟩
 |false=>exact⟨Gd,Gd⟩
def Aq2(hb:b.small)(hcode:b.code=0)(x:aV)(hx:ucR x.I1)(f0:Int)(f1:Bool)(f2:Int)(f3:Bool):aC (Qn b.D0 b.E0 b.J0 b.O0 b.L0 b.N0 b.P0 b.B0 x.R1 x.H1 x.C1 x.V1 x.O1 x.Z1 x.P1 x.V0 x.Z0 x.S0 x.I1 x.R2 x.L4 x.F3 f0 f1 f2 f3) λ_=>True:=by unfold Qn;rw[IF hb hcode x ⟨hx.1,by have:=hx.2;omega⟩];exact aH
def Aq1(hb:b.small)(hcode:b.code=0)(x:aV)(hx:ucR x.I1)(f0:Int)(f1:Bool)(f2:Int)(f3:Bool):aC (JY b.D0 b.E0 b.J0 b.O0 b.L0 b.N0 b.P0 b.B0 x.R1 x.H1 x.C1 x.V1 x.O1 x.Z1 x.P1 x.V0 x.Z0 x.S0 x.I1 x.R2 x.L4 x.F3 f0 f1 f2 f3) λ_=>True:=by have hc:=Ep hb f0 x.R2;unfold JY;rw[IF hb hcode x ⟨hx.1,by have:=hx.2;omega⟩,hc,LS];exact aH
section
variable{b:O}(hb:b.small){m:aF}(hm:aM b m){i:Nat}(hi:i<b.B0.length)
include hm hi
theorem Vm:QR m.F0 m.M0 m.I0 m.A0 (i:Int)=R ((H,()),()):=by unfold QR;rw[b_ (ω:(0:Int)<=(i:Int)),b_ (show(i:Int)<(m.F0.length:Int)by rw[hm.lp];omega),b_ (show(i:Int)<(m.M0.length:Int)by rw[hm.lf];omega),b_ (show(i:Int)<(m.I0.length:Int)by rw[hm.ll];omega)];rfl
theorem Adf:aC (HG m.F0 m.M0 m.I0 m.A0 (i:Int)) λ_=>True:=by have i1:aG (i:Int) m.F0.length=H:=V ω (by rw[hm.lp];omega);have i2:aG (i:Int) m.I0.length=H:=V ω (by rw[hm.ll];omega);have i3:aG (i:Int) m.M0.length=H:=V ω (by rw[hm.lf];omega);unfold HG;rw[Vm hm hi];exact aH
theorem Alj:aC (GO m.F0 m.M0 m.I0 m.A0 (i:Int)) λ_=>True:=by have i1:aG (i:Int) m.F0.length=H:=V ω (by rw[hm.lp];omega);unfold GO;rw[Vm hm hi];exact aH
def vwU(t:Bool×Bool×Bool×Bool×Int×Int×Int×Int×Int×Int×Int×Int×Unit):Prop:=Qe t.2.2.2.2.2.2.2.2.2.1/\Qe t.2.2.2.2.2.2.2.2.2.2.1/\Qe t.2.2.2.2.2.2.2.2.2.2.2.1
theorem Adh:aC (HH m.F0 m.M0 m.I0 m.A0 (i:Int)) λy=>vwU y.2.1:=by have i3:aG (i:Int) m.M0.length=H:=V ω (by rw[hm.lf];omega);unfold HH;refine I (Alj hm hi) λy _=>?_;refine I (Q:=λy=>vwU y.2.1) ?_ λy hy=>A hy;exact C (λ_=>A ⟨Gd,Gd,Gd⟩) λ_=>U i3 (A ⟨Gd,Gd,Gd⟩)
omit hi in
theorem RT:aC (Em m.F0 m.M0 m.I0 m.A0) λy=>y.1.1.length=b.B0.length:=by have hc:=Ai hm.code;have hp:=hm.lp;unfold Em;refine U (by simp only[b_ (ω:(0:Int)<=(m.F0.length:Int)),b_ (a2_ (m.F0.length:Int)),b_ (ω:(m.F0.length:Int)<=2147483648),V_]) ?_;refine I (Q:=λy=>y.1.1.length=b.B0.length) ?_ λy hy=>A hy;refine aQ (λ(k:Nat) z=>∃(out:List aD) (j:Nat),z=(((),out,(j:Int),()),(m.tup,()))/\out.length=b.B0.length/\j+k=b.B0.length) (λk z hz=>?_) b.B0.length ⟨_,0,rfl,by rw[J_,i_,hp],k_ _⟩ ω;obtain⟨out,j,rfl,ho,hk⟩:=hz;unfold Kz;refine C (λg=>?_) λ_=>A ho;have g:(j:Int)<(out.length:Int):=o_ g;have w:=Br (n:=j) ω;refine I (Adf hm (i:=j) ω) λy _=>U (V (ω:(0:Int)<=(j:Int)) g) (A ⟨k-1,ω,out.set j (aL y.1.1 (out.getD j (aL B B B B 0 0 0 0 0 0 0 0)).L2 (out.getD j (aL B B B B 0 0 0 0 0 0 0 0)).N2 (out.getD j (aL B B B B 0 0 0 0 0 0 0 0)).B3 (out.getD j (aL B B B B 0 0 0 0 0 0 0 0)).C0 (out.getD j (aL B B B B 0 0 0 0 0 0 0 0)).G0 (out.getD j (aL B B B B 0 0 0 0 0 0 0 0)).X2 (out.getD j (aL B B B B 0 0 0 0 0 0 0 0)).I2 (out.getD j (aL B B B B 0 0 0 0 0 0 0 0)).X1 (out.getD j (aL B B B B 0 0 0 0 0 0 0 0)).D2 (out.getD j (aL B B B B 0 0 0 0 0 0 0 0)).G1 (out.getD j (aL B B B B 0 0 0 0 0 0 0 0)).D1),j+1,?_,by rw[E_];exact ho,ω⟩);rw[<-w];rfl
omit hi in
include hb in
theorem Avh(hcl:calm.length=b.B0.length):aC (Sy b.D0 b.E0 b.J0 b.O0 b.L0 b.N0 b.P0 b.B0 m.F0 m.M0 m.I0 m.A0 calm) λy=>y.1.1.length<=100/\K456 y.1.1:=by
 have hc:=Ai hm.code;have hp:=hm.lp;have he:=Bv hb hm;unfold Sy;refine aS (An0 hb hm) (Sat.bifF rfl ?_);refine C (λ_=>A ⟨G_ _,K1.nil.2⟩) λ_=>?_;refine I (Q:=λy=>y.1.1.length<=100/\K456 y.1.1) ?_ λy hy=>A hy;refine aQ (λ(k:Nat) z=>∃(out:List aI) (j:Nat),z=((calm,(),out,(j:Int),()),(m.tup,()))/\out.length<=3*j/\K456 out/\j+k=b.B0.length) (λk z hz=>?_) b.B0.length ⟨[],0,rfl,H_ 0,K1.nil.2,k_ _⟩ ω;obtain⟨out,j,rfl,ho,hk4,hk⟩:=hz;unfold Zz;refine C (λg=>?_) λ_=>A ⟨show out.length<=100 by omega,hk4⟩;have g:(j:Int)<(m.F0.length:Int):=o_ g;have w:=Br (n:=j) ω;have i1:aG (j:Int) m.F0.length=H:=V ω g;have i2:aG (j:Int) m.I0.length=H:=V ω (by rw[hm.ll];omega);have i3:aG (j:Int) m.M0.length=H:=V ω (by rw[hm.lf];omega);have i4:aG (j:Int) calm.length=H:=V ω (by rw[hcl];omega);refine I (Q:=λy=>∃q:Bool,y=((calm,(),out,(j:Int),q,()),(m.tup,()))) ?_ λy hy=>?_
 .exact U i1 (C (λ_=>U i2 (A ⟨_,rfl⟩)) λ_=>A ⟨_,rfl⟩)
 obtain⟨q,rfl⟩:=hy;refine I (Q:=λy=>∃r:Bool,y=((calm,(),out,(j:Int),q,r,()),(m.tup,()))) ?_ λy hy=>?_
 .refine U i4 (C (λ_=>A ⟨_,rfl⟩) λ_=>?_);refine I (Aeu (m:=m) (j:Int) ω) λ_ _=>C (λ_=>A ⟨_,rfl⟩) λ_=>?_;exact U i1 (C (λ_=>A ⟨_,rfl⟩) λ_=>A ⟨_,rfl⟩)
 obtain⟨r,rfl⟩:=hy;refine C (λ_=>A ⟨k-1,ω,out,j+1,by rw[<-w],ω,hk4,ω⟩) λ_=>?_;refine aS rfl (U (Ah (ω:out.length+1<=_)) ?_);have l1:(out++[aJ 4 0 0 (j:Int) 2]).length<=3*j+1:=by rw[h_];show out.length+1<=_;omega
 have k1:K456 (out++[aJ 4 0 0 (j:Int) 2]):=hk4.app (K1.r4 _ _ _ _).2;refine I (Q:=λy=>∃o:List aI,y=((calm,(),o,(j:Int),()),(m.tup,()))/\o.length<=3*j+2/\K456 o) ?_ λy hy=>?_
 .refine C (λ_=>?_) λ_=>A ⟨_,rfl,by show(out++[aJ 4 0 0 (j:Int) 2]).length<=_;omega,k1⟩;refine U (Ah (ω:(out++[aJ 4 0 0 (j:Int) 2]).length+1<=_)) (A ⟨_,rfl,?_,k1.app (K1.r6 _ _ _ _).2⟩);show((out++[aJ 4 0 0 (j:Int) 2])++[aJ 6 0 0 (j:Int) 0]).length<=_;rw[h_];show(out++[aJ 4 0 0 (j:Int) 2]).length+1<=_;omega
 obtain⟨o,rfl,l2,k2⟩:=hy;refine U i3 (C (λ_=>?_) λ_=>A ⟨k-1,ω,o,j+1,by rw[<-w],ω,k2,ω⟩);refine U (Ah (ω:o.length+1<=_)) (A ⟨k-1,ω,o++[aJ 5 0 0 (j:Int) 0],j+1,by rw[<-w],?_,k2.app (K1.r5 _ _ _ _).2,ω⟩);rw[h_];show o.length+1<=_;omega
end
section
variable{b:O}(hb:b.small){m:Mch}(hm:aM b m.H0)(hbl:m.R0.length=b.B0.length)(hcl:m.B0.length=b.B0.length)(hll:m.Y1.length=b.B0.length)(hbd:∀x∈m.R0,x.K0.length<=1000)(hcu:∀x∈m.B0,ucR x.I1){i:Nat}(hi:i<b.B0.length)
include hb hm hbl hcl hll hbd hcu hi
theorem Avj(f0:Int)(f1:Bool)(f2:Int)(f3:Bool):aC (Jl b.D0 b.E0 b.J0 b.O0 b.L0 b.N0 b.P0 b.B0 m.H0.F0 m.H0.M0 m.H0.I0 m.H0.A0 m.W0.h0 m.W0.h1 m.W0.sel m.E1 m.R0 m.B0 m.Y1 m.J1 m.D3 m.C3 m.J2 m.C2 f0 f1 f2 f3 (i:Int)) λy=>vwU y.2.1:=by
 have hc:=Ai hm.code;have he:=Bv hb hm;have hp:=hm.lp;have hmx:100000<=maxLen:=by decide
 have i1:aG (i:Int) m.H0.F0.length=H:=V ω ω;have i2:aG (i:Int) m.R0.length=H:=V ω ω;have i3:aG (i:Int) m.B0.length=H:=V ω ω;have i4:aG (i:Int) m.Y1.length=H:=V ω ω;unfold Jl;refine I (Adh hm hi) λv hv=>?_;refine I (Adf hm hi) λr _=>?_;refine U i1 (I (Q:=λ_=>True) (by unfold Bc;exact aH) λp _=>?_);refine C (λ_=>?_) λ_=>?_
 .refine U i2 (U i2 ?_);refine I (Q:=λy=>vwU y.2.2.1) ?_ λy hy=>A hy;have hD:(m.R0.getD i (aY 0 0 0 [] 0 B)).K0.length<=1000:=hbd _ (AT _ ω);refine aQ (λ(k:Nat) z=>∃(v:Bool×Bool×Bool×Bool×Int×Int×Int×Int×Int×Int×Int×Int×Unit) (j:Nat),z=(((i:Int),(),(),(),(j:Int),()),(m.tup,(B,B,B,B,(0:Int),(0:Int),(0:Int),(0:Int),(0:Int),(0:Int),(0:Int),(0:Int),()),v,()))/\vwU v/\j+k=(m.R0.getD i (aY 0 0 0 [] 0 B)).K0.length) (λk z hz=>?_) (m.R0.getD i (aY 0 0 0 [] 0 B)).K0.length ⟨_,0,rfl,hv,k_ _⟩ ω;obtain⟨v,j,rfl,hu,hk⟩:=hz;unfold TE;refine U i2 (C (λg=>?_) λ_=>A hu);have g:(j:Int)<((m.R0.getD i (aY 0 0 0 [] 0 B)).K0.length:Int):=o_ g;have w:=Br (n:=j) ω;refine U i2 (U (V (ω:(0:Int)<=(j:Int)) g) ?_);refine aS (LS _ _) (aS (IE (v.2.2.2.2.2.2.2.2.2.2.1,v.2.2.2.2.2.2.2.2.2.2.2.1) _) ?_);refine A ⟨k-1,ω,(v.1,v.2.1,v.2.2.1,v.2.2.2.1,v.2.2.2.2.1,v.2.2.2.2.2.1,v.2.2.2.2.2.2.1,v.2.2.2.2.2.2.2.1,v.2.2.2.2.2.2.2.2.1,v.2.2.2.2.2.2.2.2.2.1,(FL (v.2.2.2.2.2.2.2.2.2.2.1,v.2.2.2.2.2.2.2.2.2.2.2.1) (Lh ((m.R0.getD i (aY 0 0 0 [] 0 B)).K0.getD j (aZ 0 0 0)).C0 ((m.R0.getD i (aY 0 0 0 [] 0 B)).K0.getD j (aZ 0 0 0)).G0)).1,(FL (v.2.2.2.2.2.2.2.2.2.2.1,v.2.2.2.2.2.2.2.2.2.2.2.1) (Lh ((m.R0.getD i (aY 0 0 0 [] 0 B)).K0.getD j (aZ 0 0 0)).C0 ((m.R0.getD i (aY 0 0 0 [] 0 B)).K0.getD j (aZ 0 0 0)).G0)).2,()),j+1,?_,⟨hu.1,HN _,HN _⟩,ω⟩;rw[<-w];rfl
 .have hcu':=hcu (m.B0.getD i (bD 0 0 0 0 0 B 0 0 0 0 0 0 0 B)) (AT _ ω);refine U i3 (U i4 ?_);refine I (Q:=λy=>∃a4:Bool×Bool×Bool×Bool×Int×Int×Int×Int×Int×Int×Int×Int×Unit,y=(((i:Int),(),(),(),(),()),(b.tup,m.tup,(B,B,B,B,(0:Int),(0:Int),(0:Int),(0:Int),(0:Int),(0:Int),(0:Int),(0:Int),()),a4,()))) ?_ λy hy=>?_
  .refine U i1 (C (λ_=>?_) λ_=>A ⟨_,rfl⟩);exact U i3 (I (Aq1 hb hm.code _ hcu' _ _ _ _) λ_ _=>A ⟨_,rfl⟩)
  obtain⟨a4,rfl⟩:=hy;refine U i3 (I (RT hm) λrd _=>?_);have hs:=Awa b m.H0 rd.1.1 (i:Int);refine aS (Pq hb rd.1.1 m.H0 ω ω (i:Int)) ?_;exact A ⟨hcu',hs.1,hs.2⟩
end
def Aqn(x:Inp)(hx:x.cars.length<=1000)(hs:s.size<=1000):SB (((),s,(0:Int),()),(x.tup,()))=R ((x.cars.foldl VK s,()),()):=by
 have h:=AN (step:=λx=>letI a:=x.2.1.2;LD x.1.2.1 x.1.2.2.1 x.2.1.1 a.1 a.2.1 a.2.2.1 a.2.2.2.1) x.cars.length (λi s=>(((),s,(i:Int),()),(x.tup,()))) (λi s=>VK s (x.cars.getD i VT)) (λi s=>s.size<=1000+19*i) (λs=>((s,()),()))
  (λi s hi hs=>by refine⟨?_,by rw[Ajg];omega⟩;show LD s (i:Int) x.press.1 x.press.2 x.kind x.car x.cars=_;unfold LD;rw[show bN 0 B B B B 0 B 0 B 0 0=VT from rfl];simp only[b_ (ω:(i:Int)<(x.cars.length:Int)),V (ω:(0:Int)<=(i:Int)) (ω:(i:Int)<(x.cars.length:Int)),S,i_,Br (ω:i<1000000000)];generalize x.cars.getD i VT=c;refine Ag (Du (aA aE c.Y0) (k:=4) ω) ?_;have e1:=De (aA aE c.Y0) 4;unfold VK;generalize nmB (aA aE c.Y0) 4=a1 at e1|-;show(bif aR (s.size+a1.size) 4611686018427387904 then _ else _)=_;rw[Ah ω,S];refine Ag (Aqp (l:=[c.B2,c.L1,c.M1,c.F1,c.E2,c.G2]) (by show 6<=100;omega)) ?_;have e2:=Afp [c.B2,c.L1,c.M1,c.F1,c.E2,c.G2];generalize Alt [c.B2,c.L1,c.M1,c.F1,c.E2,c.G2]=a2 at e2|-;show(bif aR ((s++a1).size+a2.size) 4611686018427387904 then _ else _)=_;rw[Ah (by rw[Z_];omega),S];refine Ag (Du (aA aE c.S1) (k:=1) ω) ?_;have e3:=De (aA aE c.S1) 1;generalize nmB (aA aE c.S1) 1=a3 at e3|-;show(bif aR ((s++a1++a2).size+a3.size) 4611686018427387904 then _ else _)=_;rw[Ah (by simp only[Z_];omega),S];refine Ag (Du (aA aE c.U1) (k:=1) ω) ?_;have e4:=De (aA aE c.U1) 1;generalize nmB (aA aE c.U1) 1=a4 at e4|-;show(bif aR ((s++a1++a2++a3).size+a4.size) 4611686018427387904 then _ else _)=_;rw[Ah (by simp only[Z_];omega),S];refine Ag (Du (aA aE c.I1) (k:=4) ω) ?_;have e5:=De (aA aE c.I1) 4;generalize nmB (aA aE c.I1) 4=a5 at e5|-;show(bif aR ((s++a1++a2++a3++a4).size+a5.size) 4611686018427387904 then _ else _)=_;rw[Ah (by simp only[Z_];omega),S];refine Ag (Du ((c.X2:Nat):Int) (k:=8) ω) ?_;have e6:=De ((c.X2:Nat):Int) 8;generalize nmB ((c.X2:Nat):Int) 8=a6 at e6|-;show(bif aR ((s++a1++a2++a3++a4++a5).size+a6.size) 4611686018427387904 then _ else _)=_;rw[Ah (by simp only[Z_];omega)];rfl)
  (λs _=>by show LD s (x.cars.length:Int) x.press.1 x.press.2 x.kind x.car x.cars=_;unfold LD;rw[f_ (I_ _)];rfl) x.cars.length 0 s ω ω
 have h2:SB (((),s,(0:Int),()),(x.tup,()))=_:=Af h.1 ω;rw[h2];have e:∀(l:List bB) (k i:Nat) (s:ByteArray),i+k=l.length->Cr (λi s=>VK s (l.getD i VT)) k i s=(l.drop i).foldl VK s:=by
  intro l k;induction k with
  |zero=>intro i s hi;rw[List.drop_eq_nil_of_le ω];rfl
  |succ k ih=>intro i s hi;rw[AR VT (ω:i<l.length),List.foldl_cons];exact ih (i+1) _ ω
 rw[e x.cars x.cars.length 0 s ω,O_]
section
variable{b:O}(hb:b.small)(hcode:b.code=0)
include hb hcode
theorem Akb(x:Inp)(hx:x.cars.length<=1000):Ng b.D0 b.E0 b.J0 b.O0 b.L0 b.N0 b.P0 b.B0 x.press.1 x.press.2 x.kind x.car x.cars=R (bif KC b x then((inV b x,0,()),())else((noB,1,()),())):=by
 have hc:=Ai hcode;unfold Ng;refine Ag (Aqo hb hcode x hx) ?_;show(bif !KC b x then _ else _)=_;cases KC b x with
 |false=>rfl
 |true=>
 rw[m_,W,S];refine Ag (Du 165 (k:=1) ω) ?_;refine Ag (Du (aA aE (b.B0.length:Int)) (k:=1) ω) ?_;have hh:=Aga b x;unfold inV;have e1:=De 165 1;have e2:=De (aA aE (b.B0.length:Int)) 1;have e3:=Ac4 x.press;have e4:=De (aA aE x.kind) 1;have e5:=De (aA aE x.car) 1;have hd:Al2 b x=nmB 165 1++nmB (aA aE (b.B0.length:Int)) 1++WF x.press++nmB (aA aE x.kind) 1++nmB (aA aE x.car) 1:=rfl;rw[hd]at hh|-;generalize nmB 165 1=a1 at e1 hh|-;generalize nmB (aA aE (b.B0.length:Int)) 1=a2 at e2 hh|-;show(bif aR (a1.size+a2.size) 4611686018427387904 then _ else _)=_;rw[Ah ω,S];refine Ag (Aou x.press) ?_;generalize WF x.press=a3 at e3 hh|-;show(bif aR ((a1++a2).size+a3.size) 4611686018427387904 then _ else _)=_;rw[Ah (by simp only[Z_];omega),S];refine Ag (Du (aA aE x.kind) (k:=1) ω) ?_;generalize nmB (aA aE x.kind) 1=a4 at e4 hh|-;show(bif aR ((a1++a2++a3).size+a4.size) 4611686018427387904 then _ else _)=_;rw[Ah (by simp only[Z_];omega),S];refine Ag (Du (aA aE x.car) (k:=1) ω) ?_;generalize nmB (aA aE x.car) 1=a5 at e5 hh|-;show(bif aR ((a1++a2++a3++a4).size+a5.size) 4611686018427387904 then _ else _)=_;rw[Ah (by simp only[Z_];omega),S];refine Ag (Aqn x hx (s:=a1++a2++a3++a4++a5) ω) ?_;refine Ag (Ada (s:=x.cars.foldl VK (a1++a2++a3++a4++a5)) (by rw[Af5];omega)) ?_;rfl
end
def Bln(s:ByteArray)(at_:Nat)(i:Nat)(n:Int):Int:=Bc9 n (aA aE (aA aE (Bu s (at_+i))*2^min (8*i) (IntKind.bits .u64)))
def Ajc(s:ByteArray)(at_ k:Nat):Int:=Cr (Bln s at_) k 0 0
def Lk{a:Nat}(h:a+k<=s.size)(hs:s.size<=1000000):FV s (a:Int) (k:Int)=R ((Ajc s a k,()),()):=by
 have h1:=AN (step:=λx=>GS x.1.1 x.1.2.1 x.1.2.2.1 x.1.2.2.2.1 x.1.2.2.2.2.1) k (λi n=>((s,(a:Int),(k:Int),n,(i:Int),()),())) (Bln s a) (λ_ _=>True) (λn=>((n,()),()))
  (λi n hi _=>by
   refine⟨?_,trivial⟩;show GS s (a:Int) (k:Int) n (i:Int)=_;unfold GS;have e1:J.wrap ((a:Int)+(i:Int))=((a+i:Nat):Int):=by rw[Ad ω ω];norm_cast
   have e2:aE.wrap (aA J (8*(i:Int)))=((8*i:Nat):Int):=by rw[Ad (n:=8*(i:Int)) ω ω,ET ω ω];norm_cast
   simp only[b_ (ω:(i:Int)<(k:Int)),e1,e2,V (ω:(0:Int)<=((a+i:Nat):Int)) (ω:((a+i:Nat):Int)<(s.size:Int)),S,i_,b_ (ω:(0:Int)<=((8*i:Nat):Int)),Br (ω:i<1000000000)];rfl)
  (λn _=>by show GS s (a:Int) (k:Int) n (k:Int)=_;unfold GS;rw[f_ (I_ (k:Int))];rfl) k 0 0 ω trivial
 have h2:RC ((s,(a:Int),(k:Int),(0:Int),(0:Int),()),())=_:=Af h1.1 ω;unfold FV;exact Ag h2 rfl
def Avt(s:ByteArray)(a:Nat):Int×Int:=(aA bC (Ajc s a 4),bC.wrap (Ajc s (a+4) 4))
def Aqr{a:Nat}(h:a+8<=s.size)(hs:s.size<=1000000):Sn s (a:Int)=R (((),()),(((Avt s a).1,(Avt s a).2,()),())):=by
 have e:J.wrap ((a:Int)+4)=((a+4:Nat):Int):=by rw[Ad ω ω];norm_cast
 unfold Sn;refine Ag (Lk (s:=s) (a:=a) (k:=4) ω hs) ?_;rw[e];exact Ag (Lk (s:=s) (a:=a+4) (k:=4) ω hs) rfl
def Adz(s:ByteArray)(a k:Nat):Bool:=aO.wrap (stk (Int.fdiv (Bu s a) ((2:Int)^min k (IntKind.bits .u8))) 1 (bL ((bE (IntKind.bits aO) (Int.fdiv (Bu s a) ((2:Int)^min k (IntKind.bits .u8))))&&&(bE (IntKind.bits aO) 1))))==1
def LR{a:Nat}(h:a<s.size)(hk:k<=1000):UF s (a:Int) (k:Int)=R ((Adz s a k,()),()):=by unfold UF;simp only[V (ω:(0:Int)<=(a:Int)) (ω:(a:Int)<(s.size:Int)),S,Bli (ω:k<1000000000),b_ (ω:(0:Int)<=(k:Int)),i_];rfl
def Am2(s:ByteArray)(a:Nat):bB:=bN (aA bC (Ajc s a 4)) (Adz s (a+4) 0) (Adz s (a+4) 1) (Adz s (a+4) 2) (Adz s (a+4) 3) (aA J (Bu s (a+5))) (Adz s (a+4) 4) (aA J (Bu s (a+6))) (Adz s (a+4) 5) (aA bC (Ajc s (a+7) 4)) (Ajc s (a+11) 8).toNat
def RU(n:Nat)(s:ByteArray):Inp:=⟨Avt s 2,J.wrap (Bu s 10),J.wrap (Bu s 11),(aU n).map λi=>Am2 s (12+19*i)⟩
def Pn(b:O)(s:ByteArray):Int:=bif(s.size:Int) !=14+19*(b.B0.length:Int)then 4 else bif J.wrap (Bu s 0) !=165 then 30 else bif J.wrap (Bu s 1) !=(b.B0.length:Int)then 30 else(Al7 s).2
def QH(b:O)(s:ByteArray):Inp×Int:=bif Pn b s !=0 then(Inp.none,Pn b s)else bif KC b (RU b.B0.length s)&&eqB (inV b (RU b.B0.length s)) s then(RU b.B0.length s,0)else(Inp.none,31)
def Au2(h:Pn b s=0):s.size=14+19*b.B0.length:=by
 unfold Pn at h;cases hq:((s.size:Int) !=14+19*(b.B0.length:Int))with
 |true=>rw[hq]at h;cases h
 |false=>
  have:(s.size:Int)=14+19*(b.B0.length:Int):=by simpa using hq
  omega
section
variable{b:O}(hb:b.small)(hcode:b.code=0)
include hb hcode
omit hb in
theorem Aqq(s:ByteArray)(hs:s.size<=1000000):Sm b.D0 b.E0 b.J0 b.O0 b.L0 b.N0 b.P0 b.B0 s (14+19*(b.B0.length:Int)) 165=R ((Pn b s,()),()):=by
 have hc:=Ai hcode;unfold Sm Pn;rw[AO];refine Ag rfl ?_;show(bif b.code !=0 then _ else _)=_;rw[hcode];show(bif(s.size:Int) !=14+19*(b.B0.length:Int)then _ else _)=_;cases hq:((s.size:Int) !=14+19*(b.B0.length:Int))with
 |true=>rfl
 |false=>
 have h1:(s.size:Int)=14+19*(b.B0.length:Int):=by simpa using hq
 rw[W,W,V ω (ω:(0:Int)<(s.size:Int)),S,show bK 0=0 from rfl];cases(aA J (Bu s 0) !=165)with
 |true=>rfl
 |false=>
 rw[W,W,V ω (ω:(1:Int)<(s.size:Int)),S,show bK 1=1 from rfl];cases(aA J (Bu s 1) !=(b.B0.length:Int))with
 |true=>rfl
 |false=>
 rw[W,W];exact Ag (Aqk hs) rfl
omit hb in
theorem Agy(hs:s.size=14+19*b.B0.length)(x:Inp):PN ((s,(),(),(),(0:Int),()),(b.tup,Inp.none.tup,({ x with cars:=[] }:Inp).tup,()))=R ((s,(),(),(),()),(b.tup,Inp.none.tup,({ x with cars:=(aU b.B0.length).map λi=>Am2 s (12+19*i) }:Inp).tup,())):=by
 have hc:=Ai hcode;have h:=AN (step:=λx=>letI c:=x.2.1.2.2;letI d:=x.2.2;letI f:=d.2.1;letI g:=c.2.2;letI j:=d.1.2;Gj x.1.1 x.1.2.2.2.2.1 x.2.1.1 x.2.1.2.1 c.1 c.2.1 g.1 g.2.1 g.2.2.1 g.2.2.2.1 d.1.1 j.1 j.2.1 j.2.2.1 j.2.2.2.1 f.1 f.2.1 f.2.2.1 f.2.2.2.1 f.2.2.2.2.1) b.B0.length
  (λi l=>((s,(),(),(),(i:Int),()),(b.tup,Inp.none.tup,({ x with cars:=l }:Inp).tup,()))) (λi l=>l++[Am2 s (12+19*i)]) (λi l=>l.length=i) (λl=>((s,(),(),(),()),(b.tup,Inp.none.tup,({ x with cars:=l }:Inp).tup,())))
  (λi l hi hl=>by
   refine⟨?_,by rw[h_,hl];rfl⟩;show Gj s (i:Int) b.D0 b.E0 b.J0 b.O0 b.L0 b.N0 b.P0 b.B0 Inp.none.press.1 Inp.none.press.2 Inp.none.kind Inp.none.car Inp.none.cars x.press.1 x.press.2 x.kind x.car l=_;unfold Gj;have e0:J.wrap (12+J.wrap (19*(i:Int)))=((12+19*i:Nat):Int):=by rw[Ad (n:=19*(i:Int)) ω ω,Ad ω ω];norm_cast
   have ea:∀k:Nat,k<=100->J.wrap (((12+19*i:Nat):Int)+(k:Int))=((12+19*i+k:Nat):Int):=λk hk=>by rw[Ad ω ω];norm_cast
   have a4:J.wrap (((12+19*i:Nat):Int)+4)=((12+19*i+4:Nat):Int):=ea 4 ω;have a5:J.wrap (((12+19*i:Nat):Int)+5)=((12+19*i+5:Nat):Int):=ea 5 ω;have a6:J.wrap (((12+19*i:Nat):Int)+6)=((12+19*i+6:Nat):Int):=ea 6 ω;have a7:J.wrap (((12+19*i:Nat):Int)+7)=((12+19*i+7:Nat):Int):=ea 7 ω;have a11:J.wrap (((12+19*i:Nat):Int)+11)=((12+19*i+11:Nat):Int):=ea 11 ω;simp only[b_ (ω:(i:Int)<(b.B0.length:Int)),S,e0,a4,a5,a6,a7,a11,Br (ω:i<1000000000)];have hsz:s.size<=1000000:=ω;refine Ag (Lk (s:=s) (a:=12+19*i) (k:=4) ω hsz) ?_;refine Ag (LR (s:=s) (a:=12+19*i+4) (k:=0) ω ω) ?_;refine Ag (LR (s:=s) (a:=12+19*i+4) (k:=1) ω ω) ?_;refine Ag (LR (s:=s) (a:=12+19*i+4) (k:=2) ω ω) ?_;refine Ag (LR (s:=s) (a:=12+19*i+4) (k:=3) ω ω) ?_;rw[V (ω:(0:Int)<=((12+19*i+5:Nat):Int)) (ω:((12+19*i+5:Nat):Int)<(s.size:Int)),S];refine Ag (LR (s:=s) (a:=12+19*i+4) (k:=4) ω ω) ?_;rw[V (ω:(0:Int)<=((12+19*i+6:Nat):Int)) (ω:((12+19*i+6:Nat):Int)<(s.size:Int)),S];refine Ag (LR (s:=s) (a:=12+19*i+4) (k:=5) ω ω) ?_;refine Ag (Lk (s:=s) (a:=12+19*i+7) (k:=4) ω hsz) ?_;refine Ag (Lk (s:=s) (a:=12+19*i+11) (k:=8) ω hsz) ?_;show(bif aR (l.length+1) 2147483648 then _ else _)=_;rw[Ah ω];rfl)
  (λl hl=>by show Gj s (b.B0.length:Int) b.D0 b.E0 b.J0 b.O0 b.L0 b.N0 b.P0 b.B0 Inp.none.press.1 Inp.none.press.2 Inp.none.kind Inp.none.car Inp.none.cars x.press.1 x.press.2 x.kind x.car l=_;unfold Gj;rw[f_ (I_ _)];rfl) b.B0.length 0 [] ω rfl
 have h2:=Af h.1 ω;have e:∀(k i:Nat) (l:List bB),Cr (λi l=>l++[Am2 s (12+19*i)]) k i l=l++(bG i k).map λi=>Am2 s (12+19*i):=by
  intro k;induction k with
  |zero=>intro i l;simp[Cr]
  |succ k ih=>intro i l;unfold Cr;rw[ih,d0_,d4_,M_,c9_]
 rw[e,y_,<-List.range_eq_range']at h2;exact h2
theorem Ak4(s:ByteArray)(hs:s.size<=1000000):NY b.D0 b.E0 b.J0 b.O0 b.L0 b.N0 b.P0 b.B0 s=R (((),(QH b s).2,()),((QH b s).1.tup,())):=by
 have hc:=Ai hcode;have e0:J.wrap (14+J.wrap (19*(b.B0.length:Int)))=14+19*(b.B0.length:Int):=by rw[Ad (n:=19*(b.B0.length:Int)) ω ω,Ad ω ω]
 have hsz:Sj b.D0 b.E0 b.J0 b.O0 b.L0 b.N0 b.P0 b.B0=R (((14+19*(b.B0.length:Int)),J.wrap (23+J.wrap (19*(b.B0.length:Int))),()),()):=by unfold Sj;rw[AO];refine Ag rfl ?_;show(bif b.code !=0 then _ else _)=_;rw[hcode,e0];rfl
 unfold NY QH;refine Ag hsz ?_;refine Ag (Aqq hcode s hs) ?_;show(bif Pn b s !=0 then _ else _)=_;cases hq:(Pn b s !=0)with
 |true=>rfl
 |false=>
 have ho:Pn b s=0:=by simpa using hq
 have hsize:=Au2 ho;rw[W,W];refine Ag (Aqr (s:=s) (a:=2) ω hs) ?_;rw[V ω (ω:(10:Int)<(s.size:Int)),V ω (ω:(11:Int)<(s.size:Int)),S,S];refine Ag (Agy hcode hsize (RU b.B0.length s)) ?_;have hl:(RU b.B0.length s).cars.length<=1000:=by simp[RU];omega
 refine Ag (Akb hb hcode (RU b.B0.length s) hl) ?_;cases KC b (RU b.B0.length s)with
 |false=>rfl
 |true=>rw[S,l_];show(bif((0:Int) !=0)then _ else bif !eqB (inV b (RU b.B0.length s)) s then _ else _)=_;cases eqB (inV b (RU b.B0.length s)) s<;>rfl
end
def Ahg(x:Outputs):Int×Int:=(x.B5,x.H3)
structure Tk where
 m:Mch
 shows:List Calls
 was:List Int
 cmds:List Int
 budget:Int
 e:Int
 out:Outputs
def Tk.tup(b:O)(x:Inp)(g:Bool)(t:Tk):Int×Int×Int×Int×Nat×Nat×Nat×List Car×List Int×List Bool×List Bool×List Z×ByteArray×ByteArray×Int×List Debounced×List aW×List aV×List Loaded×List Int×List aP×Int×Int×Int×Int×Int×Int×Int×List bB×Bool×List aP×List Int×List Int×Int×Int×Int×Int×Int×Int×Bool×Bool×Int×List CarOutput×Unit:=(b.D0,b.E0,b.J0,b.O0,b.L0,b.N0,b.P0,b.B0,t.m.H0.F0,t.m.H0.M0,t.m.H0.I0,t.m.H0.A0,t.m.W0.h0,t.m.W0.h1,t.m.W0.sel,t.m.E1,t.m.R0,t.m.B0,t.m.Y1,t.m.J1,t.m.D3,t.m.C3,t.m.J2,t.m.C2,x.press.1,x.press.2,x.kind,x.car,x.cars,g,t.shows,t.was,t.cmds,t.budget,t.e,t.out.E5,t.out.P4,t.out.B5,t.out.H3,t.out.O5,t.out.N0,t.out.G5,t.out.B0,())
def Tk.wr(t:Tk)(im:aF)(s:Sto)(bu e:Int):Tk:={ t with m:={ t.m with H0:=im,W0:=s },budget:=bu,e:=e }
structure TI(b:Bldg)(t:Tk):Prop where
 img:ImgOK b t.m.H0
 con:t.m.E1.length=b.B0.length
 bel:t.m.R0.length=b.B0.length
 beld:∀x∈t.m.R0,x.K0.length<=1000
 car:t.m.B0.length=b.B0.length
 caru:∀x∈t.m.B0,ucR x.I1
 lod:t.m.Y1.length=b.B0.length
 lit:t.m.D3.length=b.B0.length
 exl:t.m.J1.length=t.m.H0.A0.length
 exv:∀x∈t.m.J1,0<=x/\x<=1000000
 bud:t.budget<9223372036854775808
 oc:t.out.B0=[]
 su:Ln (Ahg t.out)
structure TL(b:Bldg)(t:Tk):Prop where
 shows:t.shows.length=b.B0.length
 was:t.was.length=b.B0.length
 cmds:t.cmds.length=b.B0.length
def Ajb{P:α->Prop}{l:List α}(h:∀x∈l,P x){v:α}(hv:P v)(i:Nat):∀x∈l.set i v,P x:=λx hx=>by
 rcases List.mem_or_eq_of_mem_set hx with hx|rfl
 .exact h x hx
 .exact hv
def Tk.sBel(t:Tk)(i:Nat)(v:aW):Tk:={ t with m:={ t.m with R0:=t.m.R0.set i v } }
def Tk.sCar(t:Tk)(i:Nat)(v:aV)(c:Int):Tk:={ t with m:={ t.m with B0:=t.m.B0.set i v },cmds:=t.cmds.set i c }
def Tk.sShow(t:Tk)(i:Nat)(c:aP):Tk:={ t with shows:=t.shows.set i c }
def TI.sBel{t:Tk}(h:TI b t)(i:Nat){v:aW}(hv:v.K0.length<=1000):TI b (t.sBel i v):=⟨h.img,h.con,by show(t.m.R0.set i v).length=_;rw[E_];exact h.bel,Ajb h.beld hv i,h.car,h.caru,h.lod,h.lit,h.exl,h.exv,h.bud,h.oc,h.su⟩
def TI.sCar{t:Tk}(h:TI b t)(i:Nat){v:aV}(hv:ucR v.I1)(c:Int):TI b (t.sCar i v c):=⟨h.img,h.con,h.bel,h.beld,by show(t.m.B0.set i v).length=_;rw[E_];exact h.car,Ajb h.caru hv i,h.lod,h.lit,h.exl,h.exv,h.bud,h.oc,h.su⟩
def TI.sShow{t:Tk}(h:TI b t)(i:Nat)(c:aP):TI b (t.sShow i c):=⟨h.img,h.con,h.bel,h.beld,h.car,h.caru,h.lod,h.lit,h.exl,h.exv,h.bud,h.oc,h.su⟩
def TL.sBel{t:Tk}(h:TL b t)(i:Nat)(v:aW):TL b (t.sBel i v):=⟨h.shows,h.was,h.cmds⟩
def TL.sCar{t:Tk}(h:TL b t)(i:Nat)(v:aV)(c:Int):TL b (t.sCar i v c):=⟨h.shows,h.was,by show(t.cmds.set i c).length=_;rw[E_];exact h.cmds⟩
def TL.sShow{t:Tk}(h:TL b t)(i:Nat)(c:aP):TL b (t.sShow i c):=⟨by show(t.shows.set i c).length=_;rw[E_];exact h.shows,h.was,h.cmds⟩
def Aqc(b:O)(s:Sto)(m:aF)(hb:bud<9223372036854775808):(DB b s m bud).2.1<9223372036854775808:=by
 have z:((Sto.no,(0:Int),(1:Int)):Sto×Int×Int).2.1<9223372036854775808:=show(0:Int)<9223372036854775808 from by decide
 have h1:=Ah4 b.J0 s (1-s.sel) bud (s.set (1-s.sel) noB) hb;unfold DB Sto.erase;generalize s.act b.J0 (1-s.sel) bud (s.set (1-s.sel) noB)=r1 at h1;have h2:=Abg b.J0 r1.1 (1-s.sel) (txt ((GC m).flatMap IA)) r1.2.1 h1;generalize r1.1.write b.J0 (1-s.sel) (txt ((GC m).flatMap IA)) r1.2.1=r2 at h2;cases decide (s.ok b.J0)<;>cases decide (bud<0)<;>cases m.ok b<;>try exact z
 show(bif r1.2.2==0 then(bif r2.2.2==0 then r2.1.choose b.J0 (1-s.sel) r2.2.1 else r2)else r1).2.1<_;cases r1.2.2==0
 .exact h1
 .cases r2.2.2==0
  .exact h2
  .exact Ah4 _ _ _ _ _ h2
def Atg(b:O)(s:Sto)(m:aF)(r:aI)(hb:bud<9223372036854775808):(EN b s m r bud).2.2.1<9223372036854775808:=by
 have z:(0:Int)<9223372036854775808:=by decide
 have hp:(Nx b s m r bud).2.1<9223372036854775808:=by
  unfold Nx;cases decide ((6:Int)<=b.J0-(s.cur.size:Int))with
  |true=>exact Abg _ _ _ _ _ hb
  |false=>exact Aqc _ _ _ hb
 unfold EN;generalize Nx b s m r bud=w at hp;cases !(m.ok b&&Ax b r)<;>cases !(decide (s.ok b.J0))<;>cases decide (bud<0)<;>cases Abv b m r<;>try exact z
 cases w.2.2==0
 .cases w.2.2==8<;>exact z
 .exact hp
def Axz{s:Sto}(h:(EN b s m r bud).2.2.2=0):Ax b r=H/\(EN b s m r bud).2.1=By m r:=by
 unfold EN at h|-;generalize Nx b s m r bud=w at h|-;cases hv:m.ok b&&Ax b r with
 |false=>rw[hv]at h;exact absurd (show(1:Int)=0 from h) τ
 |true=>
  rw[hv]at h;refine⟨(Bool.and_eq_true_iff.1 hv).2,?_⟩;cases h1:decide (s.ok b.J0)with
  |false=>rw[h1]at h;exact absurd (show(1:Int)=0 from h) τ
  |true=>
   rw[h1]at h;cases h2:decide (bud<0)with
   |true=>rw[h2]at h;exact absurd (show(1:Int)=0 from h) τ
   |false=>
    rw[h2]at h;cases h3:Abv b m r with
    |true=>rw[h3]at h;exact absurd (show(7:Int)=0 from h) τ
    |false=>
     rw[h3]at h;cases h4:w.2.2==0 with
     |true=>rfl
     |false=>
      rw[h4]at h;have h5:w.2.2=0:=by
       cases h5:w.2.2==8 with
       |true=>rw[h5]at h;exact h
       |false=>rw[h5]at h;exact h
      rw[h5]at h4;exact absurd h4 τ
def Ati(h:r.B1=4\/r.B1=5\/r.B1=6):(By m r).A0=m.A0:=by unfold By;rcases h with h|h|h<;>rw[h]<;>rfl
section
variable{b:O}(hb:b.small)(hcode:b.code=0)(hld:b.loads){x:Inp}{g:Bool}(hx:g=H->x.cars.length=b.B0.length/\0<=x.car/\x.car<(b.B0.length:Int))
include hb hcode in
theorem Ym{t:Tk}(hi:aM b t.m.H0)(hbud:t.budget<9223372036854775808)(l:List aI)(hl:l.length<=100000):aC (BB l b.D0 b.E0 b.J0 b.O0 b.L0 b.N0 b.P0 b.B0 t.m.H0.F0 t.m.H0.M0 t.m.H0.I0 t.m.H0.A0 t.m.W0.h0 t.m.W0.h1 t.m.W0.sel t.m.E1 t.m.R0 t.m.B0 t.m.Y1 t.m.J1 t.m.D3 t.m.C3 t.m.J2 t.m.C2 x.press.1 x.press.2 x.kind x.car x.cars g t.shows t.was t.cmds t.budget t.e t.out.E5 t.out.P4 t.out.B5 t.out.H3 t.out.O5 t.out.N0 t.out.G5 t.out.B0) λy=>∃im s bu e,y=((),((t.wr im s bu e).tup b x g,()))/\aM b im/\bu<9223372036854775808/\(K456 l->im.A0=t.m.H0.A0):=by
 have hc:=Ai hcode;unfold BB;refine I (Q:=λy=>∃im s bu e,y=((),((t.wr im s bu e).tup b x g,()))/\aM b im/\bu<9223372036854775808/\(K456 l->im.A0=t.m.H0.A0)) ?_ λy hy=>?_
 .refine aQ (λ(k:Nat) z=>∃(im:aF) (s:Sto) (bu e:Int) (i:Nat),z=(((),l,(i:Int),()),((t.wr im s bu e).tup b x g,()))/\aM b im/\bu<9223372036854775808/\(K456 l->im.A0=t.m.H0.A0)/\i+k=l.length) (λk z hz=>?_) l.length ⟨t.m.H0,t.m.W0,t.budget,t.e,0,rfl,hi,hbud,λ_=>rfl,k_ _⟩ ω;obtain⟨im,s,bu,e,i,rfl,h1,h2,h3,hk⟩:=hz;unfold IV;have fin:∃im' s' bu' e',(((),((t.wr im s bu e).tup b x g,())):Unit×_×Unit)=((),((t.wr im' s' bu' e').tup b x g,()))/\aM b im'/\bu'<9223372036854775808/\(K456 l->im'.A0=t.m.H0.A0):=⟨im,s,bu,e,rfl,h1,h2,h3⟩;refine C (λgg=>C (λ_=>?_) λ_=>A fin) λ_=>A fin;have gg:(i:Int)<(l.length:Int):=o_ gg;have w:=Br (n:=i) ω;have he:=Bv hb h1;have hp:=h1.lp;have hr:=Ak7 hb hcode s (m:=im) ω ω (l.getD i (aJ 0 0 0 0 0)) (bud:=bu) h2;refine U (V (ω:(0:Int)<=(i:Int)) gg) (aS hr ?_);have hab:=Atg b s im (l.getD i (aJ 0 0 0 0 0)) h2;refine C (λhz=>?_) λ_=>?_
  .have hz:(EN b s im (l.getD i (aJ 0 0 0 0 0)) bu).2.2.2=0:=eq_of_beq hz;obtain⟨hv,hap⟩:=Axz hz;have hap2:=(Ld h1 hv).1;rw[<-hap]at hap2;refine A ⟨k-1,ω,(EN b s im (l.getD i (aJ 0 0 0 0 0)) bu).2.1,(EN b s im (l.getD i (aJ 0 0 0 0 0)) bu).1,(EN b s im (l.getD i (aJ 0 0 0 0 0)) bu).2.2.1,(EN b s im (l.getD i (aJ 0 0 0 0 0)) bu).2.2.2,i+1,?_,hap2,hab,λhK=>?_,ω⟩
   .first|(rw[<-w];rfl)|rw[<-w]
   .rw[hap,Ati (hK _ (AT _ ω))];exact h3 hK
  .refine A ⟨k-1,ω,im,(EN b s im (l.getD i (aJ 0 0 0 0 0)) bu).1,(EN b s im (l.getD i (aJ 0 0 0 0 0)) bu).2.2.1,(EN b s im (l.getD i (aJ 0 0 0 0 0)) bu).2.2.2,i+1,?_,h1,hab,h3,ω⟩
   first|(rw[<-w];rfl)|rw[<-w]
 .obtain⟨im,s,bu,e,rfl,h⟩:=hy;exact A ⟨im,s,bu,e,rfl,h⟩
end
def SX(n:Int):aC (Jk n) λ_=>True:=by unfold Jk;exact aH
def Dv(n:Int):aC (Bc n) λ_=>True:=by unfold Bc;exact aH
def Dn(n:Int):aC (Cc n) λ_=>True:=by unfold Cc;exact aH
instance r27_more_ti(n:Int):aK (Jk n):=⟨SX ..⟩
instance r27_relayed_ti(n:Int):aK (Bc n):=⟨Dv ..⟩
instance r27_driven_ti(n:Int):aK (Cc n):=⟨Dn ..⟩
def Tk.tick(t:Tk)(n:Int):Tk:={ t with m:={ t.m with C3:=n } }
def Tk.flt(t:Tk)(n:Int):Tk:={ t with m:={ t.m with J2:=n } }
def Tk.conl(t:Tk)(c:List Debounced)(l:List Loaded):Tk:={ t with m:={ t.m with E1:=c,Y1:=l } }
def WM:aV:=bD 0 0 0 0 0 B 0 0 0 0 0 0 0 B
def Pm:aW:=aY 0 0 0 [] 0 B
section
variable{b:O}(hb:b.small)(hcode:b.code=0)(hld:b.loads){x:Inp}{g:Bool}(hx:g=H->x.cars.length=b.B0.length)
include hcode hld hx in
theorem Bg1{t:Tk}(hi:TI b t):aC (DW b.D0 b.E0 b.J0 b.O0 b.L0 b.N0 b.P0 b.B0 t.m.H0.F0 t.m.H0.M0 t.m.H0.I0 t.m.H0.A0 t.m.W0.h0 t.m.W0.h1 t.m.W0.sel t.m.E1 t.m.R0 t.m.B0 t.m.Y1 t.m.J1 t.m.D3 t.m.C3 t.m.J2 t.m.C2 x.press.1 x.press.2 x.kind x.car x.cars g t.shows t.was t.cmds t.budget t.e t.out.E5 t.out.P4 t.out.B5 t.out.H3 t.out.O5 t.out.N0 t.out.G5 t.out.B0) λy=>∃t',(y=.inl ((),(t'.tup b x g,()))\/y=.inr ((),(t'.tup b x g,())))/\TI b t':=by
 have hc:=Ai hcode;unfold DW;refine I (SX _) λn1 _=>C (λ_=>?_) λhg=>?_
 .exact I (SX _) λn2 _=>A ⟨(t.tick n1.1.1).flt n2.1.1,.inl rfl,⟨hi.img,hi.con,hi.bel,hi.beld,hi.car,hi.caru,hi.lod,hi.lit,hi.exl,hi.exv,hi.bud,hi.oc,hi.su⟩⟩
 .rw[d2_]at hg;have hxl:=hx hg;refine I (Q:=λy=>∃t',y=((),(t'.tup b x g,()))/\TI b t') ?_ λy hy=>by obtain⟨t',rfl,h⟩:=hy;exact A ⟨t',.inr rfl,h⟩
  refine aQ (λ(k:Nat) z=>∃(t':Tk) (i:Nat),z=(((),(i:Int),()),(t'.tup b x g,()))/\TI b t'/\i+k=b.B0.length) (λk z hz=>?_) b.B0.length ⟨t.tick n1.1.1,0,rfl,⟨hi.img,hi.con,hi.bel,hi.beld,hi.car,hi.caru,hi.lod,hi.lit,hi.exl,hi.exv,hi.bud,hi.oc,hi.su⟩,k_ _⟩ ω;obtain⟨t',i,rfl,hi,hk⟩:=hz;unfold JN;refine C (λgg=>?_) λ_=>A ⟨t',rfl,hi⟩;have gg:(i:Int)<(b.B0.length:Int):=o_ gg;have w:=Br (n:=i) ω;have i1:aG (i:Int) t'.m.E1.length=H:=V ω (by rw[hi.con];exact gg);have i2:aG (i:Int) x.cars.length=H:=V ω (by rw[hxl];exact gg);have i3:aG (i:Int) t'.m.Y1.length=H:=V ω (by rw[hi.lod];exact gg);refine U i1 (U i2 (I (Au8 _ _ _ _ _ _ _) λy1 _=>?_));refine U i1 (U i3 (U i2 (I (Au9 hld _ _) λy2 _=>U i3 ?_)));refine A ⟨k-1,ω,t'.conl (t'.m.E1.set i (Debounced.mk y1.2.1.1 y1.2.1.2.1 y1.2.1.2.2.1 y1.2.1.2.2.2.1 y1.2.1.2.2.2.2.1 y1.2.1.2.2.2.2.2.1 y1.2.1.2.2.2.2.2.2.1 y1.2.1.2.2.2.2.2.2.2.1 y1.2.1.2.2.2.2.2.2.2.2.1 y1.2.1.2.2.2.2.2.2.2.2.2.1 y1.2.1.2.2.2.2.2.2.2.2.2.2.1 y1.2.1.2.2.2.2.2.2.2.2.2.2.2.1 y1.2.1.2.2.2.2.2.2.2.2.2.2.2.2.1 y1.2.1.2.2.2.2.2.2.2.2.2.2.2.2.2.1 y1.2.1.2.2.2.2.2.2.2.2.2.2.2.2.2.2.1 y1.2.1.2.2.2.2.2.2.2.2.2.2.2.2.2.2.2.1 y1.2.1.2.2.2.2.2.2.2.2.2.2.2.2.2.2.2.2.1 y1.2.1.2.2.2.2.2.2.2.2.2.2.2.2.2.2.2.2.2.1 y1.2.1.2.2.2.2.2.2.2.2.2.2.2.2.2.2.2.2.2.2.1 y1.2.1.2.2.2.2.2.2.2.2.2.2.2.2.2.2.2.2.2.2.2.1 y1.2.1.2.2.2.2.2.2.2.2.2.2.2.2.2.2.2.2.2.2.2.2.1 y1.2.1.2.2.2.2.2.2.2.2.2.2.2.2.2.2.2.2.2.2.2.2.2.1 y1.2.1.2.2.2.2.2.2.2.2.2.2.2.2.2.2.2.2.2.2.2.2.2.2.1 y1.2.1.2.2.2.2.2.2.2.2.2.2.2.2.2.2.2.2.2.2.2.2.2.2.2.1 y1.2.1.2.2.2.2.2.2.2.2.2.2.2.2.2.2.2.2.2.2.2.2.2.2.2.2.1 y1.2.1.2.2.2.2.2.2.2.2.2.2.2.2.2.2.2.2.2.2.2.2.2.2.2.2.2.1 y1.2.1.2.2.2.2.2.2.2.2.2.2.2.2.2.2.2.2.2.2.2.2.2.2.2.2.2.2.1 y1.2.1.2.2.2.2.2.2.2.2.2.2.2.2.2.2.2.2.2.2.2.2.2.2.2.2.2.2.2.1 y1.2.1.2.2.2.2.2.2.2.2.2.2.2.2.2.2.2.2.2.2.2.2.2.2.2.2.2.2.2.2.1 y1.2.1.2.2.2.2.2.2.2.2.2.2.2.2.2.2.2.2.2.2.2.2.2.2.2.2.2.2.2.2.2.1 y1.2.1.2.2.2.2.2.2.2.2.2.2.2.2.2.2.2.2.2.2.2.2.2.2.2.2.2.2.2.2.2.2.1 y1.2.1.2.2.2.2.2.2.2.2.2.2.2.2.2.2.2.2.2.2.2.2.2.2.2.2.2.2.2.2.2.2.2.1 y1.2.1.2.2.2.2.2.2.2.2.2.2.2.2.2.2.2.2.2.2.2.2.2.2.2.2.2.2.2.2.2.2.2.2.1 y1.2.1.2.2.2.2.2.2.2.2.2.2.2.2.2.2.2.2.2.2.2.2.2.2.2.2.2.2.2.2.2.2.2.2.2.1 y1.2.1.2.2.2.2.2.2.2.2.2.2.2.2.2.2.2.2.2.2.2.2.2.2.2.2.2.2.2.2.2.2.2.2.2.2.1 y1.2.1.2.2.2.2.2.2.2.2.2.2.2.2.2.2.2.2.2.2.2.2.2.2.2.2.2.2.2.2.2.2.2.2.2.2.2.1 y1.2.1.2.2.2.2.2.2.2.2.2.2.2.2.2.2.2.2.2.2.2.2.2.2.2.2.2.2.2.2.2.2.2.2.2.2.2.2.1 y1.2.1.2.2.2.2.2.2.2.2.2.2.2.2.2.2.2.2.2.2.2.2.2.2.2.2.2.2.2.2.2.2.2.2.2.2.2.2.2.1 y1.2.1.2.2.2.2.2.2.2.2.2.2.2.2.2.2.2.2.2.2.2.2.2.2.2.2.2.2.2.2.2.2.2.2.2.2.2.2.2.2.1 y1.2.1.2.2.2.2.2.2.2.2.2.2.2.2.2.2.2.2.2.2.2.2.2.2.2.2.2.2.2.2.2.2.2.2.2.2.2.2.2.2.2.1 y1.2.1.2.2.2.2.2.2.2.2.2.2.2.2.2.2.2.2.2.2.2.2.2.2.2.2.2.2.2.2.2.2.2.2.2.2.2.2.2.2.2.2.1)) (t'.m.Y1.set i (Loaded.mk y2.2.1.1)),i+1,?_,⟨hi.img,?_,hi.bel,hi.beld,hi.car,hi.caru,?_,hi.lit,hi.exl,hi.exv,hi.bud,hi.oc,hi.su⟩,ω⟩
  .first|(rw[<-w];rfl)|rw[<-w]
  .show(t'.m.E1.set i _).length=_;rw[E_];exact hi.con
  .show(t'.m.Y1.set i _).length=_;rw[E_];exact hi.lod
include hb hcode hx in
theorem Bg0{t:Tk}(hi:TI b t):aC (DV b.D0 b.E0 b.J0 b.O0 b.L0 b.N0 b.P0 b.B0 t.m.H0.F0 t.m.H0.M0 t.m.H0.I0 t.m.H0.A0 t.m.W0.h0 t.m.W0.h1 t.m.W0.sel t.m.E1 t.m.R0 t.m.B0 t.m.Y1 t.m.J1 t.m.D3 t.m.C3 t.m.J2 t.m.C2 x.press.1 x.press.2 x.kind x.car x.cars g t.shows t.was t.cmds t.budget t.e t.out.E5 t.out.P4 t.out.B5 t.out.H3 t.out.O5 t.out.N0 t.out.G5 t.out.B0) λy=>∃t',y=((),(t'.tup b x g,()))/\TI b t'/\TL b t':=by
 have hc:=Ai hcode;have hz:=hb.hi;unfold DV;have hcap:((decide ((0:Int)<=(b.B0.length:Int))&&decide ((b.B0.length:Int)<=(b.B0.length:Int)))&&decide ((b.B0.length:Int)<=2147483648))=H:=by simp only[b_ (ω:(0:Int)<=(b.B0.length:Int)),b_ (a2_ (b.B0.length:Int)),b_ (ω:(b.B0.length:Int)<=2147483648),V_]
 refine U hcap (U hcap (U (Ah (by rw[hi.img.lp];show 0+b.B0.length<=_;omega)) ?_));refine I (Q:=λy=>∃t',y=((),(t'.tup b x g,()))/\TI b t'/\TL b t') ?_ λy hy=>by obtain⟨t',rfl,h⟩:=hy;exact A ⟨t',rfl,h⟩
 refine aQ (λ(k:Nat) z=>∃(t':Tk) (i:Nat),z=(((),(b.B0.length:Int),(i:Int),()),(t'.tup b x g,()))/\TI b t'/\TL b t'/\i+k=b.B0.length) (λk z hz=>?_) b.B0.length ⟨{ t with shows:=bH (bK (b.B0.length:Int)) (bJ 0 0),was:=[]++t.m.H0.F0,cmds:=bH (bK (b.B0.length:Int)) 0 },0,rfl,⟨hi.img,hi.con,hi.bel,hi.beld,hi.car,hi.caru,hi.lod,hi.lit,hi.exl,hi.exv,hi.bud,hi.oc,hi.su⟩,⟨by rw[J_,i_],by rw[y_];exact hi.img.lp,by rw[J_,i_]⟩,k_ _⟩ ω;obtain⟨t',i,rfl,hi,hl,hk⟩:=hz;unfold JM;refine C (λgg=>?_) λ_=>A ⟨t',rfl,hi,hl⟩;have gg:(i:Int)<(b.B0.length:Int):=o_ gg;have hin:i<b.B0.length:=ω;have w:=Br (n:=i) ω;have he:=Bv hb hi.img;have hp:=hi.img.lp;have hmx:100000<=maxLen:=by decide
 have i1:aG (i:Int) t'.m.E1.length=H:=V ω (by rw[hi.con];exact gg);have i2:aG (i:Int) t'.m.R0.length=H:=V ω (by rw[hi.bel];exact gg);have i3:aG (i:Int) t'.m.B0.length=H:=V ω (by rw[hi.car];exact gg);have i4:aG (i:Int) t'.was.length=H:=V ω (by rw[hl.was];exact gg);have i5:aG (i:Int) t'.cmds.length=H:=V ω (by rw[hl.cmds];exact gg);have i6:aG (i:Int) t'.shows.length=H:=V ω (by rw[hl.shows];exact gg);have hbd:(t'.m.R0.getD i Pm).K0.length<=1000:=hi.beld _ (AT _ (by rw[hi.bel];exact hin));have hcu:ucR (t'.m.B0.getD i WM).I1:=hi.caru _ (AT _ (by rw[hi.car];exact hin));refine U i4 ?_;refine I (Q:=λy=>∃(p:Int) (q:Bool),y=(((),(b.B0.length:Int),(i:Int),p,q,()),(t'.tup b x g,()))/\(q=H->g=H)) ?_ λy hy=>?_
 .exact I (Dv _) λ_ _=>C (λ_=>A ⟨_,_,rfl,id⟩) λ_=>A ⟨_,_,rfl,λh=>by cases h⟩
 obtain⟨p,q,rfl,hq⟩:=hy;refine C (λ_=>?_) λ_=>?_
 .refine U i1 (I (Aov (fl:=b.D0) ω _ _ _ _ _) λy3 _=>I (VW _ _ _ _) λy4 _=>?_);refine U i6 (U i2 (I (Alf hb hcode hin (t'.m.R0.getD i Pm) hbd _ _ _) λy5 h5=>U i2 ?_));refine A ⟨k-1,ω,(t'.sBel i (aY y5.2.1.1 y5.2.1.2.1 y5.2.1.2.2.1 y5.2.1.2.2.2.1 y5.2.1.2.2.2.2.1 y5.2.1.2.2.2.2.2.1)).sShow i (bJ y4.2.1.1 y4.2.1.2.1),i+1,?_,(hi.sBel i h5).sShow i _,(hl.sBel i _).sShow i _,ω⟩
  first|(rw[<-w];rfl)|rw[<-w]
 refine I (Dv _) λ_ _=>C (λ_=>?_) λ_=>?_
 .refine U i2 (I (Aq3 hb hcode hin (t'.m.R0.getD i Pm) hbd) λy5 h5=>U i2 ?_);refine A ⟨k-1,ω,t'.sBel i (aY y5.2.1.1 y5.2.1.2.1 y5.2.1.2.2.1 y5.2.1.2.2.2.1 y5.2.1.2.2.2.2.1 y5.2.1.2.2.2.2.2.1),i+1,?_,hi.sBel i h5,hl.sBel i _,ω⟩
  first|(rw[<-w];rfl)|rw[<-w]
 refine I (Q:=λy=>∃(q:Bool),y=(((),(b.B0.length:Int),(i:Int),p,q,()),(t'.tup b x g,()))/\(q=H->g=H)) ?_ λy hy=>?_
 .exact I (Dn _) λ_ _=>C (λ_=>A ⟨_,rfl,id⟩) λ_=>A ⟨_,rfl,λh=>by cases h⟩
 obtain⟨q,rfl,hq⟩:=hy;refine C (λhqq=>?_) λ_=>?_
 .have i7:aG (i:Int) x.cars.length=H:=V ω (by rw[hx (hq hqq)];exact gg);refine I (Q:=λy=>∃(h0 h1:Int),y=(((),(b.B0.length:Int),(i:Int),(),()),((h0,h1,()),t'.tup b x g,()))) ?_ λy hy=>?_
  .refine C (λ_=>?_) λ_=>A ⟨_,_,rfl⟩;refine I (RT hi.img) λrd _=>?_;exact aS (Pq hb rd.1.1 t'.m.H0 ω ω (i:Int)) (A ⟨_,_,rfl⟩)
  obtain⟨h0,h1,rfl⟩:=hy;refine U i7 (U i3 (I (Avf hb hcode (t'.m.B0.getD i WM) hcu _ _ _ _ _ _ _ _) λy h=>U i3 (U i5 ?_)));refine A ⟨k-1,ω,t'.sCar i (bD y.2.1.1 y.2.1.2.1 y.2.1.2.2.1 y.2.1.2.2.2.1 y.2.1.2.2.2.2.1 y.2.1.2.2.2.2.2.1 y.2.1.2.2.2.2.2.2.1 y.2.1.2.2.2.2.2.2.2.1 y.2.1.2.2.2.2.2.2.2.2.1 y.2.1.2.2.2.2.2.2.2.2.2.1 y.2.1.2.2.2.2.2.2.2.2.2.2.1 y.2.1.2.2.2.2.2.2.2.2.2.2.2.1 y.2.1.2.2.2.2.2.2.2.2.2.2.2.2.1 y.2.1.2.2.2.2.2.2.2.2.2.2.2.2.2.1) y.1.2.1,i+1,?_,hi.sCar i h _,hl.sCar i _ _,ω⟩
  first|(rw[<-w];rfl)|rw[<-w]
 refine I (Dn _) λ_ _=>C (λ_=>?_) λ_=>?_
 .refine U i3 (I (Aq0 hb hcode (t'.m.B0.getD i WM) hcu _) λy h=>U i3 (U i5 ?_));refine A ⟨k-1,ω,t'.sCar i (bD y.2.1.1 y.2.1.2.1 y.2.1.2.2.1 y.2.1.2.2.2.1 y.2.1.2.2.2.2.1 y.2.1.2.2.2.2.2.1 y.2.1.2.2.2.2.2.2.1 y.2.1.2.2.2.2.2.2.2.1 y.2.1.2.2.2.2.2.2.2.2.1 y.2.1.2.2.2.2.2.2.2.2.2.1 y.2.1.2.2.2.2.2.2.2.2.2.2.1 y.2.1.2.2.2.2.2.2.2.2.2.2.2.1 y.2.1.2.2.2.2.2.2.2.2.2.2.2.2.1 y.2.1.2.2.2.2.2.2.2.2.2.2.2.2.2.1) y.1.2.1,i+1,?_,hi.sCar i h _,hl.sCar i _ _,ω⟩
  first|(rw[<-w];rfl)|rw[<-w]
 .refine A ⟨k-1,ω,t',i+1,?_,hi,hl,ω⟩
  first|(rw[<-w];rfl)|rw[<-w]
end
end
end Go.Ovl
