/- Layer 24, the program: the records of a round are taken by a journal; its numbers stay small. -/
import Derived.Test.YtfkphlpmkolemaaGreatDoorOvK
import Derived.Test.YtfkphlpmkolemaaGreatDoorOvB
import Derived.Test.YtfkphlpmkolemaaGreatDoorOvD
set_option linter.all false
open Go.Ovl.Sat renaming ret->A,bindS->D,bifT->H,bic->J,bindE->S,loop->aE
open Bool renaming false->B,true->C
open Go.Ovl renaming CarOutput->I,flA->N,Bldg->P,Sat->R,noV->U,phA->V,View->W,Record->aA
open Go.Ab renaming inB->O
open Option renaming some->Y
open Go.Ovl.Sto renaming out->Z
open Go.Ovl.CarOutput renaming mk->aB
open Int renaming toNat->aC
open Go.Ovl.Record renaming mk->aD
open Go.Ovl.machine_ticker renaming mk->aF
open List renaming replicate->aG,set_set->aH
namespace Go.Ovl
open Go Go.Ab
set_option maxRecDepth 100000
variable{l:List I}{b:P}{t:Pk}{i:Nat}{m:Img}
def inX(l:List Int):Prop:=∀x∈l,0≤x∧x≤1000000
def inX.exp{l:List Int}(h:inX l):Pp l=C:=F_.2 λx hx=>Am.2 (h x hx)
def Bqb(E:List Entry){xs:List Int}(h:inX xs)(r:aA):inX (xsV E xs r):=by
 unfold xsV;cases(r.U0==2)&&FG (As r.E0 r.J0) E with
 |true=>
  intro x hx;rcases q_.1 hx with hx | hx
  ·exact h x (d5_ hx)
  ·exact h x (d6_ hx)
 |false=>
  cases(r.U0==1)&&!FG (As r.E0 r.J0) E with
  |true=>
   intro x hx;rcases q_.1 hx with hx | hx
   ·rcases q_.1 hx with hx | hx
    ·exact h x (d5_ hx)
    ·rw[Q_.1 hx];decide
   ·exact h x (d6_ hx)
  |false=>exact h
def Bdd(hcode:b.code=0)(i:Int):0≤(VK b i).I2∧(VK b i).I2≤10000:=by
 by_cases h:i.toNat<b.B0.length
 ·exact(Ab3 hcode h).2.2.2
 ·unfold VK
  rw[l_,List.getElem?_eq_none ω]
  decide
def Bcm(hcode:b.code=0)(vs:List W)(e n:Entry){x:Int}(hx:0≤x∧x≤1000000):0≤YS b vs e n x∧YS b vs e n x≤1000000:=by
 unfold YS;have h1:=Bg1 b n.S0 (Ax vs n.S0) e.E0 e.J0;have h2:=Bdd hcode n.S0;rw[Ac (n:=x-1) ω ω,Ac (n:=Rq b n.S0 (Ax vs n.S0) e.E0 e.J0+(VK b n.S0).I2) ω ω]
 cases n.S0 !=e.S0&&decide (0≤n.S0)with
 |true=>
  rw[d_];by_cases g:1000000<Rq b n.S0 (Ax vs n.S0) e.E0 e.J0+(VK b n.S0).I2
  ·rw[b_ g,d_];decide
  ·rw[e_ g,c_];omega
 |false=>
  rw[c_];by_cases g:x-1<0
  ·rw[b_ g,d_];decide
  ·rw[e_ g,c_];omega
def Al7{b:P}(hcode:b.code=0)(vs:List W):∀(l:List Entry) (xs:List Int),inX xs→inX (LB b vs l xs)
 |[],_,_,_,h=>by simp[LB]at h
 |_::_,[],_,_,h=>by simp[LB]at h
 |e::t,x::xs,hx,y,h=>by
  rcases y_.1 h with rfl | h
  ·exact Bcm hcode vs e _ (hx x (M_ ..))
  ·exact Al7 hcode vs t xs (λz hz=>hx z (O_ _ hz)) y h
def As5(a c:Entry):∀r∈MF a c,r.U0=3∨r.U0=7:=by
 unfold MF;intro r h;rcases q_.1 h with h | h
 ·cases q:(a.B1 !=c.B1||!(a.S1==c.S1))with
  |false=>rw[q]at h;cases h
  |true=>rw[q]at h;rw[Q_.1 h];exact .inr rfl
 ·cases q:a.S0 !=c.S0 with
  |false=>rw[q]at h;cases h
  |true=>rw[q]at h;rw[Q_.1 h];exact .inl rfl
def Adl(b:P)(vs:List W):∀(l:List Entry) (xs:List Int),∀r∈Gu b vs l xs,r.U0=3∨r.U0=7
 |[],_,_,h=>by simp[Gu]at h
 |_::_,[],_,h=>by simp[Gu]at h
 |e::t,x::xs,r,h=>by
  rcases q_.1 h with h | h
  ·exact As5 _ _ r h
  ·exact Adl b vs t xs r h
structure Rg(b:Bldg)(m:Img)(X:Rnd):Prop where
 good:goodL b m X.recs
 img:AK m X.recs=X.img
 ok:X.ok b
 xs:inX X.xs
def Rg.step{X:Rnd}(h:Rg b m X){r:aA}(hv:Ay b r=C)(hf:Jd b X.img r=B):Rg b m (Uy r X):=
 ⟨h.good.app (k:=[r]) ⟨hv,by rw[h.img];exact hf,trivial⟩,by show AK m (X.recs++[r])=AD X.img r;rw[Ew,h.img];rfl,WK h.ok hv,Bqb _ h.xs r⟩
def Rg.wr{b:P}{m:Img}:∀{l:List aA}{X:Rnd},Rg b m X→goodL b X.img l→Rg b m (wrL l X)
 |[],X,h,_=>by
  unfold wrL;rw[a8_];exact⟨h.good,h.img,⟨h.ok.img,h.ok.len⟩,h.xs⟩
 |r::t,X,h,⟨h1,h2,h3⟩=>by
  rw[WN];exact Rg.wr (h.step h1 h2) h3
def Rg.reg{b:P}{m:Img}:∀{l:List Entry}{X:Rnd},Rg b m X→(∀e∈l,Aj b e.E0 e.J0=C)→Rg b m (LX b l X)
 |[],_,h,_=>h
 |e::t,X,h,hv=>by
  refine Rg.reg (l:=t) (X:=LC b e X) ?_ λx hx=>hv x (O_ _ hx)
  unfold LC;cases hr:QE b X.img with
  |true=>exact h.step (Yj (hv e (M_ ..))) (by unfold Jd;rw[hr];simp)
  |false=>exact⟨h.good,h.img,⟨h.ok.img,h.ok.len⟩,h.xs⟩
section
variable{b:P}(hb:b.small)(hcode:b.code=0){m:Img}(hm:ImgOK b m){xs:List Int}(hx:xs.length=m.A0.length)(hxv:inX xs){vs:List W}(ps:List Calls)(press:Int×Int)(good:Bool)
include hb hcode hm hx hxv
theorem Am1:Rg b m (DH b m xs vs ps press good):=by
 have h0:∀L:Lan,Rg b m ⟨[],m,xs,L,(0,0)⟩:=λL=>⟨trivial,rfl,⟨hm,hx⟩,hxv⟩
 unfold DH;cases good with
 |false=>exact h0 _
 |true=>
  have hv:=UT hcode vs (l:=m.A0) λe he=>(FC.1 (hm.en e he)).1
  exact((h0 _).wr (Wm m λr hr=>⟨(hv r hr).1,by rw[(hv r hr).2];decide⟩)).reg λe he=>Wi hb hcode he
variable(hvl:vs.length=b.B0.length)
include hvl
theorem Atu:Ajp b m xs vs ps press good=(Gu b vs (DH b m xs vs ps press good).img.A0 (DH b m xs vs ps press good).xs,LB b vs (DH b m xs vs ps press good).img.A0 (DH b m xs vs ps press good).xs,0,()):=by
 have h:=Am1 hb hcode hm hx hxv (vs:=vs) ps press good;unfold Ajp Nw;rw[Img.ok_iff.2 h.ok.img,show(((DH b m xs vs ps press good).xs.length:Int)==((DH b m xs vs ps press good).img.A0.length:Int))=C by rw[h.ok.len];exact k_ _,show((vs.length:Int)==(b.B0.length:Int))=C by rw[hvl];exact k_ _,h.xs.exp]
 rfl
theorem Amz:Rg b m (Sm b m xs vs ps press good)∧(Sm b m xs vs ps press good).recs.length≤300:=by
 have hcc:=Ak hcode;have h:=Am1 hb hcode hm hx hxv (vs:=vs) ps press good;have hlen:=(Am0 hb hcode hm hx (vs:=vs) ps press good).2;have hp:=Atu hb hcode hm hx hxv (vs:=vs) ps press good hvl;have he:=EB hb h.ok.img;unfold Sm;rw[hp];generalize DH b m xs vs ps press good=X at h hlen he;obtain⟨p1,p2,p3⟩:=WC (b:=b) ω (by omega:(vs.length:Int)=(b.B0.length:Int)) X.img.A0 X.xs [] X.img h.ok.len h.ok.img rfl
 rw[a0_]at p1 p3;have hk:=Adl b vs X.img.A0 X.xs;have hw:=h.wr (l:=Gu b vs X.img.A0 X.xs) (Wm X.img λr hr=>⟨p2 r hr,by have:=hk r hr;omega⟩)
 have hl:=Ye b vs X.img.A0 X.xs;refine⟨⟨hw.good,hw.img,⟨hw.ok.img,?_⟩,Al7 hcode vs _ _ h.xs⟩,?_⟩
 ·show(LB b vs X.img.A0 X.xs).length=(AK X.img (Gu b vs X.img.A0 X.xs)).A0.length
  rw[p1,Yd b vs _ _ h.ok.len];show _=(UH b vs X.img.A0 X.xs).length;rw[Akt b vs _ _ h.ok.len]
 ·show(X.recs++Gu b vs X.img.A0 X.xs).length≤300
  rw[h_];omega
end
def Ayk(b:P)(vs:List W)(ps:List Calls):∀(m i:Nat) (s:Lan),(BC (Pu b vs ps) m i s).lit.length=s.lit.length+m∧(BC (Pu b vs ps) m i s).gong.length=s.gong.length+m
 |0,_,_=>⟨rfl,rfl⟩
 |m+1,i,s=>by
  obtain⟨h1,h2⟩:=Ayk b vs ps m (i+1) (Pu b vs ps i s);have e1:(Pu b vs ps i s).lit.length=s.lit.length+1:=by unfold Pu;show(s.lit++[_]).length=_;rw[h_];rfl
  have e2:(Pu b vs ps i s).gong.length=s.gong.length+1:=by unfold Pu;show(s.gong++[_]).length=_;rw[h_];rfl
  exact⟨by show(BC (Pu b vs ps) m (i+1) (Pu b vs ps i s)).lit.length=_;omega,by show(BC (Pu b vs ps) m (i+1) (Pu b vs ps i s)).gong.length=_;omega⟩
def Amk(b:P):∀(l:List Entry) (X:Rnd),(LX b l X).lan=X.lan
 |[],_=>rfl
 |e::t,X=>by
  show(LX b t (LC b e X)).lan=X.lan;rw[Amk b t];unfold LC;cases QE b X.img<;>rfl
def Azq(b:P)(m:Img)(xs:List Int)(vs:List W)(ps:List Calls)(press:Int×Int)(good:Bool):(Sm b m xs vs ps press good).lan=bif good then He b vs ps else Bfz vs.length:=by
 show(DH b m xs vs ps press good).lan=_;unfold DH;cases good with
 |true=>rw[d_,d_,Amk];rfl
 |false=>rfl
def Azr(b:P)(m:Img)(xs:List Int)(vs:List W)(ps:List Calls)(press:Int×Int)(good:Bool):(Sm b m xs vs ps press good).lan.lit.length=vs.length∧(Sm b m xs vs ps press good).lan.gong.length=vs.length:=by
 rw[Azq];cases good with
 |true=>
  obtain⟨h1,h2⟩:=Ayk b vs ps vs.length 0 Lan.none;exact⟨h1.trans (p_ _),h2.trans (p_ _)⟩
 |false=>exact⟨T_,T_⟩
@[reducible] def Bsn(v:W):=(v.J3,v.B3,v.C3,v.U3,v.E0,v.J0,v.D3,v.F3,v.V2,v.R2,v.Y1,v.Q1,())
def Ayv(hb:b.small){x:NewCar}(h:EC b x=C):Agf x.V1:=by
 have h2:=Azs hb;unfold EC at h;cases hf:x.Z2 with
 |true=>
  rw[hf]at h;simp only[d_,Aet,f_,Z_]at h;rw[h.2.2.2.2.2.2.2.2.2.2.1];exact⟨by decide,by decide⟩
 |false=>
  have hs:=(Vq hb hf).1 (by unfold EC;exact h)
  have hc:C2 b.C0 x.V1:=hs.1.ca;unfold C2 at hc;exact⟨hc.1,ω⟩
def Ba4{l:List Duty}(hl:l.length≤1000):R (Ka l) λy=>Kx (y.2.1.1,y.2.1.2.1):=by
 unfold Ka;refine D (Q:=λy=>Kx (y.2.2.1.1,y.2.2.1.2.1)) ?_ λ_ h=>A h
 unfold IB;refine aE (λ(k:Nat) z=>∃(i:Nat) (c:Int×Int),z=(((),(),l,(l.length:Int),(i:Int),()),((0,0,()),(c.1,c.2,()),()))∧i+k=l.length∧Kx c) (λk z hz=>?_) l.length ⟨0,(0,0),rfl,p_ _,TJ⟩ ω
 obtain⟨i,c,rfl,hk,hc⟩:=hz;show R (LL l (l.length:Int) (i:Int) 0 0 c.1 c.2) _;unfold LL;refine J (λq=>?_) λ_=>A hc
 have q:(i:Int)<(l.length:Int):=n_ q;have w:=CN (n:=i) ω
 refine H (Aa ω q) (S (JI _ _) (S (Gl c (JL _ _)) ?_))
 exact A ⟨k-1,ω,i+1,_,by first | (rw[← w];rfl) | rw[← w],ω,Azu _ _⟩
structure VI(b:Bldg)(m:Img)(good:Bool)(i:Nat)(v:View):Prop where
 ok:v.ok
 ready:v.J3=(good&&Tt m i)
 serving:v.B3=IK m i
 lost:v.U3=(flA m i||!IK m i)
section
variable{b:P}(hw:BW b){x:Inp}{g:Bool}(hx:g=C→InOK b x)
include hw
theorem Bp6{m:Mch}(hm:PM b m)(hi:i<b.B0.length)(f:Int)(l:Bool)(d:Int)(k:Bool):R (Ml b.C0 b.F0 b.I0 b.N0 b.K0 b.M0 b.O0 b.B0 m.G0.D0 m.G0.L0 m.G0.H0 m.G0.A0 m.Y0.h0 m.Y0.h1 m.Y0.sel m.J1 m.W0 m.B0 m.M2 m.Z1 m.V3 m.L3 m.Q2 m.G2 (i:Int) f l d k) λy=>∃v,y=(((),()),(Bsn v,()))∧VI b m.G0 C i v:=by
 have i1:O (i:Int) m.G0.D0.length=C:=Aa ω (by rw[hm.jst.img.lp];omega)
 have i2:O (i:Int) m.W0.length=C:=Aa ω (by rw[hm.bel];omega)
 have i3:O (i:Int) m.B0.length=C:=Aa ω (by rw[hm.car];omega)
 have i4:O (i:Int) m.G0.L0.length=C:=Aa ω (by rw[hm.jst.img.lf];omega)
 have i5:O (i:Int) m.M2.length=C:=Aa ω (by rw[hm.lod];omega)
 have hc:=Ayv hw.small (hm.carv _ (CB AT (show i<m.B0.length by rw[hm.car];exact hi)))
 have hd:=((hm.belv i hi).dut).len hw.small;unfold Ml;refine H i1 (H i3 (S (Ajz hm.jst.img hi) (S (Abn hm.jst.img hi) (S (WM _) ?_))));have z0:Agf 0:=⟨by decide,by decide⟩
 refine S (b:=(((i:Int),(),(),(),(),V m.G0 i,(),(),()),((b.C0,b.F0,b.I0,b.N0,b.K0,b.M0,b.O0,b.B0,()),(m.G0.D0,m.G0.L0,m.G0.H0,m.G0.A0,m.Y0.h0,m.Y0.h1,m.Y0.sel,m.J1,m.W0,m.B0,m.M2,m.Z1,m.V3,m.L3,m.Q2,m.G2,()),(f,l,d,k,()),(B,B,B,B,(0:Int),(0:Int),(0:Int),(0:Int),(0:Int),(0:Int),(0:Int),(0:Int),()),Ba1 (m.B0.getD i AT),(Tt m.G0 i,IK m.G0 i,LZ (V m.G0 i),(N m.G0 i||!IK m.G0 i),(0:Int),(0:Int),(0:Int),(0:Int),(0:Int),(0:Int),(0:Int),(0:Int),()),()))) ?_ ?_
 ·show(bif O (i:Int) m.G0.L0.length then(bif N m.G0 i then _ else _)else none)=_
  rw[i4,d_];cases N m.G0 i<;>rfl
 refine J (λ_=>H i2 (D (Ba4 (by show(m.W0.getD i HP).T0.length≤1000;omega)) λy5 h5=>?_)) λ_=>H i5 ?_
 ·exact A ⟨View.mk (Tt m.G0 i) (IK m.G0 i) (LZ (V m.G0 i)) (N m.G0 i||!IK m.G0 i) (m.W0.getD i HP).E0 (m.W0.getD i HP).J0 0 0 0 0 y5.2.1.1 y5.2.1.2.1,rfl,⟨z0,h5.1,h5.2⟩,rfl,rfl,rfl⟩
 refine D (Q:=λy=>∃(su sd:Int) (o1 o2 o3 o4:Int),y=(((i:Int),(),(),(),(),(),()),((b.C0,b.F0,b.I0,b.N0,b.K0,b.M0,b.O0,b.B0,()),(m.G0.D0,m.G0.L0,m.G0.H0,m.G0.A0,m.Y0.h0,m.Y0.h1,m.Y0.sel,m.J1,m.W0,m.B0,m.M2,m.Z1,m.V3,m.L3,m.Q2,m.G2,()),(B,B,B,B,(0:Int),(0:Int),(0:Int),(0:Int),(0:Int),(0:Int),(0:Int),(0:Int),()),Ba1 (m.B0.getD i AT),(Tt m.G0 i,IK m.G0 i,LZ (V m.G0 i),(N m.G0 i||!IK m.G0 i),f,(m.B0.getD i AT).R1,o1,su,sd,o2,o3,o4,()),()))) ?_ λy7 h7=>?_
 ·refine J (λ_=>?_) λ_=>A ⟨_,_,_,_,_,_,rfl⟩
  exact D (Afn hw.small hw.code (m.B0.getD i AT) f l d k) λ_ _=>A ⟨_,_,_,_,_,_,rfl⟩
 obtain⟨su,sd,o1,o2,o3,o4,rfl⟩:=h7;refine D (Ala hw hm.jst.img (i:Int)) λy8 h8=>?_
 exact A ⟨View.mk (Tt m.G0 i) (IK m.G0 i) (LZ (V m.G0 i)) (N m.G0 i||!IK m.G0 i) f (m.B0.getD i AT).R1 o1 su sd (m.B0.getD i AT).V1 y8.2.1.1 y8.2.1.2.1,rfl,⟨hc,h8.1,h8.2⟩,rfl,rfl,rfl⟩
structure VA(b:Bldg)(m:Img)(good:Bool)(vs:List View):Prop where
 len:vs.length=b.B0.length
 vi:∀i,i<b.B0.length→VI b m good i (vs.getD i noV)
theorem VA.ok{vs:List W}(h:VA b m g vs):okViews vs:=λv hv=>by
 obtain⟨i,hi,rfl⟩:=List.getElem_of_mem hv
 have:=(h.vi i (by rw[← h.len];exact hi)).ok
 rwa [l_,i_ hi]at this
include hx
theorem Bhr(hm:PM b t.m)(hr:PR b t):R (Dz (t.ap aF b x g)) λy=>∃vs:List W,y=((vs,()),())∧VA b t.m.G0 g vs:=by
 have hcc:=Ak hw.code;unfold Dz;refine H (by show((decide ((0:Int)≤(b.B0.length:Int))&&decide ((b.B0.length:Int)≤(b.B0.length:Int)))&&decide ((b.B0.length:Int)≤2147483648))=C;simp only[f_,A_];omega) (D (Q:=λy=>∃vs:List W,y=((vs,()),())∧VA b t.m.G0 g vs) ?_ λy h=>by obtain⟨c,rfl,h⟩:=h;exact A ⟨c,rfl,h⟩)
 have h0:(aG (aC (b.B0.length:Int)) U).length=b.B0.length:=by rw[T_];omega
 show R (Cp ((t.ap aF b x g,aG (aC (b.B0.length:Int)) U,(((aG (aC (b.B0.length:Int)) U).length:Nat):Int),0,()),())) _;generalize aG (aC (b.B0.length:Int)) U=L at h0;unfold Cp;refine aE (λ(k:Nat) z=>∃(i:Nat) (vs:List W),z=((t.ap aF b x g,vs,(L.length:Int),(i:Int),()),())∧i+k=L.length∧vs.length=b.B0.length∧∀j,j<i→VI b t.m.G0 g j (vs.getD j U)) (λk z hz=>?_) L.length ⟨0,L,rfl,p_ _,h0,λj hj=>absurd hj (Nat.not_lt_zero j)⟩ ω
 obtain⟨i,vs,rfl,hk,hl,hv⟩:=hz;show R (ER (t.ap aF b x g) vs (L.length:Int) (i:Int)) _;unfold ER;refine J (λq=>?_) λq=>A ⟨vs,rfl,hl,λj hj=>hv j (by have q:=D_ q;omega)⟩
 have q:(i:Int)<(L.length:Int):=n_ q;have hi:i<b.B0.length:=ω
 have w:=CN (n:=i) ω
 have il:O (i:Int) vs.length=C:=Aa ω ω
 have put:∀{v:W},VI b t.m.G0 g i v→∀j,j<i+1→VI b t.m.G0 g j ((vs.set i v).getD j U):=λ{v} h j hj=>by
  by_cases e:i=j
  ·subst e;rw[BU _ _ ω];exact h
  ·rw[EW _ _ e];exact hv j ω
 refine J (λhg=>?_) λhg=>?_
 ·have hg:g=B:=by simpa using(show(!g)=C from hg)
  refine S (Abn hm.jst.img hi) ?_;have i4:O (i:Int) t.m.G0.L0.length=C:=Aa ω (by rw[hm.jst.img.lf];omega)
  refine S (b:=((t.ap aF b x g,vs.set i (View.mk B (IK t.m.G0 i) B (N t.m.G0 i||!IK t.m.G0 i) (-1) 0 0 0 0 0 0 0),(L.length:Int),(i:Int),()),())) ?_ ?_
  ·show(bif O (i:Int) t.m.G0.L0.length then(bif N t.m.G0 i then(bif O (i:Int) vs.length then _ else none)else(bif O (i:Int) vs.length then _ else none))else none)=_
   rw[i4,il,d_,d_];cases N t.m.G0 i<;>rfl
  have z0:Agf 0:=⟨by decide,by decide⟩
  exact A ⟨k-1,ω,i+1,_,by first | (rw[← w];rfl) | rw[← w],ω,by rw[v_];exact hl,put ⟨⟨z0,z0,z0⟩,by rw[hg];rfl,rfl,rfl⟩⟩
 ·have hg:g=C:=by simpa using(show(!g)=B from hg)
  have hxl:=(hx hg).len;refine H (Aa ω (ω:(i:Int)<(x.cars.length:Int))) (D (Bp6 hw hm hi _ _ _ _) λy3 h3=>H il ?_)
  obtain⟨v,rfl,hvi⟩:=h3;rw[← hg]at hvi;refine H (Aa ω (show(i:Int)<(t.legacy.length:Int)by rw[hr.leg];omega)) (J (λ_=>?_) λ_=>?_)
  ·refine H (Aa ω (show(i:Int)<(t.shows.length:Int)by rw[hr.sho];omega)) (H (Aa ω (by rw[v_];omega)) ?_)
   refine A ⟨k-1,ω,i+1,(vs.set i v).set i (View.mk v.J3 v.B3 v.C3 v.U3 v.E0 v.J0 v.D3 (t.shows.getD i (Calls.mk 0 0)).Up (t.shows.getD i (Calls.mk 0 0)).T3 v.R2 v.Y1 v.Q1),?_,ω,by rw[v_,v_];exact hl,λj hj=>?_⟩
   ·have e:(vs.set i v).getD i U=v:=BU _ _ ω
    first
     |(rw[← w];show((_,List.set (vs.set i v) i (View.mk ((vs.set i v).getD i U).J3 ((vs.set i v).getD i U).B3 ((vs.set i v).getD i U).C3 ((vs.set i v).getD i U).U3 ((vs.set i v).getD i U).E0 ((vs.set i v).getD i U).J0 ((vs.set i v).getD i U).D3 _ _ ((vs.set i v).getD i U).R2 ((vs.set i v).getD i U).Y1 ((vs.set i v).getD i U).Q1),_,_,()),())=_;rw[e];rfl)
   ·rw[aH]
    exact put (v:=View.mk v.J3 v.B3 v.C3 v.U3 v.E0 v.J0 v.D3 (t.shows.getD i (Calls.mk 0 0)).Up (t.shows.getD i (Calls.mk 0 0)).T3 v.R2 v.Y1 v.Q1) ⟨⟨hvi.ok.c,hvi.ok.u,hvi.ok.d⟩,hvi.ready,hvi.serving,hvi.lost⟩ j hj
  ·exact A ⟨k-1,ω,i+1,vs.set i v,by first | (rw[← w];rfl) | rw[← w],ω,by rw[v_];exact hl,put hvi⟩
end
def Cb:I:=aB 0 0 B 0 0 B 0 0 B
noncomputable def Ry(b:P)(x:Inp)(g:Bool)(t:Pk)(vs:List W):Rnd:=Sm b t.m.G0 t.m.Z1 vs t.m.V3 x.press g
def QH:List aA→Int×Int→Int×Int
 |[],c=>c
 |r::l,c=>QH l (bif r.U0==2 then FQ c (JL r.E0 r.J0)else c)
def Asu(r:Rnd)(i:Nat)(c d:I):Prop:=d.T2=(r.lan.lit.getD i noP).Up∧d.H2=(r.lan.lit.getD i noP).T3∧d.Q5=r.lan.gong.getD i B∧d.O3=c.O3
def PM.rnd{m:Mch}(h:PM b m){r:Rnd}(hg:Rg b m.G0 r)(hl:r.lan.lit.length=b.B0.length){s:Sto}(hj:Jst b s r.img){n:Int}(hn:0≤n∧n≤1000000):PM b { m with G0:=r.img,Y0:=s,Z1:=r.xs,V3:=r.lan.lit,G2:=n }:=
 ⟨hj,h.con,h.conv,h.bel,h.belv,h.car,h.carv,h.lod,h.lodv,hl,hg.ok.len,hg.xs,h.tick,h.flt,hn⟩
structure Dsp(b:Bldg)(x:Inp)(g:Bool)(t t':Pk)(vs:List View):Prop where
 va:VA b t.m.G0 g vs
 rg:Rg b t.m.G0 (Ry b x g t vs)
 res:Al b t t' (Ry b x g t vs).recs∨De b t t' (Ry b x g t vs).recs
 out:t'.out={ t.out with E3:=(QH (Ry b x g t vs).recs (t.out.E3,t.out.X2)).1,X2:=(QH (Ry b x g t vs).recs (t.out.E3,t.out.X2)).2,M0:=!isZ (Ry b x g t vs).ref,B0:=t'.out.B0 }
 oc:t'.out.B0.length=b.B0.length
 cars:∀i,i<b.B0.length→Asu (Ry b x g t vs) i (t.out.B0.getD i Cb) (t'.out.B0.getD i Cb)
 rst:t'.reset=t.reset
def Ccd(hi:i<l.length)(f g:I→I):(l.set i (f (l.getD i Cb))).set i (g ((l.set i (f (l.getD i Cb))).getD i Cb))=l.set i (g (f (l.getD i Cb))):=by
 rw[BU _ _ hi,aH]
def Pk.sServ(t:Pk)(c:Int×Int):Pk:={ t with out:={ t.out with E3:=c.1,X2:=c.2 } }
def Pk.sOuts(t:Pk)(l:List I):Pk:={ t with out:={ t.out with B0:=l } }
section
variable{b:P}(hw:BW b){x:Inp}{g:Bool}(hx:g=C→InOK b x)
theorem Axz(r:Rnd)(hr:r.recs.length≤1000)(t:Pk):R (BV (((),(),r.recs,(r.recs.length:Int),(0:Int),()),(r.tup,t.tup b x g,()))) λy=>y=(((),(),()),(r.tup,(t.sServ (QH r.recs (t.out.E3,t.out.X2))).tup b x g,())):=by
 unfold BV;refine aE (λ(k:Nat) z=>∃(i:Nat) (c:Int×Int),z=(((),(),r.recs,(r.recs.length:Int),(i:Int),()),(r.tup,(t.sServ c).tup b x g,()))∧i+k=r.recs.length∧QH (r.recs.drop i) c=QH r.recs (t.out.E3,t.out.X2)) (λk z hz=>?_) r.recs.length ⟨0,(t.out.E3,t.out.X2),rfl,p_ _,rfl⟩ ω
 obtain⟨i,c,rfl,hk,hs⟩:=hz;show R ((t.sServ c).ap (Ed r.recs (r.recs.length:Int) (i:Int) r.recs r.img.D0 r.img.L0 r.img.H0 r.img.A0 r.xs r.lan.lit r.lan.gong r.lan.cl.1 r.lan.cl.2 r.ref.1 r.ref.2) b x g) _;unfold Pk.ap Ed;refine J (λq=>?_) λq=>A ?_
 ·have q:(i:Int)<(r.recs.length:Int):=n_ q
  have hi:i<r.recs.length:=ω
  have w:=CN (n:=i) ω
  rw[Bw HQ hi]at hs;refine H (Aa ω q) (J (λh=>S (JI _ _) (S (Gl c (JL _ _)) ?_)) λh=>?_)
  ·refine A ⟨k-1,ω,i+1,FQ c (JL (r.recs.getD i HQ).E0 (r.recs.getD i HQ).J0),by first | (rw[← w];rfl) | rw[← w],ω,?_⟩
   rw[← hs];have h:((r.recs.getD i HQ).U0==2)=C:=h;show _=QH (r.recs.drop (i+1)) (bif(r.recs.getD i HQ).U0==2 then _ else _);rw[h];rfl
  ·refine A ⟨k-1,ω,i+1,c,by first | (rw[← w];rfl) | rw[← w],ω,?_⟩
   rw[← hs];have h:((r.recs.getD i HQ).U0==2)=B:=h;show _=QH (r.recs.drop (i+1)) (bif(r.recs.getD i HQ).U0==2 then _ else _);rw[h];rfl
 ·have q:=D_ q
  rw[List.drop_of_length_le ω]at hs
  show _=(((),(),()),(r.tup,(t.sServ (QH r.recs (t.out.E3,t.out.X2))).tup b x g,()));rw[← hs];rfl
theorem Ax0(r:Rnd)(hn:t.out.B0.length≤1000)(hl:r.lan.lit.length=t.out.B0.length)(hg:r.lan.gong.length=t.out.B0.length):R (BX (((),(),(t.out.B0.length:Int),(0:Int),()),(r.tup,t.tup b x g,()))) λy=>∃l,y=((),((t.sOuts l).tup b x g,()))∧l.length=t.out.B0.length∧∀j,j<t.out.B0.length→Asu r j (t.out.B0.getD j Cb) (l.getD j Cb):=by
 unfold BX;refine aE (λ(k:Nat) z=>∃(i:Nat) (l:List I),z=(((),(),(t.out.B0.length:Int),(i:Int),()),(r.tup,(t.sOuts l).tup b x g,()))∧i+k=t.out.B0.length∧l.length=t.out.B0.length∧(∀j,j<i→Asu r j (t.out.B0.getD j Cb) (l.getD j Cb))∧∀j,i≤j→l.getD j Cb=t.out.B0.getD j Cb) (λk z hz=>?_) t.out.B0.length ⟨0,t.out.B0,rfl,p_ _,rfl,λj hj=>absurd hj (Nat.not_lt_zero j),λj _=>rfl⟩ ω
 obtain⟨i,l,rfl,hk,hll,h1,h2⟩:=hz;show R ((t.sOuts l).ap (Ee (t.out.B0.length:Int) (i:Int) r.recs r.img.D0 r.img.L0 r.img.H0 r.img.A0 r.xs r.lan.lit r.lan.gong r.lan.cl.1 r.lan.cl.2 r.ref.1 r.ref.2) b x g) _;unfold Pk.ap Ee;refine J (λq=>?_) λq=>A ⟨l,rfl,hll,λj hj=>h1 j (by have:=D_ q;omega)⟩
 have q:(i:Int)<(t.out.B0.length:Int):=n_ q;have hi:i<l.length:=ω
 have w:=CN (n:=i) ω
 refine H (Aa ω ω) (H (Aa ω ω) (H (Aa ω (ω:(i:Int)<(l.length:Int))) (H (Aa ω (by rw[v_];show(i:Int)<(l.length:Int);omega)) ?_)))
 refine A ⟨k-1,ω,i+1,l.set i (aB (l.getD i Cb).U1 (l.getD i Cb).K1 (l.getD i Cb).J2 (r.lan.lit.getD i noP).Up (r.lan.lit.getD i noP).T3 (r.lan.gong.getD i B) (l.getD i Cb).O3 (l.getD i Cb).L5 (l.getD i Cb).R5),?_,ω,?_,λj hj=>?_,λj hj=>?_⟩
 ·have key:=Ccd hi (λc=>aB c.U1 c.K1 c.J2 (r.lan.lit.getD i noP).Up (r.lan.lit.getD i noP).T3 c.Q5 c.O3 c.L5 c.R5) (λc=>aB c.U1 c.K1 c.J2 c.T2 c.H2 (r.lan.gong.getD i B) c.O3 c.L5 c.R5)
  rw[← w];exact e9_ (λL=>(((),(),(t.out.B0.length:Int),IntKind.i64.wrap ((i:Int)+1),()),(r.tup,(t.sOuts L).tup b x g,()))) key
 ·rw[v_];exact hll
 ·by_cases e:i=j
  ·subst e
   rw[BU _ _ hi];exact⟨rfl,rfl,rfl,by rw[← h2 i (z_ i)]⟩
  ·rw[EW _ _ e];exact h1 j ω
 ·rw[EW _ _ ω];exact h2 j ω
end
def Pk.sRnd(t:Pk)(r:Rnd)(n:Int)(f:Bool):Pk:={ t with m:={ t.m with Z1:=r.xs,V3:=r.lan.lit,G2:=n },out:={ t.out with M0:=f } }
section
variable{b:P}(hw:BW b){x:Inp}{g:Bool}(hx:g=C→InOK b x)
include hw hx
theorem Arv(hm:PM b t.m)(hr:PR b t)(hb:Bud t):R (t.ap CS b x g) λy=>∃(t':Pk) (vs:List W),y=((),(t'.tup b x g,()))∧Dsp b x g t t' vs:=by
 have hcc:=Ak hw.code;unfold Pk.ap CS;refine D (Bhr hw hx hm hr) λy1 h1=>?_
 obtain⟨vs,rfl,hva⟩:=h1;have hxv:inX t.m.Z1:=hm.exv;have hd:=Aac hw.small hw.code hm.jst.img hm.exl t.m.V3 x.press g hxv.exp (VA.ok hw hva) hva.len hm.lit;obtain⟨hrg,hrl⟩:=Amz hw.small hw.code hm.jst.img hm.exl hxv t.m.V3 x.press g hva.len;obtain⟨hl1,hl2⟩:=Azr b t.m.G0 t.m.Z1 vs t.m.V3 x.press g;rw[hva.len]at hl1 hl2;refine S hd ?_;have hR:Sm b t.m.G0 t.m.Z1 vs t.m.V3 x.press g=Ry b x g t vs:=rfl;rw[hR]at hrg hrl hl1 hl2⊢;have fin:∀(t':Pk),(Al b t t' (Ry b x g t vs).recs∨De b t t' (Ry b x g t vs).recs)→_→_→_→_→Dsp b x g t t' vs:=λt' h1 h2 h3 h4 h5=>⟨hva,hrg,h1,h2,h3,h4,h5⟩
 generalize hrr:Ry b x g t vs=r at hrg hrl hl1 hl2 fin;refine Sat.bindR ?_;refine D (Q:=λy=>∃t',y=(((),(),()),(r.tup,t'.tup b x g,()))∧Wr b t r.recs t') ?_ λy6 h6=>?_
 ·refine D (YZ hw.small (x:=x) (g:=g) hm.jst hb.2 hb.1 hrg.good (ω:r.recs.length≤100000)) λy4 h4=>?_
  obtain⟨t',e | e,h⟩:=h4
  ·subst e;exact A ⟨t',rfl,h⟩
  ·subst e;exact A ⟨t',rfl,h⟩
 obtain⟨t1,rfl,hw1⟩:=h6;obtain⟨im,s,bu,e,rfl,hw1⟩:=hw1;refine D (Q:=λy=>∃n,y=(((),(),()),(r.tup,((t.wr im s bu e).sRnd r n (!isZ r.ref)).tup b x g,()))∧0≤n∧n≤1000000) (J (λq=>D (Alw hm.ref) λy7 h7=>A ⟨y7.1.1,rfl,h7⟩) λq=>A ⟨t.m.G2,rfl,hm.ref⟩) λy8 h8=>?_
 obtain⟨n,rfl,hn⟩:=h8;refine D (Axz r ω ((t.wr im s bu e).sRnd r n (!isZ r.ref))) λy9 h9=>?_
 subst h9;refine D (Ax0 r (t:=((t.wr im s bu e).sRnd r n (!isZ r.ref)).sServ (QH r.recs (t.out.E3,t.out.X2))) (by show t.out.B0.length≤1000;rw[hr.oc];omega) (by show _=t.out.B0.length;rw[hr.oc];exact hl1) (by show _=t.out.B0.length;rw[hr.oc];exact hl2)) λy10 h10=>?_
 obtain⟨l,rfl,hl,hc⟩:=h10;replace hl:l.length=t.out.B0.length:=hl;replace hc:∀j,j<t.out.B0.length→Asu r j (t.out.B0.getD j Cb) (l.getD j Cb):=hc;rw[hr.oc]at hl hc;refine A ⟨_,vs,rfl,fin _ ?_ rfl hl hc rfl⟩;have hroom:=Amp hw r.recs.length;rcases hw1 with⟨rfl,rfl,h1,h2,h3,h4⟩ | ⟨rfl,h1,h2,h3⟩
 ·rw[hrg.img]at h1
  refine .inl ⟨rfl,?_,⟨hr.leg,hr.sho,hr.rst,hl⟩,rfl,h3,h4,by show t.budget-_≤bu;omega⟩
  have:=hm.rnd hrg hl1 h1 hn
  rw[← hrg.img]at this;exact this
 ·exact .inr ⟨rfl,ω,h2,h3⟩
end
def Bdn(p a d:Int)(k:Bool):Prop:=(a=0∧d=0∧k=C)∨(LZ p=C∧k=B)
def Abr(p c:Int):Bool:=c==0||(p==3||p==4)
def Aqp(p c:Int):JZ p c=Y ((Abr p c,()),()):=by
 unfold JZ Abr;cases c==0<;>cases p==3<;>rfl
def Ac2(p:Int):Mf p=Y ((LZ p,()),()):=by
 unfold Mf LZ;cases p==0<;>rfl
section
variable{b:P}(hw:BW b){x:Inp}{g:Bool}
include hw
theorem Bgr(hi:i<b.B0.length)(p:Int){s:Belief}(h:BelOK b i s):R (Me b.C0 b.F0 b.I0 b.N0 b.K0 b.M0 b.O0 b.B0 (i:Int) p s.E0 s.J0 s.A3 s.T0 s.L2 s.G3) λy=>∃a d k,y=(((),()),((a,d,k,()),()))∧Bdn p a d k:=by
 have hd:=h.dut.len hw.small;unfold Me;refine S (Ac2 p) (J (λ_=>A ⟨0,0,C,rfl,.inl ⟨rfl,rfl,rfl⟩⟩) λq=>?_)
 have q:LZ p=C:=by simpa using(show(!LZ p)=B from q)
 refine S (Ij hw.small hw.code hi h) (Sat.bifF rfl ?_);refine D (Q:=λy=>∃a d,y=(((),(),()),((0,0,B,()),(a,d,B,()),()))) ?_ λy hy=>by obtain⟨a,d,rfl⟩:=hy;exact A ⟨a,d,B,rfl,.inr ⟨q,rfl⟩⟩
 unfold Kc;refine aE (λ(k:Nat) z=>∃(j:Nat) (c:Int×Int),z=(((i:Int),(),(),(),s.T0,(s.T0.length:Int),(j:Int),()),((b.C0,b.F0,b.I0,b.N0,b.K0,b.M0,b.O0,b.B0,()),(0,0,B,()),(c.1,c.2,B,()),()))∧j+k=s.T0.length) (λk z hz=>?_) s.T0.length ⟨0,(0,0),rfl,p_ _⟩ ω
 obtain⟨j,c,rfl,hk⟩:=hz;show R (NI (i:Int) s.T0 (s.T0.length:Int) (j:Int) b.C0 b.F0 b.I0 b.N0 b.K0 b.M0 b.O0 b.B0 0 0 B c.1 c.2 B) _;unfold NI;refine J (λq=>?_) λ_=>A ⟨_,_,rfl⟩
 have q:(j:Int)<(s.T0.length:Int):=n_ q;have w:=CN (n:=j) ω
 refine H (Aa ω q) (H (Aa ω ω) (J (λ_=>S (JI _ _) (S (Gl c (JL _ _)) ?_)) λ_=>?_))
 ·exact A ⟨k-1,ω,j+1,_,by first | (rw[← w];rfl) | rw[← w],ω⟩
 ·exact A ⟨k-1,ω,j+1,c,by first | (rw[← w];rfl) | rw[← w],ω⟩
end
def o1(c:I)(a d:Int)(k:Bool):I:=aB a d k c.T2 c.H2 c.Q5 c.O3 c.L5 c.R5
def o2(c:I)(p:Int):I:=aB c.U1 c.K1 c.J2 c.T2 c.H2 c.Q5 c.O3 p c.R5
def o3(c:I)(f:Bool):I:=aB c.U1 c.K1 c.J2 c.T2 c.H2 c.Q5 c.O3 c.L5 f
def o4(c:I):I:=aB c.U1 c.K1 c.J2 c.T2 c.H2 c.Q5 0 c.L5 c.R5
def Bbn(l:List I)(i:Nat)(a d:Int)(k:Bool):List I:=l.set i (o1 (l.getD i Cb) a d k)
def Bbo(l:List I)(i:Nat)(a d:Int)(k:Bool)(p:Int):List I:=(Bbn l i a d k).set i (o2 ((Bbn l i a d k).getD i Cb) p)
def Ae7(l:List I)(i:Nat)(a d:Int)(k:Bool)(p:Int)(f:Bool):List I:=(Bbo l i a d k p).set i (o3 ((Bbo l i a d k p).getD i Cb) f)
def Ajd(l:List I)(i:Nat)(a d:Int)(k:Bool)(p:Int)(f:Bool):List I:=(Ae7 l i a d k p f).set i (o4 ((Ae7 l i a d k p f).getD i Cb))
def Apk(hi:i<l.length)(a d:Int)(k:Bool)(p:Int)(f:Bool):Ae7 l i a d k p f=l.set i (o3 (o2 (o1 (l.getD i Cb) a d k) p) f):=by
 unfold Ae7 Bbo Bbn;simp only[BU _ _ hi,aH]
def Bbm(hi:i<l.length)(a d:Int)(k:Bool)(p:Int)(f:Bool):Ajd l i a d k p f=l.set i (o4 (o3 (o2 (o1 (l.getD i Cb) a d k) p) f)):=by
 unfold Ajd;rw[Apk hi,BU _ _ hi,aH]
structure FinO(m:Img)(i:Nat)(c d:CarOutput):Prop where
 lu:d.T2=c.T2
 ld:d.H2=c.H2
 gong:d.Q5=c.Q5
 phase:d.L5=phA m i
 flag:d.R5=flA m i
 coils:Bdn (phA m i) d.U1 d.K1 d.J2
 cmd:Abr (phA m i) d.O3=true
structure Fin(b:Bldg)(g:Bool)(t t':Pk):Prop where
 m:PM b t'.m
 im:t'.m.G0=t.m.G0
 st:t'.m.Y0=t.m.Y0
 bu:t'.budget=t.budget
 e:t'.e=t.e
 out:t'.out={ t.out with O5:=(ofC t.m.G0.A0 (0,0)).1,Y4:=(ofC t.m.G0.A0 (0,0)).2,V5:=!g,B0:=t'.out.B0 }
 oc:t'.out.B0.length=b.B0.length
 cars:∀i,i<b.B0.length→FinO t.m.G0 i (t.out.B0.getD i Cb) (t'.out.B0.getD i Cb)
def Pk.sLmp(t:Pk)(c:Int×Int)(f:Bool):Pk:={ t with out:={ t.out with O5:=c.1,Y4:=c.2,V5:=f } }
section
variable{b:P}(hw:BW b){x:Inp}{g:Bool}
include hw
set_option maxHeartbeats 4000000 in
theorem Bbp(hm:PM b t.m)(hr:PR b t):R (Ch (((),t.m.G0.D0,(t.m.G0.D0.length:Int),(0:Int),()),(t.tup b x g,()))) λy=>∃t',y=((),(t'.tup b x g,()))∧PM b t'.m∧Fix t t'∧t'.out.B0.length=b.B0.length∧∀i,i<b.B0.length→FinO t.m.G0 i (t.out.B0.getD i Cb) (t'.out.B0.getD i Cb):=by
 have hcc:=Ak hw.code;have hp:=hm.jst.img.lp;unfold Ch;refine aE (λ(k:Nat) z=>∃(i:Nat) (t':Pk),z=(((),t.m.G0.D0,(t.m.G0.D0.length:Int),(i:Int),()),(t'.tup b x g,()))∧i+k=b.B0.length∧PM b t'.m∧PR b t'∧Fix t t'∧(∀j,j<i→FinO t.m.G0 j (t.out.B0.getD j Cb) (t'.out.B0.getD j Cb))∧∀j,i≤j→t'.out.B0.getD j Cb=t.out.B0.getD j Cb) (λk z hz=>?_) b.B0.length ⟨0,t,rfl,p_ _,hm,hr,.rfl' t,λj hj=>absurd hj (Nat.not_lt_zero j),λj _=>rfl⟩ ω
 obtain⟨i,u,rfl,hk,hmu,hru,hf,h1,h2⟩:=hz;show R (u.ap (EH t.m.G0.D0 (t.m.G0.D0.length:Int) (i:Int)) b x g) _;unfold Pk.ap EH;refine J (λq=>?_) λq=>A ⟨u,rfl,hmu,hf,hru.oc,λj hj=>h1 j (by have:=D_ q;omega)⟩
 have q:(i:Int)<(t.m.G0.D0.length:Int):=n_ q;have hi:i<b.B0.length:=ω
 have w:=CN (n:=i) ω
 have ifl:O (i:Int) u.m.G0.L0.length=C:=Aa ω (by rw[hmu.jst.img.lf];omega)
 refine H (Aa ω q) ?_
 refine D (Q:=λy=>∃v:Pk,y=(((),(i:Int),V t.m.G0 i,t.m.G0.D0,(t.m.G0.D0.length:Int),(i:Int),()),(v.tup b x g,()))∧PM b v.m∧PR b v∧Fix t v∧v.out=u.out) ?_ λy5 h5=>?_
 ·refine D (Q:=λy=>∃c:Bool,y=(((),(i:Int),V t.m.G0 i,t.m.G0.D0,(t.m.G0.D0.length:Int),(i:Int),c,()),(u.tup b x g,()))) (S (WM _) (J (λ_=>H ifl (A ⟨_,rfl⟩)) λ_=>A ⟨_,rfl⟩)) λy2 h2=>?_
  obtain⟨c,rfl⟩:=h2;have i2:O (i:Int) u.m.W0.length=C:=Aa ω (by rw[hmu.bel];omega)
  refine J (λ_=>H i2 ?_) λ_=>A ⟨u,rfl,hmu,hru,hf,rfl⟩
  refine D (Ala hw hmu.jst.img (i:Int)) λy3 _=>D (Abw hw.small hw.code hi (hmu.belv i hi) _ _) λy4 h4=>H i2 ?_
  obtain⟨ya,yb,yc⟩:=y4;obtain⟨v,e4,hv⟩:=h4;change yb=_ at e4;subst e4;exact A ⟨u.sBel i v,rfl,hmu.sBel hv,hru.sBel i v,⟨hf.im,hf.st,hf.bu,hf.e,hf.out⟩,rfl⟩
 obtain⟨v,rfl,hmv,hrv,hfv,hov⟩:=h5;have j2:O (i:Int) v.m.W0.length=C:=Aa ω (by rw[hmv.bel];omega)
 have jo:O (i:Int) v.out.B0.length=C:=Aa ω (by rw[hrv.oc];omega)
 have jf:O (i:Int) v.m.G0.L0.length=C:=Aa ω (by rw[hmv.jst.img.lf];omega)
 have jr:O (i:Int) v.reset.length=C:=Aa ω (by rw[hrv.rst];omega)
 have hio:i<v.out.B0.length:=by rw[hrv.oc];exact hi
 refine H jo (H j2 (D (Bgr hw hi _ (hmv.belv i hi)) λy6 h6=>H jf (H jr ?_)))
 obtain⟨a,d,kc,rfl,hcoil⟩:=h6;have hprev:v.out.B0.getD i Cb=t.out.B0.getD i Cb:=by rw[hov];exact h2 i (z_ i)
 have hflag:N v.m.G0 i=N t.m.G0 i:=by rw[hfv.im]
 have e9:=Apk hio a d kc (V t.m.G0 i) (N v.m.G0 i);have e10:=Bbm hio a d kc (V t.m.G0 i) (N v.m.G0 i)
 have done:∀c:I,FinO t.m.G0 i (t.out.B0.getD i Cb) c→PM b (v.sOuts (v.out.B0.set i c)).m∧PR b (v.sOuts (v.out.B0.set i c))∧Fix t (v.sOuts (v.out.B0.set i c))∧(∀j,j<i+1→FinO t.m.G0 j (t.out.B0.getD j Cb) ((v.sOuts (v.out.B0.set i c)).out.B0.getD j Cb))∧∀j,i+1≤j→(v.sOuts (v.out.B0.set i c)).out.B0.getD j Cb=t.out.B0.getD j Cb:=λc hc=>by
  refine⟨hmv,⟨hrv.leg,hrv.sho,hrv.rst,by show(v.out.B0.set i c).length=_;rw[v_];exact hrv.oc⟩,⟨hfv.im,hfv.st,hfv.bu,hfv.e,by show({ v.out with B0:=_ }:Outputs)=_;rw[hfv.out];rfl⟩,λj hj=>?_,λj hj=>?_⟩
  ·show FinO t.m.G0 j (t.out.B0.getD j Cb) ((v.out.B0.set i c).getD j Cb)
   by_cases e:i=j
   ·subst e;rw[BU _ _ hio];exact hc
   ·rw[EW _ _ e,hov];exact h1 j ω
  ·show(v.out.B0.set i c).getD j Cb=_
   rw[EW _ _ ω,hov];exact h2 j ω
 refine J (λ_=>?_) λ_=>S (Aqp _ _) (J (λq7=>?_) λq7=>?_)
 ·obtain⟨d1,d2,d3,d4,d5⟩:=done (o4 (o3 (o2 (o1 (v.out.B0.getD i Cb) a d kc) (V t.m.G0 i)) (N v.m.G0 i))) ⟨by rw[← hprev];rfl,by rw[← hprev];rfl,by rw[← hprev];rfl,rfl,hflag,hcoil,rfl⟩
  refine A ⟨k-1,ω,i+1,v.sOuts (Ajd v.out.B0 i a d kc (V t.m.G0 i) (N v.m.G0 i)),by first | (rw[← w];rfl) | rw[← w],ω,?_⟩
  rw[e10];exact⟨d1,d2,d3,d4,d5⟩
 ·obtain⟨d1,d2,d3,d4,d5⟩:=done (o4 (o3 (o2 (o1 (v.out.B0.getD i Cb) a d kc) (V t.m.G0 i)) (N v.m.G0 i))) ⟨by rw[← hprev];rfl,by rw[← hprev];rfl,by rw[← hprev];rfl,rfl,hflag,hcoil,rfl⟩
  refine A ⟨k-1,ω,i+1,v.sOuts (Ajd v.out.B0 i a d kc (V t.m.G0 i) (N v.m.G0 i)),by first | (rw[← w];rfl) | rw[← w],ω,?_⟩
  rw[e10];exact⟨d1,d2,d3,d4,d5⟩
 ·have q7:(!Abr (V t.m.G0 i) ((Ae7 v.out.B0 i a d kc (V t.m.G0 i) (N v.m.G0 i)).getD i Cb).O3)=B:=q7
  rw[e9,BU _ _ hio]at q7;obtain⟨d1,d2,d3,d4,d5⟩:=done (o3 (o2 (o1 (v.out.B0.getD i Cb) a d kc) (V t.m.G0 i)) (N v.m.G0 i)) ⟨by rw[← hprev];rfl,by rw[← hprev];rfl,by rw[← hprev];rfl,rfl,hflag,hcoil,by simpa using q7⟩
  refine A ⟨k-1,ω,i+1,v.sOuts (Ae7 v.out.B0 i a d kc (V t.m.G0 i) (N v.m.G0 i)),by first | (rw[← w];rfl) | rw[← w],ω,?_⟩
  rw[e9];exact⟨d1,d2,d3,d4,d5⟩
theorem Bbr(hm:PM b t.m)(hr:PR b t):R (t.ap Do b x g) λy=>∃t',y=((),(t'.tup b x g,()))∧Fin b g t t':=by
 have he:=EB hw.small hm.jst.img
 have hlm:GJ t.m.G0.D0 t.m.G0.L0 t.m.G0.H0 t.m.G0.A0=Y (((),()),(((ofC t.m.G0.A0 (0,0)).1,(ofC t.m.G0.A0 (0,0)).2,()),())):=by
  unfold GJ;exact Af (Zw ω) rfl
 unfold Pk.ap Do;refine S hlm ?_;refine D (Bbp hw (x:=x) (g:=g) (t:=t.sLmp (ofC t.m.G0.A0 (0,0)) (!g)) hm ⟨hr.leg,hr.sho,hr.rst,hr.oc⟩) λy2 h2=>?_
 obtain⟨t',rfl,h1,h2,h3,h4⟩:=h2;exact A ⟨t',rfl,h1,h2.im,h2.st,h2.bu,h2.e,by rw[h2.out];rfl,h3,h4⟩
end
def RunR(b:P)(x:Inp)(g:Bool)(t t':Pk):Prop:=∃(t1 t2:Pk) (l1:List aA),PM b t1.m∧PR b t1∧Fix t t1∧(∀r∈l1,Acn b r)∧l1.length≤8∧t2.out={ t1.out with B0:=t2.out.B0 }∧
 ((De b t1 t2 l1∧t'=t2)∨(Al b t1 t2 l1∧∃(t3:Pk) (l2:List aA),((g=B∧t3=t2∧l2=[])∨(g=C∧Opr b x t2 t3 l2))∧
  ((De b t2 t3 l2∧t'=t3)∨(Al b t2 t3 l2∧∃(t4:Pk) (vs:List W),Dsp b x g t3 t4 vs∧
   ((t4.e=8∧t'=t4)∨(t4.e=0∧Fin b g t4 t'))))))
section
variable{b:P}(hw:BW b){x:Inp}{g:Bool}(hx:g=C→InOK b x)
include hw hx
theorem Bsm(hm:PM b t.m)(hr:PR b t)(hb:Bud t):R (t.ap Ek b x g) λy=>∃t',(y=.inl ((),(t'.tup b x g,()))∨y=.inr ((),(t'.tup b x g,())))∧RunR b x g t t':=by
 unfold Pk.ap Ek;refine D (Q:=λy=>∃t1,y=(((),(),(),(),()),(((),(),(),(),(),()),t1.tup b x g,()))∧PM b t1.m∧PR b t1∧Fix t t1) ?_ λy3 h3=>?_
 ·refine D (Bpx hw hx hm hr) λy1 h1=>?_
  obtain⟨t1,e | e,h⟩:=h1
  ·subst e;exact A ⟨t1,rfl,h⟩
  ·subst e;exact A ⟨t1,rfl,h⟩
 obtain⟨t1,rfl,m1,r1,f1⟩:=h3;have b1:Bud t1:=⟨f1.e.trans hb.1,by rw[f1.bu];exact hb.2⟩
 refine Sat.bifF (show(t1.e !=0)=B by rw[b1.1];rfl) ?_
 refine D (Bkr hw hx m1 r1 b1) λy4 h4=>?_
 obtain⟨t2,l1,rfl,hl1,hn1,res2,o2⟩:=h4
 have e8:∀{u v:Pk}{l:List aA},(Al b u v l∨De b u v l)→(v.e !=0)=C→De b u v l:=λh q=>by
  rcases h with h | h
  ·rw[h.e]at q;cases q
  ·exact h
 have e0:∀{u v:Pk}{l:List aA},(Al b u v l∨De b u v l)→(v.e !=0)=B→Al b u v l:=λh q=>by
  rcases h with h | h
  ·exact h
  ·rw[h.e]at q;cases q
 refine J (λq=>A ⟨t2,.inl rfl,t1,t2,l1,m1,r1,f1,hl1,hn1,o2,.inl ⟨e8 res2 q,rfl⟩⟩) λq=>?_
 have a2:=e0 res2 q;have b2:=a2.bud b1;refine D (Q:=λy=>∃(t3:Pk) (l2:List aA),y=((),(t3.tup b x g,()))∧((g=B∧t3=t2∧l2=[])∨(g=C∧Opr b x t2 t3 l2))∧(Al b t2 t3 l2∨De b t2 t3 l2)) ?_ λy5 h5=>?_
 ·show R (t2.ap Cq b x g) _
  unfold Pk.ap Cq;refine J (λhg=>?_) λhg=>A ⟨t2,[],rfl,.inl ⟨hg,rfl,rfl⟩,.inl ⟨a2.e,a2.m,a2.r,rfl,a2.b0,d7_ _,by simp⟩⟩
  refine D (Q:=λy=>∃(t3:Pk) (l2:List aA),y=((),(t3.tup b x g,()))∧Opr b x t2 t3 l2) ?_ λy3 h3=>by obtain⟨t3,l2,rfl,h⟩:=h3;exact A ⟨t3,l2,rfl,.inr ⟨hg,h⟩,h.res⟩
  refine D (Ayz hw (hx hg) (g:=g) a2.m a2.r b2) λy1 h1=>?_
  obtain⟨t3,l2,e | e,h⟩:=h1
  ·subst e;exact A ⟨t3,l2,rfl,h⟩
  ·subst e;exact A ⟨t3,l2,rfl,h⟩
 obtain⟨t3,l2,rfl,hop,res3⟩:=h5;refine J (λq=>A ⟨t3,.inl rfl,t1,t2,l1,m1,r1,f1,hl1,hn1,o2,.inr ⟨a2,t3,l2,hop,.inl ⟨e8 res3 q,rfl⟩⟩⟩) λq=>?_
 have a3:=e0 res3 q;have b3:=a3.bud b2;refine D (Arv hw hx a3.m a3.r b3) λy6 h6=>?_
 obtain⟨t4,vs,rfl,hd⟩:=h6;refine J (λq=>A ⟨t4,.inl rfl,t1,t2,l1,m1,r1,f1,hl1,hn1,o2,.inr ⟨a2,t3,l2,hop,.inr ⟨a3,t4,vs,hd,.inl ⟨(e8 hd.res q).e,rfl⟩⟩⟩⟩) λq=>?_
 have a4:=e0 hd.res q;refine D (Bbr hw (x:=x) (g:=g) a4.m a4.r) λy7 h7=>?_
 obtain⟨t5,rfl,hf⟩:=h7;have he:(t5.e !=0)=B:=by rw[hf.e,a4.e];rfl
 exact Sat.bifF he (A ⟨t5,.inr rfl,t1,t2,l1,m1,r1,f1,hl1,hn1,o2,.inr ⟨a2,t3,l2,hop,.inr ⟨a3,t4,vs,hd,.inr ⟨a4.e,hf⟩⟩⟩⟩)
end
def RunR.cases(hw:BW b){x:Inp}{g:Bool}{t':Pk}(h:RunR b x g t t')(hb:Bud t):(t'.e=0∧PM b t'.m∧t'.out.B0.length=b.B0.length∧0≤t'.budget)∨(t'.e=8∧t.budget<300000):=by
 obtain⟨t1,t2,l1,m1,r1,f1,hl1,hn1,o2,⟨d,rfl⟩ | ⟨a2,t3,l2,hop,h⟩⟩:=h
 ·have:=d.lo
  rw[f1.bu]at this;exact .inr ⟨d.e,ω⟩
 have hn2:l2.length≤100:=by
  rcases hop with⟨_,_,rfl⟩ | ⟨_,h⟩
  ·exact a5_ _
  ·obtain⟨i,cm,fr,_,hi,_,rfl,_⟩:=h.how
   have h1:=(Ay0 (b:=b) t2.m.G0 x.kind hi (cm.getD i B) fr).2;have h2:=TR (AK t2.m.G0 (Rv t2.m.G0 x.kind i (cm.getD i B) fr).1) (bif x.kind !=0 then cm.set i B else cm) b.B0.length
   have:=Ak m1.jst.img.code
   unfold Ru;rw[h_];omega
 have k2:=a2.b2;rw[f1.bu]at k2;rcases h with⟨d,rfl⟩ | ⟨a3,t4,vs,hd,h⟩
 ·have:=d.lo
  exact .inr ⟨d.e,ω⟩
 have k3:=a3.b2;have hn3:(Ry b x g t3 vs).recs.length≤300:=(Amz hw.small hw.code a3.m.jst.img a3.m.exl a3.m.exv t3.m.V3 x.press g hd.va.len).2;rcases h with⟨h8,rfl⟩ | ⟨h0,hf⟩
 ·rcases hd.res with a | d
  ·rw[a.e]at h8;cases h8
  ·have:=d.lo
   exact .inr ⟨h8,ω⟩
 ·rcases hd.res with a | d
  ·exact .inl ⟨hf.e.trans h0,hf.m,hf.oc,by rw[hf.bu];exact a.b0⟩
  ·rw[d.e]at h0;cases h0
end Go.Ovl
namespace Go.Ovl
open Go Go.Ab
variable{half:Int}{s:Sto}{d:ByteArray}
def ND(room:Int)(h0 h1:ByteArray)(sel:Int):GX room h0 h1 sel=Y ((decide (Sto.ok room ⟨h0,h1,sel⟩),()),()):=by
 unfold GX Sto.ok;by_cases a:1≤room
 ·by_cases b:room≤65536
  ·by_cases c:(h0.size:Int)≤room
   ·by_cases d:(h1.size:Int)≤room
    ·by_cases e:sel=0
     ·simp[a,b,c,d,e]
     ·by_cases f:sel=1<;>simp[a,b,c,d,e,f,Ar]
    ·simp[a,b,c,d]
   ·simp[a,b,c]
  ·simp[a,b]
 ·simp[a]
def PE(room:Int)(h0 h1:ByteArray)(sel half bud:Int):KU room h0 h1 sel half bud=Y ((Sto.chk room ⟨h0,h1,sel⟩ half bud,()),()):=by
 unfold KU Sto.chk;rw[ND];by_cases a:Sto.ok room ⟨h0,h1,sel⟩
 ·by_cases b:half=0
  ·by_cases c:bud<0<;>simp[a,b,c]
  ·by_cases d:half=1
   ·by_cases c:bud<0<;>simp[a,c,d]
   ·simp[a,b,d,FK]
 ·simp[a]
def Azc(room:Int)(h0 h1:ByteArray)(sel half bud:Int)(hb:bud<9223372036854775808):Qr room h0 h1 sel half bud=Y (Z (Sto.erase room ⟨h0,h1,sel⟩ half bud)):=by
 unfold Qr Sto.erase Sto.act;rw[PE];generalize hc:Sto.chk room ⟨h0,h1,sel⟩ half bud=c;by_cases h:c=0
 ·subst h
  obtain⟨_,hh,hb0⟩:=PU hc;by_cases h2:bud=0
  ·simp[h2,Z]
  ·have hin:O half 2=C:=Aa ω ω
   rw[Ac (n:=bud-1) ω ω]
   have e:(bud==0)=B:=by simpa using h2
   rcases hh with rfl | rfl<;>simp[hin,e,h2,Z,Sto.set,noB]<;>rfl
 ·simp[h,Z,Sto.no,noB,FK]
def As2(room:Int)(h0 h1:ByteArray)(sel half bud:Int)(hb:bud<9223372036854775808):Ot room h0 h1 sel half bud=Y (Z (Sto.choose room ⟨h0,h1,sel⟩ half bud)):=by
 unfold Ot Sto.choose Sto.act;rw[PE];generalize hc:Sto.chk room ⟨h0,h1,sel⟩ half bud=c;by_cases h:c=0
 ·subst h
  obtain⟨_,hh,hb0⟩:=PU hc;by_cases h2:bud=0
  ·simp[h2,Z]
  ·rw[Ac (n:=bud-1) ω ω]
   have e:(bud==0)=B:=by simpa using h2
   simp[e,h2,Z]
 ·simp[h,Z,Sto.no,noB,FK]
def ZK(h0 h1:ByteArray)(sel:Int):Nf h0 h1 sel=Y ((Sto.cur ⟨h0,h1,sel⟩,()),()):=by
 unfold Nf Sto.cur;by_cases h:sel=1<;>simp[h,Ar]
def Apm(hh:half=0∨half=1)(x:ByteArray):(s.set half x).get half=x:=by rcases hh with rfl | rfl<;>rfl
def set_set(hh:half=0∨half=1)(x y:ByteArray):(s.set half x).set half y=s.set half y:=by rcases hh with rfl | rfl<;>rfl
def Aqa(hh:half=0∨half=1):s.set half (s.get half)=s:=by rcases hh with rfl | rfl<;>rfl
def Ag6(hh:half=0∨half=1):List.getD [s.h0,s.h1] half.toNat (ByteArray.mk (Array.mk []))=s.get half:=by rcases hh with rfl | rfl<;>rfl
def Ay3(hh:half=0∨half=1)(x:ByteArray):((bif Nat.beq half.toNat 0 then x else s.h0),((bif Nat.beq half.toNat 1 then x else s.h1),(s.sel,())))=(s.set half x).tup:=by
 rcases hh with rfl | rfl<;>rfl
def Aiv{bud i:Int}{t:Sto}(h:(d.size:Int)≤i):
  CY half d bud i s.h0 s.h1 s.sel t.h0 t.h1 t.sel=Y (.inr (.inl ((bud,((),((),()))),(s.tup,(t.tup,()))))):=by
 unfold CY;have e:decide (i<(d.size:Int))=B:=by simp;omega
 rw[e];rfl
def Afw{i:Int}{t:Sto}(h:i<(d.size:Int)):
  CY half d 0 i s.h0 s.h1 s.sel t.h0 t.h1 t.sel=Y (.inr (.inr (((),(0,(8,()))),(s.tup,())))):=by
 unfold CY;have e:decide (i<(d.size:Int))=C:=by simpa using h
 rw[e];rfl
def Amd(hh:half=0∨half=1){bud:Int}{i:Nat}{t:Sto}(h:i<d.size)(hd:d.size<1000000)(hb:0<bud)(hb':bud<9223372036854775808)(hs:(s.get half).size<1000000):
  CY half d bud i s.h0 s.h1 s.sel t.h0 t.h1 t.sel=
   Y (.inl ((half,(d,(bud-1,((),((),(((i+1:Nat):Int),())))))),((s.set half (s.get half++d.extract i (i+1))).tup,(t.tup,())))):=by
 unfold CY;have e:decide ((i:Int)<(d.size:Int))=C:=by simp;omega
 have e1:(bud==0)=B:=Ar ω
 have e2:O half 2=C:=Aa ω ω
 have w:IntKind.i64.wrap ((i:Int)+1)=((i+1:Nat):Int):=by rw[Ac ω ω];omega
 have w2:IntKind.i64.wrap (bud-1)=bud-1:=Ac ω ω
 have e3:(decide ((0:Int)≤((i+1:Nat):Int))&&decide (((i+1:Nat):Int)≤(d.size:Int)))=C:=by simp;omega
 have e4:(decide ((0:Int)≤(i:Int))&&decide ((i:Int)≤((aC ((i+1:Nat):Int):Nat):Int)))=C:=by simp;omega
 have e5:aC ((i+1:Nat):Int)=i+1:=ω
 have e6:aC (i:Int)=i:=ω
 simp only[e,e1,e2,w,w2,e3,e4,d_,c_,Ag6 hh];simp only[e5,e6];have e7:Nat.ble ((s.get half).size+(d.extract i (i+1)).size) 4611686018427387904=C:=At (by simp;omega)
 rw[e7,d_,Ay3 hh];rfl
def Amc{half:Int}(hh:half=0∨half=1){d:ByteArray}{t:Sto}(hd:d.size≤65536):∀(n i:Nat) (bud:Int) (s:Sto),d.size-i=n→i≤d.size→0≤bud→bud<9223372036854775808→(s.get half).size+(d.size-i)≤65536→
  Bz (λx=>CY x.1.1 x.1.2.1 x.1.2.2.1 x.1.2.2.2.2.2.1 x.2.1.1 x.2.1.2.1 x.2.1.2.2.1 x.2.2.1.1 x.2.2.1.2.1 x.2.2.1.2.2.1) (n+1)
    ((half,(d,(bud,((),((),((i:Int),())))))),(s.tup,(t.tup,())))=
   Y (if bud<(d.size:Int)-i then .inr (((),(0,(8,()))),((s.set half (s.get half++d.extract i (i+bud.toNat))).tup,()))
    else .inl ((bud-((d.size:Int)-i),((),((),()))),((s.set half (s.get half++d.extract i d.size)).tup,(t.tup,()))))
 |0,i,bud,s,hn,hi,hb,hb',hs=>by
  have:i=d.size:=ω
  subst this;refine Au (y:=_) ?_;rw[if_neg ω,Agy,Abt,Aqa hh]
  show CY half d bud (d.size:Int) s.h0 s.h1 s.sel t.h0 t.h1 t.sel=_;rw[Aiv (d7_ _)];simp
 |n+1,i,bud,s,hn,hi,hb,hb',hs=>by
  by_cases h0:bud=0
  ·subst h0
   refine Au (y:=_) ?_;rw[if_pos ω]
   show CY half d 0 (i:Int) s.h0 s.h1 s.sel t.h0 t.h1 t.sel=_;rw[Afw ω]
   simp only[Int.toNat_zero,b8_,Agy,Abt,Aqa hh]
  ·rw[Bk (show CY half d bud (i:Int) s.h0 s.h1 s.sel t.h0 t.h1 t.sel=_ from Amd hh ω ω ω hb' ω),
    Amc hh hd n (i+1) (bud-1) _ ω ω ω ω (by rw[Apm hh];simp;omega)]
   rw[Apm hh,set_set hh,set_set hh,ByteArray.append_assoc,ByteArray.append_assoc];by_cases h1:bud<(d.size:Int)-i
   ·rw[if_pos h1,if_pos ω,Ak1 d ω ω,show i+1+(bud-1).toNat=i+bud.toNat by omega]
   ·rw[if_neg h1,if_neg ω,Ak1 d ω ω]
    congr 3
    have:bud-1-((d.size:Int)-((i+1:Nat):Int))=bud-((d.size:Int)-i):=ω
    rw[this]
def Aef(room:Int)(h0 h1:ByteArray)(sel half:Int)(d:ByteArray)(bud:Int)(hb:bud<9223372036854775808)(hd:d.size<1000000) :
  Qs room h0 h1 sel half d bud=Y (Z (Sto.write room ⟨h0,h1,sel⟩ half d bud)):=by
 unfold Qs Sto.write;rw[PE];generalize hc:Sto.chk room ⟨h0,h1,sel⟩ half bud=c;by_cases h:c=0
 ·subst h
  obtain⟨⟨o1,o2,o3,o4,o5⟩,hh,hb0⟩:=PU hc;simp only at o3 o4;have hin:O half 2=C:=Aa ω ω
  have hg:List.getD [h0,h1] half.toNat (ByteArray.mk (Array.mk []))=Sto.get ⟨h0,h1,sel⟩ half:=Ag6 (s:=⟨h0,h1,sel⟩) hh;have hgs:((Sto.get ⟨h0,h1,sel⟩ half).size:Int)≤room:=by rcases hh with rfl | rfl<;>simpa[Sto.get]
  simp only[a_,hin,d_,hg];rw[Ac (n:=((Sto.get ⟨h0,h1,sel⟩ half).size:Int)+d.size) ω ω]
  by_cases h2:room<((Sto.get ⟨h0,h1,sel⟩ half).size:Int)+d.size
  ·simp[h2,Z,Sto.no,noB]
  ·have hl:=Amc (t:=Sto.no) hh (d:=d) ω d.size 0 bud ⟨h0,h1,sel⟩ ω ω hb0 hb ω
   have hl':KI ((half,(d,(bud,((),((),((0:Int),())))))),((Sto.tup ⟨h0,h1,sel⟩),(Sto.no.tup,())))=_:=Ah hl ω
   have e:decide (room<((Sto.get ⟨h0,h1,sel⟩ half).size:Int)+d.size)=B:=by simpa using h2
   have z:((0:Int) !=0)=B:=rfl;simp only[z,c_,h2,e7_,ne_eq,not_true_eq_false];show(KI ((half,(d,(bud,((),((),((0:Int),())))))),((Sto.tup ⟨h0,h1,sel⟩),(Sto.no.tup,())))).bind _=_;rw[hl'];by_cases h3:bud<d.size
   ·rw[if_pos ω,if_pos h3]
    simp[Z,Sto.tup]
   ·rw[if_neg ω,if_neg h3]
    simp[Z,Sto.tup]
 ·simp[h,Z,Sto.no,noB,FK]
def Amf{b:P}(hb:b.small)(hc:b.B0.length≤100){rs:List aA}(hl:rs.length≤100000):Qt b.C0 b.F0 b.I0 b.N0 b.K0 b.M0 b.O0 b.B0 rs=Y ((txt (rs.flatMap λr=>bl (Hg b r)),()),()):=by
 have h:=AR (step:=λx=>letI a:=x.2.1.2.2;letI c:=a.2.2;Ig x.1.1 x.1.2.2.1 x.1.2.2.2.1 x.2.1.1 x.2.1.2.1 a.1 a.2.1 c.1 c.2.1 c.2.2.1 c.2.2.2.1) rs.length (λi (l:List UInt8)=>((rs,(),txt l,(i:Int),()),(b.tup,()))) (λi l=>l++bl (Hg b (rs.getD i (aD 0 0 0 0 0)))) (λi l=>l.length≤6*i) (λl=>((txt l,()),())) (λi l hi hs=>by
  have he:=Agv b (rs.getD i (aD 0 0 0 0 0));refine⟨?_,by rw[h_];omega⟩
  show Ig rs (txt l) (i:Int) b.C0 b.F0 b.I0 b.N0 b.K0 b.M0 b.O0 b.B0=_;unfold Ig;simp only[b_ (ω:(i:Int)<(rs.length:Int)),Aa (ω:(0:Int)≤(i:Int)) (ω:(i:Int)<(rs.length:Int)),d_,j_,Aiw hb hc,a_,CD hi (show rs.length≤AA by unfold AA;omega)]
  rw[At (show(txt l).size+(Hg b (rs.getD i (aD 0 0 0 0 0))).size≤4611686018427387904 by rw[Ft,← GD];omega)]
  rw[show txt l++Hg b (rs.getD i (aD 0 0 0 0 0))=txt (l++bl (Hg b (rs.getD i (aD 0 0 0 0 0))))by rw[← Agd,Bp2]]
  rfl) (λl _=>by
  show Ig rs (txt l) (rs.length:Int) b.C0 b.F0 b.I0 b.N0 b.K0 b.M0 b.O0 b.B0=_;unfold Ig;simp only[e_ (C_ (rs.length:Int)),c_]) rs.length 0 [] ω (by simp)
 have h':=Ah h.1 ω
 rw[Hk (λi=>bl (Hg b (rs.getD i (aD 0 0 0 0 0)))),a0_,MD (λr=>bl (Hg b r)) (aD 0 0 0 0 0) rs 0 rs.length ω,R_]at h'
 unfold Qt;rw[show Nr ((rs,(),ByteArray.mk (Array.mk []),(0:Int),()),((b.C0,b.F0,b.I0,b.N0,b.K0,b.M0,b.O0,b.B0,()),()))=_ from h']
 rfl
end Go.Ovl
