/- Layer 24, the program: the records of a round are taken by a journal; its numbers stay small. -/
import Derived.Test.YtgmkjajpbaghgaaGreatDoorOvK
import Derived.Test.YtgmkjajpbaghgaaGreatDoorOvC
import Derived.Test.YtgmkjajpbaghgaaGreatDoorOvD
set_option linter.all false
open Go.Ovl.Sat renaming ret->A,bindS->D,bifT->H,bic->J,bindE->S,loop->aE
open Bool renaming false->B,true->C
open Go.Ovl renaming CarOutput->I,flA->N,Bldg->P,Sat->R,noV->U,phA->V,View->W,Record->aA
open Go.Ab renaming inB->O
open Option renaming some->Y
open Go.Ovl.Sto renaming out->Z
open Go.Ovl.CarOutput renaming mk->aB
open Int renaming toNat->aC
open Go.Ovl.Record renaming mk->aD
open Go.Ovl.machine_ticker renaming mk->aF
open List renaming replicate->aG,set_set->aH
namespace Go.Ovl
open Go Go.Ab
set_option maxRecDepth 100000
variable{l:List I}{b:P}{t:Pk}{i:Nat}{m:Img}
def inX(l:List Int):Prop:=∀x∈l,0≤x∧x≤1000000
def inX.exp{l:List Int}(h:inX l):Pc l=C:=G_.2 λx hx=>Am.2 (h x hx)
def Boi(E:List Entry){xs:List Int}(h:inX xs)(r:aA):inX (xsV E xs r):=by
 unfold xsV;cases(r.T0==2)&&FG (At r.D0 r.I0) E with
 |true=>
  intro x hx;rcases p_.1 hx with hx | hx
  ·exact h x (e2_ hx)
  ·exact h x (e3_ hx)
 |false=>
  cases(r.T0==1)&&!FG (At r.D0 r.I0) E with
  |true=>
   intro x hx;rcases p_.1 hx with hx | hx
   ·rcases p_.1 hx with hx | hx
    ·exact h x (e2_ hx)
    ·rw[D_.1 hx];decide
   ·exact h x (e3_ hx)
  |false=>exact h
def Bb0(hcode:b.code=0)(i:Int):0≤(Vl b i).K2∧(Vl b i).K2≤10000:=by
 by_cases h:i.toNat<b.B0.length
 ·exact(Abb hcode h).2.2.2
 ·unfold Vl
  rw[k_,List.getElem?_eq_none ω]
  decide
def Ba9(hcode:b.code=0)(vs:List W)(e n:Entry){x:Int}(hx:0≤x∧x≤1000000):0≤Yu b vs e n x∧Yu b vs e n x≤1000000:=by
 unfold Yu;have h1:=Bfx b n.Q0 (Aw vs n.Q0) e.D0 e.I0;have h2:=Bb0 hcode n.Q0;rw[Ac (n:=x-1) ω ω,Ac (n:=Re b n.Q0 (Aw vs n.Q0) e.D0 e.I0+(Vl b n.Q0).K2) ω ω]
 cases n.Q0 !=e.Q0&&decide (0≤n.Q0)with
 |true=>
  rw[d_];by_cases g:1000000<Re b n.Q0 (Aw vs n.Q0) e.D0 e.I0+(Vl b n.Q0).K2
  ·rw[b_ g,d_];decide
  ·rw[f_ g,c_];omega
 |false=>
  rw[c_];by_cases g:x-1<0
  ·rw[b_ g,d_];decide
  ·rw[f_ g,c_];omega
def Alk{b:P}(hcode:b.code=0)(vs:List W):∀(l:List Entry) (xs:List Int),inX xs→inX (Lv b vs l xs)
 |[],_,_,_,h=>by simp[Lv]at h
 |_::_,[],_,_,h=>by simp[Lv]at h
 |e::t,x::xs,hx,y,h=>by
  rcases y_.1 h with rfl | h
  ·exact Ba9 hcode vs e _ (hx x (E_ ..))
  ·exact Alk hcode vs t xs (λz hz=>hx z (K_ _ hz)) y h
def Asj(a c:Entry):∀r∈MA a c,r.T0=3∨r.T0=7:=by
 unfold MA;intro r h;rcases p_.1 h with h | h
 ·cases q:(a.B1 !=c.B1||!(a.Y1==c.Y1))with
  |false=>rw[q]at h;cases h
  |true=>rw[q]at h;rw[D_.1 h];exact .inr rfl
 ·cases q:a.Q0 !=c.Q0 with
  |false=>rw[q]at h;cases h
  |true=>rw[q]at h;rw[D_.1 h];exact .inl rfl
def Wc(b:P)(vs:List W):∀(l:List Entry) (xs:List Int),∀r∈Gq b vs l xs,r.T0=3∨r.T0=7
 |[],_,_,h=>by simp[Gq]at h
 |_::_,[],_,h=>by simp[Gq]at h
 |e::t,x::xs,r,h=>by
  rcases p_.1 h with h | h
  ·exact Asj _ _ r h
  ·exact Wc b vs t xs r h
structure Rg(b:Bldg)(m:Img)(X:Rnd):Prop where
 good:goodL b m X.recs
 img:Ap m X.recs=X.img
 ok:X.ok b
 xs:inX X.xs
def Rg.step{X:Rnd}(h:Rg b m X){r:aA}(hv:Az b r=C)(hf:IY b X.img r=B):Rg b m (TX r X):=
 ⟨h.good.app (k:=[r]) ⟨hv,by rw[h.img];exact hf,trivial⟩,by show Ap m (X.recs++[r])=An X.img r;rw[EA,h.img];rfl,Wl h.ok hv,Boi _ h.xs r⟩
def Rg.wr{b:P}{m:Img}:∀{l:List aA}{X:Rnd},Rg b m X→goodL b X.img l→Rg b m (wrL l X)
 |[],X,h,_=>by
  unfold wrL;rw[a9_];exact⟨h.good,h.img,⟨h.ok.img,h.ok.len⟩,h.xs⟩
 |r::t,X,h,⟨h1,h2,h3⟩=>by
  rw[Wo];exact Rg.wr (h.step h1 h2) h3
def Rg.reg{b:P}{m:Img}:∀{l:List Entry}{X:Rnd},Rg b m X→(∀e∈l,Ak b e.D0 e.I0=C)→Rg b m (KY b l X)
 |[],_,h,_=>h
 |e::t,X,h,hv=>by
  refine Rg.reg (l:=t) (X:=Jd b e X) ?_ λx hx=>hv x (K_ _ hx)
  unfold Jd;cases hr:Pn b X.img with
  |true=>exact h.step (XL (hv e (E_ ..))) (by unfold IY;rw[hr];simp)
  |false=>exact⟨h.good,h.img,⟨h.ok.img,h.ok.len⟩,h.xs⟩
section
variable{b:P}(hb:b.small)(hcode:b.code=0){m:Img}(hm:ImgOK b m){xs:List Int}(hx:xs.length=m.A0.length)(hxv:inX xs){vs:List W}(ps:List Calls)(press:Int×Int)(good:Bool)
include hb hcode hm hx hxv
theorem Amd:Rg b m (CU b m xs vs ps press good):=by
 have h0:∀L:Lan,Rg b m ⟨[],m,xs,L,(0,0)⟩:=λL=>⟨trivial,rfl,⟨hm,hx⟩,hxv⟩
 unfold CU;cases good with
 |false=>exact h0 _
 |true=>
  have hv:=Qx hcode vs (l:=m.A0) λe he=>(EO.1 (hm.en e he)).1
  exact((h0 _).wr (VP m λr hr=>⟨(hv r hr).1,by rw[(hv r hr).2];decide⟩)).reg λe he=>VM hb hcode he
variable(hvl:vs.length=b.B0.length)
include hvl
theorem Ade:Add b m xs vs ps press good=(Gq b vs (CU b m xs vs ps press good).img.A0 (CU b m xs vs ps press good).xs,Lv b vs (CU b m xs vs ps press good).img.A0 (CU b m xs vs ps press good).xs,0,()):=by
 have h:=Amd hb hcode hm hx hxv (vs:=vs) ps press good;unfold Add Nw;rw[Img.ok_iff.2 h.ok.img,show(((CU b m xs vs ps press good).xs.length:Int)==((CU b m xs vs ps press good).img.A0.length:Int))=C by rw[h.ok.len];exact l_ _,show((vs.length:Int)==(b.B0.length:Int))=C by rw[hvl];exact l_ _,h.xs.exp]
 rfl
theorem Amb:Rg b m (MC b m xs vs ps press good)∧(MC b m xs vs ps press good).recs.length≤300:=by
 have hcc:=Aj hcode;have h:=Amd hb hcode hm hx hxv (vs:=vs) ps press good;have hlen:=(Amc hb hcode hm hx (vs:=vs) ps press good).2;have hp:=Ade hb hcode hm hx hxv (vs:=vs) ps press good hvl;have he:=EC hb h.ok.img;unfold MC;rw[hp];generalize CU b m xs vs ps press good=X at h hlen he;obtain⟨p1,p2,p3⟩:=Wd (b:=b) ω (by omega:(vs.length:Int)=(b.B0.length:Int)) X.img.A0 X.xs [] X.img h.ok.len h.ok.img rfl
 rw[Z_]at p1 p3;have hk:=Wc b vs X.img.A0 X.xs;have hw:=h.wr (l:=Gq b vs X.img.A0 X.xs) (VP X.img λr hr=>⟨p2 r hr,by have:=hk r hr;omega⟩)
 have hl:=XG b vs X.img.A0 X.xs;refine⟨⟨hw.good,hw.img,⟨hw.ok.img,?_⟩,Alk hcode vs _ _ h.xs⟩,?_⟩
 ·show(Lv b vs X.img.A0 X.xs).length=(Ap X.img (Gq b vs X.img.A0 X.xs)).A0.length
  rw[p1,XF b vs _ _ h.ok.len];show _=(Ui b vs X.img.A0 X.xs).length;rw[Aj1 b vs _ _ h.ok.len]
 ·show(X.recs++Gq b vs X.img.A0 X.xs).length≤300
  rw[h_];omega
end
def Aw8(b:P)(vs:List W)(ps:List Calls):∀(m i:Nat) (s:Lan),(Bw (MH b vs ps) m i s).lit.length=s.lit.length+m∧(Bw (MH b vs ps) m i s).gong.length=s.gong.length+m
 |0,_,_=>⟨rfl,rfl⟩
 |m+1,i,s=>by
  obtain⟨h1,h2⟩:=Aw8 b vs ps m (i+1) (MH b vs ps i s);have e1:(MH b vs ps i s).lit.length=s.lit.length+1:=by unfold MH;show(s.lit++[_]).length=_;rw[h_];rfl
  have e2:(MH b vs ps i s).gong.length=s.gong.length+1:=by unfold MH;show(s.gong++[_]).length=_;rw[h_];rfl
  exact⟨by show(Bw (MH b vs ps) m (i+1) (MH b vs ps i s)).lit.length=_;omega,by show(Bw (MH b vs ps) m (i+1) (MH b vs ps i s)).gong.length=_;omega⟩
def Aly(b:P):∀(l:List Entry) (X:Rnd),(KY b l X).lan=X.lan
 |[],_=>rfl
 |e::t,X=>by
  show(KY b t (Jd b e X)).lan=X.lan;rw[Aly b t];unfold Jd;cases Pn b X.img<;>rfl
def Ahe(b:P)(m:Img)(xs:List Int)(vs:List W)(ps:List Calls)(press:Int×Int)(good:Bool):(MC b m xs vs ps press good).lan=bif good then GY b vs ps else Ber vs.length:=by
 show(CU b m xs vs ps press good).lan=_;unfold CU;cases good with
 |true=>rw[d_,d_,Aly];rfl
 |false=>rfl
def Ahf(b:P)(m:Img)(xs:List Int)(vs:List W)(ps:List Calls)(press:Int×Int)(good:Bool):(MC b m xs vs ps press good).lan.lit.length=vs.length∧(MC b m xs vs ps press good).lan.gong.length=vs.length:=by
 rw[Ahe];cases good with
 |true=>
  obtain⟨h1,h2⟩:=Aw8 b vs ps vs.length 0 Lan.none;exact⟨h1.trans (q_ _),h2.trans (q_ _)⟩
 |false=>exact⟨S_,S_⟩
@[reducible] def Bqr(v:W):=(v.H3,v.Y2,v.A3,v.U3,v.D0,v.I0,v.B3,v.E3,v.Q2,v.N2,v.X1,v.L1,())
def Axk(hb:b.small){x:NewCar}(h:ED b x=C):Afi x.Z1:=by
 have h2:=Ayf hb;unfold ED at h;cases hf:x.Z2 with
 |true=>
  rw[hf]at h;simp only[d_,Ad2,e_,Y_]at h;rw[h.2.2.2.2.2.2.2.2.2.2.1];exact⟨by decide,by decide⟩
 |false=>
  have hs:=(UT hb hf).1 (by unfold ED;exact h)
  have hc:C2 b.C0 x.Z1:=hs.1.ca;unfold C2 at hc;exact⟨hc.1,ω⟩
def Azq{l:List Duty}(hl:l.length≤1000):R (JU l) λy=>Kr (y.2.1.1,y.2.1.2.1):=by
 unfold JU;refine D (Q:=λy=>Kr (y.2.2.1.1,y.2.2.1.2.1)) ?_ λ_ h=>A h
 unfold Iz;refine aE (λ(k:Nat) z=>∃(i:Nat) (c:Int×Int),z=(((),(),l,(l.length:Int),(i:Int),()),((0,0,()),(c.1,c.2,()),()))∧i+k=l.length∧Kr c) (λk z hz=>?_) l.length ⟨0,(0,0),rfl,q_ _,Tl⟩ ω
 obtain⟨i,c,rfl,hk,hc⟩:=hz;show R (LC l (l.length:Int) (i:Int) 0 0 c.1 c.2) _;unfold LC;refine J (λq=>?_) λ_=>A hc
 have q:(i:Int)<(l.length:Int):=m_ q;have w:=Dg (n:=i) ω
 refine H (Aa ω q) (S (JB _ _) (S (Gh c (JE _ _)) ?_))
 exact A ⟨k-1,ω,i+1,_,by first | (rw[← w];rfl) | rw[← w],ω,Ayh _ _⟩
structure VI(b:Bldg)(m:Img)(good:Bool)(i:Nat)(v:View):Prop where
 ok:v.ok
 ready:v.H3=(good&&SW m i)
 serving:v.Y2=II m i
 lost:v.U3=(flA m i||!II m i)
section
variable{b:P}(hw:BW b){x:Inp}{g:Bool}(hx:g=C→InOK b x)
include hw
theorem Bod{m:Mch}(hm:PM b m)(hi:i<b.B0.length)(f:Int)(l:Bool)(d:Int)(k:Bool):R (Mg b.C0 b.E0 b.H0 b.M0 b.J0 b.L0 b.N0 b.B0 m.G0.F0 m.G0.O0 m.G0.K0 m.G0.A0 m.Z0.h0 m.Z0.h1 m.Z0.sel m.N1 m.W0 m.B0 m.R2 m.D2 m.X3 m.R3 m.T2 m.J2 (i:Int) f l d k) λy=>∃v,y=(((),()),(Bqr v,()))∧VI b m.G0 C i v:=by
 have i1:O (i:Int) m.G0.F0.length=C:=Aa ω (by rw[hm.jst.img.lp];omega)
 have i2:O (i:Int) m.W0.length=C:=Aa ω (by rw[hm.bel];omega)
 have i3:O (i:Int) m.B0.length=C:=Aa ω (by rw[hm.car];omega)
 have i4:O (i:Int) m.G0.O0.length=C:=Aa ω (by rw[hm.jst.img.lf];omega)
 have i5:O (i:Int) m.R2.length=C:=Aa ω (by rw[hm.lod];omega)
 have hc:=Axk hw.small (hm.carv _ (CA AS (show i<m.B0.length by rw[hm.car];exact hi)))
 have hd:=((hm.belv i hi).dut).len hw.small;unfold Mg;refine H i1 (H i3 (S (Ai5 hm.jst.img hi) (S (Aaw hm.jst.img hi) (S (Wn _) ?_))));have z0:Afi 0:=⟨by decide,by decide⟩
 refine S (b:=(((i:Int),(),(),(),(),V m.G0 i,(),(),()),((b.C0,b.E0,b.H0,b.M0,b.J0,b.L0,b.N0,b.B0,()),(m.G0.F0,m.G0.O0,m.G0.K0,m.G0.A0,m.Z0.h0,m.Z0.h1,m.Z0.sel,m.N1,m.W0,m.B0,m.R2,m.D2,m.X3,m.R3,m.T2,m.J2,()),(f,l,d,k,()),(B,B,B,B,(0:Int),(0:Int),(0:Int),(0:Int),(0:Int),(0:Int),(0:Int),(0:Int),()),Azm (m.B0.getD i AS),(SW m.G0 i,II m.G0 i,KK (V m.G0 i),(N m.G0 i||!II m.G0 i),(0:Int),(0:Int),(0:Int),(0:Int),(0:Int),(0:Int),(0:Int),(0:Int),()),()))) ?_ ?_
 ·show(bif O (i:Int) m.G0.O0.length then(bif N m.G0 i then _ else _)else none)=_
  rw[i4,d_];cases N m.G0 i<;>rfl
 refine J (λ_=>H i2 (D (Azq (by show(m.W0.getD i Ja).U0.length≤1000;omega)) λy5 h5=>?_)) λ_=>H i5 ?_
 ·exact A ⟨View.mk (SW m.G0 i) (II m.G0 i) (KK (V m.G0 i)) (N m.G0 i||!II m.G0 i) (m.W0.getD i Ja).D0 (m.W0.getD i Ja).I0 0 0 0 0 y5.2.1.1 y5.2.1.2.1,rfl,⟨z0,h5.1,h5.2⟩,rfl,rfl,rfl⟩
 refine D (Q:=λy=>∃(su sd:Int) (o1 o2 o3 o4:Int),y=(((i:Int),(),(),(),(),(),()),((b.C0,b.E0,b.H0,b.M0,b.J0,b.L0,b.N0,b.B0,()),(m.G0.F0,m.G0.O0,m.G0.K0,m.G0.A0,m.Z0.h0,m.Z0.h1,m.Z0.sel,m.N1,m.W0,m.B0,m.R2,m.D2,m.X3,m.R3,m.T2,m.J2,()),(B,B,B,B,(0:Int),(0:Int),(0:Int),(0:Int),(0:Int),(0:Int),(0:Int),(0:Int),()),Azm (m.B0.getD i AS),(SW m.G0 i,II m.G0 i,KK (V m.G0 i),(N m.G0 i||!II m.G0 i),f,(m.B0.getD i AS).U1,o1,su,sd,o2,o3,o4,()),()))) ?_ λy7 h7=>?_
 ·refine J (λ_=>?_) λ_=>A ⟨_,_,_,_,_,_,rfl⟩
  exact D (Aew hw.small hw.code (m.B0.getD i AS) f l d k) λ_ _=>A ⟨_,_,_,_,_,_,rfl⟩
 obtain⟨su,sd,o1,o2,o3,o4,rfl⟩:=h7;refine D (Akn hw hm.jst.img (i:Int)) λy8 h8=>?_
 exact A ⟨View.mk (SW m.G0 i) (II m.G0 i) (KK (V m.G0 i)) (N m.G0 i||!II m.G0 i) f (m.B0.getD i AS).U1 o1 su sd (m.B0.getD i AS).Z1 y8.2.1.1 y8.2.1.2.1,rfl,⟨hc,h8.1,h8.2⟩,rfl,rfl,rfl⟩
structure VA(b:Bldg)(m:Img)(good:Bool)(vs:List View):Prop where
 len:vs.length=b.B0.length
 vi:∀i,i<b.B0.length→VI b m good i (vs.getD i noV)
theorem VA.ok{vs:List W}(h:VA b m g vs):okViews vs:=λv hv=>by
 obtain⟨i,hi,rfl⟩:=List.getElem_of_mem hv
 have:=(h.vi i (by rw[← h.len];exact hi)).ok
 rwa [k_,i_ hi]at this
include hx
theorem Bgo(hm:PM b t.m)(hr:PR b t):R (DD (t.ap aF b x g)) λy=>∃vs:List W,y=((vs,()),())∧VA b t.m.G0 g vs:=by
 have hcc:=Aj hw.code;unfold DD;refine H (by show((decide ((0:Int)≤(b.B0.length:Int))&&decide ((b.B0.length:Int)≤(b.B0.length:Int)))&&decide ((b.B0.length:Int)≤2147483648))=C;simp only[e_,A_];omega) (D (Q:=λy=>∃vs:List W,y=((vs,()),())∧VA b t.m.G0 g vs) ?_ λy h=>by obtain⟨c,rfl,h⟩:=h;exact A ⟨c,rfl,h⟩)
 have h0:(aG (aC (b.B0.length:Int)) U).length=b.B0.length:=by rw[S_];omega
 show R (Co ((t.ap aF b x g,aG (aC (b.B0.length:Int)) U,(((aG (aC (b.B0.length:Int)) U).length:Nat):Int),0,()),())) _;generalize aG (aC (b.B0.length:Int)) U=L at h0;unfold Co;refine aE (λ(k:Nat) z=>∃(i:Nat) (vs:List W),z=((t.ap aF b x g,vs,(L.length:Int),(i:Int),()),())∧i+k=L.length∧vs.length=b.B0.length∧∀j,j<i→VI b t.m.G0 g j (vs.getD j U)) (λk z hz=>?_) L.length ⟨0,L,rfl,q_ _,h0,λj hj=>absurd hj (g0_ j)⟩ ω
 obtain⟨i,vs,rfl,hk,hl,hv⟩:=hz;show R (ET (t.ap aF b x g) vs (L.length:Int) (i:Int)) _;unfold ET;refine J (λq=>?_) λq=>A ⟨vs,rfl,hl,λj hj=>hv j (by have q:=C_ q;omega)⟩
 have q:(i:Int)<(L.length:Int):=m_ q;have hi:i<b.B0.length:=ω
 have w:=Dg (n:=i) ω
 have il:O (i:Int) vs.length=C:=Aa ω ω
 have put:∀{v:W},VI b t.m.G0 g i v→∀j,j<i+1→VI b t.m.G0 g j ((vs.set i v).getD j U):=λ{v} h j hj=>by
  by_cases e:i=j
  ·subst e;rw[Bi _ _ ω];exact h
  ·rw[CB _ _ e];exact hv j ω
 refine J (λhg=>?_) λhg=>?_
 ·have hg:g=B:=by simpa using(show(!g)=C from hg)
  refine S (Aaw hm.jst.img hi) ?_;have i4:O (i:Int) t.m.G0.O0.length=C:=Aa ω (by rw[hm.jst.img.lf];omega)
  refine S (b:=((t.ap aF b x g,vs.set i (View.mk B (II t.m.G0 i) B (N t.m.G0 i||!II t.m.G0 i) (-1) 0 0 0 0 0 0 0),(L.length:Int),(i:Int),()),())) ?_ ?_
  ·show(bif O (i:Int) t.m.G0.O0.length then(bif N t.m.G0 i then(bif O (i:Int) vs.length then _ else none)else(bif O (i:Int) vs.length then _ else none))else none)=_
   rw[i4,il,d_,d_];cases N t.m.G0 i<;>rfl
  have z0:Afi 0:=⟨by decide,by decide⟩
  exact A ⟨k-1,ω,i+1,_,by first | (rw[← w];rfl) | rw[← w],ω,by rw[r_];exact hl,put ⟨⟨z0,z0,z0⟩,by rw[hg];rfl,rfl,rfl⟩⟩
 ·have hg:g=C:=by simpa using(show(!g)=B from hg)
  have hxl:=(hx hg).len;refine H (Aa ω (ω:(i:Int)<(x.cars.length:Int))) (D (Bod hw hm hi _ _ _ _) λy3 h3=>H il ?_)
  obtain⟨v,rfl,hvi⟩:=h3;rw[← hg]at hvi;refine H (Aa ω (show(i:Int)<(t.legacy.length:Int)by rw[hr.leg];omega)) (J (λ_=>?_) λ_=>?_)
  ·refine H (Aa ω (show(i:Int)<(t.shows.length:Int)by rw[hr.sho];omega)) (H (Aa ω (by rw[r_];omega)) ?_)
   refine A ⟨k-1,ω,i+1,(vs.set i v).set i (View.mk v.H3 v.Y2 v.A3 v.U3 v.D0 v.I0 v.B3 (t.shows.getD i (Calls.mk 0 0)).Up (t.shows.getD i (Calls.mk 0 0)).Q3 v.N2 v.X1 v.L1),?_,ω,by rw[r_,r_];exact hl,λj hj=>?_⟩
   ·have e:(vs.set i v).getD i U=v:=Bi _ _ ω
    first
     |(rw[← w];show((_,List.set (vs.set i v) i (View.mk ((vs.set i v).getD i U).H3 ((vs.set i v).getD i U).Y2 ((vs.set i v).getD i U).A3 ((vs.set i v).getD i U).U3 ((vs.set i v).getD i U).D0 ((vs.set i v).getD i U).I0 ((vs.set i v).getD i U).B3 _ _ ((vs.set i v).getD i U).N2 ((vs.set i v).getD i U).X1 ((vs.set i v).getD i U).L1),_,_,()),())=_;rw[e];rfl)
   ·rw[aH]
    exact put (v:=View.mk v.H3 v.Y2 v.A3 v.U3 v.D0 v.I0 v.B3 (t.shows.getD i (Calls.mk 0 0)).Up (t.shows.getD i (Calls.mk 0 0)).Q3 v.N2 v.X1 v.L1) ⟨⟨hvi.ok.c,hvi.ok.u,hvi.ok.d⟩,hvi.ready,hvi.serving,hvi.lost⟩ j hj
  ·exact A ⟨k-1,ω,i+1,vs.set i v,by first | (rw[← w];rfl) | rw[← w],ω,by rw[r_];exact hl,put hvi⟩
end
def Ba:I:=aB 0 0 B 0 0 B 0 0 B
noncomputable def PV(b:P)(x:Inp)(g:Bool)(t:Pk)(vs:List W):Rnd:=MC b t.m.G0 t.m.D2 vs t.m.X3 x.press g
def Pp:List aA→Int×Int→Int×Int
 |[],c=>c
 |r::l,c=>Pp l (bif r.T0==2 then CP c (JE r.D0 r.I0)else c)
def Ak4(r:Rnd)(i:Nat)(c d:I):Prop:=d.B2=(r.lan.lit.getD i noP).Up∧d.M1=(r.lan.lit.getD i noP).Q3∧d.A5=r.lan.gong.getD i B∧d.D3=c.D3
def PM.rnd{m:Mch}(h:PM b m){r:Rnd}(hg:Rg b m.G0 r)(hl:r.lan.lit.length=b.B0.length){s:Sto}(hj:Jst b s r.img){n:Int}(hn:0≤n∧n≤1000000):PM b { m with G0:=r.img,Z0:=s,D2:=r.xs,X3:=r.lan.lit,J2:=n }:=
 ⟨hj,h.con,h.conv,h.bel,h.belv,h.car,h.carv,h.lod,h.lodv,hl,hg.ok.len,hg.xs,h.tick,h.flt,hn⟩
structure Dsp(b:Bldg)(x:Inp)(g:Bool)(t t':Pk)(vs:List View):Prop where
 va:VA b t.m.G0 g vs
 rg:Rg b t.m.G0 (PV b x g t vs)
 res:Al b t t' (PV b x g t vs).recs∨De b t t' (PV b x g t vs).recs
 out:t'.out={ t.out with T3:=(Pp (PV b x g t vs).recs (t.out.T3,t.out.F3)).1,F3:=(Pp (PV b x g t vs).recs (t.out.T3,t.out.F3)).2,L0:=!isZ (PV b x g t vs).ref,B0:=t'.out.B0 }
 oc:t'.out.B0.length=b.B0.length
 cars:∀i,i<b.B0.length→Ak4 (PV b x g t vs) i (t.out.B0.getD i Ba) (t'.out.B0.getD i Ba)
 rst:t'.reset=t.reset
def Caf(hi:i<l.length)(f g:I→I):(l.set i (f (l.getD i Ba))).set i (g ((l.set i (f (l.getD i Ba))).getD i Ba))=l.set i (g (f (l.getD i Ba))):=by
 rw[Bi _ _ hi,aH]
def Pk.sServ(t:Pk)(c:Int×Int):Pk:={ t with out:={ t.out with T3:=c.1,F3:=c.2 } }
def Pk.sOuts(t:Pk)(l:List I):Pk:={ t with out:={ t.out with B0:=l } }
section
variable{b:P}(hw:BW b){x:Inp}{g:Bool}(hx:g=C→InOK b x)
theorem Awm(r:Rnd)(hr:r.recs.length≤1000)(t:Pk):R (BU (((),(),r.recs,(r.recs.length:Int),(0:Int),()),(r.tup,t.tup b x g,()))) λy=>y=(((),(),()),(r.tup,(t.sServ (Pp r.recs (t.out.T3,t.out.F3))).tup b x g,())):=by
 unfold BU;refine aE (λ(k:Nat) z=>∃(i:Nat) (c:Int×Int),z=(((),(),r.recs,(r.recs.length:Int),(i:Int),()),(r.tup,(t.sServ c).tup b x g,()))∧i+k=r.recs.length∧Pp (r.recs.drop i) c=Pp r.recs (t.out.T3,t.out.F3)) (λk z hz=>?_) r.recs.length ⟨0,(t.out.T3,t.out.F3),rfl,q_ _,rfl⟩ ω
 obtain⟨i,c,rfl,hk,hs⟩:=hz;show R ((t.sServ c).ap (Eh r.recs (r.recs.length:Int) (i:Int) r.recs r.img.F0 r.img.O0 r.img.K0 r.img.A0 r.xs r.lan.lit r.lan.gong r.lan.cl.1 r.lan.cl.2 r.ref.1 r.ref.2) b x g) _;unfold Pk.ap Eh;refine J (λq=>?_) λq=>A ?_
 ·have q:(i:Int)<(r.recs.length:Int):=m_ q
  have hi:i<r.recs.length:=ω
  have w:=Dg (n:=i) ω
  rw[Cb HO hi]at hs;refine H (Aa ω q) (J (λh=>S (JB _ _) (S (Gh c (JE _ _)) ?_)) λh=>?_)
  ·refine A ⟨k-1,ω,i+1,CP c (JE (r.recs.getD i HO).D0 (r.recs.getD i HO).I0),by first | (rw[← w];rfl) | rw[← w],ω,?_⟩
   rw[← hs];have h:((r.recs.getD i HO).T0==2)=C:=h;show _=Pp (r.recs.drop (i+1)) (bif(r.recs.getD i HO).T0==2 then _ else _);rw[h];rfl
  ·refine A ⟨k-1,ω,i+1,c,by first | (rw[← w];rfl) | rw[← w],ω,?_⟩
   rw[← hs];have h:((r.recs.getD i HO).T0==2)=B:=h;show _=Pp (r.recs.drop (i+1)) (bif(r.recs.getD i HO).T0==2 then _ else _);rw[h];rfl
 ·have q:=C_ q
  rw[List.drop_of_length_le ω]at hs
  show _=(((),(),()),(r.tup,(t.sServ (Pp r.recs (t.out.T3,t.out.F3))).tup b x g,()));rw[← hs];rfl
theorem Awn(r:Rnd)(hn:t.out.B0.length≤1000)(hl:r.lan.lit.length=t.out.B0.length)(hg:r.lan.gong.length=t.out.B0.length):R (BV (((),(),(t.out.B0.length:Int),(0:Int),()),(r.tup,t.tup b x g,()))) λy=>∃l,y=((),((t.sOuts l).tup b x g,()))∧l.length=t.out.B0.length∧∀j,j<t.out.B0.length→Ak4 r j (t.out.B0.getD j Ba) (l.getD j Ba):=by
 unfold BV;refine aE (λ(k:Nat) z=>∃(i:Nat) (l:List I),z=(((),(),(t.out.B0.length:Int),(i:Int),()),(r.tup,(t.sOuts l).tup b x g,()))∧i+k=t.out.B0.length∧l.length=t.out.B0.length∧(∀j,j<i→Ak4 r j (t.out.B0.getD j Ba) (l.getD j Ba))∧∀j,i≤j→l.getD j Ba=t.out.B0.getD j Ba) (λk z hz=>?_) t.out.B0.length ⟨0,t.out.B0,rfl,q_ _,rfl,λj hj=>absurd hj (g0_ j),λj _=>rfl⟩ ω
 obtain⟨i,l,rfl,hk,hll,h1,h2⟩:=hz;show R ((t.sOuts l).ap (Ei (t.out.B0.length:Int) (i:Int) r.recs r.img.F0 r.img.O0 r.img.K0 r.img.A0 r.xs r.lan.lit r.lan.gong r.lan.cl.1 r.lan.cl.2 r.ref.1 r.ref.2) b x g) _;unfold Pk.ap Ei;refine J (λq=>?_) λq=>A ⟨l,rfl,hll,λj hj=>h1 j (by have:=C_ q;omega)⟩
 have q:(i:Int)<(t.out.B0.length:Int):=m_ q;have hi:i<l.length:=ω
 have w:=Dg (n:=i) ω
 refine H (Aa ω ω) (H (Aa ω ω) (H (Aa ω (ω:(i:Int)<(l.length:Int))) (H (Aa ω (by rw[r_];show(i:Int)<(l.length:Int);omega)) ?_)))
 refine A ⟨k-1,ω,i+1,l.set i (aB (l.getD i Ba).Q1 (l.getD i Ba).H1 (l.getD i Ba).I2 (r.lan.lit.getD i noP).Up (r.lan.lit.getD i noP).Q3 (r.lan.gong.getD i B) (l.getD i Ba).D3 (l.getD i Ba).V3 (l.getD i Ba).O5),?_,ω,?_,λj hj=>?_,λj hj=>?_⟩
 ·have key:=Caf hi (λc=>aB c.Q1 c.H1 c.I2 (r.lan.lit.getD i noP).Up (r.lan.lit.getD i noP).Q3 c.A5 c.D3 c.V3 c.O5) (λc=>aB c.Q1 c.H1 c.I2 c.B2 c.M1 (r.lan.gong.getD i B) c.D3 c.V3 c.O5)
  rw[← w];exact f0_ (λL=>(((),(),(t.out.B0.length:Int),IntKind.i64.wrap ((i:Int)+1),()),(r.tup,(t.sOuts L).tup b x g,()))) key
 ·rw[r_];exact hll
 ·by_cases e:i=j
  ·subst e
   rw[Bi _ _ hi];exact⟨rfl,rfl,rfl,by rw[← h2 i (w_ i)]⟩
  ·rw[CB _ _ e];exact h1 j ω
 ·rw[CB _ _ ω];exact h2 j ω
end
def Pk.sRnd(t:Pk)(r:Rnd)(n:Int)(f:Bool):Pk:={ t with m:={ t.m with D2:=r.xs,X3:=r.lan.lit,J2:=n },out:={ t.out with L0:=f } }
section
variable{b:P}(hw:BW b){x:Inp}{g:Bool}(hx:g=C→InOK b x)
include hw hx
theorem Aq9(hm:PM b t.m)(hr:PR b t)(hb:Bud t):R (t.ap CS b x g) λy=>∃(t':Pk) (vs:List W),y=((),(t'.tup b x g,()))∧Dsp b x g t t' vs:=by
 have hcc:=Aj hw.code;unfold Pk.ap CS;refine D (Bgo hw hx hm hr) λy1 h1=>?_
 obtain⟨vs,rfl,hva⟩:=h1;have hxv:inX t.m.D2:=hm.exv;have hd:=ZB hw.small hw.code hm.jst.img hm.exl t.m.X3 x.press g hxv.exp (VA.ok hw hva) hva.len hm.lit;obtain⟨hrg,hrl⟩:=Amb hw.small hw.code hm.jst.img hm.exl hxv t.m.X3 x.press g hva.len;obtain⟨hl1,hl2⟩:=Ahf b t.m.G0 t.m.D2 vs t.m.X3 x.press g;rw[hva.len]at hl1 hl2;refine S hd ?_;have hR:MC b t.m.G0 t.m.D2 vs t.m.X3 x.press g=PV b x g t vs:=rfl;rw[hR]at hrg hrl hl1 hl2⊢;have fin:∀(t':Pk),(Al b t t' (PV b x g t vs).recs∨De b t t' (PV b x g t vs).recs)→_→_→_→_→Dsp b x g t t' vs:=λt' h1 h2 h3 h4 h5=>⟨hva,hrg,h1,h2,h3,h4,h5⟩
 generalize hrr:PV b x g t vs=r at hrg hrl hl1 hl2 fin;refine Sat.bindR ?_;refine D (Q:=λy=>∃t',y=(((),(),()),(r.tup,t'.tup b x g,()))∧Wr b t r.recs t') ?_ λy6 h6=>?_
 ·refine D (YA hw.small (x:=x) (g:=g) hm.jst hb.2 hb.1 hrg.good (ω:r.recs.length≤100000)) λy4 h4=>?_
  obtain⟨t',e | e,h⟩:=h4
  ·subst e;exact A ⟨t',rfl,h⟩
  ·subst e;exact A ⟨t',rfl,h⟩
 obtain⟨t1,rfl,hw1⟩:=h6;obtain⟨im,s,bu,e,rfl,hw1⟩:=hw1;refine D (Q:=λy=>∃n,y=(((),(),()),(r.tup,((t.wr im s bu e).sRnd r n (!isZ r.ref)).tup b x g,()))∧0≤n∧n≤1000000) (J (λq=>D (Ak9 hm.ref) λy7 h7=>A ⟨y7.1.1,rfl,h7⟩) λq=>A ⟨t.m.J2,rfl,hm.ref⟩) λy8 h8=>?_
 obtain⟨n,rfl,hn⟩:=h8;refine D (Awm r ω ((t.wr im s bu e).sRnd r n (!isZ r.ref))) λy9 h9=>?_
 subst h9;refine D (Awn r (t:=((t.wr im s bu e).sRnd r n (!isZ r.ref)).sServ (Pp r.recs (t.out.T3,t.out.F3))) (by show t.out.B0.length≤1000;rw[hr.oc];omega) (by show _=t.out.B0.length;rw[hr.oc];exact hl1) (by show _=t.out.B0.length;rw[hr.oc];exact hl2)) λy10 h10=>?_
 obtain⟨l,rfl,hl,hc⟩:=h10;replace hl:l.length=t.out.B0.length:=hl;replace hc:∀j,j<t.out.B0.length→Ak4 r j (t.out.B0.getD j Ba) (l.getD j Ba):=hc;rw[hr.oc]at hl hc;refine A ⟨_,vs,rfl,fin _ ?_ rfl hl hc rfl⟩;have hroom:=Al2 hw r.recs.length;rcases hw1 with⟨rfl,rfl,h1,h2,h3,h4⟩ | ⟨rfl,h1,h2,h3⟩
 ·rw[hrg.img]at h1
  refine .inl ⟨rfl,?_,⟨hr.leg,hr.sho,hr.rst,hl⟩,rfl,h3,h4,by show t.budget-_≤bu;omega⟩
  have:=hm.rnd hrg hl1 h1 hn
  rw[← hrg.img]at this;exact this
 ·exact .inr ⟨rfl,ω,h2,h3⟩
end
def Apr(p a d:Int)(k:Bool):Prop:=(a=0∧d=0∧k=C)∨(KK p=C∧k=B)
def UF(p c:Int):Bool:=c==0||(p==3||p==4)
def Ap2(p c:Int):JT p c=Y ((UF p c,()),()):=by
 unfold JT UF;cases c==0<;>cases p==3<;>rfl
def Ab6(p:Int):Ma p=Y ((KK p,()),()):=by
 unfold Ma KK;cases p==0<;>rfl
section
variable{b:P}(hw:BW b){x:Inp}{g:Bool}
include hw
theorem Bfm(hi:i<b.B0.length)(p:Int){s:Belief}(h:BelOK b i s):R (LZ b.C0 b.E0 b.H0 b.M0 b.J0 b.L0 b.N0 b.B0 (i:Int) p s.D0 s.I0 s.C3 s.U0 s.V2 s.L3) λy=>∃a d k,y=(((),()),((a,d,k,()),()))∧Apr p a d k:=by
 have hd:=h.dut.len hw.small;unfold LZ;refine S (Ab6 p) (J (λ_=>A ⟨0,0,C,rfl,.inl ⟨rfl,rfl,rfl⟩⟩) λq=>?_)
 have q:KK p=C:=by simpa using(show(!KK p)=B from q)
 refine S (Ih hw.small hw.code hi h) (Sat.bifF rfl ?_);refine D (Q:=λy=>∃a d,y=(((),(),()),((0,0,B,()),(a,d,B,()),()))) ?_ λy hy=>by obtain⟨a,d,rfl⟩:=hy;exact A ⟨a,d,B,rfl,.inr ⟨q,rfl⟩⟩
 unfold JW;refine aE (λ(k:Nat) z=>∃(j:Nat) (c:Int×Int),z=(((i:Int),(),(),(),s.U0,(s.U0.length:Int),(j:Int),()),((b.C0,b.E0,b.H0,b.M0,b.J0,b.L0,b.N0,b.B0,()),(0,0,B,()),(c.1,c.2,B,()),()))∧j+k=s.U0.length) (λk z hz=>?_) s.U0.length ⟨0,(0,0),rfl,q_ _⟩ ω
 obtain⟨j,c,rfl,hk⟩:=hz;show R (NH (i:Int) s.U0 (s.U0.length:Int) (j:Int) b.C0 b.E0 b.H0 b.M0 b.J0 b.L0 b.N0 b.B0 0 0 B c.1 c.2 B) _;unfold NH;refine J (λq=>?_) λ_=>A ⟨_,_,rfl⟩
 have q:(j:Int)<(s.U0.length:Int):=m_ q;have w:=Dg (n:=j) ω
 refine H (Aa ω q) (H (Aa ω ω) (J (λ_=>S (JB _ _) (S (Gh c (JE _ _)) ?_)) λ_=>?_))
 ·exact A ⟨k-1,ω,j+1,_,by first | (rw[← w];rfl) | rw[← w],ω⟩
 ·exact A ⟨k-1,ω,j+1,c,by first | (rw[← w];rfl) | rw[← w],ω⟩
end
def o1(c:I)(a d:Int)(k:Bool):I:=aB a d k c.B2 c.M1 c.A5 c.D3 c.V3 c.O5
def o2(c:I)(p:Int):I:=aB c.Q1 c.H1 c.I2 c.B2 c.M1 c.A5 c.D3 p c.O5
def o3(c:I)(f:Bool):I:=aB c.Q1 c.H1 c.I2 c.B2 c.M1 c.A5 c.D3 c.V3 f
def o4(c:I):I:=aB c.Q1 c.H1 c.I2 c.B2 c.M1 c.A5 0 c.V3 c.O5
def Az7(l:List I)(i:Nat)(a d:Int)(k:Bool):List I:=l.set i (o1 (l.getD i Ba) a d k)
def Az8(l:List I)(i:Nat)(a d:Int)(k:Bool)(p:Int):List I:=(Az7 l i a d k).set i (o2 ((Az7 l i a d k).getD i Ba) p)
def Aeg(l:List I)(i:Nat)(a d:Int)(k:Bool)(p:Int)(f:Bool):List I:=(Az8 l i a d k p).set i (o3 ((Az8 l i a d k p).getD i Ba) f)
def Ail(l:List I)(i:Nat)(a d:Int)(k:Bool)(p:Int)(f:Bool):List I:=(Aeg l i a d k p f).set i (o4 ((Aeg l i a d k p f).getD i Ba))
def Aov(hi:i<l.length)(a d:Int)(k:Bool)(p:Int)(f:Bool):Aeg l i a d k p f=l.set i (o3 (o2 (o1 (l.getD i Ba) a d k) p) f):=by
 unfold Aeg Az8 Az7;simp only[Bi _ _ hi,aH]
def Az6(hi:i<l.length)(a d:Int)(k:Bool)(p:Int)(f:Bool):Ail l i a d k p f=l.set i (o4 (o3 (o2 (o1 (l.getD i Ba) a d k) p) f)):=by
 unfold Ail;rw[Aov hi,Bi _ _ hi,aH]
structure FinO(m:Img)(i:Nat)(c d:CarOutput):Prop where
 lu:d.B2=c.B2
 ld:d.M1=c.M1
 gong:d.A5=c.A5
 phase:d.V3=phA m i
 flag:d.O5=flA m i
 coils:Apr (phA m i) d.Q1 d.H1 d.I2
 cmd:UF (phA m i) d.D3=true
structure Fin(b:Bldg)(g:Bool)(t t':Pk):Prop where
 m:PM b t'.m
 im:t'.m.G0=t.m.G0
 st:t'.m.Z0=t.m.Z0
 bu:t'.budget=t.budget
 e:t'.e=t.e
 out:t'.out={ t.out with T5:=(ofC t.m.G0.A0 (0,0)).1,S5:=(ofC t.m.G0.A0 (0,0)).2,V5:=!g,B0:=t'.out.B0 }
 oc:t'.out.B0.length=b.B0.length
 cars:∀i,i<b.B0.length→FinO t.m.G0 i (t.out.B0.getD i Ba) (t'.out.B0.getD i Ba)
def Pk.sLmp(t:Pk)(c:Int×Int)(f:Bool):Pk:={ t with out:={ t.out with T5:=c.1,S5:=c.2,V5:=f } }
section
variable{b:P}(hw:BW b){x:Inp}{g:Bool}
include hw
set_option maxHeartbeats 4000000 in
theorem Az9(hm:PM b t.m)(hr:PR b t):R (Ci (((),t.m.G0.F0,(t.m.G0.F0.length:Int),(0:Int),()),(t.tup b x g,()))) λy=>∃t',y=((),(t'.tup b x g,()))∧PM b t'.m∧Fix t t'∧t'.out.B0.length=b.B0.length∧∀i,i<b.B0.length→FinO t.m.G0 i (t.out.B0.getD i Ba) (t'.out.B0.getD i Ba):=by
 have hcc:=Aj hw.code;have hp:=hm.jst.img.lp;unfold Ci;refine aE (λ(k:Nat) z=>∃(i:Nat) (t':Pk),z=(((),t.m.G0.F0,(t.m.G0.F0.length:Int),(i:Int),()),(t'.tup b x g,()))∧i+k=b.B0.length∧PM b t'.m∧PR b t'∧Fix t t'∧(∀j,j<i→FinO t.m.G0 j (t.out.B0.getD j Ba) (t'.out.B0.getD j Ba))∧∀j,i≤j→t'.out.B0.getD j Ba=t.out.B0.getD j Ba) (λk z hz=>?_) b.B0.length ⟨0,t,rfl,q_ _,hm,hr,.rfl' t,λj hj=>absurd hj (g0_ j),λj _=>rfl⟩ ω
 obtain⟨i,u,rfl,hk,hmu,hru,hf,h1,h2⟩:=hz;show R (u.ap (EI t.m.G0.F0 (t.m.G0.F0.length:Int) (i:Int)) b x g) _;unfold Pk.ap EI;refine J (λq=>?_) λq=>A ⟨u,rfl,hmu,hf,hru.oc,λj hj=>h1 j (by have:=C_ q;omega)⟩
 have q:(i:Int)<(t.m.G0.F0.length:Int):=m_ q;have hi:i<b.B0.length:=ω
 have w:=Dg (n:=i) ω
 have ifl:O (i:Int) u.m.G0.O0.length=C:=Aa ω (by rw[hmu.jst.img.lf];omega)
 refine H (Aa ω q) ?_
 refine D (Q:=λy=>∃v:Pk,y=(((),(i:Int),V t.m.G0 i,t.m.G0.F0,(t.m.G0.F0.length:Int),(i:Int),()),(v.tup b x g,()))∧PM b v.m∧PR b v∧Fix t v∧v.out=u.out) ?_ λy5 h5=>?_
 ·refine D (Q:=λy=>∃c:Bool,y=(((),(i:Int),V t.m.G0 i,t.m.G0.F0,(t.m.G0.F0.length:Int),(i:Int),c,()),(u.tup b x g,()))) (S (Wn _) (J (λ_=>H ifl (A ⟨_,rfl⟩)) λ_=>A ⟨_,rfl⟩)) λy2 h2=>?_
  obtain⟨c,rfl⟩:=h2;have i2:O (i:Int) u.m.W0.length=C:=Aa ω (by rw[hmu.bel];omega)
  refine J (λ_=>H i2 ?_) λ_=>A ⟨u,rfl,hmu,hru,hf,rfl⟩
  refine D (Akn hw hmu.jst.img (i:Int)) λy3 _=>D (Aa5 hw.small hw.code hi (hmu.belv i hi) _ _) λy4 h4=>H i2 ?_
  obtain⟨ya,yb,yc⟩:=y4;obtain⟨v,e4,hv⟩:=h4;change yb=_ at e4;subst e4;exact A ⟨u.sBel i v,rfl,hmu.sBel hv,hru.sBel i v,⟨hf.im,hf.st,hf.bu,hf.e,hf.out⟩,rfl⟩
 obtain⟨v,rfl,hmv,hrv,hfv,hov⟩:=h5;have j2:O (i:Int) v.m.W0.length=C:=Aa ω (by rw[hmv.bel];omega)
 have jo:O (i:Int) v.out.B0.length=C:=Aa ω (by rw[hrv.oc];omega)
 have jf:O (i:Int) v.m.G0.O0.length=C:=Aa ω (by rw[hmv.jst.img.lf];omega)
 have jr:O (i:Int) v.reset.length=C:=Aa ω (by rw[hrv.rst];omega)
 have hio:i<v.out.B0.length:=by rw[hrv.oc];exact hi
 refine H jo (H j2 (D (Bfm hw hi _ (hmv.belv i hi)) λy6 h6=>H jf (H jr ?_)))
 obtain⟨a,d,kc,rfl,hcoil⟩:=h6;have hprev:v.out.B0.getD i Ba=t.out.B0.getD i Ba:=by rw[hov];exact h2 i (w_ i)
 have hflag:N v.m.G0 i=N t.m.G0 i:=by rw[hfv.im]
 have e9:=Aov hio a d kc (V t.m.G0 i) (N v.m.G0 i);have e10:=Az6 hio a d kc (V t.m.G0 i) (N v.m.G0 i)
 have done:∀c:I,FinO t.m.G0 i (t.out.B0.getD i Ba) c→PM b (v.sOuts (v.out.B0.set i c)).m∧PR b (v.sOuts (v.out.B0.set i c))∧Fix t (v.sOuts (v.out.B0.set i c))∧(∀j,j<i+1→FinO t.m.G0 j (t.out.B0.getD j Ba) ((v.sOuts (v.out.B0.set i c)).out.B0.getD j Ba))∧∀j,i+1≤j→(v.sOuts (v.out.B0.set i c)).out.B0.getD j Ba=t.out.B0.getD j Ba:=λc hc=>by
  refine⟨hmv,⟨hrv.leg,hrv.sho,hrv.rst,by show(v.out.B0.set i c).length=_;rw[r_];exact hrv.oc⟩,⟨hfv.im,hfv.st,hfv.bu,hfv.e,by show({ v.out with B0:=_ }:Outputs)=_;rw[hfv.out];rfl⟩,λj hj=>?_,λj hj=>?_⟩
  ·show FinO t.m.G0 j (t.out.B0.getD j Ba) ((v.out.B0.set i c).getD j Ba)
   by_cases e:i=j
   ·subst e;rw[Bi _ _ hio];exact hc
   ·rw[CB _ _ e,hov];exact h1 j ω
  ·show(v.out.B0.set i c).getD j Ba=_
   rw[CB _ _ ω,hov];exact h2 j ω
 refine J (λ_=>?_) λ_=>S (Ap2 _ _) (J (λq7=>?_) λq7=>?_)
 ·obtain⟨d1,d2,d3,d4,d5⟩:=done (o4 (o3 (o2 (o1 (v.out.B0.getD i Ba) a d kc) (V t.m.G0 i)) (N v.m.G0 i))) ⟨by rw[← hprev];rfl,by rw[← hprev];rfl,by rw[← hprev];rfl,rfl,hflag,hcoil,rfl⟩
  refine A ⟨k-1,ω,i+1,v.sOuts (Ail v.out.B0 i a d kc (V t.m.G0 i) (N v.m.G0 i)),by first | (rw[← w];rfl) | rw[← w],ω,?_⟩
  rw[e10];exact⟨d1,d2,d3,d4,d5⟩
 ·obtain⟨d1,d2,d3,d4,d5⟩:=done (o4 (o3 (o2 (o1 (v.out.B0.getD i Ba) a d kc) (V t.m.G0 i)) (N v.m.G0 i))) ⟨by rw[← hprev];rfl,by rw[← hprev];rfl,by rw[← hprev];rfl,rfl,hflag,hcoil,rfl⟩
  refine A ⟨k-1,ω,i+1,v.sOuts (Ail v.out.B0 i a d kc (V t.m.G0 i) (N v.m.G0 i)),by first | (rw[← w];rfl) | rw[← w],ω,?_⟩
  rw[e10];exact⟨d1,d2,d3,d4,d5⟩
 ·have q7:(!UF (V t.m.G0 i) ((Aeg v.out.B0 i a d kc (V t.m.G0 i) (N v.m.G0 i)).getD i Ba).D3)=B:=q7
  rw[e9,Bi _ _ hio]at q7;obtain⟨d1,d2,d3,d4,d5⟩:=done (o3 (o2 (o1 (v.out.B0.getD i Ba) a d kc) (V t.m.G0 i)) (N v.m.G0 i)) ⟨by rw[← hprev];rfl,by rw[← hprev];rfl,by rw[← hprev];rfl,rfl,hflag,hcoil,by simpa using q7⟩
  refine A ⟨k-1,ω,i+1,v.sOuts (Aeg v.out.B0 i a d kc (V t.m.G0 i) (N v.m.G0 i)),by first | (rw[← w];rfl) | rw[← w],ω,?_⟩
  rw[e9];exact⟨d1,d2,d3,d4,d5⟩
theorem Bab(hm:PM b t.m)(hr:PR b t):R (t.ap Dq b x g) λy=>∃t',y=((),(t'.tup b x g,()))∧Fin b g t t':=by
 have he:=EC hw.small hm.jst.img
 have hlm:GE t.m.G0.F0 t.m.G0.O0 t.m.G0.K0 t.m.G0.A0=Y (((),()),(((ofC t.m.G0.A0 (0,0)).1,(ofC t.m.G0.A0 (0,0)).2,()),())):=by
  unfold GE;exact Ae (YV ω) rfl
 unfold Pk.ap Dq;refine S hlm ?_;refine D (Az9 hw (x:=x) (g:=g) (t:=t.sLmp (ofC t.m.G0.A0 (0,0)) (!g)) hm ⟨hr.leg,hr.sho,hr.rst,hr.oc⟩) λy2 h2=>?_
 obtain⟨t',rfl,h1,h2,h3,h4⟩:=h2;exact A ⟨t',rfl,h1,h2.im,h2.st,h2.bu,h2.e,by rw[h2.out];rfl,h3,h4⟩
end
def RunR(b:P)(x:Inp)(g:Bool)(t t':Pk):Prop:=∃(t1 t2:Pk) (l1:List aA),PM b t1.m∧PR b t1∧Fix t t1∧(∀r∈l1,VJ b r)∧l1.length≤8∧t2.out={ t1.out with B0:=t2.out.B0 }∧
 ((De b t1 t2 l1∧t'=t2)∨(Al b t1 t2 l1∧∃(t3:Pk) (l2:List aA),((g=B∧t3=t2∧l2=[])∨(g=C∧Opr b x t2 t3 l2))∧
  ((De b t2 t3 l2∧t'=t3)∨(Al b t2 t3 l2∧∃(t4:Pk) (vs:List W),Dsp b x g t3 t4 vs∧
   ((t4.e=8∧t'=t4)∨(t4.e=0∧Fin b g t4 t'))))))
section
variable{b:P}(hw:BW b){x:Inp}{g:Bool}(hx:g=C→InOK b x)
include hw hx
theorem Bqq(hm:PM b t.m)(hr:PR b t)(hb:Bud t):R (t.ap Eo b x g) λy=>∃t',(y=.inl ((),(t'.tup b x g,()))∨y=.inr ((),(t'.tup b x g,())))∧RunR b x g t t':=by
 unfold Pk.ap Eo;refine D (Q:=λy=>∃t1,y=(((),(),(),(),()),(((),(),(),(),(),()),t1.tup b x g,()))∧PM b t1.m∧PR b t1∧Fix t t1) ?_ λy3 h3=>?_
 ·refine D (Bn4 hw hx hm hr) λy1 h1=>?_
  obtain⟨t1,e | e,h⟩:=h1
  ·subst e;exact A ⟨t1,rfl,h⟩
  ·subst e;exact A ⟨t1,rfl,h⟩
 obtain⟨t1,rfl,m1,r1,f1⟩:=h3;have b1:Bud t1:=⟨f1.e.trans hb.1,by rw[f1.bu];exact hb.2⟩
 refine Sat.bifF (show(t1.e !=0)=B by rw[b1.1];rfl) ?_
 refine D (Bjh hw hx m1 r1 b1) λy4 h4=>?_
 obtain⟨t2,l1,rfl,hl1,hn1,res2,o2⟩:=h4
 have e8:∀{u v:Pk}{l:List aA},(Al b u v l∨De b u v l)→(v.e !=0)=C→De b u v l:=λh q=>by
  rcases h with h | h
  ·rw[h.e]at q;cases q
  ·exact h
 have e0:∀{u v:Pk}{l:List aA},(Al b u v l∨De b u v l)→(v.e !=0)=B→Al b u v l:=λh q=>by
  rcases h with h | h
  ·exact h
  ·rw[h.e]at q;cases q
 refine J (λq=>A ⟨t2,.inl rfl,t1,t2,l1,m1,r1,f1,hl1,hn1,o2,.inl ⟨e8 res2 q,rfl⟩⟩) λq=>?_
 have a2:=e0 res2 q;have b2:=a2.bud b1;refine D (Q:=λy=>∃(t3:Pk) (l2:List aA),y=((),(t3.tup b x g,()))∧((g=B∧t3=t2∧l2=[])∨(g=C∧Opr b x t2 t3 l2))∧(Al b t2 t3 l2∨De b t2 t3 l2)) ?_ λy5 h5=>?_
 ·show R (t2.ap Cp b x g) _
  unfold Pk.ap Cp;refine J (λhg=>?_) λhg=>A ⟨t2,[],rfl,.inl ⟨hg,rfl,rfl⟩,.inl ⟨a2.e,a2.m,a2.r,rfl,a2.b0,d5_ _,by simp⟩⟩
  refine D (Q:=λy=>∃(t3:Pk) (l2:List aA),y=((),(t3.tup b x g,()))∧Opr b x t2 t3 l2) ?_ λy3 h3=>by obtain⟨t3,l2,rfl,h⟩:=h3;exact A ⟨t3,l2,rfl,.inr ⟨hg,h⟩,h.res⟩
  refine D (Axo hw (hx hg) (g:=g) a2.m a2.r b2) λy1 h1=>?_
  obtain⟨t3,l2,e | e,h⟩:=h1
  ·subst e;exact A ⟨t3,l2,rfl,h⟩
  ·subst e;exact A ⟨t3,l2,rfl,h⟩
 obtain⟨t3,l2,rfl,hop,res3⟩:=h5;refine J (λq=>A ⟨t3,.inl rfl,t1,t2,l1,m1,r1,f1,hl1,hn1,o2,.inr ⟨a2,t3,l2,hop,.inl ⟨e8 res3 q,rfl⟩⟩⟩) λq=>?_
 have a3:=e0 res3 q;have b3:=a3.bud b2;refine D (Aq9 hw hx a3.m a3.r b3) λy6 h6=>?_
 obtain⟨t4,vs,rfl,hd⟩:=h6;refine J (λq=>A ⟨t4,.inl rfl,t1,t2,l1,m1,r1,f1,hl1,hn1,o2,.inr ⟨a2,t3,l2,hop,.inr ⟨a3,t4,vs,hd,.inl ⟨(e8 hd.res q).e,rfl⟩⟩⟩⟩) λq=>?_
 have a4:=e0 hd.res q;refine D (Bab hw (x:=x) (g:=g) a4.m a4.r) λy7 h7=>?_
 obtain⟨t5,rfl,hf⟩:=h7;have he:(t5.e !=0)=B:=by rw[hf.e,a4.e];rfl
 exact Sat.bifF he (A ⟨t5,.inr rfl,t1,t2,l1,m1,r1,f1,hl1,hn1,o2,.inr ⟨a2,t3,l2,hop,.inr ⟨a3,t4,vs,hd,.inr ⟨a4.e,hf⟩⟩⟩⟩)
end
def RunR.cases(hw:BW b){x:Inp}{g:Bool}{t':Pk}(h:RunR b x g t t')(hb:Bud t):(t'.e=0∧PM b t'.m∧t'.out.B0.length=b.B0.length∧0≤t'.budget)∨(t'.e=8∧t.budget<300000):=by
 obtain⟨t1,t2,l1,m1,r1,f1,hl1,hn1,o2,⟨d,rfl⟩ | ⟨a2,t3,l2,hop,h⟩⟩:=h
 ·have:=d.lo
  rw[f1.bu]at this;exact .inr ⟨d.e,ω⟩
 have hn2:l2.length≤100:=by
  rcases hop with⟨_,_,rfl⟩ | ⟨_,h⟩
  ·exact a3_ _
  ·obtain⟨i,cm,fr,_,hi,_,rfl,_⟩:=h.how
   have h1:=(Acn (b:=b) t2.m.G0 x.kind hi (cm.getD i B) fr).2;have h2:=Tr (Ap t2.m.G0 (MJ t2.m.G0 x.kind i (cm.getD i B) fr).1) (bif x.kind !=0 then cm.set i B else cm) b.B0.length
   have:=Aj m1.jst.img.code
   unfold JF;rw[h_];omega
 have k2:=a2.b2;rw[f1.bu]at k2;rcases h with⟨d,rfl⟩ | ⟨a3,t4,vs,hd,h⟩
 ·have:=d.lo
  exact .inr ⟨d.e,ω⟩
 have k3:=a3.b2;have hn3:(PV b x g t3 vs).recs.length≤300:=(Amb hw.small hw.code a3.m.jst.img a3.m.exl a3.m.exv t3.m.X3 x.press g hd.va.len).2;rcases h with⟨h8,rfl⟩ | ⟨h0,hf⟩
 ·rcases hd.res with a | d
  ·rw[a.e]at h8;cases h8
  ·have:=d.lo
   exact .inr ⟨h8,ω⟩
 ·rcases hd.res with a | d
  ·exact .inl ⟨hf.e.trans h0,hf.m,hf.oc,by rw[hf.bu];exact a.b0⟩
  ·rw[d.e]at h0;cases h0
end Go.Ovl
namespace Go.Ovl
open Go Go.Ab
variable{half:Int}{s:Sto}{d:ByteArray}
def ND(room:Int)(h0 h1:ByteArray)(sel:Int):GR room h0 h1 sel=Y ((decide (Sto.ok room ⟨h0,h1,sel⟩),()),()):=by
 unfold GR Sto.ok;by_cases a:1≤room
 ·by_cases b:room≤65536
  ·by_cases c:(h0.size:Int)≤room
   ·by_cases d:(h1.size:Int)≤room
    ·by_cases e:sel=0
     ·simp[a,b,c,d,e]
     ·by_cases f:sel=1<;>simp[a,b,c,d,e,f,Aq]
    ·simp[a,b,c,d]
   ·simp[a,b,c]
  ·simp[a,b]
 ·simp[a]
def Pt(room:Int)(h0 h1:ByteArray)(sel half bud:Int):KN room h0 h1 sel half bud=Y ((Sto.chk room ⟨h0,h1,sel⟩ half bud,()),()):=by
 unfold KN Sto.chk;rw[ND];by_cases a:Sto.ok room ⟨h0,h1,sel⟩
 ·by_cases b:half=0
  ·by_cases c:bud<0<;>simp[a,b,c]
  ·by_cases d:half=1
   ·by_cases c:bud<0<;>simp[a,c,d]
   ·simp[a,b,d,ES]
 ·simp[a]
def Ax1(room:Int)(h0 h1:ByteArray)(sel half bud:Int)(hb:bud<9223372036854775808):Qj room h0 h1 sel half bud=Y (Z (Sto.erase room ⟨h0,h1,sel⟩ half bud)):=by
 unfold Qj Sto.erase Sto.act;rw[Pt];generalize hc:Sto.chk room ⟨h0,h1,sel⟩ half bud=c;by_cases h:c=0
 ·subst h
  obtain⟨_,hh,hb0⟩:=PJ hc;by_cases h2:bud=0
  ·simp[h2,Z]
  ·have hin:O half 2=C:=Aa ω ω
   rw[Ac (n:=bud-1) ω ω]
   have e:(bud==0)=B:=by simpa using h2
   rcases hh with rfl | rfl<;>simp[hin,e,h2,Z,Sto.set,noB]<;>rfl
 ·simp[h,Z,Sto.no,noB,ES]
def Asg(room:Int)(h0 h1:ByteArray)(sel half bud:Int)(hb:bud<9223372036854775808):On room h0 h1 sel half bud=Y (Z (Sto.choose room ⟨h0,h1,sel⟩ half bud)):=by
 unfold On Sto.choose Sto.act;rw[Pt];generalize hc:Sto.chk room ⟨h0,h1,sel⟩ half bud=c;by_cases h:c=0
 ·subst h
  obtain⟨_,hh,hb0⟩:=PJ hc;by_cases h2:bud=0
  ·simp[h2,Z]
  ·rw[Ac (n:=bud-1) ω ω]
   have e:(bud==0)=B:=by simpa using h2
   simp[e,h2,Z]
 ·simp[h,Z,Sto.no,noB,ES]
def Zj(h0 h1:ByteArray)(sel:Int):Nc h0 h1 sel=Y ((Sto.cur ⟨h0,h1,sel⟩,()),()):=by
 unfold Nc Sto.cur;by_cases h:sel=1<;>simp[h,Aq]
def Aox(hh:half=0∨half=1)(x:ByteArray):(s.set half x).get half=x:=by rcases hh with rfl | rfl<;>rfl
def set_set(hh:half=0∨half=1)(x y:ByteArray):(s.set half x).set half y=s.set half y:=by rcases hh with rfl | rfl<;>rfl
def Apm(hh:half=0∨half=1):s.set half (s.get half)=s:=by rcases hh with rfl | rfl<;>rfl
def Agb(hh:half=0∨half=1):List.getD [s.h0,s.h1] half.toNat (ByteArray.mk (Array.mk []))=s.get half:=by rcases hh with rfl | rfl<;>rfl
def Axs(hh:half=0∨half=1)(x:ByteArray):((bif Nat.beq half.toNat 0 then x else s.h0),((bif Nat.beq half.toNat 1 then x else s.h1),(s.sel,())))=(s.set half x).tup:=by
 rcases hh with rfl | rfl<;>rfl
def Ah4{bud i:Int}{t:Sto}(h:(d.size:Int)≤i):
  CZ half d bud i s.h0 s.h1 s.sel t.h0 t.h1 t.sel=Y (.inr (.inl ((bud,((),((),()))),(s.tup,(t.tup,()))))):=by
 unfold CZ;have e:decide (i<(d.size:Int))=B:=by simp;omega
 rw[e];rfl
def Ae6{i:Int}{t:Sto}(h:i<(d.size:Int)):
  CZ half d 0 i s.h0 s.h1 s.sel t.h0 t.h1 t.sel=Y (.inr (.inr (((),(0,(8,()))),(s.tup,())))):=by
 unfold CZ;have e:decide (i<(d.size:Int))=C:=by simpa using h
 rw[e];rfl
def Alr(hh:half=0∨half=1){bud:Int}{i:Nat}{t:Sto}(h:i<d.size)(hd:d.size<1000000)(hb:0<bud)(hb':bud<9223372036854775808)(hs:(s.get half).size<1000000):
  CZ half d bud i s.h0 s.h1 s.sel t.h0 t.h1 t.sel=
   Y (.inl ((half,(d,(bud-1,((),((),(((i+1:Nat):Int),())))))),((s.set half (s.get half++d.extract i (i+1))).tup,(t.tup,())))):=by
 unfold CZ;have e:decide ((i:Int)<(d.size:Int))=C:=by simp;omega
 have e1:(bud==0)=B:=Aq ω
 have e2:O half 2=C:=Aa ω ω
 have w:IntKind.i64.wrap ((i:Int)+1)=((i+1:Nat):Int):=by rw[Ac ω ω];omega
 have w2:IntKind.i64.wrap (bud-1)=bud-1:=Ac ω ω
 have e3:(decide ((0:Int)≤((i+1:Nat):Int))&&decide (((i+1:Nat):Int)≤(d.size:Int)))=C:=by simp;omega
 have e4:(decide ((0:Int)≤(i:Int))&&decide ((i:Int)≤((aC ((i+1:Nat):Int):Nat):Int)))=C:=by simp;omega
 have e5:aC ((i+1:Nat):Int)=i+1:=ω
 have e6:aC (i:Int)=i:=ω
 simp only[e,e1,e2,w,w2,e3,e4,d_,c_,Agb hh];simp only[e5,e6];have e7:Nat.ble ((s.get half).size+(d.extract i (i+1)).size) 4611686018427387904=C:=Ax (by simp;omega)
 rw[e7,d_,Axs hh];rfl
def Alq{half:Int}(hh:half=0∨half=1){d:ByteArray}{t:Sto}(hd:d.size≤65536):∀(n i:Nat) (bud:Int) (s:Sto),d.size-i=n→i≤d.size→0≤bud→bud<9223372036854775808→(s.get half).size+(d.size-i)≤65536→
  BN (λx=>CZ x.1.1 x.1.2.1 x.1.2.2.1 x.1.2.2.2.2.2.1 x.2.1.1 x.2.1.2.1 x.2.1.2.2.1 x.2.2.1.1 x.2.2.1.2.1 x.2.2.1.2.2.1) (n+1)
    ((half,(d,(bud,((),((),((i:Int),())))))),(s.tup,(t.tup,())))=
   Y (if bud<(d.size:Int)-i then .inr (((),(0,(8,()))),((s.set half (s.get half++d.extract i (i+bud.toNat))).tup,()))
    else .inl ((bud-((d.size:Int)-i),((),((),()))),((s.set half (s.get half++d.extract i d.size)).tup,(t.tup,()))))
 |0,i,bud,s,hn,hi,hb,hb',hs=>by
  have:i=d.size:=ω
  subst this;refine Ay (y:=_) ?_;rw[if_neg ω,Af3,Aa2,Apm hh]
  show CZ half d bud (d.size:Int) s.h0 s.h1 s.sel t.h0 t.h1 t.sel=_;rw[Ah4 (d5_ _)];simp
 |n+1,i,bud,s,hn,hi,hb,hb',hs=>by
  by_cases h0:bud=0
  ·subst h0
   refine Ay (y:=_) ?_;rw[if_pos ω]
   show CZ half d 0 (i:Int) s.h0 s.h1 s.sel t.h0 t.h1 t.sel=_;rw[Ae6 ω]
   simp only[Int.toNat_zero,c0_,Af3,Aa2,Apm hh]
  ·rw[Bs (show CZ half d bud (i:Int) s.h0 s.h1 s.sel t.h0 t.h1 t.sel=_ from Alr hh ω ω ω hb' ω),
    Alq hh hd n (i+1) (bud-1) _ ω ω ω ω (by rw[Aox hh];simp;omega)]
   rw[Aox hh,set_set hh,set_set hh,ByteArray.append_assoc,ByteArray.append_assoc];by_cases h1:bud<(d.size:Int)-i
   ·rw[if_pos h1,if_pos ω,Ake d ω ω,show i+1+(bud-1).toNat=i+bud.toNat by omega]
   ·rw[if_neg h1,if_neg ω,Ake d ω ω]
    congr 3
    have:bud-1-((d.size:Int)-((i+1:Nat):Int))=bud-((d.size:Int)-i):=ω
    rw[this]
def Adk(room:Int)(h0 h1:ByteArray)(sel half:Int)(d:ByteArray)(bud:Int)(hb:bud<9223372036854775808)(hd:d.size<1000000) :
  Qk room h0 h1 sel half d bud=Y (Z (Sto.write room ⟨h0,h1,sel⟩ half d bud)):=by
 unfold Qk Sto.write;rw[Pt];generalize hc:Sto.chk room ⟨h0,h1,sel⟩ half bud=c;by_cases h:c=0
 ·subst h
  obtain⟨⟨o1,o2,o3,o4,o5⟩,hh,hb0⟩:=PJ hc;simp only at o3 o4;have hin:O half 2=C:=Aa ω ω
  have hg:List.getD [h0,h1] half.toNat (ByteArray.mk (Array.mk []))=Sto.get ⟨h0,h1,sel⟩ half:=Agb (s:=⟨h0,h1,sel⟩) hh;have hgs:((Sto.get ⟨h0,h1,sel⟩ half).size:Int)≤room:=by rcases hh with rfl | rfl<;>simpa[Sto.get]
  simp only[a_,hin,d_,hg];rw[Ac (n:=((Sto.get ⟨h0,h1,sel⟩ half).size:Int)+d.size) ω ω]
  by_cases h2:room<((Sto.get ⟨h0,h1,sel⟩ half).size:Int)+d.size
  ·simp[h2,Z,Sto.no,noB]
  ·have hl:=Alq (t:=Sto.no) hh (d:=d) ω d.size 0 bud ⟨h0,h1,sel⟩ ω ω hb0 hb ω
   have hl':KB ((half,(d,(bud,((),((),((0:Int),())))))),((Sto.tup ⟨h0,h1,sel⟩),(Sto.no.tup,())))=_:=Ai hl ω
   have e:decide (room<((Sto.get ⟨h0,h1,sel⟩ half).size:Int)+d.size)=B:=by simpa using h2
   have z:((0:Int) !=0)=B:=rfl;simp only[z,c_,h2,e7_,ne_eq,not_true_eq_false];show(KB ((half,(d,(bud,((),((),((0:Int),())))))),((Sto.tup ⟨h0,h1,sel⟩),(Sto.no.tup,())))).bind _=_;rw[hl'];by_cases h3:bud<d.size
   ·rw[if_pos ω,if_pos h3]
    simp[Z,Sto.tup]
   ·rw[if_neg ω,if_neg h3]
    simp[Z,Sto.tup]
 ·simp[h,Z,Sto.no,noB,ES]
def Alt{b:P}(hb:b.small)(hc:b.B0.length≤100){rs:List aA}(hl:rs.length≤100000):Ql b.C0 b.E0 b.H0 b.M0 b.J0 b.L0 b.N0 b.B0 rs=Y ((txt (rs.flatMap λr=>bl (Ha b r)),()),()):=by
 have h:=AQ (step:=λx=>letI a:=x.2.1.2.2;letI c:=a.2.2;Ic x.1.1 x.1.2.2.1 x.1.2.2.2.1 x.2.1.1 x.2.1.2.1 a.1 a.2.1 c.1 c.2.1 c.2.2.1 c.2.2.2.1) rs.length (λi (l:List UInt8)=>((rs,(),txt l,(i:Int),()),(b.tup,()))) (λi l=>l++bl (Ha b (rs.getD i (aD 0 0 0 0 0)))) (λi l=>l.length≤6*i) (λl=>((txt l,()),())) (λi l hi hs=>by
  have he:=Af0 b (rs.getD i (aD 0 0 0 0 0));refine⟨?_,by rw[h_];omega⟩
  show Ic rs (txt l) (i:Int) b.C0 b.E0 b.H0 b.M0 b.J0 b.L0 b.N0 b.B0=_;unfold Ic;simp only[b_ (ω:(i:Int)<(rs.length:Int)),Aa (ω:(0:Int)≤(i:Int)) (ω:(i:Int)<(rs.length:Int)),d_,j_,Ah5 hb hc,a_,Dz hi (show rs.length≤AI by unfold AI;omega)]
  rw[Ax (show(txt l).size+(Ha b (rs.getD i (aD 0 0 0 0 0))).size≤4611686018427387904 by rw[Fu,← GA];omega)]
  rw[show txt l++Ha b (rs.getD i (aD 0 0 0 0 0))=txt (l++bl (Ha b (rs.getD i (aD 0 0 0 0 0))))by rw[← Afh,Bn9]]
  rfl) (λl _=>by
  show Ic rs (txt l) (rs.length:Int) b.C0 b.E0 b.H0 b.M0 b.J0 b.L0 b.N0 b.B0=_;unfold Ic;simp only[f_ (N_ (rs.length:Int)),c_]) rs.length 0 [] ω (by simp)
 have h':=Ai h.1 ω
 rw[Hh (λi=>bl (Ha b (rs.getD i (aD 0 0 0 0 0)))),Z_,Mx (λr=>bl (Ha b r)) (aD 0 0 0 0 0) rs 0 rs.length ω,R_]at h'
 unfold Ql;rw[show Np ((rs,(),ByteArray.mk (Array.mk []),(0:Int),()),((b.C0,b.E0,b.H0,b.M0,b.J0,b.L0,b.N0,b.B0,()),()))=_ from h']
 rfl
end Go.Ovl
