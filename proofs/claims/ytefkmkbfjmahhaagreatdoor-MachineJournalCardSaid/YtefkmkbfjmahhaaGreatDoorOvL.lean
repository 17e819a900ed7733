import Derived.Test.YtefkmkbfjmahhaaGreatDoorOvK
import Derived.Test.YtefkmkbfjmahhaaGreatDoorOvC
import Derived.Test.YtefkmkbfjmahhaaGreatDoorOvD
import Derived.Test.YtefkmkbfjmahhaaGreatDoorOvB
set_option linter.all false
open Bool renaming true->A,false->C
open Go.Ovl.Sat renaming ret->B,bifT->D,bindS->I,bindE->O,bic->R,loop->aD
open Go.Ovl renaming CarOutput->H,flA->J,Bldg->P,noV->S,phA->U,View->V
open Go.Ab renaming inB->N
open Option renaming some->W
open Go.Ovl.Sto renaming out->Y
open Go.Ovl.CarOutput renaming mk->aA
open Int renaming toNat->aB
open Go.Ovl.Record renaming mk->aC
open Go.Ovl.machine_ticker renaming mk->aE
open List renaming replicate->aF
namespace Go.Ovl
open Go Go.Ab
set_option maxRecDepth 100000
variable{l:List H}{b:P}{i:Nat}{t:Pk}{m:Img}
def inX(l:List Int):Prop:=∀x∈l,0≤x∧x≤1000000
def inX.exp{l:List Int}(h:inX l):Qa l=A:=M_.2 λx hx=>Ar.2 (h x hx)
def Bsa(E:List Entry){xs:List Int}(h:inX xs)(r:Record):inX (xsV E xs r):=by
 unfold xsV;cases(r.Q0==2)&&FI (Av r.E0 r.J0) E with
 |true=>
  intro x hx;rcases o_.1 hx with hx | hx
  ·exact h x (T_ hx)
  ·exact h x (d9_ hx)
 |false=>
  cases(r.Q0==1)&&!FI (Av r.E0 r.J0) E with
  |true=>
   intro x hx;rcases o_.1 hx with hx | hx
   ·rcases o_.1 hx with hx | hx
    ·exact h x (T_ hx)
    ·rw[C_.1 hx];decide
   ·exact h x (d9_ hx)
  |false=>exact h
def Be7(hcode:b.code=0)(i:Int):0≤(WC b i).H2∧(WC b i).H2≤10000:=by
 by_cases h:i.toNat<b.B0.length
 ·exact(Adi hcode h).2.2.2
 ·unfold WC;rw[k_,List.getElem?_eq_none ω];decide
def Beh(hcode:b.code=0)(vs:List V)(e n:Entry){x:Int}(hx:0≤x∧x≤1000000):0≤ZS b vs e n x∧ZS b vs e n x≤1000000:=by
 unfold ZS;have h1:=Bi4 b n.R0 (Ax vs n.R0) e.E0 e.J0;have h2:=Be7 hcode n.R0;rw[Aa (n:=x-1) ω ω,Aa (n:=Se b n.R0 (Ax vs n.R0) e.E0 e.J0+(WC b n.R0).H2) ω ω];cases n.R0 !=e.R0&&decide (0≤n.R0)with
 |true=>
  rw[d_];by_cases g:1000000<Se b n.R0 (Ax vs n.R0) e.E0 e.J0+(WC b n.R0).H2
  ·rw[c_ g,d_];decide
  ·rw[f_ g,b_];omega
 |false=>
  rw[b_];by_cases g:x-1<0
  ·rw[c_ g,d_];decide
  ·rw[f_ g,b_];omega
def An0{b:P}(hcode:b.code=0)(vs:List V):∀(l:List Entry) (xs:List Int),inX xs→inX (LZ b vs l xs)
 |[],_,_,_,h=>by simp[LZ]at h
 |_::_,[],_,_,h=>by simp[LZ]at h
 |e::t,x::xs,hx,y,h=>by
  rcases t_.1 h with rfl | h
  ·exact Beh hcode vs e _ (hx x (s_ ..))
  ·exact An0 hcode vs t xs (λz hz=>hx z (u_ _ hz)) y h
def Au0(a c:Entry):∀r∈Nf a c,r.Q0=3∨r.Q0=7:=by
 unfold Nf;intro r h;rcases o_.1 h with h | h
 ·cases q:(a.B1 !=c.B1||!(a.N1==c.N1))with
  |false=>rw[q]at h;cases h
  |true=>rw[q]at h;rw[C_.1 h];exact .inr rfl
 ·cases q:a.R0 !=c.R0 with
  |false=>rw[q]at h;cases h
  |true=>rw[q]at h;rw[C_.1 h];exact .inl rfl
def Qj(b:P)(vs:List V):∀(l:List Entry) (xs:List Int),∀r∈Gy b vs l xs,r.Q0=3∨r.Q0=7
 |[],_,_,h=>by simp[Gy]at h
 |_::_,[],_,h=>by simp[Gy]at h
 |e::t,x::xs,r,h=>by
  rcases o_.1 h with h | h
  ·exact Au0 _ _ r h
  ·exact Qj b vs t xs r h
structure Rg(b:Bldg)(m:Img)(X:Rnd):Prop where
 good:goodL b m X.recs
 img:Ag m X.recs=X.img
 ok:X.ok b
 xs:inX X.xs
def Rg.step{X:Rnd}(h:Rg b m X){r:Record}(hv:As b r=A)(hf:IV b X.img r=C):Rg b m (Vl r X):=⟨h.good.app (k:=[r]) ⟨hv,by rw[h.img];exact hf,trivial⟩,by show Ag m (X.recs++[r])=Ak X.img r;rw[Bp,h.img];rfl,XD h.ok hv,Bsa _ h.xs r⟩
def Rg.wr{b:P}{m:Img}:∀{l:List Record}{X:Rnd},Rg b m X→goodL b X.img l→Rg b m (wrL l X)
 |[],X,h,_=>by unfold wrL;rw[a0_];exact⟨h.good,h.img,⟨h.ok.img,h.ok.len⟩,h.xs⟩
 |r::t,X,h,⟨h1,h2,h3⟩=>by rw[XH];exact Rg.wr (h.step h1 h2) h3
def Rg.reg{b:P}{m:Img}:∀{l:List Entry}{X:Rnd},Rg b m X→(∀e∈l,Ao b e.E0 e.J0=A)→Rg b m (Ji b l X)
 |[],_,h,_=>h
 |e::t,X,h,hv=>by
  refine Rg.reg (l:=t) (X:=FP b e X) ?_ λx hx=>hv x (u_ _ hx);unfold FP;cases hr:Oc b X.img with
  |true=>exact h.step (Zi (hv e (s_ ..))) (by unfold IV;rw[hr];simp)
  |false=>exact⟨h.good,h.img,⟨h.ok.img,h.ok.len⟩,h.xs⟩
section
variable{b:P}(hb:b.small)(hcode:b.code=0){m:Img}(hm:ImgOK b m){xs:List Int}(hx:xs.length=m.A0.length)(hxv:inX xs){vs:List V}(ps:List Calls)(press:Int×Int)(good:Bool)
include hb hcode hm hx hxv
theorem Aot:Rg b m (Dg b m xs vs ps press good):=by
 have h0:∀L:Lan,Rg b m ⟨[],m,xs,L,(0,0)⟩:=λL=>⟨trivial,rfl,⟨hm,hx⟩,hxv⟩
 unfold Dg;cases good with
 |false=>exact h0 _
 |true=>have hv:=RA hcode vs (l:=m.A0) λe he=>(DL.1 (hm.en e he)).1;exact((h0 _).wr (Xe m λr hr=>⟨(hv r hr).1,by rw[(hv r hr).2];decide⟩)).reg λe he=>Xb hb hcode he
variable(hvl:vs.length=b.B0.length)
include hvl
theorem XF:ZY b m xs vs ps press good=(Gy b vs (Dg b m xs vs ps press good).img.A0 (Dg b m xs vs ps press good).xs,LZ b vs (Dg b m xs vs ps press good).img.A0 (Dg b m xs vs ps press good).xs,0,()):=by have h:=Aot hb hcode hm hx hxv (vs:=vs) ps press good;unfold ZY Oa;rw[Img.ok_iff.2 h.ok.img,show(((Dg b m xs vs ps press good).xs.length:Int)==((Dg b m xs vs ps press good).img.A0.length:Int))=A by rw[h.ok.len];exact l_ _,show((vs.length:Int)==(b.B0.length:Int))=A by rw[hvl];exact l_ _,h.xs.exp];rfl
theorem Acu:Rg b m (Og b m xs vs ps press good)∧(Og b m xs vs ps press good).recs.length≤300:=by
 have hcc:=An hcode;have h:=Aot hb hcode hm hx hxv (vs:=vs) ps press good;have hlen:=(Aos hb hcode hm hx (vs:=vs) ps press good).2;have hp:=XF hb hcode hm hx hxv (vs:=vs) ps press good hvl;have he:=CL hb h.ok.img;unfold Og;rw[hp];generalize Dg b m xs vs ps press good=X at h hlen he;obtain⟨p1,p2,p3⟩:=Xu (b:=b) ω (by omega:(vs.length:Int)=(b.B0.length:Int)) X.img.A0 X.xs [] X.img h.ok.len h.ok.img rfl;rw[W_]at p1 p3;have hk:=Qj b vs X.img.A0 X.xs;have hw:=h.wr (l:=Gy b vs X.img.A0 X.xs) (Xe X.img λr hr=>⟨p2 r hr,by have:=hk r hr;omega⟩);have hl:=Zb b vs X.img.A0 X.xs;refine⟨⟨hw.good,hw.img,⟨hw.ok.img,?_⟩,An0 hcode vs _ _ h.xs⟩,?_⟩
 ·show(LZ b vs X.img.A0 X.xs).length=(Ag X.img (Gy b vs X.img.A0 X.xs)).A0.length;rw[p1,Za b vs _ _ h.ok.len];show _=(Vw b vs X.img.A0 X.xs).length;rw[Ame b vs _ _ h.ok.len]
 ·show(X.recs++Gy b vs X.img.A0 X.xs).length≤300;rw[h_];omega
end
def Bac(b:P)(vs:List V)(ps:List Calls):∀(m i:Nat) (s:Lan),(BL (Oz b vs ps) m i s).lit.length=s.lit.length+m∧(BL (Oz b vs ps) m i s).gong.length=s.gong.length+m
 |0,_,_=>⟨rfl,rfl⟩
 |m+1,i,s=>by
  obtain⟨h1,h2⟩:=Bac b vs ps m (i+1) (Oz b vs ps i s);have e1:(Oz b vs ps i s).lit.length=s.lit.length+1:=by unfold Oz;show(s.lit++[_]).length=_;rw[h_];rfl
  have e2:(Oz b vs ps i s).gong.length=s.gong.length+1:=by unfold Oz;show(s.gong++[_]).length=_;rw[h_];rfl
  exact⟨by show(BL (Oz b vs ps) m (i+1) (Oz b vs ps i s)).lit.length=_;omega,by show(BL (Oz b vs ps) m (i+1) (Oz b vs ps i s)).gong.length=_;omega⟩
def Aod(b:P):∀(l:List Entry) (X:Rnd),(Ji b l X).lan=X.lan
 |[],_=>rfl
 |e::t,X=>by show(Ji b t (FP b e X)).lan=X.lan;rw[Aod b t];unfold FP;cases Oc b X.img<;>rfl
def Bbj(b:P)(m:Img)(xs:List Int)(vs:List V)(ps:List Calls)(press:Int×Int)(good:Bool):(Og b m xs vs ps press good).lan=bif good then GJ b vs ps else Bhv vs.length:=by
 show(Dg b m xs vs ps press good).lan=_;unfold Dg;cases good with
 |true=>rw[d_,d_,Aod];rfl
 |false=>rfl
def Ajs(b:P)(m:Img)(xs:List Int)(vs:List V)(ps:List Calls)(press:Int×Int)(good:Bool):(Og b m xs vs ps press good).lan.lit.length=vs.length∧(Og b m xs vs ps press good).lan.gong.length=vs.length:=by
 rw[Bbj];cases good with
 |true=>obtain⟨h1,h2⟩:=Bac b vs ps vs.length 0 Lan.none;exact⟨h1.trans (p_ _),h2.trans (p_ _)⟩
 |false=>exact⟨V_,V_⟩
@[reducible] def Bun(v:V):=(v.N3,v.B3,v.C3,v.X3,v.E0,v.J0,v.E3,v.G3,v.V2,v.L2,v.Z1,v.Q1,())
def Bam(hb:b.small){x:NewCar}(h:Hn b x=A):Ahx x.V1:=by
 have h2:=Bbk hb;unfold Hn at h;cases hf:x.Z2 with
 |true=>rw[hf]at h;simp only[d_,Agb,e_,U_]at h;rw[h.2.2.2.2.2.2.2.2.2.2.1];exact⟨τ,τ⟩
 |false=>have hs:=(We hb hf).1 (by unfold Hn;exact h);have hc:C2 b.D0 x.V1:=hs.1.ca;unfold C2 at hc;exact⟨hc.1,ω⟩
def Bcw{l:List Duty}(hl:l.length≤1000):Sat (Ku l) λy=>Gt (y.2.1.1,y.2.1.2.1):=by unfold Ku;refine I (Q:=λy=>Gt (y.2.2.1.1,y.2.2.1.2.1)) ?_ λ_ h=>B h;unfold IK;refine aD (λ(k:Nat) z=>∃(i:Nat) (c:Int×Int),z=(((),(),l,(l.length:Int),(i:Int),()),((0,0,()),(c.1,c.2,()),()))∧i+k=l.length∧Gt c) (λk z hz=>?_) l.length ⟨0,(0,0),rfl,p_ _,OA⟩ ω;obtain⟨i,c,rfl,hk,hc⟩:=hz;show Sat (Mh l (l.length:Int) (i:Int) 0 0 c.1 c.2) _;unfold Mh;refine R (λq=>?_) λ_=>B hc;have q:(i:Int)<(l.length:Int):=n_ q;have w:=DF (n:=i) ω;refine D (Ac ω q) (O (Ka _ _) (O (Gn c (EB _ _)) ?_));exact B ⟨k-1,ω,i+1,_,by first | (rw[← w];rfl) | rw[← w],ω,Zz _ _⟩
structure VI(b:Bldg)(m:Img)(good:Bool)(i:Nat)(v:View):Prop where
 ok:v.ok
 ready:v.N3=(good&&Uj m i)
 serving:v.B3=Ja m i
 lost:v.X3=(flA m i||!Ja m i)
section
variable{b:P}(hw:BW b){x:Inp}{g:Bool}(hx:g=A→InOK b x)
include hw
theorem Br5{m:Mch}(hm:PM b m)(hi:i<b.B0.length)(f:Int)(l:Bool)(d:Int)(k:Bool):Sat (MI b.D0 b.G0 b.I0 b.M0 b.L0 b.N0 b.O0 b.B0 m.C0.F0 m.C0.K0 m.C0.H0 m.C0.A0 m.U0.h0 m.U0.h1 m.U0.sel m.R1 m.X0 m.B0 m.M2 m.X1 m.I3 m.U3 m.Q2 m.G2 (i:Int) f l d k) λy=>∃v,y=(((),()),(Bun v,()))∧VI b m.C0 A i v:=by
 have i1:N (i:Int) m.C0.F0.length=A:=Ac ω (by rw[hm.jst.img.lp];omega);have i2:N (i:Int) m.X0.length=A:=Ac ω (by rw[hm.bel];omega);have i3:N (i:Int) m.B0.length=A:=Ac ω (by rw[hm.car];omega);have i4:N (i:Int) m.C0.K0.length=A:=Ac ω (by rw[hm.jst.img.lf];omega);have i5:N (i:Int) m.M2.length=A:=Ac ω (by rw[hm.lod];omega);have hc:=Bam hw.small (hm.carv _ (CD BG (show i<m.B0.length by rw[hm.car];exact hi)));have hd:=((hm.belv i hi).dut).len hw.small;unfold MI;refine D i1 (D i3 (O (Ali hm.jst.img hi) (O (Ac1 hm.jst.img hi) (O (XG _) ?_))));have z0:Ahx 0:=⟨τ,τ⟩
 refine O (b:=(((i:Int),(),(),(),(),U m.C0 i,(),(),()),((b.D0,b.G0,b.I0,b.M0,b.L0,b.N0,b.O0,b.B0,()),(m.C0.F0,m.C0.K0,m.C0.H0,m.C0.A0,m.U0.h0,m.U0.h1,m.U0.sel,m.R1,m.X0,m.B0,m.M2,m.X1,m.I3,m.U3,m.Q2,m.G2,()),(f,l,d,k,()),(C,C,C,C,(0:Int),(0:Int),(0:Int),(0:Int),(0:Int),(0:Int),(0:Int),(0:Int),()),Bcs (m.B0.getD i BG),(Uj m.C0 i,Ja m.C0 i,Mv (U m.C0 i),(J m.C0 i||!Ja m.C0 i),(0:Int),(0:Int),(0:Int),(0:Int),(0:Int),(0:Int),(0:Int),(0:Int),()),()))) ?_ ?_
 ·show(bif N (i:Int) m.C0.K0.length then(bif J m.C0 i then _ else _)else none)=_;rw[i4,d_];cases J m.C0 i<;>rfl
 refine R (λ_=>D i2 (I (Bcw (by show(m.X0.getD i HX).W0.length≤1000;omega)) λy5 h5=>?_)) λ_=>D i5 ?_
 ·exact B ⟨View.mk (Uj m.C0 i) (Ja m.C0 i) (Mv (U m.C0 i)) (J m.C0 i||!Ja m.C0 i) (m.X0.getD i HX).E0 (m.X0.getD i HX).J0 0 0 0 0 y5.2.1.1 y5.2.1.2.1,rfl,⟨z0,h5.1,h5.2⟩,rfl,rfl,rfl⟩
 refine I (Q:=λy=>∃(su sd:Int) (o1 o2 o3 o4:Int),y=(((i:Int),(),(),(),(),(),()),((b.D0,b.G0,b.I0,b.M0,b.L0,b.N0,b.O0,b.B0,()),(m.C0.F0,m.C0.K0,m.C0.H0,m.C0.A0,m.U0.h0,m.U0.h1,m.U0.sel,m.R1,m.X0,m.B0,m.M2,m.X1,m.I3,m.U3,m.Q2,m.G2,()),(C,C,C,C,(0:Int),(0:Int),(0:Int),(0:Int),(0:Int),(0:Int),(0:Int),(0:Int),()),Bcs (m.B0.getD i BG),(Uj m.C0 i,Ja m.C0 i,Mv (U m.C0 i),(J m.C0 i||!Ja m.C0 i),f,(m.B0.getD i BG).S1,o1,su,sd,o2,o3,o4,()),()))) ?_ λy7 h7=>?_
 ·refine R (λ_=>?_) λ_=>B ⟨_,_,_,_,_,_,rfl⟩;exact I (Ag7 hw.small hw.code (m.B0.getD i BG) f l d k) λ_ _=>B ⟨_,_,_,_,_,_,rfl⟩
 obtain⟨su,sd,o1,o2,o3,o4,rfl⟩:=h7;refine I (Am1 hw hm.jst.img (i:Int)) λy8 h8=>?_;exact B ⟨View.mk (Uj m.C0 i) (Ja m.C0 i) (Mv (U m.C0 i)) (J m.C0 i||!Ja m.C0 i) f (m.B0.getD i BG).S1 o1 su sd (m.B0.getD i BG).V1 y8.2.1.1 y8.2.1.2.1,rfl,⟨hc,h8.1,h8.2⟩,rfl,rfl,rfl⟩
structure VA(b:Bldg)(m:Img)(good:Bool)(vs:List View):Prop where
 len:vs.length=b.B0.length
 vi:∀i,i<b.B0.length→VI b m good i (vs.getD i noV)
theorem VA.ok{vs:List V}(h:VA b m g vs):okViews vs:=λv hv=>by
 obtain⟨i,hi,rfl⟩:=List.getElem_of_mem hv
 have:=(h.vi i (by rw[← h.len];exact hi)).ok
 rwa [k_,j_ hi]at this
include hx
theorem Bjw(hm:PM b t.m)(hr:PR b t):Sat (AQ (t.ap aE b x g)) λy=>∃vs:List V,y=((vs,()),())∧VA b t.m.C0 g vs:=by
 have hcc:=An hw.code;unfold AQ;refine D (by show((decide ((0:Int)≤(b.B0.length:Int))&&decide ((b.B0.length:Int)≤(b.B0.length:Int)))&&decide ((b.B0.length:Int)≤2147483648))=A;simp only[e_,v_];omega) (I (Q:=λy=>∃vs:List V,y=((vs,()),())∧VA b t.m.C0 g vs) ?_ λy h=>by obtain⟨c,rfl,h⟩:=h;exact B ⟨c,rfl,h⟩);have h0:(aF (aB (b.B0.length:Int)) S).length=b.B0.length:=by rw[V_];omega
 show Sat (Ci ((t.ap aE b x g,aF (aB (b.B0.length:Int)) S,(((aF (aB (b.B0.length:Int)) S).length:Nat):Int),0,()),())) _;generalize aF (aB (b.B0.length:Int)) S=L at h0;unfold Ci;refine aD (λ(k:Nat) z=>∃(i:Nat) (vs:List V),z=((t.ap aE b x g,vs,(L.length:Int),(i:Int),()),())∧i+k=L.length∧vs.length=b.B0.length∧∀j,j<i→VI b t.m.C0 g j (vs.getD j S)) (λk z hz=>?_) L.length ⟨0,L,rfl,p_ _,h0,λj hj=>absurd hj (Nat.not_lt_zero j)⟩ ω;obtain⟨i,vs,rfl,hk,hl,hv⟩:=hz;show Sat (Cl (t.ap aE b x g) vs (L.length:Int) (i:Int)) _;unfold Cl;refine R (λq=>?_) λq=>B ⟨vs,rfl,hl,λj hj=>hv j (by have q:=H_ q;omega)⟩;have q:(i:Int)<(L.length:Int):=n_ q;have hi:i<b.B0.length:=ω;have w:=DF (n:=i) ω;have il:N (i:Int) vs.length=A:=Ac ω ω;have put:∀{v:V},VI b t.m.C0 g i v→∀j,j<i+1→VI b t.m.C0 g j ((vs.set i v).getD j S):=λ{v} h j hj=>by
  by_cases e:i=j
  ·subst e;rw[Bx _ _ ω];exact h
  ·rw[DJ _ _ e];exact hv j ω
 refine R (λhg=>?_) λhg=>?_
 ·have hg:g=C:=by simpa using(show(!g)=A from hg)
  refine O (Ac1 hm.jst.img hi) ?_;have i4:N (i:Int) t.m.C0.K0.length=A:=Ac ω (by rw[hm.jst.img.lf];omega);refine O (b:=((t.ap aE b x g,vs.set i (View.mk C (Ja t.m.C0 i) C (J t.m.C0 i||!Ja t.m.C0 i) (-1) 0 0 0 0 0 0 0),(L.length:Int),(i:Int),()),())) ?_ ?_
  ·show(bif N (i:Int) t.m.C0.K0.length then(bif J t.m.C0 i then(bif N (i:Int) vs.length then _ else none)else(bif N (i:Int) vs.length then _ else none))else none)=_;rw[i4,il,d_,d_];cases J t.m.C0 i<;>rfl
  have z0:Ahx 0:=⟨τ,τ⟩
  exact B ⟨k-1,ω,i+1,_,by first | (rw[← w];rfl) | rw[← w],ω,by rw[r_];exact hl,put ⟨⟨z0,z0,z0⟩,by rw[hg];rfl,rfl,rfl⟩⟩
 ·have hg:g=A:=by simpa using(show(!g)=C from hg)
  have hxl:=(hx hg).len;refine D (Ac ω (ω:(i:Int)<(x.cars.length:Int))) (I (Br5 hw hm hi _ _ _ _) λy3 h3=>D il ?_);obtain⟨v,rfl,hvi⟩:=h3;rw[← hg]at hvi;refine D (Ac ω (show(i:Int)<(t.legacy.length:Int)by rw[hr.leg];omega)) (R (λ_=>?_) λ_=>?_)
  ·refine D (Ac ω (show(i:Int)<(t.shows.length:Int)by rw[hr.sho];omega)) (D (Ac ω (by rw[r_];omega)) ?_);refine B ⟨k-1,ω,i+1,(vs.set i v).set i (View.mk v.N3 v.B3 v.C3 v.X3 v.E0 v.J0 v.E3 (t.shows.getD i (Calls.mk 0 0)).Up (t.shows.getD i (Calls.mk 0 0)).Q3 v.L2 v.Z1 v.Q1),?_,ω,by rw[r_,r_];exact hl,λj hj=>?_⟩
   ·have e:(vs.set i v).getD i S=v:=Bx _ _ ω
    first
     |(rw[← w];show((_,List.set (vs.set i v) i (View.mk ((vs.set i v).getD i S).N3 ((vs.set i v).getD i S).B3 ((vs.set i v).getD i S).C3 ((vs.set i v).getD i S).X3 ((vs.set i v).getD i S).E0 ((vs.set i v).getD i S).J0 ((vs.set i v).getD i S).E3 _ _ ((vs.set i v).getD i S).L2 ((vs.set i v).getD i S).Z1 ((vs.set i v).getD i S).Q1),_,_,()),())=_;rw[e];rfl)
   ·rw[h1_];exact put (v:=View.mk v.N3 v.B3 v.C3 v.X3 v.E0 v.J0 v.E3 (t.shows.getD i (Calls.mk 0 0)).Up (t.shows.getD i (Calls.mk 0 0)).Q3 v.L2 v.Z1 v.Q1) ⟨⟨hvi.ok.c,hvi.ok.u,hvi.ok.d⟩,hvi.ready,hvi.serving,hvi.lost⟩ j hj
  ·exact B ⟨k-1,ω,i+1,vs.set i v,by first | (rw[← w];rfl) | rw[← w],ω,by rw[r_];exact hl,put hvi⟩
end
def Cz:H:=aA 0 0 C 0 0 C 0 0 C
noncomputable def Jj(b:P)(x:Inp)(g:Bool)(t:Pk)(vs:List V):Rnd:=Og b t.m.C0 t.m.X1 vs t.m.I3 x.press g
def JA:List Record→Int×Int→Int×Int
 |[],c=>c
 |r::l,c=>JA l (bif r.Q0==2 then Cm c (EB r.E0 r.J0)else c)
def Ank(r:Rnd)(i:Nat)(c d:H):Prop:=d.A3=(r.lan.lit.getD i noP).Up∧d.K2=(r.lan.lit.getD i noP).Q3∧d.Q5=r.lan.gong.getD i C∧d.V3=c.V3
def PM.rnd{m:Mch}(h:PM b m){r:Rnd}(hg:Rg b m.C0 r)(hl:r.lan.lit.length=b.B0.length){s:Sto}(hj:Jst b s r.img){n:Int}(hn:0≤n∧n≤1000000):PM b { m with C0:=r.img,U0:=s,X1:=r.xs,I3:=r.lan.lit,G2:=n }:=⟨hj,h.con,h.conv,h.bel,h.belv,h.car,h.carv,h.lod,h.lodv,hl,hg.ok.len,hg.xs,h.tick,h.flt,hn⟩
structure Dsp(b:Bldg)(x:Inp)(g:Bool)(t t':Pk)(vs:List View):Prop where
 va:VA b t.m.C0 g vs
 ve:AQ (t.ap machine_ticker.mk b x g)=some ((vs,()),())
 rg:Rg b t.m.C0 (Jj b x g t vs)
 res:Al b t t' (Jj b x g t vs).recs∨De b t t' (Jj b x g t vs).recs
 out:t'.out={ t.out with F3:=(JA (Jj b x g t vs).recs (t.out.F3,t.out.X2)).1,X2:=(JA (Jj b x g t vs).recs (t.out.F3,t.out.X2)).2,N0:=!isZ (Jj b x g t vs).ref,B0:=t'.out.B0 }
 oc:t'.out.B0.length=b.B0.length
 cars:∀i,i<b.B0.length→Ank (Jj b x g t vs) i (t.out.B0.getD i Cz) (t'.out.B0.getD i Cz)
 rst:t'.reset=t.reset
def Cef(hi:i<l.length)(f g:H→H):(l.set i (f (l.getD i Cz))).set i (g ((l.set i (f (l.getD i Cz))).getD i Cz))=l.set i (g (f (l.getD i Cz))):=by rw[Bx _ _ hi,h1_]
def Pk.sServ(t:Pk)(c:Int×Int):Pk:={ t with out:={ t.out with F3:=c.1,X2:=c.2 } }
def Pk.sOuts(t:Pk)(l:List H):Pk:={ t with out:={ t.out with B0:=l } }
section
variable{b:P}(hw:BW b){x:Inp}{g:Bool}(hx:g=A→InOK b x)
theorem Yr(r:Rnd)(hr:r.recs.length≤1000)(t:Pk):Sat (Cu (((),(),r.recs,(r.recs.length:Int),(0:Int),()),(r.tup,t.tup b x g,()))) λy=>y=(((),(),()),(r.tup,(t.sServ (JA r.recs (t.out.F3,t.out.X2))).tup b x g,())):=by
 unfold Cu;refine aD (λ(k:Nat) z=>∃(i:Nat) (c:Int×Int),z=(((),(),r.recs,(r.recs.length:Int),(i:Int),()),(r.tup,(t.sServ c).tup b x g,()))∧i+k=r.recs.length∧JA (r.recs.drop i) c=JA r.recs (t.out.F3,t.out.X2)) (λk z hz=>?_) r.recs.length ⟨0,(t.out.F3,t.out.X2),rfl,p_ _,rfl⟩ ω;obtain⟨i,c,rfl,hk,hs⟩:=hz;show Sat ((t.sServ c).ap (Ez r.recs (r.recs.length:Int) (i:Int) r.recs r.img.F0 r.img.K0 r.img.H0 r.img.A0 r.xs r.lan.lit r.lan.gong r.lan.cl.1 r.lan.cl.2 r.ref.1 r.ref.2) b x g) _;unfold Pk.ap Ez;refine R (λq=>?_) λq=>B ?_
 ·have q:(i:Int)<(r.recs.length:Int):=n_ q;have hi:i<r.recs.length:=ω;have w:=DF (n:=i) ω;rw[BN HY hi]at hs;refine D (Ac ω q) (R (λh=>O (Ka _ _) (O (Gn c (EB _ _)) ?_)) λh=>?_)
  ·refine B ⟨k-1,ω,i+1,Cm c (EB (r.recs.getD i HY).E0 (r.recs.getD i HY).J0),by first | (rw[← w];rfl) | rw[← w],ω,?_⟩;rw[← hs];have h:((r.recs.getD i HY).Q0==2)=A:=h;show _=JA (r.recs.drop (i+1)) (bif(r.recs.getD i HY).Q0==2 then _ else _);rw[h];rfl
  ·refine B ⟨k-1,ω,i+1,c,by first | (rw[← w];rfl) | rw[← w],ω,?_⟩;rw[← hs];have h:((r.recs.getD i HY).Q0==2)=C:=h;show _=JA (r.recs.drop (i+1)) (bif(r.recs.getD i HY).Q0==2 then _ else _);rw[h];rfl
 ·have q:=H_ q;rw[List.drop_of_length_le ω]at hs;show _=(((),(),()),(r.tup,(t.sServ (JA r.recs (t.out.F3,t.out.X2))).tup b x g,()));rw[← hs];rfl
theorem Aie(r:Rnd)(hn:t.out.B0.length≤1000)(hl:r.lan.lit.length=t.out.B0.length)(hg:r.lan.gong.length=t.out.B0.length):Sat (AT (((),(),(t.out.B0.length:Int),(0:Int),()),(r.tup,t.tup b x g,()))) λy=>∃l,y=((),((t.sOuts l).tup b x g,()))∧l.length=t.out.B0.length∧∀j,j<t.out.B0.length→Ank r j (t.out.B0.getD j Cz) (l.getD j Cz):=by
 unfold AT;refine aD (λ(k:Nat) z=>∃(i:Nat) (l:List H),z=(((),(),(t.out.B0.length:Int),(i:Int),()),(r.tup,(t.sOuts l).tup b x g,()))∧i+k=t.out.B0.length∧l.length=t.out.B0.length∧(∀j,j<i→Ank r j (t.out.B0.getD j Cz) (l.getD j Cz))∧∀j,i≤j→l.getD j Cz=t.out.B0.getD j Cz) (λk z hz=>?_) t.out.B0.length ⟨0,t.out.B0,rfl,p_ _,rfl,λj hj=>absurd hj (Nat.not_lt_zero j),λj _=>rfl⟩ ω;obtain⟨i,l,rfl,hk,hll,h1,h2⟩:=hz;show Sat ((t.sOuts l).ap (BI (t.out.B0.length:Int) (i:Int) r.recs r.img.F0 r.img.K0 r.img.H0 r.img.A0 r.xs r.lan.lit r.lan.gong r.lan.cl.1 r.lan.cl.2 r.ref.1 r.ref.2) b x g) _;unfold Pk.ap BI;refine R (λq=>?_) λq=>B ⟨l,rfl,hll,λj hj=>h1 j (by have:=H_ q;omega)⟩;have q:(i:Int)<(t.out.B0.length:Int):=n_ q;have hi:i<l.length:=ω;have w:=DF (n:=i) ω;refine D (Ac ω ω) (D (Ac ω ω) (D (Ac ω (ω:(i:Int)<(l.length:Int))) (D (Ac ω (by rw[r_];show(i:Int)<(l.length:Int);omega)) ?_)));refine B ⟨k-1,ω,i+1,l.set i (aA (l.getD i Cz).B2 (l.getD i Cz).U1 (l.getD i Cz).N2 (r.lan.lit.getD i noP).Up (r.lan.lit.getD i noP).Q3 (r.lan.gong.getD i C) (l.getD i Cz).V3 (l.getD i Cz).N5 (l.getD i Cz).S5),?_,ω,?_,λj hj=>?_,λj hj=>?_⟩
 ·have key:=Cef hi (λc=>aA c.B2 c.U1 c.N2 (r.lan.lit.getD i noP).Up (r.lan.lit.getD i noP).Q3 c.Q5 c.V3 c.N5 c.S5) (λc=>aA c.B2 c.U1 c.N2 c.A3 c.K2 (r.lan.gong.getD i C) c.V3 c.N5 c.S5);rw[← w];exact f2_ (λL=>(((),(),(t.out.B0.length:Int),IntKind.i64.wrap ((i:Int)+1),()),(r.tup,(t.sOuts L).tup b x g,()))) key
 ·rw[r_];exact hll
 ·by_cases e:i=j
  ·subst e;rw[Bx _ _ hi];exact⟨rfl,rfl,rfl,by rw[← h2 i (A_ i)]⟩
  ·rw[DJ _ _ e];exact h1 j ω
 ·rw[DJ _ _ ω];exact h2 j ω
end
def Pk.sRnd(t:Pk)(r:Rnd)(n:Int)(f:Bool):Pk:={ t with m:={ t.m with X1:=r.xs,I3:=r.lan.lit,G2:=n },out:={ t.out with N0:=f } }
section
variable{b:P}(hw:BW b){x:Inp}{g:Bool}(hx:g=A→InOK b x)
include hw hx
theorem Atm(hm:PM b t.m)(hr:PR b t)(hb:Bud t):Sat (t.ap Bs b x g) λy=>∃(t':Pk) (vs:List V),y=((),(t'.tup b x g,()))∧Dsp b x g t t' vs:=by
 have hcc:=An hw.code;unfold Pk.ap Bs;obtain⟨y1,hve,vs,rfl,hva⟩:=Bjw hw hx hm hr;refine O hve ?_;have hxv:inX t.m.X1:=hm.exv;have hd:=TS hw.small hw.code hm.jst.img hm.exl t.m.I3 x.press g hxv.exp (VA.ok hw hva) hva.len hm.lit;obtain⟨hrg,hrl⟩:=Acu hw.small hw.code hm.jst.img hm.exl hxv t.m.I3 x.press g hva.len;obtain⟨hl1,hl2⟩:=Ajs b t.m.C0 t.m.X1 vs t.m.I3 x.press g;rw[hva.len]at hl1 hl2;refine O hd ?_;have hR:Og b t.m.C0 t.m.X1 vs t.m.I3 x.press g=Jj b x g t vs:=rfl;rw[hR]at hrg hrl hl1 hl2⊢;have fin:∀(t':Pk),(Al b t t' (Jj b x g t vs).recs∨De b t t' (Jj b x g t vs).recs)→_→_→_→_→Dsp b x g t t' vs:=λt' h1 h2 h3 h4 h5=>⟨hva,hve,hrg,h1,h2,h3,h4,h5⟩
 generalize hrr:Jj b x g t vs=r at hrg hrl hl1 hl2 fin;refine Sat.bindR ?_;refine I (Q:=λy=>∃t',y=(((),(),()),(r.tup,t'.tup b x g,()))∧Wr b t r.recs t') ?_ λy6 h6=>?_
 ·refine I (Tq hw.small (x:=x) (g:=g) hm.jst hb.2 hb.1 hrg.good (ω:r.recs.length≤100000)) λy4 h4=>?_;obtain⟨t',e | e,h⟩:=h4
  ·subst e;exact B ⟨t',rfl,h⟩
  ·subst e;exact B ⟨t',rfl,h⟩
 obtain⟨t1,rfl,hw1⟩:=h6;obtain⟨im,s,bu,e,rfl,hw1⟩:=hw1;refine I (Q:=λy=>∃n,y=(((),(),()),(r.tup,((t.wr im s bu e).sRnd r n (!isZ r.ref)).tup b x g,()))∧0≤n∧n≤1000000) (R (λq=>I (Aes hm.ref) λy7 h7=>B ⟨y7.1.1,rfl,h7⟩) λq=>B ⟨t.m.G2,rfl,hm.ref⟩) λy8 h8=>?_;obtain⟨n,rfl,hn⟩:=h8;refine I (Yr r ω ((t.wr im s bu e).sRnd r n (!isZ r.ref))) λy9 h9=>?_;subst h9;refine I (Aie r (t:=((t.wr im s bu e).sRnd r n (!isZ r.ref)).sServ (JA r.recs (t.out.F3,t.out.X2))) (by show t.out.B0.length≤1000;rw[hr.oc];omega) (by show _=t.out.B0.length;rw[hr.oc];exact hl1) (by show _=t.out.B0.length;rw[hr.oc];exact hl2)) λy10 h10=>?_;obtain⟨l,rfl,hl,hc⟩:=h10;replace hl:l.length=t.out.B0.length:=hl;replace hc:∀j,j<t.out.B0.length→Ank r j (t.out.B0.getD j Cz) (l.getD j Cz):=hc;rw[hr.oc]at hl hc;refine B ⟨_,vs,rfl,fin _ ?_ rfl hl hc rfl⟩;have hroom:=Aoh hw r.recs.length;rcases hw1 with⟨rfl,rfl,h1,h2,h3,h4,_⟩ | ⟨rfl,h1,h2,h3⟩
 ·rw[hrg.img]at h1;refine .inl ⟨rfl,?_,⟨hr.leg,hr.sho,hr.rst,hl⟩,rfl,h3,h4,by show t.budget-_≤bu;omega⟩
  have:=hm.rnd hrg hl1 h1 hn
  rw[← hrg.img]at this;exact this
 ·exact .inr ⟨rfl,ω,h2,h3⟩
end
def Bfj(p a d:Int)(k:Bool):Prop:=(a=0∧d=0∧k=A)∨(Mv p=A∧k=C)
def Ac5(p c:Int):Bool:=c==0||(p==3||p==4)
def Asg(p c:Int):Kt p c=W ((Ac5 p c,()),()):=by unfold Kt Ac5;cases c==0<;>cases p==3<;>rfl
def Aeb(p:Int):MC p=W ((Mv p,()),()):=by unfold MC Mv;cases p==0<;>rfl
section
variable{b:P}(hw:BW b){x:Inp}{g:Bool}
include hw
theorem Bir(hi:i<b.B0.length)(p:Int){s:Belief}(h:BelOK b i s):Sat (MB b.D0 b.G0 b.I0 b.M0 b.L0 b.N0 b.O0 b.B0 (i:Int) p s.E0 s.J0 s.D3 s.W0 s.T2 s.H3) λy=>∃a d k,y=(((),()),((a,d,k,()),()))∧Bfj p a d k:=by
 have hd:=h.dut.len hw.small;unfold MB;refine O (Aeb p) (R (λ_=>B ⟨0,0,A,rfl,.inl ⟨rfl,rfl,rfl⟩⟩) λq=>?_);have q:Mv p=A:=by simpa using(show(!Mv p)=C from q)
 refine O (Iu hw.small hw.code hi h) (Sat.bifF rfl ?_);refine I (Q:=λy=>∃a d,y=(((),(),()),((0,0,C,()),(a,d,C,()),()))) ?_ λy hy=>by obtain⟨a,d,rfl⟩:=hy;exact B ⟨a,d,C,rfl,.inr ⟨q,rfl⟩⟩
 unfold Kx;refine aD (λ(k:Nat) z=>∃(j:Nat) (c:Int×Int),z=(((i:Int),(),(),(),s.W0,(s.W0.length:Int),(j:Int),()),((b.D0,b.G0,b.I0,b.M0,b.L0,b.N0,b.O0,b.B0,()),(0,0,C,()),(c.1,c.2,C,()),()))∧j+k=s.W0.length) (λk z hz=>?_) s.W0.length ⟨0,(0,0),rfl,p_ _⟩ ω;obtain⟨j,c,rfl,hk⟩:=hz;show Sat (Om (i:Int) s.W0 (s.W0.length:Int) (j:Int) b.D0 b.G0 b.I0 b.M0 b.L0 b.N0 b.O0 b.B0 0 0 C c.1 c.2 C) _;unfold Om;refine R (λq=>?_) λ_=>B ⟨_,_,rfl⟩;have q:(j:Int)<(s.W0.length:Int):=n_ q;have w:=DF (n:=j) ω;refine D (Ac ω q) (D (Ac ω ω) (R (λ_=>O (Ka _ _) (O (Gn c (EB _ _)) ?_)) λ_=>?_))
 ·exact B ⟨k-1,ω,j+1,_,by first | (rw[← w];rfl) | rw[← w],ω⟩
 ·exact B ⟨k-1,ω,j+1,c,by first | (rw[← w];rfl) | rw[← w],ω⟩
end
def o1(c:H)(a d:Int)(k:Bool):H:=aA a d k c.A3 c.K2 c.Q5 c.V3 c.N5 c.S5
def o2(c:H)(p:Int):H:=aA c.B2 c.U1 c.N2 c.A3 c.K2 c.Q5 c.V3 p c.S5
def o3(c:H)(f:Bool):H:=aA c.B2 c.U1 c.N2 c.A3 c.K2 c.Q5 c.V3 c.N5 f
def o4(c:H):H:=aA c.B2 c.U1 c.N2 c.A3 c.K2 c.Q5 0 c.N5 c.S5
def Bdg(l:List H)(i:Nat)(a d:Int)(k:Bool):List H:=l.set i (o1 (l.getD i Cz) a d k)
def Bdh(l:List H)(i:Nat)(a d:Int)(k:Bool)(p:Int):List H:=(Bdg l i a d k).set i (o2 ((Bdg l i a d k).getD i Cz) p)
def Ags(l:List H)(i:Nat)(a d:Int)(k:Bool)(p:Int)(f:Bool):List H:=(Bdh l i a d k p).set i (o3 ((Bdh l i a d k p).getD i Cz) f)
def Ak1(l:List H)(i:Nat)(a d:Int)(k:Bool)(p:Int)(f:Bool):List H:=(Ags l i a d k p f).set i (o4 ((Ags l i a d k p f).getD i Cz))
def Aq6(hi:i<l.length)(a d:Int)(k:Bool)(p:Int)(f:Bool):Ags l i a d k p f=l.set i (o3 (o2 (o1 (l.getD i Cz) a d k) p) f):=by unfold Ags Bdh Bdg;simp only[Bx _ _ hi,h1_]
def Bdf(hi:i<l.length)(a d:Int)(k:Bool)(p:Int)(f:Bool):Ak1 l i a d k p f=l.set i (o4 (o3 (o2 (o1 (l.getD i Cz) a d k) p) f)):=by unfold Ak1;rw[Aq6 hi,Bx _ _ hi,h1_]
structure FinO(m:Img)(i:Nat)(c d:CarOutput):Prop where
 lu:d.A3=c.A3
 ld:d.K2=c.K2
 gong:d.Q5=c.Q5
 phase:d.N5=phA m i
 flag:d.S5=flA m i
 coils:Bfj (phA m i) d.B2 d.U1 d.N2
 cmd:Ac5 (phA m i) d.V3=true
structure Fin(b:Bldg)(g:Bool)(t t':Pk):Prop where
 m:PM b t'.m
 im:t'.m.C0=t.m.C0
 st:t'.m.U0=t.m.U0
 bu:t'.budget=t.budget
 e:t'.e=t.e
 out:t'.out={ t.out with U5:=(ofC t.m.C0.A0 (0,0)).1,T5:=(ofC t.m.C0.A0 (0,0)).2,W5:=!g,B0:=t'.out.B0 }
 oc:t'.out.B0.length=b.B0.length
 cars:∀i,i<b.B0.length→FinO t.m.C0 i (t.out.B0.getD i Cz) (t'.out.B0.getD i Cz)
def Pk.sLmp(t:Pk)(c:Int×Int)(f:Bool):Pk:={ t with out:={ t.out with U5:=c.1,T5:=c.2,W5:=f } }
section
variable{b:P}(hw:BW b){x:Inp}{g:Bool}
include hw
set_option maxHeartbeats 4000000 in
theorem Bdi(hm:PM b t.m)(hr:PR b t):Sat (AZ (((),t.m.C0.F0,(t.m.C0.F0.length:Int),(0:Int),()),(t.tup b x g,()))) λy=>∃t',y=((),(t'.tup b x g,()))∧PM b t'.m∧Fix t t'∧t'.out.B0.length=b.B0.length∧∀i,i<b.B0.length→FinO t.m.C0 i (t.out.B0.getD i Cz) (t'.out.B0.getD i Cz):=by
 have hcc:=An hw.code;have hp:=hm.jst.img.lp;unfold AZ;refine aD (λ(k:Nat) z=>∃(i:Nat) (t':Pk),z=(((),t.m.C0.F0,(t.m.C0.F0.length:Int),(i:Int),()),(t'.tup b x g,()))∧i+k=b.B0.length∧PM b t'.m∧PR b t'∧Fix t t'∧(∀j,j<i→FinO t.m.C0 j (t.out.B0.getD j Cz) (t'.out.B0.getD j Cz))∧∀j,i≤j→t'.out.B0.getD j Cz=t.out.B0.getD j Cz) (λk z hz=>?_) b.B0.length ⟨0,t,rfl,p_ _,hm,hr,.rfl' t,λj hj=>absurd hj (Nat.not_lt_zero j),λj _=>rfl⟩ ω;obtain⟨i,u,rfl,hk,hmu,hru,hf,h1,h2⟩:=hz;show Sat (u.ap (Cd t.m.C0.F0 (t.m.C0.F0.length:Int) (i:Int)) b x g) _;unfold Pk.ap Cd;refine R (λq=>?_) λq=>B ⟨u,rfl,hmu,hf,hru.oc,λj hj=>h1 j (by have:=H_ q;omega)⟩;have q:(i:Int)<(t.m.C0.F0.length:Int):=n_ q;have hi:i<b.B0.length:=ω;have w:=DF (n:=i) ω;have ifl:N (i:Int) u.m.C0.K0.length=A:=Ac ω (by rw[hmu.jst.img.lf];omega);refine D (Ac ω q) ?_;refine I (Q:=λy=>∃v:Pk,y=(((),(i:Int),U t.m.C0 i,t.m.C0.F0,(t.m.C0.F0.length:Int),(i:Int),()),(v.tup b x g,()))∧PM b v.m∧PR b v∧Fix t v∧v.out=u.out) ?_ λy5 h5=>?_
 ·refine I (Q:=λy=>∃c:Bool,y=(((),(i:Int),U t.m.C0 i,t.m.C0.F0,(t.m.C0.F0.length:Int),(i:Int),c,()),(u.tup b x g,()))) (O (XG _) (R (λ_=>D ifl (B ⟨_,rfl⟩)) λ_=>B ⟨_,rfl⟩)) λy2 h2=>?_;obtain⟨c,rfl⟩:=h2;have i2:N (i:Int) u.m.X0.length=A:=Ac ω (by rw[hmu.bel];omega);refine R (λ_=>D i2 ?_) λ_=>B ⟨u,rfl,hmu,hru,hf,rfl⟩;refine I (Am1 hw hmu.jst.img (i:Int)) λy3 _=>I (Adb hw.small hw.code hi (hmu.belv i hi) _ _) λy4 h4=>D i2 ?_;obtain⟨ya,yb,yc⟩:=y4;obtain⟨v,e4,hv⟩:=h4;change yb=_ at e4;subst e4;exact B ⟨u.sBel i v,rfl,hmu.sBel hv,hru.sBel i v,⟨hf.im,hf.st,hf.bu,hf.e,hf.out⟩,rfl⟩
 obtain⟨v,rfl,hmv,hrv,hfv,hov⟩:=h5;have j2:N (i:Int) v.m.X0.length=A:=Ac ω (by rw[hmv.bel];omega);have jo:N (i:Int) v.out.B0.length=A:=Ac ω (by rw[hrv.oc];omega);have jf:N (i:Int) v.m.C0.K0.length=A:=Ac ω (by rw[hmv.jst.img.lf];omega);have jr:N (i:Int) v.reset.length=A:=Ac ω (by rw[hrv.rst];omega);have hio:i<v.out.B0.length:=by rw[hrv.oc];exact hi
 refine D jo (D j2 (I (Bir hw hi _ (hmv.belv i hi)) λy6 h6=>D jf (D jr ?_)));obtain⟨a,d,kc,rfl,hcoil⟩:=h6;have hprev:v.out.B0.getD i Cz=t.out.B0.getD i Cz:=by rw[hov];exact h2 i (A_ i)
 have hflag:J v.m.C0 i=J t.m.C0 i:=by rw[hfv.im]
 have e9:=Aq6 hio a d kc (U t.m.C0 i) (J v.m.C0 i);have e10:=Bdf hio a d kc (U t.m.C0 i) (J v.m.C0 i);have done:∀c:H,FinO t.m.C0 i (t.out.B0.getD i Cz) c→PM b (v.sOuts (v.out.B0.set i c)).m∧PR b (v.sOuts (v.out.B0.set i c))∧Fix t (v.sOuts (v.out.B0.set i c))∧(∀j,j<i+1→FinO t.m.C0 j (t.out.B0.getD j Cz) ((v.sOuts (v.out.B0.set i c)).out.B0.getD j Cz))∧∀j,i+1≤j→(v.sOuts (v.out.B0.set i c)).out.B0.getD j Cz=t.out.B0.getD j Cz:=λc hc=>by
  refine⟨hmv,⟨hrv.leg,hrv.sho,hrv.rst,by show(v.out.B0.set i c).length=_;rw[r_];exact hrv.oc⟩,⟨hfv.im,hfv.st,hfv.bu,hfv.e,by show({ v.out with B0:=_ }:Outputs)=_;rw[hfv.out];rfl⟩,λj hj=>?_,λj hj=>?_⟩
  ·show FinO t.m.C0 j (t.out.B0.getD j Cz) ((v.out.B0.set i c).getD j Cz);by_cases e:i=j
   ·subst e;rw[Bx _ _ hio];exact hc
   ·rw[DJ _ _ e,hov];exact h1 j ω
  ·show(v.out.B0.set i c).getD j Cz=_;rw[DJ _ _ ω,hov];exact h2 j ω
 refine R (λ_=>?_) λ_=>O (Asg _ _) (R (λq7=>?_) λq7=>?_)
 ·obtain⟨d1,d2,d3,d4,d5⟩:=done (o4 (o3 (o2 (o1 (v.out.B0.getD i Cz) a d kc) (U t.m.C0 i)) (J v.m.C0 i))) ⟨by rw[← hprev];rfl,by rw[← hprev];rfl,by rw[← hprev];rfl,rfl,hflag,hcoil,rfl⟩;refine B ⟨k-1,ω,i+1,v.sOuts (Ak1 v.out.B0 i a d kc (U t.m.C0 i) (J v.m.C0 i)),by first | (rw[← w];rfl) | rw[← w],ω,?_⟩;rw[e10];exact⟨d1,d2,d3,d4,d5⟩
 ·obtain⟨d1,d2,d3,d4,d5⟩:=done (o4 (o3 (o2 (o1 (v.out.B0.getD i Cz) a d kc) (U t.m.C0 i)) (J v.m.C0 i))) ⟨by rw[← hprev];rfl,by rw[← hprev];rfl,by rw[← hprev];rfl,rfl,hflag,hcoil,rfl⟩;refine B ⟨k-1,ω,i+1,v.sOuts (Ak1 v.out.B0 i a d kc (U t.m.C0 i) (J v.m.C0 i)),by first | (rw[← w];rfl) | rw[← w],ω,?_⟩;rw[e10];exact⟨d1,d2,d3,d4,d5⟩
 ·have q7:(!Ac5 (U t.m.C0 i) ((Ags v.out.B0 i a d kc (U t.m.C0 i) (J v.m.C0 i)).getD i Cz).V3)=C:=q7;rw[e9,Bx _ _ hio]at q7;obtain⟨d1,d2,d3,d4,d5⟩:=done (o3 (o2 (o1 (v.out.B0.getD i Cz) a d kc) (U t.m.C0 i)) (J v.m.C0 i)) ⟨by rw[← hprev];rfl,by rw[← hprev];rfl,by rw[← hprev];rfl,rfl,hflag,hcoil,by simpa using q7⟩;refine B ⟨k-1,ω,i+1,v.sOuts (Ags v.out.B0 i a d kc (U t.m.C0 i) (J v.m.C0 i)),by first | (rw[← w];rfl) | rw[← w],ω,?_⟩;rw[e9];exact⟨d1,d2,d3,d4,d5⟩
theorem Bdl(hm:PM b t.m)(hr:PR b t):Sat (t.ap BB b x g) λy=>∃t',y=((),(t'.tup b x g,()))∧Fin b g t t':=by
 have he:=CL hw.small hm.jst.img;have hlm:GM t.m.C0.F0 t.m.C0.K0 t.m.C0.H0 t.m.C0.A0=W (((),()),(((ofC t.m.C0.A0 (0,0)).1,(ofC t.m.C0.A0 (0,0)).2,()),())):=by unfold GM;exact Ae (Aat ω) rfl
 unfold Pk.ap BB;refine O hlm ?_;refine I (Bdi hw (x:=x) (g:=g) (t:=t.sLmp (ofC t.m.C0.A0 (0,0)) (!g)) hm ⟨hr.leg,hr.sho,hr.rst,hr.oc⟩) λy2 h2=>?_;obtain⟨t',rfl,h1,h2,h3,h4⟩:=h2;exact B ⟨t',rfl,h1,h2.im,h2.st,h2.bu,h2.e,by rw[h2.out];rfl,h3,h4⟩
end
section
variable{b:P}(hw:BW b){x:Inp}{g:Bool}(hx:g=A→InOK b x)
include hw hx
end
end Go.Ovl
namespace Go.Ovl
open Go Go.Ab
variable{half:Int}{s:Sto}{d:ByteArray}
def Oi(room:Int)(h0 h1:ByteArray)(sel:Int):GZ room h0 h1 sel=W ((decide (Sto.ok room ⟨h0,h1,sel⟩),()),()):=by
 unfold GZ Sto.ok;by_cases a:1≤room
 ·by_cases b:room≤65536
  ·by_cases c:(h0.size:Int)≤room
   ·by_cases d:(h1.size:Int)≤room
    ·by_cases e:sel=0
     ·simp[a,b,c,d,e]
     ·by_cases f:sel=1<;>simp[a,b,c,d,e,f,Am]
    ·simp[a,b,c,d]
   ·simp[a,b,c]
  ·simp[a,b]
 ·simp[a]
def Qr(room:Int)(h0 h1:ByteArray)(sel half bud:Int):Lp room h0 h1 sel half bud=W ((Sto.chk room ⟨h0,h1,sel⟩ half bud,()),()):=by
 unfold Lp Sto.chk;rw[Oi];by_cases a:Sto.ok room ⟨h0,h1,sel⟩
 ·by_cases b:half=0
  ·by_cases c:bud<0<;>simp[a,b,c]
  ·by_cases d:half=1
   ·by_cases c:bud<0<;>simp[a,c,d]
   ·simp[a,b,d,Gx]
 ·simp[a]
def Ba4(room:Int)(h0 h1:ByteArray)(sel half bud:Int)(hb:bud<9223372036854775808):Rf room h0 h1 sel half bud=W (Y (Sto.erase room ⟨h0,h1,sel⟩ half bud)):=by
 unfold Rf Sto.erase Sto.act;rw[Qr];generalize hc:Sto.chk room ⟨h0,h1,sel⟩ half bud=c;by_cases h:c=0
 ·subst h;obtain⟨_,hh,hb0⟩:=QH hc;by_cases h2:bud=0
  ·simp[h2,Y]
  ·have hin:N half 2=A:=Ac ω ω;rw[Aa (n:=bud-1) ω ω];have e:(bud==0)=C:=by simpa using h2
   rcases hh with rfl | rfl<;>simp[hin,e,h2,Y,Sto.set,noB]<;>rfl
 ·simp[h,Y,Sto.no,noB,Gx]
def Auy(room:Int)(h0 h1:ByteArray)(sel half bud:Int)(hb:bud<9223372036854775808):Pb room h0 h1 sel half bud=W (Y (Sto.choose room ⟨h0,h1,sel⟩ half bud)):=by
 unfold Pb Sto.choose Sto.act;rw[Qr];generalize hc:Sto.chk room ⟨h0,h1,sel⟩ half bud=c;by_cases h:c=0
 ·subst h;obtain⟨_,hh,hb0⟩:=QH hc;by_cases h2:bud=0
  ·simp[h2,Y]
  ·rw[Aa (n:=bud-1) ω ω];have e:(bud==0)=C:=by simpa using h2
   simp[e,h2,Y]
 ·simp[h,Y,Sto.no,noB,Gx]
def Tu(h0 h1:ByteArray)(sel:Int):NG h0 h1 sel=W ((Sto.cur ⟨h0,h1,sel⟩,()),()):=by unfold NG Sto.cur;by_cases h:sel=1<;>simp[h,Am]
def Aq8(hh:half=0∨half=1)(x:ByteArray):(s.set half x).get half=x:=by rcases hh with rfl | rfl<;>rfl
def set_set(hh:half=0∨half=1)(x y:ByteArray):(s.set half x).set half y=s.set half y:=by rcases hh with rfl | rfl<;>rfl
def Ar0(hh:half=0∨half=1):s.set half (s.get half)=s:=by rcases hh with rfl | rfl<;>rfl
def Aiq(hh:half=0∨half=1):List.getD [s.h0,s.h1] half.toNat (ByteArray.mk (Array.mk []))=s.get half:=by rcases hh with rfl | rfl<;>rfl
def Bav(hh:half=0∨half=1)(x:ByteArray):((bif Nat.beq half.toNat 0 then x else s.h0),((bif Nat.beq half.toNat 1 then x else s.h1),(s.sel,())))=(s.set half x).tup:=by rcases hh with rfl | rfl<;>rfl
def Akg{bud i:Int}{t:Sto}(h:(d.size:Int)≤i):
  DB half d bud i s.h0 s.h1 s.sel t.h0 t.h1 t.sel=W (.inr (.inl ((bud,((),((),()))),(s.tup,(t.tup,()))))):=by
 unfold DB;have e:decide (i<(d.size:Int))=C:=by simp;omega
 rw[e];rfl
def Ahh{i:Int}{t:Sto}(h:i<(d.size:Int)):
  DB half d 0 i s.h0 s.h1 s.sel t.h0 t.h1 t.sel=W (.inr (.inr (((),(0,(8,()))),(s.tup,())))):=by
 unfold DB;have e:decide (i<(d.size:Int))=A:=by simpa using h
 rw[e];rfl
def An6(hh:half=0∨half=1){bud:Int}{i:Nat}{t:Sto}(h:i<d.size)(hd:d.size<1000000)(hb:0<bud)(hb':bud<9223372036854775808)(hs:(s.get half).size<1000000):
  DB half d bud i s.h0 s.h1 s.sel t.h0 t.h1 t.sel=
   W (.inl ((half,(d,(bud-1,((),((),(((i+1:Nat):Int),())))))),((s.set half (s.get half++d.extract i (i+1))).tup,(t.tup,())))):=by
 unfold DB;have e:decide ((i:Int)<(d.size:Int))=A:=by simp;omega
 have e1:(bud==0)=C:=Am ω;have e2:N half 2=A:=Ac ω ω;have w:IntKind.i64.wrap ((i:Int)+1)=((i+1:Nat):Int):=by rw[Aa ω ω];omega
 have w2:IntKind.i64.wrap (bud-1)=bud-1:=Aa ω ω;have e3:(decide ((0:Int)≤((i+1:Nat):Int))&&decide (((i+1:Nat):Int)≤(d.size:Int)))=A:=by simp;omega
 have e4:(decide ((0:Int)≤(i:Int))&&decide ((i:Int)≤((aB ((i+1:Nat):Int):Nat):Int)))=A:=by simp;omega
 have e5:aB ((i+1:Nat):Int)=i+1:=ω;have e6:aB (i:Int)=i:=ω;simp only[e,e1,e2,w,w2,e3,e4,d_,b_,Aiq hh];simp only[e5,e6];have e7:Nat.ble ((s.get half).size+(d.extract i (i+1)).size) 4611686018427387904=A:=Ap (by simp;omega);rw[e7,d_,Bav hh];rfl
def An5{half:Int}(hh:half=0∨half=1){d:ByteArray}{t:Sto}(hd:d.size≤65536):∀(n i:Nat) (bud:Int) (s:Sto),d.size-i=n→i≤d.size→0≤bud→bud<9223372036854775808→(s.get half).size+(d.size-i)≤65536→
  BJ (λx=>DB x.1.1 x.1.2.1 x.1.2.2.1 x.1.2.2.2.2.2.1 x.2.1.1 x.2.1.2.1 x.2.1.2.2.1 x.2.2.1.1 x.2.2.1.2.1 x.2.2.1.2.2.1) (n+1)
    ((half,(d,(bud,((),((),((i:Int),())))))),(s.tup,(t.tup,())))=
   W (if bud<(d.size:Int)-i then .inr (((),(0,(8,()))),((s.set half (s.get half++d.extract i (i+bud.toNat))).tup,()))
    else .inl ((bud-((d.size:Int)-i),((),((),()))),((s.set half (s.get half++d.extract i d.size)).tup,(t.tup,()))))
 |0,i,bud,s,hn,hi,hb,hb',hs=>by
  have:i=d.size:=ω
  subst this;refine AA (y:=_) ?_;rw[if_neg ω,Aij,Ac7,Ar0 hh];show DB half d bud (d.size:Int) s.h0 s.h1 s.sel t.h0 t.h1 t.sel=_;rw[Akg (e0_ _)];simp
 |n+1,i,bud,s,hn,hi,hb,hb',hs=>by
  by_cases h0:bud=0
  ·subst h0;refine AA (y:=_) ?_;rw[if_pos ω];show DB half d 0 (i:Int) s.h0 s.h1 s.sel t.h0 t.h1 t.sel=_;rw[Ahh ω];simp only[Int.toNat_zero,c0_,Aij,Ac7,Ar0 hh]
  ·rw[Bt (show DB half d bud (i:Int) s.h0 s.h1 s.sel t.h0 t.h1 t.sel=_ from An6 hh ω ω ω hb' ω),
    An5 hh hd n (i+1) (bud-1) _ ω ω ω ω (by rw[Aq8 hh];simp;omega)]
   rw[Aq8 hh,set_set hh,set_set hh,ByteArray.append_assoc,ByteArray.append_assoc];by_cases h1:bud<(d.size:Int)-i
   ·rw[if_pos h1,if_pos ω,Ams d ω ω,show i+1+(bud-1).toNat=i+bud.toNat by omega]
   ·rw[if_neg h1,if_neg ω,Ams d ω ω];congr 3
    have:bud-1-((d.size:Int)-((i+1:Nat):Int))=bud-((d.size:Int)-i):=ω
    rw[this]
def Afv(room:Int)(h0 h1:ByteArray)(sel half:Int)(d:ByteArray)(bud:Int)(hb:bud<9223372036854775808)(hd:d.size<1000000) :
  Rh room h0 h1 sel half d bud=W (Y (Sto.write room ⟨h0,h1,sel⟩ half d bud)):=by
 unfold Rh Sto.write;rw[Qr];generalize hc:Sto.chk room ⟨h0,h1,sel⟩ half bud=c;by_cases h:c=0
 ·subst h;obtain⟨⟨o1,o2,o3,o4,o5⟩,hh,hb0⟩:=QH hc;simp only at o3 o4;have hin:N half 2=A:=Ac ω ω;have hg:List.getD [h0,h1] half.toNat (ByteArray.mk (Array.mk []))=Sto.get ⟨h0,h1,sel⟩ half:=Aiq (s:=⟨h0,h1,sel⟩) hh;have hgs:((Sto.get ⟨h0,h1,sel⟩ half).size:Int)≤room:=by rcases hh with rfl | rfl<;>simpa[Sto.get]
  simp only[a_,hin,d_,hg];rw[Aa (n:=((Sto.get ⟨h0,h1,sel⟩ half).size:Int)+d.size) ω ω];by_cases h2:room<((Sto.get ⟨h0,h1,sel⟩ half).size:Int)+d.size
  ·simp[h2,Y,Sto.no,noB]
  ·have hl:=An5 (t:=Sto.no) hh (d:=d) ω d.size 0 bud ⟨h0,h1,sel⟩ ω ω hb0 hb ω;have hl':Lc ((half,(d,(bud,((),((),((0:Int),())))))),((Sto.tup ⟨h0,h1,sel⟩),(Sto.no.tup,())))=_:=Aj hl ω;have e:decide (room<((Sto.get ⟨h0,h1,sel⟩ half).size:Int)+d.size)=C:=by simpa using h2
   have z:((0:Int) !=0)=C:=rfl;simp only[z,b_,h2,e3_,ne_eq,not_true_eq_false];show(Lc ((half,(d,(bud,((),((),((0:Int),())))))),((Sto.tup ⟨h0,h1,sel⟩),(Sto.no.tup,())))).bind _=_;rw[hl'];by_cases h3:bud<d.size
   ·rw[if_pos ω,if_pos h3];simp[Y,Sto.tup]
   ·rw[if_neg ω,if_neg h3];simp[Y,Sto.tup]
 ·simp[h,Y,Sto.no,noB,Gx]
def An8{b:P}(hb:b.small)(hc:b.B0.length≤100){rs:List Record}(hl:rs.length≤100000):Rj b.D0 b.G0 b.I0 b.M0 b.L0 b.N0 b.O0 b.B0 rs=W ((txt (rs.flatMap λr=>bl (Hj b r)),()),()):=by
 have h:=AP (step:=λx=>letI a:=x.2.1.2.2;letI c:=a.2.2;Iq x.1.1 x.1.2.2.1 x.1.2.2.2.1 x.2.1.1 x.2.1.2.1 a.1 a.2.1 c.1 c.2.1 c.2.2.1 c.2.2.2.1) rs.length (λi (l:List UInt8)=>((rs,(),txt l,(i:Int),()),(b.tup,()))) (λi l=>l++bl (Hj b (rs.getD i (aC 0 0 0 0 0)))) (λi l=>l.length≤6*i) (λl=>((txt l,()),())) (λi l hi hs=>by
  have he:=Aif b (rs.getD i (aC 0 0 0 0 0));refine⟨?_,by rw[h_];omega⟩;show Iq rs (txt l) (i:Int) b.D0 b.G0 b.I0 b.M0 b.L0 b.N0 b.O0 b.B0=_;unfold Iq;simp only[c_ (ω:(i:Int)<(rs.length:Int)),Ac (ω:(0:Int)≤(i:Int)) (ω:(i:Int)<(rs.length:Int)),d_,i_,Aki hb hc,a_,Ef hi (show rs.length≤AN by unfold AN;omega)];rw[Ap (show(txt l).size+(Hj b (rs.getD i (aC 0 0 0 0 0))).size≤4611686018427387904 by rw[Fw,← DW];omega)];rw[show txt l++Hj b (rs.getD i (aC 0 0 0 0 0))=txt (l++bl (Hj b (rs.getD i (aC 0 0 0 0 0))))by rw[← Ahw,Br1]];rfl) (λl _=>by
  show Iq rs (txt l) (rs.length:Int) b.D0 b.G0 b.I0 b.M0 b.L0 b.N0 b.O0 b.B0=_;unfold Iq;simp only[f_ (J_ (rs.length:Int)),b_]) rs.length 0 [] ω σ
 have h':=Aj h.1 ω;rw[Hq (λi=>bl (Hj b (rs.getD i (aC 0 0 0 0 0)))),W_,Nd (λr=>bl (Hj b r)) (aC 0 0 0 0 0) rs 0 rs.length ω,P_]at h';unfold Rj;rw[show NS ((rs,(),ByteArray.mk (Array.mk []),(0:Int),()),((b.D0,b.G0,b.I0,b.M0,b.L0,b.N0,b.O0,b.B0,()),()))=_ from h'];rfl
end Go.Ovl
