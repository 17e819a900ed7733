import Derived.Test.YtefobhcldlacgaaGreatDoorOvK
import Derived.Test.YtefobhcldlacgaaGreatDoorOvC
import Derived.Test.YtefobhcldlacgaaGreatDoorOvB
import Derived.Test.YtefobhcldlacgaaGreatDoorOvD
import Derived.Test.YtefobhcldlacgaaGreatDoorOvA
set_option linter.all false
open Go.Ovl.Sat renaming ret->A,bindE->D,bifT->E,bindS->H,bic->J,bifF->aC,loop->aD
open Bool renaming false->B,true->C
open Go.Ovl renaming CarOutput->I,Sat->N,flA->O,phA->S,noV->U,Bldg->V
open Go.Ab renaming inB->R
open List renaming replicate->aA,set_set->aF
open Go.Ovl.CarOutput renaming mk->aB
open Go.Ovl.machine_ticker renaming mk->aE
namespace Go.Ovl
open Go Go.Ab
set_option maxRecDepth 100000
variable{l:List I}{t:Pk}{i:Nat}{b:V}{m:Mch}
@[reducible] def Bss(v:View):=(v.C3,v.D3,v.H3,v.V3,v.E0,v.I0,v.G3,v.I3,v.T2,v.R2,v.D2,v.U1,())
def Azl(hb:b.small){x:NewCar}(h:HK b x=C):Agx x.B2:=by
 have h2:=An0 hb;unfold HK at h;cases hf:x.E3 with
 |true=>rw[hf]at h;simp only[d_,Afh,e_,U_]at h;rw[h.2.2.2.2.2.2.2.2.2.2.1];exact⟨τ,τ⟩
 |false=>have hs:=(VG hb hf).1 (by unfold HK;exact h);have hc:C2 b.C0 x.B2:=hs.1.ca;unfold C2 at hc;exact⟨hc.1,ω⟩
def Bbn{l:List Duty}(hl:l.length≤1000):N (KQ l) λy=>EC (y.2.1.1,y.2.1.2.1):=by unfold KQ;refine H (Q:=λy=>EC (y.2.2.1.1,y.2.2.1.2.1)) ?_ λ_ h=>A h;unfold Jh;refine aD (λ(k:Nat) z=>∃(i:Nat) (c:Int×Int),z=(((),(),l,(l.length:Int),(i:Int),()),((0,0,()),(c.1,c.2,()),()))∧i+k=l.length∧EC c) (λk z hz=>?_) l.length ⟨0,(0,0),rfl,o_ _,GH⟩ ω;obtain⟨i,c,rfl,hk,hc⟩:=hz;show N (Mu l (l.length:Int) (i:Int) 0 0 c.1 c.2) _;unfold Mu;refine J (λq=>?_) λ_=>A hc;have q:(i:Int)<(l.length:Int):=m_ q;have w:=CK (n:=i) ω;refine E (Ac ω q) (D (Ks _ _) (D (Fb c (FH _ _)) ?_));exact A ⟨k-1,ω,i+1,_,by first | (rw[← w];rfl) | rw[← w],ω,OP _ _⟩
structure VI(b:Bldg)(m:Img)(good:Bool)(i:Nat)(v:View):Prop where
 ok:v.ok
 ready:v.C3=(good&&Rw m i)
 serving:v.D3=FJ m i
 lost:v.V3=(flA m i||!FJ m i)
section
variable{b:V}(hw:BW b){x:Inp}{g:Bool}(hx:g=C→InOK b x)
include hw
theorem Bqg(hm:PM b m)(hi:i<b.B0.length)(f:Int)(l:Bool)(d:Int)(k:Bool):N (MW b.C0 b.F0 b.H0 b.M0 b.K0 b.L0 b.N0 b.B0 m.D0.G0 m.D0.O0 m.D0.J0 m.D0.A0 m.D1.h0 m.D1.h1 m.D1.sel m.E1 m.U0 m.B0 m.V2 m.Y1 m.Y2 m.Z3 m.Z2 m.M2 (i:Int) f l d k) λy=>∃v,y=(((),()),(Bss v,()))∧VI b m.D0 C i v:=by
 have i1:R (i:Int) m.D0.G0.length=C:=Ac ω (by rw[hm.jst.img.lp];omega);have i2:R (i:Int) m.U0.length=C:=Ac ω (by rw[hm.bel];omega);have i3:R (i:Int) m.B0.length=C:=Ac ω (by rw[hm.car];omega);have i4:R (i:Int) m.D0.O0.length=C:=Ac ω (by rw[hm.jst.img.lf];omega);have i5:R (i:Int) m.V2.length=C:=Ac ω (by rw[hm.lod];omega);have hc:=Azl hw.small (hm.carv _ (BN Bw (show i<m.B0.length by rw[hm.car];exact hi)));have hd:=((hm.belv i hi).dut).len hw.small;unfold MW;refine E i1 (E i3 (D (Akh hm.jst.img hi) (D (VT hm.jst.img hi) (D (Xs _) ?_))));have z0:Agx 0:=⟨τ,τ⟩
 refine D (b:=(((i:Int),(),(),(),(),S m.D0 i,(),(),()),((b.C0,b.F0,b.H0,b.M0,b.K0,b.L0,b.N0,b.B0,()),(m.D0.G0,m.D0.O0,m.D0.J0,m.D0.A0,m.D1.h0,m.D1.h1,m.D1.sel,m.E1,m.U0,m.B0,m.V2,m.Y1,m.Y2,m.Z3,m.Z2,m.M2,()),(f,l,d,k,()),(B,B,B,B,(0:Int),(0:Int),(0:Int),(0:Int),(0:Int),(0:Int),(0:Int),(0:Int),()),Bbi (m.B0.getD i Bw),(Rw m.D0 i,FJ m.D0 i,Do (S m.D0 i),(O m.D0 i||!FJ m.D0 i),(0:Int),(0:Int),(0:Int),(0:Int),(0:Int),(0:Int),(0:Int),(0:Int),()),()))) ?_ ?_
 ·show(bif R (i:Int) m.D0.O0.length then(bif O m.D0 i then _ else _)else none)=_;rw[i4,d_];cases O m.D0 i<;>rfl
 refine J (λ_=>E i2 (H (Bbn (by show(m.U0.getD i GN).X0.length≤1000;omega)) λy5 h5=>?_)) λ_=>E i5 ?_
 ·exact A ⟨View.mk (Rw m.D0 i) (FJ m.D0 i) (Do (S m.D0 i)) (O m.D0 i||!FJ m.D0 i) (m.U0.getD i GN).E0 (m.U0.getD i GN).I0 0 0 0 0 y5.2.1.1 y5.2.1.2.1,rfl,⟨z0,h5.1,h5.2⟩,rfl,rfl,rfl⟩
 refine H (Q:=λy=>∃(su sd:Int) (o1 o2 o3 o4:Int),y=(((i:Int),(),(),(),(),(),()),((b.C0,b.F0,b.H0,b.M0,b.K0,b.L0,b.N0,b.B0,()),(m.D0.G0,m.D0.O0,m.D0.J0,m.D0.A0,m.D1.h0,m.D1.h1,m.D1.sel,m.E1,m.U0,m.B0,m.V2,m.Y1,m.Y2,m.Z3,m.Z2,m.M2,()),(B,B,B,B,(0:Int),(0:Int),(0:Int),(0:Int),(0:Int),(0:Int),(0:Int),(0:Int),()),Bbi (m.B0.getD i Bw),(Rw m.D0 i,FJ m.D0 i,Do (S m.D0 i),(O m.D0 i||!FJ m.D0 i),f,(m.B0.getD i Bw).X1,o1,su,sd,o2,o3,o4,()),()))) ?_ λy7 h7=>?_
 ·refine J (λ_=>?_) λ_=>A ⟨_,_,_,_,_,_,rfl⟩;exact H (Agh hw.small hw.code (m.B0.getD i Bw) f l d k) λ_ _=>A ⟨_,_,_,_,_,_,rfl⟩
 obtain⟨su,sd,o1,o2,o3,o4,rfl⟩:=h7;refine H (Al5 hw hm.jst.img (i:Int)) λy8 h8=>?_;exact A ⟨View.mk (Rw m.D0 i) (FJ m.D0 i) (Do (S m.D0 i)) (O m.D0 i||!FJ m.D0 i) f (m.B0.getD i Bw).X1 o1 su sd (m.B0.getD i Bw).B2 y8.2.1.1 y8.2.1.2.1,rfl,⟨hc,h8.1,h8.2⟩,rfl,rfl,rfl⟩
structure VA(b:Bldg)(m:Img)(good:Bool)(vs:List View):Prop where
 len:vs.length=b.B0.length
 vi:∀i,i<b.B0.length→VI b m good i (vs.getD i noV)
theorem VA.ok{m:Img}{vs:List View}(h:VA b m g vs):okViews vs:=λv hv=>by
 obtain⟨i,hi,rfl⟩:=g2_ hv
 have:=(h.vi i (by rw[← h.len];exact hi)).ok
 rwa [k_,i_ hi]at this
include hx
theorem Bir(hm:PM b t.m)(hr:PR b t):N (CP (t.ap aE b x g)) λy=>∃vs:List View,y=((vs,()),())∧VA b t.m.D0 g vs:=by
 have hcc:=Aj hw.code;unfold CP;refine E (by show((decide ((0:Int)≤(b.B0.length:Int))&&decide ((b.B0.length:Int)≤(b.B0.length:Int)))&&decide ((b.B0.length:Int)≤2147483648))=C;simp only[e_,t_];omega) (H (Q:=λy=>∃vs:List View,y=((vs,()),())∧VA b t.m.D0 g vs) ?_ λy h=>by obtain⟨c,rfl,h⟩:=h;exact A ⟨c,rfl,h⟩);have h0:(aA (Int.toNat (b.B0.length:Int)) U).length=b.B0.length:=by rw[T_];omega
 show N (Cz ((t.ap aE b x g,aA (Int.toNat (b.B0.length:Int)) U,(((aA (Int.toNat (b.B0.length:Int)) U).length:Nat):Int),0,()),())) _;generalize aA (Int.toNat (b.B0.length:Int)) U=L at h0;unfold Cz;refine aD (λ(k:Nat) z=>∃(i:Nat) (vs:List View),z=((t.ap aE b x g,vs,(L.length:Int),(i:Int),()),())∧i+k=L.length∧vs.length=b.B0.length∧∀j,j<i→VI b t.m.D0 g j (vs.getD j U)) (λk z hz=>?_) L.length ⟨0,L,rfl,o_ _,h0,λj hj=>absurd hj (d5_ j)⟩ ω;obtain⟨i,vs,rfl,hk,hl,hv⟩:=hz;show N (Fh (t.ap aE b x g) vs (L.length:Int) (i:Int)) _;unfold Fh;refine J (λq=>?_) λq=>A ⟨vs,rfl,hl,λj hj=>hv j (by have q:=D_ q;omega)⟩;have q:(i:Int)<(L.length:Int):=m_ q;have hi:i<b.B0.length:=ω;have w:=CK (n:=i) ω;have il:R (i:Int) vs.length=C:=Ac ω ω;have put:∀{v:View},VI b t.m.D0 g i v→∀j,j<i+1→VI b t.m.D0 g j ((vs.set i v).getD j U):=λ{v} h j hj=>by
  by_cases e:i=j
  ·subst e;rw[Bf _ _ ω];exact h
  ·rw[BZ _ _ e];exact hv j ω
 refine J (λhg=>?_) λhg=>?_
 ·have hg:g=B:=by simpa using(show(!g)=C from hg)
  refine D (VT hm.jst.img hi) ?_;have i4:R (i:Int) t.m.D0.O0.length=C:=Ac ω (by rw[hm.jst.img.lf];omega);refine D (b:=((t.ap aE b x g,vs.set i (View.mk B (FJ t.m.D0 i) B (O t.m.D0 i||!FJ t.m.D0 i) (-1) 0 0 0 0 0 0 0),(L.length:Int),(i:Int),()),())) ?_ ?_
  ·show(bif R (i:Int) t.m.D0.O0.length then(bif O t.m.D0 i then(bif R (i:Int) vs.length then _ else none)else(bif R (i:Int) vs.length then _ else none))else none)=_;rw[i4,il,d_,d_];cases O t.m.D0 i<;>rfl
  have z0:Agx 0:=⟨τ,τ⟩
  exact A ⟨k-1,ω,i+1,_,by first | (rw[← w];rfl) | rw[← w],ω,by rw[x_];exact hl,put ⟨⟨z0,z0,z0⟩,by rw[hg];rfl,rfl,rfl⟩⟩
 ·have hg:g=C:=by simpa using(show(!g)=B from hg)
  have hxl:=(hx hg).len;refine E (Ac ω (ω:(i:Int)<(x.cars.length:Int))) (H (Bqg hw hm hi _ _ _ _) λy3 h3=>E il ?_);obtain⟨v,rfl,hvi⟩:=h3;rw[← hg]at hvi;refine E (Ac ω (show(i:Int)<(t.legacy.length:Int)by rw[hr.leg];omega)) (J (λ_=>?_) λ_=>?_)
  ·refine E (Ac ω (show(i:Int)<(t.shows.length:Int)by rw[hr.sho];omega)) (E (Ac ω (by rw[x_];omega)) ?_);refine A ⟨k-1,ω,i+1,(vs.set i v).set i (View.mk v.C3 v.D3 v.H3 v.V3 v.E0 v.I0 v.G3 (t.shows.getD i (Calls.mk 0 0)).Up (t.shows.getD i (Calls.mk 0 0)).X3 v.R2 v.D2 v.U1),?_,ω,by rw[x_,x_];exact hl,λj hj=>?_⟩
   ·have e:(vs.set i v).getD i U=v:=Bf _ _ ω
    first
     |(rw[← w];show((_,List.set (vs.set i v) i (View.mk ((vs.set i v).getD i U).C3 ((vs.set i v).getD i U).D3 ((vs.set i v).getD i U).H3 ((vs.set i v).getD i U).V3 ((vs.set i v).getD i U).E0 ((vs.set i v).getD i U).I0 ((vs.set i v).getD i U).G3 _ _ ((vs.set i v).getD i U).R2 ((vs.set i v).getD i U).D2 ((vs.set i v).getD i U).U1),_,_,()),())=_;rw[e];rfl)
   ·rw[aF];exact put (v:=View.mk v.C3 v.D3 v.H3 v.V3 v.E0 v.I0 v.G3 (t.shows.getD i (Calls.mk 0 0)).Up (t.shows.getD i (Calls.mk 0 0)).X3 v.R2 v.D2 v.U1) ⟨⟨hvi.ok.c,hvi.ok.u,hvi.ok.d⟩,hvi.ready,hvi.serving,hvi.lost⟩ j hj
  ·exact A ⟨k-1,ω,i+1,vs.set i v,by first | (rw[← w];rfl) | rw[← w],ω,by rw[x_];exact hl,put hvi⟩
end
def Au:I:=aB 0 0 B 0 0 B 0 0 B
noncomputable def PV(b:V)(x:Inp)(g:Bool)(t:Pk)(vs:List View):Rnd:=Eu b t.m.D0 t.m.Y1 vs t.m.Y2 x.press g
def Gb:List Record→Int×Int→Int×Int
 |[],c=>c
 |r::l,c=>Gb l (bif r.Q0==2 then BS c (FH r.E0 r.I0)else c)
def Amr(r:Rnd)(i:Nat)(c d:I):Prop:=d.K2=(r.lan.lit.getD i noP).Up∧d.G2=(r.lan.lit.getD i noP).X3∧d.G5=r.lan.gong.getD i B∧d.N3=c.N3
def PM.rnd(h:PM b m){r:Rnd}(hg:Rg b m.D0 r)(hl:r.lan.lit.length=b.B0.length){s:Sto}(hj:Jst b s r.img){n:Int}(hn:0≤n∧n≤1000000):PM b { m with D0:=r.img,D1:=s,Y1:=r.xs,Y2:=r.lan.lit,M2:=n }:=⟨hj,h.con,h.conv,h.bel,h.belv,h.car,h.carv,h.lod,h.lodv,hl,hg.ok.len,hg.xs,h.tick,h.flt,hn⟩
structure Dsp(b:Bldg)(x:Inp)(g:Bool)(t t':Pk)(vs:List View):Prop where
 va:VA b t.m.D0 g vs
 ve:CP (t.ap machine_ticker.mk b x g)=some ((vs,()),())
 rg:Rg b t.m.D0 (PV b x g t vs)
 res:Al b t t' (PV b x g t vs).recs∨De b t t' (PV b x g t vs).recs
 out:t'.out={ t.out with X2:=(Gb (PV b x g t vs).recs (t.out.X2,t.out.L2)).1,L2:=(Gb (PV b x g t vs).recs (t.out.X2,t.out.L2)).2,L0:=!isZ (PV b x g t vs).ref,B0:=t'.out.B0 }
 oc:t'.out.B0.length=b.B0.length
 cars:∀i,i<b.B0.length→Amr (PV b x g t vs) i (t.out.B0.getD i Au) (t'.out.B0.getD i Au)
 rst:t'.reset=t.reset
def Ccj(hi:i<l.length)(f g:I→I):(l.set i (f (l.getD i Au))).set i (g ((l.set i (f (l.getD i Au))).getD i Au))=l.set i (g (f (l.getD i Au))):=by rw[Bf _ _ hi,aF]
def Pk.sServ(t:Pk)(c:Int×Int):Pk:={ t with out:={ t.out with X2:=c.1,L2:=c.2 } }
def Pk.sOuts(t:Pk)(l:List I):Pk:={ t with out:={ t.out with B0:=l } }
section
variable{b:V}(hw:BW b){x:Inp}{g:Bool}(hx:g=C→InOK b x)
theorem Ayq(r:Rnd)(hr:r.recs.length≤1000)(t:Pk):N (Cb (((),(),r.recs,(r.recs.length:Int),(0:Int),()),(r.tup,t.tup b x g,()))) λy=>y=(((),(),()),(r.tup,(t.sServ (Gb r.recs (t.out.X2,t.out.L2))).tup b x g,())):=by
 unfold Cb;refine aD (λ(k:Nat) z=>∃(i:Nat) (c:Int×Int),z=(((),(),r.recs,(r.recs.length:Int),(i:Int),()),(r.tup,(t.sServ c).tup b x g,()))∧i+k=r.recs.length∧Gb (r.recs.drop i) c=Gb r.recs (t.out.X2,t.out.L2)) (λk z hz=>?_) r.recs.length ⟨0,(t.out.X2,t.out.L2),rfl,o_ _,rfl⟩ ω;obtain⟨i,c,rfl,hk,hs⟩:=hz;show N ((t.sServ c).ap (Ez r.recs (r.recs.length:Int) (i:Int) r.recs r.img.G0 r.img.O0 r.img.J0 r.img.A0 r.xs r.lan.lit r.lan.gong r.lan.cl.1 r.lan.cl.2 r.ref.1 r.ref.2) b x g) _;unfold Pk.ap Ez;refine J (λq=>?_) λq=>A ?_
 ·have q:(i:Int)<(r.recs.length:Int):=m_ q;have hi:i<r.recs.length:=ω;have w:=CK (n:=i) ω;rw[Cu IA hi]at hs;refine E (Ac ω q) (J (λh=>D (Ks _ _) (D (Fb c (FH _ _)) ?_)) λh=>?_)
  ·refine A ⟨k-1,ω,i+1,BS c (FH (r.recs.getD i IA).E0 (r.recs.getD i IA).I0),by first | (rw[← w];rfl) | rw[← w],ω,?_⟩;rw[← hs];have h:((r.recs.getD i IA).Q0==2)=C:=h;show _=Gb (r.recs.drop (i+1)) (bif(r.recs.getD i IA).Q0==2 then _ else _);rw[h];rfl
  ·refine A ⟨k-1,ω,i+1,c,by first | (rw[← w];rfl) | rw[← w],ω,?_⟩;rw[← hs];have h:((r.recs.getD i IA).Q0==2)=B:=h;show _=Gb (r.recs.drop (i+1)) (bif(r.recs.getD i IA).Q0==2 then _ else _);rw[h];rfl
 ·have q:=D_ q;rw[List.drop_of_length_le ω]at hs;show _=(((),(),()),(r.tup,(t.sServ (Gb r.recs (t.out.X2,t.out.L2))).tup b x g,()));rw[← hs];rfl
theorem Ayr(r:Rnd)(hn:t.out.B0.length≤1000)(hl:r.lan.lit.length=t.out.B0.length)(hg:r.lan.gong.length=t.out.B0.length):N (Cc (((),(),(t.out.B0.length:Int),(0:Int),()),(r.tup,t.tup b x g,()))) λy=>∃l,y=((),((t.sOuts l).tup b x g,()))∧l.length=t.out.B0.length∧∀j,j<t.out.B0.length→Amr r j (t.out.B0.getD j Au) (l.getD j Au):=by
 unfold Cc;refine aD (λ(k:Nat) z=>∃(i:Nat) (l:List I),z=(((),(),(t.out.B0.length:Int),(i:Int),()),(r.tup,(t.sOuts l).tup b x g,()))∧i+k=t.out.B0.length∧l.length=t.out.B0.length∧(∀j,j<i→Amr r j (t.out.B0.getD j Au) (l.getD j Au))∧∀j,i≤j→l.getD j Au=t.out.B0.getD j Au) (λk z hz=>?_) t.out.B0.length ⟨0,t.out.B0,rfl,o_ _,rfl,λj hj=>absurd hj (d5_ j),λj _=>rfl⟩ ω;obtain⟨i,l,rfl,hk,hll,h1,h2⟩:=hz;show N ((t.sOuts l).ap (EA (t.out.B0.length:Int) (i:Int) r.recs r.img.G0 r.img.O0 r.img.J0 r.img.A0 r.xs r.lan.lit r.lan.gong r.lan.cl.1 r.lan.cl.2 r.ref.1 r.ref.2) b x g) _;unfold Pk.ap EA;refine J (λq=>?_) λq=>A ⟨l,rfl,hll,λj hj=>h1 j (by have:=D_ q;omega)⟩;have q:(i:Int)<(t.out.B0.length:Int):=m_ q;have hi:i<l.length:=ω;have w:=CK (n:=i) ω;refine E (Ac ω ω) (E (Ac ω ω) (E (Ac ω (ω:(i:Int)<(l.length:Int))) (E (Ac ω (by rw[x_];show(i:Int)<(l.length:Int);omega)) ?_)));refine A ⟨k-1,ω,i+1,l.set i (aB (l.getD i Au).E2 (l.getD i Au).V1 (l.getD i Au).I2 (r.lan.lit.getD i noP).Up (r.lan.lit.getD i noP).X3 (r.lan.gong.getD i B) (l.getD i Au).N3 (l.getD i Au).N1 (l.getD i Au).S5),?_,ω,?_,λj hj=>?_,λj hj=>?_⟩
 ·have key:=Ccj hi (λc=>aB c.E2 c.V1 c.I2 (r.lan.lit.getD i noP).Up (r.lan.lit.getD i noP).X3 c.G5 c.N3 c.N1 c.S5) (λc=>aB c.E2 c.V1 c.I2 c.K2 c.G2 (r.lan.gong.getD i B) c.N3 c.N1 c.S5);rw[← w];exact c0_ (λL=>(((),(),(t.out.B0.length:Int),IntKind.i64.wrap ((i:Int)+1),()),(r.tup,(t.sOuts L).tup b x g,()))) key
 ·rw[x_];exact hll
 ·by_cases e:i=j
  ·subst e;rw[Bf _ _ hi];exact⟨rfl,rfl,rfl,by rw[← h2 i (y_ i)]⟩
  ·rw[BZ _ _ e];exact h1 j ω
 ·rw[BZ _ _ ω];exact h2 j ω
end
def Pk.sRnd(t:Pk)(r:Rnd)(n:Int)(f:Bool):Pk:={ t with m:={ t.m with Y1:=r.xs,Y2:=r.lan.lit,M2:=n },out:={ t.out with L0:=f } }
section
variable{b:V}(hw:BW b){x:Inp}{g:Bool}(hx:g=C→InOK b x)
include hw hx
theorem Ast(hm:PM b t.m)(hr:PR b t)(hb:Bud t):N (t.ap Df b x g) λy=>∃(t':Pk) (vs:List View),y=((),(t'.tup b x g,()))∧Dsp b x g t t' vs:=by
 have hcc:=Aj hw.code;unfold Pk.ap Df;obtain⟨y1,hve,vs,rfl,hva⟩:=Bir hw hx hm hr;refine D hve ?_;have hxv:inX t.m.Y1:=hm.exv;have hd:=Abc hw.small hw.code hm.jst.img hm.exl t.m.Y2 x.press g hxv.exp (VA.ok hw hva) hva.len hm.lit;obtain⟨hrg,hrl⟩:=Acg hw.small hw.code hm.jst.img hm.exl hxv t.m.Y2 x.press g hva.len;obtain⟨hl1,hl2⟩:=Aiv b t.m.D0 t.m.Y1 vs t.m.Y2 x.press g;rw[hva.len]at hl1 hl2;refine D hd ?_;have hR:Eu b t.m.D0 t.m.Y1 vs t.m.Y2 x.press g=PV b x g t vs:=rfl;rw[hR]at hrg hrl hl1 hl2⊢;have fin:∀(t':Pk),(Al b t t' (PV b x g t vs).recs∨De b t t' (PV b x g t vs).recs)→_→_→_→_→Dsp b x g t t' vs:=λt' h1 h2 h3 h4 h5=>⟨hva,hve,hrg,h1,h2,h3,h4,h5⟩
 generalize hrr:PV b x g t vs=r at hrg hrl hl1 hl2 fin;refine Sat.bindR ?_;refine H (Q:=λy=>∃t',y=(((),(),()),(r.tup,t'.tup b x g,()))∧Wr b t r.recs t') ?_ λy6 h6=>?_
 ·refine H (ZL hw.small (x:=x) (g:=g) hm.jst hb.2 hb.1 hrg.good (ω:r.recs.length≤100000)) λy4 h4=>?_;obtain⟨t',e | e,h⟩:=h4
  ·subst e;exact A ⟨t',rfl,h⟩
  ·subst e;exact A ⟨t',rfl,h⟩
 obtain⟨t1,rfl,hw1⟩:=h6;obtain⟨im,s,bu,e,rfl,hw1⟩:=hw1;refine H (Q:=λy=>∃n,y=(((),(),()),(r.tup,((t.wr im s bu e).sRnd r n (!isZ r.ref)).tup b x g,()))∧0≤n∧n≤1000000) (J (λq=>H (Amx hm.ref) λy7 h7=>A ⟨y7.1.1,rfl,h7⟩) λq=>A ⟨t.m.M2,rfl,hm.ref⟩) λy8 h8=>?_;obtain⟨n,rfl,hn⟩:=h8;refine H (Ayq r ω ((t.wr im s bu e).sRnd r n (!isZ r.ref))) λy9 h9=>?_;subst h9;refine H (Ayr r (t:=((t.wr im s bu e).sRnd r n (!isZ r.ref)).sServ (Gb r.recs (t.out.X2,t.out.L2))) (by show t.out.B0.length≤1000;rw[hr.oc];omega) (by show _=t.out.B0.length;rw[hr.oc];exact hl1) (by show _=t.out.B0.length;rw[hr.oc];exact hl2)) λy10 h10=>?_;obtain⟨l,rfl,hl,hc⟩:=h10;replace hl:l.length=t.out.B0.length:=hl;replace hc:∀j,j<t.out.B0.length→Amr r j (t.out.B0.getD j Au) (l.getD j Au):=hc;rw[hr.oc]at hl hc;refine A ⟨_,vs,rfl,fin _ ?_ rfl hl hc rfl⟩;have hroom:=Anm hw r.recs.length;rcases hw1 with⟨rfl,rfl,h1,h2,h3,h4,_⟩ | ⟨rfl,h1,h2,h3⟩
 ·rw[hrg.img]at h1;refine .inl ⟨rfl,?_,⟨hr.leg,hr.sho,hr.rst,hl⟩,rfl,h3,h4,(by show t.budget-_≤bu;omega),rfl⟩
  have:=hm.rnd hrg hl1 h1 hn
  rw[← hrg.img]at this;exact this
 ·exact .inr ⟨rfl,ω,h2,h3⟩
end
def Ajo(p a d:Int)(k:Bool):Prop:=(a=0∧d=0∧k=C)∨(Do p=C∧k=B)
def Te(p c:Int):Bool:=c==0||(p==3||p==4)
def Arj(p c:Int):EU p c=some ((Te p c,()),()):=by unfold EU Te;cases c==0<;>cases p==3<;>rfl
def Uu(p:Int):Ka p=some ((Do p,()),()):=by unfold Ka Do;cases p==0<;>rfl
section
variable{b:V}(hw:BW b){x:Inp}{g:Bool}
include hw
theorem Bhg(hi:i<b.B0.length)(p:Int){s:Belief}(h:BelOK b i s):N (MR b.C0 b.F0 b.H0 b.M0 b.K0 b.L0 b.N0 b.B0 (i:Int) p s.E0 s.I0 s.F3 s.X0 s.A3 s.R3) λy=>∃a d k,y=(((),()),((a,d,k,()),()))∧Ajo p a d k:=by
 have hd:=h.dut.len hw.small;unfold MR;refine D (Uu p) (J (λ_=>A ⟨0,0,C,rfl,.inl ⟨rfl,rfl,rfl⟩⟩) λq=>?_);have q:Do p=C:=by simpa using(show(!Do p)=B from q)
 refine D (IR hw.small hw.code hi h) (aC rfl ?_);refine H (Q:=λy=>∃a d,y=(((),(),()),((0,0,B,()),(a,d,B,()),()))) ?_ λy hy=>by obtain⟨a,d,rfl⟩:=hy;exact A ⟨a,d,B,rfl,.inr ⟨q,rfl⟩⟩
 unfold KV;refine aD (λ(k:Nat) z=>∃(j:Nat) (c:Int×Int),z=(((i:Int),(),(),(),s.X0,(s.X0.length:Int),(j:Int),()),((b.C0,b.F0,b.H0,b.M0,b.K0,b.L0,b.N0,b.B0,()),(0,0,B,()),(c.1,c.2,B,()),()))∧j+k=s.X0.length) (λk z hz=>?_) s.X0.length ⟨0,(0,0),rfl,o_ _⟩ ω;obtain⟨j,c,rfl,hk⟩:=hz;show N (Ow (i:Int) s.X0 (s.X0.length:Int) (j:Int) b.C0 b.F0 b.H0 b.M0 b.K0 b.L0 b.N0 b.B0 0 0 B c.1 c.2 B) _;unfold Ow;refine J (λq=>?_) λ_=>A ⟨_,_,rfl⟩;have q:(j:Int)<(s.X0.length:Int):=m_ q;have w:=CK (n:=j) ω;refine E (Ac ω q) (E (Ac ω ω) (J (λ_=>D (Ks _ _) (D (Fb c (FH _ _)) ?_)) λ_=>?_))
 ·exact A ⟨k-1,ω,j+1,_,by first | (rw[← w];rfl) | rw[← w],ω⟩
 ·exact A ⟨k-1,ω,j+1,c,by first | (rw[← w];rfl) | rw[← w],ω⟩
end
def o1(c:I)(a d:Int)(k:Bool):I:=aB a d k c.K2 c.G2 c.G5 c.N3 c.N1 c.S5
def o2(c:I)(p:Int):I:=aB c.E2 c.V1 c.I2 c.K2 c.G2 c.G5 c.N3 p c.S5
def o3(c:I)(f:Bool):I:=aB c.E2 c.V1 c.I2 c.K2 c.G2 c.G5 c.N3 c.N1 f
def o4(c:I):I:=aB c.E2 c.V1 c.I2 c.K2 c.G2 c.G5 0 c.N1 c.S5
def Bcb(l:List I)(i:Nat)(a d:Int)(k:Bool):List I:=l.set i (o1 (l.getD i Au) a d k)
def Bcc(l:List I)(i:Nat)(a d:Int)(k:Bool)(p:Int):List I:=(Bcb l i a d k).set i (o2 ((Bcb l i a d k).getD i Au) p)
def Afz(l:List I)(i:Nat)(a d:Int)(k:Bool)(p:Int)(f:Bool):List I:=(Bcc l i a d k p).set i (o3 ((Bcc l i a d k p).getD i Au) f)
def Ajz(l:List I)(i:Nat)(a d:Int)(k:Bool)(p:Int)(f:Bool):List I:=(Afz l i a d k p f).set i (o4 ((Afz l i a d k p f).getD i Au))
def Aqc(hi:i<l.length)(a d:Int)(k:Bool)(p:Int)(f:Bool):Afz l i a d k p f=l.set i (o3 (o2 (o1 (l.getD i Au) a d k) p) f):=by unfold Afz Bcc Bcb;simp only[Bf _ _ hi,aF]
def Bca(hi:i<l.length)(a d:Int)(k:Bool)(p:Int)(f:Bool):Ajz l i a d k p f=l.set i (o4 (o3 (o2 (o1 (l.getD i Au) a d k) p) f)):=by unfold Ajz;rw[Aqc hi,Bf _ _ hi,aF]
structure FinO(m:Img)(i:Nat)(c d:CarOutput):Prop where
 lu:d.K2=c.K2
 ld:d.G2=c.G2
 gong:d.G5=c.G5
 phase:d.N1=phA m i
 flag:d.S5=flA m i
 coils:Ajo (phA m i) d.E2 d.V1 d.I2
 cmd:Te (phA m i) d.N3=true
structure Fin(b:Bldg)(g:Bool)(t t':Pk):Prop where
 m:PM b t'.m
 im:t'.m.D0=t.m.D0
 st:t'.m.D1=t.m.D1
 bu:t'.budget=t.budget
 e:t'.e=t.e
 out:t'.out={ t.out with Y3:=(ofC t.m.D0.A0 (0,0)).1,J3:=(ofC t.m.D0.A0 (0,0)).2,V5:=!g,B0:=t'.out.B0 }
 oc:t'.out.B0.length=b.B0.length
 cars:∀i,i<b.B0.length→FinO t.m.D0 i (t.out.B0.getD i Au) (t'.out.B0.getD i Au)
 con:t'.m.E1=t.m.E1
def Pk.sLmp(t:Pk)(c:Int×Int)(f:Bool):Pk:={ t with out:={ t.out with Y3:=c.1,J3:=c.2,V5:=f } }
section
variable{b:V}(hw:BW b){x:Inp}{g:Bool}
include hw
set_option maxHeartbeats 4000000 in
theorem Bcd(hm:PM b t.m)(hr:PR b t):N (Cq (((),t.m.D0.G0,(t.m.D0.G0.length:Int),(0:Int),()),(t.tup b x g,()))) λy=>∃t',y=((),(t'.tup b x g,()))∧PM b t'.m∧Fix t t'∧t'.out.B0.length=b.B0.length∧∀i,i<b.B0.length→FinO t.m.D0 i (t.out.B0.getD i Au) (t'.out.B0.getD i Au):=by
 have hcc:=Aj hw.code;have hp:=hm.jst.img.lp;unfold Cq;refine aD (λ(k:Nat) z=>∃(i:Nat) (t':Pk),z=(((),t.m.D0.G0,(t.m.D0.G0.length:Int),(i:Int),()),(t'.tup b x g,()))∧i+k=b.B0.length∧PM b t'.m∧PR b t'∧Fix t t'∧(∀j,j<i→FinO t.m.D0 j (t.out.B0.getD j Au) (t'.out.B0.getD j Au))∧∀j,i≤j→t'.out.B0.getD j Au=t.out.B0.getD j Au) (λk z hz=>?_) b.B0.length ⟨0,t,rfl,o_ _,hm,hr,.rfl' t,λj hj=>absurd hj (d5_ j),λj _=>rfl⟩ ω;obtain⟨i,u,rfl,hk,hmu,hru,hf,h1,h2⟩:=hz;show N (u.ap (EX t.m.D0.G0 (t.m.D0.G0.length:Int) (i:Int)) b x g) _;unfold Pk.ap EX;refine J (λq=>?_) λq=>A ⟨u,rfl,hmu,hf,hru.oc,λj hj=>h1 j (by have:=D_ q;omega)⟩;have q:(i:Int)<(t.m.D0.G0.length:Int):=m_ q;have hi:i<b.B0.length:=ω;have w:=CK (n:=i) ω;have ifl:R (i:Int) u.m.D0.O0.length=C:=Ac ω (by rw[hmu.jst.img.lf];omega);refine E (Ac ω q) ?_;refine H (Q:=λy=>∃v:Pk,y=(((),(i:Int),S t.m.D0 i,t.m.D0.G0,(t.m.D0.G0.length:Int),(i:Int),()),(v.tup b x g,()))∧PM b v.m∧PR b v∧Fix t v∧v.out=u.out) ?_ λy5 h5=>?_
 ·refine H (Q:=λy=>∃c:Bool,y=(((),(i:Int),S t.m.D0 i,t.m.D0.G0,(t.m.D0.G0.length:Int),(i:Int),c,()),(u.tup b x g,()))) (D (Xs _) (J (λ_=>E ifl (A ⟨_,rfl⟩)) λ_=>A ⟨_,rfl⟩)) λy2 h2=>?_;obtain⟨c,rfl⟩:=h2;have i2:R (i:Int) u.m.U0.length=C:=Ac ω (by rw[hmu.bel];omega);refine J (λ_=>E i2 ?_) λ_=>A ⟨u,rfl,hmu,hru,hf,rfl⟩;refine H (Al5 hw hmu.jst.img (i:Int)) λy3 _=>H (Acw hw.small hw.code hi (hmu.belv i hi) _ _) λy4 h4=>E i2 ?_;obtain⟨ya,yb,yc⟩:=y4;obtain⟨v,e4,hv⟩:=h4;change yb=_ at e4;subst e4;exact A ⟨u.sBel i v,rfl,hmu.sBel hv,hru.sBel i v,⟨⟨hf.im,hf.st,hf.bu,hf.e,hf.out⟩,hf.con⟩,rfl⟩
 obtain⟨v,rfl,hmv,hrv,hfv,hov⟩:=h5;have j2:R (i:Int) v.m.U0.length=C:=Ac ω (by rw[hmv.bel];omega);have jo:R (i:Int) v.out.B0.length=C:=Ac ω (by rw[hrv.oc];omega);have jf:R (i:Int) v.m.D0.O0.length=C:=Ac ω (by rw[hmv.jst.img.lf];omega);have jr:R (i:Int) v.reset.length=C:=Ac ω (by rw[hrv.rst];omega);have hio:i<v.out.B0.length:=by rw[hrv.oc];exact hi
 refine E jo (E j2 (H (Bhg hw hi _ (hmv.belv i hi)) λy6 h6=>E jf (E jr ?_)));obtain⟨a,d,kc,rfl,hcoil⟩:=h6;have hprev:v.out.B0.getD i Au=t.out.B0.getD i Au:=by rw[hov];exact h2 i (y_ i)
 have hflag:O v.m.D0 i=O t.m.D0 i:=by rw[hfv.im]
 have e9:=Aqc hio a d kc (S t.m.D0 i) (O v.m.D0 i);have e10:=Bca hio a d kc (S t.m.D0 i) (O v.m.D0 i);have done:∀c:I,FinO t.m.D0 i (t.out.B0.getD i Au) c→PM b (v.sOuts (v.out.B0.set i c)).m∧PR b (v.sOuts (v.out.B0.set i c))∧Fix t (v.sOuts (v.out.B0.set i c))∧(∀j,j<i+1→FinO t.m.D0 j (t.out.B0.getD j Au) ((v.sOuts (v.out.B0.set i c)).out.B0.getD j Au))∧∀j,i+1≤j→(v.sOuts (v.out.B0.set i c)).out.B0.getD j Au=t.out.B0.getD j Au:=λc hc=>by
  refine⟨hmv,⟨hrv.leg,hrv.sho,hrv.rst,by show(v.out.B0.set i c).length=_;rw[x_];exact hrv.oc⟩,⟨⟨hfv.im,hfv.st,hfv.bu,hfv.e,by show({ v.out with B0:=_ }:Outputs)=_;rw[hfv.out];rfl⟩,hfv.con⟩,λj hj=>?_,λj hj=>?_⟩
  ·show FinO t.m.D0 j (t.out.B0.getD j Au) ((v.out.B0.set i c).getD j Au);by_cases e:i=j
   ·subst e;rw[Bf _ _ hio];exact hc
   ·rw[BZ _ _ e,hov];exact h1 j ω
  ·show(v.out.B0.set i c).getD j Au=_;rw[BZ _ _ ω,hov];exact h2 j ω
 refine J (λ_=>?_) λ_=>D (Arj _ _) (J (λq7=>?_) λq7=>?_)
 ·obtain⟨d1,d2,d3,d4,d5⟩:=done (o4 (o3 (o2 (o1 (v.out.B0.getD i Au) a d kc) (S t.m.D0 i)) (O v.m.D0 i))) ⟨by rw[← hprev];rfl,by rw[← hprev];rfl,by rw[← hprev];rfl,rfl,hflag,hcoil,rfl⟩;refine A ⟨k-1,ω,i+1,v.sOuts (Ajz v.out.B0 i a d kc (S t.m.D0 i) (O v.m.D0 i)),by first | (rw[← w];rfl) | rw[← w],ω,?_⟩;rw[e10];exact⟨d1,d2,d3,d4,d5⟩
 ·obtain⟨d1,d2,d3,d4,d5⟩:=done (o4 (o3 (o2 (o1 (v.out.B0.getD i Au) a d kc) (S t.m.D0 i)) (O v.m.D0 i))) ⟨by rw[← hprev];rfl,by rw[← hprev];rfl,by rw[← hprev];rfl,rfl,hflag,hcoil,rfl⟩;refine A ⟨k-1,ω,i+1,v.sOuts (Ajz v.out.B0 i a d kc (S t.m.D0 i) (O v.m.D0 i)),by first | (rw[← w];rfl) | rw[← w],ω,?_⟩;rw[e10];exact⟨d1,d2,d3,d4,d5⟩
 ·have q7:(!Te (S t.m.D0 i) ((Afz v.out.B0 i a d kc (S t.m.D0 i) (O v.m.D0 i)).getD i Au).N3)=B:=q7;rw[e9,Bf _ _ hio]at q7;obtain⟨d1,d2,d3,d4,d5⟩:=done (o3 (o2 (o1 (v.out.B0.getD i Au) a d kc) (S t.m.D0 i)) (O v.m.D0 i)) ⟨by rw[← hprev];rfl,by rw[← hprev];rfl,by rw[← hprev];rfl,rfl,hflag,hcoil,by simpa using q7⟩;refine A ⟨k-1,ω,i+1,v.sOuts (Afz v.out.B0 i a d kc (S t.m.D0 i) (O v.m.D0 i)),by first | (rw[← w];rfl) | rw[← w],ω,?_⟩;rw[e9];exact⟨d1,d2,d3,d4,d5⟩
theorem Bcf(hm:PM b t.m)(hr:PR b t):N (t.ap DE b x g) λy=>∃t',y=((),(t'.tup b x g,()))∧Fin b g t t':=by
 have he:=Dg hw.small hm.jst.img;have hlm:He t.m.D0.G0 t.m.D0.O0 t.m.D0.J0 t.m.D0.A0=some (((),()),(((ofC t.m.D0.A0 (0,0)).1,(ofC t.m.D0.A0 (0,0)).2,()),())):=by unfold He;exact Ae (Aah ω) rfl
 unfold Pk.ap DE;refine D hlm ?_;refine H (Bcd hw (x:=x) (g:=g) (t:=t.sLmp (ofC t.m.D0.A0 (0,0)) (!g)) hm ⟨hr.leg,hr.sho,hr.rst,hr.oc⟩) λy2 h2=>?_;obtain⟨t',rfl,h1,h2,h3,h4⟩:=h2;exact A ⟨t',rfl,h1,h2.im,h2.st,h2.bu,h2.e,by rw[h2.out];rfl,h3,h4,h2.con⟩
end
def RunR(b:V)(x:Inp)(g:Bool)(t t':Pk):Prop:=∃(t1 t2:Pk) (l1:List Record),PM b t1.m∧PR b t1∧FixR t t1∧(∀r∈l1,Sm b r)∧l1.length≤8∧(t2.out={ t1.out with B0:=t2.out.B0 }∧(g=C→∀j,j<b.B0.length→Do (S t1.m.D0 j)=C→DC t2 j))∧
 ((De b t1 t2 l1∧t'=t2)∨(Al b t1 t2 l1∧∃(t3:Pk) (l2:List Record),((g=B∧t3=t2∧l2=[])∨(g=C∧Opr b x g t2 t3 l2))∧
  ((De b t2 t3 l2∧t'=t3)∨(Al b t2 t3 l2∧∃(t4:Pk) (vs:List View),Dsp b x g t3 t4 vs∧
   ((t4.e=8∧t'=t4)∨(t4.e=0∧Fin b g t4 t'))))))
section
variable{b:V}(hw:BW b){x:Inp}{g:Bool}(hx:g=C→InOK b x)
include hw hx
theorem Bsp(hm:PM b t.m)(hr:PR b t)(hb:Bud t):N (t.ap EG b x g) λy=>∃t',(y=.inl ((),(t'.tup b x g,()))∨y=.inr ((),(t'.tup b x g,())))∧RunR b x g t t':=by
 unfold Pk.ap EG;refine H (Q:=λy=>∃t1,y=(((),(),(),(),()),(((),(),(),(),(),()),t1.tup b x g,()))∧PM b t1.m∧PR b t1∧FixR t t1) ?_ λy3 h3=>?_
 ·refine H (Bp4 hw hx hm hr) λy1 h1=>?_;obtain⟨t1,e | e,h⟩:=h1
  ·subst e;exact A ⟨t1,rfl,h⟩
  ·subst e;exact A ⟨t1,rfl,h⟩
 obtain⟨t1,rfl,m1,r1,f1⟩:=h3;have b1:Bud t1:=⟨f1.e.trans hb.1,by rw[f1.bu];exact hb.2⟩
 refine aC (show(t1.e !=0)=B by rw[b1.1];rfl) ?_;refine H (Bln hw hx m1 r1 b1) λy4 h4=>?_;obtain⟨t2,l1,rfl,hl1,hn1,res2,o2⟩:=h4;have e8:∀{u v:Pk}{l:List Record},(Al b u v l∨De b u v l)→(v.e !=0)=C→De b u v l:=λh q=>by
  rcases h with h | h
  ·rw[h.e]at q;cases q
  ·exact h
 have e0:∀{u v:Pk}{l:List Record},(Al b u v l∨De b u v l)→(v.e !=0)=B→Al b u v l:=λh q=>by
  rcases h with h | h
  ·exact h
  ·rw[h.e]at q;cases q
 refine J (λq=>A ⟨t2,.inl rfl,t1,t2,l1,m1,r1,f1,hl1,hn1,o2,.inl ⟨e8 res2 q,rfl⟩⟩) λq=>?_;have a2:=e0 res2 q;have b2:=a2.bud b1;refine H (Q:=λy=>∃(t3:Pk) (l2:List Record),y=((),(t3.tup b x g,()))∧((g=B∧t3=t2∧l2=[])∨(g=C∧Opr b x g t2 t3 l2))∧(Al b t2 t3 l2∨De b t2 t3 l2)) ?_ λy5 h5=>?_
 ·show N (t2.ap CA b x g) _;unfold Pk.ap CA;refine J (λhg=>?_) λhg=>A ⟨t2,[],rfl,.inl ⟨hg,rfl,rfl⟩,.inl ⟨a2.e,a2.m,a2.r,rfl,a2.b0,e1_ _,σ,rfl⟩⟩;refine H (Q:=λy=>∃(t3:Pk) (l2:List Record),y=((),(t3.tup b x g,()))∧Opr b x g t2 t3 l2) ?_ λy3 h3=>by obtain⟨t3,l2,rfl,h⟩:=h3;exact A ⟨t3,l2,rfl,.inr ⟨hg,h⟩,h.res⟩
  refine H (Azr hw (hx hg) (g:=g) a2.m a2.r b2) λy1 h1=>?_;obtain⟨t3,l2,e | e,h⟩:=h1
  ·subst e;exact A ⟨t3,l2,rfl,h⟩
  ·subst e;exact A ⟨t3,l2,rfl,h⟩
 obtain⟨t3,l2,rfl,hop,res3⟩:=h5;refine J (λq=>A ⟨t3,.inl rfl,t1,t2,l1,m1,r1,f1,hl1,hn1,o2,.inr ⟨a2,t3,l2,hop,.inl ⟨e8 res3 q,rfl⟩⟩⟩) λq=>?_;have a3:=e0 res3 q;have b3:=a3.bud b2;refine H (Ast hw hx a3.m a3.r b3) λy6 h6=>?_;obtain⟨t4,vs,rfl,hd⟩:=h6;refine J (λq=>A ⟨t4,.inl rfl,t1,t2,l1,m1,r1,f1,hl1,hn1,o2,.inr ⟨a2,t3,l2,hop,.inr ⟨a3,t4,vs,hd,.inl ⟨(e8 hd.res q).e,rfl⟩⟩⟩⟩) λq=>?_;have a4:=e0 hd.res q;refine H (Bcf hw (x:=x) (g:=g) a4.m a4.r) λy7 h7=>?_;obtain⟨t5,rfl,hf⟩:=h7;have he:(t5.e !=0)=B:=by rw[hf.e,a4.e];rfl
 exact aC he (A ⟨t5,.inr rfl,t1,t2,l1,m1,r1,f1,hl1,hn1,o2,.inr ⟨a2,t3,l2,hop,.inr ⟨a3,t4,vs,hd,.inr ⟨a4.e,hf⟩⟩⟩⟩)
end
def RunR.cases(hw:BW b){x:Inp}{g:Bool}{t':Pk}(h:RunR b x g t t')(hb:Bud t):(t'.e=0∧PM b t'.m∧t'.out.B0.length=b.B0.length∧0≤t'.budget)∨(t'.e=8∧t.budget<300000):=by
 obtain⟨t1,t2,l1,m1,r1,f1,hl1,hn1,o2,⟨d,rfl⟩ | ⟨a2,t3,l2,hop,h⟩⟩:=h
 ·have:=d.lo
  rw[f1.bu]at this;exact .inr ⟨d.e,ω⟩
 have hn2:l2.length≤100:=by
  rcases hop with⟨_,_,rfl⟩ | ⟨_,h⟩
  ·exact a4_ _
  ·obtain⟨i,cm,fr,_,hi,_,rfl,_⟩:=h.how;have h1:=(YN (b:=b) t2.m.D0 x.kind hi (cm.getD i B) fr).2;have h2:=Ub (Ai t2.m.D0 (LO t2.m.D0 x.kind i (cm.getD i B) fr).1) (bif x.kind !=0 then cm.set i B else cm) b.B0.length
   have:=Aj m1.jst.img.code
   unfold Ir;rw[h_];omega
 have k2:=a2.b2;rw[f1.bu]at k2;rcases h with⟨d,rfl⟩ | ⟨a3,t4,vs,hd,h⟩
 ·have:=d.lo
  exact .inr ⟨d.e,ω⟩
 have k3:=a3.b2;have hn3:(PV b x g t3 vs).recs.length≤300:=(Acg hw.small hw.code a3.m.jst.img a3.m.exl a3.m.exv t3.m.Y2 x.press g hd.va.len).2;rcases h with⟨h8,rfl⟩ | ⟨h0,hf⟩
 ·rcases hd.res with a | d
  ·rw[a.e]at h8;cases h8
  ·have:=d.lo
   exact .inr ⟨h8,ω⟩
 ·rcases hd.res with a | d
  ·exact .inl ⟨hf.e.trans h0,hf.m,hf.oc,by rw[hf.bu];exact a.b0⟩
  ·rw[d.e]at h0;cases h0
end Go.Ovl
namespace Go.Ovl
open Go Go.Ab
variable{m:Mch}{s:ByteArray}{b:V}
def set_set{s:Sto}{half:Int}(hh:half=0∨half=1)(x y:ByteArray):(s.set half x).set half y=s.set half y:=by rcases hh with rfl | rfl<;>rfl
section
variable{b:V}(hw:BW b)
include hw
theorem PM.fit(h:PM b m):m.fit:=by
 have hcc:=Aj hw.code;have h1:=Dg hw.small h.jst.img
 have:=h.exl
 refine⟨h.jst.ents.2,by rw[h.con];omega,by rw[h.bel];omega,λx hx=>?_,by rw[h.car];omega,by rw[h.lod];omega,ω,by rw[h.lit];omega⟩;obtain⟨i,hi,rfl⟩:=g2_ hx;have h2:=((h.belv i (by rw[← h.bel];exact hi)).dut).len hw.small;rw[k_,i_ hi]at h2;have h2:m.U0[i].X0.length≤30:=h2;omega
theorem PM.isM_eq(h:PM b m):Gg b.C0 b.F0 b.H0 b.M0 b.K0 b.L0 b.N0 b.B0 m.D0.G0 m.D0.O0 m.D0.J0 m.D0.A0 m.D1.h0 m.D1.h1 m.D1.sel m.E1 m.U0 m.B0 m.V2 m.Y1 m.Y2 m.Z3 m.Z2 m.M2=some ((C,()),()):=by
 have hf:=h.fit hw;have hcc:=Aj hw.code;have he:=Dg hw.small h.jst.img;have hl:=h.exl;have c5:=ZU hw.small hw.code h.con λx hx=>(h.conv x hx).1;have c6:=Afr hw.small hw.code h.bel (λi hi=>(Ag1 hw.small).2 (h.belv i (by rw[← h.bel];exact hi))) hf.du;have c7:=Aft hw.small hw.code h.car h.carv;have c8:=Afs (n:=(b.B0.length:Int)) hf.lo (by rw[h.lod]) h.lodv;have hS:N (Gg b.C0 b.F0 b.H0 b.M0 b.K0 b.L0 b.N0 b.B0 m.D0.G0 m.D0.O0 m.D0.J0 m.D0.A0 m.D1.h0 m.D1.h1 m.D1.sel m.E1 m.U0 m.B0 m.V2 m.Y1 m.Y2 m.Z3 m.Z2 m.M2) λy=>y=((C,()),()):=by
  unfold Gg;refine D (UG hw.small m.D0 ω hf.im) (aC (by rw[Aqd h.jst.img h.jst.fits];rfl) (D (GT ..) (aC (by show(!decide (m.D1.ok b.H0))=B;rw[b_ h.jst.ok];rfl) (aC (by rw[hl,P_]) (D (RO ω h.exv) (aC rfl (D (RO (xs:=[m.Z3,m.Z2,m.M2]) (by show 3≤100000;omega) λx hx=>?_) (aC rfl (D c5 (D c6 (D c7 (D c8 ?_))))))))))))
  ·simp only[s_,h3_,or_false]at hx;rcases hx with rfl | rfl | rfl
   ·exact h.tick
   ·exact h.flt
   ·exact h.ref
  ·refine A ?_;show((((m.Y2.length:Int)==(b.B0.length:Int)),()),())=_;rw[h.lit,l_]
 obtain⟨y,h1,h2⟩:=hS;rw[h1,h2]
theorem TN:PM b (JA b).1∧(JA b).1.D0=FG b∧(JA b).2=0:=by
 have hcode:=hw.code;have j0:=Jst.first hcode;have hcc:=Aj hcode;have hfit:=j0.fits;have hroom:=hw.room;have hs:JA b=((Pz b Sto.no 1048576).1,(Pz b Sto.no 1048576).2.2):=by unfold JA;rw[hcode];rfl
 rw[hs];rcases Bhb hw.small j0.ok j0.img (j0.replay hw.small) ω (bud:=1048576) ω with⟨_,q2,q3⟩ | ⟨q1,_⟩
 ·rw[q2];have rep:∀{α:Type}{P:α→Prop}{a:α}{n:Nat},P a→∀x∈aA n a,P x:=λh x hx=>by rw[(List.mem_replicate.1 hx).2];exact h
  have he:(FG b).A0=[]:=rfl;refine⟨⟨q3,T_,rep ⟨Bdd (Alb hcode),e1_ 0,show(0:Int)<4294967296 by decide⟩,T_,λi hi=>?_,T_,rep (Nq hw.small),T_,rep (show(0:Int)≤0∧(0:Int)≤4 by decide),T_,b2_ _,?_,i00,i00,i00⟩,rfl,rfl⟩
  ·show BelOK b i ((aA b.B0.length VF).getD i GN);rw[k_,List.getElem?_replicate,if_pos hi];exact BelOK.new hw
  ·intro x hx;rw[show(Ado b (FG b) { Sto.no.set (1-Sto.no.sel) (txt ((Es (FG b)).flatMap CC))with sel:=1-Sto.no.sel }).Y1=[]from rfl]at hx;cases hx
 ·omega
omit hw in
theorem Bp1(hm:m.fit):NV m.D0.G0 m.D0.O0 m.D0.J0 m.D0.A0 m.D1.h0 m.D1.h1 m.D1.sel m.E1 m.U0 m.B0 m.V2 m.Y1 m.Y2 m.Z3 m.Z2 m.M2=some (((),()),(m.tup,())):=by
 have hl:N (Ji (((),(),(m.U0.length:Int),(0:Int),()),(m.tup,Mch.none.tup,()))) λy=>y=(((),(),()),(m.tup,Mch.none.tup,())):=by have hbe:=hm.be;unfold Ji;refine aD (λ(k:Nat) z=>∃(i:Nat),z=(((),(),(m.U0.length:Int),(i:Int),()),(m.tup,Mch.none.tup,()))∧i+k=m.U0.length) (λk z hz=>?_) m.U0.length ⟨0,rfl,o_ _⟩ ω;obtain⟨i,rfl,hk⟩:=hz;show N (Pp (m.U0.length:Int) (i:Int) m.D0.G0 m.D0.O0 m.D0.J0 m.D0.A0 m.D1.h0 m.D1.h1 m.D1.sel m.E1 m.U0 m.B0 m.V2 m.Y1 m.Y2 m.Z3 m.Z2 m.M2 [] [] [] [] noB noB 0 [] [] [] [] [] [] 0 0 0) _;unfold Pp;refine J (λq=>?_) λ_=>A rfl;have q:(i:Int)<(m.U0.length:Int):=m_ q;have hi:i<m.U0.length:=ω;have w:=CK (n:=i) ω;have ib:R (i:Int) m.U0.length=C:=Ac ω q;have hd:(m.U0.getD i GN).X0.length≤100000:=hm.du _ (BN _ hi);refine E ib (D (show Em (m.U0.getD (Int.toNat (i:Int)) GN).X0=some (((m.U0.getD i GN).X0,()),())from CX _ hd) (E ib ?_));refine A ⟨k-1,ω,i+1,?_,ω⟩;have e:m.U0.set i (Belief.mk (m.U0.getD i GN).E0 (m.U0.getD i GN).I0 (m.U0.getD i GN).F3 (m.U0.getD i GN).X0 (m.U0.getD i GN).A3 (m.U0.getD i GN).R3)=m.U0:=Ano GN rfl;rw[← w];exact c0_ (λL=>(((),(),(m.U0.length:Int),IntKind.i64.wrap ((i:Int)+1),()),(({ m with U0:=L }:Mch).tup,Mch.none.tup,()))) e
 obtain⟨y,hl,rfl⟩:=hl;have him:=hm.im;unfold NV;refine Ae (CX m.D0.G0 him.p) (Ae (CX m.D0.O0 him.f) (Ae (CX m.D0.J0 him.l) (Ae (CX m.D0.A0 him.e) (Ae (CX m.E1 hm.co) (Ae (CX m.B0 hm.ca) (Ae (CX m.V2 hm.lo) (Ae (CX m.Y1 hm.ex) (Ae (CX m.Y2 hm.li) (Ae (CX m.U0 hm.be) (Ae hl rfl))))))))))
def pk0(b:V)(m:Mch)(bud:Int):Pk:=⟨m,bud,0,aA b.B0.length B,aA b.B0.length (Calls.mk 0 0),aA b.B0.length B,⟨0,0,0,0,B,B,0,aA b.B0.length Au⟩⟩
@[reducible] def outP(o:Outputs):=(o.Y3,o.J3,o.X2,o.L2,o.V5,o.L0,o.H5,o.B0,())
def At2:Outputs:=⟨0,0,0,0,B,B,0,[]⟩
def Bfj(b:V)(m:Mch)(s:ByteArray)(bud:Int)(e:Int)(m':Mch)(o:Outputs):Prop:=∃(x:Inp) (t':Pk),((BX b s=0∧InOK b x)∨(BX b s≠0∧x=Inp.none))∧Ei b.C0 b.F0 b.H0 b.M0 b.K0 b.L0 b.N0 b.B0 s=some (((),BX b s,()),(x.tup,()))∧RunR b x (BX b s==0) (pk0 b m bud) t'∧e=t'.e∧(e=0→m'=t'.m∧o=t'.out)∧(e≠0→m'={ Mch.none with D1:=t'.m.D1 }∧o=At2)
theorem Bp8(hm:PM b m)(hs:Fr b s){bud:Int}(hb:0≤bud∧bud<9223372036854775808):N (HU b.C0 b.F0 b.H0 b.M0 b.K0 b.L0 b.N0 b.B0 m.D0.G0 m.D0.O0 m.D0.J0 m.D0.A0 m.D1.h0 m.D1.h1 m.D1.sel m.E1 m.U0 m.B0 m.V2 m.Y1 m.Y2 m.Z3 m.Z2 m.M2 s bud) λy=>∃e m' o,y=(((),(),e,()),(m'.tup,outP o,()))∧Bfj b m s bud e m' o:=by
 have hcc:=Aj hw.code;have hf:=hm.fit hw;obtain⟨x,hrd,hx1,hx2⟩:=Adm hw.small hw.code hs;have hcap:((decide ((0:Int)≤(b.B0.length:Int))&&decide ((b.B0.length:Int)≤(b.B0.length:Int)))&&decide ((b.B0.length:Int)≤2147483648))=C:=by simp only[e_,t_];omega
 unfold HU;refine D hrd (E hcap (E hcap (E hcap (E hcap ?_))));refine D (CX m.E1 hf.co) (D (CX m.U0 hf.be) (D (CX m.B0 hf.ca) (D (CX m.V2 hf.lo) ?_)));have hxx:(BX b s==0)=C→InOK b x:=λh=>hx2 (eq_of_beq h);have hr0:PR b (pk0 b m bud):=⟨T_,T_,T_,T_⟩;have hrun:=Bsp hw hxx (t:=pk0 b m bud) hm hr0 ⟨rfl,hb⟩;refine H (Q:=λy=>∃t',y=(((),(),(),()),(Mch.none.tup,outP At2,t'.tup b x (BX b s==0),()))∧RunR b x (BX b s==0) (pk0 b m bud) t') ?_ λy8 h8=>?_
 ·refine H hrun λy6 h6=>?_;obtain⟨t',e | e,h⟩:=h6
  ·subst e;exact A ⟨t',rfl,h⟩
  ·subst e;exact A ⟨t',rfl,h⟩
 obtain⟨t',rfl,hR⟩:=h8;have hxo:(BX b s=0∧InOK b x)∨(BX b s≠0∧x=Inp.none):=by
  by_cases h:BX b s=0
  ·exact .inl ⟨h,hx2 h⟩
  ·exact .inr ⟨h,hx1 h⟩
 refine J (λq=>?_) λq=>?_
 ·have q:(t'.e !=0)=C:=q;have q:t'.e≠0:=by simpa using q
  exact A ⟨t'.e,{ Mch.none with D1:=t'.m.D1 },At2,rfl,x,t',hxo,hrd,hR,rfl,λh=>absurd h q,λ_=>⟨rfl,rfl⟩⟩
 ·have q:(t'.e !=0)=B:=q;have q:t'.e=0:=by simpa using q
  exact A ⟨0,t'.m,t'.out,rfl,x,t',hxo,hrd,hR,q.symm,λ_=>⟨rfl,rfl⟩,λh=>absurd rfl h⟩
end
inductive Runs(b:Bldg):Mch→List ByteArray→Mch→List Outputs→Prop
 |nil (m:Mch):Runs b m [] m []
 |cons {m m1 m2:Mch}{s:ByteArray}{fs:List ByteArray}{o:Outputs}{os:List Outputs}(h:HU b.C0 b.F0 b.H0 b.M0 b.K0 b.L0 b.N0 b.B0 m.D0.G0 m.D0.O0 m.D0.J0 m.D0.A0 m.D1.h0 m.D1.h1 m.D1.sel m.E1 m.U0 m.B0 m.V2 m.Y1 m.Y2 m.Z3 m.Z2 m.M2 s 1048576=some (((),(),0,()),(m1.tup,outP o,()))) (h2:Runs b m1 fs m2 os):Runs b m (s::fs) m2 (o::os)
def Runs.app{m1 m2 m3:Mch}{f g:List ByteArray}{x y:List Outputs}(h:Runs b m1 f m2 x)(k:Runs b m2 g m3 y):Runs b m1 (f++g) m3 (x++y):=by
 induction h with
 |nil m=>exact k
 |cons h _ ih=>exact .cons h (ih k)
def Runs.len{m1 m2:Mch}{f:List ByteArray}{x:List Outputs}(h:Runs b m1 f m2 x):x.length=f.length:=by
 induction h with
 |nil m=>rfl
 |cons _ _ ih=>rw[B_,B_,ih]
section
variable{b:V}(hw:BW b)
include hw
theorem Bin(hm:PM b m)(hs:Fr b s):∃m' o,HU b.C0 b.F0 b.H0 b.M0 b.K0 b.L0 b.N0 b.B0 m.D0.G0 m.D0.O0 m.D0.J0 m.D0.A0 m.D1.h0 m.D1.h1 m.D1.sel m.E1 m.U0 m.B0 m.V2 m.Y1 m.Y2 m.Z3 m.Z2 m.M2 s 1048576=some (((),(),0,()),(m'.tup,outP o,()))∧PM b m'∧o.B0.length=b.B0.length∧Bfj b m s 1048576 0 m' o:=by
 obtain⟨y,h,e,m',o,rfl,hR⟩:=Bp8 hw hm hs (bud:=1048576) τ;have hR':=hR;obtain⟨x,t',_,_,hr,he,h0,h1⟩:=hR;rcases hr.cases hw ⟨rfl,show(0:Int)≤1048576 by decide,show(1048576:Int)<9223372036854775808 by decide⟩with⟨k1,k2,k3,_⟩ | ⟨_,k2⟩
 ·rw[k1]at he;subst he;obtain⟨rfl,rfl⟩:=h0 rfl;exact⟨_,_,h,k2,k3,hR'⟩
 ·exact absurd (show(1048576:Int)<300000 from k2) τ
end
end Go.Ovl
