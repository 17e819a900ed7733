import Derived.Test.YtphhlndnankhiaaGreatDoorOvK
import Derived.Test.YtphhlndnankhiaaGreatDoorOvC
import Derived.Test.YtphhlndnankhiaaGreatDoorOvB
import Derived.Test.YtphhlndnankhiaaGreatDoorOvD
set_option linter.all false
open Go.Ovl.Sat renaming ret->A,bindS->H,bifT->I,bic->N,bindE->S,loop->aE
open Bool renaming true->B,false->E
open Go.Ovl renaming AQ->C,CarOutput->J,flA->P,Sat->U,phA->W,noV->X,Bldg->Y,Record->aA
open Option renaming some->O
open Go.Ab renaming inB->R
open Go.Ovl.Sto renaming out->V
open Go.Ovl.CarOutput renaming mk->aB
open Int renaming toNat->aC
open Go.Ovl.Record renaming mk->aD
open List renaming replicate->aF,set_set->aI
open Go.Ovl.machine_ticker renaming mk->aG
open Go.IntKind renaming i64->aH
namespace Go.Ovl
open Go Go.Ab
set_option maxRecDepth 100000
variable{l:List J}{t:Pk}{i:Nat}{b:Y}{c:Int×Int}{m:Mch}
@[reducible] def Btv(v:View):=(v.Q3,v.A3,v.G3,v.Z3,v.D0,v.I0,v.J3,v.L3,v.Z2,v.X2,v.Z1,v.R1,())
def Az2(hb:b.small){x:NewCar}(h:Hx b x=B):Ahg x.D2:=by
 have h2:=Baz hb;unfold Hx at h;cases hf:x.E3 with
 |true=>rw[hf]at h;simp only[d_,Afz,e_,W_]at h;rw[h.2.2.2.2.2.2.2.2.2.2.1];exact⟨τ,τ⟩
 |false=>have hs:=(VW hb hf).1 (by unfold Hx;exact h);have hc:C2 b.C0 x.D2:=hs.1.ca;unfold C2 at hc;exact⟨hc.1,ω⟩
def Bcc{l:List Duty}(hl:l.length≤1000):U (Kr l) λy=>Ef (y.2.1.1,y.2.1.2.1):=by unfold Kr;refine H (Q:=λy=>Ef (y.2.2.1.1,y.2.2.1.2.1)) ?_ λ_ h=>A h;unfold IU;refine aE (λ(k:Nat) z=>∃(i:Nat) (c:Int×Int),z=(((),(),l,(l.length:Int),(i:Int),()),((0,0,()),(c.1,c.2,()),()))∧i+k=l.length∧Ef c) (λk z hz=>?_) l.length ⟨0,(0,0),rfl,n_ _,FJ⟩ ω;obtain⟨i,c,rfl,hk,hc⟩:=hz;show U (Mk l (l.length:Int) (i:Int) 0 0 c.1 c.2) _;unfold Mk;refine N (λq=>?_) λ_=>A hc;have q:(i:Int)<(l.length:Int):=m_ q;have w:=CG (n:=i) ω;refine I (Ac ω q) (S (JY _ _) (S (Gy c (Fi _ _)) ?_));exact A ⟨k-1,ω,i+1,_,by first | (rw[← w];rfl) | rw[← w],ω,MB _ _⟩
structure VI(b:Bldg)(m:Img)(good:Bool)(i:Nat)(v:View):Prop where
 ok:v.ok
 ready:v.Q3=(good&&TS m i)
 serving:v.A3=Jj m i
 lost:v.Z3=(flA m i||!Jj m i)
section
variable{b:Y}(hw:BW b){x:Inp}{g:Bool}(hx:g=B→InOK b x)
include hw
theorem Brc(hm:PM b m)(hi:i<b.B0.length)(f:Int)(l:Bool)(d:Int)(k:Bool):U (MN b.C0 b.E0 b.H0 b.M0 b.J0 b.L0 b.N0 b.B0 m.G0.F0 m.G0.O0 m.G0.K0 m.G0.A0 m.B1.h0 m.B1.h1 m.B1.sel m.K1 m.U0 m.B0 m.D3 m.E2 m.H3 m.B4 m.I3 m.Y2 (i:Int) f l d k) λy=>∃v,y=(((),()),(Btv v,()))∧VI b m.G0 B i v:=by
 have i1:R (i:Int) m.G0.F0.length=B:=Ac ω (by rw[hm.jst.img.lp];omega);have i2:R (i:Int) m.U0.length=B:=Ac ω (by rw[hm.bel];omega);have i3:R (i:Int) m.B0.length=B:=Ac ω (by rw[hm.car];omega);have i4:R (i:Int) m.G0.O0.length=B:=Ac ω (by rw[hm.jst.img.lf];omega);have i5:R (i:Int) m.D3.length=B:=Ac ω (by rw[hm.lod];omega);have hc:=Az2 hw.small (hm.carv _ (BR Bu (show i<m.B0.length by rw[hm.car];exact hi)));have hd:=((hm.belv i hi).dut).len hw.small;unfold MN;refine I i1 (I i3 (S (Ak7 hm.jst.img hi) (S (Acv hm.jst.img hi) (S (Xw _) ?_))));have z0:Ahg 0:=⟨τ,τ⟩
 refine S (b:=(((i:Int),(),(),(),(),W m.G0 i,(),(),()),((b.C0,b.E0,b.H0,b.M0,b.J0,b.L0,b.N0,b.B0,()),(m.G0.F0,m.G0.O0,m.G0.K0,m.G0.A0,m.B1.h0,m.B1.h1,m.B1.sel,m.K1,m.U0,m.B0,m.D3,m.E2,m.H3,m.B4,m.I3,m.Y2,()),(f,l,d,k,()),(E,E,E,E,(0:Int),(0:Int),(0:Int),(0:Int),(0:Int),(0:Int),(0:Int),(0:Int),()),Bb9 (m.B0.getD i Bu),(TS m.G0 i,Jj m.G0 i,DK (W m.G0 i),(P m.G0 i||!Jj m.G0 i),(0:Int),(0:Int),(0:Int),(0:Int),(0:Int),(0:Int),(0:Int),(0:Int),()),()))) ?_ ?_
 ·show(bif R (i:Int) m.G0.O0.length then(bif P m.G0 i then _ else _)else none)=_;rw[i4,d_];cases P m.G0 i<;>rfl
 refine N (λ_=>I i2 (H (Bcc (by show(m.U0.getD i GH).W0.length≤1000;omega)) λy5 h5=>?_)) λ_=>I i5 ?_
 ·exact A ⟨View.mk (TS m.G0 i) (Jj m.G0 i) (DK (W m.G0 i)) (P m.G0 i||!Jj m.G0 i) (m.U0.getD i GH).D0 (m.U0.getD i GH).I0 0 0 0 0 y5.2.1.1 y5.2.1.2.1,rfl,⟨z0,h5.1,h5.2⟩,rfl,rfl,rfl⟩
 refine H (Q:=λy=>∃(su sd:Int) (o1 o2 o3 o4:Int),y=(((i:Int),(),(),(),(),(),()),((b.C0,b.E0,b.H0,b.M0,b.J0,b.L0,b.N0,b.B0,()),(m.G0.F0,m.G0.O0,m.G0.K0,m.G0.A0,m.B1.h0,m.B1.h1,m.B1.sel,m.K1,m.U0,m.B0,m.D3,m.E2,m.H3,m.B4,m.I3,m.Y2,()),(E,E,E,E,(0:Int),(0:Int),(0:Int),(0:Int),(0:Int),(0:Int),(0:Int),(0:Int),()),Bb9 (m.B0.getD i Bu),(TS m.G0 i,Jj m.G0 i,DK (W m.G0 i),(P m.G0 i||!Jj m.G0 i),f,(m.B0.getD i Bu).V1,o1,su,sd,o2,o3,o4,()),()))) ?_ λy7 h7=>?_
 ·refine N (λ_=>?_) λ_=>A ⟨_,_,_,_,_,_,rfl⟩;exact H (Agv hw.small hw.code (m.B0.getD i Bu) f l d k) λ_ _=>A ⟨_,_,_,_,_,_,rfl⟩
 obtain⟨su,sd,o1,o2,o3,o4,rfl⟩:=h7;refine H (Amn hw hm.jst.img (i:Int)) λy8 h8=>?_;exact A ⟨View.mk (TS m.G0 i) (Jj m.G0 i) (DK (W m.G0 i)) (P m.G0 i||!Jj m.G0 i) f (m.B0.getD i Bu).V1 o1 su sd (m.B0.getD i Bu).D2 y8.2.1.1 y8.2.1.2.1,rfl,⟨hc,h8.1,h8.2⟩,rfl,rfl,rfl⟩
structure VA(b:Bldg)(m:Img)(good:Bool)(vs:List View):Prop where
 len:vs.length=b.B0.length
 vi:∀i,i<b.B0.length→VI b m good i (vs.getD i noV)
theorem VA.ok{m:Img}{vs:List View}(h:VA b m g vs):okViews vs:=λv hv=>by
 obtain⟨i,hi,rfl⟩:=List.getElem_of_mem hv
 have:=(h.vi i (by rw[← h.len];exact hi)).ok
 rwa [k_,i_ hi]at this
include hx
theorem Biz(hm:PM b t.m)(hr:PR b t):U (CN (t.ap aG b x g)) λy=>∃vs:List View,y=((vs,()),())∧VA b t.m.G0 g vs:=by
 have hcc:=Am hw.code;unfold CN;refine I (by show((decide ((0:Int)≤(b.B0.length:Int))&&decide ((b.B0.length:Int)≤(b.B0.length:Int)))&&decide ((b.B0.length:Int)≤2147483648))=B;simp only[e_,r_];omega) (H (Q:=λy=>∃vs:List View,y=((vs,()),())∧VA b t.m.G0 g vs) ?_ λy h=>by obtain⟨c,rfl,h⟩:=h;exact A ⟨c,rfl,h⟩);have h0:(aF (aC (b.B0.length:Int)) X).length=b.B0.length:=by rw[T_];omega
 show U (Cu ((t.ap aG b x g,aF (aC (b.B0.length:Int)) X,(((aF (aC (b.B0.length:Int)) X).length:Nat):Int),0,()),())) _;generalize aF (aC (b.B0.length:Int)) X=L at h0;unfold Cu;refine aE (λ(k:Nat) z=>∃(i:Nat) (vs:List View),z=((t.ap aG b x g,vs,(L.length:Int),(i:Int),()),())∧i+k=L.length∧vs.length=b.B0.length∧∀j,j<i→VI b t.m.G0 g j (vs.getD j X)) (λk z hz=>?_) L.length ⟨0,L,rfl,n_ _,h0,λj hj=>absurd hj (f8_ j)⟩ ω;obtain⟨i,vs,rfl,hk,hl,hv⟩:=hz;show U (Ff (t.ap aG b x g) vs (L.length:Int) (i:Int)) _;unfold Ff;refine N (λq=>?_) λq=>A ⟨vs,rfl,hl,λj hj=>hv j (by have q:=E_ q;omega)⟩;have q:(i:Int)<(L.length:Int):=m_ q;have hi:i<b.B0.length:=ω;have w:=CG (n:=i) ω;have il:R (i:Int) vs.length=B:=Ac ω ω;have put:∀{v:View},VI b t.m.G0 g i v→∀j,j<i+1→VI b t.m.G0 g j ((vs.set i v).getD j X):=λ{v} h j hj=>by
  by_cases e:i=j
  ·subst e;rw[Bq _ _ ω];exact h
  ·rw[CX _ _ e];exact hv j ω
 refine N (λhg=>?_) λhg=>?_
 ·have hg:g=E:=by simpa using(show(!g)=B from hg)
  refine S (Acv hm.jst.img hi) ?_;have i4:R (i:Int) t.m.G0.O0.length=B:=Ac ω (by rw[hm.jst.img.lf];omega);refine S (b:=((t.ap aG b x g,vs.set i (View.mk E (Jj t.m.G0 i) E (P t.m.G0 i||!Jj t.m.G0 i) (-1) 0 0 0 0 0 0 0),(L.length:Int),(i:Int),()),())) ?_ ?_
  ·show(bif R (i:Int) t.m.G0.O0.length then(bif P t.m.G0 i then(bif R (i:Int) vs.length then _ else none)else(bif R (i:Int) vs.length then _ else none))else none)=_;rw[i4,il,d_,d_];cases P t.m.G0 i<;>rfl
  have z0:Ahg 0:=⟨τ,τ⟩
  exact A ⟨k-1,ω,i+1,_,by first | (rw[← w];rfl) | rw[← w],ω,by rw[D_];exact hl,put ⟨⟨z0,z0,z0⟩,by rw[hg];rfl,rfl,rfl⟩⟩
 ·have hg:g=B:=by simpa using(show(!g)=E from hg)
  have hxl:=(hx hg).len;refine I (Ac ω (ω:(i:Int)<(x.cars.length:Int))) (H (Brc hw hm hi _ _ _ _) λy3 h3=>I il ?_);obtain⟨v,rfl,hvi⟩:=h3;rw[← hg]at hvi;refine I (Ac ω (show(i:Int)<(t.legacy.length:Int)by rw[hr.leg];omega)) (N (λ_=>?_) λ_=>?_)
  ·refine I (Ac ω (show(i:Int)<(t.shows.length:Int)by rw[hr.sho];omega)) (I (Ac ω (by rw[D_];omega)) ?_);refine A ⟨k-1,ω,i+1,(vs.set i v).set i (View.mk v.Q3 v.A3 v.G3 v.Z3 v.D0 v.I0 v.J3 (t.shows.getD i (Calls.mk 0 0)).Up (t.shows.getD i (Calls.mk 0 0)).N3 v.X2 v.Z1 v.R1),?_,ω,by rw[D_,D_];exact hl,λj hj=>?_⟩
   ·have e:(vs.set i v).getD i X=v:=Bq _ _ ω
    first
     |(rw[← w];show((_,List.set (vs.set i v) i (View.mk ((vs.set i v).getD i X).Q3 ((vs.set i v).getD i X).A3 ((vs.set i v).getD i X).G3 ((vs.set i v).getD i X).Z3 ((vs.set i v).getD i X).D0 ((vs.set i v).getD i X).I0 ((vs.set i v).getD i X).J3 _ _ ((vs.set i v).getD i X).X2 ((vs.set i v).getD i X).Z1 ((vs.set i v).getD i X).R1),_,_,()),())=_;rw[e];rfl)
   ·rw[aI];exact put (v:=View.mk v.Q3 v.A3 v.G3 v.Z3 v.D0 v.I0 v.J3 (t.shows.getD i (Calls.mk 0 0)).Up (t.shows.getD i (Calls.mk 0 0)).N3 v.X2 v.Z1 v.R1) ⟨⟨hvi.ok.c,hvi.ok.u,hvi.ok.d⟩,hvi.ready,hvi.serving,hvi.lost⟩ j hj
  ·exact A ⟨k-1,ω,i+1,vs.set i v,by first | (rw[← w];rfl) | rw[← w],ω,by rw[D_];exact hl,put hvi⟩
end
noncomputable def Qc(b:Y)(x:Inp)(g:Bool)(t:Pk)(vs:List View):Rnd:=EH b t.m.G0 t.m.E2 vs t.m.H3 x.press g
def Ga:List aA→Int×Int→Int×Int
 |[],c=>c
 |r::l,c=>Ga l (bif r.R0==2 then Cc c (Fi r.D0 r.I0)else c)
def Am7(r:Rnd)(i:Nat)(c d:J):Prop:=d.N2=(r.lan.lit.getD i noP).Up∧d.K2=(r.lan.lit.getD i noP).N3∧d.A4=r.lan.gong.getD i E∧d.H2=c.H2
def PM.rnd(h:PM b m){r:Rnd}(hg:Rg b m.G0 r)(hl:r.lan.lit.length=b.B0.length){s:Sto}(hj:Jst b s r.img){n:Int}(hn:0≤n∧n≤1000000):PM b { m with G0:=r.img,B1:=s,E2:=r.xs,H3:=r.lan.lit,Y2:=n }:=⟨hj,h.con,h.conv,h.bel,h.belv,h.car,h.carv,h.lod,h.lodv,hl,hg.ok.len,hg.xs,h.tick,h.flt,hn⟩
structure Dsp(b:Bldg)(x:Inp)(g:Bool)(t t':Pk)(vs:List View):Prop where
 va:VA b t.m.G0 g vs
 ve:CN (t.ap machine_ticker.mk b x g)=some ((vs,()),())
 rg:Rg b t.m.G0 (Qc b x g t vs)
 res:Al b t t' (Qc b x g t vs).recs∨De b t t' (Qc b x g t vs).recs
 out:t'.out={ t.out with X1:=(Ga (Qc b x g t vs).recs (t.out.X1,t.out.G1)).1,G1:=(Ga (Qc b x g t vs).recs (t.out.X1,t.out.G1)).2,L0:=!isZ (Qc b x g t vs).ref,B0:=t'.out.B0 }
 oc:t'.out.B0.length=b.B0.length
 cars:∀i,i<b.B0.length→Am7 (Qc b x g t vs) i (t.out.B0.getD i AQ) (t'.out.B0.getD i AQ)
 rst:t'.reset=t.reset
def Cdm(hi:i<l.length)(f g:J→J):(l.set i (f (l.getD i C))).set i (g ((l.set i (f (l.getD i C))).getD i C))=l.set i (g (f (l.getD i C))):=by rw[Bq _ _ hi,aI]
def Pk.sServ(t:Pk)(c:Int×Int):Pk:={ t with out:={ t.out with X1:=c.1,G1:=c.2 } }
def Pk.sOuts(t:Pk)(l:List J):Pk:={ t with out:={ t.out with B0:=l } }
section
variable{b:Y}(hw:BW b){x:Inp}{g:Bool}(hx:g=B→InOK b x)
theorem Aza(r:Rnd)(hr:r.recs.length≤1000)(t:Pk):U (BZ (((),(),r.recs,(r.recs.length:Int),(0:Int),()),(r.tup,t.tup b x g,()))) λy=>y=(((),(),()),(r.tup,(t.sServ (Ga r.recs (t.out.X1,t.out.G1))).tup b x g,())):=by
 unfold BZ;refine aE (λ(k:Nat) z=>∃(i:Nat) (c:Int×Int),z=(((),(),r.recs,(r.recs.length:Int),(i:Int),()),(r.tup,(t.sServ c).tup b x g,()))∧i+k=r.recs.length∧Ga (r.recs.drop i) c=Ga r.recs (t.out.X1,t.out.G1)) (λk z hz=>?_) r.recs.length ⟨0,(t.out.X1,t.out.G1),rfl,n_ _,rfl⟩ ω;obtain⟨i,c,rfl,hk,hs⟩:=hz;show U ((t.sServ c).ap (Ez r.recs (r.recs.length:Int) (i:Int) r.recs r.img.F0 r.img.O0 r.img.K0 r.img.A0 r.xs r.lan.lit r.lan.gong r.lan.cl.1 r.lan.cl.2 r.ref.1 r.ref.2) b x g) _;unfold Pk.ap Ez;refine N (λq=>?_) λq=>A ?_
 ·have q:(i:Int)<(r.recs.length:Int):=m_ q;have hi:i<r.recs.length:=ω;have w:=CG (n:=i) ω;rw[By Ii hi]at hs;refine I (Ac ω q) (N (λh=>S (JY _ _) (S (Gy c (Fi _ _)) ?_)) λh=>?_)
  ·refine A ⟨k-1,ω,i+1,Cc c (Fi (r.recs.getD i Ii).D0 (r.recs.getD i Ii).I0),by first | (rw[← w];rfl) | rw[← w],ω,?_⟩;rw[← hs];have h:((r.recs.getD i Ii).R0==2)=B:=h;show _=Ga (r.recs.drop (i+1)) (bif(r.recs.getD i Ii).R0==2 then _ else _);rw[h];rfl
  ·refine A ⟨k-1,ω,i+1,c,by first | (rw[← w];rfl) | rw[← w],ω,?_⟩;rw[← hs];have h:((r.recs.getD i Ii).R0==2)=E:=h;show _=Ga (r.recs.drop (i+1)) (bif(r.recs.getD i Ii).R0==2 then _ else _);rw[h];rfl
 ·have q:=E_ q;rw[List.drop_of_length_le ω]at hs;show _=(((),(),()),(r.tup,(t.sServ (Ga r.recs (t.out.X1,t.out.G1))).tup b x g,()));rw[← hs];rfl
theorem Azb(r:Rnd)(hn:t.out.B0.length≤1000)(hl:r.lan.lit.length=t.out.B0.length)(hg:r.lan.gong.length=t.out.B0.length):U (Ca (((),(),(t.out.B0.length:Int),(0:Int),()),(r.tup,t.tup b x g,()))) λy=>∃l,y=((),((t.sOuts l).tup b x g,()))∧l.length=t.out.B0.length∧∀j,j<t.out.B0.length→Am7 r j (t.out.B0.getD j C) (l.getD j C):=by
 unfold Ca;refine aE (λ(k:Nat) z=>∃(i:Nat) (l:List J),z=(((),(),(t.out.B0.length:Int),(i:Int),()),(r.tup,(t.sOuts l).tup b x g,()))∧i+k=t.out.B0.length∧l.length=t.out.B0.length∧(∀j,j<i→Am7 r j (t.out.B0.getD j C) (l.getD j C))∧∀j,i≤j→l.getD j C=t.out.B0.getD j C) (λk z hz=>?_) t.out.B0.length ⟨0,t.out.B0,rfl,n_ _,rfl,λj hj=>absurd hj (f8_ j),λj _=>rfl⟩ ω;obtain⟨i,l,rfl,hk,hll,h1,h2⟩:=hz;show U ((t.sOuts l).ap (EA (t.out.B0.length:Int) (i:Int) r.recs r.img.F0 r.img.O0 r.img.K0 r.img.A0 r.xs r.lan.lit r.lan.gong r.lan.cl.1 r.lan.cl.2 r.ref.1 r.ref.2) b x g) _;unfold Pk.ap EA;refine N (λq=>?_) λq=>A ⟨l,rfl,hll,λj hj=>h1 j (by have:=E_ q;omega)⟩;have q:(i:Int)<(t.out.B0.length:Int):=m_ q;have hi:i<l.length:=ω;have w:=CG (n:=i) ω;refine I (Ac ω ω) (I (Ac ω ω) (I (Ac ω (ω:(i:Int)<(l.length:Int))) (I (Ac ω (by rw[D_];show(i:Int)<(l.length:Int);omega)) ?_)));refine A ⟨k-1,ω,i+1,l.set i (aB (l.getD i C).J1 (l.getD i C).C1 (l.getD i C).U1 (r.lan.lit.getD i noP).Up (r.lan.lit.getD i noP).N3 (r.lan.gong.getD i E) (l.getD i C).H2 (l.getD i C).U3 (l.getD i C).C4),?_,ω,?_,λj hj=>?_,λj hj=>?_⟩
 ·have key:=Cdm hi (λc=>aB c.J1 c.C1 c.U1 (r.lan.lit.getD i noP).Up (r.lan.lit.getD i noP).N3 c.A4 c.H2 c.U3 c.C4) (λc=>aB c.J1 c.C1 c.U1 c.N2 c.K2 (r.lan.gong.getD i E) c.H2 c.U3 c.C4);rw[← w];exact d3_ (λL=>(((),(),(t.out.B0.length:Int),aH.wrap ((i:Int)+1),()),(r.tup,(t.sOuts L).tup b x g,()))) key
 ·rw[D_];exact hll
 ·by_cases e:i=j
  ·subst e;rw[Bq _ _ hi];exact⟨rfl,rfl,rfl,by rw[← h2 i (A_ i)]⟩
  ·rw[CX _ _ e];exact h1 j ω
 ·rw[CX _ _ ω];exact h2 j ω
end
def Pk.sRnd(t:Pk)(r:Rnd)(n:Int)(f:Bool):Pk:={ t with m:={ t.m with E2:=r.xs,H3:=r.lan.lit,Y2:=n },out:={ t.out with L0:=f } }
section
variable{b:Y}(hw:BW b){x:Inp}{g:Bool}(hx:g=B→InOK b x)
include hw hx
theorem Atf(hm:PM b t.m)(hr:PR b t)(hb:Bud t):U (t.ap Dd b x g) λy=>∃(t':Pk) (vs:List View),y=((),(t'.tup b x g,()))∧Dsp b x g t t' vs:=by
 have hcc:=Am hw.code;unfold Pk.ap Dd;obtain⟨y1,hve,vs,rfl,hva⟩:=Biz hw hx hm hr;refine S hve ?_;have hxv:inX t.m.E2:=hm.exv;have hd:=Abe hw.small hw.code hm.jst.img hm.exl t.m.H3 x.press g hxv.exp (VA.ok hw hva) hva.len hm.lit;obtain⟨hrg,hrl⟩:=Ack hw.small hw.code hm.jst.img hm.exl hxv t.m.H3 x.press g hva.len;obtain⟨hl1,hl2⟩:=Bay b t.m.G0 t.m.E2 vs t.m.H3 x.press g;rw[hva.len]at hl1 hl2;refine S hd ?_;have hR:EH b t.m.G0 t.m.E2 vs t.m.H3 x.press g=Qc b x g t vs:=rfl;rw[hR]at hrg hrl hl1 hl2⊢;have fin:∀(t':Pk),(Al b t t' (Qc b x g t vs).recs∨De b t t' (Qc b x g t vs).recs)→_→_→_→_→Dsp b x g t t' vs:=λt' h1 h2 h3 h4 h5=>⟨hva,hve,hrg,h1,h2,h3,h4,h5⟩
 generalize hrr:Qc b x g t vs=r at hrg hrl hl1 hl2 fin;refine Sat.bindR ?_;refine H (Q:=λy=>∃t',y=(((),(),()),(r.tup,t'.tup b x g,()))∧Wr b t r.recs t') ?_ λy6 h6=>?_
 ·refine H (ZO hw.small (x:=x) (g:=g) hm.jst hb.2 hb.1 hrg.good (ω:r.recs.length≤100000)) λy4 h4=>?_;obtain⟨t',e | e,h⟩:=h4
  ·subst e;exact A ⟨t',rfl,h⟩
  ·subst e;exact A ⟨t',rfl,h⟩
 obtain⟨t1,rfl,hw1⟩:=h6;obtain⟨im,s,bu,e,rfl,hw1⟩:=hw1;refine H (Q:=λy=>∃n,y=(((),(),()),(r.tup,((t.wr im s bu e).sRnd r n (!isZ r.ref)).tup b x g,()))∧0≤n∧n≤1000000) (N (λq=>H (Anc hm.ref) λy7 h7=>A ⟨y7.1.1,rfl,h7⟩) λq=>A ⟨t.m.Y2,rfl,hm.ref⟩) λy8 h8=>?_;obtain⟨n,rfl,hn⟩:=h8;refine H (Aza r ω ((t.wr im s bu e).sRnd r n (!isZ r.ref))) λy9 h9=>?_;subst h9;refine H (Azb r (t:=((t.wr im s bu e).sRnd r n (!isZ r.ref)).sServ (Ga r.recs (t.out.X1,t.out.G1))) (by show t.out.B0.length≤1000;rw[hr.oc];omega) (by show _=t.out.B0.length;rw[hr.oc];exact hl1) (by show _=t.out.B0.length;rw[hr.oc];exact hl2)) λy10 h10=>?_;obtain⟨l,rfl,hl,hc⟩:=h10;replace hl:l.length=t.out.B0.length:=hl;replace hc:∀j,j<t.out.B0.length→Am7 r j (t.out.B0.getD j C) (l.getD j C):=hc;rw[hr.oc]at hl hc;refine A ⟨_,vs,rfl,fin _ ?_ rfl hl hc rfl⟩;have hroom:=An5 hw r.recs.length;rcases hw1 with⟨rfl,rfl,h1,h2,h3,h4,_⟩ | ⟨rfl,h1,h2,h3⟩
 ·rw[hrg.img]at h1;refine .inl ⟨rfl,?_,⟨hr.leg,hr.sho,hr.rst,hl,λi=>by
   by_cases q:i<b.B0.length
   ·show CmdR (l.getD i C).H2;rw[(hc i q).2.2.2];exact hr.cmd i
   ·show CmdR (l.getD i C).H2;rw[show(l.getD i C)=C by rw[k_,List.getElem?_eq_none ω];rfl];rfl⟩,rfl,h3,h4,(by show t.budget-_≤bu;omega),rfl⟩
  have:=hm.rnd hrg hl1 h1 hn
  rw[← hrg.img]at this;exact this
 ·exact .inr ⟨rfl,ω,h2,h3⟩
end
def Ev(b:Y)(c:Int×Int):Prop:=Fa b c=B∧Ef c
section
variable{b:Y}(hb:b.small)(hcode:b.code=0)
include hb hcode
theorem Ow:Ev b c↔Ef c∧∀f:Nat,f<32→∀d:Int,(d=1∨d=2)→Aj c f d=B→Ai b (f:Int) d=B:=by
 unfold Ev Fa;rw[Ng (HD _ _)];refine⟨λ⟨h1,h2⟩=>⟨h2,λf hf d hd q=>?_⟩,λ⟨h1,h2⟩=>⟨λf hf d hd=>?_,h1⟩⟩
 ·have:=h1 f hf d hd
  rw[Bt _ _ hf,Ov hb hcode hf hd,q]at this;simpa using this
 ·rw[Bt _ _ hf,Ov hb hcode hf hd];cases q:Aj c f d with
  |false=>rfl
  |true=>rw[h2 f hf d hd q];rfl
theorem RI:Ev b (0,0):=(Ow hb hcode).2 ⟨FJ,λf _ d _ q=>by rw[Eb]at q;cases q⟩
theorem Ad4{a:Int×Int}(c:Int×Int)(h1:Ev b a):Ev b (AX a c):=by have h1:=(Ow hb hcode).1 h1;refine(Ow hb hcode).2 ⟨HD _ _,λf hf d hd q=>?_⟩;rw[Bt _ _ hf,e_]at q;exact h1.2 f hf d hd q.1
theorem Azh{F D:Int}(h0:Ev b c)(h:Ai b F D=B):Ev b (Cc c (Fi F D)):=by
 obtain⟨h1,h2⟩:=Ot hb (e:=Entry.mk F D 0 0 E) h;have h0:=(Ow hb hcode).1 h0;refine(Ow hb hcode).2 ⟨MB _ _,λf hf d hd q=>?_⟩;rw[FD,S_,KD h1 h2 f hd,r_]at q;rcases q with q | q
 ·exact h0.2 f hf d hd q
 ·obtain⟨q1,q2⟩:=Prod.mk.inj q;rw[q1,q2];exact h
theorem Apg(v:View):Ev b (CL b v):=by
 unfold CL;cases v.A3 with
 |false=>exact RI hb hcode
 |true=>refine(Ow hb hcode).2 ⟨Wn _ _,λf hf d hd q=>?_⟩;rw[d_,Mp,Ov hb hcode hf hd,e_]at q;exact q.2
theorem Aqy{m:Img}(hm:ImgOK b m):Ev b (ofC m.A0 (0,0)):=by
 refine(Ow hb hcode).2 ⟨VX _ FJ,λf hf d hd q=>?_⟩;rcases(ZH (λe he=>Ot hb (CR.1 (hm.en e he)).1) f hd).1 q with q | q
 ·rw[Eb]at q;cases q
 ·obtain⟨e,he,q⟩:=b5_.1 q;obtain⟨q1,q2⟩:=Prod.mk.inj (show(e.D0,e.I0)=((f:Int),d)from q);rw[← q1,← q2];exact(CR.1 (hm.en e he)).1
end
def Bc1(hb:b.small)(hcode:b.code=0)(m:Img)(xs:List Int)(vs:List View)(ps:List Calls)(press:Int×Int)(good:Bool)(i:Nat):Ev b (((EH b m xs vs ps press good).lan.lit.getD i noP).Up,((EH b m xs vs ps press good).lan.lit.getD i noP).N3):=by
 have fold:∀(n k:Nat) {s:Lan},(∀c∈s.lit,Ev b (c.Up,c.N3))→∀c∈(AE (Il b vs ps) n k s).lit,Ev b (c.Up,c.N3):=by
  intro n;induction n with
  |zero=>exact λk s h=>h
  |succ n ih=>
   intro k s h;refine ih (k+1) (s:=Il b vs ps k s) λc hc=>?_;rcases p_.1 (show c∈s.lit++[Calls.mk (KK b vs k s).1 (KK b vs k s).2]from hc)with hc | hc
   ·exact h c hc
   ·rw[P_.1 hc];exact Ad4 hb hcode _ (Apg hb hcode _)
 have all:∀c∈(EH b m xs vs ps press good).lan.lit,Ev b (c.Up,c.N3):=by
  rw[Zo];cases good with
  |true=>exact fold vs.length 0 (s:=Lan.none) λc h=>by cases h
  |false=>intro c hc;rw[(List.mem_replicate.1 (show c∈aF vs.length noP from hc)).2];exact RI hb hcode
 by_cases q:i<(EH b m xs vs ps press good).lan.lit.length
 ·exact all _ (BR noP q)
 ·rw[k_,List.getElem?_eq_none ω];exact RI hb hcode
def Bes(p a d:Int)(k:Bool):Prop:=(a=0∧d=0∧k=B)∨(DK p=B∧k=E)
def Acz(p c:Int):Bool:=c==0||(p==3||p==4)
def Ar5(p c:Int):Kq p c=O ((Acz p c,()),()):=by unfold Kq Acz;cases c==0<;>cases p==3<;>rfl
def Ad6(p:Int):MH p=O ((DK p,()),()):=by unfold MH DK;cases p==0<;>rfl
section
variable{b:Y}(hw:BW b){x:Inp}{g:Bool}
include hw
theorem Bhy(hi:i<b.B0.length)(p:Int){s:Belief}(h:BelOK b i s):U (MG b.C0 b.E0 b.H0 b.M0 b.J0 b.L0 b.N0 b.B0 (i:Int) p s.D0 s.I0 s.F3 s.W0 s.B3 s.V3) λy=>∃a d k,y=(((),()),((a,d,k,()),()))∧Bes p a d k∧Ev b (a,d):=by
 have hd:=h.dut.len hw.small;unfold MG;refine S (Ad6 p) (N (λ_=>A ⟨0,0,B,rfl,.inl ⟨rfl,rfl,rfl⟩,RI hw.small hw.code⟩) λq=>?_);have q:DK p=B:=by simpa using(show(!DK p)=E from q)
 refine S (IE hw.small hw.code hi h) (Sat.bifF rfl ?_);refine H (Q:=λy=>∃a d,y=(((),(),()),((0,0,E,()),(a,d,E,()),()))∧Ev b (a,d)) ?_ λy hy=>by obtain⟨a,d,rfl,hh⟩:=hy;exact A ⟨a,d,E,rfl,.inr ⟨q,rfl⟩,hh⟩
 unfold Ku;refine aE (λ(k:Nat) z=>∃(j:Nat) (c:Int×Int),z=(((i:Int),(),(),(),s.W0,(s.W0.length:Int),(j:Int),()),((b.C0,b.E0,b.H0,b.M0,b.J0,b.L0,b.N0,b.B0,()),(0,0,E,()),(c.1,c.2,E,()),()))∧j+k=s.W0.length∧Ev b c) (λk z hz=>?_) s.W0.length ⟨0,(0,0),rfl,n_ _,RI hw.small hw.code⟩ ω;obtain⟨j,c,rfl,hk,hh⟩:=hz;show U (Ol (i:Int) s.W0 (s.W0.length:Int) (j:Int) b.C0 b.E0 b.H0 b.M0 b.J0 b.L0 b.N0 b.B0 0 0 E c.1 c.2 E) _;unfold Ol;refine N (λq=>?_) λ_=>A ⟨_,_,rfl,hh⟩;have q:(j:Int)<(s.W0.length:Int):=m_ q;have w:=CG (n:=j) ω;refine I (Ac ω q) (I (Ac ω ω) (N (λ_=>S (JY _ _) (S (Gy c (Fi _ _)) ?_)) λ_=>?_))
 ·exact A ⟨k-1,ω,j+1,_,by first | (rw[← w];rfl) | rw[← w],ω,Azh hw.small hw.code hh (h.dut.1 _ (BR GT (ω:j<s.W0.length))).1⟩
 ·exact A ⟨k-1,ω,j+1,c,by first | (rw[← w];rfl) | rw[← w],ω,hh⟩
end
def o1(c:J)(a d:Int)(k:Bool):J:=aB a d k c.N2 c.K2 c.A4 c.H2 c.U3 c.C4
def o2(c:J)(p:Int):J:=aB c.J1 c.C1 c.U1 c.N2 c.K2 c.A4 c.H2 p c.C4
def o3(c:J)(f:Bool):J:=aB c.J1 c.C1 c.U1 c.N2 c.K2 c.A4 c.H2 c.U3 f
def o4(c:J):J:=aB c.J1 c.C1 c.U1 c.N2 c.K2 c.A4 0 c.U3 c.C4
def Bct(l:List J)(i:Nat)(a d:Int)(k:Bool):List J:=l.set i (o1 (l.getD i C) a d k)
def Bcu(l:List J)(i:Nat)(a d:Int)(k:Bool)(p:Int):List J:=(Bct l i a d k).set i (o2 ((Bct l i a d k).getD i C) p)
def Agd(l:List J)(i:Nat)(a d:Int)(k:Bool)(p:Int)(f:Bool):List J:=(Bcu l i a d k p).set i (o3 ((Bcu l i a d k p).getD i C) f)
def Akn(l:List J)(i:Nat)(a d:Int)(k:Bool)(p:Int)(f:Bool):List J:=(Agd l i a d k p f).set i (o4 ((Agd l i a d k p f).getD i C))
def Aqv(hi:i<l.length)(a d:Int)(k:Bool)(p:Int)(f:Bool):Agd l i a d k p f=l.set i (o3 (o2 (o1 (l.getD i C) a d k) p) f):=by unfold Agd Bcu Bct;simp only[Bq _ _ hi,aI]
def Bcs(hi:i<l.length)(a d:Int)(k:Bool)(p:Int)(f:Bool):Akn l i a d k p f=l.set i (o4 (o3 (o2 (o1 (l.getD i C) a d k) p) f)):=by unfold Akn;rw[Aqv hi,Bq _ _ hi,aI]
structure FinO(b:Bldg)(m:Img)(i:Nat)(c d:CarOutput):Prop where
 lu:d.N2=c.N2
 ld:d.K2=c.K2
 gong:d.A4=c.A4
 phase:d.U3=phA m i
 flag:d.C4=flA m i
 coils:Bes (phA m i) d.J1 d.C1 d.U1
 cmd:Acz (phA m i) d.H2=true
 cmdr:CmdR d.H2
 inj:Ev b (d.J1,d.C1)
structure Fin(b:Bldg)(g:Bool)(t t':Pk):Prop where
 m:PM b t'.m
 im:t'.m.G0=t.m.G0
 st:t'.m.B1=t.m.B1
 bu:t'.budget=t.budget
 e:t'.e=t.e
 out:t'.out={ t.out with Q2:=(ofC t.m.G0.A0 (0,0)).1,G2:=(ofC t.m.G0.A0 (0,0)).2,H5:=!g,B0:=t'.out.B0 }
 oc:t'.out.B0.length=b.B0.length
 cars:∀i,i<b.B0.length→FinO b t.m.G0 i (t.out.B0.getD i AQ) (t'.out.B0.getD i AQ)
 con:t'.m.K1=t.m.K1
def Pk.sLmp(t:Pk)(c:Int×Int)(f:Bool):Pk:={ t with out:={ t.out with Q2:=c.1,G2:=c.2,H5:=f } }
section
variable{b:Y}(hw:BW b){x:Inp}{g:Bool}
include hw
set_option maxHeartbeats 4000000 in
theorem Bcv(hm:PM b t.m)(hr:PR b t):U (Cn (((),t.m.G0.F0,(t.m.G0.F0.length:Int),(0:Int),()),(t.tup b x g,()))) λy=>∃t',y=((),(t'.tup b x g,()))∧PM b t'.m∧Fix t t'∧t'.out.B0.length=b.B0.length∧∀i,i<b.B0.length→FinO b t.m.G0 i (t.out.B0.getD i C) (t'.out.B0.getD i C):=by
 have hcc:=Am hw.code;have hp:=hm.jst.img.lp;unfold Cn;refine aE (λ(k:Nat) z=>∃(i:Nat) (t':Pk),z=(((),t.m.G0.F0,(t.m.G0.F0.length:Int),(i:Int),()),(t'.tup b x g,()))∧i+k=b.B0.length∧PM b t'.m∧PR b t'∧Fix t t'∧(∀j,j<i→FinO b t.m.G0 j (t.out.B0.getD j C) (t'.out.B0.getD j C))∧∀j,i≤j→t'.out.B0.getD j C=t.out.B0.getD j C) (λk z hz=>?_) b.B0.length ⟨0,t,rfl,n_ _,hm,hr,.rfl' t,λj hj=>absurd hj (f8_ j),λj _=>rfl⟩ ω;obtain⟨i,u,rfl,hk,hmu,hru,hf,h1,h2⟩:=hz;show U (u.ap (EW t.m.G0.F0 (t.m.G0.F0.length:Int) (i:Int)) b x g) _;unfold Pk.ap EW;refine N (λq=>?_) λq=>A ⟨u,rfl,hmu,hf,hru.oc,λj hj=>h1 j (by have:=E_ q;omega)⟩;have q:(i:Int)<(t.m.G0.F0.length:Int):=m_ q;have hi:i<b.B0.length:=ω;have w:=CG (n:=i) ω;have ifl:R (i:Int) u.m.G0.O0.length=B:=Ac ω (by rw[hmu.jst.img.lf];omega);refine I (Ac ω q) ?_;refine H (Q:=λy=>∃v:Pk,y=(((),(i:Int),W t.m.G0 i,t.m.G0.F0,(t.m.G0.F0.length:Int),(i:Int),()),(v.tup b x g,()))∧PM b v.m∧PR b v∧Fix t v∧v.out=u.out) ?_ λy5 h5=>?_
 ·refine H (Q:=λy=>∃c:Bool,y=(((),(i:Int),W t.m.G0 i,t.m.G0.F0,(t.m.G0.F0.length:Int),(i:Int),c,()),(u.tup b x g,()))) (S (Xw _) (N (λ_=>I ifl (A ⟨_,rfl⟩)) λ_=>A ⟨_,rfl⟩)) λy2 h2=>?_;obtain⟨c,rfl⟩:=h2;have i2:R (i:Int) u.m.U0.length=B:=Ac ω (by rw[hmu.bel];omega);refine N (λ_=>I i2 ?_) λ_=>A ⟨u,rfl,hmu,hru,hf,rfl⟩;refine H (Amn hw hmu.jst.img (i:Int)) λy3 _=>H (Ac5 hw.small hw.code hi (hmu.belv i hi) _ _) λy4 h4=>I i2 ?_;obtain⟨ya,yb,yc⟩:=y4;obtain⟨v,e4,hv⟩:=h4;change yb=_ at e4;subst e4;exact A ⟨u.sBel i v,rfl,hmu.sBel hv,hru.sBel i v,⟨⟨hf.im,hf.st,hf.bu,hf.e,hf.out⟩,hf.con⟩,rfl⟩
 obtain⟨v,rfl,hmv,hrv,hfv,hov⟩:=h5;have j2:R (i:Int) v.m.U0.length=B:=Ac ω (by rw[hmv.bel];omega);have jo:R (i:Int) v.out.B0.length=B:=Ac ω (by rw[hrv.oc];omega);have jf:R (i:Int) v.m.G0.O0.length=B:=Ac ω (by rw[hmv.jst.img.lf];omega);have jr:R (i:Int) v.reset.length=B:=Ac ω (by rw[hrv.rst];omega);have hio:i<v.out.B0.length:=by rw[hrv.oc];exact hi
 refine I jo (I j2 (H (Bhy hw hi _ (hmv.belv i hi)) λy6 h6=>I jf (I jr ?_)));obtain⟨a,d,kc,rfl,hcoil,hinj⟩:=h6;have hprev:v.out.B0.getD i C=t.out.B0.getD i C:=by rw[hov];exact h2 i (A_ i)
 have hflag:P v.m.G0 i=P t.m.G0 i:=by rw[hfv.im]
 have e9:=Aqv hio a d kc (W t.m.G0 i) (P v.m.G0 i);have e10:=Bcs hio a d kc (W t.m.G0 i) (P v.m.G0 i);have done:∀c:J,FinO b t.m.G0 i (t.out.B0.getD i C) c→PM b (v.sOuts (v.out.B0.set i c)).m∧PR b (v.sOuts (v.out.B0.set i c))∧Fix t (v.sOuts (v.out.B0.set i c))∧(∀j,j<i+1→FinO b t.m.G0 j (t.out.B0.getD j C) ((v.sOuts (v.out.B0.set i c)).out.B0.getD j C))∧∀j,i+1≤j→(v.sOuts (v.out.B0.set i c)).out.B0.getD j C=t.out.B0.getD j C:=λc hc=>by
  refine⟨hmv,⟨hrv.leg,hrv.sho,hrv.rst,(by show(v.out.B0.set i c).length=_;rw[D_];exact hrv.oc),Aqh hrv.cmd hc.cmdr i⟩,⟨⟨hfv.im,hfv.st,hfv.bu,hfv.e,by show({ v.out with B0:=_ }:Outputs)=_;rw[hfv.out];rfl⟩,hfv.con⟩,λj hj=>?_,λj hj=>?_⟩
  ·show FinO b t.m.G0 j (t.out.B0.getD j C) ((v.out.B0.set i c).getD j C);by_cases e:i=j
   ·subst e;rw[Bq _ _ hio];exact hc
   ·rw[CX _ _ e,hov];exact h1 j ω
  ·show(v.out.B0.set i c).getD j C=_;rw[CX _ _ ω,hov];exact h2 j ω
 refine N (λ_=>?_) λ_=>S (Ar5 _ _) (N (λq7=>?_) λq7=>?_)
 ·obtain⟨d1,d2,d3,d4,d5⟩:=done (o4 (o3 (o2 (o1 (v.out.B0.getD i C) a d kc) (W t.m.G0 i)) (P v.m.G0 i))) ⟨by rw[← hprev];rfl,by rw[← hprev];rfl,by rw[← hprev];rfl,rfl,hflag,hcoil,rfl,rfl,hinj⟩;refine A ⟨k-1,ω,i+1,v.sOuts (Akn v.out.B0 i a d kc (W t.m.G0 i) (P v.m.G0 i)),by first | (rw[← w];rfl) | rw[← w],ω,?_⟩;rw[e10];exact⟨d1,d2,d3,d4,d5⟩
 ·obtain⟨d1,d2,d3,d4,d5⟩:=done (o4 (o3 (o2 (o1 (v.out.B0.getD i C) a d kc) (W t.m.G0 i)) (P v.m.G0 i))) ⟨by rw[← hprev];rfl,by rw[← hprev];rfl,by rw[← hprev];rfl,rfl,hflag,hcoil,rfl,rfl,hinj⟩;refine A ⟨k-1,ω,i+1,v.sOuts (Akn v.out.B0 i a d kc (W t.m.G0 i) (P v.m.G0 i)),by first | (rw[← w];rfl) | rw[← w],ω,?_⟩;rw[e10];exact⟨d1,d2,d3,d4,d5⟩
 ·have q7:(!Acz (W t.m.G0 i) ((Agd v.out.B0 i a d kc (W t.m.G0 i) (P v.m.G0 i)).getD i C).H2)=E:=q7;rw[e9,Bq _ _ hio]at q7;obtain⟨d1,d2,d3,d4,d5⟩:=done (o3 (o2 (o1 (v.out.B0.getD i C) a d kc) (W t.m.G0 i)) (P v.m.G0 i)) ⟨by rw[← hprev];rfl,by rw[← hprev];rfl,by rw[← hprev];rfl,rfl,hflag,hcoil,by simpa using q7,(by show CmdR (v.out.B0.getD i C).H2;exact hrv.cmd i),hinj⟩;refine A ⟨k-1,ω,i+1,v.sOuts (Agd v.out.B0 i a d kc (W t.m.G0 i) (P v.m.G0 i)),by first | (rw[← w];rfl) | rw[← w],ω,?_⟩;rw[e9];exact⟨d1,d2,d3,d4,d5⟩
theorem Bcx(hm:PM b t.m)(hr:PR b t):U (t.ap DD b x g) λy=>∃t',y=((),(t'.tup b x g,()))∧Fin b g t t':=by
 have he:=Ep hw.small hm.jst.img;have hlm:GW t.m.G0.F0 t.m.G0.O0 t.m.G0.K0 t.m.G0.A0=O (((),()),(((ofC t.m.G0.A0 (0,0)).1,(ofC t.m.G0.A0 (0,0)).2,()),())):=by unfold GW;exact Ae (Aaj ω) rfl
 unfold Pk.ap DD;refine S hlm ?_;refine H (Bcv hw (x:=x) (g:=g) (t:=t.sLmp (ofC t.m.G0.A0 (0,0)) (!g)) hm ⟨hr.leg,hr.sho,hr.rst,hr.oc,hr.cmd⟩) λy2 h2=>?_;obtain⟨t',rfl,h1,h2,h3,h4⟩:=h2;exact A ⟨t',rfl,h1,h2.im,h2.st,h2.bu,h2.e,by rw[h2.out];rfl,h3,h4,h2.con⟩
end
def RunR(b:Y)(x:Inp)(g:Bool)(t t':Pk):Prop:=∃(t1 t2:Pk) (l1:List aA),PM b t1.m∧PR b t1∧FixR t t1∧(∀r∈l1,UE b r)∧l1.length≤8∧(t2.out={ t1.out with B0:=t2.out.B0 }∧(g=B→∀j,j<b.B0.length→DK (W t1.m.G0 j)=B→DC t2 j))∧
 ((De b t1 t2 l1∧t'=t2)∨(Al b t1 t2 l1∧∃(t3:Pk) (l2:List aA),((g=E∧t3=t2∧l2=[])∨(g=B∧Opr b x g t2 t3 l2))∧
  ((De b t2 t3 l2∧t'=t3)∨(Al b t2 t3 l2∧∃(t4:Pk) (vs:List View),Dsp b x g t3 t4 vs∧
   ((t4.e=8∧t'=t4)∨(t4.e=0∧Fin b g t4 t'))))))
section
variable{b:Y}(hw:BW b){x:Inp}{g:Bool}(hx:g=B→InOK b x)
include hw hx
theorem Btu(hm:PM b t.m)(hr:PR b t)(hb:Bud t):U (t.ap EF b x g) λy=>∃t',(y=.inl ((),(t'.tup b x g,()))∨y=.inr ((),(t'.tup b x g,())))∧RunR b x g t t':=by
 unfold Pk.ap EF;refine H (Q:=λy=>∃t1,y=(((),(),(),(),()),(((),(),(),(),(),()),t1.tup b x g,()))∧PM b t1.m∧PR b t1∧FixR t t1) ?_ λy3 h3=>?_
 ·refine H (Bq1 hw hx hm hr) λy1 h1=>?_;obtain⟨t1,e | e,h⟩:=h1
  ·subst e;exact A ⟨t1,rfl,h⟩
  ·subst e;exact A ⟨t1,rfl,h⟩
 obtain⟨t1,rfl,m1,r1,f1⟩:=h3;have b1:Bud t1:=⟨f1.e.trans hb.1,by rw[f1.bu];exact hb.2⟩
 refine Sat.bifF (show(t1.e !=0)=E by rw[b1.1];rfl) ?_;refine H (Bl0 hw hx m1 r1 b1) λy4 h4=>?_;obtain⟨t2,l1,rfl,hl1,hn1,res2,o2⟩:=h4;have e8:∀{u v:Pk}{l:List aA},(Al b u v l∨De b u v l)→(v.e !=0)=B→De b u v l:=λh q=>by
  rcases h with h | h
  ·rw[h.e]at q;cases q
  ·exact h
 have e0:∀{u v:Pk}{l:List aA},(Al b u v l∨De b u v l)→(v.e !=0)=E→Al b u v l:=λh q=>by
  rcases h with h | h
  ·exact h
  ·rw[h.e]at q;cases q
 refine N (λq=>A ⟨t2,.inl rfl,t1,t2,l1,m1,r1,f1,hl1,hn1,o2,.inl ⟨e8 res2 q,rfl⟩⟩) λq=>?_;have a2:=e0 res2 q;have b2:=a2.bud b1;refine H (Q:=λy=>∃(t3:Pk) (l2:List aA),y=((),(t3.tup b x g,()))∧((g=E∧t3=t2∧l2=[])∨(g=B∧Opr b x g t2 t3 l2))∧(Al b t2 t3 l2∨De b t2 t3 l2)) ?_ λy5 h5=>?_
 ·show U (t2.ap Cw b x g) _;unfold Pk.ap Cw;refine N (λhg=>?_) λhg=>A ⟨t2,[],rfl,.inl ⟨hg,rfl,rfl⟩,.inl ⟨a2.e,a2.m,a2.r,rfl,a2.b0,e0_ _,σ,rfl⟩⟩;refine H (Q:=λy=>∃(t3:Pk) (l2:List aA),y=((),(t3.tup b x g,()))∧Opr b x g t2 t3 l2) ?_ λy3 h3=>by obtain⟨t3,l2,rfl,h⟩:=h3;exact A ⟨t3,l2,rfl,.inr ⟨hg,h⟩,h.res⟩
  refine H (Az7 hw (hx hg) (g:=g) a2.m a2.r b2) λy1 h1=>?_;obtain⟨t3,l2,e | e,h⟩:=h1
  ·subst e;exact A ⟨t3,l2,rfl,h⟩
  ·subst e;exact A ⟨t3,l2,rfl,h⟩
 obtain⟨t3,l2,rfl,hop,res3⟩:=h5;refine N (λq=>A ⟨t3,.inl rfl,t1,t2,l1,m1,r1,f1,hl1,hn1,o2,.inr ⟨a2,t3,l2,hop,.inl ⟨e8 res3 q,rfl⟩⟩⟩) λq=>?_;have a3:=e0 res3 q;have b3:=a3.bud b2;refine H (Atf hw hx a3.m a3.r b3) λy6 h6=>?_;obtain⟨t4,vs,rfl,hd⟩:=h6;refine N (λq=>A ⟨t4,.inl rfl,t1,t2,l1,m1,r1,f1,hl1,hn1,o2,.inr ⟨a2,t3,l2,hop,.inr ⟨a3,t4,vs,hd,.inl ⟨(e8 hd.res q).e,rfl⟩⟩⟩⟩) λq=>?_;have a4:=e0 hd.res q;refine H (Bcx hw (x:=x) (g:=g) a4.m a4.r) λy7 h7=>?_;obtain⟨t5,rfl,hf⟩:=h7;have he:(t5.e !=0)=E:=by rw[hf.e,a4.e];rfl
 exact Sat.bifF he (A ⟨t5,.inr rfl,t1,t2,l1,m1,r1,f1,hl1,hn1,o2,.inr ⟨a2,t3,l2,hop,.inr ⟨a3,t4,vs,hd,.inr ⟨a4.e,hf⟩⟩⟩⟩)
end
def RunR.cases(hw:BW b){x:Inp}{g:Bool}{t':Pk}(h:RunR b x g t t')(hb:Bud t):(t'.e=0∧PM b t'.m∧t'.out.B0.length=b.B0.length∧0≤t'.budget)∨(t'.e=8∧t.budget<300000):=by
 obtain⟨t1,t2,l1,m1,r1,f1,hl1,hn1,o2,⟨d,rfl⟩ | ⟨a2,t3,l2,hop,h⟩⟩:=h
 ·have:=d.lo
  rw[f1.bu]at this;exact .inr ⟨d.e,ω⟩
 have hn2:l2.length≤100:=by
  rcases hop with⟨_,_,rfl⟩ | ⟨_,h⟩
  ·exact a2_ _
  ·obtain⟨i,cm,fr,_,hi,_,rfl,_⟩:=h.how;have h1:=(Anm (b:=b) t2.m.G0 x.kind hi (cm.getD i E) fr).2;have h2:=Uo (Aq t2.m.G0 (OB t2.m.G0 x.kind i (cm.getD i E) fr).1) (bif x.kind !=0 then cm.set i E else cm) b.B0.length
   have:=Am m1.jst.img.code
   unfold Ns;rw[h_];omega
 have k2:=a2.b2;rw[f1.bu]at k2;rcases h with⟨d,rfl⟩ | ⟨a3,t4,vs,hd,h⟩
 ·have:=d.lo
  exact .inr ⟨d.e,ω⟩
 have k3:=a3.b2;have hn3:(Qc b x g t3 vs).recs.length≤300:=(Ack hw.small hw.code a3.m.jst.img a3.m.exl a3.m.exv t3.m.H3 x.press g hd.va.len).2;rcases h with⟨h8,rfl⟩ | ⟨h0,hf⟩
 ·rcases hd.res with a | d
  ·rw[a.e]at h8;cases h8
  ·have:=d.lo
   exact .inr ⟨h8,ω⟩
 ·rcases hd.res with a | d
  ·exact .inl ⟨hf.e.trans h0,hf.m,hf.oc,by rw[hf.bu];exact a.b0⟩
  ·rw[d.e]at h0;cases h0
end Go.Ovl
namespace Go.Ovl
open Go Go.Ab
variable{half bud room:Int}{s:Sto}{d:ByteArray}{b:Y}
def Oh(room:Int)(h0 h1:ByteArray)(sel:Int):Hl room h0 h1 sel=O ((decide (Sto.ok room ⟨h0,h1,sel⟩),()),()):=by
 unfold Hl Sto.ok;by_cases a:1≤room
 ·by_cases b:room≤65536
  ·by_cases c:(h0.size:Int)≤room
   ·by_cases d:(h1.size:Int)≤room
    ·by_cases e:sel=0
     ·simp[a,b,c,d,e]
     ·by_cases f:sel=1<;>simp[a,b,c,d,e,f,An]
    ·simp[a,b,c,d]
   ·simp[a,b,c]
  ·simp[a,b]
 ·simp[a]
def Qg(room:Int)(h0 h1:ByteArray)(sel half bud:Int):Lu room h0 h1 sel half bud=O ((Sto.chk room ⟨h0,h1,sel⟩ half bud,()),()):=by
 unfold Lu Sto.chk;rw[Oh];by_cases a:Sto.ok room ⟨h0,h1,sel⟩
 ·by_cases b:half=0
  ·by_cases c:bud<0<;>simp[a,b,c]
  ·by_cases d:half=1
   ·by_cases c:bud<0<;>simp[a,c,d]
   ·simp[a,b,d,Ig]
 ·simp[a]
def Bak(room:Int)(h0 h1:ByteArray)(sel half bud:Int)(hb:bud<9223372036854775808):QR room h0 h1 sel half bud=O (V (Sto.erase room ⟨h0,h1,sel⟩ half bud)):=by
 unfold QR Sto.erase Sto.act;rw[Qg];generalize hc:Sto.chk room ⟨h0,h1,sel⟩ half bud=c;by_cases h:c=0
 ·subst h;obtain⟨_,hh,hb0⟩:=Qw hc;by_cases h2:bud=0
  ·simp[h2,V]
  ·have hin:R half 2=B:=Ac ω ω;rw[Aa (n:=bud-1) ω ω];have e:(bud==0)=E:=by simpa using h2
   rcases hh with rfl | rfl<;>simp[hin,e,h2,V,Sto.set,noB]<;>rfl
 ·simp[h,V,Sto.no,noB,Ig]
def Aus(room:Int)(h0 h1:ByteArray)(sel half bud:Int)(hb:bud<9223372036854775808):Pc room h0 h1 sel half bud=O (V (Sto.choose room ⟨h0,h1,sel⟩ half bud)):=by
 unfold Pc Sto.choose Sto.act;rw[Qg];generalize hc:Sto.chk room ⟨h0,h1,sel⟩ half bud=c;by_cases h:c=0
 ·subst h;obtain⟨_,hh,hb0⟩:=Qw hc;by_cases h2:bud=0
  ·simp[h2,V]
  ·rw[Aa (n:=bud-1) ω ω];have e:(bud==0)=E:=by simpa using h2
   simp[e,h2,V]
 ·simp[h,V,Sto.no,noB,Ig]
def Aax(h0 h1:ByteArray)(sel:Int):NJ h0 h1 sel=O ((Sto.cur ⟨h0,h1,sel⟩,()),()):=by unfold NJ Sto.cur;by_cases h:sel=1<;>simp[h,An]
def Aqx(hh:half=0∨half=1)(x:ByteArray):(s.set half x).get half=x:=by rcases hh with rfl | rfl<;>rfl
def set_set(hh:half=0∨half=1)(x y:ByteArray):(s.set half x).set half y=s.set half y:=by rcases hh with rfl | rfl<;>rfl
def Arn(hh:half=0∨half=1):s.set half (s.get half)=s:=by rcases hh with rfl | rfl<;>rfl
def Aia(hh:half=0∨half=1):List.getD [s.h0,s.h1] half.toNat (ByteArray.mk (Array.mk []))=s.get half:=by rcases hh with rfl | rfl<;>rfl
def Bab(hh:half=0∨half=1)(x:ByteArray):((bif Nat.beq half.toNat 0 then x else s.h0),((bif Nat.beq half.toNat 1 then x else s.h1),(s.sel,())))=(s.set half x).tup:=by rcases hh with rfl | rfl<;>rfl
def Aj6{i:Int}{t:Sto}(h:(d.size:Int)≤i):
  Dl half d bud i s.h0 s.h1 s.sel t.h0 t.h1 t.sel=O (.inr (.inl ((bud,((),((),()))),(s.tup,(t.tup,()))))):=by
 unfold Dl;have e:decide (i<(d.size:Int))=E:=by simp;omega
 rw[e];rfl
def Ag5{i:Int}{t:Sto}(h:i<(d.size:Int)):
  Dl half d 0 i s.h0 s.h1 s.sel t.h0 t.h1 t.sel=O (.inr (.inr (((),(0,(8,()))),(s.tup,())))):=by
 unfold Dl;have e:decide (i<(d.size:Int))=B:=by simpa using h
 rw[e];rfl
def Anv(hh:half=0∨half=1){i:Nat}{t:Sto}(h:i<d.size)(hd:d.size<1000000)(hb:0<bud)(hb':bud<9223372036854775808)(hs:(s.get half).size<1000000):
  Dl half d bud i s.h0 s.h1 s.sel t.h0 t.h1 t.sel=
   O (.inl ((half,(d,(bud-1,((),((),(((i+1:Nat):Int),())))))),((s.set half (s.get half++d.extract i (i+1))).tup,(t.tup,())))):=by
 unfold Dl;have e:decide ((i:Int)<(d.size:Int))=B:=by simp;omega
 have e1:(bud==0)=E:=An ω;have e2:R half 2=B:=Ac ω ω;have w:aH.wrap ((i:Int)+1)=((i+1:Nat):Int):=by rw[Aa ω ω];omega
 have w2:aH.wrap (bud-1)=bud-1:=Aa ω ω;have e3:(decide ((0:Int)≤((i+1:Nat):Int))&&decide (((i+1:Nat):Int)≤(d.size:Int)))=B:=by simp;omega
 have e4:(decide ((0:Int)≤(i:Int))&&decide ((i:Int)≤((aC ((i+1:Nat):Int):Nat):Int)))=B:=by simp;omega
 have e5:aC ((i+1:Nat):Int)=i+1:=ω;have e6:aC (i:Int)=i:=ω;simp only[e,e1,e2,w,w2,e3,e4,d_,c_,Aia hh];simp only[e5,e6];have e7:Nat.ble ((s.get half).size+(d.extract i (i+1)).size) 4611686018427387904=B:=Av (by simp;omega);rw[e7,d_,Bab hh];rfl
def Anu{half:Int}(hh:half=0∨half=1){d:ByteArray}{t:Sto}(hd:d.size≤65536):∀(n i:Nat) (bud:Int) (s:Sto),d.size-i=n→i≤d.size→0≤bud→bud<9223372036854775808→(s.get half).size+(d.size-i)≤65536→
  BY (λx=>Dl x.1.1 x.1.2.1 x.1.2.2.1 x.1.2.2.2.2.2.1 x.2.1.1 x.2.1.2.1 x.2.1.2.2.1 x.2.2.1.1 x.2.2.1.2.1 x.2.2.1.2.2.1) (n+1)
    ((half,(d,(bud,((),((),((i:Int),())))))),(s.tup,(t.tup,())))=
   O (if bud<(d.size:Int)-i then .inr (((),(0,(8,()))),((s.set half (s.get half++d.extract i (i+bud.toNat))).tup,()))
    else .inl ((bud-((d.size:Int)-i),((),((),()))),((s.set half (s.get half++d.extract i d.size)).tup,(t.tup,()))))
 |0,i,bud,s,hn,hi,hb,hb',hs=>by
  have:i=d.size:=ω
  subst this;refine AK (y:=_) ?_;rw[if_neg ω,Ah1,Ac1,Arn hh];show Dl half d bud (d.size:Int) s.h0 s.h1 s.sel t.h0 t.h1 t.sel=_;rw[Aj6 (e0_ _)];simp
 |n+1,i,bud,s,hn,hi,hb,hb',hs=>by
  by_cases h0:bud=0
  ·subst h0;refine AK (y:=_) ?_;rw[if_pos ω];show Dl half d 0 (i:Int) s.h0 s.h1 s.sel t.h0 t.h1 t.sel=_;rw[Ag5 ω];simp only[Int.toNat_zero,b9_,Ah1,Ac1,Arn hh]
  ·rw[BS (show Dl half d bud (i:Int) s.h0 s.h1 s.sel t.h0 t.h1 t.sel=_ from Anv hh ω ω ω hb' ω),
    Anu hh hd n (i+1) (bud-1) _ ω ω ω ω (by rw[Aqx hh];simp;omega)]
   rw[Aqx hh,set_set hh,set_set hh,e4_,e4_];by_cases h1:bud<(d.size:Int)-i
   ·rw[if_pos h1,if_pos ω,Ame d ω ω,show i+1+(bud-1).toNat=i+bud.toNat by omega]
   ·rw[if_neg h1,if_neg ω,Ame d ω ω];congr 3
    have:bud-1-((d.size:Int)-((i+1:Nat):Int))=bud-((d.size:Int)-i):=ω
    rw[this]
def Afj(room:Int)(h0 h1:ByteArray)(sel half:Int)(d:ByteArray)(bud:Int)(hb:bud<9223372036854775808)(hd:d.size<1000000) :
  QS room h0 h1 sel half d bud=O (V (Sto.write room ⟨h0,h1,sel⟩ half d bud)):=by
 unfold QS Sto.write;rw[Qg];generalize hc:Sto.chk room ⟨h0,h1,sel⟩ half bud=c;by_cases h:c=0
 ·subst h;obtain⟨⟨o1,o2,o3,o4,o5⟩,hh,hb0⟩:=Qw hc;simp only at o3 o4;have hin:R half 2=B:=Ac ω ω;have hg:List.getD [h0,h1] half.toNat (ByteArray.mk (Array.mk []))=Sto.get ⟨h0,h1,sel⟩ half:=Aia (s:=⟨h0,h1,sel⟩) hh;have hgs:((Sto.get ⟨h0,h1,sel⟩ half).size:Int)≤room:=by rcases hh with rfl | rfl<;>simpa[Sto.get]
  simp only[a_,hin,d_,hg];rw[Aa (n:=((Sto.get ⟨h0,h1,sel⟩ half).size:Int)+d.size) ω ω];by_cases h2:room<((Sto.get ⟨h0,h1,sel⟩ half).size:Int)+d.size
  ·simp[h2,V,Sto.no,noB]
  ·have hl:=Anu (t:=Sto.no) hh (d:=d) ω d.size 0 bud ⟨h0,h1,sel⟩ ω ω hb0 hb ω;have hl':Ld ((half,(d,(bud,((),((),((0:Int),())))))),((Sto.tup ⟨h0,h1,sel⟩),(Sto.no.tup,())))=_:=Ak hl ω;have e:decide (room<((Sto.get ⟨h0,h1,sel⟩ half).size:Int)+d.size)=E:=by simpa using h2
   have z:((0:Int) !=0)=E:=rfl;simp only[z,c_,h2,e8_,ne_eq,not_true_eq_false];show(Ld ((half,(d,(bud,((),((),((0:Int),())))))),((Sto.tup ⟨h0,h1,sel⟩),(Sto.no.tup,())))).bind _=_;rw[hl'];by_cases h3:bud<d.size
   ·rw[if_pos ω,if_pos h3];simp[V,Sto.tup]
   ·rw[if_neg ω,if_neg h3];simp[V,Sto.tup]
 ·simp[h,V,Sto.no,noB,Ig]
def Anx(hb:b.small)(hc:b.B0.length≤100){rs:List aA}(hl:rs.length≤100000):QT b.C0 b.E0 b.H0 b.M0 b.J0 b.L0 b.N0 b.B0 rs=O ((txt (rs.flatMap λr=>bl (Hu b r)),()),()):=by
 have h:=AP (step:=λx=>letI a:=x.2.1.2.2;letI c:=a.2.2;IB x.1.1 x.1.2.2.1 x.1.2.2.2.1 x.2.1.1 x.2.1.2.1 a.1 a.2.1 c.1 c.2.1 c.2.2.1 c.2.2.2.1) rs.length (λi (l:List UInt8)=>((rs,(),txt l,(i:Int),()),(b.tup,()))) (λi l=>l++bl (Hu b (rs.getD i (aD 0 0 0 0 0)))) (λi l=>l.length≤6*i) (λl=>((txt l,()),())) (λi l hi hs=>by
  have he:=Ahx b (rs.getD i (aD 0 0 0 0 0));refine⟨?_,by rw[h_];omega⟩;show IB rs (txt l) (i:Int) b.C0 b.E0 b.H0 b.M0 b.J0 b.L0 b.N0 b.B0=_;unfold IB;simp only[b_ (ω:(i:Int)<(rs.length:Int)),Ac (ω:(0:Int)≤(i:Int)) (ω:(i:Int)<(rs.length:Int)),d_,j_,Aj7 hb hc,a_,Gb hi (show rs.length≤Ba by unfold Ba;omega)];rw[Av (show(txt l).size+(Hu b (rs.getD i (aD 0 0 0 0 0))).size≤4611686018427387904 by rw[FI,← FE];omega)];rw[show txt l++Hu b (rs.getD i (aD 0 0 0 0 0))=txt (l++bl (Hu b (rs.getD i (aD 0 0 0 0 0))))by rw[← Ahf,Bq7]];rfl) (λl _=>by
  show IB rs (txt l) (rs.length:Int) b.C0 b.E0 b.H0 b.M0 b.J0 b.L0 b.N0 b.B0=_;unfold IB;simp only[f_ (Q_ (rs.length:Int)),c_]) rs.length 0 [] ω σ
 have h':=Ak h.1 ω;rw[HB (λi=>bl (Hu b (rs.getD i (aD 0 0 0 0 0)))),a5_,Ni (λr=>bl (Hu b r)) (aD 0 0 0 0 0) rs 0 rs.length ω,R_]at h';unfold QT;rw[show NW ((rs,(),ByteArray.mk (Array.mk []),(0:Int),()),((b.C0,b.E0,b.H0,b.M0,b.J0,b.L0,b.N0,b.B0,()),()))=_ from h'];rfl
def Aiz(hcode:b.code=0)(s:Sto)(bud:Int):Ti b.C0 b.E0 b.H0 b.M0 b.J0 b.L0 b.N0 b.B0 s.h0 s.h1 s.sel bud=O ((decide (s.ok b.H0)&&decide (0≤bud),()),()):=by unfold Ti;rw[Em,hcode,Oh];simp only[a_,l_,d_];rw[show Sto.mk s.h0 s.h1 s.sel=s from rfl];cases decide (s.ok b.H0)<;>rfl
def Bhp{t:Sto}(h:(s.act room half bud t).2.2≠0):(s.act room half bud t).2.1=0:=by
 unfold Sto.act at*;split
 ·rfl
 ·split
  ·rfl
  ·rename_i h1 h2;rw[if_neg h1,if_neg h2]at h;exact absurd rfl h
def Ba3(h:(s.write room half d bud).2.2≠0):(s.write room half d bud).2.1=0:=by
 unfold Sto.write at*;split
 ·rfl
 ·split
  ·rfl
  ·split
   ·rfl
   ·rename_i h1 h2 h3;rw[if_neg h1,if_neg h2,if_neg h3]at h;exact absurd rfl h
def Azz(bud:Int):decide (bud<0)=!decide (0≤bud):=TA bud 0
def Ag6(hb:b.small)(hcode:b.code=0)(s:Sto){m:Img}(hf:m.fit)(hl:m.A0.length≤5000)(hbud:bud<9223372036854775808):
  NK b.C0 b.E0 b.H0 b.M0 b.J0 b.L0 b.N0 b.B0 s.h0 s.h1 s.sel m.F0 m.O0 m.K0 m.A0 bud=O (V (Dz b s m bud)):=by
 have hmx:100000≤maxLen:=by decide
 have hp:=hf.p;have he:=hf.e;have hcars:=Am hcode;unfold NK Dz;rw[Aiz hcode,QD hb m ω ω,Aes hb hf,Azz];simp only[a_];by_cases hs:s.ok b.H0
 ·rw[b_ hs];by_cases hb0:0≤bud
  ·rw[b_ hb0];cases hok:m.ok b with
   |false=>rfl
   |true=>
    have hm:=Img.ok_iff.1 hok;have hlp:=hm.lp;have hsn:UY b m=CM m:=by unfold UY;rw[hok];rfl
    have hsl:=Zf m;have hby:=Anx hb ω (rs:=CM m) (by rw[hsl];omega);rw[Abg (SR hm)]at hby;have hsel:aH.wrap (1-s.sel)=1-s.sel:=by obtain⟨_,_,_,_,h5⟩:=hs;exact Aa ω ω
    simp only[a0_,o_,c_,hsn,hby,a_,hsel,Bak _ _ _ _ _ _ hbud,V];have hb1:=Ap7 b.H0 s (1-s.sel) bud (s.set (1-s.sel) noB) hbud;have he1:(s.erase b.H0 (1-s.sel) bud).2.2≠0→(s.erase b.H0 (1-s.sel) bud).2.1=0:=Bhp;rw[show s.act b.H0 (1-s.sel) bud (s.set (1-s.sel) noB)=s.erase b.H0 (1-s.sel) bud from rfl]at hb1;rw[show Sto.mk s.h0 s.h1 s.sel=s from rfl];generalize s.erase b.H0 (1-s.sel) bud=r1 at hb1 he1⊢;by_cases hq:r1.2.2=0
    ·have hdl:(txt ((CM m).flatMap Cb)).size<1000000:=by rw[FI,ZD,hsl];omega
     simp only[hq,O_,c_,l_,d_,Afj _ _ _ _ _ _ _ hb1 hdl,a_,V];have hb2:=Ajl b.H0 r1.1 (1-s.sel) (txt ((CM m).flatMap Cb)) r1.2.1 hb1;have he2:(r1.1.write b.H0 (1-s.sel) (txt ((CM m).flatMap Cb)) r1.2.1).2.2≠0→(r1.1.write b.H0 (1-s.sel) (txt ((CM m).flatMap Cb)) r1.2.1).2.1=0:=Ba3;rw[show Sto.mk r1.1.h0 r1.1.h1 r1.1.sel=r1.1 from rfl];generalize r1.1.write b.H0 (1-s.sel) (txt ((CM m).flatMap Cb)) r1.2.1=r2 at hb2 he2⊢;by_cases hq2:r2.2.2=0
     ·simp only[hq2,O_,c_,l_,d_,Aus _ _ _ _ _ _ hb2,a_,V]
     ·rw[Ig hq2,An hq2,d_,c_,he2 hq2]
    ·rw[Ig hq,An hq,d_,c_,he1 hq]
  ·rw[f_ hb0];rfl
 ·rw[f_ hs];rfl
def Ag8(hb:b.small)(hcode:b.code=0)(s:Sto)(hs:s.cur.size≤5000)(hbud:bud<9223372036854775808)(hR:JK b.C0 b.E0 b.H0 b.M0 b.J0 b.L0 b.N0 b.B0 s.h0 s.h1 s.sel=O (((),()),((CA b s).tup,()))):
  NM b.C0 b.E0 b.H0 b.M0 b.J0 b.L0 b.N0 b.B0 s.h0 s.h1 s.sel bud=O (Bap (Df b s bud).1 (Df b s bud).2.1 (Df b s bud).2.2.1 (Df b s bud).2.2.2):=by
 have hc:=Am hcode;obtain⟨hok,hle,hf⟩:=Ai2 hcode s ω;have hle2:(CA b s).A0.length≤900:=by have h2:=(Um (Abn hcode) (rs:=Od b s.cur) λr hr=>Vy b _ _ r hr).2;have h3:=YX b s.cur.size (bl s.cur);rw[FE]at h3;have h4:(GG b).A0.length=0:=rfl;have h5:(Od b s.cur).length=(Nj b s.cur.size (bl s.cur)).length:=rfl;show(Aq (GG b) (Od b s.cur)).A0.length≤_;omega
 unfold NM;rw[Aiz hcode,hR];simp only[a_,Img.tup];rw[Ag6 hb hcode s hf ω hbud];simp only[a_,V];unfold Df;cases hq:decide (s.ok b.H0)&&decide (0≤bud)with
 |false=>
  have e:Dz b s (CA b s) bud=(Sto.no,0,1):=by
   unfold Dz;rw[Azz];rw[Bool.and_eq_false_iff]at hq;rcases hq with hq | hq
   ·rw[hq];rfl
   ·rw[hq];cases decide (s.ok b.H0)<;>rfl
  rw[e];rfl
 |true=>generalize Dz b s (CA b s) bud=w;cases w.2.2 !=0<;>rfl
def Aka(hcode:b.code=0):JK b.C0 b.E0 b.H0 b.M0 b.J0 b.L0 b.N0 b.B0 Sto.no.h0 Sto.no.h1 Sto.no.sel=O (((),()),((CA b Sto.no).tup,())):=by have hcars:=Am hcode;unfold JK;rw[Ag7 hcode ω,Aax];simp only[a_];have h:∀t,Ps ((noB,(),([]:List aA),(0:Int),()),t)=O (([],0,()),()):=λt=>Ak (f:=1) (AK rfl) τ;unfold Wi;rw[show Sto.cur ⟨Sto.no.h0,Sto.no.h1,Sto.no.sel⟩=noB from rfl,h];simp only[a_];have h2:∀a c d,MX (((),(),(),([]:List aA),(0:Int),()),(a,c,d,()))=O (((),(),()),(c,d,())):=λa c d=>Ak (f:=1) (AK rfl) τ;rw[h2];rfl
end Go.Ovl
