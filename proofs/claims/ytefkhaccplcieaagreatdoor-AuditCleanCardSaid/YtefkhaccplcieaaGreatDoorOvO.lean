import Derived.Test.YtefkhaccplcieaaGreatDoorOvN
import Derived.Test.YtefkhaccplcieaaGreatDoorDefs4
set_option linter.all false
open Go.Ovl.Sat renaming bindE->A,bifF->B
open Bool renaming true->D,false->E
namespace Go.Ovl
open Go Go.Ab
set_option maxRecDepth 100000
variable{p:Outputs}{m:Mch}
def Uh(c:Int×Int):Hx c.1 c.2=some ((isZ c,()),()):=rfl
def Afe(a:Int×Int):Ay a a=(0,0):=MU (Hi _ _) GO λf hf d _=>by rw[Bk _ _ hf,EP];simp
structure Bef(b:Bldg)(m:Mch)(p:Outputs):Prop where
 len:p.B0.length=b.B0.length
 ph:∀i,i<b.B0.length→(p.B0.getD i AB).G2=phA m.E0 i
 lamps:(p.Y3,p.N3)=ofC m.E0.A0 (0,0)
section
variable{b:Bldg}(hw:BW b){m:Mch}{x:Inp}{g:Bool}{m':Mch}{o:Outputs}{l1 l2:List Record}{u:Mch}{vs:List View}{X:Rnd}(h:TickF b m x g m' o l1 l2 u vs X)
include hw h
theorem TickF.bef:Bef b m' o:=⟨h.oc,λi hi=>by obtain⟨c,d,_,hf⟩:=h.cars i hi;exact hf.phase,Prod.ext h.lu h.ld⟩
theorem TickF.acc:∀k,k≤b.B0.length→JI o.B0 k=Lj X.lan.lit k
 |0,_=>rfl
 |k+1,hk=>by
  obtain⟨c,d,hl,hf⟩:=h.cars k ω;have e:VS o.B0 k=II X.lan.lit k:=by unfold VS II;rw[hf.lu,hf.ld,hl.1,hl.2.1]
  show BV (JI o.B0 k) (VS o.B0 k)=BV (Lj X.lan.lit k) (II X.lan.lit k);rw[TickF.acc k ω,e]
theorem Bjy(hm:PM b m)(h1:One b m'.E0)(hx:(g=D→GN b x.press=D)∧(g=E→x.press=(0,0)))(hp:Bef b m p):Sat (Dc b.C0 b.F0 b.H0 b.M0 b.K0 b.L0 b.N0 b.B0 p.Y3 p.N3 p.X2 p.L2 p.X5 p.L0 p.U5 p.B0 o.Y3 o.N3 o.X2 o.L2 o.X5 o.L0 o.U5 o.B0) λy=>y=((0,()),()):=by
 have hcc:=Aj hw.code;have hoc:=h.oc;have hpl:=hp.len;have hB:=h.bef hw;obtain⟨hL,hbad⟩:=h.lamps hw hx.1 hx.2;have G:=hL.good;have hapart:∀k,k<o.B0.length→Cz (JI o.B0 k) (VS o.B0 k)=(0,0):=λk hk=>by
  obtain⟨c,d,hl,hf⟩:=h.cars k ω;have e:VS o.B0 k=II X.lan.lit k:=by unfold VS II;rw[hf.lu,hf.ld,hl.1,hl.2.1]
  rw[h.acc hw k ω,e,h.hX];exact Aq3 b u.E0 u.B2 vs u.Y2 x.press g k (by rw[h.va.len];omega)
 have c1:=Amc (l:=o.B0) ω hapart;have c2:=Az6 (l:=o.B0) ω λk hk=>by obtain⟨c,d,_,hf⟩:=h.cars k ω;rw[hf.phase];exact hf.coils
 have c3:=Amb (l:=o.B0) ω λk hk=>by obtain⟨c,d,_,hf⟩:=h.cars k ω;rw[hf.phase];exact hf.cmd
 have c4:=Az7 (p:=p.B0) (l:=o.B0) ω ω λk hk=>by rw[hB.ph k ω,hp.ph k ω];exact h.edge hw hm ω
 have c5:=Apq (l:=o.B0) ω λk j hk hj t1 t2=>by
  rw[hB.ph k ω]at t1;rw[hB.ph j ω]at t2;refine h1 k j ω ω ?_ ?_
  ·rcases t1 with q | q | q
   ·exact .inl q
   ·exact .inr (.inl q)
   ·exact .inr (.inr (.inl q))
  ·rcases t2 with q | q | q
   ·exact .inl q
   ·exact .inr (.inl q)
   ·exact .inr (.inr (.inl q))
 have ea:=h.acc hw b.B0.length (A_ _);rw[hoc,ea]at c1;have eo:(o.Y3,o.N3)=ofC m'.E0.A0 (0,0):=hB.lamps;have es:=h.served;have ep:=hp.lamps;generalize hP:ofC m.E0.A0 (0,0)=P at*;generalize hN:ofC m'.E0.A0 (0,0)=N at*;generalize hC:Lj X.lan.lit b.B0.length=C at*;have lu:o.Y3=N.1:=by rw[← eo]
 have ld:o.N3=N.2:=by rw[← eo]
 have pu:p.Y3=P.1:=by rw[← ep]
 have pd:p.N3=P.2:=by rw[← ep]
 have su:o.X2=(Ay P N).1:=by rw[G.gone,← es]
 have sd:o.L2=(Ay P N).2:=by rw[G.gone,← es]
 have z6:isZ (Ay (Ay P N) P)=D:=(KB (Hi _ _)).2 λf hf d _=>by rw[Bk _ _ hf,Bk _ _ hf];cases An P f d<;>cases An N f d<;>rfl
 have z8:isZ (Ay (Ay P N) C)=D:=(KB (Hi _ _)).2 λf hf d _=>by rw[G.lit,Bk _ _ hf,Jz];cases An P f d<;>cases An C f d<;>rfl
 have z10:isZ (Ay (Ay P N) (Ay P N))=D:=by rw[Afe];rfl
 have z14:isZ (Cz P (Cz N (Ay P N)))=D:=(KB (WK _ _)).2 λf hf d _=>by rw[Jz,Jz,Bk _ _ hf];cases An P f d<;>cases An N f d<;>rfl
 unfold Dc;simp only[hpl,hoc,f_ (M_ (b.B0.length:Int)),c_,h_,P_,b1_ (ω:o.B0.length≤b.B0.length),Q_,lu,ld,pu,pd,su,sd];refine Sat.bifT σ (A c1 (A (GI P N) (B rfl (A c2 (B rfl (A c3 (B rfl (A c4 (B rfl ?_)))))))));refine A (GI (Ay P N) P) (A (Uh _) (B (by rw[z6];rfl) (A (GI (Ay P N) C) (A (Uh _) (B (by rw[z8];rfl) ?_)))));refine A (GI (Ay P N) (Ay P N)) (A (Uh _) (B (by rw[z10];rfl) (A (Gb N (Ay P N)) (A (Gb P (Cz N (Ay P N))) (A (Uh _) (B (by rw[z14];rfl) ?_))))));refine Sat.bindS (Q:=λy=>y=(((),E,()),((N.1,N.2,(Ay P N).1,(Ay P N).2,o.X5,o.L0,o.U5,o.B0,()),()))) (Sat.bic (λq=>?_) λ_=>Sat.ret rfl) λy16 h16=>?_
 ·have hg:g=E:=by
   rw[h.bad]at q;simpa using q
  have e:N=P:=(hbad hg).1;rw[e,Afe];exact B σ (A (Uh (0,0)) (Sat.ret rfl))
 ·subst h16;obtain⟨_,e17,n,rfl,hn⟩:=c5;exact B rfl (A e17 (B (f_ (ω:¬(1:Int)<n)) (Sat.ret rfl)))
theorem Atb:Ka m'.E0.G0 m'.E0.O0 m'.E0.J0 m'.E0.A0=some ((D,()),()):=by
 have him:=h.pm.jst.img;have hes:=DQ hw.small him;have hcc:=Aj hw.code;have q:KZ (((),m'.E0.A0,(m'.E0.A0.length:Int),(0:Int),()),(m'.E0.tup,()))=some (.inl ((),())):=HC (N:=m'.E0.A0.length) ω (λi=>(((),m'.E0.A0,(m'.E0.A0.length:Int),(i:Int),()),(m'.E0.tup,()))) (λi hi=>by
  have hw':=KL (ω:m'.E0.A0.length≤100000) hi;have he:=BU (Entry.mk 0 0 0 0 E) hi;have hok:=(CM.1 (him.en _ he));show Ir m'.E0.A0 (m'.E0.A0.length:Int) (i:Int) m'.E0.G0 m'.E0.O0 m'.E0.J0 m'.E0.A0=_;unfold Ir;rw[OV hi,Ht hi];simp only[d_,h_];generalize m'.E0.A0.getD i (Entry.mk 0 0 0 0 E)=e at he hok;by_cases e1:e.R0=-1
  ·rw[e1,hw'];rfl
  by_cases e2:e.R0=-2
  ·rw[e2,hw'];rfl
  rw[Ao e1,Ao e2];obtain⟨j,hj,hjn,hfl,hsv⟩:=h.ent hw he ω;have hs:=WE him hjn;have i1:inB (j:Int) m'.E0.O0.length=D:=Ac ω (by rw[him.lf];omega);have hfl:m'.E0.O0.getD j E=E:=hfl;rw[hsv]at hs;rw[hj];refine Ae hs ?_;simp only[o_,c_,i1,d_,h_,hfl,hw'];rfl) (by
  show Ir m'.E0.A0 (m'.E0.A0.length:Int) (m'.E0.A0.length:Int) m'.E0.G0 m'.E0.O0 m'.E0.J0 m'.E0.A0=_;unfold Ir;rw[Lq];rfl)
 unfold Ka;exact Ae q rfl
end
def Ane(n:Nat):Outputs:=Outputs.mk 0 0 0 0 E E 0 (List.replicate n AB)
def Az5{b:Bldg}(hc:b.B0.length≤1000):EX b.C0 b.F0 b.H0 b.M0 b.K0 b.L0 b.N0 b.B0=some (((),()),(outP (Ane b.B0.length),())):=by unfold EX;simp only[b_ (ω:(0:Int)≤(b.B0.length:Int)),b_ (c7_ (b.B0.length:Int)),b_ (ω:(b.B0.length:Int)≤2147483648),a0_,d_,h_];rfl
def XL{α:Type}(a d:α)(n k:Nat):(List.replicate n a).getD k d=a∨(List.replicate n a).getD k d=d:=by
 rw[k_,List.getElem?_replicate];split
 ·exact .inl rfl
 ·exact .inr rfl
section
variable{b:Bldg}(hw:BW b)
include hw
theorem Bbz:One b (Ix b).1.E0:=by intro c d _ _ h;rw[(XR hw).2.1]at h;have e1:phA (EQ b) c=0:=(XL (0:Int) 0 b.B0.length c).elim id id;have e2:lvA (EQ b) c=E:=(XL E E b.B0.length c).elim id id;unfold HD at h;rw[e1,e2]at h;simp at h
theorem Baa:Bef b (Ix b).1 (Ane b.B0.length):=by
 rw[show(Ix b).1=(Ix b).1 from rfl];refine⟨T_ ..,λi hi=>?_,?_⟩
 ·rw[(XR hw).2.1];have e1:phA (EQ b) i=0:=(XL (0:Int) 0 b.B0.length i).elim id id;rw[e1];have e2:(Ane b.B0.length).B0.getD i AB=AB:=(XL AB AB b.B0.length i).elim id id;rw[e2];rfl
 ·rw[(XR hw).2.1];rfl
theorem ReadX.press{s:ByteArray}{x:Inp}{g:Bool}(hx:ReadX b s x g):(g=D→GN b x.press=D)∧(g=E→x.press=(0,0)):=by
 refine⟨λhg=>?_,λhg=>?_⟩
 ·rcases hx.1 with⟨_,h⟩ | ⟨h,_⟩
  ·exact h.press
  ·have e:=hx.2.1;rw[hg,Ao h]at e;cases e
 ·rcases hx.1 with⟨h,_⟩ | ⟨_,h⟩
  ·have e:=hx.2.1;rw[hg,h]at e;cases e
  ·rw[h];rfl
theorem App(hm:PM b m):Ja b.C0 b.F0 b.H0 b.M0 b.K0 b.L0 b.N0 b.B0 m.E0.G0 m.E0.O0 m.E0.J0 m.E0.A0 m.B1.h0 m.B1.h1 m.B1.sel m.J1 m.U0 m.B0 m.C3 m.B2 m.Y2 m.Z3 m.H3 m.R2=some ((D,()),()):=by have hroom:=hw.room;have hcur:=Bth hm.jst.ok;unfold Ja;rw[Aks hw.small hw.code m.B1 ω,hm.jst.replay hw.small];refine Ae rfl ?_;refine Ae (Aqj hm.jst.ents.2) ?_;rw[Av4]
end
def Bbf:Pt=some ((D,()),()):=by decide+kernel
section
variable{b:Bldg}(hw:BW b)
include hw
theorem Bao{f:List ByteArray}(hf:∀s∈f,Fr b s)(hfl:f.length≤100)(hm:PM b m)(h1:One b m.E0)(hp:Bef b m p):Sat (Fj (((),(),f,(),(0:Int),()),(b.tup,m.tup,outP p,()))) λy=>y=.inl ((),()):=by unfold Fj;refine Sat.loop (λ(k:Nat) z=>∃(i:Nat) (m:Mch) (p:Outputs),z=(((),(),f,(),(i:Int),()),(b.tup,m.tup,outP p,()))∧i+k=f.length∧PM b m∧One b m.E0∧Bef b m p) (λk z hz=>?_) f.length ⟨0,m,p,rfl,p_ _,hm,h1,hp⟩ ω;obtain⟨i,m,p,rfl,hk,hm,h1,hp⟩:=hz;show Sat (MK f (i:Int) b.C0 b.F0 b.H0 b.M0 b.K0 b.L0 b.N0 b.B0 m.E0.G0 m.E0.O0 m.E0.J0 m.E0.A0 m.B1.h0 m.B1.h1 m.B1.sel m.J1 m.U0 m.B0 m.C3 m.B2 m.Y2 m.Z3 m.H3 m.R2 p.Y3 p.N3 p.X2 p.L2 p.X5 p.L0 p.U5 p.B0) _;unfold MK;refine Sat.bic (λq=>?_) λq=>Sat.ret rfl;have q:(i:Int)<(f.length:Int):=m_ q;have hwr:=Dn (n:=i) ω;have hfr:=hf _ (BU noB (ω:i<f.length));have ii:inB (i:Int) f.length=D:=Ac ω q;obtain⟨m',o,ht,hm',x,g,l1,l2,u,vs,X,hx,hF⟩:=Bjt hw hm hfr;have h1':=hF.one hw hm h1;refine Sat.bindR (Sat.bifT ii (A ht (B rfl (Sat.bindS (Bjy hw hF hm h1' (hx.press hw) hp) λy3 h3=>?_))));subst h3;exact B rfl (A (App hw hm') (B rfl (A (Atb hw hF) (B rfl (Sat.ret ⟨k-1,ω,i+1,m',o,by first | (rw[← hwr];rfl) | rw[← hwr],ω,hm',h1',hF.bef hw⟩)))))
end
def Ahh(n_f0:Int)(n_f1:Int)(n_f2:Int)(l:List Int)(h_n_f0:0≤n_f0∧n_f0<256)(h_n_f1:0≤n_f1∧n_f1<256)(h_n_f2:0≤n_f2∧n_f2<256)(h_l:l.length≤maxLen∧∀e∈l,(0≤e∧e<256)):F_l30_AuditClean n_f0 n_f1 n_f2 l=some ((D,()),()):=by
 have hS:Sat (F_l30_AuditClean n_f0 n_f1 n_f2 l) λy=>y=((D,()),()):=by unfold F_l30_AuditClean;obtain⟨b,hbl,hw,⟨y0,hst⟩,hm⟩:=Bwd h_n_f0 h_n_f1 h_n_f2;have hcc:=Aj hw.code;refine A hbl (Sat.bindR (A hst ?_));refine Sat.bindS (Bc4 hw.small hw.code (l:=l) (λe he=>h_l.2 e he) h_l.1 (most:=100) ω) λy4 h4=>?_;obtain⟨⟨f,u1⟩,u2⟩:=y4;obtain⟨hf1,hf2⟩:=h4;refine A (Az5 ω) (Sat.bindS (Bao hw hf2 hf1 hm (Bbz hw) (Baa hw)) λy5 h5=>?_);subst h5;exact A Bbf (Sat.ret rfl)
 obtain⟨y,h1,h2⟩:=hS;rw[h1,h2]
end Go.Ovl
