/- The program's machine (layer 27): it belongs to its building; a tick of it. -/
import Derived.Test.YtoppkmfgeaflcaaGreatDoorOvM
import Derived.Test.YtoppkmfgeaflcaaGreatDoorOvD
import Derived.Test.YtoppkmfgeaflcaaGreatDoorOvH
import Derived.Test.YtoppkmfgeaflcaaGreatDoorDefs4
set_option linter.all false
open Bool renaming true->A,false->B
open Go.Ovl renaming flA->C,phA->D,Bldg->E,Record->H
open Option renaming some->J
open Go.Ovl.Sat renaming bindE->N,ret->O,bifT->U,bifF->aC,bindS->aD
open Go.IntKind renaming wrap->aA,u64->aB,u32->aF
open List renaming replicate->aE,mem_append_left->aG
namespace Go.Ovl
open Go Go.Ab
set_option maxRecDepth 100000
variable{b:E}{m m' u:Mch}{s:ByteArray}{vs:List View}{r:H}{f:List ByteArray}{x:Inp}{g:Bool}{c:CarInput}{o:Outputs}{i:Nat}{bud:Int}{e:Entry}{X:Rnd}
def YX{α:Type}{p:Nat→α→Bool}{d:α}{l:List α}{n:Nat}(hl:l.length=n)(h:∀i,i<n→p i (l.getD i d)=A):FR p d l (n:Int)=A:=by
 unfold FR;rw[hl,l_,n_];exact QS n 0 λk _ hk=>h k ω
section
variable{b:E}(hw:BW b)
include hw
theorem PM.fit(h:PM b m):m.fit:=by
 have hcc:=Aj hw.code;have h1:=Eh hw.small h.jst.img
 have:=h.exl
 refine⟨h.jst.ents.2,by rw[h.con];omega,by rw[h.bel];omega,λx hx=>?_,by rw[h.car];omega,by rw[h.lod];omega,ω,by rw[h.lit];omega⟩
 obtain⟨i,hi,rfl⟩:=f8_ hx;have h2:=((h.belv i (by rw[← h.bel];exact hi)).dut).len hw.small
 rw[k_,i_ hi]at h2;have h2:m.W0[i].U0.length≤30:=h2;omega
theorem PM.isMach(h:PM b m):Zc b m=A:=by
 have e1:Pm [m.L3,m.N2,m.G2]=A:=by
  unfold Pm;simp only[X_,List.all_nil,c9_,e_,Am];exact⟨h.tick,h.flt,h.ref⟩
 have e2:Pm m.D2=A:=D_.2 λx hx=>Am.2 (h.exv x hx)
 have c1:FR (λ_ x=>LC b.E0 x) Cp m.N1 (b.B0.length:Int)=A:=YX h.con λi hi=>(h.conv _ (Cn _ (by rw[h.con];exact hi))).1
 have c2:FR (λi x=>Pb b i x) (Belief.mk 0 0 0 [] 0 B) m.W0 (b.B0.length:Int)=A:=YX h.bel λi hi=>(Agi hw.small).2 (h.belv i hi)
 have c3:FR (λ_ x=>EL b x) AV m.B0 (b.B0.length:Int)=A:=YX h.car λi hi=>h.carv _ (Cn _ (by rw[h.car];exact hi))
 have c4:FR (λ_ x=>Rl x) Hc m.L2 (b.B0.length:Int)=A:=YX h.lod λi hi=>Am.2 (h.lodv _ (Cn _ (by rw[h.lod];exact hi)))
 unfold Zc;rw[Apu h.jst.img h.jst.fits,b_ h.jst.ok,e1,e2,c1,c2,c3,c4,h.exl,h.lit,l_,l_];rfl
theorem PM.isM_eq(h:PM b m):FV b.C0 b.E0 b.H0 b.M0 b.J0 b.L0 b.N0 b.B0 m.G0.F0 m.G0.O0 m.G0.K0 m.G0.A0 m.X0.h0 m.X0.h1 m.X0.sel m.N1 m.W0 m.B0 m.L2 m.D2 m.U3 m.L3 m.N2 m.G2=J ((A,()),()):=by
 rw[WF hw.small hw.code (h.fit hw),h.isMach hw]
theorem Bc5:PM b (PE b).1∧(PE b).1.G0=Gw b:=by
 have hcode:=hw.code;have j0:=Jst.first hcode
 have hcc:=Aj hcode;have hfit:=j0.fits;have hroom:=hw.room;have hs:PE b=((Pe b Sto.no 1048576).1,(Pe b Sto.no 1048576).2.2):=by unfold PE;rw[hcode];rfl
 rw[hs];rcases Bgo hw.small j0.ok j0.img (j0.replay hw.small) ω (bud:=1048576) ω with⟨_,q2,q3⟩ | ⟨q1,_⟩
 ·rw[q2]
  have rep:∀{α:Type}{P:α→Prop}{a:α}{n:Nat},P a→∀x∈aE n a,P x:=λh x hx=>by rw[(List.mem_replicate.1 hx).2];exact h
  have he:(Gw b).A0=[]:=rfl;refine⟨⟨q3,S_,rep ⟨Bch (Akr hcode),d7_ 0,show(0:Int)<4294967296 by decide⟩,S_,λi hi=>?_,S_,rep (MF hw.small),S_,rep (show(0:Int)≤0∧(0:Int)≤4 by decide),S_,b5_ _,?_,i00,i00,i00⟩,rfl⟩
  ·show BelOK b i ((aE b.B0.length Vl).getD i Jk)
   rw[k_,List.getElem?_replicate,if_pos hi];exact BelOK.new hw
  ·intro x hx
   rw[show(Ac2 b (Gw b) { Sto.no.set (1-Sto.no.sel) (txt ((CG (Gw b)).flatMap Cm))with sel:=1-Sto.no.sel }).D2=[]from rfl]at hx
   cases hx
 ·omega
omit hw in
theorem Bpd(hm:m.fit):Nj m.G0.F0 m.G0.O0 m.G0.K0 m.G0.A0 m.X0.h0 m.X0.h1 m.X0.sel m.N1 m.W0 m.B0 m.L2 m.D2 m.U3 m.L3 m.N2 m.G2=J (((),()),(m.tup,())):=by
 have hl:Sat (IL (((),(),(m.W0.length:Int),(0:Int),()),(m.tup,Mch.none.tup,()))) λy=>y=(((),(),()),(m.tup,Mch.none.tup,())):=by
  have hbe:=hm.be;unfold IL;refine Sat.loop (λ(k:Nat) z=>∃(i:Nat),z=(((),(),(m.W0.length:Int),(i:Int),()),(m.tup,Mch.none.tup,()))∧i+k=m.W0.length) (λk z hz=>?_) m.W0.length ⟨0,rfl,p_ _⟩ ω
  obtain⟨i,rfl,hk⟩:=hz;show Sat (OU (m.W0.length:Int) (i:Int) m.G0.F0 m.G0.O0 m.G0.K0 m.G0.A0 m.X0.h0 m.X0.h1 m.X0.sel m.N1 m.W0 m.B0 m.L2 m.D2 m.U3 m.L3 m.N2 m.G2 [] [] [] [] noB noB 0 [] [] [] [] [] [] 0 0 0) _;unfold OU;refine Sat.bic (λq=>?_) λ_=>O rfl
  have q:(i:Int)<(m.W0.length:Int):=m_ q;have hi:i<m.W0.length:=ω
  have w:=CH (n:=i) ω
  have ib:inB (i:Int) m.W0.length=A:=Aa ω q
  have hd:(m.W0.getD i Jk).U0.length≤100000:=hm.du _ (Cn _ hi);refine U ib (N (show Eb (m.W0.getD (Int.toNat (i:Int)) Jk).U0=J (((m.W0.getD i Jk).U0,()),())from CL _ hd) (U ib ?_))
  refine O ⟨k-1,ω,i+1,?_,ω⟩
  have e:m.W0.set i (Belief.mk (m.W0.getD i Jk).D0 (m.W0.getD i Jk).I0 (m.W0.getD i Jk).D3 (m.W0.getD i Jk).U0 (m.W0.getD i Jk).T2 (m.W0.getD i Jk).J3)=m.W0:=Am3 Jk rfl;rw[← w];exact b9_ (λL=>(((),(),(m.W0.length:Int),IntKind.i64.wrap ((i:Int)+1),()),(({ m with W0:=L }:Mch).tup,Mch.none.tup,()))) e
 obtain⟨y,hl,rfl⟩:=hl;have him:=hm.im;unfold Nj;refine Ae (CL m.G0.F0 him.p) (Ae (CL m.G0.O0 him.f) (Ae (CL m.G0.K0 him.l) (Ae (CL m.G0.A0 him.e) (Ae (CL m.N1 hm.co) (Ae (CL m.B0 hm.ca) (Ae (CL m.L2 hm.lo) (Ae (CL m.D2 hm.ex) (Ae (CL m.U3 hm.li) (Ae (CL m.W0 hm.be) (Ae hl rfl))))))))))
def pk0(b:E)(m:Mch)(bud:Int):Pk:=⟨m,bud,0,aE b.B0.length B,aE b.B0.length (Calls.mk 0 0),aE b.B0.length B,⟨0,0,0,0,B,B,0,aE b.B0.length BV⟩⟩
@[reducible] def outP(o:Outputs):=(o.T5,o.R5,o.R3,o.E3,o.V5,o.L0,o.U5,o.B0,())
def Atb:Outputs:=⟨0,0,0,0,B,B,0,[]⟩
def Beq(b:E)(m:Mch)(s:ByteArray)(bud:Int)(e:Int)(m':Mch)(o:Outputs):Prop:=∃(x:Inp) (t':Pk),((BT b s=0∧InOK b x)∨(BT b s≠0∧x=Inp.none))∧DW b.C0 b.E0 b.H0 b.M0 b.J0 b.L0 b.N0 b.B0 s=J (((),BT b s,()),(x.tup,()))∧RunR b x (BT b s==0) (pk0 b m bud) t'∧e=t'.e∧(e=0→m'=t'.m∧o=t'.out)∧(e≠0→m'={ Mch.none with X0:=t'.m.X0 }∧o=Atb)
theorem Bpj(hm:PM b m)(hs:Fr b s)(hb:0≤bud∧bud<9223372036854775808):Sat (Hx b.C0 b.E0 b.H0 b.M0 b.J0 b.L0 b.N0 b.B0 m.G0.F0 m.G0.O0 m.G0.K0 m.G0.A0 m.X0.h0 m.X0.h1 m.X0.sel m.N1 m.W0 m.B0 m.L2 m.D2 m.U3 m.L3 m.N2 m.G2 s bud) λy=>∃e m' o,y=(((),(),e,()),(m'.tup,outP o,()))∧Beq b m s bud e m' o:=by
 have hcc:=Aj hw.code;have hf:=hm.fit hw;obtain⟨x,hrd,hx1,hx2⟩:=Acz hw.small hw.code hs
 have hcap:((decide ((0:Int)≤(b.B0.length:Int))&&decide ((b.B0.length:Int)≤(b.B0.length:Int)))&&decide ((b.B0.length:Int)≤2147483648))=A:=by
  simp only[e_,A_];omega
 unfold Hx;refine N hrd (U hcap (U hcap (U hcap (U hcap ?_))));refine N (CL m.N1 hf.co) (N (CL m.W0 hf.be) (N (CL m.B0 hf.ca) (N (CL m.L2 hf.lo) ?_)));have hxx:(BT b s==0)=A→InOK b x:=λh=>hx2 (eq_of_beq h)
 have hr0:PR b (pk0 b m bud):=⟨S_,S_,S_,S_⟩;have hrun:=Br4 hw hxx (t:=pk0 b m bud) hm hr0 ⟨rfl,hb⟩;refine aD (Q:=λy=>∃t',y=(((),(),(),()),(Mch.none.tup,outP Atb,t'.tup b x (BT b s==0),()))∧RunR b x (BT b s==0) (pk0 b m bud) t') ?_ λy8 h8=>?_
 ·refine aD hrun λy6 h6=>?_
  obtain⟨t',e | e,h⟩:=h6
  ·subst e;exact O ⟨t',rfl,h⟩
  ·subst e;exact O ⟨t',rfl,h⟩
 obtain⟨t',rfl,hR⟩:=h8
 have hxo:(BT b s=0∧InOK b x)∨(BT b s≠0∧x=Inp.none):=by
  by_cases h:BT b s=0
  ·exact .inl ⟨h,hx2 h⟩
  ·exact .inr ⟨h,hx1 h⟩
 refine Sat.bic (λq=>?_) λq=>?_
 ·have q:(t'.e !=0)=A:=q
  have q:t'.e≠0:=by simpa using q
  exact O ⟨t'.e,{ Mch.none with X0:=t'.m.X0 },Atb,rfl,x,t',hxo,hrd,hR,rfl,λh=>absurd h q,λ_=>⟨rfl,rfl⟩⟩
 ·have q:(t'.e !=0)=B:=q
  have q:t'.e=0:=by simpa using q
  exact O ⟨0,t'.m,t'.out,rfl,x,t',hxo,hrd,hR,q.symm,λ_=>⟨rfl,rfl⟩,λh=>absurd rfl h⟩
end
inductive Runs(b:Bldg):Mch→List ByteArray→Mch→List Outputs→Prop
 |nil (m:Mch):Runs b m [] m []
 |cons {m m1 m2:Mch}{s:ByteArray}{fs:List ByteArray}{o:Outputs}{os:List Outputs}(h:Hx b.C0 b.E0 b.H0 b.M0 b.J0 b.L0 b.N0 b.B0 m.G0.F0 m.G0.O0 m.G0.K0 m.G0.A0 m.X0.h0 m.X0.h1 m.X0.sel m.N1 m.W0 m.B0 m.L2 m.D2 m.U3 m.L3 m.N2 m.G2 s 1048576=some (((),(),0,()),(m1.tup,outP o,()))) (h2:Runs b m1 fs m2 os):Runs b m (s::fs) m2 (o::os)
def Runs.app{m1 m2 m3:Mch}{g:List ByteArray}{x y:List Outputs}(h:Runs b m1 f m2 x)(k:Runs b m2 g m3 y):Runs b m1 (f++g) m3 (x++y):=by
 induction h with
 |nil m=>exact k
 |cons h _ ih=>exact .cons h (ih k)
def Runs.len{m1 m2:Mch}{x:List Outputs}(h:Runs b m1 f m2 x):x.length=f.length:=by
 induction h with
 |nil m=>rfl
 |cons _ _ ih=>rw[y_,y_,ih]
section
variable{b:E}(hw:BW b)
include hw
theorem Bhr(hm:PM b m)(hs:Fr b s):∃m' o,Hx b.C0 b.E0 b.H0 b.M0 b.J0 b.L0 b.N0 b.B0 m.G0.F0 m.G0.O0 m.G0.K0 m.G0.A0 m.X0.h0 m.X0.h1 m.X0.sel m.N1 m.W0 m.B0 m.L2 m.D2 m.U3 m.L3 m.N2 m.G2 s 1048576=J (((),(),0,()),(m'.tup,outP o,()))∧PM b m'∧o.B0.length=b.B0.length∧Beq b m s 1048576 0 m' o:=by
 obtain⟨y,h,e,m',o,rfl,hR⟩:=Bpj hw hm hs (bud:=1048576) (by decide)
 have hR':=hR;obtain⟨x,t',_,_,hr,he,h0,h1⟩:=hR;rcases hr.cases hw ⟨rfl,show(0:Int)≤1048576 by decide,show(1048576:Int)<9223372036854775808 by decide⟩with⟨k1,k2,k3,_⟩ | ⟨_,k2⟩
 ·rw[k1]at he
  subst he;obtain⟨rfl,rfl⟩:=h0 rfl;exact⟨_,_,h,k2,k3,hR'⟩
 ·exact absurd (show(1048576:Int)<300000 from k2) (by decide)
end
structure TickF(b:Bldg)(m:Mch)(x:Inp)(g:Bool)(m':Mch)(o:Outputs)(l1 l2:List Record)(u:Mch)(vs:List View)(X:Rnd):Prop where
 fl:∀r∈l1,Wg b r
 op:(g=false∧l2=[])∨(g=true∧∃(i:Nat) (cm:List Bool) (fr:Bool),x.car=(i:Int)∧i<b.B0.length∧cm.length=b.B0.length∧l2=JP b (Ak m.G0 l1) x.kind i cm fr)
 pu:PM b u
 iu:u.G0=Ak (Ak m.G0 l1) l2
 va:VA b u.G0 g vs
 hX:X=ML b u.G0 u.D2 vs u.U3 x.press g
 rg:Rg b u.G0 X
 img:m'.G0=X.img
 pm:PM b m'
 oc:o.B0.length=b.B0.length
 cars:∀i,i<b.B0.length→∃c d,Al0 X i c d∧FinO m'.G0 i d (o.B0.getD i BV)
 lu:o.T5=(ofC m'.G0.A0 (0,0)).1
 ld:o.R5=(ofC m'.G0.A0 (0,0)).2
 bad:o.V5=!g
 served:(o.R3,o.E3)=PD X.recs (0,0)
 full:o.L0=!isZ X.ref
def RunR.fact{t':Pk}(h:RunR b x g (pk0 b m bud) t')(h0:t'.e=0):∃l1 l2 u vs X,TickF b m x g t'.m t'.out l1 l2 u vs X:=by
 have no:∀{u v:Pk}{l:List H},De b u v l→v.e=0→False:=λd e=>by have:=d.e;omega
 obtain⟨t1,t2,l1,m1,r1,f1,hl1,hn1,o2,⟨d,rfl⟩ | ⟨a2,t3,l2,hop,h⟩⟩:=h
 ·exact(no d h0).elim
 rcases h with⟨d,rfl⟩ | ⟨a3,t4,vs,hd,h⟩
 ·exact(no d h0).elim
 rcases h with⟨h8,rfl⟩ | ⟨_,hf⟩
 ·omega
 rcases hd.res with a4 | d
 rotate_left
 ·have:=hf.e
  exact(no d ω).elim
 have i1:t1.m.G0=m.G0:=f1.im;have i2:t2.m.G0=Ak m.G0 l1:=by rw[a2.im,i1]
 have out1:t2.out={ (pk0 b m bud).out with B0:=t2.out.B0 }:=by rw[o2,f1.out]
 have out3:∃s,t3.out={ t2.out with U5:=s }:=by
  rcases hop with⟨_,rfl,_⟩ | ⟨_,h⟩
  ·exact⟨t3.out.U5,rfl⟩
  ·obtain⟨_,_,_,_,_,_,_,e⟩:=h.how
   exact⟨_,e⟩
 obtain⟨s,out3⟩:=out3;refine⟨l1,l2,t3.m,vs,Qh b x g t3 vs,hl1,?_,a3.m,by rw[a3.im,i2],hd.va,rfl,hd.rg,by rw[hf.im,a4.im,hd.rg.img],hf.m,hf.oc,λi hi=>?_,?_,?_,?_,?_,?_⟩
 ·rcases hop with⟨h1,_,h2⟩ | ⟨h1,h⟩
  ·exact .inl ⟨h1,h2⟩
  ·obtain⟨i,cm,fr,h2,h3,h4,h5,_⟩:=h.how
   exact .inr ⟨h1,i,cm,fr,h2,h3,h4,by rw[← i2];exact h5⟩
 ·refine⟨_,_,hd.cars i hi,?_⟩
  rw[hf.im];exact hf.cars i hi
 ·rw[hf.out,hf.im]
 ·rw[hf.out,hf.im]
 ·rw[hf.out]
 ·rw[hf.out]
  show(t4.out.R3,t4.out.E3)=_;rw[hd.out,out3,out1];rfl
 ·rw[hf.out]
  show t4.out.L0=_;rw[hd.out]
def Baj(m:Img)(h:r.S0≠4∧r.S0≠5∧r.S0≠6):(Ao m r).F0=m.F0∧(Ao m r).O0=m.O0∧(Ao m r).K0=m.K0:=by
 unfold Ao;rw[Ar h.1,Ar h.2.1,Ar h.2.2];simp only[c_];cases Dy r.D0 r.I0 m.A0 0==-1<;>cases r.S0==1<;>cases r.S0==2<;>cases r.S0==3<;>cases r.S0==7<;>exact⟨rfl,rfl,rfl⟩
def Agf:∀{l:List H}(m:Img),(∀r∈l,r.S0≠4∧r.S0≠5∧r.S0≠6)→(Ak m l).F0=m.F0∧(Ak m l).O0=m.O0∧(Ak m l).K0=m.K0
 |[],_,_=>⟨rfl,rfl,rfl⟩
 |r::t,m,h=>by
  obtain⟨h1,h2,h3⟩:=Baj m (h r (B_ ..));obtain⟨k1,k2,k3⟩:=Agf (Ao m r) λx hx=>h x (F_ _ hx)
  exact⟨k1.trans h1,k2.trans h2,k3.trans h3⟩
def Wu{α:Type}(get:Img→α)(p:H→Prop)(v:H→α)(I:Img→Prop):∀{l:List H}{m:Img},(∀r∈l,∀n,I n→I (Ao n r)∧((p r∧get (Ao n r)=v r)∨(¬p r∧get (Ao n r)=get n)))→I m→(get (Ak m l)=get m∧∀r∈l,¬p r)∨∃r∈l,p r∧get (Ak m l)=v r
 |[],_,_,_=>.inl ⟨rfl,λr h=>by cases h⟩
 |r::l,m,h,hm=>by
  obtain⟨h1,h2⟩:=h r (B_ ..) m hm;rcases Wu get p v I (l:=l) (λs hs=>h s (F_ _ hs)) h1 with⟨e,n⟩ | ⟨s,hs,e⟩
  ·rcases h2 with⟨q,e2⟩ | ⟨q,e2⟩
   ·exact .inr ⟨r,B_ ..,q,e.trans e2⟩
   ·refine .inl ⟨e.trans e2,λs hs=>?_⟩
    rcases z_.1 hs with rfl | hs
    ·exact q
    ·exact n s hs
  ·exact .inr ⟨s,F_ _ hs,e⟩
def Img.fits(b:E)(m:Img):Prop:=m.F0.length=b.B0.length∧m.O0.length=b.B0.length
def ImgOK.fits{m:Img}(h:ImgOK b m):m.fits b:=⟨h.lp,h.lf⟩
def Akn(hr:LB b r){n:Img}(hn:n.fits b){c:Nat}(hc:c<b.B0.length):(Ao n r).fits b∧D (Ao n r) c=(bif r.S0==4&&r.Q0==(c:Int)then r.U1 else D n c)∧C (Ao n r) c=(bif r.S0==5&&r.Q0==(c:Int)then r.U1==1 else C n c):=by
 obtain⟨i,k,v,hi,rfl,h⟩:=hr;have hk:k=4∨k=5∨k=6:=ω
 rcases hk with rfl | rfl | rfl
 ·refine⟨⟨by show(n.F0.set i v).length=_;rw[r_];exact hn.1,hn.2⟩,?_,rfl⟩
  show(n.F0.set i v).getD c 0=bif(i:Int)==(c:Int)then v else n.F0.getD c 0;by_cases e:i=c
  ·subst e
   rw[l_,d_,Bp _ _ (by rw[hn.1];exact hc)]
  ·rw[Ar (ω:¬(i:Int)=(c:Int)),c_,Di _ _ e]
 ·refine⟨⟨hn.1,by show(n.O0.set i (v==1)).length=_;rw[r_];exact hn.2⟩,rfl,?_⟩
  show(n.O0.set i (v==1)).getD c B=bif(i:Int)==(c:Int)then v==1 else n.O0.getD c B;by_cases e:i=c
  ·subst e
   rw[l_,d_,Bp _ _ (by rw[hn.2];exact hc)]
  ·rw[Ar (ω:¬(i:Int)=(c:Int)),c_,Di _ _ e]
 ·exact⟨hn,rfl,rfl⟩
section
variable{b:E}{l:List H}(hl:∀r∈l,LB b r){m:Img}(hm:m.fits b){c:Nat}(hc:c<b.B0.length)
include hl hm hc
theorem Ami:(D (Ak m l) c=D m c∧∀r∈l,¬(r.S0=4∧r.Q0=(c:Int)))∨∃r∈l,(r.S0=4∧r.Q0=(c:Int))∧D (Ak m l) c=r.U1:=
 Wu (λn=>D n c) (λr=>r.S0=4∧r.Q0=(c:Int)) (λr=>r.U1) (λn=>n.fits b) (λr hr n hn=>by
  obtain⟨h1,h2,_⟩:=Akn (hl r hr) hn hc;refine⟨h1,?_⟩;by_cases q:r.S0=4∧r.Q0=(c:Int)
  ·exact .inl ⟨q,by show D (Ao n r) c=_;rw[h2,q.1,q.2,l_,l_];rfl⟩
  ·refine .inr ⟨q,?_⟩
   show D (Ao n r) c=_;rw[h2,show(r.S0==4&&r.Q0==(c:Int))=B by rw[Bool.and_eq_false_iff,beq_eq_false_iff_ne,beq_eq_false_iff_ne];omega]
   rfl) hm
theorem Alb:(C (Ak m l) c=C m c∧∀r∈l,¬(r.S0=5∧r.Q0=(c:Int)))∨∃r∈l,(r.S0=5∧r.Q0=(c:Int))∧C (Ak m l) c=(r.U1==1):=
 Wu (λn=>C n c) (λr=>r.S0=5∧r.Q0=(c:Int)) (λr=>r.U1==1) (λn=>n.fits b) (λr hr n hn=>by
  obtain⟨h1,_,h2⟩:=Akn (hl r hr) hn hc;refine⟨h1,?_⟩;by_cases q:r.S0=5∧r.Q0=(c:Int)
  ·exact .inl ⟨q,by show C (Ao n r) c=_;rw[h2,q.1,q.2,l_,l_];rfl⟩
  ·refine .inr ⟨q,?_⟩
   show C (Ao n r) c=_;rw[h2,show(r.S0==5&&r.Q0==(c:Int))=B by rw[Bool.and_eq_false_iff,beq_eq_false_iff_ne,beq_eq_false_iff_ne];omega]
   rfl) hm
omit hc in
theorem Bbk:(Ak m l).fits b:=by
 induction l generalizing m with
 |nil=>exact hm
 |cons r t ih=>
  refine ih (m:=Ao m r) (λx hx=>hl x (F_ _ hx)) ?_
  obtain⟨i,k,v,hi,rfl,h⟩:=hl r (B_ ..);have hk:k=4∨k=5∨k=6:=ω
  rcases hk with rfl | rfl | rfl
  ·exact⟨by show(m.F0.set i v).length=_;rw[r_];exact hm.1,hm.2⟩
  ·exact⟨hm.1,by show(m.O0.set i (v==1)).length=_;rw[r_];exact hm.2⟩
  ·exact hm
end
def Axz(h:Wg b r):LB b r:=by
 obtain⟨i,hi,rfl⟩:=h;exact⟨i,5,1,hi,rfl,.inr ⟨.inl rfl,by decide⟩⟩
def Ame(m:Img)(kind:Int)(hi:i<b.B0.length)(cm:List Bool)(fr:Bool):∀r∈JP b m kind i cm fr,LB b r:=λr hr=>by
 unfold JP at hr;rcases q_.1 hr with h | h
 ·exact(Adm m kind hi _ fr).1 r h
 ·exact Aep _ _ _ (w_ _) r h
def Bqq(a z:Int):Prop:=(a=0∧z=1)∨(a=1∧z=0)∨(a=1∧z=2)∨(a=2∧z=0)∨(a=2∧z=3)∨(a=3∧z=2)∨(a=3∧z=4)∨(a=4∧z=2)
def Afu{m:Img}{kind:Int}{calm fr:Bool}(h:r∈(MT m kind i calm fr).1):r.Q0=(i:Int)∧kind≠0∧((r.S0=4∧Bqq (D m i) r.U1∧(r.U1=2→D m i=3∧calm=A))∨r.S0=6∨(r.S0=5∧kind=8)):=by
 unfold MT Ph at h
 have ite:∀(c:Bool) {p:Prop}{x y:List H×Int},r∈(bif c then x else y).1→(c=A→r∈x.1→p)→(c=B→r∈y.1→p)→p:=λc p x y h h1 h2=>by
  cases c
  ·exact h2 rfl h
  ·exact h1 rfl h
 have one:∀{q:H}{e:Int},r∈([q],e).1→r=q:=λh=>E_.1 h
 refine ite _ h (λ_ h=>by cases h) λh0 h=>?_
 have h0:kind≠0:=by simpa using h0
 have two:∀{c d:Bool},(c&&d)=A→c=A∧d=A:=λ{c d} h=>by simpa using h
 refine ite _ h (λq h=>ite _ h (λ_ h=>?_) λ_ h=>by cases h) λ_ h=>?_
 ·obtain⟨_,q2⟩:=two q
  rw[one h];exact⟨rfl,h0,.inl ⟨rfl,.inl ⟨eq_of_beq q2,rfl⟩,λh=>absurd h (show ¬(1:Int)=2 by decide)⟩⟩
 refine ite _ h (λq h=>?_) λ_ h=>?_
 ·obtain⟨_,q2⟩:=two q
  rw[one h];exact⟨rfl,h0,.inl ⟨rfl,.inr (.inl ⟨eq_of_beq q2,rfl⟩),λh=>absurd h (show ¬(0:Int)=2 by decide)⟩⟩
 refine ite _ h (λq h=>?_) λ_ h=>?_
 ·obtain⟨_,q2⟩:=two q
  rw[one h];exact⟨rfl,h0,.inl ⟨rfl,.inr (.inr (.inr (.inl ⟨eq_of_beq q2,rfl⟩))),λh=>absurd h (show ¬(0:Int)=2 by decide)⟩⟩
 refine ite _ h (λq h=>?_) λ_ h=>?_
 ·rw[one h]
  exact⟨rfl,h0,.inr (.inl rfl)⟩
 refine ite _ h (λq h=>?_) λ_ h=>?_
 ·obtain⟨_,q2⟩:=two q
  rw[one h];exact⟨rfl,h0,.inl ⟨rfl,.inr (.inr (.inr (.inr (.inl ⟨eq_of_beq q2,rfl⟩)))),λh=>absurd h (show ¬(3:Int)=2 by decide)⟩⟩
 refine ite _ h (λq h=>ite _ h (λhc h=>?_) λ_ h=>by cases h) λ_ h=>?_
 ·obtain⟨_,q2⟩:=two q
  rw[one h];exact⟨rfl,h0,.inl ⟨rfl,.inr (.inr (.inr (.inr (.inr (.inl ⟨eq_of_beq q2,rfl⟩))))),λ_=>⟨eq_of_beq q2,hc⟩⟩⟩
 refine ite _ h (λq h=>ite _ h (λ_ h=>?_) λ_ h=>by cases h) λ_ h=>?_
 ·obtain⟨_,q2⟩:=two q
  rw[one h];exact⟨rfl,h0,.inl ⟨rfl,.inr (.inr (.inr (.inr (.inr (.inr (.inl ⟨eq_of_beq q2,rfl⟩)))))),λh=>absurd h (show ¬(4:Int)=2 by decide)⟩⟩
 refine ite _ h (λq h=>ite _ h (λ_ h=>?_) λ_ h=>by cases h) λ_ h=>?_
 ·rw[one h]
  exact⟨rfl,h0,.inr (.inl rfl)⟩
 refine ite _ h (λq h=>?_) λ_ h=>by cases h
 obtain⟨q1,_⟩:=two q;rw[one h];exact⟨rfl,h0,.inr (.inr ⟨rfl,eq_of_beq q1⟩)⟩
def Aka{m:Img}{calm:List Bool}:∀{n:Nat}{r:H},r∈Ez m calm n→∃i:Nat,i<n∧r.Q0=(i:Int)∧Pu m calm i=A∧((r.S0=4∧r.U1=2)∨r.S0=6∨(r.S0=5∧r.U1=0))∧⟨4,0,0,(i:Int),2⟩∈Ez m calm n
 |0,_,h=>by cases h
 |n+1,r,h=>by
  rcases q_.1 h with h | h
  ·obtain⟨i,h1,h2,h3,h4,h5⟩:=Aka h
   exact⟨i,ω,h2,h3,h4,aG _ h5⟩
  ·unfold NA at h
   cases hg:Pu m calm n with
   |false=>rw[hg]at h;cases h
   |true=>
    have hi:(⟨4,0,0,(n:Int),2⟩:H)∈Ez m calm (n+1):=List.mem_append_right _ (by
     unfold NA;rw[hg,d_];exact aG _ (aG _ (E_.2 rfl)))
    rw[hg,d_]at h;refine⟨n,ω,?_⟩
    rcases q_.1 h with h | h
    ·rcases q_.1 h with h | h
     ·rw[E_.1 h]
      exact⟨rfl,hg,.inl ⟨rfl,rfl⟩,hi⟩
     ·cases hl:HX m n with
      |false=>rw[hl]at h;cases h
      |true=>
       rw[hl]at h;rw[E_.1 h];exact⟨rfl,hg,.inr (.inl rfl),hi⟩
    ·cases hl:C m n with
     |false=>rw[hl]at h;cases h
     |true=>
      rw[hl]at h;rw[E_.1 h];exact⟨rfl,hg,.inr (.inr ⟨rfl,rfl⟩),hi⟩
def Bg6{m:Img}{calm:List Bool}(h:Pu m calm i=A):calm.getD i B=A∧(D m i=1∨D m i=4)∧NC m i=B:=by
 unfold Pu HX at h;simp only[e_,a6_,U_,b8_]at h;exact⟨h.1,ω,h.2.2⟩
section
variable{b:E}{m:Img}(hm:m.fits b){kind:Int}{i:Nat}(hi:i<b.B0.length){cm:List Bool}(hcm:cm.length=b.B0.length){fr:Bool}{c:Nat}(hc:c<b.B0.length)
include hm hi hcm hc
theorem Amf(hr:r∈JP b m kind i cm fr)(hrc:r.Q0=(c:Int)):(r∈(MT m kind i (cm.getD i B) fr).1∧c=i∧kind≠0)∨(cm.getD c B=A∧(kind≠0→c≠i)∧(D m c=1∨D m c=4)∧NC m c=B∧((r.S0=4∧r.U1=2)∨r.S0=6∨(r.S0=5∧r.U1=0))∧(⟨4,0,0,(c:Int),2⟩:H)∈JP b m kind i cm fr):=by
 have ok1:=(Adm (b:=b) m kind hi (cm.getD i B) fr).1
 have hent:(Ak m (MT m kind i (cm.getD i B) fr).1).A0=m.A0:=UA _ λr hr=>by
  obtain⟨j,k,v,_,rfl,h⟩:=ok1 r hr;show k=4∨k=5∨k=6;omega
 unfold JP at hr⊢;rcases q_.1 hr with h | h
 ·have h1:=Afu h
  exact .inl ⟨h,ω,h1.2.1⟩
 ·obtain⟨j,hj,h2,hg,h3,h4⟩:=Aka h
  obtain rfl:j=c:=ω
  obtain⟨g1,g2,g3⟩:=Bg6 hg
  have hne:kind≠0→j≠i:=λhk e=>by
   subst e;rw[EK hk,d_,Bp _ _ ω]at g1
   cases g1
  have hcmj:cm.getD j B=A:=by
   by_cases hk:kind=0
   ·subst hk;exact g1
   ·rw[EK hk,d_,Di _ _ (f0_ (hne hk))]at g1
    exact g1
  refine .inr ⟨hcmj,hne,?_,?_,h3,List.mem_append_right _ h4⟩
  ·rcases Ami ok1 hm hj with⟨e,_⟩ | ⟨r',hr',⟨_,hc'⟩,_⟩
   ·rw[e]at g2;exact g2
   ·have h5:=Afu hr'
    exact absurd (ω:j=i) (hne h5.2.1)
  ·unfold NC at g3⊢
   rw[hent]at g3;exact g3
theorem Bcm(h1:C m c=A)(h2:C (Ak m (JP b m kind i cm fr)) c=B):(c=i∧kind=8)∨D (Ak m (JP b m kind i cm fr)) c=2:=by
 rcases Alb (Ame m kind hi cm fr) hm hc with⟨e,_⟩ | ⟨r,hr,⟨hk,hrc⟩,e⟩
 ·rw[e,h1]at h2;cases h2
 ·rcases Amf hm hi hcm hc hr hrc with⟨h,e,_⟩ | ⟨_,hne,_,_,_,hin⟩
  ·rcases(Afu h).2.2 with⟨h,_⟩ | h | ⟨_,h⟩
   ·omega
   ·omega
   ·exact .inl ⟨e,h⟩
  ·right
   rcases Ami (Ame m kind hi cm fr) hm hc with⟨_,n⟩ | ⟨s,hs,⟨hsk,hsc⟩,e2⟩
   ·exact absurd ⟨rfl,rfl⟩ (n _ hin)
   ·rw[e2]
    rcases Amf hm hi hcm hc hs hsc with⟨_,h,hk0⟩ | ⟨_,_,_,_,h,_⟩
    ·exact absurd h (hne hk0)
    ·omega
end
def kdR(r:H):Prop:=r.S0≠4∧r.S0≠5∧r.S0≠6
def Aqb(b:E):∀(l:List Entry) {X:Rnd},(∀r∈X.recs,kdR r)→∀r∈(Lj b l X).recs,kdR r
 |[],_,h=>h
 |e::t,X,h=>by
  refine Aqb b t (X:=Jm b e X) ?_;unfold Jm;cases PB b X.img with
  |false=>exact h
  |true=>
   intro r hr;rcases q_.1 (show r∈X.recs++[Af7 e]from hr)with hr | hr
   ·exact h r hr
   ·rw[E_.1 hr]
    exact⟨show(1:Int)≠4 by decide,show(1:Int)≠5 by decide,show(1:Int)≠6 by decide⟩
section
variable{b:E}(hb:b.small)(hcode:b.code=0){m:Img}(hm:ImgOK b m){xs:List Int}(hx:xs.length=m.A0.length)(hxv:inX xs){vs:List View}(ps:List Calls)(press:Int×Int)(good:Bool)
include hcode hm
theorem Bdc:∀r∈(Co b m xs vs ps press good).recs,kdR r:=by
 unfold Co;cases good with
 |false=>exact λr h=>by cases h
 |true=>
  have hv:=QK hcode vs (l:=m.A0) λe he=>(EA.1 (hm.en e he)).1
  refine Aqb b _ λr hr=>?_
  have hr:r∈Ia b vs m.A0:=hr
  have:=(hv r hr).2
  exact⟨ω,ω,ω⟩
variable(hvl:vs.length=b.B0.length)
include hb hx hxv hvl
theorem Bdb:∀r∈(ML b m xs vs ps press good).recs,kdR r:=λr hr=>by
 have hp:=WP hb hcode hm hx hxv (vs:=vs) ps press good hvl;have hr:r∈(Co b m xs vs ps press good).recs++(Zj b m xs vs ps press good).1:=hr;rcases q_.1 hr with h | h
 ·exact Bdc hcode hm ps press good r h
 ·rw[hp]at h
  have:=WC b vs _ _ r h
  exact⟨ω,ω,ω⟩
theorem Aua:(ML b m xs vs ps press good).img=(Co b m xs vs ps press good).img.put (NS b vs (Co b m xs vs ps press good).img.A0 (Co b m xs vs ps press good).xs):=by
 have hcc:=Aj hcode;have h:=WQ hb hcode hm hx hxv (vs:=vs) ps press good;have hp:=WP hb hcode hm hx hxv (vs:=vs) ps press good hvl;have e2:(ML b m xs vs ps press good).img=Ak (Co b m xs vs ps press good).img (Zj b m xs vs ps press good).1:=rfl;rw[e2,hp];exact(So (b:=b) ω (by omega:(vs.length:Int)=(b.B0.length:Int)) _ _ [] (Co b m xs vs ps press good).img h.ok.len h.ok.img rfl).1
end
def ZC{b:E}{vs:List View}{floor dir except:Int}:∀(m i:Nat) (best:Int),i+m=vs.length→(best=-1∨(0≤best∧best<vs.length∧(Aq vs best).Y2=A))→(TO b vs floor dir except m i best=-1∨(0≤TO b vs floor dir except m i best∧TO b vs floor dir except m i best<vs.length∧(Aq vs (TO b vs floor dir except m i best)).Y2=A))
 |0,_,_,_,h=>h
 |m+1,i,best,hi,h=>by
  refine ZC m (i+1) _ ω ?_
  unfold LT;cases hr:(!(Aq vs i).Y2||(i:Int)==except)with
  |true=>exact h
  |false=>
   have hr:(Aq vs i).Y2=A:=by
    simp only[Bool.or_eq_false_iff,g2_]at hr;exact hr.1
   have hi':i<vs.length:=ω
   rw[c_];cases(best==-1||Xt (Hn b vs floor dir i) (Hn b vs floor dir best))with
   |true=>exact .inr ⟨by show(0:Int)≤(i:Int);omega,by show(i:Int)<_;omega,hr⟩
   |false=>exact h
def Aig(b:E)(vs:List View)(floor dir except:Int):DC b vs floor dir except=-1∨(0≤DC b vs floor dir except∧DC b vs floor dir except<vs.length∧(Aq vs (DC b vs floor dir except)).Y2=A):=by
 unfold DC;cases(b.code !=0||(vs.length:Int) !=(b.B0.length:Int))with
 |true=>exact .inl rfl
 |false=>exact ZC vs.length 0 (-1) ω (.inl rfl)
def As8(vs:List View)(c:Int):Prop:=c<0∨(c<vs.length∧((Aq vs c).Y2=A∨(Aq vs c).Q3=B))
def Bax(b:E)(h:-2≤e.Q0∧e.Q0<vs.length)(x:Int):As8 vs (Eg b vs e x).Q0:=by
 have ch:∀n,As8 vs (DC b vs e.D0 e.I0 n):=λn=>by
  rcases Aig b vs e.D0 e.I0 n with h | ⟨_,h1,h2⟩
  ·exact .inl ω
  ·exact .inr ⟨h1,.inl h2⟩
 unfold Eg;cases h1:e.Q0==-2 with
 |true=>exact .inl (by have:=eq_of_beq h1;show e.Q0<0;omega)
 |false=>
 cases h2:e.Q0==-1 with
 |true=>exact ch _
 |false=>
 have own:(Aq vs e.Q0).Q3=B→As8 vs e.Q0:=λh3=>.inr ⟨h.2,.inr h3⟩
 cases h3:(Aq vs e.Q0).Q3 with
 |true=>
  cases decide ((b.B0.length:Int)<e.B1)with
  |true=>exact .inl (by show(-2:Int)<0;decide)
  |false=>exact ch _
 |false=>
  cases !e.Y1&&decide (e.B1≤(b.B0.length:Int))with
  |false=>exact own h3
  |true=>
   cases h4:JQ b vs e x != -1 with
   |false=>exact own h3
   |true=>
    show As8 vs (JQ b vs e x);unfold JQ at h4⊢;cases h5:DC b vs e.D0 e.I0 e.Q0==-1 with
    |true=>rw[h5]at h4;cases h4
    |false=>
     rw[h5]at h4;rw[c_]at h4⊢;cases h6:YP b vs e x (DC b vs e.D0 e.I0 e.Q0)with
     |true=>exact ch _
     |false=>rw[h6]at h4;cases h4
section
variable{b:E}(hw:BW b){m:Mch}{x:Inp}{g:Bool}{m':Mch}{o:Outputs}{l1 l2:List H}{u:Mch}{vs:List View}{X:Rnd}(h:TickF b m x g m' o l1 l2 u vs X)
include hw h
theorem TickF.recs_kd:∀r∈X.recs,kdR r:=by
 rw[h.hX];exact Bdb hw.small hw.code h.pu.jst.img h.pu.exl h.pu.exv _ _ _ h.va.len
theorem TickF.rest:m'.G0.F0=u.G0.F0∧m'.G0.O0=u.G0.O0∧m'.G0.K0=u.G0.K0:=by
 rw[h.img,← h.rg.img];exact Agf _ (h.recs_kd hw)
theorem TickF.fits:(Ak m.G0 l1).fits b→u.G0.fits b:=λ_=>h.pu.jst.img.fits
theorem TickF.ent(he:e∈m'.G0.A0)(hc:0≤e.Q0):∃i:Nat,e.Q0=(i:Int)∧i<b.B0.length∧C m'.G0 i=B∧EY m'.G0 i=A:=by
 obtain⟨h1,h2,_⟩:=h.rest hw;have hcc:=Aj hw.code;rw[h.img,h.hX,Aua hw.small hw.code h.pu.jst.img h.pu.exl h.pu.exv _ _ _ h.va.len]at he;have hrg:=WQ hw.small hw.code h.pu.jst.img h.pu.exl h.pu.exv (vs:=vs) u.U3 x.press g;generalize Co b u.G0 u.D2 vs u.U3 x.press g=Y at he hrg;have he:e∈NS b vs Y.img.A0 Y.xs:=he;obtain⟨j,hj,rfl⟩:=f8_ he;rw[VQ b vs _ _ hrg.ok.len]at hj
 have hd:(NS b vs Y.img.A0 Y.xs)[j]'(by rw[VQ b vs _ _ hrg.ok.len];exact hj)=Eg b vs (Y.img.A0.getD j noE) (Y.xs.getD j 0):=by
  rw[← Ags b vs _ _ j hrg.ok.len hj,k_,i_];rfl
 rw[hd]at hc⊢;have hin:=(EA.1 (hrg.ok.img.en _ (Cn noE hj))).2.1;have hmay:=Bax b (vs:=vs) (e:=Y.img.A0.getD j noE) (by rw[h.va.len];omega) (Y.xs.getD j 0)
 obtain⟨i,hi⟩:=d8_ hc;rw[hi]at hmay;rcases hmay with hmay | ⟨h3,h4⟩
 ·omega
 have hib:i<b.B0.length:=by have:=h.va.len;omega
 have hv:=h.va.vi i hib;have hva:Aq vs (i:Int)=vs.getD i noV:=rfl;rw[hva]at h4;refine⟨i,hi,hib,?_⟩;have ef:C m'.G0 i=C u.G0 i:=by unfold C;rw[h2]
 have es:EY m'.G0 i=EY u.G0 i:=by unfold EY D;rw[h1]
 rw[ef,es];rcases h4 with h4 | h4
 ·rw[hv.ready]at h4
  unfold Rn at h4;simp only[e_,a6_,b8_]at h4;refine⟨h4.2.2.1,?_⟩;unfold EY;rcases h4.2.1 with h5 | h5<;>rw[h5]<;>simp
 ·rw[hv.lost]at h4
  simp only[Bool.or_eq_false_iff,g2_]at h4;exact h4
theorem TickF.flag(hm:PM b m){c:Nat}(hc:c<b.B0.length)(h0:C m.G0 c=A)(hz:C m'.G0 c=B):D m'.G0 c=2∨(g=A∧x.kind=8∧x.car=(c:Int)):=by
 obtain⟨h1,h2,_⟩:=h.rest hw;have e1:D m'.G0 c=D u.G0 c:=by unfold D;rw[h1]
 have e2:C m'.G0 c=C u.G0 c:=by unfold C;rw[h2]
 have hl1:∀r∈l1,LB b r:=λr hr=>Axz (h.fl r hr)
 have hf1:=Bbk hl1 hm.jst.img.fits
 have e3:C (Ak m.G0 l1) c=A:=by
  rcases Alb hl1 hm.jst.img.fits hc with⟨e,_⟩ | ⟨r,hr,_,e⟩
  ·rw[e,h0]
  ·obtain⟨i,_,rfl⟩:=h.fl r hr
   rw[e];rfl
 rw[e2,h.iu]at hz;rw[e1,h.iu];rcases h.op with⟨_,rfl⟩ | ⟨hg,i,cm,fr,hx,hi,hcm,rfl⟩
 ·rw[show Ak (Ak m.G0 l1) []=Ak m.G0 l1 from rfl,e3]at hz
  cases hz
 ·rcases Bcm hf1 hi hcm hc e3 hz with⟨e,hk⟩ | h
  ·exact .inr ⟨hg,hk,by rw[hx,e]⟩
  ·exact .inl h
end
def Bdi(b:E)(s:ByteArray)(x:Inp)(g:Bool):Prop:=((BT b s=0∧InOK b x)∨(BT b s≠0∧x=Inp.none))∧g=(BT b s==0)∧DW b.C0 b.E0 b.H0 b.M0 b.J0 b.L0 b.N0 b.B0 s=J (((),BT b s,()),(x.tup,()))
def Bgi(hw:BW b)(hm:PM b m)(hs:Fr b s):∃m' o,ET b.C0 b.E0 b.H0 b.M0 b.J0 b.L0 b.N0 b.B0 m.G0.F0 m.G0.O0 m.G0.K0 m.G0.A0 m.X0.h0 m.X0.h1 m.X0.sel m.N1 m.W0 m.B0 m.L2 m.D2 m.U3 m.L3 m.N2 m.G2 s 1048576=J (((),(),0,()),(m'.tup,outP o,()))∧PM b m'∧∃x g l1 l2 u vs X,Bdi b s x g∧TickF b m x g m' o l1 l2 u vs X:=by
 obtain⟨m',o,h1,h2,h3,x,t',hx,hrd,hr,he,h0,_⟩:=Bhr hw hm hs;obtain⟨l1,l2,u,vs,X,hF⟩:=hr.fact he.symm;obtain⟨e1,e2⟩:=h0 rfl;rw[← e1,← e2]at hF;refine⟨m',o,?_,h2,x,_,l1,l2,u,vs,X,⟨hx,rfl,hrd⟩,hF⟩;unfold ET;exact Ae (hm.isM_eq hw) (Ae (Bpd (hm.fit hw)) (Ae h1 rfl))
def Are(x c:Int×Int):DJ c (Cd x c)=(0,0):=by
 have h:∀a d:Int,vb (bv d&&&bv (Aa9 a d))=0:=λa d=>by
  have e:bv d&&&bv (Aa9 a d)=0#32:=by
   apply BitVec.eq_of_getLsbD_eq;intro i hi
   have:=VB (a,0) (d,0) (f:=i) hi 1
   have h1:CK (Aa9 a d) i=(CK a i&&!CK d i):=this;rw[f2_];show(CK d i&&CK (Aa9 a d) i)=_;rw[h1];cases CK d i<;>cases CK a i<;>simp
  rw[e];rfl
 exact Prod.ext (h x.1 c.1) (h x.2 c.2)
def RA(l:List Calls)(k:Nat):Int×Int:=((l.getD k noP).Up,(l.getD k noP).T3)
def Uz(l:List Calls):Nat→Int×Int
 |0=>(0,0)
 |k+1=>DU (Uz l k) (RA l k)
def Ag9{l:List Calls}(r:List Calls){k:Nat}(h:k<l.length):(l++r).getD k noP=l.getD k noP:=by
 rw[k_,k_,c1_ h]
def ZZ{l:List Calls}(r:List Calls):∀k,k≤l.length→Uz (l++r) k=Uz l k
 |0,_=>rfl
 |k+1,h=>by
  show DU (Uz (l++r) k) (RA (l++r) k)=DU (Uz l k) (RA l k);rw[ZZ r k ω]
  unfold RA;rw[Ag9 r ω]
structure Apart(s:Lan):Prop where
 cl:Uz s.lit s.lit.length=s.cl
 ap:∀k,k<s.lit.length→DJ (Uz s.lit k) (RA s.lit k)=(0,0)
def Apart.step{ps:List Calls}{s:Lan}(h:Apart s)(i:Nat):Apart (NW b vs ps i s):=by
 have hn:RA (s.lit++[Calls.mk (NV b vs i s).1 (NV b vs i s).2]) s.lit.length=NV b vs i s:=by
  unfold RA;rw[k_,c7_ (w_ _),Nat.sub_self];rfl
 refine⟨?_,λk hk=>?_⟩
 ·show Uz (s.lit++[_]) (s.lit++[_]).length=DU s.cl (NV b vs i s)
  rw[h_];show DU (Uz (s.lit++[_]) s.lit.length) (RA (s.lit++[_]) s.lit.length)=_;rw[ZZ _ _ (w_ _),h.cl,hn]
 ·have hk:k<(s.lit++[Calls.mk (NV b vs i s).1 (NV b vs i s).2]).length:=hk
  rw[h_,J_]at hk;show DJ (Uz (s.lit++[_]) k) (RA (s.lit++[_]) k)=_;rw[ZZ _ _ ω]
  by_cases e:k<s.lit.length
  ·rw[show RA (s.lit++[Calls.mk (NV b vs i s).1 (NV b vs i s).2]) k=RA s.lit k by unfold RA;rw[Ag9 _ e]]
   exact h.ap k e
  ·obtain rfl:k=s.lit.length:=ω
   rw[hn,h.cl];exact Are _ _
def Bap{n0 n1 n2:Nat}(h1:n1<256)(h2:n2<256):BW (Fy (Hj n0) (Hb n0) n1 n2):=by
 have hf:(2≤Hj n0∧Hj n0≤6)∧1≤Hb n0∧Hb n0≤3:=by unfold Hj Hb;omega
 obtain⟨g1,g2,g3,_,_,g6⟩:=Ano (n1:=n1) (n2:=n2) hf.1 hf.2 h1 h2;have hl:(arF .sub .f64 (AI 2 1).L0 4589168020290535424).isSome=A∧(arF .sub .f64 (AI 2 1).N0 4589168020290535424).isSome=A:=by decide+kernel
 obtain⟨a,ha⟩:=Option.isSome_iff_exists.1 hl.1;obtain⟨c,hc⟩:=Option.isSome_iff_exists.1 hl.2;exact⟨g1,g2,g6,⟨a,ha,trivial⟩,⟨c,hc,trivial⟩⟩
def Brw{n0 n1 n2:Int}(h0:0≤n0∧n0<256)(h1:0≤n1∧n1<256)(h2:0≤n2∧n2<256):∃b:E,ES n0 n1 n2=J (((),()),(b.tup,()))∧BW b∧(∃y,Hq b.C0 b.E0 b.H0 b.M0 b.J0 b.L0 b.N0 b.B0=J (y,((PE b).1.tup,())))∧PM b (PE b).1:=by
 obtain⟨k0,rfl⟩:=d8_ h0.1;obtain⟨k1,rfl⟩:=d8_ h1.1;obtain⟨k2,rfl⟩:=d8_ h2.1;have hw:=Bap (n0:=k0) (n1:=k1) (n2:=k2) ω ω
 exact⟨_,Zq (n0:=k0) (n1:=k1) (n2:=k2) ω ω ω,hw,⟨_,Amt hw.small hw.code⟩,(Bc5 hw).1⟩
def Ag5{S:Type}(f:Nat→S→S):∀(k i:Nat) (s:S),AO f (k+1) i s=f (i+k) (AO f k i s)
 |0,_,_=>rfl
 |k+1,i,s=>by
  show AO f (k+1) (i+1) (f i s)=_;rw[Ag5 f k (i+1),show i+1+k=i+(k+1)by omega]
  rfl
def Ajd(a:Nat)(s:ByteArray):bl (tl a s)=(bl s).drop a:=by
 unfold tl;rw[QX,← FW s];exact a8_ (by rw[Y_];exact w_ _)
def Bkc(a i:Nat)(s:ByteArray):byN (tl a s) i=byN s (a+i):=by
 unfold byN;rw[Ajd,k_,k_,c4_]
def QM(a c:Nat)(s:ByteArray):tl a (tl c s)=tl (c+a) s:=by
 apply MY;rw[Ajd,Ajd,Ajd,List.drop_drop]
def TU(a i:Nat)(s:ByteArray):AD s (a+i)=AD (tl a s) i:=by
 rw[FJ,FJ];exact b9_ Int.ofNat (Bkc a i s).symm
def SI(s:ByteArray)(a:Nat):∀k,YK s a k=leV (tl a s) k
 |0=>rfl
 |k+1=>by
  show AO (Bdf s a) (k+1) 0 0=_;rw[Ag5,p_];show Atd (YK s a k) _=orL (leV (tl a s) k) _;rw[SI s a k,TU,show Int.toNat (8*(k:Int))=8*k by omega]
  rfl
def rdC(c:CarInput):CarInput:=CarInput.mk (aA aF c.V0) c.T1 c.F1 c.G1 c.C1 c.J1 c.L1 c.S1 c.M1 (aA aF c.Z1) (c.B3%2^64)
def Xw(n:Int)(k:Nat):Bool:=IntKind.u8.wrap (stk (Int.fdiv n ((2:Int)^min k (IntKind.bits .u8))) 1 (BitVec.toNat ((BitVec.ofInt (IntKind.bits IntKind.u8) (Int.fdiv n ((2:Int)^min k (IntKind.bits .u8))))&&&(BitVec.ofInt (IntKind.bits IntKind.u8) 1))))==1
def Bqm(a b c d e f:Bool):(0≤AO (Pc [a,b,c,d,e,f]) 6 0 0∧AO (Pc [a,b,c,d,e,f]) 6 0 0<64)∧Xw (AO (Pc [a,b,c,d,e,f]) 6 0 0) 0=a∧Xw (AO (Pc [a,b,c,d,e,f]) 6 0 0) 1=b∧Xw (AO (Pc [a,b,c,d,e,f]) 6 0 0) 2=c∧Xw (AO (Pc [a,b,c,d,e,f]) 6 0 0) 3=d∧Xw (AO (Pc [a,b,c,d,e,f]) 6 0 0) 4=e∧Xw (AO (Pc [a,b,c,d,e,f]) 6 0 0) 5=f:=by
 cases a<;>cases b<;>cases c<;>cases d<;>cases e<;>cases f<;>decide+kernel
def Bhg(n:Nat):nmB ((n%2^64:Nat):Int) 8=nmB (n:Int) 8:=by
 unfold nmB Abb;congr 1;refine List.map_congr_left λi hi=>?_
 have hi:=List.mem_range.1 hi;rw[V_ _ (Int.le_of_lt (Int.pow_pos (by decide))),V_ _ (Int.le_of_lt (Int.pow_pos (by decide)))]
 have e:IntKind.u8.wrap=λm:Int=>m%256:=by funext m;simp only[aA,IntKind.signed,IntKind.bits];simp
 rw[e];have h:i=0∨i=1∨i=2∨i=3∨i=4∨i=5∨i=6∨i=7:=ω
 rcases h with rfl | rfl | rfl | rfl | rfl | rfl | rfl | rfl
 ·show((n%18446744073709551616:Nat):Int)/1%256=(n:Int)/1%256;omega
 ·show((n%18446744073709551616:Nat):Int)/256%256=(n:Int)/256%256;omega
 ·show((n%18446744073709551616:Nat):Int)/65536%256=(n:Int)/65536%256;omega
 ·show((n%18446744073709551616:Nat):Int)/16777216%256=(n:Int)/16777216%256;omega
 ·show((n%18446744073709551616:Nat):Int)/4294967296%256=(n:Int)/4294967296%256;omega
 ·show((n%18446744073709551616:Nat):Int)/1099511627776%256=(n:Int)/1099511627776%256;omega
 ·show((n%18446744073709551616:Nat):Int)/281474976710656%256=(n:Int)/281474976710656%256;omega
 ·show((n%18446744073709551616:Nat):Int)/72057594037927936%256=(n:Int)/72057594037927936%256;omega
section
variable{b:E}(hb:b.small)
include hb
theorem Axy{n:Int}(h:flV b n=A):aB.wrap (aA aF n)=aB.wrap n:=by
 obtain⟨h3,h4⟩:C2 b.C0 (aA aB n):=Abq.1 h;have h2:=Anc hb;have e1:aB.wrap n=n%18446744073709551616:=by simp only[aA,IntKind.signed,IntKind.bits];simp
 have e2:aF.wrap n=n%4294967296:=by simp only[aA,IntKind.signed,IntKind.bits];simp
 rw[CN ω ω,e2,e1]
 omega
theorem Aza(h:EW b c=A):EW b (rdC c)=A∧∀t,IU t (rdC c)=IU t c:=by
 unfold EW at h⊢;simp only[e_]at h;have e1:=Axy hb h.1;have e2:=Axy hb h.2.1;refine⟨?_,λt=>?_⟩
 ·unfold rdC flV
  simp only[e1,e2];have h1:=h.1;have h2:=h.2.1;unfold flV at h1 h2;rw[h1,h2,h.2.2.1,h.2.2.2];rfl
 ·unfold IU rdC
  simp only[e1,e2,Bhg]
theorem Agl{a:Nat}(hc:EW b c=A){l:List CarInput}{R:ByteArray}(h:tl a s=KE (c::l)++R):XA s a=rdC c∧tl (a+19) s=KE l++R:=by
 have lo:=hb.lo;have hi:=hb.hi;unfold EW at hc;simp only[e_,Am]at hc;obtain⟨_,_,h3,h4⟩:=hc;rw[YF]at h;simp only[f1_]at h;have u:∀n:Int,0≤n∧n<256→aB.wrap n=n:=λn h=>CN h.1 ω
 have t4:=(QM 4 a s).symm.trans ((b9_ (tl 4) h).trans (Em (AN _ 4) _));have t5:=(QM 1 (a+4) s).symm.trans ((b9_ (tl 1) t4).trans (Em (Pd _) _));have t6:=(QM 1 (a+5) s).symm.trans ((b9_ (tl 1) t5).trans (Em (AN _ 1) _));have t7:=(QM 1 (a+6) s).symm.trans ((b9_ (tl 1) t6).trans (Em (AN _ 1) _));have t11:=(QM 4 (a+7) s).symm.trans ((b9_ (tl 4) t7).trans (Em (AN _ 4) _));have t19:=(QM 8 (a+11) s).symm.trans ((b9_ (tl 8) t11).trans (Em (AN _ 8) _));refine⟨?_,t19⟩;obtain⟨g0,g1,g2,g3,g4,g5,g6⟩:=Bqm c.T1 c.F1 c.G1 c.C1 c.L1 c.M1
 have hbit:∀k,VC s (a+4) k=Xw (AO (Pc [c.T1,c.F1,c.G1,c.C1,c.L1,c.M1]) 6 0 0) k:=λk=>by
  have e:AD s (a+4)=AO (Pc [c.T1,c.F1,c.G1,c.C1,c.L1,c.M1]) 6 0 0:=by
   rw[show a+4=(a+4)+0 from rfl,TU,t4,FJ]
   exact Oc (n:=AO (Pc [c.T1,c.F1,c.G1,c.C1,c.L1,c.M1]) 6 0 0) ω _
  unfold VC Xw;rw[e]
 have hby:∀(k:Nat) {n:Int}{r:ByteArray},tl (a+k) s=nmB (aA aB n) 1++r→0≤n∧n<256→IntKind.i64.wrap (AD s (a+k))=n:=λk n r ht hn=>by
  rw[show a+k=(a+k)+0 from rfl,TU,ht,FJ,u n hn]
  have e:(((bl (nmB n 1++r)).getD 0 0).toNat:Int)=n:=Oc hn r;rw[e];exact Ac ω ω
 unfold XA rdC;rw[hbit,hbit,hbit,hbit,hbit,hbit,g1,g2,g3,g4,g5,g6,hby 5 t5 ω,hby 6 t6 ω,SI,SI,SI,h,t7,t11,Oj,Oj,Alv _ (by decide) ω,j_,j_]
end
def Amu{b:E}(hb:b.small){s R:ByteArray}:∀{l:List CarInput}{a:Nat},(∀c∈l,EW b c=A)→tl a s=KE l++R→∀i,i<l.length→XA s (a+19*i)=rdC (l.getD i RB)
 |c::l,a,hl,h,0,_=>(Agl hb (hl c (B_ ..)) h).1
 |c::l,a,hl,h,i+1,hi=>by
  have h2:=(Agl hb (hl c (B_ ..)) h).2
  have:=Amu hb (l:=l) (a:=a+19) (λx hx=>hl x (F_ _ hx)) h2 i (by rw[y_]at hi;omega)
  rw[show a+19*(i+1)=a+19+19*i by omega,this]
  rfl
def Apv{b:E}(hb:b.small):∀{l:List CarInput}(t:ByteArray),(∀c∈l,EW b c=A)→(l.map rdC).foldl IU t=l.foldl IU t
 |[],_,_=>rfl
 |c::l,t,h=>by
  rw[f7_,f4_,f4_,(Aza hb (h c (B_ ..))).2];exact Apv hb _ λx hx=>h x (F_ _ hx)
def Inp.ext'{y:Inp}(h:x.tup=y.tup):x=y:=by
 obtain⟨⟨_,_⟩,_,_,_⟩:=x;obtain⟨⟨_,_⟩,_,_,_⟩:=y;unfold Inp.tup at h;simp only[g6_,and_true]at h;obtain⟨rfl,rfl,rfl,rfl,rfl⟩:=h;rfl
def Atk(hb:b.small)(hcode:b.code=0)(hx:Hl b x=A)(hu:JX x.press)(ho:BT b (inV b x)=0):WE b (inV b x)=(⟨x.press,x.kind,x.car,x.cars.map rdC⟩,0):=by
 have hc:=Aj hcode;have hx0:=hx;unfold Hl at hx;simp only[e_,U_]at hx;obtain⟨h1,h2,h3,h4,h5,h6⟩:=hx;have h2':=Am.1 h2;have h3':=Am.1 h3;have hv:∀c∈x.cars,EW b c=A:=D_.1 h6;have u:∀n:Int,0≤n∧n<256→aB.wrap n=n:=λn h=>CN h.1 ω
 have es:inV b x=(nmB 165 1++nmB (aA aB (b.B0.length:Int)) 1)++(Qb x++WJ (x.cars.foldl IU (QF b x))):=by
  unfold inV GU;rw[Wj];unfold QF QZ Qb;simp only[f1_]
 have t2:=(b9_ (tl 2) es).trans (Em (show _=2 by rw[P_,AN,AN]) _)
 unfold Qb at t2;simp only[f1_]at t2;have t6:=(QM 4 2 (inV b x)).symm.trans ((b9_ (tl 4) t2).trans (Em (AN _ 4) _));have t10:=(QM 4 6 (inV b x)).symm.trans ((b9_ (tl 4) t6).trans (Em (AN _ 4) _));have t11:=(QM 1 10 (inV b x)).symm.trans ((b9_ (tl 1) t10).trans (Em (AN _ 1) _));have t12:=(QM 1 11 (inV b x)).symm.trans ((b9_ (tl 1) t11).trans (Em (AN _ 1) _))
 have hby:∀(k:Nat) {n:Int}{r:ByteArray},tl k (inV b x)=nmB (aA aB n) 1++r→0≤n∧n<256→IntKind.i64.wrap (AD (inV b x) k)=n:=λk n r ht hn=>by
  rw[show k=k+0 from rfl,TU,ht,FJ,u n hn]
  have e:(((bl (nmB n 1++r)).getD 0 0).toNat:Int)=n:=Oc hn r;rw[e];exact Ac ω ω
 have er:RE b.B0.length (inV b x)=⟨x.press,x.kind,x.car,x.cars.map rdC⟩:=by
  unfold RE Ajq;rw[SI,SI,t2,t6,Oj,Oj,Rr hu.1,Rr hu.2,hby 10 t10 ω,hby 11 t11 ω]
  congr 1;have hlen:x.cars.length=b.B0.length:=ω
  refine List.ext_getElem (by rw[b5_,b5_,List.length_range,hlen]) λi h1 h2=>?_
  have hi:i<x.cars.length:=by rw[b5_]at h2;exact h2
  rw[List.getElem_map,List.getElem_map,List.getElem_range,Amu hb hv t12 i hi,k_,i_ hi];rfl
 have e1:Hl b ⟨x.press,x.kind,x.car,x.cars.map rdC⟩=A:=by
  unfold Hl;simp only[h1,h2,h3,h4,b5_,h5,l_,n_];refine D_.2 λc hc=>?_
  obtain⟨d,hd,rfl⟩:=c3_.1 hc;exact(Aza hb (hv d hd)).1
 have e2:inV b ⟨x.press,x.kind,x.car,x.cars.map rdC⟩=inV b x:=by
  unfold inV;exact b9_ GU (Apv hb _ hv)
 unfold WE;rw[ho,er,e1,e2,Apn.2 rfl];rfl
def Bcs(hb:b.small)(hcode:b.code=0)(hs:Fr b s)(hx:Bdi b s x g):∃z:Inp,Jv b.C0 b.E0 b.H0 b.M0 b.J0 b.L0 b.N0 b.B0 s=J (((),BT b s,()),(z.tup,()))∧z.press=x.press∧z.kind=x.kind∧z.car=x.car:=by
 have hc:=Aj hcode;obtain⟨x0,⟨hm,hu⟩,hf⟩:=hs
 have hxl:x0.cars.length=b.B0.length:=by
  unfold Hl at hm;simp only[e_,U_]at hm;omega
 have hz:s.size≤1000000:=by rw[hf.1,Wq];omega
 have hr:=Aiz hb hcode s hz;by_cases ho:BT b s=0
 ·have e:=Fr.good hf ho
  subst e;rw[Atk hb hcode hm hu ho]at hr;obtain⟨hd,e1,e2,e3⟩:=Auk hb hcode hm;have h:=RI hb hcode hz ho (by rw[Zb];exact hd)
  rw[Zb,hx.2.2]at h
  have hx':x=hdP b.B0.length (Qb x0):=by
   apply Inp.ext'
   have:=M_ h
   exact(Prod.mk.inj (Prod.mk.inj this).2).1
  rw[ho];refine⟨_,hr,?_,?_,?_⟩
  ·rw[hx',e1,Rr hu.1,Rr hu.2]
  ·rw[hx',e2]
  ·rw[hx',e3]
 ·have e:WE b s=(Inp.none,BT b s):=by
   unfold WE;rw[EK ho];rfl
  rw[e]at hr;rcases hx.1 with⟨h,_⟩ | ⟨_,rfl⟩
  ·exact absurd h ho
  ·exact⟨Inp.none,hr,rfl,rfl,rfl⟩
def Bby:Kg=J ((A,()),()):=by decide+kernel
section
variable{b:E}(hw:BW b)
include hw
theorem Asq{l1 l2:List H}(h:TickF b m x g m' o l1 l2 u vs X)(f:List ByteArray)(i:Int)(z:Inp):
  Sat (Ed (((),(),f,i,(),(),(),(0:Int),()),(b.tup,m.tup,m'.tup,outP o,z.tup,()))) λy=>y=.inl (((),(),f,i,(),(),(),()),(b.tup,m.tup,m'.tup,outP o,z.tup,())):=by
 have hcc:=Aj hw.code;have him:=h.pm.jst.img;have he:=Eh hw.small him;unfold Ed;refine Sat.loop (λ(k:Nat) z'=>∃c:Nat,z'=(((),(),f,i,(),(),(),(c:Int),()),(b.tup,m.tup,m'.tup,outP o,z.tup,()))∧c+k=m'.G0.A0.length) (λk z' hz=>?_) m'.G0.A0.length ⟨0,rfl,p_ _⟩ ω
 obtain⟨c,rfl,hk⟩:=hz;show Sat (Kr f i (c:Int) b.C0 b.E0 b.H0 b.M0 b.J0 b.L0 b.N0 b.B0 m.G0.F0 m.G0.O0 m.G0.K0 m.G0.A0 m.X0.h0 m.X0.h1 m.X0.sel m.N1 m.W0 m.B0 m.L2 m.D2 m.U3 m.L3 m.N2 m.G2 m'.G0.F0 m'.G0.O0 m'.G0.K0 m'.G0.A0 m'.X0.h0 m'.X0.h1 m'.X0.sel m'.N1 m'.W0 m'.B0 m'.L2 m'.D2 m'.U3 m'.L3 m'.N2 m'.G2 o.T5 o.R5 o.R3 o.E3 o.V5 o.L0 o.U5 o.B0 z.press.1 z.press.2 z.kind z.car z.cars) _;unfold Kr;refine Sat.bic (λq=>?_) λq=>O rfl
 have q:(c:Int)<(m'.G0.A0.length:Int):=m_ q;have hwr:=CH (n:=c) ω
 have hmem:=Cn noE (ω:c<m'.G0.A0.length)
 refine U (Aa ω q) ?_
 refine N (b:=(((),(),f,i,(),(),(),(c:Int),B,()),(b.tup,m.tup,m'.tup,outP o,z.tup,()))) ?_ ?_
 ·show(bif decide ((0:Int)≤(m'.G0.A0.getD c noE).Q0)then _ else _)=_
  by_cases hc:0≤(m'.G0.A0.getD c noE).Q0
  ·obtain⟨j,hj,hjb,hfl,hsv⟩:=h.ent hw hmem hc
   have ifl:inB (j:Int) m'.G0.O0.length=A:=Aa ω (by rw[him.lf];omega)
   have iph:inB (j:Int) m'.G0.F0.length=A:=Aa ω (by rw[him.lp];omega)
   have hp2:(D m'.G0 j==2)=B∧(D m'.G0 j==3)=B:=by
    unfold EY at hsv;simp only[a6_,U_]at hsv;exact⟨Ar ω,Ar ω⟩
   rw[b_ hc,d_];show(bif decide ((b.B0.length:Int)≤(m'.G0.A0.getD c noE).Q0)then _ else bif inB (m'.G0.A0.getD c noE).Q0 m'.G0.O0.length then(bif m'.G0.O0.getD (Int.toNat (m'.G0.A0.getD c noE).Q0) B then _ else bif inB (m'.G0.A0.getD c noE).Q0 m'.G0.F0.length then(bif m'.G0.F0.getD (Int.toNat (m'.G0.A0.getD c noE).Q0) 0==2 then _ else bif inB (m'.G0.A0.getD c noE).Q0 m'.G0.F0.length then J (((),(),f,i,(),(),(),(c:Int),m'.G0.F0.getD (Int.toNat (m'.G0.A0.getD c noE).Q0) 0==3,()),_)else none)else none)else none)=_;rw[hj,j_,f_ (ω:¬(b.B0.length:Int)≤(j:Int)),c_,ifl,d_,iph,d_]
   show(bif C m'.G0 j then _ else bif D m'.G0 j==2 then _ else J (((),(),f,i,(),(),(),(c:Int),D m'.G0 j==3,()),_))=_;rw[hfl,hp2.1,hp2.2];rfl
  ·rw[f_ hc,c_]
   rfl
 ·exact aC rfl (O ⟨k-1,ω,c+1,by first | (rw[← hwr];rfl) | rw[← hwr],ω⟩)
theorem Asp(hm:PM b m){l1 l2:List H}(h:TickF b m x g m' o l1 l2 u vs X)(f:List ByteArray)(i:Int){z:Inp}(hz1:z.kind=x.kind)(hz2:z.car=x.car):
  Sat (Ee (((),(),f,i,(),(),(),(0:Int),()),(b.tup,m.tup,m'.tup,outP o,z.tup,()))) λy=>y=.inl (((),(),f,i,(),()),(b.tup,m.tup,m'.tup,())):=by
 have hcc:=Aj hw.code;have him:=h.pm.jst.img;have hoc:=h.oc;unfold Ee;refine Sat.loop (λ(k:Nat) z'=>∃c:Nat,z'=(((),(),f,i,(),(),(),(c:Int),()),(b.tup,m.tup,m'.tup,outP o,z.tup,()))∧c+k=b.B0.length) (λk z' hz=>?_) b.B0.length ⟨0,rfl,p_ _⟩ ω
 obtain⟨c,rfl,hk⟩:=hz;show Sat (Ks f i (c:Int) b.C0 b.E0 b.H0 b.M0 b.J0 b.L0 b.N0 b.B0 m.G0.F0 m.G0.O0 m.G0.K0 m.G0.A0 m.X0.h0 m.X0.h1 m.X0.sel m.N1 m.W0 m.B0 m.L2 m.D2 m.U3 m.L3 m.N2 m.G2 m'.G0.F0 m'.G0.O0 m'.G0.K0 m'.G0.A0 m'.X0.h0 m'.X0.h1 m'.X0.sel m'.N1 m'.W0 m'.B0 m'.L2 m'.D2 m'.U3 m'.L3 m'.N2 m'.G2 o.T5 o.R5 o.R3 o.E3 o.V5 o.L0 o.U5 o.B0 z.press.1 z.press.2 z.kind z.car z.cars) _;unfold Ks;refine Sat.bic (λq=>?_) λq=>O rfl
 have q:(c:Int)<(b.B0.length:Int):=m_ q;have hc:c<b.B0.length:=ω
 have hwr:=CH (n:=c) ω
 obtain⟨c0,d,_,hfi⟩:=h.cars c hc;have ifl:inB (c:Int) m'.G0.O0.length=A:=Aa ω (by rw[him.lf];omega)
 have iph:inB (c:Int) m'.G0.F0.length=A:=Aa ω (by rw[him.lp];omega)
 have jfl:inB (c:Int) m.G0.O0.length=A:=Aa ω (by rw[hm.jst.img.lf];omega)
 have hne:(!((o.B0.getD c BV).N5==C m'.G0 c))=B:=by rw[hfi.flag];simp
 refine U (Aa ω ω) (U ifl (aC hne ?_))
 refine N (b:=(((),(),f,i,(),(),(),(c:Int),B,()),(b.tup,m.tup,m'.tup,outP o,z.tup,()))) ?_ ?_
 ·rw[jfl,ifl,iph,d_,d_,d_]
  show(bif C m.G0 c then(bif !C m'.G0 c then(bif D m'.G0 c !=2 then J (((),(),f,i,(),(),(),(c:Int),!((z.kind==8)&&((z.car==(c:Int))&&A)),()),_)else _)else _)else _)=_;cases h0:C m.G0 c with
  |false=>rfl
  |true=>
   cases h1:C m'.G0 c with
   |true=>rfl
   |false=>
    rcases h.flag hw hm hc h0 h1 with h2 | ⟨_,h2,h3⟩
    ·rw[h2];rfl
    ·have e:(!((z.kind==8)&&((z.car==(c:Int))&&A)))=B:=by rw[hz1,hz2,h2,h3,l_,l_];rfl
     rw[e];cases D m'.G0 c !=2<;>rfl
 ·exact aC rfl (O ⟨k-1,ω,c+1,by first | (rw[← hwr];rfl) | rw[← hwr],ω⟩)
theorem Ax0(hf:∀s∈f,Fr b s)(hfl:f.length≤100)(hm:PM b m):Sat (Ec (((),(),f,(0:Int),()),(b.tup,m.tup,()))) λy=>y=.inl (((),()),(b.tup,())):=by
 unfold Ec;refine Sat.loop (λ(k:Nat) z=>∃(i:Nat) (m:Mch),z=(((),(),f,(i:Int),()),(b.tup,m.tup,()))∧i+k=f.length∧PM b m) (λk z hz=>?_) f.length ⟨0,m,rfl,p_ _,hm⟩ ω
 obtain⟨i,m,rfl,hk,hm⟩:=hz;show Sat (Kq f (i:Int) b.C0 b.E0 b.H0 b.M0 b.J0 b.L0 b.N0 b.B0 m.G0.F0 m.G0.O0 m.G0.K0 m.G0.A0 m.X0.h0 m.X0.h1 m.X0.sel m.N1 m.W0 m.B0 m.L2 m.D2 m.U3 m.L3 m.N2 m.G2) _;unfold Kq;refine Sat.bic (λq=>?_) λq=>O rfl
 have q:(i:Int)<(f.length:Int):=m_ q;have hwr:=CH (n:=i) ω
 have hfr:=hf _ (Cn noB (ω:i<f.length))
 have ii:inB (i:Int) f.length=A:=Aa ω q
 obtain⟨m',o,ht,hm',x,g,l1,l2,u,vs,X,hx,hF⟩:=Bgi hw hm hfr;obtain⟨z,hr,_,hz1,hz2⟩:=Bcs hw.small hw.code hfr hx;have bn:∀{n:Nat},n=b.B0.length→((n:Int) !=(b.B0.length:Int))=B:=λh=>by rw[h];exact Q_ _
 refine Sat.bindR (U ii (N ht (U ii (N hr (aC rfl (aC (bn hm'.jst.img.lf) (aC (bn hm'.jst.img.lp) (aC (bn hF.oc) ?_))))))));refine aD (Asq hw hF f (i:Int) z) λy4 h4=>?_
 subst h4;refine aD (Asp hw hm hF f (i:Int) hz1 hz2) λy6 h6=>?_
 subst h6;exact O ⟨k-1,ω,i+1,m',by first | (rw[← hwr];rfl) | rw[← hwr],ω,hm'⟩
end
def Aa5(n_f0:Int)(n_f1:Int)(n_f2:Int)(l:List Int)(h_n_f0:0≤n_f0∧n_f0<256)(h_n_f1:0≤n_f1∧n_f1<256)(h_n_f2:0≤n_f2∧n_f2<256)(h_l:l.length≤maxLen∧∀e∈l,(0≤e∧e<256)):F_l27_MachineFlags n_f0 n_f1 n_f2 l=J ((A,()),()):=by
 have hS:Sat (F_l27_MachineFlags n_f0 n_f1 n_f2 l) λy=>y=((A,()),()):=by
  unfold F_l27_MachineFlags;obtain⟨b,hbl,hw,⟨y0,hst⟩,hm⟩:=Brw h_n_f0 h_n_f1 h_n_f2;refine N hbl (Sat.bindR (N hst ?_));refine aD (Azx hw.small hw.code (l:=l) (λe he=>h_l.2 e he) h_l.1 (most:=100) ω) λy4 h4=>?_
  obtain⟨⟨f,u1⟩,u2⟩:=y4;obtain⟨hf1,hf2⟩:=h4;refine aD (Ax0 hw hf2 hf1 hm) λy5 h5=>?_
  subst h5;refine aD (Q:=λy=>y=((A,()),())) (N (Ea b) (U ?_ (N Bby (O rfl)))) λy h=>?_
  ·show(b.code==0)=A
   rw[hw.code];rfl
  ·subst h
   exact O rfl
 obtain⟨y,h1,h2⟩:=hS;rw[h1,h2]
end Go.Ovl
