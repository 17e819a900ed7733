/- The program's machine (layer 27): it belongs to its building; a tick of it. -/
import Derived.Test.YtdapkmfmgpmnoaaGreatDoorOvM
import Derived.Test.YtdapkmfmgpmnoaaGreatDoorOvD
import Derived.Test.YtdapkmfmgpmnoaaGreatDoorOvH
import Derived.Test.YtdapkmfmgpmnoaaGreatDoorOvC
import Derived.Test.YtdapkmfmgpmnoaaGreatDoorDefs4
set_option linter.all false
open Bool renaming true->A,false->D
open Go.Ovl renaming Ak->B,Bldg->C,ofC->E,Record->H,Calls->I,CarInput->aD
open Go.IntKind renaming wrap->aA,u64->aB,u32->aG
open List renaming replicate->aC,foldl_append->aH,getElem_map->aI
open Go.Ovl.Sat renaming bifT->aE,bindE->aF
namespace Go.Ovl
open Go Go.Ab
set_option maxRecDepth 100000
variable{b:C}{s:ByteArray}{m:Mch}{c:Int×Int}{x:Inp}{f k:Nat}{bud d:Int}{g:Bool}
def Zr{α:Type}{p:Nat→α→Bool}{d:α}{l:List α}{n:Nat}(hl:l.length=n)(h:∀i,i<n→p i (l.getD i d)=A):FY p d l (n:Int)=A:=by
 unfold FY;rw[hl,l_,n_];exact Rm n 0 λk _ hk=>h k ω
section
variable{b:C}(hw:BW b)
include hw
theorem PM.fit(h:PM b m):m.fit:=by
 have hcc:=Aj hw.code;have h1:=Ek hw.small h.jst.img
 have:=h.exl
 refine⟨h.jst.ents.2,by rw[h.con];omega,by rw[h.bel];omega,λx hx=>?_,by rw[h.car];omega,by rw[h.lod];omega,ω,by rw[h.lit];omega⟩
 obtain⟨i,hi,rfl⟩:=List.getElem_of_mem hx;have h2:=((h.belv i (by rw[← h.bel];exact hi)).dut).len hw.small
 rw[k_,j_ hi]at h2;have h2:m.W0[i].U0.length≤30:=h2;omega
theorem PM.isMach(h:PM b m):Zx b m=A:=by
 have e1:PE [m.T3,m.T2,m.H2]=A:=by
  unfold PE;simp only[X_,List.all_nil,c6_,e_,Ao];exact⟨h.tick,h.flt,h.ref⟩
 have e2:PE m.U1=A:=E_.2 λx hx=>Ao.2 (h.exv x hx)
 have c1:FY (λ_ x=>LQ b.E0 x) Ct m.S1 (b.B0.length:Int)=A:=Zr h.con λi hi=>(h.conv _ (CA _ (by rw[h.con];exact hi))).1
 have c2:FY (λi x=>Pt b i x) (Belief.mk 0 0 0 [] 0 D) m.W0 (b.B0.length:Int)=A:=Zr h.bel λi hi=>(Ag8 hw.small).2 (h.belv i hi)
 have c3:FY (λ_ x=>EN b x) AX m.B0 (b.B0.length:Int)=A:=Zr h.car λi hi=>h.carv _ (CA _ (by rw[h.car];exact hi))
 have c4:FY (λ_ x=>RD x) Hs m.R2 (b.B0.length:Int)=A:=Zr h.lod λi hi=>Ao.2 (h.lodv _ (CA _ (by rw[h.lod];exact hi)))
 unfold Zx;rw[Aqo h.jst.img h.jst.fits,b_ h.jst.ok,e1,e2,c1,c2,c3,c4,h.exl,h.lit,l_,l_];rfl
theorem PM.isM_eq(h:PM b m):Gf b.C0 b.E0 b.H0 b.M0 b.J0 b.L0 b.N0 b.B0 m.G0.F0 m.G0.O0 m.G0.K0 m.G0.A0 m.Z0.h0 m.Z0.h1 m.Z0.sel m.S1 m.W0 m.B0 m.R2 m.U1 m.B3 m.T3 m.T2 m.H2=some ((A,()),()):=by
 rw[Xa hw.small hw.code (h.fit hw),h.isMach hw]
theorem An0:PM b (PT b).1∧(PT b).1.G0=GG b:=by
 have hcode:=hw.code;have j0:=Jst.first hcode
 have hcc:=Aj hcode;have hfit:=j0.fits;have hroom:=hw.room;have hs:PT b=((Px b Sto.no 1048576).1,(Px b Sto.no 1048576).2.2):=by unfold PT;rw[hcode];rfl
 rw[hs];rcases Bg8 hw.small j0.ok j0.img (j0.replay hw.small) ω (bud:=1048576) ω with⟨_,q2,q3⟩ | ⟨q1,_⟩
 ·rw[q2]
  have rep:∀{α:Type}{P:α→Prop}{a:α}{n:Nat},P a→∀x∈aC n a,P x:=λh x hx=>by rw[(List.mem_replicate.1 hx).2];exact h
  have he:(GG b).A0=[]:=rfl;refine⟨⟨q3,S_,rep ⟨Bc7 (Alh hcode),e1_ 0,show(0:Int)<4294967296 by decide⟩,S_,λi hi=>?_,S_,rep (MW hw.small),S_,rep (show(0:Int)≤0∧(0:Int)≤4 by decide),S_,b5_ _,?_,i00,i00,i00⟩,rfl⟩
  ·show BelOK b i ((aC b.B0.length VJ).getD i Jz)
   rw[k_,List.getElem?_replicate,if_pos hi];exact BelOK.new hw
  ·intro x hx
   rw[show(Ado b (GG b) { Sto.no.set (1-Sto.no.sel) (txt ((CN (GG b)).flatMap Cr))with sel:=1-Sto.no.sel }).U1=[]from rfl]at hx
   cases hx
 ·omega
omit hw in
theorem Bp0(hm:m.fit):Nz m.G0.F0 m.G0.O0 m.G0.K0 m.G0.A0 m.Z0.h0 m.Z0.h1 m.Z0.sel m.S1 m.W0 m.B0 m.R2 m.U1 m.B3 m.T3 m.T2 m.H2=some (((),()),(m.tup,())):=by
 have hl:Sat (IW (((),(),(m.W0.length:Int),(0:Int),()),(m.tup,Mch.none.tup,()))) λy=>y=(((),(),()),(m.tup,Mch.none.tup,())):=by
  have hbe:=hm.be;unfold IW;refine Sat.loop (λ(k:Nat) z=>∃(i:Nat),z=(((),(),(m.W0.length:Int),(i:Int),()),(m.tup,Mch.none.tup,()))∧i+k=m.W0.length) (λk z hz=>?_) m.W0.length ⟨0,rfl,p_ _⟩ ω
  obtain⟨i,rfl,hk⟩:=hz;show Sat (Pm (m.W0.length:Int) (i:Int) m.G0.F0 m.G0.O0 m.G0.K0 m.G0.A0 m.Z0.h0 m.Z0.h1 m.Z0.sel m.S1 m.W0 m.B0 m.R2 m.U1 m.B3 m.T3 m.T2 m.H2 [] [] [] [] noB noB 0 [] [] [] [] [] [] 0 0 0) _;unfold Pm;refine Sat.bic (λq=>?_) λ_=>Sat.ret rfl
  have q:(i:Int)<(m.W0.length:Int):=m_ q;have hi:i<m.W0.length:=ω
  have w:=CW (n:=i) ω
  have ib:inB (i:Int) m.W0.length=A:=Ac ω q
  have hd:(m.W0.getD i Jz).U0.length≤100000:=hm.du _ (CA _ hi);refine aE ib (aF (show Eg (m.W0.getD (Int.toNat (i:Int)) Jz).U0=some (((m.W0.getD i Jz).U0,()),())from CR _ hd) (aE ib ?_))
  refine Sat.ret ⟨k-1,ω,i+1,?_,ω⟩
  have e:m.W0.set i (Belief.mk (m.W0.getD i Jz).D0 (m.W0.getD i Jz).I0 (m.W0.getD i Jz).E3 (m.W0.getD i Jz).U0 (m.W0.getD i Jz).V2 (m.W0.getD i Jz).N3)=m.W0:=Anw Jz rfl;rw[← w];exact b8_ (λL=>(((),(),(m.W0.length:Int),IntKind.i64.wrap ((i:Int)+1),()),(({ m with W0:=L }:Mch).tup,Mch.none.tup,()))) e
 obtain⟨y,hl,rfl⟩:=hl;have him:=hm.im;unfold Nz;refine Ae (CR m.G0.F0 him.p) (Ae (CR m.G0.O0 him.f) (Ae (CR m.G0.K0 him.l) (Ae (CR m.G0.A0 him.e) (Ae (CR m.S1 hm.co) (Ae (CR m.B0 hm.ca) (Ae (CR m.R2 hm.lo) (Ae (CR m.U1 hm.ex) (Ae (CR m.B3 hm.li) (Ae (CR m.W0 hm.be) (Ae hl rfl))))))))))
def pk0(b:C)(m:Mch)(bud:Int):Pk:=⟨m,bud,0,aC b.B0.length D,aC b.B0.length (Calls.mk 0 0),aC b.B0.length D,⟨0,0,0,0,D,D,0,aC b.B0.length BF⟩⟩
@[reducible] def outP(o:Outputs):=(o.Z3,o.U3,o.L3,o.A3,o.V5,o.L0,o.U5,o.B0,())
def At5:Outputs:=⟨0,0,0,0,D,D,0,[]⟩
def Bfd(b:C)(m:Mch)(s:ByteArray)(bud:Int)(e:Int)(m':Mch)(o:Outputs):Prop:=∃(x:Inp) (t':Pk),((BM b s=0∧InOK b x)∨(BM b s≠0∧x=Inp.none))∧Ec b.C0 b.E0 b.H0 b.M0 b.J0 b.L0 b.N0 b.B0 s=some (((),BM b s,()),(x.tup,()))∧RunR b x (BM b s==0) (pk0 b m bud) t'∧e=t'.e∧(e=0→m'=t'.m∧o=t'.out)∧(e≠0→m'={ Mch.none with Z0:=t'.m.Z0 }∧o=At5)
theorem Bp6(hm:PM b m)(hs:Fr b s)(hb:0≤bud∧bud<9223372036854775808):Sat (HK b.C0 b.E0 b.H0 b.M0 b.J0 b.L0 b.N0 b.B0 m.G0.F0 m.G0.O0 m.G0.K0 m.G0.A0 m.Z0.h0 m.Z0.h1 m.Z0.sel m.S1 m.W0 m.B0 m.R2 m.U1 m.B3 m.T3 m.T2 m.H2 s bud) λy=>∃e m' o,y=(((),(),e,()),(m'.tup,outP o,()))∧Bfd b m s bud e m' o:=by
 have hcc:=Aj hw.code;have hf:=hm.fit hw;obtain⟨x,hrd,hx1,hx2⟩:=Adm hw.small hw.code hs
 have hcap:((decide ((0:Int)≤(b.B0.length:Int))&&decide ((b.B0.length:Int)≤(b.B0.length:Int)))&&decide ((b.B0.length:Int)≤2147483648))=A:=by
  simp only[e_,t_];omega
 unfold HK;refine aF hrd (aE hcap (aE hcap (aE hcap (aE hcap ?_))));refine aF (CR m.S1 hf.co) (aF (CR m.W0 hf.be) (aF (CR m.B0 hf.ca) (aF (CR m.R2 hf.lo) ?_)));have hxx:(BM b s==0)=A→InOK b x:=λh=>hx2 (eq_of_beq h)
 have hr0:PR b (pk0 b m bud):=⟨S_,S_,S_,S_⟩;have hrun:=Bsr hw hxx (t:=pk0 b m bud) hm hr0 ⟨rfl,hb⟩;refine Sat.bindS (Q:=λy=>∃t',y=(((),(),(),()),(Mch.none.tup,outP At5,t'.tup b x (BM b s==0),()))∧RunR b x (BM b s==0) (pk0 b m bud) t') ?_ λy8 h8=>?_
 ·refine Sat.bindS hrun λy6 h6=>?_
  obtain⟨t',e | e,h⟩:=h6
  ·subst e;exact Sat.ret ⟨t',rfl,h⟩
  ·subst e;exact Sat.ret ⟨t',rfl,h⟩
 obtain⟨t',rfl,hR⟩:=h8
 have hxo:(BM b s=0∧InOK b x)∨(BM b s≠0∧x=Inp.none):=by
  by_cases h:BM b s=0
  ·exact .inl ⟨h,hx2 h⟩
  ·exact .inr ⟨h,hx1 h⟩
 refine Sat.bic (λq=>?_) λq=>?_
 ·have q:(t'.e !=0)=A:=q
  have q:t'.e≠0:=by simpa using q
  exact Sat.ret ⟨t'.e,{ Mch.none with Z0:=t'.m.Z0 },At5,rfl,x,t',hxo,hrd,hR,rfl,λh=>absurd h q,λ_=>⟨rfl,rfl⟩⟩
 ·have q:(t'.e !=0)=D:=q
  have q:t'.e=0:=by simpa using q
  exact Sat.ret ⟨0,t'.m,t'.out,rfl,x,t',hxo,hrd,hR,q.symm,λ_=>⟨rfl,rfl⟩,λh=>absurd rfl h⟩
end
inductive Runs(b:Bldg):Mch→List ByteArray→Mch→List Outputs→Prop
 |nil (m:Mch):Runs b m [] m []
 |cons {m m1 m2:Mch}{s:ByteArray}{fs:List ByteArray}{o:Outputs}{os:List Outputs}(h:HK b.C0 b.E0 b.H0 b.M0 b.J0 b.L0 b.N0 b.B0 m.G0.F0 m.G0.O0 m.G0.K0 m.G0.A0 m.Z0.h0 m.Z0.h1 m.Z0.sel m.S1 m.W0 m.B0 m.R2 m.U1 m.B3 m.T3 m.T2 m.H2 s 1048576=some (((),(),0,()),(m1.tup,outP o,()))) (h2:Runs b m1 fs m2 os):Runs b m (s::fs) m2 (o::os)
def Runs.app{m1 m2 m3:Mch}{f g:List ByteArray}{x y:List Outputs}(h:Runs b m1 f m2 x)(k:Runs b m2 g m3 y):Runs b m1 (f++g) m3 (x++y):=by
 induction h with
 |nil m=>exact k
 |cons h _ ih=>exact .cons h (ih k)
def Runs.len{m1 m2:Mch}{f:List ByteArray}{x:List Outputs}(h:Runs b m1 f m2 x):x.length=f.length:=by
 induction h with
 |nil m=>rfl
 |cons _ _ ih=>rw[C_,C_,ih]
section
variable{b:C}(hw:BW b)
include hw
theorem Bib(hm:PM b m)(hs:Fr b s):∃m' o,HK b.C0 b.E0 b.H0 b.M0 b.J0 b.L0 b.N0 b.B0 m.G0.F0 m.G0.O0 m.G0.K0 m.G0.A0 m.Z0.h0 m.Z0.h1 m.Z0.sel m.S1 m.W0 m.B0 m.R2 m.U1 m.B3 m.T3 m.T2 m.H2 s 1048576=some (((),(),0,()),(m'.tup,outP o,()))∧PM b m'∧o.B0.length=b.B0.length∧Bfd b m s 1048576 0 m' o:=by
 obtain⟨y,h,e,m',o,rfl,hR⟩:=Bp6 hw hm hs (bud:=1048576) (by decide)
 have hR':=hR;obtain⟨x,t',_,_,hr,he,h0,h1⟩:=hR;rcases hr.cases hw ⟨rfl,show(0:Int)≤1048576 by decide,show(1048576:Int)<9223372036854775808 by decide⟩with⟨k1,k2,k3,_⟩ | ⟨_,k2⟩
 ·rw[k1]at he
  subst he;obtain⟨rfl,rfl⟩:=h0 rfl;exact⟨_,_,h,k2,k3,hR'⟩
 ·exact absurd (show(1048576:Int)<300000 from k2) (by decide)
end
structure TickF(b:Bldg)(m:Mch)(x:Inp)(g:Bool)(m':Mch)(o:Outputs)(l1 l2:List Record)(u:Mch)(vs:List View)(X:Rnd):Prop where
 fl:∀r∈l1,Zv b r
 op:(g=false∧l2=[])∨(g=true∧∃(i:Nat) (cm:List Bool) (fr:Bool),x.car=(i:Int)∧i<b.B0.length∧cm.length=b.B0.length∧l2=Oj b (AB m.G0 l1) x.kind i cm fr)
 pu:PM b u
 iu:u.G0=AB (AB m.G0 l1) l2
 va:VA b u.G0 g vs
 hX:X=Ga b u.G0 u.U1 vs u.B3 x.press g
 rg:Rg b u.G0 X
 img:m'.G0=X.img
 pm:PM b m'
 oc:o.B0.length=b.B0.length
 cars:∀i,i<b.B0.length→∃c d,Amv X i c d∧FinO m'.G0 i d (o.B0.getD i BF)
 lu:o.Z3=(ofC m'.G0.A0 (0,0)).1
 ld:o.U3=(ofC m'.G0.A0 (0,0)).2
 bad:o.V5=!g
 served:(o.L3,o.A3)=FZ X.recs (0,0)
 full:o.L0=!isZ X.ref
def RunR.fact{t':Pk}(h:RunR b x g (pk0 b m bud) t')(h0:t'.e=0):∃l1 l2 u vs X,TickF b m x g t'.m t'.out l1 l2 u vs X:=by
 have no:∀{u v:Pk}{l:List H},De b u v l→v.e=0→False:=λd e=>by have:=d.e;omega
 obtain⟨t1,t2,l1,m1,r1,f1,hl1,hn1,o2,⟨d,rfl⟩ | ⟨a2,t3,l2,hop,h⟩⟩:=h
 ·exact(no d h0).elim
 rcases h with⟨d,rfl⟩ | ⟨a3,t4,vs,hd,h⟩
 ·exact(no d h0).elim
 rcases h with⟨h8,rfl⟩ | ⟨_,hf⟩
 ·omega
 rcases hd.res with a4 | d
 rotate_left
 ·have:=hf.e
  exact(no d ω).elim
 have i1:t1.m.G0=m.G0:=f1.im;have i2:t2.m.G0=AB m.G0 l1:=by rw[a2.im,i1]
 have out1:t2.out={ (pk0 b m bud).out with B0:=t2.out.B0 }:=by rw[o2,f1.out]
 have out3:∃s,t3.out={ t2.out with U5:=s }:=by
  rcases hop with⟨_,rfl,_⟩ | ⟨_,h⟩
  ·exact⟨t3.out.U5,rfl⟩
  ·obtain⟨_,_,_,_,_,_,_,e⟩:=h.how
   exact⟨_,e⟩
 obtain⟨s,out3⟩:=out3;refine⟨l1,l2,t3.m,vs,Qu b x g t3 vs,hl1,?_,a3.m,by rw[a3.im,i2],hd.va,rfl,hd.rg,by rw[hf.im,a4.im,hd.rg.img],hf.m,hf.oc,λi hi=>?_,?_,?_,?_,?_,?_⟩
 ·rcases hop with⟨h1,_,h2⟩ | ⟨h1,h⟩
  ·exact .inl ⟨h1,h2⟩
  ·obtain⟨i,cm,fr,h2,h3,h4,h5,_⟩:=h.how
   exact .inr ⟨h1,i,cm,fr,h2,h3,h4,by rw[← i2];exact h5⟩
 ·refine⟨_,_,hd.cars i hi,?_⟩
  rw[hf.im];exact hf.cars i hi
 ·rw[hf.out,hf.im]
 ·rw[hf.out,hf.im]
 ·rw[hf.out]
 ·rw[hf.out]
  show(t4.out.L3,t4.out.A3)=_;rw[hd.out,out3,out1];rfl
 ·rw[hf.out]
  show t4.out.L0=_;rw[hd.out]
def Img.fits(b:C)(m:Img):Prop:=m.F0.length=b.B0.length∧m.O0.length=b.B0.length
def ImgOK.fits{m:Img}(h:ImgOK b m):m.fits b:=⟨h.lp,h.lf⟩
section
variable{b:C}{l:List H}(hl:∀r∈l,PA b r){m:Img}(hm:m.fits b){c:Nat}(hc:c<b.B0.length)
include hl hm hc
end
def Bdc(m:Img)(kind:Int){i:Nat}(hi:i<b.B0.length)(cm:List Bool)(fr:Bool):∀r∈Oj b m kind i cm fr,PA b r:=λr hr=>by
 unfold Oj at hr;rcases q_.1 hr with h | h
 ·exact(Am9 m kind hi _ fr).1 r h
 ·exact Afe _ _ _ (z_ _) r h
section
variable{b:C}{m:Img}(hm:m.fits b){kind:Int}{i:Nat}(hi:i<b.B0.length){cm:List Bool}(hcm:cm.length=b.B0.length){fr:Bool}{c:Nat}(hc:c<b.B0.length)
include hm hi hcm hc
end
section
variable{b:C}(hb:b.small)(hcode:b.code=0){m:Img}(hm:ImgOK b m){xs:List Int}(hx:xs.length=m.A0.length)(hxv:inX xs){vs:List View}(ps:List I)(press:Int×Int)(good:Bool)
include hcode hm
variable(hvl:vs.length=b.B0.length)
include hb hx hxv hvl
end
section
variable{b:C}(hw:BW b){m:Mch}{x:Inp}{g:Bool}{m':Mch}{o:Outputs}{l1 l2:List H}{u:Mch}{vs:List View}{X:Rnd}(h:TickF b m x g m' o l1 l2 u vs X)
include hw h
theorem TickF.fits:(AB m.G0 l1).fits b→u.G0.fits b:=λ_=>h.pu.jst.img.fits
end
def Bd5(b:C)(s:ByteArray)(x:Inp)(g:Bool):Prop:=((BM b s=0∧InOK b x)∨(BM b s≠0∧x=Inp.none))∧g=(BM b s==0)∧Ec b.C0 b.E0 b.H0 b.M0 b.J0 b.L0 b.N0 b.B0 s=some (((),BM b s,()),(x.tup,()))
def Bg2(hw:BW b)(hm:PM b m)(hs:Fr b s):∃m' o,EV b.C0 b.E0 b.H0 b.M0 b.J0 b.L0 b.N0 b.B0 m.G0.F0 m.G0.O0 m.G0.K0 m.G0.A0 m.Z0.h0 m.Z0.h1 m.Z0.sel m.S1 m.W0 m.B0 m.R2 m.U1 m.B3 m.T3 m.T2 m.H2 s 1048576=some (((),(),0,()),(m'.tup,outP o,()))∧PM b m'∧∃x g l1 l2 u vs X,Bd5 b s x g∧TickF b m x g m' o l1 l2 u vs X:=by
 obtain⟨m',o,h1,h2,h3,x,t',hx,hrd,hr,he,h0,_⟩:=Bib hw hm hs;obtain⟨l1,l2,u,vs,X,hF⟩:=hr.fact he.symm;obtain⟨e1,e2⟩:=h0 rfl;rw[← e1,← e2]at hF;refine⟨m',o,?_,h2,x,_,l1,l2,u,vs,X,⟨hx,rfl,hrd⟩,hF⟩;unfold EV;exact Ae (hm.isM_eq hw) (Ae (Bp0 (hm.fit hw)) (Ae h1 rfl))
def Ar8(x c:Int×Int):CT c (Aq x c)=(0,0):=by
 have h:∀a d:Int,vb (bv d&&&bv (Abq a d))=0:=λa d=>by
  have e:bv d&&&bv (Abq a d)=0#32:=by
   apply BitVec.eq_of_getLsbD_eq;intro i hi
   have:=BY (a,0) (d,0) (f:=i) hi 1
   have h1:CQ (Abq a d) i=(CQ a i&&!CQ d i):=this;rw[f5_];show(CQ d i&&CQ (Abq a d) i)=_;rw[h1];cases CQ d i<;>cases CQ a i<;>simp
  rw[e];rfl
 exact Prod.ext (h x.1 c.1) (h x.2 c.2)
def Nj(l:List I)(k:Nat):Int×Int:=((l.getD k noP).Up,(l.getD k noP).R3)
def Hp(l:List I):Nat→Int×Int
 |0=>(0,0)
 |k+1=>By (Hp l k) (Nj l k)
def Ahy{l:List I}(r:List I)(h:k<l.length):(l++r).getD k noP=l.getD k noP:=by
 rw[k_,k_,c3_ h]
def Aaq{l:List I}(r:List I):∀k,k≤l.length→Hp (l++r) k=Hp l k
 |0,_=>rfl
 |k+1,h=>by
  show By (Hp (l++r) k) (Nj (l++r) k)=By (Hp l k) (Nj l k);rw[Aaq r k ω]
  unfold Nj;rw[Ahy r ω]
structure Apart(s:Lan):Prop where
 cl:Hp s.lit s.lit.length=s.cl
 ap:∀k,k<s.lit.length→CT (Hp s.lit k) (Nj s.lit k)=(0,0)
def Apart.step{vs:List View}{ps:List I}{s:Lan}(h:Apart s)(i:Nat):Apart (Kb b vs ps i s):=by
 have hn:Nj (s.lit++[Calls.mk (Mm b vs i s).1 (Mm b vs i s).2]) s.lit.length=Mm b vs i s:=by
  unfold Nj;rw[k_,c9_ (z_ _),Nat.sub_self];rfl
 refine⟨?_,λk hk=>?_⟩
 ·show Hp (s.lit++[_]) (s.lit++[_]).length=By s.cl (Mm b vs i s)
  rw[h_];show By (Hp (s.lit++[_]) s.lit.length) (Nj (s.lit++[_]) s.lit.length)=_;rw[Aaq _ _ (z_ _),h.cl,hn]
 ·have hk:k<(s.lit++[Calls.mk (Mm b vs i s).1 (Mm b vs i s).2]).length:=hk
  rw[h_,J_]at hk;show CT (Hp (s.lit++[_]) k) (Nj (s.lit++[_]) k)=_;rw[Aaq _ _ ω]
  by_cases e:k<s.lit.length
  ·rw[show Nj (s.lit++[Calls.mk (Mm b vs i s).1 (Mm b vs i s).2]) k=Nj s.lit k by unfold Nj;rw[Ahy _ e]]
   exact h.ap k e
  ·obtain rfl:k=s.lit.length:=ω
   rw[hn,h.cl];exact Ar8 _ _
def Apart.fold{b:C}{vs:List View}{ps:List I}:∀(n i:Nat) {s:Lan},Apart s→Apart (AK (Kb b vs ps) n i s)
 |0,_,_,h=>h
 |n+1,i,_,h=>Apart.fold n (i+1) (h.step i)
def Bcs(n k:Nat):Nj (aC n noP) k=(0,0):=by
 unfold Nj;rw[k_,List.getElem?_replicate];split<;>rfl
def Bbg{n0 n1 n2:Nat}(h1:n1<256)(h2:n2<256):BW (FF (Hz n0) (Hq n0) n1 n2):=by
 have hf:(2≤Hz n0∧Hz n0≤6)∧1≤Hq n0∧Hq n0≤3:=by unfold Hz Hq;omega
 obtain⟨g1,g2,g3,_,_,g6⟩:=Aog (n1:=n1) (n2:=n2) hf.1 hf.2 h1 h2;have hl:(arF .sub .f64 (AM 2 1).L0 4589168020290535424).isSome=A∧(arF .sub .f64 (AM 2 1).N0 4589168020290535424).isSome=A:=by decide+kernel
 obtain⟨a,ha⟩:=Option.isSome_iff_exists.1 hl.1;obtain⟨c,hc⟩:=Option.isSome_iff_exists.1 hl.2;exact⟨g1,g2,g6,⟨a,ha,trivial⟩,⟨c,hc,trivial⟩⟩
def Bsj{n0 n1 n2:Int}(h0:0≤n0∧n0<256)(h1:0≤n1∧n1<256)(h2:0≤n2∧n2<256):∃b:C,EU n0 n1 n2=some (((),()),(b.tup,()))∧BW b∧(∃y,HD b.C0 b.E0 b.H0 b.M0 b.J0 b.L0 b.N0 b.B0=some (y,((PT b).1.tup,())))∧PM b (PT b).1:=by
 obtain⟨k0,rfl⟩:=e9_ h0.1;obtain⟨k1,rfl⟩:=e9_ h1.1;obtain⟨k2,rfl⟩:=e9_ h2.1;have hw:=Bbg (n0:=k0) (n1:=k1) (n2:=k2) ω ω
 exact⟨_,ZK (n0:=k0) (n1:=k1) (n2:=k2) ω ω ω,hw,⟨_,Ann hw.small hw.code⟩,(An0 hw).1⟩
def Aht{S:Type}(f:Nat→S→S):∀(k i:Nat) (s:S),AK f (k+1) i s=f (i+k) (AK f k i s)
 |0,_,_=>rfl
 |k+1,i,s=>by
  show AK f (k+1) (i+1) (f i s)=_;rw[Aht f k (i+1),show i+1+k=i+(k+1)by omega]
  rfl
def Aj8(a:Nat)(s:ByteArray):bl (tl a s)=(bl s).drop a:=by
 unfold tl;rw[Rr,← Gg s];exact b1_ (by rw[Z_];exact z_ _)
def Bkx(a i:Nat)(s:ByteArray):byN (tl a s) i=byN s (a+i):=by
 unfold byN;rw[Aj8,k_,k_,c5_]
def Rf(a c:Nat)(s:ByteArray):tl a (tl c s)=tl (c+a) s:=by
 apply Nq;rw[Aj8,Aj8,Aj8,List.drop_drop]
def Uq(a i:Nat)(s:ByteArray):AF s (a+i)=AF (tl a s) i:=by
 rw[FR,FR];exact b8_ Int.ofNat (Bkx a i s).symm
def Tc(s:ByteArray)(a:Nat):∀k,Zg s a k=leV (tl a s) k
 |0=>rfl
 |k+1=>by
  show AK (Bd2 s a) (k+1) 0 0=_;rw[Aht,p_];show At7 (Zg s a k) _=orL (leV (tl a s) k) _;rw[Tc s a k,Uq,show Int.toNat (8*(k:Int))=8*k by omega]
  rfl
def rdC(c:aD):aD:=CarInput.mk (aA aG c.V0) c.T1 c.F1 c.G1 c.C1 c.J1 c.L1 c.R1 c.M1 (aA aG c.Y1) (c.C3%2^64)
def XO(n:Int)(k:Nat):Bool:=IntKind.u8.wrap (stk (Int.fdiv n ((2:Int)^min k (IntKind.bits .u8))) 1 (BitVec.toNat ((BitVec.ofInt (IntKind.bits IntKind.u8) (Int.fdiv n ((2:Int)^min k (IntKind.bits .u8))))&&&(BitVec.ofInt (IntKind.bits IntKind.u8) 1))))==1
def Bra(a b c d e f:Bool):(0≤AK (Pu [a,b,c,d,e,f]) 6 0 0∧AK (Pu [a,b,c,d,e,f]) 6 0 0<64)∧XO (AK (Pu [a,b,c,d,e,f]) 6 0 0) 0=a∧XO (AK (Pu [a,b,c,d,e,f]) 6 0 0) 1=b∧XO (AK (Pu [a,b,c,d,e,f]) 6 0 0) 2=c∧XO (AK (Pu [a,b,c,d,e,f]) 6 0 0) 3=d∧XO (AK (Pu [a,b,c,d,e,f]) 6 0 0) 4=e∧XO (AK (Pu [a,b,c,d,e,f]) 6 0 0) 5=f:=by
 cases a<;>cases b<;>cases c<;>cases d<;>cases e<;>cases f<;>decide+kernel
def Bh0(n:Nat):nmB ((n%2^64:Nat):Int) 8=nmB (n:Int) 8:=by
 unfold nmB Abs;congr 1;refine List.map_congr_left λi hi=>?_
 have hi:=List.mem_range.1 hi;rw[V_ _ (Int.le_of_lt (Int.pow_pos (by decide))),V_ _ (Int.le_of_lt (Int.pow_pos (by decide)))]
 have e:IntKind.u8.wrap=λm:Int=>m%256:=by funext m;simp only[aA,IntKind.signed,IntKind.bits];simp
 rw[e];have h:i=0∨i=1∨i=2∨i=3∨i=4∨i=5∨i=6∨i=7:=ω
 rcases h with rfl | rfl | rfl | rfl | rfl | rfl | rfl | rfl
 ·show((n%18446744073709551616:Nat):Int)/1%256=(n:Int)/1%256;omega
 ·show((n%18446744073709551616:Nat):Int)/256%256=(n:Int)/256%256;omega
 ·show((n%18446744073709551616:Nat):Int)/65536%256=(n:Int)/65536%256;omega
 ·show((n%18446744073709551616:Nat):Int)/16777216%256=(n:Int)/16777216%256;omega
 ·show((n%18446744073709551616:Nat):Int)/4294967296%256=(n:Int)/4294967296%256;omega
 ·show((n%18446744073709551616:Nat):Int)/1099511627776%256=(n:Int)/1099511627776%256;omega
 ·show((n%18446744073709551616:Nat):Int)/281474976710656%256=(n:Int)/281474976710656%256;omega
 ·show((n%18446744073709551616:Nat):Int)/72057594037927936%256=(n:Int)/72057594037927936%256;omega
section
variable{b:C}(hb:b.small)
include hb
theorem Ayt{n:Int}(h:flV b n=A):aB.wrap (aA aG n)=aB.wrap n:=by
 obtain⟨h3,h4⟩:C2 b.C0 (aA aB n):=Acd.1 h;have h2:=An5 hb;have e1:aB.wrap n=n%18446744073709551616:=by simp only[aA,IntKind.signed,IntKind.bits];simp
 have e2:aG.wrap n=n%4294967296:=by simp only[aA,IntKind.signed,IntKind.bits];simp
 rw[CI ω ω,e2,e1]
 omega
theorem Az3{c:aD}(h:Fa b c=A):Fa b (rdC c)=A∧∀t,Jh t (rdC c)=Jh t c:=by
 unfold Fa at h⊢;simp only[e_]at h;have e1:=Ayt hb h.1;have e2:=Ayt hb h.2.1;refine⟨?_,λt=>?_⟩
 ·unfold rdC flV
  simp only[e1,e2];have h1:=h.1;have h2:=h.2.1;unfold flV at h1 h2;rw[h1,h2,h.2.2.1,h.2.2.2];rfl
 ·unfold Jh rdC
  simp only[e1,e2,Bh0]
theorem Aha{a:Nat}{c:aD}(hc:Fa b c=A){l:List aD}{R:ByteArray}(h:tl a s=KN (c::l)++R):XS s a=rdC c∧tl (a+19) s=KN l++R:=by
 have lo:=hb.lo;have hi:=hb.hi;unfold Fa at hc;simp only[e_,Ao]at hc;obtain⟨_,_,h3,h4⟩:=hc;rw[Zb]at h;simp only[f4_]at h;have u:∀n:Int,0≤n∧n<256→aB.wrap n=n:=λn h=>CI h.1 ω
 have t4:=(Rf 4 a s).symm.trans ((b8_ (tl 4) h).trans (Er (AR _ 4) _));have t5:=(Rf 1 (a+4) s).symm.trans ((b8_ (tl 1) t4).trans (Er (Pw _) _));have t6:=(Rf 1 (a+5) s).symm.trans ((b8_ (tl 1) t5).trans (Er (AR _ 1) _));have t7:=(Rf 1 (a+6) s).symm.trans ((b8_ (tl 1) t6).trans (Er (AR _ 1) _));have t11:=(Rf 4 (a+7) s).symm.trans ((b8_ (tl 4) t7).trans (Er (AR _ 4) _));have t19:=(Rf 8 (a+11) s).symm.trans ((b8_ (tl 8) t11).trans (Er (AR _ 8) _));refine⟨?_,t19⟩;obtain⟨g0,g1,g2,g3,g4,g5,g6⟩:=Bra c.T1 c.F1 c.G1 c.C1 c.L1 c.M1
 have hbit:∀k,VZ s (a+4) k=XO (AK (Pu [c.T1,c.F1,c.G1,c.C1,c.L1,c.M1]) 6 0 0) k:=λk=>by
  have e:AF s (a+4)=AK (Pu [c.T1,c.F1,c.G1,c.C1,c.L1,c.M1]) 6 0 0:=by
   rw[show a+4=(a+4)+0 from rfl,Uq,t4,FR]
   exact Ot (n:=AK (Pu [c.T1,c.F1,c.G1,c.C1,c.L1,c.M1]) 6 0 0) ω _
  unfold VZ XO;rw[e]
 have hby:∀(k:Nat) {n:Int}{r:ByteArray},tl (a+k) s=nmB (aA aB n) 1++r→0≤n∧n<256→IntKind.i64.wrap (AF s (a+k))=n:=λk n r ht hn=>by
  rw[show a+k=(a+k)+0 from rfl,Uq,ht,FR,u n hn]
  have e:(((bl (nmB n 1++r)).getD 0 0).toNat:Int)=n:=Ot hn r;rw[e];exact Aa ω ω
 unfold XS rdC;rw[hbit,hbit,hbit,hbit,hbit,hbit,g1,g2,g3,g4,g5,g6,hby 5 t5 ω,hby 6 t6 ω,Tc,Tc,Tc,h,t7,t11,OC,OC,Amp _ (by decide) ω,i_,i_]
end
def Ano{b:C}(hb:b.small){s R:ByteArray}:∀{l:List aD}{a:Nat},(∀c∈l,Fa b c=A)→tl a s=KN l++R→∀i,i<l.length→XS s (a+19*i)=rdC (l.getD i RQ)
 |c::l,a,hl,h,0,_=>(Aha hb (hl c (s_ ..)) h).1
 |c::l,a,hl,h,i+1,hi=>by
  have h2:=(Aha hb (hl c (s_ ..)) h).2
  have:=Ano hb (l:=l) (a:=a+19) (λx hx=>hl x (x_ _ hx)) h2 i (by rw[C_]at hi;omega)
  rw[show a+19*(i+1)=a+19+19*i by omega,this]
  rfl
def Aqp{b:C}(hb:b.small):∀{l:List aD}(t:ByteArray),(∀c∈l,Fa b c=A)→(l.map rdC).foldl Jh t=l.foldl Jh t
 |[],_,_=>rfl
 |c::l,t,h=>by
  rw[c1_,f1_,f1_,(Az3 hb (h c (s_ ..))).2];exact Aqp hb _ λx hx=>h x (x_ _ hx)
def Inp.ext'{y:Inp}(h:x.tup=y.tup):x=y:=by
 obtain⟨⟨_,_⟩,_,_,_⟩:=x;obtain⟨⟨_,_⟩,_,_,_⟩:=y;unfold Inp.tup at h;simp only[g0_,and_true]at h;obtain⟨rfl,rfl,rfl,rfl,rfl⟩:=h;rfl
def Auf(hb:b.small)(hcode:b.code=0)(hx:HA b x=A)(hu:Ey x.press)(ho:BM b (inV b x)=0):WZ b (inV b x)=(⟨x.press,x.kind,x.car,x.cars.map rdC⟩,0):=by
 have hc:=Aj hcode;have hx0:=hx;unfold HA at hx;simp only[e_,R_]at hx;obtain⟨h1,h2,h3,h4,h5,h6⟩:=hx;have h2':=Ao.1 h2;have h3':=Ao.1 h3;have hv:∀c∈x.cars,Fa b c=A:=E_.1 h6;have u:∀n:Int,0≤n∧n<256→aB.wrap n=n:=λn h=>CI h.1 ω
 have es:inV b x=(nmB 165 1++nmB (aA aB (b.B0.length:Int)) 1)++(Qo x++Xd (x.cars.foldl Jh (QV b x))):=by
  unfold inV Hf;rw[WD];unfold QV Ru Qo;simp only[f4_]
 have t2:=(b8_ (tl 2) es).trans (Er (show _=2 by rw[O_,AR,AR]) _)
 unfold Qo at t2;simp only[f4_]at t2;have t6:=(Rf 4 2 (inV b x)).symm.trans ((b8_ (tl 4) t2).trans (Er (AR _ 4) _));have t10:=(Rf 4 6 (inV b x)).symm.trans ((b8_ (tl 4) t6).trans (Er (AR _ 4) _));have t11:=(Rf 1 10 (inV b x)).symm.trans ((b8_ (tl 1) t10).trans (Er (AR _ 1) _));have t12:=(Rf 1 11 (inV b x)).symm.trans ((b8_ (tl 1) t11).trans (Er (AR _ 1) _))
 have hby:∀(k:Nat) {n:Int}{r:ByteArray},tl k (inV b x)=nmB (aA aB n) 1++r→0≤n∧n<256→IntKind.i64.wrap (AF (inV b x) k)=n:=λk n r ht hn=>by
  rw[show k=k+0 from rfl,Uq,ht,FR,u n hn]
  have e:(((bl (nmB n 1++r)).getD 0 0).toNat:Int)=n:=Ot hn r;rw[e];exact Aa ω ω
 have er:RU b.B0.length (inV b x)=⟨x.press,x.kind,x.car,x.cars.map rdC⟩:=by
  unfold RU Akl;rw[Tc,Tc,t2,t6,OC,OC,RI hu.1,RI hu.2,hby 10 t10 ω,hby 11 t11 ω]
  congr 1;have hlen:x.cars.length=b.B0.length:=ω
  refine List.ext_getElem (by rw[b5_,b5_,List.length_range,hlen]) λi h1 h2=>?_
  have hi:i<x.cars.length:=by rw[b5_]at h2;exact h2
  rw[aI,aI,List.getElem_range,Ano hb hv t12 i hi,k_,j_ hi];rfl
 have e1:HA b ⟨x.press,x.kind,x.car,x.cars.map rdC⟩=A:=by
  unfold HA;simp only[h1,h2,h3,h4,b5_,h5,l_,n_];refine E_.2 λc hc=>?_
  obtain⟨d,hd,rfl⟩:=b6_.1 hc;exact(Az3 hb (hv d hd)).1
 have e2:inV b ⟨x.press,x.kind,x.car,x.cars.map rdC⟩=inV b x:=by
  unfold inV;exact b8_ Hf (Aqp hb _ hv)
 unfold WZ;rw[ho,er,e1,e2,Aqh.2 rfl];rfl
def Bdi(hb:b.small)(hcode:b.code=0)(hs:Fr b s)(hx:Bd5 b s x g):∃z:Inp,JJ b.C0 b.E0 b.H0 b.M0 b.J0 b.L0 b.N0 b.B0 s=some (((),BM b s,()),(z.tup,()))∧z.press=x.press∧z.kind=x.kind∧z.car=x.car:=by
 have hc:=Aj hcode;obtain⟨x0,⟨hm,hu⟩,hf⟩:=hs
 have hxl:x0.cars.length=b.B0.length:=by
  unfold HA at hm;simp only[e_,R_]at hm;omega
 have hz:s.size≤1000000:=by rw[hf.1,WL];omega
 have hr:=Ajt hb hcode s hz;by_cases ho:BM b s=0
 ·have e:=Fr.good hf ho
  subst e;rw[Auf hb hcode hm hu ho]at hr;obtain⟨hd,e1,e2,e3⟩:=Avd hb hcode hm;have h:=RY hb hcode hz ho (by rw[Zw];exact hd)
  rw[Zw,hx.2.2]at h
  have hx':x=hdP b.B0.length (Qo x0):=by
   apply Inp.ext'
   have:=L_ h
   exact(Prod.mk.inj (Prod.mk.inj this).2).1
  rw[ho];refine⟨_,hr,?_,?_,?_⟩
  ·rw[hx',e1,RI hu.1,RI hu.2]
  ·rw[hx',e2]
  ·rw[hx',e3]
 ·have e:WZ b s=(Inp.none,BM b s):=by
   unfold WZ;rw[FG ho];rfl
  rw[e]at hr;rcases hx.1 with⟨h,_⟩ | ⟨_,rfl⟩
  ·exact absurd h ho
  ·exact⟨Inp.none,hr,rfl,rfl,rfl⟩
def Hi(c:Int×Int)(r:H):Int×Int:=
 bif r.R0==2 then Aq (bif r.R0==1 then By c (DI r.D0 r.I0)else c) (DI r.D0 r.I0)else(bif r.R0==1 then By c (DI r.D0 r.I0)else c)
def Baj(h:Ey c)(r:H):Ey (Hi c r):=by
 unfold Hi;cases r.R0==2 with
 |true=>exact Kk _ _
 |false=>
  cases r.R0==1 with
  |true=>exact OD _ _
  |false=>exact h
def Acc(c:Int×Int)(m:Img):Prop:=∀f:Nat,f<32→∀d:Int,(d=1∨d=2)→(B c f d=A↔((f:Int),d)∈m.A0.map BT)
def Agf(p:Int×Int):¬ltC p p:=λh=>by unfold ltC at h;omega
def Bhf{l:List (Int×Int)}(hs:l.Pairwise ltC)(hk:k<l.length)(p:Int×Int):p∈l.take k++l.drop (k+1)↔p∈l∧p≠l[k]:=by
 have e:l=l.take k++l[k]::l.drop (k+1):=by
  rw[← h3_ hk,List.take_append_drop]
 have hs':=hs;rw[e]at hs';obtain⟨_,h2,h3⟩:=f9_.1 hs';obtain⟨h4,_⟩:=e6_.1 h2;constructor
 ·intro h
  rcases q_.1 h with h | h
  ·exact⟨d9_ h,λq=>Agf _ (q▸h3 p h l[k] (s_ ..))⟩
  ·exact⟨e0_ h,λq=>Agf _ (q▸h4 p h)⟩
 ·rintro⟨h,hne⟩
  rw[e]at h;rcases q_.1 h with h | h
  ·exact q_.2 (.inl h)
  ·rcases r_.1 h with h | h
   ·exact absurd h hne
   ·exact q_.2 (.inr h)
def Art(hb:b.small){m:Img}(ha:Acc c m)(hm:ImgOK b m){r:H}(hv:Au b r=A):Acc (Hi c r) (AC m r):=by
 intro f hf d hd;have h0:=ha f hf d hd;have hk:=(Vp hv).2
 have hcall:(r.R0=1∨r.R0=2)→(0≤r.D0∧r.D0<32)∧(r.I0=1∨r.I0=2):=λh=>by
  have lo:=hb.lo;have hi:=hb.hi
  have hc:Am b r.D0 r.I0=A:=by
   rcases hk with q | q | q | q | q | q | q
   ·exact q.2.1
   ·exact q.2.1
   all_goals omega
  unfold Am NQ at hc;simp only[e_,Y_,R_,Ao]at hc;omega
 have hone:(r.R0=1∨r.R0=2)→(B (DI r.D0 r.I0) f d=A↔((f:Int),d)=(r.D0,r.I0)):=λh=>by
  obtain⟨h1,h2⟩:=hcall h;rw[Me h1 h2 f hd,t_]
 have same:∀l:List Entry,l.map BT=m.A0.map BT→¬r.R0=1→¬r.R0=2→(B (Hi c r) f d=A↔((f:Int),d)∈l.map BT):=λl hl h1 h2=>by
  unfold Hi;rw[An h1,An h2,hl];exact h0
 unfold AC;by_cases k4:r.R0=4
 ·rw[show(r.R0==4)=A by rw[k4];rfl]
  exact same _ rfl ω ω
 rw[An k4,c_];by_cases k5:r.R0=5
 ·rw[show(r.R0==5)=A by rw[k5];rfl]
  exact same _ rfl ω ω
 rw[An k5,c_];by_cases k6:r.R0=6
 ·rw[show(r.R0==6)=A by rw[k6];rfl]
  exact same _ rfl ω ω
 rw[An k6,c_];rcases SE r.D0 r.I0 m.A0 0 with⟨h1,h2⟩ | ⟨k,h1,h2,h3⟩
 ·rw[h1,show((-1:Int)==-1)=A from rfl,d_]
  by_cases k1:r.R0=1
  ·rw[show(r.R0==1)=A by rw[k1];rfl,d_]
   have hins:=WN (c:=⟨r.D0,r.I0,-1,0,D⟩) h2;show _↔((f:Int),d)∈(Hr ⟨r.D0,r.I0,-1,0,D⟩ D m.A0).map BT;rw[hins];unfold Hi;rw[k1];simp only[show((1:Int)==2)=D from rfl,l_,d_,c_]
   rw[GF,Y_,h0,hone (.inl k1)];generalize AA ⟨r.D0,r.I0,-1,0,D⟩ m.A0=p
   conv=>lhs;rw[← List.take_append_drop p m.A0]
   simp only[List.map_append,q_,c1_,List.map_nil,P_,BT];constructor
   ·rintro((h | h) | h)
    ·exact .inl (.inl h)
    ·exact .inr h
    ·exact .inl (.inr h)
   ·rintro((h | h) | h)
    ·exact .inl (.inl h)
    ·exact .inr h
    ·exact .inl (.inr h)
  ·rw[An k1,c_]
   by_cases k2:r.R0=2
   ·unfold Hi
    rw[k2];simp only[show((2:Int)==1)=D from rfl,l_,d_,c_]
    rw[BY _ _ hf,e_,h0,a8_,← Bool.not_eq_true,hone (.inr k2)];refine⟨λh=>h.1,λh=>⟨h,λq=>?_⟩⟩
    obtain⟨e,he,hq⟩:=b6_.1 h
    have:=h2 e he
    rw[Aqt.2 (hq.trans q)]at this;cases this
   ·exact same _ rfl k1 k2
 ·rw[p_]at h2
  rw[h2,An (ω:¬(k:Int)=-1),c_,i_]
  have hkc:BT (m.A0.getD k noE)=(r.D0,r.I0):=Aqt.1 h3;have hget:m.A0.getD k noE=m.A0[k]:=by simp[h1]
  by_cases k2:r.R0=2
  ·rw[show(r.R0==2)=A by rw[k2];rfl,d_]
   show _↔((f:Int),d)∈(m.A0.take k++m.A0.drop (k+1)).map BT;have hd1:=Bhf (l:=m.A0.map BT) hm.so (k:=k) (by rw[b5_];exact h1) ((f:Int),d)
   rw[List.map_append,List.map_take,List.map_drop,hd1,aI,← hget,hkc];unfold Hi;rw[k2];simp only[show((2:Int)==1)=D from rfl,l_,d_,c_]
   rw[BY _ _ hf,e_,h0,a8_,← Bool.not_eq_true,hone (.inr k2)]
  ·rw[An k2,c_]
   by_cases k1:r.R0=1
   ·rw[k1]
    simp only[show((1:Int)==3)=D from rfl,show((1:Int)==7)=D from rfl,c_]
    unfold Hi;rw[k1];simp only[show((1:Int)==2)=D from rfl,l_,d_,c_]
    rw[GF,Y_,h0,hone (.inl k1)];refine⟨λh=>?_,λh=>.inl h⟩
    rcases h with h | h
    ·exact h
    ·rw[h,← hkc]
     exact b6_.2 ⟨_,CA noE h1,rfl⟩
   ·by_cases k3:r.R0=3
    ·rw[show(r.R0==3)=A by rw[k3];rfl,d_]
     exact same _ (TJ h1 rfl) k1 k2
    ·rw[An k3,c_]
     by_cases k7:r.R0=7
     ·rw[show(r.R0==7)=A by rw[k7];rfl,d_]
      exact same _ (TJ h1 rfl) k1 k2
     ·rw[An k7,c_]
      exact same _ rfl k1 k2
def XJ{b:C}(hb:b.small):∀(rs:List H) {c:Int×Int}{m:Img},Acc c m→Ey c→ImgOK b m→(∀r∈rs,Au b r=A)→Acc (rs.foldl Hi c) (AB m rs)∧Ey (rs.foldl Hi c)∧ImgOK b (AB m rs)
 |[],_,_,h,hu,hm,_=>⟨h,hu,hm⟩
 |r::t,_c,_m,h,hu,hm,hv=>XJ hb t (Art hb h hm (hv r (s_ ..))) (Baj hu r) (Oo hm (hv r (s_ ..))).1 λx hx=>hv x (x_ _ hx)
def Mh(was:Int×Int)(X:Rnd):Int×Int:=X.recs.foldl Hi was
def Ahv:∀{l:List H}(c:Int×Int),(∀r∈l,r.R0=3∨r.R0=7)→l.foldl Hi c=c
 |[],_,_=>rfl
 |r::t,c,h=>by
  have hr:=h r (s_ ..)
  have:Hi c r=c:=by
   unfold Hi;rw[An (ω:¬r.R0=2),An (ω:¬r.R0=1)];rfl
  rw[f1_,this];exact Ahv c λx hx=>h x (x_ _ hx)
def Ad1(b:C)(vs:List View)(ps:List I){f:Nat}(hf:f<32)(d:Int):∀(k i:Nat) (s:Lan),i+k=vs.length→B (AK (Kb b vs ps) k i s).cl f d=(B s.cl f d||(vs.drop i).any λv=>B (CZ b v) f d)
 |0,i,s,hi=>by rw[show i=vs.length by omega,a5_];simp[AK]
 |k+1,i,s,hi=>by
  show B (AK (Kb b vs ps) k (i+1) (Kb b vs ps i s)).cl f d=_;rw[Ad1 b vs ps hf d k (i+1) _ ω,BU noV (ω:i<vs.length),List.any_cons]
  show(B (By s.cl (Mm b vs i s)) f d||_)=_
  unfold Mm;rw[GF,BY _ _ hf];cases B s.cl f d<;>cases B (CZ b (vs.getD i noV)) f d<;>rfl
def Aib(b:C)(vs:List View)(ps:List I)(hf:f<32)(d:Int):B (CK b vs ps).cl f d=Je b vs (f:Int) d:=by
 unfold CK Je;rw[Ad1 b vs ps hf d vs.length 0 Lan.none ω,Q_,i_]
 show(B (0,0) f d||_)=_
 rw[EZ,g6_]
def Aiw(b:C)(vs:List View){f:Nat}(hf:f<32){d:Int}(hd:d=1∨d=2):∀{l:List Entry}{c:Int×Int},(∀e∈l,QS e)→(B ((CV b vs l).foldl Hi c) f d=A↔B c f d=A∧¬(((f:Int),d)∈l.map BT∧Je b vs (f:Int) d=A))
 |[],c,_=>by simp[CV]
 |e::t,c,h=>by
  have he:=h e (s_ ..);have ht:=λx hx=>h x (x_ _ hx)
  have e0:CV b vs (e::t)=(bif Je b vs e.D0 e.I0 then [Record.mk 2 e.D0 e.I0 0 0]else [])++CV b vs t:=rfl;rw[e0,aH,Aiw b vs hf hd ht,c1_,r_];cases hs:Je b vs e.D0 e.I0 with
  |false=>
   show B c f d=A∧_↔_;constructor
   ·rintro⟨h1,h2⟩
    refine⟨h1,λhh=>h2 ⟨?_,hh.2⟩⟩
    rcases hh.1 with hh1 | hh1
    ·obtain⟨q1,q2⟩:=Prod.mk.inj (show((f:Int),d)=(e.D0,e.I0)from hh1)
     rw[q1,q2,hs]at hh;cases hh.2
    ·exact hh1
   ·rintro⟨h1,h2⟩
    exact⟨h1,λhh=>h2 ⟨.inr hh.1,hh.2⟩⟩
  |true=>
   have hw:List.foldl Hi c [Record.mk 2 e.D0 e.I0 0 0]=Aq c (DI e.D0 e.I0):=rfl;rw[d_,hw,BY _ _ hf,Me he.1 he.2 f hd,e_,a8_,decide_eq_false_iff_not];constructor
   ·rintro⟨⟨h1,h2⟩,h3⟩
    refine⟨h1,λhh=>h3 ⟨?_,hh.2⟩⟩
    rcases hh.1 with hh1 | hh1
    ·exact absurd hh1 h2
    ·exact hh1
   ·rintro⟨h1,h2⟩
    refine⟨⟨h1,λhq=>h2 ⟨.inl hq,?_⟩⟩,λhh=>h2 ⟨.inr hh.1,hh.2⟩⟩
    obtain⟨q1,q2⟩:=Prod.mk.inj hq;rw[q1,q2];exact hs
def Azj{b:C}:∀{l:List Entry}{X:Rnd},KM b X.img=D→(Eo b l X).img=X.img
 |[],_,_=>rfl
 |e::t,X,h=>by
  have e1:(Cs b e X).img=X.img:=by unfold Cs;rw[h];rfl
  show(Eo b t (Cs b e X)).img=X.img;rw[Azj (by rw[e1];exact h),e1]
structure RegBits(b:Bldg)(was:Int×Int)(l:List Entry)(X:Rnd):Prop where
 bits:∀f:Nat,f<32→∀d:Int,(d=1∨d=2)→(Ak (Mh was (Eo b l X)) f d=true↔Ak (Mh was X) f d=true∨(((f:Int),d)∈l.map BT∧Ak (Eo b l X).ref f d=false))
 up:∀f:Nat,f<32→∀d:Int,(d=1∨d=2)→Ak X.ref f d=true→Ak (Eo b l X).ref f d=true
 down:∀f:Nat,f<32→∀d:Int,(d=1∨d=2)→Ak (Eo b l X).ref f d=true→Ak X.ref f d=true∨((f:Int),d)∈l.map BT
 u32:Ey X.ref→Ey (Eo b l X).ref
 room:(Eo b l X).ref=X.ref∨KM b (Eo b l X).img=false
def Ab0{b:C}{was:Int×Int}:∀{l:List Entry}{X:Rnd},(∀e∈l,QS e)→(l.map BT).Pairwise ltC→(∀e∈l,B X.ref e.D0.toNat e.I0=D)→RegBits b was l X
 |[],X,_,_,_=>⟨λf _ d _=>by simp[Eo],λ_ _ _ _ h=>h,λ_ _ _ _ h=>.inl h,λh=>h,.inl rfl⟩
 |e::t,X,hc,hp,hr=>by
  have he:=hc e (s_ ..);have hct:=λx hx=>hc x (x_ _ hx)
  rw[c1_]at hp;obtain⟨hp1,hp2⟩:=e6_.1 hp;have hne:(e.D0,e.I0)∉t.map BT:=λh=>Agf _ (hp1 _ h)
  have h0:=hr e (s_ ..);have hrt:=λx hx=>hr x (x_ _ hx)
  have hR:Eo b (e::t) X=Eo b t (Cs b e X):=rfl;cases hroom:KM b X.img with
  |true=>
   have e1:Cs b e X=Ra (YM e) X:=by unfold Cs;rw[hroom];rfl
   have e2:(Cs b e X).ref=X.ref:=by rw[e1];rfl
   have e3:Mh was (Cs b e X)=By (Mh was X) (DI e.D0 e.I0):=by
    rw[e1];unfold Mh Ra;simp only;rw[aH];rfl
   have ih:=Ab0 (b:=b) (was:=was) (X:=Cs b e X) hct hp2 (by rw[e2];exact hrt)
   have iu:=ih.up;have idn:=ih.down;have iu32:=ih.u32;have irm:=ih.room;rw[e2]at iu idn iu32 irm;rw[← hR]at iu idn iu32 irm;refine⟨λf hf d hd=>?_,iu,λf hf d hd h=>(idn f hf d hd h).imp id (x_ _),iu32,irm⟩
   have hb:=ih.bits f hf d hd;rw[← hR,e3,GF,Me he.1 he.2 f hd,Y_,t_]at hb;rw[hb,c1_,r_];constructor
   ·rintro((h | h) | ⟨h1,h2⟩)
    ·exact .inl h
    ·refine .inr ⟨.inl h,?_⟩
     cases hq:B (Eo b (e::t) X).ref f d with
     |false=>rfl
     |true=>
      obtain⟨q1,q2⟩:=Prod.mk.inj h;rcases idn f hf d hd hq with hh | hh
      ·rw[show f=e.D0.toNat by omega,q2,h0]at hh;cases hh
      ·rw[h]at hh;exact absurd hh hne
    ·exact .inr ⟨.inr h1,h2⟩
   ·rintro(h | ⟨h1 | h1,h2⟩)
    ·exact .inl (.inl h)
    ·exact .inl (.inr h1)
    ·exact .inr ⟨h1,h2⟩
  |false=>
   have e1:Cs b e X=⟨X.recs,X.img,X.xs,X.lan,By X.ref (DI e.D0 e.I0)⟩:=by unfold Cs;rw[hroom];rfl
   have e2:(Cs b e X).ref=By X.ref (DI e.D0 e.I0):=by rw[e1]
   have e3:Mh was (Cs b e X)=Mh was X:=by rw[e1];rfl
   have hx:∀f:Nat,f<32→∀d:Int,(d=1∨d=2)→(B (Cs b e X).ref f d=A↔B X.ref f d=A∨((f:Int),d)=(e.D0,e.I0)):=λf hf d hd=>by
    rw[e2,GF,Me he.1 he.2 f hd,Y_,t_]
   have ih:=Ab0 (b:=b) (was:=was) (X:=Cs b e X) hct hp2 (λx hxt=>by
    have hce:=hct x hxt;cases hq:B (Cs b e X).ref x.D0.toNat x.I0 with
    |false=>rfl
    |true=>
     rcases(hx x.D0.toNat (by have:=hce.1;omega) x.I0 hce.2).1 hq with hh | hh
     ·rw[hrt x hxt]at hh;cases hh
     ·exfalso
      refine hne (b6_.2 ⟨x,hxt,?_⟩);rw[← hh];show(x.D0,x.I0)=_;rw[f3_ hce.1.1])
   refine⟨λf hf d hd=>?_,λf hf d hd h=>?_,λf hf d hd h=>?_,λ_=>?_,.inr ?_⟩
   ·have hb:=ih.bits f hf d hd
    rw[← hR,e3]at hb;rw[hb,c1_,r_];constructor
    ·rintro(h | ⟨h1,h2⟩)
     ·exact .inl h
     ·exact .inr ⟨.inr h1,h2⟩
    ·rintro(h | ⟨h1 | h1,h2⟩)
     ·exact .inl h
     ·exfalso
      have:=ih.up f hf d hd ((hx f hf d hd).2 (.inr h1))
      rw[← hR,h2]at this;cases this
     ·exact .inr ⟨h1,h2⟩
   ·rw[hR]
    exact ih.up f hf d hd ((hx f hf d hd).2 (.inl h))
   ·rw[hR]at h
    rw[c1_,r_];rcases ih.down f hf d hd h with hh | hh
    ·rcases(hx f hf d hd).1 hh with h3 | h3
     ·exact .inl h3
     ·exact .inr (.inl h3)
    ·exact .inr (.inr hh)
   ·rw[hR]
    exact ih.u32 (by rw[e2];exact OD _ _)
   ·have e4:(Cs b e X).img=X.img:=by rw[e1]
    rw[hR,Azj (by rw[e4];exact hroom),e4]
    exact hroom
def Amz(hf:f<32)(hd:d=1∨d=2):((f:Int),d)∈(Ff c).map BT↔B c f d=A:=by
 unfold Ff;rw[mem_range];constructor
 ·rintro⟨g,_,h1,_,h3⟩
  have hg:g=f:=by have:(f:Int)=(g:Int):=h1;omega
  rw[hg]at h3;exact h3
 ·intro h
  exact⟨f,⟨ω,ω⟩,rfl,hd,h⟩
def Ux(hb:b.small){m:Img}(hm:ImgOK b m):Acc (E m.A0 (0,0)) m:=λf _ d hd=>by
 have hc:∀e∈m.A0,QS e:=λe he=>Tv hb (Dt.1 (hm.en e he)).1
 rw[Agm hc f hd,EZ];simp
section
variable{b:C}(hb:b.small)(hcode:b.code=0){m:Img}(hm:ImgOK b m){xs:List Int}(hx:xs.length=m.A0.length)(hxv:inX xs){vs:List View}(hvl:vs.length=b.B0.length)(ps:List I)(press:Int×Int)
include hb hcode hm hx hxv hvl
theorem Ap6(good:Bool):E (Ga b m xs vs ps press good).img.A0 (0,0)=Mh (E m.A0 (0,0)) (BZ b m xs vs ps press good):=by
 have hfr:=(Ab8 hb hcode hm hx hxv (vs:=vs) ps press good hvl).1;have hp:=Xk hb hcode hm hx hxv (vs:=vs) ps press good hvl;obtain⟨a1,a2,a3⟩:=XJ hb (Ga b m xs vs ps press good).recs (Ux hb hm) (ZB _ Ht) hm hfr.good.valid;rw[hfr.img]at a1 a3;have hc:∀e∈(Ga b m xs vs ps press good).img.A0,QS e:=λe he=>Tv hb (Dt.1 (a3.en e he)).1
 have e1:(Ga b m xs vs ps press good).recs.foldl Hi (E m.A0 (0,0))=Mh (E m.A0 (0,0)) (BZ b m xs vs ps press good):=by
  show((BZ b m xs vs ps press good).recs++(Xj b m xs vs ps press good).1).foldl Hi _=_;rw[aH,hp,Ahv _ (SO b vs _ _)];rfl
 rw[← e1];refine Ou (ZB _ Ht) a2 λf hf d hd=>?_
 rw[Bool.eq_iff_iff,Agm hc f hd,a1 f hf d hd,EZ];simp
theorem Asg:E (Ga b m xs vs ps press A).img.A0 (0,0)=By (Aq (E m.A0 (0,0)) (CK b vs ps).cl) (Aq (Lg b m press) (Ga b m xs vs ps press A).ref)∧isZ (Aq (Ga b m xs vs ps press A).ref (Lg b m press))=A∧((Ga b m xs vs ps press A).ref=(0,0)∨KM b (BZ b m xs vs ps press A).img=D)∧(Ga b m xs vs ps press A).lan=CK b vs ps∧Ey (Ga b m xs vs ps press A).ref:=by
 have hc:∀e∈m.A0,QS e:=λe he=>Tv hb (Dt.1 (hm.en e he)).1
 have hX:BZ b m xs vs ps press A=Eo b (Ff (Lg b m press)) (wrL (CV b vs m.A0) ⟨[],m,xs,CK b vs ps,(0,0)⟩):=rfl;have hT:(Ga b m xs vs ps press A).ref=(BZ b m xs vs ps press A).ref:=rfl
 have rb:=Ab0 (b:=b) (was:=E m.A0 (0,0)) (l:=Ff (Lg b m press)) (X:=wrL (CV b vs m.A0) ⟨[],m,xs,CK b vs ps,(0,0)⟩) (λe he=>by
  obtain⟨h1,h2,_⟩:=Aie he;exact⟨h1,h2⟩) (YW _ 32 0) (λe _=>EZ _ _)
 have e0:∀f:Nat,f<32→∀d:Int,(d=1∨d=2)→(B (BZ b m xs vs ps press A).ref f d=A→B (Lg b m press) f d=A):=λf hf d hd hh=>by
  have hdn:=rb.down f hf d hd;rw[← hX]at hdn;rcases hdn hh with hq | hq
  ·rw[show B (wrL (CV b vs m.A0) ⟨[],m,xs,CK b vs ps,(0,0)⟩).ref f d=D from EZ f d]at hq;cases hq
  ·exact(Amz hf hd).1 hq
 refine⟨?_,?_,?_,?_,?_⟩
 ·rw[Ap6 hb hcode hm hx hxv hvl ps press A,hT]
  refine Ou (XJ hb _ (Ux hb hm) (ZB _ Ht) hm (Ab9 hb hcode hm hx hxv (vs:=vs) ps press A).good.valid).2.1 (OD _ _) λf hf d hd=>?_
  have hbb:=rb.bits f hf d hd;have hs:=Aiw b vs hf hd (l:=m.A0) (c:=E m.A0 (0,0)) hc;have hag:=Ux hb hm f hf d hd;have e2:Mh (E m.A0 (0,0)) (wrL (CV b vs m.A0) ⟨[],m,xs,CK b vs ps,(0,0)⟩)=(CV b vs m.A0).foldl Hi (E m.A0 (0,0)):=rfl;rw[e2,← hX]at hbb;rw[Bool.eq_iff_iff,hbb,hs,GF,BY _ _ hf,BY _ _ hf,Aib b vs ps hf d,Amz hf hd,Y_,e_,e_,a8_,a8_];constructor
  ·rintro(⟨h1,h2⟩ | h1)
   ·refine .inl ⟨h1,?_⟩
    cases hq:Je b vs (f:Int) d with
    |false=>rfl
    |true=>exact absurd ⟨hag.1 h1,hq⟩ h2
   ·exact .inr h1
  ·rintro(⟨h1,h2⟩ | h1)
   ·refine .inl ⟨h1,λhh=>?_⟩
    rw[h2]at hh;cases hh.2
   ·exact .inr h1
 ·rw[hT]
  refine(Ox (Kk _ _)).2 λf hf d hd=>?_
  rw[BY _ _ hf];cases hq:B (BZ b m xs vs ps press A).ref f d with
  |false=>rfl
  |true=>rw[e0 f hf d hd hq];rfl
 ·rw[hT]
  have hrm:=rb.room;rw[← hX]at hrm;exact hrm
 ·show(BZ b m xs vs ps press A).lan=_
  rw[hX,Abz];rfl
 ·rw[hT,hX]
  exact rb.u32 Ht
end
structure LampF(P N press cl ref served:Int×Int):Prop where
 n:∀f:Nat,f<32→∀d:Int,(d=1∨d=2)→Ak N f d=((Ak P f d&&!Ak cl f d)||(Ak press f d&&(!Ak P f d&&!Ak ref f d)))
 r:∀f:Nat,f<32→∀d:Int,(d=1∨d=2)→Ak ref f d=true→Ak press f d=true∧Ak P f d=false
 s:∀f:Nat,f<32→∀d:Int,(d=1∨d=2)→Ak served f d=(Ak P f d&&Ak cl f d)
 ur:Ey ref
 us:Ey served
def UO:∀(l:List H) {k:List H}{c:Int×Int},FZ (l++k) c=FZ k (FZ l c)
 |[],_,_=>rfl
 |r::l,k,c=>UO l
def Ab3:∀{l:List H}{c:Int×Int},(∀r∈l,r.R0≠2)→FZ l c=c
 |[],_,_=>rfl
 |r::l,c,h=>by
  show FZ l (bif r.R0==2 then _ else c)=c;rw[An (h r (s_ ..)),c_];exact Ab3 λx hx=>h x (x_ _ hx)
def Aiv:∀(l:List H) {c:Int×Int},Ey c→Ey (FZ l c)
 |[],_,h=>h
 |r::l,c,h=>by
  refine Aiv l ?_;cases r.R0==2 with
  |true=>exact OD _ _
  |false=>exact h
def Aeo(b:C)(vs:List View){f:Nat}{d:Int}(hd:d=1∨d=2):∀{l:List Entry}{c:Int×Int},(∀e∈l,QS e)→(B (FZ (CV b vs l) c) f d=A↔B c f d=A∨(((f:Int),d)∈l.map BT∧Je b vs (f:Int) d=A))
 |[],c,_=>by simp[CV,FZ]
 |e::t,c,h=>by
  have he:=h e (s_ ..);have ht:=λx hx=>h x (x_ _ hx)
  have e0:CV b vs (e::t)=(bif Je b vs e.D0 e.I0 then [Record.mk 2 e.D0 e.I0 0 0]else [])++CV b vs t:=rfl;rw[e0,UO,Aeo b vs hd ht,c1_,r_];cases hs:Je b vs e.D0 e.I0 with
  |false=>
   show B c f d=A∨_↔_;constructor
   ·rintro(h1 | ⟨h1,h2⟩)
    ·exact .inl h1
    ·exact .inr ⟨.inr h1,h2⟩
   ·rintro(h1 | ⟨h1 | h1,h2⟩)
    ·exact .inl h1
    ·obtain⟨q1,q2⟩:=Prod.mk.inj (show((f:Int),d)=(e.D0,e.I0)from h1)
     rw[q1,q2,hs]at h2;cases h2
    ·exact .inr ⟨h1,h2⟩
  |true=>
   have hw:FZ [Record.mk 2 e.D0 e.I0 0 0] c=By c (DI e.D0 e.I0):=rfl;rw[d_,hw,GF,Me he.1 he.2 f hd,Y_,t_];constructor
   ·rintro((h1 | h1) | ⟨h1,h2⟩)
    ·exact .inl h1
    ·refine .inr ⟨.inl h1,?_⟩
     obtain⟨q1,q2⟩:=Prod.mk.inj h1;rw[q1,q2];exact hs
    ·exact .inr ⟨.inr h1,h2⟩
   ·rintro(h1 | ⟨h1 | h1,h2⟩)
    ·exact .inl (.inl h1)
    ·exact .inl (.inr h1)
    ·exact .inr ⟨h1,h2⟩
def Aef(b:C):∀(l:List Entry) (X:Rnd),∃R,(Eo b l X).recs=X.recs++R∧∀r∈R,r.R0=1
 |[],X=>⟨[],(a9_ _).symm,λr h=>by cases h⟩
 |e::t,X=>by
  obtain⟨R,h1,h2⟩:=Aef b t (Cs b e X);have hR:Eo b (e::t) X=Eo b t (Cs b e X):=rfl;cases hr:KM b X.img with
  |false=>
   have e1:(Cs b e X).recs=X.recs:=by unfold Cs;rw[hr];rfl
   exact⟨R,by rw[hR,h1,e1],h2⟩
  |true=>
   have e1:(Cs b e X).recs=X.recs++[YM e]:=by unfold Cs;rw[hr];rfl
   refine⟨YM e::R,by rw[hR,h1,e1,M_];rfl,λr h=>?_⟩
   rcases r_.1 h with rfl | h
   ·rfl
   ·exact h2 r h
def Ak1(n:Nat):∀k,Hp (aC n noP) k=(0,0)
 |0=>rfl
 |k+1=>by
  show By (Hp _ k) (Nj _ k)=_;rw[Ak1 n k,Bcs];rfl
def Aif{a:Int×Int}(h:isZ (Aq a c)=A)(hf:f<32)(hd:d=1∨d=2)(ha:B a f d=A):B c f d=A:=by
 have:=(Ox (Kk _ _)).1 h f hf d hd
 rw[BY _ _ hf,ha]at this;simpa using this
section
variable{b:C}(hw:BW b){m:Mch}{x:Inp}{g:Bool}{m':Mch}{o:Outputs}{l1 l2:List H}{u:Mch}{vs:List View}{X:Rnd}(h:TickF b m x g m' o l1 l2 u vs X)
include hw h
theorem TickF.ents:u.G0.A0=m.G0.A0:=by
 have k1:K3 l1:=λr hr=>by obtain⟨i,_,rfl⟩:=h.fl r hr;exact .inr (.inl rfl)
 have k2:K3 l2:=by
  rcases h.op with⟨_,rfl⟩ | ⟨_,i,cm,fr,_,hi,_,rfl⟩
  ·exact λr h=>by cases h
  ·intro r hr
   obtain⟨j,k,v,_,rfl,h⟩:=Bdc _ _ hi _ _ r hr;show k=4∨k=5∨k=6;omega
 rw[h.iu,QP _ k2,QP _ k1]
theorem TickF.lamps(hx1:g=A→Hh b x.press=A)(hx0:g=D→x.press=(0,0)):LampF (E m.G0.A0 (0,0)) (E m'.G0.A0 (0,0)) x.press (Hp X.lan.lit b.B0.length) X.ref (FZ X.recs (0,0))∧(g=D→E m'.G0.A0 (0,0)=E m.G0.A0 (0,0)∧X.ref=(0,0)):=by
 have he:=h.ents hw;have him:=h.pu.jst.img;have hT:=Ap6 hw.small hw.code him h.pu.exl h.pu.exv h.va.len u.B3 x.press g;have hcall:∀e∈u.G0.A0,QS e:=λe he=>Tv hw.small (Dt.1 (him.en e he)).1
 have hag:=Ux hw.small him;have hl:=Ai4 b u.G0 u.U1 vs u.B3 x.press g;have hpl:=Xk hw.small hw.code him h.pu.exl h.pu.exv (vs:=vs) u.B3 x.press g h.va.len;have hrecs:X.recs=(BZ b u.G0 u.U1 vs u.B3 x.press g).recs++(Xj b u.G0 u.U1 vs u.B3 x.press g).1:=by rw[h.hX];rfl
 have hplan:∀c,FZ (Xj b u.G0 u.U1 vs u.B3 x.press g).1 c=c:=λc=>by
  rw[hpl];exact Ab3 λr hr=>by have:=SO b vs _ _ r hr;omega
 rw[← h.hX]at hT hl;rw[h.img,← he,hrecs,UO,hplan,hT,hl];cases hg:g with
 |false=>
  rw[hx0 hg];have e1:(BZ b u.G0 u.U1 vs u.B3 (0,0) D).recs=[]:=rfl;have e2:Mh (E u.G0.A0 (0,0)) (BZ b u.G0 u.U1 vs u.B3 (0,0) D)=E u.G0.A0 (0,0):=rfl;have e3:X.ref=(0,0):=by rw[h.hX,hg];rfl
  rw[e1,e2,e3,c_];refine⟨?_,λ_=>⟨rfl,rfl⟩⟩
  rw[show Hp (Asx vs.length).lit b.B0.length=(0,0)from Ak1 _ _]
  refine⟨λf hf d hd=>?_,λf hf d hd hq=>?_,λf hf d hd=>?_,Ht,Ht⟩
  ·rw[EZ];simp
  ·rw[EZ]at hq;cases hq
  ·show B (0,0) f d=_
   rw[EZ];simp
 |true=>
  have hwi:=hx1 hg;refine⟨?_,λq=>by cases q⟩
  have hgood:=Asg hw.small hw.code him h.pu.exl h.pu.exv h.va.len u.B3 x.press;rw[hg]at hT;have hX:Ga b u.G0 u.U1 vs u.B3 x.press A=X:=by rw[h.hX,hg]
  rw[hX,hT]at hgood;obtain⟨g1,g2,_,_,g5⟩:=hgood
  have hcl:Hp (CK b vs u.B3).lit b.B0.length=(CK b vs u.B3).cl:=by
   have hap:=Apart.fold (b:=b) (vs:=vs) (ps:=u.B3) vs.length 0 (s:=Lan.none) ⟨rfl,λk h=>absurd h (Nat.not_lt_zero k)⟩
   have hll:=(Amu b vs u.B3 vs.length 0 Lan.none).1
   have e:(CK b vs u.B3).lit.length=b.B0.length:=by
    show(AK (Kb b vs u.B3) vs.length 0 Lan.none).lit.length=_;rw[hll,h.va.len];exact p_ _
   have:=hap.cl
   rw[← e];exact this
  rw[g1,d_,hcl]
  have hfr:∀f:Nat,f<32→∀d:Int,(d=1∨d=2)→B (Lg b u.G0 x.press) f d=(B x.press f d&&!B (E u.G0.A0 (0,0)) f d):=λf hf d hd=>by
   unfold Lg;rw[BY _ _ hf,Oq];cases hp:B x.press f d with
   |false=>rfl
   |true=>rw[Aif hwi hf hd hp];rfl
  refine⟨λf hf d hd=>?_,λf hf d hd hq=>?_,λf hf d hd=>?_,g5,Aiv _ Ht⟩
  ·rw[GF,BY _ _ hf,BY _ _ hf,hfr f hf d hd]
   cases B x.press f d<;>cases B (E u.G0.A0 (0,0)) f d<;>cases B X.ref f d<;>rfl
  ·have:=Aif g2 hf hd hq
   rw[hfr f hf d hd]at this;simpa using this
  ·obtain⟨R,r1,r2⟩:=Aef b (Ff (Lg b u.G0 x.press)) (wrL (CV b vs u.G0.A0) ⟨[],u.G0,u.U1,CK b vs u.B3,(0,0)⟩)
   have e4:(BZ b u.G0 u.U1 vs u.B3 x.press A).recs=CV b vs u.G0.A0++R:=r1;rw[e4,UO,Ab3 (l:=R) (λr hr=>by have:=r2 r hr;omega),Aib b vs u.B3 hf d,Bool.eq_iff_iff,Aeo b vs hd hcall,EZ,e_,hag f hf d hd]
   simp
end
def Bcn:MB=some ((A,()),()):=by decide+kernel
end Go.Ovl
