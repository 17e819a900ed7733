import Derived.Test.YtefobhcldlacgaaGreatDoorOvL
import Derived.Test.YtefobhcldlacgaaGreatDoorOvD
import Derived.Test.YtefobhcldlacgaaGreatDoorOvG
set_option linter.all false
open Bool renaming true->A,false->D
open Go.Ovl renaming phA->B,Au->C,Bldg->E,Img->H,Record->J,CarInput->aD,CarOutput->aF
open Option renaming some->L
open Go.IntKind renaming wrap->aA,u64->aC,i64->aG,u32->aH
open Go.Ovl.Sat renaming ret->aB,bic->aE
open ByteArray renaming append_assoc->aI
open List renaming mem_append_left->aJ,mem_append_right->aK
namespace Go.Ovl
open Go Go.Ab
set_option maxRecDepth 100000
variable{b:E}{l:List aF}{r:J}{m:H}{vs:List View}{c i:Nat}{kind bud:Int}{cm:List Bool}{s:ByteArray}{x:Inp}{e:Entry}{g:Bool}
def Aj5{b:E}:∀{l:List J}(n:H),(∀r∈l,Sm b r)→(Ai n l).G0=n.G0∧(Ai n l).J0=n.J0
 |[],_,_=>⟨rfl,rfl⟩
 |r::l,n,h=>by obtain⟨e1,e2⟩:=Aj5 (l:=l) (Ak n r) λr hr=>h r (r_ _ hr);obtain⟨i,_,rfl⟩:=h r (p_ ..);exact⟨e1,e2⟩
structure TickF(b:Bldg)(m:Mch)(x:Inp)(g:Bool)(m':Mch)(o:Outputs)(l1 l2:List Record)(u:Mch)(vs:List View)(X:Rnd):Prop where
 fl:∀r∈l1,Sm b r
 op:(g=false∧l2=[])∨(g=true∧∃(i:Nat) (cm:List Bool) (fr:Bool),x.car=(i:Int)∧i<b.B0.length∧cm.length=b.B0.length∧l2=Ir b (Ai m.D0 l1) x.kind i cm fr)
 pu:PM b u
 iu:u.D0=Ai (Ai m.D0 l1) l2
 va:VA b u.D0 g vs
 hX:X=Eu b u.D0 u.Y1 vs u.Y2 x.press g
 rg:Rg b u.D0 X
 img:m'.D0=X.img
 pm:PM b m'
 oc:o.B0.length=b.B0.length
 cars:∀i,i<b.B0.length→∃c d,Amr X i c d∧FinO m'.D0 i d (o.B0.getD i Au)
 lu:o.Y3=(ofC m'.D0.A0 (0,0)).1
 ld:o.J3=(ofC m'.D0.A0 (0,0)).2
 bad:o.V5=!g
 served:(o.X2,o.L2)=Gb X.recs (0,0)
 full:o.L0=!isZ X.ref
 free:g=true→∃(i:Nat) (cm:List Bool) (fr:Bool),i<b.B0.length∧l2=Ir b (Ai m.D0 l1) x.kind i cm fr∧CV (Ai m.D0 l1).G0 (Ai m.D0 l1).O0 (Ai m.D0 l1).J0 (Ai m.D0 l1).A0=some ((fr,()),())∧x.car=(i:Int)∧cm.length=b.B0.length∧∀j,j<b.B0.length→cm.getD j false=true→(Do (phA m.D0 j)=true∧(m'.E1.getD j Du).W0=true)∨(Vw (phA m.D0 j)=true∧(x.cars.getD j Ed).Y0=true∧(x.cars.getD j Ed).B1=2)
def TickF.of(hw:BW b){m:Mch}{t1 t2 t3 t4 t':Pk}{l1 l2:List J}(hxl:g=A→x.cars.length=b.B0.length)(f1:FixR (pk0 b m bud) t1)(hl1:∀r∈l1,Sm b r)(o2:t2.out={ t1.out with B0:=t2.out.B0 }∧(g=A→∀j,j<b.B0.length→Do (B t1.m.D0 j)=A→DC t2 j))(a2:Al b t1 t2 l1)(hop:(g=D∧t3=t2∧l2=[])∨(g=A∧Opr b x g t2 t3 l2))(a3:Al b t2 t3 l2)(hd:Dsp b x g t3 t4 vs)(a4:Al b t3 t4 (PV b x g t3 vs).recs)(hf:Fin b g t4 t'):TickF b m x g t'.m t'.out l1 l2 t3.m vs (PV b x g t3 vs):=by
 have i1:t1.m.D0=m.D0:=f1.im;have i2:t2.m.D0=Ai m.D0 l1:=by rw[a2.im,i1]
 have out1:t2.out={ (pk0 b m bud).out with B0:=t2.out.B0 }:=by rw[o2.1,f1.out]
 have out3:∃s,t3.out={ t2.out with H5:=s }:=by
  rcases hop with⟨_,rfl,_⟩ | ⟨_,h⟩
  ·exact⟨t3.out.H5,rfl⟩
  ·obtain⟨_,_,_,_,_,_,_,e,_⟩:=h.how;exact⟨_,e⟩
 obtain⟨s,out3⟩:=out3;refine⟨hl1,?_,a3.m,by rw[a3.im,i2],hd.va,rfl,hd.rg,by rw[hf.im,a4.im,hd.rg.img],hf.m,hf.oc,λi hi=>?_,?_,?_,?_,?_,?_,λhg=>?_⟩
 ·rcases hop with⟨h1,_,h2⟩ | ⟨h1,h⟩
  ·exact .inl ⟨h1,h2⟩
  ·obtain⟨i,cm,fr,h2,h3,h4,h5,_⟩:=h.how;exact .inr ⟨h1,i,cm,fr,h2,h3,h4,by rw[← i2];exact h5⟩
 ·refine⟨_,_,hd.cars i hi,?_⟩;rw[hf.im];exact hf.cars i hi
 ·rw[hf.out,hf.im]
 ·rw[hf.out,hf.im]
 ·rw[hf.out]
 ·rw[hf.out];show(t4.out.X2,t4.out.L2)=_;rw[hd.out,out3,out1];rfl
 ·rw[hf.out];show t4.out.L0=_;rw[hd.out]
 ·rcases hop with⟨h1,_⟩ | ⟨_,h⟩
  ·rw[hg]at h1;cases h1
  ·obtain⟨i,cm,fr,h2,h3,h4,h5,_,h7,h8⟩:=h.how;rw[i2]at h5 h8;refine⟨i,cm,fr,h3,h5,h8,h2,h4,λj hj hc=>?_⟩;obtain⟨_,e,cm',rfl,_,hp⟩:=Ayd hw (x:=x) (g:=g) a2.m (hxl hg);rw[h7]at e;have e:cm=cm':=(Prod.mk.inj (Prod.mk.inj (F_ e)).1).1;have hph:B t2.m.D0 j=B m.D0 j:=by rw[i2];unfold B;rw[(Aj5 m.D0 hl1).1]
   have hq:=hp j hj (by rw[← e];exact hc);unfold Ui at hq;rw[hph]at hq;rcases hq with⟨q1,q2⟩ | q
   ·refine .inl ⟨q1,?_⟩
    have:=o2.2 hg j hj (by rw[i1];exact q1) q2
    rw[hf.con,a4.con,a3.con];exact this
   ·exact .inr q
def RunR.fact(hw:BW b)(hxl:g=A→x.cars.length=b.B0.length){m:Mch}{t':Pk}(h:RunR b x g (pk0 b m bud) t')(h0:t'.e=0):∃l1 l2 u vs X,TickF b m x g t'.m t'.out l1 l2 u vs X:=by
 have no:∀{u v:Pk}{l:List J},De b u v l→v.e=0→False:=λd e=>by have:=d.e;omega
 obtain⟨t1,t2,l1,m1,r1,f1,hl1,hn1,o2,⟨d,rfl⟩ | ⟨a2,t3,l2,hop,h⟩⟩:=h
 ·exact(no d h0).elim
 rcases h with⟨d,rfl⟩ | ⟨a3,t4,vs,hd,h⟩
 ·exact(no d h0).elim
 rcases h with⟨h8,rfl⟩ | ⟨_,hf⟩
 ·omega
 rcases hd.res with a4 | d
 ·exact⟨l1,l2,t3.m,vs,_,.of hw hxl f1 hl1 o2 a2 hop a3 hd a4 hf⟩
 ·have:=hf.e
  exact(no d ω).elim
def Bba(m:H)(h:r.Q0≠4∧r.Q0≠5∧r.Q0≠6):(Ak m r).G0=m.G0∧(Ak m r).O0=m.O0∧(Ak m r).J0=m.J0:=by unfold Ak;rw[An h.1,An h.2.1,An h.2.2];simp only[c_];cases DM r.E0 r.I0 m.A0 0==-1<;>cases r.Q0==1<;>cases r.Q0==2<;>cases r.Q0==3<;>cases r.Q0==7<;>exact⟨rfl,rfl,rfl⟩
def XV:∀{l:List J}(m:H),(∀r∈l,r.Q0≠4∧r.Q0≠5∧r.Q0≠6)→(Ai m l).G0=m.G0∧(Ai m l).O0=m.O0∧(Ai m l).J0=m.J0
 |[],_,_=>⟨rfl,rfl,rfl⟩
 |r::t,m,h=>by obtain⟨h1,h2,h3⟩:=Bba m (h r (p_ ..));obtain⟨k1,k2,k3⟩:=XV (Ak m r) λx hx=>h x (r_ _ hx);exact⟨k1.trans h1,k2.trans h2,k3.trans h3⟩
def Adw{α:Type}(get:H→α)(p:J→Prop)(v:J→α)(I:H→Prop):∀{l:List J}{m:H},(∀r∈l,∀n,I n→I (Ak n r)∧((p r∧get (Ak n r)=v r)∨(¬p r∧get (Ak n r)=get n)))→I m→(get (Ai m l)=get m∧∀r∈l,¬p r)∨∃r∈l,p r∧get (Ai m l)=v r
 |[],_,_,_=>.inl ⟨rfl,λr h=>by cases h⟩
 |r::l,m,h,hm=>by
  obtain⟨h1,h2⟩:=h r (p_ ..) m hm;rcases Adw get p v I (l:=l) (λs hs=>h s (r_ _ hs)) h1 with⟨e,n⟩ | ⟨s,hs,e⟩
  ·rcases h2 with⟨q,e2⟩ | ⟨q,e2⟩
   ·exact .inr ⟨r,p_ ..,q,e.trans e2⟩
   ·refine .inl ⟨e.trans e2,λs hs=>?_⟩;rcases s_.1 hs with rfl | hs
    ·exact q
    ·exact n s hs
  ·exact .inr ⟨s,r_ _ hs,e⟩
def Img.fits(b:E)(m:H):Prop:=m.G0.length=b.B0.length∧m.O0.length=b.B0.length
def ImgOK.fits(h:ImgOK b m):m.fits b:=⟨h.lp,h.lf⟩
def Bbj(hr:Jr b r){n:H}(hn:n.fits b)(hc:c<b.B0.length):(Ak n r).fits b∧B (Ak n r) c=(bif r.Q0==4&&r.R0==(c:Int)then r.Z1 else B n c)∧flA (Ak n r) c=(bif r.Q0==5&&r.R0==(c:Int)then r.Z1==1 else flA n c):=by
 obtain⟨i,k,v,hi,rfl,h⟩:=hr;have hk:k=4∨k=5∨k=6:=ω;rcases hk with rfl | rfl | rfl
 ·refine⟨⟨by show(n.G0.set i v).length=_;rw[x_];exact hn.1,hn.2⟩,?_,rfl⟩;show(n.G0.set i v).getD c 0=bif(i:Int)==(c:Int)then v else n.G0.getD c 0;by_cases e:i=c
  ·subst e;rw[l_,d_,Bf _ _ (by rw[hn.1];exact hc)]
  ·rw[An (ω:¬(i:Int)=(c:Int)),c_,BZ _ _ e]
 ·refine⟨⟨hn.1,by show(n.O0.set i (v==1)).length=_;rw[x_];exact hn.2⟩,rfl,?_⟩;show(n.O0.set i (v==1)).getD c D=bif(i:Int)==(c:Int)then v==1 else n.O0.getD c D;by_cases e:i=c
  ·subst e;rw[l_,d_,Bf _ _ (by rw[hn.2];exact hc)]
  ·rw[An (ω:¬(i:Int)=(c:Int)),c_,BZ _ _ e]
 ·exact⟨hn,rfl,rfl⟩
section
variable{b:E}{l:List J}(hl:∀r∈l,Jr b r){m:H}(hm:m.fits b){c:Nat}(hc:c<b.B0.length)
include hl hm hc
theorem Xc:(B (Ai m l) c=B m c∧∀r∈l,¬(r.Q0=4∧r.R0=(c:Int)))∨∃r∈l,(r.Q0=4∧r.R0=(c:Int))∧B (Ai m l) c=r.Z1:=
 Adw (λn=>B n c) (λr=>r.Q0=4∧r.R0=(c:Int)) (λr=>r.Z1) (λn=>n.fits b) (λr hr n hn=>by
  obtain⟨h1,h2,_⟩:=Bbj (hl r hr) hn hc;refine⟨h1,?_⟩;by_cases q:r.Q0=4∧r.R0=(c:Int)
  ·exact .inl ⟨q,by show B (Ak n r) c=_;rw[h2,q.1,q.2,l_,l_];rfl⟩
  ·refine .inr ⟨q,?_⟩;show B (Ak n r) c=_;rw[h2,show(r.Q0==4&&r.R0==(c:Int))=D by rw[Bool.and_eq_false_iff,beq_eq_false_iff_ne,beq_eq_false_iff_ne];omega];rfl) hm
omit hc in
theorem Alx:(Ai m l).fits b:=by
 induction l generalizing m with
 |nil=>exact hm
 |cons r t ih=>
  refine ih (m:=Ak m r) (λx hx=>hl x (r_ _ hx)) ?_;obtain⟨i,k,v,hi,rfl,h⟩:=hl r (p_ ..);have hk:k=4∨k=5∨k=6:=ω;rcases hk with rfl | rfl | rfl
  ·exact⟨by show(m.G0.set i v).length=_;rw[x_];exact hm.1,hm.2⟩
  ·exact⟨hm.1,by show(m.O0.set i (v==1)).length=_;rw[x_];exact hm.2⟩
  ·exact hm
end
def Ahj(h:Sm b r):Jr b r:=by obtain⟨i,hi,rfl⟩:=h;exact⟨i,5,1,hi,rfl,.inr ⟨.inl rfl,τ⟩⟩
def Xa(m:H)(kind:Int)(hi:i<b.B0.length)(cm:List Bool)(fr:Bool):∀r∈Ir b m kind i cm fr,Jr b r:=λr hr=>by
 unfold Ir at hr;rcases n_.1 hr with h | h
 ·exact(YN m kind hi _ fr).1 r h
 ·exact Ae8 _ _ _ (y_ _) r h
def Zy(a z:Int):Prop:=(a=0∧z=1)∨(a=1∧z=0)∨(a=1∧z=2)∨(a=2∧z=0)∨(a=2∧z=3)∨(a=3∧z=2)∨(a=3∧z=4)∨(a=4∧z=2)
def VJ{calm fr:Bool}(h:r∈(LO m kind i calm fr).1):r.R0=(i:Int)∧kind≠0∧((r.Q0=4∧Zy (B m i) r.Z1∧(r.Z1=2→B m i=3∧calm=A))∨r.Q0=6∨(r.Q0=5∧kind=8)):=by
 unfold LO NJ at h;have ite:∀(c:Bool) {p:Prop}{x y:List J×Int},r∈(bif c then x else y).1→(c=A→r∈x.1→p)→(c=D→r∈y.1→p)→p:=λc p x y h h1 h2=>by
  cases c
  ·exact h2 rfl h
  ·exact h1 rfl h
 have one:∀{q:J}{e:Int},r∈([q],e).1→r=q:=λh=>E_.1 h;refine ite _ h (λ_ h=>by cases h) λh0 h=>?_;have h0:kind≠0:=by simpa using h0
 have two:∀{c d:Bool},(c&&d)=A→c=A∧d=A:=λ{c d} h=>by simpa using h
 refine ite _ h (λq h=>ite _ h (λ_ h=>?_) λ_ h=>by cases h) λ_ h=>?_
 ·obtain⟨_,q2⟩:=two q;rw[one h];exact⟨rfl,h0,.inl ⟨rfl,.inl ⟨eq_of_beq q2,rfl⟩,λh=>absurd h (show ¬(1:Int)=2 by decide)⟩⟩
 refine ite _ h (λq h=>?_) λ_ h=>?_
 ·obtain⟨_,q2⟩:=two q;rw[one h];exact⟨rfl,h0,.inl ⟨rfl,.inr (.inl ⟨eq_of_beq q2,rfl⟩),λh=>absurd h (show ¬(0:Int)=2 by decide)⟩⟩
 refine ite _ h (λq h=>?_) λ_ h=>?_
 ·obtain⟨_,q2⟩:=two q;rw[one h];exact⟨rfl,h0,.inl ⟨rfl,.inr (.inr (.inr (.inl ⟨eq_of_beq q2,rfl⟩))),λh=>absurd h (show ¬(0:Int)=2 by decide)⟩⟩
 refine ite _ h (λq h=>?_) λ_ h=>?_
 ·rw[one h];exact⟨rfl,h0,.inr (.inl rfl)⟩
 refine ite _ h (λq h=>?_) λ_ h=>?_
 ·obtain⟨_,q2⟩:=two q;rw[one h];exact⟨rfl,h0,.inl ⟨rfl,.inr (.inr (.inr (.inr (.inl ⟨eq_of_beq q2,rfl⟩)))),λh=>absurd h (show ¬(3:Int)=2 by decide)⟩⟩
 refine ite _ h (λq h=>ite _ h (λhc h=>?_) λ_ h=>by cases h) λ_ h=>?_
 ·obtain⟨_,q2⟩:=two q;rw[one h];exact⟨rfl,h0,.inl ⟨rfl,.inr (.inr (.inr (.inr (.inr (.inl ⟨eq_of_beq q2,rfl⟩))))),λ_=>⟨eq_of_beq q2,hc⟩⟩⟩
 refine ite _ h (λq h=>ite _ h (λ_ h=>?_) λ_ h=>by cases h) λ_ h=>?_
 ·obtain⟨_,q2⟩:=two q;rw[one h];exact⟨rfl,h0,.inl ⟨rfl,.inr (.inr (.inr (.inr (.inr (.inr (.inl ⟨eq_of_beq q2,rfl⟩)))))),λh=>absurd h (show ¬(4:Int)=2 by decide)⟩⟩
 refine ite _ h (λq h=>ite _ h (λ_ h=>?_) λ_ h=>by cases h) λ_ h=>?_
 ·rw[one h];exact⟨rfl,h0,.inr (.inl rfl)⟩
 refine ite _ h (λq h=>?_) λ_ h=>by cases h
 obtain⟨q1,_⟩:=two q;rw[one h];exact⟨rfl,h0,.inr (.inr ⟨rfl,eq_of_beq q1⟩)⟩
def Aaz{m:H}{calm:List Bool}:∀{n:Nat}{r:J},r∈DL m calm n→∃i:Nat,i<n∧r.R0=(i:Int)∧On m calm i=A∧((r.Q0=4∧r.Z1=2)∨r.Q0=6∨(r.Q0=5∧r.Z1=0))∧⟨4,0,0,(i:Int),2⟩∈DL m calm n
 |0,_,h=>by cases h
 |n+1,r,h=>by
  rcases n_.1 h with h | h
  ·obtain⟨i,h1,h2,h3,h4,h5⟩:=Aaz h;exact⟨i,ω,h2,h3,h4,aJ _ h5⟩
  ·unfold Oh at h;cases hg:On m calm n with
   |false=>rw[hg]at h;cases h
   |true=>
    have hi:(⟨4,0,0,(n:Int),2⟩:J)∈DL m calm (n+1):=aK _ (by unfold Oh;rw[hg,d_];exact aJ _ (aJ _ (E_.2 rfl)));rw[hg,d_]at h;refine⟨n,ω,?_⟩;rcases n_.1 h with h | h
    ·rcases n_.1 h with h | h
     ·rw[E_.1 h];exact⟨rfl,hg,.inl ⟨rfl,rfl⟩,hi⟩
     ·cases hl:HJ m n with
      |false=>rw[hl]at h;cases h
      |true=>rw[hl]at h;rw[E_.1 h];exact⟨rfl,hg,.inr (.inl rfl),hi⟩
    ·cases hl:flA m n with
     |false=>rw[hl]at h;cases h
     |true=>rw[hl]at h;rw[E_.1 h];exact⟨rfl,hg,.inr (.inr ⟨rfl,rfl⟩),hi⟩
def Bhx{calm:List Bool}(h:On m calm i=A):calm.getD i D=A∧(B m i=1∨B m i=4)∧Nj m i=D:=by unfold On HJ at h;simp only[e_,R_,U_,a2_]at h;exact⟨h.1,ω,h.2.2⟩
section
variable{b:E}{m:H}(hm:m.fits b){kind:Int}{i:Nat}(hi:i<b.B0.length){cm:List Bool}(hcm:cm.length=b.B0.length){fr:Bool}{c:Nat}(hc:c<b.B0.length)
include hm hi hcm hc
theorem Am7(hr:r∈Ir b m kind i cm fr)(hrc:r.R0=(c:Int)):(r∈(LO m kind i (cm.getD i D) fr).1∧c=i∧kind≠0)∨(cm.getD c D=A∧(kind≠0→c≠i)∧(B m c=1∨B m c=4)∧Nj m c=D∧((r.Q0=4∧r.Z1=2)∨r.Q0=6∨(r.Q0=5∧r.Z1=0))∧(⟨4,0,0,(c:Int),2⟩:J)∈Ir b m kind i cm fr):=by
 have ok1:=(YN (b:=b) m kind hi (cm.getD i D) fr).1;have hent:(Ai m (LO m kind i (cm.getD i D) fr).1).A0=m.A0:=LH _ λr hr=>by obtain⟨j,k,v,_,rfl,h⟩:=ok1 r hr;show k=4∨k=5∨k=6;omega
 unfold Ir at hr⊢;rcases n_.1 hr with h | h
 ·have h1:=VJ h;exact .inl ⟨h,ω,h1.2.1⟩
 ·obtain⟨j,hj,h2,hg,h3,h4⟩:=Aaz h;obtain rfl:j=c:=ω;obtain⟨g1,g2,g3⟩:=Bhx hg;have hne:kind≠0→j≠i:=λhk e=>by
   subst e;rw[JR hk,d_,Bf _ _ ω]at g1;cases g1
  have hcmj:cm.getD j D=A:=by
   by_cases hk:kind=0
   ·subst hk;exact g1
   ·rw[JR hk,d_,BZ _ _ (e8_ (hne hk))]at g1;exact g1
  refine .inr ⟨hcmj,hne,?_,?_,h3,aK _ h4⟩
  ·rcases Xc ok1 hm hj with⟨e,_⟩ | ⟨r',hr',⟨_,hc'⟩,_⟩
   ·rw[e]at g2;exact g2
   ·have h5:=VJ hr';exact absurd (ω:j=i) (hne h5.2.1)
  ·unfold Nj at g3⊢;rw[hent]at g3;exact g3
theorem Azs:B (Ai m (Ir b m kind i cm fr)) c=B m c∨Zy (B m c) (B (Ai m (Ir b m kind i cm fr)) c):=by
 rcases Xc (Xa m kind hi cm fr) hm hc with⟨e,_⟩ | ⟨r,hr,⟨hk,hrc⟩,e⟩
 ·exact .inl e
 ·rw[e];right;rcases Am7 hm hi hcm hc hr hrc with⟨h,rfl,_⟩ | ⟨_,_,h,_,h2,_⟩
  ·rcases(VJ h).2.2 with⟨_,h,_⟩ | h | ⟨h,_⟩
   ·exact h
   ·omega
   ·omega
  ·unfold Zy;omega
end
def kdR(r:J):Prop:=r.Q0≠4∧r.Q0≠5∧r.Q0≠6
def Aqu(b:E):∀(l:List Entry) {X:Rnd},(∀r∈X.recs,kdR r)→∀r∈(Ee b l X).recs,kdR r
 |[],_,h=>h
 |e::t,X,h=>by
  refine Aqu b t (X:=Ch b e X) ?_;unfold Ch;cases JU b X.img with
  |false=>exact h
  |true=>
   intro r hr;rcases n_.1 (show r∈X.recs++[Xg e]from hr)with hr | hr
   ·exact h r hr
   ·rw[E_.1 hr];exact⟨show(1:Int)≠4 by decide,show(1:Int)≠5 by decide,show(1:Int)≠6 by decide⟩
section
variable{b:E}(hb:b.small)(hcode:b.code=0){m:H}(hm:ImgOK b m){xs:List Int}(hx:xs.length=m.A0.length)(hxv:inX xs){vs:List View}(ps:List Calls)(press:Int×Int)(good:Bool)
include hcode hm
theorem Bd8:∀r∈(Bq b m xs vs ps press good).recs,kdR r:=by
 unfold Bq;cases good with
 |false=>exact λr h=>by cases h
 |true=>
  have hv:=QS hcode vs (l:=m.A0) λe he=>(CH.1 (hm.en e he)).1;refine Aqu b _ λr hr=>?_;have hr:r∈CU b vs m.A0:=hr
  have:=(hv r hr).2
  exact⟨ω,ω,ω⟩
variable(hvl:vs.length=b.B0.length)
include hb hx hxv hvl
theorem Bd7:∀r∈(Eu b m xs vs ps press good).recs,kdR r:=λr hr=>by
 have hp:=PX hb hcode hm hx hxv (vs:=vs) ps press good hvl;have hr:r∈(Bq b m xs vs ps press good).recs++(SF b m xs vs ps press good).1:=hr;rcases n_.1 hr with h | h
 ·exact Bd8 hcode hm ps press good r h
 ·rw[hp]at h
  have:=PP b vs _ _ r h
  exact⟨ω,ω,ω⟩
theorem Auz:(Eu b m xs vs ps press good).img=(Bq b m xs vs ps press good).img.put (OB b vs (Bq b m xs vs ps press good).img.A0 (Bq b m xs vs ps press good).xs):=by have hcc:=Aj hcode;have h:=TS hb hcode hm hx hxv (vs:=vs) ps press good;have hp:=PX hb hcode hm hx hxv (vs:=vs) ps press good hvl;have e2:(Eu b m xs vs ps press good).img=Ai (Bq b m xs vs ps press good).img (SF b m xs vs ps press good).1:=rfl;rw[e2,hp];exact(SA (b:=b) ω (by omega:(vs.length:Int)=(b.B0.length:Int)) _ _ [] (Bq b m xs vs ps press good).img h.ok.len h.ok.img rfl).1
end
def Aad{b:E}{vs:List View}{floor dir except:Int}:∀(m i:Nat) (best:Int),i+m=vs.length→(best=-1∨(0≤best∧best<vs.length∧(Ar vs best).C3=A))→(Uc b vs floor dir except m i best=-1∨(0≤Uc b vs floor dir except m i best∧Uc b vs floor dir except m i best<vs.length∧(Ar vs (Uc b vs floor dir except m i best)).C3=A))
 |0,_,_,_,h=>h
 |m+1,i,best,hi,h=>by
  refine Aad m (i+1) _ ω ?_;unfold My;cases hr:(!(Ar vs i).C3||(i:Int)==except)with
  |true=>exact h
  |false=>
   have hr:(Ar vs i).C3=A:=by simp only[Bool.or_eq_false_iff,g4_]at hr;exact hr.1
   have hi':i<vs.length:=ω;rw[c_];cases(best==-1||XX (HL b vs floor dir i) (HL b vs floor dir best))with
   |true=>exact .inr ⟨by show(0:Int)≤(i:Int);omega,by show(i:Int)<_;omega,hr⟩
   |false=>exact h
def Ai1(b:E)(vs:List View)(floor dir except:Int):DO b vs floor dir except=-1∨(0≤DO b vs floor dir except∧DO b vs floor dir except<vs.length∧(Ar vs (DO b vs floor dir except)).C3=A):=by
 unfold DO;cases(b.code !=0||(vs.length:Int) !=(b.B0.length:Int))with
 |true=>exact .inl rfl
 |false=>exact Aad vs.length 0 (-1) ω (.inl rfl)
def Aty(vs:List View)(c:Int):Prop:=c<0∨(c<vs.length∧((Ar vs c).C3=A∨(Ar vs c).V3=D))
def Bbm(b:E)(h:-2≤e.R0∧e.R0<vs.length)(x:Int):Aty vs (Eo b vs e x).R0:=by
 have ch:∀n,Aty vs (DO b vs e.E0 e.I0 n):=λn=>by
  rcases Ai1 b vs e.E0 e.I0 n with h | ⟨_,h1,h2⟩
  ·exact .inl ω
  ·exact .inr ⟨h1,.inl h2⟩
 unfold Eo;cases h1:e.R0==-2 with
 |true=>exact .inl (by have:=eq_of_beq h1;show e.R0<0;omega)
 |false=>
 cases h2:e.R0==-1 with
 |true=>exact ch _
 |false=>
 have own:(Ar vs e.R0).V3=D→Aty vs e.R0:=λh3=>.inr ⟨h.2,.inr h3⟩;cases h3:(Ar vs e.R0).V3 with
 |true=>
  cases decide ((b.B0.length:Int)<e.L1)with
  |true=>exact .inl (by show(-2:Int)<0;decide)
  |false=>exact ch _
 |false=>
  cases !e.H2&&decide (e.L1≤(b.B0.length:Int))with
  |false=>exact own h3
  |true=>
   cases h4:Kz b vs e x != -1 with
   |false=>exact own h3
   |true=>
    show Aty vs (Kz b vs e x);unfold Kz at h4⊢;cases h5:DO b vs e.E0 e.I0 e.R0==-1 with
    |true=>rw[h5]at h4;cases h4
    |false=>
     rw[h5]at h4;rw[c_]at h4⊢;cases h6:Zq b vs e x (DO b vs e.E0 e.I0 e.R0)with
     |true=>exact ch _
     |false=>rw[h6]at h4;cases h4
section
variable{b:E}(hw:BW b){m:Mch}{x:Inp}{g:Bool}{m':Mch}{o:Outputs}{l1 l2:List J}{u:Mch}{vs:List View}{X:Rnd}(h:TickF b m x g m' o l1 l2 u vs X)
include hw h
theorem TickF.recs_kd:∀r∈X.recs,kdR r:=by rw[h.hX];exact Bd7 hw.small hw.code h.pu.jst.img h.pu.exl h.pu.exv _ _ _ h.va.len
theorem TickF.rest:m'.D0.G0=u.D0.G0∧m'.D0.O0=u.D0.O0∧m'.D0.J0=u.D0.J0:=by rw[h.img,← h.rg.img];exact XV _ (h.recs_kd hw)
theorem TickF.fits:(Ai m.D0 l1).fits b→u.D0.fits b:=λ_=>h.pu.jst.img.fits
theorem TickF.ent(he:e∈m'.D0.A0)(hc:0≤e.R0):∃i:Nat,e.R0=(i:Int)∧i<b.B0.length∧flA m'.D0 i=D∧FJ m'.D0 i=A:=by
 obtain⟨h1,h2,_⟩:=h.rest hw;have hcc:=Aj hw.code;rw[h.img,h.hX,Auz hw.small hw.code h.pu.jst.img h.pu.exl h.pu.exv _ _ _ h.va.len]at he;have hrg:=TS hw.small hw.code h.pu.jst.img h.pu.exl h.pu.exv (vs:=vs) u.Y2 x.press g;generalize Bq b u.D0 u.Y1 vs u.Y2 x.press g=Y at he hrg;have he:e∈OB b vs Y.img.A0 Y.xs:=he;obtain⟨j,hj,rfl⟩:=g2_ he;rw[Wn b vs _ _ hrg.ok.len]at hj;have hd:(OB b vs Y.img.A0 Y.xs)[j]'(by rw[Wn b vs _ _ hrg.ok.len];exact hj)=Eo b vs (Y.img.A0.getD j noE) (Y.xs.getD j 0):=by rw[← Aha b vs _ _ j hrg.ok.len hj,k_,i_];rfl
 rw[hd]at hc⊢;have hin:=(CH.1 (hrg.ok.img.en _ (BN noE hj))).2.1;have hmay:=Bbm b (vs:=vs) (e:=Y.img.A0.getD j noE) (by rw[h.va.len];omega) (Y.xs.getD j 0);obtain⟨i,hi⟩:=e2_ hc;rw[hi]at hmay;rcases hmay with hmay | ⟨h3,h4⟩
 ·omega
 have hib:i<b.B0.length:=by have:=h.va.len;omega
 have hv:=h.va.vi i hib;have hva:Ar vs (i:Int)=vs.getD i noV:=rfl;rw[hva]at h4;refine⟨i,hi,hib,?_⟩;have ef:flA m'.D0 i=flA u.D0 i:=by unfold flA;rw[h2]
 have es:FJ m'.D0 i=FJ u.D0 i:=by unfold FJ B;rw[h1]
 rw[ef,es];rcases h4 with h4 | h4
 ·rw[hv.ready]at h4;unfold Rw at h4;simp only[e_,R_,a2_]at h4;refine⟨h4.2.2.1,?_⟩;unfold FJ;rcases h4.2.1 with h5 | h5<;>rw[h5]<;>simp
 ·rw[hv.lost]at h4;simp only[Bool.or_eq_false_iff,g4_]at h4;exact h4
theorem TickF.edge(hm:PM b m)(hc:c<b.B0.length):B m'.D0 c=B m.D0 c∨Zy (B m.D0 c) (B m'.D0 c):=by
 obtain⟨h1,_,_⟩:=h.rest hw;have e1:B m'.D0 c=B u.D0 c:=by unfold B;rw[h1]
 have hl1:∀r∈l1,Jr b r:=λr hr=>Ahj (h.fl r hr);have hf1:=Alx hl1 hm.jst.img.fits;have e2:B (Ai m.D0 l1) c=B m.D0 c:=by
  rcases Xc hl1 hm.jst.img.fits hc with⟨e,_⟩ | ⟨r,hr,⟨hk,_⟩,_⟩
  ·exact e
  ·obtain⟨i,_,rfl⟩:=h.fl r hr;cases hk
 rw[e1,h.iu,← e2];rcases h.op with⟨_,rfl⟩ | ⟨_,i,cm,fr,_,hi,hcm,rfl⟩
 ·exact .inl rfl
 ·exact Azs hf1 hi hcm hc
end
def ReadX(b:E)(s:ByteArray)(x:Inp)(g:Bool):Prop:=((BX b s=0∧InOK b x)∨(BX b s≠0∧x=Inp.none))∧g=(BX b s==0)∧Ei b.C0 b.F0 b.H0 b.M0 b.K0 b.L0 b.N0 b.B0 s=L (((),BX b s,()),(x.tup,()))
def Bg4(hw:BW b){m:Mch}(hm:PM b m)(hs:Fr b s):∃m' o,Gi b.C0 b.F0 b.H0 b.M0 b.K0 b.L0 b.N0 b.B0 m.D0.G0 m.D0.O0 m.D0.J0 m.D0.A0 m.D1.h0 m.D1.h1 m.D1.sel m.E1 m.U0 m.B0 m.V2 m.Y1 m.Y2 m.Z3 m.Z2 m.M2 s 1048576=L (((),(),0,()),(m'.tup,outP o,()))∧PM b m'∧∃x g l1 l2 u vs X,ReadX b s x g∧TickF b m x g m' o l1 l2 u vs X:=by obtain⟨m',o,h1,h2,h3,x,t',hx,hrd,hr,he,h0,_⟩:=Bin hw hm hs;obtain⟨l1,l2,u,vs,X,hF⟩:=hr.fact hw (λhg=>hx.elim (λh=>h.2.len) λh=>absurd (eq_of_beq hg) h.1) he.symm;obtain⟨e1,e2⟩:=h0 rfl;rw[← e1,← e2]at hF;refine⟨m',o,?_,h2,x,_,l1,l2,u,vs,X,⟨hx,rfl,hrd⟩,hF⟩;unfold Gi;exact Ae (hm.isM_eq hw) (Ae (Bp1 (hm.fit hw)) (Ae h1 rfl))
def Ar0(x c:Int×Int):Ct c (Az x c)=(0,0):=by
 have h:∀a d:Int,vb (bv d&&&bv (Abw a d))=0:=λa d=>by
  have e:bv d&&&bv (Abw a d)=0#32:=by
   apply BitVec.eq_of_getLsbD_eq;intro i hi
   have:=Bo (a,0) (d,0) (f:=i) hi 1
   have h1:CW (Abw a d) i=(CW a i&&!CW d i):=this;rw[f7_];show(CW d i&&CW (Abw a d) i)=_;rw[h1];cases CW d i<;>cases CW a i<;>simp
  rw[e];rfl
 exact Prod.ext (h x.1 c.1) (h x.2 c.2)
def Ax9(c:Int×Int):Ct c (0,0)=(0,0):=by
 have h:∀d:Int,vb (bv d&&&bv 0)=0:=λd=>by rw[show bv 0=0#32 from rfl,BitVec.and_zero];rfl
 exact Prod.ext (h c.1) (h c.2)
def IF(l:List Calls)(k:Nat):Int×Int:=((l.getD k noP).Up,(l.getD k noP).X3)
def La(l:List Calls):Nat→Int×Int
 |0=>(0,0)
 |k+1=>BS (La l k) (IF l k)
def Ahp{l:List Calls}(r:List Calls){k:Nat}(h:k<l.length):(l++r).getD k noP=l.getD k noP:=by rw[k_,k_,c1_ h]
def Aax{l:List Calls}(r:List Calls):∀k,k≤l.length→La (l++r) k=La l k
 |0,_=>rfl
 |k+1,h=>by show BS (La (l++r) k) (IF (l++r) k)=BS (La l k) (IF l k);rw[Aax r k ω];unfold IF;rw[Ahp r ω]
structure Apart(s:Lan):Prop where
 cl:La s.lit s.lit.length=s.cl
 ap:∀k,k<s.lit.length→Ct (La s.lit k) (IF s.lit k)=(0,0)
def Apart.step{ps:List Calls}{s:Lan}(h:Apart s)(i:Nat):Apart (Ky b vs ps i s):=by
 have hn:IF (s.lit++[Calls.mk (MJ b vs i s).1 (MJ b vs i s).2]) s.lit.length=MJ b vs i s:=by unfold IF;rw[k_,c7_ (y_ _),Nat.sub_self];rfl
 refine⟨?_,λk hk=>?_⟩
 ·show La (s.lit++[_]) (s.lit++[_]).length=BS s.cl (MJ b vs i s);rw[h_];show BS (La (s.lit++[_]) s.lit.length) (IF (s.lit++[_]) s.lit.length)=_;rw[Aax _ _ (y_ _),h.cl,hn]
 ·have hk:k<(s.lit++[Calls.mk (MJ b vs i s).1 (MJ b vs i s).2]).length:=hk;rw[h_,H_]at hk;show Ct (La (s.lit++[_]) k) (IF (s.lit++[_]) k)=_;rw[Aax _ _ ω];by_cases e:k<s.lit.length
  ·rw[show IF (s.lit++[Calls.mk (MJ b vs i s).1 (MJ b vs i s).2]) k=IF s.lit k by unfold IF;rw[Ahp _ e]];exact h.ap k e
  ·obtain rfl:k=s.lit.length:=ω;rw[hn,h.cl];exact Ar0 _ _
def Apart.fold{b:E}{vs:List View}{ps:List Calls}:∀(n i:Nat) {s:Lan},Apart s→Apart (AM (Ky b vs ps) n i s)
 |0,_,_,h=>h
 |n+1,i,_,h=>Apart.fold n (i+1) (h.step i)
def Ams(n k:Nat):IF (List.replicate n noP) k=(0,0):=by unfold IF;rw[k_,List.getElem?_replicate];split<;>rfl
def Apn(b:E)(m:H)(xs:List Int)(vs:List View)(ps:List Calls)(press:Int×Int)(good:Bool):∀k,k<vs.length→Ct (La (Eu b m xs vs ps press good).lan.lit k) (IF (Eu b m xs vs ps press good).lan.lit k)=(0,0):=λk hk=>by
 have hl:=(Aiv b m xs vs ps press good).1;rw[Zj]at hl⊢;cases good with
 |true=>exact(Apart.fold vs.length 0 (s:=Lan.none) ⟨rfl,λk h=>absurd h (d5_ k)⟩).ap k (by rw[← hl]at hk;exact hk)
 |false=>show Ct _ (IF (List.replicate vs.length noP) k)=_;rw[Ams];exact Ax9 _
def Hu(m:H)(c:Nat):Prop:=B m c=1∨B m c=2∨B m c=3∨lvA m c=A
def Ug{n:H}(h1:B n c=B m c)(h2:lvA n c=lvA m c)(h:Hu n c):Hu m c:=by unfold Hu at h⊢;rw[h1,h2]at h;exact h
def Brn(hr:Jr b r)(n:H)(hc:r.R0≠(c:Int)):B (Ak n r) c=B n c∧lvA (Ak n r) c=lvA n c:=by
 obtain⟨i,k,v,_,rfl,h⟩:=hr;have hic:i≠c:=λe=>hc (by rw[e]);have hk:k=4∨k=5∨k=6:=ω;rcases hk with rfl | rfl | rfl
 ·exact⟨BZ _ _ hic,rfl⟩
 ·exact⟨rfl,rfl⟩
 ·exact⟨rfl,BZ _ _ hic⟩
def Ats{b:E}{c:Nat}:∀{l:List J}(n:H),(∀r∈l,Jr b r)→(∀r∈l,r.R0≠(c:Int))→B (Ai n l) c=B n c∧lvA (Ai n l) c=lvA n c
 |[],_,_,_=>⟨rfl,rfl⟩
 |r::l,n,h1,h2=>by obtain⟨e1,e2⟩:=Brn (h1 r (p_ ..)) n (h2 r (p_ ..));obtain⟨e3,e4⟩:=Ats (l:=l) (Ak n r) (λr hr=>h1 r (r_ _ hr)) λr hr=>h2 r (r_ _ hr);exact⟨e3.trans e1,e4.trans e2⟩
def Bdl{calm fr:Bool}(hi:i<b.B0.length)(h:Hu (Ai m (LO m kind i calm fr).1) c):Hu m c∨(fr=A∧c=i):=by
 by_cases e:c=i
 ·subst e;have same:∀{l:List J},(l=[]∨∃v,l=[⟨5,0,0,(c:Int),v⟩])→Hu (Ai m l) c→Hu m c:=λhl h=>by
   rcases hl with rfl | ⟨v,rfl⟩
   ·exact h
   ·exact h
  unfold LO NJ at h;cases h0:kind==0 with
  |true=>rw[h0]at h;exact .inl h
  |false=>
  rw[h0]at h;simp only[c_]at h;have ite:∀{q:Bool}{x y:List J×Int},Hu (Ai m (bif q then x else y).1) c→(q=A∧Hu (Ai m x.1) c)∨Hu (Ai m y.1) c:=λ{q x y} h=>by
   cases q with
   |true=>exact .inl ⟨rfl,h⟩
   |false=>exact .inr h
  have ph:∀{q:Bool}{p:Int},(q&&B m c==p)=A→B m c=p:=λh=>by rw[e_,U_]at h;exact h.2
  rcases ite h with⟨_,h⟩ | h
  ·rcases ite h with⟨h,_⟩ | h
   ·exact .inr ⟨h,rfl⟩
   ·exact .inl h
  rcases ite h with⟨q,_⟩ | h
  ·exact .inl (.inl (ph q))
  rcases ite h with⟨q,_⟩ | h
  ·exact .inl (.inr (.inl (ph q)))
  rcases ite h with⟨q,_⟩ | h
  ·simp only[e_]at q;exact .inl (.inr (.inr (.inr q.2.2)))
  rcases ite h with⟨q,_⟩ | h
  ·exact .inl (.inr (.inl (ph q)))
  rcases ite h with⟨q,_⟩ | h
  ·exact .inl (.inr (.inr (.inl (ph q))))
  rcases ite h with⟨q,_⟩ | h
  ·exact .inl (.inr (.inr (.inl (ph q))))
  rcases ite h with⟨_,h⟩ | h
  ·rcases ite h with⟨h,_⟩ | h
   ·exact .inr ⟨h,rfl⟩
   ·exact .inl h
  rcases ite h with⟨_,h⟩ | h
  ·exact .inl h
  ·exact .inl h
 ·left;have ok:=(YN (b:=b) m kind hi calm fr).1;obtain⟨e1,e2⟩:=Ats (c:=c) m ok λr hr q=>e (by have:=(VJ hr).1;omega);exact Ug e1 e2 h
def Ax2{n:Nat}(ok:∀r∈DL m cm n,Jr b r)(h:Hu (Ai m (DL m cm n)) c):Hu m c:=by
 by_cases q:∃r∈DL m cm n,r.R0=(c:Int)
 ·obtain⟨r,hr,hc⟩:=q;obtain⟨i,_,h2,hg,_⟩:=Aaz hr;obtain rfl:i=c:=ω;unfold On HJ at hg;simp only[e_,R_,U_]at hg;rcases hg.2.1 with h | h
  ·exact .inl h
  ·exact .inr (.inr (.inr h.2))
 ·obtain⟨e1,e2⟩:=Ats (c:=c) m ok λr hr e=>q ⟨r,hr,e⟩;exact Ug e1 e2 h
def Am6{fr:Bool}(hi:i<b.B0.length)(h:Hu (Ai m (Ir b m kind i cm fr)) c):Hu m c∨(fr=A∧c=i):=by have ok:=Xa m kind hi cm fr;unfold Ir at h ok;rw[Eh]at h;exact Bdl hi (Ax2 (λr hr=>ok r (aK _ hr)) h)
def Bhw(hb:b.code=0)(hp:m.G0.length=b.B0.length)(hl':m.J0.length=b.B0.length)(h:CV m.G0 m.O0 m.J0 m.A0=L ((A,()),())):∀c,c<b.B0.length→¬Hu m c:=by
 have hcc:=Aj hb;have hl:Sat (Gq (((),m.G0,(m.G0.length:Int),(0:Int),()),(m.tup,()))) λy=>(y=.inl ((),())∧∀c,c<b.B0.length→¬Hu m c)∨y=.inr ((D,()),()):=by
  unfold Gq;refine Sat.loop (λ(k:Nat) z=>∃i:Nat,z=(((),m.G0,(m.G0.length:Int),(i:Int),()),(m.tup,()))∧i+k=m.G0.length∧∀c,c<i→¬Hu m c) (λk z hz=>?_) m.G0.length ⟨0,rfl,o_ _,λc h=>absurd h (d5_ c)⟩ ω;obtain⟨i,rfl,hk,hn⟩:=hz;show Sat (Kl m.G0 (m.G0.length:Int) (i:Int) m.G0 m.O0 m.J0 m.A0) _;unfold Kl;refine aE (λq=>?_) λq=>?_
  ·have q:(i:Int)<(m.G0.length:Int):=m_ q;have i1:inB (i:Int) m.G0.length=A:=Ac ω q;have i2:inB (i:Int) m.J0.length=A:=Ac ω ω;have w:=CK (n:=i) ω;refine Sat.bifT i1 (aE (λ_=>aB (.inr rfl)) λn1=>aE (λ_=>aB (.inr rfl)) λn2=>aE (λ_=>aB (.inr rfl)) λn3=>Sat.bifT i2 (aE (λ_=>aB (.inr rfl)) λn4=>aB ⟨k-1,ω,i+1,(by rw[← w];rfl),ω,λc hc=>?_⟩));by_cases e:c=i
   ·subst e;have n1:(B m c==1)=D:=n1;have n2:(B m c==2)=D:=n2;have n3:(B m c==3)=D:=n3;have n4:lvA m c=D:=n4;simp only[beq_eq_false_iff_ne]at n1 n2 n3;unfold Hu;rw[n4];simp[n1,n2,n3]
   ·exact hn c ω
  ·have q:¬(i:Int)<(m.G0.length:Int):=D_ q;exact aB (.inl ⟨rfl,λc hc=>hn c ω⟩)
 obtain⟨y,h1,h2⟩:=hl;unfold CV at h;have h1':Gq (((),m.G0,(m.G0.length:Int),(0:Int),()),((m.G0,m.O0,m.J0,m.A0,()),()))=L y:=h1;rw[h1']at h;rcases h2 with⟨_,h2⟩ | rfl
 ·exact h2
 ·cases h
def One(b:E)(m:H):Prop:=∀c d,c<b.B0.length→d<b.B0.length→Hu m c→Hu m d→c=d
section
variable{b:E}(hw:BW b){m:Mch}{x:Inp}{g:Bool}{m':Mch}{o:Outputs}{l1 l2:List J}{u:Mch}{vs:List View}{X:Rnd}(h:TickF b m x g m' o l1 l2 u vs X)
include hw h
theorem TickF.one(hm:PM b m)(h1:One b m.D0):One b m'.D0:=by
 have e1:=(h.rest hw).1;have e2:m'.D0.J0=u.D0.J0:=by rw[h.img,← h.rg.img];exact(XV (l:=X.recs) u.D0 λr hr=>h.recs_kd hw r hr).2.2
 have b1:∀c,Hu m'.D0 c→Hu u.D0 c:=λc hc=>Ug (by unfold B;rw[e1]) (by unfold lvA;rw[e2]) hc;obtain⟨p1,p2⟩:=Aj5 (l:=l1) m.D0 h.fl;have b2:∀c,Hu (Ai m.D0 l1) c→Hu m.D0 c:=λc hc=>Ug (by unfold B;rw[p1]) (by unfold lvA;rw[p2]) hc;intro c d hc hd hbc hbd;have hbc:=b1 c hbc;have hbd:=b1 d hbd;rw[h.iu]at hbc hbd;cases hg:g with
 |false=>
  rcases h.op with⟨_,rfl⟩ | ⟨q,_⟩
  ·exact h1 c d hc hd (b2 c hbc) (b2 d hbd)
  ·rw[hg]at q;cases q
 |true=>
  obtain⟨i,cm,fr,hi,rfl,hf,_⟩:=h.free hg;have k1:=Am6 hi hbc;have k2:=Am6 hi hbd;cases fr with
  |true=>
   have no:=Bhw hw.code (by rw[p1];exact hm.jst.img.lp) (by rw[p2];exact hm.jst.img.ll) hf;rcases k1 with k1 | ⟨_,k1⟩
   ·exact absurd k1 (no c hc)
   ·rcases k2 with k2 | ⟨_,k2⟩
    ·exact absurd k2 (no d hd)
    ·rw[k1,k2]
  |false=>
   rcases k1 with k1 | ⟨k1,_⟩
   ·rcases k2 with k2 | ⟨k2,_⟩
    ·exact h1 c d hc hd (b2 c k1) (b2 d k2)
    ·cases k2
   ·cases k1
end
def Ve(l:List aF)(k:Nat):Int×Int:=((l.getD k C).K2,(l.getD k C).G2)
def JD(l:List aF):Nat→Int×Int
 |0=>(0,0)
 |k+1=>BS (JD l k) (Ve l k)
def Akv(hl:l.length≤100000)(h:∀k,k<l.length→Ct (JD l k) (Ve l k)=(0,0)):KL l=L (((),D,()),(((JD l l.length).1,(JD l l.length).2,()),())):=by
 have q:Je (((),(),D,l,(l.length:Int),(0:Int),()),(((0:Int),(0:Int),()),((0:Int),(0:Int),()),()))=L (((),(),D,()),(((0:Int),(0:Int),()),((JD l l.length).1,(JD l l.length).2,()),())):=Ht hl (λi=>(((),(),D,l,(l.length:Int),(i:Int),()),(((0:Int),(0:Int),()),((JD l i).1,(JD l i).2,()),()))) (λi hi=>by
  have e1:Cp (JD l i).1 (JD l i).2 (l.getD i C).K2 (l.getD i C).G2=_:=FV (JD l i) (Ve l i);have e2:Cm (JD l i).1 (JD l i).2 (l.getD i C).K2 (l.getD i C).G2=_:=Fb (JD l i) (Ve l i);rw[h i hi]at e1;show GW D l (l.length:Int) (i:Int) 0 0 (JD l i).1 (JD l i).2=_;unfold GW;rw[Qq hi,Ju hi];simp only[d_,c_,j_];have w:=KG hl hi;exact Ae (Ae e1 rfl) (Ae e2 (by rw[← w];rfl))) (by
  show GW D l (l.length:Int) (l.length:Int) 0 0 (JD l l.length).1 (JD l l.length).2=_;unfold GW;rw[Np];rfl)
 unfold KL;rw[q];rfl
def Af4{p a d:Int}{k:Bool}(h:Ajo p a d k):NR p a d k=L ((A,()),()):=by
 unfold NR;rcases h with⟨rfl,rfl,rfl⟩ | ⟨h,rfl⟩
 ·rfl
 ·cases((a==0)&&((d==0)&&A))with
  |true=>rfl
  |false=>exact Ae (Ae (Uu p) rfl) (by rw[h])
def ZV{p c:Int}(h:Te p c=A):EU p c=L ((A,()),()):=by
 unfold EU;unfold Te at h;cases h0:c==0 with
 |true=>rfl
 |false=>
  rw[h0]at h;cases h1:p==3 with
  |true=>rfl
  |false=>rw[h1]at h;have h:(p==4)=A:=h;show L ((p==4,()),())=_;rw[h]
def Axz(hl:l.length≤100000)(h:∀k,k<l.length→Ajo (l.getD k C).N1 (l.getD k C).E2 (l.getD k C).V1 (l.getD k C).I2):NN l=L ((A,()),()):=by
 have q:Mc ((l,(l.length:Int),(0:Int),()),())=L (.inl ((),())):=Ht hl (λi=>((l,(l.length:Int),(i:Int),()),())) (λi hi=>by
  show Jk l (l.length:Int) (i:Int)=_;unfold Jk;rw[Qq hi,Ju hi,KG hl hi];simp only[d_,j_];exact Ae (Af4 (h i hi)) rfl) (by
  show Jk l (l.length:Int) (l.length:Int)=_;unfold Jk;rw[Np];rfl)
 unfold NN;exact Ae q rfl
def Aku(hl:l.length≤100000)(h:∀k,k<l.length→Te (l.getD k C).N1 (l.getD k C).N3=A):KK l=L ((A,()),()):=by
 have q:Jd ((l,(l.length:Int),(0:Int),()),())=L (.inl ((),())):=Ht hl (λi=>((l,(l.length:Int),(i:Int),()),())) (λi hi=>by
  show GV l (l.length:Int) (i:Int)=_;unfold GV;rw[Qq hi,Ju hi,KG hl hi];simp only[d_,j_];exact Ae (ZV (h i hi)) rfl) (by
  show GV l (l.length:Int) (l.length:Int)=_;unfold GV;rw[Np];rfl)
 unfold KK;exact Ae q rfl
def At5{a z:Int}(h:Zy a z):SX a z=L ((A,()),()):=by rcases h with⟨rfl,rfl⟩ | ⟨rfl,rfl⟩ | ⟨rfl,rfl⟩ | ⟨rfl,rfl⟩ | ⟨rfl,rfl⟩ | ⟨rfl,rfl⟩ | ⟨rfl,rfl⟩ | ⟨rfl,rfl⟩<;>decide+kernel
def Ax0{p:List aF}(hl:l.length≤100000)(hp:p.length=l.length)(h:∀k,k<l.length→(l.getD k C).N1=(p.getD k C).N1∨Zy (p.getD k C).N1 (l.getD k C).N1):NO p l=L ((A,()),()):=by
 have q:Md ((p,l,(l.length:Int),(0:Int),()),())=L (.inl ((),())):=Ht hl (λi=>((p,l,(l.length:Int),(i:Int),()),())) (λi hi=>by
  show Jl p l (l.length:Int) (i:Int)=_;unfold Jl;rw[hp,Qq hi,Ju hi];simp only[d_,j_];have w:=KG hl hi;refine Ae (a:=((p,l,(l.length:Int),(i:Int),D,()),())) ?_ (by rw[← w];rfl);cases q:(l.getD i C).N1 !=(p.getD i C).N1 with
  |false=>show(bif(l.getD i C).N1 !=(p.getD i C).N1 then _ else _)=_;rw[q];rfl
  |true=>
   rcases h i hi with e | e
   ·rw[e]at q;simp at q
   ·show(bif(l.getD i C).N1 !=(p.getD i C).N1 then _ else _)=_;rw[q,d_];exact Ae (At5 e) rfl) (by
  show Jl p l (l.length:Int) (l.length:Int)=_;unfold Jl;rw[Np];rfl)
 unfold NO;exact Ae q rfl
def tr3(p:Int):Prop:=p=1∨p=2∨p=3
def Aod(hl:l.length≤100000)(h:∀k j,k<l.length→j<l.length→tr3 (l.getD k C).N1→tr3 (l.getD j C).N1→k=j):Sat (LR l) λy=>∃n:Int,y=((n,()),())∧n≤1:=by
 have q:Sat (Hx (((0:Int),l,(l.length:Int),(0:Int),()),())) λy=>∃n:Int,y=((n,()),())∧n≤1:=by
  unfold Hx;refine Sat.loop (λ(k:Nat) z=>∃(i:Nat) (n:Int),z=((n,l,(l.length:Int),(i:Int),()),())∧i+k=l.length∧(n=0∨(n=1∧∃j,j<i∧tr3 (l.getD j C).N1))) (λk z hz=>?_) l.length ⟨0,0,rfl,o_ _,.inl rfl⟩ ω;obtain⟨i,n,rfl,hk,hn⟩:=hz;show Sat (Nx n l (l.length:Int) (i:Int)) _;unfold Nx;refine aE (λq=>?_) λq=>aB ⟨n,rfl,ω⟩;have q:(i:Int)<(l.length:Int):=m_ q;have w:=CK (n:=i) ω;have no:∃k',k=k'+1∧∃(i':Nat) (n':Int),(((n,l,(l.length:Int),aG.wrap ((i:Int)+1),()),()):(Int×List aF×Int×Int×Unit)×Unit)=((n',l,(l.length:Int),(i':Int),()),())∧i'+k'=l.length∧(n'=0∨(n'=1∧∃j,j<i'∧tr3 (l.getD j C).N1)):=by
   refine⟨k-1,ω,i+1,n,by rw[← w],ω,?_⟩;rcases hn with h | ⟨h,j,h1,h2⟩
   ·exact .inl h
   ·exact .inr ⟨h,j,ω,h2⟩
  have yes:tr3 (l.getD i C).N1→∃k',k=k'+1∧∃(i':Nat) (n':Int),(((aA aG (n+1),l,(l.length:Int),aG.wrap ((i:Int)+1),()),()):(Int×List aF×Int×Int×Unit)×Unit)=((n',l,(l.length:Int),(i':Int),()),())∧i'+k'=l.length∧(n'=0∨(n'=1∧∃j,j<i'∧tr3 (l.getD j C).N1)):=λht=>by
   have h0:n=0:=by
    rcases hn with h0 | ⟨_,j,h1,h2⟩
    ·exact h0
    ·exact absurd (h j i ω ω h2 ht) ω
   subst h0;exact⟨k-1,ω,i+1,1,by rw[← w];rfl,ω,.inr ⟨rfl,i,ω,ht⟩⟩
  refine Sat.bifT (Ac ω q) ?_;by_cases p1:(l.getD i C).N1=1
  ·exact Sat.bindE (show(bif(l.getD i C).N1==1 then _ else _)=_ by rw[p1];rfl) (Sat.bifT rfl (aB (yes (.inl p1))))
  by_cases p2:(l.getD i C).N1=2
  ·exact Sat.bindE (show(bif(l.getD i C).N1==1 then _ else bif(l.getD i C).N1==2 then _ else _)=_ by rw[p2];rfl) (Sat.bifT rfl (aB (yes (.inr (.inl p2)))))
  refine Sat.bindE (show(bif(l.getD i C).N1==1 then _ else bif(l.getD i C).N1==2 then _ else _)=_ by rw[An p1,An p2];rfl) (aE (λq=>aB (yes (.inr (.inr ?_)))) λ_=>aB no);have q:((l.getD i C).N1==3)=A:=q;simpa using q
 obtain⟨y,h1,n,rfl,h2⟩:=q;refine⟨_,?_,n,rfl,h2⟩;unfold LR;exact Ae h1 rfl
def Bbf{n0 n1 n2:Nat}(h1:n1<256)(h2:n2<256):BW (FD (HH n0) (Hv n0) n1 n2):=by
 have hf:(2≤HH n0∧HH n0≤6)∧1≤Hv n0∧Hv n0≤3:=by unfold HH Hv;omega
 obtain⟨g1,g2,g3,_,_,g6⟩:=Aoe (n1:=n1) (n2:=n2) hf.1 hf.2 h1 h2;have hl:(arF .sub .f64 (AI 2 1).L0 4589168020290535424).isSome=A∧(arF .sub .f64 (AI 2 1).N0 4589168020290535424).isSome=A:=by decide+kernel
 obtain⟨a,ha⟩:=Option.isSome_iff_exists.1 hl.1;obtain⟨c,hc⟩:=Option.isSome_iff_exists.1 hl.2;exact⟨g1,g2,g6,⟨a,ha,trivial⟩,⟨c,hc,trivial⟩⟩
def Bpr{n0 n1 n2:Int}(h0:0≤n0∧n0<256)(h1:0≤n1∧n1<256)(h2:0≤n2∧n2<256):∃b:E,EZ n0 n1 n2=L (((),()),(b.tup,()))∧BW b∧PM b (JA b).1:=by obtain⟨k0,rfl⟩:=e2_ h0.1;obtain⟨k1,rfl⟩:=e2_ h1.1;obtain⟨k2,rfl⟩:=e2_ h2.1;have hw:=Bbf (n0:=k0) (n1:=k1) (n2:=k2) ω ω;exact⟨_,ZQ (n0:=k0) (n1:=k1) (n2:=k2) ω ω ω,hw,(TN hw).1⟩
def Ahl{S:Type}(f:Nat→S→S):∀(k i:Nat) (s:S),AM f (k+1) i s=f (i+k) (AM f k i s)
 |0,_,_=>rfl
 |k+1,i,s=>by show AM f (k+1) (i+1) (f i s)=_;rw[Ahl f k (i+1),show i+1+k=i+(k+1)by omega];rfl
def Aju(a:Nat)(s:ByteArray):bl (tl a s)=(bl s).drop a:=by unfold tl;rw[NI,← Ev s];exact a7_ (by rw[V_];exact y_ _)
def Blf(a i:Nat)(s:ByteArray):byN (tl a s) i=byN s (a+i):=by unfold byN;rw[Aju,k_,k_,c2_]
def QW(a c:Nat)(s:ByteArray):tl a (tl c s)=tl (c+a) s:=by apply Py;rw[Aju,Aju,Aju,List.drop_drop]
def Uh(a i:Nat)(s:ByteArray):AC s (a+i)=AC (tl a s) i:=by rw[FU,FU];exact c0_ Int.ofNat (Blf a i s).symm
def SR(s:ByteArray)(a:Nat):∀k,Zl s a k=leV (tl a s) k
 |0=>rfl
 |k+1=>by show AM (Bec s a) (k+1) 0 0=_;rw[Ahl,o_];show At4 (Zl s a k) _=orL (leV (tl a s) k) _;rw[SR s a k,Uh,show Int.toNat (8*(k:Int))=8*k by omega];rfl
def rdC(c:aD):aD:=CarInput.mk (aA aH c.V0) c.T1 c.F1 c.G1 c.W0 c.M1 c.Y0 c.B1 c.Q1 (aA aH c.B2) (c.G3%2^64)
def Ya(n:Int)(k:Nat):Bool:=IntKind.u8.wrap (stk (Int.fdiv n ((2:Int)^min k (IntKind.bits .u8))) 1 (BitVec.toNat ((BitVec.ofInt (IntKind.bits IntKind.u8) (Int.fdiv n ((2:Int)^min k (IntKind.bits .u8))))&&&(BitVec.ofInt (IntKind.bits IntKind.u8) 1))))==1
def Brd(a b c d e f:Bool):(0≤AM (Px [a,b,c,d,e,f]) 6 0 0∧AM (Px [a,b,c,d,e,f]) 6 0 0<64)∧Ya (AM (Px [a,b,c,d,e,f]) 6 0 0) 0=a∧Ya (AM (Px [a,b,c,d,e,f]) 6 0 0) 1=b∧Ya (AM (Px [a,b,c,d,e,f]) 6 0 0) 2=c∧Ya (AM (Px [a,b,c,d,e,f]) 6 0 0) 3=d∧Ya (AM (Px [a,b,c,d,e,f]) 6 0 0) 4=e∧Ya (AM (Px [a,b,c,d,e,f]) 6 0 0) 5=f:=by cases a<;>cases b<;>cases c<;>cases d<;>cases e<;>cases f<;>decide+kernel
def Bib(n:Nat):nmB ((n%2^64:Nat):Int) 8=nmB (n:Int) 8:=by
 unfold nmB Abz;congr 1;refine List.map_congr_left λi hi=>?_;have hi:=List.mem_range.1 hi;rw[X_ _ (Int.le_of_lt (Int.pow_pos τ)),X_ _ (Int.le_of_lt (Int.pow_pos τ))];have e:IntKind.u8.wrap=λm:Int=>m%256:=by funext m;simp only[aA,IntKind.signed,IntKind.bits];simp
 rw[e];have h:i=0∨i=1∨i=2∨i=3∨i=4∨i=5∨i=6∨i=7:=ω;rcases h with rfl | rfl | rfl | rfl | rfl | rfl | rfl | rfl
 ·show((n%18446744073709551616:Nat):Int)/1%256=(n:Int)/1%256;omega
 ·show((n%18446744073709551616:Nat):Int)/256%256=(n:Int)/256%256;omega
 ·show((n%18446744073709551616:Nat):Int)/65536%256=(n:Int)/65536%256;omega
 ·show((n%18446744073709551616:Nat):Int)/16777216%256=(n:Int)/16777216%256;omega
 ·show((n%18446744073709551616:Nat):Int)/4294967296%256=(n:Int)/4294967296%256;omega
 ·show((n%18446744073709551616:Nat):Int)/1099511627776%256=(n:Int)/1099511627776%256;omega
 ·show((n%18446744073709551616:Nat):Int)/281474976710656%256=(n:Int)/281474976710656%256;omega
 ·show((n%18446744073709551616:Nat):Int)/72057594037927936%256=(n:Int)/72057594037927936%256;omega
section
variable{b:E}(hb:b.small)
include hb
theorem Ayz{n:Int}(h:flV b n=A):aC.wrap (aA aH n)=aC.wrap n:=by
 obtain⟨h3,h4⟩:C2 b.C0 (aA aC n):=Acl.1 h;have h2:=An0 hb;have e1:aC.wrap n=n%18446744073709551616:=by simp only[aA,IntKind.signed,IntKind.bits];simp
 have e2:aH.wrap n=n%4294967296:=by simp only[aA,IntKind.signed,IntKind.bits];simp
 rw[CN ω ω,e2,e1];omega
theorem Az2{c:aD}(h:Ec b c=A):Ec b (rdC c)=A∧∀t,JE t (rdC c)=JE t c:=by
 unfold Ec at h⊢;simp only[e_]at h;have e1:=Ayz hb h.1;have e2:=Ayz hb h.2.1;refine⟨?_,λt=>?_⟩
 ·unfold rdC flV;simp only[e1,e2];have h1:=h.1;have h2:=h.2.1;unfold flV at h1 h2;rw[h1,h2,h.2.2.1,h.2.2.2];rfl
 ·unfold JE rdC;simp only[e1,e2,Bib]
theorem Ag3{a:Nat}{c:aD}(hc:Ec b c=A){l:List aD}{R:ByteArray}(h:tl a s=HN (c::l)++R):Ye s a=rdC c∧tl (a+19) s=HN l++R:=by
 have lo:=hb.lo;have hi:=hb.hi;unfold Ec at hc;simp only[e_,Ao]at hc;obtain⟨_,_,h3,h4⟩:=hc;rw[UM]at h;simp only[aI]at h;have u:∀n:Int,0≤n∧n<256→aC.wrap n=n:=λn h=>CN h.1 ω;have t4:=(QW 4 a s).symm.trans ((c0_ (tl 4) h).trans (CJ (AB _ 4) _));have t5:=(QW 1 (a+4) s).symm.trans ((c0_ (tl 1) t4).trans (CJ (Nh _) _));have t6:=(QW 1 (a+5) s).symm.trans ((c0_ (tl 1) t5).trans (CJ (AB _ 1) _));have t7:=(QW 1 (a+6) s).symm.trans ((c0_ (tl 1) t6).trans (CJ (AB _ 1) _));have t11:=(QW 4 (a+7) s).symm.trans ((c0_ (tl 4) t7).trans (CJ (AB _ 4) _));have t19:=(QW 8 (a+11) s).symm.trans ((c0_ (tl 8) t11).trans (CJ (AB _ 8) _));refine⟨?_,t19⟩;obtain⟨g0,g1,g2,g3,g4,g5,g6⟩:=Brd c.T1 c.F1 c.G1 c.W0 c.Y0 c.Q1;have hbit:∀k,VZ s (a+4) k=Ya (AM (Px [c.T1,c.F1,c.G1,c.W0,c.Y0,c.Q1]) 6 0 0) k:=λk=>by
  have e:AC s (a+4)=AM (Px [c.T1,c.F1,c.G1,c.W0,c.Y0,c.Q1]) 6 0 0:=by rw[show a+4=(a+4)+0 from rfl,Uh,t4,FU];exact LJ (n:=AM (Px [c.T1,c.F1,c.G1,c.W0,c.Y0,c.Q1]) 6 0 0) ω _
  unfold VZ Ya;rw[e]
 have hby:∀(k:Nat) {n:Int}{r:ByteArray},tl (a+k) s=nmB (aA aC n) 1++r→0≤n∧n<256→aG.wrap (AC s (a+k))=n:=λk n r ht hn=>by rw[show a+k=(a+k)+0 from rfl,Uh,ht,FU,u n hn];have e:(((bl (nmB n 1++r)).getD 0 0).toNat:Int)=n:=LJ hn r;rw[e];exact Aa ω ω
 unfold Ye rdC;rw[hbit,hbit,hbit,hbit,hbit,hbit,g1,g2,g3,g4,g5,g6,hby 5 t5 ω,hby 6 t6 ω,SR,SR,SR,h,t7,t11,OO,OO,Aml _ τ ω,j_,j_]
end
def Ang{b:E}(hb:b.small){s R:ByteArray}:∀{l:List aD}{a:Nat},(∀c∈l,Ec b c=A)→tl a s=HN l++R→∀i,i<l.length→Ye s (a+19*i)=rdC (l.getD i Ed)
 |c::l,a,hl,h,0,_=>(Ag3 hb (hl c (p_ ..)) h).1
 |c::l,a,hl,h,i+1,hi=>by
  have h2:=(Ag3 hb (hl c (p_ ..)) h).2
  have:=Ang hb (l:=l) (a:=a+19) (λx hx=>hl x (r_ _ hx)) h2 i (by rw[B_]at hi;omega)
  rw[show a+19*(i+1)=a+19+19*i by omega,this];rfl
def Aqe{b:E}(hb:b.small):∀{l:List aD}(t:ByteArray),(∀c∈l,Ec b c=A)→(l.map rdC).foldl JE t=l.foldl JE t
 |[],_,_=>rfl
 |c::l,t,h=>by rw[b8_,f2_,f2_,(Az2 hb (h c (p_ ..))).2];exact Aqe hb _ λx hx=>h x (r_ _ hx)
def Inp.ext'{y:Inp}(h:x.tup=y.tup):x=y:=by obtain⟨⟨_,_⟩,_,_,_⟩:=x;obtain⟨⟨_,_⟩,_,_,_⟩:=y;unfold Inp.tup at h;simp only[e7_,and_true]at h;obtain⟨rfl,rfl,rfl,rfl,rfl⟩:=h;rfl
def Aub(hb:b.small)(hcode:b.code=0)(hx:HI b x=A)(hu:EC x.press)(ho:BX b (inV b x)=0):Xe b (inV b x)=(⟨x.press,x.kind,x.car,x.cars.map rdC⟩,0):=by
 have hc:=Aj hcode;have hx0:=hx;unfold HI at hx;simp only[e_,U_]at hx;obtain⟨h1,h2,h3,h4,h5,h6⟩:=hx;have h2':=Ao.1 h2;have h3':=Ao.1 h3;have hv:∀c∈x.cars,Ec b c=A:=I_.1 h6;have u:∀n:Int,0≤n∧n<256→aC.wrap n=n:=λn h=>CN h.1 ω;have es:inV b x=(nmB 165 1++nmB (aA aC (b.B0.length:Int)) 1)++(PJ x++Xl (x.cars.foldl JE (QM b x))):=by unfold inV Hm;rw[WG];unfold QM Rl PJ;simp only[aI]
 have t2:=(c0_ (tl 2) es).trans (CJ (show _=2 by rw[O_,AB,AB]) _);unfold PJ at t2;simp only[aI]at t2;have t6:=(QW 4 2 (inV b x)).symm.trans ((c0_ (tl 4) t2).trans (CJ (AB _ 4) _));have t10:=(QW 4 6 (inV b x)).symm.trans ((c0_ (tl 4) t6).trans (CJ (AB _ 4) _));have t11:=(QW 1 10 (inV b x)).symm.trans ((c0_ (tl 1) t10).trans (CJ (AB _ 1) _));have t12:=(QW 1 11 (inV b x)).symm.trans ((c0_ (tl 1) t11).trans (CJ (AB _ 1) _));have hby:∀(k:Nat) {n:Int}{r:ByteArray},tl k (inV b x)=nmB (aA aC n) 1++r→0≤n∧n<256→aG.wrap (AC (inV b x) k)=n:=λk n r ht hn=>by rw[show k=k+0 from rfl,Uh,ht,FU,u n hn];have e:(((bl (nmB n 1++r)).getD 0 0).toNat:Int)=n:=LJ hn r;rw[e];exact Aa ω ω
 have er:RJ b.B0.length (inV b x)=⟨x.press,x.kind,x.car,x.cars.map rdC⟩:=by
  unfold RJ Aj8;rw[SR,SR,t2,t6,OO,OO,VP hu.1,VP hu.2,hby 10 t10 ω,hby 11 t11 ω];congr 1;have hlen:x.cars.length=b.B0.length:=ω;refine List.ext_getElem (by rw[b2_,b2_,List.length_range,hlen]) λi h1 h2=>?_;have hi:i<x.cars.length:=by rw[b2_]at h2;exact h2
  rw[List.getElem_map,List.getElem_map,List.getElem_range,Ang hb hv t12 i hi,k_,i_ hi];rfl
 have e1:HI b ⟨x.press,x.kind,x.car,x.cars.map rdC⟩=A:=by unfold HI;simp only[h1,h2,h3,h4,b2_,h5,l_,z_];refine I_.2 λc hc=>?_;obtain⟨d,hd,rfl⟩:=b6_.1 hc;exact(Az2 hb (hv d hd)).1
 have e2:inV b ⟨x.press,x.kind,x.car,x.cars.map rdC⟩=inV b x:=by unfold inV;exact c0_ Hm (Aqe hb _ hv)
 unfold Xe;rw[ho,er,e1,e2,Ap6.2 rfl];rfl
end Go.Ovl
