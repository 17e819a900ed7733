import Derived.Test.YtphhlndnankhiaaGreatDoorOvG
import Derived.Test.YtphhlndnankhiaaGreatDoorOvF
import Derived.Test.YtphhlndnankhiaaGreatDoorOvE
import Derived.Test.YtphhlndnankhiaaGreatDoorOvA
set_option linter.all false
open Go.IntKind renaming wrap->A,i64->H,u64->I,u32->aB
open Go.Ovl.Sat renaming ret->B,bic->J,bindS->O,bifT->Y
open Go.Ovl renaming bv->C,vb->R,Bldg->S,View->U,nmB->V,CarInput->W
open Bool renaming false->E,true->N,and_eq_true_iff->aH,false_or->aI
open Int renaming tmod->X,toNat->Z,fdiv->aE,emod_lt_of_pos->aK
open Option renaming some->aA
open Nat renaming blt->aC
open Go.Ovl.View renaming mk->aD
open Min renaming min->aF
open Go.Ovl.CarInput renaming mk->aG
open ByteArray renaming mk->aJ
namespace Go.Ovl
open Go Go.Ab
set_option maxRecDepth 100000
noncomputable section
variable{b:S}{vs:List U}{n:Int}{s:ByteArray}{l:List Int}{x:Inp}{i:Nat}
def Og:List W→ByteArray
 |[]=>noB
 |c::l=>V (A I c.V0) 4++(LY [c.J2,c.S1,c.T1,c.D1,c.Y1,c.I2]++(V (A I c.N1) 1++(V (A I c.M1) 1++(V (A I c.D2) 4++(V ((c.J3:Nat):Int) 8++Og l)))))
def Aje(c:W)(l:List W):Og (c::l)=V (A I c.V0) 4++(LY [c.J2,c.S1,c.T1,c.D1,c.Y1,c.I2]++(V (A I c.N1) 1++(V (A I c.M1) 1++(V (A I c.D2) 4++(V ((c.J3:Nat):Int) 8++Og l))))):=rfl
def Ap8(s:ByteArray):s++noB=s:=Lh (by rw[JW,show bl noB=[]from rfl,a6_])
def Ady:∀(l:List W) (s:ByteArray),l.foldl Ou s=s++Og l
 |[],s=>(Ap8 s).symm
 |c::l,s=>by rw[e7_,Ady l,Aje];unfold Ou;simp only[e4_]
def WZ(x:Inp):ByteArray:=V (A I x.press.1) 4++(V (A I x.press.2) 4++(V (A I x.kind) 1++(V (A I x.car) 1++Og x.cars)))
def Aq0(b:S)(x:Inp):((inV b x).extract 0 ((inV b x).size-2)).extract 2 ((inV b x).size-2)=WZ x:=by
 have e:x.cars.foldl Ou (UG b x)=(V 165 1++V (A I (b.B0.length:Int)) 1)++WZ x:=by rw[Ady];unfold UG EM WZ;simp only[e4_]
 have h2:(V 165 1++V (A I (b.B0.length:Int)) 1).size=2:=by rw[y_,AA,AA]
 unfold inV;rw[KQ,Nat.add_sub_cancel];generalize x.cars.foldl Ou (UG b x)=t at e;have e1:(FZ t).extract 0 t.size=t:=by unfold FZ;apply Lh;rw[PF,JW,R_,Nat.sub_zero];exact e6_ (FE t)
 rw[e1,e];exact Hs h2 (WZ x)
def Ba1(n:Int):0≤I.wrap n∧I.wrap n<18446744073709551616:=by simp only[A,IntKind.signed,IntKind.bits];simp;exact⟨Int.emod_nonneg _ τ,aK _ τ⟩
def Bib(a b c d e f:Bool)(r:ByteArray):byN (LY [a,b,c,d,e,f]++r) 0≤63:=by
 have h:∀n:Int,0≤n∧n<64→byN (V n 1++r) 0≤63:=λn h=>by
  have:=Qt (n:=n) ω r
  omega
 refine h _ ?_;cases a<;>cases b<;>cases c<;>cases d<;>cases e<;>cases f<;>decide
section
variable{b:S}(hb:b.small)
include hb
theorem Baz:4≤2^b.C0.toNat∧2^b.C0.toNat≤(256:Nat):=by have lo:=hb.lo;have hi:=hb.hi;have h:b.C0.toNat=2∨b.C0.toNat=3∨b.C0.toNat=4∨b.C0.toNat=5∨b.C0.toNat=6∨b.C0.toNat=7∨b.C0.toNat=8:=ω;rcases h with h | h | h | h | h | h | h<;>rw[h]<;>decide
theorem Are(h:flV b n=N)(r:ByteArray):C2 b.C0 (A aB (leV (V (A I n) 4++r) 4)):=by have h1:C2 b.C0 (A I n):=Ak1.1 h;have h2:=Baz hb;obtain⟨h3,h4⟩:=h1;rw[Bdf ω];exact⟨h3,h4⟩
theorem Ap6{c:W}(h:Lm b c=N)(l:List W):Ck b (Og (c::l))∧rest (Og (c::l))=Og l:=by
 have lo:=hb.lo;have hi:=hb.hi;unfold Lm at h;simp only[e_]at h;obtain⟨h1,h2,h3,h4⟩:=h;have h3:=Ap.1 h3;have h4:=Ap.1 h4;have u:∀n:Int,0≤n∧n<256→I.wrap n=n:=λn h=>Dg h.1 ω;rw[Aje];have t1:=λr=>Hs (AA (A I c.V0) 4) r;have t2:=λr=>Hs (ER [c.J2,c.S1,c.T1,c.D1,c.Y1,c.I2]) r;have t3:=λr=>Hs (AA (A I c.N1) 1) r;have t4:=λr=>Hs (AA (A I c.M1) 1) r;have t5:=λr=>Hs (AA (A I c.D2) 4) r;have t6:=λr=>Hs (AA ((c.J3:Nat):Int) 8) r;refine⟨⟨?_,?_,?_,?_,?_,?_⟩,?_⟩
 ·simp only[y_,AA,ER];omega
 ·exact Are hb h1 _
 ·rw[t1];exact Bib ..
 ·rw[t1,t2,u _ ω,Qt ω];exact h3.2
 ·rw[t1,t2,t3,u _ ω,Qt ω];exact h4.2
 ·rw[t1,t2,t3,t4];exact Are hb h2 _
 ·unfold rest;rw[t1,t2,t3,t4,t5,t6]
theorem Aev:∀(l:List W),(∀c∈l,Lm b c=N)→∀j,j<l.length→Ck b (SQ j (Og l))
 |[],_,_,hj=>absurd hj (f8_ _)
 |c::l,h,0,_=>(Ap6 hb (h c (t_ ..)) l).1
 |c::l,h,j+1,hj=>by show Ck b (SQ j (rest (Og (c::l))));rw[(Ap6 hb (h c (t_ ..)) l).2];exact Aev l (λa ha=>h a (B_ _ ha)) j (by rw[x_]at hj;omega)
end
def Tc(n:Int)(r:ByteArray):aB.wrap (leV (V (A I n) 4++r) 4)=aB.wrap n:=by
 have h:=Ba1 n;rw[Am1 _ τ h.1];have e:I.wrap n=n%18446744073709551616:=by simp only[A,IntKind.signed,IntKind.bits];simp
 show aB.wrap (((A I n).toNat%4294967296:Nat):Int)=_;generalize I.wrap n=m at*;simp only[A,IntKind.signed,IntKind.bits];simp;omega
def Ayu(n:Int):C (A aB n)=C n:=by unfold C;apply BitVec.eq_of_toNat_eq;simp only[V_,A,IntKind.signed,IntKind.bits];simp
def Bi7(hb:b.small)(hcode:b.code=0)(h:Ob b x=N):Hd b (WZ x)∧(hdP b.B0.length (WZ x)).press=(A aB x.press.1,aB.wrap x.press.2)∧(hdP b.B0.length (WZ x)).kind=x.kind∧(hdP b.B0.length (WZ x)).car=x.car:=by
 have hc:=Am hcode;unfold Ob at h;simp only[e_,W_]at h;obtain⟨h1,h2,h3,h4,h5,h6⟩:=h;have h2:=Ap.1 h2;have h3:=Ap.1 h3;have u:∀n:Int,0≤n∧n<256→I.wrap n=n:=λn h=>Dg h.1 ω;have t1:=λr=>Hs (AA (A I x.press.1) 4) r;have t2:=λr=>Hs (AA (A I x.press.2) 4) r;have t3:=λr=>Hs (AA (A I x.kind) 1) r;have t4:=λr=>Hs (AA (A I x.car) 1) r;have hw:R (C x.press.1&&& ~~~ C (Bx b).1)=0∧R (C x.press.2&&& ~~~ C (Bx b).2)=0:=by
  unfold Fa isZ at h1;have h1:(AX x.press (Bx b)).1=0∧(AX x.press (Bx b)).2=0:=by simpa using h1
  exact h1
 have k1:∀r,((byN (V (A I x.kind) 1++r) 0:Nat):Int)=x.kind:=λr=>by rw[u _ ω,Qt ω]
 have k2:∀r,((byN (V (A I x.car) 1++r) 0:Nat):Int)=x.car:=λr=>by rw[u _ ω,Qt ω]
 unfold WZ;refine⟨⟨?_,?_,?_,?_,?_,?_,?_⟩,?_,?_,?_⟩
 ·simp only[y_,AA];omega
 ·rw[Tc,Ayu];exact hw.1
 ·rw[t1,Tc,Ayu];exact hw.2
 ·rw[t1,t2,k1];exact h2.2
 ·rw[t1,t2,t3,k2];exact h3.2
 ·rw[t1,t2,t3];intro q;have q1:=k1 (V (A I x.car) 1++Og x.cars);have q2:=k2 (Og x.cars);rw[q]at q1
  have:x.car=0:=by rw[← q1]at h4;simpa using h4
  omega
 ·rw[t1,t2,t3,t4];intro j hj;exact Aev hb x.cars (λc hc=>K_.1 h6 c hc) j ω
 ·unfold hdP;rw[t1,Tc,Tc]
 ·unfold hdP;rw[t1,t2];exact k1 _
 ·unfold hdP;rw[t1,t2,t3];exact k2 _
def Bbf(b:S)(x:Inp):Prop:=Ob b x=N∧Ef x.press
def Bhj(v:BitVec 32):0≤R v∧R v<4294967296:=by
 have:=v.isLt
 unfold R;omega
def FrX(b:S)(x:Inp)(s:ByteArray):Prop:=s.size=(inV b x).size∧s.extract 0 (s.size-2)=(inV b x).extract 0 (s.size-2)
def Fr(b:S)(s:ByteArray):Prop:=∃x,Bbf b x∧FrX b x s
def FrX.spoilt(h:FrX b x s)(r:ByteArray)(hr:r.size=1)(hs:1≤s.size):FrX b x (s.extract 0 (s.size-1)++r):=by
 have hz:(s.extract 0 (s.size-1)++r).size=s.size:=by rw[y_,hr,ByteArray.size_extract];omega
 refine⟨hz.trans h.1,?_⟩;rw[hz,← h.2];apply Lh;have hl:=FE s;rw[PF,PF,JW,PF];simp only[R_,Nat.sub_zero];rw[List.take_append_of_le_length (by rw[w_,hl];omega),List.take_take];congr 1;omega
def DV(b:S):Int:=aB.wrap (A aB (1*2^min (Z (A I b.C0)) (IntKind.bits .u32))-1)
def Aej(hb:b.small):0≤DV b∧DV b<2^b.C0.toNat∧2^b.C0.toNat≤(256:Int)∧(∀f:Nat,f<32→CU (DV b) f=N→(f:Int)<b.C0)∧(∀f:Nat,f<32→CU (aE (DV b) ((2:Int)^(aF (Z (1:Int)) (IntKind.bits aB)))) f=N→(f:Int)<b.C0-1):=by
 have lo:=hb.lo;have hi:=hb.hi;unfold DV
 have:b.C0=2∨b.C0=3∨b.C0=4∨b.C0=5∨b.C0=6∨b.C0=7∨b.C0=8:=ω
 rcases this with h | h | h | h | h | h | h<;>rw[h]<;>refine⟨τ,τ,τ,τ,τ⟩
def Bln(a:Int){c:Int}(hc:0≤c∧c<4294967296):0≤R (C a&&&C c)∧R (C a&&&C c)≤c:=by
 have h2:=Avp hc;unfold R at*;rw[BitVec.toNat_and]
 have:=Nat.and_le_right (n:=(C a).toNat) (m:=(C c).toNat)
 omega
section
variable{b:S}(hb:b.small)(hcode:b.code=0)
include hb in
theorem Bcy(a:Int):flV b (R (C a&&&C (DV b)))=N:=by
 obtain⟨m0,m1,m2,_⟩:=Aej hb;have h:=Bln a (c:=DV b) ω;unfold flV;rw[Dg ω ω];generalize R (C a&&&C (DV b))=n at h
 have:n.fdiv (2^b.C0.toNat)=0:=by rw[a4_ _ ω];exact Int.ediv_eq_zero_of_lt h.1 ω
 rw[this];rfl
include hb hcode in
theorem Avr(u d:Int):Fa b (R (C (R (C u&&&C (DV b)))&&&C (aE (DV b) ((2:Int)^(aF (Z (1:Int)) (IntKind.bits aB))))),R (C (R (C d&&&C (DV b)))&&& ~~~ C 1))=N:=by
 obtain⟨_,_,_,m3,m4⟩:=Aej hb;unfold Fa;rw[Ng (HD _ _)];intro f hf D hD;rw[Bt _ _ hf,Ov hb hcode hf hD];rcases hD with rfl | rfl
 ·cases hq:Aj (R (C (R (C u&&&C (DV b)))&&&C (aE (DV b) ((2:Int)^(aF (Z (1:Int)) (IntKind.bits aB))))),R (C (R (C d&&&C (DV b)))&&& ~~~ C 1)) f 1 with
  |false=>rfl
  |true=>
   have h1:CU (R (C (R (C u&&&C (DV b)))&&&C (aE (DV b) ((2:Int)^(aF (Z (1:Int)) (IntKind.bits aB)))))) f=N:=hq;rw[Tt,f6_,aH]at h1;have h2:=m4 f hf h1.2;have h5:Ai b (f:Int) 1=N:=by unfold Ai NY;rw[hcode,show inR 0 (b.C0-2) (f:Int)=N from Ap.2 ⟨ω,ω⟩];rfl
   rw[h5];rfl
 ·cases hq:Aj (R (C (R (C u&&&C (DV b)))&&&C (aE (DV b) ((2:Int)^(aF (Z (1:Int)) (IntKind.bits aB))))),R (C (R (C d&&&C (DV b)))&&& ~~~ C 1)) f 2 with
  |false=>rfl
  |true=>
   have h1:CU (R (C (R (C d&&&C (DV b)))&&& ~~~ C 1)) f=N:=hq;rw[Tt,f6_,Asm,f6_,BitVec.getLsbD_not,aH,aH,aH]at h1;have h2:=m3 f hf h1.1.2;have h3:f≠0:=λh=>by subst h;exact absurd h1.2.2 τ
   have h5:Ai b (f:Int) 2=N:=by unfold Ai NY;rw[hcode,show inR 1 (b.C0-1) (f:Int)=N from Ap.2 ⟨ω,ω⟩];rfl
   rw[h5];rfl
end
def CX{α:Type}{l:List α}{j:Nat}(d x:α)(h:i≠j):(l.set i x).getD j d=l.getD j d:=by rw[k_,List.getElem?_set_ne h,← k_]
section
variable{b:S}(hb:b.small)(hcode:b.code=0)
include hb hcode
theorem Bbb(u d kd car:Int){cs:List W}(hcs:cs.length=b.B0.length):Sat (JG b.C0 b.E0 b.H0 b.M0 b.J0 b.L0 b.N0 b.B0 u d kd car cs) λy=>∃x:Inp,y=(((),()),(x.tup,()))∧Bbf b x:=by
 have hc:=Am hcode;have lo:=hb.lo;have hi:=hb.hi;have hw:=Avr hb hcode u d;unfold JG;refine Y (Afg _) ?_;have z8:I.wrap (b.B0.length:Int)=(b.B0.length:Int):=Dg ω ω;refine Y (by show(A I (b.B0.length:Int) !=0)=N;rw[z8];exact Ig ω) ?_;have u64n:∀n:Int,0≤I.wrap n∧I.wrap n<18446744073709551616:=λn=>by simp only[A,IntKind.signed,IntKind.bits];simp;exact⟨Int.emod_nonneg _ τ,aK _ τ⟩
 have md:∀(n:Int) (m:Int),0<m→m≤9→0≤H.wrap (X (A I n) m)∧H.wrap (X (A I n) m)<m:=λn m h0 h1=>by have h2:=(u64n n).1;rw[e3_ h2];have h3:=Int.emod_nonneg (A I n) (ω:m≠0);have h4:=aK (A I n) h0;rw[Aa ω ω];exact⟨h3,h4⟩
 refine O (Q:=λy=>∃(k c:Int),y=(((),(),(),DV b,()),(b.tup,(R (C (R (C u&&&C (DV b)))&&&C (aE (DV b) ((2:Int)^(aF (Z (1:Int)) (IntKind.bits aB))))),R (C (R (C d&&&C (DV b)))&&& ~~~ C 1),k,c,cs,()),((0:Int),(0:Int),(0:Int),(0:Int),([]:List W),()),()))∧inR 0 8 k=N∧inR 0 ((b.B0.length:Int)-1) c=N∧(k==0&&c !=0)=E) ?_ λy hy=>?_
 ·have hk:=md kd 9 τ τ;have hkr:inR 0 8 (A H (X (A I kd) 9))=N:=Ap.2 ⟨hk.1,ω⟩;simp only[ZN,OC];refine J (λh=>B ⟨_,_,rfl,hkr,Ap.2 ⟨e0_ 0,ω⟩,by rw[h];rfl⟩) λh=>B ⟨_,_,rfl,hkr,?_,by rw[h];rfl⟩;have hcr:=md car (b.B0.length:Int) ω ω;rw[z8];exact Ap.2 ⟨hcr.1,ω⟩
 obtain⟨k,c,rfl,hk,hcr,hkc⟩:=hy;have hcap:((decide ((0:Int)≤(b.B0.length:Int))&&decide ((b.B0.length:Int)≤(b.B0.length:Int)))&&decide ((b.B0.length:Int)≤2147483648))=N:=by simp only[b_ (ω:(0:Int)≤(b.B0.length:Int)),b_ (e0_ (b.B0.length:Int)),b_ (ω:(b.B0.length:Int)≤2147483648),a0_]
 refine Y hcap ?_;generalize hP:(R (C (R (C u&&&C (DV b)))&&&C (aE (DV b) ((2:Int)^(aF (Z (1:Int)) (IntKind.bits aB))))),R (C (R (C d&&&C (DV b)))&&& ~~~ C 1))=P at hw;have hP1:=d3_ Prod.fst hP;have hP2:=d3_ Prod.snd hP;simp only at hP1 hP2;rw[hP1,hP2];refine O (Q:=λy=>∃l:List W,y=(((),(),l,()),((P.1,P.2,k,c,cs,()),((0:Int),(0:Int),(0:Int),(0:Int),([]:List W),()),()))∧l.length=b.B0.length∧∀j,j<b.B0.length→Lm b (l.getD j OA)=N) ?_ λy hy=>?_
 ·refine Sat.loop (λ(kk:Nat) z=>∃(l:List W) (i:Nat),z=(((),(),(),DV b,l,(i:Int),()),(b.tup,(P.1,P.2,k,c,cs,()),((0:Int),(0:Int),(0:Int),(0:Int),([]:List W),()),()))∧l.length=b.B0.length∧(∀j,j<i→Lm b (l.getD j OA)=N)∧i+kk=b.B0.length) (λkk z hz=>?_) b.B0.length ⟨_,0,rfl,?_,λj hj=>absurd hj (f8_ j),n_ _⟩ ω
  ·obtain⟨l,i,rfl,hl,hj,hkk⟩:=hz;unfold VF;refine J (λgg=>?_) λgg=>B ⟨l,rfl,hl,?_⟩
   ·have gg:(i:Int)<(l.length:Int):=m_ gg;have hin:i<l.length:=ω;have w:=CG (n:=i) ω;have z7:I.wrap b.C0=b.C0:=Dg ω ω;refine Y (Ac (ω:(0:Int)≤(i:Int)) gg) ?_;refine Y (by show(A I b.C0 !=0)=N;rw[z7];exact Ig ω) ?_;simp only[ZN,j_];refine B ⟨kk-1,ω,_,i+1,by first | (rw[← w];rfl) | rw[← w],?_,?_,ω⟩
    ·simp only[D_];exact hl
    ·intro j hjj;by_cases he:j=i
     ·subst he;rw[Bq _ _ (by simp only[D_];exact hin),Bq _ _ (by simp only[D_];exact hin),Bq _ _ (by simp only[D_];exact hin),Bq _ _ hin];unfold Lm;have f1:=md (l.getD j (aG 0 E E E E 0 E 0 E 0 0)).N1 b.C0 ω ω;have f2:=md (l.getD j (aG 0 E E E E 0 E 0 E 0 0)).M1 3 τ τ;simp only[Bcy hb,s_];rw[show I.wrap b.tup.1=b.C0 from z7,Ap.2 ⟨f1.1,show _≤b.C0-1 by omega⟩,Ap.2 ⟨f2.1,show _≤(2:Int)by omega⟩];rfl
     ·rw[CX _ _ (f4_ he),CX _ _ (f4_ he),CX _ _ (f4_ he),CX _ _ (f4_ he)];exact hj j ω
   ·have gg:¬(i:Int)<(l.length:Int):=E_ gg;intro j hjj;exact hj j ω
  ·show(KH (List.replicate (Z (b.B0.length:Int)) (aG 0 E E E E 0 E 0 E 0 0)) cs).length=b.B0.length;unfold KH;simp only[h_,w_,X_,T_,j_];omega
 obtain⟨l,rfl,hl,hall⟩:=hy;refine B ⟨⟨P,k,c,l⟩,rfl,?_,by show Ef P;rw[← hP];exact⟨Bhj _,Bhj _⟩⟩;unfold Ob;rw[hw,hk,hcr,hkc,show((l.length:Int)==(b.B0.length:Int))=N by rw[hl];exact l_ _];simp only[s_,d4_];refine K_.2 λe he=>?_;obtain⟨j,hj,rfl⟩:=List.getElem_of_mem he
 have:=hall j ω
 rwa [k_,i_ hj]at this
end
def Btr:∀k:Fin 16,(arF .quo .f64 (Ael .f64 ((k.val:Nat):Int)) 4622945017495814144).isSome=N:=by decide
def Bts(h:0≤n∧n<256):Sat (arF .quo .f64 (Ael .f64 (X n 16)) 4622945017495814144) λ_=>True:=by obtain⟨k,rfl⟩:=f5_ h.1;have e:X ((k:Nat):Int) 16=((k%16:Nat):Int):=MA k 16;have h2:=Btr ⟨k%16,g1_ _ τ⟩;rw[e];obtain⟨a,ha⟩:=Option.isSome_iff_exists.1 h2;exact⟨a,ha,trivial⟩
def Arq(h:∀e∈l,u8r e)(n:Nat):u8r (l.getD n 0):=by
 by_cases hn:n<l.length
 ·exact Amj h hn
 ·rw[k_,List.getElem?_eq_none ω];exact Brb
section
variable{b:S}(hb:b.small)(hcode:b.code=0)
include hb hcode
theorem Bbd{x0 x1 x2 x3 x4 x5:Int}(h:∀e∈[x0,x1,x2,x3,x4,x5],u8r e):Sat (OU b.C0 b.E0 b.H0 b.M0 b.J0 b.L0 b.N0 b.B0 x0 x1 x2 x3 x4 x5) λy=>∃x:Inp,y=(((),()),(x.tup,()))∧Bbf b x:=by
 have hc:=Am hcode;unfold OU;refine O (Q:=λy=>∃u d:Int,y=(((),(),(),(),()),(b.tup,(x0,x1,x2,x3,x4,x5,()),((0:Int),(0:Int),(0:Int),(0:Int),([]:List W),()),(u,d,(0:Int),(0:Int),([]:List W),()),()))) (J (λ_=>B ⟨_,_,rfl⟩) λ_=>B ⟨_,_,rfl⟩) λy hy=>?_;obtain⟨u,d,rfl⟩:=hy;refine O (Q:=λy=>∃k c:Int,y=(((),(),(),(),()),(b.tup,(x0,x1,x2,x3,x4,x5,()),((0:Int),(0:Int),(0:Int),(0:Int),([]:List W),()),(u,d,k,c,([]:List W),()),()))) (J (λ_=>B ⟨_,_,rfl⟩) λ_=>B ⟨_,_,rfl⟩) λy hy=>?_;obtain⟨k,c,rfl⟩:=hy;refine O (Q:=λy=>∃cs:List W,y=(((),(),(),()),(b.tup,((0:Int),(0:Int),(0:Int),(0:Int),([]:List W),()),(u,d,k,c,cs,()),()))∧cs.length=b.B0.length) ?_ λy hy=>?_
 ·refine Sat.loop (λ(kk:Nat) z=>∃(cs:List W) (i:Nat),z=(((),(),(),(),(i:Int),()),(b.tup,(x0,x1,x2,x3,x4,x5,()),((0:Int),(0:Int),(0:Int),(0:Int),([]:List W),()),(u,d,k,c,cs,()),()))∧cs.length=i∧i+kk=b.B0.length) (λkk z hz=>?_) b.B0.length ⟨[],0,rfl,rfl,n_ _⟩ ω;obtain⟨cs,i,rfl,hcs,hkk⟩:=hz;unfold VJ;refine J (λgg=>?_) λgg=>B ⟨cs,rfl,?_⟩
  ·have gg:(i:Int)<(b.B0.length:Int):=m_ gg;have w:=CG (n:=i) ω;have e3:X (i:Int) 3=((i%3:Nat):Int):=MA i 3;have e4:X (i:Int) 4=((i%4:Nat):Int):=MA i 4;have w3:H.wrap (3+X (i:Int) 3)=3+((i%3:Nat):Int):=by rw[e3,Aa ω ω]
   have w4:H.wrap (2+X (i:Int) 4)=2+((i%4:Nat):Int):=by rw[e4,Aa ω ω]
   refine Y (Ac (ω:0≤H.wrap (3+X (i:Int) 3)) (ω:H.wrap (3+X (i:Int) 3)<((6:Nat):Int))) ?_;refine Y (Ac (ω:0≤H.wrap (2+X (i:Int) 4)) (ω:H.wrap (2+X (i:Int) 4)<((6:Nat):Int))) ?_;refine O (Bts (Arq h _)) λld _=>Y (Afg _) ?_;refine O (Q:=λy=>∃(z:Int) (ci:W),y=(((),(),(),(),(i:Int),z,(),()),(b.tup,(x0,x1,x2,x3,x4,x5,()),((0:Int),(0:Int),(0:Int),(0:Int),([]:List W),()),(u,d,k,c,cs,()),(ci.V0,ci.J2,ci.S1,ci.T1,ci.D1,ci.N1,ci.Y1,ci.M1,ci.I2,ci.D2,ci.J3,()),()))) ?_ λy hy=>?_
   ·refine J (λ_=>B ⟨_,aG _ _ _ _ _ _ _ _ _ _ _,rfl⟩) λ_=>B ⟨_,aG _ _ _ _ _ _ _ _ _ _ _,rfl⟩
   obtain⟨z,ci,rfl⟩:=hy;refine Y (Av (ω:cs.length+1≤_)) (B ⟨kk-1,ω,cs++[aG ci.V0 ci.J2 ci.S1 ci.T1 ci.D1 (A H (X z 8)) (decide ((0:Int)<X z 5)) (A H (X (A IntKind.u8 (Int.tdiv z 8)) 3)) (X z 7==0) ci.D2 ci.J3],i+1,by first | (rw[← w];rfl) | rw[← w],by rw[h_,hcs];rfl,ω⟩)
  ·have gg:¬(i:Int)<(b.B0.length:Int):=E_ gg;omega
 obtain⟨cs,rfl,hcs⟩:=hy;refine O (Bbb hb hcode u d k c hcs) λy hy=>?_;obtain⟨x,rfl,hx⟩:=hy;exact B ⟨x,rfl,hx⟩
theorem Bbc(h:∀e∈l,u8r e)(_hl:l.length≤maxLen){most:Nat}(hm:most≤1000):Sat (Mf b.C0 b.E0 b.H0 b.M0 b.J0 b.L0 b.N0 b.B0 l (most:Int)) λy=>y.1.1.length≤most∧∀s∈y.1.1,Fr b s:=by
 have hc:=Am hcode;have hmx:maxLen≤9223372036854775807:=by decide
 unfold Mf;refine O (Q:=λy=>y.1.1.length≤most∧∀s∈y.1.1,Fr b s) ?_ λy hy=>B hy;refine Sat.loop (λ(k:Nat) z=>∃(out:List ByteArray) (i:Nat),z=((l,(most:Int),(),out,(i:Int),()),(b.tup,()))∧i≤out.length∧out.length≤most∧(∀s∈out,Fr b s)∧i+k=most) (λk z hz=>?_) most ⟨[],0,rfl,A_ 0,a2_ _,λs hs=>(by cases hs),n_ _⟩ ω;obtain⟨out,i,rfl,h1,h2,h3,hk⟩:=hz;unfold VG;have w6:H.wrap (6*(i:Int))=6*(i:Int):=Aa ω ω;refine J (λg1=>J (λg2=>?_) λ_=>B ⟨h2,h3⟩) λ_=>B ⟨h2,h3⟩;have g1:H.wrap (6*(i:Int))<(l.length:Int):=m_ g1;have g2:(out.length:Int)<(most:Int):=m_ g2;refine Y (by show(decide ((0:Int)≤H.wrap (6*(i:Int)))&&decide (A H (6*(i:Int))≤(l.length:Int)))=N;rw[b_ (ω:(0:Int)≤H.wrap (6*(i:Int))),b_ (ω:H.wrap (6*(i:Int))≤(l.length:Int))];rfl) ?_;have hz1:∀e∈List.drop (Z (A H (6*(i:Int)))) (List.take (List.length l) l),u8r e:=λe he=>h e (by
  have:=d9_ he
  exact d8_ this)
 generalize List.drop (Z (A H (6*(i:Int)))) (List.take (List.length l) l)=L at hz1;dsimp only;have pick:∀n:Nat,u8r (bif aC n L.length then L.getD n 0 else 0):=λn=>by
  cases aC n L.length with
  |true=>exact Arq hz1 n
  |false=>exact Brb
 have hall:∀e∈[(bif aC 0 L.length then L.getD 0 0 else 0),(bif aC 1 L.length then L.getD 1 0 else 0),(bif aC 2 L.length then L.getD 2 0 else 0),(bif aC 3 L.length then L.getD 3 0 else 0),(bif aC 4 L.length then L.getD 4 0 else 0),(bif aC 5 L.length then L.getD 5 0 else 0)],u8r e:=λe he=>by simp only[q_,h2_,or_false]at he;rcases he with rfl | rfl | rfl | rfl | rfl | rfl<;>exact pick _
 have h5:=pick 5;have hin:=Bbd hb hcode hall;generalize(bif aC 0 L.length then L.getD 0 0 else 0)=q0 at hin;generalize(bif aC 1 L.length then L.getD 1 0 else 0)=q1 at hin;generalize(bif aC 2 L.length then L.getD 2 0 else 0)=q2 at hin;generalize(bif aC 3 L.length then L.getD 3 0 else 0)=q3 at hin;generalize(bif aC 4 L.length then L.getD 4 0 else 0)=q4 at hin;generalize(bif aC 5 L.length then L.getD 5 0 else 0)=q5 at hin h5;refine O hin λy hy=>?_;obtain⟨x,rfl,hx⟩:=hy;have hxl:x.cars.length=b.B0.length:=by have hx:=hx.1;unfold Ob at hx;simp only[e_,W_]at hx;omega
 have hin2:=Baj hb hcode x ω;rw[hx.1,d_]at hin2;refine Sat.bindE hin2 ?_;have hsz:=Abm b x;have h5':0≤X q5 4∧X q5 4≤3:=by have h50:0≤q5:=h5.1;rw[e3_ h50];omega
 have w5:H.wrap (X q5 4)=X q5 4:=Aa ω ω;refine O (Q:=λy=>∃o:List ByteArray,y=((l,(most:Int),(),o,(i:Int),()),(b.tup,()))∧i+1≤o.length∧o.length≤most∧∀s∈o,Fr b s) ?_ λy hy=>?_
 ·refine Sat.loop (λ(kk:Nat) z=>∃(o:List ByteArray) (s:ByteArray) (j:Nat),z=((l,(most:Int),(),o,(i:Int),(),s,(j:Int),()),(b.tup,(q0,q1,q2,q3,q4,q5,()),()))∧o.length=out.length+j∧o.length≤most∧(∀s∈o,Fr b s)∧FrX b x s∧j+kk=4) (λkk z hz=>?_) 4 ⟨out,inV b x,0,rfl,rfl,h2,h3,⟨rfl,rfl⟩,rfl⟩ τ;obtain⟨o,s,j,rfl,o1,o2,o3,s1,hkk⟩:=hz;have s2:=s1.1;unfold VH;have w:=CG (n:=j) ω;refine J (λc1=>J (λc2=>?_) λc2=>B ⟨o,rfl,?_,o2,o3⟩) λc1=>B ⟨o,rfl,?_,o2,o3⟩
  ·have c1:(j:Int)≤H.wrap (X q5 4):=m_ c1;have c2:(o.length:Int)<(most:Int):=m_ c2;refine J (λ_=>?_) λ_=>?_
   ·have ws:H.wrap ((s.size:Int)-1)=(s.size:Int)-1:=Aa ω ω;refine Y (by
     show(decide ((0:Int)≤H.wrap ((s.size:Int)-1))&&decide (A H ((s.size:Int)-1)≤(s.size:Int)))=N;rw[b_ (ω:(0:Int)≤H.wrap ((s.size:Int)-1)),b_ (ω:H.wrap ((s.size:Int)-1)≤(s.size:Int))];rfl) ?_
    have ex:(s.extract 0 (Z (A H ((s.size:Int)-1)))).size=s.size-1:=by rw[ByteArray.size_extract,ws];omega
    have sz:(s.extract 0 (Z (A H ((s.size:Int)-1)))++aJ (Array.mk [63])).size=s.size:=by rw[y_,ex];show s.size-1+1=_;omega
    have sp:FrX b x (s.extract 0 (Z (A H ((s.size:Int)-1)))++aJ (Array.mk [63])):=by rw[ws,show Z ((s.size:Int)-1)=s.size-1 by omega];exact s1.spoilt _ rfl ω
    refine Y (Av (by show(s.extract 0 (Z (A H ((s.size:Int)-1)))).size+1≤_;omega)) ?_;refine Y (Av (ω:o.length+1≤_)) (B ⟨kk-1,ω,o++[s.extract 0 (Z (A H ((s.size:Int)-1)))++aJ (Array.mk [63])],s.extract 0 (Z (A H ((s.size:Int)-1)))++aJ (Array.mk [63]),j+1,by first | (rw[← w];rfl) | rw[← w],by rw[h_,o1];rfl,by rw[h_];show o.length+1≤_;omega,λu hu=>?_,sp,ω⟩);rcases p_.1 hu with hu | hu
    ·exact o3 u hu
    ·rw[P_]at hu;subst hu;exact⟨x,hx,sp⟩
   ·refine Y (Av (ω:o.length+1≤_)) (B ⟨kk-1,ω,o++[s],s,j+1,by first | (rw[← w];rfl) | rw[← w],by rw[h_,o1];rfl,by rw[h_];show o.length+1≤_;omega,λu hu=>?_,s1,ω⟩);rcases p_.1 hu with hu | hu
    ·exact o3 u hu
    ·rw[P_]at hu;subst hu;exact⟨x,hx,s1⟩
  ·have c2:¬(o.length:Int)<(most:Int):=E_ c2;omega
  ·have c1:¬(j:Int)≤H.wrap (X q5 4):=E_ c1;omega
 obtain⟨o,rfl,o1,o2,o3⟩:=hy;have w:=CG (n:=i) ω;exact B ⟨k-1,ω,o,i+1,by first | (rw[← w];rfl) | rw[← w],o1,o2,o3,ω⟩
end
structure InOK(b:Bldg)(x:Inp):Prop where
 press:Fa b x.press=true
 pu:Ef x.press
 kind:0≤x.kind∧x.kind≤8
 car:0≤x.car∧x.car<(b.B0.length:Int)
 len:x.cars.length=b.B0.length
 flo:∀c∈x.cars,0≤c.V0∧c.V0<4294967296
def Aho:∀(n:Nat) (s:ByteArray),∀c∈Uw n s,0≤c.V0∧c.V0<4294967296
 |0,_,_,h=>by cases h
 |n+1,s,c,h=>by
  rcases q_.1 h with rfl | h
  ·exact HE _
  ·exact Aho n (rest s) c h
def Fr.good(h:FrX b x s)(ho:DW b s=0):s=inV b x:=by
 obtain⟨h1,h2⟩:=h;have h3:(Hg s).2=0:=by
  unfold DW at ho;cases q1:((s.size:Int) !=14+19*(b.B0.length:Int))with
  |true=>rw[q1]at ho;cases ho
  |false=>
  rw[q1]at ho;cases q2:(A H (AJ s 0) !=165)with
  |true=>rw[q2]at ho;cases ho
  |false=>
  rw[q2]at ho;cases q3:(A H (AJ s 1) !=(b.B0.length:Int))with
  |true=>rw[q3]at ho;cases ho
  |false=>rw[q3]at ho;exact ho
 have hi:=Abm b x;unfold Hg at h3;rw[f_ (ω:¬(s.size:Int)<2),c_,h2]at h3;cases q:eqB (FZ ((inV b x).extract 0 (s.size-2))) s with
 |false=>rw[q]at h3;cases h3
 |true=>have q:FZ ((inV b x).extract 0 (s.size-2))=s:=Aqp.1 q;rw[← q,h1];unfold inV;rw[KQ,Nat.add_sub_cancel];generalize x.cars.foldl Ou (UG b x)=t;congr 1;unfold FZ;apply Lh;rw[PF,JW,R_,Nat.sub_zero];exact(e6_ (FE t))
def We(h:0≤n∧n<4294967296):aB.wrap n=n:=by simp only[A,IntKind.signed,IntKind.bits];simp;omega
def Adz(hb:b.small)(hcode:b.code=0)(hs:Fr b s):∃x:Inp,Eh b.C0 b.E0 b.H0 b.M0 b.J0 b.L0 b.N0 b.B0 s=aA (((),DW b s,()),(x.tup,()))∧(DW b s≠0→x=Inp.none)∧(DW b s=0→InOK b x):=by
 have hc:=Am hcode;obtain⟨x,⟨hx,hu⟩,hf⟩:=hs;have hxl:x.cars.length=b.B0.length:=by unfold Ob at hx;simp only[e_,W_]at hx;omega
 have hz:s.size≤1000000:=by rw[hf.1,Abm];omega
 by_cases ho:DW b s=0
 ·have e:=Fr.good hf ho;subst e;obtain⟨hd,e1,e2,e3⟩:=Bi7 hb hcode hx;have h:=ZY hb hcode hz ho (by rw[Aq0];exact hd);rw[Aq0]at h;refine⟨_,by rw[ho];exact h,λg=>absurd ho g,λ_=>?_⟩;unfold Ob at hx;simp only[e_,W_]at hx;obtain⟨g1,g2,g3,_⟩:=hx;have g2:=Ap.1 g2;have g3:=Ap.1 g3;refine⟨?_,?_,?_,?_,Ahp _ _,Aho _ _⟩
  ·rw[e1,We hu.1,We hu.2];exact g1
  ·rw[e1,We hu.1,We hu.2];exact hu
  ·rw[e2];exact g2
  ·rw[e3];omega
 ·exact⟨Inp.none,Abh hcode hz ho,λ_=>rfl,λg=>absurd g ho⟩
def Uz(n:Int):Sat (IK n) λy=>y.1.1=N→2≤n∧n≤32:=by unfold IK;exact O (Q:=λy=>y.1.1=N→2≤n∧n≤32) (J (λq=>B λg=>⟨m_ q,m_ g⟩) λ_=>B λg=>(by cases g)) λ_ h=>B h
def Ajr(hn:2≤n∧n≤32)(f d:Int):Sat (NE n f d) λy=>y.1.1=N→0≤f∧f<n:=by
 unfold NE;have w:H.wrap (n-1)=n-1:=Aa ω ω;have p:Sat (bif(d==(2:Int))then bif(decide ((0:Int)<f))then aA (((decide (f<n)),()),())else aA ((E,()),())else aA ((E,()),())) λ(y:(Bool×Unit)×Unit)=>y.1.1=N→0≤f∧f<n:=J (λ_=>J (λq=>B λg=>by have:=m_ q;have:=m_ g;omega) λ_=>B λg=>(by cases g)) λ_=>B λg=>(by cases g)
 exact O (Q:=λy=>y.1.1=N→0≤f∧f<n) (J (λ_=>J (λq=>J (λq2=>B λ_=>by have:=m_ q;have q2:=m_ q2;rw[w]at q2;omega) λ_=>p) λ_=>p) λ_=>p) λ_ h=>B h
def VO(h:0≤n)(a c d:Int):Sat (JE n a c d) λy=>(0≤y.2.1.1∧y.2.1.1<4294967296)∧U2 y.2.1.2.1 y.2.1.2.2.1:=by unfold JE;exact Y (b_ h) (Sat.bindE (rfl:DX ..=_) (B ⟨HE _,HE _,HE _⟩))
def Alv(a c d:Int):Sat (OP n a c d) λy=>0≤y.1.1∧y.1.1≤1000:=by
 unfold OP;refine O (Uz n) λy1 h1=>J (λ_=>B (show(0:Int)≤0∧(0:Int)≤1000 by decide)) λq=>?_;have h1:=h1 (by simpa using q);refine O (VO ω a c d) λy2 h2=>O (TO h2.1) λy3 h3=>?_;refine O (Q:=λy=>0≤y.1.1∧y.1.1≤510) ?_ λy4 h4=>B ?_
 ·unfold RP;refine O (TO h2.2.1) λz1 k1=>O (TO h2.2.2) λz2 k2=>B ?_;show 0≤H.wrap (z1.1.1+z2.1.1)∧H.wrap (z1.1.1+z2.1.1)≤510;rw[Aa ω ω];omega
 ·show 0≤H.wrap (y3.1.1+y4.1.1)∧H.wrap (y3.1.1+y4.1.1)≤1000;rw[Aa ω ω];omega
def nf(x:Int):Prop:=-1≤x∧x≤300
def Alw(hl:l.length≤10){a c:Int}(ha:nf a)(hc:nf c)(hx:∀x∈l,nf x):Sat (Cf l a c) λy=>0≤y.1.1∧y.1.1≤4400:=by
 unfold Cf;refine Y (f7_ (by simp only[x_,c7_];omega)) ?_;refine O (Q:=λy=>0≤y.1.1∧y.1.1≤4400) ?_ λ_ h=>B h;unfold GF;have hz:(l++[c]).length≤11:=by rw[h_,G_];omega
 have hall:∀x∈l++[c],nf x:=λx h=>by
  rcases p_.1 h with h | h
  ·exact hx x h
  ·rw[P_.1 h];exact hc
 refine Sat.loop (λk x=>∃(n p:Int) (i:Nat),x=((n,p,l++[c],((l++[c]).length:Int),(i:Int),()),((a,()),(c,()),()))∧i+k=(l++[c]).length∧nf p∧0≤n∧n≤400*(i:Int)) ?_ (l++[c]).length ⟨0,a,0,rfl,ω,ha,τ,τ⟩ ω;rintro k x ⟨n,p,i,rfl,hk,hp,hn,hn2⟩;show Sat (Jk n p (l++[c]) ((l++[c]).length:Int) (i:Int) a c) _;unfold Jk;refine J (λq=>?_) λ_=>B (ω:0≤n∧n≤4400);have q:=m_ q;simp only[CG (ω:i<1000000000)];have hv:=Amj hall (i:=i) (d:=(0:Int)) ω;refine Y (Ac ω ω) (B ⟨k-1,ω,_,_,i+1,rfl,ω,hv,?_⟩);show 0≤H.wrap (n+_)∧H.wrap (n+_)≤_;rw[j_];generalize(l++[c]).getD i 0=z at hv⊢;unfold nf at hp hv;rw[Aa (n:=z-p) ω ω,Aa (n:=p-z) ω ω];by_cases g:z-p<p-z
 ·rw[b_ g,d_,Aa ω ω];omega
 ·rw[f_ g,c_,Aa ω ω];omega
def Ao5(n f w a c d g e:Int):Sat (QJ n f w a c d g e) λy=>-1≤y.1.1∧y.1.1≤4400:=by
 unfold QJ;have no:(-1:Int)≤-1∧(-1:Int)≤4400:=by decide
 refine O (Uz n) λy1 h1=>J (λ_=>B no) λq1=>J (λ_=>B no) λq2=>J (λ_=>B no) λq4=>J (λ_=>B no) λ_=>J (λ_=>B no) λ_=>?_;have h1:=h1 (by simpa using q1);have q2:=E_ q2;have q4:=E_ q4;refine O (Ajr h1 g e) λy2 h2=>J (λ_=>B no) λq3=>?_;have h2:=h2 (by simpa using q3);refine O (VO ω a c d) λy3 _=>Y (b_ ω) (Y (b_ h2.1) ?_);refine O (Avm _) λy4 h4=>O (Aui _) λy5 h5=>?_;have nf6:nf (A H (y5.1.1-1)):=by rw[Aa ω ω];exact⟨ω,ω⟩
 have nf4:nf y4.1.1:=⟨ω,ω⟩
 have nff:nf f:=⟨ω,ω⟩
 have nfg:nf g:=⟨ω,ω⟩
 generalize H.wrap (y5.1.1-1)=z at nf6;have all:nf y4.1.1∧nf z∧nf f∧nf g:=⟨nf4,nf6,nff,nfg⟩;refine O (Q:=λy=>nf y.1.2.2.1∧nf y.1.2.2.2.1∧nf y.2.1.1∧nf y.2.2.1.1) ?_ λy6 h6=>O (Q:=λy=>nf y.1.2.2.1∧nf y.1.2.2.2.1∧nf y.2.1.1∧nf y.2.2.1.1) ?_ λy7 h7=>?_
 ·exact J (λ_=>J (λ_=>B all) λ_=>J (λ_=>B all) λ_=>B all) λ_=>J (λ_=>B all) λ_=>B all
 ·exact J (λ_=>B h6) λ_=>J (λ_=>B h6) λ_=>B h6
 have p:∀(l:List Int) {a c:Int},l.length≤10→nf a→nf c→(∀x∈l,nf x)→Sat (Option.bind (Cf l a c) λy10=>aA ((y10.1.1,()),())) λy=>-1≤y.1.1∧y.1.1≤4400:=λl a c hl ha hc hx=>O (Alw hl ha hc hx) λy h=>B ⟨Int.le_trans τ h.1,h.2⟩;have m1:∀{x:Int},nf x→∀y∈[x],nf y:=λh y hy=>by rw[P_.1 hy];exact h
 have m2:∀{x z:Int},nf x→nf z→∀y∈[x,z],nf y:=λh h2 y hy=>by
  rcases q_.1 hy with rfl | hy
  ·exact h
  ·exact m1 h2 y hy
 refine J (λ_=>p _ (a2_ _) h7.2.2.1 h7.2.2.2 λx hx=>by cases hx) λ_=>O (Q:=λy=>nf y.1.2.2.1∧nf y.1.2.2.2.1∧nf y.2.1.1∧nf y.2.2.1.1) ?_ λy9 h9=>?_
 ·exact J (λ_=>B h7) λ_=>B h7
 obtain⟨k1,k2,k3,k4⟩:=h9;exact J (λ_=>p _ (show(1:Nat)≤10 by decide) k3 k4 (m1 k2)) λ_=>J (λ_=>p _ (show(1:Nat)≤10 by decide) k3 k4 (m1 k1)) λ_=>J (λ_=>p _ (show(2:Nat)≤10 by decide) k3 k4 (m2 k2 k1)) λ_=>p _ (show(2:Nat)≤10 by decide) k3 k4 (m2 k1 k2)
def Alt(h:b.code=0){c:Car}(hc:c∈b.B0):Cj b.C0 c=N:=by
 unfold Bldg.code at h;cases h1:inR 2 32 b.C0<;>rw[h1]at h
 ·cases h
 cases h2:inR 1 8 (b.B0.length:Int)<;>rw[h2]at h
 ·cases h
 cases h3:inR 1 16 b.E0<;>rw[h3]at h
 ·cases h
 cases h4:inR 1 10000 b.M0<;>rw[h4]at h
 ·cases h
 cases h5:b.B0.all (Cj b.C0)<;>rw[h5]at h
 ·cases h
 exact K_.1 h5 c hc
def Adc(h:b.code=0)(hi:i<b.B0.length):(0≤(b.B0.getD i ET).X3∧(b.B0.getD i ET).X3≤10000)∧(0≤(b.B0.getD i ET).V2∧(b.B0.getD i ET).V2≤10000)∧(0≤(b.B0.getD i ET).T2∧(b.B0.getD i ET).T2≤10000)∧0≤(b.B0.getD i ET).M2∧(b.B0.getD i ET).M2≤10000:=by have ht:Cj b.C0 (b.B0.getD i ET)=N:=Alt h (BR _ hi);unfold Cj at ht;simp only[Z_,List.all_nil,d5_,e_,Ap]at ht;omega
def Uy(b:S)(car:Int)(v:U)(floor dir:Int):Sat (EC b.C0 b.E0 b.H0 b.M0 b.J0 b.L0 b.N0 b.B0 car v.Q3 v.A3 v.G3 v.Z3 v.D0 v.I0 v.J3 v.L3 v.Z2 v.X2 v.Z1 v.R1 floor dir) λy=>0≤y.1.1∧y.1.1≤1000000:=by
 unfold EC;have one:(0:Int)≤1000000∧(1000000:Int)≤1000000:=by decide
 refine Sat.bindE (Bg b) (J (λ_=>B one) λhc=>J (λ_=>B one) λg1=>J (λ_=>B one) λg2=>?_);have g1:=E_ g1;have g2:=E_ g2;have hcode:b.code=0:=by simpa using hc
 have ib:inB car b.B0.length=N:=Ac ω ω;refine O (Q:=λy=>y.1.1=car∧y.2.1=b.tup) (J (λ_=>B ⟨rfl,rfl⟩) λ_=>B ⟨rfl,rfl⟩) λy2 h2=>?_;obtain⟨⟨yc,ya⟩,yb,yv⟩:=y2;obtain⟨e1,e2⟩:=h2;simp only at e1 e2;subst e1 e2;have ht:=Adc hcode (ω:yc.toNat<b.B0.length);refine O (Ao5 ..) λy3 h3=>J (λ_=>B one) λq3=>Y ib ?_;have q3:=E_ q3;refine O (Alv ..) λy4 h4=>B ?_;have key:∀n:Int,0≤n→0≤(bif decide (1000000<n)then(1000000:Int)else n)∧(bif decide (1000000<n)then(1000000:Int)else n)≤1000000:=λn hn=>by
  by_cases g:1000000<n
  ·rw[b_ g];exact one
  ·rw[f_ g,c_];omega
 refine key _ ?_;show 0≤H.wrap (A H (y3.1.1*(b.B0.getD yc.toNat ET).X3)+H.wrap (y4.1.1*H.wrap (A H (2*(b.B0.getD yc.toNat ET).V2)+(b.B0.getD yc.toNat ET).T2)));generalize b.B0.getD yc.toNat ET=c at ht;have k1:0≤y3.1.1*c.X3∧y3.1.1*c.X3≤4400*10000:=⟨Int.mul_nonneg ω ω,Int.mul_le_mul ω ω ω τ⟩
 rw[Aa (n:=2*c.V2) ω ω,Aa (n:=2*c.V2+c.T2) ω ω];have k2:0≤y4.1.1*(2*c.V2+c.T2)∧y4.1.1*(2*c.V2+c.T2)≤1000*30000:=⟨Int.mul_nonneg ω ω,Int.mul_le_mul ω ω ω τ⟩
 generalize y4.1.1*(2*c.V2+c.T2)=p at k2;generalize y3.1.1*c.X3=q at k1;rw[Aa (n:=q) ω ω,Aa (n:=p) ω ω,Aa ω ω];omega
def Ahg(n:Int):Prop:=0≤n∧n<4294967296
def View.none:U:=aD E E E E 0 0 0 0 0 0 0 0
def Car.none:Car:=Car.mk 0 0 0 0 0 0 0 0 0
structure View.ok(v:View):Prop where
 c:Ahg v.X2
 u:Ahg v.Z1
 d:Ahg v.R1
def Amb(b:S)(car:Int)(v:U)(floor dir:Int):Option ((Int×Unit)×Unit):=EC b.C0 b.E0 b.H0 b.M0 b.J0 b.L0 b.N0 b.B0 car v.Q3 v.A3 v.G3 v.Z3 v.D0 v.I0 v.J3 v.L3 v.Z2 v.X2 v.Z1 v.R1 floor dir
def RW(b:S)(car:Int)(v:U)(floor dir:Int):Int:=match Amb b car v floor dir with | some r=>r.1.1 | none=>0
def Aqt(_hb:b.small){v:U}(_hv:v.ok)(car floor dir:Int):Amb b car v floor dir=aA ((RW b car v floor dir,()),()):=by obtain⟨r,h,_⟩:=Uy b car v floor dir;have h':Amb b car v floor dir=aA r:=h;rw[show RW b car v floor dir=r.1.1 by unfold RW;rw[h']];exact h'
def Bh9(b:S)(car:Int)(v:U)(floor dir:Int):0≤RW b car v floor dir∧RW b car v floor dir≤1000000:=by obtain⟨r,h,h2⟩:=Uy b car v floor dir;have h':Amb b car v floor dir=aA r:=h;rw[show RW b car v floor dir=r.1.1 by unfold RW;rw[h']];exact h2
def UF(v:U):Bool:=v.J3==3||v.J3==4
def Qr(v:U):Hj v.Q3 v.A3 v.G3 v.Z3 v.D0 v.I0 v.J3 v.L3 v.Z2 v.X2 v.Z1 v.R1=aA ((UF v,()),()):=by unfold Hj UF;cases v.J3==3<;>rfl
def Aa3(a b:Int×Int):Bool:=decide (a.1<b.1)||(a.1==b.1&&decide (a.2<b.2))
def Tq(a b:Int×Int):II a.1 a.2 b.1 b.2=aA ((Aa3 a b,()),()):=by
 unfold II Aa3;by_cases h:a.1=b.1
 ·by_cases h':a.2=b.2
  ·rw[h,h',l_,l_,f_ ω,f_ ω];rfl
  ·rw[h,l_,An h',f_ ω];rfl
 ·rw[An h];cases decide (a.1<b.1)<;>rfl
def Ay(vs:List U)(i:Int):U:=vs.getD i.toNat (aD E E E E 0 0 0 0 0 0 0 0)
def okViews(vs:List U):Prop:=∀v∈vs,v.ok
def View.ok_none:View.ok (aD E E E E 0 0 0 0 0 0 0 0):=⟨⟨τ,τ⟩,⟨τ,τ⟩,⟨τ,τ⟩⟩
def okViews.at(h:okViews vs)(i:Int):(Ay vs i).ok:=by
 unfold Ay;rw[k_];cases hq:vs[i.toNat]? with
 |none=>exact View.ok_none
 |some v=>exact h v (v_ hq)
def Jg(b:S)(vs:List U)(floor dir:Int)(car:Int):Int×Int:=((bif UF (Ay vs car)then 1 else 0),RW b car (Ay vs car) floor dir)
def Qs(hb:b.small)(hv:okViews vs){car:Int}(hc:0≤car∧car<vs.length)(floor dir:Int):
  KU b.C0 b.E0 b.H0 b.M0 b.J0 b.L0 b.N0 b.B0 vs car floor dir=aA (((),()),(((Jg b vs floor dir car).1,(Jg b vs floor dir car).2,()),())):=by
 unfold KU;have e:EC b.C0 b.E0 b.H0 b.M0 b.J0 b.L0 b.N0 b.B0 car (Ay vs car).Q3 (Ay vs car).A3 (Ay vs car).G3 (Ay vs car).Z3 (Ay vs car).D0 (Ay vs car).I0 (Ay vs car).J3 (Ay vs car).L3 (Ay vs car).Z2 (Ay vs car).X2 (Ay vs car).Z1 (Ay vs car).R1 floor dir=_:=Aqt hb (hv.at car) car floor dir;rw[Ac hc.1 hc.2];show(EC b.C0 b.E0 b.H0 b.M0 b.J0 b.L0 b.N0 b.B0 car (Ay vs car).Q3 (Ay vs car).A3 (Ay vs car).G3 (Ay vs car).Z3 (Ay vs car).D0 (Ay vs car).I0 (Ay vs car).J3 (Ay vs car).L3 (Ay vs car).Z2 (Ay vs car).X2 (Ay vs car).Z1 (Ay vs car).R1 floor dir).bind (λy1=>(Hj (Ay vs car).Q3 (Ay vs car).A3 (Ay vs car).G3 (Ay vs car).Z3 (Ay vs car).D0 (Ay vs car).I0 (Ay vs car).J3 (Ay vs car).L3 (Ay vs car).Z2 (Ay vs car).X2 (Ay vs car).Z1 (Ay vs car).R1).bind (λy2=>bif y2.1.1 then aA (((),()),(((1:Int),y1.1.1,()),()))else aA (((),()),(((0:Int),y1.1.1,()),()))))=_;rw[e,a_,Qr,a_];unfold Jg;cases UF (Ay vs car)<;>rfl
def Oq(b:S)(vs:List U)(floor dir except:Int)(i best:Int):Int:=bif !(Ay vs i).Q3||i==except then best else bif best==-1||Aa3 (Jg b vs floor dir i) (Jg b vs floor dir best)then i else best
def Aki(b:S)(vs:List U)(floor dir except:Int):Nat→Nat→Int→Int
 |0,_,best=>best
 |m+1,i,best=>Aki b vs floor dir except m (i+1) (Oq b vs floor dir except i best)
def IF(b:S)(vs:List U)(floor dir except:Int):Int:=bif b.code !=0||(vs.length:Int) !=(b.B0.length:Int)then -1 else Aki b vs floor dir except vs.length 0 (-1)
def RA(vs:List U)(best:Int):Prop:=best=-1∨(0≤best∧best<vs.length)
def Aah{floor dir except:Int}(hi:i<vs.length){best:Int}(h:RA vs best):RA vs (Oq b vs floor dir except i best):=by
 unfold Oq;cases(!(Ay vs i).Q3||(i:Int)==except)with
 |true=>exact h
 |false=>
  simp only[c_];cases(best==-1||Aa3 (Jg b vs floor dir i) (Jg b vs floor dir best))with
  |true=>exact .inr (by simp only[d_];omega)
  |false=>exact h
def Rz{b:S}(hb:b.small){vs:List U}(hv:okViews vs)(hl:vs.length≤100)(floor dir except:Int) :
  ∀(m i:Nat) (best l0 l1:Int),i+m=vs.length→RA vs best→(best≠ -1→(l0,l1)=Jg b vs floor dir best)→
   BY (λx=>letI a:=x.2.1.2.2;letI c:=x.1.2.2.2.2.2;letI d:=a.2.2;FN x.1.1 x.1.2.1 x.1.2.2.1 x.1.2.2.2.1 c.1 c.2.2.1 c.2.2.2.1 c.2.2.2.2.1 x.2.1.1 x.2.1.2.1 a.1 a.2.1 d.1 d.2.1 d.2.2.1 d.2.2.2.1 x.2.2.1.1 x.2.2.1.2.1) (m+1) ((vs,floor,dir,except,(),best,(),vs,(vs.length:Int),(i:Int),()),(b.tup,(l0,l1,()),()))=aA ((Aki b vs floor dir except m i best,()),())
 |0,i,best,l0,l1,hi,hin,hr=>by
  refine AK ?_;show FN vs floor dir except best vs (vs.length:Int) (i:Int) b.C0 b.E0 b.H0 b.M0 b.J0 b.L0 b.N0 b.B0 l0 l1=_;unfold FN;have e:decide ((i:Int)<(vs.length:Int))=E:=by simp;omega
  rw[e];rfl
 |m+1,i,best,l0,l1,hi,hin,hr=>by
  have hi':i<vs.length:=ω;have e:decide ((i:Int)<(vs.length:Int))=N:=by simp;omega
  have ib:inB (i:Int) vs.length=N:=Ac ω ω;have w:H.wrap ((i:Int)+1)=((i+1:Nat):Int):=by rw[Aa ω ω];omega
  have hs:∃l0' l1',(Oq b vs floor dir except i best≠ -1→(l0',l1')=Jg b vs floor dir (Oq b vs floor dir except i best))∧FN vs floor dir except best vs (vs.length:Int) (i:Int) b.C0 b.E0 b.H0 b.M0 b.J0 b.L0 b.N0 b.B0 l0 l1=aA (.inl ((vs,floor,dir,except,(),Oq b vs floor dir except i best,(),vs,(vs.length:Int),((i+1:Nat):Int),()),(b.tup,(l0',l1',()),()))):=by
   unfold FN;have k1:=Qs hb hv (car:=(i:Int)) ω floor dir;rw[e,ib,w];simp only[d_];unfold Oq;rw[show vs.getD (Z (i:Int)) (aD E E E E 0 0 0 0 0 0 0 0)=Ay vs (i:Int)from rfl];cases(Ay vs (i:Int)).Q3 with
   |false=>exact⟨l0,l1,hr,rfl⟩
   |true=>
    simp only[o_,c_,aI];cases(i:Int)==except with
    |true=>exact⟨l0,l1,hr,rfl⟩
    |false=>
     simp only[c_,k1,a_];rcases hin with hbest | hbest
     ·subst hbest;rw[show((-1:Int)==-1)=N from rfl];simp only[d_,a_,w,Bool.true_or];exact⟨_,_,λ_=>rfl,rfl⟩
     ·have hr':=hr ω;have e1:l0=(Jg b vs floor dir best).1:=d3_ Prod.fst hr';have e2:l1=(Jg b vs floor dir best).2:=d3_ Prod.snd hr';subst e1 e2;rw[An (ω:¬best=-1)];simp only[c_,a_,aI,Tq];cases Aa3 (Jg b vs floor dir i) (Jg b vs floor dir best)with
      |true=>simp only[d_,w];exact⟨_,_,λ_=>rfl,rfl⟩
      |false=>simp only[c_,w];exact⟨_,_,λ_=>rfl,rfl⟩
  obtain⟨l0',l1',h1,h2⟩:=hs;exact(BS h2).trans (Rz hb hv hl floor dir except m (i+1) _ l0' l1' ω (Aah hi' hin) h1)
def Oo(hb:b.small)(hv:okViews vs)(hl:vs.length≤100)(floor dir except:Int):
  GU b.C0 b.E0 b.H0 b.M0 b.J0 b.L0 b.N0 b.B0 vs floor dir except=aA ((IF b vs floor dir except,()),()):=by
 unfold GU IF;rw[Bg,a_];cases b.code !=0 with
 |true=>rfl
 |false=>
  simp only[c_,aI];cases(vs.length:Int) !=(b.B0.length:Int)with
  |true=>rfl
  |false=>have h:=Ak (Rz hb hv hl floor dir except vs.length 0 (-1) 0 0 ω (.inl rfl) (λh=>absurd rfl h)) ω;have h':Ju ((vs,floor,dir,except,(),(-1:Int),(),vs,(vs.length:Int),(0:Int),()),(b.tup,((0:Int),(0:Int),()),()))=_:=h;simp only[c_];refine(d3_ (λz=>Option.bind z _) h').trans ?_;rfl
def Alh{b:S}{vs:List U}{floor dir except:Int}:∀(m i:Nat) (best:Int),i+m=vs.length→RA vs best→RA vs (Aki b vs floor dir except m i best)
 |0,_,_,_,h=>h
 |m+1,i,best,hi,h=>Alh m (i+1) _ ω (Aah ω h)
def SA(b:S)(vs:List U)(floor dir except:Int):RA vs (IF b vs floor dir except):=by
 unfold IF;cases(b.code !=0||(vs.length:Int) !=(b.B0.length:Int))with
 |true=>exact .inl rfl
 |false=>exact Alh vs.length 0 (-1) ω (.inl rfl)
def Afv(b:S)(vs:List U)(e:Entry)(x n:Int):Bool:=((Ay vs e.T0).G3&&(x==0&&Aa3 (Jg b vs e.D0 e.I0 n) (Jg b vs e.D0 e.I0 e.T0)))||(!(Ay vs e.T0).G3&&(UF (Ay vs e.T0)&&!UF (Ay vs n)))
def NB(b:S)(vs:List U)(e:Entry)(x:Int):Int:=bif IF b vs e.D0 e.I0 e.T0==-1 then -1 else bif Afv b vs e x (IF b vs e.D0 e.I0 e.T0)then IF b vs e.D0 e.I0 e.T0 else -1
def Fh(b:S)(vs:List U)(e:Entry)(x:Int):Entry:=
 bif e.T0==-2 then e
 else bif e.T0==-1 then⟨e.D0,e.I0,IF b vs e.D0 e.I0 (-1),e.Z0,e.B2⟩
 else bif(Ay vs e.T0).Z3 then(bif decide ((b.B0.length:Int)<e.Z0)then⟨e.D0,e.I0,-2,e.Z0,e.B2⟩else⟨e.D0,e.I0,IF b vs e.D0 e.I0 e.T0,e.Z0+1,e.B2⟩)
 else bif !e.B2&&decide (e.Z0≤(b.B0.length:Int))then(bif NB b vs e x != -1 then⟨e.D0,e.I0,NB b vs e x,e.Z0+1,N⟩else e)
 else e
def Entry.tup(e:Entry):Int×Int×Int×Int×Bool×Unit:=(e.D0,e.I0,e.T0,e.Z0,e.B2,())
section
variable{b:S}(hb:b.small){vs:List U}(hv:okViews vs)(hl:vs.length≤100){e:Entry}
include hb hv hl
theorem Ab4(hc:0≤e.T0∧e.T0<vs.length)(x:Int):GE b.C0 b.E0 b.H0 b.M0 b.J0 b.L0 b.N0 b.B0 vs e.D0 e.I0 e.T0 e.Z0 e.B2 x=aA ((NB b vs e x,()),()):=by
 unfold GE NB;have hn:=SA b vs e.D0 e.I0 e.T0;rw[Oo hb hv hl];generalize IF b vs e.D0 e.I0 e.T0=n at hn;simp only[a_];rcases hn with rfl | hn
 ·rfl
 ·have k1:=Qs hb hv hn e.D0 e.I0;have k2:=Qs hb hv hc e.D0 e.I0;have f1:=Qr (Ay vs e.T0);have f2:=Qr (Ay vs n);rw[An (ω:¬n=-1),Ac hc.1 hc.2];unfold Afv;unfold Ay at f1 f2⊢;simp only[d_,c_];cases hleg:(vs.getD e.T0.toNat (aD E E E E 0 0 0 0 0 0 0 0)).G3 with
  |true=>
   simp only[d_,s_,o_,a7_,Bool.or_false];cases x==0 with
   |true=>simp only[d_,s_,k1,k2,a_,Tq];cases Aa3 (Jg b vs e.D0 e.I0 n) (Jg b vs e.D0 e.I0 e.T0)<;>rfl
   |false=>rfl
  |false=>
   rw[hleg]at f1;simp only[c_,a7_,d4_,s_,aI,a_,d_,f1];cases UF (vs.getD e.T0.toNat (aD E E E E 0 0 0 0 0 0 0 0))with
   |false=>rfl
   |true=>simp only[d_,Ac hn.1 hn.2,s_,f2,a_];cases UF (vs.getD n.toNat (aD E E E E 0 0 0 0 0 0 0 0))<;>rfl
theorem Aaa(hc:-2≤e.T0∧e.T0<vs.length)(hm:0≤e.Z0∧e.Z0≤255)(x:Int):FX b.C0 b.E0 b.H0 b.M0 b.J0 b.L0 b.N0 b.B0 vs e.D0 e.I0 e.T0 e.Z0 e.B2 x=aA (((),()),((Fh b vs e x).tup,())):=by
 unfold FX Fh;have w:H.wrap (e.Z0+1)=e.Z0+1:=Aa ω ω;by_cases g1:e.T0=-2
 ·rw[show(e.T0==-2)=N by rw[g1];rfl];rfl
 rw[An g1];by_cases g2:e.T0=-1
 ·rw[show(e.T0==-1)=N by rw[g2];rfl];simp only[d_,c_,Oo hb hv hl,a_];rfl
 rw[An g2];have hc':0≤e.T0∧e.T0<vs.length:=ω;have ho:=Ab4 hb hv hl hc' x;unfold Ay;simp only[c_,Ac hc'.1 hc'.2,d_];cases hlost:(vs.getD e.T0.toNat (aD E E E E 0 0 0 0 0 0 0 0)).Z3 with
 |true=>
  simp only[d_,a_];cases decide ((b.B0.length:Int)<e.Z0)with
  |true=>rfl
  |false=>simp only[c_,Ac hc'.1 hc'.2,d_,hlost,Oo hb hv hl,a_,w];rfl
 |false=>
  simp only[c_,a_,Ac hc'.1 hc'.2,d_,hlost];cases hmv:e.B2 with
  |true=>simp only[o_,c_,a_,a7_];unfold Entry.tup;rw[hmv]
  |false=>
   rw[hmv]at ho;simp only[d4_,d_,a_,s_];cases decide (e.Z0≤(b.B0.length:Int))with
   |false=>simp only[c_];unfold Entry.tup;rw[hmv]
   |true=>
    simp only[d_,ho,a_,w];cases NB b vs e x != -1 with
    |true=>rfl
    |false=>simp only[c_];unfold Entry.tup;rw[hmv]
end
end
end Go.Ovl
