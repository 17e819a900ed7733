import Derived.Test.YtefkhaccplcieaaGreatDoorOvI
import Derived.Test.YtefkhaccplcieaaGreatDoorOvD
import Derived.Test.YtefkhaccplcieaaGreatDoorOvB
import Derived.Test.YtefkhaccplcieaaGreatDoorOvH
import Derived.Test.YtefkhaccplcieaaGreatDoorOvF
import Derived.Test.YtefkhaccplcieaaGreatDoorOvG
import Derived.Test.YtefkhaccplcieaaGreatDoorOvC
import Derived.Test.YtefkhaccplcieaaGreatDoorDefs4
import Derived.Test.YtefkhaccplcieaaGreatDoorOvA
set_option linter.all false
open Bool renaming true->A,false->N
open Go.Ovl renaming Entry->B,noE->H,Aw->I,Bldg->J,Record->O,Img->S
open Go renaming a_->C
open Option renaming some->R
open Go.Ovl.Record renaming mk->aA
open List renaming replicate->aB
namespace Go.Ovl
open Go Go.Ab
set_option maxRecDepth 100000
variable{b:J}{e:B}{l:List O}{m:S}{xs:List Int}{r:O}{vs:List View}{k i:Nat}{s:Sto}
def Avt(e:B)(F D:Int):Jd e.D0 e.I0 e.R0 e.Z0 e.R1 F D=R ((!Bp e (I F D),()),((F,()),(D,()),())):=by
 unfold Jd Bp I;by_cases h1:F<e.D0
 ·rw[b_ h1,f_ (ω:¬e.D0<F),Ao (ω:¬e.D0=F)];rfl
 ·rw[f_ h1];by_cases h2:e.D0=F
  ·rw[h2,f_ (M_ F),l_];by_cases h3:e.I0<D
   ·rw[b_ h3,f_ (ω:¬D≤e.I0)];rfl
   ·rw[f_ h3,b_ (ω:D≤e.I0)];rfl
  ·rw[Ao h2,b_ (ω:e.D0<F)];rfl
def Afh(E:List B)(hl:E.length≤100000)(F D:Int):∀(k i:Nat),i+k=E.length→BX (λx=>Av x.1.1 x.1.2.2.1 x.1.2.2.2.1 x.2.1.1 x.2.2.1.1) (k+1) ((E,(),(E.length:Int),(i:Int),()),((F,()),(D,()),()))=R (bif Nat.blt (i+AA (I F D) (E.drop i)) E.length then .inr ((((i+AA (I F D) (E.drop i):Nat):Int),()),((F,()),(D,()),()))else .inl ((),((F,()),(D,()),())))
 |0,i,hi=>by
  obtain rfl:i=E.length:=ω;refine AE ?_;show Av E (E.length:Int) (E.length:Int) F D=_;unfold Av;rw[f_ (M_ (E.length:Int)),a7_]
  have:Nat.blt (E.length+AA (I F D) []) E.length=N:=by
   cases h:Nat.blt (E.length+AA (I F D) []) E.length with
   |false=>rfl
   |true=>have:=Eq.mp h0_ h;omega
  rw[this];rfl
 |k+1,i,hi=>by
  have hi':i<E.length:=ω;have hs:Av E (E.length:Int) (i:Int) F D=R (bif Bp (E.getD i H) (I F D)then .inl ((E,(),(E.length:Int),((i+1:Nat):Int),()),((F,()),(D,()),()))else .inr (.inr (((i:Int),()),((F,()),(D,()),())))):=by unfold Av;rw[show Entry.mk 0 0 0 0 N=H from rfl];simp only[b_ (ω:(i:Int)<(E.length:Int)),Ac (ω:(0:Int)≤(i:Int)) (ω:(i:Int)<(E.length:Int)),d_,h_,Avt,C,ER hi' (show E.length≤AL by unfold AL;omega)];cases Bp (E.getD i H) (I F D)<;>rfl
  have hd:=BT H hi';rw[hd];simp only[AA];cases hq:Bp (E.getD i H) (I F D)with
  |true=>rw[hq]at hs;refine(BO hs).trans ?_;rw[Afh E hl F D k (i+1) ω,d_,show i+1+AA (I F D) (E.drop (i+1))=i+(AA (I F D) (E.drop (i+1))+1)by omega]
  |false=>rw[hq]at hs;refine(AE hs).trans ?_;rw[c_,c0_,show Nat.blt i E.length=A from Eq.mpr h0_ hi'];rfl
def Aay(m:S)(hl:m.A0.length≤100000)(F D:Int):KW m.G0 m.O0 m.J0 m.A0 F D=R ((((AA (I F D) m.A0:Nat):Int),Gf (I F D) m.A0,()),()):=by
 have h:=Afh m.A0 hl F D m.A0.length 0 ω;have h':=Ak h ω;rw[P_,p_]at h';have hle:=TB (I F D) m.A0;unfold KW BB Gf;rw[show AS ((m.A0,(),(m.A0.length:Int),(0:Int),()),((F,()),(D,()),()))=_ from h'];cases hq:Nat.blt (AA (I F D) m.A0) m.A0.length with
 |false=>
  have hge:m.A0.length≤AA (I F D) m.A0:=by
   rcases g3_ (AA (I F D) m.A0) m.A0.length with g | g
   ·rw[Eq.mpr h0_ g]at hq;cases hq
   ·exact g
  rw[show AA (I F D) m.A0=m.A0.length by omega];rfl
 |true=>have hlt:AA (I F D) m.A0<m.A0.length:=Eq.mp h0_ hq;simp only[d_,C];rw[f_ (ω:¬((AA (I F D) m.A0:Nat):Int)<0)];simp only[c_,Ac (ω:(0:Int)≤((AA (I F D) m.A0:Nat):Int)) (ω:((AA (I F D) m.A0:Nat):Int)<(m.A0.length:Int)),d_,h_];rw[show Entry.mk 0 0 0 0 N=H from rfl];unfold isC;show Option.bind (bif(m.A0.getD (AA (I F D) m.A0) H).D0==F then _ else _) _=R ((_,A&&((m.A0.getD (AA (I F D) m.A0) H).D0==F&&(m.A0.getD (AA (I F D) m.A0) H).I0==D),()),());cases(m.A0.getD (AA (I F D) m.A0) H).D0==F<;>rfl
structure Rnd where
 recs:List Record
 img:Img
 xs:List Int
 lan:Lan
 ref:Int×Int
def Rnd.tup(r:Rnd):List O×List Int×List Bool×List Bool×List B×List Int×List Calls×List Bool×Int×Int×Int×Int×Unit:=(r.recs,r.img.G0,r.img.O0,r.img.J0,r.img.A0,r.xs,r.lan.lit,r.lan.gong,r.lan.cl.1,r.lan.cl.2,r.ref.1,r.ref.2,())
def Rnd.tupB(b:J)(r:Rnd):List O×List Int×List Bool×List Bool×List B×List Int×List Calls×List Bool×Int×Int×Int×Int×Int×Int×Int×Int×Nat×Nat×Nat×List Car×Unit:=(r.recs,r.img.G0,r.img.O0,r.img.J0,r.img.A0,r.xs,r.lan.lit,r.lan.gong,r.lan.cl.1,r.lan.cl.2,r.ref.1,r.ref.2,b.C0,b.F0,b.H0,b.M0,b.K0,b.L0,b.N0,b.B0,())
structure Rnd.ok(b:Bldg)(r:Rnd):Prop where
 img:ImgOK b r.img
 len:r.xs.length=r.img.A0.length
def IE:O:=aA 0 0 0 0 0
def RM(r:O)(X:Rnd):Rnd:=⟨X.recs++[r],Am X.img r,xsV X.img.A0 X.xs r,X.lan,X.ref⟩
def wrL(l:List O)(X:Rnd):Rnd:=⟨X.recs++l,Ai X.img l,xsL X.img X.xs l,X.lan,X.ref⟩
def XV(r:O)(l:List O)(X:Rnd):wrL (r::l) X=wrL l (RM r X):=by unfold wrL RM;simp only[O_,e5_];rfl
def XS{X:Rnd}(h:X.ok b)(hv:Au b r=A):(RM r X).ok b:=⟨(KM h.img hv).1,Blg h.img.so h.len r⟩
def Aph{b:J}:∀{l:List O}{X:Rnd},X.ok b→(∀r∈l,Au b r=A)→(wrL l X).ok b
 |[],X,h,_=>by unfold wrL;rw[a2_];exact⟨h.img,h.len⟩
 |r::t,X,h,hv=>by rw[XV];exact Aph (XS h (hv r (q_ ..))) λx hx=>hv x (r_ _ hx)
def Boq(h:k<xs.length)(hl:xs.length≤100000):EY xs (k:Int) (IntKind.i64.wrap ((k:Int)+1))=R ((xs.take k++xs.drop (k+1),()),()):=by unfold EY Am0;rw[Aa ω ω,b_ (ω:(0:Int)≤(k:Int)),b_ (ω:(k:Int)<(k:Int)+1),b_ (ω:(k:Int)+1≤(xs.length:Int)),show Int.toNat ((k:Int)+1)=k+1 by omega,h_];rfl
def Bqj(h:k≤xs.length)(hl:xs.length≤100000):EZ xs (k:Int) [0]=R ((xs.take k++[0]++xs.drop k,()),()):=by unfold EZ Aci;rw[b_ (ω:(0:Int)≤(k:Int)),b_ (ω:(k:Int)≤(xs.length:Int)),Az (show xs.length+[(0:Int)].length≤2147483648 by show xs.length+1≤_;omega),h_];rfl
section
variable{b:J}(hb:b.small)(hcode:b.code=0)
include hb hcode
omit hcode in
theorem DQ(hm:ImgOK b m):m.A0.length≤14:=by
 have:=Bkc hb hm
 have:=hb.hi
 omega
theorem Aww{X:Rnd}(hX:X.ok b)(hl:l.length≤100000)(hi:i<l.length)(hv:Au b (l.getD i IE)=A)(hr:X.recs.length≤1000000):BR l (l.length:Int) (i:Int) X.recs X.img.G0 X.img.O0 X.img.J0 X.img.A0 X.xs X.lan.lit X.lan.gong X.lan.cl.1 X.lan.cl.2 X.ref.1 X.ref.2 b.C0 b.F0 b.H0 b.M0 b.K0 b.L0 b.N0 b.B0=R (.inl (((),l,(l.length:Int),((i+1:Nat):Int),()),((RM (l.getD i IE) X).tupB b,()))):=by
 have hcc:=Aj hcode;have he:=DQ hb hX.img;have hlp:=hX.img.lp;have hxl:=hX.len;have hpl:=TB (I (l.getD i IE).D0 (l.getD i IE).I0) X.img.A0;have ha:=Zc hb ω X.img ω ω (l.getD i IE);have ha':Yw b X.img (l.getD i IE)=(((),0,()),((Am X.img (l.getD i IE)).tup,())):=by unfold Yw;rw[Img.ok_iff.2 hX.img,hv];rfl
 rw[ha']at ha;unfold BR;rw[show aA 0 0 0 0 0=IE from rfl];simp only[b_ (ω:(i:Int)<(l.length:Int)),Ac (ω:(0:Int)≤(i:Int)) (ω:(i:Int)<(l.length:Int)),d_,h_];rw[Aay X.img ω];simp only[C];generalize l.getD i IE=r at*;have hbl:Nat.ble (X.recs.length+[aA r.Q0 r.D0 r.I0 r.R0 r.S1].length) 2147483648=A:=Az (by show X.recs.length+1≤_;omega);have hw:=ER hi (show l.length≤AL by unfold AL;omega);have hxs:∀q,xsV X.img.A0 X.xs r=q→(RM r X).tupB b=(X.recs++[aA r.Q0 r.D0 r.I0 r.R0 r.S1],(Am X.img r).G0,(Am X.img r).O0,(Am X.img r).J0,(Am X.img r).A0,q,X.lan.lit,X.lan.gong,X.lan.cl.1,X.lan.cl.2,X.ref.1,X.ref.2,b.C0,b.F0,b.H0,b.M0,b.K0,b.L0,b.N0,b.B0,()):=λq h=>by rw[← h];rfl
 by_cases k2:r.Q0=2
 ·have k1:(r.Q0==1)=N:=Ao ω;have k2':(r.Q0==2)=A:=by rw[k2];rfl
  cases hf:Gf (I r.D0 r.I0) X.img.A0 with
  |true=>rw[hxs _ (show _=X.xs.take (AA (I r.D0 r.I0) X.img.A0)++X.xs.drop (AA (I r.D0 r.I0) X.img.A0+1)by unfold xsV;rw[k2',hf];rfl)];have hp:=(Ary hf).1;simp only[k2',d_,C,Boq (ω:AA (I r.D0 r.I0) X.img.A0<X.xs.length) ω];rw[ha];simp only[C,l_,d_,hbl,hw];rfl
  |false=>rw[hxs X.xs (by unfold xsV;rw[hf,k1,c1_,a8_];rfl)];simp only[k2',k1,d_,c_,C];rw[ha];simp only[C,l_,d_,hbl,hw];rfl
 ·have k2':(r.Q0==2)=N:=Ao k2;by_cases k1:r.Q0=1
  ·have k1':(r.Q0==1)=A:=by rw[k1];rfl
   cases hf:Gf (I r.D0 r.I0) X.img.A0 with
   |false=>rw[hxs _ (show _=X.xs.take (AA (I r.D0 r.I0) X.img.A0)++[0]++X.xs.drop (AA (I r.D0 r.I0) X.img.A0)by unfold xsV;rw[k2',k1',hf];rfl)];simp only[k2',k1',d_,c_,C,d4_,Bqj (ω:AA (I r.D0 r.I0) X.img.A0≤X.xs.length) ω];rw[ha];simp only[C,l_,d_,hbl,hw];rfl
   |true=>rw[hxs X.xs (by unfold xsV;rw[hf,k2',a8_,o_,c1_];rfl)];simp only[k2',k1',d_,c_,C,o_];rw[ha];simp only[C,l_,d_,hbl,hw];rfl
  ·have k1':(r.Q0==1)=N:=Ao k1;rw[hxs X.xs (by unfold xsV;rw[k2',k1',a8_,a8_];rfl)];simp only[k2',k1',c_,C];rw[ha];simp only[C,l_,d_,hbl,hw];rfl
theorem Adm{X:Rnd}(hX:X.ok b)(hl:l.length≤100000)(hv:∀r∈l,Au b r=A)(hr:X.recs.length≤100000):BA l X.recs X.img.G0 X.img.O0 X.img.J0 X.img.A0 X.xs X.lan.lit X.lan.gong X.lan.cl.1 X.lan.cl.2 X.ref.1 X.ref.2 b.C0 b.F0 b.H0 b.M0 b.K0 b.L0 b.N0 b.B0=R ((),((wrL l X).tupB b,())):=by
 have key:∀(k i:Nat) (Y:Rnd),i+k=l.length→Y.ok b→Y.recs.length≤100000+i→BX (λx=>letI d:=x.2.1.2.2.2;letI f:=d.2.2;letI a:=f.2.2.2;letI g:=a.2.2;letI c:=g.2.2.2;letI e:=c.2.2;BR x.1.2.1 x.1.2.2.1 x.1.2.2.2.1 x.2.1.1 x.2.1.2.1 x.2.1.2.2.1 d.1 d.2.1 f.1 f.2.1 f.2.2.1 a.1 a.2.1 g.1 g.2.1 g.2.2.1 c.1 c.2.1 e.1 e.2.1 e.2.2.1 e.2.2.2.1 e.2.2.2.2.1) (k+1) (((),l,(l.length:Int),(i:Int),()),(Y.tupB b,()))=R ((),((wrL (l.drop i) Y).tupB b,())):=by
  intro k;induction k with
  |zero=>intro i Y hi _ _;obtain rfl:i=l.length:=ω;refine AE ?_;show BR l (l.length:Int) (l.length:Int) Y.recs Y.img.G0 Y.img.O0 Y.img.J0 Y.img.A0 Y.xs Y.lan.lit Y.lan.gong Y.lan.cl.1 Y.lan.cl.2 Y.ref.1 Y.ref.2 b.C0 b.F0 b.H0 b.M0 b.K0 b.L0 b.N0 b.B0=_;unfold BR;rw[f_ (M_ (l.length:Int)),a7_];unfold wrL;rw[a2_];rfl
  |succ k ih=>intro i Y hi hY hr;have hi':i<l.length:=ω;have hv':=hv _ (BU IE hi');rw[BT IE hi',XV];exact(BO (Aww hb hcode hY hl hi' hv' ω)).trans (ih (i+1) _ ω (XS hY hv') (by show(Y.recs++[_]).length≤_;rw[i_,G_];omega))
 have h:=key l.length 0 X ω hX ω;rw[P_]at h;have h':CD (((),l,(l.length:Int),(0:Int),()),(X.tupB b,()))=_:=Ak h ω;unfold BA;rw[show CD (((),l,(l.length:Int),(0:Int),()),((X.recs,X.img.G0,X.img.O0,X.img.J0,X.img.A0,X.xs,X.lan.lit,X.lan.gong,X.lan.cl.1,X.lan.cl.2,X.ref.1,X.ref.2,b.C0,b.F0,b.H0,b.M0,b.K0,b.L0,b.N0,b.B0,()),()))=_ from h'];rfl
end
def YM{F D:Int}{e:B}(he:isC F D e=A)(T:List B):∀(P:List B) (i:Nat),(∀p∈P,isC F D p=N)→DR F D (P++e::T) i=((i+P.length:Nat):Int)
 |[],i,_=>by simp only[a1_,DR,he,d_,d6_,c0_]
 |p::P,i,h=>by simp only[List.cons_append,DR,h p (q_ ..),c_];rw[YM he T P (i+1) λx hx=>h x (r_ _ hx),C_];congr 1;omega
def Awi{P T:List B}(h:Bg (P++e::T)):∀p∈P,isC e.D0 e.I0 p=N:=by intro p hp;rw[Ez]at h;have h2:=(f9_.1 h).2.2 p hp e (q_ ..);rw[HU]at h2;unfold isC;simp only[Bool.and_eq_false_iff,beq_eq_false_iff_ne];omega
def Ani(P T:List B)(e:B):(P++e::T).getD P.length H=e:=by simp[k_]
def WO(e:B):isC e.D0 e.I0 e=A:=by unfold isC;simp
def Apo{P T:List B}(hE:m.A0=P++e::T)(hs:∀p∈P,isC e.D0 e.I0 p=N)(n c:Int):Am m ⟨7,e.D0,e.I0,c,n⟩=m.put (P++UC e n c::T):=by
 unfold Am;have hf:DR e.D0 e.I0 m.A0 0=(P.length:Int):=by rw[hE,YM (WO e) T P 0 hs,p_]
 simp only[hf];rw[Ao (ω:¬(P.length:Int)=-1),hE,h_,Ani,TC,TC];rfl
def Aie{P T:List B}(hE:m.A0=P++e::T)(hs:∀p∈P,isC e.D0 e.I0 p=N)(c:Int):Am m ⟨3,e.D0,e.I0,c,0⟩=m.put (P++Afw e c::T):=by
 unfold Am;have hf:DR e.D0 e.I0 m.A0 0=(P.length:Int):=by rw[hE,YM (WO e) T P 0 hs,p_]
 simp only[hf];rw[Ao (ω:¬(P.length:Int)=-1),hE,h_,Ani,TC,TC];rfl
def Img.put_put(m:S)(l l':List B):(m.put l).put l'=m.put l':=rfl
def Img.put_self(m:S):m.put m.A0=m:=rfl
def As8{P T:List B}{n:B}(hE:m.A0=P++e::T)(hs:∀p∈P,isC e.D0 e.I0 p=N)(hF:n.D0=e.D0)(hD:n.I0=e.I0):Ai m (NF e n)=m.put (P++n::T):=by
 obtain⟨nF,nD,nC,nM,nV⟩:=n;obtain⟨eF,eD,eC,eM,eV⟩:=e;simp only at hF hD;subst hF hD;unfold NF;simp only;have mv:∀c:Int,UC ⟨nF,nD,eC,eM,eV⟩ nM c=⟨nF,nD,eC,nM,c==1⟩:=λ_=>rfl;have cv:((bif nV then(1:Int)else 0)==1)=nV:=by cases nV<;>rfl
 cases hp:(eM !=nM||!(eV==nV))with
 |true=>
  have h1:=Apo hE hs nM (bif nV then 1 else 0);rw[mv,cv]at h1;cases hq:eC !=nC with
  |true=>have h2:=Aie (m:=m.put (P++⟨nF,nD,eC,nM,nV⟩::T)) (P:=P) (T:=T) (e:=⟨nF,nD,eC,nM,nV⟩) rfl hs nC;simp only[d_,List.cons_append,a1_,Ai];rw[h1,h2];rfl
  |false=>
   have:eC=nC:=by simpa[bne]using hq
   subst this;simp only[d_,c_,a2_,Ai];exact h1
 |false=>
  simp only[Bool.or_eq_false_iff,g4_,bne_eq_false_iff_eq,U_]at hp;obtain⟨rfl,rfl⟩:=hp;cases hq:eC !=nC with
  |true=>have h2:=Aie hE hs nC;simp only[d_,c_,a1_,Ai];exact h2
  |false=>
   have:eC=nC:=by simpa[bne]using hq
   subst this;simp only[c_,a2_,Ai];rw[← hE];exact(Img.put_self m).symm
def Av0{n:B}(hcode:b.code=0)(hcall:Ap b n.D0 n.I0=A)(hc:-2≤n.R0∧n.R0<(b.B0.length:Int))(hm:0≤n.Z0∧n.Z0≤255):∀r∈NF e n,Au b r=A:=by
 intro r hr;unfold NF at hr;rcases n_.1 hr with h | h
 ·cases hp:(e.Z0 !=n.Z0||!(e.R1==n.R1))with
  |false=>rw[hp]at h;cases h
  |true=>rw[hp]at h;rw[E_.1 h];unfold Au;rw[hcode,hcall,As.2 hm];cases n.R1<;>rfl
 ·cases hp:e.R0 !=n.R0 with
  |false=>rw[hp]at h;cases h
  |true=>rw[hp]at h;rw[E_.1 h];unfold Au;rw[hcode,hcall,As.2 ⟨hc.1,show n.R0≤(b.B0.length:Int)-1 by omega⟩];rfl
noncomputable def OS(b:J)(vs:List View):List B→List Int→List B
 |e::t,x::xs=>Ev b vs e x::OS b vs t xs
 |_,_=>[]
def WY(b:J)(vs:List View):∀(l:List B) (xs:List Int),xs.length=l.length→(OS b vs l xs).length=l.length
 |[],_,_=>by simp[OS]
 |_::_,[],h=>by simp at h
 |e::t,x::xs,h=>by simp only[OS,C_,WY b vs t xs (by simpa using h)]
def Aio(b:J)(vs:List View):∀(l:List B) (xs:List Int) (i:Nat),xs.length=l.length→i<l.length→(OS b vs l xs).getD i H=Ev b vs (l.getD i H) (xs.getD i 0)
 |[],_,_,_,h=>by simp at h
 |_::_,[],_,h,_=>by simp at h
 |e::t,x::xs,0,_,_=>rfl
 |e::t,x::xs,i+1,h,h'=>by
  have:=Aio b vs t xs i (by simpa using h) (by simpa using h')
  simpa[OS]using this
def Auc(hc:b.B0.length≤100)(hm:0≤e.Z0∧e.Z0≤255)(x:Int):0≤(Ev b vs e x).Z0∧(Ev b vs e x).Z0≤255:=by
 unfold Ev;cases e.R0==-2 with
 |true=>exact hm
 |false=>
  cases e.R0==-1 with
  |true=>exact hm
  |false=>
   cases(Ar vs e.R0).V3 with
   |true=>
    by_cases g:(b.B0.length:Int)<e.Z0
    ·rw[b_ g];exact hm
    ·rw[f_ g];exact⟨by show 0≤e.Z0+1;omega,by show e.Z0+1≤255;omega⟩
   |false=>
    by_cases g:e.Z0≤(b.B0.length:Int)
    ·rw[b_ g];cases e.R1 with
     |true=>exact hm
     |false=>
      cases KD b vs e x != -1 with
      |true=>exact⟨by show 0≤e.Z0+1;omega,by show e.Z0+1≤255;omega⟩
      |false=>exact hm
    ·rw[f_ g,c1_];exact hm
def To{b:J}(hc:b.B0.length≤100){vs:List View}(hlen:(vs.length:Int)=(b.B0.length:Int)):∀(T:List B) (xs:List Int) (P:List B) (m:S),xs.length=T.length→ImgOK b m→m.A0=P++T→Ai m (GW b vs T xs)=m.put (P++OS b vs T xs)∧(∀r∈GW b vs T xs,Au b r=A)∧ImgOK b (m.put (P++OS b vs T xs))
 |[],xs,P,m,_,hm,hE=>by
  have:OS b vs [] xs=[]:=by simp[OS]
  have h2:GW b vs [] xs=[]:=by simp[GW]
  rw[this,h2,← hE];exact⟨rfl,(λ_ h=>by cases h),hm⟩
 |_::_,[],_,_,h,_,_=>by simp at h
 |e::T,x::xs,P,m,h,hm,hE=>by
  have hent:=CM.1 (hm.en e (by rw[hE];simp));have hso:=hm.so;rw[hE]at hso;have hs:=Awi hso;obtain⟨c1,c2⟩:=Bax b vs e x;have hin:=Arm b (vs:=vs) (e:=e) ω x;have hmv:=Auc hc (vs:=vs) hent.2.2 x;have hval:=Av0 (b:=b) (e:=e) (n:=Ev b vs e x) hm.code (by rw[c1,c2];exact hent.1) ω hmv;have hap:=As8 hE hs c1 c2;have hok:ImgOK b (m.put (P++Ev b vs e x::T)):=by rw[← hap];exact(UR hm hval).1
  obtain⟨g1,g2,g3⟩:=To hc hlen T xs (P++[Ev b vs e x]) (m.put (P++Ev b vs e x::T)) (by simpa using h) hok (by simp[Img.put]);simp only[GW,OS];have app:∀(rs qs:List O) (m:S),Ai m (rs++qs)=Ai (Ai m rs) qs:=λrs=>by
   induction rs with
   |nil=>intro _ _;rfl
   |cons r rs ih=>intro qs m;exact ih qs (Am m r)
  rw[app,hap,g1,Img.put_put];rw[Img.put_put]at g3;simp only[O_,e5_]at g3⊢;exact⟨trivial,(λr hr=>by
   rcases n_.1 hr with hr | hr
   ·exact hval r hr
   ·exact g2 r hr),g3⟩
def Abd{l:List B}(hl:l.length≤100000):SI l=R (((),()),(((ofC l (0,0)).1,(ofC l (0,0)).2,()),())):=by
 have e2:∀(k i:Nat) (c:Int×Int),i+k=l.length→BX (λx=>Kn x.1.2.2.1 x.1.2.2.2.1 x.1.2.2.2.2.1 x.2.1.1 x.2.1.2.1 x.2.2.1.1 x.2.2.1.2.1) (k+1) (((),(),l,(l.length:Int),(i:Int),()),(((0:Int),(0:Int),()),(c.1,c.2,()),()))=R (((),(),()),(((0:Int),(0:Int),()),((ofC (l.drop i) c).1,(ofC (l.drop i) c).2,()),())):=by
  intro k;induction k with
  |zero=>intro i c hi;obtain rfl:i=l.length:=ω;refine AE ?_;show Kn l (l.length:Int) (l.length:Int) 0 0 c.1 c.2=_;unfold Kn;rw[f_ (M_ (l.length:Int)),a7_];rfl
  |succ k ih=>intro i c hi;have hi':i<l.length:=ω;rw[BT H hi'];refine(BO (x':=(((),(),l,(l.length:Int),((i+1:Nat):Int),()),(((0:Int),(0:Int),()),((BV c (FP (l.getD i H).D0 (l.getD i H).I0)).1,(BV c (FP (l.getD i H).D0 (l.getD i H).I0)).2,()),()))) ?_).trans (ih (i+1) _ ω);show Kn l (l.length:Int) (i:Int) 0 0 c.1 c.2=_;unfold Kn;rw[show Entry.mk 0 0 0 0 N=H from rfl];have hu:=Fl c (FP (l.getD i H).D0 (l.getD i H).I0);simp only[b_ (ω:(i:Int)<(l.length:Int)),Ac (ω:(0:Int)≤(i:Int)) (ω:(i:Int)<(l.length:Int)),d_,h_,Kw,C,hu,ER hi' (show l.length≤AL by unfold AL;omega)]
 have h:=e2 l.length 0 (0,0) ω;rw[P_]at h;have h':PJ (((),(),l,(l.length:Int),(0:Int),()),(((0:Int),(0:Int),()),((0:Int),(0:Int),()),()))=_:=Ak h ω;unfold SI;rw[h'];rfl
def XK(e:B):O:=aA 1 e.D0 e.I0 0 0
def Cj(b:J)(e:B)(X:Rnd):Rnd:=bif JY b X.img then RM (XK e) X else⟨X.recs,X.img,X.xs,X.lan,BV X.ref (FP e.D0 e.I0)⟩
def Ek(b:J):List B→Rnd→Rnd
 |[],X=>X
 |e::t,X=>Ek b t (Cj b e X)
def Bt1(r:O)(X:Rnd):wrL [r] X=RM r X:=by rw[XV];unfold wrL;rw[a2_];rfl
def Zv(h:Ap b e.D0 e.I0=A):Au b (XK e)=A:=by
 have hc:(b.code==0)=A:=by unfold Ap at h;rw[e_]at h;exact h.1
 unfold Au XK;rw[hc];simp only[l_,d_,h,a0_]
def Ao9{X:Rnd}(h:X.ok b)(he:Ap b e.D0 e.I0=A):(Cj b e X).ok b:=by
 unfold Cj;cases JY b X.img with
 |true=>exact XS h (Zv he)
 |false=>exact⟨h.img,h.len⟩
def Asf{b:J}:∀{l:List B}{X:Rnd},X.ok b→(∀e∈l,Ap b e.D0 e.I0=A)→(Ek b l X).ok b
 |[],_,h,_=>h
 |e::t,X,h,hv=>by show(Ek b t (Cj b e X)).ok b;exact Asf (Ao9 h (hv e (q_ ..))) λx hx=>hv x (r_ _ hx)
def Af1(b:J)(e:B)(X:Rnd):(Cj b e X).recs.length≤X.recs.length+1:=by
 unfold Cj;cases JY b X.img with
 |true=>show(X.recs++[_]).length≤_;rw[i_,G_];exact A_ _
 |false=>exact Nat.le_succ _
def Aju(b:J):∀(l:List B) (X:Rnd),(Ek b l X).recs.length≤X.recs.length+l.length
 |[],_=>A_ _
 |e::t,X=>by have h1:=Aju b t (Cj b e X);have h2:=Af1 b e X;show(Ek b t (Cj b e X)).recs.length≤_;rw[C_];omega
def Ajj(c:Int×Int):(Ft c).length≤64:=by
 have h:∀k i:Nat,((List.range' i k).flatMap (LL c)).length≤2*k:=by
  intro k;induction k with
  |zero=>intro i;exact A_ _
  |succ k ih=>
   intro i;rw[e7_,a3_,i_]
   have:=ih (i+1)
   have:=Aeh c i
   omega
 exact h 32 0
def Ajl{c:Int×Int}(h:e∈Ft c):(0≤e.D0∧e.D0<32)∧(e.I0=1∨e.I0=2)∧An c e.D0.toNat e.I0=A:=by obtain⟨f,h1,h2,h3,h4⟩:=mem_range.1 (b6_.2 ⟨e,h,rfl⟩);simp only[BS]at h2 h3 h4;refine⟨ω,h3,?_⟩;rw[h2,h_];exact h4
def LM(b:J)(m:S)(press:Int×Int):Int×Int:=Ay (Cz press (Bz b)) (ofC m.A0 (0,0))
def Xo(hb:b.small)(hcode:b.code=0){press old:Int×Int}(h:e∈Ft (Ay (Cz press (Bz b)) old)):Ap b e.D0 e.I0=A:=by obtain⟨h1,h2,h3⟩:=Ajl h;rw[Bk _ _ ω,Jz,e_,e_,Xt hb hcode ω h2,f3_ h1.1]at h3;exact h3.1.2
section
variable{b:J}(hb:b.small)(hcode:b.code=0)
include hb hcode
theorem Ak6{es:List B}(hl:es.length≤1000)(hv:∀e∈es,Ap b e.D0 e.I0=A):∀(k i:Nat) (Y:Rnd),i+k=es.length→Y.ok b→Y.recs.length≤1000+i→BX (λx=>letI d:=x.2.1.2.2.2;letI f:=d.2.2;letI a:=f.2.2.2;letI g:=a.2.2;letI c:=g.2.2.2;letI e:=c.2.2;Bx x.1.2.1 x.1.2.2.1 x.1.2.2.2.1 x.2.1.1 x.2.1.2.1 x.2.1.2.2.1 d.1 d.2.1 f.1 f.2.1 f.2.2.1 a.1 a.2.1 g.1 g.2.1 g.2.2.1 c.1 c.2.1 e.1 e.2.1 e.2.2.1 e.2.2.2.1 e.2.2.2.2.1) (k+1) (((),es,(es.length:Int),(i:Int),()),(Y.tupB b,()))=R ((),((Ek b (es.drop i) Y).tupB b,())):=by
 intro k;induction k with
 |zero=>intro i Y hi _ _;obtain rfl:i=es.length:=ω;refine AE ?_;show Bx es (es.length:Int) (es.length:Int) Y.recs Y.img.G0 Y.img.O0 Y.img.J0 Y.img.A0 Y.xs Y.lan.lit Y.lan.gong Y.lan.cl.1 Y.lan.cl.2 Y.ref.1 Y.ref.2 b.C0 b.F0 b.H0 b.M0 b.K0 b.L0 b.N0 b.B0=_;unfold Bx;rw[f_ (M_ (es.length:Int)),a7_];rfl
 |succ k ih=>
  intro i Y hi hY hr;have hi':i<es.length:=ω;have hv':=hv _ (BU H hi');have hcc:=Aj hcode;have he:=DQ hb hY.img;have hlp:=hY.img.lp;rw[BT H hi'];refine(BO (x':=(((),es,(es.length:Int),((i+1:Nat):Int),()),((Cj b (es.getD i H) Y).tupB b,()))) ?_).trans (ih (i+1) _ ω (Ao9 hY hv') (by have:=Af1 b (es.getD i H) Y;omega));show Bx es (es.length:Int) (i:Int) Y.recs Y.img.G0 Y.img.O0 Y.img.J0 Y.img.A0 Y.xs Y.lan.lit Y.lan.gong Y.lan.cl.1 Y.lan.cl.2 Y.ref.1 Y.ref.2 b.C0 b.F0 b.H0 b.M0 b.K0 b.L0 b.N0 b.B0=_;unfold Bx Cj;rw[show Entry.mk 0 0 0 0 N=H from rfl,Abj hb Y.img ω ω ω];simp only[b_ (ω:(i:Int)<(es.length:Int)),Ac (ω:(0:Int)≤(i:Int)) (ω:(i:Int)<(es.length:Int)),d_,h_,C,ER hi' (show es.length≤AL by unfold AL;omega)];cases JY b Y.img with
  |true=>have hw:=Adm hb hcode hY (l:=[XK (es.getD i H)]) (by show 1≤100000;omega) (by intro r hr;rw[E_.1 hr];exact Zv hv') ω;rw[Bt1]at hw;unfold XK at hw;simp only[d_,hw,C];rfl
  |false=>have hu:=Fl Y.ref (FP (es.getD i H).D0 (es.getD i H).I0);simp only[c_,Kw,C,hu];rfl
theorem Aqw(press old:Int×Int){X:Rnd}(hX:X.ok b)(hr:X.recs.length≤1000):Dj press.1 press.2 old.1 old.2 X.recs X.img.G0 X.img.O0 X.img.J0 X.img.A0 X.xs X.lan.lit X.lan.gong X.lan.cl.1 X.lan.cl.2 X.ref.1 X.ref.2 b.C0 b.F0 b.H0 b.M0 b.K0 b.L0 b.N0 b.B0=R ((),((Ek b (Ft (Ay (Cz press (Bz b)) old)) X).tupB b,())):=by have hl:=Ajj (Ay (Cz press (Bz b)) old);have h:=Ak6 hb hcode (es:=Ft (Ay (Cz press (Bz b)) old)) ω (λe he=>Xo hb hcode he) _ 0 X (p_ _) hX ω;rw[P_]at h;have h':CW (((),Ft (Ay (Cz press (Bz b)) old),((Ft (Ay (Cz press (Bz b)) old)).length:Int),(0:Int),()),(X.tupB b,()))=_:=Ak h ω;unfold Dj;rw[Lm hb hcode];simp only[C];rw[Gb press (Bz b)];simp only[C];rw[GI (Cz press (Bz b)) old];simp only[C];rw[XZ];simp only[C];unfold Rnd.tupB at h';rw[h'];rfl
end
def Ako(n:Int):Hk n=R ((!inR 0 1000000 n,()),()):=by
 unfold Hk inR;by_cases g:n<0
 ·rw[b_ g,f_ (ω:¬0≤n)];rfl
 ·rw[f_ g,b_ (ω:0≤n)];by_cases g':1000000<n
  ·rw[b_ g',f_ (ω:¬n≤1000000)];rfl
  ·rw[f_ g',b_ (ω:n≤1000000)];rfl
def Ams(hl:xs.length≤maxLen):Bj xs=R ((!Qm xs,()),()):=by
 have hm:maxLen≤9223372036854775807:=by decide
 have key:∀(k i:Nat),i+k=xs.length→∃y,BX (λx=>AG x.1.1 x.1.2.2.1 x.1.2.2.2.1) (k+1) ((xs,(),(xs.length:Int),(i:Int),()),())=R y∧(match y with | .inl _=>(xs.drop i).all (inR 0 1000000)=A | .inr z=>0≤z.1.1∧(xs.drop i).all (inR 0 1000000)=N):=by
  intro k;induction k with
  |zero=>
   intro i hi;refine⟨.inl ((),()),AE ?_,?_⟩
   ·show AG xs (xs.length:Int) (i:Int)=_;unfold AG;rw[show decide ((i:Int)<(xs.length:Int))=N by simp;omega];rfl
   ·rw[show i=xs.length by omega,a7_];rfl
  |succ k ih=>
   intro i hi;have hi':i<xs.length:=ω;have hs:AG xs (xs.length:Int) (i:Int)=R (bif inR 0 1000000 (xs.getD i 0)then .inl ((xs,(),(xs.length:Int),((i+1:Nat):Int),()),())else .inr (.inr (((i:Int),()),()))):=by
    unfold AG;have w:IntKind.i64.wrap ((i:Int)+1)=((i+1:Nat):Int):=by rw[Aa ω ω];omega
    rw[show decide ((i:Int)<(xs.length:Int))=A by simp;omega,Ac ω ω,Ako,w];simp only[d_,h_,C];cases inR 0 1000000 (xs.getD i 0)<;>rfl
   rw[BT (0:Int) hi',Z_];cases hq:inR 0 1000000 (xs.getD i 0)with
   |true=>rw[hq]at hs;obtain⟨y,h1,h2⟩:=ih (i+1) ω;exact⟨y,(BO hs).trans h1,by rw[u_];exact h2⟩
   |false=>rw[hq]at hs;exact⟨_,AE hs,by show(0:Int)≤(i:Int)∧_;exact⟨ω,rfl⟩⟩
 obtain⟨y,h1,h2⟩:=key xs.length 0 ω;have h1':Bm ((xs,(),(xs.length:Int),(0:Int),()),())=R y:=Ak h1 ω;rw[P_]at h2;unfold Bj Cn Qm;rw[h1'];cases y with
 |inl z=>simp only at h2;rw[h2];rfl
 |inr z=>simp only at h2;rw[h2.2];simp only[C];rw[b_ h2.1];rfl
def Xb(m:S)(hl:xs.length≤maxLen):Iz m.G0 m.O0 m.J0 m.A0 xs=R (((((xs.length:Int)==(m.A0.length:Int))&&Qm xs),()),()):=by
 unfold Iz;rw[Ams hl];cases((xs.length:Int)==(m.A0.length:Int))with
 |false=>rfl
 |true=>simp only[d_,C,u_,Bool.not_not]
def Da{α:Type}(l:List α)(h:l.length≤100000):Qj l=R ((l,()),()):=by unfold Qj;rw[Az (ω:l.length≤2147483648)];rfl
def Aua(n:Nat):Lan:=⟨aB n noP,aB n N,(0,0)⟩
def Bq(b:J)(m:S)(xs:List Int)(vs:List View)(ps:List Calls)(press:Int×Int)(good:Bool):Rnd:=bif good then Ek b (Ft (LM b m press)) (wrL (CX b vs m.A0) ⟨[],m,xs,CT b vs ps,(0,0)⟩)else⟨[],m,xs,Aua vs.length,(0,0)⟩
noncomputable def Ts(b:J)(m:S)(xs:List Int)(vs:List View)(ps:List Calls)(press:Int×Int)(good:Bool):List O×List Int×Int×Unit:=OF b (Bq b m xs vs ps press good).img (Bq b m xs vs ps press good).xs vs
noncomputable def EA(b:J)(m:S)(xs:List Int)(vs:List View)(ps:List Calls)(press:Int×Int)(good:Bool):Rnd:={ wrL (Ts b m xs vs ps press good).1 (Bq b m xs vs ps press good)with xs:=(Ts b m xs vs ps press good).2.1 }
def RL(hcode:b.code=0)(vs:List View):∀{l:List B},(∀e∈l,Ap b e.D0 e.I0=A)→∀r∈CX b vs l,Au b r=A∧r.Q0=2:=λh r hr=>by
 obtain⟨e,he,hr⟩:=d0_.1 hr;have hc:=h e he;cases hs:JF b vs e.D0 e.I0 with
 |false=>rw[hs]at hr;cases hr
 |true=>rw[hs]at hr;rw[E_.1 hr];refine⟨?_,rfl⟩;unfold Au;rw[hcode];simp only[show((2:Int)==1)=N from rfl,c_,l_,d_,hc,a0_]
def Aql(hcode:b.code=0)(hm:ImgOK b m)(xs:List Int):∀r∈(OF b m xs vs).1,Au b r=A:=by
 have hcc:=Aj hcode;unfold OF;rw[Img.ok_iff.2 hm];cases hq:((xs.length:Int)==(m.A0.length:Int))with
 |false=>exact λr hr=>by cases hr
 |true=>
  cases hv:((vs.length:Int)==(b.B0.length:Int))with
  |false=>exact λr hr=>by cases hr
  |true=>
   cases Qm xs with
   |false=>exact λr hr=>by cases hr
   |true=>
    have h1:(xs.length:Int)=(m.A0.length:Int):=by simpa using hq
    have h2:(vs.length:Int)=(b.B0.length:Int):=by simpa using hv
    exact(To (b:=b) ω h2 m.A0 xs [] m ω hm rfl).2.1
section
variable{b:J}(hb:b.small)(hcode:b.code=0){m:S}(hm:ImgOK b m){xs:List Int}(hx:xs.length=m.A0.length){vs:List View}(ps:List Calls)(press:Int×Int)(good:Bool)
include hb hcode hm hx
theorem Ape:(Bq b m xs vs ps press good).ok b∧(Bq b m xs vs ps press good).recs.length≤100:=by
 have he:=DQ hb hm;have hX:∀L:Lan,Rnd.ok b ⟨[],m,xs,L,(0,0)⟩:=λL=>⟨hm,hx⟩
 unfold Bq;cases good with
 |false=>exact⟨hX _,a5_ _⟩
 |true=>have hv:=RL hcode vs (l:=m.A0) λe he=>(CM.1 (hm.en e he)).1;refine⟨Asf (Aph (hX _) λr hr=>(hv r hr).1) λe he=>Xo hb hcode he,?_⟩;have h1:=Aju b (Ft (LM b m press)) (wrL (CX b vs m.A0) ⟨[],m,xs,CT b vs ps,(0,0)⟩);have h2:=Ajj (LM b m press);have h3:=Zz b vs m.A0;have h4:(wrL (CX b vs m.A0) ⟨[],m,xs,CT b vs ps,(0,0)⟩).recs.length=(CX b vs m.A0).length:=rfl;show(Ek b (Ft (LM b m press)) (wrL (CX b vs m.A0) ⟨[],m,xs,CT b vs ps,(0,0)⟩)).recs.length≤100;omega
theorem Ab8(hexp:Qm xs=A)(hv:okViews vs)(hvl:vs.length=b.B0.length)(hp:ps.length=b.B0.length):Mi b.C0 b.F0 b.H0 b.M0 b.K0 b.L0 b.N0 b.B0 m.G0 m.O0 m.J0 m.A0 xs vs ps press.1 press.2 good=R (((),0,()),((EA b m xs vs ps press good).tup,())):=by
 have hcc:=Aj hcode;have he:=DQ hb hm;have hlp:=hm.lp;have hlf:=hm.lf;have hll:=hm.ll;have hmx:100000≤maxLen:=by decide
 have hX:∀L:Lan,Rnd.ok b ⟨[],m,xs,L,(0,0)⟩:=λL=>⟨hm,hx⟩
 obtain⟨hok,hrl⟩:=Ape hb hcode hm hx (vs:=vs) ps press good;have hlight:=Acp hb hcode vs ps ω;unfold Ae7 at hlight;rw[show((vs.length:Int)==(b.B0.length:Int))=A by rw[hvl];exact l_ _,show((ps.length:Int)==(b.B0.length:Int))=A by rw[hp];exact l_ _]at hlight;simp only[a0_,d_]at hlight;have hXl:=DQ hb hok.img;have hXp:=hok.img.lp;have hXx:=hok.len;have hplan:=Agl hb hv ω (Bq b m xs vs ps press good).img ω ω (Bq b m xs vs ps press good).xs ω;have hpl:=(Bb8 b (Bq b m xs vs ps press good).img (Bq b m xs vs ps press good).xs vs).1;have hwr:=Adm hb hcode hok (l:=(OF b (Bq b m xs vs ps press good).img (Bq b m xs vs ps press good).xs vs).1) ω (Aql hcode hok.img _) ω;unfold Mi;rw[hlight];simp only[C,Q_,c_,Lan.tup];rw[Db hb m ω ω,Img.ok_iff.2 hm];simp only[C,o_,c_];rw[Xb m ω,show((xs.length:Int)==(m.A0.length:Int))=A by rw[hx];exact l_ _,hexp];unfold NH BH Bd Bl Pn;rw[Da m.G0 ω,Da m.O0 ω,Da m.J0 ω,Da m.A0 ω,Da xs ω];simp only[C,a0_,o_,c_,b_ (ω:(0:Int)≤(vs.length:Int)),b_ (c7_ (vs.length:Int)),b_ (ω:(vs.length:Int)≤2147483648),d_,h_];cases good with
 |false=>simp only[c_,C];rw[show IJ b.C0 b.F0 b.H0 b.M0 b.K0 b.L0 b.N0 b.B0 m.G0 m.O0 m.J0 m.A0 xs vs=_ from hplan];simp only[C];rw[show BA (OF b (Bq b m xs vs ps press N).img (Bq b m xs vs ps press N).xs vs).1 [] m.G0 m.O0 m.J0 m.A0 xs (aB vs.length (Calls.mk 0 0)) (aB vs.length N) 0 0 0 0 b.C0 b.F0 b.H0 b.M0 b.K0 b.L0 b.N0 b.B0=_ from hwr];rfl
 |true=>have hsv:=RL hcode vs (l:=m.A0) λe he=>(CM.1 (hm.en e he)).1;have hsl:=Zz b vs m.A0;have hw1:=Adm hb hcode (hX (CT b vs ps)) (l:=CX b vs m.A0) ω (λr hr=>(hsv r hr).1) (a5_ _);have hrg:=Aqw hb hcode press (ofC m.A0 (0,0)) (X:=wrL (CX b vs m.A0) ⟨[],m,xs,CT b vs ps,(0,0)⟩) (Aph (hX _) λr hr=>(hsv r hr).1) (by show([]++CX b vs m.A0).length≤_;rw[a1_];omega);unfold Hl;simp only[d_];rw[Acq hb hcode hm ω vs ω];simp only[C];simp only at hw1;rw[hw1];simp only[C,Abd (ω:m.A0.length≤100000),Rnd.tupB];rw[hrg];simp only[C,Rnd.tupB];rw[show IJ b.C0 b.F0 b.H0 b.M0 b.K0 b.L0 b.N0 b.B0 (Ek b (Ft (Ay (Cz press (Bz b)) (ofC m.A0 (0,0)))) (wrL (CX b vs m.A0) ⟨[],m,xs,CT b vs ps,(0,0)⟩)).img.G0 (Ek b (Ft (Ay (Cz press (Bz b)) (ofC m.A0 (0,0)))) (wrL (CX b vs m.A0) ⟨[],m,xs,CT b vs ps,(0,0)⟩)).img.O0 (Ek b (Ft (Ay (Cz press (Bz b)) (ofC m.A0 (0,0)))) (wrL (CX b vs m.A0) ⟨[],m,xs,CT b vs ps,(0,0)⟩)).img.J0 (Ek b (Ft (Ay (Cz press (Bz b)) (ofC m.A0 (0,0)))) (wrL (CX b vs m.A0) ⟨[],m,xs,CT b vs ps,(0,0)⟩)).img.A0 (Ek b (Ft (Ay (Cz press (Bz b)) (ofC m.A0 (0,0)))) (wrL (CX b vs m.A0) ⟨[],m,xs,CT b vs ps,(0,0)⟩)).xs vs=_ from hplan];simp only[C];refine Eq.trans (f5_ (λo=>Option.bind o _) (show _=R ((),((wrL (OF b (Bq b m xs vs ps press A).img (Bq b m xs vs ps press A).xs vs).1 (Bq b m xs vs ps press A)).tupB b,()))from hwr)) ?_;rfl
end
structure Pk where
 m:Mch
 budget:Int
 e:Int
 legacy:List Bool
 shows:List Calls
 reset:List Bool
 out:Outputs
def Pk.ap{α:Type}(f:Int→Int→Int→Int→Nat→Nat→Nat→List Car→List Int→List Bool→List Bool→List B→ByteArray→ByteArray→Int→List Debounced→List Belief→List NewCar→List Loaded→List Int→List Calls→Int→Int→Int→Int→Int→Int→Int→List CarInput→Bool→Int→Int→List Bool→List Calls→List Bool→Int→Int→Int→Int→Bool→Bool→Int→List CarOutput→α)(b:J)(x:Inp)(g:Bool)(t:Pk):α:=f b.C0 b.F0 b.H0 b.M0 b.K0 b.L0 b.N0 b.B0 t.m.E0.G0 t.m.E0.O0 t.m.E0.J0 t.m.E0.A0 t.m.B1.h0 t.m.B1.h1 t.m.B1.sel t.m.J1 t.m.U0 t.m.B0 t.m.C3 t.m.B2 t.m.Y2 t.m.Z3 t.m.H3 t.m.R2 x.press.1 x.press.2 x.kind x.car x.cars g t.budget t.e t.legacy t.shows t.reset t.out.Y3 t.out.N3 t.out.X2 t.out.L2 t.out.X5 t.out.L0 t.out.U5 t.out.B0
def Pk.tup(b:J)(x:Inp)(g:Bool)(t:Pk):=(b.C0,b.F0,b.H0,b.M0,b.K0,b.L0,b.N0,b.B0,t.m.E0.G0,t.m.E0.O0,t.m.E0.J0,t.m.E0.A0,t.m.B1.h0,t.m.B1.h1,t.m.B1.sel,t.m.J1,t.m.U0,t.m.B0,t.m.C3,t.m.B2,t.m.Y2,t.m.Z3,t.m.H3,t.m.R2,x.press.1,x.press.2,x.kind,x.car,x.cars,g,t.budget,t.e,t.legacy,t.shows,t.reset,t.out.Y3,t.out.N3,t.out.X2,t.out.L2,t.out.X5,t.out.L0,t.out.U5,t.out.B0,())
def Pk.wr(t:Pk)(im:S)(s:Sto)(bu e:Int):Pk:={ t with m:={ t.m with E0:=im,B1:=s },budget:=bu,e:=e }
def goodL(b:J):S→List O→Prop
 |_,[]=>True
 |m,r::l=>Au b r=A∧JC b m r=N∧goodL b (Am m r) l
def goodL.app:∀{l:List O}{m:S}{k:List O},goodL b m l→goodL b (Ai m l) k→goodL b m (l++k)
 |[],_,_,_,h=>h
 |_::_,_,_,⟨h1,h2,h3⟩,h=>⟨h1,h2,h3.app h⟩
def Xr{b:J}:∀{l:List O}(m:S),(∀r∈l,Au b r=A∧r.Q0≠1)→goodL b m l
 |[],_,_=>trivial
 |r::l,m,h=>by have h1:=h r (q_ ..);refine⟨h1.1,?_,Xr _ λx hx=>h x (r_ _ hx)⟩;unfold JC;rw[Ao h1.2];rfl
def goodL.valid:∀{l:List O}{m:S},goodL b m l→∀r∈l,Au b r=A
 |[],_,_,_,h=>by cases h
 |_::_,_,⟨h1,_,h3⟩,r,h=>by
  rcases s_.1 h with rfl | h
  ·exact h1
  ·exact h3.valid r h
def goodL.drop:∀{l:List O}{m:S},goodL b m l→∀i,i<l.length→Au b (l.getD i ⟨0,0,0,0,0⟩)=A∧JC b (Ai m (l.take i)) (l.getD i ⟨0,0,0,0,0⟩)=N
 |[],_,_,_,h=>absurd h (e3_ _)
 |_::_,_,⟨h1,h2,_⟩,0,_=>⟨h1,h2⟩
 |_::_,_,⟨_,_,h3⟩,i+1,h=>h3.drop i (by rw[C_]at h;omega)
def Apn(h:i<l.length):Ai m (l.take (i+1))=Am (Ai m (l.take i)) (l.getD i ⟨0,0,0,0,0⟩):=by rw[List.take_succ,En,j_ h,k_,j_ h];rfl
def Avq(b:J)(s:Sto)(m:S)(r:O):Sto:=if(s.cur.size:Int)+6≤b.H0 then s.set s.sel (s.get s.sel++txt (Ce r))else { s.set (1-s.sel) (txt ((CR (Am m r)).flatMap Ce))with sel:=1-s.sel }
def As7(hj:Jst b s m)(hv:Au b r=A)(hfull:JC b m r=N){bud:Int}(hb0:0≤bud)(hn:RH b s m r≤bud):(QN b s m r bud).1=Avq b s m r:=by
 have hm2:=(KM hj.img hv).1;have hfit:=YN hj hv hfull;have hsel:=Vy hj.ok;unfold QN;rw[Img.ok_iff.2 hj.img,hv,b_ hj.ok,f_ (ω:¬bud<0),hfull];simp only[a0_,o_,c_];unfold RH at hn;unfold FQ Avq;by_cases g:(s.cur.size:Int)+6≤b.H0
 ·rw[if_pos g]at hn;rw[if_pos g,b_ (ω:(6:Int)≤b.H0-(s.cur.size:Int)),d_];have hw:=Adl (t:=Ce r) hj.ok hsel hb0 (by rw[← Agw hsel,GJ];omega);rw[GJ,if_neg (ω:¬bud<((6:Nat):Int))]at hw;rw[hw];rfl
 ·rw[if_neg g]at hn;rw[if_neg g,f_ (ω:¬(6:Int)≤b.H0-(s.cur.size:Int)),c_];rcases WV hj.ok hm2 hb0 ω with⟨_,q2⟩ | ⟨q1,_⟩
  ·rw[q2];rfl
  ·omega
def Apa(b:J):Sto→S→List O→Sto
 |s,_,[]=>s
 |s,m,r::l=>Apa b (Avq b s m r) (Am m r) l
def Apb(b:J):∀(l:List O) (k:List O) (s:Sto) (m:S),Apa b s m (l++k)=Apa b (Apa b s m l) (Ai m l) k
 |[],_,_,_=>rfl
 |_::l,k,_,_=>Apb b l k _ _
def Wr(b:J)(t:Pk)(l:List O)(t':Pk):Prop:=∃im s bu e,t'=t.wr im s bu e∧((e=0∧im=Ai t.m.E0 l∧Jst b s im∧t.budget-b.H0*(l.length:Int)≤bu∧0≤bu∧bu≤t.budget∧s=Apa b t.m.B1 t.m.E0 l)∨(e=8∧t.budget<b.H0*(l.length:Int)∧s.ok b.H0∧∃k,k<l.length∧CB b s=Ai t.m.E0 (l.take k)))
section
variable{b:J}(hb:b.small){x:Inp}{g:Bool}
include hb
theorem Bkz(hj:Jst b s m)(hv:Au b r=A)(hf:JC b m r=N):6≤RH b s m r∧RH b s m r≤b.H0:=by have h1:=YN hj hv hf;have h2:=hj.fits;have h3:=Aj hj.img.code;unfold RH;split<;>omega
theorem Aaq{t:Pk}(hj:Jst b t.m.B1 t.m.E0)(h0:0≤t.budget∧t.budget<9223372036854775808)(he:t.e=0)(hl:goodL b t.m.E0 l)(hn:l.length≤100000):Sat (t.ap (AU l) b x g) λy=>∃t',(y=.inl ((),(t'.tup b x g,()))∨y=.inr ((),(t'.tup b x g,())))∧Wr b t l t':=by
 have hcc:=Aj hj.img.code;have hroom:0≤b.H0:=by have:=hj.fits;omega
 unfold Pk.ap AU;refine Sat.bindS (Q:=λy=>∃t',(y=.inl ((),(t'.tup b x g,()))∨y=.inr ((),(t'.tup b x g,())))∧Wr b t l t') ?_ λy hy=>?_
 ·unfold Dx;refine Sat.loop (λ(k:Nat) z=>∃(i:Nat) (t':Pk),z=(((),l,(l.length:Int),(i:Int),()),(t'.tup b x g,()))∧i+k=l.length∧Wr b t (l.take i) t') (λk z hz=>?_) l.length ⟨0,t,rfl,p_ _,t.m.E0,t.m.B1,t.budget,t.e,rfl,.inl ⟨he,rfl,hj,σ,h0.1,c7_ _,rfl⟩⟩ ω;obtain⟨i,t',rfl,hk,im,s,bu,e,rfl,hw⟩:=hz;show Sat (Pk.ap (Fv l (l.length:Int) (i:Int)) b x g (t.wr im s bu e)) _;unfold Pk.ap Fv;refine Sat.bic (λq=>?_) λq=>Sat.ret ⟨t.wr im s bu e,.inl rfl,im,s,bu,e,rfl,?_⟩
  ·have q:(i:Int)<(l.length:Int):=m_ q;have hi:i<l.length:=ω;have hlt:(l.take i).length=i:=by rw[v_];omega
   have hlt1:(l.take (i+1)).length=i+1:=by rw[v_];omega
   have hm:b.H0*((i+1:Nat):Int)≤b.H0*(l.length:Int):=Int.mul_le_mul_of_nonneg_left ω hroom;have hm2:b.H0*((i+1:Nat):Int)=b.H0*(i:Int)+b.H0:=by rw[Int.natCast_add,Int.mul_add];simp
   refine Sat.bifT (Ac ω q) ?_;rcases hw with⟨he,him,hj',hb1,hb2,hb3,hst⟩ | ⟨he,hb1,hs,k',hk',hr⟩
   ·subst he him;obtain⟨hv,hf⟩:=hl.drop i hi;have hent:=DQ hb hj'.img;have hp:=hj'.img.lp;refine Sat.bifF (show((0:Int) !=0)=N from rfl) (Sat.bindE (Akp hb ω s (m:=Ai t.m.E0 (l.take i)) ω ω (l.getD i ⟨0,0,0,0,0⟩) (bud:=bu) ω) ?_);have w:=Dn (n:=i) ω;have hnd:=Bkz hb hj' hv hf;rcases Az4 hb hj' hv hf hb2 with⟨c1,s',c2,c3⟩ | ⟨c1,s',c2,c3,c4⟩
    ·have hsto:=As7 hj' hv hf hb2 c1;rw[c2]at hsto;rw[c2];refine Sat.ret ⟨k-1,ω,i+1,t.wr (Am (Ai t.m.E0 (l.take i)) (l.getD i ⟨0,0,0,0,0⟩)) s' (bu-RH b s (Ai t.m.E0 (l.take i)) (l.getD i ⟨0,0,0,0,0⟩)) 0,by first | (rw[← w];rfl) | rw[← w],ω,_,s',_,0,rfl,.inl ⟨rfl,(Apn hi).symm,c3,?_,ω,ω,?_⟩⟩
     ·rw[hlt1];rw[hlt]at hb1;omega
     ·rw[List.take_succ,Apb,← hst,j_ hi];rw[k_,j_ hi]at hsto;exact hsto
    ·rw[c2];refine Sat.ret ⟨k-1,ω,i+1,t.wr (Ai t.m.E0 (l.take i)) s' 0 8,by first | (rw[← w];rfl) | rw[← w],ω,_,s',0,8,rfl,.inr ⟨rfl,?_,c3,i,ω,?_⟩⟩
     ·rw[hlt1];rw[hlt]at hb1;omega
     ·rw[c4,List.take_take,c8_ ω]
   ·subst he;refine Sat.bifT (show((8:Int) !=0)=A from rfl) (Sat.ret ⟨t.wr im s bu 8,.inr rfl,im,s,bu,8,rfl,.inr ⟨rfl,?_,hs,k',ω,?_⟩⟩)
    ·rw[hlt]at hb1;omega
    ·rw[hr,List.take_take,c8_ ω]
  ·have q:¬(i:Int)<(l.length:Int):=D_ q;rw[b1_ ω]at hw;exact hw
 ·obtain⟨t',h1 | h1,h2⟩:=hy
  ·subst h1;exact Sat.ret ⟨t',.inr rfl,h2⟩
  ·subst h1;exact Sat.ret ⟨t',.inl rfl,h2⟩
end
end Go.Ovl
namespace Go.Ovl
open Go Go.Ab
structure Contacts where
 C0:Int
 Up:Bool
 X3:Bool
 T5:Bool
 A4:Bool
def Contacts.get(c:Contacts)(i:Int):Bool:=if i=32 then c.Up else if i=33 then c.X3 else if i=34 then c.T5 else if i=35 then c.A4 else decide (0≤i∧i<32)&&CZ c.C0 i.toNat
def Contacts.set(c:Contacts)(i:Int)(on:Bool):Contacts:=
 if i=32 then { c with Up:=on }else if i=33 then { c with X3:=on }else if i=34 then { c with T5:=on }else if i=35 then { c with A4:=on }
 else if 0≤i∧i<32 then { c with C0:=XP c.C0 i.toNat on }else c
def Contacts.wf(c:Contacts):Prop:=0≤c.C0∧c.C0<4294967296
def Contacts.tup(c:Contacts):Int×Bool×Bool×Bool×Bool×Unit:=(c.C0,c.Up,c.X3,c.T5,c.A4,())
def Contacts.set_wf{c:Contacts}(h:c.wf)(i:Int)(on:Bool):(c.set i on).wf:=by
 unfold Contacts.set
 repeat(split;exact h)
 split
 ·exact Av6 _ _ _
 ·exact h
def Avo{i:Int}(h:0≤i)(h2:i<32):i.toNat<32:=ω
def TH(c:Contacts)(hc:c.wf)(i:Int):LA c.C0 c.Up c.X3 c.T5 c.A4 i=R ((c.get i,()),()):=by
 unfold LA Contacts.get;by_cases h32:i=32
 ·simp[h32]
 by_cases h33:i=33
 ·simp[h33]
 by_cases h34:i=34
 ·simp[h34]
 by_cases h35:i=35
 ·simp[h35]
 simp only[h32,h33,h34,h35,e4_,Ao h32,Ao h33,Ao h34,Ao h35,c_];by_cases h0:0≤i
 ·by_cases h1:i<32
  ·simp only[KH];rw[Bdv hc (Avo h0 h1)];simp[h0,h1]
  ·simp[h0,h1]
 ·simp[h0]
def Abq(c:Contacts)(i:Int)(on:Bool):NY c.C0 c.Up c.X3 c.T5 c.A4 i on=R (((),()),((c.set i on).tup,())):=by
 unfold NY Contacts.set;by_cases h32:i=32
 ·simp[h32,Contacts.tup]
 by_cases h33:i=33
 ·simp[h33,Contacts.tup]
 by_cases h34:i=34
 ·simp[h34,Contacts.tup]
 by_cases h35:i=35
 ·simp[h35,Contacts.tup]
 simp only[h32,h33,h34,h35,e4_,Ao h32,Ao h33,Ao h34,Ao h35,c_];by_cases h0:0≤i
 ·have e0:decide (0≤i)=A:=by simpa using h0
  by_cases h1:i<32
  ·have e1:decide (i<32)=A:=by simpa using h1
   simp only[e0,e1,d_,C,KH];rw[Az2 _ (Avo h0 h1),Btk _ (Avo h0 h1),Bcn,if_pos ⟨h0,h1⟩];cases on<;>rfl
  ·have e1:decide (i<32)=N:=by simpa using h1
   simp only[e0,e1,d_,c_,C];rw[if_neg ω];rfl
 ·have e0:decide (0≤i)=N:=by simpa using h0
  simp only[e0,c_,C];rw[if_neg ω];rfl
end Go.Ovl
