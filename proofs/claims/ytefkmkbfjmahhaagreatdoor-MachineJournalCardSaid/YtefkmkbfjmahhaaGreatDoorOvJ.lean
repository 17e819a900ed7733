import Derived.Test.YtefkmkbfjmahhaaGreatDoorOvI
import Derived.Test.YtefkmkbfjmahhaaGreatDoorOvD
import Derived.Test.YtefkmkbfjmahhaaGreatDoorOvB
import Derived.Test.YtefkmkbfjmahhaaGreatDoorOvH
import Derived.Test.YtefkmkbfjmahhaaGreatDoorOvF
import Derived.Test.YtefkmkbfjmahhaaGreatDoorOvG
import Derived.Test.YtefkmkbfjmahhaaGreatDoorOvC
import Derived.Test.YtefkmkbfjmahhaaGreatDoorDefs4
import Derived.Test.YtefkmkbfjmahhaaGreatDoorOvA
set_option linter.all false
open Bool renaming true->A,false->C
open Go.Ovl renaming Entry->B,Av->I,Bldg->N,noE->O,Record->S,Img->U
open Go renaming a_->H,d_->J
open Option renaming some->R
open List renaming replicate->aA
open Go.Ovl.Record renaming mk->aB
open Go.IntKind renaming i64->aC
namespace Go.Ovl
open Go Go.Ab
set_option maxRecDepth 100000
variable{b:N}{e:B}{l:List S}{m:U}{xs:List Int}{r:S}{vs:List View}{k i:Nat}{s:Sto}
def Aut(e:B)(F D:Int):IC e.E0 e.J0 e.R0 e.B1 e.N1 F D=R ((!Be e (I F D),()),((F,()),(D,()),())):=by
 unfold IC Be I;by_cases h1:F<e.E0
 ·rw[c_ h1,f_ (ω:¬e.E0<F),Am (ω:¬e.E0=F)];rfl
 ·rw[f_ h1];by_cases h2:e.E0=F
  ·rw[h2,f_ (J_ F),l_];by_cases h3:e.J0<D
   ·rw[c_ h3,f_ (ω:¬D≤e.J0)];rfl
   ·rw[f_ h3,c_ (ω:D≤e.J0)];rfl
  ·rw[Am h2,c_ (ω:e.E0<F)];rfl
def Aev(E:List B)(hl:E.length≤100000)(F D:Int):∀(k i:Nat),i+k=E.length→BJ (λx=>Au x.1.1 x.1.2.2.1 x.1.2.2.2.1 x.2.1.1 x.2.2.1.1) (k+1) ((E,(),(E.length:Int),(i:Int),()),((F,()),(D,()),()))=R (bif Nat.blt (i+Ay (I F D) (E.drop i)) E.length then .inr ((((i+Ay (I F D) (E.drop i):Nat):Int),()),((F,()),(D,()),()))else .inl ((),((F,()),(D,()),())))
 |0,i,hi=>by
  obtain rfl:i=E.length:=ω;refine AA ?_;show Au E (E.length:Int) (E.length:Int) F D=_;unfold Au;rw[f_ (J_ (E.length:Int)),a3_]
  have:Nat.blt (E.length+Ay (I F D) []) E.length=C:=by
   cases h:Nat.blt (E.length+Ay (I F D) []) E.length with
   |false=>rfl
   |true=>have:=Eq.mp g7_ h;omega
  rw[this];rfl
 |k+1,i,hi=>by
  have hi':i<E.length:=ω;have hs:Au E (E.length:Int) (i:Int) F D=R (bif Be (E.getD i O) (I F D)then .inl ((E,(),(E.length:Int),((i+1:Nat):Int),()),((F,()),(D,()),()))else .inr (.inr (((i:Int),()),((F,()),(D,()),())))):=by unfold Au;rw[show Entry.mk 0 0 0 0 C=O from rfl];simp only[c_ (ω:(i:Int)<(E.length:Int)),Ac (ω:(0:Int)≤(i:Int)) (ω:(i:Int)<(E.length:Int)),J,i_,Aut,H,Ef hi' (show E.length≤AN by unfold AN;omega)];cases Be (E.getD i O) (I F D)<;>rfl
  have hd:=BN O hi';rw[hd];simp only[Ay];cases hq:Be (E.getD i O) (I F D)with
  |true=>rw[hq]at hs;refine(Bt hs).trans ?_;rw[Aev E hl F D k (i+1) ω,J,show i+1+Ay (I F D) (E.drop (i+1))=i+(Ay (I F D) (E.drop (i+1))+1)by omega]
  |false=>rw[hq]at hs;refine(AA hs).trans ?_;rw[b_,c0_,show Nat.blt i E.length=A from Eq.mpr g7_ hi'];rfl
def Aah(m:U)(hl:m.A0.length≤100000)(F D:Int):Ks m.F0 m.K0 m.H0 m.A0 F D=R ((((Ay (I F D) m.A0:Nat):Int),FI (I F D) m.A0,()),()):=by
 have h:=Aev m.A0 hl F D m.A0.length 0 ω;have h':=Aj h ω;rw[P_,p_]at h';have hle:=Tm (I F D) m.A0;unfold Ks BQ FI;rw[show AW ((m.A0,(),(m.A0.length:Int),(0:Int),()),((F,()),(D,()),()))=_ from h'];cases hq:Nat.blt (Ay (I F D) m.A0) m.A0.length with
 |false=>
  have hge:m.A0.length≤Ay (I F D) m.A0:=by
   rcases g1_ (Ay (I F D) m.A0) m.A0.length with g | g
   ·rw[Eq.mpr g7_ g]at hq;cases hq
   ·exact g
  rw[show Ay (I F D) m.A0=m.A0.length by omega];rfl
 |true=>have hlt:Ay (I F D) m.A0<m.A0.length:=Eq.mp g7_ hq;simp only[J,H];rw[f_ (ω:¬((Ay (I F D) m.A0:Nat):Int)<0)];simp only[b_,Ac (ω:(0:Int)≤((Ay (I F D) m.A0:Nat):Int)) (ω:((Ay (I F D) m.A0:Nat):Int)<(m.A0.length:Int)),J,i_];rw[show Entry.mk 0 0 0 0 C=O from rfl];unfold isC;show Option.bind (bif(m.A0.getD (Ay (I F D) m.A0) O).E0==F then _ else _) _=R ((_,A&&((m.A0.getD (Ay (I F D) m.A0) O).E0==F&&(m.A0.getD (Ay (I F D) m.A0) O).J0==D),()),());cases(m.A0.getD (Ay (I F D) m.A0) O).E0==F<;>rfl
structure Rnd where
 recs:List Record
 img:Img
 xs:List Int
 lan:Lan
 ref:Int×Int
def Rnd.tup(r:Rnd):List S×List Int×List Bool×List Bool×List B×List Int×List Calls×List Bool×Int×Int×Int×Int×Unit:=(r.recs,r.img.F0,r.img.K0,r.img.H0,r.img.A0,r.xs,r.lan.lit,r.lan.gong,r.lan.cl.1,r.lan.cl.2,r.ref.1,r.ref.2,())
def Rnd.tupB(b:N)(r:Rnd):List S×List Int×List Bool×List Bool×List B×List Int×List Calls×List Bool×Int×Int×Int×Int×Int×Int×Int×Int×Nat×Nat×Nat×List Car×Unit:=(r.recs,r.img.F0,r.img.K0,r.img.H0,r.img.A0,r.xs,r.lan.lit,r.lan.gong,r.lan.cl.1,r.lan.cl.2,r.ref.1,r.ref.2,b.D0,b.G0,b.I0,b.M0,b.L0,b.N0,b.O0,b.B0,())
structure Rnd.ok(b:Bldg)(r:Rnd):Prop where
 img:ImgOK b r.img
 len:r.xs.length=r.img.A0.length
def HY:S:=aB 0 0 0 0 0
def Vl(r:S)(X:Rnd):Rnd:=⟨X.recs++[r],Ak X.img r,xsV X.img.A0 X.xs r,X.lan,X.ref⟩
def wrL(l:List S)(X:Rnd):Rnd:=⟨X.recs++l,Ag X.img l,xsL X.img X.xs l,X.lan,X.ref⟩
def XH(r:S)(l:List S)(X:Rnd):wrL (r::l) X=wrL l (Vl r X):=by unfold wrL Vl;simp only[F_,c5_];rfl
def XD{X:Rnd}(h:X.ok b)(hv:As b r=A):(Vl r X).ok b:=⟨(Kl h.img hv).1,Bjz h.img.so h.len r⟩
def Aow{b:N}:∀{l:List S}{X:Rnd},X.ok b→(∀r∈l,As b r=A)→(wrL l X).ok b
 |[],X,h,_=>by unfold wrL;rw[a0_];exact⟨h.img,h.len⟩
 |r::t,X,h,hv=>by rw[XH];exact Aow (XD h (hv r (s_ ..))) λx hx=>hv x (u_ _ hx)
def Bmx(h:k<xs.length)(hl:xs.length≤100000):EK xs (k:Int) (IntKind.wrap aC ((k:Int)+1))=R ((xs.take k++xs.drop (k+1),()),()):=by unfold EK Amf;rw[Aa ω ω,c_ (ω:(0:Int)≤(k:Int)),c_ (ω:(k:Int)<(k:Int)+1),c_ (ω:(k:Int)+1≤(xs.length:Int)),show Int.toNat ((k:Int)+1)=k+1 by omega,i_];rfl
def Bos(h:k≤xs.length)(hl:xs.length≤100000):EL xs (k:Int) [0]=R ((xs.take k++[0]++xs.drop k,()),()):=by unfold EL Ab0;rw[c_ (ω:(0:Int)≤(k:Int)),c_ (ω:(k:Int)≤(xs.length:Int)),Ap (show xs.length+[(0:Int)].length≤2147483648 by show xs.length+1≤_;omega),i_];rfl
section
variable{b:N}(hb:b.small)(hcode:b.code=0)
include hb hcode
omit hcode in
theorem CL(hm:ImgOK b m):m.A0.length≤14:=by
 have:=Bi0 hb hm
 have:=hb.hi
 omega
theorem Avt{X:Rnd}(hX:X.ok b)(hl:l.length≤100000)(hi:i<l.length)(hv:As b (l.getD i HY)=A)(hr:X.recs.length≤1000000):Cj l (l.length:Int) (i:Int) X.recs X.img.F0 X.img.K0 X.img.H0 X.img.A0 X.xs X.lan.lit X.lan.gong X.lan.cl.1 X.lan.cl.2 X.ref.1 X.ref.2 b.D0 b.G0 b.I0 b.M0 b.L0 b.N0 b.O0 b.B0=R (.inl (((),l,(l.length:Int),((i+1:Nat):Int),()),((Vl (l.getD i HY) X).tupB b,()))):=by
 have hcc:=An hcode;have he:=CL hb hX.img;have hlp:=hX.img.lp;have hxl:=hX.len;have hpl:=Tm (I (l.getD i HY).E0 (l.getD i HY).J0) X.img.A0;have ha:=YN hb ω X.img ω ω (l.getD i HY);have ha':PP b X.img (l.getD i HY)=(((),0,()),((Ak X.img (l.getD i HY)).tup,())):=by unfold PP;rw[Img.ok_iff.2 hX.img,hv];rfl
 rw[ha']at ha;unfold Cj;rw[show aB 0 0 0 0 0=HY from rfl];simp only[c_ (ω:(i:Int)<(l.length:Int)),Ac (ω:(0:Int)≤(i:Int)) (ω:(i:Int)<(l.length:Int)),J,i_];rw[Aah X.img ω];simp only[H];generalize l.getD i HY=r at*;have hbl:Nat.ble (X.recs.length+[aB r.Q0 r.E0 r.J0 r.R0 r.J1].length) 2147483648=A:=Ap (by show X.recs.length+1≤_;omega);have hw:=Ef hi (show l.length≤AN by unfold AN;omega);have hxs:∀q,xsV X.img.A0 X.xs r=q→(Vl r X).tupB b=(X.recs++[aB r.Q0 r.E0 r.J0 r.R0 r.J1],(Ak X.img r).F0,(Ak X.img r).K0,(Ak X.img r).H0,(Ak X.img r).A0,q,X.lan.lit,X.lan.gong,X.lan.cl.1,X.lan.cl.2,X.ref.1,X.ref.2,b.D0,b.G0,b.I0,b.M0,b.L0,b.N0,b.O0,b.B0,()):=λq h=>by rw[← h];rfl
 by_cases k2:r.Q0=2
 ·have k1:(r.Q0==1)=C:=Am ω;have k2':(r.Q0==2)=A:=by rw[k2];rfl
  cases hf:FI (I r.E0 r.J0) X.img.A0 with
  |true=>rw[hxs _ (show _=X.xs.take (Ay (I r.E0 r.J0) X.img.A0)++X.xs.drop (Ay (I r.E0 r.J0) X.img.A0+1)by unfold xsV;rw[k2',hf];rfl)];have hp:=(Aq9 hf).1;simp only[k2',J,H,Bmx (ω:Ay (I r.E0 r.J0) X.img.A0<X.xs.length) ω];rw[ha];simp only[H,l_,J,hbl,hw];rfl
  |false=>rw[hxs X.xs (by unfold xsV;rw[hf,k1,c2_,a7_];rfl)];simp only[k2',k1,J,b_,H];rw[ha];simp only[H,l_,J,hbl,hw];rfl
 ·have k2':(r.Q0==2)=C:=Am k2;by_cases k1:r.Q0=1
  ·have k1':(r.Q0==1)=A:=by rw[k1];rfl
   cases hf:FI (I r.E0 r.J0) X.img.A0 with
   |false=>rw[hxs _ (show _=X.xs.take (Ay (I r.E0 r.J0) X.img.A0)++[0]++X.xs.drop (Ay (I r.E0 r.J0) X.img.A0)by unfold xsV;rw[k2',k1',hf];rfl)];simp only[k2',k1',J,b_,H,c1_,Bos (ω:Ay (I r.E0 r.J0) X.img.A0≤X.xs.length) ω];rw[ha];simp only[H,l_,J,hbl,hw];rfl
   |true=>rw[hxs X.xs (by unfold xsV;rw[hf,k2',a7_,m_,c2_];rfl)];simp only[k2',k1',J,b_,H,m_];rw[ha];simp only[H,l_,J,hbl,hw];rfl
  ·have k1':(r.Q0==1)=C:=Am k1;rw[hxs X.xs (by unfold xsV;rw[k2',k1',a7_,a7_];rfl)];simp only[k2',k1',b_,H];rw[ha];simp only[H,l_,J,hbl,hw];rfl
theorem Acx{X:Rnd}(hX:X.ok b)(hl:l.length≤100000)(hv:∀r∈l,As b r=A)(hr:X.recs.length≤100000):BO l X.recs X.img.F0 X.img.K0 X.img.H0 X.img.A0 X.xs X.lan.lit X.lan.gong X.lan.cl.1 X.lan.cl.2 X.ref.1 X.ref.2 b.D0 b.G0 b.I0 b.M0 b.L0 b.N0 b.O0 b.B0=R ((),((wrL l X).tupB b,())):=by
 have key:∀(k i:Nat) (Y:Rnd),i+k=l.length→Y.ok b→Y.recs.length≤100000+i→BJ (λx=>letI d:=x.2.1.2.2.2;letI f:=d.2.2;letI a:=f.2.2.2;letI g:=a.2.2;letI c:=g.2.2.2;letI e:=c.2.2;Cj x.1.2.1 x.1.2.2.1 x.1.2.2.2.1 x.2.1.1 x.2.1.2.1 x.2.1.2.2.1 d.1 d.2.1 f.1 f.2.1 f.2.2.1 a.1 a.2.1 g.1 g.2.1 g.2.2.1 c.1 c.2.1 e.1 e.2.1 e.2.2.1 e.2.2.2.1 e.2.2.2.2.1) (k+1) (((),l,(l.length:Int),(i:Int),()),(Y.tupB b,()))=R ((),((wrL (l.drop i) Y).tupB b,())):=by
  intro k;induction k with
  |zero=>intro i Y hi _ _;obtain rfl:i=l.length:=ω;refine AA ?_;show Cj l (l.length:Int) (l.length:Int) Y.recs Y.img.F0 Y.img.K0 Y.img.H0 Y.img.A0 Y.xs Y.lan.lit Y.lan.gong Y.lan.cl.1 Y.lan.cl.2 Y.ref.1 Y.ref.2 b.D0 b.G0 b.I0 b.M0 b.L0 b.N0 b.O0 b.B0=_;unfold Cj;rw[f_ (J_ (l.length:Int)),a3_];unfold wrL;rw[a0_];rfl
  |succ k ih=>intro i Y hi hY hr;have hi':i<l.length:=ω;have hv':=hv _ (CD HY hi');rw[BN HY hi',XH];exact(Bt (Avt hb hcode hY hl hi' hv' ω)).trans (ih (i+1) _ ω (XD hY hv') (by show(Y.recs++[_]).length≤_;rw[h_,D_];omega))
 have h:=key l.length 0 X ω hX ω;rw[P_]at h;have h':CN (((),l,(l.length:Int),(0:Int),()),(X.tupB b,()))=_:=Aj h ω;unfold BO;rw[show CN (((),l,(l.length:Int),(0:Int),()),((X.recs,X.img.F0,X.img.K0,X.img.H0,X.img.A0,X.xs,X.lan.lit,X.lan.gong,X.lan.cl.1,X.lan.cl.2,X.ref.1,X.ref.2,b.D0,b.G0,b.I0,b.M0,b.L0,b.N0,b.O0,b.B0,()),()))=_ from h'];rfl
end
def Yv{F D:Int}{e:B}(he:isC F D e=A)(T:List B):∀(P:List B) (i:Nat),(∀p∈P,isC F D p=C)→CV F D (P++e::T) i=((i+P.length:Nat):Int)
 |[],i,_=>by simp only[W_,CV,he,J,d6_,c0_]
 |p::P,i,h=>by simp only[List.cons_append,CV,h p (s_ ..),b_];rw[Yv he T P (i+1) λx hx=>h x (u_ _ hx),E_];congr 1;omega
def Avh{P T:List B}(h:Bz (P++e::T)):∀p∈P,isC e.E0 e.J0 p=C:=by intro p hp;rw[Ev]at h;have h2:=(g8_.1 h).2.2 p hp e (s_ ..);rw[Hr]at h2;unfold isC;simp only[Bool.and_eq_false_iff,beq_eq_false_iff_ne];omega
def Amy(P T:List B)(e:B):(P++e::T).getD P.length O=e:=by simp[k_]
def WA(e:B):isC e.E0 e.J0 e=A:=by unfold isC;simp
def Ao2{P T:List B}(hE:m.A0=P++e::T)(hs:∀p∈P,isC e.E0 e.J0 p=C)(n c:Int):Ak m ⟨7,e.E0,e.J0,c,n⟩=m.put (P++Us e n c::T):=by
 unfold Ak;have hf:CV e.E0 e.J0 m.A0 0=(P.length:Int):=by rw[hE,Yv (WA e) T P 0 hs,p_]
 simp only[hf];rw[Am (ω:¬(P.length:Int)=-1),hE,i_,Amy,Tn,Tn];rfl
def Ah1{P T:List B}(hE:m.A0=P++e::T)(hs:∀p∈P,isC e.E0 e.J0 p=C)(c:Int):Ak m ⟨3,e.E0,e.J0,c,0⟩=m.put (P++Afc e c::T):=by
 unfold Ak;have hf:CV e.E0 e.J0 m.A0 0=(P.length:Int):=by rw[hE,Yv (WA e) T P 0 hs,p_]
 simp only[hf];rw[Am (ω:¬(P.length:Int)=-1),hE,i_,Amy,Tn,Tn];rfl
def Img.put_put(m:U)(l l':List B):(m.put l).put l'=m.put l':=rfl
def Img.put_self(m:U):m.put m.A0=m:=rfl
def Asj{P T:List B}{n:B}(hE:m.A0=P++e::T)(hs:∀p∈P,isC e.E0 e.J0 p=C)(hF:n.E0=e.E0)(hD:n.J0=e.J0):Ag m (Nf e n)=m.put (P++n::T):=by
 obtain⟨nF,nD,nC,nM,nV⟩:=n;obtain⟨eF,eD,eC,eM,eV⟩:=e;simp only at hF hD;subst hF hD;unfold Nf;simp only;have mv:∀c:Int,Us ⟨nF,nD,eC,eM,eV⟩ nM c=⟨nF,nD,eC,nM,c==1⟩:=λ_=>rfl;have cv:((bif nV then(1:Int)else 0)==1)=nV:=by cases nV<;>rfl
 cases hp:(eM !=nM||!(eV==nV))with
 |true=>
  have h1:=Ao2 hE hs nM (bif nV then 1 else 0);rw[mv,cv]at h1;cases hq:eC !=nC with
  |true=>have h2:=Ah1 (m:=m.put (P++⟨nF,nD,eC,nM,nV⟩::T)) (P:=P) (T:=T) (e:=⟨nF,nD,eC,nM,nV⟩) rfl hs nC;simp only[J,List.cons_append,W_,Ag];rw[h1,h2];rfl
  |false=>
   have:eC=nC:=by simpa[bne]using hq
   subst this;simp only[J,b_,a0_,Ag];exact h1
 |false=>
  simp only[Bool.or_eq_false_iff,Bool.not_eq_false',bne_eq_false_iff_eq,U_]at hp;obtain⟨rfl,rfl⟩:=hp;cases hq:eC !=nC with
  |true=>have h2:=Ah1 hE hs nC;simp only[J,b_,W_,Ag];exact h2
  |false=>
   have:eC=nC:=by simpa[bne]using hq
   subst this;simp only[b_,a0_,Ag];rw[← hE];exact(Img.put_self m).symm
def Au1{n:B}(hcode:b.code=0)(hcall:Ao b n.E0 n.J0=A)(hc:-2≤n.R0∧n.R0<(b.B0.length:Int))(hm:0≤n.B1∧n.B1≤255):∀r∈Nf e n,As b r=A:=by
 intro r hr;unfold Nf at hr;rcases o_.1 hr with h | h
 ·cases hp:(e.B1 !=n.B1||!(e.N1==n.N1))with
  |false=>rw[hp]at h;cases h
  |true=>rw[hp]at h;rw[C_.1 h];unfold As;rw[hcode,hcall,Ar.2 hm];cases n.N1<;>rfl
 ·cases hp:e.R0 !=n.R0 with
  |false=>rw[hp]at h;cases h
  |true=>rw[hp]at h;rw[C_.1 h];unfold As;rw[hcode,hcall,Ar.2 ⟨hc.1,show n.R0≤(b.B0.length:Int)-1 by omega⟩];rfl
noncomputable def Vw(b:N)(vs:List View):List B→List Int→List B
 |e::t,x::xs=>EZ b vs e x::Vw b vs t xs
 |_,_=>[]
def Ame(b:N)(vs:List View):∀(l:List B) (xs:List Int),xs.length=l.length→(Vw b vs l xs).length=l.length
 |[],_,_=>by simp[Vw]
 |_::_,[],h=>by simp at h
 |e::t,x::xs,h=>by simp only[Vw,E_,Ame b vs t xs (by simpa using h)]
def Ati(hc:b.B0.length≤100)(hm:0≤e.B1∧e.B1≤255)(x:Int):0≤(EZ b vs e x).B1∧(EZ b vs e x).B1≤255:=by
 unfold EZ;cases e.R0==-2 with
 |true=>exact hm
 |false=>
  cases e.R0==-1 with
  |true=>exact hm
  |false=>
   cases(Ax vs e.R0).X3 with
   |true=>
    by_cases g:(b.B0.length:Int)<e.B1
    ·rw[c_ g];exact hm
    ·rw[f_ g];exact⟨by show 0≤e.B1+1;omega,by show e.B1+1≤255;omega⟩
   |false=>
    by_cases g:e.B1≤(b.B0.length:Int)
    ·rw[c_ g];cases e.N1 with
     |true=>exact hm
     |false=>
      cases Nx b vs e x != -1 with
      |true=>exact⟨by show 0≤e.B1+1;omega,by show e.B1+1≤255;omega⟩
      |false=>exact hm
    ·rw[f_ g,c2_];exact hm
def Xu{b:N}(hc:b.B0.length≤100){vs:List View}(hlen:(vs.length:Int)=(b.B0.length:Int)):∀(T:List B) (xs:List Int) (P:List B) (m:U),xs.length=T.length→ImgOK b m→m.A0=P++T→Ag m (Gy b vs T xs)=m.put (P++Vw b vs T xs)∧(∀r∈Gy b vs T xs,As b r=A)∧ImgOK b (m.put (P++Vw b vs T xs))
 |[],xs,P,m,_,hm,hE=>by
  have:Vw b vs [] xs=[]:=by simp[Vw]
  have h2:Gy b vs [] xs=[]:=by simp[Gy]
  rw[this,h2,← hE];exact⟨rfl,(λ_ h=>by cases h),hm⟩
 |_::_,[],_,_,h,_,_=>by simp at h
 |e::T,x::xs,P,m,h,hm,hE=>by
  have hent:=DL.1 (hm.en e (by rw[hE];simp));have hso:=hm.so;rw[hE]at hso;have hs:=Avh hso;obtain⟨c1,c2⟩:=Azl b vs e x;have hin:=Aqv b (vs:=vs) (e:=e) ω x;have hmv:=Ati hc (vs:=vs) hent.2.2 x;have hval:=Au1 (b:=b) (e:=e) (n:=EZ b vs e x) hm.code (by rw[c1,c2];exact hent.1) ω hmv;have hap:=Asj hE hs c1 c2;have hok:ImgOK b (m.put (P++EZ b vs e x::T)):=by rw[← hap];exact(UH hm hval).1
  obtain⟨g1,g2,g3⟩:=Xu hc hlen T xs (P++[EZ b vs e x]) (m.put (P++EZ b vs e x::T)) (by simpa using h) hok (by simp[Img.put]);simp only[Gy,Vw];have app:∀(rs qs:List S) (m:U),Ag m (rs++qs)=Ag (Ag m rs) qs:=λrs=>by
   induction rs with
   |nil=>intro _ _;rfl
   |cons r rs ih=>intro qs m;exact ih qs (Ak m r)
  rw[app,hap,g1,Img.put_put];rw[Img.put_put]at g3;simp only[F_,c5_]at g3⊢;exact⟨trivial,(λr hr=>by
   rcases o_.1 hr with hr | hr
   ·exact hval r hr
   ·exact g2 r hr),g3⟩
def Aat{l:List B}(hl:l.length≤100000):Sq l=R (((),()),(((ofC l (0,0)).1,(ofC l (0,0)).2,()),())):=by
 have e2:∀(k i:Nat) (c:Int×Int),i+k=l.length→BJ (λx=>JN x.1.2.2.1 x.1.2.2.2.1 x.1.2.2.2.2.1 x.2.1.1 x.2.1.2.1 x.2.2.1.1 x.2.2.1.2.1) (k+1) (((),(),l,(l.length:Int),(i:Int),()),(((0:Int),(0:Int),()),(c.1,c.2,()),()))=R (((),(),()),(((0:Int),(0:Int),()),((ofC (l.drop i) c).1,(ofC (l.drop i) c).2,()),())):=by
  intro k;induction k with
  |zero=>intro i c hi;obtain rfl:i=l.length:=ω;refine AA ?_;show JN l (l.length:Int) (l.length:Int) 0 0 c.1 c.2=_;unfold JN;rw[f_ (J_ (l.length:Int)),a3_];rfl
  |succ k ih=>intro i c hi;have hi':i<l.length:=ω;rw[BN O hi'];refine(Bt (x':=(((),(),l,(l.length:Int),((i+1:Nat):Int),()),(((0:Int),(0:Int),()),((Cm c (EB (l.getD i O).E0 (l.getD i O).J0)).1,(Cm c (EB (l.getD i O).E0 (l.getD i O).J0)).2,()),()))) ?_).trans (ih (i+1) _ ω);show JN l (l.length:Int) (i:Int) 0 0 c.1 c.2=_;unfold JN;rw[show Entry.mk 0 0 0 0 C=O from rfl];have hu:=Gn c (EB (l.getD i O).E0 (l.getD i O).J0);simp only[c_ (ω:(i:Int)<(l.length:Int)),Ac (ω:(0:Int)≤(i:Int)) (ω:(i:Int)<(l.length:Int)),J,i_,Ka,H,hu,Ef hi' (show l.length≤AN by unfold AN;omega)]
 have h:=e2 l.length 0 (0,0) ω;rw[P_]at h;have h':Pl (((),(),l,(l.length:Int),(0:Int),()),(((0:Int),(0:Int),()),((0:Int),(0:Int),()),()))=_:=Aj h ω;unfold Sq;rw[h'];rfl
def Xx(e:B):S:=aB 1 e.E0 e.J0 0 0
def FP(b:N)(e:B)(X:Rnd):Rnd:=bif Oc b X.img then Vl (Xx e) X else⟨X.recs,X.img,X.xs,X.lan,Cm X.ref (EB e.E0 e.J0)⟩
def Ji(b:N):List B→Rnd→Rnd
 |[],X=>X
 |e::t,X=>Ji b t (FP b e X)
def Br6(r:S)(X:Rnd):wrL [r] X=Vl r X:=by rw[XH];unfold wrL;rw[a0_];rfl
def Zi(h:Ao b e.E0 e.J0=A):As b (Xx e)=A:=by
 have hc:(b.code==0)=A:=by unfold Ao at h;rw[e_]at h;exact h.1
 unfold As Xx;rw[hc];simp only[l_,J,h,S_]
def Aon{X:Rnd}(h:X.ok b)(he:Ao b e.E0 e.J0=A):(FP b e X).ok b:=by
 unfold FP;cases Oc b X.img with
 |true=>exact XD h (Zi he)
 |false=>exact⟨h.img,h.len⟩
def Ars{b:N}:∀{l:List B}{X:Rnd},X.ok b→(∀e∈l,Ao b e.E0 e.J0=A)→(Ji b l X).ok b
 |[],_,h,_=>h
 |e::t,X,h,hv=>by show(Ji b t (FP b e X)).ok b;exact Ars (Aon h (hv e (s_ ..))) λx hx=>hv x (u_ _ hx)
def Afh(b:N)(e:B)(X:Rnd):(FP b e X).recs.length≤X.recs.length+1:=by
 unfold FP;cases Oc b X.img with
 |true=>show(X.recs++[_]).length≤_;rw[h_,D_];exact A_ _
 |false=>exact Nat.le_succ _
def Aje(b:N):∀(l:List B) (X:Rnd),(Ji b l X).recs.length≤X.recs.length+l.length
 |[],_=>A_ _
 |e::t,X=>by have h1:=Aje b t (FP b e X);have h2:=Afh b e X;show(Ji b t (FP b e X)).recs.length≤_;rw[E_];omega
def Ai4(c:Int×Int):(GV c).length≤64:=by
 have h:∀k i:Nat,((List.range' i k).flatMap (Nv c)).length≤2*k:=by
  intro k;induction k with
  |zero=>intro i;exact A_ _
  |succ k ih=>
   intro i;rw[f1_,a8_,h_]
   have:=ih (i+1)
   have:=Ads c i
   omega
 exact h 32 0
def Ai6{c:Int×Int}(h:e∈GV c):(0≤e.E0∧e.E0<32)∧(e.J0=1∨e.J0=2)∧Az c e.E0.toNat e.J0=A:=by obtain⟨f,h1,h2,h3,h4⟩:=mem_range.1 (b8_.2 ⟨e,h,rfl⟩);simp only[Dm]at h2 h3 h4;refine⟨ω,h3,?_⟩;rw[h2,i_];exact h4
def VX(b:N)(m:U)(press:Int×Int):Int×Int:=AU (CU press (BM b)) (ofC m.A0 (0,0))
def Xb(hb:b.small)(hcode:b.code=0){press old:Int×Int}(h:e∈GV (AU (CU press (BM b)) old)):Ao b e.E0 e.J0=A:=by obtain⟨h1,h2,h3⟩:=Ai6 h;rw[CT _ _ ω,Ml,e_,e_,Xg hb hcode ω h2,g0_ h1.1]at h3;exact h3.1.2
section
variable{b:N}(hb:b.small)(hcode:b.code=0)
include hb hcode
theorem Akm{es:List B}(hl:es.length≤1000)(hv:∀e∈es,Ao b e.E0 e.J0=A):∀(k i:Nat) (Y:Rnd),i+k=es.length→Y.ok b→Y.recs.length≤1000+i→BJ (λx=>letI d:=x.2.1.2.2.2;letI f:=d.2.2;letI a:=f.2.2.2;letI g:=a.2.2;letI c:=g.2.2.2;letI e:=c.2.2;BH x.1.2.1 x.1.2.2.1 x.1.2.2.2.1 x.2.1.1 x.2.1.2.1 x.2.1.2.2.1 d.1 d.2.1 f.1 f.2.1 f.2.2.1 a.1 a.2.1 g.1 g.2.1 g.2.2.1 c.1 c.2.1 e.1 e.2.1 e.2.2.1 e.2.2.2.1 e.2.2.2.2.1) (k+1) (((),es,(es.length:Int),(i:Int),()),(Y.tupB b,()))=R ((),((Ji b (es.drop i) Y).tupB b,())):=by
 intro k;induction k with
 |zero=>intro i Y hi _ _;obtain rfl:i=es.length:=ω;refine AA ?_;show BH es (es.length:Int) (es.length:Int) Y.recs Y.img.F0 Y.img.K0 Y.img.H0 Y.img.A0 Y.xs Y.lan.lit Y.lan.gong Y.lan.cl.1 Y.lan.cl.2 Y.ref.1 Y.ref.2 b.D0 b.G0 b.I0 b.M0 b.L0 b.N0 b.O0 b.B0=_;unfold BH;rw[f_ (J_ (es.length:Int)),a3_];rfl
 |succ k ih=>
  intro i Y hi hY hr;have hi':i<es.length:=ω;have hv':=hv _ (CD O hi');have hcc:=An hcode;have he:=CL hb hY.img;have hlp:=hY.img.lp;rw[BN O hi'];refine(Bt (x':=(((),es,(es.length:Int),((i+1:Nat):Int),()),((FP b (es.getD i O) Y).tupB b,()))) ?_).trans (ih (i+1) _ ω (Aon hY hv') (by have:=Afh b (es.getD i O) Y;omega));show BH es (es.length:Int) (i:Int) Y.recs Y.img.F0 Y.img.K0 Y.img.H0 Y.img.A0 Y.xs Y.lan.lit Y.lan.gong Y.lan.cl.1 Y.lan.cl.2 Y.ref.1 Y.ref.2 b.D0 b.G0 b.I0 b.M0 b.L0 b.N0 b.O0 b.B0=_;unfold BH FP;rw[show Entry.mk 0 0 0 0 C=O from rfl,Aay hb Y.img ω ω ω];simp only[c_ (ω:(i:Int)<(es.length:Int)),Ac (ω:(0:Int)≤(i:Int)) (ω:(i:Int)<(es.length:Int)),J,i_,H,Ef hi' (show es.length≤AN by unfold AN;omega)];cases Oc b Y.img with
  |true=>have hw:=Acx hb hcode hY (l:=[Xx (es.getD i O)]) (by show 1≤100000;omega) (by intro r hr;rw[C_.1 hr];exact Zi hv') ω;rw[Br6]at hw;unfold Xx at hw;simp only[J,hw,H];rfl
  |false=>have hu:=Gn Y.ref (EB (es.getD i O).E0 (es.getD i O).J0);simp only[b_,Ka,H,hu];rfl
theorem Ap9(press old:Int×Int){X:Rnd}(hX:X.ok b)(hr:X.recs.length≤1000):Du press.1 press.2 old.1 old.2 X.recs X.img.F0 X.img.K0 X.img.H0 X.img.A0 X.xs X.lan.lit X.lan.gong X.lan.cl.1 X.lan.cl.2 X.ref.1 X.ref.2 b.D0 b.G0 b.I0 b.M0 b.L0 b.N0 b.O0 b.B0=R ((),((Ji b (GV (AU (CU press (BM b)) old)) X).tupB b,())):=by have hl:=Ai4 (AU (CU press (BM b)) old);have h:=Akm hb hcode (es:=GV (AU (CU press (BM b)) old)) ω (λe he=>Xb hb hcode he) _ 0 X (p_ _) hX ω;rw[P_]at h;have h':Df (((),GV (AU (CU press (BM b)) old),((GV (AU (CU press (BM b)) old)).length:Int),(0:Int),()),(X.tupB b,()))=_:=Aj h ω;unfold Du;rw[KI hb hcode];simp only[H];rw[Lh press (BM b)];simp only[H];rw[QG (CU press (BM b)) old];simp only[H];rw[XK];simp only[H];unfold Rnd.tupB at h';rw[h'];rfl
end
def Aj4(n:Int):GL n=R ((!inR 0 1000000 n,()),()):=by
 unfold GL inR;by_cases g:n<0
 ·rw[c_ g,f_ (ω:¬0≤n)];rfl
 ·rw[f_ g,c_ (ω:0≤n)];by_cases g':1000000<n
  ·rw[c_ g',f_ (ω:¬n≤1000000)];rfl
  ·rw[f_ g',c_ (ω:n≤1000000)];rfl
def Al6(hl:xs.length≤maxLen):Bo xs=R ((!Qa xs,()),()):=by
 have hm:maxLen≤9223372036854775807:=by decide
 have key:∀(k i:Nat),i+k=xs.length→∃y,BJ (λx=>AE x.1.1 x.1.2.2.1 x.1.2.2.2.1) (k+1) ((xs,(),(xs.length:Int),(i:Int),()),())=R y∧(match y with | .inl _=>(xs.drop i).all (inR 0 1000000)=A | .inr z=>0≤z.1.1∧(xs.drop i).all (inR 0 1000000)=C):=by
  intro k;induction k with
  |zero=>
   intro i hi;refine⟨.inl ((),()),AA ?_,?_⟩
   ·show AE xs (xs.length:Int) (i:Int)=_;unfold AE;rw[show decide ((i:Int)<(xs.length:Int))=C by simp;omega];rfl
   ·rw[show i=xs.length by omega,a3_];rfl
  |succ k ih=>
   intro i hi;have hi':i<xs.length:=ω;have hs:AE xs (xs.length:Int) (i:Int)=R (bif inR 0 1000000 (xs.getD i 0)then .inl ((xs,(),(xs.length:Int),((i+1:Nat):Int),()),())else .inr (.inr (((i:Int),()),()))):=by
    unfold AE;have w:aC.wrap ((i:Int)+1)=((i+1:Nat):Int):=by rw[Aa ω ω];omega
    rw[show decide ((i:Int)<(xs.length:Int))=A by simp;omega,Ac ω ω,Aj4,w];simp only[J,i_,H];cases inR 0 1000000 (xs.getD i 0)<;>rfl
   rw[BN (0:Int) hi',a4_];cases hq:inR 0 1000000 (xs.getD i 0)with
   |true=>rw[hq]at hs;obtain⟨y,h1,h2⟩:=ih (i+1) ω;exact⟨y,(Bt hs).trans h1,by rw[q_];exact h2⟩
   |false=>rw[hq]at hs;exact⟨_,AA hs,by show(0:Int)≤(i:Int)∧_;exact⟨ω,rfl⟩⟩
 obtain⟨y,h1,h2⟩:=key xs.length 0 ω;have h1':Bu ((xs,(),(xs.length:Int),(0:Int),()),())=R y:=Aj h1 ω;rw[P_]at h2;unfold Bo CF Qa;rw[h1'];cases y with
 |inl z=>simp only at h2;rw[h2];rfl
 |inr z=>simp only at h2;rw[h2.2];simp only[H];rw[c_ h2.1];rfl
def WN(m:U)(hl:xs.length≤maxLen):HR m.F0 m.K0 m.H0 m.A0 xs=R (((((xs.length:Int)==(m.A0.length:Int))&&Qa xs),()),()):=by
 unfold HR;rw[Al6 hl];cases((xs.length:Int)==(m.A0.length:Int))with
 |false=>rfl
 |true=>simp only[J,H,q_,Bool.not_not]
def Dn{α:Type}(l:List α)(h:l.length≤100000):PX l=R ((l,()),()):=by unfold PX;rw[Ap (ω:l.length≤2147483648)];rfl
def Bhv(n:Nat):Lan:=⟨aA n noP,aA n C,(0,0)⟩
def Dg(b:N)(m:U)(xs:List Int)(vs:List View)(ps:List Calls)(press:Int×Int)(good:Bool):Rnd:=bif good then Ji b (GV (VX b m press)) (wrL (FO b vs m.A0) ⟨[],m,xs,GJ b vs ps,(0,0)⟩)else⟨[],m,xs,Bhv vs.length,(0,0)⟩
noncomputable def ZY(b:N)(m:U)(xs:List Int)(vs:List View)(ps:List Calls)(press:Int×Int)(good:Bool):List S×List Int×Int×Unit:=Oa b (Dg b m xs vs ps press good).img (Dg b m xs vs ps press good).xs vs
noncomputable def Og(b:N)(m:U)(xs:List Int)(vs:List View)(ps:List Calls)(press:Int×Int)(good:Bool):Rnd:={ wrL (ZY b m xs vs ps press good).1 (Dg b m xs vs ps press good)with xs:=(ZY b m xs vs ps press good).2.1 }
def RA(hcode:b.code=0)(vs:List View):∀{l:List B},(∀e∈l,Ao b e.E0 e.J0=A)→∀r∈FO b vs l,As b r=A∧r.Q0=2:=λh r hr=>by
 obtain⟨e,he,hr⟩:=c3_.1 hr;have hc:=h e he;cases hs:Tb b vs e.E0 e.J0 with
 |false=>rw[hs]at hr;cases hr
 |true=>rw[hs]at hr;rw[C_.1 hr];refine⟨?_,rfl⟩;unfold As;rw[hcode];simp only[show((2:Int)==1)=C from rfl,b_,l_,J,hc,S_]
def Apx(hcode:b.code=0)(hm:ImgOK b m)(xs:List Int):∀r∈(Oa b m xs vs).1,As b r=A:=by
 have hcc:=An hcode;unfold Oa;rw[Img.ok_iff.2 hm];cases hq:((xs.length:Int)==(m.A0.length:Int))with
 |false=>exact λr hr=>by cases hr
 |true=>
  cases hv:((vs.length:Int)==(b.B0.length:Int))with
  |false=>exact λr hr=>by cases hr
  |true=>
   cases Qa xs with
   |false=>exact λr hr=>by cases hr
   |true=>
    have h1:(xs.length:Int)=(m.A0.length:Int):=by simpa using hq
    have h2:(vs.length:Int)=(b.B0.length:Int):=by simpa using hv
    exact(Xu (b:=b) ω h2 m.A0 xs [] m ω hm rfl).2.1
section
variable{b:N}(hb:b.small)(hcode:b.code=0){m:U}(hm:ImgOK b m){xs:List Int}(hx:xs.length=m.A0.length){vs:List View}(ps:List Calls)(press:Int×Int)(good:Bool)
include hb hcode hm hx
theorem Aos:(Dg b m xs vs ps press good).ok b∧(Dg b m xs vs ps press good).recs.length≤100:=by
 have he:=CL hb hm;have hX:∀L:Lan,Rnd.ok b ⟨[],m,xs,L,(0,0)⟩:=λL=>⟨hm,hx⟩
 unfold Dg;cases good with
 |false=>exact⟨hX _,a6_ _⟩
 |true=>have hv:=RA hcode vs (l:=m.A0) λe he=>(DL.1 (hm.en e he)).1;refine⟨Ars (Aow (hX _) λr hr=>(hv r hr).1) λe he=>Xb hb hcode he,?_⟩;have h1:=Aje b (GV (VX b m press)) (wrL (FO b vs m.A0) ⟨[],m,xs,GJ b vs ps,(0,0)⟩);have h2:=Ai4 (VX b m press);have h3:=Zo b vs m.A0;have h4:(wrL (FO b vs m.A0) ⟨[],m,xs,GJ b vs ps,(0,0)⟩).recs.length=(FO b vs m.A0).length:=rfl;show(Ji b (GV (VX b m press)) (wrL (FO b vs m.A0) ⟨[],m,xs,GJ b vs ps,(0,0)⟩)).recs.length≤100;omega
theorem TS(hexp:Qa xs=A)(hv:okViews vs)(hvl:vs.length=b.B0.length)(hp:ps.length=b.B0.length):LE b.D0 b.G0 b.I0 b.M0 b.L0 b.N0 b.O0 b.B0 m.F0 m.K0 m.H0 m.A0 xs vs ps press.1 press.2 good=R (((),0,()),((Og b m xs vs ps press good).tup,())):=by
 have hcc:=An hcode;have he:=CL hb hm;have hlp:=hm.lp;have hlf:=hm.lf;have hll:=hm.ll;have hmx:100000≤maxLen:=by decide
 have hX:∀L:Lan,Rnd.ok b ⟨[],m,xs,L,(0,0)⟩:=λL=>⟨hm,hx⟩
 obtain⟨hok,hrl⟩:=Aos hb hcode hm hx (vs:=vs) ps press good;have hlight:=Ab7 hb hcode vs ps ω;unfold Ael at hlight;rw[show((vs.length:Int)==(b.B0.length:Int))=A by rw[hvl];exact l_ _,show((ps.length:Int)==(b.B0.length:Int))=A by rw[hp];exact l_ _]at hlight;simp only[S_,J]at hlight;have hXl:=CL hb hok.img;have hXp:=hok.img.lp;have hXx:=hok.len;have hplan:=Af3 hb hv ω (Dg b m xs vs ps press good).img ω ω (Dg b m xs vs ps press good).xs ω;have hpl:=(Baz b (Dg b m xs vs ps press good).img (Dg b m xs vs ps press good).xs vs).1;have hwr:=Acx hb hcode hok (l:=(Oa b (Dg b m xs vs ps press good).img (Dg b m xs vs ps press good).xs vs).1) ω (Apx hcode hok.img _) ω;unfold LE;rw[hlight];simp only[H,Q_,b_,Lan.tup];rw[Do hb m ω ω,Img.ok_iff.2 hm];simp only[H,m_,b_];rw[WN m ω,show((xs.length:Int)==(m.A0.length:Int))=A by rw[hx];exact l_ _,hexp];unfold Nh BX Bg Br OO;rw[Dn m.F0 ω,Dn m.K0 ω,Dn m.H0 ω,Dn m.A0 ω,Dn xs ω];simp only[H,S_,m_,b_,c_ (ω:(0:Int)≤(vs.length:Int)),c_ (e0_ (vs.length:Int)),c_ (ω:(vs.length:Int)≤2147483648),J,i_];cases good with
 |false=>simp only[b_,H];rw[show Ie b.D0 b.G0 b.I0 b.M0 b.L0 b.N0 b.O0 b.B0 m.F0 m.K0 m.H0 m.A0 xs vs=_ from hplan];simp only[H];rw[show BO (Oa b (Dg b m xs vs ps press C).img (Dg b m xs vs ps press C).xs vs).1 [] m.F0 m.K0 m.H0 m.A0 xs (aA vs.length (Calls.mk 0 0)) (aA vs.length C) 0 0 0 0 b.D0 b.G0 b.I0 b.M0 b.L0 b.N0 b.O0 b.B0=_ from hwr];rfl
 |true=>have hsv:=RA hcode vs (l:=m.A0) λe he=>(DL.1 (hm.en e he)).1;have hsl:=Zo b vs m.A0;have hw1:=Acx hb hcode (hX (GJ b vs ps)) (l:=FO b vs m.A0) ω (λr hr=>(hsv r hr).1) (a6_ _);have hrg:=Ap9 hb hcode press (ofC m.A0 (0,0)) (X:=wrL (FO b vs m.A0) ⟨[],m,xs,GJ b vs ps,(0,0)⟩) (Aow (hX _) λr hr=>(hsv r hr).1) (by show([]++FO b vs m.A0).length≤_;rw[W_];omega);unfold GM;simp only[J];rw[Ab8 hb hcode hm ω vs ω];simp only[H];simp only at hw1;rw[hw1];simp only[H,Aat (ω:m.A0.length≤100000),Rnd.tupB];rw[hrg];simp only[H,Rnd.tupB];rw[show Ie b.D0 b.G0 b.I0 b.M0 b.L0 b.N0 b.O0 b.B0 (Ji b (GV (AU (CU press (BM b)) (ofC m.A0 (0,0)))) (wrL (FO b vs m.A0) ⟨[],m,xs,GJ b vs ps,(0,0)⟩)).img.F0 (Ji b (GV (AU (CU press (BM b)) (ofC m.A0 (0,0)))) (wrL (FO b vs m.A0) ⟨[],m,xs,GJ b vs ps,(0,0)⟩)).img.K0 (Ji b (GV (AU (CU press (BM b)) (ofC m.A0 (0,0)))) (wrL (FO b vs m.A0) ⟨[],m,xs,GJ b vs ps,(0,0)⟩)).img.H0 (Ji b (GV (AU (CU press (BM b)) (ofC m.A0 (0,0)))) (wrL (FO b vs m.A0) ⟨[],m,xs,GJ b vs ps,(0,0)⟩)).img.A0 (Ji b (GV (AU (CU press (BM b)) (ofC m.A0 (0,0)))) (wrL (FO b vs m.A0) ⟨[],m,xs,GJ b vs ps,(0,0)⟩)).xs vs=_ from hplan];simp only[H];refine Eq.trans (f2_ (λo=>Option.bind o _) (show _=R ((),((wrL (Oa b (Dg b m xs vs ps press A).img (Dg b m xs vs ps press A).xs vs).1 (Dg b m xs vs ps press A)).tupB b,()))from hwr)) ?_;rfl
end
structure Pk where
 m:Mch
 budget:Int
 e:Int
 legacy:List Bool
 shows:List Calls
 reset:List Bool
 out:Outputs
def Pk.ap{α:Type}(f:Int→Int→Int→Int→Nat→Nat→Nat→List Car→List Int→List Bool→List Bool→List B→ByteArray→ByteArray→Int→List Debounced→List Belief→List NewCar→List Loaded→List Int→List Calls→Int→Int→Int→Int→Int→Int→Int→List CarInput→Bool→Int→Int→List Bool→List Calls→List Bool→Int→Int→Int→Int→Bool→Bool→Int→List CarOutput→α)(b:N)(x:Inp)(g:Bool)(t:Pk):α:=f b.D0 b.G0 b.I0 b.M0 b.L0 b.N0 b.O0 b.B0 t.m.C0.F0 t.m.C0.K0 t.m.C0.H0 t.m.C0.A0 t.m.U0.h0 t.m.U0.h1 t.m.U0.sel t.m.R1 t.m.X0 t.m.B0 t.m.M2 t.m.X1 t.m.I3 t.m.U3 t.m.Q2 t.m.G2 x.press.1 x.press.2 x.kind x.car x.cars g t.budget t.e t.legacy t.shows t.reset t.out.U5 t.out.T5 t.out.F3 t.out.X2 t.out.W5 t.out.N0 t.out.V5 t.out.B0
def Pk.tup(b:N)(x:Inp)(g:Bool)(t:Pk):=(b.D0,b.G0,b.I0,b.M0,b.L0,b.N0,b.O0,b.B0,t.m.C0.F0,t.m.C0.K0,t.m.C0.H0,t.m.C0.A0,t.m.U0.h0,t.m.U0.h1,t.m.U0.sel,t.m.R1,t.m.X0,t.m.B0,t.m.M2,t.m.X1,t.m.I3,t.m.U3,t.m.Q2,t.m.G2,x.press.1,x.press.2,x.kind,x.car,x.cars,g,t.budget,t.e,t.legacy,t.shows,t.reset,t.out.U5,t.out.T5,t.out.F3,t.out.X2,t.out.W5,t.out.N0,t.out.V5,t.out.B0,())
def Pk.wr(t:Pk)(im:U)(s:Sto)(bu e:Int):Pk:={ t with m:={ t.m with C0:=im,U0:=s },budget:=bu,e:=e }
def goodL(b:N):U→List S→Prop
 |_,[]=>True
 |m,r::l=>As b r=A∧IV b m r=C∧goodL b (Ak m r) l
def goodL.app:∀{l:List S}{m:U}{k:List S},goodL b m l→goodL b (Ag m l) k→goodL b m (l++k)
 |[],_,_,_,h=>h
 |_::_,_,_,⟨h1,h2,h3⟩,h=>⟨h1,h2,h3.app h⟩
def Xe{b:N}:∀{l:List S}(m:U),(∀r∈l,As b r=A∧r.Q0≠1)→goodL b m l
 |[],_,_=>trivial
 |r::l,m,h=>by have h1:=h r (s_ ..);refine⟨h1.1,?_,Xe _ λx hx=>h x (u_ _ hx)⟩;unfold IV;rw[Am h1.2];rfl
def goodL.valid:∀{l:List S}{m:U},goodL b m l→∀r∈l,As b r=A
 |[],_,_,_,h=>by cases h
 |_::_,_,⟨h1,_,h3⟩,r,h=>by
  rcases t_.1 h with rfl | h
  ·exact h1
  ·exact h3.valid r h
def goodL.drop:∀{l:List S}{m:U},goodL b m l→∀i,i<l.length→As b (l.getD i ⟨0,0,0,0,0⟩)=A∧IV b (Ag m (l.take i)) (l.getD i ⟨0,0,0,0,0⟩)=C
 |[],_,_,_,h=>absurd h (Nat.not_lt_zero _)
 |_::_,_,⟨h1,h2,_⟩,0,_=>⟨h1,h2⟩
 |_::_,_,⟨_,_,h3⟩,i+1,h=>h3.drop i (by rw[E_]at h;omega)
def Ao1(h:i<l.length):Ag m (l.take (i+1))=Ak (Ag m (l.take i)) (l.getD i ⟨0,0,0,0,0⟩):=by rw[List.take_succ,Bp,j_ h,k_,j_ h];rfl
def Aup(b:N)(s:Sto)(m:U)(r:S):Sto:=if(s.cur.size:Int)+6≤b.I0 then s.set s.sel (s.get s.sel++txt (Cy r))else { s.set (1-s.sel) (txt ((Db (Ak m r)).flatMap Cy))with sel:=1-s.sel }
def Asi(hj:Jst b s m)(hv:As b r=A)(hfull:IV b m r=C){bud:Int}(hb0:0≤bud)(hn:Rw b s m r≤bud):(QB b s m r bud).1=Aup b s m r:=by
 have hm2:=(Kl hj.img hv).1;have hfit:=Yw hj hv hfull;have hsel:=Vj hj.ok;unfold QB;rw[Img.ok_iff.2 hj.img,hv,c_ hj.ok,f_ (ω:¬bud<0),hfull];simp only[S_,m_,b_];unfold Rw at hn;unfold Fv Aup;by_cases g:(s.cur.size:Int)+6≤b.I0
 ·rw[if_pos g]at hn;rw[if_pos g,c_ (ω:(6:Int)≤b.I0-(s.cur.size:Int)),J];have hw:=Acw (t:=Cy r) hj.ok hsel hb0 (by rw[← Agf hsel,Gp];omega);rw[Gp,if_neg (ω:¬bud<((6:Nat):Int))]at hw;rw[hw];rfl
 ·rw[if_neg g]at hn;rw[if_neg g,f_ (ω:¬(6:Int)≤b.I0-(s.cur.size:Int)),b_];rcases WI hj.ok hm2 hb0 ω with⟨_,q2⟩ | ⟨q1,_⟩
  ·rw[q2];rfl
  ·omega
def Aoo(b:N):Sto→U→List S→Sto
 |s,_,[]=>s
 |s,m,r::l=>Aoo b (Aup b s m r) (Ak m r) l
def Aop(b:N):∀(l:List S) (k:List S) (s:Sto) (m:U),Aoo b s m (l++k)=Aoo b (Aoo b s m l) (Ag m l) k
 |[],_,_,_=>rfl
 |_::l,k,_,_=>Aop b l k _ _
def Wr(b:N)(t:Pk)(l:List S)(t':Pk):Prop:=∃im s bu e,t'=t.wr im s bu e∧((e=0∧im=Ag t.m.C0 l∧Jst b s im∧t.budget-b.I0*(l.length:Int)≤bu∧0≤bu∧bu≤t.budget∧s=Aoo b t.m.U0 t.m.C0 l)∨(e=8∧t.budget<b.I0*(l.length:Int)∧s.ok b.I0∧∃k,k<l.length∧Cf b s=Ag t.m.C0 (l.take k)))
section
variable{b:N}(hb:b.small){x:Inp}{g:Bool}
include hb
theorem Bjh(hj:Jst b s m)(hv:As b r=A)(hf:IV b m r=C):6≤Rw b s m r∧Rw b s m r≤b.I0:=by have h1:=Yw hj hv hf;have h2:=hj.fits;have h3:=An hj.img.code;unfold Rw;split<;>omega
theorem Tq{t:Pk}(hj:Jst b t.m.U0 t.m.C0)(h0:0≤t.budget∧t.budget<9223372036854775808)(he:t.e=0)(hl:goodL b t.m.C0 l)(hn:l.length≤100000):Sat (t.ap (AI l) b x g) λy=>∃t',(y=.inl ((),(t'.tup b x g,()))∨y=.inr ((),(t'.tup b x g,())))∧Wr b t l t':=by
 have hcc:=An hj.img.code;have hroom:0≤b.I0:=by have:=hj.fits;omega
 unfold Pk.ap AI;refine Sat.bindS (Q:=λy=>∃t',(y=.inl ((),(t'.tup b x g,()))∨y=.inr ((),(t'.tup b x g,())))∧Wr b t l t') ?_ λy hy=>?_
 ·unfold DE;refine Sat.loop (λ(k:Nat) z=>∃(i:Nat) (t':Pk),z=(((),l,(l.length:Int),(i:Int),()),(t'.tup b x g,()))∧i+k=l.length∧Wr b t (l.take i) t') (λk z hz=>?_) l.length ⟨0,t,rfl,p_ _,t.m.C0,t.m.U0,t.budget,t.e,rfl,.inl ⟨he,rfl,hj,σ,h0.1,e0_ _,rfl⟩⟩ ω;obtain⟨i,t',rfl,hk,im,s,bu,e,rfl,hw⟩:=hz;show Sat (Pk.ap (EY l (l.length:Int) (i:Int)) b x g (t.wr im s bu e)) _;unfold Pk.ap EY;refine Sat.bic (λq=>?_) λq=>Sat.ret ⟨t.wr im s bu e,.inl rfl,im,s,bu,e,rfl,?_⟩
  ·have q:(i:Int)<(l.length:Int):=n_ q;have hi:i<l.length:=ω;have hlt:(l.take i).length=i:=by rw[w_];omega
   have hlt1:(l.take (i+1)).length=i+1:=by rw[w_];omega
   have hm:b.I0*((i+1:Nat):Int)≤b.I0*(l.length:Int):=Int.mul_le_mul_of_nonneg_left ω hroom;have hm2:b.I0*((i+1:Nat):Int)=b.I0*(i:Int)+b.I0:=by rw[Int.natCast_add,Int.mul_add];simp
   refine Sat.bifT (Ac ω q) ?_;rcases hw with⟨he,him,hj',hb1,hb2,hb3,hst⟩ | ⟨he,hb1,hs,k',hk',hr⟩
   ·subst he him;obtain⟨hv,hf⟩:=hl.drop i hi;have hent:=CL hb hj'.img;have hp:=hj'.img.lp;refine Sat.bifF (show((0:Int) !=0)=C from rfl) (Sat.bindE (Aj5 hb ω s (m:=Ag t.m.C0 (l.take i)) ω ω (l.getD i ⟨0,0,0,0,0⟩) (bud:=bu) ω) ?_);have w:=DF (n:=i) ω;have hnd:=Bjh hb hj' hv hf;rcases Ay1 hb hj' hv hf hb2 with⟨c1,s',c2,c3⟩ | ⟨c1,s',c2,c3,c4⟩
    ·have hsto:=Asi hj' hv hf hb2 c1;rw[c2]at hsto;rw[c2];refine Sat.ret ⟨k-1,ω,i+1,t.wr (Ak (Ag t.m.C0 (l.take i)) (l.getD i ⟨0,0,0,0,0⟩)) s' (bu-Rw b s (Ag t.m.C0 (l.take i)) (l.getD i ⟨0,0,0,0,0⟩)) 0,by first | (rw[← w];rfl) | rw[← w],ω,_,s',_,0,rfl,.inl ⟨rfl,(Ao1 hi).symm,c3,?_,ω,ω,?_⟩⟩
     ·rw[hlt1];rw[hlt]at hb1;omega
     ·rw[List.take_succ,Aop,← hst,j_ hi];rw[k_,j_ hi]at hsto;exact hsto
    ·rw[c2];refine Sat.ret ⟨k-1,ω,i+1,t.wr (Ag t.m.C0 (l.take i)) s' 0 8,by first | (rw[← w];rfl) | rw[← w],ω,_,s',0,8,rfl,.inr ⟨rfl,?_,c3,i,ω,?_⟩⟩
     ·rw[hlt1];rw[hlt]at hb1;omega
     ·rw[c4,List.take_take,d0_ ω]
   ·subst he;refine Sat.bifT (show((8:Int) !=0)=A from rfl) (Sat.ret ⟨t.wr im s bu 8,.inr rfl,im,s,bu,8,rfl,.inr ⟨rfl,?_,hs,k',ω,?_⟩⟩)
    ·rw[hlt]at hb1;omega
    ·rw[hr,List.take_take,d0_ ω]
  ·have q:¬(i:Int)<(l.length:Int):=H_ q;rw[a5_ ω]at hw;exact hw
 ·obtain⟨t',h1 | h1,h2⟩:=hy
  ·subst h1;exact Sat.ret ⟨t',.inr rfl,h2⟩
  ·subst h1;exact Sat.ret ⟨t',.inl rfl,h2⟩
end
end Go.Ovl
namespace Go.Ovl
open Go Go.Ab
variable{L:List Int}{i:Nat}{n:Int}
structure Contacts where
 D0:Int
 Up:Bool
 Q3:Bool
 R5:Bool
 Y3:Bool
def Contacts.get(c:Contacts)(i:Int):Bool:=if i=32 then c.Up else if i=33 then c.Q3 else if i=34 then c.R5 else if i=35 then c.Y3 else decide (0≤i∧i<32)&&Dl c.D0 i.toNat
def Contacts.set(c:Contacts)(i:Int)(on:Bool):Contacts:=
 if i=32 then { c with Up:=on }else if i=33 then { c with Q3:=on }else if i=34 then { c with R5:=on }else if i=35 then { c with Y3:=on }
 else if 0≤i∧i<32 then { c with D0:=XB c.D0 i.toNat on }else c
def Contacts.wf(c:Contacts):Prop:=0≤c.D0∧c.D0<4294967296
def Contacts.tup(c:Contacts):Int×Bool×Bool×Bool×Bool×Unit:=(c.D0,c.Up,c.Q3,c.R5,c.Y3,())
def Contacts.set_wf{c:Contacts}(h:c.wf)(i:Int)(on:Bool):(c.set i on).wf:=by
 unfold Contacts.set
 repeat(split;exact h)
 split
 ·exact Au6 _ _ _
 ·exact h
def Aun{i:Int}(h:0≤i)(h2:i<32):i.toNat<32:=ω
def Tt(c:Contacts)(hc:c.wf)(i:Int):KX c.D0 c.Up c.Q3 c.R5 c.Y3 i=R ((c.get i,()),()):=by
 unfold KX Contacts.get;by_cases h32:i=32
 ·simp[h32]
 by_cases h33:i=33
 ·simp[h33]
 by_cases h34:i=34
 ·simp[h34]
 by_cases h35:i=35
 ·simp[h35]
 simp only[h32,h33,h34,h35,e3_,Am h32,Am h33,Am h34,Am h35,b_];by_cases h0:0≤i
 ·by_cases h1:i<32
  ·simp only[Kh];rw[Bcm hc (Aun h0 h1)];simp[h0,h1]
  ·simp[h0,h1]
 ·simp[h0]
def Aa8(c:Contacts)(i:Int)(on:Bool):Nz c.D0 c.Up c.Q3 c.R5 c.Y3 i on=R (((),()),((c.set i on).tup,())):=by
 unfold Nz Contacts.set;by_cases h32:i=32
 ·simp[h32,Contacts.tup]
 by_cases h33:i=33
 ·simp[h33,Contacts.tup]
 by_cases h34:i=34
 ·simp[h34,Contacts.tup]
 by_cases h35:i=35
 ·simp[h35,Contacts.tup]
 simp only[h32,h33,h34,h35,e3_,Am h32,Am h33,Am h34,Am h35,b_];by_cases h0:0≤i
 ·have e0:decide (0≤i)=A:=by simpa using h0
  by_cases h1:i<32
  ·have e1:decide (i<32)=A:=by simpa using h1
   simp only[e0,e1,J,H,Kh];rw[Ayz _ (Aun h0 h1),Brs _ (Aun h0 h1),Bbf,if_pos ⟨h0,h1⟩];cases on<;>rfl
  ·have e1:decide (i<32)=C:=by simpa using h1
   simp only[e0,e1,J,b_,H];rw[if_neg ω];rfl
 ·have e0:decide (0≤i)=C:=by simpa using h0
  simp only[e0,b_,H];rw[if_neg ω];rfl
structure Deb where
 c:Contacts
 k:List Int
def Deb.no:Deb:=⟨⟨0,C,C,C,C⟩,aA 36 0⟩
def Deb.tup(s:Deb):Int×Bool×Bool×Bool×Bool×Int×Int×Int×Int×Int×Int×Int×Int×Int×Int×Int×Int×Int×Int×Int×Int×Int×Int×Int×Int×Int×Int×Int×Int×Int×Int×Int×Int×Int×Int×Int×Int×Int×Int×Int×Int×Unit:=(s.c.D0,s.c.Up,s.c.Q3,s.c.R5,s.c.Y3,s.k.getD 0 0,s.k.getD 1 0,s.k.getD 2 0,s.k.getD 3 0,s.k.getD 4 0,s.k.getD 5 0,s.k.getD 6 0,s.k.getD 7 0,s.k.getD 8 0,s.k.getD 9 0,s.k.getD 10 0,s.k.getD 11 0,s.k.getD 12 0,s.k.getD 13 0,s.k.getD 14 0,s.k.getD 15 0,s.k.getD 16 0,s.k.getD 17 0,s.k.getD 18 0,s.k.getD 19 0,s.k.getD 20 0,s.k.getD 21 0,s.k.getD 22 0,s.k.getD 23 0,s.k.getD 24 0,s.k.getD 25 0,s.k.getD 26 0,s.k.getD 27 0,s.k.getD 28 0,s.k.getD 29 0,s.k.getD 30 0,s.k.getD 31 0,s.k.getD 32 0,s.k.getD 33 0,s.k.getD 34 0,s.k.getD 35 0,())
def Deb.cnt(s:Deb):Int×Int×Int×Int×Int×Int×Int×Int×Int×Int×Int×Int×Int×Int×Int×Int×Int×Int×Int×Int×Int×Int×Int×Int×Int×Int×Int×Int×Int×Int×Int×Int×Int×Int×Int×Int×Unit:=(s.k.getD 0 0,s.k.getD 1 0,s.k.getD 2 0,s.k.getD 3 0,s.k.getD 4 0,s.k.getD 5 0,s.k.getD 6 0,s.k.getD 7 0,s.k.getD 8 0,s.k.getD 9 0,s.k.getD 10 0,s.k.getD 11 0,s.k.getD 12 0,s.k.getD 13 0,s.k.getD 14 0,s.k.getD 15 0,s.k.getD 16 0,s.k.getD 17 0,s.k.getD 18 0,s.k.getD 19 0,s.k.getD 20 0,s.k.getD 21 0,s.k.getD 22 0,s.k.getD 23 0,s.k.getD 24 0,s.k.getD 25 0,s.k.getD 26 0,s.k.getD 27 0,s.k.getD 28 0,s.k.getD 29 0,s.k.getD 30 0,s.k.getD 31 0,s.k.getD 32 0,s.k.getD 33 0,s.k.getD 34 0,s.k.getD 35 0,())
def Deb.at(n:Int)(r:Contacts)(i:Nat)(s:Deb):Deb:=if r.get i=s.c.get i then⟨s.c,s.k.set i 0⟩else if s.k.getD i 0+1=n then⟨s.c.set i (r.get i),s.k.set i 0⟩else⟨s.c,s.k.set i (s.k.getD i 0+1)⟩
def Deb.step(n:Int)(s:Deb)(r:Contacts):Deb:=BL (Deb.at n r) 36 0 s
structure Deb.wf(s:Deb):Prop where
 c:s.c.wf
 len:s.k.length=36
 lo:∀j,j<36→0≤s.k.getD j 0
 hi:∀j,j<36→s.k.getD j 0<1000
def Deb.is(n:Int)(s:Deb):Prop:=1≤n∧n≤16∧∀j,j<36→0≤s.k.getD j 0∧s.k.getD j 0<n
def VZ(h:L.length=36):[L.getD 0 0,L.getD 1 0,L.getD 2 0,L.getD 3 0,L.getD 4 0,L.getD 5 0,L.getD 6 0,L.getD 7 0,L.getD 8 0,L.getD 9 0,L.getD 10 0,L.getD 11 0,L.getD 12 0,L.getD 13 0,L.getD 14 0,L.getD 15 0,L.getD 16 0,L.getD 17 0,L.getD 18 0,L.getD 19 0,L.getD 20 0,L.getD 21 0,L.getD 22 0,L.getD 23 0,L.getD 24 0,L.getD 25 0,L.getD 26 0,L.getD 27 0,L.getD 28 0,L.getD 29 0,L.getD 30 0,L.getD 31 0,L.getD 32 0,L.getD 33 0,L.getD 34 0,L.getD 35 0]=L:=by
 have e:[L.getD 0 0,L.getD 1 0,L.getD 2 0,L.getD 3 0,L.getD 4 0,L.getD 5 0,L.getD 6 0,L.getD 7 0,L.getD 8 0,L.getD 9 0,L.getD 10 0,L.getD 11 0,L.getD 12 0,L.getD 13 0,L.getD 14 0,L.getD 15 0,L.getD 16 0,L.getD 17 0,L.getD 18 0,L.getD 19 0,L.getD 20 0,L.getD 21 0,L.getD 22 0,L.getD 23 0,L.getD 24 0,L.getD 25 0,L.getD 26 0,L.getD 27 0,L.getD 28 0,L.getD 29 0,L.getD 30 0,L.getD 31 0,L.getD 32 0,L.getD 33 0,L.getD 34 0,L.getD 35 0]=(List.range 36).map (λq=>L.getD q 0):=rfl;rw[e];apply List.ext_getElem
 ·simp[h]
 ·intro j h1 h2;simp[h2]
def Aby(h:i<L.length)(q:Nat)(v:Int):(bif Nat.beq i q then v else L.getD q 0)=(L.set i v).getD q 0:=by
 rw[Ce];by_cases e:i=q
 ·subst e;simp[h]
 ·simp[e]
def Asl{s:Deb}(h:s.wf)(hs:s.is n){r:Contacts}(hi:i<36):(s.at n r i).wf∧(s.at n r i).is n:=by
 have hset:∀(v:Int) (j:Nat),(s.k.set i v).getD j 0=if j=i then v else s.k.getD j 0:=by
  intro v j;rw[← Aby (by rw[h.len];exact hi),Ce];by_cases e:i=j
  ·simp[e]
  ·simp[e,f0_ e]
 have hn:=hs.1;have hn2:=hs.2.1;have key:∀v:Int,0≤v→v<n→∀j,j<36→0≤(s.k.set i v).getD j 0∧(s.k.set i v).getD j 0<n:=by
  intro v h1 h2 j hj;rw[hset];by_cases e:j=i
  ·rw[if_pos e];exact⟨h1,h2⟩
  ·rw[if_neg e];exact hs.2.2 j hj
 have fin:∀(c:Contacts) (v:Int),c.wf→0≤v→v<n→Deb.wf ⟨c,s.k.set i v⟩∧Deb.is n ⟨c,s.k.set i v⟩:=by intro c v hc h1 h2;have hk:=key v h1 h2;exact⟨⟨hc,by simp[h.len],λj hj=>(hk j hj).1,λj hj=>by have:=(hk j hj).2;simp only at this⊢;omega⟩,hn,hn2,hk⟩
 have hki:=hs.2.2 i hi;unfold Deb.at;split
 ·exact fin _ _ h.c ω ω
 ·split
  ·exact fin _ _ (Contacts.set_wf h.c _ _) ω ω
  ·exact fin _ _ h.c ω ω
def Ain{n:Int}{r:Contacts}:∀(m i:Nat) (s:Deb),i+m≤36→s.wf→s.is n→(BL (Deb.at n r) m i s).wf∧(BL (Deb.at n r) m i s).is n
 |0,_,_,_,h,hs=>⟨h,hs⟩
 |m+1,i,s,hi,h,hs=>Ain m (i+1) (s.at n r i) ω (Asl h hs ω).1 (Asl h hs ω).2
def Bjr{s:Deb}(h:s.wf)(hs:s.is n)(r:Contacts):(s.step n r).wf∧(s.step n r).is n:=Ain 36 0 s ω h hs
def Aj0{s:Deb}(h:s.wf)(hs:s.is n){r:Contacts}(hr:r.wf)(b:Deb)(hi:i<36):
  HL n (i:Int) s.c.D0 s.c.Up s.c.Q3 s.c.R5 s.c.Y3 (s.k.getD 0 0) (s.k.getD 1 0) (s.k.getD 2 0) (s.k.getD 3 0) (s.k.getD 4 0) (s.k.getD 5 0) (s.k.getD 6 0) (s.k.getD 7 0) (s.k.getD 8 0) (s.k.getD 9 0) (s.k.getD 10 0) (s.k.getD 11 0) (s.k.getD 12 0) (s.k.getD 13 0) (s.k.getD 14 0) (s.k.getD 15 0) (s.k.getD 16 0) (s.k.getD 17 0) (s.k.getD 18 0) (s.k.getD 19 0) (s.k.getD 20 0) (s.k.getD 21 0) (s.k.getD 22 0) (s.k.getD 23 0) (s.k.getD 24 0) (s.k.getD 25 0) (s.k.getD 26 0) (s.k.getD 27 0) (s.k.getD 28 0) (s.k.getD 29 0) (s.k.getD 30 0) (s.k.getD 31 0) (s.k.getD 32 0) (s.k.getD 33 0) (s.k.getD 34 0) (s.k.getD 35 0) r.D0 r.Up r.Q3 r.R5 r.Y3 b.c.D0 b.c.Up b.c.Q3 b.c.R5 b.c.Y3 (b.k.getD 0 0) (b.k.getD 1 0) (b.k.getD 2 0) (b.k.getD 3 0) (b.k.getD 4 0) (b.k.getD 5 0) (b.k.getD 6 0) (b.k.getD 7 0) (b.k.getD 8 0) (b.k.getD 9 0) (b.k.getD 10 0) (b.k.getD 11 0) (b.k.getD 12 0) (b.k.getD 13 0) (b.k.getD 14 0) (b.k.getD 15 0) (b.k.getD 16 0) (b.k.getD 17 0) (b.k.getD 18 0) (b.k.getD 19 0) (b.k.getD 20 0) (b.k.getD 21 0) (b.k.getD 22 0) (b.k.getD 23 0) (b.k.getD 24 0) (b.k.getD 25 0) (b.k.getD 26 0) (b.k.getD 27 0) (b.k.getD 28 0) (b.k.getD 29 0) (b.k.getD 30 0) (b.k.getD 31 0) (b.k.getD 32 0) (b.k.getD 33 0) (b.k.getD 34 0) (b.k.getD 35 0)=
   R (.inl ((n,(),(),(),((i+1:Nat):Int),()),((s.at n r i).tup,r.tup,b.tup,()))):=by
 unfold HL;have e0:decide ((i:Int)<36)=A:=by simp;omega
 have ib:inB (i:Int) 36=A:=Ac ω ω;have tn:Int.toNat (i:Int)=i:=ω;have w:aC.wrap ((i:Int)+1)=((i+1:Nat):Int):=by rw[Aa ω ω];omega
 have hki:=h.lo i hi;have hki':=h.hi i hi;have wk:aC.wrap (s.k.getD i 0+1)=s.k.getD i 0+1:=Aa ω ω;have hl:i<s.k.length:=by rw[h.len];exact hi
 have hl2:∀v:Int,i<(s.k.set i v).length:=λv=>by simp;exact hl
 have hgi:∀v:Int,(s.k.set i v).getD i 0=v:=λv=>by simp[hl]
 rw[e0,J,Tt r hr (i:Int),Tt s.c h.c (i:Int)];simp only[H,ib,J,tn,Aby hl,w,VZ h.len,wk];unfold Deb.at;by_cases hq:r.get i=s.c.get i
 ·simp only[hq,l_,J,g6_];rfl
 ·simp only[Am hq,b_,hq,e3_];have l36:∀v:Int,(s.k.set i v).length=36:=λv=>by simp[h.len]
  try simp only[VZ (l36 _),hgi,Aby (hl2 _),h1_]
  by_cases hn:s.k.getD i 0+1=n
  ·have:(s.k.getD i 0+1==n)=A:=by simpa using hn
   simp only[this,J,g6_,hn,l_];rw[Aa8 s.c (i:Int) (r.get i)];rfl
  ·simp only[Am hn,b_,hn,e3_];rfl
end Go.Ovl
