/- Layer 24: a round of the dispatcher by the program: places, writing, registering. -/
import Derived.Test.YtgmkjajpbaghgaaGreatDoorOvI
import Derived.Test.YtgmkjajpbaghgaaGreatDoorOvD
import Derived.Test.YtgmkjajpbaghgaaGreatDoorOvB
import Derived.Test.YtgmkjajpbaghgaaGreatDoorOvH
import Derived.Test.YtgmkjajpbaghgaaGreatDoorOvF
import Derived.Test.YtgmkjajpbaghgaaGreatDoorOvG
import Derived.Test.YtgmkjajpbaghgaaGreatDoorOvC
import Derived.Test.YtgmkjajpbaghgaaGreatDoorDefs4
import Derived.Test.YtgmkjajpbaghgaaGreatDoorOvA
set_option linter.all false
open Bool renaming true->A,false->H
open Go.Ovl renaming Entry->B,At->I,noE->N,Bldg->R,Record->S,Img->U
open Go renaming a_->C,d_->J
open Option renaming some->O
open List renaming replicate->aA
open Go.Ovl.Record renaming mk->aB
open Go.IntKind renaming i64->aC
namespace Go.Ovl
open Go Go.Ab
set_option maxRecDepth 100000
variable{b:R}{e:B}{l:List S}{xs:List Int}{m:U}{vs:List View}{r:S}{k i:Nat}
def Asc(e:B)(F D:Int):Iq e.D0 e.I0 e.Q0 e.B1 e.Y1 F D=O ((!Bj e (I F D),()),((F,()),(D,()),())):=by
 unfold Iq Bj I;by_cases h1:F<e.D0
 ·rw[b_ h1,f_ (ω:¬e.D0<F),Aq (ω:¬e.D0=F)];rfl
 ·rw[f_ h1]
  by_cases h2:e.D0=F
  ·rw[h2,f_ (N_ F),l_]
   by_cases h3:e.I0<D
   ·rw[b_ h3,f_ (ω:¬D≤e.I0)];rfl
   ·rw[f_ h3,b_ (ω:D≤e.I0)];rfl
  ·rw[Aq h2,b_ (ω:e.D0<F)];rfl
def Acp(E:List B)(hl:E.length≤100000)(F D:Int):∀(k i:Nat),i+k=E.length→BN (λx=>As x.1.1 x.1.2.2.1 x.1.2.2.2.1 x.2.1.1 x.2.2.1.1) (k+1) ((E,(),(E.length:Int),(i:Int),()),((F,()),(D,()),()))=O (bif Nat.blt (i+AA (I F D) (E.drop i)) E.length then .inr ((((i+AA (I F D) (E.drop i):Nat):Int),()),((F,()),(D,()),()))else .inl ((),((F,()),(D,()),())))
 |0,i,hi=>by
  obtain rfl:i=E.length:=ω
  refine Ay ?_;show As E (E.length:Int) (E.length:Int) F D=_;unfold As;rw[f_ (N_ (E.length:Int)),a8_]
  have:Nat.blt (E.length+AA (I F D) []) E.length=H:=by
   cases h:Nat.blt (E.length+AA (I F D) []) E.length with
   |false=>rfl
   |true=>have:=Eq.mp g4_ h;omega
  rw[this];rfl
 |k+1,i,hi=>by
  have hi':i<E.length:=ω
  have hs:As E (E.length:Int) (i:Int) F D=O (bif Bj (E.getD i N) (I F D)then .inl ((E,(),(E.length:Int),((i+1:Nat):Int),()),((F,()),(D,()),()))else .inr (.inr (((i:Int),()),((F,()),(D,()),())))):=by
   unfold As;rw[show Entry.mk 0 0 0 0 H=N from rfl]
   simp only[b_ (ω:(i:Int)<(E.length:Int)),Aa (ω:(0:Int)≤(i:Int)) (ω:(i:Int)<(E.length:Int)),J,j_,Asc,C,Dz hi' (show E.length≤AI by unfold AI;omega)]
   cases Bj (E.getD i N) (I F D)<;>rfl
  have hd:=Cb N hi';rw[hd];simp only[AA];cases hq:Bj (E.getD i N) (I F D)with
  |true=>
   rw[hq]at hs;refine(Bs hs).trans ?_;rw[Acp E hl F D k (i+1) ω,J,show i+1+AA (I F D) (E.drop (i+1))=i+(AA (I F D) (E.drop (i+1))+1)by omega]
  |false=>
   rw[hq]at hs;refine(Ay hs).trans ?_;rw[c_,c0_,show Nat.blt i E.length=A from Eq.mpr g4_ hi'];rfl
def YI(m:U)(hl:m.A0.length≤100000)(F D:Int):JS m.F0 m.O0 m.K0 m.A0 F D=O ((((AA (I F D) m.A0:Nat):Int),FG (I F D) m.A0,()),()):=by
 have h:=Acp m.A0 hl F D m.A0.length 0 ω
 have h':=Ai h ω
 rw[R_,q_]at h';have hle:=Sb (I F D) m.A0;unfold JS Bz FG;rw[show AP ((m.A0,(),(m.A0.length:Int),(0:Int),()),((F,()),(D,()),()))=_ from h']
 cases hq:Nat.blt (AA (I F D) m.A0) m.A0.length with
 |false=>
  have hge:m.A0.length≤AA (I F D) m.A0:=by
   rcases f6_ (AA (I F D) m.A0) m.A0.length with g | g
   ·rw[Eq.mpr g4_ g]at hq;cases hq
   ·exact g
  rw[show AA (I F D) m.A0=m.A0.length by omega]
  rfl
 |true=>
  have hlt:AA (I F D) m.A0<m.A0.length:=Eq.mp g4_ hq;simp only[J,C];rw[f_ (ω:¬((AA (I F D) m.A0:Nat):Int)<0)]
  simp only[c_,Aa (ω:(0:Int)≤((AA (I F D) m.A0:Nat):Int)) (ω:((AA (I F D) m.A0:Nat):Int)<(m.A0.length:Int)),J,j_]
  rw[show Entry.mk 0 0 0 0 H=N from rfl]
  unfold isC;show Option.bind (bif(m.A0.getD (AA (I F D) m.A0) N).D0==F then _ else _) _=O ((_,A&&((m.A0.getD (AA (I F D) m.A0) N).D0==F&&(m.A0.getD (AA (I F D) m.A0) N).I0==D),()),());cases(m.A0.getD (AA (I F D) m.A0) N).D0==F<;>rfl
structure Rnd where
 recs:List Record
 img:Img
 xs:List Int
 lan:Lan
 ref:Int×Int
def Rnd.tup(r:Rnd):List S×List Int×List Bool×List Bool×List B×List Int×List Calls×List Bool×Int×Int×Int×Int×Unit:=(r.recs,r.img.F0,r.img.O0,r.img.K0,r.img.A0,r.xs,r.lan.lit,r.lan.gong,r.lan.cl.1,r.lan.cl.2,r.ref.1,r.ref.2,())
def Rnd.tupB(b:R)(r:Rnd):List S×List Int×List Bool×List Bool×List B×List Int×List Calls×List Bool×Int×Int×Int×Int×Int×Int×Int×Int×Nat×Nat×Nat×List Car×Unit:=(r.recs,r.img.F0,r.img.O0,r.img.K0,r.img.A0,r.xs,r.lan.lit,r.lan.gong,r.lan.cl.1,r.lan.cl.2,r.ref.1,r.ref.2,b.C0,b.E0,b.H0,b.M0,b.J0,b.L0,b.N0,b.B0,())
structure Rnd.ok(b:Bldg)(r:Rnd):Prop where
 img:ImgOK b r.img
 len:r.xs.length=r.img.A0.length
def HO:S:=aB 0 0 0 0 0
def TX(r:S)(X:Rnd):Rnd:=⟨X.recs++[r],An X.img r,xsV X.img.A0 X.xs r,X.lan,X.ref⟩
def wrL(l:List S)(X:Rnd):Rnd:=⟨X.recs++l,Ap X.img l,xsL X.img X.xs l,X.lan,X.ref⟩
def Wo(r:S)(l:List S)(X:Rnd):wrL (r::l) X=wrL l (TX r X):=by
 unfold wrL TX;simp only[O_,d9_];rfl
def Wl{X:Rnd}(h:X.ok b)(hv:Az b r=A):(TX r X).ok b:=⟨(QF h.img hv).1,Bgr h.img.so h.len r⟩
def Amg{b:R}:∀{l:List S}{X:Rnd},X.ok b→(∀r∈l,Az b r=A)→(wrL l X).ok b
 |[],X,h,_=>by
  unfold wrL;rw[a9_];exact⟨h.img,h.len⟩
 |r::t,X,h,hv=>by
  rw[Wo];exact Amg (Wl h (hv r (E_ ..))) λx hx=>hv x (K_ _ hx)
def Bjm(h:k<xs.length)(hl:xs.length≤100000):Ey xs (k:Int) (IntKind.wrap aC ((k:Int)+1))=O ((xs.take k++xs.drop (k+1),()),()):=by
 unfold Ey Aj2;rw[Ac ω ω,b_ (ω:(0:Int)≤(k:Int)),b_ (ω:(k:Int)<(k:Int)+1),b_ (ω:(k:Int)+1≤(xs.length:Int)),show Int.toNat ((k:Int)+1)=k+1 by omega,j_]
 rfl
def Blc(h:k≤xs.length)(hl:xs.length≤100000):Ez xs (k:Int) [0]=O ((xs.take k++[0]++xs.drop k,()),()):=by
 unfold Ez ZM;rw[b_ (ω:(0:Int)≤(k:Int)),b_ (ω:(k:Int)≤(xs.length:Int)),Ax (show xs.length+[(0:Int)].length≤2147483648 by show xs.length+1≤_;omega),j_]
 rfl
section
variable{b:R}(hb:b.small)(hcode:b.code=0)
include hb hcode
omit hcode in
theorem EC(hm:ImgOK b m):m.A0.length≤14:=by
 have:=Bfs hb hm
 have:=hb.hi
 omega
theorem Ate{X:Rnd}(hX:X.ok b)(hl:l.length≤100000)(hi:i<l.length)(hv:Az b (l.getD i HO)=A)(hr:X.recs.length≤1000000):BP l (l.length:Int) (i:Int) X.recs X.img.F0 X.img.O0 X.img.K0 X.img.A0 X.xs X.lan.lit X.lan.gong X.lan.cl.1 X.lan.cl.2 X.ref.1 X.ref.2 b.C0 b.E0 b.H0 b.M0 b.J0 b.L0 b.N0 b.B0=O (.inl (((),l,(l.length:Int),((i+1:Nat):Int),()),((TX (l.getD i HO) X).tupB b,()))):=by
 have hcc:=Aj hcode;have he:=EC hb hX.img;have hlp:=hX.img.lp;have hxl:=hX.len;have hpl:=Sb (I (l.getD i HO).D0 (l.getD i HO).I0) X.img.A0;have ha:=Xs hb ω X.img ω ω (l.getD i HO)
 have ha':WN b X.img (l.getD i HO)=(((),0,()),((An X.img (l.getD i HO)).tup,())):=by
  unfold WN;rw[Img.ok_iff.2 hX.img,hv];rfl
 rw[ha']at ha;unfold BP;rw[show aB 0 0 0 0 0=HO from rfl]
 simp only[b_ (ω:(i:Int)<(l.length:Int)),Aa (ω:(0:Int)≤(i:Int)) (ω:(i:Int)<(l.length:Int)),J,j_]
 rw[YI X.img ω]
 simp only[C];generalize l.getD i HO=r at*;have hbl:Nat.ble (X.recs.length+[aB r.T0 r.D0 r.I0 r.Q0 r.V1].length) 2147483648=A:=Ax (by show X.recs.length+1≤_;omega)
 have hw:=Dz hi (show l.length≤AI by unfold AI;omega)
 have hxs:∀q,xsV X.img.A0 X.xs r=q→(TX r X).tupB b=(X.recs++[aB r.T0 r.D0 r.I0 r.Q0 r.V1],(An X.img r).F0,(An X.img r).O0,(An X.img r).K0,(An X.img r).A0,q,X.lan.lit,X.lan.gong,X.lan.cl.1,X.lan.cl.2,X.ref.1,X.ref.2,b.C0,b.E0,b.H0,b.M0,b.J0,b.L0,b.N0,b.B0,()):=λq h=>by rw[← h];rfl
 by_cases k2:r.T0=2
 ·have k1:(r.T0==1)=H:=Aq ω
  have k2':(r.T0==2)=A:=by rw[k2];rfl
  cases hf:FG (I r.D0 r.I0) X.img.A0 with
  |true=>
   rw[hxs _ (show _=X.xs.take (AA (I r.D0 r.I0) X.img.A0)++X.xs.drop (AA (I r.D0 r.I0) X.img.A0+1)by unfold xsV;rw[k2',hf];rfl)]
   have hp:=(Aoy hf).1;simp only[k2',J,C,Bjm (ω:AA (I r.D0 r.I0) X.img.A0<X.xs.length) ω]
   rw[ha];simp only[C,l_,J,hbl,hw];rfl
  |false=>
   rw[hxs X.xs (by unfold xsV;rw[hf,k1,b7_,a2_];rfl)]
   simp only[k2',k1,J,c_,C];rw[ha];simp only[C,l_,J,hbl,hw];rfl
 ·have k2':(r.T0==2)=H:=Aq k2
  by_cases k1:r.T0=1
  ·have k1':(r.T0==1)=A:=by rw[k1];rfl
   cases hf:FG (I r.D0 r.I0) X.img.A0 with
   |false=>
    rw[hxs _ (show _=X.xs.take (AA (I r.D0 r.I0) X.img.A0)++[0]++X.xs.drop (AA (I r.D0 r.I0) X.img.A0)by unfold xsV;rw[k2',k1',hf];rfl)]
    simp only[k2',k1',J,c_,C,b6_,Blc (ω:AA (I r.D0 r.I0) X.img.A0≤X.xs.length) ω]
    rw[ha];simp only[C,l_,J,hbl,hw];rfl
   |true=>
    rw[hxs X.xs (by unfold xsV;rw[hf,k2',a2_,n_,b7_];rfl)]
    simp only[k2',k1',J,c_,C,n_];rw[ha];simp only[C,l_,J,hbl,hw];rfl
  ·have k1':(r.T0==1)=H:=Aq k1
   rw[hxs X.xs (by unfold xsV;rw[k2',k1',a2_,a2_];rfl)]
   simp only[k2',k1',c_,C];rw[ha];simp only[C,l_,J,hbl,hw];rfl
theorem Aar{X:Rnd}(hX:X.ok b)(hl:l.length≤100000)(hv:∀r∈l,Az b r=A)(hr:X.recs.length≤100000):By l X.recs X.img.F0 X.img.O0 X.img.K0 X.img.A0 X.xs X.lan.lit X.lan.gong X.lan.cl.1 X.lan.cl.2 X.ref.1 X.ref.2 b.C0 b.E0 b.H0 b.M0 b.J0 b.L0 b.N0 b.B0=O ((),((wrL l X).tupB b,())):=by
 have key:∀(k i:Nat) (Y:Rnd),i+k=l.length→Y.ok b→Y.recs.length≤100000+i→BN (λx=>letI d:=x.2.1.2.2.2;letI f:=d.2.2;letI a:=f.2.2.2;letI g:=a.2.2;letI c:=g.2.2.2;letI e:=c.2.2;BP x.1.2.1 x.1.2.2.1 x.1.2.2.2.1 x.2.1.1 x.2.1.2.1 x.2.1.2.2.1 d.1 d.2.1 f.1 f.2.1 f.2.2.1 a.1 a.2.1 g.1 g.2.1 g.2.2.1 c.1 c.2.1 e.1 e.2.1 e.2.2.1 e.2.2.2.1 e.2.2.2.2.1) (k+1) (((),l,(l.length:Int),(i:Int),()),(Y.tupB b,()))=O ((),((wrL (l.drop i) Y).tupB b,())):=by
  intro k
  induction k with
  |zero=>
   intro i Y hi _ _;obtain rfl:i=l.length:=ω
   refine Ay ?_;show BP l (l.length:Int) (l.length:Int) Y.recs Y.img.F0 Y.img.O0 Y.img.K0 Y.img.A0 Y.xs Y.lan.lit Y.lan.gong Y.lan.cl.1 Y.lan.cl.2 Y.ref.1 Y.ref.2 b.C0 b.E0 b.H0 b.M0 b.J0 b.L0 b.N0 b.B0=_;unfold BP;rw[f_ (N_ (l.length:Int)),a8_];unfold wrL;rw[a9_];rfl
  |succ k ih=>
   intro i Y hi hY hr;have hi':i<l.length:=ω
   have hv':=hv _ (CA HO hi');rw[Cb HO hi',Wo];exact(Bs (Ate hb hcode hY hl hi' hv' ω)).trans (ih (i+1) _ ω (Wl hY hv') (by show(Y.recs++[_]).length≤_;rw[h_,I_];omega))
 have h:=key l.length 0 X ω hX ω
 rw[R_]at h;have h':Cn (((),l,(l.length:Int),(0:Int),()),(X.tupB b,()))=_:=Ai h ω
 unfold By;rw[show Cn (((),l,(l.length:Int),(0:Int),()),((X.recs,X.img.F0,X.img.O0,X.img.K0,X.img.A0,X.xs,X.lan.lit,X.lan.gong,X.lan.cl.1,X.lan.cl.2,X.ref.1,X.ref.2,b.C0,b.E0,b.H0,b.M0,b.J0,b.L0,b.N0,b.B0,()),()))=_ from h']
 rfl
end
def Xe{F D:Int}{e:B}(he:isC F D e=A)(T:List B):∀(P:List B) (i:Nat),(∀p∈P,isC F D p=H)→Dx F D (P++e::T) i=((i+P.length:Nat):Int)
 |[],i,_=>by simp only[Z_,Dx,he,J,d1_,c0_]
 |p::P,i,h=>by
  simp only[List.cons_append,Dx,h p (E_ ..),c_];rw[Xe he T P (i+1) λx hx=>h x (K_ _ hx),z_]
  congr 1;omega
def As1{P T:List B}(h:Bp (P++e::T)):∀p∈P,isC e.D0 e.I0 p=H:=by
 intro p hp;rw[Ee]at h;have h2:=(List.pairwise_append.1 h).2.2 p hp e (E_ ..);rw[Hi]at h2;unfold isC;simp only[Bool.and_eq_false_iff,beq_eq_false_iff_ne];omega
def Akk(P T:List B)(e:B):(P++e::T).getD P.length N=e:=by
 simp[k_]
def Vk(e:B):isC e.D0 e.I0 e=A:=by unfold isC;simp
def Amn{P T:List B}(hE:m.A0=P++e::T)(hs:∀p∈P,isC e.D0 e.I0 p=H)(n c:Int):An m ⟨7,e.D0,e.I0,c,n⟩=m.put (P++Tb e n c::T):=by
 unfold An;have hf:Dx e.D0 e.I0 m.A0 0=(P.length:Int):=by rw[hE,Xe (Vk e) T P 0 hs,q_]
 simp only[hf];rw[Aq (ω:¬(P.length:Int)=-1),hE,j_,Akk,Sc,Sc]
 rfl
def Afm{P T:List B}(hE:m.A0=P++e::T)(hs:∀p∈P,isC e.D0 e.I0 p=H)(c:Int):An m ⟨3,e.D0,e.I0,c,0⟩=m.put (P++Ac3 e c::T):=by
 unfold An;have hf:Dx e.D0 e.I0 m.A0 0=(P.length:Int):=by rw[hE,Xe (Vk e) T P 0 hs,q_]
 simp only[hf];rw[Aq (ω:¬(P.length:Int)=-1),hE,j_,Akk,Sc,Sc]
 rfl
def Img.put_put(m:U)(l l':List B):(m.put l).put l'=m.put l':=rfl
def Img.put_self(m:U):m.put m.A0=m:=rfl
def Ap4{P T:List B}{n:B}(hE:m.A0=P++e::T)(hs:∀p∈P,isC e.D0 e.I0 p=H)(hF:n.D0=e.D0)(hD:n.I0=e.I0):Ap m (MA e n)=m.put (P++n::T):=by
 obtain⟨nF,nD,nC,nM,nV⟩:=n;obtain⟨eF,eD,eC,eM,eV⟩:=e;simp only at hF hD;subst hF hD;unfold MA;simp only;have mv:∀c:Int,Tb ⟨nF,nD,eC,eM,eV⟩ nM c=⟨nF,nD,eC,nM,c==1⟩:=λ_=>rfl
 have cv:((bif nV then(1:Int)else 0)==1)=nV:=by cases nV<;>rfl
 cases hp:(eM !=nM||!(eV==nV))with
 |true=>
  have h1:=Amn hE hs nM (bif nV then 1 else 0);rw[mv,cv]at h1;cases hq:eC !=nC with
  |true=>
   have h2:=Afm (m:=m.put (P++⟨nF,nD,eC,nM,nV⟩::T)) (P:=P) (T:=T) (e:=⟨nF,nD,eC,nM,nV⟩) rfl hs nC;simp only[J,List.cons_append,Z_,Ap];rw[h1,h2];rfl
  |false=>
   have:eC=nC:=by simpa[bne]using hq
   subst this;simp only[J,c_,a9_,Ap];exact h1
 |false=>
  simp only[Bool.or_eq_false_iff,Bool.not_eq_false',bne_eq_false_iff_eq,Y_]at hp;obtain⟨rfl,rfl⟩:=hp;cases hq:eC !=nC with
  |true=>
   have h2:=Afm hE hs nC;simp only[J,c_,Z_,Ap];exact h2
  |false=>
   have:eC=nC:=by simpa[bne]using hq
   subst this;simp only[c_,a9_,Ap];rw[← hE];exact(Img.put_self m).symm
def Ask{n:B}(hcode:b.code=0)(hcall:Ak b n.D0 n.I0=A)(hc:-2≤n.Q0∧n.Q0<(b.B0.length:Int))(hm:0≤n.B1∧n.B1≤255):∀r∈MA e n,Az b r=A:=by
 intro r hr;unfold MA at hr;rcases p_.1 hr with h | h
 ·cases hp:(e.B1 !=n.B1||!(e.Y1==n.Y1))with
  |false=>rw[hp]at h;cases h
  |true=>
   rw[hp]at h;rw[D_.1 h];unfold Az;rw[hcode,hcall,Am.2 hm];cases n.Y1<;>rfl
 ·cases hp:e.Q0 !=n.Q0 with
  |false=>rw[hp]at h;cases h
  |true=>
   rw[hp]at h;rw[D_.1 h];unfold Az;rw[hcode,hcall,Am.2 ⟨hc.1,show n.Q0≤(b.B0.length:Int)-1 by omega⟩]
   rfl
noncomputable def Ui(b:R)(vs:List View):List B→List Int→List B
 |e::t,x::xs=>EV b vs e x::Ui b vs t xs
 |_,_=>[]
def Aj1(b:R)(vs:List View):∀(l:List B) (xs:List Int),xs.length=l.length→(Ui b vs l xs).length=l.length
 |[],_,_=>by simp[Ui]
 |_::_,[],h=>by simp at h
 |e::t,x::xs,h=>by simp only[Ui,z_,Aj1 b vs t xs (by simpa using h)]
def Aq5(hc:b.B0.length≤100)(hm:0≤e.B1∧e.B1≤255)(x:Int):0≤(EV b vs e x).B1∧(EV b vs e x).B1≤255:=by
 unfold EV;cases e.Q0==-2 with
 |true=>exact hm
 |false=>
  cases e.Q0==-1 with
  |true=>exact hm
  |false=>
   cases(Aw vs e.Q0).U3 with
   |true=>
    by_cases g:(b.B0.length:Int)<e.B1
    ·rw[b_ g];exact hm
    ·rw[f_ g];exact⟨by show 0≤e.B1+1;omega,by show e.B1+1≤255;omega⟩
   |false=>
    by_cases g:e.B1≤(b.B0.length:Int)
    ·rw[b_ g]
     cases e.Y1 with
     |true=>exact hm
     |false=>
      cases MS b vs e x != -1 with
      |true=>exact⟨by show 0≤e.B1+1;omega,by show e.B1+1≤255;omega⟩
      |false=>exact hm
    ·rw[f_ g,b7_];exact hm
def Wd{b:R}(hc:b.B0.length≤100){vs:List View}(hlen:(vs.length:Int)=(b.B0.length:Int)):∀(T:List B) (xs:List Int) (P:List B) (m:U),xs.length=T.length→ImgOK b m→m.A0=P++T→Ap m (Gq b vs T xs)=m.put (P++Ui b vs T xs)∧(∀r∈Gq b vs T xs,Az b r=A)∧ImgOK b (m.put (P++Ui b vs T xs))
 |[],xs,P,m,_,hm,hE=>by
  have:Ui b vs [] xs=[]:=by simp[Ui]
  have h2:Gq b vs [] xs=[]:=by simp[Gq]
  rw[this,h2,← hE];exact⟨rfl,(λ_ h=>by cases h),hm⟩
 |_::_,[],_,_,h,_,_=>by simp at h
 |e::T,x::xs,P,m,h,hm,hE=>by
  have hent:=EO.1 (hm.en e (by rw[hE];simp))
  have hso:=hm.so;rw[hE]at hso;have hs:=As1 hso;obtain⟨c1,c2⟩:=Awk b vs e x;have hin:=Aol b (vs:=vs) (e:=e) ω x
  have hmv:=Aq5 hc (vs:=vs) hent.2.2 x;have hval:=Ask (b:=b) (e:=e) (n:=EV b vs e x) hm.code (by rw[c1,c2];exact hent.1) ω hmv
  have hap:=Ap4 hE hs c1 c2
  have hok:ImgOK b (m.put (P++EV b vs e x::T)):=by
   rw[← hap];exact(Tq hm hval).1
  obtain⟨g1,g2,g3⟩:=Wd hc hlen T xs (P++[EV b vs e x]) (m.put (P++EV b vs e x::T)) (by simpa using h) hok (by simp[Img.put])
  simp only[Gq,Ui]
  have app:∀(rs qs:List S) (m:U),Ap m (rs++qs)=Ap (Ap m rs) qs:=λrs=>by
   induction rs with
   |nil=>intro _ _;rfl
   |cons r rs ih=>intro qs m;exact ih qs (An m r)
  rw[app,hap,g1,Img.put_put];rw[Img.put_put]at g3;simp only[O_,d9_]at g3⊢
  exact⟨trivial,(λr hr=>by
   rcases p_.1 hr with hr | hr
   ·exact hval r hr
   ·exact g2 r hr),g3⟩
def YV{l:List B}(hl:l.length≤100000):Ro l=O (((),()),(((ofC l (0,0)).1,(ofC l (0,0)).2,()),())):=by
 have e2:∀(k i:Nat) (c:Int×Int),i+k=l.length→BN (λx=>Jr x.1.2.2.1 x.1.2.2.2.1 x.1.2.2.2.2.1 x.2.1.1 x.2.1.2.1 x.2.2.1.1 x.2.2.1.2.1) (k+1) (((),(),l,(l.length:Int),(i:Int),()),(((0:Int),(0:Int),()),(c.1,c.2,()),()))=O (((),(),()),(((0:Int),(0:Int),()),((ofC (l.drop i) c).1,(ofC (l.drop i) c).2,()),())):=by
  intro k
  induction k with
  |zero=>
   intro i c hi;obtain rfl:i=l.length:=ω
   refine Ay ?_;show Jr l (l.length:Int) (l.length:Int) 0 0 c.1 c.2=_;unfold Jr;rw[f_ (N_ (l.length:Int)),a8_];rfl
  |succ k ih=>
   intro i c hi;have hi':i<l.length:=ω
   rw[Cb N hi'];refine(Bs (x':=(((),(),l,(l.length:Int),((i+1:Nat):Int),()),(((0:Int),(0:Int),()),((CP c (JE (l.getD i N).D0 (l.getD i N).I0)).1,(CP c (JE (l.getD i N).D0 (l.getD i N).I0)).2,()),()))) ?_).trans (ih (i+1) _ ω)
   show Jr l (l.length:Int) (i:Int) 0 0 c.1 c.2=_;unfold Jr;rw[show Entry.mk 0 0 0 0 H=N from rfl]
   have hu:=Gh c (JE (l.getD i N).D0 (l.getD i N).I0);simp only[b_ (ω:(i:Int)<(l.length:Int)),Aa (ω:(0:Int)≤(i:Int)) (ω:(i:Int)<(l.length:Int)),J,j_,JB,C,hu,Dz hi' (show l.length≤AI by unfold AI;omega)]
 have h:=e2 l.length 0 (0,0) ω
 rw[R_]at h;have h':Ox (((),(),l,(l.length:Int),(0:Int),()),(((0:Int),(0:Int),()),((0:Int),(0:Int),()),()))=_:=Ai h ω
 unfold Ro;rw[h'];rfl
def Afd(e:B):S:=aB 1 e.D0 e.I0 0 0
def Jd(b:R)(e:B)(X:Rnd):Rnd:=bif Pn b X.img then TX (Afd e) X else⟨X.recs,X.img,X.xs,X.lan,CP X.ref (JE e.D0 e.I0)⟩
def KY(b:R):List B→Rnd→Rnd
 |[],X=>X
 |e::t,X=>KY b t (Jd b e X)
def Boe(r:S)(X:Rnd):wrL [r] X=TX r X:=by
 rw[Wo];unfold wrL;rw[a9_];rfl
def XL(h:Ak b e.D0 e.I0=A):Az b (Afd e)=A:=by
 have hc:(b.code==0)=A:=by
  unfold Ak at h;rw[e_]at h;exact h.1
 unfold Az Afd;rw[hc];simp only[l_,J,h,a6_]
def Al8{X:Rnd}(h:X.ok b)(he:Ak b e.D0 e.I0=A):(Jd b e X).ok b:=by
 unfold Jd;cases Pn b X.img with
 |true=>exact Wl h (XL he)
 |false=>exact⟨h.img,h.len⟩
def Ape{b:R}:∀{l:List B}{X:Rnd},X.ok b→(∀e∈l,Ak b e.D0 e.I0=A)→(KY b l X).ok b
 |[],_,h,_=>h
 |e::t,X,h,hv=>by
  show(KY b t (Jd b e X)).ok b;exact Ape (Al8 h (hv e (E_ ..))) λx hx=>hv x (K_ _ hx)
def Ac8(b:R)(e:B)(X:Rnd):(Jd b e X).recs.length≤X.recs.length+1:=by
 unfold Jd;cases Pn b X.img with
 |true=>show(X.recs++[_]).length≤_;rw[h_,I_];exact w_ _
 |false=>exact Nat.le_succ _
def Agz(b:R):∀(l:List B) (X:Rnd),(KY b l X).recs.length≤X.recs.length+l.length
 |[],_=>w_ _
 |e::t,X=>by
  have h1:=Agz b t (Jd b e X);have h2:=Ac8 b e X;show(KY b t (Jd b e X)).recs.length≤_;rw[z_];omega
def Agq(c:Int×Int):(He c).length≤64:=by
 have h:∀k i:Nat,((List.range' i k).flatMap (MQ c)).length≤2*k:=by
  intro k
  induction k with
  |zero=>intro i;exact w_ _
  |succ k ih=>
   intro i;rw[e9_,a0_,h_]
   have:=ih (i+1)
   have:=Abn c i
   omega
 exact h 32 0
def Axg{c:Int×Int}(h:e∈He c):(0≤e.D0∧e.D0<32)∧(e.I0=1∨e.I0=2)∧BQ c e.D0.toNat e.I0=A:=by
 obtain⟨f,h1,h2,h3,h4⟩:=mem_range.1 (c3_.2 ⟨e,h,rfl⟩);simp only[HB]at h2 h3 h4;refine⟨ω,h3,?_⟩
 rw[h2,j_];exact h4
def Ab1(b:R)(m:U)(press:Int×Int):Int×Int:=Cc (CF press (Bx b)) (ofC m.A0 (0,0))
def VM(hb:b.small)(hcode:b.code=0){press old:Int×Int}(h:e∈He (Cc (CF press (Bx b)) old)):Ak b e.D0 e.I0=A:=by
 obtain⟨h1,h2,h3⟩:=Axg h;rw[Vh _ _ ω,Tt,e_,e_,VR hb hcode ω h2,f5_ h1.1]at h3
 exact h3.1.2
section
variable{b:R}(hb:b.small)(hcode:b.code=0)
include hb hcode
theorem Ah9{es:List B}(hl:es.length≤1000)(hv:∀e∈es,Ak b e.D0 e.I0=A):∀(k i:Nat) (Y:Rnd),i+k=es.length→Y.ok b→Y.recs.length≤1000+i→BN (λx=>letI d:=x.2.1.2.2.2;letI f:=d.2.2;letI a:=f.2.2.2;letI g:=a.2.2;letI c:=g.2.2.2;letI e:=c.2.2;Bu x.1.2.1 x.1.2.2.1 x.1.2.2.2.1 x.2.1.1 x.2.1.2.1 x.2.1.2.2.1 d.1 d.2.1 f.1 f.2.1 f.2.2.1 a.1 a.2.1 g.1 g.2.1 g.2.2.1 c.1 c.2.1 e.1 e.2.1 e.2.2.1 e.2.2.2.1 e.2.2.2.2.1) (k+1) (((),es,(es.length:Int),(i:Int),()),(Y.tupB b,()))=O ((),((KY b (es.drop i) Y).tupB b,())):=by
 intro k
 induction k with
 |zero=>
  intro i Y hi _ _;obtain rfl:i=es.length:=ω
  refine Ay ?_;show Bu es (es.length:Int) (es.length:Int) Y.recs Y.img.F0 Y.img.O0 Y.img.K0 Y.img.A0 Y.xs Y.lan.lit Y.lan.gong Y.lan.cl.1 Y.lan.cl.2 Y.ref.1 Y.ref.2 b.C0 b.E0 b.H0 b.M0 b.J0 b.L0 b.N0 b.B0=_;unfold Bu;rw[f_ (N_ (es.length:Int)),a8_];rfl
 |succ k ih=>
  intro i Y hi hY hr;have hi':i<es.length:=ω
  have hv':=hv _ (CA N hi');have hcc:=Aj hcode;have he:=EC hb hY.img;have hlp:=hY.img.lp;rw[Cb N hi'];refine(Bs (x':=(((),es,(es.length:Int),((i+1:Nat):Int),()),((Jd b (es.getD i N) Y).tupB b,()))) ?_).trans (ih (i+1) _ ω (Al8 hY hv') (by have:=Ac8 b (es.getD i N) Y;omega))
  show Bu es (es.length:Int) (i:Int) Y.recs Y.img.F0 Y.img.O0 Y.img.K0 Y.img.A0 Y.xs Y.lan.lit Y.lan.gong Y.lan.cl.1 Y.lan.cl.2 Y.ref.1 Y.ref.2 b.C0 b.E0 b.H0 b.M0 b.J0 b.L0 b.N0 b.B0=_;unfold Bu Jd;rw[show Entry.mk 0 0 0 0 H=N from rfl,Za hb Y.img ω ω ω]
  simp only[b_ (ω:(i:Int)<(es.length:Int)),Aa (ω:(0:Int)≤(i:Int)) (ω:(i:Int)<(es.length:Int)),J,j_,C,Dz hi' (show es.length≤AI by unfold AI;omega)]
  cases Pn b Y.img with
  |true=>
   have hw:=Aar hb hcode hY (l:=[Afd (es.getD i N)]) (by show 1≤100000;omega) (by
    intro r hr;rw[D_.1 hr];exact XL hv') ω
   rw[Boe]at hw;unfold Afd at hw;simp only[J,hw,C];rfl
  |false=>
   have hu:=Gh Y.ref (JE (es.getD i N).D0 (es.getD i N).I0);simp only[c_,JB,C,hu];rfl
theorem Anx(press old:Int×Int){X:Rnd}(hX:X.ok b)(hr:X.recs.length≤1000):CR press.1 press.2 old.1 old.2 X.recs X.img.F0 X.img.O0 X.img.K0 X.img.A0 X.xs X.lan.lit X.lan.gong X.lan.cl.1 X.lan.cl.2 X.ref.1 X.ref.2 b.C0 b.E0 b.H0 b.M0 b.J0 b.L0 b.N0 b.B0=O ((),((KY b (He (Cc (CF press (Bx b)) old)) X).tupB b,())):=by
 have hl:=Agq (Cc (CF press (Bx b)) old);have h:=Ah9 hb hcode (es:=He (Cc (CF press (Bx b)) old)) ω (λe he=>VM hb hcode he) _ 0 X (q_ _) hX ω
 rw[R_]at h;have h':CE (((),He (Cc (CF press (Bx b)) old),((He (Cc (CF press (Bx b)) old)).length:Int),(0:Int),()),(X.tupB b,()))=_:=Ai h ω
 unfold CR;rw[Kh hb hcode];simp only[C];rw[KF press (Bx b)];simp only[C];rw[PI (CF press (Bx b)) old];simp only[C];rw[Wt];simp only[C];unfold Rnd.tupB at h';rw[h'];rfl
end
def Ahr(n:Int):GD n=O ((!inR 0 1000000 n,()),()):=by
 unfold GD inR;by_cases g:n<0
 ·rw[b_ g,f_ (ω:¬0≤n)];rfl
 ·rw[f_ g,b_ (ω:0≤n)]
  by_cases g':1000000<n
  ·rw[b_ g',f_ (ω:¬n≤1000000)];rfl
  ·rw[f_ g',b_ (ω:n≤1000000)];rfl
def Ajt(hl:xs.length≤maxLen):Bh xs=O ((!Pc xs,()),()):=by
 have hm:maxLen≤9223372036854775807:=by decide
 have key:∀(k i:Nat),i+k=xs.length→∃y,BN (λx=>AF x.1.1 x.1.2.2.1 x.1.2.2.2.1) (k+1) ((xs,(),(xs.length:Int),(i:Int),()),())=O y∧(match y with | .inl _=>(xs.drop i).all (inR 0 1000000)=A | .inr z=>0≤z.1.1∧(xs.drop i).all (inR 0 1000000)=H):=by
  intro k
  induction k with
  |zero=>
   intro i hi;refine⟨.inl ((),()),Ay ?_,?_⟩
   ·show AF xs (xs.length:Int) (i:Int)=_
    unfold AF;rw[show decide ((i:Int)<(xs.length:Int))=H by simp;omega];rfl
   ·rw[show i=xs.length by omega,a8_];rfl
  |succ k ih=>
   intro i hi;have hi':i<xs.length:=ω
   have hs:AF xs (xs.length:Int) (i:Int)=O (bif inR 0 1000000 (xs.getD i 0)then .inl ((xs,(),(xs.length:Int),((i+1:Nat):Int),()),())else .inr (.inr (((i:Int),()),()))):=by
    unfold AF;have w:aC.wrap ((i:Int)+1)=((i+1:Nat):Int):=by rw[Ac ω ω];omega
    rw[show decide ((i:Int)<(xs.length:Int))=A by simp;omega,Aa ω ω,Ahr,w]
    simp only[J,j_,C];cases inR 0 1000000 (xs.getD i 0)<;>rfl
   rw[Cb (0:Int) hi',V_];cases hq:inR 0 1000000 (xs.getD i 0)with
   |true=>
    rw[hq]at hs;obtain⟨y,h1,h2⟩:=ih (i+1) ω
    exact⟨y,(Bs hs).trans h1,by rw[o_];exact h2⟩
   |false=>
    rw[hq]at hs;exact⟨_,Ay hs,by show(0:Int)≤(i:Int)∧_;exact⟨ω,rfl⟩⟩
 obtain⟨y,h1,h2⟩:=key xs.length 0 ω
 have h1':Bl ((xs,(),(xs.length:Int),(0:Int),()),())=O y:=Ai h1 ω
 rw[R_]at h2;unfold Bh Ce Pc;rw[h1'];cases y with
 |inl z=>simp only at h2;rw[h2];rfl
 |inr z=>
  simp only at h2;rw[h2.2];simp only[C];rw[b_ h2.1];rfl
def Vv(m:U)(hl:xs.length≤maxLen):HI m.F0 m.O0 m.K0 m.A0 xs=O (((((xs.length:Int)==(m.A0.length:Int))&&Pc xs),()),()):=by
 unfold HI;rw[Ajt hl];cases((xs.length:Int)==(m.A0.length:Int))with
 |false=>rfl
 |true=>simp only[J,C,o_,Bool.not_not]
def CK{α:Type}(l:List α)(h:l.length≤100000):OY l=O ((l,()),()):=by
 unfold OY;rw[Ax (ω:l.length≤2147483648)];rfl
def Ber(n:Nat):Lan:=⟨aA n noP,aA n H,(0,0)⟩
def CU(b:R)(m:U)(xs:List Int)(vs:List View)(ps:List Calls)(press:Int×Int)(good:Bool):Rnd:=
 bif good then KY b (He (Ab1 b m press)) (wrL (HP b vs m.A0) ⟨[],m,xs,GY b vs ps,(0,0)⟩)else⟨[],m,xs,Ber vs.length,(0,0)⟩
noncomputable def Add(b:R)(m:U)(xs:List Int)(vs:List View)(ps:List Calls)(press:Int×Int)(good:Bool):List S×List Int×Int×Unit:=Nw b (CU b m xs vs ps press good).img (CU b m xs vs ps press good).xs vs
noncomputable def MC(b:R)(m:U)(xs:List Int)(vs:List View)(ps:List Calls)(press:Int×Int)(good:Bool):Rnd:={ wrL (Add b m xs vs ps press good).1 (CU b m xs vs ps press good)with xs:=(Add b m xs vs ps press good).2.1 }
def Qx(hcode:b.code=0)(vs:List View):∀{l:List B},(∀e∈l,Ak b e.D0 e.I0=A)→∀r∈HP b vs l,Az b r=A∧r.T0=2:=λh r hr=>by
 obtain⟨e,he,hr⟩:=c8_.1 hr;have hc:=h e he;cases hs:TV b vs e.D0 e.I0 with
 |false=>rw[hs]at hr;cases hr
 |true=>
  rw[hs]at hr;rw[D_.1 hr];refine⟨?_,rfl⟩;unfold Az;rw[hcode];simp only[show((2:Int)==1)=H from rfl,c_,l_,J,hc,a6_]
def Ank(hcode:b.code=0)(hm:ImgOK b m)(xs:List Int):∀r∈(Nw b m xs vs).1,Az b r=A:=by
 have hcc:=Aj hcode;unfold Nw;rw[Img.ok_iff.2 hm];cases hq:((xs.length:Int)==(m.A0.length:Int))with
 |false=>exact λr hr=>by cases hr
 |true=>
  cases hv:((vs.length:Int)==(b.B0.length:Int))with
  |false=>exact λr hr=>by cases hr
  |true=>
   cases Pc xs with
   |false=>exact λr hr=>by cases hr
   |true=>
    have h1:(xs.length:Int)=(m.A0.length:Int):=by simpa using hq
    have h2:(vs.length:Int)=(b.B0.length:Int):=by simpa using hv
    exact(Wd (b:=b) ω h2 m.A0 xs [] m ω hm rfl).2.1
section
variable{b:R}(hb:b.small)(hcode:b.code=0){m:U}(hm:ImgOK b m){xs:List Int}(hx:xs.length=m.A0.length){vs:List View}(ps:List Calls)(press:Int×Int)(good:Bool)
include hb hcode hm hx
theorem Amc:(CU b m xs vs ps press good).ok b∧(CU b m xs vs ps press good).recs.length≤100:=by
 have he:=EC hb hm;have hX:∀L:Lan,Rnd.ok b ⟨[],m,xs,L,(0,0)⟩:=λL=>⟨hm,hx⟩
 unfold CU;cases good with
 |false=>exact⟨hX _,a3_ _⟩
 |true=>
  have hv:=Qx hcode vs (l:=m.A0) λe he=>(EO.1 (hm.en e he)).1
  refine⟨Ape (Amg (hX _) λr hr=>(hv r hr).1) λe he=>VM hb hcode he,?_⟩
  have h1:=Agz b (He (Ab1 b m press)) (wrL (HP b vs m.A0) ⟨[],m,xs,GY b vs ps,(0,0)⟩);have h2:=Agq (Ab1 b m press);have h3:=XR b vs m.A0;have h4:(wrL (HP b vs m.A0) ⟨[],m,xs,GY b vs ps,(0,0)⟩).recs.length=(HP b vs m.A0).length:=rfl;show(KY b (He (Ab1 b m press)) (wrL (HP b vs m.A0) ⟨[],m,xs,GY b vs ps,(0,0)⟩)).recs.length≤100;omega
theorem ZB(hexp:Pc xs=A)(hv:okViews vs)(hvl:vs.length=b.B0.length)(hp:ps.length=b.B0.length):Lc b.C0 b.E0 b.H0 b.M0 b.J0 b.L0 b.N0 b.B0 m.F0 m.O0 m.K0 m.A0 xs vs ps press.1 press.2 good=O (((),0,()),((MC b m xs vs ps press good).tup,())):=by
 have hcc:=Aj hcode;have he:=EC hb hm;have hlp:=hm.lp;have hlf:=hm.lf;have hll:=hm.ll;have hmx:100000≤maxLen:=by decide
 have hX:∀L:Lan,Rnd.ok b ⟨[],m,xs,L,(0,0)⟩:=λL=>⟨hm,hx⟩
 obtain⟨hok,hrl⟩:=Amc hb hcode hm hx (vs:=vs) ps press good;have hlight:=ZU hb hcode vs ps ω
 unfold Acf at hlight;rw[show((vs.length:Int)==(b.B0.length:Int))=A by rw[hvl];exact l_ _,show((ps.length:Int)==(b.B0.length:Int))=A by rw[hp];exact l_ _]at hlight
 simp only[a6_,J]at hlight;have hXl:=EC hb hok.img;have hXp:=hok.img.lp;have hXx:=hok.len;have hplan:=Adu hb hv ω (CU b m xs vs ps press good).img ω ω (CU b m xs vs ps press good).xs ω
 have hpl:=(Axw b (CU b m xs vs ps press good).img (CU b m xs vs ps press good).xs vs).1;have hwr:=Aar hb hcode hok (l:=(Nw b (CU b m xs vs ps press good).img (CU b m xs vs ps press good).xs vs).1) ω (Ank hcode hok.img _) ω
 unfold Lc;rw[hlight];simp only[C,Q_,c_,Lan.tup];rw[CL hb m ω ω,Img.ok_iff.2 hm]
 simp only[C,n_,c_];rw[Vv m ω,show((xs.length:Int)==(m.A0.length:Int))=A by rw[hx];exact l_ _,hexp]
 unfold MD BG Bb Bk Ob;rw[CK m.F0 ω,CK m.O0 ω,CK m.K0 ω,CK m.A0 ω,CK xs ω]
 simp only[C,a6_,n_,c_,b_ (ω:(0:Int)≤(vs.length:Int)),b_ (d5_ (vs.length:Int)),b_ (ω:(vs.length:Int)≤2147483648),J,j_]
 cases good with
 |false=>
  simp only[c_,C];rw[show HS b.C0 b.E0 b.H0 b.M0 b.J0 b.L0 b.N0 b.B0 m.F0 m.O0 m.K0 m.A0 xs vs=_ from hplan]
  simp only[C];rw[show By (Nw b (CU b m xs vs ps press H).img (CU b m xs vs ps press H).xs vs).1 [] m.F0 m.O0 m.K0 m.A0 xs (aA vs.length (Calls.mk 0 0)) (aA vs.length H) 0 0 0 0 b.C0 b.E0 b.H0 b.M0 b.J0 b.L0 b.N0 b.B0=_ from hwr]
  rfl
 |true=>
  have hsv:=Qx hcode vs (l:=m.A0) λe he=>(EO.1 (hm.en e he)).1
  have hsl:=XR b vs m.A0;have hw1:=Aar hb hcode (hX (GY b vs ps)) (l:=HP b vs m.A0) ω (λr hr=>(hsv r hr).1) (a3_ _)
  have hrg:=Anx hb hcode press (ofC m.A0 (0,0)) (X:=wrL (HP b vs m.A0) ⟨[],m,xs,GY b vs ps,(0,0)⟩) (Amg (hX _) λr hr=>(hsv r hr).1) (by show([]++HP b vs m.A0).length≤_;rw[Z_];omega)
  unfold GE;simp only[J];rw[ZV hb hcode hm ω vs ω]
  simp only[C];simp only at hw1;rw[hw1];simp only[C,YV (ω:m.A0.length≤100000),Rnd.tupB]
  rw[hrg];simp only[C,Rnd.tupB];rw[show HS b.C0 b.E0 b.H0 b.M0 b.J0 b.L0 b.N0 b.B0 (KY b (He (Cc (CF press (Bx b)) (ofC m.A0 (0,0)))) (wrL (HP b vs m.A0) ⟨[],m,xs,GY b vs ps,(0,0)⟩)).img.F0 (KY b (He (Cc (CF press (Bx b)) (ofC m.A0 (0,0)))) (wrL (HP b vs m.A0) ⟨[],m,xs,GY b vs ps,(0,0)⟩)).img.O0 (KY b (He (Cc (CF press (Bx b)) (ofC m.A0 (0,0)))) (wrL (HP b vs m.A0) ⟨[],m,xs,GY b vs ps,(0,0)⟩)).img.K0 (KY b (He (Cc (CF press (Bx b)) (ofC m.A0 (0,0)))) (wrL (HP b vs m.A0) ⟨[],m,xs,GY b vs ps,(0,0)⟩)).img.A0 (KY b (He (Cc (CF press (Bx b)) (ofC m.A0 (0,0)))) (wrL (HP b vs m.A0) ⟨[],m,xs,GY b vs ps,(0,0)⟩)).xs vs=_ from hplan]
  simp only[C];refine Eq.trans (f0_ (λo=>Option.bind o _) (show _=O ((),((wrL (Nw b (CU b m xs vs ps press A).img (CU b m xs vs ps press A).xs vs).1 (CU b m xs vs ps press A)).tupB b,()))from hwr)) ?_
  rfl
end
structure Pk where
 m:Mch
 budget:Int
 e:Int
 legacy:List Bool
 shows:List Calls
 reset:List Bool
 out:Outputs
def Pk.ap{α:Type}(f:Int→Int→Int→Int→Nat→Nat→Nat→List Car→List Int→List Bool→List Bool→List B→ByteArray→ByteArray→Int→List Debounced→List Belief→List NewCar→List Loaded→List Int→List Calls→Int→Int→Int→Int→Int→Int→Int→List CarInput→Bool→Int→Int→List Bool→List Calls→List Bool→Int→Int→Int→Int→Bool→Bool→Int→List CarOutput→α)(b:R)(x:Inp)(g:Bool)(t:Pk):α:=
 f b.C0 b.E0 b.H0 b.M0 b.J0 b.L0 b.N0 b.B0 t.m.G0.F0 t.m.G0.O0 t.m.G0.K0 t.m.G0.A0 t.m.Z0.h0 t.m.Z0.h1 t.m.Z0.sel t.m.N1 t.m.W0 t.m.B0 t.m.R2 t.m.D2 t.m.X3 t.m.R3 t.m.T2 t.m.J2 x.press.1 x.press.2 x.kind x.car x.cars g t.budget t.e t.legacy t.shows t.reset t.out.T5 t.out.S5 t.out.T3 t.out.F3 t.out.V5 t.out.L0 t.out.U5 t.out.B0
def Pk.tup(b:R)(x:Inp)(g:Bool)(t:Pk):=(b.C0,b.E0,b.H0,b.M0,b.J0,b.L0,b.N0,b.B0,t.m.G0.F0,t.m.G0.O0,t.m.G0.K0,t.m.G0.A0,t.m.Z0.h0,t.m.Z0.h1,t.m.Z0.sel,t.m.N1,t.m.W0,t.m.B0,t.m.R2,t.m.D2,t.m.X3,t.m.R3,t.m.T2,t.m.J2,x.press.1,x.press.2,x.kind,x.car,x.cars,g,t.budget,t.e,t.legacy,t.shows,t.reset,t.out.T5,t.out.S5,t.out.T3,t.out.F3,t.out.V5,t.out.L0,t.out.U5,t.out.B0,())
def Pk.wr(t:Pk)(im:U)(s:Sto)(bu e:Int):Pk:={ t with m:={ t.m with G0:=im,Z0:=s },budget:=bu,e:=e }
def goodL(b:R):U→List S→Prop
 |_,[]=>True
 |m,r::l=>Az b r=A∧IY b m r=H∧goodL b (An m r) l
def goodL.app:∀{l:List S}{m:U}{k:List S},goodL b m l→goodL b (Ap m l) k→goodL b m (l++k)
 |[],_,_,_,h=>h
 |_::_,_,_,⟨h1,h2,h3⟩,h=>⟨h1,h2,h3.app h⟩
def VP{b:R}:∀{l:List S}(m:U),(∀r∈l,Az b r=A∧r.T0≠1)→goodL b m l
 |[],_,_=>trivial
 |r::l,m,h=>by
  have h1:=h r (E_ ..);refine⟨h1.1,?_,VP _ λx hx=>h x (K_ _ hx)⟩
  unfold IY;rw[Aq h1.2];rfl
def goodL.drop:∀{l:List S}{m:U},goodL b m l→∀i,i<l.length→Az b (l.getD i ⟨0,0,0,0,0⟩)=A∧IY b (Ap m (l.take i)) (l.getD i ⟨0,0,0,0,0⟩)=H
 |[],_,_,_,h=>absurd h (g0_ _)
 |_::_,_,⟨h1,h2,_⟩,0,_=>⟨h1,h2⟩
 |_::_,_,⟨_,_,h3⟩,i+1,h=>h3.drop i (by rw[z_]at h;omega)
def Amm(h:i<l.length):Ap m (l.take (i+1))=An (Ap m (l.take i)) (l.getD i ⟨0,0,0,0,0⟩):=by
 rw[List.take_succ,EA,i_ h,k_,i_ h];rfl
def Wr(b:R)(t:Pk)(l:List S)(t':Pk):Prop:=∃im s bu e,t'=t.wr im s bu e∧((e=0∧im=Ap t.m.G0 l∧Jst b s im∧t.budget-b.H0*(l.length:Int)≤bu∧0≤bu∧bu≤t.budget)∨(e=8∧t.budget<b.H0*(l.length:Int)∧s.ok b.H0∧∃k,k<l.length∧Cs b s=Ap t.m.G0 (l.take k)))
section
variable{b:R}(hb:b.small){x:Inp}{g:Bool}
include hb
theorem Bga{s:Sto}(hj:Jst b s m)(hv:Az b r=A)(hf:IY b m r=H):6≤TN b s m r∧TN b s m r≤b.H0:=by
 have h1:=Af7 hj hv hf;have h2:=hj.fits;have h3:=Aj hj.img.code;unfold TN;split<;>omega
theorem YA{t:Pk}(hj:Jst b t.m.Z0 t.m.G0)(h0:0≤t.budget∧t.budget<9223372036854775808)(he:t.e=0)(hl:goodL b t.m.G0 l)(hn:l.length≤100000):Sat (t.ap (AT l) b x g) λy=>∃t',(y=.inl ((),(t'.tup b x g,()))∨y=.inr ((),(t'.tup b x g,())))∧Wr b t l t':=by
 have hcc:=Aj hj.img.code;have hroom:0≤b.H0:=by have:=hj.fits;omega
 unfold Pk.ap AT;refine Sat.bindS (Q:=λy=>∃t',(y=.inl ((),(t'.tup b x g,()))∨y=.inr ((),(t'.tup b x g,())))∧Wr b t l t') ?_ λy hy=>?_
 ·unfold Df
  refine Sat.loop (λ(k:Nat) z=>∃(i:Nat) (t':Pk),z=(((),l,(l.length:Int),(i:Int),()),(t'.tup b x g,()))∧i+k=l.length∧Wr b t (l.take i) t') (λk z hz=>?_) l.length ⟨0,t,rfl,q_ _,t.m.G0,t.m.Z0,t.budget,t.e,rfl,.inl ⟨he,rfl,hj,by simp,h0.1,d5_ _⟩⟩ ω
  obtain⟨i,t',rfl,hk,im,s,bu,e,rfl,hw⟩:=hz;show Sat (Pk.ap (EU l (l.length:Int) (i:Int)) b x g (t.wr im s bu e)) _;unfold Pk.ap EU;refine Sat.bic (λq=>?_) λq=>Sat.ret ⟨t.wr im s bu e,.inl rfl,im,s,bu,e,rfl,?_⟩
  ·have q:(i:Int)<(l.length:Int):=m_ q
   have hi:i<l.length:=ω
   have hlt:(l.take i).length=i:=by rw[v_];omega
   have hlt1:(l.take (i+1)).length=i+1:=by rw[v_];omega
   have hm:b.H0*((i+1:Nat):Int)≤b.H0*(l.length:Int):=Int.mul_le_mul_of_nonneg_left ω hroom
   have hm2:b.H0*((i+1:Nat):Int)=b.H0*(i:Int)+b.H0:=by rw[Int.natCast_add,Int.mul_add];simp
   refine Sat.bifT (Aa ω q) ?_
   rcases hw with⟨he,him,hj',hb1,hb2,hb3⟩ | ⟨he,hb1,hs,k',hk',hr⟩
   ·subst he him
    obtain⟨hv,hf⟩:=hl.drop i hi;have hent:=EC hb hj'.img;have hp:=hj'.img.lp;refine Sat.bifF (show((0:Int) !=0)=H from rfl) (Sat.bindE (Ahs hb ω s (m:=Ap t.m.G0 (l.take i)) ω ω (l.getD i ⟨0,0,0,0,0⟩) (bud:=bu) ω) ?_)
    have w:=Dg (n:=i) ω
    have hnd:=Bga hb hj' hv hf;rcases Av0 hb hj' hv hf hb2 with⟨c1,s',c2,c3⟩ | ⟨c1,s',c2,c3,c4⟩
    ·rw[c2]
     refine Sat.ret ⟨k-1,ω,i+1,t.wr (An (Ap t.m.G0 (l.take i)) (l.getD i ⟨0,0,0,0,0⟩)) s' (bu-TN b s (Ap t.m.G0 (l.take i)) (l.getD i ⟨0,0,0,0,0⟩)) 0,by first | (rw[← w];rfl) | rw[← w],ω,_,s',_,0,rfl,.inl ⟨rfl,(Amm hi).symm,c3,?_,ω,ω⟩⟩
     rw[hlt1];rw[hlt]at hb1;omega
    ·rw[c2]
     refine Sat.ret ⟨k-1,ω,i+1,t.wr (Ap t.m.G0 (l.take i)) s' 0 8,by first | (rw[← w];rfl) | rw[← w],ω,_,s',0,8,rfl,.inr ⟨rfl,?_,c3,i,ω,?_⟩⟩
     ·rw[hlt1]
      rw[hlt]at hb1;omega
     ·rw[c4,List.take_take,c6_ ω]
   ·subst he
    refine Sat.bifT (show((8:Int) !=0)=A from rfl) (Sat.ret ⟨t.wr im s bu 8,.inr rfl,im,s,bu,8,rfl,.inr ⟨rfl,?_,hs,k',ω,?_⟩⟩)
    ·rw[hlt]at hb1
     omega
    ·rw[hr,List.take_take,c6_ ω]
  ·have q:¬(i:Int)<(l.length:Int):=C_ q
   rw[b2_ ω]at hw
   exact hw
 ·obtain⟨t',h1 | h1,h2⟩:=hy
  ·subst h1;exact Sat.ret ⟨t',.inr rfl,h2⟩
  ·subst h1;exact Sat.ret ⟨t',.inl rfl,h2⟩
end
end Go.Ovl
namespace Go.Ovl
open Go Go.Ab
variable{L:List Int}{i:Nat}{n:Int}
structure Contacts where
 C0:Int
 Up:Bool
 Q3:Bool
 Q5:Bool
 Y3:Bool
def Contacts.get(c:Contacts)(i:Int):Bool:=
 if i=32 then c.Up else if i=33 then c.Q3 else if i=34 then c.Q5 else if i=35 then c.Y3 else decide (0≤i∧i<32)&&CJ c.C0 i.toNat
def Contacts.set(c:Contacts)(i:Int)(on:Bool):Contacts:=
 if i=32 then { c with Up:=on }else if i=33 then { c with Q3:=on }else if i=34 then { c with Q5:=on }else if i=35 then { c with Y3:=on }
 else if 0≤i∧i<32 then { c with C0:=Wj c.C0 i.toNat on }else c
def Contacts.wf(c:Contacts):Prop:=0≤c.C0∧c.C0<4294967296
def Contacts.tup(c:Contacts):Int×Bool×Bool×Bool×Bool×Unit:=(c.C0,c.Up,c.Q3,c.Q5,c.Y3,())
def Contacts.set_wf{c:Contacts}(h:c.wf)(i:Int)(on:Bool):(c.set i on).wf:=by
 unfold Contacts.set
 repeat(split;exact h)
 split
 ·exact Asp _ _ _
 ·exact h
def Ar9{i:Int}(h:0≤i)(h2:i<32):i.toNat<32:=ω
def Sh(c:Contacts)(hc:c.wf)(i:Int):Kv c.C0 c.Up c.Q3 c.Q5 c.Y3 i=O ((c.get i,()),()):=by
 unfold Kv Contacts.get;by_cases h32:i=32
 ·simp[h32]
 by_cases h33:i=33
 ·simp[h33]
 by_cases h34:i=34
 ·simp[h34]
 by_cases h35:i=35
 ·simp[h35]
 simp only[h32,h33,h34,h35,e7_,Aq h32,Aq h33,Aq h34,Aq h35,c_];by_cases h0:0≤i
 ·by_cases h1:i<32
  ·simp only[JJ]
   rw[Azf hc (Ar9 h0 h1)];simp[h0,h1]
  ·simp[h0,h1]
 ·simp[h0]
def Zi(c:Contacts)(i:Int)(on:Bool):MU c.C0 c.Up c.Q3 c.Q5 c.Y3 i on=O (((),()),((c.set i on).tup,())):=by
 unfold MU Contacts.set;by_cases h32:i=32
 ·simp[h32,Contacts.tup]
 by_cases h33:i=33
 ·simp[h33,Contacts.tup]
 by_cases h34:i=34
 ·simp[h34,Contacts.tup]
 by_cases h35:i=35
 ·simp[h35,Contacts.tup]
 simp only[h32,h33,h34,h35,e7_,Aq h32,Aq h33,Aq h34,Aq h35,c_];by_cases h0:0≤i
 ·have e0:decide (0≤i)=A:=by simpa using h0
  by_cases h1:i<32
  ·have e1:decide (i<32)=A:=by simpa using h1
   simp only[e0,e1,J,C,JJ];rw[Avy _ (Ar9 h0 h1),Bn0 _ (Ar9 h0 h1),Ayb,if_pos ⟨h0,h1⟩];cases on<;>rfl
  ·have e1:decide (i<32)=H:=by simpa using h1
   simp only[e0,e1,J,c_,C];rw[if_neg ω];rfl
 ·have e0:decide (0≤i)=H:=by simpa using h0
  simp only[e0,c_,C];rw[if_neg ω];rfl
structure Deb where
 c:Contacts
 k:List Int
def Deb.no:Deb:=⟨⟨0,H,H,H,H⟩,aA 36 0⟩
def Deb.tup(s:Deb):Int×Bool×Bool×Bool×Bool×Int×Int×Int×Int×Int×Int×Int×Int×Int×Int×Int×Int×Int×Int×Int×Int×Int×Int×Int×Int×Int×Int×Int×Int×Int×Int×Int×Int×Int×Int×Int×Int×Int×Int×Int×Int×Unit:=(s.c.C0,s.c.Up,s.c.Q3,s.c.Q5,s.c.Y3,s.k.getD 0 0,s.k.getD 1 0,s.k.getD 2 0,s.k.getD 3 0,s.k.getD 4 0,s.k.getD 5 0,s.k.getD 6 0,s.k.getD 7 0,s.k.getD 8 0,s.k.getD 9 0,s.k.getD 10 0,s.k.getD 11 0,s.k.getD 12 0,s.k.getD 13 0,s.k.getD 14 0,s.k.getD 15 0,s.k.getD 16 0,s.k.getD 17 0,s.k.getD 18 0,s.k.getD 19 0,s.k.getD 20 0,s.k.getD 21 0,s.k.getD 22 0,s.k.getD 23 0,s.k.getD 24 0,s.k.getD 25 0,s.k.getD 26 0,s.k.getD 27 0,s.k.getD 28 0,s.k.getD 29 0,s.k.getD 30 0,s.k.getD 31 0,s.k.getD 32 0,s.k.getD 33 0,s.k.getD 34 0,s.k.getD 35 0,())
def Deb.cnt(s:Deb):Int×Int×Int×Int×Int×Int×Int×Int×Int×Int×Int×Int×Int×Int×Int×Int×Int×Int×Int×Int×Int×Int×Int×Int×Int×Int×Int×Int×Int×Int×Int×Int×Int×Int×Int×Int×Unit:=(s.k.getD 0 0,s.k.getD 1 0,s.k.getD 2 0,s.k.getD 3 0,s.k.getD 4 0,s.k.getD 5 0,s.k.getD 6 0,s.k.getD 7 0,s.k.getD 8 0,s.k.getD 9 0,s.k.getD 10 0,s.k.getD 11 0,s.k.getD 12 0,s.k.getD 13 0,s.k.getD 14 0,s.k.getD 15 0,s.k.getD 16 0,s.k.getD 17 0,s.k.getD 18 0,s.k.getD 19 0,s.k.getD 20 0,s.k.getD 21 0,s.k.getD 22 0,s.k.getD 23 0,s.k.getD 24 0,s.k.getD 25 0,s.k.getD 26 0,s.k.getD 27 0,s.k.getD 28 0,s.k.getD 29 0,s.k.getD 30 0,s.k.getD 31 0,s.k.getD 32 0,s.k.getD 33 0,s.k.getD 34 0,s.k.getD 35 0,())
def Deb.at(n:Int)(r:Contacts)(i:Nat)(s:Deb):Deb:=
 if r.get i=s.c.get i then⟨s.c,s.k.set i 0⟩else if s.k.getD i 0+1=n then⟨s.c.set i (r.get i),s.k.set i 0⟩else⟨s.c,s.k.set i (s.k.getD i 0+1)⟩
def Deb.step(n:Int)(s:Deb)(r:Contacts):Deb:=Bw (Deb.at n r) 36 0 s
structure Deb.wf(s:Deb):Prop where
 c:s.c.wf
 len:s.k.length=36
 lo:∀j,j<36→0≤s.k.getD j 0
 hi:∀j,j<36→s.k.getD j 0<1000
def Deb.is(n:Int)(s:Deb):Prop:=1≤n∧n≤16∧∀j,j<36→0≤s.k.getD j 0∧s.k.getD j 0<n
def UO(h:L.length=36):[L.getD 0 0,L.getD 1 0,L.getD 2 0,L.getD 3 0,L.getD 4 0,L.getD 5 0,L.getD 6 0,L.getD 7 0,L.getD 8 0,L.getD 9 0,L.getD 10 0,L.getD 11 0,L.getD 12 0,L.getD 13 0,L.getD 14 0,L.getD 15 0,L.getD 16 0,L.getD 17 0,L.getD 18 0,L.getD 19 0,L.getD 20 0,L.getD 21 0,L.getD 22 0,L.getD 23 0,L.getD 24 0,L.getD 25 0,L.getD 26 0,L.getD 27 0,L.getD 28 0,L.getD 29 0,L.getD 30 0,L.getD 31 0,L.getD 32 0,L.getD 33 0,L.getD 34 0,L.getD 35 0]=L:=by
 have e:[L.getD 0 0,L.getD 1 0,L.getD 2 0,L.getD 3 0,L.getD 4 0,L.getD 5 0,L.getD 6 0,L.getD 7 0,L.getD 8 0,L.getD 9 0,L.getD 10 0,L.getD 11 0,L.getD 12 0,L.getD 13 0,L.getD 14 0,L.getD 15 0,L.getD 16 0,L.getD 17 0,L.getD 18 0,L.getD 19 0,L.getD 20 0,L.getD 21 0,L.getD 22 0,L.getD 23 0,L.getD 24 0,L.getD 25 0,L.getD 26 0,L.getD 27 0,L.getD 28 0,L.getD 29 0,L.getD 30 0,L.getD 31 0,L.getD 32 0,L.getD 33 0,L.getD 34 0,L.getD 35 0]=(List.range 36).map (λq=>L.getD q 0):=rfl
 rw[e];apply List.ext_getElem
 ·simp[h]
 ·intro j h1 h2
  simp[h2]
def ZJ(h:i<L.length)(q:Nat)(v:Int):(bif Nat.beq i q then v else L.getD q 0)=(L.set i v).getD q 0:=by
 rw[BL];by_cases e:i=q
 ·subst e;simp[h]
 ·simp[e]
def Ap6{s:Deb}(h:s.wf)(hs:s.is n){r:Contacts}(hi:i<36):(s.at n r i).wf∧(s.at n r i).is n:=by
 have hset:∀(v:Int) (j:Nat),(s.k.set i v).getD j 0=if j=i then v else s.k.getD j 0:=by
  intro v j;rw[← ZJ (by rw[h.len];exact hi),BL]
  by_cases e:i=j
  ·simp[e]
  ·simp[e,e8_ e]
 have hn:=hs.1;have hn2:=hs.2.1
 have key:∀v:Int,0≤v→v<n→∀j,j<36→0≤(s.k.set i v).getD j 0∧(s.k.set i v).getD j 0<n:=by
  intro v h1 h2 j hj;rw[hset];by_cases e:j=i
  ·rw[if_pos e];exact⟨h1,h2⟩
  ·rw[if_neg e];exact hs.2.2 j hj
 have fin:∀(c:Contacts) (v:Int),c.wf→0≤v→v<n→Deb.wf ⟨c,s.k.set i v⟩∧Deb.is n ⟨c,s.k.set i v⟩:=by
  intro c v hc h1 h2;have hk:=key v h1 h2;exact⟨⟨hc,by simp[h.len],λj hj=>(hk j hj).1,λj hj=>by have:=(hk j hj).2;simp only at this⊢;omega⟩,hn,hn2,hk⟩
 have hki:=hs.2.2 i hi;unfold Deb.at;split
 ·exact fin _ _ h.c ω ω
 ·split
  ·exact fin _ _ (Contacts.set_wf h.c _ _) ω ω
  ·exact fin _ _ h.c ω ω
def Af8{n:Int}{r:Contacts}:∀(m i:Nat) (s:Deb),i+m≤36→s.wf→s.is n→(Bw (Deb.at n r) m i s).wf∧(Bw (Deb.at n r) m i s).is n
 |0,_,_,_,h,hs=>⟨h,hs⟩
 |m+1,i,s,hi,h,hs=>Af8 m (i+1) (s.at n r i) ω (Ap6 h hs ω).1 (Ap6 h hs ω).2
def Bgj{s:Deb}(h:s.wf)(hs:s.is n)(r:Contacts):(s.step n r).wf∧(s.step n r).is n:=Af8 36 0 s ω h hs
def Ahn{s:Deb}(h:s.wf)(hs:s.is n){r:Contacts}(hr:r.wf)(b:Deb)(hi:i<36):
  HA n (i:Int) s.c.C0 s.c.Up s.c.Q3 s.c.Q5 s.c.Y3 (s.k.getD 0 0) (s.k.getD 1 0) (s.k.getD 2 0) (s.k.getD 3 0) (s.k.getD 4 0) (s.k.getD 5 0) (s.k.getD 6 0) (s.k.getD 7 0) (s.k.getD 8 0) (s.k.getD 9 0) (s.k.getD 10 0) (s.k.getD 11 0) (s.k.getD 12 0) (s.k.getD 13 0) (s.k.getD 14 0) (s.k.getD 15 0) (s.k.getD 16 0) (s.k.getD 17 0) (s.k.getD 18 0) (s.k.getD 19 0) (s.k.getD 20 0) (s.k.getD 21 0) (s.k.getD 22 0) (s.k.getD 23 0) (s.k.getD 24 0) (s.k.getD 25 0) (s.k.getD 26 0) (s.k.getD 27 0) (s.k.getD 28 0) (s.k.getD 29 0) (s.k.getD 30 0) (s.k.getD 31 0) (s.k.getD 32 0) (s.k.getD 33 0) (s.k.getD 34 0) (s.k.getD 35 0) r.C0 r.Up r.Q3 r.Q5 r.Y3 b.c.C0 b.c.Up b.c.Q3 b.c.Q5 b.c.Y3 (b.k.getD 0 0) (b.k.getD 1 0) (b.k.getD 2 0) (b.k.getD 3 0) (b.k.getD 4 0) (b.k.getD 5 0) (b.k.getD 6 0) (b.k.getD 7 0) (b.k.getD 8 0) (b.k.getD 9 0) (b.k.getD 10 0) (b.k.getD 11 0) (b.k.getD 12 0) (b.k.getD 13 0) (b.k.getD 14 0) (b.k.getD 15 0) (b.k.getD 16 0) (b.k.getD 17 0) (b.k.getD 18 0) (b.k.getD 19 0) (b.k.getD 20 0) (b.k.getD 21 0) (b.k.getD 22 0) (b.k.getD 23 0) (b.k.getD 24 0) (b.k.getD 25 0) (b.k.getD 26 0) (b.k.getD 27 0) (b.k.getD 28 0) (b.k.getD 29 0) (b.k.getD 30 0) (b.k.getD 31 0) (b.k.getD 32 0) (b.k.getD 33 0) (b.k.getD 34 0) (b.k.getD 35 0)=
   O (.inl ((n,(),(),(),((i+1:Nat):Int),()),((s.at n r i).tup,r.tup,b.tup,()))):=by
 unfold HA;have e0:decide ((i:Int)<36)=A:=by simp;omega
 have ib:inB (i:Int) 36=A:=Aa ω ω
 have tn:Int.toNat (i:Int)=i:=ω
 have w:aC.wrap ((i:Int)+1)=((i+1:Nat):Int):=by rw[Ac ω ω];omega
 have hki:=h.lo i hi;have hki':=h.hi i hi;have wk:aC.wrap (s.k.getD i 0+1)=s.k.getD i 0+1:=Ac ω ω
 have hl:i<s.k.length:=by rw[h.len];exact hi
 have hl2:∀v:Int,i<(s.k.set i v).length:=λv=>by simp;exact hl
 have hgi:∀v:Int,(s.k.set i v).getD i 0=v:=λv=>by simp[hl]
 rw[e0,J,Sh r hr (i:Int),Sh s.c h.c (i:Int)];simp only[C,ib,J,tn,ZJ hl,w,UO h.len,wk];unfold Deb.at;by_cases hq:r.get i=s.c.get i
 ·simp only[hq,l_,J,g3_]
  rfl
 ·simp only[Aq hq,c_,hq,e7_]
  have l36:∀v:Int,(s.k.set i v).length=36:=λv=>by simp[h.len]
  try simp only[UO (l36 _),hgi,ZJ (hl2 _),List.set_set]
  by_cases hn:s.k.getD i 0+1=n
  ·have:(s.k.getD i 0+1==n)=A:=by simpa using hn
   simp only[this,J,g3_,hn,l_];rw[Zi s.c (i:Int) (r.get i)];rfl
  ·simp only[Aq hn,c_,hn,e7_]
   rfl
end Go.Ovl
