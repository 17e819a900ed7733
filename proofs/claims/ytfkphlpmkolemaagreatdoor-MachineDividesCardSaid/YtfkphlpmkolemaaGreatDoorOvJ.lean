/- Layer 24: a round of the dispatcher by the program: places, writing, registering. -/
import Derived.Test.YtfkphlpmkolemaaGreatDoorOvI
import Derived.Test.YtfkphlpmkolemaaGreatDoorOvD
import Derived.Test.YtfkphlpmkolemaaGreatDoorOvB
import Derived.Test.YtfkphlpmkolemaaGreatDoorOvH
import Derived.Test.YtfkphlpmkolemaaGreatDoorOvF
import Derived.Test.YtfkphlpmkolemaaGreatDoorOvG
import Derived.Test.YtfkphlpmkolemaaGreatDoorDefs4
import Derived.Test.YtfkphlpmkolemaaGreatDoorOvC
set_option linter.all false
open Bool renaming true->A,false->H
open Go.Ovl renaming Entry->B,As->I,noE->N,Bldg->R,Record->S,Img->U
open Go renaming a_->C,d_->J
open Option renaming some->O
open List renaming replicate->aA
open Go.Ovl.Record renaming mk->aB
open Go.IntKind renaming i64->aC
namespace Go.Ovl
open Go Go.Ab
set_option maxRecDepth 100000
variable{b:R}{e:B}{l:List S}{xs:List Int}{m:U}{vs:List View}{r:S}{k i:Nat}
def Asy(e:B)(F D:Int):It e.E0 e.J0 e.S0 e.B1 e.S1 F D=O ((!Bi e (I F D),()),((F,()),(D,()),())):=by
 unfold It Bi I;by_cases h1:F<e.E0
 ·rw[b_ h1,e_ (ω:¬e.E0<F),Ar (ω:¬e.E0=F)];rfl
 ·rw[e_ h1]
  by_cases h2:e.E0=F
  ·rw[h2,e_ (C_ F),k_]
   by_cases h3:e.J0<D
   ·rw[b_ h3,e_ (ω:¬D≤e.J0)];rfl
   ·rw[e_ h3,b_ (ω:D≤e.J0)];rfl
  ·rw[Ar h2,b_ (ω:e.E0<F)];rfl
def Adk(E:List B)(hl:E.length≤100000)(F D:Int):∀(k i:Nat),i+k=E.length→Bz (λx=>Aq x.1.1 x.1.2.2.1 x.1.2.2.2.1 x.2.1.1 x.2.2.1.1) (k+1) ((E,(),(E.length:Int),(i:Int),()),((F,()),(D,()),()))=O (bif Nat.blt (i+Az (I F D) (E.drop i)) E.length then .inr ((((i+Az (I F D) (E.drop i):Nat):Int),()),((F,()),(D,()),()))else .inl ((),((F,()),(D,()),())))
 |0,i,hi=>by
  obtain rfl:i=E.length:=ω
  refine Au ?_;show Aq E (E.length:Int) (E.length:Int) F D=_;unfold Aq;rw[e_ (C_ (E.length:Int)),a4_]
  have:Nat.blt (E.length+Az (I F D) []) E.length=H:=by
   cases h:Nat.blt (E.length+Az (I F D) []) E.length with
   |false=>rfl
   |true=>have:=Eq.mp g3_ h;omega
  rw[this];rfl
 |k+1,i,hi=>by
  have hi':i<E.length:=ω
  have hs:Aq E (E.length:Int) (i:Int) F D=O (bif Bi (E.getD i N) (I F D)then .inl ((E,(),(E.length:Int),((i+1:Nat):Int),()),((F,()),(D,()),()))else .inr (.inr (((i:Int),()),((F,()),(D,()),())))):=by
   unfold Aq;rw[show Entry.mk 0 0 0 0 H=N from rfl]
   simp only[b_ (ω:(i:Int)<(E.length:Int)),Aa (ω:(0:Int)≤(i:Int)) (ω:(i:Int)<(E.length:Int)),J,j_,Asy,C,CD hi' (show E.length≤AA by unfold AA;omega)]
   cases Bi (E.getD i N) (I F D)<;>rfl
  have hd:=Bw N hi';rw[hd];simp only[Az];cases hq:Bi (E.getD i N) (I F D)with
  |true=>
   rw[hq]at hs;refine(Bk hs).trans ?_;rw[Adk E hl F D k (i+1) ω,J,show i+1+Az (I F D) (E.drop (i+1))=i+(Az (I F D) (E.drop (i+1))+1)by omega]
  |false=>
   rw[hq]at hs;refine(Au hs).trans ?_;rw[c_,b8_,show Nat.blt i E.length=A from Eq.mpr g3_ hi'];rfl
def Zh(m:U)(hl:m.A0.length≤100000)(F D:Int):JY m.D0 m.L0 m.H0 m.A0 F D=O ((((Az (I F D) m.A0:Nat):Int),FG (I F D) m.A0,()),()):=by
 have h:=Adk m.A0 hl F D m.A0.length 0 ω
 have h':=Ah h ω
 rw[R_,p_]at h';have hle:=SA (I F D) m.A0;unfold JY By FG;rw[show AQ ((m.A0,(),(m.A0.length:Int),(0:Int),()),((F,()),(D,()),()))=_ from h']
 cases hq:Nat.blt (Az (I F D) m.A0) m.A0.length with
 |false=>
  have hge:m.A0.length≤Az (I F D) m.A0:=by
   rcases f5_ (Az (I F D) m.A0) m.A0.length with g | g
   ·rw[Eq.mpr g3_ g]at hq;cases hq
   ·exact g
  rw[show Az (I F D) m.A0=m.A0.length by omega]
  rfl
 |true=>
  have hlt:Az (I F D) m.A0<m.A0.length:=Eq.mp g3_ hq;simp only[J,C];rw[e_ (ω:¬((Az (I F D) m.A0:Nat):Int)<0)]
  simp only[c_,Aa (ω:(0:Int)≤((Az (I F D) m.A0:Nat):Int)) (ω:((Az (I F D) m.A0:Nat):Int)<(m.A0.length:Int)),J,j_]
  rw[show Entry.mk 0 0 0 0 H=N from rfl]
  unfold isC;show Option.bind (bif(m.A0.getD (Az (I F D) m.A0) N).E0==F then _ else _) _=O ((_,A&&((m.A0.getD (Az (I F D) m.A0) N).E0==F&&(m.A0.getD (Az (I F D) m.A0) N).J0==D),()),());cases(m.A0.getD (Az (I F D) m.A0) N).E0==F<;>rfl
structure Rnd where
 recs:List Record
 img:Img
 xs:List Int
 lan:Lan
 ref:Int×Int
def Rnd.tup(r:Rnd):List S×List Int×List Bool×List Bool×List B×List Int×List Calls×List Bool×Int×Int×Int×Int×Unit:=(r.recs,r.img.D0,r.img.L0,r.img.H0,r.img.A0,r.xs,r.lan.lit,r.lan.gong,r.lan.cl.1,r.lan.cl.2,r.ref.1,r.ref.2,())
def Rnd.tupB(b:R)(r:Rnd):List S×List Int×List Bool×List Bool×List B×List Int×List Calls×List Bool×Int×Int×Int×Int×Int×Int×Int×Int×Nat×Nat×Nat×List Car×Unit:=(r.recs,r.img.D0,r.img.L0,r.img.H0,r.img.A0,r.xs,r.lan.lit,r.lan.gong,r.lan.cl.1,r.lan.cl.2,r.ref.1,r.ref.2,b.C0,b.F0,b.I0,b.N0,b.K0,b.M0,b.O0,b.B0,())
structure Rnd.ok(b:Bldg)(r:Rnd):Prop where
 img:ImgOK b r.img
 len:r.xs.length=r.img.A0.length
def HQ:S:=aB 0 0 0 0 0
def Uy(r:S)(X:Rnd):Rnd:=⟨X.recs++[r],AD X.img r,xsV X.img.A0 X.xs r,X.lan,X.ref⟩
def wrL(l:List S)(X:Rnd):Rnd:=⟨X.recs++l,AK X.img l,xsL X.img X.xs l,X.lan,X.ref⟩
def WN(r:S)(l:List S)(X:Rnd):wrL (r::l) X=wrL l (Uy r X):=by
 unfold wrL Uy;simp only[L_,d0_];rfl
def WK{X:Rnd}(h:X.ok b)(hv:Ay b r=A):(Uy r X).ok b:=⟨(QP h.img hv).1,Bhu h.img.so h.len r⟩
def Am4{b:R}:∀{l:List S}{X:Rnd},X.ok b→(∀r∈l,Ay b r=A)→(wrL l X).ok b
 |[],X,h,_=>by
  unfold wrL;rw[a8_];exact⟨h.img,h.len⟩
 |r::t,X,h,hv=>by
  rw[WN];exact Am4 (WK h (hv r (M_ ..))) λx hx=>hv x (O_ _ hx)
def Bkw(h:k<xs.length)(hl:xs.length≤100000):Eu xs (k:Int) (IntKind.wrap aC ((k:Int)+1))=O ((xs.take k++xs.drop (k+1),()),()):=by
 unfold Eu Aku;rw[Ac ω ω,b_ (ω:(0:Int)≤(k:Int)),b_ (ω:(k:Int)<(k:Int)+1),b_ (ω:(k:Int)+1≤(xs.length:Int)),show Int.toNat ((k:Int)+1)=k+1 by omega,j_]
 rfl
def Bmu(h:k≤xs.length)(hl:xs.length≤100000):Ev xs (k:Int) [0]=O ((xs.take k++[0]++xs.drop k,()),()):=by
 unfold Ev Aan;rw[b_ (ω:(0:Int)≤(k:Int)),b_ (ω:(k:Int)≤(xs.length:Int)),At (show xs.length+[(0:Int)].length≤2147483648 by show xs.length+1≤_;omega),j_]
 rfl
section
variable{b:R}(hb:b.small)(hcode:b.code=0)
include hb hcode
omit hcode in
theorem EB(hm:ImgOK b m):m.A0.length≤14:=by
 have:=Bgx hb hm
 have:=hb.hi
 omega
theorem At2{X:Rnd}(hX:X.ok b)(hl:l.length≤100000)(hi:i<l.length)(hv:Ay b (l.getD i HQ)=A)(hr:X.recs.length≤1000000):BP l (l.length:Int) (i:Int) X.recs X.img.D0 X.img.L0 X.img.H0 X.img.A0 X.xs X.lan.lit X.lan.gong X.lan.cl.1 X.lan.cl.2 X.ref.1 X.ref.2 b.C0 b.F0 b.I0 b.N0 b.K0 b.M0 b.O0 b.B0=O (.inl (((),l,(l.length:Int),((i+1:Nat):Int),()),((Uy (l.getD i HQ) X).tupB b,()))):=by
 have hcc:=Ak hcode;have he:=EB hb hX.img;have hlp:=hX.img.lp;have hxl:=hX.len;have hpl:=SA (I (l.getD i HQ).E0 (l.getD i HQ).J0) X.img.A0;have ha:=XQ hb ω X.img ω ω (l.getD i HQ)
 have ha':Xl b X.img (l.getD i HQ)=(((),0,()),((AD X.img (l.getD i HQ)).tup,())):=by
  unfold Xl;rw[Img.ok_iff.2 hX.img,hv];rfl
 rw[ha']at ha;unfold BP;rw[show aB 0 0 0 0 0=HQ from rfl]
 simp only[b_ (ω:(i:Int)<(l.length:Int)),Aa (ω:(0:Int)≤(i:Int)) (ω:(i:Int)<(l.length:Int)),J,j_]
 rw[Zh X.img ω]
 simp only[C];generalize l.getD i HQ=r at*;have hbl:Nat.ble (X.recs.length+[aB r.U0 r.E0 r.J0 r.S0 r.E2].length) 2147483648=A:=At (by show X.recs.length+1≤_;omega)
 have hw:=CD hi (show l.length≤AA by unfold AA;omega)
 have hxs:∀q,xsV X.img.A0 X.xs r=q→(Uy r X).tupB b=(X.recs++[aB r.U0 r.E0 r.J0 r.S0 r.E2],(AD X.img r).D0,(AD X.img r).L0,(AD X.img r).H0,(AD X.img r).A0,q,X.lan.lit,X.lan.gong,X.lan.cl.1,X.lan.cl.2,X.ref.1,X.ref.2,b.C0,b.F0,b.I0,b.N0,b.K0,b.M0,b.O0,b.B0,()):=λq h=>by rw[← h];rfl
 by_cases k2:r.U0=2
 ·have k1:(r.U0==1)=H:=Ar ω
  have k2':(r.U0==2)=A:=by rw[k2];rfl
  cases hf:FG (I r.E0 r.J0) X.img.A0 with
  |true=>
   rw[hxs _ (show _=X.xs.take (Az (I r.E0 r.J0) X.img.A0)++X.xs.drop (Az (I r.E0 r.J0) X.img.A0+1)by unfold xsV;rw[k2',hf];rfl)]
   have hp:=(Apn hf).1;simp only[k2',J,C,Bkw (ω:Az (I r.E0 r.J0) X.img.A0<X.xs.length) ω]
   rw[ha];simp only[C,k_,J,hbl,hw];rfl
  |false=>
   rw[hxs X.xs (by unfold xsV;rw[hf,k1,b7_,a3_];rfl)]
   simp only[k2',k1,J,c_,C];rw[ha];simp only[C,k_,J,hbl,hw];rfl
 ·have k2':(r.U0==2)=H:=Ar k2
  by_cases k1:r.U0=1
  ·have k1':(r.U0==1)=A:=by rw[k1];rfl
   cases hf:FG (I r.E0 r.J0) X.img.A0 with
   |false=>
    rw[hxs _ (show _=X.xs.take (Az (I r.E0 r.J0) X.img.A0)++[0]++X.xs.drop (Az (I r.E0 r.J0) X.img.A0)by unfold xsV;rw[k2',k1',hf];rfl)]
    simp only[k2',k1',J,c_,C,b6_,Bmu (ω:Az (I r.E0 r.J0) X.img.A0≤X.xs.length) ω]
    rw[ha];simp only[C,k_,J,hbl,hw];rfl
   |true=>
    rw[hxs X.xs (by unfold xsV;rw[hf,k2',a3_,m_,b7_];rfl)]
    simp only[k2',k1',J,c_,C,m_];rw[ha];simp only[C,k_,J,hbl,hw];rfl
  ·have k1':(r.U0==1)=H:=Ar k1
   rw[hxs X.xs (by unfold xsV;rw[k2',k1',a3_,a3_];rfl)]
   simp only[k2',k1',c_,C];rw[ha];simp only[C,k_,J,hbl,hw];rfl
theorem Abi{X:Rnd}(hX:X.ok b)(hl:l.length≤100000)(hv:∀r∈l,Ay b r=A)(hr:X.recs.length≤100000):Bx l X.recs X.img.D0 X.img.L0 X.img.H0 X.img.A0 X.xs X.lan.lit X.lan.gong X.lan.cl.1 X.lan.cl.2 X.ref.1 X.ref.2 b.C0 b.F0 b.I0 b.N0 b.K0 b.M0 b.O0 b.B0=O ((),((wrL l X).tupB b,())):=by
 have key:∀(k i:Nat) (Y:Rnd),i+k=l.length→Y.ok b→Y.recs.length≤100000+i→Bz (λx=>letI d:=x.2.1.2.2.2;letI f:=d.2.2;letI a:=f.2.2.2;letI g:=a.2.2;letI c:=g.2.2.2;letI e:=c.2.2;BP x.1.2.1 x.1.2.2.1 x.1.2.2.2.1 x.2.1.1 x.2.1.2.1 x.2.1.2.2.1 d.1 d.2.1 f.1 f.2.1 f.2.2.1 a.1 a.2.1 g.1 g.2.1 g.2.2.1 c.1 c.2.1 e.1 e.2.1 e.2.2.1 e.2.2.2.1 e.2.2.2.2.1) (k+1) (((),l,(l.length:Int),(i:Int),()),(Y.tupB b,()))=O ((),((wrL (l.drop i) Y).tupB b,())):=by
  intro k
  induction k with
  |zero=>
   intro i Y hi _ _;obtain rfl:i=l.length:=ω
   refine Au ?_;show BP l (l.length:Int) (l.length:Int) Y.recs Y.img.D0 Y.img.L0 Y.img.H0 Y.img.A0 Y.xs Y.lan.lit Y.lan.gong Y.lan.cl.1 Y.lan.cl.2 Y.ref.1 Y.ref.2 b.C0 b.F0 b.I0 b.N0 b.K0 b.M0 b.O0 b.B0=_;unfold BP;rw[e_ (C_ (l.length:Int)),a4_];unfold wrL;rw[a8_];rfl
  |succ k ih=>
   intro i Y hi hY hr;have hi':i<l.length:=ω
   have hv':=hv _ (CB HQ hi');rw[Bw HQ hi',WN];exact(Bk (At2 hb hcode hY hl hi' hv' ω)).trans (ih (i+1) _ ω (WK hY hv') (by show(Y.recs++[_]).length≤_;rw[h_,H_];omega))
 have h:=key l.length 0 X ω hX ω
 rw[R_]at h;have h':Co (((),l,(l.length:Int),(0:Int),()),(X.tupB b,()))=_:=Ah h ω
 unfold Bx;rw[show Co (((),l,(l.length:Int),(0:Int),()),((X.recs,X.img.D0,X.img.L0,X.img.H0,X.img.A0,X.xs,X.lan.lit,X.lan.gong,X.lan.cl.1,X.lan.cl.2,X.ref.1,X.ref.2,b.C0,b.F0,b.I0,b.N0,b.K0,b.M0,b.O0,b.B0,()),()))=_ from h']
 rfl
end
def XB{F D:Int}{e:B}(he:isC F D e=A)(T:List B):∀(P:List B) (i:Nat),(∀p∈P,isC F D p=H)→DD F D (P++e::T) i=((i+P.length:Nat):Int)
 |[],i,_=>by simp only[a0_,DD,he,J,d1_,b8_]
 |p::P,i,h=>by
  simp only[List.cons_append,DD,h p (M_ ..),c_];rw[XB he T P (i+1) λx hx=>h x (O_ _ hx),x_]
  congr 1;omega
def Atn{P T:List B}(h:Bp (P++e::T)):∀p∈P,isC e.E0 e.J0 p=H:=by
 intro p hp;rw[Ea]at h;have h2:=(List.pairwise_append.1 h).2.2 p hp e (M_ ..);rw[Hl]at h2;unfold isC;simp only[Bool.and_eq_false_iff,beq_eq_false_iff_ne];omega
def Ak7(P T:List B)(e:B):(P++e::T).getD P.length N=e:=by
 simp[l_]
def VJ(e:B):isC e.E0 e.J0 e=A:=by unfold isC;simp
def Anb{P T:List B}(hE:m.A0=P++e::T)(hs:∀p∈P,isC e.E0 e.J0 p=H)(n c:Int):AD m ⟨7,e.E0,e.J0,c,n⟩=m.put (P++Tz e n c::T):=by
 unfold AD;have hf:DD e.E0 e.J0 m.A0 0=(P.length:Int):=by rw[hE,XB (VJ e) T P 0 hs,p_]
 simp only[hf];rw[Ar (ω:¬(P.length:Int)=-1),hE,j_,Ak7,SB,SB]
 rfl
def Agh{P T:List B}(hE:m.A0=P++e::T)(hs:∀p∈P,isC e.E0 e.J0 p=H)(c:Int):AD m ⟨3,e.E0,e.J0,c,0⟩=m.put (P++Ady e c::T):=by
 unfold AD;have hf:DD e.E0 e.J0 m.A0 0=(P.length:Int):=by rw[hE,XB (VJ e) T P 0 hs,p_]
 simp only[hf];rw[Ar (ω:¬(P.length:Int)=-1),hE,j_,Ak7,SB,SB]
 rfl
def Img.put_put(m:U)(l l':List B):(m.put l).put l'=m.put l':=rfl
def Img.put_self(m:U):m.put m.A0=m:=rfl
def Aqr{P T:List B}{n:B}(hE:m.A0=P++e::T)(hs:∀p∈P,isC e.E0 e.J0 p=H)(hF:n.E0=e.E0)(hD:n.J0=e.J0):AK m (MF e n)=m.put (P++n::T):=by
 obtain⟨nF,nD,nC,nM,nV⟩:=n;obtain⟨eF,eD,eC,eM,eV⟩:=e;simp only at hF hD;subst hF hD;unfold MF;simp only;have mv:∀c:Int,Tz ⟨nF,nD,eC,eM,eV⟩ nM c=⟨nF,nD,eC,nM,c==1⟩:=λ_=>rfl
 have cv:((bif nV then(1:Int)else 0)==1)=nV:=by cases nV<;>rfl
 cases hp:(eM !=nM||!(eV==nV))with
 |true=>
  have h1:=Anb hE hs nM (bif nV then 1 else 0);rw[mv,cv]at h1;cases hq:eC !=nC with
  |true=>
   have h2:=Agh (m:=m.put (P++⟨nF,nD,eC,nM,nV⟩::T)) (P:=P) (T:=T) (e:=⟨nF,nD,eC,nM,nV⟩) rfl hs nC;simp only[J,List.cons_append,a0_,AK];rw[h1,h2];rfl
  |false=>
   have:eC=nC:=by simpa[bne]using hq
   subst this;simp only[J,c_,a8_,AK];exact h1
 |false=>
  simp only[Bool.or_eq_false_iff,Bool.not_eq_false',bne_eq_false_iff_eq,Z_]at hp;obtain⟨rfl,rfl⟩:=hp;cases hq:eC !=nC with
  |true=>
   have h2:=Agh hE hs nC;simp only[J,c_,a0_,AK];exact h2
  |false=>
   have:eC=nC:=by simpa[bne]using hq
   subst this;simp only[c_,a8_,AK];rw[← hE];exact(Img.put_self m).symm
def As6{n:B}(hcode:b.code=0)(hcall:Aj b n.E0 n.J0=A)(hc:-2≤n.S0∧n.S0<(b.B0.length:Int))(hm:0≤n.B1∧n.B1≤255):∀r∈MF e n,Ay b r=A:=by
 intro r hr;unfold MF at hr;rcases q_.1 hr with h | h
 ·cases hp:(e.B1 !=n.B1||!(e.S1==n.S1))with
  |false=>rw[hp]at h;cases h
  |true=>
   rw[hp]at h;rw[Q_.1 h];unfold Ay;rw[hcode,hcall,Am.2 hm];cases n.S1<;>rfl
 ·cases hp:e.S0 !=n.S0 with
  |false=>rw[hp]at h;cases h
  |true=>
   rw[hp]at h;rw[Q_.1 h];unfold Ay;rw[hcode,hcall,Am.2 ⟨hc.1,show n.S0≤(b.B0.length:Int)-1 by omega⟩]
   rfl
noncomputable def UH(b:R)(vs:List View):List B→List Int→List B
 |e::t,x::xs=>ET b vs e x::UH b vs t xs
 |_,_=>[]
def Akt(b:R)(vs:List View):∀(l:List B) (xs:List Int),xs.length=l.length→(UH b vs l xs).length=l.length
 |[],_,_=>by simp[UH]
 |_::_,[],h=>by simp at h
 |e::t,x::xs,h=>by simp only[UH,x_,Akt b vs t xs (by simpa using h)]
def Arr(hc:b.B0.length≤100)(hm:0≤e.B1∧e.B1≤255)(x:Int):0≤(ET b vs e x).B1∧(ET b vs e x).B1≤255:=by
 unfold ET;cases e.S0==-2 with
 |true=>exact hm
 |false=>
  cases e.S0==-1 with
  |true=>exact hm
  |false=>
   cases(Ax vs e.S0).U3 with
   |true=>
    by_cases g:(b.B0.length:Int)<e.B1
    ·rw[b_ g];exact hm
    ·rw[e_ g];exact⟨by show 0≤e.B1+1;omega,by show e.B1+1≤255;omega⟩
   |false=>
    by_cases g:e.B1≤(b.B0.length:Int)
    ·rw[b_ g]
     cases e.S1 with
     |true=>exact hm
     |false=>
      cases MV b vs e x != -1 with
      |true=>exact⟨by show 0≤e.B1+1;omega,by show e.B1+1≤255;omega⟩
      |false=>exact hm
    ·rw[e_ g,b7_];exact hm
def WC{b:R}(hc:b.B0.length≤100){vs:List View}(hlen:(vs.length:Int)=(b.B0.length:Int)):∀(T:List B) (xs:List Int) (P:List B) (m:U),xs.length=T.length→ImgOK b m→m.A0=P++T→AK m (Gu b vs T xs)=m.put (P++UH b vs T xs)∧(∀r∈Gu b vs T xs,Ay b r=A)∧ImgOK b (m.put (P++UH b vs T xs))
 |[],xs,P,m,_,hm,hE=>by
  have:UH b vs [] xs=[]:=by simp[UH]
  have h2:Gu b vs [] xs=[]:=by simp[Gu]
  rw[this,h2,← hE];exact⟨rfl,(λ_ h=>by cases h),hm⟩
 |_::_,[],_,_,h,_,_=>by simp at h
 |e::T,x::xs,P,m,h,hm,hE=>by
  have hent:=FC.1 (hm.en e (by rw[hE];simp))
  have hso:=hm.so;rw[hE]at hso;have hs:=Atn hso;obtain⟨c1,c2⟩:=Axx b vs e x;have hin:=Ao9 b (vs:=vs) (e:=e) ω x
  have hmv:=Arr hc (vs:=vs) hent.2.2 x;have hval:=As6 (b:=b) (e:=e) (n:=ET b vs e x) hm.code (by rw[c1,c2];exact hent.1) ω hmv
  have hap:=Aqr hE hs c1 c2
  have hok:ImgOK b (m.put (P++ET b vs e x::T)):=by
   rw[← hap];exact(TQ hm hval).1
  obtain⟨g1,g2,g3⟩:=WC hc hlen T xs (P++[ET b vs e x]) (m.put (P++ET b vs e x::T)) (by simpa using h) hok (by simp[Img.put])
  simp only[Gu,UH]
  have app:∀(rs qs:List S) (m:U),AK m (rs++qs)=AK (AK m rs) qs:=λrs=>by
   induction rs with
   |nil=>intro _ _;rfl
   |cons r rs ih=>intro qs m;exact ih qs (AD m r)
  rw[app,hap,g1,Img.put_put];rw[Img.put_put]at g3;simp only[L_,d0_]at g3⊢
  exact⟨trivial,(λr hr=>by
   rcases q_.1 hr with hr | hr
   ·exact hval r hr
   ·exact g2 r hr),g3⟩
def Zw{l:List B}(hl:l.length≤100000):RD l=O (((),()),(((ofC l (0,0)).1,(ofC l (0,0)).2,()),())):=by
 have e2:∀(k i:Nat) (c:Int×Int),i+k=l.length→Bz (λx=>Jv x.1.2.2.1 x.1.2.2.2.1 x.1.2.2.2.2.1 x.2.1.1 x.2.1.2.1 x.2.2.1.1 x.2.2.1.2.1) (k+1) (((),(),l,(l.length:Int),(i:Int),()),(((0:Int),(0:Int),()),(c.1,c.2,()),()))=O (((),(),()),(((0:Int),(0:Int),()),((ofC (l.drop i) c).1,(ofC (l.drop i) c).2,()),())):=by
  intro k
  induction k with
  |zero=>
   intro i c hi;obtain rfl:i=l.length:=ω
   refine Au ?_;show Jv l (l.length:Int) (l.length:Int) 0 0 c.1 c.2=_;unfold Jv;rw[e_ (C_ (l.length:Int)),a4_];rfl
  |succ k ih=>
   intro i c hi;have hi':i<l.length:=ω
   rw[Bw N hi'];refine(Bk (x':=(((),(),l,(l.length:Int),((i+1:Nat):Int),()),(((0:Int),(0:Int),()),((FQ c (JL (l.getD i N).E0 (l.getD i N).J0)).1,(FQ c (JL (l.getD i N).E0 (l.getD i N).J0)).2,()),()))) ?_).trans (ih (i+1) _ ω)
   show Jv l (l.length:Int) (i:Int) 0 0 c.1 c.2=_;unfold Jv;rw[show Entry.mk 0 0 0 0 H=N from rfl]
   have hu:=Gl c (JL (l.getD i N).E0 (l.getD i N).J0);simp only[b_ (ω:(i:Int)<(l.length:Int)),Aa (ω:(0:Int)≤(i:Int)) (ω:(i:Int)<(l.length:Int)),J,j_,JI,C,hu,CD hi' (show l.length≤AA by unfold AA;omega)]
 have h:=e2 l.length 0 (0,0) ω
 rw[R_]at h;have h':OA (((),(),l,(l.length:Int),(0:Int),()),(((0:Int),(0:Int),()),((0:Int),(0:Int),()),()))=_:=Ah h ω
 unfold RD;rw[h'];rfl
def Aml(e:B):S:=aB 1 e.E0 e.J0 0 0
def LC(b:R)(e:B)(X:Rnd):Rnd:=bif QE b X.img then Uy (Aml e) X else⟨X.recs,X.img,X.xs,X.lan,FQ X.ref (JL e.E0 e.J0)⟩
def LX(b:R):List B→Rnd→Rnd
 |[],X=>X
 |e::t,X=>LX b t (LC b e X)
def Bp7(r:S)(X:Rnd):wrL [r] X=Uy r X:=by
 rw[WN];unfold wrL;rw[a8_];rfl
def Yj(h:Aj b e.E0 e.J0=A):Ay b (Aml e)=A:=by
 have hc:(b.code==0)=A:=by
  unfold Aj at h;rw[f_]at h;exact h.1
 unfold Ay Aml;rw[hc];simp only[k_,J,h,S_]
def Amw{X:Rnd}(h:X.ok b)(he:Aj b e.E0 e.J0=A):(LC b e X).ok b:=by
 unfold LC;cases QE b X.img with
 |true=>exact WK h (Yj he)
 |false=>exact⟨h.img,h.len⟩
def Ap2{b:R}:∀{l:List B}{X:Rnd},X.ok b→(∀e∈l,Aj b e.E0 e.J0=A)→(LX b l X).ok b
 |[],_,h,_=>h
 |e::t,X,h,hv=>by
  show(LX b t (LC b e X)).ok b;exact Ap2 (Amw h (hv e (M_ ..))) λx hx=>hv x (O_ _ hx)
def Ad3(b:R)(e:B)(X:Rnd):(LC b e X).recs.length≤X.recs.length+1:=by
 unfold LC;cases QE b X.img with
 |true=>show(X.recs++[_]).length≤_;rw[h_,H_];exact z_ _
 |false=>exact Nat.le_succ _
def Ahs(b:R):∀(l:List B) (X:Rnd),(LX b l X).recs.length≤X.recs.length+l.length
 |[],_=>z_ _
 |e::t,X=>by
  have h1:=Ahs b t (LC b e X);have h2:=Ad3 b e X;show(LX b t (LC b e X)).recs.length≤_;rw[x_];omega
def Ahj(c:Int×Int):(Hi c).length≤64:=by
 have h:∀k i:Nat,((List.range' i k).flatMap (MT c)).length≤2*k:=by
  intro k
  induction k with
  |zero=>intro i;exact z_ _
  |succ k ih=>
   intro i;rw[e8_,a1_,h_]
   have:=ih (i+1)
   have:=Acf c i
   omega
 exact h 32 0
def Ayr{c:Int×Int}(h:e∈Hi c):(0≤e.E0∧e.E0<32)∧(e.J0=1∨e.J0=2)∧BQ c e.E0.toNat e.J0=A:=by
 obtain⟨f,h1,h2,h3,h4⟩:=mem_range.1 (c1_.2 ⟨e,h,rfl⟩);simp only[HD]at h2 h3 h4;refine⟨ω,h3,?_⟩
 rw[h2,j_];exact h4
def Acx(b:R)(m:U)(press:Int×Int):Int×Int:=Cm (EA press (Bv b)) (ofC m.A0 (0,0))
def Wi(hb:b.small)(hcode:b.code=0){press old:Int×Int}(h:e∈Hi (Cm (EA press (Bv b)) old)):Aj b e.E0 e.J0=A:=by
 obtain⟨h1,h2,h3⟩:=Ayr h;rw[Ab0 _ _ ω,TT,f_,f_,Wo hb hcode ω h2,f4_ h1.1]at h3
 exact h3.1.2
section
variable{b:R}(hb:b.small)(hcode:b.code=0)
include hb hcode
theorem Ai0{es:List B}(hl:es.length≤1000)(hv:∀e∈es,Aj b e.E0 e.J0=A):∀(k i:Nat) (Y:Rnd),i+k=es.length→Y.ok b→Y.recs.length≤1000+i→Bz (λx=>letI d:=x.2.1.2.2.2;letI f:=d.2.2;letI a:=f.2.2.2;letI g:=a.2.2;letI c:=g.2.2.2;letI e:=c.2.2;Bt x.1.2.1 x.1.2.2.1 x.1.2.2.2.1 x.2.1.1 x.2.1.2.1 x.2.1.2.2.1 d.1 d.2.1 f.1 f.2.1 f.2.2.1 a.1 a.2.1 g.1 g.2.1 g.2.2.1 c.1 c.2.1 e.1 e.2.1 e.2.2.1 e.2.2.2.1 e.2.2.2.2.1) (k+1) (((),es,(es.length:Int),(i:Int),()),(Y.tupB b,()))=O ((),((LX b (es.drop i) Y).tupB b,())):=by
 intro k
 induction k with
 |zero=>
  intro i Y hi _ _;obtain rfl:i=es.length:=ω
  refine Au ?_;show Bt es (es.length:Int) (es.length:Int) Y.recs Y.img.D0 Y.img.L0 Y.img.H0 Y.img.A0 Y.xs Y.lan.lit Y.lan.gong Y.lan.cl.1 Y.lan.cl.2 Y.ref.1 Y.ref.2 b.C0 b.F0 b.I0 b.N0 b.K0 b.M0 b.O0 b.B0=_;unfold Bt;rw[e_ (C_ (es.length:Int)),a4_];rfl
 |succ k ih=>
  intro i Y hi hY hr;have hi':i<es.length:=ω
  have hv':=hv _ (CB N hi');have hcc:=Ak hcode;have he:=EB hb hY.img;have hlp:=hY.img.lp;rw[Bw N hi'];refine(Bk (x':=(((),es,(es.length:Int),((i+1:Nat):Int),()),((LC b (es.getD i N) Y).tupB b,()))) ?_).trans (ih (i+1) _ ω (Amw hY hv') (by have:=Ad3 b (es.getD i N) Y;omega))
  show Bt es (es.length:Int) (i:Int) Y.recs Y.img.D0 Y.img.L0 Y.img.H0 Y.img.A0 Y.xs Y.lan.lit Y.lan.gong Y.lan.cl.1 Y.lan.cl.2 Y.ref.1 Y.ref.2 b.C0 b.F0 b.I0 b.N0 b.K0 b.M0 b.O0 b.B0=_;unfold Bt LC;rw[show Entry.mk 0 0 0 0 H=N from rfl,ZB hb Y.img ω ω ω]
  simp only[b_ (ω:(i:Int)<(es.length:Int)),Aa (ω:(0:Int)≤(i:Int)) (ω:(i:Int)<(es.length:Int)),J,j_,C,CD hi' (show es.length≤AA by unfold AA;omega)]
  cases QE b Y.img with
  |true=>
   have hw:=Abi hb hcode hY (l:=[Aml (es.getD i N)]) (by show 1≤100000;omega) (by
    intro r hr;rw[Q_.1 hr];exact Yj hv') ω
   rw[Bp7]at hw;unfold Aml at hw;simp only[J,hw,C];rfl
  |false=>
   have hu:=Gl Y.ref (JL (es.getD i N).E0 (es.getD i N).J0);simp only[c_,JI,C,hu];rfl
theorem Aok(press old:Int×Int){X:Rnd}(hX:X.ok b)(hr:X.recs.length≤1000):CR press.1 press.2 old.1 old.2 X.recs X.img.D0 X.img.L0 X.img.H0 X.img.A0 X.xs X.lan.lit X.lan.gong X.lan.cl.1 X.lan.cl.2 X.ref.1 X.ref.2 b.C0 b.F0 b.I0 b.N0 b.K0 b.M0 b.O0 b.B0=O ((),((LX b (Hi (Cm (EA press (Bv b)) old)) X).tupB b,())):=by
 have hl:=Ahj (Cm (EA press (Bv b)) old);have h:=Ai0 hb hcode (es:=Hi (Cm (EA press (Bv b)) old)) ω (λe he=>Wi hb hcode he) _ 0 X (p_ _) hX ω
 rw[R_]at h;have h':CG (((),Hi (Cm (EA press (Bv b)) old),((Hi (Cm (EA press (Bv b)) old)).length:Int),(0:Int),()),(X.tupB b,()))=_:=Ah h ω
 unfold CR;rw[Km hb hcode];simp only[C];rw[KM press (Bv b)];simp only[C];rw[PT (EA press (Bv b)) old];simp only[C];rw[WR];simp only[C];unfold Rnd.tupB at h';rw[h'];rfl
end
def Aii(n:Int):GI n=O ((!inR 0 1000000 n,()),()):=by
 unfold GI inR;by_cases g:n<0
 ·rw[b_ g,e_ (ω:¬0≤n)];rfl
 ·rw[e_ g,b_ (ω:0≤n)]
  by_cases g':1000000<n
  ·rw[b_ g',e_ (ω:¬n≤1000000)];rfl
  ·rw[e_ g',b_ (ω:n≤1000000)];rfl
def Akl(hl:xs.length≤maxLen):Bh xs=O ((!Pp xs,()),()):=by
 have hm:maxLen≤9223372036854775807:=by decide
 have key:∀(k i:Nat),i+k=xs.length→∃y,Bz (λx=>AG x.1.1 x.1.2.2.1 x.1.2.2.2.1) (k+1) ((xs,(),(xs.length:Int),(i:Int),()),())=O y∧(match y with | .inl _=>(xs.drop i).all (inR 0 1000000)=A | .inr z=>0≤z.1.1∧(xs.drop i).all (inR 0 1000000)=H):=by
  intro k
  induction k with
  |zero=>
   intro i hi;refine⟨.inl ((),()),Au ?_,?_⟩
   ·show AG xs (xs.length:Int) (i:Int)=_
    unfold AG;rw[show decide ((i:Int)<(xs.length:Int))=H by simp;omega];rfl
   ·rw[show i=xs.length by omega,a4_];rfl
  |succ k ih=>
   intro i hi;have hi':i<xs.length:=ω
   have hs:AG xs (xs.length:Int) (i:Int)=O (bif inR 0 1000000 (xs.getD i 0)then .inl ((xs,(),(xs.length:Int),((i+1:Nat):Int),()),())else .inr (.inr (((i:Int),()),()))):=by
    unfold AG;have w:aC.wrap ((i:Int)+1)=((i+1:Nat):Int):=by rw[Ac ω ω];omega
    rw[show decide ((i:Int)<(xs.length:Int))=A by simp;omega,Aa ω ω,Aii,w]
    simp only[J,j_,C];cases inR 0 1000000 (xs.getD i 0)<;>rfl
   rw[Bw (0:Int) hi',X_];cases hq:inR 0 1000000 (xs.getD i 0)with
   |true=>
    rw[hq]at hs;obtain⟨y,h1,h2⟩:=ih (i+1) ω
    exact⟨y,(Bk hs).trans h1,by rw[o_];exact h2⟩
   |false=>
    rw[hq]at hs;exact⟨_,Au hs,by show(0:Int)≤(i:Int)∧_;exact⟨ω,rfl⟩⟩
 obtain⟨y,h1,h2⟩:=key xs.length 0 ω
 have h1':Bl ((xs,(),(xs.length:Int),(0:Int),()),())=O y:=Ah h1 ω
 rw[R_]at h2;unfold Bh Cd Pp;rw[h1'];cases y with
 |inl z=>simp only at h2;rw[h2];rfl
 |inr z=>
  simp only at h2;rw[h2.2];simp only[C];rw[b_ h2.1];rfl
def VU(m:U)(hl:xs.length≤maxLen):HK m.D0 m.L0 m.H0 m.A0 xs=O (((((xs.length:Int)==(m.A0.length:Int))&&Pp xs),()),()):=by
 unfold HK;rw[Akl hl];cases((xs.length:Int)==(m.A0.length:Int))with
 |false=>rfl
 |true=>simp only[J,C,o_,Bool.not_not]
def CK{α:Type}(l:List α)(h:l.length≤100000):Pl l=O ((l,()),()):=by
 unfold Pl;rw[At (ω:l.length≤2147483648)];rfl
def Bfz(n:Nat):Lan:=⟨aA n noP,aA n H,(0,0)⟩
def DH(b:R)(m:U)(xs:List Int)(vs:List View)(ps:List Calls)(press:Int×Int)(good:Bool):Rnd:=
 bif good then LX b (Hi (Acx b m press)) (wrL (IL b vs m.A0) ⟨[],m,xs,He b vs ps,(0,0)⟩)else⟨[],m,xs,Bfz vs.length,(0,0)⟩
noncomputable def Ajp(b:R)(m:U)(xs:List Int)(vs:List View)(ps:List Calls)(press:Int×Int)(good:Bool):List S×List Int×Int×Unit:=Nw b (DH b m xs vs ps press good).img (DH b m xs vs ps press good).xs vs
noncomputable def Sm(b:R)(m:U)(xs:List Int)(vs:List View)(ps:List Calls)(press:Int×Int)(good:Bool):Rnd:={ wrL (Ajp b m xs vs ps press good).1 (DH b m xs vs ps press good)with xs:=(Ajp b m xs vs ps press good).2.1 }
def UT(hcode:b.code=0)(vs:List View):∀{l:List B},(∀e∈l,Aj b e.E0 e.J0=A)→∀r∈IL b vs l,Ay b r=A∧r.U0=2:=λh r hr=>by
 obtain⟨e,he,hr⟩:=c6_.1 hr;have hc:=h e he;cases hs:Uw b vs e.E0 e.J0 with
 |false=>rw[hs]at hr;cases hr
 |true=>
  rw[hs]at hr;rw[Q_.1 hr];refine⟨?_,rfl⟩;unfold Ay;rw[hcode];simp only[show((2:Int)==1)=H from rfl,c_,k_,J,hc,S_]
def An8(hcode:b.code=0)(hm:ImgOK b m)(xs:List Int):∀r∈(Nw b m xs vs).1,Ay b r=A:=by
 have hcc:=Ak hcode;unfold Nw;rw[Img.ok_iff.2 hm];cases hq:((xs.length:Int)==(m.A0.length:Int))with
 |false=>exact λr hr=>by cases hr
 |true=>
  cases hv:((vs.length:Int)==(b.B0.length:Int))with
  |false=>exact λr hr=>by cases hr
  |true=>
   cases Pp xs with
   |false=>exact λr hr=>by cases hr
   |true=>
    have h1:(xs.length:Int)=(m.A0.length:Int):=by simpa using hq
    have h2:(vs.length:Int)=(b.B0.length:Int):=by simpa using hv
    exact(WC (b:=b) ω h2 m.A0 xs [] m ω hm rfl).2.1
section
variable{b:R}(hb:b.small)(hcode:b.code=0){m:U}(hm:ImgOK b m){xs:List Int}(hx:xs.length=m.A0.length){vs:List View}(ps:List Calls)(press:Int×Int)(good:Bool)
include hb hcode hm hx
theorem Am0:(DH b m xs vs ps press good).ok b∧(DH b m xs vs ps press good).recs.length≤100:=by
 have he:=EB hb hm;have hX:∀L:Lan,Rnd.ok b ⟨[],m,xs,L,(0,0)⟩:=λL=>⟨hm,hx⟩
 unfold DH;cases good with
 |false=>exact⟨hX _,a5_ _⟩
 |true=>
  have hv:=UT hcode vs (l:=m.A0) λe he=>(FC.1 (hm.en e he)).1
  refine⟨Ap2 (Am4 (hX _) λr hr=>(hv r hr).1) λe he=>Wi hb hcode he,?_⟩
  have h1:=Ahs b (Hi (Acx b m press)) (wrL (IL b vs m.A0) ⟨[],m,xs,He b vs ps,(0,0)⟩);have h2:=Ahj (Acx b m press);have h3:=Yo b vs m.A0;have h4:(wrL (IL b vs m.A0) ⟨[],m,xs,He b vs ps,(0,0)⟩).recs.length=(IL b vs m.A0).length:=rfl;show(LX b (Hi (Acx b m press)) (wrL (IL b vs m.A0) ⟨[],m,xs,He b vs ps,(0,0)⟩)).recs.length≤100;omega
theorem Aac(hexp:Pp xs=A)(hv:okViews vs)(hvl:vs.length=b.B0.length)(hp:ps.length=b.B0.length):Li b.C0 b.F0 b.I0 b.N0 b.K0 b.M0 b.O0 b.B0 m.D0 m.L0 m.H0 m.A0 xs vs ps press.1 press.2 good=O (((),0,()),((Sm b m xs vs ps press good).tup,())):=by
 have hcc:=Ak hcode;have he:=EB hb hm;have hlp:=hm.lp;have hlf:=hm.lf;have hll:=hm.ll;have hmx:100000≤maxLen:=by decide
 have hX:∀L:Lan,Rnd.ok b ⟨[],m,xs,L,(0,0)⟩:=λL=>⟨hm,hx⟩
 obtain⟨hok,hrl⟩:=Am0 hb hcode hm hx (vs:=vs) ps press good;have hlight:=Aav hb hcode vs ps ω
 unfold Adb at hlight;rw[show((vs.length:Int)==(b.B0.length:Int))=A by rw[hvl];exact k_ _,show((ps.length:Int)==(b.B0.length:Int))=A by rw[hp];exact k_ _]at hlight
 simp only[S_,J]at hlight;have hXl:=EB hb hok.img;have hXp:=hok.img.lp;have hXx:=hok.len;have hplan:=Aem hb hv ω (DH b m xs vs ps press good).img ω ω (DH b m xs vs ps press good).xs ω
 have hpl:=(Ay7 b (DH b m xs vs ps press good).img (DH b m xs vs ps press good).xs vs).1;have hwr:=Abi hb hcode hok (l:=(Nw b (DH b m xs vs ps press good).img (DH b m xs vs ps press good).xs vs).1) ω (An8 hcode hok.img _) ω
 unfold Li;rw[hlight];simp only[C,N_,c_,Lan.tup];rw[CL hb m ω ω,Img.ok_iff.2 hm]
 simp only[C,m_,c_];rw[VU m ω,show((xs.length:Int)==(m.A0.length:Int))=A by rw[hx];exact k_ _,hexp]
 unfold MH BH Bb Bj Oe;rw[CK m.D0 ω,CK m.L0 ω,CK m.H0 ω,CK m.A0 ω,CK xs ω]
 simp only[C,S_,m_,c_,b_ (ω:(0:Int)≤(vs.length:Int)),b_ (d7_ (vs.length:Int)),b_ (ω:(vs.length:Int)≤2147483648),J,j_]
 cases good with
 |false=>
  simp only[c_,C];rw[show HU b.C0 b.F0 b.I0 b.N0 b.K0 b.M0 b.O0 b.B0 m.D0 m.L0 m.H0 m.A0 xs vs=_ from hplan]
  simp only[C];rw[show Bx (Nw b (DH b m xs vs ps press H).img (DH b m xs vs ps press H).xs vs).1 [] m.D0 m.L0 m.H0 m.A0 xs (aA vs.length (Calls.mk 0 0)) (aA vs.length H) 0 0 0 0 b.C0 b.F0 b.I0 b.N0 b.K0 b.M0 b.O0 b.B0=_ from hwr]
  rfl
 |true=>
  have hsv:=UT hcode vs (l:=m.A0) λe he=>(FC.1 (hm.en e he)).1
  have hsl:=Yo b vs m.A0;have hw1:=Abi hb hcode (hX (He b vs ps)) (l:=IL b vs m.A0) ω (λr hr=>(hsv r hr).1) (a5_ _)
  have hrg:=Aok hb hcode press (ofC m.A0 (0,0)) (X:=wrL (IL b vs m.A0) ⟨[],m,xs,He b vs ps,(0,0)⟩) (Am4 (hX _) λr hr=>(hsv r hr).1) (by show([]++IL b vs m.A0).length≤_;rw[a0_];omega)
  unfold GJ;simp only[J];rw[Aaw hb hcode hm ω vs ω]
  simp only[C];simp only at hw1;rw[hw1];simp only[C,Zw (ω:m.A0.length≤100000),Rnd.tupB]
  rw[hrg];simp only[C,Rnd.tupB];rw[show HU b.C0 b.F0 b.I0 b.N0 b.K0 b.M0 b.O0 b.B0 (LX b (Hi (Cm (EA press (Bv b)) (ofC m.A0 (0,0)))) (wrL (IL b vs m.A0) ⟨[],m,xs,He b vs ps,(0,0)⟩)).img.D0 (LX b (Hi (Cm (EA press (Bv b)) (ofC m.A0 (0,0)))) (wrL (IL b vs m.A0) ⟨[],m,xs,He b vs ps,(0,0)⟩)).img.L0 (LX b (Hi (Cm (EA press (Bv b)) (ofC m.A0 (0,0)))) (wrL (IL b vs m.A0) ⟨[],m,xs,He b vs ps,(0,0)⟩)).img.H0 (LX b (Hi (Cm (EA press (Bv b)) (ofC m.A0 (0,0)))) (wrL (IL b vs m.A0) ⟨[],m,xs,He b vs ps,(0,0)⟩)).img.A0 (LX b (Hi (Cm (EA press (Bv b)) (ofC m.A0 (0,0)))) (wrL (IL b vs m.A0) ⟨[],m,xs,He b vs ps,(0,0)⟩)).xs vs=_ from hplan]
  simp only[C];refine Eq.trans (e9_ (λo=>Option.bind o _) (show _=O ((),((wrL (Nw b (DH b m xs vs ps press A).img (DH b m xs vs ps press A).xs vs).1 (DH b m xs vs ps press A)).tupB b,()))from hwr)) ?_
  rfl
end
structure Pk where
 m:Mch
 budget:Int
 e:Int
 legacy:List Bool
 shows:List Calls
 reset:List Bool
 out:Outputs
def Pk.ap{α:Type}(f:Int→Int→Int→Int→Nat→Nat→Nat→List Car→List Int→List Bool→List Bool→List B→ByteArray→ByteArray→Int→List Debounced→List Belief→List NewCar→List Loaded→List Int→List Calls→Int→Int→Int→Int→Int→Int→Int→List CarInput→Bool→Int→Int→List Bool→List Calls→List Bool→Int→Int→Int→Int→Bool→Bool→Int→List CarOutput→α)(b:R)(x:Inp)(g:Bool)(t:Pk):α:=
 f b.C0 b.F0 b.I0 b.N0 b.K0 b.M0 b.O0 b.B0 t.m.G0.D0 t.m.G0.L0 t.m.G0.H0 t.m.G0.A0 t.m.Y0.h0 t.m.Y0.h1 t.m.Y0.sel t.m.J1 t.m.W0 t.m.B0 t.m.M2 t.m.Z1 t.m.V3 t.m.L3 t.m.Q2 t.m.G2 x.press.1 x.press.2 x.kind x.car x.cars g t.budget t.e t.legacy t.shows t.reset t.out.O5 t.out.Y4 t.out.E3 t.out.X2 t.out.V5 t.out.M0 t.out.U5 t.out.B0
def Pk.tup(b:R)(x:Inp)(g:Bool)(t:Pk):=(b.C0,b.F0,b.I0,b.N0,b.K0,b.M0,b.O0,b.B0,t.m.G0.D0,t.m.G0.L0,t.m.G0.H0,t.m.G0.A0,t.m.Y0.h0,t.m.Y0.h1,t.m.Y0.sel,t.m.J1,t.m.W0,t.m.B0,t.m.M2,t.m.Z1,t.m.V3,t.m.L3,t.m.Q2,t.m.G2,x.press.1,x.press.2,x.kind,x.car,x.cars,g,t.budget,t.e,t.legacy,t.shows,t.reset,t.out.O5,t.out.Y4,t.out.E3,t.out.X2,t.out.V5,t.out.M0,t.out.U5,t.out.B0,())
def Pk.wr(t:Pk)(im:U)(s:Sto)(bu e:Int):Pk:={ t with m:={ t.m with G0:=im,Y0:=s },budget:=bu,e:=e }
def goodL(b:R):U→List S→Prop
 |_,[]=>True
 |m,r::l=>Ay b r=A∧Jd b m r=H∧goodL b (AD m r) l
def goodL.app:∀{l:List S}{m:U}{k:List S},goodL b m l→goodL b (AK m l) k→goodL b m (l++k)
 |[],_,_,_,h=>h
 |_::_,_,_,⟨h1,h2,h3⟩,h=>⟨h1,h2,h3.app h⟩
def Wm{b:R}:∀{l:List S}(m:U),(∀r∈l,Ay b r=A∧r.U0≠1)→goodL b m l
 |[],_,_=>trivial
 |r::l,m,h=>by
  have h1:=h r (M_ ..);refine⟨h1.1,?_,Wm _ λx hx=>h x (O_ _ hx)⟩
  unfold Jd;rw[Ar h1.2];rfl
def goodL.drop:∀{l:List S}{m:U},goodL b m l→∀i,i<l.length→Ay b (l.getD i ⟨0,0,0,0,0⟩)=A∧Jd b (AK m (l.take i)) (l.getD i ⟨0,0,0,0,0⟩)=H
 |[],_,_,_,h=>absurd h (Nat.not_lt_zero _)
 |_::_,_,⟨h1,h2,_⟩,0,_=>⟨h1,h2⟩
 |_::_,_,⟨_,_,h3⟩,i+1,h=>h3.drop i (by rw[x_]at h;omega)
def Ana(h:i<l.length):AK m (l.take (i+1))=AD (AK m (l.take i)) (l.getD i ⟨0,0,0,0,0⟩):=by
 rw[List.take_succ,Ew,i_ h,l_,i_ h];rfl
def Wr(b:R)(t:Pk)(l:List S)(t':Pk):Prop:=∃im s bu e,t'=t.wr im s bu e∧((e=0∧im=AK t.m.G0 l∧Jst b s im∧t.budget-b.I0*(l.length:Int)≤bu∧0≤bu∧bu≤t.budget)∨(e=8∧t.budget<b.I0*(l.length:Int)∧s.ok b.I0∧∃k,k<l.length∧Ct b s=AK t.m.G0 (l.take k)))
section
variable{b:R}(hb:b.small){x:Inp}{g:Bool}
include hb
theorem Bhd{s:Sto}(hj:Jst b s m)(hv:Ay b r=A)(hf:Jd b m r=H):6≤Ul b s m r∧Ul b s m r≤b.I0:=by
 have h1:=Ag2 hj hv hf;have h2:=hj.fits;have h3:=Ak hj.img.code;unfold Ul;split<;>omega
theorem YZ{t:Pk}(hj:Jst b t.m.Y0 t.m.G0)(h0:0≤t.budget∧t.budget<9223372036854775808)(he:t.e=0)(hl:goodL b t.m.G0 l)(hn:l.length≤100000):Sat (t.ap (AU l) b x g) λy=>∃t',(y=.inl ((),(t'.tup b x g,()))∨y=.inr ((),(t'.tup b x g,())))∧Wr b t l t':=by
 have hcc:=Ak hj.img.code;have hroom:0≤b.I0:=by have:=hj.fits;omega
 unfold Pk.ap AU;refine Sat.bindS (Q:=λy=>∃t',(y=.inl ((),(t'.tup b x g,()))∨y=.inr ((),(t'.tup b x g,())))∧Wr b t l t') ?_ λy hy=>?_
 ·unfold Dd
  refine Sat.loop (λ(k:Nat) z=>∃(i:Nat) (t':Pk),z=(((),l,(l.length:Int),(i:Int),()),(t'.tup b x g,()))∧i+k=l.length∧Wr b t (l.take i) t') (λk z hz=>?_) l.length ⟨0,t,rfl,p_ _,t.m.G0,t.m.Y0,t.budget,t.e,rfl,.inl ⟨he,rfl,hj,by simp,h0.1,d7_ _⟩⟩ ω
  obtain⟨i,t',rfl,hk,im,s,bu,e,rfl,hw⟩:=hz;show Sat (Pk.ap (ES l (l.length:Int) (i:Int)) b x g (t.wr im s bu e)) _;unfold Pk.ap ES;refine Sat.bic (λq=>?_) λq=>Sat.ret ⟨t.wr im s bu e,.inl rfl,im,s,bu,e,rfl,?_⟩
  ·have q:(i:Int)<(l.length:Int):=n_ q
   have hi:i<l.length:=ω
   have hlt:(l.take i).length=i:=by rw[r_];omega
   have hlt1:(l.take (i+1)).length=i+1:=by rw[r_];omega
   have hm:b.I0*((i+1:Nat):Int)≤b.I0*(l.length:Int):=Int.mul_le_mul_of_nonneg_left ω hroom
   have hm2:b.I0*((i+1:Nat):Int)=b.I0*(i:Int)+b.I0:=by rw[Int.natCast_add,Int.mul_add];simp
   refine Sat.bifT (Aa ω q) ?_
   rcases hw with⟨he,him,hj',hb1,hb2,hb3⟩ | ⟨he,hb1,hs,k',hk',hr⟩
   ·subst he him
    obtain⟨hv,hf⟩:=hl.drop i hi;have hent:=EB hb hj'.img;have hp:=hj'.img.lp;refine Sat.bifF (show((0:Int) !=0)=H from rfl) (Sat.bindE (Aij hb ω s (m:=AK t.m.G0 (l.take i)) ω ω (l.getD i ⟨0,0,0,0,0⟩) (bud:=bu) ω) ?_)
    have w:=CN (n:=i) ω
    have hnd:=Bhd hb hj' hv hf;rcases Axe hb hj' hv hf hb2 with⟨c1,s',c2,c3⟩ | ⟨c1,s',c2,c3,c4⟩
    ·rw[c2]
     refine Sat.ret ⟨k-1,ω,i+1,t.wr (AD (AK t.m.G0 (l.take i)) (l.getD i ⟨0,0,0,0,0⟩)) s' (bu-Ul b s (AK t.m.G0 (l.take i)) (l.getD i ⟨0,0,0,0,0⟩)) 0,by first | (rw[← w];rfl) | rw[← w],ω,_,s',_,0,rfl,.inl ⟨rfl,(Ana hi).symm,c3,?_,ω,ω⟩⟩
     rw[hlt1];rw[hlt]at hb1;omega
    ·rw[c2]
     refine Sat.ret ⟨k-1,ω,i+1,t.wr (AK t.m.G0 (l.take i)) s' 0 8,by first | (rw[← w];rfl) | rw[← w],ω,_,s',0,8,rfl,.inr ⟨rfl,?_,c3,i,ω,?_⟩⟩
     ·rw[hlt1]
      rw[hlt]at hb1;omega
     ·rw[c4,List.take_take,c4_ ω]
   ·subst he
    refine Sat.bifT (show((8:Int) !=0)=A from rfl) (Sat.ret ⟨t.wr im s bu 8,.inr rfl,im,s,bu,8,rfl,.inr ⟨rfl,?_,hs,k',ω,?_⟩⟩)
    ·rw[hlt]at hb1
     omega
    ·rw[hr,List.take_take,c4_ ω]
  ·have q:¬(i:Int)<(l.length:Int):=D_ q
   rw[b2_ ω]at hw
   exact hw
 ·obtain⟨t',h1 | h1,h2⟩:=hy
  ·subst h1;exact Sat.ret ⟨t',.inr rfl,h2⟩
  ·subst h1;exact Sat.ret ⟨t',.inl rfl,h2⟩
end
end Go.Ovl
namespace Go.Ovl
open Go Go.Ab
variable{L:List Int}{i:Nat}{n:Int}
structure Contacts where
 C0:Int
 Up:Bool
 T3:Bool
 S5:Bool
 X4:Bool
def Contacts.get(c:Contacts)(i:Int):Bool:=
 if i=32 then c.Up else if i=33 then c.T3 else if i=34 then c.S5 else if i=35 then c.X4 else decide (0≤i∧i<32)&&DX c.C0 i.toNat
def Contacts.set(c:Contacts)(i:Int)(on:Bool):Contacts:=
 if i=32 then { c with Up:=on }else if i=33 then { c with T3:=on }else if i=34 then { c with S5:=on }else if i=35 then { c with X4:=on }
 else if 0≤i∧i<32 then { c with C0:=WI c.C0 i.toNat on }else c
def Contacts.wf(c:Contacts):Prop:=0≤c.C0∧c.C0<4294967296
def Contacts.tup(c:Contacts):Int×Bool×Bool×Bool×Bool×Unit:=(c.C0,c.Up,c.T3,c.S5,c.X4,())
def Contacts.set_wf{c:Contacts}(h:c.wf)(i:Int)(on:Bool):(c.set i on).wf:=by
 unfold Contacts.set
 repeat(split;exact h)
 split
 ·exact Atc _ _ _
 ·exact h
def Asw{i:Int}(h:0≤i)(h2:i<32):i.toNat<32:=ω
def SG(c:Contacts)(hc:c.wf)(i:Int):KB c.C0 c.Up c.T3 c.S5 c.X4 i=O ((c.get i,()),()):=by
 unfold KB Contacts.get;by_cases h32:i=32
 ·simp[h32]
 by_cases h33:i=33
 ·simp[h33]
 by_cases h34:i=34
 ·simp[h34]
 by_cases h35:i=35
 ·simp[h35]
 simp only[h32,h33,h34,h35,e7_,Ar h32,Ar h33,Ar h34,Ar h35,c_];by_cases h0:0≤i
 ·by_cases h1:i<32
  ·simp only[JP]
   rw[Bat hc (Asw h0 h1)];simp[h0,h1]
  ·simp[h0,h1]
 ·simp[h0]
def ZJ(c:Contacts)(i:Int)(on:Bool):MX c.C0 c.Up c.T3 c.S5 c.X4 i on=O (((),()),((c.set i on).tup,())):=by
 unfold MX Contacts.set;by_cases h32:i=32
 ·simp[h32,Contacts.tup]
 by_cases h33:i=33
 ·simp[h33,Contacts.tup]
 by_cases h34:i=34
 ·simp[h34,Contacts.tup]
 by_cases h35:i=35
 ·simp[h35,Contacts.tup]
 simp only[h32,h33,h34,h35,e7_,Ar h32,Ar h33,Ar h34,Ar h35,c_];by_cases h0:0≤i
 ·have e0:decide (0≤i)=A:=by simpa using h0
  by_cases h1:i<32
  ·have e1:decide (i<32)=A:=by simpa using h1
   simp only[e0,e1,J,C,JP];rw[Axc _ (Asw h0 h1),Bpt _ (Asw h0 h1),Azm,if_pos ⟨h0,h1⟩];cases on<;>rfl
  ·have e1:decide (i<32)=H:=by simpa using h1
   simp only[e0,e1,J,c_,C];rw[if_neg ω];rfl
 ·have e0:decide (0≤i)=H:=by simpa using h0
  simp only[e0,c_,C];rw[if_neg ω];rfl
structure Deb where
 c:Contacts
 k:List Int
def Deb.no:Deb:=⟨⟨0,H,H,H,H⟩,aA 36 0⟩
def Deb.tup(s:Deb):Int×Bool×Bool×Bool×Bool×Int×Int×Int×Int×Int×Int×Int×Int×Int×Int×Int×Int×Int×Int×Int×Int×Int×Int×Int×Int×Int×Int×Int×Int×Int×Int×Int×Int×Int×Int×Int×Int×Int×Int×Int×Int×Unit:=(s.c.C0,s.c.Up,s.c.T3,s.c.S5,s.c.X4,s.k.getD 0 0,s.k.getD 1 0,s.k.getD 2 0,s.k.getD 3 0,s.k.getD 4 0,s.k.getD 5 0,s.k.getD 6 0,s.k.getD 7 0,s.k.getD 8 0,s.k.getD 9 0,s.k.getD 10 0,s.k.getD 11 0,s.k.getD 12 0,s.k.getD 13 0,s.k.getD 14 0,s.k.getD 15 0,s.k.getD 16 0,s.k.getD 17 0,s.k.getD 18 0,s.k.getD 19 0,s.k.getD 20 0,s.k.getD 21 0,s.k.getD 22 0,s.k.getD 23 0,s.k.getD 24 0,s.k.getD 25 0,s.k.getD 26 0,s.k.getD 27 0,s.k.getD 28 0,s.k.getD 29 0,s.k.getD 30 0,s.k.getD 31 0,s.k.getD 32 0,s.k.getD 33 0,s.k.getD 34 0,s.k.getD 35 0,())
def Deb.cnt(s:Deb):Int×Int×Int×Int×Int×Int×Int×Int×Int×Int×Int×Int×Int×Int×Int×Int×Int×Int×Int×Int×Int×Int×Int×Int×Int×Int×Int×Int×Int×Int×Int×Int×Int×Int×Int×Int×Unit:=(s.k.getD 0 0,s.k.getD 1 0,s.k.getD 2 0,s.k.getD 3 0,s.k.getD 4 0,s.k.getD 5 0,s.k.getD 6 0,s.k.getD 7 0,s.k.getD 8 0,s.k.getD 9 0,s.k.getD 10 0,s.k.getD 11 0,s.k.getD 12 0,s.k.getD 13 0,s.k.getD 14 0,s.k.getD 15 0,s.k.getD 16 0,s.k.getD 17 0,s.k.getD 18 0,s.k.getD 19 0,s.k.getD 20 0,s.k.getD 21 0,s.k.getD 22 0,s.k.getD 23 0,s.k.getD 24 0,s.k.getD 25 0,s.k.getD 26 0,s.k.getD 27 0,s.k.getD 28 0,s.k.getD 29 0,s.k.getD 30 0,s.k.getD 31 0,s.k.getD 32 0,s.k.getD 33 0,s.k.getD 34 0,s.k.getD 35 0,())
def Deb.at(n:Int)(r:Contacts)(i:Nat)(s:Deb):Deb:=
 if r.get i=s.c.get i then⟨s.c,s.k.set i 0⟩else if s.k.getD i 0+1=n then⟨s.c.set i (r.get i),s.k.set i 0⟩else⟨s.c,s.k.set i (s.k.getD i 0+1)⟩
def Deb.step(n:Int)(s:Deb)(r:Contacts):Deb:=BC (Deb.at n r) 36 0 s
structure Deb.wf(s:Deb):Prop where
 c:s.c.wf
 len:s.k.length=36
 lo:∀j,j<36→0≤s.k.getD j 0
 hi:∀j,j<36→s.k.getD j 0<1000
def Deb.is(n:Int)(s:Deb):Prop:=1≤n∧n≤16∧∀j,j<36→0≤s.k.getD j 0∧s.k.getD j 0<n
def Vk(h:L.length=36):[L.getD 0 0,L.getD 1 0,L.getD 2 0,L.getD 3 0,L.getD 4 0,L.getD 5 0,L.getD 6 0,L.getD 7 0,L.getD 8 0,L.getD 9 0,L.getD 10 0,L.getD 11 0,L.getD 12 0,L.getD 13 0,L.getD 14 0,L.getD 15 0,L.getD 16 0,L.getD 17 0,L.getD 18 0,L.getD 19 0,L.getD 20 0,L.getD 21 0,L.getD 22 0,L.getD 23 0,L.getD 24 0,L.getD 25 0,L.getD 26 0,L.getD 27 0,L.getD 28 0,L.getD 29 0,L.getD 30 0,L.getD 31 0,L.getD 32 0,L.getD 33 0,L.getD 34 0,L.getD 35 0]=L:=by
 have e:[L.getD 0 0,L.getD 1 0,L.getD 2 0,L.getD 3 0,L.getD 4 0,L.getD 5 0,L.getD 6 0,L.getD 7 0,L.getD 8 0,L.getD 9 0,L.getD 10 0,L.getD 11 0,L.getD 12 0,L.getD 13 0,L.getD 14 0,L.getD 15 0,L.getD 16 0,L.getD 17 0,L.getD 18 0,L.getD 19 0,L.getD 20 0,L.getD 21 0,L.getD 22 0,L.getD 23 0,L.getD 24 0,L.getD 25 0,L.getD 26 0,L.getD 27 0,L.getD 28 0,L.getD 29 0,L.getD 30 0,L.getD 31 0,L.getD 32 0,L.getD 33 0,L.getD 34 0,L.getD 35 0]=(List.range 36).map (λq=>L.getD q 0):=rfl
 rw[e];apply List.ext_getElem
 ·simp[h]
 ·intro j h1 h2
  simp[h2]
def Aak(h:i<L.length)(q:Nat)(v:Int):(bif Nat.beq i q then v else L.getD q 0)=(L.set i v).getD q 0:=by
 rw[BM];by_cases e:i=q
 ·subst e;simp[h]
 ·simp[e]
def Aqt{s:Deb}(h:s.wf)(hs:s.is n){r:Contacts}(hi:i<36):(s.at n r i).wf∧(s.at n r i).is n:=by
 have hset:∀(v:Int) (j:Nat),(s.k.set i v).getD j 0=if j=i then v else s.k.getD j 0:=by
  intro v j;rw[← Aak (by rw[h.len];exact hi),BM]
  by_cases e:i=j
  ·simp[e]
  ·simp[e,f1_ e]
 have hn:=hs.1;have hn2:=hs.2.1
 have key:∀v:Int,0≤v→v<n→∀j,j<36→0≤(s.k.set i v).getD j 0∧(s.k.set i v).getD j 0<n:=by
  intro v h1 h2 j hj;rw[hset];by_cases e:j=i
  ·rw[if_pos e];exact⟨h1,h2⟩
  ·rw[if_neg e];exact hs.2.2 j hj
 have fin:∀(c:Contacts) (v:Int),c.wf→0≤v→v<n→Deb.wf ⟨c,s.k.set i v⟩∧Deb.is n ⟨c,s.k.set i v⟩:=by
  intro c v hc h1 h2;have hk:=key v h1 h2;exact⟨⟨hc,by simp[h.len],λj hj=>(hk j hj).1,λj hj=>by have:=(hk j hj).2;simp only at this⊢;omega⟩,hn,hn2,hk⟩
 have hki:=hs.2.2 i hi;unfold Deb.at;split
 ·exact fin _ _ h.c ω ω
 ·split
  ·exact fin _ _ (Contacts.set_wf h.c _ _) ω ω
  ·exact fin _ _ h.c ω ω
def Ag3{n:Int}{r:Contacts}:∀(m i:Nat) (s:Deb),i+m≤36→s.wf→s.is n→(BC (Deb.at n r) m i s).wf∧(BC (Deb.at n r) m i s).is n
 |0,_,_,_,h,hs=>⟨h,hs⟩
 |m+1,i,s,hi,h,hs=>Ag3 m (i+1) (s.at n r i) ω (Aqt h hs ω).1 (Aqt h hs ω).2
def Bhm{s:Deb}(h:s.wf)(hs:s.is n)(r:Contacts):(s.step n r).wf∧(s.step n r).is n:=Ag3 36 0 s ω h hs
def Aie{s:Deb}(h:s.wf)(hs:s.is n){r:Contacts}(hr:r.wf)(b:Deb)(hi:i<36):
  HC n (i:Int) s.c.C0 s.c.Up s.c.T3 s.c.S5 s.c.X4 (s.k.getD 0 0) (s.k.getD 1 0) (s.k.getD 2 0) (s.k.getD 3 0) (s.k.getD 4 0) (s.k.getD 5 0) (s.k.getD 6 0) (s.k.getD 7 0) (s.k.getD 8 0) (s.k.getD 9 0) (s.k.getD 10 0) (s.k.getD 11 0) (s.k.getD 12 0) (s.k.getD 13 0) (s.k.getD 14 0) (s.k.getD 15 0) (s.k.getD 16 0) (s.k.getD 17 0) (s.k.getD 18 0) (s.k.getD 19 0) (s.k.getD 20 0) (s.k.getD 21 0) (s.k.getD 22 0) (s.k.getD 23 0) (s.k.getD 24 0) (s.k.getD 25 0) (s.k.getD 26 0) (s.k.getD 27 0) (s.k.getD 28 0) (s.k.getD 29 0) (s.k.getD 30 0) (s.k.getD 31 0) (s.k.getD 32 0) (s.k.getD 33 0) (s.k.getD 34 0) (s.k.getD 35 0) r.C0 r.Up r.T3 r.S5 r.X4 b.c.C0 b.c.Up b.c.T3 b.c.S5 b.c.X4 (b.k.getD 0 0) (b.k.getD 1 0) (b.k.getD 2 0) (b.k.getD 3 0) (b.k.getD 4 0) (b.k.getD 5 0) (b.k.getD 6 0) (b.k.getD 7 0) (b.k.getD 8 0) (b.k.getD 9 0) (b.k.getD 10 0) (b.k.getD 11 0) (b.k.getD 12 0) (b.k.getD 13 0) (b.k.getD 14 0) (b.k.getD 15 0) (b.k.getD 16 0) (b.k.getD 17 0) (b.k.getD 18 0) (b.k.getD 19 0) (b.k.getD 20 0) (b.k.getD 21 0) (b.k.getD 22 0) (b.k.getD 23 0) (b.k.getD 24 0) (b.k.getD 25 0) (b.k.getD 26 0) (b.k.getD 27 0) (b.k.getD 28 0) (b.k.getD 29 0) (b.k.getD 30 0) (b.k.getD 31 0) (b.k.getD 32 0) (b.k.getD 33 0) (b.k.getD 34 0) (b.k.getD 35 0)=
   O (.inl ((n,(),(),(),((i+1:Nat):Int),()),((s.at n r i).tup,r.tup,b.tup,()))):=by
 unfold HC;have e0:decide ((i:Int)<36)=A:=by simp;omega
 have ib:inB (i:Int) 36=A:=Aa ω ω
 have tn:Int.toNat (i:Int)=i:=ω
 have w:aC.wrap ((i:Int)+1)=((i+1:Nat):Int):=by rw[Ac ω ω];omega
 have hki:=h.lo i hi;have hki':=h.hi i hi;have wk:aC.wrap (s.k.getD i 0+1)=s.k.getD i 0+1:=Ac ω ω
 have hl:i<s.k.length:=by rw[h.len];exact hi
 have hl2:∀v:Int,i<(s.k.set i v).length:=λv=>by simp;exact hl
 have hgi:∀v:Int,(s.k.set i v).getD i 0=v:=λv=>by simp[hl]
 rw[e0,J,SG r hr (i:Int),SG s.c h.c (i:Int)];simp only[C,ib,J,tn,Aak hl,w,Vk h.len,wk];unfold Deb.at;by_cases hq:r.get i=s.c.get i
 ·simp only[hq,k_,J,g2_]
  rfl
 ·simp only[Ar hq,c_,hq,e7_]
  have l36:∀v:Int,(s.k.set i v).length=36:=λv=>by simp[h.len]
  try simp only[Vk (l36 _),hgi,Aak (hl2 _),List.set_set]
  by_cases hn:s.k.getD i 0+1=n
  ·have:(s.k.getD i 0+1==n)=A:=by simpa using hn
   simp only[this,J,g2_,hn,k_];rw[ZJ s.c (i:Int) (r.get i)];rfl
  ·simp only[Ar hn,c_,hn,e7_]
   rfl
end Go.Ovl
