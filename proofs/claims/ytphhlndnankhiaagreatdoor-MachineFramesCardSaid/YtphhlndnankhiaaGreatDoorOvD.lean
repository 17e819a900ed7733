import Derived.Test.YtphhlndnankhiaaGreatDoorOvC
import Derived.Test.YtphhlndnankhiaaGreatDoorOvB
import Derived.Test.YtphhlndnankhiaaGreatDoorOvA
set_option linter.all false
open Go.Ovl.Sat renaming ret->A,bic->C,bindS->H,bifT->aB
open Bool renaming true->B,false->J
open Go.Ovl renaming inR->E,NewCar->P,Bldg->R
open Option renaming some->I
open Go.IntKind renaming i64->L,wrap->aC
open Int renaming toNat->O
open Go.Ovl.Duty renaming mk->aA
open List renaming replicate->aD
open BitVec renaming ofInt->aE
namespace Go.Ovl
open Go Go.Ab
set_option maxRecDepth 100000
variable{b:R}{s:Sto}{m:Img}{r:Record}{t:List UInt8}{n bud room fl:Int}{c:Car}
section
variable{s:Sto}{room half bud:Int}(hs:s.ok room)(hh:half=0∨half=1)(hb:0≤bud)
include hs hh hb
theorem Ayz:s.chk room half bud=0:=by unfold Sto.chk;rw[if_pos hs,if_neg ω]
theorem Acn(hr:((s.get half).size:Int)+(t.length:Int)≤room):s.write room half (txt t) bud=if bud<(t.length:Int)then(s.set half (s.get half++txt (t.take bud.toNat)),0,8)else(s.set half (s.get half++txt t),bud-(t.length:Int),0):=by have he:(txt t).extract 0 bud.toNat=txt (t.take bud.toNat):=Lh (by rw[PF,Gg,Gg];simp);unfold Sto.write;rw[Ayz hs hh hb,if_neg ω,FI,if_neg ω,he]
theorem Ayk(t:Sto):s.act room half bud t=if bud=0 then(s,0,8)else(t,bud-1,0):=by unfold Sto.act;rw[Ayz hs hh hb,if_neg ω]
end
def TY{half:Int}(hs:s.ok room){x:ByteArray}(hx:(x.size:Int)≤room):(s.set half x).ok room:=by
 obtain⟨h1,h2,h3,h4,h5⟩:=hs;unfold Sto.set Sto.ok;split
 ·exact⟨h1,h2,hx,h4,h5⟩
 ·exact⟨h1,h2,h3,hx,h5⟩
def Bat{half:Int}(hs:s.ok room)(hh:half=0∨half=1):Sto.ok room { s with sel:=half }:=by obtain⟨h1,h2,h3,h4,_⟩:=hs;exact⟨h1,h2,h3,h4,hh⟩
def UW(hs:s.ok room):s.sel=0∨s.sel=1:=hs.2.2.2.2
def Af2(hh:s.sel=0∨s.sel=1):s.cur=s.get s.sel:=by unfold Sto.cur Sto.get;rcases hh with h | h<;>rw[h]<;>rfl
def Aqi(hh:s.sel=0∨s.sel=1)(x:ByteArray):(s.set s.sel x).cur=x:=by
  obtain⟨h0,h1,sel⟩:=s;rcases hh with h | h<;>
    (simp only at h
     subst h;simp[Sto.cur,Sto.set])
def Aht(hh:s.sel=0∨s.sel=1)(x:ByteArray):(s.set (1-s.sel) x).cur=s.cur:=by
  obtain⟨h0,h1,sel⟩:=s;rcases hh with h | h<;>
    (simp only at h
     subst h;simp[Sto.cur,Sto.set])
def Aic(hh:s.sel=0∨s.sel=1)(x:ByteArray):(s.set (1-s.sel) x).get (1-s.sel)=x:=by
  obtain⟨h0,h1,sel⟩:=s;rcases hh with h | h<;>
    (simp only at h
     subst h;simp[Sto.set,Sto.get])
def Aja(hh:s.sel=0∨s.sel=1)(x y:ByteArray):(s.set (1-s.sel) x).set (1-s.sel) y=s.set (1-s.sel) y:=by
  obtain⟨h0,h1,sel⟩:=s;rcases hh with h | h<;>
    (simp only at h
     subst h;simp[Sto.set])
def Adi(hh:s.sel=0∨s.sel=1)(x:ByteArray):Sto.cur { s.set (1-s.sel) x with sel:=1-s.sel }=x:=by
  obtain⟨h0,h1,sel⟩:=s;rcases hh with h | h<;>
    (simp only at h
     subst h;simp[Sto.cur,Sto.set])
def Za(hb:b.small)(hc:b.B0.length≤100){rs:List Record}(h:bl s.cur=rs.flatMap Cb++t)(ht:t.length<6)(hv:∀r∈rs,At b r=B):CA b s=Aq (GG b) rs:=by
 unfold CA Od;have hl:s.cur.size=6*rs.length+t.length:=by rw[← FE,h,h_,ZD]
 rw[h,An1 hb hc ht rs s.cur.size ω hv]
structure Jst(b:Bldg)(s:Sto)(m:Img):Prop where
 ok:s.ok b.H0
 img:ImgOK b m
 rs:∃rs:List Record,bl s.cur=rs.flatMap Cb∧(∀r∈rs,At b r=true)∧Aq (GG b) rs=m
 fits:18*((b.B0.length:Int)+(m.A0.length:Int))+6≤b.H0
def Ahk(hs:Bh m.A0)(h:r.R0=1→FV (Au r.D0 r.I0) m.A0=B):(Aw m r).A0.length≤m.A0.length:=by
 unfold Aw;cases r.R0==4 with
 |true=>exact A_ _
 |false=>
 cases r.R0==5 with
 |true=>exact A_ _
 |false=>
 cases r.R0==6 with
 |true=>exact A_ _
 |false=>
 simp only[c_];have hf:=RH (c:=Au r.D0 r.I0) 0 hs;rw[show DS r.D0 r.I0 m.A0 0=_ from hf];cases hq:FV (Au r.D0 r.I0) m.A0 with
 |false=>
  simp only[c_,l_,d_];by_cases k1:r.R0=1
  ·rw[h k1]at hq;cases hq
  ·rw[An k1];exact A_ _
 |true=>
  rw[d_,An (ω:¬((0+Az (Au r.D0 r.I0) m.A0:Nat):Int)=-1),c_];cases r.R0==2 with
  |true=>show(m.A0.take _++m.A0.drop _).length≤_;rw[h_,w_,X_];omega
  |false=>
  cases r.R0==3 with
  |true=>show(m.A0.set _ _).length≤_;rw[D_];exact A_ _
  |false=>
  cases r.R0==7 with
  |true=>show(m.A0.set _ _).length≤_;rw[D_];exact A_ _
  |false=>exact A_ _
def Yq(hj:Jst b s m)(hv:At b r=B)(hfull:Je b m r=J):18*((b.B0.length:Int)+((Aw m r).A0.length:Int))+6≤b.H0:=by
 have h0:=hj.fits;have h2:=(Mo hj.img hv).2;by_cases hk:r.R0=1
 ·cases hq:FV (Au r.D0 r.I0) m.A0 with
  |true=>have:=Ahk hj.img.so λ_=>hq;omega
  |false=>unfold Je KP at hfull;rw[hk,hq,Img.ok_iff.2 hj.img]at hfull;simp at hfull;omega
 ·have:=Ahk hj.img.so (r:=r) λh=>absurd h hk
  omega
def Acj(h:ImgOK b m):(((CM m).flatMap Cb).length:Int)=18*((b.B0.length:Int)+(m.A0.length:Int)):=by rw[ZD,Zf,h.lp];omega
def Wy(hs:s.ok b.H0)(hm:ImgOK b m)(hb0:0≤bud)(hfit:18*((b.B0.length:Int)+(m.A0.length:Int))≤b.H0):
  (2+18*((b.B0.length:Int)+(m.A0.length:Int))≤bud∧Dz b s m bud=({ s.set (1-s.sel) (txt ((CM m).flatMap Cb))with sel:=1-s.sel },bud-(2+18*((b.B0.length:Int)+(m.A0.length:Int))),0))∨
  (bud<2+18*((b.B0.length:Int)+(m.A0.length:Int))∧∃s',Dz b s m bud=(s',0,8)∧s'.ok b.H0∧s'.cur=s.cur):=by
 have hsel:=UW hs;have hh:1-s.sel=0∨1-s.sel=1:=ω;have hL:=Acj hm;have hroom:=hs.1;have he:s.erase b.H0 (1-s.sel) bud=if bud=0 then(s,0,8)else(s.set (1-s.sel) noB,bud-1,0):=Ayk hs hh hb0 _
 unfold Dz;rw[b_ hs,f_ (ω:¬bud<0),Img.ok_iff.2 hm];simp only[o_,c_];generalize hT:(CM m).flatMap Cb=T at hL⊢;by_cases h0:bud=0
 ·right;rw[he,if_pos h0];exact⟨ω,s,rfl,hs,rfl⟩
 ·rw[if_neg h0]at he;rw[he];have hs1:(s.set (1-s.sel) noB).ok b.H0:=TY hs (by show(0:Int)≤_;omega);have hw:=Acn (t:=T) hs1 hh (ω:0≤bud-1) (by rw[Aic hsel];show((0:Nat):Int)+_≤_;omega);rw[Aic hsel,Aja hsel,Aja hsel]at hw;have nb:∀x:ByteArray,noB++x=x:=λx=>Lh (by rw[JW];rfl);rw[nb,nb]at hw;simp only[l_,d_,hw];by_cases h1:bud-1<(T.length:Int)
  ·right;rw[if_pos h1];refine⟨ω,_,rfl,TY hs ?_,Aht hsel _⟩;rw[FI,w_];omega
  ·rw[if_neg h1];have hs2:(s.set (1-s.sel) (txt T)).ok b.H0:=TY hs (by rw[FI];omega);have hc:=Ayk hs2 hh (ω:0≤bud-1-(T.length:Int)) { s.set (1-s.sel) (txt T)with sel:=1-s.sel };have hc':(s.set (1-s.sel) (txt T)).choose b.H0 (1-s.sel) (bud-1-(T.length:Int))=_:=hc;simp only[l_,d_,hc'];by_cases h2:bud-1-(T.length:Int)=0
   ·right;rw[if_pos h2];exact⟨ω,_,rfl,hs2,Aht hsel _⟩
   ·left;rw[if_neg h2,show bud-1-(T.length:Int)-1=bud-(2+18*((b.B0.length:Int)+(m.A0.length:Int)))by omega];exact⟨ω,rfl⟩
def Rm(b:R)(s:Sto)(m:Img)(r:Record):Int:=if(s.cur.size:Int)+6≤b.H0 then 6 else 2+18*((b.B0.length:Int)+((Aw m r).A0.length:Int))
def Ayo(hb:b.small)(hj:Jst b s m)(hv:At b r=B)(hfull:Je b m r=J)(hb0:0≤bud):
  (Rm b s m r≤bud∧∃s',Qq b s m r bud=(s',Aw m r,bud-Rm b s m r,0)∧Jst b s' (Aw m r))∨
  (bud<Rm b s m r∧∃s',Qq b s m r bud=(s',m,0,8)∧s'.ok b.H0∧CA b s'=m):=by
 have hcars:=Am hj.img.code;have hc:b.B0.length≤100:=ω;have hm2:=(Mo hj.img hv).1;have hfit:=Yq hj hv hfull;obtain⟨rs,e1,e2,e3⟩:=hj.rs;have hsel:=UW hj.ok;unfold Qq;rw[Img.ok_iff.2 hj.img,hv,b_ hj.ok,f_ (ω:¬bud<0),hfull];simp only[a0_,o_,c_];unfold Rm FH;by_cases g:(s.cur.size:Int)+6≤b.H0
 ·rw[if_pos g,b_ (ω:(6:Int)≤b.H0-(s.cur.size:Int)),d_];have hw:=Acn (t:=Cb r) hj.ok hsel hb0 (by rw[← Af2 hsel,Gz];omega);rw[Gz,← Af2 hsel]at hw;rw[hw];by_cases h1:bud<((6:Nat):Int)
  ·right;rw[if_pos h1];have hl:((Cb r).take bud.toNat).length<6:=by rw[w_,Gz];omega
   refine⟨ω,_,rfl,TY hj.ok ?_,?_⟩
   ·rw[← FE,JW,Gg,h_,FE];omega
   ·rw[Za hb hc (rs:=rs) (t:=(Cb r).take bud.toNat) (by rw[Aqi hsel,JW,Gg,e1]) hl e2,e3]
  ·left;rw[if_neg h1];refine⟨ω,_,rfl,TY hj.ok ?_,hm2,⟨rs++[r],?_,?_,?_⟩,hfit⟩
   ·rw[← FE,JW,Gg,h_,FE,Gz];omega
   ·rw[Aqi hsel,JW,Gg,e1,List.flatMap_append];simp
   ·intro x hx;rcases p_.1 hx with hx | hx
    ·exact e2 x hx
    ·rw[P_.1 hx];exact hv
   ·rw[EQ,e3];rfl
 ·rw[if_neg g,f_ (ω:¬(6:Int)≤b.H0-(s.cur.size:Int)),c_];rcases Wy hj.ok hm2 hb0 ω with⟨q1,q2⟩ | ⟨q1,s',q2,q3,q4⟩
  ·left;rw[q2];refine⟨q1,_,rfl,Bat (TY hj.ok ?_) ω,hm2,⟨CM (Aw m r),?_,SR hm2,Ae6 hm2⟩,hfit⟩
   ·rw[FI,Acj hm2];omega
   ·rw[Adi hsel,Gg]
  ·right;rw[q2];refine⟨q1,s',rfl,q3,?_⟩;rw[Za hb hc (rs:=rs) (t:=[]) (by rw[q4,e1,a6_]) σ e2,e3]
def Jst.replay(hb:b.small)(hj:Jst b s m):CA b s=m:=by have hcars:=Am hj.img.code;obtain⟨rs,e1,e2,e3⟩:=hj.rs;rw[Za hb ω (rs:=rs) (t:=[]) (by rw[e1,a6_]) σ e2,e3]
def Jst.first(hcode:b.code=0):Jst b Sto.no (GG b):=by
 have hr:=Yh hcode;have hcars:=Am hcode;refine⟨⟨ω,ω,?_,?_,.inl rfl⟩,Abn hcode,⟨[],rfl,(λr h=>by cases h),rfl⟩,?_⟩
 ·show(0:Int)≤_;omega
 ·show(0:Int)≤_;omega
 ·show 18*((b.B0.length:Int)+((0:Nat):Int))+6≤_;omega
def Jst.ents(hj:Jst b s m):m.A0.length≤4000∧m.fit:=by have h1:=hj.fits;have h2:=(Yh hj.img.code).2;have h3:=Am hj.img.code;have g1:=hj.img.lp;have g2:=hj.img.lf;have g3:=hj.img.ll;exact⟨ω,ω,ω,ω,ω⟩
def Bap(s:Sto)(m:Img)(bud e:Int):(Unit×Unit×Int×Int×Unit)×((ByteArray×ByteArray×Int×Unit)×(List Int×List Bool×List Bool×List Entry×Unit)×Unit):=(((),(),bud,e,()),((s.h0,s.h1,s.sel,()),m.tup,()))
def Df(b:R)(s:Sto)(bud:Int):Sto×Img×Int×Int:=
 bif(Dz b s (CA b s) bud).2.2 !=0 then((Dz b s (CA b s) bud).1,Img.none,0,(Dz b s (CA b s) bud).2.2)
 else((Dz b s (CA b s) bud).1,CA b s,(Dz b s (CA b s) bud).2.1,0)
def Ai2(hcode:b.code=0)(s:Sto)(hs:s.cur.size≤500000):ImgOK b (CA b s)∧(CA b s).A0.length≤90000∧(CA b s).fit:=by have hc:=Am hcode;obtain⟨h1,h2⟩:=Um (Abn hcode) (rs:=Od b s.cur) λr hr=>Vy b _ _ r hr;have h3:=YX b s.cur.size (bl s.cur);rw[FE]at h3;have h4:(GG b).A0.length=0:=rfl;have h5:(Od b s.cur).length=(Nj b s.cur.size (bl s.cur)).length:=rfl;have g1:=h1.lp;have g2:=h1.lf;have g3:=h1.ll;exact⟨h1,by show(Aq (GG b) (Od b s.cur)).A0.length≤_;omega,by show(Aq (GG b) (Od b s.cur)).F0.length≤_;omega,by show(Aq (GG b) (Od b s.cur)).O0.length≤_;omega,by show(Aq (GG b) (Od b s.cur)).K0.length≤_;omega,by show(Aq (GG b) (Od b s.cur)).A0.length≤_;omega⟩
def SG(b:R)(m:Img):Bool:=m.ok b&&decide (18*((b.B0.length:Int)+(m.A0.length:Int))+6≤b.H0)
def Bnv{a b:Nat}(h:a≤100000)(h':b≤100000):L.wrap (aC L (18*L.wrap ((a:Int)+(b:Int)))+6)=18*((a:Int)+(b:Int))+6:=by rw[Aa (n:=(a:Int)+(b:Int)) ω ω,Aa (n:=18*((a:Int)+(b:Int))) ω ω,Aa ω ω]
def Aex(hb:b.small)(m:Img)(hc:b.B0.length≤100000)(hf:m.fit):MT b.C0 b.E0 b.H0 b.M0 b.J0 b.L0 b.N0 b.B0 m.F0 m.O0 m.K0 m.A0=I ((SG b m,()),()):=by
 have hmx:100000≤maxLen:=by decide
 have hp:=hf.p;have he:=hf.e;unfold MT SG;rw[CW hb m ω ω];simp only[a_,Bnv hc he];cases m.ok b<;>rfl
def VV:Belief:=⟨-1,0,0,[],0,J⟩
def JZ(b:R)(i:Nat):Car:=b.B0.getD i ⟨0,0,0,0,0,0,0,0,0⟩
def ST(b:R)(e:Entry):Int:=bif decide (0≤e.T0)then(JZ b e.T0.toNat).I1 else 0
def Mch.none:Mch:=⟨Img.none,Sto.no,[],[],[],[],[],[],0,0,0⟩
def Ad1(b:R)(m:Img)(s:Sto):Mch:=⟨m,s,aD b.B0.length Fk,aD b.B0.length VV,aD b.B0.length Bu,aD b.B0.length Ab2,m.A0.map (ST b),aD b.B0.length Agx,0,0,0⟩
def Mch.withB(m:Mch)(l:List Belief):Mch:={ m with U0:=l }
def Mch.withE(m:Mch)(l:List Int):Mch:={ m with E2:=l }
def An4{α:Type}(a:α):∀k i:Nat,(List.range' i k).flatMap (λ_=>[a])=aD k a
 |0,_=>rfl
 |k+1,i=>by rw[f0_,a1_,An4 a k (i+1),List.replicate_succ];rfl
def Bdo{α β:Type}(f:α→β)(l:List α):l.flatMap (λx=>[f x])=l.map f:=by
 induction l with
 |nil=>rfl
 |cons a t ih=>rw[a1_,ih];rfl
def PT(b:R)(m:Img)(s:Sto):Mch×Int:=bif SG b m&&decide (s.ok b.H0)then(Ad1 b m s,0)else(Mch.none,1)
def PG(b:R)(s:Sto)(bud:Int):Mch×Int×Int:=
 bif(Df b s bud).2.2.2 !=0 then({ Mch.none with B1:=(Df b s bud).1 },0,(Df b s bud).2.2.2)
 else bif(PT b (Df b s bud).2.1 (Df b s bud).1).2 !=0 then(Mch.none,0,(PT b (Df b s bud).2.1 (Df b s bud).1).2)
 else((PT b (Df b s bud).2.1 (Df b s bud).1).1,(Df b s bud).2.2.1,0)
def Bip(hcode:b.code=0)(s:Sto)(hs:s.cur.size≤500000)(bud:Int):(Df b s bud).2.1.fit:=by
 obtain⟨_,_,hf⟩:=Ai2 hcode s hs;unfold Df;cases(Dz b s (CA b s) bud).2.2 !=0 with
 |true=>exact⟨a2_ _,a2_ _,a2_ _,a2_ _⟩
 |false=>exact hf
def My(b:R):Mch×Int:=bif b.code==0 then((PG b Sto.no 1048576).1,(PG b Sto.no 1048576).2.2)else(Mch.none,1)
def Aq1:∀{l:List Nat}{a n:Nat},l.Pairwise (· < ·)→(∀x∈l,a≤x∧x<n)→l.length+a≤n∨l=[]
 |[],_,_,_,_=>.inr rfl
 |x::t,a,n,h,hr=>by
  left;obtain⟨h1,h2⟩:=f1_.1 h;have hx:=hr x (t_ ..);rcases Aq1 (a:=x+1) (n:=n) h2 (λy hy=>⟨h1 y hy,(hr y (B_ _ hy)).2⟩)with q | q
  ·rw[x_];omega
  ·subst q;simp;omega
def Bh5(hb:b.small)(hm:ImgOK b m):(m.A0.length:Int)≤2*(b.C0-1):=by
 have lo:=hb.lo;have hi:=hb.hi
 let ix:Int×Int→Nat:=λp=>if p.1=0 then 0 else if p.1=b.C0-1 then(2*b.C0-3).toNat else(2*p.1+p.2-2).toNat
 have hv:∀p∈m.A0.map BQ,(p.2=1∧0≤p.1∧p.1≤b.C0-2)∨(p.2=2∧1≤p.1∧p.1≤b.C0-1):=λp hp=>by obtain⟨e,he,rfl⟩:=b5_.1 hp;have h1:=(CR.1 (hm.en e he)).1;unfold Ai NY at h1;simp only[e_,S_,W_,Ap]at h1;show(e.I0=1∧0≤e.D0∧e.D0≤b.C0-2)∨(e.I0=2∧1≤e.D0∧e.D0≤b.C0-1);omega
 have hp:((m.A0.map BQ).map ix).Pairwise (· < ·):=by rw[List.pairwise_map];refine List.Pairwise.imp_of_mem (λ{p q} hp hq h=>?_) hm.so;have v1:=hv p hp;have v2:=hv q hq;unfold ltC at h;show ix p<ix q;simp only[ix];split<;>split<;>(try split)<;>(try split)<;>omega
 rcases Aq1 (a:=0) (n:=(2*b.C0-2).toNat) hp (λx hx=>by
  obtain⟨p,hp,rfl⟩:=b5_.1 hx;have v1:=hv p hp;refine⟨a2_ _,?_⟩;show ix p<_;simp only[ix];split
  ·omega
  ·split<;>omega)with q | q
 ·rw[c8_,c8_]at q;omega
 ·have:=d3_ List.length q
  rw[c8_,c8_,c7_]at this;omega
def Aqw(hm:ImgOK b m)(hfit:18*((b.B0.length:Int)+(m.A0.length:Int))+6≤b.H0):SG b m=B:=by unfold SG;rw[Img.ok_iff.2 hm,b_ hfit];rfl
def Abj(hm:ImgOK b m)(hfit:18*((b.B0.length:Int)+(m.A0.length:Int))+6≤b.H0)(hs:s.ok b.H0):PT b m s=(Ad1 b m s,0):=by unfold PT;rw[Aqw hm hfit,b_ hs];rfl
def Bht(_hb:b.small)(hs:s.ok b.H0)(hm:ImgOK b m)(hrep:CA b s=m)(hfit:18*((b.B0.length:Int)+(m.A0.length:Int))+6≤b.H0)(hb0:0≤bud):
  (2+18*((b.B0.length:Int)+(m.A0.length:Int))≤bud∧PG b s bud=(Ad1 b m { s.set (1-s.sel) (txt ((CM m).flatMap Cb))with sel:=1-s.sel },bud-(2+18*((b.B0.length:Int)+(m.A0.length:Int))),0)∧Jst b { s.set (1-s.sel) (txt ((CM m).flatMap Cb))with sel:=1-s.sel } m)∨
  (bud<2+18*((b.B0.length:Int)+(m.A0.length:Int))∧∃s',PG b s bud=({ Mch.none with B1:=s' },0,8)∧s'.ok b.H0∧CA b s'=m):=by
 have hsel:=UW hs;unfold PG Df;rw[hrep];rcases Wy hs hm hb0 ω with⟨q1,q2⟩ | ⟨q1,s',q2,q3,q4⟩
 ·left;have hj:Jst b { s.set (1-s.sel) (txt ((CM m).flatMap Cb))with sel:=1-s.sel } m:=by
   refine⟨Bat (TY hs ?_) ω,hm,⟨CM m,?_,SR hm,Ae6 hm⟩,hfit⟩
   ·rw[FI,Acj hm];omega
   ·rw[Adi hsel,Gg]
  rw[q2];refine⟨q1,?_,hj⟩;simp only[O_,c_];rw[Abj hm hfit hj.ok];rfl
 ·right;rw[q2];refine⟨q1,s',rfl,q3,?_⟩;rw[← hrep];unfold CA;rw[q4]
def On{X Y:Type}{step:X→Option (Sum X Y)}{N:Nat}(hN:N≤100000)(g:Nat→X){y:Y}(h1:∀i,i<N→step (g i)=I (.inl (g (i+1))))(h2:step (g N)=I (.inr y)):BY step DL (g 0)=I y:=Ak (Amw N g y h1 h2 N 0 (n_ N)) ω
def RO{i n:Nat}(hn:n≤100000)(h:i<n):L.wrap ((i:Int)+1)=((i+1:Nat):Int):=Gb h (by unfold Ba;omega)
def Ul{p:Nat→Bool}:∀m i:Nat,(∀k,i≤k→k<i+m→p k=B)→XY p m i=B
 |0,_,_=>rfl
 |m+1,i,h=>by simp only[XY];rw[h i (A_ _) ω,s_];exact Ul m (i+1) λk h1 h2=>h k ω ω
def To{p:Nat→Bool}:∀m i:Nat,XY p m i=B→∀k,i≤k→k<i+m→p k=B
 |0,_,_,k,h1,h2=>by omega
 |m+1,i,h,k,h1,h2=>by
  simp only[XY,e_]at h;rcases g2_ i k with g | g
  ·exact To m (i+1) h.2 k ω ω
  ·obtain rfl:k=i:=ω;exact h.1
def Se{xs:List Int}(hl:xs.length≤100000)(h:∀x∈xs,0≤x∧x≤1000000):HT xs=I ((B,()),()):=by
 have l:Bs ((xs,(),(xs.length:Int),(0:Int),()),())=I (.inl ((),())):=On hl (λi=>((xs,(),(xs.length:Int),(i:Int),()),())) (λi hi=>by
  have hx:=h _ (BR 0 hi);have e:IQ (xs.getD i 0)=I ((J,()),()):=by unfold IQ;rw[f_ ω,f_ ω];rfl
  simp only[lp,Un.u,Co,Vs hi,KJ hi,RO hl hi,j_,e,d_,c_,a_]) (by simp only[lp,Un.u,Co,Rl,c_])
 unfold HT Ch Cy;rw[l];rfl
def Abb(x:Debounced):List Int:=[x.I5,x.K5,x.L5,x.M5,x.N5,x.O5,x.Q5,x.R5,x.S5,x.T5,x.G4,x.H4,x.I4,x.J4,x.K4,x.L4,x.M4,x.N4,x.O4,x.P4,x.Q4,x.R4,x.S4,x.T4,x.U4,x.V4,x.W4,x.X4,x.Y4,x.Z4,x.A5,x.B5,x.C5,x.E5,x.F5,x.G5]
def Alr(n:Int)(x:Debounced)(i:Nat):Bool:=decide (0≤(Abb x).getD i 0)&&decide ((Abb x).getD i 0<n)
def Ux(n:Int)(x:Debounced):Bool:=decide (1≤n)&&(decide (n≤16)&&XY (Alr n x) 36 0)
def Yi{x:Debounced}(h:Ux n x=B):Ey n x.V0 x.J2 x.S1 x.T1 x.D1 x.I5 x.K5 x.L5 x.M5 x.N5 x.O5 x.Q5 x.R5 x.S5 x.T5 x.G4 x.H4 x.I4 x.J4 x.K4 x.L4 x.M4 x.N4 x.O4 x.P4 x.Q4 x.R4 x.S4 x.T4 x.U4 x.V4 x.W4 x.X4 x.Y4 x.Z4 x.A5 x.B5 x.C5 x.E5 x.F5 x.G5=I ((B,()),()):=by unfold Ux at h;simp only[e_,r_]at h;obtain⟨h1,h2,h3⟩:=h;have l:EJ ((n,(x.I5,x.K5,x.L5,x.M5,x.N5,x.O5,x.Q5,x.R5,x.S5,x.T5,x.G4,x.H4,x.I4,x.J4,x.K4,x.L4,x.M4,x.N4,x.O4,x.P4,x.Q4,x.R4,x.S4,x.T4,x.U4,x.V4,x.W4,x.X4,x.Y4,x.Z4,x.A5,x.B5,x.C5,x.E5,x.F5,x.G5,()),(0:Int),()),())=I (.inl ((),())):=On (N:=36) τ (λi=>((n,(x.I5,x.K5,x.L5,x.M5,x.N5,x.O5,x.Q5,x.R5,x.S5,x.T5,x.G4,x.H4,x.I4,x.J4,x.K4,x.L4,x.M4,x.N4,x.O4,x.P4,x.Q4,x.R4,x.S4,x.T4,x.U4,x.V4,x.W4,x.X4,x.Y4,x.Z4,x.A5,x.B5,x.C5,x.E5,x.F5,x.G5,()),(i:Int),()),())) (λi hi=>by have hx:=To 36 0 h3 i (a2_ _) ω;unfold Alr at hx;simp only[e_,r_]at hx;show CQ n x.I5 x.K5 x.L5 x.M5 x.N5 x.O5 x.Q5 x.R5 x.S5 x.T5 x.G4 x.H4 x.I4 x.J4 x.K4 x.L4 x.M4 x.N4 x.O4 x.P4 x.Q4 x.R4 x.S4 x.T4 x.U4 x.V4 x.W4 x.X4 x.Y4 x.Z4 x.A5 x.B5 x.C5 x.E5 x.F5 x.G5 (i:Int)=_;unfold CQ;simp only[b_ (ω:(i:Int)<36),KJ hi,RO (show 36≤100000 by decide) hi,j_,d_];show(bif decide ((Abb x).getD i 0<0)then _ else bif decide (n≤(Abb x).getD i 0)then _ else _)=_;rw[f_ ω,f_ ω];rfl) (by rfl);unfold Ey;rw[f_ ω,f_ ω,l];rfl
def UJ(a b:Duty):Bool:=decide (a.D0<b.D0)||(a.D0==b.D0&&decide (a.I0<b.I0))
def ZV{a b:Duty}(h:UJ a b=B):∃n:Int,CH a.D0 a.I0 a.F4 b.D0 b.I0 b.F4=I ((n,()),())∧decide (0≤n)=J:=by
 unfold CH;rw[HJ,HJ];simp only[a_];rw[Yg];refine⟨_,rfl,?_⟩;unfold UJ at h;simp only[S_,e_,r_,W_]at h;unfold Ww;rcases h with h | ⟨h,h'⟩
 ·rw[b_ h];rfl
 ·rw[h,f_ (Q_ _),b_ h'];rfl
def Ts(n lo hi:Int):DA n lo hi=I ((E lo hi n,()),()):=by unfold DA E;cases decide (lo≤n)<;>rfl
def Atg(x:Belief)(i:Nat):Bool:=i==0||UJ (x.W0.getD (i-1) GT) (x.W0.getD i GT)
def Al5(b:R)(car:Nat)(x:Belief)(i:Nat):Bool:=Ai b (x.W0.getD i GT).D0 (x.W0.getD i GT).I0&&(E 0 (JZ b car).I1 (x.W0.getD i GT).F4&&Atg x i)
def Ac3(b:R)(car:Nat)(x:Belief):Bool:=E (-1) (b.C0-1) x.D0&&(E 0 3 x.I0&&(E 0 3 x.F3&&(E 0 1000000 x.B3&&(!(x.V3&&decide ((0:Int)<(x.W0.length:Int)))&&XY (Al5 b car x) x.W0.length 0))))
def Sc(hb:b.small)(hcode:b.code=0){car:Nat}(hcar:car<b.B0.length){x:Belief}(hx:x.W0.length≤100000)(h:Ac3 b car x=B):Cm b.C0 b.E0 b.H0 b.M0 b.J0 b.L0 b.N0 b.B0 (car:Int) x.D0 x.I0 x.F3 x.W0 x.B3 x.V3=I ((B,()),()):=by
 have lo:=hb.lo;have hi8:=hb.hi;have hcc:=Am hcode;unfold Ac3 at h;simp only[e_]at h;obtain⟨h1,h2,h3,h4,h5,h6⟩:=h;have l:IS (((car:Int),(),(),x.W0,(x.W0.length:Int),(0:Int),()),(b.tup,x.tup,()))=I (.inl ((),())):=On hx (λi=>(((car:Int),(),(),x.W0,(x.W0.length:Int),(i:Int),()),(b.tup,x.tup,()))) (λi hi=>by
  have hp:=To _ 0 h6 i (a2_ _) ω;unfold Al5 Atg at hp;simp only[e_]at hp;obtain⟨p1,p2,p3⟩:=hp;show GP (car:Int) x.W0 (x.W0.length:Int) (i:Int) b.C0 b.E0 b.H0 b.M0 b.J0 b.L0 b.N0 b.B0 x.D0 x.I0 x.F3 x.W0 x.B3 x.V3=_;unfold GP;have p2:E 0 (b.B0.getD car (Car.mk 0 0 0 0 0 0 0 0 0)).I1 (x.W0.getD i (aA 0 0 0)).F4=B:=p2;have p1:Ai b (x.W0.getD i (aA 0 0 0)).D0 (x.W0.getD i (aA 0 0 0)).I0=B:=p1;simp only[Vs hi,KJ hi,KJ hcar,RO hx hi,d_,j_,Mr hb,Ts,a_,p1,p2,o_,c_];cases i with
  |zero=>rfl
  |succ j=>rw[b_ (ω:(0:Int)<((j+1:Nat):Int)),Aa (n:=((j+1:Nat):Int)-1) ω ω,show((j+1:Nat):Int)-1=(j:Int)by omega,KJ (ω:j<x.W0.length)];obtain⟨n,e1,e2⟩:=ZV p3;simp only[d_,j_];rw[show CH (x.W0.getD j (aA 0 0 0)).D0 (x.W0.getD j (aA 0 0 0)).I0 (x.W0.getD j (aA 0 0 0)).F4 (x.W0.getD (j+1) (aA 0 0 0)).D0 (x.W0.getD (j+1) (aA 0 0 0)).I0 (x.W0.getD (j+1) (aA 0 0 0)).F4=_ from e1];simp only[a_,e2,RO hx hi];rfl) (by
  show GP (car:Int) x.W0 (x.W0.length:Int) (x.W0.length:Int) b.C0 b.E0 b.H0 b.M0 b.J0 b.L0 b.N0 b.B0 x.D0 x.I0 x.F3 x.W0 x.B3 x.V3=_;simp only[lp,Un.u,GP,Rl,c_])
 have r:(bif x.V3 then decide ((0:Int)<(x.W0.length:Int))else J)=J:=by
  cases hL:x.V3 with
  |false=>rfl
  |true=>rw[hL]at h5;simpa using h5
 unfold Cm;rw[Bg,hcode];simp only[Ts,a_,O_,c_,Aa (n:=(b.B0.length:Int)-1) ω ω,Aa (n:=b.C0-1) ω ω,show E 0 ((b.B0.length:Int)-1) (car:Int)=B from Ap.2 ⟨ω,ω⟩,h1,h2,h3,h4,o_];cases hL:x.V3 with
 |false=>rw[Belief.tup,hL]at l;exact Ae rfl (Ae l rfl)
 |true=>rw[hL]at r;rw[Belief.tup,hL]at l;have r:decide ((0:Int)<(x.W0.length:Int))=J:=r;rw[d_,r];exact Ae rfl (Ae l rfl)
def QF(x:P):Bool:=E 0 2 x.V1&&E 0 7 x.F1
def SB(x:P):Bool:=(x.Y0==0)&&((x.Q1==0)&&((x.H1==0)&&((x.L1==J)&&((x.E1==0)&&B))))
def RF(x:P):Bool:=bif x.Y0==0 then SB x else E 0 3 x.Y0&&(E 0 1000000 x.Q1&&(E 0 1000000 x.H1&&E 0 1000000 x.E1))
def Ane(x:P):Bool:=(x.S0==0)&&((x.X0==0)&&((x.Q0==0)&&B))
def UM(fl:Int)(x:P):Bool:=E 0 1000000 x.X0&&(bif x.S0==0 then x.Q0==0 else bif x.S0==1 then E 0 (fl-1) x.Q0&&E 0 (fl-1) (x.Q0+1)else bif x.S0==2 then E 0 (fl-1) x.Q0&&E 0 (fl-1) (x.Q0-1)else J)
def Afz(x:P):Bool:=(x.V1==0)&&((x.F1==0)&&((x.Y0==0)&&((x.Q1==0)&&((x.H1==0)&&((x.L1==J)&&((x.E1==0)&&((x.S0==0)&&((x.X0==0)&&((x.Q0==0)&&((x.D2==0)&&((x.C3==0)&&((x.R3==0)&&((x.E3==B)&&B)))))))))))))
def Aew(fl:Int)(x:P):Bool:=(Int.fdiv x.D2 ((2:Int)^(O fl))==0)&&(E 0 2 x.C3&&E 0 1000000 x.R3)
def Wd(fl:Int)(x:P):Bool:=QF x&&(RF x&&(UM fl x&&((SB x||Ane x)&&Aew fl x)))
def Hx(b:R)(x:P):Bool:=bif x.E3 then Afz x else Wd b.C0 x
def Ka(x:P):Fm x.V1 x.F1=I ((QF x,()),()):=by unfold Fm QF E;cases decide (0≤x.V1)<;>cases decide (x.V1≤2)<;>cases decide (0≤x.F1)<;>rfl
def Adl(n:Int):HF n=I ((E 0 1000000 n,()),()):=by unfold HF E;cases decide (0≤n)<;>rfl
def PO(x:P):Gh x.Y0 x.Q1 x.H1 x.L1 x.E1=I ((RF x,()),()):=by
 unfold Gh RF SB;simp only[Adl,a_];cases x.Y0==0 with
 |true=>rfl
 |false=>unfold E;cases decide (0≤x.Y0)<;>cases decide (x.Y0≤3)<;>cases(decide (0≤x.Q1)&&decide (x.Q1≤1000000))<;>cases(decide (0≤x.H1)&&decide (x.H1≤1000000))<;>rfl
def Nr(h:2≤fl∧fl≤8)(x:P):Gj fl x.S0 x.X0 x.Q0=I ((UM fl x,()),()):=by
 unfold Gj UM;rw[f_ (ω:¬fl<2),f_ (ω:¬32<fl)];simp only[c_];by_cases t:0≤x.X0∧x.X0≤1000000
 ·rw[f_ (ω:¬x.X0<0),f_ (ω:¬1000000<x.X0),show E 0 1000000 x.X0=B from Ap.2 t];simp only[c_,s_];by_cases f:0≤x.Q0∧x.Q0<fl
  ·rw[f_ (ω:¬x.Q0<0),f_ (ω:¬fl≤x.Q0),show E 0 (fl-1) x.Q0=B from Ap.2 ⟨f.1,ω⟩];simp only[c_,s_];by_cases c0:x.S0=0
   ·rw[c0];rfl
   ·rw[An c0];simp only[c_];unfold Fu;by_cases c1:x.S0=1
    ·rw[c1];simp only[O_,c_,a_,show inB 1 3=B from rfl,d_,l_];rw[show List.getD [(0:Int),1,-1] (O 1) 0=1 from rfl,Aa ω ω];unfold E;by_cases z:x.Q0+1<fl
     ·rw[b_ z,b_ (ω:0≤x.Q0+1),b_ (ω:x.Q0+1≤fl-1)];rfl
     ·rw[f_ z,b_ (ω:0≤x.Q0+1),f_ (ω:¬x.Q0+1≤fl-1)];rfl
    ·rw[Ig c1,An c1];simp only[d_,c_];by_cases c2:x.S0=2
     ·rw[c2];simp only[O_,c_,a_,show inB 2 3=B from rfl,d_,l_];rw[show List.getD [(0:Int),1,-1] (O 2) 0=-1 from rfl,Aa ω ω,show x.Q0+ -1=x.Q0-1 by omega];unfold E;by_cases z:0≤x.Q0-1
      ·rw[b_ z,b_ (ω:x.Q0-1<fl),b_ (ω:x.Q0-1≤fl-1)];rfl
      ·rw[f_ z];rfl
     ·rw[Ig c2,An c2];rfl
  ·have hf:E 0 (fl-1) x.Q0=J:=by
    cases hq:E 0 (fl-1) x.Q0 with
    |false=>rfl
    |true=>have:=Ap.1 hq;omega
   rw[hf];have hz:(x.Q0==0)=J:=An ω;rw[hz];simp only[a7_];have e:(bif x.S0==0 then J else bif x.S0==1 then J else bif x.S0==2 then J else J)=J:=by cases x.S0==0<;>cases x.S0==1<;>cases x.S0==2<;>rfl
   rw[e];by_cases z:x.Q0<0
   ·rw[b_ z];rfl
   ·rw[f_ z,b_ (ω:fl≤x.Q0)];rfl
 ·have hf:E 0 1000000 x.X0=J:=by
   cases hq:E 0 1000000 x.X0 with
   |false=>rfl
   |true=>exact absurd (Ap.1 hq) t
  rw[hf];simp only[a7_];by_cases z:x.X0<0
  ·rw[b_ z];rfl
  ·rw[f_ z,b_ (ω:1000000<x.X0)];rfl
def JB(hb:b.small)(hcode:b.code=0)(x:P):DY b.C0 b.E0 b.H0 b.M0 b.J0 b.L0 b.N0 b.B0 x.V1 x.F1 x.Y0 x.Q1 x.H1 x.L1 x.E1 x.S0 x.X0 x.Q0 x.D2 x.C3 x.R3 x.E3=I ((Hx b x,()),()):=by
 have lo:=hb.lo;have hi8:=hb.hi;have hmin:Min.min (O b.C0) (IntKind.bits IntKind.u32)=O b.C0:=c6_ (by show _≤32;omega);unfold DY Hx;rw[Bg,hcode];simp only[a_,O_,c_];have main:Wd b.C0 x=Wd b.C0 x:=rfl;cases hF:x.E3 with
 |true=>
  have hZ:Afz x=((x.V1==0)&&((x.F1==0)&&((x.Y0==0)&&((x.Q1==0)&&((x.H1==0)&&((x.L1==J)&&((x.E1==0)&&((x.S0==0)&&((x.X0==0)&&((x.Q0==0)&&((x.D2==0)&&((x.C3==0)&&((x.R3==0)&&((B==B)&&B)))))))))))))):=by unfold Afz;rw[hF]
  rw[d_,← hZ];cases hq:Afz x with
  |false=>rfl
  |true=>
   have hq':=hq;unfold Afz at hq';simp only[e_,W_]at hq';obtain⟨e1,e2,e3,e4,e5,e6,e7,e8,e9,e10,e11,e12,e13,_⟩:=hq';simp only[o_,a_,c_,d_,Ka,PO,Nr ⟨lo,hi8⟩];have s1:QF x=B:=by unfold QF;rw[e1,e2];rfl
   have s2:RF x=B:=by unfold RF SB;rw[e3,e4,e5,e6,e7];rfl
   have s3:UM b.C0 x=B:=by unfold UM;rw[e8,e9,e10];rfl
   rw[s1,s2,s3,e3,e4,e5,e6,e7,e11,e12,e13];simp only[l_,d5_,o_,c_,a_];rw[b_ (ω:0≤b.C0),hmin];simp only[d_];rw[show Int.fdiv 0 ((2:Int)^O b.C0)=0 from Int.zero_fdiv _];rfl
 |false=>
  simp only[a_,c_,Ka,PO,Nr ⟨lo,hi8⟩];unfold Wd;cases QF x with
  |false=>rfl
  |true=>
  cases RF x with
  |false=>rfl
  |true=>
  cases UM b.C0 x with
  |false=>rfl
  |true=>
   simp only[o_,c_,s_];rw[show((x.Y0==0)&&((x.Q1==0)&&((x.H1==0)&&((x.L1==J)&&((x.E1==0)&&B)))))=SB x from rfl,show((x.S0==0)&&((x.X0==0)&&((x.Q0==0)&&B)))=Ane x from rfl];have fin:(bif decide (0≤b.C0)then bif(Int.fdiv x.D2 ((2:Int)^(O b.C0))==0)then bif decide (0≤x.C3)then bif decide (x.C3≤2)then bif decide (0≤x.R3)then I ((decide (x.R3≤1000000),()),())else I ((J,()),())else I ((J,()),())else I ((J,()),())else I ((J,()),())else none)=I ((Aew b.C0 x,()),()):=by rw[b_ (ω:0≤b.C0)];unfold Aew E;cases Int.fdiv x.D2 ((2:Int)^(O b.C0))==0<;>cases decide (0≤x.C3)<;>cases decide (x.C3≤2)<;>cases decide (0≤x.R3)<;>rfl
   cases SB x with
   |true=>simp only[o_,c_,a_,Bool.true_or,s_];rw[hmin,fin];rfl
   |false=>
    cases Ane x with
    |true=>simp only[o_,d4_,d_,c_,a_,Bool.false_or,s_];rw[hmin,fin];rfl
    |false=>rfl
def ZX(hb:b.small)(hcode:b.code=0){l:List Debounced}(hn:l.length=b.B0.length)(h:∀x∈l,Ux b.E0 x=B):Bb l (b.B0.length:Int) b.C0 b.E0 b.H0 b.M0 b.J0 b.L0 b.N0 b.B0=I ((B,()),(b.tup,())):=by
 have hcc:=Am hcode;have q:AY (((),l,(l.length:Int),(0:Int),()),(b.tup,()))=I (.inl ((),(b.tup,()))):=On (N:=l.length) ω (λi=>(((),l,(l.length:Int),(i:Int),()),(b.tup,()))) (λi hi=>by
  have e:=Yi (h _ (BR Fk hi));show AI l (l.length:Int) (i:Int) b.C0 b.E0 b.H0 b.M0 b.J0 b.L0 b.N0 b.B0=_;unfold AI Gk;simp only[Vs hi,KJ hi,RO (ω:l.length≤100000) hi,j_,d_];exact Ae (Ae e rfl) rfl) (by
  show AI l (l.length:Int) (l.length:Int) b.C0 b.E0 b.H0 b.M0 b.J0 b.L0 b.N0 b.B0=_;simp only[lp,Un.u,AI,Rl,c_];rfl)
 unfold Bb;rw[hn,O_,← hn];exact Ae q rfl
def Af6(hb:b.small)(hcode:b.code=0){l:List Belief}(hn:l.length=b.B0.length)(h:∀i,i<l.length→Ac3 b i (l.getD i (Belief.mk 0 0 0 [] 0 J))=B)(hd:∀x∈l,x.W0.length≤100000):Bi l (b.B0.length:Int) b.C0 b.E0 b.H0 b.M0 b.J0 b.L0 b.N0 b.B0=I ((B,()),(b.tup,())):=by
 have hcc:=Am hcode;have q:Be (((),l,(l.length:Int),(0:Int),()),(b.tup,()))=I (.inl ((),(b.tup,()))):=On (N:=l.length) ω (λi=>(((),l,(l.length:Int),(i:Int),()),(b.tup,()))) (λi hi=>by
  have e:=Sc hb hcode (ω:i<b.B0.length) (hd _ (BR (Belief.mk 0 0 0 [] 0 J) hi)) (h i hi);show AL l (l.length:Int) (i:Int) b.C0 b.E0 b.H0 b.M0 b.J0 b.L0 b.N0 b.B0=_;unfold AL Gl;simp only[Vs hi,KJ hi,RO (ω:l.length≤100000) hi,j_,d_];exact Ae (Ae e rfl) rfl) (by
  show AL l (l.length:Int) (l.length:Int) b.C0 b.E0 b.H0 b.M0 b.J0 b.L0 b.N0 b.B0=_;simp only[lp,Un.u,AL,Rl,c_];rfl)
 unfold Bi;rw[hn,O_,← hn];exact Ae q rfl
def Af8(hb:b.small)(hcode:b.code=0){l:List P}(hn:l.length=b.B0.length)(h:∀x∈l,Hx b x=B):Bj l (b.B0.length:Int) b.C0 b.E0 b.H0 b.M0 b.J0 b.L0 b.N0 b.B0=I ((B,()),(b.tup,())):=by
 have hcc:=Am hcode;have q:Bf (((),l,(l.length:Int),(0:Int),()),(b.tup,()))=I (.inl ((),(b.tup,()))):=On (N:=l.length) ω (λi=>(((),l,(l.length:Int),(i:Int),()),(b.tup,()))) (λi hi=>by
  have e:=JB hb hcode (l.getD i Bu);rw[h _ (BR Bu hi)]at e;show AM l (l.length:Int) (i:Int) b.C0 b.E0 b.H0 b.M0 b.J0 b.L0 b.N0 b.B0=_;unfold AM Gm;simp only[Vs hi,KJ hi,RO (ω:l.length≤100000) hi,j_,d_];exact Ae (Ae e rfl) rfl) (by
  show AM l (l.length:Int) (l.length:Int) b.C0 b.E0 b.H0 b.M0 b.J0 b.L0 b.N0 b.B0=_;simp only[lp,Un.u,AM,Rl,c_];rfl)
 unfold Bj;rw[hn,O_,← hn];exact Ae q rfl
def Af7{l:List Loaded}(hl:l.length≤100000)(hn:(l.length:Int)=n)(h:∀x∈l,0≤x.V5∧x.V5≤4):BF l n=I ((B,()),()):=by
 have q:Bw (((),l,(l.length:Int),(0:Int),()),())=I (.inl ((),())):=On hl (λi=>(((),l,(l.length:Int),(i:Int),()),())) (λi hi=>by
  have hx:=h _ (BR (Loaded.mk 0) hi);have e:GX (i:Int) (l.getD i (Loaded.mk 0)).V5=I ((B,()),()):=by unfold GX;rw[b_ hx.1,b_ hx.2];rfl
  simp only[lp,Un.u,Cs,Vs hi,KJ hi,RO hl hi,j_,d_];exact Ae e rfl) (by simp only[lp,Un.u,Cs,Rl,c_])
 unfold BF;rw[hn,O_,← hn];exact Ae q rfl
def Als(h:b.code=0):1≤b.E0∧b.E0≤16:=by
 unfold Bldg.code at h;cases h1:E 2 32 b.C0<;>rw[h1]at h
 ·cases h
 cases h2:E 1 8 (b.B0.length:Int)<;>rw[h2]at h
 ·cases h
 cases h3:E 1 16 b.E0<;>rw[h3]at h
 ·cases h
 exact Ap.1 h3
def Avl(h:Cj fl c=B):0≤c.I1∧c.I1≤1000000:=by
 unfold Cj at h;rw[e_,K_]at h
 have:=Ap.1 (h.1 c.I1 (t_ ..))
 omega
def Ahq(h:b.code=0)(hc:c∈b.B0):0≤c.I1∧c.I1≤1000000:=by
 unfold Bldg.code at h;cases h1:E 2 32 b.C0<;>rw[h1]at h
 ·cases h
 cases h2:E 1 8 (b.B0.length:Int)<;>rw[h2]at h
 ·cases h
 cases h3:E 1 16 b.E0<;>rw[h3]at h
 ·cases h
 cases h4:E 1 10000 b.M0<;>rw[h4]at h
 ·cases h
 cases h5:b.B0.all (Cj b.C0)<;>rw[h5]at h
 ·cases h
 exact Avl (K_.1 h5 c hc)
def Bdw(h:1≤n∧n≤16):Ux n Fk=B:=by
 unfold Ux;rw[b_ h.1,b_ h.2,s_,s_];refine Ul 36 0 λk _ hk=>?_;unfold Alr
 have:(Abb Fk).getD k 0=0:=by show(aD 36 (0:Int)).getD k 0=0;rw[k_,List.getElem?_replicate];split<;>rfl
 rw[this,b_ (ω:(0:Int)<n)];rfl
def HE(n:Int):0≤IntKind.u32.wrap n∧IntKind.u32.wrap n<4294967296:=by simp only[aC,IntKind.signed,IntKind.bits];simp;exact⟨Int.emod_nonneg _ τ,Int.emod_lt_of_pos _ τ⟩
def Acm(n:Int):0≤IntKind.u8.wrap n∧IntKind.u8.wrap n<256:=by simp only[aC,IntKind.signed,IntKind.bits];simp;exact⟨Int.emod_nonneg _ τ,Int.emod_lt_of_pos _ τ⟩
def Avm(n:Int):Sat (CI n) λy=>0≤y.1.1∧y.1.1≤32:=by
 unfold CI;refine C (λ_=>A (show(0:Int)≤32∧(32:Int)≤32 by decide)) λ_=>aB (Ac ?_ ?_) (A ?_)
 ·rw[a4_ _ τ];exact Int.ediv_nonneg (HE _).1 τ
 ·rw[a4_ _ τ];refine Int.ediv_lt_of_lt_mul τ ?_;exact(HE _).2
 ·have h:∀(l:List Int) (k:Nat),(∀x∈l,0≤x∧x≤32)→0≤L.wrap (l.getD k 0)∧L.wrap (l.getD k 0)≤32:=λl k h=>by
   have:0≤l.getD k 0∧l.getD k 0≤32:=by
    by_cases hk:k<l.length
    ·rw[k_,i_ hk];exact h _ (b1_ hk)
    ·rw[k_,List.getElem?_eq_none ω];decide
   rw[Aa ω ω];exact this
  exact h _ _ τ
instance tz_ti(n:Int):SatT (CI n):=⟨(Avm n).any⟩
def Ayw(s:ByteArray)(i:Nat):0≤AJ s i∧AJ s i≤255:=by
 unfold AJ
 have:=(s.data.getD i 0).toNat_lt
 omega
def Aui(n:Int):Sat (JC n) λy=>0≤y.1.1∧y.1.1≤300:=by
 unfold JC;refine H (Q:=λy=>y.1.2.1=0∨y.1.2.1=16) (C (λ_=>A (.inr rfl)) λ_=>A (.inl rfl)) λy1 h1=>H (Q:=λy=>0≤y.1.2.1∧y.1.2.1≤24) (C (λ_=>A ?_) λ_=>A ?_) λy2 h2=>?_
 ·show 0≤L.wrap (y1.1.2.1+8)∧L.wrap (y1.1.2.1+8)≤24;rw[Aa ω ω];omega
 ·show 0≤y1.1.2.1∧y1.1.2.1≤24;omega
 refine aB (Ac (Acm _).1 (Acm _).2) (A ?_);have h:∀s i,0≤L.wrap (y2.1.2.1+L.wrap (AJ s i))∧L.wrap (y2.1.2.1+L.wrap (AJ s i))≤300:=λs i=>by
  have:=Ayw s i
  rw[Aa (n:=AJ s i) ω ω,Aa ω ω];omega
 exact h _ _
instance len_ti(n:Int):SatT (JC n):=⟨(Aui n).any⟩
def Aln(a b c d:Int):Sat (DX a b c d) λ_=>True:=⟨_,Li (a,b) (c,d),trivial⟩
def Aai(a b:Int){F D:Int}(hF:0≤F∧F<32)(hD:D=1∨D=2):Sat (Ds a b F D) λ_=>True:=⟨_,PH (a,b) hF hD,trivial⟩
def Bqp(fl d o f a b c:Int)(h:0≤fl)(hf:0≤f∧f<32):Sat (Js fl d o f a b c) λy=>y.2.1.2.2.2.2.2.1=o:=by unfold Js;have g:=b_ hf.1;refine aB (b_ h) (H (Aln ..) λy1 _=>aB g (H (Aai _ _ hf (.inl rfl)) λy2 _=>H (Aai _ _ hf (.inr rfl)) λy3 _=>?_));refine H (Q:=λy=>y.1.1=f∧y.2.2.1.2.2.2.2.2.1=o) (aB g (C (λ_=>H (Avm _) λ_ _=>A ⟨rfl,rfl⟩) λ_=>A ⟨rfl,rfl⟩)) λy5 h5=>?_;refine aB (b_ (by rw[h5.1];exact hf.1)) (C (λ_=>H (Aui _) λ_ _=>A h5.2) λ_=>A h5.2)
def Ba2(a b c:Bool)(d e o:Int):Sat (Fc a b c d e o) λy=>y.2.1.2.2.2.2.2.1=o∨y.2.1.2.2.2.2.2.1=0:=by
 unfold Fc;refine H (Q:=λy=>y.2.1.2.2.2.2.2.1=o) ?_ λy1 h1=>?_
 ·refine C (λ_=>?_) λ_=>?_<;>exact C (λ_=>C (λ_=>A rfl) λ_=>A rfl) λ_=>C (λ_=>A rfl) λ_=>A rfl
 refine H (Q:=λy=>y.2.2.1.2.2.2.2.2.1=o) ?_ λy2 h2=>?_
 ·refine C (λ_=>?_) λ_=>?_<;>exact C (λ_=>C (λ_=>A h1) λ_=>A h1) λ_=>C (λ_=>A h1) λ_=>A h1
 exact C (λ_=>A (.inl h2)) λ_=>C (λ_=>A (.inl h2)) λ_=>C (λ_=>A (.inl h2)) λ_=>C (λ_=>A (.inl h2)) λ_=>C (λ_=>A (.inl h2)) λ_=>A (.inr rfl)
def dir2(n:Int):Prop:=0≤n∧n≤2
def dir2.zero:dir2 0:=⟨τ,τ⟩
def dir2.one:dir2 1:=⟨τ,τ⟩
def dir2.two:dir2 2:=⟨τ,τ⟩
def Bds(a b c:Bool)(d e o:Int):Sat (Fp a b c d e o) λy=>dir2 y.1.1:=by unfold Fp;refine H (Q:=λ_=>True) Sat.go λy1 _=>?_;exact C (λ_=>A dir2.one) λ_=>C (λ_=>A dir2.two) λ_=>A dir2.zero
def chP(y:(Unit×Unit)×((Int×Int×Int×Unit)×Unit)):Prop:=dir2 y.2.1.2.1∧dir2 y.2.1.2.2.1
def Aro{f:Int}(c:Bool)(a:Int){s:Int}(o:Bool)(b:Int)(hf:dir2 f)(hs:dir2 s):Sat (GL f c a s o b) λy=>dir2 y.1.1:=by unfold GL;exact C (λ_=>A hf) λ_=>C (λ_=>A hf) λ_=>C (λ_=>A hs) λ_=>C (λ_=>A hs) λ_=>A dir2.zero
def VY(h:dir2 n):Sat (Du n) chP:=A ⟨h,h⟩
def Baq(a b c:Bool)(d e o:Int):Sat (Fb a b c d e o) chP:=by unfold Fb;refine H (Bds ..) λy h=>?_;refine C (λ_=>H (VY dir2.one) λ_ h=>A h) λ_=>C (λ_=>H (VY dir2.two) λ_ h=>A h) λ_=>C (λ_=>H (VY h) λ_ h=>A h) λ_=>?_;exact C (λ_=>A ⟨h,dir2.zero⟩) λ_=>C (λ_=>A ⟨h,dir2.zero⟩) λ_=>A ⟨dir2.zero,dir2.zero⟩
def Ah2(a b c:Bool)(d e o:Int):Sat (DB a b c d e o) chP:=by unfold DB;refine H (Q:=λ_=>True) Sat.go λy1 _=>?_;refine C (λ_=>H (Aro _ _ _ _ dir2.two dir2.one) λ_ h=>H (VY h) λ_ h=>A h) λ_=>C (λ_=>A ⟨dir2.two,dir2.zero⟩) λ_=>?_;exact C (λ_=>H (VY dir2.one) λ_ h=>A h) λ_=>C (λ_=>A ⟨dir2.one,dir2.zero⟩) λ_=>A ⟨dir2.zero,dir2.zero⟩
def Bd8(a b c:Bool)(d e o:Int):Sat (Fq a b c d e o) chP:=by unfold Fq;refine H (Q:=λ_=>True) Sat.go λy1 _=>?_;refine C (λ_=>H (Aro _ _ _ _ dir2.one dir2.two) λ_ h=>H (VY h) λ_ h=>A h) λ_=>C (λ_=>A ⟨dir2.one,dir2.zero⟩) λ_=>?_;exact H (Ah2 ..) λ_ h=>A h
def Alq{w o f:Int}(a b c:Int)(h:0≤fl)(hf:0≤f∧f<32)(hw:dir2 w):Sat (Ge fl w o f a b c) λy=>chP ((((),()),y.2))∧(y.1.2.1=o∨y.1.2.1=0):=by
 unfold Ge;refine H (Bqp _ _ _ _ _ _ _ h hf) λy1 h1=>H (Ba2 ..) λy2 h2=>?_;rw[h1]at h2;refine H (Q:=λy=>chP ((((),()),y.2))∧(y.1.2.1=o∨y.1.2.1=0)) ?_ λy6 h6=>A h6;refine aB (Ac hw.1 (by have:=hw.2;show w<(3:Int);omega)) ?_;refine C (λ_=>H (Baq ..) λ_ h=>A ⟨h,h2⟩) λn0=>C (λ_=>H (Bd8 ..) λ_ h=>A ⟨h,h2⟩) λn1=>?_;have e:Nat.beq (O w) 2=B:=by
  have a0:¬O w=0:=λq=>by rw[q]at n0;cases n0
  have a1:¬O w=1:=λq=>by rw[q]at n1;cases n1
  have:O w=2:=by have:=hw.1;have:=hw.2;omega
  rw[this];rfl
 exact aB e (H (Ah2 ..) λ_ h=>A ⟨h,h2⟩)
def S2(d o:Int):Prop:=dir2 d∧0≤o∧o≤7
def S2.zero{d:Int}(h:dir2 d):S2 d 0:=⟨h,τ,τ⟩
def Anr(fl w o f:Int):Sat (Gf fl w o f) λy=>y.1.1=B→2≤fl∧fl≤32∧0≤f∧f<fl∧S2 w o:=by
 unfold Gf;refine H (Q:=λy=>y.1.1=B→2≤fl∧fl≤32∧0≤f∧f<fl∧S2 w o) ?_ λy hy=>A hy;refine C (λa=>C (λb=>C (λc=>C (λd=>?_) λ_=>A λq=>by cases q) λ_=>A λq=>by cases q) λ_=>A λq=>by cases q) λ_=>A λq=>by cases q
 refine Sat.bindE (Ka { Bu with V1:=w,F1:=o }) (A λq=>?_);have q:(E 0 2 w&&E 0 7 o)=B:=q;rw[e_]at q;exact⟨m_ a,m_ b,m_ c,m_ d,Ap.1 q.1,Ap.1 q.2⟩
def Ba9(fl w o f a b c:Int):Sat (HZ fl w o f a b c) chP:=by unfold HZ;refine H (Anr ..) λy h=>C (λ_=>A ⟨dir2.zero,dir2.zero⟩) λq=>?_;obtain⟨h1,h2,h3,h4,h5⟩:=h (by simpa using q);exact H (Alq _ _ _ ω ⟨h3,ω⟩ h5.1) λ_ h=>A h.1
def Bd4:∀(o:Fin 8) (s:Fin 3),0≤L.wrap (stk ((o.val:Nat):Int) (aC L ((1:Int)*((2:Int)^(Min.min (O ((s.val:Nat):Int)) (IntKind.bits L))))) (BitVec.toNat ((aE (IntKind.bits L) ((o.val:Nat):Int))|||(aE (IntKind.bits L) (aC L ((1:Int)*((2:Int)^(Min.min (O ((s.val:Nat):Int)) (IntKind.bits L)))))))))∧L.wrap (stk ((o.val:Nat):Int) (aC L ((1:Int)*((2:Int)^(Min.min (O ((s.val:Nat):Int)) (IntKind.bits L))))) (BitVec.toNat ((aE (IntKind.bits L) ((o.val:Nat):Int))|||(aE (IntKind.bits L) (aC L ((1:Int)*((2:Int)^(Min.min (O ((s.val:Nat):Int)) (IntKind.bits L)))))))))≤7:=by decide
def Bjn(fl w o f a b c:Int):Sat (Jr fl w o f a b c) λy=>S2 y.2.1.1 y.2.1.2.1:=by
 unfold Jr;refine H (Anr ..) λy h=>C (λ_=>A (S2.zero dir2.zero)) λq=>?_;obtain⟨h1,h2,h3,h4,h5⟩:=h (by simpa using q);refine H (Alq _ _ _ ω ⟨h3,ω⟩ h5.1) λy2 h=>?_;refine C (λ_=>A (S2.zero h.1.1)) λ_=>aB (b_ h.1.2.1) (A ⟨h.1.1,?_⟩);have ho:0≤y2.1.2.1∧y2.1.2.1<8:=by have h5a:=h5.2.1;have h5b:=h5.2.2;rcases h.2 with e | e<;>rw[e]<;>omega
 have hs:dir2 y2.2.1.2.2.1:=h.1.2;have key:=Bd4 ⟨y2.1.2.1.toNat,ω⟩ ⟨y2.2.1.2.2.1.toNat,by have:=hs.1;have:=hs.2;omega⟩;rw[show((y2.1.2.1.toNat:Nat):Int)=y2.1.2.1 from e5_ ho.1,show((y2.2.1.2.2.1.toNat:Nat):Int)=y2.2.1.2.2.1 from e5_ hs.1]at key;exact key
end Go.Ovl
