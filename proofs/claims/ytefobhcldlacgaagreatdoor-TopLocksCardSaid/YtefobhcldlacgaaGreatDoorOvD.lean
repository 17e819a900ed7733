import Derived.Test.YtefobhcldlacgaaGreatDoorOvC
import Derived.Test.YtefobhcldlacgaaGreatDoorOvB
import Derived.Test.YtefobhcldlacgaaGreatDoorOvA
set_option linter.all false
open Bool renaming true->A,false->D
open Go.Ovl renaming inR->B,Bldg->I,NewCar->J
open Option renaming some->C
open Go renaming c_->E,b_->H
open List renaming replicate->L
open Go.Ovl.Duty renaming mk->aA
open Int renaming toNat->aB
open Go.IntKind renaming i64->aC
namespace Go.Ovl
open Go Go.Ab
set_option maxRecDepth 100000
variable{b:I}{s:Sto}{m:Img}{bud n room fl:Int}{r:Record}{t:List UInt8}{c:Car}
section
variable{s:Sto}{room half bud:Int}(hs:s.ok room)(hh:half=0∨half=1)(hb:0≤bud)
include hs hh hb
theorem Ayf:s.chk room half bud=0:=by unfold Sto.chk;rw[if_pos hs,if_neg ω]
theorem Aci(hr:((s.get half).size:Int)+(t.length:Int)≤room):s.write room half (txt t) bud=if bud<(t.length:Int)then(s.set half (s.get half++txt (t.take bud.toNat)),0,8)else(s.set half (s.get half++txt t),bud-(t.length:Int),0):=by have he:(txt t).extract 0 bud.toNat=txt (t.take bud.toNat):=Py (by rw[NI,HC,HC];simp);unfold Sto.write;rw[Ayf hs hh hb,if_neg ω,Lm,if_neg ω,he]
theorem Axt(t:Sto):s.act room half bud t=if bud=0 then(s,0,8)else(t,bud-1,0):=by unfold Sto.act;rw[Ayf hs hh hb,if_neg ω]
end
def TK{half:Int}(hs:s.ok room){x:ByteArray}(hx:(x.size:Int)≤room):(s.set half x).ok room:=by
 obtain⟨h1,h2,h3,h4,h5⟩:=hs;unfold Sto.set Sto.ok;split
 ·exact⟨h1,h2,hx,h4,h5⟩
 ·exact⟨h1,h2,h3,hx,h5⟩
def Az8{half:Int}(hs:s.ok room)(hh:half=0∨half=1):Sto.ok room { s with sel:=half }:=by obtain⟨h1,h2,h3,h4,_⟩:=hs;exact⟨h1,h2,h3,h4,hh⟩
def UI(hs:s.ok room):s.sel=0∨s.sel=1:=hs.2.2.2.2
def Afl(hh:s.sel=0∨s.sel=1):s.cur=s.get s.sel:=by unfold Sto.cur Sto.get;rcases hh with h | h<;>rw[h]<;>rfl
def Apz(hh:s.sel=0∨s.sel=1)(x:ByteArray):(s.set s.sel x).cur=x:=by
  obtain⟨h0,h1,sel⟩:=s;rcases hh with h | h<;>
    (simp only at h
     subst h;simp[Sto.cur,Sto.set])
def Ag9(hh:s.sel=0∨s.sel=1)(x:ByteArray):(s.set (1-s.sel) x).cur=s.cur:=by
  obtain⟨h0,h1,sel⟩:=s;rcases hh with h | h<;>
    (simp only at h
     subst h;simp[Sto.cur,Sto.set])
def Ahq(hh:s.sel=0∨s.sel=1)(x:ByteArray):(s.set (1-s.sel) x).get (1-s.sel)=x:=by
  obtain⟨h0,h1,sel⟩:=s;rcases hh with h | h<;>
    (simp only at h
     subst h;simp[Sto.set,Sto.get])
def Aim(hh:s.sel=0∨s.sel=1)(x y:ByteArray):(s.set (1-s.sel) x).set (1-s.sel) y=s.set (1-s.sel) y:=by
  obtain⟨h0,h1,sel⟩:=s;rcases hh with h | h<;>
    (simp only at h
     subst h;simp[Sto.set])
def Ac9(hh:s.sel=0∨s.sel=1)(x:ByteArray):Sto.cur { s.set (1-s.sel) x with sel:=1-s.sel }=x:=by
  obtain⟨h0,h1,sel⟩:=s;rcases hh with h | h<;>
    (simp only at h
     subst h;simp[Sto.cur,Sto.set])
def YX(hb:b.small)(hc:b.B0.length≤100){rs:List Record}(h:bl s.cur=rs.flatMap CC++t)(ht:t.length<6)(hv:∀r∈rs,Ax b r=A):Dv b s=Ai (FG b) rs:=by
 unfold Dv Ns;have hl:s.cur.size=6*rs.length+t.length:=by rw[← Ev,h,h_,Afv]
 rw[h,Ani hb hc ht rs s.cur.size ω hv]
structure Jst(b:Bldg)(s:Sto)(m:Img):Prop where
 ok:s.ok b.H0
 img:ImgOK b m
 rs:∃rs:List Record,bl s.cur=rs.flatMap CC∧(∀r∈rs,Ax b r=true)∧Ai (FG b) rs=m
 fits:18*((b.B0.length:Int)+(m.A0.length:Int))+6≤b.H0
def Ag0(hs:Bj m.A0)(h:r.Q0=1→FY (Aw r.E0 r.I0) m.A0=A):(Ak m r).A0.length≤m.A0.length:=by
 unfold Ak;cases r.Q0==4 with
 |true=>exact y_ _
 |false=>
 cases r.Q0==5 with
 |true=>exact y_ _
 |false=>
 cases r.Q0==6 with
 |true=>exact y_ _
 |false=>
 simp only[E];have hf:=Rr (c:=Aw r.E0 r.I0) 0 hs;rw[show DM r.E0 r.I0 m.A0 0=_ from hf];cases hq:FY (Aw r.E0 r.I0) m.A0 with
 |false=>
  simp only[E,l_,d_];by_cases k1:r.Q0=1
  ·rw[h k1]at hq;cases hq
  ·rw[An k1];exact y_ _
 |true=>
  rw[d_,An (ω:¬((0+AA (Aw r.E0 r.I0) m.A0:Nat):Int)=-1),E];cases r.Q0==2 with
  |true=>show(m.A0.take _++m.A0.drop _).length≤_;rw[h_,u_,V_];omega
  |false=>
  cases r.Q0==3 with
  |true=>show(m.A0.set _ _).length≤_;rw[x_];exact y_ _
  |false=>
  cases r.Q0==7 with
  |true=>show(m.A0.set _ _).length≤_;rw[x_];exact y_ _
  |false=>exact y_ _
def Yp(hj:Jst b s m)(hv:Ax b r=A)(hfull:Jt b m r=D):18*((b.B0.length:Int)+((Ak m r).A0.length:Int))+6≤b.H0:=by
 have h0:=hj.fits;have h2:=(KH hj.img hv).2;by_cases hk:r.Q0=1
 ·cases hq:FY (Aw r.E0 r.I0) m.A0 with
  |true=>have:=Ag0 hj.img.so λ_=>hq;omega
  |false=>unfold Jt JU at hfull;rw[hk,hq,Img.ok_iff.2 hj.img]at hfull;simp at hfull;omega
 ·have:=Ag0 hj.img.so (r:=r) λh=>absurd h hk
  omega
def Acf(h:ImgOK b m):(((Es m).flatMap CC).length:Int)=18*((b.B0.length:Int)+(m.A0.length:Int)):=by rw[Afv,Air,h.lp];omega
def Wk(hs:s.ok b.H0)(hm:ImgOK b m)(hb0:0≤bud)(hfit:18*((b.B0.length:Int)+(m.A0.length:Int))≤b.H0):
  (2+18*((b.B0.length:Int)+(m.A0.length:Int))≤bud∧FE b s m bud=({ s.set (1-s.sel) (txt ((Es m).flatMap CC))with sel:=1-s.sel },bud-(2+18*((b.B0.length:Int)+(m.A0.length:Int))),0))∨
  (bud<2+18*((b.B0.length:Int)+(m.A0.length:Int))∧∃s',FE b s m bud=(s',0,8)∧s'.ok b.H0∧s'.cur=s.cur):=by
 have hsel:=UI hs;have hh:1-s.sel=0∨1-s.sel=1:=ω;have hL:=Acf hm;have hroom:=hs.1;have he:s.erase b.H0 (1-s.sel) bud=if bud=0 then(s,0,8)else(s.set (1-s.sel) noB,bud-1,0):=Axt hs hh hb0 _
 unfold FE;rw[H hs,f_ (ω:¬bud<0),Img.ok_iff.2 hm];simp only[q_,E];generalize hT:(Es m).flatMap CC=T at hL⊢;by_cases h0:bud=0
 ·right;rw[he,if_pos h0];exact⟨ω,s,rfl,hs,rfl⟩
 ·rw[if_neg h0]at he;rw[he];have hs1:(s.set (1-s.sel) noB).ok b.H0:=TK hs (by show(0:Int)≤_;omega);have hw:=Aci (t:=T) hs1 hh (ω:0≤bud-1) (by rw[Ahq hsel];show((0:Nat):Int)+_≤_;omega);rw[Ahq hsel,Aim hsel,Aim hsel]at hw;have nb:∀x:ByteArray,noB++x=x:=λx=>Py (by rw[Ly];rfl);rw[nb,nb]at hw;simp only[l_,d_,hw];by_cases h1:bud-1<(T.length:Int)
  ·right;rw[if_pos h1];refine⟨ω,_,rfl,TK hs ?_,Ag9 hsel _⟩;rw[Lm,u_];omega
  ·rw[if_neg h1];have hs2:(s.set (1-s.sel) (txt T)).ok b.H0:=TK hs (by rw[Lm];omega);have hc:=Axt hs2 hh (ω:0≤bud-1-(T.length:Int)) { s.set (1-s.sel) (txt T)with sel:=1-s.sel };have hc':(s.set (1-s.sel) (txt T)).choose b.H0 (1-s.sel) (bud-1-(T.length:Int))=_:=hc;simp only[l_,d_,hc'];by_cases h2:bud-1-(T.length:Int)=0
   ·right;rw[if_pos h2];exact⟨ω,_,rfl,hs2,Ag9 hsel _⟩
   ·left;rw[if_neg h2,show bud-1-(T.length:Int)-1=bud-(2+18*((b.B0.length:Int)+(m.A0.length:Int)))by omega];exact⟨ω,rfl⟩
def QP(b:I)(s:Sto)(m:Img)(r:Record):Int:=if(s.cur.size:Int)+6≤b.H0 then 6 else 2+18*((b.B0.length:Int)+((Ak m r).A0.length:Int))
def Axx(hb:b.small)(hj:Jst b s m)(hv:Ax b r=A)(hfull:Jt b m r=D)(hb0:0≤bud):
  (QP b s m r≤bud∧∃s',Qh b s m r bud=(s',Ak m r,bud-QP b s m r,0)∧Jst b s' (Ak m r))∨
  (bud<QP b s m r∧∃s',Qh b s m r bud=(s',m,0,8)∧s'.ok b.H0∧Dv b s'=m):=by
 have hcars:=Aj hj.img.code;have hc:b.B0.length≤100:=ω;have hm2:=(KH hj.img hv).1;have hfit:=Yp hj hv hfull;obtain⟨rs,e1,e2,e3⟩:=hj.rs;have hsel:=UI hj.ok;unfold Qh;rw[Img.ok_iff.2 hj.img,hv,H hj.ok,f_ (ω:¬bud<0),hfull];simp only[a6_,q_,E];unfold QP FI;by_cases g:(s.cur.size:Int)+6≤b.H0
 ·rw[if_pos g,H (ω:(6:Int)≤b.H0-(s.cur.size:Int)),d_];have hw:=Aci (t:=CC r) hj.ok hsel hb0 (by rw[← Afl hsel,GC];omega);rw[GC,← Afl hsel]at hw;rw[hw];by_cases h1:bud<((6:Nat):Int)
  ·right;rw[if_pos h1];have hl:((CC r).take bud.toNat).length<6:=by rw[u_,GC];omega
   refine⟨ω,_,rfl,TK hj.ok ?_,?_⟩
   ·rw[← Ev,Ly,HC,h_,Ev];omega
   ·rw[YX hb hc (rs:=rs) (t:=(CC r).take bud.toNat) (by rw[Apz hsel,Ly,HC,e1]) hl e2,e3]
  ·left;rw[if_neg h1];refine⟨ω,_,rfl,TK hj.ok ?_,hm2,⟨rs++[r],?_,?_,?_⟩,hfit⟩
   ·rw[← Ev,Ly,HC,h_,Ev,GC];omega
   ·rw[Apz hsel,Ly,HC,e1,List.flatMap_append];simp
   ·intro x hx;rcases n_.1 hx with hx | hx
    ·exact e2 x hx
    ·rw[E_.1 hx];exact hv
   ·rw[Eh,e3];rfl
 ·rw[if_neg g,f_ (ω:¬(6:Int)≤b.H0-(s.cur.size:Int)),E];rcases Wk hj.ok hm2 hb0 ω with⟨q1,q2⟩ | ⟨q1,s',q2,q3,q4⟩
  ·left;rw[q2];refine⟨q1,_,rfl,Az8 (TK hj.ok ?_) ω,hm2,⟨Es (Ak m r),?_,Xo hm2,Aeq hm2⟩,hfit⟩
   ·rw[Lm,Acf hm2];omega
   ·rw[Ac9 hsel,HC]
  ·right;rw[q2];refine⟨q1,s',rfl,q3,?_⟩;rw[YX hb hc (rs:=rs) (t:=[]) (by rw[q4,e1,Z_]) σ e2,e3]
def Jst.replay(hb:b.small)(hj:Jst b s m):Dv b s=m:=by have hcars:=Aj hj.img.code;obtain⟨rs,e1,e2,e3⟩:=hj.rs;rw[YX hb ω (rs:=rs) (t:=[]) (by rw[e1,Z_]) σ e2,e3]
def Jst.first(hcode:b.code=0):Jst b Sto.no (FG b):=by
 have hr:=Yg hcode;have hcars:=Aj hcode;refine⟨⟨ω,ω,?_,?_,.inl rfl⟩,Abj hcode,⟨[],rfl,(λr h=>by cases h),rfl⟩,?_⟩
 ·show(0:Int)≤_;omega
 ·show(0:Int)≤_;omega
 ·show 18*((b.B0.length:Int)+((0:Nat):Int))+6≤_;omega
def Jst.ents(hj:Jst b s m):m.A0.length≤4000∧m.fit:=by have h1:=hj.fits;have h2:=(Yg hj.img.code).2;have h3:=Aj hj.img.code;have g1:=hj.img.lp;have g2:=hj.img.lf;have g3:=hj.img.ll;exact⟨ω,ω,ω,ω,ω⟩
def Az4(s:Sto)(m:Img)(bud e:Int):(Unit×Unit×Int×Int×Unit)×((ByteArray×ByteArray×Int×Unit)×(List Int×List Bool×List Bool×List Entry×Unit)×Unit):=(((),(),bud,e,()),((s.h0,s.h1,s.sel,()),m.tup,()))
def Di(b:I)(s:Sto)(bud:Int):Sto×Img×Int×Int:=
 bif(FE b s (Dv b s) bud).2.2 !=0 then((FE b s (Dv b s) bud).1,Img.none,0,(FE b s (Dv b s) bud).2.2)
 else((FE b s (Dv b s) bud).1,Dv b s,(FE b s (Dv b s) bud).2.1,0)
def Aie(hcode:b.code=0)(s:Sto)(hs:s.cur.size≤500000):ImgOK b (Dv b s)∧(Dv b s).A0.length≤90000∧(Dv b s).fit:=by have hc:=Aj hcode;obtain⟨h1,h2⟩:=XU (Abj hcode) (rs:=Ns b s.cur) λr hr=>Vk b _ _ r hr;have h3:=YV b s.cur.size (bl s.cur);rw[Ev]at h3;have h4:(FG b).A0.length=0:=rfl;have h5:(Ns b s.cur).length=(Jy b s.cur.size (bl s.cur)).length:=rfl;have g1:=h1.lp;have g2:=h1.lf;have g3:=h1.ll;exact⟨h1,by show(Ai (FG b) (Ns b s.cur)).A0.length≤_;omega,by show(Ai (FG b) (Ns b s.cur)).G0.length≤_;omega,by show(Ai (FG b) (Ns b s.cur)).O0.length≤_;omega,by show(Ai (FG b) (Ns b s.cur)).J0.length≤_;omega,by show(Ai (FG b) (Ns b s.cur)).A0.length≤_;omega⟩
def Aga(hb:b.small)(hcode:b.code=0)(s:Sto)(hs:s.cur.size≤500000)(hbud:bud<9223372036854775808):
  NT b.C0 b.F0 b.H0 b.M0 b.K0 b.L0 b.N0 b.B0 s.h0 s.h1 s.sel bud=C (Az4 (Di b s bud).1 (Di b s bud).2.1 (Di b s bud).2.2.1 (Di b s bud).2.2.2):=by
 have hc:=Aj hcode;obtain⟨_,_,hf⟩:=Aie hcode s hs;unfold NT Di;rw[Ajb hb hcode s hs];simp only[a_,Img.tup];rw[VD hb ω s hf hbud];simp only[a_,Sto.out];generalize FE b s (Dv b s) bud=w;cases w.2.2 !=0<;>rfl
def WD(b:I)(m:Img):Bool:=m.ok b&&decide (18*((b.B0.length:Int)+(m.A0.length:Int))+6≤b.H0)
def Bx7{a b:Nat}(h:a≤100000)(h':b≤100000):aC.wrap (IntKind.wrap aC (18*aC.wrap ((a:Int)+(b:Int)))+6)=18*((a:Int)+(b:Int))+6:=by rw[Aa (n:=(a:Int)+(b:Int)) ω ω,Aa (n:=18*((a:Int)+(b:Int))) ω ω,Aa ω ω]
def UG(hb:b.small)(m:Img)(hc:b.B0.length≤100000)(hf:m.fit):HW b.C0 b.F0 b.H0 b.M0 b.K0 b.L0 b.N0 b.B0 m.G0 m.O0 m.J0 m.A0=C ((WD b m,()),()):=by
 have hmx:100000≤maxLen:=by decide
 have hp:=hf.p;have he:=hf.e;unfold HW WD;rw[CY hb m ω ω];simp only[a_,Bx7 hc he];cases m.ok b<;>rfl
def ZX(m:Img)(hf:m.fit):Ij m.G0 m.O0 m.J0 m.A0=C (((),()),(m.tup,())):=by
 have k:∀{α:Type}(l:List α),l.length≤100000→NB l=C ((l,()),()):=λl h=>by unfold NB;rw[AD (ω:l.length≤2147483648)];rfl
 unfold Ij Be AK AO;rw[k _ hf.p,k _ hf.f,k _ hf.l,k _ hf.e];rfl
def VF:Belief:=⟨-1,0,0,[],0,D⟩
def Kt(b:I)(i:Nat):Car:=b.B0.getD i ⟨0,0,0,0,0,0,0,0,0⟩
def SG(b:I)(e:Entry):Int:=bif decide (0≤e.R0)then(Kt b e.R0.toNat).K1 else 0
def Mch.none:Mch:=⟨Img.none,Sto.no,[],[],[],[],[],[],0,0,0⟩
def Ado(b:I)(m:Img)(s:Sto):Mch:=⟨m,s,L b.B0.length Du,L b.B0.length VF,L b.B0.length Bw,L b.B0.length Aby,m.A0.map (SG b),L b.B0.length Agj,0,0,0⟩
def Mch.withB(m:Mch)(l:List Belief):Mch:={ m with U0:=l }
def Mch.withE(m:Mch)(l:List Int):Mch:={ m with Y1:=l }
def Anl{α:Type}(a:α):∀k i:Nat,(List.range' i k).flatMap (λ_=>[a])=L k a
 |0,_=>rfl
 |k+1,i=>by rw[d8_,a1_,Anl a k (i+1),List.replicate_succ];rfl
def Bc5{α β:Type}(f:α→β)(l:List α):l.flatMap (λx=>[f x])=l.map f:=by
 induction l with
 |nil=>rfl
 |cons a t ih=>rw[a1_,ih];rfl
def An6(b:I)(hc:b.B0.length≤1000)(m:Img)(z o:Mch)(ho:o.U0=[]):Hz (((),(),(),(),(b.B0.length:Int),(0:Int),()),(b.tup,m.tup,z.tup,o.tup,()))=C (((),(),(),(),()),(b.tup,m.tup,z.tup,(o.withB (L b.B0.length VF)).tup,())):=by
 have h:=Bc (step:=λx=>letI d:=x.2.2.2;letI j:=d.2.1.2;letI a:=j.2.2.2.2;letI k:=d.1.2;letI c:=k.2.2.2.2;letI e:=c.2.2.2.2;letI f:=a.2.2.2.2;letI g:=x.2.1.2.2;letI n:=e.2.2;letI q:=f.2.2;letI r:=g.2.2;letI s:=x.2.2.1;FR x.1.2.2.2.2.1 x.1.2.2.2.2.2.1 x.2.1.1 x.2.1.2.1 g.1 g.2.1 r.1 r.2.1 r.2.2.1 r.2.2.2.1 s.1 s.2.1 s.2.2.1 s.2.2.2.1 d.1.1 k.1 k.2.1 k.2.2.1 k.2.2.2.1 c.1 c.2.1 c.2.2.1 c.2.2.2.1 e.1 e.2.1 n.1 n.2.1 n.2.2.1 n.2.2.2.1 n.2.2.2.2.1 d.2.1.1 j.1 j.2.1 j.2.2.1 j.2.2.2.1 a.1 a.2.1 a.2.2.1 a.2.2.2.1 f.1 f.2.1 q.1 q.2.1 q.2.2.1 q.2.2.2.1 q.2.2.2.2.1) b.B0.length (λi (l:List Belief)=>(((),(),(),(),(b.B0.length:Int),(i:Int),()),(b.tup,m.tup,z.tup,(o.withB l).tup,()))) (λ_ l=>l++[VF]) (λi l=>l.length≤i) (λl=>(((),(),(),(),()),(b.tup,m.tup,z.tup,(o.withB l).tup,()))) (λi l hi hl=>by
  refine⟨?_,by rw[h_,H_];omega⟩;show FR (b.B0.length:Int) (i:Int) b.C0 b.F0 b.H0 b.M0 b.K0 b.L0 b.N0 b.B0 m.G0 m.O0 m.J0 m.A0 z.D0.G0 z.D0.O0 z.D0.J0 z.D0.A0 z.D1.h0 z.D1.h1 z.D1.sel z.E1 z.U0 z.B0 z.V2 z.Y1 z.Y2 z.Z3 z.Z2 z.M2 (o.withB l).D0.G0 (o.withB l).D0.O0 (o.withB l).D0.J0 (o.withB l).D0.A0 (o.withB l).D1.h0 (o.withB l).D1.h1 (o.withB l).D1.sel (o.withB l).E1 (o.withB l).U0 (o.withB l).B0 (o.withB l).V2 (o.withB l).Y1 (o.withB l).Y2 (o.withB l).Z3 (o.withB l).Z2 (o.withB l).M2=_;unfold FR Fk;simp only[H (ω:(i:Int)<(b.B0.length:Int)),d_,a_,Hn hi (show b.B0.length≤Bs by unfold Bs;omega)];rw[AD (show(o.withB l).U0.length+[Belief.mk (-1) 0 0 [] 0 D].length≤2147483648 by show l.length+1≤_;omega)];rfl) (λl _=>by
  show FR (b.B0.length:Int) (b.B0.length:Int) b.C0 b.F0 b.H0 b.M0 b.K0 b.L0 b.N0 b.B0 m.G0 m.O0 m.J0 m.A0 z.D0.G0 z.D0.O0 z.D0.J0 z.D0.A0 z.D1.h0 z.D1.h1 z.D1.sel z.E1 z.U0 z.B0 z.V2 z.Y1 z.Y2 z.Z3 z.Z2 z.M2 (o.withB l).D0.G0 (o.withB l).D0.O0 (o.withB l).D0.J0 (o.withB l).D0.A0 (o.withB l).D1.h0 (o.withB l).D1.h1 (o.withB l).D1.sel (o.withB l).E1 (o.withB l).U0 (o.withB l).B0 (o.withB l).V2 (o.withB l).Y1 (o.withB l).Y2 (o.withB l).Z3 (o.withB l).Z2 (o.withB l).M2=_;unfold FR;simp only[f_ (Q_ (b.B0.length:Int)),E];rfl) b.B0.length 0 [] ω σ
 have h':=As h.1 ω;rw[MH (λ_=>[VF]),Anl,a5_]at h';rw[show o.tup=(o.withB []).tup by unfold Mch.withB Mch.tup;rw[ho]];exact h'
def An7(b:I){l:List Entry}(hl:l.length≤100000)(hcar:∀e∈l,e.R0<(b.B0.length:Int))(z o:Mch)(ho:o.Y1=[]):HA (((),(),(),l,(l.length:Int),(0:Int),()),(b.tup,z.tup,o.tup,()))=C (((),(),()),(z.tup,(o.withE (l.map (SG b))).tup,())):=by
 have h:=Bc (step:=λx=>letI j:=x.2.2;letI n:=j.2.1.2;letI a:=n.2.2.2.2;letI m:=j.1.2.2;letI c:=m.2.2.2.2;letI d:=a.2.2.2.2;letI f:=c.2.2.2.2;letI k:=x.2.1.2.2;letI r:=d.2.2;letI s:=k.2.2;letI u:=f.2.2;FS x.1.2.2.2.1 x.1.2.2.2.2.1 x.1.2.2.2.2.2.1 x.2.1.1 x.2.1.2.1 k.1 k.2.1 s.1 s.2.1 s.2.2.1 s.2.2.2.1 j.1.1 j.1.2.1 m.1 m.2.1 m.2.2.1 m.2.2.2.1 c.1 c.2.1 c.2.2.1 c.2.2.2.1 f.1 f.2.1 u.1 u.2.1 u.2.2.1 u.2.2.2.1 j.2.1.1 n.1 n.2.1 n.2.2.1 n.2.2.2.1 a.1 a.2.1 a.2.2.1 a.2.2.2.1 d.1 d.2.1 r.1 r.2.1 r.2.2.1 r.2.2.2.1 r.2.2.2.2.1) l.length (λi (q:List Int)=>(((),(),(),l,(l.length:Int),(i:Int),()),(b.tup,z.tup,(o.withE q).tup,()))) (λi q=>q++[SG b (l.getD i noE)]) (λi q=>q.length≤i) (λq=>(((),(),()),(z.tup,(o.withE q).tup,()))) (λi q hi hq=>by
  refine⟨?_,by rw[h_,H_];omega⟩;have hc:=hcar _ (BN noE hi);have b1:∀v:Int,Nat.ble ((o.withE q).Y1.length+[v].length) 2147483648=A:=λv=>AD (by show q.length+1≤_;omega);show FS l (l.length:Int) (i:Int) b.C0 b.F0 b.H0 b.M0 b.K0 b.L0 b.N0 b.B0 z.D0.G0 z.D0.O0 z.D0.J0 z.D0.A0 z.D1.h0 z.D1.h1 z.D1.sel z.E1 z.U0 z.B0 z.V2 z.Y1 z.Y2 z.Z3 z.Z2 z.M2 (o.withE q).D0.G0 (o.withE q).D0.O0 (o.withE q).D0.J0 (o.withE q).D0.A0 (o.withE q).D1.h0 (o.withE q).D1.h1 (o.withE q).D1.sel (o.withE q).E1 (o.withE q).U0 (o.withE q).B0 (o.withE q).V2 (o.withE q).Y1 (o.withE q).Y2 (o.withE q).Z3 (o.withE q).Z2 (o.withE q).M2=_;unfold FS;rw[show Entry.mk 0 0 0 0 D=noE from rfl];simp only[H (ω:(i:Int)<(l.length:Int)),Ac (ω:(0:Int)≤(i:Int)) (ω:(i:Int)<(l.length:Int)),d_,j_];have hex:SG b (l.getD i noE)=bif decide (0≤(l.getD i noE).R0)then(Kt b (l.getD i noE).R0.toNat).K1 else 0:=rfl;rw[hex];by_cases g:0≤(l.getD i noE).R0
  ·rw[H g,Ac g hc];simp only[d_,a_,b1,Hn hi (show l.length≤Bs by unfold Bs;omega)];rfl
  ·rw[f_ g];simp only[E,d_,a_,b1,Hn hi (show l.length≤Bs by unfold Bs;omega)];rfl) (λq _=>by
  show FS l (l.length:Int) (l.length:Int) b.C0 b.F0 b.H0 b.M0 b.K0 b.L0 b.N0 b.B0 z.D0.G0 z.D0.O0 z.D0.J0 z.D0.A0 z.D1.h0 z.D1.h1 z.D1.sel z.E1 z.U0 z.B0 z.V2 z.Y1 z.Y2 z.Z3 z.Z2 z.M2 (o.withE q).D0.G0 (o.withE q).D0.O0 (o.withE q).D0.J0 (o.withE q).D0.A0 (o.withE q).D1.h0 (o.withE q).D1.h1 (o.withE q).D1.sel (o.withE q).E1 (o.withE q).U0 (o.withE q).B0 (o.withE q).V2 (o.withE q).Y1 (o.withE q).Y2 (o.withE q).Z3 (o.withE q).Z2 (o.withE q).M2=_;unfold FS;simp only[f_ (Q_ (l.length:Int)),E];rfl) l.length 0 [] ω σ
 have h':=As h.1 ω;rw[MH (λi=>[SG b (l.getD i noE)]),PQ (λe=>[SG b e]) noE l 0 l.length ω,S_,Bc5,a5_]at h';rw[show o.tup=(o.withE []).tup by unfold Mch.withE Mch.tup;rw[ho]];exact h'
def PH(b:I)(m:Img)(s:Sto):Mch×Int:=bif WD b m&&decide (s.ok b.H0)then(Ado b m s,0)else(Mch.none,1)
def Ab9(hb:b.small)(m:Img)(hf:m.fit)(hc:b.B0.length≤1000)(s:Sto):Ma b.C0 b.F0 b.H0 b.M0 b.K0 b.L0 b.N0 b.B0 m.G0 m.O0 m.J0 m.A0 s.h0 s.h1 s.sel=C (((),(PH b m s).2,()),((PH b m s).1.tup,())):=by
 unfold Ma PH;rw[UG hb m ω hf,GT,ZX m hf];simp only[a_];cases hq:WD b m with
 |false=>rfl
 |true=>
  have hm:ImgOK b m:=by unfold WD at hq;rw[e_]at hq;exact Img.ok_iff.1 hq.1
  by_cases hs:s.ok b.H0
  ·rw[H (show Sto.ok b.H0 ⟨s.h0,s.h1,s.sel⟩from hs)];have e:=hf.e
   let o:Mch:=⟨m,s,L b.B0.length Du,[],L b.B0.length Bw,L b.B0.length Aby,[],L b.B0.length Agj,0,0,0⟩
   have l0:=An6 b hc m Mch.none o rfl;have l1:=An7 b (l:=m.A0) e (λx hx=>(CH.1 (hm.en x hx)).2.1.2) Mch.none (o.withB (L b.B0.length VF)) rfl;simp only[Mch.tup,Img.tup,Bldg.tup,Mch.withB,Mch.withE,Mch.none,Img.none,Sto.no,noB,o]at l0 l1;have dl:∀n:Nat,n≤1000→(decide ((0:Int)≤(n:Int))&&decide ((n:Int)≤(n:Int))&&decide ((n:Int)≤(2147483648:Int)))=A:=λn hn=>by rw[H (ω:(0:Int)≤(n:Int)),H (e1_ (n:Int)),H (ω:(n:Int)≤2147483648)];rfl
   simp only[q_,E,a6_,d_,dl _ hc,j_,Img.tup];rw[show Debounced.mk 0 D D D D 0 0 0 0 0 0 0 0 0 0 0 0 0 0 0 0 0 0 0 0 0 0 0 0 0 0 0 0 0 0 0 0 0 0 0 0=Du from rfl,show NewCar.mk 0 0 0 0 0 D 0 0 0 0 0 0 0 D=Bw from rfl,show Loaded.mk 0=Aby from rfl,show Calls.mk 0 0=Agj from rfl];rw[l0];simp only[a_];rw[l1];rfl
  ·rw[f_ (show ¬Sto.ok b.H0 ⟨s.h0,s.h1,s.sel⟩from hs)];rfl
def Pz(b:I)(s:Sto)(bud:Int):Mch×Int×Int:=
 bif(Di b s bud).2.2.2 !=0 then({ Mch.none with D1:=(Di b s bud).1 },0,(Di b s bud).2.2.2)
 else bif(PH b (Di b s bud).2.1 (Di b s bud).1).2 !=0 then(Mch.none,0,(PH b (Di b s bud).2.1 (Di b s bud).1).2)
 else((PH b (Di b s bud).2.1 (Di b s bud).1).1,(Di b s bud).2.2.1,0)
def Bif(hcode:b.code=0)(s:Sto)(hs:s.cur.size≤500000)(bud:Int):(Di b s bud).2.1.fit:=by
 obtain⟨_,_,hf⟩:=Aie hcode s hs;unfold Di;cases(FE b s (Dv b s) bud).2.2 !=0 with
 |true=>exact⟨a4_ _,a4_ _,a4_ _,a4_ _⟩
 |false=>exact hf
def Aeh(hb:b.small)(hcode:b.code=0)(s:Sto)(hs:s.cur.size≤500000)(hbud:bud<9223372036854775808):Kf b.C0 b.F0 b.H0 b.M0 b.K0 b.L0 b.N0 b.B0 s.h0 s.h1 s.sel bud=C (((),(Pz b s bud).2.1,(Pz b s bud).2.2,()),((Pz b s bud).1.tup,())):=by
 have hc:=Aj hcode;unfold Kf Pz;rw[Aga hb hcode s hs hbud];have hf:=Bif hcode s hs bud;simp only[a_,Az4,Img.tup];generalize Di b s bud=w at hf⊢;cases w.2.2.2 !=0 with
 |true=>rfl
 |false=>simp only[E];rw[Ab9 hb w.2.1 hf ω w.1];simp only[a_,Mch.tup];generalize PH b w.2.1 w.1=f;cases f.2 !=0<;>rfl
def JA(b:I):Mch×Int:=bif b.code==0 then((Pz b Sto.no 1048576).1,(Pz b Sto.no 1048576).2.2)else(Mch.none,1)
def Aca(hb:b.small)(hcode:b.code=0):Fw b.C0 b.F0 b.H0 b.M0 b.K0 b.L0 b.N0 b.B0=C (((),(JA b).2,()),((JA b).1.tup,())):=by unfold Fw JA;rw[AR,hcode];simp only[a_,P_,E,l_,d_];rw[show Kf b.C0 b.F0 b.H0 b.M0 b.K0 b.L0 b.N0 b.B0 (ByteArray.mk (Array.mk [])) (ByteArray.mk (Array.mk [])) 0 1048576=_ from Aeh hb hcode Sto.no τ (bud:=1048576) ω];rfl
def Aqg:∀{l:List Nat}{a n:Nat},l.Pairwise (· < ·)→(∀x∈l,a≤x∧x<n)→l.length+a≤n∨l=[]
 |[],_,_,_,_=>.inr rfl
 |x::t,a,n,h,hr=>by
  left;obtain⟨h1,h2⟩:=e6_.1 h;have hx:=hr x (p_ ..);rcases Aqg (a:=x+1) (n:=n) h2 (λy hy=>⟨h1 y hy,(hr y (r_ _ hy)).2⟩)with q | q
  ·rw[B_];omega
  ·subst q;simp;omega
def Bho(hb:b.small)(hm:ImgOK b m):(m.A0.length:Int)≤2*(b.C0-1):=by
 have lo:=hb.lo;have hi:=hb.hi
 let ix:Int×Int→Nat:=λp=>if p.1=0 then 0 else if p.1=b.C0-1 then(2*b.C0-3).toNat else(2*p.1+p.2-2).toNat
 have hv:∀p∈m.A0.map BR,(p.2=1∧0≤p.1∧p.1≤b.C0-2)∨(p.2=2∧1≤p.1∧p.1≤b.C0-1):=λp hp=>by obtain⟨e,he,rfl⟩:=b6_.1 hp;have h1:=(CH.1 (hm.en e he)).1;unfold Ap Oj at h1;simp only[e_,R_,U_,Ao]at h1;show(e.I0=1∧0≤e.E0∧e.E0≤b.C0-2)∨(e.I0=2∧1≤e.E0∧e.E0≤b.C0-1);omega
 have hp:((m.A0.map BR).map ix).Pairwise (· < ·):=by rw[List.pairwise_map];refine List.Pairwise.imp_of_mem (λ{p q} hp hq h=>?_) hm.so;have v1:=hv p hp;have v2:=hv q hq;unfold ltC at h;show ix p<ix q;simp only[ix];split<;>split<;>(try split)<;>(try split)<;>omega
 rcases Aqg (a:=0) (n:=(2*b.C0-2).toNat) hp (λx hx=>by
  obtain⟨p,hp,rfl⟩:=b6_.1 hx;have v1:=hv p hp;refine⟨a4_ _,?_⟩;show ix p<_;simp only[ix];split
  ·omega
  ·split<;>omega)with q | q
 ·rw[b2_,b2_]at q;omega
 ·have:=c0_ List.length q
  rw[b2_,b2_,d7_]at this;omega
def Aqd(hm:ImgOK b m)(hfit:18*((b.B0.length:Int)+(m.A0.length:Int))+6≤b.H0):WD b m=A:=by unfold WD;rw[Img.ok_iff.2 hm,H hfit];rfl
def Abg(hm:ImgOK b m)(hfit:18*((b.B0.length:Int)+(m.A0.length:Int))+6≤b.H0)(hs:s.ok b.H0):PH b m s=(Ado b m s,0):=by unfold PH;rw[Aqd hm hfit,H hs];rfl
def Bhb(_hb:b.small)(hs:s.ok b.H0)(hm:ImgOK b m)(hrep:Dv b s=m)(hfit:18*((b.B0.length:Int)+(m.A0.length:Int))+6≤b.H0)(hb0:0≤bud):
  (2+18*((b.B0.length:Int)+(m.A0.length:Int))≤bud∧Pz b s bud=(Ado b m { s.set (1-s.sel) (txt ((Es m).flatMap CC))with sel:=1-s.sel },bud-(2+18*((b.B0.length:Int)+(m.A0.length:Int))),0)∧Jst b { s.set (1-s.sel) (txt ((Es m).flatMap CC))with sel:=1-s.sel } m)∨
  (bud<2+18*((b.B0.length:Int)+(m.A0.length:Int))∧∃s',Pz b s bud=({ Mch.none with D1:=s' },0,8)∧s'.ok b.H0∧Dv b s'=m):=by
 have hsel:=UI hs;unfold Pz Di;rw[hrep];rcases Wk hs hm hb0 ω with⟨q1,q2⟩ | ⟨q1,s',q2,q3,q4⟩
 ·left;have hj:Jst b { s.set (1-s.sel) (txt ((Es m).flatMap CC))with sel:=1-s.sel } m:=by
   refine⟨Az8 (TK hs ?_) ω,hm,⟨Es m,?_,Xo hm,Aeq hm⟩,hfit⟩
   ·rw[Lm,Acf hm];omega
   ·rw[Ac9 hsel,HC]
  rw[q2];refine⟨q1,?_,hj⟩;simp only[P_,E];rw[Abg hm hfit hj.ok];rfl
 ·right;rw[q2];refine⟨q1,s',rfl,q3,?_⟩;rw[← hrep];unfold Dv;rw[q4]
def Ht{X Y:Type}{step:X→Option (Sum X Y)}{N:Nat}(hN:N≤100000)(g:Nat→X){y:Y}(h1:∀i,i<N→step (g i)=C (.inl (g (i+1))))(h2:step (g N)=C (.inr y)):Cd step DN (g 0)=C y:=As (Ame N g y h1 h2 N 0 (o_ N)) ω
def KG{i n:Nat}(hn:n≤100000)(h:i<n):aC.wrap ((i:Int)+1)=((i+1:Nat):Int):=Hn h (by unfold Bs;omega)
def Ua{p:Nat→Bool}:∀m i:Nat,(∀k,i≤k→k<i+m→p k=A)→XT p m i=A
 |0,_,_=>rfl
 |m+1,i,h=>by simp only[XT];rw[h i (y_ _) ω,z_];exact Ua m (i+1) λk h1 h2=>h k ω ω
def Tc{p:Nat→Bool}:∀m i:Nat,XT p m i=A→∀k,i≤k→k<i+m→p k=A
 |0,_,_,k,h1,h2=>by omega
 |m+1,i,h,k,h1,h2=>by
  simp only[XT,e_]at h;rcases g3_ i k with g | g
  ·exact Tc m (i+1) h.2 k ω ω
  ·obtain rfl:k=i:=ω;exact h.1
def RO{xs:List Int}(hl:xs.length≤100000)(h:∀x∈xs,0≤x∧x≤1000000):Ik xs=C ((A,()),()):=by
 have l:Bu ((xs,(),(xs.length:Int),(0:Int),()),())=C (.inl ((),())):=Ht hl (λi=>((xs,(),(xs.length:Int),(i:Int),()),())) (λi hi=>by
  have hx:=h _ (BN 0 hi);have e:Jb (xs.getD i 0)=C ((D,()),()):=by unfold Jb;rw[f_ ω,f_ ω];rfl
  simp only[lp,Un.u,Cr,Qq hi,Ju hi,KG hl hi,j_,e,d_,E,a_]) (by simp only[lp,Un.u,Cr,Np,E])
 unfold Ik Ci CB;rw[l];rfl
def Aa9(x:Debounced):List Int:=[x.I5,x.J5,x.K5,x.L5,x.M5,x.N5,x.O5,x.P5,x.Q5,x.R5,x.D4,x.E4,x.F4,x.G4,x.H4,x.I4,x.J4,x.K4,x.L4,x.M4,x.N4,x.O4,x.Q4,x.R4,x.S4,x.T4,x.U4,x.V4,x.X4,x.Y4,x.Z4,x.A5,x.B5,x.C5,x.E5,x.F5]
def Ala(n:Int)(x:Debounced)(i:Nat):Bool:=decide (0≤(Aa9 x).getD i 0)&&decide ((Aa9 x).getD i 0<n)
def Uj(n:Int)(x:Debounced):Bool:=decide (1≤n)&&(decide (n≤16)&&XT (Ala n x) 36 0)
def Yh{x:Debounced}(h:Uj n x=A):Ey n x.V0 x.T1 x.F1 x.G1 x.W0 x.I5 x.J5 x.K5 x.L5 x.M5 x.N5 x.O5 x.P5 x.Q5 x.R5 x.D4 x.E4 x.F4 x.G4 x.H4 x.I4 x.J4 x.K4 x.L4 x.M4 x.N4 x.O4 x.Q4 x.R4 x.S4 x.T4 x.U4 x.V4 x.X4 x.Y4 x.Z4 x.A5 x.B5 x.C5 x.E5 x.F5=C ((A,()),()):=by unfold Uj at h;simp only[e_,t_]at h;obtain⟨h1,h2,h3⟩:=h;have l:EK ((n,(x.I5,x.J5,x.K5,x.L5,x.M5,x.N5,x.O5,x.P5,x.Q5,x.R5,x.D4,x.E4,x.F4,x.G4,x.H4,x.I4,x.J4,x.K4,x.L4,x.M4,x.N4,x.O4,x.Q4,x.R4,x.S4,x.T4,x.U4,x.V4,x.X4,x.Y4,x.Z4,x.A5,x.B5,x.C5,x.E5,x.F5,()),(0:Int),()),())=C (.inl ((),())):=Ht (N:=36) τ (λi=>((n,(x.I5,x.J5,x.K5,x.L5,x.M5,x.N5,x.O5,x.P5,x.Q5,x.R5,x.D4,x.E4,x.F4,x.G4,x.H4,x.I4,x.J4,x.K4,x.L4,x.M4,x.N4,x.O4,x.Q4,x.R4,x.S4,x.T4,x.U4,x.V4,x.X4,x.Y4,x.Z4,x.A5,x.B5,x.C5,x.E5,x.F5,()),(i:Int),()),())) (λi hi=>by have hx:=Tc 36 0 h3 i (a4_ _) ω;unfold Ala at hx;simp only[e_,t_]at hx;show CS n x.I5 x.J5 x.K5 x.L5 x.M5 x.N5 x.O5 x.P5 x.Q5 x.R5 x.D4 x.E4 x.F4 x.G4 x.H4 x.I4 x.J4 x.K4 x.L4 x.M4 x.N4 x.O4 x.Q4 x.R4 x.S4 x.T4 x.U4 x.V4 x.X4 x.Y4 x.Z4 x.A5 x.B5 x.C5 x.E5 x.F5 (i:Int)=_;unfold CS;simp only[H (ω:(i:Int)<36),Ju hi,KG (show 36≤100000 by decide) hi,j_,d_];show(bif decide ((Aa9 x).getD i 0<0)then _ else bif decide (n≤(Aa9 x).getD i 0)then _ else _)=_;rw[f_ ω,f_ ω];rfl) (by rfl);unfold Ey;rw[f_ ω,f_ ω,l];rfl
def Ux(a b:Duty):Bool:=decide (a.E0<b.E0)||(a.E0==b.E0&&decide (a.I0<b.I0))
def ZS{a b:Duty}(h:Ux a b=A):∃n:Int,CL a.E0 a.I0 a.C4 b.E0 b.I0 b.C4=C ((n,()),())∧decide (0≤n)=D:=by
 unfold CL;rw[Ia,Ia];simp only[a_];rw[Yf];refine⟨_,rfl,?_⟩;unfold Ux at h;simp only[R_,e_,t_,U_]at h;unfold Wi;rcases h with h | ⟨h,h'⟩
 ·rw[H h];rfl
 ·rw[h,f_ (Q_ _),H h'];rfl
def Th(n lo hi:Int):DB n lo hi=C ((B lo hi n,()),()):=by unfold DB B;cases decide (lo≤n)<;>rfl
def Asu(x:Belief)(i:Nat):Bool:=i==0||Ux (x.X0.getD (i-1) HD) (x.X0.getD i HD)
def Alo(b:I)(car:Nat)(x:Belief)(i:Nat):Bool:=Ap b (x.X0.getD i HD).E0 (x.X0.getD i HD).I0&&(B 0 (Kt b car).K1 (x.X0.getD i HD).C4&&Asu x i)
def Acu(b:I)(car:Nat)(x:Belief):Bool:=B (-1) (b.C0-1) x.E0&&(B 0 3 x.I0&&(B 0 3 x.F3&&(B 0 1000000 x.A3&&(!(x.R3&&decide ((0:Int)<(x.X0.length:Int)))&&XT (Alo b car x) x.X0.length 0))))
def RL(hb:b.small)(hcode:b.code=0){car:Nat}(hcar:car<b.B0.length){x:Belief}(hx:x.X0.length≤100000)(h:Acu b car x=A):Co b.C0 b.F0 b.H0 b.M0 b.K0 b.L0 b.N0 b.B0 (car:Int) x.E0 x.I0 x.F3 x.X0 x.A3 x.R3=C ((A,()),()):=by
 have lo:=hb.lo;have hi8:=hb.hi;have hcc:=Aj hcode;unfold Acu at h;simp only[e_]at h;obtain⟨h1,h2,h3,h4,h5,h6⟩:=h;have l:Jf (((car:Int),(),(),x.X0,(x.X0.length:Int),(0:Int),()),(b.tup,x.tup,()))=C (.inl ((),())):=Ht hx (λi=>(((car:Int),(),(),x.X0,(x.X0.length:Int),(i:Int),()),(b.tup,x.tup,()))) (λi hi=>by
  have hp:=Tc _ 0 h6 i (a4_ _) ω;unfold Alo Asu at hp;simp only[e_]at hp;obtain⟨p1,p2,p3⟩:=hp;show GX (car:Int) x.X0 (x.X0.length:Int) (i:Int) b.C0 b.F0 b.H0 b.M0 b.K0 b.L0 b.N0 b.B0 x.E0 x.I0 x.F3 x.X0 x.A3 x.R3=_;unfold GX;have p2:B 0 (b.B0.getD car (Car.mk 0 0 0 0 0 0 0 0 0)).K1 (x.X0.getD i (aA 0 0 0)).C4=A:=p2;have p1:Ap b (x.X0.getD i (aA 0 0 0)).E0 (x.X0.getD i (aA 0 0 0)).I0=A:=p1;simp only[Qq hi,Ju hi,Ju hcar,KG hx hi,d_,j_,MB hb,Th,a_,p1,p2,q_,E];cases i with
  |zero=>rfl
  |succ j=>rw[H (ω:(0:Int)<((j+1:Nat):Int)),Aa (n:=((j+1:Nat):Int)-1) ω ω,show((j+1:Nat):Int)-1=(j:Int)by omega,Ju (ω:j<x.X0.length)];obtain⟨n,e1,e2⟩:=ZS p3;simp only[d_,j_];rw[show CL (x.X0.getD j (aA 0 0 0)).E0 (x.X0.getD j (aA 0 0 0)).I0 (x.X0.getD j (aA 0 0 0)).C4 (x.X0.getD (j+1) (aA 0 0 0)).E0 (x.X0.getD (j+1) (aA 0 0 0)).I0 (x.X0.getD (j+1) (aA 0 0 0)).C4=_ from e1];simp only[a_,e2,KG hx hi];rfl) (by
  show GX (car:Int) x.X0 (x.X0.length:Int) (x.X0.length:Int) b.C0 b.F0 b.H0 b.M0 b.K0 b.L0 b.N0 b.B0 x.E0 x.I0 x.F3 x.X0 x.A3 x.R3=_;simp only[lp,Un.u,GX,Np,E])
 have r:(bif x.R3 then decide ((0:Int)<(x.X0.length:Int))else D)=D:=by
  cases hL:x.R3 with
  |false=>rfl
  |true=>rw[hL]at h5;simpa using h5
 unfold Co;rw[AR,hcode];simp only[Th,a_,P_,E,Aa (n:=(b.B0.length:Int)-1) ω ω,Aa (n:=b.C0-1) ω ω,show B 0 ((b.B0.length:Int)-1) (car:Int)=A from Ao.2 ⟨ω,ω⟩,h1,h2,h3,h4,q_];cases hL:x.R3 with
 |false=>rw[Belief.tup,hL]at l;exact Ae rfl (Ae l rfl)
 |true=>rw[hL]at r;rw[Belief.tup,hL]at l;have r:decide ((0:Int)<(x.X0.length:Int))=D:=r;rw[d_,r];exact Ae rfl (Ae l rfl)
def Qt(x:J):Bool:=B 0 2 x.X1&&B 0 7 x.I1
def Sf(x:J):Bool:=(x.C1==0)&&((x.S1==0)&&((x.J1==0)&&((x.R1==D)&&((x.H1==0)&&A))))
def Ro(x:J):Bool:=bif x.C1==0 then Sf x else B 0 3 x.C1&&(B 0 1000000 x.S1&&(B 0 1000000 x.J1&&B 0 1000000 x.H1))
def Amy(x:J):Bool:=(x.T0==0)&&((x.Z0==0)&&((x.S0==0)&&A))
def UA(fl:Int)(x:J):Bool:=B 0 1000000 x.Z0&&(bif x.T0==0 then x.S0==0 else bif x.T0==1 then B 0 (fl-1) x.S0&&B 0 (fl-1) (x.S0+1)else bif x.T0==2 then B 0 (fl-1) x.S0&&B 0 (fl-1) (x.S0-1)else D)
def Afh(x:J):Bool:=(x.X1==0)&&((x.I1==0)&&((x.C1==0)&&((x.S1==0)&&((x.J1==0)&&((x.R1==D)&&((x.H1==0)&&((x.T0==0)&&((x.Z0==0)&&((x.S0==0)&&((x.B2==0)&&((x.B3==0)&&((x.O3==0)&&((x.E3==A)&&A)))))))))))))
def Aeg(fl:Int)(x:J):Bool:=(Int.fdiv x.B2 ((2:Int)^(aB fl))==0)&&(B 0 2 x.B3&&B 0 1000000 x.O3)
def VO(fl:Int)(x:J):Bool:=Qt x&&(Ro x&&(UA fl x&&((Sf x||Amy x)&&Aeg fl x)))
def HK(b:I)(x:J):Bool:=bif x.E3 then Afh x else VO b.C0 x
def Ku(x:J):Fm x.X1 x.I1=C ((Qt x,()),()):=by unfold Fm Qt B;cases decide (0≤x.X1)<;>cases decide (x.X1≤2)<;>cases decide (0≤x.I1)<;>rfl
def Adb(n:Int):HR n=C ((B 0 1000000 n,()),()):=by unfold HR B;cases decide (0≤n)<;>rfl
def PD(x:J):Gh x.C1 x.S1 x.J1 x.R1 x.H1=C ((Ro x,()),()):=by
 unfold Gh Ro Sf;simp only[Adb,a_];cases x.C1==0 with
 |true=>rfl
 |false=>unfold B;cases decide (0≤x.C1)<;>cases decide (x.C1≤3)<;>cases(decide (0≤x.S1)&&decide (x.S1≤1000000))<;>cases(decide (0≤x.J1)&&decide (x.J1≤1000000))<;>rfl
def ND(h:2≤fl∧fl≤8)(x:J):Gj fl x.T0 x.Z0 x.S0=C ((UA fl x,()),()):=by
 unfold Gj UA;rw[f_ (ω:¬fl<2),f_ (ω:¬32<fl)];simp only[E];by_cases t:0≤x.Z0∧x.Z0≤1000000
 ·rw[f_ (ω:¬x.Z0<0),f_ (ω:¬1000000<x.Z0),show B 0 1000000 x.Z0=A from Ao.2 t];simp only[E,z_];by_cases f:0≤x.S0∧x.S0<fl
  ·rw[f_ (ω:¬x.S0<0),f_ (ω:¬fl≤x.S0),show B 0 (fl-1) x.S0=A from Ao.2 ⟨f.1,ω⟩];simp only[E,z_];by_cases c0:x.T0=0
   ·rw[c0];rfl
   ·rw[An c0];simp only[E];unfold Fu;by_cases c1:x.T0=1
    ·rw[c1];simp only[P_,E,a_,show inB 1 3=A from rfl,d_,l_];rw[show List.getD [(0:Int),1,-1] (aB 1) 0=1 from rfl,Aa ω ω];unfold B;by_cases z:x.S0+1<fl
     ·rw[H z,H (ω:0≤x.S0+1),H (ω:x.S0+1≤fl-1)];rfl
     ·rw[f_ z,H (ω:0≤x.S0+1),f_ (ω:¬x.S0+1≤fl-1)];rfl
    ·rw[JR c1,An c1];simp only[d_,E];by_cases c2:x.T0=2
     ·rw[c2];simp only[P_,E,a_,show inB 2 3=A from rfl,d_,l_];rw[show List.getD [(0:Int),1,-1] (aB 2) 0=-1 from rfl,Aa ω ω,show x.S0+ -1=x.S0-1 by omega];unfold B;by_cases z:0≤x.S0-1
      ·rw[H z,H (ω:x.S0-1<fl),H (ω:x.S0-1≤fl-1)];rfl
      ·rw[f_ z];rfl
     ·rw[JR c2,An c2];rfl
  ·have hf:B 0 (fl-1) x.S0=D:=by
    cases hq:B 0 (fl-1) x.S0 with
    |false=>rfl
    |true=>have:=Ao.1 hq;omega
   rw[hf];have hz:(x.S0==0)=D:=An ω;rw[hz];simp only[b0_];have e:(bif x.T0==0 then D else bif x.T0==1 then D else bif x.T0==2 then D else D)=D:=by cases x.T0==0<;>cases x.T0==1<;>cases x.T0==2<;>rfl
   rw[e];by_cases z:x.S0<0
   ·rw[H z];rfl
   ·rw[f_ z,H (ω:fl≤x.S0)];rfl
 ·have hf:B 0 1000000 x.Z0=D:=by
   cases hq:B 0 1000000 x.Z0 with
   |false=>rfl
   |true=>exact absurd (Ao.1 hq) t
  rw[hf];simp only[b0_];by_cases z:x.Z0<0
  ·rw[H z];rfl
  ·rw[f_ z,H (ω:1000000<x.Z0)];rfl
def JT(hb:b.small)(hcode:b.code=0)(x:J):DX b.C0 b.F0 b.H0 b.M0 b.K0 b.L0 b.N0 b.B0 x.X1 x.I1 x.C1 x.S1 x.J1 x.R1 x.H1 x.T0 x.Z0 x.S0 x.B2 x.B3 x.O3 x.E3=C ((HK b x,()),()):=by
 have lo:=hb.lo;have hi8:=hb.hi;have hmin:Min.min (aB b.C0) (IntKind.bits IntKind.u32)=aB b.C0:=d6_ (by show _≤32;omega);unfold DX HK;rw[AR,hcode];simp only[a_,P_,E];have main:VO b.C0 x=VO b.C0 x:=rfl;cases hF:x.E3 with
 |true=>
  have hZ:Afh x=((x.X1==0)&&((x.I1==0)&&((x.C1==0)&&((x.S1==0)&&((x.J1==0)&&((x.R1==D)&&((x.H1==0)&&((x.T0==0)&&((x.Z0==0)&&((x.S0==0)&&((x.B2==0)&&((x.B3==0)&&((x.O3==0)&&((A==A)&&A)))))))))))))):=by unfold Afh;rw[hF]
  rw[d_,← hZ];cases hq:Afh x with
  |false=>rfl
  |true=>
   have hq':=hq;unfold Afh at hq';simp only[e_,U_]at hq';obtain⟨e1,e2,e3,e4,e5,e6,e7,e8,e9,e10,e11,e12,e13,_⟩:=hq';simp only[q_,a_,E,d_,Ku,PD,ND ⟨lo,hi8⟩];have s1:Qt x=A:=by unfold Qt;rw[e1,e2];rfl
   have s2:Ro x=A:=by unfold Ro Sf;rw[e3,e4,e5,e6,e7];rfl
   have s3:UA b.C0 x=A:=by unfold UA;rw[e8,e9,e10];rfl
   rw[s1,s2,s3,e3,e4,e5,e6,e7,e11,e12,e13];simp only[l_,e3_,q_,E,a_];rw[H (ω:0≤b.C0),hmin];simp only[d_];rw[show Int.fdiv 0 ((2:Int)^aB b.C0)=0 from Int.zero_fdiv _];rfl
 |false=>
  simp only[a_,E,Ku,PD,ND ⟨lo,hi8⟩];unfold VO;cases Qt x with
  |false=>rfl
  |true=>
  cases Ro x with
  |false=>rfl
  |true=>
  cases UA b.C0 x with
  |false=>rfl
  |true=>
   simp only[q_,E,z_];rw[show((x.C1==0)&&((x.S1==0)&&((x.J1==0)&&((x.R1==D)&&((x.H1==0)&&A)))))=Sf x from rfl,show((x.T0==0)&&((x.Z0==0)&&((x.S0==0)&&A)))=Amy x from rfl];have fin:(bif decide (0≤b.C0)then bif(Int.fdiv x.B2 ((2:Int)^(aB b.C0))==0)then bif decide (0≤x.B3)then bif decide (x.B3≤2)then bif decide (0≤x.O3)then C ((decide (x.O3≤1000000),()),())else C ((D,()),())else C ((D,()),())else C ((D,()),())else C ((D,()),())else none)=C ((Aeg b.C0 x,()),()):=by rw[H (ω:0≤b.C0)];unfold Aeg B;cases Int.fdiv x.B2 ((2:Int)^(aB b.C0))==0<;>cases decide (0≤x.B3)<;>cases decide (x.B3≤2)<;>cases decide (0≤x.O3)<;>rfl
   cases Sf x with
   |true=>simp only[q_,E,a_,Bool.true_or,z_];rw[hmin,fin];rfl
   |false=>
    cases Amy x with
    |true=>simp only[q_,d4_,d_,E,a_,Bool.false_or,z_];rw[hmin,fin];rfl
    |false=>rfl
def ZU(hb:b.small)(hcode:b.code=0){l:List Debounced}(hn:l.length=b.B0.length)(h:∀x∈l,Uj b.F0 x=A):Bd l (b.B0.length:Int) b.C0 b.F0 b.H0 b.M0 b.K0 b.L0 b.N0 b.B0=C ((A,()),(b.tup,())):=by
 have hcc:=Aj hcode;have q:Ba (((),l,(l.length:Int),(0:Int),()),(b.tup,()))=C (.inl ((),(b.tup,()))):=Ht (N:=l.length) ω (λi=>(((),l,(l.length:Int),(i:Int),()),(b.tup,()))) (λi hi=>by
  have e:=Yh (h _ (BN Du hi));show AN l (l.length:Int) (i:Int) b.C0 b.F0 b.H0 b.M0 b.K0 b.L0 b.N0 b.B0=_;unfold AN Gk;simp only[Qq hi,Ju hi,KG (ω:l.length≤100000) hi,j_,d_];exact Ae (Ae e rfl) rfl) (by
  show AN l (l.length:Int) (l.length:Int) b.C0 b.F0 b.H0 b.M0 b.K0 b.L0 b.N0 b.B0=_;simp only[lp,Un.u,AN,Np,E];rfl)
 unfold Bd;rw[hn,P_,← hn];exact Ae q rfl
def Afr(hb:b.small)(hcode:b.code=0){l:List Belief}(hn:l.length=b.B0.length)(h:∀i,i<l.length→Acu b i (l.getD i (Belief.mk 0 0 0 [] 0 D))=A)(hd:∀x∈l,x.X0.length≤100000):Bk l (b.B0.length:Int) b.C0 b.F0 b.H0 b.M0 b.K0 b.L0 b.N0 b.B0=C ((A,()),(b.tup,())):=by
 have hcc:=Aj hcode;have q:Bh (((),l,(l.length:Int),(0:Int),()),(b.tup,()))=C (.inl ((),(b.tup,()))):=Ht (N:=l.length) ω (λi=>(((),l,(l.length:Int),(i:Int),()),(b.tup,()))) (λi hi=>by
  have e:=RL hb hcode (ω:i<b.B0.length) (hd _ (BN (Belief.mk 0 0 0 [] 0 D) hi)) (h i hi);show AP l (l.length:Int) (i:Int) b.C0 b.F0 b.H0 b.M0 b.K0 b.L0 b.N0 b.B0=_;unfold AP Gl;simp only[Qq hi,Ju hi,KG (ω:l.length≤100000) hi,j_,d_];exact Ae (Ae e rfl) rfl) (by
  show AP l (l.length:Int) (l.length:Int) b.C0 b.F0 b.H0 b.M0 b.K0 b.L0 b.N0 b.B0=_;simp only[lp,Un.u,AP,Np,E];rfl)
 unfold Bk;rw[hn,P_,← hn];exact Ae q rfl
def Aft(hb:b.small)(hcode:b.code=0){l:List J}(hn:l.length=b.B0.length)(h:∀x∈l,HK b x=A):Bl l (b.B0.length:Int) b.C0 b.F0 b.H0 b.M0 b.K0 b.L0 b.N0 b.B0=C ((A,()),(b.tup,())):=by
 have hcc:=Aj hcode;have q:Bi (((),l,(l.length:Int),(0:Int),()),(b.tup,()))=C (.inl ((),(b.tup,()))):=Ht (N:=l.length) ω (λi=>(((),l,(l.length:Int),(i:Int),()),(b.tup,()))) (λi hi=>by
  have e:=JT hb hcode (l.getD i Bw);rw[h _ (BN Bw hi)]at e;show AQ l (l.length:Int) (i:Int) b.C0 b.F0 b.H0 b.M0 b.K0 b.L0 b.N0 b.B0=_;unfold AQ Gm;simp only[Qq hi,Ju hi,KG (ω:l.length≤100000) hi,j_,d_];exact Ae (Ae e rfl) rfl) (by
  show AQ l (l.length:Int) (l.length:Int) b.C0 b.F0 b.H0 b.M0 b.K0 b.L0 b.N0 b.B0=_;simp only[lp,Un.u,AQ,Np,E];rfl)
 unfold Bl;rw[hn,P_,← hn];exact Ae q rfl
def Afs{l:List Loaded}(hl:l.length≤100000)(hn:(l.length:Int)=n)(h:∀x∈l,0≤x.U5∧x.U5≤4):BG l n=C ((A,()),()):=by
 have q:By (((),l,(l.length:Int),(0:Int),()),())=C (.inl ((),())):=Ht hl (λi=>(((),l,(l.length:Int),(i:Int),()),())) (λi hi=>by
  have hx:=h _ (BN (Loaded.mk 0) hi);have e:Hg (i:Int) (l.getD i (Loaded.mk 0)).U5=C ((A,()),()):=by unfold Hg;rw[H hx.1,H hx.2];rfl
  simp only[lp,Un.u,Cw,Qq hi,Ju hi,KG hl hi,j_,d_];exact Ae e rfl) (by simp only[lp,Un.u,Cw,Np,E])
 unfold BG;rw[hn,P_,← hn];exact Ae q rfl
def Alb(h:b.code=0):1≤b.F0∧b.F0≤16:=by
 unfold Bldg.code at h;cases h1:B 2 32 b.C0<;>rw[h1]at h
 ·cases h
 cases h2:B 1 8 (b.B0.length:Int)<;>rw[h2]at h
 ·cases h
 cases h3:B 1 16 b.F0<;>rw[h3]at h
 ·cases h
 exact Ao.1 h3
def Au0(h:Cl fl c=A):0≤c.K1∧c.K1≤1000000:=by
 unfold Cl at h;rw[e_,I_]at h
 have:=Ao.1 (h.1 c.K1 (p_ ..))
 omega
def Ag6(h:b.code=0)(hc:c∈b.B0):0≤c.K1∧c.K1≤1000000:=by
 unfold Bldg.code at h;cases h1:B 2 32 b.C0<;>rw[h1]at h
 ·cases h
 cases h2:B 1 8 (b.B0.length:Int)<;>rw[h2]at h
 ·cases h
 cases h3:B 1 16 b.F0<;>rw[h3]at h
 ·cases h
 cases h4:B 1 10000 b.M0<;>rw[h4]at h
 ·cases h
 cases h5:b.B0.all (Cl b.C0)<;>rw[h5]at h
 ·cases h
 exact Au0 (I_.1 h5 c hc)
def Bdd(h:1≤n∧n≤16):Uj n Du=A:=by
 unfold Uj;rw[H h.1,H h.2,z_,z_];refine Ua 36 0 λk _ hk=>?_;unfold Ala
 have:(Aa9 Du).getD k 0=0:=by show(L 36 (0:Int)).getD k 0=0;rw[k_,List.getElem?_replicate];split<;>rfl
 rw[this,H (ω:(0:Int)<n)];rfl
end Go.Ovl
