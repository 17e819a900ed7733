/- The hall calls that a car is to serve (layer 22): the program and the reference say the same. -/
import Derived.Test.YtdapkmfmgpmnoaaGreatDoorOvJ
import Derived.Test.YtdapkmfmgpmnoaaGreatDoorOvK
set_option linter.all false
open Go.Ovl.Sat renaming ret->A,bifT->B,bindS->H,bic->N,bindE->Y,loop->aD
open Bool renaming false->C,true->D
open Go.Ovl renaming Ac->I,Pk->P,Record->R,Bldg->S,View->U,Sat->V,Img->W,noV->Z
open Go.Ab renaming inB->J
open Int renaming toNat->o
open Go.Ovl.View renaming mk->aA
open Go.Ovl.machine_ticker renaming mk->aB
open List renaming replicate->aC
namespace Go.Ovl
open Go Go.Ab
set_option maxRecDepth 100000
variable{b:S}{l:List R}{t:P}{i:Nat}{m:W}{r:R}
def Bp1(floor:Int):Int:=IntKind.u32.wrap (1*2^min (o floor) (IntKind.bits .u32))
def Am7(floor dir:Int):Int×Int:=
 bif inR 0 31 floor then(bif dir==1 then(Bp1 floor,0)else bif dir==2 then(0,Bp1 floor)else(0,0))else(0,0)
def XR(floor dir:Int):Ea floor dir=some (((),()),(((Am7 floor dir).1,(Am7 floor dir).2,()),())):=by
 unfold Ea Am7 inR;by_cases g:0≤floor
 ·by_cases g':floor<32
  ·rw[b_ g,b_ g',b_ (ω:floor≤31)]
   simp only[d_,a_,a3_,b_ g];cases dir==1<;>cases dir==2<;>rfl
  ·rw[b_ g,f_ g',f_ (ω:¬floor≤31)];rfl
 ·rw[f_ g];rfl
def orV(a c:Int):Int:=IntKind.u32.wrap (stk a c (BitVec.toNat (BitVec.ofInt (IntKind.bits .u32) a|||BitVec.ofInt (IntKind.bits .u32) c)))
def An6(a c:Int×Int):Int×Int:=(orV a.1 c.1,orV a.2 c.2)
def Afl(a c:Int×Int):CO a.1 a.2 c.1 c.2=some (((),()),(((An6 a c).1,(An6 a c).2,()),())):=rfl
def Au0(vs:List U)(car:Int)(e:Entry):Bool:=e.S0==car||(e.S0==-2&&(Ax vs car).H3)
def TY(vs:List U)(car:Int)(e:Entry)(c:Int×Int):Int×Int:=bif Au0 vs car e then An6 c (Am7 e.D0 e.I0)else c
def YX(vs:List U)(car:Int):List Entry→Int×Int→Int×Int
 |[],c=>c
 |e::t,c=>YX vs car t (TY vs car e c)
def YY(b:S)(m:W)(vs:List U)(car:Int):Int×Int:=
 bif m.ok b&&((vs.length:Int)==(b.B0.length:Int)&&(decide (0≤car)&&decide (car<(b.B0.length:Int))))then YX vs car m.A0 (0,0)else(0,0)
section
variable{vs:List U}{car:Int}(hc:0≤car∧car<vs.length){m:W}(hm:m.A0.length≤1000)
include hc hm
theorem RW:∀(k i:Nat) (c:Int×Int),i+k=m.A0.length→
  BQ (λx=>letI a:=x.1.2.2.2.2;Gp x.1.1 x.1.2.1 a.1 a.2.1 a.2.2.1 x.2.1.1 x.2.1.2.1 x.2.2.1.1 x.2.2.1.2.1) (k+1) ((vs,car,(),(),m.A0,(m.A0.length:Int),(i:Int),()),(((0:Int),(0:Int),()),(c.1,c.2,()),()))=some (((),(),()),(((0:Int),(0:Int),()),((YX vs car (m.A0.drop i) c).1,(YX vs car (m.A0.drop i) c).2,()),()))
 |0,i,c,hi=>by
  refine Az ?_;show Gp vs car m.A0 (m.A0.length:Int) (i:Int) 0 0 c.1 c.2=_;unfold Gp;rw[show decide ((i:Int)<(m.A0.length:Int))=C by simp;omega,show i=m.A0.length by omega,a5_];rfl
 |k+1,i,c,hi=>by
  have hi':i<m.A0.length:=ω
  have w:IntKind.i64.wrap ((i:Int)+1)=((i+1:Nat):Int):=by rw[Aa ω ω];omega
  rw[BU noE hi'];refine(Bu (x':=((vs,car,(),(),m.A0,(m.A0.length:Int),((i+1:Nat):Int),()),(((0:Int),(0:Int),()),((TY vs car (m.A0.getD i noE) c).1,(TY vs car (m.A0.getD i noE) c).2,()),()))) ?_).trans (RW k (i+1) _ ω)
  show Gp vs car m.A0 (m.A0.length:Int) (i:Int) 0 0 c.1 c.2=_;unfold Gp;rw[show decide ((i:Int)<(m.A0.length:Int))=D by simp;omega,I (ω:(0:Int)≤(i:Int)) (ω:(i:Int)<(m.A0.length:Int)),show Entry.mk 0 0 0 0 C=noE from rfl]
  unfold TY Au0 Ax;have hu:=Afl c (Am7 (m.A0.getD i noE).D0 (m.A0.getD i noE).I0);simp only[d_,i_];cases(m.A0.getD i noE).S0==car with
  |true=>simp only[d_,a_,Bool.true_or,XR,hu,w]
  |false=>
   cases(m.A0.getD i noE).S0==-2 with
   |true=>
    simp only[d_,c_,I hc.1 hc.2,a_,g6_,n_];cases(vs.getD car.toNat (aA C C C C 0 0 0 0 0 0 0 0)).H3 with
    |true=>simp only[d_,XR,a_,hu,w]
    |false=>simp only[c_,w]
   |false=>simp only[c_,a_,a4_,Bool.or_self,w]
end
section
variable{b:S}(hb:b.small)(vs:List U)(m:W)(hm:m.A0.length≤1000)(hp:m.F0.length≤maxLen)(car:Int)
include hb hm hp
theorem Acq:Ms b.C0 b.E0 b.H0 b.M0 b.J0 b.L0 b.N0 b.B0 m.F0 m.O0 m.K0 m.A0 vs car=some (((),()),(((YY b m vs car).1,(YY b m vs car).2,()),())):=by
 have hmx:1000≤maxLen:=by decide
 unfold Ms YY;rw[CS hb m hp ω]
 simp only[a_,bne];cases hok:m.ok b with
 |false=>rfl
 |true=>
  cases hq:(vs.length:Int)==(b.B0.length:Int)with
  |false=>rfl
  |true=>
   have hq':(vs.length:Int)=(b.B0.length:Int):=by simpa using hq
   by_cases g:0≤car
   ·rw[b_ g,f_ (ω:¬car<0)]
    by_cases g':car<(b.B0.length:Int)
    ·rw[b_ g',f_ (ω:¬(b.B0.length:Int)≤car)]
     have hlp:=Ai (RW (vs:=vs) (car:=car) ⟨g,ω⟩ hm m.A0.length 0 (0,0) ω) ω
     have hlp':Ks ((vs,car,(),(),m.A0,(m.A0.length:Int),(0:Int),()),(((0:Int),(0:Int),()),((0:Int),(0:Int),()),()))=_:=hlp;simp only[o_,c_,hlp',a_,Q_,a3_,d_]
    ·rw[f_ g',b_ (ω:(b.B0.length:Int)≤car)];rfl
   ·rw[f_ g,b_ (ω:car<0)];rfl
end
def Mr(p:Int):Bool:=p==0||p==1
def Aqe(p:Int):Bool:=p==3||p==4
def Xl(p:Int):Ft p=some ((Mr p,()),()):=by
 unfold Ft Mr;cases p==0<;>rfl
def Ahh(p:Int):EQ p=some ((Aqe p,()),()):=by
 unfold EQ Aqe;cases p==3<;>rfl
def Aev(vs:List U)(car:Int):∀(l:List Entry) {c:Int×Int},Ey c→Ey (YX vs car l c)
 |[],_,h=>h
 |e::t,c,h=>by
  refine Aev vs car t ?_;unfold TY;cases Au0 vs car e with
  |true=>exact⟨HG _,HG _⟩
  |false=>exact h
def Au1(b:S)(m:W)(vs:List U)(car:Int):Ey (YY b m vs car):=by
 unfold YY;cases m.ok b&&((vs.length:Int)==(b.B0.length:Int)&&(decide (0≤car)&&decide (car<(b.B0.length:Int))))with
 |true=>exact Aev vs car _ Ht
 |false=>exact Ht
def Pk.sBel(t:P)(i:Nat)(v:Belief):P:={ t with m:={ t.m with W0:=t.m.W0.set i v } }
def Pk.sCar(t:P)(i:Nat)(v:NewCar):P:={ t with m:={ t.m with B0:=t.m.B0.set i v } }
def Pk.sOut(t:P)(i:Nat)(v:CarOutput):P:={ t with out:={ t.out with B0:=t.out.B0.set i v } }
def Pk.sLeg(t:P)(i:Nat):P:={ t with legacy:=t.legacy.set i D }
def Pk.sSho(t:P)(i:Nat)(c:Calls):P:={ t with shows:=t.shows.set i c }
section
variable{b:S}{t:P}
def PR.sBel(h:PR b t)(i:Nat)(v:Belief):PR b (t.sBel i v):=⟨h.leg,h.sho,h.rst,h.oc⟩
def PR.sCar(h:PR b t)(i:Nat)(v:NewCar):PR b (t.sCar i v):=⟨h.leg,h.sho,h.rst,h.oc⟩
def PR.sOut(h:PR b t)(i:Nat)(v:CarOutput):PR b (t.sOut i v):=⟨h.leg,h.sho,h.rst,by show(t.out.B0.set i v).length=_;rw[A_];exact h.oc⟩
def PR.sLeg(h:PR b t)(i:Nat):PR b (t.sLeg i):=⟨by show(t.legacy.set i D).length=_;rw[A_];exact h.leg,h.sho,h.rst,h.oc⟩
def PR.sSho(h:PR b t)(i:Nat)(c:Calls):PR b (t.sSho i c):=⟨h.leg,by show(t.shows.set i c).length=_;rw[A_];exact h.sho,h.rst,h.oc⟩
end
section
variable{b:S}(hw:BW b){x:Inp}{g:Bool}(hx:g=D→InOK b x)
include hw
theorem Az4(hm:ImgOK b m):V (Jp m.F0 m.O0 m.K0 m.A0) λy=>True:=by
 have hcc:=Aj hw.code;have hp:=hm.lp;have hf:=hm.lf;have hl:=hm.ll;unfold Jp;refine B (by simp only[e_,t_];omega) (H (Q:=λ_=>True) ?_ λ_ _=>A trivial)
 have h0:(aC (o (m.F0.length:Int)) (aA C C C C 0 0 0 0 0 0 0 0)).length=b.B0.length:=by rw[S_];omega
 generalize aC (o (m.F0.length:Int)) (aA C C C C 0 0 0 0 0 0 0 0)=L at h0;unfold Ij;refine aD (λ(k:Nat) z=>∃(i:Nat) (l:List U),z=(((),l,(L.length:Int),(i:Int),()),((m.F0,m.O0,m.K0,m.A0,()),()))∧l.length=b.B0.length∧i+k=L.length) (λk z hz=>?_) L.length ⟨0,L,rfl,h0,p_ _⟩ ω
 obtain⟨i,l,rfl,hll,hk⟩:=hz;show V (Lu l (L.length:Int) (i:Int) m.F0 m.O0 m.K0 m.A0) _;unfold Lu;refine N (λq=>?_) λ_=>A trivial
 have q:=m_ q;have w:=CW (n:=i) ω
 refine Y (Akw hm (ω:i<b.B0.length)) (B (I ω ω) ?_)
 exact A ⟨k-1,ω,i+1,_,by first | (rw[← w];rfl) | rw[← w],by rw[A_];exact hll,ω⟩
theorem Amc(hm:ImgOK b m)(car:Int):V (HI b.C0 b.E0 b.H0 b.M0 b.J0 b.L0 b.N0 b.B0 m.F0 m.O0 m.K0 m.A0 car) λy=>Ey (y.2.1.1,y.2.1.2.1):=by
 have hcc:=Aj hw.code;have he:=Ek hw.small hm;have hp:=hm.lp;have hmx:1000≤maxLen:=by decide
 unfold HI;exact H (Az4 hw hm) λy1 _=>Y (Acq hw.small y1.1.1 m ω ω car) (A (Au1 b m y1.1.1 car))
theorem Azk(hm:PM b t.m)(hr:PR b t)(hi:i<b.B0.length):V (t.ap (Dm (i:Int)) b x g) λy=>∃t',(y=.inl ((),(t'.tup b x g,()))∨y=.inr ((),(t'.tup b x g,())))∧PM b t'.m∧PR b t'∧Fix t t':=by
 unfold Pk.ap Dm;have i1:J (i:Int) t.legacy.length=D:=I ω (by rw[hr.leg];omega)
 have i2:J (i:Int) t.m.W0.length=D:=I ω (by rw[hm.bel];omega)
 have i3:J (i:Int) t.m.S1.length=D:=I ω (by rw[hm.con];omega)
 have i4:J (i:Int) t.shows.length=D:=I ω (by rw[hr.sho];omega)
 have hb:=hm.belv i hi;refine B i1 (N (λ_=>B i2 ?_) λ_=>B i3 ?_)
 ·refine H (Aff hw.small hw.code hi hb) λy1 h1=>B i2 ?_
  obtain⟨ya,yb,yc⟩:=y1;obtain⟨v,e,hv⟩:=h1;change yb=_ at e;subst e;exact A ⟨(t.sBel i v).sLeg i,.inl rfl,hm.sBel hv,(hr.sBel i v).sLeg i,⟨rfl,rfl,rfl,rfl,rfl⟩⟩
 ·have hcw:=hm.conv _ (CA Ct (show i<t.m.S1.length by rw[hm.con];exact hi))
  refine H (Yj b.C0 hcw.2 _ _ _ _) λy2 _=>H (Ni ..) λy3 _=>B i4 (B i2 ?_)
  refine H (Aat hw.small hw.code hi hb _ _ _) λy4 h4=>B i2 ?_
  obtain⟨ya,yb,yc⟩:=y4;obtain⟨v,e,hv⟩:=h4;change yb=_ at e;subst e;exact A ⟨((t.sBel i v).sLeg i).sSho i (Calls.mk y3.2.1.1 y3.2.1.2.1),.inr rfl,hm.sBel hv,((hr.sBel i v).sLeg i).sSho i _,⟨rfl,rfl,rfl,rfl,rfl⟩⟩
include hx
theorem Bhg(hm:PM b t.m)(hr:PR b t)(hi:i<b.B0.length)(p:Int):V (t.ap (DK (i:Int) p) b x g) λy=>∃t',(y=.inl ((),(t'.tup b x g,()))∨y=.inr ((),(t'.tup b x g,())))∧PM b t'.m∧PR b t'∧Fix t t':=by
 unfold Pk.ap DK;have i2:J (i:Int) t.m.B0.length=D:=I ω (by rw[hm.car];omega)
 have i4:J (i:Int) t.out.B0.length=D:=I ω (by rw[hr.oc];omega)
 refine N (λ_=>B i2 ?_) λhg=>?_
 ·refine H (Agi hw.small hw.code (i:Int) (t.m.B0.getD i AX)) λy1 h1=>B i2 (B i4 ?_)
  obtain⟨ya,yb,yc⟩:=y1;obtain⟨v,e,hv⟩:=h1;change yb=_ at e;subst e;exact A ⟨(t.sCar i v).sOut i _,.inl rfl,hm.sCar i hv,(hr.sCar i v).sOut i _,⟨rfl,rfl,rfl,rfl,rfl⟩⟩
 ·rw[Bool.not_eq_false']at hg
  have hl:=(hx hg).len;have i3:J (i:Int) x.cars.length=D:=I ω ω
  refine H (Q:=λy=>∃h0 h1:Int,y=(((),(i:Int),(),()),((h0,h1,()),t.tup b x g,()))) (N (λ_=>H (Amc hw hm.jst.img (i:Int)) λy2 _=>A ⟨_,_,rfl⟩) λ_=>A ⟨_,_,rfl⟩) λy hy=>?_
  obtain⟨h0,h1,rfl⟩:=hy;refine B i3 (B i2 (H (Ajq hw.small hw.code (i:Int) (t.m.B0.getD i AX) _ _ _ _ _ _ _) λy4 h4=>B i2 (B i4 ?_)))
  obtain⟨ya,yb,yc⟩:=y4;obtain⟨v,e,hv⟩:=h4;change yb=_ at e;subst e;exact A ⟨(t.sCar i v).sOut i _,.inr rfl,hm.sCar i hv,(hr.sCar i v).sOut i _,⟨rfl,rfl,rfl,rfl,rfl⟩⟩
def Zv(b:S)(r:R):Prop:=∃i:Nat,i<b.B0.length∧r=⟨5,0,0,(i:Int),1⟩
theorem Ayb(hm:PM b t.m)(hr:PR b t):V (CF (((),([]:List R),t.m.G0.F0,(t.m.G0.F0.length:Int),(0:Int),()),(t.tup b x g,()))) λy=>∃(t':P) (l:List R),y=(((),l,()),(t'.tup b x g,()))∧PM b t'.m∧PR b t'∧Fix t t'∧l.length≤8∧∀r∈l,Zv b r:=by
 have hcc:=Aj hw.code;have hp:=hm.jst.img.lp;unfold CF;refine aD (λ(k:Nat) z=>∃(i:Nat) (t':P) (l:List R),z=(((),l,t.m.G0.F0,(t.m.G0.F0.length:Int),(i:Int),()),(t'.tup b x g,()))∧i+k=b.B0.length∧PM b t'.m∧PR b t'∧Fix t t'∧l.length≤i∧∀r∈l,Zv b r) (λk z hz=>?_) b.B0.length ⟨0,t,[],rfl,p_ _,hm,hr,.rfl' t,z_ 0,λr h=>by cases h⟩ ω
 obtain⟨i,t',l,rfl,hk,hm',hr',hf,hl,hv⟩:=hz;show V (Pk.ap (FA l t.m.G0.F0 (t.m.G0.F0.length:Int) (i:Int)) b x g t') _;unfold Pk.ap FA;refine N (λq=>?_) λ_=>A ⟨t',l,rfl,hm',hr',hf,ω,hv⟩
 have q:(i:Int)<(t.m.G0.F0.length:Int):=m_ q;have hi:i<b.B0.length:=ω
 have w:=CW (n:=i) ω
 refine B (I ω q) ?_
 refine H (Q:=λy=>∃(u:P) (c:Bool),y=(((),l,(i:Int),c,t.m.G0.F0,(t.m.G0.F0.length:Int),(i:Int),()),(u.tup b x g,()))∧PM b u.m∧PR b u∧Fix t u) ?_ λy9 h9=>?_
 ·refine Y (Xl _) (N (λ_=>?_) λ_=>Y (Ahh _) (N (λ_=>?_) λ_=>A ⟨t',C,rfl,hm',hr',hf⟩))
  ·refine H (Q:=λy=>∃u:P,y=(((),l,(i:Int),t.m.G0.F0,(t.m.G0.F0.length:Int),(i:Int),()),(u.tup b x g,()))∧PM b u.m∧PR b u∧Fix t u) ?_ λy4 h4=>?_
   ·refine H (Azk hw (x:=x) (g:=g) hm' hr' hi) λy2 h2=>?_
    obtain⟨u,e | e,h⟩:=h2
    ·subst e;exact A ⟨u,rfl,h.1,h.2.1,hf.trans h.2.2⟩
    ·subst e;exact A ⟨u,rfl,h.1,h.2.1,hf.trans h.2.2⟩
   ·obtain⟨u,rfl,h1,h2,h3⟩:=h4
    exact B (I (ω:(0:Int)≤(i:Int)) (by show(i:Int)<(u.m.W0.length:Int);rw[h1.bel];omega)) (A ⟨u,_,rfl,h1,h2,h3⟩)
  ·refine H (Q:=λy=>∃u:P,y=(((),l,(i:Int),t.m.G0.F0,(t.m.G0.F0.length:Int),(i:Int),()),(u.tup b x g,()))∧PM b u.m∧PR b u∧Fix t u) ?_ λy4 h4=>?_
   ·refine H (Bhg hw hx hm' hr' hi _) λy2 h2=>?_
    obtain⟨u,e | e,h⟩:=h2
    ·subst e;exact A ⟨u,rfl,h.1,h.2.1,hf.trans h.2.2⟩
    ·subst e;exact A ⟨u,rfl,h.1,h.2.1,hf.trans h.2.2⟩
   ·obtain⟨u,rfl,h1,h2,h3⟩:=h4
    exact B (I (ω:(0:Int)≤(i:Int)) (by show(i:Int)<(u.m.B0.length:Int);rw[h1.car];omega)) (A ⟨u,_,rfl,h1,h2,h3⟩)
 ·obtain⟨u,c,rfl,hm2,hr2,hf2⟩:=h9
  refine H (Q:=λy=>∃c:Bool,y=(((),l,(i:Int),t.m.G0.F0,(t.m.G0.F0.length:Int),(i:Int),c,()),(u.tup b x g,()))) (N (λ_=>B (I (ω:(0:Int)≤(i:Int)) (by show(i:Int)<(u.m.G0.O0.length:Int);rw[hm2.jst.img.lf];omega)) (A ⟨_,rfl⟩)) λ_=>A ⟨_,rfl⟩) λy10 h10=>?_
  obtain⟨c',rfl⟩:=h10;refine N (λ_=>B (Ay (ω:l.length+1≤_)) ?_) λ_=>A ⟨k-1,ω,i+1,u,l,by first | (rw[← w];rfl) | rw[← w],ω,hm2,hr2,hf2,ω,hv⟩
  refine A ⟨k-1,ω,i+1,u,l++[Record.mk 5 0 0 (i:Int) 1],by first | (rw[← w];rfl) | rw[← w],ω,hm2,hr2,hf2,by rw[h_];show l.length+1≤_;omega,λr h=>?_⟩
  rcases q_.1 h with h | h
  ·exact hv r h
  ·exact⟨i,hi,P_.1 h⟩
end
def K3(l:List R):Prop:=∀r∈l,r.R0=4∨r.R0=5∨r.R0=6
def Ary(h:r.R0=4∨r.R0=5∨r.R0=6):(AC m r).A0=m.A0:=by
 unfold AC;rcases h with h | h | h<;>rw[h]<;>rfl
def QP:∀{l:List R}(m:W),K3 l→(AB m l).A0=m.A0
 |[],_,_=>rfl
 |r::l,m,h=>(QP (AC m r) λx hx=>h x (x_ _ hx)).trans (Ary (h r (s_ ..)))
def K3.good(h:K3 l)(m:W)(hv:∀r∈l,Au b r=D):goodL b m l:=WI m λr hr=>⟨hv r hr,by have:=h r hr;omega⟩
structure Al(b:Bldg)(t t':Pk)(l:List Record):Prop where
 e:t'.e=0
 m:PM b t'.m
 r:PR b t'
 im:t'.m.G0=AB t.m.G0 l
 b0:0≤t'.budget
 b1:t'.budget≤t.budget
 b2:t.budget-600*(l.length:Int)≤t'.budget
structure De(b:Bldg)(t t':Pk)(l:List Record):Prop where
 e:t'.e=8
 lo:t.budget<600*(l.length:Int)
 ok:t'.m.Z0.ok b.H0
 rp:∃k,k<l.length∧CC b t'.m.Z0=AB t.m.G0 (l.take k)
def Anu(hw:BW b)(n:Nat):b.H0*(n:Int)≤600*(n:Int):=Int.mul_le_mul_of_nonneg_right hw.room ω
def PM.wr{m:Mch}(h:PM b m){im:W}{s:Sto}(hj:Jst b s im)(he:im.A0=m.G0.A0):PM b { m with G0:=im,Z0:=s }:=
 ⟨hj,h.con,h.conv,h.bel,h.belv,h.car,h.carv,h.lod,h.lodv,h.lit,by show m.U1.length=im.A0.length;rw[he];exact h.exl,h.exv,h.tick,h.flt,h.ref⟩
def Wr.fin(hw:BW b){t':P}(h:Wr b t l t')(hm:PM b t.m)(hr:PR b t)(hk:K3 l):(Al b t t' l∨De b t t' l)∧t'.out=t.out:=by
 obtain⟨im,s,bu,e,rfl,h⟩:=h
 have:=Anu hw l.length
 refine⟨?_,rfl⟩;rcases h with⟨rfl,rfl,h1,h2,h3,h4⟩ | ⟨rfl,h1,h2,h3⟩
 ·exact .inl ⟨rfl,hm.wr h1 (QP _ hk),⟨hr.leg,hr.sho,hr.rst,hr.oc⟩,rfl,h3,h4,by show t.budget-_≤bu;omega⟩
 ·exact .inr ⟨rfl,ω,h2,h3⟩
def Bud(t:P):Prop:=t.e=0∧0≤t.budget∧t.budget<9223372036854775808
def Al.bud{t':P}(h:Al b t t' l)(hb:Bud t):Bud t':=⟨h.e,h.b0,by have:=h.b1;have:=hb.2.2;omega⟩
def Al.app{u v:P}{k:List R}(h:Al b t u l)(h2:Al b u v k):Al b t v (l++k):=
 ⟨h2.e,h2.m,h2.r,by rw[EL,← h.im];exact h2.im,h2.b0,by have:=h2.b1;have:=h.b1;omega,by have:=h2.b2;have:=h.b2;rw[h_];omega⟩
def De.mono{u:P}(h:De b t u l)(k:List R):De b t u (l++k):=by
 obtain⟨i,h1,h2⟩:=h.rp;exact⟨h.e,by have:=h.lo;rw[h_];omega,h.ok,i,by rw[h_];omega,by rw[List.take_append_of_le_length ω];exact h2⟩
def Al.de{u v:P}{k:List R}(h:Al b t u l)(h2:De b u v k):De b t v (l++k):=by
 obtain⟨i,h3,h4⟩:=h2.rp;refine⟨h2.e,by have:=h2.lo;have:=h.b2;rw[h_];omega,h2.ok,l.length+i,by rw[h_];omega,?_⟩
 rw[h4,h.im,List.take_append,b1_ (ω:l.length≤l.length+i),b7_,EL]
def Bho(hcode:b.code=0)(h:∀r∈l,Zv b r):K3 l∧∀r∈l,Au b r=D:=
 ⟨λr hr=>by obtain⟨i,_,rfl⟩:=h r hr;exact .inr (.inl rfl),λr hr=>by obtain⟨i,hi,rfl⟩:=h r hr;exact Ai5 hcode ⟨ω,ω⟩ (.inr ⟨.inl rfl,by decide⟩)⟩
section
variable{b:S}(hw:BW b){x:Inp}{g:Bool}(hx:g=D→InOK b x)
include hw hx
theorem Bk6(hm:PM b t.m)(hr:PR b t)(hb:Bud t):V (t.ap Ee b x g) λy=>∃(t':P) (l:List R),y=((),(t'.tup b x g,()))∧(∀r∈l,Zv b r)∧l.length≤8∧(Al b t t' l∨De b t t' l)∧t'.out={ t.out with B0:=t'.out.B0 }:=by
 unfold Pk.ap Ee;refine H (Ayb hw hx hm hr) λy1 h1=>?_
 obtain⟨u,l,rfl,hm1,hr1,hf,hl,hv⟩:=h1;obtain⟨k3,v3⟩:=Bho hw.code hv;have hb1:Bud u:=⟨hf.e.trans hb.1,by rw[hf.bu];exact hb.2⟩
 refine H (Q:=λy=>∃t',y=((),(t'.tup b x g,()))∧Wr b u l t') ?_ λy hy=>?_
 ·refine H (ZF hw.small (x:=x) (g:=g) hm1.jst hb1.2 hb1.1 (k3.good _ v3) (ω:l.length≤100000)) λy2 h2=>?_
  obtain⟨t',e | e,h⟩:=h2
  ·subst e;exact A ⟨t',rfl,h⟩
  ·subst e;exact A ⟨t',rfl,h⟩
 obtain⟨t',rfl,h⟩:=hy;obtain⟨h1,h2⟩:=h.fin hw hm1 hr1 k3;refine A ⟨t',l,rfl,hv,hl,?_,by rw[h2,hf.out]⟩
 rcases h1 with h1 | h1
 ·exact .inl ⟨h1.e,h1.m,h1.r,by rw[h1.im,hf.im],h1.b0,by rw[← hf.bu];exact h1.b1,by rw[← hf.bu];exact h1.b2⟩
 ·exact .inr ⟨h1.e,by rw[← hf.bu];exact h1.lo,h1.ok,by rw[← hf.im];exact h1.rp⟩
omit hx in
theorem Bk5(hm:PM b t.m)(hxl:x.cars.length=b.B0.length):V (CP (t.ap aB b x g)) λy=>∃c:List Bool,y=((c,()),())∧c.length=b.B0.length:=by
 have hcc:=Aj hw.code;have hp:=hm.jst.img.lp;unfold CP;refine B (by show((decide ((0:Int)≤(b.B0.length:Int))&&decide ((b.B0.length:Int)≤(b.B0.length:Int)))&&decide ((b.B0.length:Int)≤2147483648))=D;simp only[e_,t_];omega) (H (Q:=λy=>∃c:List Bool,y=((c,()),())∧c.length=b.B0.length) ?_ λy h=>by obtain⟨c,rfl,h⟩:=h;exact A ⟨c,rfl,h⟩)
 generalize hT:t.ap aB b x g=T;have eb:T.m_Beliefs=t.m.W0:=by rw[← hT];rfl
 have ec:T.m_Cars=t.m.B0:=by rw[← hT];rfl
 have ex:T.x_Cars=x.cars:=by rw[← hT];rfl
 have ep:T.m_Image_Phases=t.m.G0.F0:=by rw[← hT];rfl
 have e1:T.b_Floors=b.C0:=by rw[← hT];rfl
 have e2:T.b_Debounce=b.E0:=by rw[← hT];rfl
 have e3:T.b_Room=b.H0:=by rw[← hT];rfl
 have e4:T.b_Park=b.M0:=by rw[← hT];rfl
 have e5:T.b_Empty=b.J0:=by rw[← hT];rfl
 have e6:T.b_Full=b.L0:=by rw[← hT];rfl
 have e7:T.b_Over=b.N0:=by rw[← hT];rfl
 have e8:T.b_Cars=b.B0:=by rw[← hT];rfl
 unfold DF;refine aD (λ(k:Nat) z=>∃(i:Nat) (c:List Bool),z=((T,c,T.m_Image_Phases,(T.m_Image_Phases.length:Int),(i:Int),()),())∧i+k=b.B0.length∧c.length=b.B0.length) (λk z hz=>?_) b.B0.length ⟨0,_,rfl,p_ _,by rw[S_,e8];omega⟩ ω
 obtain⟨i,c,rfl,hk,hc⟩:=hz;show V (Fz T c T.m_Image_Phases (T.m_Image_Phases.length:Int) (i:Int)) _;unfold Fz;rw[eb,ec,ex,ep,e1,e2,e3,e4,e5,e6,e7,e8];refine N (λq=>?_) λ_=>A ⟨c,rfl,hc⟩
 have q:(i:Int)<(t.m.G0.F0.length:Int):=m_ q;have hi:i<b.B0.length:=ω
 have w:=CW (n:=i) ω
 have i2:J (i:Int) t.m.W0.length=D:=I ω (by rw[hm.bel];omega)
 have i3:J (i:Int) t.m.B0.length=D:=I ω (by rw[hm.car];omega)
 have i4:J (i:Int) c.length=D:=I ω ω
 have i5:J (i:Int) x.cars.length=D:=I ω ω
 refine B (I ω q) ?_
 refine H (Q:=λy=>∃c':List Bool,y=((T,c',t.m.G0.F0,(t.m.G0.F0.length:Int),(i:Int),()),())∧c'.length=b.B0.length) ?_ λy hy=>?_
 ·have still:V ((EQ (t.m.G0.F0.getD (o (i:Int)) 0)).bind λy3=>bif y3.1.1 then(bif J (i:Int) t.m.B0.length then(let z2:=t.m.B0.getD (o (i:Int)) AX
   bif J (i:Int) x.cars.length then(let z3:=x.cars.getD (o (i:Int)) RQ
   (JH b.C0 b.E0 b.H0 b.M0 b.J0 b.L0 b.N0 b.B0 z2.V1 z2.E1 z2.Y0 z2.N1 z2.H1 z2.K1 z2.D1 z2.T0 z2.X0 z2.Q0 z2.Y1 z2.X2 z2.I3 z2.Z2 z3.J1 z3.L1 z3.R1 z3.M1).bind λy4=>bif J (i:Int) c.length then some ((T,c.set (o (i:Int)) y4.1.1,t.m.G0.F0,(t.m.G0.F0.length:Int),(i:Int),()),())else none)else none)else none)else(bif J (i:Int) c.length then some ((T,c.set (o (i:Int)) C,t.m.G0.F0,(t.m.G0.F0.length:Int),(i:Int),()),())else none)) λy=>∃c':List Bool,y=((T,c',t.m.G0.F0,(t.m.G0.F0.length:Int),(i:Int),()),())∧c'.length=b.B0.length:=
   Y (Ahh _) (N (λ_=>B i3 (B i5 (H (Agk hw.small hw.code (t.m.B0.getD i AX) _ _ _ _) λy4 _=>B i4 (A ⟨_,rfl,by rw[A_];exact hc⟩)))) λ_=>B i4 (A ⟨_,rfl,by rw[A_];exact hc⟩))
  refine Y (Xl _) (N (λ_=>B i2 ?_) λ_=>still)
  refine H (Afg hw.small hw.code hi (hm.belv i hi)) λy2 _=>N (λ_=>B i4 (A ⟨_,rfl,by rw[A_];exact hc⟩)) λ_=>still
 obtain⟨c',rfl,hc'⟩:=hy;rw[← ep];exact A ⟨k-1,ω,i+1,c',by first | (rw[← w];rfl) | rw[← w],ω,hc'⟩
end
def Pk.stat(t:P)(n:Int):P:={ t with out:={ t.out with U5:=n } }
def Pk.sRst(t:P)(i:Nat):P:={ t with reset:=t.reset.set i D }
def PR.sRst(h:PR b t)(i:Nat):PR b (t.sRst i):=⟨h.leg,h.sho,by show(t.reset.set i D).length=_;rw[A_];exact h.rst,h.oc⟩
def RS(m:W)(kind:Int)(i:Nat)(calm fr:Bool):List R×Int:=bif kind==0 then([],(0:Int))else Rv m i calm fr kind
def PA(b:S)(r:R):Prop:=∃(i:Nat) (k v:Int),i<b.B0.length∧r=⟨k,0,0,i,v⟩∧((k=4∧0≤v∧v≤4)∨((k=5∨k=6)∧0≤v∧v≤1))
def Ap7(hcode:b.code=0)(h:∀r∈l,PA b r):K3 l∧∀r∈l,Au b r=D:=by
 refine⟨λr hr=>?_,λr hr=>?_⟩<;>obtain⟨i,k,v,hi,rfl,h⟩:=h r hr
 ·show k=4∨k=5∨k=6
  omega
 ·exact Ai5 hcode ⟨ω,ω⟩ h
def Bc9(hi:i<b.B0.length){k v:Int}(h:(k=4∧0≤v∧v≤4)∨((k=5∨k=6)∧0≤v∧v≤1)):∀r∈[(⟨k,0,0,i,v⟩:R)],PA b r:=λr hr=>⟨i,k,v,hi,P_.1 hr,h⟩
def Am9(m:W)(kind:Int)(hi:i<b.B0.length)(calm fr:Bool):(∀r∈(RS m kind i calm fr).1,PA b r)∧(RS m kind i calm fr).1.length≤1:=by
 have no:∀e:Int,(∀r∈(([]:List R),e).1,PA b r)∧(([]:List R),e).1.length≤1:=λe=>⟨λr h=>(by cases h),a6_ _⟩
 have one:∀{k v:Int},((k=4∧0≤v∧v≤4)∨((k=5∨k=6)∧0≤v∧v≤1))→(∀r∈([(⟨k,0,0,i,v⟩:R)],(0:Int)).1,PA b r)∧([(⟨k,0,0,i,v⟩:R)],(0:Int)).1.length≤1:=λh=>⟨Bc9 hi h,z_ 1⟩
 unfold RS Rv
 have ite:∀(c:Bool) {x y:List R×Int},((∀r∈x.1,PA b r)∧x.1.length≤1)→((∀r∈y.1,PA b r)∧y.1.length≤1)→(∀r∈(bif c then x else y).1,PA b r)∧(bif c then x else y).1.length≤1:=λc _ _ h1 h2=>by
  cases c
  ·exact h2
  ·exact h1
 exact ite _ (no 0) (ite _ (ite _ (one (.inl ⟨rfl,by decide⟩)) (no _)) (ite _ (one (.inl ⟨rfl,by decide⟩)) (ite _ (one (.inl ⟨rfl,by decide⟩)) (ite _ (one (.inr ⟨.inr rfl,by decide⟩)) (ite _ (one (.inl ⟨rfl,by decide⟩)) (ite _ (ite _ (one (.inl ⟨rfl,by decide⟩)) (no _)) (ite _ (ite _ (one (.inl ⟨rfl,by decide⟩)) (no _)) (ite _ (ite _ (one (.inr ⟨.inr rfl,by decide⟩)) (no _)) (ite _ (one (.inr ⟨.inl rfl,by decide⟩)) (no _))))))))))
def Afe{b:S}(m:W)(calm:List Bool):∀n,n≤b.B0.length→∀r∈FE m calm n,PA b r
 |0,_,_,h=>by cases h
 |n+1,hn,r,h=>by
  rcases q_.1 h with h | h
  ·exact Afe m calm n ω r h
  ·unfold QQ at h
   cases hg:WH m calm n with
   |false=>rw[hg]at h;cases h
   |true=>
    rw[hg,d_]at h;rcases q_.1 h with h | h
    ·rcases q_.1 h with h | h
     ·exact⟨n,4,2,ω,P_.1 h,.inl ⟨rfl,by decide⟩⟩
     ·cases hl:Jw m n with
      |false=>rw[hl]at h;cases h
      |true=>rw[hl]at h;exact⟨n,6,0,ω,P_.1 h,.inr ⟨.inr rfl,by decide⟩⟩
    ·cases hl:flA m n with
     |false=>rw[hl]at h;cases h
     |true=>rw[hl]at h;exact⟨n,5,0,ω,P_.1 h,.inr ⟨.inl rfl,by decide⟩⟩
def Oj(b:S)(m:W)(kind:Int)(i:Nat)(cm:List Bool)(fr:Bool):List R:=
 (RS m kind i (cm.getD i C) fr).1++FE (AB m (RS m kind i (cm.getD i C) fr).1) (bif kind !=0 then cm.set i C else cm) b.B0.length
structure Opr(b:Bldg)(x:Inp)(t t':Pk)(l:List Record):Prop where
 res:Al b t t' l∨De b t t' l
 how:∃(i:Nat) (cm:List Bool) (fr:Bool),x.car=(i:Int)∧i<b.B0.length∧cm.length=b.B0.length∧l=Oj b t.m.G0 x.kind i cm fr∧t'.out={ t.out with U5:=(RS t.m.G0 x.kind i (cm.getD i false) fr).2 }
section
variable{b:S}(hw:BW b){x:Inp}{g:Bool}(hx:InOK b x)
include hw
theorem BelOK.new:BelOK b i ⟨-1,0,0,[],0,C⟩:=by
 have:=hw.small.lo
 exact⟨⟨by decide,show(-1:Int)≤b.C0-1 by omega⟩,by decide,by decide,by decide,λ_=>rfl,.nil⟩
theorem Bdd(hm:PM b t.m)(hr:PR b t)(e:Int)(was:W)(hwl:was.F0.length=b.B0.length):V (BB (((),(),(),e,t.m.G0.F0,(t.m.G0.F0.length:Int),(0:Int),()),((was.F0,was.O0,was.K0,was.A0,()),(x.kind,x.car,()),t.tup b x g,()))) λy=>∃t':P,y=((),(t'.tup b x g,()))∧PM b t'.m∧PR b t'∧Fix t t'∧t'.out=t.out:=by
 have hcc:=Aj hw.code;have hp:=hm.jst.img.lp;unfold BB;refine aD (λ(k:Nat) z=>∃(i:Nat) (t':P),z=(((),(),(),e,t.m.G0.F0,(t.m.G0.F0.length:Int),(i:Int),()),((was.F0,was.O0,was.K0,was.A0,()),(x.kind,x.car,()),t'.tup b x g,()))∧i+k=b.B0.length∧PM b t'.m∧PR b t'∧Fix t t'∧t'.out=t.out) (λk z hz=>?_) b.B0.length ⟨0,t,rfl,p_ _,hm,hr,.rfl' t,rfl⟩ ω
 obtain⟨i,u,rfl,hk,hm,hr,hf,ho⟩:=hz;show V (u.ap (EG e t.m.G0.F0 (t.m.G0.F0.length:Int) (i:Int) was.F0 was.O0 was.K0 was.A0 x.kind x.car) b x g) _;unfold Pk.ap EG;refine N (λq=>?_) λ_=>A ⟨u,rfl,hm,hr,hf,ho⟩
 have q:(i:Int)<(t.m.G0.F0.length:Int):=m_ q;have hi:i<b.B0.length:=ω
 have w:=CW (n:=i) ω
 have i2:J (i:Int) u.m.W0.length=D:=I ω (by rw[hm.bel];omega)
 have i3:J (i:Int) u.m.B0.length=D:=I ω (by rw[hm.car];omega)
 have i4:J (i:Int) u.reset.length=D:=I ω (by rw[hr.rst];omega)
 refine B (I ω q) (B (I ω ω) ?_)
 refine H (Q:=λ_=>True) (by unfold LE;exact Sat.go) λy1 _=>N (λ_=>?_) λ_=>?_
 ·refine Y rfl (B i2 (B i3 (B i4 ?_)))
  exact A ⟨k-1,ω,i+1,((u.sBel i ⟨-1,0,0,[],0,C⟩).sCar i AX).sRst i,by first | (rw[← w];rfl) | rw[← w],ω,(hm.sBel (BelOK.new hw)).sCar i (MW hw.small),((hr.sBel i _).sCar i _).sRst i,⟨hf.im,hf.st,hf.bu,hf.e,hf.out⟩,ho⟩
 refine H (Q:=λy=>∃c:Bool,y=(((),(),(),e,(i:Int),t.m.G0.F0,(t.m.G0.F0.length:Int),(i:Int),c,()),((was.F0,was.O0,was.K0,was.A0,()),(x.kind,x.car,()),u.tup b x g,()))) (N (λ_=>N (λ_=>A ⟨_,rfl⟩) λ_=>A ⟨_,rfl⟩) λ_=>A ⟨_,rfl⟩) λy3 h3=>?_
 obtain⟨c,rfl⟩:=h3;refine N (λ_=>B i2 ?_) λ_=>A ⟨k-1,ω,i+1,u,by first | (rw[← w];rfl) | rw[← w],ω,hm,hr,hf,ho⟩
 refine H (Acr hw.small hw.code hi (hm.belv i hi)) λy4 h4=>B i2 (B i3 (B i4 ?_))
 obtain⟨ya,yb,yc⟩:=y4;obtain⟨v,e4,hv⟩:=h4;change yb=_ at e4;subst e4;exact A ⟨k-1,ω,i+1,((u.sBel i v).sCar i AX).sRst i,by first | (rw[← w];rfl) | rw[← w],ω,(hm.sBel hv).sCar i (MW hw.small),((hr.sBel i _).sCar i _).sRst i,⟨hf.im,hf.st,hf.bu,hf.e,hf.out⟩,ho⟩
include hx
theorem Azn(hm:PM b t.m)(hr:PR b t)(hb:Bud t):V (t.ap Dn b x g) λy=>∃(t':P) (l:List R),(y=.inl ((),(t'.tup b x g,()))∨y=.inr ((),(t'.tup b x g,())))∧Opr b x t t' l:=by
 have hcc:=Aj hw.code;have he:=Ek hw.small hm.jst.img;obtain⟨fr,hfr⟩:=Bhq hm.jst.img;obtain⟨i,hi⟩:=e9_ hx.car.1;have hic:i<b.B0.length:=by have:=hx.car.2;omega
 unfold Pk.ap Dn;refine H (Bk5 hw (g:=g) hm hx.len) λy1 h1=>?_
 obtain⟨cm,rfl,hcm⟩:=h1;have hord:=Agn hm.jst.img hw.small ω hx.kind hic hcm hfr
 rw[← hi]at hord;refine Y hord ?_;obtain⟨ok1,len1⟩:=Am9 (b:=b) t.m.G0 x.kind hic (cm.getD i C) fr;obtain⟨k31,v1⟩:=Ap7 hw.code ok1;have hO:(bif x.kind==0 then([],(0:Int))else Rv t.m.G0 i (cm.getD i C) fr x.kind)=RS t.m.G0 x.kind i (cm.getD i C) fr:=rfl;have hL:Oj b t.m.G0 x.kind i cm fr=(RS t.m.G0 x.kind i (cm.getD i C) fr).1++FE (AB t.m.G0 (RS t.m.G0 x.kind i (cm.getD i C) fr).1) (bif x.kind !=0 then cm.set i C else cm) b.B0.length:=rfl;rw[hO];generalize hOO:RS t.m.G0 x.kind i (cm.getD i C) fr=O at ok1 len1 k31 v1 hL;obtain⟨O1,O2⟩:=O;refine H (Q:=λy=>∃t',y=(((),(),(),cm,O2,()),((t.m.G0.F0,t.m.G0.O0,t.m.G0.K0,t.m.G0.A0,()),(x.kind,x.car,()),t'.tup b x g,()))∧Wr b (t.stat O2) O1 t') ?_ λy5 h5=>?_
 ·refine H (ZF hw.small (x:=x) (g:=g) (t:=t.stat O2) hm.jst hb.2 hb.1 (k31.good _ v1) (show O1.length≤100000 by have:O1.length≤1:=len1;omega)) λy2 h2=>?_
  obtain⟨t',e | e,h⟩:=h2
  ·subst e;exact A ⟨t',rfl,h⟩
  ·subst e;exact A ⟨t',rfl,h⟩
 obtain⟨t1,rfl,hw1⟩:=h5;obtain⟨r1,o1⟩:=hw1.fin hw (t:=t.stat O2) hm ⟨hr.leg,hr.sho,hr.rst,hr.oc⟩ k31
 have r1:Al b t t1 O1∨De b t t1 O1:=by
  rcases r1 with r | r
  ·exact .inl ⟨r.e,r.m,r.r,r.im,r.b0,r.b1,r.b2⟩
  ·exact .inr ⟨r.e,r.lo,r.ok,r.rp⟩
 have hsl:(bif x.kind !=0 then cm.set i C else cm).length=b.B0.length:=by
  cases x.kind !=0
  ·exact hcm
  ·show(cm.set i C).length=_;rw[A_];exact hcm
 refine Y (b:=(((),(),(),(bif x.kind !=0 then cm.set i C else cm),O2,()),((t.m.G0.F0,t.m.G0.O0,t.m.G0.K0,t.m.G0.A0,()),(x.kind,x.car,()),t1.tup b x g,()))) ?_ ?_
 ·show(bif x.kind !=0 then(bif J x.car cm.length then _ else none)else _)=_
  cases x.kind !=0 with
  |false=>rfl
  |true=>
   rw[d_,I hx.car.1 (by have:=hx.car.2;omega),d_,d_]
   show some (((),(),(),cm.set (o x.car) C,_,()),_)=_;rw[hi,i_]
 generalize(bif x.kind !=0 then cm.set i C else cm)=c2 at hsl hL;refine H (Q:=λy=>∃t2,y=(((),(),(),O2,()),((t.m.G0.F0,t.m.G0.O0,t.m.G0.K0,t.m.G0.A0,()),(x.kind,x.car,()),t2.tup b x g,()))∧(Al b t t2 (Oj b t.m.G0 x.kind i cm fr)∨De b t t2 (Oj b t.m.G0 x.kind i cm fr))∧t2.out={ t.out with U5:=O2 }) ?_ λy11 h11=>?_
 ·refine N (λq=>?_) λq=>?_
  ·have q:t1.e=0:=eq_of_beq q
   have r:Al b t t1 O1:=by
    rcases r1 with r | r
    ·exact r
    ·have:=r.e;omega
   have he1:=Ek hw.small r.m.jst.img;have hb1:=r.bud hb;refine H (Q:=λy=>∃t2,y=(((),(),(),O2,()),((t.m.G0.F0,t.m.G0.O0,t.m.G0.K0,t.m.G0.A0,()),(x.kind,x.car,()),t2.tup b x g,()))∧(Al b t t2 (Oj b t.m.G0 x.kind i cm fr)∨De b t t2 (Oj b t.m.G0 x.kind i cm fr))∧t2.out={ t.out with U5:=O2 }) ?_ λy10 h10=>by obtain⟨t2,rfl,h⟩:=h10;exact A ⟨t2,rfl,h⟩
   have hauto:=Ajr r.m.jst.img hw.small ω hsl
   have ok2:=Afe (b:=b) t1.m.G0 c2 b.B0.length (z_ _);have len2:=Uk t1.m.G0 c2 b.B0.length;rw[r.im]at ok2 len2;obtain⟨k32,v2⟩:=Ap7 hw.code ok2;refine Y hauto ?_;rw[r.im];refine H (ZF hw.small (x:=x) (g:=g) (t:=t1) r.m.jst hb1.2 hb1.1 (k32.good _ v2) (ω:(FE (AB t.m.G0 O1) c2 b.B0.length).length≤100000)) λy2 h2=>?_
   have fin:∀t2,Wr b t1 (FE (AB t.m.G0 O1) c2 b.B0.length) t2→(Al b t t2 (Oj b t.m.G0 x.kind i cm fr)∨De b t t2 (Oj b t.m.G0 x.kind i cm fr))∧t2.out={ t.out with U5:=O2 }:=λt2 h=>by
    obtain⟨r2,o2⟩:=h.fin hw r.m r.r k32;rw[hL];refine⟨?_,by rw[o2,o1];rfl⟩
    rcases r2 with r2 | r2
    ·exact .inl (r.app r2)
    ·exact .inr (r.de r2)
   obtain⟨t2,e | e,h⟩:=h2
   ·subst e;exact A ⟨t2,rfl,fin t2 h⟩
   ·subst e;exact A ⟨t2,rfl,fin t2 h⟩
  ·have q:¬t1.e=0:=λh=>by have q:(t1.e==0)=C:=q;rw[h]at q;cases q
   rcases r1 with r | r
   ·exact absurd r.e q
   ·exact A ⟨t1,rfl,.inr (by rw[hL];exact r.mono _),by rw[o1];rfl⟩
 ·obtain⟨t2,rfl,r2,o2⟩:=h11
  have how:∀t':P,t'.out={ t.out with U5:=O2 }→∃(i':Nat) (cm':List Bool) (fr':Bool),x.car=(i':Int)∧i'<b.B0.length∧cm'.length=b.B0.length∧Oj b t.m.G0 x.kind i cm fr=Oj b t.m.G0 x.kind i' cm' fr'∧t'.out={ t.out with U5:=(RS t.m.G0 x.kind i' (cm'.getD i' C) fr').2 }:=λt' ho=>⟨i,cm,fr,hi,hic,hcm,rfl,by rw[hOO];exact ho⟩
  refine N (λ_=>A ⟨t2,_,.inl rfl,r2,how t2 o2⟩) λq=>?_
  have q:t2.e=0:=by
   have q:(t2.e !=0)=C:=q;simpa using q
  have r:Al b t t2 (Oj b t.m.G0 x.kind i cm fr):=by
   rcases r2 with r | r
   ·exact r
   ·have:=r.e;omega
  refine H (Bdd hw (x:=x) (g:=g) r.m r.r O2 t.m.G0 hm.jst.img.lp) λy12 h12=>?_
  obtain⟨t3,rfl,m3,r3,f3,o3⟩:=h12;exact A ⟨t3,_,.inr rfl,.inl ⟨f3.e.trans r.e,m3,r3,f3.im.trans r.im,by rw[f3.bu];exact r.b0,by rw[f3.bu];exact r.b1,by rw[f3.bu];exact r.b2⟩,how t3 (o3.trans o2)⟩
end
def inX(l:List Int):Prop:=∀x∈l,0≤x∧x≤1000000
def inX.exp{l:List Int}(h:inX l):PH l=D:=E_.2 λx hx=>Ao.2 (h x hx)
def Bqh(E:List Entry){xs:List Int}(h:inX xs)(r:R):inX (xsV E xs r):=by
 unfold xsV;cases(r.R0==2)&&FU (At r.D0 r.I0) E with
 |true=>
  intro x hx;rcases q_.1 hx with hx | hx
  ·exact h x (d9_ hx)
  ·exact h x (e0_ hx)
 |false=>
  cases(r.R0==1)&&!FU (At r.D0 r.I0) E with
  |true=>
   intro x hx;rcases q_.1 hx with hx | hx
   ·rcases q_.1 hx with hx | hx
    ·exact h x (d9_ hx)
    ·rw[P_.1 hx];decide
   ·exact h x (e0_ hx)
  |false=>exact h
def Bdt(hcode:b.code=0)(i:Int):0≤(We b i).I2∧(We b i).I2≤10000:=by
 by_cases h:i.toNat<b.B0.length
 ·exact(Acz hcode h).2.2.2
 ·unfold We
  rw[k_,List.getElem?_eq_none ω]
  decide
def Bc4(hcode:b.code=0)(vs:List U)(e n:Entry){x:Int}(hx:0≤x∧x≤1000000):0≤ZA b vs e n x∧ZA b vs e n x≤1000000:=by
 unfold ZA;have h1:=Bhn b n.S0 (Ax vs n.S0) e.D0 e.I0;have h2:=Bdt hcode n.S0;rw[Aa (n:=x-1) ω ω,Aa (n:=RO b n.S0 (Ax vs n.S0) e.D0 e.I0+(We b n.S0).I2) ω ω]
 cases n.S0 !=e.S0&&decide (0≤n.S0)with
 |true=>
  rw[d_];by_cases g:1000000<RO b n.S0 (Ax vs n.S0) e.D0 e.I0+(We b n.S0).I2
  ·rw[b_ g,d_];decide
  ·rw[f_ g,c_];omega
 |false=>
  rw[c_];by_cases g:x-1<0
  ·rw[b_ g,d_];decide
  ·rw[f_ g,c_];omega
def Anc{b:S}(hcode:b.code=0)(vs:List U):∀(l:List Entry) (xs:List Int),inX xs→inX (LT b vs l xs)
 |[],_,_,_,h=>by simp[LT]at h
 |_::_,[],_,_,h=>by simp[LT]at h
 |e::t,x::xs,hx,y,h=>by
  rcases r_.1 h with rfl | h
  ·exact Bc4 hcode vs e _ (hx x (s_ ..))
  ·exact Anc hcode vs t xs (λz hz=>hx z (x_ _ hz)) y h
def Auh(a c:Entry):∀r∈Nb a c,r.R0=3∨r.R0=7:=by
 unfold Nb;intro r h;rcases q_.1 h with h | h
 ·cases q:(a.B1 !=c.B1||!(a.B2==c.B2))with
  |false=>rw[q]at h;cases h
  |true=>rw[q]at h;rw[P_.1 h];exact .inr rfl
 ·cases q:a.S0 !=c.S0 with
  |false=>rw[q]at h;cases h
  |true=>rw[q]at h;rw[P_.1 h];exact .inl rfl
def SO(b:S)(vs:List U):∀(l:List Entry) (xs:List Int),∀r∈GH b vs l xs,r.R0=3∨r.R0=7
 |[],_,_,h=>by simp[GH]at h
 |_::_,[],_,h=>by simp[GH]at h
 |e::t,x::xs,r,h=>by
  rcases q_.1 h with h | h
  ·exact Auh _ _ r h
  ·exact SO b vs t xs r h
structure Rg(b:Bldg)(m:Img)(X:Rnd):Prop where
 good:goodL b m X.recs
 img:AB m X.recs=X.img
 ok:X.ok b
 xs:inX X.xs
def Rg.step{X:Rnd}(h:Rg b m X)(hv:Au b r=D)(hf:Jv b X.img r=C):Rg b m (Ra r X):=
 ⟨h.good.app (k:=[r]) ⟨hv,by rw[h.img];exact hf,trivial⟩,by show AB m (X.recs++[r])=AC X.img r;rw[EL,h.img];rfl,Xh h.ok hv,Bqh _ h.xs r⟩
def Rg.wr{b:S}{m:W}:∀{l:List R}{X:Rnd},Rg b m X→goodL b X.img l→Rg b m (wrL l X)
 |[],X,h,_=>by
  unfold wrL;rw[a9_];exact⟨h.good,h.img,⟨h.ok.img,h.ok.len⟩,h.xs⟩
 |r::t,X,h,⟨h1,h2,h3⟩=>by
  rw[Xm];exact Rg.wr (h.step h1 h2) h3
def Rg.reg{b:S}{m:W}:∀{l:List Entry}{X:Rnd},Rg b m X→(∀e∈l,Am b e.D0 e.I0=D)→Rg b m (Eo b l X)
 |[],_,h,_=>h
 |e::t,X,h,hv=>by
  refine Rg.reg (l:=t) (X:=Cs b e X) ?_ λx hx=>hv x (x_ _ hx)
  unfold Cs;cases hr:KM b X.img with
  |true=>exact h.step (YN (hv e (s_ ..))) (by unfold Jv;rw[hr];simp)
  |false=>exact⟨h.good,h.img,⟨h.ok.img,h.ok.len⟩,h.xs⟩
section
variable{b:S}(hb:b.small)(hcode:b.code=0){m:W}(hm:ImgOK b m){xs:List Int}(hx:xs.length=m.A0.length)(hxv:inX xs){vs:List U}(ps:List Calls)(press:Int×Int)(good:Bool)
include hb hcode hm hx hxv
theorem Ab9:Rg b m (BZ b m xs vs ps press good):=by
 have h0:∀L:Lan,Rg b m ⟨[],m,xs,L,(0,0)⟩:=λL=>⟨trivial,rfl,⟨hm,hx⟩,hxv⟩
 unfold BZ;cases good with
 |false=>exact h0 _
 |true=>
  have hv:=Vm hcode vs (l:=m.A0) λe he=>(Dt.1 (hm.en e he)).1
  exact((h0 _).wr (WI m λr hr=>⟨(hv r hr).1,by rw[(hv r hr).2];decide⟩)).reg λe he=>WE hb hcode he
variable(hvl:vs.length=b.B0.length)
include hvl
theorem Xk:Xj b m xs vs ps press good=(GH b vs (BZ b m xs vs ps press good).img.A0 (BZ b m xs vs ps press good).xs,LT b vs (BZ b m xs vs ps press good).img.A0 (BZ b m xs vs ps press good).xs,0,()):=by
 have h:=Ab9 hb hcode hm hx hxv (vs:=vs) ps press good;unfold Xj NT;rw[Img.ok_iff.2 h.ok.img,show(((BZ b m xs vs ps press good).xs.length:Int)==((BZ b m xs vs ps press good).img.A0.length:Int))=D by rw[h.ok.len];exact l_ _,show((vs.length:Int)==(b.B0.length:Int))=D by rw[hvl];exact l_ _,h.xs.exp]
 rfl
theorem Ab8:Rg b m (Ga b m xs vs ps press good)∧(Ga b m xs vs ps press good).recs.length≤300:=by
 have hcc:=Aj hcode;have h:=Ab9 hb hcode hm hx hxv (vs:=vs) ps press good;have hlen:=(An4 hb hcode hm hx (vs:=vs) ps press good).2;have hp:=Xk hb hcode hm hx hxv (vs:=vs) ps press good hvl;have he:=Ek hb h.ok.img;unfold Ga;rw[hp];generalize BZ b m xs vs ps press good=X at h hlen he;obtain⟨p1,p2,p3⟩:=WX (b:=b) ω (by omega:(vs.length:Int)=(b.B0.length:Int)) X.img.A0 X.xs [] X.img h.ok.len h.ok.img rfl
 rw[a2_]at p1 p3;have hk:=SO b vs X.img.A0 X.xs;have hw:=h.wr (l:=GH b vs X.img.A0 X.xs) (WI X.img λr hr=>⟨p2 r hr,by have:=hk r hr;omega⟩)
 have hl:=YG b vs X.img.A0 X.xs;refine⟨⟨hw.good,hw.img,⟨hw.ok.img,?_⟩,Anc hcode vs _ _ h.xs⟩,?_⟩
 ·show(LT b vs X.img.A0 X.xs).length=(AB X.img (GH b vs X.img.A0 X.xs)).A0.length
  rw[p1,YF b vs _ _ h.ok.len];show _=(UZ b vs X.img.A0 X.xs).length;rw[Alr b vs _ _ h.ok.len]
 ·show(X.recs++GH b vs X.img.A0 X.xs).length≤300
  rw[h_];omega
end
def Amu(b:S)(vs:List U)(ps:List Calls):∀(m i:Nat) (s:Lan),(AK (Kb b vs ps) m i s).lit.length=s.lit.length+m∧(AK (Kb b vs ps) m i s).gong.length=s.gong.length+m
 |0,_,_=>⟨rfl,rfl⟩
 |m+1,i,s=>by
  obtain⟨h1,h2⟩:=Amu b vs ps m (i+1) (Kb b vs ps i s);have e1:(Kb b vs ps i s).lit.length=s.lit.length+1:=by unfold Kb;show(s.lit++[_]).length=_;rw[h_];rfl
  have e2:(Kb b vs ps i s).gong.length=s.gong.length+1:=by unfold Kb;show(s.gong++[_]).length=_;rw[h_];rfl
  exact⟨by show(AK (Kb b vs ps) m (i+1) (Kb b vs ps i s)).lit.length=_;omega,by show(AK (Kb b vs ps) m (i+1) (Kb b vs ps i s)).gong.length=_;omega⟩
def Abz(b:S):∀(l:List Entry) (X:Rnd),(Eo b l X).lan=X.lan
 |[],_=>rfl
 |e::t,X=>by
  show(Eo b t (Cs b e X)).lan=X.lan;rw[Abz b t];unfold Cs;cases KM b X.img<;>rfl
def Ai4(b:S)(m:W)(xs:List Int)(vs:List U)(ps:List Calls)(press:Int×Int)(good:Bool):(Ga b m xs vs ps press good).lan=bif good then CK b vs ps else Asx vs.length:=by
 show(BZ b m xs vs ps press good).lan=_;unfold BZ;cases good with
 |true=>rw[d_,d_,Abz];rfl
 |false=>rfl
def Baf(b:S)(m:W)(xs:List Int)(vs:List U)(ps:List Calls)(press:Int×Int)(good:Bool):(Ga b m xs vs ps press good).lan.lit.length=vs.length∧(Ga b m xs vs ps press good).lan.gong.length=vs.length:=by
 rw[Ai4];cases good with
 |true=>
  obtain⟨h1,h2⟩:=Amu b vs ps vs.length 0 Lan.none;exact⟨h1.trans (p_ _),h2.trans (p_ _)⟩
 |false=>exact⟨S_,S_⟩
@[reducible] def Bss(v:U):=(v.H3,v.Y2,v.D3,v.X3,v.D0,v.I0,v.C3,v.F3,v.Q2,v.M2,v.Z1,v.Q1,())
def Azi(hb:b.small){x:NewCar}(h:EN b x=D):Ag3 x.Y1:=by
 have h2:=An5 hb;unfold EN at h;cases hf:x.Z2 with
 |true=>
  rw[hf]at h;simp only[d_,Afm,e_,R_]at h;rw[h.2.2.2.2.2.2.2.2.2.2.1];exact⟨by decide,by decide⟩
 |false=>
  have hs:=(VK hb hf).1 (by unfold EN;exact h)
  have hc:C2 b.C0 x.Y1:=hs.1.ca;unfold C2 at hc;exact⟨hc.1,ω⟩
def Bbo{l:List Duty}(hl:l.length≤1000):V (Kr l) λy=>Ey (y.2.1.1,y.2.1.2.1):=by
 unfold Kr;refine H (Q:=λy=>Ey (y.2.2.1.1,y.2.2.1.2.1)) ?_ λ_ h=>A h
 unfold IV;refine aD (λ(k:Nat) z=>∃(i:Nat) (c:Int×Int),z=(((),(),l,(l.length:Int),(i:Int),()),((0,0,()),(c.1,c.2,()),()))∧i+k=l.length∧Ey c) (λk z hz=>?_) l.length ⟨0,(0,0),rfl,p_ _,Ht⟩ ω
 obtain⟨i,c,rfl,hk,hc⟩:=hz;show V (Ma l (l.length:Int) (i:Int) 0 0 c.1 c.2) _;unfold Ma;refine N (λq=>?_) λ_=>A hc
 have q:(i:Int)<(l.length:Int):=m_ q;have w:=CW (n:=i) ω
 refine B (I ω q) (Y (JY _ _) (Y (Gy c (DI _ _)) ?_))
 exact A ⟨k-1,ω,i+1,_,by first | (rw[← w];rfl) | rw[← w],ω,OD _ _⟩
structure VI(b:Bldg)(m:Img)(good:Bool)(i:Nat)(v:View):Prop where
 ok:v.ok
 ready:v.H3=(good&&TP m i)
 serving:v.Y2=Jf m i
 lost:v.X3=(flA m i||!Jf m i)
section
variable{b:S}(hw:BW b){x:Inp}{g:Bool}(hx:g=D→InOK b x)
include hw
theorem Bqc{m:Mch}(hm:PM b m)(hi:i<b.B0.length)(f:Int)(l:Bool)(d:Int)(k:Bool):V (ME b.C0 b.E0 b.H0 b.M0 b.J0 b.L0 b.N0 b.B0 m.G0.F0 m.G0.O0 m.G0.K0 m.G0.A0 m.Z0.h0 m.Z0.h1 m.Z0.sel m.S1 m.W0 m.B0 m.R2 m.U1 m.B3 m.T3 m.T2 m.H2 (i:Int) f l d k) λy=>∃v,y=(((),()),(Bss v,()))∧VI b m.G0 D i v:=by
 have i1:J (i:Int) m.G0.F0.length=D:=I ω (by rw[hm.jst.img.lp];omega)
 have i2:J (i:Int) m.W0.length=D:=I ω (by rw[hm.bel];omega)
 have i3:J (i:Int) m.B0.length=D:=I ω (by rw[hm.car];omega)
 have i4:J (i:Int) m.G0.O0.length=D:=I ω (by rw[hm.jst.img.lf];omega)
 have i5:J (i:Int) m.R2.length=D:=I ω (by rw[hm.lod];omega)
 have hc:=Azi hw.small (hm.carv _ (CA AX (show i<m.B0.length by rw[hm.car];exact hi)))
 have hd:=((hm.belv i hi).dut).len hw.small;unfold ME;refine B i1 (B i3 (Y (Akw hm.jst.img hi) (Y (Aci hm.jst.img hi) (Y (Xl _) ?_))));have z0:Ag3 0:=⟨by decide,by decide⟩
 refine Y (b:=(((i:Int),(),(),(),(),phA m.G0 i,(),(),()),((b.C0,b.E0,b.H0,b.M0,b.J0,b.L0,b.N0,b.B0,()),(m.G0.F0,m.G0.O0,m.G0.K0,m.G0.A0,m.Z0.h0,m.Z0.h1,m.Z0.sel,m.S1,m.W0,m.B0,m.R2,m.U1,m.B3,m.T3,m.T2,m.H2,()),(f,l,d,k,()),(C,C,C,C,(0:Int),(0:Int),(0:Int),(0:Int),(0:Int),(0:Int),(0:Int),(0:Int),()),Bbl (m.B0.getD i AX),(TP m.G0 i,Jf m.G0 i,Mr (phA m.G0 i),(flA m.G0 i||!Jf m.G0 i),(0:Int),(0:Int),(0:Int),(0:Int),(0:Int),(0:Int),(0:Int),(0:Int),()),()))) ?_ ?_
 ·show(bif J (i:Int) m.G0.O0.length then(bif flA m.G0 i then _ else _)else none)=_
  rw[i4,d_];cases flA m.G0 i<;>rfl
 refine N (λ_=>B i2 (H (Bbo (by show(m.W0.getD i Jz).U0.length≤1000;omega)) λy5 h5=>?_)) λ_=>B i5 ?_
 ·exact A ⟨aA (TP m.G0 i) (Jf m.G0 i) (Mr (phA m.G0 i)) (flA m.G0 i||!Jf m.G0 i) (m.W0.getD i Jz).D0 (m.W0.getD i Jz).I0 0 0 0 0 y5.2.1.1 y5.2.1.2.1,rfl,⟨z0,h5.1,h5.2⟩,rfl,rfl,rfl⟩
 refine H (Q:=λy=>∃(su sd:Int) (o1 o2 o3 o4:Int),y=(((i:Int),(),(),(),(),(),()),((b.C0,b.E0,b.H0,b.M0,b.J0,b.L0,b.N0,b.B0,()),(m.G0.F0,m.G0.O0,m.G0.K0,m.G0.A0,m.Z0.h0,m.Z0.h1,m.Z0.sel,m.S1,m.W0,m.B0,m.R2,m.U1,m.B3,m.T3,m.T2,m.H2,()),(C,C,C,C,(0:Int),(0:Int),(0:Int),(0:Int),(0:Int),(0:Int),(0:Int),(0:Int),()),Bbl (m.B0.getD i AX),(TP m.G0 i,Jf m.G0 i,Mr (phA m.G0 i),(flA m.G0 i||!Jf m.G0 i),f,(m.B0.getD i AX).V1,o1,su,sd,o2,o3,o4,()),()))) ?_ λy7 h7=>?_
 ·refine N (λ_=>?_) λ_=>A ⟨_,_,_,_,_,_,rfl⟩
  exact H (Agj hw.small hw.code (m.B0.getD i AX) f l d k) λ_ _=>A ⟨_,_,_,_,_,_,rfl⟩
 obtain⟨su,sd,o1,o2,o3,o4,rfl⟩:=h7;refine H (Amc hw hm.jst.img (i:Int)) λy8 h8=>?_
 exact A ⟨aA (TP m.G0 i) (Jf m.G0 i) (Mr (phA m.G0 i)) (flA m.G0 i||!Jf m.G0 i) f (m.B0.getD i AX).V1 o1 su sd (m.B0.getD i AX).Y1 y8.2.1.1 y8.2.1.2.1,rfl,⟨hc,h8.1,h8.2⟩,rfl,rfl,rfl⟩
structure VA(b:Bldg)(m:Img)(good:Bool)(vs:List View):Prop where
 len:vs.length=b.B0.length
 vi:∀i,i<b.B0.length→VI b m good i (vs.getD i noV)
theorem VA.ok{vs:List U}(h:VA b m g vs):okViews vs:=λv hv=>by
 obtain⟨i,hi,rfl⟩:=List.getElem_of_mem hv
 have:=(h.vi i (by rw[← h.len];exact hi)).ok
 rwa [k_,j_ hi]at this
include hx
theorem Bie(hm:PM b t.m)(hr:PR b t):V (DL (t.ap aB b x g)) λy=>∃vs:List U,y=((vs,()),())∧VA b t.m.G0 g vs:=by
 have hcc:=Aj hw.code;unfold DL;refine B (by show((decide ((0:Int)≤(b.B0.length:Int))&&decide ((b.B0.length:Int)≤(b.B0.length:Int)))&&decide ((b.B0.length:Int)≤2147483648))=D;simp only[e_,t_];omega) (H (Q:=λy=>∃vs:List U,y=((vs,()),())∧VA b t.m.G0 g vs) ?_ λy h=>by obtain⟨c,rfl,h⟩:=h;exact A ⟨c,rfl,h⟩)
 have h0:(aC (o (b.B0.length:Int)) Z).length=b.B0.length:=by rw[S_];omega
 show V (Cw ((t.ap aB b x g,aC (o (b.B0.length:Int)) Z,(((aC (o (b.B0.length:Int)) Z).length:Nat):Int),0,()),())) _;generalize aC (o (b.B0.length:Int)) Z=L at h0;unfold Cw;refine aD (λ(k:Nat) z=>∃(i:Nat) (vs:List U),z=((t.ap aB b x g,vs,(L.length:Int),(i:Int),()),())∧i+k=L.length∧vs.length=b.B0.length∧∀j,j<i→VI b t.m.G0 g j (vs.getD j Z)) (λk z hz=>?_) L.length ⟨0,L,rfl,p_ _,h0,λj hj=>absurd hj (Nat.not_lt_zero j)⟩ ω
 obtain⟨i,vs,rfl,hk,hl,hv⟩:=hz;show V (Fg (t.ap aB b x g) vs (L.length:Int) (i:Int)) _;unfold Fg;refine N (λq=>?_) λq=>A ⟨vs,rfl,hl,λj hj=>hv j (by have q:=F_ q;omega)⟩
 have q:(i:Int)<(L.length:Int):=m_ q;have hi:i<b.B0.length:=ω
 have w:=CW (n:=i) ω
 have il:J (i:Int) vs.length=D:=I ω ω
 have put:∀{v:U},VI b t.m.G0 g i v→∀j,j<i+1→VI b t.m.G0 g j ((vs.set i v).getD j Z):=λ{v} h j hj=>by
  by_cases e:i=j
  ·subst e;rw[Cb _ _ ω];exact h
  ·rw[Fk _ _ e];exact hv j ω
 refine N (λhg=>?_) λhg=>?_
 ·have hg:g=C:=by simpa using(show(!g)=D from hg)
  refine Y (Aci hm.jst.img hi) ?_;have i4:J (i:Int) t.m.G0.O0.length=D:=I ω (by rw[hm.jst.img.lf];omega)
  refine Y (b:=((t.ap aB b x g,vs.set i (aA C (Jf t.m.G0 i) C (flA t.m.G0 i||!Jf t.m.G0 i) (-1) 0 0 0 0 0 0 0),(L.length:Int),(i:Int),()),())) ?_ ?_
  ·show(bif J (i:Int) t.m.G0.O0.length then(bif flA t.m.G0 i then(bif J (i:Int) vs.length then _ else none)else(bif J (i:Int) vs.length then _ else none))else none)=_
   rw[i4,il,d_,d_];cases flA t.m.G0 i<;>rfl
  have z0:Ag3 0:=⟨by decide,by decide⟩
  exact A ⟨k-1,ω,i+1,_,by first | (rw[← w];rfl) | rw[← w],ω,by rw[A_];exact hl,put ⟨⟨z0,z0,z0⟩,by rw[hg];rfl,rfl,rfl⟩⟩
 ·have hg:g=D:=by simpa using(show(!g)=C from hg)
  have hxl:=(hx hg).len;refine B (I ω (ω:(i:Int)<(x.cars.length:Int))) (H (Bqc hw hm hi _ _ _ _) λy3 h3=>B il ?_)
  obtain⟨v,rfl,hvi⟩:=h3;rw[← hg]at hvi;refine B (I ω (show(i:Int)<(t.legacy.length:Int)by rw[hr.leg];omega)) (N (λ_=>?_) λ_=>?_)
  ·refine B (I ω (show(i:Int)<(t.shows.length:Int)by rw[hr.sho];omega)) (B (I ω (by rw[A_];omega)) ?_)
   refine A ⟨k-1,ω,i+1,(vs.set i v).set i (aA v.H3 v.Y2 v.D3 v.X3 v.D0 v.I0 v.C3 (t.shows.getD i (Calls.mk 0 0)).Up (t.shows.getD i (Calls.mk 0 0)).R3 v.M2 v.Z1 v.Q1),?_,ω,by rw[A_,A_];exact hl,λj hj=>?_⟩
   ·have e:(vs.set i v).getD i Z=v:=Cb _ _ ω
    first
     |(rw[← w];show((_,List.set (vs.set i v) i (aA ((vs.set i v).getD i Z).H3 ((vs.set i v).getD i Z).Y2 ((vs.set i v).getD i Z).D3 ((vs.set i v).getD i Z).X3 ((vs.set i v).getD i Z).D0 ((vs.set i v).getD i Z).I0 ((vs.set i v).getD i Z).C3 _ _ ((vs.set i v).getD i Z).M2 ((vs.set i v).getD i Z).Z1 ((vs.set i v).getD i Z).Q1),_,_,()),())=_;rw[e];rfl)
   ·rw[List.set_set]
    exact put (v:=aA v.H3 v.Y2 v.D3 v.X3 v.D0 v.I0 v.C3 (t.shows.getD i (Calls.mk 0 0)).Up (t.shows.getD i (Calls.mk 0 0)).R3 v.M2 v.Z1 v.Q1) ⟨⟨hvi.ok.c,hvi.ok.u,hvi.ok.d⟩,hvi.ready,hvi.serving,hvi.lost⟩ j hj
  ·exact A ⟨k-1,ω,i+1,vs.set i v,by first | (rw[← w];rfl) | rw[← w],ω,by rw[A_];exact hl,put hvi⟩
end
end Go.Ovl
