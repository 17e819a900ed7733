import Derived.Test.YtphhlndnankhiaaGreatDoorOvI
import Derived.Test.YtphhlndnankhiaaGreatDoorOvJ
set_option linter.all false
open Bool renaming true->A,false->C
open Go.Ovl.Sat renaming ret->B,bifT->D,bindS->H,bic->P,bindE->aA
open Go.Ovl renaming Pk->I,Record->J,Bldg->N,Img->S,View->U
open Go.Ab renaming inB->R
open Int renaming toNat->aB
open Go.Ovl.machine_ticker renaming mk->aC
namespace Go.Ovl
open Go Go.Ab
set_option maxRecDepth 100000
variable{b:N}{l:List J}{t:I}{i:Nat}{m:S}{v:CarOutput}{r:J}
def Bq0(floor:Int):Int:=IntKind.u32.wrap (1*2^min (aB floor) (IntKind.bits .u32))
def Ank(floor dir:Int):Int×Int:=bif inR 0 31 floor then(bif dir==1 then(Bq0 floor,0)else bif dir==2 then(0,Bq0 floor)else(0,0))else(0,0)
def Yf(floor dir:Int):Eg floor dir=some (((),()),(((Ank floor dir).1,(Ank floor dir).2,()),())):=by
 unfold Eg Ank inR;by_cases g:0≤floor
 ·by_cases g':floor<32
  ·rw[b_ g,b_ g',b_ (ω:floor≤31)];simp only[d_,a_,a0_,b_ g];cases dir==1<;>cases dir==2<;>rfl
  ·rw[b_ g,f_ g',f_ (ω:¬floor≤31)];rfl
 ·rw[f_ g];rfl
def orV(a c:Int):Int:=IntKind.u32.wrap (stk a c (BitVec.toNat (BitVec.ofInt (IntKind.bits .u32) a|||BitVec.ofInt (IntKind.bits .u32) c)))
def Aoi(a c:Int×Int):Int×Int:=(orV a.1 c.1,orV a.2 c.2)
def Afy(a c:Int×Int):CT a.1 a.2 c.1 c.2=some (((),()),(((Aoi a c).1,(Aoi a c).2,()),())):=rfl
def Avg(vs:List U)(car:Int)(e:Entry):Bool:=e.T0==car||(e.T0==-2&&(Ay vs car).Q3)
def Ub(vs:List U)(car:Int)(e:Entry)(c:Int×Int):Int×Int:=bif Avg vs car e then Aoi c (Ank e.D0 e.I0)else c
def Zh(vs:List U)(car:Int):List Entry→Int×Int→Int×Int
 |[],c=>c
 |e::t,c=>Zh vs car t (Ub vs car e c)
def Zi(b:N)(m:S)(vs:List U)(car:Int):Int×Int:=bif m.ok b&&((vs.length:Int)==(b.B0.length:Int)&&(decide (0≤car)&&decide (car<(b.B0.length:Int))))then Zh vs car m.A0 (0,0)else(0,0)
section
variable{vs:List U}{car:Int}(hc:0≤car∧car<vs.length){m:S}(hm:m.A0.length≤1000)
include hc hm
theorem Sb:∀(k i:Nat) (c:Int×Int),i+k=m.A0.length→
  BY (λx=>letI a:=x.1.2.2.2.2;Gp x.1.1 x.1.2.1 a.1 a.2.1 a.2.2.1 x.2.1.1 x.2.1.2.1 x.2.2.1.1 x.2.2.1.2.1) (k+1) ((vs,car,(),(),m.A0,(m.A0.length:Int),(i:Int),()),(((0:Int),(0:Int),()),(c.1,c.2,()),()))=some (((),(),()),(((0:Int),(0:Int),()),((Zh vs car (m.A0.drop i) c).1,(Zh vs car (m.A0.drop i) c).2,()),()))
 |0,i,c,hi=>by refine AK ?_;show Gp vs car m.A0 (m.A0.length:Int) (i:Int) 0 0 c.1 c.2=_;unfold Gp;rw[show decide ((i:Int)<(m.A0.length:Int))=C by simp;omega,show i=m.A0.length by omega,b2_];rfl
 |k+1,i,c,hi=>by
  have hi':i<m.A0.length:=ω;have w:IntKind.i64.wrap ((i:Int)+1)=((i+1:Nat):Int):=by rw[Aa ω ω];omega
  rw[By noE hi'];refine(BS (x':=((vs,car,(),(),m.A0,(m.A0.length:Int),((i+1:Nat):Int),()),(((0:Int),(0:Int),()),((Ub vs car (m.A0.getD i noE) c).1,(Ub vs car (m.A0.getD i noE) c).2,()),()))) ?_).trans (Sb k (i+1) _ ω);show Gp vs car m.A0 (m.A0.length:Int) (i:Int) 0 0 c.1 c.2=_;unfold Gp;rw[show decide ((i:Int)<(m.A0.length:Int))=A by simp;omega,Ac (ω:(0:Int)≤(i:Int)) (ω:(i:Int)<(m.A0.length:Int)),show Entry.mk 0 0 0 0 C=noE from rfl];unfold Ub Avg Ay;have hu:=Afy c (Ank (m.A0.getD i noE).D0 (m.A0.getD i noE).I0);simp only[d_,j_];cases(m.A0.getD i noE).T0==car with
  |true=>simp only[d_,a_,Bool.true_or,Yf,hu,w]
  |false=>
   cases(m.A0.getD i noE).T0==-2 with
   |true=>
    simp only[d_,c_,Ac hc.1 hc.2,a_,Bool.false_or,s_];cases(vs.getD car.toNat (View.mk C C C C 0 0 0 0 0 0 0 0)).Q3 with
    |true=>simp only[d_,Yf,a_,hu,w]
    |false=>simp only[c_,w]
   |false=>simp only[c_,a_,a7_,Bool.or_self,w]
end
section
variable{b:N}(hb:b.small)(vs:List U)(m:S)(hm:m.A0.length≤1000)(hp:m.F0.length≤maxLen)(car:Int)
include hb hm hp
theorem Ac2:MC b.C0 b.E0 b.H0 b.M0 b.J0 b.L0 b.N0 b.B0 m.F0 m.O0 m.K0 m.A0 vs car=some (((),()),(((Zi b m vs car).1,(Zi b m vs car).2,()),())):=by
 have hmx:1000≤maxLen:=by decide
 unfold MC Zi;rw[CW hb m hp ω];simp only[a_,bne];cases hok:m.ok b with
 |false=>rfl
 |true=>
  cases hq:(vs.length:Int)==(b.B0.length:Int)with
  |false=>rfl
  |true=>
   have hq':(vs.length:Int)=(b.B0.length:Int):=by simpa using hq
   by_cases g:0≤car
   ·rw[b_ g,f_ (ω:¬car<0)];by_cases g':car<(b.B0.length:Int)
    ·rw[b_ g',f_ (ω:¬(b.B0.length:Int)≤car)];have hlp:=Ak (Sb (vs:=vs) (car:=car) ⟨g,ω⟩ hm m.A0.length 0 (0,0) ω) ω;have hlp':Kt ((vs,car,(),(),m.A0,(m.A0.length:Int),(0:Int),()),(((0:Int),(0:Int),()),((0:Int),(0:Int),()),()))=_:=hlp;simp only[o_,c_,hlp',a_,R_,a0_,d_]
    ·rw[f_ g',b_ (ω:(b.B0.length:Int)≤car)];rfl
   ·rw[f_ g,b_ (ω:car<0)];rfl
end
def DK(p:Int):Bool:=p==0||p==1
def Zz(p:Int):Bool:=p==3||p==4
def Xw(p:Int):Ft p=some ((DK p,()),()):=by unfold Ft DK;cases p==0<;>rfl
def Ahu(p:Int):EU p=some ((Zz p,()),()):=by unfold EU Zz;cases p==3<;>rfl
def Afa(vs:List U)(car:Int):∀(l:List Entry) {c:Int×Int},Ef c→Ef (Zh vs car l c)
 |[],_,h=>h
 |e::t,c,h=>by
  refine Afa vs car t ?_;unfold Ub;cases Avg vs car e with
  |true=>exact⟨HE _,HE _⟩
  |false=>exact h
def Avh(b:N)(m:S)(vs:List U)(car:Int):Ef (Zi b m vs car):=by
 unfold Zi;cases m.ok b&&((vs.length:Int)==(b.B0.length:Int)&&(decide (0≤car)&&decide (car<(b.B0.length:Int))))with
 |true=>exact Afa vs car _ FJ
 |false=>exact FJ
def Pk.sBel(t:I)(i:Nat)(v:Belief):I:={ t with m:={ t.m with U0:=t.m.U0.set i v } }
def Pk.sCar(t:I)(i:Nat)(v:NewCar):I:={ t with m:={ t.m with B0:=t.m.B0.set i v } }
def Pk.sOut(t:I)(i:Nat)(v:CarOutput):I:={ t with out:={ t.out with B0:=t.out.B0.set i v } }
def Pk.sLeg(t:I)(i:Nat):I:={ t with legacy:=t.legacy.set i A }
def Pk.sSho(t:I)(i:Nat)(c:Calls):I:={ t with shows:=t.shows.set i c }
section
variable{b:N}{t:I}
def PR.sBel(h:PR b t)(i:Nat)(v:Belief):PR b (t.sBel i v):=⟨h.leg,h.sho,h.rst,h.oc,h.cmd⟩
def PR.sCar(h:PR b t)(i:Nat)(v:NewCar):PR b (t.sCar i v):=⟨h.leg,h.sho,h.rst,h.oc,h.cmd⟩
def Aqh{l:List CarOutput}(h:∀i,CmdR (l.getD i AQ).H2)(hv:CmdR v.H2)(i:Nat):∀j,CmdR ((l.set i v).getD j AQ).H2:=λj=>by
 by_cases e:i=j
 ·subst e;by_cases q:i<l.length
  ·rw[Bq _ _ q];exact hv
  ·rw[List.set_eq_of_length_le ω];exact h i
 ·rw[CX _ _ e];exact h j
def PR.sOut(h:PR b t)(i:Nat)(hv:CmdR v.H2):PR b (t.sOut i v):=⟨h.leg,h.sho,h.rst,(by show(t.out.B0.set i v).length=_;rw[D_];exact h.oc),Aqh h.cmd hv i⟩
def PR.sLeg(h:PR b t)(i:Nat):PR b (t.sLeg i):=⟨by show(t.legacy.set i A).length=_;rw[D_];exact h.leg,h.sho,h.rst,h.oc,h.cmd⟩
def PR.sSho(h:PR b t)(i:Nat)(c:Calls):PR b (t.sSho i c):=⟨h.leg,by show(t.shows.set i c).length=_;rw[D_];exact h.sho,h.rst,h.oc,h.cmd⟩
end
def DC(t:I)(i:Nat):Prop:=(t.m.U0.getD i GH).F3=2→(t.m.K1.getD i Fk).D1=A
section
variable{b:N}(hw:BW b){x:Inp}{g:Bool}(hx:g=A→InOK b x)
include hw
theorem Bao(hm:ImgOK b m):Sat (Jt m.F0 m.O0 m.K0 m.A0) λy=>True:=by
 have hcc:=Am hw.code;have hp:=hm.lp;have hf:=hm.lf;have hl:=hm.ll;unfold Jt;refine D (by simp only[e_,r_];omega) (H (Q:=λ_=>True) ?_ λ_ _=>B trivial);have h0:(List.replicate (aB (m.F0.length:Int)) (View.mk C C C C 0 0 0 0 0 0 0 0)).length=b.B0.length:=by rw[T_];omega
 generalize List.replicate (aB (m.F0.length:Int)) (View.mk C C C C 0 0 0 0 0 0 0 0)=L at h0;unfold Ie;refine Sat.loop (λ(k:Nat) z=>∃(i:Nat) (l:List U),z=(((),l,(L.length:Int),(i:Int),()),((m.F0,m.O0,m.K0,m.A0,()),()))∧l.length=b.B0.length∧i+k=L.length) (λk z hz=>?_) L.length ⟨0,L,rfl,h0,n_ _⟩ ω;obtain⟨i,l,rfl,hll,hk⟩:=hz;show Sat (LA l (L.length:Int) (i:Int) m.F0 m.O0 m.K0 m.A0) _;unfold LA;refine P (λq=>?_) λ_=>B trivial;have q:=m_ q;have w:=CG (n:=i) ω;refine aA (Ak7 hm (ω:i<b.B0.length)) (D (Ac ω ω) ?_);exact B ⟨k-1,ω,i+1,_,by first | (rw[← w];rfl) | rw[← w],by rw[D_];exact hll,ω⟩
theorem Amn(hm:ImgOK b m)(car:Int):Sat (HG b.C0 b.E0 b.H0 b.M0 b.J0 b.L0 b.N0 b.B0 m.F0 m.O0 m.K0 m.A0 car) λy=>Ef (y.2.1.1,y.2.1.2.1):=by
 have hcc:=Am hw.code;have he:=Ep hw.small hm;have hp:=hm.lp;have hmx:1000≤maxLen:=by decide
 unfold HG;exact H (Bao hw hm) λy1 _=>aA (Ac2 hw.small y1.1.1 m ω ω car) (B (Avh b m y1.1.1 car))
theorem Az4(hm:PM b t.m)(hr:PR b t)(hi:i<b.B0.length):Sat (t.ap (Do (i:Int)) b x g) λy=>∃t',(y=.inl ((),(t'.tup b x g,()))∨y=.inr ((),(t'.tup b x g,())))∧PM b t'.m∧PR b t'∧Fix t t'∧(∀j,j≠i→t'.m.U0.getD j GH=t.m.U0.getD j GH)∧(g=A→DC t' i):=by
 unfold Pk.ap Do;have i1:R (i:Int) t.legacy.length=A:=Ac ω (by rw[hr.leg];omega);have i2:R (i:Int) t.m.U0.length=A:=Ac ω (by rw[hm.bel];omega);have i3:R (i:Int) t.m.K1.length=A:=Ac ω (by rw[hm.con];omega);have i4:R (i:Int) t.shows.length=A:=Ac ω (by rw[hr.sho];omega);have hb:=hm.belv i hi;have hbl:i<t.m.U0.length:=by rw[hm.bel];exact hi
 refine D i1 (P (λhg=>D i2 ?_) λ_=>D i3 ?_)
 ·refine H (Aft hw.small hw.code hi hb) λy1 h1=>D i2 ?_;obtain⟨ya,yb,yc⟩:=y1;obtain⟨v,e,hv⟩:=h1;change yb=_ at e;subst e;exact B ⟨(t.sBel i v).sLeg i,.inl rfl,hm.sBel hv,(hr.sBel i v).sLeg i,⟨⟨rfl,rfl,rfl,rfl,rfl⟩,rfl⟩,λj hj=>CX _ _ (f4_ hj),λh=>by rw[h]at hg;cases hg⟩
 ·have hcw:=hm.conv _ (BR Fk (show i<t.m.K1.length by rw[hm.con];exact hi));refine H (Yv b.C0 hcw.2 _ _ _ _) λy2 hy2=>H (Nq ..) λy3 _=>D i4 (D i2 ?_);refine H (Aa2 hw.small hw.code hi hb _ _ _) λy4 h4=>D i2 ?_;obtain⟨ya,yb,yc⟩:=y4;obtain⟨v,e,hv,hvd⟩:=h4;change yb=_ at e;subst e;refine B ⟨((t.sBel i v).sLeg i).sSho i (Calls.mk y3.2.1.1 y3.2.1.2.1),.inr rfl,hm.sBel hv,((hr.sBel i v).sLeg i).sSho i _,⟨⟨rfl,rfl,rfl,rfl,rfl⟩,rfl⟩,λj hj=>CX _ _ (f4_ hj),λ_ h=>hy2 (hvd ?_)⟩;have e:(t.m.U0.set i v).getD i GH=v:=Bq _ _ hbl;rw[← e];exact h
include hx
theorem Bh2(hm:PM b t.m)(hr:PR b t)(hi:i<b.B0.length)(p:Int):Sat (t.ap (DO (i:Int) p) b x g) λy=>∃t',(y=.inl ((),(t'.tup b x g,()))∨y=.inr ((),(t'.tup b x g,())))∧PM b t'.m∧PR b t'∧Fix t t'∧t'.m.U0=t.m.U0:=by
 unfold Pk.ap DO;have i2:R (i:Int) t.m.B0.length=A:=Ac ω (by rw[hm.car];omega);have i4:R (i:Int) t.out.B0.length=A:=Ac ω (by rw[hr.oc];omega);refine P (λ_=>D i2 ?_) λhg=>?_
 ·refine H (Agu hw.small hw.code (i:Int) (t.m.B0.getD i Bu)) λy1 h1=>D i2 (D i4 ?_);obtain⟨ya,yb,yc⟩:=y1;obtain⟨⟨v,e,hv⟩,hcm⟩:=h1;change yb=_ at e;subst e;exact B ⟨(t.sCar i v).sOut i _,.inl rfl,hm.sCar i hv,(hr.sCar i v).sOut i hcm,⟨⟨rfl,rfl,rfl,rfl,rfl⟩,rfl⟩,rfl⟩
 ·rw[Bool.not_eq_false']at hg;have hl:=(hx hg).len;have i3:R (i:Int) x.cars.length=A:=Ac ω ω;refine H (Q:=λy=>∃h0 h1:Int,y=(((),(i:Int),(),()),((h0,h1,()),t.tup b x g,()))) (P (λ_=>H (Amn hw hm.jst.img (i:Int)) λy2 _=>B ⟨_,_,rfl⟩) λ_=>B ⟨_,_,rfl⟩) λy hy=>?_;obtain⟨h0,h1,rfl⟩:=hy;refine D i3 (D i2 (H (Aj3 hw.small hw.code (i:Int) (t.m.B0.getD i Bu) _ _ _ _ _ _ _) λy4 h4=>D i2 (D i4 ?_)));obtain⟨ya,yb,yc⟩:=y4;obtain⟨⟨v,e,hv⟩,hcm⟩:=h4;change yb=_ at e;subst e;exact B ⟨(t.sCar i v).sOut i _,.inr rfl,hm.sCar i hv,(hr.sCar i v).sOut i hcm,⟨⟨rfl,rfl,rfl,rfl,rfl⟩,rfl⟩,rfl⟩
def UE(b:N)(r:J):Prop:=∃i:Nat,i<b.B0.length∧r=⟨5,0,0,(i:Int),1⟩
theorem Ayy(hm:PM b t.m)(hr:PR b t):Sat (CD (((),([]:List J),t.m.G0.F0,(t.m.G0.F0.length:Int),(0:Int),()),(t.tup b x g,()))) λy=>∃(t':I) (l:List J),y=(((),l,()),(t'.tup b x g,()))∧PM b t'.m∧PR b t'∧Fix t t'∧l.length≤8∧(∀r∈l,UE b r)∧(g=A→∀j,j<b.B0.length→DK (phA t.m.G0 j)=A→DC t' j):=by
 have hcc:=Am hw.code;have hp:=hm.jst.img.lp;unfold CD;refine Sat.loop (λ(k:Nat) z=>∃(i:Nat) (t':I) (l:List J),z=(((),l,t.m.G0.F0,(t.m.G0.F0.length:Int),(i:Int),()),(t'.tup b x g,()))∧i+k=b.B0.length∧PM b t'.m∧PR b t'∧Fix t t'∧l.length≤i∧(∀r∈l,UE b r)∧(g=A→∀j,j<i→DK (phA t.m.G0 j)=A→DC t' j)) (λk z hz=>?_) b.B0.length ⟨0,t,[],rfl,n_ _,hm,hr,.rfl' t,A_ 0,(λr h=>by cases h),λ_ j hj=>absurd hj (f8_ j)⟩ ω;obtain⟨i,t',l,rfl,hk,hm',hr',hf,hl,hv,hdc⟩:=hz;show Sat (Pk.ap (Fz l t.m.G0.F0 (t.m.G0.F0.length:Int) (i:Int)) b x g t') _;unfold Pk.ap Fz;refine P (λq=>?_) λq=>B ⟨t',l,rfl,hm',hr',hf,ω,hv,λhg j hj=>hdc hg j (by have:=E_ q;omega)⟩;have q:(i:Int)<(t.m.G0.F0.length:Int):=m_ q;have hi:i<b.B0.length:=ω;have w:=CG (n:=i) ω;refine D (Ac ω q) ?_;refine H (Q:=λy=>∃(u:I) (c:Bool),y=(((),l,(i:Int),c,t.m.G0.F0,(t.m.G0.F0.length:Int),(i:Int),()),(u.tup b x g,()))∧PM b u.m∧PR b u∧Fix t u∧(g=A→∀j,j<i+1→DK (phA t.m.G0 j)=A→DC u j)) ?_ λy9 h9=>?_
 ·have nw:∀{u:I},DK (phA t.m.G0 i)=C→u.m.U0=t'.m.U0→Fix t' u→g=A→∀j,j<i+1→DK (phA t.m.G0 j)=A→DC u j:=λ{u} h e f hg j hj hw'=>by
   have hne:j≠i:=λe=>by rw[e,h]at hw';cases hw'
   unfold DC;rw[e,f.con];exact hdc hg j ω hw'
  refine aA (Xw _) (P (λ_=>?_) λhwi=>aA (Ahu _) (P (λ_=>?_) λ_=>B ⟨t',C,rfl,hm',hr',hf,nw hwi rfl (.rfl' t')⟩))
  ·refine H (Q:=λy=>∃u:I,y=(((),l,(i:Int),t.m.G0.F0,(t.m.G0.F0.length:Int),(i:Int),()),(u.tup b x g,()))∧PM b u.m∧PR b u∧Fix t u∧(g=A→∀j,j<i+1→DK (phA t.m.G0 j)=A→DC u j)) ?_ λy4 h4=>?_
   ·refine H (Az4 hw (x:=x) (g:=g) hm' hr' hi) λy2 h2=>?_;obtain⟨u,e,h1,h2,h3,h4,h5⟩:=h2;have hd:g=A→∀j,j<i+1→DK (phA t.m.G0 j)=A→DC u j:=λhg j hj hw'=>by
     by_cases e:j=i
     ·rw[e];exact h5 hg
     ·unfold DC;rw[h4 j e,h3.con];exact hdc hg j ω hw'
    rcases e with e | e
    ·subst e;exact B ⟨u,rfl,h1,h2,hf.trans h3,hd⟩
    ·subst e;exact B ⟨u,rfl,h1,h2,hf.trans h3,hd⟩
   ·obtain⟨u,rfl,h1,h2,h3⟩:=h4;exact D (Ac (ω:(0:Int)≤(i:Int)) (by show(i:Int)<(u.m.U0.length:Int);rw[h1.bel];omega)) (B ⟨u,_,rfl,h1,h2,h3⟩)
  ·refine H (Q:=λy=>∃u:I,y=(((),l,(i:Int),t.m.G0.F0,(t.m.G0.F0.length:Int),(i:Int),()),(u.tup b x g,()))∧PM b u.m∧PR b u∧Fix t u∧(g=A→∀j,j<i+1→DK (phA t.m.G0 j)=A→DC u j)) ?_ λy4 h4=>?_
   ·refine H (Bh2 hw hx hm' hr' hi _) λy2 h2=>?_;obtain⟨u,e | e,h1,h2,h3,h4⟩:=h2
    ·subst e;exact B ⟨u,rfl,h1,h2,hf.trans h3,nw hwi h4 h3⟩
    ·subst e;exact B ⟨u,rfl,h1,h2,hf.trans h3,nw hwi h4 h3⟩
   ·obtain⟨u,rfl,h1,h2,h3⟩:=h4;exact D (Ac (ω:(0:Int)≤(i:Int)) (by show(i:Int)<(u.m.B0.length:Int);rw[h1.car];omega)) (B ⟨u,_,rfl,h1,h2,h3⟩)
 ·obtain⟨u,c,rfl,hm2,hr2,hf2,hd2⟩:=h9;refine H (Q:=λy=>∃c:Bool,y=(((),l,(i:Int),t.m.G0.F0,(t.m.G0.F0.length:Int),(i:Int),c,()),(u.tup b x g,()))) (P (λ_=>D (Ac (ω:(0:Int)≤(i:Int)) (by show(i:Int)<(u.m.G0.O0.length:Int);rw[hm2.jst.img.lf];omega)) (B ⟨_,rfl⟩)) λ_=>B ⟨_,rfl⟩) λy10 h10=>?_;obtain⟨c',rfl⟩:=h10;refine P (λ_=>D (Av (ω:l.length+1≤_)) ?_) λ_=>B ⟨k-1,ω,i+1,u,l,by first | (rw[← w];rfl) | rw[← w],ω,hm2,hr2,hf2,ω,hv,hd2⟩;refine B ⟨k-1,ω,i+1,u,l++[Record.mk 5 0 0 (i:Int) 1],by first | (rw[← w];rfl) | rw[← w],ω,hm2,hr2,hf2,by rw[h_];show l.length+1≤_;omega,(λr h=>?_),hd2⟩;rcases p_.1 h with h | h
  ·exact hv r h
  ·exact⟨i,hi,P_.1 h⟩
end
def K3(l:List J):Prop:=∀r∈l,r.R0=4∨r.R0=5∨r.R0=6
def Ar9(h:r.R0=4∨r.R0=5∨r.R0=6):(Aw m r).A0=m.A0:=by unfold Aw;rcases h with h | h | h<;>rw[h]<;>rfl
def QY:∀{l:List J}(m:S),K3 l→(Aq m l).A0=m.A0
 |[],_,_=>rfl
 |r::l,m,h=>(QY (Aw m r) λx hx=>h x (B_ _ hx)).trans (Ar9 (h r (t_ ..)))
def K3.good(h:K3 l)(m:S)(hv:∀r∈l,At b r=A):goodL b m l:=WV m λr hr=>⟨hv r hr,by have:=h r hr;omega⟩
structure Al(b:Bldg)(t t':Pk)(l:List Record):Prop where
 e:t'.e=0
 m:PM b t'.m
 r:PR b t'
 im:t'.m.G0=Aq t.m.G0 l
 b0:0≤t'.budget
 b1:t'.budget≤t.budget
 b2:t.budget-600*(l.length:Int)≤t'.budget
 con:t'.m.K1=t.m.K1
structure De(b:Bldg)(t t':Pk)(l:List Record):Prop where
 e:t'.e=8
 lo:t.budget<600*(l.length:Int)
 ok:t'.m.B1.ok b.H0
 rp:∃k,k<l.length∧CA b t'.m.B1=Aq t.m.G0 (l.take k)
def An5(hw:BW b)(n:Nat):b.H0*(n:Int)≤600*(n:Int):=Int.mul_le_mul_of_nonneg_right hw.room ω
def PM.wr{m:Mch}(h:PM b m){im:S}{s:Sto}(hj:Jst b s im)(he:im.A0=m.G0.A0):PM b { m with G0:=im,B1:=s }:=⟨hj,h.con,h.conv,h.bel,h.belv,h.car,h.carv,h.lod,h.lodv,h.lit,by show m.E2.length=im.A0.length;rw[he];exact h.exl,h.exv,h.tick,h.flt,h.ref⟩
def Wr.fin(hw:BW b){t':I}(h:Wr b t l t')(hm:PM b t.m)(hr:PR b t)(hk:K3 l):(Al b t t' l∨De b t t' l)∧t'.out=t.out:=by
 obtain⟨im,s,bu,e,rfl,h⟩:=h
 have:=An5 hw l.length
 refine⟨?_,rfl⟩;rcases h with⟨rfl,rfl,h1,h2,h3,h4,_⟩ | ⟨rfl,h1,h2,h3⟩
 ·exact .inl ⟨rfl,hm.wr h1 (QY _ hk),⟨hr.leg,hr.sho,hr.rst,hr.oc,hr.cmd⟩,rfl,h3,h4,(by show t.budget-_≤bu;omega),rfl⟩
 ·exact .inr ⟨rfl,ω,h2,h3⟩
def Bud(t:I):Prop:=t.e=0∧0≤t.budget∧t.budget<9223372036854775808
def Al.bud{t':I}(h:Al b t t' l)(hb:Bud t):Bud t':=⟨h.e,h.b0,by have:=h.b1;have:=hb.2.2;omega⟩
def Al.app{u v:I}{k:List J}(h:Al b t u l)(h2:Al b u v k):Al b t v (l++k):=⟨h2.e,h2.m,h2.r,by rw[EQ,← h.im];exact h2.im,h2.b0,by have:=h2.b1;have:=h.b1;omega,(by have:=h2.b2;have:=h.b2;rw[h_];omega),h2.con.trans h.con⟩
def De.mono{u:I}(h:De b t u l)(k:List J):De b t u (l++k):=by obtain⟨i,h1,h2⟩:=h.rp;exact⟨h.e,by have:=h.lo;rw[h_];omega,h.ok,i,by rw[h_];omega,by rw[List.take_append_of_le_length ω];exact h2⟩
def Al.de{u v:I}{k:List J}(h:Al b t u l)(h2:De b u v k):De b t v (l++k):=by obtain⟨i,h3,h4⟩:=h2.rp;refine⟨h2.e,by have:=h2.lo;have:=h.b2;rw[h_];omega,h2.ok,l.length+i,by rw[h_];omega,?_⟩;rw[h4,h.im,List.take_append,a3_ (ω:l.length≤l.length+i),b6_,EQ]
def Bia(hcode:b.code=0)(h:∀r∈l,UE b r):K3 l∧∀r∈l,At b r=A:=⟨λr hr=>by obtain⟨i,_,rfl⟩:=h r hr;exact .inr (.inl rfl),λr hr=>by obtain⟨i,hi,rfl⟩:=h r hr;exact Aji hcode ⟨ω,ω⟩ (.inr ⟨.inl rfl,τ⟩)⟩
def Uv(t:I)(x:Inp)(i:Nat):Prop:=(DK (phA t.m.G0 i)=A∧(t.m.U0.getD i GH).F3=2)∨(Zz (phA t.m.G0 i)=A∧(x.cars.getD i OA).Y1=A∧(x.cars.getD i OA).M1=2)
section
variable{b:N}(hw:BW b){x:Inp}{g:Bool}(hx:g=A→InOK b x)
include hw hx
theorem Bl0(hm:PM b t.m)(hr:PR b t)(hb:Bud t):Sat (t.ap Ek b x g) λy=>∃(t':I) (l:List J),y=((),(t'.tup b x g,()))∧(∀r∈l,UE b r)∧l.length≤8∧(Al b t t' l∨De b t t' l)∧t'.out={ t.out with B0:=t'.out.B0 }∧(g=A→∀j,j<b.B0.length→DK (phA t.m.G0 j)=A→DC t' j):=by
 unfold Pk.ap Ek;refine H (Ayy hw hx hm hr) λy1 h1=>?_;obtain⟨u,l,rfl,hm1,hr1,hf,hl,hv,hdc⟩:=h1;obtain⟨k3,v3⟩:=Bia hw.code hv;have hb1:Bud u:=⟨hf.e.trans hb.1,by rw[hf.bu];exact hb.2⟩
 refine H (Q:=λy=>∃t',y=((),(t'.tup b x g,()))∧Wr b u l t') ?_ λy hy=>?_
 ·refine H (ZO hw.small (x:=x) (g:=g) hm1.jst hb1.2 hb1.1 (k3.good _ v3) (ω:l.length≤100000)) λy2 h2=>?_;obtain⟨t',e | e,h⟩:=h2
  ·subst e;exact B ⟨t',rfl,h⟩
  ·subst e;exact B ⟨t',rfl,h⟩
 obtain⟨t',rfl,h⟩:=hy;obtain⟨h1,h2⟩:=h.fin hw hm1 hr1 k3;refine B ⟨t',l,rfl,hv,hl,?_,by rw[h2,hf.out],?_⟩
 rotate_left
 ·obtain⟨_,_,_,_,rfl,_⟩:=h;exact hdc
 rcases h1 with h1 | h1
 ·exact .inl ⟨h1.e,h1.m,h1.r,by rw[h1.im,hf.im],h1.b0,by rw[← hf.bu];exact h1.b1,by rw[← hf.bu];exact h1.b2,h1.con.trans hf.con⟩
 ·exact .inr ⟨h1.e,by rw[← hf.bu];exact h1.lo,h1.ok,by rw[← hf.im];exact h1.rp⟩
omit hx in
theorem Ayx(hm:PM b t.m)(hxl:x.cars.length=b.B0.length):Sat (BK (t.ap aC b x g)) λy=>∃c:List Bool,y=((c,()),())∧c.length=b.B0.length∧∀j,j<b.B0.length→c.getD j C=A→Uv t x j:=by
 have hcc:=Am hw.code;have hp:=hm.jst.img.lp;unfold BK;refine D (by show((decide ((0:Int)≤(b.B0.length:Int))&&decide ((b.B0.length:Int)≤(b.B0.length:Int)))&&decide ((b.B0.length:Int)≤2147483648))=A;simp only[e_,r_];omega) (H (Q:=λy=>∃c:List Bool,y=((c,()),())∧c.length=b.B0.length∧∀j,j<b.B0.length→c.getD j C=A→Uv t x j) ?_ λy h=>by obtain⟨c,rfl,h⟩:=h;exact B ⟨c,rfl,h⟩);generalize hT:t.ap aC b x g=T;have eb:T.m_Beliefs=t.m.U0:=by rw[← hT];rfl
 have ec:T.m_Cars=t.m.B0:=by rw[← hT];rfl
 have ex:T.x_Cars=x.cars:=by rw[← hT];rfl
 have ep:T.m_Image_Phases=t.m.G0.F0:=by rw[← hT];rfl
 have e1:T.b_Floors=b.C0:=by rw[← hT];rfl
 have e2:T.b_Debounce=b.E0:=by rw[← hT];rfl
 have e3:T.b_Room=b.H0:=by rw[← hT];rfl
 have e4:T.b_Park=b.M0:=by rw[← hT];rfl
 have e5:T.b_Empty=b.J0:=by rw[← hT];rfl
 have e6:T.b_Full=b.L0:=by rw[← hT];rfl
 have e7:T.b_Over=b.N0:=by rw[← hT];rfl
 have e8:T.b_Cars=b.B0:=by rw[← hT];rfl
 unfold DH;refine Sat.loop (λ(k:Nat) z=>∃(i:Nat) (c:List Bool),z=((T,c,T.m_Image_Phases,(T.m_Image_Phases.length:Int),(i:Int),()),())∧i+k=b.B0.length∧c.length=b.B0.length∧∀j,j<i→c.getD j C=A→Uv t x j) (λk z hz=>?_) b.B0.length ⟨0,_,rfl,n_ _,by rw[T_,e8];omega,λj hj=>absurd hj (f8_ j)⟩ ω;obtain⟨i,c,rfl,hk,hc,hcj⟩:=hz;show Sat (Fy T c T.m_Image_Phases (T.m_Image_Phases.length:Int) (i:Int)) _;unfold Fy;rw[eb,ec,ex,ep,e1,e2,e3,e4,e5,e6,e7,e8];refine P (λq=>?_) λq=>B ⟨c,rfl,hc,λj hj=>hcj j (by have:=E_ q;omega)⟩;have q:(i:Int)<(t.m.G0.F0.length:Int):=m_ q;have hi:i<b.B0.length:=ω;have w:=CG (n:=i) ω;have i2:R (i:Int) t.m.U0.length=A:=Ac ω (by rw[hm.bel];omega);have i3:R (i:Int) t.m.B0.length=A:=Ac ω (by rw[hm.car];omega);have i4:R (i:Int) c.length=A:=Ac ω ω;have i5:R (i:Int) x.cars.length=A:=Ac ω ω;refine D (Ac ω q) ?_;have done:∀v:Bool,(v=A→Uv t x i)→(c.set i v).length=b.B0.length∧∀j,j<i+1→(c.set i v).getD j C=A→Uv t x j:=λv hv=>⟨by rw[D_];exact hc,λj hj h=>by
  by_cases e:i=j
  ·subst e;rw[Bq _ _ ω]at h;exact hv h
  ·rw[CX _ _ e]at h;exact hcj j ω h⟩
 have no:∀{p:Prop},C=A→p:=λq=>by cases q
 refine H (Q:=λy=>∃v:Bool,y=((T,c.set i v,t.m.G0.F0,(t.m.G0.F0.length:Int),(i:Int),()),())∧(v=A→Uv t x i)) ?_ λy hy=>?_
 ·have still:Sat ((EU (t.m.G0.F0.getD (aB (i:Int)) 0)).bind λy3=>bif y3.1.1 then(bif R (i:Int) t.m.B0.length then(let z2:=t.m.B0.getD (aB (i:Int)) Bu
   bif R (i:Int) x.cars.length then(let z3:=x.cars.getD (aB (i:Int)) OA
   (JI b.C0 b.E0 b.H0 b.M0 b.J0 b.L0 b.N0 b.B0 z2.V1 z2.F1 z2.Y0 z2.Q1 z2.H1 z2.L1 z2.E1 z2.S0 z2.X0 z2.Q0 z2.D2 z2.C3 z2.R3 z2.E3 z3.N1 z3.Y1 z3.M1 z3.I2).bind λy4=>bif R (i:Int) c.length then some ((T,c.set (aB (i:Int)) y4.1.1,t.m.G0.F0,(t.m.G0.F0.length:Int),(i:Int),()),())else none)else none)else none)else(bif R (i:Int) c.length then some ((T,c.set (aB (i:Int)) C,t.m.G0.F0,(t.m.G0.F0.length:Int),(i:Int),()),())else none)) λy=>∃v:Bool,y=((T,c.set i v,t.m.G0.F0,(t.m.G0.F0.length:Int),(i:Int),()),())∧(v=A→Uv t x i):=
   aA (Ahu _) (P (λhd=>D i3 (D i5 (H (Agw hw.small hw.code (t.m.B0.getD i Bu) _ _ _ _) λy4 h4=>D i4 (B ⟨y4.1.1,rfl,λh=>.inr ⟨hd,h4 h⟩⟩)))) λ_=>D i4 (B ⟨C,rfl,no⟩))
  refine aA (Xw _) (P (λhwi=>D i2 ?_) λ_=>still);refine H (Afu hw.small hw.code hi (hm.belv i hi)) λy2 h2=>P (λq=>D i4 (B ⟨A,rfl,λ_=>.inl ⟨hwi,h2 q⟩⟩)) λ_=>still
 obtain⟨v,rfl,hv⟩:=hy;obtain⟨d1,d2⟩:=done v hv;rw[← ep];exact B ⟨k-1,ω,i+1,c.set i v,by first | (rw[← w];rfl) | rw[← w],ω,d1,d2⟩
end
def Pk.stat(t:I)(n:Int):I:={ t with out:={ t.out with R2:=n } }
def Pk.sRst(t:I)(i:Nat):I:={ t with reset:=t.reset.set i A }
def PR.sRst(h:PR b t)(i:Nat):PR b (t.sRst i):=⟨h.leg,h.sho,by show(t.reset.set i A).length=_;rw[D_];exact h.rst,h.oc,h.cmd⟩
def OB(m:S)(kind:Int)(i:Nat)(calm fr:Bool):List J×Int:=bif kind==0 then([],(0:Int))else PJ m i calm fr kind
def PI(b:N)(r:J):Prop:=∃(i:Nat) (k v:Int),i<b.B0.length∧r=⟨k,0,0,i,v⟩∧((k=4∧0≤v∧v≤4)∨((k=5∨k=6)∧0≤v∧v≤1))
def Aqg(hcode:b.code=0)(h:∀r∈l,PI b r):K3 l∧∀r∈l,At b r=A:=by
 refine⟨λr hr=>?_,λr hr=>?_⟩<;>obtain⟨i,k,v,hi,rfl,h⟩:=h r hr
 ·show k=4∨k=5∨k=6;omega
 ·exact Aji hcode ⟨ω,ω⟩ h
def Bdy(hi:i<b.B0.length){k v:Int}(h:(k=4∧0≤v∧v≤4)∨((k=5∨k=6)∧0≤v∧v≤1)):∀r∈[(⟨k,0,0,i,v⟩:J)],PI b r:=λr hr=>⟨i,k,v,hi,P_.1 hr,h⟩
def Anm(m:S)(kind:Int)(hi:i<b.B0.length)(calm fr:Bool):(∀r∈(OB m kind i calm fr).1,PI b r)∧(OB m kind i calm fr).1.length≤1:=by
 have no:∀e:Int,(∀r∈(([]:List J),e).1,PI b r)∧(([]:List J),e).1.length≤1:=λe=>⟨λr h=>(by cases h),a2_ _⟩
 have one:∀{k v:Int},((k=4∧0≤v∧v≤4)∨((k=5∨k=6)∧0≤v∧v≤1))→(∀r∈([(⟨k,0,0,i,v⟩:J)],(0:Int)).1,PI b r)∧([(⟨k,0,0,i,v⟩:J)],(0:Int)).1.length≤1:=λh=>⟨Bdy hi h,A_ 1⟩
 unfold OB PJ;have ite:∀(c:Bool) {x y:List J×Int},((∀r∈x.1,PI b r)∧x.1.length≤1)→((∀r∈y.1,PI b r)∧y.1.length≤1)→(∀r∈(bif c then x else y).1,PI b r)∧(bif c then x else y).1.length≤1:=λc _ _ h1 h2=>by
  cases c
  ·exact h2
  ·exact h1
 exact ite _ (no 0) (ite _ (ite _ (one (.inl ⟨rfl,τ⟩)) (no _)) (ite _ (one (.inl ⟨rfl,τ⟩)) (ite _ (one (.inl ⟨rfl,τ⟩)) (ite _ (one (.inr ⟨.inr rfl,τ⟩)) (ite _ (one (.inl ⟨rfl,τ⟩)) (ite _ (ite _ (one (.inl ⟨rfl,τ⟩)) (no _)) (ite _ (ite _ (one (.inl ⟨rfl,τ⟩)) (no _)) (ite _ (ite _ (one (.inr ⟨.inr rfl,τ⟩)) (no _)) (ite _ (one (.inr ⟨.inl rfl,τ⟩)) (no _))))))))))
def Afs{b:N}(m:S)(calm:List Bool):∀n,n≤b.B0.length→∀r∈FC m calm n,PI b r
 |0,_,_,h=>by cases h
 |n+1,hn,r,h=>by
  rcases p_.1 h with h | h
  ·exact Afs m calm n ω r h
  ·unfold QZ at h;cases hg:WU m calm n with
   |false=>rw[hg]at h;cases h
   |true=>
    rw[hg,d_]at h;rcases p_.1 h with h | h
    ·rcases p_.1 h with h | h
     ·exact⟨n,4,2,ω,P_.1 h,.inl ⟨rfl,τ⟩⟩
     ·cases hl:JA m n with
      |false=>rw[hl]at h;cases h
      |true=>rw[hl]at h;exact⟨n,6,0,ω,P_.1 h,.inr ⟨.inr rfl,τ⟩⟩
    ·cases hl:flA m n with
     |false=>rw[hl]at h;cases h
     |true=>rw[hl]at h;exact⟨n,5,0,ω,P_.1 h,.inr ⟨.inl rfl,τ⟩⟩
def Ns(b:N)(m:S)(kind:Int)(i:Nat)(cm:List Bool)(fr:Bool):List J:=(OB m kind i (cm.getD i C) fr).1++FC (Aq m (OB m kind i (cm.getD i C) fr).1) (bif kind !=0 then cm.set i C else cm) b.B0.length
structure Opr(b:Bldg)(x:Inp)(g:Bool)(t t':Pk)(l:List Record):Prop where
 res:Al b t t' l∨De b t t' l
 how:∃(i:Nat) (cm:List Bool) (fr:Bool),x.car=(i:Int)∧i<b.B0.length∧cm.length=b.B0.length∧l=Ns b t.m.G0 x.kind i cm fr∧t'.out={ t.out with R2:=(OB t.m.G0 x.kind i (cm.getD i false) fr).2 }∧BK (t.ap machine_ticker.mk b x g)=some ((cm,()),())∧DZ t.m.G0.F0 t.m.G0.O0 t.m.G0.K0 t.m.G0.A0=some ((fr,()),())
section
variable{b:N}(hw:BW b){x:Inp}{g:Bool}(hx:InOK b x)
include hw
theorem BelOK.new:BelOK b i ⟨-1,0,0,[],0,C⟩:=by
 have:=hw.small.lo
 exact⟨⟨τ,show(-1:Int)≤b.C0-1 by omega⟩,τ,τ,τ,λ_=>rfl,.nil⟩
theorem Bd2(hm:PM b t.m)(hr:PR b t)(e:Int)(was:S)(hwl:was.F0.length=b.B0.length):Sat (BB (((),(),(),e,t.m.G0.F0,(t.m.G0.F0.length:Int),(0:Int),()),((was.F0,was.O0,was.K0,was.A0,()),(x.kind,x.car,()),t.tup b x g,()))) λy=>∃t':I,y=((),(t'.tup b x g,()))∧PM b t'.m∧PR b t'∧Fix t t'∧t'.out=t.out:=by
 have hcc:=Am hw.code;have hp:=hm.jst.img.lp;unfold BB;refine Sat.loop (λ(k:Nat) z=>∃(i:Nat) (t':I),z=(((),(),(),e,t.m.G0.F0,(t.m.G0.F0.length:Int),(i:Int),()),((was.F0,was.O0,was.K0,was.A0,()),(x.kind,x.car,()),t'.tup b x g,()))∧i+k=b.B0.length∧PM b t'.m∧PR b t'∧Fix t t'∧t'.out=t.out) (λk z hz=>?_) b.B0.length ⟨0,t,rfl,n_ _,hm,hr,.rfl' t,rfl⟩ ω;obtain⟨i,u,rfl,hk,hm,hr,hf,ho⟩:=hz;show Sat (u.ap (EK e t.m.G0.F0 (t.m.G0.F0.length:Int) (i:Int) was.F0 was.O0 was.K0 was.A0 x.kind x.car) b x g) _;unfold Pk.ap EK;refine P (λq=>?_) λ_=>B ⟨u,rfl,hm,hr,hf,ho⟩;have q:(i:Int)<(t.m.G0.F0.length:Int):=m_ q;have hi:i<b.B0.length:=ω;have w:=CG (n:=i) ω;have i2:R (i:Int) u.m.U0.length=A:=Ac ω (by rw[hm.bel];omega);have i3:R (i:Int) u.m.B0.length=A:=Ac ω (by rw[hm.car];omega);have i4:R (i:Int) u.reset.length=A:=Ac ω (by rw[hr.rst];omega);refine D (Ac ω q) (D (Ac ω ω) ?_);refine H (Q:=λ_=>True) (by unfold LM;exact Sat.go) λy1 _=>P (λ_=>?_) λ_=>?_
 ·refine aA rfl (D i2 (D i3 (D i4 ?_)));exact B ⟨k-1,ω,i+1,((u.sBel i ⟨-1,0,0,[],0,C⟩).sCar i Bu).sRst i,by first | (rw[← w];rfl) | rw[← w],ω,(hm.sBel (BelOK.new hw)).sCar i (Nh hw.small),((hr.sBel i _).sCar i _).sRst i,⟨⟨hf.im,hf.st,hf.bu,hf.e,hf.out⟩,hf.con⟩,ho⟩
 refine H (Q:=λy=>∃c:Bool,y=(((),(),(),e,(i:Int),t.m.G0.F0,(t.m.G0.F0.length:Int),(i:Int),c,()),((was.F0,was.O0,was.K0,was.A0,()),(x.kind,x.car,()),u.tup b x g,()))) (P (λ_=>P (λ_=>B ⟨_,rfl⟩) λ_=>B ⟨_,rfl⟩) λ_=>B ⟨_,rfl⟩) λy3 h3=>?_;obtain⟨c,rfl⟩:=h3;refine P (λ_=>D i2 ?_) λ_=>B ⟨k-1,ω,i+1,u,by first | (rw[← w];rfl) | rw[← w],ω,hm,hr,hf,ho⟩;refine H (Ac4 hw.small hw.code hi (hm.belv i hi)) λy4 h4=>D i2 (D i3 (D i4 ?_));obtain⟨ya,yb,yc⟩:=y4;obtain⟨v,e4,hv⟩:=h4;change yb=_ at e4;subst e4;exact B ⟨k-1,ω,i+1,((u.sBel i v).sCar i Bu).sRst i,by first | (rw[← w];rfl) | rw[← w],ω,(hm.sBel hv).sCar i (Nh hw.small),((hr.sBel i _).sCar i _).sRst i,⟨⟨hf.im,hf.st,hf.bu,hf.e,hf.out⟩,hf.con⟩,ho⟩
include hx
theorem Az7(hm:PM b t.m)(hr:PR b t)(hb:Bud t):Sat (t.ap Dp b x g) λy=>∃(t':I) (l:List J),(y=.inl ((),(t'.tup b x g,()))∨y=.inr ((),(t'.tup b x g,())))∧Opr b x g t t' l:=by
 have hcc:=Am hw.code;have he:=Ep hw.small hm.jst.img;obtain⟨fr,hfr⟩:=Bic hm.jst.img;obtain⟨i,hi⟩:=f5_ hx.car.1;have hic:i<b.B0.length:=by have:=hx.car.2;omega
 unfold Pk.ap Dp;obtain⟨y1,hcalm,cm,rfl,hcm,_⟩:=Ayx hw (x:=x) (g:=g) hm hx.len;refine aA hcalm ?_;have hord:=Agz hm.jst.img hw.small ω hx.kind hic hcm hfr;rw[← hi]at hord;refine aA hord ?_;obtain⟨ok1,len1⟩:=Anm (b:=b) t.m.G0 x.kind hic (cm.getD i C) fr;obtain⟨k31,v1⟩:=Aqg hw.code ok1;have hO:(bif x.kind==0 then([],(0:Int))else PJ t.m.G0 i (cm.getD i C) fr x.kind)=OB t.m.G0 x.kind i (cm.getD i C) fr:=rfl;have hL:Ns b t.m.G0 x.kind i cm fr=(OB t.m.G0 x.kind i (cm.getD i C) fr).1++FC (Aq t.m.G0 (OB t.m.G0 x.kind i (cm.getD i C) fr).1) (bif x.kind !=0 then cm.set i C else cm) b.B0.length:=rfl;rw[hO];generalize hOO:OB t.m.G0 x.kind i (cm.getD i C) fr=O at ok1 len1 k31 v1 hL;obtain⟨O1,O2⟩:=O;refine H (Q:=λy=>∃t',y=(((),(),(),cm,O2,()),((t.m.G0.F0,t.m.G0.O0,t.m.G0.K0,t.m.G0.A0,()),(x.kind,x.car,()),t'.tup b x g,()))∧Wr b (t.stat O2) O1 t') ?_ λy5 h5=>?_
 ·refine H (ZO hw.small (x:=x) (g:=g) (t:=t.stat O2) hm.jst hb.2 hb.1 (k31.good _ v1) (show O1.length≤100000 by have:O1.length≤1:=len1;omega)) λy2 h2=>?_;obtain⟨t',e | e,h⟩:=h2
  ·subst e;exact B ⟨t',rfl,h⟩
  ·subst e;exact B ⟨t',rfl,h⟩
 obtain⟨t1,rfl,hw1⟩:=h5;obtain⟨r1,o1⟩:=hw1.fin hw (t:=t.stat O2) hm ⟨hr.leg,hr.sho,hr.rst,hr.oc,hr.cmd⟩ k31;have r1:Al b t t1 O1∨De b t t1 O1:=by
  rcases r1 with r | r
  ·exact .inl ⟨r.e,r.m,r.r,r.im,r.b0,r.b1,r.b2,r.con⟩
  ·exact .inr ⟨r.e,r.lo,r.ok,r.rp⟩
 have hsl:(bif x.kind !=0 then cm.set i C else cm).length=b.B0.length:=by
  cases x.kind !=0
  ·exact hcm
  ·show(cm.set i C).length=_;rw[D_];exact hcm
 refine aA (b:=(((),(),(),(bif x.kind !=0 then cm.set i C else cm),O2,()),((t.m.G0.F0,t.m.G0.O0,t.m.G0.K0,t.m.G0.A0,()),(x.kind,x.car,()),t1.tup b x g,()))) ?_ ?_
 ·show(bif x.kind !=0 then(bif R x.car cm.length then _ else none)else _)=_;cases x.kind !=0 with
  |false=>rfl
  |true=>rw[d_,Ac hx.car.1 (by have:=hx.car.2;omega),d_,d_];show some (((),(),(),cm.set (aB x.car) C,_,()),_)=_;rw[hi,j_]
 generalize(bif x.kind !=0 then cm.set i C else cm)=c2 at hsl hL;refine H (Q:=λy=>∃t2,y=(((),(),(),O2,()),((t.m.G0.F0,t.m.G0.O0,t.m.G0.K0,t.m.G0.A0,()),(x.kind,x.car,()),t2.tup b x g,()))∧(Al b t t2 (Ns b t.m.G0 x.kind i cm fr)∨De b t t2 (Ns b t.m.G0 x.kind i cm fr))∧t2.out={ t.out with R2:=O2 }) ?_ λy11 h11=>?_
 ·refine P (λq=>?_) λq=>?_
  ·have q:t1.e=0:=eq_of_beq q;have r:Al b t t1 O1:=by
    rcases r1 with r | r
    ·exact r
    ·have:=r.e;omega
   have he1:=Ep hw.small r.m.jst.img;have hb1:=r.bud hb;refine H (Q:=λy=>∃t2,y=(((),(),(),O2,()),((t.m.G0.F0,t.m.G0.O0,t.m.G0.K0,t.m.G0.A0,()),(x.kind,x.car,()),t2.tup b x g,()))∧(Al b t t2 (Ns b t.m.G0 x.kind i cm fr)∨De b t t2 (Ns b t.m.G0 x.kind i cm fr))∧t2.out={ t.out with R2:=O2 }) ?_ λy10 h10=>by obtain⟨t2,rfl,h⟩:=h10;exact B ⟨t2,rfl,h⟩
   have hauto:=Aj4 r.m.jst.img hw.small ω hsl;have ok2:=Afs (b:=b) t1.m.G0 c2 b.B0.length (A_ _);have len2:=Uo t1.m.G0 c2 b.B0.length;rw[r.im]at ok2 len2;obtain⟨k32,v2⟩:=Aqg hw.code ok2;refine aA hauto ?_;rw[r.im];refine H (ZO hw.small (x:=x) (g:=g) (t:=t1) r.m.jst hb1.2 hb1.1 (k32.good _ v2) (ω:(FC (Aq t.m.G0 O1) c2 b.B0.length).length≤100000)) λy2 h2=>?_;have fin:∀t2,Wr b t1 (FC (Aq t.m.G0 O1) c2 b.B0.length) t2→(Al b t t2 (Ns b t.m.G0 x.kind i cm fr)∨De b t t2 (Ns b t.m.G0 x.kind i cm fr))∧t2.out={ t.out with R2:=O2 }:=λt2 h=>by
    obtain⟨r2,o2⟩:=h.fin hw r.m r.r k32;rw[hL];refine⟨?_,by rw[o2,o1];rfl⟩;rcases r2 with r2 | r2
    ·exact .inl (r.app r2)
    ·exact .inr (r.de r2)
   obtain⟨t2,e | e,h⟩:=h2
   ·subst e;exact B ⟨t2,rfl,fin t2 h⟩
   ·subst e;exact B ⟨t2,rfl,fin t2 h⟩
  ·have q:¬t1.e=0:=λh=>by have q:(t1.e==0)=C:=q;rw[h]at q;cases q
   rcases r1 with r | r
   ·exact absurd r.e q
   ·exact B ⟨t1,rfl,.inr (by rw[hL];exact r.mono _),by rw[o1];rfl⟩
 ·obtain⟨t2,rfl,r2,o2⟩:=h11;have how:∀t':I,t'.out={ t.out with R2:=O2 }→∃(i':Nat) (cm':List Bool) (fr':Bool),x.car=(i':Int)∧i'<b.B0.length∧cm'.length=b.B0.length∧Ns b t.m.G0 x.kind i cm fr=Ns b t.m.G0 x.kind i' cm' fr'∧t'.out={ t.out with R2:=(OB t.m.G0 x.kind i' (cm'.getD i' C) fr').2 }∧BK (t.ap aC b x g)=some ((cm',()),())∧DZ t.m.G0.F0 t.m.G0.O0 t.m.G0.K0 t.m.G0.A0=some ((fr',()),()):=λt' ho=>⟨i,cm,fr,hi,hic,hcm,rfl,by rw[hOO];exact ho,hcalm,hfr⟩
  refine P (λ_=>B ⟨t2,_,.inl rfl,r2,how t2 o2⟩) λq=>?_;have q:t2.e=0:=by have q:(t2.e !=0)=C:=q;simpa using q
  have r:Al b t t2 (Ns b t.m.G0 x.kind i cm fr):=by
   rcases r2 with r | r
   ·exact r
   ·have:=r.e;omega
  refine H (Bd2 hw (x:=x) (g:=g) r.m r.r O2 t.m.G0 hm.jst.img.lp) λy12 h12=>?_;obtain⟨t3,rfl,m3,r3,f3,o3⟩:=h12;exact B ⟨t3,_,.inr rfl,.inl ⟨f3.e.trans r.e,m3,r3,f3.im.trans r.im,by rw[f3.bu];exact r.b0,by rw[f3.bu];exact r.b1,by rw[f3.bu];exact r.b2,f3.con.trans r.con⟩,how t3 (o3.trans o2)⟩
end
def inX(l:List Int):Prop:=∀x∈l,0≤x∧x≤1000000
def inX.exp{l:List Int}(h:inX l):PQ l=A:=K_.2 λx hx=>Ap.2 (h x hx)
def Brh(E:List Entry){xs:List Int}(h:inX xs)(r:J):inX (xsV E xs r):=by
 unfold xsV;cases(r.R0==2)&&FV (Au r.D0 r.I0) E with
 |true=>
  intro x hx;rcases p_.1 hx with hx | hx
  ·exact h x (d8_ hx)
  ·exact h x (d9_ hx)
 |false=>
  cases(r.R0==1)&&!FV (Au r.D0 r.I0) E with
  |true=>
   intro x hx;rcases p_.1 hx with hx | hx
   ·rcases p_.1 hx with hx | hx
    ·exact h x (d8_ hx)
    ·rw[P_.1 hx];decide
   ·exact h x (d9_ hx)
  |false=>exact h
def Beh(hcode:b.code=0)(i:Int):0≤(Ws b i).M2∧(Ws b i).M2≤10000:=by
 by_cases h:i.toNat<b.B0.length
 ·exact(Adc hcode h).2.2.2
 ·unfold Ws;rw[k_,List.getElem?_eq_none ω];decide
def Bdt(hcode:b.code=0)(vs:List U)(e n:Entry){x:Int}(hx:0≤x∧x≤1000000):0≤ZG b vs e n x∧ZG b vs e n x≤1000000:=by
 unfold ZG;have h1:=Bh9 b n.T0 (Ay vs n.T0) e.D0 e.I0;have h2:=Beh hcode n.T0;rw[Aa (n:=x-1) ω ω,Aa (n:=RW b n.T0 (Ay vs n.T0) e.D0 e.I0+(Ws b n.T0).M2) ω ω];cases n.T0 !=e.T0&&decide (0≤n.T0)with
 |true=>
  rw[d_];by_cases g:1000000<RW b n.T0 (Ay vs n.T0) e.D0 e.I0+(Ws b n.T0).M2
  ·rw[b_ g,d_];decide
  ·rw[f_ g,c_];omega
 |false=>
  rw[c_];by_cases g:x-1<0
  ·rw[b_ g,d_];decide
  ·rw[f_ g,c_];omega
def Anp{b:N}(hcode:b.code=0)(vs:List U):∀(l:List Entry) (xs:List Int),inX xs→inX (Mb b vs l xs)
 |[],_,_,_,h=>by simp[Mb]at h
 |_::_,[],_,_,h=>by simp[Mb]at h
 |e::t,x::xs,hx,y,h=>by
  rcases q_.1 h with rfl | h
  ·exact Bdt hcode vs e _ (hx x (t_ ..))
  ·exact Anp hcode vs t xs (λz hz=>hx z (B_ _ hz)) y h
def Auv(a c:Entry):∀r∈Nk a c,r.R0=3∨r.R0=7:=by
 unfold Nk;intro r h;rcases p_.1 h with h | h
 ·cases q:(a.Z0 !=c.Z0||!(a.B2==c.B2))with
  |false=>rw[q]at h;cases h
  |true=>rw[q]at h;rw[P_.1 h];exact .inr rfl
 ·cases q:a.T0 !=c.T0 with
  |false=>rw[q]at h;cases h
  |true=>rw[q]at h;rw[P_.1 h];exact .inl rfl
def SP(b:N)(vs:List U):∀(l:List Entry) (xs:List Int),∀r∈GI b vs l xs,r.R0=3∨r.R0=7
 |[],_,_,h=>by simp[GI]at h
 |_::_,[],_,h=>by simp[GI]at h
 |e::t,x::xs,r,h=>by
  rcases p_.1 h with h | h
  ·exact Auv _ _ r h
  ·exact SP b vs t xs r h
structure Rg(b:Bldg)(m:Img)(X:Rnd):Prop where
 good:goodL b m X.recs
 img:Aq m X.recs=X.img
 ok:X.ok b
 xs:inX X.xs
def Rg.step{X:Rnd}(h:Rg b m X)(hv:At b r=A)(hf:Je b X.img r=C):Rg b m (Rr r X):=⟨h.good.app (k:=[r]) ⟨hv,by rw[h.img];exact hf,trivial⟩,by show Aq m (X.recs++[r])=Aw X.img r;rw[EQ,h.img];rfl,Xs h.ok hv,Brh _ h.xs r⟩
def Rg.wr{b:N}{m:S}:∀{l:List J}{X:Rnd},Rg b m X→goodL b X.img l→Rg b m (wrL l X)
 |[],X,h,_=>by unfold wrL;rw[a6_];exact⟨h.good,h.img,⟨h.ok.img,h.ok.len⟩,h.xs⟩
 |r::t,X,h,⟨h1,h2,h3⟩=>by rw[Xx];exact Rg.wr (h.step h1 h2) h3
def Rg.reg{b:N}{m:S}:∀{l:List Entry}{X:Rnd},Rg b m X→(∀e∈l,Ai b e.D0 e.I0=A)→Rg b m (Et b l X)
 |[],_,h,_=>h
 |e::t,X,h,hv=>by
  refine Rg.reg (l:=t) (X:=Cq b e X) ?_ λx hx=>hv x (B_ _ hx);unfold Cq;cases hr:KP b X.img with
  |true=>exact h.step (YZ (hv e (t_ ..))) (by unfold Je;rw[hr];simp)
  |false=>exact⟨h.good,h.img,⟨h.ok.img,h.ok.len⟩,h.xs⟩
section
variable{b:N}(hb:b.small)(hcode:b.code=0){m:S}(hm:ImgOK b m){xs:List Int}(hx:xs.length=m.A0.length)(hxv:inX xs){vs:List U}(ps:List Calls)(press:Int×Int)(good:Bool)
include hb hcode hm hx hxv
theorem Acl:Rg b m (BV b m xs vs ps press good):=by
 have h0:∀L:Lan,Rg b m ⟨[],m,xs,L,(0,0)⟩:=λL=>⟨trivial,rfl,⟨hm,hx⟩,hxv⟩
 unfold BV;cases good with
 |false=>exact h0 _
 |true=>have hv:=Vz hcode vs (l:=m.A0) λe he=>(CR.1 (hm.en e he)).1;exact((h0 _).wr (WV m λr hr=>⟨(hv r hr).1,by rw[(hv r hr).2];decide⟩)).reg λe he=>WR hb hcode he
variable(hvl:vs.length=b.B0.length)
include hvl
theorem Xv:Xu b m xs vs ps press good=(GI b vs (BV b m xs vs ps press good).img.A0 (BV b m xs vs ps press good).xs,Mb b vs (BV b m xs vs ps press good).img.A0 (BV b m xs vs ps press good).xs,0,()):=by have h:=Acl hb hcode hm hx hxv (vs:=vs) ps press good;unfold Xu Oc;rw[Img.ok_iff.2 h.ok.img,show(((BV b m xs vs ps press good).xs.length:Int)==((BV b m xs vs ps press good).img.A0.length:Int))=A by rw[h.ok.len];exact l_ _,show((vs.length:Int)==(b.B0.length:Int))=A by rw[hvl];exact l_ _,h.xs.exp];rfl
theorem Ack:Rg b m (EH b m xs vs ps press good)∧(EH b m xs vs ps press good).recs.length≤300:=by
 have hcc:=Am hcode;have h:=Acl hb hcode hm hx hxv (vs:=vs) ps press good;have hlen:=(Aoh hb hcode hm hx (vs:=vs) ps press good).2;have hp:=Xv hb hcode hm hx hxv (vs:=vs) ps press good hvl;have he:=Ep hb h.ok.img;unfold EH;rw[hp];generalize BV b m xs vs ps press good=X at h hlen he;obtain⟨p1,p2,p3⟩:=Xk (b:=b) ω (by omega:(vs.length:Int)=(b.B0.length:Int)) X.img.A0 X.xs [] X.img h.ok.len h.ok.img rfl;rw[a5_]at p1 p3;have hk:=SP b vs X.img.A0 X.xs;have hw:=h.wr (l:=GI b vs X.img.A0 X.xs) (WV X.img λr hr=>⟨p2 r hr,by have:=hk r hr;omega⟩);have hl:=YT b vs X.img.A0 X.xs;refine⟨⟨hw.good,hw.img,⟨hw.ok.img,?_⟩,Anp hcode vs _ _ h.xs⟩,?_⟩
 ·show(Mb b vs X.img.A0 X.xs).length=(Aq X.img (GI b vs X.img.A0 X.xs)).A0.length;rw[p1,YS b vs _ _ h.ok.len];show _=(Vj b vs X.img.A0 X.xs).length;rw[Al2 b vs _ _ h.ok.len]
 ·show(X.recs++GI b vs X.img.A0 X.xs).length≤300;rw[h_];omega
end
def Am6(b:N)(vs:List U)(ps:List Calls):∀(m i:Nat) (s:Lan),(AE (Il b vs ps) m i s).lit.length=s.lit.length+m∧(AE (Il b vs ps) m i s).gong.length=s.gong.length+m
 |0,_,_=>⟨rfl,rfl⟩
 |m+1,i,s=>by
  obtain⟨h1,h2⟩:=Am6 b vs ps m (i+1) (Il b vs ps i s);have e1:(Il b vs ps i s).lit.length=s.lit.length+1:=by unfold Il;show(s.lit++[_]).length=_;rw[h_];rfl
  have e2:(Il b vs ps i s).gong.length=s.gong.length+1:=by unfold Il;show(s.gong++[_]).length=_;rw[h_];rfl
  exact⟨by show(AE (Il b vs ps) m (i+1) (Il b vs ps i s)).lit.length=_;omega,by show(AE (Il b vs ps) m (i+1) (Il b vs ps i s)).gong.length=_;omega⟩
def Aca(b:N):∀(l:List Entry) (X:Rnd),(Et b l X).lan=X.lan
 |[],_=>rfl
 |e::t,X=>by show(Et b t (Cq b e X)).lan=X.lan;rw[Aca b t];unfold Cq;cases KP b X.img<;>rfl
def Zo(b:N)(m:S)(xs:List Int)(vs:List U)(ps:List Calls)(press:Int×Int)(good:Bool):(EH b m xs vs ps press good).lan=bif good then CO b vs ps else As9 vs.length:=by
 show(BV b m xs vs ps press good).lan=_;unfold BV;cases good with
 |true=>rw[d_,d_,Aca];rfl
 |false=>rfl
def Bay(b:N)(m:S)(xs:List Int)(vs:List U)(ps:List Calls)(press:Int×Int)(good:Bool):(EH b m xs vs ps press good).lan.lit.length=vs.length∧(EH b m xs vs ps press good).lan.gong.length=vs.length:=by
 rw[Zo];cases good with
 |true=>obtain⟨h1,h2⟩:=Am6 b vs ps vs.length 0 Lan.none;exact⟨h1.trans (n_ _),h2.trans (n_ _)⟩
 |false=>exact⟨T_,T_⟩
end Go.Ovl
