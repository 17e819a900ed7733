import Derived.Test.YthidicpicnalfaaGreatDoorOvB
import Derived.Test.YthidicpicnalfaaGreatDoorOvA
set_option linter.all false
set_option maxRecDepth 100000
open Go.Ovl.Sat renaming ret->A,bindS->H,bifT->I,bindE->J,bic->N,bifF->Y,loop->aL
open Bool renaming true->B,false->C
open Go.Ovl renaming Sat->R,Ac->U,Pk->V,Bldg->Z,Record->aC,phA->aE,CarOutput->aG,View->aK,Relay->aM,Entry->aT,Debounced->aU
open Option renaming some->W
open Go.Ab renaming inB->aA
open Go.IntKind renaming u32->aB,wrap->aD,i64->aH,u64->aN,u8->aW
open Int renaming toNat->aF,fdiv->aQ
open Min renaming min->aI
open Go.Ovl.Relay renaming mk->aJ
open BitVec renaming ofInt->aO,toNat->aV
open Go.Ovl.Pk renaming ap->aP
open Decidable renaming decide->aR
open List renaming replicate->aS,getElem_of_mem->bE
open Go.Ovl.Calls renaming mk->aX
open Prod renaming fst->aY
open Go.Ovl.CarOutput renaming mk->aZ
open Go.Ovl.View renaming mk->bA
open Go.Ovl.machine_ticker renaming mk->bB
open Go.Ovl.CarInput renaming mk->bC
open Nat renaming lt_trichotomy->bD
namespace Go.Ovl
open Go Go.Ab
variable{b:Z}{t:V}{i g q k:Nat}{l:List aC}{r:aM}{n d z fl o f:Int}{c:Int×Int}{m:Img}{x:Inp}{v:aG}{s:Sto}
structure BW(b:Bldg):Prop where
 small:b.small
 code:b.code=0
 room:b.J0<=5000
 full:Sat (arF .sub .f64 b.M0 4589168020290535424) λ_=>True
 over:Sat (arF .sub .f64 b.O0 4589168020290535424) λ_=>True
def Ats(b:Z)(c:aU):Prop:=Um b.F0 c=B/\0<=c.H1/\c.H1<4294967296
structure PM(b:Bldg)(m:Mch):Prop where
 jst:Jst b m.S1 m.E0
 con:m.Z0.length=b.A0.length
 conv:∀c∈m.Z0,Ats b c
 bel:m.P0.length=b.A0.length
 belv:∀i,i<b.A0.length->BelOK b i (m.P0.getD i AL)
 car:m.A0.length=b.A0.length
 carv:∀c∈m.A0,GP b c=true
 lod:m.L3.length=b.A0.length
 lodv:∀l∈m.L3,0<=l.B6/\l.B6<=4
 lit:m.F4.length=b.A0.length
 exl:m.Z2.length=m.E0.B0.length
 exv:∀x∈m.Z2,0<=x/\x<=1000000
 tick:0<=m.J4/\m.J4<=1000000
 flt:0<=m.X3/\m.X3<=1000000
 ref:0<=m.F3/\m.F3<=1000000
structure PR(b:Bldg)(t:Pk):Prop where
 leg:t.legacy.length=b.A0.length
 sho:t.shows.length=b.A0.length
 rst:t.reset.length=b.A0.length
 oc:t.out.A0.length=b.A0.length
 cmd:∀i,CmdR (t.out.A0.getD i Af).T1
structure FixR(t t':Pk):Prop where
 im:t'.m.E0=t.m.E0
 st:t'.m.S1=t.m.S1
 bu:t'.budget=t.budget
 e:t'.e=t.e
 out:t'.out={ t.out with A0:=t'.out.A0 }
structure Fix(t t':Pk):Prop extends FixR t t' where
 con:t'.m.Z0=t.m.Z0
def Fix.rfl'(t:V):Fix t t:=⟨⟨rfl,rfl,rfl,rfl,rfl⟩,rfl⟩
def Fix.trans{a c d:V}(h:Fix a c)(k:Fix c d):Fix a d:=⟨⟨k.im.trans h.im,k.st.trans h.st,k.bu.trans h.bu,k.e.trans h.e,by rw[k.out,h.out]⟩,k.con.trans h.con⟩
def Ah3{α:Type}{P:α->Prop}{l:List α}(h:∀x∈l,P x){v:α}(a:P v)(i:Nat):∀x∈l.set i v,P x:=λx hx=>by
 rcases List.mem_or_eq_of_mem_set hx with hx|rfl
 .exact h x hx
 .exact a
section
variable{b:Z}{m:Mch}
def PM.sBel(h:PM b m){v:Belief}(p:BelOK b i v):PM b { m with P0:=m.P0.set i v }:=
 ⟨h.jst,h.con,h.conv,by rw[z_];exact h.bel,λj a=>by
  by_cases e:i=j
  .subst e;rw[Am _ _ (by rw[h.bel];exact a)];exact p
  .rw[As _ _ e];exact h.belv j a,h.car,h.carv,h.lod,h.lodv,h.lit,h.exl,h.exv,h.tick,h.flt,h.ref⟩
def PM.sCar(h:PM b m)(i:Nat){v:NewCar}(a:GP b v=B):PM b { m with A0:=m.A0.set i v }:=⟨h.jst,h.con,h.conv,h.bel,h.belv,by rw[z_];exact h.car,Ah3 h.carv a i,h.lod,h.lodv,h.lit,h.exl,h.exv,h.tick,h.flt,h.ref⟩
def PM.sCon(h:PM b m)(i:Nat){v:aU}(a:Ats b v){w:Loaded}(hw:0<=w.B6/\w.B6<=4):PM b { m with Z0:=m.Z0.set i v,L3:=m.L3.set i w }:=⟨h.jst,by rw[z_];exact h.con,Ah3 h.conv a i,h.bel,h.belv,h.car,h.carv,by rw[z_];exact h.lod,Ah3 h.lodv hw i,h.lit,h.exl,h.exv,h.tick,h.flt,h.ref⟩
def PM.sTick(h:PM b m){k:Int}(e:0<=n/\n<=1000000)(a:0<=k/\k<=1000000):PM b { m with J4:=n,X3:=k }:=⟨h.jst,h.con,h.conv,h.bel,h.belv,h.car,h.carv,h.lod,h.lodv,h.lit,h.exl,h.exv,e,a,h.ref⟩
end
@[reducible] def Bsd(z:aU):=(z.H1,z.T2,z.G2,z.H2,z.U1,z.R5,z.S5,z.T5,z.U5,z.V5,z.W5,z.X5,z.Y5,z.Z5,z.A6,z.N4,z.O4,z.P4,z.R4,z.S4,z.T4,z.U4,z.V4,z.W4,z.X4,z.Y4,z.Z4,z.A5,z.B5,z.C5,z.E5,z.F5,z.G5,z.H5,z.I5,z.J5,z.K5,z.L5,z.M5,z.N5,z.O5,())
def Js(z:aU):Deb:=⟨⟨z.H1,z.T2,z.G2,z.H2,z.U1⟩,YD z⟩
def YI(s:Deb):aU:=Debounced.mk s.c.C0 s.c.Up s.c.C4 s.c.M4 s.c.E4 (s.k.getD 0 0) (s.k.getD 1 0) (s.k.getD 2 0) (s.k.getD 3 0) (s.k.getD 4 0) (s.k.getD 5 0) (s.k.getD 6 0) (s.k.getD 7 0) (s.k.getD 8 0) (s.k.getD 9 0) (s.k.getD 10 0) (s.k.getD 11 0) (s.k.getD 12 0) (s.k.getD 13 0) (s.k.getD 14 0) (s.k.getD 15 0) (s.k.getD 16 0) (s.k.getD 17 0) (s.k.getD 18 0) (s.k.getD 19 0) (s.k.getD 20 0) (s.k.getD 21 0) (s.k.getD 22 0) (s.k.getD 23 0) (s.k.getD 24 0) (s.k.getD 25 0) (s.k.getD 26 0) (s.k.getD 27 0) (s.k.getD 28 0) (s.k.getD 29 0) (s.k.getD 30 0) (s.k.getD 31 0) (s.k.getD 32 0) (s.k.getD 33 0) (s.k.getD 34 0)<|s.k.getD 35 0
def Amr{z:aU}:Um n z=B↔(Js z).is n:=by
 unfold Um Deb.is;rw[b_,b_,r_,r_];refine and_congr_right λ_=>and_congr_right λ_=>⟨λh j e=>?_,λh=>Uh 36 0 λk _ a=>?_⟩
 .have:=Th 36 0 h j (W_ _) ω
  unfold Amp at this;simp only[b_,r_]at this;exact this
 .have:=h k ω
  unfold Amp;simp only[b_,r_];exact this
def VO(hcode:b.code=0){z:aU}(h:Ats b z)(hf:0<=f/\f<4294967296)(u d o c:Bool):R (JL b.F0 z.H1 z.T2 z.G2 z.H2 z.U1 z.R5 z.S5 z.T5 z.U5 z.V5 z.W5 z.X5 z.Y5 z.Z5 z.A6 z.N4 z.O4 z.P4 z.R4 z.S4 z.T4 z.U4 z.V4 z.W4 z.X4 z.Y4 z.Z4 z.A5 z.B5 z.C5 z.E5 z.F5 z.G5 z.H5 z.I5 z.J5 z.K5 z.L5 z.M5 z.N5 z.O5 f u d o c) λy=>∃a,y.2.1=Bsd a/\Ats b a/\a=YI ((Js z).step b.F0 ⟨f,u,d,o,c⟩):=by
 have hi:=Amr.1 h.1;have hd:=Amq hcode;have hw:(Js z).wf:=⟨h.2,rfl,λj p=>(hi.2.2 j p).1,λj p=>by have:=(hi.2.2 j p).2;omega⟩
 have e:=Aaw (n:=b.F0) (s:=Js z) rfl h.2 (r:=⟨f,u,d,o,c⟩) hf;rw[if_pos hi]at e;obtain⟨w,D⟩:=Wh hw hi ⟨f,u,d,o,c⟩;refine⟨_,e,YI _,rfl,⟨Amr.2 ?_,w.c⟩,rfl⟩;generalize(Js z).step b.F0 ⟨f,u,d,o,c⟩=s at w D
 have:Js (YI s)=s:=by unfold Js;rw[show YD (YI s)=s.k from TE w.len];rfl
 rw[this];exact D
def Zl(h:0<=n/\n<=1000000):R (HM n) λy=>0<=y.1.1/\y.1.1<=1000000:=by
 unfold HM;rw[Aa ω ω];refine A ?_;show 0<=(bif decide _ then _ else n+1)/\(bif decide _ then _ else n+1)<=1000000;by_cases g:1000000<n+1
 .rw[a_ g,i_];omega
 .rw[c_ g,j_];omega
section
variable{b:Z}(hw:BW b){x:Inp}{g:Bool}(hx:g=B->InOK b x)
include hw hx
theorem Bkr(hm:PM b t.m)(hr:PR b t):R (t.ap Cp b x g) λy=>∃a,(y=.inl ((),(a.tup b x g,()))\/y=.inr ((),(a.tup b x g,())))/\PM b a.m/\PR b a/\FixR t a:=by
 have h0:=Ah hw.code;unfold aP Cp;refine H (Zl hm.tick) λS h1=>N (λ_=>?_) λhg=>?_
 .exact H (Zl hm.flt) λn2 O=>A ⟨{ t with m:={ t.m with J4:=S.1.1,X3:=n2.1.1 } },.inl rfl,hm.sTick h1 O,⟨hr.leg,hr.sho,hr.rst,hr.oc,hr.cmd⟩,⟨rfl,rfl,rfl,rfl,rfl⟩⟩
 .rw[Bool.not_eq_false']at hg;have p:=hx hg;refine H (Q:=λy=>∃a,y=((),(a.tup b x g,()))/\PM b a.m/\PR b a/\FixR t a) ?_ λy hy=>by obtain⟨a,rfl,h⟩:=hy;exact A ⟨a,.inr rfl,h⟩
  refine aL (λk z=>∃(i:Nat) (a:V),z=(((),x.cars,(x.cars.length:Int),(i:Int),()),(a.tup b x g,()))/\i+k=x.cars.length/\PM b a.m/\PR b a/\FixR t a) (λk z hz=>?_) x.cars.length ⟨0,{ t with m:={ t.m with J4:=S.1.1 } },rfl,n_ _,hm.sTick h1 hm.flt,⟨hr.leg,hr.sho,hr.rst,hr.oc,hr.cmd⟩,⟨rfl,rfl,rfl,rfl,rfl⟩⟩ (by have:=p.len;omega);obtain⟨i,a,rfl,hk,hm,hr,hf⟩:=hz;show R (aP (Ei x.cars (x.cars.length:Int) i) b x g a) _;refine N (λq=>?_) λ_=>A ⟨a,rfl,hm,hr,hf⟩;have q:=k_ q;have hl:=p.len;have hin:i<b.A0.length:=ω;have w:=Cm (n:=i) ω;have P:aA i a.m.Z0.length=B:=U ω (by rw[hm.con];omega);have i3:aA i a.m.L3.length=B:=U ω (by rw[hm.lod];omega);have E:=p.flo _<|Av (bC 0 C C C C 0 C 0 C 0 0) (ω:i<x.cars.length);have L:=hm.conv _<|Av An (by rw[hm.con];exact hin);refine I (U ω q)<|I P (H (VO hw.code L E _ _ _ _) λy1 h1=>?_);obtain⟨⟨ya,yb,yc⟩,yd,ye⟩:=y1;obtain⟨z',X,D,_⟩:=h1;change yd=_ at X;subst X;refine I P<|I i3 (H (Abl hw.full hw.over _ _) λy2 O=>I i3 ?_);refine A ⟨k-1,ω,i+1,{ a with m:={ a.m with Z0:=a.m.Z0.set i z',L3:=a.m.L3.set i _ } },by first|(rw[<-w];rfl)|rw[<-w],ω,hm.sCon i D O,⟨hr.leg,hr.sho,hr.rst,hr.oc,hr.cmd⟩,⟨hf.im,hf.st,hf.bu,hf.e,hf.out⟩⟩
end
def Bkp(a:Int):Int:=aB.wrap<|1*2^min (aF a) (IntKind.bits .u32)
def Aog(a dir:Int):Int×Int:=bif inR 0 31 a then(bif dir==1 then(Bkp a,0)else bif dir==2 then(0,Bkp a)else(0,0))else(0,0)
def YA(a dir:Int):DX a dir=W (((),()),(((Aog a dir).1,(Aog a dir).2,()),())):=by
 unfold DX Aog inR;by_cases g:0<=a
 .by_cases e:a<32
  .rw[a_ g,a_ e,a_ ω];simp only[i_,d_,a_ g];cases dir==1<;>cases dir==2<;>rfl
  .rw[a_ g,c_ e,c_ ω];rfl
 .rw[c_ g];rfl
def orV(a c:Int):Int:=aB.wrap<|stk a c<|aV (aO (IntKind.bits .u32) a|||BitVec.ofInt (IntKind.bits .u32) c)
def Apg(a c:Int×Int):Int×Int:=(orV a.1 c.1,orV a.2 c.2)
def Agr(a c:Int×Int):CM a.1 a.2 c.1 c.2=W (((),()),(((Apg a c).1,(Apg a c).2,()),())):=rfl
def Avo(vs:List aK)(car:Int)(e:aT):Bool:=e.X0==car||(e.X0==-2&&(AC vs car).B4)
def TS(vs:List aK)(car:Int)(e:aT)(c:Int×Int):Int×Int:=bif Avo vs car e then Apg c (Aog e.D0 e.H0)else c
def ZH(vs:List aK)(car:Int):List aT->Int×Int->Int×Int
 |[],c=>c
 |e::t,c=>ZH vs car t<|TS vs car e c
def ZI(b:Z)(m:Img)(vs:List aK)(car:Int):Int×Int:=bif m.ok b&&((vs.length:Int)==(b.A0.length:Int)&&(aR (0<=car)&&decide (car<(b.A0.length:Int))))then ZH vs car m.B0 (0,0)else(0,0)
section
variable{vs:List aK}{car:Int}(hc:0<=car/\car<vs.length){m:Img}(hm:m.B0.length<=1000)
include hc hm
theorem RR:∀(k i:Nat) (c:Int×Int),i+k=m.B0.length->
  BM (λx=>letI a:=x.1.2.2.2.2;GA x.1.1 x.1.2.1 a.1 a.2.1 a.2.2.1 x.2.1.1 x.2.1.2.1 x.2.2.1.1 x.2.2.1.2.1) (k+1) ((vs,car,(),(),m.B0,(m.B0.length:Int),(i:Int),()),(((0:Int),(0:Int),()),(c.1,c.2,()),()))=W (((),(),()),(((0:Int),(0:Int),()),((ZH vs car (m.B0.drop i) c).1,(ZH vs car (m.B0.drop i) c).2,()),()))
 |0,i,c,hi=>by refine AU ?_;show GA vs car m.B0 (m.B0.length:Int) (i:Int) 0 0 c.1 c.2=_;unfold GA;rw[show decide ((i:Int)<(m.B0.length:Int))=C by simp;omega,show i=m.B0.length by omega,d6_];rfl
 |k+1,i,c,hi=>by
  have e:i<m.B0.length:=ω;have w:aH.wrap (i+1)=((i+1:Nat):Int):=by rw[Aa ω ω];omega
  rw[CV noE e];refine(BH (x':=((vs,car,(),(),m.B0,(m.B0.length:Int),((i+1:Nat):Int),()),((0,0,()),((TS vs car _ c).1,(TS vs car _ c).2,()),()))) ?_).trans<|RR k (i+1) _ ω;show GA vs car m.B0 (m.B0.length:Int) (i:Int) 0 0 c.1 c.2=_;unfold GA;rw[show decide _=B by simp;omega,U ω (ω:(i:Int)<(m.B0.length:Int)),show Entry.mk 0 0 0 0 C=noE from rfl];unfold TS Avo AC;have p:=Agr c<|Aog (m.B0.getD i noE).D0 (m.B0.getD i noE).H0;simp only[i_,l_];cases(m.B0.getD i noE).X0==car with
  |true=>simp only[i_,d_,Bool.true_or,YA,p,w]
  |false=>
   cases(m.B0.getD i noE).X0==-2 with
   |true=>
    simp only[i_,j_,U hc.1 hc.2,d_,Bool.false_or,b1_];cases(vs.getD car.toNat _).B4 with
    |true=>simp only[i_,YA,d_,p,w]
    |false=>simp only[j_,w]
   |false=>simp only[j_,d_,e6_,Bool.or_self,w]
end
section
variable{b:Z}(hb:b.small)(vs:List aK)(m:Img)(hm:m.B0.length<=1000)(hp:m.G0.length<=maxLen)(car:Int)
include hb hm hp
theorem Adx:Mp b.C0 b.F0 b.J0 b.L0 b.I0 b.M0 b.O0 b.A0 m.G0 m.R0 m.K0 m.B0 vs car=W (((),()),(((ZI b m vs car).1,(ZI b m vs car).2,()),())):=by
 have y:1000<=maxLen:=by decide
 unfold Mp ZI;rw[Dw hb m hp ω];simp only[ bne];cases D:m.ok b with
 |false=>rfl
 |true=>
  cases hq:vs.length==(b.A0.length:Int)with
  |false=>rfl
  |true=>
   have w:vs.length=(b.A0.length:Int):=by simpa using hq
   by_cases g:0<=car
   .rw[a_ g,c_ ω];by_cases p:car<b.A0.length
    .rw[a_ p,c_ ω];have e:=AA (RR (vs:=vs) ⟨g,ω⟩ hm m.B0.length 0 (0,0) ω) ω;have a:NS ((vs,car,(),(),m.B0,m.B0.length,0,()),((0,0,()),(0,0,()),()))=_:=e;simp only[a8_,j_,a,d_,d8_,f4_,i_]
    .rw[c_ p,a_ ω];rfl
   .rw[c_ g,a_ ω];rfl
end
def AI(p:Int):Bool:=p==0||p==1
def Dg(p:Int):Bool:=p==3||p==4
def Qq(p:Int):FK p=W ((AI p,()),()):=by unfold FK AI;cases p==0<;>rfl
def YJ(p:Int):Fl p=W ((Dg p,()),()):=by unfold Fl Dg;cases p==3<;>rfl
def Afy(vs:List aK)(car:Int):∀(l:List aT) {c:Int×Int},Jw c->Jw (ZH vs car l c)
 |[],_,h=>h
 |e::t,c,h=>by
  refine Afy vs car t ?_;unfold TS;cases Avo vs car e with
  |true=>exact⟨FB _,FB _⟩
  |false=>exact h
def Avp(b:Z)(m:Img)(vs:List aK)(car:Int):Jw<|ZI b m vs car:=by
 unfold ZI;cases m.ok b&&(vs.length==(b.A0.length:Int)&&(aR (0<=car)&&decide (car<b.A0.length)))with
 |true=>exact Afy vs car _ Qs
 |false=>exact Qs
def Pk.sBel(t:V)(i:Nat)(v:Belief):V:={ t with m:={ t.m with P0:=t.m.P0.set i v } }
def Pk.sCar(t:V)(i:Nat)(v:NewCar):V:={ t with m:={ t.m with A0:=t.m.A0.set i v } }
def Pk.sOut(t:V)(i:Nat)(v:aG):V:={ t with out:={ t.out with A0:=t.out.A0.set i v } }
def Pk.sLeg(t:V)(i:Nat):V:={ t with legacy:=t.legacy.set i B }
def Pk.sSho(t:V)(i:Nat)(c:Calls):V:={ t with shows:=t.shows.set i c }
section
variable{b:Z}{t:V}
def PR.sBel(h:PR b t)(i:Nat)(v:Belief):PR b<|t.sBel i v:=⟨h.leg,h.sho,h.rst,h.oc,h.cmd⟩
def PR.sCar(h:PR b t)(i:Nat)(v:NewCar):PR b<|t.sCar i v:=⟨h.leg,h.sho,h.rst,h.oc,h.cmd⟩
def Agv{l:List aG}(h:∀i,CmdR (l.getD i Af).T1)(a:CmdR v.T1)(i:Nat):∀j,CmdR ((l.set i v).getD j Af).T1:=λj=>by
 by_cases e:i=j
 .subst e;by_cases q:i<l.length
  .rw[Am _ _ q];exact a
  .rw[List.set_eq_of_length_le ω];exact h i
 .rw[As _ _ e];exact h j
def PR.sOut(h:PR b t)(i:Nat)(a:CmdR v.T1):PR b<|t.sOut i v:=⟨h.leg,h.sho,h.rst,(by show(t.out.A0.set i v).length=_;rw[z_];exact h.oc),Agv h.cmd a i⟩
def PR.sLeg(h:PR b t)(i:Nat):PR b<|t.sLeg i:=⟨by show(t.legacy.set i B).length=_;rw[z_];exact h.leg,h.sho,h.rst,h.oc,h.cmd⟩
def PR.sSho(h:PR b t)(i:Nat)(c:Calls):PR b<|t.sSho i c:=⟨h.leg,by show(t.shows.set i c).length=_;rw[z_];exact h.sho,h.rst,h.oc,h.cmd⟩
end
def DC(t:V)(i:Nat):Prop:=(t.m.P0.getD i AL).Y0=2->(t.m.Z0.getD i An).U1=B
section
variable{b:Z}(hw:BW b){x:Inp}{g:Bool}(hx:g=B->InOK b x)
include hw
theorem Ayy(hm:ImgOK b m):R (MN m.G0 m.R0 m.K0 m.B0) λy=>True:=by
 have p:=Ah hw.code;have hp:=hm.lp;refine I (by simp only[b_,r_];omega) (H (Q:=λ_=>True) ?_ λ_ _=>A trivial);have h0:(aS (aF m.G0.length)<|bA C C C C 0 0 0 0 0 0 0 0).length=b.A0.length:=by rw[P_];omega
 generalize aS _ _=L at h0;refine aL (λk z=>∃(i:Nat) (l:List aK),z=(((),l,(L.length:Int),(i:Int),()),((m.G0,m.R0,m.K0,m.B0,()),()))/\l.length=b.A0.length/\i+k=L.length) (λk z e=>?_) L.length ⟨0,L,rfl,h0,n_ _⟩ ω;obtain⟨i,l,rfl,a,D⟩:=e;show R (PA l L.length i m.G0 m.R0 m.K0 m.B0) _;refine N (λq=>?_) λ_=>A trivial;have q:=k_ q;have w:=Cm (n:=i) ω;refine J (Alv hm ω)<|I (U ω ω) ?_;exact A ⟨k-1,ω,i+1,_,by first|(rfl)|rw[<-w],by rw[z_];exact a,ω⟩
theorem YV(hm:ImgOK b m)(car:Int):R (JQ b.C0 b.F0 b.J0 b.L0 b.I0 b.M0 b.O0 b.A0 m.G0 m.R0 m.K0 m.B0 car) λy=>Jw (y.2.1.1,y.2.1.2.1):=by
 have p:=Ah hw.code;have w:=CW hw.small hm;have hp:=hm.lp;have e:1000<=maxLen:=by decide
 exact H (Ayy hw hm) λa _=>J (Adx hw.small a.1.1 m ω ω car)<|A<|Avp b m a.1.1 car
theorem Ayf(hm:PM b t.m)(hr:PR b t)(hi:i<b.A0.length):R (t.ap (CI (i:Int)) b x g) λy=>∃a,(y=.inl ((),(a.tup b x g,()))\/y=.inr ((),(a.tup b x g,())))/\PM b a.m/\PR b a/\Fix t a/\(∀j,j≠i->a.m.P0.getD j AL=t.m.P0.getD j AL)/\(g=B->DC a i):=by
 have i1:aA i t.legacy.length=B:=U ω (by rw[hr.leg];omega);have p:aA i t.m.P0.length=B:=U ω (by rw[hm.bel];omega);have i3:aA i t.m.Z0.length=B:=U ω (by rw[hm.con];omega);have i4:aA i t.shows.length=B:=U ω (by rw[hr.sho];omega);have hb:=hm.belv i hi;have E:i<t.m.P0.length:=by rw[hm.bel];exact hi
 refine I i1 (N (λS=>I p ?_) λ_=>I i3 ?_)
 .refine H (Agl hw.small hw.code hi hb) λy1 h1=>I p ?_;obtain⟨X,D,yc⟩:=y1;obtain⟨v,e,Q⟩:=h1;change D=_ at e;subst e;exact A ⟨(t.sBel i v).sLeg i,.inl rfl,hm.sBel Q,(hr.sBel i v).sLeg i,⟨⟨rfl,rfl,rfl,rfl,rfl⟩,rfl⟩,λj P=>As _ _<|a7_ P,λh=>by rw[h]at S;cases S⟩
 .have O:=hm.conv _<|Av An (by rw[hm.con];exact hi);refine H (Rn b.C0 O.2 _ _ _ _) λy2 w=>H (JI ..) λy3 _=>I i4<|I p ?_;refine H (Tm hw.small hw.code hi hb _ _ _) λy4 h4=>I p ?_;obtain⟨X,D,yc⟩:=y4;obtain⟨v,e,Q,L⟩:=h4;change D=_ at e;subst e;refine A ⟨((t.sBel i v).sLeg i).sSho i _,.inr rfl,hm.sBel Q,((hr.sBel i v).sLeg i).sSho i _,⟨⟨rfl,rfl,rfl,rfl,rfl⟩,rfl⟩,λj P=>As _ _<|a7_ P,λ_ h=>w<|L ?_⟩;have e:(t.m.P0.set i v).getD i AL=v:=Am _ _ E;rw[<-e];exact h
include hx
theorem Bfb(hm:PM b t.m)(hr:PR b t)(hi:i<b.A0.length)(p:Int):R (t.ap (Dh (i:Int) p) b x g) λy=>∃w,(y=.inl ((),(w.tup b x g,()))\/y=.inr ((),(w.tup b x g,())))/\PM b w.m/\PR b w/\Fix t w/\w.m.P0=t.m.P0:=by
 have D:aA i t.m.A0.length=B:=U ω (by rw[hm.car];omega);have P:aA i t.out.A0.length=B:=U ω (by rw[hr.oc];omega);refine N (λ_=>I D ?_) λO=>?_
 .refine H (Aho hw.small hw.code _ _) λy1 h1=>I D<|I P ?_;obtain⟨S,E,yc⟩:=y1;obtain⟨⟨v,e,L⟩,a⟩:=h1;change E=_ at e;subst e;exact A ⟨(t.sCar i v).sOut i _,.inl rfl,hm.sCar i L,(hr.sCar i v).sOut i a,⟨⟨rfl,rfl,rfl,rfl,rfl⟩,rfl⟩,rfl⟩
 .rw[Bool.not_eq_false']at O;have hl:=(hx O).len;have X:aA i x.cars.length=B:=U ω ω;refine H (Q:=λy=>∃h0 h1:Int,y=(((),(i:Int),(),()),((h0,h1,()),t.tup b x g,()))) (N (λ_=>H (YV hw hm.jst.img _) λy2 _=>A ⟨_,_,rfl⟩) λ_=>A ⟨_,_,rfl⟩) λy hy=>?_;obtain⟨h0,h1,rfl⟩:=hy;refine I X<|I D (H (XV hw.small hw.code _ _ _ _ _ _ _ _ _) λy4 h4=>I D<|I P ?_);obtain⟨S,E,yc⟩:=y4;obtain⟨⟨v,e,L⟩,a⟩:=h4;change E=_ at e;subst e;exact A ⟨(t.sCar i v).sOut i _,.inr rfl,hm.sCar i L,(hr.sCar i v).sOut i a,⟨⟨rfl,rfl,rfl,rfl,rfl⟩,rfl⟩,rfl⟩
def Uv(b:Z)(r:aC):Prop:=∃i:Nat,i<b.A0.length/\r=⟨5,0,0,(i:Int),1⟩
theorem Awz(hm:PM b t.m)(hr:PR b t):R (CT (((),([]:List aC),t.m.E0.G0,(t.m.E0.G0.length:Int),(0:Int),()),(t.tup b x g,()))) λy=>∃(a:V) (l:List aC),y=(((),l,()),(a.tup b x g,()))/\PM b a.m/\PR b a/\Fix t a/\l.length<=8/\(∀r∈l,Uv b r)/\(g=B->∀j,j<b.A0.length->AI (aE t.m.E0 j)=B->DC a j):=by
 have hn:=Ah hw.code;have hp:=hm.jst.img.lp;refine aL (λk z=>∃(i:Nat) (a:V) (l:List aC),z=(((),l,t.m.E0.G0,(t.m.E0.G0.length:Int),(i:Int),()),(a.tup b x g,()))/\i+k=b.A0.length/\PM b a.m/\PR b a/\Fix t a/\l.length<=i/\(∀r∈l,Uv b r)/\(g=B->∀j,j<i->AI (aE t.m.E0 j)=B->DC a j)) (λk z hz=>?_) b.A0.length ⟨0,t,[],rfl,n_ _,hm,hr,.rfl' t,t_ 0,(λr h=>by cases h),λ_ j hj=>absurd hj<|Y_ j⟩ ω;obtain⟨i,a,l,rfl,hk,L,O,hf,hl,hv,S⟩:=hz;show R (aP (Eh l t.m.E0.G0 t.m.E0.G0.length i) b x g a) _;refine N (λq=>?_) λq=>A ⟨a,l,rfl,L,O,hf,ω,hv,λhg j hj=>S hg j (by have:=o_ q;omega)⟩;have q:=k_ q;have hi:i<b.A0.length:=ω;have w:=Cm (n:=i) ω;refine I (U ω q) ?_;refine H (Q:=λy=>∃(u:V) (c:Bool),y=(((),l,(i:Int),c,t.m.E0.G0,(t.m.E0.G0.length:Int),(i:Int),()),(u.tup b x g,()))/\PM b u.m/\PR b u/\Fix t u/\(g=B->∀j,j<i+1->AI (aE t.m.E0 j)=B->DC u j)) ?_ λy9 h9=>?_
 .have nw:∀{u:V},AI (aE t.m.E0 i)=C->u.m.P0=a.m.P0->Fix a u->g=B->∀j,j<i+1->AI _=B->DC u j:=λ{u} h e f hg j hj E=>by
   have he:j≠i:=λe=>by rw[e,h]at E;cases E
   unfold DC;rw[e,f.con];exact S hg j ω E
  refine J (Qq _) (N (λ_=>?_) λh0=>J (YJ _) (N (λ_=>?_) λ_=>A ⟨a,C,rfl,L,O,hf,nw h0 rfl<|.rfl' a⟩))
  .refine H (Q:=λy=>∃u:V,y=(((),l,(i:Int),t.m.E0.G0,(t.m.E0.G0.length:Int),(i:Int),()),(u.tup b x g,()))/\PM b u.m/\PR b u/\Fix t u/\(g=B->∀j,j<i+1->AI (aE t.m.E0 j)=B->DC u j)) ?_ λy4 P=>?_
   .refine H (Ayf hw L O hi) λy2 p=>?_;obtain⟨u,e,h1,p,D,P,h5⟩:=p;have hd:g=B->∀j,j<i+1->AI _=B->DC u j:=λhg j hj E=>by
     by_cases e:j=i
     .rw[e];exact h5 hg
     .unfold DC;rw[P j e,D.con];exact S hg j ω E
    rcases e with e|e
    .subst e;exact A ⟨u,rfl,h1,p,hf.trans D,hd⟩
    .subst e;exact A ⟨u,rfl,h1,p,hf.trans D,hd⟩
   .obtain⟨u,rfl,h1,p,D⟩:=P;exact I (U (ω:_<=(i:Int)) (by show i<(u.m.P0.length:Int);rw[h1.bel];omega))<|A ⟨u,_,rfl,h1,p,D⟩
  .refine H (Q:=λy=>∃u:V,y=(((),l,(i:Int),t.m.E0.G0,(t.m.E0.G0.length:Int),(i:Int),()),(u.tup b x g,()))/\PM b u.m/\PR b u/\Fix t u/\(g=B->∀j,j<i+1->AI (aE t.m.E0 j)=B->DC u j)) ?_ λy4 P=>?_
   .refine H (Bfb hw hx L O hi _) λy2 p=>?_;obtain⟨u,e|e,h1,p,D,P⟩:=p
    .subst e;exact A ⟨u,rfl,h1,p,hf.trans D,nw h0 P D⟩
    .subst e;exact A ⟨u,rfl,h1,p,hf.trans D,nw h0 P D⟩
   .obtain⟨u,rfl,h1,p,D⟩:=P;exact I (U (ω:_<=(i:Int)) (by show(i:Int)<(u.m.A0.length:Int);rw[h1.car];omega))<|A ⟨u,_,rfl,h1,p,D⟩
 .obtain⟨u,c,rfl,X,h6,h8,h7⟩:=h9;refine H (Q:=λy=>∃c:Bool,y=(((),l,(i:Int),t.m.E0.G0,(t.m.E0.G0.length:Int),(i:Int),c,()),(u.tup b x g,()))) (N (λ_=>I (U (ω:_<=(i:Int)) (by show(i:Int)<(u.m.E0.R0.length:Int);rw[X.jst.img.lf];omega))<|A ⟨_,rfl⟩) λ_=>A ⟨_,rfl⟩) λhh ha=>?_;obtain⟨c',rfl⟩:=ha;refine N (λ_=>I (AR (ω:l.length+1<=_)) ?_) λ_=>A ⟨k-1,ω,i+1,u,l,by first|(rfl)|rw[<-w],ω,X,h6,h8,ω,hv,h7⟩;refine A ⟨k-1,ω,i+1,u,l++[Record.mk 5 0 0 _ 1],by first|(rfl)|rw[<-w],ω,X,h6,h8,by rw[f_];show l.length+1<=_;omega,(λr h=>?_),h7⟩;rcases m_.1 h with h|h
  .exact hv r h
  .exact⟨i,hi,y_.1 h⟩
end
def K3(l:List aC):Prop:=∀r∈l,r.C1=4\/r.C1=5\/r.C1=6
def Asz{r:aC}(h:r.C1=4\/r.C1=5\/r.C1=6):(Aw m r).B0=m.B0:=by unfold Aw;rcases h with h|h|h<;>rw[h]<;>rfl
def Vf:∀{l:List aC}(m:Img),K3 l->(Ar m l).B0=m.B0
 |[],_,_=>rfl
 |r::l,m,h=>(Vf _ λx hx=>h x<|F_ _ hx).trans<|Asz<|h r<|C_ ..
def K3.good(h:K3 l)(m:Img)(a:∀r∈l,AB b r=B):goodL b m l:=Xf m λr hr=>⟨a r hr,by have:=h r hr;omega⟩
structure Al(b:Bldg)(t t':Pk)(l:List Record):Prop where
 e:t'.e=0
 m:PM b t'.m
 r:PR b t'
 im:t'.m.E0=Ar t.m.E0 l
 b0:0<=t'.budget
 b1:t'.budget<=t.budget
 b2:t.budget-600*(l.length:Int)<=t'.budget
 con:t'.m.Z0=t.m.Z0
structure De(b:Bldg)(t t':Pk)(l:List Record):Prop where
 e:t'.e=8
 lo:t.budget<600*(l.length:Int)
 ok:t'.m.S1.ok b.J0
 rp:∃k,k<l.length/\EJ b t'.m.S1=Ar t.m.E0 (l.take k)
def PM.wr{m:Mch}(h:PM b m){a:Img}(p:Jst b s a)(e:a.B0=m.E0.B0):PM b { m with E0:=a,S1:=s }:=⟨p,h.con,h.conv,h.bel,h.belv,h.car,h.carv,h.lod,h.lodv,h.lit,by rw[e];exact h.exl,h.exv,h.tick,h.flt,h.ref⟩
def Wr.fin(hw:BW b){a:V}(h:Wr b t l a)(hm:PM b t.m)(hr:PR b t)(D:K3 l):(Al b t a l\/De b t a l)/\a.out=t.out:=by
 obtain⟨L,s,y,e,rfl,h⟩:=h;refine⟨?_,rfl⟩;rcases h with⟨rfl,rfl,h1,w,p,E,_⟩|⟨rfl,h1,w,p⟩
 .exact .inl ⟨rfl,hm.wr h1<|Vf _ D,⟨hr.leg,hr.sho,hr.rst,hr.oc,hr.cmd⟩,rfl,p,E,(by show t.budget-_<=y;omega),rfl⟩
 .exact .inr ⟨rfl,ω,w,p⟩
def Bud(t:V):Prop:=t.e=0/\0<=t.budget/\t.budget<9223372036854775808
def Al.bud{a:V}(h:Al b t a l)(hb:Bud t):Bud a:=⟨h.e,h.b0,by have:=h.b1;have:=hb.2.2;omega⟩
def Al.app{u v:V}{k:List aC}(h:Al b t u l)(a:Al b u v k):Al b t v<|l++k:=⟨a.e,a.m,a.r,by rw[Fi,<-h.im];exact a.im,a.b0,by have:=a.b1;have:=h.b1;omega,(by have:=a.b2;have:=h.b2;rw[f_];omega),a.con.trans h.con⟩
def De.mono{u:V}(h:De b t u l)(k:List aC):De b t u<|l++k:=by obtain⟨i,h1,a⟩:=h.rp;exact⟨h.e,by have:=h.lo;rw[f_];omega,h.ok,i,by rw[f_];omega,by rw[List.take_append_of_le_length ω];exact a⟩
def Al.de{u v:V}{k:List aC}(h:Al b t u l)(a:De b u v k):De b t v<|l++k:=by obtain⟨i,w,p⟩:=a.rp;refine⟨a.e,by have:=a.lo;have:=h.b2;rw[f_];omega,a.ok,l.length+i,by rw[f_];omega,?_⟩;rw[p,h.im,List.take_append,a3_ (ω:l.length<=l.length+i),b0_,Fi]
def Bfj(hcode:b.code=0)(h:∀r∈l,Uv b r):K3 l/\∀r∈l,AB b r=B:=⟨λr hr=>by obtain⟨i,_,rfl⟩:=h r hr;exact .inr<|.inl rfl,λr hr=>by obtain⟨i,hi,rfl⟩:=h r hr;exact Aj5 hcode ⟨ω,ω⟩<|.inr ⟨.inl rfl,τ⟩⟩
def Ul(t:V)(x:Inp)(i:Nat):Prop:=(AI (aE t.m.E0 i)=B/\(t.m.P0.getD i AL).Y0=2)\/(Dg (aE t.m.E0 i)=B/\(x.cars.getD i CY).J2=B/\(x.cars.getD i CY).Z1=2)
section
variable{b:Z}(hw:BW b){x:Inp}{g:Bool}(hx:g=B->InOK b x)
include hw hx
theorem Bjb(hm:PM b t.m)(hr:PR b t)(hb:Bud t):R (t.ap Du b x g) λy=>∃(a:V) (l:List aC),y=((),(a.tup b x g,()))/\(∀r∈l,Uv b r)/\l.length<=8/\(Al b t a l\/De b t a l)/\a.out={ t.out with A0:=a.out.A0 }/\(g=B->∀j,j<b.A0.length->AI (aE t.m.E0 j)=B->DC a j):=by
 refine H (Awz hw hx hm hr) λy1 h1=>?_;obtain⟨u,l,rfl,w,L,hf,hl,P,D⟩:=h1;obtain⟨O,S⟩:=Bfj hw.code P;have p:Bud u:=⟨hf.e.trans hb.1,by rw[hf.bu];exact hb.2⟩
 refine H (Q:=λy=>∃a,y=((),(a.tup b x g,()))/\Wr b u l a) ?_ λy X=>?_
 .refine H (Oo hw.small w.jst p.2 p.1 (O.good _ S) (ω:l.length<=100000)) λy2 E=>?_;obtain⟨a,e|e,h⟩:=E
  .subst e;exact A ⟨a,rfl,h⟩
  .subst e;exact A ⟨a,rfl,h⟩
 obtain⟨a,rfl,h⟩:=X;obtain⟨h1,E⟩:=h.fin hw w L O;refine A ⟨a,l,rfl,P,hl,?_,by rw[E,hf.out],?_⟩
 rotate_left
 .obtain⟨_,_,_,_,rfl,_⟩:=h;exact D
 rcases h1 with h1|h1
 .exact .inl ⟨h1.e,h1.m,h1.r,by rw[h1.im,hf.im],h1.b0,by rw[<-hf.bu];exact h1.b1,by rw[<-hf.bu];exact h1.b2,h1.con.trans hf.con⟩
 .exact .inr ⟨h1.e,by rw[<-hf.bu];exact h1.lo,h1.ok,by rw[<-hf.im];exact h1.rp⟩
omit hx in
theorem Ami(hm:PM b t.m)(h0:x.cars.length=b.A0.length):R (Co<|t.ap bB b x g) λy=>∃c:List Bool,y=((c,()),())/\c.length=b.A0.length/\∀j,j<b.A0.length->c.getD j C=B->Ul t x j:=by
 have h1:=Ah hw.code;have hp:=hm.jst.img.lp;refine I (by show((aR _&&decide _)&&decide ((b.A0.length:Int)<=2147483648))=B;simp only[b_,r_];omega) (H (Q:=λy=>∃c:List Bool,y=((c,()),())/\c.length=b.A0.length/\∀j,j<b.A0.length->c.getD j C=B->Ul t x j) ?_ λy h=>by obtain⟨c,rfl,h⟩:=h;exact A ⟨c,rfl,h⟩);generalize D:t.ap bB b x g=T;have eb:T.m_Beliefs=t.m.P0:=by rw[<-D];rfl
 have ec:T.m_Cars=t.m.A0:=by rw[<-D];rfl
 have ex:T.x_Cars=x.cars:=by rw[<-D];rfl
 have ep:T.m_Image_Phases=t.m.E0.G0:=by rw[<-D];rfl
 have e1:T.b_Floors=b.C0:=by rw[<-D];rfl
 have e2:T.b_Debounce=b.F0:=by rw[<-D];rfl
 have e3:T.b_Room=b.J0:=by rw[<-D];rfl
 have e4:T.b_Park=b.L0:=by rw[<-D];rfl
 have e5:T.b_Empty=b.I0:=by rw[<-D];rfl
 have e6:T.b_Full=b.M0:=by rw[<-D];rfl
 have e7:T.b_Over=b.O0:=by rw[<-D];rfl
 have e8:T.b_Cars=b.A0:=by rw[<-D];rfl
 refine aL (λk z=>∃(i:Nat) (c:List Bool),z=((T,c,T.m_Image_Phases,(T.m_Image_Phases.length:Int),(i:Int),()),())/\i+k=b.A0.length/\c.length=b.A0.length/\∀j,j<i->c.getD j C=B->Ul t x j) (λk z hz=>?_) b.A0.length ⟨0,_,rfl,n_ _,by rw[P_,e8];omega,λj S=>absurd S<|Y_ j⟩ ω;obtain⟨i,c,rfl,hk,hc,L⟩:=hz;show R (FP T c T.m_Image_Phases T.m_Image_Phases.length i) _;unfold FP;rw[eb,ec,ex,ep,e1,e2,e3,e4,e5,e6,e7,e8];refine N (λq=>?_) λq=>A ⟨c,rfl,hc,λj S=>L j (by have:=o_ q;omega)⟩;have q:=k_ q;have hi:i<b.A0.length:=ω;have w:=Cm (n:=i) ω;have i2:aA i t.m.P0.length=B:=U ω (by rw[hm.bel];omega);have i3:aA i t.m.A0.length=B:=U ω (by rw[hm.car];omega);have i4:aA i c.length=B:=U ω ω;have i5:aA i x.cars.length=B:=U ω ω;refine I (U ω q) ?_;have done:∀v:Bool,(v=B->Ul t x i)->(c.set i v).length=b.A0.length/\∀j,j<i+1->(c.set i v).getD j C=B->Ul t x j:=λv X=>⟨by rw[z_];exact hc,λj S h=>by
  by_cases e:i=j
  .subst e;rw[Am _ _ ω]at h;exact X h
  .rw[As _ _ e]at h;exact L j ω h⟩
 have no:∀{p:Prop},C=B->p:=λq=>by cases q
 refine H (Q:=λy=>∃v:Bool,y=((T,c.set i v,t.m.E0.G0,(t.m.E0.G0.length:Int),(i:Int),()),())/\(v=B->Ul t x i)) ?_ λy hy=>?_
 .have E:R ((Fl _).bind λy3=>bif y3.1.1 then(bif aA _ t.m.A0.length then(let a:=t.m.A0.getD (aF (i:Int)) Aj
   bif aA _ x.cars.length then(let O:=x.cars.getD _ CY
   (Mw b.C0 b.F0 b.J0 b.L0 b.I0 b.M0 b.O0 b.A0 a.X1 a.L1 a.U0 a.I1 a.J1 a.N1 a.G1 a.N0 a.W0 a.S0 a.N2 a.D3 a.O3 a.K2 O.D2 O.J2 O.Z1 O.A3).bind λy4=>bif aA _ c.length then W ((T,c.set _ y4.1.1,t.m.E0.G0,(t.m.E0.G0.length:Int),(i:Int),()),())else none)else none)else none)else(bif aA _ c.length then W _ else none)) λy=>∃v:Bool,y=((T,c.set i v,t.m.E0.G0,(t.m.E0.G0.length:Int),(i:Int),()),())/\(v=B->Ul t x i):=
   J (YJ _) (N (λhd=>I i3<|I i5 (H (Ahq hw.small hw.code _ _ _ _ _) λy4 h4=>I i4<|A ⟨y4.1.1,rfl,λh=>.inr ⟨hd,h4 h⟩⟩)) λ_=>I i4<|A ⟨C,rfl,no⟩)
  refine J (Qq _) (N (λP=>I i2 ?_) λ_=>E);refine H (Agm hw.small hw.code hi<|hm.belv i hi) λy2 h2=>N (λq=>I i4<|A ⟨B,rfl,λ_=>.inl ⟨P,h2 q⟩⟩) λ_=>E
 obtain⟨v,rfl,X⟩:=hy;obtain⟨d1,d2⟩:=done v X;exact A ⟨k-1,ω,i+1,c.set i v,by first|(rfl)|rw[<-w],ω,d1,d2⟩
end
def Pk.stat(t:V)(n:Int):V:={ t with out:={ t.out with D6:=n } }
def Pk.sRst(t:V)(i:Nat):V:={ t with reset:=t.reset.set i B }
def PR.sRst(h:PR b t)(i:Nat):PR b<|t.sRst i:=⟨h.leg,h.sho,by show(t.reset.set i B).length=_;rw[z_];exact h.rst,h.oc,h.cmd⟩
def Ip(m:Img)(a:Int)(i:Nat)(e p:Bool):List aC×Int:=bif a==0 then([],(0:Int))else Ni m i e p a
def NH(b:Z)(r:aC):Prop:=∃(i:Nat) (k v:Int),i<b.A0.length/\r=⟨k,0,0,i,v⟩/\((k=4/\0<=v/\v<=4)\/((k=5\/k=6)/\0<=v/\v<=1))
def ZZ(hcode:b.code=0)(h:∀r∈l,NH b r):K3 l/\∀r∈l,AB b r=B:=by
 refine⟨λr hr=>?_,λr hr=>?_⟩<;>obtain⟨i,k,v,hi,rfl,h⟩:=h r hr
 .show k=4\/k=5\/k=6;omega
 .exact Aj5 hcode ⟨ω,ω⟩ h
def Bb7(hi:i<b.A0.length){k v:Int}(h:(k=4/\0<=v/\v<=4)\/((k=5\/k=6)/\0<=v/\v<=1)):∀r∈[(⟨k,0,0,i,v⟩:aC)],NH b r:=λr hr=>⟨i,k,v,hi,y_.1 hr,h⟩
def Zq(m:Img)(a:Int)(hi:i<b.A0.length)(p w:Bool):(∀r∈(Ip m a i p w).1,NH b r)/\(Ip m a i p w).1.length<=1:=by
 have no:∀e:Int,(∀r∈(([]:List aC),e).1,NH b r)/\(([]:List aC),e).1.length<=1:=λe=>⟨λr h=>(by cases h),W_ _⟩
 have one:∀{k v:Int},((k=4/\0<=v/\v<=4)\/((k=5\/k=6)/\0<=v/\v<=1))->(∀r∈([(⟨k,0,0,i,v⟩:aC)],0).1,NH b r)/\([(⟨k,0,0,i,v⟩:aC)],0).1.length<=1:=λh=>⟨Bb7 hi h,t_ 1⟩
 have ite:∀(c:Bool) {x y:List aC×Int},((∀r∈x.1,NH b r)/\x.1.length<=1)->((∀r∈y.1,NH b r)/\y.1.length<=1)->(∀r∈(bif c then x else y).1,NH b r)/\(bif c then x else y).1.length<=1:=λc _ _ h1 D=>by
  cases c
  .exact D
  .exact h1
 exact ite _ (no 0)<|ite _ (ite _ (one<|.inl ⟨rfl,τ⟩)<|no _)<|ite _ (one<|.inl ⟨rfl,τ⟩)<|ite _ (one<|.inl ⟨rfl,τ⟩)<|ite _ (one<|.inr ⟨.inr rfl,τ⟩)<|ite _ (one<|.inl ⟨rfl,τ⟩)<|ite _ (ite _ (one<|.inl ⟨rfl,τ⟩)<|no _)<|ite _ (ite _ (one<|.inl ⟨rfl,τ⟩)<|no _)<|ite _ (ite _ (one<|.inr ⟨.inr rfl,τ⟩)<|no _)<|ite _ (one<|.inr ⟨.inl rfl,τ⟩)<|no _
def ZV{b:Z}(m:Img)(a:List Bool):∀n,n<=b.A0.length->∀r∈FR m a n,NH b r
 |0,_,_,h=>by cases h
 |n+1,p,r,h=>by
  rcases m_.1 h with h|h
  .exact ZV m a n ω r h
  .unfold NF at h;cases e:Pe m a n with
   |false=>rw[e]at h;cases h
   |true=>
    rw[e]at h;rcases m_.1 h with h|h
    .rcases m_.1 h with h|h
     .exact⟨n,4,2,ω,y_.1 h,.inl ⟨rfl,τ⟩⟩
     .cases hl:JJ m n with
      |false=>rw[hl]at h;cases h
      |true=>rw[hl]at h;exact⟨n,6,0,ω,y_.1 h,.inr ⟨.inr rfl,τ⟩⟩
    .cases hl:flA m n with
     |false=>rw[hl]at h;cases h
     |true=>rw[hl]at h;exact⟨n,5,0,ω,y_.1 h,.inr ⟨.inl rfl,τ⟩⟩
def FX(b:Z)(m:Img)(a:Int)(i:Nat)(e:List Bool)(p:Bool):List aC:=(Ip m a i (e.getD i C) p).1++FR (Ar m (Ip m a i (e.getD i C) p).1) (bif a !=0 then e.set i C else e) b.A0.length
structure Opr(b:Bldg)(x:Inp)(g:Bool)(t t':Pk)(l:List Record):Prop where
 res:Al b t t' l\/De b t t' l
 how:∃(i:Nat) (cm:List Bool) (fr:Bool),x.car=(i:Int)/\i<b.A0.length/\cm.length=b.A0.length/\l=FX b t.m.E0 x.kind i cm fr/\t'.out={ t.out with D6:=(Ip t.m.E0 x.kind i (cm.getD i false) fr).2 }/\Co (t.ap machine_ticker.mk b x g)=some ((cm,()),())/\Ey t.m.E0.G0 t.m.E0.R0 t.m.E0.K0 t.m.E0.B0=some ((fr,()),())
section
variable{b:Z}(hw:BW b){x:Inp}{g:Bool}(hx:InOK b x)
include hw
theorem BelOK.new:BelOK b i ⟨-1,0,0,[],0,C⟩:=by
 have:=hw.small.lo
 exact⟨⟨τ,show(-1)<=b.C0-1 by omega⟩,τ,τ,τ,λ_=>rfl,.nil⟩
theorem Bca(hm:PM b t.m)(hr:PR b t)(e:Int)(a:Img)(h0:a.G0.length=b.A0.length):R (Cn (((),(),(),e,t.m.E0.G0,(t.m.E0.G0.length:Int),(0:Int),()),((a.G0,a.R0,a.K0,a.B0,()),(x.kind,x.car,()),t.tup b x g,()))) λy=>∃p:V,y=((),(p.tup b x g,()))/\PM b p.m/\PR b p/\Fix t p/\p.out=t.out:=by
 have h1:=Ah hw.code;have hp:=hm.jst.img.lp;refine aL (λk z=>∃(i:Nat) (p:V),z=(((),(),(),e,t.m.E0.G0,(t.m.E0.G0.length:Int),(i:Int),()),((a.G0,a.R0,a.K0,a.B0,()),(x.kind,x.car,()),p.tup b x g,()))/\i+k=b.A0.length/\PM b p.m/\PR b p/\Fix t p/\p.out=t.out) (λk z X=>?_) b.A0.length ⟨0,t,rfl,n_ _,hm,hr,.rfl' t,rfl⟩ ω;obtain⟨i,u,rfl,hk,hm,hr,hf,D⟩:=X;show R (u.ap (Dy e t.m.E0.G0 (t.m.E0.G0.length:Int) i a.G0 a.R0 a.K0 a.B0 x.kind x.car) b x g) _;refine N (λq=>?_) λ_=>A ⟨u,rfl,hm,hr,hf,D⟩;have q:=k_ q;have hi:i<b.A0.length:=ω;have w:=Cm (n:=i) ω;have E:aA i u.m.P0.length=B:=U ω (by rw[hm.bel];omega);have O:aA i u.m.A0.length=B:=U ω (by rw[hm.car];omega);have P:aA i u.reset.length=B:=U ω (by rw[hr.rst];omega);refine I (U ω q)<|I (U ω ω) ?_;refine H (Q:=λ_=>True) (by unfold IX;exact Sat.go) λy1 _=>N (λ_=>?_) λ_=>?_
 .refine J rfl<|I E<|I O<|I P ?_;exact A ⟨k-1,ω,i+1,((u.sBel i ⟨-1,0,0,[],0,C⟩).sCar i Aj).sRst i,by first|(rw[<-w];rfl)|rw[<-w],ω,(hm.sBel<|BelOK.new hw).sCar i<|KR hw.small,((hr.sBel i _).sCar i _).sRst i,⟨⟨hf.im,hf.st,hf.bu,hf.e,hf.out⟩,hf.con⟩,D⟩
 refine H (Q:=λy=>∃c:Bool,y=(((),(),(),e,(i:Int),t.m.E0.G0,(t.m.E0.G0.length:Int),(i:Int),c,()),((a.G0,a.R0,a.K0,a.B0,()),(x.kind,x.car,()),u.tup b x g,()))) (N (λ_=>N (λ_=>A ⟨_,rfl⟩) λ_=>A ⟨_,rfl⟩) λ_=>A ⟨_,rfl⟩) λy3 h3=>?_;obtain⟨c,rfl⟩:=h3;refine N (λ_=>I E ?_) λ_=>A ⟨k-1,ω,i+1,u,by first|(rfl)|rw[<-w],ω,hm,hr,hf,D⟩;refine H (Adz hw.small hw.code hi<|hm.belv i hi) λy4 h4=>I E<|I O<|I P ?_;obtain⟨ya,S,yc⟩:=y4;obtain⟨v,L,hv⟩:=h4;change S=_ at L;subst L;exact A ⟨k-1,ω,i+1,((u.sBel i v).sCar i Aj).sRst i,by first|(rw[<-w];rfl)|rw[<-w],ω,(hm.sBel hv).sCar i<|KR hw.small,((hr.sBel i _).sCar i _).sRst i,⟨⟨hf.im,hf.st,hf.bu,hf.e,hf.out⟩,hf.con⟩,D⟩
include hx
theorem Ayj(hm:PM b t.m)(hr:PR b t)(hb:Bud t):R (t.ap CJ b x g) λy=>∃(w:V) (l:List aC),(y=.inl ((),(w.tup b x g,()))\/y=.inr ((),(w.tup b x g,())))/\Opr b x g t w l:=by
 have x3:=Ah hw.code;have he:=CW hw.small hm.jst.img;obtain⟨D,hh⟩:=Arp hm.jst.img;obtain⟨i,hi⟩:=c6_ hx.car.1;have h3:i<b.A0.length:=by have:=hx.car.2;omega
 obtain⟨y1,P,p,rfl,S,_⟩:=Ami hw hm hx.len;refine J P ?_;have h1:=VZ hm.jst.img hw.small ω hx.kind h3 S hh;rw[<-hi]at h1;refine J h1 ?_;obtain⟨ok1,h0⟩:=Zq t.m.E0 x.kind h3 _ D;obtain⟨h6,v1⟩:=ZZ hw.code ok1;have hO:(bif x.kind==0 then _ else Ni t.m.E0 i (p.getD i C) D x.kind)=Ip t.m.E0 x.kind i _ D:=rfl;have hL:FX b t.m.E0 x.kind i p D=(Ip t.m.E0 x.kind i _ D).1++FR _ _ b.A0.length:=rfl;rw[hO];generalize hu:Ip t.m.E0 x.kind i _ D=O at ok1 h0 h6 v1 hL;obtain⟨O1,L⟩:=O;refine H (Q:=λy=>∃w,y=(((),(),(),p,L,()),((t.m.E0.G0,t.m.E0.R0,t.m.E0.K0,t.m.E0.B0,()),(x.kind,x.car,()),w.tup b x g,()))/\Wr b (t.stat L) O1 w) ?_ λy5 h5=>?_
 .refine H (Oo hw.small (t:=t.stat L) hm.jst hb.2 hb.1 (h6.good _ v1) (show O1.length<=100000 by have:O1.length<=1:=h0;omega)) λy2 h2=>?_;obtain⟨w,e|e,h⟩:=h2
  .subst e;exact A ⟨w,rfl,h⟩
  .subst e;exact A ⟨w,rfl,h⟩
 obtain⟨E,rfl,ht⟩:=h5;obtain⟨r1,o1⟩:=ht.fin hw hm ⟨hr.leg,hr.sho,hr.rst,hr.oc,hr.cmd⟩ h6;have r1:Al b t E O1\/De b t E O1:=by
  rcases r1 with r|r
  .exact .inl ⟨r.e,r.m,r.r,r.im,r.b0,r.b1,r.b2,r.con⟩
  .exact .inr ⟨r.e,r.lo,r.ok,r.rp⟩
 have hk:(bif x.kind !=0 then p.set i C else p).length=b.A0.length:=by
  cases x.kind !=0
  .exact S
  .show(p.set i C).length=_;rw[z_];exact S
 refine J (b:=(((),(),(),(bif x.kind !=0 then p.set i C else p),L,()),((t.m.E0.G0,t.m.E0.R0,t.m.E0.K0,t.m.E0.B0,()),(x.kind,x.car,()),E.tup b x g,()))) ?_ ?_
 .show(bif x.kind !=0 then(bif aA x.car p.length then _ else none)else _)=_;cases x.kind !=0 with
  |false=>rfl
  |true=>rw[i_,U hx.car.1 (by have:=hx.car.2;omega),i_,i_];rw[hi,l_]
 generalize(bif x.kind !=0 then p.set i C else p)=c2 at hk hL;refine H (Q:=λy=>∃a,y=(((),(),(),L,()),((t.m.E0.G0,t.m.E0.R0,t.m.E0.K0,t.m.E0.B0,()),(x.kind,x.car,()),a.tup b x g,()))/\(Al b t a (FX b t.m.E0 x.kind i p D)\/De b t a (FX b t.m.E0 x.kind i p D))/\a.out={ t.out with D6:=L }) ?_ λx1 hy=>?_
 .refine N (λq=>?_) λq=>?_
  .have q:E.e=0:=eq_of_beq q;have r:Al b t E O1:=by
    rcases r1 with r|r
    .exact r
    .have:=r.e;omega
   have hz:=CW hw.small r.m.jst.img;have h9:=r.bud hb;refine H (Q:=λy=>∃a,y=(((),(),(),L,()),((t.m.E0.G0,t.m.E0.R0,t.m.E0.K0,t.m.E0.B0,()),(x.kind,x.car,()),a.tup b x g,()))/\(Al b t a _\/De b t a _)/\a.out={ t.out with D6:=L }) ?_ λx0 hv=>by obtain⟨a,rfl,h⟩:=hv;exact A ⟨a,rfl,h⟩
   have h7:=XW r.m.jst.img hw.small ω hk;have ok2:=ZV E.m.E0 c2 b.A0.length<|t_ _;have ha:=QZ E.m.E0 c2 b.A0.length;rw[r.im]at ok2 ha;obtain⟨h8,v2⟩:=ZZ hw.code ok2;refine J h7 ?_;rw[r.im];refine H (Oo hw.small r.m.jst h9.2 h9.1 (h8.good _ v2) (ω:(FR _ c2 b.A0.length).length<=100000)) λy2 h2=>?_;have hg:∀a,Wr b E _ a->(Al b t a (FX b t.m.E0 x.kind i p D)\/De b t a (FX b t.m.E0 x.kind i p D))/\a.out={ t.out with D6:=L }:=λa h=>by
    obtain⟨r2,o2⟩:=h.fin hw r.m r.r h8;rw[hL];refine⟨?_,by rw[o2,o1];rfl⟩;rcases r2 with r2|r2
    .exact .inl<|r.app r2
    .exact .inr<|r.de r2
   obtain⟨a,e|e,h⟩:=h2
   .subst e;exact A ⟨a,rfl,hg a h⟩
   .subst e;exact A ⟨a,rfl,hg a h⟩
  .have q:¬E.e=0:=λh=>by have q:(E.e==0)=C:=q;rw[h]at q;cases q
   rcases r1 with r|r
   .exact absurd r.e q
   .exact A ⟨E,rfl,.inr (by rw[hL];exact r.mono _),by rw[o1];rfl⟩
 .obtain⟨a,rfl,r2,o2⟩:=hy;have hj:∀w:V,w.out={ t.out with D6:=L }->∃(i':Nat) (X:List Bool) (h4:Bool),x.car=i'/\i'<b.A0.length/\X.length=b.A0.length/\FX b t.m.E0 x.kind i p D=FX b t.m.E0 x.kind i' X h4/\w.out={ t.out with D6:=(Ip t.m.E0 x.kind i' (X.getD i' C) h4).2 }/\Co _=W ((X,()),())/\Ey t.m.E0.G0 t.m.E0.R0 t.m.E0.K0 t.m.E0.B0=W ((h4,()),()):=λw ho=>⟨i,p,D,hi,h3,S,rfl,by rw[hu];exact ho,P,hh⟩
  refine N (λ_=>A ⟨a,_,.inl rfl,r2,hj a o2⟩) λq=>?_;have q:a.e=0:=by have q:(a.e !=0)=C:=q;simpa using q
  have r:Al b t a<|FX b t.m.E0 x.kind i p D:=by
   rcases r2 with r|r
   .exact r
   .have:=r.e;omega
  refine H (Bca hw r.m r.r L t.m.E0 hm.jst.img.lp) λx2 hn=>?_;obtain⟨t3,rfl,m3,r3,f3,o3⟩:=hn;exact A ⟨t3,_,.inr rfl,.inl ⟨f3.e.trans r.e,m3,r3,f3.im.trans r.im,by rw[f3.bu];exact r.b0,by rw[f3.bu];exact r.b1,by rw[f3.bu];exact r.b2,f3.con.trans r.con⟩,hj t3<|o3.trans o2⟩
end
def inX(l:List Int):Prop:=∀x∈l,0<=x/\x<=1000000
def inX.exp{l:List Int}(h:inX l):Pb l=B:=G_.2 λx hx=>Ak.2<|h x hx
def Bk4(E:List aT){xs:List Int}(h:inX xs)(r:aC):inX<|xsV E xs r:=by
 unfold xsV;cases _&&Gm _ E with
 |true=>
  intro x hx;rcases m_.1 hx with hx|hx
  .exact h x<|e4_ hx
  .exact h x<|e5_ hx
 |false=>
  cases _&&!Gm _ E with
  |true=>
   intro x hx;rcases m_.1 hx with hx|hx
   .rcases m_.1 hx with hx|hx
    .exact h x<|e4_ hx
    .rw[y_.1 hx];decide
   .exact h x<|e5_ hx
  |false=>exact h
def Bcw(hcode:b.code=0)(i:Int):0<=(Aaa b i).B3/\(Aaa b i).B3<=10000:=by
 by_cases h:i.toNat<b.A0.length
 .exact(Ad7 hcode h).2.2.2
 .unfold Aaa;rw[g_,List.getElem?_eq_none ω];decide
def Bb2(hcode:b.code=0)(vs:List aK)(e n:aT){x:Int}(hx:0<=x/\x<=1000000):0<=Aan b vs e n x/\Aan b vs e n x<=1000000:=by
 unfold Aan;have h1:=Bfh b n.X0 (AC vs n.X0) e.D0 e.H0;have a:=Bcw hcode n.X0;rw[Aa (n:=x-1) ω ω,Aa ω ω];cases n.X0 !=e.X0&&decide (0<=n.X0)with
 |true=>
  rw[i_];by_cases g:1000000<Tv b n.X0 (AC vs n.X0) e.D0 e.H0+(Aaa b n.X0).B3
  .rw[a_ g,i_];decide
  .rw[c_ g,j_];omega
 |false=>
  rw[j_];by_cases g:x-1<0
  .rw[a_ g,i_];decide
  .rw[c_ g,j_];omega
def Aon{b:Z}(hcode:b.code=0)(vs:List aK):∀(l:List aT) (xs:List Int),inX xs->inX (LS b vs l xs)
 |[],_,_,_,h=>by simp[LS]at h
 |_::_,[],_,_,h=>by simp[LS]at h
 |e::t,x::xs,hx,y,h=>by
  rcases A_.1 h with rfl|h
  .exact Bb2 hcode vs e _<|hx x<|C_ ..
  .exact Aon hcode vs t xs (λz a=>hx z<|F_ _ a) y h
def Aux(a c:aT):∀r∈Pr a c,r.C1=3\/r.C1=7:=by
 intro r h;rcases m_.1 h with h|h
 .cases q:(a.B2 !=c.B2||!(a.Y2==c.Y2))with
  |false=>rw[q]at h;cases h
  |true=>rw[q]at h;rw[y_.1 h];exact .inr rfl
 .cases q:a.X0 !=c.X0 with
  |false=>rw[q]at h;cases h
  |true=>rw[q]at h;rw[y_.1 h];exact .inl rfl
def Xz(b:Z)(vs:List aK):∀(l:List aT) (xs:List Int),∀r∈HF b vs l xs,r.C1=3\/r.C1=7
 |[],_,_,h=>by simp[HF]at h
 |_::_,[],_,h=>by simp[HF]at h
 |e::t,x::xs,r,h=>by
  rcases m_.1 h with h|h
  .exact Aux _ _ r h
  .exact Xz b vs t xs r h
structure Rg(b:Bldg)(m:Img)(X:Rnd):Prop where
 good:goodL b m X.recs
 img:Ar m X.recs=X.img
 ok:X.ok b
 xs:inX X.xs
def Rg.step{X:Rnd}(h:Rg b m X){r:aC}(a:AB b r=B)(hf:JH b X.img r=C):Rg b m<|US r X:=⟨h.good.app ⟨a,by rw[h.img];exact hf,trivial⟩,by show Ar m (X.recs++[r])=Aw X.img r;rw[Fi,h.img];rfl,XI h.ok a,Bk4 _ h.xs r⟩
def Rg.wr{b:Z}{m:Img}:∀{l:List aC}{X:Rnd},Rg b m X->goodL b X.img l->Rg b m (wrL l X)
 |[],X,h,_=>by unfold wrL;rw[a1_];exact⟨h.good,h.img,⟨h.ok.img,h.ok.len⟩,h.xs⟩
 |r::t,X,h,⟨h1,e,a⟩=>by rw[XM];exact Rg.wr (h.step h1 e) a
def Rg.reg{b:Z}{m:Img}:∀{l:List aT}{X:Rnd},Rg b m X->(∀e∈l,Aq b e.D0 e.H0=B)->Rg b m (Lx b l X)
 |[],_,h,_=>h
 |e::t,X,h,a=>by
  refine Rg.reg (l:=t) ?_ λx hx=>a x<|F_ _ hx;unfold Px;cases hr:Pu b X.img with
  |true=>exact h.step (Zz<|a e<|C_ ..) (by unfold JH;rw[hr];simp)
  |false=>exact⟨h.good,h.img,⟨h.ok.img,h.ok.len⟩,h.xs⟩
section
variable{b:Z}(hb:b.small)(hcode:b.code=0){m:Img}(hm:ImgOK b m){xs:List Int}(hx:xs.length=m.B0.length)(hxv:inX xs){vs:List aK}(ps:List Calls)(press:Int×Int)(good:Bool)
include hb hcode hm hx hxv
theorem Ape:Rg b m<|FD b m xs vs ps press good:=by
 have h0:∀L:Lan,Rg b m ⟨[],m,xs,L,(0,0)⟩:=λL=>⟨trivial,rfl,⟨hm,hx⟩,hxv⟩
 cases good with
 |false=>exact h0 _
 |true=>have p:=QJ hcode vs λe a=>(Fy.1<|hm.en e a).1;exact((h0 _).wr (Xf m λr hr=>⟨(p r hr).1,by rw[(p r hr).2];decide⟩)).reg λe a=>Xb hb hcode a
variable(hvl:vs.length=b.A0.length)
include hvl
theorem Af2:Aln b m xs vs ps press good=(HF b vs (FD b m xs vs ps press good).img.B0 (FD b m xs vs ps press good).xs,LS b vs (FD b m xs vs ps press good).img.B0 (FD b m xs vs ps press good).xs,0,()):=by have h:=Ape hb hcode hm hx hxv (vs:=vs) ps press good;unfold Aln Pn;rw[Img.ok_iff.2 h.ok.img,show(((FD b m xs vs ps press good).xs.length:Int)==((FD b m xs vs ps press good).img.B0.length:Int))=B by rw[h.ok.len];exact q_ _,show(vs.length==(b.A0.length:Int))=B by rw[hvl];exact q_ _,h.xs.exp];rfl
theorem Adm:Rg b m (MK b m xs vs ps press good)/\(MK b m xs vs ps press good).recs.length<=300:=by
 have y:=Ah hcode;have h:=Ape hb hcode hm hx hxv (vs:=vs) ps press good;have a:=(Apd hb hcode hm hx (vs:=vs) ps press good).2;have hp:=Af2 hb hcode hm hx hxv ps press good hvl;have p:=CW hb h.ok.img;unfold MK;rw[hp];generalize FD b m xs vs ps press good=X at h a p;obtain⟨D,w,E⟩:=XA ω (by omega:vs.length=(b.A0.length:Int)) X.img.B0 X.xs [] X.img h.ok.len h.ok.img rfl;have e:=Xz b vs X.img.B0 X.xs;have hw:=h.wr (Xf X.img λr hr=>⟨w r hr,by have:=e r hr;omega⟩);have hl:=Zw b vs X.img.B0 X.xs;refine⟨⟨hw.good,hw.img,⟨hw.ok.img,?_⟩,Aon hcode vs _ _ h.xs⟩,?_⟩
 .show(LS b vs X.img.B0 X.xs).length=(Ar X.img _).B0.length;rw[D,Zv b vs _ _ h.ok.len];show _=(Vo b vs X.img.B0 X.xs).length;rw[Am0 b vs _ _ h.ok.len]
 .show(X.recs++HF b vs X.img.B0 X.xs).length<=300;rw[f_];omega
end
def Ax3(b:Z)(vs:List aK)(ps:List Calls):∀(m i:Nat) (s:Lan),(Ba (TF b vs ps) m i s).lit.length=s.lit.length+m/\(Ba (TF b vs ps) m i s).gong.length=s.gong.length+m
 |0,_,_=>⟨rfl,rfl⟩
 |m+1,i,s=>by
  obtain⟨h1,e⟩:=Ax3 b vs ps m (i+1)<|TF b vs ps i s;have p:(TF b vs ps i s).lit.length=s.lit.length+1:=by unfold TF;rw[f_];rfl
  have a:(TF b vs ps i s).gong.length=s.gong.length+1:=by unfold TF;rw[f_];rfl
  exact⟨by show(Ba (TF b vs ps) m (i+1) _).lit.length=_;omega,by show(Ba (TF b vs ps) m (i+1) _).gong.length=_;omega⟩
def Aos(b:Z):∀(l:List aT) (X:Rnd),(Lx b l X).lan=X.lan
 |[],_=>rfl
 |e::t,X=>by show(Lx b t _).lan=X.lan;rw[Aos b t];unfold Px;cases Pu b X.img<;>rfl
def Aze(b:Z)(m:Img)(xs:List Int)(vs:List aK)(ps:List Calls)(press:Int×Int)(good:Bool):(MK b m xs vs ps press good).lan=bif good then Nm b vs ps else Bd4 vs.length:=by
 show(FD b m xs vs ps press good).lan=_;unfold FD;cases good with
 |true=>rw[i_,Aos];rfl
 |false=>rfl
def Aj4(b:Z)(m:Img)(xs:List Int)(vs:List aK)(ps:List Calls)(press:Int×Int)(good:Bool):(MK b m xs vs ps press good).lan.lit.length=vs.length/\(MK b m xs vs ps press good).lan.gong.length=vs.length:=by
 rw[Aze];cases good with
 |true=>obtain⟨h1,a⟩:=Ax3 b vs ps vs.length 0 Lan.none;exact⟨h1.trans<|n_ _,a.trans<|n_ _⟩
 |false=>exact⟨P_,P_⟩
@[reducible] def Bmy(v:aK):=(v.B4,v.R3,v.V3,v.G4,v.D0,v.H0,v.D4,v.A4,v.J3,v.H3,v.L2,v.E2,())
def Ayc(hb:b.small){x:NewCar}(h:GP b x=B):Ah8 x.N2:=by
 have a:=Af4 hb;unfold GP at h;cases hf:x.K2 with
 |true=>rw[hf]at h;simp only[i_,Agt,b_,I_]at h;rw[h.2.2.2.2.2.2.2.2.2.2.1];exact⟨τ,τ⟩
 |false=>have hs:=(SK hb hf).1 (by unfold GP;exact h);have hc:=hs.1.ca;unfold C2 at hc;exact⟨hc.1,ω⟩
def Ba3{l:List Duty}(hl:l.length<=1000):R (NP l) λy=>Jw (y.2.1.1,y.2.1.2.1):=by refine H ?_ λ_ h=>A h;refine aL (λk z=>∃(i:Nat) (c:Int×Int),z=(((),(),l,(l.length:Int),(i:Int),()),((0,0,()),(c.1,c.2,()),()))/\i+k=l.length/\Jw c) (λk z a=>?_) l.length ⟨0,(0,0),rfl,n_ _,Qs⟩ ω;obtain⟨i,c,rfl,e,hc⟩:=a;show R (QR l (l.length:Int) i 0 0 c.1 c.2) _;refine N (λq=>?_) λ_=>A hc;have q:=k_ q;have w:=Cm (n:=i) ω;refine I (U ω q)<|J (FU _ _)<|J (DZ c _) ?_;exact A ⟨k-1,ω,i+1,_,by first|(rfl)|rw[<-w],ω,ZQ _ _⟩
structure VI(b:Bldg)(m:Img)(good:Bool)(i:Nat)(v:View):Prop where
 ok:v.ok
 ready:v.B4=(good&&Afh m i)
 serving:v.R3=Nr m i
 lost:v.G4=(flA m i||!Nr m i)
section
variable{b:Z}(hw:BW b){x:Inp}{g:Bool}(hx:g=B->InOK b x)
include hw
theorem Bkz{m:Mch}(hm:PM b m)(hi:i<b.A0.length)(f:Int)(l:Bool)(d:Int)(k:Bool):R (PH b.C0 b.F0 b.J0 b.L0 b.I0 b.M0 b.O0 b.A0 m.E0.G0 m.E0.R0 m.E0.K0 m.E0.B0 m.S1.h0 m.S1.h1 m.S1.sel m.Z0 m.P0 m.A0 m.L3 m.Z2 m.F4 m.J4 m.X3 m.F3 (i:Int) f l d k) λy=>∃v,y=(((),()),(Bmy v,()))/\VI b m.E0 B i v:=by
 have S:aA i m.E0.G0.length=B:=U ω (by rw[hm.jst.img.lp];omega);have O:aA i m.P0.length=B:=U ω (by rw[hm.bel];omega);have E:aA i m.A0.length=B:=U ω (by rw[hm.car];omega);have i4:aA i m.E0.R0.length=B:=U ω (by rw[hm.jst.img.lf];omega);have X:aA i m.L3.length=B:=U ω (by rw[hm.lod];omega);have hc:=Ayc hw.small<|hm.carv _<|Av Aj (by rw[hm.car];exact hi);have hd:=((hm.belv i hi).dut).len hw.small;refine I S<|I E<|J (Alv hm.jst.img hi)<|J (Ads hm.jst.img hi)<|J (Qq _) ?_;have L:Ah8 0:=⟨τ,τ⟩
 refine J (b:=(((i:Int),(),(),(),(),aE m.E0 i,(),(),()),((b.C0,b.F0,b.J0,b.L0,b.I0,b.M0,b.O0,b.A0,()),(m.E0.G0,m.E0.R0,m.E0.K0,m.E0.B0,m.S1.h0,m.S1.h1,m.S1.sel,m.Z0,m.P0,m.A0,m.L3,m.Z2,m.F4,m.J4,m.X3,m.F3,()),(f,l,d,k,()),(C,C,C,C,0,0,0,0,0,0,0,0,()),YB<|m.A0.getD i Aj,(Afh m.E0 i,Nr m.E0 i,AI<|aE m.E0 i,(flA m.E0 i||!Nr m.E0 i),0,0,0,0,0,0,0,0,()),()))) ?_ ?_
 .show(bif aA _ m.E0.R0.length then(bif flA m.E0 i then _ else _)else none)=_;rw[i4];cases flA m.E0 i<;>rfl
 refine N (λ_=>I O (H (Ba3 (by show(m.P0.getD i AL).V0.length<=1000;omega)) λD e=>?_)) λ_=>I X ?_
 .exact A ⟨bA _ _ _ _ (m.P0.getD i AL).D0 (m.P0.getD i AL).H0 0 0 0 0 D.2.1.1 D.2.1.2.1,rfl,⟨L,e.1,e.2⟩,rfl,rfl,rfl⟩
 refine H (Q:=λy=>∃(su a:Int) (o1 o2 o3 o4:Int),y=(((i:Int),(),(),(),(),(),()),((b.C0,b.F0,b.J0,b.L0,b.I0,b.M0,b.O0,b.A0,()),(m.E0.G0,m.E0.R0,m.E0.K0,m.E0.B0,m.S1.h0,m.S1.h1,m.S1.sel,m.Z0,m.P0,m.A0,m.L3,m.Z2,m.F4,m.J4,m.X3,m.F3,()),(C,C,C,C,0,0,0,0,0,0,0,0,()),YB<|m.A0.getD i Aj,(Afh m.E0 i,Nr m.E0 i,AI<|aE m.E0 i,(flA m.E0 i||!Nr m.E0 i),f,(m.A0.getD i Aj).X1,o1,su,a,o2,o3,o4,()),()))) ?_ λy7 P=>?_
 .refine N (λ_=>?_) λ_=>A ⟨_,_,_,_,_,_,rfl⟩;exact H (Ahp hw.small hw.code _ f l d k) λ_ _=>A ⟨_,_,_,_,_,_,rfl⟩
 obtain⟨su,a,o1,o2,o3,o4,rfl⟩:=P;refine H (YV hw hm.jst.img _) λw p=>?_;exact A ⟨bA _ _ _ _ f (m.A0.getD i Aj).X1 o1 su a (m.A0.getD i Aj).N2 w.2.1.1 w.2.1.2.1,rfl,⟨hc,p.1,p.2⟩,rfl,rfl,rfl⟩
structure VA(b:Bldg)(m:Img)(good:Bool)(vs:List View):Prop where
 len:vs.length=b.A0.length
 vi:∀i,i<b.A0.length->VI b m good i (vs.getD i noV)
theorem VA.ok{vs:List aK}(h:VA b m g vs):okViews vs:=λv a=>by
 obtain⟨i,hi,rfl⟩:=bE a
 have:=(h.vi i (by rw[<-h.len];exact hi)).ok
 rwa [g_,h_ hi]at this
include hx
theorem Asf(hm:PM b t.m)(hr:PR b t):R (Es<|t.ap bB b x g) λy=>∃vs:List aK,y=((vs,()),())/\VA b t.m.E0 g vs:=by
 have h2:=Ah hw.code;refine I (by show((aR _&&decide _)&&decide ((b.A0.length:Int)<=2147483648))=B;simp only[b_,r_];omega) (H (Q:=λy=>∃vs:List aK,y=((vs,()),())/\VA b t.m.E0 g vs) ?_ λy h=>by obtain⟨c,rfl,h⟩:=h;exact A ⟨c,rfl,h⟩);have h0:(aS (aF b.A0.length) noV).length=b.A0.length:=by rw[P_];omega
 show R (FE ((t.ap bB b x g,aS (aF b.A0.length) noV,(((aS (aF b.A0.length) noV).length:Nat):Int),0,()),())) _;generalize aS _ noV=L at h0;refine aL (λk z=>∃(i:Nat) (vs:List aK),z=((t.ap bB b x g,vs,(L.length:Int),(i:Int),()),())/\i+k=L.length/\vs.length=b.A0.length/\∀j,j<i->VI b t.m.E0 g j (vs.getD j noV)) (λk z S=>?_) L.length ⟨0,L,rfl,n_ _,h0,λj D=>absurd D<|Y_ j⟩ ω;obtain⟨i,vs,rfl,hk,hl,O⟩:=S;show R (IC _ vs L.length i) _;refine N (λq=>?_) λq=>A ⟨vs,rfl,hl,λj D=>O j (by have q:=o_ q;omega)⟩;have q:=k_ q;have hi:i<b.A0.length:=ω;have w:=Cm (n:=i) ω;have P:aA i vs.length=B:=U ω ω;have put:∀{v:aK},VI b t.m.E0 g i v->∀j,j<i+1->VI b t.m.E0 g j ((vs.set i v).getD j noV):=λ{v} h j D=>by
  by_cases e:i=j
  .subst e;rw[Am _ _ ω];exact h
  .rw[As _ _ e];exact O j ω
 refine N (λp=>?_) λp=>?_
 .have p:g=C:=by simpa using(show(!g)=B from p)
  refine J (Ads hm.jst.img hi) ?_;have i4:aA i t.m.E0.R0.length=B:=U ω (by rw[hm.jst.img.lf];omega);refine J (b:=((t.ap bB b x g,vs.set i<|bA C (Nr t.m.E0 i) C (flA t.m.E0 i||!Nr t.m.E0 i) (-1) 0 0 0 0 0 0 0,(L.length:Int),(i:Int),()),())) ?_ ?_
  .show(bif aA _ t.m.E0.R0.length then(bif flA t.m.E0 i then _ else _)else none)=_;rw[i4,P,i_];cases flA t.m.E0 i<;>rfl
  have E:Ah8 0:=⟨τ,τ⟩
  exact A ⟨k-1,ω,i+1,_,by first|(rfl)|rw[<-w],ω,by rw[z_];exact hl,put ⟨⟨E,E,E⟩,by rw[p];rfl,rfl,rfl⟩⟩
 .have p:g=B:=by simpa using(show(!g)=C from p)
  have h1:=(hx p).len;refine I (U ω (ω:_<(x.cars.length:Int))) (H (Bkz hw hm hi _ _ _ _) λy3 X=>I P ?_);obtain⟨v,rfl,a⟩:=X;rw[<-p]at a;refine I (U ω (show _<(t.legacy.length:Int)by rw[hr.leg];omega)) (N (λ_=>?_) λ_=>?_)
  .refine I (U ω (show _<(t.shows.length:Int)by rw[hr.sho];omega))<|I (U ω (by rw[z_];omega)) ?_;refine A ⟨k-1,ω,i+1,(vs.set i v).set i<|bA v.B4 v.R3 v.V3 v.G4 v.D0 v.H0 v.D4 (t.shows.getD i<|aX 0 0).Up (t.shows.getD i<|aX 0 0).C4 v.H3 v.L2 v.E2,?_,ω,by rw[z_,z_];exact hl,λj D=>?_⟩
   .have e:(vs.set i v).getD i noV=v:=Am _ _ ω
    first
     |(rw[<-w];show((_,List.set _ i<|bA ((vs.set i v).getD i noV).B4 ((vs.set i v).getD i noV).R3 ((vs.set i v).getD i noV).V3 ((vs.set i v).getD i noV).G4 ((vs.set i v).getD i noV).D0 ((vs.set i v).getD i noV).H0 ((vs.set i v).getD i noV).D4 _ _ ((vs.set i v).getD i noV).H3 ((vs.set i v).getD i noV).L2 ((vs.set i v).getD i noV).E2,_,_,()),())=_;rw[e];rfl)
   .rw[g8_];exact put (v:=bA v.B4 v.R3 v.V3 v.G4 v.D0 v.H0 v.D4 (t.shows.getD i _).Up (t.shows.getD i _).C4 v.H3 v.L2 v.E2) ⟨⟨a.ok.c,a.ok.u,a.ok.d⟩,a.ready,a.serving,a.lost⟩ j D
  .exact A ⟨k-1,ω,i+1,vs.set i v,by first|(rw[<-w];rfl)|rw[<-w],ω,by rw[z_];exact hl,put a⟩
end
noncomputable def KU(b:Z)(x:Inp)(g:Bool)(t:V)(vs:List aK):Rnd:=MK b t.m.E0 t.m.Z2 vs t.m.F4 x.press g
def QI:List aC->Int×Int->Int×Int
 |[],c=>c
 |r::l,c=>QI l<|bif r.C1==2 then Em c (HE r.D0 r.H0)else c
def Ahh(r:Rnd)(i:Nat)(c d:aG):Prop:=d.E3=(r.lan.lit.getD i noP).Up/\d.X2=(r.lan.lit.getD i noP).C4/\d.P5=r.lan.gong.getD i C/\d.T1=c.T1
def PM.rnd{m:Mch}(h:PM b m){r:Rnd}(a:Rg b m.E0 r)(hl:r.lan.lit.length=b.A0.length)(e:Jst b s r.img)(p:0<=n/\n<=1000000):PM b { m with E0:=r.img,S1:=s,Z2:=r.xs,F4:=r.lan.lit,F3:=n }:=⟨e,h.con,h.conv,h.bel,h.belv,h.car,h.carv,h.lod,h.lodv,hl,a.ok.len,a.xs,h.tick,h.flt,p⟩
structure Dsp(b:Bldg)(x:Inp)(g:Bool)(t t':Pk)(vs:List View):Prop where
 va:VA b t.m.E0 g vs
 ve:Es (t.ap machine_ticker.mk b x g)=some ((vs,()),())
 rg:Rg b t.m.E0 (KU b x g t vs)
 res:Al b t t' (KU b x g t vs).recs\/De b t t' (KU b x g t vs).recs
 out:t'.out={ t.out with L4:=(QI (KU b x g t vs).recs (t.out.L4,t.out.I4)).1,I4:=(QI (KU b x g t vs).recs (t.out.L4,t.out.I4)).2,M0:=!isZ (KU b x g t vs).ref,A0:=t'.out.A0 }
 oc:t'.out.A0.length=b.A0.length
 cars:∀i,i<b.A0.length->Ahh (KU b x g t vs) i (t.out.A0.getD i Af) (t'.out.A0.getD i Af)
 rst:t'.reset=t.reset
def Bsx{l:List aG}(hi:i<l.length)(f g:aG->aG):(l.set i<|f<|l.getD i Af).set i (g<|(l.set i<|f<|l.getD i Af).getD i Af)=l.set i (g<|f<|l.getD i Af):=by rw[Am _ _ hi,g8_]
def Pk.sServ(t:V)(c:Int×Int):V:={ t with out:={ t.out with L4:=c.1,I4:=c.2 } }
def Pk.sOuts(t:V)(l:List aG):V:={ t with out:={ t.out with A0:=l } }
section
variable{b:Z}(hw:BW b){x:Inp}{g:Bool}(hx:g=B->InOK b x)
theorem Air(r:Rnd)(hr:r.recs.length<=1000)(t:V):R (Dq (((),(),r.recs,(r.recs.length:Int),(0:Int),()),(r.tup,t.tup b x g,()))) λy=>y=(((),(),()),(r.tup,(t.sServ<|QI r.recs (t.out.L4,t.out.I4)).tup b x g,())):=by
 refine aL (λk z=>∃(i:Nat) (c:Int×Int),z=(((),(),r.recs,(r.recs.length:Int),(i:Int),()),(r.tup,(t.sServ c).tup b x g,()))/\i+k=r.recs.length/\QI (r.recs.drop i) c=QI r.recs _) (λk z a=>?_) r.recs.length ⟨0,(t.out.L4,t.out.I4),rfl,n_ _,rfl⟩ ω;obtain⟨i,c,rfl,e,hs⟩:=a;show R ((t.sServ c).ap (Hx r.recs r.recs.length i r.recs r.img.G0 r.img.R0 r.img.K0 r.img.B0 r.xs r.lan.lit r.lan.gong r.lan.cl.1 r.lan.cl.2 r.ref.1 r.ref.2) b x g) _;refine N (λq=>?_) λq=>A ?_
 .have q:=k_ q;have hi:i<r.recs.length:=ω;have w:=Cm (n:=i) ω;rw[CV LQ hi]at hs;refine I (U ω q) (N (λh=>J (FU _ _)<|J (DZ c _) ?_) λh=>?_)
  .refine A ⟨k-1,ω,i+1,Em c _,by first|(rw[<-w];rfl)|rw[<-w],ω,?_⟩;rw[<-hs];have h:((r.recs.getD i LQ).C1==2)=B:=h;show _=QI (r.recs.drop<|i+1) _;rw[h];rfl
  .refine A ⟨k-1,ω,i+1,c,by first|(rw[<-w];rfl)|rw[<-w],ω,?_⟩;rw[<-hs];have h:((r.recs.getD i LQ).C1==2)=C:=h;show _=QI (r.recs.drop<|i+1) _;rw[h];rfl
 .have q:=o_ q;rw[List.drop_of_length_le ω]at hs;rw[<-hs];rfl
theorem Ais(r:Rnd)(S:t.out.A0.length<=1000)(hl:r.lan.lit.length=t.out.A0.length)(P:r.lan.gong.length=t.out.A0.length):R (Ds (((),(),(t.out.A0.length:Int),(0:Int),()),(r.tup,t.tup b x g,()))) λy=>∃l,y=((),((t.sOuts l).tup b x g,()))/\l.length=t.out.A0.length/\∀j,j<t.out.A0.length->Ahh r j (t.out.A0.getD j Af) (l.getD j Af):=by
 refine aL (λk z=>∃(i:Nat) (l:List aG),z=(((),(),(t.out.A0.length:Int),(i:Int),()),(r.tup,(t.sOuts l).tup b x g,()))/\i+k=t.out.A0.length/\l.length=t.out.A0.length/\(∀j,j<i->Ahh r j (t.out.A0.getD j Af) (l.getD j Af))/\∀j,i<=j->l.getD j Af=t.out.A0.getD j Af) (λk z O=>?_) t.out.A0.length ⟨0,t.out.A0,rfl,n_ _,rfl,λj p=>absurd p<|Y_ j,λj _=>rfl⟩ ω;obtain⟨i,l,rfl,Q,a,h1,E⟩:=O;show R ((t.sOuts l).ap (Hy t.out.A0.length i r.recs r.img.G0 r.img.R0 r.img.K0 r.img.B0 r.xs r.lan.lit r.lan.gong r.lan.cl.1 r.lan.cl.2 r.ref.1 r.ref.2) b x g) _;refine N (λq=>?_) λq=>A ⟨l,rfl,a,λj p=>h1 j (by have:=o_ q;omega)⟩;have q:=k_ q;have hi:i<l.length:=ω;have w:=Cm (n:=i) ω;refine I (U ω ω)<|I (U ω ω)<|I (U ω (ω:_<(l.length:Int)))<|I (U ω (by rw[z_];show _<(l.length:Int);omega)) ?_;refine A ⟨k-1,ω,i+1,l.set i<|aZ (l.getD i Af).M1 (l.getD i Af).E1 (l.getD i Af).C3 (r.lan.lit.getD i noP).Up (r.lan.lit.getD i noP).C4 (r.lan.gong.getD i C) (l.getD i Af).T1 (l.getD i Af).V2 (l.getD i Af).K4,?_,ω,?_,λj p=>?_,λj p=>?_⟩
 .have D:=Bsx hi (λc=>aZ c.M1 c.E1 c.C3 (r.lan.lit.getD i noP).Up (r.lan.lit.getD i noP).C4 c.P5 c.T1 c.V2 c.K4) (λc=>aZ c.M1 c.E1 c.C3 c.E3 c.X2 (r.lan.gong.getD i C) c.T1 c.V2 c.K4);rw[<-w];exact b5_ (λL=>(((),(),(t.out.A0.length:Int),aH.wrap _,()),(r.tup,(t.sOuts L).tup b x g,()))) D
 .rw[z_];exact a
 .by_cases e:i=j
  .subst e;rw[Am _ _ hi];exact⟨rfl,rfl,rfl,by rw[<-E i (t_ i)]⟩
  .rw[As _ _ e];exact h1 j ω
 .rw[As _ _ ω];exact E j ω
end
def Pk.sRnd(t:V)(r:Rnd)(n:Int)(f:Bool):V:={ t with m:={ t.m with Z2:=r.xs,F4:=r.lan.lit,F3:=n },out:={ t.out with M0:=f } }
section
variable{b:Z}(hw:BW b){x:Inp}{g:Bool}(hx:g=B->InOK b x)
include hw hx
theorem Atx(hm:PM b t.m)(hr:PR b t)(hb:Bud t):R (t.ap Cz b x g) λy=>∃(p:V) (vs:List aK),y=((),(p.tup b x g,()))/\Dsp b x g t p vs:=by
 have hg:=Ah hw.code;obtain⟨y1,O,vs,rfl,w⟩:=Asf hw hx hm hr;refine J O ?_;have hxv:inX t.m.Z2:=hm.exv;have hd:=Tu hw.small hw.code hm.jst.img hm.exl t.m.F4 x.press g hxv.exp (VA.ok hw w) w.len hm.lit;obtain⟨a,S⟩:=Adm hw.small hw.code hm.jst.img hm.exl hxv t.m.F4 x.press g w.len;obtain⟨D,E⟩:=Aj4 b t.m.E0 t.m.Z2 vs t.m.F4 x.press g;rw[w.len]at D E;refine J hd ?_;have hR:MK b t.m.E0 t.m.Z2 vs t.m.F4 x.press g=KU b x g t vs:=rfl;rw[hR]at a S D E|-;have X:∀(p:V),(Al b t p (KU b x g t vs).recs\/De b t p (KU b x g t vs).recs)->_->_->_->_->Dsp b x g t p vs:=λp h1 h2 h3 P h5=>⟨w,O,a,h1,h2,h3,P,h5⟩
 generalize he:KU b x g t vs=r at a S D E X;refine Sat.bindR ?_;refine H (Q:=λy=>∃p,y=(((),(),()),(r.tup,p.tup b x g,()))/\Wr b t r.recs p) ?_ λy6 h6=>?_
 .refine H (Oo hw.small hm.jst hb.2 hb.1 a.good (ω:r.recs.length<=100000)) λy4 P=>?_;obtain⟨p,e|e,h⟩:=P
  .subst e;exact A ⟨p,rfl,h⟩
  .subst e;exact A ⟨p,rfl,h⟩
 obtain⟨t1,rfl,L⟩:=h6;obtain⟨im,s,bu,e,rfl,L⟩:=L;refine H (Q:=λy=>∃n,y=(((),(),()),(r.tup,((t.wr im s bu e).sRnd r n _).tup b x g,()))/\0<=n/\n<=1000000) (N (λq=>H (Zl hm.ref) λy7 h7=>A ⟨y7.1.1,rfl,h7⟩) λq=>A ⟨t.m.F3,rfl,hm.ref⟩) λy8 h8=>?_;obtain⟨n,rfl,hn⟩:=h8;refine H (Air r ω _) λy9 h9=>?_;subst h9;refine H (Ais r (by show t.out.A0.length<=1000;rw[hr.oc];omega) (by show _=t.out.A0.length;rw[hr.oc];exact D) (by show _=t.out.A0.length;rw[hr.oc];exact E)) λha h0=>?_;obtain⟨l,rfl,hl,hc⟩:=h0;replace hl:l.length=t.out.A0.length:=hl;replace hc:∀j,j<t.out.A0.length->Ahh r j _ _:=hc;rw[hr.oc]at hl hc;refine A ⟨_,vs,rfl,X _ ?_ rfl hl hc rfl⟩;rcases L with⟨rfl,rfl,h1,h2,h3,P,_⟩|⟨rfl,h1,h2,h3⟩
 .rw[a.img]at h1;refine .inl ⟨rfl,?_,⟨hr.leg,hr.sho,hr.rst,hl,λi=>by
   by_cases q:i<b.A0.length
   .show CmdR (l.getD i Af).T1;rw[(hc i q).2.2.2];exact hr.cmd i
   .show CmdR (l.getD i Af).T1;rw[show(l.getD i Af)=Af by rw[g_,List.getElem?_eq_none ω];rfl];rfl⟩,rfl,h3,P,(by show t.budget-_<=bu;omega),rfl⟩
  have:=hm.rnd a D h1 hn
  rw[<-a.img]at this;exact this
 .exact .inr ⟨rfl,ω,h2,h3⟩
end
def Fz(b:Z)(c:Int×Int):Prop:=ML b c=B/\Jw c
section
variable{b:Z}(hb:b.small)(hcode:b.code=0)
include hb hcode
theorem Mo:Fz b c↔Jw c/\∀f:Nat,f<32->∀d:Int,(d=1\/d=2)->Ax c f d=B->Aq b (f:Int) d=B:=by
 unfold Fz ML;rw[Ahf<|Ajg _ _];refine⟨λ⟨h1,a⟩=>⟨a,λf hf d hd q=>?_⟩,λ⟨h1,a⟩=>⟨λf hf d hd=>?_,h1⟩⟩
 .have:=h1 f hf d hd
  rw[OS _ _ hf,Mn hb hcode hf hd,q]at this;simpa using this
 .rw[OS _ _ hf,Mn hb hcode hf hd];cases q:Ax c f d with
  |false=>rfl
  |true=>rw[a f hf d hd q];rfl
theorem Ux:Fz b (0,0):=(Mo hb hcode).2 ⟨Qs,λf _ d _ q=>by rw[Og]at q;cases q⟩
theorem Aub{a:Int×Int}(c:Int×Int)(h1:Fz b a):Fz b<|Dj a c:=by have h1:=(Mo hb hcode).1 h1;refine(Mo hb hcode).2 ⟨Ajg _ _,λf hf d hd q=>?_⟩;rw[OS _ _ hf,b_]at q;exact h1.2 f hf d hd q.1
theorem Axn{F D:Int}(h0:Fz b c)(h:Aq b F D=B):Fz b<|Em c<|HE F D:=by
 obtain⟨h1,p⟩:=Amg hb (e:=Entry.mk F D 0 0 C) h;have h0:=(Mo hb hcode).1 h0;refine(Mo hb hcode).2 ⟨ZQ _ _,λf hf d hd q=>?_⟩;rw[MA,O_,Qc h1 p f hd,r_]at q;rcases q with q|q
 .exact h0.2 f hf d hd q
 .obtain⟨a,w⟩:=Prod.mk.inj q;rw[a,w];exact h
theorem Axm{a:Int×Int}(h1:Fz b a):Fz b<|Em a<|Dz c<|Bj b:=by have h1:=(Mo hb hcode).1 h1;refine(Mo hb hcode).2 ⟨ZQ _ _,λf hf d hd q=>?_⟩;rw[MA,Kr,Mn hb hcode hf hd,O_,b_]at q;exact q.elim (h1.2 f hf d hd) λq=>q.2
end
def NK(st:Int):Int:=bif st==0 then 2 else bif st==1 then 2 else bif st==3 then 1 else 0
structure RelOK(b:Bldg)(r:Relay):Prop where
 st:0<=r.R1/\r.R1<=4
 fl:0<=r.D0/\r.D0<b.C0
 sw:S2 r.H0 r.I2
 mv:r.R1=1->(r.H0=1/\r.D0+1<b.C0)\/(r.H0=2/\0<r.D0)
 ca:Fz b (r.P1,r.D1)
 car:C2 b.C0 r.X0
 dr:r.Y0=NK r.R1
 tm:0<=r.M2/\r.M2<=1000000
 tz:r.M2=0↔r.R1=0
@[reducible] def Ki(r:aM):=(r.R1,r.D0,r.H0,r.I2,r.Y0,r.M2,r.P1,r.D1,r.X0,())
def AF:aM:=aJ 0 0 0 0 0 0 0 0 0
def Ps(n lo hi:Int):EG n lo hi=W ((inR lo hi n,()),()):=by unfold EG inR;cases decide (lo<=n)<;>rfl
def XX(n:Int):LY n=W ((NK n,()),()):=by unfold LY NK;cases n==0<;>cases n==1<;>cases n==3<;>rfl
def CO(a f d o e t u v c s n:Int):NA a f d o e t u v c s n=W (((),()),(Ki<|aJ s f d o (NK s) n u v c,())):=by exact Ae (XX s) rfl
section
variable{b:Z}(hb:b.small)(hcode:b.code=0)
include hb hcode
theorem Od(h:RelOK b r):Ja b.C0 b.F0 b.J0 b.L0 b.I0 b.M0 b.O0 b.A0 r.R1 r.D0 r.H0 r.I2 r.Y0 r.M2 r.P1 r.D1 r.X0=W ((B,()),()):=by
 have lo:=hb.lo;have hi:=hb.hi;have w:aH.wrap _=b.C0-1:=Aa ω ω;have D:=h.fl;refine Sat.eq ?_;have p:∀{n lo hi:Int},lo<=n/\n<=hi->EG n lo hi=W _:=λ{n lo hi} h=>by rw[Ps,Ak.2 h]
 unfold Ja;rw[w];refine J (Az ..)<|Y (by rw[hcode];rfl)<|J (p h.st)<|Y rfl<|J (p ⟨D.1,show r.D0<=b.C0-1 by omega⟩)<|Y rfl ?_;refine J (show Bm r.H0 r.I2=W ((B,()),())by rw[show Bm r.H0 r.I2=W (((inR 0 2 r.H0&&inR 0 7 r.I2),()),())from Ep { Aj with X1:=r.H0,L1:=r.I2 },Ak.2 h.sw.1,Ak.2 h.sw.2];rfl)<|Y rfl ?_;refine H (Q:=λy=>y=(((),(),C,()),(b.tup,Ki r,()))) ?_ λy a=>?_
 .refine N (λq=>?_) λ_=>A rfl;have q:=eq_of_beq q;have hm:=h.mv q;have E:∃n,Hs r.R1 r.D0 r.H0 r.I2 r.Y0 r.M2 r.P1 r.D1 r.X0=W ((n,()),())/\0<=n/\n<=b.C0-1:=by
   rcases hm with⟨e,L⟩|⟨e,L⟩<;>rw[e]
   .exact⟨_,rfl,by rw[Aa ω ω];omega,by rw[Aa ω ω];omega⟩
   .exact⟨_,rfl,by rw[Aa ω ω];omega,by rw[Aa ω ω];omega⟩
  obtain⟨n,e,O⟩:=E;exact Y (Ao ω)<|J e<|J (p O)<|A rfl
 subst a;refine Y rfl ?_;refine H (Q:=λy=>y=(((),B,()),(Ki r,()))) (J (DL hb hcode)<|J (GG (r.P1,r.D1) _)<|I h.ca.1<|I (a_ (ω:_<=b.C0))<|A ?_) λy a=>?_
 .have e:aI (aF b.C0) (IntKind.bits aB)=aF b.C0:=by show min _ 32=_;omega
  show(((),(aQ r.X0 (2^(aI (aF b.C0) _))==0),()),(Ki r,()))=_;rw[e,QM.2 h.car]
 subst a;refine H (Q:=λy=>y=((B,()),())) (I rfl<|J (XX _)<|I (by show(r.Y0==NK r.R1)=B;rw[h.dr];exact q_ _)<|J (p h.tm)<|I rfl<|A ?_) λy a=>by subst a;exact A rfl
 have e:(r.M2==0)=(r.R1==0):=by rw[Bool.eq_iff_iff,I_,I_];exact h.tz
 rw[e,q_]
theorem RelOK.new(h:0<=f/\f<b.C0):RelOK b<|aJ 0 f 0 0 2 0 0 0 0:=⟨show _<=0/\0<=4 by decide,h,S2.zero dir2.zero,λe=>absurd e (show ¬0=1 by decide),Ux hb hcode,C2.zero,rfl,show _<=0/\0<=1000000 by decide,⟨λ_=>rfl,λ_=>rfl⟩⟩
omit hb hcode in
theorem RelOK.begin(hf:0<=r.D0/\r.D0<b.C0)(hs:S2 r.H0 r.I2)(hc:Fz b (r.P1,r.D1))(e:C2 b.C0 r.X0){s:Int}(h:0<=s/\s<=4)(hm:s=1->(r.H0=1/\r.D0+1<b.C0)\/(r.H0=2/\0<r.D0))(p:0<=n/\n<=1000000)(a:n=0↔s=0):RelOK b<|aJ s r.D0 r.H0 r.I2 (NK s) n r.P1 r.D1 r.X0:=⟨h,hf,hs,hm,hc,e,rfl,p,a⟩
omit hcode in
theorem Afi(hf:0<=r.D0/\r.D0<b.C0)(hs:S2 r.H0 r.I2)(hc:Fz b (r.P1,r.D1))(w:C2 b.C0 r.X0)(c1 c2 c3 c4:Int){st E:Int}(h1:1<=st/\st<=10000)(h2:1<=E/\E<=10000)(X c8 c9:Int):R (JT b.C0 c1 c2 c3 c4 st E X c8 c9 r.R1 r.D0 r.H0 r.I2 r.Y0 r.M2 r.P1 r.D1 r.X0) λy=>∃Q,y.2.1=Ki Q/\RelOK b Q:=by
 have lo:=hb.lo;have hi:=hb.hi;obtain⟨y,z,e1,e2,S,D,P⟩:=Asg ⟨ω,hi⟩ hf hs r.X0 r.P1 r.D1;refine J e1<|J e2 ?_;have no:∀{s:Int},s≠1->s=1->(z.1=1/\r.D0+1<b.C0)\/(z.1=2/\0<r.D0):=λh e=>absurd e h;refine N (λq=>J (CO ..)<|A ⟨_,rfl,?_⟩) λq=>N (λa=>J (CO ..)<|A ⟨_,rfl,?_⟩) λa=>N (λp=>J (CO ..)<|A ⟨_,rfl,?_⟩) λp=>J (CO ..)<|A ⟨_,rfl,?_⟩
 .exact RelOK.begin (r:=aJ 0 r.D0 z.1 z.2.1 0 0 r.P1 r.D1 r.X0) hf D hc w τ (no τ) ω ω
 .have q:y.1≠3:=λe=>by have q:=q;rw[e]at q;cases q
  have a:=eq_of_beq a;obtain⟨L,O⟩:=S.1 a;exact RelOK.begin (r:=aJ 0 r.D0 z.1 z.2.1 0 0 r.P1 r.D1 r.X0) hf D hc w τ (λ_=>.inl ⟨(P q).trans L,O⟩) ω ω
 .have q:y.1≠3:=λe=>by have q:=q;rw[e]at q;cases q
  have p:=eq_of_beq p;obtain⟨L,O⟩:=S.2 p;exact RelOK.begin (r:=aJ 0 r.D0 z.1 z.2.1 0 0 r.P1 r.D1 r.X0) hf D hc w τ (λ_=>.inr ⟨(P q).trans L,O⟩) ω ω
 .exact RelOK.begin (r:=aJ 0 r.D0 z.1 z.2.1 0 0 r.P1 r.D1 r.X0) hf D hc w τ (no τ) τ ⟨λ_=>rfl,λ_=>rfl⟩
omit hcode in
theorem Akt(h:RelOK b r){u v c:Int}(hc:Fz b (u,v))(D:C2 b.C0 c)(c1 S P c4:Int){st E w:Int}(h1:1<=st/\st<=10000)(X:1<=E/\E<=10000)(h3:1<=w/\w<=10000)(L O:Int):R (LZ b.C0 c1 S P c4 st E w L O r.R1 r.D0 r.H0 r.I2 r.Y0 r.M2 u v c) λy=>∃a,y.2.1=Ki a/\RelOK b a:=by
 have hi:=hb.hi;have p:=h.fl;have no:∀{s:Int},s≠1->s=1->(r.H0=1/\r.D0+1<b.C0)\/(r.H0=2/\0<r.D0):=λh e=>absurd e h;refine H (Q:=λy=>match y with
  |.inl z=>∃a:aM,z=((b.C0,(),(),(),()),((c1,S,P,c4,st,E,w,L,O,()),Ki a,(0,0,0,0,0,0,0,0,0,()),()))/\(0<=a.D0/\a.D0<b.C0)/\S2 a.H0 a.I2/\Fz b (a.P1,a.D1)/\C2 b.C0 a.X0
  |.inr z=>∃a,z.2.1=Ki a/\RelOK b a) ?_ λy hy=>?_
 .refine N (λ_=>J (CO ..)<|A ⟨_,rfl,?_⟩) λ_=>N (λ_=>J (CO ..)<|A ⟨_,rfl,?_⟩) λ_=>N (λq=>?_) λ_=>A ⟨aJ r.R1 r.D0 r.H0 r.I2 r.Y0 r.M2 u v c,rfl,p,h.sw,hc,D⟩
  .exact RelOK.begin (r:=aJ 0 r.D0 r.H0 r.I2 0 0 u v c) p h.sw hc D τ (no τ) ω ω
  .exact RelOK.begin (r:=aJ 0 r.D0 r.H0 r.I2 0 0 u v c) p h.sw hc D τ (no τ) ω ω
  .have q:=eq_of_beq q;have hm:=h.mv q;have ha:∃n,Hs r.R1 r.D0 r.H0 r.I2 r.Y0 r.M2 u v c=W ((n,()),())/\0<=n/\n<b.C0:=by
    rcases hm with⟨e,X⟩|⟨e,X⟩<;>rw[e]
    .exact⟨_,rfl,by rw[Aa ω ω];omega,by rw[Aa ω ω];omega⟩
    .exact⟨_,rfl,by rw[Aa ω ω];omega,by rw[Aa ω ω];omega⟩
   obtain⟨n,e,hn⟩:=ha;exact J e<|A ⟨aJ r.R1 n r.H0 0 r.Y0 r.M2 u v c,rfl,hn,S2.zero h.sw.1,hc,D⟩
 .cases y with
  |inr z=>obtain⟨a,e,hr⟩:=hy;exact A ⟨a,e,hr⟩
  |inl z=>obtain⟨a,rfl,g1,g2,g3,g4⟩:=hy;exact H (Afi hb g1 g2 g3 g4 c1 S P c4 h1 X w L O) λy6 h6=>A h6
theorem Aks(hi:i<b.A0.length)(h:RelOK b r)(p id pr:Int):R (JS b.C0 b.F0 b.J0 b.L0 b.I0 b.M0 b.O0 b.A0 (i:Int) r.R1 r.D0 r.H0 r.I2 r.Y0 r.M2 r.P1 r.D1 r.X0 p id pr) λy=>∃a,y.2.1=Ki a/\RelOK b a:=by
 have lo:=hb.lo;have w:=hb.hi;have h0:=h.tm;have S:=h.tz;have hc:=Ij hcode (c:=b.A0.getD i Ag) (by rw[g_,h_ hi];exact R_ hi);unfold BQ at hc;simp only[b_,T_,Ak]at hc;obtain⟨⟨_,_,_,t1,P,X,_⟩,_⟩:=hc;refine J (Od hb hcode h)<|Y rfl<|Y (c_ ω)<|Y (c_ ω) ?_;refine J (DL hb hcode)<|J (ED (p,id) _)<|J (DZ (r.P1,r.D1) _)<|I (a_ ω) ?_;have D:Fz b<|Em _<|Dz (p,id) _:=Axm hb hcode h.ca;have E:=h.car.or<|C2.and (x:=pr)<|C2.all ⟨ω,w⟩;generalize Em _ _=uc at D;refine H (Q:=λy=>∃a,y.2.1=Ki a/\RelOK b a) (N (λq=>A ⟨aJ r.R1 r.D0 r.H0 r.I2 r.Y0 _ uc.1 uc.2 _,rfl,?_⟩) λ_=>I (U ω ω) ?_) ?_
 .have q:=k_ q;refine⟨h.st,h.fl,h.sw,h.mv,D,E,h.dr,?_,?_⟩
  .show 0<=aH.wrap _/\aH.wrap _<=1000000;rw[Aa ω ω];omega
  .show aH.wrap _=0↔r.R1=0;rw[Aa ω ω];omega
 .exact H (Akt hb h D E _ _ _ _ t1 P X _ _) λy8 L=>A L
 rintro⟨y1,O,y3⟩ ⟨a,e,hr⟩;change O=_ at e;subst e;refine N (λq=>I (a_ hr.fl.1)<|J (FU a.D0 a.H0)<|J (GG (a.P1,a.D1) _)<|A ⟨aJ a.R1 a.D0 a.H0 a.I2 a.Y0 a.M2 _ _ _,rfl,?_⟩) λ_=>A ⟨a,rfl,hr⟩;exact⟨hr.st,hr.fl,hr.sw,hr.mv,Aub hb hcode _ hr.ca,hr.car.andNot,hr.dr,hr.tm,hr.tz⟩
end
section
variable{b:Z}(hb:b.small)(hcode:b.code=0){i:Nat}(hi:i<b.A0.length){r:Rig}(hr:RigOK b.C0 r){x:NewCar}(k:Bool)(c:Int)
def CtQ(b:Z)(i:Nat)(r:Rig)(k:Bool)(t:Ve):Prop:=∃x' a,t=GH b (i:Int) x' r.D0 (r.Y1==0) r.Y0 k a/\x'.K2=C/\CmdQ b.C0 (b.A0.getD i Ag).B1 (b.A0.getD i Ag).V1 x' r a
include hi in
theorem YG(l:Bool)(f d:Int):Bo (newcar_control.mk b.C0 b.F0 b.J0 b.L0 b.I0 b.M0 b.O0 b.A0 (i:Int) x.X1 x.L1 x.U0 x.I1 x.J1 x.N1 x.G1 x.N0 x.W0 x.S0 x.N2 x.D3 x.O3 x.K2 f l d k c)=W (((),()),(((b.A0.getD i Ag).K1,(b.A0.getD i Ag).N3,(b.A0.getD i Ag).T3,(b.A0.getD i Ag).B3,(b.A0.getD i Ag).V1,(b.A0.getD i Ag).B1,(b.A0.getD i Ag).F1,(b.A0.getD i Ag).P3,(b.A0.getD i Ag).H4,()),())):=by
 unfold Bo
 have:aA (i:Int) b.A0.length=B:=U ω ω
 show(bif aA (i:Int) b.A0.length then _ else none)=_;rw[this];rfl
include hb hcode hi in
theorem Ad6:(1<=(b.A0.getD i Ag).B1/\(b.A0.getD i Ag).B1<=10000)/\(1<=(b.A0.getD i Ag).V1/\(b.A0.getD i Ag).V1<=10000):=by have hc:=Ij hcode (c:=b.A0.getD i Ag) (by rw[g_,h_ hi];exact R_ hi);unfold BQ at hc;simp only[b_,T_,f7_,Ak]at hc;obtain⟨⟨_,_,_,a,e,p,_⟩,_⟩:=hc;exact⟨e,a⟩
include hb hcode hi hr
theorem Ase:r.Y0=0->1<=r.G3:=λe=>by have:=hr.dr;omega
theorem Be5(L:D5 x.U0 x.I1 x.J1 x.N1 x.G1)(E:Qt (b.A0.getD i Ag).B1 x.U0 x.I1 r.Y0 r.Z3 r.G3)(hm:Mz x)(h0:r.Y1=0)(p:x.K2=C):R (Di b.C0 b.F0 b.J0 b.L0 b.I0 b.M0 b.O0 b.A0 (i:Int) x.X1 x.L1 x.U0 x.I1 x.J1 x.N1 x.G1 x.N0 x.W0 x.S0 x.N2 x.D3 x.O3 x.K2 r.D0 (r.Y1==0) r.Y0 k c) λy=>CtQ b i r k y.2.1:=by
 obtain⟨P,S⟩:=Ad6 hb hcode hi;unfold Di;refine J (YG hi k c _ _ _) (H (Axa _ _ _ _ _ _ _ _ L E (Ase hb hcode hi hr) P k C) λa hd=>?_);refine H (Q:=λy=>CtQ b i r k y.2.1) ?_ ?_
 .refine N (λ_=>I (a_ hr.f.1)<|A ⟨{ x with U0:=a.2.1.1,I1:=a.2.1.2.1,J1:=a.2.1.2.2.1,N1:=a.2.1.2.2.2.1,G1:=a.2.1.2.2.2.2.1,N2:=_ },_,rfl,p,.inl ⟨hm,h0,hd⟩⟩) λ_=>?_;refine N (λ_=>A ⟨{ x with U0:=a.2.1.1,I1:=a.2.1.2.1,J1:=a.2.1.2.2.1,N1:=a.2.1.2.2.2.1,G1:=a.2.1.2.2.2.2.1,D3:=0 },_,rfl,p,.inl ⟨hm,h0,hd⟩⟩) λ_=>?_;exact A ⟨{ x with U0:=a.2.1.1,I1:=a.2.1.2.1,J1:=a.2.1.2.2.1,N1:=a.2.1.2.2.2.1,G1:=a.2.1.2.2.2.2.1 },_,rfl,p,.inl ⟨hm,h0,hd⟩⟩
 rintro⟨u,t,w⟩ ⟨x',O,e,h1,D⟩;change t=_ at e;subst e;exact A ⟨{ x' with O3:=0 },O,rfl,h1,D⟩
theorem Bku(hm:Mz x)(h0:r.Y1=0)(hs:x.U0=0)(hd:r.Y0=2)(a:x.K2=C)(w:Int):R (AK w b.C0 b.F0 b.J0 b.L0 b.I0 b.M0 b.O0 b.A0 (i:Int) x.X1 x.L1 x.U0 x.I1 x.J1 x.N1 x.G1 x.N0 x.W0 x.S0 x.N2 x.D3 x.O3 x.K2 r.D0 (r.Y1==0) r.Y0 k c) λy=>CtQ b i r k y.2.1:=by
 have p:(r.Y1==0)=B:=by rw[h0];rfl
 unfold AK;have e:M3 b.C0 x.N0 x.W0 x.S0:=by rw[hm.1,hm.2.1,hm.2.2];exact M3.zero
 refine H (An9 ⟨hb.lo,hb.hi⟩ e hr.f (r.Y1==0) r.Y0 k w) λy D=>?_;rcases D.2 hm.1 p with rfl|⟨hw,rfl⟩
 .exact A ⟨{ x with N0:=0,W0:=0,S0:=0 },0,rfl,a,.inl ⟨⟨rfl,rfl,rfl⟩,h0,.inl ⟨hs,rfl,hd⟩⟩⟩
 .exact A ⟨{ x with N0:=w,W0:=0,S0:=r.D0 },w,rfl,a,.inr ⟨hs,hd,rfl,ω,.inl ⟨h0,rfl,rfl,hw⟩⟩⟩
def Bgn(b:Z)(i:Nat)(r:Rig)(k:Bool)(s:(Unit×(Ve×Unit))⊕(Unit×(Ve×Unit))):Prop:=match s with
 |.inl y=>CtQ b i r k y.2.1
 |.inr y=>CtQ b i r k y.2.1
theorem Ba2(O hd:Int)(P:D5 x.U0 x.I1 x.J1 x.N1 x.G1)(hm:Mz x)(h0:r.Y1=0)(hs:x.U0=0)(e:r.Y0=2)(E:x.K2=C):R (CQ O hd b.C0 b.F0 b.J0 b.L0 b.I0 b.M0 b.O0 b.A0 (i:Int) x.X1 x.L1 x.U0 x.I1 x.J1 x.N1 x.G1 x.N0 x.W0 x.S0 x.N2 x.D3 x.O3 x.K2 r.D0 (r.Y1==0) r.Y0 k c)<|Bgn b i r k:=by
 obtain⟨S,X⟩:=Ad6 hb hcode hi;unfold CQ;refine H (Alq ..) λL _=>H (Als ..) λa _=>?_;refine N (λ_=>?_) λ_=>?_
 .refine J (YG hi (x:={ x with X1:=a.2.1.1,L1:=a.2.1.2.1,D3:=L.2.1.2.2.1,O3:=0 }) k c _ _ _) (H (Axa (ra:=r.Z3) _ _ _ _ _ _ _ _ P (.inl ⟨hs,e⟩) (Ase hb hcode hi hr) S k B) λp hd=>A ?_);exact⟨{ x with X1:=a.2.1.1,L1:=a.2.1.2.1,D3:=L.2.1.2.2.1,O3:=0,U0:=p.2.1.1,I1:=p.2.1.2.1,J1:=p.2.1.2.2.1,N1:=p.2.1.2.2.2.1,G1:=p.2.1.2.2.2.2.1 },_,rfl,E,.inl ⟨hm,h0,hd⟩⟩
 have st:∀(w D:Int),R (AK w b.C0 b.F0 b.J0 b.L0 b.I0 b.M0 b.O0 b.A0 (i:Int) a.2.1.1 a.2.1.2.1 x.U0 x.I1 x.J1 x.N1 x.G1 x.N0 x.W0 x.S0 x.N2 x.D3 D x.K2 r.D0 (r.Y1==0) r.Y0 k c) λy=>CtQ b i r k y.2.1:=λw D=>Bku hb hcode hi hr (x:={ x with X1:=a.2.1.1,L1:=a.2.1.2.1,O3:=D }) k c hm h0 hs e E w;refine N (λ_=>H (st _ _) λ_ h=>A h) λ_=>N (λ_=>H (st _ _) λ_ h=>A h) λ_=>?_;have Q:Au b.C0 b.F0 b.J0 b.L0 b.I0 b.M0 b.O0 b.A0=W ((b.code,()),()):=Az ..;refine H (Abq hcode Q ..) λy7 _=>N (λ_=>H (st _ _) λ_ h=>A h) λ_=>A ?_;exact⟨{ x with X1:=a.2.1.1,L1:=a.2.1.2.1,O3:=up1 x.O3 },0,rfl,E,.inl ⟨hm,h0,.inl ⟨hs,rfl,e⟩⟩⟩
theorem Bc6(hM:M3 b.C0 x.N0 x.W0 x.S0)(hI:RigI (b.A0.getD i Ag).B1 (b.A0.getD i Ag).V1 x r)(hs:x.U0=0)(hn:x.K2=C):R (CR b.C0 b.F0 b.J0 b.L0 b.I0 b.M0 b.O0 b.A0 (i:Int) x.X1 x.L1 x.U0 x.I1 x.J1 x.N1 x.G1 x.N0 x.W0 x.S0 x.N2 x.D3 x.O3 x.K2 r.D0 (r.Y1==0) r.Y0 k c) λy=>
  (y.1.1=B/\r.Y1=0/\∃c',y.2.1=GH b (i:Int) { x with N0:=0,W0:=0,S0:=0 } r.D0 (r.Y1==0) r.Y0 k c')\/(y.1.1=C/\CtQ b i r k y.2.1):=by
 obtain⟨t1,t2⟩:=Ad6 hb hcode hi;have L:r.Y0=2:=by rcases hI.dr with h|h|h|h<;>omega
 unfold CR;rcases hI.mt with⟨hm,h0⟩|⟨m1,m2,m3,m4,m5,P⟩
 .have l1:(r.Y1==0)=B:=by rw[h0];rfl
  refine H (Q:=λy=>y=(((),(r.Y1==0),()),(GH b (i:Int) x r.D0 (r.Y1==0) r.Y0 k c,()))) (I ((Xq x).2 hm)<|A rfl) λy a=>?_;subst a;refine I l1<|A<|.inl ⟨rfl,h0,c,?_⟩;show GH b (i:Int) x r.D0 (r.Y1==0) r.Y0 k c=_;rw[show { x with N0:=0,W0:=0,S0:=0 }=x by cases x;obtain⟨E,e2,e3⟩:=hm;simp only at E e2 e3;subst E e2 e3;rfl]
 .have nz:Ac2 x=C:=by
   cases h:Ac2 x with
   |false=>rfl
   |true=>have:=((Xq x).1 h).1;omega
  refine H (Q:=λy=>y=(((),C,()),(GH b (i:Int) x r.D0 (r.Y1==0) r.Y0 k c,()))) (Y nz<|A rfl) λy a=>?_;subst a;refine Y rfl ?_;have p:x.N0≠0:=ω;have lt:(r.Y1==0)=B↔r.Y1=0:=I_;have O:R (AK 0 b.C0 b.F0 b.J0 b.L0 b.I0 b.M0 b.O0 b.A0 (i:Int) x.X1 x.L1 x.U0 x.I1 x.J1 x.N1 x.G1 x.N0 x.W0 x.S0 x.N2 x.D3 x.O3 x.K2 r.D0 (r.Y1==0) r.Y0 k c) λy=>
    (r.Y1=0/\y=((B,()),(GH b (i:Int) { x with N0:=0,W0:=0,S0:=0 } r.D0 (r.Y1==0) r.Y0 k 0,())))\/(r.Y1≠0/\y=((C,()),(GH b (i:Int) { x with W0:=up1 x.W0 } r.D0 (r.Y1==0) r.Y0 k x.N0,()))):=by
   unfold AK;refine H (An9 ⟨hb.lo,hb.hi⟩ hM hr.f (r.Y1==0) r.Y0 k 0) λy a=>?_;rcases a.1 p with⟨S,_,rfl⟩|⟨S,rfl⟩
   .exact A<|.inl ⟨lt.1 S,rfl⟩
   .refine A<|.inr ⟨λz=>S ⟨lt.2 z,?_⟩,rfl⟩;rw[<-m2];exact Decidable.byContradiction λe=>by have:=(hr.ne e).1;omega
  have X:(x.N0 !=0)=B:=FT p;refine H (Q:=λy=>(r.Y1=0/\y=(((),B,B,()),(GH b (i:Int) { x with N0:=0,W0:=0,S0:=0 } r.D0 (r.Y1==0) r.Y0 k 0,())))\/(r.Y1≠0/\y=(((),B,C,()),(GH b (i:Int) { x with W0:=up1 x.W0 } r.D0 (r.Y1==0) r.Y0 k x.N0,())))) (H O λy a=>?_) λy a=>?_
  .rcases a with⟨z,rfl⟩|⟨z,rfl⟩
   .refine I rfl<|A<|.inl ⟨z,?_⟩;show(((),(x.N0 !=0),B,()),_)=_;rw[X]
   .refine Y rfl<|Y ?_<|A<|.inr ⟨z,?_⟩
    .show(!(x.N0 !=0))=C;rw[X];rfl
    .show(((),(x.N0 !=0),C,()),_)=_;rw[X]
  .rcases a with⟨z,rfl⟩|⟨z,rfl⟩
   .exact I rfl<|A<|.inl ⟨rfl,z,0,rfl⟩
   .have P:=P.resolve_left λq=>z q.1;have hL:1<=r.Y1:=by
     by_cases e:r.D0=r.R2
     .exact absurd (hr.eq e) z
     .exact(hr.ne e).1
    have E:up1 x.W0=x.W0+1:=Af5 ω;have D:∀n:Int,CtQ b i r k<|GH b (i:Int) { x with W0:=up1 x.W0,O3:=n } r.D0 (r.Y1==0) r.Y0 k x.N0:=λn=>⟨_,_,rfl,hn,.inr ⟨hs,L,rfl,m1,.inr ⟨z,P.1,m2,by show 0<=up1 _;omega,by show up1 _+_<=_;omega⟩⟩⟩
    refine Y rfl<|H (Q:=λy=>y.2.1=GH b (i:Int) { x with W0:=up1 x.W0 } r.D0 (r.Y1==0) r.Y0 k x.N0) (N (λ_=>A rfl) λ_=>A rfl) ?_;rintro⟨u,t,w⟩ e;change t=_ at e;subst e;exact N (λ_=>A<|.inr ⟨rfl,D 0⟩) λ_=>A<|.inr ⟨rfl,D x.O3⟩
theorem Blz(p hu hd:Int)(h:Sy b.C0 x)(P:RigI (b.A0.getD i Ag).B1 (b.A0.getD i Ag).V1 x r):R (DH p hu hd b.C0 b.F0 b.J0 b.L0 b.I0 b.M0 b.O0 b.A0 (i:Int) x.X1 x.L1 x.U0 x.I1 x.J1 x.N1 x.G1 x.N0 x.W0 x.S0 x.N2 x.D3 x.O3 x.K2 r.D0 (r.Y1==0) r.Y0 k c)<|Bgn b i r k:=by
 have hn:=h.1.nf;unfold DH;refine H (Abg hb hr.f (r.Y1==0) r.Y0 k c p h.1) ?_;rintro⟨u,t,w⟩ ⟨n,e,_⟩;change t=_ at e;subst e;refine H (Q:=λy=>y.2.1=(hu,hd,())/\((y.1.2.2.1=B/\CtQ b i r k y.2.2.1)\/(y.1.2.2.1=C/\r.Y1=0/\∃x' D,y.2.2.1=GH b (i:Int) x' r.D0 (r.Y1==0) r.Y0 k D/\Mz x'/\x'.K2=C/\D5 x'.U0 x'.I1 x'.J1 x'.N1 x'.G1/\Qt (b.A0.getD i Ag).B1 x'.U0 x'.I1 r.Y0 r.Z3 r.G3))) ?_ ?_
 .refine N (λq=>?_) λq=>?_
  .have q:x.U0=0:=eq_of_beq q;refine H (Bc6 hb hcode hi hr (x:={ x with N2:=n }) k c h.1.mt ⟨P.dr,P.mt⟩ q hn) ?_;rintro⟨⟨u2,h5⟩,t2,w2⟩ h2;rcases h2 with⟨a,L,D,e3⟩|⟨a,L⟩
   .change u2=_ at a;change t2=_ at e3;subst a e3;exact A ⟨rfl,.inr ⟨rfl,L,_,_,rfl,⟨rfl,rfl,rfl⟩,hn,h.1.dr,P.dr⟩⟩
   .change u2=_ at a;subst a;exact A ⟨rfl,.inl ⟨rfl,L⟩⟩
  .have q:x.U0≠0:=λe=>by have q:(x.U0==0)=C:=q;rw[e]at q;cases q
   have hm:=h.2.resolve_left q;have hL:r.Y1=0:=by
    rcases P.mt with m|m
    .exact m.2
    .exact absurd m.2.2.2.1 q
   exact A ⟨rfl,.inr ⟨rfl,hL,_,_,rfl,hm,hn,h.1.dr,P.dr⟩⟩
 rintro⟨⟨u3,h9,S,h8⟩,t3,h1,w3⟩ ⟨e,h3⟩;change t3=_ at e;subst e;rcases h3 with⟨a,h3⟩|⟨a,hL,x',D,L,hm,O,hD,E⟩
 .change S=_ at a;subst a;exact I rfl<|A h3
 change S=_ at a;change h1=_ at L;subst a L;refine Y rfl ?_;refine H (Q:=λy=>y.2.1=(hu,hd,())/\y.2.2.1=GH b (i:Int) x' r.D0 (r.Y1==0) r.Y0 k D) ?_ ?_
 .refine H (Q:=λy=>y.2.1=(hu,hd,())/\y.2.2.1=GH b (i:Int) x' r.D0 (r.Y1==0) r.Y0 k D/\y.1.2.2.1=C) (N (λq=>A ⟨rfl,rfl,?_⟩) λ_=>A ⟨rfl,rfl,rfl⟩) ?_
  .have q:x'.U0=0:=eq_of_beq q
   have:r.Y0=2:=by rcases E with h|h|h|h<;>omega
   show(r.Y0 !=2)=C;rw[this];rfl
  rintro⟨⟨v1,h4,h0,ha⟩,v2,v3,v4⟩ ⟨X,g2,g3⟩;change v2=_ at X;change v3=_ at g2;change h0=_ at g3;subst X g2 g3;exact Y rfl<|A ⟨rfl,rfl⟩
 rintro⟨v1,v2,v3,v4⟩ ⟨X,g2⟩;change v2=_ at X;change v3=_ at g2;subst X g2;refine N (λ_=>H (Be5 hb hcode hi hr k D hD E hm hL O) λy6 h6=>A h6) λq=>?_;have q:x'.U0=0:=by simpa using q
 have:r.Y0=2:=by rcases E with h|h|h|h<;>omega
 refine H (Q:=λ(y:Unit×(Ve×Unit))=>CtQ b i r k y.2.1) ?_ λ_ h=>A h;refine H (Ba2 hb hcode hi hr k D _ _ hD hm hL q this O) λy7 h7=>?_;cases y7 with
 |inl _=>exact A h7
 |inr _=>exact A h7
theorem Bb1(p L hd:Int)(hx:GP b x=B)(hf:x.K2=C)(X:RigI (b.A0.getD i Ag).B1 (b.A0.getD i Ag).V1 x r):R (Lb b.C0 b.F0 b.J0 b.L0 b.I0 b.M0 b.O0 b.A0 (i:Int) x.X1 x.L1 x.U0 x.I1 x.J1 x.N1 x.G1 x.N0 x.W0 x.S0 x.N2 x.D3 x.O3 x.K2 r.D0 (r.Y1==0) r.Y0 k p L hd) λy=>∃x',y.2.1=YB x'/\x'.K2=C/\CmdQ b.C0 (b.A0.getD i Ag).B1 (b.A0.getD i Ag).V1 x' r y.1.2.1:=by
 obtain⟨t1,P⟩:=Ad6 hb hcode hi;have D:=(SK hb hf).1 hx;unfold Lb;refine J (Acv hb hcode (i:Int) x)<|Y ?_ ?_
 .show(!(GP b x&&(aR (0<=(i:Int))&&decide ((i:Int)<(b.A0.length:Int)))))=C;rw[hx,a_ ω,a_ ω];rfl
 refine H (Q:=λy=>y.1.1=B) ?_ λy2 S=>?_
 .unfold Iu;have hf:=hr.f;have hd:=hr.dr;exact H (Q:=λy=>y.1.1=B) (I (a_ ω)<|I (a_ ω)<|I (a_ ω)<|A<|a_ ω) λ_ h=>A h
 refine Y (by rw[S];rfl)<|Y hf ?_;refine H (Q:=λ(y:(Unit×Unit×Unit×Unit)×(Agi×Agi×Ve×Unit))=>CtQ b i r k y.2.2.2.1) (H (Blz hb hcode hi hr k 0 p L hd D X) λy3 O=>?_) ?_
 .cases y3 with
  |inl _=>exact A O
  |inr _=>exact A O
 rintro⟨u,v,w,t,z⟩ ⟨x',a,e,hn,hq⟩;change t=_ at e;subst e;refine J (YG hi (x:=x') k a _ _ _) ?_;obtain⟨E,q2⟩:=hq.quiet hr t1.1 P.1;have hw:Gv (b.A0.getD i Ag).K1 (b.A0.getD i Ag).N3 (b.A0.getD i Ag).T3 (b.A0.getD i Ag).B3 (b.A0.getD i Ag).V1 (b.A0.getD i Ag).B1 (b.A0.getD i Ag).F1 (b.A0.getD i Ag).P3 (b.A0.getD i Ag).H4 x'.X1 x'.L1 x'.U0 x'.I1 x'.J1 x'.N1 x'.G1 x'.N0 x'.W0 x'.S0 x'.N2 x'.D3 x'.O3 x'.K2 a=W (((),a,()),(YB x',())):=by refine Sat.eq ?_;unfold Gv;refine H (Q:=λy=>y.1.1=C) ?_ λy D=>Y D<|J rfl<|Y (c_ (by show ¬(b.A0.getD i Ag).V1<x'.W0;omega))<|A rfl;unfold MW;exact H (Q:=λy=>y.1.1=C) (N (λq=>A<|c_ (by have:=E<|.inl<|eq_of_beq q;omega)) λ_=>N (λq=>A<|c_ (by have:=E<|.inr<|eq_of_beq q;omega)) λ_=>A rfl) λ_ h=>A h
 exact J hw<|A ⟨x',rfl,hn,hq⟩
end
def Dm(o d:Nat):Bool:=(o>>>d)%2==1
def shV(f:Nat)(c a:Bool)(s:Nat)(o b:Bool):Nat:=bif c||a then f else bif o||b then s else 0
def Ael(c u d a b:Bool):Nat×Nat:=bif c||d then(3,shV 2 d b 1 u a)else bif b then(2,2)else bif u then(3,1)else bif a then(1,1)else(0,0)
def Au4(c u d a b:Bool):Nat×Nat:=bif c||u then(3,shV 1 u a 2 d b)else bif a then(1,1)else Ael c u d a b
def Au2(c u d a b n:Bool):Nat×Nat:=
 let m:=bif a&&(!b||n)then 1 else bif b then 2 else 0
 bif u then(3,1)else bif d then(3,2)else bif c then(3,m)else(m,m)
def Aas(dir:Nat)(c u d a b n:Bool):Nat×Nat:=bif dir==0 then Au2 c u d a b n else bif dir==1 then Au4 c u d a b else Ael c u d a b
def chV(dir o:Nat)(c u d a b n:Bool):Nat×Nat×Nat:=
 let p:=c&&(o==0)
 let e:=u&&!(Dm o 1)
 let w:=d&&!(Dm o 2)
 let r:=p||e||w||a||b
 let x:=bif r then Aas dir p e w a b n else Aas dir c u d a b n
 (x.1,x.2,bif x.1==3 then(bif r then o else 0)|||(1<<<x.2)else 0)
def gV(r d dir:Nat)(sp:Bool):Nat:=bif r==1&&sp||dir==0 then 2 else bif r==0 then dir-1 else bif r==2 then 2-dir else bif dir==d then 0 else 1
def upV(r d dir:Nat)(sp:Bool):Bool:=r==0||bif r==2 then dir !=2 else sp||dir==0||(d==2&&dir==1)
def dnV(r d dir:Nat)(sp:Bool):Bool:=r==2||bif r==0 then dir !=1 else sp||dir==0||(d==1&&dir==2)
def qV(r o d:Nat):Nat:=bif r==1 then(bif Dm o d then(bif Dm o (3-d)then 1 else 2)else(bif Dm o (3-d)then 0 else 1))else(bif Dm o 1 then 0 else 1)+(bif Dm o 2 then 0 else 1)
def okV(r d dir o:Nat)(a b:Bool)(y:Nat×Nat×Nat):Bool:=
 bif y.1==3 then decide (y.2.1<3)&&decide (y.2.2<8)&&Dm y.2.2 y.2.1&&((r==1&&y.2.1==d)||(aR (gV r d y.2.1 (Dm y.2.2 d)<=gV r d dir (Dm o d))&&decide (qV r y.2.2 d<qV r o d)&&y.2.1 !=0))else
 bif y.1==1 then y==(1,1,0)&&a&&upV r d dir (Dm o d)else y==(2,2,0)&&b&&dnV r d dir (Dm o d)
def ok_all:∀(r dir:Fin 3) (o:Fin 8) (d c u w a b n:Bool),(bif r.val==0 then a else bif r.val==2 then b else bif d then w else u)=B->
  okV r.val (bif d then 2 else 1) dir.val o.val a b (chV dir.val o.val c u w a b n)=B:=by decide
def kV(F x f d dir:Nat)(sp:Bool):Nat:=
 if(x=f/\sp=B)\/dir=0 then 2*F else
 if dir=1 then(if d=1 then(if x<=f then f-x else 2*F+f-x)else 2*F-1-f-x)
 else(if d=2 then(if f<=x then x-f else 2*F+x-f)else x+f+1)
def rV(x f:Nat):Nat:=if x<f then 0 else if x=f then 1 else 2
section
variable{F x f d:Nat}(hx:x<F)(hf:f<F)(hd:d=1\/d=2)
include hx hf
theorem Bmf(dir:Nat)(sp:Bool):kV F x f d dir sp<=2*F:=by
 unfold kV;repeat' split
 all_goals omega
include hd
theorem g_k{p:Nat}(hp:p<3)(hq:q<3){s t:Bool}(h:gV (rV x f) d p s<=gV (rV x f) d q t):kV F x f d p s<=kV F x f d q t:=by
 have hp:p=0\/p=1\/p=2:=ω;have hq:q=0\/q=1\/q=2:=ω;unfold kV gV rV at*;rcases bD x f with e|e|e
 .have a:¬x=f:=ω;rcases hd with rfl|rfl<;>rcases hp with rfl|rfl|rfl<;>rcases hq with rfl|rfl|rfl<;>simp[e,a]at h|- <;>(repeat' split)<;>omega
 .subst e;rcases hd with rfl|rfl<;>rcases hp with rfl|rfl|rfl<;>rcases hq with rfl|rfl|rfl<;>cases s<;>cases t<;>simp at h|- <;>omega
 .have a:¬x=f:=ω;have w:¬x<f:=ω;rcases hd with rfl|rfl<;>rcases hp with rfl|rfl|rfl<;>rcases hq with rfl|rfl|rfl<;>simp[a,w]at h|- <;>(repeat' split)<;>omega
theorem Bsz(hq:q<3){t:Bool}(h:upV (rV x f) d q t=B)(h1:x+1<F):kV F (x+1) f d 1 C<kV F x f d q t:=by
 have hq:q=0\/q=1\/q=2:=ω;unfold kV upV rV at*;rcases bD x f with e|e|e
 .have a:¬x=f:=ω;rcases hd with rfl|rfl<;>rcases hq with rfl|rfl|rfl<;>simp[e,a]at h|- <;>(repeat' split)<;>omega
 .subst e;rcases hd with rfl|rfl<;>rcases hq with rfl|rfl|rfl<;>cases t<;>simp at h|- <;>(repeat' split)<;>omega
 .have a:¬x=f:=ω;have p:¬x<f:=ω;rcases hd with rfl|rfl<;>rcases hq with rfl|rfl|rfl<;>simp[a,p]at h|- <;>(repeat' split)<;>omega
theorem Bse(hq:q<3){t:Bool}(h:dnV (rV x f) d q t=B)(h1:0<x):kV F (x-1) f d 2 C<kV F x f d q t:=by
 have hq:q=0\/q=1\/q=2:=ω;unfold kV dnV rV at*;rcases bD x f with e|e|e
 .have a:¬x=f:=ω;rcases hd with rfl|rfl<;>rcases hq with rfl|rfl|rfl<;>simp[e,a]at h|- <;>(repeat' split)<;>omega
 .subst e;rcases hd with rfl|rfl<;>rcases hq with rfl|rfl|rfl<;>cases t<;>simp at h|- <;>(repeat' split)<;>omega
 .have a:¬x=f:=ω;have p:¬x<f:=ω;rcases hd with rfl|rfl<;>rcases hq with rfl|rfl|rfl<;>simp[a,p]at h|- <;>(repeat' split)<;>omega
end
def wV(c s t k q:Nat):Nat:=k*(2*c+s)+q*c+t
def Bk0{c s t k' a:Nat}(h:k'<=k)(h':a<q):c+wV c s t k' a<=wV c s t k q:=by
 have:=w_ (2*c+s) h
 have:=w_ c h'
 rw[Nat.succ_mul]at this;unfold wV;omega
def Azg{c s t k' a:Nat}(h:k'<k)(h':a<=2):s+wV c s t k' a<=wV c s t k q:=by
 have h1:=w_ (2*c+s) h
 have:=w_ c h'
 rw[Nat.succ_mul]at h1;unfold wV;omega
def Auu(r o d:Nat):qV r o d<=2:=by unfold qV;cases r==1<;>cases Dm o d<;>cases Dm o (3-d)<;>cases Dm o 1<;>cases Dm o 2<;>decide
def Be1{F x f d dir o:Nat}(hx:x<F)(hf:f<F)(hd:d=1\/d=2)(D:dir<3)(ho:o<8){c u w a b n:Bool}
  (h1:f=x->d=1->u=B) (X:f=x->d=2->w=B) (h3:x<f->a=B) (h4:f<x->b=B) (P:a=B->x+1<F) (Q:b=B->0<x)
  {y:Nat×Nat×Nat}(hy:chV dir o c u w a b n=y) :
  (y.1=3/\y.2.1<3/\y.2.2<8/\Dm y.2.2 y.2.1=B/\((x=f/\y.2.1=d)\/(kV F x f d y.2.1 (Dm y.2.2 d)<=kV F x f d dir (Dm o d)/\qV (rV x f) y.2.2 d<qV (rV x f) o d/\y.2.1≠0)))\/
  (y=(1,1,0)/\x+1<F/\kV F (x+1) f d 1 C<kV F x f d dir (Dm o d))\/
  (y=(2,2,0)/\0<x/\kV F (x-1) f d 2 C<kV F x f d dir (Dm o d)):=by
 have hr:rV x f<3:=by
  unfold rV
  repeat' split
  all_goals decide
 have p:=ok_all ⟨rV x f,hr⟩ ⟨dir,D⟩ ⟨o,ho⟩ (d==2) c u w a b n (by
  show(bif rV x f==0 then a else bif rV x f==2 then b else bif d==2 then w else u)=B;unfold rV;rcases bD x f with e|e|e
  .rw[if_pos e];exact h3 e
  .rw[if_neg ω,if_pos e];rcases hd with rfl|rfl
   .exact h1 e.symm rfl
   .exact X e.symm rfl
  .rw[if_neg ω,if_neg ω];exact h4 e)
 have p:okV (rV x f) (bif d==2 then 2 else 1) dir o a b (chV dir o c u w a b n)=B:=p;rw[hy,show(bif d==2 then 2 else 1)=d by rcases hd with rfl|rfl<;>rfl]at p;unfold okV at p;by_cases z:y.1=3
 .rw[z]at p;simp only[q_,i_,b_,O_,r_,I_,bne_iff_ne]at p;obtain⟨⟨⟨k1,E⟩,L⟩,k4⟩:=p;refine .inl ⟨z,k1,E,L,?_⟩;rcases k4 with⟨k4,O⟩|⟨⟨k4,O⟩,S⟩
  .refine .inl ⟨?_,O⟩;unfold rV at k4;by_cases e:x=f
   .exact e
   .rw[if_neg e]at k4;split at k4<;>omega
  .exact .inr ⟨g_k hx hf hd k1 D k4,O,S⟩
 .rw[show(y.1==3)=C by rwa [beq_eq_false_iff_ne],j_]at p;by_cases z1:y.1=1
  .rw[z1]at p;simp only[q_,i_,b_,I_]at p;obtain⟨⟨k1,E⟩,L⟩:=p;exact .inr<|.inl ⟨k1,P E,Bsz hx hf hd D L<|P E⟩
  .rw[show(y.1==1)=C by rwa [beq_eq_false_iff_ne],j_]at p;simp only[b_,I_]at p;obtain⟨⟨k1,E⟩,L⟩:=p;exact .inr<|.inr ⟨k1,Q E,Bse hx hf hd D L<|Q E⟩
@[reducible] def chI(y:Nat×Nat):Int×Int×Int×Unit:=((y.1:Int),(y.2:Int),(bif y.1==3 then(y.2:Int)else 0),())
def Aiv(c u d:Bool)(a e o:Int):Cj c u d a e o=W (((),()),(chI<|Ael c u d (aR<|0<a)<|aR<|0<e,())):=by unfold Cj Fu BL;cases c<;>cases u<;>cases d<;>by_cases h1:0<a<;>by_cases p:0<e<;>simp[h1,p,Ael,shV,chI]
def Bcl(c u d:Bool)(a e o:Int):Dt c u d a e o=W (((),()),(chI<|Au4 c u d (aR<|0<a)<|aR<|0<e,())):=by unfold Dt Fu BL Au4;simp only[Aiv];cases c<;>cases u<;>cases d<;>by_cases h1:0<a<;>by_cases p:0<e<;>simp[h1,p,shV,chI,Ael]
def Ay0(c u d:Bool){p a:Int}(h:0<=a):Dd c u d p a o=W (((),()),(chI<|Au2 c u d (aR<|0<p) (aR<|0<a)<|aR<|p<=a,())):=by
 unfold Dd Ev BL Au2;have e:(a==0)=!decide (0<a):=by
  by_cases w:0<a
  .rw[a_ w];exact Ao ω
  .rw[c_ w];exact I_.2 ω
 rw[e];cases c<;>cases u<;>cases d<;>by_cases h1:0<p<;>by_cases w:0<a<;>by_cases y:p<=a<;>simp[h1,w,y,chI]
def Biy:∀(o:Fin 8) (d:Bool),(aD aH (stk (aQ ((o.val:Nat):Int)<|(2:Int)^(aI (aF<|bif d then 2 else 1)<|IntKind.bits aH)) 1<|aV<|(aO (IntKind.bits aH)<|aQ ((o.val:Nat):Int)<|(2:Int)^(aI (aF<|bif d then 2 else 1)<|IntKind.bits aH))&&&(aO (IntKind.bits aH) (1:Int)))==1)=Dm o.val (bif d then 2 else 1):=by decide
def Azk(c u d:Bool)(e a:Int)(E:0<=o/\o<8):R (Df c u d e a o) λy=>
  y.2.1=(bif c&&(o.toNat==0)||(u&&!(Dm o.toNat 1))||(d&&!(Dm o.toNat 2))||decide (0<e)||decide (0<a)then(c&&(o.toNat==0),u&&!(Dm o.toNat 1),d&&!(Dm o.toNat 2),e,a,o,())else(c,u,d,e,a,0,())):=by
 have p:=Biy ⟨o.toNat,ω⟩ C;have w:=Biy ⟨o.toNat,ω⟩ B;have D:(o !=0)=!(o.toNat==0):=by
  by_cases h:o=0
  .subst h;rfl
  .rw[FT h,beq_eq_false_iff_ne.2 (ω:o.toNat≠0)];rfl
 simp only[a6_ E.1,j_,i_]at p w;unfold Df;simp only[p,w,D];cases c<;>cases u<;>cases d<;>by_cases h1:0<e<;>by_cases L:0<a<;>cases o.toNat==0<;>cases Dm o.toNat 1<;>cases Dm o.toNat 2<;>simp[R,h1,L]
def callV(fl:Int)(g:Nat)(d:Int):Prop:=(d=1/\(g:Int)+1<fl)\/(d=2/\0<g/\(g:Int)<fl)
def callV.lt(h:callV fl g d):(g:Int)<fl:=by rcases h with⟨_,h⟩|⟨_,_,h⟩<;>omega
def callV.dir(h:callV fl g d):d=1\/d=2:=h.imp (·.1) (·.1)
@[reducible] def Lu(fl:Int):Int:=aB.wrap<|(aD aB<|(1:Int)*((2:Int)^(aI (aF fl)<|IntKind.bits aB)))-(1:Int)
def Axl:∀(fl:Fin 9) (g:Fin 8),(g.val+1<fl.val->BY (aQ (Lu ((fl.val:Nat):Int))<|(2:Int)^(aI (aF (1:Int))<|IntKind.bits aB)) g.val=B)/\(0<g.val->g.val<fl.val->BY (vb<|bv (Lu ((fl.val:Nat):Int))&&& ~~~ bv 1) g.val=B)/\(g.val<fl.val->BY (Lu ((fl.val:Nat):Int)) g.val=B):=by decide
def Bis:∀f:Fin 8,(bv<|Lu ((f.val:Nat):Int)).toNat<2^f.val:=by decide
def Bi0(h:BY z g=B):z≠0:=λe=>by subst e;unfold BY at h;rw[show bv 0=0#32 from rfl,BitVec.getLsbD_zero]at h;cases h
def Biz(a:0<=z/\z<4294967296)(h:BY z g=B):2^g<=z.toNat:=by
 unfold BY at h;rw[BitVec.getLsbD,show(bv z).toNat=z.toNat from ?_]at h
 .exact Nat.ge_two_pow_of_testBit h
 .have:=Avw a
  unfold vb at this;omega
def Bj9{x:Int}(hx:0<=x/\x<=7)(h:0<=n)(E:n.toNat<2^x.toNat):R (HV n) λy=>0<=y.1.1/\y.1.1<=x:=by
 have p:2^x.toNat<=2^7:=Nat.pow_le_pow_right τ ω;have p:2^x.toNat<=128:=p;unfold HV;refine H (Q:=λy=>y=((n,0,()),())) (Y (c_ ω)<|A rfl) λy e=>?_;subst e;refine H (Q:=λy=>y=((n,0,()),())) (Y (c_ (ω:¬(256:Int)<=n))<|A rfl) λy e=>?_;subst e;have a:∀S:ByteArray,(∀x:Fin 8,(List.range<|2^x.val).all (λk=>decide<|BJ S k<=((x.val:Nat):Int))=B)->0<=aH.wrap (0+aH.wrap (BJ S (aD aW n).toNat))/\aH.wrap (0+aH.wrap (BJ S (aD aW n).toNat))<=x:=λS D=>by
  have w:aW.wrap n=n:=by simp only[aD,IntKind.signed,IntKind.bits];simp;omega
  rw[w]
  have:=Aig S n.toNat
  have k:=G_.1 (D ⟨x.toNat,ω⟩) n.toNat<|List.mem_range.2 E;have k:BJ S n.toNat<=((x.toNat:Nat):Int):=k_ k;rw[Aa (n:=BJ S n.toNat) ω ω,Aa ω ω];omega
 exact I (U (TX _).1 (TX _).2)<|A<|a _ τ
@[reducible] def orI(x y:Int):Int:=aB.wrap<|stk x y<|aV ((aO (IntKind.bits aB) x)|||(aO (IntKind.bits aB) y))
def Bf0(x y:Int):0<=orI x y/\orI x y<4294967296:=FB _
def Aq3(x y:Int)(g:Nat):BY (orI x y) g=(BY x g||BY y g):=by unfold orI;rw[Aph,VM,BitVec.getLsbD_or];rfl
def Bss:∀(o:Fin 8) (s:Fin 3),aH.wrap (stk ((o.val:Nat):Int) (aD aH<|(1:Int)*((2:Int)^(aI (aF ((s.val:Nat):Int))<|IntKind.bits aH)))<|aV ((aO (IntKind.bits aH) ((o.val:Nat):Int))|||(aO (IntKind.bits aH)<|aD aH<|(1:Int)*((2:Int)^(aI (aF ((s.val:Nat):Int))<|IntKind.bits aH)))))=((o.val|||1<<<s.val:Nat):Int):=by decide
def Adh:∀(dir:Fin 3) (c u d a b n:Bool),(Aas dir.val c u d a b n).1<4/\(Aas dir.val c u d a b n).2<3:=by decide
def Ajs(dir:Nat)(c u d a b n:Bool):(Aas dir c u d a b n).1<4/\(Aas dir c u d a b n).2<3:=by
 match dir with
 |0=>exact Adh 0 c u d a b n
 |1=>exact Adh 1 c u d a b n
 |n+2=>exact Adh 2 c u d a b _
def Bjd(dir o:Nat)(c u d a b n:Bool):(chV dir o c u d a b n).2.1<3:=by unfold chV;dsimp only;cases(c&&(o==0)||(u&&!(Dm o 1))||(d&&!(Dm o 2))||a||b)<;>exact(Ajs ..).2
def Bl6(dir o:Nat)(c u d a b n:Bool):(chV dir o c u d a b n).1<4:=by unfold chV;dsimp only;cases(c&&(o==0)||(u&&!(Dm o 1))||(d&&!(Dm o 2))||a||b)<;>exact(Ajs ..).1
section
variable{fl f:Int}(hl:2<=fl/\fl<=8)(hf:0<=f/\f<fl)
include hl hf
omit hf in
theorem Bao(h:callV fl g d)(hc:Ax c g d=B):Ax (Dz c (aQ (Lu fl)<|(2:Int)^(aI (aF (1:Int))<|IntKind.bits aB),vb<|bv (Lu fl)&&& ~~~ bv 1)) g d=B:=by
 have a:=h.lt;have k:=Axl ⟨fl.toNat,ω⟩ ⟨g,ω⟩;simp only[a6_ (ω:0<=fl)]at k;rw[Kr,hc,b1_];rcases h with⟨rfl,h⟩|⟨rfl,h,_⟩
 .exact k.1 ω
 .exact k.2.1 h ω
theorem Beq(a:0<=z/\z<4294967296)(E:(g:Int)<fl)(h:BY z g=B)(y:f<g):(aQ (aQ z<|(2:Int)^(aI (aF f)<|IntKind.bits aB)) ((2:Int)^(aI (aF (1:Int))<|IntKind.bits aB)) !=0)=B:=by
 refine FT λe=>?_;have p:∀k:Nat,(0:Int)<=2^k:=λk=>Int.le_of_lt<|Int.pow_pos τ;rw[H_ _<|p _,H_ _<|p _,show(2:Int)^(aI (aF (1:Int))<|IntKind.bits aB)=2 from rfl,show aI (aF f) (IntKind.bits aB)=f.toNat by show min f.toNat 32=_;omega]at e;have k:=Biz a h;have D:2^(f.toNat+1)<=2^g:=Nat.pow_le_pow_right τ ω;rw[Nat.pow_succ]at D;have w:z/(2:Int)^f.toNat<2:=ω
 have:=Int.lt_mul_of_ediv_lt (Int.pow_pos τ) w
 have c:((2^f.toNat:Nat):Int)=(2:Int)^f.toNat:=by push_cast;rfl
 omega
theorem Bev(h:BY z g=B)(a:(g:Int)<f):(aD aB (stk z (aD aB<|(aD aB<|(1:Int)*((2:Int)^(aI (aF f)<|IntKind.bits aB)))-(1:Int))<|aV<|(aO (IntKind.bits aB) z)&&&(aO (IntKind.bits aB)<|aD aB<|(aD aB<|(1:Int)*((2:Int)^(aI (aF f)<|IntKind.bits aB)))-(1:Int))) !=0)=B:=by have k:=(Axl ⟨f.toNat,ω⟩ ⟨g,ω⟩).2.2 (by show g<f.toNat;omega);simp only[a6_ hf.1]at k;rw[SG];refine FT<|Bi0 (g:=g) ?_;rw[show BY (vb<|bv z&&&bv (Lu f)) g=(bv<|vb<|bv z&&&bv (Lu f)).getLsbD g from rfl,Ak5,BitVec.getLsbD_and];show(BY z g&&BY (Lu f) g)=B;rw[h,k];rfl
theorem Bkb(d o a u w:Int):R (EM fl d o f a u w) λy=>∃(c X w':Bool) (L O:Int),y.2.1=(c,X,w',L,O,o,())/\HP fl f L O/\0<=O/\
  ∀(g:Nat) (p:Int),callV fl g p->Ax (u,w) g p=B->((g:Int)=f->p=1->X=B)/\((g:Int)=f->p=2->w'=B)/\(f<g->0<L)/\((g:Int)<f->0<O):=by
 obtain⟨y0,e0,h0⟩:=Beb hl hf d o a u w
 suffices hs:R (EM fl d o f a u w) λy=>∃(c X w':Bool) (L O:Int),y.2.1=(c,X,w',L,O,o,())/\0<=O/\∀(g:Nat) (p:Int),callV fl g p->Ax (u,w) g p=B->((g:Int)=f->p=1->X=B)/\((g:Int)=f->p=2->w'=B)/\(f<g->0<L)/\((g:Int)<f->0<O)by obtain⟨y,e,c,X,w',L,O,h1,h2,h3⟩:=hs;rw[e0]at e;obtain rfl:=s_ e;refine⟨_,e0,c,X,w',L,O,h1,?_,h2,h3⟩;rw[h1]at h0;exact h0
 have g0:=a_ hf.1;unfold EM;refine I (a_ (ω:(0:Int)<=fl)) ?_;refine H (Q:=λy=>∀(g:Nat) (p:Int),callV fl g p->Ax (u,w) g p=B->Ax (y.2.1.1,y.2.1.2.1) g p=B) ⟨_,ED (u,w) (_,_),λg p E hb=>?_⟩ λD h1=>?_
 .have:=Bao hl E hb
  rw[<-TY]at this;exact this
 have hz:∀(g:Nat) (p:Int),callV fl g p->Ax (u,w) g p=B->BY (orI (orI (aD aB<|stk a (Lu fl)<|aV<|(aO (IntKind.bits aB) a)&&&(aO (IntKind.bits aB)<|Lu fl)) D.2.1.1) D.2.1.2.1) g=B:=λg p E hb=>by
  have k:=h1 g p E hb;rw[Aq3,Aq3];rcases E.dir with rfl|rfl
  .rw[show BY D.2.1.1 g=B from k,Bool.or_true,Bool.true_or]
  .rw[show BY D.2.1.2.1 g=B from k,Bool.or_true]
 have hr:=Bf0 (orI (aD aB<|stk a (Lu fl)<|aV<|(aO (IntKind.bits aB) a)&&&(aO (IntKind.bits aB)<|Lu fl)) D.2.1.1) D.2.1.2.1;refine I g0<|J (Ii (D.2.1.1,D.2.1.2.1) ⟨hf.1,ω⟩<|.inl rfl)<|J (Ii (D.2.1.1,D.2.1.2.1) ⟨hf.1,ω⟩<|.inr rfl) ?_;refine H (Q:=λy=>∃(c:Bool) (L:Int),y=((f,(),orI (orI (aD aB<|stk a (Lu fl)<|aV<|(aO (IntKind.bits aB) a)&&&(aO (IntKind.bits aB)<|Lu fl)) D.2.1.1) D.2.1.2.1,(),()),((C,C,C,(0:Int),(0:Int),(0:Int),()),(c,Ax (D.2.1.1,D.2.1.2.1) f.toNat 1,Ax (D.2.1.1,D.2.1.2.1) f.toNat 2,L,(0:Int),o,()),()))/\
   ∀(g:Nat) (p:Int),callV fl g p->Ax (u,w) g p=B->f<g->0<L) (I g0 (N (λ_=>H (Ah7 _) λy4 h4=>A ⟨_,_,rfl,λ_ _ _ _ _=>?_⟩) λq=>A ⟨_,_,rfl,λg p E hb h8=>?_⟩)) λy5 h5=>?_
 .rw[Aa ω ω];omega
 .have k:=Beq hl hf hr E.lt (hz g p E hb) h8;exact absurd (k.symm.trans q) τ
 obtain⟨c,L,rfl,h5⟩:=h5;have P:∀(g:Nat) (p:Int),callV fl g p->Ax (u,w) g p=B->((g:Int)=f->p=1->Ax (D.2.1.1,D.2.1.2.1) f.toNat 1=B)/\((g:Int)=f->p=2->Ax (D.2.1.1,D.2.1.2.1) f.toNat 2=B):=λg p E hb=>by
  have k:=h1 g p E hb;refine⟨λe e2=>?_,λe e2=>?_⟩
  .subst e2;rw[<-e];exact k
  .subst e2;rw[<-e];exact k
 refine I g0 (N (λq=>?_) λq=>A ⟨_,_,_,_,_,rfl,e1_ _,λg p E hb=>⟨(P g p E hb).1,(P g p E hb).2,h5 g p E hb,λh7=>?_⟩⟩)
 .have S:(vb<|bv (orI (orI (aD aB<|stk a (Lu fl)<|aV<|(aO (IntKind.bits aB) a)&&&(aO (IntKind.bits aB)<|Lu fl)) D.2.1.1) D.2.1.2.1)&&&bv (Lu f)).toNat<2^f.toNat:=by
   have k:=Bis ⟨f.toNat,ω⟩;simp only[a6_ hf.1]at k;refine f0_ ?_ k;show(aV _:Int).toNat<=_;rw[l_,BitVec.toNat_and];exact Nat.and_le_right
  rw[<-SG]at S;refine H (Bj9 ⟨hf.1,ω⟩ (FB _).1 S) λy6 h6=>A ⟨_,_,_,_,_,rfl,?_,λg p E hb=>⟨(P g p E hb).1,(P g p E hb).2,h5 g p E hb,λ_=>?_⟩⟩
  all_goals(rw[Aa (n:=f-y6.1.1) ω ω,Aa ω ω];omega)
 .have k:=Bev hl hf (hz g p E hb) h7;exact absurd (k.symm.trans q) τ
theorem Bay{w:Int}(hw:dir2 w)(S:0<=o/\o<8)(a u d:Int):R (Cc fl w o f a u d) λy=>∃(c e w' O L n:Bool) (P:Nat),
  y=(((),(P:Int),()),(chI ((chV w.toNat o.toNat c e w' O L n).1,(chV w.toNat o.toNat c e w' O L n).2.1),()))/\(chV w.toNat o.toNat c e w' O L n).2.2=(bif(chV w.toNat o.toNat c e w' O L n).1==3 then P|||(1<<<(chV w.toNat o.toNat c e w' O L n).2.1)else 0)/\P<8/\(O=B->f+1<fl)/\(L=B->0<f)/\
  ∀(g:Nat) (p:Int),callV fl g p->Ax (u,d) g p=B->((g:Int)=f->p=1->e=B)/\((g:Int)=f->p=2->w'=B)/\(f<g->O=B)/\((g:Int)<f->L=B):=by
 unfold Cc;refine H (Bkb hl hf w o a u d) λy1 h1=>?_;obtain⟨c,e,w',E,D,e1,hp,h0,h1⟩:=h1;rw[e1];refine H (Azk c e w' E D S) λy2 h2=>?_;rw[h2];have hc:∀(g:Nat) (p:Int),callV fl g p->Ax (u,d) g p=B->((g:Int)=f->p=1->e=B)/\((g:Int)=f->p=2->w'=B)/\(f<g->decide (0<E)=B)/\((g:Int)<f->decide (0<D)=B):=λg p X hb=>by obtain⟨k1,k2,k3,k4⟩:=h1 g p X hb;exact⟨k1,k2,λh=>a_<|k3 h,λh=>a_<|k4 h⟩
 refine⟨_,?_,c,e,w',decide<|0<E,decide<|0<D,decide<|E<=D,bif c&&(o.toNat==0)||(e&&!(Dm o.toNat 1))||(w'&&!(Dm o.toNat 2))||decide (0<E)||decide (0<D)then o.toNat else 0,rfl,rfl,?_,λh=>hp.1<|k_ h,λh=>hp.2<|k_ h,hc⟩
 .unfold chV;dsimp only;have ew:w=0\/w=1\/w=2:=by have:=hw.1;have:=hw.2;omega
  have Q:((o.toNat:Nat):Int)=o:=a6_ S.1;generalize o.toNat=o1 at Q|-;subst Q;cases hr:(c&&(o1==0)||(e&&!(Dm o1 1))||(w'&&!(Dm o1 2))||decide (0<E)||decide (0<D))<;>rcases ew with rfl|rfl|rfl<;>simp only[i_,j_,Aiv,Bcl,Ay0 _ _ _ h0]<;>rfl
 .cases(c&&(o.toNat==0)||(e&&!(Dm o.toNat 1))||(w'&&!(Dm o.toNat 2))||decide (0<E)||decide (0<D))with
  |false=>exact(show 0<8 by decide)
  |true=>show o.toNat<8;omega
theorem Alp{w:Int}(hw:S2 w o)(a u d:Int):∃(c L w' E D n:Bool),
  Dn fl w o f a u d=W (((),()),(chI ((chV w.toNat o.toNat c L w' E D n).1,(chV w.toNat o.toNat c L w' E D n).2.1),()))/\
  Ea fl w o f a u d=W (((),()),((((chV w.toNat o.toNat c L w' E D n).2.1:Int),((chV w.toNat o.toNat c L w' E D n).2.2:Int),()),()))/\(E=B->f+1<fl)/\(D=B->0<f)/\
  ∀(g:Nat) (O:Int),callV fl g O->Ax (u,d) g O=B->((g:Int)=f->O=1->L=B)/\((g:Int)=f->O=2->w'=B)/\(f<g->E=B)/\((g:Int)<f->D=B):=by
 have hp:Do fl w o f=W ((B,()),()):=by unfold Do;rw[a_ hl.1,a_ (ω:fl<=32),a_ hf.1,a_ hf.2];show Option.bind (Option.bind (Bm w o) _) _=_;rw[show Bm w o=W (((inR 0 2 w&&inR 0 7 o),()),())from Ep { Aj with X1:=w,L1:=o },Ak.2 hw.1,Ak.2 hw.2];rfl
 have ho:=hw.2;obtain⟨_,e,c,L,w',E,D,n,P,rfl,h1,X,S⟩:=Bay hl hf hw.1 (o:=o) ω a u d;refine⟨c,L,w',E,D,n,?_,?_,S⟩
 .unfold Dn;rw[hp];show(Cc fl w o f a u d).bind _=_;rw[e];rfl
 .have hs:(chV w.toNat o.toNat c L w' E D n).2.1<3:=Bjd ..;have hd:(chV w.toNat o.toNat c L w' E D n).1<4:=Bl6 ..;generalize chV w.toNat o.toNat c L w' E D n=y at h1 hs hd e|-;obtain⟨p,s,r⟩:=y;unfold Ea;rw[hp];show(Cc fl w o f a u d).bind _=_;rw[e];show(bif(((p:Nat):Int) !=3)then _ else _)=_;have h1:r=(bif p==3 then P|||1<<<s else 0):=h1;have hs:s<3:=hs;by_cases Q:p=3
  .subst Q;rw[show(((3:Nat):Int) !=3)=C from rfl,j_];show(bif decide ((0:Int)<=((s:Nat):Int))then _ else _)=_;rw[a_ (ω:(0:Int)<=((s:Nat):Int)),i_,h1]
   have:=Bss ⟨P,X⟩ ⟨s,hs⟩
   show W (((),()),((((s:Nat):Int),_,()),()))=W (((),()),((((s:Nat):Int),((P|||1<<<s:Nat):Int),()),()));rw[<-this];rfl
  .rw[FT (ω:((p:Nat):Int)≠3),i_,h1,show(p==3)=C by rwa [beq_eq_false_iff_ne]];rfl
end
def Aie(d:Nat):Dm 0 d=C:=by unfold Dm;rw[Nat.zero_shiftRight];rfl
def Oc(fl:Int)(c:Car)(g:Nat)(d:Int)(x dir o:Nat):Nat:=wV (2*c.B1.toNat+c.F1.toNat) c.V1.toNat c.B1.toNat (kV fl.toNat x g d.toNat dir<|Dm o d.toNat)<|qV (rV x g) o d.toNat
def Iq(fl:Int)(c:Car)(r:aM)(g:Nat)(d:Int):Nat:=
 if r.R1=0 then 1+Oc fl c g d r.D0.toNat r.H0.toNat r.I2.toNat
 else if r.R1=1 then r.M2.toNat+Oc fl c g d (if r.H0=1 then r.D0.toNat+1 else r.D0.toNat-1) r.H0.toNat 0
 else if r.R1=2 then(if r.D0=g/\r.H0=d then r.M2.toNat else r.M2.toNat+c.F1.toNat+c.B1.toNat+Oc fl c g d r.D0.toNat r.H0.toNat r.I2.toNat)
 else if r.R1=3 then r.M2.toNat+c.B1.toNat+Oc fl c g d r.D0.toNat r.H0.toNat r.I2.toNat
 else r.M2.toNat+Oc fl c g d r.D0.toNat r.H0.toNat r.I2.toNat
def atR(r:aM)(g:Nat)(d:Int):Prop:=r.R1=3/\r.D0=g/\r.H0=d
structure CarT(c:Car):Prop where
 st:1<=c.V1/\c.V1<=10000
 tr:1<=c.B1/\c.B1<=10000
 dw:1<=c.F1/\c.F1<=10000
structure RelTm(c:Car)(r:Relay):Prop where
 s1:r.R1=1->r.M2<=c.V1
 s2:r.R1=2\/r.R1=4->r.M2<=c.B1
 s3:r.R1=3->r.M2<=c.F1
def RelTm.of{c:Car}{st a t u v k:Int}(h:st=0\/(st=1/\t<=c.V1)\/((st=2\/st=4)/\t<=c.B1)\/(st=3/\t<=c.F1)):RelTm c<|aJ st f d o a t u v k:=⟨λe=>by have e:st=1:=e;show t<=_;omega,λe=>by have e:st=2\/st=4:=e;show t<=_;omega,λe=>by have e:st=3:=e;show t<=_;omega⟩
def Aou(hl:2<=fl/\fl<=8){c:Car}(a:callV fl g d){x:Nat}(hx:x<fl.toNat)(dir o:Nat):Oc fl c g d x dir o<=wV (2*c.B1.toNat+c.F1.toNat) c.V1.toNat c.B1.toNat (2*fl.toNat) 2:=by
 have:=a.lt
 have h1:=w_ (2*(2*c.B1.toNat+c.F1.toNat)+c.V1.toNat)<|Bmf hx (ω:g<fl.toNat) dir (Dm o d.toNat) (d:=d.toNat);have e:=w_ (2*c.B1.toNat+c.F1.toNat)<|Auu (rV x g) o d.toNat;unfold Oc wV;omega
section
variable{fl:Int}(hl:2<=fl/\fl<=8){c:Car}(hc:CarT c){r:aM}(hf:0<=r.D0/\r.D0<fl)(hs:S2 r.H0 r.I2)
include hl hf
theorem Bch(hd:r.R1=1->(r.H0=1/\r.D0+1<fl)\/(r.H0=2/\0<r.D0))(e:RelTm c r)(p:callV fl g d)(y:0<=r.R1/\r.R1<=4):Iq fl c r g d<=1+c.V1.toNat+c.F1.toNat+2*c.B1.toNat+wV (2*c.B1.toNat+c.F1.toNat) c.V1.toNat c.B1.toNat (2*fl.toNat) 2:=by
 have hx:r.D0.toNat<fl.toNat:=ω;have w:=Aou hl p hx (c:=c);unfold Iq;by_cases h0:r.R1=0
 .rw[if_pos h0];have:=w r.H0.toNat r.I2.toNat;omega
 rw[if_neg h0];by_cases h1:r.R1=1
 .rw[if_pos h1];have hd:=hd h1
  have:=e.s1 h1
  have a:(if r.H0=1 then r.D0.toNat+1 else r.D0.toNat-1)<fl.toNat:=by split<;>omega
  have:=Aou hl p a (c:=c) r.H0.toNat 0
  omega
 rw[if_neg h1];have E:=e.s2;have D:=e.s3
 have:=w r.H0.toNat r.I2.toNat
 repeat' split
 all_goals omega
include hc hs
theorem Ah1(c1 c2 c3 c4 c8 c9:Int):R (JT fl c1 c2 c3 c4 c.V1 c.B1 c.F1 c8 c9 r.R1 r.D0 r.H0 r.I2 r.Y0 r.M2 r.P1 r.D1 r.X0) λy=>∃O:aM,y.2.1=Ki O/\O.R1≠3/\(O.P1,O.D1)=(r.P1,r.D1)/\RelTm c O/\
  ∀(g:Nat) (d:Int),callV fl g d->Ax (r.P1,r.D1) g d=B->Iq fl c O g d<=Oc fl c g d r.D0.toNat r.H0.toNat r.I2.toNat:=by
 have ct:=hc.tr;have cs:=hc.st;obtain⟨p,u',w',a',b',n,X,e2,h1,h2,h3⟩:=Alp hl hf hs r.X0 r.P1 r.D1;have ho:=hs.2;have hw:=hs.1;have D:∀(g:Nat) (d:Int),callV fl g d->Ax (r.P1,r.D1) g d=B->_:=λg d w hb=>by
  obtain⟨k1,E,k3,k4⟩:=h3 g d w hb;have h0:=w.lt;exact Be1 (F:=fl.toNat) (x:=r.D0.toNat) (f:=g) (d:=d.toNat) (dir:=r.H0.toNat) (o:=r.I2.toNat) ω ω (by rcases w.dir with rfl|rfl<;>decide) (by have:=hw.2;have:=hw.1;omega) ω (c:=p) (n:=n)
   (λe e'=>k1 ω (by have:=w.dir;omega)) (λe e'=>E ω (by have:=w.dir;omega)) (λe=>k3 ω) (λe=>k4 ω) (λe=>by have:=h1 e;omega) (λe=>by have:=h2 e;omega) rfl
 generalize chV r.H0.toNat r.I2.toNat p u' w' a' b' n=y at D X e2;obtain⟨a,s,o⟩:=y;unfold JT;refine J X<|J e2 ?_;refine N (λq=>J (CO ..)<|A ⟨aJ 2 r.D0 s o (NK 2) c.B1 r.P1 r.D1 r.X0,rfl,show(2:Int)≠3 by decide,rfl,RelTm.of ω,λg d w hb=>?_⟩) λq=>N (λP=>J (CO ..)<|A ⟨aJ 1 r.D0 s o (NK 1) c.V1 r.P1 r.D1 r.X0,rfl,show(1:Int)≠3 by decide,rfl,RelTm.of ω,λg d w hb=>?_⟩) λP=>N (λL=>J (CO ..)<|A ⟨aJ 1 r.D0 s o (NK 1) c.V1 r.P1 r.D1 r.X0,rfl,show(1:Int)≠3 by decide,rfl,RelTm.of ω,λg d w hb=>?_⟩) λL=>J (CO ..)<|A ⟨aJ 0 r.D0 s o (NK 0) 0 r.P1 r.D1 r.X0,rfl,show(0:Int)≠3 by decide,rfl,RelTm.of ω,λg d w hb=>?_⟩
 .have q:((a:Nat):Int)=3:=eq_of_beq q;rcases D g d w hb with⟨_,_,_,_,k⟩|⟨k,_⟩|⟨k,_⟩
  .unfold Iq;dsimp only;rw[if_neg τ,if_neg τ,if_pos rfl];split
   .unfold Oc wV;omega
   .rename_i z;rcases k with⟨k1,E⟩|⟨k1,E,_⟩
    .have E:s=d.toNat:=E;refine absurd ⟨?_,?_⟩ z
     .omega
     .rcases w.dir with rfl|rfl<;>omega
    .have:=Bk0 (c:=2*c.B1.toNat+c.F1.toNat) (s:=c.V1.toNat) (t:=c.B1.toNat) k1 E
     unfold Oc;rw[l_,l_];dsimp only at this;omega
  .have k:a=1:=b5_ aY k;omega
  .have k:a=2:=b5_ aY k;omega
 .have P:((a:Nat):Int)=1:=eq_of_beq P;rcases D g d w hb with⟨k,_⟩|⟨k,k1,E⟩|⟨k,_⟩
  .have k:a=3:=k;omega
  .have S:s=1:=b5_ (·.2.1) k;have Q:o=0:=b5_ (·.2.2) k;subst S Q;unfold Iq;dsimp only;rw[if_neg τ,if_pos rfl,if_pos τ];unfold Oc;rw[Aie];exact Azg E<|Auu _ _ _
  .have k:a=2:=b5_ aY k;omega
 .have L:((a:Nat):Int)=2:=eq_of_beq L;rcases D g d w hb with⟨k,_⟩|⟨k,_⟩|⟨k,k1,E⟩
  .have k:a=3:=k;omega
  .have k:a=1:=b5_ aY k;omega
  .have S:s=2:=b5_ (·.2.1) k;have Q:o=0:=b5_ (·.2.2) k;subst S Q;unfold Iq;dsimp only;rw[if_neg τ,if_pos rfl,if_neg τ];unfold Oc;rw[Aie];exact Azg E<|Auu _ _ _
 .exfalso;have q:(((a:Nat):Int)==3)=C:=q;have P:(((a:Nat):Int)==1)=C:=P;have L:(((a:Nat):Int)==2)=C:=L;rw[beq_eq_false_iff_ne]at q P L;rcases D g d w hb with⟨k,_⟩|⟨k,_⟩|⟨k,_⟩
  .have k:a=3:=k;omega
  .have k:a=1:=b5_ aY k;omega
  .have k:a=2:=b5_ aY k;omega
end
structure RelQ(fl:Int)(c:Car)(r r':Relay)(u:Int×Int):Prop where
 tm:RelTm c r'
 cal:∀(g:Nat) (d:Int),callV fl g d->Ax u g d=true->atR r' g d\/Ax (r'.P1,r'.D1) g d=true
 fall:∀(g:Nat) (d:Int),callV fl g d->Ax u g d=true->¬atR r g d->atR r' g d\/Iq fl c r' g d+1<=Iq fl c r g d
 wait:r'.R1=3->r'.M2=c.F1\/(r.R1=3/\r'.D0=r.D0/\r'.H0=r.H0/\r'.M2+1=r.M2)
 stay:r.R1=3->1<r.M2->r'.R1=3/\r'.D0=r.D0/\r'.H0=r.H0/\r'.M2+1=r.M2
def Bci{s:aM}(h:Ki r=Ki s):r=s:=by cases r;cases s;simp only[Ki,b9_,and_true]at h;simp only[h]
def Bki(hf:0<=f/\f<32)(hd:dir2 d){e:Int}(p:e=1\/e=2)(h:¬(f=g/\d=e)):Ax (HE f d) g e=C:=by
 by_cases z:d=0
 .subst z;unfold HE;cases inR 0 31 f<;>exact Og ..
 .have a:d=1\/d=2:=by have:=hd.1;have:=hd.2;omega
  rw[Qc hf a g p];exact c_ λk=>h ⟨(Prod.mk.inj k).1.symm,(Prod.mk.inj k).2.symm⟩
section
variable{b:Z}(hb:b.small)(hcode:b.code=0){c:Car}(hc:CarT c){r:aM}(h:RelOK b r)
include hb hc h
theorem Aow(ht:r.M2<=1){u v k:Int}(c1 S P c4 E O:Int):R (LZ b.C0 c1 S P c4 c.V1 c.B1 c.F1 E O r.R1 r.D0 r.H0 r.I2 r.Y0 r.M2 u v k) λy=>∃s:aM,y.2.1=Ki s/\(s.P1,s.D1)=(u,v)/\RelTm c s/\
  (s.R1=3->s.M2=c.F1/\s.D0=r.D0/\s.H0=r.H0)/\(r.R1=3->s.R1=4)/\∀(g:Nat) (d:Int),callV b.C0 g d->Ax (u,v) g d=B->¬atR r g d->atR s g d\/Iq b.C0 c s g d+1<=Iq b.C0 c r g d:=by
 have hl:2<=b.C0/\b.C0<=8:=⟨hb.lo,hb.hi⟩;have L:=h.fl;have h4:=h.tm;have h3:=h.tz;have h1:=h.st;have td:=hc.dw;have tt:=hc.tr;unfold LZ;refine H (Q:=λy=>match y with
  |.inl z=>∃a:aM,z=((b.C0,(),(),(),()),((c1,S,P,c4,c.V1,c.B1,c.F1,E,O,()),Ki a,(0,0,0,0,0,0,0,0,0,()),()))/\(0<=a.D0/\a.D0<b.C0)/\S2 a.H0 a.I2/\(a.P1,a.D1)=(u,v)/\r.R1≠3/\
    ∀(g:Nat) (d:Int),Oc b.C0 c g d a.D0.toNat a.H0.toNat a.I2.toNat+1<=Iq b.C0 c r g d
  |.inr z=>∃s:aM,z.2.1=Ki s/\(s.P1,s.D1)=(u,v)/\RelTm c s/\(s.R1=3->s.M2=c.F1/\s.D0=r.D0/\s.H0=r.H0)/\(r.R1=3->s.R1=4)/\∀(g:Nat) (d:Int),callV b.C0 g d->Ax (u,v) g d=B->¬atR r g d->atR s g d\/Iq b.C0 c s g d+1<=Iq b.C0 c r g d) ?_ λy hy=>?_
 .refine N (λq=>J (CO ..)<|A ⟨aJ 3 r.D0 r.H0 r.I2 (NK 3) c.F1 u v k,rfl,rfl,RelTm.of ω,λ_=>⟨rfl,rfl,rfl⟩,λe=>?_,λg d X D hn=>?_⟩) λq=>N (λp=>J (CO ..)<|A ⟨aJ 4 r.D0 r.H0 r.I2 (NK 4) c.B1 u v k,rfl,rfl,RelTm.of ω,λe=>absurd e (show ¬(4:Int)=3 by decide),λ_=>rfl,λg d X D hn=>?_⟩) λp=>N (λw=>?_) λw=>A ⟨aJ r.R1 r.D0 r.H0 r.I2 r.Y0 r.M2 u v k,rfl,L,h.sw,rfl,?_,λg d=>?_⟩
  .have q:r.R1=2:=eq_of_beq q;omega
  .have q:r.R1=2:=eq_of_beq q;by_cases z:r.D0=g/\r.H0=d
   .exact .inl ⟨rfl,z.1,z.2⟩
   .refine .inr ?_;unfold Iq;dsimp only;rw[if_neg τ,if_neg τ,if_neg τ,if_pos rfl,q,if_neg τ,if_neg τ,if_pos rfl,if_neg z];omega
  .have p:r.R1=3:=eq_of_beq p;refine .inr ?_;unfold Iq;dsimp only;rw[if_neg τ,if_neg τ,if_neg τ,if_neg τ,p,if_neg τ,if_neg τ,if_neg τ,if_pos rfl];omega
  .have w:r.R1=1:=eq_of_beq w;have hm:=h.mv w;have ha:∃n,Hs r.R1 r.D0 r.H0 r.I2 r.Y0 r.M2 u v k=W ((n,()),())/\(0<=n/\n<b.C0)/\n.toNat=(if r.H0=1 then r.D0.toNat+1 else r.D0.toNat-1):=by
    unfold Hs;rcases hm with⟨e,h2⟩|⟨e,h2⟩<;>rw[e]
    .refine⟨_,rfl,?_,?_⟩<;>rw[Aa ω ω]
     .omega
     .rw[if_pos rfl];omega
    .refine⟨_,rfl,?_,?_⟩<;>rw[Aa ω ω]
     .omega
     .rw[if_neg τ];omega
   obtain⟨n,e,hn,h0⟩:=ha;refine J e<|A ⟨aJ r.R1 n r.H0 0 r.Y0 r.M2 u v k,rfl,hn,S2.zero h.sw.1,rfl,ω,λg d=>?_⟩;unfold Iq;rw[w,if_neg τ,if_pos rfl,<-h0];show Oc b.C0 c g d n.toNat r.H0.toNat 0+1<=_;omega
  .have p:(r.R1==3)=C:=p
   rwa [beq_eq_false_iff_ne]at p
  .have q:(r.R1==2)=C:=q;have p:(r.R1==3)=C:=p;have w:(r.R1==1)=C:=w;rw[beq_eq_false_iff_ne]at q p w;show Oc b.C0 c g d r.D0.toNat r.H0.toNat r.I2.toNat+1<=_;unfold Iq;rw[if_neg w,if_neg q,if_neg p];split<;>omega
 .cases y with
  |inr z=>obtain⟨s,e,hs⟩:=hy;exact A ⟨s,e,hs⟩
  |inl z=>
   obtain⟨a,rfl,g1,g2,g3,g4,g5⟩:=hy;refine H (Ah1 hl hc g1 g2 c1 S P c4 E O) λy6 h6=>?_;obtain⟨s,e1,e2,e3,e4,e5⟩:=h6;refine A ⟨s,e1,e3.trans g3,e4,λe=>absurd e e2,λe=>absurd e g4,λg d X D _=>.inr ?_⟩
   have:=e5 g d X (by rw[g3];exact D)
   have:=g5 g d
   omega
end
section
variable{b:Z}(hb:b.small)(hcode:b.code=0)
include hb hcode
theorem Awy(hi:i<b.A0.length):CarT<|b.A0.getD i Ag:=by have hc:=Ij hcode (c:=b.A0.getD i Ag) (by rw[g_,h_ hi];exact R_ hi);unfold BQ at hc;simp only[b_,T_,f7_,Ak]at hc;obtain⟨⟨_,_,_,e,p,a,_⟩,_⟩:=hc;exact⟨e,p,a⟩
theorem Aov(hi:i<b.A0.length)(h:RelOK b r)(ht:RelTm (b.A0.getD i Ag) r)(a:Int×Int)(pr:Int):R (JS b.C0 b.F0 b.J0 b.L0 b.I0 b.M0 b.O0 b.A0 (i:Int) r.R1 r.D0 r.H0 r.I2 r.Y0 r.M2 r.P1 r.D1 r.X0 a.1 a.2 pr) λy=>∃r',y.2.1=Ki r'/\RelQ b.C0 (b.A0.getD i Ag) r r' (Em (r.P1,r.D1)<|Dz a<|Bj b):=by
 have lo:=hb.lo;have h3:=hb.hi;have hc:=Awy hb hcode hi;have h2:=h.tm;have X:=h.tz;have h1:=h.st;have L:=h.fl;unfold JS;refine J (Od hb hcode h)<|Y rfl<|Y (c_ ω)<|Y (c_ ω) ?_;refine J (DL hb hcode)<|J (ED a<|Bj b)<|J (DZ (r.P1,r.D1)<|Dz a<|Bj b)<|I (a_ (ω:(0:Int)<=b.C0)) ?_;generalize Em (r.P1,r.D1) (Dz a<|Bj b)=u;refine H (Q:=λy=>∃s:aM,y.2.1=Ki s/\(s.P1,s.D1)=u/\RelTm (b.A0.getD i Ag) s/\(s.R1=3->s.M2=(b.A0.getD i Ag).F1\/(r.R1=3/\s.D0=r.D0/\s.H0=r.H0/\s.M2+1=r.M2))/\
   (r.R1=3->1<r.M2->s.R1=3/\s.D0=r.D0/\s.H0=r.H0/\s.M2+1=r.M2)/\(s.R1=3->(0<=s.D0/\s.D0<b.C0)/\dir2 s.H0)/\
   ∀(g:Nat) (d:Int),callV b.C0 g d->Ax u g d=B->¬atR r g d->atR s g d\/Iq b.C0 (b.A0.getD i Ag) s g d+1<=Iq b.C0 (b.A0.getD i Ag) r g d) (N (λq=>A ?_) λq=>I (U ω ω) ?_) λy9 h9=>?_
 .have q:1<r.M2:=k_ q;have w:aH.wrap (r.M2-1)=r.M2-1:=Aa ω ω;refine⟨aJ r.R1 r.D0 r.H0 r.I2 r.Y0 (aD aH<|r.M2-1) u.1 u.2 _,rfl,rfl,?_,?_,?_,λ_=>⟨L,h.sw.1⟩,λg d _ _ hn=>.inr ?_⟩
  .rw[w];exact⟨λe=>by have:=ht.s1 e;show r.M2-1<=_;omega,λe=>by have:=ht.s2 e;show r.M2-1<=_;omega,λe=>by have:=ht.s3 e;show r.M2-1<=_;omega⟩
  .rw[w];exact λe=>.inr ⟨e,rfl,rfl,by show r.M2-1+1=_;omega⟩
  .rw[w];exact λe _=>⟨e,rfl,rfl,by show r.M2-1+1=_;omega⟩
  .have h0:r.R1≠0:=λe=>by have:=X.2 e;omega
   rw[w];unfold Iq;dsimp only;rw[if_neg h0,if_neg h0]
   repeat' split
   all_goals omega
 .have q:¬1<r.M2:=o_ q;refine H (Aow hb hc h ω _ _ _ _ _ _) λy8 h8=>?_;obtain⟨s,S,P,E,D,e5,e6⟩:=h8;exact A ⟨s,S,P,E,λe=>.inl (D e).1,λ_ e=>absurd e q,λe=>by rw[(D e).2.1,(D e).2.2];exact⟨L,h.sw.1⟩,e6⟩
 .obtain⟨s,S,P,E,D,e5,e6,e7⟩:=h9;rw[S];refine N (λq=>?_) λq=>A ⟨s,rfl,E,λg d O p=>.inr (by rw[P];exact p),e7,D,e5⟩;have q:s.R1=3:=eq_of_beq q;obtain⟨k1,k2⟩:=e6 q;refine I (a_ k1.1)<|J (FU s.D0 s.H0)<|J (GG (s.P1,s.D1)<|HE s.D0 s.H0)<|A ⟨aJ s.R1 s.D0 s.H0 s.I2 s.Y0 s.M2 (Dj (s.P1,s.D1)<|HE s.D0 s.H0).1 (Dj (s.P1,s.D1)<|HE s.D0 s.H0).2 _,rfl,⟨E.s1,E.s2,E.s3⟩,λg d O p=>?_,λg d O p hn=>e7 g d O p hn,D,e5⟩;by_cases z:s.D0=g/\s.H0=d
  .exact .inl ⟨q,z⟩
  .refine .inr ?_
   have:=O.lt
   show Ax (Dj (s.P1,s.D1)<|HE s.D0 s.H0) g d=B;rw[OS _ _ ω,P,p,Bki ⟨k1.1,ω⟩ k2 O.dir z];rfl
end
def Aj3(a c:List Int):FC (a++c)=FC a++FC c:=by apply Rh;rw[OT,Ww,Ww,Ww,List.map_append]
def Ayd(n:Int)(k:Nat):DU n (k+1)=DU n k++[aW.wrap<|aQ n<|(2:Int)^(aI (8*k)<|IntKind.bits .u64)]:=by unfold DU;rw[List.range_succ,List.map_append];rfl
def Bma(w:0<=n)(a:k<8):aQ (aQ n<|(2:Int)^(aI (8*k)<|IntKind.bits .u64)) ((2:Int)^(aI (aF (8:Int))<|IntKind.bits aN))=aQ n ((2:Int)^(aI (8*(k+1))<|IntKind.bits .u64)):=by
 have p:∀k:Nat,(0:Int)<=2^k:=λk=>Int.le_of_lt<|Int.pow_pos τ;rw[H_ _<|p _,H_ _<|p _,H_ _<|p _,Int.ediv_ediv_of_nonneg<|p _];congr 1;have e:∀k:Nat,k<=8->aI (8*k) (IntKind.bits .u64)=8*k:=λk a=>by show min (8*k) 64=8*k;omega
 rw[e k ω,e (k+1) ω,Nat.mul_add,Int.pow_add];rfl
def Np(D:0<=n)(E:k<=8){l:List Int}(hl:l.length<=1000000):Bu n (k:Int) l=W ((),((l++DU n k,()),())):=by
 refine Sat.eq ?_;refine H (Q:=λy=>y=((),((l++DU n k,()),()))) ?_ λy p=>by subst p;exact A rfl
 refine aL (λm z=>∃i:Nat,z=(((),aQ n<|2^(aI (8*i)<|IntKind.bits .u64),(k:Int),(i:Int),()),((l++DU n i,()),()))/\i+m=k) (λm z a=>?_) k ⟨0,?_,n_ _⟩ ω
 .obtain⟨i,rfl,hm⟩:=a;show R (ON _ k i _) _;have e:(DU n i).length=i:=by simp[DU]
  refine N (λq=>I (AR (by rw[f_];show _+1<=_;omega)) ?_) λq=>A ?_
  .have q:=k_ q;have w:=Cm (n:=i) ω;refine A ⟨m-1,ω,i+1,?_,ω⟩;rw[Bma D ω,N_,<-Ayd,w]
  .have q:=o_ q;obtain rfl:i=k:=ω;rfl
 .show _=(((),aQ n<|2^0,(k:Int),0,()),((l++[],()),()))
  rw[a1_,Int.pow_zero,Int.fdiv_one]
def Azi(u d:Int){l:List Int}(hl:l.length<=900000):Ky [aX u d] l=W ((),((l++DU (aD aN u) 4++DU (aD aN d) 4,()),())):=by
 refine Sat.eq ?_;have w:=Np (k:=4) (Jq u).1 τ (l:=l) ω;have e:=Np (k:=4) (Jq d).1 τ (l:=l++DU (aD aN u) 4) (by rw[f_];show _+4<=_;omega);refine H (Q:=λy=>y=((),((l++DU (aD aN u) 4++DU (aD aN d) 4,()),()))) ?_ λy p=>by subst p;exact A rfl
 refine aL (λm z=>(m=1/\z=(((),[aX u d],1,0,()),((l,()),())))\/(m=0/\z=(((),[aX u d],1,1,()),((l++DU (aD aN u) 4++DU (aD aN d) 4,()),())))) (λm z a=>?_) 1 (.inl ⟨rfl,rfl⟩) τ;rcases a with⟨rfl,rfl⟩|⟨rfl,rfl⟩
 .show R (EX [aX u d] 1 0 l) _;unfold EX;exact I rfl<|I rfl<|J w<|J e<|A ⟨0,rfl,.inr ⟨rfl,rfl⟩⟩
 .show R (EX [aX u d] 1 1<|l++DU (aD aN u) 4++DU (aD aN d) 4) _;unfold EX;exact Y rfl<|A rfl
def Azj{a:List Bool}(hb:a.length<=8)(h0:0<=Ba (Qd a) a.length 0 0){l:List Int}(hl:l.length<=900000):Kz a l=W ((),((l++DU (Ba (Qd a) a.length 0 0) 1,()),())):=by
 have h:=BN (step:=λx=>DY x.1.2.1 x.1.2.2.1 x.1.2.2.2.1 x.1.2.2.2.2.1 x.2.1.1) a.length (λi n=>(((),n,a,a.length,i,()),((l,()),()))) (Qd a) (λ_ _=>True) _
  (λi n hi _=>by refine⟨?_,trivial⟩;show DY n a (a.length:Int) (i:Int) l=_;unfold DY;simp only[a_ (ω:i<(a.length:Int)),U ω (ω:(i:Int)<a.length),l_,Cm (ω:i<1000000000)];unfold Qd Bkj;cases a.getD i C<;>rfl)
  (λn _=>by show DY n a (a.length:Int) (a.length:Int) l=_;unfold DY;rw[c_<|Z_ _];rfl) a.length 0 0 ω trivial
 have e:=AA h.1 ω;exact Ae e<|Ae (Np h0 τ (l:=l) ω) rfl
structure InC(b:Bldg)(c:CarInput):Prop where
 fl:C2 b.C0 c.H1
 ca:C2 b.C0 c.N2
 ff:0<=c.D2/\c.D2<b.C0
 dr:0<=c.Z1/\c.Z1<=2
structure InS(b:Bldg)(x:Inp):Prop where
 press:ML b x.press=true
 pu:Jw x.press
 kind:0<=x.kind/\x.kind<=8
 car:0<=x.car/\x.car<(b.A0.length:Int)
 none:x.kind=0->x.car=0
 len:x.cars.length=b.A0.length
 cars:∀c∈x.cars,InC b c
section
variable{b:Z}(hb:b.small)
include hb
theorem C2.flV(h:C2 b.C0 n):Go.Ovl.flV b n=B:=by have e:=Af4 hb;obtain⟨h1,a⟩:=h;unfold Go.Ovl.flV;rw[ES ω ω];exact QM.2 ⟨h1,a⟩
theorem InC.inV{c:CarInput}(h:InC b c):Pg b c=B:=by have hf:=h.ff;unfold Pg;rw[C2.flV hb h.fl,C2.flV hb h.ca,Ak.2 h.dr,Ak.2 ω];rfl
theorem InS.inV(h:InS b x):Xj b x=B:=by
 have hc:=h.car;unfold Xj;rw[h.press,Ak.2 h.kind,Ak.2 ω,h.len,q_,G_.2 λc hc=>(h.cars c hc).inV hb];cases h0:x.kind==0 with
 |false=>rfl
 |true=>rw[h.none<|eq_of_beq h0];rfl
variable(hcode:b.code=0)
include hcode
theorem Ake(h:InS b x):Ox b.C0 b.F0 b.J0 b.L0 b.I0 b.M0 b.O0 b.A0 x.press.1 x.press.2 x.kind x.car x.cars=W ((B,()),()):=by
 have lo:=hb.lo;have hi:=hb.hi;have h0:=Ah hcode;have hc:=h.car;have hl:=h.len;have w1:aH.wrap _=b.A0.length-1:=Aa ω ω;have w2:aH.wrap _=b.C0-1:=Aa ω ω;have w:∀{n m:Int},0<=n/\n<=m->HK n m=W _:=λ{n m} h=>by unfold HK;rw[a_ h.1,a_ h.2];rfl
 have L:aI (aF b.C0) (IntKind.bits aB)=aF b.C0:=by show min _ 32=_;omega
 have hp:vb (bv x.press.1&&& ~~~ bv (Bj b).1)=0/\vb (bv x.press.2&&& ~~~ bv (Bj b).2)=0:=by
  have h1:=h.press;unfold ML isZ at h1;have h1:(Dj x.press<|Bj b).1=0/\(Dj x.press<|Bj b).2=0:=by simpa using h1
  exact h1
 refine Sat.eq ?_;unfold Ox;rw[w1];refine H (Q:=λy=>y=(((),(),C,()),(b.tup,x.tup,()))) (J (Tz hb hcode hp.1 hp.2)<|Y rfl<|J (w h.kind)<|Y rfl<|J (w ⟨hc.1,show x.car<=b.A0.length-1 by omega⟩)<|Y rfl ?_) λy p=>?_
 .have e:((x.cars.length:Int) !=(b.A0.length:Int))=C:=by rw[hl];exact Q_ _
  rw[e];refine N (λq=>Y ?_<|A rfl) λ_=>A rfl;rw[h.none<|eq_of_beq q];rfl
 subst p;refine Y rfl (H (Q:=λy=>y=.inl ((),())) ?_ λy p=>by subst p;exact A rfl);refine aL (λk z=>∃i:Nat,z=(((),x.cars,(x.cars.length:Int),(i:Int),()),(b.tup,()))/\i+k=x.cars.length) (λk z hz=>?_) x.cars.length ⟨0,rfl,n_ _⟩ ω;obtain⟨i,rfl,hk⟩:=hz;show R (VF x.cars (x.cars.length:Int) i b.C0 b.F0 b.J0 b.L0 b.I0 b.M0 b.O0 b.A0) _;refine N (λq=>?_) λ_=>A rfl;have q:=k_ q;have X:=Cm (n:=i) ω;have a:=h.cars _<|Av CY (ω:i<x.cars.length);have D:=a.ff;have O:=a.dr;refine I (U ω q) (H (Q:=λy=>y=((B,()),())) ?_ λy p=>?_)
 .simp only[l_];rw[show bC 0 C C C C 0 C 0 C 0 0=CY from rfl];generalize x.cars.getD i CY=c at a D O;unfold Ow;rw[L,w2];have S:=a_ (ω:0<=b.C0);refine H (I S<|I (QM.2 a.fl)<|I S<|I (QM.2 a.ca)<|J (w ⟨D.1,show c.D2<=b.C0-1 by omega⟩)<|I rfl (N (λ_=>A rfl) λP=>N (λ_=>A rfl) λE=>A ?_)) λy p=>by subst p;exact A rfl
  have P:c.Z1≠0:=λe=>by rw[e]at P;cases P
  have E:c.Z1≠1:=λe=>by rw[e]at E;cases E
  rw[show c.Z1=2 by omega];rfl
 subst p;exact Y rfl<|A ⟨k-1,ω,i+1,by first|(rw[<-X];rfl)|rw[<-X],ω⟩
theorem Aqi(h:InS b x):Wn b.C0 b.F0 b.J0 b.L0 b.I0 b.M0 b.O0 b.A0 x.press.1 x.press.2 x.kind x.car x.cars=W ((inV b x,0,()),()):=by
 have D:=Ah hcode;have hl:=h.len;have a:∀n k,(DU n k).length=k:=λn k=>by simp[DU]
 refine Sat.eq ?_;refine J (Az ..)<|Y (by rw[hcode];rfl)<|J (Ake hb hcode h)<|Y rfl ?_;refine J (Azi x.press.1 x.press.2 (by show 2<=_;omega)) ?_;refine J (Np (Jq x.kind).1 τ (by simp only[ a];show 2+4+4<=_;omega)) ?_;refine J (Np (Jq x.car).1 τ (by simp only[ a];show 2+4+4+1<=_;omega)) ?_;have hh:FC ([165,aW.wrap b.A0.length]++DU (aD aN x.press.1) 4++DU (aD aN x.press.2) 4++DU (aD aN x.kind) 1++DU (aD aN x.car) 1)=Pf b x:=by
  simp only[Aj3];have e:FC [165,aW.wrap b.A0.length]=nmB 165 1++nmB (aD aN b.A0.length) 1:=by unfold nmB;rw[ ES ω ω];show FC [165,aW.wrap _]=FC [_,aW.wrap<|aQ _<|2^0];rw[Int.pow_zero,Int.fdiv_one];rfl
  rw[e];unfold Pf Yz nmB;simp only[ByteArray.append_assoc]
 have w:([165,aW.wrap b.A0.length]++DU (aD aN x.press.1) 4++DU (aD aN x.press.2) 4++DU (aD aN x.kind) 1++DU (aD aN x.car) 1).length=12:=by simp only[f_,a];rfl
 generalize [165,aW.wrap _]++DU _ 4++DU _ 4++DU _ 1++DU _ 1=l0 at hh w;refine H (Q:=λy=>∃l,y=(((),()),((l,()),()))/\FC l=x.cars.foldl OU (Pf b x)) ?_ λy P=>?_
 .unfold SY;refine aL (λk z=>∃(i:Nat) (l:List Int),z=(((),x.cars,(x.cars.length:Int),(i:Int),()),((l,()),()))/\i+k=x.cars.length/\l.length=12+19*i/\(x.cars.drop i).foldl OU (FC l)=x.cars.foldl OU _) (λk z w=>?_) x.cars.length ⟨0,l0,rfl,n_ _,w,by rw[hh];rfl⟩ ω;obtain⟨i,l,rfl,S,E,p⟩:=w;show R (Yi x.cars x.cars.length i l) _;refine N (λq=>?_) λq=>A ⟨l,rfl,?_⟩
  .have q:=k_ q;have O:=Cm (n:=i) ω;rw[CV CY ω,List.foldl_cons]at p;refine I (U ω q) ?_;simp only[l_];rw[show bC 0 C C C C 0 C 0 C 0 0=CY from rfl];generalize x.cars.getD i CY=c at p;obtain⟨L,_⟩:=Bl1 c.T2 c.G2 c.H2 c.U1 c.J2 c.A3;refine J (Np (Jq c.H1).1 τ ω) ?_;refine J (Azj (by show 6<=8;omega) L.1 (by simp only[f_,a];omega)) ?_;refine J (Np (Jq c.D2).1 τ (by simp only[f_,a];omega)) ?_;refine J (Np (Jq c.Z1).1 τ (by simp only[f_,a];omega)) ?_;refine J (Np (Jq c.N2).1 τ (by simp only[f_,a];omega)) ?_;refine J (Np ω τ (by simp only[f_,a];omega)) ?_;refine A ⟨k-1,ω,i+1,_,by first|(rfl)|rw[<-O],ω,by simp only[f_,a];omega,?_⟩;rw[<-p];congr 1;simp only[Aj3];rfl
  .have q:=o_ q;rw[List.drop_of_length_le ω]at p;exact p
 .obtain⟨l,rfl,hl⟩:=P;refine J (Abe (by rw[hl,Aeq,Aew];omega))<|A ?_;rw[hl];rfl
end
def Bc9(p a d:Int)(k:Bool):Prop:=(a=0/\d=0/\k=B)\/(AI p=B/\k=C)
def Me(p c:Int):Bool:=c==0||(p==3||p==4)
def Adw(p c:Int):KA p c=W ((Me p c,()),()):=by unfold KA Me;cases c==0<;>cases p==3<;>rfl
def Uy(p:Int):Mr p=W ((AI p,()),()):=by unfold Mr AI;cases p==0<;>rfl
section
variable{b:Z}(hw:BW b){x:Inp}{g:Bool}
include hw
theorem Aq9(hi:i<b.A0.length)(p:Int){s:Belief}(h:BelOK b i s):R (HL b.C0 b.F0 b.J0 b.L0 b.I0 b.M0 b.O0 b.A0 (i:Int) p s.D0 s.H0 s.Y0 s.V0 s.I3 s.Y3) λy=>∃a d k,y=(((),()),((a,d,k,()),()))/\Bc9 p a d k/\Fz b (a,d):=by
 have hd:=h.dut.len hw.small;unfold HL;refine J (Uy p) (N (λ_=>A ⟨0,0,B,rfl,.inl ⟨rfl,rfl,rfl⟩,Ux hw.small hw.code⟩) λq=>?_);have q:AI p=B:=by simpa using(show(!AI p)=C from q)
 refine J (Fj hw.small hw.code hi h)<|Y rfl ?_;refine H (Q:=λy=>∃a d,y=(((),(),()),((0,0,C,()),(a,d,C,()),()))/\Fz b (a,d)) ?_ λy D=>by obtain⟨a,d,rfl,hh⟩:=D;exact A ⟨a,d,C,rfl,.inr ⟨q,rfl⟩,hh⟩
 unfold KF;refine aL (λ(k:Nat) z=>∃(j:Nat) (c:Int×Int),z=(((i:Int),(),(),(),s.V0,(s.V0.length:Int),(j:Int),()),((b.C0,b.F0,b.J0,b.L0,b.I0,b.M0,b.O0,b.A0,()),(0,0,C,()),(c.1,c.2,C,()),()))/\j+k=s.V0.length/\Fz b c) (λk z e=>?_) s.V0.length ⟨0,(0,0),rfl,n_ _,Ux hw.small hw.code⟩ ω;obtain⟨j,c,rfl,E,hh⟩:=e;show R (Ie (i:Int) s.V0 (s.V0.length:Int) (j:Int) b.C0 b.F0 b.J0 b.L0 b.I0 b.M0 b.O0 b.A0 0 0 C c.1 c.2 C) _;unfold Ie;refine N (λq=>?_) λ_=>A ⟨_,_,rfl,hh⟩;have q:(j:Int)<(s.V0.length:Int):=k_ q;have w:=Cm (n:=j) ω;refine I (U ω q)<|I (U ω ω) (N (λ_=>J (FU _ _)<|J (DZ c<|HE _ _) ?_) λ_=>?_)
 .exact A ⟨k-1,ω,j+1,_,by first|(rw[<-w];rfl)|rw[<-w],ω,Axn hw.small hw.code hh (h.dut.1 _<|Av Dk (ω:j<s.V0.length)).1⟩
 .exact A ⟨k-1,ω,j+1,c,by first|(rw[<-w];rfl)|rw[<-w],ω,hh⟩
end
def o1(c:aG)(a d:Int)(k:Bool):aG:=aZ a d k c.E3 c.X2 c.P5 c.T1 c.V2 c.K4
def o2(c:aG)(p:Int):aG:=aZ c.M1 c.E1 c.C3 c.E3 c.X2 c.P5 c.T1 p c.K4
def o3(c:aG)(f:Bool):aG:=aZ c.M1 c.E1 c.C3 c.E3 c.X2 c.P5 c.T1 c.V2 f
def o4(c:aG):aG:=aZ c.M1 c.E1 c.C3 c.E3 c.X2 c.P5 0 c.V2 c.K4
def Ba9(l:List aG)(i:Nat)(a d:Int)(k:Bool):List aG:=l.set i<|o1 (l.getD i Af) a d k
def Bba(l:List aG)(i:Nat)(a d:Int)(k:Bool)(p:Int):List aG:=(Ba9 l i a d k).set i<|o2 ((Ba9 l i a d k).getD i Af) p
def WT(l:List aG)(i:Nat)(a d:Int)(k:Bool)(p:Int)(f:Bool):List aG:=(Bba l i a d k p).set i<|o3 ((Bba l i a d k p).getD i Af) f
def Aaj(l:List aG)(i:Nat)(a d:Int)(k:Bool)(p:Int)(f:Bool):List aG:=(WT l i a d k p f).set i<|o4<|(WT l i a d k p f).getD i Af
def Ag7{l:List aG}(hi:i<l.length)(a d:Int)(k:Bool)(p:Int)(f:Bool):WT l i a d k p f=l.set i (o3 (o2 (o1 (l.getD i Af) a d k) p) f):=by unfold WT Bba Ba9;simp only[Am _ _ hi,g8_]
def Ane{l:List aG}(hi:i<l.length)(a d:Int)(k:Bool)(p:Int)(f:Bool):Aaj l i a d k p f=l.set i (o4<|o3 (o2 (o1 (l.getD i Af) a d k) p) f):=by unfold Aaj;rw[Ag7 hi,Am _ _ hi,g8_]
structure FinO(b:Bldg)(m:Img)(i:Nat)(c d:CarOutput):Prop where
 lu:d.E3=c.E3
 ld:d.X2=c.X2
 gong:d.P5=c.P5
 phase:d.V2=phA m i
 flag:d.K4=flA m i
 coils:Bc9 (phA m i) d.M1 d.E1 d.C3
 cmd:Me (phA m i) d.T1=true
 cmdr:CmdR d.T1
 inj:Fz b (d.M1,d.E1)
structure Fin(b:Bldg)(g:Bool)(t t':Pk):Prop where
 m:PM b t'.m
 im:t'.m.E0=t.m.E0
 st:t'.m.S1=t.m.S1
 bu:t'.budget=t.budget
 e:t'.e=t.e
 out:t'.out={ t.out with E6:=(ofC t.m.E0.B0 (0,0)).1,C6:=(ofC t.m.E0.B0 (0,0)).2,F6:=!g,A0:=t'.out.A0 }
 oc:t'.out.A0.length=b.A0.length
 cars:∀i,i<b.A0.length->FinO b t.m.E0 i (t.out.A0.getD i Af) (t'.out.A0.getD i Af)
 con:t'.m.Z0=t.m.Z0
def Pk.sLmp(t:V)(c:Int×Int)(f:Bool):V:={ t with out:={ t.out with E6:=c.1,C6:=c.2,F6:=f } }
section
variable{b:Z}(hw:BW b){x:Inp}{g:Bool}
include hw
set_option maxHeartbeats 4000000 in
theorem Bbb(hm:PM b t.m)(hr:PR b t):R (BG (((),t.m.E0.G0,(t.m.E0.G0.length:Int),(0:Int),()),(t.tup b x g,()))) λy=>∃S,y=((),(S.tup b x g,()))/\PM b S.m/\Fix t S/\S.out.A0.length=b.A0.length/\∀i,i<b.A0.length->FinO b t.m.E0 i (t.out.A0.getD i Af) (S.out.A0.getD i Af):=by
 have he:=Ah hw.code;have hp:=hm.jst.img.lp;unfold BG;refine aL (λ(k:Nat) z=>∃(i:Nat) (S:V),z=(((),t.m.E0.G0,(t.m.E0.G0.length:Int),(i:Int),()),(S.tup b x g,()))/\i+k=b.A0.length/\PM b S.m/\PR b S/\Fix t S/\(∀j,j<i->FinO b t.m.E0 j (t.out.A0.getD j Af) (S.out.A0.getD j Af))/\∀j,i<=j->S.out.A0.getD j Af=t.out.A0.getD j Af) (λk z hz=>?_) b.A0.length ⟨0,t,rfl,n_ _,hm,hr,.rfl' t,λj hj=>absurd hj<|Y_ j,λj _=>rfl⟩ ω;obtain⟨i,u,rfl,hk,O,h7,hf,h1,h2⟩:=hz;show R (u.ap (CB t.m.E0.G0 (t.m.E0.G0.length:Int) (i:Int)) b x g) _;unfold aP CB;refine N (λq=>?_) λq=>A ⟨u,rfl,O,hf,h7.oc,λj hj=>h1 j (by have:=o_ q;omega)⟩;have q:(i:Int)<(t.m.E0.G0.length:Int):=k_ q;have hi:i<b.A0.length:=ω;have w:=Cm (n:=i) ω;have ha:aA (i:Int) u.m.E0.R0.length=B:=U ω (by rw[O.jst.img.lf];omega);refine I (U ω q) ?_;refine H (Q:=λy=>∃v:V,y=(((),(i:Int),aE t.m.E0 i,t.m.E0.G0,(t.m.E0.G0.length:Int),(i:Int),()),(v.tup b x g,()))/\PM b v.m/\PR b v/\Fix t v/\v.out=u.out) ?_ λy5 h5=>?_
 .refine H (Q:=λy=>∃c:Bool,y=(((),(i:Int),aE t.m.E0 i,t.m.E0.G0,(t.m.E0.G0.length:Int),(i:Int),c,()),(u.tup b x g,()))) (J (Qq _) (N (λ_=>I ha<|A ⟨_,rfl⟩) λ_=>A ⟨_,rfl⟩)) λy2 h2=>?_;obtain⟨c,rfl⟩:=h2;have i2:aA (i:Int) u.m.P0.length=B:=U ω (by rw[O.bel];omega);refine N (λ_=>I i2 ?_) λ_=>A ⟨u,rfl,O,h7,hf,rfl⟩;refine H (YV hw O.jst.img (i:Int)) λy3 _=>H (Ui hw.small hw.code hi (O.belv i hi) _ _) λy4 h4=>I i2 ?_;obtain⟨ya,yb,yc⟩:=y4;obtain⟨v,e4,hv⟩:=h4;change yb=_ at e4;subst e4;exact A ⟨u.sBel i v,rfl,O.sBel hv,h7.sBel i v,⟨⟨hf.im,hf.st,hf.bu,hf.e,hf.out⟩,hf.con⟩,rfl⟩
 obtain⟨v,rfl,h3,D,P,h8⟩:=h5;have j2:aA (i:Int) v.m.P0.length=B:=U ω (by rw[h3.bel];omega);have jo:aA (i:Int) v.out.A0.length=B:=U ω (by rw[D.oc];omega);have jf:aA (i:Int) v.m.E0.R0.length=B:=U ω (by rw[h3.jst.img.lf];omega);have jr:aA (i:Int) v.reset.length=B:=U ω (by rw[D.rst];omega);have h0:i<v.out.A0.length:=by rw[D.oc];exact hi
 refine I jo<|I j2 (H (Aq9 hw hi _<|h3.belv i hi) λy6 h6=>I jf<|I jr ?_);obtain⟨a,d,kc,rfl,L,X⟩:=h6;have p:v.out.A0.getD i Af=t.out.A0.getD i Af:=by rw[h8];exact h2 i<|t_ i
 have E:flA v.m.E0 i=flA t.m.E0 i:=by rw[P.im]
 have e9:=Ag7 h0 a d kc (aE t.m.E0 i)<|flA v.m.E0 i;have h9:=Ane h0 a d kc (aE t.m.E0 i)<|flA v.m.E0 i;have done:∀c:aG,FinO b t.m.E0 i (t.out.A0.getD i Af) c->PM b (v.sOuts<|v.out.A0.set i c).m/\PR b (v.sOuts<|v.out.A0.set i c)/\Fix t (v.sOuts<|v.out.A0.set i c)/\(∀j,j<i+1->FinO b t.m.E0 j (t.out.A0.getD j Af) ((v.sOuts<|v.out.A0.set i c).out.A0.getD j Af))/\∀j,i+1<=j->(v.sOuts<|v.out.A0.set i c).out.A0.getD j Af=t.out.A0.getD j Af:=λc hc=>by
  refine⟨h3,⟨D.leg,D.sho,D.rst,(by show(v.out.A0.set i c).length=_;rw[z_];exact D.oc),Agv D.cmd hc.cmdr i⟩,⟨⟨P.im,P.st,P.bu,P.e,by show({ v.out with A0:=_ }:Outputs)=_;rw[P.out];rfl⟩,P.con⟩,λj hj=>?_,λj hj=>?_⟩
  .show FinO b t.m.E0 j (t.out.A0.getD j Af) ((v.out.A0.set i c).getD j Af);by_cases e:i=j
   .subst e;rw[Am _ _ h0];exact hc
   .rw[As _ _ e,h8];exact h1 j ω
  .show(v.out.A0.set i c).getD j Af=_;rw[As _ _ ω,h8];exact h2 j ω
 refine N (λ_=>?_) λ_=>J (Adw _ _) (N (λq7=>?_) λq7=>?_)
 .obtain⟨d1,d2,d3,d4,d5⟩:=done (o4<|o3 (o2 (o1 (v.out.A0.getD i Af) a d kc)<|aE t.m.E0 i)<|flA v.m.E0 i) ⟨by rw[<-p];rfl,by rw[<-p];rfl,by rw[<-p];rfl,rfl,E,L,rfl,rfl,X⟩;refine A ⟨k-1,ω,i+1,v.sOuts<|Aaj v.out.A0 i a d kc (aE t.m.E0 i)<|flA v.m.E0 i,by first|(rw[<-w];rfl)|rw[<-w],ω,?_⟩;rw[h9];exact⟨d1,d2,d3,d4,d5⟩
 .obtain⟨d1,d2,d3,d4,d5⟩:=done (o4<|o3 (o2 (o1 (v.out.A0.getD i Af) a d kc)<|aE t.m.E0 i)<|flA v.m.E0 i) ⟨by rw[<-p];rfl,by rw[<-p];rfl,by rw[<-p];rfl,rfl,E,L,rfl,rfl,X⟩;refine A ⟨k-1,ω,i+1,v.sOuts<|Aaj v.out.A0 i a d kc (aE t.m.E0 i)<|flA v.m.E0 i,by first|(rw[<-w];rfl)|rw[<-w],ω,?_⟩;rw[h9];exact⟨d1,d2,d3,d4,d5⟩
 .have q7:(!Me (aE t.m.E0 i) ((WT v.out.A0 i a d kc (aE t.m.E0 i)<|flA v.m.E0 i).getD i Af).T1)=C:=q7;rw[e9,Am _ _ h0]at q7;obtain⟨d1,d2,d3,d4,d5⟩:=done (o3 (o2 (o1 (v.out.A0.getD i Af) a d kc)<|aE t.m.E0 i)<|flA v.m.E0 i) ⟨by rw[<-p];rfl,by rw[<-p];rfl,by rw[<-p];rfl,rfl,E,L,by simpa using q7,(by show CmdR (v.out.A0.getD i Af).T1;exact D.cmd i),X⟩;refine A ⟨k-1,ω,i+1,v.sOuts<|WT v.out.A0 i a d kc (aE t.m.E0 i)<|flA v.m.E0 i,by first|(rw[<-w];rfl)|rw[<-w],ω,?_⟩;rw[e9];exact⟨d1,d2,d3,d4,d5⟩
theorem Bbd(hm:PM b t.m)(hr:PR b t):R (t.ap Ca b x g) λy=>∃p,y=((),(p.tup b x g,()))/\Fin b g t p:=by
 have O:=CW hw.small hm.jst.img;have w:ET t.m.E0.G0 t.m.E0.R0 t.m.E0.K0 t.m.E0.B0=W (((),()),(((ofC t.m.E0.B0 (0,0)).1,(ofC t.m.E0.B0 (0,0)).2,()),())):=by unfold ET;exact Ae (Vm ω) rfl
 unfold aP Ca;refine J w ?_;refine H (Bbb hw (x:=x) (g:=g) (t:=t.sLmp (ofC t.m.E0.B0 (0,0))<|!g) hm ⟨hr.leg,hr.sho,hr.rst,hr.oc,hr.cmd⟩) λL a=>?_;obtain⟨p,rfl,h1,a,D,E⟩:=a;exact A ⟨p,rfl,h1,a.im,a.st,a.bu,a.e,by rw[a.out];rfl,D,E,a.con⟩
end
def RunR(b:Z)(x:Inp)(g:Bool)(t D:V):Prop:=∃(p a:V) (L:List aC),PM b p.m/\PR b p/\FixR t p/\(∀r∈L,Uv b r)/\L.length<=8/\(a.out={ p.out with A0:=a.out.A0 }/\(g=B->∀j,j<b.A0.length->AI (aE p.m.E0 j)=B->DC a j))/\
 ((De b p a L/\D=a)\/(Al b p a L/\∃(w:V) (E:List aC),((g=C/\w=a/\E=[])\/(g=B/\Opr b x g a w E))/\
  ((De b a w E/\D=w)\/(Al b a w E/\∃(y:V) (vs:List aK),Dsp b x g w y vs/\
   ((y.e=8/\D=y)\/(y.e=0/\Fin b g y D))))))
section
variable{b:Z}(hw:BW b){x:Inp}{g:Bool}(hx:g=B->InOK b x)
include hw hx
theorem Bmw(hm:PM b t.m)(hr:PR b t)(hb:Bud t):R (t.ap DG b x g) λy=>∃t',(y=.inl ((),(t'.tup b x g,()))\/y=.inr ((),(t'.tup b x g,())))/\RunR b x g t t':=by
 refine H (Q:=λy=>∃w,y=(((),(),(),(),()),(((),(),(),(),(),()),w.tup b x g,()))/\PM b w.m/\PR b w/\FixR t w) ?_ λy3 h3=>?_
 .refine H (Bkr hw hx hm hr) λy1 h1=>?_;obtain⟨w,e|e,h⟩:=h1
  .subst e;exact A ⟨w,rfl,h⟩
  .subst e;exact A ⟨w,rfl,h⟩
 obtain⟨w,rfl,m1,r1,f1⟩:=h3;have b1:Bud w:=⟨f1.e.trans hb.1,by rw[f1.bu];exact hb.2⟩
 refine Y (show(w.e !=0)=C by rw[b1.1];rfl) ?_;refine H (Bjb hw hx m1 r1 b1) λy4 h4=>?_;obtain⟨D,l1,rfl,O,L,S,o2⟩:=h4;have e8:∀{u v:V}{l:List aC},(Al b u v l\/De b u v l)->(v.e !=0)=B->De b u v l:=λh q=>by
  rcases h with h|h
  .rw[h.e]at q;cases q
  .exact h
 have e0:∀{u v:V}{l:List aC},(Al b u v l\/De b u v l)->(v.e !=0)=C->Al b u v l:=λh q=>by
  rcases h with h|h
  .exact h
  .rw[h.e]at q;cases q
 refine N (λq=>A ⟨D,.inl rfl,w,D,l1,m1,r1,f1,O,L,o2,.inl ⟨e8 S q,rfl⟩⟩) λq=>?_;have E:=e0 S q;have b2:=E.bud b1;refine H (Q:=λy=>∃(a:V) (p:List aC),y=((),(a.tup b x g,()))/\((g=C/\a=D/\p=[])\/(g=B/\Opr b x g D a p))/\(Al b D a p\/De b D a p)) ?_ λy5 h5=>?_
 .show R (D.ap BI b x g) _;refine N (λhg=>?_) λhg=>A ⟨D,[],rfl,.inl ⟨hg,rfl,rfl⟩,.inl ⟨E.e,E.m,E.r,rfl,E.b0,e1_ _,σ,rfl⟩⟩;refine H (Q:=λy=>∃(a:V) (p:List aC),y=((),(a.tup b x g,()))/\Opr b x g D a p) ?_ λy3 h3=>by obtain⟨a,p,rfl,h⟩:=h3;exact A ⟨a,p,rfl,.inr ⟨hg,h⟩,h.res⟩
  refine H (Ayj hw (hx hg) E.m E.r b2) λy1 h1=>?_;obtain⟨a,p,e|e,h⟩:=h1
  .subst e;exact A ⟨a,p,rfl,h⟩
  .subst e;exact A ⟨a,p,rfl,h⟩
 obtain⟨a,p,rfl,X,P⟩:=h5;refine N (λq=>A ⟨a,.inl rfl,w,D,l1,m1,r1,f1,O,L,o2,.inr ⟨E,a,p,X,.inl ⟨e8 P q,rfl⟩⟩⟩) λq=>?_;have a3:=e0 P q;have b3:=a3.bud b2;refine H (Atx hw hx a3.m a3.r b3) λy6 h6=>?_;obtain⟨t4,vs,rfl,hd⟩:=h6;refine N (λq=>A ⟨t4,.inl rfl,w,D,l1,m1,r1,f1,O,L,o2,.inr ⟨E,a,p,X,.inr ⟨a3,t4,vs,hd,.inl ⟨(e8 hd.res q).e,rfl⟩⟩⟩⟩) λq=>?_;have a4:=e0 hd.res q;refine H (Bbd hw a4.m a4.r) λy7 h7=>?_;obtain⟨t5,rfl,hf⟩:=h7;have he:(t5.e !=0)=C:=by rw[hf.e,a4.e];rfl
 exact Y he<|A ⟨t5,.inr rfl,w,D,l1,m1,r1,f1,O,L,o2,.inr ⟨E,a,p,X,.inr ⟨a3,t4,vs,hd,.inr ⟨a4.e,hf⟩⟩⟩⟩
end
def RunR.cases(hw:BW b){g:Bool}{p:V}(h:RunR b x g t p)(hb:Bud t):(p.e=0/\PM b p.m/\p.out.A0.length=b.A0.length/\0<=p.budget)\/(p.e=8/\t.budget<300000):=by
 obtain⟨t1,L,l1,m1,r1,O,h4,h3,o2,⟨d,rfl⟩|⟨S,Q,l2,E,h⟩⟩:=h
 .have:=d.lo
  rw[O.bu]at this;exact .inr ⟨d.e,ω⟩
 have h5:l2.length<=100:=by
  rcases E with⟨_,_,rfl⟩|⟨_,h⟩
  .exact W_ _
  .obtain⟨i,w,P,_,hi,_,rfl,_⟩:=h.how;have h1:=(Zq L.m.E0 x.kind hi (w.getD i C) P).2;have h2:=QZ (Ar L.m.E0 (Ip L.m.E0 x.kind i (w.getD i C) P).1) (bif x.kind !=0 then w.set i C else w) b.A0.length
   have:=Ah m1.jst.img.code
   unfold FX;rw[f_];omega
 have X:=S.b2;rw[O.bu]at X;rcases h with⟨d,rfl⟩|⟨y,t4,vs,hd,h⟩
 .have:=d.lo
  exact .inr ⟨d.e,ω⟩
 have k3:=y.b2;have h6:(KU b x g Q vs).recs.length<=300:=(Adm hw.small hw.code y.m.jst.img y.m.exl y.m.exv Q.m.F4 x.press g hd.va.len).2;rcases h with⟨D,rfl⟩|⟨h0,hf⟩
 .rcases hd.res with a|d
  .rw[a.e]at D;cases D
  .have:=d.lo
   exact .inr ⟨D,ω⟩
 .rcases hd.res with a|d
  .exact .inl ⟨hf.e.trans h0,hf.m,hf.oc,by rw[hf.bu];exact a.b0⟩
  .rw[d.e]at h0;cases h0
end Go.Ovl
namespace Go.Ovl
open Go Go.Ab
variable{b:Z}{r:aM}{t:V}{i j g:Nat}{u:Int×Int}{m:Mch}{n half d:Int}{s:Deb}{c:Car}{l:List Int}
def get_set{s:Sto}(hh:half=0\/half=1)(x:ByteArray):(s.set half x).get half=x:=by rcases hh with rfl|rfl<;>rfl
def set_set{s:Sto}(hh:half=0\/half=1)(x y:ByteArray):(s.set half x).set half y=s.set half y:=by rcases hh with rfl|rfl<;>rfl
section
variable{b:Z}(hw:BW b)
include hw
theorem PM.fit(h:PM b m):m.fit:=by
 have e:=Ah hw.code;have h1:=CW hw.small h.jst.img
 have:=h.exl
 refine⟨h.jst.ents.2,by rw[h.con];omega,by rw[h.bel];omega,λx hx=>?_,by rw[h.car];omega,by rw[h.lod];omega,ω,by rw[h.lit];omega⟩;obtain⟨i,hi,rfl⟩:=bE hx;have a:=((h.belv i (by rw[<-h.bel];exact hi)).dut).len hw.small;rw[g_,h_ hi]at a;have a:m.P0[i].V0.length<=30:=a;omega
theorem PM.isM_eq(h:PM b m):Gq b.C0 b.F0 b.J0 b.L0 b.I0 b.M0 b.O0 b.A0 m.E0.G0 m.E0.R0 m.E0.K0 m.E0.B0 m.S1.h0 m.S1.h1 m.S1.sel m.Z0 m.P0 m.A0 m.L3 m.Z2 m.F4 m.J4 m.X3 m.F3=W ((B,()),()):=by
 have hf:=h.fit hw;have E:=Ah hw.code;have O:=CW hw.small h.jst.img;have hl:=h.exl;have p:=Aa4 hw.small hw.code h.con λx hx=>(h.conv x hx).1;have D:=Agz hw.small hw.code h.bel (λi hi=>(Aid hw.small).2<|h.belv i (by rw[<-h.bel];exact hi)) hf.du;have a:=Ag1 hw.small hw.code h.car h.carv;have e:=Ag0 hf.lo (by rw[h.lod]) h.lodv;have w:R (Gq b.C0 b.F0 b.J0 b.L0 b.I0 b.M0 b.O0 b.A0 m.E0.G0 m.E0.R0 m.E0.K0 m.E0.B0 m.S1.h0 m.S1.h1 m.S1.sel m.Z0 m.P0 m.A0 m.L3 m.Z2 m.F4 m.J4 m.X3 m.F3) λy=>y=((B,()),()):=by
  refine J (UO hw.small m.E0 ω hf.im)<|Y (by rw[Aro h.jst.img h.jst.fits];rfl)<|J (GY ..)<|Y (by rw[a_ h.jst.ok];rfl)<|Y (by rw[hl,Q_])<|J (RV ω h.exv)<|Y rfl<|J (RV (by show 3<=100000;omega) λx hx=>?_)<|Y rfl<|J p<|J D<|J a<|J e ?_
  .simp only[A_,List.not_mem_nil,or_false]at hx;rcases hx with rfl|rfl|rfl
   .exact h.tick
   .exact h.flt
   .exact h.ref
  .refine A ?_;rw[h.lit,q_]
 obtain⟨y,h1,L⟩:=w;rw[h1,L]
theorem Bcy:PM b (Kl b).1/\(Kl b).1.E0=Ph b/\(Kl b).2=0:=by
 have hcode:=hw.code;have p:=Jst.first hcode;have y:=p.fits;have w:=hw.room;have hs:Kl b=((MC b Sto.no 1048576).1,(MC b Sto.no 1048576).2.2):=by unfold Kl;rw[hcode];rfl
 rw[hs];rcases Aq7 hw.small p.ok p.img (p.replay hw.small) ω (bud:=1048576) ω with⟨_,D,E⟩|⟨L,_⟩
 .rw[D];have e:∀{α:Type}{P:α->Prop}{a:α}{n:Nat},P a->∀x∈aS n a,P x:=λh x hx=>by rw[(List.mem_replicate.1 hx).2];exact h
  refine⟨⟨E,P_,e ⟨Bb5<|Amq hcode,e1_ 0,show _<4294967296 by decide⟩,P_,λi hi=>?_,P_,e<|KR hw.small,P_,e τ,P_,d3_ _,?_,i00,i00,i00⟩,rfl,rfl⟩
  .show BelOK b i ((aS b.A0.length VX).getD i AL);rw[g_,List.getElem?_replicate,if_pos hi];exact BelOK.new hw
  .intro x hx;cases hx
 .omega
omit hw in
theorem Aym(hm:m.fit):Rx m.E0.G0 m.E0.R0 m.E0.K0 m.E0.B0 m.S1.h0 m.S1.h1 m.S1.sel m.Z0 m.P0 m.A0 m.L3 m.Z2 m.F4 m.J4 m.X3 m.F3=W (((),()),(m.tup,())):=by
 have hl:R (OJ (((),(),m.P0.length,0,()),(m.tup,Mch.none.tup,()))) λy=>y=(((),(),()),(m.tup,Mch.none.tup,())):=by have O:=hm.be;refine aL (λk z=>∃(i:Nat),z=(((),(),(m.P0.length:Int),(i:Int),()),(m.tup,Mch.none.tup,()))/\i+k=m.P0.length) (λk z E=>?_) m.P0.length ⟨0,rfl,n_ _⟩ ω;obtain⟨i,rfl,P⟩:=E;show R (OO (m.P0.length:Int) (i:Int) m.E0.G0 m.E0.R0 m.E0.K0 m.E0.B0 m.S1.h0 m.S1.h1 m.S1.sel m.Z0 m.P0 m.A0 m.L3 m.Z2 m.F4 m.J4 m.X3 m.F3 [] [] [] [] noB noB 0 [] [] [] [] [] [] 0 0 0) _;unfold OO;refine N (λq=>?_) λ_=>A rfl;have q:(i:Int)<(m.P0.length:Int):=k_ q;have hi:i<m.P0.length:=ω;have w:=Cm (n:=i) ω;have D:=U ω q;have hd:(m.P0.getD i AL).V0.length<=100000:=hm.du _<|Av _ hi;refine I D<|J (BX _ hd)<|I D ?_;refine A ⟨k-1,ω,i+1,?_,ω⟩;have e:m.P0.set i _=m.P0:=Ao1 AL rfl;rw[<-w];exact b5_ (λL=>(((),(),(m.P0.length:Int),aH.wrap _,()),(({ m with P0:=L }:Mch).tup,Mch.none.tup,()))) e
 obtain⟨y,hl,rfl⟩:=hl;have a:=hm.im;refine Ae (BX m.E0.G0 a.p)<|Ae (BX m.E0.R0 a.f)<|Ae (BX m.E0.K0 a.l)<|Ae (BX m.E0.B0 a.e)<|Ae (BX m.Z0 hm.co)<|Ae (BX m.A0 hm.ca)<|Ae (BX m.L3 hm.lo)<|Ae (BX m.Z2 hm.ex)<|Ae (BX m.F4 hm.li)<|Ae (BX m.P0 hm.be)<|Ae hl rfl
def pk0(b:Z)(m:Mch)(bud:Int):V:=⟨m,bud,0,aS b.A0.length C,aS b.A0.length<|aX 0 0,aS b.A0.length C,⟨0,0,0,0,C,C,0,aS b.A0.length Af⟩⟩
@[reducible] def outP(o:Outputs):=(o.E6,o.C6,o.L4,o.I4,o.F6,o.M0,o.D6,o.A0,())
def noOut:Outputs:=⟨0,0,0,0,C,C,0,[]⟩
omit hw in
theorem Aq8(n i:Nat):CmdR ((aS n Af).getD i Af).T1:=by rw[g_,List.getElem?_replicate];split<;>rfl
def Bdq(b:Z)(m:Mch)(s:ByteArray)(bud:Int)(e:Int)(p:Mch)(o:Outputs):Prop:=∃(x:Inp) (a:V),((Ek b s=0/\InOK b x)\/(Ek b s≠0/\x=Inp.none))/\EF b.C0 b.F0 b.J0 b.L0 b.I0 b.M0 b.O0 b.A0 s=W (((),Ek b s,()),(x.tup,()))/\RunR b x (Ek b s==0) (pk0 b m bud) a/\e=a.e/\(e=0->p=a.m/\o=a.out)/\(e≠0->p={ Mch.none with S1:=a.m.S1 }/\o=noOut)
theorem Bmr{s:ByteArray}(hs:Fr b s):RdX b s:=Aes hw.small hw.code hs
theorem Bkv(hm:PM b m){s:ByteArray}(hs:RdX b s){bud:Int}(hb:0<=bud/\bud<9223372036854775808):R (HN b.C0 b.F0 b.J0 b.L0 b.I0 b.M0 b.O0 b.A0 m.E0.G0 m.E0.R0 m.E0.K0 m.E0.B0 m.S1.h0 m.S1.h1 m.S1.sel m.Z0 m.P0 m.A0 m.L3 m.Z2 m.F4 m.J4 m.X3 m.F3 s bud) λy=>∃e X o,y=(((),(),e,()),(X.tup,outP o,()))/\Bdq b m s bud e X o:=by
 have h2:=Ah hw.code;have hf:=hm.fit hw;obtain⟨x,w,S,D⟩:=hs;have p:((aR (0<=b.A0.length)&&decide (b.A0.length<=(b.A0.length:Int)))&&decide ((b.A0.length:Int)<=2147483648))=B:=by simp only[b_,r_];omega
 refine J w<|I p<|I p<|I p<|I p ?_;refine J (BX m.Z0 hf.co)<|J (BX m.P0 hf.be)<|J (BX m.A0 hf.ca)<|J (BX m.L3 hf.lo) ?_;have P:=λh=>D<|eq_of_beq h;have O:PR b<|pk0 b m bud:=⟨P_,P_,P_,P_,λi=>Aq8 _ i⟩
 have L:=Bmw hw P hm O ⟨rfl,hb⟩;refine H (Q:=λy=>∃a,y=(((),(),(),()),(Mch.none.tup,outP noOut,a.tup b x<|Ek b s==0,()))/\RunR b x (Ek b s==0) (pk0 b m bud) a) ?_ λy8 h8=>?_
 .refine H L λy6 h6=>?_;obtain⟨a,e|e,h⟩:=h6
  .subst e;exact A ⟨a,rfl,h⟩
  .subst e;exact A ⟨a,rfl,h⟩
 obtain⟨a,rfl,hR⟩:=h8;have E:(Ek b s=0/\InOK b x)\/(Ek b s≠0/\x=Inp.none):=by
  by_cases h:Ek b s=0
  .exact .inl ⟨h,D h⟩
  .exact .inr ⟨h,S h⟩
 refine N (λq=>?_) λq=>?_
 .have q:(a.e !=0)=B:=q;have q:a.e≠0:=by simpa using q
  exact A ⟨a.e,{ Mch.none with S1:=a.m.S1 },noOut,rfl,x,a,E,w,hR,rfl,λh=>absurd h q,λ_=>⟨rfl,rfl⟩⟩
 .have q:(a.e !=0)=C:=q;have q:a.e=0:=by simpa using q
  exact A ⟨0,a.m,a.out,rfl,x,a,E,w,hR,q.symm,λ_=>⟨rfl,rfl⟩,λh=>absurd rfl h⟩
end
structure Sit where
 m:Mch
 rl:List Relay
 rg:List Rig
structure Psh where
 press:Int×Int
 kind:Int
 car:Int
 cars:List Int
 times:List Int
 blocks:List Bool
 loads:List Nat
 bad:Bool
@[reducible] def En(s:Sit):=(s.m.E0.G0,s.m.E0.R0,s.m.E0.K0,s.m.E0.B0,s.m.S1.h0,s.m.S1.h1,s.m.S1.sel,s.m.Z0,s.m.P0,s.m.A0,s.m.L3,s.m.Z2,s.m.F4,s.m.J4,s.m.X3,s.m.F3,s.rl,s.rg,())
@[reducible] def RL(p:Psh):=(p.press.1,p.press.2,p.kind,p.car,p.cars,p.times,p.blocks,p.loads,p.bad,())
@[reducible] def Sit.ap{α:Type}(s:Sit)(f:List Int->List Bool->List Bool->List aT->ByteArray->ByteArray->Int->List aU->List Belief->List NewCar->List Loaded->List Int->List Calls->Int->Int->Int->List aM->List Rig->α):α:=f s.m.E0.G0 s.m.E0.R0 s.m.E0.K0 s.m.E0.B0 s.m.S1.h0 s.m.S1.h1 s.m.S1.sel s.m.Z0 s.m.P0 s.m.A0 s.m.L3 s.m.Z2 s.m.F4 s.m.J4 s.m.X3 s.m.F3 s.rl s.rg
@[reducible] def Bldg.ap{α:Type}(b:Z)(f:Int->Int->Int->Int->Nat->Nat->Nat->List Car->α):α:=f b.C0 b.F0 b.J0 b.L0 b.I0 b.M0 b.O0 b.A0
@[reducible] def Psh.ap{α:Type}(p:Psh)(f:Int->Int->Int->Int->List Int->List Int->List Bool->List Nat->Bool->α):α:=f p.press.1 p.press.2 p.kind p.car p.cars p.times p.blocks p.loads p.bad
@[reducible] def Outputs.ap{α:Type}(o:Outputs)(f:Int->Int->Int->Int->Bool->Bool->Int->List aG->α):α:=f o.E6 o.C6 o.L4 o.I4 o.F6 o.M0 o.D6 o.A0
structure SitOK(b:Bldg)(s:Sit):Prop where
 pm:PM b s.m
 rll:s.rl.length=b.A0.length
 rl:∀r∈s.rl,RelOK b r
 rgl:s.rg.length=b.A0.length
 rg:∀r∈s.rg,RigOK b.C0 r
structure PshOK(b:Bldg)(p:Psh):Prop where
 press:ML b p.press=true
 pu:Jw p.press
 kind:0<=p.kind/\p.kind<=8
 car:0<=p.car/\p.car<(b.A0.length:Int)
 none:p.kind=0->p.car=0
 cl:p.cars.length=b.A0.length
 cv:∀c∈p.cars,C2 b.C0 c
 tl:p.times.length=b.A0.length
 bl:p.blocks.length=b.A0.length
 ll:p.loads.length=b.A0.length
section
variable{b:Z}(hw:BW b)
include hw
omit hw in
theorem Aex{α β:Type}{l:List α}(d:α)(f:β->α->Option ((Bool×Unit)×(β×Unit))){c:β}(hl:l.length<=1000)(h:∀x∈l,f c x=W ((C,()),(c,()))){step:(List α×Unit×Int×Int×Unit)×(β×Unit)->Option (Sum ((List α×Unit×Int×Int×Unit)×(β×Unit))<|(Unit×(β×Unit))⊕((Int×Unit)×(β×Unit)))}(hs:∀x,step x=bif decide (x.1.2.2.2.1<x.1.2.2.1)then(bif aA x.1.2.2.2.1 x.1.1.length then Option.bind (f x.2.1<|x.1.1.getD x.1.2.2.2.1.toNat d) λy=>bif y.1.1 then W (.inr<|.inr ((x.1.2.2.2.1,()),(y.2.1,())))else W (.inl ((x.1.1,(),x.1.2.2.1,aH.wrap<|x.1.2.2.2.1+1,()),(y.2.1,())))else none)else W (.inr<|.inl ((),(x.2.1,())))):BM step DF ((l,(),(l.length:Int),(0:Int),()),(c,()))=W (.inl ((),(c,()))):=by refine Sat.eq<|aL (λk z=>∃i:Nat,z=((l,(),(l.length:Int),(i:Int),()),(c,()))/\i+k=l.length) (λk z e=>?_) l.length ⟨0,rfl,n_ _⟩ ω;obtain⟨i,rfl,p⟩:=e;rw[hs];dsimp only;refine N (λq=>?_) λ_=>A rfl;have q:=k_ q;have a:=Cm (n:=i) ω;exact I (U ω q)<|J (h _<|Av d ω)<|Y rfl<|A ⟨k-1,ω,i+1,by rw[<-a],ω⟩
theorem Bf5{l:List aM}(hl:l.length=b.A0.length)(h:∀r∈l,RelOK b r):Bf l b.C0 b.F0 b.J0 b.L0 b.I0 b.M0 b.O0 b.A0=W ((C,()),(b.tup,())):=Ae (Ae (Aex AF (λc r=>IE r.R1 r.D0 r.H0 r.I2 r.Y0 r.M2 r.P1 r.D1 r.X0 c.1 c.2.1 c.2.2.1 c.2.2.2.1 c.2.2.2.2.1 c.2.2.2.2.2.1 c.2.2.2.2.2.2.1 c.2.2.2.2.2.2.2.1) (c:=b.tup) (by have:=Ah hw.code;omega) (λ_ hr=>Ae (Od hw.small hw.code<|h _ hr) rfl) λ_=>rfl) rfl) rfl
theorem Bf7{l:List Rig}(hl:l.length=b.A0.length)(h:∀r∈l,RigOK b.C0 r):Bl l b.C0 b.F0 b.J0 b.L0 b.I0 b.M0 b.O0 b.A0=W ((C,()),(b.tup,())):=Ae (Ae (Aex AT (λc r=>IF r.D0 r.R2 r.Y1 r.Y0 r.Z3 r.G3 c.1 c.2.1 c.2.2.1 c.2.2.2.1 c.2.2.2.2.1 c.2.2.2.2.2.1 c.2.2.2.2.2.2.1 c.2.2.2.2.2.2.2.1) (by have:=Ah hw.code;omega) (λ_ hr=>Ae (Qm ⟨hw.small.lo,hw.small.hi⟩<|h _ hr) rfl) λ_=>rfl) rfl) rfl
theorem Bfi(hl:l.length=b.A0.length)(h:∀c∈l,C2 b.C0 c):Bz l b.C0 b.F0 b.J0 b.L0 b.I0 b.M0 b.O0 b.A0=W ((C,()),(b.tup,())):=Ae (Ae (Aex 0 (λc r=>FM r c.1 c.2.1 c.2.2.1 c.2.2.2.1 c.2.2.2.2.1 c.2.2.2.2.2.1 c.2.2.2.2.2.2.1 c.2.2.2.2.2.2.2.1) (by have:=Ah hw.code;omega) (λx hr=>by have lo:=hw.small.lo;have hi:=hw.small.hi;show FM x b.C0 b.F0 b.J0 b.L0 b.I0 b.M0 b.O0 b.A0=_;unfold FM;rw[show aI _ _=aF b.C0 by show min _ 32=_;omega,a_ ω,bne,QM.2<|h _ hr];rfl) λ_=>rfl) rfl) rfl
theorem Bfy(hl:l.length=b.A0.length)(h:∀f∈l,0<=f/\f<b.C0):Cl l b.C0 b.F0 b.J0 b.L0 b.I0 b.M0 b.O0 b.A0=W ((C,()),(b.tup,())):=
 Ae (Ae (Aex 0 (λc r=>Gr r c.1 c.2.1 c.2.2.1 c.2.2.2.1 c.2.2.2.2.1 c.2.2.2.2.2.1 c.2.2.2.2.2.2.1 c.2.2.2.2.2.2.2.1) (by have:=Ah hw.code;omega) (λx hr=>by
  have:=h _ hr
  show Gr x b.C0 b.F0 b.J0 b.L0 b.I0 b.M0 b.O0 b.A0=_;unfold Gr;rw[c_ ω,c_ ω];rfl) λ_=>rfl) rfl) rfl
theorem Wd{s:Sit}(h:SitOK b s):s.ap (b.ap IL)=W ((B,()),()):=by
 have e:=h.rll;have a:=h.rgl;have k:s.ap (b.ap PL)=W ((B,()),()):=by
  have p:(b.code !=0)=C:=by rw[hw.code];rfl
  have w:((s.rl.length:Int) !=(b.A0.length:Int))=C:=by rw[e];exact Q_ _
  have y:((s.rg.length:Int) !=(b.A0.length:Int))=C:=by rw[a];exact Q_ _
  refine Ae (Az ..) ?_;rw[p,w,y];exact Ae (Ae (Bf5 hw e h.rl)<|Ae (Bf7 hw a h.rg) rfl) rfl
 exact Ae (Ae (h.pm.isM_eq hw)<|Ae k rfl) rfl
theorem ZF{p:Psh}(h:PshOK b p):p.ap (b.ap Va)=W ((B,()),()):=by
 have D:=h.kind;have hc:=h.car;refine Sat.eq ?_;have a:∀{n:Nat},n=b.A0.length->((n:Int) !=(b.A0.length:Int))=C:=λe=>by rw[e];exact Q_ _
 have hp:(Dj p.press<|Bj b).1=0/\(Dj p.press<|Bj b).2=0:=by have h1:=h.press;unfold ML isZ at h1;simpa using h1
 refine Y (a h.cl)<|Y (a h.tl)<|Y (a h.bl)<|Y (a h.ll)<|J (DL hw.small hw.code)<|J (GG p.press _)<|Y ?_ ?_
 .rw[hp.1,hp.2];rfl
 refine H (Q:=λy=>y=(((),(),C,()),(b.tup,RL p,()))) (Y (c_ ω)<|Y (c_ ω)<|Y (c_ ω)<|Y (c_ ω) (N (λq=>A ?_) λ_=>A rfl)) λy w=>?_
 .have e:(p.car !=0)=C:=by rw[h.none<|eq_of_beq q];rfl
  rw[e];rfl
 subst w;exact Y rfl<|J (Bfi hw h.cl h.cv)<|A rfl
theorem Aa6(h:RelOK b r):R (Ia r.R1 r.D0 r.H0 r.I2 r.Y0 r.M2 r.P1 r.D1 r.X0) λy=>C2 b.C0 y.2.1.1:=by
 have hf:=h.fl;have hi:=hw.small.hi;obtain⟨n,w⟩:=c6_ hf.1;obtain⟨m,hm⟩:=c6_ (ω:0<=b.C0);have e:C2 b.C0<|aD aB<|1*(2^(aI (aF r.D0)<|IntKind.bits aB)):=by
  rw[w,hm]at hf|-;have h1:n<m:=ω;have p:m<9:=ω;have k:∀m:Nat,m<9->∀n:Nat,n<m->0<=aB.wrap (1*(2^(aI (aF n)<|IntKind.bits aB)))/\(aD aB<|1*(2^(aI (aF n)<|IntKind.bits aB))).toNat<2^((m:Int)).toNat:=by decide+kernel
  exact k m p n h1
 refine H (Q:=λy=>y.2.1.2.1=r.D0/\C2 b.C0 y.2.2.2.1.1) (N (λ_=>J (Ps ..)<|A ⟨rfl,C2.zero⟩) λ_=>A ⟨rfl,C2.zero⟩) λy a=>?_;refine N (λ_=>?_) λ_=>A a.2;rw[a.1];exact I (a_ hf.1)<|A e
theorem Ah5{s:Sit}(h:SitOK b s){p:Psh}(hp:PshOK b p):R (p.ap<|s.ap<|b.ap Lf) λy=>∃x:Inp,y=(((),0,()),(x.tup,()))/\InS b x:=by
 have X:=Ah hw.code;have O:=h.rll;have P:=h.rgl;refine J (Wd hw h)<|Y rfl<|J (ZF hw hp)<|Y rfl ?_;refine H (Q:=λy=>∃(xs:List CarInput) (w:Unit×Unit×Unit),y=(w,((0,0,0,0,[],()),(p.press.1,p.press.2,p.kind,p.car,xs,()),()))/\xs.length=b.A0.length/\∀c∈xs,InC b c) ?_ λy hy=>?_
 .unfold LM;refine aL (λk z=>∃(i:Nat) (xs:List CarInput),z=(((),(),(),(),(b.A0.length:Int),(i:Int),()),(En s,RL p,(0,0,0,0,[],()),(p.press.1,p.press.2,p.kind,p.car,xs,()),()))/\i+k=b.A0.length/\xs.length=i/\∀c∈xs,InC b c) (λk z L=>?_) b.A0.length ⟨0,[],rfl,n_ _,rfl,λc hc=>by cases hc⟩ ω;obtain⟨i,xs,rfl,hk,hx,D⟩:=L;show R (p.ap (s.ap<|LO b.A0.length i) 0 0 0 0 [] p.press.1 p.press.2 p.kind p.car xs) _;refine N (λq=>?_) λq=>A ⟨xs,_,rfl,?_,D⟩
  .have q:=k_ q;have S:=Cm (n:=i) ω;have a:∀{n:Nat},n=b.A0.length->aA _ n=B:=λe=>by rw[e];exact U ω q
   have hr:=h.rl _<|Av AF (ω:i<s.rl.length);have E:=h.rg _<|Av AT (ω:i<s.rg.length);have hc:=hp.cv _<|Av 0 (show i<p.cars.length by have:=hp.cl;omega);refine I (a O) (H (Aa6 hw hr) λy1 h1=>I (a P)<|I (a hp.bl)<|J rfl<|I (a hp.cl)<|I (a hp.ll)<|I (AR (by show xs.length+1<=_;omega))<|A ⟨k-1,ω,i+1,_,by first|(rfl)|rw[<-S],ω,by rw[f_];show xs.length+1=_;omega,λc hm=>?_⟩);rcases m_.1 hm with hm|hm
   .exact D c hm
   .rw[y_.1 hm];refine⟨h1,hc,E.f,?_⟩;rcases E.dr with⟨e,_⟩|⟨e|e,_⟩
    .exact show 0<=(s.rg.getD i AT).Y0/\(s.rg.getD i AT).Y0<=2 by omega
    .exact show 0<=(s.rg.getD i AT).Y0/\(s.rg.getD i AT).Y0<=2 by omega
    .exact show 0<=(s.rg.getD i AT).Y0/\(s.rg.getD i AT).Y0<=2 by omega
  .have q:=o_ q;omega
 .obtain⟨xs,w,rfl,hx,D⟩:=hy;exact A ⟨⟨p.press,p.kind,p.car,xs⟩,rfl,hp.press,hp.pu,hp.kind,hp.car,hp.none,hx,D⟩
end
def Biw(h:s.wf)(r:Contacts)(hi:i<36)(w:j<36):((s.at n r i).c.get j,(s.at n r i).k.getD j 0)=if j=i then(if r.get j=s.c.get j then(s.c.get j,0)else if s.k.getD j 0+1=n then(r.get j,0)else(s.c.get j,s.k.getD j 0+1))else(s.c.get j,s.k.getD j 0):=by
 have a:∀(v:Int),(s.k.set i v).getD j 0=if j=i then v else s.k.getD j 0:=λv=>by
  rw[<-Xc (by rw[h.len];exact hi),Bs];by_cases e:i=j
  .simp[e]
  .simp[e,a7_ e]
 have p:(s.c.set (i:Int)<|r.get i).get j=if(j:Int)=i then r.get i else s.c.get j:=Contacts.get_set s.c (r.get i) ω ω
 unfold Deb.at;by_cases e:j=i
 .subst e;rw[if_pos rfl];split
  .dsimp only;rw[a,if_pos rfl]
  .split
   .dsimp only;rw[a,if_pos rfl,p,if_pos rfl]
   .dsimp only;rw[a,if_pos rfl]
 .rw[if_neg e];split
  .dsimp only;rw[a,if_neg e]
  .split
   .dsimp only;rw[a,if_neg e,p,if_neg ω]
   .dsimp only;rw[a,if_neg e]
def Ani{n:Int}(r:Contacts){j:Nat}(D:j<36):∀(m i:Nat) (s:Deb),i+m<=36->s.wf->s.is n->
  ((Ba (Deb.at n r) m i s).c.get j,(Ba (Deb.at n r) m i s).k.getD j 0)=if i<=j/\j<i+m then(if r.get j=s.c.get j then(s.c.get j,0)else if s.k.getD j 0+1=n then(r.get j,0)else(s.c.get j,s.k.getD j 0+1))else(s.c.get j,s.k.getD j 0)
 |0,i,s,_,_,_=>by rw[if_neg ω];rfl
 |m+1,i,s,hi,h,hs=>by
  have w:=Ak0 h hs (r:=r) (ω:i<36);have e:=Ani r D m (i+1) (s.at n r i) ω w.1 w.2;have a:=Biw (n:=n) h r (ω:i<36) D;show((Ba (Deb.at n r) m (i+1)<|s.at n r i).c.get j,(Ba (Deb.at n r) m (i+1)<|s.at n r i).k.getD j 0)=_;rw[e];by_cases z:j=i
  .rw[if_pos z]at a;rw[if_neg (ω:¬(i+1<=j/\j<i+1+m)),if_pos (ω:i<=j/\j<i+(m+1)),a]
  .rw[if_neg z]at a;have E:=b5_ aY a;have y:=b5_ Prod.snd a;dsimp only at E y;rw[E,y];by_cases p:i+1<=j/\j<i+1+m
   .rw[if_pos p,if_pos (ω:i<=j/\j<i+(m+1))]
   .rw[if_neg p,if_neg (ω:¬(i<=j/\j<i+(m+1)))]
def Cw(r:aM):Contacts:=⟨bif r.R1==1 then 0 else aB.wrap ((1:Int)*((2:Int)^(aI (aF r.D0)<|IntKind.bits aB))),r.H0==1,r.H0==2,r.Y0==1,r.Y0==2⟩
def ZU(c:Car)(r:aM)(s:Deb):Prop:=r.R1=3->∀j:Nat,j<36->s.c.get j≠(Cw r).get j->c.F1-r.M2<=s.k.getD j 0
def ZG(h:s.wf)(hs:s.is n)(hw:ZU c r s):r.R1=3->∀j:Nat,j<36->(s.step n<|Cw r).c.get j≠(Cw r).get j->c.F1-r.M2+1<=(s.step n<|Cw r).k.getD j 0:=λD j p a=>by
 have e:=Ani (n:=n) (Cw r) p 36 0 s ω h hs;rw[if_pos ω]at e;have y:(s.step n<|Cw r).c.get j=_:=b5_ aY e;have w:(s.step n<|Cw r).k.getD j 0=_:=b5_ Prod.snd e;have k:=hw D j p;rw[y]at a;rw[w];split at a
 .rename_i z;exact absurd z.symm a
 .rename_i z;rw[if_neg z];split at a
  .exact absurd rfl a
  .rename_i E;rw[if_neg E]
   have:=k λe=>z e.symm
   show c.F1-r.M2+1<=s.k.getD j 0+1;omega
def Ba0(hb:b.small)(h:RelOK b r):(Cw r).wf:=by
 unfold Cw Contacts.wf;cases r.R1==1
 .exact FB _
 .exact show(0:Int)<=0/\(0:Int)<4294967296 by decide
def Avx(hb:b.small)(hr:RelOK b r)(h:s.wf)(hs:s.is n)(hw:ZU c r s)(w:r.R1=3)(E:n<=c.F1-r.M2+1):(s.step n<|Cw r).c=Cw r:=by
 obtain⟨p,y⟩:=Wh h hs<|Cw r;refine Contacts.ext' p.c (Ba0 hb hr) λj h0 D=>Decidable.byContradiction λa=>?_;have e:((j.toNat:Nat):Int)=j:=a6_ h0;have k:=ZG h hs hw w j.toNat ω (by rw[e];exact a)
 have:=(y.2.2 j.toNat ω).2
 omega
def Azh{p:aM}(hq:RelQ b.C0 c r p u)(hr:RelOK b r)(y:RelOK b p)(h:s.wf)(hs:s.is n)(hw:ZU c r s):ZU c p<|s.step n<|Cw r:=λD j O a=>by
 obtain⟨_,S⟩:=Wh h hs<|Cw r;rcases hq.wait D with e|⟨w,P,Q,X⟩
 .have:=(S.2.2 j O).1
  omega
 .have e:Cw p=Cw r:=by
   have L:=hr.dr;have E:=y.dr;rw[w]at L;rw[D]at E;unfold Cw;rw[w,D,P,Q,L,E]
  rw[e]at a
  have:=ZG h hs hw w j O a
  omega
def Aoe(l:List Duty)(sh:Int×Int)(e:Duty):Prop:=∃a∈l,e.D0=a.D0/\e.H0=a.H0/\e.U3=a.U3+1/\Ax sh a.D0.toNat a.H0=C
def Bir(hb:b.small){D:Int}(X:D<=1000000000){l:List Duty}(h:DutOK b D l)(hA:∀e∈l,e.U3+1<=D)(sh:Int×Int):R (IJ l D sh.1 sh.2) λy=>y.1.2.1=C/\∀e∈y.1.1,Aoe l sh e:=by
 have hl:=h.len hb;unfold IJ OE;refine H (Q:=λy=>match y with|.inl z=>∀e∈z.1.1,Aoe l sh e|.inr _=>False) (aL (λk x=>∃(out:List Duty) (i:Nat),x=((D,(),out,l,(l.length:Int),(i:Int),()),((sh.1,sh.2,()),()))/\i+k=l.length/\out.length<=i/\∀a∈out,Aoe l sh a) ?_ l.length ⟨[],0,rfl,ω,t_ 0,λa p=>by cases p⟩ ω) ?_
 .rintro k x ⟨out,i,rfl,S,hn,p⟩;show R (LN D out l (l.length:Int) (i:Int) sh.1 sh.2) _;unfold LN;refine N (λq=>?_) λ_=>A p;have hi:i<l.length:=by have:=k_ q;omega
  have hm:=R_ hi;have O:=h.each _ hm;have hc:=DA hb O.1;have P:=hA _ hm;have g:List.getD l (aF (i:Int)) (Duty.mk 0 0 0)=l[i]:=gD hi;have w:aH.wrap (l[i].U3+1)=l[i].U3+1:=Aa ω ω;refine I (U ω ω) ?_;simp only[g,w,GS hi (show l.length<=DJ by unfold DJ;omega)];refine Y (c_ ω) ?_;refine J (Ii sh (F:=l[i].D0) (D:=l[i].H0) ⟨ω,ω⟩ ω) ?_;refine N (λE=>?_) λ_=>A ⟨k-1,ω,out,i+1,rfl,ω,ω,p⟩;have E:Ax sh l[i].D0.toNat l[i].H0=C:=by simpa using E
  refine I (e2_ (by simp only[D_,b7_];omega))<|A ⟨k-1,ω,_,i+1,rfl,ω,by rw[f_];simp only[D_,b7_];omega,λa m=>?_⟩;rcases m_.1 m with m|m
  .exact p a m
  .rw[y_.1 m];exact⟨l[i],hm,rfl,rfl,rfl,E⟩
 .intro y L;cases y with
  |inl z=>exact A ⟨rfl,L⟩
  |inr z=>exact L.elim
section
variable{b:Z}(hb:b.small)(hcode:b.code=0){car:Nat}(hcar:car<b.A0.length){x:Belief}(h:BelOK b car x)
include hb hcode hcar h
theorem Av2(hA:∀e∈x.V0,e.U3+1<=(FV b car).K1){o p q:Int}{sh:Int×Int}(hs:∃z,CH b.C0 o p q=W (z,((sh.1,sh.2,()),()))):R (HU b.C0 b.F0 b.J0 b.L0 b.I0 b.M0 b.O0 b.A0 (car:Int) x.D0 x.H0 x.Y0 x.V0 x.I3 x.Y3 o p q) λy=>y.2.1.2.2.2.2.2.1=C/\∀e∈y.2.1.2.2.2.1,Aoe x.V0 sh e:=by
 obtain⟨z,hs⟩:=hs;unfold HU;refine J (Fj hb hcode hcar h)<|Y rfl (H (Q:=λ_=>True) ?_ λS _=>?_)
 .unfold EO;refine H (Q:=λ_=>True) ?_ λ_ h=>A h;refine H (isFloors_ti _).out λ_ _=>N (λ_=>?_) λ_=>A trivial;refine N (λg1=>?_) λ_=>A trivial;refine N (λg2=>?_) λ_=>A trivial;refine N (λg3=>?_) λ_=>A trivial;refine N (λg4=>?_) λ_=>A trivial;exact N (λX=>A trivial) λ_=>A trivial
 refine N (λ_=>A ⟨rfl,λe P=>by cases P⟩) λk=>I (U ω ω) ?_;refine J hs (H (Bir hb (Ab3 hb hcode hcar h) h.dut hA sh) λw E=>?_);refine H (Q:=λ(y:(Unit×Unit×Unit×Int×Unit)×(Ab0×(Int×Int×Int×Unit)×Ab0×Unit))=>y.2.1=Agk ⟨x.D0,x.H0,x.Y0,w.1.1,x.I3,w.1.2.1⟩) ?_ λO a=>?_
 .refine H (Q:=λy=>y.2.1=Agk ⟨x.D0,x.H0,x.Y0,w.1.1,x.I3,w.1.2.1⟩) ?_ λO a=>N (λ_=>A a) λ_=>A a;exact N (λ_=>N (λ_=>A rfl) λ_=>A rfl) λ_=>A rfl
 .refine H (Q:=λy=>y.2.1.2.2.2.1=w.1.1/\y.2.1.2.2.2.2.2.1=w.1.2.1) ?_ λL D=>?_
  .exact N (λ_=>A ⟨by rw[a],by rw[a]⟩) λ_=>A ⟨by rw[a],by rw[a]⟩
  .refine A ⟨?_,?_⟩
   .show L.2.1.2.2.2.2.2.1=C;rw[D.2];exact E.1
   .show ∀e∈L.2.1.2.2.2.1,_;rw[D.1];exact E.2
theorem Azs(u d:Int):R (IV b.C0 b.F0 b.J0 b.L0 b.I0 b.M0 b.O0 b.A0 (car:Int) x.D0 x.H0 x.Y0 x.V0 x.I3 x.Y3 u d) λy=>∀e∈y.2.1.2.2.2.1,e∈x.V0\/e.U3=0:=by
 have hl:=h.dut.len hb;have hd:=YE hcode (c:=FV b car) (by unfold FV;rw[g_,h_ hcar];exact R_ hcar);unfold IV;refine J (Fj hb hcode hcar h)<|Y rfl<|I ?_ ?_
 .simp;omega
 refine J (DL hb hcode)<|J (ED (u,d)<|Bj b)<|J (RH<|Dz (u,d)<|Bj b) ?_;simp only[Aec];have D:∀e∈GO (Dz (u,d)<|Bj b),Aq b e.D0 e.H0=B:=λe D=>Aif hb hcode D;have P:(GO<|Dz (u,d)<|Bj b).length<=1000:=by have:=Bj8<|Dz (u,d)<|Bj b;omega
 generalize GO (Dz (u,d)<|Bj b)=es at D P;refine H (Q:=λy=>∃E,y.2.1=(x.D0,x.H0,x.Y0,E,x.I3,x.Y3,())/\∀e∈E,e∈x.V0\/e.U3=0) ?_ ?_
 .unfold JA;refine aL (λk y=>∃(E:List Duty) (i:Nat),y=(((),(),es,(es.length:Int),(i:Int),()),((x.D0,x.H0,x.Y0,E,x.I3,x.Y3,()),(0,0,0,[],0,C,()),()))/\i+k=es.length/\DutOK b (FV b car).K1 E/\∀e∈E,e∈x.V0\/e.U3=0) ?_ es.length ⟨x.V0,0,rfl,ω,h.dut,λe D=>.inl D⟩ ω;rintro k y ⟨E,i,rfl,hk,L,O⟩;show R (JF es (es.length:Int) (i:Int) x.D0 x.H0 x.Y0 E x.I3 x.Y3 0 0 0 [] 0 C) _;unfold JF;refine N (λq=>?_) λ_=>A ⟨E,rfl,O⟩;have hi:i<es.length:=by have:=k_ q;omega
  refine I (U ω ω) ?_;have g:List.getD es (aF (i:Int)) (Entry.mk 0 0 0 0 C)=es[i]:=by simp only[l_,g_,h_ hi,Option.getD_some]
  simp only[g,GS hi (show es.length<=DJ by unfold DJ;omega)];have hc:=D _<|R_ hi;refine H (Axh hb L (F:=es[i].D0) (DA hb hc).2) ?_;rintro y1 ⟨p,e1,hp,h1,h2⟩;refine N (λq=>?_) λ_=>A ⟨k-1,ω,E,i+1,rfl,ω,L,O⟩;rw[e1];have k1:=Bd8 hb L (DA hb hc).2 hc hd.1 hp h1<|h2 (by simpa using q);have k2:R (BR E (p:Int) [Duty.mk es[i].D0 es[i].H0 0]) λy=>∀e∈y.1.1,e∈E\/e.U3=0:=by
   have:=L.len hb
   unfold BR Acn;refine I (by simp;omega) (A λe D=>?_);rcases m_.1 D with D|D
   .rcases m_.1 D with D|D
    .exact .inl<|e4_ D
    .rw[y_.1 D];exact .inr rfl
   .exact .inl<|e5_ D
  obtain⟨y2,X,z2⟩:=k1;obtain⟨y3,S,z4⟩:=k2;rw[X]at S;obtain rfl:=s_ S;refine J X<|A ⟨k-1,ω,y2.1.1,i+1,rfl,ω,z2.1,λe D=>(z4 e D).elim (O e) .inr⟩
 rintro⟨a,t,w⟩ ⟨E,e,L⟩;change t=_ at e;subst e;exact Sat.bindC (λ_=>Sat.bindR<|A L) λ_=>Sat.bindR<|A L
theorem Be4{p:Int}(hp:AI p=B):R (HL b.C0 b.F0 b.J0 b.L0 b.I0 b.M0 b.O0 b.A0 (car:Int) p x.D0 x.H0 x.Y0 x.V0 x.I3 x.Y3) λy=>∀e∈x.V0,e.U3=0->Ax (y.2.1.1,y.2.1.2.1) e.D0.toNat e.H0=B:=by
 have hd:=h.dut.len hb;have S:1<=(b.A0.getD car Ag).N3:=by have hc:=Ij hcode (c:=b.A0.getD car Ag) (by rw[g_,h_ hcar];exact R_ hcar);unfold BQ at hc;simp only[b_,T_,f7_,Ak]at hc;exact hc.1.2.1.1
 unfold HL;refine J (Uy p)<|Y (by rw[hp];rfl) ?_;refine J (Fj hb hcode hcar h)<|Y rfl ?_;refine H (Q:=λy=>∃a d,y=(((),(),()),((0,0,C,()),(a,d,C,()),()))/\∀e∈x.V0,e.U3=0->Ax (a,d) e.D0.toNat e.H0=B) ?_ λy hy=>by obtain⟨a,d,rfl,hh⟩:=hy;exact A hh
 unfold KF;refine aL (λ(k:Nat) z=>∃(j:Nat) (c:Int×Int),z=(((car:Int),(),(),(),x.V0,(x.V0.length:Int),(j:Int),()),((b.C0,b.F0,b.J0,b.L0,b.I0,b.M0,b.O0,b.A0,()),(0,0,C,()),(c.1,c.2,C,()),()))/\j+k=x.V0.length/\∀m,m<j->(x.V0.getD m Dk).U3=0->Ax c (x.V0.getD m Dk).D0.toNat (x.V0.getD m Dk).H0=B) (λk z P=>?_) x.V0.length ⟨0,(0,0),rfl,n_ _,λm hm=>absurd hm<|Y_ m⟩ ω;obtain⟨j,c,rfl,hk,hh⟩:=P;show R (Ie (car:Int) x.V0 (x.V0.length:Int) (j:Int) b.C0 b.F0 b.J0 b.L0 b.I0 b.M0 b.O0 b.A0 0 0 C c.1 c.2 C) _;unfold Ie;refine N (λq=>?_) λq=>A ⟨_,_,rfl,λe X h0=>?_⟩
 .have q:(j:Int)<(x.V0.length:Int):=k_ q;have w:=Cm (n:=j) ω;have L:=(h.dut.1 _<|Av Dk (ω:j<x.V0.length)).1;have E:=DA hb L;refine I (U ω q)<|I (U ω ω) (N (λ_=>J (FU _ _)<|J (DZ c<|HE _ _) ?_) λO=>?_)
  .refine A ⟨k-1,ω,j+1,_,by first|(rw[<-w];rfl)|rw[<-w],ω,λm hm h0=>?_⟩;rw[MA];by_cases e:m=j
   .subst e;have k:=Qc (F:=(x.V0.getD m Dk).D0) (D:=(x.V0.getD m Dk).H0) ⟨E.1.1,ω⟩ ω (x.V0.getD m Dk).D0.toNat (d:=(x.V0.getD m Dk).H0) ω;rw[a6_ E.1.1]at k;have k:Ax (HE (x.V0.getD m Dk).D0 (x.V0.getD m Dk).H0) (x.V0.getD m Dk).D0.toNat (x.V0.getD m Dk).H0=B:=k.trans<|a_ rfl;exact Bool.or_eq_true_iff.2<|.inr k
   .exact Bool.or_eq_true_iff.2<|.inl<|hh m ω h0
  .refine A ⟨k-1,ω,j+1,c,by first|(rw[<-w];rfl)|rw[<-w],ω,λm hm h0=>?_⟩;by_cases e:m=j
   .subst e;have O:¬(x.V0.getD m Dk).U3<(b.A0.getD car Ag).N3:=o_ O;omega
   .exact hh m ω h0
 .have q:¬(j:Int)<(x.V0.length:Int):=o_ q;obtain⟨m,hm,rfl⟩:=bE X;have k:=hh m ω;rw[g_,h_ hm]at k;exact k h0
end
set_option synthInstance.maxSize 2000 in
set_option synthInstance.maxHeartbeats 400000 in
theorem Be7:∀(fl:_root_.Fin 9) (f:_root_.Fin 8),f.val<fl.val->2<=fl.val->∀d:_root_.Fin 3,@Eq (Option<|(Unit×Unit)×((Int×Int×Int×Unit)×Unit)) (Ew ((fl.val:Nat):Int) (aD aB<|(1:Int)*((2:Int)^(aI (aF ((f.val:Nat):Int))<|IntKind.bits aB))) (((d.val:Nat):Int)==1) (((d.val:Nat):Int)==2) B C)<|W (((),()),((((f.val:Nat):Int),((d.val:Nat):Int),1,()),())):=by decide+kernel
def Bgc:∀(fl:_root_.Fin 9) (f:_root_.Fin 8) (d:Bool),(d=B->0<f.val)->(d=C->f.val+1<fl.val)->f.val<fl.val->2<=fl.val->@Eq (Option<|(Unit×Unit)×((Int×Int×Unit)×Unit)) (CH ((fl.val:Nat):Int) ((f.val:Nat):Int) (bif d then 2 else 1) 1) (W (((),()),(((HE ((f.val:Nat):Int)<|bif d then 2 else 1).1,(HE ((f.val:Nat):Int)<|bif d then 2 else 1).2,()),()))):=by decide+kernel
def Bgb(hb:b.small)(hr:RelOK b r)(a:callV b.C0 g d)(E:atR r g d){k:Contacts}(O:k=Cw r):∃sh:Int×Int,Ax sh g d=B/\∃o p q z w,Ew b.C0 k.C0 k.Up k.C4 k.M4 k.E4=W (z,((o,p,q,()),()))/\CH b.C0 o p q=W (w,((sh.1,sh.2,()),())):=by
 have lo:=hb.lo;have hi:=hb.hi;have S:=a.lt;obtain⟨D,Q,L⟩:=E;have hd:=hr.dr;rw[D]at hd;have y:=Be7 ⟨b.C0.toNat,ω⟩ ⟨g,ω⟩ (by show g<b.C0.toNat;omega) (by show 2<=b.C0.toNat;omega) ⟨d.toNat,by have:=a.dir;omega⟩;have e:=Bgc ⟨b.C0.toNat,ω⟩ ⟨g,ω⟩<|d==2;have X:((d.toNat:Nat):Int)=d:=a6_ (by have:=a.dir;omega);simp only[a6_ (ω:0<=b.C0),X]at y e;have P:(bif d==2 then(2:Int)else 1)=d:=by rcases a.dir with rfl|rfl<;>rfl
 rw[P]at e;have e:=e (λq=>by rcases a with⟨rfl,h⟩|⟨rfl,h,_⟩;(cases q);exact h) (λq=>by rcases a with⟨rfl,h⟩|⟨rfl,h,_⟩;(show g+1<b.C0.toNat;omega);cases q) (by show g<b.C0.toNat;omega) (by show 2<=b.C0.toNat;omega);refine⟨HE (g:Int) d,?_,(g:Int),d,1,((),()),((),()),?_,e⟩
 .rw[Qc ⟨ω,ω⟩ a.dir g a.dir];exact a_ rfl
 .rw[O];unfold Cw;rw[D,Q,L,hd];exact y
@[reducible] def crB(b:Z)(i:Nat):Car:=b.A0.getD i Ag
def duI(b:Z)(i:Nat)(r:aM)(g:Nat)(d a:Int):Prop:=(atR r g d/\a+1<=(crB b i).K1/\a+1+(b.F0-((crB b i).F1-r.M2))<=(crB b i).K1)\/(Ax (r.P1,r.D1) g d=B/\a+1+(Iq b.C0 (crB b i) r g d:Int)+b.F0<=(crB b i).K1)
structure FitB(b:Bldg)(i:Nat):Prop where
 deb:1<=b.F0
 dw:b.F0+1<=(crB b i).F1
 dl:((2+(crB b i).V1.toNat+(crB b i).F1.toNat+2*(crB b i).B1.toNat+wV (2*(crB b i).B1.toNat+(crB b i).F1.toNat) (crB b i).V1.toNat (crB b i).B1.toNat (2*b.C0.toNat) 2:Nat):Int)+b.F0<=(crB b i).K1
def YW(hcode:b.code=0){f:Int}(h:Aq b f d=B):callV b.C0 f.toNat d/\((f.toNat:Nat):Int)=f:=by unfold Aq Qz inR at h;rw[hcode]at h;simp only[b_,O_,I_,r_]at h;unfold callV;omega
def Bcg(h:RelOK b r)(g:Nat)(d:Int):1<=Iq b.C0 c r g d:=by
 have h1:=h.tm;have a:=h.tz;unfold Iq
 repeat' split
 all_goals omega
def RelQ.next(hb:b.small)(hcode:b.code=0)(hf:FitB b i){L:aM}(hr:RelOK b r)(h7:RelOK b L)(ht:RelTm (crB b i) r)(hq:RelQ b.C0 (crB b i) r L u)(hu:∀(g:Nat) (d:Int),g<32->Ax (r.P1,r.D1) g d=B->Ax u g d=B)
  {s:Deb}(h:s.wf) (hs:s.is b.F0) (hw:ZU (crB b i) r s) {sh:Int×Int}{o p q:Int}{z w:Unit×Unit}(hd:Ew b.C0 (s.step b.F0<|Cw r).c.C0 (s.step b.F0<|Cw r).c.Up (s.step b.F0<|Cw r).c.C4 (s.step b.F0<|Cw r).c.M4 (s.step b.F0<|Cw r).c.E4=W (z,((o,p,q,()),())))
  (hh:CH b.C0 o p q=W (w,((sh.1,sh.2,()),()))) {g:Nat}{d S:Int}(X:callV b.C0 g d) (hI:duI b i r g d S) (hn:Ax sh g d=C):duI b i L g d<|S+1:=by
 have h5:=X.lt;have hi:=hb.hi;have h6:=hr.tm;have h3:=ht.s3;have fd:=hf.dw;have f1:=hf.deb;have h4:=Bcg (c:=crB b i) hr g d;have D:atR r g d->¬b.F0<=(crB b i).F1-r.M2+1:=λa h1=>by have e:=Avx hb hr h hs hw a.1 h1;obtain⟨h2,k1,o',p',q',z',w',E,k3⟩:=Bgb hb hr X a e;rw[E]at hd;simp only[c4_,b9_,and_true]at hd;obtain⟨_,O,Q,e3⟩:=hd;rw[<-O,<-Q,<-e3,k3]at hh;simp only[c4_,b9_,and_true]at hh;obtain⟨_,O,Q⟩:=hh;rw[show h2=sh from Prod.ext O Q,hn]at k1;cases k1
 have stay:atR r g d->atR L g d/\L.M2+1=r.M2:=λa=>by
  have:=D a
  have:=h3 a.1
  obtain⟨k1,E,k3,k4⟩:=hq.stay a.1 ω;exact⟨⟨k1,E.trans a.2.1,k3.trans a.2.2⟩,k4⟩
 rcases hI with⟨a,i1,i2⟩|⟨h0,i1⟩
 .obtain⟨k1,E⟩:=stay a
  have:=D a
  exact .inl ⟨k1,ω,ω⟩
 .by_cases a:atR r g d
  .obtain⟨k1,E⟩:=stay a
   have:=D a
   have:=h3 a.1
   exact .inl ⟨k1,ω,ω⟩
  .have P:=hu g d ω h0;by_cases y:atR L g d
   .refine .inl ⟨y,ω,?_⟩;rcases hq.wait y.1 with e|⟨O,Q,e3,_⟩
    .omega
    .exact absurd ⟨O,Q▸y.2.1,e3▸y.2.2⟩ a
   .have k1:=(hq.cal g d X P).resolve_left y;have E:=(hq.fall g d X P a).resolve_left y;exact .inr ⟨k1,ω⟩
def RelQ.new(hb:b.small)(hf:FitB b i){e:aM}(a:RelOK b e)(hq:RelQ b.C0 (crB b i) r e u)(y:callV b.C0 g d)(E:Ax u g d=B):duI b i e g d 0:=by
 have L:=hf.deb;have fl:=hf.dl;have D:=hq.tm;rcases hq.cal g d y E with w|p
 .have:=D.s3 w.1
  exact .inl ⟨w,ω,ω⟩
 .have:=Bch ⟨hb.lo,hb.hi⟩ a.fl a.mv D y a.st
  exact .inr ⟨p,ω⟩
def Ts(b:Z)(z:aU)(c:CarInput):aU:=YI<|(Js z).step b.F0 ⟨c.H1,c.T2,c.G2,c.H2,c.U1⟩
section
variable{b:Z}(hw:BW b){x:Inp}(hx:InOK b x)
include hw hx
theorem Bkq(hm:PM b t.m)(hr:PR b t):R (t.ap Cp b x B) λy=>∃a,(y=.inl ((),(a.tup b x B,()))\/y=.inr ((),(a.tup b x B,())))/\PM b a.m/\PR b a/\FixR t a/\(a.m.P0=t.m.P0/\a.m.A0=t.m.A0/\a.reset=t.reset/\a.out=t.out)/\∀j,j<b.A0.length->a.m.Z0.getD j An=Ts b (t.m.Z0.getD j An) (x.cars.getD j CY):=by
 have h0:=Ah hw.code;have hl:=hx.len;unfold aP Cp;refine H (Zl hm.tick) λn1 h1=>Y rfl ?_;refine H (Q:=λy=>∃a,y=((),(a.tup b x B,()))/\PM b a.m/\PR b a/\FixR t a/\(a.m.P0=t.m.P0/\a.m.A0=t.m.A0/\a.reset=t.reset/\a.out=t.out)/\∀j,j<b.A0.length->a.m.Z0.getD j An=Ts b (t.m.Z0.getD j An) (x.cars.getD j CY)) ?_ λy hy=>by obtain⟨a,rfl,h⟩:=hy;exact A ⟨a,.inr rfl,h⟩
 unfold FO;refine aL (λ(k:Nat) z=>∃(i:Nat) (a:V),z=(((),x.cars,(x.cars.length:Int),(i:Int),()),(a.tup b x B,()))/\i+k=x.cars.length/\PM b a.m/\PR b a/\FixR t a/\(a.m.P0=t.m.P0/\a.m.A0=t.m.A0/\a.reset=t.reset/\a.out=t.out)/\(∀j,j<i->a.m.Z0.getD j An=Ts b (t.m.Z0.getD j An) (x.cars.getD j CY))/\∀j,i<=j->a.m.Z0.getD j An=t.m.Z0.getD j An) (λk z hz=>?_) x.cars.length ⟨0,{ t with m:={ t.m with J4:=n1.1.1 } },rfl,n_ _,hm.sTick h1 hm.flt,⟨hr.leg,hr.sho,hr.rst,hr.oc,hr.cmd⟩,⟨rfl,rfl,rfl,rfl,rfl⟩,⟨rfl,rfl,rfl,rfl⟩,λj D=>absurd D<|Y_ j,λ_ _=>rfl⟩ ω;obtain⟨i,a,rfl,hk,hm,hr,hf,hs,hd,hu⟩:=hz;show R (aP (Ei x.cars (x.cars.length:Int) (i:Int)) b x B a) _;unfold aP Ei;refine N (λq=>?_) λq=>A ⟨a,rfl,hm,hr,hf,hs,λj D=>hd j (by have:=o_ q;omega)⟩;have q:(i:Int)<(x.cars.length:Int):=k_ q;have hin:i<b.A0.length:=ω;have w:=Cm (n:=i) ω;have p:i<a.m.Z0.length:=by rw[hm.con];exact hin
 have S:aA (i:Int) a.m.Z0.length=B:=U ω (by rw[hm.con];omega);have i3:aA (i:Int) a.m.L3.length=B:=U ω (by rw[hm.lod];omega);have O:=hx.flo _<|Av (bC 0 C C C C 0 C 0 C 0 0) (ω:i<x.cars.length);have P:=hm.conv _<|Av An p;refine I (U ω q)<|I S (H (VO hw.code P O _ _ _ _) λy1 h1=>?_);obtain⟨⟨ya,yb,yc⟩,yd,ye⟩:=y1;obtain⟨L,X,E,e2⟩:=h1;change yd=_ at X;subst X;refine I S<|I i3 (H (Abl hw.full hw.over _ _) λy2 h2=>I i3 ?_);refine A ⟨k-1,ω,i+1,{ a with m:={ a.m with Z0:=a.m.Z0.set i L,L3:=a.m.L3.set i (Loaded.mk y2.2.1.1) } },by first|(rw[<-w];rfl)|rw[<-w],ω,hm.sCon i E h2,⟨hr.leg,hr.sho,hr.rst,hr.oc,hr.cmd⟩,⟨hf.im,hf.st,hf.bu,hf.e,hf.out⟩,hs,λj D=>?_,λj D=>?_⟩
 .show(a.m.Z0.set i L).getD j An=_;by_cases e:i=j
  .subst e;rw[Am _ _ p,e2];unfold Ts;rw[<-hu i (t_ i)];rfl
  .rw[As _ _ e];exact hd j ω
 .show(a.m.Z0.set i L).getD j An=_;rw[As _ _ ω];exact hu j ω
end
structure CarHyp(b:Bldg)(x:Inp)(rg:Nat->Rig)(t:Pk)(i:Nat):Prop where
 wir:AI (phA t.m.E0 i)=true->∀e∈(t.m.P0.getD i AL).V0,e.U3+1<=(FV b i).K1
 dir:Dg (phA t.m.E0 i)=true->(t.m.A0.getD i Aj).K2=false/\RigOK b.C0 (rg i)/\RigI (b.A0.getD i Ag).B1 (b.A0.getD i Ag).V1 (t.m.A0.getD i Aj) (rg i)/\(x.cars.getD i CY).D2=(rg i).D0/\(x.cars.getD i CY).J2=((rg i).Y1==0)/\(x.cars.getD i CY).Z1=(rg i).Y0
def Agd(b:Z)(z:aU)(l:List Duty)(v:Belief):Prop:=v.Y3=C/\∃(sh:Int×Int) (o p q:Int) (u w:Unit×Unit),Ew b.C0 z.H1 z.T2 z.G2 z.H2 z.U1=W (u,((o,p,q,()),()))/\CH b.C0 o p q=W (w,((sh.1,sh.2,()),()))/\∀e∈v.V0,Aoe l sh e
structure CarOut(b:Bldg)(rg:Nat->Rig)(t t':Pk)(i:Nat):Prop where
 wir:AI (phA t.m.E0 i)=true->Agd b (t.m.Z0.getD i An) (t.m.P0.getD i AL).V0 (t'.m.P0.getD i AL)
 now:AI (phA t.m.E0 i)=false->t'.m.P0.getD i AL=t.m.P0.getD i AL
 dir:AI (phA t.m.E0 i)=false->Dg (phA t.m.E0 i)=true->(t'.m.A0.getD i Aj).K2=false/\CmdQ b.C0 (b.A0.getD i Ag).B1 (b.A0.getD i Ag).V1 (t'.m.A0.getD i Aj) (rg i) (t'.out.A0.getD i Af).T1
def Bjq{l:List NewCar}(h:i<l.length)(v:NewCar):(l.set i v).getD i Aj=v:=Am _ _ h
section
variable{b:Z}(hw:BW b){x:Inp}
include hw
theorem Aye(hm:PM b t.m)(hr:PR b t)(hi:i<b.A0.length)(hA:∀e∈(t.m.P0.getD i AL).V0,e.U3+1<=(FV b i).K1):R (t.ap (CI (i:Int)) b x B) λy=>∃a,(y=.inl ((),(a.tup b x B,()))\/y=.inr ((),(a.tup b x B,())))/\PM b a.m/\PR b a/\Fix t a/\(∀j,j≠i->a.m.P0.getD j AL=t.m.P0.getD j AL)/\a.m.A0=t.m.A0/\a.out=t.out/\a.reset=t.reset/\Agd b (t.m.Z0.getD i An) (t.m.P0.getD i AL).V0 (a.m.P0.getD i AL):=by
 unfold aP CI;have i1:aA (i:Int) t.legacy.length=B:=U ω (by rw[hr.leg];omega);have i2:aA (i:Int) t.m.P0.length=B:=U ω (by rw[hm.bel];omega);have i3:aA (i:Int) t.m.Z0.length=B:=U ω (by rw[hm.con];omega);have i4:aA (i:Int) t.shows.length=B:=U ω (by rw[hr.sho];omega);have hb:=hm.belv i hi;have E:i<t.m.P0.length:=by rw[hm.bel];exact hi
 refine I i1<|Y rfl<|I i3 ?_;have L:=hm.conv _<|Av An (show i<t.m.Z0.length by rw[hm.con];exact hi);obtain⟨⟨ua,⟨o,p,q,_⟩,_⟩,w,_⟩:=Rn b.C0 L.2 (t.m.Z0.getD i An).T2 (t.m.Z0.getD i An).G2 (t.m.Z0.getD i An).H2 (t.m.Z0.getD i An).U1;obtain⟨⟨S,⟨O,P,_⟩,_⟩,D,_⟩:=JI b.C0 o p q;refine J w<|J D<|I i4<|I i2 ?_;have hO:=Av2 hw.small hw.code hi hb hA (o:=o) (p:=p) (q:=q) (sh:=(O,P)) ⟨S,D⟩;obtain⟨⟨ya,yb,yc⟩,Q,v,e,hv,_⟩:=Tm hw.small hw.code hi hb o p q;obtain⟨y2,X,h2⟩:=hO;rw[Q]at X;obtain rfl:=s_ X;change yb=_ at e;subst e;have e:(t.m.P0.set i v).getD i AL=v:=Am _ _ E;refine J Q<|I i2<|A ⟨((t.sBel i v).sLeg i).sSho i<|aX O P,.inr rfl,hm.sBel hv,((hr.sBel i v).sLeg i).sSho i _,⟨⟨rfl,rfl,rfl,rfl,rfl⟩,rfl⟩,λj hj=>As _ _<|a7_ hj,rfl,rfl,rfl,?_⟩;show Agd b _ _ ((t.m.P0.set i v).getD i AL);rw[e];exact⟨h2.1,(O,P),o,p,q,ua,S,w,D,h2.2⟩
theorem Bfa(hx:InOK b x)(hm:PM b t.m)(hr:PR b t)(hi:i<b.A0.length)(p:Int){r:Rig}(hf:(t.m.A0.getD i Aj).K2=C)(O:RigOK b.C0 r)(hI:RigI (b.A0.getD i Ag).B1 (b.A0.getD i Ag).V1 (t.m.A0.getD i Aj) r)(f1:(x.cars.getD i CY).D2=r.D0)(f2:(x.cars.getD i CY).J2=(r.Y1==0))(f3:(x.cars.getD i CY).Z1=r.Y0):R (t.ap (Dh (i:Int) p) b x B) λy=>∃a,(y=.inl ((),(a.tup b x B,()))\/y=.inr ((),(a.tup b x B,())))/\PM b a.m/\PR b a/\Fix t a/\a.m.P0=t.m.P0/\a.reset=t.reset/\(∀j,j≠i->a.m.A0.getD j Aj=t.m.A0.getD j Aj/\a.out.A0.getD j Af=t.out.A0.getD j Af)/\(a.m.A0.getD i Aj).K2=C/\CmdQ b.C0 (b.A0.getD i Ag).B1 (b.A0.getD i Ag).V1 (a.m.A0.getD i Aj) r (a.out.A0.getD i Af).T1:=by
 unfold aP Dh;have i2:aA (i:Int) t.m.A0.length=B:=U ω (by rw[hm.car];omega);have i4:aA (i:Int) t.out.A0.length=B:=U ω (by rw[hr.oc];omega);have w:i<t.m.A0.length:=by rw[hm.car];exact hi
 have P:i<t.out.A0.length:=by rw[hr.oc];exact hi
 have S:=hm.carv _<|Av Aj w;refine Y rfl ?_;have hl:=hx.len;have i3:aA (i:Int) x.cars.length=B:=U ω ω;refine H (Q:=λy=>∃h0 h1:Int,y=(((),(i:Int),(),()),((h0,h1,()),t.tup b x B,()))) (N (λ_=>H (YV hw hm.jst.img (i:Int)) λy2 _=>A ⟨_,_,rfl⟩) λ_=>A ⟨_,_,rfl⟩) λy hy=>?_;obtain⟨h0,h1,rfl⟩:=hy;refine I i3<|I i2 ?_;have k1:=XV hw.small hw.code (i:Int) (t.m.A0.getD i Aj) (x.cars.getD i CY).D2 (x.cars.getD i CY).J2 (x.cars.getD i CY).Z1 (x.cars.getD i CY).A3 (x.cars.getD i CY).N2 h0 h1;have X:=Bb1 hw.small hw.code hi O (x.cars.getD i CY).A3 (x.cars.getD i CY).N2 h0 h1 S hf hI;rw[<-f1,<-f2,<-f3]at X;obtain⟨⟨ya,yb,yc⟩,e1,⟨v,e,hv⟩,L⟩:=k1;obtain⟨y2,e2,D,E,n1,n2⟩:=X;rw[e1]at e2;obtain rfl:=s_ e2;change yb=_ at e;subst e
 have:D=v:=by have E:YB v=YB D:=E;cases v;cases D;simp only[YB,b9_,and_true]at E;simp only[E]
 subst this;refine J e1<|I i2<|I i4<|A ⟨(t.sCar i D).sOut i _,.inr rfl,hm.sCar i hv,(hr.sCar i D).sOut i L,⟨⟨rfl,rfl,rfl,rfl,rfl⟩,rfl⟩,rfl,rfl,λj hj=>⟨As _ _<|a7_ hj,As _ _<|a7_ hj⟩,?_,?_⟩
 .show((t.m.A0.set i D).getD i Aj).K2=C;rw[Bjq w];exact n1
 .show CmdQ _ _ _ ((t.m.A0.set i D).getD i Aj) r ((t.out.A0.set i _).getD i Af).T1;rw[Bjq w,Am _ _ P];exact n2
theorem Apv(hx:InOK b x)(rg:Nat->Rig)(hm:PM b t.m)(hr:PR b t)(hH:∀i,i<b.A0.length->CarHyp b x rg t i):R (CT (((),([]:List aC),t.m.E0.G0,(t.m.E0.G0.length:Int),(0:Int),()),(t.tup b x B,()))) λy=>∃(a:V),y=(((),([]:List aC),()),(a.tup b x B,()))/\PM b a.m/\PR b a/\Fix t a/\a.reset=t.reset/\∀j,j<b.A0.length->CarOut b rg t a j:=by
 have ha:=Ah hw.code;have hp:=hm.jst.img.lp;unfold CT;refine aL (λ(k:Nat) z=>∃(i:Nat) (a:V),z=(((),([]:List aC),t.m.E0.G0,(t.m.E0.G0.length:Int),(i:Int),()),(a.tup b x B,()))/\i+k=b.A0.length/\PM b a.m/\PR b a/\Fix t a/\a.reset=t.reset/\(∀j,j<i->CarOut b rg t a j)/\∀j,i<=j->a.m.P0.getD j AL=t.m.P0.getD j AL/\a.m.A0.getD j Aj=t.m.A0.getD j Aj) (λk z hz=>?_) b.A0.length ⟨0,t,rfl,n_ _,hm,hr,.rfl' t,rfl,λj P=>absurd P<|Y_ j,λ_ _=>⟨rfl,rfl⟩⟩ ω;obtain⟨i,a,rfl,hk,E,O,hf,L,hd,hu⟩:=hz;show R (aP (Eh [] t.m.E0.G0 (t.m.E0.G0.length:Int) (i:Int)) b x B a) _;unfold aP Eh;refine N (λq=>?_) λq=>A ⟨a,rfl,E,O,hf,L,λj P=>hd j (by have:=o_ q;omega)⟩;have q:(i:Int)<(t.m.E0.G0.length:Int):=k_ q;have hi:i<b.A0.length:=ω;have w:=Cm (n:=i) ω;have hH:=hH i hi;obtain⟨ub,uc⟩:=hu i<|t_ i;refine I (U ω q) ?_;refine H (Q:=λy=>∃(u:V),y=(((),([]:List aC),(i:Int),C,t.m.E0.G0,(t.m.E0.G0.length:Int),(i:Int),()),(u.tup b x B,()))/\PM b u.m/\PR b u/\Fix t u/\u.reset=t.reset/\(∀j,j<i+1->CarOut b rg t u j)/\∀j,i+1<=j->u.m.P0.getD j AL=t.m.P0.getD j AL/\u.m.A0.getD j Aj=t.m.A0.getD j Aj) ?_ λy9 h9=>?_
 .refine J (Qq _) (N (λp=>?_) λp=>J (YJ _) (N (λD=>?_) λD=>A ⟨a,rfl,E,O,hf,L,λj P=>?_,λj P=>hu j ω⟩))
  .have p:AI (aE t.m.E0 i)=B:=p;refine H (Q:=λy=>∃u:V,y=(((),([]:List aC),(i:Int),t.m.E0.G0,(t.m.E0.G0.length:Int),(i:Int),()),(u.tup b x B,()))/\PM b u.m/\PR b u/\Fix a u/\(∀j,j≠i->u.m.P0.getD j AL=a.m.P0.getD j AL)/\u.m.A0=a.m.A0/\u.out=a.out/\u.reset=a.reset/\Agd b (a.m.Z0.getD i An) (a.m.P0.getD i AL).V0 (u.m.P0.getD i AL)) ?_ λy4 h4=>?_
   .refine H (Aye hw E O hi (by rw[ub];exact hH.wir p)) λy2 h2=>?_;obtain⟨u,e|e,h⟩:=h2
    .subst e;exact A ⟨u,rfl,h⟩
    .subst e;exact A ⟨u,rfl,h⟩
   .obtain⟨u,rfl,g1,g2,g3,S,g5,g6,g7,g8⟩:=h4;have hl:(u.m.P0.getD i AL).Y3=C:=g8.1;rw[hf.con,ub]at g8;refine I (U (ω:(0:Int)<=(i:Int)) (by show(i:Int)<(u.m.P0.length:Int);rw[g1.bel];omega))<|A ⟨u,?_,g1,g2,hf.trans g3,g7.trans L,λj P=>?_,λj P=>?_⟩
    .show(((),([]:List aC),(i:Int),(u.m.P0.getD i AL).Y3,_,_,_,()),_)=_;rw[hl]
    .by_cases e:j=i
     .subst e;exact⟨λ_=>g8,λz=>(by rw[p]at z;cases z),λz=>(by rw[p]at z;cases z)⟩
     .have k:=hd j ω;exact⟨λz=>(by rw[S j e];exact k.wir z),λz=>(by rw[S j e];exact k.now z),λz z2=>(by rw[g5,g6];exact k.dir z z2)⟩
    .rw[S j ω,g5];exact hu j ω
  .have p:AI (aE t.m.E0 i)=C:=p;have D:Dg (aE t.m.E0 i)=B:=D;obtain⟨d1,d2,d3,d4,d5,d6⟩:=hH.dir D;refine H (Q:=λy=>∃u:V,y=(((),([]:List aC),(i:Int),t.m.E0.G0,(t.m.E0.G0.length:Int),(i:Int),()),(u.tup b x B,()))/\PM b u.m/\PR b u/\Fix a u/\u.m.P0=a.m.P0/\u.reset=a.reset/\(∀j,j≠i->u.m.A0.getD j Aj=a.m.A0.getD j Aj/\u.out.A0.getD j Af=a.out.A0.getD j Af)/\(u.m.A0.getD i Aj).K2=C/\CmdQ b.C0 (b.A0.getD i Ag).B1 (b.A0.getD i Ag).V1 (u.m.A0.getD i Aj) (rg i) (u.out.A0.getD i Af).T1) ?_ λy4 h4=>?_
   .refine H (Bfa hw hx E O hi (aE t.m.E0 i) (by rw[uc];exact d1) d2 (by rw[uc];exact d3) d4 d5 d6) λy2 h2=>?_;obtain⟨u,e|e,h⟩:=h2
    .subst e;exact A ⟨u,rfl,h⟩
    .subst e;exact A ⟨u,rfl,h⟩
   .obtain⟨u,rfl,g1,g2,g3,S,g5,g6,g7,g8⟩:=h4;refine I (U (ω:(0:Int)<=(i:Int)) (by show(i:Int)<(u.m.A0.length:Int);rw[g1.car];omega))<|A ⟨u,?_,g1,g2,hf.trans g3,g5.trans L,λj P=>?_,λj P=>?_⟩
    .show(((),([]:List aC),(i:Int),(u.m.A0.getD i Aj).K2,_,_,_,()),_)=_;rw[g7]
    .by_cases e:j=i
     .subst e;exact⟨λz=>(by rw[p]at z;cases z),λ_=>(by rw[S];exact ub),λ_ _=>⟨g7,g8⟩⟩
     .have k:=hd j ω;exact⟨λz=>(by rw[S];exact k.wir z),λz=>(by rw[S];exact k.now z),λz z2=>(by rw[(g6 j e).1,(g6 j e).2];exact k.dir z z2)⟩
    .rw[S,(g6 j ω).1];exact hu j ω
  .have p:AI (aE t.m.E0 i)=C:=p;have D:Dg (aE t.m.E0 i)=C:=D;by_cases e:j=i
   .subst e;exact⟨λz=>(by rw[p]at z;cases z),λ_=>ub,λ_ z=>(by rw[D]at z;cases z)⟩
   .exact hd j ω
 .obtain⟨u,rfl,h1,h3,h7,X,h5,h0⟩:=h9;refine H (Q:=λy=>y=(((),([]:List aC),(i:Int),t.m.E0.G0,(t.m.E0.G0.length:Int),(i:Int),C,()),(u.tup b x B,()))) (Y rfl<|A rfl) λh8 h6=>?_;subst h6;exact Y rfl<|A ⟨k-1,ω,i+1,u,by first|(rw[<-w];rfl)|rw[<-w],ω,h1,h3,h7,X,h5,h0⟩
theorem Bja(hx:InOK b x)(S:Nat->Rig)(hm:PM b t.m)(hr:PR b t)(hb:Bud t)(hH:∀i,i<b.A0.length->CarHyp b x S t i):R (t.ap Du b x B) λy=>∃(a:V),y=((),(a.tup b x B,()))/\PM b a.m/\PR b a/\Bud a/\a.m.E0=t.m.E0/\a.m.Z0=t.m.Z0/\t.budget<=a.budget/\a.out={ t.out with A0:=a.out.A0 }/\a.reset=t.reset/\∀j,j<b.A0.length->CarOut b S t a j:=by
 unfold aP Du;refine H (Apv hw hx S hm hr hH) λy1 h1=>?_;obtain⟨u,rfl,w,E,hf,L,D⟩:=h1;have p:Bud u:=⟨hf.e.trans hb.1,by rw[hf.bu];exact hb.2⟩
 have X:K3 ([]:List aC):=λr h=>by cases h
 refine H (Q:=λy=>∃a,y=((),(a.tup b x B,()))/\Wr b u [] a) ?_ λy hy=>?_
 .refine H (Oo hw.small (x:=x) (g:=B) w.jst p.2 p.1 (X.good _ λr h=>by cases h)<|W_ _) λy2 h2=>?_;obtain⟨a,e|e,h⟩:=h2
  .subst e;exact A ⟨a,rfl,h⟩
  .subst e;exact A ⟨a,rfl,h⟩
 obtain⟨a,rfl,h⟩:=hy;obtain⟨h1,h2⟩:=h.fin hw w E X;obtain⟨im,s,bu,e,rfl,_⟩:=h;rcases h1 with h1|h1
 .have O:=h1.b2;refine A ⟨_,rfl,h1.m,h1.r,h1.bud p,h1.im.trans hf.im,hf.con,?_,hf.out,L,λj P=>⟨(D j P).wir,(D j P).now,(D j P).dir⟩⟩;have e0:=hf.bu;simp only[b7_]at O;omega
 .obtain⟨k,hk,_⟩:=h1.rp;exact absurd hk<|Y_ k
end
def El(p q:Int):Prop:=p=q\/(p=1/\q=0)\/(p=0/\q=1)\/(p=3/\q=4)
def Bgd(p q:Int):∃c,IX p q=W ((c,()),())/\(c=B↔El p q):=by
 unfold El IX;by_cases e:p=q
 .subst e;exact⟨B,by rw[q_];rfl,σ⟩
 .rw[Ao e];by_cases D:p=1
  .subst D;by_cases w:q=0
   .subst w;exact⟨B,rfl,σ⟩
   .rw[Ao w];exact⟨C,rfl,by simp;omega⟩
  .rw[Ao D];by_cases L:p=0
   .subst L;by_cases a:q=1
    .subst a;exact⟨B,rfl,σ⟩
    .rw[Ao a];exact⟨C,rfl,by simp;omega⟩
   .rw[Ao L];by_cases y:p=3
    .subst y;by_cases E:q=4
     .subst E;exact⟨B,rfl,σ⟩
     .rw[Ao E];exact⟨C,rfl,by simp;omega⟩
    .rw[Ao y];exact⟨C,rfl,by simp;omega⟩
def Aoa:Belief:=⟨-1,0,0,[],0,C⟩
def OprC(p e:Img)(t a:V)(j:Nat):Prop:=
 (El (aE p j) (aE e j)/\a.m.P0.getD j AL=t.m.P0.getD j AL/\a.m.A0.getD j Aj=t.m.A0.getD j Aj/\a.reset.getD j C=t.reset.getD j C)\/
 (¬El (aE p j) (aE e j)/\a.m.P0.getD j AL=Aoa/\a.m.A0.getD j Aj=Aj/\a.reset.getD j C=B)
structure Sm(t t':Pk):Prop where
 b:t'.m.P0=t.m.P0
 c:t'.m.A0=t.m.A0
 r:t'.reset=t.reset
def Sm.trans{u v:V}(h:Sm t u)(k:Sm u v):Sm t v:=⟨k.b.trans h.b,k.c.trans h.c,k.r.trans h.r⟩
def Wr.sm{a:V}{l:List aC}(h:Wr b t l a):Sm t a:=by obtain⟨_,_,_,_,rfl,_⟩:=h;exact⟨rfl,rfl,rfl⟩
def OprC.of{e a:Img}{u v:V}(h:OprC e a u v j)(k:Sm t u):OprC e a t v j:=by unfold OprC at*;rw[k.b,k.c,k.r]at h;exact h
section
variable{b:Z}(hw:BW b){x:Inp}{g:Bool}(hx:InOK b x)
include hw
theorem Auo(hm:PM b t.m)(hr:PR b t)(e:Int)(L:¬(e=0/\x.kind=8))(a:Img)(h0:a.G0.length=b.A0.length):R (Cn (((),(),(),e,t.m.E0.G0,(t.m.E0.G0.length:Int),(0:Int),()),((a.G0,a.R0,a.K0,a.B0,()),(x.kind,x.car,()),t.tup b x g,()))) λy=>∃p:V,y=((),(p.tup b x g,()))/\PM b p.m/\PR b p/\Fix t p/\p.out=t.out/\∀j,j<b.A0.length->OprC a t.m.E0 t p j:=by
 have h1:=Ah hw.code;have hp:=hm.jst.img.lp;unfold Cn;refine aL (λ(k:Nat) z=>∃(i:Nat) (p:V),z=(((),(),(),e,t.m.E0.G0,(t.m.E0.G0.length:Int),(i:Int),()),((a.G0,a.R0,a.K0,a.B0,()),(x.kind,x.car,()),p.tup b x g,()))/\i+k=b.A0.length/\PM b p.m/\PR b p/\Fix t p/\p.out=t.out/\(∀j,j<i->OprC a t.m.E0 t p j)/\∀j,i<=j->p.m.P0.getD j AL=t.m.P0.getD j AL/\p.m.A0.getD j Aj=t.m.A0.getD j Aj/\p.reset.getD j C=t.reset.getD j C) (λk z P=>?_) b.A0.length ⟨0,t,rfl,n_ _,hm,hr,.rfl' t,rfl,λj D=>absurd D<|Y_ j,λ_ _=>⟨rfl,rfl,rfl⟩⟩ ω;obtain⟨i,u,rfl,hk,hm,hr,hf,O,hd,E⟩:=P;show R (u.ap (Dy e t.m.E0.G0 (t.m.E0.G0.length:Int) (i:Int) a.G0 a.R0 a.K0 a.B0 x.kind x.car) b x g) _;unfold aP Dy;refine N (λq=>?_) λq=>A ⟨u,rfl,hm,hr,hf,O,λj D=>hd j (by have:=o_ q;omega)⟩;have q:(i:Int)<(t.m.E0.G0.length:Int):=k_ q;have hi:i<b.A0.length:=ω;have w:=Cm (n:=i) ω;have i2:aA (i:Int) u.m.P0.length=B:=U ω (by rw[hm.bel];omega);have X:aA (i:Int) u.m.A0.length=B:=U ω (by rw[hm.car];omega);have i4:aA (i:Int) u.reset.length=B:=U ω (by rw[hr.rst];omega);refine I (U ω q)<|I (U ω ω) ?_;obtain⟨c,ec,hc⟩:=Bgd (aE a i)<|aE t.m.E0 i;refine J ec (N (λz=>?_) λz=>?_)
 .have z:c=C:=by simpa using z
  refine J rfl<|I i2<|I X<|I i4 ?_;refine A ⟨k-1,ω,i+1,((u.sBel i Aoa).sCar i Aj).sRst i,by first|(rw[<-w];rfl)|rw[<-w],ω,(hm.sBel<|BelOK.new hw).sCar i<|KR hw.small,((hr.sBel i _).sCar i _).sRst i,⟨⟨hf.im,hf.st,hf.bu,hf.e,hf.out⟩,hf.con⟩,O,λj D=>?_,λj D=>?_⟩
  .by_cases e:j=i
   .subst e;refine .inr ⟨λk=>(by rw[hc.2 k]at z;cases z),Am _ _ (by rw[hm.bel];exact hi),Am _ _ (by show _<u.m.A0.length;rw[hm.car];exact hi),Am _ _ (by show _<u.reset.length;rw[hr.rst];exact hi)⟩
   .have k:=hd j ω;unfold OprC at k|-;show(_/\(u.m.P0.set i Aoa).getD j AL=_/\(u.m.A0.set i Aj).getD j Aj=_/\(u.reset.set i B).getD j C=_)\/(_/\(u.m.P0.set i Aoa).getD j AL=_/\(u.m.A0.set i Aj).getD j Aj=_/\(u.reset.set i B).getD j C=_);rw[As _ _<|a7_ e,As _ _<|a7_ e,As _ _<|a7_ e];exact k
  .show(u.m.P0.set i Aoa).getD j AL=_/\(u.m.A0.set i Aj).getD j Aj=_/\(u.reset.set i B).getD j C=_;rw[As _ _ ω,As _ _ ω,As _ _ ω];exact E j ω
 have z:c=B:=by simpa using z
 refine H (Q:=λy=>∃c:Bool,y=(((),(),(),e,(i:Int),t.m.E0.G0,(t.m.E0.G0.length:Int),(i:Int),c,()),((a.G0,a.R0,a.K0,a.B0,()),(x.kind,x.car,()),u.tup b x g,()))/\c=C) (N (λS=>N (λq2=>absurd ⟨eq_of_beq S,eq_of_beq q2⟩ L) λ_=>A ⟨_,rfl,rfl⟩) λ_=>A ⟨_,rfl,rfl⟩) λy3 h3=>?_;obtain⟨_,rfl,rfl⟩:=h3;refine Y rfl<|A ⟨k-1,ω,i+1,u,by first|(rw[<-w];rfl)|rw[<-w],ω,hm,hr,hf,O,λj D=>?_,λj D=>E j ω⟩;by_cases e:j=i
 .subst e;exact .inl ⟨hc.1 z,E j<|t_ j⟩
 .exact hd j ω
include hx
theorem Ayi(hm:PM b t.m)(hr:PR b t)(hb:Bud t)(hv:∀i,i<b.A0.length->flA t.m.E0 i=C):R (t.ap CJ b x g) λy=>∃(D:V) (l:List aC),(y=.inl ((),(D.tup b x g,()))\/y=.inr ((),(D.tup b x g,())))/\Opr b x g t D l/\(D.e=0->∀j,j<b.A0.length->OprC t.m.E0 D.m.E0 t D j):=by
 have x5:=Ah hw.code;have he:=CW hw.small hm.jst.img;obtain⟨w,hn⟩:=Arp hm.jst.img;obtain⟨i,hi⟩:=c6_ hx.car.1;have X:i<b.A0.length:=by have:=hx.car.2;omega
 unfold aP CJ;obtain⟨y1,S,p,rfl,h0,_⟩:=Ami hw (x:=x) (g:=g) hm hx.len;refine J S ?_;have h4:=VZ hm.jst.img hw.small ω hx.kind X h0 hn;rw[<-hi]at h4;refine J h4 ?_;obtain⟨ok1,h3⟩:=Zq (b:=b) t.m.E0 x.kind X (p.getD i C) w;obtain⟨h7,v1⟩:=ZZ hw.code ok1;have hO:(bif x.kind==0 then([],(0:Int))else Ni t.m.E0 i (p.getD i C) w x.kind)=Ip t.m.E0 x.kind i (p.getD i C) w:=rfl;have hL:FX b t.m.E0 x.kind i p w=(Ip t.m.E0 x.kind i (p.getD i C) w).1++FR (Ar t.m.E0 (Ip t.m.E0 x.kind i (p.getD i C) w).1) (bif x.kind !=0 then p.set i C else p) b.A0.length:=rfl;rw[hO];generalize hg:Ip t.m.E0 x.kind i (p.getD i C) w=O at ok1 h3 h7 v1 hL;obtain⟨O1,P⟩:=O;refine H (Q:=λy=>∃D,y=(((),(),(),p,P,()),((t.m.E0.G0,t.m.E0.R0,t.m.E0.K0,t.m.E0.B0,()),(x.kind,x.car,()),D.tup b x g,()))/\Wr b (t.stat P) O1 D) ?_ λy5 h5=>?_
 .refine H (Oo hw.small (x:=x) (g:=g) (t:=t.stat P) hm.jst hb.2 hb.1 (h7.good _ v1) (show O1.length<=100000 by have:O1.length<=1:=h3;omega)) λy2 h2=>?_;obtain⟨D,e|e,h⟩:=h2
  .subst e;exact A ⟨D,rfl,h⟩
  .subst e;exact A ⟨D,rfl,h⟩
 obtain⟨L,rfl,E⟩:=h5;obtain⟨r1,o1⟩:=E.fin hw (t:=t.stat P) hm ⟨hr.leg,hr.sho,hr.rst,hr.oc,hr.cmd⟩ h7;have r1:Al b t L O1\/De b t L O1:=by
  rcases r1 with r|r
  .exact .inl ⟨r.e,r.m,r.r,r.im,r.b0,r.b1,r.b2,r.con⟩
  .exact .inr ⟨r.e,r.lo,r.ok,r.rp⟩
 have hu:(bif x.kind !=0 then p.set i C else p).length=b.A0.length:=by
  cases x.kind !=0
  .exact h0
  .show(p.set i C).length=_;rw[z_];exact h0
 refine J (b:=(((),(),(),(bif x.kind !=0 then p.set i C else p),P,()),((t.m.E0.G0,t.m.E0.R0,t.m.E0.K0,t.m.E0.B0,()),(x.kind,x.car,()),L.tup b x g,()))) ?_ ?_
 .show(bif x.kind !=0 then(bif aA x.car p.length then _ else none)else _)=_;cases x.kind !=0 with
  |false=>rfl
  |true=>rw[i_,U hx.car.1 (by have:=hx.car.2;omega),i_,i_];show W (((),(),(),p.set (aF x.car) C,_,()),_)=_;rw[hi,l_]
 generalize(bif x.kind !=0 then p.set i C else p)=c2 at hu hL;refine H (Q:=λy=>∃a,y=(((),(),(),P,()),((t.m.E0.G0,t.m.E0.R0,t.m.E0.K0,t.m.E0.B0,()),(x.kind,x.car,()),a.tup b x g,()))/\(Al b t a (FX b t.m.E0 x.kind i p w)\/De b t a (FX b t.m.E0 x.kind i p w))/\a.out={ t.out with D6:=P }/\Sm t a) ?_ λx3 x0=>?_
 .refine N (λq=>?_) λq=>?_
  .have q:L.e=0:=eq_of_beq q;have r:Al b t L O1:=by
    rcases r1 with r|r
    .exact r
    .have:=r.e;omega
   have x1:=CW hw.small r.m.jst.img;have ha:=r.bud hb;refine H (Q:=λy=>∃a,y=(((),(),(),P,()),((t.m.E0.G0,t.m.E0.R0,t.m.E0.K0,t.m.E0.B0,()),(x.kind,x.car,()),a.tup b x g,()))/\(Al b t a (FX b t.m.E0 x.kind i p w)\/De b t a (FX b t.m.E0 x.kind i p w))/\a.out={ t.out with D6:=P }/\Sm t a) ?_ λx2 hz=>by obtain⟨a,rfl,h⟩:=hz;exact A ⟨a,rfl,h⟩
   have h8:=XW r.m.jst.img hw.small ω hu;have ok2:=ZV (b:=b) L.m.E0 c2 b.A0.length<|t_ _;have hh:=QZ L.m.E0 c2 b.A0.length;rw[r.im]at ok2 hh;obtain⟨h9,v2⟩:=ZZ hw.code ok2;refine J h8 ?_;rw[r.im];refine H (Oo hw.small (x:=x) (g:=g) (t:=L) r.m.jst ha.2 ha.1 (h9.good _ v2) (ω:(FR (Ar t.m.E0 O1) c2 b.A0.length).length<=100000)) λy2 h2=>?_;have hk:∀a,Wr b L (FR (Ar t.m.E0 O1) c2 b.A0.length) a->(Al b t a (FX b t.m.E0 x.kind i p w)\/De b t a (FX b t.m.E0 x.kind i p w))/\a.out={ t.out with D6:=P }/\Sm t a:=λa h=>by
    obtain⟨r2,o2⟩:=h.fin hw r.m r.r h9;rw[hL];refine⟨?_,by rw[o2,o1];rfl,(⟨E.sm.b,E.sm.c,E.sm.r⟩:Sm t L).trans h.sm⟩;rcases r2 with r2|r2
    .exact .inl<|r.app r2
    .exact .inr<|r.de r2
   obtain⟨a,e|e,h⟩:=h2
   .subst e;exact A ⟨a,rfl,hk a h⟩
   .subst e;exact A ⟨a,rfl,hk a h⟩
  .have q:¬L.e=0:=λh=>by have q:(L.e==0)=C:=q;rw[h]at q;cases q
   rcases r1 with r|r
   .exact absurd r.e q
   .exact A ⟨L,rfl,.inr (by rw[hL];exact r.mono _),by rw[o1];rfl,E.sm.b,E.sm.c,E.sm.r⟩
 .obtain⟨a,rfl,r2,o2,s2⟩:=x0;have ht:∀D:V,D.out={ t.out with D6:=P }->∃(i':Nat) (h1:List Bool) (h6:Bool),x.car=(i':Int)/\i'<b.A0.length/\h1.length=b.A0.length/\FX b t.m.E0 x.kind i p w=FX b t.m.E0 x.kind i' h1 h6/\D.out={ t.out with D6:=(Ip t.m.E0 x.kind i' (h1.getD i' C) h6).2 }/\Co (t.ap bB b x g)=W ((h1,()),())/\Ey t.m.E0.G0 t.m.E0.R0 t.m.E0.K0 t.m.E0.B0=W ((h6,()),()):=λD ho=>⟨i,p,w,hi,X,h0,rfl,by rw[hg];exact ho,S,hn⟩
  refine N (λq=>A ⟨a,_,.inl rfl,⟨r2,ht a o2⟩,λz=>?_⟩) λq=>?_
  .have q:(a.e !=0)=B:=q;rw[z]at q;cases q
  have q:a.e=0:=by have q:(a.e !=0)=C:=q;simpa using q
  have r:Al b t a<|FX b t.m.E0 x.kind i p w:=by
   rcases r2 with r|r
   .exact r
   .have:=r.e;omega
  refine H (Auo hw (x:=x) (g:=g) r.m r.r P (λz=>?_) t.m.E0 hm.jst.img.lp) λx4 hy=>?_
  .have hs:(Ip t.m.E0 x.kind i (p.getD i C) w).2=0:=by rw[hg];exact z.1
   rw[z.2]at hs;unfold Ip Ni at hs;rw[hv i X]at hs;simp at hs
  obtain⟨t3,rfl,m3,r3,f3,o3,c3⟩:=hy;exact A ⟨t3,_,.inr rfl,⟨.inl ⟨f3.e.trans r.e,m3,r3,f3.im.trans r.im,by rw[f3.bu];exact r.b0,by rw[f3.bu];exact r.b1,by rw[f3.bu];exact r.b2,f3.con.trans r.con⟩,ht t3<|o3.trans o2⟩,λ_ j hj=>by rw[f3.im];exact(c3 j hj).of s2⟩
end
end Go.Ovl
