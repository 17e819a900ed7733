import Derived.Test.YtnfjkodplikhjaaGreatDoorOvB
import Derived.Test.YtnfjkodplikhjaaGreatDoorOvA
set_option linter.all false
set_option maxRecDepth 100000
open Go.Ovl.Sat renaming ret->C,bifT->J,bindE->S,bindS->U,bic->V,bifF->aA,loop->aH,eq->aY
open Bool renaming true->H,false->I
open Go.Ovl renaming Sat->W,Bldg->aB,Record->aE,CarOutput->aI,View->aL,Entry->aM,Calls->aP,Debounced->aQ,Relay->aT,Event->aU,Belief->aV,NewCar->aX,Loaded->aZ
open Option renaming some->Z
open Go.IntKind renaming i64->aC,wrap->aJ,u64->aN,u32->aO,u8->bG
open Go.Ab renaming inB->aD,left->aG
open List renaming replicate->aF,mem_or_eq_of_mem_set->bK,foldl_append->bN,getElem?_eq_none->bO,getElem?_replicate->bP,getElem_of_mem->bQ
open Int renaming toNat->aK,tmod->aR,tmod_lt_of_pos->bA,tmod_nonneg->bB,fdiv->bD
open Min renaming min->aS
open Go.Ovl.Relay renaming mk->aW
open Go.Ovl.Calls renaming mk->bC
open Go.Ovl.CarOutput renaming mk->bE
open Go.Ovl.View renaming mk->bH
open Go.Ovl.machine_ticker renaming mk->bI
open ByteArray renaming mk->bJ
open Nat renaming not_lt_zero->bL,add_le_add->bM
namespace Go.Ovl
open Go Go.Ab
variable{b:aB}{t:Pk}{l:List aE}{i k:Nat}{n f:Int}{r:aT}{m:Img}{x:Inp}{z:aQ}{v:aI}{c:Int×Int}{s:Sto}
structure BW(b:Bldg):Prop where
 small:b.small
 code:b.code=0
 room:b.J0<=5000
 full:Sat (arF .sub .f64 b.N0 4589168020290535424) λ_=>True
 over:Sat (arF .sub .f64 b.O0 4589168020290535424) λ_=>True
def Awv(b:aB)(c:aQ):Prop:=Vn b.E0 c=H/\0<=c.C1/\c.C1<4294967296
structure PM(b:Bldg)(m:Mch):Prop where
 jst:Jst b m.W0 m.G0
 con:m.J1.length=b.B0.length
 conv:∀c∈m.J1,Awv b c
 bel:m.Y0.length=b.B0.length
 belv:∀i,i<b.B0.length->BelOK b i (m.Y0.getD i KN)
 car:m.B0.length=b.B0.length
 carv:∀c∈m.B0,Hr b c=true
 lod:m.E3.length=b.B0.length
 lodv:∀l∈m.E3,0<=l.E6/\l.E6<=4
 lit:m.F4.length=b.B0.length
 exl:m.K2.length=m.G0.A0.length
 exv:∀x∈m.K2,0<=x/\x<=1000000
 tick:0<=m.B4/\m.B4<=1000000
 flt:0<=m.I3/\m.I3<=1000000
 ref:0<=m.V2/\m.V2<=1000000
structure PR(b:Bldg)(t:Pk):Prop where
 leg:t.legacy.length=b.B0.length
 sho:t.shows.length=b.B0.length
 rst:t.reset.length=b.B0.length
 oc:t.out.B0.length=b.B0.length
 cmd:∀i,CmdR (t.out.B0.getD i Bi).R2
structure FixR(t t':Pk):Prop where
 im:t'.m.G0=t.m.G0
 st:t'.m.W0=t.m.W0
 bu:t'.budget=t.budget
 e:t'.e=t.e
 out:t'.out={ t.out with B0:=t'.out.B0 }
structure Fix(t t':Pk):Prop extends FixR t t' where
 con:t'.m.J1=t.m.J1
def Fix.rfl'(t:Pk):Fix t t:=⟨⟨rfl,rfl,rfl,rfl,rfl⟩,rfl⟩
def Fix.trans{a c d:Pk}(h:Fix a c)(k:Fix c d):Fix a d:=⟨⟨k.im.trans h.im,k.st.trans h.st,k.bu.trans h.bu,k.e.trans h.e,by rw[k.out,h.out]⟩,k.con.trans h.con⟩
def Akj{α:Type}{P:α->Prop}{l:List α}(h:∀x∈l,P x){v:α}(a:P v)(i:Nat):∀x∈l.set i v,P x:=λx hx=>by
 rcases bK hx with hx|rfl
 .exact h x hx
 .exact a
section
variable{b:aB}{m:Mch}
def PM.sBel(h:PM b m){v:aV}(d:BelOK b i v):PM b { m with Y0:=m.Y0.set i v }:=
 ⟨h.jst,h.con,h.conv,by rw[z_];exact h.bel,λj a=>by
  by_cases e:i=j
  .subst e;rw[BQ _ _ (by rw[h.bel];exact a)];exact d
  .rw[Fi _ _ e];exact h.belv j a,h.car,h.carv,h.lod,h.lodv,h.lit,h.exl,h.exv,h.tick,h.flt,h.ref⟩
def PM.sCar(h:PM b m)(i:Nat){v:aX}(a:Hr b v=H):PM b { m with B0:=m.B0.set i v }:=⟨h.jst,h.con,h.conv,h.bel,h.belv,by rw[z_];exact h.car,Akj h.carv a i,h.lod,h.lodv,h.lit,h.exl,h.exv,h.tick,h.flt,h.ref⟩
def PM.sCon(h:PM b m)(i:Nat){v:aQ}(a:Awv b v){w:aZ}(hw:0<=w.E6/\w.E6<=4):PM b { m with J1:=m.J1.set i v,E3:=m.E3.set i w }:=⟨h.jst,by rw[z_];exact h.con,Akj h.conv a i,h.bel,h.belv,h.car,h.carv,by rw[z_];exact h.lod,Akj h.lodv hw i,h.lit,h.exl,h.exv,h.tick,h.flt,h.ref⟩
def PM.sTick(h:PM b m){k:Int}(d:0<=n/\n<=1000000)(a:0<=k/\k<=1000000):PM b { m with B4:=n,I3:=k }:=⟨h.jst,h.con,h.conv,h.bel,h.belv,h.car,h.carv,h.lod,h.lodv,h.lit,h.exl,h.exv,d,a,h.ref⟩
end
@[reducible] def Bzj(z:aQ):=(z.C1,z.X2,z.D2,z.E2,z.R1,z.R5,z.S5,z.T5,z.U5,z.V5,z.W5,z.X5,z.Y5,z.Z5,z.A6,z.K4,z.L4,z.M4,z.N4,z.O4,z.P4,z.R4,z.S4,z.T4,z.U4,z.V4,z.W4,z.X4,z.Y4,z.Z4,z.A5,z.B5,z.C5,z.E5,z.F5,z.G5,z.H5,z.I5,z.J5,z.K5,z.L5,())
def Ad6(z:aQ):Deb:=⟨⟨z.C1,z.X2,z.D2,z.E2,z.R1⟩,Ad4 z⟩
def Awx(s:Deb):aQ:=Debounced.mk s.c.C0 s.c.Up s.c.D4 s.c.F6 s.c.J4 (s.k.getD 0 0) (s.k.getD 1 0) (s.k.getD 2 0) (s.k.getD 3 0) (s.k.getD 4 0) (s.k.getD 5 0) (s.k.getD 6 0) (s.k.getD 7 0) (s.k.getD 8 0) (s.k.getD 9 0) (s.k.getD 10 0) (s.k.getD 11 0) (s.k.getD 12 0) (s.k.getD 13 0) (s.k.getD 14 0) (s.k.getD 15 0) (s.k.getD 16 0) (s.k.getD 17 0) (s.k.getD 18 0) (s.k.getD 19 0) (s.k.getD 20 0) (s.k.getD 21 0) (s.k.getD 22 0) (s.k.getD 23 0) (s.k.getD 24 0) (s.k.getD 25 0) (s.k.getD 26 0) (s.k.getD 27 0) (s.k.getD 28 0) (s.k.getD 29 0) (s.k.getD 30 0) (s.k.getD 31 0) (s.k.getD 32 0) (s.k.getD 33 0) (s.k.getD 34 0)<|s.k.getD 35 0
def Bat:Vn n z=H↔(Ad6 z).is n:=by
 unfold Vn Deb.is;rw[a_,a_,t_,t_];refine and_congr_right λ_=>and_congr_right λ_=>⟨λh j a=>?_,λh=>Vg 36 0 λk _ d=>?_⟩
 .have:=TW 36 0 h j (Q_ _) ω
  unfold Apl at this;simp only[a_,t_]at this;exact this
 .have:=h k ω
  unfold Apl;simp only[a_,t_];exact this
def Ai4(hcode:b.code=0)(h:Awv b z)(A:0<=f/\f<4294967296)(u d o c:Bool):W (JG b.E0 z.C1 z.X2 z.D2 z.E2 z.R1 z.R5 z.S5 z.T5 z.U5 z.V5 z.W5 z.X5 z.Y5 z.Z5 z.A6 z.K4 z.L4 z.M4 z.N4 z.O4 z.P4 z.R4 z.S4 z.T4 z.U4 z.V4 z.W4 z.X4 z.Y4 z.Z4 z.A5 z.B5 z.C5 z.E5 z.F5 z.G5 z.H5 z.I5 z.J5 z.K5 z.L5 f u d o c) λy=>∃a,y.2.1=Bzj a/\Awv b a/\a=Awx ((Ad6 z).step b.E0 ⟨f,u,d,o,c⟩):=by
 have hi:=Bat.1 h.1;have B:=Ad5 hcode;have hw:(Ad6 z).wf:=⟨h.2,rfl,λj p=>(hi.2.2 j p).1,λj p=>by have:=(hi.2.2 j p).2;omega⟩
 have e:=Acg (n:=b.E0) (s:=Ad6 z) rfl h.2 (r:=⟨f,u,d,o,c⟩) A;rw[if_pos hi]at e;obtain⟨q,w⟩:=Bkv hw hi ⟨f,u,d,o,c⟩;refine⟨_,e,Awx _,rfl,⟨Bat.2 ?_,q.c⟩,rfl⟩;generalize(Ad6 z).step b.E0 ⟨f,u,d,o,c⟩=s at q w
 have:Ad6 (Awx s)=s:=by unfold Ad6;rw[show Ad4 (Awx s)=s.k from WR q.len];rfl
 rw[this];exact w
def Aq9(h:0<=n/\n<=1000000):W (HC n) λy=>0<=y.1.1/\y.1.1<=1000000:=by
 unfold HC;rw[Aa ω ω];refine C ?_;show 0<=(bif decide _ then _ else n+1)/\(bif decide _ then _ else n+1)<=1000000;by_cases g:1000000<n+1
 .rw[b_ g,h_];omega
 .rw[d_ g,g_];omega
section
variable{b:aB}(hw:BW b){x:Inp}{g:Bool}(hx:g=H->InOK b x)
include hw hx
theorem Bp6(hm:PM b t.m)(d:PR b t):W (t.ap DX b x g) λy=>∃a,(y=.inl ((),(a.tup b x g,()))\/y=.inr ((),(a.tup b x g,())))/\PM b a.m/\PR b a/\FixR t a:=by
 have P:=Ag hw.code;unfold Pk.ap DX;refine U (Aq9 hm.tick) λn1 h1=>V (λ_=>?_) λF=>?_
 .exact U (Aq9 hm.flt) λn2 E=>C ⟨{ t with m:={ t.m with B4:=n1.1.1,I3:=n2.1.1 } },.inl rfl,hm.sTick h1 E,⟨d.leg,d.sho,d.rst,d.oc,d.cmd⟩,⟨rfl,rfl,rfl,rfl,rfl⟩⟩
 .rw[Bool.not_eq_false']at F;have j:=hx F;refine U (Q:=λy=>∃a,y=((),(a.tup b x g,()))/\PM b a.m/\PR b a/\FixR t a) ?_ λy O=>by obtain⟨a,rfl,h⟩:=O;exact C ⟨a,.inr rfl,h⟩
  refine aH (λk z=>∃(i:Nat) (a:Pk),z=(((),x.cars,(x.cars.length:Int),(i:Int),()),(a.tup b x g,()))/\i+k=x.cars.length/\PM b a.m/\PR b a/\FixR t a) (λk z Y=>?_) x.cars.length ⟨0,{ t with m:={ t.m with B4:=n1.1.1 } },rfl,m_ _,hm.sTick h1 hm.flt,⟨d.leg,d.sho,d.rst,d.oc,d.cmd⟩,⟨rfl,rfl,rfl,rfl,rfl⟩⟩ (by have:=j.len;omega);obtain⟨i,a,rfl,hk,hm,d,p⟩:=Y;show W (Pk.ap (IY x.cars (x.cars.length:Int) i) b x g a) _;refine V (λq=>?_) λ_=>C ⟨a,rfl,hm,d,p⟩;have q:=j_ q;have hl:=j.len;have hin:i<b.B0.length:=ω;have w:=Cn (n:=i) ω;have N:aD i a.m.J1.length=H:=Ac ω (by rw[hm.con];omega);have i3:aD i a.m.E3.length=H:=Ac ω (by rw[hm.lod];omega);have B:=j.flo _<|AE (CarInput.mk 0 I I I I 0 I 0 I 0 0) (ω:i<x.cars.length);have A:=hm.conv _<|AE Fj (by rw[hm.con];exact hin);refine J (Ac ω q)<|J N (U (Ai4 hw.code A B _ _ _ _) λy1 h1=>?_);obtain⟨⟨ya,yb,yc⟩,R,ye⟩:=y1;obtain⟨z',L,D,_⟩:=h1;change R=_ at L;subst L;refine J N<|J i3 (U (Atq hw.full hw.over _ _) λy2 E=>J i3 ?_);refine C ⟨k-1,ω,i+1,{ a with m:={ a.m with J1:=a.m.J1.set i z',E3:=a.m.E3.set i _ } },by first|(rw[<-w];rfl)|rw[<-w],ω,hm.sCon i D E,⟨d.leg,d.sho,d.rst,d.oc,d.cmd⟩,⟨p.im,p.st,p.bu,p.e,p.out⟩⟩
end
def Bp5(a:Int):Int:=aO.wrap<|1*2^min (aK a) (IntKind.bits .u32)
def Ari(a d:Int):Int×Int:=bif inR 0 31 a then(bif d==1 then(Bp5 a,0)else bif d==2 then(0,Bp5 a)else(0,0))else(0,0)
def ZO(a d:Int):CY a d=Z (((),()),(((Ari a d).1,(Ari a d).2,()),())):=by
 unfold CY Ari inR;by_cases g:0<=a
 .by_cases j:a<32
  .rw[b_ g,b_ j,b_ ω];simp only[h_,c_,b_ g];cases d==1<;>cases d==2<;>rfl
  .rw[b_ g,d_ j,d_ ω];rfl
 .rw[d_ g];rfl
def orV(a c:Int):Int:=aO.wrap<|stk a c<|BitVec.toNat (BitVec.ofInt (IntKind.bits .u32) a|||BitVec.ofInt (IntKind.bits .u32) c)
def Asn(a c:Int×Int):Int×Int:=(orV a.1 c.1,orV a.2 c.2)
def Ai1(a c:Int×Int):Ci a.1 a.2 c.1 c.2=Z (((),()),(((Asn a c).1,(Asn a c).2,()),())):=rfl
def Ayj(vs:List aL)(car:Int)(e:aM):Bool:=e.S0==car||(e.S0==-2&&(As vs car).Z3)
def UM(vs:List aL)(car:Int)(e:aM)(c:Int×Int):Int×Int:=bif Ayj vs car e then Asn c (Ari e.D0 e.I0)else c
def Abf(vs:List aL)(car:Int):List aM->Int×Int->Int×Int
 |[],c=>c
 |e::t,c=>Abf vs car t<|UM vs car e c
def Abg(b:aB)(m:Img)(vs:List aL)(car:Int):Int×Int:=bif m.ok b&&((vs.length:Int)==(b.B0.length:Int)&&(decide (0<=car)&&decide (car<(b.B0.length:Int))))then Abf vs car m.A0 (0,0)else(0,0)
section
variable{vs:List aL}{car:Int}(hc:0<=car/\car<vs.length){m:Img}(hm:m.A0.length<=1000)
include hc hm
theorem Sn:∀(k i:Nat) (c:Int×Int),i+k=m.A0.length->
  iter (λx=>letI a:=x.1.2.2.2.2;Gq x.1.1 x.1.2.1 a.1 a.2.1 a.2.2.1 x.2.1.1 x.2.1.2.1 x.2.2.1.1 x.2.2.1.2.1) (k+1) ((vs,car,(),(),m.A0,(m.A0.length:Int),(i:Int),()),(((0:Int),(0:Int),()),(c.1,c.2,()),()))=Z (((),(),()),(((0:Int),(0:Int),()),((Abf vs car (m.A0.drop i) c).1,(Abf vs car (m.A0.drop i) c).2,()),()))
 |0,i,c,hi=>by refine Ax ?_;show Gq vs car m.A0 (m.A0.length:Int) (i:Int) 0 0 c.1 c.2=_;unfold Gq;rw[show decide ((i:Int)<(m.A0.length:Int))=I by simp;omega,show i=m.A0.length by omega,b1_];rfl
 |k+1,i,c,hi=>by
  have d:i<m.A0.length:=ω;have w:aC.wrap (i+1)=((i+1:Nat):Int):=by rw[Aa ω ω];omega
  rw[BS noE d];refine(Aq (x':=((vs,car,(),(),m.A0,(m.A0.length:Int),((i+1:Nat):Int),()),((0,0,()),((UM vs car _ c).1,(UM vs car _ c).2,()),()))) ?_).trans<|Sn k (i+1) _ ω;show Gq vs car m.A0 (m.A0.length:Int) (i:Int) 0 0 c.1 c.2=_;unfold Gq;rw[show decide _=H by simp;omega,Ac ω (ω:(i:Int)<(m.A0.length:Int)),show Entry.mk 0 0 0 0 I=noE from rfl];unfold UM Ayj As;have j:=Ai1 c<|Ari (m.A0.getD i noE).D0 (m.A0.getD i noE).I0;simp only[h_,l_];cases(m.A0.getD i noE).S0==car with
  |true=>simp only[h_,c_,Bool.true_or,ZO,j,w]
  |false=>
   cases(m.A0.getD i noE).S0==-2 with
   |true=>
    simp only[h_,g_,Ac hc.1 hc.2,c_,Bool.false_or,c1_];cases(vs.getD car.toNat _).Z3 with
    |true=>simp only[h_,ZO,c_,j,w]
    |false=>simp only[g_,w]
   |false=>simp only[g_,c_,e2_,Bool.or_self,w]
end
section
variable{b:aB}(hb:b.small)(vs:List aL)(m:Img)(hm:m.A0.length<=1000)(hp:m.F0.length<=maxLen)(car:Int)
include hb hm hp
theorem Afv:Mn b.C0 b.E0 b.J0 b.M0 b.K0 b.N0 b.O0 b.B0 m.F0 m.L0 m.H0 m.A0 vs car=Z (((),()),(((Abg b m vs car).1,(Abg b m vs car).2,()),())):=by
 have p:1000<=maxLen:=by decide
 unfold Mn Abg;rw[CV hb m hp ω];simp only[ bne];cases q:m.ok b with
 |false=>rfl
 |true=>
  cases hq:vs.length==(b.B0.length:Int)with
  |false=>rfl
  |true=>
   have w:vs.length=(b.B0.length:Int):=by simpa using hq
   by_cases g:0<=car
   .rw[b_ g,d_ ω];by_cases j:car<b.B0.length
    .rw[b_ j,d_ ω];have d:=Aj (Sn (vs:=vs) ⟨g,ω⟩ hm m.A0.length 0 (0,0) ω) ω;have a:NP ((vs,car,(),(),m.A0,m.A0.length,0,()),((0,0,()),(0,0,()),()))=_:=d;simp only[W_,g_,a,c_,d3_,c7_,h_]
    .rw[d_ j,b_ ω];rfl
   .rw[d_ g,b_ ω];rfl
end
def Ed(p:Int):Bool:=p==0||p==1
def Abx(p:Int):Bool:=p==3||p==4
def YR(p:Int):Fq p=Z ((Ed p,()),()):=by unfold Fq Ed;cases p==0<;>rfl
def Ak3(p:Int):EH p=Z ((Abx p,()),()):=by unfold EH Abx;cases p==3<;>rfl
def Ah9(vs:List aL)(car:Int):∀(l:List aM) {c:Int×Int},KO c->KO (Abf vs car l c)
 |[],_,h=>h
 |e::t,c,h=>by
  refine Ah9 vs car t ?_;unfold UM;cases Ayj vs car e with
  |true=>exact⟨Hx _,Hx _⟩
  |false=>exact h
def Ayk(b:aB)(m:Img)(vs:List aL)(car:Int):KO<|Abg b m vs car:=by
 unfold Abg;cases m.ok b&&(vs.length==(b.B0.length:Int)&&(decide (0<=car)&&decide (car<b.B0.length)))with
 |true=>exact Ah9 vs car _ US
 |false=>exact US
def Pk.sBel(t:Pk)(i:Nat)(v:aV):Pk:={ t with m:={ t.m with Y0:=t.m.Y0.set i v } }
def Pk.sCar(t:Pk)(i:Nat)(v:aX):Pk:={ t with m:={ t.m with B0:=t.m.B0.set i v } }
def Pk.sOut(t:Pk)(i:Nat)(v:aI):Pk:={ t with out:={ t.out with B0:=t.out.B0.set i v } }
def Pk.sLeg(t:Pk)(i:Nat):Pk:={ t with legacy:=t.legacy.set i H }
def Pk.sSho(t:Pk)(i:Nat)(c:aP):Pk:={ t with shows:=t.shows.set i c }
section
variable{b:aB}{t:Pk}
def PR.sBel(h:PR b t)(i:Nat)(v:aV):PR b<|t.sBel i v:=⟨h.leg,h.sho,h.rst,h.oc,h.cmd⟩
def PR.sCar(h:PR b t)(i:Nat)(v:aX):PR b<|t.sCar i v:=⟨h.leg,h.sho,h.rst,h.oc,h.cmd⟩
def Aud{l:List aI}(h:∀i,CmdR (l.getD i Bi).R2)(a:CmdR v.R2)(i:Nat):∀j,CmdR ((l.set i v).getD j Bi).R2:=λj=>by
 by_cases e:i=j
 .subst e;by_cases q:i<l.length
  .rw[BQ _ _ q];exact a
  .rw[List.set_eq_of_length_le ω];exact h i
 .rw[Fi _ _ e];exact h j
def PR.sOut(h:PR b t)(i:Nat)(a:CmdR v.R2):PR b<|t.sOut i v:=⟨h.leg,h.sho,h.rst,(by show(t.out.B0.set i v).length=_;rw[z_];exact h.oc),Aud h.cmd a i⟩
def PR.sLeg(h:PR b t)(i:Nat):PR b<|t.sLeg i:=⟨by show(t.legacy.set i H).length=_;rw[z_];exact h.leg,h.sho,h.rst,h.oc,h.cmd⟩
def PR.sSho(h:PR b t)(i:Nat)(c:aP):PR b<|t.sSho i c:=⟨h.leg,by show(t.shows.set i c).length=_;rw[z_];exact h.sho,h.rst,h.oc,h.cmd⟩
end
def DC(t:Pk)(i:Nat):Prop:=(t.m.Y0.getD i KN).G1=2->(t.m.J1.getD i Fj).R1=H
section
variable{b:aB}(hw:BW b){x:Inp}{g:Bool}(hx:g=H->InOK b x)
include hw
theorem Bcq(hm:ImgOK b m):W (MO m.F0 m.L0 m.H0 m.A0) λy=>True:=by
 have d:=Ag hw.code;have hp:=hm.lp;refine J (by simp only[a_,t_];omega) (U (Q:=λ_=>True) ?_ λ_ _=>C trivial);have h0:(aF (aK m.F0.length)<|bH I I I I 0 0 0 0 0 0 0 0).length=b.B0.length:=by rw[A_];omega
 generalize aF _ _=L at h0;refine aH (λk z=>∃(i:Nat) (l:List aL),z=(((),l,(L.length:Int),(i:Int),()),((m.F0,m.L0,m.H0,m.A0,()),()))/\l.length=b.B0.length/\i+k=L.length) (λk z j=>?_) L.length ⟨0,L,rfl,h0,m_ _⟩ ω;obtain⟨i,l,rfl,a,p⟩:=j;show W (PL l L.length i m.F0 m.L0 m.H0 m.A0) _;refine V (λq=>?_) λ_=>C trivial;have q:=j_ q;have w:=Cn (n:=i) ω;refine S (Aog hm ω)<|J (Ac ω ω) ?_;exact C ⟨k-1,ω,i+1,_,by first|(rfl)|rw[<-w],by rw[z_];exact a,ω⟩
theorem Aqj(hm:ImgOK b m)(car:Int):W (JK b.C0 b.E0 b.J0 b.M0 b.K0 b.N0 b.O0 b.B0 m.F0 m.L0 m.H0 m.A0 car) λy=>KO (y.2.1.1,y.2.1.2.1):=by
 have j:=Ag hw.code;have p:=DH hw.small hm;have hp:=hm.lp;have d:1000<=maxLen:=by decide
 exact U (Bcq hw hm) λa _=>S (Afv hw.small a.1.1 m ω ω car)<|C<|Ayk b m a.1.1 car
theorem Bcb(hm:PM b t.m)(d:PR b t)(hi:i<b.B0.length):W (t.ap (EX (i:Int)) b x g) λy=>∃a,(y=.inl ((),(a.tup b x g,()))\/y=.inr ((),(a.tup b x g,())))/\PM b a.m/\PR b a/\Fix t a/\(∀j,j≠i->a.m.Y0.getD j KN=t.m.Y0.getD j KN)/\(g=H->DC a i):=by
 have L:aD i t.legacy.length=H:=Ac ω (by rw[d.leg];omega);have i2:aD i t.m.Y0.length=H:=Ac ω (by rw[hm.bel];omega);have i3:aD i t.m.J1.length=H:=Ac ω (by rw[hm.con];omega);have i4:aD i t.shows.length=H:=Ac ω (by rw[d.sho];omega);have hb:=hm.belv i hi;have E:i<t.m.Y0.length:=by rw[hm.bel];exact hi
 refine J L (V (λF=>J i2 ?_) λ_=>J i3 ?_)
 .refine U (Aiw hw.small hw.code hi hb) λP h1=>J i2 ?_;obtain⟨N,A,O⟩:=P;obtain⟨v,e,q⟩:=h1;change A=_ at e;subst e;exact C ⟨(t.sBel i v).sLeg i,.inl rfl,hm.sBel q,(d.sBel i v).sLeg i,⟨⟨rfl,rfl,rfl,rfl,rfl⟩,rfl⟩,λj B=>Fi _ _<|e4_ B,λh=>by rw[h]at F;cases F⟩
 .have w:=hm.conv _<|AE Fj (by rw[hm.con];exact hi);refine U (Aaf b.C0 w.2 _ _ _ _) λy2 D=>U (MV ..) λY _=>J i4<|J i2 ?_;refine U (Adv hw.small hw.code hi hb _ _ _) λQ R=>J i2 ?_;obtain⟨N,A,O⟩:=Q;obtain⟨v,e,q,p⟩:=R;change A=_ at e;subst e;refine C ⟨((t.sBel i v).sLeg i).sSho i _,.inr rfl,hm.sBel q,((d.sBel i v).sLeg i).sSho i _,⟨⟨rfl,rfl,rfl,rfl,rfl⟩,rfl⟩,λj B=>Fi _ _<|e4_ B,λ_ h=>D<|p ?_⟩;have e:(t.m.Y0.set i v).getD i KN=v:=BQ _ _ E;rw[<-e];exact h
include hx
theorem Bjt(hm:PM b t.m)(q:PR b t)(hi:i<b.B0.length)(p:Int):W (t.ap (FU (i:Int) p) b x g) λy=>∃a,(y=.inl ((),(a.tup b x g,()))\/y=.inr ((),(a.tup b x g,())))/\PM b a.m/\PR b a/\Fix t a/\a.m.Y0=t.m.Y0:=by
 have i2:aD i t.m.B0.length=H:=Ac ω (by rw[hm.car];omega);have i4:aD i t.out.B0.length=H:=Ac ω (by rw[q.oc];omega);refine V (λ_=>J i2 ?_) λw=>?_
 .refine U (Ajz hw.small hw.code _ _) λL h1=>J i2<|J i4 ?_;obtain⟨D,j,B⟩:=L;obtain⟨⟨v,e,d⟩,hcm⟩:=h1;change j=_ at e;subst e;exact C ⟨(t.sCar i v).sOut i _,.inl rfl,hm.sCar i d,(q.sCar i v).sOut i hcm,⟨⟨rfl,rfl,rfl,rfl,rfl⟩,rfl⟩,rfl⟩
 .rw[Bool.not_eq_false']at w;have hl:=(hx w).len;have i3:aD i x.cars.length=H:=Ac ω ω;refine U (Q:=λy=>∃h0 h1:Int,y=(((),(i:Int),(),()),((h0,h1,()),t.tup b x g,()))) (V (λ_=>U (Aqj hw hm.jst.img _) λN _=>C ⟨_,_,rfl⟩) λ_=>C ⟨_,_,rfl⟩) λy A=>?_;obtain⟨h0,h1,rfl⟩:=A;refine J i3<|J i2 (U (Am4 hw.small hw.code _ _ _ _ _ _ _ _ _) λE F=>J i2<|J i4 ?_);obtain⟨D,j,B⟩:=E;obtain⟨⟨v,e,d⟩,hcm⟩:=F;change j=_ at e;subst e;exact C ⟨(t.sCar i v).sOut i _,.inr rfl,hm.sCar i d,(q.sCar i v).sOut i hcm,⟨⟨rfl,rfl,rfl,rfl,rfl⟩,rfl⟩,rfl⟩
def Vs(b:aB)(r:aE):Prop:=∃i:Nat,i<b.B0.length/\r=⟨5,0,0,(i:Int),1⟩
theorem Baq(hm:PM b t.m)(hr:PR b t):W (Fx (((),([]:List aE),t.m.G0.F0,(t.m.G0.F0.length:Int),(0:Int),()),(t.tup b x g,()))) λy=>∃(a:Pk) (l:List aE),y=(((),l,()),(a.tup b x g,()))/\PM b a.m/\PR b a/\Fix t a/\l.length<=8/\(∀r∈l,Vs b r)/\(g=H->∀j,j<b.B0.length->Ed (phA t.m.G0 j)=H->DC a j):=by
 have h8:=Ag hw.code;have hp:=hm.jst.img.lp;refine aH (λk z=>∃(i:Nat) (a:Pk) (l:List aE),z=(((),l,t.m.G0.F0,(t.m.G0.F0.length:Int),(i:Int),()),(a.tup b x g,()))/\i+k=b.B0.length/\PM b a.m/\PR b a/\Fix t a/\l.length<=i/\(∀r∈l,Vs b r)/\(g=H->∀j,j<i->Ed (phA t.m.G0 j)=H->DC a j)) (λk z hz=>?_) b.B0.length ⟨0,t,[],rfl,m_ _,hm,hr,.rfl' t,q_ 0,(λr h=>by cases h),λ_ j hj=>absurd hj<|bL j⟩ ω;obtain⟨i,a,l,rfl,hk,D,B,P,hl,hv,F⟩:=hz;show W (Pk.ap (IX l t.m.G0.F0 t.m.G0.F0.length i) b x g a) _;refine V (λq=>?_) λq=>C ⟨a,l,rfl,D,B,P,ω,hv,λO j hj=>F O j (by have:=w_ q;omega)⟩;have q:=j_ q;have hi:i<b.B0.length:=ω;have w:=Cn (n:=i) ω;refine J (Ac ω q) ?_;refine U (Q:=λy=>∃(u:Pk) (c:Bool),y=(((),l,(i:Int),c,t.m.G0.F0,(t.m.G0.F0.length:Int),(i:Int),()),(u.tup b x g,()))/\PM b u.m/\PR b u/\Fix t u/\(g=H->∀j,j<i+1->Ed (phA t.m.G0 j)=H->DC u j)) ?_ λy9 h9=>?_
 .have nw:∀{u:Pk},Ed (phA t.m.G0 i)=I->u.m.Y0=a.m.Y0->Fix a u->g=H->∀j,j<i+1->Ed _=H->DC u j:=λ{u} h e f O j hj A=>by
   have h7:j≠i:=λe=>by rw[e,h]at A;cases A
   unfold DC;rw[e,f.con];exact F O j ω A
  refine S (YR _) (V (λ_=>?_) λN=>S (Ak3 _) (V (λ_=>?_) λ_=>C ⟨a,I,rfl,D,B,P,nw N rfl<|.rfl' a⟩))
  .refine U (Q:=λy=>∃u:Pk,y=(((),l,(i:Int),t.m.G0.F0,(t.m.G0.F0.length:Int),(i:Int),()),(u.tup b x g,()))/\PM b u.m/\PR b u/\Fix t u/\(g=H->∀j,j<i+1->Ed (phA t.m.G0 j)=H->DC u j)) ?_ λy4 E=>?_
   .refine U (Bcb hw D B hi) λy2 d=>?_;obtain⟨u,e,h1,d,p,E,h5⟩:=d;have hd:g=H->∀j,j<i+1->Ed _=H->DC u j:=λO j hj A=>by
     by_cases e:j=i
     .rw[e];exact h5 O
     .unfold DC;rw[E j e,p.con];exact F O j ω A
    rcases e with e|e
    .subst e;exact C ⟨u,rfl,h1,d,P.trans p,hd⟩
    .subst e;exact C ⟨u,rfl,h1,d,P.trans p,hd⟩
   .obtain⟨u,rfl,h1,d,p⟩:=E;exact J (Ac (ω:_<=(i:Int)) (by show i<(u.m.Y0.length:Int);rw[h1.bel];omega))<|C ⟨u,_,rfl,h1,d,p⟩
  .refine U (Q:=λy=>∃u:Pk,y=(((),l,(i:Int),t.m.G0.F0,(t.m.G0.F0.length:Int),(i:Int),()),(u.tup b x g,()))/\PM b u.m/\PR b u/\Fix t u/\(g=H->∀j,j<i+1->Ed (phA t.m.G0 j)=H->DC u j)) ?_ λy4 E=>?_
   .refine U (Bjt hw hx D B hi _) λy2 d=>?_;obtain⟨u,e|e,h1,d,p,E⟩:=d
    .subst e;exact C ⟨u,rfl,h1,d,P.trans p,nw N E p⟩
    .subst e;exact C ⟨u,rfl,h1,d,P.trans p,nw N E p⟩
   .obtain⟨u,rfl,h1,d,p⟩:=E;exact J (Ac (ω:_<=(i:Int)) (by show(i:Int)<(u.m.B0.length:Int);rw[h1.car];omega))<|C ⟨u,_,rfl,h1,d,p⟩
 .obtain⟨u,c,rfl,L,Y,R,h0⟩:=h9;refine U (Q:=λy=>∃c:Bool,y=(((),l,(i:Int),t.m.G0.F0,(t.m.G0.F0.length:Int),(i:Int),c,()),(u.tup b x g,()))) (V (λ_=>J (Ac (ω:_<=(i:Int)) (by show(i:Int)<(u.m.G0.L0.length:Int);rw[L.jst.img.lf];omega))<|C ⟨_,rfl⟩) λ_=>C ⟨_,rfl⟩) λha h6=>?_;obtain⟨c',rfl⟩:=h6;refine V (λ_=>J (Am (ω:l.length+1<=_)) ?_) λ_=>C ⟨k-1,ω,i+1,u,l,by first|(rfl)|rw[<-w],ω,L,Y,R,ω,hv,h0⟩;refine C ⟨k-1,ω,i+1,u,l++[Record.mk 5 0 0 _ 1],by first|(rfl)|rw[<-w],ω,L,Y,R,by rw[e_];show l.length+1<=_;omega,(λr h=>?_),h0⟩;rcases n_.1 h with h|h
  .exact hv r h
  .exact⟨i,hi,E_.1 h⟩
end
def K3(l:List aE):Prop:=∀r∈l,r.R0=4\/r.R0=5\/r.R0=6
def Av4{r:aE}(h:r.R0=4\/r.R0=5\/r.R0=6):(AA m r).A0=m.A0:=by unfold AA;rcases h with h|h|h<;>rw[h]<;>rfl
def Ac3:∀{l:List aE}(m:Img),K3 l->(Aw m l).A0=m.A0
 |[],_,_=>rfl
 |r::l,m,h=>(Ac3 _ λx hx=>h x<|L_ _ hx).trans<|Av4<|h r<|H_ ..
def K3.good(h:K3 l)(m:Img)(d:∀r∈l,Ar b r=H):goodL b m l:=Yg m λr a=>⟨d r a,by have:=h r a;omega⟩
structure Al(b:Bldg)(t t':Pk)(l:List Record):Prop where
 e:t'.e=0
 m:PM b t'.m
 r:PR b t'
 im:t'.m.G0=Aw t.m.G0 l
 b0:0<=t'.budget
 b1:t'.budget<=t.budget
 b2:t.budget-600*(l.length:Int)<=t'.budget
 con:t'.m.J1=t.m.J1
structure De(b:Bldg)(t t':Pk)(l:List Record):Prop where
 e:t'.e=8
 lo:t.budget<600*(l.length:Int)
 ok:t'.m.W0.ok b.J0
 rp:∃k,k<l.length/\CW b t'.m.W0=Aw t.m.G0 (l.take k)
def PM.wr{m:Mch}(h:PM b m){a:Img}(d:Jst b s a)(j:a.A0=m.G0.A0):PM b { m with G0:=a,W0:=s }:=⟨d,h.con,h.conv,h.bel,h.belv,h.car,h.carv,h.lod,h.lodv,h.lit,by rw[j];exact h.exl,h.exv,h.tick,h.flt,h.ref⟩
def Wr.fin(hw:BW b){d:Pk}(h:Wr b t l d)(hm:PM b t.m)(a:PR b t)(w:K3 l):(Al b t d l\/De b t d l)/\d.out=t.out:=by
 obtain⟨A,s,y,e,rfl,h⟩:=h;refine⟨?_,rfl⟩;rcases h with⟨rfl,rfl,h1,p,j,q,_⟩|⟨rfl,h1,p,j⟩
 .exact .inl ⟨rfl,hm.wr h1<|Ac3 _ w,⟨a.leg,a.sho,a.rst,a.oc,a.cmd⟩,rfl,j,q,(by show t.budget-_<=y;omega),rfl⟩
 .exact .inr ⟨rfl,ω,p,j⟩
def Bud(t:Pk):Prop:=t.e=0/\0<=t.budget/\t.budget<9223372036854775808
def Al.bud{a:Pk}(h:Al b t a l)(hb:Bud t):Bud a:=⟨h.e,h.b0,by have:=h.b1;have:=hb.2.2;omega⟩
def Al.app{u v:Pk}{k:List aE}(h:Al b t u l)(a:Al b u v k):Al b t v<|l++k:=⟨a.e,a.m,a.r,by rw[EF,<-h.im];exact a.im,a.b0,by have:=a.b1;have:=h.b1;omega,(by have:=a.b2;have:=h.b2;rw[e_];omega),a.con.trans h.con⟩
def De.mono{u:Pk}(h:De b t u l)(k:List aE):De b t u<|l++k:=by obtain⟨i,h1,a⟩:=h.rp;exact⟨h.e,by have:=h.lo;rw[e_];omega,h.ok,i,by rw[e_];omega,by rw[List.take_append_of_le_length ω];exact a⟩
def Al.de{u v:Pk}{k:List aE}(h:Al b t u l)(a:De b u v k):De b t v<|l++k:=by obtain⟨i,j,d⟩:=a.rp;refine⟨a.e,by have:=a.lo;have:=h.b2;rw[e_];omega,a.ok,l.length+i,by rw[e_];omega,?_⟩;rw[d,h.im,List.take_append,a8_ (ω:l.length<=l.length+i),b4_,EF]
def Auu(hcode:b.code=0)(h:∀r∈l,Vs b r):K3 l/\∀r∈l,Ar b r=H:=⟨λr a=>by obtain⟨i,_,rfl⟩:=h r a;exact .inr<|.inl rfl,λr a=>by obtain⟨i,hi,rfl⟩:=h r a;exact Amj hcode ⟨ω,ω⟩<|.inr ⟨.inl rfl,τ⟩⟩
def Vl(t:Pk)(x:Inp)(i:Nat):Prop:=(Ed (phA t.m.G0 i)=H/\(t.m.Y0.getD i KN).G1=2)\/(Abx (phA t.m.G0 i)=H/\(x.cars.getD i UA).T2=H/\(x.cars.getD i UA).Y1=2)
section
variable{b:aB}(hw:BW b){x:Inp}{g:Bool}(hx:g=H->InOK b x)
include hw hx
theorem Bnv(hm:PM b t.m)(L:PR b t)(hb:Bud t):W (t.ap Gj b x g) λy=>∃(a:Pk) (l:List aE),y=((),(a.tup b x g,()))/\(∀r∈l,Vs b r)/\l.length<=8/\(Al b t a l\/De b t a l)/\a.out={ t.out with B0:=a.out.B0 }/\(g=H->∀j,j<b.B0.length->Ed (phA t.m.G0 j)=H->DC a j):=by
 refine U (Baq hw hx hm L) λO h1=>?_;obtain⟨u,l,rfl,p,A,d,hl,E,w⟩:=h1;obtain⟨D,v3⟩:=Auu hw.code E;have q:Bud u:=⟨d.e.trans hb.1,by rw[d.bu];exact hb.2⟩
 refine U (Q:=λy=>∃a,y=((),(a.tup b x g,()))/\Wr b u l a) ?_ λy F=>?_
 .refine U (Acf hw.small p.jst q.2 q.1 (D.good _ v3) (ω:l.length<=100000)) λN B=>?_;obtain⟨a,e|e,h⟩:=B
  .subst e;exact C ⟨a,rfl,h⟩
  .subst e;exact C ⟨a,rfl,h⟩
 obtain⟨a,rfl,h⟩:=F;obtain⟨h1,B⟩:=h.fin hw p A D;refine C ⟨a,l,rfl,E,hl,?_,by rw[B,d.out],?_⟩
 rotate_left
 .obtain⟨_,_,_,_,rfl,_⟩:=h;exact w
 rcases h1 with h1|h1
 .exact .inl ⟨h1.e,h1.m,h1.r,by rw[h1.im,d.im],h1.b0,by rw[<-d.bu];exact h1.b1,by rw[<-d.bu];exact h1.b2,h1.con.trans d.con⟩
 .exact .inr ⟨h1.e,by rw[<-d.bu];exact h1.lo,h1.ok,by rw[<-d.im];exact h1.rp⟩
omit hx in
theorem Bao(hm:PM b t.m)(h1:x.cars.length=b.B0.length):W (CS<|t.ap bI b x g) λy=>∃c:List Bool,y=((c,()),())/\c.length=b.B0.length/\∀j,j<b.B0.length->c.getD j I=H->Vl t x j:=by
 have h0:=Ag hw.code;have hp:=hm.jst.img.lp;refine J (by show((decide _&&decide _)&&decide ((b.B0.length:Int)<=2147483648))=H;simp only[a_,t_];omega) (U (Q:=λy=>∃c:List Bool,y=((c,()),())/\c.length=b.B0.length/\∀j,j<b.B0.length->c.getD j I=H->Vl t x j) ?_ λy h=>by obtain⟨c,rfl,h⟩:=h;exact C ⟨c,rfl,h⟩);generalize a:t.ap bI b x g=T;have eb:T.m_Beliefs=t.m.Y0:=by rw[<-a];rfl
 have N:T.m_Cars=t.m.B0:=by rw[<-a];rfl
 have O:T.x_Cars=x.cars:=by rw[<-a];rfl
 have ep:T.m_Image_Phases=t.m.G0.F0:=by rw[<-a];rfl
 have e1:T.b_Floors=b.C0:=by rw[<-a];rfl
 have e2:T.b_Debounce=b.E0:=by rw[<-a];rfl
 have Y:T.b_Room=b.J0:=by rw[<-a];rfl
 have e4:T.b_Park=b.M0:=by rw[<-a];rfl
 have e5:T.b_Empty=b.K0:=by rw[<-a];rfl
 have e6:T.b_Full=b.N0:=by rw[<-a];rfl
 have e7:T.b_Over=b.O0:=by rw[<-a];rfl
 have L:T.b_Cars=b.B0:=by rw[<-a];rfl
 refine aH (λk z=>∃(i:Nat) (c:List Bool),z=((T,c,T.m_Image_Phases,(T.m_Image_Phases.length:Int),(i:Int),()),())/\i+k=b.B0.length/\c.length=b.B0.length/\∀j,j<i->c.getD j I=H->Vl t x j) (λk z hz=>?_) b.B0.length ⟨0,_,rfl,m_ _,by rw[A_,L];omega,λj E=>absurd E<|bL j⟩ ω;obtain⟨i,c,rfl,hk,hc,A⟩:=hz;show W (Fy T c T.m_Image_Phases T.m_Image_Phases.length i) _;unfold Fy;rw[eb,N,O,ep,e1,e2,Y,e4,e5,e6,e7,L];refine V (λq=>?_) λq=>C ⟨c,rfl,hc,λj E=>A j (by have:=w_ q;omega)⟩;have q:=j_ q;have hi:i<b.B0.length:=ω;have w:=Cn (n:=i) ω;have i2:aD i t.m.Y0.length=H:=Ac ω (by rw[hm.bel];omega);have i3:aD i t.m.B0.length=H:=Ac ω (by rw[hm.car];omega);have i4:aD i c.length=H:=Ac ω ω;have i5:aD i x.cars.length=H:=Ac ω ω;refine J (Ac ω q) ?_;have done:∀v:Bool,(v=H->Vl t x i)->(c.set i v).length=b.B0.length/\∀j,j<i+1->(c.set i v).getD j I=H->Vl t x j:=λv D=>⟨by rw[z_];exact hc,λj E h=>by
  by_cases e:i=j
  .subst e;rw[BQ _ _ ω]at h;exact D h
  .rw[Fi _ _ e]at h;exact A j ω h⟩
 have no:∀{p:Prop},I=H->p:=λq=>by cases q
 refine U (Q:=λy=>∃v:Bool,y=((T,c.set i v,t.m.G0.F0,(t.m.G0.F0.length:Int),(i:Int),()),())/\(v=H->Vl t x i)) ?_ λy P=>?_
 .have d:W ((EH _).bind λR=>bif R.1.1 then(bif aD _ t.m.B0.length then(let z2:=t.m.B0.getD (aK (i:Int)) BD
   bif aD _ x.cars.length then(let z3:=x.cars.getD _ UA
   (Mw b.C0 b.E0 b.J0 b.M0 b.K0 b.N0 b.O0 b.B0 z2.S1 z2.E1 z2.X0 z2.L1 z2.I1 z2.K1 z2.F1 z2.U0 z2.Z0 z2.V0 z2.I2 z2.H3 z2.V3 z2.J3 z3.H2 z3.T2 z3.Y1 z3.C3).bind λB=>bif aD _ c.length then Z ((T,c.set _ B.1.1,t.m.G0.F0,(t.m.G0.F0.length:Int),(i:Int),()),())else none)else none)else none)else(bif aD _ c.length then Z _ else none)) λy=>∃v:Bool,y=((T,c.set i v,t.m.G0.F0,(t.m.G0.F0.length:Int),(i:Int),()),())/\(v=H->Vl t x i):=
   S (Ak3 _) (V (λhd=>J i3<|J i5 (U (Aj1 hw.small hw.code _ _ _ _ _) λB h4=>J i4<|C ⟨B.1.1,rfl,λh=>.inr ⟨hd,h4 h⟩⟩)) λ_=>J i4<|C ⟨I,rfl,no⟩)
  refine S (YR _) (V (λF=>J i2 ?_) λ_=>d);refine U (Aix hw.small hw.code hi<|hm.belv i hi) λy2 h2=>V (λq=>J i4<|C ⟨H,rfl,λ_=>.inl ⟨F,h2 q⟩⟩) λ_=>d
 obtain⟨v,rfl,D⟩:=P;obtain⟨d1,d2⟩:=done v D;exact C ⟨k-1,ω,i+1,c.set i v,by first|(rfl)|rw[<-w],ω,d1,d2⟩
end
def Pk.stat(t:Pk)(n:Int):Pk:={ t with out:={ t.out with G6:=n } }
def Pk.sRst(t:Pk)(i:Nat):Pk:={ t with reset:=t.reset.set i H }
def PR.sRst(h:PR b t)(i:Nat):PR b<|t.sRst i:=⟨h.leg,h.sho,by show(t.reset.set i H).length=_;rw[z_];exact h.rst,h.oc,h.cmd⟩
def Sg(m:Img)(kind:Int)(i:Nat)(a fr:Bool):List aE×Int:=bif kind==0 then([],(0:Int))else Uc m i a fr kind
def QN(b:aB)(r:aE):Prop:=∃(i:Nat) (k v:Int),i<b.B0.length/\r=⟨k,0,0,i,v⟩/\((k=4/\0<=v/\v<=4)\/((k=5\/k=6)/\0<=v/\v<=1))
def Abs(hcode:b.code=0)(h:∀r∈l,QN b r):K3 l/\∀r∈l,Ar b r=H:=by
 refine⟨λr a=>?_,λr a=>?_⟩<;>obtain⟨i,k,v,hi,rfl,h⟩:=h r a
 .show k=4\/k=5\/k=6;omega
 .exact Amj hcode ⟨ω,ω⟩ h
def Bgf(hi:i<b.B0.length){k v:Int}(h:(k=4/\0<=v/\v<=4)\/((k=5\/k=6)/\0<=v/\v<=1)):∀r∈[(⟨k,0,0,i,v⟩:aE)],QN b r:=λr a=>⟨i,k,v,hi,E_.1 a,h⟩
def Ark(m:Img)(kind:Int)(hi:i<b.B0.length)(a fr:Bool):(∀r∈(Sg m kind i a fr).1,QN b r)/\(Sg m kind i a fr).1.length<=1:=by
 have no:∀e:Int,(∀r∈(([]:List aE),e).1,QN b r)/\(([]:List aE),e).1.length<=1:=λe=>⟨λr h=>(by cases h),Q_ _⟩
 have one:∀{k v:Int},((k=4/\0<=v/\v<=4)\/((k=5\/k=6)/\0<=v/\v<=1))->(∀r∈([(⟨k,0,0,i,v⟩:aE)],0).1,QN b r)/\([(⟨k,0,0,i,v⟩:aE)],0).1.length<=1:=λh=>⟨Bgf hi h,q_ 1⟩
 have ite:∀(c:Bool) {x y:List aE×Int},((∀r∈x.1,QN b r)/\x.1.length<=1)->((∀r∈y.1,QN b r)/\y.1.length<=1)->(∀r∈(bif c then x else y).1,QN b r)/\(bif c then x else y).1.length<=1:=λc _ _ h1 d=>by
  cases c
  .exact d
  .exact h1
 exact ite _ (no 0)<|ite _ (ite _ (one<|.inl ⟨rfl,τ⟩)<|no _)<|ite _ (one<|.inl ⟨rfl,τ⟩)<|ite _ (one<|.inl ⟨rfl,τ⟩)<|ite _ (one<|.inr ⟨.inr rfl,τ⟩)<|ite _ (one<|.inl ⟨rfl,τ⟩)<|ite _ (ite _ (one<|.inl ⟨rfl,τ⟩)<|no _)<|ite _ (ite _ (one<|.inl ⟨rfl,τ⟩)<|no _)<|ite _ (ite _ (one<|.inr ⟨.inr rfl,τ⟩)<|no _)<|ite _ (one<|.inr ⟨.inl rfl,τ⟩)<|no _
def Aiv{b:aB}(m:Img)(a:List Bool):∀n,n<=b.B0.length->∀r∈Jb m a n,QN b r
 |0,_,_,h=>by cases h
 |n+1,j,r,h=>by
  rcases n_.1 h with h|h
  .exact Aiv m a n ω r h
  .unfold QJ at h;cases d:Yf m a n with
   |false=>rw[d]at h;cases h
   |true=>
    rw[d]at h;rcases n_.1 h with h|h
    .rcases n_.1 h with h|h
     .exact⟨n,4,2,ω,E_.1 h,.inl ⟨rfl,τ⟩⟩
     .cases hl:LI m n with
      |false=>rw[hl]at h;cases h
      |true=>rw[hl]at h;exact⟨n,6,0,ω,E_.1 h,.inr ⟨.inr rfl,τ⟩⟩
    .cases hl:flA m n with
     |false=>rw[hl]at h;cases h
     |true=>rw[hl]at h;exact⟨n,5,0,ω,E_.1 h,.inr ⟨.inl rfl,τ⟩⟩
def Sf(b:aB)(m:Img)(kind:Int)(i:Nat)(cm:List Bool)(fr:Bool):List aE:=(Sg m kind i (cm.getD i I) fr).1++Jb (Aw m (Sg m kind i (cm.getD i I) fr).1) (bif kind !=0 then cm.set i I else cm) b.B0.length
structure Opr(b:Bldg)(x:Inp)(g:Bool)(t t':Pk)(l:List Record):Prop where
 res:Al b t t' l\/De b t t' l
 how:∃(i:Nat) (cm:List Bool) (fr:Bool),x.car=(i:Int)/\i<b.B0.length/\cm.length=b.B0.length/\l=Sf b t.m.G0 x.kind i cm fr/\t'.out={ t.out with G6:=(Sg t.m.G0 x.kind i (cm.getD i false) fr).2 }/\CS (t.ap machine_ticker.mk b x g)=some ((cm,()),())/\Er t.m.G0.F0 t.m.G0.L0 t.m.G0.H0 t.m.G0.A0=some ((fr,()),())
section
variable{b:aB}(hw:BW b){x:Inp}{g:Bool}(hx:InOK b x)
include hw
theorem BelOK.new:BelOK b i ⟨-1,0,0,[],0,I⟩:=by
 have:=hw.small.lo
 exact⟨⟨τ,show(-1)<=b.C0-1 by omega⟩,τ,τ,τ,λ_=>rfl,.nil⟩
theorem Bgi(hm:PM b t.m)(j:PR b t)(e:Int)(was:Img)(F:was.F0.length=b.B0.length):W (Et (((),(),(),e,t.m.G0.F0,(t.m.G0.F0.length:Int),(0:Int),()),((was.F0,was.L0,was.H0,was.A0,()),(x.kind,x.car,()),t.tup b x g,()))) λy=>∃d:Pk,y=((),(d.tup b x g,()))/\PM b d.m/\PR b d/\Fix t d/\d.out=t.out:=by
 have P:=Ag hw.code;have hp:=hm.jst.img.lp;refine aH (λk z=>∃(i:Nat) (d:Pk),z=(((),(),(),e,t.m.G0.F0,(t.m.G0.F0.length:Int),(i:Int),()),((was.F0,was.L0,was.H0,was.A0,()),(x.kind,x.car,()),d.tup b x g,()))/\i+k=b.B0.length/\PM b d.m/\PR b d/\Fix t d/\d.out=t.out) (λk z B=>?_) b.B0.length ⟨0,t,rfl,m_ _,hm,j,.rfl' t,rfl⟩ ω;obtain⟨i,u,rfl,hk,hm,j,a,p⟩:=B;show W (u.ap (Hv e t.m.G0.F0 (t.m.G0.F0.length:Int) i was.F0 was.L0 was.H0 was.A0 x.kind x.car) b x g) _;refine V (λq=>?_) λ_=>C ⟨u,rfl,hm,j,a,p⟩;have q:=j_ q;have hi:i<b.B0.length:=ω;have w:=Cn (n:=i) ω;have i2:aD i u.m.Y0.length=H:=Ac ω (by rw[hm.bel];omega);have i3:aD i u.m.B0.length=H:=Ac ω (by rw[hm.car];omega);have i4:aD i u.reset.length=H:=Ac ω (by rw[j.rst];omega);refine J (Ac ω q)<|J (Ac ω ω) ?_;refine U (Q:=λ_=>True) (by unfold OH;exact Sat.go) λy1 _=>V (λ_=>?_) λ_=>?_
 .refine S rfl<|J i2<|J i3<|J i4 ?_;exact C ⟨k-1,ω,i+1,((u.sBel i ⟨-1,0,0,[],0,I⟩).sCar i BD).sRst i,by first|(rw[<-w];rfl)|rw[<-w],ω,(hm.sBel<|BelOK.new hw).sCar i<|KM hw.small,((j.sBel i _).sCar i _).sRst i,⟨⟨a.im,a.st,a.bu,a.e,a.out⟩,a.con⟩,p⟩
 refine U (Q:=λy=>∃c:Bool,y=(((),(),(),e,(i:Int),t.m.G0.F0,(t.m.G0.F0.length:Int),(i:Int),c,()),((was.F0,was.L0,was.H0,was.A0,()),(x.kind,x.car,()),u.tup b x g,()))) (V (λ_=>V (λ_=>C ⟨_,rfl⟩) λ_=>C ⟨_,rfl⟩) λ_=>C ⟨_,rfl⟩) λR O=>?_;obtain⟨c,rfl⟩:=O;refine V (λ_=>J i2 ?_) λ_=>C ⟨k-1,ω,i+1,u,by first|(rfl)|rw[<-w],ω,hm,j,a,p⟩;refine U (Afx hw.small hw.code hi<|hm.belv i hi) λE L=>J i2<|J i3<|J i4 ?_;obtain⟨ya,N,Y⟩:=E;obtain⟨v,A,D⟩:=L;change N=_ at A;subst A;exact C ⟨k-1,ω,i+1,((u.sBel i v).sCar i BD).sRst i,by first|(rw[<-w];rfl)|rw[<-w],ω,(hm.sBel D).sCar i<|KM hw.small,((j.sBel i _).sCar i _).sRst i,⟨⟨a.im,a.st,a.bu,a.e,a.out⟩,a.con⟩,p⟩
include hx
theorem Bce(hm:PM b t.m)(hr:PR b t)(hb:Bud t):W (t.ap EY b x g) λy=>∃(a:Pk) (l:List aE),(y=.inl ((),(a.tup b x g,()))\/y=.inr ((),(a.tup b x g,())))/\Opr b x g t a l:=by
 have hk:=Ag hw.code;have he:=DH hw.small hm.jst.img;obtain⟨fr,h1⟩:=Bj3 hm.jst.img;obtain⟨i,hi⟩:=a6_ hx.car.1;have E:i<b.B0.length:=by have:=hx.car.2;omega
 obtain⟨y1,d,cm,rfl,hcm,_⟩:=Bao hw hm hx.len;refine S d ?_;have A:=Aj4 hm.jst.img hw.small ω hx.kind E hcm h1;rw[<-hi]at A;refine S A ?_;obtain⟨ok1,B⟩:=Ark t.m.G0 x.kind E _ fr;obtain⟨F,v1⟩:=Abs hw.code ok1;have hO:(bif x.kind==0 then _ else Uc t.m.G0 i (cm.getD i I) fr x.kind)=Sg t.m.G0 x.kind i _ fr:=rfl;have hL:Sf b t.m.G0 x.kind i cm fr=(Sg t.m.G0 x.kind i _ fr).1++Jb _ _ b.B0.length:=rfl;rw[hO];generalize hd:Sg t.m.G0 x.kind i _ fr=O at ok1 B F v1 hL;obtain⟨R,p⟩:=O;refine U (Q:=λy=>∃a,y=(((),(),(),cm,p,()),((t.m.G0.F0,t.m.G0.L0,t.m.G0.H0,t.m.G0.A0,()),(x.kind,x.car,()),a.tup b x g,()))/\Wr b (t.stat p) R a) ?_ λy5 h5=>?_
 .refine U (Acf hw.small (t:=t.stat p) hm.jst hb.2 hb.1 (F.good _ v1) (show R.length<=100000 by have:R.length<=1:=B;omega)) λy2 h2=>?_;obtain⟨a,e|e,h⟩:=h2
  .subst e;exact C ⟨a,rfl,h⟩
  .subst e;exact C ⟨a,rfl,h⟩
 obtain⟨j,rfl,ha⟩:=h5;obtain⟨r1,o1⟩:=ha.fin hw hm ⟨hr.leg,hr.sho,hr.rst,hr.oc,hr.cmd⟩ F;have r1:Al b t j R\/De b t j R:=by
  rcases r1 with r|r
  .exact .inl ⟨r.e,r.m,r.r,r.im,r.b0,r.b1,r.b2,r.con⟩
  .exact .inr ⟨r.e,r.lo,r.ok,r.rp⟩
 have Y:(bif x.kind !=0 then cm.set i I else cm).length=b.B0.length:=by
  cases x.kind !=0
  .exact hcm
  .show(cm.set i I).length=_;rw[z_];exact hcm
 refine S (b:=(((),(),(),(bif x.kind !=0 then cm.set i I else cm),p,()),((t.m.G0.F0,t.m.G0.L0,t.m.G0.H0,t.m.G0.A0,()),(x.kind,x.car,()),j.tup b x g,()))) ?_ ?_
 .show(bif x.kind !=0 then(bif aD x.car cm.length then _ else none)else _)=_;cases x.kind !=0 with
  |false=>rfl
  |true=>rw[h_,Ac hx.car.1 (by have:=hx.car.2;omega),h_,h_];rw[hi,l_]
 generalize(bif x.kind !=0 then cm.set i I else cm)=c2 at Y hL;refine U (Q:=λy=>∃t2,y=(((),(),(),p,()),((t.m.G0.F0,t.m.G0.L0,t.m.G0.H0,t.m.G0.A0,()),(x.kind,x.car,()),t2.tup b x g,()))/\(Al b t t2 (Sf b t.m.G0 x.kind i cm fr)\/De b t t2 (Sf b t.m.G0 x.kind i cm fr))/\t2.out={ t.out with G6:=p }) ?_ λhg hf=>?_
 .refine V (λq=>?_) λq=>?_
  .have q:j.e=0:=eq_of_beq q;have r:Al b t j R:=by
    rcases r1 with r|r
    .exact r
    .have:=r.e;omega
   have hj:=DH hw.small r.m.jst.img;have h4:=r.bud hb;refine U (Q:=λy=>∃t2,y=(((),(),(),p,()),((t.m.G0.F0,t.m.G0.L0,t.m.G0.H0,t.m.G0.A0,()),(x.kind,x.car,()),t2.tup b x g,()))/\(Al b t t2 _\/De b t t2 _)/\t2.out={ t.out with G6:=p }) ?_ λhh h9=>by obtain⟨t2,rfl,h⟩:=h9;exact C ⟨t2,rfl,h⟩
   have N:=Am5 r.m.jst.img hw.small ω Y;have ok2:=Aiv j.m.G0 c2 b.B0.length<|q_ _;have h0:=Vh j.m.G0 c2 b.B0.length;rw[r.im]at ok2 h0;obtain⟨h7,v2⟩:=Abs hw.code ok2;refine S N ?_;rw[r.im];refine U (Acf hw.small r.m.jst h4.2 h4.1 (h7.good _ v2) (ω:(Jb _ c2 b.B0.length).length<=100000)) λy2 h2=>?_;have h6:∀t2,Wr b j _ t2->(Al b t t2 (Sf b t.m.G0 x.kind i cm fr)\/De b t t2 (Sf b t.m.G0 x.kind i cm fr))/\t2.out={ t.out with G6:=p }:=λt2 h=>by
    obtain⟨D,o2⟩:=h.fin hw r.m r.r h7;rw[hL];refine⟨?_,by rw[o2,o1];rfl⟩;rcases D with D|D
    .exact .inl<|r.app D
    .exact .inr<|r.de D
   obtain⟨t2,e|e,h⟩:=h2
   .subst e;exact C ⟨t2,rfl,h6 t2 h⟩
   .subst e;exact C ⟨t2,rfl,h6 t2 h⟩
  .have q:¬j.e=0:=λh=>by have q:(j.e==0)=I:=q;rw[h]at q;cases q
   rcases r1 with r|r
   .exact absurd r.e q
   .exact C ⟨j,rfl,.inr (by rw[hL];exact r.mono _),by rw[o1];rfl⟩
 .obtain⟨t2,rfl,D,o2⟩:=hf;have h3:∀a:Pk,a.out={ t.out with G6:=p }->∃(i':Nat) (w:List Bool) (L:Bool),x.car=i'/\i'<b.B0.length/\w.length=b.B0.length/\Sf b t.m.G0 x.kind i cm fr=Sf b t.m.G0 x.kind i' w L/\a.out={ t.out with G6:=(Sg t.m.G0 x.kind i' (w.getD i' I) L).2 }/\CS _=Z ((w,()),())/\Er t.m.G0.F0 t.m.G0.L0 t.m.G0.H0 t.m.G0.A0=Z ((L,()),()):=λa ho=>⟨i,cm,fr,hi,E,hcm,rfl,by rw[hd];exact ho,d,h1⟩
  refine V (λ_=>C ⟨t2,_,.inl rfl,D,h3 t2 o2⟩) λq=>?_;have q:t2.e=0:=by have q:(t2.e !=0)=I:=q;simpa using q
  have r:Al b t t2<|Sf b t.m.G0 x.kind i cm fr:=by
   rcases D with r|r
   .exact r
   .have:=r.e;omega
  refine U (Bgi hw r.m r.r p t.m.G0 hm.jst.img.lp) λhn h8=>?_;obtain⟨t3,rfl,m3,r3,P,o3⟩:=h8;exact C ⟨t3,_,.inr rfl,.inl ⟨P.e.trans r.e,m3,r3,P.im.trans r.im,by rw[P.bu];exact r.b0,by rw[P.bu];exact r.b1,by rw[P.bu];exact r.b2,P.con.trans r.con⟩,h3 t3<|o3.trans o2⟩
end
def inX(l:List Int):Prop:=∀x∈l,0<=x/\x<=1000000
def inX.exp{l:List Int}(h:inX l):Ps l=H:=F_.2 λx hx=>Ah.2<|h x hx
def Bqu(E:List aM){xs:List Int}(h:inX xs)(r:aE):inX<|xsV E xs r:=by
 unfold xsV;cases _&&FX _ E with
 |true=>
  intro x hx;rcases n_.1 hx with hx|hx
  .exact h x<|f0_ hx
  .exact h x<|f1_ hx
 |false=>
  cases _&&!FX _ E with
  |true=>
   intro x hx;rcases n_.1 hx with hx|hx
   .rcases n_.1 hx with hx|hx
    .exact h x<|f0_ hx
    .rw[E_.1 hx];decide
   .exact h x<|f1_ hx
  |false=>exact h
def Bg0(hcode:b.code=0)(i:Int):0<=(Abt b i).L2/\(Abt b i).L2<=10000:=by
 by_cases h:i.toNat<b.B0.length
 .exact(Af5 hcode h).2.2.2
 .unfold Abt;rw[k_,bO ω];decide
def Bgb(hcode:b.code=0)(vs:List aL)(e n:aM){x:Int}(hx:0<=x/\x<=1000000):0<=Ab6 b vs e n x/\Ab6 b vs e n x<=1000000:=by
 unfold Ab6;have h1:=Bjz b n.S0 (As vs n.S0) e.D0 e.I0;have a:=Bg0 hcode n.S0;rw[Aa (n:=x-1) ω ω,Aa ω ω];cases n.S0 !=e.S0&&decide (0<=n.S0)with
 |true=>
  rw[h_];by_cases g:1000000<Uk b n.S0 (As vs n.S0) e.D0 e.I0+(Abt b n.S0).L2
  .rw[b_ g,h_];decide
  .rw[d_ g,g_];omega
 |false=>
  rw[g_];by_cases g:x-1<0
  .rw[b_ g,h_];decide
  .rw[d_ g,g_];omega
def Arn{b:aB}(hcode:b.code=0)(vs:List aL):∀(l:List aM) (xs:List Int),inX xs->inX (LL b vs l xs)
 |[],_,_,_,h=>by simp[LL]at h
 |_::_,[],_,_,h=>by simp[LL]at h
 |e::t,x::xs,hx,y,h=>by
  rcases x_.1 h with rfl|h
  .exact Bgb hcode vs e _<|hx x<|H_ ..
  .exact Arn hcode vs t xs (λz a=>hx z<|L_ _ a) y h
def Ax0(a c:aM):∀r∈PF a c,r.R0=3\/r.R0=7:=by
 intro r h;rcases n_.1 h with h|h
 .cases q:(a.H1 !=c.H1||!(a.Z1==c.Z1))with
  |false=>rw[q]at h;cases h
  |true=>rw[q]at h;rw[E_.1 h];exact .inr rfl
 .cases q:a.S0 !=c.S0 with
  |false=>rw[q]at h;cases h
  |true=>rw[q]at h;rw[E_.1 h];exact .inl rfl
def Ahm(b:aB)(vs:List aL):∀(l:List aM) (xs:List Int),∀r∈Ht b vs l xs,r.R0=3\/r.R0=7
 |[],_,_,h=>by simp[Ht]at h
 |_::_,[],_,h=>by simp[Ht]at h
 |e::t,x::xs,r,h=>by
  rcases n_.1 h with h|h
  .exact Ax0 _ _ r h
  .exact Ahm b vs t xs r h
structure Rg(b:Bldg)(m:Img)(X:Rnd):Prop where
 good:goodL b m X.recs
 img:Aw m X.recs=X.img
 ok:X.ok b
 xs:inX X.xs
def Rg.step{X:Rnd}(h:Rg b m X){r:aE}(a:Ar b r=H)(d:Jf b X.img r=I):Rg b m<|VN r X:=⟨h.good.app ⟨a,by rw[h.img];exact d,trivial⟩,by show Aw m (X.recs++[r])=AA X.img r;rw[EF,h.img];rfl,YK h.ok a,Bqu _ h.xs r⟩
def Rg.wr{b:aB}{m:Img}:∀{l:List aE}{X:Rnd},Rg b m X->goodL b X.img l->Rg b m (wrL l X)
 |[],X,h,_=>by unfold wrL;rw[T_];exact⟨h.good,h.img,⟨h.ok.img,h.ok.len⟩,h.xs⟩
 |r::t,X,h,⟨h1,a,d⟩=>by rw[YS];exact Rg.wr (h.step h1 a) d
def Rg.reg{b:aB}{m:Img}:∀{l:List aM}{X:Rnd},Rg b m X->(∀e∈l,Au b e.D0 e.I0=H)->Rg b m (Mk b l X)
 |[],_,h,_=>h
 |e::t,X,h,a=>by
  refine Rg.reg (l:=t) ?_ λx hx=>a x<|L_ _ hx;unfold QW;cases d:QT b X.img with
  |true=>exact h.step (Aa6<|a e<|H_ ..) (by unfold Jf;rw[d];simp)
  |false=>exact⟨h.good,h.img,⟨h.ok.img,h.ok.len⟩,h.xs⟩
section
variable{b:aB}(hb:b.small)(hcode:b.code=0){m:Img}(hm:ImgOK b m){xs:List Int}(hx:xs.length=m.A0.length)(hxv:inX xs){vs:List aL}(ps:List aP)(press:Int×Int)(good:Bool)
include hb hcode hm hx hxv
theorem Ash:Rg b m<|FG b m xs vs ps press good:=by
 have h0:∀L:Lan,Rg b m ⟨[],m,xs,L,(0,0)⟩:=λL=>⟨trivial,rfl,⟨hm,hx⟩,hxv⟩
 cases good with
 |false=>exact h0 _
 |true=>have j:=Wt hcode vs λe a=>(FT.1<|hm.en e a).1;exact((h0 _).wr (Yg m λr d=>⟨(j r d).1,by rw[(j r d).2];decide⟩)).reg λe a=>Yc hb hcode a
variable(hvl:vs.length=b.B0.length)
include hvl
theorem Ayp:An8 b m xs vs ps press good=(Ht b vs (FG b m xs vs ps press good).img.A0 (FG b m xs vs ps press good).xs,LL b vs (FG b m xs vs ps press good).img.A0 (FG b m xs vs ps press good).xs,0,()):=by have h:=Ash hb hcode hm hx hxv (vs:=vs) ps press good;unfold An8 PB;rw[Img.ok_iff.2 h.ok.img,show(((FG b m xs vs ps press good).xs.length:Int)==((FG b m xs vs ps press good).img.A0.length:Int))=H by rw[h.ok.len];exact p_ _,show(vs.length==(b.B0.length:Int))=H by rw[hvl];exact p_ _,h.xs.exp];rfl
theorem Asf:Rg b m (QY b m xs vs ps press good)/\(QY b m xs vs ps press good).recs.length<=300:=by
 have y:=Ag hcode;have h:=Ash hb hcode hm hx hxv (vs:=vs) ps press good;have a:=(Asg hb hcode hm hx (vs:=vs) ps press good).2;have hp:=Ayp hb hcode hm hx hxv ps press good hvl;have p:=DH hb h.ok.img;unfold QY;rw[hp];generalize FG b m xs vs ps press good=X at h a p;obtain⟨j,q,A⟩:=YA ω (by omega:vs.length=(b.B0.length:Int)) X.img.A0 X.xs [] X.img h.ok.len h.ok.img rfl;have w:=Ahm b vs X.img.A0 X.xs;have hw:=h.wr (Yg X.img λr d=>⟨q r d,by have:=w r d;omega⟩);have hl:=Aa3 b vs X.img.A0 X.xs;refine⟨⟨hw.good,hw.img,⟨hw.ok.img,?_⟩,Arn hcode vs _ _ h.xs⟩,?_⟩
 .show(LL b vs X.img.A0 X.xs).length=(Aw X.img _).A0.length;rw[j,Aa2 b vs _ _ h.ok.len];show _=(Wg b vs X.img.A0 X.xs).length;rw[Apu b vs _ _ h.ok.len]
 .show(X.recs++Ht b vs X.img.A0 X.xs).length<=300;rw[e_];omega
end
def Bbz(b:aB)(vs:List aL)(ps:List aP):∀(m i:Nat) (s:Lan),(Bd (Uz b vs ps) m i s).lit.length=s.lit.length+m/\(Bd (Uz b vs ps) m i s).gong.length=s.gong.length+m
 |0,_,_=>⟨rfl,rfl⟩
 |m+1,i,s=>by
  obtain⟨h1,a⟩:=Bbz b vs ps m (i+1)<|Uz b vs ps i s;have j:(Uz b vs ps i s).lit.length=s.lit.length+1:=by unfold Uz;rw[e_];rfl
  have d:(Uz b vs ps i s).gong.length=s.gong.length+1:=by unfold Uz;rw[e_];rfl
  exact⟨by show(Bd (Uz b vs ps) m (i+1) _).lit.length=_;omega,by show(Bd (Uz b vs ps) m (i+1) _).gong.length=_;omega⟩
def Art(b:aB):∀(l:List aM) (X:Rnd),(Mk b l X).lan=X.lan
 |[],_=>rfl
 |e::t,X=>by show(Mk b t _).lan=X.lan;rw[Art b t];unfold QW;cases QT b X.img<;>rfl
def Bc9(b:aB)(m:Img)(xs:List Int)(vs:List aL)(ps:List aP)(press:Int×Int)(good:Bool):(QY b m xs vs ps press good).lan=bif good then Nl b vs ps else Bib vs.length:=by
 show(FG b m xs vs ps press good).lan=_;unfold FG;cases good with
 |true=>rw[h_,Art];rfl
 |false=>rfl
def Bda(b:aB)(m:Img)(xs:List Int)(vs:List aL)(ps:List aP)(press:Int×Int)(good:Bool):(QY b m xs vs ps press good).lan.lit.length=vs.length/\(QY b m xs vs ps press good).lan.gong.length=vs.length:=by
 rw[Bc9];cases good with
 |true=>obtain⟨h1,a⟩:=Bbz b vs ps vs.length 0 Lan.none;exact⟨h1.trans<|m_ _,a.trans<|m_ _⟩
 |false=>exact⟨A_,A_⟩
@[reducible] def Btf(v:aL):=(v.Z3,v.L3,v.N3,v.E4,v.D0,v.I0,v.C4,v.U3,v.A3,v.Z2,v.X1,v.N1,())
def Bb9(hb:b.small){x:aX}(h:Hr b x=H):Akr x.I2:=by
 have j:=Asl hb;unfold Hr at h;cases a:x.J3 with
 |true=>rw[a]at h;simp only[h_,Ai2,a_,a1_]at h;rw[h.2.2.2.2.2.2.2.2.2.2.1];exact⟨τ,τ⟩
 |false=>have d:=(WX hb a).1 (by unfold Hr;exact h);have hc:=d.1.ca;unfold C2 at hc;exact⟨hc.1,ω⟩
def Be6{l:List Duty}(hl:l.length<=1000):W (NL l) λy=>KO (y.2.1.1,y.2.1.2.1):=by refine U ?_ λ_ h=>C h;refine aH (λk z=>∃(i:Nat) (c:Int×Int),z=(((),(),l,(l.length:Int),(i:Int),()),((0,0,()),(c.1,c.2,()),()))/\i+k=l.length/\KO c) (λk z a=>?_) l.length ⟨0,(0,0),rfl,m_ _,US⟩ ω;obtain⟨i,c,rfl,d,hc⟩:=a;show W (Rh l (l.length:Int) i 0 0 c.1 c.2) _;refine V (λq=>?_) λ_=>C hc;have q:=j_ q;have w:=Cn (n:=i) ω;refine J (Ac ω q)<|S (GO _ _)<|S (DZ c _) ?_;exact C ⟨k-1,ω,i+1,_,by first|(rfl)|rw[<-w],ω,VQ _ _⟩
structure VI(b:Bldg)(m:Img)(good:Bool)(i:Nat)(v:View):Prop where
 ok:v.ok
 ready:v.Z3=(good&&Ahp m i)
 serving:v.L3=Np m i
 lost:v.E4=(flA m i||!Np m i)
section
variable{b:aB}(hw:BW b){x:Inp}{g:Bool}(hx:g=H->InOK b x)
include hw
theorem Bqq{m:Mch}(hm:PM b m)(hi:i<b.B0.length)(f:Int)(l:Bool)(d:Int)(k:Bool):W (PV b.C0 b.E0 b.J0 b.M0 b.K0 b.N0 b.O0 b.B0 m.G0.F0 m.G0.L0 m.G0.H0 m.G0.A0 m.W0.h0 m.W0.h1 m.W0.sel m.J1 m.Y0 m.B0 m.E3 m.K2 m.F4 m.B4 m.I3 m.V2 (i:Int) f l d k) λy=>∃v,y=(((),()),(Btf v,()))/\VI b m.G0 H i v:=by
 have B:aD i m.G0.F0.length=H:=Ac ω (by rw[hm.jst.img.lp];omega);have i2:aD i m.Y0.length=H:=Ac ω (by rw[hm.bel];omega);have i3:aD i m.B0.length=H:=Ac ω (by rw[hm.car];omega);have i4:aD i m.G0.L0.length=H:=Ac ω (by rw[hm.jst.img.lf];omega);have i5:aD i m.E3.length=H:=Ac ω (by rw[hm.lod];omega);have hc:=Bb9 hw.small<|hm.carv _<|AE BD (by rw[hm.car];exact hi);have E:=((hm.belv i hi).dut).len hw.small;refine J B<|J i3<|S (Aog hm.jst.img hi)<|S (Afq hm.jst.img hi)<|S (YR _) ?_;have z0:Akr 0:=⟨τ,τ⟩
 refine S (b:=(((i:Int),(),(),(),(),phA m.G0 i,(),(),()),((b.C0,b.E0,b.J0,b.M0,b.K0,b.N0,b.O0,b.B0,()),(m.G0.F0,m.G0.L0,m.G0.H0,m.G0.A0,m.W0.h0,m.W0.h1,m.W0.sel,m.J1,m.Y0,m.B0,m.E3,m.K2,m.F4,m.B4,m.I3,m.V2,()),(f,l,d,k,()),(I,I,I,I,0,0,0,0,0,0,0,0,()),Be0<|m.B0.getD i BD,(Ahp m.G0 i,Np m.G0 i,Ed<|phA m.G0 i,(flA m.G0 i||!Np m.G0 i),0,0,0,0,0,0,0,0,()),()))) ?_ ?_
 .show(bif aD _ m.G0.L0.length then(bif flA m.G0 i then _ else _)else none)=_;rw[i4];cases flA m.G0 i<;>rfl
 refine V (λ_=>J i2 (U (Be6 (by show(m.Y0.getD i KN).B1.length<=1000;omega)) λw j=>?_)) λ_=>J i5 ?_
 .exact C ⟨bH _ _ _ _ (m.Y0.getD i KN).D0 (m.Y0.getD i KN).I0 0 0 0 0 w.2.1.1 w.2.1.2.1,rfl,⟨z0,j.1,j.2⟩,rfl,rfl,rfl⟩
 refine U (Q:=λy=>∃(su a:Int) (o1 o2 o3 o4:Int),y=(((i:Int),(),(),(),(),(),()),((b.C0,b.E0,b.J0,b.M0,b.K0,b.N0,b.O0,b.B0,()),(m.G0.F0,m.G0.L0,m.G0.H0,m.G0.A0,m.W0.h0,m.W0.h1,m.W0.sel,m.J1,m.Y0,m.B0,m.E3,m.K2,m.F4,m.B4,m.I3,m.V2,()),(I,I,I,I,0,0,0,0,0,0,0,0,()),Be0<|m.B0.getD i BD,(Ahp m.G0 i,Np m.G0 i,Ed<|phA m.G0 i,(flA m.G0 i||!Np m.G0 i),f,(m.B0.getD i BD).S1,o1,su,a,o2,o3,o4,()),()))) ?_ λD A=>?_
 .refine V (λ_=>?_) λ_=>C ⟨_,_,_,_,_,_,rfl⟩;exact U (Aj0 hw.small hw.code _ f l d k) λ_ _=>C ⟨_,_,_,_,_,_,rfl⟩
 obtain⟨su,a,o1,o2,o3,o4,rfl⟩:=A;refine U (Aqj hw hm.jst.img _) λq p=>?_;exact C ⟨bH _ _ _ _ f (m.B0.getD i BD).S1 o1 su a (m.B0.getD i BD).I2 q.2.1.1 q.2.1.2.1,rfl,⟨hc,p.1,p.2⟩,rfl,rfl,rfl⟩
structure VA(b:Bldg)(m:Img)(good:Bool)(vs:List View):Prop where
 len:vs.length=b.B0.length
 vi:∀i,i<b.B0.length->VI b m good i (vs.getD i noV)
theorem VA.ok{vs:List aL}(h:VA b m g vs):okViews vs:=λv a=>by
 obtain⟨i,hi,rfl⟩:=bQ a
 have:=(h.vi i (by rw[<-h.len];exact hi)).ok
 rwa [k_,i_ hi]at this
include hx
theorem Bk0(hm:PM b t.m)(E:PR b t):W (DM<|t.ap bI b x g) λy=>∃vs:List aL,y=((vs,()),())/\VA b t.m.G0 g vs:=by
 have P:=Ag hw.code;refine J (by show((decide _&&decide _)&&decide ((b.B0.length:Int)<=2147483648))=H;simp only[a_,t_];omega) (U (Q:=λy=>∃vs:List aL,y=((vs,()),())/\VA b t.m.G0 g vs) ?_ λy h=>by obtain⟨c,rfl,h⟩:=h;exact C ⟨c,rfl,h⟩);have h0:(aF (aK b.B0.length) noV).length=b.B0.length:=by rw[A_];omega
 show W (EZ ((t.ap bI b x g,aF (aK b.B0.length) noV,(((aF (aK b.B0.length) noV).length:Nat):Int),0,()),())) _;generalize aF _ noV=L at h0;refine aH (λk z=>∃(i:Nat) (vs:List aL),z=((t.ap bI b x g,vs,(L.length:Int),(i:Int),()),())/\i+k=L.length/\vs.length=b.B0.length/\∀j,j<i->VI b t.m.G0 g j (vs.getD j noV)) (λk z F=>?_) L.length ⟨0,L,rfl,m_ _,h0,λj A=>absurd A<|bL j⟩ ω;obtain⟨i,vs,rfl,Y,hl,D⟩:=F;show W (Ir _ vs L.length i) _;refine V (λq=>?_) λq=>C ⟨vs,rfl,hl,λj A=>D j (by have q:=w_ q;omega)⟩;have q:=j_ q;have hi:i<b.B0.length:=ω;have w:=Cn (n:=i) ω;have B:aD i vs.length=H:=Ac ω ω;have put:∀{v:aL},VI b t.m.G0 g i v->∀j,j<i+1->VI b t.m.G0 g j ((vs.set i v).getD j noV):=λ{v} h j A=>by
  by_cases e:i=j
  .subst e;rw[BQ _ _ ω];exact h
  .rw[Fi _ _ e];exact D j ω
 refine V (λp=>?_) λp=>?_
 .have p:g=I:=by simpa using(show(!g)=H from p)
  refine S (Afq hm.jst.img hi) ?_;have i4:aD i t.m.G0.L0.length=H:=Ac ω (by rw[hm.jst.img.lf];omega);refine S (b:=((t.ap bI b x g,vs.set i<|bH I (Np t.m.G0 i) I (flA t.m.G0 i||!Np t.m.G0 i) (-1) 0 0 0 0 0 0 0,(L.length:Int),(i:Int),()),())) ?_ ?_
  .show(bif aD _ t.m.G0.L0.length then(bif flA t.m.G0 i then _ else _)else none)=_;rw[i4,B,h_];cases flA t.m.G0 i<;>rfl
  have z0:Akr 0:=⟨τ,τ⟩
  exact C ⟨k-1,ω,i+1,_,by first|(rfl)|rw[<-w],ω,by rw[z_];exact hl,put ⟨⟨z0,z0,z0⟩,by rw[p];rfl,rfl,rfl⟩⟩
 .have p:g=H:=by simpa using(show(!g)=I from p)
  have N:=(hx p).len;refine J (Ac ω (ω:_<(x.cars.length:Int))) (U (Bqq hw hm hi _ _ _ _) λR O=>J B ?_);obtain⟨v,rfl,a⟩:=O;rw[<-p]at a;refine J (Ac ω (show _<(t.legacy.length:Int)by rw[E.leg];omega)) (V (λ_=>?_) λ_=>?_)
  .refine J (Ac ω (show _<(t.shows.length:Int)by rw[E.sho];omega))<|J (Ac ω (by rw[z_];omega)) ?_;refine C ⟨k-1,ω,i+1,(vs.set i v).set i<|bH v.Z3 v.L3 v.N3 v.E4 v.D0 v.I0 v.C4 (t.shows.getD i<|bC 0 0).Up (t.shows.getD i<|bC 0 0).D4 v.Z2 v.X1 v.N1,?_,ω,by rw[z_,z_];exact hl,λj A=>?_⟩
   .have e:(vs.set i v).getD i noV=v:=BQ _ _ ω
    first
     |(rw[<-w];show((_,List.set _ i<|bH ((vs.set i v).getD i noV).Z3 ((vs.set i v).getD i noV).L3 ((vs.set i v).getD i noV).N3 ((vs.set i v).getD i noV).E4 ((vs.set i v).getD i noV).D0 ((vs.set i v).getD i noV).I0 ((vs.set i v).getD i noV).C4 _ _ ((vs.set i v).getD i noV).Z2 ((vs.set i v).getD i noV).X1 ((vs.set i v).getD i noV).N1,_,_,()),())=_;rw[e];rfl)
   .rw[g2_];exact put (v:=bH v.Z3 v.L3 v.N3 v.E4 v.D0 v.I0 v.C4 (t.shows.getD i _).Up (t.shows.getD i _).D4 v.Z2 v.X1 v.N1) ⟨⟨a.ok.c,a.ok.u,a.ok.d⟩,a.ready,a.serving,a.lost⟩ j A
  .exact C ⟨k-1,ω,i+1,vs.set i v,by first|(rw[<-w];rfl)|rw[<-w],ω,by rw[z_];exact hl,put a⟩
end
noncomputable def PH(b:aB)(x:Inp)(g:Bool)(t:Pk)(vs:List aL):Rnd:=QY b t.m.G0 t.m.K2 vs t.m.F4 x.press g
def Th:List aE->Int×Int->Int×Int
 |[],c=>c
 |r::l,c=>Th l<|bif r.R0==2 then FH c (Qs r.D0 r.I0)else c
def Aq4(r:Rnd)(i:Nat)(c d:aI):Prop:=d.Y2=(r.lan.lit.getD i noP).Up/\d.G2=(r.lan.lit.getD i noP).D4/\d.C6=r.lan.gong.getD i I/\d.R2=c.R2
def PM.rnd{m:Mch}(h:PM b m){r:Rnd}(a:Rg b m.G0 r)(hl:r.lan.lit.length=b.B0.length)(d:Jst b s r.img)(j:0<=n/\n<=1000000):PM b { m with G0:=r.img,W0:=s,K2:=r.xs,F4:=r.lan.lit,V2:=n }:=⟨d,h.con,h.conv,h.bel,h.belv,h.car,h.carv,h.lod,h.lodv,hl,a.ok.len,a.xs,h.tick,h.flt,j⟩
structure Dsp(b:Bldg)(x:Inp)(g:Bool)(t t':Pk)(vs:List View):Prop where
 va:VA b t.m.G0 g vs
 ve:DM (t.ap machine_ticker.mk b x g)=some ((vs,()),())
 rg:Rg b t.m.G0 (PH b x g t vs)
 res:Al b t t' (PH b x g t vs).recs\/De b t t' (PH b x g t vs).recs
 out:t'.out={ t.out with O5:=(Th (PH b x g t vs).recs (t.out.O5,t.out.H4)).1,H4:=(Th (PH b x g t vs).recs (t.out.O5,t.out.H4)).2,N0:=!isZ (PH b x g t vs).ref,B0:=t'.out.B0 }
 oc:t'.out.B0.length=b.B0.length
 cars:∀i,i<b.B0.length->Aq4 (PH b x g t vs) i (t.out.B0.getD i Bi) (t'.out.B0.getD i Bi)
 rst:t'.reset=t.reset
def Cac{l:List aI}(hi:i<l.length)(f g:aI->aI):(l.set i<|f<|l.getD i Bi).set i (g<|(l.set i<|f<|l.getD i Bi).getD i Bi)=l.set i (g<|f<|l.getD i Bi):=by rw[BQ _ _ hi,g2_]
def Pk.sServ(t:Pk)(c:Int×Int):Pk:={ t with out:={ t.out with O5:=c.1,H4:=c.2 } }
def Pk.sOuts(t:Pk)(l:List aI):Pk:={ t with out:={ t.out with B0:=l } }
section
variable{b:aB}(hw:BW b){x:Inp}{g:Bool}(hx:g=H->InOK b x)
theorem Ba4(r:Rnd)(p:r.recs.length<=1000)(t:Pk):W (CQ (((),(),r.recs,(r.recs.length:Int),(0:Int),()),(r.tup,t.tup b x g,()))) λy=>y=(((),(),()),(r.tup,(t.sServ<|Th r.recs (t.out.O5,t.out.H4)).tup b x g,())):=by
 refine aH (λk z=>∃(i:Nat) (c:Int×Int),z=(((),(),r.recs,(r.recs.length:Int),(i:Int),()),(r.tup,(t.sServ c).tup b x g,()))/\i+k=r.recs.length/\Th (r.recs.drop i) c=Th r.recs _) (λk z d=>?_) r.recs.length ⟨0,(t.out.O5,t.out.H4),rfl,m_ _,rfl⟩ ω;obtain⟨i,c,rfl,j,a⟩:=d;show W ((t.sServ c).ap (Hm r.recs r.recs.length i r.recs r.img.F0 r.img.L0 r.img.H0 r.img.A0 r.xs r.lan.lit r.lan.gong r.lan.cl.1 r.lan.cl.2 r.ref.1 r.ref.2) b x g) _;refine V (λq=>?_) λq=>C ?_
 .have q:=j_ q;have hi:i<r.recs.length:=ω;have w:=Cn (n:=i) ω;rw[BS LJ hi]at a;refine J (Ac ω q) (V (λh=>S (GO _ _)<|S (DZ c _) ?_) λh=>?_)
  .refine C ⟨k-1,ω,i+1,FH c _,by first|(rw[<-w];rfl)|rw[<-w],ω,?_⟩;rw[<-a];have h:((r.recs.getD i LJ).R0==2)=H:=h;show _=Th (r.recs.drop<|i+1) _;rw[h];rfl
  .refine C ⟨k-1,ω,i+1,c,by first|(rw[<-w];rfl)|rw[<-w],ω,?_⟩;rw[<-a];have h:((r.recs.getD i LJ).R0==2)=I:=h;show _=Th (r.recs.drop<|i+1) _;rw[h];rfl
 .have q:=w_ q;rw[List.drop_of_length_le ω]at a;rw[<-a];rfl
theorem Ba5(r:Rnd)(E:t.out.B0.length<=1000)(hl:r.lan.lit.length=t.out.B0.length)(D:r.lan.gong.length=t.out.B0.length):W (CR (((),(),(t.out.B0.length:Int),(0:Int),()),(r.tup,t.tup b x g,()))) λy=>∃l,y=((),((t.sOuts l).tup b x g,()))/\l.length=t.out.B0.length/\∀j,j<t.out.B0.length->Aq4 r j (t.out.B0.getD j Bi) (l.getD j Bi):=by
 refine aH (λk z=>∃(i:Nat) (l:List aI),z=(((),(),(t.out.B0.length:Int),(i:Int),()),(r.tup,(t.sOuts l).tup b x g,()))/\i+k=t.out.B0.length/\l.length=t.out.B0.length/\(∀j,j<i->Aq4 r j (t.out.B0.getD j Bi) (l.getD j Bi))/\∀j,i<=j->l.getD j Bi=t.out.B0.getD j Bi) (λk z B=>?_) t.out.B0.length ⟨0,t.out.B0,rfl,m_ _,rfl,λj d=>absurd d<|bL j,λj _=>rfl⟩ ω;obtain⟨i,l,rfl,F,a,h1,A⟩:=B;show W ((t.sOuts l).ap (Hn t.out.B0.length i r.recs r.img.F0 r.img.L0 r.img.H0 r.img.A0 r.xs r.lan.lit r.lan.gong r.lan.cl.1 r.lan.cl.2 r.ref.1 r.ref.2) b x g) _;refine V (λq=>?_) λq=>C ⟨l,rfl,a,λj d=>h1 j (by have:=w_ q;omega)⟩;have q:=j_ q;have hi:i<l.length:=ω;have w:=Cn (n:=i) ω;refine J (Ac ω ω)<|J (Ac ω ω)<|J (Ac ω (ω:_<(l.length:Int)))<|J (Ac ω (by rw[z_];show _<(l.length:Int);omega)) ?_;refine C ⟨k-1,ω,i+1,l.set i<|bE (l.getD i Bi).T1 (l.getD i Bi).M1 (l.getD i Bi).J2 (r.lan.lit.getD i noP).Up (r.lan.lit.getD i noP).D4 (r.lan.gong.getD i I) (l.getD i Bi).R2 (l.getD i Bi).Y3 (l.getD i Bi).D6,?_,ω,?_,λj d=>?_,λj d=>?_⟩
 .have p:=Cac hi (λc=>bE c.T1 c.M1 c.J2 (r.lan.lit.getD i noP).Up (r.lan.lit.getD i noP).D4 c.C6 c.R2 c.Y3 c.D6) (λc=>bE c.T1 c.M1 c.J2 c.Y2 c.G2 (r.lan.gong.getD i I) c.R2 c.Y3 c.D6);rw[<-w];exact J_ (λL=>(((),(),(t.out.B0.length:Int),aC.wrap _,()),(r.tup,(t.sOuts L).tup b x g,()))) p
 .rw[z_];exact a
 .by_cases e:i=j
  .subst e;rw[BQ _ _ hi];exact⟨rfl,rfl,rfl,by rw[<-A i (q_ i)]⟩
  .rw[Fi _ _ e];exact h1 j ω
 .rw[Fi _ _ ω];exact A j ω
end
def Pk.sRnd(t:Pk)(r:Rnd)(n:Int)(f:Bool):Pk:={ t with m:={ t.m with K2:=r.xs,F4:=r.lan.lit,V2:=n },out:={ t.out with N0:=f } }
section
variable{b:aB}(hw:BW b){x:Inp}{g:Bool}(hx:g=H->InOK b x)
include hw hx
theorem Aw1(hm:PM b t.m)(A:PR b t)(hb:Bud t):W (t.ap EI b x g) λy=>∃(d:Pk) (vs:List aL),y=((),(d.tup b x g,()))/\Dsp b x g t d vs:=by
 have h0:=Ag hw.code;obtain⟨y1,L,vs,rfl,w⟩:=Bk0 hw hx hm A;refine S L ?_;have hxv:inX t.m.K2:=hm.exv;have hd:=Aea hw.small hw.code hm.jst.img hm.exl t.m.F4 x.press g hxv.exp (VA.ok hw w) w.len hm.lit;obtain⟨a,F⟩:=Asf hw.small hw.code hm.jst.img hm.exl hxv t.m.F4 x.press g w.len;obtain⟨p,B⟩:=Bda b t.m.G0 t.m.K2 vs t.m.F4 x.press g;rw[w.len]at p B;refine S hd ?_;have hR:QY b t.m.G0 t.m.K2 vs t.m.F4 x.press g=PH b x g t vs:=rfl;rw[hR]at a F p B|-;have N:∀(d:Pk),(Al b t d (PH b x g t vs).recs\/De b t d (PH b x g t vs).recs)->_->_->_->_->Dsp b x g t d vs:=λd h1 P O E h5=>⟨w,L,a,h1,P,O,E,h5⟩
 generalize ha:PH b x g t vs=r at a F p B N;refine Sat.bindR ?_;refine U (Q:=λy=>∃d,y=(((),(),()),(r.tup,d.tup b x g,()))/\Wr b t r.recs d) ?_ λy6 h6=>?_
 .refine U (Acf hw.small hm.jst hb.2 hb.1 a.good (ω:r.recs.length<=100000)) λy4 E=>?_;obtain⟨d,e|e,h⟩:=E
  .subst e;exact C ⟨d,rfl,h⟩
  .subst e;exact C ⟨d,rfl,h⟩
 obtain⟨t1,rfl,D⟩:=h6;obtain⟨im,s,Y,e,rfl,D⟩:=D;refine U (Q:=λy=>∃n,y=(((),(),()),(r.tup,((t.wr im s Y e).sRnd r n _).tup b x g,()))/\0<=n/\n<=1000000) (V (λq=>U (Aq9 hm.ref) λy7 h7=>C ⟨y7.1.1,rfl,h7⟩) λq=>C ⟨t.m.V2,rfl,hm.ref⟩) λy8 h8=>?_;obtain⟨n,rfl,hn⟩:=h8;refine U (Ba4 r ω _) λy9 h9=>?_;subst h9;refine U (Ba5 r (by show t.out.B0.length<=1000;rw[A.oc];omega) (by show _=t.out.B0.length;rw[A.oc];exact p) (by show _=t.out.B0.length;rw[A.oc];exact B)) λhe R=>?_;obtain⟨l,rfl,hl,hc⟩:=R;replace hl:l.length=t.out.B0.length:=hl;replace hc:∀j,j<t.out.B0.length->Aq4 r j _ _:=hc;rw[A.oc]at hl hc;refine C ⟨_,vs,rfl,N _ ?_ rfl hl hc rfl⟩;rcases D with⟨rfl,rfl,h1,P,O,E,_⟩|⟨rfl,h1,P,O⟩
 .rw[a.img]at h1;refine .inl ⟨rfl,?_,⟨A.leg,A.sho,A.rst,hl,λi=>by
   by_cases q:i<b.B0.length
   .show CmdR (l.getD i Bi).R2;rw[(hc i q).2.2.2];exact A.cmd i
   .show CmdR (l.getD i Bi).R2;rw[show(l.getD i Bi)=Bi by rw[k_,bO ω];rfl];rfl⟩,rfl,O,E,(by show t.budget-_<=Y;omega),rfl⟩
  have:=hm.rnd a p h1 hn
  rw[<-a.img]at this;exact this
 .exact .inr ⟨rfl,ω,P,O⟩
end
def ER(b:aB)(c:Int×Int):Prop:=MM b c=H/\KO c
section
variable{b:aB}(hb:b.small)(hcode:b.code=0)
include hb hcode
theorem KK:ER b c↔KO c/\∀f:Nat,f<32->∀d:Int,(d=1\/d=2)->BP c f d=H->Au b (f:Int) d=H:=by
 unfold ER MM;rw[Ajr<|Alv _ _];refine⟨λ⟨h1,p⟩=>⟨p,λf a d j q=>?_⟩,λ⟨h1,p⟩=>⟨λf a d j=>?_,h1⟩⟩
 .have:=h1 f a d j
  rw[SK _ _ a,Uv hb hcode a j,q]at this;simpa using this
 .rw[SK _ _ a,Uv hb hcode a j];cases q:BP c f d with
  |false=>rfl
  |true=>rw[p f a d j q];rfl
theorem RB:ER b (0,0):=(KK hb hcode).2 ⟨US,λf _ d _ q=>by rw[Vj]at q;cases q⟩
theorem Axf{a:Int×Int}(c:Int×Int)(h1:ER b a):ER b<|Dt a c:=by have h1:=(KK hb hcode).1 h1;refine(KK hb hcode).2 ⟨Alv _ _,λf j d p q=>?_⟩;rw[SK _ _ j,a_]at q;exact h1.2 f j d p q.1
theorem Bbj{F D:Int}(h0:ER b c)(h:Au b F D=H):ER b<|FH c<|Qs F D:=by
 obtain⟨h1,p⟩:=Ao8 hb (e:=Entry.mk F D 0 0 I) h;have h0:=(KK hb hcode).1 h0;refine(KK hb hcode).2 ⟨VQ _ _,λf w d a q=>?_⟩;rw[SM,V_,Xz h1 p f a,t_]at q;rcases q with q|q
 .exact h0.2 f w d a q
 .obtain⟨j,y⟩:=Prod.mk.inj q;rw[j,y];exact h
theorem Bbi{a:Int×Int}(h1:ER b a):ER b<|FH a<|JC c<|Di b:=by have h1:=(KK hb hcode).1 h1;refine(KK hb hcode).2 ⟨VQ _ _,λf j d p q=>?_⟩;rw[SM,Rt,Uv hb hcode j p,V_,a_]at q;exact q.elim (h1.2 f j d p) λq=>q.2
end
def Aby(st:Int):Int:=bif st==0 then 2 else bif st==1 then 2 else bif st==3 then 1 else 0
structure RelOK(b:Bldg)(r:Relay):Prop where
 st:0<=r.X3/\r.X3<=4
 fl:0<=r.D0/\r.D0<b.C0
 sw:S2 r.I0 r.D3
 mv:r.X3=1->(r.I0=1/\r.D0+1<b.C0)\/(r.I0=2/\0<r.D0)
 ca:ER b (r.N2,r.B2)
 car:C2 b.C0 r.S0
 dr:r.G1=Aby r.X3
 tm:0<=r.N5/\r.N5<=1000000
 tz:r.N5=0↔r.X3=0
@[reducible] def Ws(r:aT):=(r.X3,r.D0,r.I0,r.D3,r.G1,r.N5,r.N2,r.B2,r.S0,())
def An0:aT:=aW 0 0 0 0 0 0 0 0 0
def VG(n lo hi:Int):DY n lo hi=Z ((inR lo hi n,()),()):=by unfold DY inR;cases decide (lo<=n)<;>rfl
def Zf(n:Int):LS n=Z ((Aby n,()),()):=by unfold LS Aby;cases n==0<;>cases n==1<;>cases n==3<;>rfl
def HO(a f d o j t u v c s n:Int):Ny a f d o j t u v c s n=Z (((),()),(Ws<|aW s f d o (Aby s) n u v c,())):=by exact Ae (Zf s) rfl
section
variable{b:aB}(hb:b.small)(hcode:b.code=0)
include hb hcode
theorem UE(h:RelOK b r):IP b.C0 b.E0 b.J0 b.M0 b.K0 b.N0 b.O0 b.B0 r.X3 r.D0 r.I0 r.D3 r.G1 r.N5 r.N2 r.B2 r.S0=Z ((H,()),()):=by
 have lo:=hb.lo;have hi:=hb.hi;have w:aC.wrap _=b.C0-1:=Aa ω ω;have j:=h.fl;refine aY ?_;have d:∀{n lo hi:Int},lo<=n/\n<=hi->DY n lo hi=Z _:=λ{n lo hi} h=>by rw[VG,Ah.2 h]
 unfold IP;rw[w];refine S (Ap ..)<|aA (by rw[hcode];rfl)<|S (d h.st)<|aA rfl<|S (d ⟨j.1,show r.D0<=b.C0-1 by omega⟩)<|aA rfl ?_;refine S (show BY r.I0 r.D3=Z ((H,()),())by rw[show BY r.I0 r.D3=Z (((inR 0 2 r.I0&&inR 0 7 r.D3),()),())from EQ { BD with S1:=r.I0,E1:=r.D3 },Ah.2 h.sw.1,Ah.2 h.sw.2];rfl)<|aA rfl ?_;refine U (Q:=λy=>y=(((),(),I,()),(b.tup,Ws r,()))) ?_ λy a=>?_
 .refine V (λq=>?_) λ_=>C rfl;have q:=eq_of_beq q;have hm:=h.mv q;have A:∃n,KW r.X3 r.D0 r.I0 r.D3 r.G1 r.N5 r.N2 r.B2 r.S0=Z ((n,()),())/\0<=n/\n<=b.C0-1:=by
   rcases hm with⟨e,B⟩|⟨e,B⟩<;>rw[e]
   .exact⟨_,rfl,by rw[Aa ω ω];omega,by rw[Aa ω ω];omega⟩
   .exact⟨_,rfl,by rw[Aa ω ω];omega,by rw[Aa ω ω];omega⟩
  obtain⟨n,e,p⟩:=A;exact aA (At ω)<|S e<|S (d p)<|C rfl
 subst a;refine aA rfl ?_;refine U (Q:=λy=>y=(((),H,()),(Ws r,()))) (S (EM hb hcode)<|S (HL (r.N2,r.B2) _)<|J h.ca.1<|J (b_ (ω:_<=b.C0))<|C ?_) λy a=>?_
 .have e:aS (aK b.C0) (IntKind.bits aO)=aK b.C0:=by show min _ 32=_;omega
  show(((),(bD r.S0 (2^(aS (aK b.C0) _))==0),()),(Ws r,()))=_;rw[e,QZ.2 h.car]
 subst a;refine U (Q:=λy=>y=((H,()),())) (J rfl<|S (Zf _)<|J (by show(r.G1==Aby r.X3)=H;rw[h.dr];exact p_ _)<|S (d h.tm)<|J rfl<|C ?_) λy a=>by subst a;exact C rfl
 have e:(r.N5==0)=(r.X3==0):=by rw[Bool.eq_iff_iff,a1_,a1_];exact h.tz
 rw[e,p_]
theorem RelOK.new(h:0<=f/\f<b.C0):RelOK b<|aW 0 f 0 0 2 0 0 0 0:=⟨show _<=0/\0<=4 by decide,h,S2.zero dir2.zero,λe=>absurd e (show ¬0=1 by decide),RB hb hcode,C2.zero,rfl,show _<=0/\0<=1000000 by decide,⟨λ_=>rfl,λ_=>rfl⟩⟩
omit hb hcode in
theorem RelOK.begin(q:0<=r.D0/\r.D0<b.C0)(a:S2 r.I0 r.D3)(hc:ER b (r.N2,r.B2))(p:C2 b.C0 r.S0){s:Int}(h:0<=s/\s<=4)(hm:s=1->(r.I0=1/\r.D0+1<b.C0)\/(r.I0=2/\0<r.D0))(j:0<=n/\n<=1000000)(d:n=0↔s=0):RelOK b<|aW s r.D0 r.I0 r.D3 (Aby s) n r.N2 r.B2 r.S0:=⟨h,q,a,hm,hc,p,rfl,j,d⟩
omit hcode in
theorem Ahq(a:0<=r.D0/\r.D0<b.C0)(L:S2 r.I0 r.D3)(hc:ER b (r.N2,r.B2))(j:C2 b.C0 r.S0)(c1 N P c4:Int){st B:Int}(h1:1<=st/\st<=10000)(h2:1<=B/\B<=10000)(R O Q:Int):W (PY b.C0 c1 N P c4 st B R O Q r.X3 r.D0 r.I0 r.D3 r.G1 r.N5 r.N2 r.B2 r.S0) λy=>∃D,y.2.1=Ws D/\RelOK b D:=by
 have lo:=hb.lo;have hi:=hb.hi;obtain⟨y,z,Y,e2,F,d,E⟩:=Avm ⟨ω,hi⟩ a L r.S0 r.N2 r.B2;refine S Y<|S e2 ?_;have no:∀{s:Int},s≠1->s=1->(z.1=1/\r.D0+1<b.C0)\/(z.1=2/\0<r.D0):=λh e=>absurd e h;refine V (λq=>S (HO ..)<|C ⟨_,rfl,?_⟩) λq=>V (λw=>S (HO ..)<|C ⟨_,rfl,?_⟩) λw=>V (λp=>S (HO ..)<|C ⟨_,rfl,?_⟩) λp=>S (HO ..)<|C ⟨_,rfl,?_⟩
 .exact RelOK.begin (r:=aW 0 r.D0 z.1 z.2.1 0 0 r.N2 r.B2 r.S0) a d hc j τ (no τ) ω ω
 .have q:y.1≠3:=λe=>by have q:=q;rw[e]at q;cases q
  have w:=eq_of_beq w;obtain⟨g1,A⟩:=F.1 w;exact RelOK.begin (r:=aW 0 r.D0 z.1 z.2.1 0 0 r.N2 r.B2 r.S0) a d hc j τ (λ_=>.inl ⟨(E q).trans g1,A⟩) ω ω
 .have q:y.1≠3:=λe=>by have q:=q;rw[e]at q;cases q
  have p:=eq_of_beq p;obtain⟨g1,A⟩:=F.2 p;exact RelOK.begin (r:=aW 0 r.D0 z.1 z.2.1 0 0 r.N2 r.B2 r.S0) a d hc j τ (λ_=>.inr ⟨(E q).trans g1,A⟩) ω ω
 .exact RelOK.begin (r:=aW 0 r.D0 z.1 z.2.1 0 0 r.N2 r.B2 r.S0) a d hc j τ (no τ) τ ⟨λ_=>rfl,λ_=>rfl⟩
omit hcode in
theorem Am8(h:RelOK b r){u v c:Int}(hc:ER b (u,v))(p:C2 b.C0 c)(c1 A D c4:Int){st w j:Int}(h1:1<=st/\st<=10000)(F:1<=w/\w<=10000)(h3:1<=j/\j<=10000)(B E:Int):W (TB b.C0 c1 A D c4 st w j B E r.X3 r.D0 r.I0 r.D3 r.G1 r.N5 u v c) λy=>∃a,y.2.1=Ws a/\RelOK b a:=by
 have hi:=hb.hi;have d:=h.fl;have no:∀{s:Int},s≠1->s=1->(r.I0=1/\r.D0+1<b.C0)\/(r.I0=2/\0<r.D0):=λh e=>absurd e h;refine U (Q:=λy=>match y with
  |.inl z=>∃a:aT,z=((b.C0,(),(),(),()),((c1,A,D,c4,st,w,j,B,E,()),Ws a,(0,0,0,0,0,0,0,0,0,()),()))/\(0<=a.D0/\a.D0<b.C0)/\S2 a.I0 a.D3/\ER b (a.N2,a.B2)/\C2 b.C0 a.S0
  |.inr z=>∃a,z.2.1=Ws a/\RelOK b a) ?_ λy L=>?_
 .refine V (λ_=>S (HO ..)<|C ⟨_,rfl,?_⟩) λ_=>V (λ_=>S (HO ..)<|C ⟨_,rfl,?_⟩) λ_=>V (λq=>?_) λ_=>C ⟨aW r.X3 r.D0 r.I0 r.D3 r.G1 r.N5 u v c,rfl,d,h.sw,hc,p⟩
  .exact RelOK.begin (r:=aW 0 r.D0 r.I0 r.D3 0 0 u v c) d h.sw hc p τ (no τ) ω ω
  .exact RelOK.begin (r:=aW 0 r.D0 r.I0 r.D3 0 0 u v c) d h.sw hc p τ (no τ) ω ω
  .have q:=eq_of_beq q;have hm:=h.mv q;have R:∃n,KW r.X3 r.D0 r.I0 r.D3 r.G1 r.N5 u v c=Z ((n,()),())/\0<=n/\n<b.C0:=by
    rcases hm with⟨e,F⟩|⟨e,F⟩<;>rw[e]
    .exact⟨_,rfl,by rw[Aa ω ω];omega,by rw[Aa ω ω];omega⟩
    .exact⟨_,rfl,by rw[Aa ω ω];omega,by rw[Aa ω ω];omega⟩
   obtain⟨n,e,O⟩:=R;exact S e<|C ⟨aW r.X3 n r.I0 0 r.G1 r.N5 u v c,rfl,O,S2.zero h.sw.1,hc,p⟩
 .cases y with
  |inr z=>obtain⟨a,e,Y⟩:=L;exact C ⟨a,e,Y⟩
  |inl z=>obtain⟨a,rfl,g1,P,g3,g4⟩:=L;exact U (Ahq hb g1 P g3 g4 c1 A D c4 h1 F j B E) λy6 N=>C N
theorem Am7(hi:i<b.B0.length)(h:RelOK b r)(w id pr:Int):W (TA b.C0 b.E0 b.J0 b.M0 b.K0 b.N0 b.O0 b.B0 (i:Int) r.X3 r.D0 r.I0 r.D3 r.G1 r.N5 r.N2 r.B2 r.S0 w id pr) λy=>∃a,y.2.1=Ws a/\RelOK b a:=by
 have lo:=hb.lo;have j:=hb.hi;have D:=h.tm;have B:=h.tz;have hc:=Pp hcode (c:=b.B0.getD i Cm) (by rw[k_,i_ hi];exact a4_ hi);unfold Cg at hc;simp only[a_,U_,Ah]at hc;obtain⟨⟨_,_,_,F,t2,t3,_⟩,_⟩:=hc;refine S (UE hb hcode h)<|aA rfl<|aA (d_ ω)<|aA (d_ ω) ?_;refine S (EM hb hcode)<|S (Hi (w,id) _)<|S (DZ (r.N2,r.B2) _)<|J (b_ ω) ?_;have p:ER b<|FH _<|JC (w,id) _:=Bbi hb hcode h.ca;have A:=h.car.or<|C2.and (x:=pr)<|C2.all ⟨ω,j⟩;generalize FH _ _=uc at p;refine U (Q:=λy=>∃a,y.2.1=Ws a/\RelOK b a) (V (λq=>C ⟨aW r.X3 r.D0 r.I0 r.D3 r.G1 _ uc.1 uc.2 _,rfl,?_⟩) λ_=>J (Ac ω ω) ?_) ?_
 .have q:=j_ q;refine⟨h.st,h.fl,h.sw,h.mv,p,A,h.dr,?_,?_⟩
  .show 0<=aC.wrap _/\aC.wrap _<=1000000;rw[Aa ω ω];omega
  .show aC.wrap _=0↔r.X3=0;rw[Aa ω ω];omega
 .exact U (Am8 hb h p A _ _ _ _ F t2 t3 _ _) λO E=>C E
 rintro⟨P,L,N⟩ ⟨a,e,d⟩;change L=_ at e;subst e;refine V (λq=>J (b_ d.fl.1)<|S (GO a.D0 a.I0)<|S (HL (a.N2,a.B2) _)<|C ⟨aW a.X3 a.D0 a.I0 a.D3 a.G1 a.N5 _ _ _,rfl,?_⟩) λ_=>C ⟨a,rfl,d⟩;exact⟨d.st,d.fl,d.sw,d.mv,Axf hb hcode _ d.ca,d.car.andNot,d.dr,d.tm,d.tz⟩
end
structure RigOK(fl:Int)(r:Rig):Prop where
 f:0<=r.D0/\r.D0<fl
 t:0<=r.B3/\r.B3<fl
 d:-1<=r.B3-r.D0/\r.B3-r.D0<=1
 eq:r.D0=r.B3->r.M5=0
 ne:r.D0≠r.B3->1<=r.M5/\r.M5<=10000/\r.G1=2
 dr:(r.G1=0/\(r.B6=1\/r.B6=2)/\1<=r.G4/\r.G4<=10000)\/((r.G1=1\/r.G1=2)/\r.B6=0/\r.G4=0)
@[reducible] def Aa8(r:Rig):=(r.D0,r.B3,r.M5,r.G1,r.B6,r.G4,())
def QR:Rig:=Rig.mk 0 0 0 0 0 0
def Zh(n lo hi:Int):Dl n lo hi=Z ((inR lo hi n,()),()):=by unfold Dl inR;cases decide (lo<=n)<;>rfl
def RigOK.new{fl:Int}(h:0<=f/\f<fl):RigOK fl<|Rig.mk f f 0 2 0 0:=⟨h,h,show -1<=f-f/\f-f<=1 by omega,λ_=>rfl,λe=>absurd rfl e,.inr ⟨.inr rfl,rfl,rfl⟩⟩
section
variable{fl:Int}(hl:2<=fl/\fl<=8){r:Rig}(h:RigOK fl r)
include hl h
theorem Xc:KX fl r.D0 r.B3 r.M5 r.G1 r.B6 r.G4=Z ((H,()),()):=by
 have w:aC.wrap _=fl-1:=Aa ω ω;have N:=h.f;have R:=h.t;have L:=h.d;have F:aC.wrap _=r.B3-r.D0:=Aa ω ω;refine aY ?_;have p:∀{n lo hi:Int},lo<=n/\n<=hi->Dl n lo hi=Z _:=λ{n lo hi} h=>by rw[Zh,Ah.2 h]
 unfold KX;rw[w,F];refine S (p ⟨hl.1,show fl<=32 by omega⟩)<|aA rfl<|S (p ⟨N.1,show r.D0<=fl-1 by omega⟩)<|aA rfl<|S (p ⟨R.1,show r.B3<=fl-1 by omega⟩)<|aA rfl<|S (p L)<|aA rfl ?_;refine U (Q:=λy=>y=(((),I,()),(Aa8 r,()))) ?_ λy q=>?_
 .by_cases e:r.D0=r.B3
  .have E:=a1_.2 e;have O:(r.D0 !=r.B3)=I:=by rw[bne,E];rfl
   refine J E<|aA (by rw[h.eq e];rfl)<|aA O<|C rfl
  .obtain⟨n1,n2,P⟩:=h.ne e;refine aA (At e)<|J (Jc e)<|S (p ⟨n1,n2⟩)<|aA rfl<|C ?_;show(((),(r.G1 !=2),()),(Aa8 r,()))=_;rw[P];rfl
 subst q;refine aA rfl ?_;rcases h.dr with⟨j,a,B,D⟩|⟨j,a,B⟩
 .refine J (show(r.G1==0)=H by rw[j];rfl) (U (Q:=λy=>y=((H,()),())) ?_ λy q=>by subst q;exact C rfl);rcases a with a|a
  .exact J (show(r.B6==1)=H by rw[a];rfl)<|S (p ⟨B,D⟩)<|C rfl
  .exact aA (show(r.B6==1)=I by rw[a];rfl)<|J (show(r.B6==2)=H by rw[a];rfl)<|S (p ⟨B,D⟩)<|C rfl
 .refine aA (show(r.G1==0)=I from At ω) (U (Q:=λy=>y=((H,()),())) ?_ λy q=>by subst q;exact C rfl);have A:((((r.G4==0),()),()):(Bool×Unit)×Unit)=((H,()),()):=by rw[B];rfl
  rcases j with j|j
  .exact J (show(r.G1==1)=H by rw[j];rfl)<|J (show(r.B6==0)=H by rw[a];rfl)<|C A
  .exact aA (show(r.G1==1)=I by rw[j];rfl)<|J (show(r.G1==2)=H by rw[j];rfl)<|J (show(r.B6==0)=H by rw[a];rfl)<|C A
omit hl h in
theorem Zg{t a k:Int}(D:0<=f/\f<fl)(p:0<=t/\t<fl)(A:-1<=t-f/\t-f<=1)(j:f≠t)(B:0<=n/\n<=10000)(d:a=0/\k=0):W (LT f t n 2 a k) λy=>∃w,y.2.1=Aa8 w/\RigOK fl w:=by
 refine V (λq=>C ⟨Rig.mk t t n 2 a k,rfl,p,p,show -1<=t-t/\t-t<=1 by omega,λ_=>eq_of_beq q,λe=>absurd rfl e,.inr ⟨.inr rfl,d.1,d.2⟩⟩) λq=>C ⟨Rig.mk f t n 2 a k,rfl,D,p,A,λe=>absurd e j,λ_=>⟨?_,B.2,rfl⟩,.inr ⟨.inr rfl,d.1,d.2⟩⟩;have q:n≠0:=λe=>by have q:=q;rw[e]at q;cases q
 show 1<=n;omega
theorem Aty(O:r.D0=r.B3){p j:Int}(P:p=0\/p=1\/p=2)(ht:1<=j/\j<=10000):W (Xp r.D0 r.B3 r.M5 r.G1 r.B6 r.G4 p j) λy=>∃E,y.2.1=Aa8 E/\RigOK fl E:=by
 have mk:∀{d a k:Int},(d=0/\(a=1\/a=2)/\1<=k/\k<=10000)\/((d=1\/d=2)/\a=0/\k=0)->RigOK fl (Rig.mk r.D0 r.B3 r.M5 d a k):=λ{d a k} N=>⟨h.f,h.t,h.d,h.eq,λe=>absurd O e,N⟩
 refine U (Q:=λy=>match y with
  |.inl z=>∃a k:Int,∃w,z=((p,(),(),()),((r.D0,r.B3,r.M5,0,a,k,()),w))/\a=p/\p≠0/\0<=k/\k<=10000
  |.inr z=>z.2.1=Aa8 r) ?_ λy D=>?_
 .refine V (λ_=>C rfl) λB=>V (λ_=>C rfl) λq1=>?_;have B:p≠0:=λe=>by have q:=B;rw[e]at q;cases q
  refine U (Q:=λy=>y.2.1=Aa8 r/\y.1.1=p/\y.1.2.1=j/\(y.1.2.2.2.2.1=H->r.G1=0/\r.B6=p)) (V (λq=>C ⟨rfl,rfl,rfl,λR=>⟨eq_of_beq q,eq_of_beq R⟩⟩) λ_=>C ⟨rfl,rfl,rfl,λq=>by cases q⟩) ?_;rintro⟨⟨Y,y2,y3,y4,y5,y6⟩,L,y8⟩ ⟨g1,A,g3,g4⟩;change L=_ at g1;change Y=_ at A;change y2=_ at g3;change y5=H->_ at g4;subst g1;have A:=A.symm;have g3:=g3.symm;subst A g3;refine V (λq=>?_) λ_=>C ⟨p,aC.wrap<|j-1,_,rfl,rfl,B,by rw[Aa ω ω];omega,by rw[Aa ω ω];omega⟩;obtain⟨d1,d2⟩:=g4 q;rcases h.dr with⟨_,_,k1,F⟩|⟨d3,_⟩
  .have w:aC.wrap _=r.G4-1:=Aa ω ω;refine C ⟨r.B6,aC.wrap _,y8,?_,d2,B,by rw[w];omega,ω⟩;rw[<-d1]
  .omega
 .cases y with
  |inr z=>exact C ⟨r,D,h⟩
  |inl z=>
   obtain⟨a,k,w,rfl,rfl,n0,k1,F⟩:=D;refine V (λq=>C ⟨Rig.mk r.D0 r.B3 r.M5 a 0 k,rfl,mk<|.inr ⟨ω,rfl,eq_of_beq q⟩⟩) λq=>C ⟨Rig.mk r.D0 r.B3 r.M5 0 a k,rfl,mk<|.inl ⟨rfl,ω,?_,F⟩⟩;have q:k≠0:=λe=>by have q:=q;rw[e]at q;cases q
   omega
theorem Atx(p j:Int):W (SF fl r.D0 r.B3 r.M5 r.G1 r.B6 r.G4 p j) λy=>∃O,y.2.1=Aa8 O/\RigOK fl O:=by
 have w:aC.wrap _=fl-1:=Aa ω ω;have hf:=h.f;refine S (Xc hl h)<|aA rfl ?_;have P:1<=(bif decide (10000<(bif decide (j<1)then 1 else j))then 10000 else(bif decide (j<1)then 1 else j))/\(bif decide (10000<(bif decide (j<1)then 1 else j))then 10000 else(bif decide (j<1)then 1 else j))<=10000:=by
  have h1:1<=(bif decide (j<1)then 1 else j):=by
   by_cases g:j<1
   .rw[b_ g,h_];decide
   .rw[d_ g,g_];omega
  generalize(bif decide (j<1)then 1 else j)=z at h1;by_cases g:10000<z
  .rw[b_ g,h_];decide
  .rw[d_ g,g_];omega
 simp only[];generalize(bif decide (10000<(bif decide (j<1)then 1 else j))then _ else _)=z1 at P|-;have A:∃n,SG r.D0 r.B3 r.M5 r.G1 r.B6 r.G4 p=Z ((n,()),())/\-1<=n-r.D0/\n-r.D0<=1:=by
  unfold SG;by_cases c1:p=1
  .subst c1;exact⟨_,rfl,by rw[Aa ω ω];omega,by rw[Aa ω ω];omega⟩
  .rw[At c1];by_cases F:p=2
   .subst F;exact⟨_,rfl,by rw[Aa ω ω];omega,by rw[Aa ω ω];omega⟩
   .rw[At F];exact⟨_,rfl,ω,ω⟩
 obtain⟨n,e,L,N⟩:=A;refine S e (V (λq=>?_) λq=>?_)
 .have q:r.M5≠0:=by have q:=q;simpa using q
  have B:=λe=>q<|h.eq e;obtain⟨k1,k2,k3⟩:=h.ne B;have D:r.B6=0/\r.G4=0:=by
   rcases h.dr with g|g
   .omega
   .exact g.2
  have wl:aC.wrap _=r.M5-1:=Aa ω ω;rw[wl,k3];exact U (Zg h.f h.t h.d B ⟨ω,ω⟩ D) λ_ h=>C h
 have q:r.M5=0:=by have q:=q;simpa using q
 have hE:r.D0=r.B3:=by
  by_cases e:r.D0=r.B3
  .exact e
  .have:=h.ne e;omega
 refine U (Q:=λy=>∃c:Bool,y=((p,z1,(),(),n,c,()),(Aa8 r,(0,0,0,0,0,0,()),()))/\(c=H->n≠r.D0/\(0<=n/\n<fl)/\r.G1=2)) ?_ λy6 h6=>?_
 .refine V (λg=>?_) λ_=>C ⟨I,rfl,λq=>by cases q⟩;have g:n≠r.D0:=by have g:=g;simpa using g
  rw[w];refine S (Zh _ _ _) (V (λY=>C ⟨_,rfl,λq2=>⟨g,?_,eq_of_beq q2⟩⟩) λ_=>C ⟨I,rfl,λq=>by cases q⟩)
  have:=Ah.1 (show inR 0 _ n=H from Y)
  omega
 obtain⟨c,rfl,hc⟩:=h6;refine V (λg=>?_) λ_=>?_
 .obtain⟨c1,F,R⟩:=hc g;have wz:aC.wrap _=z1-1:=Aa ω ω;have D:r.B6=0/\r.G4=0:=by
   rcases h.dr with g|g
   .omega
   .exact g.2
  show W (Option.bind (LT r.D0 n _ r.G1 r.B6 r.G4) _) _;rw[wz,R];exact U (Zg h.f F ⟨L,N⟩ (e4_ c1) ⟨ω,ω⟩ D) λ_ h=>C h
 .have E:∃a,UV r.D0 r.B3 r.M5 r.G1 r.B6 r.G4 p=Z ((a,()),())/\(a=0\/a=1\/a=2):=by
   unfold UV;cases p==3 with
   |true=>exact⟨1,rfl,τ⟩
   |false=>
   cases p==5 with
   |true=>exact⟨2,rfl,τ⟩
   |false=>
   cases p==4 with
   |true=>exact⟨2,rfl,τ⟩
   |false=>exact⟨r.B6,rfl,by rcases h.dr with g|g<;>omega⟩
  obtain⟨a,e,D⟩:=E;exact S e (U (Aty hl h hE D P) λ_ h=>C h)
end
def Ami(a c:List Int):EW (a++c)=EW a++EW c:=by apply Ub;rw[Ru,XB,XB,XB,List.map_append]
def Bca(n:Int)(k:Nat):CL n (k+1)=CL n k++[bG.wrap<|bD n<|(2:Int)^(aS (8*k)<|IntKind.bits .u64)]:=by unfold CL;rw[List.range_succ,List.map_append];rfl
def Bsi(d:0<=n)(a:k<8):bD (bD n<|(2:Int)^(aS (8*k)<|IntKind.bits .u64)) ((2:Int)^(aS (aK (8:Int))<|IntKind.bits aN))=bD n ((2:Int)^(aS (8*(k+1))<|IntKind.bits .u64)):=by
 have p:∀k:Nat,(0:Int)<=2^k:=λk=>Int.le_of_lt<|Int.pow_pos τ;rw[R_ _<|p _,R_ _<|p _,R_ _<|p _,Int.ediv_ediv_of_nonneg<|p _];congr 1;have e:∀k:Nat,k<=8->aS (8*k) (IntKind.bits .u64)=8*k:=λk a=>by show min (8*k) 64=8*k;omega
 rw[e k ω,e (k+1) ω,Nat.mul_add,Int.pow_add];rfl
def Nn(p:0<=n)(A:k<=8){l:List Int}(hl:l.length<=1000000):Bp n (k:Int) l=Z ((),((l++CL n k,()),())):=by
 refine aY ?_;refine U (Q:=λy=>y=((),((l++CL n k,()),()))) ?_ λy a=>by subst a;exact C rfl
 refine aH (λm z=>∃i:Nat,z=(((),bD n<|2^(aS (8*i)<|IntKind.bits .u64),(k:Int),(i:Int),()),((l++CL n i,()),()))/\i+m=k) (λm z d=>?_) k ⟨0,?_,m_ _⟩ ω
 .obtain⟨i,rfl,hm⟩:=d;show W (Pf _ k i _) _;have j:(CL n i).length=i:=by simp[CL]
  refine V (λq=>J (Am (by rw[e_];show _+1<=_;omega)) ?_) λq=>C ?_
  .have q:=j_ q;have w:=Cn (n:=i) ω;refine C ⟨m-1,ω,i+1,?_,ω⟩;rw[Bsi p ω,G_,<-Bca,w]
  .have q:=w_ q;obtain rfl:i=k:=ω;rfl
 .show _=(((),bD n<|2^0,(k:Int),0,()),((l++[],()),()))
  rw[T_,Int.pow_zero,Int.fdiv_one]
def Bdc(u d:Int){l:List Int}(hl:l.length<=900000):Kr [bC u d] l=Z ((),((l++CL (aJ aN u) 4++CL (aJ aN d) 4,()),())):=by
 refine aY ?_;have p:=Nn (k:=4) (Jl u).1 τ (l:=l) ω;have a:=Nn (k:=4) (Jl d).1 τ (l:=l++CL (aJ aN u) 4) (by rw[e_];show _+4<=_;omega);refine U (Q:=λy=>y=((),((l++CL (aJ aN u) 4++CL (aJ aN d) 4,()),()))) ?_ λy j=>by subst j;exact C rfl
 refine aH (λm z=>(m=1/\z=(((),[bC u d],1,0,()),((l,()),())))\/(m=0/\z=(((),[bC u d],1,1,()),((l++CL (aJ aN u) 4++CL (aJ aN d) 4,()),())))) (λm z q=>?_) 1 (.inl ⟨rfl,rfl⟩) τ;rcases q with⟨rfl,rfl⟩|⟨rfl,rfl⟩
 .show W (Eu [bC u d] 1 0 l) _;unfold Eu;exact J rfl<|J rfl<|S p<|S a<|C ⟨0,rfl,.inr ⟨rfl,rfl⟩⟩
 .show W (Eu [bC u d] 1 1<|l++CL (aJ aN u) 4++CL (aJ aN d) 4) _;unfold Eu;exact aA rfl<|C rfl
def Bdd{a:List Bool}(hb:a.length<=8)(h0:0<=Bd (Qk a) a.length 0 0){l:List Int}(hl:l.length<=900000):Ks a l=Z ((),((l++CL (Bd (Qk a) a.length 0 0) 1,()),())):=by
 have h:=BN (step:=λx=>Dx x.1.2.1 x.1.2.2.1 x.1.2.2.2.1 x.1.2.2.2.2.1 x.2.1.1) a.length (λi n=>(((),n,a,a.length,i,()),((l,()),()))) (Qk a) (λ_ _=>True) _
  (λi n hi _=>by refine⟨?_,trivial⟩;show Dx n a (a.length:Int) (i:Int) l=_;unfold Dx;simp only[b_ (ω:i<(a.length:Int)),Ac ω (ω:(i:Int)<a.length),l_,Cn (ω:i<1000000000)];unfold Qk Bpo;cases a.getD i I<;>rfl)
  (λn _=>by show Dx n a (a.length:Int) (a.length:Int) l=_;unfold Dx;rw[d_<|a0_ _];rfl) a.length 0 0 ω trivial
 have d:=Aj h.1 ω;exact Ae d<|Ae (Nn h0 τ (l:=l) ω) rfl
structure InC(b:Bldg)(c:CarInput):Prop where
 fl:C2 b.C0 c.C1
 ca:C2 b.C0 c.I2
 ff:0<=c.H2/\c.H2<b.C0
 dr:0<=c.Y1/\c.Y1<=2
structure InS(b:Bldg)(x:Inp):Prop where
 press:MM b x.press=true
 pu:KO x.press
 kind:0<=x.kind/\x.kind<=8
 car:0<=x.car/\x.car<(b.B0.length:Int)
 none:x.kind=0->x.car=0
 len:x.cars.length=b.B0.length
 cars:∀c∈x.cars,InC b c
section
variable{b:aB}(hb:b.small)
include hb
theorem C2.flV(h:C2 b.C0 n):Go.Ovl.flV b n=H:=by have d:=Asl hb;obtain⟨h1,a⟩:=h;unfold Go.Ovl.flV;rw[Ih ω ω];exact QZ.2 ⟨h1,a⟩
theorem InC.inV{c:CarInput}(h:InC b c):WQ b c=H:=by have a:=h.ff;unfold WQ;rw[C2.flV hb h.fl,C2.flV hb h.ca,Ah.2 h.dr,Ah.2 ω];rfl
theorem InS.inV(h:InS b x):Yk b x=H:=by
 have hc:=h.car;unfold Yk;rw[h.press,Ah.2 h.kind,Ah.2 ω,h.len,p_,F_.2 λc hc=>(h.cars c hc).inV hb];cases h0:x.kind==0 with
 |false=>rfl
 |true=>rw[h.none<|eq_of_beq h0];rfl
variable(hcode:b.code=0)
include hcode
theorem Ams(h:InS b x):Oz b.C0 b.E0 b.J0 b.M0 b.K0 b.N0 b.O0 b.B0 x.press.1 x.press.2 x.kind x.car x.cars=Z ((H,()),()):=by
 have lo:=hb.lo;have hi:=hb.hi;have N:=Ag hcode;have hc:=h.car;have hl:=h.len;have O:aC.wrap _=b.B0.length-1:=Aa ω ω;have L:aC.wrap _=b.C0-1:=Aa ω ω;have j:∀{n m:Int},0<=n/\n<=m->HA n m=Z _:=λ{n m} h=>by unfold HA;rw[b_ h.1,b_ h.2];rfl
 have w:aS (aK b.C0) (IntKind.bits aO)=aK b.C0:=by show min _ 32=_;omega
 have hp:vb (bv x.press.1&&& ~~~ bv (Di b).1)=0/\vb (bv x.press.2&&& ~~~ bv (Di b).2)=0:=by
  have h1:=h.press;unfold MM isZ at h1;have h1:(Dt x.press<|Di b).1=0/\(Dt x.press<|Di b).2=0:=by simpa using h1
  exact h1
 refine aY ?_;unfold Oz;rw[O];refine U (Q:=λy=>y=(((),(),I,()),(b.tup,x.tup,()))) (S (Uq hb hcode hp.1 hp.2)<|aA rfl<|S (j h.kind)<|aA rfl<|S (j ⟨hc.1,show x.car<=b.B0.length-1 by omega⟩)<|aA rfl ?_) λy d=>?_
 .have e:((x.cars.length:Int) !=(b.B0.length:Int))=I:=by rw[hl];exact P_ _
  rw[e];refine V (λq=>aA ?_<|C rfl) λ_=>C rfl;rw[h.none<|eq_of_beq q];rfl
 subst d;refine aA rfl (U (Q:=λy=>y=.inl ((),())) ?_ λy d=>by subst d;exact C rfl);refine aH (λk z=>∃i:Nat,z=(((),x.cars,(x.cars.length:Int),(i:Int),()),(b.tup,()))/\i+k=x.cars.length) (λk z F=>?_) x.cars.length ⟨0,rfl,m_ _⟩ ω;obtain⟨i,rfl,P⟩:=F;show W (WC x.cars (x.cars.length:Int) i b.C0 b.E0 b.J0 b.M0 b.K0 b.N0 b.O0 b.B0) _;refine V (λq=>?_) λ_=>C rfl;have q:=j_ q;have E:=Cn (n:=i) ω;have a:=h.cars _<|AE UA (ω:i<x.cars.length);have p:=a.ff;have B:=a.dr;refine J (Ac ω q) (U (Q:=λy=>y=((H,()),())) ?_ λy d=>?_)
 .simp only[l_];rw[show CarInput.mk 0 I I I I 0 I 0 I 0 0=UA from rfl];generalize x.cars.getD i UA=c at a p B;unfold Oy;rw[w,L];have g0:=b_ (ω:0<=b.C0);refine U (J g0<|J (QZ.2 a.fl)<|J g0<|J (QZ.2 a.ca)<|S (j ⟨p.1,show c.H2<=b.C0-1 by omega⟩)<|J rfl (V (λ_=>C rfl) λA=>V (λ_=>C rfl) λD=>C ?_)) λy d=>by subst d;exact C rfl
  have A:c.Y1≠0:=λe=>by rw[e]at A;cases A
  have D:c.Y1≠1:=λe=>by rw[e]at D;cases D
  rw[show c.Y1=2 by omega];rfl
 subst d;exact aA rfl<|C ⟨k-1,ω,i+1,by first|(rw[<-E];rfl)|rw[<-E],ω⟩
theorem Atm(h:InS b x):Xo b.C0 b.E0 b.J0 b.M0 b.K0 b.N0 b.O0 b.B0 x.press.1 x.press.2 x.kind x.car x.cars=Z ((inV b x,0,()),()):=by
 have B:=Ag hcode;have hl:=h.len;have a:∀n k,(CL n k).length=k:=λn k=>by simp[CL]
 refine aY ?_;refine S (Ap ..)<|aA (by rw[hcode];rfl)<|S (Ams hb hcode h)<|aA rfl ?_;refine S (Bdc x.press.1 x.press.2 (by show 2<=_;omega)) ?_;refine S (Nn (Jl x.kind).1 τ (by simp only[ a];show 2+4+4<=_;omega)) ?_;refine S (Nn (Jl x.car).1 τ (by simp only[ a];show 2+4+4+1<=_;omega)) ?_;have hh:EW ([165,bG.wrap b.B0.length]++CL (aJ aN x.press.1) 4++CL (aJ aN x.press.2) 4++CL (aJ aN x.kind) 1++CL (aJ aN x.car) 1)=Vu b x:=by
  simp only[Ami];have e:EW [165,bG.wrap b.B0.length]=nmB 165 1++nmB (aJ aN b.B0.length) 1:=by unfold nmB;rw[ Ih ω ω];show EW [165,bG.wrap _]=EW [_,bG.wrap<|bD _<|2^0];rw[Int.pow_zero,Int.fdiv_one];rfl
  rw[e];unfold Vu ZN nmB;simp only[ByteArray.append_assoc]
 have j:([165,bG.wrap b.B0.length]++CL (aJ aN x.press.1) 4++CL (aJ aN x.press.2) 4++CL (aJ aN x.kind) 1++CL (aJ aN x.car) 1).length=12:=by simp only[e_,a];rfl
 generalize [165,bG.wrap _]++CL _ 4++CL _ 4++CL _ 1++CL _ 1=l0 at hh j;refine U (Q:=λy=>∃l,y=(((),()),((l,()),()))/\EW l=x.cars.foldl Sc (Vu b x)) ?_ λy p=>?_
 .unfold TE;refine aH (λk z=>∃(i:Nat) (l:List Int),z=(((),x.cars,(x.cars.length:Int),(i:Int),()),((l,()),()))/\i+k=x.cars.length/\l.length=12+19*i/\(x.cars.drop i).foldl Sc (EW l)=x.cars.foldl Sc _) (λk z j=>?_) x.cars.length ⟨0,l0,rfl,m_ _,j,by rw[hh];rfl⟩ ω;obtain⟨i,l,rfl,D,A,d⟩:=j;show W (Zr x.cars x.cars.length i l) _;refine V (λq=>?_) λq=>C ⟨l,rfl,?_⟩
  .have q:=j_ q;have w:=Cn (n:=i) ω;rw[BS UA ω,List.foldl_cons]at d;refine J (Ac ω q) ?_;simp only[l_];rw[show CarInput.mk 0 I I I I 0 I 0 I 0 0=UA from rfl];generalize x.cars.getD i UA=c at d;obtain⟨g0,_⟩:=Br8 c.X2 c.D2 c.E2 c.R1 c.T2 c.C3;refine S (Nn (Jl c.C1).1 τ ω) ?_;refine S (Bdd (by show 6<=8;omega) g0.1 (by simp only[e_,a];omega)) ?_;refine S (Nn (Jl c.H2).1 τ (by simp only[e_,a];omega)) ?_;refine S (Nn (Jl c.Y1).1 τ (by simp only[e_,a];omega)) ?_;refine S (Nn (Jl c.I2).1 τ (by simp only[e_,a];omega)) ?_;refine S (Nn ω τ (by simp only[e_,a];omega)) ?_;refine C ⟨k-1,ω,i+1,_,by first|(rfl)|rw[<-w],ω,by simp only[e_,a];omega,?_⟩;rw[<-d];congr 1;simp only[Ami];rfl
  .have q:=w_ q;rw[List.drop_of_length_le ω]at d;exact d
 .obtain⟨l,rfl,hl⟩:=p;refine S (Ac6 (by rw[hl,Agp,Agx];omega))<|C ?_;rw[hl];rfl
end
def Bhe(p a d:Int)(k:Bool):Prop:=(a=0/\d=0/\k=H)\/(Ed p=H/\k=I)
def Afu(p c:Int):Bool:=c==0||(p==3||p==4)
def Avz(p c:Int):Kt p c=Z ((Afu p c,()),()):=by unfold Kt Afu;cases c==0<;>cases p==3<;>rfl
def Agz(p:Int):Mq p=Z ((Ed p,()),()):=by unfold Mq Ed;cases p==0<;>rfl
section
variable{b:aB}(hw:BW b){x:Inp}{g:Bool}
include hw
theorem Bjo(hi:i<b.B0.length)(p:Int){s:aV}(h:BelOK b i s):W (Mp b.C0 b.E0 b.J0 b.M0 b.K0 b.N0 b.O0 b.B0 (i:Int) p s.D0 s.I0 s.G1 s.B1 s.G3 s.A4) λy=>∃a d k,y=(((),()),((a,d,k,()),()))/\Bhe p a d k/\ER b (a,d):=by
 have D:=h.dut.len hw.small;unfold Mp;refine S (Agz p) (V (λ_=>C ⟨0,0,H,rfl,.inl ⟨rfl,rfl,rfl⟩,RB hw.small hw.code⟩) λq=>?_);have q:Ed p=H:=by simpa using(show(!Ed p)=I from q)
 refine S (IG hw.small hw.code hi h)<|aA rfl ?_;refine U (Q:=λy=>∃a d,y=(((),(),()),((0,0,I,()),(a,d,I,()),()))/\ER b (a,d)) ?_ λy A=>by obtain⟨a,d,rfl,hh⟩:=A;exact C ⟨a,d,I,rfl,.inr ⟨q,rfl⟩,hh⟩
 unfold NQ;refine aH (λ(k:Nat) z=>∃(j:Nat) (c:Int×Int),z=(((i:Int),(),(),(),s.B1,(s.B1.length:Int),(j:Int),()),((b.C0,b.E0,b.J0,b.M0,b.K0,b.N0,b.O0,b.B0,()),(0,0,I,()),(c.1,c.2,I,()),()))/\j+k=s.B1.length/\ER b c) (λk z B=>?_) s.B1.length ⟨0,(0,0),rfl,m_ _,RB hw.small hw.code⟩ ω;obtain⟨j,c,rfl,E,hh⟩:=B;show W (NU (i:Int) s.B1 (s.B1.length:Int) (j:Int) b.C0 b.E0 b.J0 b.M0 b.K0 b.N0 b.O0 b.B0 0 0 I c.1 c.2 I) _;unfold NU;refine V (λq=>?_) λ_=>C ⟨_,_,rfl,hh⟩;have q:(j:Int)<(s.B1.length:Int):=j_ q;have w:=Cn (n:=j) ω;refine J (Ac ω q)<|J (Ac ω ω) (V (λ_=>S (GO _ _)<|S (DZ c<|Qs _ _) ?_) λ_=>?_)
 .exact C ⟨k-1,ω,j+1,_,by first|(rw[<-w];rfl)|rw[<-w],ω,Bbj hw.small hw.code hh (h.dut.1 _<|AE Ic (ω:j<s.B1.length)).1⟩
 .exact C ⟨k-1,ω,j+1,c,by first|(rw[<-w];rfl)|rw[<-w],ω,hh⟩
end
def o1(c:aI)(a d:Int)(k:Bool):aI:=bE a d k c.Y2 c.G2 c.C6 c.R2 c.Y3 c.D6
def o2(c:aI)(p:Int):aI:=bE c.T1 c.M1 c.J2 c.Y2 c.G2 c.C6 c.R2 p c.D6
def o3(c:aI)(f:Bool):aI:=bE c.T1 c.M1 c.J2 c.Y2 c.G2 c.C6 c.R2 c.Y3 f
def o4(c:aI):aI:=bE c.T1 c.M1 c.J2 c.Y2 c.G2 c.C6 0 c.Y3 c.D6
def Bfe(l:List aI)(i:Nat)(a d:Int)(k:Bool):List aI:=l.set i<|o1 (l.getD i Bi) a d k
def Bff(l:List aI)(i:Nat)(a d:Int)(k:Bool)(p:Int):List aI:=(Bfe l i a d k).set i<|o2 ((Bfe l i a d k).getD i Bi) p
def Aji(l:List aI)(i:Nat)(a d:Int)(k:Bool)(p:Int)(f:Bool):List aI:=(Bff l i a d k p).set i<|o3 ((Bff l i a d k p).getD i Bi) f
def Anq(l:List aI)(i:Nat)(a d:Int)(k:Bool)(p:Int)(f:Bool):List aI:=(Aji l i a d k p f).set i<|o4<|(Aji l i a d k p f).getD i Bi
def Aus{l:List aI}(hi:i<l.length)(a d:Int)(k:Bool)(p:Int)(f:Bool):Aji l i a d k p f=l.set i (o3 (o2 (o1 (l.getD i Bi) a d k) p) f):=by unfold Aji Bff Bfe;simp only[BQ _ _ hi,g2_]
def Bfd{l:List aI}(hi:i<l.length)(a d:Int)(k:Bool)(p:Int)(f:Bool):Anq l i a d k p f=l.set i (o4<|o3 (o2 (o1 (l.getD i Bi) a d k) p) f):=by unfold Anq;rw[Aus hi,BQ _ _ hi,g2_]
structure FinO(b:Bldg)(m:Img)(i:Nat)(c d:CarOutput):Prop where
 lu:d.Y2=c.Y2
 ld:d.G2=c.G2
 gong:d.C6=c.C6
 phase:d.Y3=phA m i
 flag:d.D6=flA m i
 coils:Bhe (phA m i) d.T1 d.M1 d.J2
 cmd:Afu (phA m i) d.R2=true
 cmdr:CmdR d.R2
 inj:ER b (d.T1,d.M1)
structure Fin(b:Bldg)(g:Bool)(t t':Pk):Prop where
 m:PM b t'.m
 im:t'.m.G0=t.m.G0
 st:t'.m.W0=t.m.W0
 bu:t'.budget=t.budget
 e:t'.e=t.e
 out:t'.out={ t.out with I6:=(ofC t.m.G0.A0 (0,0)).1,H6:=(ofC t.m.G0.A0 (0,0)).2,K6:=!g,B0:=t'.out.B0 }
 oc:t'.out.B0.length=b.B0.length
 cars:∀i,i<b.B0.length->FinO b t.m.G0 i (t.out.B0.getD i Bi) (t'.out.B0.getD i Bi)
 con:t'.m.J1=t.m.J1
def Pk.sLmp(t:Pk)(c:Int×Int)(f:Bool):Pk:={ t with out:={ t.out with I6:=c.1,H6:=c.2,K6:=f } }
section
variable{b:aB}(hw:BW b){x:Inp}{g:Bool}
include hw
set_option maxHeartbeats 4000000 in
theorem Bfg(hm:PM b t.m)(hr:PR b t):W (Dh (((),t.m.G0.F0,(t.m.G0.F0.length:Int),(0:Int),()),(t.tup b x g,()))) λy=>∃L,y=((),(L.tup b x g,()))/\PM b L.m/\Fix t L/\L.out.B0.length=b.B0.length/\∀i,i<b.B0.length->FinO b t.m.G0 i (t.out.B0.getD i Bi) (L.out.B0.getD i Bi):=by
 have h9:=Ag hw.code;have hp:=hm.jst.img.lp;unfold Dh;refine aH (λ(k:Nat) z=>∃(i:Nat) (L:Pk),z=(((),t.m.G0.F0,(t.m.G0.F0.length:Int),(i:Int),()),(L.tup b x g,()))/\i+k=b.B0.length/\PM b L.m/\PR b L/\Fix t L/\(∀j,j<i->FinO b t.m.G0 j (t.out.B0.getD j Bi) (L.out.B0.getD j Bi))/\∀j,i<=j->L.out.B0.getD j Bi=t.out.B0.getD j Bi) (λk z hz=>?_) b.B0.length ⟨0,t,rfl,m_ _,hm,hr,.rfl' t,λj hj=>absurd hj<|bL j,λj _=>rfl⟩ ω;obtain⟨i,u,rfl,hk,B,h3,Y,h1,h2⟩:=hz;show W (u.ap (EK t.m.G0.F0 (t.m.G0.F0.length:Int) (i:Int)) b x g) _;unfold Pk.ap EK;refine V (λq=>?_) λq=>C ⟨u,rfl,B,Y,h3.oc,λj hj=>h1 j (by have:=w_ q;omega)⟩;have q:(i:Int)<(t.m.G0.F0.length:Int):=j_ q;have hi:i<b.B0.length:=ω;have w:=Cn (n:=i) ω;have h8:aD (i:Int) u.m.G0.L0.length=H:=Ac ω (by rw[B.jst.img.lf];omega);refine J (Ac ω q) ?_;refine U (Q:=λy=>∃v:Pk,y=(((),(i:Int),phA t.m.G0 i,t.m.G0.F0,(t.m.G0.F0.length:Int),(i:Int),()),(v.tup b x g,()))/\PM b v.m/\PR b v/\Fix t v/\v.out=u.out) ?_ λy5 h5=>?_
 .refine U (Q:=λy=>∃c:Bool,y=(((),(i:Int),phA t.m.G0 i,t.m.G0.F0,(t.m.G0.F0.length:Int),(i:Int),c,()),(u.tup b x g,()))) (S (YR _) (V (λ_=>J h8<|C ⟨_,rfl⟩) λ_=>C ⟨_,rfl⟩)) λy2 h2=>?_;obtain⟨c,rfl⟩:=h2;have i2:aD (i:Int) u.m.Y0.length=H:=Ac ω (by rw[B.bel];omega);refine V (λ_=>J i2 ?_) λ_=>C ⟨u,rfl,B,h3,Y,rfl⟩;refine U (Aqj hw B.jst.img (i:Int)) λy3 _=>U (Afy hw.small hw.code hi (B.belv i hi) _ _) λy4 h4=>J i2 ?_;obtain⟨ya,yb,yc⟩:=y4;obtain⟨v,e4,hv⟩:=h4;change yb=_ at e4;subst e4;exact C ⟨u.sBel i v,rfl,B.sBel hv,h3.sBel i v,⟨⟨Y.im,Y.st,Y.bu,Y.e,Y.out⟩,Y.con⟩,rfl⟩
 obtain⟨v,rfl,R,A,F,h0⟩:=h5;have j2:aD (i:Int) v.m.Y0.length=H:=Ac ω (by rw[R.bel];omega);have jo:aD (i:Int) v.out.B0.length=H:=Ac ω (by rw[A.oc];omega);have jf:aD (i:Int) v.m.G0.L0.length=H:=Ac ω (by rw[R.jst.img.lf];omega);have jr:aD (i:Int) v.reset.length=H:=Ac ω (by rw[A.rst];omega);have O:i<v.out.B0.length:=by rw[A.oc];exact hi
 refine J jo<|J j2 (U (Bjo hw hi _<|R.belv i hi) λy6 h6=>J jf<|J jr ?_);obtain⟨a,d,P,rfl,E,N⟩:=h6;have p:v.out.B0.getD i Bi=t.out.B0.getD i Bi:=by rw[h0];exact h2 i<|q_ i
 have D:flA v.m.G0 i=flA t.m.G0 i:=by rw[F.im]
 have e9:=Aus O a d P (phA t.m.G0 i)<|flA v.m.G0 i;have h7:=Bfd O a d P (phA t.m.G0 i)<|flA v.m.G0 i;have done:∀c:aI,FinO b t.m.G0 i (t.out.B0.getD i Bi) c->PM b (v.sOuts<|v.out.B0.set i c).m/\PR b (v.sOuts<|v.out.B0.set i c)/\Fix t (v.sOuts<|v.out.B0.set i c)/\(∀j,j<i+1->FinO b t.m.G0 j (t.out.B0.getD j Bi) ((v.sOuts<|v.out.B0.set i c).out.B0.getD j Bi))/\∀j,i+1<=j->(v.sOuts<|v.out.B0.set i c).out.B0.getD j Bi=t.out.B0.getD j Bi:=λc hc=>by
  refine⟨R,⟨A.leg,A.sho,A.rst,(by show(v.out.B0.set i c).length=_;rw[z_];exact A.oc),Aud A.cmd hc.cmdr i⟩,⟨⟨F.im,F.st,F.bu,F.e,by show({ v.out with B0:=_ }:Outputs)=_;rw[F.out];rfl⟩,F.con⟩,λj hj=>?_,λj hj=>?_⟩
  .show FinO b t.m.G0 j (t.out.B0.getD j Bi) ((v.out.B0.set i c).getD j Bi);by_cases e:i=j
   .subst e;rw[BQ _ _ O];exact hc
   .rw[Fi _ _ e,h0];exact h1 j ω
  .show(v.out.B0.set i c).getD j Bi=_;rw[Fi _ _ ω,h0];exact h2 j ω
 refine V (λ_=>?_) λ_=>S (Avz _ _) (V (λq7=>?_) λq7=>?_)
 .obtain⟨d1,d2,d3,d4,d5⟩:=done (o4<|o3 (o2 (o1 (v.out.B0.getD i Bi) a d P)<|phA t.m.G0 i)<|flA v.m.G0 i) ⟨by rw[<-p];rfl,by rw[<-p];rfl,by rw[<-p];rfl,rfl,D,E,rfl,rfl,N⟩;refine C ⟨k-1,ω,i+1,v.sOuts<|Anq v.out.B0 i a d P (phA t.m.G0 i)<|flA v.m.G0 i,by first|(rw[<-w];rfl)|rw[<-w],ω,?_⟩;rw[h7];exact⟨d1,d2,d3,d4,d5⟩
 .obtain⟨d1,d2,d3,d4,d5⟩:=done (o4<|o3 (o2 (o1 (v.out.B0.getD i Bi) a d P)<|phA t.m.G0 i)<|flA v.m.G0 i) ⟨by rw[<-p];rfl,by rw[<-p];rfl,by rw[<-p];rfl,rfl,D,E,rfl,rfl,N⟩;refine C ⟨k-1,ω,i+1,v.sOuts<|Anq v.out.B0 i a d P (phA t.m.G0 i)<|flA v.m.G0 i,by first|(rw[<-w];rfl)|rw[<-w],ω,?_⟩;rw[h7];exact⟨d1,d2,d3,d4,d5⟩
 .have q7:(!Afu (phA t.m.G0 i) ((Aji v.out.B0 i a d P (phA t.m.G0 i)<|flA v.m.G0 i).getD i Bi).R2)=I:=q7;rw[e9,BQ _ _ O]at q7;obtain⟨d1,d2,d3,d4,d5⟩:=done (o3 (o2 (o1 (v.out.B0.getD i Bi) a d P)<|phA t.m.G0 i)<|flA v.m.G0 i) ⟨by rw[<-p];rfl,by rw[<-p];rfl,by rw[<-p];rfl,rfl,D,E,by simpa using q7,(by show CmdR (v.out.B0.getD i Bi).R2;exact A.cmd i),N⟩;refine C ⟨k-1,ω,i+1,v.sOuts<|Aji v.out.B0 i a d P (phA t.m.G0 i)<|flA v.m.G0 i,by first|(rw[<-w];rfl)|rw[<-w],ω,?_⟩;rw[e9];exact⟨d1,d2,d3,d4,d5⟩
theorem Bfh(hm:PM b t.m)(d:PR b t):W (t.ap DF b x g) λy=>∃j,y=((),(j.tup b x g,()))/\Fin b g t j:=by
 have A:=DH hw.small hm.jst.img;have p:GV t.m.G0.F0 t.m.G0.L0 t.m.G0.H0 t.m.G0.A0=Z (((),()),(((ofC t.m.G0.A0 (0,0)).1,(ofC t.m.G0.A0 (0,0)).2,()),())):=by unfold GV;exact Ae (Ac5 ω) rfl
 unfold Pk.ap DF;refine S p ?_;refine U (Bfg hw (x:=x) (g:=g) (t:=t.sLmp (ofC t.m.G0.A0 (0,0))<|!g) hm ⟨d.leg,d.sho,d.rst,d.oc,d.cmd⟩) λB a=>?_;obtain⟨j,rfl,h1,a,w,q⟩:=a;exact C ⟨j,rfl,h1,a.im,a.st,a.bu,a.e,by rw[a.out];rfl,w,q,a.con⟩
end
def RunR(b:aB)(x:Inp)(g:Bool)(t d:Pk):Prop:=∃(a t2:Pk) (l1:List aE),PM b a.m/\PR b a/\FixR t a/\(∀r∈l1,Vs b r)/\l1.length<=8/\(t2.out={ a.out with B0:=t2.out.B0 }/\(g=H->∀j,j<b.B0.length->Ed (phA a.m.G0 j)=H->DC t2 j))/\
 ((De b a t2 l1/\d=t2)\/(Al b a t2 l1/\∃(t3:Pk) (l2:List aE),((g=I/\t3=t2/\l2=[])\/(g=H/\Opr b x g t2 t3 l2))/\
  ((De b t2 t3 l2/\d=t3)\/(Al b t2 t3 l2/\∃(t4:Pk) (vs:List aL),Dsp b x g t3 t4 vs/\
   ((t4.e=8/\d=t4)\/(t4.e=0/\Fin b g t4 d))))))
section
variable{b:aB}(hw:BW b){x:Inp}{g:Bool}(hx:g=H->InOK b x)
include hw hx
theorem Bta(hm:PM b t.m)(hr:PR b t)(hb:Bud t):W (t.ap GG b x g) λy=>∃O,(y=.inl ((),(O.tup b x g,()))\/y=.inr ((),(O.tup b x g,())))/\RunR b x g t O:=by
 refine U (Q:=λy=>∃a,y=(((),(),(),(),()),(((),(),(),(),(),()),a.tup b x g,()))/\PM b a.m/\PR b a/\FixR t a) ?_ λy3 R=>?_
 .refine U (Bp6 hw hx hm hr) λy1 h1=>?_;obtain⟨a,e|e,h⟩:=h1
  .subst e;exact C ⟨a,rfl,h⟩
  .subst e;exact C ⟨a,rfl,h⟩
 obtain⟨a,rfl,D,r1,B⟩:=R;have L:Bud a:=⟨B.e.trans hb.1,by rw[B.bu];exact hb.2⟩
 refine aA (show(a.e !=0)=I by rw[L.1];rfl) ?_;refine U (Bnv hw hx D r1 L) λy4 h4=>?_;obtain⟨t2,l1,rfl,j,d,p,o2⟩:=h4;have N:∀{u v:Pk}{l:List aE},(Al b u v l\/De b u v l)->(v.e !=0)=H->De b u v l:=λh q=>by
  rcases h with h|h
  .rw[h.e]at q;cases q
  .exact h
 have P:∀{u v:Pk}{l:List aE},(Al b u v l\/De b u v l)->(v.e !=0)=I->Al b u v l:=λh q=>by
  rcases h with h|h
  .exact h
  .rw[h.e]at q;cases q
 refine V (λq=>C ⟨t2,.inl rfl,a,t2,l1,D,r1,B,j,d,o2,.inl ⟨N p q,rfl⟩⟩) λq=>?_;have a2:=P p q;have Y:=a2.bud L;refine U (Q:=λy=>∃(t3:Pk) (l2:List aE),y=((),(t3.tup b x g,()))/\((g=I/\t3=t2/\l2=[])\/(g=H/\Opr b x g t2 t3 l2))/\(Al b t2 t3 l2\/De b t2 t3 l2)) ?_ λy5 h5=>?_
 .show W (t2.ap DI b x g) _;refine V (λF=>?_) λF=>C ⟨t2,[],rfl,.inl ⟨F,rfl,rfl⟩,.inl ⟨a2.e,a2.m,a2.r,rfl,a2.b0,b8_ _,σ,rfl⟩⟩;refine U (Q:=λy=>∃(t3:Pk) (l2:List aE),y=((),(t3.tup b x g,()))/\Opr b x g t2 t3 l2) ?_ λy3 R=>by obtain⟨t3,l2,rfl,h⟩:=R;exact C ⟨t3,l2,rfl,.inr ⟨F,h⟩,h.res⟩
  refine U (Bce hw (hx F) a2.m a2.r Y) λy1 h1=>?_;obtain⟨t3,l2,e|e,h⟩:=h1
  .subst e;exact C ⟨t3,l2,rfl,h⟩
  .subst e;exact C ⟨t3,l2,rfl,h⟩
 obtain⟨t3,l2,rfl,A,w⟩:=h5;refine V (λq=>C ⟨t3,.inl rfl,a,t2,l1,D,r1,B,j,d,o2,.inr ⟨a2,t3,l2,A,.inl ⟨N w q,rfl⟩⟩⟩) λq=>?_;have a3:=P w q;have b3:=a3.bud Y;refine U (Aw1 hw hx a3.m a3.r b3) λy6 h6=>?_;obtain⟨t4,vs,rfl,E⟩:=h6;refine V (λq=>C ⟨t4,.inl rfl,a,t2,l1,D,r1,B,j,d,o2,.inr ⟨a2,t3,l2,A,.inr ⟨a3,t4,vs,E,.inl ⟨(N E.res q).e,rfl⟩⟩⟩⟩) λq=>?_;have a4:=P E.res q;refine U (Bfh hw a4.m a4.r) λy7 h7=>?_;obtain⟨t5,rfl,hf⟩:=h7;have he:(t5.e !=0)=I:=by rw[hf.e,a4.e];rfl
 exact aA he<|C ⟨t5,.inr rfl,a,t2,l1,D,r1,B,j,d,o2,.inr ⟨a2,t3,l2,A,.inr ⟨a3,t4,vs,E,.inr ⟨a4.e,hf⟩⟩⟩⟩
end
def RunR.cases(hw:BW b){g:Bool}{j:Pk}(h:RunR b x g t j)(hb:Bud t):(j.e=0/\PM b j.m/\j.out.B0.length=b.B0.length/\0<=j.budget)\/(j.e=8/\t.budget<300000):=by
 obtain⟨P,t2,l1,N,r1,A,D,B,o2,⟨d,rfl⟩|⟨a2,t3,l2,y,h⟩⟩:=h
 .have:=d.lo
  rw[A.bu]at this;exact .inr ⟨d.e,ω⟩
 have F:l2.length<=100:=by
  rcases y with⟨_,_,rfl⟩|⟨_,h⟩
  .exact Q_ _
  .obtain⟨i,cm,fr,_,hi,_,rfl,_⟩:=h.how;have h1:=(Ark t2.m.G0 x.kind hi (cm.getD i I) fr).2;have Q:=Vh (Aw t2.m.G0 (Sg t2.m.G0 x.kind i (cm.getD i I) fr).1) (bif x.kind !=0 then cm.set i I else cm) b.B0.length
   have:=Ag N.jst.img.code
   unfold Sf;rw[e_];omega
 have L:=a2.b2;rw[A.bu]at L;rcases h with⟨d,rfl⟩|⟨a3,t4,vs,q,h⟩
 .have:=d.lo
  exact .inr ⟨d.e,ω⟩
 have O:=a3.b2;have E:(PH b x g t3 vs).recs.length<=300:=(Asf hw.small hw.code a3.m.jst.img a3.m.exl a3.m.exv t3.m.F4 x.press g q.va.len).2;rcases h with⟨w,rfl⟩|⟨h0,p⟩
 .rcases q.res with a|d
  .rw[a.e]at w;cases w
  .have:=d.lo
   exact .inr ⟨w,ω⟩
 .rcases q.res with a|d
  .exact .inl ⟨p.e.trans h0,p.m,p.oc,by rw[p.bu];exact a.b0⟩
  .rw[d.e]at h0;cases h0
end Go.Ovl
namespace Go.Ovl
open Go Go.Ab
variable{b:aB}{l:List ByteArray}{cs:List Car}{bud n:Int}{s:ByteArray}{m:Mch}{e:aU}{x:Inp}{o:Outputs}{was:Img}{g c:Bool}{α:Type}{r:aT}{k i:Nat}
def set_set{s:Sto}{a:Int}(hh:a=0\/a=1)(x y:ByteArray):(s.set a x).set a y=s.set a y:=by rcases hh with rfl|rfl<;>rfl
section
variable{b:aB}(hw:BW b)
include hw
theorem PM.fit(h:PM b m):m.fit:=by
 have d:=Ag hw.code;have h1:=DH hw.small h.jst.img
 have:=h.exl
 refine⟨h.jst.ents.2,by rw[h.con];omega,by rw[h.bel];omega,λx hx=>?_,by rw[h.car];omega,by rw[h.lod];omega,ω,by rw[h.lit];omega⟩;obtain⟨i,hi,rfl⟩:=bQ hx;have a:=((h.belv i (by rw[<-h.bel];exact hi)).dut).len hw.small;rw[k_,i_ hi]at a;have a:m.Y0[i].B1.length<=30:=a;omega
theorem PM.isM_eq(h:PM b m):Gd b.C0 b.E0 b.J0 b.M0 b.K0 b.N0 b.O0 b.B0 m.G0.F0 m.G0.L0 m.G0.H0 m.G0.A0 m.W0.h0 m.W0.h1 m.W0.sel m.J1 m.Y0 m.B0 m.E3 m.K2 m.F4 m.B4 m.I3 m.V2=Z ((H,()),()):=by
 have a:=h.fit hw;have A:=Ag hw.code;have D:=DH hw.small h.jst.img;have hl:=h.exl;have p:=Acq hw.small hw.code h.con λx hx=>(h.conv x hx).1;have w:=Ai9 hw.small hw.code h.bel (λi hi=>(Akw hw.small).2<|h.belv i (by rw[<-h.bel];exact hi)) a.du;have j:=Ajb hw.small hw.code h.car h.carv;have d:=Aja a.lo (by rw[h.lod]) h.lodv;have B:W (Gd b.C0 b.E0 b.J0 b.M0 b.K0 b.N0 b.O0 b.B0 m.G0.F0 m.G0.L0 m.G0.H0 m.G0.A0 m.W0.h0 m.W0.h1 m.W0.sel m.J1 m.Y0 m.B0 m.E3 m.K2 m.F4 m.B4 m.I3 m.V2) λy=>y=((H,()),()):=by
  refine S (VJ hw.small m.G0 ω a.im)<|aA (by rw[Aut h.jst.img h.jst.fits];rfl)<|S (GK ..)<|aA (by rw[b_ h.jst.ok];rfl)<|aA (by rw[hl,P_])<|S (Sr ω h.exv)<|aA rfl<|S (Sr (by show 3<=100000;omega) λx hx=>?_)<|aA rfl<|S p<|S w<|S j<|S d ?_
  .simp only[x_,g3_,or_false]at hx;rcases hx with rfl|rfl|rfl
   .exact h.tick
   .exact h.flt
   .exact h.ref
  .refine C ?_;rw[h.lit,p_]
 obtain⟨y,h1,q⟩:=B;rw[h1,q]
theorem Ar5:PM b (Kg b).1/\(Kg b).1.G0=Pw b/\(Kg b).2=0:=by
 have hcode:=hw.code;have j:=Jst.first hcode;have q:=j.fits;have p:=hw.room;have w:Kg b=((Pm b Sto.no 1048576).1,(Pm b Sto.no 1048576).2.2):=by unfold Kg;rw[hcode];rfl
 rw[w];rcases Auc hw.small j.ok j.img (j.replay hw.small) ω (bud:=1048576) ω with⟨_,A,y⟩|⟨B,_⟩
 .rw[A];have d:∀{α:Type}{P:α->Prop}{a:α}{n:Nat},P a->∀x∈aF n a,P x:=λh x hx=>by rw[(List.mem_replicate.1 hx).2];exact h
  refine⟨⟨y,A_,d ⟨Arc<|Ad5 hcode,b8_ 0,show _<4294967296 by decide⟩,A_,λi hi=>?_,A_,d<|KM hw.small,A_,d τ,A_,a3_ _,?_,i00,i00,i00⟩,rfl,rfl⟩
  .show BelOK b i ((aF b.B0.length WW).getD i KN);rw[k_,bP,if_pos hi];exact BelOK.new hw
  .intro x hx;cases hx
 .omega
omit hw in
theorem Bpt(hm:m.fit):RL m.G0.F0 m.G0.L0 m.G0.H0 m.G0.A0 m.W0.h0 m.W0.h1 m.W0.sel m.J1 m.Y0 m.B0 m.E3 m.K2 m.F4 m.B4 m.I3 m.V2=Z (((),()),(m.tup,())):=by
 have hl:W (OP (((),(),m.Y0.length,0,()),(m.tup,Mch.none.tup,()))) λy=>y=(((),(),()),(m.tup,Mch.none.tup,())):=by have j:=hm.be;refine aH (λk z=>∃(i:Nat),z=(((),(),(m.Y0.length:Int),(i:Int),()),(m.tup,Mch.none.tup,()))/\i+k=m.Y0.length) (λk z A=>?_) m.Y0.length ⟨0,rfl,m_ _⟩ ω;obtain⟨i,rfl,D⟩:=A;show W (Pg (m.Y0.length:Int) (i:Int) m.G0.F0 m.G0.L0 m.G0.H0 m.G0.A0 m.W0.h0 m.W0.h1 m.W0.sel m.J1 m.Y0 m.B0 m.E3 m.K2 m.F4 m.B4 m.I3 m.V2 [] [] [] [] noB noB 0 [] [] [] [] [] [] 0 0 0) _;unfold Pg;refine V (λq=>?_) λ_=>C rfl;have q:(i:Int)<(m.Y0.length:Int):=j_ q;have hi:i<m.Y0.length:=ω;have w:=Cn (n:=i) ω;have d:=Ac ω q;have B:(m.Y0.getD i KN).B1.length<=100000:=hm.du _<|AE _ hi;refine J d<|S (Ca _ B)<|J d ?_;refine C ⟨k-1,ω,i+1,?_,ω⟩;have e:m.Y0.set i _=m.Y0:=Ary KN rfl;rw[<-w];exact J_ (λL=>(((),(),(m.Y0.length:Int),aC.wrap _,()),(({ m with Y0:=L }:Mch).tup,Mch.none.tup,()))) e
 obtain⟨y,hl,rfl⟩:=hl;have a:=hm.im;refine Ae (Ca m.G0.F0 a.p)<|Ae (Ca m.G0.L0 a.f)<|Ae (Ca m.G0.H0 a.l)<|Ae (Ca m.G0.A0 a.e)<|Ae (Ca m.J1 hm.co)<|Ae (Ca m.B0 hm.ca)<|Ae (Ca m.E3 hm.lo)<|Ae (Ca m.K2 hm.ex)<|Ae (Ca m.F4 hm.li)<|Ae (Ca m.Y0 hm.be)<|Ae hl rfl
def pk0(b:aB)(m:Mch)(bud:Int):Pk:=⟨m,bud,0,aF b.B0.length I,aF b.B0.length<|bC 0 0,aF b.B0.length I,⟨0,0,0,0,I,I,0,aF b.B0.length Bi⟩⟩
@[reducible] def outP(o:Outputs):=(o.I6,o.H6,o.O5,o.H4,o.K6,o.N0,o.G6,o.B0,())
def noOut:Outputs:=⟨0,0,0,0,I,I,0,[]⟩
omit hw in
theorem Bjn(n i:Nat):CmdR ((aF n Bi).getD i Bi).R2:=by rw[k_,bP];split<;>rfl
def Br6(b:aB)(m:Mch)(s:ByteArray)(bud:Int)(e:Int)(m':Mch)(o:Outputs):Prop:=∃(x:Inp) (a:Pk),((Ek b s=0/\InOK b x)\/(Ek b s≠0/\x=Inp.none))/\Hz b.C0 b.E0 b.J0 b.M0 b.K0 b.N0 b.O0 b.B0 s=Z (((),Ek b s,()),(x.tup,()))/\RunR b x (Ek b s==0) (pk0 b m bud) a/\e=a.e/\(e=0->m'=a.m/\o=a.out)/\(e≠0->m'={ Mch.none with W0:=a.m.W0 }/\o=noOut)
theorem Bs4(a:Fr b s):RdX b s:=Ags hw.small hw.code a
theorem Bqm(hm:PM b m)(N:RdX b s)(hb:0<=bud/\bud<9223372036854775808):W (PU b.C0 b.E0 b.J0 b.M0 b.K0 b.N0 b.O0 b.B0 m.G0.F0 m.G0.L0 m.G0.H0 m.G0.A0 m.W0.h0 m.W0.h1 m.W0.sel m.J1 m.Y0 m.B0 m.E3 m.K2 m.F4 m.B4 m.I3 m.V2 s bud) λy=>∃e m' o,y=(((),(),e,()),(m'.tup,outP o,()))/\Br6 b m s bud e m' o:=by
 have R:=Ag hw.code;have B:=hm.fit hw;obtain⟨x,j,D,A⟩:=N;have d:((decide (0<=b.B0.length)&&decide (b.B0.length<=(b.B0.length:Int)))&&decide ((b.B0.length:Int)<=2147483648))=H:=by simp only[a_,t_];omega
 refine S j<|J d<|J d<|J d<|J d ?_;refine S (Ca m.J1 B.co)<|S (Ca m.Y0 B.be)<|S (Ca m.B0 B.ca)<|S (Ca m.E3 B.lo) ?_;have E:=λh=>A<|eq_of_beq h;have F:PR b<|pk0 b m bud:=⟨A_,A_,A_,A_,λi=>Bjn _ i⟩
 have p:=Bta hw E hm F ⟨rfl,hb⟩;refine U (Q:=λy=>∃a,y=(((),(),(),()),(Mch.none.tup,outP noOut,a.tup b x<|Ek b s==0,()))/\RunR b x (Ek b s==0) (pk0 b m bud) a) ?_ λy8 P=>?_
 .refine U p λY O=>?_;obtain⟨a,e|e,h⟩:=O
  .subst e;exact C ⟨a,rfl,h⟩
  .subst e;exact C ⟨a,rfl,h⟩
 obtain⟨a,rfl,L⟩:=P;have w:(Ek b s=0/\InOK b x)\/(Ek b s≠0/\x=Inp.none):=by
  by_cases h:Ek b s=0
  .exact .inl ⟨h,A h⟩
  .exact .inr ⟨h,D h⟩
 refine V (λq=>?_) λq=>?_
 .have q:(a.e !=0)=H:=q;have q:a.e≠0:=by simpa using q
  exact C ⟨a.e,{ Mch.none with W0:=a.m.W0 },noOut,rfl,x,a,w,j,L,rfl,λh=>absurd h q,λ_=>⟨rfl,rfl⟩⟩
 .have q:(a.e !=0)=I:=q;have q:a.e=0:=by simpa using q
  exact C ⟨0,a.m,a.out,rfl,x,a,w,j,L,q.symm,λ_=>⟨rfl,rfl⟩,λh=>absurd rfl h⟩
end
structure Sit where
 m:Mch
 rl:List Relay
 rg:List Rig
structure Psh where
 press:Int×Int
 kind:Int
 car:Int
 cars:List Int
 times:List Int
 blocks:List Bool
 loads:List Nat
 bad:Bool
@[reducible] def Ct(s:Sit):=(s.m.G0.F0,s.m.G0.L0,s.m.G0.H0,s.m.G0.A0,s.m.W0.h0,s.m.W0.h1,s.m.W0.sel,s.m.J1,s.m.Y0,s.m.B0,s.m.E3,s.m.K2,s.m.F4,s.m.B4,s.m.I3,s.m.V2,s.rl,s.rg,())
@[reducible] def Qt(p:Psh):=(p.press.1,p.press.2,p.kind,p.car,p.cars,p.times,p.blocks,p.loads,p.bad,())
@[reducible] def Sit.ap{α:Type}(s:Sit)(f:List Int->List Bool->List Bool->List aM->ByteArray->ByteArray->Int->List aQ->List aV->List aX->List aZ->List Int->List aP->Int->Int->Int->List aT->List Rig->α):α:=f s.m.G0.F0 s.m.G0.L0 s.m.G0.H0 s.m.G0.A0 s.m.W0.h0 s.m.W0.h1 s.m.W0.sel s.m.J1 s.m.Y0 s.m.B0 s.m.E3 s.m.K2 s.m.F4 s.m.B4 s.m.I3 s.m.V2 s.rl s.rg
@[reducible] def Bldg.ap{α:Type}(b:aB)(f:Int->Int->Int->Int->Nat->Nat->Nat->List Car->α):α:=f b.C0 b.E0 b.J0 b.M0 b.K0 b.N0 b.O0 b.B0
@[reducible] def Psh.ap{α:Type}(p:Psh)(f:Int->Int->Int->Int->List Int->List Int->List Bool->List Nat->Bool->α):α:=f p.press.1 p.press.2 p.kind p.car p.cars p.times p.blocks p.loads p.bad
@[reducible] def Outputs.ap{α:Type}(o:Outputs)(f:Int->Int->Int->Int->Bool->Bool->Int->List aI->α):α:=f o.I6 o.H6 o.O5 o.H4 o.K6 o.N0 o.G6 o.B0
structure SitOK(b:Bldg)(s:Sit):Prop where
 pm:PM b s.m
 rll:s.rl.length=b.B0.length
 rl:∀r∈s.rl,RelOK b r
 rgl:s.rg.length=b.B0.length
 rg:∀r∈s.rg,RigOK b.C0 r
structure PshOK(b:Bldg)(p:Psh):Prop where
 press:MM b p.press=true
 pu:KO p.press
 kind:0<=p.kind/\p.kind<=8
 car:0<=p.car/\p.car<(b.B0.length:Int)
 none:p.kind=0->p.car=0
 cl:p.cars.length=b.B0.length
 cv:∀c∈p.cars,C2 b.C0 c
 tl:p.times.length=b.B0.length
 bl:p.blocks.length=b.B0.length
 ll:p.loads.length=b.B0.length
section
variable{b:aB}(hw:BW b)
include hw
omit hw in
theorem Agy{β:Type}{l:List α}(d:α)(f:β->α->Option ((Bool×Unit)×(β×Unit))){c:β}(hl:l.length<=1000)(h:∀x∈l,f c x=Z ((I,()),(c,()))){step:(List α×Unit×Int×Int×Unit)×(β×Unit)->Option (Sum ((List α×Unit×Int×Int×Unit)×(β×Unit))<|(Unit×(β×Unit))⊕((Int×Unit)×(β×Unit)))}(a:∀x,step x=bif decide (x.1.2.2.2.1<x.1.2.2.1)then(bif aD x.1.2.2.2.1 x.1.1.length then Option.bind (f x.2.1<|x.1.1.getD x.1.2.2.2.1.toNat d) λy=>bif y.1.1 then Z (.inr<|.inr ((x.1.2.2.2.1,()),(y.2.1,())))else Z (.inl ((x.1.1,(),x.1.2.2.1,aC.wrap<|x.1.2.2.2.1+1,()),(y.2.1,())))else none)else Z (.inr<|.inl ((),(x.2.1,())))):iter step Db ((l,(),(l.length:Int),(0:Int),()),(c,()))=Z (.inl ((),(c,()))):=by refine aY<|aH (λk z=>∃i:Nat,z=((l,(),(l.length:Int),(i:Int),()),(c,()))/\i+k=l.length) (λk z j=>?_) l.length ⟨0,rfl,m_ _⟩ ω;obtain⟨i,rfl,w⟩:=j;rw[a];dsimp only;refine V (λq=>?_) λ_=>C rfl;have q:=j_ q;have p:=Cn (n:=i) ω;exact J (Ac ω q)<|S (h _<|AE d ω)<|aA rfl<|C ⟨k-1,ω,i+1,by rw[<-p],ω⟩
theorem Avb{l:List aT}(hl:l.length=b.B0.length)(h:∀r∈l,RelOK b r):AY l b.C0 b.E0 b.J0 b.M0 b.K0 b.N0 b.O0 b.B0=Z ((I,()),(b.tup,())):=Ae (Ae (Agy An0 (λc r=>Iv r.X3 r.D0 r.I0 r.D3 r.G1 r.N5 r.N2 r.B2 r.S0 c.1 c.2.1 c.2.2.1 c.2.2.2.1 c.2.2.2.2.1 c.2.2.2.2.2.1 c.2.2.2.2.2.2.1 c.2.2.2.2.2.2.2.1) (c:=b.tup) (by have:=Ag hw.code;omega) (λ_ a=>Ae (UE hw.small hw.code<|h _ a) rfl) λ_=>rfl) rfl) rfl
theorem Avf{l:List Rig}(hl:l.length=b.B0.length)(h:∀r∈l,RigOK b.C0 r):Bh l b.C0 b.E0 b.J0 b.M0 b.K0 b.N0 b.O0 b.B0=Z ((I,()),(b.tup,())):=Ae (Ae (Agy QR (λc r=>Iw r.D0 r.B3 r.M5 r.G1 r.B6 r.G4 c.1 c.2.1 c.2.2.1 c.2.2.2.1 c.2.2.2.2.1 c.2.2.2.2.2.1 c.2.2.2.2.2.2.1 c.2.2.2.2.2.2.2.1) (by have:=Ag hw.code;omega) (λ_ a=>Ae (Xc ⟨hw.small.lo,hw.small.hi⟩<|h _ a) rfl) λ_=>rfl) rfl) rfl
theorem Bj0{l:List Int}(hl:l.length=b.B0.length)(h:∀c∈l,C2 b.C0 c):Bw l b.C0 b.E0 b.J0 b.M0 b.K0 b.N0 b.O0 b.B0=Z ((I,()),(b.tup,())):=Ae (Ae (Agy 0 (λc r=>Fw r c.1 c.2.1 c.2.2.1 c.2.2.2.1 c.2.2.2.2.1 c.2.2.2.2.2.1 c.2.2.2.2.2.2.1 c.2.2.2.2.2.2.2.1) (by have:=Ag hw.code;omega) (λx a=>by have lo:=hw.small.lo;have hi:=hw.small.hi;show Fw x b.C0 b.E0 b.J0 b.M0 b.K0 b.N0 b.O0 b.B0=_;unfold Fw;rw[show aS _ _=aK b.C0 by show min _ 32=_;omega,b_ ω,bne,QZ.2<|h _ a];rfl) λ_=>rfl) rfl) rfl
theorem Bki{l:List Int}(hl:l.length=b.B0.length)(h:∀f∈l,0<=f/\f<b.C0):BZ l b.C0 b.E0 b.J0 b.M0 b.K0 b.N0 b.O0 b.B0=Z ((I,()),(b.tup,())):=
 Ae (Ae (Agy 0 (λc r=>Ge r c.1 c.2.1 c.2.2.1 c.2.2.2.1 c.2.2.2.2.1 c.2.2.2.2.2.1 c.2.2.2.2.2.2.1 c.2.2.2.2.2.2.2.1) (by have:=Ag hw.code;omega) (λx a=>by
  have:=h _ a
  show Ge x b.C0 b.E0 b.J0 b.M0 b.K0 b.N0 b.O0 b.B0=_;unfold Ge;rw[d_ ω,d_ ω];rfl) λ_=>rfl) rfl) rfl
theorem Akm{s:Sit}(h:SitOK b s):s.ap (b.ap RS)=Z ((H,()),()):=by
 have l1:=h.rll;have l2:=h.rgl;have k:s.ap (b.ap JO)=Z ((H,()),()):=by
  have j:(b.code !=0)=I:=by rw[hw.code];rfl
  have d:((s.rl.length:Int) !=(b.B0.length:Int))=I:=by rw[l1];exact P_ _
  have a:((s.rg.length:Int) !=(b.B0.length:Int))=I:=by rw[l2];exact P_ _
  refine Ae (Ap ..) ?_;rw[j,d,a];exact Ae (Ae (Avb hw l1 h.rl)<|Ae (Avf hw l2 h.rg) rfl) rfl
 exact Ae (Ae (h.pm.isM_eq hw)<|Ae k rfl) rfl
theorem Ar0{p:Psh}(h:PshOK b p):p.ap (b.ap VX)=Z ((H,()),()):=by
 have j:=h.kind;have hc:=h.car;refine aY ?_;have a:∀{n:Nat},n=b.B0.length->((n:Int) !=(b.B0.length:Int))=I:=λe=>by rw[e];exact P_ _
 have hp:(Dt p.press<|Di b).1=0/\(Dt p.press<|Di b).2=0:=by have h1:=h.press;unfold MM isZ at h1;simpa using h1
 refine aA (a h.cl)<|aA (a h.tl)<|aA (a h.bl)<|aA (a h.ll)<|S (EM hw.small hw.code)<|S (HL p.press _)<|aA ?_ ?_
 .rw[hp.1,hp.2];rfl
 refine U (Q:=λy=>y=(((),(),I,()),(b.tup,Qt p,()))) (aA (d_ ω)<|aA (d_ ω)<|aA (d_ ω)<|aA (d_ ω) (V (λq=>C ?_) λ_=>C rfl)) λy d=>?_
 .have e:(p.car !=0)=I:=by rw[h.none<|eq_of_beq q];rfl
  rw[e];rfl
 subst d;exact aA rfl<|S (Bj0 hw h.cl h.cv)<|C rfl
theorem Acu(h:RelOK b r):W (NM r.X3 r.D0 r.I0 r.D3 r.G1 r.N5 r.N2 r.B2 r.S0) λy=>C2 b.C0 y.2.1.1:=by
 have a:=h.fl;have hi:=hw.small.hi;obtain⟨n,p⟩:=a6_ a.1;obtain⟨m,hm⟩:=a6_ (ω:0<=b.C0);have hC:C2 b.C0<|aJ aO<|1*(2^(aS (aK r.D0)<|IntKind.bits aO)):=by
  rw[p,hm]at a|-;have h1:n<m:=ω;have j:m<9:=ω;have k:∀m:Nat,m<9->∀n:Nat,n<m->0<=aO.wrap (1*(2^(aS (aK n)<|IntKind.bits aO)))/\(aJ aO<|1*(2^(aS (aK n)<|IntKind.bits aO))).toNat<2^((m:Int)).toNat:=by decide+kernel
  exact k m j n h1
 refine U (Q:=λy=>y.2.1.2.1=r.D0/\C2 b.C0 y.2.2.2.1.1) (V (λ_=>S (VG ..)<|C ⟨rfl,C2.zero⟩) λ_=>C ⟨rfl,C2.zero⟩) λy d=>?_;refine V (λ_=>?_) λ_=>C d.2;rw[d.1];exact J (b_ a.1)<|C hC
theorem Akl{s:Sit}(h:SitOK b s){p:Psh}(hp:PshOK b p):W (p.ap<|s.ap<|b.ap RR) λy=>∃x:Inp,y=(((),0,()),(x.tup,()))/\InS b x:=by
 have E:=Ag hw.code;have l1:=h.rll;have l2:=h.rgl;refine S (Akm hw h)<|aA rfl<|S (Ar0 hw hp)<|aA rfl ?_;refine U (Q:=λy=>∃(xs:List CarInput) (w:Unit×Unit×Unit),y=(w,((0,0,0,0,[],()),(p.press.1,p.press.2,p.kind,p.car,xs,()),()))/\xs.length=b.B0.length/\∀c∈xs,InC b c) ?_ λy A=>?_
 .unfold Pc;refine aH (λk z=>∃(i:Nat) (xs:List CarInput),z=(((),(),(),(),(b.B0.length:Int),(i:Int),()),(Ct s,Qt p,(0,0,0,0,[],()),(p.press.1,p.press.2,p.kind,p.car,xs,()),()))/\i+k=b.B0.length/\xs.length=i/\∀c∈xs,InC b c) (λk z B=>?_) b.B0.length ⟨0,[],rfl,m_ _,rfl,λc hc=>by cases hc⟩ ω;obtain⟨i,xs,rfl,L,hx,d⟩:=B;show W (p.ap (s.ap<|Vc b.B0.length i) 0 0 0 0 [] p.press.1 p.press.2 p.kind p.car xs) _;refine V (λq=>?_) λq=>C ⟨xs,_,rfl,?_,d⟩
  .have q:=j_ q;have D:=Cn (n:=i) ω;have a:∀{n:Nat},n=b.B0.length->aD _ n=H:=λe=>by rw[e];exact Ac ω q
   have F:=h.rl _<|AE An0 (ω:i<s.rl.length);have j:=h.rg _<|AE QR (ω:i<s.rg.length);have hc:=hp.cv _<|AE 0 (show i<p.cars.length by have:=hp.cl;omega);refine J (a l1) (U (Acu hw F) λN h1=>J (a l2)<|J (a hp.bl)<|S rfl<|J (a hp.cl)<|J (a hp.ll)<|J (Am (by show xs.length+1<=_;omega))<|C ⟨k-1,ω,i+1,_,by first|(rfl)|rw[<-D],ω,by rw[e_];show xs.length+1=_;omega,λc hm=>?_⟩);rcases n_.1 hm with hm|hm
   .exact d c hm
   .rw[E_.1 hm];refine⟨h1,hc,j.f,?_⟩;rcases j.dr with⟨e,_⟩|⟨e|e,_⟩
    .exact show 0<=(s.rg.getD i QR).G1/\(s.rg.getD i QR).G1<=2 by omega
    .exact show 0<=(s.rg.getD i QR).G1/\(s.rg.getD i QR).G1<=2 by omega
    .exact show 0<=(s.rg.getD i QR).G1/\(s.rg.getD i QR).G1<=2 by omega
  .have q:=w_ q;omega
 .obtain⟨xs,w,rfl,hx,d⟩:=A;exact C ⟨⟨p.press,p.kind,p.car,xs⟩,rfl,hp.press,hp.pu,hp.kind,hp.car,hp.none,hx,d⟩
end
def Bii{b:aB}:∀{l:List aE}(n:Img),(∀r∈l,Vs b r)->(Aw n l).F0=n.F0/\(Aw n l).H0=n.H0
 |[],_,_=>⟨rfl,rfl⟩
 |r::l,n,h=>by obtain⟨d,a⟩:=Bii (AA n r) λr j=>h r<|L_ _ j;obtain⟨i,_,rfl⟩:=h r<|H_ ..;exact⟨d,a⟩
structure TickF(b:Bldg)(m:Mch)(x:Inp)(g:Bool)(m':Mch)(o:Outputs)(l1 l2:List Record)(u:Mch)(vs:List View)(X:Rnd):Prop where
 fl:∀r∈l1,Vs b r
 op:(g=false/\l2=[])\/(g=true/\∃(i:Nat) (cm:List Bool) (fr:Bool),x.car=(i:Int)/\i<b.B0.length/\cm.length=b.B0.length/\l2=Sf b (Aw m.G0 l1) x.kind i cm fr)
 pu:PM b u
 iu:u.G0=Aw (Aw m.G0 l1) l2
 va:VA b u.G0 g vs
 hX:X=QY b u.G0 u.K2 vs u.F4 x.press g
 rg:Rg b u.G0 X
 img:m'.G0=X.img
 pm:PM b m'
 oc:o.B0.length=b.B0.length
 cars:∀i,i<b.B0.length->∃c d,Aq4 X i c d/\FinO b m'.G0 i d (o.B0.getD i Bi)
 lu:o.I6=(ofC m'.G0.A0 (0,0)).1
 ld:o.H6=(ofC m'.G0.A0 (0,0)).2
 bad:o.K6=!g
 served:(o.O5,o.H4)=Th X.recs (0,0)
 full:o.N0=!isZ X.ref
 st:0<=o.G6/\o.G6<=65535
 free:g=true->∃(i:Nat) (cm:List Bool) (fr:Bool),i<b.B0.length/\l2=Sf b (Aw m.G0 l1) x.kind i cm fr/\Er (Aw m.G0 l1).F0 (Aw m.G0 l1).L0 (Aw m.G0 l1).H0 (Aw m.G0 l1).A0=some ((fr,()),())/\x.car=(i:Int)/\cm.length=b.B0.length/\∀j,j<b.B0.length->cm.getD j false=true->(Ed (phA m.G0 j)=true/\(m'.J1.getD j Fj).R1=true)\/(Abx (phA m.G0 j)=true/\(x.cars.getD j UA).T2=true/\(x.cars.getD j UA).Y1=2)
def Bps(m:Img)(kind:Int)(i:Nat)(a fr:Bool):0<=(Sg m kind i a fr).2/\(Sg m kind i a fr).2<=65535:=by
 have ite:∀(c:Bool) {x y:List aE×Int},(0<=x.2/\x.2<=65535)->(0<=y.2/\y.2<=65535)->0<=(bif c then x else y).2/\(bif c then x else y).2<=65535:=λc _ _ h1 d=>by
  cases c
  .exact d
  .exact h1
 have k:∀(l:List aE) {n:Int},0<=n/\n<=65535->0<=((l,n):List aE×Int).2/\((l,n):List aE×Int).2<=65535:=λ_ _ h=>h;exact ite _ (k _ τ)<|ite _ (ite _ (k _ τ)<|k _ τ)<|ite _ (k _ τ)<|ite _ (k _ τ)<|ite _ (k _ τ)<|ite _ (k _ τ)<|ite _ (ite _ (k _ τ)<|k _ τ)<|ite _ (ite _ (k _ τ)<|k _ τ)<|ite _ (ite _ (k _ τ)<|k _ τ)<|ite _ (k _ τ)<|k _ τ
def TickF.of(hw:BW b){A t2 t3 t4 N:Pk}{l1 l2:List aE}{vs:List aL}(P:g=H->x.cars.length=b.B0.length)(f1:FixR (pk0 b m bud) A)(y:∀r∈l1,Vs b r)(o2:t2.out={ A.out with B0:=t2.out.B0 }/\(g=H->∀j,j<b.B0.length->Ed (phA A.m.G0 j)=H->DC t2 j))(a2:Al b A t2 l1)(w:(g=I/\t3=t2/\l2=[])\/(g=H/\Opr b x g t2 t3 l2))(a3:Al b t2 t3 l2)(p:Dsp b x g t3 t4 vs)(a4:Al b t3 t4 (PH b x g t3 vs).recs)(d:Fin b g t4 N):TickF b m x g N.m N.out l1 l2 t3.m vs<|PH b x g t3 vs:=by
 have i1:A.m.G0=m.G0:=f1.im;have i2:t2.m.G0=Aw m.G0 l1:=by rw[a2.im,i1]
 have out1:t2.out={ (pk0 b m bud).out with B0:=t2.out.B0 }:=by rw[o2.1,f1.out]
 have a:∃s,t3.out={ t2.out with G6:=s }/\0<=s/\s<=65535:=by
  rcases w with⟨_,rfl,_⟩|⟨_,h⟩
  .refine⟨t3.out.G6,rfl,?_⟩;rw[out1];exact show _<=0/\0<=65535 by decide
  .obtain⟨_,_,_,_,_,_,_,e,_⟩:=h.how;exact⟨_,e,Bps ..⟩
 obtain⟨s,a,E⟩:=a;refine⟨y,?_,a3.m,by rw[a3.im,i2],p.va,rfl,p.rg,by rw[d.im,a4.im,p.rg.img],d.m,d.oc,λi hi=>?_,?_,?_,?_,?_,?_,?_,λF=>?_⟩
 .rcases w with⟨h1,_,B⟩|⟨h1,h⟩
  .exact .inl ⟨h1,B⟩
  .obtain⟨i,cm,fr,B,Q,L,D,_⟩:=h.how;exact .inr ⟨h1,i,cm,fr,B,Q,L,by rw[<-i2];exact D⟩
 .refine⟨_,_,p.cars i hi,?_⟩;rw[d.im];exact d.cars i hi
 .rw[d.out,d.im]
 .rw[d.out,d.im]
 .rw[d.out]
 .rw[d.out];rw[p.out,a,out1];rfl
 .rw[d.out];rw[p.out]
 .rw[d.out];rw[p.out,a];exact E
 .rcases w with⟨h1,_⟩|⟨_,h⟩
  .rw[F]at h1;cases h1
  .obtain⟨i,cm,fr,B,Q,L,D,_,h7,R⟩:=h.how;rw[i2]at D R;refine⟨i,cm,fr,Q,D,R,B,L,λj Y hc=>?_⟩;obtain⟨_,e,h0,rfl,_,hp⟩:=Bao hw a2.m<|P F;rw[h7]at e;have e:=(Prod.mk.inj (Prod.mk.inj<|r_ e).1).1;have O:phA t2.m.G0 j=phA m.G0 j:=by rw[i2];unfold phA;rw[(Bii m.G0 y).1]
   have hq:=hp j Y (by rw[<-e];exact hc);unfold Vl at hq;rw[O]at hq;rcases hq with⟨q1,q2⟩|q
   .refine .inl ⟨q1,?_⟩
    have:=o2.2 F j Y (by rw[i1];exact q1) q2
    rw[d.con,a4.con,a3.con];exact this
   .exact .inr q
def RunR.fact(hw:BW b)(p:g=H->x.cars.length=b.B0.length){a:Pk}(h:RunR b x g (pk0 b m bud) a)(h0:a.e=0):∃l1 l2 u vs X,TickF b m x g a.m a.out l1 l2 u vs X:=by
 have no:∀{u v:Pk}{l:List aE},De b u v l->v.e=0->False:=λd e=>by have:=d.e;omega
 obtain⟨E,t2,l1,F,r1,B,j,A,o2,⟨d,rfl⟩|⟨a2,t3,l2,q,h⟩⟩:=h
 .exact(no d h0).elim
 rcases h with⟨d,rfl⟩|⟨a3,t4,vs,w,h⟩
 .exact(no d h0).elim
 rcases h with⟨D,rfl⟩|⟨_,y⟩
 .omega
 rcases w.res with a4|d
 .exact⟨l1,l2,t3.m,vs,_,.of hw p B j o2 a2 q a3 w a4 y⟩
 .have:=y.e
  exact(no d ω).elim
def Sit.none:Sit:=⟨Mch.none,[],[]⟩
@[reducible] def coT(z:aI):=(z.T1,z.M1,z.J2,z.Y2,z.G2,z.C6,z.R2,z.Y3,z.D6,())
section
variable{b:aB}(hw:BW b)
theorem SitOK.setL{s:Sit}(h:SitOK b s)(a:RelOK b r)(i:Nat):SitOK b ⟨s.m,s.rl.set i r,s.rg⟩:=⟨h.pm,by rw[z_];exact h.rll,λx hx=>(bK hx).elim (h.rl x) λe=>by rw[e];exact a,h.rgl,h.rg⟩
theorem SitOK.setG{s:Sit}(h:SitOK b s){r:Rig}(a:RigOK b.C0 r)(i:Nat):SitOK b ⟨s.m,s.rl,s.rg.set i r⟩:=⟨h.pm,h.rll,h.rl,by rw[z_];exact h.rgl,λx hx=>(bK hx).elim (h.rg x) λe=>by rw[e];exact a⟩
include hw
theorem RdX.made(h:InS b x):RdX b<|inV b x:=Bs4 hw ⟨x,⟨h.inV hw.small,h.pu⟩,rfl,rfl⟩
theorem RdX.cut(h:InS b x):RdX b<|(inV b x).extract 0<|(inV b x).size-1:=by
 have d:=Ag hw.code;have p:=Yh b x;have hl:=h.len;have j:((inV b x).extract 0<|(inV b x).size-1).size=13+19*b.B0.length:=by rw[ByteArray.size_extract];omega
 have a:Ek b ((inV b x).extract 0<|(inV b x).size-1)≠0:=λe=>by
  have:=Axs e
  omega
 exact⟨Inp.none,Uo hw.code ω a,λ_=>rfl,λe=>absurd e a⟩
theorem Akn{s:Sit}(h:SitOK b s)(hi:i<b.B0.length)(fr j:Int):W (s.ap<|Kx (i:Int) fr j) λy=>∃t,y.2.1=Ct t/\SitOK b t/\t.m=s.m:=by have l1:=h.rll;have l2:=h.rgl;have a:aD i s.rl.length=H:=Ac ω ω;have i2:aD i s.rg.length=H:=Ac ω ω;have p:=h.rl _<|AE An0 (ω:i<s.rl.length);have q:=h.rg _<|AE QR (ω:i<s.rg.length);refine V (λ_=>J a<|S rfl<|J i2<|C ⟨⟨s.m,s.rl,s.rg.set i _⟩,rfl,h.setG (RigOK.new p.fl) i,rfl⟩) λ_=>?_;refine U (Q:=λy=>∃c:Bool,y=(((),(i:Int),fr,j,c,()),(Ct s,()))) (V (λ_=>V (λ_=>C ⟨_,rfl⟩) λ_=>C ⟨_,rfl⟩) λ_=>C ⟨_,rfl⟩) λy d=>?_;obtain⟨c,rfl⟩:=d;refine V (λ_=>J i2<|S rfl<|J a<|C ⟨⟨s.m,s.rl.set i _,s.rg⟩,rfl,h.setL (RelOK.new hw.small hw.code q.f) i,rfl⟩) λ_=>?_;refine U (Q:=λy=>∃c:Bool,y=(((),(i:Int),c,()),(Ct s,()))) (V (λ_=>C ⟨_,rfl⟩) λ_=>C ⟨_,rfl⟩) λy d=>?_;obtain⟨c,rfl⟩:=d;exact V (λ_=>J a<|S rfl<|J a<|C ⟨⟨s.m,s.rl.set i _,s.rg⟩,rfl,h.setL (RelOK.new hw.small hw.code p.fl) i,rfl⟩) λ_=>C ⟨s,rfl,h,rfl⟩
theorem Bc0{s t:Sit}(h:SitOK b s)(ht:SitOK b t){p:Psh}(hp:PshOK b p)(ho:o.B0.length=b.B0.length):W (RW (((),(),(),(),(),(),(),o.B0,(o.B0.length:Int),(0:Int),()),(b.tup,Ct s,Qt p,Ct Sit.none,outP noOut,Ct t,outP o,()))) λy=>∃u,y.2.2.2.1=Ct u/\y.2.2.2.2.1=outP o/\SitOK b u/\u.m=t.m:=by
 have h4:=Ag hw.code;have lo:=hw.small.lo;have hi:=hw.small.hi;have h0:=h.pm.jst.img.lp;refine aH (λk z=>∃(i:Nat) (u:Sit),z=(((),(),(),(),(),(),(),o.B0,(o.B0.length:Int),(i:Int),()),(b.tup,Ct s,Qt p,Ct Sit.none,outP noOut,Ct u,outP o,()))/\i+k=o.B0.length/\SitOK b u/\u.m=t.m) (λk z hz=>?_) o.B0.length ⟨0,t,rfl,m_ _,ht,rfl⟩ ω;obtain⟨i,u,rfl,hk,P,hm⟩:=hz;show W (o.ap<|u.ap<|noOut.ap<|Sit.none.ap<|p.ap<|s.ap<|b.ap<|YX o.B0 (o.B0.length:Int) i) _;refine V (λq=>?_) λq=>C ⟨u,rfl,rfl,P,hm⟩;have q:=j_ q;have wr:=Cn (n:=i) ω;have F:i<b.B0.length:=ω;have d:∀{n:Nat},n=b.B0.length->aD i n=H:=λe=>by exact Ac ω ω
 refine J (Ac ω q) (U (Q:=λy=>∃(v:Sit),y=(((),(),(),(),(),(),(),(i:Int),(),o.B0,(o.B0.length:Int),(i:Int),()),(b.tup,Ct s,Qt p,Ct Sit.none,outP noOut,Ct v,outP o,coT<|o.B0.getD i Bi,()))/\SitOK b v/\v.m=t.m) ?_ λy hy=>?_)
 .refine J (d h0) (V (λ_=>U (Akn hw P F _ _) λy1 h1=>?_) λ_=>C ⟨u,rfl,P,hm⟩);obtain⟨v,R,e2,D⟩:=h1;refine C ⟨v,?_,e2,D.trans hm⟩;rw[R];rfl
 obtain⟨v,rfl,E,A⟩:=hy;have l1:=E.rll;have l2:=E.rgl;have hr:=E.rl _<|AE An0 (ω:i<v.rl.length);have hg:=E.rg _<|AE QR (ω:i<v.rg.length);have R:aC.wrap (i+1)=((i+1:Nat):Int):=by first|exact wr|(rfl)
 have kl:=Am7 hw.small hw.code F hr;have kg:=λY L=>Atx ⟨lo,hi⟩ hg Y L;have B:∀{w:Sit},SitOK b w->w.m=t.m->∃m':Nat,k=m'+1/\∃(j:Nat) (u:Sit),(((),(),(),(),(),(),(),o.B0,(o.B0.length:Int),aC.wrap _,()),(b.tup,Ct s,Qt p,Ct Sit.none,outP noOut,Ct w,outP o,()))=(((),(),(),(),(),(),(),o.B0,(o.B0.length:Int),(j:Int),()),(b.tup,Ct s,Qt p,Ct Sit.none,outP noOut,Ct u,outP o,()))/\j+m'=o.B0.length/\SitOK b u/\u.m=t.m:=λ{w} h1 h2=>⟨k-1,ω,i+1,w,by rw[R],ω,h1,h2⟩
 refine V (λ_=>?_) λ_=>V (λ_=>?_) λ_=>V (λ_=>?_) λ_=>V (λ_=>?_) λ_=>C<|B E A
 .refine J (d l1)<|J (d hp.cl) (U (kl _ _ _) λN a=>J (d l1) ?_);obtain⟨O,D,a⟩:=a;rw[D];exact C<|B (E.setL a i) A
 .refine J (d l1)<|J (d hp.cl) (U (kl _ _ _) λN a=>J (d l1) ?_);obtain⟨O,D,a⟩:=a;rw[D];exact C<|B (E.setL a i) A
 .refine J (d l2)<|J (d hp.tl) (U (kg _ _) λN a=>J (d l2) ?_);obtain⟨O,D,a⟩:=a;rw[D];exact C<|B (E.setG a i) A
 .refine J (d l2)<|J (d hp.tl) (U (kg _ _) λN a=>J (d l2) ?_);obtain⟨O,D,a⟩:=a;rw[D];exact C<|B (E.setG a i) A
end
def Jst.next(hb:b.small){s:Sto}{m:Img}(a:Jst b s m){r:aE}(j:Ar b r=H)(d:Jf b m r=I):∃s',Jst b s'<|AA m r:=by
 have h0:(0:Int)<=600:=by decide
 by_cases h:600<NI b s m r
 .rcases ZE hb a j d (bud:=NI b s m r) ω with⟨_,s',_,h⟩|⟨h,_⟩
  .exact⟨s',h⟩
  .omega
 .rcases ZE hb a j d h0 with⟨_,s',_,h⟩|⟨h,_⟩
  .exact⟨s',h⟩
  .omega
def Jst.part{b:aB}(hb:b.small):∀{l:List aE}{s:Sto}{m:Img},Jst b s m->goodL b m l->∀k,∃s',Jst b s'<|Aw m<|l.take k
 |[],s,m,a,_,k=>⟨s,by rw[List.take_nil];exact a⟩
 |_::_,s,_,a,_,0=>⟨s,a⟩
 |r::l,_,_,a,⟨h1,d,j⟩,k+1=>by obtain⟨s',h⟩:=a.next hb h1 d;exact Jst.part hb h j k
def RunR.crash(hw:BW b){t j:Pk}(h:RunR b x g t j)(A:j.e=8):j.m.W0.ok b.J0/\∃s,Jst b s<|CW b j.m.W0:=by
 have p:∀{u v:Pk}{l:List aE},De b u v l->PM b u.m->goodL b u.m.G0 l->v.m.W0.ok b.J0/\∃s,Jst b s<|CW b v.m.W0:=λd hm E=>by obtain⟨k,_,L⟩:=d.rp;rw[L];exact⟨d.ok,hm.jst.part hw.small E k⟩
 obtain⟨Q,t2,l1,P,r1,R,q,B,o2,⟨d,rfl⟩|⟨a2,t3,l2,w,h⟩⟩:=h
 .obtain⟨F,v3⟩:=Auu hw.code q;exact p d P<|F.good _ v3
 rcases h with⟨d,rfl⟩|⟨a3,t4,vs,y,h⟩
 .refine p d a2.m ?_;rcases w with⟨_,_,rfl⟩|⟨_,h⟩
  .trivial
  .obtain⟨i,cm,fr,_,hi,_,rfl,_⟩:=h.how;obtain⟨k1,D⟩:=Abs hw.code (Ark t2.m.G0 x.kind hi _ fr).1;obtain⟨N,v2⟩:=Abs hw.code<|Aiv _ _ b.B0.length<|q_ _;exact(k1.good _ D).app<|N.good _ v2
 rcases h with⟨_,rfl⟩|⟨h0,O⟩
 .rcases y.res with a|d
  .rw[a.e]at A;cases A
  .exact p d a3.m y.rg.good
 .have:=O.e
  omega
section
variable{b:aB}(hw:BW b)
include hw
theorem Bfj{s:Sto}{m:Img}(h:Jst b s m):PM b<|Agu b m s:=by
 have hcode:=hw.code;have d:∀{α:Type}{P:α->Prop}{a:α}{n:Nat},P a->∀x∈aF n a,P x:=λh x hx=>by rw[(List.mem_replicate.1 hx).2];exact h
 refine⟨h,A_,d ⟨Arc<|Ad5 hcode,b8_ 0,show _<4294967296 by decide⟩,A_,λi hi=>?_,A_,d<|KM hw.small,A_,d τ,A_,a3_ _,?_,i00,i00,i00⟩
 .show BelOK b i ((aF b.B0.length WW).getD i KN);rw[k_,bP,if_pos hi];exact BelOK.new hw
 .intro x hx;obtain⟨e,_,rfl⟩:=b3_.1 hx;have j:0<=(GP b e.S0.toNat).D1/\(GP b e.S0.toNat).D1<=1000000:=by
   by_cases q:e.S0.toNat<b.B0.length
   .have h1:=Pp hcode<|AE Cm q;unfold Cg at h1;simp only[U_,a_,Ah]at h1;have p:(GP b e.S0.toNat)=b.B0.getD e.S0.toNat Cm:=rfl;rw[p];omega
   .unfold GP;rw[k_,bO ω];exact show _<=0/\0<=1000000 by decide
  unfold Tl;cases decide (0<=e.S0)
  .exact i00
  .exact j
theorem Bed(hm:PM b m)(p:RdX b s)(hb:0<=bud/\bud<9223372036854775808):∃e m' o,Mv b.C0 b.E0 b.J0 b.M0 b.K0 b.N0 b.O0 b.B0 m.G0.F0 m.G0.L0 m.G0.H0 m.G0.A0 m.W0.h0 m.W0.h1 m.W0.sel m.J1 m.Y0 m.B0 m.E3 m.K2 m.F4 m.B4 m.I3 m.V2 s bud=Z (((),(),e,()),(m'.tup,outP o,()))/\
  ((e=0/\PM b m'/\∃x g l1 l2 u vs X,TickF b m x g m' o l1 l2 u vs X)\/(e=8/\o=noOut/\m'.W0.ok b.J0/\∃s',Jst b s'<|CW b m'.W0)):=by
 obtain⟨y,h,e,m',o,rfl,x,E,hx,B,a,d,h0,h1⟩:=Bqm hw hm p hb;refine⟨e,m',o,?_,?_⟩
 .unfold Mv;refine Ae (hm.isM_eq hw) ?_;rw[d_ (by omega:¬bud<0)];exact Ae (Bpt<|hm.fit hw)<|Ae h rfl
 .rcases a.cases hw ⟨rfl,hb.1,hb.2⟩with⟨k1,A,_⟩|⟨k1,_⟩
  .have j:e=0:=d.trans k1;obtain⟨l1,l2,u,vs,X,q⟩:=a.fact hw (λw=>hx.elim (λh=>h.2.len) λh=>absurd (eq_of_beq w) h.1) k1;obtain⟨rfl,rfl⟩:=h0 j;exact .inl ⟨j,A,x,_,l1,l2,u,vs,X,q⟩
  .have D:e=8:=d.trans k1;obtain⟨rfl,rfl⟩:=h1 ω;exact .inr ⟨D,rfl,a.crash hw k1⟩
structure SitCr(b:Bldg)(s:Sit):Prop where
 ok:s.m.W0.ok b.J0
 jst:∃s',Jst b s' (CW b s.m.W0)
 rll:s.rl.length=b.B0.length
 rl:∀r∈s.rl,RelOK b r
 rgl:s.rg.length=b.B0.length
 rg:∀r∈s.rg,RigOK b.C0 r
theorem Ana{s:Sit}(h:SitOK b s){p:Psh}(hp:PshOK b p)(hb:0<=bud/\bud<9223372036854775808):W (p.ap (s.ap<|b.ap QE) bud) λy=>∃e t o,y=(((),(),e,()),(Ct t,outP o,()))/\((e=0/\SitOK b t/\∃x g m' l1 l2 u vs X,TickF b s.m x g m' o l1 l2 u vs X)\/(e=8/\o=noOut/\SitCr b t)):=by
 have O:=Ag hw.code;have l1:=h.rll;have l2:=h.rgl;obtain⟨_,hin,x,rfl,hx⟩:=Akl hw h hp;refine S hin<|aA rfl<|aA (d_ (by omega:¬bud<0))<|S (Atm hw.small hw.code hx) ?_;refine U (Q:=λy=>∃q,y=((bud,(),(),(),(),(),q,()),(b.tup,Ct s,Qt p,Ct Sit.none,outP noOut,()))/\RdX b q) ?_ λy d=>?_
 .refine V (λ_=>?_) λ_=>C ⟨_,rfl,RdX.made hw hx⟩;have R:(inV b x).size=14+19*b.B0.length:=by rw[Yh,hx.len]
  have P:aC.wrap ((((inV b x).size:Nat):Int)-1)=(((inV b x).size-1:Nat):Int):=by rw[Aa ω ω];omega
  rw[P];refine J ?_<|C ⟨_,rfl,?_⟩
  .rw[ b_ (ω:(((inV b x).size-1:Nat):Int)<=(((inV b x).size:Nat):Int))];rfl
  .exact RdX.cut hw hx
 obtain⟨q,rfl,hq⟩:=d;obtain⟨e,m',o,D,L⟩:=Bed hw h.pm hq hb;refine S (Ca s.rl ω)<|S (Ca s.rg ω)<|S D ?_;rcases L with⟨rfl,j,x',g,r1,A,u,vs,X,w⟩|⟨rfl,rfl,a,E⟩
 .refine aA rfl (U (Bc0 hw h (t:=⟨m',s.rl,s.rg⟩) ⟨j,l1,h.rl,l2,h.rg⟩ hp w.oc) λy d=>?_);obtain⟨v,F,N,B,Y⟩:=d;rw[F,N];exact C ⟨0,v,o,rfl,.inl ⟨rfl,B,x',g,m',r1,A,u,vs,X,w⟩⟩
 .exact J rfl<|C ⟨8,⟨m',s.rl,s.rg⟩,noOut,rfl,.inr ⟨rfl,rfl,a,E,l1,h.rl,l2,h.rg⟩⟩
theorem Ahz{s:Sit}(h:SitCr b s):W (s.ap (b.ap MC) 1048576) λy=>∃t,y=(((),0,()),(Ct t,()))/\SitOK b t:=by
 have d:=hw.room;have l1:=h.rll;have l2:=h.rgl;have j:=Bpn h.ok;obtain⟨F,p⟩:=h.jst;have a:=p.fits;have k:s.ap (b.ap JO)=Z ((H,()),()):=by
  have w:(b.code !=0)=I:=by rw[hw.code];rfl
  have D:((s.rl.length:Int) !=(b.B0.length:Int))=I:=by rw[l1];exact P_ _
  have q:((s.rg.length:Int) !=(b.B0.length:Int))=I:=by rw[l2];exact P_ _
  refine Ae (Ap ..) ?_;rw[w,D,q];exact Ae (Ae (Avb hw l1 h.rl)<|Ae (Avf hw l2 h.rg) rfl) rfl
 refine S k<|aA rfl<|S (VH hw.small hw.code s.m.W0 ω ω) ?_;rcases Auc hw.small h.ok p.img rfl a (bud:=1048576) ω with⟨_,B,A⟩|⟨E,_⟩
 .rw[B];exact S rfl<|aA rfl<|S (Ca s.rl ω)<|S (Ca s.rg ω)<|C ⟨⟨_,s.rl,s.rg⟩,rfl,Bfj hw A,l1,h.rl,l2,h.rg⟩
 .omega
end
def okS(k:Nat)(l:List ByteArray):Prop:=l.length<=k/\∀s∈l,s.size<=100
def okS.app(h:okS k l)(a:s.size<=100):okS (k+1)<|l++[s]:=⟨by rw[e_,D_];have:=h.1;omega,λx hx=>(n_.1 hx).elim (h.2 x) λe=>by rw[E_.1 e];exact a⟩
def okS.mono{n:Nat}(h:okS k l)(a:k<=n):okS n l:=⟨b7_ h.1 a,h.2⟩
def Bfp(h:0<=n):(Ym n).length<=20:=by obtain⟨u,rfl⟩:=a6_ h;exact Apy 20 u
def Ab3(h:0<=n/\n<1000000):∃s,BL n=Z ((s,()),())/\s.size<=20:=⟨_,Bj6 h,by exact Bfp h.1⟩
def Aqv(sep:List UInt8):∀{l:List<|List UInt8},(∀s∈l,s.length<=100)->(Mi sep l).length<=l.length*(100+sep.length)
 |[],_=>Q_ _
 |[a],h=>by
  have:=h a<|H_ ..
  show a.length<=_;simp only[s_,c6_];omega
 |a::c::t,h=>by have h1:=h a<|H_ ..;have j:=Aqv sep λs d=>h s<|L_ _ d;show(a++sep++Mi sep _).length<=_;rw[e_,e_];simp only[s_]at j|-;rw[a5_ _ 1];omega
def Bj8(h:okS k l)(p:k<=1000){sep:ByteArray}(a:sep.size<=10):∃s,HG l sep=Z ((s,()),()):=by
 refine⟨AB (Mi sep.data.toList (l.map (·.data.toList))),?_⟩;show Ajs _ _=_;unfold Ajs;have h1:=h.1;have d:=Aqv sep.data.toList λs a=>by obtain⟨x,hx,rfl⟩:=b3_.1 a;exact h.2 x hx
 have q:sep.data.toList.length<=10:=a;rw[a3_]at d;have j:l.length*(100+sep.data.toList.length)<=1000*110:=Nat.mul_le_mul ω ω;rw[Am ω,Am ω];rfl
@[reducible] def Wm(m:Img):=(m.F0,m.L0,m.H0,m.A0,())
def Ax8{es:List aM}(D:∀e∈es,(0<=e.D0/\e.D0<1000000)/\(0<=e.I0/\e.I0<3))(hl:es.length<=64)(h:okS 3 l):W (LC (((),(),l,es,(es.length:Int),(0:Int),()),(Wm was,outP o,()))) λy=>∃w,y=(((),(),w,()),(Wm was,outP o,()))/\okS 67 w:=by
 refine aH (λk z=>∃(i:Nat) (l:List ByteArray),z=(((),(),l,es,(es.length:Int),(i:Int),()),(Wm was,outP o,()))/\i+k=es.length/\okS (3+i) l) (λk z B=>?_) es.length ⟨0,l,rfl,m_ _,h⟩ ω;obtain⟨i,l,rfl,L,h⟩:=B;show W (o.ap<|Va l es (es.length:Int) i was.F0 was.L0 was.H0 was.A0) _;refine V (λq=>?_) λ_=>C ⟨l,rfl,h.mono ω⟩;have q:=j_ q;have A:=Cn (n:=i) ω;have hi:i<es.length:=ω;obtain⟨g1,j⟩:=D _<|AE _ hi;have F:=h.1;obtain⟨s,E,p⟩:=Ab3 g1;have a:∀{d:Int},0<=d/\d<3->(List.getD [(bJ<|Array.mk []),(bJ<|Array.mk [32,117,112]),(bJ<|Array.mk [32,100,111,119,110])] (aK d)<|bJ<|Array.mk []).size<=5:=λ{d} a=>by rcases(by omega:d=0\/d=1\/d=2)with rfl|rfl|rfl<;>decide
 have a:=a j;refine J (Ac ω q)<|S E<|J (Am ?_)<|J (Ac j.1 j.2)<|J (Am ?_)<|J (Am ?_)<|C ⟨k-1,ω,i+1,_,by first|(rfl)|rw[<-A],ω,h.app ?_⟩
 .show 7+s.size<=4611686018427387904;omega
 .rw[O_];refine b7_ (bM (bM (q_ 7) p) a) τ
 .show l.length+1<=2147483648;omega
 .rw[O_,O_];exact b7_ (bM (bM (q_ 7) p) a) τ
def Ax9{cs:List aI}(hc:∀c∈cs,0<=c.Y3/\c.Y3<1000000)(hl:cs.length<=8)(hp:cs.length<=was.F0.length)(hf:cs.length<=was.L0.length)(h:okS 67 l):W (LD (((),l,cs,(cs.length:Int),(0:Int),()),(Wm was,()))) λy=>∃a,y=((a,()),())/\okS 83 a:=by
 refine aH (λk z=>∃(i:Nat) (l:List ByteArray),z=(((),l,cs,(cs.length:Int),(i:Int),()),(Wm was,()))/\i+k=cs.length/\okS (67+2*i) l) (λk z B=>?_) cs.length ⟨0,l,rfl,m_ _,h⟩ ω;obtain⟨i,l,rfl,R,h⟩:=B;show W (Vb l cs (cs.length:Int) i was.F0 was.L0 was.H0 was.A0) _;refine V (λq=>?_) λ_=>C ⟨l,rfl,h.mono ω⟩;have q:=j_ q;have A:=Cn (n:=i) ω;have hi:i<cs.length:=ω;have g:=hc _<|AE Bi hi;have P:=h.1;have O:0<=(i:Int)/\(i:Int)<1000000:=⟨ω,ω⟩
 obtain⟨d,j,E⟩:=Ab3 O;obtain⟨sp,w,L⟩:=Ab3 g;have N:aD i was.F0.length=H:=Ac ω ω;have F:aD i was.L0.length=H:=Ac ω ω;refine J (Ac ω q) ?_;refine U (Q:=λy=>∃a,y=(((),a,(i:Int),(),cs,(cs.length:Int),(i:Int),()),(Wm was,coT<|cs.getD i Bi,()))/\okS (67+2*i+1) a) ?_ λy p=>?_
 .refine J N (V (λ_=>?_) λ_=>C ⟨l,rfl,h.mono ω⟩);refine S j<|J (Am ?_)<|J (Am ?_)<|S w<|J (Am ?_)<|J (Am ?_)<|C ⟨_,rfl,h.app ?_⟩
  .show 6+d.size<=4611686018427387904;omega
  .rw[O_];show 6+d.size+1<=4611686018427387904;omega
  .rw[O_,O_];show 6+d.size+1+sp.size<=4611686018427387904;omega
  .show l.length+1<=2147483648;omega
  .rw[O_,O_,O_];show 6+d.size+1+sp.size<=100;omega
 .obtain⟨a,rfl,h'⟩:=p;have D:=h'.1;refine J F (V (λ_=>?_) λ_=>C ⟨k-1,ω,i+1,a,by first|(rfl)|rw[<-A],ω,h'.mono ω⟩);refine U (Q:=λy=>∃s:ByteArray,y=(((),a,(i:Int),s,cs,(cs.length:Int),(i:Int),()),(Wm was,()))/\s.size<=2) (V (λ_=>C ⟨_,rfl,q_ 2⟩) λ_=>C ⟨_,rfl,q_ 2⟩) λy p=>?_;obtain⟨s,rfl,Y⟩:=p;refine S j<|J (Am ?_)<|J (Am ?_)<|J (Am ?_)<|C ⟨k-1,ω,i+1,_,by first|(rfl)|rw[<-A],ω,(h'.app ?_).mono ω⟩
  .show 5+d.size<=4611686018427387904;omega
  .rw[O_];show 5+d.size+s.size<=4611686018427387904;omega
  .show a.length+1<=2147483648;omega
  .rw[O_,O_];show 5+d.size+s.size<=100;omega
def Bfx(c:Int×Int):(Hf c).length<=64/\∀e∈Hf c,(0<=e.D0/\e.D0<1000000)/\(0<=e.I0/\e.I0<3):=by
 refine⟨?_,λe j=>?_⟩
 .have h:∀(n k:Nat),((List.range' k n).flatMap<|Me c).length<=2*n:=λn=>by
   induction n with
   |zero=>intro k;exact Q_ _
   |succ n d=>
    intro k;rw[e0_,a2_,e_]
    have:=d<|k+1
    have:=XP c k
    omega
  exact h 32 0
 .obtain⟨f,a,h⟩:=c0_.1 j;have a:=List.mem_range'_1.1 a;have k:e.D0=f/\(e.I0=1\/e.I0=2):=by
   rcases n_.1 h with h|h
   .cases hb:BP c f 1<;>rw[hb]at h
    .cases h
    .rw[E_.1 h];exact⟨rfl,.inl rfl⟩
   .cases hb:BP c f 2<;>rw[hb]at h
    .cases h
    .rw[E_.1 h];exact⟨rfl,.inr rfl⟩
  omega
def Avj(hc:∀c∈o.B0,0<=c.Y3/\c.Y3<1000000)(hl:o.B0.length<=8)(hp:o.B0.length<=was.F0.length)(D:o.B0.length<=was.L0.length)(a:0<=o.G6/\o.G6<1000000):W (o.ap<|KY was.F0 was.L0 was.H0 was.A0) λy=>∃l,y=((l,()),())/\okS 83 l:=by refine U (Q:=λy=>∃l,y=(((),(),l,()),(Wm was,outP o,()))/\okS 1 l) (V (λ_=>J rfl<|C ⟨_,rfl,q_ 1,λs j=>by rw[E_.1 j];decide⟩) λ_=>C ⟨_,rfl,Q_ _,λ_ h=>by cases h⟩) λY h1=>?_;obtain⟨l1,rfl,k1⟩:=h1;have n1:=k1.1;refine U (Q:=λy=>∃l,y=(((),(),l,()),(Wm was,outP o,()))/\okS 2 l) (V (λ_=>J (Am (ω:l1.length+1<=2147483648))<|C ⟨_,rfl,k1.app τ⟩) λ_=>C ⟨_,rfl,k1.mono τ⟩) λy2 L=>?_;obtain⟨l2,rfl,d⟩:=L;have n2:=d.1;obtain⟨s,E,s2⟩:=Ab3 a;refine U (Q:=λy=>∃l,y=(((),(),l,()),(Wm was,outP o,()))/\okS 3 l) (V (λ_=>S E<|J (Am (ω:6+s.size<=4611686018427387904))<|J (Am (ω:l2.length+1<=2147483648))<|C ⟨_,rfl,d.app (by rw[O_];show 6+s.size<=100;omega)⟩) λ_=>C ⟨_,rfl,d.mono τ⟩) λP N=>?_;obtain⟨l3,rfl,A⟩:=N;obtain⟨c1,p⟩:=Bfx _;refine S (Sb (o.O5,o.H4)) (U (Ax8 p c1 A) λy5 q=>?_);obtain⟨l5,rfl,w⟩:=q;refine U (Ax9 hc hl hp D w) λR B=>?_;obtain⟨F,rfl,O⟩:=B;exact C ⟨F,rfl,O⟩
def Bfy:∀n:Nat,n<1001->(arF BinOp.quo FloatKind.f64 (Anx FloatKind.f64 (n:Int)) 4636737291354636288).isSome=H:=by decide+kernel
structure Ply where
 s:Sit
 p:Psh
 bl:List Int
 tick:Int
 lines:List Line
@[reducible] def Ln(b:aB)(P:Ply):=(b.C0,b.E0,b.J0,b.M0,b.K0,b.N0,b.O0,b.B0,P.s.m.G0.F0,P.s.m.G0.L0,P.s.m.G0.H0,P.s.m.G0.A0,P.s.m.W0.h0,P.s.m.W0.h1,P.s.m.W0.sel,P.s.m.J1,P.s.m.Y0,P.s.m.B0,P.s.m.E3,P.s.m.K2,P.s.m.F4,P.s.m.B4,P.s.m.I3,P.s.m.V2,P.s.rl,P.s.rg,P.p.press.1,P.p.press.2,P.p.kind,P.p.car,P.p.cars,P.p.times,P.p.blocks,P.p.loads,P.p.bad,P.bl,P.tick,P.lines,())
@[reducible] def Ply.ap{α:Type}(b:aB)(P:Ply)(f:Int->Int->Int->Int->Nat->Nat->Nat->List Car->List Int->List Bool->List Bool->List aM->ByteArray->ByteArray->Int->List aQ->List aV->List aX->List aZ->List Int->List aP->Int->Int->Int->List aT->List Rig->Int->Int->Int->Int->List Int->List Int->List Bool->List Nat->Bool->List Int->Int->List Line->α):α:=f b.C0 b.E0 b.J0 b.M0 b.K0 b.N0 b.O0 b.B0 P.s.m.G0.F0 P.s.m.G0.L0 P.s.m.G0.H0 P.s.m.G0.A0 P.s.m.W0.h0 P.s.m.W0.h1 P.s.m.W0.sel P.s.m.J1 P.s.m.Y0 P.s.m.B0 P.s.m.E3 P.s.m.K2 P.s.m.F4 P.s.m.B4 P.s.m.I3 P.s.m.V2 P.s.rl P.s.rg P.p.press.1 P.p.press.2 P.p.kind P.p.car P.p.cars P.p.times P.p.blocks P.p.loads P.p.bad P.bl P.tick P.lines
structure AskOK(b:Bldg)(p:Psh):Prop where
 press:ER b p.press
 kind:0<=p.kind/\p.kind<=8
 car:0<=p.car/\p.car<(b.B0.length:Int)
 none:p.kind=0->p.car=0
 cl:p.cars.length=b.B0.length
 cv:∀c∈p.cars,C2 b.C0 c
 tl:p.times.length=b.B0.length
 ll:p.loads.length=b.B0.length
structure PlyOK(b:Bldg)(P:Ply):Prop where
 s:SitOK b P.s
 p:AskOK b P.p
 bl:P.bl.length=b.B0.length
section
variable{b:aB}(hw:BW b)
include hw
theorem Bni{P:Ply}(h:PlyOK b P)(w:FI b e=H)(hk:2<=e.R0/\e.R0<=6):W (P.ap b<|Dm e.R0 e.D0 e.I0 e.S0 e.N) λy=>∃F,y=((),(Ln b F,()))/\PlyOK b F/\F.lines=P.lines:=by
 have hp:=h.p;have hi:=hw.small.hi;have k1:=hp.cl;have k2:=hp.ll;have Y:=h.bl;unfold FI at w;unfold Ply.ap Dm;rcases(by omega:e.R0=2\/e.R0=3\/e.R0=4\/e.R0=5\/e.R0=6)with q|q|q|q|q<;>rw[q]at w|- <;>simp only[show((2:Int)==1)=I from rfl,show((2:Int)==2)=H from rfl,show((3:Int)==1)=I from rfl,show((3:Int)==2)=I from rfl,show((3:Int)==3)=H from rfl,show((4:Int)==1)=I from rfl,show((4:Int)==2)=I from rfl,show((4:Int)==3)=I from rfl,show((4:Int)==4)=H from rfl,show((5:Int)==1)=I from rfl,show((5:Int)==2)=I from rfl,show((5:Int)==3)=I from rfl,show((5:Int)==4)=I from rfl,show((5:Int)==5)=H from rfl,show((6:Int)==1)=I from rfl,show((6:Int)==2)=I from rfl,show((6:Int)==3)=I from rfl,show((6:Int)==4)=I from rfl,show((6:Int)==5)=I from rfl,show((6:Int)==6)=H from rfl,h_,g_,a_]at w|-
 ·-- press
  obtain⟨B,_⟩:=w;refine S (GO e.D0 e.I0)<|S (DZ P.p.press _)<|C ⟨⟨P.s,{ P.p with press:=FH P.p.press _ },P.bl,P.tick,P.lines⟩,rfl,⟨h.s,⟨?_,hp.kind,hp.car,hp.none,hp.cl,hp.cv,hp.tl,hp.ll⟩,h.bl⟩,rfl⟩;refine(KK hw.small hw.code).2 ⟨VQ _ _,λf R d L q=>?_⟩;rw[SM,V_]at q;rcases q with q|q
  .exact((KK hw.small hw.code).1 hp.press).2 f R d L q
  .have h1:(0<=e.D0/\e.D0<32)/\(e.I0=1\/e.I0=2):=by
    have h1:=B;unfold Au NE at h1;simp only[a_,V_,Ah,a1_]at h1;omega
   rw[Xz h1.1 h1.2 f L,t_]at q;rw[(Prod.mk.inj q).1,(Prod.mk.inj q).2];exact B
 ·-- car
  obtain⟨h1,j,_⟩:=w;have h1:=CI.1 h1;have j:=CI.1 j;have A:aD e.S0 P.p.cars.length=H:=Ac ω ω;refine J A<|J (b_ ω)<|J A<|C ⟨⟨P.s,{ P.p with cars:=P.p.cars.set e.S0.toNat _ },P.bl,P.tick,P.lines⟩,rfl,⟨h.s,⟨hp.press,hp.kind,hp.car,hp.none,by rw[z_];exact hp.cl,λc hc=>?_,hp.tl,hp.ll⟩,h.bl⟩,rfl⟩;rcases bK hc with hc|rfl
  .exact hp.cv c hc
  .refine C2.or (hp.cv _<|AE 0 ω) ?_;have hC:C2 b.C0<|aJ aO<|1*(2^(aS (aK e.D0)<|IntKind.bits aO)):=by
    obtain⟨n,D⟩:=a6_ j.1;obtain⟨m,hm⟩:=a6_ (ω:0<=b.C0);rw[D,hm]at j|-;have g1:n<m:=ω;have O:m<9:=ω;have E:∀m:Nat,m<9->∀n:Nat,n<m->C2 m (aJ aO<|1*(2^(aS (aK n)<|IntKind.bits aO))):=by unfold C2;decide
    exact E m O n g1
   exact hC
 ·-- load
  obtain⟨_,h1,j⟩:=w;have h1:=CI.1 h1;have j:=CI.1 j;obtain⟨n,D⟩:=a6_ j.1;have A:aD e.S0 P.p.loads.length=H:=Ac ω ω;obtain⟨a,Q⟩:=Option.isSome_iff_exists.1<|Bfy n ω;rw[D];exact S Q<|J A<|C ⟨⟨P.s,{ P.p with loads:=P.p.loads.set e.S0.toNat a },P.bl,P.tick,P.lines⟩,rfl,⟨h.s,⟨hp.press,hp.kind,hp.car,hp.none,hp.cl,hp.cv,hp.tl,by rw[z_];exact hp.ll⟩,h.bl⟩,rfl⟩
 ·-- block
  obtain⟨_,h1,j⟩:=w;have h1:=CI.1 h1;have A:aD e.S0 P.bl.length=H:=Ac ω ω;exact J A<|C ⟨⟨P.s,P.p,P.bl.set e.S0.toNat e.N,P.tick,P.lines⟩,rfl,⟨h.s,hp,by rw[z_];exact h.bl⟩,rfl⟩
 ·-- command
  obtain⟨_,h1,j⟩:=w;have h1:=CI.1 h1;have j:=CI.1 j;exact C ⟨⟨P.s,{ P.p with kind:=e.N,car:=e.S0 },P.bl,P.tick,P.lines⟩,rfl,⟨h.s,⟨hp.press,show 0<=e.N/\e.N<=8 by omega,show 0<=e.S0/\e.S0<b.B0.length by omega,λq=>by have q:e.N=0:=q;omega,hp.cl,hp.cv,hp.tl,hp.ll⟩,h.bl⟩,rfl⟩
end
def noPsh:Psh:=⟨(0,0),0,0,[],[],[],[],I⟩
def Ply.psh(P:Ply)(a:List Bool)(bad:Bool):Psh:=⟨P.p.press,P.p.kind,P.p.car,P.p.cars,P.p.times,a,P.p.loads,bad⟩
@[reducible] def Bgm{α β:Type}(b:aB)(P:Ply)(cars:α)(bl:β):=(b.C0,b.E0,b.J0,b.M0,b.K0,b.N0,b.O0,b.B0,P.s.m.G0.F0,P.s.m.G0.L0,P.s.m.G0.H0,P.s.m.G0.A0,P.s.m.W0.h0,P.s.m.W0.h1,P.s.m.W0.sel,P.s.m.J1,P.s.m.Y0,P.s.m.B0,P.s.m.E3,P.s.m.K2,P.s.m.F4,P.s.m.B4,P.s.m.I3,P.s.m.V2,P.s.rl,P.s.rg,P.p.press.1,P.p.press.2,P.p.kind,P.p.car,cars,P.p.times,P.p.blocks,(),P.p.bad,bl,P.tick,P.lines,())
section
variable{b:aB}(hw:BW b)
include hw
theorem Bcl{P:Ply}(h:PlyOK b P)(bad:Bool):W (P.ap b<|Br bad) λy=>∃(a:List Bool) (bl:List Int),a.length=b.B0.length/\bl.length=b.B0.length/\y=(((),()),(Qt<|P.psh a bad,Bgm b ⟨P.s,{ P.p with press:=(0,0),kind:=0,car:=0 },bl,P.tick,P.lines⟩ (aF b.B0.length (0:Int)) bl,())):=by
 have L:=Ag hw.code;have j:=h.bl;have d:∀{n:Nat},n<=100->((decide ((0:Int)<=(n:Int))&&decide ((n:Int)<=(n:Int)))&&decide ((n:Int)<=2147483648))=H:=λh=>by simp only[a_,t_];omega
 unfold Ply.ap Br;refine J (d ω) ?_;refine U (Q:=λy=>∃(a:List Bool) (bl:List Int),a.length=b.B0.length/\bl.length=b.B0.length/\y=(((),(),(),()),(Qt noPsh,Qt<|P.psh a bad,Bgm b P () bl,()))) ?_ λy E=>?_
 .unfold Fb;refine aH (λ(k:Nat) z=>∃(i:Nat) (a:List Bool) (bl:List Int),a.length=b.B0.length/\bl.length=b.B0.length/\z=(((),(),(),bl,(P.bl.length:Int),(i:Int),()),(Qt noPsh,Qt<|P.psh a bad,Bgm b P () (),()))/\i+k=P.bl.length) (λk z F=>?_) P.bl.length ⟨0,aF (aK (P.bl.length:Int)) I,P.bl,by rw[A_,l_];exact j,j,rfl,m_ _⟩ ω;obtain⟨i,a,bl,A,w,rfl,N⟩:=F;show W (P.s.ap (b.ap<|(P.psh a bad).ap<|noPsh.ap<|Dv bl (P.bl.length:Int) (i:Int)) P.p.press.1 P.p.press.2 P.p.kind P.p.car P.p.times P.p.blocks P.p.bad P.tick P.lines) _;unfold Dv;refine V (λq=>?_) λ_=>C ⟨a,bl,A,w,rfl⟩;have q:(i:Int)<(P.bl.length:Int):=j_ q;have B:=Cn (n:=i) ω;have D:aD (i:Int) bl.length=H:=Ac ω ω;have i2:aD (i:Int) a.length=H:=Ac ω ω;refine J D<|J i2<|J D<|C ⟨k-1,ω,i+1,a.set (aK (i:Int))<|decide<|(0:Int)<bl.getD (aK (i:Int)) 0,_,?_,?_,by first|(rw[<-B];rfl)|rw[<-B],ω⟩
  .rw[z_];exact A
  .rw[z_];exact w
 .obtain⟨a,bl,A,w,rfl⟩:=E;refine J (d (n:=b.B0.length) ω)<|C ⟨a,bl,A,w,?_⟩;rfl
theorem Akp{P:Ply}(h:PlyOK b P){bad:Bool}(hb:0<=bud/\bud<9223372036854775808)(hl:P.lines.length<=1000000000):W (P.ap b<|AN bad bud) λy=>∃L,y=((),(Ln b L,()))/\PlyOK b L/\∃l,L.lines=P.lines++l/\l.length<=1:=by
 have h3:=Ag hw.code;have hp:=h.p;have h4:=h.s.pm.jst.img.lp;have h2:=h.s.pm.jst.img.lf;refine S rfl ?_
 let O:Ply:=⟨P.s,P.p,P.bl,aC.wrap<|P.tick+1,P.lines⟩
 have h1:PlyOK b O:=⟨h.s,h.p,h.bl⟩;refine U (Bcl hw h1 bad) λy2 g2=>?_;obtain⟨bs,bl,e1,R,rfl⟩:=g2;have q:PshOK b<|O.psh bs bad:=⟨hp.press.1,hp.press.2,hp.kind,hp.car,hp.none,hp.cl,hp.cv,hp.tl,e1,hp.ll⟩;refine U (Ana hw h.s q hb) λy3 g3=>?_;obtain⟨e,t,o,rfl,Y⟩:=g3;have w:W (o.ap<|KY P.s.m.G0.F0 P.s.m.G0.L0 P.s.m.G0.H0 P.s.m.G0.A0) λy=>∃l,y=((l,()),())/\okS 83 l:=by
  rcases Y with⟨rfl,j,x,g,m',l1,l2,u,vs,X,D⟩|⟨rfl,rfl,_⟩
  .have ho:=D.oc;have h0:=D.st;refine Avj (λc hc=>?_) ω ω ω ω;obtain⟨i,hi,rfl⟩:=bQ hc;obtain⟨c0,d,_,hf⟩:=D.cars i ω;have a:=hf.phase;rw[k_,i_ hi]at a;have a:(o.B0[i]).Y3=phA m'.G0 i:=a;rw[a];have A:=D.pm.jst.img
   have:=A.ph _<|AE 0 (show i<m'.G0.F0.length by have:=A.lp;omega)
   exact⟨this.1,Int.lt_of_le_of_lt this.2 τ⟩
  .exact Avj (λc hc=>by cases hc) (Q_ _) (Q_ _) (Q_ _) ⟨b8_ 0,τ⟩
 refine U w λy4 g4=>?_;obtain⟨l,rfl,F⟩:=g4;have hA:AskOK b ⟨(0,0),0,0,aF b.B0.length 0,P.p.times,P.p.blocks,P.p.loads,P.p.bad⟩:=⟨RB hw.small hw.code,⟨b8_ 0,show 0<=8 by decide⟩,⟨b8_ 0,by show 0<_;omega⟩,λ_=>rfl,A_,λc hc=>by rw[(List.mem_replicate.1 hc).2];exact C2.zero,hp.tl,hp.ll⟩
 refine U (Q:=λy=>∃(t:Sit) (l:List ByteArray),SitOK b t/\okS 83 l/\y=(((),(),l,()),(Ct t,Ln b ⟨P.s,⟨(0,0),0,0,aF b.B0.length 0,P.p.times,P.p.blocks,P.p.loads,P.p.bad⟩,bl,aC.wrap<|P.tick+1,P.lines⟩,()))) ?_ λy6 g6=>?_
 .rcases Y with⟨rfl,j,_⟩|⟨rfl,rfl,hc⟩
  .exact aA rfl<|C ⟨t,l,j,F,rfl⟩
  .refine J rfl (U (Ahz hw hc) λy5 g5=>?_);obtain⟨B,rfl,j⟩:=g5;exact C ⟨B,_,j,⟨τ,λs E=>by rw[E_.1 E];decide⟩,rfl⟩
 obtain⟨B,l',j,N,rfl⟩:=g6;refine V (λ_=>?_) λ_=>C ⟨⟨B,⟨(0,0),0,0,aF b.B0.length 0,P.p.times,P.p.blocks,P.p.loads,P.p.bad⟩,bl,aC.wrap _,P.lines⟩,rfl,⟨j,hA,R⟩,[],(T_ _).symm,Q_ _⟩;obtain⟨s,E⟩:=Bj8 N τ (sep:=bJ<|Array.mk [59,32]) τ;refine S E<|J (Am (ω:P.lines.length+1<=2147483648))<|C ⟨⟨B,⟨(0,0),0,0,aF b.B0.length 0,P.p.times,P.p.blocks,P.p.loads,P.p.bad⟩,bl,aC.wrap _,P.lines++[⟨aC.wrap _,s⟩]⟩,rfl,⟨j,hA,R⟩,_,rfl,q_ 1⟩
end
inductive Steps(b:Bldg):Nat->Ply->Ply->Prop
 |nil (P:Ply):Steps b 0 P P
 |cons {n:Nat}{P P1 P2:Ply}(h:P.ap b (AN false 1048576)=some ((),(Ln b P1,()))) (t:Steps b n P1 P2):Steps b (n+1) P P2
def Steps.app{n m:Nat}{P a d:Ply}(h:Steps b n P a)(k:Steps b m a d):Steps b (n+m) P d:=by
 induction h with
 |nil P=>rw[m_];exact k
 |cons h _ j=>rw[Nat.add_right_comm];exact .cons h<|j k
inductive Evs(b:Bldg):List Event->Ply->Ply->Prop
 |nil (P:Ply):Evs b [] P P
 |wait {e:Event}{l:List Event}{n:Nat}{P P1 P2:Ply}(hk:e.R0=1) (hn:e.N=(n:Int)) (hm:n<=100000) (h:Steps b n P P1) (t:Evs b l P1 P2):Evs b (e::l) P P2
 |bad {e:Event}{l:List Event}{P P1 P2:Ply}(hk:e.R0=7) (h:P.ap b (AN true 1048576)=some ((),(Ln b P1,()))) (t:Evs b l P1 P2):Evs b (e::l) P P2
 |crash {e:Event}{l:List Event}{P P1 P2:Ply}(hk:e.R0=8) (h:P.ap b (AN false e.N)=some ((),(Ln b P1,()))) (t:Evs b l P1 P2):Evs b (e::l) P P2
 |ask {e:Event}{l:List Event}{P P1 P2:Ply}(hk:2<=e.R0/\e.R0<=6) (h:P.ap b (Dm e.R0 e.D0 e.I0 e.S0 e.N)=some ((),(Ln b P1,()))) (t:Evs b l P1 P2):Evs b (e::l) P P2
def Evs.app{l k:List aU}{P q p:Ply}(h:Evs b l P q)(j:Evs b k q p):Evs b (l++k) P p:=by
 induction h with
 |nil P=>exact j
 |wait d w hm h _ a=>exact .wait d w hm h<|a j
 |bad d h _ a=>exact .bad d h<|a j
 |crash d h _ a=>exact .crash d h<|a j
 |ask d h _ a=>exact .ask d h<|a j
def Bcw{n:Nat}(hm:n<=100000){P d:Ply}(h:Steps b n P d)(l:List aU)(N i:Int):W (HI (((),(),l,N,i,(n:Int),(0:Int),()),(Ct Sit.none,Ln b P,()))) λy=>y=(((),(),l,N,i,()),(Ct Sit.none,Ln b d,())):=by
 refine aH (λk z=>∃(j:Nat) (Q:Ply),z=(((),(),l,N,i,(n:Int),(j:Int),()),(Ct Sit.none,Ln b Q,()))/\j+k=n/\Steps b k Q d) (λk z w=>?_) n ⟨0,P,rfl,m_ _,h⟩ ω;obtain⟨j,Q,rfl,D,p⟩:=w;show W (Q.ap b<|Sit.none.ap<|WG l N i n j) _;refine V (λq=>?_) λq=>?_
 .have q:=j_ q;have A:=Cn (n:=j) ω;cases p with
  |nil _=>omega
  |@cons m _ B _ h1 t=>exact S h1<|C ⟨m,ω,j+1,B,by first|(rfl)|rw[<-A],ω,t⟩
 .have q:=w_ q;have a:k=0:=ω;subst a;cases p;exact C rfl
def Bcv{l:List aU}(hl:l.length<=100000){P p:Ply}(h:Evs b l P p):W (HH (((),(),l,(l.length:Int),(0:Int),()),(Ct Sit.none,Ln b P,()))) λy=>y=(((),(),()),(Ct Sit.none,Ln b p,())):=by
 refine aH (λk z=>∃(i:Nat) (Q:Ply),z=(((),(),l,(l.length:Int),(i:Int),()),(Ct Sit.none,Ln b Q,()))/\i+k=l.length/\Evs b (l.drop i) Q p) (λk z B=>?_) l.length ⟨0,P,rfl,m_ _,h⟩ ω;obtain⟨i,Q,rfl,a,w⟩:=B;show W (Q.ap b<|Sit.none.ap<|Qe l l.length i) _;refine V (λq=>?_) λq=>?_
 .have q:=j_ q;have D:=Cn (n:=i) ω;have hi:i<l.length:=ω;have E:=BS Gz hi;rw[E]at w;refine J (Ac ω q) ?_;simp only[l_];rw[show Event.mk 0 0 0 0 0=Gz from rfl];have d:∀{Q1:Ply},Evs b _ Q1 p->∃m,k=m+1/\∃(j:Nat) (R:Ply),(((),(),l,(l.length:Int),aC.wrap _,()),(Ct Sit.none,Ln b Q1,()))=(((),(),l,(l.length:Int),(j:Int),()),(Ct Sit.none,Ln b R,()))/\j+m=l.length/\Evs b (l.drop j) R p:=
   λ{Q1} t=>⟨k-1,ω,i+1,Q1,by rw[D],ω,t⟩
  cases w with
  |wait a F hm h t=>refine J (by rw[a];rfl) ?_;rw[F];refine U (Bcw hm h l _ _) λy A=>?_;subst A;exact C<|d t
  |bad a h t=>exact aA (by rw[a];rfl)<|J (by rw[a];rfl)<|S h<|C<|d t
  |crash a h t=>exact aA (by rw[a];rfl)<|aA (by rw[a];rfl)<|J (by rw[a];rfl)<|S h<|C<|d t
  |ask a h t=>exact aA (beq_false_of_ne ω)<|aA (beq_false_of_ne ω)<|aA (beq_false_of_ne ω)<|S h<|C<|d t
 .have q:=w_ q;rw[List.drop_eq_nil_of_le ω]at w;cases w;exact C rfl
section
variable{b:aB}(hw:BW b)
include hw
theorem YL:∀{n:Nat}{P:Ply},PlyOK b P->P.lines.length+n<=1000000000->∃a,Steps b n P a/\PlyOK b a/\∃l,a.lines=P.lines++l/\l.length<=n
 |0,P,h,_=>⟨P,.nil P,h,[],(T_ _).symm,Q_ _⟩
 |n+1,P,h,hl=>by obtain⟨_,h1,y,rfl,k1,l1,d,g1⟩:=Akp hw h (bud:=1048576) τ ω;obtain⟨j,q,p,l2,w,A⟩:=YL (n:=n) k1 (by rw[d,e_];omega);exact⟨j,.cons h1 q,p,l1++l2,by rw[w,d,G_],by rw[e_];omega⟩
theorem Bbc:∀{l:List aU}{P:Ply},PlyOK b P->(∀e∈l,FI b e=H)->P.lines.length+5000*l.length<=1000000000->∃d,Evs b l P d/\PlyOK b d/\∃k,d.lines=P.lines++k/\k.length<=5000*l.length
 |[],P,h,_,_=>⟨P,.nil P,h,[],(T_ _).symm,Q_ _⟩
 |e::l,P,h,L,hl=>by
  have y:=L e<|H_ ..;have hvl:=λx hx=>L x<|L_ e hx;rw[s_]at hl;have A:∀{q:Ply},PlyOK b q->(∃k,q.lines=P.lines++k/\k.length<=5000)->∃d,Evs b l q d/\PlyOK b d/\∃k,d.lines=P.lines++k/\k.length<=5000*(e::l).length:=λ{q} h1 ⟨k,j,g1⟩=>by obtain⟨d,p,k2,l2,e2,g2⟩:=Bbc h1 hvl (by rw[j,e_];omega);exact⟨d,p,k2,k++l2,by rw[e2,j,G_],by rw[e_,s_];omega⟩
  have a:=y;unfold FI at a;by_cases D:e.R0=1
  .rw[D]at a;simp only[show((1:Int)==1)=H from rfl,h_,a_]at a;have hN:=CI.1 a.2.2;obtain⟨n,hn⟩:=a6_ (ω:0<=e.N);obtain⟨q,s1,k1,l1,j,g1⟩:=YL hw (n:=n) h ω;obtain⟨d,p,w⟩:=A k1 ⟨l1,j,ω⟩;exact⟨d,.wait D hn ω s1 p,w⟩
  by_cases F:e.R0=7
  .obtain⟨_,h1,q,rfl,k1,l1,j,g1⟩:=Akp hw h (bud:=1048576) τ ω;obtain⟨d,p,w⟩:=A k1 ⟨l1,j,ω⟩;exact⟨d,.bad F h1 p,w⟩
  by_cases B:e.R0=8
  .rw[B]at a;simp only[show((8:Int)==1)=I from rfl,show((8:Int)==2)=I from rfl,show((8:Int)==3)=I from rfl,show((8:Int)==4)=I from rfl,show((8:Int)==5)=I from rfl,show((8:Int)==6)=I from rfl,show((8:Int)==7)=I from rfl,show((8:Int)==8)=H from rfl,h_,g_,a_]at a;have hN:=CI.1 a.2.2;obtain⟨_,h1,q,rfl,k1,l1,j,g1⟩:=Akp hw h (bud:=e.N) ω ω;obtain⟨d,p,w⟩:=A k1 ⟨l1,j,ω⟩;exact⟨d,.crash B h1 p,w⟩
  have E:2<=e.R0/\e.R0<=6:=by
   have no:∀{k m:Int},k≠m->(k==m)=I:=λh=>beq_false_of_ne h;by_cases q2:e.R0=2
   .omega
   by_cases Y:e.R0=3
   .omega
   by_cases R:e.R0=4
   .omega
   by_cases O:e.R0=5
   .omega
   by_cases Q:e.R0=6
   .omega
   rw[no D,no q2,no Y,no R,no O,no Q,no F,no B]at a;cases a
  obtain⟨_,h1,q,rfl,k1,j⟩:=Bni hw h y E;obtain⟨d,p,w⟩:=A k1 ⟨[],by rw[j,T_],Q_ _⟩;exact⟨d,.ask E h1 p,w⟩
end
section
variable{b:aB}(hw:BW b)
include hw
theorem At0:W (Xq b.C0 b.E0 b.J0 b.M0 b.K0 b.N0 b.O0 b.B0<|aF (aK (b.B0.length:Int)) 0) λy=>∃s:Sit,y=(((),0,()),(Ct s,()))/\SitOK b s/\s.m=(Kg b).1:=by
 have L:=Ag hw.code;have lo:=hw.small.lo;obtain⟨hm,_,j⟩:=Ar5 hw;rw[l_];have hl:(aF b.B0.length (0:Int)).length=b.B0.length:=A_ ..;have h0:∀f∈aF b.B0.length 0,0<=f/\f<b.C0:=λf d=>by rw[(List.mem_replicate.1 d).2];omega
 generalize aF b.B0.length _=l at hl h0;refine S (Afb hw.small hw.code) ?_;rw[j];refine aA rfl<|aA (by rw[hl];exact P_ _)<|S (Bki hw hl h0)<|aA rfl (U (Q:=λy=>∃s:Sit,y.2.2.1=Ct s/\SitOK b s/\s.m=(Kg b).1) ?_ λy D=>?_)
 .unfold TN;refine aH (λk z=>∃(i:Nat) (s:Sit),z=(((),(),l,(l.length:Int),(i:Int),()),(Ct Sit.none,Ct s,()))/\i+k=l.length/\s.m=(Kg b).1/\s.rl.length=i/\(∀r∈s.rl,RelOK b r)/\s.rg.length=i/\(∀r∈s.rg,RigOK b.C0 r)) (λk z E=>?_) l.length ⟨0,⟨(Kg b).1,[],[]⟩,rfl,m_ _,rfl,rfl,λr a=>(by cases a),rfl,λr a=>(by cases a)⟩ ω;obtain⟨i,s,rfl,O,p,P,A,N,B⟩:=E;show W (s.ap<|Sit.none.ap<|Zv l l.length i) _;refine V (λq=>?_) λq=>?_
  .have q:=j_ q;have w:=Cn (n:=i) ω;have d:=h0 _<|AE 0 (ω:i<l.length);refine J (Ac ω q)<|S rfl<|J (Am (by show s.rl.length+1<=_;omega))<|S rfl<|J (Am (by show s.rg.length+1<=_;omega))<|C ⟨k-1,ω,i+1,⟨s.m,s.rl++[aW 0 _ 0 0 2 0 0 0 0],s.rg++[Rig.mk _ _ 0 2 0 0]⟩,by first|(rw[<-w];rfl)|rw[<-w],ω,p,by rw[e_];show s.rl.length+1=_;omega,λr a=>?_,by rw[e_];show s.rg.length+1=_;omega,λr a=>?_⟩
   .rcases n_.1 a with a|a
    .exact A r a
    .rw[E_.1 a];exact RelOK.new hw.small hw.code d
   .rcases n_.1 a with a|a
    .exact B r a
    .rw[E_.1 a];exact RigOK.new d
  .have q:=w_ q;exact C ⟨s,rfl,⟨by rw[p];exact hm,ω,A,ω,B⟩,p⟩
 .obtain⟨s,g1,F⟩:=D;rw[g1];exact C ⟨s,rfl,F⟩
end
def tmC(c:Car):Int:=bif decide (c.U1<c.F3)then c.U1 else c.F3
def Bgy(a:List Int)(x v:Int)(r:List Int):(a++x::r).set a.length v=a++v::r:=by
 induction a with
 |nil=>rfl
 |cons y t d=>exact J_ _ d
def Ae4(b:aB)(s:Sit)(a:List Int):Ply:=⟨s,⟨(0,0),0,0,aF b.B0.length 0,a,[],aF b.B0.length 0,I⟩,aF b.B0.length 0,0,[]⟩
def Bcu(A:b.B0.length<=100)(s:Sit)(l:List aU):W (ME ((l,(),(),b.B0,(b.B0.length:Int),(0:Int),()),(Ct Sit.none,Ln b<|Ae4 b s<|aF b.B0.length 0,()))) λy=>y=((l,(),(),()),(Ct Sit.none,Ln b<|Ae4 b s<|b.B0.map tmC,())):=by
 refine aH (λk z=>∃i:Nat,z=((l,(),(),b.B0,(b.B0.length:Int),(i:Int),()),(Ct Sit.none,Ln b<|Ae4 b s<|(b.B0.take i).map tmC++aF k 0,()))/\i+k=b.B0.length) (λk z j=>?_) b.B0.length ⟨0,rfl,m_ _⟩ ω;obtain⟨i,rfl,B⟩:=j;show W ((Ae4 b s _).ap b<|Sit.none.ap<|WF l b.B0 b.B0.length i) _;refine V (λq=>?_) λq=>?_
 .have q:=j_ q;have w:=Cn (n:=i) ω;obtain⟨m,rfl⟩:∃m,k=m+1:=⟨k-1,ω⟩
  have hi:i<b.B0.length:=ω;have a:((b.B0.take i).map tmC).length=i:=by rw[a3_,v_];omega
  have d:aD i (Ae4 b s<|(b.B0.take i).map tmC++aF (m+1) 0).p.times.length=H:=by show aD _ ((b.B0.take i).map tmC++aF (m+1) 0).length=H;exact Ac ω (by rw[e_,a,A_];omega)
  refine J (Ac ω q)<|J d<|C ⟨m,rfl,i+1,?_,ω⟩;have e:((b.B0.take i).map tmC++aF (m+1) 0).set i (tmC<|b.B0.getD i Cm)=(b.B0.take<|i+1).map tmC++aF m 0:=by have h1:=Bgy ((b.B0.take i).map tmC) 0 (tmC<|b.B0.getD i Cm)<|aF m 0;rw[a]at h1;rw[List.replicate_succ,h1,List.take_succ,List.map_append,G_,k_,i_ hi];rfl
  rw[<-e,w];rfl
 .have q:=w_ q;obtain rfl:i=b.B0.length:=ω;obtain rfl:k=0:=ω;rw[List.take_length];refine C ?_;rw[show List.map tmC b.B0++aF 0 0=List.map tmC b.B0 from T_ _]
section
variable{b:aB}(hw:BW b)
include hw
theorem Bmu:∃q:Ply,PlyOK b q/\q.lines=[]/\∀{l:List aU},l.length<=100000->(∀e∈l,FI b e=H)->GR l<=5000->∀{j:Ply},Evs b l q j->GI b.C0 b.E0 b.J0 b.M0 b.K0 b.N0 b.O0 b.B0 l=Z (((),j.lines,0,()),(Ct j.s,())):=by
 have E:=Ag hw.code;obtain⟨_,B,s,rfl,A,_⟩:=At0 hw;have hA:AskOK b (Ae4 b s<|b.B0.map tmC).p:=⟨RB hw.small hw.code,⟨b8_ 0,show 0<=8 by decide⟩,⟨b8_ 0,by show 0<_;omega⟩,λ_=>rfl,A_,λc hc=>by rw[(List.mem_replicate.1 hc).2];exact C2.zero,a3_ _,A_⟩
 refine⟨Ae4 b s _,⟨A,hA,A_⟩,rfl,λ{l} hl D F {j} h=>?_⟩;refine aY ?_;have d:(b.code==0&&l.all (FI b))=H:=by rw[hw.code,F_.2 D];rfl
 have a:((decide (0<=b.B0.length)&&decide (b.B0.length<=(b.B0.length:Int)))&&decide ((b.B0.length:Int)<=2147483648))=H:=by simp only[a_,t_];omega
 refine S (Beg hw.small ω hl)<|aA (by rw[d];rfl)<|S (Bee hl)<|aA (d_ (by show ¬5000<GR l;omega)) ?_;refine J a<|J a<|J a<|J a<|J a<|S B ?_;refine U (Bcu ω s l) λy w=>?_;subst w;refine U (Bcv hl h) λy w=>?_;subst w;exact C rfl
theorem Bc1{s:Sit}(h:SitOK b s):s.ap (s.ap SE)=Z ((H,()),()):=by
 have w:=Ag hw.code;have l1:=h.rll;have l2:=h.rgl;refine aY ?_;refine S (Bgq<|h.pm.fit hw)<|aA rfl<|aA (P_ _)<|aA (P_ _) ?_;refine U (Q:=λy=>y=.inl (((),(),()),(Ct s,Ct s,()))) ?_ λy a=>?_
 .unfold OY;refine aH (λk z=>∃i:Nat,z=(((),(),(i:Int),()),(Ct s,Ct s,()))/\i+k=s.rl.length) (λk z d=>?_) s.rl.length ⟨0,rfl,m_ _⟩ ω;obtain⟨i,rfl,p⟩:=d;show W (s.ap<|s.ap<|Zs i) _;refine V (λq=>?_) λ_=>C rfl;have q:=j_ q;have j:=Cn (n:=i) ω;refine J (Ac ω q)<|J (Ac ω q)<|aA σ<|C ⟨k-1,ω,i+1,by rw[j],ω⟩
 subst a;refine U (Q:=λy=>y=.inl ((),())) ?_ λy a=>?_
 .unfold OZ;refine aH (λk z=>∃i:Nat,z=(((),(),(i:Int),()),(Ct s,Ct s,()))/\i+k=s.rg.length) (λk z d=>?_) s.rg.length ⟨0,rfl,m_ _⟩ ω;obtain⟨i,rfl,p⟩:=d;show W (s.ap<|s.ap<|Zt i) _;refine V (λq=>?_) λ_=>C rfl;have q:=j_ q;have j:=Cn (n:=i) ω;refine J (Ac ω q)<|J (Ac ω q)<|aA σ<|C ⟨k-1,ω,i+1,by rw[j],ω⟩
 subst a;exact C rfl
end
def Bfa(s:ByteArray):eqB s s=H:=by have h:=Ba9 s.data.toList s.data.toList;rw[b_ rfl]at h;exact h
def Ag9{l:List Line}(hl:l.length<=100000000):Kv l l=Z ((H,()),()):=by
 refine aY ?_;refine aA (P_ _) (U (Q:=λy=>y=.inl ((),())) ?_ λy a=>?_)
 .unfold TI;refine aH (λk z=>∃i:Nat,z=((l,l,(i:Int),()),())/\i+k=l.length) (λk z d=>?_) l.length ⟨0,rfl,m_ _⟩ ω;obtain⟨i,rfl,p⟩:=d;show W (Zu l l i) _;refine V (λq=>?_) λ_=>C rfl;have q:=j_ q;have j:=Cn (n:=i) ω;refine J (Ac ω q)<|J (Ac ω q)<|aA (by simp only[Bfa,p_,c7_,W_])<|C ⟨k-1,ω,i+1,by rw[j],ω⟩
 .subst a;exact C rfl
def Beq{n0 n1 n2:Nat}(h1:n1<256)(j:n2<256):BW<|FC (Ll n0) (HY n0) n1 n2:=by
 have d:(2<=Ll n0/\Ll n0<=6)/\1<=HY n0/\HY n0<=3:=by unfold Ll HY;omega
 obtain⟨g1,p,g3,_,_,g6⟩:=Asy d.1 d.2 h1 j;have hl:(arF .sub .f64 (AU 2 1).N0 4589168020290535424).isSome=H/\(arF .sub .f64 (AU 2 1).O0 4589168020290535424).isSome=H:=by decide+kernel
 obtain⟨a,q⟩:=Option.isSome_iff_exists.1 hl.1;obtain⟨c,hc⟩:=Option.isSome_iff_exists.1 hl.2;exact⟨g1,p,ω,⟨a,q,trivial⟩,⟨c,hc,trivial⟩⟩
def Bpd{n0 n1 n2:Int}(h0:0<=n0/\n0<256)(h1:0<=n1/\n1<256)(j:0<=n2/\n2<256):∃b:aB,Ms n0 n1 n2=Z (((),()),(b.tup,()))/\BW b/\PM b (Kg b).1:=by obtain⟨a,rfl⟩:=a6_ h0.1;obtain⟨k1,rfl⟩:=a6_ h1.1;obtain⟨d,rfl⟩:=a6_ j.1;have hw:=Beq (n0:=a) (n1:=k1) (n2:=d) ω ω;exact⟨_,Ack ω ω ω,hw,(Ar5 hw).1⟩
def XF(h:b.code=0):inR 2 32 b.C0=H/\inR 1 8 (b.B0.length:Int)=H/\inR 1 16 b.E0=H/\inR 1 10000 b.M0=H/\b.B0.all (Cg b.C0)=H/\b.loadsOK=H:=by unfold Bldg.code at h;revert h;cases inR 2 32 b.C0<;>cases inR 1 8 _<;>cases inR 1 16 b.E0<;>cases inR 1 10000 b.M0<;>cases b.B0.all _<;>cases b.loadsOK<;>(intro h;first|exact⟨rfl,rfl,rfl,rfl,rfl,rfl⟩|(exact absurd h σ))
structure CrsOK(b:Bldg)(cs:List Car):Prop where
 len:cs.length=b.B0.length
 ok:∀c∈cs,Cg b.C0 c=true
def CrsOK.code(h:b.code=0)(hc:CrsOK b cs):({ b with J0:=4000,B0:=cs }:aB).code=0:=by
 obtain⟨y,w,p,A,E,q⟩:=XF h;have B:=Ag h;have a:inR 1 8 cs.length=H:=by rw[hc.len];exact w
 have j:cs.all _=H:=F_.2 hc.ok;have d:({ b with J0:=4000,B0:=cs }:aB).loadsOK=H:=q;have D:inR (18*cs.length+24) 65536 4000=H:=Ah.2 (by rw[hc.len];omega);unfold Bldg.code;rw[d];rw[y,a,p,A,j,D];rfl
def CrsOK.self(h:b.code=0):CrsOK b b.B0:=⟨rfl,λ_ hc=>Pp h hc⟩
def CrsOK.set(hc:CrsOK b cs){c:Car}(h:Cg b.C0 c=H)(i:Nat):CrsOK b<|cs.set i c:=⟨by rw[z_];exact hc.len,λx hx=>(bK hx).elim (hc.ok x) λe=>by rw[e];exact h⟩
def Ml{fl:Int}{c:Car}:Cg fl c=H↔((1<=c.D1/\c.D1<=10000)/\(1<=c.O3/\c.O3<=10000)/\(1<=c.T3/\c.T3<=10000)/\(1<=c.F3/\c.F3<=10000)/\(1<=c.U1/\c.U1<=10000)/\(1<=c.V1/\c.V1<=10000)/\(1<=c.R3/\c.R3<=10000))/\(0<=c.L2/\c.L2<=10000)/\c.V1<=c.R3/\0<=c.I4/\c.I4<=aC.wrap (fl-1):=by unfold Cg;simp only[U_,List.all_nil,f8_,a_,Ah,t_]
section
variable{b:aB}(hb:b.small)(hcode:b.code=0)
include hcode
theorem Bbf(h:CrsOK b cs):W (QF (((),(),(0:Int),()),((b.C0,b.E0,4000,b.M0,b.K0,b.N0,b.O0,cs,()),(0,0,0,0,0,0,0,[],()),()))) λy=>∃a,y.2.1=(b.C0,b.E0,4000,b.M0,b.K0,b.N0,b.O0,a,())/\y.2.2.1=(0,0,0,0,0,0,0,[],())/\CrsOK b a:=by
 have A:=Ag hcode;have B:=Ah.1 (XF hcode).2.2.1;have p:aC.wrap _=b.E0+1:=Aa ω ω;refine aH (λk z=>∃(i:Nat) (cs:List Car),z=(((),(),(i:Int),()),((b.C0,b.E0,4000,b.M0,b.K0,b.N0,b.O0,cs,()),(0,0,0,0,0,0,0,[],()),()))/\i+k=b.B0.length/\CrsOK b cs) (λk z d=>?_) b.B0.length ⟨0,cs,rfl,m_ _,h⟩ ω;obtain⟨i,cs,rfl,E,h⟩:=d;have hl:=h.len;show W (Acw i b.C0 b.E0 4000 b.M0 b.K0 b.N0 b.O0 cs 0 0 0 0 0 0 0 []) _;refine V (λq=>?_) λ_=>C ⟨cs,rfl,rfl,h⟩;have q:=j_ q;have j:=Cn (n:=i) ω;have w:=Ml.1<|h.ok _<|AE Cm (ω:i<cs.length);refine J (Ac ω q)<|C ⟨k-1,ω,i+1,_,by first|(rfl)|rw[<-j],ω,?_⟩;simp only[l_,p];rw[show Car.mk 0 0 0 0 0 0 0 0 0=Cm from rfl];generalize hc:cs.getD i Cm=c at w;simp only[BQ Cm _ (ω:i<cs.length)];have e:∀D:Int,(D=c.V1\/D=b.E0+1)->c.V1<=D->Cg b.C0 (Car.mk c.D1 c.O3 c.T3 c.L2 c.F3 c.U1 D (bif decide _ then D else c.R3) c.I4)=H:=λD h1 F=>by
  by_cases q:c.R3<D
  .rw[b_ q];refine Ml.2 ?_;simp only[h_];omega
  .rw[d_ q];refine Ml.2 ?_;simp only[g_];omega
 rw[g2_];refine h.set ?_ i;by_cases q:c.V1<b.E0+1
 .rw[b_ q];exact e _ (.inr rfl) (by show c.V1<=b.E0+1;omega)
 .rw[d_ q];exact e _ (.inl rfl)<|b8_ _
include hb
theorem Axx(h:CrsOK b cs)(hi:i<cs.length):W (RQ b.C0 b.E0 4000 b.M0 b.K0 b.N0 b.O0 cs (i:Int)) λy=>1<=y.1.1/\y.1.1<=100000000:=by
 have lo:=hb.lo;have q:=hb.hi;have D:=Ml.1<|h.ok _<|AE Cm ω;refine S (Ww { b with J0:=4000,B0:=cs })<|aA (by rw[h.code hcode];rfl)<|aA (d_ ω)<|aA (d_ ω)<|J (Ac ω ω)<|C ?_;simp only[l_];rw[show Car.mk 0 0 0 0 0 0 0 0 0=Cm from rfl];generalize cs.getD i Cm=c at D;have E:aC.wrap _=3*b.C0:=Aa ω ω;have d:aC.wrap _=3*b.C0+1:=Aa ω ω;have j:aC.wrap _=2*c.U1:=Aa ω ω;have p:aC.wrap _=2*c.U1+c.V1:=Aa ω ω;have a:aC.wrap _=3*(2*c.U1+c.V1):=Aa ω ω;have A:aC.wrap _=3*(2*c.U1+c.V1)+c.F3:=Aa ω ω;have w:aC.wrap _=3*(2*c.U1+c.V1)+c.F3+2:=Aa ω ω;rw[E,d,j,p,a,A,w];generalize F:3*(2*c.U1+c.V1)+c.F3+2=y;have B:b.C0=2\/b.C0=3\/b.C0=4\/b.C0=5\/b.C0=6\/b.C0=7\/b.C0=8:=ω;have k:1<=(3*b.C0+1)*y/\(3*b.C0+1)*y<=100000000:=by rcases B with e|e|e|e|e|e|e<;>rw[e]<;>omega
 rw[Aa ω ω];exact k
theorem Bbg(h:CrsOK b cs):W (QG (((),(),(0:Int),()),((b.C0,b.E0,4000,b.M0,b.K0,b.N0,b.O0,cs,()),(0,0,0,0,0,0,0,[],()),()))) λy=>∃a,y.2.1=(b.C0,b.E0,4000,b.M0,b.K0,b.N0,b.O0,a,())/\CrsOK b a:=by
 have B:=Ag hcode;have E:=Ah.1 (XF hcode).2.2.1;refine aH (λk z=>∃(i:Nat) (cs:List Car),z=(((),(),(i:Int),()),((b.C0,b.E0,4000,b.M0,b.K0,b.N0,b.O0,cs,()),(0,0,0,0,0,0,0,[],()),()))/\i+k=b.B0.length/\CrsOK b cs) (λk z j=>?_) b.B0.length ⟨0,cs,rfl,m_ _,h⟩ ω;obtain⟨i,cs,rfl,F,h⟩:=j;have hl:=h.len;show W (Acx i b.C0 b.E0 4000 b.M0 b.K0 b.N0 b.O0 cs 0 0 0 0 0 0 0 []) _;refine V (λq=>?_) λ_=>C ⟨cs,rfl,h⟩;have q:=j_ q;have w:=Cn (n:=i) ω;have L:=Ml.1<|h.ok _<|AE Cm (ω:i<cs.length);refine U (Axx hb hcode h ω) λA d=>(J (Ac ω q)<|C ⟨k-1,ω,i+1,_,by first|(rfl)|rw[<-w],ω,?_⟩)
 generalize A.1.1=n at d;have D:aC.wrap _=n+b.E0:=Aa ω ω;have p:aC.wrap _=n+b.E0+2:=Aa ω ω;simp only[l_,D,p];rw[show Car.mk 0 0 0 0 0 0 0 0 0=Cm from rfl];refine h.set ?_ i;by_cases q:10000<n+b.E0+2
 .rw[b_ q];refine Ml.2 ?_;simp only[h_];omega
 .rw[d_ q];refine Ml.2 ?_;simp only[g_];omega
end
def Bpe{n0 n1 n2:Int}(h0:0<=n0/\n0<256)(h1:0<=n1/\n1<256)(d:0<=n2/\n2<256):W (HB n0 n1 n2) λy=>∃b:aB,y=(((),()),(b.tup,()))/\BW b:=by
 obtain⟨b,e,hw,_⟩:=Bpd h0 h1 d;have D:=Ag hw.code;refine S e<|S rfl (U (Q:=λy=>∃cs,y.2.1=(b.C0,b.E0,4000,b.M0,b.K0,b.N0,b.O0,cs,())/\CrsOK b cs) ?_ λy q=>?_)
 .unfold Zp;refine S (Ww { b with J0:=4000,B0:=b.B0 })<|aA (by rw[(CrsOK.self hw.code).code hw.code];rfl)<|J (Am (by show 0+b.B0.length<=_;omega)) (U (Bbf hw.code<|CrsOK.self hw.code) λL d=>?_);obtain⟨c1,j,a,w⟩:=d;rw[j,a];refine U (Bbg hw.small hw.code w) λF A=>?_;obtain⟨p,B,E⟩:=A;exact C ⟨p,B,E⟩
 .obtain⟨cs,j,a⟩:=q;exact C ⟨{ b with J0:=4000,B0:=cs },by rw[j];rfl,⟨hw.small.lo,hw.small.hi⟩,a.code hw.code,show 4000<=5000 by decide,hw.full,hw.over⟩
def Bi5(F:Int):Option ((List aM×Unit)×Unit)->Bool
 |some y=>!y.1.1.isEmpty&&y.1.1.all λe=>NE F e.D0 e.I0
 |none=>I
def Bbk{F:Int}(h:2<=F/\F<=8):Bi5 F (SA (aJ aO<|(aJ aO<|(1:Int)*((2:Int)^(aS (aK<|aJ aN<|aJ aC<|F-(1:Int))<|IntKind.bits aO)))-(1:Int))<|aJ aO<|(aJ aO<|(1:Int)*((2:Int)^(aS (aK<|aJ aN F)<|IntKind.bits aO)))-(2:Int))=H:=by have a:F=2\/F=3\/F=4\/F=5\/F=6\/F=7\/F=8:=ω;rcases a with rfl|rfl|rfl|rfl|rfl|rfl|rfl<;>decide+kernel
def Ays(aG:Int)(e:aU):Prop:=tkE 0 e<=aG/\∀n:Int,0<=n->n<=80->tkE n e=n+tkE 0 e
def Aat(h:n<=1000000):mil n=n:=by unfold mil;rw[d_ ω];rfl
def Xj{aG:Int}(h:0<=aG)(a:e.R0≠1/\e.R0≠7/\e.R0≠8):Ays aG e:=by
 have k:∀n:Int,tkE n e=n:=λn=>by unfold tkE;rw[beq_false_of_ne a.1,beq_false_of_ne a.2.1,beq_false_of_ne a.2.2];rfl
 exact⟨by rw[k];exact h,λn _ _=>by rw[k,k,Int.add_zero]⟩
def Asi{aG:Int}(h:(0:Int)<aG)(a:e.R0=7\/e.R0=8):Ays aG e:=by
 have k:∀n:Int,n<=80->tkE n e=n+1:=λn d=>by unfold tkE;rcases a with a|a<;>rw[a]<;>exact Aat ω
 exact⟨by rw[k 0 τ];omega,λn _ d=>by rw[k n d,k 0 τ];omega⟩
def Bdb{aG:Int}(d:e.R0=1)(h0:0<=e.N)(h1:e.N<=aG)(j:aG<=80):Ays aG e:=by
 have k:∀n:Int,0<=n->n<=80->tkE n e=n+e.N:=λn _ a=>by unfold tkE;rw[d,show((1:Int)==1)=H from rfl,h_,d_ ω,g_,Aat (n:=e.N) ω,Aat ω]
 exact⟨by rw[k 0 τ τ];omega,λn a hm=>by rw[k n a hm,k 0 τ τ];omega⟩
def Bdo(hb:b.small)(hcode:b.code=0){l:List Int}(hl:∀x∈l,0<=x/\x<256):W (OC b.C0 b.E0 b.J0 b.M0 b.K0 b.N0 b.O0 b.B0 l 80) λy=>y.1.1.length<=300/\(∀e∈y.1.1,FI b e=H)/\GR y.1.1<=80:=by
 have h4:=Ag hcode;have lo:=hb.lo;have hi:=hb.hi;have a:=Bbk ⟨lo,hi⟩;refine U (aH (λk z=>∃(out:List aU) (aG:Int) (i:Nat),z=((l,(),out,aG,(i:Int),()),(b.tp,()))/\out.length+k=300/\i=2*out.length/\(0<=aG/\0<=GR out/\GR out+aG=80)/\∀e∈out,FI b e=H) (λk z hz=>?_) 300 ⟨[],80,0,rfl,rfl,rfl,⟨τ,τ,rfl⟩,λ_ h=>by cases h⟩ τ) λy hy=>C hy;obtain⟨out,aG,i,rfl,h1,h2,w,F⟩:=hz;show W (Qd l out aG i b.C0 b.E0 b.J0 b.M0 b.K0 b.N0 b.O0 b.B0) _;have w1:aC.wrap _=((i+1:Nat):Int):=Cn ω;unfold Qd;rw[w1];refine V (λq1=>?_) λ_=>C ⟨by show out.length<=300;omega,F,by show GR out<=80;omega⟩;have q1:=j_ q1;refine V (λN=>?_) λ_=>C ⟨by show out.length<=300;omega,F,by show GR out<=80;omega⟩;have N:=j_ N;refine V (λq3=>?_) λ_=>C ⟨by show out.length<=300;omega,F,by show GR out<=80;omega⟩;have q3:=j_ q3;have g:∀j,j<l.length->0<=l.getD j 0/\l.getD j 0<256:=λj hj=>hl _<|AE 0 hj;have g0:=g i ω;have g1:=g (i+1) ω;refine J (Ac ω ω)<|J (Ac ω ω) ?_;simp only[l_];generalize l.getD i 0=x at g0;generalize l.getD (i+1) 0=y at g1;rw[Aa (n:=x) ω ω,Aa (n:=y) ω ω];refine J (Jc ω) ?_;refine U (Q:=λr=>∃e:aU,r=((l,(),out,aG,(i:Int),(),()),(b.tp,e.tup,()))/\FI b e=H/\Ays aG e) ?_ λr hr=>?_
 .have hx:=bB 8 g0.1;have h5:=bA x (show _<8 by decide);have P:1<=aC.wrap (1+aR x 8)/\aC.wrap (1+aR x 8)<=8:=by rw[Aa ω ω];omega
  have E:0<=aC.wrap (Int.tdiv x 8):=by
   have:=Int.tdiv_nonneg (b:=8) g0.1 τ
   have h9:Int.tdiv x 8<=255:=by rw[Int.tdiv_eq_ediv_of_nonneg g0.1];omega
   rw[Aa ω ω];exact this
  have h0:=bB b.B0.length E;have B:=bA (aJ aC<|Int.tdiv x 8) (ω:_<(b.B0.length:Int));generalize aC.wrap _=z3 at P;generalize aR _ _=cr at h0 B;have car:BR cr 0 (b.B0.length-1)=H:=CI.2 ω;refine V (λq=>?_) λn1=>V (λq=>?_) λn2=>V (λq=>?_) λn3=>V (λq=>C ⟨⟨z3,0,0,cr,y⟩,rfl,?_,Xj w.1 (by show z3≠1/\z3≠7/\z3≠8;have:=eq_of_beq q;omega)⟩) λn4=>V (λq=>C ⟨⟨z3,0,0,cr,aR y 60⟩,rfl,?_,Xj w.1 (by show z3≠1/\z3≠7/\z3≠8;have:=eq_of_beq q;omega)⟩) λn5=>V (λq=>C ⟨⟨z3,0,0,cr,aC.wrap _⟩,rfl,?_,Xj w.1 (by show z3≠1/\z3≠7/\z3≠8;have:=eq_of_beq q;omega)⟩) λn6=>V (λq=>C ⟨⟨z3,0,0,0,aR y 50⟩,rfl,?_,Asi N (by exact .inr<|eq_of_beq q)⟩) λn8=>C ⟨⟨z3,0,0,0,0⟩,rfl,?_⟩
  .have q:=eq_of_beq q;have hm:0<(bif decide (40<aG)then 40 else aG)/\(bif decide (40<aG)then 40 else aG)<=40/\(bif decide (40<aG)then 40 else aG)<=aG:=by
    by_cases h:40<aG
    .rw[b_ h];exact⟨show _<40 by decide,show 40<=40 by decide,show 40<=aG by omega⟩
    .rw[d_ h,g_];omega
   generalize(bif decide (40<aG)then _ else aG)=z at hm;have D:=bB z g1.1;have t2:=bA y hm.1;refine J (Jc ω)<|C ⟨⟨z3,0,0,0,aC.wrap _⟩,rfl,?_⟩;rw[q,Aa ω ω];refine⟨?_,Bdb rfl (ω:0<=1+aR y z) (ω:1+aR y z<=aG) ω⟩;show((0==0&&0==0)&&(0==0&&BR (1+aR y z) 1 5000))=H;rw[CI.2 ω];rfl
  .have q:=eq_of_beq q;refine J (Aig _)<|J (Aig _) ?_;refine U (Q:=λy=>y.1.1≠[]/\∀e∈y.1.1,NE b.C0 e.D0 e.I0=H) ?_ λp A=>?_
   .revert a;generalize SA _ _=o;intro a;cases o with
    |none=>cases a
    |some v=>rw[Bi5,a_,F_]at a;exact C ⟨λe=>by rw[e]at a;exact absurd a.1 τ,a.2⟩
   .have hn:=List.length_pos_iff.2 A.1;have hm:=bB (p.1.1.length:Int) g1.1;have R:=bA y (ω:_<(p.1.1.length:Int));have L:((p.1.1.length:Int) !=0)=H:=Jc ω;have e2:=Ac hm R;have hc:=Aqe (d:=Entry.mk 0 0 0 0 I) A.2 (ω:aK (aR y p.1.1.length)<p.1.1.length);refine J L<|J e2<|J L<|J e2<|C ⟨⟨z3,(p.1.1.getD _ _).D0,(p.1.1.getD _ _).I0,0,0⟩,rfl,?_,Xj w.1 (by show z3≠1/\z3≠7/\z3≠8;omega)⟩;rw[q];show((b.code==0&&NE b.C0 _ _)&&(0==0&&0==0))=H;rw[hc,hcode];rfl
  .have q:=eq_of_beq q;have D:=bB b.C0 g1.1;have t2:=bA y (ω:0<b.C0);refine J (Jc ω)<|C ⟨⟨z3,aR y b.C0,0,cr,0⟩,rfl,?_,Xj w.1 (by show z3≠1/\z3≠7/\z3≠8;omega)⟩;rw[q];show(BR cr 0 _&&(BR (aR y b.C0) 0 _&&(0==0&&0==0)))=H;rw[car,CI.2 ω];rfl
  .rw[eq_of_beq q];show((0==0&&0==0)&&(BR cr 0 _&&BR y 0 1000))=H;rw[car,CI.2 ω];rfl
  .rw[eq_of_beq q];have D:=bB 60 g1.1;have t2:=bA y (show _<60 by decide);show((0==0&&0==0)&&(BR cr 0 _&&BR (aR y 60) 0 10000))=H;rw[car,CI.2 ω];rfl
  .rw[eq_of_beq q];have D:=bB 8 g1.1;have t2:=bA y (show _<8 by decide);rw[Aa ω ω];show((0==0&&0==0)&&(BR cr 0 _&&BR (1+aR y 8) 1 8))=H;rw[car,CI.2 ω];rfl
  .rw[eq_of_beq q];have D:=bB 50 g1.1;have t2:=bA y (show _<50 by decide);show((0==0&&0==0)&&(0==0&&BR (aR y 50) 0 100000))=H;rw[CI.2 ω];rfl
  .have n:∀k:Int,(z3==k)=I->z3≠k:=λk h e=>by rw[e,p_]at h;cases h
   have:=n _ n1
   have:=n _ n2
   have:=n _ n3
   have:=n _ n4
   have:=n _ n5
   have:=n _ n6
   have:=n _ n8
   obtain rfl:z3=7:=ω;exact⟨rfl,Asi N<|.inl rfl⟩
 .obtain⟨e,rfl,Y,O⟩:=hr;have ht:=Ayr ⟨b8_ 0,τ⟩ e;refine S (Arq (by rw[D_];omega)) ?_;show W (bif Nat.ble (out.length+1) 2147483648 then Z (Sum.inl ((l,(),out++[e],aC.wrap<|aG-tkE 0 e,aC.wrap<|(i:Int)+2,()),(b.tp,())))else none) _;obtain⟨D,t2⟩:=O;rw[Aa ω ω,Aa ω ω];refine J (Am ω)<|C ⟨k-1,ω,out++[e],aG-tkE 0 e,i+2,rfl,by rw[e_,D_];omega,by rw[e_,D_];omega,?_,λq hq=>(n_.1 hq).elim (F q) λh=>by rw[E_.1 h];exact Y⟩;have L:GR (out++[e])=tkE (GR out) e:=by unfold GR;rw[bN];rfl
  rw[L,t2 _ w.2.1 ω];omega
def Ah8{X Y:Type}{s:X->Option (Sum X Y)}(L:X->Option Y)(_:L=iter s Db):X->Option (Sum X Y):=s
def Amd{X Y:Type}{s:X->Option (Sum X Y)}{L:X->Option Y}(h:L=iter s Db){n:Nat}{x:X}{y:Y}(hi:iter (Ah8 L h) n x=Z y)(a:n<=18446744073709551616):L x=Z y:=by rw[h];exact Aj hi a
noncomputable abbrev Ax6:=Ah8 HH rfl
noncomputable abbrev Js:=Ah8 HI rfl
def evS:List aU:=[⟨2,1,1,0,0⟩,⟨1,0,0,0,20⟩]
def Bez:List Car:=[⟨198,2,1,0,1,1,2,2,0⟩]
def b4S:List Int×List Bool×List Bool×List aM×ByteArray×ByteArray×Int×List aQ×List aV×List aX×List aZ×List Int×List aP×Int×Int×Int×List aT×List Rig×Unit:=([],[],[],[],AB [],AB [],0,[],[],[],[],[],[],0,0,0,[],[],())
def deS(f:Int)(u o c:Bool):aQ:=⟨f,u,I,o,c,0,0,0,0,0,0,0,0,0,0,0,0,0,0,0,0,0,0,0,0,0,0,0,0,0,0,0,0,0,0,0,0,0,0,0,0⟩
def pS(e:List aM)(h:ByteArray)(c:aQ)(q:aV)(d:Int)(x:List Int)(u:aP)(t:Int)(r:aT)(k:Int)(l:List Line):Int×Int×Int×Int×Nat×Nat×Nat×List Car×List Int×List Bool×List Bool×List aM×ByteArray×ByteArray×Int×List aQ×List aV×List aX×List aZ×List Int×List aP×Int×Int×Int×List aT×List Rig×Int×Int×Int×Int×List Int×List Int×List Bool×List Nat×Bool×List Int×Int×List Line×Unit:=(4,1,4000,1,4591870180066957722,4605380978949069210,4607632778762754458,Bez,[0],[I],[I],e,AB [],h,1,[c],[q],[⟨0,0,0,0,0,I,0,0,0,0,0,0,0,I⟩],[⟨d⟩],x,[u],t,0,0,[r],[⟨0,0,0,2,0,0⟩],k,0,0,0,[0],[1],[],[0],I,[0],t,l,())
def zS(i:Int)(p:Int×Int×Int×Int×Nat×Nat×Nat×List Car×List Int×List Bool×List Bool×List aM×ByteArray×ByteArray×Int×List aQ×List aV×List aX×List aZ×List Int×List aP×Int×Int×Int×List aT×List Rig×Int×Int×Int×Int×List Int×List Int×List Bool×List Nat×Bool×List Int×Int×List Line×Unit):(Unit×Unit×List aU×Int×Int×Int×Int×Unit)×((List Int×List Bool×List Bool×List aM×ByteArray×ByteArray×Int×List aQ×List aV×List aX×List aZ×List Int×List aP×Int×Int×Int×List aT×List Rig×Unit)×(Int×Int×Int×Int×Nat×Nat×Nat×List Car×List Int×List Bool×List Bool×List aM×ByteArray×ByteArray×Int×List aQ×List aV×List aX×List aZ×List Int×List aP×Int×Int×Int×List aT×List Rig×Int×Int×Int×Int×List Int×List Int×List Bool×List Nat×Bool×List Int×Int×List Line×Unit)×Unit):=(((),(),evS,2,1,20,i,()),(b4S,p,()))
def hA:ByteArray:=AB [4,0,0,2,0,165,5,0,0,2,0,199,6,0,0,2,0,97]
def hB:ByteArray:=AB [4,0,0,2,0,165,5,0,0,2,0,199,6,0,0,2,0,97,1,1,1,2,0,53,3,1,1,2,0,241]
def hC:ByteArray:=AB [4,0,0,2,0,165,5,0,0,2,0,199,6,0,0,2,0,97,1,1,1,2,0,53,3,1,1,2,0,241,2,1,1,2,0,147]
def lS:List Line:=[⟨4,AB [115,101,114,118,101,100,32,49,32,117,112]⟩]
def p0S:=pS [] hA (deS 0 I I I) ⟨(-1),0,0,[],0,I⟩ 0 [] ⟨0,0⟩ 0 ⟨0,0,0,0,2,0,0,0,0⟩ 2 []
def p1S:=pS [⟨1,1,0,0,I⟩] hB (deS 1 I I H) ⟨0,0,2,[⟨1,1,0⟩],1,I⟩ 1 [1] ⟨0,0⟩ 1 ⟨1,0,1,0,2,1,2,0,0⟩ 0 []
def p2S:=pS [⟨1,1,0,0,I⟩] hB (deS 0 H I H) ⟨0,1,2,[⟨1,1,1⟩],0,I⟩ 1 [0] ⟨0,0⟩ 2 ⟨2,1,1,2,0,1,2,0,0⟩ 0 []
def p3S:=pS [⟨1,1,0,0,I⟩] hB (deS 2 H I I) ⟨1,1,0,[⟨1,1,2⟩],0,I⟩ 1 [0] ⟨0,0⟩ 3 ⟨3,1,1,2,1,2,0,0,0⟩ 0 []
def p4S:=pS [] hC (deS 2 H H I) ⟨1,1,1,[],0,I⟩ 1 [] ⟨2,0⟩ 4 ⟨3,1,1,2,1,1,0,0,0⟩ 0 lS
def p5S:=pS [] hC (deS 2 H H I) ⟨1,1,1,[],0,I⟩ 1 [] ⟨2,0⟩ 5 ⟨4,1,1,2,0,1,0,0,0⟩ 0 lS
def p6S:=pS [] hC (deS 2 H I I) ⟨1,1,0,[],0,I⟩ 1 [] ⟨0,0⟩ 6 ⟨0,1,0,0,2,0,0,0,0⟩ 0 lS
def p7S:=pS [] hC (deS 2 I I H) ⟨1,0,2,[],1,I⟩ 1 [] ⟨0,0⟩ 7 ⟨0,1,0,0,2,0,0,0,0⟩ 0 lS
def p8S:=pS [] hC (deS 2 I I H) ⟨1,0,2,[],2,I⟩ 1 [] ⟨0,0⟩ 8 ⟨0,1,0,0,2,0,0,0,0⟩ 0 lS
def p9S:=pS [] hC (deS 2 I I H) ⟨1,0,2,[],3,I⟩ 1 [] ⟨0,0⟩ 9 ⟨0,1,0,0,2,0,0,0,0⟩ 0 lS
def Bpu:=pS [] hC (deS 2 I I H) ⟨1,0,2,[],4,I⟩ 1 [] ⟨0,0⟩ 10 ⟨0,1,0,0,2,0,0,0,0⟩ 0 lS
def Bpv:=pS [] hC (deS 2 I I H) ⟨1,0,2,[],5,I⟩ 1 [] ⟨0,0⟩ 11 ⟨0,1,0,0,2,0,0,0,0⟩ 0 lS
def Bpw:=pS [] hC (deS 2 I I H) ⟨1,0,2,[],6,I⟩ 1 [] ⟨0,0⟩ 12 ⟨0,1,0,0,2,0,0,0,0⟩ 0 lS
def Bpx:=pS [] hC (deS 2 I I H) ⟨1,0,2,[],7,I⟩ 1 [] ⟨0,0⟩ 13 ⟨0,1,0,0,2,0,0,0,0⟩ 0 lS
def Bpy:=pS [] hC (deS 2 I I H) ⟨1,0,2,[],8,I⟩ 1 [] ⟨0,0⟩ 14 ⟨0,1,0,0,2,0,0,0,0⟩ 0 lS
def Bpz:=pS [] hC (deS 2 I I H) ⟨1,0,2,[],9,I⟩ 1 [] ⟨0,0⟩ 15 ⟨0,1,0,0,2,0,0,0,0⟩ 0 lS
def Bp0:=pS [] hC (deS 2 I I H) ⟨1,0,2,[],10,I⟩ 1 [] ⟨0,0⟩ 16 ⟨0,1,0,0,2,0,0,0,0⟩ 0 lS
def Bp1:=pS [] hC (deS 2 I I H) ⟨1,0,2,[],11,I⟩ 1 [] ⟨0,0⟩ 17 ⟨0,1,0,0,2,0,0,0,0⟩ 0 lS
def Bp2:=pS [] hC (deS 2 I I H) ⟨1,0,2,[],12,I⟩ 1 [] ⟨0,0⟩ 18 ⟨0,1,0,0,2,0,0,0,0⟩ 0 lS
def Bp3:=pS [] hC (deS 2 I I H) ⟨1,0,2,[],13,I⟩ 1 [] ⟨0,0⟩ 19 ⟨0,1,0,0,2,0,0,0,0⟩ 0 lS
def Ae2:=pS [] hC (deS 2 I I H) ⟨1,0,2,[],14,I⟩ 1 [] ⟨0,0⟩ 20 ⟨0,1,0,0,2,0,0,0,0⟩ 0 lS
def tk0:Js (zS 0 p0S)=Z (.inl<|zS 1 p1S):=κ
def tk1:Js (zS 1 p1S)=Z (.inl<|zS 2 p2S):=κ
def tk2:Js (zS 2 p2S)=Z (.inl<|zS 3 p3S):=κ
def tk3:Js (zS 3 p3S)=Z (.inl<|zS 4 p4S):=κ
def tk4:Js (zS 4 p4S)=Z (.inl<|zS 5 p5S):=κ
def tk5:Js (zS 5 p5S)=Z (.inl<|zS 6 p6S):=κ
def tk6:Js (zS 6 p6S)=Z (.inl<|zS 7 p7S):=κ
def tk7:Js (zS 7 p7S)=Z (.inl<|zS 8 p8S):=κ
def tk8:Js (zS 8 p8S)=Z (.inl<|zS 9 p9S):=κ
def tk9:Js (zS 9 p9S)=Z (.inl<|zS 10 Bpu):=κ
def Cae:Js (zS 10 Bpu)=Z (.inl<|zS 11 Bpv):=κ
def Caf:Js (zS 11 Bpv)=Z (.inl<|zS 12 Bpw):=κ
def Cag:Js (zS 12 Bpw)=Z (.inl<|zS 13 Bpx):=κ
def Cah:Js (zS 13 Bpx)=Z (.inl<|zS 14 Bpy):=κ
def Cai:Js (zS 14 Bpy)=Z (.inl<|zS 15 Bpz):=κ
def Caj:Js (zS 15 Bpz)=Z (.inl<|zS 16 Bp0):=κ
def Cak:Js (zS 16 Bp0)=Z (.inl<|zS 17 Bp1):=κ
def Cal:Js (zS 17 Bp1)=Z (.inl<|zS 18 Bp2):=κ
def Cam:Js (zS 18 Bp2)=Z (.inl<|zS 19 Bp3):=κ
def Cao:Js (zS 19 Bp3)=Z (.inl<|zS 20 Ae2):=κ
def wS:(Unit×Unit×List aU×Int×Int×Unit)×((List Int×List Bool×List Bool×List aM×ByteArray×ByteArray×Int×List aQ×List aV×List aX×List aZ×List Int×List aP×Int×Int×Int×List aT×List Rig×Unit)×(Int×Int×Int×Int×Nat×Nat×Nat×List Car×List Int×List Bool×List Bool×List aM×ByteArray×ByteArray×Int×List aQ×List aV×List aX×List aZ×List Int×List aP×Int×Int×Int×List aT×List Rig×Int×Int×Int×Int×List Int×List Int×List Bool×List Nat×Bool×List Int×Int×List Line×Unit)×Unit):=(((),(),evS,2,1,()),(b4S,Ae2,()))
def Bs9:HI (zS 0 p0S)=Z wS:=Amd rfl (n:=21) ((Aq tk0).trans<|(Aq tk1).trans<|(Aq tk2).trans<|(Aq tk3).trans<|(Aq tk4).trans<|(Aq tk5).trans<|(Aq tk6).trans<|(Aq tk7).trans<|(Aq tk8).trans<|(Aq tk9).trans<|(Aq Cae).trans<|(Aq Caf).trans<|(Aq Cag).trans<|(Aq Cah).trans<|(Aq Cai).trans<|(Aq Caj).trans<|(Aq Cak).trans<|(Aq Cal).trans<|(Aq Cam).trans<|(Aq Cao).trans<|Ax (show Js (zS 20 Ae2)=Z (.inr wS)by kernel_rfl)) τ
def cnT{x y r:α}(h:c=H)(a:x=r):(bif c then x else y)=r:=by subst h;exact a
def cnF{x y r:α}(h:c=I)(a:y=r):(bif c then x else y)=r:=by subst h;exact a
def pBS:=pS [] hA (deS 0 I I I) ⟨(-1),0,0,[],0,I⟩ 0 [] ⟨0,0⟩ 0 ⟨0,0,0,0,2,0,0,0,0⟩ 0 []
def Bs8:HH (((),(),evS,2,0,()),(b4S,pBS,()))=Z (((),(),()),(b4S,Ae2,())):=
 have h0:Ax6 (((),(),evS,2,0,()),(b4S,pBS,()))=Z (.inl (((),(),evS,2,1,()),(b4S,p0S,()))):=κ;have h1:Ax6 (((),(),evS,2,1,()),(b4S,p0S,()))=Z (.inl (((),(),evS,2,2,()),(b4S,Ae2,()))):=by unfold Ax6 Ah8 Qe;exact cnT τ<|cnT τ<|cnT τ<|Ae Bs9 κ
 have a:Ax6 (((),(),evS,2,2,()),(b4S,Ae2,()))=Z (.inr (((),(),()),(b4S,Ae2,()))):=κ
 Amd rfl (n:=3) ((Aq h0).trans<|(Aq h1).trans<|Ax a) τ
def imS:List Int×List Bool×List Bool×List aM×ByteArray×ByteArray×Int×List aQ×List aV×List aX×List aZ×List Int×List aP×Int×Int×Int×List aT×List Rig×Unit:=([0],[I],[I],[],AB [],hC,1,[⟨2,I,I,I,H,0,0,0,0,0,0,0,0,0,0,0,0,0,0,0,0,0,0,0,0,0,0,0,0,0,0,0,0,0,0,0,0,0,0,0,0⟩],[⟨1,0,2,[],14,I⟩],[⟨0,0,0,0,0,I,0,0,0,0,0,0,0,I⟩],[⟨1⟩],[],[⟨0,0⟩],20,0,0,[⟨0,1,0,0,2,0,0,0,0⟩],[⟨0,0,0,2,0,0⟩],())
def Cab:GI 4 1 4000 1 4591870180066957722 4605380978949069210 4607632778762754458 Bez evS=Z (((),lS,0,()),(imS,())):=by unfold GI;refine Ae (a:=((H,()),())) κ<|cnF rfl<|Ae (a:=((20,()),())) κ<|cnF τ ?_;refine cnT τ<|cnT τ<|cnT τ<|cnT τ<|cnT τ ?_;refine Ae (a:=(((),0,()),(([0],[I],[I],[],AB [],hA,1,[⟨0,I,I,I,I,0,0,0,0,0,0,0,0,0,0,0,0,0,0,0,0,0,0,0,0,0,0,0,0,0,0,0,0,0,0,0,0,0,0,0,0⟩],[⟨(-1),0,0,[],0,I⟩],[⟨0,0,0,0,0,I,0,0,0,0,0,0,0,I⟩],[⟨0⟩],[],[⟨0,0⟩],0,0,0,[⟨0,0,0,0,2,0,0,0,0⟩],[⟨0,0,0,2,0,0⟩],()),()))) κ<|Ae (a:=((evS,(),(),()),(b4S,pBS,()))) κ<|Ae Bs8 rfl
def Btb:OD=Z ((H,()),()):=by
 unfold OD;refine Ae (a:=(((),()),((4,1,4000,1,4591870180066957722,4605380978949069210,4607632778762754458,Bez,()),()))) κ ?_;refine Ae (a:=((evS,0,0,()),())) κ ?_;refine Ae (a:=((AB [112,114,101,115,115,32,49,32,117,112,10,119,97,105,116,32,50,48,10],0,()),())) κ ?_;refine Ae Cab ?_;refine Ae (a:=(([],2,300,()),())) κ ?_
 kernel_rfl
def Bb7(n:Int):mil n<=n:=by
 unfold mil;cases h:decide ((1000000:Int)<n)with
 |true=>have:=j_ h;show(1000000:Int)<=n;omega
 |false=>exact b8_ n
def KQ(n:Int):aU:=⟨1,0,0,0,n⟩
def Akq(m:Int)(h:0<=n):tkE m (KQ n)<=m+n:=by
 have h1:=Bb7 n;have a:=Bb7<|m+mil n;have e:tkE m (KQ n)=mil (m+mil n):=by unfold tkE KQ;simp only[show((1:Int)==1)=H from rfl,h_];rw[d_ (ω:¬n<0),g_]
 omega
def Aij(b:aB)(h:1<=n/\n<=5000):FI b (KQ n)=H:=by show(((0:Int)==0&&(0:Int)==0)&&((0:Int)==0&&BR n 1 5000))=H;rw[CI.2 h];rfl
def Bil{x:Int}(h:0<=x/\x<256):∃p:Nat,aC.wrap ((1:Int)+aC.wrap (aR x 30))=(p:Int)/\1<=p/\p<=30:=by have h1:=bB (a:=x) 30 h.1;have d:=bA x (show(0:Int)<30 by decide);rw[Aa (n:=aR x 30) ω ω,Aa ω ω];exact⟨(1+aR x 30).toNat,ω,ω,ω⟩
def Ag4(F:Int)(w:Int)(E:Int)(l:List Int)(L:Int)(j:Int)(h0:0<=F/\F<256)(Y:0<=w/\w<256)(P:0<=E/\E<256)(hf:l.length<=maxLen/\∀e∈l,(0<=e/\e<256))(h5:0<=L/\L<256)(R:0<=j/\j<256):F_l29_ScriptWaits F w E l L j=Z ((H,()),()):=by
 refine aY ?_;unfold F_l29_ScriptWaits;obtain⟨_,hn,b,rfl,hw⟩:=Bpe h0 Y P;have hr:=Ag hw.code;obtain⟨y2,he,h6,a,h4⟩:=Bdo hw.small hw.code hf.2;obtain⟨⟨e,⟨⟩⟩,⟨⟩⟩:=y2;have h6:e.length<=300:=h6;have a:∀x∈e,FI b x=H:=a;have h4:GR e<=80:=h4;obtain⟨p,hp,p1,p2⟩:=Bil h5;obtain⟨q,hq,q1,q2⟩:=Bil R;obtain⟨P0,hd,O,D⟩:=Bmu hw;obtain⟨P1,v1,hj,k1,g1,n1⟩:=Bbc hw hd a (by rw[O,c6_];omega);obtain⟨N,v2,hh,k2,g2,n2⟩:=YL hw (n:=p) hj (by rw[g1,O,c5_];omega);obtain⟨P3,v3,hk,k3,g3,n3⟩:=YL hw (n:=q) hh (by rw[g2,g1,O,c5_,e_];omega);have h8:∀{n:Nat},1<=n->n<=60->∀{A B:Ply},Steps b n A B->Evs b [KQ (n:Int)] A B:=λ{n} h1 h2 {A B} s=>.wait rfl rfl ω s<|.nil B;have d:∀{k:List aU},(∀x∈k,FI b x=H)->∀x∈e++k,FI b x=H:=λ{k} h x hx=>(n_.1 hx).elim (a x)<|h x;have h7:∀{n:Nat},1<=n->n<=60->∀x∈[KQ (n:Int)],FI b x=H:=λ{n} h1 h2 x hx=>by rw[E_.1 hx];exact Aij b ω
 have h9:∀{n:Nat},n<=60->GR (e++[KQ (n:Int)])<=5000:=λ{n} h=>by
  unfold GR;rw[bN]
  have:=Akq (e.foldl tkE 0) (n:=(n:Int)) ω
  have h3:e.foldl tkE 0<=80:=h4;show tkE (e.foldl tkE 0) (KQ (n:Int))<=5000;omega
 have r1:=D (l:=e++[KQ ((p+q:Nat):Int)]) (by rw[e_];show e.length+1<=_;omega) (d<|h7 ω ω) (h9 ω)<|v1.app<|h8 ω ω<|v2.app v3;have r2:=D (l:=e++[KQ (p:Int),KQ (q:Int)]) (by rw[e_];show e.length+2<=_;omega) (d λx hx=>by
  rcases x_.1 hx with rfl|hx
  .exact Aij b ω
  .exact h7 q1 ω x hx) (by
  unfold GR;rw[bN];have h1:=Akq (e.foldl tkE 0) (n:=(p:Int)) ω;have h2:=Akq (tkE (e.foldl tkE 0)<|KQ (p:Int)) (n:=(q:Int)) ω;have h3:e.foldl tkE 0<=80:=h4;show tkE (tkE (e.foldl tkE 0)<|KQ (p:Int)) (KQ (q:Int))<=5000;omega)<|v1.app<|.wait rfl rfl ω v2<|h8 q1 ω v3
 have r3:=D (l:=e++[KQ (p:Int)]) (by rw[e_];show e.length+1<=_;omega) (d<|h7 p1 ω) (h9 ω)<|v1.app<|h8 p1 ω v2;have hg:P3.lines.length<=100000000:=by rw[g3,g2,g1,O,c5_,e_,e_];omega
 have ho:N.lines.length<=P3.lines.length:=by rw[g3,e_];omega
 have ha:aC.wrap ((p:Int)+(q:Int))=((p+q:Nat):Int):=by rw[Aa ω ω];omega
 refine S hn<|S he ?_;rw[hp,hq];rw[<-ha]at r1;have bl:Nat.ble (([]:List aU).length+e.length) 2147483648=H:=Am (by show 0+e.length<=_;omega);have b1:Nat.ble (e.length+1) 2147483648=H:=Am ω;have b2:Nat.ble (e.length+2) 2147483648=H:=Am ω;refine J bl<|J b1<|S r1<|J bl<|J b2<|S r2<|J bl<|J b1<|S r3<|S rfl ?_;refine U (Q:=λy=>y=((H,()),())) ?_ λy hy=>by subst hy;exact C rfl
 refine J rfl<|J rfl<|J rfl<|S (Bc1 hw hk.s)<|J rfl<|S (Ag9 hg)<|J rfl<|J (b_ (by show(N.lines.length:Int)<=(P3.lines.length:Int);omega))<|J ?_ ?_
 .show(decide ((0:Int)<=(N.lines.length:Int))&&decide ((N.lines.length:Int)<=(P3.lines.length:Int)))=H;rw[b_ (ω:(0:Int)<=(N.lines.length:Int)),b_ (ω:(N.lines.length:Int)<=(P3.lines.length:Int))];rfl
 .have e9:List.drop 0 (List.take (aK (N.lines.length:Int)) P3.lines)=N.lines:=by
   rw[d3_,l_,g3,d6_];rfl
  refine S (show Kv N.lines (List.drop 0<|List.take (aK (N.lines.length:Int)) P3.lines)=Z ((H,()),())by rw[e9];exact Ag9 ω)<|J rfl<|S Btb<|C rfl
end Go.Ovl
