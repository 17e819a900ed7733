import Derived.Test.YtefkmkbfjmahhaaGreatDoorOvN
import Derived.Test.YtefkmkbfjmahhaaGreatDoorOvM
import Derived.Test.YtefkmkbfjmahhaaGreatDoorDefs4
import Derived.Test.YtefkmkbfjmahhaaGreatDoorOvD
set_option linter.all false
open Go.Ovl renaming ofC->A,phA->D,Mch->E,Record->aA,F_l27_MachineJournal->aF
open Bool renaming true->B,false->O
open Go.Ovl.Sat renaming bindE->C,ret->H,bifF->I,bifT->J,bindS->aB
open Go.IntKind renaming i64->aC,wrap->aD
open List renaming foldl_append->aE
namespace Go.Ovl
open Go Go.Ab
set_option maxRecDepth 100000
variable{m:E}{b:Bldg}{c:Nat}
structure LampF(P N press cl ref served:Int×Int):Prop where
 n:∀f:Nat,f<32→∀d:Int,(d=1∨d=2)→Az N f d=((Az P f d&&!Az cl f d)||(Az press f d&&(!Az P f d&&!Az ref f d)))
 r:∀f:Nat,f<32→∀d:Int,(d=1∨d=2)→Az ref f d=true→Az press f d=true∧Az P f d=false
 s:∀f:Nat,f<32→∀d:Int,(d=1∨d=2)→Az served f d=(Az P f d&&Az cl f d)
 ur:Gt ref
 us:Gt served
section
variable{b:Bldg}(hw:BW b){m:E}{x:Inp}{g:Bool}{m':E}{o:Outputs}{l1 l2:List aA}{u:E}{vs:List View}{X:Rnd}(h:TickF b m x g m' o l1 l2 u vs X)
include hw h
theorem TickF.ents:u.C0.A0=m.C0.A0:=by
 have k1:K3 l1:=λr hr=>by obtain⟨i,_,rfl⟩:=h.fl r hr;exact .inr (.inl rfl)
 have k2:K3 l2:=by
  rcases h.op with⟨_,rfl⟩ | ⟨_,i,cm,fr,_,hi,_,rfl⟩
  ·exact λr h=>by cases h
  ·intro r hr;obtain⟨j,k,v,_,rfl,h⟩:=Acg _ _ hi _ _ r hr;show k=4∨k=5∨k=6;omega
 rw[h.iu,Ls _ k2,Ls _ k1]
end
structure LampG(P N press lit ref served:Int×Int):Prop where
 come:isZ (AU (AU N P) press)=true
 gone:AU P N=served
 lit:AU P N=CU P lit
 dark:isZ (AU (AU press P) (AU N P))=isZ ref
def LampF.good{P N press lit ref served:Int×Int}(h:LampF P N press lit ref served):LampG P N press lit ref served:=by
 have hs:∀f:Nat,f<32→∀d:Int,(d=1∨d=2)→Az (AU P N) f d=(Az P f d&&Az lit f d):=λf hf d hd=>by rw[CT _ _ hf,h.n f hf d hd];cases Az P f d<;>cases Az lit f d<;>cases Az press f d<;>rfl
 refine⟨(Lw (Hs _ _)).2 λf hf d hd=>?_,RM (Hs _ _) h.us λf hf d hd=>?_,RM (Hs _ _) (Abi _ _) λf hf d hd=>?_,?_⟩
 ·rw[CT _ _ hf,CT _ _ hf,h.n f hf d hd];cases Az P f d<;>cases Az press f d<;>simp
 ·rw[hs f hf d hd,h.s f hf d hd]
 ·rw[hs f hf d hd,Ml]
 ·rw[Bool.eq_iff_iff,Lw (Hs _ _),Lw h.ur];refine forall_congr' λf=>forall_congr' λhf=>forall_congr' λd=>forall_congr' λhd=>?_;have hr:=h.r f hf d hd;rw[CT _ _ hf,CT _ _ hf,CT _ _ hf,h.n f hf d hd];cases hq:Az ref f d with
  |true=>obtain⟨e1,e2⟩:=hr hq;rw[e1,e2];simp
  |false=>cases Az P f d<;>cases Az press f d<;>simp
def Wo{α:Type}(l k:List α)(j:Nat):(∃i,(l++k).take j=l.take i)∨∃i,(l++k).take j=l++k.take i:=by
 by_cases h:j≤l.length
 ·exact .inl ⟨j,d3_ h⟩
 ·refine .inr ⟨j-l.length,?_⟩;rw[List.take_append,a5_ ω]
def Beq{m:Img}(hm:m.fits b){kind:Int}{i:Nat}(hi:i<b.B0.length){cm:List Bool}(hcm:cm.length=b.B0.length){fr:Bool}(hc:c<b.B0.length){r s:aA}(hr:r∈He b m kind i cm fr)(hr4:r.Q0=4∧r.R0=(c:Int))(hs:s∈He b m kind i cm fr)(hs4:s.Q0=4∧s.R0=(c:Int)):r.J1=s.J1:=by
 have h1:=(Wg (b:=b) m kind hi (cm.getD i O) fr).2;rcases Anw hm hi hcm hc hr hr4.2 with⟨a1,a2,a3⟩ | ⟨_,a2,_,_,a3,_⟩<;>rcases Anw hm hi hcm hc hs hs4.2 with⟨b1,b2,b3⟩ | ⟨_,b2,_,_,b3,_⟩
 ·generalize(Jh m kind i (cm.getD i O) fr).1=l at h1 a1 b1
  match l,h1,a1,b1 with
  |[],_,a1,_=>cases a1
  |[x],_,a1,b1=>rw[C_.1 a1,C_.1 b1]
 ·exact absurd a2 (b2 a3)
 ·exact absurd b2 (a2 b3)
 ·omega
section
variable{b:Bldg}(hw:BW b){m:E}{x:Inp}{g:Bool}{m':E}{o:Outputs}{l1 l2:List aA}{u:E}{vs:List View}{X:Rnd}(h:TickF b m x g m' o l1 l2 u vs X)
include hw h
theorem Aus(hm:PM b m)(j:Nat)(hc:c<b.B0.length):D (Ag m.C0 ((l1++l2++X.recs).take j)) c=D m.C0 c∨D (Ag m.C0 ((l1++l2++X.recs).take j)) c=D m'.C0 c:=by
 have hl1:∀r∈l1,LW b r:=λr hr=>Azu (h.fl r hr);have hf0:=hm.jst.img.fits;have hf1:=Bdm hl1 hf0;have fl:∀l:List aA,(∀r∈l,r∈l1)→D (Ag m.C0 l) c=D m.C0 c:=λl hl=>by
  rcases Xt (λr hr=>hl1 r (hl r hr)) hf0 hc with⟨e,_⟩ | ⟨r,hr,⟨hk,_⟩,_⟩
  ·exact e
  ·obtain⟨i,_,rfl⟩:=h.fl r (hl r hr);cases hk
 have h1:=(h.rest hw).1;have e1:D m'.C0 c=D u.C0 c:=by unfold D;rw[h1]
 rcases Wo (l1++l2) X.recs j with⟨i,e⟩ | ⟨i,e⟩
 ·rw[e];rcases Wo l1 l2 i with⟨i,e⟩ | ⟨i,e⟩
  ·rw[e];exact .inl (fl _ λr hr=>T_ hr)
  ·rw[e,Bp];rcases h.op with⟨_,rfl⟩ | ⟨_,k,cm,fr,_,hk,hcm,e2⟩
   ·rw[List.take_nil];exact .inl (fl _ λr hr=>hr)
   ·have ok:=Acg (b:=b) (Ag m.C0 l1) x.kind hk cm fr;rw[← e2]at ok;rcases Xt (l:=l2.take i) (λr hr=>ok r (T_ hr)) hf1 hc with⟨e,_⟩ | ⟨r,hr,hr4,e⟩
    ·exact .inl (e.trans (fl _ λr hr=>hr))
    ·right;rw[e,e1,h.iu];have hr:=T_ hr;rcases Xt ok hf1 hc with⟨_,n⟩ | ⟨s,hs,hs4,e3⟩
     ·exact absurd hr4 (n r hr)
     ·rw[e3];rw[e2]at hr hs;exact Beq hf1 hk hcm hc hr hr4 hs hs4
 ·right;rw[e,Bp,Bp,← h.iu,e1]
  have:=(Yf (l:=X.recs.take i) u.C0 λr hr=>h.recs_kd hw r (T_ hr)).1
  unfold D;rw[this]
omit hw h in
theorem Ul{f:Nat}(hf:f<32){d:Int}(hd:d=1∨d=2):∀{l:List aA}{c:Int×Int},(∀r∈l,r.Q0=2∧(0≤r.E0∧r.E0<32)∧(r.J0=1∨r.J0=2))→(Az (l.foldl EG c) f d=B↔Az c f d=B∧¬∃r∈l,((f:Int),d)=(r.E0,r.J0))
 |[],c,_=>by simp
 |r::t,c,h=>by
  obtain⟨h1,h2,h3⟩:=h r (s_ ..);have hs:EG c r=AU c (EB r.E0 r.J0):=by unfold EG;rw[h1];rfl
  rw[e9_,Ul hf hd λx hx=>h x (u_ _ hx),hs,CT _ _ hf,QE h2 h3 f hd,e_,b2_,decide_eq_false_iff_not];constructor
  ·rintro⟨⟨a1,a2⟩,a3⟩;refine⟨a1,λ⟨s,hs,e⟩=>?_⟩;rcases t_.1 hs with rfl | hs
   ·exact a2 e
   ·exact a3 ⟨s,hs,e⟩
  ·rintro⟨a1,a2⟩;exact⟨⟨a1,λe=>a2 ⟨r,s_ ..,e⟩⟩,λ⟨s,hs,e⟩=>a2 ⟨s,u_ _ hs,e⟩⟩
omit hw h in
theorem Wu{f:Nat}{d:Int}(hd:d=1∨d=2):∀{l:List aA}{c:Int×Int},(∀r∈l,r.Q0=1∧(0≤r.E0∧r.E0<32)∧(r.J0=1∨r.J0=2))→(Az (l.foldl EG c) f d=B↔Az c f d=B∨∃r∈l,((f:Int),d)=(r.E0,r.J0))
 |[],c,_=>by simp
 |r::t,c,h=>by
  obtain⟨h1,h2,h3⟩:=h r (s_ ..);have hs:EG c r=Cm c (EB r.E0 r.J0):=by unfold EG;rw[h1];rfl
  rw[e9_,Wu hd λx hx=>h x (u_ _ hx),hs,KG,QE h2 h3 f hd,a2_,v_];constructor
  ·rintro((a1 | a1) | ⟨s,hs,e⟩)
   ·exact .inl a1
   ·exact .inr ⟨r,s_ ..,a1⟩
   ·exact .inr ⟨s,u_ _ hs,e⟩
  ·rintro(a1 | ⟨s,hs,e⟩)
   ·exact .inl (.inl a1)
   ·rcases t_.1 hs with rfl | hs
    ·exact .inl (.inr e)
    ·exact .inr ⟨s,hs,e⟩
omit hw h in
theorem Ae1(b:Bldg):∀(l:List Entry) (X:Rnd),∃R,(Ji b l X).recs=X.recs++R∧∀r∈R,∃e∈l,r=Xx e
 |[],X=>⟨[],(a0_ _).symm,λr h=>by cases h⟩
 |e::t,X=>by
  obtain⟨R,h1,h2⟩:=Ae1 b t (FP b e X);have hR:Ji b (e::t) X=Ji b t (FP b e X):=rfl;cases hr:Oc b X.img with
  |false=>
   have e1:(FP b e X).recs=X.recs:=by unfold FP;rw[hr];rfl
   refine⟨R,by rw[hR,h1,e1],λr h=>?_⟩;obtain⟨e',h3,h4⟩:=h2 r h;exact⟨e',u_ _ h3,h4⟩
  |true=>
   have e1:(FP b e X).recs=X.recs++[Xx e]:=by unfold FP;rw[hr];rfl
   refine⟨Xx e::R,by rw[hR,h1,e1,F_];rfl,λr h=>?_⟩;rcases t_.1 h with rfl | h
   ·exact⟨e,s_ ..,rfl⟩
   ·obtain⟨e',h3,h4⟩:=h2 r h;exact⟨e',u_ _ h3,h4⟩
theorem Bbb:∃S R P,X.recs=S++(R++P)∧(∀r∈S,r.Q0=2∧(0≤r.E0∧r.E0<32)∧(r.J0=1∨r.J0=2))∧(∀r∈R,(r.Q0=1∧(0≤r.E0∧r.E0<32)∧(r.J0=1∨r.J0=2))∧∀f:Nat,∀d:Int,((f:Int),d)=(r.E0,r.J0)→Az (A u.C0.A0 (0,0)) f d=O)∧∀r∈P,r.Q0=3∨r.Q0=7:=by
 have him:=h.pu.jst.img;have hpl:=XF hw.small hw.code him h.pu.exl h.pu.exv (vs:=vs) u.I3 x.press g h.va.len;have hcall:∀e∈u.C0.A0,Adg e:=λe he=>WB hw.small (DL.1 (him.en e he)).1;have hrecs:X.recs=(Dg b u.C0 u.X1 vs u.I3 x.press g).recs++(ZY b u.C0 u.X1 vs u.I3 x.press g).1:=by rw[h.hX];rfl
 rw[hrecs,hpl];cases g with
 |false=>exact⟨[],[],_,rfl,λr h=>(by cases h),λr h=>(by cases h),Qj b vs _ _⟩
 |true=>
  obtain⟨R,r1,r2⟩:=Ae1 b (GV (VX b u.C0 x.press)) (wrL (FO b vs u.C0.A0) ⟨[],u.C0,u.X1,GJ b vs u.I3,(0,0)⟩);have e4:(Dg b u.C0 u.X1 vs u.I3 x.press B).recs=FO b vs u.C0.A0++R:=r1;refine⟨FO b vs u.C0.A0,R,_,by rw[e4,F_],λr hr=>?_,λr hr=>?_,Qj b vs _ _⟩
  ·unfold FO at hr;obtain⟨e,he,hr⟩:=c3_.1 hr;cases hs:Tb b vs e.E0 e.J0 with
   |false=>rw[hs]at hr;cases hr
   |true=>rw[hs]at hr;rw[C_.1 hr];exact⟨rfl,hcall e he⟩
  ·obtain⟨e,he,rfl⟩:=r2 r hr;obtain⟨p1,p2,p3⟩:=Ai6 he;refine⟨⟨rfl,p1,p2⟩,λf d hfd=>?_⟩;obtain⟨q1,q2⟩:=Prod.mk.inj hfd;have q1:(f:Int)=e.E0:=q1;have q2:d=e.J0:=q2;have hf:f<32:=ω;rw[show e.E0.toNat=f by omega,← q2]at p3;unfold VX at p3;rw[CT _ _ hf]at p3;simp only[e_,b2_]at p3;exact p3.2
theorem Aur(hm:PM b m)(j:Nat):isZ (AU (CU (A m.C0.A0 (0,0)) (A m'.C0.A0 (0,0))) (A (Ag m.C0 ((l1++l2++X.recs).take j)).A0 (0,0)))=B∧isZ (AU (A (Ag m.C0 ((l1++l2++X.recs).take j)).A0 (0,0)) (Cm (A m.C0.A0 (0,0)) (A m'.C0.A0 (0,0))))=B:=by
 have he:=h.ents hw;have him:=h.pu.jst.img;have k1:K3 l1:=λr hr=>by obtain⟨i,_,rfl⟩:=h.fl r hr;exact .inr (.inl rfl)
 have k2:K3 l2:=by
  rcases h.op with⟨_,rfl⟩ | ⟨_,i,cm,fr,_,hi,_,rfl⟩
  ·exact λr h=>by cases h
  ·intro r hr;obtain⟨j,k,v,_,rfl,h⟩:=Acg _ _ hi _ _ r hr;show k=4∨k=5∨k=6;omega
 rcases Wo (l1++l2) X.recs j with⟨i,e⟩ | ⟨i,e⟩
 ·have k3:K3 ((l1++l2).take i):=λr hr=>by
   rcases o_.1 (T_ hr)with hr | hr
   ·exact k1 r hr
   ·exact k2 r hr
  rw[e,Ls _ k3];refine⟨(Lw (Hs _ _)).2 λf hf d _=>?_,(Lw (Hs _ _)).2 λf hf d _=>?_⟩
  ·rw[CT _ _ hf,Ml];cases Az (A m.C0.A0 (0,0)) f d<;>simp
  ·rw[CT _ _ hf,KG];cases Az (A m.C0.A0 (0,0)) f d<;>simp
 ·rw[e,Bp,Bp,← h.iu,← he,h.img,← h.rg.img];have hv:=h.rg.good.valid;have hcl:∀p:List aA,(∀r∈p,r∈X.recs)→A (Ag u.C0 p).A0 (0,0)=p.foldl EG (A u.C0.A0 (0,0)):=λp hp=>by
   obtain⟨a1,a2,a3⟩:=Ahz hw.small p (Azo hw.small him) (Ahc _ OA) him λr hr=>hv r (hp r hr);refine RM (Ahc _ OA) a2 λf hf d hd=>?_;rw[Bool.eq_iff_iff,Ahb (λe he=>WB hw.small (DL.1 (a3.en e he)).1) f hd,a1 f hf d hd,OF];simp
  rw[hcl _ λr hr=>T_ hr,hcl _ λr hr=>hr];obtain⟨S,R,P,eX,hS,hR,hP⟩:=Bbb hw h;rw[eX];have now:∀f:Nat,f<32→∀d:Int,(d=1∨d=2)→(Az ((S++(R++P)).foldl EG (A u.C0.A0 (0,0))) f d=B↔(Az (A u.C0.A0 (0,0)) f d=B∧¬∃r∈S,((f:Int),d)=(r.E0,r.J0))∨∃r∈R,((f:Int),d)=(r.E0,r.J0)):=λf hf d hd=>by rw[aE,aE,Yy _ hP,Wu hd λr hr=>(hR r hr).1,Ul hf hd hS]
  have is:∀f:Nat,f<32→∀d:Int,(d=1∨d=2)→∃S' R':List aA,(∀r∈S',r∈S)∧(∀r∈R',r∈R)∧(Az (((S++(R++P)).take i).foldl EG (A u.C0.A0 (0,0))) f d=B↔(Az (A u.C0.A0 (0,0)) f d=B∧¬∃r∈S',((f:Int),d)=(r.E0,r.J0))∨∃r∈R',((f:Int),d)=(r.E0,r.J0)):=λf hf d hd=>by
   rcases Wo S (R++P) i with⟨a,e⟩ | ⟨a,e⟩
   ·refine⟨S.take a,[],λr hr=>T_ hr,λr hr=>(by cases hr),?_⟩;rw[e,Ul hf hd λr hr=>hS r (T_ hr)];simp
   ·rcases Wo R P a with⟨c,e2⟩ | ⟨c,e2⟩
    ·refine⟨S,R.take c,λr hr=>hr,λr hr=>T_ hr,?_⟩;rw[e,e2,aE,Wu hd λr hr=>(hR r (T_ hr)).1,Ul hf hd hS]
    ·refine⟨S,R,λr hr=>hr,λr hr=>hr,?_⟩;rw[e,e2,aE,aE,Yy _ λr hr=>hP r (T_ hr),Wu hd λr hr=>(hR r hr).1,Ul hf hd hS]
  refine⟨(Lw (Hs _ _)).2 λf hf d hd=>?_,(Lw (Hs _ _)).2 λf hf d hd=>?_⟩
  ·obtain⟨S',R',hs,hr,hi⟩:=is f hf d hd;have hn:=now f hf d hd;rw[CT _ _ hf,Ml];cases w:Az (A u.C0.A0 (0,0)) f d with
   |false=>rfl
   |true=>
    cases n:Az ((S++(R++P)).foldl EG (A u.C0.A0 (0,0))) f d with
    |false=>rfl
    |true=>
     have:Az (((S++(R++P)).take i).foldl EG (A u.C0.A0 (0,0))) f d=B:=by
      rw[hi];rcases hn.1 n with⟨_,n2⟩ | ⟨r,hr2,e3⟩
      ·exact .inl ⟨w,λ⟨r,hr2,e3⟩=>n2 ⟨r,hs r hr2,e3⟩⟩
      ·rw[(hR r hr2).2 f d e3]at w;cases w
     rw[this];rfl
  ·obtain⟨S',R',hs,hr,hi⟩:=is f hf d hd;have hn:=now f hf d hd;rw[CT _ _ hf,KG];cases q:Az (((S++(R++P)).take i).foldl EG (A u.C0.A0 (0,0))) f d with
   |false=>rfl
   |true=>
    rcases hi.1 q with⟨w,_⟩ | ⟨r,hr2,e3⟩
    ·rw[w];rfl
    ·rw[hn.2 (.inr ⟨r,hr r hr2,e3⟩)];simp
end
def Aft(b:Bldg)(m:E)(L:List aA)(m':E)(e:Int)(u:E):Prop:=(e=0∧u=m')∨(e=8∧u.C0.F0=[]∧u.U0.ok b.I0∧∃j,Cf b u.U0=Ag m.C0 (L.take j))
section
variable{b:Bldg}(hw:BW b)
include hw
theorem Bs2(hm:PM b m){s:ByteArray}(hs:Fr b s){k:Int}(hk:0≤k∧k<9223372036854775808):∃(m':E) (o:Outputs) (e:Int) (u':E) (o':Outputs),Di b.D0 b.G0 b.I0 b.M0 b.L0 b.N0 b.O0 b.B0 m.C0.F0 m.C0.K0 m.C0.H0 m.C0.A0 m.U0.h0 m.U0.h1 m.U0.sel m.R1 m.X0 m.B0 m.M2 m.X1 m.I3 m.U3 m.Q2 m.G2 s 1048576=some (((),(),0,()),(m'.tup,outP o,()))∧Di b.D0 b.G0 b.I0 b.M0 b.L0 b.N0 b.O0 b.B0 m.C0.F0 m.C0.K0 m.C0.H0 m.C0.A0 m.U0.h0 m.U0.h1 m.U0.sel m.R1 m.X0 m.B0 m.M2 m.X1 m.I3 m.U3 m.Q2 m.G2 s k=some (((),(),e,()),(u'.tup,outP o',()))∧∃x g l1 l2 u vs X,TickF b m x g m' o l1 l2 u vs X∧Aft b m (l1++l2++X.recs) m' e u':=by
 have hcc:=An hw.code;have hf:=hm.fit hw;obtain⟨x,hrd,hx1,hx2⟩:=Ad5 hw.small hw.code hs;have hcap:((decide ((0:Int)≤(b.B0.length:Int))&&decide ((b.B0.length:Int)≤(b.B0.length:Int)))&&decide ((b.B0.length:Int)≤2147483648))=B:=by simp only[e_,v_];omega
 have hxx:(HZ b s==0)=B→InOK b x:=λh=>hx2 (eq_of_beq h);obtain⟨y,y',e1,e2,t',u',l1,l2,u,vs,X,h1,h2,h3,hF,hL⟩:=Cd6 hw hxx hm hk;have go:∀{bud:Int}{y:(Unit×(TkT×Unit))⊕(Unit×(TkT×Unit))}{t:Pk},0≤bud→(pk0 b m bud).ap BA b x (HZ b s==0)=some y→MW b x (HZ b s==0) y t→Sat (Hy b.D0 b.G0 b.I0 b.M0 b.L0 b.N0 b.O0 b.B0 m.C0.F0 m.C0.K0 m.C0.H0 m.C0.A0 m.U0.h0 m.U0.h1 m.U0.sel m.R1 m.X0 m.B0 m.M2 m.X1 m.I3 m.U3 m.Q2 m.G2 s bud) λz=>(t.e=0→z=(((),(),0,()),(t.m.tup,outP t.out,())))∧(t.e=8→z=(((),(),8,()),(({ Mch.none with U0:=t.m.U0 }:E).tup,outP Bh3,()))):=λ{bud y t} h0 e h=>by
  unfold Hy;refine C hrd (J hcap (J hcap (J hcap (J hcap ?_))));refine C (Dn m.R1 hf.co) (C (Dn m.X0 hf.be) (C (Dn m.B0 hf.ca) (C (Dn m.M2 hf.lo) ?_)));refine aB (Q:=λy=>y=(((),(),(),()),(Mch.none.tup,outP Bh3,t.tup b x (HZ b s==0),()))) ?_ λy8 h8=>?_
  ·refine C e ?_;rcases h with rfl | rfl<;>exact H rfl
  subst h8;refine Sat.bic (λq=>?_) λq=>?_
  ·have q:(t.e !=0)=B:=q;have q:t.e≠0:=by simpa using q
   refine H ⟨λh=>absurd h q,λh=>?_⟩;show(((),(),t.e,()),_)=_;rw[h];rfl
  ·have q:(t.e !=0)=O:=q;have q:t.e=0:=by simpa using q
   exact H ⟨λ_=>rfl,λh=>by rw[q]at h;cases h⟩
 obtain⟨z,r1,r2,_⟩:=go τ e1 h1;rw[r2 h3]at r1;have wrap:∀{bud:Int}{e:Int}{n:E}{o:Outputs},0≤bud→Hy b.D0 b.G0 b.I0 b.M0 b.L0 b.N0 b.O0 b.B0 m.C0.F0 m.C0.K0 m.C0.H0 m.C0.A0 m.U0.h0 m.U0.h1 m.U0.sel m.R1 m.X0 m.B0 m.M2 m.X1 m.I3 m.U3 m.Q2 m.G2 s bud=some (((),(),e,()),(n.tup,outP o,()))→Di b.D0 b.G0 b.I0 b.M0 b.L0 b.N0 b.O0 b.B0 m.C0.F0 m.C0.K0 m.C0.H0 m.C0.A0 m.U0.h0 m.U0.h1 m.U0.sel m.R1 m.X0 m.B0 m.M2 m.X1 m.I3 m.U3 m.Q2 m.G2 s bud=some (((),(),e,()),(n.tup,outP o,())):=λ{bud e n o} h0 h=>by unfold Di;refine Ae (hm.isM_eq hw) ?_;show(bif decide (bud<0)then _ else _)=_;rw[f_ (by omega:¬bud<0)];exact Ae (Bru (hm.fit hw)) (Ae h rfl)
 obtain⟨z',s1,s2,s3⟩:=go hk.1 e2 h2;rcases hL with⟨k',_,_,rfl⟩ | ⟨⟨h8,hok⟩,j,_,hj⟩
 ·rw[s2 h3]at s1;exact⟨_,_,_,_,_,wrap τ r1,wrap hk.1 s1,x,_,l1,l2,u,vs,X,hF,.inl ⟨rfl,rfl⟩⟩
 ·rw[s3 h8]at s1;exact⟨_,_,_,_,_,wrap τ r1,wrap hk.1 s1,x,_,l1,l2,u,vs,X,hF,.inr ⟨rfl,rfl,hok,j,hj⟩⟩
end
def Bd1:MF=some ((B,()),()):=by decide+kernel
def Azz(hn:b.B0.length≤1000){t:E}{x:Img}(h1:m.C0.F0.length=b.B0.length)(h2:t.C0.F0.length=b.B0.length)(h3:x.F0.length=b.B0.length)(h:∀c,c<b.B0.length→D x c=D m.C0 c∨D x c=D t.C0 c)(cut:Int)(f:List ByteArray)(i:Int):
  Sat (DI ((cut,(),(),f,i,(),(),(0:Int),()),(b.tup,m.tup,t.tup,x.tup,()))) λy=>y=.inl ((cut,(),(),f,i,(),(),()),(b.tup,m.tup,t.tup,x.tup,())):=by
 unfold DI;refine Sat.loop (λ(k:Nat) z=>∃c:Nat,z=((cut,(),(),f,i,(),(),(c:Int),()),(b.tup,m.tup,t.tup,x.tup,()))∧c+k=b.B0.length) (λk z hz=>?_) b.B0.length ⟨0,rfl,p_ _⟩ ω;obtain⟨c,rfl,hk⟩:=hz;show Sat (Je cut f i (c:Int) b.D0 b.G0 b.I0 b.M0 b.L0 b.N0 b.O0 b.B0 m.C0.F0 m.C0.K0 m.C0.H0 m.C0.A0 m.U0.h0 m.U0.h1 m.U0.sel m.R1 m.X0 m.B0 m.M2 m.X1 m.I3 m.U3 m.Q2 m.G2 t.C0.F0 t.C0.K0 t.C0.H0 t.C0.A0 t.U0.h0 t.U0.h1 t.U0.sel t.R1 t.X0 t.B0 t.M2 t.X1 t.I3 t.U3 t.Q2 t.G2 x.F0 x.K0 x.H0 x.A0) _;unfold Je;refine Sat.bic (λq=>?_) λq=>H rfl;have q:(c:Int)<(b.B0.length:Int):=n_ q;have hc:c<b.B0.length:=ω;have hwr:=DF (n:=c) ω;have i1:inB (c:Int) m.C0.F0.length=B:=Ac ω ω;have i2:inB (c:Int) t.C0.F0.length=B:=Ac ω ω;have i3:inB (c:Int) x.F0.length=B:=Ac ω ω;refine aB (Q:=λy=>y=((cut,(),(),f,i,(),(),(c:Int),O,()),(b.tup,m.tup,t.tup,x.tup,()))) (J i3 (J i1 (Sat.bic (λq2=>J i3 (J i2 (H ?_))) λ_=>H rfl))) λy hy=>?_
 ·have q2:(D x c !=D m.C0 c)=B:=q2;show((cut,(),(),f,i,(),(),(c:Int),(D x c !=D t.C0 c),()),(b.tup,m.tup,t.tup,x.tup,()))=_;rcases h c hc with e | e
  ·rw[e]at q2;simp at q2
  ·rw[e];simp
 subst hy;refine I rfl (H ⟨k-1,ω,c+1,?_,ω⟩);rw[← hwr]
section
variable{b:Bldg}(hw:BW b)
include hw
theorem Az0{x:Inp}{g:Bool}{m':E}{o:Outputs}{l1 l2:List aA}{u:E}{vs:List View}{X:Rnd}(hm:PM b m)(hF:TickF b m x g m' o l1 l2 u vs X){e:Int}{v:E}(h:Aft b m (l1++l2++X.recs) m' e v):∃z:Img,Dk b.D0 b.G0 b.I0 b.M0 b.L0 b.N0 b.O0 b.B0 v.U0.h0 v.U0.h1 v.U0.sel=some (((),()),(z.tup,()))∧ImgOK b z∧(∀c,c<b.B0.length→D z c=D m.C0 c∨D z c=D m'.C0 c)∧isZ (AU (CU (A m.C0.A0 (0,0)) (A m'.C0.A0 (0,0))) (A z.A0 (0,0)))=B∧isZ (AU (A z.A0 (0,0)) (Cm (A m.C0.A0 (0,0)) (A m'.C0.A0 (0,0))))=B:=by
 have hroom:=hw.room;have hok:v.U0.ok b.I0:=by
  rcases h with⟨_,rfl⟩ | ⟨_,_,h,_⟩
  ·exact hF.pm.jst.ok
  ·exact h
 have hcur:=Bap hok;have hz:∃j,Cf b v.U0=Ag m.C0 ((l1++l2++X.recs).take j):=by
  rcases h with⟨_,rfl⟩ | ⟨_,_,_,h⟩
  ·refine⟨(l1++l2++X.recs).length,?_⟩;rw[List.take_length,hF.pm.jst.replay hw.small,hF.img,← hF.rg.img,hF.iu,Bp,Bp]
  ·exact h
 obtain⟨j,hj⟩:=hz;obtain⟨hc1,hc2⟩:=Aur hw hF hm j;refine⟨Cf b v.U0,XS hw.small hw.code v.U0 ω,(Zk hw.code v.U0 ω).1,λc hc=>?_,?_,?_⟩
 ·rw[hj];exact Aus hw hF hm j hc
 ·rw[hj];exact hc1
 ·rw[hj];exact hc2
theorem Bds{cut:Int}(hcut:0≤cut∧cut<256){f:List ByteArray}(hf:∀s∈f,Fr b s)(hfl:f.length≤60)(hm:PM b m):Sat (DH ((cut,(),(),f,(0:Int),()),(b.tup,m.tup,()))) λy=>y=.inl ((),()):=by
 have hcc:=An hw.code;unfold DH;refine Sat.loop (λ(k:Nat) z=>∃(i:Nat) (m:E),z=((cut,(),(),f,(i:Int),()),(b.tup,m.tup,()))∧i+k=f.length∧PM b m) (λk z hz=>?_) f.length ⟨0,m,rfl,p_ _,hm⟩ ω;obtain⟨i,m,rfl,hk,hm⟩:=hz;show Sat (Jd cut f (i:Int) b.D0 b.G0 b.I0 b.M0 b.L0 b.N0 b.O0 b.B0 m.C0.F0 m.C0.K0 m.C0.H0 m.C0.A0 m.U0.h0 m.U0.h1 m.U0.sel m.R1 m.X0 m.B0 m.M2 m.X1 m.I3 m.U3 m.Q2 m.G2) _;unfold Jd;refine Sat.bic (λq=>?_) λq=>H rfl;have q:(i:Int)<(f.length:Int):=n_ q;have hwr:=DF (n:=i) ω;have hfr:=hf _ (CD noB (ω:i<f.length));have ii:inB (i:Int) f.length=B:=Ac ω q;have hbud:∃k:Int,Int.tmod (aD aC ((aD aC cut)+(aD aC ((5:Int)*(i:Int))))) (40:Int)=k∧0≤k∧k<9223372036854775808:=by refine⟨_,rfl,?_⟩;rw[Aa (n:=cut) ω ω,Aa (n:=5*(i:Int)) ω ω,Aa ω ω,c9_ ω];omega
 obtain⟨bud,hbe,hbud⟩:=hbud;obtain⟨m',o,e,v,o',t1,t2,x,g,l1,l2,u,vs,X,hF,hA⟩:=Bs2 hw hm hfr hbud;have hm':=hF.pm;have hro:=hw.room;have hrp:=XS hw.small hw.code m'.U0 (by have:=Bap hm'.jst.ok;omega);rw[hm'.jst.replay hw.small]at hrp;obtain⟨z,hrz,hz,hph,hc1,hc2⟩:=Az0 hw hm hF hA;have lm:=CL hw.small hm.jst.img;have lm':=CL hw.small hm'.jst.img;have lz:=CL hw.small hz;have he:e=0∨e=8:=by
  rcases hA with⟨h,_⟩ | ⟨h,_⟩
  ·exact .inl h
  ·exact .inr h
 refine Sat.bindR (J ii (C t1 (I rfl (C hrp (C (Aa3 hm'.jst.ents.2 (c:=m'.C0)) (I ?_ (J ii (C (b:=(((),(),e,()),(v.tup,outP o',()))) ?_ ?_))))))))
 ·show(!Ae9 m'.C0 m'.C0)=O;rw[Afa];rfl
 ·show Di _ _ _ _ _ _ _ _ _ _ _ _ _ _ _ _ _ _ _ _ _ _ _ _ _ (Int.tmod (aD aC ((aD aC cut)+(aD aC ((5:Int)*(i:Int))))) (40:Int))=_;rw[hbe];exact t2
 refine aB (Q:=λy=>y=((cut,(),(),f,(i:Int),(),(),e,O,()),(b.tup,m.tup,m'.tup,v.tup,()))) ?_ λy6 h6=>?_
 ·rcases he with rfl | rfl
  ·exact I rfl (H rfl)
  ·exact J rfl (H rfl)
 subst h6;refine I rfl (C hrz ?_);refine aB (Q:=λy=>y=((cut,(),(),f,(i:Int),(),(),O,()),(b.tup,m.tup,m'.tup,z.tup,()))) ?_ λy9 h9=>?_
 ·rcases hA with⟨rfl,rfl⟩ | ⟨rfl,hp,_⟩
  ·exact J rfl (C (Bew (hm'.fit hw)) (I rfl (I rfl (H rfl))))
  ·refine I rfl (J rfl (H ?_));show((cut,(),(),f,(i:Int),(),(),((v.C0.F0.length:Int) !=(0:Int)),()),(b.tup,m.tup,m'.tup,z.tup,()))=_;rw[hp];rfl
 subst h9;have l1':=hm.jst.img.lp;have l2':=hm'.jst.img.lp;have l3':=hz.lp;refine I rfl (I (show((z.F0.length:Int) !=(b.B0.length:Int))=O by rw[l3'];simp) (I (show((m'.C0.F0.length:Int) !=(b.B0.length:Int))=O by rw[l2'];simp) (aB (Azz ω l1' l2' l3' hph cut f (i:Int)) λy10 h10=>?_)));subst h10;generalize hP:A m.C0.A0 (0,0)=P at*;generalize hN:A m'.C0.A0 (0,0)=N at*;generalize hZ:A z.A0 (0,0)=Z at*;have a1:=Ze (l:=m.C0.A0) ω;have a2:=Ze (l:=m'.C0.A0) ω;have a3:=Ze (l:=z.A0) ω;rw[hP]at a1;rw[hN]at a2;rw[hZ]at a3;refine C a1 (C a2 (C a3 (C (Ap4 P N) (C (Zd (CU P N) Z) (I ?_ (C (Zf P N) (C (Zd Z (Cm P N)) (I ?_ (H ⟨k-1,ω,i+1,m',?_,ω,hm'⟩)))))))))
 ·show(!isZ (AU (CU P N) Z))=O;rw[hc1];rfl
 ·show(!isZ (AU Z (Cm P N)))=O;rw[hc2];rfl
 ·rw[← hwr]
end
def YK(n_f0:Int)(n_f1:Int)(n_f2:Int)(l:List Int)(cut:Int)(h_n_f0:0≤n_f0∧n_f0<256)(h_n_f1:0≤n_f1∧n_f1<256)(h_n_f2:0≤n_f2∧n_f2<256)(h_l:l.length≤maxLen∧∀e∈l,(0≤e∧e<256))(h_cut:0≤cut∧cut<256):aF n_f0 n_f1 n_f2 l cut=some ((B,()),()):=by
 have hS:Sat (aF n_f0 n_f1 n_f2 l cut) λy=>y=((B,()),()):=by unfold aF;obtain⟨b,hbl,hw,⟨y0,hst⟩,hm⟩:=Buf h_n_f0 h_n_f1 h_n_f2;refine C hbl (Sat.bindR (C hst ?_));refine aB (Bbw hw.small hw.code (l:=l) (λe he=>h_l.2 e he) h_l.1 (most:=60) ω) λy4 h4=>?_;obtain⟨⟨f,u1⟩,u2⟩:=y4;obtain⟨hf1,hf2⟩:=h4;refine aB (Bds hw h_cut hf2 hf1 hm) λy5 h5=>?_;subst h5;exact C Bd1 (H rfl)
 obtain⟨y,h1,h2⟩:=hS;rw[h1,h2]
end Go.Ovl
