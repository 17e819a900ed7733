/- MachineLamps: a lamp is lit exactly if its call is registered; what comes and what goes. -/
import Derived.Test.YtdapkmfmgpmnoaaGreatDoorOvN
set_option linter.all false
open Bool renaming true->A,false->E
open Go.Ovl.Sat renaming bindE->B,bifF->aA,ret->aB
open Go.Ovl renaming outP->D
namespace Go.Ovl
open Go Go.Ab
set_option maxRecDepth 100000
variable{m:Mch}
def eqC(a c:Int×Int):Bool:=(a.1==c.1)&&((a.2==c.2)&&A)
def Afy{a c:Int×Int}:eqC a c=A↔a=c:=by
 unfold eqC;rw[c6_,e_,R_,R_];exact⟨λh=>Prod.ext h.1 h.2,λh=>by rw[h];exact⟨rfl,rfl⟩⟩
structure LampG(P N press lit ref served:Int×Int):Prop where
 come:isZ (Aq (Aq N P) press)=true
 gone:Aq P N=served
 lit:Aq P N=CT P lit
 dark:isZ (Aq (Aq press P) (Aq N P))=isZ ref
def LampF.good{P N press lit ref served:Int×Int}(h:LampF P N press lit ref served):LampG P N press lit ref served:=by
 have hs:∀f:Nat,f<32→∀d:Int,(d=1∨d=2)→Ak (Aq P N) f d=(Ak P f d&&Ak lit f d):=λf hf d hd=>by
  rw[BY _ _ hf,h.n f hf d hd];cases Ak P f d<;>cases Ak lit f d<;>cases Ak press f d<;>rfl
 refine⟨(Ox (Kk _ _)).2 λf hf d hd=>?_,Ou (Kk _ _) h.us λf hf d hd=>?_,Ou (Kk _ _) (Aax _ _) λf hf d hd=>?_,?_⟩
 ·rw[BY _ _ hf,BY _ _ hf,h.n f hf d hd]
  cases Ak P f d<;>cases Ak press f d<;>simp
 ·rw[hs f hf d hd,h.s f hf d hd]
 ·rw[hs f hf d hd,Oq]
 ·rw[Bool.eq_iff_iff,Ox (Kk _ _),Ox h.ur]
  refine forall_congr' λf=>forall_congr' λhf=>forall_congr' λd=>forall_congr' λhd=>?_
  have hr:=h.r f hf d hd;rw[BY _ _ hf,BY _ _ hf,BY _ _ hf,h.n f hf d hd];cases hq:Ak ref f d with
  |true=>
   obtain⟨e1,e2⟩:=hr hq;rw[e1,e2];simp
  |false=>cases Ak P f d<;>cases Ak press f d<;>simp
section
variable{b:Bldg}(hw:BW b)
include hw
theorem Ay3{x:Inp}{g:Bool}{m':Mch}{o:Outputs}{l1 l2:List Record}{u:Mch}{vs:List View}{X:Rnd}(h:TickF b m x g m' o l1 l2 u vs X)(f:List ByteArray)(i e:Int)(p:Int×Int)(z:Inp):
  Sat (Ei (((),(),f,(),i,(),(),(),e,(),(0:Int),()),(b.tup,m.tup,(p.1,p.2,()),m'.tup,D o,z.tup,((0:Int),(0:Int),()),()))) λy=>y=(((),(),f,(),i,(),(),(),e,(),()),(b.tup,m.tup,(p.1,p.2,()),m'.tup,D o,z.tup,((Hp X.lan.lit b.B0.length).1,(Hp X.lan.lit b.B0.length).2,()),())):=by
 have hcc:=Aj hw.code;have hoc:=h.oc;unfold Ei;refine Sat.loop (λ(k:Nat) z'=>∃c:Nat,z'=(((),(),f,(),i,(),(),(),e,(),(c:Int),()),(b.tup,m.tup,(p.1,p.2,()),m'.tup,D o,z.tup,((Hp X.lan.lit c).1,(Hp X.lan.lit c).2,()),()))∧c+k=b.B0.length) (λk z' hz=>?_) b.B0.length ⟨0,rfl,p_ _⟩ ω
 obtain⟨c,rfl,hk⟩:=hz;show Sat (KB f i e (c:Int) b.C0 b.E0 b.H0 b.M0 b.J0 b.L0 b.N0 b.B0 m.G0.F0 m.G0.O0 m.G0.K0 m.G0.A0 m.Z0.h0 m.Z0.h1 m.Z0.sel m.S1 m.W0 m.B0 m.R2 m.U1 m.B3 m.T3 m.T2 m.H2 p.1 p.2 m'.G0.F0 m'.G0.O0 m'.G0.K0 m'.G0.A0 m'.Z0.h0 m'.Z0.h1 m'.Z0.sel m'.S1 m'.W0 m'.B0 m'.R2 m'.U1 m'.B3 m'.T3 m'.T2 m'.H2 o.Z3 o.U3 o.L3 o.A3 o.V5 o.L0 o.U5 o.B0 z.press.1 z.press.2 z.kind z.car z.cars (Hp X.lan.lit c).1 (Hp X.lan.lit c).2) _;unfold KB;refine Sat.bic (λq=>?_) λq=>aB ?_
 ·have q:(c:Int)<(o.B0.length:Int):=m_ q
  have hwr:=CW (n:=c) ω
  obtain⟨c0,d,hli,hfi⟩:=h.cars c ω
  have hlan:((o.B0.getD c BF).J2,(o.B0.getD c BF).E2)=Nj X.lan.lit c:=by rw[hfi.lu,hfi.ld,hli.1,hli.2.1];rfl
  have e:Hp X.lan.lit (c+1)=By (Hp X.lan.lit c) ((o.B0.getD c BF).J2,(o.B0.getD c BF).E2):=by rw[hlan];rfl
  refine Sat.bifT (Ac ω q) (B (YI (Hp X.lan.lit c) ((o.B0.getD c BF).J2,(o.B0.getD c BF).E2)) ?_)
  refine aB ⟨k-1,ω,c+1,?_,ω⟩
  rw[← hwr,e];rfl
 ·have q:¬(c:Int)<(o.B0.length:Int):=F_ q
  obtain rfl:c=b.B0.length:=ω
  rfl
theorem Ay2{f:List ByteArray}(hf:∀s∈f,Fr b s)(hfl:f.length≤100)(hm:PM b m)(hme:m.G0.A0=[]):Sat (Eh (((),(),f,(),(0:Int),()),(b.tup,m.tup,((0:Int),(0:Int),()),()))) λy=>y=.inl ((),()):=by
 unfold Eh;refine Sat.loop (λ(k:Nat) z=>∃(i:Nat) (m:Mch),z=(((),(),f,(),(i:Int),()),(b.tup,m.tup,((ofC m.G0.A0 (0,0)).1,(ofC m.G0.A0 (0,0)).2,()),()))∧i+k=f.length∧PM b m) (λk z hz=>?_) f.length ⟨0,m,by rw[hme];rfl,p_ _,hm⟩ ω
 obtain⟨i,m,rfl,hk,hm⟩:=hz;show Sat (KA f (i:Int) b.C0 b.E0 b.H0 b.M0 b.J0 b.L0 b.N0 b.B0 m.G0.F0 m.G0.O0 m.G0.K0 m.G0.A0 m.Z0.h0 m.Z0.h1 m.Z0.sel m.S1 m.W0 m.B0 m.R2 m.U1 m.B3 m.T3 m.T2 m.H2 (ofC m.G0.A0 (0,0)).1 (ofC m.G0.A0 (0,0)).2) _;unfold KA;refine Sat.bic (λq=>?_) λq=>aB rfl
 have q:(i:Int)<(f.length:Int):=m_ q;have hwr:=CW (n:=i) ω
 have hfr:=hf _ (CA noB (ω:i<f.length))
 have ii:inB (i:Int) f.length=A:=Ac ω q
 obtain⟨m',o,ht,hm',x,g,l1,l2,u,vs,X,hx,hF⟩:=Bg2 hw hm hfr;obtain⟨z,hr,hz0,_,_⟩:=Bdi hw.small hw.code hfr hx
 have hx1:g=A→Hh b x.press=A:=λhg=>by
  rcases hx.1 with⟨_,h⟩ | ⟨h,_⟩
  ·exact h.press
  ·have e:=hx.2.1;rw[hg,An h]at e;cases e
 have hx0:g=E→x.press=(0,0):=λhg=>by
  rcases hx.1 with⟨h,_⟩ | ⟨_,h⟩
  ·have e:=hx.2.1;rw[hg,h]at e;cases e
  ·rw[h];rfl
 obtain⟨hL,hB⟩:=hF.lamps hw hx1 hx0;have G:=hL.good;have he':=Ek hw.small hm'.jst.img;have eo:(o.Z3,o.U3)=ofC m'.G0.A0 (0,0):=Prod.ext hF.lu hF.ld;have es:=hF.served;have eb:o.V5=(BM b (f.getD i noB) !=0):=by rw[hF.bad,hx.2.1];rfl
 have ef:=hF.full;refine Sat.bindR (Sat.bifT ii (B ht (aA rfl (B (Azy (ω:m'.G0.A0.length≤100000)) (aA ?_ (Sat.bifT ii (B hr (Sat.bindS (Ay3 hw hF f (i:Int) (BM b (f.getD i noB)) (ofC m.G0.A0 (0,0)) z) λy5 h5=>?_))))))))
 ·show(!eqC (o.Z3,o.U3) (ofC m'.G0.A0 (0,0)))=E
  rw[Afy.2 eo];rfl
 subst h5;generalize hP:ofC m.G0.A0 (0,0)=P at*;generalize hN:ofC m'.G0.A0 (0,0)=N at*;generalize hC:Hp X.lan.lit b.B0.length=C at*;have k6:=Mp N P;have k7:=Mp P N;have k8:=Mp (Aq N P) z.press;have k9:=Apl P C;have lu:o.Z3=N.1:=by rw[← eo]
 have ld:o.U3=N.2:=by rw[← eo]
 have su:o.L3=(Aq P N).1:=by rw[G.gone,← es]
 have sd:o.A3=(Aq P N).2:=by rw[G.gone,← es]
 rw[hz0]at k8;have kz:z.press.1=x.press.1∧z.press.2=x.press.2:=by rw[hz0];exact⟨rfl,rfl⟩
 refine B (show Ci o.Z3 o.U3 P.1 P.2=_ by rw[lu,ld];exact k6) (B (show Ci P.1 P.2 o.Z3 o.U3=_ by rw[lu,ld];exact k7) ?_)
 refine Sat.bindS (Q:=λy=>y=(((),(),f,(),(i:Int),(),(),(),(),E,()),(b.tup,m.tup,(P.1,P.2,()),m'.tup,D o,z.tup,((Aq N P).1,(Aq N P).2,()),()))) ?_ λy12 h12=>?_
 ·have tail:Sat ((Ci (Aq N P).1 (Aq N P).2 z.press.1 z.press.2).bind λy8=>bif(!((y8.2.1.1==(0:Int))&&((y8.2.1.2.1==(0:Int))&&A)))then some (((),(),f,(),(i:Int),(),(),(),(),A,()),(b.tup,m.tup,(P.1,P.2,()),m'.tup,D o,z.tup,((Aq N P).1,(Aq N P).2,()),()))else bif(!(((Aq P N).1==o.L3)&&(((Aq P N).2==o.A3)&&A)))then some (((),(),f,(),(i:Int),(),(),(),(),A,()),(b.tup,m.tup,(P.1,P.2,()),m'.tup,D o,z.tup,((Aq N P).1,(Aq N P).2,()),()))else(MH P.1 P.2 C.1 C.2).bind λy9=>some (((),(),f,(),(i:Int),(),(),(),(),(!(((Aq P N).1==y9.2.1.1)&&(((Aq P N).2==y9.2.1.2.1)&&A))),()),(b.tup,m.tup,(P.1,P.2,()),m'.tup,D o,z.tup,((Aq N P).1,(Aq N P).2,()),()))) λy=>y=(((),(),f,(),(i:Int),(),(),(),(),E,()),(b.tup,m.tup,(P.1,P.2,()),m'.tup,D o,z.tup,((Aq N P).1,(Aq N P).2,()),())):=by
   rw[hz0];refine B k8 (aA ?_ (aA ?_ (B k9 (aB ?_))))
   ·show(!isZ (Aq (Aq N P) x.press))=E
    rw[G.come];rfl
   ·rw[su,sd,l_,l_];rfl
   ·show(((),(),f,(),(i:Int),(),(),(),(),!eqC (Aq P N) (CT P C),()),_)=_
    rw[Afy.2 G.lit];rfl
  refine aA ?_ (Sat.bic (λq2=>aA ?_ tail) λ_=>tail)
  ·show(!(o.V5==(BM b (f.getD i noB) !=0)))=E
   rw[eb,l_];rfl
  ·have hg:g=E:=by
    have q2:o.V5=A:=q2;rw[hF.bad]at q2;simpa using q2
   show(!eqC (o.Z3,o.U3) P)=E;rw[Afy.2 (eo.trans (hB hg).1)];rfl
 subst h12;refine aA rfl (B (show Ci z.press.1 z.press.2 P.1 P.2=_ by rw[hz0];exact Mp x.press P) (B (Mp (Aq x.press P) (Aq N P)) ?_))
 refine Sat.bindS (Q:=λy=>y=(((),(),f,(),(i:Int),(),(),E,()),(b.tup,m.tup,(P.1,P.2,()),m'.tup,D o,()))) (aA ?_ (Sat.bic (λq2=>aB ?_) λ_=>aB rfl)) λy15 h15=>?_
 ·show(!((!isZ (Aq (Aq x.press P) (Aq N P)))==o.L0))=E
  rw[G.dark,ef,l_];rfl
 ·have hg:g=E:=by
   have q2:o.V5=A:=q2;rw[hF.bad]at q2;simpa using q2
  have e:o.L0=E:=by rw[ef,(hB hg).2];rfl
  show(((),(),f,(),(i:Int),(),(),o.L0,()),(b.tup,m.tup,(P.1,P.2,()),m'.tup,D o,()))=_;rw[show(b.tup,m.tup,(P.1,P.2,()),m'.tup,D o,())=(b.tup,m.tup,(P.1,P.2,()),m'.tup,D o,())from rfl]
  exact b8_ (λc=>(((),(),f,(),(i:Int),(),(),c,()),(b.tup,m.tup,(P.1,P.2,()),m'.tup,D o,()))) e
 subst h15;refine aA rfl (aB ⟨k-1,ω,i+1,m',?_,ω,hm'⟩)
 rw[← hwr,hN];show(((),(),f,(),_,()),(b.tup,m'.tup,(o.Z3,o.U3,()),()))=_;rw[lu,ld]
end
def Abm(n_f0:Int)(n_f1:Int)(n_f2:Int)(l:List Int)(h_n_f0:0≤n_f0∧n_f0<256)(h_n_f1:0≤n_f1∧n_f1<256)(h_n_f2:0≤n_f2∧n_f2<256)(h_l:l.length≤maxLen∧∀e∈l,(0≤e∧e<256)):F_l27_MachineLamps n_f0 n_f1 n_f2 l=some ((A,()),()):=by
 have hS:Sat (F_l27_MachineLamps n_f0 n_f1 n_f2 l) λy=>y=((A,()),()):=by
  unfold F_l27_MachineLamps;obtain⟨b,hbl,hw,⟨y0,hst⟩,hm⟩:=Bsj h_n_f0 h_n_f1 h_n_f2;refine B hbl (Sat.bindR (B hst ?_));refine Sat.bindS (Baq hw.small hw.code (l:=l) (λe he=>h_l.2 e he) h_l.1 (most:=100) ω) λy4 h4=>?_
  obtain⟨⟨f,u1⟩,u2⟩:=y4;obtain⟨hf1,hf2⟩:=h4;refine Sat.bindS (Ay2 hw hf2 hf1 hm (by rw[(An0 hw).2];rfl)) λy5 h5=>?_
  subst h5;exact B Bcn (aB rfl)
 obtain⟨y,h1,h2⟩:=hS;rw[h1,h2]
end Go.Ovl
