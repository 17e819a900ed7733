import Derived.Test.YtphhlndnankhiaaGreatDoorOvE
import Derived.Test.YtphhlndnankhiaaGreatDoorOvC
import Derived.Test.YtphhlndnankhiaaGreatDoorOvA
import Derived.Test.YtphhlndnankhiaaGreatDoorOvD
set_option linter.all false
open Go.IntKind renaming i64->A,wrap->O,u8->R,u64->aD
open Go.Ovl.Sat renaming ret->B,bic->E,bindS->P,bifT->S,bindE->aB
open Bool renaming true->C,false->J
open Go.Ovl renaming Ae->D,Bldg->L,Sat->N
open Option renaming some->H
open Int renaming tmod->I,tdiv->U,lt_of_lt_of_le->aE
open List renaming range->aA
open BitVec renaming ofInt->aC
namespace Go.Ovl
open Go Go.Ab
set_option maxRecDepth 100000
variable{α:Type}{i t:Nat}{calm:List Bool}{c:Int×Int}{b:L}{e:Entry}{fr:Bool}
def As8(z:α)(l:List α):KH (List.replicate (Int.toNat (l.length:Int)) z) l=l:=by unfold KH;simp
def Cc4(c:Int×Int):(Fd c).length≤64:=by
 have h:∀k i:Nat,((List.range' i k).flatMap (Lj c)).length≤2*k:=by
  intro k;induction k with
  |zero=>intro i;exact A_ _
  |succ k ih=>
   intro i;rw[f0_,a1_,h_]
   have:=ih (i+1)
   have:=Adn c i
   omega
 exact h 32 0
def Cc7(h:e∈Fd c):(0≤e.D0∧e.D0<32)∧(e.I0=1∨e.I0=2)∧Aj c e.D0.toNat e.I0=C:=by obtain⟨f,h1,h2,h3,h4⟩:=mem_range.1 (b5_.2 ⟨e,h,rfl⟩);simp only[BQ]at h2 h3 h4;refine⟨ω,h3,?_⟩;rw[h2,j_];exact h4
def Ayt(hb:b.small)(hcode:b.code=0)(h:e∈Fd (DJ c (Bx b))):Ai b e.D0 e.I0=C:=by obtain⟨h1,h2,h3⟩:=Cc7 h;rw[Mp,e_,Ov hb hcode ω h2,e5_ h1.1]at h3;exact h3.2
section
variable{b:L}(hb:b.small)(hcode:b.code=0){car:Nat}(hcar:car<b.B0.length){x:Belief}(h:BelOK b car x)
include hb hcode hcar h
theorem Ajs{es:List Entry}(he:∀e∈es,Ai b e.D0 e.I0=C)(hl:es.length≤1000)(z:Ak9):N (Hq (((),(),es,(es.length:Int),0,()),((x.D0,x.I0,x.F3,x.W0,x.B3,x.V3,()),z,()))) λy=>∃du,y.2.1=(x.D0,x.I0,x.F3,du,x.B3,x.V3,())∧DutOK b (JZ b car).I1 du:=by
 have hd:=Ahq hcode (c:=JZ b car) (by unfold JZ;rw[k_,i_ hcar];exact b1_ hcar);unfold Hq;refine Sat.loop (λk y=>∃(du:List Duty) (i:Nat),y=(((),(),es,(es.length:Int),(i:Int),()),((x.D0,x.I0,x.F3,du,x.B3,x.V3,()),z,()))∧i+k=es.length∧DutOK b (JZ b car).I1 du) ?_ es.length ⟨x.W0,0,rfl,ω,h.dut⟩ ω;rintro k y ⟨du,i,rfl,hk,ho⟩;show N (Np es (es.length:Int) (i:Int) x.D0 x.I0 x.F3 du x.B3 x.V3 z.1 z.2.1 z.2.2.1 z.2.2.2.1 z.2.2.2.2.1 z.2.2.2.2.2.1) _;unfold Np;refine E (λq=>?_) λ_=>B ⟨du,rfl,ho⟩;have hi:i<es.length:=by have:=m_ q;omega
 refine S (Ac ω ω) ?_;have g:List.getD es (Int.toNat (i:Int)) (Entry.mk 0 0 0 0 J)=es[i]:=by simp only[j_,k_,i_ hi,Option.getD_some]
 simp only[g,Gb hi (show es.length≤Ba by unfold Ba;omega)];have hc:=he _ (b1_ hi);refine P (Bnu hb ho (F:=es[i].D0) (Fj hb hc).2) ?_;rintro y1 ⟨p,e1,hp,h1,h2⟩;refine E (λq=>?_) λ_=>B ⟨k-1,ω,du,i+1,rfl,ω,ho⟩;rw[e1];refine P (Bsm hb ho (Fj hb hc).2 hc hd.1 hp h1 (h2 (by simpa using q))) λy2 hy=>B ⟨k-1,ω,y2.1.1,i+1,rfl,ω,hy.1⟩
theorem Ac5(u d:Int):N (LE b.C0 b.E0 b.H0 b.M0 b.J0 b.L0 b.N0 b.B0 (car:Int) x.D0 x.I0 x.F3 x.W0 x.B3 x.V3 u d) λy=>Ba7 b car y.2.1:=by
 have hl:=h.dut.len hb;unfold LE;refine aB (IE hb hcode hcar h) (Sat.bifF rfl (S ?_ ?_))
 ·simp;omega
 refine aB (KF hb hcode) (aB (Li (u,d) (Bx b)) (aB (XB (DJ (u,d) (Bx b))) ?_));simp only[As8];refine P (Ajs hb hcode hcar h (λe he=>Ayt hb hcode he) ?_ _) ?_
 ·have:=Cc4 (DJ (u,d) (Bx b))
  omega
 rintro⟨a,t,w⟩ ⟨du,e,ho⟩;change t=_ at e;subst e;refine Sat.bindC (λ_=>Sat.bindR (B ⟨⟨x.D0,x.I0,x.F3,du,x.B3,(du.length:Int)==0⟩,rfl,⟨h.fl,h.dir,h.door,h.still,λq=>?_,ho⟩⟩)) λ_=>Sat.bindR (B ⟨⟨x.D0,x.I0,x.F3,du,x.B3,J⟩,rfl,⟨h.fl,h.dir,h.door,h.still,λq=>(by cases q),ho⟩⟩);have q:(du.length:Int)=0:=by simpa using q
 exact(List.length_eq_zero_iff (l:=du)).1 ω
end
def Am8(f d r p:Int)(e u o:Nat)(cs:List Car)(x:Nat):N (OW f d r p e u o cs x) λy=>0≤y.1.1∧y.1.1≤4:=by unfold OW;refine E (λ_=>B τ) λ_=>E (λ_=>B τ) λ_=>E (λ_=>B τ) λ_=>E (λ_=>B τ) λ_=>B τ
def Apk(full:N (arF .sub .f64 b.L0 4589168020290535424) λ_=>True)(over:N (arF .sub .f64 b.N0 4589168020290535424) λ_=>True)(s:Int)(x:Nat):N (QN b.C0 b.E0 b.H0 b.M0 b.J0 b.L0 b.N0 b.B0 s x) λy=>0≤y.2.1.1∧y.2.1.1≤4:=by
 unfold QN;refine aB (Bg b) (E (λ_=>B ⟨e0_ 0,show(0:Int)≤4 from by decide⟩) λ_=>P (Am8 ..) λy2 h2=>?_);refine P (Q:=λy=>y.1.2.2.2.2.1=y2.1.1∧y.2.1=b.tup) (E (λ_=>B ⟨rfl,rfl⟩) λ_=>B ⟨rfl,rfl⟩) λy3 h3=>?_;have k:0≤y3.1.2.2.2.2.1∧y3.1.2.2.2.2.1≤4:=by rw[h3.1];exact h2
 refine E (λ_=>E (λq=>?_) λ_=>E (λq=>?_) λ_=>B k) λ_=>B k
 ·have q:y3.2.2.1.1=3:=by simpa using q
  rw[h3.2];refine P full λ_ _=>E (λ_=>B ?_) λ_=>B k;show 0≤y3.2.2.1.1∧y3.2.2.1.1≤4;omega
 ·have q:y3.2.2.1.1=4:=by simpa using q
  rw[h3.2];refine P over λ_ _=>E (λ_=>B ?_) λ_=>B k;show 0≤y3.2.2.1.1∧y3.2.2.1.1≤4;omega
def Wm{c:Bool}{x y r:α}(h:c=C)(h2:x=r):(bif c then x else y)=r:=by subst h;exact h2
def Aji(hcode:b.code=0){car:Int}(hc:0≤car∧car<(b.B0.length:Int)){k v:Int}(h:(k=4∧0≤v∧v≤4)∨((k=5∨k=6)∧0≤v∧v≤1)):At b (Record.mk k 0 0 car v)=C:=by unfold At Tw inR;simp only[hcode];rcases h with⟨rfl,h⟩ | ⟨rfl | rfl,h⟩<;>simp<;>omega
def phA(m:Img)(i:Nat):Int:=m.F0.getD i 0
def flA(m:Img)(i:Nat):Bool:=m.O0.getD i J
def lvA(m:Img)(i:Nat):Bool:=m.K0.getD i J
def TS(m:Img)(i:Nat):Bool:=(phA m i==0||phA m i==4)&&(!flA m i&&!lvA m i)
def Jj(m:Img)(i:Nat):Bool:=phA m i==0||(phA m i==1||phA m i==4)
section
variable{b:L}{m:Img}(hm:ImgOK b m)
include hm
theorem Amt(hi:i<b.B0.length):Lc m.F0 m.O0 m.K0 m.A0 (i:Int)=H ((C,()),()):=by unfold Lc;simp only[hm.lp,hm.lf,hm.ll,b_ (ω:(0:Int)≤(i:Int)),f_ (Q_ (b.B0.length:Int)),d_,c_,b_ (ω:(i:Int)<(b.B0.length:Int)),a_]
theorem Ak7(hi:i<b.B0.length):Lb m.F0 m.O0 m.K0 m.A0 (i:Int)=H ((TS m i,()),()):=by have i1:inB (i:Int) m.F0.length=C:=Ac ω (by rw[hm.lp];omega);have i2:inB (i:Int) m.O0.length=C:=Ac ω (by rw[hm.lf];omega);have i3:inB (i:Int) m.K0.length=C:=Ac ω (by rw[hm.ll];omega);unfold Lb TS phA flA lvA;refine D (a:=(((m.F0.getD i 0==0||m.F0.getD i 0==4)&&(!m.O0.getD i J&&!m.K0.getD i J),()),())) (D (Amt hm hi) ?_) rfl;simp only[i1,i2,i3,d_,j_];cases m.F0.getD i 0==0<;>cases m.F0.getD i 0==4<;>cases m.O0.getD i J<;>rfl
theorem Acv(hi:i<b.B0.length):IN m.F0 m.O0 m.K0 m.A0 (i:Int)=H ((Jj m i,()),()):=by have i1:inB (i:Int) m.F0.length=C:=Ac ω (by rw[hm.lp];omega);unfold IN Jj phA;refine D (Amt hm hi) ?_;simp only[i1,d_,c_,o_,j_];cases m.F0.getD i 0==0<;>cases m.F0.getD i 0==1<;>rfl
theorem Bic:∃fr:Bool,DZ m.F0 m.O0 m.K0 m.A0=H ((fr,()),()):=by
 have hcc:=Am hm.code;have hp:=hm.lp;have hl:=hm.ll;have h:N (DZ m.F0 m.O0 m.K0 m.A0) λ_=>True:=by
  unfold DZ MW;refine P (Q:=λ_=>True) (Sat.loop (λk x=>∃i:Nat,x=(((),m.F0,(m.F0.length:Int),(i:Int),()),((m.F0,m.O0,m.K0,m.A0,()),()))∧i+k=m.F0.length) ?_ m.F0.length ⟨0,rfl,ω⟩ ω) λy _=>?_
  ·rintro k x ⟨i,rfl,hk⟩;show N (Qm m.F0 (m.F0.length:Int) (i:Int) m.F0 m.O0 m.K0 m.A0) _;unfold Qm;refine E (λq=>?_) λ_=>B trivial;have hi:i<m.F0.length:=by have:=m_ q;omega
   refine S (Ac ω ω) ?_;simp only[Gb hi (show m.F0.length≤Ba by unfold Ba;omega)];refine E (λ_=>B trivial) λ_=>E (λ_=>B trivial) λ_=>E (λ_=>B trivial) λ_=>?_;exact S (Ac ω ω) (E (λ_=>B trivial) λ_=>B ⟨k-1,ω,i+1,rfl,ω⟩)
  ·cases y with
   |inl _=>exact B trivial
   |inr _=>exact B trivial
 obtain⟨y,h,_⟩:=h;exact⟨y.1.1,h⟩
end
def PJ(m:Img)(i:Nat)(calm fr:Bool)(kind:Int):List Record×Int:=
 bif kind==1&&phA m i==0 then(bif fr then([⟨4,0,0,i,1⟩],0)else([],261))
 else bif(kind==2&&phA m i==1)then([⟨4,0,0,i,0⟩],0)
 else bif(kind==3&&phA m i==2)then([⟨4,0,0,i,0⟩],0)
 else bif(kind==2&&(phA m i==4&&lvA m i))then([⟨6,0,0,i,0⟩],0)
 else bif(kind==4&&phA m i==2)then([⟨4,0,0,i,3⟩],0)
 else bif(kind==5&&phA m i==3)then(bif calm then([⟨4,0,0,i,2⟩],0)else([],262))
 else bif(kind==6&&phA m i==3)then(bif !flA m i then([⟨4,0,0,i,4⟩],0)else([],262))
 else bif(kind==7&&(phA m i==4&&!lvA m i))then(bif fr then([⟨6,0,0,i,1⟩],0)else([],261))
 else bif(kind==8&&flA m i)then([⟨5,0,0,i,0⟩],0)else([],260)
section
variable{b:L}{m:Img}(hm:ImgOK b m){i:Nat}(hi:i<b.B0.length)
include hm hi
theorem Bi0(ok:Bool)(e:Int)(l:List Record):Dw ok e l=H (((bif ok then(l,(0:Int))else([],e)).1,(bif ok then(l,(0:Int))else([],e)).2,()),()):=by unfold Dw;cases ok<;>rfl
theorem Bsk(calm:Bool)(p:Int):Br m.F0 m.O0 m.K0 m.A0 (i:Int) calm p=H ((phA m i==p,()),()):=by unfold Br;rw[Ac ω (by rw[hm.lp];omega),d_];rfl
theorem Bca(hf:DZ m.F0 m.O0 m.K0 m.A0=H ((fr,()),()))(calm:Bool)(kind:Int):Ib m.F0 m.O0 m.K0 m.A0 (i:Int) calm kind=H (((PJ m i calm fr kind).1,(PJ m i calm fr kind).2,()),()):=by
 have ifl:inB (i:Int) m.O0.length=C:=Ac ω (by rw[hm.lf];omega);have it:=Bsk hm hi calm;have wi:=Bi0 hm hi;unfold Ib PJ;rw[Ac ω (show(i:Int)<(m.K0.length:Int)by rw[hm.ll];omega),d_]
 let T:=((m.F0,m.O0,m.K0,m.A0,(i:Int),calm,()),(m.F0,m.O0,m.K0,m.A0,()),())
 have st:∀(k p:Int),(bif kind==k then(Br m.F0 m.O0 m.K0 m.A0 (i:Int) calm p).bind λy1=>H ((kind,(),(),lvA m i,y1.1.1,()),T)else H ((kind,(),(),lvA m i,J,()),T))=H ((kind,(),(),lvA m i,(kind==k&&phA m i==p),()),T):=λk p=>by
  cases kind==k with
  |true=>exact D (it p) rfl
  |false=>rfl
 refine D (st 1 0) ?_;show(bif(kind==1&&phA m i==0)then _ else _)=_;cases kind==1&&phA m i==0 with
 |true=>refine D hf (D (a:=(([Record.mk 4 0 0 i 1],()),())) rfl (D (wi fr 261 [⟨4,0,0,i,1⟩]) ?_));cases fr<;>rfl
 |false=>
 refine D (st 2 1) ?_;show(bif(kind==2&&phA m i==1)then _ else _)=_;cases h2:kind==2&&phA m i==1 with
 |true=>rfl
 |false=>
 refine D (st 3 2) ?_;show(bif(kind==3&&phA m i==2)then _ else _)=_;cases kind==3&&phA m i==2 with
 |true=>rfl
 |false=>
 refine D (a:=((kind,(),(),lvA m i,(kind==2&&(phA m i==4&&lvA m i)),()),T)) ?_ ?_
 ·show(bif kind==2 then(Br m.F0 m.O0 m.K0 m.A0 (i:Int) calm 4).bind _ else _)=_;cases kind==2 with
  |false=>rfl
  |true=>refine D (it 4) ?_;show(bif phA m i==4 then _ else _)=_;cases phA m i==4<;>rfl
 show(bif(kind==2&&(phA m i==4&&lvA m i))then _ else _)=_;cases kind==2&&(phA m i==4&&lvA m i)with
 |true=>rfl
 |false=>
 refine D (st 4 2) ?_;show(bif(kind==4&&phA m i==2)then _ else _)=_;cases kind==4&&phA m i==2 with
 |true=>rfl
 |false=>
 refine D (st 5 3) ?_;show(bif(kind==5&&phA m i==3)then _ else _)=_;cases kind==5&&phA m i==3 with
 |true=>rw[d_];refine D (a:=(([Record.mk 4 0 0 i 2],()),())) rfl ?_;refine D (wi calm 262 [⟨4,0,0,i,2⟩]) ?_;cases calm<;>rfl
 |false=>
 refine D (st 6 3) ?_;show(bif(kind==6&&phA m i==3)then _ else _)=_;cases kind==6&&phA m i==3 with
 |true=>show(bif inB (i:Int) m.O0.length then _ else _)=_;rw[ifl,d_];refine D (a:=(([Record.mk 4 0 0 i 4],()),())) rfl ?_;refine D (wi (!flA m i) 262 [⟨4,0,0,i,4⟩]) ?_;cases flA m i<;>rfl
 |false=>
 refine D (a:=((kind,(),(),(kind==7&&(phA m i==4&&!lvA m i)),()),T)) ?_ ?_
 ·show(bif kind==7 then(Br m.F0 m.O0 m.K0 m.A0 (i:Int) calm 4).bind _ else _)=_;cases kind==7 with
  |false=>rfl
  |true=>refine D (it 4) ?_;show(bif phA m i==4 then _ else _)=_;cases phA m i==4<;>rfl
 show(bif(kind==7&&(phA m i==4&&!lvA m i))then _ else _)=_;cases kind==7&&(phA m i==4&&!lvA m i)with
 |true=>refine D hf (D (wi fr 261 [⟨6,0,0,i,1⟩]) ?_);cases fr<;>rfl
 |false=>
 refine D (a:=(((),(kind==8&&flA m i),()),(T.1,()))) ?_ ?_
 ·show(bif kind==8 then(bif inB (i:Int) m.O0.length then _ else _)else _)=_;cases kind==8 with
  |false=>rfl
  |true=>rw[ifl];rfl
 show(bif(kind==8&&flA m i)then _ else _)=_;cases kind==8&&flA m i<;>rfl
end
def Su(m:Img)(car:Int):Bool:=m.A0.any λe=>e.T0==car
def JA(m:Img)(i:Nat):Bool:=phA m i==4&&lvA m i
def WU(m:Img)(calm:List Bool)(i:Nat):Bool:=calm.getD i J&&((phA m i==1||JA m i)&&!Su m i)
def QZ(m:Img)(calm:List Bool)(i:Nat):List Record:=bif WU m calm i then [⟨4,0,0,i,2⟩]++(bif JA m i then [⟨6,0,0,i,0⟩]else [])++(bif flA m i then [⟨5,0,0,i,0⟩]else [])else []
def FC(m:Img)(calm:List Bool):Nat→List Record
 |0=>[]
 |i+1=>FC m calm i++QZ m calm i
def Ayp(m:Img)(calm:List Bool)(i:Nat):(QZ m calm i).length≤3:=by unfold QZ;cases WU m calm i<;>cases JA m i<;>cases flA m i<;>simp
def Uo(m:Img)(calm:List Bool):∀i,(FC m calm i).length≤3*i
 |0=>A_ 0
 |i+1=>by
  have:=Uo m calm i
  have:=Ayp m calm i
  show(FC m calm i++QZ m calm i).length≤_;rw[h_];omega
section
variable{b:L}{m:Img}(hm:ImgOK b m)(hb:b.small)(he:m.A0.length≤100000)
include hm he
omit hm in
theorem Aos(car:Int):EV m.F0 m.O0 m.K0 m.A0 car=H ((Su m car,()),()):=by
 have h:N (EV m.F0 m.O0 m.K0 m.A0 car) λy=>y=((Su m car,()),()):=by
  unfold EV IW;refine P (Q:=λy=>match y with | .inl _=>Su m car=J | .inr z=>z=((C,()),())∧Su m car=C) (Sat.loop (λk x=>∃i:Nat,x=((car,m.A0,(m.A0.length:Int),(i:Int),()),())∧i+k=m.A0.length∧∀e∈m.A0.take i,(e.T0==car)=J) ?_ m.A0.length ⟨0,rfl,ω,λe h=>(by simp at h)⟩ ω) λy hy=>?_
  ·rintro k x ⟨i,rfl,hk,hn⟩;show N (Ml car m.A0 (m.A0.length:Int) (i:Int)) _;unfold Ml;refine E (λq=>?_) λq=>B ?_
   ·have hi:i<m.A0.length:=by have:=m_ q;omega
    refine S (Ac ω ω) (E (λq2=>B ⟨rfl,?_⟩) λq2=>B ⟨k-1,ω,i+1,?_,ω,λe h=>?_⟩)
    ·exact List.any_eq_true.2 ⟨_,BR _ hi,q2⟩
    ·rw[show A.wrap ((i:Int)+1)=((i+1:Nat):Int)by rw[Aa ω ω];omega]
    ·rw[List.take_succ,i_ hi]at h;rcases p_.1 h with h | h
     ·exact hn e h
     ·rw[j_,k_,i_ hi]at q2
      have:e=m.A0[i]:=by simpa using h
      rw[this];exact q2
   ·have:=E_ q
    rw[a3_ ω]at hn;show Su m car=J;exact List.any_eq_false.2 λe h=>by rw[hn e h];decide
  ·cases y with
   |inl _=>rw[show Su m car=J from hy];exact B rfl
   |inr z=>obtain⟨h1,h2⟩:=hy;subst h1;rw[h2];exact B rfl
 obtain⟨y,h,rfl⟩:=h;exact h
include hb in
theorem Agz{kind:Int}(hk:0≤kind∧kind≤8)(hi:i<b.B0.length)(hcalm:calm.length=b.B0.length)(hf:DZ m.F0 m.O0 m.K0 m.A0=H ((fr,()),())):La b.C0 b.E0 b.H0 b.M0 b.J0 b.L0 b.N0 b.B0 m.F0 m.O0 m.K0 m.A0 kind (i:Int) calm=H (((bif kind==0 then([],(0:Int))else PJ m i (calm.getD i J) fr kind).1,(bif kind==0 then([],(0:Int))else PJ m i (calm.getD i J) fr kind).2,()),()):=by
 have hcc:=Am hm.code;unfold La;refine D (CW hb m (c4_ (show m.F0.length≤8 by rw[hm.lp];omega) τ) (c4_ he τ)) ?_;show(bif !m.ok b then _ else _)=_;rw[Img.ok_iff.2 hm,hcalm,O_,f_ (ω:¬kind<0),f_ (ω:¬8<kind),f_ (ω:¬(i:Int)<0),f_ (ω:¬(b.B0.length:Int)≤(i:Int))];simp only[o_,c_];cases kind==0 with
 |true=>rfl
 |false=>rw[c_,Ac ω ω,d_];exact D (Bca hm hi hf _ kind) rfl
include hb in
theorem Aj4(hcalm:calm.length=b.B0.length):Mg b.C0 b.E0 b.H0 b.M0 b.J0 b.L0 b.N0 b.B0 m.F0 m.O0 m.K0 m.A0 calm=H ((FC m calm b.B0.length,()),()):=by
 have hcc:=Am hm.code;have lp:=hm.lp;have lf:=hm.lf;have ll:=hm.ll;have hL:N (JN ((calm,(),([]:List Record),m.F0,(m.F0.length:Int),(0:Int),()),(m.tup,()))) λy=>y=((FC m calm b.B0.length,()),()):=by
  unfold JN;refine Sat.loop (λk x=>∃(i:Nat),x=((calm,(),FC m calm i,m.F0,(m.F0.length:Int),(i:Int),()),(m.tup,()))∧i+k=m.F0.length) ?_ m.F0.length ⟨0,rfl,ω⟩ ω;rintro k x ⟨i,rfl,hk⟩;have hl:=Uo m calm i;show N (Ql calm (FC m calm i) m.F0 (m.F0.length:Int) (i:Int) m.F0 m.O0 m.K0 m.A0) _;unfold Ql;refine E (λq=>?_) λq=>B (by have q:=E_ q;show((FC m calm i,()),())=((FC m calm b.B0.length,()),());rw[show b.B0.length=i by omega]);have hi:i<m.F0.length:=by have:=m_ q;omega
  have w:=Gb hi (show m.F0.length≤Ba by unfold Ba;omega);have i1:inB (i:Int) m.F0.length=C:=Ac ω ω;have i2:inB (i:Int) m.K0.length=C:=Ac ω ω;have i3:inB (i:Int) m.O0.length=C:=Ac ω ω;have i4:inB (i:Int) calm.length=C:=Ac ω ω;refine S i1 ?_;refine aB (b:=((calm,(),FC m calm i,(i:Int),phA m i,JA m i,m.F0,(m.F0.length:Int),(i:Int),()),(m.tup,()))) ?_ ?_
  ·show(bif phA m i==4 then _ else _)=_;unfold JA;cases phA m i==4 with
   |true=>rw[d_,i2];rfl
   |false=>rfl
  refine aB (b:=((calm,(),FC m calm i,(i:Int),JA m i,m.F0,(m.F0.length:Int),(i:Int),!WU m calm i,()),(m.tup,()))) ?_ ?_
  ·have hb2:=Aos (m:=m) he (i:Int);show(bif inB (i:Int) calm.length then _ else _)=_;rw[i4,d_];unfold WU;show(bif !calm.getD i J then _ else bif phA m i !=1 then bif !JA m i then _ else(EV m.F0 m.O0 m.K0 m.A0 (i:Int)).bind _ else(EV m.F0 m.O0 m.K0 m.A0 (i:Int)).bind _)=_;cases calm.getD i J with
   |false=>rfl
   |true=>
    rw[o_,c_,s_];unfold bne;cases phA m i==1 with
    |true=>rw[o_,c_];exact D hb2 (by show H ((calm,(),FC m calm i,(i:Int),JA m i,m.F0,(m.F0.length:Int),(i:Int),Su m (i:Int),()),_)=_;rw[Bool.true_or,s_,Bool.not_not])
    |false=>
     rw[d4_,d_];cases JA m i with
     |false=>rfl
     |true=>exact D hb2 (by show H ((calm,(),FC m calm i,(i:Int),C,m.F0,(m.F0.length:Int),(i:Int),Su m (i:Int),()),_)=_;rw[Bool.or_true,s_,Bool.not_not])
  refine E (λq2=>B ⟨k-1,ω,i+1,?_,ω⟩) λq2=>?_
  ·simp only[w];have q2:WU m calm i=J:=by simpa using q2
   show _=((calm,(),FC m calm i++QZ m calm i,m.F0,(m.F0.length:Int),((i+1:Nat):Int),()),(m.tup,()));rw[show QZ m calm i=[]by unfold QZ;rw[q2];rfl,a6_]
  ·have q2:WU m calm i=C:=by simpa using q2
   refine S (f7_ (by simp only[x_,c7_];omega)) ?_;refine aB (b:=((calm,(),FC m calm i++[⟨4,0,0,i,2⟩]++(bif JA m i then [⟨6,0,0,i,0⟩]else []),(i:Int),m.F0,(m.F0.length:Int),(i:Int),()),(m.tup,()))) ?_ ?_
   ·show(bif JA m i then _ else _)=_;cases JA m i with
    |true=>rw[d_];refine Wm (f7_ (by simp only[h_,x_,c7_];omega)) rfl
    |false=>rw[c_,c_,a6_]
   refine S i3 ?_;have e:FC m calm (i+1)=FC m calm i++[⟨4,0,0,i,2⟩]++(bif JA m i then [⟨6,0,0,i,0⟩]else [])++(bif flA m i then [⟨5,0,0,i,0⟩]else []):=by show FC m calm i++QZ m calm i=_;unfold QZ;rw[q2,d_];simp only[M_]
   refine E (λq3=>?_) λq3=>B ⟨k-1,ω,i+1,?_,ω⟩
   ·have q3:flA m i=C:=q3;rw[q3,d_]at e;refine S (f7_ (by have:(bif JA m i then [(⟨6,0,0,i,0⟩:Record)]else []).length≤1:=(by cases JA m i<;>simp);simp only[h_,x_,c7_];omega)) (B ⟨k-1,ω,i+1,?_,ω⟩);simp only[w];rw[e]
   ·have q3:flA m i=J:=q3;rw[q3,c_,a6_]at e;simp only[w];rw[e]
 obtain⟨y,hy,rfl⟩:=hL;unfold Mg;refine D (CW hb m (c4_ (show m.F0.length≤8 by rw[hm.lp];omega) τ) (c4_ he τ)) ?_;show(bif !m.ok b then _ else _)=_;rw[Img.ok_iff.2 hm,hcalm,O_,o_,c_,c_];exact D hy rfl
end
def VL(x:Int):0≤IntKind.u32.wrap (stk x 255 (BitVec.toNat (aC (IntKind.bits .u32) x&&&aC (IntKind.bits .u32) 255)))∧IntKind.u32.wrap (stk x 255 (BitVec.toNat (aC (IntKind.bits .u32) x&&&aC (IntKind.bits .u32) 255)))<256:=by
 rw[ZN];unfold vb;have h:(bv x&&&bv 255).toNat<256:=by rw[BitVec.toNat_and];exact Nat.lt_of_le_of_lt Nat.and_le_right (show(bv 255).toNat<256 by decide)
 omega
def Bra(n:Int):0≤A.wrap (O R n)∧A.wrap (O R n)≤255:=by
 have:=Acm n
 rw[Aa ω ω];omega
def TO{x:Int}(h:0≤x∧x<4294967296):N (Da x) λy=>0≤y.1.1∧y.1.1≤255:=by
 unfold Da;refine S (Ac ?_ (aE ?_ (Int.ofNat_le.2 (F_ (n:=256) rfl)))) ?_
 ·rw[a4_ _ τ];exact Int.ediv_nonneg h.1 τ
 ·rw[a4_ _ τ];exact Int.ediv_lt_of_lt_mul τ h.2
 refine S (Ac (VL _).1 (aE (VL _).2 (Int.ofNat_le.2 (F_ (n:=256) rfl)))) ?_;refine S (Ac (VL _).1 (aE (VL _).2 (Int.ofNat_le.2 (F_ (n:=256) rfl)))) ?_;exact S (Ac (VL _).1 (aE (VL _).2 (Int.ofNat_le.2 (F_ (n:=256) rfl)))) (B (Bra _))
def Yv(fl:Int){set:Int}(h:0≤set∧set<4294967296)(a c d e:Bool):N (IM fl set a c d e) λy=>y.2.1.2.2.1=2→e=C:=by unfold IM Nn;have i:SatT (Da set):=⟨(TO h).any⟩;refine P (Q:=λ_=>True) (P (Avm set) λ_ _=>P (Q:=λ_=>True) ?_ λ_ _=>E (λ_=>B trivial) λ_=>B trivial) λ_ _=>P (Bqz a c) λ_ _=>P (Q:=λy=>y.1.1=2→e=C) (by cases d<;>cases e<;>exact⟨_,rfl,τ⟩) λ_ h=>B h;refine P (isFloors_ti fl).out λ_ _=>E (λ_=>P (TO h) λ_ _=>E (λ_=>B trivial) λ_=>B trivial) λ_=>B trivial
def orL(x y:Int):Int:=aD.wrap (stk x y (BitVec.toNat ((aC (IntKind.bits aD) x)|||(aC (IntKind.bits aD) y))))
def leV(s:ByteArray):Nat→Int
 |0=>0
 |i+1=>orL (leV s i) (O aD (O aD (AJ s i)*((2:Int)^(Min.min (Int.toNat (8*(i:Int))) (IntKind.bits aD)))))
def Mw(b:L){s:ByteArray}{k:Nat}(hk:k≤8)(hs:k≤s.size):BE (k:Int) s b.C0 b.E0 b.H0 b.M0 b.J0 b.L0 b.N0 b.B0=H ((leV s k,()),((s.extract k s.size,b.C0,b.E0,b.H0,b.M0,b.J0,b.L0,b.N0,b.B0,()),())):=by
 have h:N (Db (((),(k:Int),(0:Int),(k:Int),(0:Int),()),((s,b.C0,b.E0,b.H0,b.M0,b.J0,b.L0,b.N0,b.B0,()),()))) λy=>y=(((),(k:Int),leV s k,()),((s,b.C0,b.E0,b.H0,b.M0,b.J0,b.L0,b.N0,b.B0,()),())):=by
  unfold Db;refine Sat.loop (λm x=>∃i:Nat,x=(((),(k:Int),leV s i,(k:Int),(i:Int),()),((s,b.C0,b.E0,b.H0,b.M0,b.J0,b.L0,b.N0,b.B0,()),()))∧i+m=k) ?_ k ⟨0,rfl,ω⟩ ω;rintro m x ⟨i,rfl,hm⟩;show N (GQ (k:Int) (leV s i) (k:Int) (i:Int) s b.C0 b.E0 b.H0 b.M0 b.J0 b.L0 b.N0 b.B0) _;unfold GQ;refine E (λq=>?_) λq=>B ?_
  ·have q:=m_ q;have hi:i<s.size:=ω;refine S (Ac ω ω) ?_;have w8:A.wrap (8*(i:Int))=8*(i:Int):=Aa ω ω;have w1:A.wrap ((i:Int)+1)=((i+1:Nat):Int):=by rw[Aa ω ω];omega
   simp only[w8,w1];exact S (b_ ω) (B ⟨m-1,ω,i+1,rfl,ω⟩)
  ·have q:=E_ q;obtain rfl:i=k:=ω;rfl
 obtain⟨y,h1,rfl⟩:=h;unfold BE;rw[h1];simp only[a_];rw[b_ (ω:(0:Int)≤(k:Int)),b_ (ω:(k:Int)≤(s.size:Int))];rfl
def KO{α:Type}(d:α)(g:Nat→α→α)(i:Nat)(l:List α):List α:=l.set i (g i (l.getD i d))
def Ah7{α:Type}(d:α)(g:Nat→α→α):∀(m i:Nat) (l:List α),i+m=l.length→AE (KO d g) m i l=l.take i++(List.range' i m).map (λj=>g j (l.getD j d))
 |0,i,l,h=>by rw[show i=l.length by omega,List.take_length];simp[AE]
 |m+1,i,l,h=>by
  have hi:i<l.length:=ω;unfold AE;rw[Ah7 d g m (i+1) _ (by rw[KO,D_];omega)];have e1:(KO d g i l).take (i+1)=l.take i++[g i (l.getD i d)]:=by unfold KO;rw[List.take_add_one,List.take_set_of_le ω,List.getElem?_set_self ω];rfl
  rw[e1,f0_,c2_,M_,d2_];congr 2;apply List.map_congr_left;intro j hj;rw[List.mem_range']at hj;obtain⟨k,hk,rfl⟩:=hj;unfold KO;rw[k_,List.getElem?_set_ne ω,← k_]
def PS(d:α)(g:Nat→α→α)(f:Nat→α)(n:Nat):AE (KO d g) n 0 ((aA n).map f)=(aA n).map (λj=>g j (f j)):=by rw[Ah7 d g n 0 _ σ,List.take_zero,a5_,← List.range_eq_range'];apply List.map_congr_left;intro j hj;rw[List.mem_range]at hj;simp[k_,hj]
def Bq{l:List α}(d x:α)(h:i<l.length):(l.set i x).getD i d=x:=by rw[k_,List.getElem?_set_self h];rfl
def g15(fl t i:Nat)(c:Car):Car:=⟨c.I1,c.O3,c.T3,c.M2,((1+t%3:Nat):Int),((1+t/3%3:Nat):Int),((1+t/9%3:Nat):Int),((1+t/9%3+t/27%5:Nat):Int),(((i+t)%fl:Nat):Int)⟩
def g18(t:Nat)(_:Nat)(c:Car):Car:={ c with I1:=((1+t%16:Nat):Int) }
def g27(n1 n2:Nat)(_:Nat)(c:Car):Car:={ c with T3:=((1+n2%4:Nat):Int),M2:=((n1%5:Nat):Int) }
def ES(fl ca t:Nat):L:={ AG fl ca with M0:=((1+t%7:Nat):Int),B0:=(aA ca).map λi=>g15 fl t i (FS fl i) }
def Us(fl ca t:Nat):L:={ ES fl ca t with B0:=(aA ca).map λi=>g18 t i (g15 fl t i (FS fl i)) }
def FF(fl ca n1 n2:Nat):L:={ ES fl ca n1 with E0:=((1+n2%3:Nat):Int),H0:=((18*ca+24+6*(n2/3):Nat):Int),B0:=(aA ca).map λi=>g27 n1 n2 i (g18 n1 i (g15 fl n1 i (FS fl i))) }
def Beq{n:Int}(h:0≤n)(h':n<256):R.wrap n=n:=by simp only[O,IntKind.signed,IntKind.bits];simp;omega
def MA(a b:Nat):I (a:Int) (b:Int)=((a%b:Nat):Int):=by rw[e3_ ω];norm_cast
def Beo(a b:Nat):U (a:Int) (b:Int)=((a/b:Nat):Int):=by rw[Int.tdiv_eq_ediv_of_nonneg ω];norm_cast
def OL(k:Nat)(ht:t<100000):A.wrap ((1:Int)+A.wrap (I (t:Int) (k:Int)))=((1+t%k:Nat):Int):=by
 have:t%k≤t:=Nat.mod_le _ _
 rw[MA];generalize t%k=q at this⊢;rw[Aa (n:=(q:Int)) ω ω,Aa ω ω];norm_cast
def Yk(k:Nat)(ht:t<256):R.wrap (U (t:Int) (k:Int))=((t/k:Nat):Int):=by
 have:t/k≤t:=Nat.div_le_self _ _
 generalize hq:t/k=q at this;rw[Beo,hq,Beq ω ω]
def Asg{fl ca:Nat}(h1:1≤fl)(hf:fl≤100)(h2:ca≤8)(ht:t<256):
  Kv (((t:Int),(),(),(0:Int),()),(Bldg.none.tup,(AG fl ca).tup,()))=H (((t:Int),(),(),()),(Bldg.none.tup,({ AG fl ca with B0:=(ES fl ca t).B0 }:L).tup,())):=by
 have hl:(AG fl ca).B0.length=ca:=by simp[AG]
 have h:=AP (step:=λx=>letI a:=x.2.2.1.2.2;letI b:=x.2.1.2.2;letI c:=b.2.2;letI d:=a.2.2;Gq x.1.1 x.1.2.2.2.1 x.2.1.1 x.2.1.2.1 b.1 b.2.1 c.1 c.2.1 c.2.2.1 c.2.2.2.1 x.2.2.1.1 x.2.2.1.2.1 a.1 a.2.1 d.1 d.2.1 d.2.2.1 d.2.2.2.1) ca
  (λi l=>(((t:Int),(),(),(i:Int),()),(Bldg.none.tup,({ AG fl ca with B0:=l }:L).tup,()))) (KO ET (g15 fl t)) (λ_ l=>l.length=ca) (λl=>(((t:Int),(),(),()),(Bldg.none.tup,({ AG fl ca with B0:=l }:L).tup,())))
  (λi l hi hll=>by
   refine⟨?_,by rw[KO,D_,hll]⟩;show Gq (t:Int) (i:Int) Bldg.none.C0 Bldg.none.E0 Bldg.none.H0 Bldg.none.M0 Bldg.none.J0 Bldg.none.L0 Bldg.none.N0 Bldg.none.B0 (AG fl ca).C0 (AG fl ca).E0 (AG fl ca).H0 (AG fl ca).M0 (AG fl ca).J0 (AG fl ca).L0 (AG fl ca).N0 l=_;unfold Gq;have hil:i<l.length:=ω;have hz:((AG fl ca).C0 !=0)=C:=by show((fl:Int) !=0)=C;simp;omega
   have w:A.wrap ((i:Int)+1)=((i+1:Nat):Int):=by rw[Aa ω ω];omega
   have e1:A.wrap ((1:Int)+A.wrap (I (t:Int) 3))=((1+t%3:Nat):Int):=OL 3 ω;have e2:A.wrap ((1:Int)+A.wrap (I (O R (U (t:Int) 3)) 3))=((1+t/3%3:Nat):Int):=by rw[show R.wrap (U (t:Int) 3)=((t/3:Nat):Int)from Yk 3 ht];exact OL 3 ω
   have e3:A.wrap ((1:Int)+A.wrap (I (O R (U (t:Int) 9)) 3))=((1+t/9%3:Nat):Int):=by rw[show R.wrap (U (t:Int) 9)=((t/9:Nat):Int)from Yk 9 ht];exact OL 3 ω
   have e4:A.wrap (((1+t/9%3:Nat):Int)+A.wrap (I (O R (U (t:Int) 27)) 5))=((1+t/9%3+t/27%5:Nat):Int):=by rw[show R.wrap (U (t:Int) 27)=((t/27:Nat):Int)from Yk 27 ht,show I ((t/27:Nat):Int) 5=((t/27%5:Nat):Int)from MA _ 5,Aa (n:=((t/27%5:Nat):Int)) ω ω,Aa ω ω];norm_cast
   have e5:I (O A ((i:Int)+A.wrap (t:Int))) (AG fl ca).C0=(((i+t)%fl:Nat):Int):=by show I _ (fl:Int)=_;rw[Aa (n:=(t:Int)) ω ω,Aa ω ω];exact MA (i+t) fl
   rw[show Car.mk 0 0 0 0 0 0 0 0 0=ET from rfl];simp only[b_ (ω:(i:Int)<(l.length:Int)),Ac (ω:(0:Int)≤(i:Int)) (ω:(i:Int)<(l.length:Int)),d_,j_,hz,w,Bq ET _ hil,List.set_set,e1,e2,e3,e4,e5];unfold KO g15;rfl)
  (λl hll=>by show Gq (t:Int) (ca:Int) Bldg.none.C0 Bldg.none.E0 Bldg.none.H0 Bldg.none.M0 Bldg.none.J0 Bldg.none.L0 Bldg.none.N0 Bldg.none.B0 (AG fl ca).C0 (AG fl ca).E0 (AG fl ca).H0 (AG fl ca).M0 (AG fl ca).J0 (AG fl ca).L0 (AG fl ca).N0 l=_;unfold Gq;rw[hll,f_ (Q_ (ca:Int))];rfl)
  ca 0 (AG fl ca).B0 ω hl
 have h2:=Ak h.1 ω;rw[show(AG fl ca).B0=(aA ca).map (FS fl)from rfl,PS]at h2;exact h2
def Ash{fl ca:Nat}(_hf:fl≤100)(h2:ca≤8)(ht:t<256):
  Kw (((t:Int),(),(),(0:Int),()),(Bldg.none.tup,(ES fl ca t).tup,()))=H (((),(),()),(Bldg.none.tup,(Us fl ca t).tup,())):=by
 have hl:(ES fl ca t).B0.length=ca:=by simp[ES]
 have h:=AP (step:=λx=>letI a:=x.2.2.1.2.2;letI b:=x.2.1.2.2;letI c:=b.2.2;letI d:=a.2.2;Gr x.1.1 x.1.2.2.2.1 x.2.1.1 x.2.1.2.1 b.1 b.2.1 c.1 c.2.1 c.2.2.1 c.2.2.2.1 x.2.2.1.1 x.2.2.1.2.1 a.1 a.2.1 d.1 d.2.1 d.2.2.1 d.2.2.2.1) ca
  (λi l=>(((t:Int),(),(),(i:Int),()),(Bldg.none.tup,({ ES fl ca t with B0:=l }:L).tup,()))) (KO ET (g18 t)) (λ_ l=>l.length=ca) (λl=>(((),(),()),(Bldg.none.tup,({ ES fl ca t with B0:=l }:L).tup,())))
  (λi l hi hll=>by
   refine⟨?_,by rw[KO,D_,hll]⟩;show Gr (t:Int) (i:Int) Bldg.none.C0 Bldg.none.E0 Bldg.none.H0 Bldg.none.M0 Bldg.none.J0 Bldg.none.L0 Bldg.none.N0 Bldg.none.B0 (ES fl ca t).C0 (ES fl ca t).E0 (ES fl ca t).H0 (ES fl ca t).M0 (ES fl ca t).J0 (ES fl ca t).L0 (ES fl ca t).N0 l=_;unfold Gr;have w:A.wrap ((i:Int)+1)=((i+1:Nat):Int):=by rw[Aa ω ω];omega
   have e1:A.wrap ((1:Int)+A.wrap (I (t:Int) 16))=((1+t%16:Nat):Int):=OL 16 ω;rw[show Car.mk 0 0 0 0 0 0 0 0 0=ET from rfl];simp only[b_ (ω:(i:Int)<(l.length:Int)),Ac (ω:(0:Int)≤(i:Int)) (ω:(i:Int)<(l.length:Int)),d_,j_,w,e1];unfold KO g18;rfl)
  (λl hll=>by show Gr (t:Int) (ca:Int) Bldg.none.C0 Bldg.none.E0 Bldg.none.H0 Bldg.none.M0 Bldg.none.J0 Bldg.none.L0 Bldg.none.N0 Bldg.none.B0 (ES fl ca t).C0 (ES fl ca t).E0 (ES fl ca t).H0 (ES fl ca t).M0 (ES fl ca t).J0 (ES fl ca t).L0 (ES fl ca t).N0 l=_;unfold Gr;rw[hll,f_ (Q_ (ca:Int))];rfl)
  ca 0 (ES fl ca t).B0 ω hl
 have h2:=Ak h.1 ω;rw[show(ES fl ca t).B0=(aA ca).map (λi=>g15 fl t i (FS fl i))from rfl,PS]at h2;exact h2
def GJ(fl ca n1 n2:Nat):L:={ FF fl ca n1 n2 with B0:=(Us fl ca n1).B0 }
def Asi{fl ca n0 n1 n2:Nat}(h2:ca≤8)(_h3:n1<256)(h4:n2<256) :
  HU (((),(),(),(0:Int),()),(((n0:Int),(n1:Int),(n2:Int),()),Bldg.none.tup,(GJ fl ca n1 n2).tup,()))=H (((),(),()),(Bldg.none.tup,(FF fl ca n1 n2).tup,())):=by
 have hl:(GJ fl ca n1 n2).B0.length=ca:=by simp[GJ,Us]
 have h:=AP (step:=λx=>letI a:=x.2.2;letI b:=a.2.1.2.2;letI c:=a.1.2.2;letI d:=c.2.2;letI e:=b.2.2;Gs x.1.2.2.2.1 x.2.1.1 x.2.1.2.1 x.2.1.2.2.1 a.1.1 a.1.2.1 c.1 c.2.1 d.1 d.2.1 d.2.2.1 d.2.2.2.1 a.2.1.1 a.2.1.2.1 b.1 b.2.1 e.1 e.2.1 e.2.2.1 e.2.2.2.1) ca
  (λi l=>(((),(),(),(i:Int),()),(((n0:Int),(n1:Int),(n2:Int),()),Bldg.none.tup,({ GJ fl ca n1 n2 with B0:=l }:L).tup,()))) (KO ET (g27 n1 n2)) (λ_ l=>l.length=ca) (λl=>(((),(),()),(Bldg.none.tup,({ GJ fl ca n1 n2 with B0:=l }:L).tup,())))
  (λi l hi hll=>by
   refine⟨?_,by rw[KO,D_,hll]⟩;show Gs (i:Int) (n0:Int) (n1:Int) (n2:Int) Bldg.none.C0 Bldg.none.E0 Bldg.none.H0 Bldg.none.M0 Bldg.none.J0 Bldg.none.L0 Bldg.none.N0 Bldg.none.B0 (GJ fl ca n1 n2).C0 (GJ fl ca n1 n2).E0 (GJ fl ca n1 n2).H0 (GJ fl ca n1 n2).M0 (GJ fl ca n1 n2).J0 (GJ fl ca n1 n2).L0 (GJ fl ca n1 n2).N0 l=_;unfold Gs;have hil:i<l.length:=ω;have w:A.wrap ((i:Int)+1)=((i+1:Nat):Int):=by rw[Aa ω ω];omega
   have e1:A.wrap ((1:Int)+A.wrap (I (n2:Int) 4))=((1+n2%4:Nat):Int):=OL 4 ω;have e2:A.wrap (I (n1:Int) 5)=((n1%5:Nat):Int):=by rw[show I (n1:Int) 5=((n1%5:Nat):Int)from MA n1 5,Aa ω ω]
   rw[show Car.mk 0 0 0 0 0 0 0 0 0=ET from rfl];simp only[b_ (ω:(i:Int)<(l.length:Int)),Ac (ω:(0:Int)≤(i:Int)) (ω:(i:Int)<(l.length:Int)),d_,j_,w,e1,e2,Bq ET _ hil,List.set_set,D_];unfold KO g27;rfl)
  (λl hll=>by show Gs (ca:Int) (n0:Int) (n1:Int) (n2:Int) Bldg.none.C0 Bldg.none.E0 Bldg.none.H0 Bldg.none.M0 Bldg.none.J0 Bldg.none.L0 Bldg.none.N0 Bldg.none.B0 (GJ fl ca n1 n2).C0 (GJ fl ca n1 n2).E0 (GJ fl ca n1 n2).H0 (GJ fl ca n1 n2).M0 (GJ fl ca n1 n2).J0 (GJ fl ca n1 n2).L0 (GJ fl ca n1 n2).N0 l=_;unfold Gs;rw[hll,f_ (Q_ (ca:Int))];rfl)
  ca 0 (GJ fl ca n1 n2).B0 ω hl
 have h2:=Ak h.1 ω;rw[show(GJ fl ca n1 n2).B0=(aA ca).map (λi=>g18 n1 i (g15 fl n1 i (FS fl i)))from rfl,PS]at h2;exact h2
def Hw(n0:Nat):Nat:=2+n0%5
def Ho(n0:Nat):Nat:=1+n0/5%3
def ZR{n0:Nat}(hn:n0<256)(ht:t<256):MI (n0:Int) (t:Int)=H (((),()),((ES (Hw n0) (Ho n0) t).tup,())):=by
 have e1:A.wrap ((2:Int)+A.wrap (I (n0:Int) 5))=((Hw n0:Nat):Int):=by rw[show I (n0:Int) 5=((n0%5:Nat):Int)from MA n0 5,Aa (n:=((n0%5:Nat):Int)) ω ω,Aa ω ω];unfold Hw;norm_cast
 have e2:A.wrap ((1:Int)+A.wrap (I (O R (U (n0:Int) 5)) 3))=((Ho n0:Nat):Int):=by rw[show R.wrap (U (n0:Int) 5)=((n0/5:Nat):Int)from Yk 5 hn];exact OL 3 ω
 have hf:2≤Hw n0∧Hw n0≤6:=by unfold Hw;omega
 have hc:1≤Ho n0∧Ho n0≤3:=by unfold Ho;omega
 have e3:A.wrap ((1:Int)+A.wrap (I (t:Int) 7))=((1+t%7:Nat):Int):=OL 7 ω;unfold MI;rw[e1,e2];refine D (Acr ω ω) ?_;refine D (Asg ω ω ω ht) ?_;show H (((),()),(((Hw n0:Nat):Int),(1:Int),(4000:Int),A.wrap ((1:Int)+A.wrap (I (t:Int) 7)),_,_,_,_,()),())=_;rw[e3];rfl
def ZS{n0:Nat}(hn:n0<256)(ht:t<256):MJ (n0:Int) (t:Int)=H (((),()),((Us (Hw n0) (Ho n0) t).tup,())):=by
 have hf:2≤Hw n0∧Hw n0≤6:=by unfold Hw;omega
 have hc:1≤Ho n0∧Ho n0≤3:=by unfold Ho;omega
 unfold MJ;refine D (ZR hn ht) ?_;exact D (Ash ω ω ht) rfl
def ZT{n0 n1 n2:Nat}(h0:n0<256)(h1:n1<256)(h2:n2<256):Ej (n0:Int) (n1:Int) (n2:Int)=H (((),()),((FF (Hw n0) (Ho n0) n1 n2).tup,())):=by
 have hf:2≤Hw n0∧Hw n0≤6:=by unfold Hw;omega
 have hc:1≤Ho n0∧Ho n0≤3:=by unfold Ho;omega
 have e1:A.wrap ((1:Int)+A.wrap (I (n2:Int) 3))=((1+n2%3:Nat):Int):=OL 3 ω;have hl:(Us (Hw n0) (Ho n0) n1).B0.length=Ho n0:=by simp[Us]
 have e2:A.wrap (O A (O A (18*(((Us (Hw n0) (Ho n0) n1).B0.length:Nat):Int))+24)+A.wrap (6*A.wrap (O R (U (n2:Int) 3))))=((18*Ho n0+24+6*(n2/3):Nat):Int):=by
  rw[hl,show R.wrap (U (n2:Int) 3)=((n2/3:Nat):Int)from Yk 3 h2,Aa (n:=18*((Ho n0:Nat):Int)) ω ω,Aa (n:=18*((Ho n0:Nat):Int)+24) ω ω,Aa (n:=((n2/3:Nat):Int)) ω ω,Aa (n:=6*((n2/3:Nat):Int)) ω ω,Aa ω ω]
  norm_cast
 unfold Ej;refine D (ZS h0 h1) ?_;refine D (a:=(((),(),()),(Bldg.none.tup,(FF (Hw n0) (Ho n0) n1 n2).tup,()))) ?_ rfl;show HU (((),(),(),(0:Int),()),(((n0:Int),(n1:Int),(n2:Int),()),Bldg.none.tup,(((Hw n0:Nat):Int),A.wrap ((1:Int)+A.wrap (I (n2:Int) 3)),A.wrap (O A (O A (18*(((Us (Hw n0) (Ho n0) n1).B0.length:Nat):Int))+24)+A.wrap (6*A.wrap (O R (U (n2:Int) 3)))),_,_,_,_,_,()),()))=_;rw[e1,e2];exact Asi ω h1 h2
def Aor{fl ca n1 n2:Nat}(hf:2≤fl∧fl≤6)(hc:1≤ca∧ca≤3)(_h1:n1<256)(h2:n2<256):(FF fl ca n1 n2).small∧(FF fl ca n1 n2).code=0∧(FF fl ca n1 n2).B0.length=ca∧(FF fl ca n1 n2).C0=(fl:Int)∧18*(ca:Int)+24≤(FF fl ca n1 n2).H0∧(FF fl ca n1 n2).H0≤600:=by
 have hl:(FF fl ca n1 n2).B0.length=ca:=by simp[FF]
 have hr:(FF fl ca n1 n2).H0=((18*ca+24+6*(n2/3):Nat):Int):=rfl;refine⟨⟨by show(2:Int)≤(fl:Int);omega,by show(fl:Int)≤8;omega⟩,?_,hl,rfl,by rw[hr];omega,by rw[hr];omega⟩;unfold Bldg.code;have e1:inR 2 32 (FF fl ca n1 n2).C0=C:=Ap.2 (by show(2:Int)≤(fl:Int)∧(fl:Int)≤32;omega);have e2:inR 1 8 ((FF fl ca n1 n2).B0.length:Int)=C:=Ap.2 ω;have e3:inR 1 16 (FF fl ca n1 n2).E0=C:=Ap.2 (by show(1:Int)≤((1+n2%3:Nat):Int)∧((1+n2%3:Nat):Int)≤16;omega);have e4:inR 1 10000 (FF fl ca n1 n2).M0=C:=Ap.2 (by show(1:Int)≤((1+n1%7:Nat):Int)∧((1+n1%7:Nat):Int)≤10000;omega);have e5:(FF fl ca n1 n2).B0.all (Cj (FF fl ca n1 n2).C0)=C:=by rw[K_];intro c hc';obtain⟨i,_,rfl⟩:=b5_.1 hc';have hm:(i+n1)%fl<fl:=g1_ _ ω;show Cj (fl:Int) (g27 n1 n2 i (g18 n1 i (g15 fl n1 i (FS fl i))))=C;unfold Cj g27 g18 g15 FS;simp only[Z_,List.all_nil,d5_,e_,Ap,r_];rw[Aa (n:=(fl:Int)-1) ω ω];refine⟨⟨?_,?_,?_,?_,?_,?_,?_⟩,?_,?_,?_⟩<;>omega
 have e6:(FF fl ca n1 n2).loadsOK=C:=by
  show(AG 2 1).loadsOK=C
  kernel_rfl
 have e7:inR (18*((FF fl ca n1 n2).B0.length:Int)+24) 65536 (FF fl ca n1 n2).H0=C:=Ap.2 (by rw[hl,hr];omega);rw[e1,e2,e3,e4,e5,e6,e7];rfl
end Go.Ovl
