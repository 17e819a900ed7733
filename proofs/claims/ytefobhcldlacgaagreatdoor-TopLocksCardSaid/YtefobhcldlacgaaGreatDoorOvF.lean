import Derived.Test.YtefobhcldlacgaaGreatDoorOvE
import Derived.Test.YtefobhcldlacgaaGreatDoorOvC
import Derived.Test.YtefobhcldlacgaaGreatDoorOvA
import Derived.Test.YtefobhcldlacgaaGreatDoorOvD
set_option linter.all false
open Go.Ovl.Sat renaming ret->A,bic->E,bifT->R,bindS->S,bindE->aA,loop->aF
open Go.IntKind renaming i64->B,wrap->P,u8->U,u64->aB
open Bool renaming true->C,false->L
open Go.Ovl renaming Ae->H,Sat->J,Bldg->O
open Option renaming some->I
open Int renaming tmod->N,tdiv->V,toNat->aE,lt_of_lt_of_le->aG
open List renaming range->aC
open BitVec renaming ofInt->aD
namespace Go.Ovl
open Go Go.Ab
set_option maxRecDepth 100000
variable{i t:Nat}{α:Type}{calm:List Bool}{c:Int×Int}{b:O}{e:Entry}{fr:Bool}
def Buv(a c:Duty):∃n:Int,CL a.E0 a.I0 a.C4 c.E0 c.I0 c.C4=I ((n,()),())∧(n<0↔Ux a c=C)∧(n=0↔a.E0=c.E0∧a.I0=c.I0):=by
 unfold CL;rw[Ia,Ia];simp only[a_];rw[Yf];refine⟨_,rfl,?_⟩;unfold Ux Wi;by_cases h1:a.E0<c.E0
 ·simp[h1];omega
 ·by_cases h2:c.E0<a.E0
  ·simp[h1,h2];omega
  ·by_cases h3:a.I0<c.I0
   ·simp[h1,h2,h3];omega
   ·by_cases h4:c.I0<a.I0
    ·simp[h1,h2,h3,h4];omega
    ·simp[h1,h2,h3,h4];omega
def Bm7{j:Nat}(h:i+j<9223372036854775808):B.wrap (Int.fdiv (P aB (P B ((i:Int)+(j:Int)))) ((2:Int)^(Min.min (aE (1:Int)) (IntKind.bits aB))))=(((i+j)/2:Nat):Int):=Aht h
section
variable{b:O}(hb:b.small){D:Int}{l:List Duty}(h:DutOK b D l){F Dr:Int}(hD:1≤Dr∧Dr≤2)
include hb h hD
theorem Aps(hi:i<l.length):∃n:Int,CL l[i].E0 l[i].I0 l[i].C4 F Dr 0=I ((n,()),())∧(n<0↔dK l[i]<4*F+Dr)∧(n=0↔dK l[i]=4*F+Dr):=by obtain⟨n,h1,h2,h3⟩:=Buv l[i] (Duty.mk F Dr 0);have hc:=Fj hb (h.each _ (b1_ hi)).1;refine⟨n,h1,h2.trans (YD hc.2 hD),h3.trans ?_⟩;unfold dK;simp only;omega
theorem Bds:J (At ((l,(),(),(l.length:Int),0,(l.length:Int),()),((F,Dr,0,()),()))) λy=>∃p:Nat,y=((l,(),(),(l.length:Int),(p:Int),()),((F,Dr,0,()),()))∧p≤l.length∧(∀i (hi:i<l.length),i<p→dK l[i]<4*F+Dr)∧∀i (hi:i<l.length),p≤i→4*F+Dr≤dK l[i]:=by
 have hl:=h.len hb;unfold At;refine aF (λk x=>∃i j:Nat,x=((l,(),(),(l.length:Int),(i:Int),(j:Int),()),((F,Dr,0,()),()))∧j≤i+k∧i≤j∧j≤l.length∧(∀a (ha:a<l.length),a<i→dK l[a]<4*F+Dr)∧∀a (ha:a<l.length),j≤a→4*F+Dr≤dK l[a]) ?_ l.length ⟨0,l.length,rfl,ω,ω,ω,λa _ g=>by omega,λa _ g=>by omega⟩ ω;rintro k x ⟨i,j,rfl,hk,hij,hj,h1,h2⟩;show J (AZ l (l.length:Int) (i:Int) (j:Int) F Dr 0) _;unfold AZ;refine E (λq=>?_) λq=>A ?_
 ·have q:=m_ q;have hm:(i+j)/2<l.length:=ω;rw[Bm7 ω];refine R (Ac ω ω) ?_;have g:List.getD l (aE (((i+j)/2:Nat):Int)) (Duty.mk 0 0 0)=l[(i+j)/2]:=gD hm;simp only[g,Hn hm (show l.length≤Bs by unfold Bs;omega)];obtain⟨n,c1,c2,c3⟩:=Aps hb h (F:=F) hD hm;refine aA c1 (E (λg2=>A ⟨k-1,ω,(i+j)/2+1,j,rfl,ω,ω,hj,λa ha g3=>?_,h2⟩) λg2=>A ⟨k-1,ω,i,(i+j)/2,rfl,ω,ω,ω,h1,λa ha g3=>?_⟩)
  ·have:=c2.1 (m_ g2)
   rcases g3_ a ((i+j)/2)with g4 | g4
   ·have:=b3_.1 h.sort a _ ha hm g4
    omega
   ·obtain rfl:a=(i+j)/2:=ω;exact this
  ·have:¬dK l[(i+j)/2]<4*F+Dr:=λe=>D_ g2 (c2.2 e)
   rcases g3_ ((i+j)/2) a with g4 | g4
   ·have:=b3_.1 h.sort _ a hm ha g4
    omega
   ·obtain rfl:a=(i+j)/2:=ω;omega
 ·have q:=D_ q;exact⟨i,rfl,ω,h1,λa ha g=>h2 a ha ω⟩
theorem Bm0:J (AL l F Dr 0) λy=>∃p:Nat,y.1.1=(p:Int)∧p≤l.length∧(∀i (hi:i<l.length),i<p→dK l[i]<4*F+Dr)∧(y.1.2.1=L→∀i (hi:i<l.length),p≤i→4*F+Dr<dK l[i]):=by
 have hl:=h.len hb;unfold AL;refine S (Bds hb h (F:=F) hD) ?_;rintro y ⟨p,rfl,hp,h1,h2⟩;refine S (Q:=λy=>y.1.1=(p:Int)∧(y.1.2.1=L→∀i (hi:i<l.length),p≤i→4*F+Dr<dK l[i])) (E (λq=>?_) λq=>A ⟨rfl,λ_ i hi g=>?_⟩) λy hy=>A ⟨p,hy.1,hp,h1,hy.2⟩
 ·have q:p<l.length:=by have:=m_ q;exact Int.ofNat_lt.1 this
  refine R (Ac (Int.natCast_nonneg p) (Int.ofNat_lt.2 q)) ?_;have g:List.getD l (aE (p:Int)) (Duty.mk 0 0 0)=l[p]:=gD q;simp only[g];obtain⟨n,c1,c2,c3⟩:=Aps hb h (F:=F) hD q;refine aA c1 (A ⟨rfl,λe i hi g2=>?_⟩);have e:¬n=0:=λe0=>by rw[e0]at e;cases e
  have e:=mt c3.2 e
  have:=h2 p q (y_ _)
  rcases g3_ p i with g4 | g4
  ·have:=b3_.1 h.sort _ i q hi g4
   omega
  ·obtain rfl:i=p:=ω;omega
 ·have:=D_ q
  have:¬p<l.length:=λe=>this (Int.ofNat_lt.2 e)
  omega
theorem Brm(hc:Ap b F Dr=C)(h0:0≤D){p:Nat}(hp:p≤l.length)(h1:∀i (hi:i<l.length),i<p→dK l[i]<4*F+Dr)(h2:∀i (hi:i<l.length),p≤i→4*F+Dr<dK l[i]):J (CF l (p:Int) [Duty.mk F Dr 0]) λy=>DutOK b D y.1.1∧y.1.1≠[]:=by
 have hl:=h.len hb;unfold CF Abk;refine R ?_ (A ⟨⟨λe he=>?_,?_⟩,?_⟩)
 ·simp;omega
 ·rcases n_.1 he with he | he
  ·rcases n_.1 he with he | he
   ·exact h.each e (d9_ he)
   ·rw[E_.1 he];exact⟨hc,e1_ 0,h0⟩
  ·exact h.each e (e0_ he)
 ·have ht:∀a∈l.take p,dK a<4*F+Dr:=λa ha=>by
   obtain⟨i,hi,rfl⟩:=List.mem_take_iff_getElem.1 ha;exact h1 i ω ω
  have hd:∀a∈l.drop p,4*F+Dr<dK a:=λa ha=>by obtain⟨i,hi,rfl⟩:=List.mem_drop_iff_getElem.1 ha;exact h2 (p+i) ω ω
  show((l.take p++[Duty.mk F Dr 0])++l.drop p).Pairwise _;refine g0_.2 ⟨g0_.2 ⟨h.sort.take,List.pairwise_singleton ..,λa ha c hc=>?_⟩,h.sort.drop,λa ha c hc=>?_⟩
  ·rw[E_.1 hc];exact ht a ha
  ·rcases n_.1 ha with ha | ha
   ·exact Int.lt_trans (ht a ha) (hd c hc)
   ·rw[E_.1 ha];exact hd c hc
 ·simp
end
def Asm(z:α)(l:List α):Lg (List.replicate (aE (l.length:Int)) z) l=l:=by unfold Lg;simp
def Cby(c:Int×Int):(Fg c).length≤64:=by
 have h:∀k i:Nat,((List.range' i k).flatMap (Lz c)).length≤2*k:=by
  intro k;induction k with
  |zero=>intro i;exact y_ _
  |succ k ih=>
   intro i;rw[d8_,a1_,h_]
   have:=ih (i+1)
   have:=Add c i
   omega
 exact h 32 0
def Cb1(h:e∈Fg c):(0≤e.E0∧e.E0<32)∧(e.I0=1∨e.I0=2)∧Am c e.E0.toNat e.I0=C:=by obtain⟨f,h1,h2,h3,h4⟩:=mem_range.1 (b6_.2 ⟨e,h,rfl⟩);simp only[BR]at h2 h3 h4;refine⟨ω,h3,?_⟩;rw[h2,j_];exact h4
def Ax8(hb:b.small)(hcode:b.code=0)(h:e∈Fg (Ct c (Bz b))):Ap b e.E0 e.I0=C:=by obtain⟨h1,h2,h3⟩:=Cb1 h;rw[Jq,e_,WM hb hcode ω h2,f4_ h1.1]at h3;exact h3.2
section
variable{b:O}(hb:b.small)(hcode:b.code=0){car:Nat}(hcar:car<b.B0.length){x:Belief}(h:BelOK b car x)
include hb hcode hcar h
theorem Ai6{es:List Entry}(he:∀e∈es,Ap b e.E0 e.I0=C)(hl:es.length≤1000)(z:Akl):J (Hy (((),(),es,(es.length:Int),0,()),((x.E0,x.I0,x.F3,x.X0,x.A3,x.R3,()),z,()))) λy=>∃du,y.2.1=(x.E0,x.I0,x.F3,du,x.A3,x.R3,())∧DutOK b (Kt b car).K1 du:=by
 have hd:=Ag6 hcode (c:=Kt b car) (by unfold Kt;rw[k_,i_ hcar];exact b1_ hcar);unfold Hy;refine aF (λk y=>∃(du:List Duty) (i:Nat),y=(((),(),es,(es.length:Int),(i:Int),()),((x.E0,x.I0,x.F3,du,x.A3,x.R3,()),z,()))∧i+k=es.length∧DutOK b (Kt b car).K1 du) ?_ es.length ⟨x.X0,0,rfl,ω,h.dut⟩ ω;rintro k y ⟨du,i,rfl,hk,ho⟩;show J (Ny es (es.length:Int) (i:Int) x.E0 x.I0 x.F3 du x.A3 x.R3 z.1 z.2.1 z.2.2.1 z.2.2.2.1 z.2.2.2.2.1 z.2.2.2.2.2.1) _;unfold Ny;refine E (λq=>?_) λ_=>A ⟨du,rfl,ho⟩;have hi:i<es.length:=by have:=m_ q;omega
 refine R (Ac ω ω) ?_;have g:List.getD es (aE (i:Int)) (Entry.mk 0 0 0 0 L)=es[i]:=by simp only[j_,k_,i_ hi,Option.getD_some]
 simp only[g,Hn hi (show es.length≤Bs by unfold Bs;omega)];have hc:=he _ (b1_ hi);refine S (Bm0 hb ho (F:=es[i].E0) (Fj hb hc).2) ?_;rintro y1 ⟨p,e1,hp,h1,h2⟩;refine E (λq=>?_) λ_=>A ⟨k-1,ω,du,i+1,rfl,ω,ho⟩;rw[e1];refine S (Brm hb ho (Fj hb hc).2 hc hd.1 hp h1 (h2 (by simpa using q))) λy2 hy=>A ⟨k-1,ω,y2.1.1,i+1,rfl,ω,hy.1⟩
theorem Acw(u d:Int):J (LS b.C0 b.F0 b.H0 b.M0 b.K0 b.L0 b.N0 b.B0 (car:Int) x.E0 x.I0 x.F3 x.X0 x.A3 x.R3 u d) λy=>Bak b car y.2.1:=by
 have hl:=h.dut.len hb;unfold LS;refine aA (IR hb hcode hcar h) (Sat.bifF rfl (R ?_ ?_))
 ·simp;omega
 refine aA (Ld hb hcode) (aA (FV (u,d) (Bz b)) (aA (Xw (Ct (u,d) (Bz b))) ?_));simp only[Asm];refine S (Ai6 hb hcode hcar h (λe he=>Ax8 hb hcode he) ?_ _) ?_
 ·have:=Cby (Ct (u,d) (Bz b))
  omega
 rintro⟨a,t,w⟩ ⟨du,e,ho⟩;change t=_ at e;subst e;refine Sat.bindC (λ_=>Sat.bindR (A ⟨⟨x.E0,x.I0,x.F3,du,x.A3,(du.length:Int)==0⟩,rfl,⟨h.fl,h.dir,h.door,h.still,λq=>?_,ho⟩⟩)) λ_=>Sat.bindR (A ⟨⟨x.E0,x.I0,x.F3,du,x.A3,L⟩,rfl,⟨h.fl,h.dir,h.door,h.still,λq=>(by cases q),ho⟩⟩);have q:(du.length:Int)=0:=by simpa using q
 exact(List.length_eq_zero_iff (l:=du)).1 ω
end
def Amt(f d r p:Int)(e u o:Nat)(cs:List Car)(x:Nat):J (OY f d r p e u o cs x) λy=>0≤y.1.1∧y.1.1≤4:=by unfold OY;refine E (λ_=>A τ) λ_=>E (λ_=>A τ) λ_=>E (λ_=>A τ) λ_=>E (λ_=>A τ) λ_=>A τ
def Ao5(full:J (arF .sub .f64 b.L0 4589168020290535424) λ_=>True)(over:J (arF .sub .f64 b.N0 4589168020290535424) λ_=>True)(s:Int)(x:Nat):J (QA b.C0 b.F0 b.H0 b.M0 b.K0 b.L0 b.N0 b.B0 s x) λy=>0≤y.2.1.1∧y.2.1.1≤4:=by
 unfold QA;refine aA (AR b) (E (λ_=>A ⟨e1_ 0,show(0:Int)≤4 from by decide⟩) λ_=>S (Amt ..) λy2 h2=>?_);refine S (Q:=λy=>y.1.2.2.2.2.1=y2.1.1∧y.2.1=b.tup) (E (λ_=>A ⟨rfl,rfl⟩) λ_=>A ⟨rfl,rfl⟩) λy3 h3=>?_;have k:0≤y3.1.2.2.2.2.1∧y3.1.2.2.2.2.1≤4:=by rw[h3.1];exact h2
 refine E (λ_=>E (λq=>?_) λ_=>E (λq=>?_) λ_=>A k) λ_=>A k
 ·have q:y3.2.2.1.1=3:=by simpa using q
  rw[h3.2];refine S full λ_ _=>E (λ_=>A ?_) λ_=>A k;show 0≤y3.2.2.1.1∧y3.2.2.1.1≤4;omega
 ·have q:y3.2.2.1.1=4:=by simpa using q
  rw[h3.2];refine S over λ_ _=>E (λ_=>A ?_) λ_=>A k;show 0≤y3.2.2.1.1∧y3.2.2.1.1≤4;omega
def XY{c:Bool}{x y r:α}(h:c=C)(h2:x=r):(bif c then x else y)=r:=by subst h;exact h2
def Aiw(hcode:b.code=0){car:Int}(hc:0≤car∧car<(b.B0.length:Int)){k v:Int}(h:(k=4∧0≤v∧v≤4)∨((k=5∨k=6)∧0≤v∧v≤1)):Ax b (Record.mk k 0 0 car v)=C:=by unfold Ax UW inR;simp only[hcode];rcases h with⟨rfl,h⟩ | ⟨rfl | rfl,h⟩<;>simp<;>omega
def phA(m:Img)(i:Nat):Int:=m.G0.getD i 0
def flA(m:Img)(i:Nat):Bool:=m.O0.getD i L
def lvA(m:Img)(i:Nat):Bool:=m.J0.getD i L
def Rw(m:Img)(i:Nat):Bool:=(phA m i==0||phA m i==4)&&(!flA m i&&!lvA m i)
def FJ(m:Img)(i:Nat):Bool:=phA m i==0||(phA m i==1||phA m i==4)
section
variable{b:O}{m:Img}(hm:ImgOK b m)
include hm
theorem Amb(hi:i<b.B0.length):Lx m.G0 m.O0 m.J0 m.A0 (i:Int)=I ((C,()),()):=by unfold Lx;simp only[hm.lp,hm.lf,hm.ll,b_ (ω:(0:Int)≤(i:Int)),f_ (Q_ (b.B0.length:Int)),d_,c_,b_ (ω:(i:Int)<(b.B0.length:Int)),a_]
theorem Akh(hi:i<b.B0.length):Lw m.G0 m.O0 m.J0 m.A0 (i:Int)=I ((Rw m i,()),()):=by have i1:inB (i:Int) m.G0.length=C:=Ac ω (by rw[hm.lp];omega);have i2:inB (i:Int) m.O0.length=C:=Ac ω (by rw[hm.lf];omega);have i3:inB (i:Int) m.J0.length=C:=Ac ω (by rw[hm.ll];omega);unfold Lw Rw phA flA lvA;refine H (a:=(((m.G0.getD i 0==0||m.G0.getD i 0==4)&&(!m.O0.getD i L&&!m.J0.getD i L),()),())) (H (Amb hm hi) ?_) rfl;simp only[i1,i2,i3,d_,j_];cases m.G0.getD i 0==0<;>cases m.G0.getD i 0==4<;>cases m.O0.getD i L<;>rfl
theorem VT(hi:i<b.B0.length):Hf m.G0 m.O0 m.J0 m.A0 (i:Int)=I ((FJ m i,()),()):=by have i1:inB (i:Int) m.G0.length=C:=Ac ω (by rw[hm.lp];omega);unfold Hf FJ phA;refine H (Amb hm hi) ?_;simp only[i1,d_,c_,q_,j_];cases m.G0.getD i 0==0<;>cases m.G0.getD i 0==1<;>rfl
theorem Bhv:∃fr:Bool,CV m.G0 m.O0 m.J0 m.A0=I ((fr,()),()):=by
 have hcc:=Aj hm.code;have hp:=hm.lp;have hl:=hm.ll;have h:J (CV m.G0 m.O0 m.J0 m.A0) λ_=>True:=by
  unfold CV Gq;refine S (Q:=λ_=>True) (aF (λk x=>∃i:Nat,x=(((),m.G0,(m.G0.length:Int),(i:Int),()),((m.G0,m.O0,m.J0,m.A0,()),()))∧i+k=m.G0.length) ?_ m.G0.length ⟨0,rfl,ω⟩ ω) λy _=>?_
  ·rintro k x ⟨i,rfl,hk⟩;show J (Kl m.G0 (m.G0.length:Int) (i:Int) m.G0 m.O0 m.J0 m.A0) _;unfold Kl;refine E (λq=>?_) λ_=>A trivial;have hi:i<m.G0.length:=by have:=m_ q;omega
   refine R (Ac ω ω) ?_;simp only[Hn hi (show m.G0.length≤Bs by unfold Bs;omega)];refine E (λ_=>A trivial) λ_=>E (λ_=>A trivial) λ_=>E (λ_=>A trivial) λ_=>?_;exact R (Ac ω ω) (E (λ_=>A trivial) λ_=>A ⟨k-1,ω,i+1,rfl,ω⟩)
  ·cases y with
   |inl _=>exact A trivial
   |inr _=>exact A trivial
 obtain⟨y,h,_⟩:=h;exact⟨y.1.1,h⟩
end
def NJ(m:Img)(i:Nat)(calm fr:Bool)(kind:Int):List Record×Int:=
 bif kind==1&&phA m i==0 then(bif fr then([⟨4,0,0,i,1⟩],0)else([],261))
 else bif(kind==2&&phA m i==1)then([⟨4,0,0,i,0⟩],0)
 else bif(kind==3&&phA m i==2)then([⟨4,0,0,i,0⟩],0)
 else bif(kind==2&&(phA m i==4&&lvA m i))then([⟨6,0,0,i,0⟩],0)
 else bif(kind==4&&phA m i==2)then([⟨4,0,0,i,3⟩],0)
 else bif(kind==5&&phA m i==3)then(bif calm then([⟨4,0,0,i,2⟩],0)else([],262))
 else bif(kind==6&&phA m i==3)then(bif !flA m i then([⟨4,0,0,i,4⟩],0)else([],262))
 else bif(kind==7&&(phA m i==4&&!lvA m i))then(bif fr then([⟨6,0,0,i,1⟩],0)else([],261))
 else bif(kind==8&&flA m i)then([⟨5,0,0,i,0⟩],0)else([],260)
section
variable{b:O}{m:Img}(hm:ImgOK b m){i:Nat}(hi:i<b.B0.length)
include hm hi
theorem Bis(ok:Bool)(e:Int)(l:List Record):Dy ok e l=I (((bif ok then(l,(0:Int))else([],e)).1,(bif ok then(l,(0:Int))else([],e)).2,()),()):=by unfold Dy;cases ok<;>rfl
theorem Brk(calm:Bool)(p:Int):Bt m.G0 m.O0 m.J0 m.A0 (i:Int) calm p=I ((phA m i==p,()),()):=by unfold Bt;rw[Ac ω (by rw[hm.lp];omega),d_];rfl
theorem Bbk(hf:CV m.G0 m.O0 m.J0 m.A0=I ((fr,()),()))(calm:Bool)(kind:Int):Iv m.G0 m.O0 m.J0 m.A0 (i:Int) calm kind=I (((NJ m i calm fr kind).1,(NJ m i calm fr kind).2,()),()):=by
 have ifl:inB (i:Int) m.O0.length=C:=Ac ω (by rw[hm.lf];omega);have it:=Brk hm hi calm;have wi:=Bis hm hi;unfold Iv NJ;rw[Ac ω (show(i:Int)<(m.J0.length:Int)by rw[hm.ll];omega),d_]
 let T:=((m.G0,m.O0,m.J0,m.A0,(i:Int),calm,()),(m.G0,m.O0,m.J0,m.A0,()),())
 have st:∀(k p:Int),(bif kind==k then(Bt m.G0 m.O0 m.J0 m.A0 (i:Int) calm p).bind λy1=>I ((kind,(),(),lvA m i,y1.1.1,()),T)else I ((kind,(),(),lvA m i,L,()),T))=I ((kind,(),(),lvA m i,(kind==k&&phA m i==p),()),T):=λk p=>by
  cases kind==k with
  |true=>exact H (it p) rfl
  |false=>rfl
 refine H (st 1 0) ?_;show(bif(kind==1&&phA m i==0)then _ else _)=_;cases kind==1&&phA m i==0 with
 |true=>refine H hf (H (a:=(([Record.mk 4 0 0 i 1],()),())) rfl (H (wi fr 261 [⟨4,0,0,i,1⟩]) ?_));cases fr<;>rfl
 |false=>
 refine H (st 2 1) ?_;show(bif(kind==2&&phA m i==1)then _ else _)=_;cases h2:kind==2&&phA m i==1 with
 |true=>rfl
 |false=>
 refine H (st 3 2) ?_;show(bif(kind==3&&phA m i==2)then _ else _)=_;cases kind==3&&phA m i==2 with
 |true=>rfl
 |false=>
 refine H (a:=((kind,(),(),lvA m i,(kind==2&&(phA m i==4&&lvA m i)),()),T)) ?_ ?_
 ·show(bif kind==2 then(Bt m.G0 m.O0 m.J0 m.A0 (i:Int) calm 4).bind _ else _)=_;cases kind==2 with
  |false=>rfl
  |true=>refine H (it 4) ?_;show(bif phA m i==4 then _ else _)=_;cases phA m i==4<;>rfl
 show(bif(kind==2&&(phA m i==4&&lvA m i))then _ else _)=_;cases kind==2&&(phA m i==4&&lvA m i)with
 |true=>rfl
 |false=>
 refine H (st 4 2) ?_;show(bif(kind==4&&phA m i==2)then _ else _)=_;cases kind==4&&phA m i==2 with
 |true=>rfl
 |false=>
 refine H (st 5 3) ?_;show(bif(kind==5&&phA m i==3)then _ else _)=_;cases kind==5&&phA m i==3 with
 |true=>rw[d_];refine H (a:=(([Record.mk 4 0 0 i 2],()),())) rfl ?_;refine H (wi calm 262 [⟨4,0,0,i,2⟩]) ?_;cases calm<;>rfl
 |false=>
 refine H (st 6 3) ?_;show(bif(kind==6&&phA m i==3)then _ else _)=_;cases kind==6&&phA m i==3 with
 |true=>show(bif inB (i:Int) m.O0.length then _ else _)=_;rw[ifl,d_];refine H (a:=(([Record.mk 4 0 0 i 4],()),())) rfl ?_;refine H (wi (!flA m i) 262 [⟨4,0,0,i,4⟩]) ?_;cases flA m i<;>rfl
 |false=>
 refine H (a:=((kind,(),(),(kind==7&&(phA m i==4&&!lvA m i)),()),T)) ?_ ?_
 ·show(bif kind==7 then(Bt m.G0 m.O0 m.J0 m.A0 (i:Int) calm 4).bind _ else _)=_;cases kind==7 with
  |false=>rfl
  |true=>refine H (it 4) ?_;show(bif phA m i==4 then _ else _)=_;cases phA m i==4<;>rfl
 show(bif(kind==7&&(phA m i==4&&!lvA m i))then _ else _)=_;cases kind==7&&(phA m i==4&&!lvA m i)with
 |true=>refine H hf (H (wi fr 261 [⟨6,0,0,i,1⟩]) ?_);cases fr<;>rfl
 |false=>
 refine H (a:=(((),(kind==8&&flA m i),()),(T.1,()))) ?_ ?_
 ·show(bif kind==8 then(bif inB (i:Int) m.O0.length then _ else _)else _)=_;cases kind==8 with
  |false=>rfl
  |true=>rw[ifl];rfl
 show(bif(kind==8&&flA m i)then _ else _)=_;cases kind==8&&flA m i<;>rfl
end
def Nj(m:Img)(car:Int):Bool:=m.A0.any λe=>e.R0==car
def HJ(m:Img)(i:Nat):Bool:=phA m i==4&&lvA m i
def On(m:Img)(calm:List Bool)(i:Nat):Bool:=calm.getD i L&&((phA m i==1||HJ m i)&&!Nj m i)
def Oh(m:Img)(calm:List Bool)(i:Nat):List Record:=bif On m calm i then [⟨4,0,0,i,2⟩]++(bif HJ m i then [⟨6,0,0,i,0⟩]else [])++(bif flA m i then [⟨5,0,0,i,0⟩]else [])else []
def DL(m:Img)(calm:List Bool):Nat→List Record
 |0=>[]
 |i+1=>DL m calm i++Oh m calm i
def Ax1(m:Img)(calm:List Bool)(i:Nat):(Oh m calm i).length≤3:=by unfold Oh;cases On m calm i<;>cases HJ m i<;>cases flA m i<;>simp
def Ub(m:Img)(calm:List Bool):∀i,(DL m calm i).length≤3*i
 |0=>y_ 0
 |i+1=>by
  have:=Ub m calm i
  have:=Ax1 m calm i
  show(DL m calm i++Oh m calm i).length≤_;rw[h_];omega
section
variable{b:O}{m:Img}(hm:ImgOK b m)(hb:b.small)(he:m.A0.length≤100000)
include hm he
omit hm in
theorem Aof(car:Int):EW m.G0 m.O0 m.J0 m.A0 car=I ((Nj m car,()),()):=by
 have h:J (EW m.G0 m.O0 m.J0 m.A0 car) λy=>y=((Nj m car,()),()):=by
  unfold EW Jj;refine S (Q:=λy=>match y with | .inl _=>Nj m car=L | .inr z=>z=((C,()),())∧Nj m car=C) (aF (λk x=>∃i:Nat,x=((car,m.A0,(m.A0.length:Int),(i:Int),()),())∧i+k=m.A0.length∧∀e∈m.A0.take i,(e.R0==car)=L) ?_ m.A0.length ⟨0,rfl,ω,λe h=>(by simp at h)⟩ ω) λy hy=>?_
  ·rintro k x ⟨i,rfl,hk,hn⟩;show J (Mv car m.A0 (m.A0.length:Int) (i:Int)) _;unfold Mv;refine E (λq=>?_) λq=>A ?_
   ·have hi:i<m.A0.length:=by have:=m_ q;omega
    refine R (Ac ω ω) (E (λq2=>A ⟨rfl,?_⟩) λq2=>A ⟨k-1,ω,i+1,?_,ω,λe h=>?_⟩)
    ·exact List.any_eq_true.2 ⟨_,BN _ hi,q2⟩
    ·rw[show B.wrap ((i:Int)+1)=((i+1:Nat):Int)by rw[Aa ω ω];omega]
    ·rw[List.take_succ,i_ hi]at h;rcases n_.1 h with h | h
     ·exact hn e h
     ·rw[j_,k_,i_ hi]at q2
      have:e=m.A0[i]:=by simpa using h
      rw[this];exact q2
   ·have:=D_ q
    rw[a7_ ω]at hn;show Nj m car=L;exact List.any_eq_false.2 λe h=>by rw[hn e h];decide
  ·cases y with
   |inl _=>rw[show Nj m car=L from hy];exact A rfl
   |inr z=>obtain⟨h1,h2⟩:=hy;subst h1;rw[h2];exact A rfl
 obtain⟨y,h,rfl⟩:=h;exact h
include hb in
theorem Agl{kind:Int}(hk:0≤kind∧kind≤8)(hi:i<b.B0.length)(hcalm:calm.length=b.B0.length)(hf:CV m.G0 m.O0 m.J0 m.A0=I ((fr,()),())):Lv b.C0 b.F0 b.H0 b.M0 b.K0 b.L0 b.N0 b.B0 m.G0 m.O0 m.J0 m.A0 kind (i:Int) calm=I (((bif kind==0 then([],(0:Int))else NJ m i (calm.getD i L) fr kind).1,(bif kind==0 then([],(0:Int))else NJ m i (calm.getD i L) fr kind).2,()),()):=by
 have hcc:=Aj hm.code;unfold Lv;refine H (CY hb m (c4_ (show m.G0.length≤8 by rw[hm.lp];omega) τ) (c4_ he τ)) ?_;show(bif !m.ok b then _ else _)=_;rw[Img.ok_iff.2 hm,hcalm,P_,f_ (ω:¬kind<0),f_ (ω:¬8<kind),f_ (ω:¬(i:Int)<0),f_ (ω:¬(b.B0.length:Int)≤(i:Int))];simp only[q_,c_];cases kind==0 with
 |true=>rfl
 |false=>rw[c_,Ac ω ω,d_];exact H (Bbk hm hi hf _ kind) rfl
include hb in
theorem Aji(hcalm:calm.length=b.B0.length):Mr b.C0 b.F0 b.H0 b.M0 b.K0 b.L0 b.N0 b.B0 m.G0 m.O0 m.J0 m.A0 calm=I ((DL m calm b.B0.length,()),()):=by
 have hcc:=Aj hm.code;have lp:=hm.lp;have lf:=hm.lf;have ll:=hm.ll;have hL:J (Kh ((calm,(),([]:List Record),m.G0,(m.G0.length:Int),(0:Int),()),(m.tup,()))) λy=>y=((DL m calm b.B0.length,()),()):=by
  unfold Kh;refine aF (λk x=>∃(i:Nat),x=((calm,(),DL m calm i,m.G0,(m.G0.length:Int),(i:Int),()),(m.tup,()))∧i+k=m.G0.length) ?_ m.G0.length ⟨0,rfl,ω⟩ ω;rintro k x ⟨i,rfl,hk⟩;have hl:=Ub m calm i;show J (Qd calm (DL m calm i) m.G0 (m.G0.length:Int) (i:Int) m.G0 m.O0 m.J0 m.A0) _;unfold Qd;refine E (λq=>?_) λq=>A (by have q:=D_ q;show((DL m calm i,()),())=((DL m calm b.B0.length,()),());rw[show b.B0.length=i by omega]);have hi:i<m.G0.length:=by have:=m_ q;omega
  have w:=Hn hi (show m.G0.length≤Bs by unfold Bs;omega);have i1:inB (i:Int) m.G0.length=C:=Ac ω ω;have i2:inB (i:Int) m.J0.length=C:=Ac ω ω;have i3:inB (i:Int) m.O0.length=C:=Ac ω ω;have i4:inB (i:Int) calm.length=C:=Ac ω ω;refine R i1 ?_;refine aA (b:=((calm,(),DL m calm i,(i:Int),phA m i,HJ m i,m.G0,(m.G0.length:Int),(i:Int),()),(m.tup,()))) ?_ ?_
  ·show(bif phA m i==4 then _ else _)=_;unfold HJ;cases phA m i==4 with
   |true=>rw[d_,i2];rfl
   |false=>rfl
  refine aA (b:=((calm,(),DL m calm i,(i:Int),HJ m i,m.G0,(m.G0.length:Int),(i:Int),!On m calm i,()),(m.tup,()))) ?_ ?_
  ·have hb2:=Aof (m:=m) he (i:Int);show(bif inB (i:Int) calm.length then _ else _)=_;rw[i4,d_];unfold On;show(bif !calm.getD i L then _ else bif phA m i !=1 then bif !HJ m i then _ else(EW m.G0 m.O0 m.J0 m.A0 (i:Int)).bind _ else(EW m.G0 m.O0 m.J0 m.A0 (i:Int)).bind _)=_;cases calm.getD i L with
   |false=>rfl
   |true=>
    rw[q_,c_,z_];unfold bne;cases phA m i==1 with
    |true=>rw[q_,c_];exact H hb2 (by show I ((calm,(),DL m calm i,(i:Int),HJ m i,m.G0,(m.G0.length:Int),(i:Int),Nj m (i:Int),()),_)=_;rw[Bool.true_or,z_,Bool.not_not])
    |false=>
     rw[d4_,d_];cases HJ m i with
     |false=>rfl
     |true=>exact H hb2 (by show I ((calm,(),DL m calm i,(i:Int),C,m.G0,(m.G0.length:Int),(i:Int),Nj m (i:Int),()),_)=_;rw[Bool.or_true,z_,Bool.not_not])
  refine E (λq2=>A ⟨k-1,ω,i+1,?_,ω⟩) λq2=>?_
  ·simp only[w];have q2:On m calm i=L:=by simpa using q2
   show _=((calm,(),DL m calm i++Oh m calm i,m.G0,(m.G0.length:Int),((i+1:Nat):Int),()),(m.tup,()));rw[show Oh m calm i=[]by unfold Oh;rw[q2];rfl,Z_]
  ·have q2:On m calm i=C:=by simpa using q2
   refine R (f8_ (by simp only[B_,d7_];omega)) ?_;refine aA (b:=((calm,(),DL m calm i++[⟨4,0,0,i,2⟩]++(bif HJ m i then [⟨6,0,0,i,0⟩]else []),(i:Int),m.G0,(m.G0.length:Int),(i:Int),()),(m.tup,()))) ?_ ?_
   ·show(bif HJ m i then _ else _)=_;cases HJ m i with
    |true=>rw[d_];refine XY (f8_ (by simp only[h_,B_,d7_];omega)) rfl
    |false=>rw[c_,c_,Z_]
   refine R i3 ?_;have e:DL m calm (i+1)=DL m calm i++[⟨4,0,0,i,2⟩]++(bif HJ m i then [⟨6,0,0,i,0⟩]else [])++(bif flA m i then [⟨5,0,0,i,0⟩]else []):=by show DL m calm i++Oh m calm i=_;unfold Oh;rw[q2,d_];simp only[M_]
   refine E (λq3=>?_) λq3=>A ⟨k-1,ω,i+1,?_,ω⟩
   ·have q3:flA m i=C:=q3;rw[q3,d_]at e;refine R (f8_ (by have:(bif HJ m i then [(⟨6,0,0,i,0⟩:Record)]else []).length≤1:=(by cases HJ m i<;>simp);simp only[h_,B_,d7_];omega)) (A ⟨k-1,ω,i+1,?_,ω⟩);simp only[w];rw[e]
   ·have q3:flA m i=L:=q3;rw[q3,c_,Z_]at e;simp only[w];rw[e]
 obtain⟨y,hy,rfl⟩:=hL;unfold Mr;refine H (CY hb m (c4_ (show m.G0.length≤8 by rw[hm.lp];omega) τ) (c4_ he τ)) ?_;show(bif !m.ok b then _ else _)=_;rw[Img.ok_iff.2 hm,hcalm,P_,q_,c_,c_];exact H hy rfl
end
def Vt(x:Int):0≤IntKind.u32.wrap (stk x 255 (BitVec.toNat (aD (IntKind.bits .u32) x&&&aD (IntKind.bits .u32) 255)))∧IntKind.u32.wrap (stk x 255 (BitVec.toNat (aD (IntKind.bits .u32) x&&&aD (IntKind.bits .u32) 255)))<256:=by
 rw[ZK];unfold vb;have h:(bv x&&&bv 255).toNat<256:=by rw[BitVec.toNat_and];exact Nat.lt_of_le_of_lt Nat.and_le_right (show(bv 255).toNat<256 by decide)
 omega
def Bqe(n:Int):0≤B.wrap (P U n)∧B.wrap (P U n)≤255:=by
 have:=Ach n
 rw[Aa ω ω];omega
def TB{x:Int}(h:0≤x∧x<4294967296):J (Da x) λy=>0≤y.1.1∧y.1.1≤255:=by
 unfold Da;refine R (Ac ?_ (aG ?_ (Int.ofNat_le.2 (G_ (n:=256) rfl)))) ?_
 ·rw[X_ _ τ];exact Int.ediv_nonneg h.1 τ
 ·rw[X_ _ τ];exact Int.ediv_lt_of_lt_mul τ h.2
 refine R (Ac (Vt _).1 (aG (Vt _).2 (Int.ofNat_le.2 (G_ (n:=256) rfl)))) ?_;refine R (Ac (Vt _).1 (aG (Vt _).2 (Int.ofNat_le.2 (G_ (n:=256) rfl)))) ?_;exact R (Ac (Vt _).1 (aG (Vt _).2 (Int.ofNat_le.2 (G_ (n:=256) rfl)))) (A (Bqe _))
def Yv(fl:Int){set:Int}(h:0≤set∧set<4294967296)(a c d e:Bool):J (IZ fl set a c d e) λy=>y.2.1.2.2.1=2→e=C:=by unfold IZ Nw;have i:SatT (Da set):=⟨(TB h).any⟩;refine S (Q:=λ_=>True) (S (Au1 set) λ_ _=>S (Q:=λ_=>True) ?_ λ_ _=>E (λ_=>A trivial) λ_=>A trivial) λ_ _=>S (Bp2 a c) λ_ _=>S (Q:=λy=>y.1.1=2→e=C) (by cases d<;>cases e<;>exact⟨_,rfl,τ⟩) λ_ h=>A h;refine S (isFloors_ti fl).out λ_ _=>E (λ_=>S (TB h) λ_ _=>E (λ_=>A trivial) λ_=>A trivial) λ_=>A trivial
def orL(x y:Int):Int:=aB.wrap (stk x y (BitVec.toNat ((aD (IntKind.bits aB) x)|||(aD (IntKind.bits aB) y))))
def leV(s:ByteArray):Nat→Int
 |0=>0
 |i+1=>orL (leV s i) (P aB (P aB (AC s i)*((2:Int)^(Min.min (aE (8*(i:Int))) (IntKind.bits aB)))))
def MI(b:O){s:ByteArray}{k:Nat}(hk:k≤8)(hs:k≤s.size):BF (k:Int) s b.C0 b.F0 b.H0 b.M0 b.K0 b.L0 b.N0 b.B0=I ((leV s k,()),((s.extract k s.size,b.C0,b.F0,b.H0,b.M0,b.K0,b.L0,b.N0,b.B0,()),())):=by
 have h:J (Db (((),(k:Int),(0:Int),(k:Int),(0:Int),()),((s,b.C0,b.F0,b.H0,b.M0,b.K0,b.L0,b.N0,b.B0,()),()))) λy=>y=(((),(k:Int),leV s k,()),((s,b.C0,b.F0,b.H0,b.M0,b.K0,b.L0,b.N0,b.B0,()),())):=by
  unfold Db;refine aF (λm x=>∃i:Nat,x=(((),(k:Int),leV s i,(k:Int),(i:Int),()),((s,b.C0,b.F0,b.H0,b.M0,b.K0,b.L0,b.N0,b.B0,()),()))∧i+m=k) ?_ k ⟨0,rfl,ω⟩ ω;rintro m x ⟨i,rfl,hm⟩;show J (GY (k:Int) (leV s i) (k:Int) (i:Int) s b.C0 b.F0 b.H0 b.M0 b.K0 b.L0 b.N0 b.B0) _;unfold GY;refine E (λq=>?_) λq=>A ?_
  ·have q:=m_ q;have hi:i<s.size:=ω;refine R (Ac ω ω) ?_;have w8:B.wrap (8*(i:Int))=8*(i:Int):=Aa ω ω;have w1:B.wrap ((i:Int)+1)=((i+1:Nat):Int):=by rw[Aa ω ω];omega
   simp only[w8,w1];exact R (b_ ω) (A ⟨m-1,ω,i+1,rfl,ω⟩)
  ·have q:=D_ q;obtain rfl:i=k:=ω;rfl
 obtain⟨y,h1,rfl⟩:=h;unfold BF;rw[h1];simp only[a_];rw[b_ (ω:(0:Int)≤(k:Int)),b_ (ω:(k:Int)≤(s.size:Int))];rfl
def Lk{α:Type}(d:α)(g:Nat→α→α)(i:Nat)(l:List α):List α:=l.set i (g i (l.getD i d))
def Ahm{α:Type}(d:α)(g:Nat→α→α):∀(m i:Nat) (l:List α),i+m=l.length→AM (Lk d g) m i l=l.take i++(List.range' i m).map (λj=>g j (l.getD j d))
 |0,i,l,h=>by rw[show i=l.length by omega,List.take_length];simp[AM]
 |m+1,i,l,h=>by
  have hi:i<l.length:=ω;unfold AM;rw[Ahm d g m (i+1) _ (by rw[Lk,x_];omega)];have e1:(Lk d g i l).take (i+1)=l.take i++[g i (l.getD i d)]:=by unfold Lk;rw[List.take_add_one,List.take_set_of_le ω,List.getElem?_set_self ω];rfl
  rw[e1,d8_,b8_,M_,d3_];congr 2;apply List.map_congr_left;intro j hj;rw[List.mem_range']at hj;obtain⟨k,hk,rfl⟩:=hj;unfold Lk;rw[k_,List.getElem?_set_ne ω,← k_]
def PG(d:α)(g:Nat→α→α)(f:Nat→α)(n:Nat):AM (Lk d g) n 0 ((aC n).map f)=(aC n).map (λj=>g j (f j)):=by rw[Ahm d g n 0 _ σ,List.take_zero,a5_,← List.range_eq_range'];apply List.map_congr_left;intro j hj;rw[List.mem_range]at hj;simp[k_,hj]
def Bf{l:List α}(d x:α)(h:i<l.length):(l.set i x).getD i d=x:=by rw[k_,List.getElem?_set_self h];rfl
def g15(fl t i:Nat)(c:Car):Car:=⟨c.K1,c.L3,c.Q3,c.J2,((1+t%3:Nat):Int),((1+t/3%3:Nat):Int),((1+t/9%3:Nat):Int),((1+t/9%3+t/27%5:Nat):Int),(((i+t)%fl:Nat):Int)⟩
def g18(t:Nat)(_:Nat)(c:Car):Car:={ c with K1:=((1+t%16:Nat):Int) }
def g27(n1 n2:Nat)(_:Nat)(c:Car):Car:={ c with Q3:=((1+n2%4:Nat):Int),J2:=((n1%5:Nat):Int) }
def ER(fl ca t:Nat):O:={ AI fl ca with M0:=((1+t%7:Nat):Int),B0:=(aC ca).map λi=>g15 fl t i (FW fl i) }
def Uf(fl ca t:Nat):O:={ ER fl ca t with B0:=(aC ca).map λi=>g18 t i (g15 fl t i (FW fl i)) }
def FD(fl ca n1 n2:Nat):O:={ ER fl ca n1 with F0:=((1+n2%3:Nat):Int),H0:=((18*ca+24+6*(n2/3):Nat):Int),B0:=(aC ca).map λi=>g27 n1 n2 i (g18 n1 i (g15 fl n1 i (FW fl i))) }
def Beb{n:Int}(h:0≤n)(h':n<256):U.wrap n=n:=by simp only[P,IntKind.signed,IntKind.bits];simp;omega
def MM(a b:Nat):N (a:Int) (b:Int)=((a%b:Nat):Int):=by rw[f6_ ω];norm_cast
def Bd6(a b:Nat):V (a:Int) (b:Int)=((a/b:Nat):Int):=by rw[Int.tdiv_eq_ediv_of_nonneg ω];norm_cast
def OL(k:Nat)(ht:t<100000):B.wrap ((1:Int)+B.wrap (N (t:Int) (k:Int)))=((1+t%k:Nat):Int):=by
 have:t%k≤t:=Nat.mod_le _ _
 rw[MM];generalize t%k=q at this⊢;rw[Aa (n:=(q:Int)) ω ω,Aa ω ω];norm_cast
def Yj(k:Nat)(ht:t<256):U.wrap (V (t:Int) (k:Int))=((t/k:Nat):Int):=by
 have:t/k≤t:=Nat.div_le_self _ _
 generalize hq:t/k=q at this;rw[Bd6,hq,Beb ω ω]
def Arv{fl ca:Nat}(h1:1≤fl)(hf:fl≤100)(h2:ca≤8)(ht:t<256):
  KW (((t:Int),(),(),(0:Int),()),(Bldg.none.tup,(AI fl ca).tup,()))=I (((t:Int),(),(),()),(Bldg.none.tup,({ AI fl ca with B0:=(ER fl ca t).B0 }:O).tup,())):=by
 have hl:(AI fl ca).B0.length=ca:=by simp[AI]
 have h:=Bc (step:=λx=>letI a:=x.2.2.1.2.2;letI b:=x.2.1.2.2;letI c:=b.2.2;letI d:=a.2.2;Gv x.1.1 x.1.2.2.2.1 x.2.1.1 x.2.1.2.1 b.1 b.2.1 c.1 c.2.1 c.2.2.1 c.2.2.2.1 x.2.2.1.1 x.2.2.1.2.1 a.1 a.2.1 d.1 d.2.1 d.2.2.1 d.2.2.2.1) ca
  (λi l=>(((t:Int),(),(),(i:Int),()),(Bldg.none.tup,({ AI fl ca with B0:=l }:O).tup,()))) (Lk ES (g15 fl t)) (λ_ l=>l.length=ca) (λl=>(((t:Int),(),(),()),(Bldg.none.tup,({ AI fl ca with B0:=l }:O).tup,())))
  (λi l hi hll=>by
   refine⟨?_,by rw[Lk,x_,hll]⟩;show Gv (t:Int) (i:Int) Bldg.none.C0 Bldg.none.F0 Bldg.none.H0 Bldg.none.M0 Bldg.none.K0 Bldg.none.L0 Bldg.none.N0 Bldg.none.B0 (AI fl ca).C0 (AI fl ca).F0 (AI fl ca).H0 (AI fl ca).M0 (AI fl ca).K0 (AI fl ca).L0 (AI fl ca).N0 l=_;unfold Gv;have hil:i<l.length:=ω;have hz:((AI fl ca).C0 !=0)=C:=by show((fl:Int) !=0)=C;simp;omega
   have w:B.wrap ((i:Int)+1)=((i+1:Nat):Int):=by rw[Aa ω ω];omega
   have e1:B.wrap ((1:Int)+B.wrap (N (t:Int) 3))=((1+t%3:Nat):Int):=OL 3 ω;have e2:B.wrap ((1:Int)+B.wrap (N (P U (V (t:Int) 3)) 3))=((1+t/3%3:Nat):Int):=by rw[show U.wrap (V (t:Int) 3)=((t/3:Nat):Int)from Yj 3 ht];exact OL 3 ω
   have e3:B.wrap ((1:Int)+B.wrap (N (P U (V (t:Int) 9)) 3))=((1+t/9%3:Nat):Int):=by rw[show U.wrap (V (t:Int) 9)=((t/9:Nat):Int)from Yj 9 ht];exact OL 3 ω
   have e4:B.wrap (((1+t/9%3:Nat):Int)+B.wrap (N (P U (V (t:Int) 27)) 5))=((1+t/9%3+t/27%5:Nat):Int):=by rw[show U.wrap (V (t:Int) 27)=((t/27:Nat):Int)from Yj 27 ht,show N ((t/27:Nat):Int) 5=((t/27%5:Nat):Int)from MM _ 5,Aa (n:=((t/27%5:Nat):Int)) ω ω,Aa ω ω];norm_cast
   have e5:N (P B ((i:Int)+B.wrap (t:Int))) (AI fl ca).C0=(((i+t)%fl:Nat):Int):=by show N _ (fl:Int)=_;rw[Aa (n:=(t:Int)) ω ω,Aa ω ω];exact MM (i+t) fl
   rw[show Car.mk 0 0 0 0 0 0 0 0 0=ES from rfl];simp only[b_ (ω:(i:Int)<(l.length:Int)),Ac (ω:(0:Int)≤(i:Int)) (ω:(i:Int)<(l.length:Int)),d_,j_,hz,w,Bf ES _ hil,List.set_set,e1,e2,e3,e4,e5];unfold Lk g15;rfl)
  (λl hll=>by show Gv (t:Int) (ca:Int) Bldg.none.C0 Bldg.none.F0 Bldg.none.H0 Bldg.none.M0 Bldg.none.K0 Bldg.none.L0 Bldg.none.N0 Bldg.none.B0 (AI fl ca).C0 (AI fl ca).F0 (AI fl ca).H0 (AI fl ca).M0 (AI fl ca).K0 (AI fl ca).L0 (AI fl ca).N0 l=_;unfold Gv;rw[hll,f_ (Q_ (ca:Int))];rfl)
  ca 0 (AI fl ca).B0 ω hl
 have h2:=As h.1 ω;rw[show(AI fl ca).B0=(aC ca).map (FW fl)from rfl,PG]at h2;exact h2
def Arw{fl ca:Nat}(_hf:fl≤100)(h2:ca≤8)(ht:t<256):
  KX (((t:Int),(),(),(0:Int),()),(Bldg.none.tup,(ER fl ca t).tup,()))=I (((),(),()),(Bldg.none.tup,(Uf fl ca t).tup,())):=by
 have hl:(ER fl ca t).B0.length=ca:=by simp[ER]
 have h:=Bc (step:=λx=>letI a:=x.2.2.1.2.2;letI b:=x.2.1.2.2;letI c:=b.2.2;letI d:=a.2.2;Gw x.1.1 x.1.2.2.2.1 x.2.1.1 x.2.1.2.1 b.1 b.2.1 c.1 c.2.1 c.2.2.1 c.2.2.2.1 x.2.2.1.1 x.2.2.1.2.1 a.1 a.2.1 d.1 d.2.1 d.2.2.1 d.2.2.2.1) ca
  (λi l=>(((t:Int),(),(),(i:Int),()),(Bldg.none.tup,({ ER fl ca t with B0:=l }:O).tup,()))) (Lk ES (g18 t)) (λ_ l=>l.length=ca) (λl=>(((),(),()),(Bldg.none.tup,({ ER fl ca t with B0:=l }:O).tup,())))
  (λi l hi hll=>by
   refine⟨?_,by rw[Lk,x_,hll]⟩;show Gw (t:Int) (i:Int) Bldg.none.C0 Bldg.none.F0 Bldg.none.H0 Bldg.none.M0 Bldg.none.K0 Bldg.none.L0 Bldg.none.N0 Bldg.none.B0 (ER fl ca t).C0 (ER fl ca t).F0 (ER fl ca t).H0 (ER fl ca t).M0 (ER fl ca t).K0 (ER fl ca t).L0 (ER fl ca t).N0 l=_;unfold Gw;have w:B.wrap ((i:Int)+1)=((i+1:Nat):Int):=by rw[Aa ω ω];omega
   have e1:B.wrap ((1:Int)+B.wrap (N (t:Int) 16))=((1+t%16:Nat):Int):=OL 16 ω;rw[show Car.mk 0 0 0 0 0 0 0 0 0=ES from rfl];simp only[b_ (ω:(i:Int)<(l.length:Int)),Ac (ω:(0:Int)≤(i:Int)) (ω:(i:Int)<(l.length:Int)),d_,j_,w,e1];unfold Lk g18;rfl)
  (λl hll=>by show Gw (t:Int) (ca:Int) Bldg.none.C0 Bldg.none.F0 Bldg.none.H0 Bldg.none.M0 Bldg.none.K0 Bldg.none.L0 Bldg.none.N0 Bldg.none.B0 (ER fl ca t).C0 (ER fl ca t).F0 (ER fl ca t).H0 (ER fl ca t).M0 (ER fl ca t).K0 (ER fl ca t).L0 (ER fl ca t).N0 l=_;unfold Gw;rw[hll,f_ (Q_ (ca:Int))];rfl)
  ca 0 (ER fl ca t).B0 ω hl
 have h2:=As h.1 ω;rw[show(ER fl ca t).B0=(aC ca).map (λi=>g15 fl t i (FW fl i))from rfl,PG]at h2;exact h2
def GP(fl ca n1 n2:Nat):O:={ FD fl ca n1 n2 with B0:=(Uf fl ca n1).B0 }
def Arx{fl ca n0 n1 n2:Nat}(h2:ca≤8)(_h3:n1<256)(h4:n2<256) :
  Il (((),(),(),(0:Int),()),(((n0:Int),(n1:Int),(n2:Int),()),Bldg.none.tup,(GP fl ca n1 n2).tup,()))=I (((),(),()),(Bldg.none.tup,(FD fl ca n1 n2).tup,())):=by
 have hl:(GP fl ca n1 n2).B0.length=ca:=by simp[GP,Uf]
 have h:=Bc (step:=λx=>letI a:=x.2.2;letI b:=a.2.1.2.2;letI c:=a.1.2.2;letI d:=c.2.2;letI e:=b.2.2;Gx x.1.2.2.2.1 x.2.1.1 x.2.1.2.1 x.2.1.2.2.1 a.1.1 a.1.2.1 c.1 c.2.1 d.1 d.2.1 d.2.2.1 d.2.2.2.1 a.2.1.1 a.2.1.2.1 b.1 b.2.1 e.1 e.2.1 e.2.2.1 e.2.2.2.1) ca
  (λi l=>(((),(),(),(i:Int),()),(((n0:Int),(n1:Int),(n2:Int),()),Bldg.none.tup,({ GP fl ca n1 n2 with B0:=l }:O).tup,()))) (Lk ES (g27 n1 n2)) (λ_ l=>l.length=ca) (λl=>(((),(),()),(Bldg.none.tup,({ GP fl ca n1 n2 with B0:=l }:O).tup,())))
  (λi l hi hll=>by
   refine⟨?_,by rw[Lk,x_,hll]⟩;show Gx (i:Int) (n0:Int) (n1:Int) (n2:Int) Bldg.none.C0 Bldg.none.F0 Bldg.none.H0 Bldg.none.M0 Bldg.none.K0 Bldg.none.L0 Bldg.none.N0 Bldg.none.B0 (GP fl ca n1 n2).C0 (GP fl ca n1 n2).F0 (GP fl ca n1 n2).H0 (GP fl ca n1 n2).M0 (GP fl ca n1 n2).K0 (GP fl ca n1 n2).L0 (GP fl ca n1 n2).N0 l=_;unfold Gx;have hil:i<l.length:=ω;have w:B.wrap ((i:Int)+1)=((i+1:Nat):Int):=by rw[Aa ω ω];omega
   have e1:B.wrap ((1:Int)+B.wrap (N (n2:Int) 4))=((1+n2%4:Nat):Int):=OL 4 ω;have e2:B.wrap (N (n1:Int) 5)=((n1%5:Nat):Int):=by rw[show N (n1:Int) 5=((n1%5:Nat):Int)from MM n1 5,Aa ω ω]
   rw[show Car.mk 0 0 0 0 0 0 0 0 0=ES from rfl];simp only[b_ (ω:(i:Int)<(l.length:Int)),Ac (ω:(0:Int)≤(i:Int)) (ω:(i:Int)<(l.length:Int)),d_,j_,w,e1,e2,Bf ES _ hil,List.set_set,x_];unfold Lk g27;rfl)
  (λl hll=>by show Gx (ca:Int) (n0:Int) (n1:Int) (n2:Int) Bldg.none.C0 Bldg.none.F0 Bldg.none.H0 Bldg.none.M0 Bldg.none.K0 Bldg.none.L0 Bldg.none.N0 Bldg.none.B0 (GP fl ca n1 n2).C0 (GP fl ca n1 n2).F0 (GP fl ca n1 n2).H0 (GP fl ca n1 n2).M0 (GP fl ca n1 n2).K0 (GP fl ca n1 n2).L0 (GP fl ca n1 n2).N0 l=_;unfold Gx;rw[hll,f_ (Q_ (ca:Int))];rfl)
  ca 0 (GP fl ca n1 n2).B0 ω hl
 have h2:=As h.1 ω;rw[show(GP fl ca n1 n2).B0=(aC ca).map (λi=>g18 n1 i (g15 fl n1 i (FW fl i)))from rfl,PG]at h2;exact h2
def HH(n0:Nat):Nat:=2+n0%5
def Hv(n0:Nat):Nat:=1+n0/5%3
def ZO{n0:Nat}(hn:n0<256)(ht:t<256):MS (n0:Int) (t:Int)=I (((),()),((ER (HH n0) (Hv n0) t).tup,())):=by
 have e1:B.wrap ((2:Int)+B.wrap (N (n0:Int) 5))=((HH n0:Nat):Int):=by rw[show N (n0:Int) 5=((n0%5:Nat):Int)from MM n0 5,Aa (n:=((n0%5:Nat):Int)) ω ω,Aa ω ω];unfold HH;norm_cast
 have e2:B.wrap ((1:Int)+B.wrap (N (P U (V (n0:Int) 5)) 3))=((Hv n0:Nat):Int):=by rw[show U.wrap (V (n0:Int) 5)=((n0/5:Nat):Int)from Yj 5 hn];exact OL 3 ω
 have hf:2≤HH n0∧HH n0≤6:=by unfold HH;omega
 have hc:1≤Hv n0∧Hv n0≤3:=by unfold Hv;omega
 have e3:B.wrap ((1:Int)+B.wrap (N (t:Int) 7))=((1+t%7:Nat):Int):=OL 7 ω;unfold MS;rw[e1,e2];refine H (Acn ω ω) ?_;refine H (Arv ω ω ω ht) ?_;show I (((),()),(((HH n0:Nat):Int),(1:Int),(4000:Int),B.wrap ((1:Int)+B.wrap (N (t:Int) 7)),_,_,_,_,()),())=_;rw[e3];rfl
def ZP{n0:Nat}(hn:n0<256)(ht:t<256):MT (n0:Int) (t:Int)=I (((),()),((Uf (HH n0) (Hv n0) t).tup,())):=by
 have hf:2≤HH n0∧HH n0≤6:=by unfold HH;omega
 have hc:1≤Hv n0∧Hv n0≤3:=by unfold Hv;omega
 unfold MT;refine H (ZO hn ht) ?_;exact H (Arw ω ω ht) rfl
def ZQ{n0 n1 n2:Nat}(h0:n0<256)(h1:n1<256)(h2:n2<256):EZ (n0:Int) (n1:Int) (n2:Int)=I (((),()),((FD (HH n0) (Hv n0) n1 n2).tup,())):=by
 have hf:2≤HH n0∧HH n0≤6:=by unfold HH;omega
 have hc:1≤Hv n0∧Hv n0≤3:=by unfold Hv;omega
 have e1:B.wrap ((1:Int)+B.wrap (N (n2:Int) 3))=((1+n2%3:Nat):Int):=OL 3 ω;have hl:(Uf (HH n0) (Hv n0) n1).B0.length=Hv n0:=by simp[Uf]
 have e2:B.wrap (P B (P B (18*(((Uf (HH n0) (Hv n0) n1).B0.length:Nat):Int))+24)+B.wrap (6*B.wrap (P U (V (n2:Int) 3))))=((18*Hv n0+24+6*(n2/3):Nat):Int):=by
  rw[hl,show U.wrap (V (n2:Int) 3)=((n2/3:Nat):Int)from Yj 3 h2,Aa (n:=18*((Hv n0:Nat):Int)) ω ω,Aa (n:=18*((Hv n0:Nat):Int)+24) ω ω,Aa (n:=((n2/3:Nat):Int)) ω ω,Aa (n:=6*((n2/3:Nat):Int)) ω ω,Aa ω ω]
  norm_cast
 unfold EZ;refine H (ZP h0 h1) ?_;refine H (a:=(((),(),()),(Bldg.none.tup,(FD (HH n0) (Hv n0) n1 n2).tup,()))) ?_ rfl;show Il (((),(),(),(0:Int),()),(((n0:Int),(n1:Int),(n2:Int),()),Bldg.none.tup,(((HH n0:Nat):Int),B.wrap ((1:Int)+B.wrap (N (n2:Int) 3)),B.wrap (P B (P B (18*(((Uf (HH n0) (Hv n0) n1).B0.length:Nat):Int))+24)+B.wrap (6*B.wrap (P U (V (n2:Int) 3)))),_,_,_,_,_,()),()))=_;rw[e1,e2];exact Arx ω h1 h2
def Aoe{fl ca n1 n2:Nat}(hf:2≤fl∧fl≤6)(hc:1≤ca∧ca≤3)(_h1:n1<256)(h2:n2<256):(FD fl ca n1 n2).small∧(FD fl ca n1 n2).code=0∧(FD fl ca n1 n2).B0.length=ca∧(FD fl ca n1 n2).C0=(fl:Int)∧18*(ca:Int)+24≤(FD fl ca n1 n2).H0∧(FD fl ca n1 n2).H0≤600:=by
 have hl:(FD fl ca n1 n2).B0.length=ca:=by simp[FD]
 have hr:(FD fl ca n1 n2).H0=((18*ca+24+6*(n2/3):Nat):Int):=rfl;refine⟨⟨by show(2:Int)≤(fl:Int);omega,by show(fl:Int)≤8;omega⟩,?_,hl,rfl,by rw[hr];omega,by rw[hr];omega⟩;unfold Bldg.code;have e1:inR 2 32 (FD fl ca n1 n2).C0=C:=Ao.2 (by show(2:Int)≤(fl:Int)∧(fl:Int)≤32;omega);have e2:inR 1 8 ((FD fl ca n1 n2).B0.length:Int)=C:=Ao.2 ω;have e3:inR 1 16 (FD fl ca n1 n2).F0=C:=Ao.2 (by show(1:Int)≤((1+n2%3:Nat):Int)∧((1+n2%3:Nat):Int)≤16;omega);have e4:inR 1 10000 (FD fl ca n1 n2).M0=C:=Ao.2 (by show(1:Int)≤((1+n1%7:Nat):Int)∧((1+n1%7:Nat):Int)≤10000;omega);have e5:(FD fl ca n1 n2).B0.all (Cl (FD fl ca n1 n2).C0)=C:=by rw[I_];intro c hc';obtain⟨i,_,rfl⟩:=b6_.1 hc';have hm:(i+n1)%fl<fl:=g1_ _ ω;show Cl (fl:Int) (g27 n1 n2 i (g18 n1 i (g15 fl n1 i (FW fl i))))=C;unfold Cl g27 g18 g15 FW;simp only[a3_,List.all_nil,e3_,e_,Ao,t_];rw[Aa (n:=(fl:Int)-1) ω ω];refine⟨⟨?_,?_,?_,?_,?_,?_,?_⟩,?_,?_,?_⟩<;>omega
 have e6:(FD fl ca n1 n2).loadsOK=C:=by
  show(AI 2 1).loadsOK=C
  kernel_rfl
 have e7:inR (18*((FD fl ca n1 n2).B0.length:Int)+24) 65536 (FD fl ca n1 n2).H0=C:=Ao.2 (by rw[hl,hr];omega);rw[e1,e2,e3,e4,e5,e6,e7];rfl
end Go.Ovl
