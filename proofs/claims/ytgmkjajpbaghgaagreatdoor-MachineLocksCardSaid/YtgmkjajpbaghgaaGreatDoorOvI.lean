/- The program's estimate (layer 21) answers. -/
import Derived.Test.YtgmkjajpbaghgaaGreatDoorOvH
import Derived.Test.YtgmkjajpbaghgaaGreatDoorOvA
import Derived.Test.YtgmkjajpbaghgaaGreatDoorOvB
import Derived.Test.YtgmkjajpbaghgaaGreatDoorOvC
set_option linter.all false
open Bool renaming false->A,true->H,false_or->aD
open Go.Ovl renaming noE->B,View->C,Bldg->I,Entry->L,Record->W
open Go.Ovl.Sat renaming ret->J,bic->O,bindS->V,bifT->aC
open Go renaming c_->P,a_->S
open Option renaming some->R
open Go.IntKind renaming i64->U,wrap->aF
open List renaming replicate->X
open Go.Ovl.View renaming mk->aA
open Go.Ovl.Entry renaming mk->aB
open Go.Ovl.Record renaming mk->aE
namespace Go.Ovl
open Go Go.Ab
set_option maxRecDepth 100000
noncomputable section
variable{vs:List C}{b:I}{E:List L}{xs:List Int}{i:Nat}{α:Type}{n:Int}{m:Img}{e:L}{l:List α}
def TA(n:Int):Sat (Ip n) λy=>y.1.1=H→2≤n∧n≤32:=by
 unfold Ip;exact V (Q:=λy=>y.1.1=H→2≤n∧n≤32) (O (λq=>J λg=>⟨m_ q,m_ g⟩) λ_=>J λg=>(by cases g)) λ_ h=>J h
def Ahp(hn:2≤n∧n≤32)(f d:Int):Sat (MV n f d) λy=>y.1.1=H→0≤f∧f<n:=by
 unfold MV;have w:U.wrap (n-1)=n-1:=Ac ω ω
 have p:Sat (bif(d==(2:Int))then bif(decide ((0:Int)<f))then R (((decide (f<n)),()),())else R ((A,()),())else R ((A,()),())) λ(y:(Bool×Unit)×Unit)=>y.1.1=H→0≤f∧f<n:=
  O (λ_=>O (λq=>J λg=>by have:=m_ q;have:=m_ g;omega) λ_=>J λg=>(by cases g)) λ_=>J λg=>(by cases g)
 exact V (Q:=λy=>y.1.1=H→0≤f∧f<n) (O (λ_=>O (λq=>O (λq2=>J λ_=>by have:=m_ q;have q2:=m_ q2;rw[w]at q2;omega) λ_=>p) λ_=>p) λ_=>p) λ_ h=>J h
def UL(h:0≤n)(a c d:Int):Sat (Jg n a c d) λy=>(0≤y.2.1.1∧y.2.1.1<4294967296)∧U2 y.2.1.2.1 y.2.1.2.2.1:=by
 unfold Jg;exact aC (b_ h) (Sat.bindE (rfl:DL ..=_) (J ⟨Hj _,Hj _,Hj _⟩))
def Aju(a c d:Int):Sat (Oa n a c d) λy=>0≤y.1.1∧y.1.1≤1000:=by
 unfold Oa;refine V (TA n) λy1 h1=>O (λ_=>J (show(0:Int)≤0∧(0:Int)≤1000 by decide)) λq=>?_
 have h1:=h1 (by simpa using q)
 refine V (UL ω a c d) λy2 h2=>V (ST h2.1) λy3 h3=>?_
 refine V (Q:=λy=>0≤y.1.1∧y.1.1≤510) ?_ λy4 h4=>J ?_
 ·unfold QW
  refine V (ST h2.2.1) λz1 k1=>V (ST h2.2.2) λz2 k2=>J ?_
  show 0≤U.wrap (z1.1.1+z2.1.1)∧U.wrap (z1.1.1+z2.1.1)≤510;rw[Ac ω ω];omega
 ·show 0≤U.wrap (y3.1.1+y4.1.1)∧U.wrap (y3.1.1+y4.1.1)≤1000
  rw[Ac ω ω];omega
def nf(x:Int):Prop:=-1≤x∧x≤300
def Ajv{l:List Int}(hl:l.length≤10){a c:Int}(ha:nf a)(hc:nf c)(hx:∀x∈l,nf x):Sat (Ca l a c) λy=>0≤y.1.1∧y.1.1≤4400:=by
 unfold Ca;refine aC (f2_ (by simp only[z_,d1_];omega)) ?_
 refine V (Q:=λy=>0≤y.1.1∧y.1.1≤4400) ?_ λ_ h=>J h
 unfold Gn;have hz:(l++[c]).length≤11:=by rw[h_,I_];omega
 have hall:∀x∈l++[c],nf x:=λx h=>by
  rcases p_.1 h with h | h
  ·exact hx x h
  ·rw[D_.1 h];exact hc
 refine Sat.loop (λk x=>∃(n p:Int) (i:Nat),x=((n,p,l++[c],((l++[c]).length:Int),(i:Int),()),((a,()),(c,()),()))∧i+k=(l++[c]).length∧nf p∧0≤n∧n≤400*(i:Int)) ?_ (l++[c]).length ⟨0,a,0,rfl,ω,ha,by decide,by decide⟩ ω
 rintro k x ⟨n,p,i,rfl,hk,hp,hn,hn2⟩;show Sat (IJ n p (l++[c]) ((l++[c]).length:Int) (i:Int) a c) _;unfold IJ;refine O (λq=>?_) λ_=>J (ω:0≤n∧n≤4400)
 have q:=m_ q;simp only[Dg (ω:i<1000000000)]
 have hv:=Akj hall (i:=i) (d:=(0:Int)) ω
 refine aC (Aa ω ω) (J ⟨k-1,ω,_,_,i+1,rfl,ω,hv,?_⟩)
 show 0≤U.wrap (n+_)∧U.wrap (n+_)≤_;rw[j_];generalize(l++[c]).getD i 0=z at hv⊢;unfold nf at hp hv;rw[Ac (n:=z-p) ω ω,Ac (n:=p-z) ω ω]
 by_cases g:z-p<p-z
 ·rw[b_ g,d_,Ac ω ω];omega
 ·rw[f_ g,P,Ac ω ω];omega
def Am2(n f w a c d g e:Int):Sat (Qa n f w a c d g e) λy=>-1≤y.1.1∧y.1.1≤4400:=by
 unfold Qa;have no:(-1:Int)≤-1∧(-1:Int)≤4400:=by decide
 refine V (TA n) λy1 h1=>O (λ_=>J no) λq1=>O (λ_=>J no) λq2=>O (λ_=>J no) λq4=>O (λ_=>J no) λ_=>O (λ_=>J no) λ_=>?_
 have h1:=h1 (by simpa using q1)
 have q2:=C_ q2;have q4:=C_ q4;refine V (Ahp h1 g e) λy2 h2=>O (λ_=>J no) λq3=>?_
 have h2:=h2 (by simpa using q3)
 refine V (UL ω a c d) λy3 _=>aC (b_ ω) (aC (b_ h2.1) ?_)
 refine V (As9 _) λy4 h4=>V (Ar7 _) λy5 h5=>?_
 have nf6:nf (aF U (y5.1.1-1)):=by rw[Ac ω ω];exact⟨ω,ω⟩
 have nf4:nf y4.1.1:=⟨ω,ω⟩
 have nff:nf f:=⟨ω,ω⟩
 have nfg:nf g:=⟨ω,ω⟩
 generalize U.wrap (y5.1.1-1)=z at nf6;have all:nf y4.1.1∧nf z∧nf f∧nf g:=⟨nf4,nf6,nff,nfg⟩;refine V (Q:=λy=>nf y.1.2.2.1∧nf y.1.2.2.2.1∧nf y.2.1.1∧nf y.2.2.1.1) ?_ λy6 h6=>V (Q:=λy=>nf y.1.2.2.1∧nf y.1.2.2.2.1∧nf y.2.1.1∧nf y.2.2.1.1) ?_ λy7 h7=>?_
 ·exact O (λ_=>O (λ_=>J all) λ_=>O (λ_=>J all) λ_=>J all) λ_=>O (λ_=>J all) λ_=>J all
 ·exact O (λ_=>J h6) λ_=>O (λ_=>J h6) λ_=>J h6
 have p:∀(l:List Int) {a c:Int},l.length≤10→nf a→nf c→(∀x∈l,nf x)→Sat (Option.bind (Ca l a c) λy10=>R ((y10.1.1,()),())) λy=>-1≤y.1.1∧y.1.1≤4400:=λl a c hl ha hc hx=>V (Ajv hl ha hc hx) λy h=>J ⟨Int.le_trans (by decide) h.1,h.2⟩
 have m1:∀{x:Int},nf x→∀y∈[x],nf y:=λh y hy=>by rw[D_.1 hy];exact h
 have m2:∀{x z:Int},nf x→nf z→∀y∈[x,z],nf y:=λh h2 y hy=>by
  rcases y_.1 hy with rfl | hy
  ·exact h
  ·exact m1 h2 y hy
 refine O (λ_=>p _ (a3_ _) h7.2.2.1 h7.2.2.2 λx hx=>by cases hx) λ_=>V (Q:=λy=>nf y.1.2.2.1∧nf y.1.2.2.2.1∧nf y.2.1.1∧nf y.2.2.1.1) ?_ λy9 h9=>?_
 ·exact O (λ_=>J h7) λ_=>J h7
 obtain⟨k1,k2,k3,k4⟩:=h9;exact O (λ_=>p _ (show(1:Nat)≤10 by decide) k3 k4 (m1 k2)) λ_=>O (λ_=>p _ (show(1:Nat)≤10 by decide) k3 k4 (m1 k1)) λ_=>O (λ_=>p _ (show(2:Nat)≤10 by decide) k3 k4 (m2 k2 k1)) λ_=>p _ (show(2:Nat)≤10 by decide) k3 k4 (m2 k1 k2)
def Ajs(h:b.code=0){c:Car}(hc:c∈b.B0):Cf b.C0 c=H:=by
 unfold Bldg.code at h;cases h1:inR 2 32 b.C0<;>rw[h1]at h
 ·cases h
 cases h2:inR 1 8 (b.B0.length:Int)<;>rw[h2]at h
 ·cases h
 cases h3:inR 1 16 b.E0<;>rw[h3]at h
 ·cases h
 cases h4:inR 1 10000 b.M0<;>rw[h4]at h
 ·cases h
 cases h5:b.B0.all (Cf b.C0)<;>rw[h5]at h
 ·cases h
 exact G_.1 h5 c hc
def Abb(h:b.code=0)(hi:i<b.B0.length):(0≤(b.B0.getD i EE).N3∧(b.B0.getD i EE).N3≤10000)∧(0≤(b.B0.getD i EE).M2∧(b.B0.getD i EE).M2≤10000)∧(0≤(b.B0.getD i EE).L2∧(b.B0.getD i EE).L2≤10000)∧0≤(b.B0.getD i EE).K2∧(b.B0.getD i EE).K2≤10000:=by
 have ht:Cf b.C0 (b.B0.getD i EE)=H:=Ajs h (CA _ hi);unfold Cf at ht;simp only[V_,List.all_nil,c7_,e_,Am]at ht;omega
def Tz(b:I)(car:Int)(v:C)(floor dir:Int):Sat (El b.C0 b.E0 b.H0 b.M0 b.J0 b.L0 b.N0 b.B0 car v.H3 v.Y2 v.A3 v.U3 v.D0 v.I0 v.B3 v.E3 v.Q2 v.N2 v.X1 v.L1 floor dir) λy=>0≤y.1.1∧y.1.1≤1000000:=by
 unfold El;have one:(0:Int)≤1000000∧(1000000:Int)≤1000000:=by decide
 refine Sat.bindE (Be b) (O (λ_=>J one) λhc=>O (λ_=>J one) λg1=>O (λ_=>J one) λg2=>?_)
 have g1:=C_ g1;have g2:=C_ g2;have hcode:b.code=0:=by simpa using hc
 have ib:inB car b.B0.length=H:=Aa ω ω
 refine V (Q:=λy=>y.1.1=car∧y.2.1=b.tup) (O (λ_=>J ⟨rfl,rfl⟩) λ_=>J ⟨rfl,rfl⟩) λy2 h2=>?_
 obtain⟨⟨yc,ya⟩,yb,yv⟩:=y2;obtain⟨e1,e2⟩:=h2;simp only at e1 e2;subst e1 e2;have ht:=Abb hcode (ω:yc.toNat<b.B0.length)
 refine V (Am2 ..) λy3 h3=>O (λ_=>J one) λq3=>aC ib ?_
 have q3:=C_ q3;refine V (Aju ..) λy4 h4=>J ?_
 have key:∀n:Int,0≤n→0≤(bif decide (1000000<n)then(1000000:Int)else n)∧(bif decide (1000000<n)then(1000000:Int)else n)≤1000000:=λn hn=>by
  by_cases g:1000000<n
  ·rw[b_ g];exact one
  ·rw[f_ g,P];omega
 refine key _ ?_;show 0≤U.wrap (aF U (y3.1.1*(b.B0.getD yc.toNat EE).N3)+U.wrap (y4.1.1*U.wrap (aF U (2*(b.B0.getD yc.toNat EE).M2)+(b.B0.getD yc.toNat EE).L2)));generalize b.B0.getD yc.toNat EE=c at ht;have k1:0≤y3.1.1*c.N3∧y3.1.1*c.N3≤4400*10000:=⟨Int.mul_nonneg ω ω,Int.mul_le_mul ω ω ω (by decide)⟩
 rw[Ac (n:=2*c.M2) ω ω,Ac (n:=2*c.M2+c.L2) ω ω]
 have k2:0≤y4.1.1*(2*c.M2+c.L2)∧y4.1.1*(2*c.M2+c.L2)≤1000*30000:=⟨Int.mul_nonneg ω ω,Int.mul_le_mul ω ω ω (by decide)⟩
 generalize y4.1.1*(2*c.M2+c.L2)=p at k2;generalize y3.1.1*c.N3=q at k1;rw[Ac (n:=q) ω ω,Ac (n:=p) ω ω,Ac ω ω]
 omega
def Afi(n:Int):Prop:=0≤n∧n<4294967296
def View.none:C:=aA A A A A 0 0 0 0 0 0 0 0
def Car.none:Car:=Car.mk 0 0 0 0 0 0 0 0 0
structure View.ok(v:View):Prop where
 c:Afi v.N2
 u:Afi v.X1
 d:Afi v.L1
def Akb(b:I)(car:Int)(v:C)(floor dir:Int):Option ((Int×Unit)×Unit):=
 El b.C0 b.E0 b.H0 b.M0 b.J0 b.L0 b.N0 b.B0 car v.H3 v.Y2 v.A3 v.U3 v.D0 v.I0 v.B3 v.E3 v.Q2 v.N2 v.X1 v.L1 floor dir
def Re(b:I)(car:Int)(v:C)(floor dir:Int):Int:=match Akb b car v floor dir with | some r=>r.1.1 | none=>0
def Aot(_hb:b.small){v:C}(_hv:v.ok)(car floor dir:Int):Akb b car v floor dir=R ((Re b car v floor dir,()),()):=by
 obtain⟨r,h,_⟩:=Tz b car v floor dir;have h':Akb b car v floor dir=R r:=h;rw[show Re b car v floor dir=r.1.1 by unfold Re;rw[h']];exact h'
def Bfx(b:I)(car:Int)(v:C)(floor dir:Int):0≤Re b car v floor dir∧Re b car v floor dir≤1000000:=by
 obtain⟨r,h,h2⟩:=Tz b car v floor dir;have h':Akb b car v floor dir=R r:=h;rw[show Re b car v floor dir=r.1.1 by unfold Re;rw[h']]
 exact h2
def TE(v:C):Bool:=v.B3==3||v.B3==4
def PE(v:C):GP v.H3 v.Y2 v.A3 v.U3 v.D0 v.I0 v.B3 v.E3 v.Q2 v.N2 v.X1 v.L1=R ((TE v,()),()):=by
 unfold GP TE;cases v.B3==3<;>rfl
def Zr(a b:Int×Int):Bool:=decide (a.1<b.1)||(a.1==b.1&&decide (a.2<b.2))
def Sr(a b:Int×Int):Im a.1 a.2 b.1 b.2=R ((Zr a b,()),()):=by
 unfold Im Zr;by_cases h:a.1=b.1
 ·by_cases h':a.2=b.2
  ·rw[h,h',l_,l_,f_ ω,f_ ω];rfl
  ·rw[h,l_,Aq h',f_ ω];rfl
 ·rw[Aq h]
  cases decide (a.1<b.1)<;>rfl
def Aw(vs:List C)(i:Int):C:=vs.getD i.toNat (aA A A A A 0 0 0 0 0 0 0 0)
def okViews(vs:List C):Prop:=∀v∈vs,v.ok
def View.ok_none:View.ok (aA A A A A 0 0 0 0 0 0 0 0):=⟨⟨by decide,by decide⟩,⟨by decide,by decide⟩,⟨by decide,by decide⟩⟩
def okViews.at(h:okViews vs)(i:Int):(Aw vs i).ok:=by
 unfold Aw;rw[k_];cases hq:vs[i.toNat]? with
 |none=>exact View.ok_none
 |some v=>exact h v (t_ hq)
def IG(b:I)(vs:List C)(floor dir:Int)(car:Int):Int×Int:=((bif TE (Aw vs car)then 1 else 0),Re b car (Aw vs car) floor dir)
def PF(hb:b.small)(hv:okViews vs){car:Int}(hc:0≤car∧car<vs.length)(floor dir:Int):
  Kt b.C0 b.E0 b.H0 b.M0 b.J0 b.L0 b.N0 b.B0 vs car floor dir=R (((),()),(((IG b vs floor dir car).1,(IG b vs floor dir car).2,()),())):=by
 unfold Kt;have e:El b.C0 b.E0 b.H0 b.M0 b.J0 b.L0 b.N0 b.B0 car (Aw vs car).H3 (Aw vs car).Y2 (Aw vs car).A3 (Aw vs car).U3 (Aw vs car).D0 (Aw vs car).I0 (Aw vs car).B3 (Aw vs car).E3 (Aw vs car).Q2 (Aw vs car).N2 (Aw vs car).X1 (Aw vs car).L1 floor dir=_:=Aot hb (hv.at car) car floor dir;rw[Aa hc.1 hc.2];show(El b.C0 b.E0 b.H0 b.M0 b.J0 b.L0 b.N0 b.B0 car (Aw vs car).H3 (Aw vs car).Y2 (Aw vs car).A3 (Aw vs car).U3 (Aw vs car).D0 (Aw vs car).I0 (Aw vs car).B3 (Aw vs car).E3 (Aw vs car).Q2 (Aw vs car).N2 (Aw vs car).X1 (Aw vs car).L1 floor dir).bind (λy1=>(GP (Aw vs car).H3 (Aw vs car).Y2 (Aw vs car).A3 (Aw vs car).U3 (Aw vs car).D0 (Aw vs car).I0 (Aw vs car).B3 (Aw vs car).E3 (Aw vs car).Q2 (Aw vs car).N2 (Aw vs car).X1 (Aw vs car).L1).bind (λy2=>bif y2.1.1 then R (((),()),(((1:Int),y1.1.1,()),()))else R (((),()),(((0:Int),y1.1.1,()),()))))=_
 rw[e,S,PE,S];unfold IG;cases TE (Aw vs car)<;>rfl
def NJ(b:I)(vs:List C)(floor dir except:Int)(i best:Int):Int:=
 bif !(Aw vs i).H3||i==except then best else bif best==-1||Zr (IG b vs floor dir i) (IG b vs floor dir best)then i else best
def Aig(b:I)(vs:List C)(floor dir except:Int):Nat→Nat→Int→Int
 |0,_,best=>best
 |m+1,i,best=>Aig b vs floor dir except m (i+1) (NJ b vs floor dir except i best)
def Ii(b:I)(vs:List C)(floor dir except:Int):Int:=
 bif b.code !=0||(vs.length:Int) !=(b.B0.length:Int)then -1 else Aig b vs floor dir except vs.length 0 (-1)
def QH(vs:List C)(best:Int):Prop:=best=-1∨(0≤best∧best<vs.length)
def YS{floor dir except:Int}(hi:i<vs.length){best:Int}(h:QH vs best):QH vs (NJ b vs floor dir except i best):=by
 unfold NJ;cases(!(Aw vs i).H3||(i:Int)==except)with
 |true=>exact h
 |false=>
  simp only[P];cases(best==-1||Zr (IG b vs floor dir i) (IG b vs floor dir best))with
  |true=>exact .inr (by simp only[d_];omega)
  |false=>exact h
def QG{b:I}(hb:b.small){vs:List C}(hv:okViews vs)(hl:vs.length≤100)(floor dir except:Int) :
  ∀(m i:Nat) (best l0 l1:Int),i+m=vs.length→QH vs best→(best≠ -1→(l0,l1)=IG b vs floor dir best)→
   BN (λx=>letI a:=x.2.1.2.2;letI c:=x.1.2.2.2.2.2;letI d:=a.2.2;Fy x.1.1 x.1.2.1 x.1.2.2.1 x.1.2.2.2.1 c.1 c.2.2.1 c.2.2.2.1 c.2.2.2.2.1 x.2.1.1 x.2.1.2.1 a.1 a.2.1 d.1 d.2.1 d.2.2.1 d.2.2.2.1 x.2.2.1.1 x.2.2.1.2.1) (m+1) ((vs,floor,dir,except,(),best,(),vs,(vs.length:Int),(i:Int),()),(b.tup,(l0,l1,()),()))=R ((Aig b vs floor dir except m i best,()),())
 |0,i,best,l0,l1,hi,hin,hr=>by
  refine Ay ?_;show Fy vs floor dir except best vs (vs.length:Int) (i:Int) b.C0 b.E0 b.H0 b.M0 b.J0 b.L0 b.N0 b.B0 l0 l1=_;unfold Fy;have e:decide ((i:Int)<(vs.length:Int))=A:=by simp;omega
  rw[e];rfl
 |m+1,i,best,l0,l1,hi,hin,hr=>by
  have hi':i<vs.length:=ω
  have e:decide ((i:Int)<(vs.length:Int))=H:=by simp;omega
  have ib:inB (i:Int) vs.length=H:=Aa ω ω
  have w:U.wrap ((i:Int)+1)=((i+1:Nat):Int):=by rw[Ac ω ω];omega
  have hs:∃l0' l1',(NJ b vs floor dir except i best≠ -1→(l0',l1')=IG b vs floor dir (NJ b vs floor dir except i best))∧Fy vs floor dir except best vs (vs.length:Int) (i:Int) b.C0 b.E0 b.H0 b.M0 b.J0 b.L0 b.N0 b.B0 l0 l1=R (.inl ((vs,floor,dir,except,(),NJ b vs floor dir except i best,(),vs,(vs.length:Int),((i+1:Nat):Int),()),(b.tup,(l0',l1',()),()))):=by
   unfold Fy;have k1:=PF hb hv (car:=(i:Int)) ω floor dir
   rw[e,ib,w];simp only[d_];unfold NJ;rw[show vs.getD (Int.toNat (i:Int)) (aA A A A A 0 0 0 0 0 0 0 0)=Aw vs (i:Int)from rfl]
   cases(Aw vs (i:Int)).H3 with
   |false=>exact⟨l0,l1,hr,rfl⟩
   |true=>
    simp only[n_,P,aD];cases(i:Int)==except with
    |true=>exact⟨l0,l1,hr,rfl⟩
    |false=>
     simp only[P,k1,S];rcases hin with hbest | hbest
     ·subst hbest
      rw[show((-1:Int)==-1)=H from rfl]
      simp only[d_,S,w,Bool.true_or];exact⟨_,_,λ_=>rfl,rfl⟩
     ·have hr':=hr ω
      have e1:l0=(IG b vs floor dir best).1:=f0_ Prod.fst hr';have e2:l1=(IG b vs floor dir best).2:=f0_ Prod.snd hr';subst e1 e2;rw[Aq (ω:¬best=-1)]
      simp only[P,S,aD,Sr];cases Zr (IG b vs floor dir i) (IG b vs floor dir best)with
      |true=>simp only[d_,w];exact⟨_,_,λ_=>rfl,rfl⟩
      |false=>simp only[P,w];exact⟨_,_,λ_=>rfl,rfl⟩
  obtain⟨l0',l1',h1,h2⟩:=hs;exact(Bs h2).trans (QG hb hv hl floor dir except m (i+1) _ l0' l1' ω (YS hi' hin) h1)
def NI(hb:b.small)(hv:okViews vs)(hl:vs.length≤100)(floor dir except:Int):
  GC b.C0 b.E0 b.H0 b.M0 b.J0 b.L0 b.N0 b.B0 vs floor dir except=R ((Ii b vs floor dir except,()),()):=by
 unfold GC Ii;rw[Be,S];cases b.code !=0 with
 |true=>rfl
 |false=>
  simp only[P,aD];cases(vs.length:Int) !=(b.B0.length:Int)with
  |true=>rfl
  |false=>
   have h:=Ai (QG hb hv hl floor dir except vs.length 0 (-1) 0 0 ω (.inl rfl) (λh=>absurd rfl h)) ω
   have h':IT ((vs,floor,dir,except,(),(-1:Int),(),vs,(vs.length:Int),(0:Int),()),(b.tup,((0:Int),(0:Int),()),()))=_:=h;simp only[P];refine(f0_ (λz=>Option.bind z _) h').trans ?_
   rfl
def Ajf{b:I}{vs:List C}{floor dir except:Int}:∀(m i:Nat) (best:Int),i+m=vs.length→QH vs best→QH vs (Aig b vs floor dir except m i best)
 |0,_,_,_,h=>h
 |m+1,i,best,hi,h=>Ajf m (i+1) _ ω (YS ω h)
def RE(b:I)(vs:List C)(floor dir except:Int):QH vs (Ii b vs floor dir except):=by
 unfold Ii;cases(b.code !=0||(vs.length:Int) !=(b.B0.length:Int))with
 |true=>exact .inl rfl
 |false=>exact Ajf vs.length 0 (-1) ω (.inl rfl)
def Ady(b:I)(vs:List C)(e:L)(x n:Int):Bool:=
 ((Aw vs e.Q0).A3&&(x==0&&Zr (IG b vs e.D0 e.I0 n) (IG b vs e.D0 e.I0 e.Q0)))||(!(Aw vs e.Q0).A3&&(TE (Aw vs e.Q0)&&!TE (Aw vs n)))
def MS(b:I)(vs:List C)(e:L)(x:Int):Int:=
 bif Ii b vs e.D0 e.I0 e.Q0==-1 then -1 else bif Ady b vs e x (Ii b vs e.D0 e.I0 e.Q0)then Ii b vs e.D0 e.I0 e.Q0 else -1
def EV(b:I)(vs:List C)(e:L)(x:Int):L:=
 bif e.Q0==-2 then e
 else bif e.Q0==-1 then⟨e.D0,e.I0,Ii b vs e.D0 e.I0 (-1),e.B1,e.Y1⟩
 else bif(Aw vs e.Q0).U3 then(bif decide ((b.B0.length:Int)<e.B1)then⟨e.D0,e.I0,-2,e.B1,e.Y1⟩else⟨e.D0,e.I0,Ii b vs e.D0 e.I0 e.Q0,e.B1+1,e.Y1⟩)
 else bif !e.Y1&&decide (e.B1≤(b.B0.length:Int))then(bif MS b vs e x != -1 then⟨e.D0,e.I0,MS b vs e x,e.B1+1,H⟩else e)
 else e
def Entry.tup(e:L):Int×Int×Int×Int×Bool×Unit:=(e.D0,e.I0,e.Q0,e.B1,e.Y1,())
section
variable{b:I}(hb:b.small){vs:List C}(hv:okViews vs)(hl:vs.length≤100){e:L}
include hb hv hl
theorem Aaf(hc:0≤e.Q0∧e.Q0<vs.length)(x:Int):Gm b.C0 b.E0 b.H0 b.M0 b.J0 b.L0 b.N0 b.B0 vs e.D0 e.I0 e.Q0 e.B1 e.Y1 x=R ((MS b vs e x,()),()):=by
 unfold Gm MS;have hn:=RE b vs e.D0 e.I0 e.Q0;rw[NI hb hv hl];generalize Ii b vs e.D0 e.I0 e.Q0=n at hn;simp only[S];rcases hn with rfl | hn
 ·rfl
 ·have k1:=PF hb hv hn e.D0 e.I0
  have k2:=PF hb hv hc e.D0 e.I0;have f1:=PE (Aw vs e.Q0);have f2:=PE (Aw vs n);rw[Aq (ω:¬n=-1),Aa hc.1 hc.2]
  unfold Ady;unfold Aw at f1 f2⊢;simp only[d_,P];cases hleg:(vs.getD e.Q0.toNat (aA A A A A 0 0 0 0 0 0 0 0)).A3 with
  |true=>
   simp only[d_,o_,n_,a2_,Bool.or_false];cases x==0 with
   |true=>
    simp only[d_,o_,k1,k2,S,Sr];cases Zr (IG b vs e.D0 e.I0 n) (IG b vs e.D0 e.I0 e.Q0)<;>rfl
   |false=>rfl
  |false=>
   rw[hleg]at f1;simp only[P,a2_,b6_,o_,aD,S,d_,f1];cases TE (vs.getD e.Q0.toNat (aA A A A A 0 0 0 0 0 0 0 0))with
   |false=>rfl
   |true=>
    simp only[d_,Aa hn.1 hn.2,o_,f2,S];cases TE (vs.getD n.toNat (aA A A A A 0 0 0 0 0 0 0 0))<;>rfl
theorem YL(hc:-2≤e.Q0∧e.Q0<vs.length)(hm:0≤e.B1∧e.B1≤255)(x:Int):FJ b.C0 b.E0 b.H0 b.M0 b.J0 b.L0 b.N0 b.B0 vs e.D0 e.I0 e.Q0 e.B1 e.Y1 x=R (((),()),((EV b vs e x).tup,())):=by
 unfold FJ EV;have w:U.wrap (e.B1+1)=e.B1+1:=Ac ω ω
 by_cases g1:e.Q0=-2
 ·rw[show(e.Q0==-2)=H by rw[g1];rfl];rfl
 rw[Aq g1];by_cases g2:e.Q0=-1
 ·rw[show(e.Q0==-1)=H by rw[g2];rfl]
  simp only[d_,P,NI hb hv hl,S];rfl
 rw[Aq g2];have hc':0≤e.Q0∧e.Q0<vs.length:=ω
 have ho:=Aaf hb hv hl hc' x;unfold Aw;simp only[P,Aa hc'.1 hc'.2,d_];cases hlost:(vs.getD e.Q0.toNat (aA A A A A 0 0 0 0 0 0 0 0)).U3 with
 |true=>
  simp only[d_,S];cases decide ((b.B0.length:Int)<e.B1)with
  |true=>rfl
  |false=>
   simp only[P,Aa hc'.1 hc'.2,d_,hlost,NI hb hv hl,S,w];rfl
 |false=>
  simp only[P,S,Aa hc'.1 hc'.2,d_,hlost];cases hmv:e.Y1 with
  |true=>
   simp only[n_,P,S,a2_];unfold Entry.tup;rw[hmv]
  |false=>
   rw[hmv]at ho;simp only[b6_,d_,S,o_];cases decide (e.B1≤(b.B0.length:Int))with
   |false=>
    simp only[P];unfold Entry.tup;rw[hmv]
   |true=>
    simp only[d_,ho,S,w];cases MS b vs e x != -1 with
    |true=>rfl
    |false=>
     simp only[P];unfold Entry.tup;rw[hmv]
end
def MA(was now:L):List W:=
 (bif was.B1 !=now.B1||!(was.Y1==now.Y1)then [⟨7,now.D0,now.I0,(bif now.Y1 then 1 else 0),now.B1⟩]else [])++(bif was.Q0 !=now.Q0 then [⟨3,now.D0,now.I0,now.Q0,0⟩]else [])
def Agy(a b:L):(MA a b).length≤2:=by
 unfold MA;cases(a.B1 !=b.B1||!(a.Y1==b.Y1))<;>cases a.Q0 !=b.Q0<;>simp
def YG(a c:L):JO a.D0 a.I0 a.Q0 a.B1 a.Y1 c.D0 c.I0 c.Q0 c.B1 c.Y1=R ((MA a c,()),()):=by
 unfold JO MA;have b1:∀r:W,Nat.ble (([]:List W).length+[r].length) 2147483648=H:=λ_=>Ax (by simp)
 have b2:∀r s:W,Nat.ble (([]++[s]:List W).length+[r].length) 2147483648=H:=λ_ _=>Ax (by simp)
 cases a.B1 !=c.B1<;>cases a.Y1==c.Y1<;>cases hm:c.Y1<;>cases hc:a.Q0 !=c.Q0<;>
  simp only[d_,P,S,n_,b6_,Bool.or_true,Bool.true_or,Bool.or_self,b1,b2,hc]<;>rfl
def Vl(b:I)(i:Int):Car:=b.B0.getD i.toNat (Car.mk 0 0 0 0 0 0 0 0 0)
def Yu(b:I)(vs:List C)(e n:L)(x:Int):Int:=
 bif n.Q0 !=e.Q0&&decide (0≤n.Q0)then(bif decide (1000000<U.wrap (Re b n.Q0 (Aw vs n.Q0) e.D0 e.I0+(Vl b n.Q0).K2))then 1000000 else U.wrap (Re b n.Q0 (Aw vs n.Q0) e.D0 e.I0+(Vl b n.Q0).K2))
 else(bif decide (aF U (x-1)<0)then 0 else U.wrap (x-1))
def Gq(b:I)(vs:List C):List L→List Int→List W
 |e::t,x::xs=>MA e (EV b vs e x)++Gq b vs t xs
 |_,_=>[]
def Lv(b:I)(vs:List C):List L→List Int→List Int
 |e::t,x::xs=>Yu b vs e (EV b vs e x) x::Lv b vs t xs
 |_,_=>[]
def Awk(b:I)(vs:List C)(e:L)(x:Int):(EV b vs e x).D0=e.D0∧(EV b vs e x).I0=e.I0:=by
 unfold EV;cases e.Q0==-2<;>cases e.Q0==-1<;>cases(Aw vs e.Q0).U3<;>cases decide ((b.B0.length:Int)<e.B1)<;>cases(!e.Y1&&decide (e.B1≤(b.B0.length:Int)))<;>cases MS b vs e x != -1<;>exact⟨rfl,rfl⟩
def Axq(b:I)(vs:List C)(e:L)(x:Int):QH vs (MS b vs e x):=by
 unfold MS;cases Ii b vs e.D0 e.I0 e.Q0==-1 with
 |true=>exact .inl rfl
 |false=>
  cases Ady b vs e x (Ii b vs e.D0 e.I0 e.Q0)with
  |true=>exact RE ..
  |false=>exact .inl rfl
def Aol(b:I)(h:-2≤e.Q0∧e.Q0<vs.length)(x:Int):-2≤(EV b vs e x).Q0∧(EV b vs e x).Q0<vs.length:=by
 have k:∀n:Int,QH vs n→-2≤n∧n<vs.length:=λn h=>by
  rcases h with rfl | h
  ·omega
  ·omega
 unfold EV;by_cases g1:e.Q0=-2
 ·rw[show(e.Q0==-2)=H by rw[g1];rfl];exact h
 rw[Aq g1];by_cases g2:e.Q0=-1
 ·rw[show(e.Q0==-1)=H by rw[g2];rfl];exact k _ (RE ..)
 rw[Aq g2];simp only[P];cases(Aw vs e.Q0).U3 with
 |true=>
  cases decide ((b.B0.length:Int)<e.B1)with
  |true=>exact⟨by show(-2:Int)≤-2;omega,by show(-2:Int)<_;omega⟩
  |false=>exact k _ (RE ..)
 |false=>
  cases(!e.Y1&&decide (e.B1≤(b.B0.length:Int)))with
  |true=>
   cases MS b vs e x != -1 with
   |true=>exact k _ (Axq ..)
   |false=>exact h
  |false=>exact h
def Af1{b:I}:∀{l:List L}{p:Option L},Es b p l=H→∀e∈l,GK b e=H
 |[],_,_,_,he=>by cases he
 |a::t,p,h,e,he=>by
  simp only[Es,e_]at h;rcases y_.1 he with rfl | he
  ·exact h.1
  ·exact Af1 h.2.2 e he
def Sc(N:List α)(a v:α)(t:List α):(N++a::t).set N.length v=N++v::t:=by
 induction N with
 |nil=>rfl
 |cons h N ih=>simp only[List.cons_append,z_,List.set_cons_succ,ih]
section
variable{b:I}(hb:b.small){vs:List C}(hv:okViews vs)(hl:vs.length≤100)(hlen:(vs.length:Int)=(b.B0.length:Int)){m:Img}(hm:∀e∈m.A0,GK b e=H)(hm':m.A0.length≤1000){xs:List Int}(hx:xs.length=m.A0.length)
include hb hv hl hlen hm hm' hx
theorem Ss:∀(k i:Nat) (out:List W) (N:List Int),i+k=m.A0.length→N.length=i→out.length≤2*i→
  BN (λx=>letI a:=x.2.2.1.2.2;letI c:=x.1.2.2.2.2;letI d:=x.2.1.2.2;letI f:=a.2.2;letI g:=d.2.2;GF x.1.1 x.1.2.1 c.1 c.2.1 c.2.2.1 c.2.2.2.1 c.2.2.2.2.1 x.2.1.1 x.2.1.2.1 d.1 d.2.1 g.1 g.2.1 g.2.2.1 g.2.2.2.1 x.2.2.1.1 x.2.2.1.2.1 a.1 a.2.1 f.1 f.2.1 f.2.2.1 f.2.2.2.1 f.2.2.2.2.1) (k+1)
   ((xs,vs,(),(),out,N++X k 0,m.A0,(m.A0.length:Int),(i:Int),()),(b.tup,(b.C0,b.E0,b.H0,b.M0,b.J0,b.L0,b.N0,b.B0,vs,()),()))=R ((out++Gq b vs (m.A0.drop i) (xs.drop i),N++Lv b vs (m.A0.drop i) (xs.drop i),()),())
 |0,i,out,N,hi,hN,ho=>by
  refine Ay ?_;show GF xs vs out (N++[]) m.A0 (m.A0.length:Int) (i:Int) b.C0 b.E0 b.H0 b.M0 b.J0 b.L0 b.N0 b.B0 b.C0 b.E0 b.H0 b.M0 b.J0 b.L0 b.N0 b.B0 vs=_;unfold GF;have e:decide ((i:Int)<(m.A0.length:Int))=A:=by simp;omega
  rw[e,show i=m.A0.length by omega,a8_]
  simp[Gq,Lv]
 |k+1,i,out,N,hi,hN,ho=>by
  have hi':i<m.A0.length:=ω
  have hix:i<xs.length:=ω
  have e:decide ((i:Int)<(m.A0.length:Int))=H:=by simp;omega
  have ib:inB (i:Int) m.A0.length=H:=Aa ω ω
  have ibx:inB (i:Int) xs.length=H:=Aa ω ω
  have ibn:inB (i:Int) (N++X (k+1) (0:Int)).length=H:=Aa ω (by simp;omega)
  have w:U.wrap ((i:Int)+1)=((i+1:Nat):Int):=by rw[Ac ω ω];omega
  have hok:=CA B hi';have hent:=hm _ hok;simp only[GK,e_,A_]at hent;obtain⟨_,c1,c2,c3,c4⟩:=hent;have hd:=YL hb hv hl (e:=m.A0.getD i B) ω ⟨c3,c4⟩ (xs.getD i 0)
  have hr:=YG (m.A0.getD i B) (EV b vs (m.A0.getD i B) (xs.getD i 0));have hin:=Aol b (vs:=vs) (e:=m.A0.getD i B) ω (xs.getD i 0)
  have hrl:=Agy (m.A0.getD i B) (EV b vs (m.A0.getD i B) (xs.getD i 0));have hble:Nat.ble (out.length+(MA (m.A0.getD i B) (EV b vs (m.A0.getD i B) (xs.getD i 0))).length) 2147483648=H:=Ax ω
  have hset:∀v:Int,(N++X (k+1) (0:Int)).set i v=N++v::X k 0:=λv=>by
   rw[← hN];exact Sc N 0 v (X k 0)
  have hset2:∀v u:Int,(N++v::X k (0:Int)).set i u=N++u::X k 0:=λv u=>by
   rw[← hN];exact Sc N v u (X k 0)
  have ibn2:∀v:Int,inB (i:Int) (N++v::X k (0:Int)).length=H:=λv=>Aa ω (by simp;omega)
  rw[Cb B hi',Cb (0:Int) hix];refine(Bs (x':=((xs,vs,(),(),out++MA (m.A0.getD i B) (EV b vs (m.A0.getD i B) (xs.getD i 0)),(N++[Yu b vs (m.A0.getD i B) (EV b vs (m.A0.getD i B) (xs.getD i 0)) (xs.getD i 0)])++X k 0,m.A0,(m.A0.length:Int),((i+1:Nat):Int),()),(b.tup,(b.C0,b.E0,b.H0,b.M0,b.J0,b.L0,b.N0,b.B0,vs,()),()))) ?_).trans ?_
  ·show GF xs vs out (N++X (k+1) 0) m.A0 (m.A0.length:Int) (i:Int) b.C0 b.E0 b.H0 b.M0 b.J0 b.L0 b.N0 b.B0 b.C0 b.E0 b.H0 b.M0 b.J0 b.L0 b.N0 b.B0 vs=_
   unfold GF;rw[e,ib,ibx,show aB 0 0 0 0 A=B from rfl]
   unfold Entry.tup at hd;simp only[d_,j_,hd,S,hr,hble,ibn,hset];unfold Yu;have hest:=Aot hb (hv.at (EV b vs (m.A0.getD i B) (xs.getD i 0)).Q0) (EV b vs (m.A0.getD i B) (xs.getD i 0)).Q0 (m.A0.getD i B).D0 (m.A0.getD i B).I0;unfold Akb Aw at hest;cases hne:((EV b vs (m.A0.getD i B) (xs.getD i 0)).Q0 !=(m.A0.getD i B).Q0)with
   |false=>
    simp only[P,S,a2_,O_,d9_,w];rfl
   |true=>
    simp only[d_,S,o_];by_cases hge:0≤(EV b vs (m.A0.getD i B) (xs.getD i 0)).Q0
    ·have ibc:inB (EV b vs (m.A0.getD i B) (xs.getD i 0)).Q0 vs.length=H:=Aa hge hin.2
     have ibc':inB (EV b vs (m.A0.getD i B) (xs.getD i 0)).Q0 b.B0.length=H:=Aa hge ω
     rw[b_ hge];simp only[d_,ibc,hest,S,ibc',ibn2,j_,hset2,O_,d9_,w];rfl
    ·rw[f_ hge]
     simp only[P,O_,d9_,w];rfl
  ·rw[Ss k (i+1) _ (N++[_]) ω (by simp;omega) (by rw[h_];omega)]
   simp only[Gq,Lv,O_,d9_]
end
def Pc(xs:List Int):Bool:=xs.all (inR 0 1000000)
def Axx(n:Int):KZ n=R ((!inR 0 1000000 n,()),()):=by
 unfold KZ inR;by_cases g:n<0
 ·rw[b_ g,f_ (ω:¬0≤n)];rfl
 ·rw[f_ g,b_ (ω:0≤n)]
  by_cases g':1000000<n
  ·rw[b_ g',f_ (ω:¬n≤1000000)];rfl
  ·rw[f_ g',b_ (ω:n≤1000000)];rfl
def Am1(hl:xs.length≤maxLen):BB xs=R ((!Pc xs,()),()):=by
 have hm:maxLen≤9223372036854775807:=by decide
 have key:∀(k i:Nat),i+k=xs.length→∃y,BN (λx=>AN x.1.1 x.1.2.2.1 x.1.2.2.2.1) (k+1) ((xs,(),(xs.length:Int),(i:Int),()),())=R y∧(match y with | .inl _=>(xs.drop i).all (inR 0 1000000)=H | .inr z=>0≤z.1.1∧(xs.drop i).all (inR 0 1000000)=A):=by
  intro k
  induction k with
  |zero=>
   intro i hi;refine⟨.inl ((),()),Ay ?_,?_⟩
   ·show AN xs (xs.length:Int) (i:Int)=_
    unfold AN;rw[show decide ((i:Int)<(xs.length:Int))=A by simp;omega];rfl
   ·rw[show i=xs.length by omega,a8_];rfl
  |succ k ih=>
   intro i hi;have hi':i<xs.length:=ω
   have hs:AN xs (xs.length:Int) (i:Int)=R (bif inR 0 1000000 (xs.getD i 0)then .inl ((xs,(),(xs.length:Int),((i+1:Nat):Int),()),())else .inr (.inr (((i:Int),()),()))):=by
    unfold AN;have w:U.wrap ((i:Int)+1)=((i+1:Nat):Int):=by rw[Ac ω ω];omega
    rw[show decide ((i:Int)<(xs.length:Int))=H by simp;omega,Aa ω ω,Axx,w]
    simp only[d_,j_,S];cases inR 0 1000000 (xs.getD i 0)<;>rfl
   rw[Cb (0:Int) hi',V_];cases hq:inR 0 1000000 (xs.getD i 0)with
   |true=>
    rw[hq]at hs;obtain⟨y,h1,h2⟩:=ih (i+1) ω
    exact⟨y,(Bs hs).trans h1,by rw[o_];exact h2⟩
   |false=>
    rw[hq]at hs;exact⟨_,Ay hs,by show(0:Int)≤(i:Int)∧_;exact⟨ω,rfl⟩⟩
 obtain⟨y,h1,h2⟩:=key xs.length 0 ω
 have h1':BH ((xs,(),(xs.length:Int),(0:Int),()),())=R y:=Ai h1 ω
 rw[R_]at h2;unfold BB CD Pc;rw[h1'];cases y with
 |inl z=>simp only at h2;rw[h2];rfl
 |inr z=>
  simp only at h2;rw[h2.2];simp only[S];rw[b_ h2.1];rfl
def Nw(b:I)(m:Img)(xs:List Int)(vs:List C):List W×List Int×Int×Unit:=
 bif m.ok b&&((xs.length:Int)==(m.A0.length:Int)&&((vs.length:Int)==(b.B0.length:Int)&&Pc xs))then(Gq b vs m.A0 xs,Lv b vs m.A0 xs,0,())else([],[],1,())
def Img.ok_all(h:m.ok b=H):b.code=0∧m.F0.length=b.B0.length∧m.O0.length=b.B0.length∧m.K0.length=b.B0.length∧(∀p∈m.F0,0≤p∧p≤4)∧(∀e∈m.A0,GK b e=H)∧Es b Option.none m.A0=H:=by
 unfold Img.ok at h;simp only[e_,Y_]at h;obtain⟨h0,h1,h2,h3,h4,h5⟩:=h;exact⟨h0,ω,ω,ω,λp hp=>Am.1 (G_.1 h4 p hp),Af1 h5,h5⟩
section
variable{b:I}(hb:b.small){vs:List C}(hv:okViews vs)(hl:vs.length≤100)(m:Img)(hm:m.A0.length≤1000)(hp:m.F0.length≤maxLen)(xs:List Int)(hx:xs.length≤maxLen)
include hb hv hl hm hp hx
theorem Adu:HS b.C0 b.E0 b.H0 b.M0 b.J0 b.L0 b.N0 b.B0 m.F0 m.O0 m.K0 m.A0 xs vs=R (Nw b m xs vs,()):=by
 have hmx:1000≤maxLen:=by decide
 unfold HS Nw;rw[CL hb m hp ω,Am1 hx]
 simp only[S,bne];cases hok:m.ok b with
 |false=>rfl
 |true=>
  cases hq:(xs.length:Int)==(m.A0.length:Int)with
  |false=>rfl
  |true=>
   cases hr:(vs.length:Int)==(b.B0.length:Int)with
   |false=>rfl
   |true=>
    cases Pc xs with
    |false=>rfl
    |true=>
     have hq':(xs.length:Int)=(m.A0.length:Int):=by simpa using hq
     have hr':(vs.length:Int)=(b.B0.length:Int):=by simpa using hr
     obtain⟨_,_,_,_,_,hall,_⟩:=Img.ok_all hok;have hlp:=Ai (Ss hb hv hl hr' hall hm (xs:=xs) ω m.A0.length 0 [] [] ω rfl (by simp)) ω
     have hlp':Lj ((xs,vs,(),(),([]:List W),X m.A0.length (0:Int),m.A0,(m.A0.length:Int),(0:Int),()),(b.tup,(b.C0,b.E0,b.H0,b.M0,b.J0,b.L0,b.N0,b.B0,vs,()),()))=_:=hlp;unfold Bldg.tup at hlp';simp only[n_,P,hq',b_ (ω:(0:Int)≤(m.A0.length:Int)),b_ (d5_ (m.A0.length:Int)),b_ (ω:(m.A0.length:Int)≤2147483648),a6_,d_,j_,hlp',S,R_,Z_]
end
def XG(b:I)(vs:List C):∀(l:List L) (xs:List Int),(Gq b vs l xs).length≤2*l.length
 |[],_=>by simp[Gq]
 |_::_,[]=>by simp[Gq]
 |e::t,x::xs=>by
  have h1:=XG b vs t xs;have h2:=Agy e (EV b vs e x);simp only[Gq,h_,z_];omega
def XF(b:I)(vs:List C):∀(l:List L) (xs:List Int),xs.length=l.length→(Lv b vs l xs).length=l.length
 |[],_,_=>by simp[Lv]
 |_::_,[],h=>by simp at h
 |e::t,x::xs,h=>by
  simp only[Lv,z_,XF b vs t xs (by simpa using h)]
def Axw(b:I)(m:Img)(xs:List Int)(vs:List C):(Nw b m xs vs).1.length≤2*m.A0.length∧(Nw b m xs vs).2.1.length≤m.A0.length:=by
 unfold Nw;cases hq:(m.ok b&&((xs.length:Int)==(m.A0.length:Int)&&((vs.length:Int)==(b.B0.length:Int)&&Pc xs)))with
 |false=>exact⟨by simp,by simp⟩
 |true=>
  simp only[e_,Y_]at hq;refine⟨XG b vs m.A0 xs,?_⟩;show(Lv b vs m.A0 xs).length≤_;rw[XF b vs m.A0 xs ω]
  exact w_ _
def noV:C:=aA A A A A 0 0 0 0 0 0 0 0
def noP:Calls:=Calls.mk 0 0
structure Lan where
 lit:List Calls
 gong:List Bool
 cl:Int×Int
def Lan.tup(l:Lan):List Calls×List Bool×Int×Int×Unit:=(l.lit,l.gong,l.cl.1,l.cl.2,())
def Lan.none:Lan:=⟨[],[],(0,0)⟩
def NN(b:I)(vs:List C)(i:Nat)(s:Lan):Int×Int:=Cc (DA b (vs.getD i noV)) s.cl
def MH(b:I)(vs:List C)(ps:List Calls)(i:Nat)(s:Lan):Lan:=⟨s.lit++[Calls.mk (NN b vs i s).1 (NN b vs i s).2],s.gong++[!isZ (Cc (NN b vs i s) ((ps.getD i noP).Up,(ps.getD i noP).Q3))],CP s.cl (NN b vs i s)⟩
def GY(b:I)(vs:List C)(ps:List Calls):Lan:=Bw (MH b vs ps) vs.length 0 Lan.none
def Acf(b:I)(vs:List C)(ps:List Calls):Lan×Int:=bif(vs.length:Int)==(b.B0.length:Int)&&((ps.length:Int)==(b.B0.length:Int))then(GY b vs ps,0)else(Lan.none,1)
section
variable{b:I}(hb:b.small)(hcode:b.code=0)
include hb hcode
theorem Xp(vs:List C)(ps:List Calls)(hl:vs.length≤1000)(hp:ps.length=vs.length):IU ((ps,(),(),(),vs,(vs.length:Int),(0:Int),()),(b.tup,Lan.none.tup,Lan.none.tup,()))=R (((),(),()),(Lan.none.tup,(GY b vs ps).tup,()))∧(GY b vs ps).lit.length=vs.length∧(GY b vs ps).gong.length=vs.length:=by
 have key:=λ(step:_→_) (h1:∀(i:Nat) (s:Lan),i<vs.length→(s.lit.length=i∧s.gong.length=i)→step ((ps,(),(),(),vs,(vs.length:Int),(i:Int),()),(b.tup,Lan.none.tup,s.tup,()))=R (.inl ((ps,(),(),(),vs,(vs.length:Int),((i+1:Nat):Int),()),(b.tup,Lan.none.tup,(MH b vs ps i s).tup,())))) h2=>AQ (step:=step) vs.length (λi (s:Lan)=>((ps,(),(),(),vs,(vs.length:Int),(i:Int),()),(b.tup,Lan.none.tup,s.tup,()))) (MH b vs ps) (λi s=>s.lit.length=i∧s.gong.length=i) (λs=>(((),(),()),(Lan.none.tup,s.tup,()))) (λi s hi hs=>⟨h1 i s hi hs,by
   constructor
   ·show(s.lit++[_]).length=_;rw[h_,I_,hs.1]
   ·show(s.gong++[_]).length=_;rw[h_,I_,hs.2]⟩) h2 vs.length 0 Lan.none ω ⟨rfl,rfl⟩
 have h:=key (λx=>letI a:=x.2.1.2.2;letI c:=x.2.2;letI d:=x.1.2.2.2.2;letI e:=a.2.2;letI f:=c.2.1;Fz x.1.1 d.1 d.2.1 d.2.2.1 x.2.1.1 x.2.1.2.1 a.1 a.2.1 e.1 e.2.1 e.2.2.1 e.2.2.2.1 c.1.1 c.1.2.1 c.1.2.2.1 c.1.2.2.2.1 f.1 f.2.1 f.2.2.1 f.2.2.2.1) (λi s hi hs=>by
  show Fz ps vs (vs.length:Int) (i:Int) b.C0 b.E0 b.H0 b.M0 b.J0 b.L0 b.N0 b.B0 [] [] 0 0 s.lit s.gong s.cl.1 s.cl.2=_;unfold Fz;rw[show aA A A A A 0 0 0 0 0 0 0 0=noV from rfl,show Calls.mk 0 0=noP from rfl]
  simp only[b_ (ω:(i:Int)<(vs.length:Int)),Aa (ω:(0:Int)≤(i:Int)) (ω:(i:Int)<(vs.length:Int)),Aa (ω:(0:Int)≤(i:Int)) (ω:(i:Int)<(ps.length:Int)),d_,j_,Rm hb hcode,S,Dz hi (show vs.length≤AI by unfold AI;omega)]
  have e1:=PI (DA b (vs.getD i noV)) s.cl;have e2:=PI (NN b vs i s) ((ps.getD i noP).Up,(ps.getD i noP).Q3);have e3:=Gh s.cl (NN b vs i s);unfold NN at e2 e3;simp only at e2;simp only[e1,S,e2,e3];rw[Ax (show s.lit.length+[Calls.mk (Cc (DA b (vs.getD i noV)) s.cl).1 (Cc (DA b (vs.getD i noV)) s.cl).2].length≤2147483648 by show s.lit.length+1≤_;omega)]
  rw[Ax (show s.gong.length+[!((Cc (Cc (DA b (vs.getD i noV)) s.cl) ((ps.getD i noP).Up,(ps.getD i noP).Q3)).1==0&&((Cc (Cc (DA b (vs.getD i noV)) s.cl) ((ps.getD i noP).Up,(ps.getD i noP).Q3)).2==0&&H))].length≤2147483648 by show s.gong.length+1≤_;omega)]
  rfl) (λs _=>by
  show Fz ps vs (vs.length:Int) (vs.length:Int) b.C0 b.E0 b.H0 b.M0 b.J0 b.L0 b.N0 b.B0 [] [] 0 0 s.lit s.gong s.cl.1 s.cl.2=_;unfold Fz;simp only[f_ (N_ (vs.length:Int)),P]
  rfl)
 exact⟨Ai h.1 ω,h.2.1,h.2.2⟩
theorem ZU(vs:List C)(ps:List Calls)(hl:vs.length≤1000):Lf b.C0 b.E0 b.H0 b.M0 b.J0 b.L0 b.N0 b.B0 vs ps=R (((),(Acf b vs ps).2,()),((Acf b vs ps).1.tup,())):=by
 unfold Lf Acf;rw[Be,hcode];simp only[S,Q_,P];by_cases h1:vs.length=b.B0.length
 ·by_cases h2:ps.length=b.B0.length
  ·have h:=(Xp hb hcode vs ps hl ω).1
   simp only[Bldg.tup,Lan.tup,Lan.none]at h;rw[h1]at h⊢;rw[h2];simp only[Q_,P,l_,a6_,d_,h];rfl
  ·rw[h1,Q_,ES (ω:¬(ps.length:Int)=(b.B0.length:Int)),Aq (ω:¬(ps.length:Int)=(b.B0.length:Int)),b7_]
   rfl
 ·rw[ES (ω:¬(vs.length:Int)=(b.B0.length:Int)),Aq (ω:¬(vs.length:Int)=(b.B0.length:Int))]
  rfl
end
def TV(b:I)(vs:List C)(F D:Int):Bool:=vs.any λv=>BQ (DA b v) F.toNat D
def HP(b:I)(vs:List C)(l:List L):List W:=l.flatMap λe=>bif TV b vs e.D0 e.I0 then [aE 2 e.D0 e.I0 0 0]else []
def Aja(b:I)(vs:List C){f:Nat}{d:Int}:∀(k i:Nat) (s:Int×Int),i+k=vs.length→BQ (Bw (λi s=>CP s (DA b (vs.getD i noV))) k i s) f d=(BQ s f d||(vs.drop i).any λv=>BQ (DA b v) f d)
 |0,i,s,hi=>by rw[show i=vs.length by omega,a8_];simp[Bw]
 |k+1,i,s,hi=>by
  show BQ (Bw (λi s=>CP s (DA b (vs.getD i noV))) k (i+1) (CP s (DA b (vs.getD i noV)))) f d=_
  rw[Aja b vs k (i+1) _ ω,Ap9,Cb noV (ω:i<vs.length),List.any_cons,Bool.or_assoc]
def XR(b:I)(vs:List C):∀l:List L,(HP b vs l).length≤l.length
 |[]=>w_ _
 |e::t=>by
  have h:=XR b vs t;show((bif TV b vs e.D0 e.I0 then [aE 2 e.D0 e.I0 0 0]else [])++HP b vs t).length≤_;rw[h_,z_];cases TV b vs e.D0 e.I0<;>simp<;>omega
def Azl(hb:b.small)(h:Ak b e.D0 e.I0=H):Bem e:=by
 have lo:=hb.lo;have hi:=hb.hi;unfold Ak OT at h;simp only[e_,b3_,Y_,Am]at h;unfold Bem;omega
section
variable{b:I}(hb:b.small)(hcode:b.code=0){m:Img}(hm:ImgOK b m)(hl:m.A0.length≤100000)(vs:List C)(hv:(vs.length:Int)=(b.B0.length:Int))
include hb hcode hm hl hv
theorem ZV:Lg b.C0 b.E0 b.H0 b.M0 b.J0 b.L0 b.N0 b.B0 m.F0 m.O0 m.K0 m.A0 vs=R ((HP b vs m.A0,()),()):=by
 have hcc:=Aj hcode;have hmx:100000≤maxLen:=by decide
 have hlp:=hm.lp
 have h0:=AQ (step:=λx=>letI a:=x.2.1.2.2;letI c:=x.2.2;letI g:=a.2.2;FA x.1.2.2.2.1 x.1.2.2.2.2.1 x.1.2.2.2.2.2.1 x.2.1.1 x.2.1.2.1 a.1 a.2.1 g.1 g.2.1 g.2.2.1 g.2.2.2.1 c.1.1 c.1.2.1 c.1.2.2.1 c.1.2.2.2.1 c.2.1.1 c.2.1.2.1) vs.length (λi (s:Int×Int)=>(((),(),(),vs,(vs.length:Int),(i:Int),()),(b.tup,m.tup,(s.1,s.2,()),()))) (λi s=>CP s (DA b (vs.getD i noV))) (λ_ _=>True) (λs=>(((),(),()),(m.tup,(s.1,s.2,()),()))) (λi s hi _=>⟨by
  show FA vs (vs.length:Int) (i:Int) b.C0 b.E0 b.H0 b.M0 b.J0 b.L0 b.N0 b.B0 m.F0 m.O0 m.K0 m.A0 s.1 s.2=_;unfold FA;rw[show aA A A A A 0 0 0 0 0 0 0 0=noV from rfl]
  have e3:=Gh s (DA b (vs.getD i noV));simp only[b_ (ω:(i:Int)<(vs.length:Int)),Aa (ω:(0:Int)≤(i:Int)) (ω:(i:Int)<(vs.length:Int)),d_,j_,Rm hb hcode,S,e3,Dz hi (show vs.length≤AI by unfold AI;omega)]
  rfl,trivial⟩) (λs _=>by
  show FA vs (vs.length:Int) (vs.length:Int) b.C0 b.E0 b.H0 b.M0 b.J0 b.L0 b.N0 b.B0 m.F0 m.O0 m.K0 m.A0 s.1 s.2=_;unfold FA;simp only[f_ (N_ (vs.length:Int)),P]
  rfl) vs.length 0 (0,0) ω trivial
 have h0':IV (((),(),(),vs,(vs.length:Int),(0:Int),()),(b.tup,m.tup,((0:Int),(0:Int),()),()))=_:=Ai h0.1 ω
 have hbit:∀(f:Nat) (d:Int),BQ (Bw (λi s=>CP s (DA b (vs.getD i noV))) vs.length 0 (0,0)) f d=vs.any λv=>BQ (DA b v) f d:=λf d=>by
  rw[Aja b vs vs.length 0 (0,0) ω,Tu,aD,R_]
 generalize Bw (λi s=>CP s (DA b (vs.getD i noV))) vs.length 0 (0,0)=u at h0' hbit
 have h1:=AQ (step:=λx=>FB x.1.2.1 x.1.2.2.1 x.1.2.2.2.1 x.1.2.2.2.2.1 x.2.1.1 x.2.1.2.1) m.A0.length (λi (out:List W)=>(((),out,m.A0,(m.A0.length:Int),(i:Int),()),((u.1,u.2,()),()))) (λi out=>out++(bif TV b vs (m.A0.getD i B).D0 (m.A0.getD i B).I0 then [aE 2 (m.A0.getD i B).D0 (m.A0.getD i B).I0 0 0]else [])) (λi out=>out.length≤i) (λout=>((out,()),())) (λi out hi ho=>by
  have hc:=Azl hb (EO.1 (hm.en _ (CA B hi))).1;refine⟨?_,?_⟩
  ·show FB out m.A0 (m.A0.length:Int) (i:Int) u.1 u.2=_
   unfold FB;rw[show aB 0 0 0 0 A=B from rfl]
   simp only[b_ (ω:(i:Int)<(m.A0.length:Int)),Aa (ω:(0:Int)≤(i:Int)) (ω:(i:Int)<(m.A0.length:Int)),d_,j_,OU u hc.1 hc.2,S,Dz hi (show m.A0.length≤AI by unfold AI;omega),hbit]
   rw[Ax (show out.length+[aE 2 (m.A0.getD i B).D0 (m.A0.getD i B).I0 0 0].length≤2147483648 by show out.length+1≤_;omega)]
   unfold TV;cases vs.any λv=>BQ (DA b v) (m.A0.getD i B).D0.toNat (m.A0.getD i B).I0
   ·simp
   ·rfl
  ·rw[h_]
   cases TV b vs (m.A0.getD i B).D0 (m.A0.getD i B).I0<;>simp<;>omega) (λout _=>by
  show FB out m.A0 (m.A0.length:Int) (m.A0.length:Int) u.1 u.2=_;unfold FB;simp only[f_ (N_ (m.A0.length:Int)),P]) m.A0.length 0 [] ω (by simp)
 have h1':=Ai h1.1 ω
 rw[Hh,Z_,Mx (λe=>bif TV b vs e.D0 e.I0 then [aE 2 e.D0 e.I0 0 0]else []) B m.A0 0 m.A0.length ω,R_]at h1'
 unfold Lg;rw[CL hb m ω ω,Img.ok_iff.2 hm]
 simp only[S,n_,P];rw[show((vs.length:Int) !=(b.B0.length:Int))=A by rw[hv,Q_]]
 simp only[Bldg.tup,Img.tup]at h0';simp only[P,h0',S];rw[show IW (((),([]:List W),m.A0,(m.A0.length:Int),(0:Int),()),((u.1,u.2,()),()))=_ from h1']
 rfl
end
def xsV(E:List L)(xs:List Int)(r:W):List Int:=
 bif(r.T0==2)&&FG (At r.D0 r.I0) E then xs.take (AA (At r.D0 r.I0) E)++xs.drop (AA (At r.D0 r.I0) E+1)
 else bif(r.T0==1)&&!FG (At r.D0 r.I0) E then xs.take (AA (At r.D0 r.I0) E)++[0]++xs.drop (AA (At r.D0 r.I0) E)
 else xs
def Bbd(E:List L)(xs:List Int)(F D:Int):Int:=bif FG (At F D) E then xs.getD (AA (At F D) E) 0 else 0
def Rh(E:List L)(xs:List Int)(e:L):Int:=Bbd E xs e.D0 e.I0
def Akr(e:L):isC e.D0 e.I0 e=H:=by unfold isC;simp
def Apb(hs:Bp E)(hi:i<E.length):AA (E.getD i B) E=i:=by
 have hp:=Ee.1 hs;rcases Nat.lt_trichotomy (AA (E.getD i B) E) i with h | h | h
 ·have h1:=Ae2 hs (AA (E.getD i B) E) (w_ _) ω
  have h2:Bj (E.getD (AA (E.getD i B) E) B) (E.getD i B)=H:=by
   generalize AA (E.getD i B) E=p at h;have hg:∀j (hj:j<E.length),E.getD j B=E[j]:=λj hj=>by simp[k_,hj]
   rw[hg p ω,hg i hi]
   exact b0_.1 hp p i ω hi h
  rw[h1]at h2;cases h2
 ·exact h
 ·have h1:=Ae3 (E.getD i B) E i h
  have h2:=(VW (Akr (E.getD i B))).1;rw[h1]at h2;cases h2
def Bf2(hs:Bp E)(hi:i<E.length):FG (At (E.getD i B).D0 (E.getD i B).I0) E=H:=by
 unfold FG;rw[SV,Apb hs hi,e_];exact⟨Eq.mpr g4_ hi,Akr _⟩
def Apa(hs:Bp E)(xs:List Int)(hi:i<E.length):Rh E xs (E.getD i B)=xs.getD i 0:=by
 unfold Rh Bbd;rw[Bf2 hs hi,SV,Apb hs hi];rfl
def Akd{a b:List α}(d:α)(hl:a.length=b.length)(h:∀i,i<a.length→a.getD i d=b.getD i d):a=b:=by
 refine List.ext_getElem hl λi h1 h2=>?_
 have:=h i h1
 simpa[k_,h1,h2]using this
def Ba5{β:Type}(f:α→β)(hi:i<l.length)(d:α)(d':β):(l.map f).getD i d'=f (l.getD i d):=by
 simp[k_,hi]
def Bf9(hs:Bp E)(hl:xs.length=E.length):E.map (Rh E xs)=xs:=by
 refine Akd 0 (by rw[d2_,hl]) λi hi=>?_
 rw[d2_]at hi;rw[Ba5 _ hi B,Apa hs xs hi]
def Al4{k:Nat}{a:α}(d:α)(h:a=l.getD k d):l.set k a=l:=by
 by_cases hk:k<l.length
 ·refine Akd d (r_ ..) λi hi=>?_
  by_cases hik:k=i
  ·subst hik
   rw[h];simp[k_,hk]
  ·simp[k_,hik]
 ·rw[List.set_eq_of_length_le ω]
def Aoy{c:L}{l:List L}(h:FG c l=H):AA c l<l.length∧isC c.D0 c.I0 (l.getD (AA c l) B)=H:=by
 unfold FG at h;rw[e_]at h;exact⟨Eq.mp g4_ h.1,h.2⟩
def Ayk(hs:Bp m.A0)(hl:xs.length=m.A0.length)(r:W):xsV m.A0 xs r=(An m r).A0.map (Rh m.A0 xs):=by
 have hbase:=Bf9 hs hl;have hfp:=QO (c:=At r.D0 r.I0) 0 hs;rw[q_]at hfp;have hfp':Dx r.D0 r.I0 m.A0 0=_:=hfp;unfold An xsV;by_cases k4:r.T0=4
 ·rw[k4];exact hbase.symm
 by_cases k5:r.T0=5
 ·rw[k5];exact hbase.symm
 by_cases k6:r.T0=6
 ·rw[k6];exact hbase.symm
 rw[Aq k4,Aq k5,Aq k6,hfp'];simp only[P];cases hh:FG (At r.D0 r.I0) m.A0 with
 |false=>
  simp only[P,l_,d_,b7_,b6_,c7_];cases k1:r.T0==1 with
  |false=>exact hbase.symm
  |true=>
   simp only[d_];show _=(Hc (aB r.D0 r.I0 (-1) 0 A) A m.A0).map (Rh m.A0 xs);have hnone:=Agi hs hh;rw[ZO (c:=aB r.D0 r.I0 (-1) 0 A) (λx hx=>hnone x hx)]
   have hp:AA (aB r.D0 r.I0 (-1) 0 A) m.A0=AA (At r.D0 r.I0) m.A0:=(SV (aB r.D0 r.I0 (-1) 0 A) m.A0).symm
   have hn:Rh m.A0 xs (aB r.D0 r.I0 (-1) 0 A)=0:=by
    unfold Rh Bbd;rw[hh];rfl
   rw[hp,List.map_append,List.map_append,List.map_take,List.map_drop,hbase,List.map_singleton,hn]
 |true=>
  obtain⟨p1,p2⟩:=Aoy hh;simp only[d_,c7_,n_,b7_,P];rw[Aq (ω:¬((AA (At r.D0 r.I0) m.A0:Nat):Int)=-1)]
  simp only[P,j_];generalize AA (At r.D0 r.I0) m.A0=p at p1 p2⊢
  have hset:∀e':L,e'.D0=(m.A0.getD p B).D0→e'.I0=(m.A0.getD p B).I0→(m.A0.set p e').map (Rh m.A0 xs)=xs:=λe' h1 h2=>by
   rw[List.map_set,hbase];refine Al4 0 ?_
   have:Rh m.A0 xs e'=Rh m.A0 xs (m.A0.getD p B):=by
    unfold Rh;rw[h1,h2]
   rw[this,Apa hs xs p1]
  cases k2:r.T0==2 with
  |true=>
   simp only[d_];show _=(m.A0.take p++m.A0.drop (p+1)).map (Rh m.A0 xs);rw[List.map_append,List.map_take,List.map_drop,hbase]
  |false=>
   simp only[P];cases k3:r.T0==3 with
   |true=>exact(hset (Ac3 (m.A0.getD p B) r.Q0) rfl rfl).symm
   |false=>
    simp only[P];cases k7:r.T0==7 with
    |true=>exact(hset (Tb (m.A0.getD p B) r.V1 r.Q0) rfl rfl).symm
    |false=>exact hbase.symm
def Bgr(hs:Bp m.A0)(hl:xs.length=m.A0.length)(r:W):(xsV m.A0 xs r).length=(An m r).A0.length:=by rw[Ayk hs hl,d2_]
def xsL:Img→List Int→List W→List Int
 |_,xs,[]=>xs
 |m,xs,r::t=>xsL (An m r) (xsV m.A0 xs r) t
end
end Go.Ovl
