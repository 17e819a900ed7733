/- The program's estimate (layer 21) answers. -/
import Derived.Test.YtfkphlpmkolemaaGreatDoorOvH
import Derived.Test.YtfkphlpmkolemaaGreatDoorOvA
import Derived.Test.YtfkphlpmkolemaaGreatDoorOvC
import Derived.Test.YtfkphlpmkolemaaGreatDoorOvB
set_option linter.all false
open Bool renaming false->A,true->H,false_or->aD
open Go.Ovl renaming noE->B,View->C,Bldg->I,Entry->L,Record->W
open Go.Ovl.Sat renaming ret->J,bic->O,bindS->V,bifT->aC
open Go renaming c_->P,a_->S
open Option renaming some->R
open Go.IntKind renaming i64->U,wrap->aF
open List renaming replicate->X
open Go.Ovl.View renaming mk->aA
open Go.Ovl.Entry renaming mk->aB
open Go.Ovl.Record renaming mk->aE
namespace Go.Ovl
open Go Go.Ab
set_option maxRecDepth 100000
noncomputable section
variable{vs:List C}{b:I}{E:List L}{xs:List Int}{i:Nat}{α:Type}{n:Int}{m:Img}{e:L}{l:List α}
def TZ(n:Int):Sat (Ir n) λy=>y.1.1=H→2≤n∧n≤32:=by
 unfold Ir;exact V (Q:=λy=>y.1.1=H→2≤n∧n≤32) (O (λq=>J λg=>⟨n_ q,n_ g⟩) λ_=>J λg=>(by cases g)) λ_ h=>J h
def Aig(hn:2≤n∧n≤32)(f d:Int):Sat (MY n f d) λy=>y.1.1=H→0≤f∧f<n:=by
 unfold MY;have w:U.wrap (n-1)=n-1:=Ac ω ω
 have p:Sat (bif(d==(2:Int))then bif(decide ((0:Int)<f))then R (((decide (f<n)),()),())else R ((A,()),())else R ((A,()),())) λ(y:(Bool×Unit)×Unit)=>y.1.1=H→0≤f∧f<n:=
  O (λ_=>O (λq=>J λg=>by have:=n_ q;have:=n_ g;omega) λ_=>J λg=>(by cases g)) λ_=>J λg=>(by cases g)
 exact V (Q:=λy=>y.1.1=H→0≤f∧f<n) (O (λ_=>O (λq=>O (λq2=>J λ_=>by have:=n_ q;have q2:=n_ q2;rw[w]at q2;omega) λ_=>p) λ_=>p) λ_=>p) λ_ h=>J h
def Vh(h:0≤n)(a c d:Int):Sat (Jk n a c d) λy=>(0≤y.2.1.1∧y.2.1.1<4294967296)∧U2 y.2.1.2.1 y.2.1.2.2.1:=by
 unfold Jk;exact aC (b_ h) (Sat.bindE (rfl:DI ..=_) (J ⟨Hm _,Hm _,Hm _⟩))
def Akm(a c d:Int):Sat (Od n a c d) λy=>0≤y.1.1∧y.1.1≤1000:=by
 unfold Od;refine V (TZ n) λy1 h1=>O (λ_=>J (show(0:Int)≤0∧(0:Int)≤1000 by decide)) λq=>?_
 have h1:=h1 (by simpa using q)
 refine V (Vh ω a c d) λy2 h2=>V (Tq h2.1) λy3 h3=>?_
 refine V (Q:=λy=>0≤y.1.1∧y.1.1≤510) ?_ λy4 h4=>J ?_
 ·unfold Rk
  refine V (Tq h2.2.1) λz1 k1=>V (Tq h2.2.2) λz2 k2=>J ?_
  show 0≤U.wrap (z1.1.1+z2.1.1)∧U.wrap (z1.1.1+z2.1.1)≤510;rw[Ac ω ω];omega
 ·show 0≤U.wrap (y3.1.1+y4.1.1)∧U.wrap (y3.1.1+y4.1.1)≤1000
  rw[Ac ω ω];omega
def nf(x:Int):Prop:=-1≤x∧x≤300
def Akn{l:List Int}(hl:l.length≤10){a c:Int}(ha:nf a)(hc:nf c)(hx:∀x∈l,nf x):Sat (Ca l a c) λy=>0≤y.1.1∧y.1.1≤4400:=by
 unfold Ca;refine aC (f2_ (by simp only[x_,d1_];omega)) ?_
 refine V (Q:=λy=>0≤y.1.1∧y.1.1≤4400) ?_ λ_ h=>J h
 unfold Gs;have hz:(l++[c]).length≤11:=by rw[h_,H_];omega
 have hall:∀x∈l++[c],nf x:=λx h=>by
  rcases q_.1 h with h | h
  ·exact hx x h
  ·rw[Q_.1 h];exact hc
 refine Sat.loop (λk x=>∃(n p:Int) (i:Nat),x=((n,p,l++[c],((l++[c]).length:Int),(i:Int),()),((a,()),(c,()),()))∧i+k=(l++[c]).length∧nf p∧0≤n∧n≤400*(i:Int)) ?_ (l++[c]).length ⟨0,a,0,rfl,ω,ha,by decide,by decide⟩ ω
 rintro k x ⟨n,p,i,rfl,hk,hp,hn,hn2⟩;show Sat (IN n p (l++[c]) ((l++[c]).length:Int) (i:Int) a c) _;unfold IN;refine O (λq=>?_) λ_=>J (ω:0≤n∧n≤4400)
 have q:=n_ q;simp only[CN (ω:i<1000000000)]
 have hv:=Ak6 hall (i:=i) (d:=(0:Int)) ω
 refine aC (Aa ω ω) (J ⟨k-1,ω,_,_,i+1,rfl,ω,hv,?_⟩)
 show 0≤U.wrap (n+_)∧U.wrap (n+_)≤_;rw[j_];generalize(l++[c]).getD i 0=z at hv⊢;unfold nf at hp hv;rw[Ac (n:=z-p) ω ω,Ac (n:=p-z) ω ω]
 by_cases g:z-p<p-z
 ·rw[b_ g,d_,Ac ω ω];omega
 ·rw[e_ g,P,Ac ω ω];omega
def Anr(n f w a c d g e:Int):Sat (Qi n f w a c d g e) λy=>-1≤y.1.1∧y.1.1≤4400:=by
 unfold Qi;have no:(-1:Int)≤-1∧(-1:Int)≤4400:=by decide
 refine V (TZ n) λy1 h1=>O (λ_=>J no) λq1=>O (λ_=>J no) λq2=>O (λ_=>J no) λq4=>O (λ_=>J no) λ_=>O (λ_=>J no) λ_=>?_
 have h1:=h1 (by simpa using q1)
 have q2:=D_ q2;have q4:=D_ q4;refine V (Aig h1 g e) λy2 h2=>O (λ_=>J no) λq3=>?_
 have h2:=h2 (by simpa using q3)
 refine V (Vh ω a c d) λy3 _=>aC (b_ ω) (aC (b_ h2.1) ?_)
 refine V (Atw _) λy4 h4=>V (Ast _) λy5 h5=>?_
 have nf6:nf (aF U (y5.1.1-1)):=by rw[Ac ω ω];exact⟨ω,ω⟩
 have nf4:nf y4.1.1:=⟨ω,ω⟩
 have nff:nf f:=⟨ω,ω⟩
 have nfg:nf g:=⟨ω,ω⟩
 generalize U.wrap (y5.1.1-1)=z at nf6;have all:nf y4.1.1∧nf z∧nf f∧nf g:=⟨nf4,nf6,nff,nfg⟩;refine V (Q:=λy=>nf y.1.2.2.1∧nf y.1.2.2.2.1∧nf y.2.1.1∧nf y.2.2.1.1) ?_ λy6 h6=>V (Q:=λy=>nf y.1.2.2.1∧nf y.1.2.2.2.1∧nf y.2.1.1∧nf y.2.2.1.1) ?_ λy7 h7=>?_
 ·exact O (λ_=>O (λ_=>J all) λ_=>O (λ_=>J all) λ_=>J all) λ_=>O (λ_=>J all) λ_=>J all
 ·exact O (λ_=>J h6) λ_=>O (λ_=>J h6) λ_=>J h6
 have p:∀(l:List Int) {a c:Int},l.length≤10→nf a→nf c→(∀x∈l,nf x)→Sat (Option.bind (Ca l a c) λy10=>R ((y10.1.1,()),())) λy=>-1≤y.1.1∧y.1.1≤4400:=λl a c hl ha hc hx=>V (Akn hl ha hc hx) λy h=>J ⟨Int.le_trans (by decide) h.1,h.2⟩
 have m1:∀{x:Int},nf x→∀y∈[x],nf y:=λh y hy=>by rw[Q_.1 hy];exact h
 have m2:∀{x z:Int},nf x→nf z→∀y∈[x,z],nf y:=λh h2 y hy=>by
  rcases y_.1 hy with rfl | hy
  ·exact h
  ·exact m1 h2 y hy
 refine O (λ_=>p _ (a5_ _) h7.2.2.1 h7.2.2.2 λx hx=>by cases hx) λ_=>V (Q:=λy=>nf y.1.2.2.1∧nf y.1.2.2.2.1∧nf y.2.1.1∧nf y.2.2.1.1) ?_ λy9 h9=>?_
 ·exact O (λ_=>J h7) λ_=>J h7
 obtain⟨k1,k2,k3,k4⟩:=h9;exact O (λ_=>p _ (show(1:Nat)≤10 by decide) k3 k4 (m1 k2)) λ_=>O (λ_=>p _ (show(1:Nat)≤10 by decide) k3 k4 (m1 k1)) λ_=>O (λ_=>p _ (show(2:Nat)≤10 by decide) k3 k4 (m2 k2 k1)) λ_=>p _ (show(2:Nat)≤10 by decide) k3 k4 (m2 k1 k2)
def Akk(h:b.code=0){c:Car}(hc:c∈b.B0):Ce b.C0 c=H:=by
 unfold Bldg.code at h;cases h1:inR 2 32 b.C0<;>rw[h1]at h
 ·cases h
 cases h2:inR 1 8 (b.B0.length:Int)<;>rw[h2]at h
 ·cases h
 cases h3:inR 1 16 b.F0<;>rw[h3]at h
 ·cases h
 cases h4:inR 1 10000 b.N0<;>rw[h4]at h
 ·cases h
 cases h5:b.B0.all (Ce b.C0)<;>rw[h5]at h
 ·cases h
 exact F_.1 h5 c hc
def Ab3(h:b.code=0)(hi:i<b.B0.length):(0≤(b.B0.getD i ED).Q3∧(b.B0.getD i ED).Q3≤10000)∧(0≤(b.B0.getD i ED).N2∧(b.B0.getD i ED).N2≤10000)∧(0≤(b.B0.getD i ED).K2∧(b.B0.getD i ED).K2≤10000)∧0≤(b.B0.getD i ED).I2∧(b.B0.getD i ED).I2≤10000:=by
 have ht:Ce b.C0 (b.B0.getD i ED)=H:=Akk h (CB _ hi);unfold Ce at ht;simp only[X_,List.all_nil,c5_,f_,Am]at ht;omega
def TY(b:I)(car:Int)(v:C)(floor dir:Int):Sat (Eh b.C0 b.F0 b.I0 b.N0 b.K0 b.M0 b.O0 b.B0 car v.J3 v.B3 v.C3 v.U3 v.E0 v.J0 v.D3 v.F3 v.V2 v.R2 v.Y1 v.Q1 floor dir) λy=>0≤y.1.1∧y.1.1≤1000000:=by
 unfold Eh;have one:(0:Int)≤1000000∧(1000000:Int)≤1000000:=by decide
 refine Sat.bindE (Be b) (O (λ_=>J one) λhc=>O (λ_=>J one) λg1=>O (λ_=>J one) λg2=>?_)
 have g1:=D_ g1;have g2:=D_ g2;have hcode:b.code=0:=by simpa using hc
 have ib:inB car b.B0.length=H:=Aa ω ω
 refine V (Q:=λy=>y.1.1=car∧y.2.1=b.tup) (O (λ_=>J ⟨rfl,rfl⟩) λ_=>J ⟨rfl,rfl⟩) λy2 h2=>?_
 obtain⟨⟨yc,ya⟩,yb,yv⟩:=y2;obtain⟨e1,e2⟩:=h2;simp only at e1 e2;subst e1 e2;have ht:=Ab3 hcode (ω:yc.toNat<b.B0.length)
 refine V (Anr ..) λy3 h3=>O (λ_=>J one) λq3=>aC ib ?_
 have q3:=D_ q3;refine V (Akm ..) λy4 h4=>J ?_
 have key:∀n:Int,0≤n→0≤(bif decide (1000000<n)then(1000000:Int)else n)∧(bif decide (1000000<n)then(1000000:Int)else n)≤1000000:=λn hn=>by
  by_cases g:1000000<n
  ·rw[b_ g];exact one
  ·rw[e_ g,P];omega
 refine key _ ?_;show 0≤U.wrap (aF U (y3.1.1*(b.B0.getD yc.toNat ED).Q3)+U.wrap (y4.1.1*U.wrap (aF U (2*(b.B0.getD yc.toNat ED).N2)+(b.B0.getD yc.toNat ED).K2)));generalize b.B0.getD yc.toNat ED=c at ht;have k1:0≤y3.1.1*c.Q3∧y3.1.1*c.Q3≤4400*10000:=⟨Int.mul_nonneg ω ω,Int.mul_le_mul ω ω ω (by decide)⟩
 rw[Ac (n:=2*c.N2) ω ω,Ac (n:=2*c.N2+c.K2) ω ω]
 have k2:0≤y4.1.1*(2*c.N2+c.K2)∧y4.1.1*(2*c.N2+c.K2)≤1000*30000:=⟨Int.mul_nonneg ω ω,Int.mul_le_mul ω ω ω (by decide)⟩
 generalize y4.1.1*(2*c.N2+c.K2)=p at k2;generalize y3.1.1*c.Q3=q at k1;rw[Ac (n:=q) ω ω,Ac (n:=p) ω ω,Ac ω ω]
 omega
def Agf(n:Int):Prop:=0≤n∧n<4294967296
def View.none:C:=aA A A A A 0 0 0 0 0 0 0 0
def Car.none:Car:=Car.mk 0 0 0 0 0 0 0 0 0
structure View.ok(v:View):Prop where
 c:Agf v.R2
 u:Agf v.Y1
 d:Agf v.Q1
def Aky(b:I)(car:Int)(v:C)(floor dir:Int):Option ((Int×Unit)×Unit):=
 Eh b.C0 b.F0 b.I0 b.N0 b.K0 b.M0 b.O0 b.B0 car v.J3 v.B3 v.C3 v.U3 v.E0 v.J0 v.D3 v.F3 v.V2 v.R2 v.Y1 v.Q1 floor dir
def Rq(b:I)(car:Int)(v:C)(floor dir:Int):Int:=match Aky b car v floor dir with | some r=>r.1.1 | none=>0
def Api(_hb:b.small){v:C}(_hv:v.ok)(car floor dir:Int):Aky b car v floor dir=R ((Rq b car v floor dir,()),()):=by
 obtain⟨r,h,_⟩:=TY b car v floor dir;have h':Aky b car v floor dir=R r:=h;rw[show Rq b car v floor dir=r.1.1 by unfold Rq;rw[h']];exact h'
def Bg1(b:I)(car:Int)(v:C)(floor dir:Int):0≤Rq b car v floor dir∧Rq b car v floor dir≤1000000:=by
 obtain⟨r,h,h2⟩:=TY b car v floor dir;have h':Aky b car v floor dir=R r:=h;rw[show Rq b car v floor dir=r.1.1 by unfold Rq;rw[h']]
 exact h2
def Ud(v:C):Bool:=v.D3==3||v.D3==4
def PP(v:C):GV v.J3 v.B3 v.C3 v.U3 v.E0 v.J0 v.D3 v.F3 v.V2 v.R2 v.Y1 v.Q1=R ((Ud v,()),()):=by
 unfold GV Ud;cases v.D3==3<;>rfl
def ZS(a b:Int×Int):Bool:=decide (a.1<b.1)||(a.1==b.1&&decide (a.2<b.2))
def SU(a b:Int×Int):Ip a.1 a.2 b.1 b.2=R ((ZS a b,()),()):=by
 unfold Ip ZS;by_cases h:a.1=b.1
 ·by_cases h':a.2=b.2
  ·rw[h,h',k_,k_,e_ ω,e_ ω];rfl
  ·rw[h,k_,Ar h',e_ ω];rfl
 ·rw[Ar h]
  cases decide (a.1<b.1)<;>rfl
def Ax(vs:List C)(i:Int):C:=vs.getD i.toNat (aA A A A A 0 0 0 0 0 0 0 0)
def okViews(vs:List C):Prop:=∀v∈vs,v.ok
def View.ok_none:View.ok (aA A A A A 0 0 0 0 0 0 0 0):=⟨⟨by decide,by decide⟩,⟨by decide,by decide⟩,⟨by decide,by decide⟩⟩
def okViews.at(h:okViews vs)(i:Int):(Ax vs i).ok:=by
 unfold Ax;rw[l_];cases hq:vs[i.toNat]? with
 |none=>exact View.ok_none
 |some v=>exact h v (t_ hq)
def II(b:I)(vs:List C)(floor dir:Int)(car:Int):Int×Int:=((bif Ud (Ax vs car)then 1 else 0),Rq b car (Ax vs car) floor dir)
def PQ(hb:b.small)(hv:okViews vs){car:Int}(hc:0≤car∧car<vs.length)(floor dir:Int):
  Kz b.C0 b.F0 b.I0 b.N0 b.K0 b.M0 b.O0 b.B0 vs car floor dir=R (((),()),(((II b vs floor dir car).1,(II b vs floor dir car).2,()),())):=by
 unfold Kz;have e:Eh b.C0 b.F0 b.I0 b.N0 b.K0 b.M0 b.O0 b.B0 car (Ax vs car).J3 (Ax vs car).B3 (Ax vs car).C3 (Ax vs car).U3 (Ax vs car).E0 (Ax vs car).J0 (Ax vs car).D3 (Ax vs car).F3 (Ax vs car).V2 (Ax vs car).R2 (Ax vs car).Y1 (Ax vs car).Q1 floor dir=_:=Api hb (hv.at car) car floor dir;rw[Aa hc.1 hc.2];show(Eh b.C0 b.F0 b.I0 b.N0 b.K0 b.M0 b.O0 b.B0 car (Ax vs car).J3 (Ax vs car).B3 (Ax vs car).C3 (Ax vs car).U3 (Ax vs car).E0 (Ax vs car).J0 (Ax vs car).D3 (Ax vs car).F3 (Ax vs car).V2 (Ax vs car).R2 (Ax vs car).Y1 (Ax vs car).Q1 floor dir).bind (λy1=>(GV (Ax vs car).J3 (Ax vs car).B3 (Ax vs car).C3 (Ax vs car).U3 (Ax vs car).E0 (Ax vs car).J0 (Ax vs car).D3 (Ax vs car).F3 (Ax vs car).V2 (Ax vs car).R2 (Ax vs car).Y1 (Ax vs car).Q1).bind (λy2=>bif y2.1.1 then R (((),()),(((1:Int),y1.1.1,()),()))else R (((),()),(((0:Int),y1.1.1,()),()))))=_
 rw[e,S,PP,S];unfold II;cases Ud (Ax vs car)<;>rfl
def NM(b:I)(vs:List C)(floor dir except:Int)(i best:Int):Int:=
 bif !(Ax vs i).J3||i==except then best else bif best==-1||ZS (II b vs floor dir i) (II b vs floor dir best)then i else best
def Ai8(b:I)(vs:List C)(floor dir except:Int):Nat→Nat→Int→Int
 |0,_,best=>best
 |m+1,i,best=>Ai8 b vs floor dir except m (i+1) (NM b vs floor dir except i best)
def Ik(b:I)(vs:List C)(floor dir except:Int):Int:=
 bif b.code !=0||(vs.length:Int) !=(b.B0.length:Int)then -1 else Ai8 b vs floor dir except vs.length 0 (-1)
def QR(vs:List C)(best:Int):Prop:=best=-1∨(0≤best∧best<vs.length)
def Zt{floor dir except:Int}(hi:i<vs.length){best:Int}(h:QR vs best):QR vs (NM b vs floor dir except i best):=by
 unfold NM;cases(!(Ax vs i).J3||(i:Int)==except)with
 |true=>exact h
 |false=>
  simp only[P];cases(best==-1||ZS (II b vs floor dir i) (II b vs floor dir best))with
  |true=>exact .inr (by simp only[d_];omega)
  |false=>exact h
def QQ{b:I}(hb:b.small){vs:List C}(hv:okViews vs)(hl:vs.length≤100)(floor dir except:Int) :
  ∀(m i:Nat) (best l0 l1:Int),i+m=vs.length→QR vs best→(best≠ -1→(l0,l1)=II b vs floor dir best)→
   Bz (λx=>letI a:=x.2.1.2.2;letI c:=x.1.2.2.2.2.2;letI d:=a.2.2;Fx x.1.1 x.1.2.1 x.1.2.2.1 x.1.2.2.2.1 c.1 c.2.2.1 c.2.2.2.1 c.2.2.2.2.1 x.2.1.1 x.2.1.2.1 a.1 a.2.1 d.1 d.2.1 d.2.2.1 d.2.2.2.1 x.2.2.1.1 x.2.2.1.2.1) (m+1) ((vs,floor,dir,except,(),best,(),vs,(vs.length:Int),(i:Int),()),(b.tup,(l0,l1,()),()))=R ((Ai8 b vs floor dir except m i best,()),())
 |0,i,best,l0,l1,hi,hin,hr=>by
  refine Au ?_;show Fx vs floor dir except best vs (vs.length:Int) (i:Int) b.C0 b.F0 b.I0 b.N0 b.K0 b.M0 b.O0 b.B0 l0 l1=_;unfold Fx;have e:decide ((i:Int)<(vs.length:Int))=A:=by simp;omega
  rw[e];rfl
 |m+1,i,best,l0,l1,hi,hin,hr=>by
  have hi':i<vs.length:=ω
  have e:decide ((i:Int)<(vs.length:Int))=H:=by simp;omega
  have ib:inB (i:Int) vs.length=H:=Aa ω ω
  have w:U.wrap ((i:Int)+1)=((i+1:Nat):Int):=by rw[Ac ω ω];omega
  have hs:∃l0' l1',(NM b vs floor dir except i best≠ -1→(l0',l1')=II b vs floor dir (NM b vs floor dir except i best))∧Fx vs floor dir except best vs (vs.length:Int) (i:Int) b.C0 b.F0 b.I0 b.N0 b.K0 b.M0 b.O0 b.B0 l0 l1=R (.inl ((vs,floor,dir,except,(),NM b vs floor dir except i best,(),vs,(vs.length:Int),((i+1:Nat):Int),()),(b.tup,(l0',l1',()),()))):=by
   unfold Fx;have k1:=PQ hb hv (car:=(i:Int)) ω floor dir
   rw[e,ib,w];simp only[d_];unfold NM;rw[show vs.getD (Int.toNat (i:Int)) (aA A A A A 0 0 0 0 0 0 0 0)=Ax vs (i:Int)from rfl]
   cases(Ax vs (i:Int)).J3 with
   |false=>exact⟨l0,l1,hr,rfl⟩
   |true=>
    simp only[m_,P,aD];cases(i:Int)==except with
    |true=>exact⟨l0,l1,hr,rfl⟩
    |false=>
     simp only[P,k1,S];rcases hin with hbest | hbest
     ·subst hbest
      rw[show((-1:Int)==-1)=H from rfl]
      simp only[d_,S,w,Bool.true_or];exact⟨_,_,λ_=>rfl,rfl⟩
     ·have hr':=hr ω
      have e1:l0=(II b vs floor dir best).1:=e9_ Prod.fst hr';have e2:l1=(II b vs floor dir best).2:=e9_ Prod.snd hr';subst e1 e2;rw[Ar (ω:¬best=-1)]
      simp only[P,S,aD,SU];cases ZS (II b vs floor dir i) (II b vs floor dir best)with
      |true=>simp only[d_,w];exact⟨_,_,λ_=>rfl,rfl⟩
      |false=>simp only[P,w];exact⟨_,_,λ_=>rfl,rfl⟩
  obtain⟨l0',l1',h1,h2⟩:=hs;exact(Bk h2).trans (QQ hb hv hl floor dir except m (i+1) _ l0' l1' ω (Zt hi' hin) h1)
def NL(hb:b.small)(hv:okViews vs)(hl:vs.length≤100)(floor dir except:Int):
  GH b.C0 b.F0 b.I0 b.N0 b.K0 b.M0 b.O0 b.B0 vs floor dir except=R ((Ik b vs floor dir except,()),()):=by
 unfold GH Ik;rw[Be,S];cases b.code !=0 with
 |true=>rfl
 |false=>
  simp only[P,aD];cases(vs.length:Int) !=(b.B0.length:Int)with
  |true=>rfl
  |false=>
   have h:=Ah (QQ hb hv hl floor dir except vs.length 0 (-1) 0 0 ω (.inl rfl) (λh=>absurd rfl h)) ω
   have h':IX ((vs,floor,dir,except,(),(-1:Int),(),vs,(vs.length:Int),(0:Int),()),(b.tup,((0:Int),(0:Int),()),()))=_:=h;simp only[P];refine(e9_ (λz=>Option.bind z _) h').trans ?_
   rfl
def Aj6{b:I}{vs:List C}{floor dir except:Int}:∀(m i:Nat) (best:Int),i+m=vs.length→QR vs best→QR vs (Ai8 b vs floor dir except m i best)
 |0,_,_,_,h=>h
 |m+1,i,best,hi,h=>Aj6 m (i+1) _ ω (Zt ω h)
def RV(b:I)(vs:List C)(floor dir except:Int):QR vs (Ik b vs floor dir except):=by
 unfold Ik;cases(b.code !=0||(vs.length:Int) !=(b.B0.length:Int))with
 |true=>exact .inl rfl
 |false=>exact Aj6 vs.length 0 (-1) ω (.inl rfl)
def Aep(b:I)(vs:List C)(e:L)(x n:Int):Bool:=
 ((Ax vs e.S0).C3&&(x==0&&ZS (II b vs e.E0 e.J0 n) (II b vs e.E0 e.J0 e.S0)))||(!(Ax vs e.S0).C3&&(Ud (Ax vs e.S0)&&!Ud (Ax vs n)))
def MV(b:I)(vs:List C)(e:L)(x:Int):Int:=
 bif Ik b vs e.E0 e.J0 e.S0==-1 then -1 else bif Aep b vs e x (Ik b vs e.E0 e.J0 e.S0)then Ik b vs e.E0 e.J0 e.S0 else -1
def ET(b:I)(vs:List C)(e:L)(x:Int):L:=
 bif e.S0==-2 then e
 else bif e.S0==-1 then⟨e.E0,e.J0,Ik b vs e.E0 e.J0 (-1),e.B1,e.S1⟩
 else bif(Ax vs e.S0).U3 then(bif decide ((b.B0.length:Int)<e.B1)then⟨e.E0,e.J0,-2,e.B1,e.S1⟩else⟨e.E0,e.J0,Ik b vs e.E0 e.J0 e.S0,e.B1+1,e.S1⟩)
 else bif !e.S1&&decide (e.B1≤(b.B0.length:Int))then(bif MV b vs e x != -1 then⟨e.E0,e.J0,MV b vs e x,e.B1+1,H⟩else e)
 else e
def Entry.tup(e:L):Int×Int×Int×Int×Bool×Unit:=(e.E0,e.J0,e.S0,e.B1,e.S1,())
section
variable{b:I}(hb:b.small){vs:List C}(hv:okViews vs)(hl:vs.length≤100){e:L}
include hb hv hl
theorem Aa5(hc:0≤e.S0∧e.S0<vs.length)(x:Int):Gr b.C0 b.F0 b.I0 b.N0 b.K0 b.M0 b.O0 b.B0 vs e.E0 e.J0 e.S0 e.B1 e.S1 x=R ((MV b vs e x,()),()):=by
 unfold Gr MV;have hn:=RV b vs e.E0 e.J0 e.S0;rw[NL hb hv hl];generalize Ik b vs e.E0 e.J0 e.S0=n at hn;simp only[S];rcases hn with rfl | hn
 ·rfl
 ·have k1:=PQ hb hv hn e.E0 e.J0
  have k2:=PQ hb hv hc e.E0 e.J0;have f1:=PP (Ax vs e.S0);have f2:=PP (Ax vs n);rw[Ar (ω:¬n=-1),Aa hc.1 hc.2]
  unfold Aep;unfold Ax at f1 f2⊢;simp only[d_,P];cases hleg:(vs.getD e.S0.toNat (aA A A A A 0 0 0 0 0 0 0 0)).C3 with
  |true=>
   simp only[d_,o_,m_,a3_,Bool.or_false];cases x==0 with
   |true=>
    simp only[d_,o_,k1,k2,S,SU];cases ZS (II b vs e.E0 e.J0 n) (II b vs e.E0 e.J0 e.S0)<;>rfl
   |false=>rfl
  |false=>
   rw[hleg]at f1;simp only[P,a3_,b6_,o_,aD,S,d_,f1];cases Ud (vs.getD e.S0.toNat (aA A A A A 0 0 0 0 0 0 0 0))with
   |false=>rfl
   |true=>
    simp only[d_,Aa hn.1 hn.2,o_,f2,S];cases Ud (vs.getD n.toNat (aA A A A A 0 0 0 0 0 0 0 0))<;>rfl
theorem Zk(hc:-2≤e.S0∧e.S0<vs.length)(hm:0≤e.B1∧e.B1≤255)(x:Int):FJ b.C0 b.F0 b.I0 b.N0 b.K0 b.M0 b.O0 b.B0 vs e.E0 e.J0 e.S0 e.B1 e.S1 x=R (((),()),((ET b vs e x).tup,())):=by
 unfold FJ ET;have w:U.wrap (e.B1+1)=e.B1+1:=Ac ω ω
 by_cases g1:e.S0=-2
 ·rw[show(e.S0==-2)=H by rw[g1];rfl];rfl
 rw[Ar g1];by_cases g2:e.S0=-1
 ·rw[show(e.S0==-1)=H by rw[g2];rfl]
  simp only[d_,P,NL hb hv hl,S];rfl
 rw[Ar g2];have hc':0≤e.S0∧e.S0<vs.length:=ω
 have ho:=Aa5 hb hv hl hc' x;unfold Ax;simp only[P,Aa hc'.1 hc'.2,d_];cases hlost:(vs.getD e.S0.toNat (aA A A A A 0 0 0 0 0 0 0 0)).U3 with
 |true=>
  simp only[d_,S];cases decide ((b.B0.length:Int)<e.B1)with
  |true=>rfl
  |false=>
   simp only[P,Aa hc'.1 hc'.2,d_,hlost,NL hb hv hl,S,w];rfl
 |false=>
  simp only[P,S,Aa hc'.1 hc'.2,d_,hlost];cases hmv:e.S1 with
  |true=>
   simp only[m_,P,S,a3_];unfold Entry.tup;rw[hmv]
  |false=>
   rw[hmv]at ho;simp only[b6_,d_,S,o_];cases decide (e.B1≤(b.B0.length:Int))with
   |false=>
    simp only[P];unfold Entry.tup;rw[hmv]
   |true=>
    simp only[d_,ho,S,w];cases MV b vs e x != -1 with
    |true=>rfl
    |false=>
     simp only[P];unfold Entry.tup;rw[hmv]
end
def MF(was now:L):List W:=
 (bif was.B1 !=now.B1||!(was.S1==now.S1)then [⟨7,now.E0,now.J0,(bif now.S1 then 1 else 0),now.B1⟩]else [])++(bif was.S0 !=now.S0 then [⟨3,now.E0,now.J0,now.S0,0⟩]else [])
def Ahr(a b:L):(MF a b).length≤2:=by
 unfold MF;cases(a.B1 !=b.B1||!(a.S1==b.S1))<;>cases a.S0 !=b.S0<;>simp
def Zf(a c:L):JU a.E0 a.J0 a.S0 a.B1 a.S1 c.E0 c.J0 c.S0 c.B1 c.S1=R ((MF a c,()),()):=by
 unfold JU MF;have b1:∀r:W,Nat.ble (([]:List W).length+[r].length) 2147483648=H:=λ_=>At (by simp)
 have b2:∀r s:W,Nat.ble (([]++[s]:List W).length+[r].length) 2147483648=H:=λ_ _=>At (by simp)
 cases a.B1 !=c.B1<;>cases a.S1==c.S1<;>cases hm:c.S1<;>cases hc:a.S0 !=c.S0<;>
  simp only[d_,P,S,m_,b6_,Bool.or_true,Bool.true_or,Bool.or_self,b1,b2,hc]<;>rfl
def VK(b:I)(i:Int):Car:=b.B0.getD i.toNat (Car.mk 0 0 0 0 0 0 0 0 0)
def YS(b:I)(vs:List C)(e n:L)(x:Int):Int:=
 bif n.S0 !=e.S0&&decide (0≤n.S0)then(bif decide (1000000<U.wrap (Rq b n.S0 (Ax vs n.S0) e.E0 e.J0+(VK b n.S0).I2))then 1000000 else U.wrap (Rq b n.S0 (Ax vs n.S0) e.E0 e.J0+(VK b n.S0).I2))
 else(bif decide (aF U (x-1)<0)then 0 else U.wrap (x-1))
def Gu(b:I)(vs:List C):List L→List Int→List W
 |e::t,x::xs=>MF e (ET b vs e x)++Gu b vs t xs
 |_,_=>[]
def LB(b:I)(vs:List C):List L→List Int→List Int
 |e::t,x::xs=>YS b vs e (ET b vs e x) x::LB b vs t xs
 |_,_=>[]
def Axx(b:I)(vs:List C)(e:L)(x:Int):(ET b vs e x).E0=e.E0∧(ET b vs e x).J0=e.J0:=by
 unfold ET;cases e.S0==-2<;>cases e.S0==-1<;>cases(Ax vs e.S0).U3<;>cases decide ((b.B0.length:Int)<e.B1)<;>cases(!e.S1&&decide (e.B1≤(b.B0.length:Int)))<;>cases MV b vs e x != -1<;>exact⟨rfl,rfl⟩
def Ay1(b:I)(vs:List C)(e:L)(x:Int):QR vs (MV b vs e x):=by
 unfold MV;cases Ik b vs e.E0 e.J0 e.S0==-1 with
 |true=>exact .inl rfl
 |false=>
  cases Aep b vs e x (Ik b vs e.E0 e.J0 e.S0)with
  |true=>exact RV ..
  |false=>exact .inl rfl
def Ao9(b:I)(h:-2≤e.S0∧e.S0<vs.length)(x:Int):-2≤(ET b vs e x).S0∧(ET b vs e x).S0<vs.length:=by
 have k:∀n:Int,QR vs n→-2≤n∧n<vs.length:=λn h=>by
  rcases h with rfl | h
  ·omega
  ·omega
 unfold ET;by_cases g1:e.S0=-2
 ·rw[show(e.S0==-2)=H by rw[g1];rfl];exact h
 rw[Ar g1];by_cases g2:e.S0=-1
 ·rw[show(e.S0==-1)=H by rw[g2];rfl];exact k _ (RV ..)
 rw[Ar g2];simp only[P];cases(Ax vs e.S0).U3 with
 |true=>
  cases decide ((b.B0.length:Int)<e.B1)with
  |true=>exact⟨by show(-2:Int)≤-2;omega,by show(-2:Int)<_;omega⟩
  |false=>exact k _ (RV ..)
 |false=>
  cases(!e.S1&&decide (e.B1≤(b.B0.length:Int)))with
  |true=>
   cases MV b vs e x != -1 with
   |true=>exact k _ (Ay1 ..)
   |false=>exact h
  |false=>exact h
def Agw{b:I}:∀{l:List L}{p:Option L},Em b p l=H→∀e∈l,GQ b e=H
 |[],_,_,_,he=>by cases he
 |a::t,p,h,e,he=>by
  simp only[Em,f_]at h;rcases y_.1 he with rfl | he
  ·exact h.1
  ·exact Agw h.2.2 e he
def SB(N:List α)(a v:α)(t:List α):(N++a::t).set N.length v=N++v::t:=by
 induction N with
 |nil=>rfl
 |cons h N ih=>simp only[List.cons_append,x_,List.set_cons_succ,ih]
section
variable{b:I}(hb:b.small){vs:List C}(hv:okViews vs)(hl:vs.length≤100)(hlen:(vs.length:Int)=(b.B0.length:Int)){m:Img}(hm:∀e∈m.A0,GQ b e=H)(hm':m.A0.length≤1000){xs:List Int}(hx:xs.length=m.A0.length)
include hb hv hl hlen hm hm' hx
theorem SV:∀(k i:Nat) (out:List W) (N:List Int),i+k=m.A0.length→N.length=i→out.length≤2*i→
  Bz (λx=>letI a:=x.2.2.1.2.2;letI c:=x.1.2.2.2.2;letI d:=x.2.1.2.2;letI f:=a.2.2;letI g:=d.2.2;GK x.1.1 x.1.2.1 c.1 c.2.1 c.2.2.1 c.2.2.2.1 c.2.2.2.2.1 x.2.1.1 x.2.1.2.1 d.1 d.2.1 g.1 g.2.1 g.2.2.1 g.2.2.2.1 x.2.2.1.1 x.2.2.1.2.1 a.1 a.2.1 f.1 f.2.1 f.2.2.1 f.2.2.2.1 f.2.2.2.2.1) (k+1)
   ((xs,vs,(),(),out,N++X k 0,m.A0,(m.A0.length:Int),(i:Int),()),(b.tup,(b.C0,b.F0,b.I0,b.N0,b.K0,b.M0,b.O0,b.B0,vs,()),()))=R ((out++Gu b vs (m.A0.drop i) (xs.drop i),N++LB b vs (m.A0.drop i) (xs.drop i),()),())
 |0,i,out,N,hi,hN,ho=>by
  refine Au ?_;show GK xs vs out (N++[]) m.A0 (m.A0.length:Int) (i:Int) b.C0 b.F0 b.I0 b.N0 b.K0 b.M0 b.O0 b.B0 b.C0 b.F0 b.I0 b.N0 b.K0 b.M0 b.O0 b.B0 vs=_;unfold GK;have e:decide ((i:Int)<(m.A0.length:Int))=A:=by simp;omega
  rw[e,show i=m.A0.length by omega,a4_]
  simp[Gu,LB]
 |k+1,i,out,N,hi,hN,ho=>by
  have hi':i<m.A0.length:=ω
  have hix:i<xs.length:=ω
  have e:decide ((i:Int)<(m.A0.length:Int))=H:=by simp;omega
  have ib:inB (i:Int) m.A0.length=H:=Aa ω ω
  have ibx:inB (i:Int) xs.length=H:=Aa ω ω
  have ibn:inB (i:Int) (N++X (k+1) (0:Int)).length=H:=Aa ω (by simp;omega)
  have w:U.wrap ((i:Int)+1)=((i+1:Nat):Int):=by rw[Ac ω ω];omega
  have hok:=CB B hi';have hent:=hm _ hok;simp only[GQ,f_,A_]at hent;obtain⟨_,c1,c2,c3,c4⟩:=hent;have hd:=Zk hb hv hl (e:=m.A0.getD i B) ω ⟨c3,c4⟩ (xs.getD i 0)
  have hr:=Zf (m.A0.getD i B) (ET b vs (m.A0.getD i B) (xs.getD i 0));have hin:=Ao9 b (vs:=vs) (e:=m.A0.getD i B) ω (xs.getD i 0)
  have hrl:=Ahr (m.A0.getD i B) (ET b vs (m.A0.getD i B) (xs.getD i 0));have hble:Nat.ble (out.length+(MF (m.A0.getD i B) (ET b vs (m.A0.getD i B) (xs.getD i 0))).length) 2147483648=H:=At ω
  have hset:∀v:Int,(N++X (k+1) (0:Int)).set i v=N++v::X k 0:=λv=>by
   rw[← hN];exact SB N 0 v (X k 0)
  have hset2:∀v u:Int,(N++v::X k (0:Int)).set i u=N++u::X k 0:=λv u=>by
   rw[← hN];exact SB N v u (X k 0)
  have ibn2:∀v:Int,inB (i:Int) (N++v::X k (0:Int)).length=H:=λv=>Aa ω (by simp;omega)
  rw[Bw B hi',Bw (0:Int) hix];refine(Bk (x':=((xs,vs,(),(),out++MF (m.A0.getD i B) (ET b vs (m.A0.getD i B) (xs.getD i 0)),(N++[YS b vs (m.A0.getD i B) (ET b vs (m.A0.getD i B) (xs.getD i 0)) (xs.getD i 0)])++X k 0,m.A0,(m.A0.length:Int),((i+1:Nat):Int),()),(b.tup,(b.C0,b.F0,b.I0,b.N0,b.K0,b.M0,b.O0,b.B0,vs,()),()))) ?_).trans ?_
  ·show GK xs vs out (N++X (k+1) 0) m.A0 (m.A0.length:Int) (i:Int) b.C0 b.F0 b.I0 b.N0 b.K0 b.M0 b.O0 b.B0 b.C0 b.F0 b.I0 b.N0 b.K0 b.M0 b.O0 b.B0 vs=_
   unfold GK;rw[e,ib,ibx,show aB 0 0 0 0 A=B from rfl]
   unfold Entry.tup at hd;simp only[d_,j_,hd,S,hr,hble,ibn,hset];unfold YS;have hest:=Api hb (hv.at (ET b vs (m.A0.getD i B) (xs.getD i 0)).S0) (ET b vs (m.A0.getD i B) (xs.getD i 0)).S0 (m.A0.getD i B).E0 (m.A0.getD i B).J0;unfold Aky Ax at hest;cases hne:((ET b vs (m.A0.getD i B) (xs.getD i 0)).S0 !=(m.A0.getD i B).S0)with
   |false=>
    simp only[P,S,a3_,L_,d0_,w];rfl
   |true=>
    simp only[d_,S,o_];by_cases hge:0≤(ET b vs (m.A0.getD i B) (xs.getD i 0)).S0
    ·have ibc:inB (ET b vs (m.A0.getD i B) (xs.getD i 0)).S0 vs.length=H:=Aa hge hin.2
     have ibc':inB (ET b vs (m.A0.getD i B) (xs.getD i 0)).S0 b.B0.length=H:=Aa hge ω
     rw[b_ hge];simp only[d_,ibc,hest,S,ibc',ibn2,j_,hset2,L_,d0_,w];rfl
    ·rw[e_ hge]
     simp only[P,L_,d0_,w];rfl
  ·rw[SV k (i+1) _ (N++[_]) ω (by simp;omega) (by rw[h_];omega)]
   simp only[Gu,LB,L_,d0_]
end
def Pp(xs:List Int):Bool:=xs.all (inR 0 1000000)
def Ay8(n:Int):Lf n=R ((!inR 0 1000000 n,()),()):=by
 unfold Lf inR;by_cases g:n<0
 ·rw[b_ g,e_ (ω:¬0≤n)];rfl
 ·rw[e_ g,b_ (ω:0≤n)]
  by_cases g':1000000<n
  ·rw[b_ g',e_ (ω:¬n≤1000000)];rfl
  ·rw[e_ g',b_ (ω:n≤1000000)];rfl
def Anq(hl:xs.length≤maxLen):BB xs=R ((!Pp xs,()),()):=by
 have hm:maxLen≤9223372036854775807:=by decide
 have key:∀(k i:Nat),i+k=xs.length→∃y,Bz (λx=>AO x.1.1 x.1.2.2.1 x.1.2.2.2.1) (k+1) ((xs,(),(xs.length:Int),(i:Int),()),())=R y∧(match y with | .inl _=>(xs.drop i).all (inR 0 1000000)=H | .inr z=>0≤z.1.1∧(xs.drop i).all (inR 0 1000000)=A):=by
  intro k
  induction k with
  |zero=>
   intro i hi;refine⟨.inl ((),()),Au ?_,?_⟩
   ·show AO xs (xs.length:Int) (i:Int)=_
    unfold AO;rw[show decide ((i:Int)<(xs.length:Int))=A by simp;omega];rfl
   ·rw[show i=xs.length by omega,a4_];rfl
  |succ k ih=>
   intro i hi;have hi':i<xs.length:=ω
   have hs:AO xs (xs.length:Int) (i:Int)=R (bif inR 0 1000000 (xs.getD i 0)then .inl ((xs,(),(xs.length:Int),((i+1:Nat):Int),()),())else .inr (.inr (((i:Int),()),()))):=by
    unfold AO;have w:U.wrap ((i:Int)+1)=((i+1:Nat):Int):=by rw[Ac ω ω];omega
    rw[show decide ((i:Int)<(xs.length:Int))=H by simp;omega,Aa ω ω,Ay8,w]
    simp only[d_,j_,S];cases inR 0 1000000 (xs.getD i 0)<;>rfl
   rw[Bw (0:Int) hi',X_];cases hq:inR 0 1000000 (xs.getD i 0)with
   |true=>
    rw[hq]at hs;obtain⟨y,h1,h2⟩:=ih (i+1) ω
    exact⟨y,(Bk hs).trans h1,by rw[o_];exact h2⟩
   |false=>
    rw[hq]at hs;exact⟨_,Au hs,by show(0:Int)≤(i:Int)∧_;exact⟨ω,rfl⟩⟩
 obtain⟨y,h1,h2⟩:=key xs.length 0 ω
 have h1':BI ((xs,(),(xs.length:Int),(0:Int),()),())=R y:=Ah h1 ω
 rw[R_]at h2;unfold BB CE Pp;rw[h1'];cases y with
 |inl z=>simp only at h2;rw[h2];rfl
 |inr z=>
  simp only at h2;rw[h2.2];simp only[S];rw[b_ h2.1];rfl
def Nw(b:I)(m:Img)(xs:List Int)(vs:List C):List W×List Int×Int×Unit:=
 bif m.ok b&&((xs.length:Int)==(m.A0.length:Int)&&((vs.length:Int)==(b.B0.length:Int)&&Pp xs))then(Gu b vs m.A0 xs,LB b vs m.A0 xs,0,())else([],[],1,())
def Img.ok_all(h:m.ok b=H):b.code=0∧m.D0.length=b.B0.length∧m.L0.length=b.B0.length∧m.H0.length=b.B0.length∧(∀p∈m.D0,0≤p∧p≤4)∧(∀e∈m.A0,GQ b e=H)∧Em b Option.none m.A0=H:=by
 unfold Img.ok at h;simp only[f_,Z_]at h;obtain⟨h0,h1,h2,h3,h4,h5⟩:=h;exact⟨h0,ω,ω,ω,λp hp=>Am.1 (F_.1 h4 p hp),Agw h5,h5⟩
section
variable{b:I}(hb:b.small){vs:List C}(hv:okViews vs)(hl:vs.length≤100)(m:Img)(hm:m.A0.length≤1000)(hp:m.D0.length≤maxLen)(xs:List Int)(hx:xs.length≤maxLen)
include hb hv hl hm hp hx
theorem Aem:HU b.C0 b.F0 b.I0 b.N0 b.K0 b.M0 b.O0 b.B0 m.D0 m.L0 m.H0 m.A0 xs vs=R (Nw b m xs vs,()):=by
 have hmx:1000≤maxLen:=by decide
 unfold HU Nw;rw[CL hb m hp ω,Anq hx]
 simp only[S,bne];cases hok:m.ok b with
 |false=>rfl
 |true=>
  cases hq:(xs.length:Int)==(m.A0.length:Int)with
  |false=>rfl
  |true=>
   cases hr:(vs.length:Int)==(b.B0.length:Int)with
   |false=>rfl
   |true=>
    cases Pp xs with
    |false=>rfl
    |true=>
     have hq':(xs.length:Int)=(m.A0.length:Int):=by simpa using hq
     have hr':(vs.length:Int)=(b.B0.length:Int):=by simpa using hr
     obtain⟨_,_,_,_,_,hall,_⟩:=Img.ok_all hok;have hlp:=Ah (SV hb hv hl hr' hall hm (xs:=xs) ω m.A0.length 0 [] [] ω rfl (by simp)) ω
     have hlp':Lp ((xs,vs,(),(),([]:List W),X m.A0.length (0:Int),m.A0,(m.A0.length:Int),(0:Int),()),(b.tup,(b.C0,b.F0,b.I0,b.N0,b.K0,b.M0,b.O0,b.B0,vs,()),()))=_:=hlp;unfold Bldg.tup at hlp';simp only[m_,P,hq',b_ (ω:(0:Int)≤(m.A0.length:Int)),b_ (d7_ (m.A0.length:Int)),b_ (ω:(m.A0.length:Int)≤2147483648),S_,d_,j_,hlp',S,R_,a0_]
end
def Ye(b:I)(vs:List C):∀(l:List L) (xs:List Int),(Gu b vs l xs).length≤2*l.length
 |[],_=>by simp[Gu]
 |_::_,[]=>by simp[Gu]
 |e::t,x::xs=>by
  have h1:=Ye b vs t xs;have h2:=Ahr e (ET b vs e x);simp only[Gu,h_,x_];omega
def Yd(b:I)(vs:List C):∀(l:List L) (xs:List Int),xs.length=l.length→(LB b vs l xs).length=l.length
 |[],_,_=>by simp[LB]
 |_::_,[],h=>by simp at h
 |e::t,x::xs,h=>by
  simp only[LB,x_,Yd b vs t xs (by simpa using h)]
def Ay7(b:I)(m:Img)(xs:List Int)(vs:List C):(Nw b m xs vs).1.length≤2*m.A0.length∧(Nw b m xs vs).2.1.length≤m.A0.length:=by
 unfold Nw;cases hq:(m.ok b&&((xs.length:Int)==(m.A0.length:Int)&&((vs.length:Int)==(b.B0.length:Int)&&Pp xs)))with
 |false=>exact⟨by simp,by simp⟩
 |true=>
  simp only[f_,Z_]at hq;refine⟨Ye b vs m.A0 xs,?_⟩;show(LB b vs m.A0 xs).length≤_;rw[Yd b vs m.A0 xs ω]
  exact z_ _
def noV:C:=aA A A A A 0 0 0 0 0 0 0 0
def noP:Calls:=Calls.mk 0 0
structure Lan where
 lit:List Calls
 gong:List Bool
 cl:Int×Int
def Lan.tup(l:Lan):List Calls×List Bool×Int×Int×Unit:=(l.lit,l.gong,l.cl.1,l.cl.2,())
def Lan.none:Lan:=⟨[],[],(0,0)⟩
def Aaz(b:I)(vs:List C)(i:Nat)(s:Lan):Int×Int:=Cm (Dw b (vs.getD i noV)) s.cl
def Pu(b:I)(vs:List C)(ps:List Calls)(i:Nat)(s:Lan):Lan:=⟨s.lit++[Calls.mk (Aaz b vs i s).1 (Aaz b vs i s).2],s.gong++[!isZ (Cm (Aaz b vs i s) ((ps.getD i noP).Up,(ps.getD i noP).T3))],FQ s.cl (Aaz b vs i s)⟩
def He(b:I)(vs:List C)(ps:List Calls):Lan:=BC (Pu b vs ps) vs.length 0 Lan.none
def Adb(b:I)(vs:List C)(ps:List Calls):Lan×Int:=bif(vs.length:Int)==(b.B0.length:Int)&&((ps.length:Int)==(b.B0.length:Int))then(He b vs ps,0)else(Lan.none,1)
section
variable{b:I}(hb:b.small)(hcode:b.code=0)
include hb hcode
theorem XM(vs:List C)(ps:List Calls)(hl:vs.length≤1000)(hp:ps.length=vs.length):IY ((ps,(),(),(),vs,(vs.length:Int),(0:Int),()),(b.tup,Lan.none.tup,Lan.none.tup,()))=R (((),(),()),(Lan.none.tup,(He b vs ps).tup,()))∧(He b vs ps).lit.length=vs.length∧(He b vs ps).gong.length=vs.length:=by
 have key:=λ(step:_→_) (h1:∀(i:Nat) (s:Lan),i<vs.length→(s.lit.length=i∧s.gong.length=i)→step ((ps,(),(),(),vs,(vs.length:Int),(i:Int),()),(b.tup,Lan.none.tup,s.tup,()))=R (.inl ((ps,(),(),(),vs,(vs.length:Int),((i+1:Nat):Int),()),(b.tup,Lan.none.tup,(Pu b vs ps i s).tup,())))) h2=>AR (step:=step) vs.length (λi (s:Lan)=>((ps,(),(),(),vs,(vs.length:Int),(i:Int),()),(b.tup,Lan.none.tup,s.tup,()))) (Pu b vs ps) (λi s=>s.lit.length=i∧s.gong.length=i) (λs=>(((),(),()),(Lan.none.tup,s.tup,()))) (λi s hi hs=>⟨h1 i s hi hs,by
   constructor
   ·show(s.lit++[_]).length=_;rw[h_,H_,hs.1]
   ·show(s.gong++[_]).length=_;rw[h_,H_,hs.2]⟩) h2 vs.length 0 Lan.none ω ⟨rfl,rfl⟩
 have h:=key (λx=>letI a:=x.2.1.2.2;letI c:=x.2.2;letI d:=x.1.2.2.2.2;letI e:=a.2.2;letI f:=c.2.1;Fy x.1.1 d.1 d.2.1 d.2.2.1 x.2.1.1 x.2.1.2.1 a.1 a.2.1 e.1 e.2.1 e.2.2.1 e.2.2.2.1 c.1.1 c.1.2.1 c.1.2.2.1 c.1.2.2.2.1 f.1 f.2.1 f.2.2.1 f.2.2.2.1) (λi s hi hs=>by
  show Fy ps vs (vs.length:Int) (i:Int) b.C0 b.F0 b.I0 b.N0 b.K0 b.M0 b.O0 b.B0 [] [] 0 0 s.lit s.gong s.cl.1 s.cl.2=_;unfold Fy;rw[show aA A A A A 0 0 0 0 0 0 0 0=noV from rfl,show Calls.mk 0 0=noP from rfl]
  simp only[b_ (ω:(i:Int)<(vs.length:Int)),Aa (ω:(0:Int)≤(i:Int)) (ω:(i:Int)<(vs.length:Int)),Aa (ω:(0:Int)≤(i:Int)) (ω:(i:Int)<(ps.length:Int)),d_,j_,RB hb hcode,S,CD hi (show vs.length≤AA by unfold AA;omega)]
  have e1:=PT (Dw b (vs.getD i noV)) s.cl;have e2:=PT (Aaz b vs i s) ((ps.getD i noP).Up,(ps.getD i noP).T3);have e3:=Gl s.cl (Aaz b vs i s);unfold Aaz at e2 e3;simp only at e2;simp only[e1,S,e2,e3];rw[At (show s.lit.length+[Calls.mk (Cm (Dw b (vs.getD i noV)) s.cl).1 (Cm (Dw b (vs.getD i noV)) s.cl).2].length≤2147483648 by show s.lit.length+1≤_;omega)]
  rw[At (show s.gong.length+[!((Cm (Cm (Dw b (vs.getD i noV)) s.cl) ((ps.getD i noP).Up,(ps.getD i noP).T3)).1==0&&((Cm (Cm (Dw b (vs.getD i noV)) s.cl) ((ps.getD i noP).Up,(ps.getD i noP).T3)).2==0&&H))].length≤2147483648 by show s.gong.length+1≤_;omega)]
  rfl) (λs _=>by
  show Fy ps vs (vs.length:Int) (vs.length:Int) b.C0 b.F0 b.I0 b.N0 b.K0 b.M0 b.O0 b.B0 [] [] 0 0 s.lit s.gong s.cl.1 s.cl.2=_;unfold Fy;simp only[e_ (C_ (vs.length:Int)),P]
  rfl)
 exact⟨Ah h.1 ω,h.2.1,h.2.2⟩
theorem Aav(vs:List C)(ps:List Calls)(hl:vs.length≤1000):Lk b.C0 b.F0 b.I0 b.N0 b.K0 b.M0 b.O0 b.B0 vs ps=R (((),(Adb b vs ps).2,()),((Adb b vs ps).1.tup,())):=by
 unfold Lk Adb;rw[Be,hcode];simp only[S,N_,P];by_cases h1:vs.length=b.B0.length
 ·by_cases h2:ps.length=b.B0.length
  ·have h:=(XM hb hcode vs ps hl ω).1
   simp only[Bldg.tup,Lan.tup,Lan.none]at h;rw[h1]at h⊢;rw[h2];simp only[N_,P,k_,S_,d_,h];rfl
  ·rw[h1,N_,FK (ω:¬(ps.length:Int)=(b.B0.length:Int)),Ar (ω:¬(ps.length:Int)=(b.B0.length:Int)),b7_]
   rfl
 ·rw[FK (ω:¬(vs.length:Int)=(b.B0.length:Int)),Ar (ω:¬(vs.length:Int)=(b.B0.length:Int))]
  rfl
end
def Uw(b:I)(vs:List C)(F D:Int):Bool:=vs.any λv=>BQ (Dw b v) F.toNat D
def IL(b:I)(vs:List C)(l:List L):List W:=l.flatMap λe=>bif Uw b vs e.E0 e.J0 then [aE 2 e.E0 e.J0 0 0]else []
def Aj2(b:I)(vs:List C){f:Nat}{d:Int}:∀(k i:Nat) (s:Int×Int),i+k=vs.length→BQ (BC (λi s=>FQ s (Dw b (vs.getD i noV))) k i s) f d=(BQ s f d||(vs.drop i).any λv=>BQ (Dw b v) f d)
 |0,i,s,hi=>by rw[show i=vs.length by omega,a4_];simp[BC]
 |k+1,i,s,hi=>by
  show BQ (BC (λi s=>FQ s (Dw b (vs.getD i noV))) k (i+1) (FQ s (Dw b (vs.getD i noV)))) f d=_
  rw[Aj2 b vs k (i+1) _ ω,Aqw,Bw noV (ω:i<vs.length),List.any_cons,Bool.or_assoc]
def Yo(b:I)(vs:List C):∀l:List L,(IL b vs l).length≤l.length
 |[]=>z_ _
 |e::t=>by
  have h:=Yo b vs t;show((bif Uw b vs e.E0 e.J0 then [aE 2 e.E0 e.J0 0 0]else [])++IL b vs t).length≤_;rw[h_,x_];cases Uw b vs e.E0 e.J0<;>simp<;>omega
def Ba0(hb:b.small)(h:Aj b e.E0 e.J0=H):Bfu e:=by
 have lo:=hb.lo;have hi:=hb.hi;unfold Aj Pg at h;simp only[f_,b4_,Z_,Am]at h;unfold Bfu;omega
section
variable{b:I}(hb:b.small)(hcode:b.code=0){m:Img}(hm:ImgOK b m)(hl:m.A0.length≤100000)(vs:List C)(hv:(vs.length:Int)=(b.B0.length:Int))
include hb hcode hm hl hv
theorem Aaw:Ll b.C0 b.F0 b.I0 b.N0 b.K0 b.M0 b.O0 b.B0 m.D0 m.L0 m.H0 m.A0 vs=R ((IL b vs m.A0,()),()):=by
 have hcc:=Ak hcode;have hmx:100000≤maxLen:=by decide
 have hlp:=hm.lp
 have h0:=AR (step:=λx=>letI a:=x.2.1.2.2;letI c:=x.2.2;letI g:=a.2.2;Fz x.1.2.2.2.1 x.1.2.2.2.2.1 x.1.2.2.2.2.2.1 x.2.1.1 x.2.1.2.1 a.1 a.2.1 g.1 g.2.1 g.2.2.1 g.2.2.2.1 c.1.1 c.1.2.1 c.1.2.2.1 c.1.2.2.2.1 c.2.1.1 c.2.1.2.1) vs.length (λi (s:Int×Int)=>(((),(),(),vs,(vs.length:Int),(i:Int),()),(b.tup,m.tup,(s.1,s.2,()),()))) (λi s=>FQ s (Dw b (vs.getD i noV))) (λ_ _=>True) (λs=>(((),(),()),(m.tup,(s.1,s.2,()),()))) (λi s hi _=>⟨by
  show Fz vs (vs.length:Int) (i:Int) b.C0 b.F0 b.I0 b.N0 b.K0 b.M0 b.O0 b.B0 m.D0 m.L0 m.H0 m.A0 s.1 s.2=_;unfold Fz;rw[show aA A A A A 0 0 0 0 0 0 0 0=noV from rfl]
  have e3:=Gl s (Dw b (vs.getD i noV));simp only[b_ (ω:(i:Int)<(vs.length:Int)),Aa (ω:(0:Int)≤(i:Int)) (ω:(i:Int)<(vs.length:Int)),d_,j_,RB hb hcode,S,e3,CD hi (show vs.length≤AA by unfold AA;omega)]
  rfl,trivial⟩) (λs _=>by
  show Fz vs (vs.length:Int) (vs.length:Int) b.C0 b.F0 b.I0 b.N0 b.K0 b.M0 b.O0 b.B0 m.D0 m.L0 m.H0 m.A0 s.1 s.2=_;unfold Fz;simp only[e_ (C_ (vs.length:Int)),P]
  rfl) vs.length 0 (0,0) ω trivial
 have h0':IZ (((),(),(),vs,(vs.length:Int),(0:Int),()),(b.tup,m.tup,((0:Int),(0:Int),()),()))=_:=Ah h0.1 ω
 have hbit:∀(f:Nat) (d:Int),BQ (BC (λi s=>FQ s (Dw b (vs.getD i noV))) vs.length 0 (0,0)) f d=vs.any λv=>BQ (Dw b v) f d:=λf d=>by
  rw[Aj2 b vs vs.length 0 (0,0) ω,TU,aD,R_]
 generalize BC (λi s=>FQ s (Dw b (vs.getD i noV))) vs.length 0 (0,0)=u at h0' hbit
 have h1:=AR (step:=λx=>FA x.1.2.1 x.1.2.2.1 x.1.2.2.2.1 x.1.2.2.2.2.1 x.2.1.1 x.2.1.2.1) m.A0.length (λi (out:List W)=>(((),out,m.A0,(m.A0.length:Int),(i:Int),()),((u.1,u.2,()),()))) (λi out=>out++(bif Uw b vs (m.A0.getD i B).E0 (m.A0.getD i B).J0 then [aE 2 (m.A0.getD i B).E0 (m.A0.getD i B).J0 0 0]else [])) (λi out=>out.length≤i) (λout=>((out,()),())) (λi out hi ho=>by
  have hc:=Ba0 hb (FC.1 (hm.en _ (CB B hi))).1;refine⟨?_,?_⟩
  ·show FA out m.A0 (m.A0.length:Int) (i:Int) u.1 u.2=_
   unfold FA;rw[show aB 0 0 0 0 A=B from rfl]
   simp only[b_ (ω:(i:Int)<(m.A0.length:Int)),Aa (ω:(0:Int)≤(i:Int)) (ω:(i:Int)<(m.A0.length:Int)),d_,j_,Ph u hc.1 hc.2,S,CD hi (show m.A0.length≤AA by unfold AA;omega),hbit]
   rw[At (show out.length+[aE 2 (m.A0.getD i B).E0 (m.A0.getD i B).J0 0 0].length≤2147483648 by show out.length+1≤_;omega)]
   unfold Uw;cases vs.any λv=>BQ (Dw b v) (m.A0.getD i B).E0.toNat (m.A0.getD i B).J0
   ·simp
   ·rfl
  ·rw[h_]
   cases Uw b vs (m.A0.getD i B).E0 (m.A0.getD i B).J0<;>simp<;>omega) (λout _=>by
  show FA out m.A0 (m.A0.length:Int) (m.A0.length:Int) u.1 u.2=_;unfold FA;simp only[e_ (C_ (m.A0.length:Int)),P]) m.A0.length 0 [] ω (by simp)
 have h1':=Ah h1.1 ω
 rw[Hk,a0_,MD (λe=>bif Uw b vs e.E0 e.J0 then [aE 2 e.E0 e.J0 0 0]else []) B m.A0 0 m.A0.length ω,R_]at h1'
 unfold Ll;rw[CL hb m ω ω,Img.ok_iff.2 hm]
 simp only[S,m_,P];rw[show((vs.length:Int) !=(b.B0.length:Int))=A by rw[hv,N_]]
 simp only[Bldg.tup,Img.tup]at h0';simp only[P,h0',S];rw[show Ja (((),([]:List W),m.A0,(m.A0.length:Int),(0:Int),()),((u.1,u.2,()),()))=_ from h1']
 rfl
end
def xsV(E:List L)(xs:List Int)(r:W):List Int:=
 bif(r.U0==2)&&FG (As r.E0 r.J0) E then xs.take (Az (As r.E0 r.J0) E)++xs.drop (Az (As r.E0 r.J0) E+1)
 else bif(r.U0==1)&&!FG (As r.E0 r.J0) E then xs.take (Az (As r.E0 r.J0) E)++[0]++xs.drop (Az (As r.E0 r.J0) E)
 else xs
def Bcq(E:List L)(xs:List Int)(F D:Int):Int:=bif FG (As F D) E then xs.getD (Az (As F D) E) 0 else 0
def Rt(E:List L)(xs:List Int)(e:L):Int:=Bcq E xs e.E0 e.J0
def Ale(e:L):isC e.E0 e.J0 e=H:=by unfold isC;simp
def Ap0(hs:Bp E)(hi:i<E.length):Az (E.getD i B) E=i:=by
 have hp:=Ea.1 hs;rcases Nat.lt_trichotomy (Az (E.getD i B) E) i with h | h | h
 ·have h1:=Afs hs (Az (E.getD i B) E) (z_ _) ω
  have h2:Bi (E.getD (Az (E.getD i B) E) B) (E.getD i B)=H:=by
   generalize Az (E.getD i B) E=p at h;have hg:∀j (hj:j<E.length),E.getD j B=E[j]:=λj hj=>by simp[l_,hj]
   rw[hg p ω,hg i hi]
   exact b0_.1 hp p i ω hi h
  rw[h1]at h2;cases h2
 ·exact h
 ·have h1:=Aft (E.getD i B) E i h
  have h2:=(Wv (Ale (E.getD i B))).1;rw[h1]at h2;cases h2
def Bg5(hs:Bp E)(hi:i<E.length):FG (As (E.getD i B).E0 (E.getD i B).J0) E=H:=by
 unfold FG;rw[Ts,Ap0 hs hi,f_];exact⟨Eq.mpr g3_ hi,Ale _⟩
def Apz(hs:Bp E)(xs:List Int)(hi:i<E.length):Rt E xs (E.getD i B)=xs.getD i 0:=by
 unfold Rt Bcq;rw[Bg5 hs hi,Ts,Ap0 hs hi];rfl
def Ak0{a b:List α}(d:α)(hl:a.length=b.length)(h:∀i,i<a.length→a.getD i d=b.getD i d):a=b:=by
 refine List.ext_getElem hl λi h1 h2=>?_
 have:=h i h1
 simpa[l_,h1,h2]using this
def Bch{β:Type}(f:α→β)(hi:i<l.length)(d:α)(d':β):(l.map f).getD i d'=f (l.getD i d):=by
 simp[l_,hi]
def Bhc(hs:Bp E)(hl:xs.length=E.length):E.map (Rt E xs)=xs:=by
 refine Ak0 0 (by rw[d2_,hl]) λi hi=>?_
 rw[d2_]at hi;rw[Bch _ hi B,Apz hs xs hi]
def Ams{k:Nat}{a:α}(d:α)(h:a=l.getD k d):l.set k a=l:=by
 by_cases hk:k<l.length
 ·refine Ak0 d (v_ ..) λi hi=>?_
  by_cases hik:k=i
  ·subst hik
   rw[h];simp[l_,hk]
  ·simp[l_,hik]
 ·rw[List.set_eq_of_length_le ω]
def Apn{c:L}{l:List L}(h:FG c l=H):Az c l<l.length∧isC c.E0 c.J0 (l.getD (Az c l) B)=H:=by
 unfold FG at h;rw[f_]at h;exact⟨Eq.mp g3_ h.1,h.2⟩
def Azx(hs:Bp m.A0)(hl:xs.length=m.A0.length)(r:W):xsV m.A0 xs r=(AD m r).A0.map (Rt m.A0 xs):=by
 have hbase:=Bhc hs hl;have hfp:=QZ (c:=As r.E0 r.J0) 0 hs;rw[p_]at hfp;have hfp':DD r.E0 r.J0 m.A0 0=_:=hfp;unfold AD xsV;by_cases k4:r.U0=4
 ·rw[k4];exact hbase.symm
 by_cases k5:r.U0=5
 ·rw[k5];exact hbase.symm
 by_cases k6:r.U0=6
 ·rw[k6];exact hbase.symm
 rw[Ar k4,Ar k5,Ar k6,hfp'];simp only[P];cases hh:FG (As r.E0 r.J0) m.A0 with
 |false=>
  simp only[P,k_,d_,b7_,b6_,c5_];cases k1:r.U0==1 with
  |false=>exact hbase.symm
  |true=>
   simp only[d_];show _=(Hh (aB r.E0 r.J0 (-1) 0 A) A m.A0).map (Rt m.A0 xs);have hnone:=Ahb hs hh;rw[Aap (c:=aB r.E0 r.J0 (-1) 0 A) (λx hx=>hnone x hx)]
   have hp:Az (aB r.E0 r.J0 (-1) 0 A) m.A0=Az (As r.E0 r.J0) m.A0:=(Ts (aB r.E0 r.J0 (-1) 0 A) m.A0).symm
   have hn:Rt m.A0 xs (aB r.E0 r.J0 (-1) 0 A)=0:=by
    unfold Rt Bcq;rw[hh];rfl
   rw[hp,List.map_append,List.map_append,List.map_take,List.map_drop,hbase,List.map_singleton,hn]
 |true=>
  obtain⟨p1,p2⟩:=Apn hh;simp only[d_,c5_,m_,b7_,P];rw[Ar (ω:¬((Az (As r.E0 r.J0) m.A0:Nat):Int)=-1)]
  simp only[P,j_];generalize Az (As r.E0 r.J0) m.A0=p at p1 p2⊢
  have hset:∀e':L,e'.E0=(m.A0.getD p B).E0→e'.J0=(m.A0.getD p B).J0→(m.A0.set p e').map (Rt m.A0 xs)=xs:=λe' h1 h2=>by
   rw[List.map_set,hbase];refine Ams 0 ?_
   have:Rt m.A0 xs e'=Rt m.A0 xs (m.A0.getD p B):=by
    unfold Rt;rw[h1,h2]
   rw[this,Apz hs xs p1]
  cases k2:r.U0==2 with
  |true=>
   simp only[d_];show _=(m.A0.take p++m.A0.drop (p+1)).map (Rt m.A0 xs);rw[List.map_append,List.map_take,List.map_drop,hbase]
  |false=>
   simp only[P];cases k3:r.U0==3 with
   |true=>exact(hset (Ady (m.A0.getD p B) r.S0) rfl rfl).symm
   |false=>
    simp only[P];cases k7:r.U0==7 with
    |true=>exact(hset (Tz (m.A0.getD p B) r.E2 r.S0) rfl rfl).symm
    |false=>exact hbase.symm
def Bhu(hs:Bp m.A0)(hl:xs.length=m.A0.length)(r:W):(xsV m.A0 xs r).length=(AD m r).A0.length:=by rw[Azx hs hl,d2_]
def xsL:Img→List Int→List W→List Int
 |_,xs,[]=>xs
 |m,xs,r::t=>xsL (AD m r) (xsV m.A0 xs r) t
end
end Go.Ovl
