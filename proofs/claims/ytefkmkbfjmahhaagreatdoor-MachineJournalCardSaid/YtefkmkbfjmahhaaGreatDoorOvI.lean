import Derived.Test.YtefkmkbfjmahhaaGreatDoorOvH
import Derived.Test.YtefkmkbfjmahhaaGreatDoorOvA
import Derived.Test.YtefkmkbfjmahhaaGreatDoorOvC
import Derived.Test.YtefkmkbfjmahhaaGreatDoorOvB
set_option linter.all false
open Bool renaming false->A,true->H,false_or->aD
open Go.Ovl renaming noE->B,View->C,Bldg->I,Entry->L,Record->W
open Go.Ovl.Sat renaming ret->J,bic->O,bindS->V,bifT->aC
open Go renaming b_->P,a_->S
open Option renaming some->R
open Go.IntKind renaming i64->U,wrap->aF
open List renaming replicate->X
open Go.Ovl.View renaming mk->aA
open Go.Ovl.Entry renaming mk->aB
open Go.Ovl.Record renaming mk->aE
namespace Go.Ovl
open Go Go.Ab
set_option maxRecDepth 100000
noncomputable section
variable{vs:List C}{b:I}{E:List L}{xs:List Int}{i:Nat}{α:Type}{n:Int}{m:Img}{e:L}{l:List α}
def UO(n:Int):Sat (IB n) λy=>y.1.1=H→2≤n∧n≤32:=by unfold IB;exact V (Q:=λy=>y.1.1=H→2≤n∧n≤32) (O (λq=>J λg=>⟨n_ q,n_ g⟩) λ_=>J λg=>(by cases g)) λ_ h=>J h
def Aj2(hn:2≤n∧n≤32)(f d:Int):Sat (NA n f d) λy=>y.1.1=H→0≤f∧f<n:=by
 unfold NA;have w:U.wrap (n-1)=n-1:=Aa ω ω;have p:Sat (bif(d==(2:Int))then bif(decide ((0:Int)<f))then R (((decide (f<n)),()),())else R ((A,()),())else R ((A,()),())) λ(y:(Bool×Unit)×Unit)=>y.1.1=H→0≤f∧f<n:=O (λ_=>O (λq=>J λg=>by have:=n_ q;have:=n_ g;omega) λ_=>J λg=>(by cases g)) λ_=>J λg=>(by cases g)
 exact V (Q:=λy=>y.1.1=H→0≤f∧f<n) (O (λ_=>O (λq=>O (λq2=>J λ_=>by have:=n_ q;have q2:=n_ q2;rw[w]at q2;omega) λ_=>p) λ_=>p) λ_=>p) λ_ h=>J h
def VV(h:0≤n)(a c d:Int):Sat (JD n a c d) λy=>(0≤y.2.1.1∧y.2.1.1<4294967296)∧U2 y.2.1.2.1 y.2.1.2.2.1:=by unfold JD;exact aC (c_ h) (Sat.bindE (rfl:Eg ..=_) (J ⟨Hu _,Hu _,Hu _⟩))
def Al7(a c d:Int):Sat (ON n a c d) λy=>0≤y.1.1∧y.1.1≤1000:=by
 unfold ON;refine V (UO n) λy1 h1=>O (λ_=>J (show(0:Int)≤0∧(0:Int)≤1000 by decide)) λq=>?_;have h1:=h1 (by simpa using q);refine V (VV ω a c d) λy2 h2=>V (Uf h2.1) λy3 h3=>?_;refine V (Q:=λy=>0≤y.1.1∧y.1.1≤510) ?_ λy4 h4=>J ?_
 ·unfold RZ;refine V (Uf h2.2.1) λz1 k1=>V (Uf h2.2.2) λz2 k2=>J ?_;show 0≤U.wrap (z1.1.1+z2.1.1)∧U.wrap (z1.1.1+z2.1.1)≤510;rw[Aa ω ω];omega
 ·show 0≤U.wrap (y3.1.1+y4.1.1)∧U.wrap (y3.1.1+y4.1.1)≤1000;rw[Aa ω ω];omega
def nf(x:Int):Prop:=-1≤x∧x≤300
def Al8{l:List Int}(hl:l.length≤10){a c:Int}(ha:nf a)(hc:nf c)(hx:∀x∈l,nf x):Sat (CC l a c) λy=>0≤y.1.1∧y.1.1≤4400:=by
 unfold CC;refine aC (f5_ (by simp only[E_,d6_];omega)) ?_;refine V (Q:=λy=>0≤y.1.1∧y.1.1≤4400) ?_ λ_ h=>J h;unfold Gw;have hz:(l++[c]).length≤11:=by rw[h_,D_];omega
 have hall:∀x∈l++[c],nf x:=λx h=>by
  rcases o_.1 h with h | h
  ·exact hx x h
  ·rw[C_.1 h];exact hc
 refine Sat.loop (λk x=>∃(n p:Int) (i:Nat),x=((n,p,l++[c],((l++[c]).length:Int),(i:Int),()),((a,()),(c,()),()))∧i+k=(l++[c]).length∧nf p∧0≤n∧n≤400*(i:Int)) ?_ (l++[c]).length ⟨0,a,0,rfl,ω,ha,τ,τ⟩ ω;rintro k x ⟨n,p,i,rfl,hk,hp,hn,hn2⟩;show Sat (Jc n p (l++[c]) ((l++[c]).length:Int) (i:Int) a c) _;unfold Jc;refine O (λq=>?_) λ_=>J (ω:0≤n∧n≤4400);have q:=n_ q;simp only[DF (ω:i<1000000000)];have hv:=Amx hall (i:=i) (d:=(0:Int)) ω;refine aC (Ac ω ω) (J ⟨k-1,ω,_,_,i+1,rfl,ω,hv,?_⟩);show 0≤U.wrap (n+_)∧U.wrap (n+_)≤_;rw[i_];generalize(l++[c]).getD i 0=z at hv⊢;unfold nf at hp hv;rw[Aa (n:=z-p) ω ω,Aa (n:=p-z) ω ω];by_cases g:z-p<p-z
 ·rw[c_ g,d_,Aa ω ω];omega
 ·rw[f_ g,P,Aa ω ω];omega
def Aph(n f w a c d g e:Int):Sat (QT n f w a c d g e) λy=>-1≤y.1.1∧y.1.1≤4400:=by
 unfold QT;have no:(-1:Int)≤-1∧(-1:Int)≤4400:=by decide
 refine V (UO n) λy1 h1=>O (λ_=>J no) λq1=>O (λ_=>J no) λq2=>O (λ_=>J no) λq4=>O (λ_=>J no) λ_=>O (λ_=>J no) λ_=>?_;have h1:=h1 (by simpa using q1);have q2:=H_ q2;have q4:=H_ q4;refine V (Aj2 h1 g e) λy2 h2=>O (λ_=>J no) λq3=>?_;have h2:=h2 (by simpa using q3);refine V (VV ω a c d) λy3 _=>aC (c_ ω) (aC (c_ h2.1) ?_);refine V (Avp _) λy4 h4=>V (Aul _) λy5 h5=>?_;have nf6:nf (aF U (y5.1.1-1)):=by rw[Aa ω ω];exact⟨ω,ω⟩
 have nf4:nf y4.1.1:=⟨ω,ω⟩
 have nff:nf f:=⟨ω,ω⟩
 have nfg:nf g:=⟨ω,ω⟩
 generalize U.wrap (y5.1.1-1)=z at nf6;have all:nf y4.1.1∧nf z∧nf f∧nf g:=⟨nf4,nf6,nff,nfg⟩;refine V (Q:=λy=>nf y.1.2.2.1∧nf y.1.2.2.2.1∧nf y.2.1.1∧nf y.2.2.1.1) ?_ λy6 h6=>V (Q:=λy=>nf y.1.2.2.1∧nf y.1.2.2.2.1∧nf y.2.1.1∧nf y.2.2.1.1) ?_ λy7 h7=>?_
 ·exact O (λ_=>O (λ_=>J all) λ_=>O (λ_=>J all) λ_=>J all) λ_=>O (λ_=>J all) λ_=>J all
 ·exact O (λ_=>J h6) λ_=>O (λ_=>J h6) λ_=>J h6
 have p:∀(l:List Int) {a c:Int},l.length≤10→nf a→nf c→(∀x∈l,nf x)→Sat (Option.bind (CC l a c) λy10=>R ((y10.1.1,()),())) λy=>-1≤y.1.1∧y.1.1≤4400:=λl a c hl ha hc hx=>V (Al8 hl ha hc hx) λy h=>J ⟨Int.le_trans τ h.1,h.2⟩;have m1:∀{x:Int},nf x→∀y∈[x],nf y:=λh y hy=>by rw[C_.1 hy];exact h
 have m2:∀{x z:Int},nf x→nf z→∀y∈[x,z],nf y:=λh h2 y hy=>by
  rcases t_.1 hy with rfl | hy
  ·exact h
  ·exact m1 h2 y hy
 refine O (λ_=>p _ (a6_ _) h7.2.2.1 h7.2.2.2 λx hx=>by cases hx) λ_=>V (Q:=λy=>nf y.1.2.2.1∧nf y.1.2.2.2.1∧nf y.2.1.1∧nf y.2.2.1.1) ?_ λy9 h9=>?_
 ·exact O (λ_=>J h7) λ_=>J h7
 obtain⟨k1,k2,k3,k4⟩:=h9;exact O (λ_=>p _ (show(1:Nat)≤10 by decide) k3 k4 (m1 k2)) λ_=>O (λ_=>p _ (show(1:Nat)≤10 by decide) k3 k4 (m1 k1)) λ_=>O (λ_=>p _ (show(2:Nat)≤10 by decide) k3 k4 (m2 k2 k1)) λ_=>p _ (show(2:Nat)≤10 by decide) k3 k4 (m2 k1 k2)
def Al5(h:b.code=0){c:Car}(hc:c∈b.B0):CG b.D0 c=H:=by
 unfold Bldg.code at h;cases h1:inR 2 32 b.D0<;>rw[h1]at h
 ·cases h
 cases h2:inR 1 8 (b.B0.length:Int)<;>rw[h2]at h
 ·cases h
 cases h3:inR 1 16 b.G0<;>rw[h3]at h
 ·cases h
 cases h4:inR 1 10000 b.M0<;>rw[h4]at h
 ·cases h
 cases h5:b.B0.all (CG b.D0)<;>rw[h5]at h
 ·cases h
 exact M_.1 h5 c hc
def Adi(h:b.code=0)(hi:i<b.B0.length):(0≤(b.B0.getD i EN).R3∧(b.B0.getD i EN).R3≤10000)∧(0≤(b.B0.getD i EN).J2∧(b.B0.getD i EN).J2≤10000)∧(0≤(b.B0.getD i EN).I2∧(b.B0.getD i EN).I2≤10000)∧0≤(b.B0.getD i EN).H2∧(b.B0.getD i EN).H2≤10000:=by have ht:CG b.D0 (b.B0.getD i EN)=H:=Al5 h (CD _ hi);unfold CG at ht;simp only[a4_,List.all_nil,d5_,e_,Ar]at ht;omega
def UN(b:I)(car:Int)(v:C)(floor dir:Int):Sat (EC b.D0 b.G0 b.I0 b.M0 b.L0 b.N0 b.O0 b.B0 car v.N3 v.B3 v.C3 v.X3 v.E0 v.J0 v.E3 v.G3 v.V2 v.L2 v.Z1 v.Q1 floor dir) λy=>0≤y.1.1∧y.1.1≤1000000:=by
 unfold EC;have one:(0:Int)≤1000000∧(1000000:Int)≤1000000:=by decide
 refine Sat.bindE (Bk b) (O (λ_=>J one) λhc=>O (λ_=>J one) λg1=>O (λ_=>J one) λg2=>?_);have g1:=H_ g1;have g2:=H_ g2;have hcode:b.code=0:=by simpa using hc
 have ib:inB car b.B0.length=H:=Ac ω ω;refine V (Q:=λy=>y.1.1=car∧y.2.1=b.tup) (O (λ_=>J ⟨rfl,rfl⟩) λ_=>J ⟨rfl,rfl⟩) λy2 h2=>?_;obtain⟨⟨yc,ya⟩,yb,yv⟩:=y2;obtain⟨e1,e2⟩:=h2;simp only at e1 e2;subst e1 e2;have ht:=Adi hcode (ω:yc.toNat<b.B0.length);refine V (Aph ..) λy3 h3=>O (λ_=>J one) λq3=>aC ib ?_;have q3:=H_ q3;refine V (Al7 ..) λy4 h4=>J ?_;have key:∀n:Int,0≤n→0≤(bif decide (1000000<n)then(1000000:Int)else n)∧(bif decide (1000000<n)then(1000000:Int)else n)≤1000000:=λn hn=>by
  by_cases g:1000000<n
  ·rw[c_ g];exact one
  ·rw[f_ g,P];omega
 refine key _ ?_;show 0≤U.wrap (aF U (y3.1.1*(b.B0.getD yc.toNat EN).R3)+U.wrap (y4.1.1*U.wrap (aF U (2*(b.B0.getD yc.toNat EN).J2)+(b.B0.getD yc.toNat EN).I2)));generalize b.B0.getD yc.toNat EN=c at ht;have k1:0≤y3.1.1*c.R3∧y3.1.1*c.R3≤4400*10000:=⟨Int.mul_nonneg ω ω,Int.mul_le_mul ω ω ω τ⟩
 rw[Aa (n:=2*c.J2) ω ω,Aa (n:=2*c.J2+c.I2) ω ω];have k2:0≤y4.1.1*(2*c.J2+c.I2)∧y4.1.1*(2*c.J2+c.I2)≤1000*30000:=⟨Int.mul_nonneg ω ω,Int.mul_le_mul ω ω ω τ⟩
 generalize y4.1.1*(2*c.J2+c.I2)=p at k2;generalize y3.1.1*c.R3=q at k1;rw[Aa (n:=q) ω ω,Aa (n:=p) ω ω,Aa ω ω];omega
def Ahx(n:Int):Prop:=0≤n∧n<4294967296
def View.none:C:=aA A A A A 0 0 0 0 0 0 0 0
def Car.none:Car:=Car.mk 0 0 0 0 0 0 0 0 0
structure View.ok(v:View):Prop where
 c:Ahx v.L2
 u:Ahx v.Z1
 d:Ahx v.Q1
def Amp(b:I)(car:Int)(v:C)(floor dir:Int):Option ((Int×Unit)×Unit):=EC b.D0 b.G0 b.I0 b.M0 b.L0 b.N0 b.O0 b.B0 car v.N3 v.B3 v.C3 v.X3 v.E0 v.J0 v.E3 v.G3 v.V2 v.L2 v.Z1 v.Q1 floor dir
def Se(b:I)(car:Int)(v:C)(floor dir:Int):Int:=match Amp b car v floor dir with | some r=>r.1.1 | none=>0
def Aq4(_hb:b.small){v:C}(_hv:v.ok)(car floor dir:Int):Amp b car v floor dir=R ((Se b car v floor dir,()),()):=by obtain⟨r,h,_⟩:=UN b car v floor dir;have h':Amp b car v floor dir=R r:=h;rw[show Se b car v floor dir=r.1.1 by unfold Se;rw[h']];exact h'
def Bi4(b:I)(car:Int)(v:C)(floor dir:Int):0≤Se b car v floor dir∧Se b car v floor dir≤1000000:=by obtain⟨r,h,h2⟩:=UN b car v floor dir;have h':Amp b car v floor dir=R r:=h;rw[show Se b car v floor dir=r.1.1 by unfold Se;rw[h']];exact h2
def US(v:C):Bool:=v.E3==3||v.E3==4
def QC(v:C):GX v.N3 v.B3 v.C3 v.X3 v.E0 v.J0 v.E3 v.G3 v.V2 v.L2 v.Z1 v.Q1=R ((US v,()),()):=by unfold GX US;cases v.E3==3<;>rfl
def Abf(a b:Int×Int):Bool:=decide (a.1<b.1)||(a.1==b.1&&decide (a.2<b.2))
def TH(a b:Int×Int):Iz a.1 a.2 b.1 b.2=R ((Abf a b,()),()):=by
 unfold Iz Abf;by_cases h:a.1=b.1
 ·by_cases h':a.2=b.2
  ·rw[h,h',l_,l_,f_ ω,f_ ω];rfl
  ·rw[h,l_,Am h',f_ ω];rfl
 ·rw[Am h];cases decide (a.1<b.1)<;>rfl
def Ax(vs:List C)(i:Int):C:=vs.getD i.toNat (aA A A A A 0 0 0 0 0 0 0 0)
def okViews(vs:List C):Prop:=∀v∈vs,v.ok
def View.ok_none:View.ok (aA A A A A 0 0 0 0 0 0 0 0):=⟨⟨τ,τ⟩,⟨τ,τ⟩,⟨τ,τ⟩⟩
def okViews.at(h:okViews vs)(i:Int):(Ax vs i).ok:=by
 unfold Ax;rw[k_];cases hq:vs[i.toNat]? with
 |none=>exact View.ok_none
 |some v=>exact h v (y_ hq)
def IY(b:I)(vs:List C)(floor dir:Int)(car:Int):Int×Int:=((bif US (Ax vs car)then 1 else 0),Se b car (Ax vs car) floor dir)
def QD(hb:b.small)(hv:okViews vs){car:Int}(hc:0≤car∧car<vs.length)(floor dir:Int):
  KV b.D0 b.G0 b.I0 b.M0 b.L0 b.N0 b.O0 b.B0 vs car floor dir=R (((),()),(((IY b vs floor dir car).1,(IY b vs floor dir car).2,()),())):=by
 unfold KV;have e:EC b.D0 b.G0 b.I0 b.M0 b.L0 b.N0 b.O0 b.B0 car (Ax vs car).N3 (Ax vs car).B3 (Ax vs car).C3 (Ax vs car).X3 (Ax vs car).E0 (Ax vs car).J0 (Ax vs car).E3 (Ax vs car).G3 (Ax vs car).V2 (Ax vs car).L2 (Ax vs car).Z1 (Ax vs car).Q1 floor dir=_:=Aq4 hb (hv.at car) car floor dir;rw[Ac hc.1 hc.2];show(EC b.D0 b.G0 b.I0 b.M0 b.L0 b.N0 b.O0 b.B0 car (Ax vs car).N3 (Ax vs car).B3 (Ax vs car).C3 (Ax vs car).X3 (Ax vs car).E0 (Ax vs car).J0 (Ax vs car).E3 (Ax vs car).G3 (Ax vs car).V2 (Ax vs car).L2 (Ax vs car).Z1 (Ax vs car).Q1 floor dir).bind (λy1=>(GX (Ax vs car).N3 (Ax vs car).B3 (Ax vs car).C3 (Ax vs car).X3 (Ax vs car).E0 (Ax vs car).J0 (Ax vs car).E3 (Ax vs car).G3 (Ax vs car).V2 (Ax vs car).L2 (Ax vs car).Z1 (Ax vs car).Q1).bind (λy2=>bif y2.1.1 then R (((),()),(((1:Int),y1.1.1,()),()))else R (((),()),(((0:Int),y1.1.1,()),()))))=_;rw[e,S,QC,S];unfold IY;cases US (Ax vs car)<;>rfl
def Ot(b:I)(vs:List C)(floor dir except:Int)(i best:Int):Int:=bif !(Ax vs i).N3||i==except then best else bif best==-1||Abf (IY b vs floor dir i) (IY b vs floor dir best)then i else best
def Akw(b:I)(vs:List C)(floor dir except:Int):Nat→Nat→Int→Int
 |0,_,best=>best
 |m+1,i,best=>Akw b vs floor dir except m (i+1) (Ot b vs floor dir except i best)
def Iv(b:I)(vs:List C)(floor dir except:Int):Int:=bif b.code !=0||(vs.length:Int) !=(b.B0.length:Int)then -1 else Akw b vs floor dir except vs.length 0 (-1)
def RJ(vs:List C)(best:Int):Prop:=best=-1∨(0≤best∧best<vs.length)
def Aaq{floor dir except:Int}(hi:i<vs.length){best:Int}(h:RJ vs best):RJ vs (Ot b vs floor dir except i best):=by
 unfold Ot;cases(!(Ax vs i).N3||(i:Int)==except)with
 |true=>exact h
 |false=>
  simp only[P];cases(best==-1||Abf (IY b vs floor dir i) (IY b vs floor dir best))with
  |true=>exact .inr (by simp only[d_];omega)
  |false=>exact h
def RH{b:I}(hb:b.small){vs:List C}(hv:okViews vs)(hl:vs.length≤100)(floor dir except:Int) :
  ∀(m i:Nat) (best l0 l1:Int),i+m=vs.length→RJ vs best→(best≠ -1→(l0,l1)=IY b vs floor dir best)→
   BJ (λx=>letI a:=x.2.1.2.2;letI c:=x.1.2.2.2.2.2;letI d:=a.2.2;FA x.1.1 x.1.2.1 x.1.2.2.1 x.1.2.2.2.1 c.1 c.2.2.1 c.2.2.2.1 c.2.2.2.2.1 x.2.1.1 x.2.1.2.1 a.1 a.2.1 d.1 d.2.1 d.2.2.1 d.2.2.2.1 x.2.2.1.1 x.2.2.1.2.1) (m+1) ((vs,floor,dir,except,(),best,(),vs,(vs.length:Int),(i:Int),()),(b.tup,(l0,l1,()),()))=R ((Akw b vs floor dir except m i best,()),())
 |0,i,best,l0,l1,hi,hin,hr=>by
  refine AA ?_;show FA vs floor dir except best vs (vs.length:Int) (i:Int) b.D0 b.G0 b.I0 b.M0 b.L0 b.N0 b.O0 b.B0 l0 l1=_;unfold FA;have e:decide ((i:Int)<(vs.length:Int))=A:=by simp;omega
  rw[e];rfl
 |m+1,i,best,l0,l1,hi,hin,hr=>by
  have hi':i<vs.length:=ω;have e:decide ((i:Int)<(vs.length:Int))=H:=by simp;omega
  have ib:inB (i:Int) vs.length=H:=Ac ω ω;have w:U.wrap ((i:Int)+1)=((i+1:Nat):Int):=by rw[Aa ω ω];omega
  have hs:∃l0' l1',(Ot b vs floor dir except i best≠ -1→(l0',l1')=IY b vs floor dir (Ot b vs floor dir except i best))∧FA vs floor dir except best vs (vs.length:Int) (i:Int) b.D0 b.G0 b.I0 b.M0 b.L0 b.N0 b.O0 b.B0 l0 l1=R (.inl ((vs,floor,dir,except,(),Ot b vs floor dir except i best,(),vs,(vs.length:Int),((i+1:Nat):Int),()),(b.tup,(l0',l1',()),()))):=by
   unfold FA;have k1:=QD hb hv (car:=(i:Int)) ω floor dir;rw[e,ib,w];simp only[d_];unfold Ot;rw[show vs.getD (Int.toNat (i:Int)) (aA A A A A 0 0 0 0 0 0 0 0)=Ax vs (i:Int)from rfl];cases(Ax vs (i:Int)).N3 with
   |false=>exact⟨l0,l1,hr,rfl⟩
   |true=>
    simp only[m_,P,aD];cases(i:Int)==except with
    |true=>exact⟨l0,l1,hr,rfl⟩
    |false=>
     simp only[P,k1,S];rcases hin with hbest | hbest
     ·subst hbest;rw[show((-1:Int)==-1)=H from rfl];simp only[d_,S,w,Bool.true_or];exact⟨_,_,λ_=>rfl,rfl⟩
     ·have hr':=hr ω;have e1:l0=(IY b vs floor dir best).1:=f2_ Prod.fst hr';have e2:l1=(IY b vs floor dir best).2:=f2_ Prod.snd hr';subst e1 e2;rw[Am (ω:¬best=-1)];simp only[P,S,aD,TH];cases Abf (IY b vs floor dir i) (IY b vs floor dir best)with
      |true=>simp only[d_,w];exact⟨_,_,λ_=>rfl,rfl⟩
      |false=>simp only[P,w];exact⟨_,_,λ_=>rfl,rfl⟩
  obtain⟨l0',l1',h1,h2⟩:=hs;exact(Bt h2).trans (RH hb hv hl floor dir except m (i+1) _ l0' l1' ω (Aaq hi' hin) h1)
def Oq(hb:b.small)(hv:okViews vs)(hl:vs.length≤100)(floor dir except:Int):
  GK b.D0 b.G0 b.I0 b.M0 b.L0 b.N0 b.O0 b.B0 vs floor dir except=R ((Iv b vs floor dir except,()),()):=by
 unfold GK Iv;rw[Bk,S];cases b.code !=0 with
 |true=>rfl
 |false=>
  simp only[P,aD];cases(vs.length:Int) !=(b.B0.length:Int)with
  |true=>rfl
  |false=>have h:=Aj (RH hb hv hl floor dir except vs.length 0 (-1) 0 0 ω (.inl rfl) (λh=>absurd rfl h)) ω;have h':Jq ((vs,floor,dir,except,(),(-1:Int),(),vs,(vs.length:Int),(0:Int),()),(b.tup,((0:Int),(0:Int),()),()))=_:=h;simp only[P];refine(f2_ (λz=>Option.bind z _) h').trans ?_;rfl
def Als{b:I}{vs:List C}{floor dir except:Int}:∀(m i:Nat) (best:Int),i+m=vs.length→RJ vs best→RJ vs (Akw b vs floor dir except m i best)
 |0,_,_,_,h=>h
 |m+1,i,best,hi,h=>Als m (i+1) _ ω (Aaq ω h)
def SM(b:I)(vs:List C)(floor dir except:Int):RJ vs (Iv b vs floor dir except):=by
 unfold Iv;cases(b.code !=0||(vs.length:Int) !=(b.B0.length:Int))with
 |true=>exact .inl rfl
 |false=>exact Als vs.length 0 (-1) ω (.inl rfl)
def Af6(b:I)(vs:List C)(e:L)(x n:Int):Bool:=((Ax vs e.R0).C3&&(x==0&&Abf (IY b vs e.E0 e.J0 n) (IY b vs e.E0 e.J0 e.R0)))||(!(Ax vs e.R0).C3&&(US (Ax vs e.R0)&&!US (Ax vs n)))
def Nx(b:I)(vs:List C)(e:L)(x:Int):Int:=bif Iv b vs e.E0 e.J0 e.R0==-1 then -1 else bif Af6 b vs e x (Iv b vs e.E0 e.J0 e.R0)then Iv b vs e.E0 e.J0 e.R0 else -1
def EZ(b:I)(vs:List C)(e:L)(x:Int):L:=
 bif e.R0==-2 then e
 else bif e.R0==-1 then⟨e.E0,e.J0,Iv b vs e.E0 e.J0 (-1),e.B1,e.N1⟩
 else bif(Ax vs e.R0).X3 then(bif decide ((b.B0.length:Int)<e.B1)then⟨e.E0,e.J0,-2,e.B1,e.N1⟩else⟨e.E0,e.J0,Iv b vs e.E0 e.J0 e.R0,e.B1+1,e.N1⟩)
 else bif !e.N1&&decide (e.B1≤(b.B0.length:Int))then(bif Nx b vs e x != -1 then⟨e.E0,e.J0,Nx b vs e x,e.B1+1,H⟩else e)
 else e
def Entry.tup(e:L):Int×Int×Int×Int×Bool×Unit:=(e.E0,e.J0,e.R0,e.B1,e.N1,())
section
variable{b:I}(hb:b.small){vs:List C}(hv:okViews vs)(hl:vs.length≤100){e:L}
include hb hv hl
theorem Aci(hc:0≤e.R0∧e.R0<vs.length)(x:Int):Gv b.D0 b.G0 b.I0 b.M0 b.L0 b.N0 b.O0 b.B0 vs e.E0 e.J0 e.R0 e.B1 e.N1 x=R ((Nx b vs e x,()),()):=by
 unfold Gv Nx;have hn:=SM b vs e.E0 e.J0 e.R0;rw[Oq hb hv hl];generalize Iv b vs e.E0 e.J0 e.R0=n at hn;simp only[S];rcases hn with rfl | hn
 ·rfl
 ·have k1:=QD hb hv hn e.E0 e.J0;have k2:=QD hb hv hc e.E0 e.J0;have f1:=QC (Ax vs e.R0);have f2:=QC (Ax vs n);rw[Am (ω:¬n=-1),Ac hc.1 hc.2];unfold Af6;unfold Ax at f1 f2⊢;simp only[d_,P];cases hleg:(vs.getD e.R0.toNat (aA A A A A 0 0 0 0 0 0 0 0)).C3 with
  |true=>
   simp only[d_,q_,m_,a7_,Bool.or_false];cases x==0 with
   |true=>simp only[d_,q_,k1,k2,S,TH];cases Abf (IY b vs e.E0 e.J0 n) (IY b vs e.E0 e.J0 e.R0)<;>rfl
   |false=>rfl
  |false=>
   rw[hleg]at f1;simp only[P,a7_,c1_,q_,aD,S,d_,f1];cases US (vs.getD e.R0.toNat (aA A A A A 0 0 0 0 0 0 0 0))with
   |false=>rfl
   |true=>simp only[d_,Ac hn.1 hn.2,q_,f2,S];cases US (vs.getD n.toNat (aA A A A A 0 0 0 0 0 0 0 0))<;>rfl
theorem Aak(hc:-2≤e.R0∧e.R0<vs.length)(hm:0≤e.B1∧e.B1≤255)(x:Int):FK b.D0 b.G0 b.I0 b.M0 b.L0 b.N0 b.O0 b.B0 vs e.E0 e.J0 e.R0 e.B1 e.N1 x=R (((),()),((EZ b vs e x).tup,())):=by
 unfold FK EZ;have w:U.wrap (e.B1+1)=e.B1+1:=Aa ω ω;by_cases g1:e.R0=-2
 ·rw[show(e.R0==-2)=H by rw[g1];rfl];rfl
 rw[Am g1];by_cases g2:e.R0=-1
 ·rw[show(e.R0==-1)=H by rw[g2];rfl];simp only[d_,P,Oq hb hv hl,S];rfl
 rw[Am g2];have hc':0≤e.R0∧e.R0<vs.length:=ω;have ho:=Aci hb hv hl hc' x;unfold Ax;simp only[P,Ac hc'.1 hc'.2,d_];cases hlost:(vs.getD e.R0.toNat (aA A A A A 0 0 0 0 0 0 0 0)).X3 with
 |true=>
  simp only[d_,S];cases decide ((b.B0.length:Int)<e.B1)with
  |true=>rfl
  |false=>simp only[P,Ac hc'.1 hc'.2,d_,hlost,Oq hb hv hl,S,w];rfl
 |false=>
  simp only[P,S,Ac hc'.1 hc'.2,d_,hlost];cases hmv:e.N1 with
  |true=>simp only[m_,P,S,a7_];unfold Entry.tup;rw[hmv]
  |false=>
   rw[hmv]at ho;simp only[c1_,d_,S,q_];cases decide (e.B1≤(b.B0.length:Int))with
   |false=>simp only[P];unfold Entry.tup;rw[hmv]
   |true=>
    simp only[d_,ho,S,w];cases Nx b vs e x != -1 with
    |true=>rfl
    |false=>simp only[P];unfold Entry.tup;rw[hmv]
end
def Nf(was now:L):List W:=(bif was.B1 !=now.B1||!(was.N1==now.N1)then [⟨7,now.E0,now.J0,(bif now.N1 then 1 else 0),now.B1⟩]else [])++(bif was.R0 !=now.R0 then [⟨3,now.E0,now.J0,now.R0,0⟩]else [])
def Ajd(a b:L):(Nf a b).length≤2:=by unfold Nf;cases(a.B1 !=b.B1||!(a.N1==b.N1))<;>cases a.R0 !=b.R0<;>simp
def Aaf(a c:L):Ko a.E0 a.J0 a.R0 a.B1 a.N1 c.E0 c.J0 c.R0 c.B1 c.N1=R ((Nf a c,()),()):=by
 unfold Ko Nf;have b1:∀r:W,Nat.ble (([]:List W).length+[r].length) 2147483648=H:=λ_=>Ap σ;have b2:∀r s:W,Nat.ble (([]++[s]:List W).length+[r].length) 2147483648=H:=λ_ _=>Ap σ;cases a.B1 !=c.B1<;>cases a.N1==c.N1<;>cases hm:c.N1<;>cases hc:a.R0 !=c.R0<;>
  simp only[d_,P,S,m_,c1_,Bool.or_true,Bool.true_or,Bool.or_self,b1,b2,hc]<;>rfl
def WC(b:I)(i:Int):Car:=b.B0.getD i.toNat (Car.mk 0 0 0 0 0 0 0 0 0)
def ZS(b:I)(vs:List C)(e n:L)(x:Int):Int:=
 bif n.R0 !=e.R0&&decide (0≤n.R0)then(bif decide (1000000<U.wrap (Se b n.R0 (Ax vs n.R0) e.E0 e.J0+(WC b n.R0).H2))then 1000000 else U.wrap (Se b n.R0 (Ax vs n.R0) e.E0 e.J0+(WC b n.R0).H2))
 else(bif decide (aF U (x-1)<0)then 0 else U.wrap (x-1))
def Gy(b:I)(vs:List C):List L→List Int→List W
 |e::t,x::xs=>Nf e (EZ b vs e x)++Gy b vs t xs
 |_,_=>[]
def LZ(b:I)(vs:List C):List L→List Int→List Int
 |e::t,x::xs=>ZS b vs e (EZ b vs e x) x::LZ b vs t xs
 |_,_=>[]
def Azl(b:I)(vs:List C)(e:L)(x:Int):(EZ b vs e x).E0=e.E0∧(EZ b vs e x).J0=e.J0:=by unfold EZ;cases e.R0==-2<;>cases e.R0==-1<;>cases(Ax vs e.R0).X3<;>cases decide ((b.B0.length:Int)<e.B1)<;>cases(!e.N1&&decide (e.B1≤(b.B0.length:Int)))<;>cases Nx b vs e x != -1<;>exact⟨rfl,rfl⟩
def Bat(b:I)(vs:List C)(e:L)(x:Int):RJ vs (Nx b vs e x):=by
 unfold Nx;cases Iv b vs e.E0 e.J0 e.R0==-1 with
 |true=>exact .inl rfl
 |false=>
  cases Af6 b vs e x (Iv b vs e.E0 e.J0 e.R0)with
  |true=>exact SM ..
  |false=>exact .inl rfl
def Aqv(b:I)(h:-2≤e.R0∧e.R0<vs.length)(x:Int):-2≤(EZ b vs e x).R0∧(EZ b vs e x).R0<vs.length:=by
 have k:∀n:Int,RJ vs n→-2≤n∧n<vs.length:=λn h=>by
  rcases h with rfl | h
  ·omega
  ·omega
 unfold EZ;by_cases g1:e.R0=-2
 ·rw[show(e.R0==-2)=H by rw[g1];rfl];exact h
 rw[Am g1];by_cases g2:e.R0=-1
 ·rw[show(e.R0==-1)=H by rw[g2];rfl];exact k _ (SM ..)
 rw[Am g2];simp only[P];cases(Ax vs e.R0).X3 with
 |true=>
  cases decide ((b.B0.length:Int)<e.B1)with
  |true=>exact⟨by show(-2:Int)≤-2;omega,by show(-2:Int)<_;omega⟩
  |false=>exact k _ (SM ..)
 |false=>
  cases(!e.N1&&decide (e.B1≤(b.B0.length:Int)))with
  |true=>
   cases Nx b vs e x != -1 with
   |true=>exact k _ (Bat ..)
   |false=>exact h
  |false=>exact h
def Aih{b:I}:∀{l:List L}{p:Option L},FL b p l=H→∀e∈l,Hk b e=H
 |[],_,_,_,he=>by cases he
 |a::t,p,h,e,he=>by
  simp only[FL,e_]at h;rcases t_.1 he with rfl | he
  ·exact h.1
  ·exact Aih h.2.2 e he
def Tn(N:List α)(a v:α)(t:List α):(N++a::t).set N.length v=N++v::t:=by
 induction N with
 |nil=>rfl
 |cons h N ih=>simp only[List.cons_append,E_,List.set_cons_succ,ih]
section
variable{b:I}(hb:b.small){vs:List C}(hv:okViews vs)(hl:vs.length≤100)(hlen:(vs.length:Int)=(b.B0.length:Int)){m:Img}(hm:∀e∈m.A0,Hk b e=H)(hm':m.A0.length≤1000){xs:List Int}(hx:xs.length=m.A0.length)
include hb hv hl hlen hm hm' hx
theorem TI:∀(k i:Nat) (out:List W) (N:List Int),i+k=m.A0.length→N.length=i→out.length≤2*i→
  BJ (λx=>letI a:=x.2.2.1.2.2;letI c:=x.1.2.2.2.2;letI d:=x.2.1.2.2;letI f:=a.2.2;letI g:=d.2.2;GO x.1.1 x.1.2.1 c.1 c.2.1 c.2.2.1 c.2.2.2.1 c.2.2.2.2.1 x.2.1.1 x.2.1.2.1 d.1 d.2.1 g.1 g.2.1 g.2.2.1 g.2.2.2.1 x.2.2.1.1 x.2.2.1.2.1 a.1 a.2.1 f.1 f.2.1 f.2.2.1 f.2.2.2.1 f.2.2.2.2.1) (k+1)
   ((xs,vs,(),(),out,N++X k 0,m.A0,(m.A0.length:Int),(i:Int),()),(b.tup,(b.D0,b.G0,b.I0,b.M0,b.L0,b.N0,b.O0,b.B0,vs,()),()))=R ((out++Gy b vs (m.A0.drop i) (xs.drop i),N++LZ b vs (m.A0.drop i) (xs.drop i),()),())
 |0,i,out,N,hi,hN,ho=>by
  refine AA ?_;show GO xs vs out (N++[]) m.A0 (m.A0.length:Int) (i:Int) b.D0 b.G0 b.I0 b.M0 b.L0 b.N0 b.O0 b.B0 b.D0 b.G0 b.I0 b.M0 b.L0 b.N0 b.O0 b.B0 vs=_;unfold GO;have e:decide ((i:Int)<(m.A0.length:Int))=A:=by simp;omega
  rw[e,show i=m.A0.length by omega,a3_];simp[Gy,LZ]
 |k+1,i,out,N,hi,hN,ho=>by
  have hi':i<m.A0.length:=ω;have hix:i<xs.length:=ω;have e:decide ((i:Int)<(m.A0.length:Int))=H:=by simp;omega
  have ib:inB (i:Int) m.A0.length=H:=Ac ω ω;have ibx:inB (i:Int) xs.length=H:=Ac ω ω;have ibn:inB (i:Int) (N++X (k+1) (0:Int)).length=H:=Ac ω (by simp;omega);have w:U.wrap ((i:Int)+1)=((i+1:Nat):Int):=by rw[Aa ω ω];omega
  have hok:=CD B hi';have hent:=hm _ hok;simp only[Hk,e_,v_]at hent;obtain⟨_,c1,c2,c3,c4⟩:=hent;have hd:=Aak hb hv hl (e:=m.A0.getD i B) ω ⟨c3,c4⟩ (xs.getD i 0);have hr:=Aaf (m.A0.getD i B) (EZ b vs (m.A0.getD i B) (xs.getD i 0));have hin:=Aqv b (vs:=vs) (e:=m.A0.getD i B) ω (xs.getD i 0);have hrl:=Ajd (m.A0.getD i B) (EZ b vs (m.A0.getD i B) (xs.getD i 0));have hble:Nat.ble (out.length+(Nf (m.A0.getD i B) (EZ b vs (m.A0.getD i B) (xs.getD i 0))).length) 2147483648=H:=Ap ω;have hset:∀v:Int,(N++X (k+1) (0:Int)).set i v=N++v::X k 0:=λv=>by rw[← hN];exact Tn N 0 v (X k 0)
  have hset2:∀v u:Int,(N++v::X k (0:Int)).set i u=N++u::X k 0:=λv u=>by rw[← hN];exact Tn N v u (X k 0)
  have ibn2:∀v:Int,inB (i:Int) (N++v::X k (0:Int)).length=H:=λv=>Ac ω (by simp;omega);rw[BN B hi',BN (0:Int) hix];refine(Bt (x':=((xs,vs,(),(),out++Nf (m.A0.getD i B) (EZ b vs (m.A0.getD i B) (xs.getD i 0)),(N++[ZS b vs (m.A0.getD i B) (EZ b vs (m.A0.getD i B) (xs.getD i 0)) (xs.getD i 0)])++X k 0,m.A0,(m.A0.length:Int),((i+1:Nat):Int),()),(b.tup,(b.D0,b.G0,b.I0,b.M0,b.L0,b.N0,b.O0,b.B0,vs,()),()))) ?_).trans ?_
  ·show GO xs vs out (N++X (k+1) 0) m.A0 (m.A0.length:Int) (i:Int) b.D0 b.G0 b.I0 b.M0 b.L0 b.N0 b.O0 b.B0 b.D0 b.G0 b.I0 b.M0 b.L0 b.N0 b.O0 b.B0 vs=_;unfold GO;rw[e,ib,ibx,show aB 0 0 0 0 A=B from rfl];unfold Entry.tup at hd;simp only[d_,i_,hd,S,hr,hble,ibn,hset];unfold ZS;have hest:=Aq4 hb (hv.at (EZ b vs (m.A0.getD i B) (xs.getD i 0)).R0) (EZ b vs (m.A0.getD i B) (xs.getD i 0)).R0 (m.A0.getD i B).E0 (m.A0.getD i B).J0;unfold Amp Ax at hest;cases hne:((EZ b vs (m.A0.getD i B) (xs.getD i 0)).R0 !=(m.A0.getD i B).R0)with
   |false=>simp only[P,S,a7_,F_,c5_,w];rfl
   |true=>
    simp only[d_,S,q_];by_cases hge:0≤(EZ b vs (m.A0.getD i B) (xs.getD i 0)).R0
    ·have ibc:inB (EZ b vs (m.A0.getD i B) (xs.getD i 0)).R0 vs.length=H:=Ac hge hin.2;have ibc':inB (EZ b vs (m.A0.getD i B) (xs.getD i 0)).R0 b.B0.length=H:=Ac hge ω;rw[c_ hge];simp only[d_,ibc,hest,S,ibc',ibn2,i_,hset2,F_,c5_,w];rfl
    ·rw[f_ hge];simp only[P,F_,c5_,w];rfl
  ·rw[TI k (i+1) _ (N++[_]) ω (by simp;omega) (by rw[h_];omega)];simp only[Gy,LZ,F_,c5_]
end
def Qa(xs:List Int):Bool:=xs.all (inR 0 1000000)
def Ba0(n:Int):LB n=R ((!inR 0 1000000 n,()),()):=by
 unfold LB inR;by_cases g:n<0
 ·rw[c_ g,f_ (ω:¬0≤n)];rfl
 ·rw[f_ g,c_ (ω:0≤n)];by_cases g':1000000<n
  ·rw[c_ g',f_ (ω:¬n≤1000000)];rfl
  ·rw[f_ g',c_ (ω:n≤1000000)];rfl
def Apg(hl:xs.length≤maxLen):BS xs=R ((!Qa xs,()),()):=by
 have hm:maxLen≤9223372036854775807:=by decide
 have key:∀(k i:Nat),i+k=xs.length→∃y,BJ (λx=>AR x.1.1 x.1.2.2.1 x.1.2.2.2.1) (k+1) ((xs,(),(xs.length:Int),(i:Int),()),())=R y∧(match y with | .inl _=>(xs.drop i).all (inR 0 1000000)=H | .inr z=>0≤z.1.1∧(xs.drop i).all (inR 0 1000000)=A):=by
  intro k;induction k with
  |zero=>
   intro i hi;refine⟨.inl ((),()),AA ?_,?_⟩
   ·show AR xs (xs.length:Int) (i:Int)=_;unfold AR;rw[show decide ((i:Int)<(xs.length:Int))=A by simp;omega];rfl
   ·rw[show i=xs.length by omega,a3_];rfl
  |succ k ih=>
   intro i hi;have hi':i<xs.length:=ω;have hs:AR xs (xs.length:Int) (i:Int)=R (bif inR 0 1000000 (xs.getD i 0)then .inl ((xs,(),(xs.length:Int),((i+1:Nat):Int),()),())else .inr (.inr (((i:Int),()),()))):=by
    unfold AR;have w:U.wrap ((i:Int)+1)=((i+1:Nat):Int):=by rw[Aa ω ω];omega
    rw[show decide ((i:Int)<(xs.length:Int))=H by simp;omega,Ac ω ω,Ba0,w];simp only[d_,i_,S];cases inR 0 1000000 (xs.getD i 0)<;>rfl
   rw[BN (0:Int) hi',a4_];cases hq:inR 0 1000000 (xs.getD i 0)with
   |true=>rw[hq]at hs;obtain⟨y,h1,h2⟩:=ih (i+1) ω;exact⟨y,(Bt hs).trans h1,by rw[q_];exact h2⟩
   |false=>rw[hq]at hs;exact⟨_,AA hs,by show(0:Int)≤(i:Int)∧_;exact⟨ω,rfl⟩⟩
 obtain⟨y,h1,h2⟩:=key xs.length 0 ω;have h1':BY ((xs,(),(xs.length:Int),(0:Int),()),())=R y:=Aj h1 ω;rw[P_]at h2;unfold BS Dc Qa;rw[h1'];cases y with
 |inl z=>simp only at h2;rw[h2];rfl
 |inr z=>simp only at h2;rw[h2.2];simp only[S];rw[c_ h2.1];rfl
def Oa(b:I)(m:Img)(xs:List Int)(vs:List C):List W×List Int×Int×Unit:=bif m.ok b&&((xs.length:Int)==(m.A0.length:Int)&&((vs.length:Int)==(b.B0.length:Int)&&Qa xs))then(Gy b vs m.A0 xs,LZ b vs m.A0 xs,0,())else([],[],1,())
def Img.ok_all(h:m.ok b=H):b.code=0∧m.F0.length=b.B0.length∧m.K0.length=b.B0.length∧m.H0.length=b.B0.length∧(∀p∈m.F0,0≤p∧p≤4)∧(∀e∈m.A0,Hk b e=H)∧FL b Option.none m.A0=H:=by unfold Img.ok at h;simp only[e_,U_]at h;obtain⟨h0,h1,h2,h3,h4,h5⟩:=h;exact⟨h0,ω,ω,ω,λp hp=>Ar.1 (M_.1 h4 p hp),Aih h5,h5⟩
section
variable{b:I}(hb:b.small){vs:List C}(hv:okViews vs)(hl:vs.length≤100)(m:Img)(hm:m.A0.length≤1000)(hp:m.F0.length≤maxLen)(xs:List Int)(hx:xs.length≤maxLen)
include hb hv hl hm hp hx
theorem Af3:Ie b.D0 b.G0 b.I0 b.M0 b.L0 b.N0 b.O0 b.B0 m.F0 m.K0 m.H0 m.A0 xs vs=R (Oa b m xs vs,()):=by
 have hmx:1000≤maxLen:=by decide
 unfold Ie Oa;rw[Do hb m hp ω,Apg hx];simp only[S,bne];cases hok:m.ok b with
 |false=>rfl
 |true=>
  cases hq:(xs.length:Int)==(m.A0.length:Int)with
  |false=>rfl
  |true=>
   cases hr:(vs.length:Int)==(b.B0.length:Int)with
   |false=>rfl
   |true=>
    cases Qa xs with
    |false=>rfl
    |true=>
     have hq':(xs.length:Int)=(m.A0.length:Int):=by simpa using hq
     have hr':(vs.length:Int)=(b.B0.length:Int):=by simpa using hr
     obtain⟨_,_,_,_,_,hall,_⟩:=Img.ok_all hok;have hlp:=Aj (TI hb hv hl hr' hall hm (xs:=xs) ω m.A0.length 0 [] [] ω rfl σ) ω;have hlp':LN ((xs,vs,(),(),([]:List W),X m.A0.length (0:Int),m.A0,(m.A0.length:Int),(0:Int),()),(b.tup,(b.D0,b.G0,b.I0,b.M0,b.L0,b.N0,b.O0,b.B0,vs,()),()))=_:=hlp;unfold Bldg.tup at hlp';simp only[m_,P,hq',c_ (ω:(0:Int)≤(m.A0.length:Int)),c_ (e0_ (m.A0.length:Int)),c_ (ω:(m.A0.length:Int)≤2147483648),S_,d_,i_,hlp',S,P_,W_]
end
def Zb(b:I)(vs:List C):∀(l:List L) (xs:List Int),(Gy b vs l xs).length≤2*l.length
 |[],_=>by simp[Gy]
 |_::_,[]=>by simp[Gy]
 |e::t,x::xs=>by have h1:=Zb b vs t xs;have h2:=Ajd e (EZ b vs e x);simp only[Gy,h_,E_];omega
def Za(b:I)(vs:List C):∀(l:List L) (xs:List Int),xs.length=l.length→(LZ b vs l xs).length=l.length
 |[],_,_=>by simp[LZ]
 |_::_,[],h=>by simp at h
 |e::t,x::xs,h=>by simp only[LZ,E_,Za b vs t xs (by simpa using h)]
def Baz(b:I)(m:Img)(xs:List Int)(vs:List C):(Oa b m xs vs).1.length≤2*m.A0.length∧(Oa b m xs vs).2.1.length≤m.A0.length:=by
 unfold Oa;cases hq:(m.ok b&&((xs.length:Int)==(m.A0.length:Int)&&((vs.length:Int)==(b.B0.length:Int)&&Qa xs)))with
 |false=>exact⟨σ,σ⟩
 |true=>simp only[e_,U_]at hq;refine⟨Zb b vs m.A0 xs,?_⟩;show(LZ b vs m.A0 xs).length≤_;rw[Za b vs m.A0 xs ω];exact A_ _
def noV:C:=aA A A A A 0 0 0 0 0 0 0 0
def noP:Calls:=Calls.mk 0 0
structure Lan where
 lit:List Calls
 gong:List Bool
 cl:Int×Int
def Lan.tup(l:Lan):List Calls×List Bool×Int×Int×Unit:=(l.lit,l.gong,l.cl.1,l.cl.2,())
def Lan.none:Lan:=⟨[],[],(0,0)⟩
def Oy(b:I)(vs:List C)(i:Nat)(s:Lan):Int×Int:=AU (DX b (vs.getD i noV)) s.cl
def Oz(b:I)(vs:List C)(ps:List Calls)(i:Nat)(s:Lan):Lan:=⟨s.lit++[Calls.mk (Oy b vs i s).1 (Oy b vs i s).2],s.gong++[!isZ (AU (Oy b vs i s) ((ps.getD i noP).Up,(ps.getD i noP).Q3))],Cm s.cl (Oy b vs i s)⟩
def GJ(b:I)(vs:List C)(ps:List Calls):Lan:=BL (Oz b vs ps) vs.length 0 Lan.none
def Ael(b:I)(vs:List C)(ps:List Calls):Lan×Int:=bif(vs.length:Int)==(b.B0.length:Int)&&((ps.length:Int)==(b.B0.length:Int))then(GJ b vs ps,0)else(Lan.none,1)
section
variable{b:I}(hb:b.small)(hcode:b.code=0)
include hb hcode
theorem YJ(vs:List C)(ps:List Calls)(hl:vs.length≤1000)(hp:ps.length=vs.length):Jr ((ps,(),(),(),vs,(vs.length:Int),(0:Int),()),(b.tup,Lan.none.tup,Lan.none.tup,()))=R (((),(),()),(Lan.none.tup,(GJ b vs ps).tup,()))∧(GJ b vs ps).lit.length=vs.length∧(GJ b vs ps).gong.length=vs.length:=by
 have key:=λ(step:_→_) (h1:∀(i:Nat) (s:Lan),i<vs.length→(s.lit.length=i∧s.gong.length=i)→step ((ps,(),(),(),vs,(vs.length:Int),(i:Int),()),(b.tup,Lan.none.tup,s.tup,()))=R (.inl ((ps,(),(),(),vs,(vs.length:Int),((i+1:Nat):Int),()),(b.tup,Lan.none.tup,(Oz b vs ps i s).tup,())))) h2=>AP (step:=step) vs.length (λi (s:Lan)=>((ps,(),(),(),vs,(vs.length:Int),(i:Int),()),(b.tup,Lan.none.tup,s.tup,()))) (Oz b vs ps) (λi s=>s.lit.length=i∧s.gong.length=i) (λs=>(((),(),()),(Lan.none.tup,s.tup,()))) (λi s hi hs=>⟨h1 i s hi hs,by
   constructor
   ·show(s.lit++[_]).length=_;rw[h_,D_,hs.1]
   ·show(s.gong++[_]).length=_;rw[h_,D_,hs.2]⟩) h2 vs.length 0 Lan.none ω ⟨rfl,rfl⟩
 have h:=key (λx=>letI a:=x.2.1.2.2;letI c:=x.2.2;letI d:=x.1.2.2.2.2;letI e:=a.2.2;letI f:=c.2.1;FB x.1.1 d.1 d.2.1 d.2.2.1 x.2.1.1 x.2.1.2.1 a.1 a.2.1 e.1 e.2.1 e.2.2.1 e.2.2.2.1 c.1.1 c.1.2.1 c.1.2.2.1 c.1.2.2.2.1 f.1 f.2.1 f.2.2.1 f.2.2.2.1) (λi s hi hs=>by
  show FB ps vs (vs.length:Int) (i:Int) b.D0 b.G0 b.I0 b.M0 b.L0 b.N0 b.O0 b.B0 [] [] 0 0 s.lit s.gong s.cl.1 s.cl.2=_;unfold FB;rw[show aA A A A A 0 0 0 0 0 0 0 0=noV from rfl,show Calls.mk 0 0=noP from rfl];simp only[c_ (ω:(i:Int)<(vs.length:Int)),Ac (ω:(0:Int)≤(i:Int)) (ω:(i:Int)<(vs.length:Int)),Ac (ω:(0:Int)≤(i:Int)) (ω:(i:Int)<(ps.length:Int)),d_,i_,Sn hb hcode,S,Ef hi (show vs.length≤AN by unfold AN;omega)];have e1:=QG (DX b (vs.getD i noV)) s.cl;have e2:=QG (Oy b vs i s) ((ps.getD i noP).Up,(ps.getD i noP).Q3);have e3:=Gn s.cl (Oy b vs i s);unfold Oy at e2 e3;simp only at e2;simp only[e1,S,e2,e3];rw[Ap (show s.lit.length+[Calls.mk (AU (DX b (vs.getD i noV)) s.cl).1 (AU (DX b (vs.getD i noV)) s.cl).2].length≤2147483648 by show s.lit.length+1≤_;omega)];rw[Ap (show s.gong.length+[!((AU (AU (DX b (vs.getD i noV)) s.cl) ((ps.getD i noP).Up,(ps.getD i noP).Q3)).1==0&&((AU (AU (DX b (vs.getD i noV)) s.cl) ((ps.getD i noP).Up,(ps.getD i noP).Q3)).2==0&&H))].length≤2147483648 by show s.gong.length+1≤_;omega)];rfl) (λs _=>by
  show FB ps vs (vs.length:Int) (vs.length:Int) b.D0 b.G0 b.I0 b.M0 b.L0 b.N0 b.O0 b.B0 [] [] 0 0 s.lit s.gong s.cl.1 s.cl.2=_;unfold FB;simp only[f_ (J_ (vs.length:Int)),P];rfl)
 exact⟨Aj h.1 ω,h.2.1,h.2.2⟩
theorem Ab7(vs:List C)(ps:List Calls)(hl:vs.length≤1000):LH b.D0 b.G0 b.I0 b.M0 b.L0 b.N0 b.O0 b.B0 vs ps=R (((),(Ael b vs ps).2,()),((Ael b vs ps).1.tup,())):=by
 unfold LH Ael;rw[Bk,hcode];simp only[S,Q_,P];by_cases h1:vs.length=b.B0.length
 ·by_cases h2:ps.length=b.B0.length
  ·have h:=(YJ hb hcode vs ps hl ω).1;simp only[Bldg.tup,Lan.tup,Lan.none]at h;rw[h1]at h⊢;rw[h2];simp only[Q_,P,l_,S_,d_,h];rfl
  ·rw[h1,Q_,Gx (ω:¬(ps.length:Int)=(b.B0.length:Int)),Am (ω:¬(ps.length:Int)=(b.B0.length:Int)),c2_];rfl
 ·rw[Gx (ω:¬(vs.length:Int)=(b.B0.length:Int)),Am (ω:¬(vs.length:Int)=(b.B0.length:Int))];rfl
end
def Tb(b:I)(vs:List C)(F D:Int):Bool:=vs.any λv=>Az (DX b v) F.toNat D
def FO(b:I)(vs:List C)(l:List L):List W:=l.flatMap λe=>bif Tb b vs e.E0 e.J0 then [aE 2 e.E0 e.J0 0 0]else []
def Aln(b:I)(vs:List C){f:Nat}{d:Int}:∀(k i:Nat) (s:Int×Int),i+k=vs.length→Az (BL (λi s=>Cm s (DX b (vs.getD i noV))) k i s) f d=(Az s f d||(vs.drop i).any λv=>Az (DX b v) f d)
 |0,i,s,hi=>by rw[show i=vs.length by omega,a3_];simp[BL]
 |k+1,i,s,hi=>by show Az (BL (λi s=>Cm s (DX b (vs.getD i noV))) k (i+1) (Cm s (DX b (vs.getD i noV)))) f d=_;rw[Aln b vs k (i+1) _ ω,KG,BN noV (ω:i<vs.length),List.any_cons,Bool.or_assoc]
def Zo(b:I)(vs:List C):∀l:List L,(FO b vs l).length≤l.length
 |[]=>A_ _
 |e::t=>by have h:=Zo b vs t;show((bif Tb b vs e.E0 e.J0 then [aE 2 e.E0 e.J0 0 0]else [])++FO b vs t).length≤_;rw[h_,E_];cases Tb b vs e.E0 e.J0<;>simp<;>omega
def WB(hb:b.small)(h:Ao b e.E0 e.J0=H):Adg e:=by have lo:=hb.lo;have hi:=hb.hi;unfold Ao NW at h;simp only[e_,a2_,U_,Ar]at h;unfold Adg;omega
section
variable{b:I}(hb:b.small)(hcode:b.code=0){m:Img}(hm:ImgOK b m)(hl:m.A0.length≤100000)(vs:List C)(hv:(vs.length:Int)=(b.B0.length:Int))
include hb hcode hm hl hv
theorem Ab8:LI b.D0 b.G0 b.I0 b.M0 b.L0 b.N0 b.O0 b.B0 m.F0 m.K0 m.H0 m.A0 vs=R ((FO b vs m.A0,()),()):=by
 have hcc:=An hcode;have hmx:100000≤maxLen:=by decide
 have hlp:=hm.lp;have h0:=AP (step:=λx=>letI a:=x.2.1.2.2;letI c:=x.2.2;letI g:=a.2.2;FC x.1.2.2.2.1 x.1.2.2.2.2.1 x.1.2.2.2.2.2.1 x.2.1.1 x.2.1.2.1 a.1 a.2.1 g.1 g.2.1 g.2.2.1 g.2.2.2.1 c.1.1 c.1.2.1 c.1.2.2.1 c.1.2.2.2.1 c.2.1.1 c.2.1.2.1) vs.length (λi (s:Int×Int)=>(((),(),(),vs,(vs.length:Int),(i:Int),()),(b.tup,m.tup,(s.1,s.2,()),()))) (λi s=>Cm s (DX b (vs.getD i noV))) (λ_ _=>True) (λs=>(((),(),()),(m.tup,(s.1,s.2,()),()))) (λi s hi _=>⟨by
  show FC vs (vs.length:Int) (i:Int) b.D0 b.G0 b.I0 b.M0 b.L0 b.N0 b.O0 b.B0 m.F0 m.K0 m.H0 m.A0 s.1 s.2=_;unfold FC;rw[show aA A A A A 0 0 0 0 0 0 0 0=noV from rfl];have e3:=Gn s (DX b (vs.getD i noV));simp only[c_ (ω:(i:Int)<(vs.length:Int)),Ac (ω:(0:Int)≤(i:Int)) (ω:(i:Int)<(vs.length:Int)),d_,i_,Sn hb hcode,S,e3,Ef hi (show vs.length≤AN by unfold AN;omega)];rfl,trivial⟩) (λs _=>by
  show FC vs (vs.length:Int) (vs.length:Int) b.D0 b.G0 b.I0 b.M0 b.L0 b.N0 b.O0 b.B0 m.F0 m.K0 m.H0 m.A0 s.1 s.2=_;unfold FC;simp only[f_ (J_ (vs.length:Int)),P];rfl) vs.length 0 (0,0) ω trivial
 have h0':Js (((),(),(),vs,(vs.length:Int),(0:Int),()),(b.tup,m.tup,((0:Int),(0:Int),()),()))=_:=Aj h0.1 ω;have hbit:∀(f:Nat) (d:Int),Az (BL (λi s=>Cm s (DX b (vs.getD i noV))) vs.length 0 (0,0)) f d=vs.any λv=>Az (DX b v) f d:=λf d=>by rw[Aln b vs vs.length 0 (0,0) ω,OF,aD,P_]
 generalize BL (λi s=>Cm s (DX b (vs.getD i noV))) vs.length 0 (0,0)=u at h0' hbit;have h1:=AP (step:=λx=>FD x.1.2.1 x.1.2.2.1 x.1.2.2.2.1 x.1.2.2.2.2.1 x.2.1.1 x.2.1.2.1) m.A0.length (λi (out:List W)=>(((),out,m.A0,(m.A0.length:Int),(i:Int),()),((u.1,u.2,()),()))) (λi out=>out++(bif Tb b vs (m.A0.getD i B).E0 (m.A0.getD i B).J0 then [aE 2 (m.A0.getD i B).E0 (m.A0.getD i B).J0 0 0]else [])) (λi out=>out.length≤i) (λout=>((out,()),())) (λi out hi ho=>by
  have hc:=WB hb (DL.1 (hm.en _ (CD B hi))).1;refine⟨?_,?_⟩
  ·show FD out m.A0 (m.A0.length:Int) (i:Int) u.1 u.2=_;unfold FD;rw[show aB 0 0 0 0 A=B from rfl];simp only[c_ (ω:(i:Int)<(m.A0.length:Int)),Ac (ω:(0:Int)≤(i:Int)) (ω:(i:Int)<(m.A0.length:Int)),d_,i_,PU u hc.1 hc.2,S,Ef hi (show m.A0.length≤AN by unfold AN;omega),hbit];rw[Ap (show out.length+[aE 2 (m.A0.getD i B).E0 (m.A0.getD i B).J0 0 0].length≤2147483648 by show out.length+1≤_;omega)];unfold Tb;cases vs.any λv=>Az (DX b v) (m.A0.getD i B).E0.toNat (m.A0.getD i B).J0
   ·simp
   ·rfl
  ·rw[h_];cases Tb b vs (m.A0.getD i B).E0 (m.A0.getD i B).J0<;>simp<;>omega) (λout _=>by
  show FD out m.A0 (m.A0.length:Int) (m.A0.length:Int) u.1 u.2=_;unfold FD;simp only[f_ (J_ (m.A0.length:Int)),P]) m.A0.length 0 [] ω σ
 have h1':=Aj h1.1 ω;rw[Hq,W_,Nd (λe=>bif Tb b vs e.E0 e.J0 then [aE 2 e.E0 e.J0 0 0]else []) B m.A0 0 m.A0.length ω,P_]at h1';unfold LI;rw[Do hb m ω ω,Img.ok_iff.2 hm];simp only[S,m_,P];rw[show((vs.length:Int) !=(b.B0.length:Int))=A by rw[hv,Q_]];simp only[Bldg.tup,Img.tup]at h0';simp only[P,h0',S];rw[show Jt (((),([]:List W),m.A0,(m.A0.length:Int),(0:Int),()),((u.1,u.2,()),()))=_ from h1'];rfl
end
def xsV(E:List L)(xs:List Int)(r:W):List Int:=
 bif(r.Q0==2)&&FI (Av r.E0 r.J0) E then xs.take (Ay (Av r.E0 r.J0) E)++xs.drop (Ay (Av r.E0 r.J0) E+1)
 else bif(r.Q0==1)&&!FI (Av r.E0 r.J0) E then xs.take (Ay (Av r.E0 r.J0) E)++[0]++xs.drop (Ay (Av r.E0 r.J0) E)
 else xs
def Bel(E:List L)(xs:List Int)(F D:Int):Int:=bif FI (Av F D) E then xs.getD (Ay (Av F D) E) 0 else 0
def Sh(E:List L)(xs:List Int)(e:L):Int:=Bel E xs e.E0 e.J0
def Am5(e:L):isC e.E0 e.J0 e=H:=by unfold isC;simp
def Arp(hs:Bz E)(hi:i<E.length):Ay (E.getD i B) E=i:=by
 have hp:=Ev.1 hs;rcases Nat.lt_trichotomy (Ay (E.getD i B) E) i with h | h | h
 ·have h1:=Ahd hs (Ay (E.getD i B) E) (A_ _) ω;have h2:Be (E.getD (Ay (E.getD i B) E) B) (E.getD i B)=H:=by
   generalize Ay (E.getD i B) E=p at h;have hg:∀j (hj:j<E.length),E.getD j B=E[j]:=λj hj=>by simp[k_,hj]
   rw[hg p ω,hg i hi];exact b5_.1 hp p i ω hi h
  rw[h1]at h2;cases h2
 ·exact h
 ·have h1:=Ahe (E.getD i B) E i h;have h2:=(Xn (Am5 (E.getD i B))).1;rw[h1]at h2;cases h2
def Bi9(hs:Bz E)(hi:i<E.length):FI (Av (E.getD i B).E0 (E.getD i B).J0) E=H:=by unfold FI;rw[Uh,Arp hs hi,e_];exact⟨Eq.mpr g7_ hi,Am5 _⟩
def Arn(hs:Bz E)(xs:List Int)(hi:i<E.length):Sh E xs (E.getD i B)=xs.getD i 0:=by unfold Sh Bel;rw[Bi9 hs hi,Uh,Arp hs hi];rfl
def Amr{a b:List α}(d:α)(hl:a.length=b.length)(h:∀i,i<a.length→a.getD i d=b.getD i d):a=b:=by
 refine List.ext_getElem hl λi h1 h2=>?_
 have:=h i h1
 simpa[k_,h1,h2]using this
def Bed{β:Type}(f:α→β)(hi:i<l.length)(d:α)(d':β):(l.map f).getD i d'=f (l.getD i d):=by simp[k_,hi]
def Bjg(hs:Bz E)(hl:xs.length=E.length):E.map (Sh E xs)=xs:=by refine Amr 0 (by rw[d1_,hl]) λi hi=>?_;rw[d1_]at hi;rw[Bed _ hi B,Arn hs xs hi]
def Aoj{k:Nat}{a:α}(d:α)(h:a=l.getD k d):l.set k a=l:=by
 by_cases hk:k<l.length
 ·refine Amr d (r_ ..) λi hi=>?_;by_cases hik:k=i
  ·subst hik;rw[h];simp[k_,hk]
  ·simp[k_,hik]
 ·rw[List.set_eq_of_length_le ω]
def Aq9{c:L}{l:List L}(h:FI c l=H):Ay c l<l.length∧isC c.E0 c.J0 (l.getD (Ay c l) B)=H:=by unfold FI at h;rw[e_]at h;exact⟨Eq.mp g7_ h.1,h.2⟩
def Bbq(hs:Bz m.A0)(hl:xs.length=m.A0.length)(r:W):xsV m.A0 xs r=(Ak m r).A0.map (Sh m.A0 xs):=by
 have hbase:=Bjg hs hl;have hfp:=RR (c:=Av r.E0 r.J0) 0 hs;rw[p_]at hfp;have hfp':CV r.E0 r.J0 m.A0 0=_:=hfp;unfold Ak xsV;by_cases k4:r.Q0=4
 ·rw[k4];exact hbase.symm
 by_cases k5:r.Q0=5
 ·rw[k5];exact hbase.symm
 by_cases k6:r.Q0=6
 ·rw[k6];exact hbase.symm
 rw[Am k4,Am k5,Am k6,hfp'];simp only[P];cases hh:FI (Av r.E0 r.J0) m.A0 with
 |false=>
  simp only[P,l_,d_,c2_,c1_,d5_];cases k1:r.Q0==1 with
  |false=>exact hbase.symm
  |true=>
   simp only[d_];show _=(Fa (aB r.E0 r.J0 (-1) 0 A) A m.A0).map (Sh m.A0 xs);have hnone:=Aiw hs hh;rw[Xk (c:=aB r.E0 r.J0 (-1) 0 A) (λx hx=>hnone x hx)];have hp:Ay (aB r.E0 r.J0 (-1) 0 A) m.A0=Ay (Av r.E0 r.J0) m.A0:=(Uh (aB r.E0 r.J0 (-1) 0 A) m.A0).symm;have hn:Sh m.A0 xs (aB r.E0 r.J0 (-1) 0 A)=0:=by unfold Sh Bel;rw[hh];rfl
   rw[hp,List.map_append,List.map_append,List.map_take,List.map_drop,hbase,List.map_singleton,hn]
 |true=>
  obtain⟨p1,p2⟩:=Aq9 hh;simp only[d_,d5_,m_,c2_,P];rw[Am (ω:¬((Ay (Av r.E0 r.J0) m.A0:Nat):Int)=-1)];simp only[P,i_];generalize Ay (Av r.E0 r.J0) m.A0=p at p1 p2⊢;have hset:∀e':L,e'.E0=(m.A0.getD p B).E0→e'.J0=(m.A0.getD p B).J0→(m.A0.set p e').map (Sh m.A0 xs)=xs:=λe' h1 h2=>by
   rw[List.map_set,hbase];refine Aoj 0 ?_
   have:Sh m.A0 xs e'=Sh m.A0 xs (m.A0.getD p B):=by unfold Sh;rw[h1,h2]
   rw[this,Arn hs xs p1]
  cases k2:r.Q0==2 with
  |true=>simp only[d_];show _=(m.A0.take p++m.A0.drop (p+1)).map (Sh m.A0 xs);rw[List.map_append,List.map_take,List.map_drop,hbase]
  |false=>
   simp only[P];cases k3:r.Q0==3 with
   |true=>exact(hset (Afc (m.A0.getD p B) r.R0) rfl rfl).symm
   |false=>
    simp only[P];cases k7:r.Q0==7 with
    |true=>exact(hset (Us (m.A0.getD p B) r.J1 r.R0) rfl rfl).symm
    |false=>exact hbase.symm
def Bjz(hs:Bz m.A0)(hl:xs.length=m.A0.length)(r:W):(xsV m.A0 xs r).length=(Ak m r).A0.length:=by rw[Bbq hs hl,d1_]
def xsL:Img→List Int→List W→List Int
 |_,xs,[]=>xs
 |m,xs,r::t=>xsL (Ak m r) (xsV m.A0 xs r) t
end
end Go.Ovl
