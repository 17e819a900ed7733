import Derived.Test.YtefkhaccplcieaaGreatDoorOvH
import Derived.Test.YtefkhaccplcieaaGreatDoorOvA
import Derived.Test.YtefkhaccplcieaaGreatDoorOvC
import Derived.Test.YtefkhaccplcieaaGreatDoorOvB
set_option linter.all false
open Bool renaming false->A,true->H,false_or->aD
open Go.Ovl renaming noE->B,View->C,Bldg->I,Entry->L,Record->W
open Go.Ovl.Sat renaming ret->J,bic->O,bindS->V,bifT->aC
open Go renaming c_->P,a_->S
open Option renaming some->R
open Go.IntKind renaming i64->U,wrap->aF
open List renaming replicate->X
open Go.Ovl.View renaming mk->aA
open Go.Ovl.Entry renaming mk->aB
open Go.Ovl.Record renaming mk->aE
namespace Go.Ovl
open Go Go.Ab
set_option maxRecDepth 100000
noncomputable section
variable{vs:List C}{b:I}{E:List L}{xs:List Int}{i:Nat}{α:Type}{n:Int}{m:Img}{e:L}{l:List α}
def Vc(n:Int):Sat (Jc n) λy=>y.1.1=H→2≤n∧n≤32:=by unfold Jc;exact V (Q:=λy=>y.1.1=H→2≤n∧n≤32) (O (λq=>J λg=>⟨m_ q,m_ g⟩) λ_=>J λg=>(by cases g)) λ_ h=>J h
def Akm(hn:2≤n∧n≤32)(f d:Int):Sat (NZ n f d) λy=>y.1.1=H→0≤f∧f<n:=by
 unfold NZ;have w:U.wrap (n-1)=n-1:=Aa ω ω;have p:Sat (bif(d==(2:Int))then bif(decide ((0:Int)<f))then R (((decide (f<n)),()),())else R ((A,()),())else R ((A,()),())) λ(y:(Bool×Unit)×Unit)=>y.1.1=H→0≤f∧f<n:=O (λ_=>O (λq=>J λg=>by have:=m_ q;have:=m_ g;omega) λ_=>J λg=>(by cases g)) λ_=>J λg=>(by cases g)
 exact V (Q:=λy=>y.1.1=H→0≤f∧f<n) (O (λ_=>O (λq=>O (λq2=>J λ_=>by have:=m_ q;have q2:=m_ q2;rw[w]at q2;omega) λ_=>p) λ_=>p) λ_=>p) λ_ h=>J h
def Wj(h:0≤n)(a c d:Int):Sat (Kd n a c d) λy=>(0≤y.2.1.1∧y.2.1.1<4294967296)∧U2 y.2.1.2.1 y.2.1.2.2.1:=by unfold Kd;exact aC (b_ h) (Sat.bindE (rfl:Ct ..=_) (J ⟨HV _,HV _,HV _⟩))
def Amt(a c d:Int):Sat (Pl n a c d) λy=>0≤y.1.1∧y.1.1≤1000:=by
 unfold Pl;refine V (Vc n) λy1 h1=>O (λ_=>J (show(0:Int)≤0∧(0:Int)≤1000 by decide)) λq=>?_;have h1:=h1 (by simpa using q);refine V (Wj ω a c d) λy2 h2=>V (Uv h2.1) λy3 h3=>?_;refine V (Q:=λy=>0≤y.1.1∧y.1.1≤510) ?_ λy4 h4=>J ?_
 ·unfold Sm;refine V (Uv h2.2.1) λz1 k1=>V (Uv h2.2.2) λz2 k2=>J ?_;show 0≤U.wrap (z1.1.1+z2.1.1)∧U.wrap (z1.1.1+z2.1.1)≤510;rw[Aa ω ω];omega
 ·show 0≤U.wrap (y3.1.1+y4.1.1)∧U.wrap (y3.1.1+y4.1.1)≤1000;rw[Aa ω ω];omega
def nf(x:Int):Prop:=-1≤x∧x≤300
def Amu{l:List Int}(hl:l.length≤10){a c:Int}(ha:nf a)(hc:nf c)(hx:∀x∈l,nf x):Sat (Ci l a c) λy=>0≤y.1.1∧y.1.1≤4400:=by
 unfold Ci;refine aC (f7_ (by simp only[C_,d6_];omega)) ?_;refine V (Q:=λy=>0≤y.1.1∧y.1.1≤4400) ?_ λ_ h=>J h;unfold GR;have hz:(l++[c]).length≤11:=by rw[i_,G_];omega
 have hall:∀x∈l++[c],nf x:=λx h=>by
  rcases n_.1 h with h | h
  ·exact hx x h
  ·rw[E_.1 h];exact hc
 refine Sat.loop (λk x=>∃(n p:Int) (i:Nat),x=((n,p,l++[c],((l++[c]).length:Int),(i:Int),()),((a,()),(c,()),()))∧i+k=(l++[c]).length∧nf p∧0≤n∧n≤400*(i:Int)) ?_ (l++[c]).length ⟨0,a,0,rfl,ω,ha,τ,τ⟩ ω;rintro k x ⟨n,p,i,rfl,hk,hp,hn,hn2⟩;show Sat (JG n p (l++[c]) ((l++[c]).length:Int) (i:Int) a c) _;unfold JG;refine O (λq=>?_) λ_=>J (ω:0≤n∧n≤4400);have q:=m_ q;simp only[Dn (ω:i<1000000000)];have hv:=Anh hall (i:=i) (d:=(0:Int)) ω;refine aC (Ac ω ω) (J ⟨k-1,ω,_,_,i+1,rfl,ω,hv,?_⟩);show 0≤U.wrap (n+_)∧U.wrap (n+_)≤_;rw[h_];generalize(l++[c]).getD i 0=z at hv⊢;unfold nf at hp hv;rw[Aa (n:=z-p) ω ω,Aa (n:=p-z) ω ω];by_cases g:z-p<p-z
 ·rw[b_ g,d_,Aa ω ω];omega
 ·rw[f_ g,P,Aa ω ω];omega
def Ap5(n f w a c d g e:Int):Sat (Ri n f w a c d g e) λy=>-1≤y.1.1∧y.1.1≤4400:=by
 unfold Ri;have no:(-1:Int)≤-1∧(-1:Int)≤4400:=by decide
 refine V (Vc n) λy1 h1=>O (λ_=>J no) λq1=>O (λ_=>J no) λq2=>O (λ_=>J no) λq4=>O (λ_=>J no) λ_=>O (λ_=>J no) λ_=>?_;have h1:=h1 (by simpa using q1);have q2:=D_ q2;have q4:=D_ q4;refine V (Akm h1 g e) λy2 h2=>O (λ_=>J no) λq3=>?_;have h2:=h2 (by simpa using q3);refine V (Wj ω a c d) λy3 _=>aC (b_ ω) (aC (b_ h2.1) ?_);refine V (Awr _) λy4 h4=>V (Avl _) λy5 h5=>?_;have nf6:nf (aF U (y5.1.1-1)):=by rw[Aa ω ω];exact⟨ω,ω⟩
 have nf4:nf y4.1.1:=⟨ω,ω⟩
 have nff:nf f:=⟨ω,ω⟩
 have nfg:nf g:=⟨ω,ω⟩
 generalize U.wrap (y5.1.1-1)=z at nf6;have all:nf y4.1.1∧nf z∧nf f∧nf g:=⟨nf4,nf6,nff,nfg⟩;refine V (Q:=λy=>nf y.1.2.2.1∧nf y.1.2.2.2.1∧nf y.2.1.1∧nf y.2.2.1.1) ?_ λy6 h6=>V (Q:=λy=>nf y.1.2.2.1∧nf y.1.2.2.2.1∧nf y.2.1.1∧nf y.2.2.1.1) ?_ λy7 h7=>?_
 ·exact O (λ_=>O (λ_=>J all) λ_=>O (λ_=>J all) λ_=>J all) λ_=>O (λ_=>J all) λ_=>J all
 ·exact O (λ_=>J h6) λ_=>O (λ_=>J h6) λ_=>J h6
 have p:∀(l:List Int) {a c:Int},l.length≤10→nf a→nf c→(∀x∈l,nf x)→Sat (Option.bind (Ci l a c) λy10=>R ((y10.1.1,()),())) λy=>-1≤y.1.1∧y.1.1≤4400:=λl a c hl ha hc hx=>V (Amu hl ha hc hx) λy h=>J ⟨Int.le_trans τ h.1,h.2⟩;have m1:∀{x:Int},nf x→∀y∈[x],nf y:=λh y hy=>by rw[E_.1 hy];exact h
 have m2:∀{x z:Int},nf x→nf z→∀y∈[x,z],nf y:=λh h2 y hy=>by
  rcases s_.1 hy with rfl | hy
  ·exact h
  ·exact m1 h2 y hy
 refine O (λ_=>p _ (a5_ _) h7.2.2.1 h7.2.2.2 λx hx=>by cases hx) λ_=>V (Q:=λy=>nf y.1.2.2.1∧nf y.1.2.2.2.1∧nf y.2.1.1∧nf y.2.2.1.1) ?_ λy9 h9=>?_
 ·exact O (λ_=>J h7) λ_=>J h7
 obtain⟨k1,k2,k3,k4⟩:=h9;exact O (λ_=>p _ (show(1:Nat)≤10 by decide) k3 k4 (m1 k2)) λ_=>O (λ_=>p _ (show(1:Nat)≤10 by decide) k3 k4 (m1 k1)) λ_=>O (λ_=>p _ (show(2:Nat)≤10 by decide) k3 k4 (m2 k2 k1)) λ_=>p _ (show(2:Nat)≤10 by decide) k3 k4 (m2 k1 k2)
def Amr(h:b.code=0){c:Car}(hc:c∈b.B0):Co b.C0 c=H:=by
 unfold Bldg.code at h;cases h1:inR 2 32 b.C0<;>rw[h1]at h
 ·cases h
 cases h2:inR 1 8 (b.B0.length:Int)<;>rw[h2]at h
 ·cases h
 cases h3:inR 1 16 b.F0<;>rw[h3]at h
 ·cases h
 cases h4:inR 1 10000 b.M0<;>rw[h4]at h
 ·cases h
 cases h5:b.B0.all (Co b.C0)<;>rw[h5]at h
 ·cases h
 exact N_.1 h5 c hc
def Ad7(h:b.code=0)(hi:i<b.B0.length):(0≤(b.B0.getD i Fb).T3∧(b.B0.getD i Fb).T3≤10000)∧(0≤(b.B0.getD i Fb).N2∧(b.B0.getD i Fb).N2≤10000)∧(0≤(b.B0.getD i Fb).M2∧(b.B0.getD i Fb).M2≤10000)∧0≤(b.B0.getD i Fb).K2∧(b.B0.getD i Fb).K2≤10000:=by have ht:Co b.C0 (b.B0.getD i Fb)=H:=Amr h (BU _ hi);unfold Co at ht;simp only[Z_,List.all_nil,d5_,e_,As]at ht;omega
def Vb(b:I)(car:Int)(v:C)(floor dir:Int):Sat (EH b.C0 b.F0 b.H0 b.M0 b.K0 b.L0 b.N0 b.B0 car v.B3 v.D3 v.G3 v.V3 v.D0 v.I0 v.I3 v.J3 v.T2 v.Q2 v.D2 v.Q1 floor dir) λy=>0≤y.1.1∧y.1.1≤1000000:=by
 unfold EH;have one:(0:Int)≤1000000∧(1000000:Int)≤1000000:=by decide
 refine Sat.bindE (AR b) (O (λ_=>J one) λhc=>O (λ_=>J one) λg1=>O (λ_=>J one) λg2=>?_);have g1:=D_ g1;have g2:=D_ g2;have hcode:b.code=0:=by simpa using hc
 have ib:inB car b.B0.length=H:=Ac ω ω;refine V (Q:=λy=>y.1.1=car∧y.2.1=b.tup) (O (λ_=>J ⟨rfl,rfl⟩) λ_=>J ⟨rfl,rfl⟩) λy2 h2=>?_;obtain⟨⟨yc,ya⟩,yb,yv⟩:=y2;obtain⟨e1,e2⟩:=h2;simp only at e1 e2;subst e1 e2;have ht:=Ad7 hcode (ω:yc.toNat<b.B0.length);refine V (Ap5 ..) λy3 h3=>O (λ_=>J one) λq3=>aC ib ?_;have q3:=D_ q3;refine V (Amt ..) λy4 h4=>J ?_;have key:∀n:Int,0≤n→0≤(bif decide (1000000<n)then(1000000:Int)else n)∧(bif decide (1000000<n)then(1000000:Int)else n)≤1000000:=λn hn=>by
  by_cases g:1000000<n
  ·rw[b_ g];exact one
  ·rw[f_ g,P];omega
 refine key _ ?_;show 0≤U.wrap (aF U (y3.1.1*(b.B0.getD yc.toNat Fb).T3)+U.wrap (y4.1.1*U.wrap (aF U (2*(b.B0.getD yc.toNat Fb).N2)+(b.B0.getD yc.toNat Fb).M2)));generalize b.B0.getD yc.toNat Fb=c at ht;have k1:0≤y3.1.1*c.T3∧y3.1.1*c.T3≤4400*10000:=⟨Int.mul_nonneg ω ω,Int.mul_le_mul ω ω ω τ⟩
 rw[Aa (n:=2*c.N2) ω ω,Aa (n:=2*c.N2+c.M2) ω ω];have k2:0≤y4.1.1*(2*c.N2+c.M2)∧y4.1.1*(2*c.N2+c.M2)≤1000*30000:=⟨Int.mul_nonneg ω ω,Int.mul_le_mul ω ω ω τ⟩
 generalize y4.1.1*(2*c.N2+c.M2)=p at k2;generalize y3.1.1*c.T3=q at k1;rw[Aa (n:=q) ω ω,Aa (n:=p) ω ω,Aa ω ω];omega
def Aic(n:Int):Prop:=0≤n∧n<4294967296
def View.none:C:=aA A A A A 0 0 0 0 0 0 0 0
def Car.none:Car:=Car.mk 0 0 0 0 0 0 0 0 0
structure View.ok(v:View):Prop where
 c:Aic v.Q2
 u:Aic v.D2
 d:Aic v.Q1
def Am7(b:I)(car:Int)(v:C)(floor dir:Int):Option ((Int×Unit)×Unit):=EH b.C0 b.F0 b.H0 b.M0 b.K0 b.L0 b.N0 b.B0 car v.B3 v.D3 v.G3 v.V3 v.D0 v.I0 v.I3 v.J3 v.T2 v.Q2 v.D2 v.Q1 floor dir
def Sw(b:I)(car:Int)(v:C)(floor dir:Int):Int:=match Am7 b car v floor dir with | some r=>r.1.1 | none=>0
def Art(_hb:b.small){v:C}(_hv:v.ok)(car floor dir:Int):Am7 b car v floor dir=R ((Sw b car v floor dir,()),()):=by obtain⟨r,h,_⟩:=Vb b car v floor dir;have h':Am7 b car v floor dir=R r:=h;rw[show Sw b car v floor dir=r.1.1 by unfold Sw;rw[h']];exact h'
def Bkh(b:I)(car:Int)(v:C)(floor dir:Int):0≤Sw b car v floor dir∧Sw b car v floor dir≤1000000:=by obtain⟨r,h,h2⟩:=Vb b car v floor dir;have h':Am7 b car v floor dir=R r:=h;rw[show Sw b car v floor dir=r.1.1 by unfold Sw;rw[h']];exact h2
def Vh(v:C):Bool:=v.I3==3||v.I3==4
def QO(v:C):Hw v.B3 v.D3 v.G3 v.V3 v.D0 v.I0 v.I3 v.J3 v.T2 v.Q2 v.D2 v.Q1=R ((Vh v,()),()):=by unfold Hw Vh;cases v.I3==3<;>rfl
def Yx(a b:Int×Int):Bool:=decide (a.1<b.1)||(a.1==b.1&&decide (a.2<b.2))
def TS(a b:Int×Int):IZ a.1 a.2 b.1 b.2=R ((Yx a b,()),()):=by
 unfold IZ Yx;by_cases h:a.1=b.1
 ·by_cases h':a.2=b.2
  ·rw[h,h',l_,l_,f_ ω,f_ ω];rfl
  ·rw[h,l_,Ao h',f_ ω];rfl
 ·rw[Ao h];cases decide (a.1<b.1)<;>rfl
def Ar(vs:List C)(i:Int):C:=vs.getD i.toNat (aA A A A A 0 0 0 0 0 0 0 0)
def okViews(vs:List C):Prop:=∀v∈vs,v.ok
def View.ok_none:View.ok (aA A A A A 0 0 0 0 0 0 0 0):=⟨⟨τ,τ⟩,⟨τ,τ⟩,⟨τ,τ⟩⟩
def okViews.at(h:okViews vs)(i:Int):(Ar vs i).ok:=by
 unfold Ar;rw[k_];cases hq:vs[i.toNat]? with
 |none=>exact View.ok_none
 |some v=>exact h v (x_ hq)
def HR(b:I)(vs:List C)(floor dir:Int)(car:Int):Int×Int:=((bif Vh (Ar vs car)then 1 else 0),Sw b car (Ar vs car) floor dir)
def QP(hb:b.small)(hv:okViews vs){car:Int}(hc:0≤car∧car<vs.length)(floor dir:Int):
  Ly b.C0 b.F0 b.H0 b.M0 b.K0 b.L0 b.N0 b.B0 vs car floor dir=R (((),()),(((HR b vs floor dir car).1,(HR b vs floor dir car).2,()),())):=by
 unfold Ly;have e:EH b.C0 b.F0 b.H0 b.M0 b.K0 b.L0 b.N0 b.B0 car (Ar vs car).B3 (Ar vs car).D3 (Ar vs car).G3 (Ar vs car).V3 (Ar vs car).D0 (Ar vs car).I0 (Ar vs car).I3 (Ar vs car).J3 (Ar vs car).T2 (Ar vs car).Q2 (Ar vs car).D2 (Ar vs car).Q1 floor dir=_:=Art hb (hv.at car) car floor dir;rw[Ac hc.1 hc.2];show(EH b.C0 b.F0 b.H0 b.M0 b.K0 b.L0 b.N0 b.B0 car (Ar vs car).B3 (Ar vs car).D3 (Ar vs car).G3 (Ar vs car).V3 (Ar vs car).D0 (Ar vs car).I0 (Ar vs car).I3 (Ar vs car).J3 (Ar vs car).T2 (Ar vs car).Q2 (Ar vs car).D2 (Ar vs car).Q1 floor dir).bind (λy1=>(Hw (Ar vs car).B3 (Ar vs car).D3 (Ar vs car).G3 (Ar vs car).V3 (Ar vs car).D0 (Ar vs car).I0 (Ar vs car).I3 (Ar vs car).J3 (Ar vs car).T2 (Ar vs car).Q2 (Ar vs car).D2 (Ar vs car).Q1).bind (λy2=>bif y2.1.1 then R (((),()),(((1:Int),y1.1.1,()),()))else R (((),()),(((0:Int),y1.1.1,()),()))))=_;rw[e,S,QO,S];unfold HR;cases Vh (Ar vs car)<;>rfl
def MP(b:I)(vs:List C)(floor dir except:Int)(i best:Int):Int:=bif !(Ar vs i).B3||i==except then best else bif best==-1||Yx (HR b vs floor dir i) (HR b vs floor dir best)then i else best
def UT(b:I)(vs:List C)(floor dir except:Int):Nat→Nat→Int→Int
 |0,_,best=>best
 |m+1,i,best=>UT b vs floor dir except m (i+1) (MP b vs floor dir except i best)
def DU(b:I)(vs:List C)(floor dir except:Int):Int:=bif b.code !=0||(vs.length:Int) !=(b.B0.length:Int)then -1 else UT b vs floor dir except vs.length 0 (-1)
def RW(vs:List C)(best:Int):Prop:=best=-1∨(0≤best∧best<vs.length)
def Aba{floor dir except:Int}(hi:i<vs.length){best:Int}(h:RW vs best):RW vs (MP b vs floor dir except i best):=by
 unfold MP;cases(!(Ar vs i).B3||(i:Int)==except)with
 |true=>exact h
 |false=>
  simp only[P];cases(best==-1||Yx (HR b vs floor dir i) (HR b vs floor dir best))with
  |true=>exact .inr (by simp only[d_];omega)
  |false=>exact h
def RV{b:I}(hb:b.small){vs:List C}(hv:okViews vs)(hl:vs.length≤100)(floor dir except:Int) :
  ∀(m i:Nat) (best l0 l1:Int),i+m=vs.length→RW vs best→(best≠ -1→(l0,l1)=HR b vs floor dir best)→
   BX (λx=>letI a:=x.2.1.2.2;letI c:=x.1.2.2.2.2.2;letI d:=a.2.2;FW x.1.1 x.1.2.1 x.1.2.2.1 x.1.2.2.2.1 c.1 c.2.2.1 c.2.2.2.1 c.2.2.2.2.1 x.2.1.1 x.2.1.2.1 a.1 a.2.1 d.1 d.2.1 d.2.2.1 d.2.2.2.1 x.2.2.1.1 x.2.2.1.2.1) (m+1) ((vs,floor,dir,except,(),best,(),vs,(vs.length:Int),(i:Int),()),(b.tup,(l0,l1,()),()))=R ((UT b vs floor dir except m i best,()),())
 |0,i,best,l0,l1,hi,hin,hr=>by
  refine AE ?_;show FW vs floor dir except best vs (vs.length:Int) (i:Int) b.C0 b.F0 b.H0 b.M0 b.K0 b.L0 b.N0 b.B0 l0 l1=_;unfold FW;have e:decide ((i:Int)<(vs.length:Int))=A:=by simp;omega
  rw[e];rfl
 |m+1,i,best,l0,l1,hi,hin,hr=>by
  have hi':i<vs.length:=ω;have e:decide ((i:Int)<(vs.length:Int))=H:=by simp;omega
  have ib:inB (i:Int) vs.length=H:=Ac ω ω;have w:U.wrap ((i:Int)+1)=((i+1:Nat):Int):=by rw[Aa ω ω];omega
  have hs:∃l0' l1',(MP b vs floor dir except i best≠ -1→(l0',l1')=HR b vs floor dir (MP b vs floor dir except i best))∧FW vs floor dir except best vs (vs.length:Int) (i:Int) b.C0 b.F0 b.H0 b.M0 b.K0 b.L0 b.N0 b.B0 l0 l1=R (.inl ((vs,floor,dir,except,(),MP b vs floor dir except i best,(),vs,(vs.length:Int),((i+1:Nat):Int),()),(b.tup,(l0',l1',()),()))):=by
   unfold FW;have k1:=QP hb hv (car:=(i:Int)) ω floor dir;rw[e,ib,w];simp only[d_];unfold MP;rw[show vs.getD (Int.toNat (i:Int)) (aA A A A A 0 0 0 0 0 0 0 0)=Ar vs (i:Int)from rfl];cases(Ar vs (i:Int)).B3 with
   |false=>exact⟨l0,l1,hr,rfl⟩
   |true=>
    simp only[o_,P,aD];cases(i:Int)==except with
    |true=>exact⟨l0,l1,hr,rfl⟩
    |false=>
     simp only[P,k1,S];rcases hin with hbest | hbest
     ·subst hbest;rw[show((-1:Int)==-1)=H from rfl];simp only[d_,S,w,Bool.true_or];exact⟨_,_,λ_=>rfl,rfl⟩
     ·have hr':=hr ω;have e1:l0=(HR b vs floor dir best).1:=f5_ Prod.fst hr';have e2:l1=(HR b vs floor dir best).2:=f5_ Prod.snd hr';subst e1 e2;rw[Ao (ω:¬best=-1)];simp only[P,S,aD,TS];cases Yx (HR b vs floor dir i) (HR b vs floor dir best)with
      |true=>simp only[d_,w];exact⟨_,_,λ_=>rfl,rfl⟩
      |false=>simp only[P,w];exact⟨_,_,λ_=>rfl,rfl⟩
  obtain⟨l0',l1',h1,h2⟩:=hs;exact(BO h2).trans (RV hb hv hl floor dir except m (i+1) _ l0' l1' ω (Aba hi' hin) h1)
def OQ(hb:b.small)(hv:okViews vs)(hl:vs.length≤100)(floor dir except:Int):
  Hj b.C0 b.F0 b.H0 b.M0 b.K0 b.L0 b.N0 b.B0 vs floor dir except=R ((DU b vs floor dir except,()),()):=by
 unfold Hj DU;rw[AR,S];cases b.code !=0 with
 |true=>rfl
 |false=>
  simp only[P,aD];cases(vs.length:Int) !=(b.B0.length:Int)with
  |true=>rfl
  |false=>have h:=Ak (RV hb hv hl floor dir except vs.length 0 (-1) 0 0 ω (.inl rfl) (λh=>absurd rfl h)) ω;have h':JR ((vs,floor,dir,except,(),(-1:Int),(),vs,(vs.length:Int),(0:Int),()),(b.tup,((0:Int),(0:Int),()),()))=_:=h;simp only[P];refine(f5_ (λz=>Option.bind z _) h').trans ?_;rfl
def Amf{b:I}{vs:List C}{floor dir except:Int}:∀(m i:Nat) (best:Int),i+m=vs.length→RW vs best→RW vs (UT b vs floor dir except m i best)
 |0,_,_,_,h=>h
 |m+1,i,best,hi,h=>Amf m (i+1) _ ω (Aba ω h)
def SW(b:I)(vs:List C)(floor dir except:Int):RW vs (DU b vs floor dir except):=by
 unfold DU;cases(b.code !=0||(vs.length:Int) !=(b.B0.length:Int))with
 |true=>exact .inl rfl
 |false=>exact Amf vs.length 0 (-1) ω (.inl rfl)
def ZQ(b:I)(vs:List C)(e:L)(x n:Int):Bool:=((Ar vs e.R0).G3&&(x==0&&Yx (HR b vs e.D0 e.I0 n) (HR b vs e.D0 e.I0 e.R0)))||(!(Ar vs e.R0).G3&&(Vh (Ar vs e.R0)&&!Vh (Ar vs n)))
def KD(b:I)(vs:List C)(e:L)(x:Int):Int:=bif DU b vs e.D0 e.I0 e.R0==-1 then -1 else bif ZQ b vs e x (DU b vs e.D0 e.I0 e.R0)then DU b vs e.D0 e.I0 e.R0 else -1
def Ev(b:I)(vs:List C)(e:L)(x:Int):L:=
 bif e.R0==-2 then e
 else bif e.R0==-1 then⟨e.D0,e.I0,DU b vs e.D0 e.I0 (-1),e.Z0,e.R1⟩
 else bif(Ar vs e.R0).V3 then(bif decide ((b.B0.length:Int)<e.Z0)then⟨e.D0,e.I0,-2,e.Z0,e.R1⟩else⟨e.D0,e.I0,DU b vs e.D0 e.I0 e.R0,e.Z0+1,e.R1⟩)
 else bif !e.R1&&decide (e.Z0≤(b.B0.length:Int))then(bif KD b vs e x != -1 then⟨e.D0,e.I0,KD b vs e x,e.Z0+1,H⟩else e)
 else e
def Entry.tup(e:L):Int×Int×Int×Int×Bool×Unit:=(e.D0,e.I0,e.R0,e.Z0,e.R1,())
section
variable{b:I}(hb:b.small){vs:List C}(hv:okViews vs)(hl:vs.length≤100){e:L}
include hb hv hl
theorem Ac2(hc:0≤e.R0∧e.R0<vs.length)(x:Int):GQ b.C0 b.F0 b.H0 b.M0 b.K0 b.L0 b.N0 b.B0 vs e.D0 e.I0 e.R0 e.Z0 e.R1 x=R ((KD b vs e x,()),()):=by
 unfold GQ KD;have hn:=SW b vs e.D0 e.I0 e.R0;rw[OQ hb hv hl];generalize DU b vs e.D0 e.I0 e.R0=n at hn;simp only[S];rcases hn with rfl | hn
 ·rfl
 ·have k1:=QP hb hv hn e.D0 e.I0;have k2:=QP hb hv hc e.D0 e.I0;have f1:=QO (Ar vs e.R0);have f2:=QO (Ar vs n);rw[Ao (ω:¬n=-1),Ac hc.1 hc.2];unfold ZQ;unfold Ar at f1 f2⊢;simp only[d_,P];cases hleg:(vs.getD e.R0.toNat (aA A A A A 0 0 0 0 0 0 0 0)).G3 with
  |true=>
   simp only[d_,u_,o_,a8_,Bool.or_false];cases x==0 with
   |true=>simp only[d_,u_,k1,k2,S,TS];cases Yx (HR b vs e.D0 e.I0 n) (HR b vs e.D0 e.I0 e.R0)<;>rfl
   |false=>rfl
  |false=>
   rw[hleg]at f1;simp only[P,a8_,d4_,u_,aD,S,d_,f1];cases Vh (vs.getD e.R0.toNat (aA A A A A 0 0 0 0 0 0 0 0))with
   |false=>rfl
   |true=>simp only[d_,Ac hn.1 hn.2,u_,f2,S];cases Vh (vs.getD n.toNat (aA A A A A 0 0 0 0 0 0 0 0))<;>rfl
theorem Aa2(hc:-2≤e.R0∧e.R0<vs.length)(hm:0≤e.Z0∧e.Z0≤255)(x:Int):Gh b.C0 b.F0 b.H0 b.M0 b.K0 b.L0 b.N0 b.B0 vs e.D0 e.I0 e.R0 e.Z0 e.R1 x=R (((),()),((Ev b vs e x).tup,())):=by
 unfold Gh Ev;have w:U.wrap (e.Z0+1)=e.Z0+1:=Aa ω ω;by_cases g1:e.R0=-2
 ·rw[show(e.R0==-2)=H by rw[g1];rfl];rfl
 rw[Ao g1];by_cases g2:e.R0=-1
 ·rw[show(e.R0==-1)=H by rw[g2];rfl];simp only[d_,P,OQ hb hv hl,S];rfl
 rw[Ao g2];have hc':0≤e.R0∧e.R0<vs.length:=ω;have ho:=Ac2 hb hv hl hc' x;unfold Ar;simp only[P,Ac hc'.1 hc'.2,d_];cases hlost:(vs.getD e.R0.toNat (aA A A A A 0 0 0 0 0 0 0 0)).V3 with
 |true=>
  simp only[d_,S];cases decide ((b.B0.length:Int)<e.Z0)with
  |true=>rfl
  |false=>simp only[P,Ac hc'.1 hc'.2,d_,hlost,OQ hb hv hl,S,w];rfl
 |false=>
  simp only[P,S,Ac hc'.1 hc'.2,d_,hlost];cases hmv:e.R1 with
  |true=>simp only[o_,P,S,a8_];unfold Entry.tup;rw[hmv]
  |false=>
   rw[hmv]at ho;simp only[d4_,d_,S,u_];cases decide (e.Z0≤(b.B0.length:Int))with
   |false=>simp only[P];unfold Entry.tup;rw[hmv]
   |true=>
    simp only[d_,ho,S,w];cases KD b vs e x != -1 with
    |true=>rfl
    |false=>simp only[P];unfold Entry.tup;rw[hmv]
end
def NF(was now:L):List W:=(bif was.Z0 !=now.Z0||!(was.R1==now.R1)then [⟨7,now.D0,now.I0,(bif now.R1 then 1 else 0),now.Z0⟩]else [])++(bif was.R0 !=now.R0 then [⟨3,now.D0,now.I0,now.R0,0⟩]else [])
def Ajt(a b:L):(NF a b).length≤2:=by unfold NF;cases(a.Z0 !=b.Z0||!(a.R1==b.R1))<;>cases a.R0 !=b.R0<;>simp
def Aaw(a c:L):KP a.D0 a.I0 a.R0 a.Z0 a.R1 c.D0 c.I0 c.R0 c.Z0 c.R1=R ((NF a c,()),()):=by
 unfold KP NF;have b1:∀r:W,Nat.ble (([]:List W).length+[r].length) 2147483648=H:=λ_=>Az σ;have b2:∀r s:W,Nat.ble (([]++[s]:List W).length+[r].length) 2147483648=H:=λ_ _=>Az σ;cases a.Z0 !=c.Z0<;>cases a.R1==c.R1<;>cases hm:c.R1<;>cases hc:a.R0 !=c.R0<;>
  simp only[d_,P,S,o_,d4_,Bool.or_true,Bool.true_or,Bool.or_self,b1,b2,hc]<;>rfl
def WP(b:I)(i:Int):Car:=b.B0.getD i.toNat (Car.mk 0 0 0 0 0 0 0 0 0)
def Aag(b:I)(vs:List C)(e n:L)(x:Int):Int:=
 bif n.R0 !=e.R0&&decide (0≤n.R0)then(bif decide (1000000<U.wrap (Sw b n.R0 (Ar vs n.R0) e.D0 e.I0+(WP b n.R0).K2))then 1000000 else U.wrap (Sw b n.R0 (Ar vs n.R0) e.D0 e.I0+(WP b n.R0).K2))
 else(bif decide (aF U (x-1)<0)then 0 else U.wrap (x-1))
def GW(b:I)(vs:List C):List L→List Int→List W
 |e::t,x::xs=>NF e (Ev b vs e x)++GW b vs t xs
 |_,_=>[]
def MB(b:I)(vs:List C):List L→List Int→List Int
 |e::t,x::xs=>Aag b vs e (Ev b vs e x) x::MB b vs t xs
 |_,_=>[]
def Bax(b:I)(vs:List C)(e:L)(x:Int):(Ev b vs e x).D0=e.D0∧(Ev b vs e x).I0=e.I0:=by unfold Ev;cases e.R0==-2<;>cases e.R0==-1<;>cases(Ar vs e.R0).V3<;>cases decide ((b.B0.length:Int)<e.Z0)<;>cases(!e.R1&&decide (e.Z0≤(b.B0.length:Int)))<;>cases KD b vs e x != -1<;>exact⟨rfl,rfl⟩
def Bb3(b:I)(vs:List C)(e:L)(x:Int):RW vs (KD b vs e x):=by
 unfold KD;cases DU b vs e.D0 e.I0 e.R0==-1 with
 |true=>exact .inl rfl
 |false=>
  cases ZQ b vs e x (DU b vs e.D0 e.I0 e.R0)with
  |true=>exact SW ..
  |false=>exact .inl rfl
def Arm(b:I)(h:-2≤e.R0∧e.R0<vs.length)(x:Int):-2≤(Ev b vs e x).R0∧(Ev b vs e x).R0<vs.length:=by
 have k:∀n:Int,RW vs n→-2≤n∧n<vs.length:=λn h=>by
  rcases h with rfl | h
  ·omega
  ·omega
 unfold Ev;by_cases g1:e.R0=-2
 ·rw[show(e.R0==-2)=H by rw[g1];rfl];exact h
 rw[Ao g1];by_cases g2:e.R0=-1
 ·rw[show(e.R0==-1)=H by rw[g2];rfl];exact k _ (SW ..)
 rw[Ao g2];simp only[P];cases(Ar vs e.R0).V3 with
 |true=>
  cases decide ((b.B0.length:Int)<e.Z0)with
  |true=>exact⟨by show(-2:Int)≤-2;omega,by show(-2:Int)<_;omega⟩
  |false=>exact k _ (SW ..)
 |false=>
  cases(!e.R1&&decide (e.Z0≤(b.B0.length:Int)))with
  |true=>
   cases KD b vs e x != -1 with
   |true=>exact k _ (Bb3 ..)
   |false=>exact h
  |false=>exact h
def Aiu{b:I}:∀{l:List L}{p:Option L},Gi b p l=H→∀e∈l,HN b e=H
 |[],_,_,_,he=>by cases he
 |a::t,p,h,e,he=>by
  simp only[Gi,e_]at h;rcases s_.1 he with rfl | he
  ·exact h.1
  ·exact Aiu h.2.2 e he
def TC(N:List α)(a v:α)(t:List α):(N++a::t).set N.length v=N++v::t:=by
 induction N with
 |nil=>rfl
 |cons h N ih=>simp only[List.cons_append,C_,List.set_cons_succ,ih]
section
variable{b:I}(hb:b.small){vs:List C}(hv:okViews vs)(hl:vs.length≤100)(hlen:(vs.length:Int)=(b.B0.length:Int)){m:Img}(hm:∀e∈m.A0,HN b e=H)(hm':m.A0.length≤1000){xs:List Int}(hx:xs.length=m.A0.length)
include hb hv hl hlen hm hm' hx
theorem TT:∀(k i:Nat) (out:List W) (N:List Int),i+k=m.A0.length→N.length=i→out.length≤2*i→
  BX (λx=>letI a:=x.2.2.1.2.2;letI c:=x.1.2.2.2.2;letI d:=x.2.1.2.2;letI f:=a.2.2;letI g:=d.2.2;Ho x.1.1 x.1.2.1 c.1 c.2.1 c.2.2.1 c.2.2.2.1 c.2.2.2.2.1 x.2.1.1 x.2.1.2.1 d.1 d.2.1 g.1 g.2.1 g.2.2.1 g.2.2.2.1 x.2.2.1.1 x.2.2.1.2.1 a.1 a.2.1 f.1 f.2.1 f.2.2.1 f.2.2.2.1 f.2.2.2.2.1) (k+1)
   ((xs,vs,(),(),out,N++X k 0,m.A0,(m.A0.length:Int),(i:Int),()),(b.tup,(b.C0,b.F0,b.H0,b.M0,b.K0,b.L0,b.N0,b.B0,vs,()),()))=R ((out++GW b vs (m.A0.drop i) (xs.drop i),N++MB b vs (m.A0.drop i) (xs.drop i),()),())
 |0,i,out,N,hi,hN,ho=>by
  refine AE ?_;show Ho xs vs out (N++[]) m.A0 (m.A0.length:Int) (i:Int) b.C0 b.F0 b.H0 b.M0 b.K0 b.L0 b.N0 b.B0 b.C0 b.F0 b.H0 b.M0 b.K0 b.L0 b.N0 b.B0 vs=_;unfold Ho;have e:decide ((i:Int)<(m.A0.length:Int))=A:=by simp;omega
  rw[e,show i=m.A0.length by omega,a7_];simp[GW,MB]
 |k+1,i,out,N,hi,hN,ho=>by
  have hi':i<m.A0.length:=ω;have hix:i<xs.length:=ω;have e:decide ((i:Int)<(m.A0.length:Int))=H:=by simp;omega
  have ib:inB (i:Int) m.A0.length=H:=Ac ω ω;have ibx:inB (i:Int) xs.length=H:=Ac ω ω;have ibn:inB (i:Int) (N++X (k+1) (0:Int)).length=H:=Ac ω (by simp;omega);have w:U.wrap ((i:Int)+1)=((i+1:Nat):Int):=by rw[Aa ω ω];omega
  have hok:=BU B hi';have hent:=hm _ hok;simp only[HN,e_,t_]at hent;obtain⟨_,c1,c2,c3,c4⟩:=hent;have hd:=Aa2 hb hv hl (e:=m.A0.getD i B) ω ⟨c3,c4⟩ (xs.getD i 0);have hr:=Aaw (m.A0.getD i B) (Ev b vs (m.A0.getD i B) (xs.getD i 0));have hin:=Arm b (vs:=vs) (e:=m.A0.getD i B) ω (xs.getD i 0);have hrl:=Ajt (m.A0.getD i B) (Ev b vs (m.A0.getD i B) (xs.getD i 0));have hble:Nat.ble (out.length+(NF (m.A0.getD i B) (Ev b vs (m.A0.getD i B) (xs.getD i 0))).length) 2147483648=H:=Az ω;have hset:∀v:Int,(N++X (k+1) (0:Int)).set i v=N++v::X k 0:=λv=>by rw[← hN];exact TC N 0 v (X k 0)
  have hset2:∀v u:Int,(N++v::X k (0:Int)).set i u=N++u::X k 0:=λv u=>by rw[← hN];exact TC N v u (X k 0)
  have ibn2:∀v:Int,inB (i:Int) (N++v::X k (0:Int)).length=H:=λv=>Ac ω (by simp;omega);rw[BT B hi',BT (0:Int) hix];refine(BO (x':=((xs,vs,(),(),out++NF (m.A0.getD i B) (Ev b vs (m.A0.getD i B) (xs.getD i 0)),(N++[Aag b vs (m.A0.getD i B) (Ev b vs (m.A0.getD i B) (xs.getD i 0)) (xs.getD i 0)])++X k 0,m.A0,(m.A0.length:Int),((i+1:Nat):Int),()),(b.tup,(b.C0,b.F0,b.H0,b.M0,b.K0,b.L0,b.N0,b.B0,vs,()),()))) ?_).trans ?_
  ·show Ho xs vs out (N++X (k+1) 0) m.A0 (m.A0.length:Int) (i:Int) b.C0 b.F0 b.H0 b.M0 b.K0 b.L0 b.N0 b.B0 b.C0 b.F0 b.H0 b.M0 b.K0 b.L0 b.N0 b.B0 vs=_;unfold Ho;rw[e,ib,ibx,show aB 0 0 0 0 A=B from rfl];unfold Entry.tup at hd;simp only[d_,h_,hd,S,hr,hble,ibn,hset];unfold Aag;have hest:=Art hb (hv.at (Ev b vs (m.A0.getD i B) (xs.getD i 0)).R0) (Ev b vs (m.A0.getD i B) (xs.getD i 0)).R0 (m.A0.getD i B).D0 (m.A0.getD i B).I0;unfold Am7 Ar at hest;cases hne:((Ev b vs (m.A0.getD i B) (xs.getD i 0)).R0 !=(m.A0.getD i B).R0)with
   |false=>simp only[P,S,a8_,O_,e5_,w];rfl
   |true=>
    simp only[d_,S,u_];by_cases hge:0≤(Ev b vs (m.A0.getD i B) (xs.getD i 0)).R0
    ·have ibc:inB (Ev b vs (m.A0.getD i B) (xs.getD i 0)).R0 vs.length=H:=Ac hge hin.2;have ibc':inB (Ev b vs (m.A0.getD i B) (xs.getD i 0)).R0 b.B0.length=H:=Ac hge ω;rw[b_ hge];simp only[d_,ibc,hest,S,ibc',ibn2,h_,hset2,O_,e5_,w];rfl
    ·rw[f_ hge];simp only[P,O_,e5_,w];rfl
  ·rw[TT k (i+1) _ (N++[_]) ω (by simp;omega) (by rw[i_];omega)];simp only[GW,MB,O_,e5_]
end
def Qm(xs:List Int):Bool:=xs.all (inR 0 1000000)
def Bb9(n:Int):Me n=R ((!inR 0 1000000 n,()),()):=by
 unfold Me inR;by_cases g:n<0
 ·rw[b_ g,f_ (ω:¬0≤n)];rfl
 ·rw[f_ g,b_ (ω:0≤n)];by_cases g':1000000<n
  ·rw[b_ g',f_ (ω:¬n≤1000000)];rfl
  ·rw[f_ g',b_ (ω:n≤1000000)];rfl
def Ap4(hl:xs.length≤maxLen):BD xs=R ((!Qm xs,()),()):=by
 have hm:maxLen≤9223372036854775807:=by decide
 have key:∀(k i:Nat),i+k=xs.length→∃y,BX (λx=>AP x.1.1 x.1.2.2.1 x.1.2.2.2.1) (k+1) ((xs,(),(xs.length:Int),(i:Int),()),())=R y∧(match y with | .inl _=>(xs.drop i).all (inR 0 1000000)=H | .inr z=>0≤z.1.1∧(xs.drop i).all (inR 0 1000000)=A):=by
  intro k;induction k with
  |zero=>
   intro i hi;refine⟨.inl ((),()),AE ?_,?_⟩
   ·show AP xs (xs.length:Int) (i:Int)=_;unfold AP;rw[show decide ((i:Int)<(xs.length:Int))=A by simp;omega];rfl
   ·rw[show i=xs.length by omega,a7_];rfl
  |succ k ih=>
   intro i hi;have hi':i<xs.length:=ω;have hs:AP xs (xs.length:Int) (i:Int)=R (bif inR 0 1000000 (xs.getD i 0)then .inl ((xs,(),(xs.length:Int),((i+1:Nat):Int),()),())else .inr (.inr (((i:Int),()),()))):=by
    unfold AP;have w:U.wrap ((i:Int)+1)=((i+1:Nat):Int):=by rw[Aa ω ω];omega
    rw[show decide ((i:Int)<(xs.length:Int))=H by simp;omega,Ac ω ω,Bb9,w];simp only[d_,h_,S];cases inR 0 1000000 (xs.getD i 0)<;>rfl
   rw[BT (0:Int) hi',Z_];cases hq:inR 0 1000000 (xs.getD i 0)with
   |true=>rw[hq]at hs;obtain⟨y,h1,h2⟩:=ih (i+1) ω;exact⟨y,(BO hs).trans h1,by rw[u_];exact h2⟩
   |false=>rw[hq]at hs;exact⟨_,AE hs,by show(0:Int)≤(i:Int)∧_;exact⟨ω,rfl⟩⟩
 obtain⟨y,h1,h2⟩:=key xs.length 0 ω;have h1':BI ((xs,(),(xs.length:Int),(0:Int),()),())=R y:=Ak h1 ω;rw[P_]at h2;unfold BD CU Qm;rw[h1'];cases y with
 |inl z=>simp only at h2;rw[h2];rfl
 |inr z=>simp only at h2;rw[h2.2];simp only[S];rw[b_ h2.1];rfl
def OF(b:I)(m:Img)(xs:List Int)(vs:List C):List W×List Int×Int×Unit:=bif m.ok b&&((xs.length:Int)==(m.A0.length:Int)&&((vs.length:Int)==(b.B0.length:Int)&&Qm xs))then(GW b vs m.A0 xs,MB b vs m.A0 xs,0,())else([],[],1,())
def Img.ok_all(h:m.ok b=H):b.code=0∧m.G0.length=b.B0.length∧m.O0.length=b.B0.length∧m.J0.length=b.B0.length∧(∀p∈m.G0,0≤p∧p≤4)∧(∀e∈m.A0,HN b e=H)∧Gi b Option.none m.A0=H:=by unfold Img.ok at h;simp only[e_,U_]at h;obtain⟨h0,h1,h2,h3,h4,h5⟩:=h;exact⟨h0,ω,ω,ω,λp hp=>As.1 (N_.1 h4 p hp),Aiu h5,h5⟩
section
variable{b:I}(hb:b.small){vs:List C}(hv:okViews vs)(hl:vs.length≤100)(m:Img)(hm:m.A0.length≤1000)(hp:m.G0.length≤maxLen)(xs:List Int)(hx:xs.length≤maxLen)
include hb hv hl hm hp hx
theorem Agl:IJ b.C0 b.F0 b.H0 b.M0 b.K0 b.L0 b.N0 b.B0 m.G0 m.O0 m.J0 m.A0 xs vs=R (OF b m xs vs,()):=by
 have hmx:1000≤maxLen:=by decide
 unfold IJ OF;rw[Db hb m hp ω,Ap4 hx];simp only[S,bne];cases hok:m.ok b with
 |false=>rfl
 |true=>
  cases hq:(xs.length:Int)==(m.A0.length:Int)with
  |false=>rfl
  |true=>
   cases hr:(vs.length:Int)==(b.B0.length:Int)with
   |false=>rfl
   |true=>
    cases Qm xs with
    |false=>rfl
    |true=>
     have hq':(xs.length:Int)=(m.A0.length:Int):=by simpa using hq
     have hr':(vs.length:Int)=(b.B0.length:Int):=by simpa using hr
     obtain⟨_,_,_,_,_,hall,_⟩:=Img.ok_all hok;have hlp:=Ak (TT hb hv hl hr' hall hm (xs:=xs) ω m.A0.length 0 [] [] ω rfl σ) ω;have hlp':Mo ((xs,vs,(),(),([]:List W),X m.A0.length (0:Int),m.A0,(m.A0.length:Int),(0:Int),()),(b.tup,(b.C0,b.F0,b.H0,b.M0,b.K0,b.L0,b.N0,b.B0,vs,()),()))=_:=hlp;unfold Bldg.tup at hlp';simp only[o_,P,hq',b_ (ω:(0:Int)≤(m.A0.length:Int)),b_ (c7_ (m.A0.length:Int)),b_ (ω:(m.A0.length:Int)≤2147483648),a0_,d_,h_,hlp',S,P_,a1_]
end
def Zr(b:I)(vs:List C):∀(l:List L) (xs:List Int),(GW b vs l xs).length≤2*l.length
 |[],_=>by simp[GW]
 |_::_,[]=>by simp[GW]
 |e::t,x::xs=>by have h1:=Zr b vs t xs;have h2:=Ajt e (Ev b vs e x);simp only[GW,i_,C_];omega
def Zq(b:I)(vs:List C):∀(l:List L) (xs:List Int),xs.length=l.length→(MB b vs l xs).length=l.length
 |[],_,_=>by simp[MB]
 |_::_,[],h=>by simp at h
 |e::t,x::xs,h=>by simp only[MB,C_,Zq b vs t xs (by simpa using h)]
def Bb8(b:I)(m:Img)(xs:List Int)(vs:List C):(OF b m xs vs).1.length≤2*m.A0.length∧(OF b m xs vs).2.1.length≤m.A0.length:=by
 unfold OF;cases hq:(m.ok b&&((xs.length:Int)==(m.A0.length:Int)&&((vs.length:Int)==(b.B0.length:Int)&&Qm xs)))with
 |false=>exact⟨σ,σ⟩
 |true=>simp only[e_,U_]at hq;refine⟨Zr b vs m.A0 xs,?_⟩;show(MB b vs m.A0 xs).length≤_;rw[Zq b vs m.A0 xs ω];exact A_ _
def noV:C:=aA A A A A 0 0 0 0 0 0 0 0
def noP:Calls:=Calls.mk 0 0
structure Lan where
 lit:List Calls
 gong:List Bool
 cl:Int×Int
def Lan.tup(l:Lan):List Calls×List Bool×Int×Int×Unit:=(l.lit,l.gong,l.cl.1,l.cl.2,())
def Lan.none:Lan:=⟨[],[],(0,0)⟩
def MY(b:I)(vs:List C)(i:Nat)(s:Lan):Int×Int:=Ay (Di b (vs.getD i noV)) s.cl
def KC(b:I)(vs:List C)(ps:List Calls)(i:Nat)(s:Lan):Lan:=⟨s.lit++[Calls.mk (MY b vs i s).1 (MY b vs i s).2],s.gong++[!isZ (Ay (MY b vs i s) ((ps.getD i noP).Up,(ps.getD i noP).X3))],BV s.cl (MY b vs i s)⟩
def CT(b:I)(vs:List C)(ps:List Calls):Lan:=Bo (KC b vs ps) vs.length 0 Lan.none
def Ae7(b:I)(vs:List C)(ps:List Calls):Lan×Int:=bif(vs.length:Int)==(b.B0.length:Int)&&((ps.length:Int)==(b.B0.length:Int))then(CT b vs ps,0)else(Lan.none,1)
section
variable{b:I}(hb:b.small)(hcode:b.code=0)
include hb hcode
theorem YZ(vs:List C)(ps:List Calls)(hl:vs.length≤1000)(hp:ps.length=vs.length):JS ((ps,(),(),(),vs,(vs.length:Int),(0:Int),()),(b.tup,Lan.none.tup,Lan.none.tup,()))=R (((),(),()),(Lan.none.tup,(CT b vs ps).tup,()))∧(CT b vs ps).lit.length=vs.length∧(CT b vs ps).gong.length=vs.length:=by
 have key:=λ(step:_→_) (h1:∀(i:Nat) (s:Lan),i<vs.length→(s.lit.length=i∧s.gong.length=i)→step ((ps,(),(),(),vs,(vs.length:Int),(i:Int),()),(b.tup,Lan.none.tup,s.tup,()))=R (.inl ((ps,(),(),(),vs,(vs.length:Int),((i+1:Nat):Int),()),(b.tup,Lan.none.tup,(KC b vs ps i s).tup,())))) h2=>AQ (step:=step) vs.length (λi (s:Lan)=>((ps,(),(),(),vs,(vs.length:Int),(i:Int),()),(b.tup,Lan.none.tup,s.tup,()))) (KC b vs ps) (λi s=>s.lit.length=i∧s.gong.length=i) (λs=>(((),(),()),(Lan.none.tup,s.tup,()))) (λi s hi hs=>⟨h1 i s hi hs,by
   constructor
   ·show(s.lit++[_]).length=_;rw[i_,G_,hs.1]
   ·show(s.gong++[_]).length=_;rw[i_,G_,hs.2]⟩) h2 vs.length 0 Lan.none ω ⟨rfl,rfl⟩
 have h:=key (λx=>letI a:=x.2.1.2.2;letI c:=x.2.2;letI d:=x.1.2.2.2.2;letI e:=a.2.2;letI f:=c.2.1;FX x.1.1 d.1 d.2.1 d.2.2.1 x.2.1.1 x.2.1.2.1 a.1 a.2.1 e.1 e.2.1 e.2.2.1 e.2.2.2.1 c.1.1 c.1.2.1 c.1.2.2.1 c.1.2.2.2.1 f.1 f.2.1 f.2.2.1 f.2.2.2.1) (λi s hi hs=>by
  show FX ps vs (vs.length:Int) (i:Int) b.C0 b.F0 b.H0 b.M0 b.K0 b.L0 b.N0 b.B0 [] [] 0 0 s.lit s.gong s.cl.1 s.cl.2=_;unfold FX;rw[show aA A A A A 0 0 0 0 0 0 0 0=noV from rfl,show Calls.mk 0 0=noP from rfl];simp only[b_ (ω:(i:Int)<(vs.length:Int)),Ac (ω:(0:Int)≤(i:Int)) (ω:(i:Int)<(vs.length:Int)),Ac (ω:(0:Int)≤(i:Int)) (ω:(i:Int)<(ps.length:Int)),d_,h_,SF hb hcode,S,ER hi (show vs.length≤AL by unfold AL;omega)];have e1:=GI (Di b (vs.getD i noV)) s.cl;have e2:=GI (MY b vs i s) ((ps.getD i noP).Up,(ps.getD i noP).X3);have e3:=Fl s.cl (MY b vs i s);unfold MY at e2 e3;simp only at e2;simp only[e1,S,e2,e3];rw[Az (show s.lit.length+[Calls.mk (Ay (Di b (vs.getD i noV)) s.cl).1 (Ay (Di b (vs.getD i noV)) s.cl).2].length≤2147483648 by show s.lit.length+1≤_;omega)];rw[Az (show s.gong.length+[!((Ay (Ay (Di b (vs.getD i noV)) s.cl) ((ps.getD i noP).Up,(ps.getD i noP).X3)).1==0&&((Ay (Ay (Di b (vs.getD i noV)) s.cl) ((ps.getD i noP).Up,(ps.getD i noP).X3)).2==0&&H))].length≤2147483648 by show s.gong.length+1≤_;omega)];rfl) (λs _=>by
  show FX ps vs (vs.length:Int) (vs.length:Int) b.C0 b.F0 b.H0 b.M0 b.K0 b.L0 b.N0 b.B0 [] [] 0 0 s.lit s.gong s.cl.1 s.cl.2=_;unfold FX;simp only[f_ (M_ (vs.length:Int)),P];rfl)
 exact⟨Ak h.1 ω,h.2.1,h.2.2⟩
theorem Acp(vs:List C)(ps:List Calls)(hl:vs.length≤1000):Mk b.C0 b.F0 b.H0 b.M0 b.K0 b.L0 b.N0 b.B0 vs ps=R (((),(Ae7 b vs ps).2,()),((Ae7 b vs ps).1.tup,())):=by
 unfold Mk Ae7;rw[AR,hcode];simp only[S,Q_,P];by_cases h1:vs.length=b.B0.length
 ·by_cases h2:ps.length=b.B0.length
  ·have h:=(YZ hb hcode vs ps hl ω).1;simp only[Bldg.tup,Lan.tup,Lan.none]at h;rw[h1]at h⊢;rw[h2];simp only[Q_,P,l_,a0_,d_,h];rfl
  ·rw[h1,Q_,GT (ω:¬(ps.length:Int)=(b.B0.length:Int)),Ao (ω:¬(ps.length:Int)=(b.B0.length:Int)),c1_];rfl
 ·rw[GT (ω:¬(vs.length:Int)=(b.B0.length:Int)),Ao (ω:¬(vs.length:Int)=(b.B0.length:Int))];rfl
end
def JF(b:I)(vs:List C)(F D:Int):Bool:=vs.any λv=>An (Di b v) F.toNat D
def CX(b:I)(vs:List C)(l:List L):List W:=l.flatMap λe=>bif JF b vs e.D0 e.I0 then [aE 2 e.D0 e.I0 0 0]else []
def Al8(b:I)(vs:List C){f:Nat}{d:Int}:∀(k i:Nat) (s:Int×Int),i+k=vs.length→An (Bo (λi s=>BV s (Di b (vs.getD i noV))) k i s) f d=(An s f d||(vs.drop i).any λv=>An (Di b v) f d)
 |0,i,s,hi=>by rw[show i=vs.length by omega,a7_];simp[Bo]
 |k+1,i,s,hi=>by show An (Bo (λi s=>BV s (Di b (vs.getD i noV))) k (i+1) (BV s (Di b (vs.getD i noV)))) f d=_;rw[Al8 b vs k (i+1) _ ω,GS,BT noV (ω:i<vs.length),List.any_cons,Bool.or_assoc]
def Zz(b:I)(vs:List C):∀l:List L,(CX b vs l).length≤l.length
 |[]=>A_ _
 |e::t=>by have h:=Zz b vs t;show((bif JF b vs e.D0 e.I0 then [aE 2 e.D0 e.I0 0 0]else [])++CX b vs t).length≤_;rw[i_,C_];cases JF b vs e.D0 e.I0<;>simp<;>omega
def TZ(hb:b.small)(h:Ap b e.D0 e.I0=H):RB e:=by have lo:=hb.lo;have hi:=hb.hi;unfold Ap OA at h;simp only[e_,S_,U_,As]at h;unfold RB;omega
section
variable{b:I}(hb:b.small)(hcode:b.code=0){m:Img}(hm:ImgOK b m)(hl:m.A0.length≤100000)(vs:List C)(hv:(vs.length:Int)=(b.B0.length:Int))
include hb hcode hm hl hv
theorem Acq:Ml b.C0 b.F0 b.H0 b.M0 b.K0 b.L0 b.N0 b.B0 m.G0 m.O0 m.J0 m.A0 vs=R ((CX b vs m.A0,()),()):=by
 have hcc:=Aj hcode;have hmx:100000≤maxLen:=by decide
 have hlp:=hm.lp;have h0:=AQ (step:=λx=>letI a:=x.2.1.2.2;letI c:=x.2.2;letI g:=a.2.2;FY x.1.2.2.2.1 x.1.2.2.2.2.1 x.1.2.2.2.2.2.1 x.2.1.1 x.2.1.2.1 a.1 a.2.1 g.1 g.2.1 g.2.2.1 g.2.2.2.1 c.1.1 c.1.2.1 c.1.2.2.1 c.1.2.2.2.1 c.2.1.1 c.2.1.2.1) vs.length (λi (s:Int×Int)=>(((),(),(),vs,(vs.length:Int),(i:Int),()),(b.tup,m.tup,(s.1,s.2,()),()))) (λi s=>BV s (Di b (vs.getD i noV))) (λ_ _=>True) (λs=>(((),(),()),(m.tup,(s.1,s.2,()),()))) (λi s hi _=>⟨by
  show FY vs (vs.length:Int) (i:Int) b.C0 b.F0 b.H0 b.M0 b.K0 b.L0 b.N0 b.B0 m.G0 m.O0 m.J0 m.A0 s.1 s.2=_;unfold FY;rw[show aA A A A A 0 0 0 0 0 0 0 0=noV from rfl];have e3:=Fl s (Di b (vs.getD i noV));simp only[b_ (ω:(i:Int)<(vs.length:Int)),Ac (ω:(0:Int)≤(i:Int)) (ω:(i:Int)<(vs.length:Int)),d_,h_,SF hb hcode,S,e3,ER hi (show vs.length≤AL by unfold AL;omega)];rfl,trivial⟩) (λs _=>by
  show FY vs (vs.length:Int) (vs.length:Int) b.C0 b.F0 b.H0 b.M0 b.K0 b.L0 b.N0 b.B0 m.G0 m.O0 m.J0 m.A0 s.1 s.2=_;unfold FY;simp only[f_ (M_ (vs.length:Int)),P];rfl) vs.length 0 (0,0) ω trivial
 have h0':JT (((),(),(),vs,(vs.length:Int),(0:Int),()),(b.tup,m.tup,((0:Int),(0:Int),()),()))=_:=Ak h0.1 ω;have hbit:∀(f:Nat) (d:Int),An (Bo (λi s=>BV s (Di b (vs.getD i noV))) vs.length 0 (0,0)) f d=vs.any λv=>An (Di b v) f d:=λf d=>by rw[Al8 b vs vs.length 0 (0,0) ω,EP,aD,P_]
 generalize Bo (λi s=>BV s (Di b (vs.getD i noV))) vs.length 0 (0,0)=u at h0' hbit;have h1:=AQ (step:=λx=>FZ x.1.2.1 x.1.2.2.1 x.1.2.2.2.1 x.1.2.2.2.2.1 x.2.1.1 x.2.1.2.1) m.A0.length (λi (out:List W)=>(((),out,m.A0,(m.A0.length:Int),(i:Int),()),((u.1,u.2,()),()))) (λi out=>out++(bif JF b vs (m.A0.getD i B).D0 (m.A0.getD i B).I0 then [aE 2 (m.A0.getD i B).D0 (m.A0.getD i B).I0 0 0]else [])) (λi out=>out.length≤i) (λout=>((out,()),())) (λi out hi ho=>by
  have hc:=TZ hb (CM.1 (hm.en _ (BU B hi))).1;refine⟨?_,?_⟩
  ·show FZ out m.A0 (m.A0.length:Int) (i:Int) u.1 u.2=_;unfold FZ;rw[show aB 0 0 0 0 A=B from rfl];simp only[b_ (ω:(i:Int)<(m.A0.length:Int)),Ac (ω:(0:Int)≤(i:Int)) (ω:(i:Int)<(m.A0.length:Int)),d_,h_,Qg u hc.1 hc.2,S,ER hi (show m.A0.length≤AL by unfold AL;omega),hbit];rw[Az (show out.length+[aE 2 (m.A0.getD i B).D0 (m.A0.getD i B).I0 0 0].length≤2147483648 by show out.length+1≤_;omega)];unfold JF;cases vs.any λv=>An (Di b v) (m.A0.getD i B).D0.toNat (m.A0.getD i B).I0
   ·simp
   ·rfl
  ·rw[i_];cases JF b vs (m.A0.getD i B).D0 (m.A0.getD i B).I0<;>simp<;>omega) (λout _=>by
  show FZ out m.A0 (m.A0.length:Int) (m.A0.length:Int) u.1 u.2=_;unfold FZ;simp only[f_ (M_ (m.A0.length:Int)),P]) m.A0.length 0 [] ω σ
 have h1':=Ak h1.1 ω;rw[HT,a1_,NE (λe=>bif JF b vs e.D0 e.I0 then [aE 2 e.D0 e.I0 0 0]else []) B m.A0 0 m.A0.length ω,P_]at h1';unfold Ml;rw[Db hb m ω ω,Img.ok_iff.2 hm];simp only[S,o_,P];rw[show((vs.length:Int) !=(b.B0.length:Int))=A by rw[hv,Q_]];simp only[Bldg.tup,Img.tup]at h0';simp only[P,h0',S];rw[show JU (((),([]:List W),m.A0,(m.A0.length:Int),(0:Int),()),((u.1,u.2,()),()))=_ from h1'];rfl
end
def xsV(E:List L)(xs:List Int)(r:W):List Int:=
 bif(r.Q0==2)&&Gf (Aw r.D0 r.I0) E then xs.take (AA (Aw r.D0 r.I0) E)++xs.drop (AA (Aw r.D0 r.I0) E+1)
 else bif(r.Q0==1)&&!Gf (Aw r.D0 r.I0) E then xs.take (AA (Aw r.D0 r.I0) E)++[0]++xs.drop (AA (Aw r.D0 r.I0) E)
 else xs
def Bfz(E:List L)(xs:List Int)(F D:Int):Int:=bif Gf (Aw F D) E then xs.getD (AA (Aw F D) E) 0 else 0
def SB(E:List L)(xs:List Int)(e:L):Int:=Bfz E xs e.D0 e.I0
def Anp(e:L):isC e.D0 e.I0 e=H:=by unfold isC;simp
def Asc(hs:Bg E)(hi:i<E.length):AA (E.getD i B) E=i:=by
 have hp:=Ez.1 hs;rcases Nat.lt_trichotomy (AA (E.getD i B) E) i with h | h | h
 ·have h1:=Ahw hs (AA (E.getD i B) E) (A_ _) ω;have h2:Bp (E.getD (AA (E.getD i B) E) B) (E.getD i B)=H:=by
   generalize AA (E.getD i B) E=p at h;have hg:∀j (hj:j<E.length),E.getD j B=E[j]:=λj hj=>by simp[k_,hj]
   rw[hg p ω,hg i hi];exact b3_.1 hp p i ω hi h
  rw[h1]at h2;cases h2
 ·exact h
 ·have h1:=Ahx (E.getD i B) E i h;have h2:=(XB (Anp (E.getD i B))).1;rw[h1]at h2;cases h2
def Bkn(hs:Bg E)(hi:i<E.length):Gf (Aw (E.getD i B).D0 (E.getD i B).I0) E=H:=by unfold Gf;rw[Ux,Asc hs hi,e_];exact⟨Eq.mpr h0_ hi,Anp _⟩
def Asb(hs:Bg E)(xs:List Int)(hi:i<E.length):SB E xs (E.getD i B)=xs.getD i 0:=by unfold SB Bfz;rw[Bkn hs hi,Ux,Asc hs hi];rfl
def Am9{a b:List α}(d:α)(hl:a.length=b.length)(h:∀i,i<a.length→a.getD i d=b.getD i d):a=b:=by
 refine List.ext_getElem hl λi h1 h2=>?_
 have:=h i h1
 simpa[k_,h1,h2]using this
def Bfr{β:Type}(f:α→β)(hi:i<l.length)(d:α)(d':β):(l.map f).getD i d'=f (l.getD i d):=by simp[k_,hi]
def Bky(hs:Bg E)(hl:xs.length=E.length):E.map (SB E xs)=xs:=by refine Am9 0 (by rw[c9_,hl]) λi hi=>?_;rw[c9_]at hi;rw[Bfr _ hi B,Asb hs xs hi]
def Ao5{k:Nat}{a:α}(d:α)(h:a=l.getD k d):l.set k a=l:=by
 by_cases hk:k<l.length
 ·refine Am9 d (y_ ..) λi hi=>?_;by_cases hik:k=i
  ·subst hik;rw[h];simp[k_,hk]
  ·simp[k_,hik]
 ·rw[List.set_eq_of_length_le ω]
def Ary{c:L}{l:List L}(h:Gf c l=H):AA c l<l.length∧isC c.D0 c.I0 (l.getD (AA c l) B)=H:=by unfold Gf at h;rw[e_]at h;exact⟨Eq.mp h0_ h.1,h.2⟩
def Bcx(hs:Bg m.A0)(hl:xs.length=m.A0.length)(r:W):xsV m.A0 xs r=(Am m r).A0.map (SB m.A0 xs):=by
 have hbase:=Bky hs hl;have hfp:=Sd (c:=Aw r.D0 r.I0) 0 hs;rw[p_]at hfp;have hfp':DR r.D0 r.I0 m.A0 0=_:=hfp;unfold Am xsV;by_cases k4:r.Q0=4
 ·rw[k4];exact hbase.symm
 by_cases k5:r.Q0=5
 ·rw[k5];exact hbase.symm
 by_cases k6:r.Q0=6
 ·rw[k6];exact hbase.symm
 rw[Ao k4,Ao k5,Ao k6,hfp'];simp only[P];cases hh:Gf (Aw r.D0 r.I0) m.A0 with
 |false=>
  simp only[P,l_,d_,c1_,d4_,d5_];cases k1:r.Q0==1 with
  |false=>exact hbase.symm
  |true=>
   simp only[d_];show _=(HF (aB r.D0 r.I0 (-1) 0 A) A m.A0).map (SB m.A0 xs);have hnone:=Aja hs hh;rw[Xx (c:=aB r.D0 r.I0 (-1) 0 A) (λx hx=>hnone x hx)];have hp:AA (aB r.D0 r.I0 (-1) 0 A) m.A0=AA (Aw r.D0 r.I0) m.A0:=(Ux (aB r.D0 r.I0 (-1) 0 A) m.A0).symm;have hn:SB m.A0 xs (aB r.D0 r.I0 (-1) 0 A)=0:=by unfold SB Bfz;rw[hh];rfl
   rw[hp,List.map_append,List.map_append,List.map_take,List.map_drop,hbase,List.map_singleton,hn]
 |true=>
  obtain⟨p1,p2⟩:=Ary hh;simp only[d_,d5_,o_,c1_,P];rw[Ao (ω:¬((AA (Aw r.D0 r.I0) m.A0:Nat):Int)=-1)];simp only[P,h_];generalize AA (Aw r.D0 r.I0) m.A0=p at p1 p2⊢;have hset:∀e':L,e'.D0=(m.A0.getD p B).D0→e'.I0=(m.A0.getD p B).I0→(m.A0.set p e').map (SB m.A0 xs)=xs:=λe' h1 h2=>by
   rw[List.map_set,hbase];refine Ao5 0 ?_
   have:SB m.A0 xs e'=SB m.A0 xs (m.A0.getD p B):=by unfold SB;rw[h1,h2]
   rw[this,Asb hs xs p1]
  cases k2:r.Q0==2 with
  |true=>simp only[d_];show _=(m.A0.take p++m.A0.drop (p+1)).map (SB m.A0 xs);rw[List.map_append,List.map_take,List.map_drop,hbase]
  |false=>
   simp only[P];cases k3:r.Q0==3 with
   |true=>exact(hset (Afw (m.A0.getD p B) r.R0) rfl rfl).symm
   |false=>
    simp only[P];cases k7:r.Q0==7 with
    |true=>exact(hset (UC (m.A0.getD p B) r.S1 r.R0) rfl rfl).symm
    |false=>exact hbase.symm
def Blg(hs:Bg m.A0)(hl:xs.length=m.A0.length)(r:W):(xsV m.A0 xs r).length=(Am m r).A0.length:=by rw[Bcx hs hl,c9_]
def xsL:Img→List Int→List W→List Int
 |_,xs,[]=>xs
 |m,xs,r::t=>xsL (Am m r) (xsV m.A0 xs r) t
end
end Go.Ovl
