/- Layer 10, the program's side: the binary search, what a record changes, images behind records. -/
import Derived.Test.YtdapkmfmgpmnoaaGreatDoorOvB
import Derived.Test.YtdapkmfmgpmnoaaGreatDoorOvA
import Derived.Test.YtdapkmfmgpmnoaaGreatDoorDefs4
set_option linter.all false
open Bool renaming false->A,true->C
open Option renaming some->B
open Go renaming d_->E,b_->H,c_->J
open Go.Ovl renaming Entry->I,noE->L,Record->O,Img->P
open Int renaming toNat->Q
open List renaming range'->R,replicate->S
open Go.IntKind renaming u32->U,wrap->V,i64->aB,u64->aD
open Nat renaming ble->aA
open Go.Ovl.Entry renaming mk->aC
open BitVec renaming getLsbD_or->aE
namespace Go.Ovl
open Go Go.Ab
set_option maxRecDepth 100000
variable{b:Bldg}{c p:Int×Int}{m:P}{out:List O}{l:List I}{f:Nat}{d:Int}
def At(F D:Int):I:=⟨F,D,0,0,A⟩
def Ah2{i j:Nat}(h:i+j<9223372036854775808):aB.wrap (Int.fdiv (V aD (V aB ((i:Int)+(j:Int)))) ((2:Int)^(Min.min (Q (1:Int)) (IntKind.bits aD))))=(((i+j)/2:Nat):Int):=by
 rw[Aa (n:=(i:Int)+(j:Int)) ω ω,CI ω ω]
 rw[show((2:Int)^(Min.min (Q (1:Int)) (IntKind.bits aD)))=2 from rfl]
 rw[V_ _ ω]
 rw[Aa ω ω]
 omega
def Apr(hs:Bj l)(hl:l.length≤100000)(F D:Int):
  AH ((l,(),(),(l.length:Int),(0:Int),(l.length:Int),()),((F,D,0,0,A,()),()))=B ((l,(),(),(l.length:Int),((AA (At F D) l:Nat):Int),()),((F,D,0,0,A,()),())):=by
 refine Bhw (λx y=>∃i j:Nat,i≤AA (At F D) l∧AA (At F D) l≤j∧j≤l.length∧x=((l,(),(),(l.length:Int),(i:Int),(j:Int),()),((F,D,(0:Int),(0:Int),A,()),()))∧y=((l,(),(),(l.length:Int),((AA (At F D) l:Nat):Int),()),((F,D,(0:Int),(0:Int),A,()),()))) (λx=>x.1.2.2.2.2.2.1.toNat-x.1.2.2.2.2.1.toNat) ?_ (x:=((l,(),(),(l.length:Int),(0:Int),(l.length:Int),()),((F,D,0,0,A,()),()))) (y:=((l,(),(),(l.length:Int),((AA (At F D) l:Nat):Int),()),((F,D,0,0,A,()),()))) ⟨0,l.length,a6_ _,SZ _ _,z_ _,rfl,rfl⟩ (by show((l.length:Int).toNat-Q 0)<_;omega)
 rintro _ _ ⟨i,j,h1,h2,h3,rfl,rfl⟩;show(∃x',AI l (l.length:Int) (i:Int) (j:Int) F D 0 0 A=_∧_)∨AI l (l.length:Int) (i:Int) (j:Int) F D 0 0 A=_;unfold AI;rw[Ah2 ω]
 by_cases hij:i<j
 ·left
  have hh:(i+j)/2<l.length:=ω
  obtain⟨n,c1,c2,_⟩:=Qq (l.getD ((i+j)/2) L) (At F D);unfold At at c1;unfold L at c1;simp only[H (ω:(i:Int)<(j:Int)),Ac (ω:(0:Int)≤(((i+j)/2:Nat):Int)) (ω:(((i+j)/2:Nat):Int)<(l.length:Int)),i_,E,c1,a_]
  have c2':decide (n<0)=Bo (l.getD ((i+j)/2) L) (At F D):=by rw[XX,c2,Bool.not_not]
  rw[c2'];cases hq:Bo (l.getD ((i+j)/2) L) (At F D)with
  |true=>
   have:(i+j)/2<AA (At F D) l:=by
    rcases g2_ ((i+j)/2) (AA (At F D) l)with h | h
    ·exact h
    ·have:=Ago hs _ h hh
     rw[hq]at this;cases this
   rw[E,show aB.wrap ((((i+j)/2:Nat):Int)+1)=(((i+j)/2+1:Nat):Int)by rw[Aa ω ω];omega]
   exact⟨_,rfl,⟨(i+j)/2+1,j,ω,h2,h3,rfl,trivial⟩,by show Q (j:Int)-Q (((i+j)/2+1:Nat):Int)<Q (j:Int)-Q (i:Int);omega⟩
  |false=>
   have:AA (At F D) l≤(i+j)/2:=by
    rcases g2_ ((i+j)/2) (AA (At F D) l)with h | h
    ·have:=Agp (At F D) l _ h
     rw[hq]at this;cases this
    ·exact h
   rw[J];exact⟨_,rfl,⟨i,(i+j)/2,h1,this,ω,rfl,trivial⟩,by show Q (((i+j)/2:Nat):Int)-Q (i:Int)<Q (j:Int)-Q (i:Int);omega⟩
 ·right
  rw[f_ (ω:¬(i:Int)<(j:Int)),show i=AA (At F D) l by omega]
  rfl
def Aaf(m:P)(hs:Bj m.A0)(hl:m.A0.length≤100000)(F D:Int):OO m.F0 m.O0 m.K0 m.A0 F D=B ((((AA (At F D) m.A0:Nat):Int),FU (At F D) m.A0,()),()):=by
 unfold OO Bc;simp only;rw[Apr hs hl F D];simp only[a_];have hp:=SZ (At F D) m.A0;unfold FU;by_cases h:AA (At F D) m.A0<m.A0.length
 ·obtain⟨n,c1,_,c3⟩:=Qq (m.A0.getD (AA (At F D) m.A0) L) (At F D)
  rw[H (ω:((AA (At F D) m.A0:Nat):Int)<(m.A0.length:Int)),Ac (ω:(0:Int)≤((AA (At F D) m.A0:Nat):Int)) (ω:((AA (At F D) m.A0:Nat):Int)<(m.A0.length:Int)),i_,show Nat.blt (AA (At F D) m.A0) m.A0.length=C by rw[g9_];exact h]
  have e:(n==0)=isC (At F D).D0 (At F D).I0 (m.A0.getD (AA (At F D) m.A0) L):=by
   rw[Bool.eq_iff_iff,R_,c3];unfold isC;rw[e_,R_,R_]
  rw[← e];generalize AA (At F D) m.A0=p at*;unfold L at c1;unfold At at c1;simp only[E,c1,a_,n_]
 ·rw[f_ (ω:¬((AA (At F D) m.A0:Nat):Int)<(m.A0.length:Int)),show Nat.blt (AA (At F D) m.A0) m.A0.length=A by rw[← Bool.not_eq_true,g9_];exact h]
  rfl
def Ayy(x:I)(e:I):Bo x (At e.D0 e.I0)=Bo x e:=rfl
def TO(e:I):∀l:List I,AA (At e.D0 e.I0) l=AA e l
 |[]=>rfl
 |x::t=>by simp only[AA,Ayy,TO e t]
def Ajk(hs:Bj m.A0)(hl:m.A0.length≤100000)(r:O)(hc:(r.R0=4∨r.R0=5∨r.R0=6)→0≤r.S0∧r.S0<(m.F0.length:Int)∧r.S0<(m.O0.length:Int)∧r.S0<(m.K0.length:Int)):
  ON r.R0 r.D0 r.I0 r.S0 r.G2 m.F0 m.O0 m.K0 m.A0=B ((),((AC m r).tup,())):=by
 unfold ON AC;rw[Aaf m hs hl];simp only[a_];by_cases k4:r.R0=4
 ·obtain⟨c0,c1,c2,c3⟩:=hc (.inl k4)
  rw[k4];simp only[l_,E,Ac c0 c1];rfl
 rw[An k4];by_cases k5:r.R0=5
 ·obtain⟨c0,c1,c2,c3⟩:=hc (.inr (.inl k5))
  rw[k5];simp only[l_,E,J,Ac c0 c2];rfl
 rw[An k5];by_cases k6:r.R0=6
 ·obtain⟨c0,c1,c2,c3⟩:=hc (.inr (.inr k6))
  rw[k6];simp only[l_,E,J,Ac c0 c3];rfl
 rw[An k6];simp only[J];have hf:=RA (c:=At r.D0 r.I0) 0 hs;simp only[p_]at hf;rw[show DP r.D0 r.I0 m.A0 0=_ from hf]
 have hp:=SZ (At r.D0 r.I0) m.A0;cases hq:FU (At r.D0 r.I0) m.A0 with
 |false=>
  have hn:=Ah3 hs hq;simp only[J,E,c0_,l_];by_cases k1:r.R0=1
  ·rw[k1]
   simp only[l_,E];unfold Dx Abd;rw[H (ω:(0:Int)≤((AA (At r.D0 r.I0) m.A0:Nat):Int)),H (ω:((AA (At r.D0 r.I0) m.A0:Nat):Int)≤(m.A0.length:Int))]
   rw[show Nat.blt 0 [aC r.D0 r.I0 (-1) 0 A].length=C from rfl,Ay (show m.A0.length+[aC r.D0 r.I0 (-1) 0 A].length≤2147483648 by rw[J_];omega)]
   have hi:=WN (c:=⟨r.D0,r.I0,-1,0,A⟩) (l:=m.A0) hn;rw[hi,show AA ⟨r.D0,r.I0,-1,0,A⟩ m.A0=AA (At r.D0 r.I0) m.A0 from(TO ⟨r.D0,r.I0,-1,0,A⟩ m.A0).symm]
   rfl
  ·rw[An k1]
   cases r.R0==2<;>cases r.R0==3<;>cases r.R0==7<;>rfl
 |true=>
  have hlt:AA (At r.D0 r.I0) m.A0<m.A0.length:=by
   unfold FU at hq;rw[e_,g9_]at hq;exact hq.1
  simp only[E,o_,J,An (ω:¬((AA (At r.D0 r.I0) m.A0:Nat):Int)=-1),i_]
  generalize AA (At r.D0 r.I0) m.A0=p at hp hlt⊢;have w:aB.wrap ((p:Int)+1)=((p+1:Nat):Int):=by rw[Aa ω ω];omega
  have ib:inB (p:Int) m.A0.length=C:=Ac ω ω
  by_cases k1:r.R0=1
  ·simp only[k1,l_,E,J,show((1:Int)==2)=A from rfl,show((1:Int)==3)=A from rfl,show((1:Int)==7)=A from rfl]
   rfl
  rw[An k1,J];cases r.R0==2 with
  |true=>
   unfold Dw Als;simp only[E,w,H (ω:(0:Int)≤(p:Int)),H (ω:(p:Int)<((p+1:Nat):Int)),H (ω:((p+1:Nat):Int)≤(m.A0.length:Int)),a3_,a_,i_]
   rfl
  |false=>
   simp only[J];cases r.R0==3 with
   |true=>simp only[E,ib];rfl
   |false=>
    simp only[J];cases r.R0==7 with
    |true=>
     have ib2:∀y:I,inB (p:Int) (m.A0.set p y).length=C:=λy=>Ac ω (by rw[A_];omega)
     have hg:∀y:I,(m.A0.set p y).getD p (aC 0 0 0 0 A)=y:=λy=>by
      simp[k_,hlt]
     simp only[E,ib,ib2,hg,List.set_set];rfl
    |false=>rfl
def Ys(hb:b.small)(hcl:b.B0.length≤100)(m:P)(hp:m.F0.length≤100000)(hl:m.A0.length≤10000)(r:O):
  Nn b.C0 b.E0 b.H0 b.M0 b.J0 b.L0 b.N0 b.B0 m.F0 m.O0 m.K0 m.A0 r.R0 r.D0 r.I0 r.S0 r.G2=B (XL b m r):=by
 have hmx:100000≤maxLen:=by decide
 unfold Nn XL;rw[CS hb m ω ω]
 simp only[a_];cases hok:m.ok b with
 |false=>rfl
 |true=>
  rw[UJ hb hcl r];simp only[o_,J,a_,n_];cases hv:Au b r with
  |false=>rfl
  |true=>
   have hm:=Img.ok_iff.1 hok;have h1:=hm.lp;have h2:=hm.lf;have h3:=hm.ll;simp only[o_,J,E];rw[Yv m hp ω ω ω]
   simp only[a_,Img.tup]
   rw[Ajk hm.so ω r λhk=>by
    have:=Au8 hv hk
    omega]
   rfl
def Bsq{a b:Nat}(h:a≤100000)(h':b≤100000):aB.wrap (V aB (18*aB.wrap (V aB ((a:Int)+(b:Int))+1))+6)=18*((a:Int)+(b:Int)+1)+6:=by
 rw[Aa (n:=(a:Int)+(b:Int)) ω ω,Aa (n:=(a:Int)+(b:Int)+1) ω ω,Aa (n:=18*((a:Int)+(b:Int)+1)) ω ω,Aa ω ω]
def KM(b:Bldg)(m:P):Bool:=m.ok b&&decide (18*((b.B0.length:Int)+(m.A0.length:Int)+1)+6≤b.H0)
def Aae(hb:b.small)(m:P)(hc:b.B0.length≤100000)(hp:m.F0.length≤100000)(hl:m.A0.length≤100000):
  MC b.C0 b.E0 b.H0 b.M0 b.J0 b.L0 b.N0 b.B0 m.F0 m.O0 m.K0 m.A0=B ((KM b m,()),()):=by
 have hmx:100000≤maxLen:=by decide
 unfold MC KM;rw[CS hb m ω ω]
 simp only[a_,Bsq hc hl];cases m.ok b<;>rfl
def Lw(p:Nat→Bool):Nat→Nat→Bool
 |0,_=>C
 |m+1,i=>p i&&Lw p m (i+1)
def Ml{X Y:Type}{step:X→Option (Sum X Y)}(N:Nat)(g:Nat→X)(p:Nat→Bool)(y0 y1:Y)(h1:∀i,i<N→step (g i)=B (bif p i then .inl (g (i+1))else .inr y1))(h2:step (g N)=B (.inr y0)) :
  ∀m i:Nat,i+m=N→BQ step (m+1) (g i)=B (bif Lw p m i then y0 else y1)
 |0,i,hi=>by
  obtain rfl:i=N:=ω
  exact Az h2
 |m+1,i,hi=>by
  have h:=h1 i ω
  simp only[Lw];cases hp:p i with
  |true=>
   rw[hp]at h;rw[Bu h,n_];exact Ml N g p y0 y1 h1 h2 m (i+1) ω
  |false=>
   rw[hp]at h;rw[Az h];rfl
def AG:Nat:=10000000
def Dp{i n:Nat}(h:i<n)(hn:n≤AG):aB.wrap ((i:Int)+1)=((i+1:Nat):Int):=by
 unfold AG at hn;rw[Aa ω ω];omega
section
variable{α:Type}
end
structure Img.fit(m:Img):Prop where
 p:m.F0.length≤100000
 f:m.O0.length≤100000
 l:m.K0.length≤100000
 e:m.A0.length≤100000
section
variable{a c:P}(ha:a.fit)
include ha
end
def TK(on:Bool):Int:=bif on then 1 else 0
def Xv(on:Bool):JG on=B ((TK on,()),()):=by unfold JG TK;cases on<;>rfl
def Aee(on:Bool):Ol on=B ((TK on,()),()):=by unfold Ol TK;cases on<;>rfl
def NW(m:P)(i:Nat):List O:=[⟨4,0,0,i,m.F0.getD i 0⟩,⟨5,0,0,i,TK (m.O0.getD i A)⟩,⟨6,0,0,i,TK (m.K0.getD i A)⟩]
def NX(e:I):List O:=[⟨1,e.D0,e.I0,0,0⟩,⟨3,e.D0,e.I0,e.S0,0⟩,⟨7,e.D0,e.I0,TK e.B2,e.B1⟩]
def CN(m:P):List O:=(R 0 m.F0.length).flatMap (NW m)++m.A0.flatMap NX
def HE{α:Type}(f:Nat→List α):∀(k i:Nat) (s:List α),AK (λi s=>s++f i) k i s=s++(R i k).flatMap f
 |0,i,s=>by simp[AK]
 |k+1,i,s=>by
  simp only[AK];rw[HE f k (i+1),d8_,a1_,M_]
def MY{α β:Type}(f:α→List β)(d:α):∀(l:List α) (i k:Nat),i+k=l.length→(R i k).flatMap (λi=>f (l.getD i d))=(l.drop i).flatMap f
 |l,i,0,h=>by
  obtain rfl:i=l.length:=ω
  simp
 |l,i,k+1,h=>by
  rw[d8_,a1_,MY f d l (i+1) k ω,BU d (ω:i<l.length),a1_]
def Ade(l:List I):(R 0 l.length).flatMap (λi=>NX (l.getD i L))=l.flatMap NX:=by
 rw[MY NX L l 0 l.length ω,Q_]
section
variable{m:P}(hf:m.fit)
include hf
theorem YK(ho:out.length≤300000):Kz (((),out,(0:Int),()),(m.tup,()))=B ((out++m.A0.flatMap NX,()),()):=by
 have hl:=hf.e
 have h:=AP (step:=λx=>Gw x.1.2.1 x.1.2.2.1 x.2.1.1 x.2.1.2.1 x.2.1.2.2.1 x.2.1.2.2.2.1) m.A0.length (λi s=>(((),s,(i:Int),()),(m.tup,()))) (λi s=>s++NX (m.A0.getD i L)) (λi s=>s.length=out.length+3*i) (λs=>((s,()),())) (λi s hi hs=>by
  refine⟨?_,by rw[h_,hs];show _+3=_;omega⟩
  have b1:∀r r' r'':O,aA (s.length+[r,r',r''].length) 2147483648=C:=λr r' r''=>Ay (by show s.length+3≤_;omega)
  show Gw s (i:Int) m.F0 m.O0 m.K0 m.A0=_;unfold Gw;simp only[H (ω:(i:Int)<(m.A0.length:Int)),Ac (ω:(0:Int)≤(i:Int)) (ω:(i:Int)<(m.A0.length:Int)),E,i_,Aee,a_,b1,Dp hi (show m.A0.length≤AG by unfold AG;omega)]
  rfl) (λs _=>by
  show Gw s (m.A0.length:Int) m.F0 m.O0 m.K0 m.A0=_;unfold Gw;simp only[f_ (H_ (m.A0.length:Int)),J]) m.A0.length 0 out ω rfl
 have h':=Ai h.1 ω
 rw[HE,Ade]at h';exact h'
theorem YJ(h1:m.O0.length=m.F0.length)(h2:m.K0.length=m.F0.length):Ky (((),[],(0:Int),()),(m.tup,()))=B (((),(R 0 m.F0.length).flatMap (NW m),()),(m.tup,())):=by
 have hl:=hf.p
 have h:=AP (step:=λx=>Gv x.1.2.1 x.1.2.2.1 x.2.1.1 x.2.1.2.1 x.2.1.2.2.1 x.2.1.2.2.2.1) m.F0.length (λi s=>(((),s,(i:Int),()),(m.tup,()))) (λi s=>s++NW m i) (λi s=>s.length=3*i) (λs=>(((),s,()),(m.tup,()))) (λi s hi hs=>by
  refine⟨?_,by rw[h_,hs];show _+3=_;omega⟩
  have b1:∀r r' r'':O,aA (s.length+[r,r',r''].length) 2147483648=C:=λr r' r''=>Ay (by show s.length+3≤_;omega)
  show Gv s (i:Int) m.F0 m.O0 m.K0 m.A0=_;unfold Gv;simp only[H (ω:(i:Int)<(m.F0.length:Int)),Ac (ω:(0:Int)≤(i:Int)) (ω:(i:Int)<(m.F0.length:Int)),Ac (ω:(0:Int)≤(i:Int)) (ω:(i:Int)<(m.O0.length:Int)),Ac (ω:(0:Int)≤(i:Int)) (ω:(i:Int)<(m.K0.length:Int)),E,i_,Aee,a_,b1,Dp hi (show m.F0.length≤AG by unfold AG;omega)]
  rfl) (λs _=>by
  show Gv s (m.F0.length:Int) m.F0 m.O0 m.K0 m.A0=_;unfold Gv;simp only[f_ (H_ (m.F0.length:Int)),J];rfl) m.F0.length 0 [] ω rfl
 have h':=Ai h.1 ω
 rw[HE,a2_]at h';exact h'
theorem Yu(ho:out.length≤300000):Kx (((),m.A0,(m.A0.length:Int),(0:Int),()),((out,()),()))=B (((),()),((out++m.A0.flatMap NX,()),())):=by
 have hl:=hf.e
 have h:=AP (step:=λx=>Gu x.1.2.1 x.1.2.2.1 x.1.2.2.2.1 x.2.1.1) m.A0.length (λi s=>(((),m.A0,(m.A0.length:Int),(i:Int),()),((s,()),()))) (λi s=>s++NX (m.A0.getD i L)) (λi s=>s.length=out.length+3*i) (λs=>(((),()),((s,()),()))) (λi s hi hs=>by
  refine⟨?_,by rw[h_,hs];show _+3=_;omega⟩
  show Gu m.A0 (m.A0.length:Int) (i:Int) s=_;have b1:∀r:O,aA (s.length+[r].length) 2147483648=C:=λr=>Ay (by rw[J_];omega)
  have b2:∀r r':O,aA ((s++[r]).length+[r'].length) 2147483648=C:=λr r'=>Ay (by rw[h_,J_,J_];omega)
  have b3:∀r r' r'':O,aA ((s++[r]++[r']).length+[r''].length) 2147483648=C:=λr r' r''=>Ay (by rw[h_,h_,J_,J_,J_];omega)
  unfold Gu HS;simp only[H (ω:(i:Int)<(m.A0.length:Int)),Ac (ω:(0:Int)≤(i:Int)) (ω:(i:Int)<(m.A0.length:Int)),E,i_,Xv,a_,b1,b2,b3,Dp hi (show m.A0.length≤AG by unfold AG;omega)]
  simp only[M_]
  rfl) (λs _=>by
  show Gu m.A0 (m.A0.length:Int) (m.A0.length:Int) s=_;unfold Gu;simp only[f_ (H_ (m.A0.length:Int)),J]) m.A0.length 0 out ω rfl
 have h':=Ai h.1 ω
 rw[HE,Ade]at h';exact h'
theorem Yt(h1:m.O0.length=m.F0.length)(h2:m.K0.length=m.F0.length):Kw (((),(),(m.F0.length:Int),(0:Int),()),(m.tup,(([]:List O),()),()))=B (((),(),()),(m.tup,((R 0 m.F0.length).flatMap (NW m),()),())):=by
 have hl:=hf.p
 have h:=AP (step:=λx=>Gt x.1.2.2.1 x.1.2.2.2.1 x.2.1.1 x.2.1.2.1 x.2.1.2.2.1 x.2.1.2.2.2.1 x.2.2.1.1) m.F0.length (λi s=>(((),(),(m.F0.length:Int),(i:Int),()),(m.tup,(s,()),()))) (λi s=>s++NW m i) (λi s=>s.length=3*i) (λs=>(((),(),()),(m.tup,(s,()),()))) (λi s hi hs=>by
  refine⟨?_,by rw[h_,hs];show _+3=_;omega⟩
  show Gt (m.F0.length:Int) (i:Int) m.F0 m.O0 m.K0 m.A0 s=_;have b1:∀r:O,aA (s.length+[r].length) 2147483648=C:=λr=>Ay (by rw[J_];omega)
  have b2:∀r r':O,aA ((s++[r]).length+[r'].length) 2147483648=C:=λr r'=>Ay (by rw[h_,J_,J_];omega)
  have b3:∀r r' r'':O,aA ((s++[r]++[r']).length+[r''].length) 2147483648=C:=λr r' r''=>Ay (by rw[h_,h_,J_,J_,J_];omega)
  unfold Gt HR;simp only[H (ω:(i:Int)<(m.F0.length:Int)),Ac (ω:(0:Int)≤(i:Int)) (ω:(i:Int)<(m.F0.length:Int)),Ac (ω:(0:Int)≤(i:Int)) (ω:(i:Int)<(m.O0.length:Int)),Ac (ω:(0:Int)≤(i:Int)) (ω:(i:Int)<(m.K0.length:Int)),E,i_,Xv,a_,b1,b2,b3,Dp hi (show m.F0.length≤AG by unfold AG;omega)]
  simp only[M_]
  rfl) (λs _=>by
  show Gt (m.F0.length:Int) (m.F0.length:Int) m.F0 m.O0 m.K0 m.A0 s=_;unfold Gt;simp only[f_ (H_ (m.F0.length:Int)),J];rfl) m.F0.length 0 [] ω rfl
 have h':=Ai h.1 ω
 rw[HE,a2_]at h';exact h'
end
def TD{α β:Type}(f:α→List β)(hf:∀x,(f x).length=3):∀l:List α,(l.flatMap f).length=3*l.length
 |[]=>rfl
 |a::t=>by rw[a1_,h_,hf,TD f hf t,C_];omega
def YU(m:P)(n:Nat):((R 0 n).flatMap (NW m)).length=3*n:=by rw[TD _ λ_=>rfl,List.length_range']
def YV(m:P):(CN m).length=3*(m.F0.length+m.A0.length):=by
 unfold CN;rw[h_,YU,TD _ λ_=>rfl];omega
def UP(b:Bldg)(m:P):List O:=bif m.ok b then CN m else []
section
variable{b:Bldg}(hb:b.small){m:P}(hf:m.fit)
include hb hf
theorem Ad2:MD b.C0 b.E0 b.H0 b.M0 b.J0 b.L0 b.N0 b.B0 m.F0 m.O0 m.K0 m.A0=B ((UP b m,()),()):=by
 have hmx:100000≤maxLen:=by decide
 have hp:=hf.p;have he:=hf.e;unfold MD UP;rw[CS hb m ω ω]
 simp only[a_];cases hok:m.ok b with
 |false=>rfl
 |true=>
  have hm:=Img.ok_iff.1 hok;have l0:=Yt hf (by rw[hm.lf,hm.lp]) (by rw[hm.ll,hm.lp])
  have l1:=Yu hf (out:=(R 0 m.F0.length).flatMap (NW m)) (by rw[YU];omega)
  simp only[Img.tup]at l0;simp only[o_,J,E,l0,l1,a_];rfl
theorem Aed:MI b.C0 b.E0 b.H0 b.M0 b.J0 b.L0 b.N0 b.B0 m.F0 m.O0 m.K0 m.A0=B ((UP b m,()),()):=by
 have hmx:100000≤maxLen:=by decide
 have hp:=hf.p;have he:=hf.e;unfold MI UP;rw[Qs hb m ω ω]
 simp only[a_];cases hok:m.ok b with
 |false=>rfl
 |true=>
  have hm:=Img.ok_iff.1 hok;have l0:=YJ hf (by rw[hm.lf,hm.lp]) (by rw[hm.ll,hm.lp])
  have l1:=YK hf (out:=(R 0 m.F0.length).flatMap (NW m)) (by rw[YU];omega)
  simp only[Img.tup]at l0 l1;simp only[o_,J,E,l0,l1,a_];rfl
end
def EL(m:P):∀(a c:List O),AB m (a++c)=AB (AB m a) c
 |[],_=>rfl
 |r::t,c=>by
  show AB (AC m r) (t++c)=AB (AB (AC m r) t) c;exact EL (AC m r) t c
def Ag1{α:Type}(l:List α)(z d:α){k n:Nat}(hk:k<n)(hl:l.length=n):(l.take k++S (n-k) z).set k (l.getD k d)=l.take (k+1)++S (n-(k+1)) z:=by
 have h1:(l.take k).length=k:=by rw[y_];omega
 rw[List.set_append_right _ _ ω,h1,Nat.sub_self,show n-k=(n-(k+1))+1 by omega,List.replicate_succ,List.set_cons_zero]
 have h2:k<l.length:=ω
 rw[show l.getD k d=l[k]by simp[h2]]
 rw[List.take_succ_eq_append_getElem h2,M_];rfl
def Ap1(m:P)(a c d:O):AB m [a,c,d]=AC (AC (AC m a) c) d:=rfl
def Aq2(on:Bool):(TK on==1)=on:=by cases on<;>rfl
def Aps{n k:Nat}(hk:k<n)(h1:m.F0.length=n)(h2:m.O0.length=n)(h3:m.K0.length=n):
  AB ⟨m.F0.take k++S (n-k) 0,m.O0.take k++S (n-k) A,m.K0.take k++S (n-k) A,[]⟩ (NW m k)=⟨m.F0.take (k+1)++S (n-(k+1)) 0,m.O0.take (k+1)++S (n-(k+1)) A,m.K0.take (k+1)++S (n-(k+1)) A,[]⟩:=by
 have e1:=Ag1 m.F0 0 0 hk h1;have e2:=Ag1 m.O0 A A hk h2;have e3:=Ag1 m.K0 A A hk h3;unfold NW;rw[Ap1];unfold AC;simp only[show((4:Int)==4)=C from rfl,show((5:Int)==4)=A from rfl,show((5:Int)==5)=C from rfl,show((6:Int)==4)=A from rfl,show((6:Int)==5)=A from rfl,show((6:Int)==6)=C from rfl,E,J,i_,Aq2,e1,e2,e3]
def Aiz{m:P}{n:Nat}(h1:m.F0.length=n)(h2:m.O0.length=n)(h3:m.K0.length=n):∀j k:Nat,k+j=n→
  AB ⟨m.F0.take k++S (n-k) 0,m.O0.take k++S (n-k) A,m.K0.take k++S (n-k) A,[]⟩ ((R k j).flatMap (NW m))=⟨m.F0,m.O0,m.K0,[]⟩
 |0,k,h=>by
  obtain rfl:k=n:=ω
  rw[Nat.sub_self];simp only[List.replicate_zero,a9_];rw[b1_ ω,b1_ ω,b1_ ω]
  rfl
 |j+1,k,h=>by
  rw[d8_,a1_,EL,Aps ω h1 h2 h3]
  exact Aiz h1 h2 h3 j (k+1) ω
def Ahq{F D:Int}{x:I}(hx:isC F D x=C):∀(l:List I) (i:Nat),(∀e∈l,isC F D e=A)→DP F D (l++[x]) i=((i+l.length:Nat):Int)
 |[],i,_=>by simp[DP,hx]
 |e::t,i,h=>by
  rw[List.cons_append];simp only[DP];rw[h e (s_ ..),J,Ahq hx t (i+1) λy hy=>h y (x_ _ hy),C_]
  congr 1;omega
def Ame{x:I}:∀{l:List I},(∀e∈l,Bo x e=A)→Hr x A l=l++[x]
 |[],_=>rfl
 |e::t,h=>by
  simp only[Hr];rw[h e (s_ ..),J,Ame λy hy=>h y (x_ _ hy)]
  rfl
def Apt{e:I}(h:∀x∈m.A0,Bo x e=C):AB m (NX e)=m.put (m.A0++[e]):=by
 have hn:∀x∈m.A0,isC e.D0 e.I0 x=A:=λx hx=>by
  cases hq:isC e.D0 e.I0 x with
  |false=>rfl
  |true=>
   have:=(WQ (c:=e) hq).1
   rw[h x hx]at this;cases this
 have e0:∀(c k:Int) (q:Bool),isC e.D0 e.I0 ⟨e.D0,e.I0,c,k,q⟩=C:=λc k q=>by unfold isC;simp
 have f0:DP e.D0 e.I0 m.A0 0=-1:=WA hn;have f1:∀(c k:Int) (q:Bool),DP e.D0 e.I0 (m.A0++[⟨e.D0,e.I0,c,k,q⟩]) 0=(m.A0.length:Int):=λc k q=>by rw[Ahq (e0 c k q) _ _ hn,p_]
 have g1:∀x:I,(m.A0++[x]).getD m.A0.length L=x:=λx=>by simp
 have s1:∀x y:I,(m.A0++[x]).set m.A0.length y=m.A0++[y]:=λx y=>by
  rw[List.set_append_right _ _ (z_ _),Nat.sub_self];rfl
 have a1:AC m ⟨1,e.D0,e.I0,0,0⟩=m.put (m.A0++[⟨e.D0,e.I0,-1,0,A⟩]):=by
  unfold AC;rw[f0];simp only[show((1:Int)==4)=A from rfl,show((1:Int)==5)=A from rfl,show((1:Int)==6)=A from rfl,J,E,l_]
  rw[Ame (x:=⟨e.D0,e.I0,-1,0,A⟩) λx hx=>Aia (show Bo x ⟨e.D0,e.I0,-1,0,A⟩=C from h x hx)]
 have ne:(((m.A0.length:Int))==-1)=A:=An ω
 have a2:AC (m.put (m.A0++[⟨e.D0,e.I0,-1,0,A⟩])) ⟨3,e.D0,e.I0,e.S0,0⟩=m.put (m.A0++[⟨e.D0,e.I0,e.S0,0,A⟩]):=by
  unfold AC;simp only[Img.put,f1,ne,show((3:Int)==4)=A from rfl,show((3:Int)==5)=A from rfl,show((3:Int)==6)=A from rfl,show((3:Int)==2)=A from rfl,J,E,l_,i_,g1,s1,Aep]
 have a3:AC (m.put (m.A0++[⟨e.D0,e.I0,e.S0,0,A⟩])) ⟨7,e.D0,e.I0,TK e.B2,e.B1⟩=m.put (m.A0++[⟨e.D0,e.I0,e.S0,e.B1,e.B2⟩]):=by
  unfold AC;simp only[Img.put,f1,ne,show((7:Int)==4)=A from rfl,show((7:Int)==5)=A from rfl,show((7:Int)==6)=A from rfl,show((7:Int)==2)=A from rfl,show((7:Int)==3)=A from rfl,J,E,l_,i_,g1,s1,TU,Aq2]
 unfold NX;rw[Ap1,a1,a2,a3]
def Ai0:∀(l:List I) (m:P),Bj (m.A0++l)→AB m (l.flatMap NX)=m.put (m.A0++l)
 |[],m,_=>by simp[AB,Img.put]
 |e::t,m,h=>by
  have hp:=Ep.1 h;have hlt:∀x∈m.A0,Bo x e=C:=λx hx=>(f9_.1 hp).2.2 x hx e (s_ ..)
  rw[a1_,EL,Apt hlt]
  have h2:Bj ((m.put (m.A0++[e])).A0++t):=by
   show Bj (m.A0++[e]++t);rw[M_];exact h
  rw[Ai0 t _ h2];show m.put (m.A0++[e]++t)=_;rw[M_];rfl
def Aer(h:ImgOK b m):AB (GG b) (CN m)=m:=by
 unfold CN;rw[EL];have h0:=Aiz (m:=m) h.lp h.lf h.ll b.B0.length 0 ω
 simp only[List.take_zero,a2_,Nat.sub_zero]at h0;rw[h.lp];rw[show GG b=⟨S b.B0.length 0,S b.B0.length A,S b.B0.length A,[]⟩from rfl,h0,Ai0 _ _ (by show Bj ([]++m.A0);exact h.so)]
 rfl
def WV(on:Bool):0≤TK on∧TK on≤1:=by cases on<;>exact⟨by decide,by decide⟩
def SQ(h:ImgOK b m):∀r∈CN m,Au b r=C:=by
 have hcode:=h.code;intro r hr;unfold CN at hr;rcases q_.1 hr with hr | hr
 ·obtain⟨i,hi,hr⟩:=d1_.1 hr
  have hi':i<m.F0.length:=by
   have:=List.mem_range'_1.1 hi
   omega
  have hp:=h.ph _ (CA 0 hi');have hlp:=h.lp
  have hcar:∀k v:Int,Tw b ⟨k,0,0,i,v⟩=C:=λk v=>by
   unfold Tw;rw[Ao.2 ⟨show(0:Int)≤(i:Int)by omega,show(i:Int)≤(b.B0.length:Int)-1 by omega⟩];rfl
  unfold NW at hr;simp only[r_,List.not_mem_nil,or_false]at hr;rcases hr with rfl | rfl | rfl
  ·unfold Au
   rw[hcode,hcar,Ao.2 hp];rfl
  ·unfold Au
   rw[hcode,hcar,Ao.2 (WV _)];rfl
  ·unfold Au
   rw[hcode,hcar,Ao.2 (WV _)];rfl
 ·obtain⟨e,he,hr⟩:=d1_.1 hr
  obtain⟨h1,h2,h3⟩:=Dt.1 (h.en e he);unfold NX at hr;simp only[r_,List.not_mem_nil,or_false]at hr;rcases hr with rfl | rfl | rfl
  ·unfold Au
   rw[hcode,h1];rfl
  ·unfold Au
   rw[hcode,h1,Ao.2 ⟨h2.1,show e.S0≤(b.B0.length:Int)-1 by omega⟩];rfl
  ·unfold Au
   rw[hcode,h1,Ao.2 (WV _),Ao.2 h3];rfl
def Vk(floor:Int):Int:=U.wrap (1*2^min (Q floor) (IntKind.bits .u32))
def DI(floor dir:Int):Int×Int:=
 bif inR 0 31 floor then(bif dir==1 then(Vk floor,0)else bif dir==2 then(0,Vk floor)else(0,0))else(0,0)
def Auc(floor dir:Int):Uf floor dir=B (((),()),(((DI floor dir).1,(DI floor dir).2,()),())):=by
 unfold Uf DI inR;by_cases g:floor<0
 ·rw[H g,f_ (ω:¬0≤floor)];rfl
 ·rw[f_ g,H (ω:0≤floor)]
  by_cases g':31<floor
  ·rw[H g',f_ (ω:¬floor≤31)];rfl
  ·rw[f_ g',H (ω:floor≤31)]
   have w:aD.wrap floor=floor:=CI ω ω
   simp only[J,w,H (ω:0≤floor),E,a3_]
   cases dir==1<;>cases dir==2<;>rfl
def orC(a c:Int):Int:=vb (bv a|||bv c)
def Abq(a c:Int):Int:=vb (bv a&&& ~~~ bv c)
def By(a c:Int×Int):Int×Int:=(orC a.1 c.1,orC a.2 c.2)
def Aq(a c:Int×Int):Int×Int:=(Abq a.1 c.1,Abq a.2 c.2)
def YI(a c:Int×Int):Lm a.1 a.2 c.1 c.2=B (((),()),(((By a c).1,(By a c).2,()),())):=by
 unfold Lm;rw[Ag4,Ag4];rfl
def Mp(a c:Int×Int):Ci a.1 a.2 c.1 c.2=B (((),()),(((Aq a c).1,(Aq a c).2,()),())):=by
 unfold Ci;rw[KQ,KQ];rfl
def Ak(c:Int×Int)(f:Nat)(d:Int):Bool:=bif d==1 then CQ c.1 f else bif d==2 then CQ c.2 f else A
def Ey(c:Int×Int):Prop:=(0≤c.1∧c.1<4294967296)∧(0≤c.2∧c.2<4294967296)
def OD(a c:Int×Int):Ey (By a c):=⟨KP _,KP _⟩
def Kk(a c:Int×Int):Ey (Aq a c):=⟨KP _,KP _⟩
def Ht:Ey (0,0):=⟨⟨by decide,by decide⟩,⟨by decide,by decide⟩⟩
def XN(i:Nat):CQ 0 i=A:=by
 unfold CQ bv;simp
def EZ(f:Nat)(d:Int):Ak (0,0) f d=A:=by
 unfold Ak;simp only[XN];cases d==1<;>cases d==2<;>rfl
def GF(a c:Int×Int)(f:Nat)(d:Int):Ak (By a c) f d=(Ak a f d||Ak c f d):=by
 unfold Ak By orC;simp only[Ts,aE];cases d==1<;>cases d==2<;>rfl
def BY(a c:Int×Int)(hf:f<32)(d:Int):Ak (Aq a c) f d=(Ak a f d&&!Ak c f d):=by
 unfold Ak Aq Abq;simp only[Ts,f5_,BitVec.getLsbD_not,hf,decide_true,n_];cases d==1<;>cases d==2<;>rfl
def Me{F D:Int}(hF:0≤F∧F<32)(hD:D=1∨D=2)(f:Nat)(hd:d=1∨d=2):Ak (DI F D) f d=decide (((f:Int),d)=(F,D)):=by
 have hp:CQ (Vk F) f=decide (f=F.toNat):=Ap3 (k:=F.toNat) ω f
 have e:decide (((f:Int),d)=(F,D))=(decide (f=F.toNat)&&decide (d=D)):=by
  rw[Bool.eq_iff_iff,e_,t_,t_,t_,g0_];constructor
  ·rintro⟨h1,h2⟩;exact⟨ω,h2⟩
  ·rintro⟨h1,h2⟩;exact⟨ω,h2⟩
 rw[e];unfold DI Ak;rw[Ao.2 ⟨hF.1,show F≤31 by omega⟩]
 rcases hD with rfl | rfl<;>rcases hd with rfl | rfl
 ·simp[hp]
 ·simp[XN]
 ·simp[XN]
 ·simp[hp]
def Ou{a:Int×Int}(ha:Ey a)(hc:Ey c)(h:∀f:Nat,f<32→∀d:Int,(d=1∨d=2)→Ak a f d=Ak c f d):a=c:=by
 have h1:a.1=c.1:=Afi ha.1 hc.1 λi hi=>h i hi 1 (.inl rfl)
 have h2:a.2=c.2:=Afi ha.2 hc.2 λi hi=>h i hi 2 (.inr rfl)
 exact Prod.ext h1 h2
def QS(e:I):Prop:=(0≤e.D0∧e.D0<32)∧(e.I0=1∨e.I0=2)
def ofC:List I→Int×Int→Int×Int
 |[],c=>c
 |e::t,c=>ofC t (By c (DI e.D0 e.I0))
def ZB:∀(l:List I) {c:Int×Int},Ey c→Ey (ofC l c)
 |[],_,h=>h
 |_::t,_,_=>ZB t (OD _ _)
def Agm:∀{l:List I}{c:Int×Int},(∀e∈l,QS e)→∀(f:Nat) {d:Int},(d=1∨d=2)→(Ak (ofC l c) f d=C↔Ak c f d=C∨((f:Int),d)∈l.map BT)
 |[],_,_,f,d,_=>by simp[ofC]
 |e::t,c,h,f,d,hd=>by
  have he:=h e (s_ ..);simp only[ofC];rw[Agm (λx hx=>h x (x_ _ hx)) f hd,GF,Me he.1 he.2 f hd,Y_,t_,c1_,r_]
  show(_∨_=(e.D0,e.I0))∨_↔_∨_=(e.D0,e.I0)∨_;exact or_assoc
def Azy(hl:l.length≤100000):Th l=B (((),()),(((ofC l (0,0)).1,(ofC l (0,0)).2,()),())):=by
 have h:=AP (step:=λx=>MQ x.1.1 x.1.2.2.2.1 x.2.1.1 x.2.1.2.1 x.2.2.1.1 x.2.2.1.2.1) l.length (λi (c:Int×Int)=>((l,(),(),(i:Int),()),(((0:Int),(0:Int),()),(c.1,c.2,()),()))) (λi c=>By c (DI (l.getD i L).D0 (l.getD i L).I0)) (λ_ _=>True) (λc=>(((),(),()),(((0:Int),(0:Int),()),(c.1,c.2,()),()))) (λi c hi _=>by
  refine⟨?_,trivial⟩;show MQ l (i:Int) 0 0 c.1 c.2=_;unfold MQ;rw[show aC 0 0 0 0 A=L from rfl]
  have hu:=YI c (DI (l.getD i L).D0 (l.getD i L).I0);simp only[H (ω:(i:Int)<(l.length:Int)),Ac (ω:(0:Int)≤(i:Int)) (ω:(i:Int)<(l.length:Int)),E,i_,Auc,a_,hu,Dp hi (show l.length≤AG by unfold AG;omega)]) (λc _=>by
  show MQ l (l.length:Int) 0 0 c.1 c.2=_;unfold MQ;simp only[f_ (H_ (l.length:Int)),J]) l.length 0 (0,0) ω trivial
 have h':=Ai h.1 ω
 have e:∀(l:List I) (c:Int×Int),l.foldl (λc e=>By c (DI e.D0 e.I0)) c=ofC l c:=λl=>by
  induction l with
  |nil=>exact λc=>rfl
  |cons a t ih=>exact λc=>ih _
 have e2:∀(k i:Nat) (c:Int×Int),i+k=l.length→AK (λi c=>By c (DI (l.getD i L).D0 (l.getD i L).I0)) k i c=ofC (l.drop i) c:=by
  intro k
  induction k with
  |zero=>
   intro i c hi;obtain rfl:i=l.length:=ω
   rw[a5_];rfl
  |succ k ih=>
   intro i c hi;rw[BU L (ω:i<l.length)]
   exact ih (i+1) _ ω
 rw[e2 l.length 0 (0,0) ω,Q_]at h'
 unfold Th;rw[show Sn ((l,(),(),(0:Int),()),(((0:Int),(0:Int),()),((0:Int),(0:Int),()),()))=_ from h']
 rfl
def Lf(c:Int×Int)(f:Nat):List I:=(bif Ak c f 1 then [⟨(f:Int),1,-1,0,A⟩]else [])++(bif Ak c f 2 then [⟨(f:Int),2,-1,0,A⟩]else [])
def Adb(c:Int×Int)(f:Nat):(Lf c f).length≤2:=by
 unfold Lf;cases Ak c f 1<;>cases Ak c f 2<;>simp
def Ff(c:Int×Int):List I:=(R 0 32).flatMap (Lf c)
def WT:p∈(Lf c f).map BT↔p.1=(f:Int)∧(p.2=1∨p.2=2)∧Ak c f p.2=C:=by
 obtain⟨a,d⟩:=p;unfold Lf;rw[List.map_append,q_]
 have h:∀D:Int,(a,d)∈(bif Ak c f D then [aC (f:Int) D (-1) 0 A]else []).map BT↔a=(f:Int)∧d=D∧Ak c f D=C:=λD=>by
  cases Ak c f D<;>simp[BT]
 rw[h,h];constructor
 ·rintro(⟨h1,rfl,h3⟩ | ⟨h1,rfl,h3⟩)
  ·exact⟨h1,.inl rfl,h3⟩
  ·exact⟨h1,.inr rfl,h3⟩
 ·rintro⟨h1,h2,h3⟩
  simp only at h1 h2 h3;rcases h2 with rfl | rfl
  ·exact .inl ⟨h1,rfl,h3⟩
  ·exact .inr ⟨h1,rfl,h3⟩
def mem_range{i k:Nat}:p∈((R i k).flatMap (Lf c)).map BT↔∃f:Nat,(i≤f∧f<i+k)∧p.1=(f:Int)∧(p.2=1∨p.2=2)∧Ak c f p.2=C:=by
 constructor
 ·intro h
  obtain⟨e,he,rfl⟩:=b6_.1 h;obtain⟨f,hf,he⟩:=d1_.1 he;exact⟨f,List.mem_range'_1.1 hf,WT.1 (b6_.2 ⟨e,he,rfl⟩)⟩
 ·rintro⟨f,hf,h⟩
  obtain⟨e,he,h2⟩:=b6_.1 (WT.2 h);exact b6_.2 ⟨e,d1_.2 ⟨f,List.mem_range'_1.2 hf,he⟩,h2⟩
def YW(c:Int×Int):∀k i:Nat,Bj ((R i k).flatMap (Lf c))
 |0,i=>by simp[Bj]
 |k+1,i=>by
  unfold Bj;rw[d8_,a1_,List.map_append,f9_];refine⟨?_,YW c k (i+1),λp hp q hq=>?_⟩
  ·unfold Lf
   cases Ak c i 1<;>cases Ak c i 2<;>simp[BT,ltC]
  ·have h1:=WT.1 hp
   obtain⟨f,hf,h2,_⟩:=mem_range.1 hq;left;rw[h1.1,h2];omega
def JY(floor dir:Int):Ea floor dir=B (((),()),(((DI floor dir).1,(DI floor dir).2,()),())):=by
 unfold Ea DI inR;by_cases g:0≤floor
 ·by_cases g':floor<32
  ·rw[H g,H g',H (ω:floor≤31)]
   simp only[E,a_,a3_,H g];cases dir==1<;>cases dir==2<;>rfl
  ·rw[H g,f_ g',f_ (ω:¬floor≤31)];rfl
 ·rw[f_ g];rfl
def Gy(a c:Int×Int):CO a.1 a.2 c.1 c.2=B (((),()),(((By a c).1,(By a c).2,()),())):=by
 unfold CO;rw[Ag4,Ag4];rfl
def Qi(a c:Int×Int):Ir a.1 a.2 c.1 c.2=B (((),()),(((Aq a c).1,(Aq a c).2,()),())):=by
 unfold Ir;rw[KQ,KQ];rfl
def CT(a c:Int×Int):Int×Int:=(vb (bv a.1&&&bv c.1),vb (bv a.2&&&bv c.2))
def Aax(a c:Int×Int):Ey (CT a c):=⟨KP _,KP _⟩
def Ld(a c:Int×Int):DT a.1 a.2 c.1 c.2=B (((),()),(((CT a c).1,(CT a c).2,()),())):=by
 unfold DT;rw[US,US];rfl
def Apl(a c:Int×Int):MH a.1 a.2 c.1 c.2=B (((),()),(((CT a c).1,(CT a c).2,()),())):=by
 unfold MH;rw[US,US];rfl
def Oq(a c:Int×Int)(f:Nat)(d:Int):Ak (CT a c) f d=(Ak a f d&&Ak c f d):=by
 unfold Ak CT;simp only[Ts,f5_];cases d==1<;>cases d==2<;>rfl
def isZ(c:Int×Int):Bool:=(c.1==0)&&((c.2==0)&&C)
def Ox(hc:Ey c):isZ c=C↔∀f:Nat,f<32→∀d:Int,(d=1∨d=2)→Ak c f d=A:=by
 constructor
 ·intro h f _ d _
  unfold isZ at h;simp only[e_,R_]at h;obtain⟨h1,h2,_⟩:=h;rw[show c=(0,0)from Prod.ext h1 h2,EZ]
 ·intro h
  have:c=(0,0):=Ou hc Ht λf hf d hd=>by rw[h f hf d hd,EZ]
  rw[this];rfl
def Pz(c:Int×Int){F D:Int}(hF:0≤F∧F<32)(hD:D=1∨D=2):Dq c.1 c.2 F D=B ((Ak c F.toNat D,()),()):=by
 unfold Dq;rw[JY];simp only[a_];rw[Ld c (DI F D)];simp only[a_];show B ((!(isZ (CT c (DI F D))),()),())=_
 have e:isZ (CT c (DI F D))=!Ak c F.toNat D:=by
  cases h:Ak c F.toNat D with
  |false=>
   refine(Ox (Aax _ _)).2 λf hf d hd=>?_
   rw[Oq,Me hF hD f hd];by_cases g:((f:Int),d)=(F,D)
   ·obtain⟨h1,h2⟩:=Prod.mk.inj g
    rw[show f=F.toNat by omega,h2,h];rfl
   ·rw[f_ g,c2_]
  |true=>
   cases hz:isZ (CT c (DI F D))with
   |false=>rfl
   |true=>
    have:=(Ox (Aax _ _)).1 hz F.toNat ω D hD
    rw[Oq,Me hF hD F.toNat hD,h,H (show(((F.toNat:Nat):Int),D)=(F,D)by rw[f3_ hF.1])]at this
    cases this
 rw[e,Bool.not_not]
def Bx(b:Bldg):Int×Int:=(V U (V U (1*2^min (Q (b.C0-1)) (IntKind.bits .u32))-1),U.wrap (V U (V U (1*2^min (Q (b.C0-1)) (IntKind.bits .u32))-1)*2^min (Q (1:Int)) (IntKind.bits .u32)))
def KE(hb:b.small)(hcode:b.code=0):Fl b.C0 b.E0 b.H0 b.M0 b.J0 b.L0 b.N0 b.B0=B (((),()),(((Bx b).1,(Bx b).2,()),())):=by
 have lo:=hb.lo;have hi:=hb.hi;unfold Fl Bx;rw[Bi,hcode];simp only[a_,T_,J,Aa (n:=b.C0-1) ω ω,H (ω:0≤b.C0-1),E]
def Ake(n:Nat):Int:=U.wrap (V U (1*2^min n (IntKind.bits .u32))-1)
def Bcd:((List.range 9).all λn=>(List.range 32).all λi=>(CQ (Ake n) i==decide (i<n))&&(CQ (V U (Ake n*2^min (Q 1) (IntKind.bits .u32))) i==(decide (1≤i)&&decide (i≤n))))=C:=κ
def Bce(b:Bldg):Ey (Bx b):=by
 have k:∀n:Int,0≤U.wrap n∧U.wrap n<4294967296:=λn=>by
  simp only[V,IntKind.signed,IntKind.bits];simp;omega
 exact⟨k _,k _⟩
def WK(hb:b.small)(hcode:b.code=0)(hf:f<32)(hd:d=1∨d=2):Ak (Bx b) f d=Am b (f:Int) d:=by
 have lo:=hb.lo;have hi:=hb.hi;have t:=E_.1 (E_.1 Bcd (b.C0-1).toNat (List.mem_range.2 ω)) f (List.mem_range.2 hf)
 rw[e_,R_,R_]at t;unfold Am NQ;rw[hcode];rcases hd with rfl | rfl
 ·have e:Ak (Bx b) f 1=CQ (Ake (b.C0-1).toNat) f:=rfl
  rw[e,t.1];unfold inR;rw[H (ω:(0:Int)≤(f:Int))]
  by_cases g:f<(b.C0-1).toNat
  ·rw[H g,H (ω:(f:Int)≤b.C0-2)];rfl
  ·rw[f_ g,f_ (ω:¬(f:Int)≤b.C0-2)];rfl
 ·have e:Ak (Bx b) f 2=CQ (V U (Ake (b.C0-1).toNat*2^min (Q 1) (IntKind.bits .u32))) f:=rfl
  rw[e,t.2];unfold inR;by_cases g:1≤f
  ·rw[H g,H (ω:(1:Int)≤(f:Int))]
   by_cases g':f≤(b.C0-1).toNat
   ·rw[H g',H (ω:(f:Int)≤b.C0-1)];rfl
   ·rw[f_ g',f_ (ω:¬(f:Int)≤b.C0-1)];rfl
  ·rw[f_ g,f_ (ω:¬(1:Int)≤(f:Int))];rfl
def WJ(b:Bldg)(i:Nat)(s:Int×Int):Int×Int:=(bif Am b (i:Int) 1 then orC s.1 (Vk (i:Int))else s.1,bif Am b (i:Int) 2 then orC s.2 (Vk (i:Int))else s.2)
def Apc(hb:b.small)(hcode:b.code=0):Sf b.C0 b.E0 b.H0 b.M0 b.J0 b.L0 b.N0 b.B0=B (((),()),(((Bx b).1,(Bx b).2,()),())):=by
 have h:=AP (step:=λx=>letI a:=x.2.1.2.2;letI c:=a.2.2;JS x.1.2.2.2.1 x.2.1.1 x.2.1.2.1 a.1 a.2.1 c.1 c.2.1 c.2.2.1 c.2.2.2.1 x.2.2.1.1 x.2.2.1.2.1 x.2.2.2.1.1 x.2.2.2.1.2.1) 32 (λi (s:Int×Int)=>(((),(),(),(i:Int),()),(b.tup,((0:Int),(0:Int),()),(s.1,s.2,()),()))) (WJ b)
  (λi s=>Ey s∧∀f:Nat,f<32→∀d:Int,(d=1∨d=2)→Ak s f d=(decide (f<i)&&Am b (f:Int) d)) (λs=>(((),(),()),(((0:Int),(0:Int),()),(s.1,s.2,()),()))) (λi s hi hs=>by
  have w:aD.wrap (i:Int)=(i:Int):=CI ω ω
  have hp:∀j,CQ (Vk (i:Int)) j=decide (j=i):=λj=>Ap3 (k:=i) hi j
  refine⟨?_,⟨?_,?_⟩,λf hf d hd=>?_⟩
  ·show JS (i:Int) b.C0 b.E0 b.H0 b.M0 b.J0 b.L0 b.N0 b.B0 0 0 s.1 s.2=_
   unfold JS WJ;rw[Li hb,H (ω:(i:Int)<32)]
   simp only[a_,E,w,H (ω:(0:Int)≤(i:Int)),Ag4]
   cases Am b (i:Int) 1 with
   |true=>
    simp only[E,a_,Li hb,w,H (ω:(0:Int)≤(i:Int)),Aa (n:=(i:Int)+1) ω ω]
    cases Am b (i:Int) 2<;>rfl
   |false=>
    simp only[J,a_,Li hb,w,H (ω:(0:Int)≤(i:Int)),E,Aa (n:=(i:Int)+1) ω ω]
    cases Am b (i:Int) 2<;>rfl
  ·unfold WJ
   cases Am b (i:Int) 1
   ·exact hs.1.1
   ·exact KP _
  ·unfold WJ
   cases Am b (i:Int) 2
   ·exact hs.1.2
   ·exact KP _
  ·have hk:=hs.2 f hf d hd
   have dk:decide (f<i+1)=(decide (f<i)||decide (f=i)):=by
    rw[Bool.eq_iff_iff,Y_,t_,t_,t_];omega
   rw[dk];rcases hd with rfl | rfl
   ·have e:Ak (WJ b i s) f 1=CQ (bif Am b (i:Int) 1 then orC s.1 (Vk (i:Int))else s.1) f:=rfl
    have hk':CQ s.1 f=_:=hk;rw[e];cases hc:Am b (i:Int) 1 with
    |true=>
     rw[E];unfold orC;rw[Ts,aE];show(CQ s.1 f||CQ (Vk (i:Int)) f)=_
     rw[hk',hp];by_cases g:f=i
     ·subst g;rw[hc];simp
     ·rw[f_ g];simp
    |false=>
     rw[J,hk'];by_cases g:f=i
     ·subst g;rw[hc];simp
     ·rw[f_ g];simp
   ·have e:Ak (WJ b i s) f 2=CQ (bif Am b (i:Int) 2 then orC s.2 (Vk (i:Int))else s.2) f:=rfl
    have hk':CQ s.2 f=_:=hk;rw[e];cases hc:Am b (i:Int) 2 with
    |true=>
     rw[E];unfold orC;rw[Ts,aE];show(CQ s.2 f||CQ (Vk (i:Int)) f)=_
     rw[hk',hp];by_cases g:f=i
     ·subst g;rw[hc];simp
     ·rw[f_ g];simp
    |false=>
     rw[J,hk'];by_cases g:f=i
     ·subst g;rw[hc];simp
     ·rw[f_ g];simp) (λs _=>by
  show JS 32 b.C0 b.E0 b.H0 b.M0 b.J0 b.L0 b.N0 b.B0 0 0 s.1 s.2=_;unfold JS;rw[show decide ((32:Int)<32)=A from rfl];rfl) 32 0 (0,0) ω ⟨Ht,λf _ d _=>by rw[EZ];simp⟩
 have h':=Ai h.1 ω
 have hall:AK (WJ b) 32 0 (0,0)=Bx b:=Ou h.2.1 (Bce b) λf hf d hd=>by
  rw[h.2.2 f hf d hd,WK hb hcode hf hd,H hf,n_]
 rw[hall]at h';unfold Sf;simp only[Bldg.tup]at h';rw[show Pc (((),(),(),(0:Int),()),((b.C0,b.E0,b.H0,b.M0,b.J0,b.L0,b.N0,b.B0,()),((0:Int),(0:Int),()),((0:Int),(0:Int),()),()))=_ from h']
 rfl
def CZ(b:Bldg)(v:View):Int×Int:=bif v.Y2 then CT (v.F3,v.Q2) (Bx b)else(0,0)
def RZ(hb:b.small)(hcode:b.code=0)(v:View):HQ b.C0 b.E0 b.H0 b.M0 b.J0 b.L0 b.N0 b.B0 v.H3 v.Y2 v.D3 v.X3 v.D0 v.I0 v.C3 v.F3 v.Q2 v.M2 v.Z1 v.Q1=B (((),()),(((CZ b v).1,(CZ b v).2,()),())):=by
 unfold HQ CZ;cases v.Y2 with
 |false=>rfl
 |true=>
  rw[KE hb hcode];simp only[o_,J,a_,E];rw[Ld (v.F3,v.Q2) (Bx b)];rfl
def Ac1{c:Int×Int}(h:Int→Int→Option ((Bool×Unit)×Unit))(hh:∀f:Nat,f<32→∀d:Int,(d=1∨d=2)→h (f:Int) d=B ((Ak c f d,()),())):∀k i:Nat,i+k≤32→Wj h (λf d=>aC f d (-1) 0 A) ((R i k).flatMap λf:Nat=>[((f:Int),1),((f:Int),2)])=B ((R i k).flatMap (Lf c))
 |0,_,_=>rfl
 |k+1,i,hk=>by
  rw[d8_,a1_,a1_];show Wj h _ (((i:Int),1)::((i:Int),2)::((R (i+1) k).flatMap λf:Nat=>[((f:Int),1),((f:Int),2)]))=_
  simp only[Wj];rw[hh i ω 1 (.inl rfl),hh i ω 2 (.inr rfl),Ac1 h hh k (i+1) ω]
  unfold Lf;cases Ak c i 1<;>cases Ak c i 2<;>rfl
def Xq(c:Int×Int):LU c.1 c.2=B ((Ff c,()),()):=by
 unfold LU Amy
 have e:pairs64=(R 0 32).flatMap λf:Nat=>[((f:Int),1),((f:Int),2)]:=by
  unfold pairs64;rw[List.range_eq_range']
 have h:=Ac1 (c:=c) (λf d=>Dq c.1 c.2 f d) (λf hf d hd=>by
  have h:=Pz c (F:=(f:Int)) (D:=d) ⟨ω,ω⟩ hd
  rw[i_]at h;exact h) 32 0 ω
 rw[e,h];rfl
end Go.Ovl
namespace Go.Ovl
open Go Go.Ab
structure Sto where
 h0:ByteArray
 h1:ByteArray
 sel:Int
def Sto.get(s:Sto)(half:Int):ByteArray:=if half=0 then s.h0 else s.h1
def Sto.set(s:Sto)(half:Int)(x:ByteArray):Sto:=if half=0 then { s with h0:=x }else { s with h1:=x }
def Sto.no:Sto:=⟨noB,noB,0⟩
def Sto.cur(s:Sto):ByteArray:=if s.sel=1 then s.h1 else s.h0
def Sto.ok(room:Int)(s:Sto):Prop:=1≤room∧room≤65536∧s.h0.size≤room∧s.h1.size≤room∧(s.sel=0∨s.sel=1)
instance okSto_ti(room:Int)(s:Sto):Decidable (s.ok room):=by unfold Sto.ok;infer_instance
def Sto.tup(s:Sto):ByteArray×ByteArray×Int×Unit:=(s.h0,(s.h1,(s.sel,())))
def Sto.chk(room:Int)(s:Sto)(half bud:Int):Int:=if s.ok room then if(half≠0∧half≠1)∨bud<0 then 2 else 0 else 1
def Sto.write(room:Int)(s:Sto)(half:Int)(d:ByteArray)(bud:Int):Sto×Int×Int:=
 if s.chk room half bud≠0 then(.no,0,s.chk room half bud)
 else if room<(s.get half).size+d.size then(.no,0,7)
 else if bud<d.size then(s.set half (s.get half++d.extract 0 bud.toNat),0,8)
 else(s.set half (s.get half++d),bud-d.size,0)
def Sto.act(room:Int)(s:Sto)(half bud:Int)(t:Sto):Sto×Int×Int:=
 if s.chk room half bud≠0 then(.no,0,s.chk room half bud)else if bud=0 then(s,0,8)else(t,bud-1,0)
def Sto.erase(room:Int)(s:Sto)(half bud:Int):Sto×Int×Int:=s.act room half bud (s.set half noB)
def Sto.choose(room:Int)(s:Sto)(half bud:Int):Sto×Int×Int:=s.act room half bud { s with sel:=half }
def Sto.out(r:Sto×Int×Int):(Unit×Int×Int×Unit)×((ByteArray×ByteArray×Int×Unit)×Unit):=(((),(r.2.1,(r.2.2,()))),((r.1.h0,(r.1.h1,(r.1.sel,()))),()))
def IS(room:Int)(h0 h1:ByteArray)(sel:Int):Fw room h0 h1 sel=B ((decide (Sto.ok room ⟨h0,h1,sel⟩),()),()):=by
 unfold Fw Sto.ok;by_cases a:1≤room
 ·by_cases b:room≤65536
  ·by_cases c:(h0.size:Int)≤room
   ·by_cases d:(h1.size:Int)≤room
    ·by_cases e:sel=0
     ·simp[a,b,c,d,e]
     ·by_cases f:sel=1<;>simp[a,b,c,d,e,f,An]
    ·simp[a,b,c,d]
   ·simp[a,b,c]
  ·simp[a,b]
 ·simp[a]
def Od(room:Int)(h0 h1:ByteArray)(sel half bud:Int):Iv room h0 h1 sel half bud=B ((Sto.chk room ⟨h0,h1,sel⟩ half bud,()),()):=by
 unfold Iv Sto.chk;rw[IS];by_cases a:Sto.ok room ⟨h0,h1,sel⟩
 ·by_cases b:half=0
  ·by_cases c:bud<0<;>simp[a,b,c]
  ·by_cases d:half=1
   ·by_cases c:bud<0<;>simp[a,c,d]
   ·simp[a,b,d,FG]
 ·simp[a]
def Qj{room:Int}{s:Sto}{half bud:Int}(h:s.chk room half bud=0):s.ok room∧(half=0∨half=1)∧0≤bud:=by
 unfold Sto.chk at h;split at h
 ·split at h
  ·cases h
  ·rename_i h1 h2;refine⟨h1,?_,?_⟩<;>omega
 ·cases h
def Tj(room:Int)(h0 h1:ByteArray)(sel half:Int)(d:ByteArray)(bud:Int)(hb:bud<9223372036854775808) :
  Iu room h0 h1 sel half d bud=B (Sto.out (Sto.write room ⟨h0,h1,sel⟩ half d bud)):=by
 unfold Iu Sto.write;rw[Od];generalize hc:Sto.chk room ⟨h0,h1,sel⟩ half bud=c;by_cases h:c=0
 ·subst h
  obtain⟨⟨o1,o2,o3,o4,o5⟩,hh,hb0⟩:=Qj hc;simp only at o3 o4;have hin:inB half 2=C:=Ac ω ω
  have hg:(List.getD [h0,h1] half.toNat noB)=Sto.get ⟨h0,h1,sel⟩ half:=by
   rcases hh with rfl | rfl<;>rfl
  have hgs:((Sto.get ⟨h0,h1,sel⟩ half).size:Int)≤room:=by rcases hh with rfl | rfl<;>simpa[Sto.get]
  have hset:∀x:ByteArray,((bif Nat.beq half.toNat 0 then x else h0),((bif Nat.beq half.toNat 1 then x else h1),(sel,())))=((Sto.set ⟨h0,h1,sel⟩ half x).h0,((Sto.set ⟨h0,h1,sel⟩ half x).h1,((Sto.set ⟨h0,h1,sel⟩ half x).sel,()))):=by
   intro x;rcases hh with rfl | rfl<;>rfl
  have hg':(List.getD [h0,h1] half.toNat (ByteArray.mk (Array.mk [])))=Sto.get ⟨h0,h1,sel⟩ half:=hg;simp only[a_,hin,E,hg',hset];generalize Sto.get ⟨h0,h1,sel⟩ half=g at hgs⊢;rw[Aa (n:=room-g.size) ω ω]
  by_cases h2:room<(g.size:Int)+d.size
  ·have e:decide (room-(g.size:Int)<d.size)=C:=by simp;omega
   simp[e,h2,Sto.out,Sto.no,noB]
  ·have e:decide (room-(g.size:Int)<d.size)=A:=by simp;omega
   by_cases h3:bud<d.size
   ·have e2:decide (bud<(d.size:Int))=C:=by simpa using h3
    have e3:(decide (0≤bud)&&decide (bud≤(d.size:Int)))=C:=by simp;omega
    have e4:aA (g.size+(d.extract 0 bud.toNat).size) 4611686018427387904=C:=by
     rw[Wx d ω];exact Ay ω
    simp only[e,e3,e4,h2,h3,E,J,g8_,f2_,Sto.out];simp
   ·have e2:decide (bud<(d.size:Int))=A:=by simpa using h3
    have e4:aA (g.size+d.size) 4611686018427387904=C:=Ay ω
    rw[Aa (n:=bud-d.size) ω ω]
    simp only[e,e4,h2,h3,E,J,f2_,Sto.out];simp
 ·simp[h,Sto.out,Sto.no,noB,FG]
def Au7(room:Int)(h0 h1:ByteArray)(sel half bud:Int)(hb:bud<9223372036854775808):NG room h0 h1 sel half bud=B (Sto.out (Sto.erase room ⟨h0,h1,sel⟩ half bud)):=by
 unfold NG Hn Sto.erase Sto.act;rw[Od];generalize hc:Sto.chk room ⟨h0,h1,sel⟩ half bud=c;by_cases h:c=0
 ·subst h
  obtain⟨_,hh,hb0⟩:=Qj hc;by_cases h2:bud=0
  ·simp[h2,Sto.out]
  ·have hin:inB half 2=C:=Ac ω ω
   unfold OY;rw[Aa (n:=bud-1) ω ω]
   have e:(bud==0)=A:=by simpa using h2
   rcases hh with rfl | rfl<;>simp[hin,e,h2,Sto.out,Sto.set,noB]<;>rfl
 ·simp[h,Sto.out,Sto.no,noB,FG]
def Apx(room:Int)(h0 h1:ByteArray)(sel half bud:Int)(hb:bud<9223372036854775808):MK room h0 h1 sel half bud=B (Sto.out (Sto.choose room ⟨h0,h1,sel⟩ half bud)):=by
 unfold MK GN Sto.choose Sto.act;rw[Od];generalize hc:Sto.chk room ⟨h0,h1,sel⟩ half bud=c;by_cases h:c=0
 ·subst h
  obtain⟨_,hh,hb0⟩:=Qj hc;by_cases h2:bud=0
  ·simp[h2,Sto.out]
  ·unfold Oc
   rw[Aa (n:=bud-1) ω ω]
   have e:(bud==0)=A:=by simpa using h2
   simp[e,h2,Sto.out]
 ·simp[h,Sto.out,Sto.no,noB,FG]
def XE(h0 h1:ByteArray)(sel:Int):LG h0 h1 sel=B ((Sto.cur ⟨h0,h1,sel⟩,()),()):=by
 unfold LG Sto.cur;by_cases h:sel=1<;>simp[h,An]
def Ct:Debounced:=Debounced.mk 0 A A A A 0 0 0 0 0 0 0 0 0 0 0 0 0 0 0 0 0 0 0 0 0 0 0 0 0 0 0 0 0 0 0 0 0 0 0 0
def DH:Duty:=Duty.mk 0 0 0
def AX:NewCar:=NewCar.mk 0 0 0 0 0 A 0 0 0 0 0 0 0 A
def Hs:Loaded:=Loaded.mk 0
def Agl:Calls:=Calls.mk 0 0
def Jz:Belief:=Belief.mk 0 0 0 [] 0 A
def Belief.tup(x:Belief):Int×Int×Int×List Duty×Int×Bool×Unit:=(x.D0,x.I0,x.E3,x.U0,x.V2,x.N3,())
structure Mch where
 G0:Img
 Z0:Sto
 S1:List Debounced
 W0:List Belief
 B0:List NewCar
 R2:List Loaded
 U1:List Int
 B3:List Calls
 T3:Int
 T2:Int
 H2:Int
def Mch.tup(m:Mch):List Int×List Bool×List Bool×List I×ByteArray×ByteArray×Int×List Debounced×List Belief×List NewCar×List Loaded×List Int×List Calls×Int×Int×Int×Unit:=(m.G0.F0,m.G0.O0,m.G0.K0,m.G0.A0,m.Z0.h0,m.Z0.h1,m.Z0.sel,m.S1,m.W0,m.B0,m.R2,m.U1,m.B3,m.T3,m.T2,m.H2,())
structure Mch.fit(m:Mch):Prop where
 im:m.G0.fit
 co:m.S1.length≤100000
 be:m.W0.length≤100000
 du:∀x∈m.W0,x.U0.length≤100000
 ca:m.B0.length≤100000
 lo:m.R2.length≤100000
 ex:m.U1.length≤100000
 li:m.B3.length≤100000
section
variable{a c:Mch}(ha:a.fit)
include ha
end
end Go.Ovl
