/- Which images belong to a building (layer 10): the program and the reference say the same. -/
import Derived.Test.YtgmkjajpbaghgaaGreatDoorOvA
set_option linter.all false
open Bool renaming false->A,true->B
open Go.Ovl renaming Entry->C,inR->I,Bldg->L,Record->aA
open Option renaming some->E,none->O
open Go renaming c_->H,d_->J
open Go.IntKind renaming i64->N
open Nat renaming le_succ->aB
namespace Go.Ovl
open Go Go.Ab
set_option maxRecDepth 100000
variable{b:L}{l:List C}{r:aA}{e c:C}{k:Nat}
def WX(x y:Int):decide (x<y)=!decide (y≤x):=by by_cases h:y≤x<;>simp[h]<;>omega
def Bjk(x y:Int):decide (x≤y)=!decide (y<x):=by by_cases h:y<x<;>simp[h]<;>omega
def noE:C:=Entry.mk 0 0 0 0 A
structure Img where
 F0:List Int
 O0:List Bool
 K0:List Bool
 A0:List Entry
def Img.tup(m:Img):List Int×List Bool×List Bool×List C×Unit:=(m.F0,m.O0,m.K0,m.A0,())
def Img.none:Img:=⟨[],[],[],[]⟩
def OT(fl floor dir:Int):Bool:=(dir==1&&I 0 (fl-2) floor)||(dir==2&&I 1 (fl-1) floor)
def WQ{fl:Int}(h:0≤fl∧fl<100)(floor dir:Int):IP fl floor dir=E ((OT fl floor dir,()),()):=by
 have w1:N.wrap (fl-1)=fl-1:=Ac ω ω
 have w2:N.wrap (fl-2)=fl-2:=Ac ω ω
 have k:∀lo hi:Int,BM lo hi [floor]=E ((I lo hi floor,()),()):=λlo hi=>by
  rw[BZ lo hi (show [floor].length≤maxLen from(show 1≤maxLen by decide))];simp
 unfold IP OT;rw[w1,w2,k,k];cases dir==1<;>cases dir==2<;>cases I 0 (fl-2) floor<;>rfl
def Ak(b:L)(floor dir:Int):Bool:=b.code==0&&OT b.C0 floor dir
def LH(hb:b.small)(floor dir:Int):Fv b.C0 b.E0 b.H0 b.M0 b.J0 b.L0 b.N0 b.B0 floor dir=E ((Ak b floor dir,()),()):=by
 unfold Fv Ak;rw[Be,WQ ⟨by have:=hb.lo;omega,by have:=hb.hi;omega⟩]
 simp only[a_];cases b.code==0<;>rfl
def KI(hb:b.small)(floor dir:Int):Hx b.C0 b.E0 b.H0 b.M0 b.J0 b.L0 b.N0 b.B0 floor dir=E ((Ak b floor dir,()),()):=by
 have lo:=hb.lo;have hi:=hb.hi;have w1:N.wrap (b.C0-1)=b.C0-1:=Ac ω ω
 have w2:N.wrap (b.C0-2)=b.C0-2:=Ac ω ω
 unfold Hx Ak OT;rw[Ho,w1,w2,KM,KM];simp only[a_,bne];cases b.code==0<;>cases dir==1<;>cases dir==2<;>cases I 0 (b.C0-2) floor<;>rfl
def GK(b:L)(e:C):Bool:=Ak b e.D0 e.I0&&(decide (-2≤e.Q0)&&(decide (e.Q0<(b.B0.length:Int))&&(decide (0≤e.B1)&&decide (e.B1≤255))))
def Aes(hb:b.small)(e:C):MX b.C0 b.E0 b.H0 b.M0 b.J0 b.L0 b.N0 b.B0 e.D0 e.I0 e.Q0 e.B1 e.Y1=E ((GK b e,()),()):=by
 unfold MX GK;rw[LH hb];simp only[a_];cases Ak b e.D0 e.I0<;>cases decide (-2≤e.Q0)<;>cases decide (e.Q0<(b.B0.length:Int))<;>cases decide (0≤e.B1)<;>rfl
def Bj(a b:C):Bool:=decide (a.D0<b.D0)||(a.D0==b.D0&&decide (a.I0<b.I0))
def Ant(a b:C):Oq a.D0 a.I0 a.Q0 a.B1 a.Y1 b.D0 b.I0 b.Q0 b.B1 b.Y1=E ((Bj a b,()),()):=by
 unfold Oq Bj;cases decide (a.D0<b.D0)<;>cases a.D0==b.D0<;>rfl
def Vp(x y:Int):Int:=bif decide (x<y)then -1 else bif decide (y<x)then 1 else 0
def Hq(x y:Int):Ef x y=E ((Vp x y,()),()):=by
 unfold Ef Lb Vp;simp only[a_,Q_,H];cases decide (x<y)<;>cases decide (y<x)<;>rfl
def WT(x y:Int):Lx [x,y]=E (((bif x !=0 then x else y),()),()):=by
 have r:∀(l:List Int) (i:Nat),i<l.length→l.length<100→Js 0 l (l.length:Int) (i:Int)=E (bif l.getD i 0 !=0 then Sum.inr (Sum.inr ((l.getD i 0,()),()))else Sum.inl (((0:Int),l,(l.length:Int),((i+1:Nat):Int),()),())):=λl i hi hl=>by
  have w:N.wrap ((i:Int)+1)=((i+1:Nat):Int):=by rw[Ac ω ω];omega
  unfold Js;rw[b_ (ω:(i:Int)<(l.length:Int)),Aa (ω:(0:Int)≤(i:Int)) (ω:(i:Int)<(l.length:Int)),j_,w]
  simp only[J];cases l.getD i 0 !=0<;>rfl
 have r0:Js 0 [x,y] 2 0=E (bif x !=0 then Sum.inr (Sum.inr ((x,()),()))else Sum.inl (((0:Int),[x,y],(2:Int),(1:Int),()),())):=r [x,y] 0 (by simp) (by simp)
 have r1:Js 0 [x,y] 2 1=E (bif y !=0 then Sum.inr (Sum.inr ((y,()),()))else Sum.inl (((0:Int),[x,y],(2:Int),(2:Int),()),())):=r [x,y] 1 (by simp) (by simp)
 have h:Mn (((0:Int),[x,y],(2:Int),(0:Int),()),())=E (bif x !=0 then .inr ((x,()),())else bif y !=0 then .inr ((y,()),())else .inl (((0:Int),()),())):=by
  refine Ai (f:=3) ?_ ω
  cases hx:x !=0 with
  |true=>rw[hx]at r0;exact Ay r0
  |false=>
   rw[hx]at r0;refine(Bs r0).trans ?_;cases hy:y !=0 with
   |true=>rw[hy]at r1;exact Ay r1
   |false=>rw[hy]at r1;exact(Bs r1).trans (Ay rfl)
 unfold Lx;rw[show((([x,y]:List Int).length:Nat):Int)=2 from rfl,h]
 cases hx:x !=0 with
 |true=>rfl
 |false=>
  cases hy:y !=0 with
  |true=>rfl
  |false=>
   have:y=0:=by simpa using hy
   subst this;rfl
def PQ(a b:C):∃n:Int,HU a.D0 a.I0 a.Q0 a.B1 a.Y1 b.D0 b.I0 b.Q0 b.B1 b.Y1=E ((n,()),())∧decide (0≤n)=!Bj a b∧(n=0↔a.D0=b.D0∧a.I0=b.I0):=by
 unfold HU;rw[Hq,Hq];simp only[a_];rw[WT];refine⟨_,rfl,?_,?_⟩
 ·unfold Bj Vp
  by_cases h1:a.D0<b.D0
  ·rw[b_ h1];rfl
  ·rw[f_ h1]
   by_cases h2:b.D0<a.D0
   ·rw[b_ h2,Aq (ω:¬a.D0=b.D0)];rfl
   ·rw[f_ h2,show(a.D0==b.D0)=B by simp;omega]
    by_cases h3:a.I0<b.I0
    ·rw[b_ h3];rfl
    ·rw[f_ h3]
     cases decide (b.I0<a.I0)<;>rfl
 ·unfold Vp
  by_cases h1:a.D0<b.D0
  ·rw[b_ h1]
   exact⟨(λh=>by cases h),(λh=>by omega)⟩
  ·rw[f_ h1]
   by_cases h2:b.D0<a.D0
   ·rw[b_ h2]
    exact⟨(λh=>by cases h),(λh=>by omega)⟩
   ·rw[f_ h2]
    by_cases h3:a.I0<b.I0
    ·rw[b_ h3];exact⟨(λh=>by cases h),(λh=>by omega)⟩
    ·rw[f_ h3]
     by_cases h4:b.I0<a.I0
     ·rw[b_ h4];exact⟨(λh=>by cases h),(λh=>by omega)⟩
     ·rw[f_ h4];exact⟨λ_=>⟨ω,ω⟩,λ_=>rfl⟩
def Es(b:L):Option C→List C→Bool
 |_,[]=>B
 |p,e::t=>GK b e&&((match p with | some q=>Bj q e | none=>B)&&Es b (E e) t)
def Img.ok(b:L)(m:Img):Bool:=
 b.code==0&&((m.F0.length:Int)==(b.B0.length:Int)&&((m.O0.length:Int)==(b.B0.length:Int)&&((m.K0.length:Int)==(b.B0.length:Int)&&(m.F0.all (I 0 4)&&Es b Option.none m.A0))))
def Jb(l:List C)(i:Nat):Option C:=if i=0 then O else E (l.getD (i-1) noE)
def Abp{i:Nat}(h:i<l.length):Es b (Jb l i) (l.drop i)=(GK b (l.getD i noE)&&((match Jb l i with | some q=>Bj q (l.getD i noE) | none=>B)&&Es b (Jb l (i+1)) (l.drop (i+1)))):=by
 rw[Cb noE h];simp only[Es,Jb,Nat.succ_ne_zero,e7_,Nat.add_sub_cancel]
section
variable{b:L}(hb:b.small)(m:Img)
include hb
theorem Ahu(hm:m.A0.length≤maxLen):Ln (((),(),m.A0,(m.A0.length:Int),(0:Int),()),(b.tup,m.tup,()))=E (if Es b O m.A0 then .inl ((),())else .inr ((A,()),())):=by
 have hmx:maxLen≤9223372036854775807:=by decide
 have key:∀(k i:Nat),i+k=m.A0.length→BN (λx=>letI a:=x.2.1.2.2;letI c:=a.2.2;letI d:=x.2.2.1;Fj x.1.2.2.1 x.1.2.2.2.1 x.1.2.2.2.2.1 x.2.1.1 x.2.1.2.1 a.1 a.2.1 c.1 c.2.1 c.2.2.1 c.2.2.2.1 d.1 d.2.1 d.2.2.1 d.2.2.2.1) (k+1) (((),(),m.A0,(m.A0.length:Int),(i:Int),()),(b.tup,m.tup,()))=E (if Es b (Jb m.A0 i) (m.A0.drop i)then .inl ((),())else .inr ((A,()),())):=by
  intro k
  induction k with
  |zero=>
   intro i hi;refine Ay ?_;show Fj m.A0 (m.A0.length:Int) (i:Int) b.C0 b.E0 b.H0 b.M0 b.J0 b.L0 b.N0 b.B0 m.F0 m.O0 m.K0 m.A0=_;unfold Fj;have e:decide ((i:Int)<(m.A0.length:Int))=A:=by simp;omega
   rw[e,show i=m.A0.length by omega,a8_];rfl
  |succ k ih=>
   intro i hi;have hi':i<m.A0.length:=ω
   have e:decide ((i:Int)<(m.A0.length:Int))=B:=by simp;omega
   have ib:inB (i:Int) m.A0.length=B:=Aa ω ω
   have w:N.wrap ((i:Int)+1)=((i+1:Nat):Int):=by rw[Ac ω ω];omega
   have go:∀p:Bool,(Fj m.A0 (m.A0.length:Int) (i:Int) b.C0 b.E0 b.H0 b.M0 b.J0 b.L0 b.N0 b.B0 m.F0 m.O0 m.K0 m.A0=E (bif p then .inr (.inr ((A,()),()))else .inl (((),(),m.A0,(m.A0.length:Int),((i+1:Nat):Int),()),(b.tup,m.tup,()))))→(Es b (Jb m.A0 i) (m.A0.drop i)=(!p&&Es b (Jb m.A0 (i+1)) (m.A0.drop (i+1))))→BN (λx=>letI a:=x.2.1.2.2;letI c:=a.2.2;letI d:=x.2.2.1;Fj x.1.2.2.1 x.1.2.2.2.1 x.1.2.2.2.2.1 x.2.1.1 x.2.1.2.1 a.1 a.2.1 c.1 c.2.1 c.2.2.1 c.2.2.2.1 d.1 d.2.1 d.2.2.1 d.2.2.2.1) (k+1+1) (((),(),m.A0,(m.A0.length:Int),(i:Int),()),(b.tup,m.tup,()))=E (if Es b (Jb m.A0 i) (m.A0.drop i)then .inl ((),())else .inr ((A,()),())):=λp h1 h2=>by
    rw[h2];cases p with
    |true=>exact Ay h1
    |false=>rw[b6_,o_];exact(Bs h1).trans (ih (i+1) ω)
   have hstep:=Abp (b:=b) hi';have he:=Aes hb (m.A0.getD i noE);unfold noE at he;refine go (!(GK b (m.A0.getD i noE)&&(match Jb m.A0 i with | some q=>Bj q (m.A0.getD i noE) | none=>B))) ?_ (by rw[hstep,Bool.not_not,Bool.and_assoc])
   unfold Fj;rw[e,ib];simp only[J,j_,he,a_];cases hk:GK b (m.A0.getD i noE)with
   |false=>
    unfold noE at hk;rw[hk];rfl
   |true=>
    unfold noE at hk;rw[hk];simp only[n_,H,o_];by_cases g:(0:Int)<(i:Int)
    ·have w1:N.wrap ((i:Int)-1)=((i-1:Nat):Int):=by rw[Ac ω ω];omega
     have ib1:inB ((i-1:Nat):Int) m.A0.length=B:=Aa ω ω
     rw[b_ g,w1,ib1];obtain⟨n,c1,c2,_⟩:=PQ (m.A0.getD (i-1) noE) (m.A0.getD i noE);unfold noE at c1;simp only[J,j_,c1,a_,w,c2];rw[show Jb m.A0 i=E (m.A0.getD (i-1) noE)from if_neg ω]
     simp only;cases Bj (m.A0.getD (i-1) noE) (m.A0.getD i noE)<;>rfl
    ·have:i=0:=ω
     subst this;rw[f_ g];simp only[H,a_,w];rfl
 have h:=Ai (key m.A0.length 0 ω) ω
 exact h
theorem Ah7(n:Int)(hn:n=(b.B0.length:Int))(hm:m.A0.length≤maxLen):Lp (((),(),n,(0:Int),()),(b.tup,m.tup,()))=E (if Es b O m.A0 then .inl ((),())else .inr ((A,()),())):=by
 have hmx:maxLen≤9223372036854775807:=by decide
 have key:∀(k i:Nat),i+k=m.A0.length→BN (λx=>letI a:=x.2.1.2.2;letI c:=a.2.2;letI d:=x.2.2.1;Fp x.1.2.2.1 x.1.2.2.2.1 x.2.1.1 x.2.1.2.1 a.1 a.2.1 c.1 c.2.1 c.2.2.1 c.2.2.2.1 d.1 d.2.1 d.2.2.1 d.2.2.2.1) (k+1) (((),(),n,(i:Int),()),(b.tup,m.tup,()))=E (if Es b (Jb m.A0 i) (m.A0.drop i)then .inl ((),())else .inr ((A,()),())):=by
  intro k
  induction k with
  |zero=>
   intro i hi;refine Ay ?_;show Fp n (i:Int) b.C0 b.E0 b.H0 b.M0 b.J0 b.L0 b.N0 b.B0 m.F0 m.O0 m.K0 m.A0=_;unfold Fp;have e:decide ((i:Int)<(m.A0.length:Int))=A:=by simp;omega
   rw[e,show i=m.A0.length by omega,a8_];rfl
  |succ k ih=>
   intro i hi;have hi':i<m.A0.length:=ω
   have e:decide ((i:Int)<(m.A0.length:Int))=B:=by simp;omega
   have ib:inB (i:Int) m.A0.length=B:=Aa ω ω
   have w:N.wrap ((i:Int)+1)=((i+1:Nat):Int):=by rw[Ac ω ω];omega
   have go:∀p:Bool,(Fp n (i:Int) b.C0 b.E0 b.H0 b.M0 b.J0 b.L0 b.N0 b.B0 m.F0 m.O0 m.K0 m.A0=E (bif p then .inr (.inr ((A,()),()))else .inl (((),(),n,((i+1:Nat):Int),()),(b.tup,m.tup,()))))→(Es b (Jb m.A0 i) (m.A0.drop i)=(!p&&Es b (Jb m.A0 (i+1)) (m.A0.drop (i+1))))→BN (λx=>letI a:=x.2.1.2.2;letI c:=a.2.2;letI d:=x.2.2.1;Fp x.1.2.2.1 x.1.2.2.2.1 x.2.1.1 x.2.1.2.1 a.1 a.2.1 c.1 c.2.1 c.2.2.1 c.2.2.2.1 d.1 d.2.1 d.2.2.1 d.2.2.2.1) (k+1+1) (((),(),n,(i:Int),()),(b.tup,m.tup,()))=E (if Es b (Jb m.A0 i) (m.A0.drop i)then .inl ((),())else .inr ((A,()),())):=λp h1 h2=>by
    rw[h2];cases p with
    |true=>exact Ay h1
    |false=>rw[b6_,o_];exact(Bs h1).trans (ih (i+1) ω)
   have hstep:=Abp (b:=b) hi';have hc:=KI hb (m.A0.getD i noE).D0 (m.A0.getD i noE).I0;refine go (!(GK b (m.A0.getD i noE)&&(match Jb m.A0 i with | some q=>Bj q (m.A0.getD i noE) | none=>B))) ?_ (by rw[hstep,Bool.not_not,Bool.and_assoc])
   unfold Fp;rw[e,ib,show(Entry.mk 0 0 0 0 A)=noE from rfl]
   simp only[J,j_,hc,a_];unfold GK;have q1:decide ((m.A0.getD i noE).Q0< -2)=!decide (-2≤(m.A0.getD i noE).Q0):=WX _ _;have q2:decide (n≤(m.A0.getD i noE).Q0)=!decide ((m.A0.getD i noE).Q0<(b.B0.length:Int)):=by rw[hn];exact Bjk _ _
   have q3:decide ((m.A0.getD i noE).B1<0)=!decide (0≤(m.A0.getD i noE).B1):=WX _ _;have q4:decide (255<(m.A0.getD i noE).B1)=!decide ((m.A0.getD i noE).B1≤255):=WX _ _;rw[q1,q2,q3,q4];cases Ak b (m.A0.getD i noE).D0 (m.A0.getD i noE).I0 with
   |false=>rfl
   |true=>
    cases decide (-2≤(m.A0.getD i noE).Q0)with
    |false=>rfl
    |true=>
     cases decide ((m.A0.getD i noE).Q0<(b.B0.length:Int))with
     |false=>rfl
     |true=>
      cases decide (0≤(m.A0.getD i noE).B1)with
      |false=>rfl
      |true=>
       cases decide ((m.A0.getD i noE).B1≤255)with
       |false=>rfl
       |true=>
        simp only[n_,H,a6_,o_];by_cases g:(0:Int)<(i:Int)
        ·have w1:N.wrap ((i:Int)-1)=((i-1:Nat):Int):=by rw[Ac ω ω];omega
         have ib1:inB ((i-1:Nat):Int) m.A0.length=B:=Aa ω ω
         have hl:=Ant (m.A0.getD (i-1) noE) (m.A0.getD i noE);rw[b_ g,w1,ib1];simp only[J,j_,hl,a_,w];rw[show Jb m.A0 i=E (m.A0.getD (i-1) noE)from if_neg ω]
         simp only;cases Bj (m.A0.getD (i-1) noE) (m.A0.getD i noE)<;>rfl
        ·have:i=0:=ω
         subst this;rw[f_ g];simp only[H,a_,w];rfl
 have h:=Ai (key m.A0.length 0 ω) ω
 exact h
omit hb in
theorem Aht(hm:m.F0.length≤maxLen):Lm (((),(),m.F0,(m.F0.length:Int),(0:Int),()),(b.tup,m.tup,()))=E (if m.F0.all (I 0 4)then .inl (((),(),()),(b.tup,m.tup,()))else .inr ((A,()),())):=by
 have hmx:maxLen≤9223372036854775807:=by decide
 have key:∀(k i:Nat),i+k=m.F0.length→BN (λx=>letI a:=x.2.1.2.2;letI c:=a.2.2;letI d:=x.2.2.1;GH x.1.2.2.1 x.1.2.2.2.1 x.1.2.2.2.2.1 x.2.1.1 x.2.1.2.1 a.1 a.2.1 c.1 c.2.1 c.2.2.1 c.2.2.2.1 d.1 d.2.1 d.2.2.1 d.2.2.2.1) (k+1) (((),(),m.F0,(m.F0.length:Int),(i:Int),()),(b.tup,m.tup,()))=E (if(m.F0.drop i).all (I 0 4)then .inl (((),(),()),(b.tup,m.tup,()))else .inr ((A,()),())):=by
  intro k
  induction k with
  |zero=>
   intro i hi;refine Ay ?_;show GH m.F0 (m.F0.length:Int) (i:Int) b.C0 b.E0 b.H0 b.M0 b.J0 b.L0 b.N0 b.B0 m.F0 m.O0 m.K0 m.A0=_;unfold GH;have e:decide ((i:Int)<(m.F0.length:Int))=A:=by simp;omega
   rw[e,show i=m.F0.length by omega,a8_];rfl
  |succ k ih=>
   intro i hi;have hi':i<m.F0.length:=ω
   have e:decide ((i:Int)<(m.F0.length:Int))=B:=by simp;omega
   have ib:inB (i:Int) m.F0.length=B:=Aa ω ω
   have w:N.wrap ((i:Int)+1)=((i+1:Nat):Int):=by rw[Ac ω ω];omega
   rw[Cb (0:Int) hi',V_]
   have hs:GH m.F0 (m.F0.length:Int) (i:Int) b.C0 b.E0 b.H0 b.M0 b.J0 b.L0 b.N0 b.B0 m.F0 m.O0 m.K0 m.A0=E (bif I 0 4 (m.F0.getD i 0)then .inl (((),(),m.F0,(m.F0.length:Int),((i+1:Nat):Int),()),(b.tup,m.tup,()))else .inr (.inr ((A,()),()))):=by
    unfold GH;rw[e,ib,w];simp only[J,j_];unfold I;by_cases g1:m.F0.getD i 0<0
    ·rw[b_ g1,f_ (ω:¬0≤m.F0.getD i 0)];rfl
    ·rw[f_ g1,b_ (ω:0≤m.F0.getD i 0)]
     by_cases g2:4<m.F0.getD i 0
     ·rw[b_ g2,f_ (ω:¬m.F0.getD i 0≤4)];rfl
     ·rw[f_ g2,b_ (ω:m.F0.getD i 0≤4)];rfl
   cases hq:I 0 4 (m.F0.getD i 0)with
   |true=>rw[hq]at hs;exact(Bs hs).trans (ih (i+1) ω)
   |false=>rw[hq]at hs;exact Ay hs
 have h:=Ai (key m.F0.length 0 ω) ω
 exact h
omit hb in
theorem Ah6(n:Int)(hn:n=(m.F0.length:Int))(hm:m.F0.length≤maxLen):Lo (((),(),n,(0:Int),()),(b.tup,m.tup,()))=E (if m.F0.all (I 0 4)then .inl (((),(),n,()),(b.tup,m.tup,()))else .inr ((A,()),())):=by
 have hmx:maxLen≤9223372036854775807:=by decide
 subst hn
 have key:∀(k i:Nat),i+k=m.F0.length→BN (λx=>letI a:=x.2.1.2.2;letI c:=a.2.2;letI d:=x.2.2.1;GI x.1.2.2.1 x.1.2.2.2.1 x.2.1.1 x.2.1.2.1 a.1 a.2.1 c.1 c.2.1 c.2.2.1 c.2.2.2.1 d.1 d.2.1 d.2.2.1 d.2.2.2.1) (k+1) (((),(),(m.F0.length:Int),(i:Int),()),(b.tup,m.tup,()))=E (if(m.F0.drop i).all (I 0 4)then .inl (((),(),(m.F0.length:Int),()),(b.tup,m.tup,()))else .inr ((A,()),())):=by
  intro k
  induction k with
  |zero=>
   intro i hi;refine Ay ?_;show GI (m.F0.length:Int) (i:Int) b.C0 b.E0 b.H0 b.M0 b.J0 b.L0 b.N0 b.B0 m.F0 m.O0 m.K0 m.A0=_;unfold GI;have e:decide ((i:Int)<(m.F0.length:Int))=A:=by simp;omega
   rw[e,show i=m.F0.length by omega,a8_];rfl
  |succ k ih=>
   intro i hi;have hi':i<m.F0.length:=ω
   have e:decide ((i:Int)<(m.F0.length:Int))=B:=by simp;omega
   have ib:inB (i:Int) m.F0.length=B:=Aa ω ω
   have w:N.wrap ((i:Int)+1)=((i+1:Nat):Int):=by rw[Ac ω ω];omega
   rw[Cb (0:Int) hi',V_]
   have hs:GI (m.F0.length:Int) (i:Int) b.C0 b.E0 b.H0 b.M0 b.J0 b.L0 b.N0 b.B0 m.F0 m.O0 m.K0 m.A0=E (bif I 0 4 (m.F0.getD i 0)then .inl (((),(),(m.F0.length:Int),((i+1:Nat):Int),()),(b.tup,m.tup,()))else .inr (.inr ((A,()),()))):=by
    unfold GI;rw[e,ib,w];simp only[J,j_];unfold I;by_cases g1:m.F0.getD i 0<0
    ·rw[b_ g1,f_ (ω:¬0≤m.F0.getD i 0)];rfl
    ·rw[f_ g1,b_ (ω:0≤m.F0.getD i 0)]
     by_cases g2:4<m.F0.getD i 0
     ·rw[b_ g2,f_ (ω:¬m.F0.getD i 0≤4)];rfl
     ·rw[f_ g2,b_ (ω:m.F0.getD i 0≤4)];rfl
   cases hq:I 0 4 (m.F0.getD i 0)with
   |true=>rw[hq]at hs;exact(Bs hs).trans (ih (i+1) ω)
   |false=>rw[hq]at hs;exact Ay hs
 have h:=Ai (key m.F0.length 0 ω) ω
 exact h
theorem CL(hp:m.F0.length≤maxLen)(he:m.A0.length≤maxLen):Cg b.C0 b.E0 b.H0 b.M0 b.J0 b.L0 b.N0 b.B0 m.F0 m.O0 m.K0 m.A0=E ((m.ok b,()),()):=by
 unfold Cg Img.ok;rw[Be];simp only[a_,bne];cases b.code==0 with
 |false=>rfl
 |true=>
  cases(m.F0.length:Int)==(b.B0.length:Int)with
  |false=>rfl
  |true=>
   cases(m.O0.length:Int)==(b.B0.length:Int)with
   |false=>rfl
   |true=>
    cases(m.K0.length:Int)==(b.B0.length:Int)with
    |false=>rfl
    |true=>
     have h0:=Aht (b:=b) m hp;have h1:=Ahu hb m he;unfold Bldg.tup Img.tup at h0 h1;simp only[n_,H,h0,a_,o_];cases m.F0.all (I 0 4)with
     |false=>rfl
     |true=>
      simp only[g3_,h1,a_,o_];cases Es b O m.A0<;>rfl
theorem PT(hp:m.F0.length≤maxLen)(he:m.A0.length≤maxLen):GS b.C0 b.E0 b.H0 b.M0 b.J0 b.L0 b.N0 b.B0 m.F0 m.O0 m.K0 m.A0=E ((m.ok b,()),()):=by
 unfold GS Img.ok;rw[Ho];simp only[a_,bne];cases b.code==0 with
 |false=>rfl
 |true=>
  cases hq:(m.F0.length:Int)==(b.B0.length:Int)with
  |false=>rfl
  |true=>
   cases(m.O0.length:Int)==(b.B0.length:Int)with
   |false=>rfl
   |true=>
    cases(m.K0.length:Int)==(b.B0.length:Int)with
    |false=>rfl
    |true=>
     have hq':(m.F0.length:Int)=(b.B0.length:Int):=by simpa using hq
     have h0:=Ah6 (b:=b) m (b.B0.length:Int) hq'.symm hp;have h1:=Ah7 hb m (b.B0.length:Int) rfl he;unfold Bldg.tup Img.tup at h0 h1;simp only[n_,H,h0,a_,o_];cases m.F0.all (I 0 4)with
     |false=>rfl
     |true=>
      simp only[g3_,h1,a_,o_];cases Es b O m.A0<;>rfl
end
def Agw(n lo hi:Int):NE n lo hi=E ((I lo hi n,()),()):=by
 unfold NE I;cases decide (lo≤n)<;>rfl
def SE(b:L)(r:aA):Bool:=I 0 ((b.B0.length:Int)-1) r.Q0&&(r.D0==0&&r.I0==0)
def Az(b:L)(r:aA):Bool:=
 b.code==0&&(bif r.T0==1 then Ak b r.D0 r.I0&&(r.Q0==0&&r.V1==0)
 else bif r.T0==2 then Ak b r.D0 r.I0&&(r.Q0==0&&r.V1==0)
 else bif r.T0==3 then Ak b r.D0 r.I0&&(I (-2) ((b.B0.length:Int)-1) r.Q0&&r.V1==0)
 else bif r.T0==4 then SE b r&&I 0 4 r.V1
 else bif r.T0==5 then SE b r&&I 0 1 r.V1
 else bif r.T0==6 then SE b r&&I 0 1 r.V1
 else bif r.T0==7 then Ak b r.D0 r.I0&&(I 0 1 r.Q0&&I 0 255 r.V1)
 else A)
def Als(hb:b.small)(hc:b.B0.length≤100)(r:aA):KO b.C0 b.E0 b.H0 b.M0 b.J0 b.L0 b.N0 b.B0 r.T0 r.D0 r.I0 r.Q0 r.V1=E ((Az b r,()),()):=by
  have w:N.wrap ((b.B0.length:Int)-1)=(b.B0.length:Int)-1:=Ac ω ω
  unfold KO Az SE;rw[Ho,KI hb,Agw,w];simp only[a_,bne,Agw];cases b.code==0 with
  |false=>rfl
  |true=>
    simp only[n_,H,o_]
    have k:∀(q:Bool) {x y z:Option ((Bool×Unit)×Unit)}{u v:Bool},(q=B→x=E ((u,()),()))→(q=A→y=E ((v,()),()))→(bif q then x else y)=E (((bif q then u else v),()),()):=λq _ _ _ _ _ h1 h2=>by
      cases q
      · exact h2 rfl
      · exact h1 rfl
    cases I 0 ((b.B0.length:Int)-1) r.Q0<;>cases r.D0==0<;>cases r.I0==0<;>
      (simp only[J,H,a_,a6_,c7_,b7_,a2_,o_]
       refine k _ (z:=O) (λ_=>?_) λ_=>k _ (z:=O) (λ_=>?_) λ_=>k _ (z:=O) (λ_=>?_) λ_=>k _ (z:=O) (λ_=>?_) λ_=>k _ (z:=O) (λ_=>?_) λ_=>k _ (z:=O) (λ_=>?_) λ_=>k _ (z:=O) (λ_=>?_) λ_=>?_
       all_goals first
         |rfl
         |(cases Ak b r.D0 r.I0<;>cases r.Q0==0<;>rfl)
         |(cases Ak b r.D0 r.I0<;>cases I 0 1 r.Q0<;>rfl)
         |(rw[w];cases Ak b r.D0 r.I0<;>cases I (-2) ((b.B0.length:Int)-1) r.Q0<;>rfl))
def isC(F D:Int)(e:C):Bool:=e.D0==F&&e.I0==D
def Dx(F D:Int):List C→Nat→Int
 |[],_=>-1
 |e::t,i=>bif isC F D e then(i:Int)else Dx F D t (i+1)
def VH(F D:Int):∀(l:List C) (i:Nat),(Dx F D l i=-1∧∀e∈l,isC F D e=A)∨∃k:Nat,k<l.length∧Dx F D l i=((i+k:Nat):Int)∧isC F D (l.getD k noE)=B
 |[],_=>.inl ⟨rfl,λ_ h=>by cases h⟩
 |e::t,i=>by
  simp only[Dx];cases h:isC F D e with
  |true=>exact .inr ⟨0,by simp,rfl,h⟩
  |false=>
   rcases VH F D t (i+1)with⟨h1,h2⟩ | ⟨k,h1,h2,h3⟩
   ·refine .inl ⟨h1,λx hx=>?_⟩
    rcases y_.1 hx with rfl | hx
    ·exact h
    ·exact h2 x hx
   ·refine .inr ⟨k+1,by simp;omega,?_,h3⟩
    rw[H,h2];congr 1;omega
def Hc(e:C):Bool→List C→List C
 |d,[]=>bif d then []else [e]
 |true,x::t=>x::Hc e B t
 |false,x::t=>bif Bj e x then e::x::Hc e B t else x::Hc e A t
def ZN(e:C):∀(l:List C) (d:Bool),(Hc e d l).length≤l.length+1
 |[],B=>by simp[Hc]
 |[],A=>by simp[Hc]
 |x::t,B=>by simp only[Hc,z_];have:=ZN e t B;omega
 |x::t,A=>by
  simp only[Hc];cases Bj e x with
  |true=>
   simp only[J,z_]
   have:∀t:List C,Hc e B t=t:=λt=>by
    induction t with
    |nil=>rfl
    |cons a t ih=>simp only[Hc,ih]
   rw[this];omega
  |false=>simp only[H,z_];have:=ZN e t A;omega
def TG(e:C):∀t:List C,Hc e B t=t
 |[]=>rfl
 |a::t=>by simp only[Hc,TG e t]
def Img.put(m:Img)(l:List C):Img:=⟨m.F0,m.O0,m.K0,l⟩
def Ac3(e:C)(c:Int):C:=⟨e.D0,e.I0,c,e.B1,e.Y1⟩
def Tb(e:C)(n c:Int):C:=⟨e.D0,e.I0,e.Q0,n,c==1⟩
def An(m:Img)(r:aA):Img:=
 bif r.T0==4 then⟨m.F0.set r.Q0.toNat r.V1,m.O0,m.K0,m.A0⟩
 else bif r.T0==5 then⟨m.F0,m.O0.set r.Q0.toNat (r.V1==1),m.K0,m.A0⟩
 else bif r.T0==6 then⟨m.F0,m.O0,m.K0.set r.Q0.toNat (r.V1==1),m.A0⟩
 else bif Dx r.D0 r.I0 m.A0 0==-1 then(bif r.T0==1 then m.put (Hc ⟨r.D0,r.I0,-1,0,A⟩ A m.A0)else m)
 else bif r.T0==2 then m.put (m.A0.take (Dx r.D0 r.I0 m.A0 0).toNat++m.A0.drop ((Dx r.D0 r.I0 m.A0 0).toNat+1))
 else bif r.T0==3 then m.put (m.A0.set (Dx r.D0 r.I0 m.A0 0).toNat (Ac3 (m.A0.getD (Dx r.D0 r.I0 m.A0 0).toNat noE) r.Q0))
 else bif r.T0==7 then m.put (m.A0.set (Dx r.D0 r.I0 m.A0 0).toNat (Tb (m.A0.getD (Dx r.D0 r.I0 m.A0 0).toNat noE) r.V1 r.Q0))
 else m
def WN(b:L)(m:Img)(r:aA):(Unit×Int×Unit)×((List Int×List Bool×List Bool×List C×Unit)×Unit):=
 bif m.ok b&&Az b r then(((),0,()),((An m r).tup,()))else(((),1,()),(Img.none.tup,()))
def Atb(h:Az b r=B)(hk:r.T0=4∨r.T0=5∨r.T0=6):0≤r.Q0∧r.Q0<(b.B0.length:Int):=by
  unfold Az SE at h;have k:∀q:Bool,(r.Q0≥0∧r.Q0≤(b.B0.length:Int)-1)→0≤r.Q0∧r.Q0<(b.B0.length:Int):=λ_ h=>by omega
  rcases hk with hk | hk | hk<;>rw[hk]at h<;>
    (simp only[e_]at h
     have h':=h.2;simp only[show((4:Int)==1)=A from rfl,show((4:Int)==2)=A from rfl,show((4:Int)==3)=A from rfl,show((5:Int)==1)=A from rfl,show((5:Int)==2)=A from rfl,show((5:Int)==3)=A from rfl,show((5:Int)==4)=A from rfl,show((6:Int)==1)=A from rfl,show((6:Int)==2)=A from rfl,show((6:Int)==3)=A from rfl,show((6:Int)==4)=A from rfl,show((6:Int)==5)=A from rfl,l_,H,J,e_]at h'
     have:=Am.1 h'.1.1
     exact k B ⟨this.1,this.2⟩)
section
variable{b:L}(hb:b.small)(m:Img)(hm:m.A0.length≤1000)(r:aA)
include hb hm
end
def Hi{a:C}:Bj a c=B↔a.D0<c.D0∨(a.D0=c.D0∧a.I0<c.I0):=by
 unfold Bj;simp only[b3_,e_,A_,Y_]
def Qu{a d:C}(h:Bj a c=B)(h':Bj c d=B):Bj a d=B:=by
 rw[Hi]at*;omega
def HB(e:C):Int×Int:=(e.D0,e.I0)
def ltC(a c:Int×Int):Prop:=a.1<c.1∨(a.1=c.1∧a.2<c.2)
def Bp(l:List C):Prop:=(l.map HB).Pairwise ltC
def Ee:Bp l↔l.Pairwise λx y=>Bj x y=B:=by
 unfold Bp;rw[List.pairwise_map];exact⟨λh=>h.imp λhh=>Hi.2 hh,λh=>h.imp λhh=>Hi.1 hh⟩
def Af2{b:L}:∀{l:List C}{p:Option C},Es b p l=B↔(∀e∈l,GK b e=B)∧Bp l∧(∀q,p=E q→∀e∈l,Bj q e=B)
 |[],p=>by simp[Es,Bp]
 |a::t,p=>by
  simp only[Es,e_];rw[Af2 (l:=t),Ee,Ee,f7_];constructor
  ·rintro⟨h1,h2,h3,h4,h5⟩
   refine⟨λe he=>?_,⟨λe he=>h5 a rfl e he,h4⟩,λq hq e he=>?_⟩
   ·rcases y_.1 he with rfl | he
    ·exact h1
    ·exact h3 e he
   ·subst hq
    simp only at h2;rcases y_.1 he with rfl | he
    ·exact h2
    ·exact Qu h2 (h5 a rfl e he)
  ·rintro⟨h1,⟨h2,h3⟩,h4⟩
   refine⟨h1 a (E_ ..),?_,λe he=>h1 e (K_ _ he),h3,λq hq e he=>?_⟩
   ·cases p with
    |none=>rfl
    |some q=>exact h4 q rfl a (E_ ..)
   ·obtain rfl:=M_ hq
    exact h2 e he
def Abo:Es b O l=B↔(∀e∈l,GK b e=B)∧Bp l:=by
 rw[Af2];exact⟨λh=>⟨h.1,h.2.1⟩,λh=>⟨h.1,h.2,λ_ hq=>by cases hq⟩⟩
def As0(h:Bp l)(k:Nat):Bp (l.take k++l.drop (k+1)):=by
 rw[Ee]at*;exact h.sublist (by rw[← List.eraseIdx_eq_take_drop_succ];exact List.eraseIdx_sublist ..)
def Ak8(hk:k<l.length)(he:HB e=HB (l.getD k noE)):(l.set k e).map HB=l.map HB:=by
 rw[List.map_set,he];apply List.ext_getElem?;intro i;rw[List.getElem?_set];by_cases h:k=i
 ·subst h
  rw[if_pos rfl];simp[hk,k_]
 ·rw[if_neg h]
def Ac7(h:Bp l)(hk:k<l.length)(he:HB e=HB (l.getD k noE)):Bp (l.set k e):=by
 unfold Bp at*;rw[Ak8 hk he];exact h
def ZZ{e x:C}:∀{l:List C},x∈Hc e A l→x=e∨x∈l
 |[],h=>by simp[Hc]at h;exact .inl h
 |a::t,h=>by
  simp only[Hc]at h;cases hq:Bj e a with
  |true=>
   rw[hq,J,TG]at h;rcases y_.1 h with h | h
   ·exact .inl h
   ·exact .inr h
  |false=>
   rw[hq,H]at h;rcases y_.1 h with h | h
   ·exact .inr (by rw[h];exact E_ ..)
   ·rcases ZZ h with h | h
    ·exact .inl h
    ·exact .inr (K_ _ h)
def Ac6{e:C}:∀{l:List C},Bp l→(∀x∈l,isC e.D0 e.I0 x=A)→Bp (Hc e A l)
 |[],_,_=>by simp[Hc,Bp]
 |a::t,h,hn=>by
  rw[Ee]at*;obtain⟨h1,h2⟩:=f7_.1 h;simp only[Hc];cases hq:Bj e a with
  |true=>
   rw[J,TG];refine f7_.2 ⟨λx hx=>?_,h⟩
   rcases y_.1 hx with rfl | hx
   ·exact hq
   ·exact Qu hq (h1 x hx)
  |false=>
   rw[H];refine f7_.2 ⟨λx hx=>?_,Ee.1 (Ac6 (Ee.2 h2) λx hx=>hn x (K_ _ hx))⟩
   rcases ZZ hx with rfl | hx
   ·rw[Hi]
    have h3:¬(x.D0<a.D0∨(x.D0=a.D0∧x.I0<a.I0)):=λhh=>by rw[Hi.2 hh]at hq;cases hq
    have h4:=hn a (E_ ..);unfold isC at h4;simp only[Bool.and_eq_false_iff,beq_eq_false_iff_ne]at h4;omega
   ·exact h1 x hx
structure ImgOK(b:Bldg)(m:Img):Prop where
 code:b.code=0
 lp:m.F0.length=b.B0.length
 lf:m.O0.length=b.B0.length
 ll:m.K0.length=b.B0.length
 ph:∀p∈m.F0,0≤p∧p≤4
 en:∀e∈m.A0,GK b e=true
 so:Bp m.A0
def Img.ok_iff{m:Img}:m.ok b=B↔ImgOK b m:=by
 unfold Img.ok;simp only[e_,Y_];constructor
 ·rintro⟨h0,h1,h2,h3,h4,h5⟩
  have h6:=Abo.1 h5;exact⟨h0,ω,ω,ω,λp hp=>Am.1 (G_.1 h4 p hp),h6.1,h6.2⟩
 ·rintro⟨h0,h1,h2,h3,h4,h5,h6⟩
  exact⟨h0,ω,ω,ω,G_.2 λp hp=>Am.2 (h4 p hp),Abo.2 ⟨h5,h6⟩⟩
def EO:GK b e=B↔Ak b e.D0 e.I0=B∧(-2≤e.Q0∧e.Q0<(b.B0.length:Int))∧0≤e.B1∧e.B1≤255:=by
 unfold GK;simp only[e_,A_];constructor
 ·rintro⟨h1,h2,h3,h4,h5⟩;exact⟨h1,⟨h2,h3⟩,h4,h5⟩
 ·rintro⟨h1,⟨h2,h3⟩,h4,h5⟩;exact⟨h1,h2,h3,h4,h5⟩
def Aeu{α:Type}{l:List α}{a x:α}(h:x∈l.set k a):x=a∨x∈l:=by
 rcases List.mem_or_eq_of_mem_set h with h | h
 ·exact .inr h
 ·exact .inl h
def Zg(h:Az b r=B):b.code=0∧
    ((r.T0=1∧Ak b r.D0 r.I0=B∧r.Q0=0∧r.V1=0)∨(r.T0=2∧Ak b r.D0 r.I0=B∧r.Q0=0∧r.V1=0)∨
     (r.T0=3∧Ak b r.D0 r.I0=B∧(-2≤r.Q0∧r.Q0<(b.B0.length:Int))∧r.V1=0)∨
     (r.T0=4∧(0≤r.Q0∧r.Q0<(b.B0.length:Int))∧(0≤r.V1∧r.V1≤4))∨
     (r.T0=5∧(0≤r.Q0∧r.Q0<(b.B0.length:Int))∧(0≤r.V1∧r.V1≤1))∨
     (r.T0=6∧(0≤r.Q0∧r.Q0<(b.B0.length:Int))∧(0≤r.V1∧r.V1≤1))∨
     (r.T0=7∧Ak b r.D0 r.I0=B∧(0≤r.Q0∧r.Q0≤1)∧(0≤r.V1∧r.V1≤255))):=by
  unfold Az SE at h;simp only[e_,Y_]at h;obtain⟨h0,h⟩:=h;refine⟨h0,?_⟩;by_cases k1:r.T0=1
  · rw[k1]at h;simp only[l_,J,e_,Y_]at h;exact .inl ⟨k1,h.1,h.2⟩
  rw[Aq k1,H]at h;by_cases k2:r.T0=2
  · rw[k2]at h;simp only[l_,J,e_,Y_]at h;exact .inr (.inl ⟨k2,h.1,h.2⟩)
  rw[Aq k2,H]at h;by_cases k3:r.T0=3
  · rw[k3]at h;simp only[l_,J,e_,Y_,Am]at h;exact .inr (.inr (.inl ⟨k3,h.1,ω,h.2.2⟩))
  rw[Aq k3,H]at h;by_cases k4:r.T0=4
  · rw[k4]at h;simp only[l_,J,e_,Y_,Am]at h;exact .inr (.inr (.inr (.inl ⟨k4,ω,h.2⟩)))
  rw[Aq k4,H]at h;by_cases k5:r.T0=5
  · rw[k5]at h;simp only[l_,J,e_,Y_,Am]at h;exact .inr (.inr (.inr (.inr (.inl ⟨k5,ω,h.2⟩))))
  rw[Aq k5,H]at h;by_cases k6:r.T0=6
  · rw[k6]at h;simp only[l_,J,e_,Y_,Am]at h;exact .inr (.inr (.inr (.inr (.inr (.inl ⟨k6,ω,h.2⟩)))))
  rw[Aq k6,H]at h;by_cases k7:r.T0=7
  · rw[k7]at h;simp only[l_,J,e_,Am]at h;exact .inr (.inr (.inr (.inr (.inr (.inr ⟨k7,h.1,h.2.1,h.2.2⟩)))))
  rw[Aq k7]at h;cases h
def Acr{m:Img}(h:ImgOK b m)(h1:∀e∈l,GK b e=B)(h2:Bp l):ImgOK b (m.put l):=⟨h.code,h.lp,h.lf,h.ll,h.ph,h1,h2⟩
def QF{m:Img}(h:ImgOK b m)(hv:Az b r=B):ImgOK b (An m r)∧(An m r).A0.length≤m.A0.length+1:=by
 obtain⟨_,hk⟩:=Zg hv;unfold An;by_cases k4:r.T0=4
 ·rw[show(r.T0==4)=B by rw[k4];rfl]
  refine⟨⟨h.code,by show(m.F0.set _ _).length=_;rw[r_];exact h.lp,h.lf,h.ll,λp hp=>?_,h.en,h.so⟩,aB _⟩
  rcases Aeu hp with rfl | hp
  ·omega
  ·exact h.ph p hp
 rw[Aq k4,H];by_cases k5:r.T0=5
 ·rw[show(r.T0==5)=B by rw[k5];rfl]
  exact⟨⟨h.code,h.lp,by show(m.O0.set _ _).length=_;rw[r_];exact h.lf,h.ll,h.ph,h.en,h.so⟩,aB _⟩
 rw[Aq k5,H];by_cases k6:r.T0=6
 ·rw[show(r.T0==6)=B by rw[k6];rfl]
  exact⟨⟨h.code,h.lp,h.lf,by show(m.K0.set _ _).length=_;rw[r_];exact h.ll,h.ph,h.en,h.so⟩,aB _⟩
 rw[Aq k6,H];rcases VH r.D0 r.I0 m.A0 0 with⟨h1,h2⟩ | ⟨k,h1,h2,h3⟩
 ·rw[h1,show((-1:Int)==-1)=B from rfl,J]
  by_cases k1:r.T0=1
  ·rw[show(r.T0==1)=B by rw[k1];rfl,J]
   refine⟨Acr h (λe he=>?_) (Ac6 h.so h2),ZN _ _ _⟩
   rcases ZZ he with rfl | he
   ·rw[EO]
    have hc:Ak b r.D0 r.I0=B:=by
     rcases hk with hk | hk | hk | hk | hk | hk | hk
     ·exact hk.2.1
     all_goals omega
    exact⟨hc,⟨by show(-2:Int)≤-1;omega,by show(-1:Int)<_;omega⟩,by show(0:Int)≤0;omega,by show(0:Int)≤255;omega⟩
   ·exact h.en e he
  ·rw[Aq k1,H];exact⟨h,aB _⟩
 ·rw[q_]at h2
  rw[h2,Aq (ω:¬(k:Int)=-1),H,j_]
  have hmem:=CA noE h1;have hent:=EO.1 (h.en _ hmem);cases r.T0==2 with
  |true=>
   refine⟨Acr h (λe he=>?_) (As0 h.so k),?_⟩
   ·rcases p_.1 he with he | he
    ·exact h.en e (e2_ he)
    ·exact h.en e (e3_ he)
   ·show(m.A0.take k++m.A0.drop (k+1)).length≤_
    rw[h_,v_,X_];omega
  |false=>
   rw[H];by_cases k3:r.T0=3
   ·rw[show(r.T0==3)=B by rw[k3];rfl,J]
    refine⟨Acr h (λe he=>?_) (Ac7 h.so h1 rfl),by show(m.A0.set _ _).length≤_;rw[r_];omega⟩
    rcases Aeu he with rfl | he
    ·rw[EO]
     refine⟨hent.1,?_,hent.2.2⟩;show -2≤r.Q0∧r.Q0<_;rcases hk with hk | hk | hk | hk | hk | hk | hk
     all_goals first
      |exact hk.2.2.1
      |omega
    ·exact h.en e he
   ·rw[Aq k3,H]
    by_cases k7:r.T0=7
    ·rw[show(r.T0==7)=B by rw[k7];rfl,J]
     refine⟨Acr h (λe he=>?_) (Ac7 h.so h1 rfl),by show(m.A0.set _ _).length≤_;rw[r_];omega⟩
     rcases Aeu he with rfl | he
     ·rw[EO]
      refine⟨hent.1,hent.2.1,?_⟩;show 0≤r.V1∧r.V1≤255;rcases hk with hk | hk | hk | hk | hk | hk | hk
      all_goals first
       |exact hk.2.2.2
       |omega
     ·exact h.en e he
    ·rw[Aq k7,H];exact⟨h,aB _⟩
def Gp(b:L):Img:=⟨List.replicate b.B0.length 0,List.replicate b.B0.length A,List.replicate b.B0.length A,[]⟩
def Ae8(hcode:b.code=0)(hc:b.B0.length≤100):Nf b.C0 b.E0 b.H0 b.M0 b.J0 b.L0 b.N0 b.B0=E (((),()),((Gp b).tup,())):=by
 unfold Nf;rw[Ho,hcode];simp only[a_,Q_,H,b_ (ω:(0:Int)≤(b.B0.length:Int)),b_ (d5_ (b.B0.length:Int)),b_ (ω:(b.B0.length:Int)≤2147483648),a6_,J,j_]
 rfl
def ZL(hcode:b.code=0):ImgOK b (Gp b):=
 ⟨hcode,S_,S_,S_,(λp hp=>by rw[List.eq_of_mem_replicate hp];omega),(λ_ h=>by cases h),by simp[Gp,Bp]⟩
def Ap(m:Img):List aA→Img
 |[]=>m
 |r::t=>Ap (An m r) t
def Tq{b:L}:∀{rs:List aA}{m:Img},ImgOK b m→(∀r∈rs,Az b r=B)→ImgOK b (Ap m rs)∧(Ap m rs).A0.length≤m.A0.length+rs.length
 |[],_,h,_=>⟨h,w_ _⟩
 |r::t,m,h,hv=>by
  obtain⟨h1,h2⟩:=QF h (hv r (E_ ..));obtain⟨h3,h4⟩:=Tq (rs:=t) h1 λx hx=>hv x (K_ _ hx)
  exact⟨h3,by show(Ap (An m r) t).A0.length≤_;rw[z_];omega⟩
def Aaj(n lo hi:Int):Fg n lo hi=E ((I lo hi n,()),()):=by
 unfold Fg I;cases decide (lo≤n)<;>rfl
def TQ(hb:b.small)(hc:b.B0.length≤100)(r:aA):Jn b.C0 b.E0 b.H0 b.M0 b.J0 b.L0 b.N0 b.B0 r.T0 r.D0 r.I0 r.Q0 r.V1=E ((Az b r,()),()):=by
  have w:N.wrap ((b.B0.length:Int)-1)=(b.B0.length:Int)-1:=Ac ω ω
  unfold Jn Az SE;rw[Be,LH hb];simp only[a_,bne,Aaj,w];cases b.code==0 with
  |false=>rfl
  |true=>
    simp only[n_,H,o_]
    cases I 0 ((b.B0.length:Int)-1) r.Q0<;>cases r.D0==0<;>cases r.I0==0<;>
      (simp only[a_,J,H,a6_,c7_,b7_,a2_,o_,w]
       by_cases k1:r.T0=1
       · simp only[k1,l_,J]
         cases Ak b r.D0 r.I0<;>cases r.Q0==0<;>rfl
       by_cases k2:r.T0=2
       · simp only[k2,l_,J,H,show((2:Int)==1)=A from rfl]
         cases Ak b r.D0 r.I0<;>cases r.Q0==0<;>rfl
       by_cases k3:r.T0=3
       · simp only[k3,l_,J,H,show((3:Int)==1)=A from rfl,show((3:Int)==2)=A from rfl]
         cases Ak b r.D0 r.I0<;>cases I (-2) ((b.B0.length:Int)-1) r.Q0<;>rfl
       by_cases k4:r.T0=4
       · simp only[k4,l_,J,H,show((4:Int)==1)=A from rfl,show((4:Int)==2)=A from rfl,show((4:Int)==3)=A from rfl,show((4:Int)==7)=A from rfl]
       by_cases k5:r.T0=5
       · simp only[k5,l_,J,H,show((5:Int)==1)=A from rfl,show((5:Int)==2)=A from rfl,show((5:Int)==3)=A from rfl,show((5:Int)==7)=A from rfl,show((5:Int)==4)=A from rfl]
       by_cases k6:r.T0=6
       · simp only[k6,l_,J,H,show((6:Int)==1)=A from rfl,show((6:Int)==2)=A from rfl,show((6:Int)==3)=A from rfl,show((6:Int)==7)=A from rfl,show((6:Int)==4)=A from rfl,show((6:Int)==5)=A from rfl]
       by_cases k7:r.T0=7
       · simp only[k7,l_,J,H,show((7:Int)==1)=A from rfl,show((7:Int)==2)=A from rfl,show((7:Int)==3)=A from rfl,show((7:Int)==4)=A from rfl,show((7:Int)==5)=A from rfl,show((7:Int)==6)=A from rfl]
         cases Ak b r.D0 r.I0<;>cases I 0 1 r.Q0<;>rfl
       simp only[Aq k1,Aq k2,Aq k3,Aq k4,Aq k5,Aq k6,Aq k7,H])
def Xv(m:Img)(h1:m.F0.length≤100000)(h2:m.O0.length≤100000)(h3:m.K0.length≤100000)(h4:m.A0.length≤100000):MN m.F0 m.O0 m.K0 m.A0=E (((),()),(m.tup,())):=by
 have k:∀{α:Type}(l:List α),l.length≤100000→OY l=E ((l,()),()):=λl h=>by
  unfold OY;rw[Ax (ω:l.length≤2147483648)];rfl
 unfold MN BG Bb Bk;rw[k _ h1,k _ h2,k _ h3,k _ h4];rfl
def AA(c:C):List C→Nat
 |[]=>0
 |e::t=>bif Bj e c then AA c t+1 else 0
def Sb(c:C):∀l:List C,AA c l≤l.length
 |[]=>w_ _
 |e::t=>by
  have:=Sb c t
  simp only[AA,z_];cases Bj e c<;>simp<;>omega
def Ae3(c:C):∀(l:List C) (k:Nat),k<AA c l→Bj (l.getD k noE) c=B
 |[],k,h=>by simp[AA]at h
 |e::t,k,h=>by
  simp only[AA]at h;cases he:Bj e c with
  |false=>rw[he]at h;simp at h
  |true=>
   rw[he]at h;cases k with
   |zero=>exact he
   |succ k=>exact Ae3 c t k (by simp at h;omega)
def Ae2{c:C}:∀{l:List C},Bp l→∀k,AA c l≤k→k<l.length→Bj (l.getD k noE) c=A
 |[],_,k,_,h=>by simp at h
 |e::t,hs,k,h1,h2=>by
  obtain⟨a1,a2⟩:=f7_.1 (Ee.1 hs);simp only[AA]at h1;cases he:Bj e c with
  |true=>
   rw[he,J]at h1;cases k with
   |zero=>omega
   |succ k=>exact Ae2 (Ee.2 a2) k ω (by simp at h2;omega)
  |false=>
   cases k with
   |zero=>exact he
   |succ k=>
    cases hq:Bj ((e::t).getD (k+1) noE) c with
    |false=>rfl
    |true=>
     have hm:t.getD k noE∈t:=CA noE (by simp at h2;omega)
     have:=Qu (a1 _ hm) hq
     rw[he]at this;cases this
def VW{a:C}(h:isC c.D0 c.I0 a=B):Bj a c=A∧Bj c a=A:=by
 unfold isC at h;simp only[e_,Y_]at h;constructor
 all_goals
  apply Bool.eq_false_iff.2;intro hh;rw[Hi]at hh;omega
def Ak3{a:C}(h:isC c.D0 c.I0 a=A)(h':Bj a c=A):Bj c a=B:=by
 rw[Hi];have h1:¬(a.D0<c.D0∨(a.D0=c.D0∧a.I0<c.I0)):=λhh=>by rw[Hi.2 hh]at h';cases h'
 unfold isC at h;simp only[Bool.and_eq_false_iff,beq_eq_false_iff_ne]at h;omega
def Agp{a:C}(h:Bj a c=B):Bj c a=A:=by
 apply Bool.eq_false_iff.2;intro hh;rw[Hi]at*;omega
def VG{F D:Int}:∀{l:List C}{i:Nat},(∀x∈l,isC F D x=A)→Dx F D l i=-1
 |[],_,_=>rfl
 |e::t,i,h=>by
  simp only[Dx];rw[h e (E_ ..),H];exact VG λx hx=>h x (K_ _ hx)
def FG(c:C)(l:List C):Bool:=Nat.blt (AA c l) l.length&&isC c.D0 c.I0 (l.getD (AA c l) noE)
def QO{c:C}:∀{l:List C}(i:Nat),Bp l→Dx c.D0 c.I0 l i=bif FG c l then((i+AA c l:Nat):Int)else -1
 |[],_,_=>rfl
 |e::t,i,hs=>by
  obtain⟨a1,a2⟩:=f7_.1 (Ee.1 hs);have hpos:AA c (e::t)=bif Bj e c then AA c t+1 else 0:=rfl;unfold FG;simp only[Dx];rw[hpos];cases he:isC c.D0 c.I0 e with
  |true=>
   rw[(VW he).1];simp[he,show Nat.blt 0 (t.length+1)=B from rfl]
  |false=>
   cases hl:Bj e c with
   |true=>
    rw[H,J,QO (i+1) (Ee.2 a2)];unfold FG;rw[show((e::t).getD (AA c t+1) noE)=t.getD (AA c t) noE from rfl,z_,show Nat.blt (AA c t+1) (t.length+1)=Nat.blt (AA c t) t.length from rfl]
    rw[show i+1+AA c t=i+(AA c t+1)by omega]
   |false=>
    rw[H,H,show((e::t).getD 0 noE)=e from rfl,he,b7_,H]
    refine VG λx hx=>?_
    cases hq:isC c.D0 c.I0 x with
    |false=>rfl
    |true=>
     have h1:=Qu (Ak3 he hl) (a1 x hx);rw[(VW hq).2]at h1;cases h1
def ZO{c:C}:∀{l:List C},(∀x∈l,isC c.D0 c.I0 x=A)→Hc c A l=l.take (AA c l)++[c]++l.drop (AA c l)
 |[],_=>rfl
 |e::t,h=>by
  simp only[Hc,AA];cases hl:Bj e c with
  |true=>
   rw[Agp hl,H,ZO λx hx=>h x (K_ _ hx)]
   simp
  |false=>
   rw[Ak3 (h e (E_ ..)) hl,J,TG];simp
def Agi(hs:Bp l)(h:FG c l=A):∀x∈l,isC c.D0 c.I0 x=A:=by
 have h1:=QO (c:=c) 0 hs;rw[h,H]at h1;rcases VH c.D0 c.I0 l 0 with⟨_,h2⟩ | ⟨k,_,h2,_⟩
 ·exact h2
 ·rw[h1]at h2;omega
end Go.Ovl
