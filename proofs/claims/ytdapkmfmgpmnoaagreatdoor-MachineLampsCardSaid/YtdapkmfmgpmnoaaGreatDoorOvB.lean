/- Which images belong to a building (layer 10): the program and the reference say the same. -/
import Derived.Test.YtdapkmfmgpmnoaaGreatDoorOvA
set_option linter.all false
open Bool renaming false->A,true->B
open Go.Ovl renaming Entry->C,inR->I,Bldg->L,Record->aA
open Option renaming some->E,none->O
open Go renaming c_->H,d_->J
open Go.IntKind renaming i64->N
open Nat renaming le_succ->aB
namespace Go.Ovl
open Go Go.Ab
set_option maxRecDepth 100000
variable{b:L}{l:List C}{e c:C}{r:aA}{k:Nat}
def XX(x y:Int):decide (x<y)=!decide (y≤x):=by by_cases h:y≤x<;>simp[h]<;>omega
def Bk9(x y:Int):decide (x≤y)=!decide (y<x):=by by_cases h:y<x<;>simp[h]<;>omega
def noE:C:=Entry.mk 0 0 0 0 A
structure Img where
 F0:List Int
 O0:List Bool
 K0:List Bool
 A0:List Entry
def Img.tup(m:Img):List Int×List Bool×List Bool×List C×Unit:=(m.F0,m.O0,m.K0,m.A0,())
def Img.none:Img:=⟨[],[],[],[]⟩
def NQ(fl floor dir:Int):Bool:=(dir==1&&I 0 (fl-2) floor)||(dir==2&&I 1 (fl-1) floor)
def XP{fl:Int}(h:0≤fl∧fl<100)(floor dir:Int):Jm fl floor dir=E ((NQ fl floor dir,()),()):=by
 have w1:N.wrap (fl-1)=fl-1:=Aa ω ω
 have w2:N.wrap (fl-2)=fl-2:=Aa ω ω
 have k:∀lo hi:Int,BP lo hi [floor]=E ((I lo hi floor,()),()):=λlo hi=>by
  rw[Cg lo hi (show [floor].length≤maxLen from(show 1≤maxLen by decide))];simp
 unfold Jm NQ;rw[w1,w2,k,k];cases dir==1<;>cases dir==2<;>cases I 0 (fl-2) floor<;>rfl
def Am(b:L)(floor dir:Int):Bool:=b.code==0&&NQ b.C0 floor dir
def Mf(hb:b.small)(floor dir:Int):FJ b.C0 b.E0 b.H0 b.M0 b.J0 b.L0 b.N0 b.B0 floor dir=E ((Am b floor dir,()),()):=by
 unfold FJ Am;rw[Bi,XP ⟨by have:=hb.lo;omega,by have:=hb.hi;omega⟩]
 simp only[a_];cases b.code==0<;>rfl
def Li(hb:b.small)(floor dir:Int):HU b.C0 b.E0 b.H0 b.M0 b.J0 b.L0 b.N0 b.B0 floor dir=E ((Am b floor dir,()),()):=by
 have lo:=hb.lo;have hi:=hb.hi;have w1:N.wrap (b.C0-1)=b.C0-1:=Aa ω ω
 have w2:N.wrap (b.C0-2)=b.C0-2:=Aa ω ω
 unfold HU Am NQ;rw[EW,w1,w2,Ll,Ll];simp only[a_,bne];cases b.code==0<;>cases dir==1<;>cases dir==2<;>cases I 0 (b.C0-2) floor<;>rfl
def Ha(b:L)(e:C):Bool:=Am b e.D0 e.I0&&(decide (-2≤e.S0)&&(decide (e.S0<(b.B0.length:Int))&&(decide (0≤e.B1)&&decide (e.B1≤255))))
def Agd(hb:b.small)(e:C):Ny b.C0 b.E0 b.H0 b.M0 b.J0 b.L0 b.N0 b.B0 e.D0 e.I0 e.S0 e.B1 e.B2=E ((Ha b e,()),()):=by
 unfold Ny Ha;rw[Mf hb];simp only[a_];cases Am b e.D0 e.I0<;>cases decide (-2≤e.S0)<;>cases decide (e.S0<(b.B0.length:Int))<;>cases decide (0≤e.B1)<;>rfl
def Bo(a b:C):Bool:=decide (a.D0<b.D0)||(a.D0==b.D0&&decide (a.I0<b.I0))
def Apm(a b:C):OV a.D0 a.I0 a.S0 a.B1 a.B2 b.D0 b.I0 b.S0 b.B1 b.B2=E ((Bo a b,()),()):=by
 unfold OV Bo;cases decide (a.D0<b.D0)<;>cases a.D0==b.D0<;>rfl
def Wi(x y:Int):Int:=bif decide (x<y)then -1 else bif decide (y<x)then 1 else 0
def HN(x y:Int):Es x y=E ((Wi x y,()),()):=by
 unfold Es Lz Wi;simp only[a_,T_,H];cases decide (x<y)<;>cases decide (y<x)<;>rfl
def XT(x y:Int):LV [x,y]=E (((bif x !=0 then x else y),()),()):=by
 have r:∀(l:List Int) (i:Nat),i<l.length→l.length<100→JQ 0 l (l.length:Int) (i:Int)=E (bif l.getD i 0 !=0 then Sum.inr (Sum.inr ((l.getD i 0,()),()))else Sum.inl (((0:Int),l,(l.length:Int),((i+1:Nat):Int),()),())):=λl i hi hl=>by
  have w:N.wrap ((i:Int)+1)=((i+1:Nat):Int):=by rw[Aa ω ω];omega
  unfold JQ;rw[b_ (ω:(i:Int)<(l.length:Int)),Ac (ω:(0:Int)≤(i:Int)) (ω:(i:Int)<(l.length:Int)),i_,w]
  simp only[J];cases l.getD i 0 !=0<;>rfl
 have r0:JQ 0 [x,y] 2 0=E (bif x !=0 then Sum.inr (Sum.inr ((x,()),()))else Sum.inl (((0:Int),[x,y],(2:Int),(1:Int),()),())):=r [x,y] 0 (by simp) (by simp)
 have r1:JQ 0 [x,y] 2 1=E (bif y !=0 then Sum.inr (Sum.inr ((y,()),()))else Sum.inl (((0:Int),[x,y],(2:Int),(2:Int),()),())):=r [x,y] 1 (by simp) (by simp)
 have h:ML (((0:Int),[x,y],(2:Int),(0:Int),()),())=E (bif x !=0 then .inr ((x,()),())else bif y !=0 then .inr ((y,()),())else .inl (((0:Int),()),())):=by
  refine Ai (f:=3) ?_ ω
  cases hx:x !=0 with
  |true=>rw[hx]at r0;exact Az r0
  |false=>
   rw[hx]at r0;refine(Bu r0).trans ?_;cases hy:y !=0 with
   |true=>rw[hy]at r1;exact Az r1
   |false=>rw[hy]at r1;exact(Bu r1).trans (Az rfl)
 unfold LV;rw[show((([x,y]:List Int).length:Nat):Int)=2 from rfl,h]
 cases hx:x !=0 with
 |true=>rfl
 |false=>
  cases hy:y !=0 with
  |true=>rfl
  |false=>
   have:y=0:=by simpa using hy
   subst this;rfl
def Qq(a b:C):∃n:Int,It a.D0 a.I0 a.S0 a.B1 a.B2 b.D0 b.I0 b.S0 b.B1 b.B2=E ((n,()),())∧decide (0≤n)=!Bo a b∧(n=0↔a.D0=b.D0∧a.I0=b.I0):=by
 unfold It;rw[HN,HN];simp only[a_];rw[XT];refine⟨_,rfl,?_,?_⟩
 ·unfold Bo Wi
  by_cases h1:a.D0<b.D0
  ·rw[b_ h1];rfl
  ·rw[f_ h1]
   by_cases h2:b.D0<a.D0
   ·rw[b_ h2,An (ω:¬a.D0=b.D0)];rfl
   ·rw[f_ h2,show(a.D0==b.D0)=B by simp;omega]
    by_cases h3:a.I0<b.I0
    ·rw[b_ h3];rfl
    ·rw[f_ h3]
     cases decide (b.I0<a.I0)<;>rfl
 ·unfold Wi
  by_cases h1:a.D0<b.D0
  ·rw[b_ h1]
   exact⟨(λh=>by cases h),(λh=>by omega)⟩
  ·rw[f_ h1]
   by_cases h2:b.D0<a.D0
   ·rw[b_ h2]
    exact⟨(λh=>by cases h),(λh=>by omega)⟩
   ·rw[f_ h2]
    by_cases h3:a.I0<b.I0
    ·rw[b_ h3];exact⟨(λh=>by cases h),(λh=>by omega)⟩
    ·rw[f_ h3]
     by_cases h4:b.I0<a.I0
     ·rw[b_ h4];exact⟨(λh=>by cases h),(λh=>by omega)⟩
     ·rw[f_ h4];exact⟨λ_=>⟨ω,ω⟩,λ_=>rfl⟩
def EE(b:L):Option C→List C→Bool
 |_,[]=>B
 |p,e::t=>Ha b e&&((match p with | some q=>Bo q e | none=>B)&&EE b (E e) t)
def Img.ok(b:L)(m:Img):Bool:=
 b.code==0&&((m.F0.length:Int)==(b.B0.length:Int)&&((m.O0.length:Int)==(b.B0.length:Int)&&((m.K0.length:Int)==(b.B0.length:Int)&&(m.F0.all (I 0 4)&&EE b Option.none m.A0))))
def JA(l:List C)(i:Nat):Option C:=if i=0 then O else E (l.getD (i-1) noE)
def Add{i:Nat}(h:i<l.length):EE b (JA l i) (l.drop i)=(Ha b (l.getD i noE)&&((match JA l i with | some q=>Bo q (l.getD i noE) | none=>B)&&EE b (JA l (i+1)) (l.drop (i+1)))):=by
 rw[BU noE h];simp only[EE,JA,Nat.succ_ne_zero,f2_,Nat.add_sub_cancel]
section
variable{b:L}(hb:b.small)(m:Img)
include hb
theorem Ajj(hm:m.A0.length≤maxLen):LM (((),(),m.A0,(m.A0.length:Int),(0:Int),()),(b.tup,m.tup,()))=E (if EE b O m.A0 then .inl ((),())else .inr ((A,()),())):=by
 have hmx:maxLen≤9223372036854775807:=by decide
 have key:∀(k i:Nat),i+k=m.A0.length→BQ (λx=>letI a:=x.2.1.2.2;letI c:=a.2.2;letI d:=x.2.2.1;Fy x.1.2.2.1 x.1.2.2.2.1 x.1.2.2.2.2.1 x.2.1.1 x.2.1.2.1 a.1 a.2.1 c.1 c.2.1 c.2.2.1 c.2.2.2.1 d.1 d.2.1 d.2.2.1 d.2.2.2.1) (k+1) (((),(),m.A0,(m.A0.length:Int),(i:Int),()),(b.tup,m.tup,()))=E (if EE b (JA m.A0 i) (m.A0.drop i)then .inl ((),())else .inr ((A,()),())):=by
  intro k
  induction k with
  |zero=>
   intro i hi;refine Az ?_;show Fy m.A0 (m.A0.length:Int) (i:Int) b.C0 b.E0 b.H0 b.M0 b.J0 b.L0 b.N0 b.B0 m.F0 m.O0 m.K0 m.A0=_;unfold Fy;have e:decide ((i:Int)<(m.A0.length:Int))=A:=by simp;omega
   rw[e,show i=m.A0.length by omega,a5_];rfl
  |succ k ih=>
   intro i hi;have hi':i<m.A0.length:=ω
   have e:decide ((i:Int)<(m.A0.length:Int))=B:=by simp;omega
   have ib:inB (i:Int) m.A0.length=B:=Ac ω ω
   have w:N.wrap ((i:Int)+1)=((i+1:Nat):Int):=by rw[Aa ω ω];omega
   have go:∀p:Bool,(Fy m.A0 (m.A0.length:Int) (i:Int) b.C0 b.E0 b.H0 b.M0 b.J0 b.L0 b.N0 b.B0 m.F0 m.O0 m.K0 m.A0=E (bif p then .inr (.inr ((A,()),()))else .inl (((),(),m.A0,(m.A0.length:Int),((i+1:Nat):Int),()),(b.tup,m.tup,()))))→(EE b (JA m.A0 i) (m.A0.drop i)=(!p&&EE b (JA m.A0 (i+1)) (m.A0.drop (i+1))))→BQ (λx=>letI a:=x.2.1.2.2;letI c:=a.2.2;letI d:=x.2.2.1;Fy x.1.2.2.1 x.1.2.2.2.1 x.1.2.2.2.2.1 x.2.1.1 x.2.1.2.1 a.1 a.2.1 c.1 c.2.1 c.2.2.1 c.2.2.2.1 d.1 d.2.1 d.2.2.1 d.2.2.2.1) (k+1+1) (((),(),m.A0,(m.A0.length:Int),(i:Int),()),(b.tup,m.tup,()))=E (if EE b (JA m.A0 i) (m.A0.drop i)then .inl ((),())else .inr ((A,()),())):=λp h1 h2=>by
    rw[h2];cases p with
    |true=>exact Az h1
    |false=>rw[c0_,n_];exact(Bu h1).trans (ih (i+1) ω)
   have hstep:=Add (b:=b) hi';have he:=Agd hb (m.A0.getD i noE);unfold noE at he;refine go (!(Ha b (m.A0.getD i noE)&&(match JA m.A0 i with | some q=>Bo q (m.A0.getD i noE) | none=>B))) ?_ (by rw[hstep,Bool.not_not,Bool.and_assoc])
   unfold Fy;rw[e,ib];simp only[J,i_,he,a_];cases hk:Ha b (m.A0.getD i noE)with
   |false=>
    unfold noE at hk;rw[hk];rfl
   |true=>
    unfold noE at hk;rw[hk];simp only[o_,H,n_];by_cases g:(0:Int)<(i:Int)
    ·have w1:N.wrap ((i:Int)-1)=((i-1:Nat):Int):=by rw[Aa ω ω];omega
     have ib1:inB ((i-1:Nat):Int) m.A0.length=B:=Ac ω ω
     rw[b_ g,w1,ib1];obtain⟨n,c1,c2,_⟩:=Qq (m.A0.getD (i-1) noE) (m.A0.getD i noE);unfold noE at c1;simp only[J,i_,c1,a_,w,c2];rw[show JA m.A0 i=E (m.A0.getD (i-1) noE)from if_neg ω]
     simp only;cases Bo (m.A0.getD (i-1) noE) (m.A0.getD i noE)<;>rfl
    ·have:i=0:=ω
     subst this;rw[f_ g];simp only[H,a_,w];rfl
 have h:=Ai (key m.A0.length 0 ω) ω
 exact h
theorem Ajx(n:Int)(hn:n=(b.B0.length:Int))(hm:m.A0.length≤maxLen):LO (((),(),n,(0:Int),()),(b.tup,m.tup,()))=E (if EE b O m.A0 then .inl ((),())else .inr ((A,()),())):=by
 have hmx:maxLen≤9223372036854775807:=by decide
 have key:∀(k i:Nat),i+k=m.A0.length→BQ (λx=>letI a:=x.2.1.2.2;letI c:=a.2.2;letI d:=x.2.2.1;FC x.1.2.2.1 x.1.2.2.2.1 x.2.1.1 x.2.1.2.1 a.1 a.2.1 c.1 c.2.1 c.2.2.1 c.2.2.2.1 d.1 d.2.1 d.2.2.1 d.2.2.2.1) (k+1) (((),(),n,(i:Int),()),(b.tup,m.tup,()))=E (if EE b (JA m.A0 i) (m.A0.drop i)then .inl ((),())else .inr ((A,()),())):=by
  intro k
  induction k with
  |zero=>
   intro i hi;refine Az ?_;show FC n (i:Int) b.C0 b.E0 b.H0 b.M0 b.J0 b.L0 b.N0 b.B0 m.F0 m.O0 m.K0 m.A0=_;unfold FC;have e:decide ((i:Int)<(m.A0.length:Int))=A:=by simp;omega
   rw[e,show i=m.A0.length by omega,a5_];rfl
  |succ k ih=>
   intro i hi;have hi':i<m.A0.length:=ω
   have e:decide ((i:Int)<(m.A0.length:Int))=B:=by simp;omega
   have ib:inB (i:Int) m.A0.length=B:=Ac ω ω
   have w:N.wrap ((i:Int)+1)=((i+1:Nat):Int):=by rw[Aa ω ω];omega
   have go:∀p:Bool,(FC n (i:Int) b.C0 b.E0 b.H0 b.M0 b.J0 b.L0 b.N0 b.B0 m.F0 m.O0 m.K0 m.A0=E (bif p then .inr (.inr ((A,()),()))else .inl (((),(),n,((i+1:Nat):Int),()),(b.tup,m.tup,()))))→(EE b (JA m.A0 i) (m.A0.drop i)=(!p&&EE b (JA m.A0 (i+1)) (m.A0.drop (i+1))))→BQ (λx=>letI a:=x.2.1.2.2;letI c:=a.2.2;letI d:=x.2.2.1;FC x.1.2.2.1 x.1.2.2.2.1 x.2.1.1 x.2.1.2.1 a.1 a.2.1 c.1 c.2.1 c.2.2.1 c.2.2.2.1 d.1 d.2.1 d.2.2.1 d.2.2.2.1) (k+1+1) (((),(),n,(i:Int),()),(b.tup,m.tup,()))=E (if EE b (JA m.A0 i) (m.A0.drop i)then .inl ((),())else .inr ((A,()),())):=λp h1 h2=>by
    rw[h2];cases p with
    |true=>exact Az h1
    |false=>rw[c0_,n_];exact(Bu h1).trans (ih (i+1) ω)
   have hstep:=Add (b:=b) hi';have hc:=Li hb (m.A0.getD i noE).D0 (m.A0.getD i noE).I0;refine go (!(Ha b (m.A0.getD i noE)&&(match JA m.A0 i with | some q=>Bo q (m.A0.getD i noE) | none=>B))) ?_ (by rw[hstep,Bool.not_not,Bool.and_assoc])
   unfold FC;rw[e,ib,show(Entry.mk 0 0 0 0 A)=noE from rfl]
   simp only[J,i_,hc,a_];unfold Ha;have q1:decide ((m.A0.getD i noE).S0< -2)=!decide (-2≤(m.A0.getD i noE).S0):=XX _ _;have q2:decide (n≤(m.A0.getD i noE).S0)=!decide ((m.A0.getD i noE).S0<(b.B0.length:Int)):=by rw[hn];exact Bk9 _ _
   have q3:decide ((m.A0.getD i noE).B1<0)=!decide (0≤(m.A0.getD i noE).B1):=XX _ _;have q4:decide (255<(m.A0.getD i noE).B1)=!decide ((m.A0.getD i noE).B1≤255):=XX _ _;rw[q1,q2,q3,q4];cases Am b (m.A0.getD i noE).D0 (m.A0.getD i noE).I0 with
   |false=>rfl
   |true=>
    cases decide (-2≤(m.A0.getD i noE).S0)with
    |false=>rfl
    |true=>
     cases decide ((m.A0.getD i noE).S0<(b.B0.length:Int))with
     |false=>rfl
     |true=>
      cases decide (0≤(m.A0.getD i noE).B1)with
      |false=>rfl
      |true=>
       cases decide ((m.A0.getD i noE).B1≤255)with
       |false=>rfl
       |true=>
        simp only[o_,H,a3_,n_];by_cases g:(0:Int)<(i:Int)
        ·have w1:N.wrap ((i:Int)-1)=((i-1:Nat):Int):=by rw[Aa ω ω];omega
         have ib1:inB ((i-1:Nat):Int) m.A0.length=B:=Ac ω ω
         have hl:=Apm (m.A0.getD (i-1) noE) (m.A0.getD i noE);rw[b_ g,w1,ib1];simp only[J,i_,hl,a_,w];rw[show JA m.A0 i=E (m.A0.getD (i-1) noE)from if_neg ω]
         simp only;cases Bo (m.A0.getD (i-1) noE) (m.A0.getD i noE)<;>rfl
        ·have:i=0:=ω
         subst this;rw[f_ g];simp only[H,a_,w];rfl
 have h:=Ai (key m.A0.length 0 ω) ω
 exact h
omit hb in
theorem Aji(hm:m.F0.length≤maxLen):LL (((),(),m.F0,(m.F0.length:Int),(0:Int),()),(b.tup,m.tup,()))=E (if m.F0.all (I 0 4)then .inl (((),(),()),(b.tup,m.tup,()))else .inr ((A,()),())):=by
 have hmx:maxLen≤9223372036854775807:=by decide
 have key:∀(k i:Nat),i+k=m.F0.length→BQ (λx=>letI a:=x.2.1.2.2;letI c:=a.2.2;letI d:=x.2.2.1;GX x.1.2.2.1 x.1.2.2.2.1 x.1.2.2.2.2.1 x.2.1.1 x.2.1.2.1 a.1 a.2.1 c.1 c.2.1 c.2.2.1 c.2.2.2.1 d.1 d.2.1 d.2.2.1 d.2.2.2.1) (k+1) (((),(),m.F0,(m.F0.length:Int),(i:Int),()),(b.tup,m.tup,()))=E (if(m.F0.drop i).all (I 0 4)then .inl (((),(),()),(b.tup,m.tup,()))else .inr ((A,()),())):=by
  intro k
  induction k with
  |zero=>
   intro i hi;refine Az ?_;show GX m.F0 (m.F0.length:Int) (i:Int) b.C0 b.E0 b.H0 b.M0 b.J0 b.L0 b.N0 b.B0 m.F0 m.O0 m.K0 m.A0=_;unfold GX;have e:decide ((i:Int)<(m.F0.length:Int))=A:=by simp;omega
   rw[e,show i=m.F0.length by omega,a5_];rfl
  |succ k ih=>
   intro i hi;have hi':i<m.F0.length:=ω
   have e:decide ((i:Int)<(m.F0.length:Int))=B:=by simp;omega
   have ib:inB (i:Int) m.F0.length=B:=Ac ω ω
   have w:N.wrap ((i:Int)+1)=((i+1:Nat):Int):=by rw[Aa ω ω];omega
   rw[BU (0:Int) hi',X_]
   have hs:GX m.F0 (m.F0.length:Int) (i:Int) b.C0 b.E0 b.H0 b.M0 b.J0 b.L0 b.N0 b.B0 m.F0 m.O0 m.K0 m.A0=E (bif I 0 4 (m.F0.getD i 0)then .inl (((),(),m.F0,(m.F0.length:Int),((i+1:Nat):Int),()),(b.tup,m.tup,()))else .inr (.inr ((A,()),()))):=by
    unfold GX;rw[e,ib,w];simp only[J,i_];unfold I;by_cases g1:m.F0.getD i 0<0
    ·rw[b_ g1,f_ (ω:¬0≤m.F0.getD i 0)];rfl
    ·rw[f_ g1,b_ (ω:0≤m.F0.getD i 0)]
     by_cases g2:4<m.F0.getD i 0
     ·rw[b_ g2,f_ (ω:¬m.F0.getD i 0≤4)];rfl
     ·rw[f_ g2,b_ (ω:m.F0.getD i 0≤4)];rfl
   cases hq:I 0 4 (m.F0.getD i 0)with
   |true=>rw[hq]at hs;exact(Bu hs).trans (ih (i+1) ω)
   |false=>rw[hq]at hs;exact Az hs
 have h:=Ai (key m.F0.length 0 ω) ω
 exact h
omit hb in
theorem Ajw(n:Int)(hn:n=(m.F0.length:Int))(hm:m.F0.length≤maxLen):LN (((),(),n,(0:Int),()),(b.tup,m.tup,()))=E (if m.F0.all (I 0 4)then .inl (((),(),n,()),(b.tup,m.tup,()))else .inr ((A,()),())):=by
 have hmx:maxLen≤9223372036854775807:=by decide
 subst hn
 have key:∀(k i:Nat),i+k=m.F0.length→BQ (λx=>letI a:=x.2.1.2.2;letI c:=a.2.2;letI d:=x.2.2.1;GY x.1.2.2.1 x.1.2.2.2.1 x.2.1.1 x.2.1.2.1 a.1 a.2.1 c.1 c.2.1 c.2.2.1 c.2.2.2.1 d.1 d.2.1 d.2.2.1 d.2.2.2.1) (k+1) (((),(),(m.F0.length:Int),(i:Int),()),(b.tup,m.tup,()))=E (if(m.F0.drop i).all (I 0 4)then .inl (((),(),(m.F0.length:Int),()),(b.tup,m.tup,()))else .inr ((A,()),())):=by
  intro k
  induction k with
  |zero=>
   intro i hi;refine Az ?_;show GY (m.F0.length:Int) (i:Int) b.C0 b.E0 b.H0 b.M0 b.J0 b.L0 b.N0 b.B0 m.F0 m.O0 m.K0 m.A0=_;unfold GY;have e:decide ((i:Int)<(m.F0.length:Int))=A:=by simp;omega
   rw[e,show i=m.F0.length by omega,a5_];rfl
  |succ k ih=>
   intro i hi;have hi':i<m.F0.length:=ω
   have e:decide ((i:Int)<(m.F0.length:Int))=B:=by simp;omega
   have ib:inB (i:Int) m.F0.length=B:=Ac ω ω
   have w:N.wrap ((i:Int)+1)=((i+1:Nat):Int):=by rw[Aa ω ω];omega
   rw[BU (0:Int) hi',X_]
   have hs:GY (m.F0.length:Int) (i:Int) b.C0 b.E0 b.H0 b.M0 b.J0 b.L0 b.N0 b.B0 m.F0 m.O0 m.K0 m.A0=E (bif I 0 4 (m.F0.getD i 0)then .inl (((),(),(m.F0.length:Int),((i+1:Nat):Int),()),(b.tup,m.tup,()))else .inr (.inr ((A,()),()))):=by
    unfold GY;rw[e,ib,w];simp only[J,i_];unfold I;by_cases g1:m.F0.getD i 0<0
    ·rw[b_ g1,f_ (ω:¬0≤m.F0.getD i 0)];rfl
    ·rw[f_ g1,b_ (ω:0≤m.F0.getD i 0)]
     by_cases g2:4<m.F0.getD i 0
     ·rw[b_ g2,f_ (ω:¬m.F0.getD i 0≤4)];rfl
     ·rw[f_ g2,b_ (ω:m.F0.getD i 0≤4)];rfl
   cases hq:I 0 4 (m.F0.getD i 0)with
   |true=>rw[hq]at hs;exact(Bu hs).trans (ih (i+1) ω)
   |false=>rw[hq]at hs;exact Az hs
 have h:=Ai (key m.F0.length 0 ω) ω
 exact h
theorem CS(hp:m.F0.length≤maxLen)(he:m.A0.length≤maxLen):Cn b.C0 b.E0 b.H0 b.M0 b.J0 b.L0 b.N0 b.B0 m.F0 m.O0 m.K0 m.A0=E ((m.ok b,()),()):=by
 unfold Cn Img.ok;rw[Bi];simp only[a_,bne];cases b.code==0 with
 |false=>rfl
 |true=>
  cases(m.F0.length:Int)==(b.B0.length:Int)with
  |false=>rfl
  |true=>
   cases(m.O0.length:Int)==(b.B0.length:Int)with
   |false=>rfl
   |true=>
    cases(m.K0.length:Int)==(b.B0.length:Int)with
    |false=>rfl
    |true=>
     have h0:=Aji (b:=b) m hp;have h1:=Ajj hb m he;unfold Bldg.tup Img.tup at h0 h1;simp only[o_,H,h0,a_,n_];cases m.F0.all (I 0 4)with
     |false=>rfl
     |true=>
      simp only[g8_,h1,a_,n_];cases EE b O m.A0<;>rfl
theorem Qs(hp:m.F0.length≤maxLen)(he:m.A0.length≤maxLen):Hm b.C0 b.E0 b.H0 b.M0 b.J0 b.L0 b.N0 b.B0 m.F0 m.O0 m.K0 m.A0=E ((m.ok b,()),()):=by
 unfold Hm Img.ok;rw[EW];simp only[a_,bne];cases b.code==0 with
 |false=>rfl
 |true=>
  cases hq:(m.F0.length:Int)==(b.B0.length:Int)with
  |false=>rfl
  |true=>
   cases(m.O0.length:Int)==(b.B0.length:Int)with
   |false=>rfl
   |true=>
    cases(m.K0.length:Int)==(b.B0.length:Int)with
    |false=>rfl
    |true=>
     have hq':(m.F0.length:Int)=(b.B0.length:Int):=by simpa using hq
     have h0:=Ajw (b:=b) m (b.B0.length:Int) hq'.symm hp;have h1:=Ajx hb m (b.B0.length:Int) rfl he;unfold Bldg.tup Img.tup at h0 h1;simp only[o_,H,h0,a_,n_];cases m.F0.all (I 0 4)with
     |false=>rfl
     |true=>
      simp only[g8_,h1,a_,n_];cases EE b O m.A0<;>rfl
end
def Ail(n lo hi:Int):Ob n lo hi=E ((I lo hi n,()),()):=by
 unfold Ob I;cases decide (lo≤n)<;>rfl
def Tw(b:L)(r:aA):Bool:=I 0 ((b.B0.length:Int)-1) r.S0&&(r.D0==0&&r.I0==0)
def Au(b:L)(r:aA):Bool:=
 b.code==0&&(bif r.R0==1 then Am b r.D0 r.I0&&(r.S0==0&&r.G2==0)
 else bif r.R0==2 then Am b r.D0 r.I0&&(r.S0==0&&r.G2==0)
 else bif r.R0==3 then Am b r.D0 r.I0&&(I (-2) ((b.B0.length:Int)-1) r.S0&&r.G2==0)
 else bif r.R0==4 then Tw b r&&I 0 4 r.G2
 else bif r.R0==5 then Tw b r&&I 0 1 r.G2
 else bif r.R0==6 then Tw b r&&I 0 1 r.G2
 else bif r.R0==7 then Am b r.D0 r.I0&&(I 0 1 r.S0&&I 0 255 r.G2)
 else A)
def Ank(hb:b.small)(hc:b.B0.length≤100)(r:aA):Lo b.C0 b.E0 b.H0 b.M0 b.J0 b.L0 b.N0 b.B0 r.R0 r.D0 r.I0 r.S0 r.G2=E ((Au b r,()),()):=by
  have w:N.wrap ((b.B0.length:Int)-1)=(b.B0.length:Int)-1:=Aa ω ω
  unfold Lo Au Tw;rw[EW,Li hb,Ail,w];simp only[a_,bne,Ail];cases b.code==0 with
  |false=>rfl
  |true=>
    simp only[o_,H,n_]
    have k:∀(q:Bool) {x y z:Option ((Bool×Unit)×Unit)}{u v:Bool},(q=B→x=E ((u,()),()))→(q=A→y=E ((v,()),()))→(bif q then x else y)=E (((bif q then u else v),()),()):=λq _ _ _ _ _ h1 h2=>by
      cases q
      · exact h2 rfl
      · exact h1 rfl
    cases I 0 ((b.B0.length:Int)-1) r.S0<;>cases r.D0==0<;>cases r.I0==0<;>
      (simp only[J,H,a_,a3_,c6_,c2_,a4_,n_]
       refine k _ (z:=O) (λ_=>?_) λ_=>k _ (z:=O) (λ_=>?_) λ_=>k _ (z:=O) (λ_=>?_) λ_=>k _ (z:=O) (λ_=>?_) λ_=>k _ (z:=O) (λ_=>?_) λ_=>k _ (z:=O) (λ_=>?_) λ_=>k _ (z:=O) (λ_=>?_) λ_=>?_
       all_goals first
         |rfl
         |(cases Am b r.D0 r.I0<;>cases r.S0==0<;>rfl)
         |(cases Am b r.D0 r.I0<;>cases I 0 1 r.S0<;>rfl)
         |(rw[w];cases Am b r.D0 r.I0<;>cases I (-2) ((b.B0.length:Int)-1) r.S0<;>rfl))
def isC(F D:Int)(e:C):Bool:=e.D0==F&&e.I0==D
def DP(F D:Int):List C→Nat→Int
 |[],_=>-1
 |e::t,i=>bif isC F D e then(i:Int)else DP F D t (i+1)
def SE(F D:Int):∀(l:List C) (i:Nat),(DP F D l i=-1∧∀e∈l,isC F D e=A)∨∃k:Nat,k<l.length∧DP F D l i=((i+k:Nat):Int)∧isC F D (l.getD k noE)=B
 |[],_=>.inl ⟨rfl,λ_ h=>by cases h⟩
 |e::t,i=>by
  simp only[DP];cases h:isC F D e with
  |true=>exact .inr ⟨0,by simp,rfl,h⟩
  |false=>
   rcases SE F D t (i+1)with⟨h1,h2⟩ | ⟨k,h1,h2,h3⟩
   ·refine .inl ⟨h1,λx hx=>?_⟩
    rcases r_.1 hx with rfl | hx
    ·exact h
    ·exact h2 x hx
   ·refine .inr ⟨k+1,by simp;omega,?_,h3⟩
    rw[H,h2];congr 1;omega
def Hr(e:C):Bool→List C→List C
 |d,[]=>bif d then []else [e]
 |true,x::t=>x::Hr e B t
 |false,x::t=>bif Bo e x then e::x::Hr e B t else x::Hr e A t
def Abe(e:C):∀(l:List C) (d:Bool),(Hr e d l).length≤l.length+1
 |[],B=>by simp[Hr]
 |[],A=>by simp[Hr]
 |x::t,B=>by simp only[Hr,C_];have:=Abe e t B;omega
 |x::t,A=>by
  simp only[Hr];cases Bo e x with
  |true=>
   simp only[J,C_]
   have:∀t:List C,Hr e B t=t:=λt=>by
    induction t with
    |nil=>rfl
    |cons a t ih=>simp only[Hr,ih]
   rw[this];omega
  |false=>simp only[H,C_];have:=Abe e t A;omega
def UA(e:C):∀t:List C,Hr e B t=t
 |[]=>rfl
 |a::t=>by simp only[Hr,UA e t]
def Img.put(m:Img)(l:List C):Img:=⟨m.F0,m.O0,m.K0,l⟩
def Aep(e:C)(c:Int):C:=⟨e.D0,e.I0,c,e.B1,e.B2⟩
def TU(e:C)(n c:Int):C:=⟨e.D0,e.I0,e.S0,n,c==1⟩
def AC(m:Img)(r:aA):Img:=
 bif r.R0==4 then⟨m.F0.set r.S0.toNat r.G2,m.O0,m.K0,m.A0⟩
 else bif r.R0==5 then⟨m.F0,m.O0.set r.S0.toNat (r.G2==1),m.K0,m.A0⟩
 else bif r.R0==6 then⟨m.F0,m.O0,m.K0.set r.S0.toNat (r.G2==1),m.A0⟩
 else bif DP r.D0 r.I0 m.A0 0==-1 then(bif r.R0==1 then m.put (Hr ⟨r.D0,r.I0,-1,0,A⟩ A m.A0)else m)
 else bif r.R0==2 then m.put (m.A0.take (DP r.D0 r.I0 m.A0 0).toNat++m.A0.drop ((DP r.D0 r.I0 m.A0 0).toNat+1))
 else bif r.R0==3 then m.put (m.A0.set (DP r.D0 r.I0 m.A0 0).toNat (Aep (m.A0.getD (DP r.D0 r.I0 m.A0 0).toNat noE) r.S0))
 else bif r.R0==7 then m.put (m.A0.set (DP r.D0 r.I0 m.A0 0).toNat (TU (m.A0.getD (DP r.D0 r.I0 m.A0 0).toNat noE) r.G2 r.S0))
 else m
def XL(b:L)(m:Img)(r:aA):(Unit×Int×Unit)×((List Int×List Bool×List Bool×List C×Unit)×Unit):=
 bif m.ok b&&Au b r then(((),0,()),((AC m r).tup,()))else(((),1,()),(Img.none.tup,()))
def Au8(h:Au b r=B)(hk:r.R0=4∨r.R0=5∨r.R0=6):0≤r.S0∧r.S0<(b.B0.length:Int):=by
  unfold Au Tw at h;have k:∀q:Bool,(r.S0≥0∧r.S0≤(b.B0.length:Int)-1)→0≤r.S0∧r.S0<(b.B0.length:Int):=λ_ h=>by omega
  rcases hk with hk | hk | hk<;>rw[hk]at h<;>
    (simp only[e_]at h
     have h':=h.2;simp only[show((4:Int)==1)=A from rfl,show((4:Int)==2)=A from rfl,show((4:Int)==3)=A from rfl,show((5:Int)==1)=A from rfl,show((5:Int)==2)=A from rfl,show((5:Int)==3)=A from rfl,show((5:Int)==4)=A from rfl,show((6:Int)==1)=A from rfl,show((6:Int)==2)=A from rfl,show((6:Int)==3)=A from rfl,show((6:Int)==4)=A from rfl,show((6:Int)==5)=A from rfl,l_,H,J,e_]at h'
     have:=Ao.1 h'.1.1
     exact k B ⟨this.1,this.2⟩)
section
variable{b:L}(hb:b.small)(m:Img)(hm:m.A0.length≤1000)(r:aA)
include hb hm
end
def HF{a:C}:Bo a c=B↔a.D0<c.D0∨(a.D0=c.D0∧a.I0<c.I0):=by
 unfold Bo;simp only[Y_,e_,t_,R_]
def QX{a d:C}(h:Bo a c=B)(h':Bo c d=B):Bo a d=B:=by
 rw[HF]at*;omega
def BT(e:C):Int×Int:=(e.D0,e.I0)
def ltC(a c:Int×Int):Prop:=a.1<c.1∨(a.1=c.1∧a.2<c.2)
def Bj(l:List C):Prop:=(l.map BT).Pairwise ltC
def Ep:Bj l↔l.Pairwise λx y=>Bo x y=B:=by
 unfold Bj;rw[List.pairwise_map];exact⟨λh=>h.imp λhh=>HF.2 hh,λh=>h.imp λhh=>HF.1 hh⟩
def Ahm{b:L}:∀{l:List C}{p:Option C},EE b p l=B↔(∀e∈l,Ha b e=B)∧Bj l∧(∀q,p=E q→∀e∈l,Bo q e=B)
 |[],p=>by simp[EE,Bj]
 |a::t,p=>by
  simp only[EE,e_];rw[Ahm (l:=t),Ep,Ep,e6_];constructor
  ·rintro⟨h1,h2,h3,h4,h5⟩
   refine⟨λe he=>?_,⟨λe he=>h5 a rfl e he,h4⟩,λq hq e he=>?_⟩
   ·rcases r_.1 he with rfl | he
    ·exact h1
    ·exact h3 e he
   ·subst hq
    simp only at h2;rcases r_.1 he with rfl | he
    ·exact h2
    ·exact QX h2 (h5 a rfl e he)
  ·rintro⟨h1,⟨h2,h3⟩,h4⟩
   refine⟨h1 a (s_ ..),?_,λe he=>h1 e (x_ _ he),h3,λq hq e he=>?_⟩
   ·cases p with
    |none=>rfl
    |some q=>exact h4 q rfl a (s_ ..)
   ·obtain rfl:=L_ hq
    exact h2 e he
def Adc:EE b O l=B↔(∀e∈l,Ha b e=B)∧Bj l:=by
 rw[Ahm];exact⟨λh=>⟨h.1,h.2.1⟩,λh=>⟨h.1,h.2,λ_ hq=>by cases hq⟩⟩
def Aux(h:Bj l)(k:Nat):Bj (l.take k++l.drop (k+1)):=by
 rw[Ep]at*;exact h.sublist (by rw[← List.eraseIdx_eq_take_drop_succ];exact List.eraseIdx_sublist ..)
def TJ(hk:k<l.length)(he:BT e=BT (l.getD k noE)):(l.set k e).map BT=l.map BT:=by
 rw[List.map_set,he];apply List.ext_getElem?;intro i;rw[List.getElem?_set];by_cases h:k=i
 ·subst h
  rw[if_pos rfl];simp[hk,k_]
 ·rw[if_neg h]
def Aet(h:Bj l)(hk:k<l.length)(he:BT e=BT (l.getD k noE)):Bj (l.set k e):=by
 unfold Bj at*;rw[TJ hk he];exact h
def Abp{e x:C}:∀{l:List C},x∈Hr e A l→x=e∨x∈l
 |[],h=>by simp[Hr]at h;exact .inl h
 |a::t,h=>by
  simp only[Hr]at h;cases hq:Bo e a with
  |true=>
   rw[hq,J,UA]at h;rcases r_.1 h with h | h
   ·exact .inl h
   ·exact .inr h
  |false=>
   rw[hq,H]at h;rcases r_.1 h with h | h
   ·exact .inr (by rw[h];exact s_ ..)
   ·rcases Abp h with h | h
    ·exact .inl h
    ·exact .inr (x_ _ h)
def Aes{e:C}:∀{l:List C},Bj l→(∀x∈l,isC e.D0 e.I0 x=A)→Bj (Hr e A l)
 |[],_,_=>by simp[Hr,Bj]
 |a::t,h,hn=>by
  rw[Ep]at*;obtain⟨h1,h2⟩:=e6_.1 h;simp only[Hr];cases hq:Bo e a with
  |true=>
   rw[J,UA];refine e6_.2 ⟨λx hx=>?_,h⟩
   rcases r_.1 hx with rfl | hx
   ·exact hq
   ·exact QX hq (h1 x hx)
  |false=>
   rw[H];refine e6_.2 ⟨λx hx=>?_,Ep.1 (Aes (Ep.2 h2) λx hx=>hn x (x_ _ hx))⟩
   rcases Abp hx with rfl | hx
   ·rw[HF]
    have h3:¬(x.D0<a.D0∨(x.D0=a.D0∧x.I0<a.I0)):=λhh=>by rw[HF.2 hh]at hq;cases hq
    have h4:=hn a (s_ ..);unfold isC at h4;simp only[Bool.and_eq_false_iff,beq_eq_false_iff_ne]at h4;omega
   ·exact h1 x hx
structure ImgOK(b:Bldg)(m:Img):Prop where
 code:b.code=0
 lp:m.F0.length=b.B0.length
 lf:m.O0.length=b.B0.length
 ll:m.K0.length=b.B0.length
 ph:∀p∈m.F0,0≤p∧p≤4
 en:∀e∈m.A0,Ha b e=true
 so:Bj m.A0
def Img.ok_iff{m:Img}:m.ok b=B↔ImgOK b m:=by
 unfold Img.ok;simp only[e_,R_];constructor
 ·rintro⟨h0,h1,h2,h3,h4,h5⟩
  have h6:=Adc.1 h5;exact⟨h0,ω,ω,ω,λp hp=>Ao.1 (E_.1 h4 p hp),h6.1,h6.2⟩
 ·rintro⟨h0,h1,h2,h3,h4,h5,h6⟩
  exact⟨h0,ω,ω,ω,E_.2 λp hp=>Ao.2 (h4 p hp),Adc.2 ⟨h5,h6⟩⟩
def Dt:Ha b e=B↔Am b e.D0 e.I0=B∧(-2≤e.S0∧e.S0<(b.B0.length:Int))∧0≤e.B1∧e.B1≤255:=by
 unfold Ha;simp only[e_,t_];constructor
 ·rintro⟨h1,h2,h3,h4,h5⟩;exact⟨h1,⟨h2,h3⟩,h4,h5⟩
 ·rintro⟨h1,⟨h2,h3⟩,h4,h5⟩;exact⟨h1,h2,h3,h4,h5⟩
def Agh{α:Type}{l:List α}{a x:α}(h:x∈l.set k a):x=a∨x∈l:=by
 rcases List.mem_or_eq_of_mem_set h with h | h
 ·exact .inr h
 ·exact .inl h
def Vp(h:Au b r=B):b.code=0∧
    ((r.R0=1∧Am b r.D0 r.I0=B∧r.S0=0∧r.G2=0)∨(r.R0=2∧Am b r.D0 r.I0=B∧r.S0=0∧r.G2=0)∨
     (r.R0=3∧Am b r.D0 r.I0=B∧(-2≤r.S0∧r.S0<(b.B0.length:Int))∧r.G2=0)∨
     (r.R0=4∧(0≤r.S0∧r.S0<(b.B0.length:Int))∧(0≤r.G2∧r.G2≤4))∨
     (r.R0=5∧(0≤r.S0∧r.S0<(b.B0.length:Int))∧(0≤r.G2∧r.G2≤1))∨
     (r.R0=6∧(0≤r.S0∧r.S0<(b.B0.length:Int))∧(0≤r.G2∧r.G2≤1))∨
     (r.R0=7∧Am b r.D0 r.I0=B∧(0≤r.S0∧r.S0≤1)∧(0≤r.G2∧r.G2≤255))):=by
  unfold Au Tw at h;simp only[e_,R_]at h;obtain⟨h0,h⟩:=h;refine⟨h0,?_⟩;by_cases k1:r.R0=1
  · rw[k1]at h;simp only[l_,J,e_,R_]at h;exact .inl ⟨k1,h.1,h.2⟩
  rw[An k1,H]at h;by_cases k2:r.R0=2
  · rw[k2]at h;simp only[l_,J,e_,R_]at h;exact .inr (.inl ⟨k2,h.1,h.2⟩)
  rw[An k2,H]at h;by_cases k3:r.R0=3
  · rw[k3]at h;simp only[l_,J,e_,R_,Ao]at h;exact .inr (.inr (.inl ⟨k3,h.1,ω,h.2.2⟩))
  rw[An k3,H]at h;by_cases k4:r.R0=4
  · rw[k4]at h;simp only[l_,J,e_,R_,Ao]at h;exact .inr (.inr (.inr (.inl ⟨k4,ω,h.2⟩)))
  rw[An k4,H]at h;by_cases k5:r.R0=5
  · rw[k5]at h;simp only[l_,J,e_,R_,Ao]at h;exact .inr (.inr (.inr (.inr (.inl ⟨k5,ω,h.2⟩))))
  rw[An k5,H]at h;by_cases k6:r.R0=6
  · rw[k6]at h;simp only[l_,J,e_,R_,Ao]at h;exact .inr (.inr (.inr (.inr (.inr (.inl ⟨k6,ω,h.2⟩)))))
  rw[An k6,H]at h;by_cases k7:r.R0=7
  · rw[k7]at h;simp only[l_,J,e_,Ao]at h;exact .inr (.inr (.inr (.inr (.inr (.inr ⟨k7,h.1,h.2.1,h.2.2⟩)))))
  rw[An k7]at h;cases h
def Aeb{m:Img}(h:ImgOK b m)(h1:∀e∈l,Ha b e=B)(h2:Bj l):ImgOK b (m.put l):=⟨h.code,h.lp,h.lf,h.ll,h.ph,h1,h2⟩
def Aqt{F D:Int}:isC F D e=B↔BT e=(F,D):=by
 unfold isC BT;simp only[e_,R_,g0_]
def Oo{m:Img}(h:ImgOK b m)(hv:Au b r=B):ImgOK b (AC m r)∧(AC m r).A0.length≤m.A0.length+1:=by
 obtain⟨_,hk⟩:=Vp hv;unfold AC;by_cases k4:r.R0=4
 ·rw[show(r.R0==4)=B by rw[k4];rfl]
  refine⟨⟨h.code,by show(m.F0.set _ _).length=_;rw[A_];exact h.lp,h.lf,h.ll,λp hp=>?_,h.en,h.so⟩,aB _⟩
  rcases Agh hp with rfl | hp
  ·omega
  ·exact h.ph p hp
 rw[An k4,H];by_cases k5:r.R0=5
 ·rw[show(r.R0==5)=B by rw[k5];rfl]
  exact⟨⟨h.code,h.lp,by show(m.O0.set _ _).length=_;rw[A_];exact h.lf,h.ll,h.ph,h.en,h.so⟩,aB _⟩
 rw[An k5,H];by_cases k6:r.R0=6
 ·rw[show(r.R0==6)=B by rw[k6];rfl]
  exact⟨⟨h.code,h.lp,h.lf,by show(m.K0.set _ _).length=_;rw[A_];exact h.ll,h.ph,h.en,h.so⟩,aB _⟩
 rw[An k6,H];rcases SE r.D0 r.I0 m.A0 0 with⟨h1,h2⟩ | ⟨k,h1,h2,h3⟩
 ·rw[h1,show((-1:Int)==-1)=B from rfl,J]
  by_cases k1:r.R0=1
  ·rw[show(r.R0==1)=B by rw[k1];rfl,J]
   refine⟨Aeb h (λe he=>?_) (Aes h.so h2),Abe _ _ _⟩
   rcases Abp he with rfl | he
   ·rw[Dt]
    have hc:Am b r.D0 r.I0=B:=by
     rcases hk with hk | hk | hk | hk | hk | hk | hk
     ·exact hk.2.1
     all_goals omega
    exact⟨hc,⟨by show(-2:Int)≤-1;omega,by show(-1:Int)<_;omega⟩,by show(0:Int)≤0;omega,by show(0:Int)≤255;omega⟩
   ·exact h.en e he
  ·rw[An k1,H];exact⟨h,aB _⟩
 ·rw[p_]at h2
  rw[h2,An (ω:¬(k:Int)=-1),H,i_]
  have hmem:=CA noE h1;have hent:=Dt.1 (h.en _ hmem);cases r.R0==2 with
  |true=>
   refine⟨Aeb h (λe he=>?_) (Aux h.so k),?_⟩
   ·rcases q_.1 he with he | he
    ·exact h.en e (d9_ he)
    ·exact h.en e (e0_ he)
   ·show(m.A0.take k++m.A0.drop (k+1)).length≤_
    rw[h_,y_,Z_];omega
  |false=>
   rw[H];by_cases k3:r.R0=3
   ·rw[show(r.R0==3)=B by rw[k3];rfl,J]
    refine⟨Aeb h (λe he=>?_) (Aet h.so h1 rfl),by show(m.A0.set _ _).length≤_;rw[A_];omega⟩
    rcases Agh he with rfl | he
    ·rw[Dt]
     refine⟨hent.1,?_,hent.2.2⟩;show -2≤r.S0∧r.S0<_;rcases hk with hk | hk | hk | hk | hk | hk | hk
     all_goals first
      |exact hk.2.2.1
      |omega
    ·exact h.en e he
   ·rw[An k3,H]
    by_cases k7:r.R0=7
    ·rw[show(r.R0==7)=B by rw[k7];rfl,J]
     refine⟨Aeb h (λe he=>?_) (Aet h.so h1 rfl),by show(m.A0.set _ _).length≤_;rw[A_];omega⟩
     rcases Agh he with rfl | he
     ·rw[Dt]
      refine⟨hent.1,hent.2.1,?_⟩;show 0≤r.G2∧r.G2≤255;rcases hk with hk | hk | hk | hk | hk | hk | hk
      all_goals first
       |exact hk.2.2.2
       |omega
     ·exact h.en e he
    ·rw[An k7,H];exact⟨h,aB _⟩
def GG(b:L):Img:=⟨List.replicate b.B0.length 0,List.replicate b.B0.length A,List.replicate b.B0.length A,[]⟩
def Agu(hcode:b.code=0)(hc:b.B0.length≤100):NE b.C0 b.E0 b.H0 b.M0 b.J0 b.L0 b.N0 b.B0=E (((),()),((GG b).tup,())):=by
 unfold NE;rw[EW,hcode];simp only[a_,T_,H,b_ (ω:(0:Int)≤(b.B0.length:Int)),b_ (e1_ (b.B0.length:Int)),b_ (ω:(b.B0.length:Int)≤2147483648),a3_,J,i_]
 rfl
def Abc(hcode:b.code=0):ImgOK b (GG b):=
 ⟨hcode,S_,S_,S_,(λp hp=>by rw[List.eq_of_mem_replicate hp];omega),(λ_ h=>by cases h),by simp[GG,Bj]⟩
def AB(m:Img):List aA→Img
 |[]=>m
 |r::t=>AB (AC m r) t
def Uj{b:L}:∀{rs:List aA}{m:Img},ImgOK b m→(∀r∈rs,Au b r=B)→ImgOK b (AB m rs)∧(AB m rs).A0.length≤m.A0.length+rs.length
 |[],_,h,_=>⟨h,z_ _⟩
 |r::t,m,h,hv=>by
  obtain⟨h1,h2⟩:=Oo h (hv r (s_ ..));obtain⟨h3,h4⟩:=Uj (rs:=t) h1 λx hx=>hv x (x_ _ hx)
  exact⟨h3,by show(AB (AC m r) t).A0.length≤_;rw[C_];omega⟩
def Aby(n lo hi:Int):Fv n lo hi=E ((I lo hi n,()),()):=by
 unfold Fv I;cases decide (lo≤n)<;>rfl
def UJ(hb:b.small)(hc:b.B0.length≤100)(r:aA):JL b.C0 b.E0 b.H0 b.M0 b.J0 b.L0 b.N0 b.B0 r.R0 r.D0 r.I0 r.S0 r.G2=E ((Au b r,()),()):=by
  have w:N.wrap ((b.B0.length:Int)-1)=(b.B0.length:Int)-1:=Aa ω ω
  unfold JL Au Tw;rw[Bi,Mf hb];simp only[a_,bne,Aby,w];cases b.code==0 with
  |false=>rfl
  |true=>
    simp only[o_,H,n_]
    cases I 0 ((b.B0.length:Int)-1) r.S0<;>cases r.D0==0<;>cases r.I0==0<;>
      (simp only[a_,J,H,a3_,c6_,c2_,a4_,n_,w]
       by_cases k1:r.R0=1
       · simp only[k1,l_,J]
         cases Am b r.D0 r.I0<;>cases r.S0==0<;>rfl
       by_cases k2:r.R0=2
       · simp only[k2,l_,J,H,show((2:Int)==1)=A from rfl]
         cases Am b r.D0 r.I0<;>cases r.S0==0<;>rfl
       by_cases k3:r.R0=3
       · simp only[k3,l_,J,H,show((3:Int)==1)=A from rfl,show((3:Int)==2)=A from rfl]
         cases Am b r.D0 r.I0<;>cases I (-2) ((b.B0.length:Int)-1) r.S0<;>rfl
       by_cases k4:r.R0=4
       · simp only[k4,l_,J,H,show((4:Int)==1)=A from rfl,show((4:Int)==2)=A from rfl,show((4:Int)==3)=A from rfl,show((4:Int)==7)=A from rfl]
       by_cases k5:r.R0=5
       · simp only[k5,l_,J,H,show((5:Int)==1)=A from rfl,show((5:Int)==2)=A from rfl,show((5:Int)==3)=A from rfl,show((5:Int)==7)=A from rfl,show((5:Int)==4)=A from rfl]
       by_cases k6:r.R0=6
       · simp only[k6,l_,J,H,show((6:Int)==1)=A from rfl,show((6:Int)==2)=A from rfl,show((6:Int)==3)=A from rfl,show((6:Int)==7)=A from rfl,show((6:Int)==4)=A from rfl,show((6:Int)==5)=A from rfl]
       by_cases k7:r.R0=7
       · simp only[k7,l_,J,H,show((7:Int)==1)=A from rfl,show((7:Int)==2)=A from rfl,show((7:Int)==3)=A from rfl,show((7:Int)==4)=A from rfl,show((7:Int)==5)=A from rfl,show((7:Int)==6)=A from rfl]
         cases Am b r.D0 r.I0<;>cases I 0 1 r.S0<;>rfl
       simp only[An k1,An k2,An k3,An k4,An k5,An k6,An k7,H])
def Yv(m:Img)(h1:m.F0.length≤100000)(h2:m.O0.length≤100000)(h3:m.K0.length≤100000)(h4:m.A0.length≤100000):Np m.F0 m.O0 m.K0 m.A0=E (((),()),(m.tup,())):=by
 have k:∀{α:Type}(l:List α),l.length≤100000→PD l=E ((l,()),()):=λl h=>by
  unfold PD;rw[Ay (ω:l.length≤2147483648)];rfl
 unfold Np BI Bf Bp;rw[k _ h1,k _ h2,k _ h3,k _ h4];rfl
def AA(c:C):List C→Nat
 |[]=>0
 |e::t=>bif Bo e c then AA c t+1 else 0
def SZ(c:C):∀l:List C,AA c l≤l.length
 |[]=>z_ _
 |e::t=>by
  have:=SZ c t
  simp only[AA,C_];cases Bo e c<;>simp<;>omega
def Agp(c:C):∀(l:List C) (k:Nat),k<AA c l→Bo (l.getD k noE) c=B
 |[],k,h=>by simp[AA]at h
 |e::t,k,h=>by
  simp only[AA]at h;cases he:Bo e c with
  |false=>rw[he]at h;simp at h
  |true=>
   rw[he]at h;cases k with
   |zero=>exact he
   |succ k=>exact Agp c t k (by simp at h;omega)
def Ago{c:C}:∀{l:List C},Bj l→∀k,AA c l≤k→k<l.length→Bo (l.getD k noE) c=A
 |[],_,k,_,h=>by simp at h
 |e::t,hs,k,h1,h2=>by
  obtain⟨a1,a2⟩:=e6_.1 (Ep.1 hs);simp only[AA]at h1;cases he:Bo e c with
  |true=>
   rw[he,J]at h1;cases k with
   |zero=>omega
   |succ k=>exact Ago (Ep.2 a2) k ω (by simp at h2;omega)
  |false=>
   cases k with
   |zero=>exact he
   |succ k=>
    cases hq:Bo ((e::t).getD (k+1) noE) c with
    |false=>rfl
    |true=>
     have hm:t.getD k noE∈t:=CA noE (by simp at h2;omega)
     have:=QX (a1 _ hm) hq
     rw[he]at this;cases this
def WQ{a:C}(h:isC c.D0 c.I0 a=B):Bo a c=A∧Bo c a=A:=by
 unfold isC at h;simp only[e_,R_]at h;constructor
 all_goals
  apply Bool.eq_false_iff.2;intro hh;rw[HF]at hh;omega
def Amt{a:C}(h:isC c.D0 c.I0 a=A)(h':Bo a c=A):Bo c a=B:=by
 rw[HF];have h1:¬(a.D0<c.D0∨(a.D0=c.D0∧a.I0<c.I0)):=λhh=>by rw[HF.2 hh]at h';cases h'
 unfold isC at h;simp only[Bool.and_eq_false_iff,beq_eq_false_iff_ne]at h;omega
def Aia{a:C}(h:Bo a c=B):Bo c a=A:=by
 apply Bool.eq_false_iff.2;intro hh;rw[HF]at*;omega
def WA{F D:Int}:∀{l:List C}{i:Nat},(∀x∈l,isC F D x=A)→DP F D l i=-1
 |[],_,_=>rfl
 |e::t,i,h=>by
  simp only[DP];rw[h e (s_ ..),H];exact WA λx hx=>h x (x_ _ hx)
def FU(c:C)(l:List C):Bool:=Nat.blt (AA c l) l.length&&isC c.D0 c.I0 (l.getD (AA c l) noE)
def RA{c:C}:∀{l:List C}(i:Nat),Bj l→DP c.D0 c.I0 l i=bif FU c l then((i+AA c l:Nat):Int)else -1
 |[],_,_=>rfl
 |e::t,i,hs=>by
  obtain⟨a1,a2⟩:=e6_.1 (Ep.1 hs);have hpos:AA c (e::t)=bif Bo e c then AA c t+1 else 0:=rfl;unfold FU;simp only[DP];rw[hpos];cases he:isC c.D0 c.I0 e with
  |true=>
   rw[(WQ he).1];simp[he,show Nat.blt 0 (t.length+1)=B from rfl]
  |false=>
   cases hl:Bo e c with
   |true=>
    rw[H,J,RA (i+1) (Ep.2 a2)];unfold FU;rw[show((e::t).getD (AA c t+1) noE)=t.getD (AA c t) noE from rfl,C_,show Nat.blt (AA c t+1) (t.length+1)=Nat.blt (AA c t) t.length from rfl]
    rw[show i+1+AA c t=i+(AA c t+1)by omega]
   |false=>
    rw[H,H,show((e::t).getD 0 noE)=e from rfl,he,c2_,H]
    refine WA λx hx=>?_
    cases hq:isC c.D0 c.I0 x with
    |false=>rfl
    |true=>
     have h1:=QX (Amt he hl) (a1 x hx);rw[(WQ hq).2]at h1;cases h1
def WN{c:C}:∀{l:List C},(∀x∈l,isC c.D0 c.I0 x=A)→Hr c A l=l.take (AA c l)++[c]++l.drop (AA c l)
 |[],_=>rfl
 |e::t,h=>by
  simp only[Hr,AA];cases hl:Bo e c with
  |true=>
   rw[Aia hl,H,WN λx hx=>h x (x_ _ hx)]
   simp
  |false=>
   rw[Amt (h e (s_ ..)) hl,J,UA];simp
def Ah3(hs:Bj l)(h:FU c l=A):∀x∈l,isC c.D0 c.I0 x=A:=by
 have h1:=RA (c:=c) 0 hs;rw[h,H]at h1;rcases SE c.D0 c.I0 l 0 with⟨_,h2⟩ | ⟨k,_,h2,_⟩
 ·exact h2
 ·rw[h1]at h2;omega
end Go.Ovl
