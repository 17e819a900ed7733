/- Which images belong to a building (layer 10): the program and the reference say the same. -/
import Derived.Test.YtoppkmfgeaflcaaGreatDoorOvA
set_option linter.all false
open Bool renaming false->A,true->B
open Go.Ovl renaming Entry->C,inR->I,Bldg->L,Record->aA
open Option renaming some->E,none->O
open Go renaming c_->H,d_->J
open Go.IntKind renaming i64->N
open Nat renaming le_succ->aB
namespace Go.Ovl
open Go Go.Ab
set_option maxRecDepth 100000
variable{b:L}{l:List C}{r:aA}{e c:C}{k:Nat}
def XF(x y:Int):decide (x<y)=!decide (y≤x):=by by_cases h:y≤x<;>simp[h]<;>omega
def Bko(x y:Int):decide (x≤y)=!decide (y<x):=by by_cases h:y<x<;>simp[h]<;>omega
def noE:C:=Entry.mk 0 0 0 0 A
structure Img where
 F0:List Int
 O0:List Bool
 K0:List Bool
 A0:List Entry
def Img.tup(m:Img):List Int×List Bool×List Bool×List C×Unit:=(m.F0,m.O0,m.K0,m.A0,())
def Img.none:Img:=⟨[],[],[],[]⟩
def Pf(fl floor dir:Int):Bool:=(dir==1&&I 0 (fl-2) floor)||(dir==2&&I 1 (fl-1) floor)
def Xx{fl:Int}(h:0≤fl∧fl<100)(floor dir:Int):IZ fl floor dir=E ((Pf fl floor dir,()),()):=by
 have w1:N.wrap (fl-1)=fl-1:=Ac ω ω
 have w2:N.wrap (fl-2)=fl-2:=Ac ω ω
 have k:∀lo hi:Int,BL lo hi [floor]=E ((I lo hi floor,()),()):=λlo hi=>by
  rw[Ca lo hi (show [floor].length≤maxLen from(show 1≤maxLen by decide))];simp
 unfold IZ Pf;rw[w1,w2,k,k];cases dir==1<;>cases dir==2<;>cases I 0 (fl-2) floor<;>rfl
def An(b:L)(floor dir:Int):Bool:=b.code==0&&Pf b.C0 floor dir
def LU(hb:b.small)(floor dir:Int):FB b.C0 b.E0 b.H0 b.M0 b.J0 b.L0 b.N0 b.B0 floor dir=E ((An b floor dir,()),()):=by
 unfold FB An;rw[Bg,Xx ⟨by have:=hb.lo;omega,by have:=hb.hi;omega⟩]
 simp only[a_];cases b.code==0<;>rfl
def KV(hb:b.small)(floor dir:Int):HH b.C0 b.E0 b.H0 b.M0 b.J0 b.L0 b.N0 b.B0 floor dir=E ((An b floor dir,()),()):=by
 have lo:=hb.lo;have hi:=hb.hi;have w1:N.wrap (b.C0-1)=b.C0-1:=Ac ω ω
 have w2:N.wrap (b.C0-2)=b.C0-2:=Ac ω ω
 unfold HH An Pf;rw[Ea,w1,w2,KY,KY];simp only[a_,bne];cases b.code==0<;>cases dir==1<;>cases dir==2<;>cases I 0 (b.C0-2) floor<;>rfl
def GQ(b:L)(e:C):Bool:=An b e.D0 e.I0&&(decide (-2≤e.Q0)&&(decide (e.Q0<(b.B0.length:Int))&&(decide (0≤e.B1)&&decide (e.B1≤255))))
def Afn(hb:b.small)(e:C):Ni b.C0 b.E0 b.H0 b.M0 b.J0 b.L0 b.N0 b.B0 e.D0 e.I0 e.Q0 e.B1 e.Y1=E ((GQ b e,()),()):=by
 unfold Ni GQ;rw[LU hb];simp only[a_];cases An b e.D0 e.I0<;>cases decide (-2≤e.Q0)<;>cases decide (e.Q0<(b.B0.length:Int))<;>cases decide (0≤e.B1)<;>rfl
def Bk(a b:C):Bool:=decide (a.D0<b.D0)||(a.D0==b.D0&&decide (a.I0<b.I0))
def Aot(a b:C):OE a.D0 a.I0 a.Q0 a.B1 a.Y1 b.D0 b.I0 b.Q0 b.B1 b.Y1=E ((Bk a b,()),()):=by
 unfold OE Bk;cases decide (a.D0<b.D0)<;>cases a.D0==b.D0<;>rfl
def VM(x y:Int):Int:=bif decide (x<y)then -1 else bif decide (y<x)then 1 else 0
def HA(x y:Int):En x y=E ((VM x y,()),()):=by
 unfold En Lm VM;simp only[a_,Q_,H];cases decide (x<y)<;>cases decide (y<x)<;>rfl
def XB(x y:Int):LI [x,y]=E (((bif x !=0 then x else y),()),()):=by
 have r:∀(l:List Int) (i:Nat),i<l.length→l.length<100→JD 0 l (l.length:Int) (i:Int)=E (bif l.getD i 0 !=0 then Sum.inr (Sum.inr ((l.getD i 0,()),()))else Sum.inl (((0:Int),l,(l.length:Int),((i+1:Nat):Int),()),())):=λl i hi hl=>by
  have w:N.wrap ((i:Int)+1)=((i+1:Nat):Int):=by rw[Ac ω ω];omega
  unfold JD;rw[b_ (ω:(i:Int)<(l.length:Int)),Aa (ω:(0:Int)≤(i:Int)) (ω:(i:Int)<(l.length:Int)),j_,w]
  simp only[J];cases l.getD i 0 !=0<;>rfl
 have r0:JD 0 [x,y] 2 0=E (bif x !=0 then Sum.inr (Sum.inr ((x,()),()))else Sum.inl (((0:Int),[x,y],(2:Int),(1:Int),()),())):=r [x,y] 0 (by simp) (by simp)
 have r1:JD 0 [x,y] 2 1=E (bif y !=0 then Sum.inr (Sum.inr ((y,()),()))else Sum.inl (((0:Int),[x,y],(2:Int),(2:Int),()),())):=r [x,y] 1 (by simp) (by simp)
 have h:Mu (((0:Int),[x,y],(2:Int),(0:Int),()),())=E (bif x !=0 then .inr ((x,()),())else bif y !=0 then .inr ((y,()),())else .inl (((0:Int),()),())):=by
  refine Ai (f:=3) ?_ ω
  cases hx:x !=0 with
  |true=>rw[hx]at r0;exact Ay r0
  |false=>
   rw[hx]at r0;refine(Bt r0).trans ?_;cases hy:y !=0 with
   |true=>rw[hy]at r1;exact Ay r1
   |false=>rw[hy]at r1;exact(Bt r1).trans (Ay rfl)
 unfold LI;rw[show((([x,y]:List Int).length:Nat):Int)=2 from rfl,h]
 cases hx:x !=0 with
 |true=>rfl
 |false=>
  cases hy:y !=0 with
  |true=>rfl
  |false=>
   have:y=0:=by simpa using hy
   subst this;rfl
def Qd(a b:C):∃n:Int,Ih a.D0 a.I0 a.Q0 a.B1 a.Y1 b.D0 b.I0 b.Q0 b.B1 b.Y1=E ((n,()),())∧decide (0≤n)=!Bk a b∧(n=0↔a.D0=b.D0∧a.I0=b.I0):=by
 unfold Ih;rw[HA,HA];simp only[a_];rw[XB];refine⟨_,rfl,?_,?_⟩
 ·unfold Bk VM
  by_cases h1:a.D0<b.D0
  ·rw[b_ h1];rfl
  ·rw[f_ h1]
   by_cases h2:b.D0<a.D0
   ·rw[b_ h2,Ar (ω:¬a.D0=b.D0)];rfl
   ·rw[f_ h2,show(a.D0==b.D0)=B by simp;omega]
    by_cases h3:a.I0<b.I0
    ·rw[b_ h3];rfl
    ·rw[f_ h3]
     cases decide (b.I0<a.I0)<;>rfl
 ·unfold VM
  by_cases h1:a.D0<b.D0
  ·rw[b_ h1]
   exact⟨(λh=>by cases h),(λh=>by omega)⟩
  ·rw[f_ h1]
   by_cases h2:b.D0<a.D0
   ·rw[b_ h2]
    exact⟨(λh=>by cases h),(λh=>by omega)⟩
   ·rw[f_ h2]
    by_cases h3:a.I0<b.I0
    ·rw[b_ h3];exact⟨(λh=>by cases h),(λh=>by omega)⟩
    ·rw[f_ h3]
     by_cases h4:b.I0<a.I0
     ·rw[b_ h4];exact⟨(λh=>by cases h),(λh=>by omega)⟩
     ·rw[f_ h4];exact⟨λ_=>⟨ω,ω⟩,λ_=>rfl⟩
def EB(b:L):Option C→List C→Bool
 |_,[]=>B
 |p,e::t=>GQ b e&&((match p with | some q=>Bk q e | none=>B)&&EB b (E e) t)
def Img.ok(b:L)(m:Img):Bool:=
 b.code==0&&((m.F0.length:Int)==(b.B0.length:Int)&&((m.O0.length:Int)==(b.B0.length:Int)&&((m.K0.length:Int)==(b.B0.length:Int)&&(m.F0.all (I 0 4)&&EB b Option.none m.A0))))
def Jl(l:List C)(i:Nat):Option C:=if i=0 then O else E (l.getD (i-1) noE)
def Acp{i:Nat}(h:i<l.length):EB b (Jl l i) (l.drop i)=(GQ b (l.getD i noE)&&((match Jl l i with | some q=>Bk q (l.getD i noE) | none=>B)&&EB b (Jl l (i+1)) (l.drop (i+1)))):=by
 rw[Cc noE h];simp only[EB,Jl,Nat.succ_ne_zero,e9_,Nat.add_sub_cancel]
section
variable{b:L}(hb:b.small)(m:Img)
include hb
theorem Aip(hm:m.A0.length≤maxLen):Ly (((),(),m.A0,(m.A0.length:Int),(0:Int),()),(b.tup,m.tup,()))=E (if EB b O m.A0 then .inl ((),())else .inr ((A,()),())):=by
 have hmx:maxLen≤9223372036854775807:=by decide
 have key:∀(k i:Nat),i+k=m.A0.length→BM (λx=>letI a:=x.2.1.2.2;letI c:=a.2.2;letI d:=x.2.2.1;Fs x.1.2.2.1 x.1.2.2.2.1 x.1.2.2.2.2.1 x.2.1.1 x.2.1.2.1 a.1 a.2.1 c.1 c.2.1 c.2.2.1 c.2.2.2.1 d.1 d.2.1 d.2.2.1 d.2.2.2.1) (k+1) (((),(),m.A0,(m.A0.length:Int),(i:Int),()),(b.tup,m.tup,()))=E (if EB b (Jl m.A0 i) (m.A0.drop i)then .inl ((),())else .inr ((A,()),())):=by
  intro k
  induction k with
  |zero=>
   intro i hi;refine Ay ?_;show Fs m.A0 (m.A0.length:Int) (i:Int) b.C0 b.E0 b.H0 b.M0 b.J0 b.L0 b.N0 b.B0 m.F0 m.O0 m.K0 m.A0=_;unfold Fs;have e:decide ((i:Int)<(m.A0.length:Int))=A:=by simp;omega
   rw[e,show i=m.A0.length by omega,b0_];rfl
  |succ k ih=>
   intro i hi;have hi':i<m.A0.length:=ω
   have e:decide ((i:Int)<(m.A0.length:Int))=B:=by simp;omega
   have ib:inB (i:Int) m.A0.length=B:=Aa ω ω
   have w:N.wrap ((i:Int)+1)=((i+1:Nat):Int):=by rw[Ac ω ω];omega
   have go:∀p:Bool,(Fs m.A0 (m.A0.length:Int) (i:Int) b.C0 b.E0 b.H0 b.M0 b.J0 b.L0 b.N0 b.B0 m.F0 m.O0 m.K0 m.A0=E (bif p then .inr (.inr ((A,()),()))else .inl (((),(),m.A0,(m.A0.length:Int),((i+1:Nat):Int),()),(b.tup,m.tup,()))))→(EB b (Jl m.A0 i) (m.A0.drop i)=(!p&&EB b (Jl m.A0 (i+1)) (m.A0.drop (i+1))))→BM (λx=>letI a:=x.2.1.2.2;letI c:=a.2.2;letI d:=x.2.2.1;Fs x.1.2.2.1 x.1.2.2.2.1 x.1.2.2.2.2.1 x.2.1.1 x.2.1.2.1 a.1 a.2.1 c.1 c.2.1 c.2.2.1 c.2.2.2.1 d.1 d.2.1 d.2.2.1 d.2.2.2.1) (k+1+1) (((),(),m.A0,(m.A0.length:Int),(i:Int),()),(b.tup,m.tup,()))=E (if EB b (Jl m.A0 i) (m.A0.drop i)then .inl ((),())else .inr ((A,()),())):=λp h1 h2=>by
    rw[h2];cases p with
    |true=>exact Ay h1
    |false=>rw[b7_,n_];exact(Bt h1).trans (ih (i+1) ω)
   have hstep:=Acp (b:=b) hi';have he:=Afn hb (m.A0.getD i noE);unfold noE at he;refine go (!(GQ b (m.A0.getD i noE)&&(match Jl m.A0 i with | some q=>Bk q (m.A0.getD i noE) | none=>B))) ?_ (by rw[hstep,Bool.not_not,Bool.and_assoc])
   unfold Fs;rw[e,ib];simp only[J,j_,he,a_];cases hk:GQ b (m.A0.getD i noE)with
   |false=>
    unfold noE at hk;rw[hk];rfl
   |true=>
    unfold noE at hk;rw[hk];simp only[o_,H,n_];by_cases g:(0:Int)<(i:Int)
    ·have w1:N.wrap ((i:Int)-1)=((i-1:Nat):Int):=by rw[Ac ω ω];omega
     have ib1:inB ((i-1:Nat):Int) m.A0.length=B:=Aa ω ω
     rw[b_ g,w1,ib1];obtain⟨n,c1,c2,_⟩:=Qd (m.A0.getD (i-1) noE) (m.A0.getD i noE);unfold noE at c1;simp only[J,j_,c1,a_,w,c2];rw[show Jl m.A0 i=E (m.A0.getD (i-1) noE)from if_neg ω]
     simp only;cases Bk (m.A0.getD (i-1) noE) (m.A0.getD i noE)<;>rfl
    ·have:i=0:=ω
     subst this;rw[f_ g];simp only[H,a_,w];rfl
 have h:=Ai (key m.A0.length 0 ω) ω
 exact h
theorem Ai3(n:Int)(hn:n=(b.B0.length:Int))(hm:m.A0.length≤maxLen):LA (((),(),n,(0:Int),()),(b.tup,m.tup,()))=E (if EB b O m.A0 then .inl ((),())else .inr ((A,()),())):=by
 have hmx:maxLen≤9223372036854775807:=by decide
 have key:∀(k i:Nat),i+k=m.A0.length→BM (λx=>letI a:=x.2.1.2.2;letI c:=a.2.2;letI d:=x.2.2.1;Fw x.1.2.2.1 x.1.2.2.2.1 x.2.1.1 x.2.1.2.1 a.1 a.2.1 c.1 c.2.1 c.2.2.1 c.2.2.2.1 d.1 d.2.1 d.2.2.1 d.2.2.2.1) (k+1) (((),(),n,(i:Int),()),(b.tup,m.tup,()))=E (if EB b (Jl m.A0 i) (m.A0.drop i)then .inl ((),())else .inr ((A,()),())):=by
  intro k
  induction k with
  |zero=>
   intro i hi;refine Ay ?_;show Fw n (i:Int) b.C0 b.E0 b.H0 b.M0 b.J0 b.L0 b.N0 b.B0 m.F0 m.O0 m.K0 m.A0=_;unfold Fw;have e:decide ((i:Int)<(m.A0.length:Int))=A:=by simp;omega
   rw[e,show i=m.A0.length by omega,b0_];rfl
  |succ k ih=>
   intro i hi;have hi':i<m.A0.length:=ω
   have e:decide ((i:Int)<(m.A0.length:Int))=B:=by simp;omega
   have ib:inB (i:Int) m.A0.length=B:=Aa ω ω
   have w:N.wrap ((i:Int)+1)=((i+1:Nat):Int):=by rw[Ac ω ω];omega
   have go:∀p:Bool,(Fw n (i:Int) b.C0 b.E0 b.H0 b.M0 b.J0 b.L0 b.N0 b.B0 m.F0 m.O0 m.K0 m.A0=E (bif p then .inr (.inr ((A,()),()))else .inl (((),(),n,((i+1:Nat):Int),()),(b.tup,m.tup,()))))→(EB b (Jl m.A0 i) (m.A0.drop i)=(!p&&EB b (Jl m.A0 (i+1)) (m.A0.drop (i+1))))→BM (λx=>letI a:=x.2.1.2.2;letI c:=a.2.2;letI d:=x.2.2.1;Fw x.1.2.2.1 x.1.2.2.2.1 x.2.1.1 x.2.1.2.1 a.1 a.2.1 c.1 c.2.1 c.2.2.1 c.2.2.2.1 d.1 d.2.1 d.2.2.1 d.2.2.2.1) (k+1+1) (((),(),n,(i:Int),()),(b.tup,m.tup,()))=E (if EB b (Jl m.A0 i) (m.A0.drop i)then .inl ((),())else .inr ((A,()),())):=λp h1 h2=>by
    rw[h2];cases p with
    |true=>exact Ay h1
    |false=>rw[b7_,n_];exact(Bt h1).trans (ih (i+1) ω)
   have hstep:=Acp (b:=b) hi';have hc:=KV hb (m.A0.getD i noE).D0 (m.A0.getD i noE).I0;refine go (!(GQ b (m.A0.getD i noE)&&(match Jl m.A0 i with | some q=>Bk q (m.A0.getD i noE) | none=>B))) ?_ (by rw[hstep,Bool.not_not,Bool.and_assoc])
   unfold Fw;rw[e,ib,show(Entry.mk 0 0 0 0 A)=noE from rfl]
   simp only[J,j_,hc,a_];unfold GQ;have q1:decide ((m.A0.getD i noE).Q0< -2)=!decide (-2≤(m.A0.getD i noE).Q0):=XF _ _;have q2:decide (n≤(m.A0.getD i noE).Q0)=!decide ((m.A0.getD i noE).Q0<(b.B0.length:Int)):=by rw[hn];exact Bko _ _
   have q3:decide ((m.A0.getD i noE).B1<0)=!decide (0≤(m.A0.getD i noE).B1):=XF _ _;have q4:decide (255<(m.A0.getD i noE).B1)=!decide ((m.A0.getD i noE).B1≤255):=XF _ _;rw[q1,q2,q3,q4];cases An b (m.A0.getD i noE).D0 (m.A0.getD i noE).I0 with
   |false=>rfl
   |true=>
    cases decide (-2≤(m.A0.getD i noE).Q0)with
    |false=>rfl
    |true=>
     cases decide ((m.A0.getD i noE).Q0<(b.B0.length:Int))with
     |false=>rfl
     |true=>
      cases decide (0≤(m.A0.getD i noE).B1)with
      |false=>rfl
      |true=>
       cases decide ((m.A0.getD i noE).B1≤255)with
       |false=>rfl
       |true=>
        simp only[o_,H,a4_,n_];by_cases g:(0:Int)<(i:Int)
        ·have w1:N.wrap ((i:Int)-1)=((i-1:Nat):Int):=by rw[Ac ω ω];omega
         have ib1:inB ((i-1:Nat):Int) m.A0.length=B:=Aa ω ω
         have hl:=Aot (m.A0.getD (i-1) noE) (m.A0.getD i noE);rw[b_ g,w1,ib1];simp only[J,j_,hl,a_,w];rw[show Jl m.A0 i=E (m.A0.getD (i-1) noE)from if_neg ω]
         simp only;cases Bk (m.A0.getD (i-1) noE) (m.A0.getD i noE)<;>rfl
        ·have:i=0:=ω
         subst this;rw[f_ g];simp only[H,a_,w];rfl
 have h:=Ai (key m.A0.length 0 ω) ω
 exact h
omit hb in
theorem Aio(hm:m.F0.length≤maxLen):Lx (((),(),m.F0,(m.F0.length:Int),(0:Int),()),(b.tup,m.tup,()))=E (if m.F0.all (I 0 4)then .inl (((),(),()),(b.tup,m.tup,()))else .inr ((A,()),())):=by
 have hmx:maxLen≤9223372036854775807:=by decide
 have key:∀(k i:Nat),i+k=m.F0.length→BM (λx=>letI a:=x.2.1.2.2;letI c:=a.2.2;letI d:=x.2.2.1;GN x.1.2.2.1 x.1.2.2.2.1 x.1.2.2.2.2.1 x.2.1.1 x.2.1.2.1 a.1 a.2.1 c.1 c.2.1 c.2.2.1 c.2.2.2.1 d.1 d.2.1 d.2.2.1 d.2.2.2.1) (k+1) (((),(),m.F0,(m.F0.length:Int),(i:Int),()),(b.tup,m.tup,()))=E (if(m.F0.drop i).all (I 0 4)then .inl (((),(),()),(b.tup,m.tup,()))else .inr ((A,()),())):=by
  intro k
  induction k with
  |zero=>
   intro i hi;refine Ay ?_;show GN m.F0 (m.F0.length:Int) (i:Int) b.C0 b.E0 b.H0 b.M0 b.J0 b.L0 b.N0 b.B0 m.F0 m.O0 m.K0 m.A0=_;unfold GN;have e:decide ((i:Int)<(m.F0.length:Int))=A:=by simp;omega
   rw[e,show i=m.F0.length by omega,b0_];rfl
  |succ k ih=>
   intro i hi;have hi':i<m.F0.length:=ω
   have e:decide ((i:Int)<(m.F0.length:Int))=B:=by simp;omega
   have ib:inB (i:Int) m.F0.length=B:=Aa ω ω
   have w:N.wrap ((i:Int)+1)=((i+1:Nat):Int):=by rw[Ac ω ω];omega
   rw[Cc (0:Int) hi',X_]
   have hs:GN m.F0 (m.F0.length:Int) (i:Int) b.C0 b.E0 b.H0 b.M0 b.J0 b.L0 b.N0 b.B0 m.F0 m.O0 m.K0 m.A0=E (bif I 0 4 (m.F0.getD i 0)then .inl (((),(),m.F0,(m.F0.length:Int),((i+1:Nat):Int),()),(b.tup,m.tup,()))else .inr (.inr ((A,()),()))):=by
    unfold GN;rw[e,ib,w];simp only[J,j_];unfold I;by_cases g1:m.F0.getD i 0<0
    ·rw[b_ g1,f_ (ω:¬0≤m.F0.getD i 0)];rfl
    ·rw[f_ g1,b_ (ω:0≤m.F0.getD i 0)]
     by_cases g2:4<m.F0.getD i 0
     ·rw[b_ g2,f_ (ω:¬m.F0.getD i 0≤4)];rfl
     ·rw[f_ g2,b_ (ω:m.F0.getD i 0≤4)];rfl
   cases hq:I 0 4 (m.F0.getD i 0)with
   |true=>rw[hq]at hs;exact(Bt hs).trans (ih (i+1) ω)
   |false=>rw[hq]at hs;exact Ay hs
 have h:=Ai (key m.F0.length 0 ω) ω
 exact h
omit hb in
theorem Ai2(n:Int)(hn:n=(m.F0.length:Int))(hm:m.F0.length≤maxLen):Lz (((),(),n,(0:Int),()),(b.tup,m.tup,()))=E (if m.F0.all (I 0 4)then .inl (((),(),n,()),(b.tup,m.tup,()))else .inr ((A,()),())):=by
 have hmx:maxLen≤9223372036854775807:=by decide
 subst hn
 have key:∀(k i:Nat),i+k=m.F0.length→BM (λx=>letI a:=x.2.1.2.2;letI c:=a.2.2;letI d:=x.2.2.1;GO x.1.2.2.1 x.1.2.2.2.1 x.2.1.1 x.2.1.2.1 a.1 a.2.1 c.1 c.2.1 c.2.2.1 c.2.2.2.1 d.1 d.2.1 d.2.2.1 d.2.2.2.1) (k+1) (((),(),(m.F0.length:Int),(i:Int),()),(b.tup,m.tup,()))=E (if(m.F0.drop i).all (I 0 4)then .inl (((),(),(m.F0.length:Int),()),(b.tup,m.tup,()))else .inr ((A,()),())):=by
  intro k
  induction k with
  |zero=>
   intro i hi;refine Ay ?_;show GO (m.F0.length:Int) (i:Int) b.C0 b.E0 b.H0 b.M0 b.J0 b.L0 b.N0 b.B0 m.F0 m.O0 m.K0 m.A0=_;unfold GO;have e:decide ((i:Int)<(m.F0.length:Int))=A:=by simp;omega
   rw[e,show i=m.F0.length by omega,b0_];rfl
  |succ k ih=>
   intro i hi;have hi':i<m.F0.length:=ω
   have e:decide ((i:Int)<(m.F0.length:Int))=B:=by simp;omega
   have ib:inB (i:Int) m.F0.length=B:=Aa ω ω
   have w:N.wrap ((i:Int)+1)=((i+1:Nat):Int):=by rw[Ac ω ω];omega
   rw[Cc (0:Int) hi',X_]
   have hs:GO (m.F0.length:Int) (i:Int) b.C0 b.E0 b.H0 b.M0 b.J0 b.L0 b.N0 b.B0 m.F0 m.O0 m.K0 m.A0=E (bif I 0 4 (m.F0.getD i 0)then .inl (((),(),(m.F0.length:Int),((i+1:Nat):Int),()),(b.tup,m.tup,()))else .inr (.inr ((A,()),()))):=by
    unfold GO;rw[e,ib,w];simp only[J,j_];unfold I;by_cases g1:m.F0.getD i 0<0
    ·rw[b_ g1,f_ (ω:¬0≤m.F0.getD i 0)];rfl
    ·rw[f_ g1,b_ (ω:0≤m.F0.getD i 0)]
     by_cases g2:4<m.F0.getD i 0
     ·rw[b_ g2,f_ (ω:¬m.F0.getD i 0≤4)];rfl
     ·rw[f_ g2,b_ (ω:m.F0.getD i 0≤4)];rfl
   cases hq:I 0 4 (m.F0.getD i 0)with
   |true=>rw[hq]at hs;exact(Bt hs).trans (ih (i+1) ω)
   |false=>rw[hq]at hs;exact Ay hs
 have h:=Ai (key m.F0.length 0 ω) ω
 exact h
theorem CM(hp:m.F0.length≤maxLen)(he:m.A0.length≤maxLen):Ch b.C0 b.E0 b.H0 b.M0 b.J0 b.L0 b.N0 b.B0 m.F0 m.O0 m.K0 m.A0=E ((m.ok b,()),()):=by
 unfold Ch Img.ok;rw[Bg];simp only[a_,bne];cases b.code==0 with
 |false=>rfl
 |true=>
  cases(m.F0.length:Int)==(b.B0.length:Int)with
  |false=>rfl
  |true=>
   cases(m.O0.length:Int)==(b.B0.length:Int)with
   |false=>rfl
   |true=>
    cases(m.K0.length:Int)==(b.B0.length:Int)with
    |false=>rfl
    |true=>
     have h0:=Aio (b:=b) m hp;have h1:=Aip hb m he;unfold Bldg.tup Img.tup at h0 h1;simp only[o_,H,h0,a_,n_];cases m.F0.all (I 0 4)with
     |false=>rfl
     |true=>
      simp only[g8_,h1,a_,n_];cases EB b O m.A0<;>rfl
theorem Qf(hp:m.F0.length≤maxLen)(he:m.A0.length≤maxLen):GZ b.C0 b.E0 b.H0 b.M0 b.J0 b.L0 b.N0 b.B0 m.F0 m.O0 m.K0 m.A0=E ((m.ok b,()),()):=by
 unfold GZ Img.ok;rw[Ea];simp only[a_,bne];cases b.code==0 with
 |false=>rfl
 |true=>
  cases hq:(m.F0.length:Int)==(b.B0.length:Int)with
  |false=>rfl
  |true=>
   cases(m.O0.length:Int)==(b.B0.length:Int)with
   |false=>rfl
   |true=>
    cases(m.K0.length:Int)==(b.B0.length:Int)with
    |false=>rfl
    |true=>
     have hq':(m.F0.length:Int)=(b.B0.length:Int):=by simpa using hq
     have h0:=Ai2 (b:=b) m (b.B0.length:Int) hq'.symm hp;have h1:=Ai3 hb m (b.B0.length:Int) rfl he;unfold Bldg.tup Img.tup at h0 h1;simp only[o_,H,h0,a_,n_];cases m.F0.all (I 0 4)with
     |false=>rfl
     |true=>
      simp only[g8_,h1,a_,n_];cases EB b O m.A0<;>rfl
end
def Aht(n lo hi:Int):NN n lo hi=E ((I lo hi n,()),()):=by
 unfold NN I;cases decide (lo≤n)<;>rfl
def Ta(b:L)(r:aA):Bool:=I 0 ((b.B0.length:Int)-1) r.Q0&&(r.D0==0&&r.I0==0)
def Az(b:L)(r:aA):Bool:=
 b.code==0&&(bif r.S0==1 then An b r.D0 r.I0&&(r.Q0==0&&r.U1==0)
 else bif r.S0==2 then An b r.D0 r.I0&&(r.Q0==0&&r.U1==0)
 else bif r.S0==3 then An b r.D0 r.I0&&(I (-2) ((b.B0.length:Int)-1) r.Q0&&r.U1==0)
 else bif r.S0==4 then Ta b r&&I 0 4 r.U1
 else bif r.S0==5 then Ta b r&&I 0 1 r.U1
 else bif r.S0==6 then Ta b r&&I 0 1 r.U1
 else bif r.S0==7 then An b r.D0 r.I0&&(I 0 1 r.Q0&&I 0 255 r.U1)
 else A)
def Amq(hb:b.small)(hc:b.B0.length≤100)(r:aA):La b.C0 b.E0 b.H0 b.M0 b.J0 b.L0 b.N0 b.B0 r.S0 r.D0 r.I0 r.Q0 r.U1=E ((Az b r,()),()):=by
  have w:N.wrap ((b.B0.length:Int)-1)=(b.B0.length:Int)-1:=Ac ω ω
  unfold La Az Ta;rw[Ea,KV hb,Aht,w];simp only[a_,bne,Aht];cases b.code==0 with
  |false=>rfl
  |true=>
    simp only[o_,H,n_]
    have k:∀(q:Bool) {x y z:Option ((Bool×Unit)×Unit)}{u v:Bool},(q=B→x=E ((u,()),()))→(q=A→y=E ((v,()),()))→(bif q then x else y)=E (((bif q then u else v),()),()):=λq _ _ _ _ _ h1 h2=>by
      cases q
      · exact h2 rfl
      · exact h1 rfl
    cases I 0 ((b.B0.length:Int)-1) r.Q0<;>cases r.D0==0<;>cases r.I0==0<;>
      (simp only[J,H,a_,a4_,c9_,c0_,a2_,n_]
       refine k _ (z:=O) (λ_=>?_) λ_=>k _ (z:=O) (λ_=>?_) λ_=>k _ (z:=O) (λ_=>?_) λ_=>k _ (z:=O) (λ_=>?_) λ_=>k _ (z:=O) (λ_=>?_) λ_=>k _ (z:=O) (λ_=>?_) λ_=>k _ (z:=O) (λ_=>?_) λ_=>?_
       all_goals first
         |rfl
         |(cases An b r.D0 r.I0<;>cases r.Q0==0<;>rfl)
         |(cases An b r.D0 r.I0<;>cases I 0 1 r.Q0<;>rfl)
         |(rw[w];cases An b r.D0 r.I0<;>cases I (-2) ((b.B0.length:Int)-1) r.Q0<;>rfl))
def isC(F D:Int)(e:C):Bool:=e.D0==F&&e.I0==D
def Dy(F D:Int):List C→Nat→Int
 |[],_=>-1
 |e::t,i=>bif isC F D e then(i:Int)else Dy F D t (i+1)
def Wf(F D:Int):∀(l:List C) (i:Nat),(Dy F D l i=-1∧∀e∈l,isC F D e=A)∨∃k:Nat,k<l.length∧Dy F D l i=((i+k:Nat):Int)∧isC F D (l.getD k noE)=B
 |[],_=>.inl ⟨rfl,λ_ h=>by cases h⟩
 |e::t,i=>by
  simp only[Dy];cases h:isC F D e with
  |true=>exact .inr ⟨0,by simp,rfl,h⟩
  |false=>
   rcases Wf F D t (i+1)with⟨h1,h2⟩ | ⟨k,h1,h2,h3⟩
   ·refine .inl ⟨h1,λx hx=>?_⟩
    rcases z_.1 hx with rfl | hx
    ·exact h
    ·exact h2 x hx
   ·refine .inr ⟨k+1,by simp;omega,?_,h3⟩
    rw[H,h2];congr 1;omega
def Hk(e:C):Bool→List C→List C
 |d,[]=>bif d then []else [e]
 |true,x::t=>x::Hk e B t
 |false,x::t=>bif Bk e x then e::x::Hk e B t else x::Hk e A t
def Aaw(e:C):∀(l:List C) (d:Bool),(Hk e d l).length≤l.length+1
 |[],B=>by simp[Hk]
 |[],A=>by simp[Hk]
 |x::t,B=>by simp only[Hk,y_];have:=Aaw e t B;omega
 |x::t,A=>by
  simp only[Hk];cases Bk e x with
  |true=>
   simp only[J,y_]
   have:∀t:List C,Hk e B t=t:=λt=>by
    induction t with
    |nil=>rfl
    |cons a t ih=>simp only[Hk,ih]
   rw[this];omega
  |false=>simp only[H,y_];have:=Aaw e t A;omega
def Uc(e:C):∀t:List C,Hk e B t=t
 |[]=>rfl
 |a::t=>by simp only[Hk,Uc e t]
def Img.put(m:Img)(l:List C):Img:=⟨m.F0,m.O0,m.K0,l⟩
def Ad2(e:C)(c:Int):C:=⟨e.D0,e.I0,c,e.B1,e.Y1⟩
def Tv(e:C)(n c:Int):C:=⟨e.D0,e.I0,e.Q0,n,c==1⟩
def Ao(m:Img)(r:aA):Img:=
 bif r.S0==4 then⟨m.F0.set r.Q0.toNat r.U1,m.O0,m.K0,m.A0⟩
 else bif r.S0==5 then⟨m.F0,m.O0.set r.Q0.toNat (r.U1==1),m.K0,m.A0⟩
 else bif r.S0==6 then⟨m.F0,m.O0,m.K0.set r.Q0.toNat (r.U1==1),m.A0⟩
 else bif Dy r.D0 r.I0 m.A0 0==-1 then(bif r.S0==1 then m.put (Hk ⟨r.D0,r.I0,-1,0,A⟩ A m.A0)else m)
 else bif r.S0==2 then m.put (m.A0.take (Dy r.D0 r.I0 m.A0 0).toNat++m.A0.drop ((Dy r.D0 r.I0 m.A0 0).toNat+1))
 else bif r.S0==3 then m.put (m.A0.set (Dy r.D0 r.I0 m.A0 0).toNat (Ad2 (m.A0.getD (Dy r.D0 r.I0 m.A0 0).toNat noE) r.Q0))
 else bif r.S0==7 then m.put (m.A0.set (Dy r.D0 r.I0 m.A0 0).toNat (Tv (m.A0.getD (Dy r.D0 r.I0 m.A0 0).toNat noE) r.U1 r.Q0))
 else m
def Xs(b:L)(m:Img)(r:aA):(Unit×Int×Unit)×((List Int×List Bool×List Bool×List C×Unit)×Unit):=
 bif m.ok b&&Az b r then(((),0,()),((Ao m r).tup,()))else(((),1,()),(Img.none.tup,()))
def Aue(h:Az b r=B)(hk:r.S0=4∨r.S0=5∨r.S0=6):0≤r.Q0∧r.Q0<(b.B0.length:Int):=by
  unfold Az Ta at h;have k:∀q:Bool,(r.Q0≥0∧r.Q0≤(b.B0.length:Int)-1)→0≤r.Q0∧r.Q0<(b.B0.length:Int):=λ_ h=>by omega
  rcases hk with hk | hk | hk<;>rw[hk]at h<;>
    (simp only[e_]at h
     have h':=h.2;simp only[show((4:Int)==1)=A from rfl,show((4:Int)==2)=A from rfl,show((4:Int)==3)=A from rfl,show((5:Int)==1)=A from rfl,show((5:Int)==2)=A from rfl,show((5:Int)==3)=A from rfl,show((5:Int)==4)=A from rfl,show((6:Int)==1)=A from rfl,show((6:Int)==2)=A from rfl,show((6:Int)==3)=A from rfl,show((6:Int)==4)=A from rfl,show((6:Int)==5)=A from rfl,l_,H,J,e_]at h'
     have:=Am.1 h'.1.1
     exact k B ⟨this.1,this.2⟩)
section
variable{b:L}(hb:b.small)(m:Img)(hm:m.A0.length≤1000)(r:aA)
include hb hm
end
def Hs{a:C}:Bk a c=B↔a.D0<c.D0∨(a.D0=c.D0∧a.I0<c.I0):=by
 unfold Bk;simp only[a6_,e_,A_,U_]
def QH{a d:C}(h:Bk a c=B)(h':Bk c d=B):Bk a d=B:=by
 rw[Hs]at*;omega
def HL(e:C):Int×Int:=(e.D0,e.I0)
def ltC(a c:Int×Int):Prop:=a.1<c.1∨(a.1=c.1∧a.2<c.2)
def Bq(l:List C):Prop:=(l.map HL).Pairwise ltC
def El:Bq l↔l.Pairwise λx y=>Bk x y=B:=by
 unfold Bq;rw[List.pairwise_map];exact⟨λh=>h.imp λhh=>Hs.2 hh,λh=>h.imp λhh=>Hs.1 hh⟩
def Agy{b:L}:∀{l:List C}{p:Option C},EB b p l=B↔(∀e∈l,GQ b e=B)∧Bq l∧(∀q,p=E q→∀e∈l,Bk q e=B)
 |[],p=>by simp[EB,Bq]
 |a::t,p=>by
  simp only[EB,e_];rw[Agy (l:=t),El,El,g1_];constructor
  ·rintro⟨h1,h2,h3,h4,h5⟩
   refine⟨λe he=>?_,⟨λe he=>h5 a rfl e he,h4⟩,λq hq e he=>?_⟩
   ·rcases z_.1 he with rfl | he
    ·exact h1
    ·exact h3 e he
   ·subst hq
    simp only at h2;rcases z_.1 he with rfl | he
    ·exact h2
    ·exact QH h2 (h5 a rfl e he)
  ·rintro⟨h1,⟨h2,h3⟩,h4⟩
   refine⟨h1 a (B_ ..),?_,λe he=>h1 e (F_ _ he),h3,λq hq e he=>?_⟩
   ·cases p with
    |none=>rfl
    |some q=>exact h4 q rfl a (B_ ..)
   ·obtain rfl:=M_ hq
    exact h2 e he
def Aco:EB b O l=B↔(∀e∈l,GQ b e=B)∧Bq l:=by
 rw[Agy];exact⟨λh=>⟨h.1,h.2.1⟩,λh=>⟨h.1,h.2,λ_ hq=>by cases hq⟩⟩
def At2(h:Bq l)(k:Nat):Bq (l.take k++l.drop (k+1)):=by
 rw[El]at*;exact h.sublist (by rw[← List.eraseIdx_eq_take_drop_succ];exact List.eraseIdx_sublist ..)
def Al4(hk:k<l.length)(he:HL e=HL (l.getD k noE)):(l.set k e).map HL=l.map HL:=by
 rw[List.map_set,he];apply List.ext_getElem?;intro i;rw[List.getElem?_set];by_cases h:k=i
 ·subst h
  rw[if_pos rfl];simp[hk,k_]
 ·rw[if_neg h]
def Ad6(h:Bq l)(hk:k<l.length)(he:HL e=HL (l.getD k noE)):Bq (l.set k e):=by
 unfold Bq at*;rw[Al4 hk he];exact h
def Aa8{e x:C}:∀{l:List C},x∈Hk e A l→x=e∨x∈l
 |[],h=>by simp[Hk]at h;exact .inl h
 |a::t,h=>by
  simp only[Hk]at h;cases hq:Bk e a with
  |true=>
   rw[hq,J,Uc]at h;rcases z_.1 h with h | h
   ·exact .inl h
   ·exact .inr h
  |false=>
   rw[hq,H]at h;rcases z_.1 h with h | h
   ·exact .inr (by rw[h];exact B_ ..)
   ·rcases Aa8 h with h | h
    ·exact .inl h
    ·exact .inr (F_ _ h)
def Ad5{e:C}:∀{l:List C},Bq l→(∀x∈l,isC e.D0 e.I0 x=A)→Bq (Hk e A l)
 |[],_,_=>by simp[Hk,Bq]
 |a::t,h,hn=>by
  rw[El]at*;obtain⟨h1,h2⟩:=g1_.1 h;simp only[Hk];cases hq:Bk e a with
  |true=>
   rw[J,Uc];refine g1_.2 ⟨λx hx=>?_,h⟩
   rcases z_.1 hx with rfl | hx
   ·exact hq
   ·exact QH hq (h1 x hx)
  |false=>
   rw[H];refine g1_.2 ⟨λx hx=>?_,El.1 (Ad5 (El.2 h2) λx hx=>hn x (F_ _ hx))⟩
   rcases Aa8 hx with rfl | hx
   ·rw[Hs]
    have h3:¬(x.D0<a.D0∨(x.D0=a.D0∧x.I0<a.I0)):=λhh=>by rw[Hs.2 hh]at hq;cases hq
    have h4:=hn a (B_ ..);unfold isC at h4;simp only[Bool.and_eq_false_iff,beq_eq_false_iff_ne]at h4;omega
   ·exact h1 x hx
structure ImgOK(b:Bldg)(m:Img):Prop where
 code:b.code=0
 lp:m.F0.length=b.B0.length
 lf:m.O0.length=b.B0.length
 ll:m.K0.length=b.B0.length
 ph:∀p∈m.F0,0≤p∧p≤4
 en:∀e∈m.A0,GQ b e=true
 so:Bq m.A0
def Img.ok_iff{m:Img}:m.ok b=B↔ImgOK b m:=by
 unfold Img.ok;simp only[e_,U_];constructor
 ·rintro⟨h0,h1,h2,h3,h4,h5⟩
  have h6:=Aco.1 h5;exact⟨h0,ω,ω,ω,λp hp=>Am.1 (D_.1 h4 p hp),h6.1,h6.2⟩
 ·rintro⟨h0,h1,h2,h3,h4,h5,h6⟩
  exact⟨h0,ω,ω,ω,D_.2 λp hp=>Am.2 (h4 p hp),Aco.2 ⟨h5,h6⟩⟩
def EA:GQ b e=B↔An b e.D0 e.I0=B∧(-2≤e.Q0∧e.Q0<(b.B0.length:Int))∧0≤e.B1∧e.B1≤255:=by
 unfold GQ;simp only[e_,A_];constructor
 ·rintro⟨h1,h2,h3,h4,h5⟩;exact⟨h1,⟨h2,h3⟩,h4,h5⟩
 ·rintro⟨h1,⟨h2,h3⟩,h4,h5⟩;exact⟨h1,h2,h3,h4,h5⟩
def Afp{α:Type}{l:List α}{a x:α}(h:x∈l.set k a):x=a∨x∈l:=by
 rcases List.mem_or_eq_of_mem_set h with h | h
 ·exact .inr h
 ·exact .inl h
def ZS(h:Az b r=B):b.code=0∧
    ((r.S0=1∧An b r.D0 r.I0=B∧r.Q0=0∧r.U1=0)∨(r.S0=2∧An b r.D0 r.I0=B∧r.Q0=0∧r.U1=0)∨
     (r.S0=3∧An b r.D0 r.I0=B∧(-2≤r.Q0∧r.Q0<(b.B0.length:Int))∧r.U1=0)∨
     (r.S0=4∧(0≤r.Q0∧r.Q0<(b.B0.length:Int))∧(0≤r.U1∧r.U1≤4))∨
     (r.S0=5∧(0≤r.Q0∧r.Q0<(b.B0.length:Int))∧(0≤r.U1∧r.U1≤1))∨
     (r.S0=6∧(0≤r.Q0∧r.Q0<(b.B0.length:Int))∧(0≤r.U1∧r.U1≤1))∨
     (r.S0=7∧An b r.D0 r.I0=B∧(0≤r.Q0∧r.Q0≤1)∧(0≤r.U1∧r.U1≤255))):=by
  unfold Az Ta at h;simp only[e_,U_]at h;obtain⟨h0,h⟩:=h;refine⟨h0,?_⟩;by_cases k1:r.S0=1
  · rw[k1]at h;simp only[l_,J,e_,U_]at h;exact .inl ⟨k1,h.1,h.2⟩
  rw[Ar k1,H]at h;by_cases k2:r.S0=2
  · rw[k2]at h;simp only[l_,J,e_,U_]at h;exact .inr (.inl ⟨k2,h.1,h.2⟩)
  rw[Ar k2,H]at h;by_cases k3:r.S0=3
  · rw[k3]at h;simp only[l_,J,e_,U_,Am]at h;exact .inr (.inr (.inl ⟨k3,h.1,ω,h.2.2⟩))
  rw[Ar k3,H]at h;by_cases k4:r.S0=4
  · rw[k4]at h;simp only[l_,J,e_,U_,Am]at h;exact .inr (.inr (.inr (.inl ⟨k4,ω,h.2⟩)))
  rw[Ar k4,H]at h;by_cases k5:r.S0=5
  · rw[k5]at h;simp only[l_,J,e_,U_,Am]at h;exact .inr (.inr (.inr (.inr (.inl ⟨k5,ω,h.2⟩))))
  rw[Ar k5,H]at h;by_cases k6:r.S0=6
  · rw[k6]at h;simp only[l_,J,e_,U_,Am]at h;exact .inr (.inr (.inr (.inr (.inr (.inl ⟨k6,ω,h.2⟩)))))
  rw[Ar k6,H]at h;by_cases k7:r.S0=7
  · rw[k7]at h;simp only[l_,J,e_,Am]at h;exact .inr (.inr (.inr (.inr (.inr (.inr ⟨k7,h.1,h.2.1,h.2.2⟩)))))
  rw[Ar k7]at h;cases h
def Adq{m:Img}(h:ImgOK b m)(h1:∀e∈l,GQ b e=B)(h2:Bq l):ImgOK b (m.put l):=⟨h.code,h.lp,h.lf,h.ll,h.ph,h1,h2⟩
def QT{m:Img}(h:ImgOK b m)(hv:Az b r=B):ImgOK b (Ao m r)∧(Ao m r).A0.length≤m.A0.length+1:=by
 obtain⟨_,hk⟩:=ZS hv;unfold Ao;by_cases k4:r.S0=4
 ·rw[show(r.S0==4)=B by rw[k4];rfl]
  refine⟨⟨h.code,by show(m.F0.set _ _).length=_;rw[r_];exact h.lp,h.lf,h.ll,λp hp=>?_,h.en,h.so⟩,aB _⟩
  rcases Afp hp with rfl | hp
  ·omega
  ·exact h.ph p hp
 rw[Ar k4,H];by_cases k5:r.S0=5
 ·rw[show(r.S0==5)=B by rw[k5];rfl]
  exact⟨⟨h.code,h.lp,by show(m.O0.set _ _).length=_;rw[r_];exact h.lf,h.ll,h.ph,h.en,h.so⟩,aB _⟩
 rw[Ar k5,H];by_cases k6:r.S0=6
 ·rw[show(r.S0==6)=B by rw[k6];rfl]
  exact⟨⟨h.code,h.lp,h.lf,by show(m.K0.set _ _).length=_;rw[r_];exact h.ll,h.ph,h.en,h.so⟩,aB _⟩
 rw[Ar k6,H];rcases Wf r.D0 r.I0 m.A0 0 with⟨h1,h2⟩ | ⟨k,h1,h2,h3⟩
 ·rw[h1,show((-1:Int)==-1)=B from rfl,J]
  by_cases k1:r.S0=1
  ·rw[show(r.S0==1)=B by rw[k1];rfl,J]
   refine⟨Adq h (λe he=>?_) (Ad5 h.so h2),Aaw _ _ _⟩
   rcases Aa8 he with rfl | he
   ·rw[EA]
    have hc:An b r.D0 r.I0=B:=by
     rcases hk with hk | hk | hk | hk | hk | hk | hk
     ·exact hk.2.1
     all_goals omega
    exact⟨hc,⟨by show(-2:Int)≤-1;omega,by show(-1:Int)<_;omega⟩,by show(0:Int)≤0;omega,by show(0:Int)≤255;omega⟩
   ·exact h.en e he
  ·rw[Ar k1,H];exact⟨h,aB _⟩
 ·rw[p_]at h2
  rw[h2,Ar (ω:¬(k:Int)=-1),H,j_]
  have hmem:=Cn noE h1;have hent:=EA.1 (h.en _ hmem);cases r.S0==2 with
  |true=>
   refine⟨Adq h (λe he=>?_) (At2 h.so k),?_⟩
   ·rcases q_.1 he with he | he
    ·exact h.en e (e5_ he)
    ·exact h.en e (e6_ he)
   ·show(m.A0.take k++m.A0.drop (k+1)).length≤_
    rw[h_,v_,Y_];omega
  |false=>
   rw[H];by_cases k3:r.S0=3
   ·rw[show(r.S0==3)=B by rw[k3];rfl,J]
    refine⟨Adq h (λe he=>?_) (Ad6 h.so h1 rfl),by show(m.A0.set _ _).length≤_;rw[r_];omega⟩
    rcases Afp he with rfl | he
    ·rw[EA]
     refine⟨hent.1,?_,hent.2.2⟩;show -2≤r.Q0∧r.Q0<_;rcases hk with hk | hk | hk | hk | hk | hk | hk
     all_goals first
      |exact hk.2.2.1
      |omega
    ·exact h.en e he
   ·rw[Ar k3,H]
    by_cases k7:r.S0=7
    ·rw[show(r.S0==7)=B by rw[k7];rfl,J]
     refine⟨Adq h (λe he=>?_) (Ad6 h.so h1 rfl),by show(m.A0.set _ _).length≤_;rw[r_];omega⟩
     rcases Afp he with rfl | he
     ·rw[EA]
      refine⟨hent.1,hent.2.1,?_⟩;show 0≤r.U1∧r.U1≤255;rcases hk with hk | hk | hk | hk | hk | hk | hk
      all_goals first
       |exact hk.2.2.2
       |omega
     ·exact h.en e he
    ·rw[Ar k7,H];exact⟨h,aB _⟩
def Gw(b:L):Img:=⟨List.replicate b.B0.length 0,List.replicate b.B0.length A,List.replicate b.B0.length A,[]⟩
def Af2(hcode:b.code=0)(hc:b.B0.length≤100):Np b.C0 b.E0 b.H0 b.M0 b.J0 b.L0 b.N0 b.B0=E (((),()),((Gw b).tup,())):=by
 unfold Np;rw[Ea,hcode];simp only[a_,Q_,H,b_ (ω:(0:Int)≤(b.B0.length:Int)),b_ (d7_ (b.B0.length:Int)),b_ (ω:(b.B0.length:Int)≤2147483648),a4_,J,j_]
 rfl
def Aau(hcode:b.code=0):ImgOK b (Gw b):=
 ⟨hcode,S_,S_,S_,(λp hp=>by rw[List.eq_of_mem_replicate hp];omega),(λ_ h=>by cases h),by simp[Gw,Bq]⟩
def Ak(m:Img):List aA→Img
 |[]=>m
 |r::t=>Ak (Ao m r) t
def TM{b:L}:∀{rs:List aA}{m:Img},ImgOK b m→(∀r∈rs,Az b r=B)→ImgOK b (Ak m rs)∧(Ak m rs).A0.length≤m.A0.length+rs.length
 |[],_,h,_=>⟨h,w_ _⟩
 |r::t,m,h,hv=>by
  obtain⟨h1,h2⟩:=QT h (hv r (B_ ..));obtain⟨h3,h4⟩:=TM (rs:=t) h1 λx hx=>hv x (F_ _ hx)
  exact⟨h3,by show(Ak (Ao m r) t).A0.length≤_;rw[y_];omega⟩
def Abh(n lo hi:Int):Fm n lo hi=E ((I lo hi n,()),()):=by
 unfold Fm I;cases decide (lo≤n)<;>rfl
def Ul(hb:b.small)(hc:b.B0.length≤100)(r:aA):Jy b.C0 b.E0 b.H0 b.M0 b.J0 b.L0 b.N0 b.B0 r.S0 r.D0 r.I0 r.Q0 r.U1=E ((Az b r,()),()):=by
  have w:N.wrap ((b.B0.length:Int)-1)=(b.B0.length:Int)-1:=Ac ω ω
  unfold Jy Az Ta;rw[Bg,LU hb];simp only[a_,bne,Abh,w];cases b.code==0 with
  |false=>rfl
  |true=>
    simp only[o_,H,n_]
    cases I 0 ((b.B0.length:Int)-1) r.Q0<;>cases r.D0==0<;>cases r.I0==0<;>
      (simp only[a_,J,H,a4_,c9_,c0_,a2_,n_,w]
       by_cases k1:r.S0=1
       · simp only[k1,l_,J]
         cases An b r.D0 r.I0<;>cases r.Q0==0<;>rfl
       by_cases k2:r.S0=2
       · simp only[k2,l_,J,H,show((2:Int)==1)=A from rfl]
         cases An b r.D0 r.I0<;>cases r.Q0==0<;>rfl
       by_cases k3:r.S0=3
       · simp only[k3,l_,J,H,show((3:Int)==1)=A from rfl,show((3:Int)==2)=A from rfl]
         cases An b r.D0 r.I0<;>cases I (-2) ((b.B0.length:Int)-1) r.Q0<;>rfl
       by_cases k4:r.S0=4
       · simp only[k4,l_,J,H,show((4:Int)==1)=A from rfl,show((4:Int)==2)=A from rfl,show((4:Int)==3)=A from rfl,show((4:Int)==7)=A from rfl]
       by_cases k5:r.S0=5
       · simp only[k5,l_,J,H,show((5:Int)==1)=A from rfl,show((5:Int)==2)=A from rfl,show((5:Int)==3)=A from rfl,show((5:Int)==7)=A from rfl,show((5:Int)==4)=A from rfl]
       by_cases k6:r.S0=6
       · simp only[k6,l_,J,H,show((6:Int)==1)=A from rfl,show((6:Int)==2)=A from rfl,show((6:Int)==3)=A from rfl,show((6:Int)==7)=A from rfl,show((6:Int)==4)=A from rfl,show((6:Int)==5)=A from rfl]
       by_cases k7:r.S0=7
       · simp only[k7,l_,J,H,show((7:Int)==1)=A from rfl,show((7:Int)==2)=A from rfl,show((7:Int)==3)=A from rfl,show((7:Int)==4)=A from rfl,show((7:Int)==5)=A from rfl,show((7:Int)==6)=A from rfl]
         cases An b r.D0 r.I0<;>cases I 0 1 r.Q0<;>rfl
       simp only[Ar k1,Ar k2,Ar k3,Ar k4,Ar k5,Ar k6,Ar k7,H])
def Yd(m:Img)(h1:m.F0.length≤100000)(h2:m.O0.length≤100000)(h3:m.K0.length≤100000)(h4:m.A0.length≤100000):MX m.F0 m.O0 m.K0 m.A0=E (((),()),(m.tup,())):=by
 have k:∀{α:Type}(l:List α),l.length≤100000→Pl l=E ((l,()),()):=λl h=>by
  unfold Pl;rw[Ax (ω:l.length≤2147483648)];rfl
 unfold MX BF Bd Bl;rw[k _ h1,k _ h2,k _ h3,k _ h4];rfl
def AA(c:C):List C→Nat
 |[]=>0
 |e::t=>bif Bk e c then AA c t+1 else 0
def SF(c:C):∀l:List C,AA c l≤l.length
 |[]=>w_ _
 |e::t=>by
  have:=SF c t
  simp only[AA,y_];cases Bk e c<;>simp<;>omega
def Afx(c:C):∀(l:List C) (k:Nat),k<AA c l→Bk (l.getD k noE) c=B
 |[],k,h=>by simp[AA]at h
 |e::t,k,h=>by
  simp only[AA]at h;cases he:Bk e c with
  |false=>rw[he]at h;simp at h
  |true=>
   rw[he]at h;cases k with
   |zero=>exact he
   |succ k=>exact Afx c t k (by simp at h;omega)
def Afw{c:C}:∀{l:List C},Bq l→∀k,AA c l≤k→k<l.length→Bk (l.getD k noE) c=A
 |[],_,k,_,h=>by simp at h
 |e::t,hs,k,h1,h2=>by
  obtain⟨a1,a2⟩:=g1_.1 (El.1 hs);simp only[AA]at h1;cases he:Bk e c with
  |true=>
   rw[he,J]at h1;cases k with
   |zero=>omega
   |succ k=>exact Afw (El.2 a2) k ω (by simp at h2;omega)
  |false=>
   cases k with
   |zero=>exact he
   |succ k=>
    cases hq:Bk ((e::t).getD (k+1) noE) c with
    |false=>rfl
    |true=>
     have hm:t.getD k noE∈t:=Cn noE (by simp at h2;omega)
     have:=QH (a1 _ hm) hq
     rw[he]at this;cases this
def Ww{a:C}(h:isC c.D0 c.I0 a=B):Bk a c=A∧Bk c a=A:=by
 unfold isC at h;simp only[e_,U_]at h;constructor
 all_goals
  apply Bool.eq_false_iff.2;intro hh;rw[Hs]at hh;omega
def Alz{a:C}(h:isC c.D0 c.I0 a=A)(h':Bk a c=A):Bk c a=B:=by
 rw[Hs];have h1:¬(a.D0<c.D0∨(a.D0=c.D0∧a.I0<c.I0)):=λhh=>by rw[Hs.2 hh]at h';cases h'
 unfold isC at h;simp only[Bool.and_eq_false_iff,beq_eq_false_iff_ne]at h;omega
def Ahl{a:C}(h:Bk a c=B):Bk c a=A:=by
 apply Bool.eq_false_iff.2;intro hh;rw[Hs]at*;omega
def We{F D:Int}:∀{l:List C}{i:Nat},(∀x∈l,isC F D x=A)→Dy F D l i=-1
 |[],_,_=>rfl
 |e::t,i,h=>by
  simp only[Dy];rw[h e (B_ ..),H];exact We λx hx=>h x (F_ _ hx)
def FN(c:C)(l:List C):Bool:=Nat.blt (AA c l) l.length&&isC c.D0 c.I0 (l.getD (AA c l) noE)
def Ri{c:C}:∀{l:List C}(i:Nat),Bq l→Dy c.D0 c.I0 l i=bif FN c l then((i+AA c l:Nat):Int)else -1
 |[],_,_=>rfl
 |e::t,i,hs=>by
  obtain⟨a1,a2⟩:=g1_.1 (El.1 hs);have hpos:AA c (e::t)=bif Bk e c then AA c t+1 else 0:=rfl;unfold FN;simp only[Dy];rw[hpos];cases he:isC c.D0 c.I0 e with
  |true=>
   rw[(Ww he).1];simp[he,show Nat.blt 0 (t.length+1)=B from rfl]
  |false=>
   cases hl:Bk e c with
   |true=>
    rw[H,J,Ri (i+1) (El.2 a2)];unfold FN;rw[show((e::t).getD (AA c t+1) noE)=t.getD (AA c t) noE from rfl,y_,show Nat.blt (AA c t+1) (t.length+1)=Nat.blt (AA c t) t.length from rfl]
    rw[show i+1+AA c t=i+(AA c t+1)by omega]
   |false=>
    rw[H,H,show((e::t).getD 0 noE)=e from rfl,he,c0_,H]
    refine We λx hx=>?_
    cases hq:isC c.D0 c.I0 x with
    |false=>rfl
    |true=>
     have h1:=QH (Alz he hl) (a1 x hx);rw[(Ww hq).2]at h1;cases h1
def Aax{c:C}:∀{l:List C},(∀x∈l,isC c.D0 c.I0 x=A)→Hk c A l=l.take (AA c l)++[c]++l.drop (AA c l)
 |[],_=>rfl
 |e::t,h=>by
  simp only[Hk,AA];cases hl:Bk e c with
  |true=>
   rw[Ahl hl,H,Aax λx hx=>h x (F_ _ hx)]
   simp
  |false=>
   rw[Alz (h e (B_ ..)) hl,J,Uc];simp
def Ahe(hs:Bq l)(h:FN c l=A):∀x∈l,isC c.D0 c.I0 x=A:=by
 have h1:=Ri (c:=c) 0 hs;rw[h,H]at h1;rcases Wf c.D0 c.I0 l 0 with⟨_,h2⟩ | ⟨k,_,h2,_⟩
 ·exact h2
 ·rw[h1]at h2;omega
end Go.Ovl
