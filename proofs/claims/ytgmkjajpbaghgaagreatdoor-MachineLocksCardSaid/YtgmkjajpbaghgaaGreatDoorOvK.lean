/- Debounced contacts (layer 4): runs; the program and the reference do the same. -/
import Derived.Test.YtgmkjajpbaghgaaGreatDoorOvJ
import Derived.Test.YtgmkjajpbaghgaaGreatDoorOvI
set_option linter.all false
open Go.Ovl.Sat renaming ret->A,bifT->C,bindS->D,bic->J,bindE->aB
open Bool renaming false->B,true->E
open Go.Ovl renaming Pk->H,Record->I,Sat->R,Bldg->U,Debounced->aC
open Go.Ab renaming inB->N
open Option renaming some->S
open Int renaming toNat->aA
namespace Go.Ovl
open Go Go.Ab
set_option maxRecDepth 100000
variable{b:U}{l:List I}{t:H}{n:Int}{s:Deb}{i:Nat}{r:Contacts}{z:aC}{m:Img}
noncomputable instance isDeb_ti(n:Int)(s:Deb):Decidable (s.is n):=Classical.propDecidable _
def Deb.rng(n:Int)(s:Deb):Prop:=∀j,j<36→0≤s.k.getD j 0∧s.k.getD j 0<n
noncomputable instance rngDeb_ti(n:Int)(s:Deb):Decidable (s.rng n):=Classical.propDecidable _
def Awv:s.is n↔1≤n∧n≤16∧s.rng n:=Iff.rfl
def Aho(h:s.wf)(hs:s.is n)(hr:r.wf):
  FV ((n,(),(),(),(0:Int),()),(s.tup,r.tup,Deb.no.tup,()))=S (((),(),()),((s.step n r).tup,Deb.no.tup,())):=by
 unfold FV;refine Ai (AQ 36 (λ(i:Nat) (s:Deb)=>((n,(),(),(),(i:Int),()),(s.tup,r.tup,Deb.no.tup,()))) (Deb.at n r) (λ_ s=>s.wf∧s.is n) (λs=>(((),(),()),(s.tup,Deb.no.tup,()))) (λi s hi hin=>⟨Ahn hin.1 hin.2 hr Deb.no hi,Ap6 hin.1 hin.2 hi⟩) (λs hin=>?_) 36 0 s rfl ⟨h,hs⟩).1 ω
 show HA n ((36:Nat):Int) s.c.C0 s.c.Up s.c.Q3 s.c.Q5 s.c.Y3 (s.k.getD 0 0) (s.k.getD 1 0) (s.k.getD 2 0) (s.k.getD 3 0) (s.k.getD 4 0) (s.k.getD 5 0) (s.k.getD 6 0) (s.k.getD 7 0) (s.k.getD 8 0) (s.k.getD 9 0) (s.k.getD 10 0) (s.k.getD 11 0) (s.k.getD 12 0) (s.k.getD 13 0) (s.k.getD 14 0) (s.k.getD 15 0) (s.k.getD 16 0) (s.k.getD 17 0) (s.k.getD 18 0) (s.k.getD 19 0) (s.k.getD 20 0) (s.k.getD 21 0) (s.k.getD 22 0) (s.k.getD 23 0) (s.k.getD 24 0) (s.k.getD 25 0) (s.k.getD 26 0) (s.k.getD 27 0) (s.k.getD 28 0) (s.k.getD 29 0) (s.k.getD 30 0) (s.k.getD 31 0) (s.k.getD 32 0) (s.k.getD 33 0) (s.k.getD 34 0) (s.k.getD 35 0) r.C0 r.Up r.Q3 r.Q5 r.Y3 Deb.no.c.C0 Deb.no.c.Up Deb.no.c.Q3 Deb.no.c.Q5 Deb.no.c.Y3 (Deb.no.k.getD 0 0) (Deb.no.k.getD 1 0) (Deb.no.k.getD 2 0) (Deb.no.k.getD 3 0) (Deb.no.k.getD 4 0) (Deb.no.k.getD 5 0) (Deb.no.k.getD 6 0) (Deb.no.k.getD 7 0) (Deb.no.k.getD 8 0) (Deb.no.k.getD 9 0) (Deb.no.k.getD 10 0) (Deb.no.k.getD 11 0) (Deb.no.k.getD 12 0) (Deb.no.k.getD 13 0) (Deb.no.k.getD 14 0) (Deb.no.k.getD 15 0) (Deb.no.k.getD 16 0) (Deb.no.k.getD 17 0) (Deb.no.k.getD 18 0) (Deb.no.k.getD 19 0) (Deb.no.k.getD 20 0) (Deb.no.k.getD 21 0) (Deb.no.k.getD 22 0) (Deb.no.k.getD 23 0) (Deb.no.k.getD 24 0) (Deb.no.k.getD 25 0) (Deb.no.k.getD 26 0) (Deb.no.k.getD 27 0) (Deb.no.k.getD 28 0) (Deb.no.k.getD 29 0) (Deb.no.k.getD 30 0) (Deb.no.k.getD 31 0) (Deb.no.k.getD 32 0) (Deb.no.k.getD 33 0) (Deb.no.k.getD 34 0) (Deb.no.k.getD 35 0)=_;unfold HA;have e:decide (((36:Nat):Int)<36)=B:=rfl;rw[e];rfl
def Ahm(hl:s.k.length=36):Et ((n,s.cnt,(0:Int),()),())=S (if s.rng n then .inl ((),())else .inr ((B,()),())):=by
 unfold Et
 have key:∀(step:_→_),(∀i:Nat,step ((n,s.cnt,(i:Int),()),())=BC n (s.k.getD 0 0) (s.k.getD 1 0) (s.k.getD 2 0) (s.k.getD 3 0) (s.k.getD 4 0) (s.k.getD 5 0) (s.k.getD 6 0) (s.k.getD 7 0) (s.k.getD 8 0) (s.k.getD 9 0) (s.k.getD 10 0) (s.k.getD 11 0) (s.k.getD 12 0) (s.k.getD 13 0) (s.k.getD 14 0) (s.k.getD 15 0) (s.k.getD 16 0) (s.k.getD 17 0) (s.k.getD 18 0) (s.k.getD 19 0) (s.k.getD 20 0) (s.k.getD 21 0) (s.k.getD 22 0) (s.k.getD 23 0) (s.k.getD 24 0) (s.k.getD 25 0) (s.k.getD 26 0) (s.k.getD 27 0) (s.k.getD 28 0) (s.k.getD 29 0) (s.k.getD 30 0) (s.k.getD 31 0) (s.k.getD 32 0) (s.k.getD 33 0) (s.k.getD 34 0) (s.k.getD 35 0) (i:Int))→∀(m i:Nat),i+m=36→(∀j,j<i→0≤s.k.getD j 0∧s.k.getD j 0<n)→BN step (m+1) ((n,s.cnt,(i:Int),()),())=S (if s.rng n then Sum.inl ((),())else Sum.inr ((B,()),())):=by
  intro step hstep m
  induction m with
  |zero=>
   intro i hi hj
   have:i=36:=ω
   subst this;rw[if_pos (show s.rng n from hj)]
   refine Ay ?_;rw[hstep];unfold BC;have e:decide (((36:Nat):Int)<36)=B:=rfl;rw[e];rfl
  |succ m ih=>
   intro i hi hj;have e0:decide ((i:Int)<36)=E:=by simp;omega
   have ib:N (i:Int) 36=E:=Aa ω ω
   have tn:aA (i:Int)=i:=ω
   have w:IntKind.i64.wrap ((i:Int)+1)=((i+1:Nat):Int):=by rw[Ac ω ω];omega
   by_cases h1:s.k.getD i 0<0
   ·rw[if_neg (show ¬s.rng n from λhall=>by have:=(hall i ω).1;omega)]
    refine Ay ?_;rw[hstep];unfold BC;have e1:decide (s.k.getD i 0<0)=E:=by simpa using h1
    simp only[e0,ib,tn,UO hl,e1,d_]
   ·have e1:decide (s.k.getD i 0<0)=B:=by simpa using h1
    by_cases h2:n≤s.k.getD i 0
    ·rw[if_neg (show ¬s.rng n from λhall=>by have:=(hall i ω).2;omega)]
     refine Ay ?_;rw[hstep];unfold BC;have e2:decide (n≤s.k.getD i 0)=E:=by simpa using h2
     simp only[e0,ib,tn,UO hl,e1,e2,d_,c_]
    ·have e2:decide (n≤s.k.getD i 0)=B:=by simpa using h2
     have st:step ((n,s.cnt,(i:Int),()),())=S (.inl ((n,s.cnt,((i+1:Nat):Int),()),())):=by
      rw[hstep];unfold BC;simp only[e0,ib,tn,UO hl,e1,e2,d_,c_,w];rfl
     rw[Bs st];exact ih (i+1) ω λj hj'=>if e:j=i then by subst e;omega else hj j ω
 exact Ai (key _ (λ_=>rfl) 36 0 rfl (λj hj=>by omega)) ω
def Vc(hl:s.k.length=36):Eg n s.c.C0 s.c.Up s.c.Q3 s.c.Q5 s.c.Y3 (s.k.getD 0 0) (s.k.getD 1 0) (s.k.getD 2 0) (s.k.getD 3 0) (s.k.getD 4 0) (s.k.getD 5 0) (s.k.getD 6 0) (s.k.getD 7 0) (s.k.getD 8 0) (s.k.getD 9 0) (s.k.getD 10 0) (s.k.getD 11 0) (s.k.getD 12 0) (s.k.getD 13 0) (s.k.getD 14 0) (s.k.getD 15 0) (s.k.getD 16 0) (s.k.getD 17 0) (s.k.getD 18 0) (s.k.getD 19 0) (s.k.getD 20 0) (s.k.getD 21 0) (s.k.getD 22 0) (s.k.getD 23 0) (s.k.getD 24 0) (s.k.getD 25 0) (s.k.getD 26 0) (s.k.getD 27 0) (s.k.getD 28 0) (s.k.getD 29 0) (s.k.getD 30 0) (s.k.getD 31 0) (s.k.getD 32 0) (s.k.getD 33 0) (s.k.getD 34 0) (s.k.getD 35 0)=S ((decide (s.is n),()),()):=by
 unfold Eg;by_cases h1:n<1
 ·have:¬s.is n:=λh=>by have:=h.1;omega
  simp[h1,this]
 ·have h1':1≤n:=ω
  by_cases h2:16<n
  ·have:¬s.is n:=λh=>by have:=h.2.1;omega
   simp[h1,h2,this]
  ·have h2':n≤16:=ω
   have hl':=Ahm (n:=n) hl;simp only[Deb.cnt]at hl';have e1:decide (n<1)=B:=by simpa using h1
   have e2:decide (16<n)=B:=by simpa using h2
   simp only[e1,e2,c_,hl',a_];by_cases h3:s.rng n
   ·rw[if_pos h3,b_ (Awv.2 ⟨h1',h2',h3⟩)]
   ·rw[if_neg h3,f_ λh=>h3 (Awv.1 h).2.2]
def YC(h:s.wf)(hs:s.is n)(hr:r.wf):LY n s.c.C0 s.c.Up s.c.Q3 s.c.Q5 s.c.Y3 (s.k.getD 0 0) (s.k.getD 1 0) (s.k.getD 2 0) (s.k.getD 3 0) (s.k.getD 4 0) (s.k.getD 5 0) (s.k.getD 6 0) (s.k.getD 7 0) (s.k.getD 8 0) (s.k.getD 9 0) (s.k.getD 10 0) (s.k.getD 11 0) (s.k.getD 12 0) (s.k.getD 13 0) (s.k.getD 14 0) (s.k.getD 15 0) (s.k.getD 16 0) (s.k.getD 17 0) (s.k.getD 18 0) (s.k.getD 19 0) (s.k.getD 20 0) (s.k.getD 21 0) (s.k.getD 22 0) (s.k.getD 23 0) (s.k.getD 24 0) (s.k.getD 25 0) (s.k.getD 26 0) (s.k.getD 27 0) (s.k.getD 28 0) (s.k.getD 29 0) (s.k.getD 30 0) (s.k.getD 31 0) (s.k.getD 32 0) (s.k.getD 33 0) (s.k.getD 34 0) (s.k.getD 35 0) r.C0 r.Up r.Q3 r.Q5 r.Y3=S (((),()),((s.step n r).tup,())):=by
 have hl:=Aho h hs hr;unfold LY;show(FV ((n,(),(),(),(0:Int),()),(s.tup,r.tup,Deb.no.tup,()))).bind _=_;rw[hl];rfl
def YB(h:s.k.length=36)(hc:s.c.wf)(hr:r.wf):
  Jf n s.c.C0 s.c.Up s.c.Q3 s.c.Q5 s.c.Y3 (s.k.getD 0 0) (s.k.getD 1 0) (s.k.getD 2 0) (s.k.getD 3 0) (s.k.getD 4 0) (s.k.getD 5 0) (s.k.getD 6 0) (s.k.getD 7 0) (s.k.getD 8 0) (s.k.getD 9 0) (s.k.getD 10 0) (s.k.getD 11 0) (s.k.getD 12 0) (s.k.getD 13 0) (s.k.getD 14 0) (s.k.getD 15 0) (s.k.getD 16 0) (s.k.getD 17 0) (s.k.getD 18 0) (s.k.getD 19 0) (s.k.getD 20 0) (s.k.getD 21 0) (s.k.getD 22 0) (s.k.getD 23 0) (s.k.getD 24 0) (s.k.getD 25 0) (s.k.getD 26 0) (s.k.getD 27 0) (s.k.getD 28 0) (s.k.getD 29 0) (s.k.getD 30 0) (s.k.getD 31 0) (s.k.getD 32 0) (s.k.getD 33 0) (s.k.getD 34 0) (s.k.getD 35 0) r.C0 r.Up r.Q3 r.Q5 r.Y3=if s.is n then S (((),(0:Int),()),((s.step n r).tup,()))else S (((),(1:Int),()),(Deb.no.tup,())):=by
 unfold Jf;rw[Vc h];by_cases hs:s.is n
 ·have hw:s.wf:=⟨hc,h,λj hj=>(hs.2.2 j hj).1,λj hj=>by have:=(hs.2.2 j hj).2;have:=hs.2.1;omega⟩
  simp only[hs,decide_true,a_,n_,c_,g3_];rw[YC hw hs hr];rfl
 ·simp only[hs,decide_false,a_,b6_,d_,e7_]
  rfl
structure BW(b:Bldg):Prop where
 small:b.small
 code:b.code=0
 room:b.H0≤600
 full:Sat (arF .sub .f64 b.L0 4589168020290535424) λ_=>True
 over:Sat (arF .sub .f64 b.N0 4589168020290535424) λ_=>True
def Aq2(b:U)(c:aC):Prop:=Lr b.E0 c=E∧0≤c.V0∧c.V0<4294967296
structure PM(b:Bldg)(m:Mch):Prop where
 jst:Jst b m.Z0 m.G0
 con:m.N1.length=b.B0.length
 conv:∀c∈m.N1,Aq2 b c
 bel:m.W0.length=b.B0.length
 belv:∀i,i<b.B0.length→BelOK b i (m.W0.getD i Ja)
 car:m.B0.length=b.B0.length
 carv:∀c∈m.B0,ED b c=true
 lod:m.R2.length=b.B0.length
 lodv:∀l∈m.R2,0≤l.R5∧l.R5≤4
 lit:m.X3.length=b.B0.length
 exl:m.D2.length=m.G0.A0.length
 exv:∀x∈m.D2,0≤x∧x≤1000000
 tick:0≤m.R3∧m.R3≤1000000
 flt:0≤m.T2∧m.T2≤1000000
 ref:0≤m.J2∧m.J2≤1000000
structure PR(b:Bldg)(t:Pk):Prop where
 leg:t.legacy.length=b.B0.length
 sho:t.shows.length=b.B0.length
 rst:t.reset.length=b.B0.length
 oc:t.out.B0.length=b.B0.length
structure Fix(t t':Pk):Prop where
 im:t'.m.G0=t.m.G0
 st:t'.m.Z0=t.m.Z0
 bu:t'.budget=t.budget
 e:t'.e=t.e
 out:t'.out={ t.out with B0:=t'.out.B0 }
def Fix.rfl'(t:H):Fix t t:=⟨rfl,rfl,rfl,rfl,rfl⟩
def Fix.trans{a c d:H}(h:Fix a c)(k:Fix c d):Fix a d:=⟨k.im.trans h.im,k.st.trans h.st,k.bu.trans h.bu,k.e.trans h.e,by rw[k.out,h.out]⟩
def Aff{α:Type}{P:α→Prop}{l:List α}(h:∀x∈l,P x){v:α}(hv:P v)(i:Nat):∀x∈l.set i v,P x:=λx hx=>by
 rcases List.mem_or_eq_of_mem_set hx with hx | rfl
 ·exact h x hx
 ·exact hv
section
variable{b:U}{m:Mch}
def PM.sBel(h:PM b m){v:Belief}(hv:BelOK b i v):PM b { m with W0:=m.W0.set i v }:=
 ⟨h.jst,h.con,h.conv,by show(m.W0.set i v).length=_;rw[r_];exact h.bel,λj hj=>by
  show BelOK b j ((m.W0.set i v).getD j Ja);by_cases e:i=j
  ·subst e
   rw[Bi _ _ (by rw[h.bel];exact hj)];exact hv
  ·rw[CB _ _ e];exact h.belv j hj,h.car,h.carv,h.lod,h.lodv,h.lit,h.exl,h.exv,h.tick,h.flt,h.ref⟩
def PM.sCar(h:PM b m)(i:Nat){v:NewCar}(hv:ED b v=E):PM b { m with B0:=m.B0.set i v }:=
 ⟨h.jst,h.con,h.conv,h.bel,h.belv,by show(m.B0.set i v).length=_;rw[r_];exact h.car,Aff h.carv hv i,h.lod,h.lodv,h.lit,h.exl,h.exv,h.tick,h.flt,h.ref⟩
def PM.sCon(h:PM b m)(i:Nat){v:aC}(hv:Aq2 b v){w:Loaded}(hw:0≤w.R5∧w.R5≤4):PM b { m with N1:=m.N1.set i v,R2:=m.R2.set i w }:=
 ⟨h.jst,by show(m.N1.set i v).length=_;rw[r_];exact h.con,Aff h.conv hv i,h.bel,h.belv,h.car,h.carv,by show(m.R2.set i w).length=_;rw[r_];exact h.lod,Aff h.lodv hw i,h.lit,h.exl,h.exv,h.tick,h.flt,h.ref⟩
def PM.sTick(h:PM b m){k:Int}(hn:0≤n∧n≤1000000)(hk:0≤k∧k≤1000000):PM b { m with R3:=n,T2:=k }:=
 ⟨h.jst,h.con,h.conv,h.bel,h.belv,h.car,h.carv,h.lod,h.lodv,h.lit,h.exl,h.exv,hn,hk,h.ref⟩
end
@[reducible] def Bsx(z:aC):=(z.V0,z.H2,z.R1,z.S1,z.G1,z.C5,z.E5,z.F5,z.G5,z.H5,z.I5,z.K5,z.L5,z.M5,z.N5,z.A4,z.B4,z.C4,z.D4,z.E4,z.F4,z.G4,z.H4,z.I4,z.J4,z.K4,z.L4,z.M4,z.N4,z.O4,z.P4,z.Q4,z.R4,z.S4,z.T4,z.U4,z.V4,z.W4,z.X4,z.Y4,z.Z4,())
def WW(z:aC):Deb:=⟨⟨z.V0,z.H2,z.R1,z.S1,z.G1⟩,PK z⟩
def Aq4(s:Deb):aC:=Debounced.mk s.c.C0 s.c.Up s.c.Q3 s.c.Q5 s.c.Y3 (s.k.getD 0 0) (s.k.getD 1 0) (s.k.getD 2 0) (s.k.getD 3 0) (s.k.getD 4 0) (s.k.getD 5 0) (s.k.getD 6 0) (s.k.getD 7 0) (s.k.getD 8 0) (s.k.getD 9 0) (s.k.getD 10 0) (s.k.getD 11 0) (s.k.getD 12 0) (s.k.getD 13 0) (s.k.getD 14 0) (s.k.getD 15 0) (s.k.getD 16 0) (s.k.getD 17 0) (s.k.getD 18 0) (s.k.getD 19 0) (s.k.getD 20 0) (s.k.getD 21 0) (s.k.getD 22 0) (s.k.getD 23 0) (s.k.getD 24 0) (s.k.getD 25 0) (s.k.getD 26 0) (s.k.getD 27 0) (s.k.getD 28 0) (s.k.getD 29 0) (s.k.getD 30 0) (s.k.getD 31 0) (s.k.getD 32 0) (s.k.getD 33 0) (s.k.getD 34 0) (s.k.getD 35 0)
def Awd:Lr n z=E↔(WW z).is n:=by
 unfold Lr Deb.is;rw[e_,e_,A_,A_];refine and_congr_right λ_=>and_congr_right λ_=>⟨λh j hj=>?_,λh=>QE 36 0 λk _ hk=>?_⟩
 ·have:=Zo 36 0 h j (a3_ _) ω
  unfold Ad4 at this;simp only[e_,A_]at this;exact this
 ·have:=h k ω
  unfold Ad4;simp only[e_,A_];exact this
def Ad5(hcode:b.code=0)(h:Aq2 b z){f:Int}(hf:0≤f∧f<4294967296)(u d o c:Bool):R (Jf b.E0 z.V0 z.H2 z.R1 z.S1 z.G1 z.C5 z.E5 z.F5 z.G5 z.H5 z.I5 z.K5 z.L5 z.M5 z.N5 z.A4 z.B4 z.C4 z.D4 z.E4 z.F4 z.G4 z.H4 z.I4 z.J4 z.K4 z.L4 z.M4 z.N4 z.O4 z.P4 z.Q4 z.R4 z.S4 z.T4 z.U4 z.V4 z.W4 z.X4 z.Y4 z.Z4 f u d o c) λy=>∃z',y.2.1=Bsx z'∧Aq2 b z'∧z'=Aq4 ((WW z).step b.E0 ⟨f,u,d,o,c⟩):=by
 have hi:=Awd.1 h.1;have hd:=Ajr hcode;have hw:(WW z).wf:=⟨h.2,rfl,λj hj=>(hi.2.2 j hj).1,λj hj=>by have:=(hi.2.2 j hj).2;omega⟩
 have e:=YB (n:=b.E0) (s:=WW z) rfl h.2 (r:=⟨f,u,d,o,c⟩) hf;rw[if_pos hi]at e;obtain⟨w1,w2⟩:=Bgj hw hi ⟨f,u,d,o,c⟩;refine⟨_,e,Aq4 ((WW z).step b.E0 ⟨f,u,d,o,c⟩),rfl,⟨Awd.2 ?_,w1.c⟩,rfl⟩;generalize(WW z).step b.E0 ⟨f,u,d,o,c⟩=s at w1 w2
 have:WW (Aq4 s)=s:=by
  unfold WW;rw[show PK (Aq4 s)=s.k from UO w1.len]
  rfl
 rw[this];exact w2
def Ak9(h:0≤n∧n≤1000000):R (Hm n) λy=>0≤y.1.1∧y.1.1≤1000000:=by
 unfold Hm;rw[Ac ω ω]
 refine A ?_;show 0≤(bif decide (1000000<n+1)then(1000000:Int)else n+1)∧(bif decide (1000000<n+1)then(1000000:Int)else n+1)≤1000000;by_cases g:1000000<n+1
 ·rw[b_ g,d_];omega
 ·rw[f_ g,c_];omega
section
variable{b:U}(hw:BW b){x:Inp}{g:Bool}(hx:g=E→InOK b x)
include hw hx
theorem Bn4(hm:PM b t.m)(hr:PR b t):R (t.ap DW b x g) λy=>∃t',(y=.inl ((),(t'.tup b x g,()))∨y=.inr ((),(t'.tup b x g,())))∧PM b t'.m∧PR b t'∧Fix t t':=by
 have hcc:=Aj hw.code;unfold Pk.ap DW;refine D (Ak9 hm.tick) λn1 h1=>J (λ_=>?_) λhg=>?_
 ·exact D (Ak9 hm.flt) λn2 h2=>A ⟨{ t with m:={ t.m with R3:=n1.1.1,T2:=n2.1.1 } },.inl rfl,hm.sTick h1 h2,⟨hr.leg,hr.sho,hr.rst,hr.oc⟩,⟨rfl,rfl,rfl,rfl,rfl⟩⟩
 ·rw[Bool.not_eq_false']at hg
  have hxi:=hx hg;refine D (Q:=λy=>∃t',y=((),(t'.tup b x g,()))∧PM b t'.m∧PR b t'∧Fix t t') ?_ λy hy=>by obtain⟨t',rfl,h⟩:=hy;exact A ⟨t',.inr rfl,h⟩
  unfold Dw;refine Sat.loop (λ(k:Nat) z=>∃(i:Nat) (t':H),z=(((),x.cars,(x.cars.length:Int),(i:Int),()),(t'.tup b x g,()))∧i+k=x.cars.length∧PM b t'.m∧PR b t'∧Fix t t') (λk z hz=>?_) x.cars.length ⟨0,{ t with m:={ t.m with R3:=n1.1.1 } },rfl,q_ _,hm.sTick h1 hm.flt,⟨hr.leg,hr.sho,hr.rst,hr.oc⟩,⟨rfl,rfl,rfl,rfl,rfl⟩⟩ (by have:=hxi.len;omega)
  obtain⟨i,t',rfl,hk,hm,hr,hf⟩:=hz;show R (Pk.ap (Fm x.cars (x.cars.length:Int) (i:Int)) b x g t') _;unfold Pk.ap Fm;refine J (λq=>?_) λ_=>A ⟨t',rfl,hm,hr,hf⟩
  have q:(i:Int)<(x.cars.length:Int):=m_ q;have hl:=hxi.len;have hin:i<b.B0.length:=ω
  have w:=Dg (n:=i) ω
  have i1:N (i:Int) t'.m.N1.length=E:=Aa ω (by rw[hm.con];omega)
  have i3:N (i:Int) t'.m.R2.length=E:=Aa ω (by rw[hm.lod];omega)
  have hcf:=hxi.flo _ (CA (CarInput.mk 0 B B B B 0 B 0 B 0 0) (ω:i<x.cars.length))
  have hcw:=hm.conv _ (CA Cm (show i<t'.m.N1.length by rw[hm.con];exact hin))
  refine C (Aa ω q) (C i1 (D (Ad5 hw.code hcw hcf _ _ _ _) λy1 h1=>?_))
  obtain⟨⟨ya,yb,yc⟩,yd,ye⟩:=y1;obtain⟨z',e1,hz',_⟩:=h1;change yd=_ at e1;subst e1;refine C i1 (C i3 (D (Ani hw.full hw.over _ _) λy2 h2=>C i3 ?_))
  refine A ⟨k-1,ω,i+1,{ t' with m:={ t'.m with N1:=t'.m.N1.set i z',R2:=t'.m.R2.set i (Loaded.mk y2.2.1.1) } },by first | (rw[← w];rfl) | rw[← w],ω,hm.sCon i hz' h2,⟨hr.leg,hr.sho,hr.rst,hr.oc⟩,⟨hf.im,hf.st,hf.bu,hf.e,hf.out⟩⟩
end
def Bn3(floor:Int):Int:=IntKind.u32.wrap (1*2^min (aA floor) (IntKind.bits .u32))
def Alg(floor dir:Int):Int×Int:=
 bif inR 0 31 floor then(bif dir==1 then(Bn3 floor,0)else bif dir==2 then(0,Bn3 floor)else(0,0))else(0,0)
def WS(floor dir:Int):DS floor dir=S (((),()),(((Alg floor dir).1,(Alg floor dir).2,()),())):=by
 unfold DS Alg inR;by_cases g:0≤floor
 ·by_cases g':floor<32
  ·rw[b_ g,b_ g',b_ (ω:floor≤31)]
   simp only[d_,a_,a6_,b_ g];cases dir==1<;>cases dir==2<;>rfl
  ·rw[b_ g,f_ g',f_ (ω:¬floor≤31)];rfl
 ·rw[f_ g];rfl
def orV(a c:Int):Int:=IntKind.u32.wrap (stk a c (BitVec.toNat (BitVec.ofInt (IntKind.bits .u32) a|||BitVec.ofInt (IntKind.bits .u32) c)))
def Ame(a c:Int×Int):Int×Int:=(orV a.1 c.1,orV a.2 c.2)
def Ad1(a c:Int×Int):CH a.1 a.2 c.1 c.2=S (((),()),(((Ame a c).1,(Ame a c).2,()),())):=rfl
def As3(vs:List View)(car:Int)(e:Entry):Bool:=e.Q0==car||(e.Q0==-2&&(Aw vs car).H3)
def Tf(vs:List View)(car:Int)(e:Entry)(c:Int×Int):Int×Int:=bif As3 vs car e then Ame c (Alg e.D0 e.I0)else c
def XU(vs:List View)(car:Int):List Entry→Int×Int→Int×Int
 |[],c=>c
 |e::t,c=>XU vs car t (Tf vs car e c)
def XV(b:U)(m:Img)(vs:List View)(car:Int):Int×Int:=
 bif m.ok b&&((vs.length:Int)==(b.B0.length:Int)&&(decide (0≤car)&&decide (car<(b.B0.length:Int))))then XU vs car m.A0 (0,0)else(0,0)
section
variable{vs:List View}{car:Int}(hc:0≤car∧car<vs.length){m:Img}(hm:m.A0.length≤1000)
include hc hm
theorem Rk:∀(k i:Nat) (c:Int×Int),i+k=m.A0.length→
  BN (λx=>letI a:=x.1.2.2.2.2;FW x.1.1 x.1.2.1 a.1 a.2.1 a.2.2.1 x.2.1.1 x.2.1.2.1 x.2.2.1.1 x.2.2.1.2.1) (k+1) ((vs,car,(),(),m.A0,(m.A0.length:Int),(i:Int),()),(((0:Int),(0:Int),()),(c.1,c.2,()),()))=S (((),(),()),(((0:Int),(0:Int),()),((XU vs car (m.A0.drop i) c).1,(XU vs car (m.A0.drop i) c).2,()),()))
 |0,i,c,hi=>by
  refine Ay ?_;show FW vs car m.A0 (m.A0.length:Int) (i:Int) 0 0 c.1 c.2=_;unfold FW;rw[show decide ((i:Int)<(m.A0.length:Int))=B by simp;omega,show i=m.A0.length by omega,a8_];rfl
 |k+1,i,c,hi=>by
  have hi':i<m.A0.length:=ω
  have w:IntKind.i64.wrap ((i:Int)+1)=((i+1:Nat):Int):=by rw[Ac ω ω];omega
  rw[Cb noE hi'];refine(Bs (x':=((vs,car,(),(),m.A0,(m.A0.length:Int),((i+1:Nat):Int),()),(((0:Int),(0:Int),()),((Tf vs car (m.A0.getD i noE) c).1,(Tf vs car (m.A0.getD i noE) c).2,()),()))) ?_).trans (Rk k (i+1) _ ω)
  show FW vs car m.A0 (m.A0.length:Int) (i:Int) 0 0 c.1 c.2=_;unfold FW;rw[show decide ((i:Int)<(m.A0.length:Int))=E by simp;omega,Aa (ω:(0:Int)≤(i:Int)) (ω:(i:Int)<(m.A0.length:Int)),show Entry.mk 0 0 0 0 B=noE from rfl]
  unfold Tf As3 Aw;have hu:=Ad1 c (Alg (m.A0.getD i noE).D0 (m.A0.getD i noE).I0);simp only[d_,j_];cases(m.A0.getD i noE).Q0==car with
  |true=>simp only[d_,a_,Bool.true_or,WS,hu,w]
  |false=>
   cases(m.A0.getD i noE).Q0==-2 with
   |true=>
    simp only[d_,c_,Aa hc.1 hc.2,a_,Bool.false_or,o_];cases(vs.getD car.toNat (View.mk B B B B 0 0 0 0 0 0 0 0)).H3 with
    |true=>simp only[d_,WS,a_,hu,w]
    |false=>simp only[c_,w]
   |false=>simp only[c_,a_,a2_,Bool.or_self,w]
end
section
variable{b:U}(hb:b.small)(vs:List View)(m:Img)(hm:m.A0.length≤1000)(hp:m.F0.length≤maxLen)(car:Int)
include hb hm hp
theorem Aa3:LV b.C0 b.E0 b.H0 b.M0 b.J0 b.L0 b.N0 b.B0 m.F0 m.O0 m.K0 m.A0 vs car=S (((),()),(((XV b m vs car).1,(XV b m vs car).2,()),())):=by
 have hmx:1000≤maxLen:=by decide
 unfold LV XV;rw[CL hb m hp ω]
 simp only[a_,bne];cases hok:m.ok b with
 |false=>rfl
 |true=>
  cases hq:(vs.length:Int)==(b.B0.length:Int)with
  |false=>rfl
  |true=>
   have hq':(vs.length:Int)=(b.B0.length:Int):=by simpa using hq
   by_cases g:0≤car
   ·rw[b_ g,f_ (ω:¬car<0)]
    by_cases g':car<(b.B0.length:Int)
    ·rw[b_ g',f_ (ω:¬(b.B0.length:Int)≤car)]
     have hlp:=Ai (Rk (vs:=vs) (car:=car) ⟨g,ω⟩ hm m.A0.length 0 (0,0) ω) ω
     have hlp':JV ((vs,car,(),(),m.A0,(m.A0.length:Int),(0:Int),()),(((0:Int),(0:Int),()),((0:Int),(0:Int),()),()))=_:=hlp;simp only[n_,c_,hlp',a_,R_,a6_,d_]
    ·rw[f_ g',b_ (ω:(b.B0.length:Int)≤car)];rfl
   ·rw[f_ g,b_ (ω:car<0)];rfl
end
def KK(p:Int):Bool:=p==0||p==1
def Aon(p:Int):Bool:=p==3||p==4
def Wn(p:Int):Fd p=S ((KK p,()),()):=by
 unfold Fd KK;cases p==0<;>rfl
def Afx(p:Int):EG p=S ((Aon p,()),()):=by
 unfold EG Aon;cases p==3<;>rfl
def Ac9(vs:List View)(car:Int):∀(l:List Entry) {c:Int×Int},Kr c→Kr (XU vs car l c)
 |[],_,h=>h
 |e::t,c,h=>by
  refine Ac9 vs car t ?_;unfold Tf;cases As3 vs car e with
  |true=>exact⟨Hj _,Hj _⟩
  |false=>exact h
def As4(b:U)(m:Img)(vs:List View)(car:Int):Kr (XV b m vs car):=by
 unfold XV;cases m.ok b&&((vs.length:Int)==(b.B0.length:Int)&&(decide (0≤car)&&decide (car<(b.B0.length:Int))))with
 |true=>exact Ac9 vs car _ Tl
 |false=>exact Tl
def Pk.sBel(t:H)(i:Nat)(v:Belief):H:={ t with m:={ t.m with W0:=t.m.W0.set i v } }
def Pk.sCar(t:H)(i:Nat)(v:NewCar):H:={ t with m:={ t.m with B0:=t.m.B0.set i v } }
def Pk.sOut(t:H)(i:Nat)(v:CarOutput):H:={ t with out:={ t.out with B0:=t.out.B0.set i v } }
def Pk.sLeg(t:H)(i:Nat):H:={ t with legacy:=t.legacy.set i E }
def Pk.sSho(t:H)(i:Nat)(c:Calls):H:={ t with shows:=t.shows.set i c }
section
variable{b:U}{t:H}
def PR.sBel(h:PR b t)(i:Nat)(v:Belief):PR b (t.sBel i v):=⟨h.leg,h.sho,h.rst,h.oc⟩
def PR.sCar(h:PR b t)(i:Nat)(v:NewCar):PR b (t.sCar i v):=⟨h.leg,h.sho,h.rst,h.oc⟩
def PR.sOut(h:PR b t)(i:Nat)(v:CarOutput):PR b (t.sOut i v):=⟨h.leg,h.sho,h.rst,by show(t.out.B0.set i v).length=_;rw[r_];exact h.oc⟩
def PR.sLeg(h:PR b t)(i:Nat):PR b (t.sLeg i):=⟨by show(t.legacy.set i E).length=_;rw[r_];exact h.leg,h.sho,h.rst,h.oc⟩
def PR.sSho(h:PR b t)(i:Nat)(c:Calls):PR b (t.sSho i c):=⟨h.leg,by show(t.shows.set i c).length=_;rw[r_];exact h.sho,h.rst,h.oc⟩
end
section
variable{b:U}(hw:BW b){x:Inp}{g:Bool}(hx:g=E→InOK b x)
include hw
theorem Ax5(hm:ImgOK b m):R (IS m.F0 m.O0 m.K0 m.A0) λy=>True:=by
 have hcc:=Aj hw.code;have hp:=hm.lp;have hf:=hm.lf;have hl:=hm.ll;unfold IS;refine C (by simp only[e_,A_];omega) (D (Q:=λ_=>True) ?_ λ_ _=>A trivial)
 have h0:(List.replicate (aA (m.F0.length:Int)) (View.mk B B B B 0 0 0 0 0 0 0 0)).length=b.B0.length:=by rw[S_];omega
 generalize List.replicate (aA (m.F0.length:Int)) (View.mk B B B B 0 0 0 0 0 0 0 0)=L at h0;unfold HL;refine Sat.loop (λ(k:Nat) z=>∃(i:Nat) (l:List View),z=(((),l,(L.length:Int),(i:Int),()),((m.F0,m.O0,m.K0,m.A0,()),()))∧l.length=b.B0.length∧i+k=L.length) (λk z hz=>?_) L.length ⟨0,L,rfl,h0,q_ _⟩ ω
 obtain⟨i,l,rfl,hll,hk⟩:=hz;show R (KU l (L.length:Int) (i:Int) m.F0 m.O0 m.K0 m.A0) _;unfold KU;refine J (λq=>?_) λ_=>A trivial
 have q:=m_ q;have w:=Dg (n:=i) ω
 refine aB (Ai5 hm (ω:i<b.B0.length)) (C (Aa ω ω) ?_)
 exact A ⟨k-1,ω,i+1,_,by first | (rw[← w];rfl) | rw[← w],by rw[r_];exact hll,ω⟩
theorem Akn(hm:ImgOK b m)(car:Int):R (Hl b.C0 b.E0 b.H0 b.M0 b.J0 b.L0 b.N0 b.B0 m.F0 m.O0 m.K0 m.A0 car) λy=>Kr (y.2.1.1,y.2.1.2.1):=by
 have hcc:=Aj hw.code;have he:=EC hw.small hm;have hp:=hm.lp;have hmx:1000≤maxLen:=by decide
 unfold Hl;exact D (Ax5 hw hm) λy1 _=>aB (Aa3 hw.small y1.1.1 m ω ω car) (A (As4 b m y1.1.1 car))
theorem Axl(hm:PM b t.m)(hr:PR b t)(hi:i<b.B0.length):R (t.ap (Dc (i:Int)) b x g) λy=>∃t',(y=.inl ((),(t'.tup b x g,()))∨y=.inr ((),(t'.tup b x g,())))∧PM b t'.m∧PR b t'∧Fix t t':=by
 unfold Pk.ap Dc;have i1:N (i:Int) t.legacy.length=E:=Aa ω (by rw[hr.leg];omega)
 have i2:N (i:Int) t.m.W0.length=E:=Aa ω (by rw[hm.bel];omega)
 have i3:N (i:Int) t.m.N1.length=E:=Aa ω (by rw[hm.con];omega)
 have i4:N (i:Int) t.shows.length=E:=Aa ω (by rw[hr.sho];omega)
 have hb:=hm.belv i hi;refine C i1 (J (λ_=>C i2 ?_) λ_=>C i3 ?_)
 ·refine D (Adw hw.small hw.code hi hb) λy1 h1=>C i2 ?_
  obtain⟨ya,yb,yc⟩:=y1;obtain⟨v,e,hv⟩:=h1;change yb=_ at e;subst e;exact A ⟨(t.sBel i v).sLeg i,.inl rfl,hm.sBel hv,(hr.sBel i v).sLeg i,⟨rfl,rfl,rfl,rfl,rfl⟩⟩
 ·have hcw:=hm.conv _ (CA Cm (show i<t.m.N1.length by rw[hm.con];exact hi))
  refine D (Xj b.C0 hcw.2 _ _ _ _) λy2 _=>D (MG ..) λy3 _=>C i4 (C i2 ?_)
  refine D (Zq hw.small hw.code hi hb _ _ _) λy4 h4=>C i2 ?_
  obtain⟨ya,yb,yc⟩:=y4;obtain⟨v,e,hv⟩:=h4;change yb=_ at e;subst e;exact A ⟨((t.sBel i v).sLeg i).sSho i (Calls.mk y3.2.1.1 y3.2.1.2.1),.inr rfl,hm.sBel hv,((hr.sBel i v).sLeg i).sSho i _,⟨rfl,rfl,rfl,rfl,rfl⟩⟩
include hx
theorem Bfp(hm:PM b t.m)(hr:PR b t)(hi:i<b.B0.length)(p:Int):R (t.ap (DC (i:Int) p) b x g) λy=>∃t',(y=.inl ((),(t'.tup b x g,()))∨y=.inr ((),(t'.tup b x g,())))∧PM b t'.m∧PR b t'∧Fix t t':=by
 unfold Pk.ap DC;have i2:N (i:Int) t.m.B0.length=E:=Aa ω (by rw[hm.car];omega)
 have i4:N (i:Int) t.out.B0.length=E:=Aa ω (by rw[hr.oc];omega)
 refine J (λ_=>C i2 ?_) λhg=>?_
 ·refine D (Aev hw.small hw.code (i:Int) (t.m.B0.getD i AS)) λy1 h1=>C i2 (C i4 ?_)
  obtain⟨ya,yb,yc⟩:=y1;obtain⟨v,e,hv⟩:=h1;change yb=_ at e;subst e;exact A ⟨(t.sCar i v).sOut i _,.inl rfl,hm.sCar i hv,(hr.sCar i v).sOut i _,⟨rfl,rfl,rfl,rfl,rfl⟩⟩
 ·rw[Bool.not_eq_false']at hg
  have hl:=(hx hg).len;have i3:N (i:Int) x.cars.length=E:=Aa ω ω
  refine D (Q:=λy=>∃h0 h1:Int,y=(((),(i:Int),(),()),((h0,h1,()),t.tup b x g,()))) (J (λ_=>D (Akn hw hm.jst.img (i:Int)) λy2 _=>A ⟨_,_,rfl⟩) λ_=>A ⟨_,_,rfl⟩) λy hy=>?_
  obtain⟨h0,h1,rfl⟩:=hy;refine C i3 (C i2 (D (Ah1 hw.small hw.code (i:Int) (t.m.B0.getD i AS) _ _ _ _ _ _ _) λy4 h4=>C i2 (C i4 ?_)))
  obtain⟨ya,yb,yc⟩:=y4;obtain⟨v,e,hv⟩:=h4;change yb=_ at e;subst e;exact A ⟨(t.sCar i v).sOut i _,.inr rfl,hm.sCar i hv,(hr.sCar i v).sOut i _,⟨rfl,rfl,rfl,rfl,rfl⟩⟩
def VJ(b:U)(r:I):Prop:=∃i:Nat,i<b.B0.length∧r=⟨5,0,0,(i:Int),1⟩
theorem Awa(hm:PM b t.m)(hr:PR b t):R (Cw (((),([]:List I),t.m.G0.F0,(t.m.G0.F0.length:Int),(0:Int),()),(t.tup b x g,()))) λy=>∃(t':H) (l:List I),y=(((),l,()),(t'.tup b x g,()))∧PM b t'.m∧PR b t'∧Fix t t'∧l.length≤8∧∀r∈l,VJ b r:=by
 have hcc:=Aj hw.code;have hp:=hm.jst.img.lp;unfold Cw;refine Sat.loop (λ(k:Nat) z=>∃(i:Nat) (t':H) (l:List I),z=(((),l,t.m.G0.F0,(t.m.G0.F0.length:Int),(i:Int),()),(t'.tup b x g,()))∧i+k=b.B0.length∧PM b t'.m∧PR b t'∧Fix t t'∧l.length≤i∧∀r∈l,VJ b r) (λk z hz=>?_) b.B0.length ⟨0,t,[],rfl,q_ _,hm,hr,.rfl' t,w_ 0,λr h=>by cases h⟩ ω
 obtain⟨i,t',l,rfl,hk,hm',hr',hf,hl,hv⟩:=hz;show R (Pk.ap (Fl l t.m.G0.F0 (t.m.G0.F0.length:Int) (i:Int)) b x g t') _;unfold Pk.ap Fl;refine J (λq=>?_) λ_=>A ⟨t',l,rfl,hm',hr',hf,ω,hv⟩
 have q:(i:Int)<(t.m.G0.F0.length:Int):=m_ q;have hi:i<b.B0.length:=ω
 have w:=Dg (n:=i) ω
 refine C (Aa ω q) ?_
 refine D (Q:=λy=>∃(u:H) (c:Bool),y=(((),l,(i:Int),c,t.m.G0.F0,(t.m.G0.F0.length:Int),(i:Int),()),(u.tup b x g,()))∧PM b u.m∧PR b u∧Fix t u) ?_ λy9 h9=>?_
 ·refine aB (Wn _) (J (λ_=>?_) λ_=>aB (Afx _) (J (λ_=>?_) λ_=>A ⟨t',B,rfl,hm',hr',hf⟩))
  ·refine D (Q:=λy=>∃u:H,y=(((),l,(i:Int),t.m.G0.F0,(t.m.G0.F0.length:Int),(i:Int),()),(u.tup b x g,()))∧PM b u.m∧PR b u∧Fix t u) ?_ λy4 h4=>?_
   ·refine D (Axl hw (x:=x) (g:=g) hm' hr' hi) λy2 h2=>?_
    obtain⟨u,e | e,h⟩:=h2
    ·subst e;exact A ⟨u,rfl,h.1,h.2.1,hf.trans h.2.2⟩
    ·subst e;exact A ⟨u,rfl,h.1,h.2.1,hf.trans h.2.2⟩
   ·obtain⟨u,rfl,h1,h2,h3⟩:=h4
    exact C (Aa (ω:(0:Int)≤(i:Int)) (by show(i:Int)<(u.m.W0.length:Int);rw[h1.bel];omega)) (A ⟨u,_,rfl,h1,h2,h3⟩)
  ·refine D (Q:=λy=>∃u:H,y=(((),l,(i:Int),t.m.G0.F0,(t.m.G0.F0.length:Int),(i:Int),()),(u.tup b x g,()))∧PM b u.m∧PR b u∧Fix t u) ?_ λy4 h4=>?_
   ·refine D (Bfp hw hx hm' hr' hi _) λy2 h2=>?_
    obtain⟨u,e | e,h⟩:=h2
    ·subst e;exact A ⟨u,rfl,h.1,h.2.1,hf.trans h.2.2⟩
    ·subst e;exact A ⟨u,rfl,h.1,h.2.1,hf.trans h.2.2⟩
   ·obtain⟨u,rfl,h1,h2,h3⟩:=h4
    exact C (Aa (ω:(0:Int)≤(i:Int)) (by show(i:Int)<(u.m.B0.length:Int);rw[h1.car];omega)) (A ⟨u,_,rfl,h1,h2,h3⟩)
 ·obtain⟨u,c,rfl,hm2,hr2,hf2⟩:=h9
  refine D (Q:=λy=>∃c:Bool,y=(((),l,(i:Int),t.m.G0.F0,(t.m.G0.F0.length:Int),(i:Int),c,()),(u.tup b x g,()))) (J (λ_=>C (Aa (ω:(0:Int)≤(i:Int)) (by show(i:Int)<(u.m.G0.O0.length:Int);rw[hm2.jst.img.lf];omega)) (A ⟨_,rfl⟩)) λ_=>A ⟨_,rfl⟩) λy10 h10=>?_
  obtain⟨c',rfl⟩:=h10;refine J (λ_=>C (Ax (ω:l.length+1≤_)) ?_) λ_=>A ⟨k-1,ω,i+1,u,l,by first | (rw[← w];rfl) | rw[← w],ω,hm2,hr2,hf2,ω,hv⟩
  refine A ⟨k-1,ω,i+1,u,l++[Record.mk 5 0 0 (i:Int) 1],by first | (rw[← w];rfl) | rw[← w],ω,hm2,hr2,hf2,by rw[h_];show l.length+1≤_;omega,λr h=>?_⟩
  rcases p_.1 h with h | h
  ·exact hv r h
  ·exact⟨i,hi,D_.1 h⟩
end
def K3(l:List I):Prop:=∀r∈l,r.T0=4∨r.T0=5∨r.T0=6
def Ap5{r:I}(h:r.T0=4∨r.T0=5∨r.T0=6):(An m r).A0=m.A0:=by
 unfold An;rcases h with h | h | h<;>rw[h]<;>rfl
def Uc:∀{l:List I}(m:Img),K3 l→(Ap m l).A0=m.A0
 |[],_,_=>rfl
 |r::l,m,h=>(Uc (An m r) λx hx=>h x (K_ _ hx)).trans (Ap5 (h r (E_ ..)))
def K3.good(h:K3 l)(m:Img)(hv:∀r∈l,Az b r=E):goodL b m l:=VP m λr hr=>⟨hv r hr,by have:=h r hr;omega⟩
structure Al(b:Bldg)(t t':Pk)(l:List Record):Prop where
 e:t'.e=0
 m:PM b t'.m
 r:PR b t'
 im:t'.m.G0=Ap t.m.G0 l
 b0:0≤t'.budget
 b1:t'.budget≤t.budget
 b2:t.budget-600*(l.length:Int)≤t'.budget
structure De(b:Bldg)(t t':Pk)(l:List Record):Prop where
 e:t'.e=8
 lo:t.budget<600*(l.length:Int)
 ok:t'.m.Z0.ok b.H0
 rp:∃k,k<l.length∧Cs b t'.m.Z0=Ap t.m.G0 (l.take k)
def Al2(hw:BW b)(n:Nat):b.H0*(n:Int)≤600*(n:Int):=Int.mul_le_mul_of_nonneg_right hw.room ω
def PM.wr{m:Mch}(h:PM b m){im:Img}{s:Sto}(hj:Jst b s im)(he:im.A0=m.G0.A0):PM b { m with G0:=im,Z0:=s }:=
 ⟨hj,h.con,h.conv,h.bel,h.belv,h.car,h.carv,h.lod,h.lodv,h.lit,by show m.D2.length=im.A0.length;rw[he];exact h.exl,h.exv,h.tick,h.flt,h.ref⟩
def Wr.fin(hw:BW b){t':H}(h:Wr b t l t')(hm:PM b t.m)(hr:PR b t)(hk:K3 l):(Al b t t' l∨De b t t' l)∧t'.out=t.out:=by
 obtain⟨im,s,bu,e,rfl,h⟩:=h
 have:=Al2 hw l.length
 refine⟨?_,rfl⟩;rcases h with⟨rfl,rfl,h1,h2,h3,h4⟩ | ⟨rfl,h1,h2,h3⟩
 ·exact .inl ⟨rfl,hm.wr h1 (Uc _ hk),⟨hr.leg,hr.sho,hr.rst,hr.oc⟩,rfl,h3,h4,by show t.budget-_≤bu;omega⟩
 ·exact .inr ⟨rfl,ω,h2,h3⟩
def Bud(t:H):Prop:=t.e=0∧0≤t.budget∧t.budget<9223372036854775808
def Al.bud{t':H}(h:Al b t t' l)(hb:Bud t):Bud t':=⟨h.e,h.b0,by have:=h.b1;have:=hb.2.2;omega⟩
def Al.app{u v:H}{k:List I}(h:Al b t u l)(h2:Al b u v k):Al b t v (l++k):=
 ⟨h2.e,h2.m,h2.r,by rw[EA,← h.im];exact h2.im,h2.b0,by have:=h2.b1;have:=h.b1;omega,by have:=h2.b2;have:=h.b2;rw[h_];omega⟩
def De.mono{u:H}(h:De b t u l)(k:List I):De b t u (l++k):=by
 obtain⟨i,h1,h2⟩:=h.rp;exact⟨h.e,by have:=h.lo;rw[h_];omega,h.ok,i,by rw[h_];omega,by rw[List.take_append_of_le_length ω];exact h2⟩
def Al.de{u v:H}{k:List I}(h:Al b t u l)(h2:De b u v k):De b t v (l++k):=by
 obtain⟨i,h3,h4⟩:=h2.rp;refine⟨h2.e,by have:=h2.lo;have:=h.b2;rw[h_];omega,h2.ok,l.length+i,by rw[h_];omega,?_⟩
 rw[h4,h.im,List.take_append,b2_ (ω:l.length≤l.length+i),b4_,EA]
def Bfy(hcode:b.code=0)(h:∀r∈l,VJ b r):K3 l∧∀r∈l,Az b r=E:=
 ⟨λr hr=>by obtain⟨i,_,rfl⟩:=h r hr;exact .inr (.inl rfl),λr hr=>by obtain⟨i,hi,rfl⟩:=h r hr;exact Ahg hcode ⟨ω,ω⟩ (.inr ⟨.inl rfl,by decide⟩)⟩
section
variable{b:U}(hw:BW b){x:Inp}{g:Bool}(hx:g=E→InOK b x)
include hw hx
theorem Bjh(hm:PM b t.m)(hr:PR b t)(hb:Bud t):R (t.ap DV b x g) λy=>∃(t':H) (l:List I),y=((),(t'.tup b x g,()))∧(∀r∈l,VJ b r)∧l.length≤8∧(Al b t t' l∨De b t t' l)∧t'.out={ t.out with B0:=t'.out.B0 }:=by
 unfold Pk.ap DV;refine D (Awa hw hx hm hr) λy1 h1=>?_
 obtain⟨u,l,rfl,hm1,hr1,hf,hl,hv⟩:=h1;obtain⟨k3,v3⟩:=Bfy hw.code hv;have hb1:Bud u:=⟨hf.e.trans hb.1,by rw[hf.bu];exact hb.2⟩
 refine D (Q:=λy=>∃t',y=((),(t'.tup b x g,()))∧Wr b u l t') ?_ λy hy=>?_
 ·refine D (YA hw.small (x:=x) (g:=g) hm1.jst hb1.2 hb1.1 (k3.good _ v3) (ω:l.length≤100000)) λy2 h2=>?_
  obtain⟨t',e | e,h⟩:=h2
  ·subst e;exact A ⟨t',rfl,h⟩
  ·subst e;exact A ⟨t',rfl,h⟩
 obtain⟨t',rfl,h⟩:=hy;obtain⟨h1,h2⟩:=h.fin hw hm1 hr1 k3;refine A ⟨t',l,rfl,hv,hl,?_,by rw[h2,hf.out]⟩
 rcases h1 with h1 | h1
 ·exact .inl ⟨h1.e,h1.m,h1.r,by rw[h1.im,hf.im],h1.b0,by rw[← hf.bu];exact h1.b1,by rw[← hf.bu];exact h1.b2⟩
 ·exact .inr ⟨h1.e,by rw[← hf.bu];exact h1.lo,h1.ok,by rw[← hf.im];exact h1.rp⟩
omit hx in
theorem Bjg(hm:PM b t.m)(hxl:x.cars.length=b.B0.length):R (CI (t.ap machine_ticker.mk b x g)) λy=>∃c:List Bool,y=((c,()),())∧c.length=b.B0.length:=by
 have hcc:=Aj hw.code;have hp:=hm.jst.img.lp;unfold CI;refine C (by show((decide ((0:Int)≤(b.B0.length:Int))&&decide ((b.B0.length:Int)≤(b.B0.length:Int)))&&decide ((b.B0.length:Int)≤2147483648))=E;simp only[e_,A_];omega) (D (Q:=λy=>∃c:List Bool,y=((c,()),())∧c.length=b.B0.length) ?_ λy h=>by obtain⟨c,rfl,h⟩:=h;exact A ⟨c,rfl,h⟩)
 generalize hT:t.ap machine_ticker.mk b x g=T;have eb:T.m_Beliefs=t.m.W0:=by rw[← hT];rfl
 have ec:T.m_Cars=t.m.B0:=by rw[← hT];rfl
 have ex:T.x_Cars=x.cars:=by rw[← hT];rfl
 have ep:T.m_Image_Phases=t.m.G0.F0:=by rw[← hT];rfl
 have e1:T.b_Floors=b.C0:=by rw[← hT];rfl
 have e2:T.b_Debounce=b.E0:=by rw[← hT];rfl
 have e3:T.b_Room=b.H0:=by rw[← hT];rfl
 have e4:T.b_Park=b.M0:=by rw[← hT];rfl
 have e5:T.b_Empty=b.J0:=by rw[← hT];rfl
 have e6:T.b_Full=b.L0:=by rw[← hT];rfl
 have e7:T.b_Over=b.N0:=by rw[← hT];rfl
 have e8:T.b_Cars=b.B0:=by rw[← hT];rfl
 unfold Dv;refine Sat.loop (λ(k:Nat) z=>∃(i:Nat) (c:List Bool),z=((T,c,T.m_Image_Phases,(T.m_Image_Phases.length:Int),(i:Int),()),())∧i+k=b.B0.length∧c.length=b.B0.length) (λk z hz=>?_) b.B0.length ⟨0,_,rfl,q_ _,by rw[S_,e8];omega⟩ ω
 obtain⟨i,c,rfl,hk,hc⟩:=hz;show R (Fk T c T.m_Image_Phases (T.m_Image_Phases.length:Int) (i:Int)) _;unfold Fk;rw[eb,ec,ex,ep,e1,e2,e3,e4,e5,e6,e7,e8];refine J (λq=>?_) λ_=>A ⟨c,rfl,hc⟩
 have q:(i:Int)<(t.m.G0.F0.length:Int):=m_ q;have hi:i<b.B0.length:=ω
 have w:=Dg (n:=i) ω
 have i2:N (i:Int) t.m.W0.length=E:=Aa ω (by rw[hm.bel];omega)
 have i3:N (i:Int) t.m.B0.length=E:=Aa ω (by rw[hm.car];omega)
 have i4:N (i:Int) c.length=E:=Aa ω ω
 have i5:N (i:Int) x.cars.length=E:=Aa ω ω
 refine C (Aa ω q) ?_
 refine D (Q:=λy=>∃c':List Bool,y=((T,c',t.m.G0.F0,(t.m.G0.F0.length:Int),(i:Int),()),())∧c'.length=b.B0.length) ?_ λy hy=>?_
 ·have still:R ((EG (t.m.G0.F0.getD (aA (i:Int)) 0)).bind λy3=>bif y3.1.1 then(bif N (i:Int) t.m.B0.length then(let z2:=t.m.B0.getD (aA (i:Int)) AS
   bif N (i:Int) x.cars.length then(let z3:=x.cars.getD (aA (i:Int)) SR
   (Jk b.C0 b.E0 b.H0 b.M0 b.J0 b.L0 b.N0 b.B0 z2.U1 z2.D1 z2.Y0 z2.K1 z2.E1 z2.I1 z2.C1 z2.S0 z2.X0 z2.R0 z2.Z1 z2.X2 z2.I3 z2.Z2 z3.J1 z3.E2 z3.T1 z3.G2).bind λy4=>bif N (i:Int) c.length then S ((T,c.set (aA (i:Int)) y4.1.1,t.m.G0.F0,(t.m.G0.F0.length:Int),(i:Int),()),())else none)else none)else none)else(bif N (i:Int) c.length then S ((T,c.set (aA (i:Int)) B,t.m.G0.F0,(t.m.G0.F0.length:Int),(i:Int),()),())else none)) λy=>∃c':List Bool,y=((T,c',t.m.G0.F0,(t.m.G0.F0.length:Int),(i:Int),()),())∧c'.length=b.B0.length:=
   aB (Afx _) (J (λ_=>C i3 (C i5 (D (Aex hw.small hw.code (t.m.B0.getD i AS) _ _ _ _) λy4 _=>C i4 (A ⟨_,rfl,by rw[r_];exact hc⟩)))) λ_=>C i4 (A ⟨_,rfl,by rw[r_];exact hc⟩))
  refine aB (Wn _) (J (λ_=>C i2 ?_) λ_=>still)
  refine D (Adx hw.small hw.code hi (hm.belv i hi)) λy2 _=>J (λ_=>C i4 (A ⟨_,rfl,by rw[r_];exact hc⟩)) λ_=>still
 obtain⟨c',rfl,hc'⟩:=hy;rw[← ep];exact A ⟨k-1,ω,i+1,c',by first | (rw[← w];rfl) | rw[← w],ω,hc'⟩
end
def Pk.stat(t:H)(n:Int):H:={ t with out:={ t.out with U5:=n } }
def Pk.sRst(t:H)(i:Nat):H:={ t with reset:=t.reset.set i E }
def PR.sRst(h:PR b t)(i:Nat):PR b (t.sRst i):=⟨h.leg,h.sho,by show(t.reset.set i E).length=_;rw[r_];exact h.rst,h.oc⟩
def MJ(m:Img)(kind:Int)(i:Nat)(calm fr:Bool):List I×Int:=bif kind==0 then([],(0:Int))else OV m i calm fr kind
def Lq(b:U)(r:I):Prop:=∃(i:Nat) (k v:Int),i<b.B0.length∧r=⟨k,0,0,i,v⟩∧((k=4∧0≤v∧v≤4)∨((k=5∨k=6)∧0≤v∧v≤1))
def Aog(hcode:b.code=0)(h:∀r∈l,Lq b r):K3 l∧∀r∈l,Az b r=E:=by
 refine⟨λr hr=>?_,λr hr=>?_⟩<;>obtain⟨i,k,v,hi,rfl,h⟩:=h r hr
 ·show k=4∨k=5∨k=6
  omega
 ·exact Ahg hcode ⟨ω,ω⟩ h
def Bbe(hi:i<b.B0.length){k v:Int}(h:(k=4∧0≤v∧v≤4)∨((k=5∨k=6)∧0≤v∧v≤1)):∀r∈[(⟨k,0,0,i,v⟩:I)],Lq b r:=λr hr=>⟨i,k,v,hi,D_.1 hr,h⟩
def Acn(m:Img)(kind:Int)(hi:i<b.B0.length)(calm fr:Bool):(∀r∈(MJ m kind i calm fr).1,Lq b r)∧(MJ m kind i calm fr).1.length≤1:=by
 have no:∀e:Int,(∀r∈(([]:List I),e).1,Lq b r)∧(([]:List I),e).1.length≤1:=λe=>⟨λr h=>(by cases h),a3_ _⟩
 have one:∀{k v:Int},((k=4∧0≤v∧v≤4)∨((k=5∨k=6)∧0≤v∧v≤1))→(∀r∈([(⟨k,0,0,i,v⟩:I)],(0:Int)).1,Lq b r)∧([(⟨k,0,0,i,v⟩:I)],(0:Int)).1.length≤1:=λh=>⟨Bbe hi h,w_ 1⟩
 unfold MJ OV
 have ite:∀(c:Bool) {x y:List I×Int},((∀r∈x.1,Lq b r)∧x.1.length≤1)→((∀r∈y.1,Lq b r)∧y.1.length≤1)→(∀r∈(bif c then x else y).1,Lq b r)∧(bif c then x else y).1.length≤1:=λc _ _ h1 h2=>by
  cases c
  ·exact h2
  ·exact h1
 exact ite _ (no 0) (ite _ (ite _ (one (.inl ⟨rfl,by decide⟩)) (no _)) (ite _ (one (.inl ⟨rfl,by decide⟩)) (ite _ (one (.inl ⟨rfl,by decide⟩)) (ite _ (one (.inr ⟨.inr rfl,by decide⟩)) (ite _ (one (.inl ⟨rfl,by decide⟩)) (ite _ (ite _ (one (.inl ⟨rfl,by decide⟩)) (no _)) (ite _ (ite _ (one (.inl ⟨rfl,by decide⟩)) (no _)) (ite _ (ite _ (one (.inr ⟨.inr rfl,by decide⟩)) (no _)) (ite _ (one (.inr ⟨.inl rfl,by decide⟩)) (no _))))))))))
def Adv{b:U}(m:Img)(calm:List Bool):∀n,n≤b.B0.length→∀r∈Er m calm n,Lq b r
 |0,_,_,h=>by cases h
 |n+1,hn,r,h=>by
  rcases p_.1 h with h | h
  ·exact Adv m calm n ω r h
  ·unfold Nq at h
   cases hg:Ph m calm n with
   |false=>rw[hg]at h;cases h
   |true=>
    rw[hg,d_]at h;rcases p_.1 h with h | h
    ·rcases p_.1 h with h | h
     ·exact⟨n,4,2,ω,D_.1 h,.inl ⟨rfl,by decide⟩⟩
     ·cases hl:HN m n with
      |false=>rw[hl]at h;cases h
      |true=>rw[hl]at h;exact⟨n,6,0,ω,D_.1 h,.inr ⟨.inr rfl,by decide⟩⟩
    ·cases hl:flA m n with
     |false=>rw[hl]at h;cases h
     |true=>rw[hl]at h;exact⟨n,5,0,ω,D_.1 h,.inr ⟨.inl rfl,by decide⟩⟩
def JF(b:U)(m:Img)(kind:Int)(i:Nat)(cm:List Bool)(fr:Bool):List I:=
 (MJ m kind i (cm.getD i B) fr).1++Er (Ap m (MJ m kind i (cm.getD i B) fr).1) (bif kind !=0 then cm.set i B else cm) b.B0.length
structure Opr(b:Bldg)(x:Inp)(t t':Pk)(l:List Record):Prop where
 res:Al b t t' l∨De b t t' l
 how:∃(i:Nat) (cm:List Bool) (fr:Bool),x.car=(i:Int)∧i<b.B0.length∧cm.length=b.B0.length∧l=JF b t.m.G0 x.kind i cm fr∧t'.out={ t.out with U5:=(MJ t.m.G0 x.kind i (cm.getD i false) fr).2 }
section
variable{b:U}(hw:BW b){x:Inp}{g:Bool}(hx:InOK b x)
include hw
theorem BelOK.new:BelOK b i ⟨-1,0,0,[],0,B⟩:=by
 have:=hw.small.lo
 exact⟨⟨by decide,show(-1:Int)≤b.C0-1 by omega⟩,by decide,by decide,by decide,λ_=>rfl,.nil⟩
theorem Bbj(hm:PM b t.m)(hr:PR b t)(e:Int)(was:Img)(hwl:was.F0.length=b.B0.length):R (BA (((),(),(),e,t.m.G0.F0,(t.m.G0.F0.length:Int),(0:Int),()),((was.F0,was.O0,was.K0,was.A0,()),(x.kind,x.car,()),t.tup b x g,()))) λy=>∃t':H,y=((),(t'.tup b x g,()))∧PM b t'.m∧PR b t'∧Fix t t'∧t'.out=t.out:=by
 have hcc:=Aj hw.code;have hp:=hm.jst.img.lp;unfold BA;refine Sat.loop (λ(k:Nat) z=>∃(i:Nat) (t':H),z=(((),(),(),e,t.m.G0.F0,(t.m.G0.F0.length:Int),(i:Int),()),((was.F0,was.O0,was.K0,was.A0,()),(x.kind,x.car,()),t'.tup b x g,()))∧i+k=b.B0.length∧PM b t'.m∧PR b t'∧Fix t t'∧t'.out=t.out) (λk z hz=>?_) b.B0.length ⟨0,t,rfl,q_ _,hm,hr,.rfl' t,rfl⟩ ω
 obtain⟨i,u,rfl,hk,hm,hr,hf,ho⟩:=hz;show R (u.ap (Eu e t.m.G0.F0 (t.m.G0.F0.length:Int) (i:Int) was.F0 was.O0 was.K0 was.A0 x.kind x.car) b x g) _;unfold Pk.ap Eu;refine J (λq=>?_) λ_=>A ⟨u,rfl,hm,hr,hf,ho⟩
 have q:(i:Int)<(t.m.G0.F0.length:Int):=m_ q;have hi:i<b.B0.length:=ω
 have w:=Dg (n:=i) ω
 have i2:N (i:Int) u.m.W0.length=E:=Aa ω (by rw[hm.bel];omega)
 have i3:N (i:Int) u.m.B0.length=E:=Aa ω (by rw[hm.car];omega)
 have i4:N (i:Int) u.reset.length=E:=Aa ω (by rw[hr.rst];omega)
 refine C (Aa ω q) (C (Aa ω ω) ?_)
 refine D (Q:=λ_=>True) (by unfold Lh;exact Sat.go) λy1 _=>J (λ_=>?_) λ_=>?_
 ·refine aB rfl (C i2 (C i3 (C i4 ?_)))
  exact A ⟨k-1,ω,i+1,((u.sBel i ⟨-1,0,0,[],0,B⟩).sCar i AS).sRst i,by first | (rw[← w];rfl) | rw[← w],ω,(hm.sBel (BelOK.new hw)).sCar i (Mw hw.small),((hr.sBel i _).sCar i _).sRst i,⟨hf.im,hf.st,hf.bu,hf.e,hf.out⟩,ho⟩
 refine D (Q:=λy=>∃c:Bool,y=(((),(),(),e,(i:Int),t.m.G0.F0,(t.m.G0.F0.length:Int),(i:Int),c,()),((was.F0,was.O0,was.K0,was.A0,()),(x.kind,x.car,()),u.tup b x g,()))) (J (λ_=>J (λ_=>A ⟨_,rfl⟩) λ_=>A ⟨_,rfl⟩) λ_=>A ⟨_,rfl⟩) λy3 h3=>?_
 obtain⟨c,rfl⟩:=h3;refine J (λ_=>C i2 ?_) λ_=>A ⟨k-1,ω,i+1,u,by first | (rw[← w];rfl) | rw[← w],ω,hm,hr,hf,ho⟩
 refine D (Aa4 hw.small hw.code hi (hm.belv i hi)) λy4 h4=>C i2 (C i3 (C i4 ?_))
 obtain⟨ya,yb,yc⟩:=y4;obtain⟨v,e4,hv⟩:=h4;change yb=_ at e4;subst e4;exact A ⟨k-1,ω,i+1,((u.sBel i v).sCar i AS).sRst i,by first | (rw[← w];rfl) | rw[← w],ω,(hm.sBel hv).sCar i (Mw hw.small),((hr.sBel i _).sCar i _).sRst i,⟨hf.im,hf.st,hf.bu,hf.e,hf.out⟩,ho⟩
include hx
theorem Axo(hm:PM b t.m)(hr:PR b t)(hb:Bud t):R (t.ap Dd b x g) λy=>∃(t':H) (l:List I),(y=.inl ((),(t'.tup b x g,()))∨y=.inr ((),(t'.tup b x g,())))∧Opr b x t t' l:=by
 have hcc:=Aj hw.code;have he:=EC hw.small hm.jst.img;obtain⟨fr,hfr⟩:=Bf0 hm.jst.img;obtain⟨i,hi⟩:=e5_ hx.car.1;have hic:i<b.B0.length:=by have:=hx.car.2;omega
 unfold Pk.ap Dd;refine D (Bjg hw (g:=g) hm hx.len) λy1 h1=>?_
 obtain⟨cm,rfl,hcm⟩:=h1;have hord:=Ae1 hm.jst.img hw.small ω hx.kind hic hcm hfr
 rw[← hi]at hord;refine aB hord ?_;obtain⟨ok1,len1⟩:=Acn (b:=b) t.m.G0 x.kind hic (cm.getD i B) fr;obtain⟨k31,v1⟩:=Aog hw.code ok1;have hO:(bif x.kind==0 then([],(0:Int))else OV t.m.G0 i (cm.getD i B) fr x.kind)=MJ t.m.G0 x.kind i (cm.getD i B) fr:=rfl;have hL:JF b t.m.G0 x.kind i cm fr=(MJ t.m.G0 x.kind i (cm.getD i B) fr).1++Er (Ap t.m.G0 (MJ t.m.G0 x.kind i (cm.getD i B) fr).1) (bif x.kind !=0 then cm.set i B else cm) b.B0.length:=rfl;rw[hO];generalize hOO:MJ t.m.G0 x.kind i (cm.getD i B) fr=O at ok1 len1 k31 v1 hL;obtain⟨O1,O2⟩:=O;refine D (Q:=λy=>∃t',y=(((),(),(),cm,O2,()),((t.m.G0.F0,t.m.G0.O0,t.m.G0.K0,t.m.G0.A0,()),(x.kind,x.car,()),t'.tup b x g,()))∧Wr b (t.stat O2) O1 t') ?_ λy5 h5=>?_
 ·refine D (YA hw.small (x:=x) (g:=g) (t:=t.stat O2) hm.jst hb.2 hb.1 (k31.good _ v1) (show O1.length≤100000 by have:O1.length≤1:=len1;omega)) λy2 h2=>?_
  obtain⟨t',e | e,h⟩:=h2
  ·subst e;exact A ⟨t',rfl,h⟩
  ·subst e;exact A ⟨t',rfl,h⟩
 obtain⟨t1,rfl,hw1⟩:=h5;obtain⟨r1,o1⟩:=hw1.fin hw (t:=t.stat O2) hm ⟨hr.leg,hr.sho,hr.rst,hr.oc⟩ k31
 have r1:Al b t t1 O1∨De b t t1 O1:=by
  rcases r1 with r | r
  ·exact .inl ⟨r.e,r.m,r.r,r.im,r.b0,r.b1,r.b2⟩
  ·exact .inr ⟨r.e,r.lo,r.ok,r.rp⟩
 have hsl:(bif x.kind !=0 then cm.set i B else cm).length=b.B0.length:=by
  cases x.kind !=0
  ·exact hcm
  ·show(cm.set i B).length=_;rw[r_];exact hcm
 refine aB (b:=(((),(),(),(bif x.kind !=0 then cm.set i B else cm),O2,()),((t.m.G0.F0,t.m.G0.O0,t.m.G0.K0,t.m.G0.A0,()),(x.kind,x.car,()),t1.tup b x g,()))) ?_ ?_
 ·show(bif x.kind !=0 then(bif N x.car cm.length then _ else none)else _)=_
  cases x.kind !=0 with
  |false=>rfl
  |true=>
   rw[d_,Aa hx.car.1 (by have:=hx.car.2;omega),d_,d_]
   show S (((),(),(),cm.set (aA x.car) B,_,()),_)=_;rw[hi,j_]
 generalize(bif x.kind !=0 then cm.set i B else cm)=c2 at hsl hL;refine D (Q:=λy=>∃t2,y=(((),(),(),O2,()),((t.m.G0.F0,t.m.G0.O0,t.m.G0.K0,t.m.G0.A0,()),(x.kind,x.car,()),t2.tup b x g,()))∧(Al b t t2 (JF b t.m.G0 x.kind i cm fr)∨De b t t2 (JF b t.m.G0 x.kind i cm fr))∧t2.out={ t.out with U5:=O2 }) ?_ λy11 h11=>?_
 ·refine J (λq=>?_) λq=>?_
  ·have q:t1.e=0:=eq_of_beq q
   have r:Al b t t1 O1:=by
    rcases r1 with r | r
    ·exact r
    ·have:=r.e;omega
   have he1:=EC hw.small r.m.jst.img;have hb1:=r.bud hb;refine D (Q:=λy=>∃t2,y=(((),(),(),O2,()),((t.m.G0.F0,t.m.G0.O0,t.m.G0.K0,t.m.G0.A0,()),(x.kind,x.car,()),t2.tup b x g,()))∧(Al b t t2 (JF b t.m.G0 x.kind i cm fr)∨De b t t2 (JF b t.m.G0 x.kind i cm fr))∧t2.out={ t.out with U5:=O2 }) ?_ λy10 h10=>by obtain⟨t2,rfl,h⟩:=h10;exact A ⟨t2,rfl,h⟩
   have hauto:=Ah2 r.m.jst.img hw.small ω hsl
   have ok2:=Adv (b:=b) t1.m.G0 c2 b.B0.length (w_ _);have len2:=Tr t1.m.G0 c2 b.B0.length;rw[r.im]at ok2 len2;obtain⟨k32,v2⟩:=Aog hw.code ok2;refine aB hauto ?_;rw[r.im];refine D (YA hw.small (x:=x) (g:=g) (t:=t1) r.m.jst hb1.2 hb1.1 (k32.good _ v2) (ω:(Er (Ap t.m.G0 O1) c2 b.B0.length).length≤100000)) λy2 h2=>?_
   have fin:∀t2,Wr b t1 (Er (Ap t.m.G0 O1) c2 b.B0.length) t2→(Al b t t2 (JF b t.m.G0 x.kind i cm fr)∨De b t t2 (JF b t.m.G0 x.kind i cm fr))∧t2.out={ t.out with U5:=O2 }:=λt2 h=>by
    obtain⟨r2,o2⟩:=h.fin hw r.m r.r k32;rw[hL];refine⟨?_,by rw[o2,o1];rfl⟩
    rcases r2 with r2 | r2
    ·exact .inl (r.app r2)
    ·exact .inr (r.de r2)
   obtain⟨t2,e | e,h⟩:=h2
   ·subst e;exact A ⟨t2,rfl,fin t2 h⟩
   ·subst e;exact A ⟨t2,rfl,fin t2 h⟩
  ·have q:¬t1.e=0:=λh=>by have q:(t1.e==0)=B:=q;rw[h]at q;cases q
   rcases r1 with r | r
   ·exact absurd r.e q
   ·exact A ⟨t1,rfl,.inr (by rw[hL];exact r.mono _),by rw[o1];rfl⟩
 ·obtain⟨t2,rfl,r2,o2⟩:=h11
  have how:∀t':H,t'.out={ t.out with U5:=O2 }→∃(i':Nat) (cm':List Bool) (fr':Bool),x.car=(i':Int)∧i'<b.B0.length∧cm'.length=b.B0.length∧JF b t.m.G0 x.kind i cm fr=JF b t.m.G0 x.kind i' cm' fr'∧t'.out={ t.out with U5:=(MJ t.m.G0 x.kind i' (cm'.getD i' B) fr').2 }:=λt' ho=>⟨i,cm,fr,hi,hic,hcm,rfl,by rw[hOO];exact ho⟩
  refine J (λ_=>A ⟨t2,_,.inl rfl,r2,how t2 o2⟩) λq=>?_
  have q:t2.e=0:=by
   have q:(t2.e !=0)=B:=q;simpa using q
  have r:Al b t t2 (JF b t.m.G0 x.kind i cm fr):=by
   rcases r2 with r | r
   ·exact r
   ·have:=r.e;omega
  refine D (Bbj hw (x:=x) (g:=g) r.m r.r O2 t.m.G0 hm.jst.img.lp) λy12 h12=>?_
  obtain⟨t3,rfl,m3,r3,f3,o3⟩:=h12;exact A ⟨t3,_,.inr rfl,.inl ⟨f3.e.trans r.e,m3,r3,f3.im.trans r.im,by rw[f3.bu];exact r.b0,by rw[f3.bu];exact r.b1,by rw[f3.bu];exact r.b2⟩,how t3 (o3.trans o2)⟩
end
end Go.Ovl
