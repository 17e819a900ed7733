import Derived.Test.YtefkmkbfjmahhaaGreatDoorOvJ
import Derived.Test.YtefkmkbfjmahhaaGreatDoorOvI
set_option linter.all false
open Bool renaming false->A,true->D
open Go.Ovl.Sat renaming ret->B,bifT->C,bindS->E,bic->I,bindE->aA
open Go.Ovl renaming Pk->H,Record->N,Sat->S,Bldg->U,Debounced->aC
open Go.Ab renaming inB->J
open Option renaming some->R
open Int renaming toNat->aB
open Go.Ovl.machine_ticker renaming mk->aD
namespace Go.Ovl
open Go Go.Ab
set_option maxRecDepth 100000
variable{b:U}{l:List N}{n:Int}{t:H}{s:Deb}{i:Nat}{r:Contacts}{z:aC}{m:Img}
noncomputable instance isDeb_ti(n:Int)(s:Deb):Decidable (s.is n):=Classical.propDecidable _
def Deb.rng(n:Int)(s:Deb):Prop:=∀j,j<36→0≤s.k.getD j 0∧s.k.getD j 0<n
noncomputable instance rngDeb_ti(n:Int)(s:Deb):Decidable (s.rng n):=Classical.propDecidable _
def Azx:s.is n↔1≤n∧n≤16∧s.rng n:=Iff.rfl
def Aj1(h:s.wf)(hs:s.is n)(hr:r.wf):
  Gd ((n,(),(),(),(0:Int),()),(s.tup,r.tup,Deb.no.tup,()))=R (((),(),()),((s.step n r).tup,Deb.no.tup,())):=by
 unfold Gd;refine Aj (AP 36 (λ(i:Nat) (s:Deb)=>((n,(),(),(),(i:Int),()),(s.tup,r.tup,Deb.no.tup,()))) (Deb.at n r) (λ_ s=>s.wf∧s.is n) (λs=>(((),(),()),(s.tup,Deb.no.tup,()))) (λi s hi hin=>⟨Aj0 hin.1 hin.2 hr Deb.no hi,Asl hin.1 hin.2 hi⟩) (λs hin=>?_) 36 0 s rfl ⟨h,hs⟩).1 ω;show HL n ((36:Nat):Int) s.c.D0 s.c.Up s.c.Q3 s.c.R5 s.c.Y3 (s.k.getD 0 0) (s.k.getD 1 0) (s.k.getD 2 0) (s.k.getD 3 0) (s.k.getD 4 0) (s.k.getD 5 0) (s.k.getD 6 0) (s.k.getD 7 0) (s.k.getD 8 0) (s.k.getD 9 0) (s.k.getD 10 0) (s.k.getD 11 0) (s.k.getD 12 0) (s.k.getD 13 0) (s.k.getD 14 0) (s.k.getD 15 0) (s.k.getD 16 0) (s.k.getD 17 0) (s.k.getD 18 0) (s.k.getD 19 0) (s.k.getD 20 0) (s.k.getD 21 0) (s.k.getD 22 0) (s.k.getD 23 0) (s.k.getD 24 0) (s.k.getD 25 0) (s.k.getD 26 0) (s.k.getD 27 0) (s.k.getD 28 0) (s.k.getD 29 0) (s.k.getD 30 0) (s.k.getD 31 0) (s.k.getD 32 0) (s.k.getD 33 0) (s.k.getD 34 0) (s.k.getD 35 0) r.D0 r.Up r.Q3 r.R5 r.Y3 Deb.no.c.D0 Deb.no.c.Up Deb.no.c.Q3 Deb.no.c.R5 Deb.no.c.Y3 (Deb.no.k.getD 0 0) (Deb.no.k.getD 1 0) (Deb.no.k.getD 2 0) (Deb.no.k.getD 3 0) (Deb.no.k.getD 4 0) (Deb.no.k.getD 5 0) (Deb.no.k.getD 6 0) (Deb.no.k.getD 7 0) (Deb.no.k.getD 8 0) (Deb.no.k.getD 9 0) (Deb.no.k.getD 10 0) (Deb.no.k.getD 11 0) (Deb.no.k.getD 12 0) (Deb.no.k.getD 13 0) (Deb.no.k.getD 14 0) (Deb.no.k.getD 15 0) (Deb.no.k.getD 16 0) (Deb.no.k.getD 17 0) (Deb.no.k.getD 18 0) (Deb.no.k.getD 19 0) (Deb.no.k.getD 20 0) (Deb.no.k.getD 21 0) (Deb.no.k.getD 22 0) (Deb.no.k.getD 23 0) (Deb.no.k.getD 24 0) (Deb.no.k.getD 25 0) (Deb.no.k.getD 26 0) (Deb.no.k.getD 27 0) (Deb.no.k.getD 28 0) (Deb.no.k.getD 29 0) (Deb.no.k.getD 30 0) (Deb.no.k.getD 31 0) (Deb.no.k.getD 32 0) (Deb.no.k.getD 33 0) (Deb.no.k.getD 34 0) (Deb.no.k.getD 35 0)=_;unfold HL;have e:decide (((36:Nat):Int)<36)=A:=rfl;rw[e];rfl
def Ajz(hl:s.k.length=36):EH ((n,s.cnt,(0:Int),()),())=R (if s.rng n then .inl ((),())else .inr ((A,()),())):=by
 unfold EH;have key:∀(step:_→_),(∀i:Nat,step ((n,s.cnt,(i:Int),()),())=Dd n (s.k.getD 0 0) (s.k.getD 1 0) (s.k.getD 2 0) (s.k.getD 3 0) (s.k.getD 4 0) (s.k.getD 5 0) (s.k.getD 6 0) (s.k.getD 7 0) (s.k.getD 8 0) (s.k.getD 9 0) (s.k.getD 10 0) (s.k.getD 11 0) (s.k.getD 12 0) (s.k.getD 13 0) (s.k.getD 14 0) (s.k.getD 15 0) (s.k.getD 16 0) (s.k.getD 17 0) (s.k.getD 18 0) (s.k.getD 19 0) (s.k.getD 20 0) (s.k.getD 21 0) (s.k.getD 22 0) (s.k.getD 23 0) (s.k.getD 24 0) (s.k.getD 25 0) (s.k.getD 26 0) (s.k.getD 27 0) (s.k.getD 28 0) (s.k.getD 29 0) (s.k.getD 30 0) (s.k.getD 31 0) (s.k.getD 32 0) (s.k.getD 33 0) (s.k.getD 34 0) (s.k.getD 35 0) (i:Int))→∀(m i:Nat),i+m=36→(∀j,j<i→0≤s.k.getD j 0∧s.k.getD j 0<n)→BJ step (m+1) ((n,s.cnt,(i:Int),()),())=R (if s.rng n then Sum.inl ((),())else Sum.inr ((A,()),())):=by
  intro step hstep m;induction m with
  |zero=>
   intro i hi hj
   have:i=36:=ω
   subst this;rw[if_pos (show s.rng n from hj)];refine AA ?_;rw[hstep];unfold Dd;have e:decide (((36:Nat):Int)<36)=A:=rfl;rw[e];rfl
  |succ m ih=>
   intro i hi hj;have e0:decide ((i:Int)<36)=D:=by simp;omega
   have ib:J (i:Int) 36=D:=Ac ω ω;have tn:aB (i:Int)=i:=ω;have w:IntKind.i64.wrap ((i:Int)+1)=((i+1:Nat):Int):=by rw[Aa ω ω];omega
   by_cases h1:s.k.getD i 0<0
   ·rw[if_neg (show ¬s.rng n from λhall=>by have:=(hall i ω).1;omega)];refine AA ?_;rw[hstep];unfold Dd;have e1:decide (s.k.getD i 0<0)=D:=by simpa using h1
    simp only[e0,ib,tn,VZ hl,e1,d_]
   ·have e1:decide (s.k.getD i 0<0)=A:=by simpa using h1
    by_cases h2:n≤s.k.getD i 0
    ·rw[if_neg (show ¬s.rng n from λhall=>by have:=(hall i ω).2;omega)];refine AA ?_;rw[hstep];unfold Dd;have e2:decide (n≤s.k.getD i 0)=D:=by simpa using h2
     simp only[e0,ib,tn,VZ hl,e1,e2,d_,b_]
    ·have e2:decide (n≤s.k.getD i 0)=A:=by simpa using h2
     have st:step ((n,s.cnt,(i:Int),()),())=R (.inl ((n,s.cnt,((i+1:Nat):Int),()),())):=by rw[hstep];unfold Dd;simp only[e0,ib,tn,VZ hl,e1,e2,d_,b_,w];rfl
     rw[Bt st];exact ih (i+1) ω λj hj'=>if e:j=i then by subst e;omega else hj j ω
 exact Aj (key _ (λ_=>rfl) 36 0 rfl (λj hj=>by omega)) ω
def Ws(hl:s.k.length=36):Ey n s.c.D0 s.c.Up s.c.Q3 s.c.R5 s.c.Y3 (s.k.getD 0 0) (s.k.getD 1 0) (s.k.getD 2 0) (s.k.getD 3 0) (s.k.getD 4 0) (s.k.getD 5 0) (s.k.getD 6 0) (s.k.getD 7 0) (s.k.getD 8 0) (s.k.getD 9 0) (s.k.getD 10 0) (s.k.getD 11 0) (s.k.getD 12 0) (s.k.getD 13 0) (s.k.getD 14 0) (s.k.getD 15 0) (s.k.getD 16 0) (s.k.getD 17 0) (s.k.getD 18 0) (s.k.getD 19 0) (s.k.getD 20 0) (s.k.getD 21 0) (s.k.getD 22 0) (s.k.getD 23 0) (s.k.getD 24 0) (s.k.getD 25 0) (s.k.getD 26 0) (s.k.getD 27 0) (s.k.getD 28 0) (s.k.getD 29 0) (s.k.getD 30 0) (s.k.getD 31 0) (s.k.getD 32 0) (s.k.getD 33 0) (s.k.getD 34 0) (s.k.getD 35 0)=R ((decide (s.is n),()),()):=by
 unfold Ey;by_cases h1:n<1
 ·have:¬s.is n:=λh=>by have:=h.1;omega
  simp[h1,this]
 ·have h1':1≤n:=ω;by_cases h2:16<n
  ·have:¬s.is n:=λh=>by have:=h.2.1;omega
   simp[h1,h2,this]
  ·have h2':n≤16:=ω;have hl':=Ajz (n:=n) hl;simp only[Deb.cnt]at hl';have e1:decide (n<1)=A:=by simpa using h1
   have e2:decide (16<n)=A:=by simpa using h2
   simp only[e1,e2,b_,hl',a_];by_cases h3:s.rng n
   ·rw[if_pos h3,c_ (Azx.2 ⟨h1',h2',h3⟩)]
   ·rw[if_neg h3,f_ λh=>h3 (Azx.1 h).2.2]
def Aab(h:s.wf)(hs:s.is n)(hr:r.wf):MA n s.c.D0 s.c.Up s.c.Q3 s.c.R5 s.c.Y3 (s.k.getD 0 0) (s.k.getD 1 0) (s.k.getD 2 0) (s.k.getD 3 0) (s.k.getD 4 0) (s.k.getD 5 0) (s.k.getD 6 0) (s.k.getD 7 0) (s.k.getD 8 0) (s.k.getD 9 0) (s.k.getD 10 0) (s.k.getD 11 0) (s.k.getD 12 0) (s.k.getD 13 0) (s.k.getD 14 0) (s.k.getD 15 0) (s.k.getD 16 0) (s.k.getD 17 0) (s.k.getD 18 0) (s.k.getD 19 0) (s.k.getD 20 0) (s.k.getD 21 0) (s.k.getD 22 0) (s.k.getD 23 0) (s.k.getD 24 0) (s.k.getD 25 0) (s.k.getD 26 0) (s.k.getD 27 0) (s.k.getD 28 0) (s.k.getD 29 0) (s.k.getD 30 0) (s.k.getD 31 0) (s.k.getD 32 0) (s.k.getD 33 0) (s.k.getD 34 0) (s.k.getD 35 0) r.D0 r.Up r.Q3 r.R5 r.Y3=R (((),()),((s.step n r).tup,())):=by have hl:=Aj1 h hs hr;unfold MA;show(Gd ((n,(),(),(),(0:Int),()),(s.tup,r.tup,Deb.no.tup,()))).bind _=_;rw[hl];rfl
def Aaa(h:s.k.length=36)(hc:s.c.wf)(hr:r.wf):
  JC n s.c.D0 s.c.Up s.c.Q3 s.c.R5 s.c.Y3 (s.k.getD 0 0) (s.k.getD 1 0) (s.k.getD 2 0) (s.k.getD 3 0) (s.k.getD 4 0) (s.k.getD 5 0) (s.k.getD 6 0) (s.k.getD 7 0) (s.k.getD 8 0) (s.k.getD 9 0) (s.k.getD 10 0) (s.k.getD 11 0) (s.k.getD 12 0) (s.k.getD 13 0) (s.k.getD 14 0) (s.k.getD 15 0) (s.k.getD 16 0) (s.k.getD 17 0) (s.k.getD 18 0) (s.k.getD 19 0) (s.k.getD 20 0) (s.k.getD 21 0) (s.k.getD 22 0) (s.k.getD 23 0) (s.k.getD 24 0) (s.k.getD 25 0) (s.k.getD 26 0) (s.k.getD 27 0) (s.k.getD 28 0) (s.k.getD 29 0) (s.k.getD 30 0) (s.k.getD 31 0) (s.k.getD 32 0) (s.k.getD 33 0) (s.k.getD 34 0) (s.k.getD 35 0) r.D0 r.Up r.Q3 r.R5 r.Y3=if s.is n then R (((),(0:Int),()),((s.step n r).tup,()))else R (((),(1:Int),()),(Deb.no.tup,())):=by
 unfold JC;rw[Ws h];by_cases hs:s.is n
 ·have hw:s.wf:=⟨hc,h,λj hj=>(hs.2.2 j hj).1,λj hj=>by have:=(hs.2.2 j hj).2;have:=hs.2.1;omega⟩
  simp only[hs,decide_true,a_,m_,b_,g6_];rw[Aab hw hs hr];rfl
 ·simp only[hs,decide_false,a_,c1_,d_,e3_];rfl
structure BW(b:Bldg):Prop where
 small:b.small
 code:b.code=0
 room:b.I0≤600
 full:Sat (arF .sub .f64 b.N0 4589168020290535424) λ_=>True
 over:Sat (arF .sub .f64 b.O0 4589168020290535424) λ_=>True
def Atf(b:U)(c:aC):Prop:=UM b.G0 c=D∧0≤c.V0∧c.V0<4294967296
structure PM(b:Bldg)(m:Mch):Prop where
 jst:Jst b m.U0 m.C0
 con:m.R1.length=b.B0.length
 conv:∀c∈m.R1,Atf b c
 bel:m.X0.length=b.B0.length
 belv:∀i,i<b.B0.length→BelOK b i (m.X0.getD i HX)
 car:m.B0.length=b.B0.length
 carv:∀c∈m.B0,Hn b c=true
 lod:m.M2.length=b.B0.length
 lodv:∀l∈m.M2,0≤l.O5∧l.O5≤4
 lit:m.I3.length=b.B0.length
 exl:m.X1.length=m.C0.A0.length
 exv:∀x∈m.X1,0≤x∧x≤1000000
 tick:0≤m.U3∧m.U3≤1000000
 flt:0≤m.Q2∧m.Q2≤1000000
 ref:0≤m.G2∧m.G2≤1000000
structure PR(b:Bldg)(t:Pk):Prop where
 leg:t.legacy.length=b.B0.length
 sho:t.shows.length=b.B0.length
 rst:t.reset.length=b.B0.length
 oc:t.out.B0.length=b.B0.length
structure Fix(t t':Pk):Prop where
 im:t'.m.C0=t.m.C0
 st:t'.m.U0=t.m.U0
 bu:t'.budget=t.budget
 e:t'.e=t.e
 out:t'.out={ t.out with B0:=t'.out.B0 }
def Fix.rfl'(t:H):Fix t t:=⟨rfl,rfl,rfl,rfl,rfl⟩
def Fix.trans{a c d:H}(h:Fix a c)(k:Fix c d):Fix a d:=⟨k.im.trans h.im,k.st.trans h.st,k.bu.trans h.bu,k.e.trans h.e,by rw[k.out,h.out]⟩
def Ahu{α:Type}{P:α→Prop}{l:List α}(h:∀x∈l,P x){v:α}(hv:P v)(i:Nat):∀x∈l.set i v,P x:=λx hx=>by
 rcases List.mem_or_eq_of_mem_set hx with hx | rfl
 ·exact h x hx
 ·exact hv
section
variable{b:U}{m:Mch}
def PM.sBel(h:PM b m){v:Belief}(hv:BelOK b i v):PM b { m with X0:=m.X0.set i v }:=
 ⟨h.jst,h.con,h.conv,by show(m.X0.set i v).length=_;rw[r_];exact h.bel,λj hj=>by
  show BelOK b j ((m.X0.set i v).getD j HX);by_cases e:i=j
  ·subst e;rw[Bx _ _ (by rw[h.bel];exact hj)];exact hv
  ·rw[DJ _ _ e];exact h.belv j hj,h.car,h.carv,h.lod,h.lodv,h.lit,h.exl,h.exv,h.tick,h.flt,h.ref⟩
def PM.sCar(h:PM b m)(i:Nat){v:NewCar}(hv:Hn b v=D):PM b { m with B0:=m.B0.set i v }:=⟨h.jst,h.con,h.conv,h.bel,h.belv,by show(m.B0.set i v).length=_;rw[r_];exact h.car,Ahu h.carv hv i,h.lod,h.lodv,h.lit,h.exl,h.exv,h.tick,h.flt,h.ref⟩
def PM.sCon(h:PM b m)(i:Nat){v:aC}(hv:Atf b v){w:Loaded}(hw:0≤w.O5∧w.O5≤4):PM b { m with R1:=m.R1.set i v,M2:=m.M2.set i w }:=⟨h.jst,by show(m.R1.set i v).length=_;rw[r_];exact h.con,Ahu h.conv hv i,h.bel,h.belv,h.car,h.carv,by show(m.M2.set i w).length=_;rw[r_];exact h.lod,Ahu h.lodv hw i,h.lit,h.exl,h.exv,h.tick,h.flt,h.ref⟩
def PM.sTick(h:PM b m){k:Int}(hn:0≤n∧n≤1000000)(hk:0≤k∧k≤1000000):PM b { m with U3:=n,Q2:=k }:=⟨h.jst,h.con,h.conv,h.bel,h.belv,h.car,h.carv,h.lod,h.lodv,h.lit,h.exl,h.exv,hn,hk,h.ref⟩
end
@[reducible] def Bws(z:aC):=(z.V0,z.Y1,z.K1,z.L1,z.E1,z.B5,z.C5,z.E5,z.F5,z.G5,z.H5,z.I5,z.K5,z.L5,z.M5,z.Z3,z.A4,z.B4,z.C4,z.D4,z.E4,z.F4,z.G4,z.H4,z.I4,z.J4,z.K4,z.L4,z.M4,z.N4,z.O4,z.P4,z.Q4,z.R4,z.S4,z.T4,z.U4,z.V4,z.W4,z.X4,z.Y4,())
def Yo(z:aC):Deb:=⟨⟨z.V0,z.Y1,z.K1,z.L1,z.E1⟩,Abo z⟩
def Ath(s:Deb):aC:=Debounced.mk s.c.D0 s.c.Up s.c.Q3 s.c.R5 s.c.Y3 (s.k.getD 0 0) (s.k.getD 1 0) (s.k.getD 2 0) (s.k.getD 3 0) (s.k.getD 4 0) (s.k.getD 5 0) (s.k.getD 6 0) (s.k.getD 7 0) (s.k.getD 8 0) (s.k.getD 9 0) (s.k.getD 10 0) (s.k.getD 11 0) (s.k.getD 12 0) (s.k.getD 13 0) (s.k.getD 14 0) (s.k.getD 15 0) (s.k.getD 16 0) (s.k.getD 17 0) (s.k.getD 18 0) (s.k.getD 19 0) (s.k.getD 20 0) (s.k.getD 21 0) (s.k.getD 22 0) (s.k.getD 23 0) (s.k.getD 24 0) (s.k.getD 25 0) (s.k.getD 26 0) (s.k.getD 27 0) (s.k.getD 28 0) (s.k.getD 29 0) (s.k.getD 30 0) (s.k.getD 31 0) (s.k.getD 32 0) (s.k.getD 33 0) (s.k.getD 34 0) (s.k.getD 35 0)
def Aze:UM n z=D↔(Yo z).is n:=by
 unfold UM Deb.is;rw[e_,e_,v_,v_];refine and_congr_right λ_=>and_congr_right λ_=>⟨λh j hj=>?_,λh=>UG 36 0 λk _ hk=>?_⟩
 ·have:=TF 36 0 h j (a6_ _) ω
  unfold Al3 at this;simp only[e_,v_]at this;exact this
 ·have:=h k ω
  unfold Al3;simp only[e_,v_];exact this
def Agd(hcode:b.code=0)(h:Atf b z){f:Int}(hf:0≤f∧f<4294967296)(u d o c:Bool):S (JC b.G0 z.V0 z.Y1 z.K1 z.L1 z.E1 z.B5 z.C5 z.E5 z.F5 z.G5 z.H5 z.I5 z.K5 z.L5 z.M5 z.Z3 z.A4 z.B4 z.C4 z.D4 z.E4 z.F4 z.G4 z.H4 z.I4 z.J4 z.K4 z.L4 z.M4 z.N4 z.O4 z.P4 z.Q4 z.R4 z.S4 z.T4 z.U4 z.V4 z.W4 z.X4 z.Y4 f u d o c) λy=>∃z',y.2.1=Bws z'∧Atf b z'∧z'=Ath ((Yo z).step b.G0 ⟨f,u,d,o,c⟩):=by
 have hi:=Aze.1 h.1;have hd:=Al4 hcode;have hw:(Yo z).wf:=⟨h.2,rfl,λj hj=>(hi.2.2 j hj).1,λj hj=>by have:=(hi.2.2 j hj).2;omega⟩
 have e:=Aaa (n:=b.G0) (s:=Yo z) rfl h.2 (r:=⟨f,u,d,o,c⟩) hf;rw[if_pos hi]at e;obtain⟨w1,w2⟩:=Bjr hw hi ⟨f,u,d,o,c⟩;refine⟨_,e,Ath ((Yo z).step b.G0 ⟨f,u,d,o,c⟩),rfl,⟨Aze.2 ?_,w1.c⟩,rfl⟩;generalize(Yo z).step b.G0 ⟨f,u,d,o,c⟩=s at w1 w2
 have:Yo (Ath s)=s:=by unfold Yo;rw[show Abo (Ath s)=s.k from VZ w1.len];rfl
 rw[this];exact w2
def Aes(h:0≤n∧n≤1000000):S (Hx n) λy=>0≤y.1.1∧y.1.1≤1000000:=by
 unfold Hx;rw[Aa ω ω];refine B ?_;show 0≤(bif decide (1000000<n+1)then(1000000:Int)else n+1)∧(bif decide (1000000<n+1)then(1000000:Int)else n+1)≤1000000;by_cases g:1000000<n+1
 ·rw[c_ g,d_];omega
 ·rw[f_ g,b_];omega
section
variable{b:U}(hw:BW b){x:Inp}{g:Bool}(hx:g=D→InOK b x)
include hw hx
theorem Brx(hm:PM b t.m)(hr:PR b t):S (t.ap Cb b x g) λy=>∃t',(y=.inl ((),(t'.tup b x g,()))∨y=.inr ((),(t'.tup b x g,())))∧PM b t'.m∧PR b t'∧Fix t t':=by
 have hcc:=An hw.code;unfold Pk.ap Cb;refine E (Aes hm.tick) λn1 h1=>I (λ_=>?_) λhg=>?_
 ·exact E (Aes hm.flt) λn2 h2=>B ⟨{ t with m:={ t.m with U3:=n1.1.1,Q2:=n2.1.1 } },.inl rfl,hm.sTick h1 h2,⟨hr.leg,hr.sho,hr.rst,hr.oc⟩,⟨rfl,rfl,rfl,rfl,rfl⟩⟩
 ·rw[Bool.not_eq_false']at hg;have hxi:=hx hg;refine E (Q:=λy=>∃t',y=((),(t'.tup b x g,()))∧PM b t'.m∧PR b t'∧Fix t t') ?_ λy hy=>by obtain⟨t',rfl,h⟩:=hy;exact B ⟨t',.inr rfl,h⟩
  unfold BD;refine Sat.loop (λ(k:Nat) z=>∃(i:Nat) (t':H),z=(((),x.cars,(x.cars.length:Int),(i:Int),()),(t'.tup b x g,()))∧i+k=x.cars.length∧PM b t'.m∧PR b t'∧Fix t t') (λk z hz=>?_) x.cars.length ⟨0,{ t with m:={ t.m with U3:=n1.1.1 } },rfl,p_ _,hm.sTick h1 hm.flt,⟨hr.leg,hr.sho,hr.rst,hr.oc⟩,⟨rfl,rfl,rfl,rfl,rfl⟩⟩ (by have:=hxi.len;omega);obtain⟨i,t',rfl,hk,hm,hr,hf⟩:=hz;show S (Pk.ap (Cr x.cars (x.cars.length:Int) (i:Int)) b x g t') _;unfold Pk.ap Cr;refine I (λq=>?_) λ_=>B ⟨t',rfl,hm,hr,hf⟩;have q:(i:Int)<(x.cars.length:Int):=n_ q;have hl:=hxi.len;have hin:i<b.B0.length:=ω;have w:=DF (n:=i) ω;have i1:J (i:Int) t'.m.R1.length=D:=Ac ω (by rw[hm.con];omega);have i3:J (i:Int) t'.m.M2.length=D:=Ac ω (by rw[hm.lod];omega);have hcf:=hxi.flo _ (CD (CarInput.mk 0 A A A A 0 A 0 A 0 0) (ω:i<x.cars.length));have hcw:=hm.conv _ (CD Ht (show i<t'.m.R1.length by rw[hm.con];exact hin));refine C (Ac ω q) (C i1 (E (Agd hw.code hcw hcf _ _ _ _) λy1 h1=>?_));obtain⟨⟨ya,yb,yc⟩,yd,ye⟩:=y1;obtain⟨z',e1,hz',_⟩:=h1;change yd=_ at e1;subst e1;refine C i1 (C i3 (E (Apv hw.full hw.over _ _) λy2 h2=>C i3 ?_));refine B ⟨k-1,ω,i+1,{ t' with m:={ t'.m with R1:=t'.m.R1.set i z',M2:=t'.m.M2.set i (Loaded.mk y2.2.1.1) } },by first | (rw[← w];rfl) | rw[← w],ω,hm.sCon i hz' h2,⟨hr.leg,hr.sho,hr.rst,hr.oc⟩,⟨hf.im,hf.st,hf.bu,hf.e,hf.out⟩⟩
end
def Brv(floor:Int):Int:=IntKind.u32.wrap (1*2^min (aB floor) (IntKind.bits .u32))
def Anu(floor dir:Int):Int×Int:=bif inR 0 31 floor then(bif dir==1 then(Brv floor,0)else bif dir==2 then(0,Brv floor)else(0,0))else(0,0)
def Yk(floor dir:Int):Eo floor dir=R (((),()),(((Anu floor dir).1,(Anu floor dir).2,()),())):=by
 unfold Eo Anu inR;by_cases g:0≤floor
 ·by_cases g':floor<32
  ·rw[c_ g,c_ g',c_ (ω:floor≤31)];simp only[d_,a_,S_,c_ g];cases dir==1<;>cases dir==2<;>rfl
  ·rw[c_ g,f_ g',f_ (ω:¬floor≤31)];rfl
 ·rw[f_ g];rfl
def orV(a c:Int):Int:=IntKind.u32.wrap (stk a c (BitVec.toNat (BitVec.ofInt (IntKind.bits .u32) a|||BitVec.ofInt (IntKind.bits .u32) c)))
def Aou(a c:Int×Int):Int×Int:=(orV a.1 c.1,orV a.2 c.2)
def Aga(a c:Int×Int):Dh a.1 a.2 c.1 c.2=R (((),()),(((Aou a c).1,(Aou a c).2,()),())):=rfl
def Avj(vs:List View)(car:Int)(e:Entry):Bool:=e.R0==car||(e.R0==-2&&(Ax vs car).N3)
def Uw(vs:List View)(car:Int)(e:Entry)(c:Int×Int):Int×Int:=bif Avj vs car e then Aou c (Anu e.E0 e.J0)else c
def Zr(vs:List View)(car:Int):List Entry→Int×Int→Int×Int
 |[],c=>c
 |e::t,c=>Zr vs car t (Uw vs car e c)
def Zs(b:U)(m:Img)(vs:List View)(car:Int):Int×Int:=bif m.ok b&&((vs.length:Int)==(b.B0.length:Int)&&(decide (0≤car)&&decide (car<(b.B0.length:Int))))then Zr vs car m.A0 (0,0)else(0,0)
section
variable{vs:List View}{car:Int}(hc:0≤car∧car<vs.length){m:Img}(hm:m.A0.length≤1000)
include hc hm
theorem Sl:∀(k i:Nat) (c:Int×Int),i+k=m.A0.length→
  BJ (λx=>letI a:=x.1.2.2.2.2;Ge x.1.1 x.1.2.1 a.1 a.2.1 a.2.2.1 x.2.1.1 x.2.1.2.1 x.2.2.1.1 x.2.2.1.2.1) (k+1) ((vs,car,(),(),m.A0,(m.A0.length:Int),(i:Int),()),(((0:Int),(0:Int),()),(c.1,c.2,()),()))=R (((),(),()),(((0:Int),(0:Int),()),((Zr vs car (m.A0.drop i) c).1,(Zr vs car (m.A0.drop i) c).2,()),()))
 |0,i,c,hi=>by refine AA ?_;show Ge vs car m.A0 (m.A0.length:Int) (i:Int) 0 0 c.1 c.2=_;unfold Ge;rw[show decide ((i:Int)<(m.A0.length:Int))=A by simp;omega,show i=m.A0.length by omega,a3_];rfl
 |k+1,i,c,hi=>by
  have hi':i<m.A0.length:=ω;have w:IntKind.i64.wrap ((i:Int)+1)=((i+1:Nat):Int):=by rw[Aa ω ω];omega
  rw[BN noE hi'];refine(Bt (x':=((vs,car,(),(),m.A0,(m.A0.length:Int),((i+1:Nat):Int),()),(((0:Int),(0:Int),()),((Uw vs car (m.A0.getD i noE) c).1,(Uw vs car (m.A0.getD i noE) c).2,()),()))) ?_).trans (Sl k (i+1) _ ω);show Ge vs car m.A0 (m.A0.length:Int) (i:Int) 0 0 c.1 c.2=_;unfold Ge;rw[show decide ((i:Int)<(m.A0.length:Int))=D by simp;omega,Ac (ω:(0:Int)≤(i:Int)) (ω:(i:Int)<(m.A0.length:Int)),show Entry.mk 0 0 0 0 A=noE from rfl];unfold Uw Avj Ax;have hu:=Aga c (Anu (m.A0.getD i noE).E0 (m.A0.getD i noE).J0);simp only[d_,i_];cases(m.A0.getD i noE).R0==car with
  |true=>simp only[d_,a_,Bool.true_or,Yk,hu,w]
  |false=>
   cases(m.A0.getD i noE).R0==-2 with
   |true=>
    simp only[d_,b_,Ac hc.1 hc.2,a_,Bool.false_or,q_];cases(vs.getD car.toNat (View.mk A A A A 0 0 0 0 0 0 0 0)).N3 with
    |true=>simp only[d_,Yk,a_,hu,w]
    |false=>simp only[b_,w]
   |false=>simp only[b_,a_,a7_,Bool.or_self,w]
end
section
variable{b:U}(hb:b.small)(vs:List View)(m:Img)(hm:m.A0.length≤1000)(hp:m.F0.length≤maxLen)(car:Int)
include hb hm hp
theorem Ac8:Mw b.D0 b.G0 b.I0 b.M0 b.L0 b.N0 b.O0 b.B0 m.F0 m.K0 m.H0 m.A0 vs car=R (((),()),(((Zs b m vs car).1,(Zs b m vs car).2,()),())):=by
 have hmx:1000≤maxLen:=by decide
 unfold Mw Zs;rw[Do hb m hp ω];simp only[a_,bne];cases hok:m.ok b with
 |false=>rfl
 |true=>
  cases hq:(vs.length:Int)==(b.B0.length:Int)with
  |false=>rfl
  |true=>
   have hq':(vs.length:Int)=(b.B0.length:Int):=by simpa using hq
   by_cases g:0≤car
   ·rw[c_ g,f_ (ω:¬car<0)];by_cases g':car<(b.B0.length:Int)
    ·rw[c_ g',f_ (ω:¬(b.B0.length:Int)≤car)];have hlp:=Aj (Sl (vs:=vs) (car:=car) ⟨g,ω⟩ hm m.A0.length 0 (0,0) ω) ω;have hlp':Kw ((vs,car,(),(),m.A0,(m.A0.length:Int),(0:Int),()),(((0:Int),(0:Int),()),((0:Int),(0:Int),()),()))=_:=hlp;simp only[m_,b_,hlp',a_,P_,S_,d_]
    ·rw[f_ g',c_ (ω:(b.B0.length:Int)≤car)];rfl
   ·rw[f_ g,c_ (ω:car<0)];rfl
end
def Mv(p:Int):Bool:=p==0||p==1
def Aqx(p:Int):Bool:=p==3||p==4
def XG(p:Int):Fj p=R ((Mv p,()),()):=by unfold Fj Mv;cases p==0<;>rfl
def Aib(p:Int):EP p=R ((Aqx p,()),()):=by unfold EP Aqx;cases p==3<;>rfl
def Afi(vs:List View)(car:Int):∀(l:List Entry) {c:Int×Int},Gt c→Gt (Zr vs car l c)
 |[],_,h=>h
 |e::t,c,h=>by
  refine Afi vs car t ?_;unfold Uw;cases Avj vs car e with
  |true=>exact⟨Hu _,Hu _⟩
  |false=>exact h
def Avk(b:U)(m:Img)(vs:List View)(car:Int):Gt (Zs b m vs car):=by
 unfold Zs;cases m.ok b&&((vs.length:Int)==(b.B0.length:Int)&&(decide (0≤car)&&decide (car<(b.B0.length:Int))))with
 |true=>exact Afi vs car _ OA
 |false=>exact OA
def Pk.sBel(t:H)(i:Nat)(v:Belief):H:={ t with m:={ t.m with X0:=t.m.X0.set i v } }
def Pk.sCar(t:H)(i:Nat)(v:NewCar):H:={ t with m:={ t.m with B0:=t.m.B0.set i v } }
def Pk.sOut(t:H)(i:Nat)(v:CarOutput):H:={ t with out:={ t.out with B0:=t.out.B0.set i v } }
def Pk.sLeg(t:H)(i:Nat):H:={ t with legacy:=t.legacy.set i D }
def Pk.sSho(t:H)(i:Nat)(c:Calls):H:={ t with shows:=t.shows.set i c }
section
variable{b:U}{t:H}
def PR.sBel(h:PR b t)(i:Nat)(v:Belief):PR b (t.sBel i v):=⟨h.leg,h.sho,h.rst,h.oc⟩
def PR.sCar(h:PR b t)(i:Nat)(v:NewCar):PR b (t.sCar i v):=⟨h.leg,h.sho,h.rst,h.oc⟩
def PR.sOut(h:PR b t)(i:Nat)(v:CarOutput):PR b (t.sOut i v):=⟨h.leg,h.sho,h.rst,by show(t.out.B0.set i v).length=_;rw[r_];exact h.oc⟩
def PR.sLeg(h:PR b t)(i:Nat):PR b (t.sLeg i):=⟨by show(t.legacy.set i D).length=_;rw[r_];exact h.leg,h.sho,h.rst,h.oc⟩
def PR.sSho(h:PR b t)(i:Nat)(c:Calls):PR b (t.sSho i c):=⟨h.leg,by show(t.shows.set i c).length=_;rw[r_];exact h.sho,h.rst,h.oc⟩
end
section
variable{b:U}(hw:BW b){x:Inp}{g:Bool}(hx:g=D→InOK b x)
include hw
theorem Ba8(hm:ImgOK b m):S (Jp m.F0 m.K0 m.H0 m.A0) λy=>True:=by
 have hcc:=An hw.code;have hp:=hm.lp;have hf:=hm.lf;have hl:=hm.ll;unfold Jp;refine C (by simp only[e_,v_];omega) (E (Q:=λ_=>True) ?_ λ_ _=>B trivial);have h0:(List.replicate (aB (m.F0.length:Int)) (View.mk A A A A 0 0 0 0 0 0 0 0)).length=b.B0.length:=by rw[V_];omega
 generalize List.replicate (aB (m.F0.length:Int)) (View.mk A A A A 0 0 0 0 0 0 0 0)=L at h0;unfold HU;refine Sat.loop (λ(k:Nat) z=>∃(i:Nat) (l:List View),z=(((),l,(L.length:Int),(i:Int),()),((m.F0,m.K0,m.H0,m.A0,()),()))∧l.length=b.B0.length∧i+k=L.length) (λk z hz=>?_) L.length ⟨0,L,rfl,h0,p_ _⟩ ω;obtain⟨i,l,rfl,hll,hk⟩:=hz;show S (Ly l (L.length:Int) (i:Int) m.F0 m.K0 m.H0 m.A0) _;unfold Ly;refine I (λq=>?_) λ_=>B trivial;have q:=n_ q;have w:=DF (n:=i) ω;refine aA (Ali hm (ω:i<b.B0.length)) (C (Ac ω ω) ?_);exact B ⟨k-1,ω,i+1,_,by first | (rw[← w];rfl) | rw[← w],by rw[r_];exact hll,ω⟩
theorem Am1(hm:ImgOK b m)(car:Int):S (Hw b.D0 b.G0 b.I0 b.M0 b.L0 b.N0 b.O0 b.B0 m.F0 m.K0 m.H0 m.A0 car) λy=>Gt (y.2.1.1,y.2.1.2.1):=by
 have hcc:=An hw.code;have he:=CL hw.small hm;have hp:=hm.lp;have hmx:1000≤maxLen:=by decide
 unfold Hw;exact E (Ba8 hw hm) λy1 _=>aA (Ac8 hw.small y1.1.1 m ω ω car) (B (Avk b m y1.1.1 car))
theorem Bao(hm:PM b t.m)(hr:PR b t)(hi:i<b.B0.length):S (t.ap (Bw (i:Int)) b x g) λy=>∃t',(y=.inl ((),(t'.tup b x g,()))∨y=.inr ((),(t'.tup b x g,())))∧PM b t'.m∧PR b t'∧Fix t t':=by
 unfold Pk.ap Bw;have i1:J (i:Int) t.legacy.length=D:=Ac ω (by rw[hr.leg];omega);have i2:J (i:Int) t.m.X0.length=D:=Ac ω (by rw[hm.bel];omega);have i3:J (i:Int) t.m.R1.length=D:=Ac ω (by rw[hm.con];omega);have i4:J (i:Int) t.shows.length=D:=Ac ω (by rw[hr.sho];omega);have hb:=hm.belv i hi;refine C i1 (I (λ_=>C i2 ?_) λ_=>C i3 ?_)
 ·refine E (Af4 hw.small hw.code hi hb) λy1 h1=>C i2 ?_;obtain⟨ya,yb,yc⟩:=y1;obtain⟨v,e,hv⟩:=h1;change yb=_ at e;subst e;exact B ⟨(t.sBel i v).sLeg i,.inl rfl,hm.sBel hv,(hr.sBel i v).sLeg i,⟨rfl,rfl,rfl,rfl,rfl⟩⟩
 ·have hcw:=hm.conv _ (CD Ht (show i<t.m.R1.length by rw[hm.con];exact hi));refine E (YD b.D0 hcw.2 _ _ _ _) λy2 _=>E (Nl ..) λy3 _=>C i4 (C i2 ?_);refine E (Abd hw.small hw.code hi hb _ _ _) λy4 h4=>C i2 ?_;obtain⟨ya,yb,yc⟩:=y4;obtain⟨v,e,hv⟩:=h4;change yb=_ at e;subst e;exact B ⟨((t.sBel i v).sLeg i).sSho i (Calls.mk y3.2.1.1 y3.2.1.2.1),.inr rfl,hm.sBel hv,((hr.sBel i v).sLeg i).sSho i _,⟨rfl,rfl,rfl,rfl,rfl⟩⟩
include hx
theorem Biw(hm:PM b t.m)(hr:PR b t)(hi:i<b.B0.length)(p:Int):S (t.ap (BP (i:Int) p) b x g) λy=>∃t',(y=.inl ((),(t'.tup b x g,()))∨y=.inr ((),(t'.tup b x g,())))∧PM b t'.m∧PR b t'∧Fix t t':=by
 unfold Pk.ap BP;have i2:J (i:Int) t.m.B0.length=D:=Ac ω (by rw[hm.car];omega);have i4:J (i:Int) t.out.B0.length=D:=Ac ω (by rw[hr.oc];omega);refine I (λ_=>C i2 ?_) λhg=>?_
 ·refine E (Ag6 hw.small hw.code (i:Int) (t.m.B0.getD i BG)) λy1 h1=>C i2 (C i4 ?_);obtain⟨ya,yb,yc⟩:=y1;obtain⟨v,e,hv⟩:=h1;change yb=_ at e;subst e;exact B ⟨(t.sCar i v).sOut i _,.inl rfl,hm.sCar i hv,(hr.sCar i v).sOut i _,⟨rfl,rfl,rfl,rfl,rfl⟩⟩
 ·rw[Bool.not_eq_false']at hg;have hl:=(hx hg).len;have i3:J (i:Int) x.cars.length=D:=Ac ω ω;refine E (Q:=λy=>∃h0 h1:Int,y=(((),(i:Int),(),()),((h0,h1,()),t.tup b x g,()))) (I (λ_=>E (Am1 hw hm.jst.img (i:Int)) λy2 _=>B ⟨_,_,rfl⟩) λ_=>B ⟨_,_,rfl⟩) λy hy=>?_;obtain⟨h0,h1,rfl⟩:=hy;refine C i3 (C i2 (E (Ake hw.small hw.code (i:Int) (t.m.B0.getD i BG) _ _ _ _ _ _ _) λy4 h4=>C i2 (C i4 ?_)));obtain⟨ya,yb,yc⟩:=y4;obtain⟨v,e,hv⟩:=h4;change yb=_ at e;subst e;exact B ⟨(t.sCar i v).sOut i _,.inr rfl,hm.sCar i hv,(hr.sCar i v).sOut i _,⟨rfl,rfl,rfl,rfl,rfl⟩⟩
def WY(b:U)(r:N):Prop:=∃i:Nat,i<b.B0.length∧r=⟨5,0,0,(i:Int),1⟩
theorem Azb(hm:PM b t.m)(hr:PR b t):S (Bh (((),([]:List N),t.m.C0.F0,(t.m.C0.F0.length:Int),(0:Int),()),(t.tup b x g,()))) λy=>∃(t':H) (l:List N),y=(((),l,()),(t'.tup b x g,()))∧PM b t'.m∧PR b t'∧Fix t t'∧l.length≤8∧∀r∈l,WY b r:=by
 have hcc:=An hw.code;have hp:=hm.jst.img.lp;unfold Bh;refine Sat.loop (λ(k:Nat) z=>∃(i:Nat) (t':H) (l:List N),z=(((),l,t.m.C0.F0,(t.m.C0.F0.length:Int),(i:Int),()),(t'.tup b x g,()))∧i+k=b.B0.length∧PM b t'.m∧PR b t'∧Fix t t'∧l.length≤i∧∀r∈l,WY b r) (λk z hz=>?_) b.B0.length ⟨0,t,[],rfl,p_ _,hm,hr,.rfl' t,A_ 0,λr h=>by cases h⟩ ω;obtain⟨i,t',l,rfl,hk,hm',hr',hf,hl,hv⟩:=hz;show S (Pk.ap (Cq l t.m.C0.F0 (t.m.C0.F0.length:Int) (i:Int)) b x g t') _;unfold Pk.ap Cq;refine I (λq=>?_) λ_=>B ⟨t',l,rfl,hm',hr',hf,ω,hv⟩;have q:(i:Int)<(t.m.C0.F0.length:Int):=n_ q;have hi:i<b.B0.length:=ω;have w:=DF (n:=i) ω;refine C (Ac ω q) ?_;refine E (Q:=λy=>∃(u:H) (c:Bool),y=(((),l,(i:Int),c,t.m.C0.F0,(t.m.C0.F0.length:Int),(i:Int),()),(u.tup b x g,()))∧PM b u.m∧PR b u∧Fix t u) ?_ λy9 h9=>?_
 ·refine aA (XG _) (I (λ_=>?_) λ_=>aA (Aib _) (I (λ_=>?_) λ_=>B ⟨t',A,rfl,hm',hr',hf⟩))
  ·refine E (Q:=λy=>∃u:H,y=(((),l,(i:Int),t.m.C0.F0,(t.m.C0.F0.length:Int),(i:Int),()),(u.tup b x g,()))∧PM b u.m∧PR b u∧Fix t u) ?_ λy4 h4=>?_
   ·refine E (Bao hw (x:=x) (g:=g) hm' hr' hi) λy2 h2=>?_;obtain⟨u,e | e,h⟩:=h2
    ·subst e;exact B ⟨u,rfl,h.1,h.2.1,hf.trans h.2.2⟩
    ·subst e;exact B ⟨u,rfl,h.1,h.2.1,hf.trans h.2.2⟩
   ·obtain⟨u,rfl,h1,h2,h3⟩:=h4;exact C (Ac (ω:(0:Int)≤(i:Int)) (by show(i:Int)<(u.m.X0.length:Int);rw[h1.bel];omega)) (B ⟨u,_,rfl,h1,h2,h3⟩)
  ·refine E (Q:=λy=>∃u:H,y=(((),l,(i:Int),t.m.C0.F0,(t.m.C0.F0.length:Int),(i:Int),()),(u.tup b x g,()))∧PM b u.m∧PR b u∧Fix t u) ?_ λy4 h4=>?_
   ·refine E (Biw hw hx hm' hr' hi _) λy2 h2=>?_;obtain⟨u,e | e,h⟩:=h2
    ·subst e;exact B ⟨u,rfl,h.1,h.2.1,hf.trans h.2.2⟩
    ·subst e;exact B ⟨u,rfl,h.1,h.2.1,hf.trans h.2.2⟩
   ·obtain⟨u,rfl,h1,h2,h3⟩:=h4;exact C (Ac (ω:(0:Int)≤(i:Int)) (by show(i:Int)<(u.m.B0.length:Int);rw[h1.car];omega)) (B ⟨u,_,rfl,h1,h2,h3⟩)
 ·obtain⟨u,c,rfl,hm2,hr2,hf2⟩:=h9;refine E (Q:=λy=>∃c:Bool,y=(((),l,(i:Int),t.m.C0.F0,(t.m.C0.F0.length:Int),(i:Int),c,()),(u.tup b x g,()))) (I (λ_=>C (Ac (ω:(0:Int)≤(i:Int)) (by show(i:Int)<(u.m.C0.K0.length:Int);rw[hm2.jst.img.lf];omega)) (B ⟨_,rfl⟩)) λ_=>B ⟨_,rfl⟩) λy10 h10=>?_;obtain⟨c',rfl⟩:=h10;refine I (λ_=>C (Ap (ω:l.length+1≤_)) ?_) λ_=>B ⟨k-1,ω,i+1,u,l,by first | (rw[← w];rfl) | rw[← w],ω,hm2,hr2,hf2,ω,hv⟩;refine B ⟨k-1,ω,i+1,u,l++[Record.mk 5 0 0 (i:Int) 1],by first | (rw[← w];rfl) | rw[← w],ω,hm2,hr2,hf2,by rw[h_];show l.length+1≤_;omega,λr h=>?_⟩;rcases o_.1 h with h | h
  ·exact hv r h
  ·exact⟨i,hi,C_.1 h⟩
end
def K3(l:List N):Prop:=∀r∈l,r.Q0=4∨r.Q0=5∨r.Q0=6
def Ask{r:N}(h:r.Q0=4∨r.Q0=5∨r.Q0=6):(Ak m r).A0=m.A0:=by unfold Ak;rcases h with h | h | h<;>rw[h]<;>rfl
def Ls:∀{l:List N}(m:Img),K3 l→(Ag m l).A0=m.A0
 |[],_,_=>rfl
 |r::l,m,h=>(Ls (Ak m r) λx hx=>h x (u_ _ hx)).trans (Ask (h r (s_ ..)))
def K3.good(h:K3 l)(m:Img)(hv:∀r∈l,As b r=D):goodL b m l:=Xe m λr hr=>⟨hv r hr,by have:=h r hr;omega⟩
structure Al(b:Bldg)(t t':Pk)(l:List Record):Prop where
 e:t'.e=0
 m:PM b t'.m
 r:PR b t'
 im:t'.m.C0=Ag t.m.C0 l
 b0:0≤t'.budget
 b1:t'.budget≤t.budget
 b2:t.budget-600*(l.length:Int)≤t'.budget
structure De(b:Bldg)(t t':Pk)(l:List Record):Prop where
 e:t'.e=8
 lo:t.budget<600*(l.length:Int)
 ok:t'.m.U0.ok b.I0
 rp:∃k,k<l.length∧Cf b t'.m.U0=Ag t.m.C0 (l.take k)
def Aoh(hw:BW b)(n:Nat):b.I0*(n:Int)≤600*(n:Int):=Int.mul_le_mul_of_nonneg_right hw.room ω
def PM.wr{m:Mch}(h:PM b m){im:Img}{s:Sto}(hj:Jst b s im)(he:im.A0=m.C0.A0):PM b { m with C0:=im,U0:=s }:=⟨hj,h.con,h.conv,h.bel,h.belv,h.car,h.carv,h.lod,h.lodv,h.lit,by show m.X1.length=im.A0.length;rw[he];exact h.exl,h.exv,h.tick,h.flt,h.ref⟩
def Wr.fin(hw:BW b){t':H}(h:Wr b t l t')(hm:PM b t.m)(hr:PR b t)(hk:K3 l):(Al b t t' l∨De b t t' l)∧t'.out=t.out:=by
 obtain⟨im,s,bu,e,rfl,h⟩:=h
 have:=Aoh hw l.length
 refine⟨?_,rfl⟩;rcases h with⟨rfl,rfl,h1,h2,h3,h4,_⟩ | ⟨rfl,h1,h2,h3⟩
 ·exact .inl ⟨rfl,hm.wr h1 (Ls _ hk),⟨hr.leg,hr.sho,hr.rst,hr.oc⟩,rfl,h3,h4,by show t.budget-_≤bu;omega⟩
 ·exact .inr ⟨rfl,ω,h2,h3⟩
def Bud(t:H):Prop:=t.e=0∧0≤t.budget∧t.budget<9223372036854775808
def Al.bud{t':H}(h:Al b t t' l)(hb:Bud t):Bud t':=⟨h.e,h.b0,by have:=h.b1;have:=hb.2.2;omega⟩
def Al.app{u v:H}{k:List N}(h:Al b t u l)(h2:Al b u v k):Al b t v (l++k):=⟨h2.e,h2.m,h2.r,by rw[Bp,← h.im];exact h2.im,h2.b0,by have:=h2.b1;have:=h.b1;omega,by have:=h2.b2;have:=h.b2;rw[h_];omega⟩
def De.mono{u:H}(h:De b t u l)(k:List N):De b t u (l++k):=by obtain⟨i,h1,h2⟩:=h.rp;exact⟨h.e,by have:=h.lo;rw[h_];omega,h.ok,i,by rw[h_];omega,by rw[d3_ ω];exact h2⟩
def Al.de{u v:H}{k:List N}(h:Al b t u l)(h2:De b u v k):De b t v (l++k):=by obtain⟨i,h3,h4⟩:=h2.rp;refine⟨h2.e,by have:=h2.lo;have:=h.b2;rw[h_];omega,h2.ok,l.length+i,by rw[h_];omega,?_⟩;rw[h4,h.im,List.take_append,a5_ (ω:l.length≤l.length+i),b0_,Bp]
def Bi5(hcode:b.code=0)(h:∀r∈l,WY b r):K3 l∧∀r∈l,As b r=D:=⟨λr hr=>by obtain⟨i,_,rfl⟩:=h r hr;exact .inr (.inl rfl),λr hr=>by obtain⟨i,hi,rfl⟩:=h r hr;exact Ajt hcode ⟨ω,ω⟩ (.inr ⟨.inl rfl,τ⟩)⟩
section
variable{b:U}(hw:BW b){x:Inp}{g:Bool}(hx:g=D→InOK b x)
include hw hx
omit hx in
theorem Bms(hm:PM b t.m)(hxl:x.cars.length=b.B0.length):S (AB (t.ap aD b x g)) λy=>∃c:List Bool,y=((c,()),())∧c.length=b.B0.length:=by
 have hcc:=An hw.code;have hp:=hm.jst.img.lp;unfold AB;refine C (by show((decide ((0:Int)≤(b.B0.length:Int))&&decide ((b.B0.length:Int)≤(b.B0.length:Int)))&&decide ((b.B0.length:Int)≤2147483648))=D;simp only[e_,v_];omega) (E (Q:=λy=>∃c:List Bool,y=((c,()),())∧c.length=b.B0.length) ?_ λy h=>by obtain⟨c,rfl,h⟩:=h;exact B ⟨c,rfl,h⟩);generalize hT:t.ap aD b x g=T;have eb:T.m_Beliefs=t.m.X0:=by rw[← hT];rfl
 have ec:T.m_Cars=t.m.B0:=by rw[← hT];rfl
 have ex:T.x_Cars=x.cars:=by rw[← hT];rfl
 have ep:T.m_Image_Phases=t.m.C0.F0:=by rw[← hT];rfl
 have e1:T.b_Floors=b.D0:=by rw[← hT];rfl
 have e2:T.b_Debounce=b.G0:=by rw[← hT];rfl
 have e3:T.b_Room=b.I0:=by rw[← hT];rfl
 have e4:T.b_Park=b.M0:=by rw[← hT];rfl
 have e5:T.b_Empty=b.L0:=by rw[← hT];rfl
 have e6:T.b_Full=b.N0:=by rw[← hT];rfl
 have e7:T.b_Over=b.O0:=by rw[← hT];rfl
 have e8:T.b_Cars=b.B0:=by rw[← hT];rfl
 unfold CS;refine Sat.loop (λ(k:Nat) z=>∃(i:Nat) (c:List Bool),z=((T,c,T.m_Image_Phases,(T.m_Image_Phases.length:Int),(i:Int),()),())∧i+k=b.B0.length∧c.length=b.B0.length) (λk z hz=>?_) b.B0.length ⟨0,_,rfl,p_ _,by rw[V_,e8];omega⟩ ω;obtain⟨i,c,rfl,hk,hc⟩:=hz;show S (Cp T c T.m_Image_Phases (T.m_Image_Phases.length:Int) (i:Int)) _;unfold Cp;rw[eb,ec,ex,ep,e1,e2,e3,e4,e5,e6,e7,e8];refine I (λq=>?_) λ_=>B ⟨c,rfl,hc⟩;have q:(i:Int)<(t.m.C0.F0.length:Int):=n_ q;have hi:i<b.B0.length:=ω;have w:=DF (n:=i) ω;have i2:J (i:Int) t.m.X0.length=D:=Ac ω (by rw[hm.bel];omega);have i3:J (i:Int) t.m.B0.length=D:=Ac ω (by rw[hm.car];omega);have i4:J (i:Int) c.length=D:=Ac ω ω;have i5:J (i:Int) x.cars.length=D:=Ac ω ω;refine C (Ac ω q) ?_;refine E (Q:=λy=>∃c':List Bool,y=((T,c',t.m.C0.F0,(t.m.C0.F0.length:Int),(i:Int),()),())∧c'.length=b.B0.length) ?_ λy hy=>?_
 ·have still:S ((EP (t.m.C0.F0.getD (aB (i:Int)) 0)).bind λy3=>bif y3.1.1 then(bif J (i:Int) t.m.B0.length then(let z2:=t.m.B0.getD (aB (i:Int)) BG
   bif J (i:Int) x.cars.length then(let z3:=x.cars.getD (aB (i:Int)) Ud
   (JH b.D0 b.G0 b.I0 b.M0 b.L0 b.N0 b.O0 b.B0 z2.S1 z2.C1 z2.Z0 z2.I1 z2.F1 z2.H1 z2.D1 z2.T0 z2.Y0 z2.S0 z2.V1 z2.Y2 z2.J3 z2.Z2 z3.M1 z3.D2 z3.T1 z3.E2).bind λy4=>bif J (i:Int) c.length then R ((T,c.set (aB (i:Int)) y4.1.1,t.m.C0.F0,(t.m.C0.F0.length:Int),(i:Int),()),())else none)else none)else none)else(bif J (i:Int) c.length then R ((T,c.set (aB (i:Int)) A,t.m.C0.F0,(t.m.C0.F0.length:Int),(i:Int),()),())else none)) λy=>∃c':List Bool,y=((T,c',t.m.C0.F0,(t.m.C0.F0.length:Int),(i:Int),()),())∧c'.length=b.B0.length:=
   aA (Aib _) (I (λ_=>C i3 (C i5 (E (Ag8 hw.small hw.code (t.m.B0.getD i BG) _ _ _ _) λy4 _=>C i4 (B ⟨_,rfl,by rw[r_];exact hc⟩)))) λ_=>C i4 (B ⟨_,rfl,by rw[r_];exact hc⟩))
  refine aA (XG _) (I (λ_=>C i2 ?_) λ_=>still);refine E (Af5 hw.small hw.code hi (hm.belv i hi)) λy2 _=>I (λ_=>C i4 (B ⟨_,rfl,by rw[r_];exact hc⟩)) λ_=>still
 obtain⟨c',rfl,hc'⟩:=hy;rw[← ep];exact B ⟨k-1,ω,i+1,c',by first | (rw[← w];rfl) | rw[← w],ω,hc'⟩
end
def Pk.stat(t:H)(n:Int):H:={ t with out:={ t.out with V5:=n } }
def Pk.sRst(t:H)(i:Nat):H:={ t with reset:=t.reset.set i D }
def PR.sRst(h:PR b t)(i:Nat):PR b (t.sRst i):=⟨h.leg,h.sho,by show(t.reset.set i D).length=_;rw[r_];exact h.rst,h.oc⟩
def Jh(m:Img)(kind:Int)(i:Nat)(calm fr:Bool):List N×Int:=bif kind==0 then([],(0:Int))else Nt m i calm fr kind
def LW(b:U)(r:N):Prop:=∃(i:Nat) (k v:Int),i<b.B0.length∧r=⟨k,0,0,i,v⟩∧((k=4∧0≤v∧v≤4)∨((k=5∨k=6)∧0≤v∧v≤1))
def ZG(hcode:b.code=0)(h:∀r∈l,LW b r):K3 l∧∀r∈l,As b r=D:=by
 refine⟨λr hr=>?_,λr hr=>?_⟩<;>obtain⟨i,k,v,hi,rfl,h⟩:=h r hr
 ·show k=4∨k=5∨k=6;omega
 ·exact Ajt hcode ⟨ω,ω⟩ h
def Bem(hi:i<b.B0.length){k v:Int}(h:(k=4∧0≤v∧v≤4)∨((k=5∨k=6)∧0≤v∧v≤1)):∀r∈[(⟨k,0,0,i,v⟩:N)],LW b r:=λr hr=>⟨i,k,v,hi,C_.1 hr,h⟩
def Wg(m:Img)(kind:Int)(hi:i<b.B0.length)(calm fr:Bool):(∀r∈(Jh m kind i calm fr).1,LW b r)∧(Jh m kind i calm fr).1.length≤1:=by
 have no:∀e:Int,(∀r∈(([]:List N),e).1,LW b r)∧(([]:List N),e).1.length≤1:=λe=>⟨λr h=>(by cases h),a6_ _⟩
 have one:∀{k v:Int},((k=4∧0≤v∧v≤4)∨((k=5∨k=6)∧0≤v∧v≤1))→(∀r∈([(⟨k,0,0,i,v⟩:N)],(0:Int)).1,LW b r)∧([(⟨k,0,0,i,v⟩:N)],(0:Int)).1.length≤1:=λh=>⟨Bem hi h,A_ 1⟩
 unfold Jh Nt;have ite:∀(c:Bool) {x y:List N×Int},((∀r∈x.1,LW b r)∧x.1.length≤1)→((∀r∈y.1,LW b r)∧y.1.length≤1)→(∀r∈(bif c then x else y).1,LW b r)∧(bif c then x else y).1.length≤1:=λc _ _ h1 h2=>by
  cases c
  ·exact h2
  ·exact h1
 exact ite _ (no 0) (ite _ (ite _ (one (.inl ⟨rfl,τ⟩)) (no _)) (ite _ (one (.inl ⟨rfl,τ⟩)) (ite _ (one (.inl ⟨rfl,τ⟩)) (ite _ (one (.inr ⟨.inr rfl,τ⟩)) (ite _ (one (.inl ⟨rfl,τ⟩)) (ite _ (ite _ (one (.inl ⟨rfl,τ⟩)) (no _)) (ite _ (ite _ (one (.inl ⟨rfl,τ⟩)) (no _)) (ite _ (ite _ (one (.inr ⟨.inr rfl,τ⟩)) (no _)) (ite _ (one (.inr ⟨.inl rfl,τ⟩)) (no _))))))))))
def ZD{b:U}(m:Img)(calm:List Bool):∀n,n≤b.B0.length→∀r∈Cs m calm n,LW b r
 |0,_,_,h=>by cases h
 |n+1,hn,r,h=>by
  rcases o_.1 h with h | h
  ·exact ZD m calm n ω r h
  ·unfold NT at h;cases hg:Qf m calm n with
   |false=>rw[hg]at h;cases h
   |true=>
    rw[hg,d_]at h;rcases o_.1 h with h | h
    ·rcases o_.1 h with h | h
     ·exact⟨n,4,2,ω,C_.1 h,.inl ⟨rfl,τ⟩⟩
     ·cases hl:HW m n with
      |false=>rw[hl]at h;cases h
      |true=>rw[hl]at h;exact⟨n,6,0,ω,C_.1 h,.inr ⟨.inr rfl,τ⟩⟩
    ·cases hl:flA m n with
     |false=>rw[hl]at h;cases h
     |true=>rw[hl]at h;exact⟨n,5,0,ω,C_.1 h,.inr ⟨.inl rfl,τ⟩⟩
def He(b:U)(m:Img)(kind:Int)(i:Nat)(cm:List Bool)(fr:Bool):List N:=(Jh m kind i (cm.getD i A) fr).1++Cs (Ag m (Jh m kind i (cm.getD i A) fr).1) (bif kind !=0 then cm.set i A else cm) b.B0.length
structure Opr(b:Bldg)(x:Inp)(g:Bool)(t t':Pk)(l:List Record):Prop where
 res:Al b t t' l∨De b t t' l
 how:∃(i:Nat) (cm:List Bool) (fr:Bool),x.car=(i:Int)∧i<b.B0.length∧cm.length=b.B0.length∧l=He b t.m.C0 x.kind i cm fr∧t'.out={ t.out with V5:=(Jh t.m.C0 x.kind i (cm.getD i false) fr).2 }∧AB (t.ap machine_ticker.mk b x g)=some ((cm,()),())∧Dx t.m.C0.F0 t.m.C0.K0 t.m.C0.H0 t.m.C0.A0=some ((fr,()),())
section
variable{b:U}(hw:BW b){x:Inp}{g:Bool}(hx:InOK b x)
include hw
theorem BelOK.new:BelOK b i ⟨-1,0,0,[],0,A⟩:=by
 have:=hw.small.lo
 exact⟨⟨τ,show(-1:Int)≤b.D0-1 by omega⟩,τ,τ,τ,λ_=>rfl,.nil⟩
theorem Anx(hm:PM b t.m)(hr:PR b t)(e:Int)(was:Img)(hwl:was.F0.length=b.B0.length):S (AK (((),(),(),e,t.m.C0.F0,(t.m.C0.F0.length:Int),(0:Int),()),((was.F0,was.K0,was.H0,was.A0,()),(x.kind,x.car,()),t.tup b x g,()))) λy=>∃t':H,y=((),(t'.tup b x g,()))∧PM b t'.m∧PR b t'∧Fix t t'∧t'.out=t.out:=by
 have hcc:=An hw.code;have hp:=hm.jst.img.lp;unfold AK;refine Sat.loop (λ(k:Nat) z=>∃(i:Nat) (t':H),z=(((),(),(),e,t.m.C0.F0,(t.m.C0.F0.length:Int),(i:Int),()),((was.F0,was.K0,was.H0,was.A0,()),(x.kind,x.car,()),t'.tup b x g,()))∧i+k=b.B0.length∧PM b t'.m∧PR b t'∧Fix t t'∧t'.out=t.out) (λk z hz=>?_) b.B0.length ⟨0,t,rfl,p_ _,hm,hr,.rfl' t,rfl⟩ ω;obtain⟨i,u,rfl,hk,hm,hr,hf,ho⟩:=hz;show S (u.ap (BR e t.m.C0.F0 (t.m.C0.F0.length:Int) (i:Int) was.F0 was.K0 was.H0 was.A0 x.kind x.car) b x g) _;unfold Pk.ap BR;refine I (λq=>?_) λ_=>B ⟨u,rfl,hm,hr,hf,ho⟩;have q:(i:Int)<(t.m.C0.F0.length:Int):=n_ q;have hi:i<b.B0.length:=ω;have w:=DF (n:=i) ω;have i2:J (i:Int) u.m.X0.length=D:=Ac ω (by rw[hm.bel];omega);have i3:J (i:Int) u.m.B0.length=D:=Ac ω (by rw[hm.car];omega);have i4:J (i:Int) u.reset.length=D:=Ac ω (by rw[hr.rst];omega);refine C (Ac ω q) (C (Ac ω ω) ?_);refine E (Q:=λ_=>True) (by unfold LJ;exact Sat.go) λy1 _=>I (λ_=>?_) λ_=>?_
 ·refine aA rfl (C i2 (C i3 (C i4 ?_)));exact B ⟨k-1,ω,i+1,((u.sBel i ⟨-1,0,0,[],0,A⟩).sCar i BG).sRst i,by first | (rw[← w];rfl) | rw[← w],ω,(hm.sBel (BelOK.new hw)).sCar i (Nb hw.small),((hr.sBel i _).sCar i _).sRst i,⟨hf.im,hf.st,hf.bu,hf.e,hf.out⟩,ho⟩
 refine E (Q:=λy=>∃c:Bool,y=(((),(),(),e,(i:Int),t.m.C0.F0,(t.m.C0.F0.length:Int),(i:Int),c,()),((was.F0,was.K0,was.H0,was.A0,()),(x.kind,x.car,()),u.tup b x g,()))) (I (λ_=>I (λ_=>B ⟨_,rfl⟩) λ_=>B ⟨_,rfl⟩) λ_=>B ⟨_,rfl⟩) λy3 h3=>?_;obtain⟨c,rfl⟩:=h3;refine I (λ_=>C i2 ?_) λ_=>B ⟨k-1,ω,i+1,u,by first | (rw[← w];rfl) | rw[← w],ω,hm,hr,hf,ho⟩;refine E (Ada hw.small hw.code hi (hm.belv i hi)) λy4 h4=>C i2 (C i3 (C i4 ?_));obtain⟨ya,yb,yc⟩:=y4;obtain⟨v,e4,hv⟩:=h4;change yb=_ at e4;subst e4;exact B ⟨k-1,ω,i+1,((u.sBel i v).sCar i BG).sRst i,by first | (rw[← w];rfl) | rw[← w],ω,(hm.sBel hv).sCar i (Nb hw.small),((hr.sBel i _).sCar i _).sRst i,⟨hf.im,hf.st,hf.bu,hf.e,hf.out⟩,ho⟩
include hx
theorem Bas(hm:PM b t.m)(hr:PR b t)(hb:Bud t):S (t.ap AS b x g) λy=>∃(t':H) (l:List N),(y=.inl ((),(t'.tup b x g,()))∨y=.inr ((),(t'.tup b x g,())))∧Opr b x g t t' l:=by
 have hcc:=An hw.code;have he:=CL hw.small hm.jst.img;obtain⟨fr,hfr⟩:=Bi7 hm.jst.img;obtain⟨i,hi⟩:=e7_ hx.car.1;have hic:i<b.B0.length:=by have:=hx.car.2;omega
 unfold Pk.ap AS;obtain⟨y1,hcalm,cm,rfl,hcm⟩:=Bms hw (x:=x) (g:=g) hm hx.len;refine aA hcalm ?_;have hord:=Wh hm.jst.img hw.small ω hx.kind hic hcm hfr;rw[← hi]at hord;refine aA hord ?_;obtain⟨ok1,len1⟩:=Wg (b:=b) t.m.C0 x.kind hic (cm.getD i A) fr;obtain⟨k31,v1⟩:=ZG hw.code ok1;have hO:(bif x.kind==0 then([],(0:Int))else Nt t.m.C0 i (cm.getD i A) fr x.kind)=Jh t.m.C0 x.kind i (cm.getD i A) fr:=rfl;have hL:He b t.m.C0 x.kind i cm fr=(Jh t.m.C0 x.kind i (cm.getD i A) fr).1++Cs (Ag t.m.C0 (Jh t.m.C0 x.kind i (cm.getD i A) fr).1) (bif x.kind !=0 then cm.set i A else cm) b.B0.length:=rfl;rw[hO];generalize hOO:Jh t.m.C0 x.kind i (cm.getD i A) fr=O at ok1 len1 k31 v1 hL;obtain⟨O1,O2⟩:=O;refine E (Q:=λy=>∃t',y=(((),(),(),cm,O2,()),((t.m.C0.F0,t.m.C0.K0,t.m.C0.H0,t.m.C0.A0,()),(x.kind,x.car,()),t'.tup b x g,()))∧Wr b (t.stat O2) O1 t') ?_ λy5 h5=>?_
 ·refine E (Tq hw.small (x:=x) (g:=g) (t:=t.stat O2) hm.jst hb.2 hb.1 (k31.good _ v1) (show O1.length≤100000 by have:O1.length≤1:=len1;omega)) λy2 h2=>?_;obtain⟨t',e | e,h⟩:=h2
  ·subst e;exact B ⟨t',rfl,h⟩
  ·subst e;exact B ⟨t',rfl,h⟩
 obtain⟨t1,rfl,hw1⟩:=h5;obtain⟨r1,o1⟩:=hw1.fin hw (t:=t.stat O2) hm ⟨hr.leg,hr.sho,hr.rst,hr.oc⟩ k31;have r1:Al b t t1 O1∨De b t t1 O1:=by
  rcases r1 with r | r
  ·exact .inl ⟨r.e,r.m,r.r,r.im,r.b0,r.b1,r.b2⟩
  ·exact .inr ⟨r.e,r.lo,r.ok,r.rp⟩
 have hsl:(bif x.kind !=0 then cm.set i A else cm).length=b.B0.length:=by
  cases x.kind !=0
  ·exact hcm
  ·show(cm.set i A).length=_;rw[r_];exact hcm
 refine aA (b:=(((),(),(),(bif x.kind !=0 then cm.set i A else cm),O2,()),((t.m.C0.F0,t.m.C0.K0,t.m.C0.H0,t.m.C0.A0,()),(x.kind,x.car,()),t1.tup b x g,()))) ?_ ?_
 ·show(bif x.kind !=0 then(bif J x.car cm.length then _ else none)else _)=_;cases x.kind !=0 with
  |false=>rfl
  |true=>rw[d_,Ac hx.car.1 (by have:=hx.car.2;omega),d_,d_];show R (((),(),(),cm.set (aB x.car) A,_,()),_)=_;rw[hi,i_]
 generalize(bif x.kind !=0 then cm.set i A else cm)=c2 at hsl hL;refine E (Q:=λy=>∃t2,y=(((),(),(),O2,()),((t.m.C0.F0,t.m.C0.K0,t.m.C0.H0,t.m.C0.A0,()),(x.kind,x.car,()),t2.tup b x g,()))∧(Al b t t2 (He b t.m.C0 x.kind i cm fr)∨De b t t2 (He b t.m.C0 x.kind i cm fr))∧t2.out={ t.out with V5:=O2 }) ?_ λy11 h11=>?_
 ·refine I (λq=>?_) λq=>?_
  ·have q:t1.e=0:=eq_of_beq q;have r:Al b t t1 O1:=by
    rcases r1 with r | r
    ·exact r
    ·have:=r.e;omega
   have he1:=CL hw.small r.m.jst.img;have hb1:=r.bud hb;refine E (Q:=λy=>∃t2,y=(((),(),(),O2,()),((t.m.C0.F0,t.m.C0.K0,t.m.C0.H0,t.m.C0.A0,()),(x.kind,x.car,()),t2.tup b x g,()))∧(Al b t t2 (He b t.m.C0 x.kind i cm fr)∨De b t t2 (He b t.m.C0 x.kind i cm fr))∧t2.out={ t.out with V5:=O2 }) ?_ λy10 h10=>by obtain⟨t2,rfl,h⟩:=h10;exact B ⟨t2,rfl,h⟩
   have hauto:=XQ r.m.jst.img hw.small ω hsl;have ok2:=ZD (b:=b) t1.m.C0 c2 b.B0.length (A_ _);have len2:=RI t1.m.C0 c2 b.B0.length;rw[r.im]at ok2 len2;obtain⟨k32,v2⟩:=ZG hw.code ok2;refine aA hauto ?_;rw[r.im];refine E (Tq hw.small (x:=x) (g:=g) (t:=t1) r.m.jst hb1.2 hb1.1 (k32.good _ v2) (ω:(Cs (Ag t.m.C0 O1) c2 b.B0.length).length≤100000)) λy2 h2=>?_;have fin:∀t2,Wr b t1 (Cs (Ag t.m.C0 O1) c2 b.B0.length) t2→(Al b t t2 (He b t.m.C0 x.kind i cm fr)∨De b t t2 (He b t.m.C0 x.kind i cm fr))∧t2.out={ t.out with V5:=O2 }:=λt2 h=>by
    obtain⟨r2,o2⟩:=h.fin hw r.m r.r k32;rw[hL];refine⟨?_,by rw[o2,o1];rfl⟩;rcases r2 with r2 | r2
    ·exact .inl (r.app r2)
    ·exact .inr (r.de r2)
   obtain⟨t2,e | e,h⟩:=h2
   ·subst e;exact B ⟨t2,rfl,fin t2 h⟩
   ·subst e;exact B ⟨t2,rfl,fin t2 h⟩
  ·have q:¬t1.e=0:=λh=>by have q:(t1.e==0)=A:=q;rw[h]at q;cases q
   rcases r1 with r | r
   ·exact absurd r.e q
   ·exact B ⟨t1,rfl,.inr (by rw[hL];exact r.mono _),by rw[o1];rfl⟩
 ·obtain⟨t2,rfl,r2,o2⟩:=h11;have how:∀t':H,t'.out={ t.out with V5:=O2 }→∃(i':Nat) (cm':List Bool) (fr':Bool),x.car=(i':Int)∧i'<b.B0.length∧cm'.length=b.B0.length∧He b t.m.C0 x.kind i cm fr=He b t.m.C0 x.kind i' cm' fr'∧t'.out={ t.out with V5:=(Jh t.m.C0 x.kind i' (cm'.getD i' A) fr').2 }∧AB (t.ap aD b x g)=R ((cm',()),())∧Dx t.m.C0.F0 t.m.C0.K0 t.m.C0.H0 t.m.C0.A0=R ((fr',()),()):=λt' ho=>⟨i,cm,fr,hi,hic,hcm,rfl,by rw[hOO];exact ho,hcalm,hfr⟩
  refine I (λ_=>B ⟨t2,_,.inl rfl,r2,how t2 o2⟩) λq=>?_;have q:t2.e=0:=by have q:(t2.e !=0)=A:=q;simpa using q
  have r:Al b t t2 (He b t.m.C0 x.kind i cm fr):=by
   rcases r2 with r | r
   ·exact r
   ·have:=r.e;omega
  refine E (Anx hw (x:=x) (g:=g) r.m r.r O2 t.m.C0 hm.jst.img.lp) λy12 h12=>?_;obtain⟨t3,rfl,m3,r3,f3,o3⟩:=h12;exact B ⟨t3,_,.inr rfl,.inl ⟨f3.e.trans r.e,m3,r3,f3.im.trans r.im,by rw[f3.bu];exact r.b0,by rw[f3.bu];exact r.b1,by rw[f3.bu];exact r.b2⟩,how t3 (o3.trans o2)⟩
end
end Go.Ovl
