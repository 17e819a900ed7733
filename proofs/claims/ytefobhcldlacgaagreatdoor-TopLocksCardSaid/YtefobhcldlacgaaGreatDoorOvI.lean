import Derived.Test.YtefobhcldlacgaaGreatDoorOvH
import Derived.Test.YtefobhcldlacgaaGreatDoorOvA
import Derived.Test.YtefobhcldlacgaaGreatDoorOvC
import Derived.Test.YtefobhcldlacgaaGreatDoorOvB
import Derived.Test.YtefobhcldlacgaaGreatDoorOvD
set_option linter.all false
open Go.Ovl renaming noE->A,Entry->B,Aw->I,Bldg->J,AA->O,View->Q,Record->U
open Bool renaming false->C,true->H
open Go renaming d_->L,a_->R,c_->S
open Option renaming some->V
open List renaming replicate->W,cons_append->aE
open Go.Ovl.Entry renaming mk->aA
open Go.Ovl.Record renaming mk->aB
open Go.IntKind renaming i64->aC
open Go.Ovl.View renaming mk->aD
namespace Go.Ovl
open Go Go.Ab
set_option maxRecDepth 100000
noncomputable section
variable{xs:List Int}{e:B}{E:List B}{m:Img}{b:J}{i k:Nat}{α:Type}{l:List U}{vs:List Q}
def Akx{b:J}{vs:List Q}{floor dir except:Int}:∀(m i:Nat) (best:Int),i+m=vs.length→Ri vs best→Ri vs (Uc b vs floor dir except m i best)
 |0,_,_,_,h=>h
 |m+1,i,best,hi,h=>Akx m (i+1) _ ω (Aae ω h)
def Sd(b:J)(vs:List Q)(floor dir except:Int):Ri vs (DO b vs floor dir except):=by
 unfold DO;cases(b.code !=0||(vs.length:Int) !=(b.B0.length:Int))with
 |true=>exact .inl rfl
 |false=>exact Akx vs.length 0 (-1) ω (.inl rfl)
def Zq(b:J)(vs:List Q)(e:B)(x n:Int):Bool:=((Ar vs e.R0).H3&&(x==0&&XX (HL b vs e.E0 e.I0 n) (HL b vs e.E0 e.I0 e.R0)))||(!(Ar vs e.R0).H3&&(Ut (Ar vs e.R0)&&!Ut (Ar vs n)))
def Kz(b:J)(vs:List Q)(e:B)(x:Int):Int:=bif DO b vs e.E0 e.I0 e.R0==-1 then -1 else bif Zq b vs e x (DO b vs e.E0 e.I0 e.R0)then DO b vs e.E0 e.I0 e.R0 else -1
def Eo(b:J)(vs:List Q)(e:B)(x:Int):B:=
 bif e.R0==-2 then e
 else bif e.R0==-1 then⟨e.E0,e.I0,DO b vs e.E0 e.I0 (-1),e.L1,e.H2⟩
 else bif(Ar vs e.R0).V3 then(bif decide ((b.B0.length:Int)<e.L1)then⟨e.E0,e.I0,-2,e.L1,e.H2⟩else⟨e.E0,e.I0,DO b vs e.E0 e.I0 e.R0,e.L1+1,e.H2⟩)
 else bif !e.H2&&decide (e.L1≤(b.B0.length:Int))then(bif Kz b vs e x != -1 then⟨e.E0,e.I0,Kz b vs e x,e.L1+1,H⟩else e)
 else e
def Entry.tup(e:B):Int×Int×Int×Int×Bool×Unit:=(e.E0,e.I0,e.R0,e.L1,e.H2,())
section
variable{b:J}(hb:b.small){vs:List Q}(hv:okViews vs)(hl:vs.length≤100){e:B}
include hb hv hl
theorem Ab1(hc:0≤e.R0∧e.R0<vs.length)(x:Int):GJ b.C0 b.F0 b.H0 b.M0 b.K0 b.L0 b.N0 b.B0 vs e.E0 e.I0 e.R0 e.L1 e.H2 x=V ((Kz b vs e x,()),()):=by
 unfold GJ Kz;have hn:=Sd b vs e.E0 e.I0 e.R0;rw[OA hb hv hl];generalize DO b vs e.E0 e.I0 e.R0=n at hn;simp only[R];rcases hn with rfl | hn
 ·rfl
 ·have k1:=Qj hb hv hn e.E0 e.I0;have k2:=Qj hb hv hc e.E0 e.I0;have f1:=Qi (Ar vs e.R0);have f2:=Qi (Ar vs n);rw[An (ω:¬n=-1),Ac hc.1 hc.2];unfold Zq;unfold Ar at f1 f2⊢;simp only[L,S];cases hleg:(vs.getD e.R0.toNat (aD C C C C 0 0 0 0 0 0 0 0)).H3 with
  |true=>
   simp only[L,z_,q_,b0_,Bool.or_false];cases x==0 with
   |true=>simp only[L,z_,k1,k2,R,Tf];cases XX (HL b vs e.E0 e.I0 n) (HL b vs e.E0 e.I0 e.R0)<;>rfl
   |false=>rfl
  |false=>
   rw[hleg]at f1;simp only[S,b0_,d4_,z_,Bool.false_or,R,L,f1];cases Ut (vs.getD e.R0.toNat (aD C C C C 0 0 0 0 0 0 0 0))with
   |false=>rfl
   |true=>simp only[L,Ac hn.1 hn.2,z_,f2,R];cases Ut (vs.getD n.toNat (aD C C C C 0 0 0 0 0 0 0 0))<;>rfl
theorem ZW(hc:-2≤e.R0∧e.R0<vs.length)(hm:0≤e.L1∧e.L1≤255)(x:Int):Ga b.C0 b.F0 b.H0 b.M0 b.K0 b.L0 b.N0 b.B0 vs e.E0 e.I0 e.R0 e.L1 e.H2 x=V (((),()),((Eo b vs e x).tup,())):=by
 unfold Ga Eo;have w:aC.wrap (e.L1+1)=e.L1+1:=Aa ω ω;by_cases g1:e.R0=-2
 ·rw[show(e.R0==-2)=H by rw[g1];rfl];rfl
 rw[An g1];by_cases g2:e.R0=-1
 ·rw[show(e.R0==-1)=H by rw[g2];rfl];simp only[L,S,OA hb hv hl,R];rfl
 rw[An g2];have hc':0≤e.R0∧e.R0<vs.length:=ω;have ho:=Ab1 hb hv hl hc' x;unfold Ar;simp only[S,Ac hc'.1 hc'.2,L];cases hlost:(vs.getD e.R0.toNat (aD C C C C 0 0 0 0 0 0 0 0)).V3 with
 |true=>
  simp only[L,R];cases decide ((b.B0.length:Int)<e.L1)with
  |true=>rfl
  |false=>simp only[S,Ac hc'.1 hc'.2,L,hlost,OA hb hv hl,R,w];rfl
 |false=>
  simp only[S,R,Ac hc'.1 hc'.2,L,hlost];cases hmv:e.H2 with
  |true=>simp only[q_,S,R,b0_];unfold Entry.tup;rw[hmv]
  |false=>
   rw[hmv]at ho;simp only[d4_,L,R,z_];cases decide (e.L1≤(b.B0.length:Int))with
   |false=>simp only[S];unfold Entry.tup;rw[hmv]
   |true=>
    simp only[L,ho,R,w];cases Kz b vs e x != -1 with
    |true=>rfl
    |false=>simp only[S];unfold Entry.tup;rw[hmv]
end
def Nt(was now:B):List U:=(bif was.L1 !=now.L1||!(was.H2==now.H2)then [⟨7,now.E0,now.I0,(bif now.H2 then 1 else 0),now.L1⟩]else [])++(bif was.R0 !=now.R0 then [⟨3,now.E0,now.I0,now.R0,0⟩]else [])
def Aic(a b:B):(Nt a b).length≤2:=by unfold Nt;cases(a.L1 !=b.L1||!(a.H2==b.H2))<;>cases a.R0 !=b.R0<;>simp
def ZR(a c:B):KJ a.E0 a.I0 a.R0 a.L1 a.H2 c.E0 c.I0 c.R0 c.L1 c.H2=V ((Nt a c,()),()):=by
 unfold KJ Nt;have b1:∀r:U,Nat.ble (([]:List U).length+[r].length) 2147483648=H:=λ_=>AD σ;have b2:∀r s:U,Nat.ble (([]++[s]:List U).length+[r].length) 2147483648=H:=λ_ _=>AD σ;cases a.L1 !=c.L1<;>cases a.H2==c.H2<;>cases hm:c.H2<;>cases hc:a.R0 !=c.R0<;>
  simp only[L,S,R,q_,d4_,Bool.or_true,Bool.true_or,Bool.or_self,b1,b2,hc]<;>rfl
def We(b:J)(i:Int):Car:=b.B0.getD i.toNat (Car.mk 0 0 0 0 0 0 0 0 0)
def ZF(b:J)(vs:List Q)(e n:B)(x:Int):Int:=
 bif n.R0 !=e.R0&&decide (0≤n.R0)then(bif decide (1000000<aC.wrap (RE b n.R0 (Ar vs n.R0) e.E0 e.I0+(We b n.R0).J2))then 1000000 else aC.wrap (RE b n.R0 (Ar vs n.R0) e.E0 e.I0+(We b n.R0).J2))
 else(bif decide (IntKind.wrap aC (x-1)<0)then 0 else aC.wrap (x-1))
def GO(b:J)(vs:List Q):List B→List Int→List U
 |e::t,x::xs=>Nt e (Eo b vs e x)++GO b vs t xs
 |_,_=>[]
def Ml(b:J)(vs:List Q):List B→List Int→List Int
 |e::t,x::xs=>ZF b vs e (Eo b vs e x) x::Ml b vs t xs
 |_,_=>[]
def Ayo(b:J)(vs:List Q)(e:B)(x:Int):(Eo b vs e x).E0=e.E0∧(Eo b vs e x).I0=e.I0:=by unfold Eo;cases e.R0==-2<;>cases e.R0==-1<;>cases(Ar vs e.R0).V3<;>cases decide ((b.B0.length:Int)<e.L1)<;>cases(!e.H2&&decide (e.L1≤(b.B0.length:Int)))<;>cases Kz b vs e x != -1<;>exact⟨rfl,rfl⟩
def Azt(b:J)(vs:List Q)(e:B)(x:Int):Ri vs (Kz b vs e x):=by
 unfold Kz;cases DO b vs e.E0 e.I0 e.R0==-1 with
 |true=>exact .inl rfl
 |false=>
  cases Zq b vs e x (DO b vs e.E0 e.I0 e.R0)with
  |true=>exact Sd ..
  |false=>exact .inl rfl
def Ap2(b:J)(h:-2≤e.R0∧e.R0<vs.length)(x:Int):-2≤(Eo b vs e x).R0∧(Eo b vs e x).R0<vs.length:=by
 have k:∀n:Int,Ri vs n→-2≤n∧n<vs.length:=λn h=>by
  rcases h with rfl | h
  ·omega
  ·omega
 unfold Eo;by_cases g1:e.R0=-2
 ·rw[show(e.R0==-2)=H by rw[g1];rfl];exact h
 rw[An g1];by_cases g2:e.R0=-1
 ·rw[show(e.R0==-1)=H by rw[g2];rfl];exact k _ (Sd ..)
 rw[An g2];simp only[S];cases(Ar vs e.R0).V3 with
 |true=>
  cases decide ((b.B0.length:Int)<e.L1)with
  |true=>exact⟨by show(-2:Int)≤-2;omega,by show(-2:Int)<_;omega⟩
  |false=>exact k _ (Sd ..)
 |false=>
  cases(!e.H2&&decide (e.L1≤(b.B0.length:Int)))with
  |true=>
   cases Kz b vs e x != -1 with
   |true=>exact k _ (Azt ..)
   |false=>exact h
  |false=>exact h
def Ahe{b:J}:∀{l:List B}{p:Option B},HG b p l=H→∀e∈l,Iz b e=H
 |[],_,_,_,he=>by cases he
 |a::t,p,h,e,he=>by
  simp only[HG,e_]at h;rcases s_.1 he with rfl | he
  ·exact h.1
  ·exact Ahe h.2.2 e he
def SP(N:List α)(a v:α)(t:List α):(N++a::t).set N.length v=N++v::t:=by
 induction N with
 |nil=>rfl
 |cons h N ih=>simp only[aE,B_,List.set_cons_succ,ih]
section
variable{b:J}(hb:b.small){vs:List Q}(hv:okViews vs)(hl:vs.length≤100)(hlen:(vs.length:Int)=(b.B0.length:Int)){m:Img}(hm:∀e∈m.A0,Iz b e=H)(hm':m.A0.length≤1000){xs:List Int}(hx:xs.length=m.A0.length)
include hb hv hl hlen hm hm' hx
theorem Tg:∀(k i:Nat) (out:List U) (N:List Int),i+k=m.A0.length→N.length=i→out.length≤2*i→
  Cd (λx=>letI a:=x.2.2.1.2.2;letI c:=x.1.2.2.2.2;letI d:=x.2.1.2.2;letI f:=a.2.2;letI g:=d.2.2;Hh x.1.1 x.1.2.1 c.1 c.2.1 c.2.2.1 c.2.2.2.1 c.2.2.2.2.1 x.2.1.1 x.2.1.2.1 d.1 d.2.1 g.1 g.2.1 g.2.2.1 g.2.2.2.1 x.2.2.1.1 x.2.2.1.2.1 a.1 a.2.1 f.1 f.2.1 f.2.2.1 f.2.2.2.1 f.2.2.2.2.1) (k+1)
   ((xs,vs,(),(),out,N++W k 0,m.A0,(m.A0.length:Int),(i:Int),()),(b.tup,(b.C0,b.F0,b.H0,b.M0,b.K0,b.L0,b.N0,b.B0,vs,()),()))=V ((out++GO b vs (m.A0.drop i) (xs.drop i),N++Ml b vs (m.A0.drop i) (xs.drop i),()),())
 |0,i,out,N,hi,hN,ho=>by
  refine AU ?_;show Hh xs vs out (N++[]) m.A0 (m.A0.length:Int) (i:Int) b.C0 b.F0 b.H0 b.M0 b.K0 b.L0 b.N0 b.B0 b.C0 b.F0 b.H0 b.M0 b.K0 b.L0 b.N0 b.B0 vs=_;unfold Hh;have e:decide ((i:Int)<(m.A0.length:Int))=C:=by simp;omega
  rw[e,show i=m.A0.length by omega,b9_];simp[GO,Ml]
 |k+1,i,out,N,hi,hN,ho=>by
  have hi':i<m.A0.length:=ω;have hix:i<xs.length:=ω;have e:decide ((i:Int)<(m.A0.length:Int))=H:=by simp;omega
  have ib:inB (i:Int) m.A0.length=H:=Ac ω ω;have ibx:inB (i:Int) xs.length=H:=Ac ω ω;have ibn:inB (i:Int) (N++W (k+1) (0:Int)).length=H:=Ac ω (by simp;omega);have w:aC.wrap ((i:Int)+1)=((i+1:Nat):Int):=by rw[Aa ω ω];omega
  have hok:=BN A hi';have hent:=hm _ hok;simp only[Iz,e_,t_]at hent;obtain⟨_,c1,c2,c3,c4⟩:=hent;have hd:=ZW hb hv hl (e:=m.A0.getD i A) ω ⟨c3,c4⟩ (xs.getD i 0);have hr:=ZR (m.A0.getD i A) (Eo b vs (m.A0.getD i A) (xs.getD i 0));have hin:=Ap2 b (vs:=vs) (e:=m.A0.getD i A) ω (xs.getD i 0);have hrl:=Aic (m.A0.getD i A) (Eo b vs (m.A0.getD i A) (xs.getD i 0));have hble:Nat.ble (out.length+(Nt (m.A0.getD i A) (Eo b vs (m.A0.getD i A) (xs.getD i 0))).length) 2147483648=H:=AD ω;have hset:∀v:Int,(N++W (k+1) (0:Int)).set i v=N++v::W k 0:=λv=>by rw[← hN];exact SP N 0 v (W k 0)
  have hset2:∀v u:Int,(N++v::W k (0:Int)).set i u=N++u::W k 0:=λv u=>by rw[← hN];exact SP N v u (W k 0)
  have ibn2:∀v:Int,inB (i:Int) (N++v::W k (0:Int)).length=H:=λv=>Ac ω (by simp;omega);rw[Cu A hi',Cu (0:Int) hix];refine(Ca (x':=((xs,vs,(),(),out++Nt (m.A0.getD i A) (Eo b vs (m.A0.getD i A) (xs.getD i 0)),(N++[ZF b vs (m.A0.getD i A) (Eo b vs (m.A0.getD i A) (xs.getD i 0)) (xs.getD i 0)])++W k 0,m.A0,(m.A0.length:Int),((i+1:Nat):Int),()),(b.tup,(b.C0,b.F0,b.H0,b.M0,b.K0,b.L0,b.N0,b.B0,vs,()),()))) ?_).trans ?_
  ·show Hh xs vs out (N++W (k+1) 0) m.A0 (m.A0.length:Int) (i:Int) b.C0 b.F0 b.H0 b.M0 b.K0 b.L0 b.N0 b.B0 b.C0 b.F0 b.H0 b.M0 b.K0 b.L0 b.N0 b.B0 vs=_;unfold Hh;rw[e,ib,ibx,show aA 0 0 0 0 C=A from rfl];unfold Entry.tup at hd;simp only[L,j_,hd,R,hr,hble,ibn,hset];unfold ZF;have hest:=Aqa hb (hv.at (Eo b vs (m.A0.getD i A) (xs.getD i 0)).R0) (Eo b vs (m.A0.getD i A) (xs.getD i 0)).R0 (m.A0.getD i A).E0 (m.A0.getD i A).I0;unfold Alr Ar at hest;cases hne:((Eo b vs (m.A0.getD i A) (xs.getD i 0)).R0 !=(m.A0.getD i A).R0)with
   |false=>simp only[S,R,b0_,M_,d3_,w];rfl
   |true=>
    simp only[L,R,z_];by_cases hge:0≤(Eo b vs (m.A0.getD i A) (xs.getD i 0)).R0
    ·have ibc:inB (Eo b vs (m.A0.getD i A) (xs.getD i 0)).R0 vs.length=H:=Ac hge hin.2;have ibc':inB (Eo b vs (m.A0.getD i A) (xs.getD i 0)).R0 b.B0.length=H:=Ac hge ω;rw[b_ hge];simp only[L,ibc,hest,R,ibc',ibn2,j_,hset2,M_,d3_,w];rfl
    ·rw[f_ hge];simp only[S,M_,d3_,w];rfl
  ·rw[Tg k (i+1) _ (N++[_]) ω (by simp;omega) (by rw[h_];omega)];simp only[GO,Ml,M_,d3_]
end
def PF(xs:List Int):Bool:=xs.all (inR 0 1000000)
def Azy(n:Int):LQ n=V ((!inR 0 1000000 n,()),()):=by
 unfold LQ inR;by_cases g:n<0
 ·rw[b_ g,f_ (ω:¬0≤n)];rfl
 ·rw[f_ g,b_ (ω:0≤n)];by_cases g':1000000<n
  ·rw[b_ g',f_ (ω:¬n≤1000000)];rfl
  ·rw[f_ g',b_ (ω:n≤1000000)];rfl
def Aor(hl:xs.length≤maxLen):BD xs=V ((!PF xs,()),()):=by
 have hm:maxLen≤9223372036854775807:=by decide
 have key:∀(k i:Nat),i+k=xs.length→∃y,Cd (λx=>AT x.1.1 x.1.2.2.1 x.1.2.2.2.1) (k+1) ((xs,(),(xs.length:Int),(i:Int),()),())=V y∧(match y with | .inl _=>(xs.drop i).all (inR 0 1000000)=H | .inr z=>0≤z.1.1∧(xs.drop i).all (inR 0 1000000)=C):=by
  intro k;induction k with
  |zero=>
   intro i hi;refine⟨.inl ((),()),AU ?_,?_⟩
   ·show AT xs (xs.length:Int) (i:Int)=_;unfold AT;rw[show decide ((i:Int)<(xs.length:Int))=C by simp;omega];rfl
   ·rw[show i=xs.length by omega,b9_];rfl
  |succ k ih=>
   intro i hi;have hi':i<xs.length:=ω;have hs:AT xs (xs.length:Int) (i:Int)=V (bif inR 0 1000000 (xs.getD i 0)then .inl ((xs,(),(xs.length:Int),((i+1:Nat):Int),()),())else .inr (.inr (((i:Int),()),()))):=by
    unfold AT;have w:aC.wrap ((i:Int)+1)=((i+1:Nat):Int):=by rw[Aa ω ω];omega
    rw[show decide ((i:Int)<(xs.length:Int))=H by simp;omega,Ac ω ω,Azy,w];simp only[L,j_,R];cases inR 0 1000000 (xs.getD i 0)<;>rfl
   rw[Cu (0:Int) hi',a3_];cases hq:inR 0 1000000 (xs.getD i 0)with
   |true=>rw[hq]at hs;obtain⟨y,h1,h2⟩:=ih (i+1) ω;exact⟨y,(Ca hs).trans h1,by rw[z_];exact h2⟩
   |false=>rw[hq]at hs;exact⟨_,AU hs,by show(0:Int)≤(i:Int)∧_;exact⟨ω,rfl⟩⟩
 obtain⟨y,h1,h2⟩:=key xs.length 0 ω;have h1':BH ((xs,(),(xs.length:Int),(0:Int),()),())=V y:=As h1 ω;rw[S_]at h2;unfold BD CR PF;rw[h1'];cases y with
 |inl z=>simp only at h2;rw[h2];rfl
 |inr z=>simp only at h2;rw[h2.2];simp only[R];rw[b_ h2.1];rfl
def Oo(b:J)(m:Img)(xs:List Int)(vs:List Q):List U×List Int×Int×Unit:=bif m.ok b&&((xs.length:Int)==(m.A0.length:Int)&&((vs.length:Int)==(b.B0.length:Int)&&PF xs))then(GO b vs m.A0 xs,Ml b vs m.A0 xs,0,())else([],[],1,())
def Img.ok_all(h:m.ok b=H):b.code=0∧m.G0.length=b.B0.length∧m.O0.length=b.B0.length∧m.J0.length=b.B0.length∧(∀p∈m.G0,0≤p∧p≤4)∧(∀e∈m.A0,Iz b e=H)∧HG b Option.none m.A0=H:=by unfold Img.ok at h;simp only[e_,U_]at h;obtain⟨h0,h1,h2,h3,h4,h5⟩:=h;exact⟨h0,ω,ω,ω,λp hp=>Ao.1 (I_.1 h4 p hp),Ahe h5,h5⟩
section
variable{b:J}(hb:b.small){vs:List Q}(hv:okViews vs)(hl:vs.length≤100)(m:Img)(hm:m.A0.length≤1000)(hp:m.G0.length≤maxLen)(xs:List Int)(hx:xs.length≤maxLen)
include hb hv hl hm hp hx
theorem Ae7:IG b.C0 b.F0 b.H0 b.M0 b.K0 b.L0 b.N0 b.B0 m.G0 m.O0 m.J0 m.A0 xs vs=V (Oo b m xs vs,()):=by
 have hmx:1000≤maxLen:=by decide
 unfold IG Oo;rw[CY hb m hp ω,Aor hx];simp only[R,bne];cases hok:m.ok b with
 |false=>rfl
 |true=>
  cases hq:(xs.length:Int)==(m.A0.length:Int)with
  |false=>rfl
  |true=>
   cases hr:(vs.length:Int)==(b.B0.length:Int)with
   |false=>rfl
   |true=>
    cases PF xs with
    |false=>rfl
    |true=>
     have hq':(xs.length:Int)=(m.A0.length:Int):=by simpa using hq
     have hr':(vs.length:Int)=(b.B0.length:Int):=by simpa using hr
     obtain⟨_,_,_,_,_,hall,_⟩:=Img.ok_all hok;have hlp:=As (Tg hb hv hl hr' hall hm (xs:=xs) ω m.A0.length 0 [] [] ω rfl σ) ω;have hlp':Mb ((xs,vs,(),(),([]:List U),W m.A0.length (0:Int),m.A0,(m.A0.length:Int),(0:Int),()),(b.tup,(b.C0,b.F0,b.H0,b.M0,b.K0,b.L0,b.N0,b.B0,vs,()),()))=_:=hlp;unfold Bldg.tup at hlp';simp only[q_,S,hq',b_ (ω:(0:Int)≤(m.A0.length:Int)),b_ (e1_ (m.A0.length:Int)),b_ (ω:(m.A0.length:Int)≤2147483648),a6_,L,j_,hlp',R,S_,a5_]
end
def YT(b:J)(vs:List Q):∀(l:List B) (xs:List Int),(GO b vs l xs).length≤2*l.length
 |[],_=>by simp[GO]
 |_::_,[]=>by simp[GO]
 |e::t,x::xs=>by have h1:=YT b vs t xs;have h2:=Aic e (Eo b vs e x);simp only[GO,h_,B_];omega
def YS(b:J)(vs:List Q):∀(l:List B) (xs:List Int),xs.length=l.length→(Ml b vs l xs).length=l.length
 |[],_,_=>by simp[Ml]
 |_::_,[],h=>by simp at h
 |e::t,x::xs,h=>by simp only[Ml,B_,YS b vs t xs (by simpa using h)]
def Azx(b:J)(m:Img)(xs:List Int)(vs:List Q):(Oo b m xs vs).1.length≤2*m.A0.length∧(Oo b m xs vs).2.1.length≤m.A0.length:=by
 unfold Oo;cases hq:(m.ok b&&((xs.length:Int)==(m.A0.length:Int)&&((vs.length:Int)==(b.B0.length:Int)&&PF xs)))with
 |false=>exact⟨σ,σ⟩
 |true=>simp only[e_,U_]at hq;refine⟨YT b vs m.A0 xs,?_⟩;show(Ml b vs m.A0 xs).length≤_;rw[YS b vs m.A0 xs ω];exact y_ _
def noV:Q:=aD C C C C 0 0 0 0 0 0 0 0
def noP:Calls:=Calls.mk 0 0
structure Lan where
 lit:List Calls
 gong:List Bool
 cl:Int×Int
def Lan.tup(l:Lan):List Calls×List Bool×Int×Int×Unit:=(l.lit,l.gong,l.cl.1,l.cl.2,())
def Lan.none:Lan:=⟨[],[],(0,0)⟩
def MJ(b:J)(vs:List Q)(i:Nat)(s:Lan):Int×Int:=Az (Dc b (vs.getD i noV)) s.cl
def Ky(b:J)(vs:List Q)(ps:List Calls)(i:Nat)(s:Lan):Lan:=⟨s.lit++[Calls.mk (MJ b vs i s).1 (MJ b vs i s).2],s.gong++[!isZ (Az (MJ b vs i s) ((ps.getD i noP).Up,(ps.getD i noP).X3))],BS s.cl (MJ b vs i s)⟩
def CQ(b:J)(vs:List Q)(ps:List Calls):Lan:=AM (Ky b vs ps) vs.length 0 Lan.none
def Ad0(b:J)(vs:List Q)(ps:List Calls):Lan×Int:=bif(vs.length:Int)==(b.B0.length:Int)&&((ps.length:Int)==(b.B0.length:Int))then(CQ b vs ps,0)else(Lan.none,1)
section
variable{b:J}(hb:b.small)(hcode:b.code=0)
include hb hcode
theorem YB(vs:List Q)(ps:List Calls)(hl:vs.length≤1000)(hp:ps.length=vs.length):JO ((ps,(),(),(),vs,(vs.length:Int),(0:Int),()),(b.tup,Lan.none.tup,Lan.none.tup,()))=V (((),(),()),(Lan.none.tup,(CQ b vs ps).tup,()))∧(CQ b vs ps).lit.length=vs.length∧(CQ b vs ps).gong.length=vs.length:=by
 have key:=λ(step:_→_) (h1:∀(i:Nat) (s:Lan),i<vs.length→(s.lit.length=i∧s.gong.length=i)→step ((ps,(),(),(),vs,(vs.length:Int),(i:Int),()),(b.tup,Lan.none.tup,s.tup,()))=V (.inl ((ps,(),(),(),vs,(vs.length:Int),((i+1:Nat):Int),()),(b.tup,Lan.none.tup,(Ky b vs ps i s).tup,())))) h2=>Bc (step:=step) vs.length (λi (s:Lan)=>((ps,(),(),(),vs,(vs.length:Int),(i:Int),()),(b.tup,Lan.none.tup,s.tup,()))) (Ky b vs ps) (λi s=>s.lit.length=i∧s.gong.length=i) (λs=>(((),(),()),(Lan.none.tup,s.tup,()))) (λi s hi hs=>⟨h1 i s hi hs,by
   constructor
   ·show(s.lit++[_]).length=_;rw[h_,H_,hs.1]
   ·show(s.gong++[_]).length=_;rw[h_,H_,hs.2]⟩) h2 vs.length 0 Lan.none ω ⟨rfl,rfl⟩
 have h:=key (λx=>letI a:=x.2.1.2.2;letI c:=x.2.2;letI d:=x.1.2.2.2.2;letI e:=a.2.2;letI f:=c.2.1;FO x.1.1 d.1 d.2.1 d.2.2.1 x.2.1.1 x.2.1.2.1 a.1 a.2.1 e.1 e.2.1 e.2.2.1 e.2.2.2.1 c.1.1 c.1.2.1 c.1.2.2.1 c.1.2.2.2.1 f.1 f.2.1 f.2.2.1 f.2.2.2.1) (λi s hi hs=>by
  show FO ps vs (vs.length:Int) (i:Int) b.C0 b.F0 b.H0 b.M0 b.K0 b.L0 b.N0 b.B0 [] [] 0 0 s.lit s.gong s.cl.1 s.cl.2=_;unfold FO;rw[show aD C C C C 0 0 0 0 0 0 0 0=noV from rfl,show Calls.mk 0 0=noP from rfl];simp only[b_ (ω:(i:Int)<(vs.length:Int)),Ac (ω:(0:Int)≤(i:Int)) (ω:(i:Int)<(vs.length:Int)),Ac (ω:(0:Int)≤(i:Int)) (ω:(i:Int)<(ps.length:Int)),L,j_,RN hb hcode,R,Hn hi (show vs.length≤Bs by unfold Bs;omega)];have e1:=GB (Dc b (vs.getD i noV)) s.cl;have e2:=GB (MJ b vs i s) ((ps.getD i noP).Up,(ps.getD i noP).X3);have e3:=Fb s.cl (MJ b vs i s);unfold MJ at e2 e3;simp only at e2;simp only[e1,R,e2,e3];rw[AD (show s.lit.length+[Calls.mk (Az (Dc b (vs.getD i noV)) s.cl).1 (Az (Dc b (vs.getD i noV)) s.cl).2].length≤2147483648 by show s.lit.length+1≤_;omega)];rw[AD (show s.gong.length+[!((Az (Az (Dc b (vs.getD i noV)) s.cl) ((ps.getD i noP).Up,(ps.getD i noP).X3)).1==0&&((Az (Az (Dc b (vs.getD i noV)) s.cl) ((ps.getD i noP).Up,(ps.getD i noP).X3)).2==0&&H))].length≤2147483648 by show s.gong.length+1≤_;omega)];rfl) (λs _=>by
  show FO ps vs (vs.length:Int) (vs.length:Int) b.C0 b.F0 b.H0 b.M0 b.K0 b.L0 b.N0 b.B0 [] [] 0 0 s.lit s.gong s.cl.1 s.cl.2=_;unfold FO;simp only[f_ (Q_ (vs.length:Int)),S];rfl)
 exact⟨As h.1 ω,h.2.1,h.2.2⟩
theorem Abr(vs:List Q)(ps:List Calls)(hl:vs.length≤1000):LW b.C0 b.F0 b.H0 b.M0 b.K0 b.L0 b.N0 b.B0 vs ps=V (((),(Ad0 b vs ps).2,()),((Ad0 b vs ps).1.tup,())):=by
 unfold LW Ad0;rw[AR,hcode];simp only[R,P_,S];by_cases h1:vs.length=b.B0.length
 ·by_cases h2:ps.length=b.B0.length
  ·have h:=(YB hb hcode vs ps hl ω).1;simp only[Bldg.tup,Lan.tup,Lan.none]at h;rw[h1]at h⊢;rw[h2];simp only[P_,S,l_,a6_,L,h];rfl
  ·rw[h1,P_,JR (ω:¬(ps.length:Int)=(b.B0.length:Int)),An (ω:¬(ps.length:Int)=(b.B0.length:Int)),c8_];rfl
 ·rw[JR (ω:¬(vs.length:Int)=(b.B0.length:Int)),An (ω:¬(vs.length:Int)=(b.B0.length:Int))];rfl
end
def Jz(b:J)(vs:List Q)(F D:Int):Bool:=vs.any λv=>Am (Dc b v) F.toNat D
def CU(b:J)(vs:List Q)(l:List B):List U:=l.flatMap λe=>bif Jz b vs e.E0 e.I0 then [aB 2 e.E0 e.I0 0 0]else []
def Akr(b:J)(vs:List Q){f:Nat}{d:Int}:∀(k i:Nat) (s:Int×Int),i+k=vs.length→Am (AM (λi s=>BS s (Dc b (vs.getD i noV))) k i s) f d=(Am s f d||(vs.drop i).any λv=>Am (Dc b v) f d)
 |0,i,s,hi=>by rw[show i=vs.length by omega,b9_];simp[AM]
 |k+1,i,s,hi=>by show Am (AM (λi s=>BS s (Dc b (vs.getD i noV))) k (i+1) (BS s (Dc b (vs.getD i noV)))) f d=_;rw[Akr b vs k (i+1) _ ω,GL,Cu noV (ω:i<vs.length),List.any_cons,Bool.or_assoc]
def Za(b:J)(vs:List Q):∀l:List B,(CU b vs l).length≤l.length
 |[]=>y_ _
 |e::t=>by have h:=Za b vs t;show((bif Jz b vs e.E0 e.I0 then [aB 2 e.E0 e.I0 0 0]else [])++CU b vs t).length≤_;rw[h_,B_];cases Jz b vs e.E0 e.I0<;>simp<;>omega
def Tm(hb:b.small)(h:Ap b e.E0 e.I0=H):QJ e:=by have lo:=hb.lo;have hi:=hb.hi;unfold Ap Oj at h;simp only[e_,R_,U_,Ao]at h;unfold QJ;omega
section
variable{b:J}(hb:b.small)(hcode:b.code=0){m:Img}(hm:ImgOK b m)(hl:m.A0.length≤100000)(vs:List Q)(hv:(vs.length:Int)=(b.B0.length:Int))
include hb hcode hm hl hv
theorem Abs:LX b.C0 b.F0 b.H0 b.M0 b.K0 b.L0 b.N0 b.B0 m.G0 m.O0 m.J0 m.A0 vs=V ((CU b vs m.A0,()),()):=by
 have hcc:=Aj hcode;have hmx:100000≤maxLen:=by decide
 have hlp:=hm.lp;have h0:=Bc (step:=λx=>letI a:=x.2.1.2.2;letI c:=x.2.2;letI g:=a.2.2;FP x.1.2.2.2.1 x.1.2.2.2.2.1 x.1.2.2.2.2.2.1 x.2.1.1 x.2.1.2.1 a.1 a.2.1 g.1 g.2.1 g.2.2.1 g.2.2.2.1 c.1.1 c.1.2.1 c.1.2.2.1 c.1.2.2.2.1 c.2.1.1 c.2.1.2.1) vs.length (λi (s:Int×Int)=>(((),(),(),vs,(vs.length:Int),(i:Int),()),(b.tup,m.tup,(s.1,s.2,()),()))) (λi s=>BS s (Dc b (vs.getD i noV))) (λ_ _=>True) (λs=>(((),(),()),(m.tup,(s.1,s.2,()),()))) (λi s hi _=>⟨by
  show FP vs (vs.length:Int) (i:Int) b.C0 b.F0 b.H0 b.M0 b.K0 b.L0 b.N0 b.B0 m.G0 m.O0 m.J0 m.A0 s.1 s.2=_;unfold FP;rw[show aD C C C C 0 0 0 0 0 0 0 0=noV from rfl];have e3:=Fb s (Dc b (vs.getD i noV));simp only[b_ (ω:(i:Int)<(vs.length:Int)),Ac (ω:(0:Int)≤(i:Int)) (ω:(i:Int)<(vs.length:Int)),L,j_,RN hb hcode,R,e3,Hn hi (show vs.length≤Bs by unfold Bs;omega)];rfl,trivial⟩) (λs _=>by
  show FP vs (vs.length:Int) (vs.length:Int) b.C0 b.F0 b.H0 b.M0 b.K0 b.L0 b.N0 b.B0 m.G0 m.O0 m.J0 m.A0 s.1 s.2=_;unfold FP;simp only[f_ (Q_ (vs.length:Int)),S];rfl) vs.length 0 (0,0) ω trivial
 have h0':JP (((),(),(),vs,(vs.length:Int),(0:Int),()),(b.tup,m.tup,((0:Int),(0:Int),()),()))=_:=As h0.1 ω;have hbit:∀(f:Nat) (d:Int),Am (AM (λi s=>BS s (Dc b (vs.getD i noV))) vs.length 0 (0,0)) f d=vs.any λv=>Am (Dc b v) f d:=λf d=>by rw[Akr b vs vs.length 0 (0,0) ω,EJ,Bool.false_or,S_]
 generalize AM (λi s=>BS s (Dc b (vs.getD i noV))) vs.length 0 (0,0)=u at h0' hbit;have h1:=Bc (step:=λx=>FQ x.1.2.1 x.1.2.2.1 x.1.2.2.2.1 x.1.2.2.2.2.1 x.2.1.1 x.2.1.2.1) m.A0.length (λi (out:List U)=>(((),out,m.A0,(m.A0.length:Int),(i:Int),()),((u.1,u.2,()),()))) (λi out=>out++(bif Jz b vs (m.A0.getD i A).E0 (m.A0.getD i A).I0 then [aB 2 (m.A0.getD i A).E0 (m.A0.getD i A).I0 0 0]else [])) (λi out=>out.length≤i) (λout=>((out,()),())) (λi out hi ho=>by
  have hc:=Tm hb (CH.1 (hm.en _ (BN A hi))).1;refine⟨?_,?_⟩
  ·show FQ out m.A0 (m.A0.length:Int) (i:Int) u.1 u.2=_;unfold FQ;rw[show aA 0 0 0 0 C=A from rfl];simp only[b_ (ω:(i:Int)<(m.A0.length:Int)),Ac (ω:(0:Int)≤(i:Int)) (ω:(i:Int)<(m.A0.length:Int)),L,j_,PA u hc.1 hc.2,R,Hn hi (show m.A0.length≤Bs by unfold Bs;omega),hbit];rw[AD (show out.length+[aB 2 (m.A0.getD i A).E0 (m.A0.getD i A).I0 0 0].length≤2147483648 by show out.length+1≤_;omega)];unfold Jz;cases vs.any λv=>Am (Dc b v) (m.A0.getD i A).E0.toNat (m.A0.getD i A).I0
   ·simp
   ·rfl
  ·rw[h_];cases Jz b vs (m.A0.getD i A).E0 (m.A0.getD i A).I0<;>simp<;>omega) (λout _=>by
  show FQ out m.A0 (m.A0.length:Int) (m.A0.length:Int) u.1 u.2=_;unfold FQ;simp only[f_ (Q_ (m.A0.length:Int)),S]) m.A0.length 0 [] ω σ
 have h1':=As h1.1 ω;rw[MH,a5_,PQ (λe=>bif Jz b vs e.E0 e.I0 then [aB 2 e.E0 e.I0 0 0]else []) A m.A0 0 m.A0.length ω,S_]at h1';unfold LX;rw[CY hb m ω ω,Img.ok_iff.2 hm];simp only[R,q_,S];rw[show((vs.length:Int) !=(b.B0.length:Int))=C by rw[hv,P_]];simp only[Bldg.tup,Img.tup]at h0';simp only[S,h0',R];rw[show JQ (((),([]:List U),m.A0,(m.A0.length:Int),(0:Int),()),((u.1,u.2,()),()))=_ from h1'];rfl
end
def xsV(E:List B)(xs:List Int)(r:U):List Int:=
 bif(r.Q0==2)&&FY (I r.E0 r.I0) E then xs.take (O (I r.E0 r.I0) E)++xs.drop (O (I r.E0 r.I0) E+1)
 else bif(r.Q0==1)&&!FY (I r.E0 r.I0) E then xs.take (O (I r.E0 r.I0) E)++[0]++xs.drop (O (I r.E0 r.I0) E)
 else xs
def Bde(E:List B)(xs:List Int)(F D:Int):Int:=bif FY (I F D) E then xs.getD (O (I F D) E) 0 else 0
def RG(E:List B)(xs:List Int)(e:B):Int:=Bde E xs e.E0 e.I0
def Al9(e:B):isC e.E0 e.I0 e=H:=by unfold isC;simp
def Aqs(hs:Bj E)(hi:i<E.length):O (E.getD i A) E=i:=by
 have hp:=Et.1 hs;rcases Nat.lt_trichotomy (O (E.getD i A) E) i with h | h | h
 ·have h1:=Agm hs (O (E.getD i A) E) (y_ _) ω;have h2:Bv (E.getD (O (E.getD i A) E) A) (E.getD i A)=H:=by
   generalize O (E.getD i A) E=p at h;have hg:∀j (hj:j<E.length),E.getD j A=E[j]:=λj hj=>by simp[k_,hj]
   rw[hg p ω,hg i hi];exact b3_.1 hp p i ω hi h
  rw[h1]at h2;cases h2
 ·exact h
 ·have h1:=Agn (E.getD i A) E i h;have h2:=(WT (Al9 (E.getD i A))).1;rw[h1]at h2;cases h2
def Bhy(hs:Bj E)(hi:i<E.length):FY (I (E.getD i A).E0 (E.getD i A).I0) E=H:=by unfold FY;rw[TD,Aqs hs hi,e_];exact⟨Eq.mpr h0_ hi,Al9 _⟩
def Aqr(hs:Bj E)(xs:List Int)(hi:i<E.length):RG E xs (E.getD i A)=xs.getD i 0:=by unfold RG Bde;rw[Bhy hs hi,TD,Aqs hs hi];rfl
def Alt{a b:List α}(d:α)(hl:a.length=b.length)(h:∀i,i<a.length→a.getD i d=b.getD i d):a=b:=by
 refine List.ext_getElem hl λi h1 h2=>?_
 have:=h i h1
 simpa[k_,h1,h2]using this
def Bc6{β:Type}(f:α→β){l:List α}(hi:i<l.length)(d:α)(d':β):(l.map f).getD i d'=f (l.getD i d):=by simp[k_,hi]
def Bh9(hs:Bj E)(hl:xs.length=E.length):E.map (RG E xs)=xs:=by refine Alt 0 (by rw[b2_,hl]) λi hi=>?_;rw[b2_]at hi;rw[Bc6 _ hi A,Aqr hs xs hi]
def Ano{l:List α}{a:α}(d:α)(h:a=l.getD k d):l.set k a=l:=by
 by_cases hk:k<l.length
 ·refine Alt d (x_ ..) λi hi=>?_;by_cases hik:k=i
  ·subst hik;rw[h];simp[k_,hk]
  ·simp[k_,hik]
 ·rw[List.set_eq_of_length_le ω]
def Aqf{c:B}{l:List B}(h:FY c l=H):O c l<l.length∧isC c.E0 c.I0 (l.getD (O c l) A)=H:=by unfold FY at h;rw[e_]at h;exact⟨Eq.mp h0_ h.1,h.2⟩
def Bai(hs:Bj m.A0)(hl:xs.length=m.A0.length)(r:U):xsV m.A0 xs r=(Ak m r).A0.map (RG m.A0 xs):=by
 have hbase:=Bh9 hs hl;have hfp:=Rr (c:=I r.E0 r.I0) 0 hs;rw[o_]at hfp;have hfp':DM r.E0 r.I0 m.A0 0=_:=hfp;unfold Ak xsV;by_cases k4:r.Q0=4
 ·rw[k4];exact hbase.symm
 by_cases k5:r.Q0=5
 ·rw[k5];exact hbase.symm
 by_cases k6:r.Q0=6
 ·rw[k6];exact hbase.symm
 rw[An k4,An k5,An k6,hfp'];simp only[S];cases hh:FY (I r.E0 r.I0) m.A0 with
 |false=>
  simp only[S,l_,L,c8_,d4_,e3_];cases k1:r.Q0==1 with
  |false=>exact hbase.symm
  |true=>
   simp only[L];show _=(Hw (aA r.E0 r.I0 (-1) 0 C) C m.A0).map (RG m.A0 xs);have hnone:=Ahu hs hh;rw[WP (c:=aA r.E0 r.I0 (-1) 0 C) (λx hx=>hnone x hx)];have hp:O (aA r.E0 r.I0 (-1) 0 C) m.A0=O (I r.E0 r.I0) m.A0:=(TD (aA r.E0 r.I0 (-1) 0 C) m.A0).symm;have hn:RG m.A0 xs (aA r.E0 r.I0 (-1) 0 C)=0:=by unfold RG Bde;rw[hh];rfl
   rw[hp,List.map_append,List.map_append,List.map_take,List.map_drop,hbase,List.map_singleton,hn]
 |true=>
  obtain⟨p1,p2⟩:=Aqf hh;simp only[L,e3_,q_,c8_,S];rw[An (ω:¬((O (I r.E0 r.I0) m.A0:Nat):Int)=-1)];simp only[S,j_];generalize O (I r.E0 r.I0) m.A0=p at p1 p2⊢;have hset:∀e':B,e'.E0=(m.A0.getD p A).E0→e'.I0=(m.A0.getD p A).I0→(m.A0.set p e').map (RG m.A0 xs)=xs:=λe' h1 h2=>by
   rw[List.map_set,hbase];refine Ano 0 ?_
   have:RG m.A0 xs e'=RG m.A0 xs (m.A0.getD p A):=by unfold RG;rw[h1,h2]
   rw[this,Aqr hs xs p1]
  cases k2:r.Q0==2 with
  |true=>simp only[L];show _=(m.A0.take p++m.A0.drop (p+1)).map (RG m.A0 xs);rw[List.map_append,List.map_take,List.map_drop,hbase]
  |false=>
   simp only[S];cases k3:r.Q0==3 with
   |true=>exact(hset (Aeo (m.A0.getD p A) r.R0) rfl rfl).symm
   |false=>
    simp only[S];cases k7:r.Q0==7 with
    |true=>exact(hset (TJ (m.A0.getD p A) r.Z1 r.R0) rfl rfl).symm
    |false=>exact hbase.symm
def Biu(hs:Bj m.A0)(hl:xs.length=m.A0.length)(r:U):(xsV m.A0 xs r).length=(Ak m r).A0.length:=by rw[Bai hs hl,b2_]
def xsL:Img→List Int→List U→List Int
 |_,xs,[]=>xs
 |m,xs,r::t=>xsL (Ak m r) (xsV m.A0 xs r) t
def At6(e:B)(F D:Int):IY e.E0 e.I0 e.R0 e.L1 e.H2 F D=V ((!Bv e (I F D),()),((F,()),(D,()),())):=by
 unfold IY Bv I;by_cases h1:F<e.E0
 ·rw[b_ h1,f_ (ω:¬e.E0<F),An (ω:¬e.E0=F)];rfl
 ·rw[f_ h1];by_cases h2:e.E0=F
  ·rw[h2,f_ (Q_ F),l_];by_cases h3:e.I0<D
   ·rw[b_ h3,f_ (ω:¬D≤e.I0)];rfl
   ·rw[f_ h3,b_ (ω:D≤e.I0)];rfl
  ·rw[An h2,b_ (ω:e.E0<F)];rfl
def Aea(E:List B)(hl:E.length≤100000)(F D:Int):∀(k i:Nat),i+k=E.length→Cd (λx=>Av x.1.1 x.1.2.2.1 x.1.2.2.2.1 x.2.1.1 x.2.2.1.1) (k+1) ((E,(),(E.length:Int),(i:Int),()),((F,()),(D,()),()))=V (bif Nat.blt (i+O (I F D) (E.drop i)) E.length then .inr ((((i+O (I F D) (E.drop i):Nat):Int),()),((F,()),(D,()),()))else .inl ((),((F,()),(D,()),())))
 |0,i,hi=>by
  obtain rfl:i=E.length:=ω;refine AU ?_;show Av E (E.length:Int) (E.length:Int) F D=_;unfold Av;rw[f_ (Q_ (E.length:Int)),b9_]
  have:Nat.blt (E.length+O (I F D) []) E.length=C:=by
   cases h:Nat.blt (E.length+O (I F D) []) E.length with
   |false=>rfl
   |true=>have:=Eq.mp h0_ h;omega
  rw[this];rfl
 |k+1,i,hi=>by
  have hi':i<E.length:=ω;have hs:Av E (E.length:Int) (i:Int) F D=V (bif Bv (E.getD i A) (I F D)then .inl ((E,(),(E.length:Int),((i+1:Nat):Int),()),((F,()),(D,()),()))else .inr (.inr (((i:Int),()),((F,()),(D,()),())))):=by unfold Av;rw[show aA 0 0 0 0 C=A from rfl];simp only[b_ (ω:(i:Int)<(E.length:Int)),Ac (ω:(0:Int)≤(i:Int)) (ω:(i:Int)<(E.length:Int)),L,j_,At6,R,Hn hi' (show E.length≤Bs by unfold Bs;omega)];cases Bv (E.getD i A) (I F D)<;>rfl
  have hd:=Cu A hi';rw[hd];simp only[O];cases hq:Bv (E.getD i A) (I F D)with
  |true=>rw[hq]at hs;refine(Ca hs).trans ?_;rw[Aea E hl F D k (i+1) ω,L,show i+1+O (I F D) (E.drop (i+1))=i+(O (I F D) (E.drop (i+1))+1)by omega]
  |false=>rw[hq]at hs;refine(AU hs).trans ?_;rw[S,c5_,show Nat.blt i E.length=H from Eq.mpr h0_ hi'];rfl
def ZT(m:Img)(hl:m.A0.length≤100000)(F D:Int):KP m.G0 m.O0 m.J0 m.A0 F D=V ((((O (I F D) m.A0:Nat):Int),FY (I F D) m.A0,()),()):=by
 have h:=Aea m.A0 hl F D m.A0.length 0 ω;have h':=As h ω;rw[S_,o_]at h';have hle:=SO (I F D) m.A0;unfold KP BB FY;rw[show AV ((m.A0,(),(m.A0.length:Int),(0:Int),()),((F,()),(D,()),()))=_ from h'];cases hq:Nat.blt (O (I F D) m.A0) m.A0.length with
 |false=>
  have hge:m.A0.length≤O (I F D) m.A0:=by
   rcases g3_ (O (I F D) m.A0) m.A0.length with g | g
   ·rw[Eq.mpr h0_ g]at hq;cases hq
   ·exact g
  rw[show O (I F D) m.A0=m.A0.length by omega];rfl
 |true=>have hlt:O (I F D) m.A0<m.A0.length:=Eq.mp h0_ hq;simp only[L,R];rw[f_ (ω:¬((O (I F D) m.A0:Nat):Int)<0)];simp only[S,Ac (ω:(0:Int)≤((O (I F D) m.A0:Nat):Int)) (ω:((O (I F D) m.A0:Nat):Int)<(m.A0.length:Int)),L,j_];rw[show aA 0 0 0 0 C=A from rfl];unfold isC;show Option.bind (bif(m.A0.getD (O (I F D) m.A0) A).E0==F then _ else _) _=V ((_,H&&((m.A0.getD (O (I F D) m.A0) A).E0==F&&(m.A0.getD (O (I F D) m.A0) A).I0==D),()),());cases(m.A0.getD (O (I F D) m.A0) A).E0==F<;>rfl
structure Rnd where
 recs:List Record
 img:Img
 xs:List Int
 lan:Lan
 ref:Int×Int
def Rnd.tup(r:Rnd):List U×List Int×List Bool×List Bool×List B×List Int×List Calls×List Bool×Int×Int×Int×Int×Unit:=(r.recs,r.img.G0,r.img.O0,r.img.J0,r.img.A0,r.xs,r.lan.lit,r.lan.gong,r.lan.cl.1,r.lan.cl.2,r.ref.1,r.ref.2,())
def Rnd.tupB(b:J)(r:Rnd):List U×List Int×List Bool×List Bool×List B×List Int×List Calls×List Bool×Int×Int×Int×Int×Int×Int×Int×Int×Nat×Nat×Nat×List Car×Unit:=(r.recs,r.img.G0,r.img.O0,r.img.J0,r.img.A0,r.xs,r.lan.lit,r.lan.gong,r.lan.cl.1,r.lan.cl.2,r.ref.1,r.ref.2,b.C0,b.F0,b.H0,b.M0,b.K0,b.L0,b.N0,b.B0,())
structure Rnd.ok(b:Bldg)(r:Rnd):Prop where
 img:ImgOK b r.img
 len:r.xs.length=r.img.A0.length
def IA:U:=aB 0 0 0 0 0
def QU(r:U)(X:Rnd):Rnd:=⟨X.recs++[r],Ak X.img r,xsV X.img.A0 X.xs r,X.lan,X.ref⟩
def wrL(l:List U)(X:Rnd):Rnd:=⟨X.recs++l,Ai X.img l,xsL X.img X.xs l,X.lan,X.ref⟩
def Xt(r:U)(l:List U)(X:Rnd):wrL (r::l) X=wrL l (QU r X):=by unfold wrL QU;simp only[M_,d3_];rfl
def Xq{X:Rnd}(h:X.ok b){r:U}(hv:Ax b r=H):(QU r X).ok b:=⟨(KH h.img hv).1,Biu h.img.so h.len r⟩
def An3{b:J}:∀{l:List U}{X:Rnd},X.ok b→(∀r∈l,Ax b r=H)→(wrL l X).ok b
 |[],X,h,_=>by unfold wrL;rw[Z_];exact⟨h.img,h.len⟩
 |r::t,X,h,hv=>by rw[Xt];exact An3 (Xq h (hv r (p_ ..))) λx hx=>hv x (r_ _ hx)
def Blr(h:k<xs.length)(hl:xs.length≤100000):EP xs (k:Int) (IntKind.wrap aC ((k:Int)+1))=V ((xs.take k++xs.drop (k+1),()),()):=by unfold EP Alm;rw[Aa ω ω,b_ (ω:(0:Int)≤(k:Int)),b_ (ω:(k:Int)<(k:Int)+1),b_ (ω:(k:Int)+1≤(xs.length:Int)),show Int.toNat ((k:Int)+1)=k+1 by omega,j_];rfl
def Bm9(h:k≤xs.length)(hl:xs.length≤100000):EQ xs (k:Int) [0]=V ((xs.take k++[0]++xs.drop k,()),()):=by unfold EQ Abk;rw[b_ (ω:(0:Int)≤(k:Int)),b_ (ω:(k:Int)≤(xs.length:Int)),AD (show xs.length+[(0:Int)].length≤2147483648 by show xs.length+1≤_;omega),j_];rfl
section
variable{b:J}(hb:b.small)(hcode:b.code=0)
include hb hcode
omit hcode in
theorem Dg(hm:ImgOK b m):m.A0.length≤14:=by
 have:=Bho hb hm
 have:=hb.hi
 omega
theorem Au6{X:Rnd}(hX:X.ok b)(hl:l.length≤100000)(hi:i<l.length)(hv:Ax b (l.getD i IA)=H)(hr:X.recs.length≤1000000):BQ l (l.length:Int) (i:Int) X.recs X.img.G0 X.img.O0 X.img.J0 X.img.A0 X.xs X.lan.lit X.lan.gong X.lan.cl.1 X.lan.cl.2 X.ref.1 X.ref.2 b.C0 b.F0 b.H0 b.M0 b.K0 b.L0 b.N0 b.B0=V (.inl (((),l,(l.length:Int),((i+1:Nat):Int),()),((QU (l.getD i IA) X).tupB b,()))):=by
 have hcc:=Aj hcode;have he:=Dg hb hX.img;have hlp:=hX.img.lp;have hxl:=hX.len;have hpl:=SO (I (l.getD i IA).E0 (l.getD i IA).I0) X.img.A0;have ha:=YE hb ω X.img ω ω (l.getD i IA);have ha':XW b X.img (l.getD i IA)=(((),0,()),((Ak X.img (l.getD i IA)).tup,())):=by unfold XW;rw[Img.ok_iff.2 hX.img,hv];rfl
 rw[ha']at ha;unfold BQ;rw[show aB 0 0 0 0 0=IA from rfl];simp only[b_ (ω:(i:Int)<(l.length:Int)),Ac (ω:(0:Int)≤(i:Int)) (ω:(i:Int)<(l.length:Int)),L,j_];rw[ZT X.img ω];simp only[R];generalize l.getD i IA=r at*;have hbl:Nat.ble (X.recs.length+[aB r.Q0 r.E0 r.I0 r.R0 r.Z1].length) 2147483648=H:=AD (by show X.recs.length+1≤_;omega);have hw:=Hn hi (show l.length≤Bs by unfold Bs;omega);have hxs:∀q,xsV X.img.A0 X.xs r=q→(QU r X).tupB b=(X.recs++[aB r.Q0 r.E0 r.I0 r.R0 r.Z1],(Ak X.img r).G0,(Ak X.img r).O0,(Ak X.img r).J0,(Ak X.img r).A0,q,X.lan.lit,X.lan.gong,X.lan.cl.1,X.lan.cl.2,X.ref.1,X.ref.2,b.C0,b.F0,b.H0,b.M0,b.K0,b.L0,b.N0,b.B0,()):=λq h=>by rw[← h];rfl
 by_cases k2:r.Q0=2
 ·have k1:(r.Q0==1)=C:=An ω;have k2':(r.Q0==2)=H:=by rw[k2];rfl
  cases hf:FY (I r.E0 r.I0) X.img.A0 with
  |true=>rw[hxs _ (show _=X.xs.take (O (I r.E0 r.I0) X.img.A0)++X.xs.drop (O (I r.E0 r.I0) X.img.A0+1)by unfold xsV;rw[k2',hf];rfl)];have hp:=(Aqf hf).1;simp only[k2',L,R,Blr (ω:O (I r.E0 r.I0) X.img.A0<X.xs.length) ω];rw[ha];simp only[R,l_,L,hbl,hw];rfl
  |false=>rw[hxs X.xs (by unfold xsV;rw[hf,k1,c8_,b0_];rfl)];simp only[k2',k1,L,S,R];rw[ha];simp only[R,l_,L,hbl,hw];rfl
 ·have k2':(r.Q0==2)=C:=An k2;by_cases k1:r.Q0=1
  ·have k1':(r.Q0==1)=H:=by rw[k1];rfl
   cases hf:FY (I r.E0 r.I0) X.img.A0 with
   |false=>rw[hxs _ (show _=X.xs.take (O (I r.E0 r.I0) X.img.A0)++[0]++X.xs.drop (O (I r.E0 r.I0) X.img.A0)by unfold xsV;rw[k2',k1',hf];rfl)];simp only[k2',k1',L,S,R,d4_,Bm9 (ω:O (I r.E0 r.I0) X.img.A0≤X.xs.length) ω];rw[ha];simp only[R,l_,L,hbl,hw];rfl
   |true=>rw[hxs X.xs (by unfold xsV;rw[hf,k2',b0_,q_,c8_];rfl)];simp only[k2',k1',L,S,R,q_];rw[ha];simp only[R,l_,L,hbl,hw];rfl
  ·have k1':(r.Q0==1)=C:=An k1;rw[hxs X.xs (by unfold xsV;rw[k2',k1',b0_,b0_];rfl)];simp only[k2',k1',S,R];rw[ha];simp only[R,l_,L,hbl,hw];rfl
theorem Acj{X:Rnd}(hX:X.ok b)(hl:l.length≤100000)(hv:∀r∈l,Ax b r=H)(hr:X.recs.length≤100000):BA l X.recs X.img.G0 X.img.O0 X.img.J0 X.img.A0 X.xs X.lan.lit X.lan.gong X.lan.cl.1 X.lan.cl.2 X.ref.1 X.ref.2 b.C0 b.F0 b.H0 b.M0 b.K0 b.L0 b.N0 b.B0=V ((),((wrL l X).tupB b,())):=by
 have key:∀(k i:Nat) (Y:Rnd),i+k=l.length→Y.ok b→Y.recs.length≤100000+i→Cd (λx=>letI d:=x.2.1.2.2.2;letI f:=d.2.2;letI a:=f.2.2.2;letI g:=a.2.2;letI c:=g.2.2.2;letI e:=c.2.2;BQ x.1.2.1 x.1.2.2.1 x.1.2.2.2.1 x.2.1.1 x.2.1.2.1 x.2.1.2.2.1 d.1 d.2.1 f.1 f.2.1 f.2.2.1 a.1 a.2.1 g.1 g.2.1 g.2.2.1 c.1 c.2.1 e.1 e.2.1 e.2.2.1 e.2.2.2.1 e.2.2.2.2.1) (k+1) (((),l,(l.length:Int),(i:Int),()),(Y.tupB b,()))=V ((),((wrL (l.drop i) Y).tupB b,())):=by
  intro k;induction k with
  |zero=>intro i Y hi _ _;obtain rfl:i=l.length:=ω;refine AU ?_;show BQ l (l.length:Int) (l.length:Int) Y.recs Y.img.G0 Y.img.O0 Y.img.J0 Y.img.A0 Y.xs Y.lan.lit Y.lan.gong Y.lan.cl.1 Y.lan.cl.2 Y.ref.1 Y.ref.2 b.C0 b.F0 b.H0 b.M0 b.K0 b.L0 b.N0 b.B0=_;unfold BQ;rw[f_ (Q_ (l.length:Int)),b9_];unfold wrL;rw[Z_];rfl
  |succ k ih=>intro i Y hi hY hr;have hi':i<l.length:=ω;have hv':=hv _ (BN IA hi');rw[Cu IA hi',Xt];exact(Ca (Au6 hb hcode hY hl hi' hv' ω)).trans (ih (i+1) _ ω (Xq hY hv') (by show(Y.recs++[_]).length≤_;rw[h_,H_];omega))
 have h:=key l.length 0 X ω hX ω;rw[S_]at h;have h':Cy (((),l,(l.length:Int),(0:Int),()),(X.tupB b,()))=_:=As h ω;unfold BA;rw[show Cy (((),l,(l.length:Int),(0:Int),()),((X.recs,X.img.G0,X.img.O0,X.img.J0,X.img.A0,X.xs,X.lan.lit,X.lan.gong,X.lan.cl.1,X.lan.cl.2,X.ref.1,X.ref.2,b.C0,b.F0,b.H0,b.M0,b.K0,b.L0,b.N0,b.B0,()),()))=_ from h'];rfl
end
def Yo{F D:Int}{e:B}(he:isC F D e=H)(T:List B):∀(P:List B) (i:Nat),(∀p∈P,isC F D p=C)→DM F D (P++e::T) i=((i+P.length:Nat):Int)
 |[],i,_=>by simp only[a5_,DM,he,L,d7_,c5_]
 |p::P,i,h=>by simp only[aE,DM,h p (p_ ..),S];rw[Yo he T P (i+1) λx hx=>h x (r_ _ hx),B_];congr 1;omega
def Aus{P T:List B}(h:Bj (P++e::T)):∀p∈P,isC e.E0 e.I0 p=C:=by intro p hp;rw[Et]at h;have h2:=(g0_.1 h).2.2 p hp e (p_ ..);rw[HP]at h2;unfold isC;simp only[Bool.and_eq_false_iff,beq_eq_false_iff_ne];omega
def Al2(P T:List B)(e:B):(P++e::T).getD P.length A=e:=by simp[k_]
def Wd(e:B):isC e.E0 e.I0 e=H:=by unfold isC;simp
def Aoc{P T:List B}(hE:m.A0=P++e::T)(hs:∀p∈P,isC e.E0 e.I0 p=C)(n c:Int):Ak m ⟨7,e.E0,e.I0,c,n⟩=m.put (P++TJ e n c::T):=by
 unfold Ak;have hf:DM e.E0 e.I0 m.A0 0=(P.length:Int):=by rw[hE,Yo (Wd e) T P 0 hs,o_]
 simp only[hf];rw[An (ω:¬(P.length:Int)=-1),hE,j_,Al2,SP,SP];rfl
def Agz{P T:List B}(hE:m.A0=P++e::T)(hs:∀p∈P,isC e.E0 e.I0 p=C)(c:Int):Ak m ⟨3,e.E0,e.I0,c,0⟩=m.put (P++Aeo e c::T):=by
 unfold Ak;have hf:DM e.E0 e.I0 m.A0 0=(P.length:Int):=by rw[hE,Yo (Wd e) T P 0 hs,o_]
 simp only[hf];rw[An (ω:¬(P.length:Int)=-1),hE,j_,Al2,SP,SP];rfl
def Img.put_put(m:Img)(l l':List B):(m.put l).put l'=m.put l':=rfl
def Img.put_self(m:Img):m.put m.A0=m:=rfl
def Arm{P T:List B}{n:B}(hE:m.A0=P++e::T)(hs:∀p∈P,isC e.E0 e.I0 p=C)(hF:n.E0=e.E0)(hD:n.I0=e.I0):Ai m (Nt e n)=m.put (P++n::T):=by
 obtain⟨nF,nD,nC,nM,nV⟩:=n;obtain⟨eF,eD,eC,eM,eV⟩:=e;simp only at hF hD;subst hF hD;unfold Nt;simp only;have mv:∀c:Int,TJ ⟨nF,nD,eC,eM,eV⟩ nM c=⟨nF,nD,eC,nM,c==1⟩:=λ_=>rfl;have cv:((bif nV then(1:Int)else 0)==1)=nV:=by cases nV<;>rfl
 cases hp:(eM !=nM||!(eV==nV))with
 |true=>
  have h1:=Aoc hE hs nM (bif nV then 1 else 0);rw[mv,cv]at h1;cases hq:eC !=nC with
  |true=>have h2:=Agz (m:=m.put (P++⟨nF,nD,eC,nM,nV⟩::T)) (P:=P) (T:=T) (e:=⟨nF,nD,eC,nM,nV⟩) rfl hs nC;simp only[L,aE,a5_,Ai];rw[h1,h2];rfl
  |false=>
   have:eC=nC:=by simpa[bne]using hq
   subst this;simp only[L,S,Z_,Ai];exact h1
 |false=>
  simp only[Bool.or_eq_false_iff,g4_,bne_eq_false_iff_eq,U_]at hp;obtain⟨rfl,rfl⟩:=hp;cases hq:eC !=nC with
  |true=>have h2:=Agz hE hs nC;simp only[L,S,a5_,Ai];exact h2
  |false=>
   have:eC=nC:=by simpa[bne]using hq
   subst this;simp only[S,Z_,Ai];rw[← hE];exact(Img.put_self m).symm
def Aud{n:B}(hcode:b.code=0)(hcall:Ap b n.E0 n.I0=H)(hc:-2≤n.R0∧n.R0<(b.B0.length:Int))(hm:0≤n.L1∧n.L1≤255):∀r∈Nt e n,Ax b r=H:=by
 intro r hr;unfold Nt at hr;rcases n_.1 hr with h | h
 ·cases hp:(e.L1 !=n.L1||!(e.H2==n.H2))with
  |false=>rw[hp]at h;cases h
  |true=>rw[hp]at h;rw[E_.1 h];unfold Ax;rw[hcode,hcall,Ao.2 hm];cases n.H2<;>rfl
 ·cases hp:e.R0 !=n.R0 with
  |false=>rw[hp]at h;cases h
  |true=>rw[hp]at h;rw[E_.1 h];unfold Ax;rw[hcode,hcall,Ao.2 ⟨hc.1,show n.R0≤(b.B0.length:Int)-1 by omega⟩];rfl
def OB(b:J)(vs:List Q):List B→List Int→List B
 |e::t,x::xs=>Eo b vs e x::OB b vs t xs
 |_,_=>[]
def Wn(b:J)(vs:List Q):∀(l:List B) (xs:List Int),xs.length=l.length→(OB b vs l xs).length=l.length
 |[],_,_=>by simp[OB]
 |_::_,[],h=>by simp at h
 |e::t,x::xs,h=>by simp only[OB,B_,Wn b vs t xs (by simpa using h)]
def Aha(b:J)(vs:List Q):∀(l:List B) (xs:List Int) (i:Nat),xs.length=l.length→i<l.length→(OB b vs l xs).getD i A=Eo b vs (l.getD i A) (xs.getD i 0)
 |[],_,_,_,h=>by simp at h
 |_::_,[],_,h,_=>by simp at h
 |e::t,x::xs,0,_,_=>rfl
 |e::t,x::xs,i+1,h,h'=>by
  have:=Aha b vs t xs i (by simpa using h) (by simpa using h')
  simpa[OB]using this
def Asp(hc:b.B0.length≤100)(hm:0≤e.L1∧e.L1≤255)(x:Int):0≤(Eo b vs e x).L1∧(Eo b vs e x).L1≤255:=by
 unfold Eo;cases e.R0==-2 with
 |true=>exact hm
 |false=>
  cases e.R0==-1 with
  |true=>exact hm
  |false=>
   cases(Ar vs e.R0).V3 with
   |true=>
    by_cases g:(b.B0.length:Int)<e.L1
    ·rw[b_ g];exact hm
    ·rw[f_ g];exact⟨by show 0≤e.L1+1;omega,by show e.L1+1≤255;omega⟩
   |false=>
    by_cases g:e.L1≤(b.B0.length:Int)
    ·rw[b_ g];cases e.H2 with
     |true=>exact hm
     |false=>
      cases Kz b vs e x != -1 with
      |true=>exact⟨by show 0≤e.L1+1;omega,by show e.L1+1≤255;omega⟩
      |false=>exact hm
    ·rw[f_ g,c8_];exact hm
def SA{b:J}(hc:b.B0.length≤100){vs:List Q}(hlen:(vs.length:Int)=(b.B0.length:Int)):∀(T:List B) (xs:List Int) (P:List B) (m:Img),xs.length=T.length→ImgOK b m→m.A0=P++T→Ai m (GO b vs T xs)=m.put (P++OB b vs T xs)∧(∀r∈GO b vs T xs,Ax b r=H)∧ImgOK b (m.put (P++OB b vs T xs))
 |[],xs,P,m,_,hm,hE=>by
  have:OB b vs [] xs=[]:=by simp[OB]
  have h2:GO b vs [] xs=[]:=by simp[GO]
  rw[this,h2,← hE];exact⟨rfl,(λ_ h=>by cases h),hm⟩
 |_::_,[],_,_,h,_,_=>by simp at h
 |e::T,x::xs,P,m,h,hm,hE=>by
  have hent:=CH.1 (hm.en e (by rw[hE];simp));have hso:=hm.so;rw[hE]at hso;have hs:=Aus hso;obtain⟨c1,c2⟩:=Ayo b vs e x;have hin:=Ap2 b (vs:=vs) (e:=e) ω x;have hmv:=Asp hc (vs:=vs) hent.2.2 x;have hval:=Aud (b:=b) (e:=e) (n:=Eo b vs e x) hm.code (by rw[c1,c2];exact hent.1) ω hmv;have hap:=Arm hE hs c1 c2;have hok:ImgOK b (m.put (P++Eo b vs e x::T)):=by rw[← hap];exact(XU hm hval).1
  obtain⟨g1,g2,g3⟩:=SA hc hlen T xs (P++[Eo b vs e x]) (m.put (P++Eo b vs e x::T)) (by simpa using h) hok (by simp[Img.put]);simp only[GO,OB];have app:∀(rs qs:List U) (m:Img),Ai m (rs++qs)=Ai (Ai m rs) qs:=λrs=>by
   induction rs with
   |nil=>intro _ _;rfl
   |cons r rs ih=>intro qs m;exact ih qs (Ak m r)
  rw[app,hap,g1,Img.put_put];rw[Img.put_put]at g3;simp only[M_,d3_]at g3⊢;exact⟨trivial,(λr hr=>by
   rcases n_.1 hr with hr | hr
   ·exact hval r hr
   ·exact g2 r hr),g3⟩
end
end Go.Ovl
