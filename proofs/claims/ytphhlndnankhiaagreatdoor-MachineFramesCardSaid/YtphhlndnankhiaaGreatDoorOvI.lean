import Derived.Test.YtphhlndnankhiaaGreatDoorOvH
import Derived.Test.YtphhlndnankhiaaGreatDoorOvC
import Derived.Test.YtphhlndnankhiaaGreatDoorOvB
import Derived.Test.YtphhlndnankhiaaGreatDoorOvD
set_option linter.all false
open Go.Ovl renaming noE->A,Entry->B,Au->C,Az->I,Bldg->L,Record->O,View->Q
open Bool renaming true->H,false->J
open Go renaming d_->R
open Option renaming some->S
open List renaming replicate->U,cons_append->aD
open Go.Ovl.Entry renaming mk->aA
open Go.Ovl.Record renaming mk->aB
open Go.IntKind renaming i64->aC
namespace Go.Ovl
open Go Go.Ab
set_option maxRecDepth 100000
noncomputable section
variable{xs:List Int}{e:B}{E:List B}{m:Img}{b:L}{i k:Nat}{α:Type}{l:List O}{vs:List Q}
def Nk(was now:B):List O:=(bif was.Z0 !=now.Z0||!(was.B2==now.B2)then [⟨7,now.D0,now.I0,(bif now.B2 then 1 else 0),now.Z0⟩]else [])++(bif was.T0 !=now.T0 then [⟨3,now.D0,now.I0,now.T0,0⟩]else [])
def Ai0(a b:B):(Nk a b).length≤2:=by unfold Nk;cases(a.Z0 !=b.Z0||!(a.B2==b.B2))<;>cases a.T0 !=b.T0<;>simp
def ZU(a c:B):Kl a.D0 a.I0 a.T0 a.Z0 a.B2 c.D0 c.I0 c.T0 c.Z0 c.B2=S ((Nk a c,()),()):=by
 unfold Kl Nk;have b1:∀r:O,Nat.ble (([]:List O).length+[r].length) 2147483648=H:=λ_=>Av σ;have b2:∀r s:O,Nat.ble (([]++[s]:List O).length+[r].length) 2147483648=H:=λ_ _=>Av σ;cases a.Z0 !=c.Z0<;>cases a.B2==c.B2<;>cases hm:c.B2<;>cases hc:a.T0 !=c.T0<;>
  simp only[R,c_,a_,o_,d4_,Bool.or_true,Bool.true_or,Bool.or_self,b1,b2,hc]<;>rfl
def Ws(b:L)(i:Int):Car:=b.B0.getD i.toNat (Car.mk 0 0 0 0 0 0 0 0 0)
def ZG(b:L)(vs:List Q)(e n:B)(x:Int):Int:=
 bif n.T0 !=e.T0&&decide (0≤n.T0)then(bif decide (1000000<aC.wrap (RW b n.T0 (Ay vs n.T0) e.D0 e.I0+(Ws b n.T0).M2))then 1000000 else aC.wrap (RW b n.T0 (Ay vs n.T0) e.D0 e.I0+(Ws b n.T0).M2))
 else(bif decide (IntKind.wrap aC (x-1)<0)then 0 else aC.wrap (x-1))
def GI(b:L)(vs:List Q):List B→List Int→List O
 |e::t,x::xs=>Nk e (Fh b vs e x)++GI b vs t xs
 |_,_=>[]
def Mb(b:L)(vs:List Q):List B→List Int→List Int
 |e::t,x::xs=>ZG b vs e (Fh b vs e x) x::Mb b vs t xs
 |_,_=>[]
def Ay8(b:L)(vs:List Q)(e:B)(x:Int):(Fh b vs e x).D0=e.D0∧(Fh b vs e x).I0=e.I0:=by unfold Fh;cases e.T0==-2<;>cases e.T0==-1<;>cases(Ay vs e.T0).Z3<;>cases decide ((b.B0.length:Int)<e.Z0)<;>cases(!e.B2&&decide (e.Z0≤(b.B0.length:Int)))<;>cases NB b vs e x != -1<;>exact⟨rfl,rfl⟩
def Az8(b:L)(vs:List Q)(e:B)(x:Int):RA vs (NB b vs e x):=by
 unfold NB;cases IF b vs e.D0 e.I0 e.T0==-1 with
 |true=>exact .inl rfl
 |false=>
  cases Afv b vs e x (IF b vs e.D0 e.I0 e.T0)with
  |true=>exact SA ..
  |false=>exact .inl rfl
def Aql(b:L)(h:-2≤e.T0∧e.T0<vs.length)(x:Int):-2≤(Fh b vs e x).T0∧(Fh b vs e x).T0<vs.length:=by
 have k:∀n:Int,RA vs n→-2≤n∧n<vs.length:=λn h=>by
  rcases h with rfl | h
  ·omega
  ·omega
 unfold Fh;by_cases g1:e.T0=-2
 ·rw[show(e.T0==-2)=H by rw[g1];rfl];exact h
 rw[An g1];by_cases g2:e.T0=-1
 ·rw[show(e.T0==-1)=H by rw[g2];rfl];exact k _ (SA ..)
 rw[An g2];simp only[c_];cases(Ay vs e.T0).Z3 with
 |true=>
  cases decide ((b.B0.length:Int)<e.Z0)with
  |true=>exact⟨by show(-2:Int)≤-2;omega,by show(-2:Int)<_;omega⟩
  |false=>exact k _ (SA ..)
 |false=>
  cases(!e.B2&&decide (e.Z0≤(b.B0.length:Int)))with
  |true=>
   cases NB b vs e x != -1 with
   |true=>exact k _ (Az8 ..)
   |false=>exact h
  |false=>exact h
def Ahz{b:L}:∀{l:List B}{p:Option B},FY b p l=H→∀e∈l,Hv b e=H
 |[],_,_,_,he=>by cases he
 |a::t,p,h,e,he=>by
  simp only[FY,e_]at h;rcases q_.1 he with rfl | he
  ·exact h.1
  ·exact Ahz h.2.2 e he
def Tb(N:List α)(a v:α)(t:List α):(N++a::t).set N.length v=N++v::t:=by
 induction N with
 |nil=>rfl
 |cons h N ih=>simp only[aD,x_,List.set_cons_succ,ih]
section
variable{b:L}(hb:b.small){vs:List Q}(hv:okViews vs)(hl:vs.length≤100)(hlen:(vs.length:Int)=(b.B0.length:Int)){m:Img}(hm:∀e∈m.A0,Hv b e=H)(hm':m.A0.length≤1000){xs:List Int}(hx:xs.length=m.A0.length)
include hb hv hl hlen hm hm' hx
theorem Tr:∀(k i:Nat) (out:List O) (N:List Int),i+k=m.A0.length→N.length=i→out.length≤2*i→
  BY (λx=>letI a:=x.2.2.1.2.2;letI c:=x.1.2.2.2.2;letI d:=x.2.1.2.2;letI f:=a.2.2;letI g:=d.2.2;GY x.1.1 x.1.2.1 c.1 c.2.1 c.2.2.1 c.2.2.2.1 c.2.2.2.2.1 x.2.1.1 x.2.1.2.1 d.1 d.2.1 g.1 g.2.1 g.2.2.1 g.2.2.2.1 x.2.2.1.1 x.2.2.1.2.1 a.1 a.2.1 f.1 f.2.1 f.2.2.1 f.2.2.2.1 f.2.2.2.2.1) (k+1)
   ((xs,vs,(),(),out,N++U k 0,m.A0,(m.A0.length:Int),(i:Int),()),(b.tup,(b.C0,b.E0,b.H0,b.M0,b.J0,b.L0,b.N0,b.B0,vs,()),()))=S ((out++GI b vs (m.A0.drop i) (xs.drop i),N++Mb b vs (m.A0.drop i) (xs.drop i),()),())
 |0,i,out,N,hi,hN,ho=>by
  refine AK ?_;show GY xs vs out (N++[]) m.A0 (m.A0.length:Int) (i:Int) b.C0 b.E0 b.H0 b.M0 b.J0 b.L0 b.N0 b.B0 b.C0 b.E0 b.H0 b.M0 b.J0 b.L0 b.N0 b.B0 vs=_;unfold GY;have e:decide ((i:Int)<(m.A0.length:Int))=J:=by simp;omega
  rw[e,show i=m.A0.length by omega,b2_];simp[GI,Mb]
 |k+1,i,out,N,hi,hN,ho=>by
  have hi':i<m.A0.length:=ω;have hix:i<xs.length:=ω;have e:decide ((i:Int)<(m.A0.length:Int))=H:=by simp;omega
  have ib:inB (i:Int) m.A0.length=H:=Ac ω ω;have ibx:inB (i:Int) xs.length=H:=Ac ω ω;have ibn:inB (i:Int) (N++U (k+1) (0:Int)).length=H:=Ac ω (by simp;omega);have w:aC.wrap ((i:Int)+1)=((i+1:Nat):Int):=by rw[Aa ω ω];omega
  have hok:=BR A hi';have hent:=hm _ hok;simp only[Hv,e_,r_]at hent;obtain⟨_,c1,c2,c3,c4⟩:=hent;have hd:=Aaa hb hv hl (e:=m.A0.getD i A) ω ⟨c3,c4⟩ (xs.getD i 0);have hr:=ZU (m.A0.getD i A) (Fh b vs (m.A0.getD i A) (xs.getD i 0));have hin:=Aql b (vs:=vs) (e:=m.A0.getD i A) ω (xs.getD i 0);have hrl:=Ai0 (m.A0.getD i A) (Fh b vs (m.A0.getD i A) (xs.getD i 0));have hble:Nat.ble (out.length+(Nk (m.A0.getD i A) (Fh b vs (m.A0.getD i A) (xs.getD i 0))).length) 2147483648=H:=Av ω;have hset:∀v:Int,(N++U (k+1) (0:Int)).set i v=N++v::U k 0:=λv=>by rw[← hN];exact Tb N 0 v (U k 0)
  have hset2:∀v u:Int,(N++v::U k (0:Int)).set i u=N++u::U k 0:=λv u=>by rw[← hN];exact Tb N v u (U k 0)
  have ibn2:∀v:Int,inB (i:Int) (N++v::U k (0:Int)).length=H:=λv=>Ac ω (by simp;omega);rw[By A hi',By (0:Int) hix];refine(BS (x':=((xs,vs,(),(),out++Nk (m.A0.getD i A) (Fh b vs (m.A0.getD i A) (xs.getD i 0)),(N++[ZG b vs (m.A0.getD i A) (Fh b vs (m.A0.getD i A) (xs.getD i 0)) (xs.getD i 0)])++U k 0,m.A0,(m.A0.length:Int),((i+1:Nat):Int),()),(b.tup,(b.C0,b.E0,b.H0,b.M0,b.J0,b.L0,b.N0,b.B0,vs,()),()))) ?_).trans ?_
  ·show GY xs vs out (N++U (k+1) 0) m.A0 (m.A0.length:Int) (i:Int) b.C0 b.E0 b.H0 b.M0 b.J0 b.L0 b.N0 b.B0 b.C0 b.E0 b.H0 b.M0 b.J0 b.L0 b.N0 b.B0 vs=_;unfold GY;rw[e,ib,ibx,show aA 0 0 0 0 J=A from rfl];unfold Entry.tup at hd;simp only[R,j_,hd,a_,hr,hble,ibn,hset];unfold ZG;have hest:=Aqt hb (hv.at (Fh b vs (m.A0.getD i A) (xs.getD i 0)).T0) (Fh b vs (m.A0.getD i A) (xs.getD i 0)).T0 (m.A0.getD i A).D0 (m.A0.getD i A).I0;unfold Amb Ay at hest;cases hne:((Fh b vs (m.A0.getD i A) (xs.getD i 0)).T0 !=(m.A0.getD i A).T0)with
   |false=>simp only[c_,a_,a7_,M_,d2_,w];rfl
   |true=>
    simp only[R,a_,s_];by_cases hge:0≤(Fh b vs (m.A0.getD i A) (xs.getD i 0)).T0
    ·have ibc:inB (Fh b vs (m.A0.getD i A) (xs.getD i 0)).T0 vs.length=H:=Ac hge hin.2;have ibc':inB (Fh b vs (m.A0.getD i A) (xs.getD i 0)).T0 b.B0.length=H:=Ac hge ω;rw[b_ hge];simp only[R,ibc,hest,a_,ibc',ibn2,j_,hset2,M_,d2_,w];rfl
    ·rw[f_ hge];simp only[c_,M_,d2_,w];rfl
  ·rw[Tr k (i+1) _ (N++[_]) ω (by simp;omega) (by rw[h_];omega)];simp only[GI,Mb,M_,d2_]
end
def PQ(xs:List Int):Bool:=xs.all (inR 0 1000000)
def Bag(n:Int):LD n=S ((!inR 0 1000000 n,()),()):=by
 unfold LD inR;by_cases g:n<0
 ·rw[b_ g,f_ (ω:¬0≤n)];rfl
 ·rw[f_ g,b_ (ω:0≤n)];by_cases g':1000000<n
  ·rw[b_ g',f_ (ω:¬n≤1000000)];rfl
  ·rw[f_ g',b_ (ω:n≤1000000)];rfl
def Ao4(hl:xs.length≤maxLen):BC xs=S ((!PQ xs,()),()):=by
 have hm:maxLen≤9223372036854775807:=by decide
 have key:∀(k i:Nat),i+k=xs.length→∃y,BY (λx=>AO x.1.1 x.1.2.2.1 x.1.2.2.2.1) (k+1) ((xs,(),(xs.length:Int),(i:Int),()),())=S y∧(match y with | .inl _=>(xs.drop i).all (inR 0 1000000)=H | .inr z=>0≤z.1.1∧(xs.drop i).all (inR 0 1000000)=J):=by
  intro k;induction k with
  |zero=>
   intro i hi;refine⟨.inl ((),()),AK ?_,?_⟩
   ·show AO xs (xs.length:Int) (i:Int)=_;unfold AO;rw[show decide ((i:Int)<(xs.length:Int))=J by simp;omega];rfl
   ·rw[show i=xs.length by omega,b2_];rfl
  |succ k ih=>
   intro i hi;have hi':i<xs.length:=ω;have hs:AO xs (xs.length:Int) (i:Int)=S (bif inR 0 1000000 (xs.getD i 0)then .inl ((xs,(),(xs.length:Int),((i+1:Nat):Int),()),())else .inr (.inr (((i:Int),()),()))):=by
    unfold AO;have w:aC.wrap ((i:Int)+1)=((i+1:Nat):Int):=by rw[Aa ω ω];omega
    rw[show decide ((i:Int)<(xs.length:Int))=H by simp;omega,Ac ω ω,Bag,w];simp only[R,j_,a_];cases inR 0 1000000 (xs.getD i 0)<;>rfl
   rw[By (0:Int) hi',Z_];cases hq:inR 0 1000000 (xs.getD i 0)with
   |true=>rw[hq]at hs;obtain⟨y,h1,h2⟩:=ih (i+1) ω;exact⟨y,(BS hs).trans h1,by rw[s_];exact h2⟩
   |false=>rw[hq]at hs;exact⟨_,AK hs,by show(0:Int)≤(i:Int)∧_;exact⟨ω,rfl⟩⟩
 obtain⟨y,h1,h2⟩:=key xs.length 0 ω;have h1':BH ((xs,(),(xs.length:Int),(0:Int),()),())=S y:=Ak h1 ω;rw[R_]at h2;unfold BC CP PQ;rw[h1'];cases y with
 |inl z=>simp only at h2;rw[h2];rfl
 |inr z=>simp only at h2;rw[h2.2];simp only[a_];rw[b_ h2.1];rfl
def Oc(b:L)(m:Img)(xs:List Int)(vs:List Q):List O×List Int×Int×Unit:=bif m.ok b&&((xs.length:Int)==(m.A0.length:Int)&&((vs.length:Int)==(b.B0.length:Int)&&PQ xs))then(GI b vs m.A0 xs,Mb b vs m.A0 xs,0,())else([],[],1,())
def Img.ok_all(h:m.ok b=H):b.code=0∧m.F0.length=b.B0.length∧m.O0.length=b.B0.length∧m.K0.length=b.B0.length∧(∀p∈m.F0,0≤p∧p≤4)∧(∀e∈m.A0,Hv b e=H)∧FY b Option.none m.A0=H:=by unfold Img.ok at h;simp only[e_,W_]at h;obtain⟨h0,h1,h2,h3,h4,h5⟩:=h;exact⟨h0,ω,ω,ω,λp hp=>Ap.1 (K_.1 h4 p hp),Ahz h5,h5⟩
section
variable{b:L}(hb:b.small){vs:List Q}(hv:okViews vs)(hl:vs.length≤100)(m:Img)(hm:m.A0.length≤1000)(hp:m.F0.length≤maxLen)(xs:List Int)(hx:xs.length≤maxLen)
include hb hv hl hm hp hx
theorem Afr:Im b.C0 b.E0 b.H0 b.M0 b.J0 b.L0 b.N0 b.B0 m.F0 m.O0 m.K0 m.A0 xs vs=S (Oc b m xs vs,()):=by
 have hmx:1000≤maxLen:=by decide
 unfold Im Oc;rw[CW hb m hp ω,Ao4 hx];simp only[a_,bne];cases hok:m.ok b with
 |false=>rfl
 |true=>
  cases hq:(xs.length:Int)==(m.A0.length:Int)with
  |false=>rfl
  |true=>
   cases hr:(vs.length:Int)==(b.B0.length:Int)with
   |false=>rfl
   |true=>
    cases PQ xs with
    |false=>rfl
    |true=>
     have hq':(xs.length:Int)=(m.A0.length:Int):=by simpa using hq
     have hr':(vs.length:Int)=(b.B0.length:Int):=by simpa using hr
     obtain⟨_,_,_,_,_,hall,_⟩:=Img.ok_all hok;have hlp:=Ak (Tr hb hv hl hr' hall hm (xs:=xs) ω m.A0.length 0 [] [] ω rfl σ) ω;have hlp':LO ((xs,vs,(),(),([]:List O),U m.A0.length (0:Int),m.A0,(m.A0.length:Int),(0:Int),()),(b.tup,(b.C0,b.E0,b.H0,b.M0,b.J0,b.L0,b.N0,b.B0,vs,()),()))=_:=hlp;unfold Bldg.tup at hlp';simp only[o_,c_,hq',b_ (ω:(0:Int)≤(m.A0.length:Int)),b_ (e0_ (m.A0.length:Int)),b_ (ω:(m.A0.length:Int)≤2147483648),a0_,R,j_,hlp',a_,R_,a5_]
end
def YT(b:L)(vs:List Q):∀(l:List B) (xs:List Int),(GI b vs l xs).length≤2*l.length
 |[],_=>by simp[GI]
 |_::_,[]=>by simp[GI]
 |e::t,x::xs=>by have h1:=YT b vs t xs;have h2:=Ai0 e (Fh b vs e x);simp only[GI,h_,x_];omega
def YS(b:L)(vs:List Q):∀(l:List B) (xs:List Int),xs.length=l.length→(Mb b vs l xs).length=l.length
 |[],_,_=>by simp[Mb]
 |_::_,[],h=>by simp at h
 |e::t,x::xs,h=>by simp only[Mb,x_,YS b vs t xs (by simpa using h)]
def Baf(b:L)(m:Img)(xs:List Int)(vs:List Q):(Oc b m xs vs).1.length≤2*m.A0.length∧(Oc b m xs vs).2.1.length≤m.A0.length:=by
 unfold Oc;cases hq:(m.ok b&&((xs.length:Int)==(m.A0.length:Int)&&((vs.length:Int)==(b.B0.length:Int)&&PQ xs)))with
 |false=>exact⟨σ,σ⟩
 |true=>simp only[e_,W_]at hq;refine⟨YT b vs m.A0 xs,?_⟩;show(Mb b vs m.A0 xs).length≤_;rw[YS b vs m.A0 xs ω];exact A_ _
def noV:Q:=View.mk J J J J 0 0 0 0 0 0 0 0
def noP:Calls:=Calls.mk 0 0
structure Lan where
 lit:List Calls
 gong:List Bool
 cl:Int×Int
def Lan.tup(l:Lan):List Calls×List Bool×Int×Int×Unit:=(l.lit,l.gong,l.cl.1,l.cl.2,())
def Lan.none:Lan:=⟨[],[],(0,0)⟩
def KK(b:L)(vs:List Q)(i:Nat)(s:Lan):Int×Int:=AX (CL b (vs.getD i noV)) s.cl
def Il(b:L)(vs:List Q)(ps:List Calls)(i:Nat)(s:Lan):Lan:=⟨s.lit++[Calls.mk (KK b vs i s).1 (KK b vs i s).2],s.gong++[!isZ (AX (KK b vs i s) ((ps.getD i noP).Up,(ps.getD i noP).N3))],Cc s.cl (KK b vs i s)⟩
def CO(b:L)(vs:List Q)(ps:List Calls):Lan:=AE (Il b vs ps) vs.length 0 Lan.none
def Aee(b:L)(vs:List Q)(ps:List Calls):Lan×Int:=bif(vs.length:Int)==(b.B0.length:Int)&&((ps.length:Int)==(b.B0.length:Int))then(CO b vs ps,0)else(Lan.none,1)
section
variable{b:L}(hb:b.small)(hcode:b.code=0)
include hb hcode
theorem YC(vs:List Q)(ps:List Calls)(hl:vs.length≤1000)(hp:ps.length=vs.length):Jv ((ps,(),(),(),vs,(vs.length:Int),(0:Int),()),(b.tup,Lan.none.tup,Lan.none.tup,()))=S (((),(),()),(Lan.none.tup,(CO b vs ps).tup,()))∧(CO b vs ps).lit.length=vs.length∧(CO b vs ps).gong.length=vs.length:=by
 have key:=λ(step:_→_) (h1:∀(i:Nat) (s:Lan),i<vs.length→(s.lit.length=i∧s.gong.length=i)→step ((ps,(),(),(),vs,(vs.length:Int),(i:Int),()),(b.tup,Lan.none.tup,s.tup,()))=S (.inl ((ps,(),(),(),vs,(vs.length:Int),((i+1:Nat):Int),()),(b.tup,Lan.none.tup,(Il b vs ps i s).tup,())))) h2=>AP (step:=step) vs.length (λi (s:Lan)=>((ps,(),(),(),vs,(vs.length:Int),(i:Int),()),(b.tup,Lan.none.tup,s.tup,()))) (Il b vs ps) (λi s=>s.lit.length=i∧s.gong.length=i) (λs=>(((),(),()),(Lan.none.tup,s.tup,()))) (λi s hi hs=>⟨h1 i s hi hs,by
   constructor
   ·show(s.lit++[_]).length=_;rw[h_,G_,hs.1]
   ·show(s.gong++[_]).length=_;rw[h_,G_,hs.2]⟩) h2 vs.length 0 Lan.none ω ⟨rfl,rfl⟩
 have h:=key (λx=>letI a:=x.2.1.2.2;letI c:=x.2.2;letI d:=x.1.2.2.2.2;letI e:=a.2.2;letI f:=c.2.1;FO x.1.1 d.1 d.2.1 d.2.2.1 x.2.1.1 x.2.1.2.1 a.1 a.2.1 e.1 e.2.1 e.2.2.1 e.2.2.2.1 c.1.1 c.1.2.1 c.1.2.2.1 c.1.2.2.2.1 f.1 f.2.1 f.2.2.1 f.2.2.2.1) (λi s hi hs=>by
  show FO ps vs (vs.length:Int) (i:Int) b.C0 b.E0 b.H0 b.M0 b.J0 b.L0 b.N0 b.B0 [] [] 0 0 s.lit s.gong s.cl.1 s.cl.2=_;unfold FO;rw[show View.mk J J J J 0 0 0 0 0 0 0 0=noV from rfl,show Calls.mk 0 0=noP from rfl];simp only[b_ (ω:(i:Int)<(vs.length:Int)),Ac (ω:(0:Int)≤(i:Int)) (ω:(i:Int)<(vs.length:Int)),Ac (ω:(0:Int)≤(i:Int)) (ω:(i:Int)<(ps.length:Int)),R,j_,Sd hb hcode,a_,Gb hi (show vs.length≤Ba by unfold Ba;omega)];have e1:=Qv (CL b (vs.getD i noV)) s.cl;have e2:=Qv (KK b vs i s) ((ps.getD i noP).Up,(ps.getD i noP).N3);have e3:=Gy s.cl (KK b vs i s);unfold KK at e2 e3;simp only at e2;simp only[e1,a_,e2,e3];rw[Av (show s.lit.length+[Calls.mk (AX (CL b (vs.getD i noV)) s.cl).1 (AX (CL b (vs.getD i noV)) s.cl).2].length≤2147483648 by show s.lit.length+1≤_;omega)];rw[Av (show s.gong.length+[!((AX (AX (CL b (vs.getD i noV)) s.cl) ((ps.getD i noP).Up,(ps.getD i noP).N3)).1==0&&((AX (AX (CL b (vs.getD i noV)) s.cl) ((ps.getD i noP).Up,(ps.getD i noP).N3)).2==0&&H))].length≤2147483648 by show s.gong.length+1≤_;omega)];rfl) (λs _=>by
  show FO ps vs (vs.length:Int) (vs.length:Int) b.C0 b.E0 b.H0 b.M0 b.J0 b.L0 b.N0 b.B0 [] [] 0 0 s.lit s.gong s.cl.1 s.cl.2=_;unfold FO;simp only[f_ (Q_ (vs.length:Int)),c_];rfl)
 exact⟨Ak h.1 ω,h.2.1,h.2.2⟩
theorem Abv(vs:List Q)(ps:List Calls)(hl:vs.length≤1000):LJ b.C0 b.E0 b.H0 b.M0 b.J0 b.L0 b.N0 b.B0 vs ps=S (((),(Aee b vs ps).2,()),((Aee b vs ps).1.tup,())):=by
 unfold LJ Aee;rw[Bg,hcode];simp only[a_,O_,c_];by_cases h1:vs.length=b.B0.length
 ·by_cases h2:ps.length=b.B0.length
  ·have h:=(YC hb hcode vs ps hl ω).1;simp only[Bldg.tup,Lan.tup,Lan.none]at h;rw[h1]at h⊢;rw[h2];simp only[O_,c_,l_,a0_,R,h];rfl
  ·rw[h1,O_,Ig (ω:¬(ps.length:Int)=(b.B0.length:Int)),An (ω:¬(ps.length:Int)=(b.B0.length:Int)),c1_];rfl
 ·rw[Ig (ω:¬(vs.length:Int)=(b.B0.length:Int)),An (ω:¬(vs.length:Int)=(b.B0.length:Int))];rfl
end
def Ji(b:L)(vs:List Q)(F D:Int):Bool:=vs.any λv=>Aj (CL b v) F.toNat D
def CZ(b:L)(vs:List Q)(l:List B):List O:=l.flatMap λe=>bif Ji b vs e.D0 e.I0 then [aB 2 e.D0 e.I0 0 0]else []
def Ald(b:L)(vs:List Q){f:Nat}{d:Int}:∀(k i:Nat) (s:Int×Int),i+k=vs.length→Aj (AE (λi s=>Cc s (CL b (vs.getD i noV))) k i s) f d=(Aj s f d||(vs.drop i).any λv=>Aj (CL b v) f d)
 |0,i,s,hi=>by rw[show i=vs.length by omega,b2_];simp[AE]
 |k+1,i,s,hi=>by show Aj (AE (λi s=>Cc s (CL b (vs.getD i noV))) k (i+1) (Cc s (CL b (vs.getD i noV)))) f d=_;rw[Ald b vs k (i+1) _ ω,FD,By noV (ω:i<vs.length),List.any_cons,Bool.or_assoc]
def Zd(b:L)(vs:List Q):∀l:List B,(CZ b vs l).length≤l.length
 |[]=>A_ _
 |e::t=>by have h:=Zd b vs t;show((bif Ji b vs e.D0 e.I0 then [aB 2 e.D0 e.I0 0 0]else [])++CZ b vs t).length≤_;rw[h_,x_];cases Ji b vs e.D0 e.I0<;>simp<;>omega
def Ot(hb:b.small)(h:Ai b e.D0 e.I0=H):Re e:=by have lo:=hb.lo;have hi:=hb.hi;unfold Ai NY at h;simp only[e_,S_,W_,Ap]at h;unfold Re;omega
section
variable{b:L}(hb:b.small)(hcode:b.code=0){m:Img}(hm:ImgOK b m)(hl:m.A0.length≤100000)(vs:List Q)(hv:(vs.length:Int)=(b.B0.length:Int))
include hb hcode hm hl hv
theorem Abw:LL b.C0 b.E0 b.H0 b.M0 b.J0 b.L0 b.N0 b.B0 m.F0 m.O0 m.K0 m.A0 vs=S ((CZ b vs m.A0,()),()):=by
 have hcc:=Am hcode;have hmx:100000≤maxLen:=by decide
 have hlp:=hm.lp;have h0:=AP (step:=λx=>letI a:=x.2.1.2.2;letI c:=x.2.2;letI g:=a.2.2;FP x.1.2.2.2.1 x.1.2.2.2.2.1 x.1.2.2.2.2.2.1 x.2.1.1 x.2.1.2.1 a.1 a.2.1 g.1 g.2.1 g.2.2.1 g.2.2.2.1 c.1.1 c.1.2.1 c.1.2.2.1 c.1.2.2.2.1 c.2.1.1 c.2.1.2.1) vs.length (λi (s:Int×Int)=>(((),(),(),vs,(vs.length:Int),(i:Int),()),(b.tup,m.tup,(s.1,s.2,()),()))) (λi s=>Cc s (CL b (vs.getD i noV))) (λ_ _=>True) (λs=>(((),(),()),(m.tup,(s.1,s.2,()),()))) (λi s hi _=>⟨by
  show FP vs (vs.length:Int) (i:Int) b.C0 b.E0 b.H0 b.M0 b.J0 b.L0 b.N0 b.B0 m.F0 m.O0 m.K0 m.A0 s.1 s.2=_;unfold FP;rw[show View.mk J J J J 0 0 0 0 0 0 0 0=noV from rfl];have e3:=Gy s (CL b (vs.getD i noV));simp only[b_ (ω:(i:Int)<(vs.length:Int)),Ac (ω:(0:Int)≤(i:Int)) (ω:(i:Int)<(vs.length:Int)),R,j_,Sd hb hcode,a_,e3,Gb hi (show vs.length≤Ba by unfold Ba;omega)];rfl,trivial⟩) (λs _=>by
  show FP vs (vs.length:Int) (vs.length:Int) b.C0 b.E0 b.H0 b.M0 b.J0 b.L0 b.N0 b.B0 m.F0 m.O0 m.K0 m.A0 s.1 s.2=_;unfold FP;simp only[f_ (Q_ (vs.length:Int)),c_];rfl) vs.length 0 (0,0) ω trivial
 have h0':Jw (((),(),(),vs,(vs.length:Int),(0:Int),()),(b.tup,m.tup,((0:Int),(0:Int),()),()))=_:=Ak h0.1 ω;have hbit:∀(f:Nat) (d:Int),Aj (AE (λi s=>Cc s (CL b (vs.getD i noV))) vs.length 0 (0,0)) f d=vs.any λv=>Aj (CL b v) f d:=λf d=>by rw[Ald b vs vs.length 0 (0,0) ω,Eb,Bool.false_or,R_]
 generalize AE (λi s=>Cc s (CL b (vs.getD i noV))) vs.length 0 (0,0)=u at h0' hbit;have h1:=AP (step:=λx=>FQ x.1.2.1 x.1.2.2.1 x.1.2.2.2.1 x.1.2.2.2.2.1 x.2.1.1 x.2.1.2.1) m.A0.length (λi (out:List O)=>(((),out,m.A0,(m.A0.length:Int),(i:Int),()),((u.1,u.2,()),()))) (λi out=>out++(bif Ji b vs (m.A0.getD i A).D0 (m.A0.getD i A).I0 then [aB 2 (m.A0.getD i A).D0 (m.A0.getD i A).I0 0 0]else [])) (λi out=>out.length≤i) (λout=>((out,()),())) (λi out hi ho=>by
  have hc:=Ot hb (CR.1 (hm.en _ (BR A hi))).1;refine⟨?_,?_⟩
  ·show FQ out m.A0 (m.A0.length:Int) (i:Int) u.1 u.2=_;unfold FQ;rw[show aA 0 0 0 0 J=A from rfl];simp only[b_ (ω:(i:Int)<(m.A0.length:Int)),Ac (ω:(0:Int)≤(i:Int)) (ω:(i:Int)<(m.A0.length:Int)),R,j_,PH u hc.1 hc.2,a_,Gb hi (show m.A0.length≤Ba by unfold Ba;omega),hbit];rw[Av (show out.length+[aB 2 (m.A0.getD i A).D0 (m.A0.getD i A).I0 0 0].length≤2147483648 by show out.length+1≤_;omega)];unfold Ji;cases vs.any λv=>Aj (CL b v) (m.A0.getD i A).D0.toNat (m.A0.getD i A).I0
   ·simp
   ·rfl
  ·rw[h_];cases Ji b vs (m.A0.getD i A).D0 (m.A0.getD i A).I0<;>simp<;>omega) (λout _=>by
  show FQ out m.A0 (m.A0.length:Int) (m.A0.length:Int) u.1 u.2=_;unfold FQ;simp only[f_ (Q_ (m.A0.length:Int)),c_]) m.A0.length 0 [] ω σ
 have h1':=Ak h1.1 ω;rw[HB,a5_,Ni (λe=>bif Ji b vs e.D0 e.I0 then [aB 2 e.D0 e.I0 0 0]else []) A m.A0 0 m.A0.length ω,R_]at h1';unfold LL;rw[CW hb m ω ω,Img.ok_iff.2 hm];simp only[a_,o_,c_];rw[show((vs.length:Int) !=(b.B0.length:Int))=J by rw[hv,O_]];simp only[Bldg.tup,Img.tup]at h0';simp only[c_,h0',a_];rw[show Jy (((),([]:List O),m.A0,(m.A0.length:Int),(0:Int),()),((u.1,u.2,()),()))=_ from h1'];rfl
end
def xsV(E:List B)(xs:List Int)(r:O):List Int:=
 bif(r.R0==2)&&FV (C r.D0 r.I0) E then xs.take (I (C r.D0 r.I0) E)++xs.drop (I (C r.D0 r.I0) E+1)
 else bif(r.R0==1)&&!FV (C r.D0 r.I0) E then xs.take (I (C r.D0 r.I0) E)++[0]++xs.drop (I (C r.D0 r.I0) E)
 else xs
def Bdx(E:List B)(xs:List Int)(F D:Int):Int:=bif FV (C F D) E then xs.getD (I (C F D) E) 0 else 0
def RY(E:List B)(xs:List Int)(e:B):Int:=Bdx E xs e.D0 e.I0
def Amr(e:B):isC e.D0 e.I0 e=H:=by unfold isC;simp
def Ard(hs:Bh E)(hi:i<E.length):I (E.getD i A) E=i:=by
 have hp:=Eu.1 hs;rcases Nat.lt_trichotomy (I (E.getD i A) E) i with h | h | h
 ·have h1:=Ag0 hs (I (E.getD i A) E) (A_ _) ω;have h2:Bo (E.getD (I (E.getD i A) E) A) (E.getD i A)=H:=by
   generalize I (E.getD i A) E=p at h;have hg:∀j (hj:j<E.length),E.getD j A=E[j]:=λj hj=>by simp[k_,hj]
   rw[hg p ω,hg i hi];exact b3_.1 hp p i ω hi h
  rw[h1]at h2;cases h2
 ·exact h
 ·have h1:=Ag1 (E.getD i A) E i h;have h2:=(Xd (Amr (E.getD i A))).1;rw[h1]at h2;cases h2
def Bid(hs:Bh E)(hi:i<E.length):FV (C (E.getD i A).D0 (E.getD i A).I0) E=H:=by unfold FV;rw[TQ,Ard hs hi,e_];exact⟨Eq.mpr g9_ hi,Amr _⟩
def Arc(hs:Bh E)(xs:List Int)(hi:i<E.length):RY E xs (E.getD i A)=xs.getD i 0:=by unfold RY Bdx;rw[Bid hs hi,TQ,Ard hs hi];rfl
def Amd{a b:List α}(d:α)(hl:a.length=b.length)(h:∀i,i<a.length→a.getD i d=b.getD i d):a=b:=by
 refine List.ext_getElem hl λi h1 h2=>?_
 have:=h i h1
 simpa[k_,h1,h2]using this
def Bdp{β:Type}(f:α→β){l:List α}(hi:i<l.length)(d:α)(d':β):(l.map f).getD i d'=f (l.getD i d):=by simp[k_,hi]
def Bik(hs:Bh E)(hl:xs.length=E.length):E.map (RY E xs)=xs:=by refine Amd 0 (by rw[c8_,hl]) λi hi=>?_;rw[c8_]at hi;rw[Bdp _ hi A,Arc hs xs hi]
def An8{l:List α}{a:α}(d:α)(h:a=l.getD k d):l.set k a=l:=by
 by_cases hk:k<l.length
 ·refine Amd d (D_ ..) λi hi=>?_;by_cases hik:k=i
  ·subst hik;rw[h];simp[k_,hk]
  ·simp[k_,hik]
 ·rw[List.set_eq_of_length_le ω]
def Aqz{c:B}{l:List B}(h:FV c l=H):I c l<l.length∧isC c.D0 c.I0 (l.getD (I c l) A)=H:=by unfold FV at h;rw[e_]at h;exact⟨Eq.mp g9_ h.1,h.2⟩
def Ba5(hs:Bh m.A0)(hl:xs.length=m.A0.length)(r:O):xsV m.A0 xs r=(Aw m r).A0.map (RY m.A0 xs):=by
 have hbase:=Bik hs hl;have hfp:=RH (c:=C r.D0 r.I0) 0 hs;rw[n_]at hfp;have hfp':DS r.D0 r.I0 m.A0 0=_:=hfp;unfold Aw xsV;by_cases k4:r.R0=4
 ·rw[k4];exact hbase.symm
 by_cases k5:r.R0=5
 ·rw[k5];exact hbase.symm
 by_cases k6:r.R0=6
 ·rw[k6];exact hbase.symm
 rw[An k4,An k5,An k6,hfp'];simp only[c_];cases hh:FV (C r.D0 r.I0) m.A0 with
 |false=>
  simp only[c_,l_,R,c1_,d4_,d5_];cases k1:r.R0==1 with
  |false=>exact hbase.symm
  |true=>
   simp only[R];show _=(Hp (aA r.D0 r.I0 (-1) 0 J) J m.A0).map (RY m.A0 xs);have hnone:=Aig hs hh;rw[Xa (c:=aA r.D0 r.I0 (-1) 0 J) (λx hx=>hnone x hx)];have hp:I (aA r.D0 r.I0 (-1) 0 J) m.A0=I (C r.D0 r.I0) m.A0:=(TQ (aA r.D0 r.I0 (-1) 0 J) m.A0).symm;have hn:RY m.A0 xs (aA r.D0 r.I0 (-1) 0 J)=0:=by unfold RY Bdx;rw[hh];rfl
   rw[hp,List.map_append,List.map_append,List.map_take,List.map_drop,hbase,List.map_singleton,hn]
 |true=>
  obtain⟨p1,p2⟩:=Aqz hh;simp only[R,d5_,o_,c1_,c_];rw[An (ω:¬((I (C r.D0 r.I0) m.A0:Nat):Int)=-1)];simp only[c_,j_];generalize I (C r.D0 r.I0) m.A0=p at p1 p2⊢;have hset:∀e':B,e'.D0=(m.A0.getD p A).D0→e'.I0=(m.A0.getD p A).I0→(m.A0.set p e').map (RY m.A0 xs)=xs:=λe' h1 h2=>by
   rw[List.map_set,hbase];refine An8 0 ?_
   have:RY m.A0 xs e'=RY m.A0 xs (m.A0.getD p A):=by unfold RY;rw[h1,h2]
   rw[this,Arc hs xs p1]
  cases k2:r.R0==2 with
  |true=>simp only[R];show _=(m.A0.take p++m.A0.drop (p+1)).map (RY m.A0 xs);rw[List.map_append,List.map_take,List.map_drop,hbase]
  |false=>
   simp only[c_];cases k3:r.R0==3 with
   |true=>exact(hset (Ae4 (m.A0.getD p A) r.T0) rfl rfl).symm
   |false=>
    simp only[c_];cases k7:r.R0==7 with
    |true=>exact(hset (TX (m.A0.getD p A) r.L2 r.T0) rfl rfl).symm
    |false=>exact hbase.symm
def Bi2(hs:Bh m.A0)(hl:xs.length=m.A0.length)(r:O):(xsV m.A0 xs r).length=(Aw m r).A0.length:=by rw[Ba5 hs hl,c8_]
def xsL:Img→List Int→List O→List Int
 |_,xs,[]=>xs
 |m,xs,r::t=>xsL (Aw m r) (xsV m.A0 xs r) t
def Auo(e:B)(F D:Int):IL e.D0 e.I0 e.T0 e.Z0 e.B2 F D=S ((!Bo e (C F D),()),((F,()),(D,()),())):=by
 unfold IL Bo C;by_cases h1:F<e.D0
 ·rw[b_ h1,f_ (ω:¬e.D0<F),An (ω:¬e.D0=F)];rfl
 ·rw[f_ h1];by_cases h2:e.D0=F
  ·rw[h2,f_ (Q_ F),l_];by_cases h3:e.I0<D
   ·rw[b_ h3,f_ (ω:¬D≤e.I0)];rfl
   ·rw[f_ h3,b_ (ω:D≤e.I0)];rfl
  ·rw[An h2,b_ (ω:e.D0<F)];rfl
def Aeo(E:List B)(hl:E.length≤100000)(F D:Int):∀(k i:Nat),i+k=E.length→BY (λx=>As x.1.1 x.1.2.2.1 x.1.2.2.2.1 x.2.1.1 x.2.2.1.1) (k+1) ((E,(),(E.length:Int),(i:Int),()),((F,()),(D,()),()))=S (bif Nat.blt (i+I (C F D) (E.drop i)) E.length then .inr ((((i+I (C F D) (E.drop i):Nat):Int),()),((F,()),(D,()),()))else .inl ((),((F,()),(D,()),())))
 |0,i,hi=>by
  obtain rfl:i=E.length:=ω;refine AK ?_;show As E (E.length:Int) (E.length:Int) F D=_;unfold As;rw[f_ (Q_ (E.length:Int)),b2_]
  have:Nat.blt (E.length+I (C F D) []) E.length=J:=by
   cases h:Nat.blt (E.length+I (C F D) []) E.length with
   |false=>rfl
   |true=>have:=Eq.mp g9_ h;omega
  rw[this];rfl
 |k+1,i,hi=>by
  have hi':i<E.length:=ω;have hs:As E (E.length:Int) (i:Int) F D=S (bif Bo (E.getD i A) (C F D)then .inl ((E,(),(E.length:Int),((i+1:Nat):Int),()),((F,()),(D,()),()))else .inr (.inr (((i:Int),()),((F,()),(D,()),())))):=by unfold As;rw[show aA 0 0 0 0 J=A from rfl];simp only[b_ (ω:(i:Int)<(E.length:Int)),Ac (ω:(0:Int)≤(i:Int)) (ω:(i:Int)<(E.length:Int)),R,j_,Auo,a_,Gb hi' (show E.length≤Ba by unfold Ba;omega)];cases Bo (E.getD i A) (C F D)<;>rfl
  have hd:=By A hi';rw[hd];simp only[I];cases hq:Bo (E.getD i A) (C F D)with
  |true=>rw[hq]at hs;refine(BS hs).trans ?_;rw[Aeo E hl F D k (i+1) ω,R,show i+1+I (C F D) (E.drop (i+1))=i+(I (C F D) (E.drop (i+1))+1)by omega]
  |false=>rw[hq]at hs;refine(AK hs).trans ?_;rw[c_,b9_,show Nat.blt i E.length=H from Eq.mpr g9_ hi'];rfl
def ZW(m:Img)(hl:m.A0.length≤100000)(F D:Int):Kp m.F0 m.O0 m.K0 m.A0 F D=S ((((I (C F D) m.A0:Nat):Int),FV (C F D) m.A0,()),()):=by
 have h:=Aeo m.A0 hl F D m.A0.length 0 ω;have h':=Ak h ω;rw[R_,n_]at h';have hle:=Ta (C F D) m.A0;unfold Kp BA FV;rw[show AS ((m.A0,(),(m.A0.length:Int),(0:Int),()),((F,()),(D,()),()))=_ from h'];cases hq:Nat.blt (I (C F D) m.A0) m.A0.length with
 |false=>
  have hge:m.A0.length≤I (C F D) m.A0:=by
   rcases g2_ (I (C F D) m.A0) m.A0.length with g | g
   ·rw[Eq.mpr g9_ g]at hq;cases hq
   ·exact g
  rw[show I (C F D) m.A0=m.A0.length by omega];rfl
 |true=>have hlt:I (C F D) m.A0<m.A0.length:=Eq.mp g9_ hq;simp only[R,a_];rw[f_ (ω:¬((I (C F D) m.A0:Nat):Int)<0)];simp only[c_,Ac (ω:(0:Int)≤((I (C F D) m.A0:Nat):Int)) (ω:((I (C F D) m.A0:Nat):Int)<(m.A0.length:Int)),R,j_];rw[show aA 0 0 0 0 J=A from rfl];unfold isC;show Option.bind (bif(m.A0.getD (I (C F D) m.A0) A).D0==F then _ else _) _=S ((_,H&&((m.A0.getD (I (C F D) m.A0) A).D0==F&&(m.A0.getD (I (C F D) m.A0) A).I0==D),()),());cases(m.A0.getD (I (C F D) m.A0) A).D0==F<;>rfl
structure Rnd where
 recs:List Record
 img:Img
 xs:List Int
 lan:Lan
 ref:Int×Int
def Rnd.tup(r:Rnd):List O×List Int×List Bool×List Bool×List B×List Int×List Calls×List Bool×Int×Int×Int×Int×Unit:=(r.recs,r.img.F0,r.img.O0,r.img.K0,r.img.A0,r.xs,r.lan.lit,r.lan.gong,r.lan.cl.1,r.lan.cl.2,r.ref.1,r.ref.2,())
def Rnd.tupB(b:L)(r:Rnd):List O×List Int×List Bool×List Bool×List B×List Int×List Calls×List Bool×Int×Int×Int×Int×Int×Int×Int×Int×Nat×Nat×Nat×List Car×Unit:=(r.recs,r.img.F0,r.img.O0,r.img.K0,r.img.A0,r.xs,r.lan.lit,r.lan.gong,r.lan.cl.1,r.lan.cl.2,r.ref.1,r.ref.2,b.C0,b.E0,b.H0,b.M0,b.J0,b.L0,b.N0,b.B0,())
structure Rnd.ok(b:Bldg)(r:Rnd):Prop where
 img:ImgOK b r.img
 len:r.xs.length=r.img.A0.length
def Ii:O:=aB 0 0 0 0 0
def Rr(r:O)(X:Rnd):Rnd:=⟨X.recs++[r],Aw X.img r,xsV X.img.A0 X.xs r,X.lan,X.ref⟩
def wrL(l:List O)(X:Rnd):Rnd:=⟨X.recs++l,Aq X.img l,xsL X.img X.xs l,X.lan,X.ref⟩
def Xx(r:O)(l:List O)(X:Rnd):wrL (r::l) X=wrL l (Rr r X):=by unfold wrL Rr;simp only[M_,d2_];rfl
def Xs{X:Rnd}(h:X.ok b){r:O}(hv:At b r=H):(Rr r X).ok b:=⟨(Mo h.img hv).1,Bi2 h.img.so h.len r⟩
def Aok{b:L}:∀{l:List O}{X:Rnd},X.ok b→(∀r∈l,At b r=H)→(wrL l X).ok b
 |[],X,h,_=>by unfold wrL;rw[a6_];exact⟨h.img,h.len⟩
 |r::t,X,h,hv=>by rw[Xx];exact Aok (Xs h (hv r (t_ ..))) λx hx=>hv x (B_ _ hx)
def Bl5(h:k<xs.length)(hl:xs.length≤100000):EO xs (k:Int) (IntKind.wrap aC ((k:Int)+1))=S ((xs.take k++xs.drop (k+1),()),()):=by unfold EO Al3;rw[Aa ω ω,b_ (ω:(0:Int)≤(k:Int)),b_ (ω:(k:Int)<(k:Int)+1),b_ (ω:(k:Int)+1≤(xs.length:Int)),show Int.toNat ((k:Int)+1)=k+1 by omega,j_];rfl
def Bn1(h:k≤xs.length)(hl:xs.length≤100000):EP xs (k:Int) [0]=S ((xs.take k++[0]++xs.drop k,()),()):=by unfold EP Abo;rw[b_ (ω:(0:Int)≤(k:Int)),b_ (ω:(k:Int)≤(xs.length:Int)),Av (show xs.length+[(0:Int)].length≤2147483648 by show xs.length+1≤_;omega),j_];rfl
section
variable{b:L}(hb:b.small)(hcode:b.code=0)
include hb hcode
omit hcode in
theorem Ep(hm:ImgOK b m):m.A0.length≤14:=by
 have:=Bh5 hb hm
 have:=hb.hi
 omega
theorem Avs{X:Rnd}(hX:X.ok b)(hl:l.length≤100000)(hi:i<l.length)(hv:At b (l.getD i Ii)=H)(hr:X.recs.length≤1000000):BP l (l.length:Int) (i:Int) X.recs X.img.F0 X.img.O0 X.img.K0 X.img.A0 X.xs X.lan.lit X.lan.gong X.lan.cl.1 X.lan.cl.2 X.ref.1 X.ref.2 b.C0 b.E0 b.H0 b.M0 b.J0 b.L0 b.N0 b.B0=S (.inl (((),l,(l.length:Int),((i+1:Nat):Int),()),((Rr (l.getD i Ii) X).tupB b,()))):=by
 have hcc:=Am hcode;have he:=Ep hb hX.img;have hlp:=hX.img.lp;have hxl:=hX.len;have hpl:=Ta (C (l.getD i Ii).D0 (l.getD i Ii).I0) X.img.A0;have ha:=YF hb ω X.img ω ω (l.getD i Ii);have ha':XZ b X.img (l.getD i Ii)=(((),0,()),((Aw X.img (l.getD i Ii)).tup,())):=by unfold XZ;rw[Img.ok_iff.2 hX.img,hv];rfl
 rw[ha']at ha;unfold BP;rw[show aB 0 0 0 0 0=Ii from rfl];simp only[b_ (ω:(i:Int)<(l.length:Int)),Ac (ω:(0:Int)≤(i:Int)) (ω:(i:Int)<(l.length:Int)),R,j_];rw[ZW X.img ω];simp only[a_];generalize l.getD i Ii=r at*;have hbl:Nat.ble (X.recs.length+[aB r.R0 r.D0 r.I0 r.T0 r.L2].length) 2147483648=H:=Av (by show X.recs.length+1≤_;omega);have hw:=Gb hi (show l.length≤Ba by unfold Ba;omega);have hxs:∀q,xsV X.img.A0 X.xs r=q→(Rr r X).tupB b=(X.recs++[aB r.R0 r.D0 r.I0 r.T0 r.L2],(Aw X.img r).F0,(Aw X.img r).O0,(Aw X.img r).K0,(Aw X.img r).A0,q,X.lan.lit,X.lan.gong,X.lan.cl.1,X.lan.cl.2,X.ref.1,X.ref.2,b.C0,b.E0,b.H0,b.M0,b.J0,b.L0,b.N0,b.B0,()):=λq h=>by rw[← h];rfl
 by_cases k2:r.R0=2
 ·have k1:(r.R0==1)=J:=An ω;have k2':(r.R0==2)=H:=by rw[k2];rfl
  cases hf:FV (C r.D0 r.I0) X.img.A0 with
  |true=>rw[hxs _ (show _=X.xs.take (I (C r.D0 r.I0) X.img.A0)++X.xs.drop (I (C r.D0 r.I0) X.img.A0+1)by unfold xsV;rw[k2',hf];rfl)];have hp:=(Aqz hf).1;simp only[k2',R,a_,Bl5 (ω:I (C r.D0 r.I0) X.img.A0<X.xs.length) ω];rw[ha];simp only[a_,l_,R,hbl,hw];rfl
  |false=>rw[hxs X.xs (by unfold xsV;rw[hf,k1,c1_,a7_];rfl)];simp only[k2',k1,R,c_,a_];rw[ha];simp only[a_,l_,R,hbl,hw];rfl
 ·have k2':(r.R0==2)=J:=An k2;by_cases k1:r.R0=1
  ·have k1':(r.R0==1)=H:=by rw[k1];rfl
   cases hf:FV (C r.D0 r.I0) X.img.A0 with
   |false=>rw[hxs _ (show _=X.xs.take (I (C r.D0 r.I0) X.img.A0)++[0]++X.xs.drop (I (C r.D0 r.I0) X.img.A0)by unfold xsV;rw[k2',k1',hf];rfl)];simp only[k2',k1',R,c_,a_,d4_,Bn1 (ω:I (C r.D0 r.I0) X.img.A0≤X.xs.length) ω];rw[ha];simp only[a_,l_,R,hbl,hw];rfl
   |true=>rw[hxs X.xs (by unfold xsV;rw[hf,k2',a7_,o_,c1_];rfl)];simp only[k2',k1',R,c_,a_,o_];rw[ha];simp only[a_,l_,R,hbl,hw];rfl
  ·have k1':(r.R0==1)=J:=An k1;rw[hxs X.xs (by unfold xsV;rw[k2',k1',a7_,a7_];rfl)];simp only[k2',k1',c_,a_];rw[ha];simp only[a_,l_,R,hbl,hw];rfl
theorem Aco{X:Rnd}(hX:X.ok b)(hl:l.length≤100000)(hv:∀r∈l,At b r=H)(hr:X.recs.length≤100000):Bz l X.recs X.img.F0 X.img.O0 X.img.K0 X.img.A0 X.xs X.lan.lit X.lan.gong X.lan.cl.1 X.lan.cl.2 X.ref.1 X.ref.2 b.C0 b.E0 b.H0 b.M0 b.J0 b.L0 b.N0 b.B0=S ((),((wrL l X).tupB b,())):=by
 have key:∀(k i:Nat) (Y:Rnd),i+k=l.length→Y.ok b→Y.recs.length≤100000+i→BY (λx=>letI d:=x.2.1.2.2.2;letI f:=d.2.2;letI a:=f.2.2.2;letI g:=a.2.2;letI c:=g.2.2.2;letI e:=c.2.2;BP x.1.2.1 x.1.2.2.1 x.1.2.2.2.1 x.2.1.1 x.2.1.2.1 x.2.1.2.2.1 d.1 d.2.1 f.1 f.2.1 f.2.2.1 a.1 a.2.1 g.1 g.2.1 g.2.2.1 c.1 c.2.1 e.1 e.2.1 e.2.2.1 e.2.2.2.1 e.2.2.2.2.1) (k+1) (((),l,(l.length:Int),(i:Int),()),(Y.tupB b,()))=S ((),((wrL (l.drop i) Y).tupB b,())):=by
  intro k;induction k with
  |zero=>intro i Y hi _ _;obtain rfl:i=l.length:=ω;refine AK ?_;show BP l (l.length:Int) (l.length:Int) Y.recs Y.img.F0 Y.img.O0 Y.img.K0 Y.img.A0 Y.xs Y.lan.lit Y.lan.gong Y.lan.cl.1 Y.lan.cl.2 Y.ref.1 Y.ref.2 b.C0 b.E0 b.H0 b.M0 b.J0 b.L0 b.N0 b.B0=_;unfold BP;rw[f_ (Q_ (l.length:Int)),b2_];unfold wrL;rw[a6_];rfl
  |succ k ih=>intro i Y hi hY hr;have hi':i<l.length:=ω;have hv':=hv _ (BR Ii hi');rw[By Ii hi',Xx];exact(BS (Avs hb hcode hY hl hi' hv' ω)).trans (ih (i+1) _ ω (Xs hY hv') (by show(Y.recs++[_]).length≤_;rw[h_,G_];omega))
 have h:=key l.length 0 X ω hX ω;rw[R_]at h;have h':Ct (((),l,(l.length:Int),(0:Int),()),(X.tupB b,()))=_:=Ak h ω;unfold Bz;rw[show Ct (((),l,(l.length:Int),(0:Int),()),((X.recs,X.img.F0,X.img.O0,X.img.K0,X.img.A0,X.xs,X.lan.lit,X.lan.gong,X.lan.cl.1,X.lan.cl.2,X.ref.1,X.ref.2,b.C0,b.E0,b.H0,b.M0,b.J0,b.L0,b.N0,b.B0,()),()))=_ from h'];rfl
end
def Yp{F D:Int}{e:B}(he:isC F D e=H)(T:List B):∀(P:List B) (i:Nat),(∀p∈P,isC F D p=J)→DS F D (P++e::T) i=((i+P.length:Nat):Int)
 |[],i,_=>by simp only[a5_,DS,he,R,c7_,b9_]
 |p::P,i,h=>by simp only[aD,DS,h p (t_ ..),c_];rw[Yp he T P (i+1) λx hx=>h x (B_ _ hx),x_];congr 1;omega
def Ave{P T:List B}(h:Bh (P++e::T)):∀p∈P,isC e.D0 e.I0 p=J:=by intro p hp;rw[Eu]at h;have h2:=(g0_.1 h).2.2 p hp e (t_ ..);rw[HC]at h2;unfold isC;simp only[Bool.and_eq_false_iff,beq_eq_false_iff_ne];omega
def Amk(P T:List B)(e:B):(P++e::T).getD P.length A=e:=by simp[k_]
def Wq(e:B):isC e.D0 e.I0 e=H:=by unfold isC;simp
def Aoq{P T:List B}(hE:m.A0=P++e::T)(hs:∀p∈P,isC e.D0 e.I0 p=J)(n c:Int):Aw m ⟨7,e.D0,e.I0,c,n⟩=m.put (P++TX e n c::T):=by
 unfold Aw;have hf:DS e.D0 e.I0 m.A0 0=(P.length:Int):=by rw[hE,Yp (Wq e) T P 0 hs,n_]
 simp only[hf];rw[An (ω:¬(P.length:Int)=-1),hE,j_,Amk,Tb,Tb];rfl
def Ahj{P T:List B}(hE:m.A0=P++e::T)(hs:∀p∈P,isC e.D0 e.I0 p=J)(c:Int):Aw m ⟨3,e.D0,e.I0,c,0⟩=m.put (P++Ae4 e c::T):=by
 unfold Aw;have hf:DS e.D0 e.I0 m.A0 0=(P.length:Int):=by rw[hE,Yp (Wq e) T P 0 hs,n_]
 simp only[hf];rw[An (ω:¬(P.length:Int)=-1),hE,j_,Amk,Tb,Tb];rfl
def Img.put_put(m:Img)(l l':List B):(m.put l).put l'=m.put l':=rfl
def Img.put_self(m:Img):m.put m.A0=m:=rfl
def Ar8{P T:List B}{n:B}(hE:m.A0=P++e::T)(hs:∀p∈P,isC e.D0 e.I0 p=J)(hF:n.D0=e.D0)(hD:n.I0=e.I0):Aq m (Nk e n)=m.put (P++n::T):=by
 obtain⟨nF,nD,nC,nM,nV⟩:=n;obtain⟨eF,eD,eC,eM,eV⟩:=e;simp only at hF hD;subst hF hD;unfold Nk;simp only;have mv:∀c:Int,TX ⟨nF,nD,eC,eM,eV⟩ nM c=⟨nF,nD,eC,nM,c==1⟩:=λ_=>rfl;have cv:((bif nV then(1:Int)else 0)==1)=nV:=by cases nV<;>rfl
 cases hp:(eM !=nM||!(eV==nV))with
 |true=>
  have h1:=Aoq hE hs nM (bif nV then 1 else 0);rw[mv,cv]at h1;cases hq:eC !=nC with
  |true=>have h2:=Ahj (m:=m.put (P++⟨nF,nD,eC,nM,nV⟩::T)) (P:=P) (T:=T) (e:=⟨nF,nD,eC,nM,nV⟩) rfl hs nC;simp only[R,aD,a5_,Aq];rw[h1,h2];rfl
  |false=>
   have:eC=nC:=by simpa[bne]using hq
   subst this;simp only[R,c_,a6_,Aq];exact h1
 |false=>
  simp only[Bool.or_eq_false_iff,Bool.not_eq_false',bne_eq_false_iff_eq,W_]at hp;obtain⟨rfl,rfl⟩:=hp;cases hq:eC !=nC with
  |true=>have h2:=Ahj hE hs nC;simp only[R,c_,a5_,Aq];exact h2
  |false=>
   have:eC=nC:=by simpa[bne]using hq
   subst this;simp only[c_,a6_,Aq];rw[← hE];exact(Img.put_self m).symm
def Auw{n:B}(hcode:b.code=0)(hcall:Ai b n.D0 n.I0=H)(hc:-2≤n.T0∧n.T0<(b.B0.length:Int))(hm:0≤n.Z0∧n.Z0≤255):∀r∈Nk e n,At b r=H:=by
 intro r hr;unfold Nk at hr;rcases p_.1 hr with h | h
 ·cases hp:(e.Z0 !=n.Z0||!(e.B2==n.B2))with
  |false=>rw[hp]at h;cases h
  |true=>rw[hp]at h;rw[P_.1 h];unfold At;rw[hcode,hcall,Ap.2 hm];cases n.B2<;>rfl
 ·cases hp:e.T0 !=n.T0 with
  |false=>rw[hp]at h;cases h
  |true=>rw[hp]at h;rw[P_.1 h];unfold At;rw[hcode,hcall,Ap.2 ⟨hc.1,show n.T0≤(b.B0.length:Int)-1 by omega⟩];rfl
def Vj(b:L)(vs:List Q):List B→List Int→List B
 |e::t,x::xs=>Fh b vs e x::Vj b vs t xs
 |_,_=>[]
def Al2(b:L)(vs:List Q):∀(l:List B) (xs:List Int),xs.length=l.length→(Vj b vs l xs).length=l.length
 |[],_,_=>by simp[Vj]
 |_::_,[],h=>by simp at h
 |e::t,x::xs,h=>by simp only[Vj,x_,Al2 b vs t xs (by simpa using h)]
def Atb(hc:b.B0.length≤100)(hm:0≤e.Z0∧e.Z0≤255)(x:Int):0≤(Fh b vs e x).Z0∧(Fh b vs e x).Z0≤255:=by
 unfold Fh;cases e.T0==-2 with
 |true=>exact hm
 |false=>
  cases e.T0==-1 with
  |true=>exact hm
  |false=>
   cases(Ay vs e.T0).Z3 with
   |true=>
    by_cases g:(b.B0.length:Int)<e.Z0
    ·rw[b_ g];exact hm
    ·rw[f_ g];exact⟨by show 0≤e.Z0+1;omega,by show e.Z0+1≤255;omega⟩
   |false=>
    by_cases g:e.Z0≤(b.B0.length:Int)
    ·rw[b_ g];cases e.B2 with
     |true=>exact hm
     |false=>
      cases NB b vs e x != -1 with
      |true=>exact⟨by show 0≤e.Z0+1;omega,by show e.Z0+1≤255;omega⟩
      |false=>exact hm
    ·rw[f_ g,c1_];exact hm
def Xk{b:L}(hc:b.B0.length≤100){vs:List Q}(hlen:(vs.length:Int)=(b.B0.length:Int)):∀(T:List B) (xs:List Int) (P:List B) (m:Img),xs.length=T.length→ImgOK b m→m.A0=P++T→Aq m (GI b vs T xs)=m.put (P++Vj b vs T xs)∧(∀r∈GI b vs T xs,At b r=H)∧ImgOK b (m.put (P++Vj b vs T xs))
 |[],xs,P,m,_,hm,hE=>by
  have:Vj b vs [] xs=[]:=by simp[Vj]
  have h2:GI b vs [] xs=[]:=by simp[GI]
  rw[this,h2,← hE];exact⟨rfl,(λ_ h=>by cases h),hm⟩
 |_::_,[],_,_,h,_,_=>by simp at h
 |e::T,x::xs,P,m,h,hm,hE=>by
  have hent:=CR.1 (hm.en e (by rw[hE];simp));have hso:=hm.so;rw[hE]at hso;have hs:=Ave hso;obtain⟨c1,c2⟩:=Ay8 b vs e x;have hin:=Aql b (vs:=vs) (e:=e) ω x;have hmv:=Atb hc (vs:=vs) hent.2.2 x;have hval:=Auw (b:=b) (e:=e) (n:=Fh b vs e x) hm.code (by rw[c1,c2];exact hent.1) ω hmv;have hap:=Ar8 hE hs c1 c2;have hok:ImgOK b (m.put (P++Fh b vs e x::T)):=by rw[← hap];exact(Um hm hval).1
  obtain⟨g1,g2,g3⟩:=Xk hc hlen T xs (P++[Fh b vs e x]) (m.put (P++Fh b vs e x::T)) (by simpa using h) hok (by simp[Img.put]);simp only[GI,Vj];have app:∀(rs qs:List O) (m:Img),Aq m (rs++qs)=Aq (Aq m rs) qs:=λrs=>by
   induction rs with
   |nil=>intro _ _;rfl
   |cons r rs ih=>intro qs m;exact ih qs (Aw m r)
  rw[app,hap,g1,Img.put_put];rw[Img.put_put]at g3;simp only[M_,d2_]at g3⊢;exact⟨trivial,(λr hr=>by
   rcases p_.1 hr with hr | hr
   ·exact hval r hr
   ·exact g2 r hr),g3⟩
end
end Go.Ovl
