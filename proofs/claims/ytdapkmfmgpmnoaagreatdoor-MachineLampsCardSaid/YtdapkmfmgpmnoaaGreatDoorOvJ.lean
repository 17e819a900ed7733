/- Plan as a whole (layer 22), and sameness of records and numbers: the program and the reference say the same. -/
import Derived.Test.YtdapkmfmgpmnoaaGreatDoorOvI
import Derived.Test.YtdapkmfmgpmnoaaGreatDoorOvC
import Derived.Test.YtdapkmfmgpmnoaaGreatDoorOvD
import Derived.Test.YtdapkmfmgpmnoaaGreatDoorOvB
set_option linter.all false
open Go.Ovl renaming noE->A,At->B,Entry->C,AA->H,Bldg->L,View->N,Record->O
open Bool renaming false->I,true->J
open Option renaming some->Q
open Go.Ovl.Record renaming mk->aA
open Go.Ovl.Entry renaming mk->aB
namespace Go.Ovl
open Go Go.Ab
set_option maxRecDepth 100000
variable{xs:List Int}{E:List C}{m:Img}{e:C}{b:L}{i k:Nat}{l:List O}{α:Type}
def PH(xs:List Int):Bool:=xs.all (inR 0 1000000)
def Azv(n:Int):Lx n=Q ((!inR 0 1000000 n,()),()):=by
 unfold Lx inR;by_cases g:n<0
 ·rw[b_ g,f_ (ω:¬0≤n)];rfl
 ·rw[f_ g,b_ (ω:0≤n)]
  by_cases g':1000000<n
  ·rw[b_ g',f_ (ω:¬n≤1000000)];rfl
  ·rw[f_ g',b_ (ω:n≤1000000)];rfl
def Aot(hl:xs.length≤maxLen):BC xs=Q ((!PH xs,()),()):=by
 have hm:maxLen≤9223372036854775807:=by decide
 have key:∀(k i:Nat),i+k=xs.length→∃y,BQ (λx=>AT x.1.1 x.1.2.2.1 x.1.2.2.2.1) (k+1) ((xs,(),(xs.length:Int),(i:Int),()),())=Q y∧(match y with | .inl _=>(xs.drop i).all (inR 0 1000000)=J | .inr z=>0≤z.1.1∧(xs.drop i).all (inR 0 1000000)=I):=by
  intro k
  induction k with
  |zero=>
   intro i hi;refine⟨.inl ((),()),Az ?_,?_⟩
   ·show AT xs (xs.length:Int) (i:Int)=_
    unfold AT;rw[show decide ((i:Int)<(xs.length:Int))=I by simp;omega];rfl
   ·rw[show i=xs.length by omega,a5_];rfl
  |succ k ih=>
   intro i hi;have hi':i<xs.length:=ω
   have hs:AT xs (xs.length:Int) (i:Int)=Q (bif inR 0 1000000 (xs.getD i 0)then .inl ((xs,(),(xs.length:Int),((i+1:Nat):Int),()),())else .inr (.inr (((i:Int),()),()))):=by
    unfold AT;have w:IntKind.i64.wrap ((i:Int)+1)=((i+1:Nat):Int):=by rw[Aa ω ω];omega
    rw[show decide ((i:Int)<(xs.length:Int))=J by simp;omega,Ac ω ω,Azv,w]
    simp only[d_,i_,a_];cases inR 0 1000000 (xs.getD i 0)<;>rfl
   rw[BU (0:Int) hi',X_];cases hq:inR 0 1000000 (xs.getD i 0)with
   |true=>
    rw[hq]at hs;obtain⟨y,h1,h2⟩:=ih (i+1) ω
    exact⟨y,(Bu hs).trans h1,by rw[n_];exact h2⟩
   |false=>
    rw[hq]at hs;exact⟨_,Az hs,by show(0:Int)≤(i:Int)∧_;exact⟨ω,rfl⟩⟩
 obtain⟨y,h1,h2⟩:=key xs.length 0 ω
 have h1':BJ ((xs,(),(xs.length:Int),(0:Int),()),())=Q y:=Ai h1 ω
 rw[Q_]at h2;unfold BC CL PH;rw[h1'];cases y with
 |inl z=>simp only at h2;rw[h2];rfl
 |inr z=>
  simp only at h2;rw[h2.2];simp only[a_];rw[b_ h2.1];rfl
noncomputable def NT(b:L)(m:Img)(xs:List Int)(vs:List N):List O×List Int×Int×Unit:=
 bif m.ok b&&((xs.length:Int)==(m.A0.length:Int)&&((vs.length:Int)==(b.B0.length:Int)&&PH xs))then(GH b vs m.A0 xs,LT b vs m.A0 xs,0,())else([],[],1,())
def Img.ok_all(h:m.ok b=J):b.code=0∧m.F0.length=b.B0.length∧m.O0.length=b.B0.length∧m.K0.length=b.B0.length∧(∀p∈m.F0,0≤p∧p≤4)∧(∀e∈m.A0,Ha b e=J)∧EE b Option.none m.A0=J:=by
 unfold Img.ok at h;simp only[e_,R_]at h;obtain⟨h0,h1,h2,h3,h4,h5⟩:=h;exact⟨h0,ω,ω,ω,λp hp=>Ao.1 (E_.1 h4 p hp),Ahl h5,h5⟩
section
variable{b:L}(hb:b.small){vs:List N}(hv:okViews vs)(hl:vs.length≤100)(m:Img)(hm:m.A0.length≤1000)(hp:m.F0.length≤maxLen)(xs:List Int)(hx:xs.length≤maxLen)
include hb hv hl hm hp hx
theorem Afd:Iq b.C0 b.E0 b.H0 b.M0 b.J0 b.L0 b.N0 b.B0 m.F0 m.O0 m.K0 m.A0 xs vs=Q (NT b m xs vs,()):=by
 have hmx:1000≤maxLen:=by decide
 unfold Iq NT;rw[CS hb m hp ω,Aot hx]
 simp only[a_,bne];cases hok:m.ok b with
 |false=>rfl
 |true=>
  cases hq:(xs.length:Int)==(m.A0.length:Int)with
  |false=>rfl
  |true=>
   cases hr:(vs.length:Int)==(b.B0.length:Int)with
   |false=>rfl
   |true=>
    cases PH xs with
    |false=>rfl
    |true=>
     have hq':(xs.length:Int)=(m.A0.length:Int):=by simpa using hq
     have hr':(vs.length:Int)=(b.B0.length:Int):=by simpa using hr
     obtain⟨_,_,_,_,_,hall,_⟩:=Img.ok_all hok;have hlp:=Ai (Tq hb hv hl hr' hall hm (xs:=xs) ω m.A0.length 0 [] [] ω rfl (by simp)) ω
     have hlp':LH ((xs,vs,(),(),([]:List O),List.replicate m.A0.length (0:Int),m.A0,(m.A0.length:Int),(0:Int),()),(b.tup,(b.C0,b.E0,b.H0,b.M0,b.J0,b.L0,b.N0,b.B0,vs,()),()))=_:=hlp;unfold Bldg.tup at hlp';simp only[o_,c_,hq',b_ (ω:(0:Int)≤(m.A0.length:Int)),b_ (e1_ (m.A0.length:Int)),b_ (ω:(m.A0.length:Int)≤2147483648),a3_,d_,i_,hlp',a_,Q_,a2_]
end
def YG(b:L)(vs:List N):∀(l:List C) (xs:List Int),(GH b vs l xs).length≤2*l.length
 |[],_=>by simp[GH]
 |_::_,[]=>by simp[GH]
 |e::t,x::xs=>by
  have h1:=YG b vs t xs;have h2:=Ain e (Fi b vs e x);simp only[GH,h_,C_];omega
def YF(b:L)(vs:List N):∀(l:List C) (xs:List Int),xs.length=l.length→(LT b vs l xs).length=l.length
 |[],_,_=>by simp[LT]
 |_::_,[],h=>by simp at h
 |e::t,x::xs,h=>by
  simp only[LT,C_,YF b vs t xs (by simpa using h)]
def Azu(b:L)(m:Img)(xs:List Int)(vs:List N):(NT b m xs vs).1.length≤2*m.A0.length∧(NT b m xs vs).2.1.length≤m.A0.length:=by
 unfold NT;cases hq:(m.ok b&&((xs.length:Int)==(m.A0.length:Int)&&((vs.length:Int)==(b.B0.length:Int)&&PH xs)))with
 |false=>exact⟨by simp,by simp⟩
 |true=>
  simp only[e_,R_]at hq;refine⟨YG b vs m.A0 xs,?_⟩;show(LT b vs m.A0 xs).length≤_;rw[YF b vs m.A0 xs ω]
  exact z_ _
def noV:N:=View.mk I I I I 0 0 0 0 0 0 0 0
def noP:Calls:=Calls.mk 0 0
structure Lan where
 lit:List Calls
 gong:List Bool
 cl:Int×Int
def Lan.tup(l:Lan):List Calls×List Bool×Int×Int×Unit:=(l.lit,l.gong,l.cl.1,l.cl.2,())
def Lan.none:Lan:=⟨[],[],(0,0)⟩
def Mm(b:L)(vs:List N)(i:Nat)(s:Lan):Int×Int:=Aq (CZ b (vs.getD i noV)) s.cl
def Kb(b:L)(vs:List N)(ps:List Calls)(i:Nat)(s:Lan):Lan:=⟨s.lit++[Calls.mk (Mm b vs i s).1 (Mm b vs i s).2],s.gong++[!isZ (Aq (Mm b vs i s) ((ps.getD i noP).Up,(ps.getD i noP).R3))],By s.cl (Mm b vs i s)⟩
def CK(b:L)(vs:List N)(ps:List Calls):Lan:=AK (Kb b vs ps) vs.length 0 Lan.none
def Ad0(b:L)(vs:List N)(ps:List Calls):Lan×Int:=bif(vs.length:Int)==(b.B0.length:Int)&&((ps.length:Int)==(b.B0.length:Int))then(CK b vs ps,0)else(Lan.none,1)
section
variable{b:L}(hb:b.small)(hcode:b.code=0)
include hb hcode
theorem Yp(vs:List N)(ps:List Calls)(hl:vs.length≤1000)(hp:ps.length=vs.length):Jr ((ps,(),(),(),vs,(vs.length:Int),(0:Int),()),(b.tup,Lan.none.tup,Lan.none.tup,()))=Q (((),(),()),(Lan.none.tup,(CK b vs ps).tup,()))∧(CK b vs ps).lit.length=vs.length∧(CK b vs ps).gong.length=vs.length:=by
 have key:=λ(step:_→_) (h1:∀(i:Nat) (s:Lan),i<vs.length→(s.lit.length=i∧s.gong.length=i)→step ((ps,(),(),(),vs,(vs.length:Int),(i:Int),()),(b.tup,Lan.none.tup,s.tup,()))=Q (.inl ((ps,(),(),(),vs,(vs.length:Int),((i+1:Nat):Int),()),(b.tup,Lan.none.tup,(Kb b vs ps i s).tup,())))) h2=>AP (step:=step) vs.length (λi (s:Lan)=>((ps,(),(),(),vs,(vs.length:Int),(i:Int),()),(b.tup,Lan.none.tup,s.tup,()))) (Kb b vs ps) (λi s=>s.lit.length=i∧s.gong.length=i) (λs=>(((),(),()),(Lan.none.tup,s.tup,()))) (λi s hi hs=>⟨h1 i s hi hs,by
   constructor
   ·show(s.lit++[_]).length=_;rw[h_,J_,hs.1]
   ·show(s.gong++[_]).length=_;rw[h_,J_,hs.2]⟩) h2 vs.length 0 Lan.none ω ⟨rfl,rfl⟩
 have h:=key (λx=>letI a:=x.2.1.2.2;letI c:=x.2.2;letI d:=x.1.2.2.2.2;letI e:=a.2.2;letI f:=c.2.1;FN x.1.1 d.1 d.2.1 d.2.2.1 x.2.1.1 x.2.1.2.1 a.1 a.2.1 e.1 e.2.1 e.2.2.1 e.2.2.2.1 c.1.1 c.1.2.1 c.1.2.2.1 c.1.2.2.2.1 f.1 f.2.1 f.2.2.1 f.2.2.2.1) (λi s hi hs=>by
  show FN ps vs (vs.length:Int) (i:Int) b.C0 b.E0 b.H0 b.M0 b.J0 b.L0 b.N0 b.B0 [] [] 0 0 s.lit s.gong s.cl.1 s.cl.2=_;unfold FN;rw[show View.mk I I I I 0 0 0 0 0 0 0 0=noV from rfl,show Calls.mk 0 0=noP from rfl]
  simp only[b_ (ω:(i:Int)<(vs.length:Int)),Ac (ω:(0:Int)≤(i:Int)) (ω:(i:Int)<(vs.length:Int)),Ac (ω:(0:Int)≤(i:Int)) (ω:(i:Int)<(ps.length:Int)),d_,i_,RZ hb hcode,a_,Dp hi (show vs.length≤AG by unfold AG;omega)]
  have e1:=Qi (CZ b (vs.getD i noV)) s.cl;have e2:=Qi (Mm b vs i s) ((ps.getD i noP).Up,(ps.getD i noP).R3);have e3:=Gy s.cl (Mm b vs i s);unfold Mm at e2 e3;simp only at e2;simp only[e1,a_,e2,e3];rw[Ay (show s.lit.length+[Calls.mk (Aq (CZ b (vs.getD i noV)) s.cl).1 (Aq (CZ b (vs.getD i noV)) s.cl).2].length≤2147483648 by show s.lit.length+1≤_;omega)]
  rw[Ay (show s.gong.length+[!((Aq (Aq (CZ b (vs.getD i noV)) s.cl) ((ps.getD i noP).Up,(ps.getD i noP).R3)).1==0&&((Aq (Aq (CZ b (vs.getD i noV)) s.cl) ((ps.getD i noP).Up,(ps.getD i noP).R3)).2==0&&J))].length≤2147483648 by show s.gong.length+1≤_;omega)]
  rfl) (λs _=>by
  show FN ps vs (vs.length:Int) (vs.length:Int) b.C0 b.E0 b.H0 b.M0 b.J0 b.L0 b.N0 b.B0 [] [] 0 0 s.lit s.gong s.cl.1 s.cl.2=_;unfold FN;simp only[f_ (H_ (vs.length:Int)),c_]
  rfl)
 exact⟨Ai h.1 ω,h.2.1,h.2.2⟩
theorem Abk(vs:List N)(ps:List Calls)(hl:vs.length≤1000):LC b.C0 b.E0 b.H0 b.M0 b.J0 b.L0 b.N0 b.B0 vs ps=Q (((),(Ad0 b vs ps).2,()),((Ad0 b vs ps).1.tup,())):=by
 unfold LC Ad0;rw[Bi,hcode];simp only[a_,T_,c_];by_cases h1:vs.length=b.B0.length
 ·by_cases h2:ps.length=b.B0.length
  ·have h:=(Yp hb hcode vs ps hl ω).1
   simp only[Bldg.tup,Lan.tup,Lan.none]at h;rw[h1]at h⊢;rw[h2];simp only[T_,c_,l_,a3_,d_,h];rfl
  ·rw[h1,T_,FG (ω:¬(ps.length:Int)=(b.B0.length:Int)),An (ω:¬(ps.length:Int)=(b.B0.length:Int)),c2_]
   rfl
 ·rw[FG (ω:¬(vs.length:Int)=(b.B0.length:Int)),An (ω:¬(vs.length:Int)=(b.B0.length:Int))]
  rfl
end
def Je(b:L)(vs:List N)(F D:Int):Bool:=vs.any λv=>Ak (CZ b v) F.toNat D
def CV(b:L)(vs:List N)(l:List C):List O:=l.flatMap λe=>bif Je b vs e.D0 e.I0 then [aA 2 e.D0 e.I0 0 0]else []
def Ak2(b:L)(vs:List N){f:Nat}{d:Int}:∀(k i:Nat) (s:Int×Int),i+k=vs.length→Ak (AK (λi s=>By s (CZ b (vs.getD i noV))) k i s) f d=(Ak s f d||(vs.drop i).any λv=>Ak (CZ b v) f d)
 |0,i,s,hi=>by rw[show i=vs.length by omega,a5_];simp[AK]
 |k+1,i,s,hi=>by
  show Ak (AK (λi s=>By s (CZ b (vs.getD i noV))) k (i+1) (By s (CZ b (vs.getD i noV)))) f d=_
  rw[Ak2 b vs k (i+1) _ ω,GF,BU noV (ω:i<vs.length),List.any_cons,Bool.or_assoc]
def YT(b:L)(vs:List N):∀l:List C,(CV b vs l).length≤l.length
 |[]=>z_ _
 |e::t=>by
  have h:=YT b vs t;show((bif Je b vs e.D0 e.I0 then [aA 2 e.D0 e.I0 0 0]else [])++CV b vs t).length≤_;rw[h_,C_];cases Je b vs e.D0 e.I0<;>simp<;>omega
def Tv(hb:b.small)(h:Am b e.D0 e.I0=J):QS e:=by
 have lo:=hb.lo;have hi:=hb.hi;unfold Am NQ at h;simp only[e_,Y_,R_,Ao]at h;unfold QS;omega
section
variable{b:L}(hb:b.small)(hcode:b.code=0){m:Img}(hm:ImgOK b m)(hl:m.A0.length≤100000)(vs:List N)(hv:(vs.length:Int)=(b.B0.length:Int))
include hb hcode hm hl hv
theorem Abl:LD b.C0 b.E0 b.H0 b.M0 b.J0 b.L0 b.N0 b.B0 m.F0 m.O0 m.K0 m.A0 vs=Q ((CV b vs m.A0,()),()):=by
 have hcc:=Aj hcode;have hmx:100000≤maxLen:=by decide
 have hlp:=hm.lp
 have h0:=AP (step:=λx=>letI a:=x.2.1.2.2;letI c:=x.2.2;letI g:=a.2.2;FO x.1.2.2.2.1 x.1.2.2.2.2.1 x.1.2.2.2.2.2.1 x.2.1.1 x.2.1.2.1 a.1 a.2.1 g.1 g.2.1 g.2.2.1 g.2.2.2.1 c.1.1 c.1.2.1 c.1.2.2.1 c.1.2.2.2.1 c.2.1.1 c.2.1.2.1) vs.length (λi (s:Int×Int)=>(((),(),(),vs,(vs.length:Int),(i:Int),()),(b.tup,m.tup,(s.1,s.2,()),()))) (λi s=>By s (CZ b (vs.getD i noV))) (λ_ _=>True) (λs=>(((),(),()),(m.tup,(s.1,s.2,()),()))) (λi s hi _=>⟨by
  show FO vs (vs.length:Int) (i:Int) b.C0 b.E0 b.H0 b.M0 b.J0 b.L0 b.N0 b.B0 m.F0 m.O0 m.K0 m.A0 s.1 s.2=_;unfold FO;rw[show View.mk I I I I 0 0 0 0 0 0 0 0=noV from rfl]
  have e3:=Gy s (CZ b (vs.getD i noV));simp only[b_ (ω:(i:Int)<(vs.length:Int)),Ac (ω:(0:Int)≤(i:Int)) (ω:(i:Int)<(vs.length:Int)),d_,i_,RZ hb hcode,a_,e3,Dp hi (show vs.length≤AG by unfold AG;omega)]
  rfl,trivial⟩) (λs _=>by
  show FO vs (vs.length:Int) (vs.length:Int) b.C0 b.E0 b.H0 b.M0 b.J0 b.L0 b.N0 b.B0 m.F0 m.O0 m.K0 m.A0 s.1 s.2=_;unfold FO;simp only[f_ (H_ (vs.length:Int)),c_]
  rfl) vs.length 0 (0,0) ω trivial
 have h0':Js (((),(),(),vs,(vs.length:Int),(0:Int),()),(b.tup,m.tup,((0:Int),(0:Int),()),()))=_:=Ai h0.1 ω
 have hbit:∀(f:Nat) (d:Int),Ak (AK (λi s=>By s (CZ b (vs.getD i noV))) vs.length 0 (0,0)) f d=vs.any λv=>Ak (CZ b v) f d:=λf d=>by
  rw[Ak2 b vs vs.length 0 (0,0) ω,EZ,g6_,Q_]
 generalize AK (λi s=>By s (CZ b (vs.getD i noV))) vs.length 0 (0,0)=u at h0' hbit
 have h1:=AP (step:=λx=>FP x.1.2.1 x.1.2.2.1 x.1.2.2.2.1 x.1.2.2.2.2.1 x.2.1.1 x.2.1.2.1) m.A0.length (λi (out:List O)=>(((),out,m.A0,(m.A0.length:Int),(i:Int),()),((u.1,u.2,()),()))) (λi out=>out++(bif Je b vs (m.A0.getD i A).D0 (m.A0.getD i A).I0 then [aA 2 (m.A0.getD i A).D0 (m.A0.getD i A).I0 0 0]else [])) (λi out=>out.length≤i) (λout=>((out,()),())) (λi out hi ho=>by
  have hc:=Tv hb (Dt.1 (hm.en _ (CA A hi))).1;refine⟨?_,?_⟩
  ·show FP out m.A0 (m.A0.length:Int) (i:Int) u.1 u.2=_
   unfold FP;rw[show aB 0 0 0 0 I=A from rfl]
   simp only[b_ (ω:(i:Int)<(m.A0.length:Int)),Ac (ω:(0:Int)≤(i:Int)) (ω:(i:Int)<(m.A0.length:Int)),d_,i_,Pz u hc.1 hc.2,a_,Dp hi (show m.A0.length≤AG by unfold AG;omega),hbit]
   rw[Ay (show out.length+[aA 2 (m.A0.getD i A).D0 (m.A0.getD i A).I0 0 0].length≤2147483648 by show out.length+1≤_;omega)]
   unfold Je;cases vs.any λv=>Ak (CZ b v) (m.A0.getD i A).D0.toNat (m.A0.getD i A).I0
   ·simp
   ·rfl
  ·rw[h_]
   cases Je b vs (m.A0.getD i A).D0 (m.A0.getD i A).I0<;>simp<;>omega) (λout _=>by
  show FP out m.A0 (m.A0.length:Int) (m.A0.length:Int) u.1 u.2=_;unfold FP;simp only[f_ (H_ (m.A0.length:Int)),c_]) m.A0.length 0 [] ω (by simp)
 have h1':=Ai h1.1 ω
 rw[HE,a2_,MY (λe=>bif Je b vs e.D0 e.I0 then [aA 2 e.D0 e.I0 0 0]else []) A m.A0 0 m.A0.length ω,Q_]at h1'
 unfold LD;rw[CS hb m ω ω,Img.ok_iff.2 hm]
 simp only[a_,o_,c_];rw[show((vs.length:Int) !=(b.B0.length:Int))=I by rw[hv,T_]]
 simp only[Bldg.tup,Img.tup]at h0';simp only[c_,h0',a_];rw[show Jt (((),([]:List O),m.A0,(m.A0.length:Int),(0:Int),()),((u.1,u.2,()),()))=_ from h1']
 rfl
end
def xsV(E:List C)(xs:List Int)(r:O):List Int:=
 bif(r.R0==2)&&FU (B r.D0 r.I0) E then xs.take (H (B r.D0 r.I0) E)++xs.drop (H (B r.D0 r.I0) E+1)
 else bif(r.R0==1)&&!FU (B r.D0 r.I0) E then xs.take (H (B r.D0 r.I0) E)++[0]++xs.drop (H (B r.D0 r.I0) E)
 else xs
def Bc8(E:List C)(xs:List Int)(F D:Int):Int:=bif FU (B F D) E then xs.getD (H (B F D) E) 0 else 0
def RR(E:List C)(xs:List Int)(e:C):Int:=Bc8 E xs e.D0 e.I0
def Amg(e:C):isC e.D0 e.I0 e=J:=by unfold isC;simp
def Aq4(hs:Bj E)(hi:i<E.length):H (E.getD i A) E=i:=by
 have hp:=Ep.1 hs;rcases Nat.lt_trichotomy (H (E.getD i A) E) i with h | h | h
 ·have h1:=Ago hs (H (E.getD i A) E) (z_ _) ω
  have h2:Bo (E.getD (H (E.getD i A) E) A) (E.getD i A)=J:=by
   generalize H (E.getD i A) E=p at h;have hg:∀j (hj:j<E.length),E.getD j A=E[j]:=λj hj=>by simp[k_,hj]
   rw[hg p ω,hg i hi]
   exact b3_.1 hp p i ω hi h
  rw[h1]at h2;cases h2
 ·exact h
 ·have h1:=Agp (E.getD i A) E i h
  have h2:=(WQ (Amg (E.getD i A))).1;rw[h1]at h2;cases h2
def Bhr(hs:Bj E)(hi:i<E.length):FU (B (E.getD i A).D0 (E.getD i A).I0) E=J:=by
 unfold FU;rw[TO,Aq4 hs hi,e_];exact⟨Eq.mpr g9_ hi,Amg _⟩
def Aq3(hs:Bj E)(xs:List Int)(hi:i<E.length):RR E xs (E.getD i A)=xs.getD i 0:=by
 unfold RR Bc8;rw[Bhr hs hi,TO,Aq4 hs hi];rfl
def Al2{a b:List α}(d:α)(hl:a.length=b.length)(h:∀i,i<a.length→a.getD i d=b.getD i d):a=b:=by
 refine List.ext_getElem hl λi h1 h2=>?_
 have:=h i h1
 simpa[k_,h1,h2]using this
def Bc0{β:Type}(f:α→β){l:List α}(hi:i<l.length)(d:α)(d':β):(l.map f).getD i d'=f (l.getD i d):=by
 simp[k_,hi]
def Bhy(hs:Bj E)(hl:xs.length=E.length):E.map (RR E xs)=xs:=by
 refine Al2 0 (by rw[b5_,hl]) λi hi=>?_
 rw[b5_]at hi;rw[Bc0 _ hi A,Aq3 hs xs hi]
def Anw{l:List α}{a:α}(d:α)(h:a=l.getD k d):l.set k a=l:=by
 by_cases hk:k<l.length
 ·refine Al2 d (A_ ..) λi hi=>?_
  by_cases hik:k=i
  ·subst hik
   rw[h];simp[k_,hk]
  ·simp[k_,hik]
 ·rw[List.set_eq_of_length_le ω]
def Aqr{c:C}{l:List C}(h:FU c l=J):H c l<l.length∧isC c.D0 c.I0 (l.getD (H c l) A)=J:=by
 unfold FU at h;rw[e_]at h;exact⟨Eq.mp g9_ h.1,h.2⟩
def Bak(hs:Bj m.A0)(hl:xs.length=m.A0.length)(r:O):xsV m.A0 xs r=(AC m r).A0.map (RR m.A0 xs):=by
 have hbase:=Bhy hs hl;have hfp:=RA (c:=B r.D0 r.I0) 0 hs;rw[p_]at hfp;have hfp':DP r.D0 r.I0 m.A0 0=_:=hfp;unfold AC xsV;by_cases k4:r.R0=4
 ·rw[k4];exact hbase.symm
 by_cases k5:r.R0=5
 ·rw[k5];exact hbase.symm
 by_cases k6:r.R0=6
 ·rw[k6];exact hbase.symm
 rw[An k4,An k5,An k6,hfp'];simp only[c_];cases hh:FU (B r.D0 r.I0) m.A0 with
 |false=>
  simp only[c_,l_,d_,c2_,c0_,c6_];cases k1:r.R0==1 with
  |false=>exact hbase.symm
  |true=>
   simp only[d_];show _=(Hr (aB r.D0 r.I0 (-1) 0 I) I m.A0).map (RR m.A0 xs);have hnone:=Ah3 hs hh;rw[WN (c:=aB r.D0 r.I0 (-1) 0 I) (λx hx=>hnone x hx)]
   have hp:H (aB r.D0 r.I0 (-1) 0 I) m.A0=H (B r.D0 r.I0) m.A0:=(TO (aB r.D0 r.I0 (-1) 0 I) m.A0).symm
   have hn:RR m.A0 xs (aB r.D0 r.I0 (-1) 0 I)=0:=by
    unfold RR Bc8;rw[hh];rfl
   rw[hp,List.map_append,List.map_append,List.map_take,List.map_drop,hbase,List.map_singleton,hn]
 |true=>
  obtain⟨p1,p2⟩:=Aqr hh;simp only[d_,c6_,o_,c2_,c_];rw[An (ω:¬((H (B r.D0 r.I0) m.A0:Nat):Int)=-1)]
  simp only[c_,i_];generalize H (B r.D0 r.I0) m.A0=p at p1 p2⊢
  have hset:∀e':C,e'.D0=(m.A0.getD p A).D0→e'.I0=(m.A0.getD p A).I0→(m.A0.set p e').map (RR m.A0 xs)=xs:=λe' h1 h2=>by
   rw[List.map_set,hbase];refine Anw 0 ?_
   have:RR m.A0 xs e'=RR m.A0 xs (m.A0.getD p A):=by
    unfold RR;rw[h1,h2]
   rw[this,Aq3 hs xs p1]
  cases k2:r.R0==2 with
  |true=>
   simp only[d_];show _=(m.A0.take p++m.A0.drop (p+1)).map (RR m.A0 xs);rw[List.map_append,List.map_take,List.map_drop,hbase]
  |false=>
   simp only[c_];cases k3:r.R0==3 with
   |true=>exact(hset (Aep (m.A0.getD p A) r.S0) rfl rfl).symm
   |false=>
    simp only[c_];cases k7:r.R0==7 with
    |true=>exact(hset (TU (m.A0.getD p A) r.G2 r.S0) rfl rfl).symm
    |false=>exact hbase.symm
def Bih(hs:Bj m.A0)(hl:xs.length=m.A0.length)(r:O):(xsV m.A0 xs r).length=(AC m r).A0.length:=by rw[Bak hs hl,b5_]
def xsL:Img→List Int→List O→List Int
 |_,xs,[]=>xs
 |m,xs,r::t=>xsL (AC m r) (xsV m.A0 xs r) t
def At8(e:C)(F D:Int):IM e.D0 e.I0 e.S0 e.B1 e.B2 F D=Q ((!Bo e (B F D),()),((F,()),(D,()),())):=by
 unfold IM Bo B;by_cases h1:F<e.D0
 ·rw[b_ h1,f_ (ω:¬e.D0<F),An (ω:¬e.D0=F)];rfl
 ·rw[f_ h1]
  by_cases h2:e.D0=F
  ·rw[h2,f_ (H_ F),l_]
   by_cases h3:e.I0<D
   ·rw[b_ h3,f_ (ω:¬D≤e.I0)];rfl
   ·rw[f_ h3,b_ (ω:D≤e.I0)];rfl
  ·rw[An h2,b_ (ω:e.D0<F)];rfl
def Ad9(E:List C)(hl:E.length≤100000)(F D:Int):∀(k i:Nat),i+k=E.length→BQ (λx=>As x.1.1 x.1.2.2.1 x.1.2.2.2.1 x.2.1.1 x.2.2.1.1) (k+1) ((E,(),(E.length:Int),(i:Int),()),((F,()),(D,()),()))=Q (bif Nat.blt (i+H (B F D) (E.drop i)) E.length then .inr ((((i+H (B F D) (E.drop i):Nat):Int),()),((F,()),(D,()),()))else .inl ((),((F,()),(D,()),())))
 |0,i,hi=>by
  obtain rfl:i=E.length:=ω
  refine Az ?_;show As E (E.length:Int) (E.length:Int) F D=_;unfold As;rw[f_ (H_ (E.length:Int)),a5_]
  have:Nat.blt (E.length+H (B F D) []) E.length=I:=by
   cases h:Nat.blt (E.length+H (B F D) []) E.length with
   |false=>rfl
   |true=>have:=Eq.mp g9_ h;omega
  rw[this];rfl
 |k+1,i,hi=>by
  have hi':i<E.length:=ω
  have hs:As E (E.length:Int) (i:Int) F D=Q (bif Bo (E.getD i A) (B F D)then .inl ((E,(),(E.length:Int),((i+1:Nat):Int),()),((F,()),(D,()),()))else .inr (.inr (((i:Int),()),((F,()),(D,()),())))):=by
   unfold As;rw[show aB 0 0 0 0 I=A from rfl]
   simp only[b_ (ω:(i:Int)<(E.length:Int)),Ac (ω:(0:Int)≤(i:Int)) (ω:(i:Int)<(E.length:Int)),d_,i_,At8,a_,Dp hi' (show E.length≤AG by unfold AG;omega)]
   cases Bo (E.getD i A) (B F D)<;>rfl
  have hd:=BU A hi';rw[hd];simp only[H];cases hq:Bo (E.getD i A) (B F D)with
  |true=>
   rw[hq]at hs;refine(Bu hs).trans ?_;rw[Ad9 E hl F D k (i+1) ω,d_,show i+1+H (B F D) (E.drop (i+1))=i+(H (B F D) (E.drop (i+1))+1)by omega]
  |false=>
   rw[hq]at hs;refine(Az hs).trans ?_;rw[c_,c4_,show Nat.blt i E.length=J from Eq.mpr g9_ hi'];rfl
def ZN(m:Img)(hl:m.A0.length≤100000)(F D:Int):Kp m.F0 m.O0 m.K0 m.A0 F D=Q ((((H (B F D) m.A0:Nat):Int),FU (B F D) m.A0,()),()):=by
 have h:=Ad9 m.A0 hl F D m.A0.length 0 ω
 have h':=Ai h ω
 rw[Q_,p_]at h';have hle:=SZ (B F D) m.A0;unfold Kp BA FU;rw[show AV ((m.A0,(),(m.A0.length:Int),(0:Int),()),((F,()),(D,()),()))=_ from h']
 cases hq:Nat.blt (H (B F D) m.A0) m.A0.length with
 |false=>
  have hge:m.A0.length≤H (B F D) m.A0:=by
   rcases g2_ (H (B F D) m.A0) m.A0.length with g | g
   ·rw[Eq.mpr g9_ g]at hq;cases hq
   ·exact g
  rw[show H (B F D) m.A0=m.A0.length by omega]
  rfl
 |true=>
  have hlt:H (B F D) m.A0<m.A0.length:=Eq.mp g9_ hq;simp only[d_,a_];rw[f_ (ω:¬((H (B F D) m.A0:Nat):Int)<0)]
  simp only[c_,Ac (ω:(0:Int)≤((H (B F D) m.A0:Nat):Int)) (ω:((H (B F D) m.A0:Nat):Int)<(m.A0.length:Int)),d_,i_]
  rw[show aB 0 0 0 0 I=A from rfl]
  unfold isC;show Option.bind (bif(m.A0.getD (H (B F D) m.A0) A).D0==F then _ else _) _=Q ((_,J&&((m.A0.getD (H (B F D) m.A0) A).D0==F&&(m.A0.getD (H (B F D) m.A0) A).I0==D),()),());cases(m.A0.getD (H (B F D) m.A0) A).D0==F<;>rfl
structure Rnd where
 recs:List Record
 img:Img
 xs:List Int
 lan:Lan
 ref:Int×Int
def Rnd.tup(r:Rnd):List O×List Int×List Bool×List Bool×List C×List Int×List Calls×List Bool×Int×Int×Int×Int×Unit:=(r.recs,r.img.F0,r.img.O0,r.img.K0,r.img.A0,r.xs,r.lan.lit,r.lan.gong,r.lan.cl.1,r.lan.cl.2,r.ref.1,r.ref.2,())
def Rnd.tupB(b:L)(r:Rnd):List O×List Int×List Bool×List Bool×List C×List Int×List Calls×List Bool×Int×Int×Int×Int×Int×Int×Int×Int×Nat×Nat×Nat×List Car×Unit:=(r.recs,r.img.F0,r.img.O0,r.img.K0,r.img.A0,r.xs,r.lan.lit,r.lan.gong,r.lan.cl.1,r.lan.cl.2,r.ref.1,r.ref.2,b.C0,b.E0,b.H0,b.M0,b.J0,b.L0,b.N0,b.B0,())
structure Rnd.ok(b:Bldg)(r:Rnd):Prop where
 img:ImgOK b r.img
 len:r.xs.length=r.img.A0.length
def Il:O:=aA 0 0 0 0 0
def Ra(r:O)(X:Rnd):Rnd:=⟨X.recs++[r],AC X.img r,xsV X.img.A0 X.xs r,X.lan,X.ref⟩
def wrL(l:List O)(X:Rnd):Rnd:=⟨X.recs++l,AB X.img l,xsL X.img X.xs l,X.lan,X.ref⟩
def Xm(r:O)(l:List O)(X:Rnd):wrL (r::l) X=wrL l (Ra r X):=by
 unfold wrL Ra;simp only[M_,d4_];rfl
def Xh{X:Rnd}(h:X.ok b){r:O}(hv:Au b r=J):(Ra r X).ok b:=⟨(Oo h.img hv).1,Bih h.img.so h.len r⟩
def An8{b:L}:∀{l:List O}{X:Rnd},X.ok b→(∀r∈l,Au b r=J)→(wrL l X).ok b
 |[],X,h,_=>by
  unfold wrL;rw[a9_];exact⟨h.img,h.len⟩
 |r::t,X,h,hv=>by
  rw[Xm];exact An8 (Xh h (hv r (s_ ..))) λx hx=>hv x (x_ _ hx)
def Blb(h:k<xs.length)(hl:xs.length≤100000):EJ xs (k:Int) (IntKind.i64.wrap ((k:Int)+1))=Q ((xs.take k++xs.drop (k+1),()),()):=by
 unfold EJ Als;rw[Aa ω ω,b_ (ω:(0:Int)≤(k:Int)),b_ (ω:(k:Int)<(k:Int)+1),b_ (ω:(k:Int)+1≤(xs.length:Int)),show Int.toNat ((k:Int)+1)=k+1 by omega,i_]
 rfl
def Bm8(h:k≤xs.length)(hl:xs.length≤100000):EK xs (k:Int) [0]=Q ((xs.take k++[0]++xs.drop k,()),()):=by
 unfold EK Abd;rw[b_ (ω:(0:Int)≤(k:Int)),b_ (ω:(k:Int)≤(xs.length:Int)),Ay (show xs.length+[(0:Int)].length≤2147483648 by show xs.length+1≤_;omega),i_]
 rfl
section
variable{b:L}(hb:b.small)(hcode:b.code=0)
include hb hcode
omit hcode in
theorem Ek(hm:ImgOK b m):m.A0.length≤14:=by
 have:=Bhj hb hm
 have:=hb.hi
 omega
theorem Avb{X:Rnd}(hX:X.ok b)(hl:l.length≤100000)(hi:i<l.length)(hv:Au b (l.getD i Il)=J)(hr:X.recs.length≤1000000):BS l (l.length:Int) (i:Int) X.recs X.img.F0 X.img.O0 X.img.K0 X.img.A0 X.xs X.lan.lit X.lan.gong X.lan.cl.1 X.lan.cl.2 X.ref.1 X.ref.2 b.C0 b.E0 b.H0 b.M0 b.J0 b.L0 b.N0 b.B0=Q (.inl (((),l,(l.length:Int),((i+1:Nat):Int),()),((Ra (l.getD i Il) X).tupB b,()))):=by
 have hcc:=Aj hcode;have he:=Ek hb hX.img;have hlp:=hX.img.lp;have hxl:=hX.len;have hpl:=SZ (B (l.getD i Il).D0 (l.getD i Il).I0) X.img.A0;have ha:=Ys hb ω X.img ω ω (l.getD i Il)
 have ha':XL b X.img (l.getD i Il)=(((),0,()),((AC X.img (l.getD i Il)).tup,())):=by
  unfold XL;rw[Img.ok_iff.2 hX.img,hv];rfl
 rw[ha']at ha;unfold BS;rw[show aA 0 0 0 0 0=Il from rfl]
 simp only[b_ (ω:(i:Int)<(l.length:Int)),Ac (ω:(0:Int)≤(i:Int)) (ω:(i:Int)<(l.length:Int)),d_,i_]
 rw[ZN X.img ω]
 simp only[a_];generalize l.getD i Il=r at*;have hbl:Nat.ble (X.recs.length+[aA r.R0 r.D0 r.I0 r.S0 r.G2].length) 2147483648=J:=Ay (by show X.recs.length+1≤_;omega)
 have hw:=Dp hi (show l.length≤AG by unfold AG;omega)
 have hxs:∀q,xsV X.img.A0 X.xs r=q→(Ra r X).tupB b=(X.recs++[aA r.R0 r.D0 r.I0 r.S0 r.G2],(AC X.img r).F0,(AC X.img r).O0,(AC X.img r).K0,(AC X.img r).A0,q,X.lan.lit,X.lan.gong,X.lan.cl.1,X.lan.cl.2,X.ref.1,X.ref.2,b.C0,b.E0,b.H0,b.M0,b.J0,b.L0,b.N0,b.B0,()):=λq h=>by rw[← h];rfl
 by_cases k2:r.R0=2
 ·have k1:(r.R0==1)=I:=An ω
  have k2':(r.R0==2)=J:=by rw[k2];rfl
  cases hf:FU (B r.D0 r.I0) X.img.A0 with
  |true=>
   rw[hxs _ (show _=X.xs.take (H (B r.D0 r.I0) X.img.A0)++X.xs.drop (H (B r.D0 r.I0) X.img.A0+1)by unfold xsV;rw[k2',hf];rfl)]
   have hp:=(Aqr hf).1;simp only[k2',d_,a_,Blb (ω:H (B r.D0 r.I0) X.img.A0<X.xs.length) ω]
   rw[ha];simp only[a_,l_,d_,hbl,hw];rfl
  |false=>
   rw[hxs X.xs (by unfold xsV;rw[hf,k1,c2_,a4_];rfl)]
   simp only[k2',k1,d_,c_,a_];rw[ha];simp only[a_,l_,d_,hbl,hw];rfl
 ·have k2':(r.R0==2)=I:=An k2
  by_cases k1:r.R0=1
  ·have k1':(r.R0==1)=J:=by rw[k1];rfl
   cases hf:FU (B r.D0 r.I0) X.img.A0 with
   |false=>
    rw[hxs _ (show _=X.xs.take (H (B r.D0 r.I0) X.img.A0)++[0]++X.xs.drop (H (B r.D0 r.I0) X.img.A0)by unfold xsV;rw[k2',k1',hf];rfl)]
    simp only[k2',k1',d_,c_,a_,c0_,Bm8 (ω:H (B r.D0 r.I0) X.img.A0≤X.xs.length) ω]
    rw[ha];simp only[a_,l_,d_,hbl,hw];rfl
   |true=>
    rw[hxs X.xs (by unfold xsV;rw[hf,k2',a4_,o_,c2_];rfl)]
    simp only[k2',k1',d_,c_,a_,o_];rw[ha];simp only[a_,l_,d_,hbl,hw];rfl
  ·have k1':(r.R0==1)=I:=An k1
   rw[hxs X.xs (by unfold xsV;rw[k2',k1',a4_,a4_];rfl)]
   simp only[k2',k1',c_,a_];rw[ha];simp only[a_,l_,d_,hbl,hw];rfl
theorem Acb{X:Rnd}(hX:X.ok b)(hl:l.length≤100000)(hv:∀r∈l,Au b r=J)(hr:X.recs.length≤100000):Bz l X.recs X.img.F0 X.img.O0 X.img.K0 X.img.A0 X.xs X.lan.lit X.lan.gong X.lan.cl.1 X.lan.cl.2 X.ref.1 X.ref.2 b.C0 b.E0 b.H0 b.M0 b.J0 b.L0 b.N0 b.B0=Q ((),((wrL l X).tupB b,())):=by
 have key:∀(k i:Nat) (Y:Rnd),i+k=l.length→Y.ok b→Y.recs.length≤100000+i→BQ (λx=>letI d:=x.2.1.2.2.2;letI f:=d.2.2;letI a:=f.2.2.2;letI g:=a.2.2;letI c:=g.2.2.2;letI e:=c.2.2;BS x.1.2.1 x.1.2.2.1 x.1.2.2.2.1 x.2.1.1 x.2.1.2.1 x.2.1.2.2.1 d.1 d.2.1 f.1 f.2.1 f.2.2.1 a.1 a.2.1 g.1 g.2.1 g.2.2.1 c.1 c.2.1 e.1 e.2.1 e.2.2.1 e.2.2.2.1 e.2.2.2.2.1) (k+1) (((),l,(l.length:Int),(i:Int),()),(Y.tupB b,()))=Q ((),((wrL (l.drop i) Y).tupB b,())):=by
  intro k
  induction k with
  |zero=>
   intro i Y hi _ _;obtain rfl:i=l.length:=ω
   refine Az ?_;show BS l (l.length:Int) (l.length:Int) Y.recs Y.img.F0 Y.img.O0 Y.img.K0 Y.img.A0 Y.xs Y.lan.lit Y.lan.gong Y.lan.cl.1 Y.lan.cl.2 Y.ref.1 Y.ref.2 b.C0 b.E0 b.H0 b.M0 b.J0 b.L0 b.N0 b.B0=_;unfold BS;rw[f_ (H_ (l.length:Int)),a5_];unfold wrL;rw[a9_];rfl
  |succ k ih=>
   intro i Y hi hY hr;have hi':i<l.length:=ω
   have hv':=hv _ (CA Il hi');rw[BU Il hi',Xm];exact(Bu (Avb hb hcode hY hl hi' hv' ω)).trans (ih (i+1) _ ω (Xh hY hv') (by show(Y.recs++[_]).length≤_;rw[h_,J_];omega))
 have h:=key l.length 0 X ω hX ω
 rw[Q_]at h;have h':Cu (((),l,(l.length:Int),(0:Int),()),(X.tupB b,()))=_:=Ai h ω
 unfold Bz;rw[show Cu (((),l,(l.length:Int),(0:Int),()),((X.recs,X.img.F0,X.img.O0,X.img.K0,X.img.A0,X.xs,X.lan.lit,X.lan.gong,X.lan.cl.1,X.lan.cl.2,X.ref.1,X.ref.2,b.C0,b.E0,b.H0,b.M0,b.J0,b.L0,b.N0,b.B0,()),()))=_ from h']
 rfl
end
def Ye{F D:Int}{e:C}(he:isC F D e=J)(T:List C):∀(P:List C) (i:Nat),(∀p∈P,isC F D p=I)→DP F D (P++e::T) i=((i+P.length:Nat):Int)
 |[],i,_=>by simp only[a2_,DP,he,d_,d5_,c4_]
 |p::P,i,h=>by
  simp only[List.cons_append,DP,h p (s_ ..),c_];rw[Ye he T P (i+1) λx hx=>h x (x_ _ hx),C_]
  congr 1;omega
def Auy{P T:List C}(h:Bj (P++e::T)):∀p∈P,isC e.D0 e.I0 p=I:=by
 intro p hp;rw[Ep]at h;have h2:=(f9_.1 h).2.2 p hp e (s_ ..);rw[HF]at h2;unfold isC;simp only[Bool.and_eq_false_iff,beq_eq_false_iff_ne];omega
def Al9(P T:List C)(e:C):(P++e::T).getD P.length A=e:=by
 simp[k_]
def Wd(e:C):isC e.D0 e.I0 e=J:=by unfold isC;simp
def Aof{P T:List C}(hE:m.A0=P++e::T)(hs:∀p∈P,isC e.D0 e.I0 p=I)(n c:Int):AC m ⟨7,e.D0,e.I0,c,n⟩=m.put (P++TU e n c::T):=by
 unfold AC;have hf:DP e.D0 e.I0 m.A0 0=(P.length:Int):=by rw[hE,Ye (Wd e) T P 0 hs,p_]
 simp only[hf];rw[An (ω:¬(P.length:Int)=-1),hE,i_,Al9,Ta,Ta]
 rfl
def Ag6{P T:List C}(hE:m.A0=P++e::T)(hs:∀p∈P,isC e.D0 e.I0 p=I)(c:Int):AC m ⟨3,e.D0,e.I0,c,0⟩=m.put (P++Aep e c::T):=by
 unfold AC;have hf:DP e.D0 e.I0 m.A0 0=(P.length:Int):=by rw[hE,Ye (Wd e) T P 0 hs,p_]
 simp only[hf];rw[An (ω:¬(P.length:Int)=-1),hE,i_,Al9,Ta,Ta]
 rfl
def Img.put_put(m:Img)(l l':List C):(m.put l).put l'=m.put l':=rfl
def Img.put_self(m:Img):m.put m.A0=m:=rfl
def Arx{P T:List C}{n:C}(hE:m.A0=P++e::T)(hs:∀p∈P,isC e.D0 e.I0 p=I)(hF:n.D0=e.D0)(hD:n.I0=e.I0):AB m (Nb e n)=m.put (P++n::T):=by
 obtain⟨nF,nD,nC,nM,nV⟩:=n;obtain⟨eF,eD,eC,eM,eV⟩:=e;simp only at hF hD;subst hF hD;unfold Nb;simp only;have mv:∀c:Int,TU ⟨nF,nD,eC,eM,eV⟩ nM c=⟨nF,nD,eC,nM,c==1⟩:=λ_=>rfl
 have cv:((bif nV then(1:Int)else 0)==1)=nV:=by cases nV<;>rfl
 cases hp:(eM !=nM||!(eV==nV))with
 |true=>
  have h1:=Aof hE hs nM (bif nV then 1 else 0);rw[mv,cv]at h1;cases hq:eC !=nC with
  |true=>
   have h2:=Ag6 (m:=m.put (P++⟨nF,nD,eC,nM,nV⟩::T)) (P:=P) (T:=T) (e:=⟨nF,nD,eC,nM,nV⟩) rfl hs nC;simp only[d_,List.cons_append,a2_,AB];rw[h1,h2];rfl
  |false=>
   have:eC=nC:=by simpa[bne]using hq
   subst this;simp only[d_,c_,a9_,AB];exact h1
 |false=>
  simp only[Bool.or_eq_false_iff,Bool.not_eq_false',bne_eq_false_iff_eq,R_]at hp;obtain⟨rfl,rfl⟩:=hp;cases hq:eC !=nC with
  |true=>
   have h2:=Ag6 hE hs nC;simp only[d_,c_,a2_,AB];exact h2
  |false=>
   have:eC=nC:=by simpa[bne]using hq
   subst this;simp only[c_,a9_,AB];rw[← hE];exact(Img.put_self m).symm
def Aui{n:C}(hcode:b.code=0)(hcall:Am b n.D0 n.I0=J)(hc:-2≤n.S0∧n.S0<(b.B0.length:Int))(hm:0≤n.B1∧n.B1≤255):∀r∈Nb e n,Au b r=J:=by
 intro r hr;unfold Nb at hr;rcases q_.1 hr with h | h
 ·cases hp:(e.B1 !=n.B1||!(e.B2==n.B2))with
  |false=>rw[hp]at h;cases h
  |true=>
   rw[hp]at h;rw[P_.1 h];unfold Au;rw[hcode,hcall,Ao.2 hm];cases n.B2<;>rfl
 ·cases hp:e.S0 !=n.S0 with
  |false=>rw[hp]at h;cases h
  |true=>
   rw[hp]at h;rw[P_.1 h];unfold Au;rw[hcode,hcall,Ao.2 ⟨hc.1,show n.S0≤(b.B0.length:Int)-1 by omega⟩]
   rfl
noncomputable def UZ(b:L)(vs:List N):List C→List Int→List C
 |e::t,x::xs=>Fi b vs e x::UZ b vs t xs
 |_,_=>[]
def Alr(b:L)(vs:List N):∀(l:List C) (xs:List Int),xs.length=l.length→(UZ b vs l xs).length=l.length
 |[],_,_=>by simp[UZ]
 |_::_,[],h=>by simp at h
 |e::t,x::xs,h=>by simp only[UZ,C_,Alr b vs t xs (by simpa using h)]
def Asz(hc:b.B0.length≤100){vs:List N}(hm:0≤e.B1∧e.B1≤255)(x:Int):0≤(Fi b vs e x).B1∧(Fi b vs e x).B1≤255:=by
 unfold Fi;cases e.S0==-2 with
 |true=>exact hm
 |false=>
  cases e.S0==-1 with
  |true=>exact hm
  |false=>
   cases(Ax vs e.S0).X3 with
   |true=>
    by_cases g:(b.B0.length:Int)<e.B1
    ·rw[b_ g];exact hm
    ·rw[f_ g];exact⟨by show 0≤e.B1+1;omega,by show e.B1+1≤255;omega⟩
   |false=>
    by_cases g:e.B1≤(b.B0.length:Int)
    ·rw[b_ g]
     cases e.B2 with
     |true=>exact hm
     |false=>
      cases Nt b vs e x != -1 with
      |true=>exact⟨by show 0≤e.B1+1;omega,by show e.B1+1≤255;omega⟩
      |false=>exact hm
    ·rw[f_ g,c2_];exact hm
def WX{b:L}(hc:b.B0.length≤100){vs:List N}(hlen:(vs.length:Int)=(b.B0.length:Int)):∀(T:List C) (xs:List Int) (P:List C) (m:Img),xs.length=T.length→ImgOK b m→m.A0=P++T→AB m (GH b vs T xs)=m.put (P++UZ b vs T xs)∧(∀r∈GH b vs T xs,Au b r=J)∧ImgOK b (m.put (P++UZ b vs T xs))
 |[],xs,P,m,_,hm,hE=>by
  have:UZ b vs [] xs=[]:=by simp[UZ]
  have h2:GH b vs [] xs=[]:=by simp[GH]
  rw[this,h2,← hE];exact⟨rfl,(λ_ h=>by cases h),hm⟩
 |_::_,[],_,_,h,_,_=>by simp at h
 |e::T,x::xs,P,m,h,hm,hE=>by
  have hent:=Dt.1 (hm.en e (by rw[hE];simp))
  have hso:=hm.so;rw[hE]at hso;have hs:=Auy hso;obtain⟨c1,c2⟩:=Ayl b vs e x;have hin:=Aqc b (vs:=vs) (e:=e) ω x
  have hmv:=Asz hc (vs:=vs) hent.2.2 x;have hval:=Aui (b:=b) (e:=e) (n:=Fi b vs e x) hm.code (by rw[c1,c2];exact hent.1) ω hmv
  have hap:=Arx hE hs c1 c2
  have hok:ImgOK b (m.put (P++Fi b vs e x::T)):=by
   rw[← hap];exact(Uj hm hval).1
  obtain⟨g1,g2,g3⟩:=WX hc hlen T xs (P++[Fi b vs e x]) (m.put (P++Fi b vs e x::T)) (by simpa using h) hok (by simp[Img.put])
  simp only[GH,UZ]
  have app:∀(rs qs:List O) (m:Img),AB m (rs++qs)=AB (AB m rs) qs:=λrs=>by
   induction rs with
   |nil=>intro _ _;rfl
   |cons r rs ih=>intro qs m;exact ih qs (AC m r)
  rw[app,hap,g1,Img.put_put];rw[Img.put_put]at g3;simp only[M_,d4_]at g3⊢
  exact⟨trivial,(λr hr=>by
   rcases q_.1 hr with hr | hr
   ·exact hval r hr
   ·exact g2 r hr),g3⟩
end Go.Ovl
