/- Plan as a whole (layer 22), and sameness of records and numbers: the program and the reference say the same. -/
import Derived.Test.YtoppkmfgeaflcaaGreatDoorOvI
import Derived.Test.YtoppkmfgeaflcaaGreatDoorOvC
import Derived.Test.YtoppkmfgeaflcaaGreatDoorOvD
import Derived.Test.YtoppkmfgeaflcaaGreatDoorOvB
set_option linter.all false
open Go.Ovl renaming noE->A,Au->B,Entry->C,AA->H,Bldg->L,View->N,Record->O
open Bool renaming false->I,true->J
open Option renaming some->Q
open Go.Ovl.Record renaming mk->aA
open Go.Ovl.Entry renaming mk->aB
namespace Go.Ovl
open Go Go.Ab
set_option maxRecDepth 100000
variable{xs:List Int}{E:List C}{m:Img}{e:C}{b:L}{i k:Nat}{l:List O}{α:Type}
def Pp(xs:List Int):Bool:=xs.all (inR 0 1000000)
def Ay3(n:Int):Lk n=Q ((!inR 0 1000000 n,()),()):=by
 unfold Lk inR;by_cases g:n<0
 ·rw[b_ g,f_ (ω:¬0≤n)];rfl
 ·rw[f_ g,b_ (ω:0≤n)]
  by_cases g':1000000<n
  ·rw[b_ g',f_ (ω:¬n≤1000000)];rfl
  ·rw[f_ g',b_ (ω:n≤1000000)];rfl
def An1(hl:xs.length≤maxLen):BA xs=Q ((!Pp xs,()),()):=by
 have hm:maxLen≤9223372036854775807:=by decide
 have key:∀(k i:Nat),i+k=xs.length→∃y,BM (λx=>AR x.1.1 x.1.2.2.1 x.1.2.2.2.1) (k+1) ((xs,(),(xs.length:Int),(i:Int),()),())=Q y∧(match y with | .inl _=>(xs.drop i).all (inR 0 1000000)=J | .inr z=>0≤z.1.1∧(xs.drop i).all (inR 0 1000000)=I):=by
  intro k
  induction k with
  |zero=>
   intro i hi;refine⟨.inl ((),()),Ay ?_,?_⟩
   ·show AR xs (xs.length:Int) (i:Int)=_
    unfold AR;rw[show decide ((i:Int)<(xs.length:Int))=I by simp;omega];rfl
   ·rw[show i=xs.length by omega,b0_];rfl
  |succ k ih=>
   intro i hi;have hi':i<xs.length:=ω
   have hs:AR xs (xs.length:Int) (i:Int)=Q (bif inR 0 1000000 (xs.getD i 0)then .inl ((xs,(),(xs.length:Int),((i+1:Nat):Int),()),())else .inr (.inr (((i:Int),()),()))):=by
    unfold AR;have w:IntKind.i64.wrap ((i:Int)+1)=((i+1:Nat):Int):=by rw[Ac ω ω];omega
    rw[show decide ((i:Int)<(xs.length:Int))=J by simp;omega,Aa ω ω,Ay3,w]
    simp only[d_,j_,a_];cases inR 0 1000000 (xs.getD i 0)<;>rfl
   rw[Cc (0:Int) hi',X_];cases hq:inR 0 1000000 (xs.getD i 0)with
   |true=>
    rw[hq]at hs;obtain⟨y,h1,h2⟩:=ih (i+1) ω
    exact⟨y,(Bt hs).trans h1,by rw[n_];exact h2⟩
   |false=>
    rw[hq]at hs;exact⟨_,Ay hs,by show(0:Int)≤(i:Int)∧_;exact⟨ω,rfl⟩⟩
 obtain⟨y,h1,h2⟩:=key xs.length 0 ω
 have h1':BG ((xs,(),(xs.length:Int),(0:Int),()),())=Q y:=Ai h1 ω
 rw[R_]at h2;unfold BA CE Pp;rw[h1'];cases y with
 |inl z=>simp only at h2;rw[h2];rfl
 |inr z=>
  simp only at h2;rw[h2.2];simp only[a_];rw[b_ h2.1];rfl
noncomputable def NF(b:L)(m:Img)(xs:List Int)(vs:List N):List O×List Int×Int×Unit:=
 bif m.ok b&&((xs.length:Int)==(m.A0.length:Int)&&((vs.length:Int)==(b.B0.length:Int)&&Pp xs))then(Gx b vs m.A0 xs,LG b vs m.A0 xs,0,())else([],[],1,())
def Img.ok_all(h:m.ok b=J):b.code=0∧m.F0.length=b.B0.length∧m.O0.length=b.B0.length∧m.K0.length=b.B0.length∧(∀p∈m.F0,0≤p∧p≤4)∧(∀e∈m.A0,GQ b e=J)∧EB b Option.none m.A0=J:=by
 unfold Img.ok at h;simp only[e_,U_]at h;obtain⟨h0,h1,h2,h3,h4,h5⟩:=h;exact⟨h0,ω,ω,ω,λp hp=>Am.1 (D_.1 h4 p hp),Agx h5,h5⟩
section
variable{b:L}(hb:b.small){vs:List N}(hv:okViews vs)(hl:vs.length≤100)(m:Img)(hm:m.A0.length≤1000)(hp:m.F0.length≤maxLen)(xs:List Int)(hx:xs.length≤maxLen)
include hb hv hl hm hp hx
theorem Aeo:Ie b.C0 b.E0 b.H0 b.M0 b.J0 b.L0 b.N0 b.B0 m.F0 m.O0 m.K0 m.A0 xs vs=Q (NF b m xs vs,()):=by
 have hmx:1000≤maxLen:=by decide
 unfold Ie NF;rw[CM hb m hp ω,An1 hx]
 simp only[a_,bne];cases hok:m.ok b with
 |false=>rfl
 |true=>
  cases hq:(xs.length:Int)==(m.A0.length:Int)with
  |false=>rfl
  |true=>
   cases hr:(vs.length:Int)==(b.B0.length:Int)with
   |false=>rfl
   |true=>
    cases Pp xs with
    |false=>rfl
    |true=>
     have hq':(xs.length:Int)=(m.A0.length:Int):=by simpa using hq
     have hr':(vs.length:Int)=(b.B0.length:Int):=by simpa using hr
     obtain⟨_,_,_,_,_,hall,_⟩:=Img.ok_all hok;have hlp:=Ai (SV hb hv hl hr' hall hm (xs:=xs) ω m.A0.length 0 [] [] ω rfl (by simp)) ω
     have hlp':Lu ((xs,vs,(),(),([]:List O),List.replicate m.A0.length (0:Int),m.A0,(m.A0.length:Int),(0:Int),()),(b.tup,(b.C0,b.E0,b.H0,b.M0,b.J0,b.L0,b.N0,b.B0,vs,()),()))=_:=hlp;unfold Bldg.tup at hlp';simp only[o_,c_,hq',b_ (ω:(0:Int)≤(m.A0.length:Int)),b_ (d7_ (m.A0.length:Int)),b_ (ω:(m.A0.length:Int)≤2147483648),a4_,d_,j_,hlp',a_,R_,a0_]
end
def Yo(b:L)(vs:List N):∀(l:List C) (xs:List Int),(Gx b vs l xs).length≤2*l.length
 |[],_=>by simp[Gx]
 |_::_,[]=>by simp[Gx]
 |e::t,x::xs=>by
  have h1:=Yo b vs t xs;have h2:=Ahv e (Eg b vs e x);simp only[Gx,h_,y_];omega
def Yn(b:L)(vs:List N):∀(l:List C) (xs:List Int),xs.length=l.length→(LG b vs l xs).length=l.length
 |[],_,_=>by simp[LG]
 |_::_,[],h=>by simp at h
 |e::t,x::xs,h=>by
  simp only[LG,y_,Yn b vs t xs (by simpa using h)]
def Ay2(b:L)(m:Img)(xs:List Int)(vs:List N):(NF b m xs vs).1.length≤2*m.A0.length∧(NF b m xs vs).2.1.length≤m.A0.length:=by
 unfold NF;cases hq:(m.ok b&&((xs.length:Int)==(m.A0.length:Int)&&((vs.length:Int)==(b.B0.length:Int)&&Pp xs)))with
 |false=>exact⟨by simp,by simp⟩
 |true=>
  simp only[e_,U_]at hq;refine⟨Yo b vs m.A0 xs,?_⟩;show(LG b vs m.A0 xs).length≤_;rw[Yn b vs m.A0 xs ω]
  exact w_ _
def noV:N:=View.mk I I I I 0 0 0 0 0 0 0 0
def noP:Calls:=Calls.mk 0 0
structure Lan where
 lit:List Calls
 gong:List Bool
 cl:Int×Int
def Lan.tup(l:Lan):List Calls×List Bool×Int×Int×Unit:=(l.lit,l.gong,l.cl.1,l.cl.2,())
def Lan.none:Lan:=⟨[],[],(0,0)⟩
def NV(b:L)(vs:List N)(i:Nat)(s:Lan):Int×Int:=Cd (DB b (vs.getD i noV)) s.cl
def NW(b:L)(vs:List N)(ps:List Calls)(i:Nat)(s:Lan):Lan:=⟨s.lit++[Calls.mk (NV b vs i s).1 (NV b vs i s).2],s.gong++[!isZ (Cd (NV b vs i s) ((ps.getD i noP).Up,(ps.getD i noP).T3))],DU s.cl (NV b vs i s)⟩
def Hg(b:L)(vs:List N)(ps:List Calls):Lan:=AO (NW b vs ps) vs.length 0 Lan.none
def Ade(b:L)(vs:List N)(ps:List Calls):Lan×Int:=bif(vs.length:Int)==(b.B0.length:Int)&&((ps.length:Int)==(b.B0.length:Int))then(Hg b vs ps,0)else(Lan.none,1)
section
variable{b:L}(hb:b.small)(hcode:b.code=0)
include hb hcode
theorem XX(vs:List N)(ps:List Calls)(hl:vs.length≤1000)(hp:ps.length=vs.length):Je ((ps,(),(),(),vs,(vs.length:Int),(0:Int),()),(b.tup,Lan.none.tup,Lan.none.tup,()))=Q (((),(),()),(Lan.none.tup,(Hg b vs ps).tup,()))∧(Hg b vs ps).lit.length=vs.length∧(Hg b vs ps).gong.length=vs.length:=by
 have key:=λ(step:_→_) (h1:∀(i:Nat) (s:Lan),i<vs.length→(s.lit.length=i∧s.gong.length=i)→step ((ps,(),(),(),vs,(vs.length:Int),(i:Int),()),(b.tup,Lan.none.tup,s.tup,()))=Q (.inl ((ps,(),(),(),vs,(vs.length:Int),((i+1:Nat):Int),()),(b.tup,Lan.none.tup,(NW b vs ps i s).tup,())))) h2=>AQ (step:=step) vs.length (λi (s:Lan)=>((ps,(),(),(),vs,(vs.length:Int),(i:Int),()),(b.tup,Lan.none.tup,s.tup,()))) (NW b vs ps) (λi s=>s.lit.length=i∧s.gong.length=i) (λs=>(((),(),()),(Lan.none.tup,s.tup,()))) (λi s hi hs=>⟨h1 i s hi hs,by
   constructor
   ·show(s.lit++[_]).length=_;rw[h_,J_,hs.1]
   ·show(s.gong++[_]).length=_;rw[h_,J_,hs.2]⟩) h2 vs.length 0 Lan.none ω ⟨rfl,rfl⟩
 have h:=key (λx=>letI a:=x.2.1.2.2;letI c:=x.2.2;letI d:=x.1.2.2.2.2;letI e:=a.2.2;letI f:=c.2.1;FF x.1.1 d.1 d.2.1 d.2.2.1 x.2.1.1 x.2.1.2.1 a.1 a.2.1 e.1 e.2.1 e.2.2.1 e.2.2.2.1 c.1.1 c.1.2.1 c.1.2.2.1 c.1.2.2.2.1 f.1 f.2.1 f.2.2.1 f.2.2.2.1) (λi s hi hs=>by
  show FF ps vs (vs.length:Int) (i:Int) b.C0 b.E0 b.H0 b.M0 b.J0 b.L0 b.N0 b.B0 [] [] 0 0 s.lit s.gong s.cl.1 s.cl.2=_;unfold FF;rw[show View.mk I I I I 0 0 0 0 0 0 0 0=noV from rfl,show Calls.mk 0 0=noP from rfl]
  simp only[b_ (ω:(i:Int)<(vs.length:Int)),Aa (ω:(0:Int)≤(i:Int)) (ω:(i:Int)<(vs.length:Int)),Aa (ω:(0:Int)≤(i:Int)) (ω:(i:Int)<(ps.length:Int)),d_,j_,RJ hb hcode,a_,DA hi (show vs.length≤AJ by unfold AJ;omega)]
  have e1:=PV (DB b (vs.getD i noV)) s.cl;have e2:=PV (NV b vs i s) ((ps.getD i noP).Up,(ps.getD i noP).T3);have e3:=Gp s.cl (NV b vs i s);unfold NV at e2 e3;simp only at e2;simp only[e1,a_,e2,e3];rw[Ax (show s.lit.length+[Calls.mk (Cd (DB b (vs.getD i noV)) s.cl).1 (Cd (DB b (vs.getD i noV)) s.cl).2].length≤2147483648 by show s.lit.length+1≤_;omega)]
  rw[Ax (show s.gong.length+[!((Cd (Cd (DB b (vs.getD i noV)) s.cl) ((ps.getD i noP).Up,(ps.getD i noP).T3)).1==0&&((Cd (Cd (DB b (vs.getD i noV)) s.cl) ((ps.getD i noP).Up,(ps.getD i noP).T3)).2==0&&J))].length≤2147483648 by show s.gong.length+1≤_;omega)]
  rfl) (λs _=>by
  show FF ps vs (vs.length:Int) (vs.length:Int) b.C0 b.E0 b.H0 b.M0 b.J0 b.L0 b.N0 b.B0 [] [] 0 0 s.lit s.gong s.cl.1 s.cl.2=_;unfold FF;simp only[f_ (L_ (vs.length:Int)),c_]
  rfl)
 exact⟨Ai h.1 ω,h.2.1,h.2.2⟩
theorem Aa3(vs:List N)(ps:List Calls)(hl:vs.length≤1000):Lp b.C0 b.E0 b.H0 b.M0 b.J0 b.L0 b.N0 b.B0 vs ps=Q (((),(Ade b vs ps).2,()),((Ade b vs ps).1.tup,())):=by
 unfold Lp Ade;rw[Bg,hcode];simp only[a_,Q_,c_];by_cases h1:vs.length=b.B0.length
 ·by_cases h2:ps.length=b.B0.length
  ·have h:=(XX hb hcode vs ps hl ω).1
   simp only[Bldg.tup,Lan.tup,Lan.none]at h;rw[h1]at h⊢;rw[h2];simp only[Q_,c_,l_,a4_,d_,h];rfl
  ·rw[h1,Q_,EK (ω:¬(ps.length:Int)=(b.B0.length:Int)),Ar (ω:¬(ps.length:Int)=(b.B0.length:Int)),c0_]
   rfl
 ·rw[EK (ω:¬(vs.length:Int)=(b.B0.length:Int)),Ar (ω:¬(vs.length:Int)=(b.B0.length:Int))]
  rfl
end
def Ut(b:L)(vs:List N)(F D:Int):Bool:=vs.any λv=>BP (DB b v) F.toNat D
def Ia(b:L)(vs:List N)(l:List C):List O:=l.flatMap λe=>bif Ut b vs e.D0 e.I0 then [aA 2 e.D0 e.I0 0 0]else []
def Aj7(b:L)(vs:List N){f:Nat}{d:Int}:∀(k i:Nat) (s:Int×Int),i+k=vs.length→BP (AO (λi s=>DU s (DB b (vs.getD i noV))) k i s) f d=(BP s f d||(vs.drop i).any λv=>BP (DB b v) f d)
 |0,i,s,hi=>by rw[show i=vs.length by omega,b0_];simp[AO]
 |k+1,i,s,hi=>by
  show BP (AO (λi s=>DU s (DB b (vs.getD i noV))) k (i+1) (DU s (DB b (vs.getD i noV)))) f d=_
  rw[Aj7 b vs k (i+1) _ ω,Aq7,Cc noV (ω:i<vs.length),List.any_cons,Bool.or_assoc]
def Yy(b:L)(vs:List N):∀l:List C,(Ia b vs l).length≤l.length
 |[]=>w_ _
 |e::t=>by
  have h:=Yy b vs t;show((bif Ut b vs e.D0 e.I0 then [aA 2 e.D0 e.I0 0 0]else [])++Ia b vs t).length≤_;rw[h_,y_];cases Ut b vs e.D0 e.I0<;>simp<;>omega
def Bat(hb:b.small)(h:An b e.D0 e.I0=J):Bfr e:=by
 have lo:=hb.lo;have hi:=hb.hi;unfold An Pf at h;simp only[e_,a6_,U_,Am]at h;unfold Bfr;omega
section
variable{b:L}(hb:b.small)(hcode:b.code=0){m:Img}(hm:ImgOK b m)(hl:m.A0.length≤100000)(vs:List N)(hv:(vs.length:Int)=(b.B0.length:Int))
include hb hcode hm hl hv
theorem Aa4:Lq b.C0 b.E0 b.H0 b.M0 b.J0 b.L0 b.N0 b.B0 m.F0 m.O0 m.K0 m.A0 vs=Q ((Ia b vs m.A0,()),()):=by
 have hcc:=Aj hcode;have hmx:100000≤maxLen:=by decide
 have hlp:=hm.lp
 have h0:=AQ (step:=λx=>letI a:=x.2.1.2.2;letI c:=x.2.2;letI g:=a.2.2;FG x.1.2.2.2.1 x.1.2.2.2.2.1 x.1.2.2.2.2.2.1 x.2.1.1 x.2.1.2.1 a.1 a.2.1 g.1 g.2.1 g.2.2.1 g.2.2.2.1 c.1.1 c.1.2.1 c.1.2.2.1 c.1.2.2.2.1 c.2.1.1 c.2.1.2.1) vs.length (λi (s:Int×Int)=>(((),(),(),vs,(vs.length:Int),(i:Int),()),(b.tup,m.tup,(s.1,s.2,()),()))) (λi s=>DU s (DB b (vs.getD i noV))) (λ_ _=>True) (λs=>(((),(),()),(m.tup,(s.1,s.2,()),()))) (λi s hi _=>⟨by
  show FG vs (vs.length:Int) (i:Int) b.C0 b.E0 b.H0 b.M0 b.J0 b.L0 b.N0 b.B0 m.F0 m.O0 m.K0 m.A0 s.1 s.2=_;unfold FG;rw[show View.mk I I I I 0 0 0 0 0 0 0 0=noV from rfl]
  have e3:=Gp s (DB b (vs.getD i noV));simp only[b_ (ω:(i:Int)<(vs.length:Int)),Aa (ω:(0:Int)≤(i:Int)) (ω:(i:Int)<(vs.length:Int)),d_,j_,RJ hb hcode,a_,e3,DA hi (show vs.length≤AJ by unfold AJ;omega)]
  rfl,trivial⟩) (λs _=>by
  show FG vs (vs.length:Int) (vs.length:Int) b.C0 b.E0 b.H0 b.M0 b.J0 b.L0 b.N0 b.B0 m.F0 m.O0 m.K0 m.A0 s.1 s.2=_;unfold FG;simp only[f_ (L_ (vs.length:Int)),c_]
  rfl) vs.length 0 (0,0) ω trivial
 have h0':Jf (((),(),(),vs,(vs.length:Int),(0:Int),()),(b.tup,m.tup,((0:Int),(0:Int),()),()))=_:=Ai h0.1 ω
 have hbit:∀(f:Nat) (d:Int),BP (AO (λi s=>DU s (DB b (vs.getD i noV))) vs.length 0 (0,0)) f d=vs.any λv=>BP (DB b v) f d:=λf d=>by
  rw[Aj7 b vs vs.length 0 (0,0) ω,TR,Bool.false_or,R_]
 generalize AO (λi s=>DU s (DB b (vs.getD i noV))) vs.length 0 (0,0)=u at h0' hbit
 have h1:=AQ (step:=λx=>FH x.1.2.1 x.1.2.2.1 x.1.2.2.2.1 x.1.2.2.2.2.1 x.2.1.1 x.2.1.2.1) m.A0.length (λi (out:List O)=>(((),out,m.A0,(m.A0.length:Int),(i:Int),()),((u.1,u.2,()),()))) (λi out=>out++(bif Ut b vs (m.A0.getD i A).D0 (m.A0.getD i A).I0 then [aA 2 (m.A0.getD i A).D0 (m.A0.getD i A).I0 0 0]else [])) (λi out=>out.length≤i) (λout=>((out,()),())) (λi out hi ho=>by
  have hc:=Bat hb (EA.1 (hm.en _ (Cn A hi))).1;refine⟨?_,?_⟩
  ·show FH out m.A0 (m.A0.length:Int) (i:Int) u.1 u.2=_
   unfold FH;rw[show aB 0 0 0 0 I=A from rfl]
   simp only[b_ (ω:(i:Int)<(m.A0.length:Int)),Aa (ω:(0:Int)≤(i:Int)) (ω:(i:Int)<(m.A0.length:Int)),d_,j_,Pg u hc.1 hc.2,a_,DA hi (show m.A0.length≤AJ by unfold AJ;omega),hbit]
   rw[Ax (show out.length+[aA 2 (m.A0.getD i A).D0 (m.A0.getD i A).I0 0 0].length≤2147483648 by show out.length+1≤_;omega)]
   unfold Ut;cases vs.any λv=>BP (DB b v) (m.A0.getD i A).D0.toNat (m.A0.getD i A).I0
   ·simp
   ·rfl
  ·rw[h_]
   cases Ut b vs (m.A0.getD i A).D0 (m.A0.getD i A).I0<;>simp<;>omega) (λout _=>by
  show FH out m.A0 (m.A0.length:Int) (m.A0.length:Int) u.1 u.2=_;unfold FH;simp only[f_ (L_ (m.A0.length:Int)),c_]) m.A0.length 0 [] ω (by simp)
 have h1':=Ai h1.1 ω
 rw[Hr,a0_,MH (λe=>bif Ut b vs e.D0 e.I0 then [aA 2 e.D0 e.I0 0 0]else []) A m.A0 0 m.A0.length ω,R_]at h1'
 unfold Lq;rw[CM hb m ω ω,Img.ok_iff.2 hm]
 simp only[a_,o_,c_];rw[show((vs.length:Int) !=(b.B0.length:Int))=I by rw[hv,Q_]]
 simp only[Bldg.tup,Img.tup]at h0';simp only[c_,h0',a_];rw[show Jg (((),([]:List O),m.A0,(m.A0.length:Int),(0:Int),()),((u.1,u.2,()),()))=_ from h1']
 rfl
end
def xsV(E:List C)(xs:List Int)(r:O):List Int:=
 bif(r.S0==2)&&FN (B r.D0 r.I0) E then xs.take (H (B r.D0 r.I0) E)++xs.drop (H (B r.D0 r.I0) E+1)
 else bif(r.S0==1)&&!FN (B r.D0 r.I0) E then xs.take (H (B r.D0 r.I0) E)++[0]++xs.drop (H (B r.D0 r.I0) E)
 else xs
def Bci(E:List C)(xs:List Int)(F D:Int):Int:=bif FN (B F D) E then xs.getD (H (B F D) E) 0 else 0
def RC(E:List C)(xs:List Int)(e:C):Int:=Bci E xs e.D0 e.I0
def Alm(e:C):isC e.D0 e.I0 e=J:=by unfold isC;simp
def Ap9(hs:Bq E)(hi:i<E.length):H (E.getD i A) E=i:=by
 have hp:=El.1 hs;rcases Nat.lt_trichotomy (H (E.getD i A) E) i with h | h | h
 ·have h1:=Afw hs (H (E.getD i A) E) (w_ _) ω
  have h2:Bk (E.getD (H (E.getD i A) E) A) (E.getD i A)=J:=by
   generalize H (E.getD i A) E=p at h;have hg:∀j (hj:j<E.length),E.getD j A=E[j]:=λj hj=>by simp[k_,hj]
   rw[hg p ω,hg i hi]
   exact b2_.1 hp p i ω hi h
  rw[h1]at h2;cases h2
 ·exact h
 ·have h1:=Afx (E.getD i A) E i h
  have h2:=(Ww (Alm (E.getD i A))).1;rw[h1]at h2;cases h2
def Bg7(hs:Bq E)(hi:i<E.length):FN (B (E.getD i A).D0 (E.getD i A).I0) E=J:=by
 unfold FN;rw[Tq,Ap9 hs hi,e_];exact⟨Eq.mpr g9_ hi,Alm _⟩
def Ap8(hs:Bq E)(xs:List Int)(hi:i<E.length):RC E xs (E.getD i A)=xs.getD i 0:=by
 unfold RC Bci;rw[Bg7 hs hi,Tq,Ap9 hs hi];rfl
def Ak7{a b:List α}(d:α)(hl:a.length=b.length)(h:∀i,i<a.length→a.getD i d=b.getD i d):a=b:=by
 refine List.ext_getElem hl λi h1 h2=>?_
 have:=h i h1
 simpa[k_,h1,h2]using this
def Bca{β:Type}(f:α→β){l:List α}(hi:i<l.length)(d:α)(d':β):(l.map f).getD i d'=f (l.getD i d):=by
 simp[k_,hi]
def Bhe(hs:Bq E)(hl:xs.length=E.length):E.map (RC E xs)=xs:=by
 refine Ak7 0 (by rw[b5_,hl]) λi hi=>?_
 rw[b5_]at hi;rw[Bca _ hi A,Ap8 hs xs hi]
def Am3{l:List α}{a:α}(d:α)(h:a=l.getD k d):l.set k a=l:=by
 by_cases hk:k<l.length
 ·refine Ak7 d (r_ ..) λi hi=>?_
  by_cases hik:k=i
  ·subst hik
   rw[h];simp[k_,hk]
  ·simp[k_,hik]
 ·rw[List.set_eq_of_length_le ω]
def Apx{c:C}{l:List C}(h:FN c l=J):H c l<l.length∧isC c.D0 c.I0 (l.getD (H c l) A)=J:=by
 unfold FN at h;rw[e_]at h;exact⟨Eq.mp g9_ h.1,h.2⟩
def Azr(hs:Bq m.A0)(hl:xs.length=m.A0.length)(r:O):xsV m.A0 xs r=(Ao m r).A0.map (RC m.A0 xs):=by
 have hbase:=Bhe hs hl;have hfp:=Ri (c:=B r.D0 r.I0) 0 hs;rw[p_]at hfp;have hfp':Dy r.D0 r.I0 m.A0 0=_:=hfp;unfold Ao xsV;by_cases k4:r.S0=4
 ·rw[k4];exact hbase.symm
 by_cases k5:r.S0=5
 ·rw[k5];exact hbase.symm
 by_cases k6:r.S0=6
 ·rw[k6];exact hbase.symm
 rw[Ar k4,Ar k5,Ar k6,hfp'];simp only[c_];cases hh:FN (B r.D0 r.I0) m.A0 with
 |false=>
  simp only[c_,l_,d_,c0_,b7_,c9_];cases k1:r.S0==1 with
  |false=>exact hbase.symm
  |true=>
   simp only[d_];show _=(Hk (aB r.D0 r.I0 (-1) 0 I) I m.A0).map (RC m.A0 xs);have hnone:=Ahe hs hh;rw[Aax (c:=aB r.D0 r.I0 (-1) 0 I) (λx hx=>hnone x hx)]
   have hp:H (aB r.D0 r.I0 (-1) 0 I) m.A0=H (B r.D0 r.I0) m.A0:=(Tq (aB r.D0 r.I0 (-1) 0 I) m.A0).symm
   have hn:RC m.A0 xs (aB r.D0 r.I0 (-1) 0 I)=0:=by
    unfold RC Bci;rw[hh];rfl
   rw[hp,List.map_append,List.map_append,List.map_take,List.map_drop,hbase,List.map_singleton,hn]
 |true=>
  obtain⟨p1,p2⟩:=Apx hh;simp only[d_,c9_,o_,c0_,c_];rw[Ar (ω:¬((H (B r.D0 r.I0) m.A0:Nat):Int)=-1)]
  simp only[c_,j_];generalize H (B r.D0 r.I0) m.A0=p at p1 p2⊢
  have hset:∀e':C,e'.D0=(m.A0.getD p A).D0→e'.I0=(m.A0.getD p A).I0→(m.A0.set p e').map (RC m.A0 xs)=xs:=λe' h1 h2=>by
   rw[List.map_set,hbase];refine Am3 0 ?_
   have:RC m.A0 xs e'=RC m.A0 xs (m.A0.getD p A):=by
    unfold RC;rw[h1,h2]
   rw[this,Ap8 hs xs p1]
  cases k2:r.S0==2 with
  |true=>
   simp only[d_];show _=(m.A0.take p++m.A0.drop (p+1)).map (RC m.A0 xs);rw[List.map_append,List.map_take,List.map_drop,hbase]
  |false=>
   simp only[c_];cases k3:r.S0==3 with
   |true=>exact(hset (Ad2 (m.A0.getD p A) r.Q0) rfl rfl).symm
   |false=>
    simp only[c_];cases k7:r.S0==7 with
    |true=>exact(hset (Tv (m.A0.getD p A) r.U1 r.Q0) rfl rfl).symm
    |false=>exact hbase.symm
def Bhx(hs:Bq m.A0)(hl:xs.length=m.A0.length)(r:O):(xsV m.A0 xs r).length=(Ao m r).A0.length:=by rw[Azr hs hl,b5_]
def xsL:Img→List Int→List O→List Int
 |_,xs,[]=>xs
 |m,xs,r::t=>xsL (Ao m r) (xsV m.A0 xs r) t
def Ate(e:C)(F D:Int):IC e.D0 e.I0 e.Q0 e.B1 e.Y1 F D=Q ((!Bk e (B F D),()),((F,()),(D,()),())):=by
 unfold IC Bk B;by_cases h1:F<e.D0
 ·rw[b_ h1,f_ (ω:¬e.D0<F),Ar (ω:¬e.D0=F)];rfl
 ·rw[f_ h1]
  by_cases h2:e.D0=F
  ·rw[h2,f_ (L_ F),l_]
   by_cases h3:e.I0<D
   ·rw[b_ h3,f_ (ω:¬D≤e.I0)];rfl
   ·rw[f_ h3,b_ (ω:D≤e.I0)];rfl
  ·rw[Ar h2,b_ (ω:e.D0<F)];rfl
def Ado(E:List C)(hl:E.length≤100000)(F D:Int):∀(k i:Nat),i+k=E.length→BM (λx=>At x.1.1 x.1.2.2.1 x.1.2.2.2.1 x.2.1.1 x.2.2.1.1) (k+1) ((E,(),(E.length:Int),(i:Int),()),((F,()),(D,()),()))=Q (bif Nat.blt (i+H (B F D) (E.drop i)) E.length then .inr ((((i+H (B F D) (E.drop i):Nat):Int),()),((F,()),(D,()),()))else .inl ((),((F,()),(D,()),())))
 |0,i,hi=>by
  obtain rfl:i=E.length:=ω
  refine Ay ?_;show At E (E.length:Int) (E.length:Int) F D=_;unfold At;rw[f_ (L_ (E.length:Int)),b0_]
  have:Nat.blt (E.length+H (B F D) []) E.length=I:=by
   cases h:Nat.blt (E.length+H (B F D) []) E.length with
   |false=>rfl
   |true=>have:=Eq.mp g9_ h;omega
  rw[this];rfl
 |k+1,i,hi=>by
  have hi':i<E.length:=ω
  have hs:At E (E.length:Int) (i:Int) F D=Q (bif Bk (E.getD i A) (B F D)then .inl ((E,(),(E.length:Int),((i+1:Nat):Int),()),((F,()),(D,()),()))else .inr (.inr (((i:Int),()),((F,()),(D,()),())))):=by
   unfold At;rw[show aB 0 0 0 0 I=A from rfl]
   simp only[b_ (ω:(i:Int)<(E.length:Int)),Aa (ω:(0:Int)≤(i:Int)) (ω:(i:Int)<(E.length:Int)),d_,j_,Ate,a_,DA hi' (show E.length≤AJ by unfold AJ;omega)]
   cases Bk (E.getD i A) (B F D)<;>rfl
  have hd:=Cc A hi';rw[hd];simp only[H];cases hq:Bk (E.getD i A) (B F D)with
  |true=>
   rw[hq]at hs;refine(Bt hs).trans ?_;rw[Ado E hl F D k (i+1) ω,d_,show i+1+H (B F D) (E.drop (i+1))=i+(H (B F D) (E.drop (i+1))+1)by omega]
  |false=>
   rw[hq]at hs;refine(Ay hs).trans ?_;rw[c_,c2_,show Nat.blt i E.length=J from Eq.mpr g9_ hi'];rfl
def Zt(m:Img)(hl:m.A0.length≤100000)(F D:Int):Ke m.F0 m.O0 m.K0 m.A0 F D=Q ((((H (B F D) m.A0:Nat):Int),FN (B F D) m.A0,()),()):=by
 have h:=Ado m.A0 hl F D m.A0.length 0 ω
 have h':=Ai h ω
 rw[R_,p_]at h';have hle:=SF (B F D) m.A0;unfold Ke By FN;rw[show AT ((m.A0,(),(m.A0.length:Int),(0:Int),()),((F,()),(D,()),()))=_ from h']
 cases hq:Nat.blt (H (B F D) m.A0) m.A0.length with
 |false=>
  have hge:m.A0.length≤H (B F D) m.A0:=by
   rcases g0_ (H (B F D) m.A0) m.A0.length with g | g
   ·rw[Eq.mpr g9_ g]at hq;cases hq
   ·exact g
  rw[show H (B F D) m.A0=m.A0.length by omega]
  rfl
 |true=>
  have hlt:H (B F D) m.A0<m.A0.length:=Eq.mp g9_ hq;simp only[d_,a_];rw[f_ (ω:¬((H (B F D) m.A0:Nat):Int)<0)]
  simp only[c_,Aa (ω:(0:Int)≤((H (B F D) m.A0:Nat):Int)) (ω:((H (B F D) m.A0:Nat):Int)<(m.A0.length:Int)),d_,j_]
  rw[show aB 0 0 0 0 I=A from rfl]
  unfold isC;show Option.bind (bif(m.A0.getD (H (B F D) m.A0) A).D0==F then _ else _) _=Q ((_,J&&((m.A0.getD (H (B F D) m.A0) A).D0==F&&(m.A0.getD (H (B F D) m.A0) A).I0==D),()),());cases(m.A0.getD (H (B F D) m.A0) A).D0==F<;>rfl
structure Rnd where
 recs:List Record
 img:Img
 xs:List Int
 lan:Lan
 ref:Int×Int
def Rnd.tup(r:Rnd):List O×List Int×List Bool×List Bool×List C×List Int×List Calls×List Bool×Int×Int×Int×Int×Unit:=(r.recs,r.img.F0,r.img.O0,r.img.K0,r.img.A0,r.xs,r.lan.lit,r.lan.gong,r.lan.cl.1,r.lan.cl.2,r.ref.1,r.ref.2,())
def Rnd.tupB(b:L)(r:Rnd):List O×List Int×List Bool×List Bool×List C×List Int×List Calls×List Bool×Int×Int×Int×Int×Int×Int×Int×Int×Nat×Nat×Nat×List Car×Unit:=(r.recs,r.img.F0,r.img.O0,r.img.K0,r.img.A0,r.xs,r.lan.lit,r.lan.gong,r.lan.cl.1,r.lan.cl.2,r.ref.1,r.ref.2,b.C0,b.E0,b.H0,b.M0,b.J0,b.L0,b.N0,b.B0,())
structure Rnd.ok(b:Bldg)(r:Rnd):Prop where
 img:ImgOK b r.img
 len:r.xs.length=r.img.A0.length
def HY:O:=aA 0 0 0 0 0
def Uv(r:O)(X:Rnd):Rnd:=⟨X.recs++[r],Ao X.img r,xsV X.img.A0 X.xs r,X.lan,X.ref⟩
def wrL(l:List O)(X:Rnd):Rnd:=⟨X.recs++l,Ak X.img l,xsL X.img X.xs l,X.lan,X.ref⟩
def WS(r:O)(l:List O)(X:Rnd):wrL (r::l) X=wrL l (Uv r X):=by
 unfold wrL Uv;simp only[O_,d3_];rfl
def WN{X:Rnd}(h:X.ok b){r:O}(hv:Az b r=J):(Uv r X).ok b:=⟨(QT h.img hv).1,Bhx h.img.so h.len r⟩
def Ang{b:L}:∀{l:List O}{X:Rnd},X.ok b→(∀r∈l,Az b r=J)→(wrL l X).ok b
 |[],X,h,_=>by
  unfold wrL;rw[b1_];exact⟨h.img,h.len⟩
 |r::t,X,h,hv=>by
  rw[WS];exact Ang (WN h (hv r (B_ ..))) λx hx=>hv x (F_ _ hx)
def Bkq(h:k<xs.length)(hl:xs.length≤100000):EG xs (k:Int) (IntKind.i64.wrap ((k:Int)+1))=Q ((xs.take k++xs.drop (k+1),()),()):=by
 unfold EG Ak1;rw[Ac ω ω,b_ (ω:(0:Int)≤(k:Int)),b_ (ω:(k:Int)<(k:Int)+1),b_ (ω:(k:Int)+1≤(xs.length:Int)),show Int.toNat ((k:Int)+1)=k+1 by omega,j_]
 rfl
def Bmn(h:k≤xs.length)(hl:xs.length≤100000):EH xs (k:Int) [0]=Q ((xs.take k++[0]++xs.drop k,()),()):=by
 unfold EH Aav;rw[b_ (ω:(0:Int)≤(k:Int)),b_ (ω:(k:Int)≤(xs.length:Int)),Ax (show xs.length+[(0:Int)].length≤2147483648 by show xs.length+1≤_;omega),j_]
 rfl
section
variable{b:L}(hb:b.small)(hcode:b.code=0)
include hb hcode
omit hcode in
theorem Eh(hm:ImgOK b m):m.A0.length≤14:=by
 have:=Bgy hb hm
 have:=hb.hi
 omega
theorem Aui{X:Rnd}(hX:X.ok b)(hl:l.length≤100000)(hi:i<l.length)(hv:Az b (l.getD i HY)=J)(hr:X.recs.length≤1000000):BO l (l.length:Int) (i:Int) X.recs X.img.F0 X.img.O0 X.img.K0 X.img.A0 X.xs X.lan.lit X.lan.gong X.lan.cl.1 X.lan.cl.2 X.ref.1 X.ref.2 b.C0 b.E0 b.H0 b.M0 b.J0 b.L0 b.N0 b.B0=Q (.inl (((),l,(l.length:Int),((i+1:Nat):Int),()),((Uv (l.getD i HY) X).tupB b,()))):=by
 have hcc:=Aj hcode;have he:=Eh hb hX.img;have hlp:=hX.img.lp;have hxl:=hX.len;have hpl:=SF (B (l.getD i HY).D0 (l.getD i HY).I0) X.img.A0;have ha:=Ya hb ω X.img ω ω (l.getD i HY)
 have ha':Xs b X.img (l.getD i HY)=(((),0,()),((Ao X.img (l.getD i HY)).tup,())):=by
  unfold Xs;rw[Img.ok_iff.2 hX.img,hv];rfl
 rw[ha']at ha;unfold BO;rw[show aA 0 0 0 0 0=HY from rfl]
 simp only[b_ (ω:(i:Int)<(l.length:Int)),Aa (ω:(0:Int)≤(i:Int)) (ω:(i:Int)<(l.length:Int)),d_,j_]
 rw[Zt X.img ω]
 simp only[a_];generalize l.getD i HY=r at*;have hbl:Nat.ble (X.recs.length+[aA r.S0 r.D0 r.I0 r.Q0 r.U1].length) 2147483648=J:=Ax (by show X.recs.length+1≤_;omega)
 have hw:=DA hi (show l.length≤AJ by unfold AJ;omega)
 have hxs:∀q,xsV X.img.A0 X.xs r=q→(Uv r X).tupB b=(X.recs++[aA r.S0 r.D0 r.I0 r.Q0 r.U1],(Ao X.img r).F0,(Ao X.img r).O0,(Ao X.img r).K0,(Ao X.img r).A0,q,X.lan.lit,X.lan.gong,X.lan.cl.1,X.lan.cl.2,X.ref.1,X.ref.2,b.C0,b.E0,b.H0,b.M0,b.J0,b.L0,b.N0,b.B0,()):=λq h=>by rw[← h];rfl
 by_cases k2:r.S0=2
 ·have k1:(r.S0==1)=I:=Ar ω
  have k2':(r.S0==2)=J:=by rw[k2];rfl
  cases hf:FN (B r.D0 r.I0) X.img.A0 with
  |true=>
   rw[hxs _ (show _=X.xs.take (H (B r.D0 r.I0) X.img.A0)++X.xs.drop (H (B r.D0 r.I0) X.img.A0+1)by unfold xsV;rw[k2',hf];rfl)]
   have hp:=(Apx hf).1;simp only[k2',d_,a_,Bkq (ω:H (B r.D0 r.I0) X.img.A0<X.xs.length) ω]
   rw[ha];simp only[a_,l_,d_,hbl,hw];rfl
  |false=>
   rw[hxs X.xs (by unfold xsV;rw[hf,k1,c0_,a2_];rfl)]
   simp only[k2',k1,d_,c_,a_];rw[ha];simp only[a_,l_,d_,hbl,hw];rfl
 ·have k2':(r.S0==2)=I:=Ar k2
  by_cases k1:r.S0=1
  ·have k1':(r.S0==1)=J:=by rw[k1];rfl
   cases hf:FN (B r.D0 r.I0) X.img.A0 with
   |false=>
    rw[hxs _ (show _=X.xs.take (H (B r.D0 r.I0) X.img.A0)++[0]++X.xs.drop (H (B r.D0 r.I0) X.img.A0)by unfold xsV;rw[k2',k1',hf];rfl)]
    simp only[k2',k1',d_,c_,a_,b7_,Bmn (ω:H (B r.D0 r.I0) X.img.A0≤X.xs.length) ω]
    rw[ha];simp only[a_,l_,d_,hbl,hw];rfl
   |true=>
    rw[hxs X.xs (by unfold xsV;rw[hf,k2',a2_,o_,c0_];rfl)]
    simp only[k2',k1',d_,c_,a_,o_];rw[ha];simp only[a_,l_,d_,hbl,hw];rfl
  ·have k1':(r.S0==1)=I:=Ar k1
   rw[hxs X.xs (by unfold xsV;rw[k2',k1',a2_,a2_];rfl)]
   simp only[k2',k1',c_,a_];rw[ha];simp only[a_,l_,d_,hbl,hw];rfl
theorem Abp{X:Rnd}(hX:X.ok b)(hl:l.length≤100000)(hv:∀r∈l,Az b r=J)(hr:X.recs.length≤100000):Bx l X.recs X.img.F0 X.img.O0 X.img.K0 X.img.A0 X.xs X.lan.lit X.lan.gong X.lan.cl.1 X.lan.cl.2 X.ref.1 X.ref.2 b.C0 b.E0 b.H0 b.M0 b.J0 b.L0 b.N0 b.B0=Q ((),((wrL l X).tupB b,())):=by
 have key:∀(k i:Nat) (Y:Rnd),i+k=l.length→Y.ok b→Y.recs.length≤100000+i→BM (λx=>letI d:=x.2.1.2.2.2;letI f:=d.2.2;letI a:=f.2.2.2;letI g:=a.2.2;letI c:=g.2.2.2;letI e:=c.2.2;BO x.1.2.1 x.1.2.2.1 x.1.2.2.2.1 x.2.1.1 x.2.1.2.1 x.2.1.2.2.1 d.1 d.2.1 f.1 f.2.1 f.2.2.1 a.1 a.2.1 g.1 g.2.1 g.2.2.1 c.1 c.2.1 e.1 e.2.1 e.2.2.1 e.2.2.2.1 e.2.2.2.2.1) (k+1) (((),l,(l.length:Int),(i:Int),()),(Y.tupB b,()))=Q ((),((wrL (l.drop i) Y).tupB b,())):=by
  intro k
  induction k with
  |zero=>
   intro i Y hi _ _;obtain rfl:i=l.length:=ω
   refine Ay ?_;show BO l (l.length:Int) (l.length:Int) Y.recs Y.img.F0 Y.img.O0 Y.img.K0 Y.img.A0 Y.xs Y.lan.lit Y.lan.gong Y.lan.cl.1 Y.lan.cl.2 Y.ref.1 Y.ref.2 b.C0 b.E0 b.H0 b.M0 b.J0 b.L0 b.N0 b.B0=_;unfold BO;rw[f_ (L_ (l.length:Int)),b0_];unfold wrL;rw[b1_];rfl
  |succ k ih=>
   intro i Y hi hY hr;have hi':i<l.length:=ω
   have hv':=hv _ (Cn HY hi');rw[Cc HY hi',WS];exact(Bt (Aui hb hcode hY hl hi' hv' ω)).trans (ih (i+1) _ ω (WN hY hv') (by show(Y.recs++[_]).length≤_;rw[h_,J_];omega))
 have h:=key l.length 0 X ω hX ω
 rw[R_]at h;have h':Cq (((),l,(l.length:Int),(0:Int),()),(X.tupB b,()))=_:=Ai h ω
 unfold Bx;rw[show Cq (((),l,(l.length:Int),(0:Int),()),((X.recs,X.img.F0,X.img.O0,X.img.K0,X.img.A0,X.xs,X.lan.lit,X.lan.gong,X.lan.cl.1,X.lan.cl.2,X.ref.1,X.ref.2,b.C0,b.E0,b.H0,b.M0,b.J0,b.L0,b.N0,b.B0,()),()))=_ from h']
 rfl
end
def XM{F D:Int}{e:C}(he:isC F D e=J)(T:List C):∀(P:List C) (i:Nat),(∀p∈P,isC F D p=I)→Dy F D (P++e::T) i=((i+P.length:Nat):Int)
 |[],i,_=>by simp only[a0_,Dy,he,d_,d4_,c2_]
 |p::P,i,h=>by
  simp only[List.cons_append,Dy,h p (B_ ..),c_];rw[XM he T P (i+1) λx hx=>h x (F_ _ hx),y_]
  congr 1;omega
def At3{P T:List C}(h:Bq (P++e::T)):∀p∈P,isC e.D0 e.I0 p=I:=by
 intro p hp;rw[El]at h;have h2:=(List.pairwise_append.1 h).2.2 p hp e (B_ ..);rw[Hs]at h2;unfold isC;simp only[Bool.and_eq_false_iff,beq_eq_false_iff_ne];omega
def Alf(P T:List C)(e:C):(P++e::T).getD P.length A=e:=by
 simp[k_]
def VG(e:C):isC e.D0 e.I0 e=J:=by unfold isC;simp
def Ann{P T:List C}(hE:m.A0=P++e::T)(hs:∀p∈P,isC e.D0 e.I0 p=I)(n c:Int):Ao m ⟨7,e.D0,e.I0,c,n⟩=m.put (P++Tv e n c::T):=by
 unfold Ao;have hf:Dy e.D0 e.I0 m.A0 0=(P.length:Int):=by rw[hE,XM (VG e) T P 0 hs,p_]
 simp only[hf];rw[Ar (ω:¬(P.length:Int)=-1),hE,j_,Alf,SG,SG]
 rfl
def Agg{P T:List C}(hE:m.A0=P++e::T)(hs:∀p∈P,isC e.D0 e.I0 p=I)(c:Int):Ao m ⟨3,e.D0,e.I0,c,0⟩=m.put (P++Ad2 e c::T):=by
 unfold Ao;have hf:Dy e.D0 e.I0 m.A0 0=(P.length:Int):=by rw[hE,XM (VG e) T P 0 hs,p_]
 simp only[hf];rw[Ar (ω:¬(P.length:Int)=-1),hE,j_,Alf,SG,SG]
 rfl
def Img.put_put(m:Img)(l l':List C):(m.put l).put l'=m.put l':=rfl
def Img.put_self(m:Img):m.put m.A0=m:=rfl
def Aq2{P T:List C}{n:C}(hE:m.A0=P++e::T)(hs:∀p∈P,isC e.D0 e.I0 p=I)(hF:n.D0=e.D0)(hD:n.I0=e.I0):Ak m (MJ e n)=m.put (P++n::T):=by
 obtain⟨nF,nD,nC,nM,nV⟩:=n;obtain⟨eF,eD,eC,eM,eV⟩:=e;simp only at hF hD;subst hF hD;unfold MJ;simp only;have mv:∀c:Int,Tv ⟨nF,nD,eC,eM,eV⟩ nM c=⟨nF,nD,eC,nM,c==1⟩:=λ_=>rfl
 have cv:((bif nV then(1:Int)else 0)==1)=nV:=by cases nV<;>rfl
 cases hp:(eM !=nM||!(eV==nV))with
 |true=>
  have h1:=Ann hE hs nM (bif nV then 1 else 0);rw[mv,cv]at h1;cases hq:eC !=nC with
  |true=>
   have h2:=Agg (m:=m.put (P++⟨nF,nD,eC,nM,nV⟩::T)) (P:=P) (T:=T) (e:=⟨nF,nD,eC,nM,nV⟩) rfl hs nC;simp only[d_,List.cons_append,a0_,Ak];rw[h1,h2];rfl
  |false=>
   have:eC=nC:=by simpa[bne]using hq
   subst this;simp only[d_,c_,b1_,Ak];exact h1
 |false=>
  simp only[Bool.or_eq_false_iff,g2_,bne_eq_false_iff_eq,U_]at hp;obtain⟨rfl,rfl⟩:=hp;cases hq:eC !=nC with
  |true=>
   have h2:=Agg hE hs nC;simp only[d_,c_,a0_,Ak];exact h2
  |false=>
   have:eC=nC:=by simpa[bne]using hq
   subst this;simp only[c_,b1_,Ak];rw[← hE];exact(Img.put_self m).symm
def Atn{n:C}(hcode:b.code=0)(hcall:An b n.D0 n.I0=J)(hc:-2≤n.Q0∧n.Q0<(b.B0.length:Int))(hm:0≤n.B1∧n.B1≤255):∀r∈MJ e n,Az b r=J:=by
 intro r hr;unfold MJ at hr;rcases q_.1 hr with h | h
 ·cases hp:(e.B1 !=n.B1||!(e.Y1==n.Y1))with
  |false=>rw[hp]at h;cases h
  |true=>
   rw[hp]at h;rw[E_.1 h];unfold Az;rw[hcode,hcall,Am.2 hm];cases n.Y1<;>rfl
 ·cases hp:e.Q0 !=n.Q0 with
  |false=>rw[hp]at h;cases h
  |true=>
   rw[hp]at h;rw[E_.1 h];unfold Az;rw[hcode,hcall,Am.2 ⟨hc.1,show n.Q0≤(b.B0.length:Int)-1 by omega⟩]
   rfl
noncomputable def NS(b:L)(vs:List N):List C→List Int→List C
 |e::t,x::xs=>Eg b vs e x::NS b vs t xs
 |_,_=>[]
def VQ(b:L)(vs:List N):∀(l:List C) (xs:List Int),xs.length=l.length→(NS b vs l xs).length=l.length
 |[],_,_=>by simp[NS]
 |_::_,[],h=>by simp at h
 |e::t,x::xs,h=>by simp only[NS,y_,VQ b vs t xs (by simpa using h)]
def Ags(b:L)(vs:List N):∀(l:List C) (xs:List Int) (i:Nat),xs.length=l.length→i<l.length→(NS b vs l xs).getD i A=Eg b vs (l.getD i A) (xs.getD i 0)
 |[],_,_,_,h=>by simp at h
 |_::_,[],_,h,_=>by simp at h
 |e::t,x::xs,0,_,_=>rfl
 |e::t,x::xs,i+1,h,h'=>by
  have:=Ags b vs t xs i (by simpa using h) (by simpa using h')
  simpa[NS]using this
def Ar2(hc:b.B0.length≤100){vs:List N}(hm:0≤e.B1∧e.B1≤255)(x:Int):0≤(Eg b vs e x).B1∧(Eg b vs e x).B1≤255:=by
 unfold Eg;cases e.Q0==-2 with
 |true=>exact hm
 |false=>
  cases e.Q0==-1 with
  |true=>exact hm
  |false=>
   cases(Aq vs e.Q0).Q3 with
   |true=>
    by_cases g:(b.B0.length:Int)<e.B1
    ·rw[b_ g];exact hm
    ·rw[f_ g];exact⟨by show 0≤e.B1+1;omega,by show e.B1+1≤255;omega⟩
   |false=>
    by_cases g:e.B1≤(b.B0.length:Int)
    ·rw[b_ g]
     cases e.Y1 with
     |true=>exact hm
     |false=>
      cases JQ b vs e x != -1 with
      |true=>exact⟨by show 0≤e.B1+1;omega,by show e.B1+1≤255;omega⟩
      |false=>exact hm
    ·rw[f_ g,c0_];exact hm
def So{b:L}(hc:b.B0.length≤100){vs:List N}(hlen:(vs.length:Int)=(b.B0.length:Int)):∀(T:List C) (xs:List Int) (P:List C) (m:Img),xs.length=T.length→ImgOK b m→m.A0=P++T→Ak m (Gx b vs T xs)=m.put (P++NS b vs T xs)∧(∀r∈Gx b vs T xs,Az b r=J)∧ImgOK b (m.put (P++NS b vs T xs))
 |[],xs,P,m,_,hm,hE=>by
  have:NS b vs [] xs=[]:=by simp[NS]
  have h2:Gx b vs [] xs=[]:=by simp[Gx]
  rw[this,h2,← hE];exact⟨rfl,(λ_ h=>by cases h),hm⟩
 |_::_,[],_,_,h,_,_=>by simp at h
 |e::T,x::xs,P,m,h,hm,hE=>by
  have hent:=EA.1 (hm.en e (by rw[hE];simp))
  have hso:=hm.so;rw[hE]at hso;have hs:=At3 hso;obtain⟨c1,c2⟩:=Axq b vs e x;have hin:=Api b (vs:=vs) (e:=e) ω x
  have hmv:=Ar2 hc (vs:=vs) hent.2.2 x;have hval:=Atn (b:=b) (e:=e) (n:=Eg b vs e x) hm.code (by rw[c1,c2];exact hent.1) ω hmv
  have hap:=Aq2 hE hs c1 c2
  have hok:ImgOK b (m.put (P++Eg b vs e x::T)):=by
   rw[← hap];exact(TM hm hval).1
  obtain⟨g1,g2,g3⟩:=So hc hlen T xs (P++[Eg b vs e x]) (m.put (P++Eg b vs e x::T)) (by simpa using h) hok (by simp[Img.put])
  simp only[Gx,NS]
  have app:∀(rs qs:List O) (m:Img),Ak m (rs++qs)=Ak (Ak m rs) qs:=λrs=>by
   induction rs with
   |nil=>intro _ _;rfl
   |cons r rs ih=>intro qs m;exact ih qs (Ao m r)
  rw[app,hap,g1,Img.put_put];rw[Img.put_put]at g3;simp only[O_,d3_]at g3⊢
  exact⟨trivial,(λr hr=>by
   rcases q_.1 hr with hr | hr
   ·exact hval r hr
   ·exact g2 r hr),g3⟩
end Go.Ovl
