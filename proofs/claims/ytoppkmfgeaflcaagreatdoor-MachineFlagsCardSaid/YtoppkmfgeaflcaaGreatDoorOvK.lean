/- Layer 24: the round of a tick by the program. -/
import Derived.Test.YtoppkmfgeaflcaaGreatDoorOvJ
import Derived.Test.YtoppkmfgeaflcaaGreatDoorOvI
import Derived.Test.YtoppkmfgeaflcaaGreatDoorOvF
import Derived.Test.YtoppkmfgeaflcaaGreatDoorOvG
import Derived.Test.YtoppkmfgeaflcaaGreatDoorOvD
import Derived.Test.YtoppkmfgeaflcaaGreatDoorOvC
import Derived.Test.YtoppkmfgeaflcaaGreatDoorDefs4
import Derived.Test.YtoppkmfgeaflcaaGreatDoorOvA
set_option linter.all false
open Bool renaming true->A,false->B
open Option renaming some->C
open Go.Ovl renaming Bldg->D,Record->aA,Debounced->aC
open Go.Ovl.Sat renaming ret->aB,bifT->aD,bindS->aE
open List renaming replicate->aF
open Go.IntKind renaming i64->aG
namespace Go.Ovl
open Go Go.Ab
set_option maxRecDepth 100000
variable{b:D}{e:Entry}{l:List aA}{xs:List Int}{m:Img}{X:Rnd}
def ZG{l:List Entry}(hl:l.length≤100000):RL l=C (((),()),(((ofC l (0,0)).1,(ofC l (0,0)).2,()),())):=by
 have e2:∀(k i:Nat) (c:Int×Int),i+k=l.length→BM (λx=>JC x.1.2.2.1 x.1.2.2.2.1 x.1.2.2.2.2.1 x.2.1.1 x.2.1.2.1 x.2.2.1.1 x.2.2.1.2.1) (k+1) (((),(),l,(l.length:Int),(i:Int),()),(((0:Int),(0:Int),()),(c.1,c.2,()),()))=C (((),(),()),(((0:Int),(0:Int),()),((ofC (l.drop i) c).1,(ofC (l.drop i) c).2,()),())):=by
  intro k
  induction k with
  |zero=>
   intro i c hi;obtain rfl:i=l.length:=ω
   refine Ay ?_;show JC l (l.length:Int) (l.length:Int) 0 0 c.1 c.2=_;unfold JC;rw[f_ (L_ (l.length:Int)),b0_];rfl
  |succ k ih=>
   intro i c hi;have hi':i<l.length:=ω
   rw[Cc noE hi'];refine(Bt (x':=(((),(),l,(l.length:Int),((i+1:Nat):Int),()),(((0:Int),(0:Int),()),((DU c (JO (l.getD i noE).D0 (l.getD i noE).I0)).1,(DU c (JO (l.getD i noE).D0 (l.getD i noE).I0)).2,()),()))) ?_).trans (ih (i+1) _ ω)
   show JC l (l.length:Int) (i:Int) 0 0 c.1 c.2=_;unfold JC;rw[show Entry.mk 0 0 0 0 B=noE from rfl]
   have hu:=Gp c (JO (l.getD i noE).D0 (l.getD i noE).I0);simp only[b_ (ω:(i:Int)<(l.length:Int)),Aa (ω:(0:Int)≤(i:Int)) (ω:(i:Int)<(l.length:Int)),d_,j_,JL,a_,hu,DA hi' (show l.length≤AJ by unfold AJ;omega)]
 have h:=e2 l.length 0 (0,0) ω
 rw[R_]at h;have h':OI (((),(),l,(l.length:Int),(0:Int),()),(((0:Int),(0:Int),()),((0:Int),(0:Int),()),()))=_:=Ai h ω
 unfold RL;rw[h'];rfl
def Af7(e:Entry):aA:=Record.mk 1 e.D0 e.I0 0 0
def Jm(b:D)(e:Entry)(X:Rnd):Rnd:=bif PB b X.img then Uv (Af7 e) X else⟨X.recs,X.img,X.xs,X.lan,DU X.ref (JO e.D0 e.I0)⟩
def Lj(b:D):List Entry→Rnd→Rnd
 |[],X=>X
 |e::t,X=>Lj b t (Jm b e X)
def Bpq(r:aA)(X:Rnd):wrL [r] X=Uv r X:=by
 rw[WS];unfold wrL;rw[b1_];rfl
def Yt(h:An b e.D0 e.I0=A):Az b (Af7 e)=A:=by
 have hc:(b.code==0)=A:=by
  unfold An at h;rw[e_]at h;exact h.1
 unfold Az Af7;rw[hc];simp only[l_,d_,h,a4_]
def Am7(h:X.ok b)(he:An b e.D0 e.I0=A):(Jm b e X).ok b:=by
 unfold Jm;cases PB b X.img with
 |true=>exact WN h (Yt he)
 |false=>exact⟨h.img,h.len⟩
def Aqc{b:D}:∀{l:List Entry}{X:Rnd},X.ok b→(∀e∈l,An b e.D0 e.I0=A)→(Lj b l X).ok b
 |[],_,h,_=>h
 |e::t,X,h,hv=>by
  show(Lj b t (Jm b e X)).ok b;exact Aqc (Am7 h (hv e (B_ ..))) λx hx=>hv x (F_ _ hx)
def Ad7(b:D)(e:Entry)(X:Rnd):(Jm b e X).recs.length≤X.recs.length+1:=by
 unfold Jm;cases PB b X.img with
 |true=>show(X.recs++[_]).length≤_;rw[h_,J_];exact w_ _
 |false=>exact Nat.le_succ _
def Ahw(b:D):∀(l:List Entry) (X:Rnd),(Lj b l X).recs.length≤X.recs.length+l.length
 |[],_=>w_ _
 |e::t,X=>by
  have h1:=Ahw b t (Jm b e X);have h2:=Ad7 b e X;show(Lj b t (Jm b e X)).recs.length≤_;rw[y_];omega
def Ahm(c:Int×Int):(Hm c).length≤64:=by
 have h:∀k i:Nat,((List.range' i k).flatMap (Nb c)).length≤2*k:=by
  intro k
  induction k with
  |zero=>intro i;exact w_ _
  |succ k ih=>
   intro i;rw[e3_,a1_,h_]
   have:=ih (i+1)
   have:=Acn c i
   omega
 exact h 32 0
def Ayn{c:Int×Int}(h:e∈Hm c):(0≤e.D0∧e.D0<32)∧(e.I0=1∨e.I0=2)∧BP c e.D0.toNat e.I0=A:=by
 obtain⟨f,h1,h2,h3,h4⟩:=mem_range.1 (c3_.2 ⟨e,h,rfl⟩);simp only[HL]at h2 h3 h4;refine⟨ω,h3,?_⟩
 rw[h2,j_];exact h4
def Ac1(b:D)(m:Img)(press:Int×Int):Int×Int:=Cd (DJ press (Bw b)) (ofC m.A0 (0,0))
def Wk(hb:b.small)(hcode:b.code=0){press old:Int×Int}(h:e∈Hm (Cd (DJ press (Bw b)) old)):An b e.D0 e.I0=A:=by
 obtain⟨h1,h2,h3⟩:=Ayn h;rw[VB _ _ ω,TQ,e_,e_,Wp hb hcode ω h2,f9_ h1.1]at h3
 exact h3.1.2
section
variable{b:D}(hb:b.small)(hcode:b.code=0)
include hb hcode
theorem Ai5{es:List Entry}(hl:es.length≤1000)(hv:∀e∈es,An b e.D0 e.I0=A):∀(k i:Nat) (Y:Rnd),i+k=es.length→Y.ok b→Y.recs.length≤1000+i→BM (λx=>letI d:=x.2.1.2.2.2;letI f:=d.2.2;letI a:=f.2.2.2;letI g:=a.2.2;letI c:=g.2.2.2;letI e:=c.2.2;Bu x.1.2.1 x.1.2.2.1 x.1.2.2.2.1 x.2.1.1 x.2.1.2.1 x.2.1.2.2.1 d.1 d.2.1 f.1 f.2.1 f.2.2.1 a.1 a.2.1 g.1 g.2.1 g.2.2.1 c.1 c.2.1 e.1 e.2.1 e.2.2.1 e.2.2.2.1 e.2.2.2.2.1) (k+1) (((),es,(es.length:Int),(i:Int),()),(Y.tupB b,()))=C ((),((Lj b (es.drop i) Y).tupB b,())):=by
 intro k
 induction k with
 |zero=>
  intro i Y hi _ _;obtain rfl:i=es.length:=ω
  refine Ay ?_;show Bu es (es.length:Int) (es.length:Int) Y.recs Y.img.F0 Y.img.O0 Y.img.K0 Y.img.A0 Y.xs Y.lan.lit Y.lan.gong Y.lan.cl.1 Y.lan.cl.2 Y.ref.1 Y.ref.2 b.C0 b.E0 b.H0 b.M0 b.J0 b.L0 b.N0 b.B0=_;unfold Bu;rw[f_ (L_ (es.length:Int)),b0_];rfl
 |succ k ih=>
  intro i Y hi hY hr;have hi':i<es.length:=ω
  have hv':=hv _ (Cn noE hi');have hcc:=Aj hcode;have he:=Eh hb hY.img;have hlp:=hY.img.lp;rw[Cc noE hi'];refine(Bt (x':=(((),es,(es.length:Int),((i+1:Nat):Int),()),((Jm b (es.getD i noE) Y).tupB b,()))) ?_).trans (ih (i+1) _ ω (Am7 hY hv') (by have:=Ad7 b (es.getD i noE) Y;omega))
  show Bu es (es.length:Int) (i:Int) Y.recs Y.img.F0 Y.img.O0 Y.img.K0 Y.img.A0 Y.xs Y.lan.lit Y.lan.gong Y.lan.cl.1 Y.lan.cl.2 Y.ref.1 Y.ref.2 b.C0 b.E0 b.H0 b.M0 b.J0 b.L0 b.N0 b.B0=_;unfold Bu Jm;rw[show Entry.mk 0 0 0 0 B=noE from rfl,ZL hb Y.img ω ω ω]
  simp only[b_ (ω:(i:Int)<(es.length:Int)),Aa (ω:(0:Int)≤(i:Int)) (ω:(i:Int)<(es.length:Int)),d_,j_,a_,DA hi' (show es.length≤AJ by unfold AJ;omega)]
  cases PB b Y.img with
  |true=>
   have hw:=Abp hb hcode hY (l:=[Af7 (es.getD i noE)]) (by show 1≤100000;omega) (by
    intro r hr;rw[E_.1 hr];exact Yt hv') ω
   rw[Bpq]at hw;unfold Af7 at hw;simp only[d_,hw,a_];rfl
  |false=>
   have hu:=Gp Y.ref (JO (es.getD i noE).D0 (es.getD i noE).I0);simp only[c_,JL,a_,hu];rfl
theorem Aow(press old:Int×Int)(hX:X.ok b)(hr:X.recs.length≤1000):CT press.1 press.2 old.1 old.2 X.recs X.img.F0 X.img.O0 X.img.K0 X.img.A0 X.xs X.lan.lit X.lan.gong X.lan.cl.1 X.lan.cl.2 X.ref.1 X.ref.2 b.C0 b.E0 b.H0 b.M0 b.J0 b.L0 b.N0 b.B0=C ((),((Lj b (Hm (Cd (DJ press (Bw b)) old)) X).tupB b,())):=by
 have hl:=Ahm (Cd (DJ press (Bw b)) old);have h:=Ai5 hb hcode (es:=Hm (Cd (DJ press (Bw b)) old)) ω (λe he=>Wk hb hcode he) _ 0 X (p_ _) hX ω
 rw[R_]at h;have h':CF (((),Hm (Cd (DJ press (Bw b)) old),((Hm (Cd (DJ press (Bw b)) old)).length:Int),(0:Int),()),(X.tupB b,()))=_:=Ai h ω
 unfold CT;rw[Kw hb hcode];simp only[a_];rw[KT press (Bw b)];simp only[a_];rw[PV (DJ press (Bw b)) old];simp only[a_];rw[WW];simp only[a_];unfold Rnd.tupB at h';rw[h'];rfl
end
def Aim(n:Int):GJ n=C ((!inR 0 1000000 n,()),()):=by
 unfold GJ inR;by_cases g:n<0
 ·rw[b_ g,f_ (ω:¬0≤n)];rfl
 ·rw[f_ g,b_ (ω:0≤n)]
  by_cases g':1000000<n
  ·rw[b_ g',f_ (ω:¬n≤1000000)];rfl
  ·rw[f_ g',b_ (ω:n≤1000000)];rfl
def Akt(hl:xs.length≤maxLen):Bj xs=C ((!Pp xs,()),()):=by
 have hm:maxLen≤9223372036854775807:=by decide
 have key:∀(k i:Nat),i+k=xs.length→∃y,BM (λx=>AG x.1.1 x.1.2.2.1 x.1.2.2.2.1) (k+1) ((xs,(),(xs.length:Int),(i:Int),()),())=C y∧(match y with | .inl _=>(xs.drop i).all (inR 0 1000000)=A | .inr z=>0≤z.1.1∧(xs.drop i).all (inR 0 1000000)=B):=by
  intro k
  induction k with
  |zero=>
   intro i hi;refine⟨.inl ((),()),Ay ?_,?_⟩
   ·show AG xs (xs.length:Int) (i:Int)=_
    unfold AG;rw[show decide ((i:Int)<(xs.length:Int))=B by simp;omega];rfl
   ·rw[show i=xs.length by omega,b0_];rfl
  |succ k ih=>
   intro i hi;have hi':i<xs.length:=ω
   have hs:AG xs (xs.length:Int) (i:Int)=C (bif inR 0 1000000 (xs.getD i 0)then .inl ((xs,(),(xs.length:Int),((i+1:Nat):Int),()),())else .inr (.inr (((i:Int),()),()))):=by
    unfold AG;have w:aG.wrap ((i:Int)+1)=((i+1:Nat):Int):=by rw[Ac ω ω];omega
    rw[show decide ((i:Int)<(xs.length:Int))=A by simp;omega,Aa ω ω,Aim,w]
    simp only[d_,j_,a_];cases inR 0 1000000 (xs.getD i 0)<;>rfl
   rw[Cc (0:Int) hi',X_];cases hq:inR 0 1000000 (xs.getD i 0)with
   |true=>
    rw[hq]at hs;obtain⟨y,h1,h2⟩:=ih (i+1) ω
    exact⟨y,(Bt hs).trans h1,by rw[n_];exact h2⟩
   |false=>
    rw[hq]at hs;exact⟨_,Ay hs,by show(0:Int)≤(i:Int)∧_;exact⟨ω,rfl⟩⟩
 obtain⟨y,h1,h2⟩:=key xs.length 0 ω
 have h1':Bm ((xs,(),(xs.length:Int),(0:Int),()),())=C y:=Ai h1 ω
 rw[R_]at h2;unfold Bj Cf Pp;rw[h1'];cases y with
 |inl z=>simp only at h2;rw[h2];rfl
 |inr z=>
  simp only at h2;rw[h2.2];simp only[a_];rw[b_ h2.1];rfl
def VT(m:Img)(hl:xs.length≤maxLen):HS m.F0 m.O0 m.K0 m.A0 xs=C (((((xs.length:Int)==(m.A0.length:Int))&&Pp xs),()),()):=by
 unfold HS;rw[Akt hl];cases((xs.length:Int)==(m.A0.length:Int))with
 |false=>rfl
 |true=>simp only[d_,a_,n_,Bool.not_not]
def CL{α:Type}(l:List α)(h:l.length≤100000):Pl l=C ((l,()),()):=by
 unfold Pl;rw[Ax (ω:l.length≤2147483648)];rfl
def Bfw(n:Nat):Lan:=⟨aF n noP,aF n B,(0,0)⟩
def Co(b:D)(m:Img)(xs:List Int)(vs:List View)(ps:List Calls)(press:Int×Int)(good:Bool):Rnd:=
 bif good then Lj b (Hm (Ac1 b m press)) (wrL (Ia b vs m.A0) ⟨[],m,xs,Hg b vs ps,(0,0)⟩)else⟨[],m,xs,Bfw vs.length,(0,0)⟩
noncomputable def Zj(b:D)(m:Img)(xs:List Int)(vs:List View)(ps:List Calls)(press:Int×Int)(good:Bool):List aA×List Int×Int×Unit:=NF b (Co b m xs vs ps press good).img (Co b m xs vs ps press good).xs vs
noncomputable def ML(b:D)(m:Img)(xs:List Int)(vs:List View)(ps:List Calls)(press:Int×Int)(good:Bool):Rnd:={ wrL (Zj b m xs vs ps press good).1 (Co b m xs vs ps press good)with xs:=(Zj b m xs vs ps press good).2.1 }
def QK(hcode:b.code=0)(vs:List View):∀{l:List Entry},(∀e∈l,An b e.D0 e.I0=A)→∀r∈Ia b vs l,Az b r=A∧r.S0=2:=λh r hr=>by
 obtain⟨e,he,hr⟩:=d0_.1 hr;have hc:=h e he;cases hs:Ut b vs e.D0 e.I0 with
 |false=>rw[hs]at hr;cases hr
 |true=>
  rw[hs]at hr;rw[E_.1 hr];refine⟨?_,rfl⟩;unfold Az;rw[hcode];simp only[show((2:Int)==1)=B from rfl,c_,l_,d_,hc,a4_]
def Aoj(hcode:b.code=0){vs:List View}(hm:ImgOK b m)(xs:List Int):∀r∈(NF b m xs vs).1,Az b r=A:=by
 have hcc:=Aj hcode;unfold NF;rw[Img.ok_iff.2 hm];cases hq:((xs.length:Int)==(m.A0.length:Int))with
 |false=>exact λr hr=>by cases hr
 |true=>
  cases hv:((vs.length:Int)==(b.B0.length:Int))with
  |false=>exact λr hr=>by cases hr
  |true=>
   cases Pp xs with
   |false=>exact λr hr=>by cases hr
   |true=>
    have h1:(xs.length:Int)=(m.A0.length:Int):=by simpa using hq
    have h2:(vs.length:Int)=(b.B0.length:Int):=by simpa using hv
    exact(So (b:=b) ω h2 m.A0 xs [] m ω hm rfl).2.1
section
variable{b:D}(hb:b.small)(hcode:b.code=0){m:Img}(hm:ImgOK b m){xs:List Int}(hx:xs.length=m.A0.length){vs:List View}(ps:List Calls)(press:Int×Int)(good:Bool)
include hb hcode hm hx
theorem Anb:(Co b m xs vs ps press good).ok b∧(Co b m xs vs ps press good).recs.length≤100:=by
 have he:=Eh hb hm;have hX:∀L:Lan,Rnd.ok b ⟨[],m,xs,L,(0,0)⟩:=λL=>⟨hm,hx⟩
 unfold Co;cases good with
 |false=>exact⟨hX _,a3_ _⟩
 |true=>
  have hv:=QK hcode vs (l:=m.A0) λe he=>(EA.1 (hm.en e he)).1
  refine⟨Aqc (Ang (hX _) λr hr=>(hv r hr).1) λe he=>Wk hb hcode he,?_⟩
  have h1:=Ahw b (Hm (Ac1 b m press)) (wrL (Ia b vs m.A0) ⟨[],m,xs,Hg b vs ps,(0,0)⟩);have h2:=Ahm (Ac1 b m press);have h3:=Yy b vs m.A0;have h4:(wrL (Ia b vs m.A0) ⟨[],m,xs,Hg b vs ps,(0,0)⟩).recs.length=(Ia b vs m.A0).length:=rfl;show(Lj b (Hm (Ac1 b m press)) (wrL (Ia b vs m.A0) ⟨[],m,xs,Hg b vs ps,(0,0)⟩)).recs.length≤100;omega
theorem Aam(hexp:Pp xs=A)(hv:okViews vs)(hvl:vs.length=b.B0.length)(hp:ps.length=b.B0.length):Ln b.C0 b.E0 b.H0 b.M0 b.J0 b.L0 b.N0 b.B0 m.F0 m.O0 m.K0 m.A0 xs vs ps press.1 press.2 good=C (((),0,()),((ML b m xs vs ps press good).tup,())):=by
 have hcc:=Aj hcode;have he:=Eh hb hm;have hlp:=hm.lp;have hlf:=hm.lf;have hll:=hm.ll;have hmx:100000≤maxLen:=by decide
 have hX:∀L:Lan,Rnd.ok b ⟨[],m,xs,L,(0,0)⟩:=λL=>⟨hm,hx⟩
 obtain⟨hok,hrl⟩:=Anb hb hcode hm hx (vs:=vs) ps press good;have hlight:=Aa3 hb hcode vs ps ω
 unfold Ade at hlight;rw[show((vs.length:Int)==(b.B0.length:Int))=A by rw[hvl];exact l_ _,show((ps.length:Int)==(b.B0.length:Int))=A by rw[hp];exact l_ _]at hlight
 simp only[a4_,d_]at hlight;have hXl:=Eh hb hok.img;have hXp:=hok.img.lp;have hXx:=hok.len;have hplan:=Aeo hb hv ω (Co b m xs vs ps press good).img ω ω (Co b m xs vs ps press good).xs ω
 have hpl:=(Ay2 b (Co b m xs vs ps press good).img (Co b m xs vs ps press good).xs vs).1;have hwr:=Abp hb hcode hok (l:=(NF b (Co b m xs vs ps press good).img (Co b m xs vs ps press good).xs vs).1) ω (Aoj hcode hok.img _) ω
 unfold Ln;rw[hlight];simp only[a_,Q_,c_,Lan.tup];rw[CM hb m ω ω,Img.ok_iff.2 hm]
 simp only[a_,o_,c_];rw[VT m ω,show((xs.length:Int)==(m.A0.length:Int))=A by rw[hx];exact l_ _,hexp]
 unfold MM BF Bd Bl Om;rw[CL m.F0 ω,CL m.O0 ω,CL m.K0 ω,CL m.A0 ω,CL xs ω]
 simp only[a_,a4_,o_,c_,b_ (ω:(0:Int)≤(vs.length:Int)),b_ (d7_ (vs.length:Int)),b_ (ω:(vs.length:Int)≤2147483648),d_,j_]
 cases good with
 |false=>
  simp only[c_,a_];rw[show Ie b.C0 b.E0 b.H0 b.M0 b.J0 b.L0 b.N0 b.B0 m.F0 m.O0 m.K0 m.A0 xs vs=_ from hplan]
  simp only[a_];rw[show Bx (NF b (Co b m xs vs ps press B).img (Co b m xs vs ps press B).xs vs).1 [] m.F0 m.O0 m.K0 m.A0 xs (aF vs.length (Calls.mk 0 0)) (aF vs.length B) 0 0 0 0 b.C0 b.E0 b.H0 b.M0 b.J0 b.L0 b.N0 b.B0=_ from hwr]
  rfl
 |true=>
  have hsv:=QK hcode vs (l:=m.A0) λe he=>(EA.1 (hm.en e he)).1
  have hsl:=Yy b vs m.A0;have hw1:=Abp hb hcode (hX (Hg b vs ps)) (l:=Ia b vs m.A0) ω (λr hr=>(hsv r hr).1) (a3_ _)
  have hrg:=Aow hb hcode press (ofC m.A0 (0,0)) (X:=wrL (Ia b vs m.A0) ⟨[],m,xs,Hg b vs ps,(0,0)⟩) (Ang (hX _) λr hr=>(hsv r hr).1) (by show([]++Ia b vs m.A0).length≤_;rw[a0_];omega)
  unfold GK;simp only[d_];rw[Aa4 hb hcode hm ω vs ω]
  simp only[a_];simp only at hw1;rw[hw1];simp only[a_,ZG (ω:m.A0.length≤100000),Rnd.tupB]
  rw[hrg];simp only[a_,Rnd.tupB];rw[show Ie b.C0 b.E0 b.H0 b.M0 b.J0 b.L0 b.N0 b.B0 (Lj b (Hm (Cd (DJ press (Bw b)) (ofC m.A0 (0,0)))) (wrL (Ia b vs m.A0) ⟨[],m,xs,Hg b vs ps,(0,0)⟩)).img.F0 (Lj b (Hm (Cd (DJ press (Bw b)) (ofC m.A0 (0,0)))) (wrL (Ia b vs m.A0) ⟨[],m,xs,Hg b vs ps,(0,0)⟩)).img.O0 (Lj b (Hm (Cd (DJ press (Bw b)) (ofC m.A0 (0,0)))) (wrL (Ia b vs m.A0) ⟨[],m,xs,Hg b vs ps,(0,0)⟩)).img.K0 (Lj b (Hm (Cd (DJ press (Bw b)) (ofC m.A0 (0,0)))) (wrL (Ia b vs m.A0) ⟨[],m,xs,Hg b vs ps,(0,0)⟩)).img.A0 (Lj b (Hm (Cd (DJ press (Bw b)) (ofC m.A0 (0,0)))) (wrL (Ia b vs m.A0) ⟨[],m,xs,Hg b vs ps,(0,0)⟩)).xs vs=_ from hplan]
  simp only[a_];refine Eq.trans (b9_ (λo=>Option.bind o _) (show _=C ((),((wrL (NF b (Co b m xs vs ps press A).img (Co b m xs vs ps press A).xs vs).1 (Co b m xs vs ps press A)).tupB b,()))from hwr)) ?_
  rfl
end
structure Pk where
 m:Mch
 budget:Int
 e:Int
 legacy:List Bool
 shows:List Calls
 reset:List Bool
 out:Outputs
def Pk.ap{α:Type}(f:Int→Int→Int→Int→Nat→Nat→Nat→List Car→List Int→List Bool→List Bool→List Entry→ByteArray→ByteArray→Int→List aC→List Belief→List NewCar→List Loaded→List Int→List Calls→Int→Int→Int→Int→Int→Int→Int→List CarInput→Bool→Int→Int→List Bool→List Calls→List Bool→Int→Int→Int→Int→Bool→Bool→Int→List CarOutput→α)(b:D)(x:Inp)(g:Bool)(t:Pk):α:=
 f b.C0 b.E0 b.H0 b.M0 b.J0 b.L0 b.N0 b.B0 t.m.G0.F0 t.m.G0.O0 t.m.G0.K0 t.m.G0.A0 t.m.X0.h0 t.m.X0.h1 t.m.X0.sel t.m.N1 t.m.W0 t.m.B0 t.m.L2 t.m.D2 t.m.U3 t.m.L3 t.m.N2 t.m.G2 x.press.1 x.press.2 x.kind x.car x.cars g t.budget t.e t.legacy t.shows t.reset t.out.T5 t.out.R5 t.out.R3 t.out.E3 t.out.V5 t.out.L0 t.out.U5 t.out.B0
def Pk.tup(b:D)(x:Inp)(g:Bool)(t:Pk):=(b.C0,b.E0,b.H0,b.M0,b.J0,b.L0,b.N0,b.B0,t.m.G0.F0,t.m.G0.O0,t.m.G0.K0,t.m.G0.A0,t.m.X0.h0,t.m.X0.h1,t.m.X0.sel,t.m.N1,t.m.W0,t.m.B0,t.m.L2,t.m.D2,t.m.U3,t.m.L3,t.m.N2,t.m.G2,x.press.1,x.press.2,x.kind,x.car,x.cars,g,t.budget,t.e,t.legacy,t.shows,t.reset,t.out.T5,t.out.R5,t.out.R3,t.out.E3,t.out.V5,t.out.L0,t.out.U5,t.out.B0,())
def Pk.wr(t:Pk)(im:Img)(s:Sto)(bu e:Int):Pk:={ t with m:={ t.m with G0:=im,X0:=s },budget:=bu,e:=e }
def goodL(b:D):Img→List aA→Prop
 |_,[]=>True
 |m,r::l=>Az b r=A∧Ji b m r=B∧goodL b (Ao m r) l
def goodL.app:∀{l:List aA}{m:Img}{k:List aA},goodL b m l→goodL b (Ak m l) k→goodL b m (l++k)
 |[],_,_,_,h=>h
 |_::_,_,_,⟨h1,h2,h3⟩,h=>⟨h1,h2,h3.app h⟩
def Wn{b:D}:∀{l:List aA}(m:Img),(∀r∈l,Az b r=A∧r.S0≠1)→goodL b m l
 |[],_,_=>trivial
 |r::l,m,h=>by
  have h1:=h r (B_ ..);refine⟨h1.1,?_,Wn _ λx hx=>h x (F_ _ hx)⟩
  unfold Ji;rw[Ar h1.2];rfl
def goodL.drop:∀{l:List aA}{m:Img},goodL b m l→∀i,i<l.length→Az b (l.getD i ⟨0,0,0,0,0⟩)=A∧Ji b (Ak m (l.take i)) (l.getD i ⟨0,0,0,0,0⟩)=B
 |[],_,_,_,h=>absurd h (Nat.not_lt_zero _)
 |_::_,_,⟨h1,h2,_⟩,0,_=>⟨h1,h2⟩
 |_::_,_,⟨_,_,h3⟩,i+1,h=>h3.drop i (by rw[y_]at h;omega)
def Anm{i:Nat}(h:i<l.length):Ak m (l.take (i+1))=Ao (Ak m (l.take i)) (l.getD i ⟨0,0,0,0,0⟩):=by
 rw[List.take_succ,EI,i_ h,k_,i_ h];rfl
def Wr(b:D)(t:Pk)(l:List aA)(t':Pk):Prop:=∃im s bu e,t'=t.wr im s bu e∧((e=0∧im=Ak t.m.G0 l∧Jst b s im∧t.budget-b.H0*(l.length:Int)≤bu∧0≤bu∧bu≤t.budget)∨(e=8∧t.budget<b.H0*(l.length:Int)∧s.ok b.H0∧∃k,k<l.length∧Cw b s=Ak t.m.G0 (l.take k)))
section
variable{b:D}(hb:b.small){x:Inp}{g:Bool}
include hb
theorem Bhf{s:Sto}(hj:Jst b s m){r:aA}(hv:Az b r=A)(hf:Ji b m r=B):6≤Ui b s m r∧Ui b s m r≤b.H0:=by
 have h1:=Ag3 hj hv hf;have h2:=hj.fits;have h3:=Aj hj.img.code;unfold Ui;split<;>omega
theorem Zl{t:Pk}(hj:Jst b t.m.X0 t.m.G0)(h0:0≤t.budget∧t.budget<9223372036854775808)(he:t.e=0)(hl:goodL b t.m.G0 l)(hn:l.length≤100000):Sat (t.ap (AW l) b x g) λy=>∃t',(y=.inl ((),(t'.tup b x g,()))∨y=.inr ((),(t'.tup b x g,())))∧Wr b t l t':=by
 have hcc:=Aj hj.img.code;have hroom:0≤b.H0:=by have:=hj.fits;omega
 unfold Pk.ap AW;refine aE (Q:=λy=>∃t',(y=.inl ((),(t'.tup b x g,()))∨y=.inr ((),(t'.tup b x g,())))∧Wr b t l t') ?_ λy hy=>?_
 ·unfold Dg
  refine Sat.loop (λ(k:Nat) z=>∃(i:Nat) (t':Pk),z=(((),l,(l.length:Int),(i:Int),()),(t'.tup b x g,()))∧i+k=l.length∧Wr b t (l.take i) t') (λk z hz=>?_) l.length ⟨0,t,rfl,p_ _,t.m.G0,t.m.X0,t.budget,t.e,rfl,.inl ⟨he,rfl,hj,by simp,h0.1,d7_ _⟩⟩ ω
  obtain⟨i,t',rfl,hk,im,s,bu,e,rfl,hw⟩:=hz;show Sat (Pk.ap (Fc l (l.length:Int) (i:Int)) b x g (t.wr im s bu e)) _;unfold Pk.ap Fc;refine Sat.bic (λq=>?_) λq=>aB ⟨t.wr im s bu e,.inl rfl,im,s,bu,e,rfl,?_⟩
  ·have q:(i:Int)<(l.length:Int):=m_ q
   have hi:i<l.length:=ω
   have hlt:(l.take i).length=i:=by rw[v_];omega
   have hlt1:(l.take (i+1)).length=i+1:=by rw[v_];omega
   have hm:b.H0*((i+1:Nat):Int)≤b.H0*(l.length:Int):=Int.mul_le_mul_of_nonneg_left ω hroom
   have hm2:b.H0*((i+1:Nat):Int)=b.H0*(i:Int)+b.H0:=by rw[Int.natCast_add,Int.mul_add];simp
   refine aD (Aa ω q) ?_
   rcases hw with⟨he,him,hj',hb1,hb2,hb3⟩ | ⟨he,hb1,hs,k',hk',hr⟩
   ·subst he him
    obtain⟨hv,hf⟩:=hl.drop i hi;have hent:=Eh hb hj'.img;have hp:=hj'.img.lp;refine Sat.bifF (show((0:Int) !=0)=B from rfl) (Sat.bindE (Ain hb ω s (m:=Ak t.m.G0 (l.take i)) ω ω (l.getD i ⟨0,0,0,0,0⟩) (bud:=bu) ω) ?_)
    have w:=CH (n:=i) ω
    have hnd:=Bhf hb hj' hv hf;rcases Aw7 hb hj' hv hf hb2 with⟨c1,s',c2,c3⟩ | ⟨c1,s',c2,c3,c4⟩
    ·rw[c2]
     refine aB ⟨k-1,ω,i+1,t.wr (Ao (Ak t.m.G0 (l.take i)) (l.getD i ⟨0,0,0,0,0⟩)) s' (bu-Ui b s (Ak t.m.G0 (l.take i)) (l.getD i ⟨0,0,0,0,0⟩)) 0,by first | (rw[← w];rfl) | rw[← w],ω,_,s',_,0,rfl,.inl ⟨rfl,(Anm hi).symm,c3,?_,ω,ω⟩⟩
     rw[hlt1];rw[hlt]at hb1;omega
    ·rw[c2]
     refine aB ⟨k-1,ω,i+1,t.wr (Ak t.m.G0 (l.take i)) s' 0 8,by first | (rw[← w];rfl) | rw[← w],ω,_,s',0,8,rfl,.inr ⟨rfl,?_,c3,i,ω,?_⟩⟩
     ·rw[hlt1]
      rw[hlt]at hb1;omega
     ·rw[c4,List.take_take,c8_ ω]
   ·subst he
    refine aD (show((8:Int) !=0)=A from rfl) (aB ⟨t.wr im s bu 8,.inr rfl,im,s,bu,8,rfl,.inr ⟨rfl,?_,hs,k',ω,?_⟩⟩)
    ·rw[hlt]at hb1
     omega
    ·rw[hr,List.take_take,c8_ ω]
  ·have q:¬(i:Int)<(l.length:Int):=G_ q
   rw[a8_ ω]at hw
   exact hw
 ·obtain⟨t',h1 | h1,h2⟩:=hy
  ·subst h1;exact aB ⟨t',.inr rfl,h2⟩
  ·subst h1;exact aB ⟨t',.inl rfl,h2⟩
end
end Go.Ovl
namespace Go.Ovl
open Go Go.Ab
variable{n:Int}{i:Nat}{z:aC}{L:List Int}
structure Contacts where
 C0:Int
 Up:Bool
 T3:Bool
 Q5:Bool
 X3:Bool
def Contacts.get(c:Contacts)(i:Int):Bool:=
 if i=32 then c.Up else if i=33 then c.T3 else if i=34 then c.Q5 else if i=35 then c.X3 else decide (0≤i∧i<32)&&CK c.C0 i.toNat
def Contacts.set(c:Contacts)(i:Int)(on:Bool):Contacts:=
 if i=32 then { c with Up:=on }else if i=33 then { c with T3:=on }else if i=34 then { c with Q5:=on }else if i=35 then { c with X3:=on }
 else if 0≤i∧i<32 then { c with C0:=WL c.C0 i.toNat on }else c
def Contacts.wf(c:Contacts):Prop:=0≤c.C0∧c.C0<4294967296
def Contacts.tup(c:Contacts):Int×Bool×Bool×Bool×Bool×Unit:=(c.C0,c.Up,c.T3,c.Q5,c.X3,())
def Contacts.set_wf{c:Contacts}(h:c.wf)(i:Int)(on:Bool):(c.set i on).wf:=by
 unfold Contacts.set
 repeat(split;exact h)
 split
 ·exact Ats _ _ _
 ·exact h
def Contacts.ext'{c d:Contacts}(hc:c.wf)(hd:d.wf)(h:∀j:Int,0≤j→j<36→c.get j=d.get j):c=d:=by
 have hF:c.C0=d.C0:=by
  refine Aes hc hd λi hi=>?_
  have:=h (i:Int) ω ω
  unfold Contacts.get at this;rw[if_neg ω,if_neg ω,if_neg ω,if_neg ω,if_neg ω,if_neg ω,if_neg ω,if_neg ω]at this
  simpa[show(0≤(i:Int)∧(i:Int)<32)from⟨ω,ω⟩,hi]using this
 have h32:=h 32 ω ω
 have h33:=h 33 ω ω
 have h34:=h 34 ω ω
 have h35:=h 35 ω ω
 simp[Contacts.get]at h32 h33 h34 h35;cases c;cases d
 simp_all
def As9{i:Int}(h:0≤i)(h2:i<32):i.toNat<32:=ω
def SN(c:Contacts)(hc:c.wf)(i:Int):KJ c.C0 c.Up c.T3 c.Q5 c.X3 i=C ((c.get i,()),()):=by
 unfold KJ Contacts.get;by_cases h32:i=32
 ·simp[h32]
 by_cases h33:i=33
 ·simp[h33]
 by_cases h34:i=34
 ·simp[h34]
 by_cases h35:i=35
 ·simp[h35]
 simp only[h32,h33,h34,h35,e9_,Ar h32,Ar h33,Ar h34,Ar h35,c_];by_cases h0:0≤i
 ·by_cases h1:i<32
  ·simp only[JU]
   rw[Ban hc (As9 h0 h1)];simp[h0,h1]
  ·simp[h0,h1]
 ·simp[h0]
def ZU(c:Contacts)(i:Int)(on:Bool):Nf c.C0 c.Up c.T3 c.Q5 c.X3 i on=C (((),()),((c.set i on).tup,())):=by
 unfold Nf Contacts.set;by_cases h32:i=32
 ·simp[h32,Contacts.tup]
 by_cases h33:i=33
 ·simp[h33,Contacts.tup]
 by_cases h34:i=34
 ·simp[h34,Contacts.tup]
 by_cases h35:i=35
 ·simp[h35,Contacts.tup]
 simp only[h32,h33,h34,h35,e9_,Ar h32,Ar h33,Ar h34,Ar h35,c_];by_cases h0:0≤i
 ·have e0:decide (0≤i)=A:=by simpa using h0
  by_cases h1:i<32
  ·have e1:decide (i<32)=A:=by simpa using h1
   simp only[e0,e1,d_,a_,JU];rw[Aw5 _ (As9 h0 h1),Bpb _ (As9 h0 h1),Azh,if_pos ⟨h0,h1⟩];cases on<;>rfl
  ·have e1:decide (i<32)=B:=by simpa using h1
   simp only[e0,e1,d_,c_,a_];rw[if_neg ω];rfl
 ·have e0:decide (0≤i)=B:=by simpa using h0
  simp only[e0,c_,a_];rw[if_neg ω];rfl
structure Deb where
 c:Contacts
 k:List Int
def Deb.no:Deb:=⟨⟨0,B,B,B,B⟩,aF 36 0⟩
def Deb.tup(s:Deb):Int×Bool×Bool×Bool×Bool×Int×Int×Int×Int×Int×Int×Int×Int×Int×Int×Int×Int×Int×Int×Int×Int×Int×Int×Int×Int×Int×Int×Int×Int×Int×Int×Int×Int×Int×Int×Int×Int×Int×Int×Int×Int×Unit:=(s.c.C0,s.c.Up,s.c.T3,s.c.Q5,s.c.X3,s.k.getD 0 0,s.k.getD 1 0,s.k.getD 2 0,s.k.getD 3 0,s.k.getD 4 0,s.k.getD 5 0,s.k.getD 6 0,s.k.getD 7 0,s.k.getD 8 0,s.k.getD 9 0,s.k.getD 10 0,s.k.getD 11 0,s.k.getD 12 0,s.k.getD 13 0,s.k.getD 14 0,s.k.getD 15 0,s.k.getD 16 0,s.k.getD 17 0,s.k.getD 18 0,s.k.getD 19 0,s.k.getD 20 0,s.k.getD 21 0,s.k.getD 22 0,s.k.getD 23 0,s.k.getD 24 0,s.k.getD 25 0,s.k.getD 26 0,s.k.getD 27 0,s.k.getD 28 0,s.k.getD 29 0,s.k.getD 30 0,s.k.getD 31 0,s.k.getD 32 0,s.k.getD 33 0,s.k.getD 34 0,s.k.getD 35 0,())
def Deb.cnt(s:Deb):Int×Int×Int×Int×Int×Int×Int×Int×Int×Int×Int×Int×Int×Int×Int×Int×Int×Int×Int×Int×Int×Int×Int×Int×Int×Int×Int×Int×Int×Int×Int×Int×Int×Int×Int×Int×Unit:=(s.k.getD 0 0,s.k.getD 1 0,s.k.getD 2 0,s.k.getD 3 0,s.k.getD 4 0,s.k.getD 5 0,s.k.getD 6 0,s.k.getD 7 0,s.k.getD 8 0,s.k.getD 9 0,s.k.getD 10 0,s.k.getD 11 0,s.k.getD 12 0,s.k.getD 13 0,s.k.getD 14 0,s.k.getD 15 0,s.k.getD 16 0,s.k.getD 17 0,s.k.getD 18 0,s.k.getD 19 0,s.k.getD 20 0,s.k.getD 21 0,s.k.getD 22 0,s.k.getD 23 0,s.k.getD 24 0,s.k.getD 25 0,s.k.getD 26 0,s.k.getD 27 0,s.k.getD 28 0,s.k.getD 29 0,s.k.getD 30 0,s.k.getD 31 0,s.k.getD 32 0,s.k.getD 33 0,s.k.getD 34 0,s.k.getD 35 0,())
def Deb.at(n:Int)(r:Contacts)(i:Nat)(s:Deb):Deb:=
 if r.get i=s.c.get i then⟨s.c,s.k.set i 0⟩else if s.k.getD i 0+1=n then⟨s.c.set i (r.get i),s.k.set i 0⟩else⟨s.c,s.k.set i (s.k.getD i 0+1)⟩
def Deb.step(n:Int)(s:Deb)(r:Contacts):Deb:=AO (Deb.at n r) 36 0 s
structure Deb.wf(s:Deb):Prop where
 c:s.c.wf
 len:s.k.length=36
 lo:∀j,j<36→0≤s.k.getD j 0
 hi:∀j,j<36→s.k.getD j 0<1000
def Deb.is(n:Int)(s:Deb):Prop:=1≤n∧n≤16∧∀j,j<36→0≤s.k.getD j 0∧s.k.getD j 0<n
def Vh(h:L.length=36):[L.getD 0 0,L.getD 1 0,L.getD 2 0,L.getD 3 0,L.getD 4 0,L.getD 5 0,L.getD 6 0,L.getD 7 0,L.getD 8 0,L.getD 9 0,L.getD 10 0,L.getD 11 0,L.getD 12 0,L.getD 13 0,L.getD 14 0,L.getD 15 0,L.getD 16 0,L.getD 17 0,L.getD 18 0,L.getD 19 0,L.getD 20 0,L.getD 21 0,L.getD 22 0,L.getD 23 0,L.getD 24 0,L.getD 25 0,L.getD 26 0,L.getD 27 0,L.getD 28 0,L.getD 29 0,L.getD 30 0,L.getD 31 0,L.getD 32 0,L.getD 33 0,L.getD 34 0,L.getD 35 0]=L:=by
 have e:[L.getD 0 0,L.getD 1 0,L.getD 2 0,L.getD 3 0,L.getD 4 0,L.getD 5 0,L.getD 6 0,L.getD 7 0,L.getD 8 0,L.getD 9 0,L.getD 10 0,L.getD 11 0,L.getD 12 0,L.getD 13 0,L.getD 14 0,L.getD 15 0,L.getD 16 0,L.getD 17 0,L.getD 18 0,L.getD 19 0,L.getD 20 0,L.getD 21 0,L.getD 22 0,L.getD 23 0,L.getD 24 0,L.getD 25 0,L.getD 26 0,L.getD 27 0,L.getD 28 0,L.getD 29 0,L.getD 30 0,L.getD 31 0,L.getD 32 0,L.getD 33 0,L.getD 34 0,L.getD 35 0]=(List.range 36).map (λq=>L.getD q 0):=rfl
 rw[e];apply List.ext_getElem
 ·simp[h]
 ·intro j h1 h2
  simp[h2]
def Aat(h:i<L.length)(q:Nat)(v:Int):(bif Nat.beq i q then v else L.getD q 0)=(L.set i v).getD q 0:=by
 rw[BK];by_cases e:i=q
 ·subst e;simp[h]
 ·simp[e]
def Aq4{s:Deb}(h:s.wf)(hs:s.is n){r:Contacts}(hi:i<36):(s.at n r i).wf∧(s.at n r i).is n:=by
 have hset:∀(v:Int) (j:Nat),(s.k.set i v).getD j 0=if j=i then v else s.k.getD j 0:=by
  intro v j;rw[← Aat (by rw[h.len];exact hi),BK]
  by_cases e:i=j
  ·simp[e]
  ·simp[e,f0_ e]
 have hn:=hs.1;have hn2:=hs.2.1
 have key:∀v:Int,0≤v→v<n→∀j,j<36→0≤(s.k.set i v).getD j 0∧(s.k.set i v).getD j 0<n:=by
  intro v h1 h2 j hj;rw[hset];by_cases e:j=i
  ·rw[if_pos e];exact⟨h1,h2⟩
  ·rw[if_neg e];exact hs.2.2 j hj
 have fin:∀(c:Contacts) (v:Int),c.wf→0≤v→v<n→Deb.wf ⟨c,s.k.set i v⟩∧Deb.is n ⟨c,s.k.set i v⟩:=by
  intro c v hc h1 h2;have hk:=key v h1 h2;exact⟨⟨hc,by simp[h.len],λj hj=>(hk j hj).1,λj hj=>by have:=(hk j hj).2;simp only at this⊢;omega⟩,hn,hn2,hk⟩
 have hki:=hs.2.2 i hi;unfold Deb.at;split
 ·exact fin _ _ h.c ω ω
 ·split
  ·exact fin _ _ (Contacts.set_wf h.c _ _) ω ω
  ·exact fin _ _ h.c ω ω
def Ag4{n:Int}{r:Contacts}:∀(m i:Nat) (s:Deb),i+m≤36→s.wf→s.is n→(AO (Deb.at n r) m i s).wf∧(AO (Deb.at n r) m i s).is n
 |0,_,_,_,h,hs=>⟨h,hs⟩
 |m+1,i,s,hi,h,hs=>Ag4 m (i+1) (s.at n r i) ω (Aq4 h hs ω).1 (Aq4 h hs ω).2
def Bhp{s:Deb}(h:s.wf)(hs:s.is n)(r:Contacts):(s.step n r).wf∧(s.step n r).is n:=Ag4 36 0 s ω h hs
def Aii{s:Deb}(h:s.wf)(hs:s.is n){r:Contacts}(hr:r.wf)(b:Deb)(hi:i<36):
  HK n (i:Int) s.c.C0 s.c.Up s.c.T3 s.c.Q5 s.c.X3 (s.k.getD 0 0) (s.k.getD 1 0) (s.k.getD 2 0) (s.k.getD 3 0) (s.k.getD 4 0) (s.k.getD 5 0) (s.k.getD 6 0) (s.k.getD 7 0) (s.k.getD 8 0) (s.k.getD 9 0) (s.k.getD 10 0) (s.k.getD 11 0) (s.k.getD 12 0) (s.k.getD 13 0) (s.k.getD 14 0) (s.k.getD 15 0) (s.k.getD 16 0) (s.k.getD 17 0) (s.k.getD 18 0) (s.k.getD 19 0) (s.k.getD 20 0) (s.k.getD 21 0) (s.k.getD 22 0) (s.k.getD 23 0) (s.k.getD 24 0) (s.k.getD 25 0) (s.k.getD 26 0) (s.k.getD 27 0) (s.k.getD 28 0) (s.k.getD 29 0) (s.k.getD 30 0) (s.k.getD 31 0) (s.k.getD 32 0) (s.k.getD 33 0) (s.k.getD 34 0) (s.k.getD 35 0) r.C0 r.Up r.T3 r.Q5 r.X3 b.c.C0 b.c.Up b.c.T3 b.c.Q5 b.c.X3 (b.k.getD 0 0) (b.k.getD 1 0) (b.k.getD 2 0) (b.k.getD 3 0) (b.k.getD 4 0) (b.k.getD 5 0) (b.k.getD 6 0) (b.k.getD 7 0) (b.k.getD 8 0) (b.k.getD 9 0) (b.k.getD 10 0) (b.k.getD 11 0) (b.k.getD 12 0) (b.k.getD 13 0) (b.k.getD 14 0) (b.k.getD 15 0) (b.k.getD 16 0) (b.k.getD 17 0) (b.k.getD 18 0) (b.k.getD 19 0) (b.k.getD 20 0) (b.k.getD 21 0) (b.k.getD 22 0) (b.k.getD 23 0) (b.k.getD 24 0) (b.k.getD 25 0) (b.k.getD 26 0) (b.k.getD 27 0) (b.k.getD 28 0) (b.k.getD 29 0) (b.k.getD 30 0) (b.k.getD 31 0) (b.k.getD 32 0) (b.k.getD 33 0) (b.k.getD 34 0) (b.k.getD 35 0)=
   C (.inl ((n,(),(),(),((i+1:Nat):Int),()),((s.at n r i).tup,r.tup,b.tup,()))):=by
 unfold HK;have e0:decide ((i:Int)<36)=A:=by simp;omega
 have ib:inB (i:Int) 36=A:=Aa ω ω
 have tn:Int.toNat (i:Int)=i:=ω
 have w:aG.wrap ((i:Int)+1)=((i+1:Nat):Int):=by rw[Ac ω ω];omega
 have hki:=h.lo i hi;have hki':=h.hi i hi;have wk:aG.wrap (s.k.getD i 0+1)=s.k.getD i 0+1:=Ac ω ω
 have hl:i<s.k.length:=by rw[h.len];exact hi
 have hl2:∀v:Int,i<(s.k.set i v).length:=λv=>by simp;exact hl
 have hgi:∀v:Int,(s.k.set i v).getD i 0=v:=λv=>by simp[hl]
 rw[e0,d_,SN r hr (i:Int),SN s.c h.c (i:Int)];simp only[a_,ib,d_,tn,Aat hl,w,Vh h.len,wk];unfold Deb.at;by_cases hq:r.get i=s.c.get i
 ·simp only[hq,l_,d_,g8_]
  rfl
 ·simp only[Ar hq,c_,hq,e9_]
  have l36:∀v:Int,(s.k.set i v).length=36:=λv=>by simp[h.len]
  try simp only[Vh (l36 _),hgi,Aat (hl2 _),List.set_set]
  by_cases hn:s.k.getD i 0+1=n
  ·have:(s.k.getD i 0+1==n)=A:=by simpa using hn
   simp only[this,d_,g8_,hn,l_];rw[ZU s.c (i:Int) (r.get i)];rfl
  ·simp only[Ar hn,c_,hn,e9_]
   rfl
noncomputable instance isDeb_ti(n:Int)(s:Deb):Decidable (s.is n):=Classical.propDecidable _
def Deb.rng(n:Int)(s:Deb):Prop:=∀j,j<36→0≤s.k.getD j 0∧s.k.getD j 0<n
noncomputable instance rngDeb_ti(n:Int)(s:Deb):Decidable (s.rng n):=Classical.propDecidable _
def Ax3{s:Deb}:s.is n↔1≤n∧n≤16∧s.rng n:=Iff.rfl
def Aij{s:Deb}(h:s.wf)(hs:s.is n){r:Contacts}(hr:r.wf):
  Ge ((n,(),(),(),(0:Int),()),(s.tup,r.tup,Deb.no.tup,()))=C (((),(),()),((s.step n r).tup,Deb.no.tup,())):=by
 unfold Ge;refine Ai (AQ 36 (λ(i:Nat) (s:Deb)=>((n,(),(),(),(i:Int),()),(s.tup,r.tup,Deb.no.tup,()))) (Deb.at n r) (λ_ s=>s.wf∧s.is n) (λs=>(((),(),()),(s.tup,Deb.no.tup,()))) (λi s hi hin=>⟨Aii hin.1 hin.2 hr Deb.no hi,Aq4 hin.1 hin.2 hi⟩) (λs hin=>?_) 36 0 s rfl ⟨h,hs⟩).1 ω
 show HK n ((36:Nat):Int) s.c.C0 s.c.Up s.c.T3 s.c.Q5 s.c.X3 (s.k.getD 0 0) (s.k.getD 1 0) (s.k.getD 2 0) (s.k.getD 3 0) (s.k.getD 4 0) (s.k.getD 5 0) (s.k.getD 6 0) (s.k.getD 7 0) (s.k.getD 8 0) (s.k.getD 9 0) (s.k.getD 10 0) (s.k.getD 11 0) (s.k.getD 12 0) (s.k.getD 13 0) (s.k.getD 14 0) (s.k.getD 15 0) (s.k.getD 16 0) (s.k.getD 17 0) (s.k.getD 18 0) (s.k.getD 19 0) (s.k.getD 20 0) (s.k.getD 21 0) (s.k.getD 22 0) (s.k.getD 23 0) (s.k.getD 24 0) (s.k.getD 25 0) (s.k.getD 26 0) (s.k.getD 27 0) (s.k.getD 28 0) (s.k.getD 29 0) (s.k.getD 30 0) (s.k.getD 31 0) (s.k.getD 32 0) (s.k.getD 33 0) (s.k.getD 34 0) (s.k.getD 35 0) r.C0 r.Up r.T3 r.Q5 r.X3 Deb.no.c.C0 Deb.no.c.Up Deb.no.c.T3 Deb.no.c.Q5 Deb.no.c.X3 (Deb.no.k.getD 0 0) (Deb.no.k.getD 1 0) (Deb.no.k.getD 2 0) (Deb.no.k.getD 3 0) (Deb.no.k.getD 4 0) (Deb.no.k.getD 5 0) (Deb.no.k.getD 6 0) (Deb.no.k.getD 7 0) (Deb.no.k.getD 8 0) (Deb.no.k.getD 9 0) (Deb.no.k.getD 10 0) (Deb.no.k.getD 11 0) (Deb.no.k.getD 12 0) (Deb.no.k.getD 13 0) (Deb.no.k.getD 14 0) (Deb.no.k.getD 15 0) (Deb.no.k.getD 16 0) (Deb.no.k.getD 17 0) (Deb.no.k.getD 18 0) (Deb.no.k.getD 19 0) (Deb.no.k.getD 20 0) (Deb.no.k.getD 21 0) (Deb.no.k.getD 22 0) (Deb.no.k.getD 23 0) (Deb.no.k.getD 24 0) (Deb.no.k.getD 25 0) (Deb.no.k.getD 26 0) (Deb.no.k.getD 27 0) (Deb.no.k.getD 28 0) (Deb.no.k.getD 29 0) (Deb.no.k.getD 30 0) (Deb.no.k.getD 31 0) (Deb.no.k.getD 32 0) (Deb.no.k.getD 33 0) (Deb.no.k.getD 34 0) (Deb.no.k.getD 35 0)=_;unfold HK;have e:decide (((36:Nat):Int)<36)=B:=rfl;rw[e];rfl
def Aih{s:Deb}(hl:s.k.length=36):EC ((n,s.cnt,(0:Int),()),())=C (if s.rng n then .inl ((),())else .inr ((B,()),())):=by
 unfold EC
 have key:∀(step:_→_),(∀i:Nat,step ((n,s.cnt,(i:Int),()),())=BB n (s.k.getD 0 0) (s.k.getD 1 0) (s.k.getD 2 0) (s.k.getD 3 0) (s.k.getD 4 0) (s.k.getD 5 0) (s.k.getD 6 0) (s.k.getD 7 0) (s.k.getD 8 0) (s.k.getD 9 0) (s.k.getD 10 0) (s.k.getD 11 0) (s.k.getD 12 0) (s.k.getD 13 0) (s.k.getD 14 0) (s.k.getD 15 0) (s.k.getD 16 0) (s.k.getD 17 0) (s.k.getD 18 0) (s.k.getD 19 0) (s.k.getD 20 0) (s.k.getD 21 0) (s.k.getD 22 0) (s.k.getD 23 0) (s.k.getD 24 0) (s.k.getD 25 0) (s.k.getD 26 0) (s.k.getD 27 0) (s.k.getD 28 0) (s.k.getD 29 0) (s.k.getD 30 0) (s.k.getD 31 0) (s.k.getD 32 0) (s.k.getD 33 0) (s.k.getD 34 0) (s.k.getD 35 0) (i:Int))→∀(m i:Nat),i+m=36→(∀j,j<i→0≤s.k.getD j 0∧s.k.getD j 0<n)→BM step (m+1) ((n,s.cnt,(i:Int),()),())=C (if s.rng n then Sum.inl ((),())else Sum.inr ((B,()),())):=by
  intro step hstep m
  induction m with
  |zero=>
   intro i hi hj
   have:i=36:=ω
   subst this;rw[if_pos (show s.rng n from hj)]
   refine Ay ?_;rw[hstep];unfold BB;have e:decide (((36:Nat):Int)<36)=B:=rfl;rw[e];rfl
  |succ m ih=>
   intro i hi hj;have e0:decide ((i:Int)<36)=A:=by simp;omega
   have ib:inB (i:Int) 36=A:=Aa ω ω
   have tn:Int.toNat (i:Int)=i:=ω
   have w:aG.wrap ((i:Int)+1)=((i+1:Nat):Int):=by rw[Ac ω ω];omega
   by_cases h1:s.k.getD i 0<0
   ·rw[if_neg (show ¬s.rng n from λhall=>by have:=(hall i ω).1;omega)]
    refine Ay ?_;rw[hstep];unfold BB;have e1:decide (s.k.getD i 0<0)=A:=by simpa using h1
    simp only[e0,ib,tn,Vh hl,e1,d_]
   ·have e1:decide (s.k.getD i 0<0)=B:=by simpa using h1
    by_cases h2:n≤s.k.getD i 0
    ·rw[if_neg (show ¬s.rng n from λhall=>by have:=(hall i ω).2;omega)]
     refine Ay ?_;rw[hstep];unfold BB;have e2:decide (n≤s.k.getD i 0)=A:=by simpa using h2
     simp only[e0,ib,tn,Vh hl,e1,e2,d_,c_]
    ·have e2:decide (n≤s.k.getD i 0)=B:=by simpa using h2
     have st:step ((n,s.cnt,(i:Int),()),())=C (.inl ((n,s.cnt,((i+1:Nat):Int),()),())):=by
      rw[hstep];unfold BB;simp only[e0,ib,tn,Vh hl,e1,e2,d_,c_,w];rfl
     rw[Bt st];exact ih (i+1) ω λj hj'=>if e:j=i then by subst e;omega else hj j ω
 exact Ai (key _ (λ_=>rfl) 36 0 rfl (λj hj=>by omega)) ω
def Vv{s:Deb}(hl:s.k.length=36):Eo n s.c.C0 s.c.Up s.c.T3 s.c.Q5 s.c.X3 (s.k.getD 0 0) (s.k.getD 1 0) (s.k.getD 2 0) (s.k.getD 3 0) (s.k.getD 4 0) (s.k.getD 5 0) (s.k.getD 6 0) (s.k.getD 7 0) (s.k.getD 8 0) (s.k.getD 9 0) (s.k.getD 10 0) (s.k.getD 11 0) (s.k.getD 12 0) (s.k.getD 13 0) (s.k.getD 14 0) (s.k.getD 15 0) (s.k.getD 16 0) (s.k.getD 17 0) (s.k.getD 18 0) (s.k.getD 19 0) (s.k.getD 20 0) (s.k.getD 21 0) (s.k.getD 22 0) (s.k.getD 23 0) (s.k.getD 24 0) (s.k.getD 25 0) (s.k.getD 26 0) (s.k.getD 27 0) (s.k.getD 28 0) (s.k.getD 29 0) (s.k.getD 30 0) (s.k.getD 31 0) (s.k.getD 32 0) (s.k.getD 33 0) (s.k.getD 34 0) (s.k.getD 35 0)=C ((decide (s.is n),()),()):=by
 unfold Eo;by_cases h1:n<1
 ·have:¬s.is n:=λh=>by have:=h.1;omega
  simp[h1,this]
 ·have h1':1≤n:=ω
  by_cases h2:16<n
  ·have:¬s.is n:=λh=>by have:=h.2.1;omega
   simp[h1,h2,this]
  ·have h2':n≤16:=ω
   have hl':=Aih (n:=n) hl;simp only[Deb.cnt]at hl';have e1:decide (n<1)=B:=by simpa using h1
   have e2:decide (16<n)=B:=by simpa using h2
   simp only[e1,e2,c_,hl',a_];by_cases h3:s.rng n
   ·rw[if_pos h3,b_ (Ax3.2 ⟨h1',h2',h3⟩)]
   ·rw[if_neg h3,f_ λh=>h3 (Ax3.1 h).2.2]
def Zn{s:Deb}(h:s.wf)(hs:s.is n){r:Contacts}(hr:r.wf):Mh n s.c.C0 s.c.Up s.c.T3 s.c.Q5 s.c.X3 (s.k.getD 0 0) (s.k.getD 1 0) (s.k.getD 2 0) (s.k.getD 3 0) (s.k.getD 4 0) (s.k.getD 5 0) (s.k.getD 6 0) (s.k.getD 7 0) (s.k.getD 8 0) (s.k.getD 9 0) (s.k.getD 10 0) (s.k.getD 11 0) (s.k.getD 12 0) (s.k.getD 13 0) (s.k.getD 14 0) (s.k.getD 15 0) (s.k.getD 16 0) (s.k.getD 17 0) (s.k.getD 18 0) (s.k.getD 19 0) (s.k.getD 20 0) (s.k.getD 21 0) (s.k.getD 22 0) (s.k.getD 23 0) (s.k.getD 24 0) (s.k.getD 25 0) (s.k.getD 26 0) (s.k.getD 27 0) (s.k.getD 28 0) (s.k.getD 29 0) (s.k.getD 30 0) (s.k.getD 31 0) (s.k.getD 32 0) (s.k.getD 33 0) (s.k.getD 34 0) (s.k.getD 35 0) r.C0 r.Up r.T3 r.Q5 r.X3=C (((),()),((s.step n r).tup,())):=by
 have hl:=Aij h hs hr;unfold Mh;show(Ge ((n,(),(),(),(0:Int),()),(s.tup,r.tup,Deb.no.tup,()))).bind _=_;rw[hl];rfl
def Zm{s:Deb}(h:s.k.length=36)(hc:s.c.wf){r:Contacts}(hr:r.wf):
  Jo n s.c.C0 s.c.Up s.c.T3 s.c.Q5 s.c.X3 (s.k.getD 0 0) (s.k.getD 1 0) (s.k.getD 2 0) (s.k.getD 3 0) (s.k.getD 4 0) (s.k.getD 5 0) (s.k.getD 6 0) (s.k.getD 7 0) (s.k.getD 8 0) (s.k.getD 9 0) (s.k.getD 10 0) (s.k.getD 11 0) (s.k.getD 12 0) (s.k.getD 13 0) (s.k.getD 14 0) (s.k.getD 15 0) (s.k.getD 16 0) (s.k.getD 17 0) (s.k.getD 18 0) (s.k.getD 19 0) (s.k.getD 20 0) (s.k.getD 21 0) (s.k.getD 22 0) (s.k.getD 23 0) (s.k.getD 24 0) (s.k.getD 25 0) (s.k.getD 26 0) (s.k.getD 27 0) (s.k.getD 28 0) (s.k.getD 29 0) (s.k.getD 30 0) (s.k.getD 31 0) (s.k.getD 32 0) (s.k.getD 33 0) (s.k.getD 34 0) (s.k.getD 35 0) r.C0 r.Up r.T3 r.Q5 r.X3=if s.is n then C (((),(0:Int),()),((s.step n r).tup,()))else C (((),(1:Int),()),(Deb.no.tup,())):=by
 unfold Jo;rw[Vv h];by_cases hs:s.is n
 ·have hw:s.wf:=⟨hc,h,λj hj=>(hs.2.2 j hj).1,λj hj=>by have:=(hs.2.2 j hj).2;have:=hs.2.1;omega⟩
  simp only[hs,decide_true,a_,o_,c_,g8_];rw[Zn hw hs hr];rfl
 ·simp only[hs,decide_false,a_,b7_,d_,e9_]
  rfl
structure BW(b:Bldg):Prop where
 small:b.small
 code:b.code=0
 room:b.H0≤600
 full:Sat (arF .sub .f64 b.L0 4589168020290535424) λ_=>True
 over:Sat (arF .sub .f64 b.N0 4589168020290535424) λ_=>True
def Arz(b:D)(c:aC):Prop:=LC b.E0 c=A∧0≤c.V0∧c.V0<4294967296
structure PM(b:Bldg)(m:Mch):Prop where
 jst:Jst b m.X0 m.G0
 con:m.N1.length=b.B0.length
 conv:∀c∈m.N1,Arz b c
 bel:m.W0.length=b.B0.length
 belv:∀i,i<b.B0.length→BelOK b i (m.W0.getD i Jk)
 car:m.B0.length=b.B0.length
 carv:∀c∈m.B0,EL b c=true
 lod:m.L2.length=b.B0.length
 lodv:∀l∈m.L2,0≤l.S5∧l.S5≤4
 lit:m.U3.length=b.B0.length
 exl:m.D2.length=m.G0.A0.length
 exv:∀x∈m.D2,0≤x∧x≤1000000
 tick:0≤m.L3∧m.L3≤1000000
 flt:0≤m.N2∧m.N2≤1000000
 ref:0≤m.G2∧m.G2≤1000000
structure PR(b:Bldg)(t:Pk):Prop where
 leg:t.legacy.length=b.B0.length
 sho:t.shows.length=b.B0.length
 rst:t.reset.length=b.B0.length
 oc:t.out.B0.length=b.B0.length
structure Fix(t t':Pk):Prop where
 im:t'.m.G0=t.m.G0
 st:t'.m.X0=t.m.X0
 bu:t'.budget=t.budget
 e:t'.e=t.e
 out:t'.out={ t.out with B0:=t'.out.B0 }
def Fix.rfl'(t:Pk):Fix t t:=⟨rfl,rfl,rfl,rfl,rfl⟩
def Fix.trans{a c d:Pk}(h:Fix a c)(k:Fix c d):Fix a d:=⟨k.im.trans h.im,k.st.trans h.st,k.bu.trans h.bu,k.e.trans h.e,by rw[k.out,h.out]⟩
def Af9{α:Type}{P:α→Prop}{l:List α}(h:∀x∈l,P x){v:α}(hv:P v)(i:Nat):∀x∈l.set i v,P x:=λx hx=>by
 rcases List.mem_or_eq_of_mem_set hx with hx | rfl
 ·exact h x hx
 ·exact hv
section
variable{b:D}{m:Mch}
def PM.sBel(h:PM b m){v:Belief}(hv:BelOK b i v):PM b { m with W0:=m.W0.set i v }:=
 ⟨h.jst,h.con,h.conv,by show(m.W0.set i v).length=_;rw[r_];exact h.bel,λj hj=>by
  show BelOK b j ((m.W0.set i v).getD j Jk);by_cases e:i=j
  ·subst e
   rw[Bp _ _ (by rw[h.bel];exact hj)];exact hv
  ·rw[Di _ _ e];exact h.belv j hj,h.car,h.carv,h.lod,h.lodv,h.lit,h.exl,h.exv,h.tick,h.flt,h.ref⟩
def PM.sCar(h:PM b m)(i:Nat){v:NewCar}(hv:EL b v=A):PM b { m with B0:=m.B0.set i v }:=
 ⟨h.jst,h.con,h.conv,h.bel,h.belv,by show(m.B0.set i v).length=_;rw[r_];exact h.car,Af9 h.carv hv i,h.lod,h.lodv,h.lit,h.exl,h.exv,h.tick,h.flt,h.ref⟩
def PM.sCon(h:PM b m)(i:Nat){v:aC}(hv:Arz b v){w:Loaded}(hw:0≤w.S5∧w.S5≤4):PM b { m with N1:=m.N1.set i v,L2:=m.L2.set i w }:=
 ⟨h.jst,by show(m.N1.set i v).length=_;rw[r_];exact h.con,Af9 h.conv hv i,h.bel,h.belv,h.car,h.carv,by show(m.L2.set i w).length=_;rw[r_];exact h.lod,Af9 h.lodv hw i,h.lit,h.exl,h.exv,h.tick,h.flt,h.ref⟩
def PM.sTick(h:PM b m){k:Int}(hn:0≤n∧n≤1000000)(hk:0≤k∧k≤1000000):PM b { m with L3:=n,N2:=k }:=
 ⟨h.jst,h.con,h.conv,h.bel,h.belv,h.car,h.carv,h.lod,h.lodv,h.lit,h.exl,h.exv,hn,hk,h.ref⟩
end
@[reducible] def Bua(z:aC):=(z.V0,z.T1,z.F1,z.G1,z.C1,z.B5,z.C5,z.E5,z.F5,z.G5,z.H5,z.I5,z.K5,z.L5,z.M5,z.Z3,z.A4,z.B4,z.C4,z.D4,z.E4,z.F4,z.G4,z.H4,z.I4,z.J4,z.K4,z.L4,z.M4,z.N4,z.O4,z.P4,z.Q4,z.R4,z.S4,z.T4,z.U4,z.V4,z.W4,z.X4,z.Y4,())
def XE(z:aC):Deb:=⟨⟨z.V0,z.T1,z.F1,z.G1,z.C1⟩,PX z⟩
def Ar1(s:Deb):aC:=Debounced.mk s.c.C0 s.c.Up s.c.T3 s.c.Q5 s.c.X3 (s.k.getD 0 0) (s.k.getD 1 0) (s.k.getD 2 0) (s.k.getD 3 0) (s.k.getD 4 0) (s.k.getD 5 0) (s.k.getD 6 0) (s.k.getD 7 0) (s.k.getD 8 0) (s.k.getD 9 0) (s.k.getD 10 0) (s.k.getD 11 0) (s.k.getD 12 0) (s.k.getD 13 0) (s.k.getD 14 0) (s.k.getD 15 0) (s.k.getD 16 0) (s.k.getD 17 0) (s.k.getD 18 0) (s.k.getD 19 0) (s.k.getD 20 0) (s.k.getD 21 0) (s.k.getD 22 0) (s.k.getD 23 0) (s.k.getD 24 0) (s.k.getD 25 0) (s.k.getD 26 0) (s.k.getD 27 0) (s.k.getD 28 0) (s.k.getD 29 0) (s.k.getD 30 0) (s.k.getD 31 0) (s.k.getD 32 0) (s.k.getD 33 0) (s.k.getD 34 0) (s.k.getD 35 0)
def Axj:LC n z=A↔(XE z).is n:=by
 unfold LC Deb.is;rw[e_,e_,A_,A_];refine and_congr_right λ_=>and_congr_right λ_=>⟨λh j hj=>?_,λh=>QS 36 0 λk _ hk=>?_⟩
 ·have:=Aaa 36 0 h j (a3_ _) ω
  unfold Aey at this;simp only[e_,A_]at this;exact this
 ·have:=h k ω
  unfold Aey;simp only[e_,A_];exact this
def Aez{b:D}(hcode:b.code=0)(h:Arz b z){f:Int}(hf:0≤f∧f<4294967296)(u d o c:Bool):Sat (Jo b.E0 z.V0 z.T1 z.F1 z.G1 z.C1 z.B5 z.C5 z.E5 z.F5 z.G5 z.H5 z.I5 z.K5 z.L5 z.M5 z.Z3 z.A4 z.B4 z.C4 z.D4 z.E4 z.F4 z.G4 z.H4 z.I4 z.J4 z.K4 z.L4 z.M4 z.N4 z.O4 z.P4 z.Q4 z.R4 z.S4 z.T4 z.U4 z.V4 z.W4 z.X4 z.Y4 f u d o c) λy=>∃z',y.2.1=Bua z'∧Arz b z'∧z'=Ar1 ((XE z).step b.E0 ⟨f,u,d,o,c⟩):=by
 have hi:=Axj.1 h.1;have hd:=Akr hcode;have hw:(XE z).wf:=⟨h.2,rfl,λj hj=>(hi.2.2 j hj).1,λj hj=>by have:=(hi.2.2 j hj).2;omega⟩
 have e:=Zm (n:=b.E0) (s:=XE z) rfl h.2 (r:=⟨f,u,d,o,c⟩) hf;rw[if_pos hi]at e;obtain⟨w1,w2⟩:=Bhp hw hi ⟨f,u,d,o,c⟩;refine⟨_,e,Ar1 ((XE z).step b.E0 ⟨f,u,d,o,c⟩),rfl,⟨Axj.2 ?_,w1.c⟩,rfl⟩;generalize(XE z).step b.E0 ⟨f,u,d,o,c⟩=s at w1 w2
 have:XE (Ar1 s)=s:=by
  unfold XE;rw[show PX (Ar1 s)=s.k from Vh w1.len]
  rfl
 rw[this];exact w2
def Al5(h:0≤n∧n≤1000000):Sat (Hw n) λy=>0≤y.1.1∧y.1.1≤1000000:=by
 unfold Hw;rw[Ac ω ω]
 refine aB ?_;show 0≤(bif decide (1000000<n+1)then(1000000:Int)else n+1)∧(bif decide (1000000<n+1)then(1000000:Int)else n+1)≤1000000;by_cases g:1000000<n+1
 ·rw[b_ g,d_];omega
 ·rw[f_ g,c_];omega
section
variable{b:D}(hw:BW b){x:Inp}{g:Bool}(hx:g=A→InOK b x)
include hw hx
theorem Bpf{t:Pk}(hm:PM b t.m)(hr:PR b t):Sat (t.ap DZ b x g) λy=>∃t',(y=.inl ((),(t'.tup b x g,()))∨y=.inr ((),(t'.tup b x g,())))∧PM b t'.m∧PR b t'∧Fix t t':=by
 have hcc:=Aj hw.code;unfold Pk.ap DZ;refine aE (Al5 hm.tick) λn1 h1=>Sat.bic (λ_=>?_) λhg=>?_
 ·exact aE (Al5 hm.flt) λn2 h2=>aB ⟨{ t with m:={ t.m with L3:=n1.1.1,N2:=n2.1.1 } },.inl rfl,hm.sTick h1 h2,⟨hr.leg,hr.sho,hr.rst,hr.oc⟩,⟨rfl,rfl,rfl,rfl,rfl⟩⟩
 ·rw[g2_]at hg
  have hxi:=hx hg;refine aE (Q:=λy=>∃t',y=((),(t'.tup b x g,()))∧PM b t'.m∧PR b t'∧Fix t t') ?_ λy hy=>by obtain⟨t',rfl,h⟩:=hy;exact aB ⟨t',.inr rfl,h⟩
  unfold Dx;refine Sat.loop (λ(k:Nat) z=>∃(i:Nat) (t':Pk),z=(((),x.cars,(x.cars.length:Int),(i:Int),()),(t'.tup b x g,()))∧i+k=x.cars.length∧PM b t'.m∧PR b t'∧Fix t t') (λk z hz=>?_) x.cars.length ⟨0,{ t with m:={ t.m with L3:=n1.1.1 } },rfl,p_ _,hm.sTick h1 hm.flt,⟨hr.leg,hr.sho,hr.rst,hr.oc⟩,⟨rfl,rfl,rfl,rfl,rfl⟩⟩ (by have:=hxi.len;omega)
  obtain⟨i,t',rfl,hk,hm,hr,hf⟩:=hz;show Sat (Pk.ap (Fv x.cars (x.cars.length:Int) (i:Int)) b x g t') _;unfold Pk.ap Fv;refine Sat.bic (λq=>?_) λ_=>aB ⟨t',rfl,hm,hr,hf⟩
  have q:(i:Int)<(x.cars.length:Int):=m_ q;have hl:=hxi.len;have hin:i<b.B0.length:=ω
  have w:=CH (n:=i) ω
  have i1:inB (i:Int) t'.m.N1.length=A:=Aa ω (by rw[hm.con];omega)
  have i3:inB (i:Int) t'.m.L2.length=A:=Aa ω (by rw[hm.lod];omega)
  have hcf:=hxi.flo _ (Cn (CarInput.mk 0 B B B B 0 B 0 B 0 0) (ω:i<x.cars.length))
  have hcw:=hm.conv _ (Cn Cp (show i<t'.m.N1.length by rw[hm.con];exact hin))
  refine aD (Aa ω q) (aD i1 (aE (Aez hw.code hcw hcf _ _ _ _) λy1 h1=>?_))
  obtain⟨⟨ya,yb,yc⟩,yd,ye⟩:=y1;obtain⟨z',e1,hz',_⟩:=h1;change yd=_ at e1;subst e1;refine aD i1 (aD i3 (aE (Aoh hw.full hw.over _ _) λy2 h2=>aD i3 ?_))
  refine aB ⟨k-1,ω,i+1,{ t' with m:={ t'.m with N1:=t'.m.N1.set i z',L2:=t'.m.L2.set i (Loaded.mk y2.2.1.1) } },by first | (rw[← w];rfl) | rw[← w],ω,hm.sCon i hz' h2,⟨hr.leg,hr.sho,hr.rst,hr.oc⟩,⟨hf.im,hf.st,hf.bu,hf.e,hf.out⟩⟩
end
end Go.Ovl
