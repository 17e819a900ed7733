import Derived.Test.YtphhlndnankhiaaGreatDoorOvI
import Derived.Test.YtphhlndnankhiaaGreatDoorOvH
import Derived.Test.YtphhlndnankhiaaGreatDoorOvF
import Derived.Test.YtphhlndnankhiaaGreatDoorOvD
import Derived.Test.YtphhlndnankhiaaGreatDoorOvC
import Derived.Test.YtphhlndnankhiaaGreatDoorDefs4
import Derived.Test.YtphhlndnankhiaaGreatDoorOvA
set_option linter.all false
open Bool renaming true->A,false->B
open Go.Ovl renaming Bldg->C,Record->E,Debounced->aB
open Option renaming some->D
open Go.Ovl.Sat renaming ret->aA,bifT->aC,bindS->aD
open List renaming replicate->aE
open Go.IntKind renaming i64->aF
namespace Go.Ovl
open Go Go.Ab
set_option maxRecDepth 100000
variable{b:C}{e:Entry}{l:List E}{m:Img}{xs:List Int}{r:E}{X:Rnd}{s:Sto}
def Aaj{l:List Entry}(hl:l.length≤100000):Sf l=D (((),()),(((ofC l (0,0)).1,(ofC l (0,0)).2,()),())):=by
 have e2:∀(k i:Nat) (c:Int×Int),i+k=l.length→BY (λx=>JO x.1.2.2.1 x.1.2.2.2.1 x.1.2.2.2.2.1 x.2.1.1 x.2.1.2.1 x.2.2.1.1 x.2.2.1.2.1) (k+1) (((),(),l,(l.length:Int),(i:Int),()),(((0:Int),(0:Int),()),(c.1,c.2,()),()))=D (((),(),()),(((0:Int),(0:Int),()),((ofC (l.drop i) c).1,(ofC (l.drop i) c).2,()),())):=by
  intro k;induction k with
  |zero=>intro i c hi;obtain rfl:i=l.length:=ω;refine AK ?_;show JO l (l.length:Int) (l.length:Int) 0 0 c.1 c.2=_;unfold JO;rw[f_ (Q_ (l.length:Int)),b2_];rfl
  |succ k ih=>intro i c hi;have hi':i<l.length:=ω;rw[By noE hi'];refine(BS (x':=(((),(),l,(l.length:Int),((i+1:Nat):Int),()),(((0:Int),(0:Int),()),((Cc c (Fi (l.getD i noE).D0 (l.getD i noE).I0)).1,(Cc c (Fi (l.getD i noE).D0 (l.getD i noE).I0)).2,()),()))) ?_).trans (ih (i+1) _ ω);show JO l (l.length:Int) (i:Int) 0 0 c.1 c.2=_;unfold JO;rw[show Entry.mk 0 0 0 0 B=noE from rfl];have hu:=Gy c (Fi (l.getD i noE).D0 (l.getD i noE).I0);simp only[b_ (ω:(i:Int)<(l.length:Int)),Ac (ω:(0:Int)≤(i:Int)) (ω:(i:Int)<(l.length:Int)),d_,j_,JY,a_,hu,Gb hi' (show l.length≤Ba by unfold Ba;omega)]
 have h:=e2 l.length 0 (0,0) ω;rw[R_]at h;have h':Pi (((),(),l,(l.length:Int),(0:Int),()),(((0:Int),(0:Int),()),((0:Int),(0:Int),()),()))=_:=Ak h ω;unfold Sf;rw[h'];rfl
def YY(e:Entry):E:=Record.mk 1 e.D0 e.I0 0 0
def Cq(b:C)(e:Entry)(X:Rnd):Rnd:=bif KP b X.img then Rr (YY e) X else⟨X.recs,X.img,X.xs,X.lan,Cc X.ref (Fi e.D0 e.I0)⟩
def Et(b:C):List Entry→Rnd→Rnd
 |[],X=>X
 |e::t,X=>Et b t (Cq b e X)
def Brd(r:E)(X:Rnd):wrL [r] X=Rr r X:=by rw[Xx];unfold wrL;rw[a6_];rfl
def YZ(h:Ai b e.D0 e.I0=A):At b (YY e)=A:=by
 have hc:(b.code==0)=A:=by unfold Ai at h;rw[e_]at h;exact h.1
 unfold At YY;rw[hc];simp only[l_,d_,h,a0_]
def Aoc(h:X.ok b)(he:Ai b e.D0 e.I0=A):(Cq b e X).ok b:=by
 unfold Cq;cases KP b X.img with
 |true=>exact Xs h (YZ he)
 |false=>exact⟨h.img,h.len⟩
def Arf{b:C}:∀{l:List Entry}{X:Rnd},X.ok b→(∀e∈l,Ai b e.D0 e.I0=A)→(Et b l X).ok b
 |[],_,h,_=>h
 |e::t,X,h,hv=>by show(Et b t (Cq b e X)).ok b;exact Arf (Aoc h (hv e (t_ ..))) λx hx=>hv x (B_ _ hx)
def Ae9(b:C)(e:Entry)(X:Rnd):(Cq b e X).recs.length≤X.recs.length+1:=by
 unfold Cq;cases KP b X.img with
 |true=>show(X.recs++[_]).length≤_;rw[h_,G_];exact A_ _
 |false=>exact Nat.le_succ _
def Ai1(b:C):∀(l:List Entry) (X:Rnd),(Et b l X).recs.length≤X.recs.length+l.length
 |[],_=>A_ _
 |e::t,X=>by have h1:=Ai1 b t (Cq b e X);have h2:=Ae9 b e X;show(Et b t (Cq b e X)).recs.length≤_;rw[x_];omega
def Aip(c:Int×Int):(Fd c).length≤64:=by
 have h:∀k i:Nat,((List.range' i k).flatMap (Lj c)).length≤2*k:=by
  intro k;induction k with
  |zero=>intro i;exact A_ _
  |succ k ih=>
   intro i;rw[f0_,a1_,h_]
   have:=ih (i+1)
   have:=Adn c i
   omega
 exact h 32 0
def Air{c:Int×Int}(h:e∈Fd c):(0≤e.D0∧e.D0<32)∧(e.I0=1∨e.I0=2)∧Aj c e.D0.toNat e.I0=A:=by obtain⟨f,h1,h2,h3,h4⟩:=mem_range.1 (b5_.2 ⟨e,h,rfl⟩);simp only[BQ]at h2 h3 h4;refine⟨ω,h3,?_⟩;rw[h2,j_];exact h4
def Lk(b:C)(m:Img)(press:Int×Int):Int×Int:=AX (DJ press (Bx b)) (ofC m.A0 (0,0))
def WR(hb:b.small)(hcode:b.code=0){press old:Int×Int}(h:e∈Fd (AX (DJ press (Bx b)) old)):Ai b e.D0 e.I0=A:=by obtain⟨h1,h2,h3⟩:=Air h;rw[Bt _ _ ω,Mp,e_,e_,Ov hb hcode ω h2,e5_ h1.1]at h3;exact h3.1.2
section
variable{b:C}(hb:b.small)(hcode:b.code=0)
include hb hcode
theorem Akb{es:List Entry}(hl:es.length≤1000)(hv:∀e∈es,Ai b e.D0 e.I0=A):∀(k i:Nat) (Y:Rnd),i+k=es.length→Y.ok b→Y.recs.length≤1000+i→BY (λx=>letI d:=x.2.1.2.2.2;letI f:=d.2.2;letI a:=f.2.2.2;letI g:=a.2.2;letI c:=g.2.2.2;letI e:=c.2.2;Bv x.1.2.1 x.1.2.2.1 x.1.2.2.2.1 x.2.1.1 x.2.1.2.1 x.2.1.2.2.1 d.1 d.2.1 f.1 f.2.1 f.2.2.1 a.1 a.2.1 g.1 g.2.1 g.2.2.1 c.1 c.2.1 e.1 e.2.1 e.2.2.1 e.2.2.2.1 e.2.2.2.2.1) (k+1) (((),es,(es.length:Int),(i:Int),()),(Y.tupB b,()))=D ((),((Et b (es.drop i) Y).tupB b,())):=by
 intro k;induction k with
 |zero=>intro i Y hi _ _;obtain rfl:i=es.length:=ω;refine AK ?_;show Bv es (es.length:Int) (es.length:Int) Y.recs Y.img.F0 Y.img.O0 Y.img.K0 Y.img.A0 Y.xs Y.lan.lit Y.lan.gong Y.lan.cl.1 Y.lan.cl.2 Y.ref.1 Y.ref.2 b.C0 b.E0 b.H0 b.M0 b.J0 b.L0 b.N0 b.B0=_;unfold Bv;rw[f_ (Q_ (es.length:Int)),b2_];rfl
 |succ k ih=>
  intro i Y hi hY hr;have hi':i<es.length:=ω;have hv':=hv _ (BR noE hi');have hcc:=Am hcode;have he:=Ep hb hY.img;have hlp:=hY.img.lp;rw[By noE hi'];refine(BS (x':=(((),es,(es.length:Int),((i+1:Nat):Int),()),((Cq b (es.getD i noE) Y).tupB b,()))) ?_).trans (ih (i+1) _ ω (Aoc hY hv') (by have:=Ae9 b (es.getD i noE) Y;omega));show Bv es (es.length:Int) (i:Int) Y.recs Y.img.F0 Y.img.O0 Y.img.K0 Y.img.A0 Y.xs Y.lan.lit Y.lan.gong Y.lan.cl.1 Y.lan.cl.2 Y.ref.1 Y.ref.2 b.C0 b.E0 b.H0 b.M0 b.J0 b.L0 b.N0 b.B0=_;unfold Bv Cq;rw[show Entry.mk 0 0 0 0 B=noE from rfl,Aap hb Y.img ω ω ω];simp only[b_ (ω:(i:Int)<(es.length:Int)),Ac (ω:(0:Int)≤(i:Int)) (ω:(i:Int)<(es.length:Int)),d_,j_,a_,Gb hi' (show es.length≤Ba by unfold Ba;omega)];cases KP b Y.img with
  |true=>have hw:=Aco hb hcode hY (l:=[YY (es.getD i noE)]) (by show 1≤100000;omega) (by intro r hr;rw[P_.1 hr];exact YZ hv') ω;rw[Brd]at hw;unfold YY at hw;simp only[d_,hw,a_];rfl
  |false=>have hu:=Gy Y.ref (Fi (es.getD i noE).D0 (es.getD i noE).I0);simp only[c_,JY,a_,hu];rfl
theorem Apw(press old:Int×Int)(hX:X.ok b)(hr:X.recs.length≤1000):Dc press.1 press.2 old.1 old.2 X.recs X.img.F0 X.img.O0 X.img.K0 X.img.A0 X.xs X.lan.lit X.lan.gong X.lan.cl.1 X.lan.cl.2 X.ref.1 X.ref.2 b.C0 b.E0 b.H0 b.M0 b.J0 b.L0 b.N0 b.B0=D ((),((Et b (Fd (AX (DJ press (Bx b)) old)) X).tupB b,())):=by have hl:=Aip (AX (DJ press (Bx b)) old);have h:=Akb hb hcode (es:=Fd (AX (DJ press (Bx b)) old)) ω (λe he=>WR hb hcode he) _ 0 X (n_ _) hX ω;rw[R_]at h;have h':CS (((),Fd (AX (DJ press (Bx b)) old),((Fd (AX (DJ press (Bx b)) old)).length:Int),(0:Int),()),(X.tupB b,()))=_:=Ak h ω;unfold Dc;rw[KF hb hcode];simp only[a_];rw[Li press (Bx b)];simp only[a_];rw[Qv (DJ press (Bx b)) old];simp only[a_];rw[XB];simp only[a_];unfold Rnd.tupB at h';rw[h'];rfl
end
def Ajt(n:Int):GV n=D ((!inR 0 1000000 n,()),()):=by
 unfold GV inR;by_cases g:n<0
 ·rw[b_ g,f_ (ω:¬0≤n)];rfl
 ·rw[f_ g,b_ (ω:0≤n)];by_cases g':1000000<n
  ·rw[b_ g',f_ (ω:¬n≤1000000)];rfl
  ·rw[f_ g',b_ (ω:n≤1000000)];rfl
def Alu(hl:xs.length≤maxLen):Bk xs=D ((!PQ xs,()),()):=by
 have hm:maxLen≤9223372036854775807:=by decide
 have key:∀(k i:Nat),i+k=xs.length→∃y,BY (λx=>AD x.1.1 x.1.2.2.1 x.1.2.2.2.1) (k+1) ((xs,(),(xs.length:Int),(i:Int),()),())=D y∧(match y with | .inl _=>(xs.drop i).all (inR 0 1000000)=A | .inr z=>0≤z.1.1∧(xs.drop i).all (inR 0 1000000)=B):=by
  intro k;induction k with
  |zero=>
   intro i hi;refine⟨.inl ((),()),AK ?_,?_⟩
   ·show AD xs (xs.length:Int) (i:Int)=_;unfold AD;rw[show decide ((i:Int)<(xs.length:Int))=B by simp;omega];rfl
   ·rw[show i=xs.length by omega,b2_];rfl
  |succ k ih=>
   intro i hi;have hi':i<xs.length:=ω;have hs:AD xs (xs.length:Int) (i:Int)=D (bif inR 0 1000000 (xs.getD i 0)then .inl ((xs,(),(xs.length:Int),((i+1:Nat):Int),()),())else .inr (.inr (((i:Int),()),()))):=by
    unfold AD;have w:aF.wrap ((i:Int)+1)=((i+1:Nat):Int):=by rw[Aa ω ω];omega
    rw[show decide ((i:Int)<(xs.length:Int))=A by simp;omega,Ac ω ω,Ajt,w];simp only[d_,j_,a_];cases inR 0 1000000 (xs.getD i 0)<;>rfl
   rw[By (0:Int) hi',Z_];cases hq:inR 0 1000000 (xs.getD i 0)with
   |true=>rw[hq]at hs;obtain⟨y,h1,h2⟩:=ih (i+1) ω;exact⟨y,(BS hs).trans h1,by rw[s_];exact h2⟩
   |false=>rw[hq]at hs;exact⟨_,AK hs,by show(0:Int)≤(i:Int)∧_;exact⟨ω,rfl⟩⟩
 obtain⟨y,h1,h2⟩:=key xs.length 0 ω;have h1':Bm ((xs,(),(xs.length:Int),(0:Int),()),())=D y:=Ak h1 ω;rw[R_]at h2;unfold Bk Ci PQ;rw[h1'];cases y with
 |inl z=>simp only at h2;rw[h2];rfl
 |inr z=>simp only at h2;rw[h2.2];simp only[a_];rw[b_ h2.1];rfl
def WD(m:Img)(hl:xs.length≤maxLen):Ia m.F0 m.O0 m.K0 m.A0 xs=D (((((xs.length:Int)==(m.A0.length:Int))&&PQ xs),()),()):=by
 unfold Ia;rw[Alu hl];cases((xs.length:Int)==(m.A0.length:Int))with
 |false=>rfl
 |true=>simp only[d_,a_,s_,Bool.not_not]
def CV{α:Type}(l:List α)(h:l.length≤100000):PN l=D ((l,()),()):=by unfold PN;rw[Av (ω:l.length≤2147483648)];rfl
def As9(n:Nat):Lan:=⟨aE n noP,aE n B,(0,0)⟩
def BV(b:C)(m:Img)(xs:List Int)(vs:List View)(ps:List Calls)(press:Int×Int)(good:Bool):Rnd:=bif good then Et b (Fd (Lk b m press)) (wrL (CZ b vs m.A0) ⟨[],m,xs,CO b vs ps,(0,0)⟩)else⟨[],m,xs,As9 vs.length,(0,0)⟩
noncomputable def Xu(b:C)(m:Img)(xs:List Int)(vs:List View)(ps:List Calls)(press:Int×Int)(good:Bool):List E×List Int×Int×Unit:=Oc b (BV b m xs vs ps press good).img (BV b m xs vs ps press good).xs vs
noncomputable def EH(b:C)(m:Img)(xs:List Int)(vs:List View)(ps:List Calls)(press:Int×Int)(good:Bool):Rnd:={ wrL (Xu b m xs vs ps press good).1 (BV b m xs vs ps press good)with xs:=(Xu b m xs vs ps press good).2.1 }
def Vz(hcode:b.code=0)(vs:List View):∀{l:List Entry},(∀e∈l,Ai b e.D0 e.I0=A)→∀r∈CZ b vs l,At b r=A∧r.R0=2:=λh r hr=>by
 obtain⟨e,he,hr⟩:=c9_.1 hr;have hc:=h e he;cases hs:Ji b vs e.D0 e.I0 with
 |false=>rw[hs]at hr;cases hr
 |true=>rw[hs]at hr;rw[P_.1 hr];refine⟨?_,rfl⟩;unfold At;rw[hcode];simp only[show((2:Int)==1)=B from rfl,c_,l_,d_,hc,a0_]
def Apm(hcode:b.code=0){vs:List View}(hm:ImgOK b m)(xs:List Int):∀r∈(Oc b m xs vs).1,At b r=A:=by
 have hcc:=Am hcode;unfold Oc;rw[Img.ok_iff.2 hm];cases hq:((xs.length:Int)==(m.A0.length:Int))with
 |false=>exact λr hr=>by cases hr
 |true=>
  cases hv:((vs.length:Int)==(b.B0.length:Int))with
  |false=>exact λr hr=>by cases hr
  |true=>
   cases PQ xs with
   |false=>exact λr hr=>by cases hr
   |true=>
    have h1:(xs.length:Int)=(m.A0.length:Int):=by simpa using hq
    have h2:(vs.length:Int)=(b.B0.length:Int):=by simpa using hv
    exact(Xk (b:=b) ω h2 m.A0 xs [] m ω hm rfl).2.1
section
variable{b:C}(hb:b.small)(hcode:b.code=0){m:Img}(hm:ImgOK b m){xs:List Int}(hx:xs.length=m.A0.length){vs:List View}(ps:List Calls)(press:Int×Int)(good:Bool)
include hb hcode hm hx
theorem Aoh:(BV b m xs vs ps press good).ok b∧(BV b m xs vs ps press good).recs.length≤100:=by
 have he:=Ep hb hm;have hX:∀L:Lan,Rnd.ok b ⟨[],m,xs,L,(0,0)⟩:=λL=>⟨hm,hx⟩
 unfold BV;cases good with
 |false=>exact⟨hX _,a2_ _⟩
 |true=>have hv:=Vz hcode vs (l:=m.A0) λe he=>(CR.1 (hm.en e he)).1;refine⟨Arf (Aok (hX _) λr hr=>(hv r hr).1) λe he=>WR hb hcode he,?_⟩;have h1:=Ai1 b (Fd (Lk b m press)) (wrL (CZ b vs m.A0) ⟨[],m,xs,CO b vs ps,(0,0)⟩);have h2:=Aip (Lk b m press);have h3:=Zd b vs m.A0;have h4:(wrL (CZ b vs m.A0) ⟨[],m,xs,CO b vs ps,(0,0)⟩).recs.length=(CZ b vs m.A0).length:=rfl;show(Et b (Fd (Lk b m press)) (wrL (CZ b vs m.A0) ⟨[],m,xs,CO b vs ps,(0,0)⟩)).recs.length≤100;omega
theorem Abe(hexp:PQ xs=A)(hv:okViews vs)(hvl:vs.length=b.B0.length)(hp:ps.length=b.B0.length):LH b.C0 b.E0 b.H0 b.M0 b.J0 b.L0 b.N0 b.B0 m.F0 m.O0 m.K0 m.A0 xs vs ps press.1 press.2 good=D (((),0,()),((EH b m xs vs ps press good).tup,())):=by
 have hcc:=Am hcode;have he:=Ep hb hm;have hlp:=hm.lp;have hlf:=hm.lf;have hll:=hm.ll;have hmx:100000≤maxLen:=by decide
 have hX:∀L:Lan,Rnd.ok b ⟨[],m,xs,L,(0,0)⟩:=λL=>⟨hm,hx⟩
 obtain⟨hok,hrl⟩:=Aoh hb hcode hm hx (vs:=vs) ps press good;have hlight:=Abv hb hcode vs ps ω;unfold Aee at hlight;rw[show((vs.length:Int)==(b.B0.length:Int))=A by rw[hvl];exact l_ _,show((ps.length:Int)==(b.B0.length:Int))=A by rw[hp];exact l_ _]at hlight;simp only[a0_,d_]at hlight;have hXl:=Ep hb hok.img;have hXp:=hok.img.lp;have hXx:=hok.len;have hplan:=Afr hb hv ω (BV b m xs vs ps press good).img ω ω (BV b m xs vs ps press good).xs ω;have hpl:=(Baf b (BV b m xs vs ps press good).img (BV b m xs vs ps press good).xs vs).1;have hwr:=Aco hb hcode hok (l:=(Oc b (BV b m xs vs ps press good).img (BV b m xs vs ps press good).xs vs).1) ω (Apm hcode hok.img _) ω;unfold LH;rw[hlight];simp only[a_,O_,c_,Lan.tup];rw[CW hb m ω ω,Img.ok_iff.2 hm];simp only[a_,o_,c_];rw[WD m ω,show((xs.length:Int)==(m.A0.length:Int))=A by rw[hx];exact l_ _,hexp];unfold Nm BG Bd Bl OQ;rw[CV m.F0 ω,CV m.O0 ω,CV m.K0 ω,CV m.A0 ω,CV xs ω];simp only[a_,a0_,o_,c_,b_ (ω:(0:Int)≤(vs.length:Int)),b_ (e0_ (vs.length:Int)),b_ (ω:(vs.length:Int)≤2147483648),d_,j_];cases good with
 |false=>simp only[c_,a_];rw[show Im b.C0 b.E0 b.H0 b.M0 b.J0 b.L0 b.N0 b.B0 m.F0 m.O0 m.K0 m.A0 xs vs=_ from hplan];simp only[a_];rw[show Bz (Oc b (BV b m xs vs ps press B).img (BV b m xs vs ps press B).xs vs).1 [] m.F0 m.O0 m.K0 m.A0 xs (aE vs.length (Calls.mk 0 0)) (aE vs.length B) 0 0 0 0 b.C0 b.E0 b.H0 b.M0 b.J0 b.L0 b.N0 b.B0=_ from hwr];rfl
 |true=>have hsv:=Vz hcode vs (l:=m.A0) λe he=>(CR.1 (hm.en e he)).1;have hsl:=Zd b vs m.A0;have hw1:=Aco hb hcode (hX (CO b vs ps)) (l:=CZ b vs m.A0) ω (λr hr=>(hsv r hr).1) (a2_ _);have hrg:=Apw hb hcode press (ofC m.A0 (0,0)) (X:=wrL (CZ b vs m.A0) ⟨[],m,xs,CO b vs ps,(0,0)⟩) (Aok (hX _) λr hr=>(hsv r hr).1) (by show([]++CZ b vs m.A0).length≤_;rw[a5_];omega);unfold GW;simp only[d_];rw[Abw hb hcode hm ω vs ω];simp only[a_];simp only at hw1;rw[hw1];simp only[a_,Aaj (ω:m.A0.length≤100000),Rnd.tupB];rw[hrg];simp only[a_,Rnd.tupB];rw[show Im b.C0 b.E0 b.H0 b.M0 b.J0 b.L0 b.N0 b.B0 (Et b (Fd (AX (DJ press (Bx b)) (ofC m.A0 (0,0)))) (wrL (CZ b vs m.A0) ⟨[],m,xs,CO b vs ps,(0,0)⟩)).img.F0 (Et b (Fd (AX (DJ press (Bx b)) (ofC m.A0 (0,0)))) (wrL (CZ b vs m.A0) ⟨[],m,xs,CO b vs ps,(0,0)⟩)).img.O0 (Et b (Fd (AX (DJ press (Bx b)) (ofC m.A0 (0,0)))) (wrL (CZ b vs m.A0) ⟨[],m,xs,CO b vs ps,(0,0)⟩)).img.K0 (Et b (Fd (AX (DJ press (Bx b)) (ofC m.A0 (0,0)))) (wrL (CZ b vs m.A0) ⟨[],m,xs,CO b vs ps,(0,0)⟩)).img.A0 (Et b (Fd (AX (DJ press (Bx b)) (ofC m.A0 (0,0)))) (wrL (CZ b vs m.A0) ⟨[],m,xs,CO b vs ps,(0,0)⟩)).xs vs=_ from hplan];simp only[a_];refine Eq.trans (d3_ (λo=>Option.bind o _) (show _=D ((),((wrL (Oc b (BV b m xs vs ps press A).img (BV b m xs vs ps press A).xs vs).1 (BV b m xs vs ps press A)).tupB b,()))from hwr)) ?_;rfl
end
def AQ:CarOutput:=CarOutput.mk 0 0 B 0 0 B 0 0 B
structure Pk where
 m:Mch
 budget:Int
 e:Int
 legacy:List Bool
 shows:List Calls
 reset:List Bool
 out:Outputs
def Pk.ap{α:Type}(f:Int→Int→Int→Int→Nat→Nat→Nat→List Car→List Int→List Bool→List Bool→List Entry→ByteArray→ByteArray→Int→List aB→List Belief→List NewCar→List Loaded→List Int→List Calls→Int→Int→Int→Int→Int→Int→Int→List CarInput→Bool→Int→Int→List Bool→List Calls→List Bool→Int→Int→Int→Int→Bool→Bool→Int→List CarOutput→α)(b:C)(x:Inp)(g:Bool)(t:Pk):α:=f b.C0 b.E0 b.H0 b.M0 b.J0 b.L0 b.N0 b.B0 t.m.G0.F0 t.m.G0.O0 t.m.G0.K0 t.m.G0.A0 t.m.B1.h0 t.m.B1.h1 t.m.B1.sel t.m.K1 t.m.U0 t.m.B0 t.m.D3 t.m.E2 t.m.H3 t.m.B4 t.m.I3 t.m.Y2 x.press.1 x.press.2 x.kind x.car x.cars g t.budget t.e t.legacy t.shows t.reset t.out.Q2 t.out.G2 t.out.X1 t.out.G1 t.out.H5 t.out.L0 t.out.R2 t.out.B0
def Pk.tup(b:C)(x:Inp)(g:Bool)(t:Pk):=(b.C0,b.E0,b.H0,b.M0,b.J0,b.L0,b.N0,b.B0,t.m.G0.F0,t.m.G0.O0,t.m.G0.K0,t.m.G0.A0,t.m.B1.h0,t.m.B1.h1,t.m.B1.sel,t.m.K1,t.m.U0,t.m.B0,t.m.D3,t.m.E2,t.m.H3,t.m.B4,t.m.I3,t.m.Y2,x.press.1,x.press.2,x.kind,x.car,x.cars,g,t.budget,t.e,t.legacy,t.shows,t.reset,t.out.Q2,t.out.G2,t.out.X1,t.out.G1,t.out.H5,t.out.L0,t.out.R2,t.out.B0,())
def Pk.wr(t:Pk)(im:Img)(s:Sto)(bu e:Int):Pk:={ t with m:={ t.m with G0:=im,B1:=s },budget:=bu,e:=e }
def goodL(b:C):Img→List E→Prop
 |_,[]=>True
 |m,r::l=>At b r=A∧Je b m r=B∧goodL b (Aw m r) l
def goodL.app:∀{l:List E}{m:Img}{k:List E},goodL b m l→goodL b (Aq m l) k→goodL b m (l++k)
 |[],_,_,_,h=>h
 |_::_,_,_,⟨h1,h2,h3⟩,h=>⟨h1,h2,h3.app h⟩
def WV{b:C}:∀{l:List E}(m:Img),(∀r∈l,At b r=A∧r.R0≠1)→goodL b m l
 |[],_,_=>trivial
 |r::l,m,h=>by have h1:=h r (t_ ..);refine⟨h1.1,?_,WV _ λx hx=>h x (B_ _ hx)⟩;unfold Je;rw[An h1.2];rfl
def goodL.valid:∀{l:List E}{m:Img},goodL b m l→∀r∈l,At b r=A
 |[],_,_,_,h=>by cases h
 |_::_,_,⟨h1,_,h3⟩,r,h=>by
  rcases q_.1 h with rfl | h
  ·exact h1
  ·exact h3.valid r h
def goodL.drop:∀{l:List E}{m:Img},goodL b m l→∀i,i<l.length→At b (l.getD i ⟨0,0,0,0,0⟩)=A∧Je b (Aq m (l.take i)) (l.getD i ⟨0,0,0,0,0⟩)=B
 |[],_,_,_,h=>absurd h (f8_ _)
 |_::_,_,⟨h1,h2,_⟩,0,_=>⟨h1,h2⟩
 |_::_,_,⟨_,_,h3⟩,i+1,h=>h3.drop i (by rw[x_]at h;omega)
def Aop{i:Nat}(h:i<l.length):Aq m (l.take (i+1))=Aw (Aq m (l.take i)) (l.getD i ⟨0,0,0,0,0⟩):=by rw[List.take_succ,EQ,i_ h,k_,i_ h];rfl
def Aum(b:C)(s:Sto)(m:Img)(r:E):Sto:=if(s.cur.size:Int)+6≤b.H0 then s.set s.sel (s.get s.sel++txt (Cb r))else { s.set (1-s.sel) (txt ((CM (Aw m r)).flatMap Cb))with sel:=1-s.sel }
def Ar7(hj:Jst b s m)(hv:At b r=A)(hfull:Je b m r=B){bud:Int}(hb0:0≤bud)(hn:Rm b s m r≤bud):(Qq b s m r bud).1=Aum b s m r:=by
 have hm2:=(Mo hj.img hv).1;have hfit:=Yq hj hv hfull;have hsel:=UW hj.ok;unfold Qq;rw[Img.ok_iff.2 hj.img,hv,b_ hj.ok,f_ (ω:¬bud<0),hfull];simp only[a0_,o_,c_];unfold Rm at hn;unfold FH Aum;by_cases g:(s.cur.size:Int)+6≤b.H0
 ·rw[if_pos g]at hn;rw[if_pos g,b_ (ω:(6:Int)≤b.H0-(s.cur.size:Int)),d_];have hw:=Acn (t:=Cb r) hj.ok hsel hb0 (by rw[← Af2 hsel,Gz];omega);rw[Gz,if_neg (ω:¬bud<((6:Nat):Int))]at hw;rw[hw];rfl
 ·rw[if_neg g]at hn;rw[if_neg g,f_ (ω:¬(6:Int)≤b.H0-(s.cur.size:Int)),c_];rcases Wy hj.ok hm2 hb0 ω with⟨_,q2⟩ | ⟨q1,_⟩
  ·rw[q2];rfl
  ·omega
def Aod(b:C):Sto→Img→List E→Sto
 |s,_,[]=>s
 |s,m,r::l=>Aod b (Aum b s m r) (Aw m r) l
def Aoe(b:C):∀(l:List E) (k:List E) (s:Sto) (m:Img),Aod b s m (l++k)=Aod b (Aod b s m l) (Aq m l) k
 |[],_,_,_=>rfl
 |_::l,k,_,_=>Aoe b l k _ _
def Wr(b:C)(t:Pk)(l:List E)(t':Pk):Prop:=∃im s bu e,t'=t.wr im s bu e∧((e=0∧im=Aq t.m.G0 l∧Jst b s im∧t.budget-b.H0*(l.length:Int)≤bu∧0≤bu∧bu≤t.budget∧s=Aod b t.m.B1 t.m.G0 l)∨(e=8∧t.budget<b.H0*(l.length:Int)∧s.ok b.H0∧∃k,k<l.length∧CA b s=Aq t.m.G0 (l.take k)))
section
variable{b:C}(hb:b.small){x:Inp}{g:Bool}
include hb
theorem Bil(hj:Jst b s m)(hv:At b r=A)(hf:Je b m r=B):6≤Rm b s m r∧Rm b s m r≤b.H0:=by have h1:=Yq hj hv hf;have h2:=hj.fits;have h3:=Am hj.img.code;unfold Rm;split<;>omega
theorem ZO{t:Pk}(hj:Jst b t.m.B1 t.m.G0)(h0:0≤t.budget∧t.budget<9223372036854775808)(he:t.e=0)(hl:goodL b t.m.G0 l)(hn:l.length≤100000):Sat (t.ap (AU l) b x g) λy=>∃t',(y=.inl ((),(t'.tup b x g,()))∨y=.inr ((),(t'.tup b x g,())))∧Wr b t l t':=by
 have hcc:=Am hj.img.code;have hroom:0≤b.H0:=by have:=hj.fits;omega
 unfold Pk.ap AU;refine aD (Q:=λy=>∃t',(y=.inl ((),(t'.tup b x g,()))∨y=.inr ((),(t'.tup b x g,())))∧Wr b t l t') ?_ λy hy=>?_
 ·unfold Dq;refine Sat.loop (λ(k:Nat) z=>∃(i:Nat) (t':Pk),z=(((),l,(l.length:Int),(i:Int),()),(t'.tup b x g,()))∧i+k=l.length∧Wr b t (l.take i) t') (λk z hz=>?_) l.length ⟨0,t,rfl,n_ _,t.m.G0,t.m.B1,t.budget,t.e,rfl,.inl ⟨he,rfl,hj,σ,h0.1,e0_ _,rfl⟩⟩ ω;obtain⟨i,t',rfl,hk,im,s,bu,e,rfl,hw⟩:=hz;show Sat (Pk.ap (Fg l (l.length:Int) (i:Int)) b x g (t.wr im s bu e)) _;unfold Pk.ap Fg;refine Sat.bic (λq=>?_) λq=>aA ⟨t.wr im s bu e,.inl rfl,im,s,bu,e,rfl,?_⟩
  ·have q:(i:Int)<(l.length:Int):=m_ q;have hi:i<l.length:=ω;have hlt:(l.take i).length=i:=by rw[w_];omega
   have hlt1:(l.take (i+1)).length=i+1:=by rw[w_];omega
   have hm:b.H0*((i+1:Nat):Int)≤b.H0*(l.length:Int):=Int.mul_le_mul_of_nonneg_left ω hroom;have hm2:b.H0*((i+1:Nat):Int)=b.H0*(i:Int)+b.H0:=by rw[Int.natCast_add,Int.mul_add];simp
   refine aC (Ac ω q) ?_;rcases hw with⟨he,him,hj',hb1,hb2,hb3,hst⟩ | ⟨he,hb1,hs,k',hk',hr⟩
   ·subst he him;obtain⟨hv,hf⟩:=hl.drop i hi;have hent:=Ep hb hj'.img;have hp:=hj'.img.lp;refine Sat.bifF (show((0:Int) !=0)=B from rfl) (Sat.bindE (Aju hb ω s (m:=Aq t.m.G0 (l.take i)) ω ω (l.getD i ⟨0,0,0,0,0⟩) (bud:=bu) ω) ?_);have w:=CG (n:=i) ω;have hnd:=Bil hb hj' hv hf;rcases Ayo hb hj' hv hf hb2 with⟨c1,s',c2,c3⟩ | ⟨c1,s',c2,c3,c4⟩
    ·have hsto:=Ar7 hj' hv hf hb2 c1;rw[c2]at hsto;rw[c2];refine aA ⟨k-1,ω,i+1,t.wr (Aw (Aq t.m.G0 (l.take i)) (l.getD i ⟨0,0,0,0,0⟩)) s' (bu-Rm b s (Aq t.m.G0 (l.take i)) (l.getD i ⟨0,0,0,0,0⟩)) 0,by first | (rw[← w];rfl) | rw[← w],ω,_,s',_,0,rfl,.inl ⟨rfl,(Aop hi).symm,c3,?_,ω,ω,?_⟩⟩
     ·rw[hlt1];rw[hlt]at hb1;omega
     ·rw[List.take_succ,Aoe,← hst,i_ hi];rw[k_,i_ hi]at hsto;exact hsto
    ·rw[c2];refine aA ⟨k-1,ω,i+1,t.wr (Aq t.m.G0 (l.take i)) s' 0 8,by first | (rw[← w];rfl) | rw[← w],ω,_,s',0,8,rfl,.inr ⟨rfl,?_,c3,i,ω,?_⟩⟩
     ·rw[hlt1];rw[hlt]at hb1;omega
     ·rw[c4,List.take_take,c6_ ω]
   ·subst he;refine aC (show((8:Int) !=0)=A from rfl) (aA ⟨t.wr im s bu 8,.inr rfl,im,s,bu,8,rfl,.inr ⟨rfl,?_,hs,k',ω,?_⟩⟩)
    ·rw[hlt]at hb1;omega
    ·rw[hr,List.take_take,c6_ ω]
  ·have q:¬(i:Int)<(l.length:Int):=E_ q;rw[a3_ ω]at hw;exact hw
 ·obtain⟨t',h1 | h1,h2⟩:=hy
  ·subst h1;exact aA ⟨t',.inr rfl,h2⟩
  ·subst h1;exact aA ⟨t',.inl rfl,h2⟩
end
end Go.Ovl
namespace Go.Ovl
open Go Go.Ab
variable{n:Int}{i:Nat}{z:aB}{L:List Int}
structure Contacts where
 C0:Int
 Up:Bool
 N3:Bool
 U5:Bool
 D4:Bool
def Contacts.get(c:Contacts)(i:Int):Bool:=if i=32 then c.Up else if i=33 then c.N3 else if i=34 then c.U5 else if i=35 then c.D4 else decide (0≤i∧i<32)&&CU c.C0 i.toNat
def Contacts.set(c:Contacts)(i:Int)(on:Bool):Contacts:=
 if i=32 then { c with Up:=on }else if i=33 then { c with N3:=on }else if i=34 then { c with U5:=on }else if i=35 then { c with D4:=on }
 else if 0≤i∧i<32 then { c with C0:=Xq c.C0 i.toNat on }else c
def Contacts.wf(c:Contacts):Prop:=0≤c.C0∧c.C0<4294967296
def Contacts.tup(c:Contacts):Int×Bool×Bool×Bool×Bool×Unit:=(c.C0,c.Up,c.N3,c.U5,c.D4,())
def Contacts.set_wf{c:Contacts}(h:c.wf)(i:Int)(on:Bool):(c.set i on).wf:=by
 unfold Contacts.set
 repeat(split;exact h)
 split
 ·exact Au1 _ _ _
 ·exact h
def Auk{i:Int}(h:0≤i)(h2:i<32):i.toNat<32:=ω
def Th(c:Contacts)(hc:c.wf)(i:Int):KW c.C0 c.Up c.N3 c.U5 c.D4 i=D ((c.get i,()),()):=by
 unfold KW Contacts.get;by_cases h32:i=32
 ·simp[h32]
 by_cases h33:i=33
 ·simp[h33]
 by_cases h34:i=34
 ·simp[h34]
 by_cases h35:i=35
 ·simp[h35]
 simp only[h32,h33,h34,h35,e8_,An h32,An h33,An h34,An h35,c_];by_cases h0:0≤i
 ·by_cases h1:i<32
  ·simp only[Kf];rw[Bb1 hc (Auk h0 h1)];simp[h0,h1]
  ·simp[h0,h1]
 ·simp[h0]
def Aaw(c:Contacts)(i:Int)(on:Bool):ND c.C0 c.Up c.N3 c.U5 c.D4 i on=D (((),()),((c.set i on).tup,())):=by
 unfold ND Contacts.set;by_cases h32:i=32
 ·simp[h32,Contacts.tup]
 by_cases h33:i=33
 ·simp[h33,Contacts.tup]
 by_cases h34:i=34
 ·simp[h34,Contacts.tup]
 by_cases h35:i=35
 ·simp[h35,Contacts.tup]
 simp only[h32,h33,h34,h35,e8_,An h32,An h33,An h34,An h35,c_];by_cases h0:0≤i
 ·have e0:decide (0≤i)=A:=by simpa using h0
  by_cases h1:i<32
  ·have e1:decide (i<32)=A:=by simpa using h1
   simp only[e0,e1,d_,a_,Kf];rw[Aym _ (Auk h0 h1),Bqv _ (Auk h0 h1),Bau,if_pos ⟨h0,h1⟩];cases on<;>rfl
  ·have e1:decide (i<32)=B:=by simpa using h1
   simp only[e0,e1,d_,c_,a_];rw[if_neg ω];rfl
 ·have e0:decide (0≤i)=B:=by simpa using h0
  simp only[e0,c_,a_];rw[if_neg ω];rfl
structure Deb where
 c:Contacts
 k:List Int
def Deb.no:Deb:=⟨⟨0,B,B,B,B⟩,aE 36 0⟩
def Deb.tup(s:Deb):Int×Bool×Bool×Bool×Bool×Int×Int×Int×Int×Int×Int×Int×Int×Int×Int×Int×Int×Int×Int×Int×Int×Int×Int×Int×Int×Int×Int×Int×Int×Int×Int×Int×Int×Int×Int×Int×Int×Int×Int×Int×Int×Unit:=(s.c.C0,s.c.Up,s.c.N3,s.c.U5,s.c.D4,s.k.getD 0 0,s.k.getD 1 0,s.k.getD 2 0,s.k.getD 3 0,s.k.getD 4 0,s.k.getD 5 0,s.k.getD 6 0,s.k.getD 7 0,s.k.getD 8 0,s.k.getD 9 0,s.k.getD 10 0,s.k.getD 11 0,s.k.getD 12 0,s.k.getD 13 0,s.k.getD 14 0,s.k.getD 15 0,s.k.getD 16 0,s.k.getD 17 0,s.k.getD 18 0,s.k.getD 19 0,s.k.getD 20 0,s.k.getD 21 0,s.k.getD 22 0,s.k.getD 23 0,s.k.getD 24 0,s.k.getD 25 0,s.k.getD 26 0,s.k.getD 27 0,s.k.getD 28 0,s.k.getD 29 0,s.k.getD 30 0,s.k.getD 31 0,s.k.getD 32 0,s.k.getD 33 0,s.k.getD 34 0,s.k.getD 35 0,())
def Deb.cnt(s:Deb):Int×Int×Int×Int×Int×Int×Int×Int×Int×Int×Int×Int×Int×Int×Int×Int×Int×Int×Int×Int×Int×Int×Int×Int×Int×Int×Int×Int×Int×Int×Int×Int×Int×Int×Int×Int×Unit:=(s.k.getD 0 0,s.k.getD 1 0,s.k.getD 2 0,s.k.getD 3 0,s.k.getD 4 0,s.k.getD 5 0,s.k.getD 6 0,s.k.getD 7 0,s.k.getD 8 0,s.k.getD 9 0,s.k.getD 10 0,s.k.getD 11 0,s.k.getD 12 0,s.k.getD 13 0,s.k.getD 14 0,s.k.getD 15 0,s.k.getD 16 0,s.k.getD 17 0,s.k.getD 18 0,s.k.getD 19 0,s.k.getD 20 0,s.k.getD 21 0,s.k.getD 22 0,s.k.getD 23 0,s.k.getD 24 0,s.k.getD 25 0,s.k.getD 26 0,s.k.getD 27 0,s.k.getD 28 0,s.k.getD 29 0,s.k.getD 30 0,s.k.getD 31 0,s.k.getD 32 0,s.k.getD 33 0,s.k.getD 34 0,s.k.getD 35 0,())
def Deb.at(n:Int)(r:Contacts)(i:Nat)(s:Deb):Deb:=if r.get i=s.c.get i then⟨s.c,s.k.set i 0⟩else if s.k.getD i 0+1=n then⟨s.c.set i (r.get i),s.k.set i 0⟩else⟨s.c,s.k.set i (s.k.getD i 0+1)⟩
def Deb.step(n:Int)(s:Deb)(r:Contacts):Deb:=AE (Deb.at n r) 36 0 s
structure Deb.wf(s:Deb):Prop where
 c:s.c.wf
 len:s.k.length=36
 lo:∀j,j<36→0≤s.k.getD j 0
 hi:∀j,j<36→s.k.getD j 0<1000
def Deb.is(n:Int)(s:Deb):Prop:=1≤n∧n≤16∧∀j,j<36→0≤s.k.getD j 0∧s.k.getD j 0<n
def VR(h:L.length=36):[L.getD 0 0,L.getD 1 0,L.getD 2 0,L.getD 3 0,L.getD 4 0,L.getD 5 0,L.getD 6 0,L.getD 7 0,L.getD 8 0,L.getD 9 0,L.getD 10 0,L.getD 11 0,L.getD 12 0,L.getD 13 0,L.getD 14 0,L.getD 15 0,L.getD 16 0,L.getD 17 0,L.getD 18 0,L.getD 19 0,L.getD 20 0,L.getD 21 0,L.getD 22 0,L.getD 23 0,L.getD 24 0,L.getD 25 0,L.getD 26 0,L.getD 27 0,L.getD 28 0,L.getD 29 0,L.getD 30 0,L.getD 31 0,L.getD 32 0,L.getD 33 0,L.getD 34 0,L.getD 35 0]=L:=by
 have e:[L.getD 0 0,L.getD 1 0,L.getD 2 0,L.getD 3 0,L.getD 4 0,L.getD 5 0,L.getD 6 0,L.getD 7 0,L.getD 8 0,L.getD 9 0,L.getD 10 0,L.getD 11 0,L.getD 12 0,L.getD 13 0,L.getD 14 0,L.getD 15 0,L.getD 16 0,L.getD 17 0,L.getD 18 0,L.getD 19 0,L.getD 20 0,L.getD 21 0,L.getD 22 0,L.getD 23 0,L.getD 24 0,L.getD 25 0,L.getD 26 0,L.getD 27 0,L.getD 28 0,L.getD 29 0,L.getD 30 0,L.getD 31 0,L.getD 32 0,L.getD 33 0,L.getD 34 0,L.getD 35 0]=(List.range 36).map (λq=>L.getD q 0):=rfl;rw[e];apply List.ext_getElem
 ·simp[h]
 ·intro j h1 h2;simp[h2]
def Abl(h:i<L.length)(q:Nat)(v:Int):(bif Nat.beq i q then v else L.getD q 0)=(L.set i v).getD q 0:=by
 rw[BM];by_cases e:i=q
 ·subst e;simp[h]
 ·simp[e]
def Asa{s:Deb}(h:s.wf)(hs:s.is n){r:Contacts}(hi:i<36):(s.at n r i).wf∧(s.at n r i).is n:=by
 have hset:∀(v:Int) (j:Nat),(s.k.set i v).getD j 0=if j=i then v else s.k.getD j 0:=by
  intro v j;rw[← Abl (by rw[h.len];exact hi),BM];by_cases e:i=j
  ·simp[e]
  ·simp[e,f4_ e]
 have hn:=hs.1;have hn2:=hs.2.1;have key:∀v:Int,0≤v→v<n→∀j,j<36→0≤(s.k.set i v).getD j 0∧(s.k.set i v).getD j 0<n:=by
  intro v h1 h2 j hj;rw[hset];by_cases e:j=i
  ·rw[if_pos e];exact⟨h1,h2⟩
  ·rw[if_neg e];exact hs.2.2 j hj
 have fin:∀(c:Contacts) (v:Int),c.wf→0≤v→v<n→Deb.wf ⟨c,s.k.set i v⟩∧Deb.is n ⟨c,s.k.set i v⟩:=by intro c v hc h1 h2;have hk:=key v h1 h2;exact⟨⟨hc,by simp[h.len],λj hj=>(hk j hj).1,λj hj=>by have:=(hk j hj).2;simp only at this⊢;omega⟩,hn,hn2,hk⟩
 have hki:=hs.2.2 i hi;unfold Deb.at;split
 ·exact fin _ _ h.c ω ω
 ·split
  ·exact fin _ _ (Contacts.set_wf h.c _ _) ω ω
  ·exact fin _ _ h.c ω ω
def Ah5{n:Int}{r:Contacts}:∀(m i:Nat) (s:Deb),i+m≤36→s.wf→s.is n→(AE (Deb.at n r) m i s).wf∧(AE (Deb.at n r) m i s).is n
 |0,_,_,_,h,hs=>⟨h,hs⟩
 |m+1,i,s,hi,h,hs=>Ah5 m (i+1) (s.at n r i) ω (Asa h hs ω).1 (Asa h hs ω).2
def Biu{s:Deb}(h:s.wf)(hs:s.is n)(r:Contacts):(s.step n r).wf∧(s.step n r).is n:=Ah5 36 0 s ω h hs
def Ajp{s:Deb}(h:s.wf)(hs:s.is n){r:Contacts}(hr:r.wf)(b:Deb)(hi:i<36):
  HV n (i:Int) s.c.C0 s.c.Up s.c.N3 s.c.U5 s.c.D4 (s.k.getD 0 0) (s.k.getD 1 0) (s.k.getD 2 0) (s.k.getD 3 0) (s.k.getD 4 0) (s.k.getD 5 0) (s.k.getD 6 0) (s.k.getD 7 0) (s.k.getD 8 0) (s.k.getD 9 0) (s.k.getD 10 0) (s.k.getD 11 0) (s.k.getD 12 0) (s.k.getD 13 0) (s.k.getD 14 0) (s.k.getD 15 0) (s.k.getD 16 0) (s.k.getD 17 0) (s.k.getD 18 0) (s.k.getD 19 0) (s.k.getD 20 0) (s.k.getD 21 0) (s.k.getD 22 0) (s.k.getD 23 0) (s.k.getD 24 0) (s.k.getD 25 0) (s.k.getD 26 0) (s.k.getD 27 0) (s.k.getD 28 0) (s.k.getD 29 0) (s.k.getD 30 0) (s.k.getD 31 0) (s.k.getD 32 0) (s.k.getD 33 0) (s.k.getD 34 0) (s.k.getD 35 0) r.C0 r.Up r.N3 r.U5 r.D4 b.c.C0 b.c.Up b.c.N3 b.c.U5 b.c.D4 (b.k.getD 0 0) (b.k.getD 1 0) (b.k.getD 2 0) (b.k.getD 3 0) (b.k.getD 4 0) (b.k.getD 5 0) (b.k.getD 6 0) (b.k.getD 7 0) (b.k.getD 8 0) (b.k.getD 9 0) (b.k.getD 10 0) (b.k.getD 11 0) (b.k.getD 12 0) (b.k.getD 13 0) (b.k.getD 14 0) (b.k.getD 15 0) (b.k.getD 16 0) (b.k.getD 17 0) (b.k.getD 18 0) (b.k.getD 19 0) (b.k.getD 20 0) (b.k.getD 21 0) (b.k.getD 22 0) (b.k.getD 23 0) (b.k.getD 24 0) (b.k.getD 25 0) (b.k.getD 26 0) (b.k.getD 27 0) (b.k.getD 28 0) (b.k.getD 29 0) (b.k.getD 30 0) (b.k.getD 31 0) (b.k.getD 32 0) (b.k.getD 33 0) (b.k.getD 34 0) (b.k.getD 35 0)=
   D (.inl ((n,(),(),(),((i+1:Nat):Int),()),((s.at n r i).tup,r.tup,b.tup,()))):=by
 unfold HV;have e0:decide ((i:Int)<36)=A:=by simp;omega
 have ib:inB (i:Int) 36=A:=Ac ω ω;have tn:Int.toNat (i:Int)=i:=ω;have w:aF.wrap ((i:Int)+1)=((i+1:Nat):Int):=by rw[Aa ω ω];omega
 have hki:=h.lo i hi;have hki':=h.hi i hi;have wk:aF.wrap (s.k.getD i 0+1)=s.k.getD i 0+1:=Aa ω ω;have hl:i<s.k.length:=by rw[h.len];exact hi
 have hl2:∀v:Int,i<(s.k.set i v).length:=λv=>by simp;exact hl
 have hgi:∀v:Int,(s.k.set i v).getD i 0=v:=λv=>by simp[hl]
 rw[e0,d_,Th r hr (i:Int),Th s.c h.c (i:Int)];simp only[a_,ib,d_,tn,Abl hl,w,VR h.len,wk];unfold Deb.at;by_cases hq:r.get i=s.c.get i
 ·simp only[hq,l_,d_,g8_];rfl
 ·simp only[An hq,c_,hq,e8_];have l36:∀v:Int,(s.k.set i v).length=36:=λv=>by simp[h.len]
  try simp only[VR (l36 _),hgi,Abl (hl2 _),List.set_set]
  by_cases hn:s.k.getD i 0+1=n
  ·have:(s.k.getD i 0+1==n)=A:=by simpa using hn
   simp only[this,d_,g8_,hn,l_];rw[Aaw s.c (i:Int) (r.get i)];rfl
  ·simp only[An hn,c_,hn,e8_];rfl
noncomputable instance isDeb_ti(n:Int)(s:Deb):Decidable (s.is n):=Classical.propDecidable _
def Deb.rng(n:Int)(s:Deb):Prop:=∀j,j<36→0≤s.k.getD j 0∧s.k.getD j 0<n
noncomputable instance rngDeb_ti(n:Int)(s:Deb):Decidable (s.rng n):=Classical.propDecidable _
def Azj{s:Deb}:s.is n↔1≤n∧n≤16∧s.rng n:=Iff.rfl
def Ajq{s:Deb}(h:s.wf)(hs:s.is n){r:Contacts}(hr:r.wf):
  Gn ((n,(),(),(),(0:Int),()),(s.tup,r.tup,Deb.no.tup,()))=D (((),(),()),((s.step n r).tup,Deb.no.tup,())):=by
 unfold Gn;refine Ak (AP 36 (λ(i:Nat) (s:Deb)=>((n,(),(),(),(i:Int),()),(s.tup,r.tup,Deb.no.tup,()))) (Deb.at n r) (λ_ s=>s.wf∧s.is n) (λs=>(((),(),()),(s.tup,Deb.no.tup,()))) (λi s hi hin=>⟨Ajp hin.1 hin.2 hr Deb.no hi,Asa hin.1 hin.2 hi⟩) (λs hin=>?_) 36 0 s rfl ⟨h,hs⟩).1 ω;show HV n ((36:Nat):Int) s.c.C0 s.c.Up s.c.N3 s.c.U5 s.c.D4 (s.k.getD 0 0) (s.k.getD 1 0) (s.k.getD 2 0) (s.k.getD 3 0) (s.k.getD 4 0) (s.k.getD 5 0) (s.k.getD 6 0) (s.k.getD 7 0) (s.k.getD 8 0) (s.k.getD 9 0) (s.k.getD 10 0) (s.k.getD 11 0) (s.k.getD 12 0) (s.k.getD 13 0) (s.k.getD 14 0) (s.k.getD 15 0) (s.k.getD 16 0) (s.k.getD 17 0) (s.k.getD 18 0) (s.k.getD 19 0) (s.k.getD 20 0) (s.k.getD 21 0) (s.k.getD 22 0) (s.k.getD 23 0) (s.k.getD 24 0) (s.k.getD 25 0) (s.k.getD 26 0) (s.k.getD 27 0) (s.k.getD 28 0) (s.k.getD 29 0) (s.k.getD 30 0) (s.k.getD 31 0) (s.k.getD 32 0) (s.k.getD 33 0) (s.k.getD 34 0) (s.k.getD 35 0) r.C0 r.Up r.N3 r.U5 r.D4 Deb.no.c.C0 Deb.no.c.Up Deb.no.c.N3 Deb.no.c.U5 Deb.no.c.D4 (Deb.no.k.getD 0 0) (Deb.no.k.getD 1 0) (Deb.no.k.getD 2 0) (Deb.no.k.getD 3 0) (Deb.no.k.getD 4 0) (Deb.no.k.getD 5 0) (Deb.no.k.getD 6 0) (Deb.no.k.getD 7 0) (Deb.no.k.getD 8 0) (Deb.no.k.getD 9 0) (Deb.no.k.getD 10 0) (Deb.no.k.getD 11 0) (Deb.no.k.getD 12 0) (Deb.no.k.getD 13 0) (Deb.no.k.getD 14 0) (Deb.no.k.getD 15 0) (Deb.no.k.getD 16 0) (Deb.no.k.getD 17 0) (Deb.no.k.getD 18 0) (Deb.no.k.getD 19 0) (Deb.no.k.getD 20 0) (Deb.no.k.getD 21 0) (Deb.no.k.getD 22 0) (Deb.no.k.getD 23 0) (Deb.no.k.getD 24 0) (Deb.no.k.getD 25 0) (Deb.no.k.getD 26 0) (Deb.no.k.getD 27 0) (Deb.no.k.getD 28 0) (Deb.no.k.getD 29 0) (Deb.no.k.getD 30 0) (Deb.no.k.getD 31 0) (Deb.no.k.getD 32 0) (Deb.no.k.getD 33 0) (Deb.no.k.getD 34 0) (Deb.no.k.getD 35 0)=_;unfold HV;have e:decide (((36:Nat):Int)<36)=B:=rfl;rw[e];rfl
def Ajo{s:Deb}(hl:s.k.length=36):EJ ((n,s.cnt,(0:Int),()),())=D (if s.rng n then .inl ((),())else .inr ((B,()),())):=by
 unfold EJ;have key:∀(step:_→_),(∀i:Nat,step ((n,s.cnt,(i:Int),()),())=CQ n (s.k.getD 0 0) (s.k.getD 1 0) (s.k.getD 2 0) (s.k.getD 3 0) (s.k.getD 4 0) (s.k.getD 5 0) (s.k.getD 6 0) (s.k.getD 7 0) (s.k.getD 8 0) (s.k.getD 9 0) (s.k.getD 10 0) (s.k.getD 11 0) (s.k.getD 12 0) (s.k.getD 13 0) (s.k.getD 14 0) (s.k.getD 15 0) (s.k.getD 16 0) (s.k.getD 17 0) (s.k.getD 18 0) (s.k.getD 19 0) (s.k.getD 20 0) (s.k.getD 21 0) (s.k.getD 22 0) (s.k.getD 23 0) (s.k.getD 24 0) (s.k.getD 25 0) (s.k.getD 26 0) (s.k.getD 27 0) (s.k.getD 28 0) (s.k.getD 29 0) (s.k.getD 30 0) (s.k.getD 31 0) (s.k.getD 32 0) (s.k.getD 33 0) (s.k.getD 34 0) (s.k.getD 35 0) (i:Int))→∀(m i:Nat),i+m=36→(∀j,j<i→0≤s.k.getD j 0∧s.k.getD j 0<n)→BY step (m+1) ((n,s.cnt,(i:Int),()),())=D (if s.rng n then Sum.inl ((),())else Sum.inr ((B,()),())):=by
  intro step hstep m;induction m with
  |zero=>
   intro i hi hj
   have:i=36:=ω
   subst this;rw[if_pos (show s.rng n from hj)];refine AK ?_;rw[hstep];unfold CQ;have e:decide (((36:Nat):Int)<36)=B:=rfl;rw[e];rfl
  |succ m ih=>
   intro i hi hj;have e0:decide ((i:Int)<36)=A:=by simp;omega
   have ib:inB (i:Int) 36=A:=Ac ω ω;have tn:Int.toNat (i:Int)=i:=ω;have w:aF.wrap ((i:Int)+1)=((i+1:Nat):Int):=by rw[Aa ω ω];omega
   by_cases h1:s.k.getD i 0<0
   ·rw[if_neg (show ¬s.rng n from λhall=>by have:=(hall i ω).1;omega)];refine AK ?_;rw[hstep];unfold CQ;have e1:decide (s.k.getD i 0<0)=A:=by simpa using h1
    simp only[e0,ib,tn,VR hl,e1,d_]
   ·have e1:decide (s.k.getD i 0<0)=B:=by simpa using h1
    by_cases h2:n≤s.k.getD i 0
    ·rw[if_neg (show ¬s.rng n from λhall=>by have:=(hall i ω).2;omega)];refine AK ?_;rw[hstep];unfold CQ;have e2:decide (n≤s.k.getD i 0)=A:=by simpa using h2
     simp only[e0,ib,tn,VR hl,e1,e2,d_,c_]
    ·have e2:decide (n≤s.k.getD i 0)=B:=by simpa using h2
     have st:step ((n,s.cnt,(i:Int),()),())=D (.inl ((n,s.cnt,((i+1:Nat):Int),()),())):=by rw[hstep];unfold CQ;simp only[e0,ib,tn,VR hl,e1,e2,d_,c_,w];rfl
     rw[BS st];exact ih (i+1) ω λj hj'=>if e:j=i then by subst e;omega else hj j ω
 exact Ak (key _ (λ_=>rfl) 36 0 rfl (λj hj=>by omega)) ω
def Wh{s:Deb}(hl:s.k.length=36):Ey n s.c.C0 s.c.Up s.c.N3 s.c.U5 s.c.D4 (s.k.getD 0 0) (s.k.getD 1 0) (s.k.getD 2 0) (s.k.getD 3 0) (s.k.getD 4 0) (s.k.getD 5 0) (s.k.getD 6 0) (s.k.getD 7 0) (s.k.getD 8 0) (s.k.getD 9 0) (s.k.getD 10 0) (s.k.getD 11 0) (s.k.getD 12 0) (s.k.getD 13 0) (s.k.getD 14 0) (s.k.getD 15 0) (s.k.getD 16 0) (s.k.getD 17 0) (s.k.getD 18 0) (s.k.getD 19 0) (s.k.getD 20 0) (s.k.getD 21 0) (s.k.getD 22 0) (s.k.getD 23 0) (s.k.getD 24 0) (s.k.getD 25 0) (s.k.getD 26 0) (s.k.getD 27 0) (s.k.getD 28 0) (s.k.getD 29 0) (s.k.getD 30 0) (s.k.getD 31 0) (s.k.getD 32 0) (s.k.getD 33 0) (s.k.getD 34 0) (s.k.getD 35 0)=D ((decide (s.is n),()),()):=by
 unfold Ey;by_cases h1:n<1
 ·have:¬s.is n:=λh=>by have:=h.1;omega
  simp[h1,this]
 ·have h1':1≤n:=ω;by_cases h2:16<n
  ·have:¬s.is n:=λh=>by have:=h.2.1;omega
   simp[h1,h2,this]
  ·have h2':n≤16:=ω;have hl':=Ajo (n:=n) hl;simp only[Deb.cnt]at hl';have e1:decide (n<1)=B:=by simpa using h1
   have e2:decide (16<n)=B:=by simpa using h2
   simp only[e1,e2,c_,hl',a_];by_cases h3:s.rng n
   ·rw[if_pos h3,b_ (Azj.2 ⟨h1',h2',h3⟩)]
   ·rw[if_neg h3,f_ λh=>h3 (Azj.1 h).2.2]
def ZQ{s:Deb}(h:s.wf)(hs:s.is n){r:Contacts}(hr:r.wf):MF n s.c.C0 s.c.Up s.c.N3 s.c.U5 s.c.D4 (s.k.getD 0 0) (s.k.getD 1 0) (s.k.getD 2 0) (s.k.getD 3 0) (s.k.getD 4 0) (s.k.getD 5 0) (s.k.getD 6 0) (s.k.getD 7 0) (s.k.getD 8 0) (s.k.getD 9 0) (s.k.getD 10 0) (s.k.getD 11 0) (s.k.getD 12 0) (s.k.getD 13 0) (s.k.getD 14 0) (s.k.getD 15 0) (s.k.getD 16 0) (s.k.getD 17 0) (s.k.getD 18 0) (s.k.getD 19 0) (s.k.getD 20 0) (s.k.getD 21 0) (s.k.getD 22 0) (s.k.getD 23 0) (s.k.getD 24 0) (s.k.getD 25 0) (s.k.getD 26 0) (s.k.getD 27 0) (s.k.getD 28 0) (s.k.getD 29 0) (s.k.getD 30 0) (s.k.getD 31 0) (s.k.getD 32 0) (s.k.getD 33 0) (s.k.getD 34 0) (s.k.getD 35 0) r.C0 r.Up r.N3 r.U5 r.D4=D (((),()),((s.step n r).tup,())):=by have hl:=Ajq h hs hr;unfold MF;show(Gn ((n,(),(),(),(0:Int),()),(s.tup,r.tup,Deb.no.tup,()))).bind _=_;rw[hl];rfl
def ZP{s:Deb}(h:s.k.length=36)(hc:s.c.wf){r:Contacts}(hr:r.wf):
  JD n s.c.C0 s.c.Up s.c.N3 s.c.U5 s.c.D4 (s.k.getD 0 0) (s.k.getD 1 0) (s.k.getD 2 0) (s.k.getD 3 0) (s.k.getD 4 0) (s.k.getD 5 0) (s.k.getD 6 0) (s.k.getD 7 0) (s.k.getD 8 0) (s.k.getD 9 0) (s.k.getD 10 0) (s.k.getD 11 0) (s.k.getD 12 0) (s.k.getD 13 0) (s.k.getD 14 0) (s.k.getD 15 0) (s.k.getD 16 0) (s.k.getD 17 0) (s.k.getD 18 0) (s.k.getD 19 0) (s.k.getD 20 0) (s.k.getD 21 0) (s.k.getD 22 0) (s.k.getD 23 0) (s.k.getD 24 0) (s.k.getD 25 0) (s.k.getD 26 0) (s.k.getD 27 0) (s.k.getD 28 0) (s.k.getD 29 0) (s.k.getD 30 0) (s.k.getD 31 0) (s.k.getD 32 0) (s.k.getD 33 0) (s.k.getD 34 0) (s.k.getD 35 0) r.C0 r.Up r.N3 r.U5 r.D4=if s.is n then D (((),(0:Int),()),((s.step n r).tup,()))else D (((),(1:Int),()),(Deb.no.tup,())):=by
 unfold JD;rw[Wh h];by_cases hs:s.is n
 ·have hw:s.wf:=⟨hc,h,λj hj=>(hs.2.2 j hj).1,λj hj=>by have:=(hs.2.2 j hj).2;have:=hs.2.1;omega⟩
  simp only[hs,decide_true,a_,o_,c_,g8_];rw[ZQ hw hs hr];rfl
 ·simp only[hs,decide_false,a_,d4_,d_,e8_];rfl
structure BW(b:Bldg):Prop where
 small:b.small
 code:b.code=0
 room:b.H0≤600
 full:Sat (arF .sub .f64 b.L0 4589168020290535424) λ_=>True
 over:Sat (arF .sub .f64 b.N0 4589168020290535424) λ_=>True
def As7(b:C)(c:aB):Prop:=Ux b.E0 c=A∧0≤c.V0∧c.V0<4294967296
structure PM(b:Bldg)(m:Mch):Prop where
 jst:Jst b m.B1 m.G0
 con:m.K1.length=b.B0.length
 conv:∀c∈m.K1,As7 b c
 bel:m.U0.length=b.B0.length
 belv:∀i,i<b.B0.length→BelOK b i (m.U0.getD i GH)
 car:m.B0.length=b.B0.length
 carv:∀c∈m.B0,Hx b c=true
 lod:m.D3.length=b.B0.length
 lodv:∀l∈m.D3,0≤l.V5∧l.V5≤4
 lit:m.H3.length=b.B0.length
 exl:m.E2.length=m.G0.A0.length
 exv:∀x∈m.E2,0≤x∧x≤1000000
 tick:0≤m.B4∧m.B4≤1000000
 flt:0≤m.I3∧m.I3≤1000000
 ref:0≤m.Y2∧m.Y2≤1000000
structure PR(b:Bldg)(t:Pk):Prop where
 leg:t.legacy.length=b.B0.length
 sho:t.shows.length=b.B0.length
 rst:t.reset.length=b.B0.length
 oc:t.out.B0.length=b.B0.length
 cmd:∀i,CmdR (t.out.B0.getD i AQ).H2
structure FixR(t t':Pk):Prop where
 im:t'.m.G0=t.m.G0
 st:t'.m.B1=t.m.B1
 bu:t'.budget=t.budget
 e:t'.e=t.e
 out:t'.out={ t.out with B0:=t'.out.B0 }
structure Fix(t t':Pk):Prop extends FixR t t' where
 con:t'.m.K1=t.m.K1
def Fix.rfl'(t:Pk):Fix t t:=⟨⟨rfl,rfl,rfl,rfl,rfl⟩,rfl⟩
def Fix.trans{a c d:Pk}(h:Fix a c)(k:Fix c d):Fix a d:=⟨⟨k.im.trans h.im,k.st.trans h.st,k.bu.trans h.bu,k.e.trans h.e,by rw[k.out,h.out]⟩,k.con.trans h.con⟩
def Ahd{α:Type}{P:α→Prop}{l:List α}(h:∀x∈l,P x){v:α}(hv:P v)(i:Nat):∀x∈l.set i v,P x:=λx hx=>by
 rcases List.mem_or_eq_of_mem_set hx with hx | rfl
 ·exact h x hx
 ·exact hv
section
variable{b:C}{m:Mch}
def PM.sBel(h:PM b m){v:Belief}(hv:BelOK b i v):PM b { m with U0:=m.U0.set i v }:=
 ⟨h.jst,h.con,h.conv,by show(m.U0.set i v).length=_;rw[D_];exact h.bel,λj hj=>by
  show BelOK b j ((m.U0.set i v).getD j GH);by_cases e:i=j
  ·subst e;rw[Bq _ _ (by rw[h.bel];exact hj)];exact hv
  ·rw[CX _ _ e];exact h.belv j hj,h.car,h.carv,h.lod,h.lodv,h.lit,h.exl,h.exv,h.tick,h.flt,h.ref⟩
def PM.sCar(h:PM b m)(i:Nat){v:NewCar}(hv:Hx b v=A):PM b { m with B0:=m.B0.set i v }:=⟨h.jst,h.con,h.conv,h.bel,h.belv,by show(m.B0.set i v).length=_;rw[D_];exact h.car,Ahd h.carv hv i,h.lod,h.lodv,h.lit,h.exl,h.exv,h.tick,h.flt,h.ref⟩
def PM.sCon(h:PM b m)(i:Nat){v:aB}(hv:As7 b v){w:Loaded}(hw:0≤w.V5∧w.V5≤4):PM b { m with K1:=m.K1.set i v,D3:=m.D3.set i w }:=⟨h.jst,by show(m.K1.set i v).length=_;rw[D_];exact h.con,Ahd h.conv hv i,h.bel,h.belv,h.car,h.carv,by show(m.D3.set i w).length=_;rw[D_];exact h.lod,Ahd h.lodv hw i,h.lit,h.exl,h.exv,h.tick,h.flt,h.ref⟩
def PM.sTick(h:PM b m){k:Int}(hn:0≤n∧n≤1000000)(hk:0≤k∧k≤1000000):PM b { m with B4:=n,I3:=k }:=⟨h.jst,h.con,h.conv,h.bel,h.belv,h.car,h.carv,h.lod,h.lodv,h.lit,h.exl,h.exv,hn,hk,h.ref⟩
end
@[reducible] def Bv0(z:aB):=(z.V0,z.J2,z.S1,z.T1,z.D1,z.I5,z.K5,z.L5,z.M5,z.N5,z.O5,z.Q5,z.R5,z.S5,z.T5,z.G4,z.H4,z.I4,z.J4,z.K4,z.L4,z.M4,z.N4,z.O4,z.P4,z.Q4,z.R4,z.S4,z.T4,z.U4,z.V4,z.W4,z.X4,z.Y4,z.Z4,z.A5,z.B5,z.C5,z.E5,z.F5,z.G5,())
def Yj(z:aB):Deb:=⟨⟨z.V0,z.J2,z.S1,z.T1,z.D1⟩,Abb z⟩
def Ata(s:Deb):aB:=Debounced.mk s.c.C0 s.c.Up s.c.N3 s.c.U5 s.c.D4 (s.k.getD 0 0) (s.k.getD 1 0) (s.k.getD 2 0) (s.k.getD 3 0) (s.k.getD 4 0) (s.k.getD 5 0) (s.k.getD 6 0) (s.k.getD 7 0) (s.k.getD 8 0) (s.k.getD 9 0) (s.k.getD 10 0) (s.k.getD 11 0) (s.k.getD 12 0) (s.k.getD 13 0) (s.k.getD 14 0) (s.k.getD 15 0) (s.k.getD 16 0) (s.k.getD 17 0) (s.k.getD 18 0) (s.k.getD 19 0) (s.k.getD 20 0) (s.k.getD 21 0) (s.k.getD 22 0) (s.k.getD 23 0) (s.k.getD 24 0) (s.k.getD 25 0) (s.k.getD 26 0) (s.k.getD 27 0) (s.k.getD 28 0) (s.k.getD 29 0) (s.k.getD 30 0) (s.k.getD 31 0) (s.k.getD 32 0) (s.k.getD 33 0) (s.k.getD 34 0) (s.k.getD 35 0)
def Ay1:Ux n z=A↔(Yj z).is n:=by
 unfold Ux Deb.is;rw[e_,e_,r_,r_];refine and_congr_right λ_=>and_congr_right λ_=>⟨λh j hj=>?_,λh=>Ul 36 0 λk _ hk=>?_⟩
 ·have:=To 36 0 h j (a2_ _) ω
  unfold Alr at this;simp only[e_,r_]at this;exact this
 ·have:=h k ω
  unfold Alr;simp only[e_,r_];exact this
def Af1{b:C}(hcode:b.code=0)(h:As7 b z){f:Int}(hf:0≤f∧f<4294967296)(u d o c:Bool):Sat (JD b.E0 z.V0 z.J2 z.S1 z.T1 z.D1 z.I5 z.K5 z.L5 z.M5 z.N5 z.O5 z.Q5 z.R5 z.S5 z.T5 z.G4 z.H4 z.I4 z.J4 z.K4 z.L4 z.M4 z.N4 z.O4 z.P4 z.Q4 z.R4 z.S4 z.T4 z.U4 z.V4 z.W4 z.X4 z.Y4 z.Z4 z.A5 z.B5 z.C5 z.E5 z.F5 z.G5 f u d o c) λy=>∃z',y.2.1=Bv0 z'∧As7 b z'∧z'=Ata ((Yj z).step b.E0 ⟨f,u,d,o,c⟩):=by
 have hi:=Ay1.1 h.1;have hd:=Als hcode;have hw:(Yj z).wf:=⟨h.2,rfl,λj hj=>(hi.2.2 j hj).1,λj hj=>by have:=(hi.2.2 j hj).2;omega⟩
 have e:=ZP (n:=b.E0) (s:=Yj z) rfl h.2 (r:=⟨f,u,d,o,c⟩) hf;rw[if_pos hi]at e;obtain⟨w1,w2⟩:=Biu hw hi ⟨f,u,d,o,c⟩;refine⟨_,e,Ata ((Yj z).step b.E0 ⟨f,u,d,o,c⟩),rfl,⟨Ay1.2 ?_,w1.c⟩,rfl⟩;generalize(Yj z).step b.E0 ⟨f,u,d,o,c⟩=s at w1 w2
 have:Yj (Ata s)=s:=by unfold Yj;rw[show Abb (Ata s)=s.k from VR w1.len];rfl
 rw[this];exact w2
def Anc(h:0≤n∧n≤1000000):Sat (HH n) λy=>0≤y.1.1∧y.1.1≤1000000:=by
 unfold HH;rw[Aa ω ω];refine aA ?_;show 0≤(bif decide (1000000<n+1)then(1000000:Int)else n+1)∧(bif decide (1000000<n+1)then(1000000:Int)else n+1)≤1000000;by_cases g:1000000<n+1
 ·rw[b_ g,d_];omega
 ·rw[f_ g,c_];omega
section
variable{b:C}(hw:BW b){x:Inp}{g:Bool}(hx:g=A→InOK b x)
include hw hx
theorem Bq1{t:Pk}(hm:PM b t.m)(hr:PR b t):Sat (t.ap El b x g) λy=>∃t',(y=.inl ((),(t'.tup b x g,()))∨y=.inr ((),(t'.tup b x g,())))∧PM b t'.m∧PR b t'∧FixR t t':=by
 have hcc:=Am hw.code;unfold Pk.ap El;refine aD (Anc hm.tick) λn1 h1=>Sat.bic (λ_=>?_) λhg=>?_
 ·exact aD (Anc hm.flt) λn2 h2=>aA ⟨{ t with m:={ t.m with B4:=n1.1.1,I3:=n2.1.1 } },.inl rfl,hm.sTick h1 h2,⟨hr.leg,hr.sho,hr.rst,hr.oc,hr.cmd⟩,⟨rfl,rfl,rfl,rfl,rfl⟩⟩
 ·rw[Bool.not_eq_false']at hg;have hxi:=hx hg;refine aD (Q:=λy=>∃t',y=((),(t'.tup b x g,()))∧PM b t'.m∧PR b t'∧FixR t t') ?_ λy hy=>by obtain⟨t',rfl,h⟩:=hy;exact aA ⟨t',.inr rfl,h⟩
  unfold DI;refine Sat.loop (λ(k:Nat) z=>∃(i:Nat) (t':Pk),z=(((),x.cars,(x.cars.length:Int),(i:Int),()),(t'.tup b x g,()))∧i+k=x.cars.length∧PM b t'.m∧PR b t'∧FixR t t') (λk z hz=>?_) x.cars.length ⟨0,{ t with m:={ t.m with B4:=n1.1.1 } },rfl,n_ _,hm.sTick h1 hm.flt,⟨hr.leg,hr.sho,hr.rst,hr.oc,hr.cmd⟩,⟨rfl,rfl,rfl,rfl,rfl⟩⟩ (by have:=hxi.len;omega);obtain⟨i,t',rfl,hk,hm,hr,hf⟩:=hz;show Sat (Pk.ap (FA x.cars (x.cars.length:Int) (i:Int)) b x g t') _;unfold Pk.ap FA;refine Sat.bic (λq=>?_) λ_=>aA ⟨t',rfl,hm,hr,hf⟩;have q:(i:Int)<(x.cars.length:Int):=m_ q;have hl:=hxi.len;have hin:i<b.B0.length:=ω;have w:=CG (n:=i) ω;have i1:inB (i:Int) t'.m.K1.length=A:=Ac ω (by rw[hm.con];omega);have i3:inB (i:Int) t'.m.D3.length=A:=Ac ω (by rw[hm.lod];omega);have hcf:=hxi.flo _ (BR (CarInput.mk 0 B B B B 0 B 0 B 0 0) (ω:i<x.cars.length));have hcw:=hm.conv _ (BR Fk (show i<t'.m.K1.length by rw[hm.con];exact hin));refine aC (Ac ω q) (aC i1 (aD (Af1 hw.code hcw hcf _ _ _ _) λy1 h1=>?_));obtain⟨⟨ya,yb,yc⟩,yd,ye⟩:=y1;obtain⟨z',e1,hz',_⟩:=h1;change yd=_ at e1;subst e1;refine aC i1 (aC i3 (aD (Apk hw.full hw.over _ _) λy2 h2=>aC i3 ?_));refine aA ⟨k-1,ω,i+1,{ t' with m:={ t'.m with K1:=t'.m.K1.set i z',D3:=t'.m.D3.set i (Loaded.mk y2.2.1.1) } },by first | (rw[← w];rfl) | rw[← w],ω,hm.sCon i hz' h2,⟨hr.leg,hr.sho,hr.rst,hr.oc,hr.cmd⟩,⟨hf.im,hf.st,hf.bu,hf.e,hf.out⟩⟩
end
end Go.Ovl
