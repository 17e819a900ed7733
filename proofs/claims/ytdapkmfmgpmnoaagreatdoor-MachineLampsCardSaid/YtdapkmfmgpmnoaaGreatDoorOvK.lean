/- Layer 24: the round of a tick by the program. -/
import Derived.Test.YtdapkmfmgpmnoaaGreatDoorOvJ
import Derived.Test.YtdapkmfmgpmnoaaGreatDoorOvI
import Derived.Test.YtdapkmfmgpmnoaaGreatDoorOvF
import Derived.Test.YtdapkmfmgpmnoaaGreatDoorOvG
import Derived.Test.YtdapkmfmgpmnoaaGreatDoorOvD
import Derived.Test.YtdapkmfmgpmnoaaGreatDoorOvC
import Derived.Test.YtdapkmfmgpmnoaaGreatDoorDefs4
import Derived.Test.YtdapkmfmgpmnoaaGreatDoorOvA
set_option linter.all false
open Bool renaming true->A,false->B
open Option renaming some->C
open Go.Ovl renaming Bldg->D,Record->E,Debounced->aB
open Go.Ovl.Sat renaming ret->aA,bifT->aC,bindS->aD
open List renaming replicate->aE
open Go.IntKind renaming i64->aF
namespace Go.Ovl
open Go Go.Ab
set_option maxRecDepth 100000
variable{b:D}{e:Entry}{l:List E}{xs:List Int}{m:Img}{X:Rnd}
def ZZ{l:List Entry}(hl:l.length≤100000):Sb l=C (((),()),(((ofC l (0,0)).1,(ofC l (0,0)).2,()),())):=by
 have e2:∀(k i:Nat) (c:Int×Int),i+k=l.length→BQ (λx=>JP x.1.2.2.1 x.1.2.2.2.1 x.1.2.2.2.2.1 x.2.1.1 x.2.1.2.1 x.2.2.1.1 x.2.2.1.2.1) (k+1) (((),(),l,(l.length:Int),(i:Int),()),(((0:Int),(0:Int),()),(c.1,c.2,()),()))=C (((),(),()),(((0:Int),(0:Int),()),((ofC (l.drop i) c).1,(ofC (l.drop i) c).2,()),())):=by
  intro k
  induction k with
  |zero=>
   intro i c hi;obtain rfl:i=l.length:=ω
   refine Az ?_;show JP l (l.length:Int) (l.length:Int) 0 0 c.1 c.2=_;unfold JP;rw[f_ (H_ (l.length:Int)),a5_];rfl
  |succ k ih=>
   intro i c hi;have hi':i<l.length:=ω
   rw[BU noE hi'];refine(Bu (x':=(((),(),l,(l.length:Int),((i+1:Nat):Int),()),(((0:Int),(0:Int),()),((By c (DI (l.getD i noE).D0 (l.getD i noE).I0)).1,(By c (DI (l.getD i noE).D0 (l.getD i noE).I0)).2,()),()))) ?_).trans (ih (i+1) _ ω)
   show JP l (l.length:Int) (i:Int) 0 0 c.1 c.2=_;unfold JP;rw[show Entry.mk 0 0 0 0 B=noE from rfl]
   have hu:=Gy c (DI (l.getD i noE).D0 (l.getD i noE).I0);simp only[b_ (ω:(i:Int)<(l.length:Int)),Ac (ω:(0:Int)≤(i:Int)) (ω:(i:Int)<(l.length:Int)),d_,i_,JY,a_,hu,Dp hi' (show l.length≤AG by unfold AG;omega)]
 have h:=e2 l.length 0 (0,0) ω
 rw[Q_]at h;have h':OZ (((),(),l,(l.length:Int),(0:Int),()),(((0:Int),(0:Int),()),((0:Int),(0:Int),()),()))=_:=Ai h ω
 unfold Sb;rw[h'];rfl
def YM(e:Entry):E:=Record.mk 1 e.D0 e.I0 0 0
def Cs(b:D)(e:Entry)(X:Rnd):Rnd:=bif KM b X.img then Ra (YM e) X else⟨X.recs,X.img,X.xs,X.lan,By X.ref (DI e.D0 e.I0)⟩
def Eo(b:D):List Entry→Rnd→Rnd
 |[],X=>X
 |e::t,X=>Eo b t (Cs b e X)
def Bqd(r:E)(X:Rnd):wrL [r] X=Ra r X:=by
 rw[Xm];unfold wrL;rw[a9_];rfl
def YN(h:Am b e.D0 e.I0=A):Au b (YM e)=A:=by
 have hc:(b.code==0)=A:=by
  unfold Am at h;rw[e_]at h;exact h.1
 unfold Au YM;rw[hc];simp only[l_,d_,h,a3_]
def An1(h:X.ok b)(he:Am b e.D0 e.I0=A):(Cs b e X).ok b:=by
 unfold Cs;cases KM b X.img with
 |true=>exact Xh h (YN he)
 |false=>exact⟨h.img,h.len⟩
def Aq6{b:D}:∀{l:List Entry}{X:Rnd},X.ok b→(∀e∈l,Am b e.D0 e.I0=A)→(Eo b l X).ok b
 |[],_,h,_=>h
 |e::t,X,h,hv=>by
  show(Eo b t (Cs b e X)).ok b;exact Aq6 (An1 h (hv e (s_ ..))) λx hx=>hv x (x_ _ hx)
def Aeu(b:D)(e:Entry)(X:Rnd):(Cs b e X).recs.length≤X.recs.length+1:=by
 unfold Cs;cases KM b X.img with
 |true=>show(X.recs++[_]).length≤_;rw[h_,J_];exact z_ _
 |false=>exact Nat.le_succ _
def Aio(b:D):∀(l:List Entry) (X:Rnd),(Eo b l X).recs.length≤X.recs.length+l.length
 |[],_=>z_ _
 |e::t,X=>by
  have h1:=Aio b t (Cs b e X);have h2:=Aeu b e X;show(Eo b t (Cs b e X)).recs.length≤_;rw[C_];omega
def Aic(c:Int×Int):(Ff c).length≤64:=by
 have h:∀k i:Nat,((List.range' i k).flatMap (Lf c)).length≤2*k:=by
  intro k
  induction k with
  |zero=>intro i;exact z_ _
  |succ k ih=>
   intro i;rw[d8_,a1_,h_]
   have:=ih (i+1)
   have:=Adb c i
   omega
 exact h 32 0
def Aie{c:Int×Int}(h:e∈Ff c):(0≤e.D0∧e.D0<32)∧(e.I0=1∨e.I0=2)∧Ak c e.D0.toNat e.I0=A:=by
 obtain⟨f,h1,h2,h3,h4⟩:=mem_range.1 (b6_.2 ⟨e,h,rfl⟩);simp only[BT]at h2 h3 h4;refine⟨ω,h3,?_⟩
 rw[h2,i_];exact h4
def Lg(b:D)(m:Img)(press:Int×Int):Int×Int:=Aq (CT press (Bx b)) (ofC m.A0 (0,0))
def WE(hb:b.small)(hcode:b.code=0){press old:Int×Int}(h:e∈Ff (Aq (CT press (Bx b)) old)):Am b e.D0 e.I0=A:=by
 obtain⟨h1,h2,h3⟩:=Aie h;rw[BY _ _ ω,Oq,e_,e_,WK hb hcode ω h2,f3_ h1.1]at h3
 exact h3.1.2
section
variable{b:D}(hb:b.small)(hcode:b.code=0)
include hb hcode
theorem Ajz{es:List Entry}(hl:es.length≤1000)(hv:∀e∈es,Am b e.D0 e.I0=A):∀(k i:Nat) (Y:Rnd),i+k=es.length→Y.ok b→Y.recs.length≤1000+i→BQ (λx=>letI d:=x.2.1.2.2.2;letI f:=d.2.2;letI a:=f.2.2.2;letI g:=a.2.2;letI c:=g.2.2.2;letI e:=c.2.2;Bv x.1.2.1 x.1.2.2.1 x.1.2.2.2.1 x.2.1.1 x.2.1.2.1 x.2.1.2.2.1 d.1 d.2.1 f.1 f.2.1 f.2.2.1 a.1 a.2.1 g.1 g.2.1 g.2.2.1 c.1 c.2.1 e.1 e.2.1 e.2.2.1 e.2.2.2.1 e.2.2.2.2.1) (k+1) (((),es,(es.length:Int),(i:Int),()),(Y.tupB b,()))=C ((),((Eo b (es.drop i) Y).tupB b,())):=by
 intro k
 induction k with
 |zero=>
  intro i Y hi _ _;obtain rfl:i=es.length:=ω
  refine Az ?_;show Bv es (es.length:Int) (es.length:Int) Y.recs Y.img.F0 Y.img.O0 Y.img.K0 Y.img.A0 Y.xs Y.lan.lit Y.lan.gong Y.lan.cl.1 Y.lan.cl.2 Y.ref.1 Y.ref.2 b.C0 b.E0 b.H0 b.M0 b.J0 b.L0 b.N0 b.B0=_;unfold Bv;rw[f_ (H_ (es.length:Int)),a5_];rfl
 |succ k ih=>
  intro i Y hi hY hr;have hi':i<es.length:=ω
  have hv':=hv _ (CA noE hi');have hcc:=Aj hcode;have he:=Ek hb hY.img;have hlp:=hY.img.lp;rw[BU noE hi'];refine(Bu (x':=(((),es,(es.length:Int),((i+1:Nat):Int),()),((Cs b (es.getD i noE) Y).tupB b,()))) ?_).trans (ih (i+1) _ ω (An1 hY hv') (by have:=Aeu b (es.getD i noE) Y;omega))
  show Bv es (es.length:Int) (i:Int) Y.recs Y.img.F0 Y.img.O0 Y.img.K0 Y.img.A0 Y.xs Y.lan.lit Y.lan.gong Y.lan.cl.1 Y.lan.cl.2 Y.ref.1 Y.ref.2 b.C0 b.E0 b.H0 b.M0 b.J0 b.L0 b.N0 b.B0=_;unfold Bv Cs;rw[show Entry.mk 0 0 0 0 B=noE from rfl,Aae hb Y.img ω ω ω]
  simp only[b_ (ω:(i:Int)<(es.length:Int)),Ac (ω:(0:Int)≤(i:Int)) (ω:(i:Int)<(es.length:Int)),d_,i_,a_,Dp hi' (show es.length≤AG by unfold AG;omega)]
  cases KM b Y.img with
  |true=>
   have hw:=Acb hb hcode hY (l:=[YM (es.getD i noE)]) (by show 1≤100000;omega) (by
    intro r hr;rw[P_.1 hr];exact YN hv') ω
   rw[Bqd]at hw;unfold YM at hw;simp only[d_,hw,a_];rfl
  |false=>
   have hu:=Gy Y.ref (DI (es.getD i noE).D0 (es.getD i noE).I0);simp only[c_,JY,a_,hu];rfl
theorem App(press old:Int×Int)(hX:X.ok b)(hr:X.recs.length≤1000):Db press.1 press.2 old.1 old.2 X.recs X.img.F0 X.img.O0 X.img.K0 X.img.A0 X.xs X.lan.lit X.lan.gong X.lan.cl.1 X.lan.cl.2 X.ref.1 X.ref.2 b.C0 b.E0 b.H0 b.M0 b.J0 b.L0 b.N0 b.B0=C ((),((Eo b (Ff (Aq (CT press (Bx b)) old)) X).tupB b,())):=by
 have hl:=Aic (Aq (CT press (Bx b)) old);have h:=Ajz hb hcode (es:=Ff (Aq (CT press (Bx b)) old)) ω (λe he=>WE hb hcode he) _ 0 X (p_ _) hX ω
 rw[Q_]at h;have h':CM (((),Ff (Aq (CT press (Bx b)) old),((Ff (Aq (CT press (Bx b)) old)).length:Int),(0:Int),()),(X.tupB b,()))=_:=Ai h ω
 unfold Db;rw[KE hb hcode];simp only[a_];rw[Ld press (Bx b)];simp only[a_];rw[Qi (CT press (Bx b)) old];simp only[a_];rw[Xq];simp only[a_];unfold Rnd.tupB at h';rw[h'];rfl
end
def Ajg(n:Int):GT n=C ((!inR 0 1000000 n,()),()):=by
 unfold GT inR;by_cases g:n<0
 ·rw[b_ g,f_ (ω:¬0≤n)];rfl
 ·rw[f_ g,b_ (ω:0≤n)]
  by_cases g':1000000<n
  ·rw[b_ g',f_ (ω:¬n≤1000000)];rfl
  ·rw[f_ g',b_ (ω:n≤1000000)];rfl
def Alj(hl:xs.length≤maxLen):Bm xs=C ((!PH xs,()),()):=by
 have hm:maxLen≤9223372036854775807:=by decide
 have key:∀(k i:Nat),i+k=xs.length→∃y,BQ (λx=>AJ x.1.1 x.1.2.2.1 x.1.2.2.2.1) (k+1) ((xs,(),(xs.length:Int),(i:Int),()),())=C y∧(match y with | .inl _=>(xs.drop i).all (inR 0 1000000)=A | .inr z=>0≤z.1.1∧(xs.drop i).all (inR 0 1000000)=B):=by
  intro k
  induction k with
  |zero=>
   intro i hi;refine⟨.inl ((),()),Az ?_,?_⟩
   ·show AJ xs (xs.length:Int) (i:Int)=_
    unfold AJ;rw[show decide ((i:Int)<(xs.length:Int))=B by simp;omega];rfl
   ·rw[show i=xs.length by omega,a5_];rfl
  |succ k ih=>
   intro i hi;have hi':i<xs.length:=ω
   have hs:AJ xs (xs.length:Int) (i:Int)=C (bif inR 0 1000000 (xs.getD i 0)then .inl ((xs,(),(xs.length:Int),((i+1:Nat):Int),()),())else .inr (.inr (((i:Int),()),()))):=by
    unfold AJ;have w:aF.wrap ((i:Int)+1)=((i+1:Nat):Int):=by rw[Aa ω ω];omega
    rw[show decide ((i:Int)<(xs.length:Int))=A by simp;omega,Ac ω ω,Ajg,w]
    simp only[d_,i_,a_];cases inR 0 1000000 (xs.getD i 0)<;>rfl
   rw[BU (0:Int) hi',X_];cases hq:inR 0 1000000 (xs.getD i 0)with
   |true=>
    rw[hq]at hs;obtain⟨y,h1,h2⟩:=ih (i+1) ω
    exact⟨y,(Bu hs).trans h1,by rw[n_];exact h2⟩
   |false=>
    rw[hq]at hs;exact⟨_,Az hs,by show(0:Int)≤(i:Int)∧_;exact⟨ω,rfl⟩⟩
 obtain⟨y,h1,h2⟩:=key xs.length 0 ω
 have h1':Bq ((xs,(),(xs.length:Int),(0:Int),()),())=C y:=Ai h1 ω
 rw[Q_]at h2;unfold Bm Cl PH;rw[h1'];cases y with
 |inl z=>simp only at h2;rw[h2];rfl
 |inr z=>
  simp only at h2;rw[h2.2];simp only[a_];rw[b_ h2.1];rfl
def Wo(m:Img)(hl:xs.length≤maxLen):Ig m.F0 m.O0 m.K0 m.A0 xs=C (((((xs.length:Int)==(m.A0.length:Int))&&PH xs),()),()):=by
 unfold Ig;rw[Alj hl];cases((xs.length:Int)==(m.A0.length:Int))with
 |false=>rfl
 |true=>simp only[d_,a_,n_,Bool.not_not]
def CR{α:Type}(l:List α)(h:l.length≤100000):PD l=C ((l,()),()):=by
 unfold PD;rw[Ay (ω:l.length≤2147483648)];rfl
def Asx(n:Nat):Lan:=⟨aE n noP,aE n B,(0,0)⟩
def BZ(b:D)(m:Img)(xs:List Int)(vs:List View)(ps:List Calls)(press:Int×Int)(good:Bool):Rnd:=
 bif good then Eo b (Ff (Lg b m press)) (wrL (CV b vs m.A0) ⟨[],m,xs,CK b vs ps,(0,0)⟩)else⟨[],m,xs,Asx vs.length,(0,0)⟩
noncomputable def Xj(b:D)(m:Img)(xs:List Int)(vs:List View)(ps:List Calls)(press:Int×Int)(good:Bool):List E×List Int×Int×Unit:=NT b (BZ b m xs vs ps press good).img (BZ b m xs vs ps press good).xs vs
noncomputable def Ga(b:D)(m:Img)(xs:List Int)(vs:List View)(ps:List Calls)(press:Int×Int)(good:Bool):Rnd:={ wrL (Xj b m xs vs ps press good).1 (BZ b m xs vs ps press good)with xs:=(Xj b m xs vs ps press good).2.1 }
def Vm(hcode:b.code=0)(vs:List View):∀{l:List Entry},(∀e∈l,Am b e.D0 e.I0=A)→∀r∈CV b vs l,Au b r=A∧r.R0=2:=λh r hr=>by
 obtain⟨e,he,hr⟩:=d1_.1 hr;have hc:=h e he;cases hs:Je b vs e.D0 e.I0 with
 |false=>rw[hs]at hr;cases hr
 |true=>
  rw[hs]at hr;rw[P_.1 hr];refine⟨?_,rfl⟩;unfold Au;rw[hcode];simp only[show((2:Int)==1)=B from rfl,c_,l_,d_,hc,a3_]
def Apb(hcode:b.code=0){vs:List View}(hm:ImgOK b m)(xs:List Int):∀r∈(NT b m xs vs).1,Au b r=A:=by
 have hcc:=Aj hcode;unfold NT;rw[Img.ok_iff.2 hm];cases hq:((xs.length:Int)==(m.A0.length:Int))with
 |false=>exact λr hr=>by cases hr
 |true=>
  cases hv:((vs.length:Int)==(b.B0.length:Int))with
  |false=>exact λr hr=>by cases hr
  |true=>
   cases PH xs with
   |false=>exact λr hr=>by cases hr
   |true=>
    have h1:(xs.length:Int)=(m.A0.length:Int):=by simpa using hq
    have h2:(vs.length:Int)=(b.B0.length:Int):=by simpa using hv
    exact(WX (b:=b) ω h2 m.A0 xs [] m ω hm rfl).2.1
section
variable{b:D}(hb:b.small)(hcode:b.code=0){m:Img}(hm:ImgOK b m){xs:List Int}(hx:xs.length=m.A0.length){vs:List View}(ps:List Calls)(press:Int×Int)(good:Bool)
include hb hcode hm hx
theorem An4:(BZ b m xs vs ps press good).ok b∧(BZ b m xs vs ps press good).recs.length≤100:=by
 have he:=Ek hb hm;have hX:∀L:Lan,Rnd.ok b ⟨[],m,xs,L,(0,0)⟩:=λL=>⟨hm,hx⟩
 unfold BZ;cases good with
 |false=>exact⟨hX _,a6_ _⟩
 |true=>
  have hv:=Vm hcode vs (l:=m.A0) λe he=>(Dt.1 (hm.en e he)).1
  refine⟨Aq6 (An8 (hX _) λr hr=>(hv r hr).1) λe he=>WE hb hcode he,?_⟩
  have h1:=Aio b (Ff (Lg b m press)) (wrL (CV b vs m.A0) ⟨[],m,xs,CK b vs ps,(0,0)⟩);have h2:=Aic (Lg b m press);have h3:=YT b vs m.A0;have h4:(wrL (CV b vs m.A0) ⟨[],m,xs,CK b vs ps,(0,0)⟩).recs.length=(CV b vs m.A0).length:=rfl;show(Eo b (Ff (Lg b m press)) (wrL (CV b vs m.A0) ⟨[],m,xs,CK b vs ps,(0,0)⟩)).recs.length≤100;omega
theorem Aa4(hexp:PH xs=A)(hv:okViews vs)(hvl:vs.length=b.B0.length)(hp:ps.length=b.B0.length):LA b.C0 b.E0 b.H0 b.M0 b.J0 b.L0 b.N0 b.B0 m.F0 m.O0 m.K0 m.A0 xs vs ps press.1 press.2 good=C (((),0,()),((Ga b m xs vs ps press good).tup,())):=by
 have hcc:=Aj hcode;have he:=Ek hb hm;have hlp:=hm.lp;have hlf:=hm.lf;have hll:=hm.ll;have hmx:100000≤maxLen:=by decide
 have hX:∀L:Lan,Rnd.ok b ⟨[],m,xs,L,(0,0)⟩:=λL=>⟨hm,hx⟩
 obtain⟨hok,hrl⟩:=An4 hb hcode hm hx (vs:=vs) ps press good;have hlight:=Abk hb hcode vs ps ω
 unfold Ad0 at hlight;rw[show((vs.length:Int)==(b.B0.length:Int))=A by rw[hvl];exact l_ _,show((ps.length:Int)==(b.B0.length:Int))=A by rw[hp];exact l_ _]at hlight
 simp only[a3_,d_]at hlight;have hXl:=Ek hb hok.img;have hXp:=hok.img.lp;have hXx:=hok.len;have hplan:=Afd hb hv ω (BZ b m xs vs ps press good).img ω ω (BZ b m xs vs ps press good).xs ω
 have hpl:=(Azu b (BZ b m xs vs ps press good).img (BZ b m xs vs ps press good).xs vs).1;have hwr:=Acb hb hcode hok (l:=(NT b (BZ b m xs vs ps press good).img (BZ b m xs vs ps press good).xs vs).1) ω (Apb hcode hok.img _) ω
 unfold LA;rw[hlight];simp only[a_,T_,c_,Lan.tup];rw[CS hb m ω ω,Img.ok_iff.2 hm]
 simp only[a_,o_,c_];rw[Wo m ω,show((xs.length:Int)==(m.A0.length:Int))=A by rw[hx];exact l_ _,hexp]
 unfold Nd BI Bf Bp OG;rw[CR m.F0 ω,CR m.O0 ω,CR m.K0 ω,CR m.A0 ω,CR xs ω]
 simp only[a_,a3_,o_,c_,b_ (ω:(0:Int)≤(vs.length:Int)),b_ (e1_ (vs.length:Int)),b_ (ω:(vs.length:Int)≤2147483648),d_,i_]
 cases good with
 |false=>
  simp only[c_,a_];rw[show Iq b.C0 b.E0 b.H0 b.M0 b.J0 b.L0 b.N0 b.B0 m.F0 m.O0 m.K0 m.A0 xs vs=_ from hplan]
  simp only[a_];rw[show Bz (NT b (BZ b m xs vs ps press B).img (BZ b m xs vs ps press B).xs vs).1 [] m.F0 m.O0 m.K0 m.A0 xs (aE vs.length (Calls.mk 0 0)) (aE vs.length B) 0 0 0 0 b.C0 b.E0 b.H0 b.M0 b.J0 b.L0 b.N0 b.B0=_ from hwr]
  rfl
 |true=>
  have hsv:=Vm hcode vs (l:=m.A0) λe he=>(Dt.1 (hm.en e he)).1
  have hsl:=YT b vs m.A0;have hw1:=Acb hb hcode (hX (CK b vs ps)) (l:=CV b vs m.A0) ω (λr hr=>(hsv r hr).1) (a6_ _)
  have hrg:=App hb hcode press (ofC m.A0 (0,0)) (X:=wrL (CV b vs m.A0) ⟨[],m,xs,CK b vs ps,(0,0)⟩) (An8 (hX _) λr hr=>(hsv r hr).1) (by show([]++CV b vs m.A0).length≤_;rw[a2_];omega)
  unfold GU;simp only[d_];rw[Abl hb hcode hm ω vs ω]
  simp only[a_];simp only at hw1;rw[hw1];simp only[a_,ZZ (ω:m.A0.length≤100000),Rnd.tupB]
  rw[hrg];simp only[a_,Rnd.tupB];rw[show Iq b.C0 b.E0 b.H0 b.M0 b.J0 b.L0 b.N0 b.B0 (Eo b (Ff (Aq (CT press (Bx b)) (ofC m.A0 (0,0)))) (wrL (CV b vs m.A0) ⟨[],m,xs,CK b vs ps,(0,0)⟩)).img.F0 (Eo b (Ff (Aq (CT press (Bx b)) (ofC m.A0 (0,0)))) (wrL (CV b vs m.A0) ⟨[],m,xs,CK b vs ps,(0,0)⟩)).img.O0 (Eo b (Ff (Aq (CT press (Bx b)) (ofC m.A0 (0,0)))) (wrL (CV b vs m.A0) ⟨[],m,xs,CK b vs ps,(0,0)⟩)).img.K0 (Eo b (Ff (Aq (CT press (Bx b)) (ofC m.A0 (0,0)))) (wrL (CV b vs m.A0) ⟨[],m,xs,CK b vs ps,(0,0)⟩)).img.A0 (Eo b (Ff (Aq (CT press (Bx b)) (ofC m.A0 (0,0)))) (wrL (CV b vs m.A0) ⟨[],m,xs,CK b vs ps,(0,0)⟩)).xs vs=_ from hplan]
  simp only[a_];refine Eq.trans (b8_ (λo=>Option.bind o _) (show _=C ((),((wrL (NT b (BZ b m xs vs ps press A).img (BZ b m xs vs ps press A).xs vs).1 (BZ b m xs vs ps press A)).tupB b,()))from hwr)) ?_
  rfl
end
structure Pk where
 m:Mch
 budget:Int
 e:Int
 legacy:List Bool
 shows:List Calls
 reset:List Bool
 out:Outputs
def Pk.ap{α:Type}(f:Int→Int→Int→Int→Nat→Nat→Nat→List Car→List Int→List Bool→List Bool→List Entry→ByteArray→ByteArray→Int→List aB→List Belief→List NewCar→List Loaded→List Int→List Calls→Int→Int→Int→Int→Int→Int→Int→List CarInput→Bool→Int→Int→List Bool→List Calls→List Bool→Int→Int→Int→Int→Bool→Bool→Int→List CarOutput→α)(b:D)(x:Inp)(g:Bool)(t:Pk):α:=
 f b.C0 b.E0 b.H0 b.M0 b.J0 b.L0 b.N0 b.B0 t.m.G0.F0 t.m.G0.O0 t.m.G0.K0 t.m.G0.A0 t.m.Z0.h0 t.m.Z0.h1 t.m.Z0.sel t.m.S1 t.m.W0 t.m.B0 t.m.R2 t.m.U1 t.m.B3 t.m.T3 t.m.T2 t.m.H2 x.press.1 x.press.2 x.kind x.car x.cars g t.budget t.e t.legacy t.shows t.reset t.out.Z3 t.out.U3 t.out.L3 t.out.A3 t.out.V5 t.out.L0 t.out.U5 t.out.B0
def Pk.tup(b:D)(x:Inp)(g:Bool)(t:Pk):=(b.C0,b.E0,b.H0,b.M0,b.J0,b.L0,b.N0,b.B0,t.m.G0.F0,t.m.G0.O0,t.m.G0.K0,t.m.G0.A0,t.m.Z0.h0,t.m.Z0.h1,t.m.Z0.sel,t.m.S1,t.m.W0,t.m.B0,t.m.R2,t.m.U1,t.m.B3,t.m.T3,t.m.T2,t.m.H2,x.press.1,x.press.2,x.kind,x.car,x.cars,g,t.budget,t.e,t.legacy,t.shows,t.reset,t.out.Z3,t.out.U3,t.out.L3,t.out.A3,t.out.V5,t.out.L0,t.out.U5,t.out.B0,())
def Pk.wr(t:Pk)(im:Img)(s:Sto)(bu e:Int):Pk:={ t with m:={ t.m with G0:=im,Z0:=s },budget:=bu,e:=e }
def goodL(b:D):Img→List E→Prop
 |_,[]=>True
 |m,r::l=>Au b r=A∧Jv b m r=B∧goodL b (AC m r) l
def goodL.app:∀{l:List E}{m:Img}{k:List E},goodL b m l→goodL b (AB m l) k→goodL b m (l++k)
 |[],_,_,_,h=>h
 |_::_,_,_,⟨h1,h2,h3⟩,h=>⟨h1,h2,h3.app h⟩
def WI{b:D}:∀{l:List E}(m:Img),(∀r∈l,Au b r=A∧r.R0≠1)→goodL b m l
 |[],_,_=>trivial
 |r::l,m,h=>by
  have h1:=h r (s_ ..);refine⟨h1.1,?_,WI _ λx hx=>h x (x_ _ hx)⟩
  unfold Jv;rw[An h1.2];rfl
def goodL.valid:∀{l:List E}{m:Img},goodL b m l→∀r∈l,Au b r=A
 |[],_,_,_,h=>by cases h
 |_::_,_,⟨h1,_,h3⟩,r,h=>by
  rcases r_.1 h with rfl | h
  ·exact h1
  ·exact h3.valid r h
def goodL.drop:∀{l:List E}{m:Img},goodL b m l→∀i,i<l.length→Au b (l.getD i ⟨0,0,0,0,0⟩)=A∧Jv b (AB m (l.take i)) (l.getD i ⟨0,0,0,0,0⟩)=B
 |[],_,_,_,h=>absurd h (Nat.not_lt_zero _)
 |_::_,_,⟨h1,h2,_⟩,0,_=>⟨h1,h2⟩
 |_::_,_,⟨_,_,h3⟩,i+1,h=>h3.drop i (by rw[C_]at h;omega)
def Aoe{i:Nat}(h:i<l.length):AB m (l.take (i+1))=AC (AB m (l.take i)) (l.getD i ⟨0,0,0,0,0⟩):=by
 rw[List.take_succ,EL,j_ h,k_,j_ h];rfl
def Wr(b:D)(t:Pk)(l:List E)(t':Pk):Prop:=∃im s bu e,t'=t.wr im s bu e∧((e=0∧im=AB t.m.G0 l∧Jst b s im∧t.budget-b.H0*(l.length:Int)≤bu∧0≤bu∧bu≤t.budget)∨(e=8∧t.budget<b.H0*(l.length:Int)∧s.ok b.H0∧∃k,k<l.length∧CC b s=AB t.m.G0 (l.take k)))
section
variable{b:D}(hb:b.small){x:Inp}{g:Bool}
include hb
theorem Bhz{s:Sto}(hj:Jst b s m){r:E}(hv:Au b r=A)(hf:Jv b m r=B):6≤UG b s m r∧UG b s m r≤b.H0:=by
 have h1:=Ahr hj hv hf;have h2:=hj.fits;have h3:=Aj hj.img.code;unfold UG;split<;>omega
theorem ZF{t:Pk}(hj:Jst b t.m.Z0 t.m.G0)(h0:0≤t.budget∧t.budget<9223372036854775808)(he:t.e=0)(hl:goodL b t.m.G0 l)(hn:l.length≤100000):Sat (t.ap (AY l) b x g) λy=>∃t',(y=.inl ((),(t'.tup b x g,()))∨y=.inr ((),(t'.tup b x g,())))∧Wr b t l t':=by
 have hcc:=Aj hj.img.code;have hroom:0≤b.H0:=by have:=hj.fits;omega
 unfold Pk.ap AY;refine aD (Q:=λy=>∃t',(y=.inl ((),(t'.tup b x g,()))∨y=.inr ((),(t'.tup b x g,())))∧Wr b t l t') ?_ λy hy=>?_
 ·unfold Do
  refine Sat.loop (λ(k:Nat) z=>∃(i:Nat) (t':Pk),z=(((),l,(l.length:Int),(i:Int),()),(t'.tup b x g,()))∧i+k=l.length∧Wr b t (l.take i) t') (λk z hz=>?_) l.length ⟨0,t,rfl,p_ _,t.m.G0,t.m.Z0,t.budget,t.e,rfl,.inl ⟨he,rfl,hj,by simp,h0.1,e1_ _⟩⟩ ω
  obtain⟨i,t',rfl,hk,im,s,bu,e,rfl,hw⟩:=hz;show Sat (Pk.ap (Fh l (l.length:Int) (i:Int)) b x g (t.wr im s bu e)) _;unfold Pk.ap Fh;refine Sat.bic (λq=>?_) λq=>aA ⟨t.wr im s bu e,.inl rfl,im,s,bu,e,rfl,?_⟩
  ·have q:(i:Int)<(l.length:Int):=m_ q
   have hi:i<l.length:=ω
   have hlt:(l.take i).length=i:=by rw[y_];omega
   have hlt1:(l.take (i+1)).length=i+1:=by rw[y_];omega
   have hm:b.H0*((i+1:Nat):Int)≤b.H0*(l.length:Int):=Int.mul_le_mul_of_nonneg_left ω hroom
   have hm2:b.H0*((i+1:Nat):Int)=b.H0*(i:Int)+b.H0:=by rw[Int.natCast_add,Int.mul_add];simp
   refine aC (Ac ω q) ?_
   rcases hw with⟨he,him,hj',hb1,hb2,hb3⟩ | ⟨he,hb1,hs,k',hk',hr⟩
   ·subst he him
    obtain⟨hv,hf⟩:=hl.drop i hi;have hent:=Ek hb hj'.img;have hp:=hj'.img.lp;refine Sat.bifF (show((0:Int) !=0)=B from rfl) (Sat.bindE (Ajh hb ω s (m:=AB t.m.G0 (l.take i)) ω ω (l.getD i ⟨0,0,0,0,0⟩) (bud:=bu) ω) ?_)
    have w:=CW (n:=i) ω
    have hnd:=Bhz hb hj' hv hf;rcases Ax2 hb hj' hv hf hb2 with⟨c1,s',c2,c3⟩ | ⟨c1,s',c2,c3,c4⟩
    ·rw[c2]
     refine aA ⟨k-1,ω,i+1,t.wr (AC (AB t.m.G0 (l.take i)) (l.getD i ⟨0,0,0,0,0⟩)) s' (bu-UG b s (AB t.m.G0 (l.take i)) (l.getD i ⟨0,0,0,0,0⟩)) 0,by first | (rw[← w];rfl) | rw[← w],ω,_,s',_,0,rfl,.inl ⟨rfl,(Aoe hi).symm,c3,?_,ω,ω⟩⟩
     rw[hlt1];rw[hlt]at hb1;omega
    ·rw[c2]
     refine aA ⟨k-1,ω,i+1,t.wr (AB t.m.G0 (l.take i)) s' 0 8,by first | (rw[← w];rfl) | rw[← w],ω,_,s',0,8,rfl,.inr ⟨rfl,?_,c3,i,ω,?_⟩⟩
     ·rw[hlt1]
      rw[hlt]at hb1;omega
     ·rw[c4,List.take_take,d0_ ω]
   ·subst he
    refine aC (show((8:Int) !=0)=A from rfl) (aA ⟨t.wr im s bu 8,.inr rfl,im,s,bu,8,rfl,.inr ⟨rfl,?_,hs,k',ω,?_⟩⟩)
    ·rw[hlt]at hb1
     omega
    ·rw[hr,List.take_take,d0_ ω]
  ·have q:¬(i:Int)<(l.length:Int):=F_ q
   rw[b1_ ω]at hw
   exact hw
 ·obtain⟨t',h1 | h1,h2⟩:=hy
  ·subst h1;exact aA ⟨t',.inr rfl,h2⟩
  ·subst h1;exact aA ⟨t',.inl rfl,h2⟩
end
end Go.Ovl
namespace Go.Ovl
open Go Go.Ab
variable{n:Int}{i:Nat}{z:aB}{L:List Int}
structure Contacts where
 C0:Int
 Up:Bool
 R3:Bool
 R5:Bool
 Y3:Bool
def Contacts.get(c:Contacts)(i:Int):Bool:=
 if i=32 then c.Up else if i=33 then c.R3 else if i=34 then c.R5 else if i=35 then c.Y3 else decide (0≤i∧i<32)&&CQ c.C0 i.toNat
def Contacts.set(c:Contacts)(i:Int)(on:Bool):Contacts:=
 if i=32 then { c with Up:=on }else if i=33 then { c with R3:=on }else if i=34 then { c with R5:=on }else if i=35 then { c with Y3:=on }
 else if 0≤i∧i<32 then { c with C0:=Xf c.C0 i.toNat on }else c
def Contacts.wf(c:Contacts):Prop:=0≤c.C0∧c.C0<4294967296
def Contacts.tup(c:Contacts):Int×Bool×Bool×Bool×Bool×Unit:=(c.C0,c.Up,c.R3,c.R5,c.Y3,())
def Contacts.set_wf{c:Contacts}(h:c.wf)(i:Int)(on:Bool):(c.set i on).wf:=by
 unfold Contacts.set
 repeat(split;exact h)
 split
 ·exact Aun _ _ _
 ·exact h
def Contacts.ext'{c d:Contacts}(hc:c.wf)(hd:d.wf)(h:∀j:Int,0≤j→j<36→c.get j=d.get j):c=d:=by
 have hF:c.C0=d.C0:=by
  refine Afi hc hd λi hi=>?_
  have:=h (i:Int) ω ω
  unfold Contacts.get at this;rw[if_neg ω,if_neg ω,if_neg ω,if_neg ω,if_neg ω,if_neg ω,if_neg ω,if_neg ω]at this
  simpa[show(0≤(i:Int)∧(i:Int)<32)from⟨ω,ω⟩,hi]using this
 have h32:=h 32 ω ω
 have h33:=h 33 ω ω
 have h34:=h 34 ω ω
 have h35:=h 35 ω ω
 simp[Contacts.get]at h32 h33 h34 h35;cases c;cases d
 simp_all
def At3{i:Int}(h:0≤i)(h2:i<32):i.toNat<32:=ω
def Tg(c:Contacts)(hc:c.wf)(i:Int):KU c.C0 c.Up c.R3 c.R5 c.Y3 i=C ((c.get i,()),()):=by
 unfold KU Contacts.get;by_cases h32:i=32
 ·simp[h32]
 by_cases h33:i=33
 ·simp[h33]
 by_cases h34:i=34
 ·simp[h34]
 by_cases h35:i=35
 ·simp[h35]
 simp only[h32,h33,h34,h35,f2_,An h32,An h33,An h34,An h35,c_];by_cases h0:0≤i
 ·by_cases h1:i<32
  ·simp only[Kf]
   rw[Bbe hc (At3 h0 h1)];simp[h0,h1]
  ·simp[h0,h1]
 ·simp[h0]
def Aam(c:Contacts)(i:Int)(on:Bool):Nv c.C0 c.Up c.R3 c.R5 c.Y3 i on=C (((),()),((c.set i on).tup,())):=by
 unfold Nv Contacts.set;by_cases h32:i=32
 ·simp[h32,Contacts.tup]
 by_cases h33:i=33
 ·simp[h33,Contacts.tup]
 by_cases h34:i=34
 ·simp[h34,Contacts.tup]
 by_cases h35:i=35
 ·simp[h35,Contacts.tup]
 simp only[h32,h33,h34,h35,f2_,An h32,An h33,An h34,An h35,c_];by_cases h0:0≤i
 ·have e0:decide (0≤i)=A:=by simpa using h0
  by_cases h1:i<32
  ·have e1:decide (i<32)=A:=by simpa using h1
   simp only[e0,e1,d_,a_,Kf];rw[Ax0 _ (At3 h0 h1),Bpy _ (At3 h0 h1),Baa,if_pos ⟨h0,h1⟩];cases on<;>rfl
  ·have e1:decide (i<32)=B:=by simpa using h1
   simp only[e0,e1,d_,c_,a_];rw[if_neg ω];rfl
 ·have e0:decide (0≤i)=B:=by simpa using h0
  simp only[e0,c_,a_];rw[if_neg ω];rfl
structure Deb where
 c:Contacts
 k:List Int
def Deb.no:Deb:=⟨⟨0,B,B,B,B⟩,aE 36 0⟩
def Deb.tup(s:Deb):Int×Bool×Bool×Bool×Bool×Int×Int×Int×Int×Int×Int×Int×Int×Int×Int×Int×Int×Int×Int×Int×Int×Int×Int×Int×Int×Int×Int×Int×Int×Int×Int×Int×Int×Int×Int×Int×Int×Int×Int×Int×Int×Unit:=(s.c.C0,s.c.Up,s.c.R3,s.c.R5,s.c.Y3,s.k.getD 0 0,s.k.getD 1 0,s.k.getD 2 0,s.k.getD 3 0,s.k.getD 4 0,s.k.getD 5 0,s.k.getD 6 0,s.k.getD 7 0,s.k.getD 8 0,s.k.getD 9 0,s.k.getD 10 0,s.k.getD 11 0,s.k.getD 12 0,s.k.getD 13 0,s.k.getD 14 0,s.k.getD 15 0,s.k.getD 16 0,s.k.getD 17 0,s.k.getD 18 0,s.k.getD 19 0,s.k.getD 20 0,s.k.getD 21 0,s.k.getD 22 0,s.k.getD 23 0,s.k.getD 24 0,s.k.getD 25 0,s.k.getD 26 0,s.k.getD 27 0,s.k.getD 28 0,s.k.getD 29 0,s.k.getD 30 0,s.k.getD 31 0,s.k.getD 32 0,s.k.getD 33 0,s.k.getD 34 0,s.k.getD 35 0,())
def Deb.cnt(s:Deb):Int×Int×Int×Int×Int×Int×Int×Int×Int×Int×Int×Int×Int×Int×Int×Int×Int×Int×Int×Int×Int×Int×Int×Int×Int×Int×Int×Int×Int×Int×Int×Int×Int×Int×Int×Int×Unit:=(s.k.getD 0 0,s.k.getD 1 0,s.k.getD 2 0,s.k.getD 3 0,s.k.getD 4 0,s.k.getD 5 0,s.k.getD 6 0,s.k.getD 7 0,s.k.getD 8 0,s.k.getD 9 0,s.k.getD 10 0,s.k.getD 11 0,s.k.getD 12 0,s.k.getD 13 0,s.k.getD 14 0,s.k.getD 15 0,s.k.getD 16 0,s.k.getD 17 0,s.k.getD 18 0,s.k.getD 19 0,s.k.getD 20 0,s.k.getD 21 0,s.k.getD 22 0,s.k.getD 23 0,s.k.getD 24 0,s.k.getD 25 0,s.k.getD 26 0,s.k.getD 27 0,s.k.getD 28 0,s.k.getD 29 0,s.k.getD 30 0,s.k.getD 31 0,s.k.getD 32 0,s.k.getD 33 0,s.k.getD 34 0,s.k.getD 35 0,())
def Deb.at(n:Int)(r:Contacts)(i:Nat)(s:Deb):Deb:=
 if r.get i=s.c.get i then⟨s.c,s.k.set i 0⟩else if s.k.getD i 0+1=n then⟨s.c.set i (r.get i),s.k.set i 0⟩else⟨s.c,s.k.set i (s.k.getD i 0+1)⟩
def Deb.step(n:Int)(s:Deb)(r:Contacts):Deb:=AK (Deb.at n r) 36 0 s
structure Deb.wf(s:Deb):Prop where
 c:s.c.wf
 len:s.k.length=36
 lo:∀j,j<36→0≤s.k.getD j 0
 hi:∀j,j<36→s.k.getD j 0<1000
def Deb.is(n:Int)(s:Deb):Prop:=1≤n∧n≤16∧∀j,j<36→0≤s.k.getD j 0∧s.k.getD j 0<n
def VE(h:L.length=36):[L.getD 0 0,L.getD 1 0,L.getD 2 0,L.getD 3 0,L.getD 4 0,L.getD 5 0,L.getD 6 0,L.getD 7 0,L.getD 8 0,L.getD 9 0,L.getD 10 0,L.getD 11 0,L.getD 12 0,L.getD 13 0,L.getD 14 0,L.getD 15 0,L.getD 16 0,L.getD 17 0,L.getD 18 0,L.getD 19 0,L.getD 20 0,L.getD 21 0,L.getD 22 0,L.getD 23 0,L.getD 24 0,L.getD 25 0,L.getD 26 0,L.getD 27 0,L.getD 28 0,L.getD 29 0,L.getD 30 0,L.getD 31 0,L.getD 32 0,L.getD 33 0,L.getD 34 0,L.getD 35 0]=L:=by
 have e:[L.getD 0 0,L.getD 1 0,L.getD 2 0,L.getD 3 0,L.getD 4 0,L.getD 5 0,L.getD 6 0,L.getD 7 0,L.getD 8 0,L.getD 9 0,L.getD 10 0,L.getD 11 0,L.getD 12 0,L.getD 13 0,L.getD 14 0,L.getD 15 0,L.getD 16 0,L.getD 17 0,L.getD 18 0,L.getD 19 0,L.getD 20 0,L.getD 21 0,L.getD 22 0,L.getD 23 0,L.getD 24 0,L.getD 25 0,L.getD 26 0,L.getD 27 0,L.getD 28 0,L.getD 29 0,L.getD 30 0,L.getD 31 0,L.getD 32 0,L.getD 33 0,L.getD 34 0,L.getD 35 0]=(List.range 36).map (λq=>L.getD q 0):=rfl
 rw[e];apply List.ext_getElem
 ·simp[h]
 ·intro j h1 h2
  simp[h2]
def Abb(h:i<L.length)(q:Nat)(v:Int):(bif Nat.beq i q then v else L.getD q 0)=(L.set i v).getD q 0:=by
 rw[BO];by_cases e:i=q
 ·subst e;simp[h]
 ·simp[e]
def Arz{s:Deb}(h:s.wf)(hs:s.is n){r:Contacts}(hi:i<36):(s.at n r i).wf∧(s.at n r i).is n:=by
 have hset:∀(v:Int) (j:Nat),(s.k.set i v).getD j 0=if j=i then v else s.k.getD j 0:=by
  intro v j;rw[← Abb (by rw[h.len];exact hi),BO]
  by_cases e:i=j
  ·simp[e]
  ·simp[e,f6_ e]
 have hn:=hs.1;have hn2:=hs.2.1
 have key:∀v:Int,0≤v→v<n→∀j,j<36→0≤(s.k.set i v).getD j 0∧(s.k.set i v).getD j 0<n:=by
  intro v h1 h2 j hj;rw[hset];by_cases e:j=i
  ·rw[if_pos e];exact⟨h1,h2⟩
  ·rw[if_neg e];exact hs.2.2 j hj
 have fin:∀(c:Contacts) (v:Int),c.wf→0≤v→v<n→Deb.wf ⟨c,s.k.set i v⟩∧Deb.is n ⟨c,s.k.set i v⟩:=by
  intro c v hc h1 h2;have hk:=key v h1 h2;exact⟨⟨hc,by simp[h.len],λj hj=>(hk j hj).1,λj hj=>by have:=(hk j hj).2;simp only at this⊢;omega⟩,hn,hn2,hk⟩
 have hki:=hs.2.2 i hi;unfold Deb.at;split
 ·exact fin _ _ h.c ω ω
 ·split
  ·exact fin _ _ (Contacts.set_wf h.c _ _) ω ω
  ·exact fin _ _ h.c ω ω
def Ahs{n:Int}{r:Contacts}:∀(m i:Nat) (s:Deb),i+m≤36→s.wf→s.is n→(AK (Deb.at n r) m i s).wf∧(AK (Deb.at n r) m i s).is n
 |0,_,_,_,h,hs=>⟨h,hs⟩
 |m+1,i,s,hi,h,hs=>Ahs m (i+1) (s.at n r i) ω (Arz h hs ω).1 (Arz h hs ω).2
def Bh9{s:Deb}(h:s.wf)(hs:s.is n)(r:Contacts):(s.step n r).wf∧(s.step n r).is n:=Ahs 36 0 s ω h hs
def Ajc{s:Deb}(h:s.wf)(hs:s.is n){r:Contacts}(hr:r.wf)(b:Deb)(hi:i<36):
  HX n (i:Int) s.c.C0 s.c.Up s.c.R3 s.c.R5 s.c.Y3 (s.k.getD 0 0) (s.k.getD 1 0) (s.k.getD 2 0) (s.k.getD 3 0) (s.k.getD 4 0) (s.k.getD 5 0) (s.k.getD 6 0) (s.k.getD 7 0) (s.k.getD 8 0) (s.k.getD 9 0) (s.k.getD 10 0) (s.k.getD 11 0) (s.k.getD 12 0) (s.k.getD 13 0) (s.k.getD 14 0) (s.k.getD 15 0) (s.k.getD 16 0) (s.k.getD 17 0) (s.k.getD 18 0) (s.k.getD 19 0) (s.k.getD 20 0) (s.k.getD 21 0) (s.k.getD 22 0) (s.k.getD 23 0) (s.k.getD 24 0) (s.k.getD 25 0) (s.k.getD 26 0) (s.k.getD 27 0) (s.k.getD 28 0) (s.k.getD 29 0) (s.k.getD 30 0) (s.k.getD 31 0) (s.k.getD 32 0) (s.k.getD 33 0) (s.k.getD 34 0) (s.k.getD 35 0) r.C0 r.Up r.R3 r.R5 r.Y3 b.c.C0 b.c.Up b.c.R3 b.c.R5 b.c.Y3 (b.k.getD 0 0) (b.k.getD 1 0) (b.k.getD 2 0) (b.k.getD 3 0) (b.k.getD 4 0) (b.k.getD 5 0) (b.k.getD 6 0) (b.k.getD 7 0) (b.k.getD 8 0) (b.k.getD 9 0) (b.k.getD 10 0) (b.k.getD 11 0) (b.k.getD 12 0) (b.k.getD 13 0) (b.k.getD 14 0) (b.k.getD 15 0) (b.k.getD 16 0) (b.k.getD 17 0) (b.k.getD 18 0) (b.k.getD 19 0) (b.k.getD 20 0) (b.k.getD 21 0) (b.k.getD 22 0) (b.k.getD 23 0) (b.k.getD 24 0) (b.k.getD 25 0) (b.k.getD 26 0) (b.k.getD 27 0) (b.k.getD 28 0) (b.k.getD 29 0) (b.k.getD 30 0) (b.k.getD 31 0) (b.k.getD 32 0) (b.k.getD 33 0) (b.k.getD 34 0) (b.k.getD 35 0)=
   C (.inl ((n,(),(),(),((i+1:Nat):Int),()),((s.at n r i).tup,r.tup,b.tup,()))):=by
 unfold HX;have e0:decide ((i:Int)<36)=A:=by simp;omega
 have ib:inB (i:Int) 36=A:=Ac ω ω
 have tn:Int.toNat (i:Int)=i:=ω
 have w:aF.wrap ((i:Int)+1)=((i+1:Nat):Int):=by rw[Aa ω ω];omega
 have hki:=h.lo i hi;have hki':=h.hi i hi;have wk:aF.wrap (s.k.getD i 0+1)=s.k.getD i 0+1:=Aa ω ω
 have hl:i<s.k.length:=by rw[h.len];exact hi
 have hl2:∀v:Int,i<(s.k.set i v).length:=λv=>by simp;exact hl
 have hgi:∀v:Int,(s.k.set i v).getD i 0=v:=λv=>by simp[hl]
 rw[e0,d_,Tg r hr (i:Int),Tg s.c h.c (i:Int)];simp only[a_,ib,d_,tn,Abb hl,w,VE h.len,wk];unfold Deb.at;by_cases hq:r.get i=s.c.get i
 ·simp only[hq,l_,d_,g8_]
  rfl
 ·simp only[An hq,c_,hq,f2_]
  have l36:∀v:Int,(s.k.set i v).length=36:=λv=>by simp[h.len]
  try simp only[VE (l36 _),hgi,Abb (hl2 _),List.set_set]
  by_cases hn:s.k.getD i 0+1=n
  ·have:(s.k.getD i 0+1==n)=A:=by simpa using hn
   simp only[this,d_,g8_,hn,l_];rw[Aam s.c (i:Int) (r.get i)];rfl
  ·simp only[An hn,c_,hn,f2_]
   rfl
noncomputable instance isDeb_ti(n:Int)(s:Deb):Decidable (s.is n):=Classical.propDecidable _
def Deb.rng(n:Int)(s:Deb):Prop:=∀j,j<36→0≤s.k.getD j 0∧s.k.getD j 0<n
noncomputable instance rngDeb_ti(n:Int)(s:Deb):Decidable (s.rng n):=Classical.propDecidable _
def Ayw{s:Deb}:s.is n↔1≤n∧n≤16∧s.rng n:=Iff.rfl
def Ajd{s:Deb}(h:s.wf)(hs:s.is n){r:Contacts}(hr:r.wf):
  Gn ((n,(),(),(),(0:Int),()),(s.tup,r.tup,Deb.no.tup,()))=C (((),(),()),((s.step n r).tup,Deb.no.tup,())):=by
 unfold Gn;refine Ai (AP 36 (λ(i:Nat) (s:Deb)=>((n,(),(),(),(i:Int),()),(s.tup,r.tup,Deb.no.tup,()))) (Deb.at n r) (λ_ s=>s.wf∧s.is n) (λs=>(((),(),()),(s.tup,Deb.no.tup,()))) (λi s hi hin=>⟨Ajc hin.1 hin.2 hr Deb.no hi,Arz hin.1 hin.2 hi⟩) (λs hin=>?_) 36 0 s rfl ⟨h,hs⟩).1 ω
 show HX n ((36:Nat):Int) s.c.C0 s.c.Up s.c.R3 s.c.R5 s.c.Y3 (s.k.getD 0 0) (s.k.getD 1 0) (s.k.getD 2 0) (s.k.getD 3 0) (s.k.getD 4 0) (s.k.getD 5 0) (s.k.getD 6 0) (s.k.getD 7 0) (s.k.getD 8 0) (s.k.getD 9 0) (s.k.getD 10 0) (s.k.getD 11 0) (s.k.getD 12 0) (s.k.getD 13 0) (s.k.getD 14 0) (s.k.getD 15 0) (s.k.getD 16 0) (s.k.getD 17 0) (s.k.getD 18 0) (s.k.getD 19 0) (s.k.getD 20 0) (s.k.getD 21 0) (s.k.getD 22 0) (s.k.getD 23 0) (s.k.getD 24 0) (s.k.getD 25 0) (s.k.getD 26 0) (s.k.getD 27 0) (s.k.getD 28 0) (s.k.getD 29 0) (s.k.getD 30 0) (s.k.getD 31 0) (s.k.getD 32 0) (s.k.getD 33 0) (s.k.getD 34 0) (s.k.getD 35 0) r.C0 r.Up r.R3 r.R5 r.Y3 Deb.no.c.C0 Deb.no.c.Up Deb.no.c.R3 Deb.no.c.R5 Deb.no.c.Y3 (Deb.no.k.getD 0 0) (Deb.no.k.getD 1 0) (Deb.no.k.getD 2 0) (Deb.no.k.getD 3 0) (Deb.no.k.getD 4 0) (Deb.no.k.getD 5 0) (Deb.no.k.getD 6 0) (Deb.no.k.getD 7 0) (Deb.no.k.getD 8 0) (Deb.no.k.getD 9 0) (Deb.no.k.getD 10 0) (Deb.no.k.getD 11 0) (Deb.no.k.getD 12 0) (Deb.no.k.getD 13 0) (Deb.no.k.getD 14 0) (Deb.no.k.getD 15 0) (Deb.no.k.getD 16 0) (Deb.no.k.getD 17 0) (Deb.no.k.getD 18 0) (Deb.no.k.getD 19 0) (Deb.no.k.getD 20 0) (Deb.no.k.getD 21 0) (Deb.no.k.getD 22 0) (Deb.no.k.getD 23 0) (Deb.no.k.getD 24 0) (Deb.no.k.getD 25 0) (Deb.no.k.getD 26 0) (Deb.no.k.getD 27 0) (Deb.no.k.getD 28 0) (Deb.no.k.getD 29 0) (Deb.no.k.getD 30 0) (Deb.no.k.getD 31 0) (Deb.no.k.getD 32 0) (Deb.no.k.getD 33 0) (Deb.no.k.getD 34 0) (Deb.no.k.getD 35 0)=_;unfold HX;have e:decide (((36:Nat):Int)<36)=B:=rfl;rw[e];rfl
def Ajb{s:Deb}(hl:s.k.length=36):EF ((n,s.cnt,(0:Int),()),())=C (if s.rng n then .inl ((),())else .inr ((B,()),())):=by
 unfold EF
 have key:∀(step:_→_),(∀i:Nat,step ((n,s.cnt,(i:Int),()),())=BD n (s.k.getD 0 0) (s.k.getD 1 0) (s.k.getD 2 0) (s.k.getD 3 0) (s.k.getD 4 0) (s.k.getD 5 0) (s.k.getD 6 0) (s.k.getD 7 0) (s.k.getD 8 0) (s.k.getD 9 0) (s.k.getD 10 0) (s.k.getD 11 0) (s.k.getD 12 0) (s.k.getD 13 0) (s.k.getD 14 0) (s.k.getD 15 0) (s.k.getD 16 0) (s.k.getD 17 0) (s.k.getD 18 0) (s.k.getD 19 0) (s.k.getD 20 0) (s.k.getD 21 0) (s.k.getD 22 0) (s.k.getD 23 0) (s.k.getD 24 0) (s.k.getD 25 0) (s.k.getD 26 0) (s.k.getD 27 0) (s.k.getD 28 0) (s.k.getD 29 0) (s.k.getD 30 0) (s.k.getD 31 0) (s.k.getD 32 0) (s.k.getD 33 0) (s.k.getD 34 0) (s.k.getD 35 0) (i:Int))→∀(m i:Nat),i+m=36→(∀j,j<i→0≤s.k.getD j 0∧s.k.getD j 0<n)→BQ step (m+1) ((n,s.cnt,(i:Int),()),())=C (if s.rng n then Sum.inl ((),())else Sum.inr ((B,()),())):=by
  intro step hstep m
  induction m with
  |zero=>
   intro i hi hj
   have:i=36:=ω
   subst this;rw[if_pos (show s.rng n from hj)]
   refine Az ?_;rw[hstep];unfold BD;have e:decide (((36:Nat):Int)<36)=B:=rfl;rw[e];rfl
  |succ m ih=>
   intro i hi hj;have e0:decide ((i:Int)<36)=A:=by simp;omega
   have ib:inB (i:Int) 36=A:=Ac ω ω
   have tn:Int.toNat (i:Int)=i:=ω
   have w:aF.wrap ((i:Int)+1)=((i+1:Nat):Int):=by rw[Aa ω ω];omega
   by_cases h1:s.k.getD i 0<0
   ·rw[if_neg (show ¬s.rng n from λhall=>by have:=(hall i ω).1;omega)]
    refine Az ?_;rw[hstep];unfold BD;have e1:decide (s.k.getD i 0<0)=A:=by simpa using h1
    simp only[e0,ib,tn,VE hl,e1,d_]
   ·have e1:decide (s.k.getD i 0<0)=B:=by simpa using h1
    by_cases h2:n≤s.k.getD i 0
    ·rw[if_neg (show ¬s.rng n from λhall=>by have:=(hall i ω).2;omega)]
     refine Az ?_;rw[hstep];unfold BD;have e2:decide (n≤s.k.getD i 0)=A:=by simpa using h2
     simp only[e0,ib,tn,VE hl,e1,e2,d_,c_]
    ·have e2:decide (n≤s.k.getD i 0)=B:=by simpa using h2
     have st:step ((n,s.cnt,(i:Int),()),())=C (.inl ((n,s.cnt,((i+1:Nat):Int),()),())):=by
      rw[hstep];unfold BD;simp only[e0,ib,tn,VE hl,e1,e2,d_,c_,w];rfl
     rw[Bu st];exact ih (i+1) ω λj hj'=>if e:j=i then by subst e;omega else hj j ω
 exact Ai (key _ (λ_=>rfl) 36 0 rfl (λj hj=>by omega)) ω
def VT{s:Deb}(hl:s.k.length=36):Et n s.c.C0 s.c.Up s.c.R3 s.c.R5 s.c.Y3 (s.k.getD 0 0) (s.k.getD 1 0) (s.k.getD 2 0) (s.k.getD 3 0) (s.k.getD 4 0) (s.k.getD 5 0) (s.k.getD 6 0) (s.k.getD 7 0) (s.k.getD 8 0) (s.k.getD 9 0) (s.k.getD 10 0) (s.k.getD 11 0) (s.k.getD 12 0) (s.k.getD 13 0) (s.k.getD 14 0) (s.k.getD 15 0) (s.k.getD 16 0) (s.k.getD 17 0) (s.k.getD 18 0) (s.k.getD 19 0) (s.k.getD 20 0) (s.k.getD 21 0) (s.k.getD 22 0) (s.k.getD 23 0) (s.k.getD 24 0) (s.k.getD 25 0) (s.k.getD 26 0) (s.k.getD 27 0) (s.k.getD 28 0) (s.k.getD 29 0) (s.k.getD 30 0) (s.k.getD 31 0) (s.k.getD 32 0) (s.k.getD 33 0) (s.k.getD 34 0) (s.k.getD 35 0)=C ((decide (s.is n),()),()):=by
 unfold Et;by_cases h1:n<1
 ·have:¬s.is n:=λh=>by have:=h.1;omega
  simp[h1,this]
 ·have h1':1≤n:=ω
  by_cases h2:16<n
  ·have:¬s.is n:=λh=>by have:=h.2.1;omega
   simp[h1,h2,this]
  ·have h2':n≤16:=ω
   have hl':=Ajb (n:=n) hl;simp only[Deb.cnt]at hl';have e1:decide (n<1)=B:=by simpa using h1
   have e2:decide (16<n)=B:=by simpa using h2
   simp only[e1,e2,c_,hl',a_];by_cases h3:s.rng n
   ·rw[if_pos h3,b_ (Ayw.2 ⟨h1',h2',h3⟩)]
   ·rw[if_neg h3,f_ λh=>h3 (Ayw.1 h).2.2]
def ZH{s:Deb}(h:s.wf)(hs:s.is n){r:Contacts}(hr:r.wf):Mv n s.c.C0 s.c.Up s.c.R3 s.c.R5 s.c.Y3 (s.k.getD 0 0) (s.k.getD 1 0) (s.k.getD 2 0) (s.k.getD 3 0) (s.k.getD 4 0) (s.k.getD 5 0) (s.k.getD 6 0) (s.k.getD 7 0) (s.k.getD 8 0) (s.k.getD 9 0) (s.k.getD 10 0) (s.k.getD 11 0) (s.k.getD 12 0) (s.k.getD 13 0) (s.k.getD 14 0) (s.k.getD 15 0) (s.k.getD 16 0) (s.k.getD 17 0) (s.k.getD 18 0) (s.k.getD 19 0) (s.k.getD 20 0) (s.k.getD 21 0) (s.k.getD 22 0) (s.k.getD 23 0) (s.k.getD 24 0) (s.k.getD 25 0) (s.k.getD 26 0) (s.k.getD 27 0) (s.k.getD 28 0) (s.k.getD 29 0) (s.k.getD 30 0) (s.k.getD 31 0) (s.k.getD 32 0) (s.k.getD 33 0) (s.k.getD 34 0) (s.k.getD 35 0) r.C0 r.Up r.R3 r.R5 r.Y3=C (((),()),((s.step n r).tup,())):=by
 have hl:=Ajd h hs hr;unfold Mv;show(Gn ((n,(),(),(),(0:Int),()),(s.tup,r.tup,Deb.no.tup,()))).bind _=_;rw[hl];rfl
def ZG{s:Deb}(h:s.k.length=36)(hc:s.c.wf){r:Contacts}(hr:r.wf):
  JC n s.c.C0 s.c.Up s.c.R3 s.c.R5 s.c.Y3 (s.k.getD 0 0) (s.k.getD 1 0) (s.k.getD 2 0) (s.k.getD 3 0) (s.k.getD 4 0) (s.k.getD 5 0) (s.k.getD 6 0) (s.k.getD 7 0) (s.k.getD 8 0) (s.k.getD 9 0) (s.k.getD 10 0) (s.k.getD 11 0) (s.k.getD 12 0) (s.k.getD 13 0) (s.k.getD 14 0) (s.k.getD 15 0) (s.k.getD 16 0) (s.k.getD 17 0) (s.k.getD 18 0) (s.k.getD 19 0) (s.k.getD 20 0) (s.k.getD 21 0) (s.k.getD 22 0) (s.k.getD 23 0) (s.k.getD 24 0) (s.k.getD 25 0) (s.k.getD 26 0) (s.k.getD 27 0) (s.k.getD 28 0) (s.k.getD 29 0) (s.k.getD 30 0) (s.k.getD 31 0) (s.k.getD 32 0) (s.k.getD 33 0) (s.k.getD 34 0) (s.k.getD 35 0) r.C0 r.Up r.R3 r.R5 r.Y3=if s.is n then C (((),(0:Int),()),((s.step n r).tup,()))else C (((),(1:Int),()),(Deb.no.tup,())):=by
 unfold JC;rw[VT h];by_cases hs:s.is n
 ·have hw:s.wf:=⟨hc,h,λj hj=>(hs.2.2 j hj).1,λj hj=>by have:=(hs.2.2 j hj).2;have:=hs.2.1;omega⟩
  simp only[hs,decide_true,a_,o_,c_,g8_];rw[ZH hw hs hr];rfl
 ·simp only[hs,decide_false,a_,c0_,d_,f2_]
  rfl
structure BW(b:Bldg):Prop where
 small:b.small
 code:b.code=0
 room:b.H0≤600
 full:Sat (arF .sub .f64 b.L0 4589168020290535424) λ_=>True
 over:Sat (arF .sub .f64 b.N0 4589168020290535424) λ_=>True
def Asv(b:D)(c:aB):Prop:=LQ b.E0 c=A∧0≤c.V0∧c.V0<4294967296
structure PM(b:Bldg)(m:Mch):Prop where
 jst:Jst b m.Z0 m.G0
 con:m.S1.length=b.B0.length
 conv:∀c∈m.S1,Asv b c
 bel:m.W0.length=b.B0.length
 belv:∀i,i<b.B0.length→BelOK b i (m.W0.getD i Jz)
 car:m.B0.length=b.B0.length
 carv:∀c∈m.B0,EN b c=true
 lod:m.R2.length=b.B0.length
 lodv:∀l∈m.R2,0≤l.T5∧l.T5≤4
 lit:m.B3.length=b.B0.length
 exl:m.U1.length=m.G0.A0.length
 exv:∀x∈m.U1,0≤x∧x≤1000000
 tick:0≤m.T3∧m.T3≤1000000
 flt:0≤m.T2∧m.T2≤1000000
 ref:0≤m.H2∧m.H2≤1000000
structure PR(b:Bldg)(t:Pk):Prop where
 leg:t.legacy.length=b.B0.length
 sho:t.shows.length=b.B0.length
 rst:t.reset.length=b.B0.length
 oc:t.out.B0.length=b.B0.length
structure Fix(t t':Pk):Prop where
 im:t'.m.G0=t.m.G0
 st:t'.m.Z0=t.m.Z0
 bu:t'.budget=t.budget
 e:t'.e=t.e
 out:t'.out={ t.out with B0:=t'.out.B0 }
def Fix.rfl'(t:Pk):Fix t t:=⟨rfl,rfl,rfl,rfl,rfl⟩
def Fix.trans{a c d:Pk}(h:Fix a c)(k:Fix c d):Fix a d:=⟨k.im.trans h.im,k.st.trans h.st,k.bu.trans h.bu,k.e.trans h.e,by rw[k.out,h.out]⟩
def Ag0{α:Type}{P:α→Prop}{l:List α}(h:∀x∈l,P x){v:α}(hv:P v)(i:Nat):∀x∈l.set i v,P x:=λx hx=>by
 rcases List.mem_or_eq_of_mem_set hx with hx | rfl
 ·exact h x hx
 ·exact hv
section
variable{b:D}{m:Mch}
def PM.sBel(h:PM b m){v:Belief}(hv:BelOK b i v):PM b { m with W0:=m.W0.set i v }:=
 ⟨h.jst,h.con,h.conv,by show(m.W0.set i v).length=_;rw[A_];exact h.bel,λj hj=>by
  show BelOK b j ((m.W0.set i v).getD j Jz);by_cases e:i=j
  ·subst e
   rw[Cb _ _ (by rw[h.bel];exact hj)];exact hv
  ·rw[Fk _ _ e];exact h.belv j hj,h.car,h.carv,h.lod,h.lodv,h.lit,h.exl,h.exv,h.tick,h.flt,h.ref⟩
def PM.sCar(h:PM b m)(i:Nat){v:NewCar}(hv:EN b v=A):PM b { m with B0:=m.B0.set i v }:=
 ⟨h.jst,h.con,h.conv,h.bel,h.belv,by show(m.B0.set i v).length=_;rw[A_];exact h.car,Ag0 h.carv hv i,h.lod,h.lodv,h.lit,h.exl,h.exv,h.tick,h.flt,h.ref⟩
def PM.sCon(h:PM b m)(i:Nat){v:aB}(hv:Asv b v){w:Loaded}(hw:0≤w.T5∧w.T5≤4):PM b { m with S1:=m.S1.set i v,R2:=m.R2.set i w }:=
 ⟨h.jst,by show(m.S1.set i v).length=_;rw[A_];exact h.con,Ag0 h.conv hv i,h.bel,h.belv,h.car,h.carv,by show(m.R2.set i w).length=_;rw[A_];exact h.lod,Ag0 h.lodv hw i,h.lit,h.exl,h.exv,h.tick,h.flt,h.ref⟩
def PM.sTick(h:PM b m){k:Int}(hn:0≤n∧n≤1000000)(hk:0≤k∧k≤1000000):PM b { m with T3:=n,T2:=k }:=
 ⟨h.jst,h.con,h.conv,h.bel,h.belv,h.car,h.carv,h.lod,h.lodv,h.lit,h.exl,h.exv,hn,hk,h.ref⟩
end
@[reducible] def Buy(z:aB):=(z.V0,z.T1,z.F1,z.G1,z.C1,z.E5,z.F5,z.G5,z.H5,z.I5,z.K5,z.L5,z.M5,z.N5,z.O5,z.B4,z.C4,z.D4,z.E4,z.F4,z.G4,z.H4,z.I4,z.J4,z.K4,z.L4,z.M4,z.N4,z.O4,z.P4,z.Q4,z.R4,z.S4,z.T4,z.U4,z.V4,z.W4,z.X4,z.Y4,z.Z4,z.A5,())
def XW(z:aB):Deb:=⟨⟨z.V0,z.T1,z.F1,z.G1,z.C1⟩,Qk z⟩
def Asy(s:Deb):aB:=Debounced.mk s.c.C0 s.c.Up s.c.R3 s.c.R5 s.c.Y3 (s.k.getD 0 0) (s.k.getD 1 0) (s.k.getD 2 0) (s.k.getD 3 0) (s.k.getD 4 0) (s.k.getD 5 0) (s.k.getD 6 0) (s.k.getD 7 0) (s.k.getD 8 0) (s.k.getD 9 0) (s.k.getD 10 0) (s.k.getD 11 0) (s.k.getD 12 0) (s.k.getD 13 0) (s.k.getD 14 0) (s.k.getD 15 0) (s.k.getD 16 0) (s.k.getD 17 0) (s.k.getD 18 0) (s.k.getD 19 0) (s.k.getD 20 0) (s.k.getD 21 0) (s.k.getD 22 0) (s.k.getD 23 0) (s.k.getD 24 0) (s.k.getD 25 0) (s.k.getD 26 0) (s.k.getD 27 0) (s.k.getD 28 0) (s.k.getD 29 0) (s.k.getD 30 0) (s.k.getD 31 0) (s.k.getD 32 0) (s.k.getD 33 0) (s.k.getD 34 0) (s.k.getD 35 0)
def Aye:LQ n z=A↔(XW z).is n:=by
 unfold LQ Deb.is;rw[e_,e_,t_,t_];refine and_congr_right λ_=>and_congr_right λ_=>⟨λh j hj=>?_,λh=>Rm 36 0 λk _ hk=>?_⟩
 ·have:=Aar 36 0 h j (a6_ _) ω
  unfold Afo at this;simp only[e_,t_]at this;exact this
 ·have:=h k ω
  unfold Afo;simp only[e_,t_];exact this
def Afp{b:D}(hcode:b.code=0)(h:Asv b z){f:Int}(hf:0≤f∧f<4294967296)(u d o c:Bool):Sat (JC b.E0 z.V0 z.T1 z.F1 z.G1 z.C1 z.E5 z.F5 z.G5 z.H5 z.I5 z.K5 z.L5 z.M5 z.N5 z.O5 z.B4 z.C4 z.D4 z.E4 z.F4 z.G4 z.H4 z.I4 z.J4 z.K4 z.L4 z.M4 z.N4 z.O4 z.P4 z.Q4 z.R4 z.S4 z.T4 z.U4 z.V4 z.W4 z.X4 z.Y4 z.Z4 z.A5 f u d o c) λy=>∃z',y.2.1=Buy z'∧Asv b z'∧z'=Asy ((XW z).step b.E0 ⟨f,u,d,o,c⟩):=by
 have hi:=Aye.1 h.1;have hd:=Alh hcode;have hw:(XW z).wf:=⟨h.2,rfl,λj hj=>(hi.2.2 j hj).1,λj hj=>by have:=(hi.2.2 j hj).2;omega⟩
 have e:=ZG (n:=b.E0) (s:=XW z) rfl h.2 (r:=⟨f,u,d,o,c⟩) hf;rw[if_pos hi]at e;obtain⟨w1,w2⟩:=Bh9 hw hi ⟨f,u,d,o,c⟩;refine⟨_,e,Asy ((XW z).step b.E0 ⟨f,u,d,o,c⟩),rfl,⟨Aye.2 ?_,w1.c⟩,rfl⟩;generalize(XW z).step b.E0 ⟨f,u,d,o,c⟩=s at w1 w2
 have:XW (Asy s)=s:=by
  unfold XW;rw[show Qk (Asy s)=s.k from VE w1.len]
  rfl
 rw[this];exact w2
def Am0(h:0≤n∧n≤1000000):Sat (HJ n) λy=>0≤y.1.1∧y.1.1≤1000000:=by
 unfold HJ;rw[Aa ω ω]
 refine aA ?_;show 0≤(bif decide (1000000<n+1)then(1000000:Int)else n+1)∧(bif decide (1000000<n+1)then(1000000:Int)else n+1)≤1000000;by_cases g:1000000<n+1
 ·rw[b_ g,d_];omega
 ·rw[f_ g,c_];omega
section
variable{b:D}(hw:BW b){x:Inp}{g:Bool}(hx:g=A→InOK b x)
include hw hx
theorem Bp2{t:Pk}(hm:PM b t.m)(hr:PR b t):Sat (t.ap Ef b x g) λy=>∃t',(y=.inl ((),(t'.tup b x g,()))∨y=.inr ((),(t'.tup b x g,())))∧PM b t'.m∧PR b t'∧Fix t t':=by
 have hcc:=Aj hw.code;unfold Pk.ap Ef;refine aD (Am0 hm.tick) λn1 h1=>Sat.bic (λ_=>?_) λhg=>?_
 ·exact aD (Am0 hm.flt) λn2 h2=>aA ⟨{ t with m:={ t.m with T3:=n1.1.1,T2:=n2.1.1 } },.inl rfl,hm.sTick h1 h2,⟨hr.leg,hr.sho,hr.rst,hr.oc⟩,⟨rfl,rfl,rfl,rfl,rfl⟩⟩
 ·rw[Bool.not_eq_false']at hg
  have hxi:=hx hg;refine aD (Q:=λy=>∃t',y=((),(t'.tup b x g,()))∧PM b t'.m∧PR b t'∧Fix t t') ?_ λy hy=>by obtain⟨t',rfl,h⟩:=hy;exact aA ⟨t',.inr rfl,h⟩
  unfold DG;refine Sat.loop (λ(k:Nat) z=>∃(i:Nat) (t':Pk),z=(((),x.cars,(x.cars.length:Int),(i:Int),()),(t'.tup b x g,()))∧i+k=x.cars.length∧PM b t'.m∧PR b t'∧Fix t t') (λk z hz=>?_) x.cars.length ⟨0,{ t with m:={ t.m with T3:=n1.1.1 } },rfl,p_ _,hm.sTick h1 hm.flt,⟨hr.leg,hr.sho,hr.rst,hr.oc⟩,⟨rfl,rfl,rfl,rfl,rfl⟩⟩ (by have:=hxi.len;omega)
  obtain⟨i,t',rfl,hk,hm,hr,hf⟩:=hz;show Sat (Pk.ap (FB x.cars (x.cars.length:Int) (i:Int)) b x g t') _;unfold Pk.ap FB;refine Sat.bic (λq=>?_) λ_=>aA ⟨t',rfl,hm,hr,hf⟩
  have q:(i:Int)<(x.cars.length:Int):=m_ q;have hl:=hxi.len;have hin:i<b.B0.length:=ω
  have w:=CW (n:=i) ω
  have i1:inB (i:Int) t'.m.S1.length=A:=Ac ω (by rw[hm.con];omega)
  have i3:inB (i:Int) t'.m.R2.length=A:=Ac ω (by rw[hm.lod];omega)
  have hcf:=hxi.flo _ (CA (CarInput.mk 0 B B B B 0 B 0 B 0 0) (ω:i<x.cars.length))
  have hcw:=hm.conv _ (CA Ct (show i<t'.m.S1.length by rw[hm.con];exact hin))
  refine aC (Ac ω q) (aC i1 (aD (Afp hw.code hcw hcf _ _ _ _) λy1 h1=>?_))
  obtain⟨⟨ya,yb,yc⟩,yd,ye⟩:=y1;obtain⟨z',e1,hz',_⟩:=h1;change yd=_ at e1;subst e1;refine aC i1 (aC i3 (aD (Ao9 hw.full hw.over _ _) λy2 h2=>aC i3 ?_))
  refine aA ⟨k-1,ω,i+1,{ t' with m:={ t'.m with S1:=t'.m.S1.set i z',R2:=t'.m.R2.set i (Loaded.mk y2.2.1.1) } },by first | (rw[← w];rfl) | rw[← w],ω,hm.sCon i hz' h2,⟨hr.leg,hr.sho,hr.rst,hr.oc⟩,⟨hf.im,hf.st,hf.bu,hf.e,hf.out⟩⟩
end
end Go.Ovl
