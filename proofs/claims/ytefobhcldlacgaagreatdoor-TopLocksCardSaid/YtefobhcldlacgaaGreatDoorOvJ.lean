import Derived.Test.YtefobhcldlacgaaGreatDoorOvI
import Derived.Test.YtefobhcldlacgaaGreatDoorOvH
import Derived.Test.YtefobhcldlacgaaGreatDoorOvF
import Derived.Test.YtefobhcldlacgaaGreatDoorOvD
import Derived.Test.YtefobhcldlacgaaGreatDoorOvC
import Derived.Test.YtefobhcldlacgaaGreatDoorDefs4
import Derived.Test.YtefobhcldlacgaaGreatDoorOvA
set_option linter.all false
open Bool renaming true->A,false->B
open Go.Ovl renaming Bldg->C,Record->E,Debounced->aB
open Option renaming some->D
open Go.Ovl.Sat renaming ret->aA,bifT->aC,bindS->aD
open List renaming replicate->aE
open Go.IntKind renaming i64->aF
namespace Go.Ovl
open Go Go.Ab
set_option maxRecDepth 100000
variable{b:C}{e:Entry}{l:List E}{m:Img}{xs:List Int}{r:E}{X:Rnd}{s:Sto}
def Aah{l:List Entry}(hl:l.length≤100000):RP l=D (((),()),(((ofC l (0,0)).1,(ofC l (0,0)).2,()),())):=by
 have e2:∀(k i:Nat) (c:Int×Int),i+k=l.length→Cd (λx=>Ki x.1.2.2.1 x.1.2.2.2.1 x.1.2.2.2.2.1 x.2.1.1 x.2.1.2.1 x.2.2.1.1 x.2.2.1.2.1) (k+1) (((),(),l,(l.length:Int),(i:Int),()),(((0:Int),(0:Int),()),(c.1,c.2,()),()))=D (((),(),()),(((0:Int),(0:Int),()),((ofC (l.drop i) c).1,(ofC (l.drop i) c).2,()),())):=by
  intro k;induction k with
  |zero=>intro i c hi;obtain rfl:i=l.length:=ω;refine AU ?_;show Ki l (l.length:Int) (l.length:Int) 0 0 c.1 c.2=_;unfold Ki;rw[f_ (Q_ (l.length:Int)),b9_];rfl
  |succ k ih=>intro i c hi;have hi':i<l.length:=ω;rw[Cu noE hi'];refine(Ca (x':=(((),(),l,(l.length:Int),((i+1:Nat):Int),()),(((0:Int),(0:Int),()),((BS c (FH (l.getD i noE).E0 (l.getD i noE).I0)).1,(BS c (FH (l.getD i noE).E0 (l.getD i noE).I0)).2,()),()))) ?_).trans (ih (i+1) _ ω);show Ki l (l.length:Int) (i:Int) 0 0 c.1 c.2=_;unfold Ki;rw[show Entry.mk 0 0 0 0 B=noE from rfl];have hu:=Fb c (FH (l.getD i noE).E0 (l.getD i noE).I0);simp only[b_ (ω:(i:Int)<(l.length:Int)),Ac (ω:(0:Int)≤(i:Int)) (ω:(i:Int)<(l.length:Int)),d_,j_,Ks,a_,hu,Hn hi' (show l.length≤Bs by unfold Bs;omega)]
 have h:=e2 l.length 0 (0,0) ω;rw[S_]at h;have h':Pg (((),(),l,(l.length:Int),(0:Int),()),(((0:Int),(0:Int),()),((0:Int),(0:Int),()),()))=_:=As h ω;unfold RP;rw[h'];rfl
def Xg(e:Entry):E:=Record.mk 1 e.E0 e.I0 0 0
def Ch(b:C)(e:Entry)(X:Rnd):Rnd:=bif JU b X.img then QU (Xg e) X else⟨X.recs,X.img,X.xs,X.lan,BS X.ref (FH e.E0 e.I0)⟩
def Ee(b:C):List Entry→Rnd→Rnd
 |[],X=>X
 |e::t,X=>Ee b t (Ch b e X)
def Bqh(r:E)(X:Rnd):wrL [r] X=QU r X:=by rw[Xt];unfold wrL;rw[Z_];rfl
def YW(h:Ap b e.E0 e.I0=A):Ax b (Xg e)=A:=by
 have hc:(b.code==0)=A:=by unfold Ap at h;rw[e_]at h;exact h.1
 unfold Ax Xg;rw[hc];simp only[l_,d_,h,a6_]
def Ant(h:X.ok b)(he:Ap b e.E0 e.I0=A):(Ch b e X).ok b:=by
 unfold Ch;cases JU b X.img with
 |true=>exact Xq h (YW he)
 |false=>exact⟨h.img,h.len⟩
def Aqv{b:C}:∀{l:List Entry}{X:Rnd},X.ok b→(∀e∈l,Ap b e.E0 e.I0=A)→(Ee b l X).ok b
 |[],_,h,_=>h
 |e::t,X,h,hv=>by show(Ee b t (Ch b e X)).ok b;exact Aqv (Ant h (hv e (p_ ..))) λx hx=>hv x (r_ _ hx)
def Aet(b:C)(e:Entry)(X:Rnd):(Ch b e X).recs.length≤X.recs.length+1:=by
 unfold Ch;cases JU b X.img with
 |true=>show(X.recs++[_]).length≤_;rw[h_,H_];exact y_ _
 |false=>exact Nat.le_succ _
def Aid(b:C):∀(l:List Entry) (X:Rnd),(Ee b l X).recs.length≤X.recs.length+l.length
 |[],_=>y_ _
 |e::t,X=>by have h1:=Aid b t (Ch b e X);have h2:=Aet b e X;show(Ee b t (Ch b e X)).recs.length≤_;rw[B_];omega
def Ah3(c:Int×Int):(Fg c).length≤64:=by
 have h:∀k i:Nat,((List.range' i k).flatMap (Lz c)).length≤2*k:=by
  intro k;induction k with
  |zero=>intro i;exact y_ _
  |succ k ih=>
   intro i;rw[d8_,a1_,h_]
   have:=ih (i+1)
   have:=Add c i
   omega
 exact h 32 0
def Ah5{c:Int×Int}(h:e∈Fg c):(0≤e.E0∧e.E0<32)∧(e.I0=1∨e.I0=2)∧Am c e.E0.toNat e.I0=A:=by obtain⟨f,h1,h2,h3,h4⟩:=mem_range.1 (b6_.2 ⟨e,h,rfl⟩);simp only[BR]at h2 h3 h4;refine⟨ω,h3,?_⟩;rw[h2,j_];exact h4
def LA(b:C)(m:Img)(press:Int×Int):Int×Int:=Az (Ct press (Bz b)) (ofC m.A0 (0,0))
def WH(hb:b.small)(hcode:b.code=0){press old:Int×Int}(h:e∈Fg (Az (Ct press (Bz b)) old)):Ap b e.E0 e.I0=A:=by obtain⟨h1,h2,h3⟩:=Ah5 h;rw[Bo _ _ ω,Jq,e_,e_,WM hb hcode ω h2,f4_ h1.1]at h3;exact h3.1.2
section
variable{b:C}(hb:b.small)(hcode:b.code=0)
include hb hcode
theorem Ajl{es:List Entry}(hl:es.length≤1000)(hv:∀e∈es,Ap b e.E0 e.I0=A):∀(k i:Nat) (Y:Rnd),i+k=es.length→Y.ok b→Y.recs.length≤1000+i→Cd (λx=>letI d:=x.2.1.2.2.2;letI f:=d.2.2;letI a:=f.2.2.2;letI g:=a.2.2;letI c:=g.2.2.2;letI e:=c.2.2;Bx x.1.2.1 x.1.2.2.1 x.1.2.2.2.1 x.2.1.1 x.2.1.2.1 x.2.1.2.2.1 d.1 d.2.1 f.1 f.2.1 f.2.2.1 a.1 a.2.1 g.1 g.2.1 g.2.2.1 c.1 c.2.1 e.1 e.2.1 e.2.2.1 e.2.2.2.1 e.2.2.2.2.1) (k+1) (((),es,(es.length:Int),(i:Int),()),(Y.tupB b,()))=D ((),((Ee b (es.drop i) Y).tupB b,())):=by
 intro k;induction k with
 |zero=>intro i Y hi _ _;obtain rfl:i=es.length:=ω;refine AU ?_;show Bx es (es.length:Int) (es.length:Int) Y.recs Y.img.G0 Y.img.O0 Y.img.J0 Y.img.A0 Y.xs Y.lan.lit Y.lan.gong Y.lan.cl.1 Y.lan.cl.2 Y.ref.1 Y.ref.2 b.C0 b.F0 b.H0 b.M0 b.K0 b.L0 b.N0 b.B0=_;unfold Bx;rw[f_ (Q_ (es.length:Int)),b9_];rfl
 |succ k ih=>
  intro i Y hi hY hr;have hi':i<es.length:=ω;have hv':=hv _ (BN noE hi');have hcc:=Aj hcode;have he:=Dg hb hY.img;have hlp:=hY.img.lp;rw[Cu noE hi'];refine(Ca (x':=(((),es,(es.length:Int),((i+1:Nat):Int),()),((Ch b (es.getD i noE) Y).tupB b,()))) ?_).trans (ih (i+1) _ ω (Ant hY hv') (by have:=Aet b (es.getD i noE) Y;omega));show Bx es (es.length:Int) (i:Int) Y.recs Y.img.G0 Y.img.O0 Y.img.J0 Y.img.A0 Y.xs Y.lan.lit Y.lan.gong Y.lan.cl.1 Y.lan.cl.2 Y.ref.1 Y.ref.2 b.C0 b.F0 b.H0 b.M0 b.K0 b.L0 b.N0 b.B0=_;unfold Bx Ch;rw[show Entry.mk 0 0 0 0 B=noE from rfl,Aan hb Y.img ω ω ω];simp only[b_ (ω:(i:Int)<(es.length:Int)),Ac (ω:(0:Int)≤(i:Int)) (ω:(i:Int)<(es.length:Int)),d_,j_,a_,Hn hi' (show es.length≤Bs by unfold Bs;omega)];cases JU b Y.img with
  |true=>have hw:=Acj hb hcode hY (l:=[Xg (es.getD i noE)]) (by show 1≤100000;omega) (by intro r hr;rw[E_.1 hr];exact YW hv') ω;rw[Bqh]at hw;unfold Xg at hw;simp only[d_,hw,a_];rfl
  |false=>have hu:=Fb Y.ref (FH (es.getD i noE).E0 (es.getD i noE).I0);simp only[c_,Ks,a_,hu];rfl
theorem Apg(press old:Int×Int)(hX:X.ok b)(hr:X.recs.length≤1000):Dd press.1 press.2 old.1 old.2 X.recs X.img.G0 X.img.O0 X.img.J0 X.img.A0 X.xs X.lan.lit X.lan.gong X.lan.cl.1 X.lan.cl.2 X.ref.1 X.ref.2 b.C0 b.F0 b.H0 b.M0 b.K0 b.L0 b.N0 b.B0=D ((),((Ee b (Fg (Az (Ct press (Bz b)) old)) X).tupB b,())):=by have hl:=Ah3 (Az (Ct press (Bz b)) old);have h:=Ajl hb hcode (es:=Fg (Az (Ct press (Bz b)) old)) ω (λe he=>WH hb hcode he) _ 0 X (o_ _) hX ω;rw[S_]at h;have h':CT (((),Fg (Az (Ct press (Bz b)) old),((Fg (Az (Ct press (Bz b)) old)).length:Int),(0:Int),()),(X.tupB b,()))=_:=As h ω;unfold Dd;rw[Ld hb hcode];simp only[a_];rw[FV press (Bz b)];simp only[a_];rw[GB (Ct press (Bz b)) old];simp only[a_];rw[Xw];simp only[a_];unfold Rnd.tupB at h';rw[h'];rfl
end
def Ai7(n:Int):Hc n=D ((!inR 0 1000000 n,()),()):=by
 unfold Hc inR;by_cases g:n<0
 ·rw[b_ g,f_ (ω:¬0≤n)];rfl
 ·rw[f_ g,b_ (ω:0≤n)];by_cases g':1000000<n
  ·rw[b_ g',f_ (ω:¬n≤1000000)];rfl
  ·rw[f_ g',b_ (ω:n≤1000000)];rfl
def Ald(hl:xs.length≤maxLen):Bm xs=D ((!PF xs,()),()):=by
 have hm:maxLen≤9223372036854775807:=by decide
 have key:∀(k i:Nat),i+k=xs.length→∃y,Cd (λx=>AH x.1.1 x.1.2.2.1 x.1.2.2.2.1) (k+1) ((xs,(),(xs.length:Int),(i:Int),()),())=D y∧(match y with | .inl _=>(xs.drop i).all (inR 0 1000000)=A | .inr z=>0≤z.1.1∧(xs.drop i).all (inR 0 1000000)=B):=by
  intro k;induction k with
  |zero=>
   intro i hi;refine⟨.inl ((),()),AU ?_,?_⟩
   ·show AH xs (xs.length:Int) (i:Int)=_;unfold AH;rw[show decide ((i:Int)<(xs.length:Int))=B by simp;omega];rfl
   ·rw[show i=xs.length by omega,b9_];rfl
  |succ k ih=>
   intro i hi;have hi':i<xs.length:=ω;have hs:AH xs (xs.length:Int) (i:Int)=D (bif inR 0 1000000 (xs.getD i 0)then .inl ((xs,(),(xs.length:Int),((i+1:Nat):Int),()),())else .inr (.inr (((i:Int),()),()))):=by
    unfold AH;have w:aF.wrap ((i:Int)+1)=((i+1:Nat):Int):=by rw[Aa ω ω];omega
    rw[show decide ((i:Int)<(xs.length:Int))=A by simp;omega,Ac ω ω,Ai7,w];simp only[d_,j_,a_];cases inR 0 1000000 (xs.getD i 0)<;>rfl
   rw[Cu (0:Int) hi',a3_];cases hq:inR 0 1000000 (xs.getD i 0)with
   |true=>rw[hq]at hs;obtain⟨y,h1,h2⟩:=ih (i+1) ω;exact⟨y,(Ca hs).trans h1,by rw[z_];exact h2⟩
   |false=>rw[hq]at hs;exact⟨_,AU hs,by show(0:Int)≤(i:Int)∧_;exact⟨ω,rfl⟩⟩
 obtain⟨y,h1,h2⟩:=key xs.length 0 ω;have h1':Bp ((xs,(),(xs.length:Int),(0:Int),()),())=D y:=As h1 ω;rw[S_]at h2;unfold Bm Cj PF;rw[h1'];cases y with
 |inl z=>simp only at h2;rw[h2];rfl
 |inr z=>simp only at h2;rw[h2.2];simp only[a_];rw[b_ h2.1];rfl
def Wq(m:Img)(hl:xs.length≤maxLen):Iu m.G0 m.O0 m.J0 m.A0 xs=D (((((xs.length:Int)==(m.A0.length:Int))&&PF xs),()),()):=by
 unfold Iu;rw[Ald hl];cases((xs.length:Int)==(m.A0.length:Int))with
 |false=>rfl
 |true=>simp only[d_,a_,z_,Bool.not_not]
def CX{α:Type}(l:List α)(h:l.length≤100000):NB l=D ((l,()),()):=by unfold NB;rw[AD (ω:l.length≤2147483648)];rfl
def Asn(n:Nat):Lan:=⟨aE n noP,aE n B,(0,0)⟩
def Bq(b:C)(m:Img)(xs:List Int)(vs:List View)(ps:List Calls)(press:Int×Int)(good:Bool):Rnd:=bif good then Ee b (Fg (LA b m press)) (wrL (CU b vs m.A0) ⟨[],m,xs,CQ b vs ps,(0,0)⟩)else⟨[],m,xs,Asn vs.length,(0,0)⟩
noncomputable def SF(b:C)(m:Img)(xs:List Int)(vs:List View)(ps:List Calls)(press:Int×Int)(good:Bool):List E×List Int×Int×Unit:=Oo b (Bq b m xs vs ps press good).img (Bq b m xs vs ps press good).xs vs
noncomputable def Eu(b:C)(m:Img)(xs:List Int)(vs:List View)(ps:List Calls)(press:Int×Int)(good:Bool):Rnd:={ wrL (SF b m xs vs ps press good).1 (Bq b m xs vs ps press good)with xs:=(SF b m xs vs ps press good).2.1 }
def QS(hcode:b.code=0)(vs:List View):∀{l:List Entry},(∀e∈l,Ap b e.E0 e.I0=A)→∀r∈CU b vs l,Ax b r=A∧r.Q0=2:=λh r hr=>by
 obtain⟨e,he,hr⟩:=c9_.1 hr;have hc:=h e he;cases hs:Jz b vs e.E0 e.I0 with
 |false=>rw[hs]at hr;cases hr
 |true=>rw[hs]at hr;rw[E_.1 hr];refine⟨?_,rfl⟩;unfold Ax;rw[hcode];simp only[show((2:Int)==1)=B from rfl,c_,l_,d_,hc,a6_]
def Ao7(hcode:b.code=0){vs:List View}(hm:ImgOK b m)(xs:List Int):∀r∈(Oo b m xs vs).1,Ax b r=A:=by
 have hcc:=Aj hcode;unfold Oo;rw[Img.ok_iff.2 hm];cases hq:((xs.length:Int)==(m.A0.length:Int))with
 |false=>exact λr hr=>by cases hr
 |true=>
  cases hv:((vs.length:Int)==(b.B0.length:Int))with
  |false=>exact λr hr=>by cases hr
  |true=>
   cases PF xs with
   |false=>exact λr hr=>by cases hr
   |true=>
    have h1:(xs.length:Int)=(m.A0.length:Int):=by simpa using hq
    have h2:(vs.length:Int)=(b.B0.length:Int):=by simpa using hv
    exact(SA (b:=b) ω h2 m.A0 xs [] m ω hm rfl).2.1
section
variable{b:C}(hb:b.small)(hcode:b.code=0){m:Img}(hm:ImgOK b m){xs:List Int}(hx:xs.length=m.A0.length){vs:List View}(ps:List Calls)(press:Int×Int)(good:Bool)
include hb hcode hm hx
theorem Anz:(Bq b m xs vs ps press good).ok b∧(Bq b m xs vs ps press good).recs.length≤100:=by
 have he:=Dg hb hm;have hX:∀L:Lan,Rnd.ok b ⟨[],m,xs,L,(0,0)⟩:=λL=>⟨hm,hx⟩
 unfold Bq;cases good with
 |false=>exact⟨hX _,a4_ _⟩
 |true=>have hv:=QS hcode vs (l:=m.A0) λe he=>(CH.1 (hm.en e he)).1;refine⟨Aqv (An3 (hX _) λr hr=>(hv r hr).1) λe he=>WH hb hcode he,?_⟩;have h1:=Aid b (Fg (LA b m press)) (wrL (CU b vs m.A0) ⟨[],m,xs,CQ b vs ps,(0,0)⟩);have h2:=Ah3 (LA b m press);have h3:=Za b vs m.A0;have h4:(wrL (CU b vs m.A0) ⟨[],m,xs,CQ b vs ps,(0,0)⟩).recs.length=(CU b vs m.A0).length:=rfl;show(Ee b (Fg (LA b m press)) (wrL (CU b vs m.A0) ⟨[],m,xs,CQ b vs ps,(0,0)⟩)).recs.length≤100;omega
theorem Abc(hexp:PF xs=A)(hv:okViews vs)(hvl:vs.length=b.B0.length)(hp:ps.length=b.B0.length):LU b.C0 b.F0 b.H0 b.M0 b.K0 b.L0 b.N0 b.B0 m.G0 m.O0 m.J0 m.A0 xs vs ps press.1 press.2 good=D (((),0,()),((Eu b m xs vs ps press good).tup,())):=by
 have hcc:=Aj hcode;have he:=Dg hb hm;have hlp:=hm.lp;have hlf:=hm.lf;have hll:=hm.ll;have hmx:100000≤maxLen:=by decide
 have hX:∀L:Lan,Rnd.ok b ⟨[],m,xs,L,(0,0)⟩:=λL=>⟨hm,hx⟩
 obtain⟨hok,hrl⟩:=Anz hb hcode hm hx (vs:=vs) ps press good;have hlight:=Abr hb hcode vs ps ω;unfold Ad0 at hlight;rw[show((vs.length:Int)==(b.B0.length:Int))=A by rw[hvl];exact l_ _,show((ps.length:Int)==(b.B0.length:Int))=A by rw[hp];exact l_ _]at hlight;simp only[a6_,d_]at hlight;have hXl:=Dg hb hok.img;have hXp:=hok.img.lp;have hXx:=hok.len;have hplan:=Ae7 hb hv ω (Bq b m xs vs ps press good).img ω ω (Bq b m xs vs ps press good).xs ω;have hpl:=(Azx b (Bq b m xs vs ps press good).img (Bq b m xs vs ps press good).xs vs).1;have hwr:=Acj hb hcode hok (l:=(Oo b (Bq b m xs vs ps press good).img (Bq b m xs vs ps press good).xs vs).1) ω (Ao7 hcode hok.img _) ω;unfold LU;rw[hlight];simp only[a_,P_,c_,Lan.tup];rw[CY hb m ω ω,Img.ok_iff.2 hm];simp only[a_,q_,c_];rw[Wq m ω,show((xs.length:Int)==(m.A0.length:Int))=A by rw[hx];exact l_ _,hexp];unfold Nv Be AK AO OS;rw[CX m.G0 ω,CX m.O0 ω,CX m.J0 ω,CX m.A0 ω,CX xs ω];simp only[a_,a6_,q_,c_,b_ (ω:(0:Int)≤(vs.length:Int)),b_ (e1_ (vs.length:Int)),b_ (ω:(vs.length:Int)≤2147483648),d_,j_];cases good with
 |false=>simp only[c_,a_];rw[show IG b.C0 b.F0 b.H0 b.M0 b.K0 b.L0 b.N0 b.B0 m.G0 m.O0 m.J0 m.A0 xs vs=_ from hplan];simp only[a_];rw[show BA (Oo b (Bq b m xs vs ps press B).img (Bq b m xs vs ps press B).xs vs).1 [] m.G0 m.O0 m.J0 m.A0 xs (aE vs.length (Calls.mk 0 0)) (aE vs.length B) 0 0 0 0 b.C0 b.F0 b.H0 b.M0 b.K0 b.L0 b.N0 b.B0=_ from hwr];rfl
 |true=>have hsv:=QS hcode vs (l:=m.A0) λe he=>(CH.1 (hm.en e he)).1;have hsl:=Za b vs m.A0;have hw1:=Acj hb hcode (hX (CQ b vs ps)) (l:=CU b vs m.A0) ω (λr hr=>(hsv r hr).1) (a4_ _);have hrg:=Apg hb hcode press (ofC m.A0 (0,0)) (X:=wrL (CU b vs m.A0) ⟨[],m,xs,CQ b vs ps,(0,0)⟩) (An3 (hX _) λr hr=>(hsv r hr).1) (by show([]++CU b vs m.A0).length≤_;rw[a5_];omega);unfold He;simp only[d_];rw[Abs hb hcode hm ω vs ω];simp only[a_];simp only at hw1;rw[hw1];simp only[a_,Aah (ω:m.A0.length≤100000),Rnd.tupB];rw[hrg];simp only[a_,Rnd.tupB];rw[show IG b.C0 b.F0 b.H0 b.M0 b.K0 b.L0 b.N0 b.B0 (Ee b (Fg (Az (Ct press (Bz b)) (ofC m.A0 (0,0)))) (wrL (CU b vs m.A0) ⟨[],m,xs,CQ b vs ps,(0,0)⟩)).img.G0 (Ee b (Fg (Az (Ct press (Bz b)) (ofC m.A0 (0,0)))) (wrL (CU b vs m.A0) ⟨[],m,xs,CQ b vs ps,(0,0)⟩)).img.O0 (Ee b (Fg (Az (Ct press (Bz b)) (ofC m.A0 (0,0)))) (wrL (CU b vs m.A0) ⟨[],m,xs,CQ b vs ps,(0,0)⟩)).img.J0 (Ee b (Fg (Az (Ct press (Bz b)) (ofC m.A0 (0,0)))) (wrL (CU b vs m.A0) ⟨[],m,xs,CQ b vs ps,(0,0)⟩)).img.A0 (Ee b (Fg (Az (Ct press (Bz b)) (ofC m.A0 (0,0)))) (wrL (CU b vs m.A0) ⟨[],m,xs,CQ b vs ps,(0,0)⟩)).xs vs=_ from hplan];simp only[a_];refine Eq.trans (c0_ (λo=>Option.bind o _) (show _=D ((),((wrL (Oo b (Bq b m xs vs ps press A).img (Bq b m xs vs ps press A).xs vs).1 (Bq b m xs vs ps press A)).tupB b,()))from hwr)) ?_;rfl
end
structure Pk where
 m:Mch
 budget:Int
 e:Int
 legacy:List Bool
 shows:List Calls
 reset:List Bool
 out:Outputs
def Pk.ap{α:Type}(f:Int→Int→Int→Int→Nat→Nat→Nat→List Car→List Int→List Bool→List Bool→List Entry→ByteArray→ByteArray→Int→List aB→List Belief→List NewCar→List Loaded→List Int→List Calls→Int→Int→Int→Int→Int→Int→Int→List CarInput→Bool→Int→Int→List Bool→List Calls→List Bool→Int→Int→Int→Int→Bool→Bool→Int→List CarOutput→α)(b:C)(x:Inp)(g:Bool)(t:Pk):α:=f b.C0 b.F0 b.H0 b.M0 b.K0 b.L0 b.N0 b.B0 t.m.D0.G0 t.m.D0.O0 t.m.D0.J0 t.m.D0.A0 t.m.D1.h0 t.m.D1.h1 t.m.D1.sel t.m.E1 t.m.U0 t.m.B0 t.m.V2 t.m.Y1 t.m.Y2 t.m.Z3 t.m.Z2 t.m.M2 x.press.1 x.press.2 x.kind x.car x.cars g t.budget t.e t.legacy t.shows t.reset t.out.Y3 t.out.J3 t.out.X2 t.out.L2 t.out.V5 t.out.L0 t.out.H5 t.out.B0
def Pk.tup(b:C)(x:Inp)(g:Bool)(t:Pk):=(b.C0,b.F0,b.H0,b.M0,b.K0,b.L0,b.N0,b.B0,t.m.D0.G0,t.m.D0.O0,t.m.D0.J0,t.m.D0.A0,t.m.D1.h0,t.m.D1.h1,t.m.D1.sel,t.m.E1,t.m.U0,t.m.B0,t.m.V2,t.m.Y1,t.m.Y2,t.m.Z3,t.m.Z2,t.m.M2,x.press.1,x.press.2,x.kind,x.car,x.cars,g,t.budget,t.e,t.legacy,t.shows,t.reset,t.out.Y3,t.out.J3,t.out.X2,t.out.L2,t.out.V5,t.out.L0,t.out.H5,t.out.B0,())
def Pk.wr(t:Pk)(im:Img)(s:Sto)(bu e:Int):Pk:={ t with m:={ t.m with D0:=im,D1:=s },budget:=bu,e:=e }
def goodL(b:C):Img→List E→Prop
 |_,[]=>True
 |m,r::l=>Ax b r=A∧Jt b m r=B∧goodL b (Ak m r) l
def goodL.app:∀{l:List E}{m:Img}{k:List E},goodL b m l→goodL b (Ai m l) k→goodL b m (l++k)
 |[],_,_,_,h=>h
 |_::_,_,_,⟨h1,h2,h3⟩,h=>⟨h1,h2,h3.app h⟩
def WK{b:C}:∀{l:List E}(m:Img),(∀r∈l,Ax b r=A∧r.Q0≠1)→goodL b m l
 |[],_,_=>trivial
 |r::l,m,h=>by have h1:=h r (p_ ..);refine⟨h1.1,?_,WK _ λx hx=>h x (r_ _ hx)⟩;unfold Jt;rw[An h1.2];rfl
def goodL.valid:∀{l:List E}{m:Img},goodL b m l→∀r∈l,Ax b r=A
 |[],_,_,_,h=>by cases h
 |_::_,_,⟨h1,_,h3⟩,r,h=>by
  rcases s_.1 h with rfl | h
  ·exact h1
  ·exact h3.valid r h
def goodL.drop:∀{l:List E}{m:Img},goodL b m l→∀i,i<l.length→Ax b (l.getD i ⟨0,0,0,0,0⟩)=A∧Jt b (Ai m (l.take i)) (l.getD i ⟨0,0,0,0,0⟩)=B
 |[],_,_,_,h=>absurd h (d5_ _)
 |_::_,_,⟨h1,h2,_⟩,0,_=>⟨h1,h2⟩
 |_::_,_,⟨_,_,h3⟩,i+1,h=>h3.drop i (by rw[B_]at h;omega)
def Aob{i:Nat}(h:i<l.length):Ai m (l.take (i+1))=Ak (Ai m (l.take i)) (l.getD i ⟨0,0,0,0,0⟩):=by rw[List.take_succ,Eh,i_ h,k_,i_ h];rfl
def At1(b:C)(s:Sto)(m:Img)(r:E):Sto:=if(s.cur.size:Int)+6≤b.H0 then s.set s.sel (s.get s.sel++txt (CC r))else { s.set (1-s.sel) (txt ((Es (Ak m r)).flatMap CC))with sel:=1-s.sel }
def Arl(hj:Jst b s m)(hv:Ax b r=A)(hfull:Jt b m r=B){bud:Int}(hb0:0≤bud)(hn:QP b s m r≤bud):(Qh b s m r bud).1=At1 b s m r:=by
 have hm2:=(KH hj.img hv).1;have hfit:=Yp hj hv hfull;have hsel:=UI hj.ok;unfold Qh;rw[Img.ok_iff.2 hj.img,hv,b_ hj.ok,f_ (ω:¬bud<0),hfull];simp only[a6_,q_,c_];unfold QP at hn;unfold FI At1;by_cases g:(s.cur.size:Int)+6≤b.H0
 ·rw[if_pos g]at hn;rw[if_pos g,b_ (ω:(6:Int)≤b.H0-(s.cur.size:Int)),d_];have hw:=Aci (t:=CC r) hj.ok hsel hb0 (by rw[← Afl hsel,GC];omega);rw[GC,if_neg (ω:¬bud<((6:Nat):Int))]at hw;rw[hw];rfl
 ·rw[if_neg g]at hn;rw[if_neg g,f_ (ω:¬(6:Int)≤b.H0-(s.cur.size:Int)),c_];rcases Wk hj.ok hm2 hb0 ω with⟨_,q2⟩ | ⟨q1,_⟩
  ·rw[q2];rfl
  ·omega
def Anu(b:C):Sto→Img→List E→Sto
 |s,_,[]=>s
 |s,m,r::l=>Anu b (At1 b s m r) (Ak m r) l
def Anv(b:C):∀(l:List E) (k:List E) (s:Sto) (m:Img),Anu b s m (l++k)=Anu b (Anu b s m l) (Ai m l) k
 |[],_,_,_=>rfl
 |_::l,k,_,_=>Anv b l k _ _
def Wr(b:C)(t:Pk)(l:List E)(t':Pk):Prop:=∃im s bu e,t'=t.wr im s bu e∧((e=0∧im=Ai t.m.D0 l∧Jst b s im∧t.budget-b.H0*(l.length:Int)≤bu∧0≤bu∧bu≤t.budget∧s=Anu b t.m.D1 t.m.D0 l)∨(e=8∧t.budget<b.H0*(l.length:Int)∧s.ok b.H0∧∃k,k<l.length∧Dv b s=Ai t.m.D0 (l.take k)))
section
variable{b:C}(hb:b.small){x:Inp}{g:Bool}
include hb
theorem Bia(hj:Jst b s m)(hv:Ax b r=A)(hf:Jt b m r=B):6≤QP b s m r∧QP b s m r≤b.H0:=by have h1:=Yp hj hv hf;have h2:=hj.fits;have h3:=Aj hj.img.code;unfold QP;split<;>omega
theorem ZL{t:Pk}(hj:Jst b t.m.D1 t.m.D0)(h0:0≤t.budget∧t.budget<9223372036854775808)(he:t.e=0)(hl:goodL b t.m.D0 l)(hn:l.length≤100000):Sat (t.ap (AX l) b x g) λy=>∃t',(y=.inl ((),(t'.tup b x g,()))∨y=.inr ((),(t'.tup b x g,())))∧Wr b t l t':=by
 have hcc:=Aj hj.img.code;have hroom:0≤b.H0:=by have:=hj.fits;omega
 unfold Pk.ap AX;refine aD (Q:=λy=>∃t',(y=.inl ((),(t'.tup b x g,()))∨y=.inr ((),(t'.tup b x g,())))∧Wr b t l t') ?_ λy hy=>?_
 ·unfold Ds;refine Sat.loop (λ(k:Nat) z=>∃(i:Nat) (t':Pk),z=(((),l,(l.length:Int),(i:Int),()),(t'.tup b x g,()))∧i+k=l.length∧Wr b t (l.take i) t') (λk z hz=>?_) l.length ⟨0,t,rfl,o_ _,t.m.D0,t.m.D1,t.budget,t.e,rfl,.inl ⟨he,rfl,hj,σ,h0.1,e1_ _,rfl⟩⟩ ω;obtain⟨i,t',rfl,hk,im,s,bu,e,rfl,hw⟩:=hz;show Sat (Pk.ap (Fi l (l.length:Int) (i:Int)) b x g (t.wr im s bu e)) _;unfold Pk.ap Fi;refine Sat.bic (λq=>?_) λq=>aA ⟨t.wr im s bu e,.inl rfl,im,s,bu,e,rfl,?_⟩
  ·have q:(i:Int)<(l.length:Int):=m_ q;have hi:i<l.length:=ω;have hlt:(l.take i).length=i:=by rw[u_];omega
   have hlt1:(l.take (i+1)).length=i+1:=by rw[u_];omega
   have hm:b.H0*((i+1:Nat):Int)≤b.H0*(l.length:Int):=Int.mul_le_mul_of_nonneg_left ω hroom;have hm2:b.H0*((i+1:Nat):Int)=b.H0*(i:Int)+b.H0:=by rw[Int.natCast_add,Int.mul_add];simp
   refine aC (Ac ω q) ?_;rcases hw with⟨he,him,hj',hb1,hb2,hb3,hst⟩ | ⟨he,hb1,hs,k',hk',hr⟩
   ·subst he him;obtain⟨hv,hf⟩:=hl.drop i hi;have hent:=Dg hb hj'.img;have hp:=hj'.img.lp;refine Sat.bifF (show((0:Int) !=0)=B from rfl) (Sat.bindE (Ai8 hb ω s (m:=Ai t.m.D0 (l.take i)) ω ω (l.getD i ⟨0,0,0,0,0⟩) (bud:=bu) ω) ?_);have w:=CK (n:=i) ω;have hnd:=Bia hb hj' hv hf;rcases Axx hb hj' hv hf hb2 with⟨c1,s',c2,c3⟩ | ⟨c1,s',c2,c3,c4⟩
    ·have hsto:=Arl hj' hv hf hb2 c1;rw[c2]at hsto;rw[c2];refine aA ⟨k-1,ω,i+1,t.wr (Ak (Ai t.m.D0 (l.take i)) (l.getD i ⟨0,0,0,0,0⟩)) s' (bu-QP b s (Ai t.m.D0 (l.take i)) (l.getD i ⟨0,0,0,0,0⟩)) 0,by first | (rw[← w];rfl) | rw[← w],ω,_,s',_,0,rfl,.inl ⟨rfl,(Aob hi).symm,c3,?_,ω,ω,?_⟩⟩
     ·rw[hlt1];rw[hlt]at hb1;omega
     ·rw[List.take_succ,Anv,← hst,i_ hi];rw[k_,i_ hi]at hsto;exact hsto
    ·rw[c2];refine aA ⟨k-1,ω,i+1,t.wr (Ai t.m.D0 (l.take i)) s' 0 8,by first | (rw[← w];rfl) | rw[← w],ω,_,s',0,8,rfl,.inr ⟨rfl,?_,c3,i,ω,?_⟩⟩
     ·rw[hlt1];rw[hlt]at hb1;omega
     ·rw[c4,List.take_take,d6_ ω]
   ·subst he;refine aC (show((8:Int) !=0)=A from rfl) (aA ⟨t.wr im s bu 8,.inr rfl,im,s,bu,8,rfl,.inr ⟨rfl,?_,hs,k',ω,?_⟩⟩)
    ·rw[hlt]at hb1;omega
    ·rw[hr,List.take_take,d6_ ω]
  ·have q:¬(i:Int)<(l.length:Int):=D_ q;rw[a7_ ω]at hw;exact hw
 ·obtain⟨t',h1 | h1,h2⟩:=hy
  ·subst h1;exact aA ⟨t',.inr rfl,h2⟩
  ·subst h1;exact aA ⟨t',.inl rfl,h2⟩
end
end Go.Ovl
namespace Go.Ovl
open Go Go.Ab
variable{n:Int}{i:Nat}{z:aB}{L:List Int}
structure Contacts where
 C0:Int
 Up:Bool
 X3:Bool
 T5:Bool
 A4:Bool
def Contacts.get(c:Contacts)(i:Int):Bool:=if i=32 then c.Up else if i=33 then c.X3 else if i=34 then c.T5 else if i=35 then c.A4 else decide (0≤i∧i<32)&&CW c.C0 i.toNat
def Contacts.set(c:Contacts)(i:Int)(on:Bool):Contacts:=
 if i=32 then { c with Up:=on }else if i=33 then { c with X3:=on }else if i=34 then { c with T5:=on }else if i=35 then { c with A4:=on }
 else if 0≤i∧i<32 then { c with C0:=Xn c.C0 i.toNat on }else c
def Contacts.wf(c:Contacts):Prop:=0≤c.C0∧c.C0<4294967296
def Contacts.tup(c:Contacts):Int×Bool×Bool×Bool×Bool×Unit:=(c.C0,c.Up,c.X3,c.T5,c.A4,())
def Contacts.set_wf{c:Contacts}(h:c.wf)(i:Int)(on:Bool):(c.set i on).wf:=by
 unfold Contacts.set
 repeat(split;exact h)
 split
 ·exact Aui _ _ _
 ·exact h
def Contacts.ext'{c d:Contacts}(hc:c.wf)(hd:d.wf)(h:∀j:Int,0≤j→j<36→c.get j=d.get j):c=d:=by
 have hF:c.C0=d.C0:=by
  refine Afb hc hd λi hi=>?_
  have:=h (i:Int) ω ω
  unfold Contacts.get at this;rw[if_neg ω,if_neg ω,if_neg ω,if_neg ω,if_neg ω,if_neg ω,if_neg ω,if_neg ω]at this;simpa[show(0≤(i:Int)∧(i:Int)<32)from⟨ω,ω⟩,hi]using this
 have h32:=h 32 ω ω;have h33:=h 33 ω ω;have h34:=h 34 ω ω;have h35:=h 35 ω ω;simp[Contacts.get]at h32 h33 h34 h35;cases c;cases d
 simp_all
def Atz{i:Int}(h:0≤i)(h2:i<32):i.toNat<32:=ω
def SW(c:Contacts)(hc:c.wf)(i:Int):Lr c.C0 c.Up c.X3 c.T5 c.A4 i=D ((c.get i,()),()):=by
 unfold Lr Contacts.get;by_cases h32:i=32
 ·simp[h32]
 by_cases h33:i=33
 ·simp[h33]
 by_cases h34:i=34
 ·simp[h34]
 by_cases h35:i=35
 ·simp[h35]
 simp only[h32,h33,h34,h35,f3_,An h32,An h33,An h34,An h35,c_];by_cases h0:0≤i
 ·by_cases h1:i<32
  ·simp only[LC];rw[Bbd hc (Atz h0 h1)];simp[h0,h1]
  ·simp[h0,h1]
 ·simp[h0]
def Aaw(c:Contacts)(i:Int)(on:Bool):NP c.C0 c.Up c.X3 c.T5 c.A4 i on=D (((),()),((c.set i on).tup,())):=by
 unfold NP Contacts.set;by_cases h32:i=32
 ·simp[h32,Contacts.tup]
 by_cases h33:i=33
 ·simp[h33,Contacts.tup]
 by_cases h34:i=34
 ·simp[h34,Contacts.tup]
 by_cases h35:i=35
 ·simp[h35,Contacts.tup]
 simp only[h32,h33,h34,h35,f3_,An h32,An h33,An h34,An h35,c_];by_cases h0:0≤i
 ·have e0:decide (0≤i)=A:=by simpa using h0
  by_cases h1:i<32
  ·have e1:decide (i<32)=A:=by simpa using h1
   simp only[e0,e1,d_,a_,LC];rw[Axv _ (Atz h0 h1),Bpz _ (Atz h0 h1),Az9,if_pos ⟨h0,h1⟩];cases on<;>rfl
  ·have e1:decide (i<32)=B:=by simpa using h1
   simp only[e0,e1,d_,c_,a_];rw[if_neg ω];rfl
 ·have e0:decide (0≤i)=B:=by simpa using h0
  simp only[e0,c_,a_];rw[if_neg ω];rfl
structure Deb where
 c:Contacts
 k:List Int
def Deb.no:Deb:=⟨⟨0,B,B,B,B⟩,aE 36 0⟩
def Deb.tup(s:Deb):Int×Bool×Bool×Bool×Bool×Int×Int×Int×Int×Int×Int×Int×Int×Int×Int×Int×Int×Int×Int×Int×Int×Int×Int×Int×Int×Int×Int×Int×Int×Int×Int×Int×Int×Int×Int×Int×Int×Int×Int×Int×Int×Unit:=(s.c.C0,s.c.Up,s.c.X3,s.c.T5,s.c.A4,s.k.getD 0 0,s.k.getD 1 0,s.k.getD 2 0,s.k.getD 3 0,s.k.getD 4 0,s.k.getD 5 0,s.k.getD 6 0,s.k.getD 7 0,s.k.getD 8 0,s.k.getD 9 0,s.k.getD 10 0,s.k.getD 11 0,s.k.getD 12 0,s.k.getD 13 0,s.k.getD 14 0,s.k.getD 15 0,s.k.getD 16 0,s.k.getD 17 0,s.k.getD 18 0,s.k.getD 19 0,s.k.getD 20 0,s.k.getD 21 0,s.k.getD 22 0,s.k.getD 23 0,s.k.getD 24 0,s.k.getD 25 0,s.k.getD 26 0,s.k.getD 27 0,s.k.getD 28 0,s.k.getD 29 0,s.k.getD 30 0,s.k.getD 31 0,s.k.getD 32 0,s.k.getD 33 0,s.k.getD 34 0,s.k.getD 35 0,())
def Deb.cnt(s:Deb):Int×Int×Int×Int×Int×Int×Int×Int×Int×Int×Int×Int×Int×Int×Int×Int×Int×Int×Int×Int×Int×Int×Int×Int×Int×Int×Int×Int×Int×Int×Int×Int×Int×Int×Int×Int×Unit:=(s.k.getD 0 0,s.k.getD 1 0,s.k.getD 2 0,s.k.getD 3 0,s.k.getD 4 0,s.k.getD 5 0,s.k.getD 6 0,s.k.getD 7 0,s.k.getD 8 0,s.k.getD 9 0,s.k.getD 10 0,s.k.getD 11 0,s.k.getD 12 0,s.k.getD 13 0,s.k.getD 14 0,s.k.getD 15 0,s.k.getD 16 0,s.k.getD 17 0,s.k.getD 18 0,s.k.getD 19 0,s.k.getD 20 0,s.k.getD 21 0,s.k.getD 22 0,s.k.getD 23 0,s.k.getD 24 0,s.k.getD 25 0,s.k.getD 26 0,s.k.getD 27 0,s.k.getD 28 0,s.k.getD 29 0,s.k.getD 30 0,s.k.getD 31 0,s.k.getD 32 0,s.k.getD 33 0,s.k.getD 34 0,s.k.getD 35 0,())
def Deb.at(n:Int)(r:Contacts)(i:Nat)(s:Deb):Deb:=if r.get i=s.c.get i then⟨s.c,s.k.set i 0⟩else if s.k.getD i 0+1=n then⟨s.c.set i (r.get i),s.k.set i 0⟩else⟨s.c,s.k.set i (s.k.getD i 0+1)⟩
def Deb.step(n:Int)(s:Deb)(r:Contacts):Deb:=AM (Deb.at n r) 36 0 s
structure Deb.wf(s:Deb):Prop where
 c:s.c.wf
 len:s.k.length=36
 lo:∀j,j<36→0≤s.k.getD j 0
 hi:∀j,j<36→s.k.getD j 0<1000
def Deb.is(n:Int)(s:Deb):Prop:=1≤n∧n≤16∧∀j,j<36→0≤s.k.getD j 0∧s.k.getD j 0<n
def Vz(h:L.length=36):[L.getD 0 0,L.getD 1 0,L.getD 2 0,L.getD 3 0,L.getD 4 0,L.getD 5 0,L.getD 6 0,L.getD 7 0,L.getD 8 0,L.getD 9 0,L.getD 10 0,L.getD 11 0,L.getD 12 0,L.getD 13 0,L.getD 14 0,L.getD 15 0,L.getD 16 0,L.getD 17 0,L.getD 18 0,L.getD 19 0,L.getD 20 0,L.getD 21 0,L.getD 22 0,L.getD 23 0,L.getD 24 0,L.getD 25 0,L.getD 26 0,L.getD 27 0,L.getD 28 0,L.getD 29 0,L.getD 30 0,L.getD 31 0,L.getD 32 0,L.getD 33 0,L.getD 34 0,L.getD 35 0]=L:=by
 have e:[L.getD 0 0,L.getD 1 0,L.getD 2 0,L.getD 3 0,L.getD 4 0,L.getD 5 0,L.getD 6 0,L.getD 7 0,L.getD 8 0,L.getD 9 0,L.getD 10 0,L.getD 11 0,L.getD 12 0,L.getD 13 0,L.getD 14 0,L.getD 15 0,L.getD 16 0,L.getD 17 0,L.getD 18 0,L.getD 19 0,L.getD 20 0,L.getD 21 0,L.getD 22 0,L.getD 23 0,L.getD 24 0,L.getD 25 0,L.getD 26 0,L.getD 27 0,L.getD 28 0,L.getD 29 0,L.getD 30 0,L.getD 31 0,L.getD 32 0,L.getD 33 0,L.getD 34 0,L.getD 35 0]=(List.range 36).map (λq=>L.getD q 0):=rfl;rw[e];apply List.ext_getElem
 ·simp[h]
 ·intro j h1 h2;simp[h2]
def Abi(h:i<L.length)(q:Nat)(v:Int):(bif Nat.beq i q then v else L.getD q 0)=(L.set i v).getD q 0:=by
 rw[BM];by_cases e:i=q
 ·subst e;simp[h]
 ·simp[e]
def Aro{s:Deb}(h:s.wf)(hs:s.is n){r:Contacts}(hi:i<36):(s.at n r i).wf∧(s.at n r i).is n:=by
 have hset:∀(v:Int) (j:Nat),(s.k.set i v).getD j 0=if j=i then v else s.k.getD j 0:=by
  intro v j;rw[← Abi (by rw[h.len];exact hi),BM];by_cases e:i=j
  ·simp[e]
  ·simp[e,e8_ e]
 have hn:=hs.1;have hn2:=hs.2.1;have key:∀v:Int,0≤v→v<n→∀j,j<36→0≤(s.k.set i v).getD j 0∧(s.k.set i v).getD j 0<n:=by
  intro v h1 h2 j hj;rw[hset];by_cases e:j=i
  ·rw[if_pos e];exact⟨h1,h2⟩
  ·rw[if_neg e];exact hs.2.2 j hj
 have fin:∀(c:Contacts) (v:Int),c.wf→0≤v→v<n→Deb.wf ⟨c,s.k.set i v⟩∧Deb.is n ⟨c,s.k.set i v⟩:=by intro c v hc h1 h2;have hk:=key v h1 h2;exact⟨⟨hc,by simp[h.len],λj hj=>(hk j hj).1,λj hj=>by have:=(hk j hj).2;simp only at this⊢;omega⟩,hn,hn2,hk⟩
 have hki:=hs.2.2 i hi;unfold Deb.at;split
 ·exact fin _ _ h.c ω ω
 ·split
  ·exact fin _ _ (Contacts.set_wf h.c _ _) ω ω
  ·exact fin _ _ h.c ω ω
def Ahk{n:Int}{r:Contacts}:∀(m i:Nat) (s:Deb),i+m≤36→s.wf→s.is n→(AM (Deb.at n r) m i s).wf∧(AM (Deb.at n r) m i s).is n
 |0,_,_,_,h,hs=>⟨h,hs⟩
 |m+1,i,s,hi,h,hs=>Ahk m (i+1) (s.at n r i) ω (Aro h hs ω).1 (Aro h hs ω).2
def Bik{s:Deb}(h:s.wf)(hs:s.is n)(r:Contacts):(s.step n r).wf∧(s.step n r).is n:=Ahk 36 0 s ω h hs
def Ai3{s:Deb}(h:s.wf)(hs:s.is n){r:Contacts}(hr:r.wf)(b:Deb)(hi:i<36):
  Io n (i:Int) s.c.C0 s.c.Up s.c.X3 s.c.T5 s.c.A4 (s.k.getD 0 0) (s.k.getD 1 0) (s.k.getD 2 0) (s.k.getD 3 0) (s.k.getD 4 0) (s.k.getD 5 0) (s.k.getD 6 0) (s.k.getD 7 0) (s.k.getD 8 0) (s.k.getD 9 0) (s.k.getD 10 0) (s.k.getD 11 0) (s.k.getD 12 0) (s.k.getD 13 0) (s.k.getD 14 0) (s.k.getD 15 0) (s.k.getD 16 0) (s.k.getD 17 0) (s.k.getD 18 0) (s.k.getD 19 0) (s.k.getD 20 0) (s.k.getD 21 0) (s.k.getD 22 0) (s.k.getD 23 0) (s.k.getD 24 0) (s.k.getD 25 0) (s.k.getD 26 0) (s.k.getD 27 0) (s.k.getD 28 0) (s.k.getD 29 0) (s.k.getD 30 0) (s.k.getD 31 0) (s.k.getD 32 0) (s.k.getD 33 0) (s.k.getD 34 0) (s.k.getD 35 0) r.C0 r.Up r.X3 r.T5 r.A4 b.c.C0 b.c.Up b.c.X3 b.c.T5 b.c.A4 (b.k.getD 0 0) (b.k.getD 1 0) (b.k.getD 2 0) (b.k.getD 3 0) (b.k.getD 4 0) (b.k.getD 5 0) (b.k.getD 6 0) (b.k.getD 7 0) (b.k.getD 8 0) (b.k.getD 9 0) (b.k.getD 10 0) (b.k.getD 11 0) (b.k.getD 12 0) (b.k.getD 13 0) (b.k.getD 14 0) (b.k.getD 15 0) (b.k.getD 16 0) (b.k.getD 17 0) (b.k.getD 18 0) (b.k.getD 19 0) (b.k.getD 20 0) (b.k.getD 21 0) (b.k.getD 22 0) (b.k.getD 23 0) (b.k.getD 24 0) (b.k.getD 25 0) (b.k.getD 26 0) (b.k.getD 27 0) (b.k.getD 28 0) (b.k.getD 29 0) (b.k.getD 30 0) (b.k.getD 31 0) (b.k.getD 32 0) (b.k.getD 33 0) (b.k.getD 34 0) (b.k.getD 35 0)=
   D (.inl ((n,(),(),(),((i+1:Nat):Int),()),((s.at n r i).tup,r.tup,b.tup,()))):=by
 unfold Io;have e0:decide ((i:Int)<36)=A:=by simp;omega
 have ib:inB (i:Int) 36=A:=Ac ω ω;have tn:Int.toNat (i:Int)=i:=ω;have w:aF.wrap ((i:Int)+1)=((i+1:Nat):Int):=by rw[Aa ω ω];omega
 have hki:=h.lo i hi;have hki':=h.hi i hi;have wk:aF.wrap (s.k.getD i 0+1)=s.k.getD i 0+1:=Aa ω ω;have hl:i<s.k.length:=by rw[h.len];exact hi
 have hl2:∀v:Int,i<(s.k.set i v).length:=λv=>by simp;exact hl
 have hgi:∀v:Int,(s.k.set i v).getD i 0=v:=λv=>by simp[hl]
 rw[e0,d_,SW r hr (i:Int),SW s.c h.c (i:Int)];simp only[a_,ib,d_,tn,Abi hl,w,Vz h.len,wk];unfold Deb.at;by_cases hq:r.get i=s.c.get i
 ·simp only[hq,l_,d_,g9_];rfl
 ·simp only[An hq,c_,hq,f3_];have l36:∀v:Int,(s.k.set i v).length=36:=λv=>by simp[h.len]
  try simp only[Vz (l36 _),hgi,Abi (hl2 _),List.set_set]
  by_cases hn:s.k.getD i 0+1=n
  ·have:(s.k.getD i 0+1==n)=A:=by simpa using hn
   simp only[this,d_,g9_,hn,l_];rw[Aaw s.c (i:Int) (r.get i)];rfl
  ·simp only[An hn,c_,hn,f3_];rfl
noncomputable instance isDeb_ti(n:Int)(s:Deb):Decidable (s.is n):=Classical.propDecidable _
def Deb.rng(n:Int)(s:Deb):Prop:=∀j,j<36→0≤s.k.getD j 0∧s.k.getD j 0<n
noncomputable instance rngDeb_ti(n:Int)(s:Deb):Decidable (s.rng n):=Classical.propDecidable _
def Ay2{s:Deb}:s.is n↔1≤n∧n≤16∧s.rng n:=Iff.rfl
def Ai4{s:Deb}(h:s.wf)(hs:s.is n){r:Contacts}(hr:r.wf):
  Gp ((n,(),(),(),(0:Int),()),(s.tup,r.tup,Deb.no.tup,()))=D (((),(),()),((s.step n r).tup,Deb.no.tup,())):=by
 unfold Gp;refine As (Bc 36 (λ(i:Nat) (s:Deb)=>((n,(),(),(),(i:Int),()),(s.tup,r.tup,Deb.no.tup,()))) (Deb.at n r) (λ_ s=>s.wf∧s.is n) (λs=>(((),(),()),(s.tup,Deb.no.tup,()))) (λi s hi hin=>⟨Ai3 hin.1 hin.2 hr Deb.no hi,Aro hin.1 hin.2 hi⟩) (λs hin=>?_) 36 0 s rfl ⟨h,hs⟩).1 ω;show Io n ((36:Nat):Int) s.c.C0 s.c.Up s.c.X3 s.c.T5 s.c.A4 (s.k.getD 0 0) (s.k.getD 1 0) (s.k.getD 2 0) (s.k.getD 3 0) (s.k.getD 4 0) (s.k.getD 5 0) (s.k.getD 6 0) (s.k.getD 7 0) (s.k.getD 8 0) (s.k.getD 9 0) (s.k.getD 10 0) (s.k.getD 11 0) (s.k.getD 12 0) (s.k.getD 13 0) (s.k.getD 14 0) (s.k.getD 15 0) (s.k.getD 16 0) (s.k.getD 17 0) (s.k.getD 18 0) (s.k.getD 19 0) (s.k.getD 20 0) (s.k.getD 21 0) (s.k.getD 22 0) (s.k.getD 23 0) (s.k.getD 24 0) (s.k.getD 25 0) (s.k.getD 26 0) (s.k.getD 27 0) (s.k.getD 28 0) (s.k.getD 29 0) (s.k.getD 30 0) (s.k.getD 31 0) (s.k.getD 32 0) (s.k.getD 33 0) (s.k.getD 34 0) (s.k.getD 35 0) r.C0 r.Up r.X3 r.T5 r.A4 Deb.no.c.C0 Deb.no.c.Up Deb.no.c.X3 Deb.no.c.T5 Deb.no.c.A4 (Deb.no.k.getD 0 0) (Deb.no.k.getD 1 0) (Deb.no.k.getD 2 0) (Deb.no.k.getD 3 0) (Deb.no.k.getD 4 0) (Deb.no.k.getD 5 0) (Deb.no.k.getD 6 0) (Deb.no.k.getD 7 0) (Deb.no.k.getD 8 0) (Deb.no.k.getD 9 0) (Deb.no.k.getD 10 0) (Deb.no.k.getD 11 0) (Deb.no.k.getD 12 0) (Deb.no.k.getD 13 0) (Deb.no.k.getD 14 0) (Deb.no.k.getD 15 0) (Deb.no.k.getD 16 0) (Deb.no.k.getD 17 0) (Deb.no.k.getD 18 0) (Deb.no.k.getD 19 0) (Deb.no.k.getD 20 0) (Deb.no.k.getD 21 0) (Deb.no.k.getD 22 0) (Deb.no.k.getD 23 0) (Deb.no.k.getD 24 0) (Deb.no.k.getD 25 0) (Deb.no.k.getD 26 0) (Deb.no.k.getD 27 0) (Deb.no.k.getD 28 0) (Deb.no.k.getD 29 0) (Deb.no.k.getD 30 0) (Deb.no.k.getD 31 0) (Deb.no.k.getD 32 0) (Deb.no.k.getD 33 0) (Deb.no.k.getD 34 0) (Deb.no.k.getD 35 0)=_;unfold Io;have e:decide (((36:Nat):Int)<36)=B:=rfl;rw[e];rfl
def Ai2{s:Deb}(hl:s.k.length=36):EK ((n,s.cnt,(0:Int),()),())=D (if s.rng n then .inl ((),())else .inr ((B,()),())):=by
 unfold EK;have key:∀(step:_→_),(∀i:Nat,step ((n,s.cnt,(i:Int),()),())=CS n (s.k.getD 0 0) (s.k.getD 1 0) (s.k.getD 2 0) (s.k.getD 3 0) (s.k.getD 4 0) (s.k.getD 5 0) (s.k.getD 6 0) (s.k.getD 7 0) (s.k.getD 8 0) (s.k.getD 9 0) (s.k.getD 10 0) (s.k.getD 11 0) (s.k.getD 12 0) (s.k.getD 13 0) (s.k.getD 14 0) (s.k.getD 15 0) (s.k.getD 16 0) (s.k.getD 17 0) (s.k.getD 18 0) (s.k.getD 19 0) (s.k.getD 20 0) (s.k.getD 21 0) (s.k.getD 22 0) (s.k.getD 23 0) (s.k.getD 24 0) (s.k.getD 25 0) (s.k.getD 26 0) (s.k.getD 27 0) (s.k.getD 28 0) (s.k.getD 29 0) (s.k.getD 30 0) (s.k.getD 31 0) (s.k.getD 32 0) (s.k.getD 33 0) (s.k.getD 34 0) (s.k.getD 35 0) (i:Int))→∀(m i:Nat),i+m=36→(∀j,j<i→0≤s.k.getD j 0∧s.k.getD j 0<n)→Cd step (m+1) ((n,s.cnt,(i:Int),()),())=D (if s.rng n then Sum.inl ((),())else Sum.inr ((B,()),())):=by
  intro step hstep m;induction m with
  |zero=>
   intro i hi hj
   have:i=36:=ω
   subst this;rw[if_pos (show s.rng n from hj)];refine AU ?_;rw[hstep];unfold CS;have e:decide (((36:Nat):Int)<36)=B:=rfl;rw[e];rfl
  |succ m ih=>
   intro i hi hj;have e0:decide ((i:Int)<36)=A:=by simp;omega
   have ib:inB (i:Int) 36=A:=Ac ω ω;have tn:Int.toNat (i:Int)=i:=ω;have w:aF.wrap ((i:Int)+1)=((i+1:Nat):Int):=by rw[Aa ω ω];omega
   by_cases h1:s.k.getD i 0<0
   ·rw[if_neg (show ¬s.rng n from λhall=>by have:=(hall i ω).1;omega)];refine AU ?_;rw[hstep];unfold CS;have e1:decide (s.k.getD i 0<0)=A:=by simpa using h1
    simp only[e0,ib,tn,Vz hl,e1,d_]
   ·have e1:decide (s.k.getD i 0<0)=B:=by simpa using h1
    by_cases h2:n≤s.k.getD i 0
    ·rw[if_neg (show ¬s.rng n from λhall=>by have:=(hall i ω).2;omega)];refine AU ?_;rw[hstep];unfold CS;have e2:decide (n≤s.k.getD i 0)=A:=by simpa using h2
     simp only[e0,ib,tn,Vz hl,e1,e2,d_,c_]
    ·have e2:decide (n≤s.k.getD i 0)=B:=by simpa using h2
     have st:step ((n,s.cnt,(i:Int),()),())=D (.inl ((n,s.cnt,((i+1:Nat):Int),()),())):=by rw[hstep];unfold CS;simp only[e0,ib,tn,Vz hl,e1,e2,d_,c_,w];rfl
     rw[Ca st];exact ih (i+1) ω λj hj'=>if e:j=i then by subst e;omega else hj j ω
 exact As (key _ (λ_=>rfl) 36 0 rfl (λj hj=>by omega)) ω
def VS{s:Deb}(hl:s.k.length=36):Ey n s.c.C0 s.c.Up s.c.X3 s.c.T5 s.c.A4 (s.k.getD 0 0) (s.k.getD 1 0) (s.k.getD 2 0) (s.k.getD 3 0) (s.k.getD 4 0) (s.k.getD 5 0) (s.k.getD 6 0) (s.k.getD 7 0) (s.k.getD 8 0) (s.k.getD 9 0) (s.k.getD 10 0) (s.k.getD 11 0) (s.k.getD 12 0) (s.k.getD 13 0) (s.k.getD 14 0) (s.k.getD 15 0) (s.k.getD 16 0) (s.k.getD 17 0) (s.k.getD 18 0) (s.k.getD 19 0) (s.k.getD 20 0) (s.k.getD 21 0) (s.k.getD 22 0) (s.k.getD 23 0) (s.k.getD 24 0) (s.k.getD 25 0) (s.k.getD 26 0) (s.k.getD 27 0) (s.k.getD 28 0) (s.k.getD 29 0) (s.k.getD 30 0) (s.k.getD 31 0) (s.k.getD 32 0) (s.k.getD 33 0) (s.k.getD 34 0) (s.k.getD 35 0)=D ((decide (s.is n),()),()):=by
 unfold Ey;by_cases h1:n<1
 ·have:¬s.is n:=λh=>by have:=h.1;omega
  simp[h1,this]
 ·have h1':1≤n:=ω;by_cases h2:16<n
  ·have:¬s.is n:=λh=>by have:=h.2.1;omega
   simp[h1,h2,this]
  ·have h2':n≤16:=ω;have hl':=Ai2 (n:=n) hl;simp only[Deb.cnt]at hl';have e1:decide (n<1)=B:=by simpa using h1
   have e2:decide (16<n)=B:=by simpa using h2
   simp only[e1,e2,c_,hl',a_];by_cases h3:s.rng n
   ·rw[if_pos h3,b_ (Ay2.2 ⟨h1',h2',h3⟩)]
   ·rw[if_neg h3,f_ λh=>h3 (Ay2.1 h).2.2]
def ZN{s:Deb}(h:s.wf)(hs:s.is n){r:Contacts}(hr:r.wf):MQ n s.c.C0 s.c.Up s.c.X3 s.c.T5 s.c.A4 (s.k.getD 0 0) (s.k.getD 1 0) (s.k.getD 2 0) (s.k.getD 3 0) (s.k.getD 4 0) (s.k.getD 5 0) (s.k.getD 6 0) (s.k.getD 7 0) (s.k.getD 8 0) (s.k.getD 9 0) (s.k.getD 10 0) (s.k.getD 11 0) (s.k.getD 12 0) (s.k.getD 13 0) (s.k.getD 14 0) (s.k.getD 15 0) (s.k.getD 16 0) (s.k.getD 17 0) (s.k.getD 18 0) (s.k.getD 19 0) (s.k.getD 20 0) (s.k.getD 21 0) (s.k.getD 22 0) (s.k.getD 23 0) (s.k.getD 24 0) (s.k.getD 25 0) (s.k.getD 26 0) (s.k.getD 27 0) (s.k.getD 28 0) (s.k.getD 29 0) (s.k.getD 30 0) (s.k.getD 31 0) (s.k.getD 32 0) (s.k.getD 33 0) (s.k.getD 34 0) (s.k.getD 35 0) r.C0 r.Up r.X3 r.T5 r.A4=D (((),()),((s.step n r).tup,())):=by have hl:=Ai4 h hs hr;unfold MQ;show(Gp ((n,(),(),(),(0:Int),()),(s.tup,r.tup,Deb.no.tup,()))).bind _=_;rw[hl];rfl
def ZM{s:Deb}(h:s.k.length=36)(hc:s.c.wf){r:Contacts}(hr:r.wf):
  JX n s.c.C0 s.c.Up s.c.X3 s.c.T5 s.c.A4 (s.k.getD 0 0) (s.k.getD 1 0) (s.k.getD 2 0) (s.k.getD 3 0) (s.k.getD 4 0) (s.k.getD 5 0) (s.k.getD 6 0) (s.k.getD 7 0) (s.k.getD 8 0) (s.k.getD 9 0) (s.k.getD 10 0) (s.k.getD 11 0) (s.k.getD 12 0) (s.k.getD 13 0) (s.k.getD 14 0) (s.k.getD 15 0) (s.k.getD 16 0) (s.k.getD 17 0) (s.k.getD 18 0) (s.k.getD 19 0) (s.k.getD 20 0) (s.k.getD 21 0) (s.k.getD 22 0) (s.k.getD 23 0) (s.k.getD 24 0) (s.k.getD 25 0) (s.k.getD 26 0) (s.k.getD 27 0) (s.k.getD 28 0) (s.k.getD 29 0) (s.k.getD 30 0) (s.k.getD 31 0) (s.k.getD 32 0) (s.k.getD 33 0) (s.k.getD 34 0) (s.k.getD 35 0) r.C0 r.Up r.X3 r.T5 r.A4=if s.is n then D (((),(0:Int),()),((s.step n r).tup,()))else D (((),(1:Int),()),(Deb.no.tup,())):=by
 unfold JX;rw[VS h];by_cases hs:s.is n
 ·have hw:s.wf:=⟨hc,h,λj hj=>(hs.2.2 j hj).1,λj hj=>by have:=(hs.2.2 j hj).2;have:=hs.2.1;omega⟩
  simp only[hs,decide_true,a_,q_,c_,g9_];rw[ZN hw hs hr];rfl
 ·simp only[hs,decide_false,a_,d4_,d_,f3_];rfl
structure BW(b:Bldg):Prop where
 small:b.small
 code:b.code=0
 room:b.H0≤600
 full:Sat (arF .sub .f64 b.L0 4589168020290535424) λ_=>True
 over:Sat (arF .sub .f64 b.N0 4589168020290535424) λ_=>True
def Asl(b:C)(c:aB):Prop:=Uj b.F0 c=A∧0≤c.V0∧c.V0<4294967296
structure PM(b:Bldg)(m:Mch):Prop where
 jst:Jst b m.D1 m.D0
 con:m.E1.length=b.B0.length
 conv:∀c∈m.E1,Asl b c
 bel:m.U0.length=b.B0.length
 belv:∀i,i<b.B0.length→BelOK b i (m.U0.getD i GN)
 car:m.B0.length=b.B0.length
 carv:∀c∈m.B0,HK b c=true
 lod:m.V2.length=b.B0.length
 lodv:∀l∈m.V2,0≤l.U5∧l.U5≤4
 lit:m.Y2.length=b.B0.length
 exl:m.Y1.length=m.D0.A0.length
 exv:∀x∈m.Y1,0≤x∧x≤1000000
 tick:0≤m.Z3∧m.Z3≤1000000
 flt:0≤m.Z2∧m.Z2≤1000000
 ref:0≤m.M2∧m.M2≤1000000
structure PR(b:Bldg)(t:Pk):Prop where
 leg:t.legacy.length=b.B0.length
 sho:t.shows.length=b.B0.length
 rst:t.reset.length=b.B0.length
 oc:t.out.B0.length=b.B0.length
structure FixR(t t':Pk):Prop where
 im:t'.m.D0=t.m.D0
 st:t'.m.D1=t.m.D1
 bu:t'.budget=t.budget
 e:t'.e=t.e
 out:t'.out={ t.out with B0:=t'.out.B0 }
structure Fix(t t':Pk):Prop extends FixR t t' where
 con:t'.m.E1=t.m.E1
def Fix.rfl'(t:Pk):Fix t t:=⟨⟨rfl,rfl,rfl,rfl,rfl⟩,rfl⟩
def Fix.trans{a c d:Pk}(h:Fix a c)(k:Fix c d):Fix a d:=⟨⟨k.im.trans h.im,k.st.trans h.st,k.bu.trans h.bu,k.e.trans h.e,by rw[k.out,h.out]⟩,k.con.trans h.con⟩
def Agv{α:Type}{P:α→Prop}{l:List α}(h:∀x∈l,P x){v:α}(hv:P v)(i:Nat):∀x∈l.set i v,P x:=λx hx=>by
 rcases List.mem_or_eq_of_mem_set hx with hx | rfl
 ·exact h x hx
 ·exact hv
section
variable{b:C}{m:Mch}
def PM.sBel(h:PM b m){v:Belief}(hv:BelOK b i v):PM b { m with U0:=m.U0.set i v }:=
 ⟨h.jst,h.con,h.conv,by show(m.U0.set i v).length=_;rw[x_];exact h.bel,λj hj=>by
  show BelOK b j ((m.U0.set i v).getD j GN);by_cases e:i=j
  ·subst e;rw[Bf _ _ (by rw[h.bel];exact hj)];exact hv
  ·rw[BZ _ _ e];exact h.belv j hj,h.car,h.carv,h.lod,h.lodv,h.lit,h.exl,h.exv,h.tick,h.flt,h.ref⟩
def PM.sCar(h:PM b m)(i:Nat){v:NewCar}(hv:HK b v=A):PM b { m with B0:=m.B0.set i v }:=⟨h.jst,h.con,h.conv,h.bel,h.belv,by show(m.B0.set i v).length=_;rw[x_];exact h.car,Agv h.carv hv i,h.lod,h.lodv,h.lit,h.exl,h.exv,h.tick,h.flt,h.ref⟩
def PM.sCon(h:PM b m)(i:Nat){v:aB}(hv:Asl b v){w:Loaded}(hw:0≤w.U5∧w.U5≤4):PM b { m with E1:=m.E1.set i v,V2:=m.V2.set i w }:=⟨h.jst,by show(m.E1.set i v).length=_;rw[x_];exact h.con,Agv h.conv hv i,h.bel,h.belv,h.car,h.carv,by show(m.V2.set i w).length=_;rw[x_];exact h.lod,Agv h.lodv hw i,h.lit,h.exl,h.exv,h.tick,h.flt,h.ref⟩
def PM.sTick(h:PM b m){k:Int}(hn:0≤n∧n≤1000000)(hk:0≤k∧k≤1000000):PM b { m with Z3:=n,Z2:=k }:=⟨h.jst,h.con,h.conv,h.bel,h.belv,h.car,h.carv,h.lod,h.lodv,h.lit,h.exl,h.exv,hn,hk,h.ref⟩
end
@[reducible] def Bu9(z:aB):=(z.V0,z.T1,z.F1,z.G1,z.W0,z.I5,z.J5,z.K5,z.L5,z.M5,z.N5,z.O5,z.P5,z.Q5,z.R5,z.D4,z.E4,z.F4,z.G4,z.H4,z.I4,z.J4,z.K4,z.L4,z.M4,z.N4,z.O4,z.Q4,z.R4,z.S4,z.T4,z.U4,z.V4,z.X4,z.Y4,z.Z4,z.A5,z.B5,z.C5,z.E5,z.F5,())
def Yi(z:aB):Deb:=⟨⟨z.V0,z.T1,z.F1,z.G1,z.W0⟩,Aa9 z⟩
def Aso(s:Deb):aB:=Debounced.mk s.c.C0 s.c.Up s.c.X3 s.c.T5 s.c.A4 (s.k.getD 0 0) (s.k.getD 1 0) (s.k.getD 2 0) (s.k.getD 3 0) (s.k.getD 4 0) (s.k.getD 5 0) (s.k.getD 6 0) (s.k.getD 7 0) (s.k.getD 8 0) (s.k.getD 9 0) (s.k.getD 10 0) (s.k.getD 11 0) (s.k.getD 12 0) (s.k.getD 13 0) (s.k.getD 14 0) (s.k.getD 15 0) (s.k.getD 16 0) (s.k.getD 17 0) (s.k.getD 18 0) (s.k.getD 19 0) (s.k.getD 20 0) (s.k.getD 21 0) (s.k.getD 22 0) (s.k.getD 23 0) (s.k.getD 24 0) (s.k.getD 25 0) (s.k.getD 26 0) (s.k.getD 27 0) (s.k.getD 28 0) (s.k.getD 29 0) (s.k.getD 30 0) (s.k.getD 31 0) (s.k.getD 32 0) (s.k.getD 33 0) (s.k.getD 34 0) (s.k.getD 35 0)
def Ayh:Uj n z=A↔(Yi z).is n:=by
 unfold Uj Deb.is;rw[e_,e_,t_,t_];refine and_congr_right λ_=>and_congr_right λ_=>⟨λh j hj=>?_,λh=>Ua 36 0 λk _ hk=>?_⟩
 ·have:=Tc 36 0 h j (a4_ _) ω
  unfold Ala at this;simp only[e_,t_]at this;exact this
 ·have:=h k ω
  unfold Ala;simp only[e_,t_];exact this
def Afk{b:C}(hcode:b.code=0)(h:Asl b z){f:Int}(hf:0≤f∧f<4294967296)(u d o c:Bool):Sat (JX b.F0 z.V0 z.T1 z.F1 z.G1 z.W0 z.I5 z.J5 z.K5 z.L5 z.M5 z.N5 z.O5 z.P5 z.Q5 z.R5 z.D4 z.E4 z.F4 z.G4 z.H4 z.I4 z.J4 z.K4 z.L4 z.M4 z.N4 z.O4 z.Q4 z.R4 z.S4 z.T4 z.U4 z.V4 z.X4 z.Y4 z.Z4 z.A5 z.B5 z.C5 z.E5 z.F5 f u d o c) λy=>∃z',y.2.1=Bu9 z'∧Asl b z'∧z'=Aso ((Yi z).step b.F0 ⟨f,u,d,o,c⟩):=by
 have hi:=Ayh.1 h.1;have hd:=Alb hcode;have hw:(Yi z).wf:=⟨h.2,rfl,λj hj=>(hi.2.2 j hj).1,λj hj=>by have:=(hi.2.2 j hj).2;omega⟩
 have e:=ZM (n:=b.F0) (s:=Yi z) rfl h.2 (r:=⟨f,u,d,o,c⟩) hf;rw[if_pos hi]at e;obtain⟨w1,w2⟩:=Bik hw hi ⟨f,u,d,o,c⟩;refine⟨_,e,Aso ((Yi z).step b.F0 ⟨f,u,d,o,c⟩),rfl,⟨Ayh.2 ?_,w1.c⟩,rfl⟩;generalize(Yi z).step b.F0 ⟨f,u,d,o,c⟩=s at w1 w2
 have:Yi (Aso s)=s:=by unfold Yi;rw[show Aa9 (Aso s)=s.k from Vz w1.len];rfl
 rw[this];exact w2
def Amx(h:0≤n∧n≤1000000):Sat (HT n) λy=>0≤y.1.1∧y.1.1≤1000000:=by
 unfold HT;rw[Aa ω ω];refine aA ?_;show 0≤(bif decide (1000000<n+1)then(1000000:Int)else n+1)∧(bif decide (1000000<n+1)then(1000000:Int)else n+1)≤1000000;by_cases g:1000000<n+1
 ·rw[b_ g,d_];omega
 ·rw[f_ g,c_];omega
section
variable{b:C}(hw:BW b){x:Inp}{g:Bool}(hx:g=A→InOK b x)
include hw hx
theorem Bp4{t:Pk}(hm:PM b t.m)(hr:PR b t):Sat (t.ap El b x g) λy=>∃t',(y=.inl ((),(t'.tup b x g,()))∨y=.inr ((),(t'.tup b x g,())))∧PM b t'.m∧PR b t'∧FixR t t':=by
 have hcc:=Aj hw.code;unfold Pk.ap El;refine aD (Amx hm.tick) λn1 h1=>Sat.bic (λ_=>?_) λhg=>?_
 ·exact aD (Amx hm.flt) λn2 h2=>aA ⟨{ t with m:={ t.m with Z3:=n1.1.1,Z2:=n2.1.1 } },.inl rfl,hm.sTick h1 h2,⟨hr.leg,hr.sho,hr.rst,hr.oc⟩,⟨rfl,rfl,rfl,rfl,rfl⟩⟩
 ·rw[g4_]at hg;have hxi:=hx hg;refine aD (Q:=λy=>∃t',y=((),(t'.tup b x g,()))∧PM b t'.m∧PR b t'∧FixR t t') ?_ λy hy=>by obtain⟨t',rfl,h⟩:=hy;exact aA ⟨t',.inr rfl,h⟩
  unfold DK;refine Sat.loop (λ(k:Nat) z=>∃(i:Nat) (t':Pk),z=(((),x.cars,(x.cars.length:Int),(i:Int),()),(t'.tup b x g,()))∧i+k=x.cars.length∧PM b t'.m∧PR b t'∧FixR t t') (λk z hz=>?_) x.cars.length ⟨0,{ t with m:={ t.m with Z3:=n1.1.1 } },rfl,o_ _,hm.sTick h1 hm.flt,⟨hr.leg,hr.sho,hr.rst,hr.oc⟩,⟨rfl,rfl,rfl,rfl,rfl⟩⟩ (by have:=hxi.len;omega);obtain⟨i,t',rfl,hk,hm,hr,hf⟩:=hz;show Sat (Pk.ap (FA x.cars (x.cars.length:Int) (i:Int)) b x g t') _;unfold Pk.ap FA;refine Sat.bic (λq=>?_) λ_=>aA ⟨t',rfl,hm,hr,hf⟩;have q:(i:Int)<(x.cars.length:Int):=m_ q;have hl:=hxi.len;have hin:i<b.B0.length:=ω;have w:=CK (n:=i) ω;have i1:inB (i:Int) t'.m.E1.length=A:=Ac ω (by rw[hm.con];omega);have i3:inB (i:Int) t'.m.V2.length=A:=Ac ω (by rw[hm.lod];omega);have hcf:=hxi.flo _ (BN (CarInput.mk 0 B B B B 0 B 0 B 0 0) (ω:i<x.cars.length));have hcw:=hm.conv _ (BN Du (show i<t'.m.E1.length by rw[hm.con];exact hin));refine aC (Ac ω q) (aC i1 (aD (Afk hw.code hcw hcf _ _ _ _) λy1 h1=>?_));obtain⟨⟨ya,yb,yc⟩,yd,ye⟩:=y1;obtain⟨z',e1,hz',_⟩:=h1;change yd=_ at e1;subst e1;refine aC i1 (aC i3 (aD (Ao5 hw.full hw.over _ _) λy2 h2=>aC i3 ?_));refine aA ⟨k-1,ω,i+1,{ t' with m:={ t'.m with E1:=t'.m.E1.set i z',V2:=t'.m.V2.set i (Loaded.mk y2.2.1.1) } },by first | (rw[← w];rfl) | rw[← w],ω,hm.sCon i hz' h2,⟨hr.leg,hr.sho,hr.rst,hr.oc⟩,⟨hf.im,hf.st,hf.bu,hf.e,hf.out⟩⟩
end
end Go.Ovl
