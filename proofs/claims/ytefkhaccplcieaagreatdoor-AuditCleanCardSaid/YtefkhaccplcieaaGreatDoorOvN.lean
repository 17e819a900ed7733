import Derived.Test.YtefkhaccplcieaaGreatDoorOvM
import Derived.Test.YtefkhaccplcieaaGreatDoorOvD
import Derived.Test.YtefkhaccplcieaaGreatDoorOvH
import Derived.Test.YtefkhaccplcieaaGreatDoorOvC
set_option linter.all false
open Bool renaming true->A,false->C,eq_iff_iff->aD
open Go.Ovl renaming An->B,AB->D,Bldg->E,phA->H,ofC->I,Record->L,View->O,Calls->Q,CarOutput->aC
open Option renaming some->J
open Go.Ovl.Sat renaming ret->aA,bic->aB
open List renaming foldl_append->aE
namespace Go.Ovl
open Go Go.Ab
set_option maxRecDepth 100000
variable{l:List aC}{b:E}{m:Img}{c:Int×Int}{vs:List O}{cm:List Bool}{f k:Nat}{r:L}{kind d:Int}{e:Entry}
def kdR(r:L):Prop:=r.Q0≠4∧r.Q0≠5∧r.Q0≠6
def Ase(b:E):∀(l:List Entry) {X:Rnd},(∀r∈X.recs,kdR r)→∀r∈(Ek b l X).recs,kdR r
 |[],_,h=>h
 |e::t,X,h=>by
  refine Ase b t (X:=Cj b e X) ?_;unfold Cj;cases JY b X.img with
  |false=>exact h
  |true=>
   intro r hr;rcases n_.1 (show r∈X.recs++[XK e]from hr)with hr | hr
   ·exact h r hr
   ·rw[E_.1 hr];exact⟨show(1:Int)≠4 by decide,show(1:Int)≠5 by decide,show(1:Int)≠6 by decide⟩
section
variable{b:E}(hb:b.small)(hcode:b.code=0){m:Img}(hm:ImgOK b m){xs:List Int}(hx:xs.length=m.A0.length)(hxv:inX xs){vs:List O}(ps:List Q)(press:Int×Int)(good:Bool)
include hcode hm
theorem Bgs:∀r∈(Bq b m xs vs ps press good).recs,kdR r:=by
 unfold Bq;cases good with
 |false=>exact λr h=>by cases h
 |true=>
  have hv:=RL hcode vs (l:=m.A0) λe he=>(CM.1 (hm.en e he)).1;refine Ase b _ λr hr=>?_;have hr:r∈CX b vs m.A0:=hr
  have:=(hv r hr).2
  exact⟨ω,ω,ω⟩
variable(hvl:vs.length=b.B0.length)
include hb hx hxv hvl
theorem Bgr:∀r∈(EA b m xs vs ps press good).recs,kdR r:=λr hr=>by
 have hp:=QB hb hcode hm hx hxv (vs:=vs) ps press good hvl;have hr:r∈(Bq b m xs vs ps press good).recs++(Ts b m xs vs ps press good).1:=hr;rcases n_.1 hr with h | h
 ·exact Bgs hcode hm ps press good r h
 ·rw[hp]at h
  have:=Qt b vs _ _ r h
  exact⟨ω,ω,ω⟩
theorem Awp:(EA b m xs vs ps press good).img=(Bq b m xs vs ps press good).img.put (OS b vs (Bq b m xs vs ps press good).img.A0 (Bq b m xs vs ps press good).xs):=by have hcc:=Aj hcode;have h:=UJ hb hcode hm hx hxv (vs:=vs) ps press good;have hp:=QB hb hcode hm hx hxv (vs:=vs) ps press good hvl;have e2:(EA b m xs vs ps press good).img=Ai (Bq b m xs vs ps press good).img (Ts b m xs vs ps press good).1:=rfl;rw[e2,hp];exact(To (b:=b) ω (by omega:(vs.length:Int)=(b.B0.length:Int)) _ _ [] (Bq b m xs vs ps press good).img h.ok.len h.ok.img rfl).1
end
def Aa9{b:E}{vs:List O}{floor dir except:Int}:∀(m i:Nat) (best:Int),i+m=vs.length→(best=-1∨(0≤best∧best<vs.length∧(Ar vs best).B3=A))→(UT b vs floor dir except m i best=-1∨(0≤UT b vs floor dir except m i best∧UT b vs floor dir except m i best<vs.length∧(Ar vs (UT b vs floor dir except m i best)).B3=A))
 |0,_,_,_,h=>h
 |m+1,i,best,hi,h=>by
  refine Aa9 m (i+1) _ ω ?_;unfold MP;cases hr:(!(Ar vs i).B3||(i:Int)==except)with
  |true=>exact h
  |false=>
   have hr:(Ar vs i).B3=A:=by simp only[Bool.or_eq_false_iff,g4_]at hr;exact hr.1
   have hi':i<vs.length:=ω;rw[c_];cases(best==-1||Yx (HR b vs floor dir i) (HR b vs floor dir best))with
   |true=>exact .inr ⟨by show(0:Int)≤(i:Int);omega,by show(i:Int)<_;omega,hr⟩
   |false=>exact h
def Aki(b:E)(vs:List O)(floor dir except:Int):DU b vs floor dir except=-1∨(0≤DU b vs floor dir except∧DU b vs floor dir except<vs.length∧(Ar vs (DU b vs floor dir except)).B3=A):=by
 unfold DU;cases(b.code !=0||(vs.length:Int) !=(b.B0.length:Int))with
 |true=>exact .inl rfl
 |false=>exact Aa9 vs.length 0 (-1) ω (.inl rfl)
def Avn(vs:List O)(c:Int):Prop:=c<0∨(c<vs.length∧((Ar vs c).B3=A∨(Ar vs c).V3=C))
def Bd6(b:E)(h:-2≤e.R0∧e.R0<vs.length)(x:Int):Avn vs (Ev b vs e x).R0:=by
 have ch:∀n,Avn vs (DU b vs e.D0 e.I0 n):=λn=>by
  rcases Aki b vs e.D0 e.I0 n with h | ⟨_,h1,h2⟩
  ·exact .inl ω
  ·exact .inr ⟨h1,.inl h2⟩
 unfold Ev;cases h1:e.R0==-2 with
 |true=>exact .inl (by have:=eq_of_beq h1;show e.R0<0;omega)
 |false=>
 cases h2:e.R0==-1 with
 |true=>exact ch _
 |false=>
 have own:(Ar vs e.R0).V3=C→Avn vs e.R0:=λh3=>.inr ⟨h.2,.inr h3⟩;cases h3:(Ar vs e.R0).V3 with
 |true=>
  cases decide ((b.B0.length:Int)<e.Z0)with
  |true=>exact .inl (by show(-2:Int)<0;decide)
  |false=>exact ch _
 |false=>
  cases !e.R1&&decide (e.Z0≤(b.B0.length:Int))with
  |false=>exact own h3
  |true=>
   cases h4:KD b vs e x != -1 with
   |false=>exact own h3
   |true=>
    show Avn vs (KD b vs e x);unfold KD at h4⊢;cases h5:DU b vs e.D0 e.I0 e.R0==-1 with
    |true=>rw[h5]at h4;cases h4
    |false=>
     rw[h5]at h4;rw[c_]at h4⊢;cases h6:ZQ b vs e x (DU b vs e.D0 e.I0 e.R0)with
     |true=>exact ch _
     |false=>rw[h6]at h4;cases h4
section
variable{b:E}(hw:BW b){m:Mch}{x:Inp}{g:Bool}{m':Mch}{o:Outputs}{l1 l2:List L}{u:Mch}{vs:List O}{X:Rnd}(h:TickF b m x g m' o l1 l2 u vs X)
include hw h
theorem TickF.recs_kd:∀r∈X.recs,kdR r:=by rw[h.hX];exact Bgr hw.small hw.code h.pu.jst.img h.pu.exl h.pu.exv _ _ _ h.va.len
theorem TickF.rest:m'.E0.G0=u.E0.G0∧m'.E0.O0=u.E0.O0∧m'.E0.J0=u.E0.J0:=by rw[h.img,← h.rg.img];exact Yv _ (h.recs_kd hw)
theorem TickF.fits:(Ai m.E0 l1).fits b→u.E0.fits b:=λ_=>h.pu.jst.img.fits
theorem TickF.ent(he:e∈m'.E0.A0)(hc:0≤e.R0):∃i:Nat,e.R0=(i:Int)∧i<b.B0.length∧flA m'.E0 i=C∧FR m'.E0 i=A:=by
 obtain⟨h1,h2,_⟩:=h.rest hw;have hcc:=Aj hw.code;rw[h.img,h.hX,Awp hw.small hw.code h.pu.jst.img h.pu.exl h.pu.exv _ _ _ h.va.len]at he;have hrg:=UJ hw.small hw.code h.pu.jst.img h.pu.exl h.pu.exv (vs:=vs) u.Y2 x.press g;generalize Bq b u.E0 u.B2 vs u.Y2 x.press g=Y at he hrg;have he:e∈OS b vs Y.img.A0 Y.xs:=he;obtain⟨j,hj,rfl⟩:=g1_ he;rw[WY b vs _ _ hrg.ok.len]at hj;have hd:(OS b vs Y.img.A0 Y.xs)[j]'(by rw[WY b vs _ _ hrg.ok.len];exact hj)=Ev b vs (Y.img.A0.getD j noE) (Y.xs.getD j 0):=by rw[← Aio b vs _ _ j hrg.ok.len hj,k_,j_];rfl
 rw[hd]at hc⊢;have hin:=(CM.1 (hrg.ok.img.en _ (BU noE hj))).2.1;have hmay:=Bd6 b (vs:=vs) (e:=Y.img.A0.getD j noE) (by rw[h.va.len];omega) (Y.xs.getD j 0);obtain⟨i,hi⟩:=e0_ hc;rw[hi]at hmay;rcases hmay with hmay | ⟨h3,h4⟩
 ·omega
 have hib:i<b.B0.length:=by have:=h.va.len;omega
 have hv:=h.va.vi i hib;have hva:Ar vs (i:Int)=vs.getD i noV:=rfl;rw[hva]at h4;refine⟨i,hi,hib,?_⟩;have ef:flA m'.E0 i=flA u.E0 i:=by unfold flA;rw[h2]
 have es:FR m'.E0 i=FR u.E0 i:=by unfold FR H;rw[h1]
 rw[ef,es];rcases h4 with h4 | h4
 ·rw[hv.ready]at h4;unfold Sh at h4;simp only[e_,S_,a4_]at h4;refine⟨h4.2.2.1,?_⟩;unfold FR;rcases h4.2.1 with h5 | h5<;>rw[h5]<;>simp
 ·rw[hv.lost]at h4;simp only[Bool.or_eq_false_iff,g4_]at h4;exact h4
theorem TickF.edge(hm:PM b m){c:Nat}(hc:c<b.B0.length):H m'.E0 c=H m.E0 c∨ZZ (H m.E0 c) (H m'.E0 c):=by
 obtain⟨h1,_,_⟩:=h.rest hw;have e1:H m'.E0 c=H u.E0 c:=by unfold H;rw[h1]
 have hl1:∀r∈l1,JA b r:=λr hr=>Ba7 (h.fl r hr);have hf1:=Bex hl1 hm.jst.img.fits;have e2:H (Ai m.E0 l1) c=H m.E0 c:=by
  rcases Ac1 hl1 hm.jst.img.fits hc with⟨e,_⟩ | ⟨r,hr,⟨hk,_⟩,_⟩
  ·exact e
  ·obtain⟨i,_,rfl⟩:=h.fl r hr;cases hk
 rw[e1,h.iu,← e2];rcases h.op with⟨_,rfl⟩ | ⟨_,i,cm,fr,_,hi,hcm,rfl⟩
 ·exact .inl rfl
 ·exact Bb2 hf1 hi hcm hc
end
def ReadX(b:E)(s:ByteArray)(x:Inp)(g:Bool):Prop:=((Ee b s=0∧InOK b x)∨(Ee b s≠0∧x=Inp.none))∧g=(Ee b s==0)∧Eo b.C0 b.F0 b.H0 b.M0 b.K0 b.L0 b.N0 b.B0 s=J (((),Ee b s,()),(x.tup,()))
def Bjt(hw:BW b){m:Mch}(hm:PM b m){s:ByteArray}(hs:Fr b s):∃m' o,Kh b.C0 b.F0 b.H0 b.M0 b.K0 b.L0 b.N0 b.B0 m.E0.G0 m.E0.O0 m.E0.J0 m.E0.A0 m.B1.h0 m.B1.h1 m.B1.sel m.J1 m.U0 m.B0 m.C3 m.B2 m.Y2 m.Z3 m.H3 m.R2 s 1048576=J (((),(),0,()),(m'.tup,outP o,()))∧PM b m'∧∃x g l1 l2 u vs X,ReadX b s x g∧TickF b m x g m' o l1 l2 u vs X:=by obtain⟨m',o,h1,h2,h3,x,t',hx,hrd,hr,he,h0,_⟩:=Bla hw hm hs;obtain⟨l1,l2,u,vs,X,hF⟩:=hr.fact hw (λhg=>hx.elim (λh=>h.2.len) λh=>absurd (eq_of_beq hg) h.1) he.symm;obtain⟨e1,e2⟩:=h0 rfl;rw[← e1,← e2]at hF;refine⟨m',o,?_,h2,x,_,l1,l2,u,vs,X,⟨hx,rfl,hrd⟩,hF⟩;unfold Kh;exact Ae (hm.isM_eq hw) (Ae (Btm (hm.fit hw)) (Ae h1 rfl))
def Atm(x c:Int×Int):Cz c (Ay x c)=(0,0):=by
 have h:∀a d:Int,vb (bv d&&&bv (Acv a d))=0:=λa d=>by
  have e:bv d&&&bv (Acv a d)=0#32:=by
   apply BitVec.eq_of_getLsbD_eq;intro i hi
   have:=Bk (a,0) (d,0) (f:=i) hi 1
   have h1:CZ (Acv a d) i=(CZ a i&&!CZ d i):=this;rw[f6_];show(CZ d i&&CZ (Acv a d) i)=_;rw[h1];cases CZ d i<;>cases CZ a i<;>simp
  rw[e];rfl
 exact Prod.ext (h x.1 c.1) (h x.2 c.2)
def Bah(c:Int×Int):Cz c (0,0)=(0,0):=by
 have h:∀d:Int,vb (bv d&&&bv 0)=0:=λd=>by rw[show bv 0=0#32 from rfl,BitVec.and_zero];rfl
 exact Prod.ext (h c.1) (h c.2)
def II(l:List Q)(k:Nat):Int×Int:=((l.getD k noP).Up,(l.getD k noP).X3)
def Lj(l:List Q):Nat→Int×Int
 |0=>(0,0)
 |k+1=>BV (Lj l k) (II l k)
def Ai5{l:List Q}(r:List Q)(h:k<l.length):(l++r).getD k noP=l.getD k noP:=by rw[k_,k_,b9_ h]
def Abu{l:List Q}(r:List Q):∀k,k≤l.length→Lj (l++r) k=Lj l k
 |0,_=>rfl
 |k+1,h=>by show BV (Lj (l++r) k) (II (l++r) k)=BV (Lj l k) (II l k);rw[Abu r k ω];unfold II;rw[Ai5 r ω]
structure Apart(s:Lan):Prop where
 cl:Lj s.lit s.lit.length=s.cl
 ap:∀k,k<s.lit.length→Cz (Lj s.lit k) (II s.lit k)=(0,0)
def Apart.step{ps:List Q}{s:Lan}(h:Apart s)(i:Nat):Apart (KC b vs ps i s):=by
 have hn:II (s.lit++[Calls.mk (MY b vs i s).1 (MY b vs i s).2]) s.lit.length=MY b vs i s:=by unfold II;rw[k_,c6_ (A_ _),Nat.sub_self];rfl
 refine⟨?_,λk hk=>?_⟩
 ·show Lj (s.lit++[_]) (s.lit++[_]).length=BV s.cl (MY b vs i s);rw[i_];show BV (Lj (s.lit++[_]) s.lit.length) (II (s.lit++[_]) s.lit.length)=_;rw[Abu _ _ (A_ _),h.cl,hn]
 ·have hk:k<(s.lit++[Calls.mk (MY b vs i s).1 (MY b vs i s).2]).length:=hk;rw[i_,G_]at hk;show Cz (Lj (s.lit++[_]) k) (II (s.lit++[_]) k)=_;rw[Abu _ _ ω];by_cases e:k<s.lit.length
  ·rw[show II (s.lit++[Calls.mk (MY b vs i s).1 (MY b vs i s).2]) k=II s.lit k by unfold II;rw[Ai5 _ e]];exact h.ap k e
  ·obtain rfl:k=s.lit.length:=ω;rw[hn,h.cl];exact Atm _ _
def Apart.fold{b:E}{vs:List O}{ps:List Q}:∀(n i:Nat) {s:Lan},Apart s→Apart (Bo (KC b vs ps) n i s)
 |0,_,_,h=>h
 |n+1,i,_,h=>Apart.fold n (i+1) (h.step i)
def An6(n k:Nat):II (List.replicate n noP) k=(0,0):=by unfold II;rw[k_,List.getElem?_replicate];split<;>rfl
def Aq3(b:E)(m:Img)(xs:List Int)(vs:List O)(ps:List Q)(press:Int×Int)(good:Bool):∀k,k<vs.length→Cz (Lj (EA b m xs vs ps press good).lan.lit k) (II (EA b m xs vs ps press good).lan.lit k)=(0,0):=λk hk=>by
 have hl:=(Akb b m xs vs ps press good).1;rw[ZL]at hl⊢;cases good with
 |true=>exact(Apart.fold vs.length 0 (s:=Lan.none) ⟨rfl,λk h=>absurd h (e3_ k)⟩).ap k (by rw[← hl]at hk;exact hk)
 |false=>show Cz _ (II (List.replicate vs.length noP) k)=_;rw[An6];exact Bah _
def HD(m:Img)(c:Nat):Prop:=H m c=1∨H m c=2∨H m c=3∨lvA m c=A
def UW{n:Img}{c:Nat}(h1:H n c=H m c)(h2:lvA n c=lvA m c)(h:HD n c):HD m c:=by unfold HD at h⊢;rw[h1,h2]at h;exact h
def Bvd(hr:JA b r)(n:Img){c:Nat}(hc:r.R0≠(c:Int)):H (Am n r) c=H n c∧lvA (Am n r) c=lvA n c:=by
 obtain⟨i,k,v,_,rfl,h⟩:=hr;have hic:i≠c:=λe=>hc (by rw[e]);have hk:k=4∨k=5∨k=6:=ω;rcases hk with rfl | rfl | rfl
 ·exact⟨Cb _ _ hic,rfl⟩
 ·exact⟨rfl,rfl⟩
 ·exact⟨rfl,Cb _ _ hic⟩
def Avj{b:E}{c:Nat}:∀{l:List L}(n:Img),(∀r∈l,JA b r)→(∀r∈l,r.R0≠(c:Int))→H (Ai n l) c=H n c∧lvA (Ai n l) c=lvA n c
 |[],_,_,_=>⟨rfl,rfl⟩
 |r::l,n,h1,h2=>by obtain⟨e1,e2⟩:=Bvd (h1 r (q_ ..)) n (h2 r (q_ ..));obtain⟨e3,e4⟩:=Avj (l:=l) (Am n r) (λr hr=>h1 r (r_ _ hr)) λr hr=>h2 r (r_ _ hr);exact⟨e3.trans e1,e4.trans e2⟩
def Bf7{i c:Nat}{calm fr:Bool}(hi:i<b.B0.length)(h:HD (Ai m (Md m kind i calm fr).1) c):HD m c∨(fr=A∧c=i):=by
 by_cases e:c=i
 ·subst e;have same:∀{l:List L},(l=[]∨∃v,l=[⟨5,0,0,(c:Int),v⟩])→HD (Ai m l) c→HD m c:=λhl h=>by
   rcases hl with rfl | ⟨v,rfl⟩
   ·exact h
   ·exact h
  unfold Md NS at h;cases h0:kind==0 with
  |true=>rw[h0]at h;exact .inl h
  |false=>
  rw[h0]at h;simp only[c_]at h;have ite:∀{q:Bool}{x y:List L×Int},HD (Ai m (bif q then x else y).1) c→(q=A∧HD (Ai m x.1) c)∨HD (Ai m y.1) c:=λ{q x y} h=>by
   cases q with
   |true=>exact .inl ⟨rfl,h⟩
   |false=>exact .inr h
  have ph:∀{q:Bool}{p:Int},(q&&H m c==p)=A→H m c=p:=λh=>by rw[e_,U_]at h;exact h.2
  rcases ite h with⟨_,h⟩ | h
  ·rcases ite h with⟨h,_⟩ | h
   ·exact .inr ⟨h,rfl⟩
   ·exact .inl h
  rcases ite h with⟨q,_⟩ | h
  ·exact .inl (.inl (ph q))
  rcases ite h with⟨q,_⟩ | h
  ·exact .inl (.inr (.inl (ph q)))
  rcases ite h with⟨q,_⟩ | h
  ·simp only[e_]at q;exact .inl (.inr (.inr (.inr q.2.2)))
  rcases ite h with⟨q,_⟩ | h
  ·exact .inl (.inr (.inl (ph q)))
  rcases ite h with⟨q,_⟩ | h
  ·exact .inl (.inr (.inr (.inl (ph q))))
  rcases ite h with⟨q,_⟩ | h
  ·exact .inl (.inr (.inr (.inl (ph q))))
  rcases ite h with⟨_,h⟩ | h
  ·rcases ite h with⟨h,_⟩ | h
   ·exact .inr ⟨h,rfl⟩
   ·exact .inl h
  rcases ite h with⟨_,h⟩ | h
  ·exact .inl h
  ·exact .inl h
 ·left;have ok:=(Zl (b:=b) m kind hi calm fr).1;obtain⟨e1,e2⟩:=Avj (c:=c) m ok λr hr q=>e (by have:=(Aai hr).1;omega);exact UW e1 e2 h
def Az9{n c:Nat}(ok:∀r∈DO m cm n,JA b r)(h:HD (Ai m (DO m cm n)) c):HD m c:=by
 by_cases q:∃r∈DO m cm n,r.R0=(c:Int)
 ·obtain⟨r,hr,hc⟩:=q;obtain⟨i,_,h2,hg,_⟩:=Abw hr;obtain rfl:i=c:=ω;unfold OD HP at hg;simp only[e_,S_,U_]at hg;rcases hg.2.1 with h | h
  ·exact .inl h
  ·exact .inr (.inr (.inr h.2))
 ·obtain⟨e1,e2⟩:=Avj (c:=c) m ok λr hr e=>q ⟨r,hr,e⟩;exact UW e1 e2 h
def Aok{i c:Nat}{fr:Bool}(hi:i<b.B0.length)(h:HD (Ai m (Iw b m kind i cm fr)) c):HD m c∨(fr=A∧c=i):=by have ok:=Acz m kind hi cm fr;unfold Iw at h ok;rw[En]at h;exact Bf7 hi (Az9 (λr hr=>ok r (List.mem_append_right _ hr)) h)
def Bkl(hb:b.code=0)(hp:m.G0.length=b.B0.length)(hl':m.J0.length=b.B0.length)(h:CY m.G0 m.O0 m.J0 m.A0=J ((A,()),())):∀c,c<b.B0.length→¬HD m c:=by
 have hcc:=Aj hb;have hl:Sat (Gy (((),m.G0,(m.G0.length:Int),(0:Int),()),(m.tup,()))) λy=>(y=.inl ((),())∧∀c,c<b.B0.length→¬HD m c)∨y=.inr ((C,()),()):=by
  unfold Gy;refine Sat.loop (λ(k:Nat) z=>∃i:Nat,z=(((),m.G0,(m.G0.length:Int),(i:Int),()),(m.tup,()))∧i+k=m.G0.length∧∀c,c<i→¬HD m c) (λk z hz=>?_) m.G0.length ⟨0,rfl,p_ _,λc h=>absurd h (e3_ c)⟩ ω;obtain⟨i,rfl,hk,hn⟩:=hz;show Sat (Kq m.G0 (m.G0.length:Int) (i:Int) m.G0 m.O0 m.J0 m.A0) _;unfold Kq;refine aB (λq=>?_) λq=>?_
  ·have q:(i:Int)<(m.G0.length:Int):=m_ q;have i1:inB (i:Int) m.G0.length=A:=Ac ω q;have i2:inB (i:Int) m.J0.length=A:=Ac ω ω;have w:=Dn (n:=i) ω;refine Sat.bifT i1 (aB (λ_=>aA (.inr rfl)) λn1=>aB (λ_=>aA (.inr rfl)) λn2=>aB (λ_=>aA (.inr rfl)) λn3=>Sat.bifT i2 (aB (λ_=>aA (.inr rfl)) λn4=>aA ⟨k-1,ω,i+1,(by rw[← w];rfl),ω,λc hc=>?_⟩));by_cases e:c=i
   ·subst e;have n1:(H m c==1)=C:=n1;have n2:(H m c==2)=C:=n2;have n3:(H m c==3)=C:=n3;have n4:lvA m c=C:=n4;simp only[beq_eq_false_iff_ne]at n1 n2 n3;unfold HD;rw[n4];simp[n1,n2,n3]
   ·exact hn c ω
  ·have q:¬(i:Int)<(m.G0.length:Int):=D_ q;exact aA (.inl ⟨rfl,λc hc=>hn c ω⟩)
 obtain⟨y,h1,h2⟩:=hl;unfold CY at h;have h1':Gy (((),m.G0,(m.G0.length:Int),(0:Int),()),((m.G0,m.O0,m.J0,m.A0,()),()))=J y:=h1;rw[h1']at h;rcases h2 with⟨_,h2⟩ | rfl
 ·exact h2
 ·cases h
def One(b:E)(m:Img):Prop:=∀c d,c<b.B0.length→d<b.B0.length→HD m c→HD m d→c=d
section
variable{b:E}(hw:BW b){m:Mch}{x:Inp}{g:Bool}{m':Mch}{o:Outputs}{l1 l2:List L}{u:Mch}{vs:List O}{X:Rnd}(h:TickF b m x g m' o l1 l2 u vs X)
include hw h
theorem TickF.one(hm:PM b m)(h1:One b m.E0):One b m'.E0:=by
 have e1:=(h.rest hw).1;have e2:m'.E0.J0=u.E0.J0:=by rw[h.img,← h.rg.img];exact(Yv (l:=X.recs) u.E0 λr hr=>h.recs_kd hw r hr).2.2
 have b1:∀c,HD m'.E0 c→HD u.E0 c:=λc hc=>UW (by unfold H;rw[e1]) (by unfold lvA;rw[e2]) hc;obtain⟨p1,p2⟩:=Avi (l:=l1) m.E0 h.fl;have b2:∀c,HD (Ai m.E0 l1) c→HD m.E0 c:=λc hc=>UW (by unfold H;rw[p1]) (by unfold lvA;rw[p2]) hc;intro c d hc hd hbc hbd;have hbc:=b1 c hbc;have hbd:=b1 d hbd;rw[h.iu]at hbc hbd;cases hg:g with
 |false=>
  rcases h.op with⟨_,rfl⟩ | ⟨q,_⟩
  ·exact h1 c d hc hd (b2 c hbc) (b2 d hbd)
  ·rw[hg]at q;cases q
 |true=>
  obtain⟨i,cm,fr,hi,rfl,hf,_⟩:=h.free hg;have k1:=Aok hi hbc;have k2:=Aok hi hbd;cases fr with
  |true=>
   have no:=Bkl hw.code (by rw[p1];exact hm.jst.img.lp) (by rw[p2];exact hm.jst.img.ll) hf;rcases k1 with k1 | ⟨_,k1⟩
   ·exact absurd k1 (no c hc)
   ·rcases k2 with k2 | ⟨_,k2⟩
    ·exact absurd k2 (no d hd)
    ·rw[k1,k2]
  |false=>
   rcases k1 with k1 | ⟨k1,_⟩
   ·rcases k2 with k2 | ⟨k2,_⟩
    ·exact h1 c d hc hd (b2 c k1) (b2 d k2)
    ·cases k2
   ·cases k1
end
def VS(l:List aC)(k:Nat):Int×Int:=((l.getD k D).J2,(l.getD k D).Z1)
def JI(l:List aC):Nat→Int×Int
 |0=>(0,0)
 |k+1=>BV (JI l k) (VS l k)
def Amc(hl:l.length≤100000)(h:∀k,k<l.length→Cz (JI l k) (VS l k)=(0,0)):KR l=J (((),C,()),(((JI l l.length).1,(JI l l.length).2,()),())):=by
 have q:Jk (((),(),C,l,(l.length:Int),(0:Int),()),(((0:Int),(0:Int),()),((0:Int),(0:Int),()),()))=J (((),(),C,()),(((0:Int),(0:Int),()),((JI l l.length).1,(JI l l.length).2,()),())):=HC hl (λi=>(((),(),C,l,(l.length:Int),(i:Int),()),(((0:Int),(0:Int),()),((JI l i).1,(JI l i).2,()),()))) (λi hi=>by
  have e1:Ct (JI l i).1 (JI l i).2 (l.getD i D).J2 (l.getD i D).Z1=_:=Gb (JI l i) (VS l i);have e2:Cp (JI l i).1 (JI l i).2 (l.getD i D).J2 (l.getD i D).Z1=_:=Fl (JI l i) (VS l i);rw[h i hi]at e1;show He C l (l.length:Int) (i:Int) 0 0 (JI l i).1 (JI l i).2=_;unfold He;rw[OV hi,Ht hi];simp only[d_,c_,h_];have w:=KL hl hi;exact Ae (Ae e1 rfl) (Ae e2 (by rw[← w];rfl))) (by
  show He C l (l.length:Int) (l.length:Int) 0 0 (JI l l.length).1 (JI l l.length).2=_;unfold He;rw[Lq];rfl)
 unfold KR;rw[q];rfl
def Ahd{p a:Int}{k:Bool}(h:Ak9 p a d k):Oa p a d k=J ((A,()),()):=by
 unfold Oa;rcases h with⟨rfl,rfl,rfl⟩ | ⟨h,rfl⟩
 ·rfl
 ·cases((a==0)&&((d==0)&&A))with
  |true=>rfl
  |false=>exact Ae (Ae (Vj p) rfl) (by rw[h])
def Aa1{p c:Int}(h:TR p c=A):Fd p c=J ((A,()),()):=by
 unfold Fd;unfold TR at h;cases h0:c==0 with
 |true=>rfl
 |false=>
  rw[h0]at h;cases h1:p==3 with
  |true=>rfl
  |false=>rw[h1]at h;have h:(p==4)=A:=h;show J ((p==4,()),())=_;rw[h]
def Az6(hl:l.length≤100000)(h:∀k,k<l.length→Ak9 (l.getD k D).G2 (l.getD k D).G1 (l.getD k D).C1 (l.getD k D).X1):NW l=J ((A,()),()):=by
 have q:Mp ((l,(l.length:Int),(0:Int),()),())=J (.inl ((),())):=HC hl (λi=>((l,(l.length:Int),(i:Int),()),())) (λi hi=>by
  show Jq l (l.length:Int) (i:Int)=_;unfold Jq;rw[OV hi,Ht hi,KL hl hi];simp only[d_,h_];exact Ae (Ahd (h i hi)) rfl) (by
  show Jq l (l.length:Int) (l.length:Int)=_;unfold Jq;rw[Lq];rfl)
 unfold NW;exact Ae q rfl
def Amb(hl:l.length≤100000)(h:∀k,k<l.length→TR (l.getD k D).G2 (l.getD k D).V2=A):KQ l=J ((A,()),()):=by
 have q:Jj ((l,(l.length:Int),(0:Int),()),())=J (.inl ((),())):=HC hl (λi=>((l,(l.length:Int),(i:Int),()),())) (λi hi=>by
  show Hc l (l.length:Int) (i:Int)=_;unfold Hc;rw[OV hi,Ht hi,KL hl hi];simp only[d_,h_];exact Ae (Aa1 (h i hi)) rfl) (by
  show Hc l (l.length:Int) (l.length:Int)=_;unfold Hc;rw[Lq];rfl)
 unfold KQ;exact Ae q rfl
def Avs{a z:Int}(h:ZZ a z):TI a z=J ((A,()),()):=by rcases h with⟨rfl,rfl⟩ | ⟨rfl,rfl⟩ | ⟨rfl,rfl⟩ | ⟨rfl,rfl⟩ | ⟨rfl,rfl⟩ | ⟨rfl,rfl⟩ | ⟨rfl,rfl⟩ | ⟨rfl,rfl⟩<;>decide+kernel
def Az7{p:List aC}(hl:l.length≤100000)(hp:p.length=l.length)(h:∀k,k<l.length→(l.getD k D).G2=(p.getD k D).G2∨ZZ (p.getD k D).G2 (l.getD k D).G2):NX p l=J ((A,()),()):=by
 have q:Mq ((p,l,(l.length:Int),(0:Int),()),())=J (.inl ((),())):=HC hl (λi=>((p,l,(l.length:Int),(i:Int),()),())) (λi hi=>by
  show Jr p l (l.length:Int) (i:Int)=_;unfold Jr;rw[hp,OV hi,Ht hi];simp only[d_,h_];have w:=KL hl hi;refine Ae (a:=((p,l,(l.length:Int),(i:Int),C,()),())) ?_ (by rw[← w];rfl);cases q:(l.getD i D).G2 !=(p.getD i D).G2 with
  |false=>show(bif(l.getD i D).G2 !=(p.getD i D).G2 then _ else _)=_;rw[q];rfl
  |true=>
   rcases h i hi with e | e
   ·rw[e]at q;simp at q
   ·show(bif(l.getD i D).G2 !=(p.getD i D).G2 then _ else _)=_;rw[q,d_];exact Ae (Avs e) rfl) (by
  show Jr p l (l.length:Int) (l.length:Int)=_;unfold Jr;rw[Lq];rfl)
 unfold NX;exact Ae q rfl
def tr3(p:Int):Prop:=p=1∨p=2∨p=3
def Apq(hl:l.length≤100000)(h:∀k j,k<l.length→j<l.length→tr3 (l.getD k D).G2→tr3 (l.getD j D).G2→k=j):Sat (Mf l) λy=>∃n:Int,y=((n,()),())∧n≤1:=by
 have q:Sat (HG (((0:Int),l,(l.length:Int),(0:Int),()),())) λy=>∃n:Int,y=((n,()),())∧n≤1:=by
  unfold HG;refine Sat.loop (λ(k:Nat) z=>∃(i:Nat) (n:Int),z=((n,l,(l.length:Int),(i:Int),()),())∧i+k=l.length∧(n=0∨(n=1∧∃j,j<i∧tr3 (l.getD j D).G2))) (λk z hz=>?_) l.length ⟨0,0,rfl,p_ _,.inl rfl⟩ ω;obtain⟨i,n,rfl,hk,hn⟩:=hz;show Sat (NJ n l (l.length:Int) (i:Int)) _;unfold NJ;refine aB (λq=>?_) λq=>aA ⟨n,rfl,ω⟩;have q:(i:Int)<(l.length:Int):=m_ q;have w:=Dn (n:=i) ω;have no:∃k',k=k'+1∧∃(i':Nat) (n':Int),(((n,l,(l.length:Int),IntKind.i64.wrap ((i:Int)+1),()),()):(Int×List aC×Int×Int×Unit)×Unit)=((n',l,(l.length:Int),(i':Int),()),())∧i'+k'=l.length∧(n'=0∨(n'=1∧∃j,j<i'∧tr3 (l.getD j D).G2)):=by
   refine⟨k-1,ω,i+1,n,by rw[← w],ω,?_⟩;rcases hn with h | ⟨h,j,h1,h2⟩
   ·exact .inl h
   ·exact .inr ⟨h,j,ω,h2⟩
  have yes:tr3 (l.getD i D).G2→∃k',k=k'+1∧∃(i':Nat) (n':Int),(((IntKind.i64.wrap (n+1),l,(l.length:Int),IntKind.i64.wrap ((i:Int)+1),()),()):(Int×List aC×Int×Int×Unit)×Unit)=((n',l,(l.length:Int),(i':Int),()),())∧i'+k'=l.length∧(n'=0∨(n'=1∧∃j,j<i'∧tr3 (l.getD j D).G2)):=λht=>by
   have h0:n=0:=by
    rcases hn with h0 | ⟨_,j,h1,h2⟩
    ·exact h0
    ·exact absurd (h j i ω ω h2 ht) ω
   subst h0;exact⟨k-1,ω,i+1,1,by rw[← w];rfl,ω,.inr ⟨rfl,i,ω,ht⟩⟩
  refine Sat.bifT (Ac ω q) ?_;by_cases p1:(l.getD i D).G2=1
  ·exact Sat.bindE (show(bif(l.getD i D).G2==1 then _ else _)=_ by rw[p1];rfl) (Sat.bifT rfl (aA (yes (.inl p1))))
  by_cases p2:(l.getD i D).G2=2
  ·exact Sat.bindE (show(bif(l.getD i D).G2==1 then _ else bif(l.getD i D).G2==2 then _ else _)=_ by rw[p2];rfl) (Sat.bifT rfl (aA (yes (.inr (.inl p2)))))
  refine Sat.bindE (show(bif(l.getD i D).G2==1 then _ else bif(l.getD i D).G2==2 then _ else _)=_ by rw[Ao p1,Ao p2];rfl) (aB (λq=>aA (yes (.inr (.inr ?_)))) λ_=>aA no);have q:((l.getD i D).G2==3)=A:=q;simpa using q
 obtain⟨y,h1,n,rfl,h2⟩:=q;refine⟨_,?_,n,rfl,h2⟩;unfold Mf;exact Ae h1 rfl
def Bdx{n0 n1 n2:Nat}(h1:n1<256)(h2:n2<256):BW (FN (HO n0) (HE n0) n1 n2):=by
 have hf:(2≤HO n0∧HO n0≤6)∧1≤HE n0∧HE n0≤3:=by unfold HO HE;omega
 obtain⟨g1,g2,g3,_,_,g6⟩:=Apr (n1:=n1) (n2:=n2) hf.1 hf.2 h1 h2;have hl:(arF .sub .f64 (AH 2 1).L0 4589168020290535424).isSome=A∧(arF .sub .f64 (AH 2 1).N0 4589168020290535424).isSome=A:=by decide+kernel
 obtain⟨a,ha⟩:=Option.isSome_iff_exists.1 hl.1;obtain⟨c,hc⟩:=Option.isSome_iff_exists.1 hl.2;exact⟨g1,g2,g6,⟨a,ha,trivial⟩,⟨c,hc,trivial⟩⟩
def Bta{n0 n1 n2:Int}(h0:0≤n0∧n0<256)(h1:0≤n1∧n1<256)(h2:0≤n2∧n2<256):∃b:E,Gr n0 n1 n2=J (((),()),(b.tup,()))∧BW b∧PM b (Ix b).1:=by obtain⟨k0,rfl⟩:=e0_ h0.1;obtain⟨k1,rfl⟩:=e0_ h1.1;obtain⟨k2,rfl⟩:=e0_ h2.1;have hw:=Bdx (n0:=k0) (n1:=k1) (n2:=k2) ω ω;exact⟨_,Aav (n0:=k0) (n1:=k1) (n2:=k2) ω ω ω,hw,(XR hw).1⟩
def Bwd{n0 n1 n2:Int}(h0:0≤n0∧n0<256)(h1:0≤n1∧n1<256)(h2:0≤n2∧n2<256):∃b:E,Gr n0 n1 n2=J (((),()),(b.tup,()))∧BW b∧(∃y,LV b.C0 b.F0 b.H0 b.M0 b.K0 b.L0 b.N0 b.B0=J (y,((Ix b).1.tup,())))∧PM b (Ix b).1:=by obtain⟨b,e,hw,hm⟩:=Bta h0 h1 h2;exact⟨b,e,hw,⟨_,Aox hw.small hw.code⟩,hm⟩
section
variable{b:E}(hb:b.small)
include hb
end
def Hv(c:Int×Int)(r:L):Int×Int:=bif r.Q0==2 then Ay (bif r.Q0==1 then BV c (FP r.D0 r.I0)else c) (FP r.D0 r.I0)else(bif r.Q0==1 then BV c (FP r.D0 r.I0)else c)
def Bcw(h:EW c)(r:L):EW (Hv c r):=by
 unfold Hv;cases r.Q0==2 with
 |true=>exact Hi _ _
 |false=>
  cases r.Q0==1 with
  |true=>exact Pi _ _
  |false=>exact h
def Adn(c:Int×Int)(m:Img):Prop:=∀f:Nat,f<32→∀d:Int,(d=1∨d=2)→(B c f d=A↔((f:Int),d)∈m.A0.map BS)
def Ahm(p:Int×Int):¬ltC p p:=λh=>by unfold ltC at h;omega
def Bj8{l:List (Int×Int)}(hs:l.Pairwise ltC)(hk:k<l.length)(p:Int×Int):p∈l.take k++l.drop (k+1)↔p∈l∧p≠l[k]:=by
 have e:l=l.take k++l[k]::l.drop (k+1):=by rw[← h5_ hk,List.take_append_drop]
 have hs':=hs;rw[e]at hs';obtain⟨_,h2,h3⟩:=f9_.1 hs';obtain⟨h4,_⟩:=e8_.1 h2;constructor
 ·intro h;rcases n_.1 h with h | h
  ·exact⟨d8_ h,λq=>Ahm _ (q▸h3 p h l[k] (q_ ..))⟩
  ·exact⟨d9_ h,λq=>Ahm _ (q▸h4 p h)⟩
 ·rintro⟨h,hne⟩;rw[e]at h;rcases n_.1 h with h | h
  ·exact n_.2 (.inl h)
  ·rcases s_.1 h with h | h
   ·exact absurd h hne
   ·exact n_.2 (.inr h)
def As3(hb:b.small)(ha:Adn c m)(hm:ImgOK b m)(hv:Au b r=A):Adn (Hv c r) (Am m r):=by
 intro f hf d hd;have h0:=ha f hf d hd;have hk:=(VZ hv).2;have hcall:(r.Q0=1∨r.Q0=2)→(0≤r.D0∧r.D0<32)∧(r.I0=1∨r.I0=2):=λh=>by
  have lo:=hb.lo;have hi:=hb.hi;have hc:Ap b r.D0 r.I0=A:=by
   rcases hk with q | q | q | q | q | q | q
   ·exact q.2.1
   ·exact q.2.1
   all_goals omega
  unfold Ap OA at hc;simp only[e_,S_,U_,As]at hc;omega
 have hone:(r.Q0=1∨r.Q0=2)→(B (FP r.D0 r.I0) f d=A↔((f:Int),d)=(r.D0,r.I0)):=λh=>by obtain⟨h1,h2⟩:=hcall h;rw[MQ h1 h2 f hd,t_]
 have same:∀l:List Entry,l.map BS=m.A0.map BS→¬r.Q0=1→¬r.Q0=2→(B (Hv c r) f d=A↔((f:Int),d)∈l.map BS):=λl hl h1 h2=>by unfold Hv;rw[Ao h1,Ao h2,hl];exact h0
 unfold Am;by_cases k4:r.Q0=4
 ·rw[show(r.Q0==4)=A by rw[k4];rfl];exact same _ rfl ω ω
 rw[Ao k4,c_];by_cases k5:r.Q0=5
 ·rw[show(r.Q0==5)=A by rw[k5];rfl];exact same _ rfl ω ω
 rw[Ao k5,c_];by_cases k6:r.Q0=6
 ·rw[show(r.Q0==6)=A by rw[k6];rfl];exact same _ rfl ω ω
 rw[Ao k6,c_];rcases Td r.D0 r.I0 m.A0 0 with⟨h1,h2⟩ | ⟨k,h1,h2,h3⟩
 ·rw[h1,show((-1:Int)==-1)=A from rfl,d_];by_cases k1:r.Q0=1
  ·rw[show(r.Q0==1)=A by rw[k1];rfl,d_];have hins:=Xx (c:=⟨r.D0,r.I0,-1,0,C⟩) h2;show _↔((f:Int),d)∈(HF ⟨r.D0,r.I0,-1,0,C⟩ C m.A0).map BS;rw[hins];unfold Hv;rw[k1];simp only[show((1:Int)==2)=C from rfl,l_,d_,c_];rw[GS,S_,h0,hone (.inl k1)];generalize AA ⟨r.D0,r.I0,-1,0,C⟩ m.A0=p
   conv=>lhs;rw[← List.take_append_drop p m.A0]
   simp only[List.map_append,n_,b8_,List.map_nil,E_,BS];constructor
   ·rintro((h | h) | h)
    ·exact .inl (.inl h)
    ·exact .inr h
    ·exact .inl (.inr h)
   ·rintro((h | h) | h)
    ·exact .inl (.inl h)
    ·exact .inr h
    ·exact .inl (.inr h)
  ·rw[Ao k1,c_];by_cases k2:r.Q0=2
   ·unfold Hv;rw[k2];simp only[show((2:Int)==1)=C from rfl,l_,d_,c_];rw[Bk _ _ hf,e_,h0,a4_,← Bool.not_eq_true,hone (.inr k2)];refine⟨λh=>h.1,λh=>⟨h,λq=>?_⟩⟩;obtain⟨e,he,hq⟩:=b6_.1 h
    have:=h2 e he
    rw[Ar1.2 (hq.trans q)]at this;cases this
   ·exact same _ rfl k1 k2
 ·rw[p_]at h2;rw[h2,Ao (ω:¬(k:Int)=-1),c_,h_];have hkc:BS (m.A0.getD k noE)=(r.D0,r.I0):=Ar1.1 h3;have hget:m.A0.getD k noE=m.A0[k]:=by simp[h1]
  by_cases k2:r.Q0=2
  ·rw[show(r.Q0==2)=A by rw[k2];rfl,d_];show _↔((f:Int),d)∈(m.A0.take k++m.A0.drop (k+1)).map BS;have hd1:=Bj8 (l:=m.A0.map BS) hm.so (k:=k) (by rw[c9_];exact h1) ((f:Int),d);rw[List.map_append,List.map_take,List.map_drop,hd1,List.getElem_map,← hget,hkc];unfold Hv;rw[k2];simp only[show((2:Int)==1)=C from rfl,l_,d_,c_];rw[Bk _ _ hf,e_,h0,a4_,← Bool.not_eq_true,hone (.inr k2)]
  ·rw[Ao k2,c_];by_cases k1:r.Q0=1
   ·rw[k1];simp only[show((1:Int)==3)=C from rfl,show((1:Int)==7)=C from rfl,c_];unfold Hv;rw[k1];simp only[show((1:Int)==2)=C from rfl,l_,d_,c_];rw[GS,S_,h0,hone (.inl k1)];refine⟨λh=>?_,λh=>.inl h⟩;rcases h with h | h
    ·exact h
    ·rw[h,← hkc];exact b6_.2 ⟨_,BU noE h1,rfl⟩
   ·by_cases k3:r.Q0=3
    ·rw[show(r.Q0==3)=A by rw[k3];rfl,d_];exact same _ (Ut h1 rfl) k1 k2
    ·rw[Ao k3,c_];by_cases k7:r.Q0=7
     ·rw[show(r.Q0==7)=A by rw[k7];rfl,d_];exact same _ (Ut h1 rfl) k1 k2
     ·rw[Ao k7,c_];exact same _ rfl k1 k2
def Yt{b:E}(hb:b.small):∀(rs:List L) {c:Int×Int}{m:Img},Adn c m→EW c→ImgOK b m→(∀r∈rs,Au b r=A)→Adn (rs.foldl Hv c) (Ai m rs)∧EW (rs.foldl Hv c)∧ImgOK b (Ai m rs)
 |[],_,_,h,hu,hm,_=>⟨h,hu,hm⟩
 |r::t,_c,_m,h,hu,hm,hv=>Yt hb t (As3 hb h hm (hv r (q_ ..))) (Bcw hu r) (KM hm (hv r (q_ ..))).1 λx hx=>hv x (r_ _ hx)
def MT(was:Int×Int)(X:Rnd):Int×Int:=X.recs.foldl Hv was
def Ai2:∀{l:List L}(c:Int×Int),(∀r∈l,r.Q0=3∨r.Q0=7)→l.foldl Hv c=c
 |[],_,_=>rfl
 |r::t,c,h=>by
  have hr:=h r (q_ ..)
  have:Hv c r=c:=by unfold Hv;rw[Ao (ω:¬r.Q0=2),Ao (ω:¬r.Q0=1)];rfl
  rw[g7_,this];exact Ai2 c λx hx=>h x (r_ _ hx)
def Ae8(b:E)(vs:List O)(ps:List Q){f:Nat}(hf:f<32)(d:Int):∀(k i:Nat) (s:Lan),i+k=vs.length→B (Bo (KC b vs ps) k i s).cl f d=(B s.cl f d||(vs.drop i).any λv=>B (Di b v) f d)
 |0,i,s,hi=>by rw[show i=vs.length by omega,a7_];simp[Bo]
 |k+1,i,s,hi=>by show B (Bo (KC b vs ps) k (i+1) (KC b vs ps i s)).cl f d=_;rw[Ae8 b vs ps hf d k (i+1) _ ω,BT noV (ω:i<vs.length),List.any_cons];show(B (BV s.cl (MY b vs i s)) f d||_)=_;unfold MY;rw[GS,Bk _ _ hf];cases B s.cl f d<;>cases B (Di b (vs.getD i noV)) f d<;>rfl
def Aji(b:E)(vs:List O)(ps:List Q)(hf:f<32)(d:Int):B (CT b vs ps).cl f d=JF b vs (f:Int) d:=by unfold CT JF;rw[Ae8 b vs ps hf d vs.length 0 Lan.none ω,P_,h_];show(B (0,0) f d||_)=_;rw[EP,Bool.false_or]
def Aj2(b:E)(vs:List O){f:Nat}(hf:f<32){d:Int}(hd:d=1∨d=2):∀{l:List Entry}{c:Int×Int},(∀e∈l,RB e)→(B ((CX b vs l).foldl Hv c) f d=A↔B c f d=A∧¬(((f:Int),d)∈l.map BS∧JF b vs (f:Int) d=A))
 |[],c,_=>by simp[CX]
 |e::t,c,h=>by
  have he:=h e (q_ ..);have ht:=λx hx=>h x (r_ _ hx);have e0:CX b vs (e::t)=(bif JF b vs e.D0 e.I0 then [Record.mk 2 e.D0 e.I0 0 0]else [])++CX b vs t:=rfl;rw[e0,aE,Aj2 b vs hf hd ht,b8_,s_];cases hs:JF b vs e.D0 e.I0 with
  |false=>
   show B c f d=A∧_↔_;constructor
   ·rintro⟨h1,h2⟩;refine⟨h1,λhh=>h2 ⟨?_,hh.2⟩⟩;rcases hh.1 with hh1 | hh1
    ·obtain⟨q1,q2⟩:=Prod.mk.inj (show((f:Int),d)=(e.D0,e.I0)from hh1);rw[q1,q2,hs]at hh;cases hh.2
    ·exact hh1
   ·rintro⟨h1,h2⟩;exact⟨h1,λhh=>h2 ⟨.inr hh.1,hh.2⟩⟩
  |true=>
   have hw:List.foldl Hv c [Record.mk 2 e.D0 e.I0 0 0]=Ay c (FP e.D0 e.I0):=rfl;rw[d_,hw,Bk _ _ hf,MQ he.1 he.2 f hd,e_,a4_,decide_eq_false_iff_not];constructor
   ·rintro⟨⟨h1,h2⟩,h3⟩;refine⟨h1,λhh=>h3 ⟨?_,hh.2⟩⟩;rcases hh.1 with hh1 | hh1
    ·exact absurd hh1 h2
    ·exact hh1
   ·rintro⟨h1,h2⟩;refine⟨⟨h1,λhq=>h2 ⟨.inl hq,?_⟩⟩,λhh=>h2 ⟨.inr hh.1,hh.2⟩⟩;obtain⟨q1,q2⟩:=Prod.mk.inj hq;rw[q1,q2];exact hs
def Bbw{b:E}:∀{l:List Entry}{X:Rnd},JY b X.img=C→(Ek b l X).img=X.img
 |[],_,_=>rfl
 |e::t,X,h=>by
  have e1:(Cj b e X).img=X.img:=by unfold Cj;rw[h];rfl
  show(Ek b t (Cj b e X)).img=X.img;rw[Bbw (by rw[e1];exact h),e1]
structure RegBits(b:Bldg)(was:Int×Int)(l:List Entry)(X:Rnd):Prop where
 bits:∀f:Nat,f<32→∀d:Int,(d=1∨d=2)→(An (MT was (Ek b l X)) f d=true↔An (MT was X) f d=true∨(((f:Int),d)∈l.map BS∧An (Ek b l X).ref f d=false))
 up:∀f:Nat,f<32→∀d:Int,(d=1∨d=2)→An X.ref f d=true→An (Ek b l X).ref f d=true
 down:∀f:Nat,f<32→∀d:Int,(d=1∨d=2)→An (Ek b l X).ref f d=true→An X.ref f d=true∨((f:Int),d)∈l.map BS
 u32:EW X.ref→EW (Ek b l X).ref
 room:(Ek b l X).ref=X.ref∨JY b (Ek b l X).img=false
def Ac9{b:E}{was:Int×Int}:∀{l:List Entry}{X:Rnd},(∀e∈l,RB e)→(l.map BS).Pairwise ltC→(∀e∈l,B X.ref e.D0.toNat e.I0=C)→RegBits b was l X
 |[],X,_,_,_=>⟨λf _ d _=>by simp[Ek],λ_ _ _ _ h=>h,λ_ _ _ _ h=>.inl h,λh=>h,.inl rfl⟩
 |e::t,X,hc,hp,hr=>by
  have he:=hc e (q_ ..);have hct:=λx hx=>hc x (r_ _ hx);rw[b8_]at hp;obtain⟨hp1,hp2⟩:=e8_.1 hp;have hne:(e.D0,e.I0)∉t.map BS:=λh=>Ahm _ (hp1 _ h);have h0:=hr e (q_ ..);have hrt:=λx hx=>hr x (r_ _ hx);have hR:Ek b (e::t) X=Ek b t (Cj b e X):=rfl;cases hroom:JY b X.img with
  |true=>
   have e1:Cj b e X=RM (XK e) X:=by unfold Cj;rw[hroom];rfl
   have e2:(Cj b e X).ref=X.ref:=by rw[e1];rfl
   have e3:MT was (Cj b e X)=BV (MT was X) (FP e.D0 e.I0):=by rw[e1];unfold MT RM;simp only;rw[aE];rfl
   have ih:=Ac9 (b:=b) (was:=was) (X:=Cj b e X) hct hp2 (by rw[e2];exact hrt);have iu:=ih.up;have idn:=ih.down;have iu32:=ih.u32;have irm:=ih.room;rw[e2]at iu idn iu32 irm;rw[← hR]at iu idn iu32 irm;refine⟨λf hf d hd=>?_,iu,λf hf d hd h=>(idn f hf d hd h).imp id (r_ _),iu32,irm⟩;have hb:=ih.bits f hf d hd;rw[← hR,e3,GS,MQ he.1 he.2 f hd,S_,t_]at hb;rw[hb,b8_,s_];constructor
   ·rintro((h | h) | ⟨h1,h2⟩)
    ·exact .inl h
    ·refine .inr ⟨.inl h,?_⟩;cases hq:B (Ek b (e::t) X).ref f d with
     |false=>rfl
     |true=>
      obtain⟨q1,q2⟩:=Prod.mk.inj h;rcases idn f hf d hd hq with hh | hh
      ·rw[show f=e.D0.toNat by omega,q2,h0]at hh;cases hh
      ·rw[h]at hh;exact absurd hh hne
    ·exact .inr ⟨.inr h1,h2⟩
   ·rintro(h | ⟨h1 | h1,h2⟩)
    ·exact .inl (.inl h)
    ·exact .inl (.inr h1)
    ·exact .inr ⟨h1,h2⟩
  |false=>
   have e1:Cj b e X=⟨X.recs,X.img,X.xs,X.lan,BV X.ref (FP e.D0 e.I0)⟩:=by unfold Cj;rw[hroom];rfl
   have e2:(Cj b e X).ref=BV X.ref (FP e.D0 e.I0):=by rw[e1]
   have e3:MT was (Cj b e X)=MT was X:=by rw[e1];rfl
   have hx:∀f:Nat,f<32→∀d:Int,(d=1∨d=2)→(B (Cj b e X).ref f d=A↔B X.ref f d=A∨((f:Int),d)=(e.D0,e.I0)):=λf hf d hd=>by rw[e2,GS,MQ he.1 he.2 f hd,S_,t_]
   have ih:=Ac9 (b:=b) (was:=was) (X:=Cj b e X) hct hp2 (λx hxt=>by
    have hce:=hct x hxt;cases hq:B (Cj b e X).ref x.D0.toNat x.I0 with
    |false=>rfl
    |true=>
     rcases(hx x.D0.toNat (by have:=hce.1;omega) x.I0 hce.2).1 hq with hh | hh
     ·rw[hrt x hxt]at hh;cases hh
     ·exfalso;refine hne (b6_.2 ⟨x,hxt,?_⟩);rw[← hh];show(x.D0,x.I0)=_;rw[f3_ hce.1.1])
   refine⟨λf hf d hd=>?_,λf hf d hd h=>?_,λf hf d hd h=>?_,λ_=>?_,.inr ?_⟩
   ·have hb:=ih.bits f hf d hd;rw[← hR,e3]at hb;rw[hb,b8_,s_];constructor
    ·rintro(h | ⟨h1,h2⟩)
     ·exact .inl h
     ·exact .inr ⟨.inr h1,h2⟩
    ·rintro(h | ⟨h1 | h1,h2⟩)
     ·exact .inl h
     ·exfalso
      have:=ih.up f hf d hd ((hx f hf d hd).2 (.inr h1))
      rw[← hR,h2]at this;cases this
     ·exact .inr ⟨h1,h2⟩
   ·rw[hR];exact ih.up f hf d hd ((hx f hf d hd).2 (.inl h))
   ·rw[hR]at h;rw[b8_,s_];rcases ih.down f hf d hd h with hh | hh
    ·rcases(hx f hf d hd).1 hh with h3 | h3
     ·exact .inl h3
     ·exact .inr (.inl h3)
    ·exact .inr (.inr hh)
   ·rw[hR];exact ih.u32 (by rw[e2];exact Pi _ _)
   ·have e4:(Cj b e X).img=X.img:=by rw[e1]
    rw[hR,Bbw (by rw[e4];exact hroom),e4];exact hroom
def Aoa(hf:f<32)(hd:d=1∨d=2):((f:Int),d)∈(Ft c).map BS↔B c f d=A:=by
 unfold Ft;rw[mem_range];constructor
 ·rintro⟨g,_,h1,_,h3⟩;have hg:g=f:=by have:(f:Int)=(g:Int):=h1;omega
  rw[hg]at h3;exact h3
 ·intro h;exact⟨f,⟨ω,ω⟩,rfl,hd,h⟩
def Vf(hb:b.small)(hm:ImgOK b m):Adn (I m.A0 (0,0)) m:=λf _ d hd=>by have hc:∀e∈m.A0,RB e:=λe he=>TZ hb (CM.1 (hm.en e he)).1;rw[Ahu hc f hd,EP];simp
section
variable{b:E}(hb:b.small)(hcode:b.code=0){m:Img}(hm:ImgOK b m){xs:List Int}(hx:xs.length=m.A0.length)(hxv:inX xs){vs:List O}(hvl:vs.length=b.B0.length)(ps:List Q)(press:Int×Int)
include hb hcode hm hx hxv hvl
theorem Arg(good:Bool):I (EA b m xs vs ps press good).img.A0 (0,0)=MT (I m.A0 (0,0)) (Bq b m xs vs ps press good):=by
 have hfr:=(Adj hb hcode hm hx hxv (vs:=vs) ps press good hvl).1;have hp:=QB hb hcode hm hx hxv (vs:=vs) ps press good hvl;obtain⟨a1,a2,a3⟩:=Yt hb (EA b m xs vs ps press good).recs (Vf hb hm) (Aah _ GO) hm hfr.good.valid;rw[hfr.img]at a1 a3;have hc:∀e∈(EA b m xs vs ps press good).img.A0,RB e:=λe he=>TZ hb (CM.1 (a3.en e he)).1;have e1:(EA b m xs vs ps press good).recs.foldl Hv (I m.A0 (0,0))=MT (I m.A0 (0,0)) (Bq b m xs vs ps press good):=by show((Bq b m xs vs ps press good).recs++(Ts b m xs vs ps press good).1).foldl Hv _=_;rw[aE,hp,Ai2 _ (Qt b vs _ _)];rfl
 rw[← e1];refine MU (Aah _ GO) a2 λf hf d hd=>?_;rw[aD,Ahu hc f hd,a1 f hf d hd,EP];simp
theorem Att:I (EA b m xs vs ps press A).img.A0 (0,0)=BV (Ay (I m.A0 (0,0)) (CT b vs ps).cl) (Ay (LM b m press) (EA b m xs vs ps press A).ref)∧isZ (Ay (EA b m xs vs ps press A).ref (LM b m press))=A∧((EA b m xs vs ps press A).ref=(0,0)∨JY b (Bq b m xs vs ps press A).img=C)∧(EA b m xs vs ps press A).lan=CT b vs ps∧EW (EA b m xs vs ps press A).ref:=by
 have hc:∀e∈m.A0,RB e:=λe he=>TZ hb (CM.1 (hm.en e he)).1;have hX:Bq b m xs vs ps press A=Ek b (Ft (LM b m press)) (wrL (CX b vs m.A0) ⟨[],m,xs,CT b vs ps,(0,0)⟩):=rfl;have hT:(EA b m xs vs ps press A).ref=(Bq b m xs vs ps press A).ref:=rfl;have rb:=Ac9 (b:=b) (was:=I m.A0 (0,0)) (l:=Ft (LM b m press)) (X:=wrL (CX b vs m.A0) ⟨[],m,xs,CT b vs ps,(0,0)⟩) (λe he=>by obtain⟨h1,h2,_⟩:=Ajl he;exact⟨h1,h2⟩) (ZD _ 32 0) (λe _=>EP _ _);have e0:∀f:Nat,f<32→∀d:Int,(d=1∨d=2)→(B (Bq b m xs vs ps press A).ref f d=A→B (LM b m press) f d=A):=λf hf d hd hh=>by
  have hdn:=rb.down f hf d hd;rw[← hX]at hdn;rcases hdn hh with hq | hq
  ·rw[show B (wrL (CX b vs m.A0) ⟨[],m,xs,CT b vs ps,(0,0)⟩).ref f d=C from EP f d]at hq;cases hq
  ·exact(Aoa hf hd).1 hq
 refine⟨?_,?_,?_,?_,?_⟩
 ·rw[Arg hb hcode hm hx hxv hvl ps press A,hT];refine MU (Yt hb _ (Vf hb hm) (Aah _ GO) hm (UJ hb hcode hm hx hxv (vs:=vs) ps press A).good.valid).2.1 (Pi _ _) λf hf d hd=>?_;have hbb:=rb.bits f hf d hd;have hs:=Aj2 b vs hf hd (l:=m.A0) (c:=I m.A0 (0,0)) hc;have hag:=Vf hb hm f hf d hd;have e2:MT (I m.A0 (0,0)) (wrL (CX b vs m.A0) ⟨[],m,xs,CT b vs ps,(0,0)⟩)=(CX b vs m.A0).foldl Hv (I m.A0 (0,0)):=rfl;rw[e2,← hX]at hbb;rw[aD,hbb,hs,GS,Bk _ _ hf,Bk _ _ hf,Aji b vs ps hf d,Aoa hf hd,S_,e_,e_,a4_,a4_];constructor
  ·rintro(⟨h1,h2⟩ | h1)
   ·refine .inl ⟨h1,?_⟩;cases hq:JF b vs (f:Int) d with
    |false=>rfl
    |true=>exact absurd ⟨hag.1 h1,hq⟩ h2
   ·exact .inr h1
  ·rintro(⟨h1,h2⟩ | h1)
   ·refine .inl ⟨h1,λhh=>?_⟩;rw[h2]at hh;cases hh.2
   ·exact .inr h1
 ·rw[hT];refine(KB (Hi _ _)).2 λf hf d hd=>?_;rw[Bk _ _ hf];cases hq:B (Bq b m xs vs ps press A).ref f d with
  |false=>rfl
  |true=>rw[e0 f hf d hd hq];rfl
 ·rw[hT];have hrm:=rb.room;rw[← hX]at hrm;exact hrm
 ·show(Bq b m xs vs ps press A).lan=_;rw[hX,Ac8];rfl
 ·rw[hT,hX];exact rb.u32 GO
end
structure LampF(P N press cl ref served:Int×Int):Prop where
 n:∀f:Nat,f<32→∀d:Int,(d=1∨d=2)→An N f d=((An P f d&&!An cl f d)||(An press f d&&(!An P f d&&!An ref f d)))
 r:∀f:Nat,f<32→∀d:Int,(d=1∨d=2)→An ref f d=true→An press f d=true∧An P f d=false
 s:∀f:Nat,f<32→∀d:Int,(d=1∨d=2)→An served f d=(An P f d&&An cl f d)
 ur:EW ref
 us:EW served
def Vz:∀(l:List L) {k:List L}{c:Int×Int},Gj (l++k) c=Gj k (Gj l c)
 |[],_,_=>rfl
 |r::l,k,c=>Vz l
def Add:∀{l:List L}{c:Int×Int},(∀r∈l,r.Q0≠2)→Gj l c=c
 |[],_,_=>rfl
 |r::l,c,h=>by show Gj l (bif r.Q0==2 then _ else c)=c;rw[Ao (h r (q_ ..)),c_];exact Add λx hx=>h x (r_ _ hx)
def Aj1:∀(l:List L) {c:Int×Int},EW c→EW (Gj l c)
 |[],_,h=>h
 |r::l,c,h=>by
  refine Aj1 l ?_;cases r.Q0==2 with
  |true=>exact Pi _ _
  |false=>exact h
def Afv(b:E)(vs:List O){f:Nat}{d:Int}(hd:d=1∨d=2):∀{l:List Entry}{c:Int×Int},(∀e∈l,RB e)→(B (Gj (CX b vs l) c) f d=A↔B c f d=A∨(((f:Int),d)∈l.map BS∧JF b vs (f:Int) d=A))
 |[],c,_=>by simp[CX,Gj]
 |e::t,c,h=>by
  have he:=h e (q_ ..);have ht:=λx hx=>h x (r_ _ hx);have e0:CX b vs (e::t)=(bif JF b vs e.D0 e.I0 then [Record.mk 2 e.D0 e.I0 0 0]else [])++CX b vs t:=rfl;rw[e0,Vz,Afv b vs hd ht,b8_,s_];cases hs:JF b vs e.D0 e.I0 with
  |false=>
   show B c f d=A∨_↔_;constructor
   ·rintro(h1 | ⟨h1,h2⟩)
    ·exact .inl h1
    ·exact .inr ⟨.inr h1,h2⟩
   ·rintro(h1 | ⟨h1 | h1,h2⟩)
    ·exact .inl h1
    ·obtain⟨q1,q2⟩:=Prod.mk.inj (show((f:Int),d)=(e.D0,e.I0)from h1);rw[q1,q2,hs]at h2;cases h2
    ·exact .inr ⟨h1,h2⟩
  |true=>
   have hw:Gj [Record.mk 2 e.D0 e.I0 0 0] c=BV c (FP e.D0 e.I0):=rfl;rw[d_,hw,GS,MQ he.1 he.2 f hd,S_,t_];constructor
   ·rintro((h1 | h1) | ⟨h1,h2⟩)
    ·exact .inl h1
    ·refine .inr ⟨.inl h1,?_⟩;obtain⟨q1,q2⟩:=Prod.mk.inj h1;rw[q1,q2];exact hs
    ·exact .inr ⟨.inr h1,h2⟩
   ·rintro(h1 | ⟨h1 | h1,h2⟩)
    ·exact .inl (.inl h1)
    ·exact .inl (.inr h1)
    ·exact .inr ⟨h1,h2⟩
def Afm(b:E):∀(l:List Entry) (X:Rnd),∃R,(Ek b l X).recs=X.recs++R∧∀r∈R,r.Q0=1
 |[],X=>⟨[],(a2_ _).symm,λr h=>by cases h⟩
 |e::t,X=>by
  obtain⟨R,h1,h2⟩:=Afm b t (Cj b e X);have hR:Ek b (e::t) X=Ek b t (Cj b e X):=rfl;cases hr:JY b X.img with
  |false=>
   have e1:(Cj b e X).recs=X.recs:=by unfold Cj;rw[hr];rfl
   exact⟨R,by rw[hR,h1,e1],h2⟩
  |true=>
   have e1:(Cj b e X).recs=X.recs++[XK e]:=by unfold Cj;rw[hr];rfl
   refine⟨XK e::R,by rw[hR,h1,e1,O_];rfl,λr h=>?_⟩;rcases s_.1 h with rfl | h
   ·rfl
   ·exact h2 r h
def Al7(n:Nat):∀k,Lj (List.replicate n noP) k=(0,0)
 |0=>rfl
 |k+1=>by show BV (Lj _ k) (II _ k)=_;rw[Al7 n k,An6];rfl
def Ajm{a:Int×Int}(h:isZ (Ay a c)=A)(hf:f<32)(hd:d=1∨d=2)(ha:B a f d=A):B c f d=A:=by
 have:=(KB (Hi _ _)).1 h f hf d hd
 rw[Bk _ _ hf,ha]at this;simpa using this
section
variable{b:E}(hw:BW b){m:Mch}{x:Inp}{g:Bool}{m':Mch}{o:Outputs}{l1 l2:List L}{u:Mch}{vs:List O}{X:Rnd}(h:TickF b m x g m' o l1 l2 u vs X)
include hw h
theorem TickF.ents:u.E0.A0=m.E0.A0:=by
 have k1:K3 l1:=λr hr=>by obtain⟨i,_,rfl⟩:=h.fl r hr;exact .inr (.inl rfl)
 have k2:K3 l2:=by
  rcases h.op with⟨_,rfl⟩ | ⟨_,i,cm,fr,_,hi,_,rfl⟩
  ·exact λr h=>by cases h
  ·intro r hr;obtain⟨j,k,v,_,rfl,h⟩:=Acz _ _ hi _ _ r hr;show k=4∨k=5∨k=6;omega
 rw[h.iu,NR _ k2,NR _ k1]
theorem TickF.lamps(hx1:g=A→GN b x.press=A)(hx0:g=C→x.press=(0,0)):LampF (I m.E0.A0 (0,0)) (I m'.E0.A0 (0,0)) x.press (Lj X.lan.lit b.B0.length) X.ref (Gj X.recs (0,0))∧(g=C→I m'.E0.A0 (0,0)=I m.E0.A0 (0,0)∧X.ref=(0,0)):=by
 have he:=h.ents hw;have him:=h.pu.jst.img;have hT:=Arg hw.small hw.code him h.pu.exl h.pu.exv h.va.len u.Y2 x.press g;have hcall:∀e∈u.E0.A0,RB e:=λe he=>TZ hw.small (CM.1 (him.en e he)).1;have hag:=Vf hw.small him;have hl:=ZL b u.E0 u.B2 vs u.Y2 x.press g;have hpl:=QB hw.small hw.code him h.pu.exl h.pu.exv (vs:=vs) u.Y2 x.press g h.va.len;have hrecs:X.recs=(Bq b u.E0 u.B2 vs u.Y2 x.press g).recs++(Ts b u.E0 u.B2 vs u.Y2 x.press g).1:=by rw[h.hX];rfl
 have hplan:∀c,Gj (Ts b u.E0 u.B2 vs u.Y2 x.press g).1 c=c:=λc=>by rw[hpl];exact Add λr hr=>by have:=Qt b vs _ _ r hr;omega
 rw[← h.hX]at hT hl;rw[h.img,← he,hrecs,Vz,hplan,hT,hl];cases hg:g with
 |false=>
  rw[hx0 hg];have e1:(Bq b u.E0 u.B2 vs u.Y2 (0,0) C).recs=[]:=rfl;have e2:MT (I u.E0.A0 (0,0)) (Bq b u.E0 u.B2 vs u.Y2 (0,0) C)=I u.E0.A0 (0,0):=rfl;have e3:X.ref=(0,0):=by rw[h.hX,hg];rfl
  rw[e1,e2,e3,c_];refine⟨?_,λ_=>⟨rfl,rfl⟩⟩;rw[show Lj (Aua vs.length).lit b.B0.length=(0,0)from Al7 _ _];refine⟨λf hf d hd=>?_,λf hf d hd hq=>?_,λf hf d hd=>?_,GO,GO⟩
  ·rw[EP];simp
  ·rw[EP]at hq;cases hq
  ·show B (0,0) f d=_;rw[EP];simp
 |true=>
  have hwi:=hx1 hg;refine⟨?_,λq=>by cases q⟩;have hgood:=Att hw.small hw.code him h.pu.exl h.pu.exv h.va.len u.Y2 x.press;rw[hg]at hT;have hX:EA b u.E0 u.B2 vs u.Y2 x.press A=X:=by rw[h.hX,hg]
  rw[hX,hT]at hgood;obtain⟨g1,g2,_,_,g5⟩:=hgood;have hcl:Lj (CT b vs u.Y2).lit b.B0.length=(CT b vs u.Y2).cl:=by
   have hap:=Apart.fold (b:=b) (vs:=vs) (ps:=u.Y2) vs.length 0 (s:=Lan.none) ⟨rfl,λk h=>absurd h (e3_ k)⟩;have hll:=(An4 b vs u.Y2 vs.length 0 Lan.none).1;have e:(CT b vs u.Y2).lit.length=b.B0.length:=by show(Bo (KC b vs u.Y2) vs.length 0 Lan.none).lit.length=_;rw[hll,h.va.len];exact p_ _
   have:=hap.cl
   rw[← e];exact this
  rw[g1,d_,hcl];have hfr:∀f:Nat,f<32→∀d:Int,(d=1∨d=2)→B (LM b u.E0 x.press) f d=(B x.press f d&&!B (I u.E0.A0 (0,0)) f d):=λf hf d hd=>by
   unfold LM;rw[Bk _ _ hf,Jz];cases hp:B x.press f d with
   |false=>rfl
   |true=>rw[Ajm hwi hf hd hp];rfl
  refine⟨λf hf d hd=>?_,λf hf d hd hq=>?_,λf hf d hd=>?_,g5,Aj1 _ GO⟩
  ·rw[GS,Bk _ _ hf,Bk _ _ hf,hfr f hf d hd];cases B x.press f d<;>cases B (I u.E0.A0 (0,0)) f d<;>cases B X.ref f d<;>rfl
  ·have:=Ajm g2 hf hd hq
   rw[hfr f hf d hd]at this;simpa using this
  ·obtain⟨R,r1,r2⟩:=Afm b (Ft (LM b u.E0 x.press)) (wrL (CX b vs u.E0.A0) ⟨[],u.E0,u.B2,CT b vs u.Y2,(0,0)⟩);have e4:(Bq b u.E0 u.B2 vs u.Y2 x.press A).recs=CX b vs u.E0.A0++R:=r1;rw[e4,Vz,Add (l:=R) (λr hr=>by have:=r2 r hr;omega),Aji b vs u.Y2 hf d,aD,Afv b vs hd hcall,EP,e_,hag f hf d hd];simp
end
structure LampG(P N press lit ref served:Int×Int):Prop where
 come:isZ (Ay (Ay N P) press)=true
 gone:Ay P N=served
 lit:Ay P N=Cz P lit
 dark:isZ (Ay (Ay press P) (Ay N P))=isZ ref
def LampF.good{P N press lit ref served:Int×Int}(h:LampF P N press lit ref served):LampG P N press lit ref served:=by
 have hs:∀f:Nat,f<32→∀d:Int,(d=1∨d=2)→B (Ay P N) f d=(B P f d&&B lit f d):=λf hf d hd=>by rw[Bk _ _ hf,h.n f hf d hd];cases B P f d<;>cases B lit f d<;>cases B press f d<;>rfl
 refine⟨(KB (Hi _ _)).2 λf hf d hd=>?_,MU (Hi _ _) h.us λf hf d hd=>?_,MU (Hi _ _) (WK _ _) λf hf d hd=>?_,?_⟩
 ·rw[Bk _ _ hf,Bk _ _ hf,h.n f hf d hd];cases B P f d<;>cases B press f d<;>simp
 ·rw[hs f hf d hd,h.s f hf d hd]
 ·rw[hs f hf d hd,Jz]
 ·rw[aD,KB (Hi _ _),KB h.ur];refine forall_congr' λf=>forall_congr' λhf=>forall_congr' λd=>forall_congr' λhd=>?_;have hr:=h.r f hf d hd;rw[Bk _ _ hf,Bk _ _ hf,Bk _ _ hf,h.n f hf d hd];cases hq:B ref f d with
  |true=>obtain⟨e1,e2⟩:=hr hq;rw[e1,e2];simp
  |false=>cases B P f d<;>cases B press f d<;>simp
end Go.Ovl
