import Derived.Test.YtefobhcldlacgaaGreatDoorOvB
import Derived.Test.YtefobhcldlacgaaGreatDoorOvM
import Derived.Test.YtefobhcldlacgaaGreatDoorDefs4
set_option linter.all false
open Bool renaming true->A,false->D,eq_iff_iff->aF
open Go.Ovl renaming Am->B,phA->H,outP->J,ofC->L,Bldg->O,Record->V,Outputs->aB
open Go.Ovl.Sat renaming bifF->E,bindE->I,ret->S,bifT->U,bic->aC,bindS->aD
open Go.IntKind renaming u64->aA,wrap->aE
open List renaming replicate->aG,foldl_append->aH
namespace Go.Ovl
open Go Go.Ab
set_option maxRecDepth 100000
variable{b:O}{c:Int×Int}{p:aB}{s:ByteArray}{g:Bool}{f:Nat}{x:Inp}{m:Img}{d:Int}
def Ho(c:Int×Int)(r:V):Int×Int:=bif r.Q0==2 then Az (bif r.Q0==1 then BS c (FH r.E0 r.I0)else c) (FH r.E0 r.I0)else(bif r.Q0==1 then BS c (FH r.E0 r.I0)else c)
def Bah(h:EC c)(r:V):EC (Ho c r):=by
 unfold Ho;cases r.Q0==2 with
 |true=>exact Ha _ _
 |false=>
  cases r.Q0==1 with
  |true=>exact OP _ _
  |false=>exact h
def Ack(c:Int×Int)(m:Img):Prop:=∀f:Nat,f<32→∀d:Int,(d=1∨d=2)→(B c f d=A↔((f:Int),d)∈m.A0.map BR)
def Agc(p:Int×Int):¬ltC p p:=λh=>by unfold ltC at h;omega
def Bhk{l:List (Int×Int)}(hs:l.Pairwise ltC){k:Nat}(hk:k<l.length)(p:Int×Int):p∈l.take k++l.drop (k+1)↔p∈l∧p≠l[k]:=by
 have e:l=l.take k++l[k]::l.drop (k+1):=by rw[← h5_ hk,List.take_append_drop]
 have hs':=hs;rw[e]at hs';obtain⟨_,h2,h3⟩:=g0_.1 hs';obtain⟨h4,_⟩:=e6_.1 h2;constructor
 ·intro h;rcases n_.1 h with h | h
  ·exact⟨d9_ h,λq=>Agc _ (q▸h3 p h l[k] (p_ ..))⟩
  ·exact⟨e0_ h,λq=>Agc _ (q▸h4 p h)⟩
 ·rintro⟨h,hne⟩;rw[e]at h;rcases n_.1 h with h | h
  ·exact n_.2 (.inl h)
  ·rcases s_.1 h with h | h
   ·exact absurd h hne
   ·exact n_.2 (.inr h)
def Arh(hb:b.small)(ha:Ack c m)(hm:ImgOK b m){r:V}(hv:Ax b r=A):Ack (Ho c r) (Ak m r):=by
 intro f hf d hd;have h0:=ha f hf d hd;have hk:=(Vn hv).2;have hcall:(r.Q0=1∨r.Q0=2)→(0≤r.E0∧r.E0<32)∧(r.I0=1∨r.I0=2):=λh=>by
  have lo:=hb.lo;have hi:=hb.hi;have hc:Ap b r.E0 r.I0=A:=by
   rcases hk with q | q | q | q | q | q | q
   ·exact q.2.1
   ·exact q.2.1
   all_goals omega
  unfold Ap Oj at hc;simp only[e_,R_,U_,Ao]at hc;omega
 have hone:(r.Q0=1∨r.Q0=2)→(B (FH r.E0 r.I0) f d=A↔((f:Int),d)=(r.E0,r.I0)):=λh=>by obtain⟨h1,h2⟩:=hcall h;rw[MA h1 h2 f hd,t_]
 have same:∀l:List Entry,l.map BR=m.A0.map BR→¬r.Q0=1→¬r.Q0=2→(B (Ho c r) f d=A↔((f:Int),d)∈l.map BR):=λl hl h1 h2=>by unfold Ho;rw[An h1,An h2,hl];exact h0
 unfold Ak;by_cases k4:r.Q0=4
 ·rw[show(r.Q0==4)=A by rw[k4];rfl];exact same _ rfl ω ω
 rw[An k4,c_];by_cases k5:r.Q0=5
 ·rw[show(r.Q0==5)=A by rw[k5];rfl];exact same _ rfl ω ω
 rw[An k5,c_];by_cases k6:r.Q0=6
 ·rw[show(r.Q0==6)=A by rw[k6];rfl];exact same _ rfl ω ω
 rw[An k6,c_];rcases Sl r.E0 r.I0 m.A0 0 with⟨h1,h2⟩ | ⟨k,h1,h2,h3⟩
 ·rw[h1,show((-1:Int)==-1)=A from rfl,d_];by_cases k1:r.Q0=1
  ·rw[show(r.Q0==1)=A by rw[k1];rfl,d_];have hins:=WP (c:=⟨r.E0,r.I0,-1,0,D⟩) h2;show _↔((f:Int),d)∈(Hw ⟨r.E0,r.I0,-1,0,D⟩ D m.A0).map BR;rw[hins];unfold Ho;rw[k1];simp only[show((1:Int)==2)=D from rfl,l_,d_,c_];rw[GL,R_,h0,hone (.inl k1)];generalize AA ⟨r.E0,r.I0,-1,0,D⟩ m.A0=p
   conv=>lhs;rw[← List.take_append_drop p m.A0]
   simp only[List.map_append,n_,b8_,List.map_nil,E_,BR];constructor
   ·rintro((h | h) | h)
    ·exact .inl (.inl h)
    ·exact .inr h
    ·exact .inl (.inr h)
   ·rintro((h | h) | h)
    ·exact .inl (.inl h)
    ·exact .inr h
    ·exact .inl (.inr h)
  ·rw[An k1,c_];by_cases k2:r.Q0=2
   ·unfold Ho;rw[k2];simp only[show((2:Int)==1)=D from rfl,l_,d_,c_];rw[Bo _ _ hf,e_,h0,a2_,← Bool.not_eq_true,hone (.inr k2)];refine⟨λh=>h.1,λh=>⟨h,λq=>?_⟩⟩;obtain⟨e,he,hq⟩:=b6_.1 h
    have:=h2 e he
    rw[Aqh.2 (hq.trans q)]at this;cases this
   ·exact same _ rfl k1 k2
 ·rw[o_]at h2;rw[h2,An (ω:¬(k:Int)=-1),c_,j_];have hkc:BR (m.A0.getD k noE)=(r.E0,r.I0):=Aqh.1 h3;have hget:m.A0.getD k noE=m.A0[k]:=by simp[h1]
  by_cases k2:r.Q0=2
  ·rw[show(r.Q0==2)=A by rw[k2];rfl,d_];show _↔((f:Int),d)∈(m.A0.take k++m.A0.drop (k+1)).map BR;have hd1:=Bhk (l:=m.A0.map BR) hm.so (k:=k) (by rw[b2_];exact h1) ((f:Int),d);rw[List.map_append,List.map_take,List.map_drop,hd1,List.getElem_map,← hget,hkc];unfold Ho;rw[k2];simp only[show((2:Int)==1)=D from rfl,l_,d_,c_];rw[Bo _ _ hf,e_,h0,a2_,← Bool.not_eq_true,hone (.inr k2)]
  ·rw[An k2,c_];by_cases k1:r.Q0=1
   ·rw[k1];simp only[show((1:Int)==3)=D from rfl,show((1:Int)==7)=D from rfl,c_];unfold Ho;rw[k1];simp only[show((1:Int)==2)=D from rfl,l_,d_,c_];rw[GL,R_,h0,hone (.inl k1)];refine⟨λh=>?_,λh=>.inl h⟩;rcases h with h | h
    ·exact h
    ·rw[h,← hkc];exact b6_.2 ⟨_,BN noE h1,rfl⟩
   ·by_cases k3:r.Q0=3
    ·rw[show(r.Q0==3)=A by rw[k3];rfl,d_];exact same _ (TA h1 rfl) k1 k2
    ·rw[An k3,c_];by_cases k7:r.Q0=7
     ·rw[show(r.Q0==7)=A by rw[k7];rfl,d_];exact same _ (TA h1 rfl) k1 k2
     ·rw[An k7,c_];exact same _ rfl k1 k2
def XR{b:O}(hb:b.small):∀(rs:List V) {c:Int×Int}{m:Img},Ack c m→EC c→ImgOK b m→(∀r∈rs,Ax b r=A)→Ack (rs.foldl Ho c) (Ai m rs)∧EC (rs.foldl Ho c)∧ImgOK b (Ai m rs)
 |[],_,_,h,hu,hm,_=>⟨h,hu,hm⟩
 |r::t,_c,_m,h,hu,hm,hv=>XR hb t (Arh hb h hm (hv r (p_ ..))) (Bah hu r) (KH hm (hv r (p_ ..))).1 λx hx=>hv x (r_ _ hx)
def MD(was:Int×Int)(X:Rnd):Int×Int:=X.recs.foldl Ho was
def Ahn:∀{l:List V}(c:Int×Int),(∀r∈l,r.Q0=3∨r.Q0=7)→l.foldl Ho c=c
 |[],_,_=>rfl
 |r::t,c,h=>by
  have hr:=h r (p_ ..)
  have:Ho c r=c:=by unfold Ho;rw[An (ω:¬r.Q0=2),An (ω:¬r.Q0=1)];rfl
  rw[f2_,this];exact Ahn c λx hx=>h x (r_ _ hx)
def Ad1(b:O)(vs:List View)(ps:List Calls){f:Nat}(hf:f<32)(d:Int):∀(k i:Nat) (s:Lan),i+k=vs.length→B (AM (Ky b vs ps) k i s).cl f d=(B s.cl f d||(vs.drop i).any λv=>B (Dc b v) f d)
 |0,i,s,hi=>by rw[show i=vs.length by omega,b9_];simp[AM]
 |k+1,i,s,hi=>by show B (AM (Ky b vs ps) k (i+1) (Ky b vs ps i s)).cl f d=_;rw[Ad1 b vs ps hf d k (i+1) _ ω,Cu noV (ω:i<vs.length),List.any_cons];show(B (BS s.cl (MJ b vs i s)) f d||_)=_;unfold MJ;rw[GL,Bo _ _ hf];cases B s.cl f d<;>cases B (Dc b (vs.getD i noV)) f d<;>rfl
def Ah2(b:O)(vs:List View)(ps:List Calls)(hf:f<32)(d:Int):B (CQ b vs ps).cl f d=Jz b vs (f:Int) d:=by unfold CQ Jz;rw[Ad1 b vs ps hf d vs.length 0 Lan.none ω,S_,j_];show(B (0,0) f d||_)=_;rw[EJ,Bool.false_or]
def Ail(b:O)(vs:List View){f:Nat}(hf:f<32){d:Int}(hd:d=1∨d=2):∀{l:List Entry}{c:Int×Int},(∀e∈l,QJ e)→(B ((CU b vs l).foldl Ho c) f d=A↔B c f d=A∧¬(((f:Int),d)∈l.map BR∧Jz b vs (f:Int) d=A))
 |[],c,_=>by simp[CU]
 |e::t,c,h=>by
  have he:=h e (p_ ..);have ht:=λx hx=>h x (r_ _ hx);have e0:CU b vs (e::t)=(bif Jz b vs e.E0 e.I0 then [Record.mk 2 e.E0 e.I0 0 0]else [])++CU b vs t:=rfl;rw[e0,aH,Ail b vs hf hd ht,b8_,s_];cases hs:Jz b vs e.E0 e.I0 with
  |false=>
   show B c f d=A∧_↔_;constructor
   ·rintro⟨h1,h2⟩;refine⟨h1,λhh=>h2 ⟨?_,hh.2⟩⟩;rcases hh.1 with hh1 | hh1
    ·obtain⟨q1,q2⟩:=Prod.mk.inj (show((f:Int),d)=(e.E0,e.I0)from hh1);rw[q1,q2,hs]at hh;cases hh.2
    ·exact hh1
   ·rintro⟨h1,h2⟩;exact⟨h1,λhh=>h2 ⟨.inr hh.1,hh.2⟩⟩
  |true=>
   have hw:List.foldl Ho c [Record.mk 2 e.E0 e.I0 0 0]=Az c (FH e.E0 e.I0):=rfl;rw[d_,hw,Bo _ _ hf,MA he.1 he.2 f hd,e_,a2_,decide_eq_false_iff_not];constructor
   ·rintro⟨⟨h1,h2⟩,h3⟩;refine⟨h1,λhh=>h3 ⟨?_,hh.2⟩⟩;rcases hh.1 with hh1 | hh1
    ·exact absurd hh1 h2
    ·exact hh1
   ·rintro⟨h1,h2⟩;refine⟨⟨h1,λhq=>h2 ⟨.inl hq,?_⟩⟩,λhh=>h2 ⟨.inr hh.1,hh.2⟩⟩;obtain⟨q1,q2⟩:=Prod.mk.inj hq;rw[q1,q2];exact hs
def Azm{b:O}:∀{l:List Entry}{X:Rnd},JU b X.img=D→(Ee b l X).img=X.img
 |[],_,_=>rfl
 |e::t,X,h=>by
  have e1:(Ch b e X).img=X.img:=by unfold Ch;rw[h];rfl
  show(Ee b t (Ch b e X)).img=X.img;rw[Azm (by rw[e1];exact h),e1]
structure RegBits(b:Bldg)(was:Int×Int)(l:List Entry)(X:Rnd):Prop where
 bits:∀f:Nat,f<32→∀d:Int,(d=1∨d=2)→(Am (MD was (Ee b l X)) f d=true↔Am (MD was X) f d=true∨(((f:Int),d)∈l.map BR∧Am (Ee b l X).ref f d=false))
 up:∀f:Nat,f<32→∀d:Int,(d=1∨d=2)→Am X.ref f d=true→Am (Ee b l X).ref f d=true
 down:∀f:Nat,f<32→∀d:Int,(d=1∨d=2)→Am (Ee b l X).ref f d=true→Am X.ref f d=true∨((f:Int),d)∈l.map BR
 u32:EC X.ref→EC (Ee b l X).ref
 room:(Ee b l X).ref=X.ref∨JU b (Ee b l X).img=false
def Ab8{b:O}{was:Int×Int}:∀{l:List Entry}{X:Rnd},(∀e∈l,QJ e)→(l.map BR).Pairwise ltC→(∀e∈l,B X.ref e.E0.toNat e.I0=D)→RegBits b was l X
 |[],X,_,_,_=>⟨λf _ d _=>by simp[Ee],λ_ _ _ _ h=>h,λ_ _ _ _ h=>.inl h,λh=>h,.inl rfl⟩
 |e::t,X,hc,hp,hr=>by
  have he:=hc e (p_ ..);have hct:=λx hx=>hc x (r_ _ hx);rw[b8_]at hp;obtain⟨hp1,hp2⟩:=e6_.1 hp;have hne:(e.E0,e.I0)∉t.map BR:=λh=>Agc _ (hp1 _ h);have h0:=hr e (p_ ..);have hrt:=λx hx=>hr x (r_ _ hx);have hR:Ee b (e::t) X=Ee b t (Ch b e X):=rfl;cases hroom:JU b X.img with
  |true=>
   have e1:Ch b e X=QU (Xg e) X:=by unfold Ch;rw[hroom];rfl
   have e2:(Ch b e X).ref=X.ref:=by rw[e1];rfl
   have e3:MD was (Ch b e X)=BS (MD was X) (FH e.E0 e.I0):=by rw[e1];unfold MD QU;simp only;rw[aH];rfl
   have ih:=Ab8 (b:=b) (was:=was) (X:=Ch b e X) hct hp2 (by rw[e2];exact hrt);have iu:=ih.up;have idn:=ih.down;have iu32:=ih.u32;have irm:=ih.room;rw[e2]at iu idn iu32 irm;rw[← hR]at iu idn iu32 irm;refine⟨λf hf d hd=>?_,iu,λf hf d hd h=>(idn f hf d hd h).imp id (r_ _),iu32,irm⟩;have hb:=ih.bits f hf d hd;rw[← hR,e3,GL,MA he.1 he.2 f hd,R_,t_]at hb;rw[hb,b8_,s_];constructor
   ·rintro((h | h) | ⟨h1,h2⟩)
    ·exact .inl h
    ·refine .inr ⟨.inl h,?_⟩;cases hq:B (Ee b (e::t) X).ref f d with
     |false=>rfl
     |true=>
      obtain⟨q1,q2⟩:=Prod.mk.inj h;rcases idn f hf d hd hq with hh | hh
      ·rw[show f=e.E0.toNat by omega,q2,h0]at hh;cases hh
      ·rw[h]at hh;exact absurd hh hne
    ·exact .inr ⟨.inr h1,h2⟩
   ·rintro(h | ⟨h1 | h1,h2⟩)
    ·exact .inl (.inl h)
    ·exact .inl (.inr h1)
    ·exact .inr ⟨h1,h2⟩
  |false=>
   have e1:Ch b e X=⟨X.recs,X.img,X.xs,X.lan,BS X.ref (FH e.E0 e.I0)⟩:=by unfold Ch;rw[hroom];rfl
   have e2:(Ch b e X).ref=BS X.ref (FH e.E0 e.I0):=by rw[e1]
   have e3:MD was (Ch b e X)=MD was X:=by rw[e1];rfl
   have hx:∀f:Nat,f<32→∀d:Int,(d=1∨d=2)→(B (Ch b e X).ref f d=A↔B X.ref f d=A∨((f:Int),d)=(e.E0,e.I0)):=λf hf d hd=>by rw[e2,GL,MA he.1 he.2 f hd,R_,t_]
   have ih:=Ab8 (b:=b) (was:=was) (X:=Ch b e X) hct hp2 (λx hxt=>by
    have hce:=hct x hxt;cases hq:B (Ch b e X).ref x.E0.toNat x.I0 with
    |false=>rfl
    |true=>
     rcases(hx x.E0.toNat (by have:=hce.1;omega) x.I0 hce.2).1 hq with hh | hh
     ·rw[hrt x hxt]at hh;cases hh
     ·exfalso;refine hne (b6_.2 ⟨x,hxt,?_⟩);rw[← hh];show(x.E0,x.I0)=_;rw[f4_ hce.1.1])
   refine⟨λf hf d hd=>?_,λf hf d hd h=>?_,λf hf d hd h=>?_,λ_=>?_,.inr ?_⟩
   ·have hb:=ih.bits f hf d hd;rw[← hR,e3]at hb;rw[hb,b8_,s_];constructor
    ·rintro(h | ⟨h1,h2⟩)
     ·exact .inl h
     ·exact .inr ⟨.inr h1,h2⟩
    ·rintro(h | ⟨h1 | h1,h2⟩)
     ·exact .inl h
     ·exfalso
      have:=ih.up f hf d hd ((hx f hf d hd).2 (.inr h1))
      rw[← hR,h2]at this;cases this
     ·exact .inr ⟨h1,h2⟩
   ·rw[hR];exact ih.up f hf d hd ((hx f hf d hd).2 (.inl h))
   ·rw[hR]at h;rw[b8_,s_];rcases ih.down f hf d hd h with hh | hh
    ·rcases(hx f hf d hd).1 hh with h3 | h3
     ·exact .inl h3
     ·exact .inr (.inl h3)
    ·exact .inr (.inr hh)
   ·rw[hR];exact ih.u32 (by rw[e2];exact OP _ _)
   ·have e4:(Ch b e X).img=X.img:=by rw[e1]
    rw[hR,Azm (by rw[e4];exact hroom),e4];exact hroom
def Amw(hf:f<32)(hd:d=1∨d=2):((f:Int),d)∈(Fg c).map BR↔B c f d=A:=by
 unfold Fg;rw[mem_range];constructor
 ·rintro⟨g,_,h1,_,h3⟩;have hg:g=f:=by have:(f:Int)=(g:Int):=h1;omega
  rw[hg]at h3;exact h3
 ·intro h;exact⟨f,⟨ω,ω⟩,rfl,hd,h⟩
def Uq(hb:b.small)(hm:ImgOK b m):Ack (L m.A0 (0,0)) m:=λf _ d hd=>by have hc:∀e∈m.A0,QJ e:=λe he=>Tm hb (CH.1 (hm.en e he)).1;rw[Agk hc f hd,EJ];simp
section
variable{b:O}(hb:b.small)(hcode:b.code=0){m:Img}(hm:ImgOK b m){xs:List Int}(hx:xs.length=m.A0.length)(hxv:inX xs){vs:List View}(hvl:vs.length=b.B0.length)(ps:List Calls)(press:Int×Int)
include hb hcode hm hx hxv hvl
theorem Apw(good:Bool):L (Eu b m xs vs ps press good).img.A0 (0,0)=MD (L m.A0 (0,0)) (Bq b m xs vs ps press good):=by
 have hfr:=(Acg hb hcode hm hx hxv (vs:=vs) ps press good hvl).1;have hp:=PX hb hcode hm hx hxv (vs:=vs) ps press good hvl;obtain⟨a1,a2,a3⟩:=XR hb (Eu b m xs vs ps press good).recs (Uq hb hm) (ZG _ GH) hm hfr.good.valid;rw[hfr.img]at a1 a3;have hc:∀e∈(Eu b m xs vs ps press good).img.A0,QJ e:=λe he=>Tm hb (CH.1 (a3.en e he)).1;have e1:(Eu b m xs vs ps press good).recs.foldl Ho (L m.A0 (0,0))=MD (L m.A0 (0,0)) (Bq b m xs vs ps press good):=by show((Bq b m xs vs ps press good).recs++(SF b m xs vs ps press good).1).foldl Ho _=_;rw[aH,hp,Ahn _ (PP b vs _ _)];rfl
 rw[← e1];refine ME (ZG _ GH) a2 λf hf d hd=>?_;rw[aF,Agk hc f hd,a1 f hf d hd,EJ];simp
theorem Ar7:L (Eu b m xs vs ps press A).img.A0 (0,0)=BS (Az (L m.A0 (0,0)) (CQ b vs ps).cl) (Az (LA b m press) (Eu b m xs vs ps press A).ref)∧isZ (Az (Eu b m xs vs ps press A).ref (LA b m press))=A∧((Eu b m xs vs ps press A).ref=(0,0)∨JU b (Bq b m xs vs ps press A).img=D)∧(Eu b m xs vs ps press A).lan=CQ b vs ps∧EC (Eu b m xs vs ps press A).ref:=by
 have hc:∀e∈m.A0,QJ e:=λe he=>Tm hb (CH.1 (hm.en e he)).1;have hX:Bq b m xs vs ps press A=Ee b (Fg (LA b m press)) (wrL (CU b vs m.A0) ⟨[],m,xs,CQ b vs ps,(0,0)⟩):=rfl;have hT:(Eu b m xs vs ps press A).ref=(Bq b m xs vs ps press A).ref:=rfl;have rb:=Ab8 (b:=b) (was:=L m.A0 (0,0)) (l:=Fg (LA b m press)) (X:=wrL (CU b vs m.A0) ⟨[],m,xs,CQ b vs ps,(0,0)⟩) (λe he=>by obtain⟨h1,h2,_⟩:=Ah5 he;exact⟨h1,h2⟩) (Zb _ 32 0) (λe _=>EJ _ _);have e0:∀f:Nat,f<32→∀d:Int,(d=1∨d=2)→(B (Bq b m xs vs ps press A).ref f d=A→B (LA b m press) f d=A):=λf hf d hd hh=>by
  have hdn:=rb.down f hf d hd;rw[← hX]at hdn;rcases hdn hh with hq | hq
  ·rw[show B (wrL (CU b vs m.A0) ⟨[],m,xs,CQ b vs ps,(0,0)⟩).ref f d=D from EJ f d]at hq;cases hq
  ·exact(Amw hf hd).1 hq
 refine⟨?_,?_,?_,?_,?_⟩
 ·rw[Apw hb hcode hm hx hxv hvl ps press A,hT];refine ME (XR hb _ (Uq hb hm) (ZG _ GH) hm (TS hb hcode hm hx hxv (vs:=vs) ps press A).good.valid).2.1 (OP _ _) λf hf d hd=>?_;have hbb:=rb.bits f hf d hd;have hs:=Ail b vs hf hd (l:=m.A0) (c:=L m.A0 (0,0)) hc;have hag:=Uq hb hm f hf d hd;have e2:MD (L m.A0 (0,0)) (wrL (CU b vs m.A0) ⟨[],m,xs,CQ b vs ps,(0,0)⟩)=(CU b vs m.A0).foldl Ho (L m.A0 (0,0)):=rfl;rw[e2,← hX]at hbb;rw[aF,hbb,hs,GL,Bo _ _ hf,Bo _ _ hf,Ah2 b vs ps hf d,Amw hf hd,R_,e_,e_,a2_,a2_];constructor
  ·rintro(⟨h1,h2⟩ | h1)
   ·refine .inl ⟨h1,?_⟩;cases hq:Jz b vs (f:Int) d with
    |false=>rfl
    |true=>exact absurd ⟨hag.1 h1,hq⟩ h2
   ·exact .inr h1
  ·rintro(⟨h1,h2⟩ | h1)
   ·refine .inl ⟨h1,λhh=>?_⟩;rw[h2]at hh;cases hh.2
   ·exact .inr h1
 ·rw[hT];refine(Kx (Ha _ _)).2 λf hf d hd=>?_;rw[Bo _ _ hf];cases hq:B (Bq b m xs vs ps press A).ref f d with
  |false=>rfl
  |true=>rw[e0 f hf d hd hq];rfl
 ·rw[hT];have hrm:=rb.room;rw[← hX]at hrm;exact hrm
 ·show(Bq b m xs vs ps press A).lan=_;rw[hX,Ab7];rfl
 ·rw[hT,hX];exact rb.u32 GH
end
structure LampF(P N press cl ref served:Int×Int):Prop where
 n:∀f:Nat,f<32→∀d:Int,(d=1∨d=2)→Am N f d=((Am P f d&&!Am cl f d)||(Am press f d&&(!Am P f d&&!Am ref f d)))
 r:∀f:Nat,f<32→∀d:Int,(d=1∨d=2)→Am ref f d=true→Am press f d=true∧Am P f d=false
 s:∀f:Nat,f<32→∀d:Int,(d=1∨d=2)→Am served f d=(Am P f d&&Am cl f d)
 ur:EC ref
 us:EC served
def UJ:∀(l:List V) {k:List V}{c:Int×Int},Gb (l++k) c=Gb k (Gb l c)
 |[],_,_=>rfl
 |r::l,k,c=>UJ l
def Acd:∀{l:List V}{c:Int×Int},(∀r∈l,r.Q0≠2)→Gb l c=c
 |[],_,_=>rfl
 |r::l,c,h=>by show Gb l (bif r.Q0==2 then _ else c)=c;rw[An (h r (p_ ..)),c_];exact Acd λx hx=>h x (r_ _ hx)
def Aik:∀(l:List V) {c:Int×Int},EC c→EC (Gb l c)
 |[],_,h=>h
 |r::l,c,h=>by
  refine Aik l ?_;cases r.Q0==2 with
  |true=>exact OP _ _
  |false=>exact h
def Aen(b:O)(vs:List View){f:Nat}{d:Int}(hd:d=1∨d=2):∀{l:List Entry}{c:Int×Int},(∀e∈l,QJ e)→(B (Gb (CU b vs l) c) f d=A↔B c f d=A∨(((f:Int),d)∈l.map BR∧Jz b vs (f:Int) d=A))
 |[],c,_=>by simp[CU,Gb]
 |e::t,c,h=>by
  have he:=h e (p_ ..);have ht:=λx hx=>h x (r_ _ hx);have e0:CU b vs (e::t)=(bif Jz b vs e.E0 e.I0 then [Record.mk 2 e.E0 e.I0 0 0]else [])++CU b vs t:=rfl;rw[e0,UJ,Aen b vs hd ht,b8_,s_];cases hs:Jz b vs e.E0 e.I0 with
  |false=>
   show B c f d=A∨_↔_;constructor
   ·rintro(h1 | ⟨h1,h2⟩)
    ·exact .inl h1
    ·exact .inr ⟨.inr h1,h2⟩
   ·rintro(h1 | ⟨h1 | h1,h2⟩)
    ·exact .inl h1
    ·obtain⟨q1,q2⟩:=Prod.mk.inj (show((f:Int),d)=(e.E0,e.I0)from h1);rw[q1,q2,hs]at h2;cases h2
    ·exact .inr ⟨h1,h2⟩
  |true=>
   have hw:Gb [Record.mk 2 e.E0 e.I0 0 0] c=BS c (FH e.E0 e.I0):=rfl;rw[d_,hw,GL,MA he.1 he.2 f hd,R_,t_];constructor
   ·rintro((h1 | h1) | ⟨h1,h2⟩)
    ·exact .inl h1
    ·refine .inr ⟨.inl h1,?_⟩;obtain⟨q1,q2⟩:=Prod.mk.inj h1;rw[q1,q2];exact hs
    ·exact .inr ⟨.inr h1,h2⟩
   ·rintro(h1 | ⟨h1 | h1,h2⟩)
    ·exact .inl (.inl h1)
    ·exact .inl (.inr h1)
    ·exact .inr ⟨h1,h2⟩
def Aee(b:O):∀(l:List Entry) (X:Rnd),∃R,(Ee b l X).recs=X.recs++R∧∀r∈R,r.Q0=1
 |[],X=>⟨[],(Z_ _).symm,λr h=>by cases h⟩
 |e::t,X=>by
  obtain⟨R,h1,h2⟩:=Aee b t (Ch b e X);have hR:Ee b (e::t) X=Ee b t (Ch b e X):=rfl;cases hr:JU b X.img with
  |false=>
   have e1:(Ch b e X).recs=X.recs:=by unfold Ch;rw[hr];rfl
   exact⟨R,by rw[hR,h1,e1],h2⟩
  |true=>
   have e1:(Ch b e X).recs=X.recs++[Xg e]:=by unfold Ch;rw[hr];rfl
   refine⟨Xg e::R,by rw[hR,h1,e1,M_];rfl,λr h=>?_⟩;rcases s_.1 h with rfl | h
   ·rfl
   ·exact h2 r h
def Akq(n:Nat):∀k,La (aG n noP) k=(0,0)
 |0=>rfl
 |k+1=>by show BS (La _ k) (IF _ k)=_;rw[Akq n k,Ams];rfl
def Ah6{a:Int×Int}(h:isZ (Az a c)=A)(hf:f<32)(hd:d=1∨d=2)(ha:B a f d=A):B c f d=A:=by
 have:=(Kx (Ha _ _)).1 h f hf d hd
 rw[Bo _ _ hf,ha]at this;simpa using this
section
variable{b:O}(hw:BW b){m:Mch}{x:Inp}{g:Bool}{m':Mch}{o:aB}{l1 l2:List V}{u:Mch}{vs:List View}{X:Rnd}(h:TickF b m x g m' o l1 l2 u vs X)
include hw h
theorem TickF.ents:u.D0.A0=m.D0.A0:=by
 have k1:K3 l1:=λr hr=>by obtain⟨i,_,rfl⟩:=h.fl r hr;exact .inr (.inl rfl)
 have k2:K3 l2:=by
  rcases h.op with⟨_,rfl⟩ | ⟨_,i,cm,fr,_,hi,_,rfl⟩
  ·exact λr h=>by cases h
  ·intro r hr;obtain⟨j,k,v,_,rfl,h⟩:=Xa _ _ hi _ _ r hr;show k=4∨k=5∨k=6;omega
 rw[h.iu,LH _ k2,LH _ k1]
theorem TickF.lamps(hx1:g=A→GG b x.press=A)(hx0:g=D→x.press=(0,0)):LampF (L m.D0.A0 (0,0)) (L m'.D0.A0 (0,0)) x.press (La X.lan.lit b.B0.length) X.ref (Gb X.recs (0,0))∧(g=D→L m'.D0.A0 (0,0)=L m.D0.A0 (0,0)∧X.ref=(0,0)):=by
 have he:=h.ents hw;have him:=h.pu.jst.img;have hT:=Apw hw.small hw.code him h.pu.exl h.pu.exv h.va.len u.Y2 x.press g;have hcall:∀e∈u.D0.A0,QJ e:=λe he=>Tm hw.small (CH.1 (him.en e he)).1;have hag:=Uq hw.small him;have hl:=Zj b u.D0 u.Y1 vs u.Y2 x.press g;have hpl:=PX hw.small hw.code him h.pu.exl h.pu.exv (vs:=vs) u.Y2 x.press g h.va.len;have hrecs:X.recs=(Bq b u.D0 u.Y1 vs u.Y2 x.press g).recs++(SF b u.D0 u.Y1 vs u.Y2 x.press g).1:=by rw[h.hX];rfl
 have hplan:∀c,Gb (SF b u.D0 u.Y1 vs u.Y2 x.press g).1 c=c:=λc=>by rw[hpl];exact Acd λr hr=>by have:=PP b vs _ _ r hr;omega
 rw[← h.hX]at hT hl;rw[h.img,← he,hrecs,UJ,hplan,hT,hl];cases hg:g with
 |false=>
  rw[hx0 hg];have e1:(Bq b u.D0 u.Y1 vs u.Y2 (0,0) D).recs=[]:=rfl;have e2:MD (L u.D0.A0 (0,0)) (Bq b u.D0 u.Y1 vs u.Y2 (0,0) D)=L u.D0.A0 (0,0):=rfl;have e3:X.ref=(0,0):=by rw[h.hX,hg];rfl
  rw[e1,e2,e3,c_];refine⟨?_,λ_=>⟨rfl,rfl⟩⟩;rw[show La (Asn vs.length).lit b.B0.length=(0,0)from Akq _ _];refine⟨λf hf d hd=>?_,λf hf d hd hq=>?_,λf hf d hd=>?_,GH,GH⟩
  ·rw[EJ];simp
  ·rw[EJ]at hq;cases hq
  ·show B (0,0) f d=_;rw[EJ];simp
 |true=>
  have hwi:=hx1 hg;refine⟨?_,λq=>by cases q⟩;have hgood:=Ar7 hw.small hw.code him h.pu.exl h.pu.exv h.va.len u.Y2 x.press;rw[hg]at hT;have hX:Eu b u.D0 u.Y1 vs u.Y2 x.press A=X:=by rw[h.hX,hg]
  rw[hX,hT]at hgood;obtain⟨g1,g2,_,_,g5⟩:=hgood;have hcl:La (CQ b vs u.Y2).lit b.B0.length=(CQ b vs u.Y2).cl:=by
   have hap:=Apart.fold (b:=b) (vs:=vs) (ps:=u.Y2) vs.length 0 (s:=Lan.none) ⟨rfl,λk h=>absurd h (d5_ k)⟩;have hll:=(Amq b vs u.Y2 vs.length 0 Lan.none).1;have e:(CQ b vs u.Y2).lit.length=b.B0.length:=by show(AM (Ky b vs u.Y2) vs.length 0 Lan.none).lit.length=_;rw[hll,h.va.len];exact o_ _
   have:=hap.cl
   rw[← e];exact this
  rw[g1,d_,hcl];have hfr:∀f:Nat,f<32→∀d:Int,(d=1∨d=2)→B (LA b u.D0 x.press) f d=(B x.press f d&&!B (L u.D0.A0 (0,0)) f d):=λf hf d hd=>by
   unfold LA;rw[Bo _ _ hf,Jq];cases hp:B x.press f d with
   |false=>rfl
   |true=>rw[Ah6 hwi hf hd hp];rfl
  refine⟨λf hf d hd=>?_,λf hf d hd hq=>?_,λf hf d hd=>?_,g5,Aik _ GH⟩
  ·rw[GL,Bo _ _ hf,Bo _ _ hf,hfr f hf d hd];cases B x.press f d<;>cases B (L u.D0.A0 (0,0)) f d<;>cases B X.ref f d<;>rfl
  ·have:=Ah6 g2 hf hd hq
   rw[hfr f hf d hd]at this;simpa using this
  ·obtain⟨R,r1,r2⟩:=Aee b (Fg (LA b u.D0 x.press)) (wrL (CU b vs u.D0.A0) ⟨[],u.D0,u.Y1,CQ b vs u.Y2,(0,0)⟩);have e4:(Bq b u.D0 u.Y1 vs u.Y2 x.press A).recs=CU b vs u.D0.A0++R:=r1;rw[e4,UJ,Acd (l:=R) (λr hr=>by have:=r2 r hr;omega),Ah2 b vs u.Y2 hf d,aF,Aen b vs hd hcall,EJ,e_,hag f hf d hd];simp
end
structure LampG(P N press lit ref served:Int×Int):Prop where
 come:isZ (Az (Az N P) press)=true
 gone:Az P N=served
 lit:Az P N=Ct P lit
 dark:isZ (Az (Az press P) (Az N P))=isZ ref
def LampF.good{P N press lit ref served:Int×Int}(h:LampF P N press lit ref served):LampG P N press lit ref served:=by
 have hs:∀f:Nat,f<32→∀d:Int,(d=1∨d=2)→B (Az P N) f d=(B P f d&&B lit f d):=λf hf d hd=>by rw[Bo _ _ hf,h.n f hf d hd];cases B P f d<;>cases B lit f d<;>cases B press f d<;>rfl
 refine⟨(Kx (Ha _ _)).2 λf hf d hd=>?_,ME (Ha _ _) h.us λf hf d hd=>?_,ME (Ha _ _) (Wa _ _) λf hf d hd=>?_,?_⟩
 ·rw[Bo _ _ hf,Bo _ _ hf,h.n f hf d hd];cases B P f d<;>cases B press f d<;>simp
 ·rw[hs f hf d hd,h.s f hf d hd]
 ·rw[hs f hf d hd,Jq]
 ·rw[aF,Kx (Ha _ _),Kx h.ur];refine forall_congr' λf=>forall_congr' λhf=>forall_congr' λd=>forall_congr' λhd=>?_;have hr:=h.r f hf d hd;rw[Bo _ _ hf,Bo _ _ hf,Bo _ _ hf,h.n f hf d hd];cases hq:B ref f d with
  |true=>obtain⟨e1,e2⟩:=hr hq;rw[e1,e2];simp
  |false=>cases B P f d<;>cases B press f d<;>simp
def Tr(c:Int×Int):Hq c.1 c.2=some ((isZ c,()),()):=rfl
def Ad7(a:Int×Int):Az a a=(0,0):=ME (Ha _ _) GH λf hf d _=>by rw[Bo _ _ hf,EJ];simp
structure Bef(b:Bldg)(m:Mch)(p:Outputs):Prop where
 len:p.B0.length=b.B0.length
 ph:∀i,i<b.B0.length→(p.B0.getD i Au).N1=phA m.D0 i
 lamps:(p.Y3,p.J3)=ofC m.D0.A0 (0,0)
section
variable{b:O}(hw:BW b){m:Mch}{x:Inp}{g:Bool}{m':Mch}{o:aB}{l1 l2:List V}{u:Mch}{vs:List View}{X:Rnd}(h:TickF b m x g m' o l1 l2 u vs X)
include hw h
theorem TickF.bef:Bef b m' o:=⟨h.oc,λi hi=>by obtain⟨c,d,_,hf⟩:=h.cars i hi;exact hf.phase,Prod.ext h.lu h.ld⟩
theorem TickF.acc:∀k,k≤b.B0.length→JD o.B0 k=La X.lan.lit k
 |0,_=>rfl
 |k+1,hk=>by
  obtain⟨c,d,hl,hf⟩:=h.cars k ω;have e:Ve o.B0 k=IF X.lan.lit k:=by unfold Ve IF;rw[hf.lu,hf.ld,hl.1,hl.2.1]
  show BS (JD o.B0 k) (Ve o.B0 k)=BS (La X.lan.lit k) (IF X.lan.lit k);rw[TickF.acc k ω,e]
theorem Bg9(hm:PM b m)(h1:One b m'.D0)(hx:(g=A→GG b x.press=A)∧(g=D→x.press=(0,0)))(hp:Bef b m p):Sat (IV b.C0 b.F0 b.H0 b.M0 b.K0 b.L0 b.N0 b.B0 p.Y3 p.J3 p.X2 p.L2 p.V5 p.L0 p.H5 p.B0 o.Y3 o.J3 o.X2 o.L2 o.V5 o.L0 o.H5 o.B0) λy=>y=((0,()),()):=by
 have hcc:=Aj hw.code;have hoc:=h.oc;have hpl:=hp.len;have hB:=h.bef hw;obtain⟨hL,hbad⟩:=h.lamps hw hx.1 hx.2;have G:=hL.good;have hapart:∀k,k<o.B0.length→Ct (JD o.B0 k) (Ve o.B0 k)=(0,0):=λk hk=>by
  obtain⟨c,d,hl,hf⟩:=h.cars k ω;have e:Ve o.B0 k=IF X.lan.lit k:=by unfold Ve IF;rw[hf.lu,hf.ld,hl.1,hl.2.1]
  rw[h.acc hw k ω,e,h.hX];exact Apn b u.D0 u.Y1 vs u.Y2 x.press g k (by rw[h.va.len];omega)
 have c1:=Akv (l:=o.B0) ω hapart;have c2:=Axz (l:=o.B0) ω λk hk=>by obtain⟨c,d,_,hf⟩:=h.cars k ω;rw[hf.phase];exact hf.coils
 have c3:=Aku (l:=o.B0) ω λk hk=>by obtain⟨c,d,_,hf⟩:=h.cars k ω;rw[hf.phase];exact hf.cmd
 have c4:=Ax0 (p:=p.B0) (l:=o.B0) ω ω λk hk=>by rw[hB.ph k ω,hp.ph k ω];exact h.edge hw hm ω
 have c5:=Aod (l:=o.B0) ω λk j hk hj t1 t2=>by
  rw[hB.ph k ω]at t1;rw[hB.ph j ω]at t2;refine h1 k j ω ω ?_ ?_
  ·rcases t1 with q | q | q
   ·exact .inl q
   ·exact .inr (.inl q)
   ·exact .inr (.inr (.inl q))
  ·rcases t2 with q | q | q
   ·exact .inl q
   ·exact .inr (.inl q)
   ·exact .inr (.inr (.inl q))
 have ea:=h.acc hw b.B0.length (y_ _);rw[hoc,ea]at c1;have eo:(o.Y3,o.J3)=L m'.D0.A0 (0,0):=hB.lamps;have es:=h.served;have ep:=hp.lamps;generalize hP:L m.D0.A0 (0,0)=P at*;generalize hN:L m'.D0.A0 (0,0)=N at*;generalize hC:La X.lan.lit b.B0.length=C at*;have lu:o.Y3=N.1:=by rw[← eo]
 have ld:o.J3=N.2:=by rw[← eo]
 have pu:p.Y3=P.1:=by rw[← ep]
 have pd:p.J3=P.2:=by rw[← ep]
 have su:o.X2=(Az P N).1:=by rw[G.gone,← es]
 have sd:o.L2=(Az P N).2:=by rw[G.gone,← es]
 have z6:isZ (Az (Az P N) P)=A:=(Kx (Ha _ _)).2 λf hf d _=>by rw[Bo _ _ hf,Bo _ _ hf];cases B P f d<;>cases B N f d<;>rfl
 have z8:isZ (Az (Az P N) C)=A:=(Kx (Ha _ _)).2 λf hf d _=>by rw[G.lit,Bo _ _ hf,Jq];cases B P f d<;>cases B C f d<;>rfl
 have z10:isZ (Az (Az P N) (Az P N))=A:=by rw[Ad7];rfl
 have z14:isZ (Ct P (Ct N (Az P N)))=A:=(Kx (Wa _ _)).2 λf hf d _=>by rw[Jq,Jq,Bo _ _ hf];cases B P f d<;>cases B N f d<;>rfl
 unfold IV;simp only[hpl,hoc,f_ (Q_ (b.B0.length:Int)),c_,j_,S_,a7_ (ω:o.B0.length≤b.B0.length),P_,lu,ld,pu,pd,su,sd];refine U σ (I c1 (I (GB P N) (E rfl (I c2 (E rfl (I c3 (E rfl (I c4 (E rfl ?_)))))))));refine I (GB (Az P N) P) (I (Tr _) (E (by rw[z6];rfl) (I (GB (Az P N) C) (I (Tr _) (E (by rw[z8];rfl) ?_)))));refine I (GB (Az P N) (Az P N)) (I (Tr _) (E (by rw[z10];rfl) (I (FV N (Az P N)) (I (FV P (Ct N (Az P N))) (I (Tr _) (E (by rw[z14];rfl) ?_))))));refine aD (Q:=λy=>y=(((),D,()),((N.1,N.2,(Az P N).1,(Az P N).2,o.V5,o.L0,o.H5,o.B0,()),()))) (aC (λq=>?_) λ_=>S rfl) λy16 h16=>?_
 ·have hg:g=D:=by
   rw[h.bad]at q;simpa using q
  have e:N=P:=(hbad hg).1;rw[e,Ad7];exact E σ (I (Tr (0,0)) (S rfl))
 ·subst h16;obtain⟨_,e17,n,rfl,hn⟩:=c5;exact E rfl (I e17 (E (f_ (ω:¬(1:Int)<n)) (S rfl)))
theorem Arp:JV m'.D0.G0 m'.D0.O0 m'.D0.J0 m'.D0.A0=some ((A,()),()):=by
 have him:=h.pm.jst.img;have hes:=Dg hw.small him;have hcc:=Aj hw.code;have q:KU (((),m'.D0.A0,(m'.D0.A0.length:Int),(0:Int),()),(m'.D0.tup,()))=some (.inl ((),())):=Ht (N:=m'.D0.A0.length) ω (λi=>(((),m'.D0.A0,(m'.D0.A0.length:Int),(i:Int),()),(m'.D0.tup,()))) (λi hi=>by
  have hw':=KG (ω:m'.D0.A0.length≤100000) hi;have he:=BN (Entry.mk 0 0 0 0 D) hi;have hok:=(CH.1 (him.en _ he));show Im m'.D0.A0 (m'.D0.A0.length:Int) (i:Int) m'.D0.G0 m'.D0.O0 m'.D0.J0 m'.D0.A0=_;unfold Im;rw[Qq hi,Ju hi];simp only[d_,j_];generalize m'.D0.A0.getD i (Entry.mk 0 0 0 0 D)=e at he hok;by_cases e1:e.R0=-1
  ·rw[e1,hw'];rfl
  by_cases e2:e.R0=-2
  ·rw[e2,hw'];rfl
  rw[An e1,An e2];obtain⟨j,hj,hjn,hfl,hsv⟩:=h.ent hw he ω;have hs:=VT him hjn;have i1:inB (j:Int) m'.D0.O0.length=A:=Ac ω (by rw[him.lf];omega);have hfl:m'.D0.O0.getD j D=D:=hfl;rw[hsv]at hs;rw[hj];refine Ae hs ?_;simp only[q_,c_,i1,d_,j_,hfl,hw'];rfl) (by
  show Im m'.D0.A0 (m'.D0.A0.length:Int) (m'.D0.A0.length:Int) m'.D0.G0 m'.D0.O0 m'.D0.J0 m'.D0.A0=_;unfold Im;rw[Np];rfl)
 unfold JV;exact Ae q rfl
end
def Alw(n:Nat):aB:=Outputs.mk 0 0 0 0 D D 0 (aG n Au)
def Axy(hc:b.B0.length≤1000):Lp b.C0 b.F0 b.H0 b.M0 b.K0 b.L0 b.N0 b.B0=some (((),()),(J (Alw b.B0.length),())):=by unfold Lp;simp only[b_ (ω:(0:Int)≤(b.B0.length:Int)),b_ (e1_ (b.B0.length:Int)),b_ (ω:(b.B0.length:Int)≤2147483648),a6_,d_,j_];rfl
def Xh{α:Type}(a d:α)(n k:Nat):(aG n a).getD k d=a∨(aG n a).getD k d=d:=by
 rw[k_,List.getElem?_replicate];split
 ·exact .inl rfl
 ·exact .inr rfl
section
variable{b:O}(hw:BW b)
include hw
theorem Azp:One b (JA b).1.D0:=by intro c d _ _ h;rw[(TN hw).2.1]at h;have e1:H (FG b) c=0:=(Xh (0:Int) 0 b.B0.length c).elim id id;have e2:lvA (FG b) c=D:=(Xh D D b.B0.length c).elim id id;unfold Hu at h;rw[e1,e2]at h;simp at h
theorem Ax3:Bef b (JA b).1 (Alw b.B0.length):=by
 rw[show(JA b).1=(JA b).1 from rfl];refine⟨T_ ..,λi hi=>?_,?_⟩
 ·rw[(TN hw).2.1];have e1:H (FG b) i=0:=(Xh (0:Int) 0 b.B0.length i).elim id id;rw[e1];have e2:(Alw b.B0.length).B0.getD i Au=Au:=(Xh Au Au b.B0.length i).elim id id;rw[e2];rfl
 ·rw[(TN hw).2.1];rfl
theorem ReadX.press(hx:ReadX b s x g):(g=A→GG b x.press=A)∧(g=D→x.press=(0,0)):=by
 refine⟨λhg=>?_,λhg=>?_⟩
 ·rcases hx.1 with⟨_,h⟩ | ⟨h,_⟩
  ·exact h.press
  ·have e:=hx.2.1;rw[hg,An h]at e;cases e
 ·rcases hx.1 with⟨h,_⟩ | ⟨_,h⟩
  ·have e:=hx.2.1;rw[hg,h]at e;cases e
  ·rw[h];rfl
end
section
variable{b:O}(hw:BW b){m:Mch}{x:Inp}{g:Bool}{m':Mch}{o:aB}{l1 l2:List V}{u:Mch}{vs:List View}{X:Rnd}(h:TickF b m x g m' o l1 l2 u vs X)
include hw h
theorem TickF.iso(hm:PM b m){c:Nat}(hc:c<b.B0.length)(h2:H m'.D0 c=2)(hn:H m.D0 c≠2):g=A∧(H m.D0 c=1→(m'.E1.getD c Du).W0=A)∧(H m.D0 c≠1→(x.cars.getD c Ed).Y0=A∧(x.cars.getD c Ed).B1=2)∧(H m.D0 c≠3→∀e∈m.D0.A0,e.R0≠(c:Int)):=by
 have e1:H m'.D0 c=H u.D0 c:=by unfold H;rw[(h.rest hw).1]
 have e0:H (Ai m.D0 l1) c=H m.D0 c:=by unfold H;rw[(Aj5 m.D0 h.fl).1]
 rw[e1,h.iu]at h2;cases hg:g with
 |false=>
  rcases h.op with⟨_,rfl⟩ | ⟨q,_⟩
  ·exact absurd (e0.symm.trans h2) hn
  ·rw[hg]at q;cases q
 |true=>
  obtain⟨i,cm,fr,hi,rfl,_,hxi,hcm,hcal⟩:=h.free hg;have hf1:=Alx (λr hr=>Ahj (h.fl r hr)) hm.jst.img.fits;have cal:=hcal c hc;have wd:∀{p:Int},p=1∨p=3∨p=4→(Do p=A→p=1)∧(Vw p=A→p≠1):=λ{p} hp=>by rcases hp with rfl | rfl | rfl<;>decide
  have fin:H m.D0 c=1∨H m.D0 c=3∨H m.D0 c=4→cm.getD c D=A→(H m.D0 c=1→(m'.E1.getD c Du).W0=A)∧(H m.D0 c≠1→(x.cars.getD c Ed).Y0=A∧(x.cars.getD c Ed).B1=2):=λhp hq=>by
   obtain⟨w1,w2⟩:=wd hp;rcases cal hq with⟨q1,q2⟩ | ⟨q1,q2⟩
   ·exact⟨λ_=>q2,λq=>absurd (w1 q1) q⟩
   ·exact⟨λq=>absurd q (w2 q1),λ_=>q2⟩
  refine⟨rfl,?_⟩;rcases Xc (Xa (Ai m.D0 l1) x.kind hi cm fr) hf1 hc with⟨e,_⟩ | ⟨r,hr,⟨hk,hrc⟩,e⟩
  ·exact absurd (e0.symm.trans (e.symm.trans h2)) hn
  ·rw[e]at h2;rcases Am7 hf1 hi hcm hc hr hrc with⟨hO,rfl,_⟩ | ⟨hcc,_,hp,hb,_⟩
   ·rcases(VJ hO).2.2 with⟨_,_,q⟩ | q | ⟨q,_⟩
    ·obtain⟨q1,q2⟩:=q h2;rw[e0]at q1;obtain⟨f1,f2⟩:=fin (.inr (.inl q1)) q2;exact⟨f1,f2,λq=>absurd q1 q⟩
    ·omega
    ·omega
   ·rw[e0]at hp;obtain⟨f1,f2⟩:=fin ω hcc;refine⟨f1,f2,λ_ e he hec=>?_⟩;have k1:K3 l1:=λr hr=>by obtain⟨i,_,rfl⟩:=h.fl r hr;exact .inr (.inl rfl)
    unfold Nj at hb;rw[LH _ k1]at hb
    have:=List.any_eq_false.1 hb e he
    rw[hec]at this;simp at this
end
def TI(a c:CarInput):Prop:=a.Y0=c.Y0∧a.B1=c.B1
def Bm1(a b c d e f:Bool)(r:ByteArray):(flL ((byN (Ue [a,b,c,d,e,f]++r) 0:Nat):Int)).getD (Int.toNat (4:Int)) D=e:=by
 have h:∀n:Int,0≤n∧n<64→(flL n).getD (Int.toNat (4:Int)) D=e→(flL ((byN (nmB n 1++r) 0:Nat):Int)).getD (Int.toNat (4:Int)) D=e:=λn h1 h2=>by rw[LJ (n:=n) ω r];exact h2
 refine h _ ?_ ?_
 ·cases a<;>cases b<;>cases c<;>cases d<;>cases e<;>cases f<;>decide
 ·cases a<;>cases b<;>cases c<;>cases d<;>cases e<;>cases f<;>decide+kernel
def Bhd(hb:b.small){c:CarInput}(h:Ec b c=A)(l:List CarInput):TI (Afg (HN (c::l))) c:=by have hi:=hb.hi;unfold Ec at h;simp only[e_]at h;obtain⟨_,_,h3,h4⟩:=h;have h3:=Ao.1 h3;have h4:=Ao.1 h4;have u:∀n:Int,0≤n∧n<256→aA.wrap n=n:=λn h=>CN h.1 ω;have t1:=λr=>CJ (AB (aE aA c.V0) 4) r;have t2:=λr=>CJ (Nh [c.T1,c.F1,c.G1,c.W0,c.Y0,c.Q1]) r;have t3:=λr=>CJ (AB (aE aA c.M1) 1) r;rw[UM];unfold TI Afg;rw[t1,t2,t3];refine⟨Bm1 ..,?_⟩;show((byN (nmB (aE aA c.B1) 1++_) 0:Nat):Int)=_;rw[u c.B1 ω,LJ ω]
def Ak6{b:O}(hb:b.small):∀(l:List CarInput),(∀c∈l,Ec b c=A)→∀j,j<l.length→TI ((Ok l.length (HN l)).getD j Ed) (l.getD j Ed)
 |[],_,_,hj=>absurd hj (d5_ _)
 |c::l,h,0,_=>Bhd hb (h c (p_ ..)) l
 |c::l,h,j+1,hj=>by show TI ((Ok l.length (rest (HN (c::l)))).getD j Ed) (l.getD j Ed);rw[(Ae2 hb (h c (p_ ..)) l).2];exact Ak6 hb l (λa ha=>h a (r_ _ ha)) j (by rw[B_]at hj;omega)
def Bdo(hb:b.small)(hcode:b.code=0)(hs:Fr b s)(hx:ReadX b s x g):∃z:Inp,Ke b.C0 b.F0 b.H0 b.M0 b.K0 b.L0 b.N0 b.B0 s=some (((),BX b s,()),(z.tup,()))∧(g=A→z.cars.length=b.B0.length∧∀j,j<b.B0.length→TI (x.cars.getD j Ed) (z.cars.getD j Ed)):=by
 have hc:=Aj hcode;obtain⟨x0,⟨hm,hu⟩,hf⟩:=hs;have hm':=hm;unfold HI at hm';simp only[e_,U_]at hm';obtain⟨_,_,_,_,h5,h6⟩:=hm';have hxl:x0.cars.length=b.B0.length:=ω;have hz:s.size≤1000000:=by rw[hf.1,WN];omega
 have hr:=Ajk hb hcode s hz;by_cases ho:BX b s=0
 ·have e:=Fr.good hf ho;subst e;rw[Aub hb hcode hm hu ho]at hr;obtain⟨hd,_⟩:=Au8 hb hcode hm;have h:=RM hb hcode hz ho (by rw[ZB];exact hd);rw[ZB,hx.2.2]at h;have hx':x=hdP b.B0.length (PJ x0):=by
   apply Inp.ext'
   have:=F_ h
   exact(Prod.mk.inj (Prod.mk.inj this).2).1
  rw[ho];refine⟨_,hr,λ_=>⟨by rw[← hxl];exact b2_ ..,λj hj=>?_⟩⟩;have hfb:=Ak6 hb x0.cars (λc hc=>I_.1 h6 c hc) j ω;rw[hxl]at hfb;have ec:x.cars=Ok b.B0.length (HN x0.cars):=by have t1:=λr=>CJ (AB (aE aA x0.press.1) 4) r;have t2:=λr=>CJ (AB (aE aA x0.press.2) 4) r;have t3:=λr=>CJ (AB (aE aA x0.kind) 1) r;have t4:=λr=>CJ (AB (aE aA x0.car) 1) r;rw[hx'];unfold hdP PJ;show Ok _ _=_;rw[t1,t2,t3,t4]
  rw[ec];have em:(x0.cars.map rdC).getD j Ed=rdC (x0.cars.getD j Ed):=by rw[k_,k_,b5_,i_ ω];rfl
  show TI _ ((x0.cars.map rdC).getD j Ed);rw[em];exact hfb
 ·have e:Xe b s=(Inp.none,BX b s):=by
   unfold Xe;rw[JR ho];rfl
  rw[e]at hr;refine⟨Inp.none,hr,λhg=>?_⟩
  have:=hx.2.1
  rw[hg,An ho]at this;cases this
def Bd9:KR=some ((A,()),()):=by decide+kernel
section
variable{b:O}{m t:Mch}{p o:aB}{z:Inp}(f:List ByteArray)(i:Int){c:Nat}
theorem Atw(hpl:c<p.B0.length)(hme:m.D0.A0.length≤100000)(hc:∀e∈m.D0.A0,e.R0=(c:Int)→(p.B0.getD c Au).N1=3):Sat (Gt (((),(),f,(),i,(),(),(),(c:Int),(0:Int),()),(b.tup,m.tup,J p,z.tup,t.tup,J o,()))) λy=>y=.inl (((),(),f,(),i,(),(),(),(c:Int),()),(b.tup,m.tup,J p,z.tup,t.tup,J o,())):=by
 unfold Gt;refine Sat.loop (λ(k:Nat) y=>∃j:Nat,y=(((),(),f,(),i,(),(),(),(c:Int),(j:Int),()),(b.tup,m.tup,J p,z.tup,t.tup,J o,()))∧j+k=m.D0.A0.length) (λk y hy=>?_) m.D0.A0.length ⟨0,rfl,o_ _⟩ ω;obtain⟨j,rfl,hk⟩:=hy;show Sat (Oz f i (c:Int) (j:Int) b.C0 b.F0 b.H0 b.M0 b.K0 b.L0 b.N0 b.B0 m.D0.G0 m.D0.O0 m.D0.J0 m.D0.A0 m.D1.h0 m.D1.h1 m.D1.sel m.E1 m.U0 m.B0 m.V2 m.Y1 m.Y2 m.Z3 m.Z2 m.M2 p.Y3 p.J3 p.X2 p.L2 p.V5 p.L0 p.H5 p.B0 z.press.1 z.press.2 z.kind z.car z.cars t.D0.G0 t.D0.O0 t.D0.J0 t.D0.A0 t.D1.h0 t.D1.h1 t.D1.sel t.E1 t.U0 t.B0 t.V2 t.Y1 t.Y2 t.Z3 t.Z2 t.M2 o.Y3 o.J3 o.X2 o.L2 o.V5 o.L0 o.H5 o.B0) _;unfold Oz;refine aC (λq=>?_) λq=>S rfl;have q:(j:Int)<(m.D0.A0.length:Int):=m_ q;have hwr:=CK (n:=j) ω;have hmem:=BN noE (ω:j<m.D0.A0.length);refine aD (Q:=λy=>y=(((),(),f,(),i,(),(),(),(c:Int),(j:Int),D,()),(b.tup,m.tup,J p,z.tup,t.tup,J o,()))) (U (Ac ω q) (aC (λe=>U (Ac ω ω) (S ?_)) λ_=>S rfl)) λy hy=>?_
 ·have e:(m.D0.A0.getD j noE).R0=(c:Int):=eq_of_beq e;have h3:=hc _ hmem e;show(((),(),f,(),i,(),(),(),(c:Int),(j:Int),((p.B0.getD c Au).N1 !=3),()),_)=_;rw[h3];rfl
 subst hy;exact E rfl (S ⟨k-1,ω,j+1,by first | (rw[← hwr];rfl) | rw[← hwr],ω⟩)
end
section
variable{b:O}(hw:BW b)
include hw
theorem Atv{m:Mch}(hm:PM b m){m':Mch}{o:aB}{l1 l2:List V}{u:Mch}{vs:List View}{X:Rnd}(h:TickF b m x g m' o l1 l2 u vs X)(hp:Bef b m p)(f:List ByteArray)(i:Int){z:Inp}(hz:g=A→z.cars.length=b.B0.length∧∀j,j<b.B0.length→TI (x.cars.getD j Ed) (z.cars.getD j Ed)):
  Sat (Gs (((),(),f,(),i,(),(),(),(0:Int),()),(b.tup,m.tup,J p,z.tup,m'.tup,J o,()))) λy=>y=.inl (((),(),f,(),i,(),(),()),(b.tup,m.tup,J p,m'.tup,J o,())):=by
 have hcc:=Aj hw.code;have he:=Dg hw.small hm.jst.img;have hB:=h.bef hw;have hpl:=hp.len;have hol:=hB.len;unfold Gs;refine Sat.loop (λ(k:Nat) y=>∃c:Nat,y=(((),(),f,(),i,(),(),(),(c:Int),()),(b.tup,m.tup,J p,z.tup,m'.tup,J o,()))∧c+k=b.B0.length) (λk y hy=>?_) b.B0.length ⟨0,rfl,o_ _⟩ ω;obtain⟨c,rfl,hk⟩:=hy;show Sat (Oy f i (c:Int) b.C0 b.F0 b.H0 b.M0 b.K0 b.L0 b.N0 b.B0 m.D0.G0 m.D0.O0 m.D0.J0 m.D0.A0 m.D1.h0 m.D1.h1 m.D1.sel m.E1 m.U0 m.B0 m.V2 m.Y1 m.Y2 m.Z3 m.Z2 m.M2 p.Y3 p.J3 p.X2 p.L2 p.V5 p.L0 p.H5 p.B0 z.press.1 z.press.2 z.kind z.car z.cars m'.D0.G0 m'.D0.O0 m'.D0.J0 m'.D0.A0 m'.D1.h0 m'.D1.h1 m'.D1.sel m'.E1 m'.U0 m'.B0 m'.V2 m'.Y1 m'.Y2 m'.Z3 m'.Z2 m'.M2 o.Y3 o.J3 o.X2 o.L2 o.V5 o.L0 o.H5 o.B0) _;unfold Oy;refine aC (λq=>?_) λq=>S rfl;have q:(c:Int)<(b.B0.length:Int):=m_ q;have hc:c<b.B0.length:=ω;have hwr:=CK (n:=c) ω;have ip:inB (c:Int) p.B0.length=A:=Ac ω ω;have it:inB (c:Int) m'.E1.length=A:=Ac ω (by rw[h.pm.con];omega);have po:(o.B0.getD c Au).N1=H m'.D0 c:=hB.ph c hc;have pp:(p.B0.getD c Au).N1=H m.D0 c:=hp.ph c hc;have next:∃k',k=k'+1∧∃c':Nat,((((),(),f,(),i,(),(),(),IntKind.i64.wrap ((c:Int)+1),()),(b.tup,m.tup,J p,z.tup,m'.tup,J o,())):(Unit×Unit×List ByteArray×Unit×Int×Unit×Unit×Unit×Int×Unit)×_)=(((),(),f,(),i,(),(),(),(c':Int),()),(b.tup,m.tup,J p,z.tup,m'.tup,J o,()))∧c'+k'=b.B0.length:=⟨k-1,ω,c+1,by rw[← hwr],ω⟩
 refine U (Ac ω ω) (aC (λ_=>S next) λq1=>U ip (aC (λ_=>S next) λq2=>?_));have q1:H m'.D0 c=2:=by have q1:((o.B0.getD c Au).N1 !=2)=D:=q1;rw[po]at q1;simpa using q1
 have q2:H m.D0 c≠2:=λe=>by have q2:((p.B0.getD c Au).N1==2)=D:=q2;rw[pp,e]at q2;cases q2
 obtain⟨hg,f1,f2,f3⟩:=h.iso hw hm hc q1 q2;obtain⟨zl,zf⟩:=hz hg;obtain⟨s1,s2⟩:=zf c hc;have iz:inB (c:Int) z.cars.length=A:=Ac ω ω;refine E (by rw[zl];exact P_ _) ?_;refine aD (Q:=λy=>y=(((),(),f,(),i,(),(),(),(c:Int),D,()),(b.tup,m.tup,J p,z.tup,m'.tup,J o,()))) ?_ λy hy=>?_
 ·have rest:H m.D0 c≠1→(z.cars.getD c Ed).B1=2∧(z.cars.getD c Ed).Y0=A:=λhne=>by
   obtain⟨a1,a2⟩:=f2 hne;exact⟨s2▸a2,s1▸a1⟩
  refine U ip (aC (λe=>U it (E ?_ (U ip (E ?_ (S rfl))))) λe=>U ip (U ?_ (U iz (E ?_ (U iz (S ?_))))))
  ·have e:((p.B0.getD c Au).N1==1)=A:=e;rw[pp]at e;show(!(m'.E1.getD c Du).W0)=D;rw[f1 (eq_of_beq e)];rfl
  ·have e:((p.B0.getD c Au).N1==1)=A:=e;show((p.B0.getD c Au).N1 !=1)=D;simpa using e
  ·have e:((p.B0.getD c Au).N1==1)=D:=e;show((p.B0.getD c Au).N1 !=1)=A;simpa using e
  ·have e:((p.B0.getD c Au).N1==1)=D:=e;rw[pp]at e;show((z.cars.getD c Ed).B1 !=2)=D;rw[(rest (by simpa using e)).1];rfl
  ·have e:((p.B0.getD c Au).N1==1)=D:=e;rw[pp]at e;show(((),(),f,(),i,(),(),(),(c:Int),(!(z.cars.getD c Ed).Y0),()),_)=_;rw[(rest (by simpa using e)).2];rfl
 subst hy;refine E rfl (aD (Atw f i (ω:c<p.B0.length) ω λe hem hec=>?_) λy2 h2=>?_)
 ·rw[pp];by_cases e3:H m.D0 c=3
  ·exact e3
  ·exact absurd hec (f3 e3 e hem)
 ·subst h2;exact S next
theorem Azf{f:List ByteArray}(hf:∀s∈f,Fr b s)(hfl:f.length≤120){m:Mch}(hm:PM b m)(h1:One b m.D0)(hp:Bef b m p):Sat (Gr (((),(),f,(),(0:Int),()),(b.tup,m.tup,J p,()))) λy=>y=.inl ((),()):=by
 unfold Gr;refine Sat.loop (λ(k:Nat) z=>∃(i:Nat) (m:Mch) (p:aB),z=(((),(),f,(),(i:Int),()),(b.tup,m.tup,J p,()))∧i+k=f.length∧PM b m∧One b m.D0∧Bef b m p) (λk z hz=>?_) f.length ⟨0,m,p,rfl,o_ _,hm,h1,hp⟩ ω;obtain⟨i,m,p,rfl,hk,hm,h1,hp⟩:=hz;show Sat (Ox f (i:Int) b.C0 b.F0 b.H0 b.M0 b.K0 b.L0 b.N0 b.B0 m.D0.G0 m.D0.O0 m.D0.J0 m.D0.A0 m.D1.h0 m.D1.h1 m.D1.sel m.E1 m.U0 m.B0 m.V2 m.Y1 m.Y2 m.Z3 m.Z2 m.M2 p.Y3 p.J3 p.X2 p.L2 p.V5 p.L0 p.H5 p.B0) _;unfold Ox;refine aC (λq=>?_) λq=>S rfl;have q:(i:Int)<(f.length:Int):=m_ q;have hwr:=CK (n:=i) ω;have hfr:=hf _ (BN noB (ω:i<f.length));have ii:inB (i:Int) f.length=A:=Ac ω q;obtain⟨m',o,ht,hm',x,g,l1,l2,u,vs,X,hx,hF⟩:=Bg4 hw hm hfr;obtain⟨z,hr,hz⟩:=Bdo hw.small hw.code hfr hx;have h1':=hF.one hw hm h1;have hB:=hF.bef hw;have bn:∀{n:Nat},n=b.B0.length→((n:Int) !=(b.B0.length:Int))=D:=λh=>by rw[h];exact P_ _
 refine U ii (I hr (Sat.bindR (U ii (I ht (E rfl (E (bn hp.len) (E (bn hB.len) (aD (Bg9 hw hF hm h1' (hx.press hw) hp) λy4 h4=>?_))))))));subst h4;refine E rfl (I (Arp hw hF) (E rfl (E (bn hm'.con) (aD (Atv hw hm hF hp f (i:Int) hz) λy6 h6=>?_))));subst h6;exact S ⟨k-1,ω,i+1,m',o,by first | (rw[← hwr];rfl) | rw[← hwr],ω,hm',h1',hB⟩
end
def Amh(n_f0:Int)(n_f1:Int)(n_f2:Int)(l:List Int)(h_n_f0:0≤n_f0∧n_f0<256)(h_n_f1:0≤n_f1∧n_f1<256)(h_n_f2:0≤n_f2∧n_f2<256)(h_l:l.length≤maxLen∧∀e∈l,(0≤e∧e<256)):F_top_TopLocks n_f0 n_f1 n_f2 l=some ((A,()),()):=by
 have hS:Sat (F_top_TopLocks n_f0 n_f1 n_f2 l) λy=>y=((A,()),()):=by unfold F_top_TopLocks;obtain⟨b,hbl,hw,hm⟩:=Bpr h_n_f0 h_n_f1 h_n_f2;have hcc:=Aj hw.code;have hst:=Aca hw.small hw.code;refine I hbl (Sat.bindR (I hst (E (by show((JA b).2 !=0)=D;rw[(TN hw).2.2];rfl) ?_)));refine aD (Bap hw.small hw.code (l:=l) (λe he=>h_l.2 e he) h_l.1 (most:=120) ω) λy4 h4=>?_;obtain⟨⟨f,u1⟩,u2⟩:=y4;obtain⟨hf1,hf2⟩:=h4;refine I (Axy ω) (aD (Azf hw hf2 hf1 hm (Azp hw) (Ax3 hw)) λy5 h5=>?_);subst h5;exact I Bd9 (S rfl)
 obtain⟨y,h1,h2⟩:=hS;rw[h1,h2]
end Go.Ovl
