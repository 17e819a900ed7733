import Derived.Test.YtgjkjlidboolgaaGreatDoorOvB
import Derived.Test.YtgjkjlidboolgaaGreatDoorOvA
import Derived.Test.YtgjkjlidboolgaaGreatDoorDefs4
set_option linter.all false
set_option maxRecDepth 100000
open Bool renaming true->A,false->B,or_eq_false_iff->aY
open Go.Ovl.Sat renaming ret->C,bifT->H,bindE->J,bindS->N,bic->U,bifF->aC,loop->aL
open Go.Ab renaming inB->aE
open Go.Ovl renaming Bldg->S,Record->W,phA->Z,Sat->aA,Img->aB,Entry->aD,View->aF,CarOutput->aG,Calls->aN,Debounced->aV
open Option renaming some->V
open Int renaming toNat->aH,fdiv->aS
open Go.IntKind renaming wrap->aI,i64->aJ,u64->aK,u32->aR,u8->aW
open List renaming replicate->aM,getElem_of_mem->aZ,mem_append_left->bA
open Min renaming min->aO
open Go.Ovl.Relay renaming mk->aP
open Go.Ovl.Calls renaming mk->aQ
open Go.Ovl.View renaming mk->aT
open Go.Ovl.CarOutput renaming mk->aU
open Go.Ovl.machine_ticker renaming mk->aX
namespace Go.Ovl
open Go Go.Ab
variable{b:S}{e:aD}{m:aB}{l:List W}{vs:List aF}{xs:List Int}{r:W}{X:Rnd}{s:Sto}
def Zs{F D:Int}{e:aD}(he:isC F D e=A)(T:List aD):∀(P:List aD) (i:Nat),(∀p∈P,isC F D p=B)->Et F D (P++e::T) i=((i+P.length:Nat):Int)
 |[],i,_=>by simp only[a4_,Et,he,d_,d5_,c2_]
 |p::P,i,h=>by simp only[List.cons_append,Et,h p (p_ ..),c_];rw[Zs he T P (i+1) λx hx=>h x (r_ _ hx),E_];congr 1;omega
def Awu{P T:List aD}(h:Bk (P++e::T)):∀p∈P,isC e.D0 e.H0 p=B:=by intro p hp;rw[Ff]at h;have h2:=(f7_.1 h).2.2 p hp e (p_ ..);rw[IF]at h2;unfold isC;simp only[Bool.and_eq_false_iff,beq_eq_false_iff_ne];omega
def An7(P T:List aD)(e:aD):(P++e::T).getD P.length noE=e:=by simp[k_]
def Xj(e:aD):isC e.D0 e.H0 e=A:=by unfold isC;simp
def Aqd{P T:List aD}(hE:m.A0=P++e::T)(hs:∀p∈P,isC e.D0 e.H0 p=B)(n c:Int):Ak m ⟨7,e.D0,e.H0,c,n⟩=m.put (P++UQ e n c::T):=by
 unfold Ak;have hf:Et e.D0 e.H0 m.A0 0=(P.length:Int):=by rw[hE,Zs (Xj e) T P 0 hs,o_]
 simp only[hf];rw[Ao (ω:¬(P.length:Int)=-1),hE,j_,An7,TP,TP];rfl
def Aix{P T:List aD}(hE:m.A0=P++e::T)(hs:∀p∈P,isC e.D0 e.H0 p=B)(c:Int):Ak m ⟨3,e.D0,e.H0,c,0⟩=m.put (P++Agh e c::T):=by
 unfold Ak;have hf:Et e.D0 e.H0 m.A0 0=(P.length:Int):=by rw[hE,Zs (Xj e) T P 0 hs,o_]
 simp only[hf];rw[Ao (ω:¬(P.length:Int)=-1),hE,j_,An7,TP,TP];rfl
def Img.put_put(m:aB)(l l':List aD):(m.put l).put l'=m.put l':=rfl
def Img.put_self(m:aB):m.put m.A0=m:=rfl
def Ats{P T:List aD}{n:aD}(hE:m.A0=P++e::T)(hs:∀p∈P,isC e.D0 e.H0 p=B)(hF:n.D0=e.D0)(hD:n.H0=e.H0):Aj m (Ot e n)=m.put (P++n::T):=by
 obtain⟨nF,nD,nC,nM,nV⟩:=n;obtain⟨eF,eD,eC,eM,eV⟩:=e;simp only at hF hD;subst hF hD;unfold Ot;simp only;have mv:∀c:Int,UQ ⟨nF,nD,eC,eM,eV⟩ nM c=⟨nF,nD,eC,nM,c==1⟩:=λ_=>rfl;have cv:((bif nV then(1:Int)else 0)==1)=nV:=by cases nV<;>rfl
 cases hp:(eM !=nM||!(eV==nV))with
 |true=>
  have h1:=Aqd hE hs nM (bif nV then 1 else 0);rw[mv,cv]at h1;cases hq:eC !=nC with
  |true=>have h2:=Aix (m:=m.put (P++⟨nF,nD,eC,nM,nV⟩::T)) (P:=P) (T:=T) (e:=⟨nF,nD,eC,nM,nV⟩) rfl hs nC;simp only[d_,List.cons_append,a4_,Aj];rw[h1,h2];rfl
  |false=>
   have:eC=nC:=by simpa[bne]using hq
   subst this;simp only[d_,c_,Y_,Aj];exact h1
 |false=>
  simp only[aY,g2_,bne_eq_false_iff_eq,R_]at hp;obtain⟨rfl,rfl⟩:=hp;cases hq:eC !=nC with
  |true=>have h2:=Aix hE hs nC;simp only[d_,c_,a4_,Aj];exact h2
  |false=>
   have:eC=nC:=by simpa[bne]using hq
   subst this;simp only[c_,Y_,Aj];rw[<-hE];exact(Img.put_self m).symm
def Awa{n:aD}(hcode:b.code=0)(hcall:Ar b n.D0 n.H0=A)(hc:-2<=n.R0/\n.R0<(b.B0.length:Int))(hm:0<=n.D1/\n.D1<=255):∀r∈Ot e n,Ay b r=A:=by
 intro r hr;unfold Ot at hr;rcases n_.1 hr with h|h
 .cases hp:(e.D1 !=n.D1||!(e.D2==n.D2))with
  |false=>rw[hp]at h;cases h
  |true=>rw[hp]at h;rw[B_.1 h];unfold Ay;rw[hcode,hcall,An.2 hm];cases n.D2<;>rfl
 .cases hp:e.R0 !=n.R0 with
  |false=>rw[hp]at h;cases h
  |true=>rw[hp]at h;rw[B_.1 h];unfold Ay;rw[hcode,hcall,An.2 ⟨hc.1,show n.R0<=(b.B0.length:Int)-1 by omega⟩];rfl
noncomputable def PB(b:S)(vs:List aF):List aD->List Int->List aD
 |e::t,x::xs=>EZ b vs e x::PB b vs t xs
 |_,_=>[]
def Xs(b:S)(vs:List aF):∀(l:List aD) (xs:List Int),xs.length=l.length->(PB b vs l xs).length=l.length
 |[],_,_=>by simp[PB]
 |_::_,[],h=>by simp at h
 |e::t,x::xs,h=>by simp only[PB,E_,Xs b vs t xs (by simpa using h)]
def Ai6(b:S)(vs:List aF):∀(l:List aD) (xs:List Int) (i:Nat),xs.length=l.length->i<l.length->(PB b vs l xs).getD i noE=EZ b vs (l.getD i noE) (xs.getD i 0)
 |[],_,_,_,h=>by simp at h
 |_::_,[],_,h,_=>by simp at h
 |e::t,x::xs,0,_,_=>rfl
 |e::t,x::xs,i+1,h,h'=>by
  have:=Ai6 b vs t xs i (by simpa using h) (by simpa using h')
  simpa[PB]using this
def Aup(hc:b.B0.length<=100)(hm:0<=e.D1/\e.D1<=255)(x:Int):0<=(EZ b vs e x).D1/\(EZ b vs e x).D1<=255:=by
 unfold EZ;cases e.R0==-2 with
 |true=>exact hm
 |false=>
  cases e.R0==-1 with
  |true=>exact hm
  |false=>
   cases(Aq vs e.R0).C4 with
   |true=>
    by_cases g:(b.B0.length:Int)<e.D1
    .rw[b_ g];exact hm
    .rw[f_ g];exact⟨by show 0<=e.D1+1;omega,by show e.D1+1<=255;omega⟩
   |false=>
    by_cases g:e.D1<=(b.B0.length:Int)
    .rw[b_ g];cases e.D2 with
     |true=>exact hm
     |false=>
      cases Lo b vs e x != -1 with
      |true=>exact⟨by show 0<=e.D1+1;omega,by show e.D1+1<=255;omega⟩
      |false=>exact hm
    .rw[f_ g,c7_];exact hm
def Tz{b:S}(hc:b.B0.length<=100){vs:List aF}(hlen:(vs.length:Int)=(b.B0.length:Int)):∀(T:List aD) (xs:List Int) (P:List aD) (m:aB),xs.length=T.length->ImgOK b m->m.A0=P++T->Aj m (Hx b vs T xs)=m.put (P++PB b vs T xs)/\(∀r∈Hx b vs T xs,Ay b r=A)/\ImgOK b (m.put (P++PB b vs T xs))
 |[],xs,P,m,_,hm,hE=>by
  have:PB b vs [] xs=[]:=by simp[PB]
  have h2:Hx b vs [] xs=[]:=by simp[Hx]
  rw[this,h2,<-hE];exact⟨rfl,(λ_ h=>by cases h),hm⟩
 |_::_,[],_,_,h,_,_=>by simp at h
 |e::T,x::xs,P,m,h,hm,hE=>by
  have hent:=CZ.1 (hm.en e (by rw[hE];simp));have hso:=hm.so;rw[hE]at hso;have hs:=Awu hso;obtain⟨c1,c2⟩:=Bbe b vs e x;have hin:=Ar9 b (vs:=vs) (e:=e) ω x;have hmv:=Aup hc (vs:=vs) hent.2.2 x;have hval:=Awa (b:=b) (e:=e) (n:=EZ b vs e x) hm.code (by rw[c1,c2];exact hent.1) ω hmv;have hap:=Ats hE hs c1 c2;have hok:ImgOK b (m.put (P++EZ b vs e x::T)):=by rw[<-hap];exact(YV hm hval).1
  obtain⟨g1,g2,g3⟩:=Tz hc hlen T xs (P++[EZ b vs e x]) (m.put (P++EZ b vs e x::T)) (by simpa using h) hok (by simp[Img.put]);simp only[Hx,PB];have app:∀(rs qs:List W) (m:aB),Aj m (rs++qs)=Aj (Aj m rs) qs:=λrs=>by
   induction rs with
   |nil=>intro _ _;rfl
   |cons r rs ih=>intro qs m;exact ih qs (Ak m r)
  rw[app,hap,g1,Img.put_put];rw[Img.put_put]at g3;simp only[M_,e0_]at g3|-;exact⟨trivial,(λr hr=>by
   rcases n_.1 hr with hr|hr
   .exact hval r hr
   .exact g2 r hr),g3⟩
def Ab4{l:List aD}(hl:l.length<=100000):SU l=V (((),()),(((ofC l (0,0)).1,(ofC l (0,0)).2,()),())):=by
 have e2:∀(k i:Nat) (c:Int×Int),i+k=l.length->Cj (λx=>KY x.1.2.2.1 x.1.2.2.2.1 x.1.2.2.2.2.1 x.2.1.1 x.2.1.2.1 x.2.2.1.1 x.2.2.1.2.1) (k+1) (((),(),l,(l.length:Int),(i:Int),()),(((0:Int),(0:Int),()),(c.1,c.2,()),()))=V (((),(),()),(((0:Int),(0:Int),()),((ofC (l.drop i) c).1,(ofC (l.drop i) c).2,()),())):=by
  intro k;induction k with
  |zero=>intro i c hi;obtain rfl:i=l.length:=ω;refine AS ?_;show KY l (l.length:Int) (l.length:Int) 0 0 c.1 c.2=_;unfold KY;rw[f_ (U_ (l.length:Int)),b3_];rfl
  |succ k ih=>intro i c hi;have hi':i<l.length:=ω;rw[Cm noE hi'];refine(Cl (x':=(((),(),l,(l.length:Int),((i+1:Nat):Int),()),(((0:Int),(0:Int),()),((BD c (FP (l.getD i noE).D0 (l.getD i noE).H0)).1,(BD c (FP (l.getD i noE).D0 (l.getD i noE).H0)).2,()),()))) ?_).trans (ih (i+1) _ ω);show KY l (l.length:Int) (i:Int) 0 0 c.1 c.2=_;unfold KY;rw[show Entry.mk 0 0 0 0 B=noE from rfl];have hu:=EY c (FP (l.getD i noE).D0 (l.getD i noE).H0);simp only[b_ (ω:(i:Int)<(l.length:Int)),Ac (ω:(0:Int)<=(i:Int)) (ω:(i:Int)<(l.length:Int)),d_,j_,Je,a_,hu,Gx hi' (show l.length<=AX by unfold AX;omega)]
 have h:=e2 l.length 0 (0,0) ω;rw[V_]at h;have h':Qg (((),(),l,(l.length:Int),(0:Int),()),(((0:Int),(0:Int),()),((0:Int),(0:Int),()),()))=_:=Aw h ω;unfold SU;rw[h'];rfl
def Yg(e:aD):W:=Record.mk 1 e.D0 e.H0 0 0
def Cz(b:S)(e:aD)(X:Rnd):Rnd:=bif KG b X.img then RT (Yg e) X else⟨X.recs,X.img,X.xs,X.lan,BD X.ref (FP e.D0 e.H0)⟩
def EL(b:S):List aD->Rnd->Rnd
 |[],X=>X
 |e::t,X=>EL b t (Cz b e X)
def Bux(r:W)(X:Rnd):wrL [r] X=RT r X:=by rw[Yt];unfold wrL;rw[Y_];rfl
def ZZ(h:Ar b e.D0 e.H0=A):Ay b (Yg e)=A:=by
 have hc:(b.code==0)=A:=by unfold Ar at h;rw[e_]at h;exact h.1
 unfold Ay Yg;rw[hc];simp only[m_,d_,h,b2_]
def Aps(h:X.ok b)(he:Ar b e.D0 e.H0=A):(Cz b e X).ok b:=by
 unfold Cz;cases KG b X.img with
 |true=>exact Yo h (ZZ he)
 |false=>exact⟨h.img,h.len⟩
def As1{b:S}:∀{l:List aD}{X:Rnd},X.ok b->(∀e∈l,Ar b e.D0 e.H0=A)->(EL b l X).ok b
 |[],_,h,_=>h
 |e::t,X,h,hv=>by show(EL b t (Cz b e X)).ok b;exact As1 (Aps h (hv e (p_ ..))) λx hx=>hv x (r_ _ hx)
def Agm(b:S)(e:aD)(X:Rnd):(Cz b e X).recs.length<=X.recs.length+1:=by
 unfold Cz;cases KG b X.img with
 |true=>show(X.recs++[_]).length<=_;rw[g_,G_];exact y_ _
 |false=>exact Nat.le_succ _
def Aj6(b:S):∀(l:List aD) (X:Rnd),(EL b l X).recs.length<=X.recs.length+l.length
 |[],_=>y_ _
 |e::t,X=>by have h1:=Aj6 b t (Cz b e X);have h2:=Agm b e X;show(EL b t (Cz b e X)).recs.length<=_;rw[E_];omega
def Ajx(c:Int×Int):(FY c).length<=64:=by
 have h:∀k i:Nat,((List.range' i k).flatMap (Mv c)).length<=2*k:=by
  intro k;induction k with
  |zero=>intro i;exact y_ _
  |succ k ih=>
   intro i;rw[e2_,a1_,g_]
   have:=ih (i+1)
   have:=Ae3 c i
   omega
 exact h 32 0
def Ajz{c:Int×Int}(h:e∈FY c):(0<=e.D0/\e.D0<32)/\(e.H0=1\/e.H0=2)/\Am c e.D0.toNat e.H0=A:=by obtain⟨f,h1,h2,h3,h4⟩:=mem_range.1 (b6_.2 ⟨e,h,rfl⟩);simp only[Ce]at h2 h3 h4;refine⟨ω,h3,?_⟩;rw[h2,j_];exact h4
def Mw(b:S)(m:aB)(press:Int×Int):Int×Int:=Au (BR press (AW b)) (ofC m.A0 (0,0))
def XJ(hb:b.small)(hcode:b.code=0){press old:Int×Int}(h:e∈FY (Au (BR press (AW b)) old)):Ar b e.D0 e.H0=A:=by obtain⟨h1,h2,h3⟩:=Ajz h;rw[Bd _ _ ω,HI,e_,e_,PD hb hcode ω h2,f1_ h1.1]at h3;exact h3.1.2
section
variable{b:S}(hb:b.small)(hcode:b.code=0)
include hb hcode
theorem Ald{es:List aD}(hl:es.length<=1000)(hv:∀e∈es,Ar b e.D0 e.H0=A):∀(k i:Nat) (Y:Rnd),i+k=es.length->Y.ok b->Y.recs.length<=1000+i->Cj (λx=>letI d:=x.2.1.2.2.2;letI f:=d.2.2;letI a:=f.2.2.2;letI g:=a.2.2;letI c:=g.2.2.2;letI e:=c.2.2;BE x.1.2.1 x.1.2.2.1 x.1.2.2.2.1 x.2.1.1 x.2.1.2.1 x.2.1.2.2.1 d.1 d.2.1 f.1 f.2.1 f.2.2.1 a.1 a.2.1 g.1 g.2.1 g.2.2.1 c.1 c.2.1 e.1 e.2.1 e.2.2.1 e.2.2.2.1 e.2.2.2.2.1) (k+1) (((),es,(es.length:Int),(i:Int),()),(Y.tupB b,()))=V ((),((EL b (es.drop i) Y).tupB b,())):=by
 intro k;induction k with
 |zero=>intro i Y hi _ _;obtain rfl:i=es.length:=ω;refine AS ?_;show BE es (es.length:Int) (es.length:Int) Y.recs Y.img.G0 Y.img.O0 Y.img.K0 Y.img.A0 Y.xs Y.lan.lit Y.lan.gong Y.lan.cl.1 Y.lan.cl.2 Y.ref.1 Y.ref.2 b.C0 b.E0 b.I0 b.M0 b.J0 b.L0 b.N0 b.B0=_;unfold BE;rw[f_ (U_ (es.length:Int)),b3_];rfl
 |succ k ih=>
  intro i Y hi hY hr;have hi':i<es.length:=ω;have hv':=hv _ (AL noE hi');have hcc:=Ah hcode;have he:=DH hb hY.img;have hlp:=hY.img.lp;rw[Cm noE hi'];refine(Cl (x':=(((),es,(es.length:Int),((i+1:Nat):Int),()),((Cz b (es.getD i noE) Y).tupB b,()))) ?_).trans (ih (i+1) _ ω (Aps hY hv') (by have:=Agm b (es.getD i noE) Y;omega));show BE es (es.length:Int) (i:Int) Y.recs Y.img.G0 Y.img.O0 Y.img.K0 Y.img.A0 Y.xs Y.lan.lit Y.lan.gong Y.lan.cl.1 Y.lan.cl.2 Y.ref.1 Y.ref.2 b.C0 b.E0 b.I0 b.M0 b.J0 b.L0 b.N0 b.B0=_;unfold BE Cz;rw[show Entry.mk 0 0 0 0 B=noE from rfl,Acb hb Y.img ω ω ω];simp only[b_ (ω:(i:Int)<(es.length:Int)),Ac (ω:(0:Int)<=(i:Int)) (ω:(i:Int)<(es.length:Int)),d_,j_,a_,Gx hi' (show es.length<=AX by unfold AX;omega)];cases KG b Y.img with
  |true=>have hw:=Ad9 hb hcode hY (l:=[Yg (es.getD i noE)]) (by show 1<=100000;omega) (by intro r hr;rw[B_.1 hr];exact ZZ hv') ω;rw[Bux]at hw;unfold Yg at hw;simp only[d_,hw,a_];rfl
  |false=>have hu:=EY Y.ref (FP (es.getD i noE).D0 (es.getD i noE).H0);simp only[c_,Je,a_,hu];rfl
theorem Arg(press old:Int×Int)(hX:X.ok b)(hr:X.recs.length<=1000):DF press.1 press.2 old.1 old.2 X.recs X.img.G0 X.img.O0 X.img.K0 X.img.A0 X.xs X.lan.lit X.lan.gong X.lan.cl.1 X.lan.cl.2 X.ref.1 X.ref.2 b.C0 b.E0 b.I0 b.M0 b.J0 b.L0 b.N0 b.B0=V ((),((EL b (FY (Au (BR press (AW b)) old)) X).tupB b,())):=by have hl:=Ajx (Au (BR press (AW b)) old);have h:=Ald hb hcode (es:=FY (Au (BR press (AW b)) old)) ω (λe he=>XJ hb hcode he) _ 0 X (o_ _) hX ω;rw[V_]at h;have h':Do (((),FY (Au (BR press (AW b)) old),((FY (Au (BR press (AW b)) old)).length:Int),(0:Int),()),(X.tupB b,()))=_:=Aw h ω;unfold DF;rw[FN hb hcode];simp only[a_];rw[EP press (AW b)];simp only[a_];rw[DY (BR press (AW b)) old];simp only[a_];rw[Yw];simp only[a_];unfold Rnd.tupB at h';rw[h'];rfl
end
def Ak2(n:Int):HN n=V ((!inR 0 1000000 n,()),()):=by
 unfold HN inR;by_cases g:n<0
 .rw[b_ g,f_ (ω:¬0<=n)];rfl
 .rw[f_ g,b_ (ω:0<=n)];by_cases g':1000000<n
  .rw[b_ g',f_ (ω:¬n<=1000000)];rfl
  .rw[f_ g',b_ (ω:n<=1000000)];rfl
def Anf(hl:xs.length<=maxLen):Bq xs=V ((!QC xs,()),()):=by
 have hm:maxLen<=9223372036854775807:=by decide
 have key:∀(k i:Nat),i+k=xs.length->∃y,Cj (λx=>AG x.1.1 x.1.2.2.1 x.1.2.2.2.1) (k+1) ((xs,(),(xs.length:Int),(i:Int),()),())=V y/\(match y with|.inl _=>(xs.drop i).all (inR 0 1000000)=A|.inr z=>0<=z.1.1/\(xs.drop i).all (inR 0 1000000)=B):=by
  intro k;induction k with
  |zero=>
   intro i hi;refine⟨.inl ((),()),AS ?_,?_⟩
   .show AG xs (xs.length:Int) (i:Int)=_;unfold AG;rw[show decide ((i:Int)<(xs.length:Int))=B by simp;omega];rfl
   .rw[show i=xs.length by omega,b3_];rfl
  |succ k ih=>
   intro i hi;have hi':i<xs.length:=ω;have hs:AG xs (xs.length:Int) (i:Int)=V (bif inR 0 1000000 (xs.getD i 0)then .inl ((xs,(),(xs.length:Int),((i+1:Nat):Int),()),())else .inr (.inr (((i:Int),()),()))):=by
    unfold AG;have w:aJ.wrap ((i:Int)+1)=((i+1:Nat):Int):=by rw[Aa ω ω];omega
    rw[show decide ((i:Int)<(xs.length:Int))=A by simp;omega,Ac ω ω,Ak2,w];simp only[d_,j_,a_];cases inR 0 1000000 (xs.getD i 0)<;>rfl
   rw[Cm (0:Int) hi',Z_];cases hq:inR 0 1000000 (xs.getD i 0)with
   |true=>rw[hq]at hs;obtain⟨y,h1,h2⟩:=ih (i+1) ω;exact⟨y,(Cl hs).trans h1,by rw[H_];exact h2⟩
   |false=>rw[hq]at hs;exact⟨_,AS hs,by show(0:Int)<=(i:Int)/\_;exact⟨ω,rfl⟩⟩
 obtain⟨y,h1,h2⟩:=key xs.length 0 ω;have h1':Bt ((xs,(),(xs.length:Int),(0:Int),()),())=V y:=Aw h1 ω;rw[V_]at h2;unfold Bq CB QC;rw[h1'];cases y with
 |inl z=>simp only at h2;rw[h2];rfl
 |inr z=>simp only at h2;rw[h2.2];simp only[a_];rw[b_ h2.1];rfl
def Xv(m:aB)(hl:xs.length<=maxLen):Ji m.G0 m.O0 m.K0 m.A0 xs=V (((((xs.length:Int)==(m.A0.length:Int))&&QC xs),()),()):=by
 unfold Ji;rw[Anf hl];cases((xs.length:Int)==(m.A0.length:Int))with
 |false=>rfl
 |true=>simp only[d_,a_,H_,Bool.not_not]
def CS{α:Type}(l:List α)(h:l.length<=100000):MH l=V ((l,()),()):=by unfold MH;rw[AR (ω:l.length<=2147483648)];rfl
def Aun(n:Nat):Lan:=⟨aM n noP,aM n B,(0,0)⟩
def Bu(b:S)(m:aB)(xs:List Int)(vs:List aF)(ps:List aN)(press:Int×Int)(good:Bool):Rnd:=bif good then EL b (FY (Mw b m press)) (wrL (Dp b vs m.A0) ⟨[],m,xs,Dk b vs ps,(0,0)⟩)else⟨[],m,xs,Aun vs.length,(0,0)⟩
noncomputable def TF(b:S)(m:aB)(xs:List Int)(vs:List aF)(ps:List aN)(press:Int×Int)(good:Bool):List W×List Int×Int×Unit:=Pt b (Bu b m xs vs ps press good).img (Bu b m xs vs ps press good).xs vs
noncomputable def Fg(b:S)(m:aB)(xs:List Int)(vs:List aF)(ps:List aN)(press:Int×Int)(good:Bool):Rnd:={ wrL (TF b m xs vs ps press good).1 (Bu b m xs vs ps press good)with xs:=(TF b m xs vs ps press good).2.1 }
def RR(hcode:b.code=0)(vs:List aF):∀{l:List aD},(∀e∈l,Ar b e.D0 e.H0=A)->∀r∈Dp b vs l,Ay b r=A/\r.Q0=2:=λh r hr=>by
 obtain⟨e,he,hr⟩:=c9_.1 hr;have hc:=h e he;cases hs:Km b vs e.D0 e.H0 with
 |false=>rw[hs]at hr;cases hr
 |true=>rw[hs]at hr;rw[B_.1 hr];refine⟨?_,rfl⟩;unfold Ay;rw[hcode];simp only[show((2:Int)==1)=B from rfl,c_,m_,d_,hc,b2_]
def Ard(hcode:b.code=0)(hm:ImgOK b m)(xs:List Int):∀r∈(Pt b m xs vs).1,Ay b r=A:=by
 have hcc:=Ah hcode;unfold Pt;rw[Img.ok_iff.2 hm];cases hq:((xs.length:Int)==(m.A0.length:Int))with
 |false=>exact λr hr=>by cases hr
 |true=>
  cases hv:((vs.length:Int)==(b.B0.length:Int))with
  |false=>exact λr hr=>by cases hr
  |true=>
   cases QC xs with
   |false=>exact λr hr=>by cases hr
   |true=>
    have h1:(xs.length:Int)=(m.A0.length:Int):=by simpa using hq
    have h2:(vs.length:Int)=(b.B0.length:Int):=by simpa using hv
    exact(Tz (b:=b) ω h2 m.A0 xs [] m ω hm rfl).2.1
section
variable{b:S}(hb:b.small)(hcode:b.code=0){m:aB}(hm:ImgOK b m){xs:List Int}(hx:xs.length=m.A0.length){vs:List aF}(ps:List aN)(press:Int×Int)(good:Bool)
include hb hcode hm hx
theorem Apy:(Bu b m xs vs ps press good).ok b/\(Bu b m xs vs ps press good).recs.length<=100:=by
 have he:=DH hb hm;have hX:∀L:Lan,Rnd.ok b ⟨[],m,xs,L,(0,0)⟩:=λL=>⟨hm,hx⟩
 unfold Bu;cases good with
 |false=>exact⟨hX _,a3_ _⟩
 |true=>have hv:=RR hcode vs (l:=m.A0) λe he=>(CZ.1 (hm.en e he)).1;refine⟨As1 (Ap5 (hX _) λr hr=>(hv r hr).1) λe he=>XJ hb hcode he,?_⟩;have h1:=Aj6 b (FY (Mw b m press)) (wrL (Dp b vs m.A0) ⟨[],m,xs,Dk b vs ps,(0,0)⟩);have h2:=Ajx (Mw b m press);have h3:=Aae b vs m.A0;have h4:(wrL (Dp b vs m.A0) ⟨[],m,xs,Dk b vs ps,(0,0)⟩).recs.length=(Dp b vs m.A0).length:=rfl;show(EL b (FY (Mw b m press)) (wrL (Dp b vs m.A0) ⟨[],m,xs,Dk b vs ps,(0,0)⟩)).recs.length<=100;omega
theorem Ac1(hexp:QC xs=A)(hv:okViews vs)(hvl:vs.length=b.B0.length)(hp:ps.length=b.B0.length):MM b.C0 b.E0 b.I0 b.M0 b.J0 b.L0 b.N0 b.B0 m.G0 m.O0 m.K0 m.A0 xs vs ps press.1 press.2 good=V (((),0,()),((Fg b m xs vs ps press good).tup,())):=by
 have hcc:=Ah hcode;have he:=DH hb hm;have hlp:=hm.lp;have hlf:=hm.lf;have hll:=hm.ll;have hmx:100000<=maxLen:=by decide
 have hX:∀L:Lan,Rnd.ok b ⟨[],m,xs,L,(0,0)⟩:=λL=>⟨hm,hx⟩
 obtain⟨hok,hrl⟩:=Apy hb hcode hm hx (vs:=vs) ps press good;have hlight:=Ade hb hcode vs ps ω;unfold Aft at hlight;rw[show((vs.length:Int)==(b.B0.length:Int))=A by rw[hvl];exact m_ _,show((ps.length:Int)==(b.B0.length:Int))=A by rw[hp];exact m_ _]at hlight;simp only[b2_,d_]at hlight;have hXl:=DH hb hok.img;have hXp:=hok.img.lp;have hXx:=hok.len;have hplan:=Ag2 hb hv ω (Bu b m xs vs ps press good).img ω ω (Bu b m xs vs ps press good).xs ω;have hpl:=(Bcv b (Bu b m xs vs ps press good).img (Bu b m xs vs ps press good).xs vs).1;have hwr:=Ad9 hb hcode hok (l:=(Pt b (Bu b m xs vs ps press good).img (Bu b m xs vs ps press good).xs vs).1) ω (Ard hcode hok.img _) ω;unfold MM;rw[hlight];simp only[a_,O_,c_,Lan.tup];rw[Dv hb m ω ω,Img.ok_iff.2 hm];simp only[a_,t_,c_];rw[Xv m ω,show((xs.length:Int)==(m.A0.length:Int))=A by rw[hx];exact m_ _,hexp];unfold Ov Bf AI AM PT;rw[CS m.G0 ω,CS m.O0 ω,CS m.K0 ω,CS m.A0 ω,CS xs ω];simp only[a_,b2_,t_,c_,b_ (ω:(0:Int)<=(vs.length:Int)),b_ (d9_ (vs.length:Int)),b_ (ω:(vs.length:Int)<=2147483648),d_,j_];cases good with
 |false=>simp only[c_,a_];rw[show Ju b.C0 b.E0 b.I0 b.M0 b.J0 b.L0 b.N0 b.B0 m.G0 m.O0 m.K0 m.A0 xs vs=_ from hplan];simp only[a_];rw[show BH (Pt b (Bu b m xs vs ps press B).img (Bu b m xs vs ps press B).xs vs).1 [] m.G0 m.O0 m.K0 m.A0 xs (aM vs.length (aQ 0 0)) (aM vs.length B) 0 0 0 0 b.C0 b.E0 b.I0 b.M0 b.J0 b.L0 b.N0 b.B0=_ from hwr];rfl
 |true=>have hsv:=RR hcode vs (l:=m.A0) λe he=>(CZ.1 (hm.en e he)).1;have hsl:=Aae b vs m.A0;have hw1:=Ad9 hb hcode (hX (Dk b vs ps)) (l:=Dp b vs m.A0) ω (λr hr=>(hsv r hr).1) (a3_ _);have hrg:=Arg hb hcode press (ofC m.A0 (0,0)) (X:=wrL (Dp b vs m.A0) ⟨[],m,xs,Dk b vs ps,(0,0)⟩) (Ap5 (hX _) λr hr=>(hsv r hr).1) (by show([]++Dp b vs m.A0).length<=_;rw[a4_];omega);unfold HO;simp only[d_];rw[Adf hb hcode hm ω vs ω];simp only[a_];simp only at hw1;rw[hw1];simp only[a_,Ab4 (ω:m.A0.length<=100000),Rnd.tupB];rw[hrg];simp only[a_,Rnd.tupB];rw[show Ju b.C0 b.E0 b.I0 b.M0 b.J0 b.L0 b.N0 b.B0 (EL b (FY (Au (BR press (AW b)) (ofC m.A0 (0,0)))) (wrL (Dp b vs m.A0) ⟨[],m,xs,Dk b vs ps,(0,0)⟩)).img.G0 (EL b (FY (Au (BR press (AW b)) (ofC m.A0 (0,0)))) (wrL (Dp b vs m.A0) ⟨[],m,xs,Dk b vs ps,(0,0)⟩)).img.O0 (EL b (FY (Au (BR press (AW b)) (ofC m.A0 (0,0)))) (wrL (Dp b vs m.A0) ⟨[],m,xs,Dk b vs ps,(0,0)⟩)).img.K0 (EL b (FY (Au (BR press (AW b)) (ofC m.A0 (0,0)))) (wrL (Dp b vs m.A0) ⟨[],m,xs,Dk b vs ps,(0,0)⟩)).img.A0 (EL b (FY (Au (BR press (AW b)) (ofC m.A0 (0,0)))) (wrL (Dp b vs m.A0) ⟨[],m,xs,Dk b vs ps,(0,0)⟩)).xs vs=_ from hplan];simp only[a_];refine Eq.trans (f8_ (λo=>Option.bind o _) (show _=V ((),((wrL (Pt b (Bu b m xs vs ps press A).img (Bu b m xs vs ps press A).xs vs).1 (Bu b m xs vs ps press A)).tupB b,()))from hwr)) ?_;rfl
end
def Av:aG:=aU 0 0 B 0 0 B 0 0 B
structure Pk where
 m:Mch
 budget:Int
 e:Int
 legacy:List Bool
 shows:List Calls
 reset:List Bool
 out:Outputs
def Pk.ap{α:Type}(f:Int->Int->Int->Int->Nat->Nat->Nat->List Car->List Int->List Bool->List Bool->List aD->ByteArray->ByteArray->Int->List aV->List Belief->List NewCar->List Loaded->List Int->List aN->Int->Int->Int->Int->Int->Int->Int->List CarInput->Bool->Int->Int->List Bool->List aN->List Bool->Int->Int->Int->Int->Bool->Bool->Int->List aG->α)(b:S)(x:Inp)(g:Bool)(t:Pk):α:=f b.C0 b.E0 b.I0 b.M0 b.J0 b.L0 b.N0 b.B0 t.m.F0.G0 t.m.F0.O0 t.m.F0.K0 t.m.F0.A0 t.m.Z0.h0 t.m.Z0.h1 t.m.Z0.sel t.m.K1 t.m.U0 t.m.B0 t.m.N3 t.m.Y1 t.m.G3 t.m.H4 t.m.T3 t.m.A3 x.press.1 x.press.2 x.kind x.car x.cars g t.budget t.e t.legacy t.shows t.reset t.out.G4 t.out.X3 t.out.F3 t.out.R2 t.out.G6 t.out.L0 t.out.M4 t.out.B0
def Pk.tup(b:S)(x:Inp)(g:Bool)(t:Pk):=(b.C0,b.E0,b.I0,b.M0,b.J0,b.L0,b.N0,b.B0,t.m.F0.G0,t.m.F0.O0,t.m.F0.K0,t.m.F0.A0,t.m.Z0.h0,t.m.Z0.h1,t.m.Z0.sel,t.m.K1,t.m.U0,t.m.B0,t.m.N3,t.m.Y1,t.m.G3,t.m.H4,t.m.T3,t.m.A3,x.press.1,x.press.2,x.kind,x.car,x.cars,g,t.budget,t.e,t.legacy,t.shows,t.reset,t.out.G4,t.out.X3,t.out.F3,t.out.R2,t.out.G6,t.out.L0,t.out.M4,t.out.B0,())
def Pk.wr(t:Pk)(im:aB)(s:Sto)(bu e:Int):Pk:={ t with m:={ t.m with F0:=im,Z0:=s },budget:=bu,e:=e }
def goodL(b:S):aB->List W->Prop
 |_,[]=>True
 |m,r::l=>Ay b r=A/\KD b m r=B/\goodL b (Ak m r) l
def goodL.app:∀{l:List W}{m:aB}{k:List W},goodL b m l->goodL b (Aj m l) k->goodL b m (l++k)
 |[],_,_,_,h=>h
 |_::_,_,_,⟨h1,h2,h3⟩,h=>⟨h1,h2,h3.app h⟩
def XM{b:S}:∀{l:List W}(m:aB),(∀r∈l,Ay b r=A/\r.Q0≠1)->goodL b m l
 |[],_,_=>trivial
 |r::l,m,h=>by have h1:=h r (p_ ..);refine⟨h1.1,?_,XM _ λx hx=>h x (r_ _ hx)⟩;unfold KD;rw[Ao h1.2];rfl
def goodL.valid:∀{l:List W}{m:aB},goodL b m l->∀r∈l,Ay b r=A
 |[],_,_,_,h=>by cases h
 |_::_,_,⟨h1,_,h3⟩,r,h=>by
  rcases s_.1 h with rfl|h
  .exact h1
  .exact h3.valid r h
def goodL.drop:∀{l:List W}{m:aB},goodL b m l->∀i,i<l.length->Ay b (l.getD i ⟨0,0,0,0,0⟩)=A/\KD b (Aj m (l.take i)) (l.getD i ⟨0,0,0,0,0⟩)=B
 |[],_,_,_,h=>absurd h (e8_ _)
 |_::_,_,⟨h1,h2,_⟩,0,_=>⟨h1,h2⟩
 |_::_,_,⟨_,_,h3⟩,i+1,h=>h3.drop i (by rw[E_]at h;omega)
def Aqc{i:Nat}(h:i<l.length):Aj m (l.take (i+1))=Ak (Aj m (l.take i)) (l.getD i ⟨0,0,0,0,0⟩):=by rw[List.take_succ,EO,i_ h,k_,i_ h];rfl
def Av0(b:S)(s:Sto)(m:aB)(r:W):Sto:=if(s.cur.size:Int)+6<=b.I0 then s.set s.sel (s.get s.sel++txt (CT r))else { s.set (1-s.sel) (txt ((Fd (Ak m r)).flatMap CT))with sel:=1-s.sel }
def Atr(hj:Jst b s m)(hv:Ay b r=A)(hfull:KD b m r=B){bud:Int}(hb0:0<=bud)(hn:RO b s m r<=bud):(Ra b s m r bud).1=Av0 b s m r:=by
 have hm2:=(Ke hj.img hv).1;have hfit:=Ajf hj hv hfull;have hsel:=VS hj.ok;unfold Ra;rw[Img.ok_iff.2 hj.img,hv,b_ hj.ok,f_ (ω:¬bud<0),hfull];simp only[b2_,t_,c_];unfold RO at hn;unfold Gv Av0;by_cases g:(s.cur.size:Int)+6<=b.I0
 .rw[if_pos g]at hn;rw[if_pos g,b_ (ω:(6:Int)<=b.I0-(s.cur.size:Int)),d_];have hw:=Ad8 (t:=CT r) hj.ok hsel hb0 (by rw[<-Ahf hsel,Hl];omega);rw[Hl,if_neg (ω:¬bud<((6:Nat):Int))]at hw;rw[hw];rfl
 .rw[if_neg g]at hn;rw[if_neg g,f_ (ω:¬(6:Int)<=b.I0-(s.cur.size:Int)),c_];rcases Xp hj.ok hm2 hb0 ω with⟨_,q2⟩|⟨q1,_⟩
  .rw[q2];rfl
  .omega
def Apt(b:S):Sto->aB->List W->Sto
 |s,_,[]=>s
 |s,m,r::l=>Apt b (Av0 b s m r) (Ak m r) l
def Apu(b:S):∀(l:List W) (k:List W) (s:Sto) (m:aB),Apt b s m (l++k)=Apt b (Apt b s m l) (Aj m l) k
 |[],_,_,_=>rfl
 |_::l,k,_,_=>Apu b l k _ _
def Wr(b:S)(t:Pk)(l:List W)(t':Pk):Prop:=∃im s bu e,t'=t.wr im s bu e/\((e=0/\im=Aj t.m.F0 l/\Jst b s im/\t.budget-600*(l.length:Int)<=bu/\0<=bu/\bu<=t.budget/\s=Apt b t.m.Z0 t.m.F0 l)\/(e=8/\t.budget<600*(l.length:Int)/\s.ok b.I0/\∃k,k<l.length/\DZ b s=Aj t.m.F0 (l.take k)))
section
variable{b:S}(hb:b.small){x:Inp}{g:Bool}
include hb
theorem Bky(hj:Jst b s m)(hv:Ay b r=A):6<=RO b s m r/\RO b s m r<=600:=by have h3:=Ah hj.img.code;have h4:=DH hb (Ke hj.img hv).1;unfold RO;split<;>omega
theorem Abi{t:Pk}(hj:Jst b t.m.Z0 t.m.F0)(h0:0<=t.budget/\t.budget<9223372036854775808)(he:t.e=0)(hl:goodL b t.m.F0 l)(hn:l.length<=100000):aA (t.ap (AY l) b x g) λy=>∃t',(y=.inl ((),(t'.tup b x g,()))\/y=.inr ((),(t'.tup b x g,())))/\Wr b t l t':=by
 have hcc:=Ah hj.img.code;unfold Pk.ap AY;refine N (Q:=λy=>∃t',(y=.inl ((),(t'.tup b x g,()))\/y=.inr ((),(t'.tup b x g,())))/\Wr b t l t') ?_ λy hy=>?_
 .unfold DU;refine aL (λ(k:Nat) z=>∃(i:Nat) (t':Pk),z=(((),l,(l.length:Int),(i:Int),()),(t'.tup b x g,()))/\i+k=l.length/\Wr b t (l.take i) t') (λk z hz=>?_) l.length ⟨0,t,rfl,o_ _,t.m.F0,t.m.Z0,t.budget,t.e,rfl,.inl ⟨he,rfl,hj,σ,h0.1,d9_ _,rfl⟩⟩ ω;obtain⟨i,t',rfl,hk,im,s,bu,e,rfl,hw⟩:=hz;show aA (Pk.ap (Ga l (l.length:Int) (i:Int)) b x g (t.wr im s bu e)) _;unfold Pk.ap Ga;refine U (λq=>?_) λq=>C ⟨t.wr im s bu e,.inl rfl,im,s,bu,e,rfl,?_⟩
  .have q:(i:Int)<(l.length:Int):=l_ q;have hi:i<l.length:=ω;have hlt:(l.take i).length=i:=by rw[x_];omega
   have hlt1:(l.take (i+1)).length=i+1:=by rw[x_];omega
   refine H (Ac ω q) ?_;rcases hw with⟨he,him,hj',hb1,hb2,hb3,hst⟩|⟨he,hb1,hs,k',hk',hr⟩
   .subst he him;obtain⟨hv,hf⟩:=hl.drop i hi;have hent:=DH hb hj'.img;have hp:=hj'.img.lp;refine aC (show((0:Int) !=0)=B from rfl) (J (Ak3 hb ω s (m:=Aj t.m.F0 (l.take i)) ω ω (l.getD i ⟨0,0,0,0,0⟩) (bud:=bu) ω) ?_);have w:=Dq (n:=i) ω;have hnd:=Bky hb hj' hv;rcases Bam hb hj' hv hf hb2 with⟨c1,s',c2,c3⟩|⟨c1,s',c2,c3,c4⟩
    .have hsto:=Atr hj' hv hf hb2 c1;rw[c2]at hsto;rw[c2];refine C ⟨k-1,ω,i+1,t.wr (Ak (Aj t.m.F0 (l.take i)) (l.getD i ⟨0,0,0,0,0⟩)) s' (bu-RO b s (Aj t.m.F0 (l.take i)) (l.getD i ⟨0,0,0,0,0⟩)) 0,by first|(rw[<-w];rfl)|rw[<-w],ω,_,s',_,0,rfl,.inl ⟨rfl,(Aqc hi).symm,c3,?_,ω,ω,?_⟩⟩
     .rw[hlt1];rw[hlt]at hb1;omega
     .rw[List.take_succ,Apu,<-hst,i_ hi];rw[k_,i_ hi]at hsto;exact hsto
    .rw[c2];refine C ⟨k-1,ω,i+1,t.wr (Aj t.m.F0 (l.take i)) s' 0 8,by first|(rw[<-w];rfl)|rw[<-w],ω,_,s',0,8,rfl,.inr ⟨rfl,?_,c3,i,ω,?_⟩⟩
     .rw[hlt1];rw[hlt]at hb1;omega
     .rw[c4,List.take_take,d4_ ω]
   .subst he;refine H (show((8:Int) !=0)=A from rfl) (C ⟨t.wr im s bu 8,.inr rfl,im,s,bu,8,rfl,.inr ⟨rfl,?_,hs,k',ω,?_⟩⟩)
    .rw[hlt]at hb1;omega
    .rw[hr,List.take_take,d4_ ω]
  .have q:¬(i:Int)<(l.length:Int):=C_ q;rw[a8_ ω]at hw;exact hw
 .obtain⟨t',h1|h1,h2⟩:=hy
  .subst h1;exact C ⟨t',.inr rfl,h2⟩
  .subst h1;exact C ⟨t',.inl rfl,h2⟩
end
end Go.Ovl
namespace Go.Ovl
open Go Go.Ab
variable{b:S}{n f:Int}{i k:Nat}{t:Pk}{l:List W}{r:Relay}{m:aB}{x:Inp}{z:aV}{v:aG}{c:Int×Int}{L:List Int}{s:Sto}
structure Contacts where
 C0:Int
 Up:Bool
 B4:Bool
 E6:Bool
 K4:Bool
def Contacts.get(c:Contacts)(i:Int):Bool:=if i=32 then c.Up else if i=33 then c.B4 else if i=34 then c.E6 else if i=35 then c.K4 else decide (0<=i/\i<32)&&Eg c.C0 i.toNat
def Contacts.set(c:Contacts)(i:Int)(on:Bool):Contacts:=
 if i=32 then { c with Up:=on }else if i=33 then { c with B4:=on }else if i=34 then { c with E6:=on }else if i=35 then { c with K4:=on }
 else if 0<=i/\i<32 then { c with C0:=Ym c.C0 i.toNat on }else c
def Contacts.wf(c:Contacts):Prop:=0<=c.C0/\c.C0<4294967296
def Contacts.tup(c:Contacts):Int×Bool×Bool×Bool×Bool×Unit:=(c.C0,c.Up,c.B4,c.E6,c.K4,())
def Contacts.set_wf{c:Contacts}(h:c.wf)(i:Int)(on:Bool):(c.set i on).wf:=by
 unfold Contacts.set
 repeat(split;exact h)
 split
 .exact Awg _ _ _
 .exact h
def Avy{i:Int}(h:0<=i)(h2:i<32):i.toNat<32:=ω
def TT(c:Contacts)(hc:c.wf)(i:Int):Ml c.C0 c.Up c.B4 c.E6 c.K4 i=V ((c.get i,()),()):=by
 unfold Ml Contacts.get;by_cases h32:i=32
 .simp[h32]
 by_cases h33:i=33
 .simp[h33]
 by_cases h34:i=34
 .simp[h34]
 by_cases h35:i=35
 .simp[h35]
 simp only[h32,h33,h34,h35,f0_,Ao h32,Ao h33,Ao h34,Ao h35,c_];by_cases h0:0<=i
 .by_cases h1:i<32
  .simp only[My];rw[Bec hc (Avy h0 h1)];simp[h0,h1]
  .simp[h0,h1]
 .simp[h0]
def Acj(c:Contacts)(i:Int)(on:Bool):OR c.C0 c.Up c.B4 c.E6 c.K4 i on=V (((),()),((c.set i on).tup,())):=by
 unfold OR Contacts.set;by_cases h32:i=32
 .simp[h32,Contacts.tup]
 by_cases h33:i=33
 .simp[h33,Contacts.tup]
 by_cases h34:i=34
 .simp[h34,Contacts.tup]
 by_cases h35:i=35
 .simp[h35,Contacts.tup]
 simp only[h32,h33,h34,h35,f0_,Ao h32,Ao h33,Ao h34,Ao h35,c_];by_cases h0:0<=i
 .have e0:decide (0<=i)=A:=by simpa using h0
  by_cases h1:i<32
  .have e1:decide (i<32)=A:=by simpa using h1
   simp only[e0,e1,d_,a_,My];rw[Bak _ (Avy h0 h1),Bug _ (Avy h0 h1),Bc6,if_pos ⟨h0,h1⟩];cases on<;>rfl
  .have e1:decide (i<32)=B:=by simpa using h1
   simp only[e0,e1,d_,c_,a_];rw[if_neg ω];rfl
 .have e0:decide (0<=i)=B:=by simpa using h0
  simp only[e0,c_,a_];rw[if_neg ω];rfl
structure Deb where
 c:Contacts
 k:List Int
def Deb.no:Deb:=⟨⟨0,B,B,B,B⟩,aM 36 0⟩
def Deb.tup(s:Deb):Int×Bool×Bool×Bool×Bool×Int×Int×Int×Int×Int×Int×Int×Int×Int×Int×Int×Int×Int×Int×Int×Int×Int×Int×Int×Int×Int×Int×Int×Int×Int×Int×Int×Int×Int×Int×Int×Int×Int×Int×Int×Int×Unit:=(s.c.C0,s.c.Up,s.c.B4,s.c.E6,s.c.K4,s.k.getD 0 0,s.k.getD 1 0,s.k.getD 2 0,s.k.getD 3 0,s.k.getD 4 0,s.k.getD 5 0,s.k.getD 6 0,s.k.getD 7 0,s.k.getD 8 0,s.k.getD 9 0,s.k.getD 10 0,s.k.getD 11 0,s.k.getD 12 0,s.k.getD 13 0,s.k.getD 14 0,s.k.getD 15 0,s.k.getD 16 0,s.k.getD 17 0,s.k.getD 18 0,s.k.getD 19 0,s.k.getD 20 0,s.k.getD 21 0,s.k.getD 22 0,s.k.getD 23 0,s.k.getD 24 0,s.k.getD 25 0,s.k.getD 26 0,s.k.getD 27 0,s.k.getD 28 0,s.k.getD 29 0,s.k.getD 30 0,s.k.getD 31 0,s.k.getD 32 0,s.k.getD 33 0,s.k.getD 34 0,s.k.getD 35 0,())
def Deb.cnt(s:Deb):Int×Int×Int×Int×Int×Int×Int×Int×Int×Int×Int×Int×Int×Int×Int×Int×Int×Int×Int×Int×Int×Int×Int×Int×Int×Int×Int×Int×Int×Int×Int×Int×Int×Int×Int×Int×Unit:=(s.k.getD 0 0,s.k.getD 1 0,s.k.getD 2 0,s.k.getD 3 0,s.k.getD 4 0,s.k.getD 5 0,s.k.getD 6 0,s.k.getD 7 0,s.k.getD 8 0,s.k.getD 9 0,s.k.getD 10 0,s.k.getD 11 0,s.k.getD 12 0,s.k.getD 13 0,s.k.getD 14 0,s.k.getD 15 0,s.k.getD 16 0,s.k.getD 17 0,s.k.getD 18 0,s.k.getD 19 0,s.k.getD 20 0,s.k.getD 21 0,s.k.getD 22 0,s.k.getD 23 0,s.k.getD 24 0,s.k.getD 25 0,s.k.getD 26 0,s.k.getD 27 0,s.k.getD 28 0,s.k.getD 29 0,s.k.getD 30 0,s.k.getD 31 0,s.k.getD 32 0,s.k.getD 33 0,s.k.getD 34 0,s.k.getD 35 0,())
def Deb.at(n:Int)(r:Contacts)(i:Nat)(s:Deb):Deb:=if r.get i=s.c.get i then⟨s.c,s.k.set i 0⟩else if s.k.getD i 0+1=n then⟨s.c.set i (r.get i),s.k.set i 0⟩else⟨s.c,s.k.set i (s.k.getD i 0+1)⟩
def Deb.step(n:Int)(s:Deb)(r:Contacts):Deb:=AV (Deb.at n r) 36 0 s
structure Deb.wf(s:Deb):Prop where
 c:s.c.wf
 len:s.k.length=36
 lo:∀j,j<36->0<=s.k.getD j 0
 hi:∀j,j<36->s.k.getD j 0<1000
def Deb.is(n:Int)(s:Deb):Prop:=1<=n/\n<=16/\∀j,j<36->0<=s.k.getD j 0/\s.k.getD j 0<n
def WI(h:L.length=36):[L.getD 0 0,L.getD 1 0,L.getD 2 0,L.getD 3 0,L.getD 4 0,L.getD 5 0,L.getD 6 0,L.getD 7 0,L.getD 8 0,L.getD 9 0,L.getD 10 0,L.getD 11 0,L.getD 12 0,L.getD 13 0,L.getD 14 0,L.getD 15 0,L.getD 16 0,L.getD 17 0,L.getD 18 0,L.getD 19 0,L.getD 20 0,L.getD 21 0,L.getD 22 0,L.getD 23 0,L.getD 24 0,L.getD 25 0,L.getD 26 0,L.getD 27 0,L.getD 28 0,L.getD 29 0,L.getD 30 0,L.getD 31 0,L.getD 32 0,L.getD 33 0,L.getD 34 0,L.getD 35 0]=L:=by
 have e:[L.getD 0 0,L.getD 1 0,L.getD 2 0,L.getD 3 0,L.getD 4 0,L.getD 5 0,L.getD 6 0,L.getD 7 0,L.getD 8 0,L.getD 9 0,L.getD 10 0,L.getD 11 0,L.getD 12 0,L.getD 13 0,L.getD 14 0,L.getD 15 0,L.getD 16 0,L.getD 17 0,L.getD 18 0,L.getD 19 0,L.getD 20 0,L.getD 21 0,L.getD 22 0,L.getD 23 0,L.getD 24 0,L.getD 25 0,L.getD 26 0,L.getD 27 0,L.getD 28 0,L.getD 29 0,L.getD 30 0,L.getD 31 0,L.getD 32 0,L.getD 33 0,L.getD 34 0,L.getD 35 0]=(List.range 36).map (λq=>L.getD q 0):=rfl;rw[e];apply List.ext_getElem
 .simp[h]
 .intro j h1 h2;simp[h2]
def Ac6(h:i<L.length)(q:Nat)(v:Int):(bif Nat.beq i q then v else L.getD q 0)=(L.set i v).getD q 0:=by
 rw[BY];by_cases e:i=q
 .subst e;simp[h]
 .simp[e]
def Atu{s:Deb}(h:s.wf)(hs:s.is n){r:Contacts}(hi:i<36):(s.at n r i).wf/\(s.at n r i).is n:=by
 have hset:∀(v:Int) (j:Nat),(s.k.set i v).getD j 0=if j=i then v else s.k.getD j 0:=by
  intro v j;rw[<-Ac6 (by rw[h.len];exact hi),BY];by_cases e:i=j
  .simp[e]
  .simp[e,f4_ e]
 have hn:=hs.1;have hn2:=hs.2.1;have key:∀v:Int,0<=v->v<n->∀j,j<36->0<=(s.k.set i v).getD j 0/\(s.k.set i v).getD j 0<n:=by
  intro v h1 h2 j hj;rw[hset];by_cases e:j=i
  .rw[if_pos e];exact⟨h1,h2⟩
  .rw[if_neg e];exact hs.2.2 j hj
 have fin:∀(c:Contacts) (v:Int),c.wf->0<=v->v<n->Deb.wf ⟨c,s.k.set i v⟩/\Deb.is n ⟨c,s.k.set i v⟩:=by intro c v hc h1 h2;have hk:=key v h1 h2;exact⟨⟨hc,by simp[h.len],λj hj=>(hk j hj).1,λj hj=>by have:=(hk j hj).2;simp only at this|-;omega⟩,hn,hn2,hk⟩
 have hki:=hs.2.2 i hi;unfold Deb.at;split
 .exact fin _ _ h.c ω ω
 .split
  .exact fin _ _ (Contacts.set_wf h.c _ _) ω ω
  .exact fin _ _ h.c ω ω
def Ajg{n:Int}{r:Contacts}:∀(m i:Nat) (s:Deb),i+m<=36->s.wf->s.is n->(AV (Deb.at n r) m i s).wf/\(AV (Deb.at n r) m i s).is n
 |0,_,_,_,h,hs=>⟨h,hs⟩
 |m+1,i,s,hi,h,hs=>Ajg m (i+1) (s.at n r i) ω (Atu h hs ω).1 (Atu h hs ω).2
def Blb{s:Deb}(h:s.wf)(hs:s.is n)(r:Contacts):(s.step n r).wf/\(s.step n r).is n:=Ajg 36 0 s ω h hs
def Akx{s:Deb}(h:s.wf)(hs:s.is n){r:Contacts}(hr:r.wf)(b:Deb)(hi:i<36):
  Jd n (i:Int) s.c.C0 s.c.Up s.c.B4 s.c.E6 s.c.K4 (s.k.getD 0 0) (s.k.getD 1 0) (s.k.getD 2 0) (s.k.getD 3 0) (s.k.getD 4 0) (s.k.getD 5 0) (s.k.getD 6 0) (s.k.getD 7 0) (s.k.getD 8 0) (s.k.getD 9 0) (s.k.getD 10 0) (s.k.getD 11 0) (s.k.getD 12 0) (s.k.getD 13 0) (s.k.getD 14 0) (s.k.getD 15 0) (s.k.getD 16 0) (s.k.getD 17 0) (s.k.getD 18 0) (s.k.getD 19 0) (s.k.getD 20 0) (s.k.getD 21 0) (s.k.getD 22 0) (s.k.getD 23 0) (s.k.getD 24 0) (s.k.getD 25 0) (s.k.getD 26 0) (s.k.getD 27 0) (s.k.getD 28 0) (s.k.getD 29 0) (s.k.getD 30 0) (s.k.getD 31 0) (s.k.getD 32 0) (s.k.getD 33 0) (s.k.getD 34 0) (s.k.getD 35 0) r.C0 r.Up r.B4 r.E6 r.K4 b.c.C0 b.c.Up b.c.B4 b.c.E6 b.c.K4 (b.k.getD 0 0) (b.k.getD 1 0) (b.k.getD 2 0) (b.k.getD 3 0) (b.k.getD 4 0) (b.k.getD 5 0) (b.k.getD 6 0) (b.k.getD 7 0) (b.k.getD 8 0) (b.k.getD 9 0) (b.k.getD 10 0) (b.k.getD 11 0) (b.k.getD 12 0) (b.k.getD 13 0) (b.k.getD 14 0) (b.k.getD 15 0) (b.k.getD 16 0) (b.k.getD 17 0) (b.k.getD 18 0) (b.k.getD 19 0) (b.k.getD 20 0) (b.k.getD 21 0) (b.k.getD 22 0) (b.k.getD 23 0) (b.k.getD 24 0) (b.k.getD 25 0) (b.k.getD 26 0) (b.k.getD 27 0) (b.k.getD 28 0) (b.k.getD 29 0) (b.k.getD 30 0) (b.k.getD 31 0) (b.k.getD 32 0) (b.k.getD 33 0) (b.k.getD 34 0) (b.k.getD 35 0)=
   V (.inl ((n,(),(),(),((i+1:Nat):Int),()),((s.at n r i).tup,r.tup,b.tup,()))):=by
 unfold Jd;have e0:decide ((i:Int)<36)=A:=by simp;omega
 have ib:aE (i:Int) 36=A:=Ac ω ω;have tn:aH (i:Int)=i:=ω;have w:aJ.wrap ((i:Int)+1)=((i+1:Nat):Int):=by rw[Aa ω ω];omega
 have hki:=h.lo i hi;have hki':=h.hi i hi;have wk:aJ.wrap (s.k.getD i 0+1)=s.k.getD i 0+1:=Aa ω ω;have hl:i<s.k.length:=by rw[h.len];exact hi
 have hl2:∀v:Int,i<(s.k.set i v).length:=λv=>by simp;exact hl
 have hgi:∀v:Int,(s.k.set i v).getD i 0=v:=λv=>by simp[hl]
 rw[e0,d_,TT r hr (i:Int),TT s.c h.c (i:Int)];simp only[a_,ib,d_,tn,Ac6 hl,w,WI h.len,wk];unfold Deb.at;by_cases hq:r.get i=s.c.get i
 .simp only[hq,m_,d_,g8_];rfl
 .simp only[Ao hq,c_,hq,f0_];have l36:∀v:Int,(s.k.set i v).length=36:=λv=>by simp[h.len]
  try simp only[WI (l36 _),hgi,Ac6 (hl2 _),h2_]
  by_cases hn:s.k.getD i 0+1=n
  .have:(s.k.getD i 0+1==n)=A:=by simpa using hn
   simp only[this,d_,g8_,hn,m_];rw[Acj s.c (i:Int) (r.get i)];rfl
  .simp only[Ao hn,c_,hn,f0_];rfl
noncomputable instance isDeb_ti(n:Int)(s:Deb):Decidable (s.is n):=Classical.propDecidable _
def Deb.rng(n:Int)(s:Deb):Prop:=∀j,j<36->0<=s.k.getD j 0/\s.k.getD j 0<n
noncomputable instance rngDeb_ti(n:Int)(s:Deb):Decidable (s.rng n):=Classical.propDecidable _
def Bbx{s:Deb}:s.is n↔1<=n/\n<=16/\s.rng n:=Iff.rfl
def Aky{s:Deb}(h:s.wf)(hs:s.is n){r:Contacts}(hr:r.wf):
  Ha ((n,(),(),(),(0:Int),()),(s.tup,r.tup,Deb.no.tup,()))=V (((),(),()),((s.step n r).tup,Deb.no.tup,())):=by
 unfold Ha;refine Aw (Cb 36 (λ(i:Nat) (s:Deb)=>((n,(),(),(),(i:Int),()),(s.tup,r.tup,Deb.no.tup,()))) (Deb.at n r) (λ_ s=>s.wf/\s.is n) (λs=>(((),(),()),(s.tup,Deb.no.tup,()))) (λi s hi hin=>⟨Akx hin.1 hin.2 hr Deb.no hi,Atu hin.1 hin.2 hi⟩) (λs hin=>?_) 36 0 s rfl ⟨h,hs⟩).1 ω;show Jd n ((36:Nat):Int) s.c.C0 s.c.Up s.c.B4 s.c.E6 s.c.K4 (s.k.getD 0 0) (s.k.getD 1 0) (s.k.getD 2 0) (s.k.getD 3 0) (s.k.getD 4 0) (s.k.getD 5 0) (s.k.getD 6 0) (s.k.getD 7 0) (s.k.getD 8 0) (s.k.getD 9 0) (s.k.getD 10 0) (s.k.getD 11 0) (s.k.getD 12 0) (s.k.getD 13 0) (s.k.getD 14 0) (s.k.getD 15 0) (s.k.getD 16 0) (s.k.getD 17 0) (s.k.getD 18 0) (s.k.getD 19 0) (s.k.getD 20 0) (s.k.getD 21 0) (s.k.getD 22 0) (s.k.getD 23 0) (s.k.getD 24 0) (s.k.getD 25 0) (s.k.getD 26 0) (s.k.getD 27 0) (s.k.getD 28 0) (s.k.getD 29 0) (s.k.getD 30 0) (s.k.getD 31 0) (s.k.getD 32 0) (s.k.getD 33 0) (s.k.getD 34 0) (s.k.getD 35 0) r.C0 r.Up r.B4 r.E6 r.K4 Deb.no.c.C0 Deb.no.c.Up Deb.no.c.B4 Deb.no.c.E6 Deb.no.c.K4 (Deb.no.k.getD 0 0) (Deb.no.k.getD 1 0) (Deb.no.k.getD 2 0) (Deb.no.k.getD 3 0) (Deb.no.k.getD 4 0) (Deb.no.k.getD 5 0) (Deb.no.k.getD 6 0) (Deb.no.k.getD 7 0) (Deb.no.k.getD 8 0) (Deb.no.k.getD 9 0) (Deb.no.k.getD 10 0) (Deb.no.k.getD 11 0) (Deb.no.k.getD 12 0) (Deb.no.k.getD 13 0) (Deb.no.k.getD 14 0) (Deb.no.k.getD 15 0) (Deb.no.k.getD 16 0) (Deb.no.k.getD 17 0) (Deb.no.k.getD 18 0) (Deb.no.k.getD 19 0) (Deb.no.k.getD 20 0) (Deb.no.k.getD 21 0) (Deb.no.k.getD 22 0) (Deb.no.k.getD 23 0) (Deb.no.k.getD 24 0) (Deb.no.k.getD 25 0) (Deb.no.k.getD 26 0) (Deb.no.k.getD 27 0) (Deb.no.k.getD 28 0) (Deb.no.k.getD 29 0) (Deb.no.k.getD 30 0) (Deb.no.k.getD 31 0) (Deb.no.k.getD 32 0) (Deb.no.k.getD 33 0) (Deb.no.k.getD 34 0) (Deb.no.k.getD 35 0)=_;unfold Jd;have e:decide (((36:Nat):Int)<36)=B:=rfl;rw[e];rfl
def Akw{s:Deb}(hl:s.k.length=36):Fy ((n,s.cnt,(0:Int),()),())=V (if s.rng n then .inl ((),())else .inr ((B,()),())):=by
 unfold Fy;have key:∀(step:_->_),(∀i:Nat,step ((n,s.cnt,(i:Int),()),())=Dm n (s.k.getD 0 0) (s.k.getD 1 0) (s.k.getD 2 0) (s.k.getD 3 0) (s.k.getD 4 0) (s.k.getD 5 0) (s.k.getD 6 0) (s.k.getD 7 0) (s.k.getD 8 0) (s.k.getD 9 0) (s.k.getD 10 0) (s.k.getD 11 0) (s.k.getD 12 0) (s.k.getD 13 0) (s.k.getD 14 0) (s.k.getD 15 0) (s.k.getD 16 0) (s.k.getD 17 0) (s.k.getD 18 0) (s.k.getD 19 0) (s.k.getD 20 0) (s.k.getD 21 0) (s.k.getD 22 0) (s.k.getD 23 0) (s.k.getD 24 0) (s.k.getD 25 0) (s.k.getD 26 0) (s.k.getD 27 0) (s.k.getD 28 0) (s.k.getD 29 0) (s.k.getD 30 0) (s.k.getD 31 0) (s.k.getD 32 0) (s.k.getD 33 0) (s.k.getD 34 0) (s.k.getD 35 0) (i:Int))->∀(m i:Nat),i+m=36->(∀j,j<i->0<=s.k.getD j 0/\s.k.getD j 0<n)->Cj step (m+1) ((n,s.cnt,(i:Int),()),())=V (if s.rng n then Sum.inl ((),())else Sum.inr ((B,()),())):=by
  intro step hstep m;induction m with
  |zero=>
   intro i hi hj
   have:i=36:=ω
   subst this;rw[if_pos (show s.rng n from hj)];refine AS ?_;rw[hstep];unfold Dm;have e:decide (((36:Nat):Int)<36)=B:=rfl;rw[e];rfl
  |succ m ih=>
   intro i hi hj;have e0:decide ((i:Int)<36)=A:=by simp;omega
   have ib:aE (i:Int) 36=A:=Ac ω ω;have tn:aH (i:Int)=i:=ω;have w:aJ.wrap ((i:Int)+1)=((i+1:Nat):Int):=by rw[Aa ω ω];omega
   by_cases h1:s.k.getD i 0<0
   .rw[if_neg (show ¬s.rng n from λhall=>by have:=(hall i ω).1;omega)];refine AS ?_;rw[hstep];unfold Dm;have e1:decide (s.k.getD i 0<0)=A:=by simpa using h1
    simp only[e0,ib,tn,WI hl,e1,d_]
   .have e1:decide (s.k.getD i 0<0)=B:=by simpa using h1
    by_cases h2:n<=s.k.getD i 0
    .rw[if_neg (show ¬s.rng n from λhall=>by have:=(hall i ω).2;omega)];refine AS ?_;rw[hstep];unfold Dm;have e2:decide (n<=s.k.getD i 0)=A:=by simpa using h2
     simp only[e0,ib,tn,WI hl,e1,e2,d_,c_]
    .have e2:decide (n<=s.k.getD i 0)=B:=by simpa using h2
     have st:step ((n,s.cnt,(i:Int),()),())=V (.inl ((n,s.cnt,((i+1:Nat):Int),()),())):=by rw[hstep];unfold Dm;simp only[e0,ib,tn,WI hl,e1,e2,d_,c_,w];rfl
     rw[Cl st];exact ih (i+1) ω λj hj'=>if e:j=i then by subst e;omega else hj j ω
 exact Aw (key _ (λ_=>rfl) 36 0 rfl (λj hj=>by omega)) ω
def WY{s:Deb}(hl:s.k.length=36):Fj n s.c.C0 s.c.Up s.c.B4 s.c.E6 s.c.K4 (s.k.getD 0 0) (s.k.getD 1 0) (s.k.getD 2 0) (s.k.getD 3 0) (s.k.getD 4 0) (s.k.getD 5 0) (s.k.getD 6 0) (s.k.getD 7 0) (s.k.getD 8 0) (s.k.getD 9 0) (s.k.getD 10 0) (s.k.getD 11 0) (s.k.getD 12 0) (s.k.getD 13 0) (s.k.getD 14 0) (s.k.getD 15 0) (s.k.getD 16 0) (s.k.getD 17 0) (s.k.getD 18 0) (s.k.getD 19 0) (s.k.getD 20 0) (s.k.getD 21 0) (s.k.getD 22 0) (s.k.getD 23 0) (s.k.getD 24 0) (s.k.getD 25 0) (s.k.getD 26 0) (s.k.getD 27 0) (s.k.getD 28 0) (s.k.getD 29 0) (s.k.getD 30 0) (s.k.getD 31 0) (s.k.getD 32 0) (s.k.getD 33 0) (s.k.getD 34 0) (s.k.getD 35 0)=V ((decide (s.is n),()),()):=by
 unfold Fj;by_cases h1:n<1
 .have:¬s.is n:=λh=>by have:=h.1;omega
  simp[h1,this]
 .have h1':1<=n:=ω;by_cases h2:16<n
  .have:¬s.is n:=λh=>by have:=h.2.1;omega
   simp[h1,h2,this]
  .have h2':n<=16:=ω;have hl':=Akw (n:=n) hl;simp only[Deb.cnt]at hl';have e1:decide (n<1)=B:=by simpa using h1
   have e2:decide (16<n)=B:=by simpa using h2
   simp only[e1,e2,c_,hl',a_];by_cases h3:s.rng n
   .rw[if_pos h3,b_ (Bbx.2 ⟨h1',h2',h3⟩)]
   .rw[if_neg h3,f_ λh=>h3 (Bbx.1 h).2.2]
def Abk{s:Deb}(h:s.wf)(hs:s.is n){r:Contacts}(hr:r.wf):NR n s.c.C0 s.c.Up s.c.B4 s.c.E6 s.c.K4 (s.k.getD 0 0) (s.k.getD 1 0) (s.k.getD 2 0) (s.k.getD 3 0) (s.k.getD 4 0) (s.k.getD 5 0) (s.k.getD 6 0) (s.k.getD 7 0) (s.k.getD 8 0) (s.k.getD 9 0) (s.k.getD 10 0) (s.k.getD 11 0) (s.k.getD 12 0) (s.k.getD 13 0) (s.k.getD 14 0) (s.k.getD 15 0) (s.k.getD 16 0) (s.k.getD 17 0) (s.k.getD 18 0) (s.k.getD 19 0) (s.k.getD 20 0) (s.k.getD 21 0) (s.k.getD 22 0) (s.k.getD 23 0) (s.k.getD 24 0) (s.k.getD 25 0) (s.k.getD 26 0) (s.k.getD 27 0) (s.k.getD 28 0) (s.k.getD 29 0) (s.k.getD 30 0) (s.k.getD 31 0) (s.k.getD 32 0) (s.k.getD 33 0) (s.k.getD 34 0) (s.k.getD 35 0) r.C0 r.Up r.B4 r.E6 r.K4=V (((),()),((s.step n r).tup,())):=by have hl:=Aky h hs hr;unfold NR;show(Ha ((n,(),(),(),(0:Int),()),(s.tup,r.tup,Deb.no.tup,()))).bind _=_;rw[hl];rfl
def Abj{s:Deb}(h:s.k.length=36)(hc:s.c.wf){r:Contacts}(hr:r.wf):
  KJ n s.c.C0 s.c.Up s.c.B4 s.c.E6 s.c.K4 (s.k.getD 0 0) (s.k.getD 1 0) (s.k.getD 2 0) (s.k.getD 3 0) (s.k.getD 4 0) (s.k.getD 5 0) (s.k.getD 6 0) (s.k.getD 7 0) (s.k.getD 8 0) (s.k.getD 9 0) (s.k.getD 10 0) (s.k.getD 11 0) (s.k.getD 12 0) (s.k.getD 13 0) (s.k.getD 14 0) (s.k.getD 15 0) (s.k.getD 16 0) (s.k.getD 17 0) (s.k.getD 18 0) (s.k.getD 19 0) (s.k.getD 20 0) (s.k.getD 21 0) (s.k.getD 22 0) (s.k.getD 23 0) (s.k.getD 24 0) (s.k.getD 25 0) (s.k.getD 26 0) (s.k.getD 27 0) (s.k.getD 28 0) (s.k.getD 29 0) (s.k.getD 30 0) (s.k.getD 31 0) (s.k.getD 32 0) (s.k.getD 33 0) (s.k.getD 34 0) (s.k.getD 35 0) r.C0 r.Up r.B4 r.E6 r.K4=if s.is n then V (((),(0:Int),()),((s.step n r).tup,()))else V (((),(1:Int),()),(Deb.no.tup,())):=by
 unfold KJ;rw[WY h];by_cases hs:s.is n
 .have hw:s.wf:=⟨hc,h,λj hj=>(hs.2.2 j hj).1,λj hj=>by have:=(hs.2.2 j hj).2;have:=hs.2.1;omega⟩
  simp only[hs,decide_true,a_,t_,c_,g8_];rw[Abk hw hs hr];rfl
 .simp only[hs,decide_false,a_,d8_,d_,f0_];rfl
structure BW(b:Bldg):Prop where
 small:b.small
 code:b.code=0
 room:b.I0<=5000
 full:Sat (arF .sub .f64 b.L0 4589168020290535424) λ_=>True
 over:Sat (arF .sub .f64 b.N0 4589168020290535424) λ_=>True
def Aul(b:S)(c:aV):Prop:=Vr b.E0 c=A/\0<=c.H1/\c.H1<4294967296
structure PM(b:Bldg)(m:Mch):Prop where
 jst:Jst b m.Z0 m.F0
 con:m.K1.length=b.B0.length
 conv:∀c∈m.K1,Aul b c
 bel:m.U0.length=b.B0.length
 belv:∀i,i<b.B0.length->BelOK b i (m.U0.getD i Hw)
 car:m.B0.length=b.B0.length
 carv:∀c∈m.B0,IB b c=true
 lod:m.N3.length=b.B0.length
 lodv:∀l∈m.N3,0<=l.F6/\l.F6<=4
 lit:m.G3.length=b.B0.length
 exl:m.Y1.length=m.F0.A0.length
 exv:∀x∈m.Y1,0<=x/\x<=1000000
 tick:0<=m.H4/\m.H4<=1000000
 flt:0<=m.T3/\m.T3<=1000000
 ref:0<=m.A3/\m.A3<=1000000
structure PR(b:Bldg)(t:Pk):Prop where
 leg:t.legacy.length=b.B0.length
 sho:t.shows.length=b.B0.length
 rst:t.reset.length=b.B0.length
 oc:t.out.B0.length=b.B0.length
 cmd:∀i,CmdR (t.out.B0.getD i Av).G2
structure FixR(t t':Pk):Prop where
 im:t'.m.F0=t.m.F0
 st:t'.m.Z0=t.m.Z0
 bu:t'.budget=t.budget
 e:t'.e=t.e
 out:t'.out={ t.out with B0:=t'.out.B0 }
structure Fix(t t':Pk):Prop extends FixR t t' where
 con:t'.m.K1=t.m.K1
def Fix.rfl'(t:Pk):Fix t t:=⟨⟨rfl,rfl,rfl,rfl,rfl⟩,rfl⟩
def Fix.trans{a c d:Pk}(h:Fix a c)(k:Fix c d):Fix a d:=⟨⟨k.im.trans h.im,k.st.trans h.st,k.bu.trans h.bu,k.e.trans h.e,by rw[k.out,h.out]⟩,k.con.trans h.con⟩
def Aip{α:Type}{P:α->Prop}{l:List α}(h:∀x∈l,P x){v:α}(hv:P v)(i:Nat):∀x∈l.set i v,P x:=λx hx=>by
 rcases List.mem_or_eq_of_mem_set hx with hx|rfl
 .exact h x hx
 .exact hv
section
variable{b:S}{m:Mch}
def PM.sBel(h:PM b m){v:Belief}(hv:BelOK b i v):PM b { m with U0:=m.U0.set i v }:=
 ⟨h.jst,h.con,h.conv,by show(m.U0.set i v).length=_;rw[z_];exact h.bel,λj hj=>by
  show BelOK b j ((m.U0.set i v).getD j Hw);by_cases e:i=j
  .subst e;rw[By _ _ (by rw[h.bel];exact hj)];exact hv
  .rw[Df _ _ e];exact h.belv j hj,h.car,h.carv,h.lod,h.lodv,h.lit,h.exl,h.exv,h.tick,h.flt,h.ref⟩
def PM.sCar(h:PM b m)(i:Nat){v:NewCar}(hv:IB b v=A):PM b { m with B0:=m.B0.set i v }:=⟨h.jst,h.con,h.conv,h.bel,h.belv,by show(m.B0.set i v).length=_;rw[z_];exact h.car,Aip h.carv hv i,h.lod,h.lodv,h.lit,h.exl,h.exv,h.tick,h.flt,h.ref⟩
def PM.sCon(h:PM b m)(i:Nat){v:aV}(hv:Aul b v){w:Loaded}(hw:0<=w.F6/\w.F6<=4):PM b { m with K1:=m.K1.set i v,N3:=m.N3.set i w }:=⟨h.jst,by show(m.K1.set i v).length=_;rw[z_];exact h.con,Aip h.conv hv i,h.bel,h.belv,h.car,h.carv,by show(m.N3.set i w).length=_;rw[z_];exact h.lod,Aip h.lodv hw i,h.lit,h.exl,h.exv,h.tick,h.flt,h.ref⟩
def PM.sTick(h:PM b m){k:Int}(hn:0<=n/\n<=1000000)(hk:0<=k/\k<=1000000):PM b { m with H4:=n,T3:=k }:=⟨h.jst,h.con,h.conv,h.bel,h.belv,h.car,h.carv,h.lod,h.lodv,h.lit,h.exl,h.exv,hn,hk,h.ref⟩
end
@[reducible] def Bzl(z:aV):=(z.H1,z.V2,z.K2,z.L2,z.U1,z.T5,z.U5,z.V5,z.X5,z.Y5,z.Z5,z.A6,z.B6,z.C6,z.D6,z.P4,z.Q4,z.R4,z.S4,z.T4,z.U4,z.V4,z.X4,z.Y4,z.Z4,z.A5,z.B5,z.C5,z.E5,z.F5,z.G5,z.H5,z.I5,z.K5,z.L5,z.M5,z.N5,z.O5,z.Q5,z.R5,z.S5,())
def Zm(z:aV):Deb:=⟨⟨z.H1,z.V2,z.K2,z.L2,z.U1⟩,Acy z⟩
def Auo(s:Deb):aV:=Debounced.mk s.c.C0 s.c.Up s.c.B4 s.c.E6 s.c.K4 (s.k.getD 0 0) (s.k.getD 1 0) (s.k.getD 2 0) (s.k.getD 3 0) (s.k.getD 4 0) (s.k.getD 5 0) (s.k.getD 6 0) (s.k.getD 7 0) (s.k.getD 8 0) (s.k.getD 9 0) (s.k.getD 10 0) (s.k.getD 11 0) (s.k.getD 12 0) (s.k.getD 13 0) (s.k.getD 14 0) (s.k.getD 15 0) (s.k.getD 16 0) (s.k.getD 17 0) (s.k.getD 18 0) (s.k.getD 19 0) (s.k.getD 20 0) (s.k.getD 21 0) (s.k.getD 22 0) (s.k.getD 23 0) (s.k.getD 24 0) (s.k.getD 25 0) (s.k.getD 26 0) (s.k.getD 27 0) (s.k.getD 28 0) (s.k.getD 29 0) (s.k.getD 30 0) (s.k.getD 31 0) (s.k.getD 32 0) (s.k.getD 33 0) (s.k.getD 34 0) (s.k.getD 35 0)
def Ba7:Vr n z=A↔(Zm z).is n:=by
 unfold Vr Deb.is;rw[e_,e_,q_,q_];refine and_congr_right λ_=>and_congr_right λ_=>⟨λh j hj=>?_,λh=>Vj 36 0 λk _ hk=>?_⟩
 .have:=Uc 36 0 h j (a3_ _) ω
  unfold Anc at this;simp only[e_,q_]at this;exact this
 .have:=h k ω
  unfold Anc;simp only[e_,q_];exact this
def Ahe(hcode:b.code=0)(h:Aul b z)(hf:0<=f/\f<4294967296)(u d o c:Bool):aA (KJ b.E0 z.H1 z.V2 z.K2 z.L2 z.U1 z.T5 z.U5 z.V5 z.X5 z.Y5 z.Z5 z.A6 z.B6 z.C6 z.D6 z.P4 z.Q4 z.R4 z.S4 z.T4 z.U4 z.V4 z.X4 z.Y4 z.Z4 z.A5 z.B5 z.C5 z.E5 z.F5 z.G5 z.H5 z.I5 z.K5 z.L5 z.M5 z.N5 z.O5 z.Q5 z.R5 z.S5 f u d o c) λy=>∃z',y.2.1=Bzl z'/\Aul b z'/\z'=Auo ((Zm z).step b.E0 ⟨f,u,d,o,c⟩):=by
 have hi:=Ba7.1 h.1;have hd:=Ane hcode;have hw:(Zm z).wf:=⟨h.2,rfl,λj hj=>(hi.2.2 j hj).1,λj hj=>by have:=(hi.2.2 j hj).2;omega⟩
 have e:=Abj (n:=b.E0) (s:=Zm z) rfl h.2 (r:=⟨f,u,d,o,c⟩) hf;rw[if_pos hi]at e;obtain⟨w1,w2⟩:=Blb hw hi ⟨f,u,d,o,c⟩;refine⟨_,e,Auo ((Zm z).step b.E0 ⟨f,u,d,o,c⟩),rfl,⟨Ba7.2 ?_,w1.c⟩,rfl⟩;generalize(Zm z).step b.E0 ⟨f,u,d,o,c⟩=s at w1 w2
 have:Zm (Auo s)=s:=by unfold Zm;rw[show Acy (Auo s)=s.k from WI w1.len];rfl
 rw[this];exact w2
def Ao0(h:0<=n/\n<=1000000):aA (IK n) λy=>0<=y.1.1/\y.1.1<=1000000:=by
 unfold IK;rw[Aa ω ω];refine C ?_;show 0<=(bif decide (1000000<n+1)then(1000000:Int)else n+1)/\(bif decide (1000000<n+1)then(1000000:Int)else n+1)<=1000000;by_cases g:1000000<n+1
 .rw[b_ g,d_];omega
 .rw[f_ g,c_];omega
section
variable{b:S}(hw:BW b){x:Inp}{g:Bool}(hx:g=A->InOK b x)
include hw hx
theorem Bum(hm:PM b t.m)(hr:PR b t):aA (t.ap EU b x g) λy=>∃t',(y=.inl ((),(t'.tup b x g,()))\/y=.inr ((),(t'.tup b x g,())))/\PM b t'.m/\PR b t'/\FixR t t':=by
 have hcc:=Ah hw.code;unfold Pk.ap EU;refine N (Ao0 hm.tick) λn1 h1=>U (λ_=>?_) λhg=>?_
 .exact N (Ao0 hm.flt) λn2 h2=>C ⟨{ t with m:={ t.m with H4:=n1.1.1,T3:=n2.1.1 } },.inl rfl,hm.sTick h1 h2,⟨hr.leg,hr.sho,hr.rst,hr.oc,hr.cmd⟩,⟨rfl,rfl,rfl,rfl,rfl⟩⟩
 .rw[g2_]at hg;have hxi:=hx hg;refine N (Q:=λy=>∃t',y=((),(t'.tup b x g,()))/\PM b t'.m/\PR b t'/\FixR t t') ?_ λy hy=>by obtain⟨t',rfl,h⟩:=hy;exact C ⟨t',.inr rfl,h⟩
  unfold Er;refine aL (λ(k:Nat) z=>∃(i:Nat) (t':Pk),z=(((),x.cars,(x.cars.length:Int),(i:Int),()),(t'.tup b x g,()))/\i+k=x.cars.length/\PM b t'.m/\PR b t'/\FixR t t') (λk z hz=>?_) x.cars.length ⟨0,{ t with m:={ t.m with H4:=n1.1.1 } },rfl,o_ _,hm.sTick h1 hm.flt,⟨hr.leg,hr.sho,hr.rst,hr.oc,hr.cmd⟩,⟨rfl,rfl,rfl,rfl,rfl⟩⟩ (by have:=hxi.len;omega);obtain⟨i,t',rfl,hk,hm,hr,hf⟩:=hz;show aA (Pk.ap (Gp x.cars (x.cars.length:Int) (i:Int)) b x g t') _;unfold Pk.ap Gp;refine U (λq=>?_) λ_=>C ⟨t',rfl,hm,hr,hf⟩;have q:(i:Int)<(x.cars.length:Int):=l_ q;have hl:=hxi.len;have hin:i<b.B0.length:=ω;have w:=Dq (n:=i) ω;have i1:aE (i:Int) t'.m.K1.length=A:=Ac ω (by rw[hm.con];omega);have i3:aE (i:Int) t'.m.N3.length=A:=Ac ω (by rw[hm.lod];omega);have hcf:=hxi.flo _ (AL (CarInput.mk 0 B B B B 0 B 0 B 0 0) (ω:i<x.cars.length));have hcw:=hm.conv _ (AL Ge (show i<t'.m.K1.length by rw[hm.con];exact hin));refine H (Ac ω q) (H i1 (N (Ahe hw.code hcw hcf _ _ _ _) λy1 h1=>?_));obtain⟨⟨ya,yb,yc⟩,yd,ye⟩:=y1;obtain⟨z',e1,hz',_⟩:=h1;change yd=_ at e1;subst e1;refine H i1 (H i3 (N (Ara hw.full hw.over _ _) λy2 h2=>H i3 ?_));refine C ⟨k-1,ω,i+1,{ t' with m:={ t'.m with K1:=t'.m.K1.set i z',N3:=t'.m.N3.set i (Loaded.mk y2.2.1.1) } },by first|(rw[<-w];rfl)|rw[<-w],ω,hm.sCon i hz' h2,⟨hr.leg,hr.sho,hr.rst,hr.oc,hr.cmd⟩,⟨hf.im,hf.st,hf.bu,hf.e,hf.out⟩⟩
end
def Bul(floor:Int):Int:=aR.wrap (1*2^min (aH floor) (IntKind.bits .u32))
def Ao7(floor dir:Int):Int×Int:=bif inR 0 31 floor then(bif dir==1 then(Bul floor,0)else bif dir==2 then(0,Bul floor)else(0,0))else(0,0)
def Zi(floor dir:Int):DW floor dir=V (((),()),(((Ao7 floor dir).1,(Ao7 floor dir).2,()),())):=by
 unfold DW Ao7 inR;by_cases g:0<=floor
 .by_cases g':floor<32
  .rw[b_ g,b_ g',b_ (ω:floor<=31)];simp only[d_,a_,b2_,b_ g];cases dir==1<;>cases dir==2<;>rfl
  .rw[b_ g,f_ g',f_ (ω:¬floor<=31)];rfl
 .rw[f_ g];rfl
def orV(a c:Int):Int:=aR.wrap (stk a c (BitVec.toNat (BitVec.ofInt (IntKind.bits .u32) a|||BitVec.ofInt (IntKind.bits .u32) c)))
def Ap3(a c:Int×Int):Int×Int:=(orV a.1 c.1,orV a.2 c.2)
def Aha(a c:Int×Int):Ci a.1 a.2 c.1 c.2=V (((),()),(((Ap3 a c).1,(Ap3 a c).2,()),())):=rfl
def Aww(vs:List aF)(car:Int)(e:aD):Bool:=e.R0==car||(e.R0==-2&&(Aq vs car).L3)
def UV(vs:List aF)(car:Int)(e:aD)(c:Int×Int):Int×Int:=bif Aww vs car e then Ap3 c (Ao7 e.D0 e.H0)else c
def Aah(vs:List aF)(car:Int):List aD->Int×Int->Int×Int
 |[],c=>c
 |e::t,c=>Aah vs car t (UV vs car e c)
def Aai(b:S)(m:aB)(vs:List aF)(car:Int):Int×Int:=bif m.ok b&&((vs.length:Int)==(b.B0.length:Int)&&(decide (0<=car)&&decide (car<(b.B0.length:Int))))then Aah vs car m.A0 (0,0)else(0,0)
section
variable{vs:List aF}{car:Int}(hc:0<=car/\car<vs.length){m:aB}(hm:m.A0.length<=1000)
include hc hm
theorem SP:∀(k i:Nat) (c:Int×Int),i+k=m.A0.length->
  Cj (λx=>letI a:=x.1.2.2.2.2;Hc x.1.1 x.1.2.1 a.1 a.2.1 a.2.2.1 x.2.1.1 x.2.1.2.1 x.2.2.1.1 x.2.2.1.2.1) (k+1) ((vs,car,(),(),m.A0,(m.A0.length:Int),(i:Int),()),(((0:Int),(0:Int),()),(c.1,c.2,()),()))=V (((),(),()),(((0:Int),(0:Int),()),((Aah vs car (m.A0.drop i) c).1,(Aah vs car (m.A0.drop i) c).2,()),()))
 |0,i,c,hi=>by refine AS ?_;show Hc vs car m.A0 (m.A0.length:Int) (i:Int) 0 0 c.1 c.2=_;unfold Hc;rw[show decide ((i:Int)<(m.A0.length:Int))=B by simp;omega,show i=m.A0.length by omega,b3_];rfl
 |k+1,i,c,hi=>by
  have hi':i<m.A0.length:=ω;have w:aJ.wrap ((i:Int)+1)=((i+1:Nat):Int):=by rw[Aa ω ω];omega
  rw[Cm noE hi'];refine(Cl (x':=((vs,car,(),(),m.A0,(m.A0.length:Int),((i+1:Nat):Int),()),(((0:Int),(0:Int),()),((UV vs car (m.A0.getD i noE) c).1,(UV vs car (m.A0.getD i noE) c).2,()),()))) ?_).trans (SP k (i+1) _ ω);show Hc vs car m.A0 (m.A0.length:Int) (i:Int) 0 0 c.1 c.2=_;unfold Hc;rw[show decide ((i:Int)<(m.A0.length:Int))=A by simp;omega,Ac (ω:(0:Int)<=(i:Int)) (ω:(i:Int)<(m.A0.length:Int)),show Entry.mk 0 0 0 0 B=noE from rfl];unfold UV Aww Aq;have hu:=Aha c (Ao7 (m.A0.getD i noE).D0 (m.A0.getD i noE).H0);simp only[d_,j_];cases(m.A0.getD i noE).R0==car with
  |true=>simp only[d_,a_,Bool.true_or,Zi,hu,w]
  |false=>
   cases(m.A0.getD i noE).R0==-2 with
   |true=>
    simp only[d_,c_,Ac hc.1 hc.2,a_,Bool.false_or,H_];cases(vs.getD car.toNat (aT B B B B 0 0 0 0 0 0 0 0)).L3 with
    |true=>simp only[d_,Zi,a_,hu,w]
    |false=>simp only[c_,w]
   |false=>simp only[c_,a_,a9_,Bool.or_self,w]
end
section
variable{b:S}(hb:b.small)(vs:List aF)(m:aB)(hm:m.A0.length<=1000)(hp:m.G0.length<=maxLen)(car:Int)
include hb hm hp
theorem Aei:NO b.C0 b.E0 b.I0 b.M0 b.J0 b.L0 b.N0 b.B0 m.G0 m.O0 m.K0 m.A0 vs car=V (((),()),(((Aai b m vs car).1,(Aai b m vs car).2,()),())):=by
 have hmx:1000<=maxLen:=by decide
 unfold NO Aai;rw[Dv hb m hp ω];simp only[a_,bne];cases hok:m.ok b with
 |false=>rfl
 |true=>
  cases hq:(vs.length:Int)==(b.B0.length:Int)with
  |false=>rfl
  |true=>
   have hq':(vs.length:Int)=(b.B0.length:Int):=by simpa using hq
   by_cases g:0<=car
   .rw[b_ g,f_ (ω:¬car<0)];by_cases g':car<(b.B0.length:Int)
    .rw[b_ g',f_ (ω:¬(b.B0.length:Int)<=car)];have hlp:=Aw (SP (vs:=vs) (car:=car) ⟨g,ω⟩ hm m.A0.length 0 (0,0) ω) ω;have hlp':LL ((vs,car,(),(),m.A0,(m.A0.length:Int),(0:Int),()),(((0:Int),(0:Int),()),((0:Int),(0:Int),()),()))=_:=hlp;simp only[t_,c_,hlp',a_,V_,b2_,d_]
    .rw[f_ g',b_ (ω:(b.B0.length:Int)<=car)];rfl
   .rw[f_ g,b_ (ω:car<0)];rfl
end
def Eu(p:Int):Bool:=p==0||p==1
def Aa0(p:Int):Bool:=p==3||p==4
def Ys(p:Int):Gh p=V ((Eu p,()),()):=by unfold Gh Eu;cases p==0<;>rfl
def Ai7(p:Int):FK p=V ((Aa0 p,()),()):=by unfold FK Aa0;cases p==3<;>rfl
def Agn(vs:List aF)(car:Int):∀(l:List aD) {c:Int×Int},EN c->EN (Aah vs car l c)
 |[],_,h=>h
 |e::t,c,h=>by
  refine Agn vs car t ?_;unfold UV;cases Aww vs car e with
  |true=>exact⟨IG _,IG _⟩
  |false=>exact h
def Awx(b:S)(m:aB)(vs:List aF)(car:Int):EN (Aai b m vs car):=by
 unfold Aai;cases m.ok b&&((vs.length:Int)==(b.B0.length:Int)&&(decide (0<=car)&&decide (car<(b.B0.length:Int))))with
 |true=>exact Agn vs car _ Gz
 |false=>exact Gz
def Pk.sBel(t:Pk)(i:Nat)(v:Belief):Pk:={ t with m:={ t.m with U0:=t.m.U0.set i v } }
def Pk.sCar(t:Pk)(i:Nat)(v:NewCar):Pk:={ t with m:={ t.m with B0:=t.m.B0.set i v } }
def Pk.sOut(t:Pk)(i:Nat)(v:aG):Pk:={ t with out:={ t.out with B0:=t.out.B0.set i v } }
def Pk.sLeg(t:Pk)(i:Nat):Pk:={ t with legacy:=t.legacy.set i A }
def Pk.sSho(t:Pk)(i:Nat)(c:aN):Pk:={ t with shows:=t.shows.set i c }
section
variable{b:S}{t:Pk}
def PR.sBel(h:PR b t)(i:Nat)(v:Belief):PR b (t.sBel i v):=⟨h.leg,h.sho,h.rst,h.oc,h.cmd⟩
def PR.sCar(h:PR b t)(i:Nat)(v:NewCar):PR b (t.sCar i v):=⟨h.leg,h.sho,h.rst,h.oc,h.cmd⟩
def Ar4{l:List aG}(h:∀i,CmdR (l.getD i Av).G2)(hv:CmdR v.G2)(i:Nat):∀j,CmdR ((l.set i v).getD j Av).G2:=λj=>by
 by_cases e:i=j
 .subst e;by_cases q:i<l.length
  .rw[By _ _ q];exact hv
  .rw[List.set_eq_of_length_le ω];exact h i
 .rw[Df _ _ e];exact h j
def PR.sOut(h:PR b t)(i:Nat)(hv:CmdR v.G2):PR b (t.sOut i v):=⟨h.leg,h.sho,h.rst,(by show(t.out.B0.set i v).length=_;rw[z_];exact h.oc),Ar4 h.cmd hv i⟩
def PR.sLeg(h:PR b t)(i:Nat):PR b (t.sLeg i):=⟨by show(t.legacy.set i A).length=_;rw[z_];exact h.leg,h.sho,h.rst,h.oc,h.cmd⟩
def PR.sSho(h:PR b t)(i:Nat)(c:aN):PR b (t.sSho i c):=⟨h.leg,by show(t.shows.set i c).length=_;rw[z_];exact h.sho,h.rst,h.oc,h.cmd⟩
end
def DC(t:Pk)(i:Nat):Prop:=(t.m.U0.getD i Hw).G1=2->(t.m.K1.getD i Ge).U1=A
section
variable{b:S}(hw:BW b){x:Inp}{g:Bool}(hx:g=A->InOK b x)
include hw
theorem Bc0(hm:ImgOK b m):aA (Kx m.G0 m.O0 m.K0 m.A0) λy=>True:=by
 have hcc:=Ah hw.code;have hp:=hm.lp;have hf:=hm.lf;have hl:=hm.ll;unfold Kx;refine H (by simp only[e_,q_];omega) (N (Q:=λ_=>True) ?_ λ_ _=>C trivial);have h0:(aM (aH (m.G0.length:Int)) (aT B B B B 0 0 0 0 0 0 0 0)).length=b.B0.length:=by rw[S_];omega
 generalize aM (aH (m.G0.length:Int)) (aT B B B B 0 0 0 0 0 0 0 0)=L at h0;unfold Jl;refine aL (λ(k:Nat) z=>∃(i:Nat) (l:List aF),z=(((),l,(L.length:Int),(i:Int),()),((m.G0,m.O0,m.K0,m.A0,()),()))/\l.length=b.B0.length/\i+k=L.length) (λk z hz=>?_) L.length ⟨0,L,rfl,h0,o_ _⟩ ω;obtain⟨i,l,rfl,hll,hk⟩:=hz;show aA (MG l (L.length:Int) (i:Int) m.G0 m.O0 m.K0 m.A0) _;unfold MG;refine U (λq=>?_) λ_=>C trivial;have q:=l_ q;have w:=Dq (n:=i) ω;refine J (Amb hm (ω:i<b.B0.length)) (H (Ac ω ω) ?_);exact C ⟨k-1,ω,i+1,_,by first|(rw[<-w];rfl)|rw[<-w],by rw[z_];exact hll,ω⟩
theorem Aoa(hm:ImgOK b m)(car:Int):aA (IJ b.C0 b.E0 b.I0 b.M0 b.J0 b.L0 b.N0 b.B0 m.G0 m.O0 m.K0 m.A0 car) λy=>EN (y.2.1.1,y.2.1.2.1):=by
 have hcc:=Ah hw.code;have he:=DH hw.small hm;have hp:=hm.lp;have hmx:1000<=maxLen:=by decide
 unfold IJ;exact N (Bc0 hw hm) λy1 _=>J (Aei hw.small y1.1.1 m ω ω car) (C (Awx b m y1.1.1 car))
theorem Bcl(hm:PM b t.m)(hr:PR b t)(hi:i<b.B0.length):aA (t.ap (DS (i:Int)) b x g) λy=>∃t',(y=.inl ((),(t'.tup b x g,()))\/y=.inr ((),(t'.tup b x g,())))/\PM b t'.m/\PR b t'/\Fix t t'/\(∀j,j≠i->t'.m.U0.getD j Hw=t.m.U0.getD j Hw)/\(g=A->DC t' i):=by
 unfold Pk.ap DS;have i1:aE (i:Int) t.legacy.length=A:=Ac ω (by rw[hr.leg];omega);have i2:aE (i:Int) t.m.U0.length=A:=Ac ω (by rw[hm.bel];omega);have i3:aE (i:Int) t.m.K1.length=A:=Ac ω (by rw[hm.con];omega);have i4:aE (i:Int) t.shows.length=A:=Ac ω (by rw[hr.sho];omega);have hb:=hm.belv i hi;have hbl:i<t.m.U0.length:=by rw[hm.bel];exact hi
 refine H i1 (U (λhg=>H i2 ?_) λ_=>H i3 ?_)
 .refine N (Ag4 hw.small hw.code hi hb) λy1 h1=>H i2 ?_;obtain⟨ya,yb,yc⟩:=y1;obtain⟨v,e,hv⟩:=h1;change yb=_ at e;subst e;exact C ⟨(t.sBel i v).sLeg i,.inl rfl,hm.sBel hv,(hr.sBel i v).sLeg i,⟨⟨rfl,rfl,rfl,rfl,rfl⟩,rfl⟩,λj hj=>Df _ _ (f4_ hj),λh=>by rw[h]at hg;cases hg⟩
 .have hcw:=hm.conv _ (AL Ge (show i<t.m.K1.length by rw[hm.con];exact hi));refine N (Zy b.C0 hcw.2 _ _ _ _) λy2 hy2=>N (OA ..) λy3 _=>H i4 (H i2 ?_);refine N (Acp hw.small hw.code hi hb _ _ _) λy4 h4=>H i2 ?_;obtain⟨ya,yb,yc⟩:=y4;obtain⟨v,e,hv,hvd⟩:=h4;change yb=_ at e;subst e;refine C ⟨((t.sBel i v).sLeg i).sSho i (aQ y3.2.1.1 y3.2.1.2.1),.inr rfl,hm.sBel hv,((hr.sBel i v).sLeg i).sSho i _,⟨⟨rfl,rfl,rfl,rfl,rfl⟩,rfl⟩,λj hj=>Df _ _ (f4_ hj),λ_ h=>hy2 (hvd ?_)⟩;have e:(t.m.U0.set i v).getD i Hw=v:=By _ _ hbl;rw[<-e];exact h
include hx
theorem Bj6(hm:PM b t.m)(hr:PR b t)(hi:i<b.B0.length)(p:Int):aA (t.ap (Ey (i:Int) p) b x g) λy=>∃t',(y=.inl ((),(t'.tup b x g,()))\/y=.inr ((),(t'.tup b x g,())))/\PM b t'.m/\PR b t'/\Fix t t'/\t'.m.U0=t.m.U0:=by
 unfold Pk.ap Ey;have i2:aE (i:Int) t.m.B0.length=A:=Ac ω (by rw[hm.car];omega);have i4:aE (i:Int) t.out.B0.length=A:=Ac ω (by rw[hr.oc];omega);refine U (λ_=>H i2 ?_) λhg=>?_
 .refine N (Ah9 hw.small hw.code (i:Int) (t.m.B0.getD i Bs)) λy1 h1=>H i2 (H i4 ?_);obtain⟨ya,yb,yc⟩:=y1;obtain⟨⟨v,e,hv⟩,hcm⟩:=h1;change yb=_ at e;subst e;exact C ⟨(t.sCar i v).sOut i _,.inl rfl,hm.sCar i hv,(hr.sCar i v).sOut i hcm,⟨⟨rfl,rfl,rfl,rfl,rfl⟩,rfl⟩,rfl⟩
 .rw[g2_]at hg;have hl:=(hx hg).len;have i3:aE (i:Int) x.cars.length=A:=Ac ω ω;refine N (Q:=λy=>∃h0 h1:Int,y=(((),(i:Int),(),()),((h0,h1,()),t.tup b x g,()))) (U (λ_=>N (Aoa hw hm.jst.img (i:Int)) λy2 _=>C ⟨_,_,rfl⟩) λ_=>C ⟨_,_,rfl⟩) λy hy=>?_;obtain⟨h0,h1,rfl⟩:=hy;refine H i3 (H i2 (N (Alb hw.small hw.code (i:Int) (t.m.B0.getD i Bs) _ _ _ _ _ _ _) λy4 h4=>H i2 (H i4 ?_)));obtain⟨ya,yb,yc⟩:=y4;obtain⟨⟨v,e,hv⟩,hcm⟩:=h4;change yb=_ at e;subst e;exact C ⟨(t.sCar i v).sOut i _,.inr rfl,hm.sCar i hv,(hr.sCar i v).sOut i hcm,⟨⟨rfl,rfl,rfl,rfl,rfl⟩,rfl⟩,rfl⟩
def Tp(b:S)(r:W):Prop:=∃i:Nat,i<b.B0.length/\r=⟨5,0,0,(i:Int),1⟩
theorem Ba4(hm:PM b t.m)(hr:PR b t):aA (CY (((),([]:List W),t.m.F0.G0,(t.m.F0.G0.length:Int),(0:Int),()),(t.tup b x g,()))) λy=>∃(t':Pk) (l:List W),y=(((),l,()),(t'.tup b x g,()))/\PM b t'.m/\PR b t'/\Fix t t'/\l.length<=8/\(∀r∈l,Tp b r)/\(g=A->∀j,j<b.B0.length->Eu (Z t.m.F0 j)=A->DC t' j):=by
 have hcc:=Ah hw.code;have hp:=hm.jst.img.lp;unfold CY;refine aL (λ(k:Nat) z=>∃(i:Nat) (t':Pk) (l:List W),z=(((),l,t.m.F0.G0,(t.m.F0.G0.length:Int),(i:Int),()),(t'.tup b x g,()))/\i+k=b.B0.length/\PM b t'.m/\PR b t'/\Fix t t'/\l.length<=i/\(∀r∈l,Tp b r)/\(g=A->∀j,j<i->Eu (Z t.m.F0 j)=A->DC t' j)) (λk z hz=>?_) b.B0.length ⟨0,t,[],rfl,o_ _,hm,hr,.rfl' t,y_ 0,(λr h=>by cases h),λ_ j hj=>absurd hj (e8_ j)⟩ ω;obtain⟨i,t',l,rfl,hk,hm',hr',hf,hl,hv,hdc⟩:=hz;show aA (Pk.ap (Gn l t.m.F0.G0 (t.m.F0.G0.length:Int) (i:Int)) b x g t') _;unfold Pk.ap Gn;refine U (λq=>?_) λq=>C ⟨t',l,rfl,hm',hr',hf,ω,hv,λhg j hj=>hdc hg j (by have:=C_ q;omega)⟩;have q:(i:Int)<(t.m.F0.G0.length:Int):=l_ q;have hi:i<b.B0.length:=ω;have w:=Dq (n:=i) ω;refine H (Ac ω q) ?_;refine N (Q:=λy=>∃(u:Pk) (c:Bool),y=(((),l,(i:Int),c,t.m.F0.G0,(t.m.F0.G0.length:Int),(i:Int),()),(u.tup b x g,()))/\PM b u.m/\PR b u/\Fix t u/\(g=A->∀j,j<i+1->Eu (Z t.m.F0 j)=A->DC u j)) ?_ λy9 h9=>?_
 .have nw:∀{u:Pk},Eu (Z t.m.F0 i)=B->u.m.U0=t'.m.U0->Fix t' u->g=A->∀j,j<i+1->Eu (Z t.m.F0 j)=A->DC u j:=λ{u} h e f hg j hj hw'=>by
   have hne:j≠i:=λe=>by rw[e,h]at hw';cases hw'
   unfold DC;rw[e,f.con];exact hdc hg j ω hw'
  refine J (Ys _) (U (λ_=>?_) λhwi=>J (Ai7 _) (U (λ_=>?_) λ_=>C ⟨t',B,rfl,hm',hr',hf,nw hwi rfl (.rfl' t')⟩))
  .refine N (Q:=λy=>∃u:Pk,y=(((),l,(i:Int),t.m.F0.G0,(t.m.F0.G0.length:Int),(i:Int),()),(u.tup b x g,()))/\PM b u.m/\PR b u/\Fix t u/\(g=A->∀j,j<i+1->Eu (Z t.m.F0 j)=A->DC u j)) ?_ λy4 h4=>?_
   .refine N (Bcl hw (x:=x) (g:=g) hm' hr' hi) λy2 h2=>?_;obtain⟨u,e,h1,h2,h3,h4,h5⟩:=h2;have hd:g=A->∀j,j<i+1->Eu (Z t.m.F0 j)=A->DC u j:=λhg j hj hw'=>by
     by_cases e:j=i
     .rw[e];exact h5 hg
     .unfold DC;rw[h4 j e,h3.con];exact hdc hg j ω hw'
    rcases e with e|e
    .subst e;exact C ⟨u,rfl,h1,h2,hf.trans h3,hd⟩
    .subst e;exact C ⟨u,rfl,h1,h2,hf.trans h3,hd⟩
   .obtain⟨u,rfl,h1,h2,h3⟩:=h4;exact H (Ac (ω:(0:Int)<=(i:Int)) (by show(i:Int)<(u.m.U0.length:Int);rw[h1.bel];omega)) (C ⟨u,_,rfl,h1,h2,h3⟩)
  .refine N (Q:=λy=>∃u:Pk,y=(((),l,(i:Int),t.m.F0.G0,(t.m.F0.G0.length:Int),(i:Int),()),(u.tup b x g,()))/\PM b u.m/\PR b u/\Fix t u/\(g=A->∀j,j<i+1->Eu (Z t.m.F0 j)=A->DC u j)) ?_ λy4 h4=>?_
   .refine N (Bj6 hw hx hm' hr' hi _) λy2 h2=>?_;obtain⟨u,e|e,h1,h2,h3,h4⟩:=h2
    .subst e;exact C ⟨u,rfl,h1,h2,hf.trans h3,nw hwi h4 h3⟩
    .subst e;exact C ⟨u,rfl,h1,h2,hf.trans h3,nw hwi h4 h3⟩
   .obtain⟨u,rfl,h1,h2,h3⟩:=h4;exact H (Ac (ω:(0:Int)<=(i:Int)) (by show(i:Int)<(u.m.B0.length:Int);rw[h1.car];omega)) (C ⟨u,_,rfl,h1,h2,h3⟩)
 .obtain⟨u,c,rfl,hm2,hr2,hf2,hd2⟩:=h9;refine N (Q:=λy=>∃c:Bool,y=(((),l,(i:Int),t.m.F0.G0,(t.m.F0.G0.length:Int),(i:Int),c,()),(u.tup b x g,()))) (U (λ_=>H (Ac (ω:(0:Int)<=(i:Int)) (by show(i:Int)<(u.m.F0.O0.length:Int);rw[hm2.jst.img.lf];omega)) (C ⟨_,rfl⟩)) λ_=>C ⟨_,rfl⟩) λy10 h10=>?_;obtain⟨c',rfl⟩:=h10;refine U (λ_=>H (AR (ω:l.length+1<=_)) ?_) λ_=>C ⟨k-1,ω,i+1,u,l,by first|(rw[<-w];rfl)|rw[<-w],ω,hm2,hr2,hf2,ω,hv,hd2⟩;refine C ⟨k-1,ω,i+1,u,l++[Record.mk 5 0 0 (i:Int) 1],by first|(rw[<-w];rfl)|rw[<-w],ω,hm2,hr2,hf2,by rw[g_];show l.length+1<=_;omega,(λr h=>?_),hd2⟩;rcases n_.1 h with h|h
  .exact hv r h
  .exact⟨i,hi,B_.1 h⟩
end
def K3(l:List W):Prop:=∀r∈l,r.Q0=4\/r.Q0=5\/r.Q0=6
def Att{r:W}(h:r.Q0=4\/r.Q0=5\/r.Q0=6):(Ak m r).A0=m.A0:=by unfold Ak;rcases h with h|h|h<;>rw[h]<;>rfl
def OK:∀{l:List W}(m:aB),K3 l->(Aj m l).A0=m.A0
 |[],_,_=>rfl
 |r::l,m,h=>(OK (Ak m r) λx hx=>h x (r_ _ hx)).trans (Att (h r (p_ ..)))
def K3.good(h:K3 l)(m:aB)(hv:∀r∈l,Ay b r=A):goodL b m l:=XM m λr hr=>⟨hv r hr,by have:=h r hr;omega⟩
structure Al(b:Bldg)(t t':Pk)(l:List Record):Prop where
 e:t'.e=0
 m:PM b t'.m
 r:PR b t'
 im:t'.m.F0=Aj t.m.F0 l
 b0:0<=t'.budget
 b1:t'.budget<=t.budget
 b2:t.budget-600*(l.length:Int)<=t'.budget
 con:t'.m.K1=t.m.K1
structure De(b:Bldg)(t t':Pk)(l:List Record):Prop where
 e:t'.e=8
 lo:t.budget<600*(l.length:Int)
 ok:t'.m.Z0.ok b.I0
 rp:∃k,k<l.length/\DZ b t'.m.Z0=Aj t.m.F0 (l.take k)
def PM.wr{m:Mch}(h:PM b m){im:aB}(hj:Jst b s im)(he:im.A0=m.F0.A0):PM b { m with F0:=im,Z0:=s }:=⟨hj,h.con,h.conv,h.bel,h.belv,h.car,h.carv,h.lod,h.lodv,h.lit,by show m.Y1.length=im.A0.length;rw[he];exact h.exl,h.exv,h.tick,h.flt,h.ref⟩
def Wr.fin(hw:BW b){t':Pk}(h:Wr b t l t')(hm:PM b t.m)(hr:PR b t)(hk:K3 l):(Al b t t' l\/De b t t' l)/\t'.out=t.out:=by
 obtain⟨im,s,bu,e,rfl,h⟩:=h;refine⟨?_,rfl⟩;rcases h with⟨rfl,rfl,h1,h2,h3,h4,_⟩|⟨rfl,h1,h2,h3⟩
 .exact .inl ⟨rfl,hm.wr h1 (OK _ hk),⟨hr.leg,hr.sho,hr.rst,hr.oc,hr.cmd⟩,rfl,h3,h4,(by show t.budget-_<=bu;omega),rfl⟩
 .exact .inr ⟨rfl,ω,h2,h3⟩
def Bud(t:Pk):Prop:=t.e=0/\0<=t.budget/\t.budget<9223372036854775808
def Al.bud{t':Pk}(h:Al b t t' l)(hb:Bud t):Bud t':=⟨h.e,h.b0,by have:=h.b1;have:=hb.2.2;omega⟩
def Al.app{u v:Pk}{k:List W}(h:Al b t u l)(h2:Al b u v k):Al b t v (l++k):=⟨h2.e,h2.m,h2.r,by rw[EO,<-h.im];exact h2.im,h2.b0,by have:=h2.b1;have:=h.b1;omega,(by have:=h2.b2;have:=h.b2;rw[g_];omega),h2.con.trans h.con⟩
def De.mono{u:Pk}(h:De b t u l)(k:List W):De b t u (l++k):=by obtain⟨i,h1,h2⟩:=h.rp;exact⟨h.e,by have:=h.lo;rw[g_];omega,h.ok,i,by rw[g_];omega,by rw[List.take_append_of_le_length ω];exact h2⟩
def Al.de{u v:Pk}{k:List W}(h:Al b t u l)(h2:De b u v k):De b t v (l++k):=by obtain⟨i,h3,h4⟩:=h2.rp;refine⟨h2.e,by have:=h2.lo;have:=h.b2;rw[g_];omega,h2.ok,l.length+i,by rw[g_];omega,?_⟩;rw[h4,h.im,List.take_append,a8_ (ω:l.length<=l.length+i),b5_,EO]
def Bkg(hcode:b.code=0)(h:∀r∈l,Tp b r):K3 l/\∀r∈l,Ay b r=A:=⟨λr hr=>by obtain⟨i,_,rfl⟩:=h r hr;exact .inr (.inl rfl),λr hr=>by obtain⟨i,hi,rfl⟩:=h r hr;exact Akq hcode ⟨ω,ω⟩ (.inr ⟨.inl rfl,τ⟩)⟩
def Vp(t:Pk)(x:Inp)(i:Nat):Prop:=(Eu (Z t.m.F0 i)=A/\(t.m.U0.getD i Hw).G1=2)\/(Aa0 (Z t.m.F0 i)=A/\(x.cars.getD i UF).Q2=A/\(x.cars.getD i UF).E2=2)
section
variable{b:S}(hw:BW b){x:Inp}{g:Bool}(hx:g=A->InOK b x)
include hw hx
theorem Boz(hm:PM b t.m)(hr:PR b t)(hb:Bud t):aA (t.ap ET b x g) λy=>∃(t':Pk) (l:List W),y=((),(t'.tup b x g,()))/\(∀r∈l,Tp b r)/\l.length<=8/\(Al b t t' l\/De b t t' l)/\t'.out={ t.out with B0:=t'.out.B0 }/\(g=A->∀j,j<b.B0.length->Eu (Z t.m.F0 j)=A->DC t' j):=by
 unfold Pk.ap ET;refine N (Ba4 hw hx hm hr) λy1 h1=>?_;obtain⟨u,l,rfl,hm1,hr1,hf,hl,hv,hdc⟩:=h1;obtain⟨k3,v3⟩:=Bkg hw.code hv;have hb1:Bud u:=⟨hf.e.trans hb.1,by rw[hf.bu];exact hb.2⟩
 refine N (Q:=λy=>∃t',y=((),(t'.tup b x g,()))/\Wr b u l t') ?_ λy hy=>?_
 .refine N (Abi hw.small (x:=x) (g:=g) hm1.jst hb1.2 hb1.1 (k3.good _ v3) (ω:l.length<=100000)) λy2 h2=>?_;obtain⟨t',e|e,h⟩:=h2
  .subst e;exact C ⟨t',rfl,h⟩
  .subst e;exact C ⟨t',rfl,h⟩
 obtain⟨t',rfl,h⟩:=hy;obtain⟨h1,h2⟩:=h.fin hw hm1 hr1 k3;refine C ⟨t',l,rfl,hv,hl,?_,by rw[h2,hf.out],?_⟩
 rotate_left
 .obtain⟨_,_,_,_,rfl,_⟩:=h;exact hdc
 rcases h1 with h1|h1
 .exact .inl ⟨h1.e,h1.m,h1.r,by rw[h1.im,hf.im],h1.b0,by rw[<-hf.bu];exact h1.b1,by rw[<-hf.bu];exact h1.b2,h1.con.trans hf.con⟩
 .exact .inr ⟨h1.e,by rw[<-hf.bu];exact h1.lo,h1.ok,by rw[<-hf.im];exact h1.rp⟩
omit hx in
theorem Ba2(hm:PM b t.m)(hxl:x.cars.length=b.B0.length):aA (BU (t.ap aX b x g)) λy=>∃c:List Bool,y=((c,()),())/\c.length=b.B0.length/\∀j,j<b.B0.length->c.getD j B=A->Vp t x j:=by
 have hcc:=Ah hw.code;have hp:=hm.jst.img.lp;unfold BU;refine H (by show((decide ((0:Int)<=(b.B0.length:Int))&&decide ((b.B0.length:Int)<=(b.B0.length:Int)))&&decide ((b.B0.length:Int)<=2147483648))=A;simp only[e_,q_];omega) (N (Q:=λy=>∃c:List Bool,y=((c,()),())/\c.length=b.B0.length/\∀j,j<b.B0.length->c.getD j B=A->Vp t x j) ?_ λy h=>by obtain⟨c,rfl,h⟩:=h;exact C ⟨c,rfl,h⟩);generalize hT:t.ap aX b x g=T;have eb:T.m_Beliefs=t.m.U0:=by rw[<-hT];rfl
 have ec:T.m_Cars=t.m.B0:=by rw[<-hT];rfl
 have ex:T.x_Cars=x.cars:=by rw[<-hT];rfl
 have ep:T.m_Image_Phases=t.m.F0.G0:=by rw[<-hT];rfl
 have e1:T.b_Floors=b.C0:=by rw[<-hT];rfl
 have e2:T.b_Debounce=b.E0:=by rw[<-hT];rfl
 have e3:T.b_Room=b.I0:=by rw[<-hT];rfl
 have e4:T.b_Park=b.M0:=by rw[<-hT];rfl
 have e5:T.b_Empty=b.J0:=by rw[<-hT];rfl
 have e6:T.b_Full=b.L0:=by rw[<-hT];rfl
 have e7:T.b_Over=b.N0:=by rw[<-hT];rfl
 have e8:T.b_Cars=b.B0:=by rw[<-hT];rfl
 unfold Ep;refine aL (λ(k:Nat) z=>∃(i:Nat) (c:List Bool),z=((T,c,T.m_Image_Phases,(T.m_Image_Phases.length:Int),(i:Int),()),())/\i+k=b.B0.length/\c.length=b.B0.length/\∀j,j<i->c.getD j B=A->Vp t x j) (λk z hz=>?_) b.B0.length ⟨0,_,rfl,o_ _,by rw[S_,e8];omega,λj hj=>absurd hj (e8_ j)⟩ ω;obtain⟨i,c,rfl,hk,hc,hcj⟩:=hz;show aA (Gm T c T.m_Image_Phases (T.m_Image_Phases.length:Int) (i:Int)) _;unfold Gm;rw[eb,ec,ex,ep,e1,e2,e3,e4,e5,e6,e7,e8];refine U (λq=>?_) λq=>C ⟨c,rfl,hc,λj hj=>hcj j (by have:=C_ q;omega)⟩;have q:(i:Int)<(t.m.F0.G0.length:Int):=l_ q;have hi:i<b.B0.length:=ω;have w:=Dq (n:=i) ω;have i2:aE (i:Int) t.m.U0.length=A:=Ac ω (by rw[hm.bel];omega);have i3:aE (i:Int) t.m.B0.length=A:=Ac ω (by rw[hm.car];omega);have i4:aE (i:Int) c.length=A:=Ac ω ω;have i5:aE (i:Int) x.cars.length=A:=Ac ω ω;refine H (Ac ω q) ?_;have done:∀v:Bool,(v=A->Vp t x i)->(c.set i v).length=b.B0.length/\∀j,j<i+1->(c.set i v).getD j B=A->Vp t x j:=λv hv=>⟨by rw[z_];exact hc,λj hj h=>by
  by_cases e:i=j
  .subst e;rw[By _ _ ω]at h;exact hv h
  .rw[Df _ _ e]at h;exact hcj j ω h⟩
 have no:∀{p:Prop},B=A->p:=λq=>by cases q
 refine N (Q:=λy=>∃v:Bool,y=((T,c.set i v,t.m.F0.G0,(t.m.F0.G0.length:Int),(i:Int),()),())/\(v=A->Vp t x i)) ?_ λy hy=>?_
 .have still:aA ((FK (t.m.F0.G0.getD (aH (i:Int)) 0)).bind λy3=>bif y3.1.1 then(bif aE (i:Int) t.m.B0.length then(let z2:=t.m.B0.getD (aH (i:Int)) Bs
   bif aE (i:Int) x.cars.length then(let z3:=x.cars.getD (aH (i:Int)) UF
   (KR b.C0 b.E0 b.I0 b.M0 b.J0 b.L0 b.N0 b.B0 z2.T1 z2.F1 z2.X0 z2.M1 z2.I1 z2.L1 z2.E1 z2.T0 z2.W0 z2.S0 z2.M2 z2.J3 z2.Y3 z2.Q3 z3.H2 z3.Q2 z3.E2 z3.Z2).bind λy4=>bif aE (i:Int) c.length then V ((T,c.set (aH (i:Int)) y4.1.1,t.m.F0.G0,(t.m.F0.G0.length:Int),(i:Int),()),())else none)else none)else none)else(bif aE (i:Int) c.length then V ((T,c.set (aH (i:Int)) B,t.m.F0.G0,(t.m.F0.G0.length:Int),(i:Int),()),())else none)) λy=>∃v:Bool,y=((T,c.set i v,t.m.F0.G0,(t.m.F0.G0.length:Int),(i:Int),()),())/\(v=A->Vp t x i):=
   J (Ai7 _) (U (λhd=>H i3 (H i5 (N (Aib hw.small hw.code (t.m.B0.getD i Bs) _ _ _ _) λy4 h4=>H i4 (C ⟨y4.1.1,rfl,λh=>.inr ⟨hd,h4 h⟩⟩)))) λ_=>H i4 (C ⟨B,rfl,no⟩))
  refine J (Ys _) (U (λhwi=>H i2 ?_) λ_=>still);refine N (Ag5 hw.small hw.code hi (hm.belv i hi)) λy2 h2=>U (λq=>H i4 (C ⟨A,rfl,λ_=>.inl ⟨hwi,h2 q⟩⟩)) λ_=>still
 obtain⟨v,rfl,hv⟩:=hy;obtain⟨d1,d2⟩:=done v hv;rw[<-ep];exact C ⟨k-1,ω,i+1,c.set i v,by first|(rw[<-w];rfl)|rw[<-w],ω,d1,d2⟩
end
def Pk.stat(t:Pk)(n:Int):Pk:={ t with out:={ t.out with M4:=n } }
def Pk.sRst(t:Pk)(i:Nat):Pk:={ t with reset:=t.reset.set i A }
def PR.sRst(h:PR b t)(i:Nat):PR b (t.sRst i):=⟨h.leg,h.sho,by show(t.reset.set i A).length=_;rw[z_];exact h.rst,h.oc,h.cmd⟩
def Kt(m:aB)(kind:Int)(i:Nat)(calm fr:Bool):List W×Int:=bif kind==0 then([],(0:Int))else NF m i calm fr kind
def Kf(b:S)(r:W):Prop:=∃(i:Nat) (k v:Int),i<b.B0.length/\r=⟨k,0,0,i,v⟩/\((k=4/\0<=v/\v<=4)\/((k=5\/k=6)/\0<=v/\v<=1))
def Ar3(hcode:b.code=0)(h:∀r∈l,Kf b r):K3 l/\∀r∈l,Ay b r=A:=by
 refine⟨λr hr=>?_,λr hr=>?_⟩<;>obtain⟨i,k,v,hi,rfl,h⟩:=h r hr
 .show k=4\/k=5\/k=6;omega
 .exact Akq hcode ⟨ω,ω⟩ h
def Bgh(hi:i<b.B0.length){k v:Int}(h:(k=4/\0<=v/\v<=4)\/((k=5\/k=6)/\0<=v/\v<=1)):∀r∈[(⟨k,0,0,i,v⟩:W)],Kf b r:=λr hr=>⟨i,k,v,hi,B_.1 hr,h⟩
def ZQ(m:aB)(kind:Int)(hi:i<b.B0.length)(calm fr:Bool):(∀r∈(Kt m kind i calm fr).1,Kf b r)/\(Kt m kind i calm fr).1.length<=1:=by
 have no:∀e:Int,(∀r∈(([]:List W),e).1,Kf b r)/\(([]:List W),e).1.length<=1:=λe=>⟨λr h=>(by cases h),a3_ _⟩
 have one:∀{k v:Int},((k=4/\0<=v/\v<=4)\/((k=5\/k=6)/\0<=v/\v<=1))->(∀r∈([(⟨k,0,0,i,v⟩:W)],(0:Int)).1,Kf b r)/\([(⟨k,0,0,i,v⟩:W)],(0:Int)).1.length<=1:=λh=>⟨Bgh hi h,y_ 1⟩
 unfold Kt NF;have ite:∀(c:Bool) {x y:List W×Int},((∀r∈x.1,Kf b r)/\x.1.length<=1)->((∀r∈y.1,Kf b r)/\y.1.length<=1)->(∀r∈(bif c then x else y).1,Kf b r)/\(bif c then x else y).1.length<=1:=λc _ _ h1 h2=>by
  cases c
  .exact h2
  .exact h1
 exact ite _ (no 0) (ite _ (ite _ (one (.inl ⟨rfl,τ⟩)) (no _)) (ite _ (one (.inl ⟨rfl,τ⟩)) (ite _ (one (.inl ⟨rfl,τ⟩)) (ite _ (one (.inr ⟨.inr rfl,τ⟩)) (ite _ (one (.inl ⟨rfl,τ⟩)) (ite _ (ite _ (one (.inl ⟨rfl,τ⟩)) (no _)) (ite _ (ite _ (one (.inl ⟨rfl,τ⟩)) (no _)) (ite _ (ite _ (one (.inr ⟨.inr rfl,τ⟩)) (no _)) (ite _ (one (.inr ⟨.inl rfl,τ⟩)) (no _))))))))))
def Ag3{b:S}(m:aB)(calm:List Bool):∀n,n<=b.B0.length->∀r∈Es m calm n,Kf b r
 |0,_,_,h=>by cases h
 |n+1,hn,r,h=>by
  rcases n_.1 h with h|h
  .exact Ag3 m calm n ω r h
  .unfold Pj at h;cases hg:Ps m calm n with
   |false=>rw[hg]at h;cases h
   |true=>
    rw[hg,d_]at h;rcases n_.1 h with h|h
    .rcases n_.1 h with h|h
     .exact⟨n,4,2,ω,B_.1 h,.inl ⟨rfl,τ⟩⟩
     .cases hl:IA m n with
      |false=>rw[hl]at h;cases h
      |true=>rw[hl]at h;exact⟨n,6,0,ω,B_.1 h,.inr ⟨.inr rfl,τ⟩⟩
    .cases hl:flA m n with
     |false=>rw[hl]at h;cases h
     |true=>rw[hl]at h;exact⟨n,5,0,ω,B_.1 h,.inr ⟨.inl rfl,τ⟩⟩
def Jh(b:S)(m:aB)(kind:Int)(i:Nat)(cm:List Bool)(fr:Bool):List W:=(Kt m kind i (cm.getD i B) fr).1++Es (Aj m (Kt m kind i (cm.getD i B) fr).1) (bif kind !=0 then cm.set i B else cm) b.B0.length
structure Opr(b:Bldg)(x:Inp)(g:Bool)(t t':Pk)(l:List Record):Prop where
 res:Al b t t' l\/De b t t' l
 how:∃(i:Nat) (cm:List Bool) (fr:Bool),x.car=(i:Int)/\i<b.B0.length/\cm.length=b.B0.length/\l=Jh b t.m.F0 x.kind i cm fr/\t'.out={ t.out with M4:=(Kt t.m.F0 x.kind i (cm.getD i false) fr).2 }/\BU (t.ap machine_ticker.mk b x g)=some ((cm,()),())/\Du t.m.F0.G0 t.m.F0.O0 t.m.F0.K0 t.m.F0.A0=some ((fr,()),())
section
variable{b:S}(hw:BW b){x:Inp}{g:Bool}(hx:InOK b x)
include hw
theorem BelOK.new:BelOK b i ⟨-1,0,0,[],0,B⟩:=by
 have:=hw.small.lo
 exact⟨⟨τ,show(-1:Int)<=b.C0-1 by omega⟩,τ,τ,τ,λ_=>rfl,.nil⟩
theorem Bgl(hm:PM b t.m)(hr:PR b t)(e:Int)(was:aB)(hwl:was.G0.length=b.B0.length):aA (BJ (((),(),(),e,t.m.F0.G0,(t.m.F0.G0.length:Int),(0:Int),()),((was.G0,was.O0,was.K0,was.A0,()),(x.kind,x.car,()),t.tup b x g,()))) λy=>∃t':Pk,y=((),(t'.tup b x g,()))/\PM b t'.m/\PR b t'/\Fix t t'/\t'.out=t.out:=by
 have hcc:=Ah hw.code;have hp:=hm.jst.img.lp;unfold BJ;refine aL (λ(k:Nat) z=>∃(i:Nat) (t':Pk),z=(((),(),(),e,t.m.F0.G0,(t.m.F0.G0.length:Int),(i:Int),()),((was.G0,was.O0,was.K0,was.A0,()),(x.kind,x.car,()),t'.tup b x g,()))/\i+k=b.B0.length/\PM b t'.m/\PR b t'/\Fix t t'/\t'.out=t.out) (λk z hz=>?_) b.B0.length ⟨0,t,rfl,o_ _,hm,hr,.rfl' t,rfl⟩ ω;obtain⟨i,u,rfl,hk,hm,hr,hf,ho⟩:=hz;show aA (u.ap (FA e t.m.F0.G0 (t.m.F0.G0.length:Int) (i:Int) was.G0 was.O0 was.K0 was.A0 x.kind x.car) b x g) _;unfold Pk.ap FA;refine U (λq=>?_) λ_=>C ⟨u,rfl,hm,hr,hf,ho⟩;have q:(i:Int)<(t.m.F0.G0.length:Int):=l_ q;have hi:i<b.B0.length:=ω;have w:=Dq (n:=i) ω;have i2:aE (i:Int) u.m.U0.length=A:=Ac ω (by rw[hm.bel];omega);have i3:aE (i:Int) u.m.B0.length=A:=Ac ω (by rw[hm.car];omega);have i4:aE (i:Int) u.reset.length=A:=Ac ω (by rw[hr.rst];omega);refine H (Ac ω q) (H (Ac ω ω) ?_);refine N (Q:=λ_=>True) (by unfold MP;exact Sat.go) λy1 _=>U (λ_=>?_) λ_=>?_
 .refine J rfl (H i2 (H i3 (H i4 ?_)));exact C ⟨k-1,ω,i+1,((u.sBel i ⟨-1,0,0,[],0,B⟩).sCar i Bs).sRst i,by first|(rw[<-w];rfl)|rw[<-w],ω,(hm.sBel (BelOK.new hw)).sCar i (Oo hw.small),((hr.sBel i _).sCar i _).sRst i,⟨⟨hf.im,hf.st,hf.bu,hf.e,hf.out⟩,hf.con⟩,ho⟩
 refine N (Q:=λy=>∃c:Bool,y=(((),(),(),e,(i:Int),t.m.F0.G0,(t.m.F0.G0.length:Int),(i:Int),c,()),((was.G0,was.O0,was.K0,was.A0,()),(x.kind,x.car,()),u.tup b x g,()))) (U (λ_=>U (λ_=>C ⟨_,rfl⟩) λ_=>C ⟨_,rfl⟩) λ_=>C ⟨_,rfl⟩) λy3 h3=>?_;obtain⟨c,rfl⟩:=h3;refine U (λ_=>H i2 ?_) λ_=>C ⟨k-1,ω,i+1,u,by first|(rw[<-w];rfl)|rw[<-w],ω,hm,hr,hf,ho⟩;refine N (Aek hw.small hw.code hi (hm.belv i hi)) λy4 h4=>H i2 (H i3 (H i4 ?_));obtain⟨ya,yb,yc⟩:=y4;obtain⟨v,e4,hv⟩:=h4;change yb=_ at e4;subst e4;exact C ⟨k-1,ω,i+1,((u.sBel i v).sCar i Bs).sRst i,by first|(rw[<-w];rfl)|rw[<-w],ω,(hm.sBel hv).sCar i (Oo hw.small),((hr.sBel i _).sCar i _).sRst i,⟨⟨hf.im,hf.st,hf.bu,hf.e,hf.out⟩,hf.con⟩,ho⟩
include hx
theorem Bcp(hm:PM b t.m)(hr:PR b t)(hb:Bud t):aA (t.ap DT b x g) λy=>∃(t':Pk) (l:List W),(y=.inl ((),(t'.tup b x g,()))\/y=.inr ((),(t'.tup b x g,())))/\Opr b x g t t' l:=by
 have hcc:=Ah hw.code;have he:=DH hw.small hm.jst.img;obtain⟨fr,hfr⟩:=Bki hm.jst.img;obtain⟨i,hi⟩:=c3_ hx.car.1;have hic:i<b.B0.length:=by have:=hx.car.2;omega
 unfold Pk.ap DT;obtain⟨y1,hcalm,cm,rfl,hcm,_⟩:=Ba2 hw (x:=x) (g:=g) hm hx.len;refine J hcalm ?_;have hord:=Aie hm.jst.img hw.small ω hx.kind hic hcm hfr;rw[<-hi]at hord;refine J hord ?_;obtain⟨ok1,len1⟩:=ZQ (b:=b) t.m.F0 x.kind hic (cm.getD i B) fr;obtain⟨k31,v1⟩:=Ar3 hw.code ok1;have hO:(bif x.kind==0 then([],(0:Int))else NF t.m.F0 i (cm.getD i B) fr x.kind)=Kt t.m.F0 x.kind i (cm.getD i B) fr:=rfl;have hL:Jh b t.m.F0 x.kind i cm fr=(Kt t.m.F0 x.kind i (cm.getD i B) fr).1++Es (Aj t.m.F0 (Kt t.m.F0 x.kind i (cm.getD i B) fr).1) (bif x.kind !=0 then cm.set i B else cm) b.B0.length:=rfl;rw[hO];generalize hOO:Kt t.m.F0 x.kind i (cm.getD i B) fr=O at ok1 len1 k31 v1 hL;obtain⟨O1,O2⟩:=O;refine N (Q:=λy=>∃t',y=(((),(),(),cm,O2,()),((t.m.F0.G0,t.m.F0.O0,t.m.F0.K0,t.m.F0.A0,()),(x.kind,x.car,()),t'.tup b x g,()))/\Wr b (t.stat O2) O1 t') ?_ λy5 h5=>?_
 .refine N (Abi hw.small (x:=x) (g:=g) (t:=t.stat O2) hm.jst hb.2 hb.1 (k31.good _ v1) (show O1.length<=100000 by have:O1.length<=1:=len1;omega)) λy2 h2=>?_;obtain⟨t',e|e,h⟩:=h2
  .subst e;exact C ⟨t',rfl,h⟩
  .subst e;exact C ⟨t',rfl,h⟩
 obtain⟨t1,rfl,hw1⟩:=h5;obtain⟨r1,o1⟩:=hw1.fin hw (t:=t.stat O2) hm ⟨hr.leg,hr.sho,hr.rst,hr.oc,hr.cmd⟩ k31;have r1:Al b t t1 O1\/De b t t1 O1:=by
  rcases r1 with r|r
  .exact .inl ⟨r.e,r.m,r.r,r.im,r.b0,r.b1,r.b2,r.con⟩
  .exact .inr ⟨r.e,r.lo,r.ok,r.rp⟩
 have hsl:(bif x.kind !=0 then cm.set i B else cm).length=b.B0.length:=by
  cases x.kind !=0
  .exact hcm
  .show(cm.set i B).length=_;rw[z_];exact hcm
 refine J (b:=(((),(),(),(bif x.kind !=0 then cm.set i B else cm),O2,()),((t.m.F0.G0,t.m.F0.O0,t.m.F0.K0,t.m.F0.A0,()),(x.kind,x.car,()),t1.tup b x g,()))) ?_ ?_
 .show(bif x.kind !=0 then(bif aE x.car cm.length then _ else none)else _)=_;cases x.kind !=0 with
  |false=>rfl
  |true=>rw[d_,Ac hx.car.1 (by have:=hx.car.2;omega),d_,d_];show V (((),(),(),cm.set (aH x.car) B,_,()),_)=_;rw[hi,j_]
 generalize(bif x.kind !=0 then cm.set i B else cm)=c2 at hsl hL;refine N (Q:=λy=>∃t2,y=(((),(),(),O2,()),((t.m.F0.G0,t.m.F0.O0,t.m.F0.K0,t.m.F0.A0,()),(x.kind,x.car,()),t2.tup b x g,()))/\(Al b t t2 (Jh b t.m.F0 x.kind i cm fr)\/De b t t2 (Jh b t.m.F0 x.kind i cm fr))/\t2.out={ t.out with M4:=O2 }) ?_ λy11 h11=>?_
 .refine U (λq=>?_) λq=>?_
  .have q:t1.e=0:=eq_of_beq q;have r:Al b t t1 O1:=by
    rcases r1 with r|r
    .exact r
    .have:=r.e;omega
   have he1:=DH hw.small r.m.jst.img;have hb1:=r.bud hb;refine N (Q:=λy=>∃t2,y=(((),(),(),O2,()),((t.m.F0.G0,t.m.F0.O0,t.m.F0.K0,t.m.F0.A0,()),(x.kind,x.car,()),t2.tup b x g,()))/\(Al b t t2 (Jh b t.m.F0 x.kind i cm fr)\/De b t t2 (Jh b t.m.F0 x.kind i cm fr))/\t2.out={ t.out with M4:=O2 }) ?_ λy10 h10=>by obtain⟨t2,rfl,h⟩:=h10;exact C ⟨t2,rfl,h⟩
   have hauto:=Alc r.m.jst.img hw.small ω hsl;have ok2:=Ag3 (b:=b) t1.m.F0 c2 b.B0.length (y_ _);have len2:=Vk t1.m.F0 c2 b.B0.length;rw[r.im]at ok2 len2;obtain⟨k32,v2⟩:=Ar3 hw.code ok2;refine J hauto ?_;rw[r.im];refine N (Abi hw.small (x:=x) (g:=g) (t:=t1) r.m.jst hb1.2 hb1.1 (k32.good _ v2) (ω:(Es (Aj t.m.F0 O1) c2 b.B0.length).length<=100000)) λy2 h2=>?_;have fin:∀t2,Wr b t1 (Es (Aj t.m.F0 O1) c2 b.B0.length) t2->(Al b t t2 (Jh b t.m.F0 x.kind i cm fr)\/De b t t2 (Jh b t.m.F0 x.kind i cm fr))/\t2.out={ t.out with M4:=O2 }:=λt2 h=>by
    obtain⟨r2,o2⟩:=h.fin hw r.m r.r k32;rw[hL];refine⟨?_,by rw[o2,o1];rfl⟩;rcases r2 with r2|r2
    .exact .inl (r.app r2)
    .exact .inr (r.de r2)
   obtain⟨t2,e|e,h⟩:=h2
   .subst e;exact C ⟨t2,rfl,fin t2 h⟩
   .subst e;exact C ⟨t2,rfl,fin t2 h⟩
  .have q:¬t1.e=0:=λh=>by have q:(t1.e==0)=B:=q;rw[h]at q;cases q
   rcases r1 with r|r
   .exact absurd r.e q
   .exact C ⟨t1,rfl,.inr (by rw[hL];exact r.mono _),by rw[o1];rfl⟩
 .obtain⟨t2,rfl,r2,o2⟩:=h11;have how:∀t':Pk,t'.out={ t.out with M4:=O2 }->∃(i':Nat) (cm':List Bool) (fr':Bool),x.car=(i':Int)/\i'<b.B0.length/\cm'.length=b.B0.length/\Jh b t.m.F0 x.kind i cm fr=Jh b t.m.F0 x.kind i' cm' fr'/\t'.out={ t.out with M4:=(Kt t.m.F0 x.kind i' (cm'.getD i' B) fr').2 }/\BU (t.ap aX b x g)=V ((cm',()),())/\Du t.m.F0.G0 t.m.F0.O0 t.m.F0.K0 t.m.F0.A0=V ((fr',()),()):=λt' ho=>⟨i,cm,fr,hi,hic,hcm,rfl,by rw[hOO];exact ho,hcalm,hfr⟩
  refine U (λ_=>C ⟨t2,_,.inl rfl,r2,how t2 o2⟩) λq=>?_;have q:t2.e=0:=by have q:(t2.e !=0)=B:=q;simpa using q
  have r:Al b t t2 (Jh b t.m.F0 x.kind i cm fr):=by
   rcases r2 with r|r
   .exact r
   .have:=r.e;omega
  refine N (Bgl hw (x:=x) (g:=g) r.m r.r O2 t.m.F0 hm.jst.img.lp) λy12 h12=>?_;obtain⟨t3,rfl,m3,r3,f3,o3⟩:=h12;exact C ⟨t3,_,.inr rfl,.inl ⟨f3.e.trans r.e,m3,r3,f3.im.trans r.im,by rw[f3.bu];exact r.b0,by rw[f3.bu];exact r.b1,by rw[f3.bu];exact r.b2,f3.con.trans r.con⟩,how t3 (o3.trans o2)⟩
end
def inX(l:List Int):Prop:=∀x∈l,0<=x/\x<=1000000
def inX.exp{l:List Int}(h:inX l):QC l=A:=L_.2 λx hx=>An.2 (h x hx)
def Bu1(E:List aD){xs:List Int}(h:inX xs)(r:W):inX (xsV E xs r):=by
 unfold xsV;cases(r.Q0==2)&&GO (Ax r.D0 r.H0) E with
 |true=>
  intro x hx;rcases n_.1 hx with hx|hx
  .exact h x (e5_ hx)
  .exact h x (e6_ hx)
 |false=>
  cases(r.Q0==1)&&!GO (Ax r.D0 r.H0) E with
  |true=>
   intro x hx;rcases n_.1 hx with hx|hx
   .rcases n_.1 hx with hx|hx
    .exact h x (e5_ hx)
    .rw[B_.1 hx];decide
   .exact h x (e6_ hx)
  |false=>exact h
def Bg4(hcode:b.code=0)(i:Int):0<=(Xk b i).J2/\(Xk b i).J2<=10000:=by
 by_cases h:i.toNat<b.B0.length
 .exact(Aet hcode h).2.2.2
 .unfold Xk;rw[k_,List.getElem?_eq_none ω];decide
def Bgc(hcode:b.code=0)(vs:List aF)(e n:aD){x:Int}(hx:0<=x/\x<=1000000):0<=Aa9 b vs e n x/\Aa9 b vs e n x<=1000000:=by
 unfold Aa9;have h1:=Bkd b n.R0 (Aq vs n.R0) e.D0 e.H0;have h2:=Bg4 hcode n.R0;rw[Aa (n:=x-1) ω ω,Aa (n:=SJ b n.R0 (Aq vs n.R0) e.D0 e.H0+(Xk b n.R0).J2) ω ω];cases n.R0 !=e.R0&&decide (0<=n.R0)with
 |true=>
  rw[d_];by_cases g:1000000<SJ b n.R0 (Aq vs n.R0) e.D0 e.H0+(Xk b n.R0).J2
  .rw[b_ g,d_];decide
  .rw[f_ g,c_];omega
 |false=>
  rw[c_];by_cases g:x-1<0
  .rw[b_ g,d_];decide
  .rw[f_ g,c_];omega
def Apc{b:S}(hcode:b.code=0)(vs:List aF):∀(l:List aD) (xs:List Int),inX xs->inX (Ng b vs l xs)
 |[],_,_,_,h=>by simp[Ng]at h
 |_::_,[],_,_,h=>by simp[Ng]at h
 |e::t,x::xs,hx,y,h=>by
  rcases s_.1 h with rfl|h
  .exact Bgc hcode vs e _ (hx x (p_ ..))
  .exact Apc hcode vs t xs (λz hz=>hx z (r_ _ hz)) y h
def Av9(a c:aD):∀r∈Ot a c,r.Q0=3\/r.Q0=7:=by
 unfold Ot;intro r h;rcases n_.1 h with h|h
 .cases q:(a.D1 !=c.D1||!(a.D2==c.D2))with
  |false=>rw[q]at h;cases h
  |true=>rw[q]at h;rw[B_.1 h];exact .inr rfl
 .cases q:a.R0 !=c.R0 with
  |false=>rw[q]at h;cases h
  |true=>rw[q]at h;rw[B_.1 h];exact .inl rfl
def QJ(b:S)(vs:List aF):∀(l:List aD) (xs:List Int),∀r∈Hx b vs l xs,r.Q0=3\/r.Q0=7
 |[],_,_,h=>by simp[Hx]at h
 |_::_,[],_,h=>by simp[Hx]at h
 |e::t,x::xs,r,h=>by
  rcases n_.1 h with h|h
  .exact Av9 _ _ r h
  .exact QJ b vs t xs r h
structure Rg(b:Bldg)(m:Img)(X:Rnd):Prop where
 good:goodL b m X.recs
 img:Aj m X.recs=X.img
 ok:X.ok b
 xs:inX X.xs
def Rg.step{X:Rnd}(h:Rg b m X){r:W}(hv:Ay b r=A)(hf:KD b X.img r=B):Rg b m (RT r X):=⟨h.good.app (k:=[r]) ⟨hv,by rw[h.img];exact hf,trivial⟩,by show Aj m (X.recs++[r])=Ak X.img r;rw[EO,h.img];rfl,Yo h.ok hv,Bu1 _ h.xs r⟩
def Rg.wr{b:S}{m:aB}:∀{l:List W}{X:Rnd},Rg b m X->goodL b X.img l->Rg b m (wrL l X)
 |[],X,h,_=>by unfold wrL;rw[Y_];exact⟨h.good,h.img,⟨h.ok.img,h.ok.len⟩,h.xs⟩
 |r::t,X,h,⟨h1,h2,h3⟩=>by rw[Yt];exact Rg.wr (h.step h1 h2) h3
def Rg.reg{b:S}{m:aB}:∀{l:List aD}{X:Rnd},Rg b m X->(∀e∈l,Ar b e.D0 e.H0=A)->Rg b m (EL b l X)
 |[],_,h,_=>h
 |e::t,X,h,hv=>by
  refine Rg.reg (l:=t) (X:=Cz b e X) ?_ λx hx=>hv x (r_ _ hx);unfold Cz;cases hr:KG b X.img with
  |true=>exact h.step (ZZ (hv e (p_ ..))) (by unfold KD;rw[hr];simp)
  |false=>exact⟨h.good,h.img,⟨h.ok.img,h.ok.len⟩,h.xs⟩
section
variable{b:S}(hb:b.small)(hcode:b.code=0){m:aB}(hm:ImgOK b m){xs:List Int}(hx:xs.length=m.A0.length)(hxv:inX xs){vs:List aF}(ps:List aN)(press:Int×Int)(good:Bool)
include hb hcode hm hx hxv
theorem UY:Rg b m (Bu b m xs vs ps press good):=by
 have h0:∀L:Lan,Rg b m ⟨[],m,xs,L,(0,0)⟩:=λL=>⟨trivial,rfl,⟨hm,hx⟩,hxv⟩
 unfold Bu;cases good with
 |false=>exact h0 _
 |true=>have hv:=RR hcode vs (l:=m.A0) λe he=>(CZ.1 (hm.en e he)).1;exact((h0 _).wr (XM m λr hr=>⟨(hv r hr).1,by rw[(hv r hr).2];decide⟩)).reg λe he=>XJ hb hcode he
variable(hvl:vs.length=b.B0.length)
include hvl
theorem QP:TF b m xs vs ps press good=(Hx b vs (Bu b m xs vs ps press good).img.A0 (Bu b m xs vs ps press good).xs,Ng b vs (Bu b m xs vs ps press good).img.A0 (Bu b m xs vs ps press good).xs,0,()):=by have h:=UY hb hcode hm hx hxv (vs:=vs) ps press good;unfold TF Pt;rw[Img.ok_iff.2 h.ok.img,show(((Bu b m xs vs ps press good).xs.length:Int)==((Bu b m xs vs ps press good).img.A0.length:Int))=A by rw[h.ok.len];exact m_ _,show((vs.length:Int)==(b.B0.length:Int))=A by rw[hvl];exact m_ _,h.xs.exp];rfl
theorem Ad6:Rg b m (Fg b m xs vs ps press good)/\(Fg b m xs vs ps press good).recs.length<=300:=by
 have hcc:=Ah hcode;have h:=UY hb hcode hm hx hxv (vs:=vs) ps press good;have hlen:=(Apy hb hcode hm hx (vs:=vs) ps press good).2;have hp:=QP hb hcode hm hx hxv (vs:=vs) ps press good hvl;have he:=DH hb h.ok.img;unfold Fg;rw[hp];generalize Bu b m xs vs ps press good=X at h hlen he;obtain⟨p1,p2,p3⟩:=Tz (b:=b) ω (by omega:(vs.length:Int)=(b.B0.length:Int)) X.img.A0 X.xs [] X.img h.ok.len h.ok.img rfl;rw[a4_]at p1 p3;have hk:=QJ b vs X.img.A0 X.xs;have hw:=h.wr (l:=Hx b vs X.img.A0 X.xs) (XM X.img λr hr=>⟨p2 r hr,by have:=hk r hr;omega⟩);have hl:=ZW b vs X.img.A0 X.xs;refine⟨⟨hw.good,hw.img,⟨hw.ok.img,?_⟩,Apc hcode vs _ _ h.xs⟩,?_⟩
 .show(Ng b vs X.img.A0 X.xs).length=(Aj X.img (Hx b vs X.img.A0 X.xs)).A0.length;rw[p1,ZV b vs _ _ h.ok.len];show _=(PB b vs X.img.A0 X.xs).length;rw[Xs b vs _ _ h.ok.len]
 .show(X.recs++Hx b vs X.img.A0 X.xs).length<=300;rw[g_];omega
end
def Aot(b:S)(vs:List aF)(ps:List aN):∀(m i:Nat) (s:Lan),(AV (Ln b vs ps) m i s).lit.length=s.lit.length+m/\(AV (Ln b vs ps) m i s).gong.length=s.gong.length+m
 |0,_,_=>⟨rfl,rfl⟩
 |m+1,i,s=>by
  obtain⟨h1,h2⟩:=Aot b vs ps m (i+1) (Ln b vs ps i s);have e1:(Ln b vs ps i s).lit.length=s.lit.length+1:=by unfold Ln;show(s.lit++[_]).length=_;rw[g_];rfl
  have e2:(Ln b vs ps i s).gong.length=s.gong.length+1:=by unfold Ln;show(s.gong++[_]).length=_;rw[g_];rfl
  exact⟨by show(AV (Ln b vs ps) m (i+1) (Ln b vs ps i s)).lit.length=_;omega,by show(AV (Ln b vs ps) m (i+1) (Ln b vs ps i s)).gong.length=_;omega⟩
def Adw(b:S):∀(l:List aD) (X:Rnd),(EL b l X).lan=X.lan
 |[],_=>rfl
 |e::t,X=>by show(EL b t (Cz b e X)).lan=X.lan;rw[Adw b t];unfold Cz;cases KG b X.img<;>rfl
def Aao(b:S)(m:aB)(xs:List Int)(vs:List aF)(ps:List aN)(press:Int×Int)(good:Bool):(Fg b m xs vs ps press good).lan=bif good then Dk b vs ps else Aun vs.length:=by
 show(Bu b m xs vs ps press good).lan=_;unfold Bu;cases good with
 |true=>rw[d_,d_,Adw];rfl
 |false=>rfl
def Akp(b:S)(m:aB)(xs:List Int)(vs:List aF)(ps:List aN)(press:Int×Int)(good:Bool):(Fg b m xs vs ps press good).lan.lit.length=vs.length/\(Fg b m xs vs ps press good).lan.gong.length=vs.length:=by
 rw[Aao];cases good with
 |true=>obtain⟨h1,h2⟩:=Aot b vs ps vs.length 0 Lan.none;exact⟨h1.trans (o_ _),h2.trans (o_ _)⟩
 |false=>exact⟨S_,S_⟩
@[reducible] def Bxb(v:aF):=(v.L3,v.O3,v.R3,v.C4,v.D0,v.H0,v.A4,v.U3,v.B3,v.Y2,v.Z1,v.N1,())
def Bci(hb:b.small){x:NewCar}(h:IB b x=A):Aiv x.M2:=by
 have h2:=Apz hb;unfold IB at h;cases hf:x.Q3 with
 |true=>rw[hf]at h;simp only[d_,Ahb,e_,R_]at h;rw[h.2.2.2.2.2.2.2.2.2.2.1];exact⟨τ,τ⟩
 |false=>have hs:=(WO hb hf).1 (by unfold IB;exact h);have hc:C2 b.C0 x.M2:=hs.1.ca;unfold C2 at hc;exact⟨hc.1,ω⟩
def Ben{l:List Duty}(hl:l.length<=1000):aA (LI l) λy=>EN (y.2.1.1,y.2.1.2.1):=by unfold LI;refine N (Q:=λy=>EN (y.2.2.1.1,y.2.2.1.2.1)) ?_ λ_ h=>C h;unfold JV;refine aL (λ(k:Nat) z=>∃(i:Nat) (c:Int×Int),z=(((),(),l,(l.length:Int),(i:Int),()),((0,0,()),(c.1,c.2,()),()))/\i+k=l.length/\EN c) (λk z hz=>?_) l.length ⟨0,(0,0),rfl,o_ _,Gz⟩ ω;obtain⟨i,c,rfl,hk,hc⟩:=hz;show aA (Nu l (l.length:Int) (i:Int) 0 0 c.1 c.2) _;unfold Nu;refine U (λq=>?_) λ_=>C hc;have q:(i:Int)<(l.length:Int):=l_ q;have w:=Dq (n:=i) ω;refine H (Ac ω q) (J (Je _ _) (J (EY c (FP _ _)) ?_));exact C ⟨k-1,ω,i+1,_,by first|(rw[<-w];rfl)|rw[<-w],ω,Lz _ _⟩
structure VI(b:Bldg)(m:Img)(good:Bool)(i:Nat)(v:View):Prop where
 ok:v.ok
 ready:v.L3=(good&&Ss m i)
 serving:v.O3=Gw m i
 lost:v.C4=(flA m i||!Gw m i)
section
variable{b:S}(hw:BW b){x:Inp}{g:Bool}(hx:g=A->InOK b x)
include hw
theorem Buw{m:Mch}(hm:PM b m)(hi:i<b.B0.length)(f:Int)(l:Bool)(d:Int)(k:Bool):aA (NZ b.C0 b.E0 b.I0 b.M0 b.J0 b.L0 b.N0 b.B0 m.F0.G0 m.F0.O0 m.F0.K0 m.F0.A0 m.Z0.h0 m.Z0.h1 m.Z0.sel m.K1 m.U0 m.B0 m.N3 m.Y1 m.G3 m.H4 m.T3 m.A3 (i:Int) f l d k) λy=>∃v,y=(((),()),(Bxb v,()))/\VI b m.F0 A i v:=by
 have i1:aE (i:Int) m.F0.G0.length=A:=Ac ω (by rw[hm.jst.img.lp];omega);have i2:aE (i:Int) m.U0.length=A:=Ac ω (by rw[hm.bel];omega);have i3:aE (i:Int) m.B0.length=A:=Ac ω (by rw[hm.car];omega);have i4:aE (i:Int) m.F0.O0.length=A:=Ac ω (by rw[hm.jst.img.lf];omega);have i5:aE (i:Int) m.N3.length=A:=Ac ω (by rw[hm.lod];omega);have hc:=Bci hw.small (hm.carv _ (AL Bs (show i<m.B0.length by rw[hm.car];exact hi)));have hd:=((hm.belv i hi).dut).len hw.small;unfold NZ;refine H i1 (H i3 (J (Amb hm.jst.img hi) (J (WZ hm.jst.img hi) (J (Ys _) ?_))));have z0:Aiv 0:=⟨τ,τ⟩
 refine J (b:=(((i:Int),(),(),(),(),Z m.F0 i,(),(),()),((b.C0,b.E0,b.I0,b.M0,b.J0,b.L0,b.N0,b.B0,()),(m.F0.G0,m.F0.O0,m.F0.K0,m.F0.A0,m.Z0.h0,m.Z0.h1,m.Z0.sel,m.K1,m.U0,m.B0,m.N3,m.Y1,m.G3,m.H4,m.T3,m.A3,()),(f,l,d,k,()),(B,B,B,B,(0:Int),(0:Int),(0:Int),(0:Int),(0:Int),(0:Int),(0:Int),(0:Int),()),Bei (m.B0.getD i Bs),(Ss m.F0 i,Gw m.F0 i,Eu (Z m.F0 i),(flA m.F0 i||!Gw m.F0 i),(0:Int),(0:Int),(0:Int),(0:Int),(0:Int),(0:Int),(0:Int),(0:Int),()),()))) ?_ ?_
 .show(bif aE (i:Int) m.F0.O0.length then(bif flA m.F0 i then _ else _)else none)=_;rw[i4,d_];cases flA m.F0 i<;>rfl
 refine U (λ_=>H i2 (N (Ben (by show(m.U0.getD i Hw).V0.length<=1000;omega)) λy5 h5=>?_)) λ_=>H i5 ?_
 .exact C ⟨aT (Ss m.F0 i) (Gw m.F0 i) (Eu (Z m.F0 i)) (flA m.F0 i||!Gw m.F0 i) (m.U0.getD i Hw).D0 (m.U0.getD i Hw).H0 0 0 0 0 y5.2.1.1 y5.2.1.2.1,rfl,⟨z0,h5.1,h5.2⟩,rfl,rfl,rfl⟩
 refine N (Q:=λy=>∃(su sd:Int) (o1 o2 o3 o4:Int),y=(((i:Int),(),(),(),(),(),()),((b.C0,b.E0,b.I0,b.M0,b.J0,b.L0,b.N0,b.B0,()),(m.F0.G0,m.F0.O0,m.F0.K0,m.F0.A0,m.Z0.h0,m.Z0.h1,m.Z0.sel,m.K1,m.U0,m.B0,m.N3,m.Y1,m.G3,m.H4,m.T3,m.A3,()),(B,B,B,B,(0:Int),(0:Int),(0:Int),(0:Int),(0:Int),(0:Int),(0:Int),(0:Int),()),Bei (m.B0.getD i Bs),(Ss m.F0 i,Gw m.F0 i,Eu (Z m.F0 i),(flA m.F0 i||!Gw m.F0 i),f,(m.B0.getD i Bs).T1,o1,su,sd,o2,o3,o4,()),()))) ?_ λy7 h7=>?_
 .refine U (λ_=>?_) λ_=>C ⟨_,_,_,_,_,_,rfl⟩;exact N (Aia hw.small hw.code (m.B0.getD i Bs) f l d k) λ_ _=>C ⟨_,_,_,_,_,_,rfl⟩
 obtain⟨su,sd,o1,o2,o3,o4,rfl⟩:=h7;refine N (Aoa hw hm.jst.img (i:Int)) λy8 h8=>?_;exact C ⟨aT (Ss m.F0 i) (Gw m.F0 i) (Eu (Z m.F0 i)) (flA m.F0 i||!Gw m.F0 i) f (m.B0.getD i Bs).T1 o1 su sd (m.B0.getD i Bs).M2 y8.2.1.1 y8.2.1.2.1,rfl,⟨hc,h8.1,h8.2⟩,rfl,rfl,rfl⟩
structure VA(b:Bldg)(m:Img)(good:Bool)(vs:List View):Prop where
 len:vs.length=b.B0.length
 vi:∀i,i<b.B0.length->VI b m good i (vs.getD i noV)
theorem VA.ok{vs:List aF}(h:VA b m g vs):okViews vs:=λv hv=>by
 obtain⟨i,hi,rfl⟩:=aZ hv
 have:=(h.vi i (by rw[<-h.len];exact hi)).ok
 rwa [k_,i_ hi]at this
include hx
theorem Bli(hm:PM b t.m)(hr:PR b t):aA (Dj (t.ap aX b x g)) λy=>∃vs:List aF,y=((vs,()),())/\VA b t.m.F0 g vs:=by
 have hcc:=Ah hw.code;unfold Dj;refine H (by show((decide ((0:Int)<=(b.B0.length:Int))&&decide ((b.B0.length:Int)<=(b.B0.length:Int)))&&decide ((b.B0.length:Int)<=2147483648))=A;simp only[e_,q_];omega) (N (Q:=λy=>∃vs:List aF,y=((vs,()),())/\VA b t.m.F0 g vs) ?_ λy h=>by obtain⟨c,rfl,h⟩:=h;exact C ⟨c,rfl,h⟩);have h0:(aM (aH (b.B0.length:Int)) noV).length=b.B0.length:=by rw[S_];omega
 show aA (CO ((t.ap aX b x g,aM (aH (b.B0.length:Int)) noV,(((aM (aH (b.B0.length:Int)) noV).length:Nat):Int),0,()),())) _;generalize aM (aH (b.B0.length:Int)) noV=L at h0;unfold CO;refine aL (λ(k:Nat) z=>∃(i:Nat) (vs:List aF),z=((t.ap aX b x g,vs,(L.length:Int),(i:Int),()),())/\i+k=L.length/\vs.length=b.B0.length/\∀j,j<i->VI b t.m.F0 g j (vs.getD j noV)) (λk z hz=>?_) L.length ⟨0,L,rfl,o_ _,h0,λj hj=>absurd hj (e8_ j)⟩ ω;obtain⟨i,vs,rfl,hk,hl,hv⟩:=hz;show aA (FZ (t.ap aX b x g) vs (L.length:Int) (i:Int)) _;unfold FZ;refine U (λq=>?_) λq=>C ⟨vs,rfl,hl,λj hj=>hv j (by have q:=C_ q;omega)⟩;have q:(i:Int)<(L.length:Int):=l_ q;have hi:i<b.B0.length:=ω;have w:=Dq (n:=i) ω;have il:aE (i:Int) vs.length=A:=Ac ω ω;have put:∀{v:aF},VI b t.m.F0 g i v->∀j,j<i+1->VI b t.m.F0 g j ((vs.set i v).getD j noV):=λ{v} h j hj=>by
  by_cases e:i=j
  .subst e;rw[By _ _ ω];exact h
  .rw[Df _ _ e];exact hv j ω
 refine U (λhg=>?_) λhg=>?_
 .have hg:g=B:=by simpa using(show(!g)=A from hg)
  refine J (WZ hm.jst.img hi) ?_;have i4:aE (i:Int) t.m.F0.O0.length=A:=Ac ω (by rw[hm.jst.img.lf];omega);refine J (b:=((t.ap aX b x g,vs.set i (aT B (Gw t.m.F0 i) B (flA t.m.F0 i||!Gw t.m.F0 i) (-1) 0 0 0 0 0 0 0),(L.length:Int),(i:Int),()),())) ?_ ?_
  .show(bif aE (i:Int) t.m.F0.O0.length then(bif flA t.m.F0 i then(bif aE (i:Int) vs.length then _ else none)else(bif aE (i:Int) vs.length then _ else none))else none)=_;rw[i4,il,d_,d_];cases flA t.m.F0 i<;>rfl
  have z0:Aiv 0:=⟨τ,τ⟩
  exact C ⟨k-1,ω,i+1,_,by first|(rw[<-w];rfl)|rw[<-w],ω,by rw[z_];exact hl,put ⟨⟨z0,z0,z0⟩,by rw[hg];rfl,rfl,rfl⟩⟩
 .have hg:g=A:=by simpa using(show(!g)=B from hg)
  have hxl:=(hx hg).len;refine H (Ac ω (ω:(i:Int)<(x.cars.length:Int))) (N (Buw hw hm hi _ _ _ _) λy3 h3=>H il ?_);obtain⟨v,rfl,hvi⟩:=h3;rw[<-hg]at hvi;refine H (Ac ω (show(i:Int)<(t.legacy.length:Int)by rw[hr.leg];omega)) (U (λ_=>?_) λ_=>?_)
  .refine H (Ac ω (show(i:Int)<(t.shows.length:Int)by rw[hr.sho];omega)) (H (Ac ω (by rw[z_];omega)) ?_);refine C ⟨k-1,ω,i+1,(vs.set i v).set i (aT v.L3 v.O3 v.R3 v.C4 v.D0 v.H0 v.A4 (t.shows.getD i (aQ 0 0)).Up (t.shows.getD i (aQ 0 0)).B4 v.Y2 v.Z1 v.N1),?_,ω,by rw[z_,z_];exact hl,λj hj=>?_⟩
   .have e:(vs.set i v).getD i noV=v:=By _ _ ω
    first
     |(rw[<-w];show((_,List.set (vs.set i v) i (aT ((vs.set i v).getD i noV).L3 ((vs.set i v).getD i noV).O3 ((vs.set i v).getD i noV).R3 ((vs.set i v).getD i noV).C4 ((vs.set i v).getD i noV).D0 ((vs.set i v).getD i noV).H0 ((vs.set i v).getD i noV).A4 _ _ ((vs.set i v).getD i noV).Y2 ((vs.set i v).getD i noV).Z1 ((vs.set i v).getD i noV).N1),_,_,()),())=_;rw[e];rfl)
   .rw[h2_];exact put (v:=aT v.L3 v.O3 v.R3 v.C4 v.D0 v.H0 v.A4 (t.shows.getD i (aQ 0 0)).Up (t.shows.getD i (aQ 0 0)).B4 v.Y2 v.Z1 v.N1) ⟨⟨hvi.ok.c,hvi.ok.u,hvi.ok.d⟩,hvi.ready,hvi.serving,hvi.lost⟩ j hj
  .exact C ⟨k-1,ω,i+1,vs.set i v,by first|(rw[<-w];rfl)|rw[<-w],ω,by rw[z_];exact hl,put hvi⟩
end
noncomputable def QO(b:S)(x:Inp)(g:Bool)(t:Pk)(vs:List aF):Rnd:=Fg b t.m.F0 t.m.Y1 vs t.m.G3 x.press g
def GR:List W->Int×Int->Int×Int
 |[],c=>c
 |r::l,c=>GR l (bif r.Q0==2 then BD c (FP r.D0 r.H0)else c)
def Aou(r:Rnd)(i:Nat)(c d:aG):Prop:=d.I2=(r.lan.lit.getD i noP).Up/\d.S1=(r.lan.lit.getD i noP).B4/\d.J4=r.lan.gong.getD i B/\d.G2=c.G2
def PM.rnd{m:Mch}(h:PM b m){r:Rnd}(hg:Rg b m.F0 r)(hl:r.lan.lit.length=b.B0.length)(hj:Jst b s r.img)(hn:0<=n/\n<=1000000):PM b { m with F0:=r.img,Z0:=s,Y1:=r.xs,G3:=r.lan.lit,A3:=n }:=⟨hj,h.con,h.conv,h.bel,h.belv,h.car,h.carv,h.lod,h.lodv,hl,hg.ok.len,hg.xs,h.tick,h.flt,hn⟩
structure Dsp(b:Bldg)(x:Inp)(g:Bool)(t t':Pk)(vs:List View):Prop where
 va:VA b t.m.F0 g vs
 ve:Dj (t.ap machine_ticker.mk b x g)=some ((vs,()),())
 rg:Rg b t.m.F0 (QO b x g t vs)
 res:Al b t t' (QO b x g t vs).recs\/De b t t' (QO b x g t vs).recs
 out:t'.out={ t.out with F3:=(GR (QO b x g t vs).recs (t.out.F3,t.out.R2)).1,R2:=(GR (QO b x g t vs).recs (t.out.F3,t.out.R2)).2,L0:=!isZ (QO b x g t vs).ref,B0:=t'.out.B0 }
 oc:t'.out.B0.length=b.B0.length
 cars:∀i,i<b.B0.length->Aou (QO b x g t vs) i (t.out.B0.getD i Av) (t'.out.B0.getD i Av)
 rst:t'.reset=t.reset
def Cia{l:List aG}(hi:i<l.length)(f g:aG->aG):(l.set i (f (l.getD i Av))).set i (g ((l.set i (f (l.getD i Av))).getD i Av))=l.set i (g (f (l.getD i Av))):=by rw[By _ _ hi,h2_]
def Pk.sServ(t:Pk)(c:Int×Int):Pk:={ t with out:={ t.out with F3:=c.1,R2:=c.2 } }
def Pk.sOuts(t:Pk)(l:List aG):Pk:={ t with out:={ t.out with B0:=l } }
section
variable{b:S}(hw:BW b){x:Inp}{g:Bool}(hx:g=A->InOK b x)
theorem Bbg(r:Rnd)(hr:r.recs.length<=1000)(t:Pk):aA (Co (((),(),r.recs,(r.recs.length:Int),(0:Int),()),(r.tup,t.tup b x g,()))) λy=>y=(((),(),()),(r.tup,(t.sServ (GR r.recs (t.out.F3,t.out.R2))).tup b x g,())):=by
 unfold Co;refine aL (λ(k:Nat) z=>∃(i:Nat) (c:Int×Int),z=(((),(),r.recs,(r.recs.length:Int),(i:Int),()),(r.tup,(t.sServ c).tup b x g,()))/\i+k=r.recs.length/\GR (r.recs.drop i) c=GR r.recs (t.out.F3,t.out.R2)) (λk z hz=>?_) r.recs.length ⟨0,(t.out.F3,t.out.R2),rfl,o_ _,rfl⟩ ω;obtain⟨i,c,rfl,hk,hs⟩:=hz;show aA ((t.sServ c).ap (Fk r.recs (r.recs.length:Int) (i:Int) r.recs r.img.G0 r.img.O0 r.img.K0 r.img.A0 r.xs r.lan.lit r.lan.gong r.lan.cl.1 r.lan.cl.2 r.ref.1 r.ref.2) b x g) _;unfold Pk.ap Fk;refine U (λq=>?_) λq=>C ?_
 .have q:(i:Int)<(r.recs.length:Int):=l_ q;have hi:i<r.recs.length:=ω;have w:=Dq (n:=i) ω;rw[Cm Jo hi]at hs;refine H (Ac ω q) (U (λh=>J (Je _ _) (J (EY c (FP _ _)) ?_)) λh=>?_)
  .refine C ⟨k-1,ω,i+1,BD c (FP (r.recs.getD i Jo).D0 (r.recs.getD i Jo).H0),by first|(rw[<-w];rfl)|rw[<-w],ω,?_⟩;rw[<-hs];have h:((r.recs.getD i Jo).Q0==2)=A:=h;show _=GR (r.recs.drop (i+1)) (bif(r.recs.getD i Jo).Q0==2 then _ else _);rw[h];rfl
  .refine C ⟨k-1,ω,i+1,c,by first|(rw[<-w];rfl)|rw[<-w],ω,?_⟩;rw[<-hs];have h:((r.recs.getD i Jo).Q0==2)=B:=h;show _=GR (r.recs.drop (i+1)) (bif(r.recs.getD i Jo).Q0==2 then _ else _);rw[h];rfl
 .have q:=C_ q;rw[List.drop_of_length_le ω]at hs;show _=(((),(),()),(r.tup,(t.sServ (GR r.recs (t.out.F3,t.out.R2))).tup b x g,()));rw[<-hs];rfl
theorem Bbh(r:Rnd)(hn:t.out.B0.length<=1000)(hl:r.lan.lit.length=t.out.B0.length)(hg:r.lan.gong.length=t.out.B0.length):aA (Cp (((),(),(t.out.B0.length:Int),(0:Int),()),(r.tup,t.tup b x g,()))) λy=>∃l,y=((),((t.sOuts l).tup b x g,()))/\l.length=t.out.B0.length/\∀j,j<t.out.B0.length->Aou r j (t.out.B0.getD j Av) (l.getD j Av):=by
 unfold Cp;refine aL (λ(k:Nat) z=>∃(i:Nat) (l:List aG),z=(((),(),(t.out.B0.length:Int),(i:Int),()),(r.tup,(t.sOuts l).tup b x g,()))/\i+k=t.out.B0.length/\l.length=t.out.B0.length/\(∀j,j<i->Aou r j (t.out.B0.getD j Av) (l.getD j Av))/\∀j,i<=j->l.getD j Av=t.out.B0.getD j Av) (λk z hz=>?_) t.out.B0.length ⟨0,t.out.B0,rfl,o_ _,rfl,λj hj=>absurd hj (e8_ j),λj _=>rfl⟩ ω;obtain⟨i,l,rfl,hk,hll,h1,h2⟩:=hz;show aA ((t.sOuts l).ap (Fl (t.out.B0.length:Int) (i:Int) r.recs r.img.G0 r.img.O0 r.img.K0 r.img.A0 r.xs r.lan.lit r.lan.gong r.lan.cl.1 r.lan.cl.2 r.ref.1 r.ref.2) b x g) _;unfold Pk.ap Fl;refine U (λq=>?_) λq=>C ⟨l,rfl,hll,λj hj=>h1 j (by have:=C_ q;omega)⟩;have q:(i:Int)<(t.out.B0.length:Int):=l_ q;have hi:i<l.length:=ω;have w:=Dq (n:=i) ω;refine H (Ac ω ω) (H (Ac ω ω) (H (Ac ω (ω:(i:Int)<(l.length:Int))) (H (Ac ω (by rw[z_];show(i:Int)<(l.length:Int);omega)) ?_)));refine C ⟨k-1,ω,i+1,l.set i (aU (l.getD i Av).B1 (l.getD i Av).Y0 (l.getD i Av).R1 (r.lan.lit.getD i noP).Up (r.lan.lit.getD i noP).B4 (r.lan.gong.getD i B) (l.getD i Av).G2 (l.getD i Av).V1 (l.getD i Av).L4),?_,ω,?_,λj hj=>?_,λj hj=>?_⟩
 .have key:=Cia hi (λc=>aU c.B1 c.Y0 c.R1 (r.lan.lit.getD i noP).Up (r.lan.lit.getD i noP).B4 c.J4 c.G2 c.V1 c.L4) (λc=>aU c.B1 c.Y0 c.R1 c.I2 c.S1 (r.lan.gong.getD i B) c.G2 c.V1 c.L4);rw[<-w];exact f8_ (λL=>(((),(),(t.out.B0.length:Int),aJ.wrap ((i:Int)+1),()),(r.tup,(t.sOuts L).tup b x g,()))) key
 .rw[z_];exact hll
 .by_cases e:i=j
  .subst e;rw[By _ _ hi];exact⟨rfl,rfl,rfl,by rw[<-h2 i (y_ i)]⟩
  .rw[Df _ _ e];exact h1 j ω
 .rw[Df _ _ ω];exact h2 j ω
end
def Pk.sRnd(t:Pk)(r:Rnd)(n:Int)(f:Bool):Pk:={ t with m:={ t.m with Y1:=r.xs,G3:=r.lan.lit,A3:=n },out:={ t.out with L0:=f } }
section
variable{b:S}(hw:BW b){x:Inp}{g:Bool}(hx:g=A->InOK b x)
include hw hx
theorem Aut(hm:PM b t.m)(hr:PR b t)(hb:Bud t):aA (t.ap DG b x g) λy=>∃(t':Pk) (vs:List aF),y=((),(t'.tup b x g,()))/\Dsp b x g t t' vs:=by
 have hcc:=Ah hw.code;unfold Pk.ap DG;obtain⟨y1,hve,vs,rfl,hva⟩:=Bli hw hx hm hr;refine J hve ?_;have hxv:inX t.m.Y1:=hm.exv;have hd:=Ac1 hw.small hw.code hm.jst.img hm.exl t.m.G3 x.press g hxv.exp (VA.ok hw hva) hva.len hm.lit;obtain⟨hrg,hrl⟩:=Ad6 hw.small hw.code hm.jst.img hm.exl hxv t.m.G3 x.press g hva.len;obtain⟨hl1,hl2⟩:=Akp b t.m.F0 t.m.Y1 vs t.m.G3 x.press g;rw[hva.len]at hl1 hl2;refine J hd ?_;have hR:Fg b t.m.F0 t.m.Y1 vs t.m.G3 x.press g=QO b x g t vs:=rfl;rw[hR]at hrg hrl hl1 hl2|-;have fin:∀(t':Pk),(Al b t t' (QO b x g t vs).recs\/De b t t' (QO b x g t vs).recs)->_->_->_->_->Dsp b x g t t' vs:=λt' h1 h2 h3 h4 h5=>⟨hva,hve,hrg,h1,h2,h3,h4,h5⟩
 generalize hrr:QO b x g t vs=r at hrg hrl hl1 hl2 fin;refine Sat.bindR ?_;refine N (Q:=λy=>∃t',y=(((),(),()),(r.tup,t'.tup b x g,()))/\Wr b t r.recs t') ?_ λy6 h6=>?_
 .refine N (Abi hw.small (x:=x) (g:=g) hm.jst hb.2 hb.1 hrg.good (ω:r.recs.length<=100000)) λy4 h4=>?_;obtain⟨t',e|e,h⟩:=h4
  .subst e;exact C ⟨t',rfl,h⟩
  .subst e;exact C ⟨t',rfl,h⟩
 obtain⟨t1,rfl,hw1⟩:=h6;obtain⟨im,s,bu,e,rfl,hw1⟩:=hw1;refine N (Q:=λy=>∃n,y=(((),(),()),(r.tup,((t.wr im s bu e).sRnd r n (!isZ r.ref)).tup b x g,()))/\0<=n/\n<=1000000) (U (λq=>N (Ao0 hm.ref) λy7 h7=>C ⟨y7.1.1,rfl,h7⟩) λq=>C ⟨t.m.A3,rfl,hm.ref⟩) λy8 h8=>?_;obtain⟨n,rfl,hn⟩:=h8;refine N (Bbg r ω ((t.wr im s bu e).sRnd r n (!isZ r.ref))) λy9 h9=>?_;subst h9;refine N (Bbh r (t:=((t.wr im s bu e).sRnd r n (!isZ r.ref)).sServ (GR r.recs (t.out.F3,t.out.R2))) (by show t.out.B0.length<=1000;rw[hr.oc];omega) (by show _=t.out.B0.length;rw[hr.oc];exact hl1) (by show _=t.out.B0.length;rw[hr.oc];exact hl2)) λy10 h10=>?_;obtain⟨l,rfl,hl,hc⟩:=h10;replace hl:l.length=t.out.B0.length:=hl;replace hc:∀j,j<t.out.B0.length->Aou r j (t.out.B0.getD j Av) (l.getD j Av):=hc;rw[hr.oc]at hl hc;refine C ⟨_,vs,rfl,fin _ ?_ rfl hl hc rfl⟩;rcases hw1 with⟨rfl,rfl,h1,h2,h3,h4,_⟩|⟨rfl,h1,h2,h3⟩
 .rw[hrg.img]at h1;refine .inl ⟨rfl,?_,⟨hr.leg,hr.sho,hr.rst,hl,λi=>by
   by_cases q:i<b.B0.length
   .show CmdR (l.getD i Av).G2;rw[(hc i q).2.2.2];exact hr.cmd i
   .show CmdR (l.getD i Av).G2;rw[show(l.getD i Av)=Av by rw[k_,List.getElem?_eq_none ω];rfl];rfl⟩,rfl,h3,h4,(by show t.budget-_<=bu;omega),rfl⟩
  have:=hm.rnd hrg hl1 h1 hn
  rw[<-hrg.img]at this;exact this
 .exact .inr ⟨rfl,ω,h2,h3⟩
end
def FV(b:S)(c:Int×Int):Prop:=JE b c=A/\EN c
section
variable{b:S}(hb:b.small)(hcode:b.code=0)
include hb hcode
theorem NK:FV b c↔EN c/\∀f:Nat,f<32->∀d:Int,(d=1\/d=2)->Am c f d=A->Ar b (f:Int) d=A:=by
 unfold FV JE;rw[Lm (GL _ _)];refine⟨λ⟨h1,h2⟩=>⟨h2,λf hf d hd q=>?_⟩,λ⟨h1,h2⟩=>⟨λf hf d hd=>?_,h1⟩⟩
 .have:=h1 f hf d hd
  rw[Bd _ _ hf,PD hb hcode hf hd,q]at this;simpa using this
 .rw[Bd _ _ hf,PD hb hcode hf hd];cases q:Am c f d with
  |false=>rfl
  |true=>rw[h2 f hf d hd q];rfl
theorem Vz:FV b (0,0):=(NK hb hcode).2 ⟨Gz,λf _ d _ q=>by rw[EI]at q;cases q⟩
theorem Avj{a:Int×Int}(c:Int×Int)(h1:FV b a):FV b (Au a c):=by have h1:=(NK hb hcode).1 h1;refine(NK hb hcode).2 ⟨GL _ _,λf hf d hd q=>?_⟩;rw[Bd _ _ hf,e_]at q;exact h1.2 f hf d hd q.1
theorem Bbv{F D:Int}(h0:FV b c)(h:Ar b F D=A):FV b (BD c (FP F D)):=by
 obtain⟨h1,h2⟩:=Rj hb (e:=Entry.mk F D 0 0 B) h;have h0:=(NK hb hcode).1 h0;refine(NK hb hcode).2 ⟨Lz _ _,λf hf d hd q=>?_⟩;rw[FH,Q_,LX h1 h2 f hd,q_]at q;rcases q with q|q
 .exact h0.2 f hf d hd q
 .obtain⟨q1,q2⟩:=Prod.mk.inj q;rw[q1,q2];exact h
theorem Bbu{a:Int×Int}(h1:FV b a):FV b (BD a (BR c (AW b))):=by have h1:=(NK hb hcode).1 h1;refine(NK hb hcode).2 ⟨Lz _ _,λf hf d hd q=>?_⟩;rw[FH,HI,PD hb hcode hf hd,Q_,e_]at q;exact q.elim (h1.2 f hf d hd) λq=>q.2
end
def Aa1(st:Int):Int:=bif st==0 then 2 else bif st==1 then 2 else bif st==3 then 1 else 0
structure RelOK(b:Bldg)(r:Relay):Prop where
 st:0<=r.V3/\r.V3<=4
 fl:0<=r.D0/\r.D0<b.C0
 sw:S2 r.H0 r.D3
 mv:r.V3=1->(r.H0=1/\r.D0+1<b.C0)\/(r.H0=2/\0<r.D0)
 ca:FV b (r.N2,r.B2)
 car:C2 b.C0 r.R0
 dr:r.G1=Aa1 r.V3
 tm:0<=r.F4/\r.F4<=1000000
 tz:r.F4=0↔r.V3=0
@[reducible] def UL(r:Relay):=(r.V3,r.D0,r.H0,r.D3,r.G1,r.F4,r.N2,r.B2,r.R0,())
def KF:Relay:=aP 0 0 0 0 0 0 0 0 0
def VN(n lo hi:Int):EV n lo hi=V ((inR lo hi n,()),()):=by unfold EV inR;cases decide (lo<=n)<;>rfl
def YE(n:Int):Nr n=V ((Aa1 n,()),()):=by unfold Nr Aa1;cases n==0<;>cases n==1<;>cases n==3<;>rfl
def IT(a f d o dr t u v c s n:Int):Mr a f d o dr t u v c s n=V (((),()),(UL (aP s f d o (Aa1 s) n u v c),())):=by unfold Mr;exact Ae (YE s) rfl
section
variable{b:S}(hb:b.small)(hcode:b.code=0)
include hb hcode
theorem UM(h:RelOK b r):JO b.C0 b.E0 b.I0 b.M0 b.J0 b.L0 b.N0 b.B0 r.V3 r.D0 r.H0 r.D3 r.G1 r.F4 r.N2 r.B2 r.R0=V ((A,()),()):=by
 have lo:=hb.lo;have hi:=hb.hi;have w:aJ.wrap (b.C0-1)=b.C0-1:=Aa ω ω;have hfl:=h.fl;refine Sat.eq ?_;have rr:∀{n lo hi:Int},lo<=n/\n<=hi->EV n lo hi=V ((A,()),()):=λ{n lo hi} h=>by rw[VN,An.2 h]
 unfold JO;rw[w];refine J (AC ..) (aC (by show(b.code !=0)=B;rw[hcode];rfl) (J (rr h.st) (aC rfl (J (rr ⟨hfl.1,show r.D0<=b.C0-1 by omega⟩) (aC rfl ?_)))));refine J (show Ca r.H0 r.D3=V ((A,()),())by rw[show Ca r.H0 r.D3=V (((inR 0 2 r.H0&&inR 0 7 r.D3),()),())from FU { Bs with T1:=r.H0,F1:=r.D3 },An.2 h.sw.1,An.2 h.sw.2];rfl) (aC rfl ?_);refine N (Q:=λy=>y=(((),(),B,()),(b.tup,UL r,()))) ?_ λy hy=>?_
 .refine U (λq=>?_) λ_=>C rfl;have q:r.V3=1:=eq_of_beq q;have hm:=h.mv q;have ha:∃n,Ib r.V3 r.D0 r.H0 r.D3 r.G1 r.F4 r.N2 r.B2 r.R0=V ((n,()),())/\0<=n/\n<=b.C0-1:=by
   unfold Ib;rcases hm with⟨e,h2⟩|⟨e,h2⟩<;>rw[e]
   .exact⟨_,rfl,by rw[Aa ω ω];omega,by rw[Aa ω ω];omega⟩
   .exact⟨_,rfl,by rw[Aa ω ω];omega,by rw[Aa ω ω];omega⟩
  obtain⟨n,e,hn⟩:=ha;exact aC (Ao ω) (J e (J (rr hn) (C rfl)))
 subst hy;refine aC rfl ?_;refine N (Q:=λy=>y=(((),A,()),(UL r,()))) (J (FN hb hcode) (J (DY (r.N2,r.B2) (AW b)) (H h.ca.1 (H (b_ (ω:(0:Int)<=b.C0)) (C ?_))))) λy hy=>?_
 .have e:aO (aH b.C0) (IntKind.bits aR)=aH b.C0:=by show min (aH b.C0) 32=_;omega
  show(((),(aS r.R0 ((2:Int)^(aO (aH b.C0) (IntKind.bits aR)))==(0:Int)),()),(UL r,()))=_;rw[e,RV.2 h.car]
 subst hy;refine N (Q:=λy=>y=((A,()),())) (H rfl (J (YE _) (H (by show(r.G1==Aa1 r.V3)=A;rw[h.dr];exact m_ _) (J (rr h.tm) (H rfl (C ?_)))))) λy hy=>by subst hy;exact C rfl
 show((((r.F4==(0:Int))==(r.V3==(0:Int))),()),())=_;have e:(r.F4==(0:Int))=(r.V3==(0:Int)):=by rw[Bool.eq_iff_iff,R_,R_];exact h.tz
 rw[e,m_]
theorem RelOK.new(h:0<=f/\f<b.C0):RelOK b (aP 0 f 0 0 2 0 0 0 0):=⟨show(0:Int)<=0/\(0:Int)<=4 by decide,h,S2.zero dir2.zero,λe=>absurd e (show ¬(0:Int)=1 by decide),Vz hb hcode,C2.zero,rfl,show(0:Int)<=0/\(0:Int)<=1000000 by decide,⟨λ_=>rfl,λ_=>rfl⟩⟩
omit hb hcode in
theorem RelOK.begin(hf:0<=r.D0/\r.D0<b.C0)(hs:S2 r.H0 r.D3)(hc:FV b (r.N2,r.B2))(hk:C2 b.C0 r.R0){s:Int}(h:0<=s/\s<=4)(hm:s=1->(r.H0=1/\r.D0+1<b.C0)\/(r.H0=2/\0<r.D0))(hn:0<=n/\n<=1000000)(hz:n=0↔s=0):RelOK b (aP s r.D0 r.H0 r.D3 (Aa1 s) n r.N2 r.B2 r.R0):=⟨h,hf,hs,hm,hc,hk,rfl,hn,hz⟩
omit hcode in
theorem Af6(hf:0<=r.D0/\r.D0<b.C0)(hs:S2 r.H0 r.D3)(hc:FV b (r.N2,r.B2))(hk:C2 b.C0 r.R0)(c1 c2 c3 c4:Int){st tr:Int}(h1:1<=st/\st<=10000)(h2:1<=tr/\tr<=10000)(c7 c8 c9:Int):aA (Oc b.C0 c1 c2 c3 c4 st tr c7 c8 c9 r.V3 r.D0 r.H0 r.D3 r.G1 r.F4 r.N2 r.B2 r.R0) λy=>∃r',y.2.1=UL r'/\RelOK b r':=by
 have lo:=hb.lo;have hi:=hb.hi;unfold Oc;obtain⟨y,z,e1,e2,h3,h4,h5⟩:=Ata (fl:=b.C0) (f:=r.D0) ⟨ω,hi⟩ hf hs r.R0 r.N2 r.B2;refine J e1 (J e2 ?_);have no:∀{s:Int},s≠1->s=1->(z.1=1/\r.D0+1<b.C0)\/(z.1=2/\0<r.D0):=λh e=>absurd e h;refine U (λq=>J (IT ..) (C ⟨_,rfl,?_⟩)) λq=>U (λq1=>J (IT ..) (C ⟨_,rfl,?_⟩)) λq1=>U (λq2=>J (IT ..) (C ⟨_,rfl,?_⟩)) λq2=>J (IT ..) (C ⟨_,rfl,?_⟩)
 .exact RelOK.begin (r:=aP 0 r.D0 z.1 z.2.1 0 0 r.N2 r.B2 r.R0) hf h4 hc hk τ (no τ) ω ω
 .have q:y.1≠3:=λe=>by have q:(y.1==3)=B:=q;rw[e]at q;cases q
  have q1:y.1=1:=eq_of_beq q1;obtain⟨g1,g2⟩:=h3.1 q1;exact RelOK.begin (r:=aP 0 r.D0 z.1 z.2.1 0 0 r.N2 r.B2 r.R0) hf h4 hc hk τ (λ_=>.inl ⟨(h5 q).trans g1,g2⟩) ω ω
 .have q:y.1≠3:=λe=>by have q:(y.1==3)=B:=q;rw[e]at q;cases q
  have q2:y.1=2:=eq_of_beq q2;obtain⟨g1,g2⟩:=h3.2 q2;exact RelOK.begin (r:=aP 0 r.D0 z.1 z.2.1 0 0 r.N2 r.B2 r.R0) hf h4 hc hk τ (λ_=>.inr ⟨(h5 q).trans g1,g2⟩) ω ω
 .exact RelOK.begin (r:=aP 0 r.D0 z.1 z.2.1 0 0 r.N2 r.B2 r.R0) hf h4 hc hk τ (no τ) τ ⟨λ_=>rfl,λ_=>rfl⟩
omit hcode in
theorem Alf(h:RelOK b r){u v c:Int}(hc:FV b (u,v))(hk:C2 b.C0 c)(c1 c2 c3 c4:Int){st tr dw:Int}(h1:1<=st/\st<=10000)(h2:1<=tr/\tr<=10000)(h3:1<=dw/\dw<=10000)(c8 c9:Int):aA (Qc b.C0 c1 c2 c3 c4 st tr dw c8 c9 r.V3 r.D0 r.H0 r.D3 r.G1 r.F4 u v c) λy=>∃r',y.2.1=UL r'/\RelOK b r':=by
 have lo:=hb.lo;have hi:=hb.hi;have hfl:=h.fl;unfold Qc;have no:∀{s:Int},s≠1->s=1->(r.H0=1/\r.D0+1<b.C0)\/(r.H0=2/\0<r.D0):=λh e=>absurd e h;refine N (Q:=λy=>match y with
  |.inl z=>∃r':Relay,z=((b.C0,(),(),(),()),((c1,c2,c3,c4,st,tr,dw,c8,c9,()),UL r',(0,0,0,0,0,0,0,0,0,()),()))/\(0<=r'.D0/\r'.D0<b.C0)/\S2 r'.H0 r'.D3/\FV b (r'.N2,r'.B2)/\C2 b.C0 r'.R0
  |.inr z=>∃r',z.2.1=UL r'/\RelOK b r') ?_ λy hy=>?_
 .refine U (λ_=>J (IT ..) (C ⟨_,rfl,?_⟩)) λ_=>U (λ_=>J (IT ..) (C ⟨_,rfl,?_⟩)) λ_=>U (λq=>?_) λ_=>C ⟨aP r.V3 r.D0 r.H0 r.D3 r.G1 r.F4 u v c,rfl,hfl,h.sw,hc,hk⟩
  .exact RelOK.begin (r:=aP 0 r.D0 r.H0 r.D3 0 0 u v c) hfl h.sw hc hk τ (no τ) ω ω
  .exact RelOK.begin (r:=aP 0 r.D0 r.H0 r.D3 0 0 u v c) hfl h.sw hc hk τ (no τ) ω ω
  .have q:r.V3=1:=eq_of_beq q;have hm:=h.mv q;have ha:∃n,Ib r.V3 r.D0 r.H0 r.D3 r.G1 r.F4 u v c=V ((n,()),())/\0<=n/\n<b.C0:=by
    unfold Ib;rcases hm with⟨e,h2⟩|⟨e,h2⟩<;>rw[e]
    .exact⟨_,rfl,by rw[Aa ω ω];omega,by rw[Aa ω ω];omega⟩
    .exact⟨_,rfl,by rw[Aa ω ω];omega,by rw[Aa ω ω];omega⟩
   obtain⟨n,e,hn⟩:=ha;exact J e (C ⟨aP r.V3 n r.H0 0 r.G1 r.F4 u v c,rfl,hn,S2.zero h.sw.1,hc,hk⟩)
 .cases y with
  |inr z=>obtain⟨r',e,hr⟩:=hy;exact C ⟨r',e,hr⟩
  |inl z=>obtain⟨r',rfl,g1,g2,g3,g4⟩:=hy;exact N (Af6 hb g1 g2 g3 g4 c1 c2 c3 c4 h1 h2 dw c8 c9) λy6 h6=>C h6
theorem Ale(hi:i<b.B0.length)(h:RelOK b r)(iu id pr:Int):aA (Nq b.C0 b.E0 b.I0 b.M0 b.J0 b.L0 b.N0 b.B0 (i:Int) r.V3 r.D0 r.H0 r.D3 r.G1 r.F4 r.N2 r.B2 r.R0 iu id pr) λy=>∃r',y.2.1=UL r'/\RelOK b r':=by
 have lo:=hb.lo;have hi8:=hb.hi;have htm:=h.tm;have htz:=h.tz;have hst:=h.st;have hc:=Qz hcode (c:=b.B0.getD i BL) (by rw[k_,i_ hi];exact a6_ hi);unfold Bl at hc;simp only[e_,Z_,h3_,An]at hc;obtain⟨⟨_,_,_,t1,t2,t3,_⟩,_⟩:=hc;unfold Nq;refine J (UM hb hcode h) (aC rfl (aC (f_ ω) (aC (f_ ω) ?_)));refine J (FN hb hcode) (J (EP (iu,id) (AW b)) (J (EY (r.N2,r.B2) (BR (iu,id) (AW b))) (H (b_ (ω:(0:Int)<=b.C0)) ?_)));have hu:FV b (BD (r.N2,r.B2) (BR (iu,id) (AW b))):=Bbu hb hcode h.ca;have hk:=h.car.or (C2.and (x:=pr) (C2.all (fl:=b.C0) ⟨ω,hi8⟩));generalize BD (r.N2,r.B2) (BR (iu,id) (AW b))=uc at hu;refine N (Q:=λy=>∃r',y.2.1=UL r'/\RelOK b r') (U (λq=>C ⟨aP r.V3 r.D0 r.H0 r.D3 r.G1 (aI aJ (r.F4-1)) uc.1 uc.2 _,rfl,?_⟩) λ_=>H (Ac ω ω) ?_) ?_
 .have q:1<r.F4:=l_ q;refine⟨h.st,h.fl,h.sw,h.mv,hu,hk,h.dr,?_,?_⟩
  .show 0<=aJ.wrap (r.F4-1)/\aJ.wrap (r.F4-1)<=1000000;rw[Aa ω ω];omega
  .show aJ.wrap (r.F4-1)=0↔r.V3=0;rw[Aa ω ω];omega
 .exact N (Alf hb h hu hk _ _ _ _ t1 t2 t3 _ _) λy8 h8=>C h8
 rintro⟨y1,y2,y3⟩ ⟨r',e,hr⟩;change y2=_ at e;subst e;have hfl:=hr.fl;refine U (λq=>H (b_ hr.fl.1) (J (Je r'.D0 r'.H0) (J (DY (r'.N2,r'.B2) (FP r'.D0 r'.H0)) (C ⟨aP r'.V3 r'.D0 r'.H0 r'.D3 r'.G1 r'.F4 _ _ _,rfl,?_⟩)))) λ_=>C ⟨r',rfl,hr⟩;exact⟨hr.st,hr.fl,hr.sw,hr.mv,Avj hb hcode _ hr.ca,hr.car.andNot,hr.dr,hr.tm,hr.tz⟩
end
structure RigOK(fl:Int)(r:Rig):Prop where
 f:0<=r.D0/\r.D0<fl
 t:0<=r.X2/\r.X2<fl
 d:-1<=r.X2-r.D0/\r.X2-r.D0<=1
 eq:r.D0=r.X2->r.I4=0
 ne:r.D0≠r.X2->1<=r.I4/\r.I4<=10000/\r.G1=2
 dr:(r.G1=0/\(r.O4=1\/r.O4=2)/\1<=r.E4/\r.E4<=10000)\/((r.G1=1\/r.G1=2)/\r.O4=0/\r.E4=0)
@[reducible] def Yi(r:Rig):=(r.D0,r.X2,r.I4,r.G1,r.O4,r.E4,())
def Kj:Rig:=Rig.mk 0 0 0 0 0 0
def YG(n lo hi:Int):DN n lo hi=V ((inR lo hi n,()),()):=by unfold DN inR;cases decide (lo<=n)<;>rfl
def RigOK.new{fl:Int}(h:0<=f/\f<fl):RigOK fl (Rig.mk f f 0 2 0 0):=⟨h,h,show -1<=f-f/\f-f<=1 by omega,λ_=>rfl,λe=>absurd rfl e,.inr ⟨.inr rfl,rfl,rfl⟩⟩
section
variable{fl:Int}(hl:2<=fl/\fl<=8){r:Rig}(h:RigOK fl r)
include hl h
theorem WR:Ms fl r.D0 r.X2 r.I4 r.G1 r.O4 r.E4=V ((A,()),()):=by
 have w:aJ.wrap (fl-1)=fl-1:=Aa ω ω;have hf:=h.f;have ht:=h.t;have hd:=h.d;have w2:aJ.wrap (r.X2-r.D0)=r.X2-r.D0:=Aa ω ω;refine Sat.eq ?_;have rr:∀{n lo hi:Int},lo<=n/\n<=hi->DN n lo hi=V ((A,()),()):=λ{n lo hi} h=>by rw[YG,An.2 h]
 unfold Ms;rw[w,w2];refine J (rr ⟨hl.1,show fl<=32 by omega⟩) (aC rfl (J (rr ⟨hf.1,show r.D0<=fl-1 by omega⟩) (aC rfl (J (rr ⟨ht.1,show r.X2<=fl-1 by omega⟩) (aC rfl (J (rr hd) (aC rfl ?_)))))));refine N (Q:=λy=>y=(((),B,()),(Yi r,()))) ?_ λy hy=>?_
 .by_cases e:r.D0=r.X2
  .have e1:(r.D0==r.X2)=A:=R_.2 e;have e2:(r.D0 !=r.X2)=B:=by rw[bne,e1];rfl
   refine H e1 (aC (by rw[h.eq e];rfl) (aC e2 (C rfl)))
  .obtain⟨n1,n2,n3⟩:=h.ne e;refine aC (Ao e) (H (LZ e) (J (rr ⟨n1,n2⟩) (aC rfl (C ?_))));show(((),(r.G1 !=(2:Int)),()),(Yi r,()))=_;rw[n3];rfl
 subst hy;refine aC rfl ?_;rcases h.dr with⟨d1,d2,d3,d4⟩|⟨d1,d2,d3⟩
 .refine H (show(r.G1==0)=A by rw[d1];rfl) (N (Q:=λy=>y=((A,()),())) ?_ λy hy=>by subst hy;exact C rfl);rcases d2 with d2|d2
  .exact H (show(r.O4==1)=A by rw[d2];rfl) (J (rr ⟨d3,d4⟩) (C rfl))
  .exact aC (show(r.O4==1)=B by rw[d2];rfl) (H (show(r.O4==2)=A by rw[d2];rfl) (J (rr ⟨d3,d4⟩) (C rfl)))
 .refine aC (show(r.G1==0)=B from Ao ω) (N (Q:=λy=>y=((A,()),())) ?_ λy hy=>by subst hy;exact C rfl);have fin:((((r.E4==(0:Int)),()),()):(Bool×Unit)×Unit)=((A,()),()):=by rw[d3];rfl
  rcases d1 with d1|d1
  .exact H (show(r.G1==1)=A by rw[d1];rfl) (H (show(r.O4==0)=A by rw[d2];rfl) (C fin))
  .exact aC (show(r.G1==1)=B by rw[d1];rfl) (H (show(r.G1==2)=A by rw[d1];rfl) (H (show(r.O4==0)=A by rw[d2];rfl) (C fin)))
omit hl h in
theorem YF{t a k:Int}(hf:0<=f/\f<fl)(ht:0<=t/\t<fl)(hd:-1<=t-f/\t-f<=1)(hne:f≠t)(hn:0<=n/\n<=10000)(ha:a=0/\k=0):aA (KV f t n 2 a k) λy=>∃r',y.2.1=Yi r'/\RigOK fl r':=by
 unfold KV;refine U (λq=>C ⟨Rig.mk t t n 2 a k,rfl,ht,ht,show -1<=t-t/\t-t<=1 by omega,λ_=>eq_of_beq q,λe=>absurd rfl e,.inr ⟨.inr rfl,ha.1,ha.2⟩⟩) λq=>C ⟨Rig.mk f t n 2 a k,rfl,hf,ht,hd,λe=>absurd e hne,λ_=>⟨?_,hn.2,rfl⟩,.inr ⟨.inr rfl,ha.1,ha.2⟩⟩;have q:n≠0:=λe=>by have q:(n==0)=B:=q;rw[e]at q;cases q
 show 1<=n;omega
theorem Arj(he:r.D0=r.X2){to time:Int}(hto:to=0\/to=1\/to=2)(ht:1<=time/\time<=10000):aA (Ta r.D0 r.X2 r.I4 r.G1 r.O4 r.E4 to time) λy=>∃r',y.2.1=Yi r'/\RigOK fl r':=by
 unfold Ta;have hL:=h.eq he;have mk:∀{d a k:Int},(d=0/\(a=1\/a=2)/\1<=k/\k<=10000)\/((d=1\/d=2)/\a=0/\k=0)->RigOK fl (Rig.mk r.D0 r.X2 r.I4 d a k):=λ{d a k} hd=>⟨h.f,h.t,h.d,h.eq,λe=>absurd he e,hd⟩
 refine N (Q:=λy=>match y with
  |.inl z=>∃a k:Int,∃w,z=((to,(),(),()),((r.D0,r.X2,r.I4,0,a,k,()),w))/\a=to/\to≠0/\0<=k/\k<=10000
  |.inr z=>z.2.1=Yi r) ?_ λy hy=>?_
 .refine U (λ_=>C rfl) λq0=>U (λ_=>C rfl) λq1=>?_;have q0:to≠0:=λe=>by have q:(to==0)=B:=q0;rw[e]at q;cases q
  refine N (Q:=λy=>y.2.1=Yi r/\y.1.1=to/\y.1.2.1=time/\(y.1.2.2.2.2.1=A->r.G1=0/\r.O4=to)) (U (λq=>C ⟨rfl,rfl,rfl,λq2=>⟨eq_of_beq q,eq_of_beq q2⟩⟩) λ_=>C ⟨rfl,rfl,rfl,λq=>by cases q⟩) ?_;rintro⟨⟨y1,y2,y3,y4,y5,y6⟩,y7,y8⟩ ⟨g1,g2,g3,g4⟩;change y7=_ at g1;change y1=_ at g2;change y2=_ at g3;change y5=A->_ at g4;subst g1;have g2:=g2.symm;have g3:=g3.symm;subst g2 g3;refine U (λq=>?_) λ_=>C ⟨to,aJ.wrap (time-1),_,rfl,rfl,q0,by rw[Aa ω ω];omega,by rw[Aa ω ω];omega⟩;obtain⟨d1,d2⟩:=g4 q;rcases h.dr with⟨_,_,k1,k2⟩|⟨d3,_⟩
  .have w:aJ.wrap (r.E4-1)=r.E4-1:=Aa ω ω;refine C ⟨r.O4,aJ.wrap (r.E4-1),y8,?_,d2,q0,by rw[w];omega,by rw[w];omega⟩;rw[<-d1]
  .omega
 .cases y with
  |inr z=>exact C ⟨r,hy,h⟩
  |inl z=>
   obtain⟨a,k,w,rfl,rfl,n0,k1,k2⟩:=hy;refine U (λq=>C ⟨Rig.mk r.D0 r.X2 r.I4 a 0 k,rfl,mk (.inr ⟨ω,rfl,eq_of_beq q⟩)⟩) λq=>C ⟨Rig.mk r.D0 r.X2 r.I4 0 a k,rfl,mk (.inl ⟨rfl,ω,?_,k2⟩)⟩;have q:k≠0:=λe=>by have q:(k==0)=B:=q;rw[e]at q;cases q
   omega
theorem Ari(cmd time:Int):aA (Od fl r.D0 r.X2 r.I4 r.G1 r.O4 r.E4 cmd time) λy=>∃r',y.2.1=Yi r'/\RigOK fl r':=by
 have w:aJ.wrap (fl-1)=fl-1:=Aa ω ω;have hf:=h.f;have hd:=h.d;unfold Od;refine J (WR hl h) (aC rfl ?_);have hz:1<=(bif decide ((10000:Int)<(bif decide (time<1)then 1 else time))then(10000:Int)else(bif decide (time<1)then 1 else time))/\(bif decide ((10000:Int)<(bif decide (time<1)then 1 else time))then(10000:Int)else(bif decide (time<1)then 1 else time))<=10000:=by
  have h1:1<=(bif decide (time<1)then 1 else time):=by
   by_cases g:time<1
   .rw[b_ g,d_];decide
   .rw[f_ g,c_];omega
  generalize(bif decide (time<1)then 1 else time)=z at h1;by_cases g:10000<z
  .rw[b_ g,d_];decide
  .rw[f_ g,c_];omega
 simp only[];generalize(bif decide ((10000:Int)<(bif decide (time<1)then 1 else time))then(10000:Int)else(bif decide (time<1)then 1 else time))=z1 at hz|-;have hnext:∃n,Tb r.D0 r.X2 r.I4 r.G1 r.O4 r.E4 cmd=V ((n,()),())/\-1<=n-r.D0/\n-r.D0<=1:=by
  unfold Tb;by_cases c1:cmd=1
  .subst c1;exact⟨_,rfl,by rw[Aa ω ω];omega,by rw[Aa ω ω];omega⟩
  .rw[Ao c1,c_];by_cases c2:cmd=2
   .subst c2;exact⟨_,rfl,by rw[Aa ω ω];omega,by rw[Aa ω ω];omega⟩
   .rw[Ao c2,c_];exact⟨_,rfl,ω,ω⟩
 obtain⟨n,e,hn1,hn2⟩:=hnext;refine J e (U (λq=>?_) λq=>?_)
 .have q:r.I4≠0:=by have q:(r.I4 !=0)=A:=q;simpa using q
  have hne:r.D0≠r.X2:=λe=>q (h.eq e);obtain⟨k1,k2,k3⟩:=h.ne hne;have ha:r.O4=0/\r.E4=0:=by
   rcases h.dr with g|g
   .omega
   .exact g.2
  have wl:aJ.wrap (r.I4-1)=r.I4-1:=Aa ω ω;rw[wl,k3];exact N (YF h.f h.t h.d hne ⟨ω,ω⟩ ha) λ_ h=>C h
 have q:r.I4=0:=by have q:(r.I4 !=0)=B:=q;simpa using q
 have hE:r.D0=r.X2:=by
  by_cases e:r.D0=r.X2
  .exact e
  .have:=h.ne e;omega
 refine N (Q:=λy=>∃c:Bool,y=((cmd,z1,(),(),n,c,()),(Yi r,(0,0,0,0,0,0,()),()))/\(c=A->n≠r.D0/\(0<=n/\n<fl)/\r.G1=2)) ?_ λy6 h6=>?_
 .refine U (λg=>?_) λ_=>C ⟨B,rfl,λq=>by cases q⟩;have g:n≠r.D0:=by have g:(n !=r.D0)=A:=g;simpa using g
  rw[w];refine J (YG _ _ _) (U (λg2=>C ⟨_,rfl,λq2=>⟨g,?_,eq_of_beq q2⟩⟩) λ_=>C ⟨B,rfl,λq=>by cases q⟩)
  have:=An.1 (show inR 0 (fl-1) n=A from g2)
  omega
 obtain⟨c,rfl,hc⟩:=h6;refine U (λg=>?_) λ_=>?_
 .obtain⟨c1,c2,c3⟩:=hc g;have wz:aJ.wrap (z1-1)=z1-1:=Aa ω ω;have ha:r.O4=0/\r.E4=0:=by
   rcases h.dr with g|g
   .omega
   .exact g.2
  show aA (Option.bind (KV r.D0 n (aI aJ (z1-1)) r.G1 r.O4 r.E4) _) _;rw[wz,c3];exact N (YF h.f c2 ⟨hn1,hn2⟩ (f4_ c1) ⟨ω,ω⟩ ha) λ_ h=>C h
 .have haim:∃a,Vf r.D0 r.X2 r.I4 r.G1 r.O4 r.E4 cmd=V ((a,()),())/\(a=0\/a=1\/a=2):=by
   unfold Vf;cases cmd==3 with
   |true=>exact⟨1,rfl,τ⟩
   |false=>
   cases cmd==5 with
   |true=>exact⟨2,rfl,τ⟩
   |false=>
   cases cmd==4 with
   |true=>exact⟨2,rfl,τ⟩
   |false=>exact⟨r.O4,rfl,by rcases h.dr with g|g<;>omega⟩
  obtain⟨a,e,ha⟩:=haim;exact J e (N (Arj hl h hE ha hz) λ_ h=>C h)
end
def Aan(a c:List Int):EF (a++c)=EF a++EF c:=by apply Sf;rw[Mu,Xg,Xg,Xg,List.map_append]
def Bck(n:Int)(k:Nat):DJ n (k+1)=DJ n k++[aW.wrap (aS n ((2:Int)^(aO (8*k) (IntKind.bits .u64))))]:=by unfold DJ;rw[List.range_succ,List.map_append];rfl
def Bv4(hn:0<=n)(hk:k<8):aS (aS n ((2:Int)^(aO (8*k) (IntKind.bits .u64)))) ((2:Int)^(aO (aH (8:Int)) (IntKind.bits aK)))=aS n ((2:Int)^(aO (8*(k+1)) (IntKind.bits .u64))):=by
 have p:∀k:Nat,(0:Int)<=2^k:=λk=>Int.le_of_lt (Int.pow_pos τ);rw[P_ _ (p _),P_ _ (p _),P_ _ (p _),Int.ediv_ediv_of_nonneg (p _)];congr 1;have e:∀k:Nat,k<=8->aO (8*k) (IntKind.bits .u64)=8*k:=λk hk=>by show min (8*k) 64=8*k;omega
 rw[e k ω,e (k+1) ω,Nat.mul_add,Int.pow_add];rfl
def ON(hn:0<=n)(hk:k<=8){l:List Int}(hl:l.length<=1000000):Bw n (k:Int) l=V ((),((l++DJ n k,()),())):=by
 refine Sat.eq ?_;unfold Bw;refine N (Q:=λy=>y=((),((l++DJ n k,()),()))) ?_ λy hy=>by subst hy;exact C rfl
 unfold Iw;refine aL (λ(m:Nat) z=>∃i:Nat,z=(((),aS n ((2:Int)^(aO (8*i) (IntKind.bits .u64))),(k:Int),(i:Int),()),((l++DJ n i,()),()))/\i+m=k) (λm z hz=>?_) k ⟨0,?_,o_ _⟩ ω
 .obtain⟨i,rfl,hm⟩:=hz;show aA (LT (aS n ((2:Int)^(aO (8*i) (IntKind.bits .u64)))) (k:Int) (i:Int) (l++DJ n i)) _;unfold LT;have hli:(DJ n i).length=i:=by simp[DJ]
  refine U (λq=>H (AR (by rw[g_];show _+1<=_;omega)) ?_) λq=>C ?_
  .have q:(i:Int)<(k:Int):=l_ q;have w:=Dq (n:=i) ω;refine C ⟨m-1,ω,i+1,?_,ω⟩;rw[Bv4 hn ω,M_,<-Bck,w]
  .have q:=C_ q;obtain rfl:i=k:=ω;rfl
 .show _=(((),aS n ((2:Int)^0),(k:Int),(0:Int),()),((l++[],()),()))
  rw[Y_,Int.pow_zero,Int.fdiv_one]
def Bdd(u d:Int){l:List Int}(hl:l.length<=900000):It [aQ u d] l=V ((),((l++DJ (aI aK u) 4++DJ (aI aK d) 4,()),())):=by
 refine Sat.eq ?_;have e1:=ON (k:=4) (Kn u).1 τ (l:=l) ω;have e2:=ON (k:=4) (Kn d).1 τ (l:=l++DJ (aI aK u) 4) (by rw[g_];show _+4<=_;omega);unfold It;refine N (Q:=λy=>y=((),((l++DJ (aI aK u) 4++DJ (aI aK d) 4,()),()))) ?_ λy hy=>by subst hy;exact C rfl
 unfold Ht;refine aL (λ(m:Nat) z=>(m=1/\z=(((),[aQ u d],1,0,()),((l,()),())))\/(m=0/\z=(((),[aQ u d],1,1,()),((l++DJ (aI aK u) 4++DJ (aI aK d) 4,()),())))) (λm z hz=>?_) 1 (.inl ⟨rfl,rfl⟩) τ;rcases hz with⟨rfl,rfl⟩|⟨rfl,rfl⟩
 .show aA (Fz [aQ u d] 1 0 l) _;unfold Fz;exact H rfl (H rfl (J e1 (J e2 (C ⟨0,rfl,.inr ⟨rfl,rfl⟩⟩))))
 .show aA (Fz [aQ u d] 1 1 (l++DJ (aI aK u) 4++DJ (aI aK d) 4)) _;unfold Fz;exact aC rfl (C rfl)
def Bde{bs:List Bool}(hb:bs.length<=8)(h0:0<=AV (Rh bs) bs.length 0 0){l:List Int}(hl:l.length<=900000):Iu bs l=V ((),((l++DJ (AV (Rh bs) bs.length 0 0) 1,()),())):=by
 have h:=Cb (step:=λx=>DX x.1.2.1 x.1.2.2.1 x.1.2.2.2.1 x.1.2.2.2.2.1 x.2.1.1) bs.length (λi n=>(((),n,bs,(bs.length:Int),(i:Int),()),((l,()),()))) (Rh bs) (λ_ _=>True) (λn=>(((),n,()),((l,()),())))
  (λi n hi _=>by refine⟨?_,trivial⟩;show DX n bs (bs.length:Int) (i:Int) l=_;unfold DX;simp only[b_ (ω:(i:Int)<(bs.length:Int)),Ac (ω:(0:Int)<=(i:Int)) (ω:(i:Int)<(bs.length:Int)),d_,j_,b_ (ω:(0:Int)<=(i:Int)),Dq (ω:i<1000000000)];unfold Rh Bue;cases bs.getD i B<;>rfl)
  (λn _=>by show DX n bs (bs.length:Int) (bs.length:Int) l=_;unfold DX;rw[f_ (U_ (bs.length:Int))];rfl) bs.length 0 0 ω trivial
 have h2:Hu (((),(0:Int),bs,(bs.length:Int),(0:Int),()),((l,()),()))=_:=Aw h.1 ω;unfold Iu;exact Ae h2 (Ae (ON (k:=1) h0 τ (l:=l) ω) rfl)
structure InC(b:Bldg)(c:CarInput):Prop where
 fl:C2 b.C0 c.H1
 ca:C2 b.C0 c.M2
 ff:0<=c.H2/\c.H2<b.C0
 dr:0<=c.E2/\c.E2<=2
structure InS(b:Bldg)(x:Inp):Prop where
 press:JE b x.press=true
 pu:EN x.press
 kind:0<=x.kind/\x.kind<=8
 car:0<=x.car/\x.car<(b.B0.length:Int)
 none:x.kind=0->x.car=0
 len:x.cars.length=b.B0.length
 cars:∀c∈x.cars,InC b c
section
variable{b:S}(hb:b.small)
include hb
theorem C2.flV(h:C2 b.C0 n):Go.Ovl.flV b n=A:=by have h2:=Apz hb;obtain⟨h1,h3⟩:=h;unfold Go.Ovl.flV;rw[Gy ω ω];exact RV.2 ⟨h1,h3⟩
theorem InC.inV{c:CarInput}(h:InC b c):WH b c=A:=by have hf:=h.ff;unfold WH;rw[C2.flV hb h.fl,C2.flV hb h.ca,An.2 h.dr,An.2 (ω:0<=c.H2/\c.H2<=b.C0-1)];rfl
theorem InS.inV(h:InS b x):XS b x=A:=by
 have hc:=h.car;unfold XS;rw[h.press,An.2 h.kind,An.2 (ω:0<=x.car/\x.car<=(b.B0.length:Int)-1),h.len,m_,L_.2 λc hc=>(h.cars c hc).inV hb];cases h0:x.kind==0 with
 |false=>rfl
 |true=>rw[h.none (eq_of_beq h0)];rfl
variable(hcode:b.code=0)
include hcode
theorem Ak0(h:InS b x):PW b.C0 b.E0 b.I0 b.M0 b.J0 b.L0 b.N0 b.B0 x.press.1 x.press.2 x.kind x.car x.cars=V ((A,()),()):=by
 have lo:=hb.lo;have hi:=hb.hi;have hcc:=Ah hcode;have hc:=h.car;have hl:=h.len;have w1:aJ.wrap ((b.B0.length:Int)-1)=(b.B0.length:Int)-1:=Aa ω ω;have w2:aJ.wrap (b.C0-1)=b.C0-1:=Aa ω ω;have hwi:∀{n m:Int},0<=n/\n<=m->II n m=V ((A,()),()):=λ{n m} h=>by unfold II;rw[b_ h.1,b_ h.2];rfl
 have e32:aO (aH b.C0) (IntKind.bits aR)=aH b.C0:=by show min (aH b.C0) 32=_;omega
 have hp:vb (bv x.press.1&&& ~~~ bv (AW b).1)=0/\vb (bv x.press.2&&& ~~~ bv (AW b).2)=0:=by
  have h1:=h.press;unfold JE isZ at h1;have h1:(Au x.press (AW b)).1=0/\(Au x.press (AW b)).2=0:=by simpa using h1
  exact h1
 refine Sat.eq ?_;unfold PW;rw[w1];refine N (Q:=λy=>y=(((),(),B,()),(b.tup,x.tup,()))) (J (Uy hb hcode hp.1 hp.2) (aC rfl (J (hwi h.kind) (aC rfl (J (hwi ⟨hc.1,show x.car<=(b.B0.length:Int)-1 by omega⟩) (aC rfl ?_)))))) λy hy=>?_
 .have e:((x.cars.length:Int) !=(b.B0.length:Int))=B:=by rw[hl];exact O_ _
  rw[e];refine U (λq=>aC ?_ (C rfl)) λ_=>C rfl;rw[h.none (eq_of_beq q)];rfl
 subst hy;refine aC rfl (N (Q:=λy=>y=.inl ((),())) ?_ λy hy=>by subst hy;exact C rfl);unfold Oh;refine aL (λ(k:Nat) z=>∃i:Nat,z=(((),x.cars,(x.cars.length:Int),(i:Int),()),(b.tup,()))/\i+k=x.cars.length) (λk z hz=>?_) x.cars.length ⟨0,rfl,o_ _⟩ ω;obtain⟨i,rfl,hk⟩:=hz;show aA (QV x.cars (x.cars.length:Int) (i:Int) b.C0 b.E0 b.I0 b.M0 b.J0 b.L0 b.N0 b.B0) _;unfold QV;refine U (λq=>?_) λ_=>C rfl;have q:(i:Int)<(x.cars.length:Int):=l_ q;have wr:=Dq (n:=i) ω;have hci:=h.cars _ (AL UF (ω:i<x.cars.length));have hff:=hci.ff;have hdr:=hci.dr;refine H (Ac ω q) (N (Q:=λy=>y=((A,()),())) ?_ λy hy=>?_)
 .simp only[j_];rw[show CarInput.mk 0 B B B B 0 B 0 B 0 0=UF from rfl];generalize x.cars.getD i UF=c at hci hff hdr;unfold PV;rw[e32,w2];have g0:=b_ (ω:(0:Int)<=b.C0);refine N (Q:=λy=>y=((A,()),())) (H g0 (H (RV.2 hci.fl) (H g0 (H (RV.2 hci.ca) (J (hwi ⟨hff.1,show c.H2<=b.C0-1 by omega⟩) (H rfl (U (λ_=>C rfl) λd0=>U (λ_=>C rfl) λd1=>C ?_))))))) λy hy=>by subst hy;exact C rfl
  have d0:c.E2≠0:=λe=>by rw[e]at d0;cases d0
  have d1:c.E2≠1:=λe=>by rw[e]at d1;cases d1
  rw[show c.E2=2 by omega];rfl
 subst hy;exact aC rfl (C ⟨k-1,ω,i+1,by first|(rw[<-wr];rfl)|rw[<-wr],ω⟩)
theorem Aq6(h:InS b x):SW b.C0 b.E0 b.I0 b.M0 b.J0 b.L0 b.N0 b.B0 x.press.1 x.press.2 x.kind x.car x.cars=V ((inV b x,0,()),()):=by
 have hcc:=Ah hcode;have hl:=h.len;have hlen:∀(n:Int) (k:Nat),(DJ n k).length=k:=λn k=>by simp[DJ]
 refine Sat.eq ?_;unfold SW;refine J (AC ..) (aC (by show(b.code !=0)=B;rw[hcode];rfl) (J (Ak0 hb hcode h) (aC rfl ?_)));refine J (Bdd x.press.1 x.press.2 (l:=[165,aW.wrap (b.B0.length:Int)]) (by show 2<=_;omega)) ?_;refine J (ON (k:=1) (Kn x.kind).1 τ (by simp only[g_,hlen];show 2+4+4<=_;omega)) ?_;refine J (ON (k:=1) (Kn x.car).1 τ (by simp only[g_,hlen];show 2+4+4+1<=_;omega)) ?_;have hh:EF ([165,aW.wrap (b.B0.length:Int)]++DJ (aI aK x.press.1) 4++DJ (aI aK x.press.2) 4++DJ (aI aK x.kind) 1++DJ (aI aK x.car) 1)=QF b x:=by
  simp only[Aan];have e:EF [165,aW.wrap (b.B0.length:Int)]=nmB 165 1++nmB (aI aK (b.B0.length:Int)) 1:=by unfold nmB;rw[<-Aan,Gy (n:=(b.B0.length:Int)) ω ω];show EF [165,aW.wrap (b.B0.length:Int)]=EF [_,aW.wrap (aS (b.B0.length:Int) ((2:Int)^0))];rw[Int.pow_zero,Int.fdiv_one];rfl
  rw[e];unfold QF Zh nmB;simp only[ByteArray.append_assoc]
 have hz:([165,aW.wrap (b.B0.length:Int)]++DJ (aI aK x.press.1) 4++DJ (aI aK x.press.2) 4++DJ (aI aK x.kind) 1++DJ (aI aK x.car) 1).length=12:=by simp only[g_,hlen];rfl
 generalize [165,aW.wrap (b.B0.length:Int)]++DJ (aI aK x.press.1) 4++DJ (aI aK x.press.2) 4++DJ (aI aK x.kind) 1++DJ (aI aK x.car) 1=l0 at hh hz;refine N (Q:=λy=>∃l,y=(((),()),((l,()),()))/\EF l=x.cars.foldl SH (QF b x)) ?_ λy hy=>?_
 .unfold Qj;refine aL (λ(k:Nat) z=>∃(i:Nat) (l:List Int),z=(((),x.cars,(x.cars.length:Int),(i:Int),()),((l,()),()))/\i+k=x.cars.length/\l.length=12+19*i/\(x.cars.drop i).foldl SH (EF l)=x.cars.foldl SH (QF b x)) (λk z hz=>?_) x.cars.length ⟨0,l0,rfl,o_ _,hz,by rw[hh];rfl⟩ ω;obtain⟨i,l,rfl,hk,hll,hT⟩:=hz;show aA (TW x.cars (x.cars.length:Int) (i:Int) l) _;unfold TW;refine U (λq=>?_) λq=>C ⟨l,rfl,?_⟩
  .have q:(i:Int)<(x.cars.length:Int):=l_ q;have wr:=Dq (n:=i) ω;rw[Cm UF (ω:i<x.cars.length),g5_]at hT;refine H (Ac ω q) ?_;simp only[j_];rw[show CarInput.mk 0 B B B B 0 B 0 B 0 0=UF from rfl];generalize x.cars.getD i UF=c at hT;obtain⟨g0,_⟩:=Bv0 c.V2 c.K2 c.L2 c.U1 c.Q2 c.Z2;refine J (ON (k:=4) (Kn c.H1).1 τ ω) ?_;refine J (Bde (bs:=[c.V2,c.K2,c.L2,c.U1,c.Q2,c.Z2]) (by show 6<=8;omega) g0.1 (by simp only[g_,hlen];omega)) ?_;refine J (ON (k:=1) (Kn c.H2).1 τ (by simp only[g_,hlen];omega)) ?_;refine J (ON (k:=1) (Kn c.E2).1 τ (by simp only[g_,hlen];omega)) ?_;refine J (ON (k:=4) (Kn c.M2).1 τ (by simp only[g_,hlen];omega)) ?_;refine J (ON (k:=8) (n:=((c.A4:Nat):Int)) ω τ (by simp only[g_,hlen];omega)) ?_;refine C ⟨k-1,ω,i+1,_,by first|(rw[<-wr];rfl)|rw[<-wr],ω,by simp only[g_,hlen];omega,?_⟩;rw[<-hT];congr 1;simp only[Aan];rfl
  .have q:=C_ q;rw[List.drop_of_length_le ω]at hT;exact hT
 .obtain⟨l,rfl,hl⟩:=hy;refine J (Ab5 (s:=EF l) (by rw[hl,Afb,Afj];omega)) (C ?_);show((Mf (EF l),0,()),())=_;rw[hl];rfl
end
def Ali(p a d:Int)(k:Bool):Prop:=(a=0/\d=0/\k=A)\/(Eu p=A/\k=B)
def Ue(p c:Int):Bool:=c==0||(p==3||p==4)
def Atp(p c:Int):FJ p c=V ((Ue p c,()),()):=by unfold FJ Ue;cases c==0<;>cases p==3<;>rfl
def VB(p:Int):KM p=V ((Eu p,()),()):=by unfold KM Eu;cases p==0<;>rfl
section
variable{b:S}(hw:BW b){x:Inp}{g:Bool}
include hw
theorem Bj1(hi:i<b.B0.length)(p:Int){s:Belief}(h:BelOK b i s):aA (NS b.C0 b.E0 b.I0 b.M0 b.J0 b.L0 b.N0 b.B0 (i:Int) p s.D0 s.H0 s.G1 s.V0 s.I3 s.Z3) λy=>∃a d k,y=(((),()),((a,d,k,()),()))/\Ali p a d k/\FV b (a,d):=by
 have hd:=h.dut.len hw.small;unfold NS;refine J (VB p) (U (λ_=>C ⟨0,0,A,rfl,.inl ⟨rfl,rfl,rfl⟩,Vz hw.small hw.code⟩) λq=>?_);have q:Eu p=A:=by simpa using(show(!Eu p)=B from q)
 refine J (JC hw.small hw.code hi h) (aC rfl ?_);refine N (Q:=λy=>∃a d,y=(((),(),()),((0,0,B,()),(a,d,B,()),()))/\FV b (a,d)) ?_ λy hy=>by obtain⟨a,d,rfl,hh⟩:=hy;exact C ⟨a,d,B,rfl,.inr ⟨q,rfl⟩,hh⟩
 unfold LN;refine aL (λ(k:Nat) z=>∃(j:Nat) (c:Int×Int),z=(((i:Int),(),(),(),s.V0,(s.V0.length:Int),(j:Int),()),((b.C0,b.E0,b.I0,b.M0,b.J0,b.L0,b.N0,b.B0,()),(0,0,B,()),(c.1,c.2,B,()),()))/\j+k=s.V0.length/\FV b c) (λk z hz=>?_) s.V0.length ⟨0,(0,0),rfl,o_ _,Vz hw.small hw.code⟩ ω;obtain⟨j,c,rfl,hk,hh⟩:=hz;show aA (Py (i:Int) s.V0 (s.V0.length:Int) (j:Int) b.C0 b.E0 b.I0 b.M0 b.J0 b.L0 b.N0 b.B0 0 0 B c.1 c.2 B) _;unfold Py;refine U (λq=>?_) λ_=>C ⟨_,_,rfl,hh⟩;have q:(j:Int)<(s.V0.length:Int):=l_ q;have w:=Dq (n:=j) ω;refine H (Ac ω q) (H (Ac ω ω) (U (λ_=>J (Je _ _) (J (EY c (FP _ _)) ?_)) λ_=>?_))
 .exact C ⟨k-1,ω,j+1,_,by first|(rw[<-w];rfl)|rw[<-w],ω,Bbv hw.small hw.code hh (h.dut.1 _ (AL HK (ω:j<s.V0.length))).1⟩
 .exact C ⟨k-1,ω,j+1,c,by first|(rw[<-w];rfl)|rw[<-w],ω,hh⟩
end
def o1(c:aG)(a d:Int)(k:Bool):aG:=aU a d k c.I2 c.S1 c.J4 c.G2 c.V1 c.L4
def o2(c:aG)(p:Int):aG:=aU c.B1 c.Y0 c.R1 c.I2 c.S1 c.J4 c.G2 p c.L4
def o3(c:aG)(f:Bool):aG:=aU c.B1 c.Y0 c.R1 c.I2 c.S1 c.J4 c.G2 c.V1 f
def o4(c:aG):aG:=aU c.B1 c.Y0 c.R1 c.I2 c.S1 c.J4 0 c.V1 c.L4
def Bfc(l:List aG)(i:Nat)(a d:Int)(k:Bool):List aG:=l.set i (o1 (l.getD i Av) a d k)
def Bfd(l:List aG)(i:Nat)(a d:Int)(k:Bool)(p:Int):List aG:=(Bfc l i a d k).set i (o2 ((Bfc l i a d k).getD i Av) p)
def Ahs(l:List aG)(i:Nat)(a d:Int)(k:Bool)(p:Int)(f:Bool):List aG:=(Bfd l i a d k p).set i (o3 ((Bfd l i a d k p).getD i Av) f)
def Als(l:List aG)(i:Nat)(a d:Int)(k:Bool)(p:Int)(f:Bool):List aG:=(Ahs l i a d k p f).set i (o4 ((Ahs l i a d k p f).getD i Av))
def Asi{l:List aG}(hi:i<l.length)(a d:Int)(k:Bool)(p:Int)(f:Bool):Ahs l i a d k p f=l.set i (o3 (o2 (o1 (l.getD i Av) a d k) p) f):=by unfold Ahs Bfd Bfc;simp only[By _ _ hi,h2_]
def Bfb{l:List aG}(hi:i<l.length)(a d:Int)(k:Bool)(p:Int)(f:Bool):Als l i a d k p f=l.set i (o4 (o3 (o2 (o1 (l.getD i Av) a d k) p) f)):=by unfold Als;rw[Asi hi,By _ _ hi,h2_]
structure FinO(b:Bldg)(m:Img)(i:Nat)(c d:CarOutput):Prop where
 lu:d.I2=c.I2
 ld:d.S1=c.S1
 gong:d.J4=c.J4
 phase:d.V1=phA m i
 flag:d.L4=flA m i
 coils:Ali (phA m i) d.B1 d.Y0 d.R1
 cmd:Ue (phA m i) d.G2=true
 cmdr:CmdR d.G2
 inj:FV b (d.B1,d.Y0)
structure Fin(b:Bldg)(g:Bool)(t t':Pk):Prop where
 m:PM b t'.m
 im:t'.m.F0=t.m.F0
 st:t'.m.Z0=t.m.Z0
 bu:t'.budget=t.budget
 e:t'.e=t.e
 out:t'.out={ t.out with G4:=(ofC t.m.F0.A0 (0,0)).1,X3:=(ofC t.m.F0.A0 (0,0)).2,G6:=!g,B0:=t'.out.B0 }
 oc:t'.out.B0.length=b.B0.length
 cars:∀i,i<b.B0.length->FinO b t.m.F0 i (t.out.B0.getD i Av) (t'.out.B0.getD i Av)
 con:t'.m.K1=t.m.K1
def Pk.sLmp(t:Pk)(c:Int×Int)(f:Bool):Pk:={ t with out:={ t.out with G4:=c.1,X3:=c.2,G6:=f } }
section
variable{b:S}(hw:BW b){x:Inp}{g:Bool}
include hw
set_option maxHeartbeats 4000000 in
theorem Bfe(hm:PM b t.m)(hr:PR b t):aA (CG (((),t.m.F0.G0,(t.m.F0.G0.length:Int),(0:Int),()),(t.tup b x g,()))) λy=>∃t',y=((),(t'.tup b x g,()))/\PM b t'.m/\Fix t t'/\t'.out.B0.length=b.B0.length/\∀i,i<b.B0.length->FinO b t.m.F0 i (t.out.B0.getD i Av) (t'.out.B0.getD i Av):=by
 have hcc:=Ah hw.code;have hp:=hm.jst.img.lp;unfold CG;refine aL (λ(k:Nat) z=>∃(i:Nat) (t':Pk),z=(((),t.m.F0.G0,(t.m.F0.G0.length:Int),(i:Int),()),(t'.tup b x g,()))/\i+k=b.B0.length/\PM b t'.m/\PR b t'/\Fix t t'/\(∀j,j<i->FinO b t.m.F0 j (t.out.B0.getD j Av) (t'.out.B0.getD j Av))/\∀j,i<=j->t'.out.B0.getD j Av=t.out.B0.getD j Av) (λk z hz=>?_) b.B0.length ⟨0,t,rfl,o_ _,hm,hr,.rfl' t,λj hj=>absurd hj (e8_ j),λj _=>rfl⟩ ω;obtain⟨i,u,rfl,hk,hmu,hru,hf,h1,h2⟩:=hz;show aA (u.ap (FM t.m.F0.G0 (t.m.F0.G0.length:Int) (i:Int)) b x g) _;unfold Pk.ap FM;refine U (λq=>?_) λq=>C ⟨u,rfl,hmu,hf,hru.oc,λj hj=>h1 j (by have:=C_ q;omega)⟩;have q:(i:Int)<(t.m.F0.G0.length:Int):=l_ q;have hi:i<b.B0.length:=ω;have w:=Dq (n:=i) ω;have ifl:aE (i:Int) u.m.F0.O0.length=A:=Ac ω (by rw[hmu.jst.img.lf];omega);refine H (Ac ω q) ?_;refine N (Q:=λy=>∃v:Pk,y=(((),(i:Int),Z t.m.F0 i,t.m.F0.G0,(t.m.F0.G0.length:Int),(i:Int),()),(v.tup b x g,()))/\PM b v.m/\PR b v/\Fix t v/\v.out=u.out) ?_ λy5 h5=>?_
 .refine N (Q:=λy=>∃c:Bool,y=(((),(i:Int),Z t.m.F0 i,t.m.F0.G0,(t.m.F0.G0.length:Int),(i:Int),c,()),(u.tup b x g,()))) (J (Ys _) (U (λ_=>H ifl (C ⟨_,rfl⟩)) λ_=>C ⟨_,rfl⟩)) λy2 h2=>?_;obtain⟨c,rfl⟩:=h2;have i2:aE (i:Int) u.m.U0.length=A:=Ac ω (by rw[hmu.bel];omega);refine U (λ_=>H i2 ?_) λ_=>C ⟨u,rfl,hmu,hru,hf,rfl⟩;refine N (Aoa hw hmu.jst.img (i:Int)) λy3 _=>N (Ael hw.small hw.code hi (hmu.belv i hi) _ _) λy4 h4=>H i2 ?_;obtain⟨ya,yb,yc⟩:=y4;obtain⟨v,e4,hv⟩:=h4;change yb=_ at e4;subst e4;exact C ⟨u.sBel i v,rfl,hmu.sBel hv,hru.sBel i v,⟨⟨hf.im,hf.st,hf.bu,hf.e,hf.out⟩,hf.con⟩,rfl⟩
 obtain⟨v,rfl,hmv,hrv,hfv,hov⟩:=h5;have j2:aE (i:Int) v.m.U0.length=A:=Ac ω (by rw[hmv.bel];omega);have jo:aE (i:Int) v.out.B0.length=A:=Ac ω (by rw[hrv.oc];omega);have jf:aE (i:Int) v.m.F0.O0.length=A:=Ac ω (by rw[hmv.jst.img.lf];omega);have jr:aE (i:Int) v.reset.length=A:=Ac ω (by rw[hrv.rst];omega);have hio:i<v.out.B0.length:=by rw[hrv.oc];exact hi
 refine H jo (H j2 (N (Bj1 hw hi _ (hmv.belv i hi)) λy6 h6=>H jf (H jr ?_)));obtain⟨a,d,kc,rfl,hcoil,hinj⟩:=h6;have hprev:v.out.B0.getD i Av=t.out.B0.getD i Av:=by rw[hov];exact h2 i (y_ i)
 have hflag:flA v.m.F0 i=flA t.m.F0 i:=by rw[hfv.im]
 have e9:=Asi hio a d kc (Z t.m.F0 i) (flA v.m.F0 i);have e10:=Bfb hio a d kc (Z t.m.F0 i) (flA v.m.F0 i);have done:∀c:aG,FinO b t.m.F0 i (t.out.B0.getD i Av) c->PM b (v.sOuts (v.out.B0.set i c)).m/\PR b (v.sOuts (v.out.B0.set i c))/\Fix t (v.sOuts (v.out.B0.set i c))/\(∀j,j<i+1->FinO b t.m.F0 j (t.out.B0.getD j Av) ((v.sOuts (v.out.B0.set i c)).out.B0.getD j Av))/\∀j,i+1<=j->(v.sOuts (v.out.B0.set i c)).out.B0.getD j Av=t.out.B0.getD j Av:=λc hc=>by
  refine⟨hmv,⟨hrv.leg,hrv.sho,hrv.rst,(by show(v.out.B0.set i c).length=_;rw[z_];exact hrv.oc),Ar4 hrv.cmd hc.cmdr i⟩,⟨⟨hfv.im,hfv.st,hfv.bu,hfv.e,by show({ v.out with B0:=_ }:Outputs)=_;rw[hfv.out];rfl⟩,hfv.con⟩,λj hj=>?_,λj hj=>?_⟩
  .show FinO b t.m.F0 j (t.out.B0.getD j Av) ((v.out.B0.set i c).getD j Av);by_cases e:i=j
   .subst e;rw[By _ _ hio];exact hc
   .rw[Df _ _ e,hov];exact h1 j ω
  .show(v.out.B0.set i c).getD j Av=_;rw[Df _ _ ω,hov];exact h2 j ω
 refine U (λ_=>?_) λ_=>J (Atp _ _) (U (λq7=>?_) λq7=>?_)
 .obtain⟨d1,d2,d3,d4,d5⟩:=done (o4 (o3 (o2 (o1 (v.out.B0.getD i Av) a d kc) (Z t.m.F0 i)) (flA v.m.F0 i))) ⟨by rw[<-hprev];rfl,by rw[<-hprev];rfl,by rw[<-hprev];rfl,rfl,hflag,hcoil,rfl,rfl,hinj⟩;refine C ⟨k-1,ω,i+1,v.sOuts (Als v.out.B0 i a d kc (Z t.m.F0 i) (flA v.m.F0 i)),by first|(rw[<-w];rfl)|rw[<-w],ω,?_⟩;rw[e10];exact⟨d1,d2,d3,d4,d5⟩
 .obtain⟨d1,d2,d3,d4,d5⟩:=done (o4 (o3 (o2 (o1 (v.out.B0.getD i Av) a d kc) (Z t.m.F0 i)) (flA v.m.F0 i))) ⟨by rw[<-hprev];rfl,by rw[<-hprev];rfl,by rw[<-hprev];rfl,rfl,hflag,hcoil,rfl,rfl,hinj⟩;refine C ⟨k-1,ω,i+1,v.sOuts (Als v.out.B0 i a d kc (Z t.m.F0 i) (flA v.m.F0 i)),by first|(rw[<-w];rfl)|rw[<-w],ω,?_⟩;rw[e10];exact⟨d1,d2,d3,d4,d5⟩
 .have q7:(!Ue (Z t.m.F0 i) ((Ahs v.out.B0 i a d kc (Z t.m.F0 i) (flA v.m.F0 i)).getD i Av).G2)=B:=q7;rw[e9,By _ _ hio]at q7;obtain⟨d1,d2,d3,d4,d5⟩:=done (o3 (o2 (o1 (v.out.B0.getD i Av) a d kc) (Z t.m.F0 i)) (flA v.m.F0 i)) ⟨by rw[<-hprev];rfl,by rw[<-hprev];rfl,by rw[<-hprev];rfl,rfl,hflag,hcoil,by simpa using q7,(by show CmdR (v.out.B0.getD i Av).G2;exact hrv.cmd i),hinj⟩;refine C ⟨k-1,ω,i+1,v.sOuts (Ahs v.out.B0 i a d kc (Z t.m.F0 i) (flA v.m.F0 i)),by first|(rw[<-w];rfl)|rw[<-w],ω,?_⟩;rw[e9];exact⟨d1,d2,d3,d4,d5⟩
theorem Bff(hm:PM b t.m)(hr:PR b t):aA (t.ap Ek b x g) λy=>∃t',y=((),(t'.tup b x g,()))/\Fin b g t t':=by
 have he:=DH hw.small hm.jst.img;have hlm:HO t.m.F0.G0 t.m.F0.O0 t.m.F0.K0 t.m.F0.A0=V (((),()),(((ofC t.m.F0.A0 (0,0)).1,(ofC t.m.F0.A0 (0,0)).2,()),())):=by unfold HO;exact Ae (Ab4 ω) rfl
 unfold Pk.ap Ek;refine J hlm ?_;refine N (Bfe hw (x:=x) (g:=g) (t:=t.sLmp (ofC t.m.F0.A0 (0,0)) (!g)) hm ⟨hr.leg,hr.sho,hr.rst,hr.oc,hr.cmd⟩) λy2 h2=>?_;obtain⟨t',rfl,h1,h2,h3,h4⟩:=h2;exact C ⟨t',rfl,h1,h2.im,h2.st,h2.bu,h2.e,by rw[h2.out];rfl,h3,h4,h2.con⟩
end
def RunR(b:S)(x:Inp)(g:Bool)(t t':Pk):Prop:=∃(t1 t2:Pk) (l1:List W),PM b t1.m/\PR b t1/\FixR t t1/\(∀r∈l1,Tp b r)/\l1.length<=8/\(t2.out={ t1.out with B0:=t2.out.B0 }/\(g=A->∀j,j<b.B0.length->Eu (Z t1.m.F0 j)=A->DC t2 j))/\
 ((De b t1 t2 l1/\t'=t2)\/(Al b t1 t2 l1/\∃(t3:Pk) (l2:List W),((g=B/\t3=t2/\l2=[])\/(g=A/\Opr b x g t2 t3 l2))/\
  ((De b t2 t3 l2/\t'=t3)\/(Al b t2 t3 l2/\∃(t4:Pk) (vs:List aF),Dsp b x g t3 t4 vs/\
   ((t4.e=8/\t'=t4)\/(t4.e=0/\Fin b g t4 t'))))))
section
variable{b:S}(hw:BW b){x:Inp}{g:Bool}(hx:g=A->InOK b x)
include hw hx
theorem Bw8(hm:PM b t.m)(hr:PR b t)(hb:Bud t):aA (t.ap Ft b x g) λy=>∃t',(y=.inl ((),(t'.tup b x g,()))\/y=.inr ((),(t'.tup b x g,())))/\RunR b x g t t':=by
 unfold Pk.ap Ft;refine N (Q:=λy=>∃t1,y=(((),(),(),(),()),(((),(),(),(),(),()),t1.tup b x g,()))/\PM b t1.m/\PR b t1/\FixR t t1) ?_ λy3 h3=>?_
 .refine N (Bum hw hx hm hr) λy1 h1=>?_;obtain⟨t1,e|e,h⟩:=h1
  .subst e;exact C ⟨t1,rfl,h⟩
  .subst e;exact C ⟨t1,rfl,h⟩
 obtain⟨t1,rfl,m1,r1,f1⟩:=h3;have b1:Bud t1:=⟨f1.e.trans hb.1,by rw[f1.bu];exact hb.2⟩
 refine aC (show(t1.e !=0)=B by rw[b1.1];rfl) ?_;refine N (Boz hw hx m1 r1 b1) λy4 h4=>?_;obtain⟨t2,l1,rfl,hl1,hn1,res2,o2⟩:=h4;have e8:∀{u v:Pk}{l:List W},(Al b u v l\/De b u v l)->(v.e !=0)=A->De b u v l:=λh q=>by
  rcases h with h|h
  .rw[h.e]at q;cases q
  .exact h
 have e0:∀{u v:Pk}{l:List W},(Al b u v l\/De b u v l)->(v.e !=0)=B->Al b u v l:=λh q=>by
  rcases h with h|h
  .exact h
  .rw[h.e]at q;cases q
 refine U (λq=>C ⟨t2,.inl rfl,t1,t2,l1,m1,r1,f1,hl1,hn1,o2,.inl ⟨e8 res2 q,rfl⟩⟩) λq=>?_;have a2:=e0 res2 q;have b2:=a2.bud b1;refine N (Q:=λy=>∃(t3:Pk) (l2:List W),y=((),(t3.tup b x g,()))/\((g=B/\t3=t2/\l2=[])\/(g=A/\Opr b x g t2 t3 l2))/\(Al b t2 t3 l2\/De b t2 t3 l2)) ?_ λy5 h5=>?_
 .show aA (t2.ap CP b x g) _;unfold Pk.ap CP;refine U (λhg=>?_) λhg=>C ⟨t2,[],rfl,.inl ⟨hg,rfl,rfl⟩,.inl ⟨a2.e,a2.m,a2.r,rfl,a2.b0,d9_ _,σ,rfl⟩⟩;refine N (Q:=λy=>∃(t3:Pk) (l2:List W),y=((),(t3.tup b x g,()))/\Opr b x g t2 t3 l2) ?_ λy3 h3=>by obtain⟨t3,l2,rfl,h⟩:=h3;exact C ⟨t3,l2,rfl,.inr ⟨hg,h⟩,h.res⟩
  refine N (Bcp hw (hx hg) (g:=g) a2.m a2.r b2) λy1 h1=>?_;obtain⟨t3,l2,e|e,h⟩:=h1
  .subst e;exact C ⟨t3,l2,rfl,h⟩
  .subst e;exact C ⟨t3,l2,rfl,h⟩
 obtain⟨t3,l2,rfl,hop,res3⟩:=h5;refine U (λq=>C ⟨t3,.inl rfl,t1,t2,l1,m1,r1,f1,hl1,hn1,o2,.inr ⟨a2,t3,l2,hop,.inl ⟨e8 res3 q,rfl⟩⟩⟩) λq=>?_;have a3:=e0 res3 q;have b3:=a3.bud b2;refine N (Aut hw hx a3.m a3.r b3) λy6 h6=>?_;obtain⟨t4,vs,rfl,hd⟩:=h6;refine U (λq=>C ⟨t4,.inl rfl,t1,t2,l1,m1,r1,f1,hl1,hn1,o2,.inr ⟨a2,t3,l2,hop,.inr ⟨a3,t4,vs,hd,.inl ⟨(e8 hd.res q).e,rfl⟩⟩⟩⟩) λq=>?_;have a4:=e0 hd.res q;refine N (Bff hw (x:=x) (g:=g) a4.m a4.r) λy7 h7=>?_;obtain⟨t5,rfl,hf⟩:=h7;have he:(t5.e !=0)=B:=by rw[hf.e,a4.e];rfl
 exact aC he (C ⟨t5,.inr rfl,t1,t2,l1,m1,r1,f1,hl1,hn1,o2,.inr ⟨a2,t3,l2,hop,.inr ⟨a3,t4,vs,hd,.inr ⟨a4.e,hf⟩⟩⟩⟩)
end
def RunR.cases(hw:BW b){g:Bool}{t':Pk}(h:RunR b x g t t')(hb:Bud t):(t'.e=0/\PM b t'.m/\t'.out.B0.length=b.B0.length/\0<=t'.budget)\/(t'.e=8/\t.budget<300000):=by
 obtain⟨t1,t2,l1,m1,r1,f1,hl1,hn1,o2,⟨d,rfl⟩|⟨a2,t3,l2,hop,h⟩⟩:=h
 .have:=d.lo
  rw[f1.bu]at this;exact .inr ⟨d.e,ω⟩
 have hn2:l2.length<=100:=by
  rcases hop with⟨_,_,rfl⟩|⟨_,h⟩
  .exact a3_ _
  .obtain⟨i,cm,fr,_,hi,_,rfl,_⟩:=h.how;have h1:=(ZQ (b:=b) t2.m.F0 x.kind hi (cm.getD i B) fr).2;have h2:=Vk (Aj t2.m.F0 (Kt t2.m.F0 x.kind i (cm.getD i B) fr).1) (bif x.kind !=0 then cm.set i B else cm) b.B0.length
   have:=Ah m1.jst.img.code
   unfold Jh;rw[g_];omega
 have k2:=a2.b2;rw[f1.bu]at k2;rcases h with⟨d,rfl⟩|⟨a3,t4,vs,hd,h⟩
 .have:=d.lo
  exact .inr ⟨d.e,ω⟩
 have k3:=a3.b2;have hn3:(QO b x g t3 vs).recs.length<=300:=(Ad6 hw.small hw.code a3.m.jst.img a3.m.exl a3.m.exv t3.m.G3 x.press g hd.va.len).2;rcases h with⟨h8,rfl⟩|⟨h0,hf⟩
 .rcases hd.res with a|d
  .rw[a.e]at h8;cases h8
  .have:=d.lo
   exact .inr ⟨h8,ω⟩
 .rcases hd.res with a|d
  .exact .inl ⟨hf.e.trans h0,hf.m,hf.oc,by rw[hf.bu];exact a.b0⟩
  .rw[d.e]at h0;cases h0
end Go.Ovl
namespace Go.Ovl
open Go Go.Ab
variable{r:W}{m:Mch}{b:S}{s:ByteArray}{vs:List aF}{bud:Int}{l:List Int}{i c:Nat}{e:aD}{g:Bool}{x:Inp}
def set_set{s:Sto}{half:Int}(hh:half=0\/half=1)(x y:ByteArray):(s.set half x).set half y=s.set half y:=by rcases hh with rfl|rfl<;>rfl
section
variable{b:S}(hw:BW b)
include hw
theorem PM.fit(h:PM b m):m.fit:=by
 have hcc:=Ah hw.code;have h1:=DH hw.small h.jst.img
 have:=h.exl
 refine⟨h.jst.ents.2,by rw[h.con];omega,by rw[h.bel];omega,λx hx=>?_,by rw[h.car];omega,by rw[h.lod];omega,ω,by rw[h.lit];omega⟩;obtain⟨i,hi,rfl⟩:=aZ hx;have h2:=((h.belv i (by rw[<-h.bel];exact hi)).dut).len hw.small;rw[k_,i_ hi]at h2;have h2:m.U0[i].V0.length<=30:=h2;omega
theorem PM.isM_eq(h:PM b m):Fx b.C0 b.E0 b.I0 b.M0 b.J0 b.L0 b.N0 b.B0 m.F0.G0 m.F0.O0 m.F0.K0 m.F0.A0 m.Z0.h0 m.Z0.h1 m.Z0.sel m.K1 m.U0 m.B0 m.N3 m.Y1 m.G3 m.H4 m.T3 m.A3=V ((A,()),()):=by
 have hf:=h.fit hw;have hcc:=Ah hw.code;have he:=DH hw.small h.jst.img;have hl:=h.exl;have c5:=Abr hw.small hw.code h.con λx hx=>(h.conv x hx).1;have c6:=Ahj hw.small hw.code h.bel (λi hi=>(Aiz hw.small).2 (h.belv i (by rw[<-h.bel];exact hi))) hf.du;have c7:=Ahl hw.small hw.code h.car h.carv;have c8:=Ahk (n:=(b.B0.length:Int)) hf.lo (by rw[h.lod]) h.lodv;have hS:aA (Fx b.C0 b.E0 b.I0 b.M0 b.J0 b.L0 b.N0 b.B0 m.F0.G0 m.F0.O0 m.F0.K0 m.F0.A0 m.Z0.h0 m.Z0.h1 m.Z0.sel m.K1 m.U0 m.B0 m.N3 m.Y1 m.G3 m.H4 m.T3 m.A3) λy=>y=((A,()),()):=by
  unfold Fx;refine J (VQ hw.small m.F0 ω hf.im) (aC (by rw[Asj h.jst.img h.jst.fits];rfl) (J (HC ..) (aC (by show(!decide (m.Z0.ok b.I0))=B;rw[b_ h.jst.ok];rfl) (aC (by rw[hl,O_]) (J (SS ω h.exv) (aC rfl (J (SS (xs:=[m.H4,m.T3,m.A3]) (by show 3<=100000;omega) λx hx=>?_) (aC rfl (J c5 (J c6 (J c7 (J c8 ?_))))))))))))
  .simp only[s_,List.not_mem_nil,or_false]at hx;rcases hx with rfl|rfl|rfl
   .exact h.tick
   .exact h.flt
   .exact h.ref
  .refine C ?_;show((((m.G3.length:Int)==(b.B0.length:Int)),()),())=_;rw[h.lit,m_]
 obtain⟨y,h1,h2⟩:=hS;rw[h1,h2]
theorem UT:PM b (HL b).1/\(HL b).1.F0=Gu b/\(HL b).2=0:=by
 have hcode:=hw.code;have j0:=Jst.first hcode;have hcc:=Ah hcode;have hfit:=j0.fits;have hroom:=hw.room;have hs:HL b=((Qv b Sto.no 1048576).1,(Qv b Sto.no 1048576).2.2):=by unfold HL;rw[hcode];rfl
 rw[hs];rcases Bjv hw.small j0.ok j0.img (j0.replay hw.small) ω (bud:=1048576) ω with⟨_,q2,q3⟩|⟨q1,_⟩
 .rw[q2];have rep:∀{α:Type}{P:α->Prop}{a:α}{n:Nat},P a->∀x∈aM n a,P x:=λh x hx=>by rw[(List.mem_replicate.1 hx).2];exact h
  have he:(Gu b).A0=[]:=rfl;refine⟨⟨q3,S_,rep ⟨Bgf (Ane hcode),d9_ 0,show(0:Int)<4294967296 by decide⟩,S_,λi hi=>?_,S_,rep (Oo hw.small),S_,rep (show(0:Int)<=0/\(0:Int)<=4 by decide),S_,c8_ _,?_,i00,i00,i00⟩,rfl,rfl⟩
  .show BelOK b i ((aM b.B0.length WN).getD i Hw);rw[k_,List.getElem?_replicate,if_pos hi];exact BelOK.new hw
  .intro x hx;rw[show(Afg b (Gu b) { Sto.no.set (1-Sto.no.sel) (txt ((Fd (Gu b)).flatMap CT))with sel:=1-Sto.no.sel }).Y1=[]from rfl]at hx;cases hx
 .omega
omit hw in
theorem Buj(hm:m.fit):OX m.F0.G0 m.F0.O0 m.F0.K0 m.F0.A0 m.Z0.h0 m.Z0.h1 m.Z0.sel m.K1 m.U0 m.B0 m.N3 m.Y1 m.G3 m.H4 m.T3 m.A3=V (((),()),(m.tup,())):=by
 have hl:aA (JW (((),(),(m.U0.length:Int),(0:Int),()),(m.tup,Mch.none.tup,()))) λy=>y=(((),(),()),(m.tup,Mch.none.tup,())):=by have hbe:=hm.be;unfold JW;refine aL (λ(k:Nat) z=>∃(i:Nat),z=(((),(),(m.U0.length:Int),(i:Int),()),(m.tup,Mch.none.tup,()))/\i+k=m.U0.length) (λk z hz=>?_) m.U0.length ⟨0,rfl,o_ _⟩ ω;obtain⟨i,rfl,hk⟩:=hz;show aA (Qp (m.U0.length:Int) (i:Int) m.F0.G0 m.F0.O0 m.F0.K0 m.F0.A0 m.Z0.h0 m.Z0.h1 m.Z0.sel m.K1 m.U0 m.B0 m.N3 m.Y1 m.G3 m.H4 m.T3 m.A3 [] [] [] [] noB noB 0 [] [] [] [] [] [] 0 0 0) _;unfold Qp;refine U (λq=>?_) λ_=>C rfl;have q:(i:Int)<(m.U0.length:Int):=l_ q;have hi:i<m.U0.length:=ω;have w:=Dq (n:=i) ω;have ib:aE (i:Int) m.U0.length=A:=Ac ω q;have hd:(m.U0.getD i Hw).V0.length<=100000:=hm.du _ (AL _ hi);refine H ib (J (show EW (m.U0.getD (aH (i:Int)) Hw).V0=V (((m.U0.getD i Hw).V0,()),())from CS _ hd) (H ib ?_));refine C ⟨k-1,ω,i+1,?_,ω⟩;have e:m.U0.set i (Belief.mk (m.U0.getD i Hw).D0 (m.U0.getD i Hw).H0 (m.U0.getD i Hw).G1 (m.U0.getD i Hw).V0 (m.U0.getD i Hw).I3 (m.U0.getD i Hw).Z3)=m.U0:=Apl Hw rfl;rw[<-w];exact f8_ (λL=>(((),(),(m.U0.length:Int),aJ.wrap ((i:Int)+1),()),(({ m with U0:=L }:Mch).tup,Mch.none.tup,()))) e
 obtain⟨y,hl,rfl⟩:=hl;have him:=hm.im;unfold OX;refine Ae (CS m.F0.G0 him.p) (Ae (CS m.F0.O0 him.f) (Ae (CS m.F0.K0 him.l) (Ae (CS m.F0.A0 him.e) (Ae (CS m.K1 hm.co) (Ae (CS m.B0 hm.ca) (Ae (CS m.N3 hm.lo) (Ae (CS m.Y1 hm.ex) (Ae (CS m.G3 hm.li) (Ae (CS m.U0 hm.be) (Ae hl rfl))))))))))
def pk0(b:S)(m:Mch)(bud:Int):Pk:=⟨m,bud,0,aM b.B0.length B,aM b.B0.length (aQ 0 0),aM b.B0.length B,⟨0,0,0,0,B,B,0,aM b.B0.length Av⟩⟩
@[reducible] def outP(o:Outputs):=(o.G4,o.X3,o.F3,o.R2,o.G6,o.L0,o.M4,o.B0,())
def noOut:Outputs:=⟨0,0,0,0,B,B,0,[]⟩
omit hw in
theorem Bj0(n i:Nat):CmdR ((aM n Av).getD i Av).G2:=by rw[k_,List.getElem?_replicate];split<;>rfl
def Bib(b:S)(m:Mch)(s:ByteArray)(bud:Int)(e:Int)(m':Mch)(o:Outputs):Prop:=∃(x:Inp) (t':Pk),((DK b s=0/\InOK b x)\/(DK b s≠0/\x=Inp.none))/\ER b.C0 b.E0 b.I0 b.M0 b.J0 b.L0 b.N0 b.B0 s=V (((),DK b s,()),(x.tup,()))/\RunR b x (DK b s==0) (pk0 b m bud) t'/\e=t'.e/\(e=0->m'=t'.m/\o=t'.out)/\(e≠0->m'={ Mch.none with Z0:=t'.m.Z0 }/\o=noOut)
theorem Bw6(hs:Fr b s):RdX b s:=Afe hw.small hw.code hs
theorem Buq(hm:PM b m)(hs:RdX b s)(hb:0<=bud/\bud<9223372036854775808):aA (KQ b.C0 b.E0 b.I0 b.M0 b.J0 b.L0 b.N0 b.B0 m.F0.G0 m.F0.O0 m.F0.K0 m.F0.A0 m.Z0.h0 m.Z0.h1 m.Z0.sel m.K1 m.U0 m.B0 m.N3 m.Y1 m.G3 m.H4 m.T3 m.A3 s bud) λy=>∃e m' o,y=(((),(),e,()),(m'.tup,outP o,()))/\Bib b m s bud e m' o:=by
 have hcc:=Ah hw.code;have hf:=hm.fit hw;obtain⟨x,hrd,hx1,hx2⟩:=hs;have hcap:((decide ((0:Int)<=(b.B0.length:Int))&&decide ((b.B0.length:Int)<=(b.B0.length:Int)))&&decide ((b.B0.length:Int)<=2147483648))=A:=by simp only[e_,q_];omega
 unfold KQ;refine J hrd (H hcap (H hcap (H hcap (H hcap ?_))));refine J (CS m.K1 hf.co) (J (CS m.U0 hf.be) (J (CS m.B0 hf.ca) (J (CS m.N3 hf.lo) ?_)));have hxx:(DK b s==0)=A->InOK b x:=λh=>hx2 (eq_of_beq h);have hr0:PR b (pk0 b m bud):=⟨S_,S_,S_,S_,λi=>Bj0 _ i⟩
 have hrun:=Bw8 hw hxx (t:=pk0 b m bud) hm hr0 ⟨rfl,hb⟩;refine N (Q:=λy=>∃t',y=(((),(),(),()),(Mch.none.tup,outP noOut,t'.tup b x (DK b s==0),()))/\RunR b x (DK b s==0) (pk0 b m bud) t') ?_ λy8 h8=>?_
 .refine N hrun λy6 h6=>?_;obtain⟨t',e|e,h⟩:=h6
  .subst e;exact C ⟨t',rfl,h⟩
  .subst e;exact C ⟨t',rfl,h⟩
 obtain⟨t',rfl,hR⟩:=h8;have hxo:(DK b s=0/\InOK b x)\/(DK b s≠0/\x=Inp.none):=by
  by_cases h:DK b s=0
  .exact .inl ⟨h,hx2 h⟩
  .exact .inr ⟨h,hx1 h⟩
 refine U (λq=>?_) λq=>?_
 .have q:(t'.e !=0)=A:=q;have q:t'.e≠0:=by simpa using q
  exact C ⟨t'.e,{ Mch.none with Z0:=t'.m.Z0 },noOut,rfl,x,t',hxo,hrd,hR,rfl,λh=>absurd h q,λ_=>⟨rfl,rfl⟩⟩
 .have q:(t'.e !=0)=B:=q;have q:t'.e=0:=by simpa using q
  exact C ⟨0,t'.m,t'.out,rfl,x,t',hxo,hrd,hR,q.symm,λ_=>⟨rfl,rfl⟩,λh=>absurd rfl h⟩
end
structure Sit where
 m:Mch
 rl:List Relay
 rg:List Rig
structure Psh where
 press:Int×Int
 kind:Int
 car:Int
 cars:List Int
 times:List Int
 blocks:List Bool
 loads:List Nat
 bad:Bool
@[reducible] def Fc(s:Sit):=(s.m.F0.G0,s.m.F0.O0,s.m.F0.K0,s.m.F0.A0,s.m.Z0.h0,s.m.Z0.h1,s.m.Z0.sel,s.m.K1,s.m.U0,s.m.B0,s.m.N3,s.m.Y1,s.m.G3,s.m.H4,s.m.T3,s.m.A3,s.rl,s.rg,())
@[reducible] def UJ(p:Psh):=(p.press.1,p.press.2,p.kind,p.car,p.cars,p.times,p.blocks,p.loads,p.bad,())
@[reducible] def Sit.ap{α:Type}(s:Sit)(f:List Int->List Bool->List Bool->List aD->ByteArray->ByteArray->Int->List aV->List Belief->List NewCar->List Loaded->List Int->List aN->Int->Int->Int->List Relay->List Rig->α):α:=f s.m.F0.G0 s.m.F0.O0 s.m.F0.K0 s.m.F0.A0 s.m.Z0.h0 s.m.Z0.h1 s.m.Z0.sel s.m.K1 s.m.U0 s.m.B0 s.m.N3 s.m.Y1 s.m.G3 s.m.H4 s.m.T3 s.m.A3 s.rl s.rg
@[reducible] def Bldg.ap{α:Type}(b:S)(f:Int->Int->Int->Int->Nat->Nat->Nat->List Car->α):α:=f b.C0 b.E0 b.I0 b.M0 b.J0 b.L0 b.N0 b.B0
@[reducible] def Psh.ap{α:Type}(p:Psh)(f:Int->Int->Int->Int->List Int->List Int->List Bool->List Nat->Bool->α):α:=f p.press.1 p.press.2 p.kind p.car p.cars p.times p.blocks p.loads p.bad
@[reducible] def Outputs.ap{α:Type}(o:Outputs)(f:Int->Int->Int->Int->Bool->Bool->Int->List aG->α):α:=f o.G4 o.X3 o.F3 o.R2 o.G6 o.L0 o.M4 o.B0
structure SitOK(b:Bldg)(s:Sit):Prop where
 pm:PM b s.m
 rll:s.rl.length=b.B0.length
 rl:∀r∈s.rl,RelOK b r
 rgl:s.rg.length=b.B0.length
 rg:∀r∈s.rg,RigOK b.C0 r
structure PshOK(b:Bldg)(p:Psh):Prop where
 press:JE b p.press=true
 pu:EN p.press
 kind:0<=p.kind/\p.kind<=8
 car:0<=p.car/\p.car<(b.B0.length:Int)
 none:p.kind=0->p.car=0
 cl:p.cars.length=b.B0.length
 cv:∀c∈p.cars,C2 b.C0 c
 tl:p.times.length=b.B0.length
 bl:p.blocks.length=b.B0.length
 ll:p.loads.length=b.B0.length
section
variable{b:S}(hw:BW b)
include hw
omit hw in
theorem Afk{α β:Type}{l:List α}(d:α)(f:β->α->Option ((Bool×Unit)×(β×Unit))){c:β}(hl:l.length<=1000)(h:∀x∈l,f c x=V ((B,()),(c,()))){step:(List α×Unit×Int×Int×Unit)×(β×Unit)->Option (Sum ((List α×Unit×Int×Int×Unit)×(β×Unit)) ((Unit×(β×Unit))⊕((Int×Unit)×(β×Unit))))}(hs:∀x,step x=bif decide (x.1.2.2.2.1<x.1.2.2.1)then(bif aE x.1.2.2.2.1 x.1.1.length then Option.bind (f x.2.1 (x.1.1.getD x.1.2.2.2.1.toNat d)) λy=>bif y.1.1 then V (.inr (.inr ((x.1.2.2.2.1,()),(y.2.1,()))))else V (.inl ((x.1.1,(),x.1.2.2.1,aJ.wrap (x.1.2.2.2.1+1),()),(y.2.1,())))else none)else V (.inr (.inl ((),(x.2.1,()))))):Cj step Eh ((l,(),(l.length:Int),(0:Int),()),(c,()))=V (.inl ((),(c,()))):=by refine Sat.eq (aL (λ(k:Nat) z=>∃i:Nat,z=((l,(),(l.length:Int),(i:Int),()),(c,()))/\i+k=l.length) (λk z hz=>?_) l.length ⟨0,rfl,o_ _⟩ ω);obtain⟨i,rfl,hk⟩:=hz;rw[hs];dsimp only;refine U (λq=>?_) λ_=>C rfl;have q:(i:Int)<(l.length:Int):=l_ q;have wr:=Dq (n:=i) ω;exact H (Ac ω q) (J (h _ (AL d (ω:i<l.length))) (aC rfl (C ⟨k-1,ω,i+1,by rw[<-wr],ω⟩)))
theorem Bk4{l:List Relay}(hl:l.length=b.B0.length)(h:∀r∈l,RelOK b r):Bm l b.C0 b.E0 b.I0 b.M0 b.J0 b.L0 b.N0 b.B0=V ((B,()),(b.tup,())):=Ae (Ae (Afk KF (λc r=>Jq r.V3 r.D0 r.H0 r.D3 r.G1 r.F4 r.N2 r.B2 r.R0 c.1 c.2.1 c.2.2.1 c.2.2.2.1 c.2.2.2.2.1 c.2.2.2.2.2.1 c.2.2.2.2.2.2.1 c.2.2.2.2.2.2.2.1) (c:=b.tup) (by have:=Ah hw.code;omega) (λ_ hr=>Ae (UM hw.small hw.code (h _ hr)) rfl) λ_=>rfl) rfl) rfl
theorem Bk6{l:List Rig}(hl:l.length=b.B0.length)(h:∀r∈l,RigOK b.C0 r):Bx l b.C0 b.E0 b.I0 b.M0 b.J0 b.L0 b.N0 b.B0=V ((B,()),(b.tup,())):=Ae (Ae (Afk Kj (λc r=>Jr r.D0 r.X2 r.I4 r.G1 r.O4 r.E4 c.1 c.2.1 c.2.2.1 c.2.2.2.1 c.2.2.2.2.1 c.2.2.2.2.2.1 c.2.2.2.2.2.2.1 c.2.2.2.2.2.2.2.1) (c:=b.tup) (by have:=Ah hw.code;omega) (λ_ hr=>Ae (WR ⟨hw.small.lo,hw.small.hi⟩ (h _ hr)) rfl) λ_=>rfl) rfl) rfl
theorem Bke(hl:l.length=b.B0.length)(h:∀c∈l,C2 b.C0 c):BM l b.C0 b.E0 b.I0 b.M0 b.J0 b.L0 b.N0 b.B0=V ((B,()),(b.tup,())):=Ae (Ae (Afk 0 (λc r=>Gk r c.1 c.2.1 c.2.2.1 c.2.2.2.1 c.2.2.2.2.1 c.2.2.2.2.2.1 c.2.2.2.2.2.2.1 c.2.2.2.2.2.2.2.1) (c:=b.tup) (by have:=Ah hw.code;omega) (λx hr=>by have lo:=hw.small.lo;have hi:=hw.small.hi;show Gk x b.C0 b.E0 b.I0 b.M0 b.J0 b.L0 b.N0 b.B0=_;unfold Gk;rw[show aO (aH b.C0) (IntKind.bits aR)=aH b.C0 by show min (aH b.C0) 32=_;omega,b_ (ω:(0:Int)<=b.C0),bne,RV.2 (h _ hr)];rfl) λ_=>rfl) rfl) rfl
theorem Bkz(hl:l.length=b.B0.length)(h:∀f∈l,0<=f/\f<b.C0):Cy l b.C0 b.E0 b.I0 b.M0 b.J0 b.L0 b.N0 b.B0=V ((B,()),(b.tup,())):=
 Ae (Ae (Afk 0 (λc r=>GT r c.1 c.2.1 c.2.2.1 c.2.2.2.1 c.2.2.2.2.1 c.2.2.2.2.2.1 c.2.2.2.2.2.2.1 c.2.2.2.2.2.2.2.1) (c:=b.tup) (by have:=Ah hw.code;omega) (λx hr=>by
  have:=h _ hr
  show GT x b.C0 b.E0 b.I0 b.M0 b.J0 b.L0 b.N0 b.B0=_;unfold GT;rw[f_ (ω:¬x<0),f_ (ω:¬b.C0<=x)];rfl) λ_=>rfl) rfl) rfl
theorem Ais{s:Sit}(h:SitOK b s):s.ap (b.ap Pd)=V ((A,()),()):=by
 have l1:=h.rll;have l2:=h.rgl;unfold Pd;have k:s.ap (b.ap Oe)=V ((A,()),()):=by
  unfold Oe;have e1:(b.code !=0)=B:=by rw[hw.code];rfl
  have e2:((s.rl.length:Int) !=(b.B0.length:Int))=B:=by rw[l1];exact O_ _
  have e3:((s.rg.length:Int) !=(b.B0.length:Int))=B:=by rw[l2];exact O_ _
  refine Ae (AC ..) ?_;show(bif(b.code !=0)then _ else _)=_;rw[e1,c_,e2,c_,e3,c_];exact Ae (Ae (Bk4 hw l1 h.rl) (Ae (Bk6 hw l2 h.rg) rfl)) rfl
 exact Ae (Ae (h.pm.isM_eq hw) (Ae k rfl)) rfl
theorem Apo{p:Psh}(h:PshOK b p):p.ap (b.ap RE)=V ((A,()),()):=by
 have hk:=h.kind;have hc:=h.car;refine Sat.eq ?_;unfold RE;have ne:∀{n:Nat},n=b.B0.length->(((n:Nat):Int) !=(b.B0.length:Int))=B:=λe=>by rw[e];exact O_ _
 have hp:(Au p.press (AW b)).1=0/\(Au p.press (AW b)).2=0:=by have h1:=h.press;unfold JE isZ at h1;simpa using h1
 refine aC (ne h.cl) (aC (ne h.tl) (aC (ne h.bl) (aC (ne h.ll) (J (FN hw.small hw.code) (J (DY p.press (AW b)) (aC ?_ ?_))))))
 .show(!((Au p.press (AW b)).1==0&&((Au p.press (AW b)).2==0&&A)))=B;rw[hp.1,hp.2];rfl
 refine N (Q:=λy=>y=(((),(),B,()),(b.tup,UJ p,()))) (aC (f_ ω) (aC (f_ ω) (aC (f_ ω) (aC (f_ ω) (U (λq=>C ?_) λ_=>C rfl))))) λy hy=>?_
 .have e:(p.car !=0)=B:=by rw[h.none (eq_of_beq q)];rfl
  rw[e];rfl
 subst hy;exact aC rfl (J (Bke hw h.cl h.cv) (C rfl))
theorem Abv{r:Relay}(h:RelOK b r):aA (LJ r.V3 r.D0 r.H0 r.D3 r.G1 r.F4 r.N2 r.B2 r.R0) λy=>C2 b.C0 y.2.1.1:=by
 have hf:=h.fl;have lo:=hw.small.lo;have hi:=hw.small.hi;obtain⟨n,hn⟩:=c3_ hf.1;obtain⟨m,hm⟩:=c3_ (ω:0<=b.C0);have hC:C2 b.C0 (aI aR ((1:Int)*((2:Int)^(aO (aH r.D0) (IntKind.bits aR))))):=by
  rw[hn,hm]at hf|-;have h1:n<m:=ω;have h2:m<9:=ω;clear hn hm;have k:∀m:Nat,m<9->∀n:Nat,n<m->0<=aR.wrap ((1:Int)*((2:Int)^(aO (aH (n:Int)) (IntKind.bits aR))))/\(aI aR ((1:Int)*((2:Int)^(aO (aH (n:Int)) (IntKind.bits aR))))).toNat<2^((m:Int)).toNat:=by decide+kernel
  exact k m h2 n h1
 unfold LJ;refine N (Q:=λy=>y.2.1.2.1=r.D0/\C2 b.C0 y.2.2.2.1.1) (U (λ_=>J (VN ..) (C ⟨rfl,C2.zero⟩)) λ_=>C ⟨rfl,C2.zero⟩) λy hy=>?_;refine U (λ_=>?_) λ_=>C hy.2;rw[hy.1];exact H (b_ hf.1) (C hC)
theorem Air{s:Sit}(h:SitOK b s){p:Psh}(hp:PshOK b p):aA (p.ap (s.ap (b.ap Pc))) λy=>∃x:Inp,y=(((),0,()),(x.tup,()))/\InS b x:=by
 have hcc:=Ah hw.code;have l1:=h.rll;have l2:=h.rgl;unfold Pc;refine J (Ais hw h) (aC rfl (J (Apo hw hp) (aC rfl ?_)));refine N (Q:=λy=>∃(xs:List CarInput) (w:Unit×Unit×Unit),y=(w,((0,0,0,0,[],()),(p.press.1,p.press.2,p.kind,p.car,xs,()),()))/\xs.length=b.B0.length/\∀c∈xs,InC b c) ?_ λy hy=>?_
 .unfold Nc;refine aL (λ(k:Nat) z=>∃(i:Nat) (xs:List CarInput),z=(((),(),(),(),(b.B0.length:Int),(i:Int),()),(Fc s,UJ p,(0,0,0,0,[],()),(p.press.1,p.press.2,p.kind,p.car,xs,()),()))/\i+k=b.B0.length/\xs.length=i/\∀c∈xs,InC b c) (λk z hz=>?_) b.B0.length ⟨0,[],rfl,o_ _,rfl,λc hc=>by cases hc⟩ ω;obtain⟨i,xs,rfl,hk,hx,hv⟩:=hz;show aA (p.ap (s.ap (Qq (b.B0.length:Int) (i:Int))) 0 0 0 0 [] p.press.1 p.press.2 p.kind p.car xs) _;unfold Qq;refine U (λq=>?_) λq=>C ⟨xs,_,rfl,?_,hv⟩
  .have q:(i:Int)<(b.B0.length:Int):=l_ q;have wr:=Dq (n:=i) ω;have ii:∀{n:Nat},n=b.B0.length->aE (i:Int) n=A:=λe=>by rw[e];exact Ac ω q
   have hr:=h.rl _ (AL KF (ω:i<s.rl.length));have hg:=h.rg _ (AL Kj (ω:i<s.rg.length));have hc:=hp.cv _ (AL (0:Int) (show i<p.cars.length by have:=hp.cl;omega));refine H (ii l1) (N (Abv hw hr) λy1 h1=>H (ii l2) (H (ii hp.bl) (J rfl (H (ii hp.cl) (H (ii hp.ll) (H (AR (by show xs.length+1<=_;omega)) (C ⟨k-1,ω,i+1,_,by first|(rw[<-wr];rfl)|rw[<-wr],ω,by rw[g_];show xs.length+1=_;omega,λc hm=>?_⟩)))))));rcases n_.1 hm with hm|hm
   .exact hv c hm
   .rw[B_.1 hm];refine⟨h1,hc,hg.f,?_⟩;rcases hg.dr with⟨e,_⟩|⟨e|e,_⟩
    .exact show 0<=(s.rg.getD i Kj).G1/\(s.rg.getD i Kj).G1<=2 by omega
    .exact show 0<=(s.rg.getD i Kj).G1/\(s.rg.getD i Kj).G1<=2 by omega
    .exact show 0<=(s.rg.getD i Kj).G1/\(s.rg.getD i Kj).G1<=2 by omega
  .have q:=C_ q;omega
 .obtain⟨xs,w,rfl,hx,hv⟩:=hy;exact C ⟨⟨p.press,p.kind,p.car,xs⟩,rfl,hp.press,hp.pu,hp.kind,hp.car,hp.none,hx,hv⟩
end
section
variable{b:S}(hw:BW b)
include hw
theorem Ble(hm:PM b m)(hs:RdX b s):∃m' o,KQ b.C0 b.E0 b.I0 b.M0 b.J0 b.L0 b.N0 b.B0 m.F0.G0 m.F0.O0 m.F0.K0 m.F0.A0 m.Z0.h0 m.Z0.h1 m.Z0.sel m.K1 m.U0 m.B0 m.N3 m.Y1 m.G3 m.H4 m.T3 m.A3 s 1048576=V (((),(),0,()),(m'.tup,outP o,()))/\PM b m'/\o.B0.length=b.B0.length/\Bib b m s 1048576 0 m' o:=by
 obtain⟨y,h,e,m',o,rfl,hR⟩:=Buq hw hm hs (bud:=1048576) τ;have hR':=hR;obtain⟨x,t',_,_,hr,he,h0,h1⟩:=hR;rcases hr.cases hw ⟨rfl,show(0:Int)<=1048576 by decide,show(1048576:Int)<9223372036854775808 by decide⟩with⟨k1,k2,k3,_⟩|⟨_,k2⟩
 .rw[k1]at he;subst he;obtain⟨rfl,rfl⟩:=h0 rfl;exact⟨_,_,h,k2,k3,hR'⟩
 .exact absurd (show(1048576:Int)<300000 from k2) τ
end
def Avt{b:S}:∀{l:List W}(n:aB),(∀r∈l,Tp b r)->(Aj n l).G0=n.G0/\(Aj n l).K0=n.K0
 |[],_,_=>⟨rfl,rfl⟩
 |r::l,n,h=>by obtain⟨e1,e2⟩:=Avt (l:=l) (Ak n r) λr hr=>h r (r_ _ hr);obtain⟨i,_,rfl⟩:=h r (p_ ..);exact⟨e1,e2⟩
structure TickF(b:Bldg)(m:Mch)(x:Inp)(g:Bool)(m':Mch)(o:Outputs)(l1 l2:List Record)(u:Mch)(vs:List View)(X:Rnd):Prop where
 fl:∀r∈l1,Tp b r
 op:(g=false/\l2=[])\/(g=true/\∃(i:Nat) (cm:List Bool) (fr:Bool),x.car=(i:Int)/\i<b.B0.length/\cm.length=b.B0.length/\l2=Jh b (Aj m.F0 l1) x.kind i cm fr)
 pu:PM b u
 iu:u.F0=Aj (Aj m.F0 l1) l2
 va:VA b u.F0 g vs
 hX:X=Fg b u.F0 u.Y1 vs u.G3 x.press g
 rg:Rg b u.F0 X
 img:m'.F0=X.img
 pm:PM b m'
 oc:o.B0.length=b.B0.length
 cars:∀i,i<b.B0.length->∃c d,Aou X i c d/\FinO b m'.F0 i d (o.B0.getD i Av)
 lu:o.G4=(ofC m'.F0.A0 (0,0)).1
 ld:o.X3=(ofC m'.F0.A0 (0,0)).2
 bad:o.G6=!g
 served:(o.F3,o.R2)=GR X.recs (0,0)
 full:o.L0=!isZ X.ref
 st:0<=o.M4/\o.M4<=65535
 free:g=true->∃(i:Nat) (cm:List Bool) (fr:Bool),i<b.B0.length/\l2=Jh b (Aj m.F0 l1) x.kind i cm fr/\Du (Aj m.F0 l1).G0 (Aj m.F0 l1).O0 (Aj m.F0 l1).K0 (Aj m.F0 l1).A0=some ((fr,()),())/\x.car=(i:Int)/\cm.length=b.B0.length/\∀j,j<b.B0.length->cm.getD j false=true->(Eu (phA m.F0 j)=true/\(m'.K1.getD j Ge).U1=true)\/(Aa0 (phA m.F0 j)=true/\(x.cars.getD j UF).Q2=true/\(x.cars.getD j UF).E2=2)
def Bui(m:aB)(kind:Int)(i:Nat)(calm fr:Bool):0<=(Kt m kind i calm fr).2/\(Kt m kind i calm fr).2<=65535:=by
 have ite:∀(c:Bool) {x y:List W×Int},(0<=x.2/\x.2<=65535)->(0<=y.2/\y.2<=65535)->0<=(bif c then x else y).2/\(bif c then x else y).2<=65535:=λc _ _ h1 h2=>by
  cases c
  .exact h2
  .exact h1
 have k:∀(l:List W) {n:Int},0<=n/\n<=65535->0<=((l,n):List W×Int).2/\((l,n):List W×Int).2<=65535:=λ_ _ h=>h;unfold Kt NF;exact ite _ (k _ τ) (ite _ (ite _ (k _ τ) (k _ τ)) (ite _ (k _ τ) (ite _ (k _ τ) (ite _ (k _ τ) (ite _ (k _ τ) (ite _ (ite _ (k _ τ) (k _ τ)) (ite _ (ite _ (k _ τ) (k _ τ)) (ite _ (ite _ (k _ τ) (k _ τ)) (ite _ (k _ τ) (k _ τ))))))))))
def TickF.of(hw:BW b){t1 t2 t3 t4 t':Pk}{l1 l2:List W}(hxl:g=A->x.cars.length=b.B0.length)(f1:FixR (pk0 b m bud) t1)(hl1:∀r∈l1,Tp b r)(o2:t2.out={ t1.out with B0:=t2.out.B0 }/\(g=A->∀j,j<b.B0.length->Eu (Z t1.m.F0 j)=A->DC t2 j))(a2:Al b t1 t2 l1)(hop:(g=B/\t3=t2/\l2=[])\/(g=A/\Opr b x g t2 t3 l2))(a3:Al b t2 t3 l2)(hd:Dsp b x g t3 t4 vs)(a4:Al b t3 t4 (QO b x g t3 vs).recs)(hf:Fin b g t4 t'):TickF b m x g t'.m t'.out l1 l2 t3.m vs (QO b x g t3 vs):=by
 have i1:t1.m.F0=m.F0:=f1.im;have i2:t2.m.F0=Aj m.F0 l1:=by rw[a2.im,i1]
 have out1:t2.out={ (pk0 b m bud).out with B0:=t2.out.B0 }:=by rw[o2.1,f1.out]
 have out3:∃s,t3.out={ t2.out with M4:=s }/\0<=s/\s<=65535:=by
  rcases hop with⟨_,rfl,_⟩|⟨_,h⟩
  .refine⟨t3.out.M4,rfl,?_⟩;rw[out1];exact show(0:Int)<=0/\(0:Int)<=65535 by decide
  .obtain⟨_,_,_,_,_,_,_,e,_⟩:=h.how;exact⟨_,e,Bui ..⟩
 obtain⟨s,out3,hst⟩:=out3;refine⟨hl1,?_,a3.m,by rw[a3.im,i2],hd.va,rfl,hd.rg,by rw[hf.im,a4.im,hd.rg.img],hf.m,hf.oc,λi hi=>?_,?_,?_,?_,?_,?_,?_,λhg=>?_⟩
 .rcases hop with⟨h1,_,h2⟩|⟨h1,h⟩
  .exact .inl ⟨h1,h2⟩
  .obtain⟨i,cm,fr,h2,h3,h4,h5,_⟩:=h.how;exact .inr ⟨h1,i,cm,fr,h2,h3,h4,by rw[<-i2];exact h5⟩
 .refine⟨_,_,hd.cars i hi,?_⟩;rw[hf.im];exact hf.cars i hi
 .rw[hf.out,hf.im]
 .rw[hf.out,hf.im]
 .rw[hf.out]
 .rw[hf.out];show(t4.out.F3,t4.out.R2)=_;rw[hd.out,out3,out1];rfl
 .rw[hf.out];show t4.out.L0=_;rw[hd.out]
 .rw[hf.out];show 0<=t4.out.M4/\t4.out.M4<=65535;rw[hd.out,out3];exact hst
 .rcases hop with⟨h1,_⟩|⟨_,h⟩
  .rw[hg]at h1;cases h1
  .obtain⟨i,cm,fr,h2,h3,h4,h5,_,h7,h8⟩:=h.how;rw[i2]at h5 h8;refine⟨i,cm,fr,h3,h5,h8,h2,h4,λj hj hc=>?_⟩;obtain⟨_,e,cm',rfl,_,hp⟩:=Ba2 hw (x:=x) (g:=g) a2.m (hxl hg);rw[h7]at e;have e:cm=cm':=(Prod.mk.inj (Prod.mk.inj (F_ e)).1).1;have hph:Z t2.m.F0 j=Z m.F0 j:=by rw[i2];unfold Z;rw[(Avt m.F0 hl1).1]
   have hq:=hp j hj (by rw[<-e];exact hc);unfold Vp at hq;rw[hph]at hq;rcases hq with⟨q1,q2⟩|q
   .refine .inl ⟨q1,?_⟩
    have:=o2.2 hg j hj (by rw[i1];exact q1) q2
    rw[hf.con,a4.con,a3.con];exact this
   .exact .inr q
def RunR.fact(hw:BW b)(hxl:g=A->x.cars.length=b.B0.length){t':Pk}(h:RunR b x g (pk0 b m bud) t')(h0:t'.e=0):∃l1 l2 u vs X,TickF b m x g t'.m t'.out l1 l2 u vs X:=by
 have no:∀{u v:Pk}{l:List W},De b u v l->v.e=0->False:=λd e=>by have:=d.e;omega
 obtain⟨t1,t2,l1,m1,r1,f1,hl1,hn1,o2,⟨d,rfl⟩|⟨a2,t3,l2,hop,h⟩⟩:=h
 .exact(no d h0).elim
 rcases h with⟨d,rfl⟩|⟨a3,t4,vs,hd,h⟩
 .exact(no d h0).elim
 rcases h with⟨h8,rfl⟩|⟨_,hf⟩
 .omega
 rcases hd.res with a4|d
 .exact⟨l1,l2,t3.m,vs,_,.of hw hxl f1 hl1 o2 a2 hop a3 hd a4 hf⟩
 .have:=hf.e
  exact(no d ω).elim
def Bd9(m:aB)(h:r.Q0≠4/\r.Q0≠5/\r.Q0≠6):(Ak m r).G0=m.G0/\(Ak m r).O0=m.O0/\(Ak m r).K0=m.K0:=by unfold Ak;rw[Ao h.1,Ao h.2.1,Ao h.2.2];simp only[c_];cases Et r.D0 r.H0 m.A0 0==-1<;>cases r.Q0==1<;>cases r.Q0==2<;>cases r.Q0==3<;>cases r.Q0==7<;>exact⟨rfl,rfl,rfl⟩
def YW:∀{l:List W}(m:aB),(∀r∈l,r.Q0≠4/\r.Q0≠5/\r.Q0≠6)->(Aj m l).G0=m.G0/\(Aj m l).O0=m.O0/\(Aj m l).K0=m.K0
 |[],_,_=>⟨rfl,rfl,rfl⟩
 |r::t,m,h=>by obtain⟨h1,h2,h3⟩:=Bd9 m (h r (p_ ..));obtain⟨k1,k2,k3⟩:=YW (Ak m r) λx hx=>h x (r_ _ hx);exact⟨k1.trans h1,k2.trans h2,k3.trans h3⟩
def Afp{α:Type}(get:aB->α)(p:W->Prop)(v:W->α)(I:aB->Prop):∀{l:List W}{m:aB},(∀r∈l,∀n,I n->I (Ak n r)/\((p r/\get (Ak n r)=v r)\/(¬p r/\get (Ak n r)=get n)))->I m->(get (Aj m l)=get m/\∀r∈l,¬p r)\/∃r∈l,p r/\get (Aj m l)=v r
 |[],_,_,_=>.inl ⟨rfl,λr h=>by cases h⟩
 |r::l,m,h,hm=>by
  obtain⟨h1,h2⟩:=h r (p_ ..) m hm;rcases Afp get p v I (l:=l) (λs hs=>h s (r_ _ hs)) h1 with⟨e,n⟩|⟨s,hs,e⟩
  .rcases h2 with⟨q,e2⟩|⟨q,e2⟩
   .exact .inr ⟨r,p_ ..,q,e.trans e2⟩
   .refine .inl ⟨e.trans e2,λs hs=>?_⟩;rcases s_.1 hs with rfl|hs
    .exact q
    .exact n s hs
  .exact .inr ⟨s,r_ _ hs,e⟩
def Img.fits(b:S)(m:aB):Prop:=m.G0.length=b.B0.length/\m.O0.length=b.B0.length
def ImgOK.fits{m:aB}(h:ImgOK b m):m.fits b:=⟨h.lp,h.lf⟩
def Bej(hr:Kf b r){n:aB}(hn:n.fits b)(hc:c<b.B0.length):(Ak n r).fits b/\Z (Ak n r) c=(bif r.Q0==4&&r.R0==(c:Int)then r.X1 else Z n c)/\flA (Ak n r) c=(bif r.Q0==5&&r.R0==(c:Int)then r.X1==1 else flA n c):=by
 obtain⟨i,k,v,hi,rfl,h⟩:=hr;have hk:k=4\/k=5\/k=6:=ω;rcases hk with rfl|rfl|rfl
 .refine⟨⟨by show(n.G0.set i v).length=_;rw[z_];exact hn.1,hn.2⟩,?_,rfl⟩;show(n.G0.set i v).getD c 0=bif(i:Int)==(c:Int)then v else n.G0.getD c 0;by_cases e:i=c
  .subst e;rw[m_,d_,By _ _ (by rw[hn.1];exact hc)]
  .rw[Ao (ω:¬(i:Int)=(c:Int)),c_,Df _ _ e]
 .refine⟨⟨hn.1,by show(n.O0.set i (v==1)).length=_;rw[z_];exact hn.2⟩,rfl,?_⟩;show(n.O0.set i (v==1)).getD c B=bif(i:Int)==(c:Int)then v==1 else n.O0.getD c B;by_cases e:i=c
  .subst e;rw[m_,d_,By _ _ (by rw[hn.2];exact hc)]
  .rw[Ao (ω:¬(i:Int)=(c:Int)),c_,Df _ _ e]
 .exact⟨hn,rfl,rfl⟩
section
variable{b:S}{l:List W}(hl:∀r∈l,Kf b r){m:aB}(hm:m.fits b){c:Nat}(hc:c<b.B0.length)
include hl hm hc
theorem Adp:(Z (Aj m l) c=Z m c/\∀r∈l,¬(r.Q0=4/\r.R0=(c:Int)))\/∃r∈l,(r.Q0=4/\r.R0=(c:Int))/\Z (Aj m l) c=r.X1:=
 Afp (λn=>Z n c) (λr=>r.Q0=4/\r.R0=(c:Int)) (λr=>r.X1) (λn=>n.fits b) (λr hr n hn=>by
  obtain⟨h1,h2,_⟩:=Bej (hl r hr) hn hc;refine⟨h1,?_⟩;by_cases q:r.Q0=4/\r.R0=(c:Int)
  .exact .inl ⟨q,by show Z (Ak n r) c=_;rw[h2,q.1,q.2,m_,m_];rfl⟩
  .refine .inr ⟨q,?_⟩;show Z (Ak n r) c=_;rw[h2,show(r.Q0==4&&r.R0==(c:Int))=B by rw[Bool.and_eq_false_iff,beq_eq_false_iff_ne,beq_eq_false_iff_ne];omega];rfl) hm
omit hc in
theorem Bfg:(Aj m l).fits b:=by
 induction l generalizing m with
 |nil=>exact hm
 |cons r t ih=>
  refine ih (m:=Ak m r) (λx hx=>hl x (r_ _ hx)) ?_;obtain⟨i,k,v,hi,rfl,h⟩:=hl r (p_ ..);have hk:k=4\/k=5\/k=6:=ω;rcases hk with rfl|rfl|rfl
  .exact⟨by show(m.G0.set i v).length=_;rw[z_];exact hm.1,hm.2⟩
  .exact⟨hm.1,by show(m.O0.set i (v==1)).length=_;rw[z_];exact hm.2⟩
  .exact hm
end
def Bbs(h:Tp b r):Kf b r:=by obtain⟨i,hi,rfl⟩:=h;exact⟨i,5,1,hi,rfl,.inr ⟨.inl rfl,τ⟩⟩
def Adn(m:aB)(kind:Int)(hi:i<b.B0.length)(cm:List Bool)(fr:Bool):∀r∈Jh b m kind i cm fr,Kf b r:=λr hr=>by
 unfold Jh at hr;rcases n_.1 hr with h|h
 .exact(ZQ m kind hi _ fr).1 r h
 .exact Ag3 _ _ _ (y_ _) r h
def Aa3(a z:Int):Prop:=(a=0/\z=1)\/(a=1/\z=0)\/(a=1/\z=2)\/(a=2/\z=0)\/(a=2/\z=3)\/(a=3/\z=2)\/(a=3/\z=4)\/(a=4/\z=2)
def Abc{m:aB}{kind:Int}{calm fr:Bool}(h:r∈(Kt m kind i calm fr).1):r.R0=(i:Int)/\kind≠0/\((r.Q0=4/\Aa3 (Z m i) r.X1/\(r.X1=2->Z m i=3/\calm=A))\/r.Q0=6\/(r.Q0=5/\kind=8)):=by
 unfold Kt NF at h;have ite:∀(c:Bool) {p:Prop}{x y:List W×Int},r∈(bif c then x else y).1->(c=A->r∈x.1->p)->(c=B->r∈y.1->p)->p:=λc p x y h h1 h2=>by
  cases c
  .exact h2 rfl h
  .exact h1 rfl h
 have one:∀{q:W}{e:Int},r∈([q],e).1->r=q:=λh=>B_.1 h;refine ite _ h (λ_ h=>by cases h) λh0 h=>?_;have h0:kind≠0:=by simpa using h0
 have two:∀{c d:Bool},(c&&d)=A->c=A/\d=A:=λ{c d} h=>by simpa using h
 refine ite _ h (λq h=>ite _ h (λ_ h=>?_) λ_ h=>by cases h) λ_ h=>?_
 .obtain⟨_,q2⟩:=two q;rw[one h];exact⟨rfl,h0,.inl ⟨rfl,.inl ⟨eq_of_beq q2,rfl⟩,λh=>absurd h (show ¬(1:Int)=2 by decide)⟩⟩
 refine ite _ h (λq h=>?_) λ_ h=>?_
 .obtain⟨_,q2⟩:=two q;rw[one h];exact⟨rfl,h0,.inl ⟨rfl,.inr (.inl ⟨eq_of_beq q2,rfl⟩),λh=>absurd h (show ¬(0:Int)=2 by decide)⟩⟩
 refine ite _ h (λq h=>?_) λ_ h=>?_
 .obtain⟨_,q2⟩:=two q;rw[one h];exact⟨rfl,h0,.inl ⟨rfl,.inr (.inr (.inr (.inl ⟨eq_of_beq q2,rfl⟩))),λh=>absurd h (show ¬(0:Int)=2 by decide)⟩⟩
 refine ite _ h (λq h=>?_) λ_ h=>?_
 .rw[one h];exact⟨rfl,h0,.inr (.inl rfl)⟩
 refine ite _ h (λq h=>?_) λ_ h=>?_
 .obtain⟨_,q2⟩:=two q;rw[one h];exact⟨rfl,h0,.inl ⟨rfl,.inr (.inr (.inr (.inr (.inl ⟨eq_of_beq q2,rfl⟩)))),λh=>absurd h (show ¬(3:Int)=2 by decide)⟩⟩
 refine ite _ h (λq h=>ite _ h (λhc h=>?_) λ_ h=>by cases h) λ_ h=>?_
 .obtain⟨_,q2⟩:=two q;rw[one h];exact⟨rfl,h0,.inl ⟨rfl,.inr (.inr (.inr (.inr (.inr (.inl ⟨eq_of_beq q2,rfl⟩))))),λ_=>⟨eq_of_beq q2,hc⟩⟩⟩
 refine ite _ h (λq h=>ite _ h (λ_ h=>?_) λ_ h=>by cases h) λ_ h=>?_
 .obtain⟨_,q2⟩:=two q;rw[one h];exact⟨rfl,h0,.inl ⟨rfl,.inr (.inr (.inr (.inr (.inr (.inr (.inl ⟨eq_of_beq q2,rfl⟩)))))),λh=>absurd h (show ¬(4:Int)=2 by decide)⟩⟩
 refine ite _ h (λq h=>ite _ h (λ_ h=>?_) λ_ h=>by cases h) λ_ h=>?_
 .rw[one h];exact⟨rfl,h0,.inr (.inl rfl)⟩
 refine ite _ h (λq h=>?_) λ_ h=>by cases h
 obtain⟨q1,_⟩:=two q;rw[one h];exact⟨rfl,h0,.inr (.inr ⟨rfl,eq_of_beq q1⟩)⟩
def Aco{m:aB}{calm:List Bool}:∀{n:Nat}{r:W},r∈Es m calm n->∃i:Nat,i<n/\r.R0=(i:Int)/\Ps m calm i=A/\((r.Q0=4/\r.X1=2)\/r.Q0=6\/(r.Q0=5/\r.X1=0))/\⟨4,0,0,(i:Int),2⟩∈Es m calm n
 |0,_,h=>by cases h
 |n+1,r,h=>by
  rcases n_.1 h with h|h
  .obtain⟨i,h1,h2,h3,h4,h5⟩:=Aco h;exact⟨i,ω,h2,h3,h4,bA _ h5⟩
  .unfold Pj at h;cases hg:Ps m calm n with
   |false=>rw[hg]at h;cases h
   |true=>
    have hi:(⟨4,0,0,(n:Int),2⟩:W)∈Es m calm (n+1):=List.mem_append_right _ (by unfold Pj;rw[hg,d_];exact bA _ (bA _ (B_.2 rfl)));rw[hg,d_]at h;refine⟨n,ω,?_⟩;rcases n_.1 h with h|h
    .rcases n_.1 h with h|h
     .rw[B_.1 h];exact⟨rfl,hg,.inl ⟨rfl,rfl⟩,hi⟩
     .cases hl:IA m n with
      |false=>rw[hl]at h;cases h
      |true=>rw[hl]at h;rw[B_.1 h];exact⟨rfl,hg,.inr (.inl rfl),hi⟩
    .cases hl:flA m n with
     |false=>rw[hl]at h;cases h
     |true=>rw[hl]at h;rw[B_.1 h];exact⟨rfl,hg,.inr (.inr ⟨rfl,rfl⟩),hi⟩
def Bkk{m:aB}{calm:List Bool}(h:Ps m calm i=A):calm.getD i B=A/\(Z m i=1\/Z m i=4)/\Pm m i=B:=by unfold Ps IA at h;simp only[e_,Q_,R_,a2_]at h;exact⟨h.1,ω,h.2.2⟩
section
variable{b:S}{m:aB}(hm:m.fits b){kind:Int}{i:Nat}(hi:i<b.B0.length){cm:List Bool}(hcm:cm.length=b.B0.length){fr:Bool}{c:Nat}(hc:c<b.B0.length)
include hm hi hcm hc
theorem Bgk(hr:r∈Jh b m kind i cm fr)(hrc:r.R0=(c:Int)):(r∈(Kt m kind i (cm.getD i B) fr).1/\c=i/\kind≠0)\/(cm.getD c B=A/\(kind≠0->c≠i)/\(Z m c=1\/Z m c=4)/\Pm m c=B/\((r.Q0=4/\r.X1=2)\/r.Q0=6\/(r.Q0=5/\r.X1=0))/\(⟨4,0,0,(c:Int),2⟩:W)∈Jh b m kind i cm fr):=by
 have ok1:=(ZQ (b:=b) m kind hi (cm.getD i B) fr).1;have hent:(Aj m (Kt m kind i (cm.getD i B) fr).1).A0=m.A0:=OK _ λr hr=>by obtain⟨j,k,v,_,rfl,h⟩:=ok1 r hr;show k=4\/k=5\/k=6;omega
 unfold Jh at hr|-;rcases n_.1 hr with h|h
 .have h1:=Abc h;exact .inl ⟨h,ω,h1.2.1⟩
 .obtain⟨j,hj,h2,hg,h3,h4⟩:=Aco h;obtain rfl:j=c:=ω;obtain⟨g1,g2,g3⟩:=Bkk hg;have hne:kind≠0->j≠i:=λhk e=>by
   subst e;rw[LZ hk,d_,By _ _ ω]at g1;cases g1
  have hcmj:cm.getD j B=A:=by
   by_cases hk:kind=0
   .subst hk;exact g1
   .rw[LZ hk,d_,Df _ _ (f4_ (hne hk))]at g1;exact g1
  refine .inr ⟨hcmj,hne,?_,?_,h3,List.mem_append_right _ h4⟩
  .rcases Adp ok1 hm hj with⟨e,_⟩|⟨r',hr',⟨_,hc'⟩,_⟩
   .rw[e]at g2;exact g2
   .have h5:=Abc hr';exact absurd (ω:j=i) (hne h5.2.1)
  .unfold Pm at g3|-;rw[hent]at g3;exact g3
theorem Bcq:Z (Aj m (Jh b m kind i cm fr)) c=Z m c\/Aa3 (Z m c) (Z (Aj m (Jh b m kind i cm fr)) c):=by
 rcases Adp (Adn m kind hi cm fr) hm hc with⟨e,_⟩|⟨r,hr,⟨hk,hrc⟩,e⟩
 .exact .inl e
 .rw[e];right;rcases Bgk hm hi hcm hc hr hrc with⟨h,rfl,_⟩|⟨_,_,h,_,h2,_⟩
  .rcases(Abc h).2.2 with⟨_,h,_⟩|h|⟨h,_⟩
   .exact h
   .omega
   .omega
  .unfold Aa3;omega
end
def kdR(r:W):Prop:=r.Q0≠4/\r.Q0≠5/\r.Q0≠6
def As0(b:S):∀(l:List aD) {X:Rnd},(∀r∈X.recs,kdR r)->∀r∈(EL b l X).recs,kdR r
 |[],_,h=>h
 |e::t,X,h=>by
  refine As0 b t (X:=Cz b e X) ?_;unfold Cz;cases KG b X.img with
  |false=>exact h
  |true=>
   intro r hr;rcases n_.1 (show r∈X.recs++[Yg e]from hr)with hr|hr
   .exact h r hr
   .rw[B_.1 hr];exact⟨show(1:Int)≠4 by decide,show(1:Int)≠5 by decide,show(1:Int)≠6 by decide⟩
section
variable{b:S}(hb:b.small)(hcode:b.code=0){m:aB}(hm:ImgOK b m){xs:List Int}(hx:xs.length=m.A0.length)(hxv:inX xs){vs:List aF}(ps:List aN)(press:Int×Int)(good:Bool)
include hcode hm
theorem Bhc:∀r∈(Bu b m xs vs ps press good).recs,kdR r:=by
 unfold Bu;cases good with
 |false=>exact λr h=>by cases h
 |true=>
  have hv:=RR hcode vs (l:=m.A0) λe he=>(CZ.1 (hm.en e he)).1;refine As0 b _ λr hr=>?_;have hr:r∈Dp b vs m.A0:=hr
  have:=(hv r hr).2
  exact⟨ω,ω,ω⟩
variable(hvl:vs.length=b.B0.length)
include hb hx hxv hvl
theorem Bhb:∀r∈(Fg b m xs vs ps press good).recs,kdR r:=λr hr=>by
 have hp:=QP hb hcode hm hx hxv (vs:=vs) ps press good hvl;have hr:r∈(Bu b m xs vs ps press good).recs++(TF b m xs vs ps press good).1:=hr;rcases n_.1 hr with h|h
 .exact Bhc hcode hm ps press good r h
 .rw[hp]at h
  have:=QJ b vs _ _ r h
  exact⟨ω,ω,ω⟩
theorem Aw1:(Fg b m xs vs ps press good).img=(Bu b m xs vs ps press good).img.put (PB b vs (Bu b m xs vs ps press good).img.A0 (Bu b m xs vs ps press good).xs):=by have hcc:=Ah hcode;have h:=UY hb hcode hm hx hxv (vs:=vs) ps press good;have hp:=QP hb hcode hm hx hxv (vs:=vs) ps press good hvl;have e2:(Fg b m xs vs ps press good).img=Aj (Bu b m xs vs ps press good).img (TF b m xs vs ps press good).1:=rfl;rw[e2,hp];exact(Tz (b:=b) ω (by omega:(vs.length:Int)=(b.B0.length:Int)) _ _ [] (Bu b m xs vs ps press good).img h.ok.len h.ok.img rfl).1
end
def Ab2{b:S}{vs:List aF}{floor dir except:Int}:∀(m i:Nat) (best:Int),i+m=vs.length->(best=-1\/(0<=best/\best<vs.length/\(Aq vs best).L3=A))->(Vl b vs floor dir except m i best=-1\/(0<=Vl b vs floor dir except m i best/\Vl b vs floor dir except m i best<vs.length/\(Aq vs (Vl b vs floor dir except m i best)).L3=A))
 |0,_,_,_,h=>h
 |m+1,i,best,hi,h=>by
  refine Ab2 m (i+1) _ ω ?_;unfold Ny;cases hr:(!(Aq vs i).L3||(i:Int)==except)with
  |true=>exact h
  |false=>
   have hr:(Aq vs i).L3=A:=by simp only[aY,g2_]at hr;exact hr.1
   have hi':i<vs.length:=ω;rw[c_];cases(best==-1||YY (IC b vs floor dir i) (IC b vs floor dir best))with
   |true=>exact .inr ⟨by show(0:Int)<=(i:Int);omega,by show(i:Int)<_;omega,hr⟩
   |false=>exact h
def Akv(b:S)(vs:List aF)(floor dir except:Int):Ev b vs floor dir except=-1\/(0<=Ev b vs floor dir except/\Ev b vs floor dir except<vs.length/\(Aq vs (Ev b vs floor dir except)).L3=A):=by
 unfold Ev;cases(b.code !=0||(vs.length:Int) !=(b.B0.length:Int))with
 |true=>exact .inl rfl
 |false=>exact Ab2 vs.length 0 (-1) ω (.inl rfl)
def Avx(vs:List aF)(c:Int):Prop:=c<0\/(c<vs.length/\((Aq vs c).L3=A\/(Aq vs c).C4=B))
def Bem(b:S)(h:-2<=e.R0/\e.R0<vs.length)(x:Int):Avx vs (EZ b vs e x).R0:=by
 have ch:∀n,Avx vs (Ev b vs e.D0 e.H0 n):=λn=>by
  rcases Akv b vs e.D0 e.H0 n with h|⟨_,h1,h2⟩
  .exact .inl ω
  .exact .inr ⟨h1,.inl h2⟩
 unfold EZ;cases h1:e.R0==-2 with
 |true=>exact .inl (by have:=eq_of_beq h1;show e.R0<0;omega)
 |false=>
 cases h2:e.R0==-1 with
 |true=>exact ch _
 |false=>
 have own:(Aq vs e.R0).C4=B->Avx vs e.R0:=λh3=>.inr ⟨h.2,.inr h3⟩;cases h3:(Aq vs e.R0).C4 with
 |true=>
  cases decide ((b.B0.length:Int)<e.D1)with
  |true=>exact .inl (by show(-2:Int)<0;decide)
  |false=>exact ch _
 |false=>
  cases !e.D2&&decide (e.D1<=(b.B0.length:Int))with
  |false=>exact own h3
  |true=>
   cases h4:Lo b vs e x != -1 with
   |false=>exact own h3
   |true=>
    show Avx vs (Lo b vs e x);unfold Lo at h4|-;cases h5:Ev b vs e.D0 e.H0 e.R0==-1 with
    |true=>rw[h5]at h4;cases h4
    |false=>
     rw[h5]at h4;rw[c_]at h4|-;cases h6:Aat b vs e x (Ev b vs e.D0 e.H0 e.R0)with
     |true=>exact ch _
     |false=>rw[h6]at h4;cases h4
section
variable{b:S}(hw:BW b){m:Mch}{x:Inp}{g:Bool}{m':Mch}{o:Outputs}{l1 l2:List W}{u:Mch}{vs:List aF}{X:Rnd}(h:TickF b m x g m' o l1 l2 u vs X)
include hw h
theorem TickF.recs_kd:∀r∈X.recs,kdR r:=by rw[h.hX];exact Bhb hw.small hw.code h.pu.jst.img h.pu.exl h.pu.exv _ _ _ h.va.len
theorem TickF.rest:m'.F0.G0=u.F0.G0/\m'.F0.O0=u.F0.O0/\m'.F0.K0=u.F0.K0:=by rw[h.img,<-h.rg.img];exact YW _ (h.recs_kd hw)
theorem TickF.ent(he:e∈m'.F0.A0)(hc:0<=e.R0):∃i:Nat,e.R0=(i:Int)/\i<b.B0.length/\flA m'.F0 i=B/\Gw m'.F0 i=A:=by
 obtain⟨h1,h2,_⟩:=h.rest hw;have hcc:=Ah hw.code;rw[h.img,h.hX,Aw1 hw.small hw.code h.pu.jst.img h.pu.exl h.pu.exv _ _ _ h.va.len]at he;have hrg:=UY hw.small hw.code h.pu.jst.img h.pu.exl h.pu.exv (vs:=vs) u.G3 x.press g;generalize Bu b u.F0 u.Y1 vs u.G3 x.press g=Y at he hrg;have he:e∈PB b vs Y.img.A0 Y.xs:=he;obtain⟨j,hj,rfl⟩:=aZ he;rw[Xs b vs _ _ hrg.ok.len]at hj;have hd:(PB b vs Y.img.A0 Y.xs)[j]'(by rw[Xs b vs _ _ hrg.ok.len];exact hj)=EZ b vs (Y.img.A0.getD j noE) (Y.xs.getD j 0):=by rw[<-Ai6 b vs _ _ j hrg.ok.len hj,k_,i_];rfl
 rw[hd]at hc|-;have hin:=(CZ.1 (hrg.ok.img.en _ (AL noE hj))).2.1;have hmay:=Bem b (vs:=vs) (e:=Y.img.A0.getD j noE) (by rw[h.va.len];omega) (Y.xs.getD j 0);obtain⟨i,hi⟩:=c3_ hc;rw[hi]at hmay;rcases hmay with hmay|⟨h3,h4⟩
 .omega
 have hib:i<b.B0.length:=by have:=h.va.len;omega
 have hv:=h.va.vi i hib;have hva:Aq vs (i:Int)=vs.getD i noV:=rfl;rw[hva]at h4;refine⟨i,hi,hib,?_⟩;have ef:flA m'.F0 i=flA u.F0 i:=by unfold flA;rw[h2]
 have es:Gw m'.F0 i=Gw u.F0 i:=by unfold Gw Z;rw[h1]
 rw[ef,es];rcases h4 with h4|h4
 .rw[hv.ready]at h4;unfold Ss at h4;simp only[e_,Q_,a2_]at h4;refine⟨h4.2.2.1,?_⟩;unfold Gw;rcases h4.2.1 with h5|h5<;>rw[h5]<;>simp
 .rw[hv.lost]at h4;simp only[aY,g2_]at h4;exact h4
theorem TickF.edge(hm:PM b m)(hc:c<b.B0.length):Z m'.F0 c=Z m.F0 c\/Aa3 (Z m.F0 c) (Z m'.F0 c):=by
 obtain⟨h1,_,_⟩:=h.rest hw;have e1:Z m'.F0 c=Z u.F0 c:=by unfold Z;rw[h1]
 have hl1:∀r∈l1,Kf b r:=λr hr=>Bbs (h.fl r hr);have hf1:=Bfg hl1 hm.jst.img.fits;have e2:Z (Aj m.F0 l1) c=Z m.F0 c:=by
  rcases Adp hl1 hm.jst.img.fits hc with⟨e,_⟩|⟨r,hr,⟨hk,_⟩,_⟩
  .exact e
  .obtain⟨i,_,rfl⟩:=h.fl r hr;cases hk
 rw[e1,h.iu,<-e2];rcases h.op with⟨_,rfl⟩|⟨_,i,cm,fr,_,hi,hcm,rfl⟩
 .exact .inl rfl
 .exact Bcq hf1 hi hcm hc
end
end Go.Ovl
