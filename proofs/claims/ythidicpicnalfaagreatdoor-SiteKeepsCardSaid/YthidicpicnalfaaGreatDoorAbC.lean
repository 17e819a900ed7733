import Derived.Test.YthidicpicnalfaaGreatDoorAbB
import Derived.Below
import Derived.Orders
import Derived.LoopN
import Derived.Laws.StructEq
import Derived.ProofKit
import Derived.OpenShut
import Derived.Deep.Slices
import Derived.KernelRfl
import Derived.Defers
set_option linter.all false
open Option renaming some->C,none->N
open Bool renaming true->J,false->U
open Go.Ab renaming get->O,St->V,lo->Z,Out->aA,Blk->aB,PSh->aC,Sig->aD,CSh->aE,Spec->aF,LoopOK->aM,SigOK->aO
open Go.Ab.M renaming ret->aG,bind->aI,bindneed->aJ,bindopt->aK,fail->aP,opt->aQ,need->aR,bind_spec->aT
open Nat renaming beq->aH,ble->aN,one_mul->bA,add_right_comm->bB,lt_trichotomy->bG
open Go.Ab.Cv renaming rds->aL
open Go.Ab.Ty renaming isAgg->aS
open Go.Ab.F2 renaming cons->aU
open Array renaming replicate->aV,getElem?_replicate->bC
open Go.Ab.CSh renaming give->aW
open List renaming map_cons->aX,cons_append->aZ,countP_cons_of_pos->bD,getElem?_zipWith->bE
open Go.Ab.Pv renaming cells->aY
namespace Go.Ab
variable{G:aD}
def Sv.cells{T:Nat->Type}:Sv T->List (Cv T)
 |.p x=>x.cells
 |.tup xs=>xs.flatMap aY
def Zs{T:Nat->Type}:List (Cv T)->List Nat->List Nat
 |[],a=>a
 |.own n::t,a=>bif has a n then Zs t a else Zs t (a++[n])
 |_::t,a=>Zs t a
def HT:List Nat->Nat->Nat->Option Nat
 |[],_,_=>N
 |k::t,n,i=>bif aH k n then C i else HT t n (i+1)
def TC:∀(l:List Nat) (n i m:Nat),HT l n i=C m->i<=m/\l[m-i]?=C n
 |[],n,i,m,h=>by simp[HT]at h
 |k::t,n,i,m,h=>by
  simp only[HT,Bs]at h;by_cases e:k=n
  .simp[e]at h;subst h;simp[e]
  .rw[if_neg e]at h;obtain⟨h1,a⟩:=TC t n (i+1) m h;exact⟨ω,by rw[show m-i=(m-(i+1))+1 by omega];simpa using a⟩
def Ayt{ν ν':Nat->Option Value}{S:Nat->Prop}{h:Array Obj}{n m t:Nat}{l:List<|G.T t}(q:ν' m=ν n)(r:Rb G ν S h n<|.row t l):Rb G ν' S h m<|.row t l:=by
 rcases r with⟨h1,a⟩|⟨b,e,c,te,h1,a⟩
 .exact .inl ⟨q.trans h1,a⟩
 .exact .inr ⟨b,e,c,te,q.trans h1,a⟩
def Asi (P : Program) (g : Nat) : Prop := ∃ fn, P.funcs[g]? = C fn /\ (fn.name == "runtime.NumGoroutine") = U /\ fn.body.isNone = U
def Xe{α:Type}:∀(l:List α) (n k:Nat),O (IH n l) k=if n<=k then l[k-n]? else N
 |[],n,k=>by simp[IH,O]
 |x::t,n,k=>by
  simp only[IH,O,Bs,Xe t (n+1) k];by_cases e:n=k
  .subst e;simp
  .rw[if_neg e];by_cases h:n<=k
   .rw[if_pos h,if_pos ω,show k-n=(k-(n+1))+1 by omega];simp
   .rw[if_neg h,if_neg ω]
end Go.Ab
namespace Go.Ab
variable{G:aD}
variable{fn: Func}{g: Nat}
def Bcj(g:Nat->Option Nat):List (Nat×Nat)->Option (List<|Nat×Nat):=DT λp=>match g p.1 with|some m=>C (m,p.2)|none=>N
def Cv.ren{T:Nat->Type}(f g:Nat->Option Nat):Cv T->Option (Cv T)
 |.own n=>match f n with|some m=>C (.own m)|none=>N
 |.ptr n off=>match g n with|some m=>C (.ptr m off)|none=>N
 |.clo k p q=>match Bcj g p,Bcj g q with|some a,C e=>C (.clo k a e)|_,_=>N
 |.np n t=>match g n with|some m=>C (.np m t)|none=>N
 |.sc v=>C<|.sc v
 |.ro t l=>C<|.ro t l
 |.rp t x o=>C<|.rp t x o
 |_=>N
def Pv.ren{T:Nat->Type}(f g:Nat->Option Nat):Pv T->Option (Pv T)
 |.one c=>match c.ren f g with|some c=>C (.one c)|none=>N
 |.agg cs=>match DT (Cv.ren f g) cs with|some cs=>C (.agg cs)|none=>N
def Sv.ren{T:Nat->Type}(f g:Nat->Option Nat):Sv T->Option (Sv T)
 |.p x=>match x.ren f g with|some x=>C (.p x)|none=>N
 |.tup xs=>match DT (Pv.ren f g) xs with|some xs=>C (.tup xs)|none=>N
def Cv.pts{T:Nat->Type}:Cv T->List Nat
 |.ptr n _=>[n]
 |.clo _ p q=>Ss p++Ss q
 |.np n _=>[n]
 |_=>[]
def Cv.ows{T:Nat->Type}:Cv T->List Nat
 |.own n=>[n]
 |_=>[]
def Atu:List Nat->List Nat->List Nat
 |[],a=>a
 |n::t,a=>bif has a n then Atu t a else Atu t (a++[n])
def XB(args:List<|Pv G.T):List Nat:=Atu (args.flatMap λp=>p.cells.flatMap Cv.pts) []
def inN(ns:List Nat)(n:Nat):Option Nat:=match HT ns n 0 with|some i=>C (Z+i)|none=>N
def Zr(ns:List Nat)(n:Nat):Option Nat:=bif aN Z n then ns[n-Z]? else N
def Adf(ns:List Nat)(n:Nat):Option Nat:=bif Nat.blt n Z&&!has ns n then C n else N
def Ak4(ns:List Nat):Option (aB G.T)->Option (aB G.T)
 |some (.cells cs)=>match DT (Cv.ren (Adf ns)<|inN ns) cs with|some cs=>C (.cells cs)|none=>N
 |_=>N
def Au5:Option (aB G.T)->Option (aB G.T)
 |some (.row t l)=>C<|.row t l
 |_=>N
def Fa(ns:List Nat)(h:Nat->Option (aB G.T))(n:Nat):Option<|aB G.T:=
 bif aN Z n then match ns[n-Z]? with|some m=>Ak4 ns (h m)|none=>N
 else bif has ns n then N else Au5 (h n)
def Sr{T:Nat->Type}:Cv T->Bool
 |.ro _ _=>U
 |.rp _ _ _=>U
 |_=>J
def WX(G:aD):List (Nat×aB G.T)->Bool
 |[]=>J
 |(_,.row t _)::r=>G.flat t&&WX G r
 |(_,.cells _)::_=>U
def Am5:List Nat->Bool
 |[]=>J
 |_=>U
structure Tin(α:Type) where
 x:α
 olds:List Nat
 fz:List Nat
 ft:List (Nat×Nat)
def ftC:aE->Cv G.T->List (Nat×Nat)
 |.ro t,.own n=>[(n,t)]
 |_,_=>[]
def ftL:List aE->List (Cv G.T)->List (Nat×Nat)
 |s::t,c::cs=>ftC s c++ftL t cs
 |_,_=>[]
def ftP:aC->Pv G.T->List (Nat×Nat)
 |.one s,.one c=>ftC s c
 |.agg a,.agg cs=>ftL a cs
 |_,_=>[]
def Acl(tm:List<|Nat×Sv G.T):List (Nat×aC)->List (Nat×Nat)
 |[]=>[]
 |p::t=>(match O tm p.1 with|some (.p c)=>ftP p.2 c|_=>[])++Acl tm t
def VU:Nat->List Nat->Bool
 |_,[]=>J
 |n,k::t=>aH k n&&VU (n+1) t
def QL(I:aF)(h1:Nat->Option (aB G.T))(k:Nat)(args:List<|Pv G.T):Option<|Tin<|I.T G:=
 bif aH args.length I.tm.length&&aH k I.hp.length&&VU Z (AH I.hp)then
  match Ir h1 (IH 0<|args.map .p) I.tm,Km h1 I.hp with
  |some a,C b=>
   bif I.tm.all (λp=>p.2.fix<|AH I.hp)&&I.hp.all (λp=>p.2.all<|CSh.fix<|AH I.hp)&&
    (Io (Eu (a.nm++b.nm)++AH I.hp)&&Ws (Eu<|a.nm++b.nm)&&Io (EI (a.nm++b.nm)++AH I.hp)&&(WG (EI (a.nm++b.nm)++AH I.hp) (a.fz++b.fz)&&Adi (a.nm++b.nm) (a.sh++b.sh)))
   then C ⟨(a.x,b.x),EI<|a.nm++b.nm,a.fz++b.fz,Acl (IH 0<|args.map .p) I.tm⟩else N
  |_,_=>N
 else N
structure Fe(G:Sig) where
 I:Spec
 E:List (Ex×Spec)
 F:I.T G->Option (Fp G E)
 rs:List ResultVar
def VN(hp:Nat->Option (aB G.T)):List Nat->Option (List<|List<|Cv G.T):=DT λn=>match hp n with|some (.cells cs)=>C cs|_=>N
def KT(I:aF)(rs:List ResultVar)(p:Ex×V G):Option<|Sv G.T×List (List<|Cv G.T):=match p.1 with
 |.exit _=>N
 |_=>match RN p.2 rs,VN (O p.2.hp) (AH I.hp)with
  |some s,C bl=>C (s,bl)
  |_,_=>N
def Oe:List Nat->List (List<|Cv G.T)->List (Nat×aB G.T)
 |n::ns,c::cs=>(n,.cells c)::Oe ns cs
 |_,_=>[]
def Aau:List (Nat×aB G.T)->List (Nat×Option (aB G.T))
 |[]=>[]
 |(n,k)::t=>(n,C k)::Aau t
def Aaq(ns:List Nat)(h:Nat->Option (aB G.T))(args:List<|Pv G.T):List Nat:=args.flatMap (λp=>p.cells.flatMap Cv.ows)++ns.flatMap λn=>match h n with|some (.cells cs)=>cs.flatMap Cv.ows|_=>[]
def plC{T:Nat->Type}:Cv T->Bool
 |.sc _|.ro _ _|.rp _ _ _=>J
 |_=>U
def UP(hp:Nat->Option (aB G.T)):List Nat->Nat->Option (List<|Nat×aB G.T)
 |[],_=>C []
 |n::t,i=>match hp n,UP hp t (i+1)with
  |some (.row u l),C r=>C<|(i,.row u l)::r
  |some (.cells cs),C r=>bif Nat.blt n Z&&cs.all plC then C ((i,.cells cs)::r)else N
  |_,_=>N
def frs{T:Nat->Type}:List (Cv T)->List Nat
 |[]=>[]
 |.ptr n _::t=>bif aN Z n then frs t else n::frs t
 |_::t=>frs t
def Bcd(ns a:List Nat)(nm n:Nat):Option Nat:=bif aN Z n then Zr ns n else HT a n nm
def Wu(G:aD)(t u:Nat):Bool:=!aH u t&&!G.loose u
def Afb(G:aD)(t:Nat):List (Option Nat)->Bool
 |[]=>J
 |none::r=>Afb G t r
 |some u::r=>Wu G t u&&(G.flat u&&Afb G t r)
def UH(G:aD)(t u:Nat):Bool:=G.flat u||Afb G t ((G.enc u<|G.dfl u).map roC)
def Yr(G:aD)(t:Nat):Cv G.T->Bool
 |.ro u _=>Wu G t u&&UH G t u
 |.rp _ _ _=>U
 |_=>J
def Ab1(G:aD)(t:Nat):List (Nat×aB G.T)->Bool
 |[]=>J
 |(_,.row u _)::r=>UH G t u&&Ab1 G t r
 |(_,.cells _)::_=>U
def Wv(G:aD)(a:List<|Nat×Nat)(cs:List<|Cv G.T)(Cs:List<|Nat×aB G.T)(n:Nat):Bool:=match O a n with
 |some t=>cs.all (Yr G t)&&Ab1 G t Cs
 |none=>U
def At4(ns:List Nat)(rd:List Nat)(nm:Nat)(a fz:List Nat)(r:List<|Nat×Nat)(hp:Nat->Option (aB G.T))(s:Sv G.T)(bl:List<|List<|Cv G.T):Option<|aA G:=
 let e:=Zs (s.cells++bl.flatten) []++frs s.cells
 match bif Io e then UP hp e nm else N,s.ren (λn=>HT e n nm)<|Bcd ns e nm,DT (DT<|Cv.ren (λn=>HT e n nm)<|Zr ns) bl with
 |some Cs,C s',C q=>
  let flat:=Am5 fz||((s.cells++bl.flatten).all Sr&&WX G Cs)
  C ⟨C s',MH (a++bif flat then []else fz.filter λn=>!Wv G r (s.cells++bl.flatten) Cs n)++Aau (Oe ns q++Cs),BE Cs,rd⟩
 |_,_,_=>N
section
variable(ns:List Nat)(h h1:Nat->Option (aB G.T))(nm:Nat)(rd:List Nat)(args:List (Pv G.T))(g:Nat)
def Vp(e:Fe G)(t:Tin<|e.I.T G)(p:Ex×V G):Option<|aA G:=match KT e.I e.rs p with
 |some a=>At4 ns rd nm t.olds t.fz t.ft (O p.2.hp) a.1 a.2
 |none=>N
def ZY(e:Fe G)(t:Tin<|e.I.T G):M<|aA G:=λ_ k=>(e.F t.x).bind λy=>Hm e.E y λp=>(Vp ns nm rd e t p).bind k
def TW:List (Nat×Fe G)->M (aA G)
 |[]=>aP
 |p::r=>λR k=>bif aH p.1 g then match QL p.2.I h1 ns.length args with
   |some t=>ZY ns nm rd p.2 t R k
   |none=>TW r R k
  else TW r R k
end
def cfP(l:List<|Nat×Fe G):Dc G:=λg args h nm=>aI (aQ<|DT (Pv.ren (Adf<|XB args)<|inN<|XB args) args) λa=>aI (aR<|Io<|XB args) λ_=>TW (XB args) (Fa (XB args) h) nm (XB args++Aaq (XB args) h args) a g l
def Ha(P:Program)(G:aD)(g:Nat)(e:Fe G):Prop:=Asi P g/\
 ∀(x:e.I.T G) (y:Fp G e.E) (p:Ex×V G) (s:Sv G.T) (bl:List<|List<|Cv G.T),e.F x=C y->Hm e.E y C=C p->KT e.I e.rs p=C (s,bl)->
 ∀(ν:Nat->Option Value) (S q:Nat->Prop) (w:World) (a:List Value),HRel G ν S (λb=>q b\/w.heap.size<=b) (O (e.I.mk' x).hp) w->(∀n,ν n≠N->n∈(e.I.mk' x).us)->
  a.length=e.I.tm.length->(∀k v,O (e.I.mk' x).tm k=C v->Rs G ν S w.heap v (a.getD k undef))->
  Calls P g a.toArray w λr w'=>∃v ν' S',r=.returned v/\Rs G ν' S' w'.heap s v/\HRel G ν' S' (λb=>q b\/w.heap.size<=b) (O p.2.hp) w'/\
   (∀b,S b->S' b)/\(∀b,S' b->S b\/q b\/w.heap.size<=b)/\(∀n y,Z<=n->ν n=C y->ν' n=C y)/\
   w.heap.size<=w'.heap.size/\(∀b,b<w.heap.size->¬q b->w'.heap[b]?=w.heap[b]?)/\(w'.os=w.os/\w'.tape=w.tape/\w'.output=w.output)
section
variable{P:Program}(ok:aO P G)(eqok:EqOK P G){cf:Dc G}(cfok:CfOK P G cf){drawn:Array Oper->V G->M (V G)}
 {lp:Nat->V G->M (Ex×V G)}{kl:Nat->List Nat}{jn:Nat->Option (List (Ex×aF))}
include ok in
theorem Ang(hw : P.funcs[g]? = C fn)(ha : (fn.name == "runtime.NumGoroutine") = U)(hc : fn.body.isNone = U){e : Fe G}(hu : fn.results.toList = e.rs)(hx : e.I.tm.length <= fn.ntmps)
  {h9:V G->M (Ex×V G)}(he:∀st,Law<|h9 st) (hF:∀x y,e.F x=C y->h9 (e.I.mk' x) _ (λp=>IA e.E p.1 p.2)=C y)
  (hs:∀(cx:Cx) (st q:V G) (A:Ex) (args:Array Value) (w:World) (R:Ending->World->Prop),cx.nt=fn.ntmps->cx.df=[]->(∀n y,cx.nu0 n=C y->Z<=n)->(∀i,A≠ .exit i)->h9 st _ C=C (A,q)->
   Rel G cx st { tmps:=args++aV (fn.ntmps-args.size) undef,defers:=[] } w->(∀df (B:Act) w',Rel G { cx with df:=df } q B w'->∃v,(results fn B.tmps).run P w'=.ok v w'/\R (.returned v) w')->Calls P g args w R):Ha P G g e:=by
 refine⟨⟨fn,hw,ha,hc⟩,λx y p s bl hy hp ho ν S mo w a h8 X x1 h6=>?_⟩;obtain⟨⟨A,Y⟩,h0,h2⟩:=(he _).spec<|hF x y hy
 let cx:Cx:=⟨w,mo,S,λn=>if Z<=n then ν n else N,fn.ntmps,[]⟩
 have hj:∀n y,cx.nu0 n=C y->Z<=n:=λn y h=>by
  simp only[cx]at h;split at h
  .assumption
  .cases h
 have h7:Rel G cx (e.I.mk' x) { tmps:=a.toArray++aV (fn.ntmps-a.toArray.size) undef,defers:=[] } w:=by
  refine⟨ν,S,λk t hk=>?_,h8,X,rfl,(by show _=fn.ntmps;simp;omega),t_ _,λ_ _ _=>rfl,⟨rfl,rfl,rfl⟩,λb hb=>.inl hb,λ_ h=>h,λn z hn=>?_⟩
  .have:=h6 k t hk
   have e1:(a.toArray++aV (fn.ntmps-a.toArray.size) undef).getD k undef=a.getD k undef:=by
    by_cases hk:k<a.length
    .rw[v_,Array.getElem?_append_left (by simpa using hk)];simp[hk]
    .rw[v_,Array.getElem?_append_right (by simp;omega)];simp only[g_];rw[List.getElem?_eq_none ω];simp only[bC];split<;>rfl
   rw[e1];exact this
  .simp only[cx]at hn;split at hn
   .exact hn
   .cases hn
 obtain⟨q,h3,hh⟩:∃q,p=(A,q)/\∀df (B:Act) w',Rel G { cx with df:=df } Y B w'->Rel G { cx with df:=df } q B w':=by have h3:p=(A,p.2):=Prod.ext (Adj e.E y A Y h2 p hp) rfl;exact⟨p.2,h3,λdf B w' r=>by obtain⟨x0,h4,h5⟩:=UT (cx:={ cx with df:=df }) hj e.E h2 r C p hp;cases h4;exact h5⟩
 subst h3;have W:RN q fn.results.toList=C s/\∀i,A≠ .exit i:=by
  rw[hu];unfold KT at ho;cases A with
  |exit i=>simp at ho
  |normal=>
   simp only at ho;split at ho
   .rename_i s1 b1 q1 q2;simp at ho;exact⟨q1.trans<|b5_ C ho.1,σ⟩
   .simp at ho
  |ret=>
   simp only at ho;split at ho
   .rename_i s1 b1 q1 q2;simp at ho;exact⟨q1.trans<|b5_ C ho.1,σ⟩
   .simp at ho
 refine hs cx _ Y A a.toArray w _ rfl rfl hj W.2 h0 h7 λdf B w' ht=>?_;obtain⟨ν',S',L⟩:=hh df B w' ht;obtain⟨v,hr,hv⟩:=Aqq ok L W.1;exact⟨v,hr,v,ν',S',rfl,hv,L.heap,L.keep,L.sub,λn z hn hz=>L.names n z (by simp only[cx];rw[if_pos hn];exact hz),L.size,L.frame,L.env⟩
include ok eqok cfok in
theorem Aqh{a : Code}(W : P.funcs[g]? = C fn)(B : (fn.name == "runtime.NumGoroutine") = U)(z : fn.body = C a){e : Fe G}(h5 : fn.results.toList = e.rs)(X : e.I.tm.length <= fn.ntmps)
  (dok:DrawOK P G fn.ntmps drawn) (hl:∀(k:Nat) A,(Bt a)[k]?=C A->aM P G fn.ntmps (lp k) A)
  (hF:∀x y,e.F x=C y->CZ cf fn.ntmps drawn lp kl jn 0 a (e.I.mk' x) _ (λp=>IA e.E p.1 p.2)=C y):Ha P G g e:=by
 have Y:∀k A,(Bt a)[k]?=C A->aM P G fn.ntmps (lp<|0+k) A:=λk A hk=>by rw[n_];exact hl k A hk
 refine Ang ok W B (by rw[z];rfl) h5 X (λst=>Fs cfok dok a 0 st Y) hF λcx st h3 ex args w R h2 h7 h4 h6 h0 L hR=>?_;refine calls_of_wp W z (GR ok eqok cfok dok h2 h4 a 0 _ h3 ex _ w _ Y h0 L λe' a' w' he r'=>?_);have q:bodyPost P fn R .ret a' w':=⟨by obtain⟨_,_,r⟩:=r';exact r.defers.trans h7,hR cx.df a' w' r'⟩
 cases ex with
 |normal=>rw[KO he];exact q
 |ret=>rw[SH he];exact q
 |exit i=>exact absurd rfl<|h6 i
end
end Go.Ab
namespace Go.Ab
variable{G:aD}
variable{vs:List Value}{v:Value}
section
variable{ν ν1:Nat->Option Value}{S:Nat->Prop}{h:Array Obj}{f g:Nat->Option Nat}
def Adg(hg:∀n m x,g n=C m->ν n=C x->ν1 m=C x){p:Nat×Nat}{m:Nat}(hm:g p.1=C m)(r:RPtr ν p v):RPtr ν1 (m,p.2) v:=by obtain⟨b,h1,a⟩:=r;exact⟨b,hg _ _ _ hm h1,a⟩
def Ajr(hg:∀n m x,g n=C m->ν n=C x->ν1 m=C x){p q:List<|Nat×Nat}(hp:Bcj g p=C q)(r:F2 (RPtr ν) p vs):F2 (RPtr ν1) q vs:=by
 obtain⟨h1,B⟩:=CX _ _ hp;refine⟨by rw[h1];exact r.1,λi x y A E=>?_⟩;have hi:i<p.length:=by have:=(e_.1 A).1;omega
 obtain⟨z,e,a⟩:=B i _<|h_ hi;rw[A]at e;cases e;split at a
 .rename_i m hm;cases a;exact Adg hg hm<|r.2 i _ y (h_ hi) E
 .cases a
variable(hf:∀n m x,f n=C m->ν n=C x->ν1 m=C x)(hg:∀n m x,g n=C m->ν n=C x->ν1 m=C x)
include hf hg
theorem Ayv{c A:Cv G.T}(e:c.ren f g=C A)(r:Rc G ν S h c v):Rc G ν1 S h A v:=by
 cases c with
 |own n=>
  simp only[Cv.ren]at e;split at e
  .rename_i m hm;cases e;obtain⟨a,len,z,h1,y⟩:=r;exact⟨a,len,z,hf n m _ hm h1,y⟩
  .cases e
 |ptr n off=>
  simp only[Cv.ren]at e;split at e
  .rename_i m hm;cases e;exact Adg hg (p:=(n,off)) hm r
  .cases e
 |clo k p q=>
  simp only[Cv.ren]at e;split at e
  .rename_i I L hp hq;cases e;obtain⟨F,E,h1,y,B⟩:=r;exact⟨F,E,h1,Ajr hg hp y,Ajr hg hq B⟩
  .cases e
 |np n t=>
  simp only[Cv.ren]at e;split at e
  .rename_i m hm;cases e;exact r.imp (λh=>h)<|Adg hg (p:=(n,0)) hm
  .cases e
 |sc v=>cases e;exact r
 |ro t l=>cases e;exact r
 |rp t x o=>cases e;exact r
 |pd _ _ _ _ _=>cases e
 |pr _ _ _ _=>cases e
 |sa _ _ _=>cases e
omit hf hg in
theorem Ar8{f g:Nat->Option Nat}{cs y:List<|Cv G.T}(E:DT (Cv.ren f g) cs=C y){m t:Nat}(hm:Cv.np m t∈y):∃B,Cv.np B t∈cs/\g B=C m:=by
 obtain⟨L,F⟩:=CX _ _ E;obtain⟨i,hi⟩:=c9_.1 hm;have r:i<cs.length:=by have:=(e_.1 hi).1;omega
 obtain⟨z,A,a⟩:=F i _<|h_ r;rw[hi]at A;cases A;have e:cs[i]∈cs:=R_ r;generalize cs[i]=c at a e;cases c with
 |np n I=>
  simp only[Cv.ren]at a;split at a
  .rename_i q hq;cases a;exact⟨n,e,hq⟩
  .cases a
 |own n=>simp only[Cv.ren]at a;split at a<;>cases a
 |ptr n off=>simp only[Cv.ren]at a;split at a<;>cases a
 |clo k p q=>simp only[Cv.ren]at a;split at a<;>cases a
 |sc v=>cases a
 |ro t l=>cases a
 |rp t x o=>cases a
 |pd _ _ _ _ _=>cases a
 |pr _ _ _ _=>cases a
 |sa _ _ _=>cases a
theorem Ahy{cs a:List<|Cv G.T}(B:DT (Cv.ren f g) cs=C a)(r:F2 (Rc G ν S h) cs vs):F2 (Rc G ν1 S h) a vs:=by
 obtain⟨F,E⟩:=CX _ _ B;refine⟨by rw[F];exact r.1,λi x y A I=>?_⟩;have hi:i<cs.length:=by have:=(e_.1 A).1;omega
 obtain⟨z,q,e⟩:=E i _<|h_ hi;rw[A]at q;cases q;exact Ayv hf hg e<|r.2 i _ y (h_ hi) I
theorem Ay2{x x':Pv G.T}(a:x.ren f g=C x')(r:Rp G ν S h x v):Rp G ν1 S h x' v:=by
 cases r with
 |one c v e=>
  simp only[Pv.ren]at a;split at a
  .rename_i A y;cases a;exact .one _ _<|Ayv hf hg y e
  .cases a
 |agg cs vs e=>
  simp only[Pv.ren]at a;split at a
  .rename_i z q;cases a;exact .agg _ _<|Ahy hf hg q e
  .cases a
theorem Asb{xs a:List<|Pv G.T}(B:DT (Pv.ren f g) xs=C a)(r:F2 (Rp G ν S h) xs vs):F2 (Rp G ν1 S h) a vs:=by
 obtain⟨F,E⟩:=CX _ _ B;refine⟨by rw[F];exact r.1,λi x y A I=>?_⟩;have hi:i<xs.length:=by have:=(e_.1 A).1;omega
 obtain⟨z,q,e⟩:=E i _<|h_ hi;rw[A]at q;cases q;exact Ay2 hf hg e<|r.2 i _ y (h_ hi) I
theorem Bks{x x':Sv G.T}(a:x.ren f g=C x')(r:Rs G ν S h x v):Rs G ν1 S h x' v:=by
 cases r with
 |p c v e=>
  simp only[Sv.ren]at a;split at a
  .rename_i A y;cases a;exact .p _ _<|Ay2 hf hg y e
  .cases a
 |tup cs vs e=>
  simp only[Sv.ren]at a;split at a
  .rename_i z q;cases a;exact .tup _ _<|Asb hf hg q e
  .cases a
end
structure TakeC(I:Spec)(nm:List (Nat×Option Nat))(fz:List Nat)(sh:List (Nat×Nat)):Prop where
 tm:I.tm.all (λp=>p.2.fix (AH I.hp))=true
 hp:I.hp.all (λp=>p.2.all (CSh.fix (AH I.hp)))=true
 keys:(Eu nm++AH I.hp).Nodup
 low:∀n∈Eu nm,n<lo
 olds:(EI nm++AH I.hp).Nodup
 disj:∀n∈EI nm++AH I.hp,n∉fz
 shr:∀p∈sh,(p.1,some p.2)∈nm
def Azd{I:aF}{h1:Nat->Option (aB G.T)}{tm:List<|Nat×Sv G.T}{a:Tk<|TmT G I.tm}{b:Tk<|HpT G I.hp}(hu:Ir h1 tm I.tm=C a)(ha:Km h1 I.hp=C b)
  (W:TakeC I (a.nm++b.nm) (a.fz++b.fz)<|a.sh++b.sh) {ν:Nat->Option Value}{S B:Nat->Prop}{w:World}(hr:HRel G ν S B h1 w) {f:Nat->Value}(hs:∀k s,O tm k=C s->Rs G ν S w.heap s (f k)) :
  ∃ν' S',(∀k v,O (I.mk' (a.x,b.x)).tm k=C v->Rs G ν' S' w.heap v (f k))/\HRel G ν' S' B (O (I.mk' (a.x,b.x)).hp) w/\(∀n,ν' n≠N->n∈(I.mk' (a.x,b.x)).us)/\
   (∀n∈AH I.hp,ν' n=ν n/\∃cs,h1 n=C (.cells cs))/\(∀c,S' c↔S c\/∃n∈a.fz++b.fz,h1 n≠N/\∃y,ν n=C y/\AX y=C c)/\
   (∀n y c,O (I.mk' (a.x,b.x)).hp n≠N->ν' n=C y->AX y=C c->∃m,ν m=C y/\h1 m≠N/\(m∈EI (a.nm++b.nm)\/m∈AH I.hp))/\
   (∀n∈EI (a.nm++b.nm),h1 n≠N):=by
 generalize h0:a.nm++b.nm=ρ at W|-;generalize he:a.fz++b.fz=fz at W|-;generalize ht:a.sh++b.sh=sh at W;have d3:=List.nodup_append.1 W.keys;have d5:=List.nodup_append.1 W.olds
 let ν':Nat->Option Value:=λn=>match O ρ n with
  |some (C m)=>ν m
  |some N=>C<|.slice N 0 0
  |none=>if n∈AH I.hp then ν n else N
 let S':Nat->Prop:=λc=>S c\/∃n∈fz,h1 n≠N/\∃y,ν n=C y/\AX y=C c
 have R:∀p∈ρ,ν' p.1=match p.2 with|some n=>ν n|none=>C<|.slice N 0 0:=by intro p hp;simp only[ν',Arz d3.1 hp];cases p.2<;>rfl
 have h9:∀n,n∉Eu ρ->O ρ n=N:=by
  intro n q;cases hg:O ρ n with
  |none=>rfl
  |some o=>exact absurd (Rr<|Kf hg) q
 have r:∀n∈AH I.hp,ν' n=ν n:=by
  intro n q
  have:O ρ n=N:=h9 n λhm=>d3.2.2 n hm n q rfl
  simp only[ν',this];rw[if_pos q]
 have rn:Ren ν ν' S S' h1 (AH I.hp) ρ fz sh:=⟨R,r,λn q hh y c hy X=>.inr ⟨n,q,hh,y,hy,X⟩,λc X=>.inl X,λp hp=>R _<|W.shr p hp⟩
 rw[<-h0,<-he,<-ht]at rn;obtain⟨g1,g2⟩:=TU hr hs I.tm a hu W.tm rn.left;obtain⟨g3,g4,g5,g6⟩:=TT hr I.hp b ha (λ_ h=>h) W.hp rn.right;have L:BE (NG I.tm a.x++(Se I.hp b.x++Il I.hp b.x))=Eu ρ++AH I.hp:=by rw[He,He,g2.2.1,g6.2.1,g4,<-h0,TD,N_]
 have F:∀m n,(n,C m)∈ρ->h1 m≠N:=by
  intro m n ho;rw[<-h0]at ho;rcases m_.1 ho with ho|ho
  .exact g2.2.2 _ ho m rfl
  .exact g6.2.2 _ ho m rfl
 have E:∀n y c,O (NG I.tm a.x++(Se I.hp b.x++Il I.hp b.x)) n≠N->ν' n=C y->AX y=C c->
   ∃m,ν m=C y/\h1 m≠N/\((n,C m)∈ρ\/(n∈AH I.hp/\m=n)):=by
  intro n y c q hy X;obtain⟨k,hk⟩:=Option.ne_none_iff_exists'.1 q;have hm:=UE<|Kf hk;rw[L]at hm;rcases m_.1 hm with hm|hm
  .obtain⟨o,ho⟩:=Ai9 hm;have Y:=R _ ho;simp only at Y;cases o with
   |none=>rw[hy]at Y;simp at Y;subst Y;simp[AX]at X
   |some m=>exact⟨m,by rw[<-hy,Y],F m n ho,.inl ho⟩
  .refine⟨n,by rw[<-r n hm];exact hy,?_,.inr ⟨hm,rfl⟩⟩;obtain⟨cs,hj⟩:=g5 n hm;rw[hj];simp
 refine⟨ν',S',g1,⟨λn k hk=>?_,λn m y z c h1 h2 h3 h4 h5 h6=>?_,λn y c h1 h2 h3=>?_,λc X=>?_,hr.gl.mono (λ_ h=>.inl h) λ_ _=>rfl⟩,λn q=>?_,λn q=>⟨r n q,g5 n q⟩,λ_=>Iff.rfl,λn y c q hy X=>?_,λn q=>?_⟩
 .have hm:=Kf hk;rcases m_.1 hm with hm|hm
  .exact g2.1 _ hm
  .rcases m_.1 hm with hm|hm
   .exact g6.1 _ hm
   .exact g3 _ hm
 .obtain⟨n1,q1,q2,A⟩:=E n y c h1 h3 h5;obtain⟨n2,p1,p2,p3⟩:=E m z c h2 h4 h6;have e:=hr.apart n1 n2 y z c q2 p2 q1 p1 h5 h6;subst e;rcases A with A|⟨A,q4⟩<;>rcases p3 with p3|⟨p3,p4⟩
  .exact Aof d5.1 A p3
  .exact absurd rfl<|d5.2.2 n1 (Jn A) n1 (by rw[p4];exact p3)
  .exact absurd rfl<|d5.2.2 n1 (Jn p3) n1 (by rw[q4];exact A)
  .exact q4.symm.trans p4
 .obtain⟨n1,q1,q2,A⟩:=E n y c h1 h2 h3;obtain⟨o1,o2⟩:=hr.own n1 y c q2 q1 h3;refine⟨?_,o2⟩;rintro(hS|⟨m,hm,h8,z,hz,h7⟩)
  .exact o1 hS
  .have e:=hr.apart n1 m y z c q2 h8 q1 hz h3 h7;subst e;refine W.disj n1 (m_.2 ?_) hm;rcases A with A|⟨A,q4⟩
   .exact .inl<|Jn A
   .exact .inr (by rw[q4];exact A)
 .rcases X with X|⟨m,hm,h8,z,hz,h7⟩
  .exact hr.stay c X
  .exact hr.lt h8 hz h7
 .show n∈BE _++I.us;rw[L];cases hg:O ρ n with
  |some o=>simp[Rr<|Kf hg]
  |none=>
   simp only[ν',hg]at q;by_cases W:n∈AH I.hp
   .simp[W]
   .rw[if_neg W]at q;simp at q
 .obtain⟨m,q1,q2,A⟩:=E n y c q hy X;refine⟨m,q1,q2,?_⟩;rcases A with A|⟨A,q4⟩
  .exact .inl<|Jn A
  .exact .inr (by rw[q4];exact A)
 .have:∃m,(m,C n)∈ρ:=by
   clear R h9 r rn L E d3 d5 g1 g2 g3 g4 g5 g6 W F h0;induction ρ with
   |nil=>simp[EI]at q
   |cons p t ih=>
    obtain⟨k,o⟩:=p;cases o with
    |none=>simp only[EI]at q;obtain⟨m,hm⟩:=ih q;exact⟨m,by simp[hm]⟩
    |some j=>
     simp only[EI,A_]at q;rcases q with rfl|q
     .exact⟨k,σ⟩
     .obtain⟨m,hm⟩:=ih q;exact⟨m,by simp[hm]⟩
  obtain⟨m,hm⟩:=this;exact F n m hm
end Go.Ab
namespace Go.Ab
variable{G:aD}
variable{ν:Nat->Option Value}{ns:List Nat}{h:Array Obj}{v x:Value}{out:aA G}{n nm:Nat}
def Abc(h:Nat->Option (aB G.T)):∀(d e:List<|Nat×Option (aB G.T)),BB h (d++e)=BB (BB h d) e
 |[],e=>rfl
 |p::d,e=>by obtain⟨n,k⟩:=p;simp only[aZ,BB];exact Abc _ d e
def Ah9:∀(r:List<|Nat×aB G.T) (h:Nat->Option (aB G.T)) (n:Nat),(BE r).Nodup->BB h (Aau r) n=match O r n with|some k=>C k|none=>h n
 |[],h,n,_=>rfl
 |(m,k)::t,h,n,a=>by
  simp only[BE,List.nodup_cons]at a;simp only[Aau,BB,Ah9 t _ n a.2,O,Bs];by_cases e:m=n
  .subst e;rw[if_pos rfl];cases hg:O t m with
   |none=>simp
   |some k'=>exact absurd (UE<|Kf hg) a.1
  .rw[if_neg e];cases O t n with
   |none=>simp[e]
   |some k'=>simp[e]
def Aeu{α:Type}:∀(a b:List<|Nat×α) (n:Nat),O (a++b) n=match O a n with|some k=>C k|none=>O b n
 |[],_,_=>rfl
 |(m,k)::t,b,n=>by simp only[aZ,O,Bs,Aeu t b n];by_cases e:m=n<;>simp[e]
def Ann:∀(ns:List Nat) (cs:List<|List<|Cv G.T) (n:Nat) (k:aB G.T),O (Oe ns cs) n=C k->∃(i:Nat) (c:List<|Cv G.T),ns[i]?=C n/\cs[i]?=C c/\k=.cells c
 |[],_,n,k,h=>by simp[Oe,O]at h
 |_::_,[],n,k,h=>by simp[Oe,O]at h
 |m::ns,c::cs,n,k,h=>by
  simp only[Oe,O,Bs]at h;by_cases e:m=n
  .rw[if_pos e]at h;cases h;exact⟨0,c,by simp[e],rfl,rfl⟩
  .rw[if_neg e]at h;obtain⟨i,r,h1,q,a⟩:=Ann ns cs n k h;exact⟨i+1,r,by simpa using h1,by simpa using q,a⟩
def Za:∀(ns:List Nat) (cs:List<|List<|Cv G.T),cs.length=ns.length->BE (Oe ns cs)=ns
 |[],[],_=>rfl
 |[],_::_,h=>by simp at h
 |_::_,[],h=>by simp at h
 |m::ns,c::cs,h=>by simp only[Oe,BE,Za ns cs (by simpa using h)]
def okK(n:Nat):aB G.T->Prop
 |.row _ _=>True
 |.cells cs=>n<Z/\∀c∈cs,plC c=J
def Afn{hp:Nat->Option (aB G.T)}:∀(l:List Nat) (i:Nat) (r:List<|Nat×aB G.T),UP hp l i=C r->(∀n,n∈BE r↔i<=n/\n<i+l.length)/\(BE r).Nodup/\
  ∀j m,l[j]?=C m->∃k,hp m=C k/\O r (i+j)=C k/\okK m k
 |[],i,r,h=>by simp[UP]at h;subst h;exact⟨λn=>by simp[BE];try omega,by simp[BE],λj m hm=>by simp at hm⟩
 |m::t,i,r,h=>by
  have z:∃k a,r=(i,k)::a/\hp m=C k/\UP hp t (i+1)=C a/\okK m k:=by
   simp only[UP]at h;split at h
   .rename_i u l a y e;cases h;exact⟨_,_,rfl,y,e,trivial⟩
   .rename_i cs a y e;cases q:(Nat.blt m Z&&cs.all plC)with
    |false=>rw[q]at h;cases h
    |true=>rw[q]at h;cases h;rw[b_]at q;exact⟨_,_,rfl,y,e,(by have:=q.1;simpa using this),G_.1 q.2⟩
   .cases h
  obtain⟨k,a,rfl,y,e,F⟩:=z;obtain⟨h1,R,L⟩:=Afn t (i+1) a e;refine⟨λn=>?_,?_,λj B hm=>?_⟩
  .simp only[BE,A_,h1,D_];omega
  .simp only[BE,List.nodup_cons];exact⟨λhm=>by have:=(h1 i).1 hm;omega,R⟩
  .cases j with
   |zero=>simp at hm;subst hm;exact⟨k,y,by simp[O],F⟩
   |succ j=>obtain⟨k',A,E,I⟩:=L j B (by simpa using hm);refine⟨k',A,?_,I⟩;simp only[O,Bs];rw[if_neg ω,show i+(j+1)=i+1+j by omega];exact E
def Bf2{ν':Nat->Option Value}{S:Nat->Prop}{m:Nat}{k:aB G.T}(q:okK n k)(z:ν' m=ν n)(r:Rb G ν S h n k):Rb G ν' S h m k:=by
 cases k with
 |row t l=>exact Ayt z r
 |cells cs=>
  obtain⟨b,c,te,A,E,e,I⟩:=r;refine⟨b,c,te,z.trans A,E,⟨e.1,λi x y a F=>?_⟩,λp t hm=>?_⟩
  .have B:=q.2 x<|p_ a
   have:=e.2 i x y a F
   cases x<;>first|exact this|(simp[plC]at B)
  .have:=q.2 _ hm
   simp[plC]at this
def Aen:∀(r:List<|Nat×aB G.T) (n:Nat) (k:aB G.T),WX G r=J->O r n=C k->∃t l,k=.row t l/\G.flat t=J
 |[],n,k,_,h=>by simp[O]at h
 |(m,.cells cs)::t,n,k,h,_=>by simp[WX]at h
 |(m,.row u l)::t,n,k,h,hg=>by
  simp only[WX,b_]at h;simp only[O,Bs]at hg;by_cases e:m=n
  .rw[if_pos e]at hg;cases hg;exact⟨u,l,rfl,h.1⟩
  .rw[if_neg e]at hg;exact Aen t n k h.2 hg
def Ahx{S S':Nat->Prop}{c:Cv G.T}(hf:Sr c=J)(r:Rc G ν S h c v):Rc G ν S' h c v:=by
 cases c with
 |sc q=>
  have e:Rd G S h (.sc q) v:=r;cases e with
  |sc _ a=>exact Rd.sc _ a
 |ro t l=>simp[Sr]at hf
 |rp t x o=>simp[Sr]at hf
 |ptr _ _=>exact r
 |pd _ _ _ _ _=>exact r
 |pr _ _ _ _=>exact r
 |own _=>exact r
 |clo _ _ _=>exact r
 |np _ _=>exact r
 |sa _ _ _=>exact r
def Asa{S S':Nat->Prop}{x:Pv G.T}(hf:∀c∈x.cells,Sr c=J)(r:Rp G ν S h x v):Rp G ν S' h x v:=by
 cases r with
 |one c v e=>exact .one _ _<|Ahx (hf c (by simp[aY])) e
 |agg cs vs e=>exact .agg _ _ ⟨e.1,λi a b q y=>Ahx (hf a<|p_ q)<|e.2 i a b q y⟩
def Asc{S S':Nat->Prop}{x:Sv G.T}(hf:∀c∈x.cells,Sr c=J)(r:Rs G ν S h x v):Rs G ν S' h x v:=by
 cases r with
 |p x v e=>exact .p _ _<|Asa hf e
 |tup xs vs e=>exact .tup _ _ ⟨e.1,λi a b q y=>Asa (λc hm=>hf c<|c2_.2 ⟨a,p_ q,hm⟩)<|e.2 i a b q y⟩
def MB{a b:Nat}:aN a b=J↔a<=b:=by simp
def Vv:∀{n:Nat}{l:List Nat},VU n l=J->∀i k,l[i]?=C k->k=n+i
 |n,[],_,i,k,h=>by simp at h
 |n,m::t,h,i,k,a=>by
  simp only[VU,b_,AQ]at h;cases i with
  |zero=>simp at a;omega
  |succ i=>have:=Vv h.2 i k (by simpa using a);omega
def Avr{I:aF}{h1:Nat->Option (aB G.T)}{k:Nat}{args:List<|Pv G.T}{t:Tin<|I.T G}(h:QL I h1 k args=C t) :
  args.length=I.tm.length/\(AH I.hp).length=k/\(∀i n,(AH I.hp)[i]?=C n->n=Z+i)/\∃a b,Ir h1 (IH 0<|args.map .p) I.tm=C a/\Km h1 I.hp=C b/\TakeC I (a.nm++b.nm) (a.fz++b.fz) (a.sh++b.sh)/\t=⟨(a.x,b.x),EI<|a.nm++b.nm,a.fz++b.fz,Acl (IH 0<|args.map .p) I.tm⟩:=by
 unfold QL at h;have hl:∀l:List<|Nat×List aE,(AH l).length=l.length:=by intro l;induction l with|nil=>rfl|cons p t R=>simp[AH,R]
 cases e:aH args.length I.tm.length&&aH k I.hp.length&&VU Z (AH I.hp)with
 |false=>rw[e]at h;cases h
 |true=>
  rw[e]at h;simp only[b_,AQ]at e;obtain⟨e,y⟩:=e;simp only[i_]at h;split at h
  .rename_i a b z q;generalize r:(I.tm.all (λp=>p.2.fix<|AH I.hp)&&I.hp.all (λp=>p.2.all<|CSh.fix<|AH I.hp)&&
    (Io (Eu (a.nm++b.nm)++AH I.hp)&&Ws (Eu<|a.nm++b.nm)&&Io (EI (a.nm++b.nm)++AH I.hp)&&(WG (EI (a.nm++b.nm)++AH I.hp) (a.fz++b.fz)&&Adi (a.nm++b.nm) (a.sh++b.sh))))=c at h
   cases c with
   |false=>cases h
   |true=>cases h;simp only[b_]at r;obtain⟨⟨c1,E⟩,⟨⟨B,c4⟩,F⟩,L,A⟩:=r;exact⟨e.1,by rw[hl];exact e.2.symm,λi n=>Vv y i n,a,b,z,q,⟨c1,E,Ju B,Wt c4,Ju F,WH L,ZE A⟩,rfl⟩
  .cases h
def Axw(ns:List Nat)(nm:Nat)(rd:List Nat)(e:Fe G)(t:Tin<|e.I.T G):Law<|ZY ns nm rd e t:=by
 intro R k;unfold ZY;cases e.F t.x with
 |none=>rfl
 |some y=>
  show Hm e.E y (λp=>(Vp ns nm rd e t p).bind k)=(Hm e.E y (λp=>(Vp ns nm rd e t p).bind C)).bind k;rw[Oh,Oh e.E y (λp=>(Vp ns nm rd e t p).bind C)];cases Hm e.E y C with
  |none=>rfl
  |some p=>show(Vp ns nm rd e t p).bind k=((Vp ns nm rd e t p).bind C).bind k;cases Vp ns nm rd e t p<;>rfl
def Ad4{rd:List Nat}{e:Fe G}{t:Tin<|e.I.T G}(h:ZY ns nm rd e t _ C=C out):
  ∃y p s bl,e.F t.x=C y/\Hm e.E y C=C p/\KT e.I e.rs p=C (s,bl)/\At4 ns rd nm t.olds t.fz t.ft (O p.2.hp) s bl=C out:=by
 unfold ZY at h;cases q:e.F t.x with
 |none=>rw[q]at h;cases h
 |some y=>
  rw[q]at h;have h:Hm e.E y (λp=>(Vp ns nm rd e t p).bind C)=C out:=h;rw[Oh]at h;cases hp:Hm e.E y C with
  |none=>rw[hp]at h;cases h
  |some p=>
   rw[hp]at h;have h:(Vp ns nm rd e t p).bind C=C out:=h;unfold Vp at h;cases ho:KT e.I e.rs p with
   |none=>rw[ho]at h;cases h
   |some a=>rw[ho]at h;simp only[Option.bind_fun_some]at h;exact⟨y,p,a.1,a.2,rfl,hp,ho,h⟩
def Acz(ns:List Nat)(h1:Nat->Option (aB G.T))(nm:Nat)(rd:List Nat)(args:List<|Pv G.T)(g:Nat):∀l,Law<|TW ns h1 nm rd args g l
 |[]=>Ap
 |p::r=>by
  intro R k;have a:=Acz ns h1 nm rd args g r R k;simp only[TW];cases aH p.1 g with
  |false=>exact a
  |true=>
   simp only[i_];cases QL p.2.I h1 ns.length args with
   |none=>exact a
   |some t=>exact Axw ns nm rd p.2 t R k
def UU{ns:List Nat}{h1:Nat->Option (aB G.T)}{nm:Nat}{rd:List Nat}{args:List<|Pv G.T}{g:Nat}:∀{l:List<|Nat×Fe G}{out:aA G},TW ns h1 nm rd args g l _ C=C out->
  ∃p∈l,p.1=g/\∃t,QL p.2.I h1 ns.length args=C t/\ZY ns nm rd p.2 t _ C=C out
 |[],out,h=>by simp[TW,aP]at h
 |p::r,out,h=>by
  simp only[TW]at h;cases e:aH p.1 g with
  |false=>rw[e]at h;obtain⟨q,hq,a⟩:=UU (l:=r) h;exact⟨q,by simp[hq],a⟩
  |true=>
   rw[e]at h;simp only[i_]at h;split at h
   .rename_i t y;exact⟨p,σ,AQ.1 e,t,y,h⟩
   .obtain⟨q,hq,a⟩:=UU (l:=r) h;exact⟨q,by simp[hq],a⟩
def Aix{rd:List Nat}{z fz:List Nat}{E:List<|Nat×Nat}{hp:Nat->Option (aB G.T)}{s:Sv G.T}{bl:List<|List<|Cv G.T}(h:At4 ns rd nm z fz E hp s bl=C out):
  ∃q Cs s' r,UP hp q nm=C Cs/\s.ren (λn=>HT q n nm) (Bcd ns q nm)=C s'/\DT (DT<|Cv.ren (λn=>HT q n nm)<|Zr ns) bl=C r/\q.Nodup/\
   ∃e,out=⟨C s',MH (z++e)++Aau (Oe ns r++Cs),BE Cs,rd⟩/\(e=(fz.filter λn=>!Wv G E (s.cells++bl.flatten) Cs n)\/(e=[]/\(∀c∈s.cells++bl.flatten,Sr c=J)/\WX G Cs=J)\/fz=[])/\(∀n∈e,n∈fz):=by
 unfold At4 at h;simp only at h;split at h
 .rename_i Cs s' r h1 F I;generalize X:Zs (s.cells++bl.flatten) []++frs s.cells=q at h1 F I h;have A:Io q=J/\UP hp q nm=C Cs:=by
   cases L:Io q with
   |false=>rw[L]at h1;cases h1
   |true=>rw[L]at h1;exact⟨rfl,h1⟩
  refine⟨_,Cs,s',r,A.2,F,I,Ju A.1,_,(s_ h).symm,?_⟩;cases y:(Am5 fz||((s.cells++bl.flatten).all Sr&&WX G Cs))with
  |false=>exact⟨.inl rfl,λn B=>(List.mem_filter.1 B).1⟩
  |true=>
   refine⟨.inr ?_,λn B=>by simp at B⟩;simp only[O_,b_]at y;rcases y with y|⟨R,W⟩
   .exact .inr (by cases fz with|nil=>rfl|cons a t=>simp[Am5]at y)
   .exact .inl ⟨rfl,G_.1 R,W⟩
 .cases h
def Ano{m:Nat}(h:inN ns n=C m):Z<=m/\ns[m-Z]?=C n:=by
 unfold inN at h;split at h
 .rename_i i hi;cases h;obtain⟨_,a⟩:=TC ns n 0 i hi;exact⟨ω,by rw[b0_];simpa using a⟩
 .cases h
def Ajq{m:Nat}(h:Adf ns n=C m):m=n/\n<Z/\n∉ns:=by
 unfold Adf at h;cases a:(Nat.blt n Z&&!has ns n)with
 |false=>rw[a]at h;cases h
 |true=>rw[a]at h;simp only[b_,g5_,b4_]at a;cases h;exact⟨rfl,a.1,λhm=>by rw[(Hp ns n).2 hm]at a;simp at a⟩
def Ajk{m:Nat}(h:Zr ns n=C m):Z<=n/\ns[n-Z]?=C m:=by
 unfold Zr at h;cases a:aN Z n with
 |false=>rw[a]at h;cases h
 |true=>rw[a]at h;exact⟨MB.1 a,h⟩
def Qk(ns:List Nat)(ν:Nat->Option Value)(n:Nat):Option Value:=if Z<=n then match ns[n-Z]? with|some m=>ν m|none=>N else if n∈ns then N else ν n
def Ar0{m:Nat}(h:inN ns n=C m)(a:ν n=C x):Qk ns ν m=C x:=by obtain⟨h1,e⟩:=Ano h;simp only[Qk,if_pos h1,e,a]
def Aod{m:Nat}(h:Adf ns n=C m)(a:ν n=C x):Qk ns ν m=C x:=by obtain⟨rfl,q,e⟩:=Ajq h;simp only[Qk];rw[if_neg ω,if_neg e];exact a
def Su{h:Nat->Option (aB G.T)}(a:Fa ns h n≠N):
  ∃m,Qk ns ν n=ν m/\h m≠N/\((Z<=n/\ns[n-Z]?=C m)\/(n<Z/\m=n/\n∉ns)):=by
 unfold Fa at a;cases r:aN Z n with
 |true=>
  have hl:=MB.1 r;rw[r]at a;simp only[i_]at a;split at a
  .rename_i m hm;refine⟨m,by simp only[Qk,if_pos hl,hm],λe=>a (by rw[e];rfl),.inl ⟨hl,hm⟩⟩
  .exact absurd rfl a
 |false=>
  have hl:n<Z:=by
   rcases f5_ n Z with h|h
   .exact h
   .rw[MB.2 h]at r;cases r
  rw[r]at a;simp only[j_]at a;cases y:has ns n with
  |true=>rw[y]at a;exact absurd rfl a
  |false=>
   have q:n∉ns:=λhm=>by rw[(Hp ns n).2 hm]at y;cases y
   rw[y]at a;simp only[j_]at a;refine⟨n,by simp only[Qk];rw[if_neg ω,if_neg q],λe=>a (by rw[e];rfl),.inr ⟨hl,rfl,q⟩⟩
def Auc(h0:ns.Nodup){h:Nat->Option (aB G.T)}{S B:Nat->Prop}{w:World}(E:HRel G ν S B h w):HRel G (Qk ns ν) S B (Fa ns h) w:=by
 refine⟨λn k a=>?_,λn m x y b h1 h2 h3 h4 h5 h6=>?_,λn x b h1 h2 h3=>?_,E.stay,E.gl⟩
 .unfold Fa at a;cases Y:aN Z n with
  |true=>
   have hl:=MB.1 Y;rw[Y]at a;simp only[i_]at a;split at a
   .rename_i m hm;unfold Ak4 at a;split at a
    .rename_i cs h9;split at a
     .rename_i ha z;cases a;obtain⟨b,c,te,q1,F,A,q4⟩:=E.blk m _ h9;refine⟨b,c,te,by simp only[Qk,if_pos hl,hm,q1],F,Ahy (λn m x=>Aod) (λn m x=>Ar0) z A,λm1 t1 h7=>?_⟩;obtain⟨m0,r1,r2⟩:=Ar8 z h7;obtain⟨R,e2⟩:=q4 m0 t1 r1;obtain⟨i1,i2⟩:=Ano r2;rw[R,<-hm]at i2;obtain⟨L,u2⟩:=e_.1 hm;rw[hm]at i2;obtain⟨u3,I⟩:=e_.1 i2;have r:=a5_.1 h0;refine⟨?_,e2⟩;rcases bG (m1-Z) (n-Z)with q|he|q
      .exact absurd (I.trans u2.symm)<|r _ _ u3 L q
      .omega
      .exact absurd (u2.trans I.symm)<|r _ _ L u3 q
     .cases a
    .cases a
   .cases a
  |false=>
   rw[Y]at a;simp only[j_]at a;cases hc:has ns n with
   |true=>rw[hc]at a;cases a
   |false=>
    rw[hc]at a;simp only[j_]at a;have hl:n<Z:=by
     rcases f5_ n Z with h|h
     .exact h
     .rw[MB.2 h]at Y;cases Y
    have h8:n∉ns:=λhm=>by rw[(Hp ns n).2 hm]at hc;cases hc
    unfold Au5 at a;split at a
    .rename_i t l W;cases a;exact Ayt (by simp only[Qk];rw[if_neg ω,if_neg h8])<|E.blk n _ W
    .cases a
 .obtain⟨n',R,q1,F⟩:=Su (ν:=ν) h1;obtain⟨m',e2,p1,p2⟩:=Su (ν:=ν) h2;have e:=E.apart n' m' x y b q1 p1 (by rw[<-R];exact h3) (by rw[<-e2];exact h4) h5 h6;subst e;rcases F with⟨F,A⟩|⟨F,A,q4⟩<;>rcases p2 with⟨p2,X⟩|⟨p2,X,p4⟩
  .obtain⟨L,u2⟩:=e_.1 A;obtain⟨u3,I⟩:=e_.1 X;have r:=a5_.1 h0;rcases bG (n-Z) (m-Z)with q|he|q
   .exact absurd (u2.trans I.symm)<|r _ _ L u3 q
   .omega
   .exact absurd (I.trans u2.symm)<|r _ _ u3 L q
  .subst X;exact absurd (p_ A) p4
  .subst A;exact absurd (p_ X) q4
  .exact A.symm.trans X
 .obtain⟨n',R,q1,F⟩:=Su (ν:=ν) h1;exact E.own n' x b q1 (by rw[<-R];exact h2) h3
end Go.Ab
namespace Go.Ab
variable{G:aD}{P:Program}
variable{h:Nat->Option (aB G.T)}{ν:Nat->Option Value}{v:Value}{u:Nat}{c:Cv G.T}
def Bjl{s:aE}{a:Tk<|s.T G}(e:s.take h c=C a){n t:Nat}(hq:(n,t)∈ftC s c):∃l,h n=C (.row t l):=by
 unfold ftC at hq;split at hq
 .rename_i q r;simp at hq;obtain⟨rfl,rfl⟩:=hq;simp only[CSh.take]at e;split at e
  .rename_i l hl;exact⟨l,XD hl⟩
  .cases e
 .cases hq
def Bjm{h:Nat->Option (aB G.T)}:∀{s:List aE}{c:List<|Cv G.T}{a:Tk<|TL G s},IB h s c=C a->∀{n t:Nat},(n,t)∈ftL s c->∃l,h n=C (.row t l)
 |[],_,_,_,n,t,hq=>by simp[ftL]at hq
 |_::_,[],_,_,n,t,hq=>by simp[ftL]at hq
 |s::y,c::cs,a,e,n,t,hq=>by
  simp only[IB]at e;split at e
  .rename_i r z h1 q;simp only[ftL,m_]at hq;rcases hq with hq|hq
   .exact Bjl h1 hq
   .exact Bjm q hq
  .cases e
def Bsh{s:aC}{c:Pv G.T}{a:Tk<|s.T G}(e:s.take h c=C a){n t:Nat}(hq:(n,t)∈ftP s c):∃l,h n=C (.row t l):=by
 cases s<;>cases c
 .exact Bjl (show CSh.take h _ _=C _ from e) hq
 .cases hq
 .cases hq
 .exact Bjm (show IB h _ _=C _ from e) hq
def Bd6{h:Nat->Option (aB G.T)}{tm:List<|Nat×Sv G.T}:∀{s:List<|Nat×aC}{a:Tk<|TmT G s},Ir h tm s=C a->∀{n t:Nat},(n,t)∈Acl tm s->∃l,h n=C (.row t l)
 |[],_,_,n,t,hq=>by simp[Acl]at hq
 |p::r,a,e,n,t,hq=>by
  simp only[Ir]at e;simp only[Acl,m_]at hq;split at e
  .rename_i c q;split at e
   .rename_i z A h1 y;rcases hq with hq|hq
    .rw[q]at hq;exact Bsh h1 hq
    .exact Bd6 y hq
   .cases e
  .cases e
def Aud{ns:List Nat}{n t:Nat}{l:List<|G.T t}(e:Fa ns h n=C (.row t l)):h n=C (.row t l):=by
 unfold Fa at e;cases q:aN Z n with
 |true=>
  rw[q]at e;simp only[i_]at e;split at e
  .rename_i m hm;unfold Ak4 at e;split at e
   .split at e<;>cases e
   .cases e
  .cases e
 |false=>
  rw[q]at e;simp only[j_]at e;cases a:has ns n with
  |true=>rw[a]at e;cases e
  |false=>
   rw[a]at e;simp only[j_]at e;unfold Au5 at e;split at e
   .rename_i r y hh;cases e;exact hh
   .cases e
def Xr{t:Nat}:∀{l:List<|Option Nat},Afb G t l=J->∀u,C u∈l->Wu G t u=J/\G.flat u=J
 |[],_,u,h=>by cases h
 |none::r,a,u,h=>by simp at h;exact Xr (l:=r) a u h
 |some v::r,a,u,h=>by
  simp only[Afb,b_]at a;simp at h;rcases h with rfl|h
  .exact⟨a.1,a.2.1⟩
  .exact Xr (l:=r) a.2.2 u h
def Yq{t:Nat}:∀(r:List<|Nat×aB G.T) (n:Nat) (k:aB G.T),Ab1 G t r=J->O r n=C k->∃u l,k=.row u l/\UH G t u=J
 |[],n,k,_,h=>by simp[O]at h
 |(m,.cells cs)::r,n,k,h,_=>by simp[Ab1]at h
 |(m,.row u l)::r,n,k,h,hg=>by
  simp only[Ab1,b_]at h;simp only[O,Bs]at hg;by_cases e:m=n
  .rw[if_pos e]at hg;cases hg;exact⟨u,l,rfl,h.1⟩
  .rw[if_neg e]at hg;exact Yq r n k h.2 hg
def As2{a:List<|Nat×Nat}{cs:List<|Cv G.T}{Cs:List<|Nat×aB G.T}{n:Nat}(h:Wv G a cs Cs n=J):∃t,O a n=C t/\cs.all (Yr G t)=J/\Ab1 G t Cs=J:=by
 unfold Wv at h;split at h
 .rename_i t e;simp only[b_]at h;exact⟨t,e,h.1,h.2⟩
 .cases h
section
variable(ok:aO P G){S S':Nat->Prop}{h:Array Obj}{T0:Nat->Prop}(h1:∀b,S b->S' b\/∃t c fz,T0 t/\h[b]?=C (.cells c t fz))
include h1
theorem Asv(h0:¬∃t,T0 t):∀b,S b->S' b:=λb a=>(h1 b a).resolve_right λ⟨t,_,_,q,_⟩=>h0 ⟨t,q⟩
theorem Bit{te:Nat}{b:Nat}{c:Array Value}{fz:Nat×Nat}(q:h[b]?=C (.cells c te fz))(e:te=u\/G.loose u=J)(B:S b)(r:∀t,T0 t->Wu G t u=J):S' b:=by
 rcases h1 b B with h|⟨t,E,z,y,A⟩
 .exact h
 .have a:=r t y;rw[A]at q;cases q;simp only[Wu,b_,b4_]at a;rcases e with rfl|e
  .rw[AQ.2 rfl]at a;exact absurd a.1 τ
  .rw[e]at a;exact absurd a.2 τ
include ok
theorem Bf3{l:List<|G.T u}(hf:G.flat u=J)(L:∀t,T0 t->Wu G t u=J)(r:Rd G S h (.ro u l) v):Rd G S' h (.ro u l) v:=by
 cases r with
 |nil _ a y=>exact .nil _ _ _
 |ro _ _ b off y c te fz vs X I F z e R=>refine .ro u l b off y c te fz vs (Bit h1 I F X L) I F z e λi j x E W q=>?_;have B:=R i j x E W q;obtain⟨Y,rfl⟩:=ok.flatd u x E hf<|p_ q;cases B with|sc _ A=>exact .sc _ A
theorem Ayw{x:G.T u}{z:Cv G.T}(F:∀t,T0 t->UH G t u=J)(A:z∈G.enc u x)(r:Rd G S h z v):Rd G S' h z v:=by
 by_cases h0:∃t,T0 t
 .rcases ok.encd u x z A with⟨I,rfl⟩|⟨E,L,rfl⟩
  .cases r with|sc _ B=>exact .sc _ B
  .have a:∀t,T0 t->Wu G t E=J/\G.flat E=J:=λt y=>by
    have q:=F t y;simp only[UH,O_]at q;rcases q with q|q
    .obtain⟨I,e⟩:=ok.flatd u x _ q A;cases e
    .rw[ok.rod u (G.dfl u) x]at q;exact Xr q E<|b6_.2 ⟨_,A,rfl⟩
   obtain⟨t,y⟩:=h0;exact Bf3 ok h1 (a t y).2 (λt y=>(a t y).1) r
 .exact r.mono (Asv h1 h0) λ_ _=>rfl
theorem Bms{l:List<|G.T u}(E:∀t,T0 t->Wu G t u=J)(W:∀t,T0 t->UH G t u=J)(r:Rd G S h (.ro u l) v):Rd G S' h (.ro u l) v:=by
 cases r with
 |nil _ a y=>exact .nil _ _ _
 |ro _ _ b off y c te fz vs R B A z e I=>exact .ro u l b off y c te fz vs (Bit h1 B A R E) B A z e λi j x F L q=>Ayw ok h1 W (p_ q)<|I i j x F L q
theorem Auv(z:∀t,T0 t->Yr G t c=J)(r:Rc G ν S h c v):Rc G ν S' h c v:=by
 by_cases h0:∃t,T0 t
 .obtain⟨A,e⟩:=h0;cases c with
  |sc B=>have r:Rd G S h (.sc B) v:=r;cases r with|sc _ y=>exact Rd.sc _ y
  |ro u l=>
   have q:∀t,T0 t->Wu G t u=J/\UH G t u=J:=λt a=>by
    have:=z t a
    simpa only[Yr,b_]using this
   exact Bms ok h1 (λt a=>(q t a).1) (λt a=>(q t a).2) r
  |rp t x o=>have:=z A e;simp[Yr]at this
  |_=>exact r
 .exact r.mono ⟨λ_ _ h=>h,Asv h1 h0,λ_ _=>rfl⟩
theorem Beh{x:Pv G.T}(q:∀c∈x.cells,∀t,T0 t->Yr G t c=J)(r:Rp G ν S h x v):Rp G ν S' h x v:=by
 cases r with
 |one c v e=>exact .one _ _<|Auv ok h1 (q c (by simp[aY])) e
 |agg cs vs e=>exact .agg _ _ ⟨e.1,λi a b hi y=>Auv ok h1 (q a<|p_ hi)<|e.2 i a b hi y⟩
theorem Bmu{x:Sv G.T}(q:∀c∈x.cells,∀t,T0 t->Yr G t c=J)(r:Rs G ν S h x v):Rs G ν S' h x v:=by
 cases r with
 |p x v e=>exact .p _ _<|Beh ok h1 q e
 |tup xs vs e=>exact .tup _ _ ⟨e.1,λi a b hi y=>Beh ok h1 (λc hm=>q c<|c2_.2 ⟨a,p_ hi,hm⟩)<|e.2 i a b hi y⟩
end
def Bjc(ok:aO P G){l:List<|Nat×Fe G}(hT:∀p∈l,Ha P G p.1 p.2):CfOK P G<|cfP l:=by
 refine⟨λg args h nm=>Ad (Bb _) λ_=>Ad (Ay _) λ_=>Acz _ _ _ _ _ _ _,λg args h nm out hout=>?_⟩;unfold cfP at hout;generalize ul:XB args=ns at hout;obtain⟨x8,xz,h1⟩:=aK hout;obtain⟨zz,h2⟩:=aJ h1;have zp:ns.Nodup:=Ju zz;obtain⟨⟨g',e⟩,z8,hg,t,yl,yo⟩:=UU h2;simp only at hg;subst hg;obtain⟨y,p,s,bl,hF,hp,ho,za⟩:=Ad4 yo;obtain⟨ze,zv⟩:=hT _ z8;obtain⟨ue,zs,xo,a,b,zf,ug,ud,rfl⟩:=Avr yl;obtain⟨ms,Cs,s',x1,yg,uj,yz,u5,xd,rfl,zi,y9⟩:=Aix za;refine⟨ze,λν S B w x4 hr hB yt ye=>?_⟩;simp only at yt;have yf:=Auc zp hr;have zd:F2 (Rp G (Qk ns ν) S w.heap) x8 x4:=Asb (λn m x=>Aod) (λn m x=>Ar0) xz ye;have yj:∀k s,O (IH 0<|x8.map Sv.p) k=C s->Rs G (Qk ns ν) S w.heap s (x4.getD k undef):=by
  intro k s W;rw[Xe]at W;simp at W;obtain⟨x,hx,rfl⟩:=W;obtain⟨v,hv,uk⟩:=zd.get hx
  have:x4.getD k undef=v:=by simp[g_,hv]
  rw[this];exact .p _ _ uk
 obtain⟨yk,S2,y6,L,x9,y1,xl,x5,y3⟩:=Azd zf ug ud yf yj;generalize um:(a.x,b.x)=x0 at hF y6 L x9 x5;generalize uo:EI (a.nm++b.nm)=olds at x5 y3 yt;generalize uq:a.fz++b.fz=fz at xl zi y9
 let mo:Nat->Prop:=λc=>¬S2 c/\∃n z,O (e.I.mk' x0).hp n≠N/\yk n=C z/\AX z=C c
 have xj:HRel G yk S2 (λc=>mo c\/w.heap.size<=c) (O (e.I.mk' x0).hp) w:=⟨L.blk,L.apart,λn z c A E F=>⟨(L.own n z c A E F).1,.inl ⟨(L.own n z c A E F).1,n,z,A,E,F⟩⟩,L.stay,L.gl⟩
 have u0:x4.length=e.I.tm.length:=by rw[<-ue,zd.1]
 have xv:∀n,Fa ns h n≠N->∃m,Qk ns ν n=ν m/\h m≠N/\((Z<=n/\ns[n-Z]?=C m)\/(n<Z/\m=n/\n∉ns)):=λn X=>Su X;have xw:∀c,mo c->∃m z,h m≠N/\ν m=C z/\AX z=C c/\(m∈olds\/m∈ns):=by
  rintro c ⟨_,n,z,A,E,F⟩;obtain⟨m,p1,p2,p3⟩:=x5 n z c A E F;obtain⟨m',e1,e2,e3⟩:=xv m p2;refine⟨m',z,e2,by rw[<-e1];exact p1,F,?_⟩;rcases e3 with⟨u1,u2⟩|⟨u1,u2,u3⟩
  .exact .inr<|p_ u2
  .rcases p3 with p3|p3
   .exact .inl (by rw[u2];exact p3)
   .obtain⟨i,hi⟩:=c9_.1 p3
    have:=xo i m hi
    omega
 refine(zv x0 y p s bl hF hp ho yk S2 mo w x4 xj x9 u0 y6).mono λr w' ⟨v,hs,S3,zj,x7,Y,u9,xi,y0,xg,ha,zb⟩=>?_;subst zj;obtain⟨xn,z0,x3⟩:=Afn ms nm Cs yg;have xb:∀n,n∈BE Cs->ν n=N:=λn X=>yt n X
 let ν':Nat->Option Value:=λn=>if nm<=n then match ms[n-nm]? with|some m=>hs m|none=>ν n else ν n
 have hh:∀n,n∉BE Cs->ν' n=ν n:=by
  intro n X;simp only[ν'];by_cases yn:nm<=n
  .rw[if_pos yn];cases hm:ms[n-nm]? with
   |none=>rfl
   |some m=>
    have:=(e_.1 hm).1
    exact absurd ((xn n).2 ⟨yn,ω⟩) X
  .rw[if_neg yn]
 have x2:∀j m,ms[j]?=C m->ν' (nm+j)=hs m:=by intro j m hm;simp only[ν'];rw[if_pos ω,b0_,hm]
 have he:∀n z,ν n=C z->ν' n=C z:=by intro n z hz;rw[hh n λX=>by rw[xb n X]at hz;cases hz];exact hz
 have yq:∀n m z,HT ms n nm=C m->hs n=C z->ν' m=C z:=by
  intro n m z hm hz;obtain⟨A,E⟩:=TC ms n nm m hm
  have:=x2 (m-nm) n E
  rw[show nm+(m-nm)=m by omega]at this;rw[this];exact hz
 have yb:∀(i n:Nat),ns[i]?=C n->(AH e.I.hp)[i]?=C (Z+i):=by
  intro i n hi;have uh:i<(AH e.I.hp).length:=by rw[zs];exact(e_.1 hi).1
  have h9:=h_ uh;rw[h9,xo i _ h9]
 have xp:∀(i n:Nat),ns[i]?=C n->∃bb,ν n=C (.pointer<|C ⟨bb,0,N⟩)/\hs (Z+i)=C (.pointer<|C ⟨bb,0,N⟩)/\h n≠N/\O (e.I.mk' x0).hp (Z+i)≠N:=by
  intro i n hi;have W:=p_<|yb i n hi;obtain⟨k1,cs,k2⟩:=y1 _ W;obtain⟨bb,c,te,A,_,_⟩:=yf.blk _ _ k2;obtain⟨m,e1,e2,e3⟩:=xv (Z+i) (by rw[k2];simp);have hm:m=n:=by
   rcases e3 with⟨_,u2⟩|⟨u1,_⟩
   .rw[b0_,hi]at u2;exact(s_ u2).symm
   .omega
  subst hm;refine⟨bb,by rw[<-e1];exact A,y0 _ _ ω (by rw[k1];exact A),e2,?_⟩;intro uc
  have:Z+i∈BE (NG e.I.tm x0.1++(Se e.I.hp x0.2++Il e.I.hp x0.2)):=by
   have uf:∀(l:List<|Nat×List aE) (z:HpT G l),BE (Il l z)=AH l:=by
    intro l;induction l with
    |nil=>intro _;rfl
    |cons p t ih=>intro z;simp only[Il,BE,AH,ih]
   rw[He,He,uf];simp[W]
  have yc:∀(l:List<|Nat×aB G.T) (n:Nat),n∈BE l->O l n≠N:=by
   intro l;induction l with
   |nil=>intro n X;simp[BE]at X
   |cons q t ih=>
    intro n X;simp only[BE,A_]at X;simp only[O,Bs];by_cases e:q.1=n
    .rw[if_pos e];simp
    .rw[if_neg e];exact ih n<|X.resolve_left<|a7_ e
  exact yc _ _ this uc
 have z9:∀n m z,Zr ns n=C m->hs n=C z->ν' m=C z:=by intro n m z hm hz;obtain⟨A,E⟩:=Ajk hm;obtain⟨bb,u1,u2,_,_⟩:=xp _ _ E;rw[show Z+(n-Z)=n by omega,hz]at u2;cases u2;exact he _ _ u1
 have z3:VN (O p.2.hp) (AH e.I.hp)=C bl:=by
  unfold KT at ho;split at ho
  .cases ho
  .split at ho
   .rename_i s1 b1 A E;cases ho;exact E
   .cases ho
 obtain⟨z6,zg⟩:=CX _ _ z3;obtain⟨zh,z4⟩:=CX _ _ yz;have h8:∀(i n:Nat),ns[i]?=C n->∃cs h7,bl[i]?=C cs/\x1[i]?=C h7/\O p.2.hp (Z+i)=C (.cells cs)/\DT (Cv.ren (λn=>HT ms n nm)<|Zr ns) cs=C h7:=by
  intro i n hi;obtain⟨cs,A,E⟩:=zg i _<|yb i n hi;obtain⟨h7,F,q4⟩:=z4 i cs A;refine⟨cs,h7,A,F,?_,q4⟩;split at E
  .rename_i un R;cases E;exact R
  .cases E
 have xf:x1.length=ns.length:=by rw[zh,z6,zs]
 obtain⟨S',yr,zo,ys,y7,yw,yp,z7⟩:∃S':Nat->Prop,(∀c,S c->S' c)/\(∀c,S' c->S c\/B c)/\Rs G hs S' w'.heap s v/\
   (∀n k,O p.2.hp n=C k->((∃i m,ns[i]?=C m/\n=Z+i)\/n∈ms)->Rb G hs S' w'.heap n k)/\
   (∀c,S' c->S3 c)/\
   (∀n z c,h n≠N->n∉olds->n∉ns->n∉xd->ν n=C z->AX z=C c->¬S' c)/\(∀c,S' c->c<w'.heap.size):=by
  have z5:∀c,S3 c->S c\/B c:=by
   intro c R;rcases xi c R with R|⟨_,n,z,A,E,F⟩|R
   .rcases(xl c).1 R with R|⟨n,_,X,z,hz,zx⟩
    .exact .inl R
    .exact .inr (yf.own n z c X hz zx).2
   .exact .inr (L.own n z c A E F).2
   .exact .inr<|hB c R
  have xq:∀c,S c->S3 c:=λc R=>u9 c<|(xl c).2<|.inl R;have xs:∀n z c,h n≠N->n∉olds->n∉ns->n∉fz->ν n=C z->AX z=C c->¬S3 c:=by
   intro n z c A E F q4 q5 q6 R;rcases xi c R with R|R|R
   .rcases(xl c).1 R with R|⟨m,hm,u7,z',zt,zq⟩
    .exact(hr.own n z c A q5 q6).1 R
    .obtain⟨m',e1,e2,e3⟩:=xv m u7;have e:=hr.apart n m' z z' c A e2 q5 (by rw[<-e1];exact zt) q6 zq;subst e;rcases e3 with⟨u1,u2⟩|⟨u1,u2,u3⟩
     .exact F<|p_ u2
     .rw[u2]at q4;exact q4 hm
   .obtain⟨m,z',p1,p2,p3,p4⟩:=xw c R;have e:=hr.apart n m z z' c A p1 q5 p2 q6 p3;subst e;exact p4.elim E F
   .have:=hr.lt A q5 q6;omega
  rcases zi with rfl|⟨rfl,ya,yy⟩|zl
  .simp only at y9;generalize zr:Acl (IH 0<|x8.map Sv.p) e.I.tm=ft;generalize zn:s.cells++bl.flatten=cells;have u8:∀n t,O ft n=C t->∃l,h n=C (.row t l):=λn t hg=>by
    obtain⟨l,hl⟩:=Bd6 (n:=n) (t:=t) zf (by rw[zr];exact Kf hg);exact⟨l,Aud hl⟩
   let T0:Nat->Prop:=λt=>cells.all (Yr G t)=J/\Ab1 G t Cs=J
   let Kp:Nat->Prop:=λc=>∃n z,Wv G ft cells Cs n=J/\h n≠N/\n∉olds/\n∉ns/\ν n=C z/\AX z=C c
   have xy:∀b,S3 b->(S3 b/\¬Kp b)\/∃t c fz,T0 t/\w'.heap[b]?=C (.cells c t fz):=by
    intro b hb;by_cases W:Kp b
    .refine .inr ?_;obtain⟨n,z,q0,A,E,F,q5,q6⟩:=W;obtain⟨t,g1,g2,g3⟩:=As2 q0;obtain⟨l,hl⟩:=u8 n t g1;rcases hr.blk n _ hl with⟨u1,_⟩|⟨bb,y5,c,te,u1,u2,_,_,_,u6⟩
     .rw[q5]at u1;cases u1;cases q6
     .rw[q5]at u1;cases u1;cases q6;have hw:w'.heap[bb]?=w.heap[bb]?:=ha bb (hr.lt A q5 rfl) λR=>by
       obtain⟨m,z',p1,p2,p3,p4⟩:=xw bb R;have e:=hr.apart n m _ z' bb A p1 q5 p2 rfl p3;subst e;exact p4.elim E F
      exact⟨t,c,(0,0),⟨g2,g3⟩,by rw[hw,u2,u6.1]⟩
    .exact .inl ⟨hb,W⟩
   refine⟨λc=>S3 c/\¬Kp c,λc R=>⟨xq c R,λ⟨n,z,_,A,_,_,q5,q6⟩=>(hr.own n z c A q5 q6).1 R⟩,λc R=>z5 c R.1,
    Bmu ok xy (λc R t ht=>G_.1 ht.1 c (by rw[<-zn];exact m_.2<|.inl R)) x7,λn k W X=>?_,λ_ h=>h.1,λn z c A E F q4 q5 q6 ⟨z1,z2⟩=>?_,λc R=>Y.stay c R.1⟩
   .have xc:=Y.blk n k W;by_cases h0:∃t,T0 t
    .obtain⟨t0,zu⟩:=h0;rcases X with⟨i,m,hi,rfl⟩|X
     .obtain⟨cs,h7,c1,c2,c3,c4⟩:=h8 i m hi;rw[W]at c3;cases c3;obtain⟨bb,c,te,A,E,F,q4⟩:=xc;refine⟨bb,c,te,A,E,⟨F.1,λj x y hx hy=>Auv ok xy (λt ht=>G_.1 ht.1 x ?_)<|F.2 j x y hx hy⟩,q4⟩;rw[<-zn];exact m_.2<|.inr<|List.mem_flatten.2 ⟨cs,p_ c1,p_ hx⟩
     .obtain⟨j,hj⟩:=c9_.1 X;obtain⟨k0,r1,r2,_⟩:=x3 j n hj;rw[W]at r1;cases r1;obtain⟨t',l2,e1,_⟩:=Yq Cs _ _ zu.2 r2;cases e1;have yv:∀t,T0 t->UH G t t'=J:=λt ht=>by
       obtain⟨t2,l3,e2,e3⟩:=Yq Cs _ _ ht.2 r2;cases e2;exact e3
      rcases xc with⟨g1,g2⟩|⟨bb,y5,c,te,g1,g2,g3,g4,g5,g6⟩
      .exact .inl ⟨g1,g2⟩
      .refine .inr ⟨bb,y5,c,te,g1,g2,g3,g4,λi j x cv hx xe=>?_,g6⟩;obtain⟨uu,hu,yi⟩:=g5 i j x cv hx xe;exact⟨uu,hu,Ayw ok xy yv (p_ xe) yi⟩
    .exact xc.mono ⟨λ_ _ h=>h,Asv xy h0,λ_ _=>rfl⟩ λ_ _ _ _=>rfl
   .by_cases X:n∈fz
    .refine z2 ⟨n,z,?_,A,E,F,q5,q6⟩;cases hb:Wv G ft cells Cs n with
     |true=>rfl
     |false=>refine absurd (List.mem_filter.2 ⟨X,?_⟩) q4;show(!Wv G ft cells Cs n)=J;rw[hb];rfl
    .exact xs n z c A E F X q5 q6 z1
  .refine⟨S,λ_ h=>h,λ_ h=>.inl h,Asc (λc R=>ya c (by simp[R])) x7,λn k W X=>?_,xq,λn z c A _ _ _ q5 q6=>(hr.own n z c A q5 q6).1,λc R=>d4_ (hr.stay c R) xg⟩;have xc:=Y.blk n k W;rcases X with⟨i,m,hi,rfl⟩|X
   .obtain⟨cs,h7,c1,c2,c3,c4⟩:=h8 i m hi;rw[W]at c3;cases c3;obtain⟨bb,c,te,A,E,F,q4⟩:=xc;refine⟨bb,c,te,A,E,⟨F.1,λj x y hx hy=>Ahx (ya x ?_)<|F.2 j x y hx hy⟩,q4⟩;exact m_.2<|.inr<|List.mem_flatten.2 ⟨cs,p_ c1,p_ hx⟩
   .obtain⟨j,hj⟩:=c9_.1 X;obtain⟨k0,r1,r2,_⟩:=x3 j n hj;rw[W]at r1;cases r1;obtain⟨t',l2,e1,e2⟩:=Aen Cs _ _ yy r2;cases e1;rcases xc with⟨g1,g2⟩|⟨bb,y5,c,te,g1,g2,g3,g4,g5,g6⟩
    .exact .inl ⟨g1,g2⟩
    .refine .inr ⟨bb,y5,c,te,g1,g2,g3,g4,λi j x cv hx xe=>?_,g6⟩;obtain⟨uu,hu,yi⟩:=g5 i j x cv hx xe;refine⟨uu,hu,?_⟩;obtain⟨v0,rfl⟩:=ok.flatd _ x cv e2<|p_ xe;cases yi with
     |sc _ zw=>exact .sc _ zw
  .subst zl;exact⟨S3,xq,z5,x7,λn k W _=>Y.blk n k W,λ_ h=>h,λn z c A E F _ q5 q6=>xs n z c A E F σ q5 q6,Y.stay⟩
 have yd:∀n∈ns,n∉BE Cs:=by intro n X W;obtain⟨i,hi⟩:=c9_.1 X;obtain⟨bb,u1,_⟩:=xp i n hi;rw[xb n W]at u1;cases u1
 have y2:(BE<|Oe ns x1++Cs).Nodup:=by rw[He,Za ns x1 xf,List.nodup_append];exact⟨zp,z0,λx hx y hy e=>yd x hx<|e▸hy⟩
 let y4:Nat->Option (aB G.T):=BB h<|MH (olds++xd)++Aau (Oe ns x1++Cs)
 have hD:∀n,y4 n=match O (Oe ns x1++Cs) n with|some k=>C k|none=>if n∈olds++xd then N else h n:=by
  intro n;simp only[y4];rw[Abc,Ah9 _ _ _ y2,Of]
  try(cases O (Oe ns x1++Cs) n<;>rfl)
 have xr:∀n k,y4 n=C k->(∃i cs h7,ns[i]?=C n/\k=.cells h7/\O p.2.hp (Z+i)=C (.cells cs)/\DT (Cv.ren (λn=>HT ms n nm)<|Zr ns) cs=C h7/\ν' n=hs (Z+i))\/
   (∃j m,n=nm+j/\ms[j]?=C m/\okK m k/\O p.2.hp m=C k/\ν' n=hs m)\/(h n=C k/\n∉olds/\n∉xd/\n∉ns/\ν' n=ν n):=by
  intro n k W;rw[hD n,Aeu]at W;cases hz:O (Oe ns x1) n with
  |some k1=>rw[hz]at W;cases W;obtain⟨i,c,A,E,rfl⟩:=Ann _ _ _ _ hz;obtain⟨cs,h7,c1,c2,c3,c4⟩:=h8 i n A;rw[E]at c2;cases c2;obtain⟨bb,u1,u2,_⟩:=xp i n A;exact .inl ⟨i,cs,c,A,rfl,c3,c4,by rw[he _ _ u1,u2]⟩
  |none=>
   rw[hz]at W;have ub:n∉ns:=by
    intro X;have h9:n∈BE (Oe ns x1):=by rw[Za ns x1 xf];exact X
    have yc:∀(l:List<|Nat×aB G.T) (n:Nat),n∈BE l->O l n≠N:=by
     intro l;induction l with
     |nil=>intro n X;simp[BE]at X
     |cons q t ih=>
      intro n X;simp only[BE,A_]at X;simp only[O,Bs];by_cases e:q.1=n
      .rw[if_pos e];simp
      .rw[if_neg e];exact ih n<|X.resolve_left<|a7_ e
    exact yc _ _ h9 hz
   cases xm:O Cs n with
   |some k1=>
    rw[xm]at W;simp only at W;cases W;have hm:=UE<|Kf xm;obtain⟨b1,b2⟩:=(xn n).1 hm;have hj:n-nm<ms.length:=ω;have yu:=h_ hj;obtain⟨k0,r1,r2,r3⟩:=x3 (n-nm) _ yu;rw[show nm+(n-nm)=n by omega,xm]at r2;cases r2;refine .inr<|.inl ⟨n-nm,_,ω,yu,r3,r1,?_⟩
    have:=x2 (n-nm) _ yu
    rw[show nm+(n-nm)=n by omega]at this;exact this
   |none=>
    rw[xm]at W;simp only at W;by_cases ho:n∈olds++xd
    .rw[if_pos ho]at W;cases W
    .rw[if_neg ho]at W;have ui:n∉BE Cs:=by
      intro hm;obtain⟨b1,b2⟩:=(xn n).1 hm;have hj:n-nm<ms.length:=ω;obtain⟨_,r1,r2,_⟩:=x3 (n-nm) _<|h_ hj;rw[show nm+(n-nm)=n by omega,xm]at r2;cases r2
     simp only[m_,not_or]at ho;exact .inr<|.inr ⟨W,ho.1,ho.2,ub,hh n ui⟩
 have xx:∀n z c,h n≠N->n∉olds->n∉ns->ν n=C z->AX z=C c->w'.heap[c]?=w.heap[c]?:=by intro n z c A E F q5 q6;refine ha c (hr.lt A q5 q6) λR=>?_;obtain⟨m,z',p1,p2,p3,p4⟩:=xw c R;have e:=hr.apart n m z z' c A p1 q5 p2 q6 p3;subst e;exact p4.elim E F
 have xa:∀c,S c->w'.heap[c]?=w.heap[c]?:=by intro c R;refine ha c (hr.stay c R) λhm=>hm.1<|(xl c).2<|.inl R
 have zy:Le ν ν' S S' w.heap w'.heap:=⟨he,yr,xa⟩
 have x6:∀q z c,O p.2.hp q≠N->hs q=C z->AX z=C c->¬S' c/\B c/\∀n z',h n≠N->n∉olds->n∉ns->ν n=C z'->AX z'≠C c:=by
  intro q z c A E F;obtain⟨o1,o2⟩:=Y.own q z c A E F;refine⟨λR=>o1<|yw c R,?_,λn z' r1 r2 r3 r4 r5=>?_⟩
  .rcases o2 with⟨_,n,z',u1,u2,u3⟩|o2
   .exact(L.own n z' c u1 u2 u3).2
   .exact hB c o2
  .rcases o2 with o2|o2
   .obtain⟨m,z2,p1,p2,p3,p4⟩:=xw c o2;have e:=hr.apart n m z' z2 c r1 p1 r4 p2 r5 p3;subst e;exact p4.elim r2 r3
   .have:=hr.lt r1 r4 r5;omega
 have xk:∀n,y4 n≠N->(∃q,ν' n=hs q/\O p.2.hp q≠N/\((∃i,ns[i]?=C n/\q=Z+i)\/(∃j,n=nm+j/\ms[j]?=C q)))\/(h n≠N/\n∉olds/\n∉xd/\n∉ns/\ν' n=ν n):=by
  intro n X;obtain⟨k,W⟩:=Option.ne_none_iff_exists'.1 X;rcases xr n k W with⟨i,cs,h7,A,E,F,q4,q5⟩|⟨j,m,A,E,F,q4,q5⟩|⟨A,E,F,q4,q5⟩
  .exact .inl ⟨Z+i,q5,by rw[F];simp,.inl ⟨i,A,rfl⟩⟩
  .exact .inl ⟨m,q5,by rw[q4];simp,.inr ⟨j,A,E⟩⟩
  .exact .inr ⟨by rw[A];simp,E,F,q4,q5⟩
 refine⟨v,ν',S',rfl,he,λn X=>?_,yr,zo,⟨λn k W=>?_,λn m z z' c h1 h2 h3 h4 h5 h6=>?_,λn z c h1 h2 h3=>?_,z7,hr.gl.mono yr xa⟩,λs0 ua=>?_,xg,λc R zm=>?_,zb⟩
 .by_cases W:n∈BE Cs
  .exact .inr W
  .rw[hh n W]at X;exact .inl X
 .rcases xr n k W with⟨i,cs,h7,A,rfl,F,q4,q5⟩|⟨j,m,A,E,F,q4,q5⟩|⟨A,E,F,q4,q5⟩
  .obtain⟨bb,c,te,r1,r2,r3,r4⟩:=y7 _ _ F<|.inl ⟨i,n,A,rfl⟩;refine⟨bb,c,te,by rw[q5];exact r1,r2,Ahy yq z9 q4 r3,λm t hm=>?_⟩;obtain⟨m0,u1,u2⟩:=Ar8 q4 hm;obtain⟨e1,e2⟩:=r4 m0 t u1;obtain⟨_,o2⟩:=Ajk u2;rw[e1,b0_,A]at o2;exact⟨(s_ o2).symm,e2⟩
  .exact Bf2 F q5<|y7 _ _ q4<|.inr<|p_ E
  .exact(hr.blk n k A).mono zy λz c hz R=>xx n z c (by rw[A];simp) E q4 hz R
 .rcases xk n h1 with⟨q,A,E,F⟩|⟨A,E,F,q4,q5⟩<;>rcases xk m h2 with⟨r,r1,r2,r3⟩|⟨r1,r2,r3,r4,r5⟩
  .have e:=Y.apart q r z z' c E r2 (by rw[<-A];exact h3) (by rw[<-r1];exact h4) h5 h6;subst e;have y8:∀(j:Nat) (x:Nat),ms[j]?=C x->∀(i k:Nat),ns[i]?=C k->x≠Z+i:=by
    intro j x hj i k hi e;obtain⟨k0,u1,_,u2⟩:=x3 j x hj;obtain⟨cs,h7,_,_,c3,_⟩:=h8 i k hi;rw[e,c3]at u1;cases u1;rw[e]at u2;exact absurd u2.1 ω
   rcases F with⟨i,F,q4⟩|⟨j,F,q4⟩<;>rcases r3 with⟨i',r3,r4⟩|⟨j',r3,r4⟩
   .have:i=i':=ω
    subst this;rw[F]at r3;exact s_ r3
   .exact absurd q4<|y8 j' q r4 i n F
   .exact absurd r4<|y8 j q q4 i' m r3
   .obtain⟨u1,u2⟩:=e_.1 q4;obtain⟨u3,u4⟩:=e_.1 r4;have yx:=a5_.1 u5;rcases bG j j' with ym|rfl|ym
    .exact absurd (u2.trans u4.symm)<|yx _ _ u1 u3 ym
    .omega
    .exact absurd (u4.trans u2.symm)<|yx _ _ u3 u1 ym
  .exact absurd h6<|(x6 q z c E (by rw[<-A];exact h3) h5).2.2 m z' r1 r2 r4 (by rw[<-r5];exact h4)
  .exact absurd h5<|(x6 r z' c r2 (by rw[<-r1];exact h4) h6).2.2 n z A E q4 (by rw[<-q5];exact h3)
  .exact hr.apart n m z z' c A r1 (by rw[<-q5];exact h3) (by rw[<-r5];exact h4) h5 h6
 .rcases xk n h1 with⟨q,A,E,F⟩|⟨A,E,F,q4,q5⟩
  .obtain⟨u1,u2,_⟩:=x6 q z c E (by rw[<-A];exact h2) h3;exact⟨u1,u2⟩
  .rw[q5]at h2;exact⟨yp n z c A E q4 F h2 h3,(hr.own n z c A h2 h3).2⟩
 .cases ua;refine Bks yq (λn m z hm hz=>?_) uj ys;unfold Bcd at hm;cases hb:aN Z n with
  |true=>rw[hb]at hm;exact z9 n m z hm hz
  |false=>rw[hb]at hm;exact yq n m z hm hz
 .refine ha c R λhm=>?_;obtain⟨m,z,p1,p2,p3,_⟩:=xw c hm;exact zm m z p1 p2 p3
end Go.Ab
namespace Go.Ab
variable{G:aD}
variable{x:Operand}{h:Nat->Option (aB G.T)}{c:Cv G.T}{nm n:Nat}
section
variable{ev ev':Operand->Option (Sv G.T)}
def Ks(h:ev' x=ev x):evP ev' x=evP ev x:=by unfold evP;rw[h]
def Eb(h:ev' x=ev x):evC ev' x=evC ev x:=by unfold evC;rw[h]
def EA(h:ev' x=ev x):evI ev' x=evI ev x:=by unfold evI;rw[h]
def Axe(h:ev' x=ev x):evB ev' x=evB ev x:=by unfold evB;rw[h]
def Qx(h:ev' x=ev x):Qw ev' x=Qw ev x:=by unfold Qw;rw[h]
def So:∀(xs:List Operand),(∀x∈xs,ev' x=ev x)->Tw ev' xs=Tw ev xs
 |[],_=>rfl
 |x::t,h=>by unfold Tw;rw[Ks<|h x σ,So t λy a=>h y (by simp[a])]
def RJ:∀(xs:List<|Nat×Operand),(∀x∈xs.map (·.2),ev' x=ev x)->IS ev' xs=IS ev xs
 |[],_=>rfl
 |(i,x)::t,h=>by unfold IS;rw[Ks<|h x σ,RJ t λy a=>h y (by simp only[aX,A_];exact .inr a)]
def XP{d m:Nat}{x:Option Operand}(h:∀y,x=C y->ev' y=ev y):GJ ev' d m x=GJ ev d m x:=by
 cases x with
 |none=>rfl
 |some y=>simp only[GJ];rw[EA<|h y rfl]
def Aj9(b:Builtin)(tys:List Nat)(xs:List Operand)(a:∀x∈xs,ev' x=ev x):AP ev' h nm b tys xs=AP ev h nm b tys xs:=by
 unfold AP;split
 .unfold Vg;split
  .rw[Eb<|a _ σ]
  .rfl
  .rw[Eb<|a _ σ]
  .rfl
 .unfold As1;rw[EA<|a _ σ,EA<|a _ σ]
 .unfold As0;rw[EA<|a _ σ,EA<|a _ σ]
 .unfold Ak2;rw[EA<|a _ σ,EA<|a _ σ,EA<|a _ σ]
 .unfold Ak1;rw[EA<|a _ σ,EA<|a _ σ,EA<|a _ σ]
 .unfold Lq;split
  .rw[Eb<|a _ σ,Eb<|a _ σ]
  .rfl
 .unfold Qy;split
  .rw[Eb<|a _ σ,Eb<|a _ σ]
  .rfl
 .rfl
def Bet{cf:Dc G}(op:Op)(q:∀x∈op.operands.toList,ev' x=ev x):act cf ev' h nm op=act cf ev h nm op:=by
 cases op
 case makeFunc fn a b=>
  cases fn
  case func f=>show Uf ev' f a.toList b.toList=Uf ev f a.toList b.toList;unfold Uf;rw[So _ λx h=>q x (by simp[Op.operands];left;simpa using h),So _ λx h=>q x (by simp[Op.operands];right;simpa using h)]
  all_goals rfl
 case call c=>
  obtain⟨callee,xs,tys⟩:=c;cases callee
  case value f=>show OP cf ev' h nm f xs.toList=OP cf ev h nm f xs.toList;unfold OP;rw[Eb<|q f (by simp[Op.operands,Call.operands]),So _ λx h=>q x (by simp[Op.operands,Call.operands];right;simpa using h)]
  case builtin b=>exact Aj9 b _ _ λx h=>q x (by simp[Op.operands,Call.operands];simpa using h)
  case invoke=>rfl
 case move x=>exact Qx<|q x (by simp[Op.operands])
 case assign x=>exact Qx<|q x (by simp[Op.operands])
 case pick c a b=>
  show Ug ev' c a b=Ug ev c a b;unfold Ug;rw[Axe<|q c (by simp[Op.operands])];congr 1;funext c1;congr 1;funext c2;cases c2
  .exact Qx<|q b (by simp[Op.operands])
  .exact Qx<|q a (by simp[Op.operands])
 case alloc t=>rfl
 case box t x=>show Ym ev' nm x=Ym ev nm x;unfold Ym;rw[Ks<|q x (by simp[Op.operands])]
 case build t ps=>show QT ev' t ps.toList=QT ev t ps.toList;unfold QT;rw[RJ _ λx h=>q x (by simpa[Op.operands]using h)]
 case buildSlice t n ps=>show EY ev' h nm t n ps.toList=EY ev h nm t n ps.toList;unfold EY;rw[RJ _ λx h=>q x (by simpa[Op.operands]using h)]
 case load t x=>show OR ev' h t x=OR ev h t x;unfold OR;rw[Eb<|q x (by simp[Op.operands])]
 case store t x y=>show Md ev' h t x y=Md ev h t x y;unfold Md;rw[Eb<|q x (by simp[Op.operands]),Ks<|q y (by simp[Op.operands])]
 case nilCheck x=>show Yn ev' x=Yn ev x;unfold Yn;rw[Eb<|q x (by simp[Op.operands])]
 case binOp op t x y u=>show Yl ev' op t x y=Yl ev op t x y;unfold Yl;rw[Ks<|q x (by simp[Op.operands]),Ks<|q y (by simp[Op.operands])]
 case unOp op t x=>show aUn ev' op x=aUn ev op x;unfold aUn;rw[Eb<|q x (by simp[Op.operands])]
 case convert s t x=>show OQ ev' h s t x=OQ ev h s t x;unfold OQ;rw[Eb<|q x (by simp[Op.operands])]
 case makeSlice t x y=>show Jk ev' nm t x y=Jk ev nm t x y;unfold Jk;rw[EA<|q x (by simp[Op.operands]),EA<|q y (by simp[Op.operands])]
 case slice t x Z hi mx=>
  show QW ev' t x Z hi mx=QW ev t x Z hi mx;unfold QW;have r:∀d m,GJ ev' d m Z=GJ ev d m Z:=λd m=>XP λy A=>q y (by subst A;simp[Op.operands]);have z:∀d m,GJ ev' d m hi=GJ ev d m hi:=λd m=>XP λy A=>q y (by subst A;simp[Op.operands]);have E:∀c,Wg ev' c Z hi=Wg ev c Z hi:=by intro c;unfold Wg;simp only[r,z]
  have B:∀c e,Wf ev' c e Z hi=Wf ev c e Z hi:=by intro c e;unfold Wf;simp only[r,z]
  rw[Eb<|q x (by simp[Op.operands])];simp only[E,B]
 case fieldAddr t x f=>show Jj ev' t x f=Jj ev t x f;unfold Jj;rw[Eb<|q x (by simp[Op.operands])]
 case field t x f=>show QU ev' t x f=QU ev t x f;unfold QU;rw[Ks<|q x (by simp[Op.operands])]
 case indexAddr t x i=>show FQ ev' h t x i=FQ ev h t x i;unfold FQ;rw[Eb<|q x (by simp[Op.operands]),EA<|q i (by simp[Op.operands])]
 case index t x i=>show QV ev' t x i=QV ev t x i;unfold QV;rw[Eb<|q x (by simp[Op.operands]),Ks<|q x (by simp[Op.operands]),EA<|q i (by simp[Op.operands])]
 case extract x i=>show Mc ev' x i=Mc ev x i;unfold Mc;rw[q x (by simp[Op.operands])]
 all_goals rfl
end
section
variable{ev:Operand->Option (Sv G.T)}{h h':Nat->Option (aB G.T)}{nm:Nat}
def An6(hh:∀m∈c.rds,h' m=h m):Im h' n c=Im h n c:=by
 cases c with
 |ptr b o=>simp only[Im];rw[hh b (by simp[aL])]
 |pd b o s l i=>simp only[Im];rw[hh b (by simp[aL])]
 |pr b t i o=>simp only[Im];rw[hh b (by simp[aL])]
 |_=>rfl
def Aoo{new:List<|Cv G.T}(hh:∀m∈c.rds,h' m=h m):Kh h' new c=Kh h new c:=by
 cases c with
 |ptr b o=>simp only[Kh];rw[hh b (by simp[aL])]
 |pd b o s l i=>simp only[Kh];rw[hh b (by simp[aL])]
 |pr b t i o=>simp only[Kh];rw[hh b (by simp[aL])]
 |_=>rfl
def Rl{e:Nat}(hh:∀m∈c.rds,h' m=h m):Ix h' e c=Ix h e c:=by
 cases c with
 |own b=>simp only[Ix];rw[hh b (by simp[aL])]
 |sc v=>unfold Ix;split<;>first|rfl|contradiction
 |_=>rfl
def Ax6(hh:∀m∈c.rds,h' m=h m):UC h' n c=UC h n c:=by
 unfold UC;rw[An6 hh];cases c with
 |pd b o s l i=>
  have e:(λq=>Im h' n<|.ptr b<|o+q*s)=λq=>Im h n<|.ptr b<|o+q*s:=funext λq=>An6 λm hm=>hh m (by simpa[aL]using hm);have a:Aad h' (.pd b o s l i)=Aad h (.pd b o s l i):=by simp only[Aad];rw[hh b (by simp[aL])]
  simp only[e,a]
 |_=>rfl
def Adq(cf:Dc G):Prop:=∀g args h h' nm out,cf g args h nm (aA G) C=C out->(∀n∈out.rd,h' n=h n)->cf g args h' nm (aA G) C=C out
def Bes{cf:Dc G}(hl:Adq cf){op:Op}{out:aA G}(A:act cf ev h nm op (aA G) C=C out)(hh:∀n∈out.rd,h' n=h n):act cf ev h' nm op (aA G) C=C out:=by
 cases op
 case load t x=>have A:OR ev h t x (aA G) C=C out:=A;show OR ev h' t x (aA G) C=C out;unfold OR at A|-;obtain⟨c,L,h1⟩:=bindC A;have hv:=h1;obtain⟨_,cs,_,_,B⟩:=Ae6 h1;obtain⟨y,hy,I⟩:=aK B;simp[aG]at I;subst I;have e:=Ax6 (n:=G.sz t) hh;simp only[aI,evC,L,aQ,e];exact hv
 case convert s t x=>
  have A:OQ ev h s t x (aA G) C=C out:=A;show OQ ev h' s t x (aA G) C=C out;unfold OQ at A|-;obtain⟨Y,h0⟩:=aJ A;obtain⟨c,L,h1⟩:=bindC h0;simp only[aI,aR,Y,i_,evC,L];cases h9:G.ty s with
  |sl e=>
   rw[h9]at h1;simp only at h1|-;cases he:Aez (G.ty t)with
   |false=>rw[he]at h1;exact h1
   |true=>rw[he,i_]at h1;obtain⟨hg,B⟩:=aJ h1;obtain⟨l,E,I⟩:=aK B;simp[aG]at I;subst I;simp only[i_,aI,aR,hg,aQ,Rl (e:=e) hh,E,aG]
  |_=>rw[h9]at h1;exact h1
 case buildSlice t n ps=>
  have A:EY ev h nm t n ps.toList (aA G) C=C out:=A;show EY ev h' nm t n ps.toList (aA G) C=C out;unfold EY at A|-;cases ht:G.ty t<;>simp only[ht]at A|- <;>try exact A
  obtain⟨ys,h1,B⟩:=(Nl (ev:=ev) ps.toList).spec<|aT A;obtain⟨Y,I⟩:=aJ B;obtain⟨cs,hs,X⟩:=aK I;show(IS ev ps.toList) _ _=_;rw[Nl ps.toList,h1];simp only[d_,aI,aR,Y,i_,aQ,hs];rename_i e;unfold We at X|-;cases hk:YX (G.ty e)with
  |true=>rw[hk]at X;exact X
  |false=>rw[hk]at X;obtain⟨q,hq,h5⟩:=aK X;obtain⟨l,E,h6⟩:=aK h5;simp[aG]at h6;subst h6;have e1:=Ack hq hh;simp only[aI,aQ,e1,E,aG]
 case store t x y=>
  have A:Md ev h t x y (aA G) C=C out:=A;show Md ev h' t x y (aA G) C=C out;unfold Md at A|-;obtain⟨c,L,h1⟩:=bindC A;obtain⟨u,hu,B⟩:=Sc h1;obtain⟨Y,I⟩:=aJ B;simp only[aI,evC,L,evP,hu,aR,Y,i_];have h8:Ru h c u.cells (aA G) C=C out->Ru h' c u.cells (aA G) C=C out:=λI=>by unfold Ru at I|-;obtain⟨r,hr,X⟩:=aK I;simp[aG]at X;subst X;have e:=Aoo (new:=u.cells) hh;simp only[aI,aQ,e,hr,aG]
  cases c with
  |pr b tt i off=>unfold ZJ at I|-;obtain⟨q,hq,X⟩:=aK I;obtain⟨hb,h5⟩:=aJ X;obtain⟨r,hr,h6⟩:=aK h5;simp[aG]at h6;subst h6;have e1:=Ack hq λn hm=>hh n (by simp[hm]);have e2:=Aoo (h:=h) (h':=h') (new:=q.1) (c:=.pr b tt i off) λn hm=>hh n (by simp[aL]at hm;simp[hm]);simp only[aI,aQ,aR,e1,hb,i_,e2,hr,aG]
  |_=>exact h8 I
 case indexAddr t x i=>
  have A:FQ ev h t x i (aA G) C=C out:=A;show FQ ev h' t x i (aA G) C=C out;unfold FQ at A|-;cases ht:G.ty t<;>simp only[ht]at A|- <;>try exact A
  rename_i e;obtain⟨c,L,h1⟩:=bindC A;obtain⟨d,n,hi,B⟩:=Ae h1;have g:ixS h' e c n (aA G) C=C out:=by
   unfold ixS at B|-;cases c with
   |own b=>
    simp only at B|-;cases hb:h b with
    |none=>rw[hb]at B;simp[aP]at B
    |some k=>
     rw[hb]at B;cases k with
     |cells cs=>simp[aP]at B
     |row u l=>have hw:=B;simp only at B;obtain⟨Y,I⟩:=aJ B;obtain⟨hj,X⟩:=aJ I;simp[aG]at X;subst X;rw[hh b σ,hb];exact hw
   |_=>exact B
  simp only[aI,evC,L,evI,hi];exact g
 case call cl=>
  obtain⟨callee,xs,tys⟩:=cl;cases callee
  case value f=>
   have A:OP cf ev h nm f xs.toList (aA G) C=C out:=A;show OP cf ev h' nm f xs.toList (aA G) C=C out;unfold OP at A|-;obtain⟨c,L,h1⟩:=bindC A;obtain⟨as,B,has⟩:=(Qi (ev:=ev) xs.toList).spec<|aT h1;have g:Wz cf h' nm c as (aA G) C=C out:=by
    unfold Wz at has|-;cases c with
    |clo g fst hx=>
     simp only at has|-;generalize G.ext g=m at has|-
     match m,has with
     |0,has=>exact hl _ _ _ _ _ _ has hh
     |1,has=>exact has
     |m+2,has=>exact has
    |_=>exact has
   simp only[aI,evC,L];rw[Qi xs.toList,B];exact g
  case builtin b=>
   have A:AP ev h nm b tys.toList xs.toList (aA G) C=C out:=A;show AP ev h' nm b tys.toList xs.toList (aA G) C=C out;rcases XO A with⟨rfl,t,ts,x,h1,B⟩|⟨rfl,x,y,h1⟩|⟨rfl,x,y,h1⟩|⟨rfl,t,x,y,h1,B⟩|⟨rfl,x,y,z,h1⟩|⟨rfl,x,y,z,h1⟩|⟨rfl,t,x,y,h1,B⟩
   .rw[h1,B]at A|-;have A:Vg ev h t x (aA G) C=C out:=A;show Vg ev h' t x (aA G) C=C out;unfold Vg at A|-;cases ht:G.ty t<;>simp only[ht]at A|- <;>try exact A
    rename_i e;obtain⟨c,L,g1⟩:=bindC A;simp only[aI,evC,L];unfold An2 at g1|-;have h8:aI (aQ<|Ix h e c) (λl=>aG (⟨C<|.p<|.one<|.sc<|.int .i64 (l.length:Int),[],[],c.rds⟩:aA G)) (aA G) C=C out->aI (aQ<|Ix h' e c) (λl=>aG (⟨C<|.p<|.one<|.sc<|.int .i64 (l.length:Int),[],[],c.rds⟩:aA G)) (aA G) C=C out:=λg1=>by obtain⟨l,E,g2⟩:=aK g1;simp[aG]at g2;subst g2;have e1:=Rl (e:=e) hh;simp only[aI,aQ,e1,E,aG]
    cases c with
    |sa _ _ _=>exact g1
    |_=>exact h8 g1
   .rw[h1]at A|-;exact A
   .rw[h1]at A|-;exact A
   .rw[h1,B]at A|-;have A:Lq ev h nm t t x y (aA G) C=C out:=A;show Lq ev h' nm t t x y (aA G) C=C out;unfold Lq at A|-;cases ht:G.ty t<;>simp only[ht]at A|- <;>try exact A
    rename_i e;obtain⟨Y,g1⟩:=aJ A;obtain⟨c,L,g2⟩:=bindC g1;obtain⟨c',h7,g3⟩:=bindC g2;obtain⟨l,E,F⟩:=aK g3;obtain⟨l',hp,g5⟩:=aK F;obtain⟨hj,g6⟩:=aJ g5;have W:(∀m∈c.rds,m∈out.rd)/\∀m∈c'.rds,m∈out.rd:=by
     unfold Asw at g6;cases c with
     |sc v=>simp[aG]at g6;subst g6;exact⟨by simp[aL],λm h=>h⟩
     |own n=>simp only at g6;obtain⟨_,R⟩:=aJ g6;simp[aG]at R;subst R;exact⟨by simp[aL],λm h=>by simp[h]⟩
     |_=>simp[aP]at g6
    have e1:=Rl (e:=e) (c:=c) λm hm=>hh m<|W.1 m hm;have e2:=Rl (e:=e) (c:=c') λm hm=>hh m<|W.2 m hm;simp only[aI,aR,Y,i_,evC,L,h7,aQ,e1,e2,E,hp,hj];exact g6
   .rw[h1]at A|-;exact A
   .rw[h1]at A|-;exact A
   .rw[h1,B]at A|-;have A:Qy ev h t t x y (aA G) C=C out:=A;show Qy ev h' t t x y (aA G) C=C out;unfold Qy at A|-;cases ht:G.ty t<;>simp only[ht]at A|- <;>try exact A
    rename_i e;obtain⟨Y,g1⟩:=aJ A;obtain⟨c,L,g2⟩:=bindC g1;obtain⟨c',h7,g3⟩:=bindC g2;obtain⟨l',E,F⟩:=aK g3;have W:(∀m∈c.rds,m∈out.rd)/\∀m∈c'.rds,m∈out.rd:=by
     unfold Aaf at F;cases c with
     |own n=>
      simp only at F;cases hm:h n with
      |none=>simp[hm,aP]at F
      |some k=>
       cases k with
       |cells _=>simp[hm,aP]at F
       |row u l=>simp only[hm]at F;obtain⟨_,R⟩:=aJ F;obtain⟨_,_,R⟩:=aK R;simp[aG]at R;subst R;exact⟨by simp[aL],λm h=>by simp[h]⟩
     |sa n off len=>
      simp only at F;cases hm:h n with
      |none=>simp[hm,aP]at F
      |some k=>
       cases k with
       |row _ _=>simp[hm,aP]at F
       |cells cs=>simp only[hm]at F;obtain⟨_,R⟩:=aJ F;obtain⟨_,_,R⟩:=aK R;obtain⟨_,R⟩:=aJ R;simp[aG]at R;subst R;exact⟨by simp[aL],λm h=>by simp[h]⟩
     |_=>simp[aP]at F
    have e2:=Rl (e:=e) (c:=c') λm hm=>hh m<|W.2 m hm;simp only[aI,aR,Y,i_,evC,L,h7,aQ,e2,E];unfold Aaf at F|-;cases c with
    |own n=>simp only[hh n<|W.1 n (by simp[aL])];exact F
    |sa n off len=>simp only[hh n<|W.1 n (by simp[aL])];exact F
    |_=>exact F
  case invoke=>exact A
 case makeFunc fn a b=>cases fn<;>exact A
 all_goals exact A
end
end Go.Ab
namespace Go.Ab
variable{G:aD}
variable{s:V G}{d:Option Nat}{o:aA G}
section
variable(cf:Dc G)(nt:Nat)
def All(ops:Array Oper)(o:Oper)(st:V G):M<|aA G×V G:=
 aI (aR<|NM nt o.dst) λ_=>aI (SJ ops st.tm o) λg=>
  match g.1 with
  |true=>aI (act cf (Pa st.tm) (O st.hp) (Ala 0 o.dst) o.op) λout=>aI (aR<|JG st.us out.nw) λ_=>aG (out,(st.note g.2).next o.dst out)
  |false=>aG (⟨C<|.tup [],[],[],[]⟩,(st.note g.2).next o.dst ⟨C<|.tup [],[],[],[]⟩)
def Ah2(ops:Array Oper):List Oper->V G->M (List (aA G)×V G)
 |[],st=>aG ([],st)
 |o::t,st=>aI (All cf nt ops o st) λp=>aI (Ah2 ops t p.2) λq=>aG (p.1::q.1,q.2)
end
def Pl(a:List Nat):List Edge->Nat
 |[]=>0
 |e::t=>bif Region.binds .any e then Nat.lor (Nat.lor (2^e.on)<|a.getD e.on 0) (Pl a t)else Pl a t
def Aah(n:Nat):List Edge->Bool
 |[]=>J
 |e::t=>(!Region.binds .any e||Nat.blt e.on n)&&Aah n t
def KQ:List Oper->List Nat->List Nat
 |[],a=>a
 |o::t,a=>KQ t<|a++[Pl a o.after.toList]
def PX:Nat->List Oper->Bool
 |_,[]=>J
 |n,o::t=>Aah n o.after.toList&&PX (n+1) t
def pairs{α:Type}(f:α->α->Bool)(a:List Nat)(l:List α):Bool:=go 0 l
where
 one (x:α) (i j:Nat):List α->Bool
  |[]=>J
  |y::t=>(f x y||Nat.testBit (a.getD j 0) i)&&one x i (j+1) t
 go (i:Nat):List α->Bool
  |[]=>J
  |x::t=>one x i (i+1) t&&go (i+1) t
def DD:List (Nat×Option (aB G.T))->List Nat
 |[]=>[]
 |(n,_)::t=>n::DD t
def disj:List Nat->List Nat->Bool
 |[],_=>J
 |n::t,l=>!has l n&&disj t l
def Awo(x y:aA G):Bool:=disj (DD x.d) y.rd&&disj (DD x.d) (DD y.d)&&disj (DD y.d) x.rd
def VQ(cf:Dc G)(nt:Nat)(ops:Array Oper)(st:V G):M<|V G:=
 aI (aR<|PX 0 ops.toList&&pairs (λx y=>Oper.apart ops x y) (KQ ops.toList []) ops.toList) λ_=>
 aI (Ah2 cf nt ops ops.toList st) λp=>
 aI (aR<|pairs Awo (KQ ops.toList []) p.1) λ_=>aG p.2
def Xx{α:Type}{f:α->α->Bool}{a:List Nat}{l:List α}(h:pairs f a l=J):∀i j x y,i<j->l[i]?=C x->l[j]?=C y->f x y=J\/(a.getD j 0).testBit i=J:=by
 have one:∀(l:List α) (x:α) (i j:Nat),pairs.one f a x i j l=J->∀k y,l[k]?=C y->f x y=J\/(a.getD (j+k) 0).testBit i=J:=by
  intro l;induction l with
  |nil=>intro x i j _ k y h;simp at h
  |cons z t A=>
   intro x i j h k y r;simp only[pairs.one,b_,O_]at h;cases k with
   |zero=>simp at r;subst r;exact h.1
   |succ k=>
    simp at r
    have:=A x i (j+1) h.2 k y r
    rwa [V_,d7_ 1 k]at this
 have B:∀(l:List α) (n:Nat),pairs.go f a n l=J->∀i j x y,i<j->l[i]?=C x->l[j]?=C y->f x y=J\/(a.getD (n+j) 0).testBit (n+i)=J:=by
  intro l;induction l with
  |nil=>intro n _ i j x y _ h;simp at h
  |cons z t A=>
   intro n h i j x y q hi e;simp only[pairs.go,b_]at h;cases j with
   |zero=>omega
   |succ j=>
    simp at e;cases i with
    |zero=>
     simp at hi;subst hi
     have:=one t z n (n+1) h.1 j y e
     rwa [V_,d7_ 1 j]at this
    |succ i=>
     simp at hi
     have:=A (n+1) h.2 i j x y ω hi e
     rwa [V_,d7_ 1 j,V_ n 1 i,d7_ 1 i]at this
 intro i j x y q hi e;simpa using B l 0 h i j x y q hi e
def Vx{a:List Nat}{i:Nat}:∀{es:List Edge},(Pl a es).testBit i=J->∃e∈es,Region.binds .any e=J/\(e.on=i\/(a.getD e.on 0).testBit i=J)
 |[],h=>by simp[Pl]at h
 |e::t,h=>by
  simp only[Pl]at h;cases q:Region.binds .any e with
  |false=>rw[q]at h;obtain⟨r,h1,y⟩:=Vx (es:=t) h;exact⟨r,by simp[h1],y⟩
  |true=>
   rw[q]at h;have h:(2^e.on|||a.getD e.on 0|||Pl a t).testBit i=J:=h;rw[Nat.testBit_or,Nat.testBit_or,Nat.testBit_two_pow]at h;simp only[O_,r_]at h;rcases h with(h|h)|h
   .exact⟨e,σ,q,.inl h⟩
   .exact⟨e,σ,q,.inr h⟩
   .obtain⟨r,h1,y⟩:=Vx (es:=t) h;exact⟨r,by simp[h1],y⟩
def YM{n:Nat}:∀{es:List Edge},Aah n es=J->∀e∈es,Region.binds .any e=J->e.on<n
 |[],_,_,h,_=>by simp at h
 |e::t,h,r,a,q=>by
  simp only[Aah,b_,O_]at h;rcases A_.1 a with rfl|a
  .rcases h.1 with h1|h1
   .rw[q]at h1;simp at h1
   .simp[Nat.blt]at h1;omega
  .exact YM h.2 r a q
def RE:∀{l:List Oper}{n:Nat},PX n l=J->∀i o,l[i]?=C o->∀e∈o.after.toList,Region.binds .any e=J->e.on<n+i
 |[],_,_,i,o,h=>by simp at h
 |p::t,n,h,i,o,hi=>by
  simp only[PX,b_]at h;cases i with
  |zero=>simp at hi;subst hi;exact YM h.1
  |succ i=>
   simp at hi;intro e a q
   have:=RE h.2 i o hi e a q
   omega
def Xp:∀(l:List Oper) (a:List Nat) (j:Nat),j<a.length->(KQ l a).getD j 0=a.getD j 0
 |[],_,_,_=>rfl
 |o::t,a,j,h=>by rw[KQ,Xp t _ j (by simp;omega)];simp[g_,g6_,h]
def Ae8:∀(l:List Oper) (a:List Nat) (j:Nat) (o:Oper),l[j]?=C o->
  ∃e,(KQ l a).getD (a.length+j) 0=Pl e o.after.toList/\∀k,k<a.length+j->e.getD k 0=(KQ l a).getD k 0
 |[],_,_,_,h=>by simp at h
 |p::t,a,j,o,h=>by
  cases j with
  |zero=>
   simp at h;subst h;refine⟨a,?_,λk r=>?_⟩
   .rw[KQ,Xp t _ _ σ];simp[g_]
   .rw[Xp _ _ _ ω]
  |succ j=>
   simp at h;obtain⟨e,h1,q⟩:=Ae8 t (a++[Pl a p.after.toList]) j o h;simp only[f_,L_]at h1 q;refine⟨e,?_,λk r=>?_⟩
   .rw[KQ,<-h1];congr 1;omega
   .rw[KQ,q k ω]
def Down(ops:Array Oper)(D:Nat->Bool):Prop:=∀j o,ops[j]?=C o->D j=J->∀e∈o.after.toList,Region.binds .any e=J->D e.on=J
def YL{ops:Array Oper}(F:PX 0 ops.toList=J){D:Nat->Bool}(hD:Down ops D):∀(n j:Nat) (o:Oper),j<n->ops[j]?=C o->(∀e∈o.after.toList,Region.binds .any e=J->D e.on=J)->
  ∀i,((KQ ops.toList []).getD j 0).testBit i=J->D i=J
 |0,_,_,h,_,_,_,_=>by omega
 |n+1,j,o,hj,ho,hpre,i,hi=>by
  have y:ops.toList[j]?=C o:=by simpa using ho
  obtain⟨I,h1,L⟩:=Ae8 ops.toList [] j o y;simp only[b7_,n_]at h1 L;rw[h1]at hi;obtain⟨e,r,q,a⟩:=Vx hi;have z:=RE F j o y e r q;rw[n_]at z;have B:=hpre e r q;rcases a with rfl|a
  .exact B
  .rw[L e.on z]at a;have W:j<ops.size:=by
    have:=(J_.1 ho).1;exact this
   obtain⟨E,A⟩:∃E,ops[e.on]?=C E:=⟨ops[e.on]'ω,c0_ _⟩
   exact YL F hD n e.on E ω A (λR X Y=>hD e.on E A B R X Y) i a
structure ExtEq(s s':St G):Prop where
 tm:∀k,get s.tm k=get s'.tm k
 hp:∀n,get s.hp n=get s'.hp n
 us:∀n,n∈s.us↔n∈s'.us
def ExtEq.rfl':ExtEq s s:=⟨λ_=>rfl,λ_=>rfl,λ_=>Iff.rfl⟩
def ExtEq.symm{s':V G}(h:ExtEq s s'):ExtEq s' s:=⟨λk=>(h.tm k).symm,λk=>(h.hp k).symm,λk=>(h.us k).symm⟩
def ExtEq.trans{s' a:V G}(h:ExtEq s s')(g:ExtEq s' a):ExtEq s a:=⟨λk=>(h.tm k).trans<|g.tm k,λk=>(h.hp k).trans<|g.hp k,λk=>(h.us k).trans<|g.us k⟩
def Rel.ext{cx:Cx}{s':V G}{a:Act}{w:World}(e:ExtEq s s')(h:Rel G cx s a w):Rel G cx s' a w:=by obtain⟨ν,S,r⟩:=h;have hf:O s.hp=O s'.hp:=funext e.hp;exact⟨ν,S,⟨λk v q=>r.slot k v<|(e.tm k).trans q,hf▸r.heap,λn y=>(e.us n).1<|r.used n y,r.defers,r.nt,r.size,r.frame,r.env,r.sub,r.keep,r.names⟩⟩
def SN(k:Nat):O (s.next d o).tm k=if d=C k then o.v else O s.tm k:=by
 cases d with
 |none=>simp[St.next]
 |some d=>
  simp only[St.next];cases a:o.v with
  |none=>simp only[VS];by_cases e:d=k<;>simp[e]
  |some v=>simp only[SI];by_cases e:d=k<;>simp[e]
def SM(n:Nat):O (s.next d o).hp n=BB (O s.hp) o.d n:=by show O (Ac8 s.hp o.d) n=_;rw[Xd]
def SO(n:Nat):n∈(s.next d o).us↔n∈o.nw\/n∈s.us:=by show n∈o.nw++s.us↔_;simp
def KM:∀(d:List<|Nat×Option (aB G.T)) (h:Nat->Option (aB G.T)) (n:Nat),n∉DD d->BB h d n=h n
 |[],_,_,_=>rfl
 |(m,b)::t,h,n,a=>by simp only[DD,A_,not_or]at a;rw[BB,KM t _ n a.2,if_neg<|a7_ a.1]
def VL:∀(d:List<|Nat×Option (aB G.T)) (h h':Nat->Option (aB G.T)) (n:Nat),h n=h' n\/n∈DD d->BB h d n=BB h' d n
 |[],_,_,_,a=>by simpa[DD,BB]using a
 |(m,b)::t,h,h',n,a=>by
  simp only[BB];refine VL t _ _ n ?_;by_cases e:m=n
  .left;simp[e]
  .simp only[e,g3_];rcases a with h1|h1
   .exact .inl h1
   .simp only[DD,A_]at h1;exact .inr<|h1.resolve_left<|a7_ e
def ExtEq.next{s':V G}(h:ExtEq s s')(d:Option Nat)(o:aA G):ExtEq (s.next d o)<|s'.next d o:=⟨λk=>by rw[SN,SN,h.tm],λn=>by rw[SM,SM];exact VL _ _ _ _<|.inl<|h.hp n,λn=>by rw[SO,SO,h.us]⟩
def Xs{p:Nat×Bool}(h:O s.tm p.1=C (.p<|.one<|.sc<|.bool p.2)):ExtEq s<|s.note<|C p:=
 ⟨λk=>by
  show _=O (put s.tm p.1 _) k;rw[SI];by_cases e:p.1=k
  .rw[if_pos e,<-e,h]
  .rw[if_neg e],λ_=>rfl,λ_=>Iff.rfl⟩
def replay(D:Nat->Bool):Nat->List (Option Nat×aA G)->V G->V G
 |_,[],s=>s
 |i,r::t,s=>replay D (i+1) t<|bif D i then s.next r.1 r.2 else s
section
variable{D D':Nat->Bool}
def UM{k:Nat}:∀(l:List<|Option Nat×aA G) (n:Nat) (s s':V G),(∀i r,l[i]?=C r->r.1=C k->D (n+i)=D' (n+i))->O s.tm k=O s'.tm k->
  O (replay D n l s).tm k=O (replay D' n l s').tm k
 |[],_,_,_,_,h=>h
 |r::t,n,s,s',hd,h=>by
  simp only[replay];refine UM t (n+1) _ _ (λi q hq a=>by have:=hd (i+1) q (by simpa using hq) a;rwa [<-V_,bB]at this) ?_;by_cases e:r.1=C k
  .have:=hd 0 r rfl e
   rw[c7_]at this;rw[<-this];cases D n
   .exact h
   .simp[SN,e]
  .cases D n<;>cases D' n<;>simp[SN,e,h]
def UL{k:Nat}:∀(l:List<|Option Nat×aA G) (n:Nat) (s s':V G),(∀i r,l[i]?=C r->k∈DD r.2.d->D (n+i)=D' (n+i))->O s.hp k=O s'.hp k->
  O (replay D n l s).hp k=O (replay D' n l s').hp k
 |[],_,_,_,_,h=>h
 |r::t,n,s,s',hd,h=>by
  simp only[replay];refine UL t (n+1) _ _ (λi q hq a=>by have:=hd (i+1) q (by simpa using hq) a;rwa [<-V_,bB]at this) ?_;by_cases e:k∈DD r.2.d
  .have:=hd 0 r rfl e
   rw[c7_]at this;rw[<-this];cases D n
   .exact h
   .simp only[i_,SM];exact VL _ _ _ _<|.inr e
  .cases D n<;>cases D' n<;>simp[SM,KM _ _ _ e,h]
def Om{k:Nat}:∀(l:List<|Option Nat×aA G) (n:Nat) (s:V G),k∈(replay D n l s).us↔k∈s.us\/∃i r,l[i]?=C r/\D (n+i)=J/\k∈r.2.nw
 |[],_,s=>by simp[replay]
 |r::t,n,s=>by
  simp only[replay];rw[Om t<|n+1];constructor
  .rintro(h|⟨i,q,h1,e,a⟩)
   .cases hd:D n with
    |false=>rw[hd]at h;exact .inl h
    |true=>
     rw[hd]at h;rcases(SO k).1 h with h|h
     .exact .inr ⟨0,r,rfl,by simpa using hd,h⟩
     .exact .inl h
   .exact .inr ⟨i+1,q,by simpa using h1,by rwa [d7_ i 1,<-V_],a⟩
  .rintro(h|⟨i,q,h1,e,a⟩)
   .left;cases hd:D n with
    |false=>exact h
    |true=>exact(SO k).2<|.inr h
   .cases i with
    |zero=>simp at h1 e;subst h1;left;rw[e];exact(SO k).2<|.inl a
    |succ i=>simp at h1;exact .inr ⟨i,q,h1,by rwa [V_,d7_ 1 i],a⟩
def Nq:∀(l:List<|Option Nat×aA G) (n:Nat) (s:V G),replay (λ_=>U) n l s=s
 |[],_,_=>rfl
 |_::t,n,s=>Nq t (n+1) s
def Arw{k:Nat}:∀(l:List<|Option Nat×aA G) (n i:Nat) (r:Option Nat×aA G) (s:V G),l[i]?=C r->r.1=C k->D (n+i)=J->
  (∀j q,i<j->l[j]?=C q->D (n+j)=J->q.1≠C k)->O (replay D n l s).tm k=r.2.v
 |[],_,_,_,_,h,_,_,_=>by simp at h
 |p::t,n,i,r,s,hi,y,hd,hl=>by
  simp only[replay];cases i with
  |zero=>
   simp at hi hd;subst hi;rw[hd,i_];rw[UM (D':=λ_=>U) (s':=s.next p.1 p.2) t (n+1) _ (λj q hq a=>?_) rfl,Nq,SN,if_pos y];cases e:D (n+1+j)with
   |false=>rfl
   |true=>exact absurd a<|hl (j+1) q ω (by simpa using hq) (by rwa [d7_ j 1,<-V_])
  |succ i=>simp at hi;refine Arw t (n+1) i r _ hi y (by rwa [V_,d7_ 1 i]) λj q z hq e=>?_;exact hl (j+1) q ω (by simpa using hq) (by rwa [d7_ j 1,<-V_])
def Arv{k:Nat}:∀(l:List<|Option Nat×aA G) (n i:Nat) (r:Option Nat×aA G) (s:V G) (h:Nat->Option (aB G.T)),l[i]?=C r->k∈DD r.2.d->D (n+i)=J->
  (∀j q,i<j->l[j]?=C q->D (n+j)=J->k∉DD q.2.d)->O (replay D n l s).hp k=BB h r.2.d k
 |[],_,_,_,_,_,h,_,_,_=>by simp at h
 |p::t,n,i,r,s,h,hi,y,hd,hl=>by
  simp only[replay];cases i with
  |zero=>
   simp at hi hd;subst hi;rw[hd,i_];rw[UL (D':=λ_=>U) (s':=s.next p.1 p.2) t (n+1) _ (λj q hq a=>?_) rfl,Nq,SM]
   .exact VL _ _ _ _<|.inr y
   cases e:D (n+1+j)with
   |false=>rfl
   |true=>exact absurd a<|hl (j+1) q ω (by simpa using hq) (by rwa [d7_ j 1,<-V_])
  |succ i=>simp at hi;refine Arv t (n+1) i r _ h hi y (by rwa [V_,d7_ 1 i]) λj q z hq e=>?_;exact hl (j+1) q ω (by simpa using hq) (by rwa [d7_ j 1,<-V_])
end
end Go.Ab
namespace Go.Ab
variable{G:aD}
variable{s:V G}{o:Oper}{out:aA G}{j:Nat}
def Pt{D D':Nat->Bool}:∀(l:List<|Option Nat×aA G) (n a:Nat) (s s':V G),(∀i,i<l.length->D (n+i)=D' (a+i))->ExtEq s s'->ExtEq (replay D n l s) (replay D' a l s')
 |[],_,_,_,_,_,h=>h
 |r::t,n,a,s,s',hd,h=>by
  simp only[replay];refine Pt t (n+1) (a+1) _ _ (λi hi=>by have:=hd (i+1) (by simpa using hi);rwa [<-V_,<-V_,bB,bB a]at this) ?_
  have:=hd 0 σ
  rw[c7_,c7_]at this;rw[<-this];cases D n
  .exact h
  .exact h.next _ _
inductive StepR(cf:Dc G)(nt:Nat)(ops:Array Oper)(o:Oper)(st:St G)(out:Out G):Prop
 |act (g:Option (Nat×Bool)) (hd:NM nt o.dst=true)
   (hg:∀p,g=some p->get st.tm p.1=some (.p (.one (.sc (.bool p.2))))/\∃j want,o.guard=some (j,want)/\(ops[j]?).bind (·.dst)=some p.1/\p.2=want)
   (hn:g=none->o.guard=none) (hact:act cf (Pa st.tm) (get st.hp) (Ala 0 o.dst) o.op (Out G) some=some out) (hf:JG st.us out.nw=true)
 |skip (p:Nat×Bool) (j:Nat) (want:Bool) (hd:NM nt o.dst=true) (hp:get st.tm p.1=some (.p (.one (.sc (.bool p.2))))) (hg:o.guard=some (j,want)) (hj:(ops[j]?).bind (·.dst)=some p.1) (hw:p.2≠want)
   (e:out=⟨some (.tup []),[],[],[]⟩)
 |skipU (gs j:Nat) (want:Bool) (hd:NM nt o.dst=true) (hp:get st.tm gs=some (.tup [])) (hg:o.guard=some (j,want)) (hj:(ops[j]?).bind (·.dst)=some gs) (e:out=⟨some (.tup []),[],[],[]⟩)
def Aiq{d:Option Nat}:ExtEq (s.drop d)<|s.next d ⟨C<|.tup [],[],[],[]⟩:=by
 cases d with
 |none=>exact⟨λ_=>rfl,λ_=>rfl,λ_=>Iff.rfl⟩
 |some d=>exact⟨λ_=>rfl,λ_=>rfl,λ_=>Iff.rfl⟩
section
variable{P:Program}(ok:aO P G)(eqok:EqOK P G){cf:Dc G}(cfok:CfOK P G cf)(cfl:Adq cf){nt:Nat}{ops:Array Oper}
include cfok in
theorem Ajc(o:Oper)(st:V G):Law<|All cf nt ops o st:=by
 refine Ad (Ay _) λ_=>Ad (UA _ _ _) λg=>?_;split
 .exact Ad (Aal cfok.law _) λ_=>Ad (Ay _) λ_=>Ai _
 .exact Ai _
include cfok in
theorem Xm:∀(l:List Oper) (st:V G),Law<|Ah2 cf nt ops l st
 |[],_=>Ai _
 |o::t,st=>Ad (Ajc cfok o st) λ_=>Ad (Xm t _) λ_=>Ai _
include cfok in
theorem Avn{st z:V G}(h:All cf nt ops o st _ C=C (out,z)):StepR cf nt ops o st out/\ExtEq z (st.next o.dst out):=by
 unfold All at h;obtain⟨hd,h1⟩:=aJ h;obtain⟨⟨L,g⟩,a,B⟩:=(UA ops st.tm o).spec<|aT h1;have r:∀(hg:∀p,g=C p->O st.tm p.1=C (.p<|.one<|.sc<|.bool p.2)/\∃j e,o.guard=C (j,e)/\(ops[j]?).bind (·.dst)=C p.1/\p.2=e) (Y:g=N->o.guard=N),L=J->
   StepR cf nt ops o st out/\ExtEq z (st.next o.dst out):=by
  intro hg Y a;subst a;simp only at B;obtain⟨X,hout,h3⟩:=(Aal cfok.law _).spec<|aT B;obtain⟨hf,W⟩:=aJ h3;simp[aG]at W;obtain⟨rfl,rfl⟩:=W;refine⟨.act g hd hg Y hout hf,?_⟩;cases g with
  |none=>exact ExtEq.rfl'
  |some p=>exact((Xs (hg p rfl).1).symm).next _ _
 unfold SJ at a;cases q:o.guard with
 |none=>simp[q,aG]at a;obtain⟨rfl,rfl⟩:=a;exact r σ (λ_=>q) rfl
 |some jw=>
  obtain⟨j,e⟩:=jw;simp only[q,Aev]at a;split at a
  .rename_i E y;split at a
   .rename_i b I;have F:∀A:Bool,O st.tm E=C (.p<|.one<|.sc<|.bool A)->A≠e->L=U->g=C (E,A)->StepR cf nt ops o st out/\ExtEq z (st.next o.dst out):=by
     intro A R h6 h7 h8;subst h7;simp[aG]at B;obtain⟨rfl,rfl⟩:=B;refine⟨.skip (E,A) j e hd R q y h6 rfl,?_⟩;rw[h8];exact((Xs (p:=(E,A)) R).symm).next _ _
    cases b with
    |true=>
     simp at a;obtain⟨rfl,rfl⟩:=a;cases e with
     |true=>exact r (by rintro p hp;simp at hp;subst hp;exact⟨I,j,J,q,y,rfl⟩) σ rfl
     |false=>exact F J I σ rfl rfl
    |false=>
     simp at a;obtain⟨rfl,rfl⟩:=a;cases L with
     |false=>exact F U I σ rfl rfl
     |true=>exact r (by rintro p hp;simp at hp;subst hp;exact⟨I,j,_,q,y,rfl⟩) σ rfl
   .rename_i hu;simp at a;obtain⟨rfl,rfl⟩:=a;simp[aG]at B;obtain⟨rfl,rfl⟩:=B;exact⟨.skipU E j e hd hu q y rfl,ExtEq.rfl'⟩
   .simp at a
  .simp at a
def recs(l:List Oper)(outs:List<|aA G):List<|Option Nat×aA G:=l.zipWith (λo out=>(o.dst,out)) outs
theorem Ql{l:List Oper}{outs:List<|aA G}{i:Nat}{r:Option Nat×aA G}(h:(recs l outs)[i]?=C r):∃o,l[i]?=C o/\outs[i]?=C r.2/\r.1=o.dst:=by
 unfold recs at h;rw[bE]at h;cases h1:l[i]? with
 |none=>simp[h1]at h
 |some o=>
  cases a:outs[i]? with
  |none=>simp[h1,a]at h
  |some out=>simp[h1,a]at h;subst h;exact⟨o,rfl,rfl,rfl⟩
include cfok in
theorem Ajt:∀(l:List Oper) (st e:V G) (outs:List<|aA G),Ah2 cf nt ops l st _ C=C (outs,e)->
  outs.length=l.length/\ExtEq e (replay (λ_=>J) 0 (recs l outs) st)/\
  ∀i o out,l[i]?=C o->outs[i]?=C out->∃s,ExtEq s (replay (λj=>decide<|j<i) 0 (recs l outs) st)/\StepR cf nt ops o s out
 |[],st,e,outs,h=>by simp[Ah2,aG]at h;obtain⟨rfl,rfl⟩:=h;exact⟨rfl,ExtEq.rfl',λi o out h=>by simp at h⟩
 |p::t,st,e,outs,h=>by
  unfold Ah2 at h;obtain⟨⟨out,r⟩,h1,W⟩:=(Ajc cfok p st).spec<|aT h;obtain⟨⟨a,y⟩,I,A⟩:=(Xm cfok t r).spec<|aT W;simp[aG]at A;obtain⟨rfl,rfl⟩:=A;obtain⟨E,z⟩:=Avn cfok h1;obtain⟨F,B,L⟩:=Ajt t r y a I;refine⟨by simp[F],?_,λi o q hi hq=>?_⟩
  .refine B.trans ?_;show ExtEq _ (replay _ 1 (recs t a)<|st.next p.dst out);exact Pt _ _ _ _ _ (λ_ _=>rfl) z
  .cases i with
   |zero=>
    simp at hi hq;subst hi;subst hq;refine⟨st,?_,E⟩;show ExtEq st (replay _ 1 (recs t a) st)
    have:=Pt (D:=λ_=>U) (D':=λj=>decide<|j<0) (recs t a) 0 1 st st (λi _=>by simp) ExtEq.rfl'
    rwa [Nq]at this
   |succ i=>simp at hi hq;obtain⟨s,R,X⟩:=L i o q hi hq;refine⟨s,R.trans ?_,X⟩;show ExtEq _ (replay _ 1 (recs t a)<|st.next p.dst out);exact Pt _ _ _ _ _ (λk _=>by simp;omega) z
theorem Acj{us l:List Nat}(h:∀n∈l,n∉us):JG us l=J:=by
 induction l with
 |nil=>rfl
 |cons k t e=>
  simp only[JG,b_,b4_];refine⟨?_,e λn a=>h n (by simp[a])⟩;cases q:has us k with
  |false=>rfl
  |true=>exact absurd ((Hp us k).1 q)<|h k σ
theorem Us:∀{a b:List Nat},disj a b=J->∀n∈a,n∉b
 |[],_,_,n,h=>by simp at h
 |m::t,b,h,n,e=>by
  simp only[disj,b_]at h;rcases A_.1 e with rfl|e
  .intro hm;rw[(Hp b n).2 hm]at h;simp at h
  .exact Us h.2 n e
theorem Aya{x:Operand}(h:x∈o.op.operands.toList){t:Nat}(a:x=.tmp t):t∈o.looksAt ops:=by unfold Oper.looksAt;refine m_.2<|.inl<|List.mem_filterMap.2 ⟨x,h,?_⟩;subst a;rfl
theorem Vt{a:Bool}{d:Nat}(hg:o.guard=C (j,a))(e:(ops[j]?).bind (·.dst)=C d):d∈o.looksAt ops:=by unfold Oper.looksAt;refine m_.2<|.inr ?_;rw[hg];simp[e]
structure Done(cf:Dc G)(nt:Nat)(ops:Array Oper)(st:St G)(outs:List (Out G))(sf:Nat->Prop):Prop where
 len:outs.length=ops.size
 edges:PX 0 ops.toList=true
 slots:pairs (λx y=>Oper.apart ops x y) (KQ ops.toList []) ops.toList=true
 mem:∀i j x y,i<j->outs[i]?=some x->outs[j]?=some y->((KQ ops.toList []).getD j 0).testBit i=true\/((∀n∈DD x.d,n∉DD y.d)/\(¬sf j->∀n∈DD x.d,n∉y.rd)/\(¬sf i->∀n∈DD y.d,n∉x.rd))
 soft:∀i,sf i->∀(D:Nat->Bool) (s:St G) o out nm,ExtEq s (replay (λj=>decide (j<i)) 0 (recs ops.toList outs) st)->ops[i]?=some o->outs[i]?=some out->act cf (Pa s.tm) (get s.hp) nm o.op (Out G) some=some out->act cf (Pa s.tm) (get (replay D 0 (recs ops.toList outs) st).hp) nm o.op (Out G) some=some out
 step:∀i o out,ops[i]?=some o->outs[i]?=some out->∃s,ExtEq s (replay (λj=>decide (j<i)) 0 (recs ops.toList outs) st)/\StepR cf nt ops o s out
variable{st:V G}{outs:List (aA G)}{sf:Nat->Prop}(dn:Done cf nt ops st outs sf)
section
variable{D:Nat->Bool}(hD:Down ops D){i:Nat}{o:Oper}{out:aA G}(ho:ops[i]?=C o)(hout:outs[i]?=C out)(hi:D i=U)
 (hpre:∀e∈o.after.toList,Region.binds .any e=J->D e.on=J)
include dn hD ho hout hi hpre
theorem PY{p:Oper}{q:aA G}(hp:ops[j]?=C p)(hq:outs[j]?=C q)(I:(j<i/\D j=U)\/(i<j/\D j=J)):
  (∀d,p.dst=C d->d∉o.looksAt ops)/\(∀d,p.dst=C d->o.dst≠C d)/\(¬sf i->∀n∈DD q.d,n∉out.rd)/\(∀n∈DD q.d,n∉DD out.d):=by
 have y:ops.toList[j]?=C p:=by simpa using hp
 have z:ops.toList[i]?=C o:=by simpa using ho
 have B:∀e∈o.after.toList,Region.binds .any e=J->D e.on=J:=hpre;rcases I with⟨h1,F⟩|⟨h1,F⟩
 .have a:((KQ ops.toList []).getD i 0).testBit j=J->False:=λE=>by
   have:=YL dn.edges hD (i+1) i o ω ho B j E
   rw[F]at this;simp at this
  have r:=(Xx dn.slots j i p o h1 y z).resolve_right a;have A:=(dn.mem j i q out h1 hq hout).resolve_left a;have r:=Oper.apart_spec r;exact⟨r.1,r.2.1,A.2.1,A.1⟩
 .have a:((KQ ops.toList []).getD j 0).testBit i=J->False:=λE=>by
   have:=YL dn.edges hD (j+1) j p ω hp (hD j p hp F) i E
   rw[hi]at this;simp at this
  have r:=(Xx dn.slots i j o p h1 z y).resolve_right a;have A:=(dn.mem i j out q h1 hout hq).resolve_left a;have r:=Oper.apart_spec r;exact⟨r.2.2,λd hd L=>r.2.1 d L hd,A.2.2,λn R hm=>A.1 n hm R⟩
theorem Wq(E:ExtEq s<|replay (λj=>decide<|j<i) 0 (recs ops.toList outs) st){k:Nat}(z:k∈o.looksAt ops):
  O (replay D 0 (recs ops.toList outs) st).tm k=O s.tm k:=by
 rw[E.tm k];refine UM _ 0 _ _ (λj r B a=>?_) rfl;rw[n_];obtain⟨p,h1,A,F⟩:=Ql B;have y:ops[j]?=C p:=by simpa using h1
 rw[F]at a;by_cases q:j<i
 .rw[a_ q];cases hd:D j with
  |true=>rfl
  |false=>exact absurd z<|(PY dn hD ho hout hi hpre y A<|.inl ⟨q,hd⟩).1 k a
 .rw[c_ q];by_cases e:j=i
  .subst e;exact hi
  .cases hd:D j with
   |false=>rfl
   |true=>exact absurd z<|(PY dn hD ho hout hi hpre y A<|.inr ⟨ω,hd⟩).1 k a
theorem Bah(z:¬sf i)(F:ExtEq s<|replay (λj=>decide<|j<i) 0 (recs ops.toList outs) st){n:Nat}(B:n∈out.rd):
  O (replay D 0 (recs ops.toList outs) st).hp n=O s.hp n:=by
 rw[F.hp n];refine UL _ 0 _ _ (λj r E q=>?_) rfl;rw[n_];obtain⟨p,h1,A,I⟩:=Ql E;have y:ops[j]?=C p:=by simpa using h1
 by_cases a:j<i
 .rw[a_ a];cases hd:D j with
  |true=>rfl
  |false=>exact absurd B<|(PY dn hD ho hout hi hpre y A<|.inl ⟨a,hd⟩).2.2.1 z n q
 .rw[c_ a];by_cases e:j=i
  .subst e;exact hi
  .cases hd:D j with
   |false=>rfl
   |true=>exact absurd B<|(PY dn hD ho hout hi hpre y A<|.inr ⟨ω,hd⟩).2.2.1 z n q
omit hD hpre in
theorem Bai(F:ExtEq s<|replay (λj=>decide<|j<i) 0 (recs ops.toList outs) st)(hf:JG s.us out.nw=J):
  JG (replay D 0 (recs ops.toList outs) st).us out.nw=J:=by
 refine Acj λn E hm=>?_;have h0:=YS hf n E;rw[F.us n,Om]at h0;rcases(Om _ _ _).1 hm with h|⟨j,r,h1,A,a⟩
 .exact h0<|.inl h
 .rw[n_]at A;by_cases y:j<i
  .exact h0<|.inr ⟨j,r,h1,by rw[n_];exact a_ y,a⟩
  .by_cases e:j=i
   .subst e;rw[hi]at A;simp at A
   .obtain⟨p,q1,R,q3⟩:=Ql h1;obtain⟨s2,X,Y⟩:=dn.step j p r.2 (by simpa using q1) R;cases Y with
    |act g hd hg I B z=>
     refine YS z n a ?_;rw[X.us n,Om];right;have L:(recs ops.toList outs)[i]?=C (o.dst,out):=by
      unfold recs;rw[bE]
      have:ops.toList[i]?=C o:=by simpa using ho
      rw[this,hout]
     exact⟨i,_,L,by rw[n_];exact a_ ω,E⟩
    |skip p j q hd hp hg W hw e=>rw[e]at a;simp at a
    |skipU gs j q hd hp hg W e=>rw[e]at a;simp at a
include cfl in
theorem Bc0:StepR cf nt ops o (replay D 0 (recs ops.toList outs) st) out:=by
 obtain⟨s,y,r⟩:=dn.step i o out ho hout;cases r with
 |act g hd hg B q hf=>
  refine .act g hd (λp hp=>?_) B ?_<|Bai dn ho hout hi y hf
  .obtain⟨h1,j,a,F,E,W⟩:=hg p hp;refine⟨?_,j,a,F,E,W⟩;rw[Wq dn hD ho hout hi hpre y<|Vt F E];exact h1
  .rw[Bet (ev:=Pa s.tm) o.op λx I=>?_]
   .by_cases A:sf i
    .exact dn.soft i A D s o out _ y ho hout q
    .exact Bes cfl q λn B=>Bah dn hD ho hout hi hpre A y B
   .cases x with
    |tmp t=>exact Wq dn hD ho hout hi hpre y<|Aya I rfl
    |const v=>cases v<;>rfl
    |_=>rfl
 |skip p j a hd hp hg z R e=>refine .skip p j a hd ?_ hg z R e;rw[Wq dn hD ho hout hi hpre y<|Vt hg z];exact hp
 |skipU L j a hd hp hg z e=>refine .skipU L j a hd ?_ hg z e;rw[Wq dn hD ho hout hi hpre y<|Vt hg z];exact hp
theorem Bb3{D':Nat->Bool}(B:D' i=J)(y:∀j,j≠i->D' j=D j) :
  ExtEq ((replay D 0 (recs ops.toList outs) st).next o.dst out) (replay D' 0 (recs ops.toList outs) st):=by
 have E:(recs ops.toList outs)[i]?=C (o.dst,out):=by
  unfold recs;rw[bE]
  have:ops.toList[i]?=C o:=by simpa using ho
  rw[this,hout]
 have R:∀j r,(recs ops.toList outs)[j]?=C r->r≠(o.dst,out)->j≠i:=by intro j r h1 a e;subst e;rw[E]at h1;simp at h1;exact a h1.symm
 refine⟨λk=>?_,λn=>?_,λn=>?_⟩
 .rw[SN];by_cases e:o.dst=C k
  .rw[if_pos e];rw[Arw _ 0 i _ _ E e (by rw[n_];exact B) λj q L hq z A=>?_];rw[n_,y j ω]at z;obtain⟨p,h1,a,F⟩:=Ql hq;rw[F]at A;exact(PY dn hD ho hout hi hpre (by simpa using h1) a<|.inr ⟨L,z⟩).2.1 k A e
  .rw[if_neg e];refine UM _ 0 _ _ (λj r h1 a=>?_) rfl;rw[n_];exact(y j λI=>by subst I;rw[E]at h1;simp at h1;subst h1;exact e a).symm
 .rw[SM];by_cases e:n∈DD out.d
  .rw[Arv _ 0 i _ _ (O (replay D 0 (recs ops.toList outs) st).hp) E e (by rw[n_];exact B) λj q L hq z A=>?_];rw[n_,y j ω]at z;obtain⟨p,h1,a,F⟩:=Ql hq;exact(PY dn hD ho hout hi hpre (by simpa using h1) a<|.inr ⟨L,z⟩).2.2.2 n A e
  .rw[KM _ _ _ e];refine UL _ 0 _ _ (λj r h1 a=>?_) rfl;rw[n_];exact(y j λI=>by subst I;rw[E]at h1;simp at h1;subst h1;exact e a).symm
 .rw[SO,Om,Om];constructor
  .rintro(h|h|⟨j,r,h1,a,F⟩)
   .exact .inr ⟨i,_,E,by rw[n_];exact B,h⟩
   .exact .inl h
   .refine .inr ⟨j,r,h1,?_,F⟩;rw[n_]at a|-;by_cases e:j=i
    .subst e;exact B
    .rw[y j e];exact a
  .rintro(h|⟨j,r,h1,a,F⟩)
   .exact .inr<|.inl h
   .by_cases e:j=i
    .subst e;rw[E]at h1;simp at h1;subst h1;exact .inl F
    .refine .inr<|.inr ⟨j,r,h1,?_,F⟩;rw[n_]at a|-;rw[<-y j e];exact a
end
include ok eqok cfok in
theorem Bcz{cx:Cx}{a:Act}{w:World}(h:StepR cf cx.nt ops o s out)(r:Rel G cx s a w){K:Act->World->Prop}{Q:Exit->Act->World->Prop}
  (E:∀y w',Rel G cx (s.next o.dst out) y w'->K y w'):if Region.wanted o (yielded ops a.tmps)then o.wp P a w K Q else K (a.put o.dst undef) w:=by
 cases h with
 |act g hd hg F A hf=>
  refine Aav ok eqok cfok (.act g out hd hg F A hf rfl) r λy w' z=>E y w'<|z.ext ?_;cases g with
  |none=>exact ExtEq.rfl'
  |some p=>exact((Xs (hg p rfl).1).symm).next _ _
 |skip p j q hd hp hg B L e=>subst e;refine Aav ok eqok cfok (.skip p j q hd hp hg B L rfl) r λy w' z=>E y w'<|z.ext ?_;refine ExtEq.trans Aiq ?_;exact((Xs hp).symm).next _ _
 |skipU I j q hd hp hg B e=>subst e;exact Aav ok eqok cfok (.skipU I j q hd hp hg B rfl) r λy w' z=>E y w'<|z.ext Aiq
end
end Go.Ab
namespace Go.Ab
variable{G:aD}
variable{Q:Exit->Act->World->Prop}{listed:Array Bool}{sf:Nat->Prop}{i:Nat}
def Ain{α:Type}{p q:α->Bool}:∀(l:List α) (x:α),x∈l->(∀y∈l,q y=J->p y=J)->p x=J->q x=U->l.countP q<l.countP p
 |[],_,h,_,_,_=>by simp at h
 |y::t,x,h,hi,hp,hq=>by
  rcases A_.1 h with rfl|h
  .rw[List.countP_cons_of_neg (by simp[hq]),bD hp]
   have:t.countP q<=t.countP p:=List.countP_mono_left λz a r=>hi z (by simp[a]) r
   omega
  .have A:=Ain t x h (λz a=>hi z (by simp[a])) hp hq;cases e:q y with
   |false=>rw[List.countP_cons_of_neg (by simp[e])];rw[List.countP_cons];omega
   |true=>rw[bD e,bD<|hi y σ e];omega
section
variable{P:Program}(ok:aO P G)(eqok:EqOK P G){cf:Dc G}(cfok:CfOK P G cf)(cfl:Adq cf){nt:Nat}{ops:Array Oper}
variable{st:V G}{outs:List (aA G)}
def left(n:Nat)(listed:Array Bool):Nat:=(List.range n).countP λi=>!listed.getD i J
theorem Mm(h:i<listed.size)(j:Nat)(d:Bool):(listed.setIfInBounds i J).getD j d=if j=i then J else listed.getD j d:=by
 simp only[v_,g0_];by_cases e:j=i
 .subst e;simp[h]
 .simp[a7_ e,e]
theorem TB{n:Nat}(a:listed.size=n)(hi:i<n)(d e:Bool):listed.getD i d=listed.getD i e:=by simp[v_,a,hi]
theorem Zj:i∈Region.ready .any ops listed↔i<ops.size/\listed.getD i J=U/\∃o,ops[i]?=C o/\∀e∈o.after.toList,Region.binds .any e=J->listed.getD e.on U=J:=by
 unfold Region.ready;rw[List.mem_filter,List.mem_range];constructor
 .rintro⟨h1,q⟩;rw[b_,b4_]at q;refine⟨h1,q.1,ops[i],c0_ h1,?_⟩;have a:=q.2;rw[c0_ h1]at a;simp only[f9_,Option.getD_some]at a;intro e r y;rw[<-Array.all_toList,G_]at a
  have:=a e r
  rw[y]at this;simpa using this
 .rintro⟨h1,q,o,a,z⟩;refine⟨h1,?_⟩;rw[q,a];simp only[Bool.not_false,f9_,Option.getD_some,b1_];rw[<-Array.all_toList,G_];intro e r;cases y:Region.binds .any e with
  |false=>rfl
  |true=>simpa using z e r y
include ok eqok cfok cfl in
theorem Awn{cx:Cx}(dn:Done cf cx.nt ops st outs sf)(hQ:∀X w',Rel G cx (replay (λ_=>J) 0 (recs ops.toList outs) st) X w'->Q .normal X w'):
  ∀(DF:Nat) (listed:Array Bool) (a:Act) (w:World),listed.size=ops.size->Down ops (λi=>listed.getD i U)->left ops.size listed<=DF->
   Rel G cx (replay (λi=>listed.getD i U) 0 (recs ops.toList outs) st) a w->wpAny P .any ops Q DF listed a w:=by
 have B:∀(listed:Array Bool) (a:Act) (w:World),listed.size=ops.size->(∀i,i<ops.size->listed.getD i U=J)->Rel G cx (replay (λi=>listed.getD i U) 0 (recs ops.toList outs) st) a w->Q .normal a w:=by
  intro listed a w _ y r;refine hQ a w<|r.ext<|Pt _ _ _ _ _ (λi hi=>?_) ExtEq.rfl';rw[n_];refine y i ?_
  have:=(Ql<|h_ hi).choose_spec.1
  have:=(e_.1 this).1
  simpa using this
 have q:∀(listed:Array Bool),listed.size=ops.size->Region.ready .any ops listed=[]->∀(n i:Nat),i<n->i<ops.size->listed.getD i U=J:=by
  intro listed z R n;induction n with
  |zero=>intro i h;omega
  |succ n ih=>
   intro i hin hi;cases hb:listed.getD i U with
   |true=>rfl
   |false=>
    have:i∈Region.ready .any ops listed:=by refine Zj.2 ⟨hi,by rw[TB z hi J U];exact hb,ops[i],c0_ hi,λe Y h3=>?_⟩;have h5:=RE dn.edges i ops[i] (by simp[hi]) e Y h3;exact ih e.on ω ω
    rw[R]at this;simp at this
 intro DF;induction DF with
 |zero=>
  intro listed a w z hD hl r;have y:∀i,i<ops.size->listed.getD i U=J:=by
   intro i hi;have h0:left ops.size listed=0:=ω;unfold left at h0;rw[List.countP_eq_zero]at h0
   have:=h0 i (by simp[hi])
   simp only[b4_,Bool.not_eq_false]at this;rw[TB z hi U J];exact this
  refine⟨?_,B listed a w z y r⟩;cases R:Region.ready .any ops listed with
  |nil=>rfl
  |cons i t=>
   have:i∈Region.ready .any ops listed:=by rw[R];simp
   obtain⟨h1,L,_⟩:=Zj.1 this;rw[TB z h1 J U,y i h1]at L;simp at L
 |succ DF ih=>
  intro listed a w z hD hl r;refine⟨λR=>B listed a w z (λi hi=>q listed z R (i+1) i ω hi) r,λi hi=>?_⟩;obtain⟨h1,L,o,ho,hpre⟩:=Zj.1 hi;rw[TB z h1 J U]at L;have W:i<outs.length:=by rw[dn.len];exact h1
  have hout:outs[i]?=C outs[i]:=h_ W;have F:=Bc0 cfl dn hD ho hout L hpre;have I:=Bb3 dn hD ho hout L hpre (D':=λj=>(listed.setIfInBounds i J).getD j U) (by show Array.getD _ _ _=J;rw[Mm ω];simp)
   (λj E=>by show Array.getD _ _ _=_;rw[Mm ω,if_neg E])
  have h4:Down ops (λj=>(listed.setIfInBounds i J).getD j U):=by
   intro j p hp E e Y hb;show Array.getD _ _ _=J;have E:Array.getD _ _ _=J:=E;rw[Mm ω]at E|-;by_cases e1:e.on=i
   .rw[if_pos e1]
   .rw[if_neg e1];by_cases e2:j=i
    .subst e2;rw[ho]at hp;simp at hp;subst hp;exact hpre e Y hb
    .rw[if_neg e2]at E;exact hD j p hp E e Y hb
  have A:=Bcz ok eqok cfok F r (K:=wpAny P .any ops Q DF<|listed.setIfInBounds i J) (Q:=Q) λX w' r'=>
   ih (listed.setIfInBounds i J) X w' (by simp[z]) h4 (by
    have:left ops.size (listed.setIfInBounds i J)<left ops.size listed:=by
     refine Ain _ i (by simp[h1]) (λj _ hq=>?_) (by rw[TB z h1 J U,L];rfl) (by rw[Mm ω];simp);rw[Mm ω]at hq;by_cases e:j=i
     .rw[if_pos e]at hq;simp at hq
     .rw[if_neg e]at hq;exact hq
    omega) (r'.ext I)
  unfold wpOp;rw[ho];simp only;by_cases hw:Region.wanted o (yielded ops a.tmps)=J
  .rw[if_pos hw]at A|-;exact .inl A
  .rw[if_neg hw]at A|-;exact A
include ok eqok cfok cfl in
theorem Be9(hm:P.follows .mixedOrders=J){r:V G}{cx:Cx}{a:Act}{w:World}{id:Nat}(dn:Done cf cx.nt ops st outs sf)(B:ExtEq r<|replay (λ_=>J) 0 (recs ops.toList outs) st)(y:Rel G cx st a w)(E:∀z w',Rel G cx r z w'->Q .normal z w'):(Code.region id ops J).wp P Q a w:=by
 refine wp_region_any hm<|Awn ok eqok cfok cfl dn (λz w' A=>E z w'<|A.ext B.symm) ops.size _ a _ σ ?_ ?_ ?_
 .intro j o _ q;have q:(aV ops.size U).getD j U=J:=q;simp[v_,bC]at q;split at q<;>simp at q
 .exact c5_ List.countP_le_length σ
 .refine(y.drawn _).ext ?_
  have:replay (λi=>(aV ops.size U).getD i U) 0 (recs ops.toList outs) st=st:=by
   have e:(λi=>(aV ops.size U).getD i U)=λ_=>U:=by funext i;simp only[v_,bC];split<;>rfl
   rw[e,Nq]
  rw[this];exact ExtEq.rfl'
include ok eqok cfok cfl in
theorem Ut(hm:P.follows .mixedOrders=J):DrawOK P G nt<|VQ cf nt:=by refine⟨λops st=>Ad (Ay _) λ_=>Ad (Xm cfok _ _) λ_=>Ad (Ay _) λ_=>Ai _,?_⟩;intro ops st F h cx a w id Q q e I;subst q;unfold VQ at h;obtain⟨h1,R⟩:=aJ h;obtain⟨⟨outs,z⟩,X,h4⟩:=(Xm cfok (ops:=ops) ops.toList st).spec<|aT R;obtain⟨B,A⟩:=aJ h4;simp[aG]at A;subst A;obtain⟨L,E,Y⟩:=Ajt cfok ops.toList st z outs X;rw[b_]at h1;refine Be9 ok eqok cfok cfl hm (sf:=λ_=>False) ⟨by simpa using L,h1.1,h1.2,λi j x y r W hy=>?_,λ_ h=>h.elim,λi o out hi ho=>Y i o out (by simpa using hi) ho⟩ E e I;refine(Xx B i j x y r W hy).symm.imp (λh=>h) λh=>?_;simp only[Awo,b_]at h;exact⟨Us h.1.2,λ_=>Us h.1.1,λ_=>Us h.2⟩
end
end Go.Ab
namespace Go.Ab
variable{G:aD}
section
variable{P:Program}(ok:aO P G)(eqok:EqOK P G){cf:Dc G}(cfok:CfOK P G cf){nt:Nat}{drawn:Array Oper->V G->M (V G)}(dok:DrawOK P G nt drawn)
 {lp:Nat->V G->M (Ex×V G)}{kl:Nat->List Nat}{jn:Nat->Option (List (Ex×aF))}
include ok eqok cfok dok in
theorem Ajo{S:aF}{E:List<|Ex×aF}{c:Code}{n:Nat}(hl:∀(k:Nat) c',(Bt c)[k]?=C c'->aM P G nt (lp<|n+k) c'){cx:Cx}(W:cx.nt=nt)(F:∀n y,cx.nu0 n=C y->Z<=n)
  {y:Fp G E}{ex:Ex}{Y:V G}(hy:Hm E y C=C (ex,Y)) {Q:Exit->Act->World->Prop}(hQ:∀e a' w',ExR ex e->Rel G cx Y a' w'->Q e a' w') :
  ∀(f:Nat) (x:S.T G) (a:Act) (w:World),BM (Rt S E<|CZ cf nt drawn lp kl jn n c) f x=C y->Rel G cx (S.mk' x) a w->Code.rounds P c Q f a w
 |0,_,_,_,h,_=>by simp[BM]at h
 |f+1,x,a,w,h,r=>by
  rw[rounds_succ];have X:=Fs cfok dok (kl:=kl) (jn:=jn) c n (S.mk' x) hl;simp only[BM]at h;have I:Rt S E (CZ cf nt drawn lp kl jn n c) x=(CZ cf nt drawn lp kl jn n c (S.mk' x) _ C).bind λp=>Aok S E p.1 p.2:=X _ _;rw[I]at h;cases hv:CZ cf nt drawn lp kl jn n c (S.mk' x) _ C with
  |none=>rw[hv]at h;simp[QX]at h
  |some p=>
   obtain⟨e,q⟩:=p;rw[hv]at h;have h:QX (BM (Rt S E<|CZ cf nt drawn lp kl jn n c) f) (Aok S E e q)=C y:=h;refine GR ok eqok cfok dok W F c n _ q e a w _ hl hv r λe' a' w' he r'=>?_;have hout:∀z,IA E e q=C z->z=y->Q e' a' w':=by intro z hz e1;subst e1;obtain⟨h4,h2,h3⟩:=UT F E hz r' C _ hy;simp at h2;obtain⟨rfl,rfl⟩:=h2;exact hQ _ _ _ he h3
   have B:∀o:Option<|Sum (S.T G)<|Fp G E,QX (BM (Rt S E<|CZ cf nt drawn lp kl jn n c) f) o=C y->(∃x1,o=C (.inl x1)/\BM (Rt S E<|CZ cf nt drawn lp kl jn n c) f x1=C y)\/o=C (.inr y):=by
    intro o ho;unfold QX at ho;split at ho
    .exact .inl ⟨_,rfl,ho⟩
    .simp at ho;subst ho;exact .inr rfl
    .simp at ho
   have R:∀(A:e≠ .normal),Aok S E e q=(match IA E e q with|some y=>C (Sum.inr (α:=S.T G) y)|none=>N):=by
    intro A;cases e with
    |normal=>exact absurd rfl A
    |exit i=>rfl
    |ret=>rfl
   by_cases A:e=.normal
   .subst A;have hn:Aok S E .normal q=(match S.take q with|some x=>C (Sum.inl (β:=Fp G E) x)|none=>N):=rfl;rw[KO he];rcases B _ h with⟨x1,h1,h2⟩|h1
    .rw[hn]at h1;split at h1
     .rename_i x2 h0
      have:x2=x1:=by simpa using h1
      subst this;exact Ajo hl W F hy hQ f x2 a' w' h2<|Spec.take_rel h0 r' F
     .simp at h1
    .rw[hn]at h1;split at h1<;>simp at h1
   .have hr:=R A;rcases B _ h with⟨x1,h1,h2⟩|h1
    .rw[hr]at h1;split at h1<;>simp at h1
    .rw[hr]at h1;split at h1
     .rename_i z hz;have L:=hout z hz (by simpa using h1);cases e with
      |normal=>exact absurd rfl A
      |exit i=>rw[WO he]at L|-;exact L
      |ret=>rw[SH he]at L|-;exact L
     .simp at h1
include ok eqok cfok dok in
theorem Bkd{S:aF}{E:List<|Ex×aF}{c:Code}{n:Nat}(hl:∀(k:Nat) B,(Bt c)[k]?=C B->aM P G nt (lp<|n+k) B){L:S.T G->Option (Fp G E)}
  (W:∀x y,L x=C y->∃f,BM (Rt S E<|CZ cf nt drawn lp kl jn n c) f x=C y):aM P G nt (lpX S E L) c:=by
 refine⟨λst R k=>?_,λst X F h cx a w Q q e r I=>?_⟩
 .unfold lpX;cases S.take st with
  |none=>rfl
  |some x=>
   simp only;cases L x with
   |none=>rfl
   |some y=>exact Oh E y k
 .unfold lpX at h;cases z:S.take st with
  |none=>rw[z]at h;simp at h
  |some x=>
   rw[z]at h;simp only at h;cases A:L x with
   |none=>rw[A]at h;simp at h
   |some y=>rw[A]at h;obtain⟨f,hf⟩:=W x y A;exact wp_loop_rounds f<|Ajo ok eqok cfok dok hl q e h I f x a w hf<|Spec.take_rel z r e
end
end Go.Ab
namespace Go.Ab
variable{G:aD}
variable{h:Nat->Option (aB G.T)}{Q:Nat->Code->Prop}{l:List (Nat×Fe G)}{ν:Nat->Option Value}{g:Nat->Option Nat}{n:Nat}{ns:List Nat}{c:Cv G.T}{P:Program}{v:Value}
section
variable{h h':Nat->Option (aB G.T)}
def Ajp{t:Nat}(hh:h' n=h n):XC h' n t=XC h n t:=by unfold XC;rw[hh]
def Aj0{s:aE}(hh:∀n∈c.ows,h' n=h n):s.take h' c=s.take h c:=by
 cases c with
 |own n=>
  have:=hh n (by simp[Cv.ows])
  cases s with
  |own m t=>simp only[CSh.take];rw[Ajp this]
  |ro t=>simp only[CSh.take];rw[Ajp this]
  |_=>rfl
 |sc v=>cases s<;>first|rfl|(cases v<;>rfl)
 |_=>cases s<;>rfl
def ZL:∀{s:List aE}{cs:List<|Cv G.T},(∀c∈cs,∀n∈c.ows,h' n=h n)->IB h' s cs=IB h s cs
 |[],[],_=>rfl
 |[],_::_,_=>rfl
 |_::_,[],_=>rfl
 |s::e,c::cs,hh=>by simp only[IB];rw[Aj0<|hh c σ,ZL λc a=>hh c (by simp[a])]
def Azc{s:aC}{x:Pv G.T}(hh:∀c∈x.cells,∀n∈c.ows,h' n=h n):s.take h' x=s.take h x:=by
 cases s with
 |one s=>cases x with
  |one c=>exact Aj0<|hh c (by simp[aY])
  |agg cs=>rfl
 |agg a=>cases x with
  |one c=>rfl
  |agg cs=>exact ZL hh
def Af1{tm:List<|Nat×Sv G.T}(hh:∀k x,O tm k=C (.p x)->∀c∈x.cells,∀n∈c.ows,h' n=h n):∀(s:List<|Nat×aC),Ir h' tm s=Ir h tm s
 |[]=>rfl
 |p::t=>by
  simp only[Ir];cases hg:O tm p.1 with
  |none=>rfl
  |some v=>
   cases v with
   |tup _=>rfl
   |p c=>simp only;rw[Azc<|hh _ _ hg,Af1 hh t]
def Af0:∀(s:List<|Nat×List aE),(∀n∈AH s,h' n=h n/\∀cs,h n=C (.cells cs)->∀c∈cs,∀n∈c.ows,h' n=h n)->Km h' s=Km h s
 |[],_=>rfl
 |p::t,hh=>by
  have h1:=hh p.1 (by simp[AH]);simp only[Km];rw[h1.1];cases hg:h p.1 with
  |none=>rfl
  |some k=>
   cases k with
   |row _ _=>rfl
   |cells cs=>simp only;rw[ZL<|h1.2 cs hg,Af0 t λn a=>hh n (by simp[AH,a])]
end
def Ar7{T:Nat->Type}{c a:Cv T}(h:c.ren (Adf ns) g=C a):∀n∈a.ows,n∈c.ows/\n<Z/\n∉ns:=by
 cases c with
 |own n=>
  simp only[Cv.ren]at h;split at h
  .rename_i m hm;cases h;obtain⟨rfl,y,r⟩:=Ajq hm;intro n e;simp[Cv.ows]at e|-;subst e;exact⟨rfl,y,r⟩
  .cases h
 |ptr n off=>simp only[Cv.ren]at h;split at h<;>cases h;simp[Cv.ows]
 |clo k p q=>simp only[Cv.ren]at h;split at h<;>cases h;simp[Cv.ows]
 |np n t=>simp only[Cv.ren]at h;split at h<;>cases h;simp[Cv.ows]
 |sc v=>cases h;simp[Cv.ows]
 |ro t l=>cases h;simp[Cv.ows]
 |rp t x o=>cases h;simp[Cv.ows]
 |pd _ _ _ _ _=>cases h
 |pr _ _ _ _=>cases h
 |sa _ _ _=>cases h
def Aox{T:Nat->Type}{cs e:List<|Cv T}(h:DT (Cv.ren (Adf ns) g) cs=C e):∀A∈e,∀n∈A.ows,(∃c∈cs,n∈c.ows)/\n<Z/\n∉ns:=by
 intro A r n I;obtain⟨L,E⟩:=CX _ _ h;obtain⟨i,hi⟩:=c9_.1 r;have a:i<cs.length:=by have:=(e_.1 hi).1;omega
 obtain⟨z,y,q⟩:=E i _<|h_ a;rw[hi]at y;cases y;obtain⟨B,F⟩:=Ar7 q n I;exact⟨⟨cs[i],R_ a,B⟩,F⟩
def Af3{ns:List Nat}{h1 a:Nat->Option (aB G.T)}{nm:Nat}{rd e:List Nat}{args:List<|Pv G.T}{g:Nat}(q:e=rd):∀(l:List<|Nat×Fe G),(∀I:aF,QL I a ns.length args=QL I h1 ns.length args)->
  TW ns a nm e args g l=TW ns h1 nm rd args g l
 |[],_=>rfl
 |p::r,h=>by subst q;funext R k;simp only[TW];rw[h p.2.I,Af3 rfl r h]
def Be0(l:List<|Nat×Fe G):Adq<|cfP l:=by
 intro g args h h' nm out ha hh;unfold cfP at ha|-;generalize hw:XB args=ns at ha|-;obtain⟨e,A,h1⟩:=aK ha;obtain⟨hj,h2⟩:=aJ h1;have h7:out.rd=ns++Aaq ns h args:=by obtain⟨p,_,_,t,_,F⟩:=UU h2;obtain⟨y,p,s,bl,_,_,_,hf⟩:=Ad4 F;obtain⟨_,_,_,_,_,_,_,_,_,rfl,_⟩:=Aix hf;rfl
 rw[h7]at hh;have h3:∀n∈ns,h' n=h n:=λn E=>hh n (by simp[E]);have h6:Aaq ns h' args=Aaq ns h args:=by
  unfold Aaq;congr 1
  have:∀l:List Nat,(∀n∈l,h' n=h n)->(l.flatMap λn=>match h' n with|some (.cells cs)=>cs.flatMap Cv.ows|_=>[])=l.flatMap λn=>match h n with|some (.cells cs)=>cs.flatMap Cv.ows|_=>[]:=by
   intro l;induction l with
   |nil=>intro _;rfl
   |cons a t ih=>intro hl;simp only[X_];rw[hl a σ,ih λn E=>hl n (by simp[E])]
  exact this ns h3
 have h0:∀(i n:Nat),ns[i]?=C n->Fa ns h' (Z+i)=Fa ns h (Z+i):=by intro i n hi;unfold Fa;rw[MB.2 (by omega:Z<=Z+i)];simp only[i_,b0_,hi];rw[h3 n<|p_ hi]
 have L:∀n,n<Z->(n∈ns\/n∈Aaq ns h args)->Fa ns h' n=Fa ns h n:=by
  intro n E hm;unfold Fa;cases hb:aN Z n with
  |true=>have:=MB.1 hb;omega
  |false=>
   cases F:has ns n with
   |true=>rfl
   |false=>simp only[j_];rw[hh n (by rcases hm with hm|hm<;>simp[hm])]
 have R:∀I:aF,QL I (Fa ns h') ns.length e=QL I (Fa ns h) ns.length e:=by
  intro I;unfold QL;cases hb:aH e.length I.tm.length&&aH ns.length I.hp.length&&VU Z _ with
  |false=>rfl
  |true=>
   simp only[b_,AQ]at hb;obtain⟨⟨hu,ht⟩,hs⟩:=hb;have hl:∀l:List _,(AH l).length=l.length:=by intro l;induction l with|nil=>rfl|cons p t ih=>simp[AH,ih]
   have e1:Ir (Fa ns h') (IH 0<|e.map Sv.p) I.tm=Ir (Fa ns h) (IH 0<|e.map Sv.p) I.tm:=by
    refine Af1 (λk x hk c F n E=>?_) I.tm;rw[Xe]at hk;simp at hk;have hx:=p_ hk;obtain⟨m1,m2⟩:=CX _ _ A;obtain⟨i,hi⟩:=c9_.1 hx;have h4:i<args.length:=by have:=(e_.1 hi).1;omega
    obtain⟨z,hz,q⟩:=m2 i _<|h_ h4;rw[hi]at hz;cases hz;have hr:(∃W∈(args[i]).cells,n∈W.ows)/\n<Z/\n∉ns:=by
     generalize args[i]=u at q;cases u with
     |one W=>
      simp only[Pv.ren]at q;split at q
      .rename_i c1 he;cases q;simp[aY]at F;subst F;obtain⟨q1,q2⟩:=Ar7 he n E;exact⟨⟨W,by simp[aY],q1⟩,q2⟩
      .cases q
     |agg cs=>
      simp only[Pv.ren]at q;split at q
      .rename_i h8 B;cases q;exact Aox B c F n E
      .cases q
    obtain⟨⟨W,k1,k2⟩,k3,k4⟩:=hr;refine L n k3<|.inr ?_;exact m_.2<|.inl<|c2_.2 ⟨args[i],R_ h4,c2_.2 ⟨W,k1,k2⟩⟩
   have e2:Km (Fa ns h') I.hp=Km (Fa ns h) I.hp:=by
    refine Af0 I.hp λn E=>?_;obtain⟨i,hi⟩:=c9_.1 E;have h9:=Vv hs i n hi;have Y:i<ns.length:=by have:=(e_.1 hi).1;rw[hl]at this;omega
    have X:=h_ Y;subst h9;refine⟨h0 i _ X,λcs r c F n E=>?_⟩;unfold Fa at r;rw[MB.2 (by omega:Z<=Z+i)]at r;simp only[ b0_,X]at r;unfold Ak4 at r;split at r
    .rename_i hv h5;split at r
     .rename_i h8 B;cases r;obtain⟨⟨W,k1,k2⟩,k3,k4⟩:=Aox B c F n E;refine L n k3<|.inr ?_;refine m_.2<|.inr<|c2_.2 ⟨ns[i],R_ Y,?_⟩;rw[h5];exact c2_.2 ⟨W,k1,k2⟩
     .cases r
    .cases r
   rw[e1,e2]
 simp only[aI,aQ,A,hj];rw[Af3 (by rw[h6]) l R];exact h2
def Hu(h:Nat->Option (aB G.T)):Cv G.T->Option (Cv G.T)
 |.sc v=>C<|.sc v
 |.ro t l=>C<|.ro t l
 |.own m=>match h m with|some (.row t l)=>C (.ro t l)|_=>N
 |_=>N
def Aam(h:Nat->Option (aB G.T))(n ty:Nat):Option<|G.T ty:=match h n with
 |some (.cells cs)=>match DT (Hu h) cs with|some a=>bif aH a.length (G.sz ty)then G.dec ty a else N|none=>N
 |_=>N
def TH(h:Nat->Option (aB G.T))(n:Nat):List Nat:=match h n with
 |some (.cells cs)=>cs.flatMap Cv.ows
 |_=>[]
def Rq:List (Nat×Fe G)->Nat->Option Nat
 |[],_=>N
 |p::r,g=>bif aH p.1 g then match p.2.I.tm with
   |[(_,.one<|.rp ty 0)]=>C ty
   |_=>Rq r g
  else Rq r g
def WY(G:aD):List (Nat×Option (aB G.T))->Bool
 |[]=>J
 |(_,C<|.row t _)::r=>G.flat t&&WY G r
 |_::_=>U
def At8{T:Nat->Type}:Option (Sv T)->Bool
 |some s=>s.cells.all Sr
 |none=>J
def Alg(l:List<|Nat×Fe G)(ty n g:Nat)(h:Nat->Option (aB G.T))(nm:Nat):M<|aA G:=aI (aQ<|Aam h n ty) λx=>aI (cfP l g [.one<|.rp ty x 0] (λ_=>N) nm) λout=>aI (aR<|At8 out.v&&WY G out.d) λ_=>aG ⟨out.v,out.d,out.nw,n::TH h n⟩
def cfQ(l:List<|Nat×Fe G):Dc G:=λg args h nm=>match args with
 |[.one<|.ptr n 0]=>match Rq l g with
  |some ty=>Alg l ty n g h nm
  |none=>cfP l g args h nm
 |_=>cfP l g args h nm
def Aml{g nm:Nat}{args:List<|Pv G.T}(e:¬∃n ty,args=[.one<|.ptr n 0]/\Rq l g=C ty):cfQ l g args h nm=cfP l g args h nm:=by
 unfold cfQ;split
 .split
  .rename_i n _ ty a;exact absurd ⟨n,ty,rfl,a⟩ e
  .rfl
 .rfl
def Agu{g nm ty:Nat}(a:Rq l g=C ty):cfQ l g [.one<|.ptr n 0] h nm=Alg l ty n g h nm:=by unfold cfQ;simp only[a]
def An3{h':Nat->Option (aB G.T)}(hh:∀m∈c.ows,h' m=h m):Hu h' c=Hu h c:=by
 cases c with
 |own m=>simp only[Hu];rw[hh m (by simp[Cv.ows])]
 |_=>rfl
def XS{h h':Nat->Option (aB G.T)}:∀{cs:List<|Cv G.T},(∀m∈cs.flatMap Cv.ows,h' m=h m)->DT (Hu h') cs=DT (Hu h) cs
 |[],_=>rfl
 |c::t,hh=>by simp only[X_,m_]at hh;simp only[DT];rw[An3 λm hm=>hh m<|.inl hm,XS λm hm=>hh m<|.inr hm]
def Ae3{ty g nm:Nat}{out:aA G}(e:Alg l ty n g h nm (aA G) C=C out):
  ∃x out1,Aam h n ty=C x/\cfP l g [.one<|.rp ty x 0] (λ_=>N) nm (aA G) C=C out1/\At8 out1.v=J/\WY G out1.d=J/\out=⟨out1.v,out1.d,out1.nw,n::TH h n⟩:=by
 obtain⟨x,q,h1⟩:=aK e;have hl:Law<|cfP l g [.one<|.rp ty x 0] (λ_=>N) nm:=Ad (Bb _) λ_=>Ad (Ay _) λ_=>Acz _ _ _ _ _ _ _;obtain⟨out1,y,r⟩:=hl.spec h1;obtain⟨hf,a⟩:=aJ r;rw[b_]at hf;simp[aG]at a;exact⟨x,out1,q,y,hf.1,hf.2,a.symm⟩
def Aab(l:List<|Nat×Fe G):Adq<|cfQ l:=by
 intro g args h h' nm out a hh;by_cases r:∃n ty,args=[.one<|.ptr n 0]/\Rq l g=C ty
 .obtain⟨n,ty,rfl,q⟩:=r;rw[Agu q]at a|-;obtain⟨x,out1,A,_,_,_,rfl⟩:=Ae3 a;have h1:=hh n σ;have e:Aam h' n ty=Aam h n ty:=by
   unfold Aam;rw[h1];cases y:h n with
   |none=>rfl
   |some k=>
    cases k with
    |row=>rfl
    |cells cs=>
     have:∀m∈cs.flatMap Cv.ows,h' m=h m:=λm hm=>hh m (by
      have:TH h n=cs.flatMap Cv.ows:=by unfold TH;rw[y]
      rw[this];simp[hm])
     simp only[XS this]
  have z:TH h' n=TH h n:=by unfold TH;rw[h1]
  unfold Alg at a|-;rw[e,z];exact a
 .rw[Aml r]at a|-;exact Be0 l g args h h' nm out a hh
def At9{s:Sv G.T}{S S':Nat->Prop}{h:Array Obj}(hf:At8 (C s)=J)(r:Rs G ν S h s v):Rs G ν S' h s v:=Asc (λc a=>G_.1 hf c a) r
def Aeo:∀{d:List<|Nat×Option (aB G.T)}{h:Nat->Option (aB G.T)}{n:Nat}{k:aB G.T},WY G d=J->n∈DD d->BB h d n=C k->∃t l,k=.row t l/\G.flat t=J
 |[],_,_,_,_,a,_=>by simp[DD]at a
 |(m,q)::t,h,n,k,hf,a,e=>by
  cases q with
  |none=>simp[WY]at hf
  |some q=>
   cases q with
   |cells cs=>simp[WY]at hf
   |row u l=>
    simp only[WY,b_]at hf;simp only[BB]at e;by_cases r:n∈DD t
    .exact Aeo hf.2 r e
    .rw[KM t _ n r]at e;simp only[DD,A_]at a;have a:n=m:=a.resolve_right r;subst a;simp at e;exact⟨u,l,e.symm,hf.1⟩
def Bcn(ok:aO P G){S S':Nat->Prop}{h:Array Obj}{t:Nat}{l:List<|G.T t}(hf:G.flat t=J)(r:Rb G ν S h n<|.row t l):Rb G ν S' h n<|.row t l:=by
 rcases r with r|⟨b,a,c,te,h1,R,F,I,y,B⟩
 .exact .inl r
 .refine .inr ⟨b,a,c,te,h1,R,F,I,λi j x q E e=>?_,B⟩;obtain⟨v,L,z⟩:=y i j x q E e;refine⟨v,L,?_⟩;obtain⟨u,rfl⟩:=ok.flatd t x q hf<|p_ e;cases z with
  |sc _ A=>exact .sc _ A
def Bfr{S S2 B:Nat->Prop}{w:World}(X:HRel G ν S B h w)(I:∀b,S b->S2 b){L:Cv G.T}(q:Hu h c=C L)(F:Rc G ν S w.heap c v)
  (hL:∀m∈c.ows,∀z b,ν m=C z->AX z=C b->S2 b):Rd G S2 w.heap L v:=by
 cases c with
 |sc u=>simp[Hu]at q;subst q;exact Rd.mono I (λ_ _=>rfl) F
 |ro t l=>simp[Hu]at q;subst q;exact Rd.mono I (λ_ _=>rfl) F
 |own m=>
  simp only[Hu]at q;split at q
  .rename_i t l hm;simp at q;subst q;obtain⟨a,len,h0,e,rfl⟩:=F;rcases X.blk m _ hm with⟨h1,rfl⟩|⟨b,r,c,te,h1,h2,h3,h4,R,h6⟩
   .rw[h1]at e;have e:=s_ e;rw[<-e];exact .nil t N 0
   .rw[h1]at e;have e:=s_ e;rw[<-e];have y:∀i j,i<l.length->j<G.sz t->c[0+i*G.sz t+j]?=C (c.getD _ undef):=λi j hi hj=>by
     have:0+i*G.sz t+j<c.size:=by
      have h7:(i+1)*G.sz t<=r*G.sz t:=w_ _ ω;have h8:(i+1)*G.sz t=i*G.sz t+G.sz t:=by rw[a0_,bA]
      omega
     rw[ v_,c0_ this];rfl
    refine .ro t l b 0 r c te (0,0) _ (hL m (by simp[Cv.ows]) _ b h1 rfl) h2 (.inl h6.1) h3 y λi j x W hx A=>?_;obtain⟨u,Y,E⟩:=R i j x W hx A
    have:c.getD (0+i*G.sz t+j) undef=u:=by rw[n_,v_,Y];rfl
    rw[this];exact Rd.mono I (λ_ _=>rfl) E
  .cases q
 |_=>simp[Hu]at q
def OW(ok:aO P G)(hT:∀p∈l,Ha P G p.1 p.2):CfOK P G<|cfQ l:=by
 have hP:=Bjc ok hT;refine⟨λg args h nm=>?_,λg args h nm out hout=>?_⟩
 .by_cases hn:∃n ty,args=[.one<|.ptr n 0]/\Rq l g=C ty
  .obtain⟨n,ty,rfl,hh⟩:=hn;rw[Agu hh];exact Ad (Bb _) λ_=>Ad (hP.law _ _ _ _) λ_=>Ad (Ay _) λ_=>Ai _
  .rw[Aml hn];exact hP.law _ _ _ _
 by_cases hn:∃n ty,args=[.one<|.ptr n 0]/\Rq l g=C ty
 .obtain⟨n,ty,rfl,hh⟩:=hn;rw[Agu hh]at hout;obtain⟨x,out1,E,hp,x7,xg,rfl⟩:=Ae3 hout;obtain⟨x3,h7⟩:=hP.calls _ _ _ _ _ hp;refine⟨x3,λν S B w xl L hB xf h6=>?_⟩;unfold Aam at E;cases R:h n with
  |none=>rw[R]at E;simp at E
  |some k=>
  cases k with
  |row t l=>rw[R]at E;simp at E
  |cells cs=>
  rw[R]at E;simp only at E;cases h8:DT _ cs with
  |none=>rw[h8]at E;simp at E
  |some x0=>
  rw[h8]at E;simp only at E;cases h4:aH x0.length _ with
  |false=>rw[h4]at E;simp at E
  |true=>
  rw[h4]at E;have h4:=AQ.1 h4;have xi:=ok.encdec ty x0 x E;obtain⟨xm,x1⟩:=CX _ _ h8;obtain⟨v,t,rfl,hv,ht⟩:=h6.inv;have ht:=ht.inv_nil;subst ht;cases hv with
  |one _ _ hv=>
  obtain⟨b,hw,rfl⟩:=hv;obtain⟨b',c,te,Y,q2,q3,_⟩:=L.blk n _ R;rw[hw]at Y;have Y:=s_ Y;obtain rfl:b=b':=by injection Y with Y;injection Y with Y;injection Y
  have h0:∀m z c,h m≠N->ν m=C z->AX z=C c->c<w.heap.size:=λm z c hm r hc=>by
   cases a:h m with
   |none=>exact absurd a hm
   |some k=>
    have hb:=L.blk m k a;cases k with
    |cells cs=>
     obtain⟨b1,c1,ha,r1,r2,_⟩:=hb;rw[r]at r1;have r1:=s_ r1;subst r1
     have:b1=c:=by simpa[AX]using hc
     subst this;exact(J_.1 r2).1
    |row t l=>
     rcases hb with⟨r1,_⟩|⟨b1,xj,c1,ha,r1,r2,_⟩
     .rw[r]at r1;have r1:=s_ r1;subst r1;simp[AX]at hc
     .rw[r]at r1;have r1:=s_ r1;subst r1
      have:b1=c:=by simpa[AX]using hc
      subst this;exact(J_.1 r2).1
  let S2:Nat->Prop:=λq=>S q\/∃m z,h m≠N/\ν m=C z/\AX z=C q
  have x5:∀q,S q->S2 q:=λq hq=>.inl hq;have x6:∀m,m∈cs.flatMap Cv.ows->h m≠N:=λm hm=>by obtain⟨c1,xd,x4⟩:=c2_.1 hm;obtain⟨i,hi⟩:=List.getElem?_of_mem xd;obtain⟨y,_,hy⟩:=x1 i c1 hi;cases c1<;>simp[Cv.ows]at x4;subst x4;intro xa;simp[Hu,xa]at hy
  have xk:Rd G S2 w.heap (.rp ty x 0)<|.pointer<|C ⟨b,0,N⟩:=by
   refine .rp ty x 0 b 0 c te (0,0) (λj=>c.getD (0+j) undef) (.inr ⟨n,_,by rw[R];simp,hw,rfl⟩) q2 (λj hj=>?_) λj cv h5=>?_
   .have:0+j<c.size:=by have h9:cs.length=c.size:=(by have h9:=q3.1;rwa [Array.length_toList]at h9);omega
    rw[ v_,c0_ this];rfl
   .rw[xi]at h5;have hj:j<cs.length:=by have:=(e_.1 h5).1;omega
    obtain⟨y,h3,x8⟩:=x1 j _<|h_ hj;rw[h5]at h3;have h3:=s_ h3;subst h3;obtain⟨u,hu⟩:∃u,c.toList[j]?=C u:=⟨_,h_ (by rw[<-q3.1];exact hj)⟩
    have xb:=q3.2 j _ u (h_ hj) hu
    have:c.getD (0+j) undef=u:=by rw[n_,v_];rw[Array.getElem?_toList]at hu;rw[hu];rfl
    simp only[this];exact Bfr L x5 x8 xb λm hm z q r hq=>.inr ⟨m,z,x6 m<|c2_.2 ⟨_,R_ hj,hm⟩,r,hq⟩
  have xc:∀q,S2 q->q<w.heap.size:=λq hq=>by
   rcases hq with hq|⟨m,z,Y,q2,q3⟩
   .exact L.stay q hq
   .exact h0 m z q Y q2 q3
  have xe:HRel G ν S2 (λq=>w.heap.size<=q) _ w:={
   blk:=λm k a=>(by cases a)
   apart:=λW F y z q a=>absurd rfl a
   own:=λm y q a=>absurd rfl a
   stay:=xc
   gl:=L.gl.mono x5 λ_ _=>rfl }
  refine(h7 ν S2 _ w _ xe (λq hq=>hq) xf<|aU (.one _ _ xk) .nil).mono λe w' ⟨v',ν',S',he,p⟩=>⟨v',ν',S,he,?_⟩
  have I:=λq hq=>p.frame q hq λm _ hm=>absurd rfl hm;have le:Le ν ν' S S w.heap w'.heap:=⟨p.nu,λ_ h=>h,λq hq=>I q<|L.stay q hq⟩
  have hin:∀m,m∈DD out1.d->BB h out1.d m=BB (λ_=>N) out1.d m:=λm hm=>VL _ _ _ _<|.inr hm;have A:∀m z,h m≠N->ν' m=C z->ν m=C z:=λm z hm r=>by
   cases a:h m with
   |none=>exact absurd a hm
   |some k=>
    have hb:=L.blk m k a;cases k with
    |cells cs=>obtain⟨b1,c1,ha,r1,_⟩:=hb;rw[p.nu _ _ r1]at r;rw[r1];exact r
    |row t l=>rcases hb with⟨r1,_⟩|⟨b1,xj,c1,ha,r1,_⟩<;>(rw[p.nu _ _ r1]at r;rw[r1];exact r)
  refine⟨p.nu,p.new,λ_ h=>h,λ_ h=>.inl h,⟨λm k a=>?_,λW F y z q h1 X hy r e1 e2=>?_,λm y q hm hy e=>?_,λq hq=>?_,L.gl.mono (λ_ h=>h) λq hq=>I q<|L.stay q hq⟩,λs hs=>?_,p.size,λq hq _=>I q hq,p.env⟩
  .by_cases hm:m∈DD out1.d
   .have x2:=a;rw[hin m hm]at x2;have hb:=p.rel.blk m k x2;obtain⟨t,l,rfl,x9⟩:=Aeo xg hm a;exact Bcn ok x9 hb
   .simp only at a;rw[KM _ _ _ hm]at a;exact(L.blk m k a).mono le λz q r hq=>I q<|h0 m z q (by rw[a];simp) r hq
  .by_cases i1:W∈DD out1.d
   .rw[show BB h out1.d W=_ from hin W i1]at h1;by_cases i2:F∈DD out1.d
    .rw[show BB h out1.d F=_ from hin F i2]at X;exact p.rel.apart W F y z q h1 X hy r e1 e2
    .rw[show BB h out1.d F=_ from KM _ _ _ i2]at X;have g1:=(p.rel.own W y q h1 hy e1).2;have g2:=h0 F z q X (A F z X r) e2;omega
   .rw[show BB h out1.d W=_ from KM _ _ _ i1]at h1;by_cases i2:F∈DD out1.d
    .rw[show BB h out1.d F=_ from hin F i2]at X;have g1:=(p.rel.own F z q X r e2).2;have g2:=h0 W y q h1 (A W y h1 hy) e1;omega
    .rw[show BB h out1.d F=_ from KM _ _ _ i2]at X;exact L.apart W F y z q h1 X (A W y h1 hy) (A F z X r) e1 e2
  .by_cases i1:m∈DD out1.d
   .rw[show BB h out1.d m=_ from hin m i1]at hm;have g1:=(p.rel.own m y q hm hy e).2;exact⟨λhS=>by have:=L.stay q hS;omega,hB q g1⟩
   .rw[show BB h out1.d m=_ from KM _ _ _ i1]at hm;exact L.own m y q hm (A m y hm hy) e
  .have:=L.stay q hq
   have:=p.size
   omega
  .have hs:=hs;rw[hs]at x7;exact At9 x7<|p.val s hs
 .rw[Aml hn]at hout;exact hP.calls _ _ _ _ _ hout
def WM(cf:Dc G)(lp:Nat->V G->M (Ex×V G))(jn:Nat->Option (List<|Ex×aF))(nt:Nat)(a:Code)(I:aF)(E:List<|Ex×aF)(x:I.T G):Option<|Fp G E:=CZ cf nt (VQ cf nt) lp (λ_=>[]) jn 0 a (I.mk' x) _ λp=>IA E p.1 p.2
def Ade(cf:Dc G)(lp:Nat->V G->M (Ex×V G))(jn:Nat->Option (List<|Ex×aF))(nt:Nat)(n:Nat)(a:Code)(S:aF)(E:List<|Ex×aF)(x:S.T G):Option<|Sum (S.T G)<|Fp G E:=Rt S E (CZ cf nt (VQ cf nt) lp (λ_=>[]) jn n a) x
def DF:Nat:=18446744073709551616
@[reducible] def lp{F X Y:Type}[Ur F X Y][Un X F<|Option<|Sum X Y](f:F):X->Option Y:=BM (Un.u f) DF
def BV(f:Func):Code:=f.body.getD .skip
def Pi(c:Code)(n:Nat):Code:=(Bt c)[n]?.getD .skip
section
variable{P:Program}(ok:aO P G)(eqok:EqOK P G)(hm:P.follows .mixedOrders=J){l:List (Nat×Fe G)}(hl:∀p∈l,Ha P G p.1 p.2){lp:Nat->V G->M (Ex×V G)}{jn:Nat->Option (List (Ex×aF))}
include ok eqok hm hl in
theorem Bft{nt k:Nat}{c:Code}(S:aF)(E:List<|Ex×aF)(R:S.T G->Option (Sum (S.T G)<|Fp G E))(e:lp k=lpX S E (BM R DF))(hin:∀(k:Nat) a,(Bt c)[k]?=C a->aM P G nt (lp<|n+k) a)
  (q:∀x,Ade (cfQ l) lp jn nt n c S E x=R x):aM P G nt (lp k) c:=by
 rw[e];exact Bkd ok eqok (OW ok hl) (Ut ok eqok (OW ok hl) (Aab l) hm) hin λx _ h=>⟨DF,by rw[show Rt S E _=R from funext q];exact h⟩
include ok eqok hm hl in
theorem Bmb {g : Nat} {fn : Func} (z : P.funcs[g]? = C fn) (q : (fn.name == "runtime.NumGoroutine") = U) (a : fn.body = C (BV fn)) {e : Fe G} (A : fn.results.toList = e.rs) (r : aN e.I.tm.length fn.ntmps = J)
  (y:∀(k:Nat) B,(Bt<|BV fn)[k]?=C B->aM P G fn.ntmps (lp k) B) (L:∀x,WM (cfQ l) lp jn fn.ntmps (BV fn) e.I e.E x=e.F x):Ha P G g e:=
 Aqh ok eqok (OW ok hl) z q a A (MB.1 r) (Ut ok eqok (OW ok hl) (Aab l) hm) y λx _ h=>(L x).trans h
end
def IT(Q:Nat->Code->Prop)(n:Nat)(l:List Code):Prop:=∀(k:Nat) a,l[k]?=C a->Q (n+k) a
def Fw:IT Q n []:=λk a h'=>by simp at h'
def CN{t:List Code}{c:Code}(h0:Q n c)(a:IT Q (n+1) t):IT Q n<|c::t:=λk e h'=>by
 cases k with
 |zero=>simp at h';subst h';exact h0
 |succ k=>have:=a k e (by simpa using h');rwa [show n+(k+1)=n+1+k by omega]
def Al2{l:List Code}(a:List Code)(h:l=a)(h':IT Q n a):IT Q n l:=h▸h'
def Adt{l:List Code}(h:IT Q 0 l):∀(k:Nat) a,l[k]?=C a->Q k a:=λk a e=>by have:=h k a e;rwa [n_]at this
end Go.Ab
namespace Go.Ab
variable{G:aD}
structure Ctx(P:Program)(G:Sig):Prop where
 ok:SigOK P G
 eqok:EqOK P G
 hm:P.follows .mixedOrders=true
def Ac5:aC:=.one<|.int .u64
def ob:aC:=.one .bool
def os:aC:=.one .str
def op(n:Nat):aC:=.one<|.ptr n 0
def oro(t:Nat):aC:=.one<|.ro t
abbrev Sp:=aF
abbrev SL:=List (Ex×aF)
def jl(l:List<|Nat×SL):Nat->Option SL:=λn=>O l n
def lf:V G->M (Ex×V G):=λ_=>aP
def pl:List (V G->M (Ex×V G))->Nat->V G->M (Ex×V G)
 |[],_=>lf
 |a::_,0=>a
 |_::t,n+1=>pl t n
inductive Sk where
 |i (k:IntKind)|b|s|f (k:FloatKind)|l (t:Nat)
def Sk.T(T:Nat->Type):Sk->Type
 |.i _=>Int
 |.b=>Bool
 |.s=>ByteArray
 |.f _=>Nat
 |.l t=>List<|T t
def SkL(T:Nat->Type):List Sk->Type
 |[]=>Unit
 |a::t=>a.T T×SkL T t
def Ak7(T:Nat->Type)(t a:Nat)(l:List<|T t):Option<|List<|T a:=if h:t=a then C (h▸l)else N
def Ate{T:Nat->Type}{t a:Nat}{l:List<|T t}{q:List<|T a}(h:Ak7 T t a l=C q):∃e:t=a,e▸l=q:=by
 unfold Ak7 at h;split at h
 .rename_i e;simp at h;exact⟨e,h⟩
 .simp at h
def Sk.enc{T:Nat->Type}:(a:Sk)->a.T T->Cv T
 |.i k,n=>.sc<|.int k n
 |.b,x=>.sc<|.bool x
 |.s,x=>.sc<|.string x
 |.f k,n=>.sc<|.float k n
 |.l t,x=>.ro t x
def Sk.dec{T:Nat->Type}:(a:Sk)->Cv T->Option (a.T T)
 |.i k,.sc (.int k' n)=>bif ER k k' then C n else N
 |.b,.sc (.bool x)=>C x
 |.s,.sc (.string x)=>C x
 |.f k,.sc (.float k' n)=>bif OZ k k' then C n else N
 |.l t,.ro e x=>Ak7 T e t x
 |_,_=>N
def NZ{T:Nat->Type}:(l:List Sk)->SkL T l->List (Cv T)
 |[],_=>[]
 |a::t,x=>a.enc x.1::NZ t x.2
def Amz{T:Nat->Type}:(l:List Sk)->List (Cv T)->Option (SkL T l)
 |[],[]=>C ()
 |a::t,c::cs=>match a.dec c,Amz t cs with
  |some x,C y=>C (x,y)
  |_,_=>N
 |_,_=>N
def Sk.dec_ok{T:Nat->Type}{a:Sk}{c:Cv T}{x:a.T T}(h:a.dec c=C x):a.enc x=c:=by
 cases a with
 |i k=>
  cases c with
  |sc v=>
   cases v with
   |int k' n=>
    have h:(bif ER k k' then C n else N)=C x:=h;have e:k=k':=by cases k<;>cases k'<;>first|rfl|(simp[ER]at h)
    subst e;have e:ER k k=J:=by cases k<;>rfl
    rw[e]at h;cases h;rfl
   |_=>cases h
  |_=>cases h
 |b=>
  cases c with
  |sc v=>
   cases v with
   |bool y=>cases h;rfl
   |_=>cases h
  |_=>cases h
 |s=>
  cases c with
  |sc v=>
   cases v with
   |string y=>cases h;rfl
   |_=>cases h
  |_=>cases h
 |f k=>
  cases c with
  |sc v=>
   cases v with
   |float k' n=>
    have h:(bif OZ k k' then C n else N)=C x:=h;have e:k=k':=by cases k<;>cases k'<;>first|rfl|(simp[OZ]at h)
    subst e;have e:OZ k k=J:=by cases k<;>rfl
    rw[e]at h;cases h;rfl
   |_=>cases h
  |_=>cases h
 |l t=>
  cases c with
  |ro q y=>obtain⟨rfl,rfl⟩:=Ate (show Ak7 T q t y=C x from h);rfl
  |_=>cases h
def Arc{T:Nat->Type}:∀{l:List Sk}{cs:List<|Cv T}{x:SkL T l},Amz l cs=C x->NZ l x=cs
 |[],[],_,_=>rfl
 |a::t,c::cs,x,h=>by
  simp only[Amz]at h;split at h
  .rename_i y z q e;cases h;simp only[NZ,Sk.dec_ok q,Arc e]
  .cases h
section
variable{P:Program}
def tn:∀p∈([]:List<|Nat×Fe G),Ha P G p.1 p.2:=λ_ h=>absurd h<|List.not_mem_nil
def tc{g:Nat}{e:Fe G}{l:List<|Nat×Fe G}(h:Ha P G g e)(t:∀p∈l,Ha P G p.1 p.2):∀p∈(g,e)::l,Ha P G p.1 p.2:=List.forall_mem_cons.2 ⟨h,t⟩
def an0{Q:Nat->Code->Prop}{n:Nat}{l:List Code}(h:l=[]):IT Q n l:=h▸Fw
variable(cx:Ctx P G){l:List (Nat×Fe G)}(hl:∀p∈l,Ha P G p.1 p.2)(jn:Nat->Option SL){lp:Nat->V G->M (Ex×V G)}
include cx hl in
theorem lk(n:Nat){nt k:Nat}{c:Code}(S:aF)(E:SL){L:S.T G->Option (Fp G E)}{R:S.T G->Option (Sum (S.T G)<|Fp G E)}(e:L=BM R DF)(a:lp k=lpX S E L)(hin:IT (λk c=>aM P G nt (lp k) c) n<|Bt c)
  (q:∀x,Ade (cfQ l) lp jn nt n c S E x=R x):aM P G nt (lp k) c:=
 Bft cx.ok cx.eqok cx.hm hl S E R (e▸a) hin q
include cx hl in
theorem fk {g : Nat} {fn : Func} (y : P.funcs[g]? = C fn) {e : Fe G} (q : (!(fn.name == "runtime.NumGoroutine") && aN e.I.tm.length fn.ntmps) = J) (a : fn.body = C (BV fn)) (z : fn.results.toList = e.rs)
  (r:IT (λk c=>aM P G fn.ntmps (lp k) c) 0<|Bt<|BV fn) (A:∀x,WM (cfQ l) lp jn fn.ntmps (BV fn) e.I e.E x=e.F x):Ha P G g e:=by
 rw[b_,b4_]at q;exact Bmb cx.ok cx.eqok cx.hm hl y q.1 a z q.2 (Adt r) A
end
end Go.Ab
namespace Go.Ab
structure TyD where
 A:Type
 d:A
def Auj:List (Nat×TyD)->Nat->TyD
 |[],_=>⟨Unit,()⟩
 |p::r,t=>bif aH p.1 t then p.2 else Auj r t
@[reducible] def TOf(tys:List<|Nat×TyD)(t:Nat):Type:=(Auj tys t).A
structure Ent(T:Nat->Type)(t:Nat) where
 ty:Ty
 sz:Nat
 zero:List Value
 enc:T t->List (Cv T)
 dec:List (Cv T)->Option (T t)
 flat:Bool
structure Ent1(T:Nat->Type) where
 t:Nat
 e:Ent T t
def Alh(T:Nat->Type)(t:Nat):Ent T t:=⟨.no,0,[],λ_=>[],λ_=>N,U⟩
def MF{T:Nat->Type}:List (Ent1 T)->(t:Nat)->Ent T t
 |[],t=>Alh T t
 |p::r,t=>if h:p.t=t then h▸p.e else MF r t
def QE(tys:List<|Nat×TyD)(l:List<|Ent1<|TOf tys)(gl:Nat->Option ((t:Nat)×TOf tys t):=λ_=>N)(ext:Nat->Nat:=λ_=>0)(loose:Nat->Bool:=λ_=>J):aD:=
 {T:=TOf tys
  ty:=λt=>(MF l t).ty
  sz:=λt=>(MF l t).sz
  zero:=λt=>(MF l t).zero
  enc:=λt=>(MF l t).enc
  dec:=λt=>(MF l t).dec
  dfl:=λt=>(Auj tys t).d
  flat:=λt=>(MF l t).flat
  gl:=gl
  ext:=ext
  loose:=loose }
def At2:List (Nat×Nat)->Nat->Nat
 |[],_=>0
 |p::r,g=>bif aH p.1 g then p.2 else At2 r g
def plain(T:Nat->Type)(t:Nat)(ty:Ty)(sz:Nat)(zero:List Value):Ent1 T:=⟨t,⟨ty,sz,zero,λ_=>[],λ_=>N,U⟩⟩
variable{P:Program}
def Baf(P:Program)(G:aD)(t:Nat):Ty->Prop
 |.no=>True
 |.bool=>P.underlying t=C .bool
 |.int k=>P.underlying t=C (.int k)
 |.flt k=>P.underlying t=C (.float k)
 |.str=>P.underlying t=C .string
 |.sl e=>P.underlying t=C (.slice e)/\Oa (G.ty e)=U/\(∃i,P.info? e=C i/\aN i.bytes 4096=J)/\∀x,(G.enc e x).length=G.sz e
 |.pt e=>P.underlying t=C (.pointer e)
 |.fn=>∃a b c,P.underlying t=C (.func a b c)
 |.st r=>∃q,P.underlying t=C (.struct q)/\q.toList.map (λf=>(f.offset,f.type))=r/\r.all (λp=>!Oa (G.ty p.2))=J
 |.arr n e=>P.underlying t=C (.array n e)/\Oa (G.ty e)=U
def YZ{T:Nat->Type}:Cv T->Bool
 |.sc _|.ro _ _=>J
 |_=>U
def Aey{T:Nat->Type}:Cv T->Bool
 |.sc _=>J
 |_=>U
structure EntOK(P:Program)(G:Sig)(t:Nat)(e:Ent G.T t):Prop where
 ty:Baf P G t e.ty
 info:e.ty≠ .no->∃i z,P.info? t=some i/\i.size=e.sz/\i.zero=some z/\z.cells.toList=e.zero
 pos:e.ty≠ .no->Nat.ble 1 e.sz=true
 nosz:e.ty=.no->e.sz=0
 zsc:e.zero.all Kg=true
 zlen:e.zero.length=e.sz
 encl:∀x,(e.enc x).length<=e.sz
 encdec:∀cs x,e.dec cs=some x->e.enc x=cs
 encd:∀x,(e.enc x).all YZ=true
 flatd:e.flat=true->∀x,(e.enc x).all Aey=true
 u8d:∀x y,(e.enc x).map u8C=(e.enc y).map u8C
 rod:∀x y,(e.enc x).map roC=(e.enc y).map roC
def Ba4{G:aD}(t:Nat):EntOK P G t<|Alh G.T t:=⟨trivial,λh=>absurd rfl h,λh=>absurd rfl h,λ_=>rfl,rfl,rfl,λ_=>t_ _,λcs x h=>by simp[Alh]at h,λ_=>rfl,λ_ _=>rfl,λ_ _=>rfl,λ_ _=>rfl⟩
def Uu{T:Nat->Type}{Q:(t:Nat)->Ent T t->Prop}(h0:∀t,Q t<|Alh T t):∀{l:List<|Ent1 T},(∀p∈l,Q p.t p.e)->∀t,Q t<|MF l t
 |[],_,t=>h0 t
 |p::r,h,t=>by
  unfold MF;split
  .rename_i e;subst e;exact h p σ
  .exact Uu h0 (λq hq=>h q (by simp[hq])) t
def Xk{y:Ty}(h:Oa y=U):y≠ .no:=by intro e;subst e;simp[Oa]at h
def Am8{P:Program}:∀{l:List<|Nat×Nat},(∀p∈l,Bda P p.1<|Ba8 p.2)->Asj P (At2 l)
 |[],_,g,h=>absurd rfl h
 |p::r,h,g,hg=>by
  unfold At2 at hg|-;cases a:aH p.1 g with
  |true=>rw[i_];rw[<-AQ.1 a];exact h p σ
  |false=>rw[a,j_]at hg;rw[j_];exact Am8 (λq hq=>h q (by simp[hq])) g hg
def Bcp{tys:List<|Nat×TyD}{l:List<|Ent1<|TOf tys}{gl:Nat->Option ((t:Nat)×TOf tys t)}{ext:Nat->Nat}{loose:Nat->Bool}(h:∀p∈l,EntOK P (QE tys l gl ext loose) p.t p.e)(R:Asj P ext):aO P<|QE tys l gl ext loose:=by
 have q:∀t,EntOK P (QE tys l gl ext loose) t<|MF l t:=Uu (T:=TOf tys) (Q:=λt e=>EntOK P (QE tys l gl ext loose) t e) (λt=>Ba4 t) h;have a:∀t,Baf P (QE tys l gl ext loose) t<|(QE tys l gl ext loose).ty t:=λt=>(q t).ty;refine⟨λt e=>?_,λt k e=>?_,λt k e=>?_,λt e=>?_,λt e y=>?_,λt e y=>?_,λt e=>?_,λt Y e=>?_,λt n e y=>?_,λt=>(q t).info,λt L=>?_,λt=>(q t).nosz,λt v X=>?_,λt=>(q t).zlen,λt=>(q t).encl,λt=>(q t).encdec,λt x c z=>?_,λt x c hf z=>?_,λt=>(q t).u8d,λt=>(q t).rod,R⟩
 .have:=a t;rw[e]at this;exact this
 .have:=a t;rw[e]at this;exact this
 .have:=a t;rw[e]at this;exact this
 .have:=a t;rw[e]at this;exact this
 .have:=a t;rw[y]at this
  obtain⟨h1,E,⟨i,B,W⟩,F⟩:=this;exact⟨h1,Xk E,⟨i,B,E_ W⟩,F⟩
 .have:=a t;rw[y]at this;exact this
 .have:=a t;rw[e]at this;exact this
 .have:=a t;rw[e]at this
  obtain⟨r,h1,E,B⟩:=this;refine⟨r,h1,E,λo u A=>Xk ?_⟩
  have:=G_.1 B (o,u) A
  simpa using this
 .have:=a t;rw[y]at this;exact⟨this.1,Xk this.2⟩
 .exact E_<|(q t).pos L
 .exact G_.1 (q t).zsc v X
 .have:=G_.1 ((q t).encd x) c z
  cases c with
  |sc v=>exact .inl ⟨v,rfl⟩
  |ro I l=>exact .inr ⟨I,l,rfl⟩
  |_=>simp[YZ]at this
 .have:=G_.1 ((q t).flatd hf x) c z
  cases c with
  |sc v=>exact⟨v,rfl⟩
  |_=>simp[Aey]at this
end Go.Ab
namespace Go.Ab
variable{G:aD}
variable{P:Program}{x:Value}
structure NamesOK(P:Program)(G:Sig):Prop where
 guard:∀t,(G.ty t).isAgg=true->P.eqGuardType P.depth t=false
 held:∀t fs,G.ty t=.st fs->P.stoodInHeld t=false
 name : ∀ t fs, G.ty t = .st fs -> (P.fieldsOf t).toList.all (λf => f.name != "_") = true
def ME:∀{a b:List Nat},IG a b=J->a=b
 |[],[],_=>rfl
 |[],_::_,h=>by simp[IG]at h
 |_::_,[],h=>by simp[IG]at h
 |x::s,y::t,h=>by simp only[IG,b_]at h;rw[ME h.2,AQ.1 h.1]
def Jt{α:Type}(f:α->Nat)(a:List α):(DS f a).length=a.length:=by
 induction a with
 |nil=>rfl
 |cons x t e=>simp[DS,e]
def Pj{α:Type}(f:α->Nat):∀(xs:List α) (a b:List Nat),DS f xs=a++b->∃u v,xs=u++v/\DS f u=a/\DS f v=b
 |xs,[],b,h=>⟨[],xs,rfl,rfl,h⟩
 |[],_::_,b,h=>by simp[DS]at h
 |x::xs,k::a,b,h=>by simp only[DS,aZ,List.cons.injEq]at h;obtain⟨u,v,h1,q,e⟩:=Pj f xs a b h.2;exact⟨x::u,v,by rw[h1];rfl,by simp[DS,h.1,q],e⟩
def VC{α:Type}:∀(n:Nat) (l a b:List α),MJ n l=C a->NL n l=C b->l=a++b/\a.length=n
 |0,l,a,b,h1,e=>by simp[MJ]at h1;simp[NL]at e;subst h1;subst e;exact⟨rfl,rfl⟩
 |n+1,[],a,b,h1,e=>by simp[MJ]at h1
 |n+1,x::t,a,b,h1,e=>by
  simp only[MJ]at h1;split at h1
  .rename_i l hl;simp at h1;subst h1;simp only[NL]at e;obtain⟨r,q⟩:=VC n t l b hl e;exact⟨by rw[r];rfl,by simp[q]⟩
  .simp at h1
def Vq:∀(a z r e:List Value) (b:Bool),a.length=z.length->Mj (a++r) (z++e)=C b->∃A B,Mj a z=C A/\Mj r e=C B/\b=(A&&B)
 |[],[],r,e,b,_,h=>⟨J,b,rfl,h,σ⟩
 |[],_::_,_,_,_,hl,_=>by simp at hl
 |_::_,[],_,_,_,hl,_=>by simp at hl
 |x::a,y::z,r,e,b,hl,h=>by
  simp only[aZ,Mj]at h;split at h
  .rename_i p q hp hq;simp at h;subst h;obtain⟨A,B,h1,F,E⟩:=Vq a z r e q (by simpa using hl) hq;exact⟨p&&A,B,by simp[Mj,hp,h1],F,by rw[E,Bool.and_assoc]⟩
  .simp at h
def Aja(h:BO x=1):∃p,x=.bool p:=by
 cases x with
 |bool p=>exact⟨p,rfl⟩
 |int k n=>cases k<;>simp[BO]at h
 |float k n=>cases k<;>simp[BO]at h
 |_=>simp[BO]at h
def Anx(h:BO x=2):∃p,x=.string p:=by
 cases x with
 |string p=>exact⟨p,rfl⟩
 |int k n=>cases k<;>simp[BO]at h
 |float k n=>cases k<;>simp[BO]at h
 |_=>simp[BO]at h
section
variable{P:Program}(ok:aO P G)(nm:NamesOK P G)
def pkV(G:aD)(t:Nat)(xs:List Value):Value:=if(G.ty t).isAgg then .agg xs.toArray else xs.headD undef
include ok in
theorem Xy{u:Nat}(q:G.ty u≠ .no){y a r:List Value}(hl:a.length=G.sz u)(w:World)(e:(G.ty u).isAgg=U->a.length=1) :
  (Go.part u (y++(a++r)).toArray y.length).run P w=.ok (pkV G u a) w:=by
 unfold Go.part pkV;rw[K_,ok.isAgg w q];cases z:(G.ty u).isAgg with
 |true=>simp only[u_,if_true,K_,ok.sizeOf w q,a2_];congr 2;rw[<-hl];apply Array.toList_inj.1;simp
 |false=>obtain⟨v,rfl⟩:=List.length_eq_one_iff.1<|e z;simp
theorem Bee{d t:Nat}(e:RI G d t=J)(q:(G.ty t).isAgg=U):(zk G t).length=1:=by
 cases d with
 |zero=>simp[RI]at e
 |succ r=>
  simp only[RI]at e;cases a:G.ty t with
  |bool=>rw[a]at e;rw[ME e];rfl
  |str=>rw[a]at e;rw[ME e];rfl
  |int k=>rw[a]at e;rw[ME e];rfl
  |st _=>rw[a]at q;simp[aS]at q
  |arr _ _=>rw[a]at q;simp[aS]at q
  |_=>rw[a]at e;simp at e
include ok nm in
theorem Vr:∀(d t D:Nat) (xs E:List Value) (b:Bool) (w:World),RI G d t=J->d<=D->DS BO xs=zk G t->DS BO E=zk G t->Mj xs E=C b->
  (Op.equalIn D t (pkV G t xs)<|pkV G t E).run P w=.ok b w
 |0,_,_,_,_,_,_,h,_,_,_,_=>by simp[RI]at h
 |d+1,t,0,_,_,_,_,_,hD,_,_,_=>by omega
 |d+1,t,D+1,xs,E,b,w,h,hD,hx,hy,X=>by
  have hz:(zk G t).length=G.sz t:=by unfold zk;rw[Jt,ok.zlen]
  have one:∀k,IG (zk G t) [k]=J->(∃x,xs=[x]/\BO x=k)/\∃y,E=[y]/\BO y=k:=by
   intro k hk;have hk:=ME hk;rw[hk]at hx hy;constructor
   .cases xs with
    |nil=>simp[DS]at hx
    |cons x t=>cases t with
     |nil=>simp[DS]at hx;exact⟨x,rfl,hx⟩
     |cons y t=>simp[DS]at hx
   .cases E with
    |nil=>simp[DS]at hy
    |cons x t=>cases t with
     |nil=>simp[DS]at hy;exact⟨x,rfl,hy⟩
     |cons y t=>simp[DS]at hy
  simp only[RI]at h;cases W:G.ty t with
  |bool=>rw[W]at h;obtain⟨⟨x,rfl,hh⟩,y,rfl,hn⟩:=one _ h;have x7:=Aja hh;have x4:=Aja hn;obtain⟨p,rfl⟩:=x7;obtain⟨q,rfl⟩:=x4;simp[Mj,eqV]at X;subst X;simp only[pkV,W,aS,f8_,g3_,List.headD];exact run_equalIn_bool w D t p q<|ok.bool t W
  |str=>rw[W]at h;obtain⟨⟨x,rfl,hh⟩,y,rfl,hn⟩:=one _ h;have x7:=Anx hh;have x4:=Anx hn;obtain⟨p,rfl⟩:=x7;obtain⟨q,rfl⟩:=x4;simp[Mj,eqV,eqB]at X;subst X;simp only[pkV,W,aS,f8_,g3_,List.headD];exact run_equalIn_string w D t p q<|ok.str t W
  |int k=>
   rw[W]at h;obtain⟨⟨x,rfl,hh⟩,y,rfl,hn⟩:=one _ h;have hv:∀z:Value,BO z=BO (.int k 0)->∃p,z=.int k p:=by
    intro z hz;cases z with
    |int k' p=>exact⟨p,by cases k<;>cases k'<;>simp[BO]at hz|-⟩
    |bool p=>cases k<;>simp[BO]at hz
    |string p=>cases k<;>simp[BO]at hz
    |float k' p=>cases k<;>cases k'<;>simp[BO]at hz
    |_=>cases k<;>simp[BO]at hz
   obtain⟨p,rfl⟩:=hv x hh;obtain⟨q,rfl⟩:=hv y hn;have hv:ER k k=J:=by cases k<;>rfl
   simp[Mj,eqV,hv]at X;subst X;simp only[pkV,W,aS,f8_,g3_,List.headD];exact run_equalIn_int w D t k k p q<|ok.int t k W
  |st fs=>
   rw[W]at h;obtain⟨h7,h6,xb,x9⟩:=ok.strc t fs W;have x1:P.fieldsOf t=h7:=by unfold Program.fieldsOf;rw[h6]
   have hj:=nm.name t fs W;rw[x1]at hj;simp only[pkV,W,aS,if_true];rw[run_equalIn_struct w D t _ _ (by rw[x1];exact h6)<|nm.held t fs W,x1];have go : ∀ (fl : List Field) (fs : List<|Nat × Nat) (B A xs E : List Value) (ks : List Nat) (b : Bool), fl.map (λf => (f.offset, f.type)) = fs -> (∀ o u, (o, u) ∈ fs -> G.ty u ≠ .no) -> fl.all (λf => f.name != "_") = J ->
     B.length=A.length->WR G (RI G d) fs B.length ks=J->DS BO xs=ks->DS BO E=ks->Mj xs E=C b->
     (Op.eqFields D (B++xs).toArray (A++E).toArray fl).run P w=.ok b w:=by
    intro fl;induction fl with
    |nil=>
     intro fs B A xs E ks b hm _ _ _ hw h5 h0 X;simp at hm;subst hm
     have:=ME hw
     subst this;cases xs with
     |nil=>cases E with
      |nil=>simp[Mj]at X;subst X;simp[Op.eqFields]
      |cons _ _=>simp[DS]at h0
     |cons _ _=>simp[DS]at h5
    |cons f fl ih=>
     intro fs B A xs E ks b hm h8 x6 x8 hw h5 h0 X;cases fs with
     |nil=>simp at hm
     |cons p fs=>
      simp only[aX,List.cons.injEq]at hm;obtain⟨hp,hm⟩:=hm;subst hp;simp only[WR,b_]at hw;obtain⟨⟨ho,hr⟩,F⟩:=hw;have ho:f.offset=B.length:=AQ.1 ho;have hr:RI G d f.type=J:=hr;split at F
      .rename_i a r ha x5;simp only[b_]at F;obtain⟨e1,e2⟩:=VC _ _ _ _ ha x5;subst e1;obtain⟨xa,xr,rfl,hs,x2⟩:=Pj BO xs a r h5;obtain⟨ya,yr,rfl,hu,x3⟩:=Pj BO E a r h0;have I:xa.length=G.sz f.type:=by rw[<-Jt BO xa,hs,e2]
       have R:ya.length=G.sz f.type:=by rw[<-Jt BO ya,hu,e2]
       obtain⟨b1,b2,h1,h2,h3⟩:=Vq xa ya xr yr b (by rw[I,R]) X;have hc:=ME F.1;simp only[T_,b_,bne_iff_ne]at x6;have x0:=h8 f.offset f.type σ;have Y:(G.ty f.type).isAgg=U->(zk G f.type).length=1:=Bee hr;have h9:(zk G f.type).length=G.sz f.type:=by unfold zk;rw[Jt,ok.zlen]
       unfold Op.eqFields;rw[if_pos (by simpa using x6.1)];rw[K_,ho,Xy ok x0 I w (λh4=>by rw[I,<-h9];exact Y h4),u_];rw[K_,x8,Xy ok x0 R w (λh4=>by rw[R,<-h9];exact Y h4),u_];rw[K_,Vr d f.type D xa ya b1 w hr ω (by rw[hs];exact hc) (by rw[hu];exact hc) h1,u_];cases b1 with
       |false=>simp at h3;subst h3;simp
       |true=>
        simp at h3;subst h3;simp only[a8_,f8_,g3_]
        have:=ih fs (B++xa) (A++ya) xr yr r b hm (λo u xd=>h8 o u (by simp[xd])) x6.2 (by simp[x8,I,R]) (by rw[f_,I];exact F.2) x2 x3 h2
        rw[N_,N_]at this;exact this
      .simp at F
   exact go h7.toList fs [] [] xs E _ b xb x9 hj rfl h hx hy X
  |arr n e=>
   rw[W]at h;simp only[b_]at h;obtain⟨he,L⟩:=h;obtain⟨h6,h8⟩:=ok.arr t n e W;simp only[pkV,W,aS,if_true];simp only[Op.equalIn,K_,M_ h6,u_,ok.sizeOf w h8,Std.Legacy.Range.forIn_eq_forIn_range',Std.Legacy.Range.size,Nat.sub_zero,Nat.add_sub_cancel,Nat.div_one];have Y:(G.ty e).isAgg=U->(zk G e).length=1:=Bee he;have h9:(zk G e).length=G.sz e:=by unfold zk;rw[Jt,ok.zlen]
   have go:∀(n i:Nat) (B A xs E:List Value) (ks:List Nat) (b:Bool),B.length=i*G.sz e->A.length=i*G.sz e->Aai G e n ks=J->DS BO xs=ks->DS BO E=ks->Mj xs E=C b->
     (forIn (List.range' i n) (N,()) λi (_:Option Bool×Unit)=>do
      let u <-Go.part e (B++xs).toArray (i*G.sz e)
      let v <-Go.part e (A++E).toArray (i*G.sz e)
      let r <-Op.equalIn D e u v
      if(!r)=J then pure (ForInStep.done (C U,()))else pure (ForInStep.yield (N,())):Sem<|Option Bool×Unit).run P w=.ok (if b then(N,())else(C U,())) w:=by
    intro n;induction n with
    |zero=>
     intro i B A xs E ks b _ _ L h5 h0 X
     have:=ME L
     subst this;cases xs with
     |nil=>cases E with
      |nil=>simp[Mj]at X;subst X;simp
      |cons _ _=>simp[DS]at h0
     |cons _ _=>simp[DS]at h5
    |succ n ih=>
     intro i B A xs E ks b hp xc L h5 h0 X;simp only[Aai]at L;split at L
     .rename_i a r ha x5;simp only[b_]at L;obtain⟨e1,e2⟩:=VC _ _ _ _ ha x5;subst e1;obtain⟨xa,xr,rfl,hs,x2⟩:=Pj BO xs a r h5;obtain⟨ya,yr,rfl,hu,x3⟩:=Pj BO E a r h0;have I:xa.length=G.sz e:=by rw[<-Jt BO xa,hs,e2]
      have R:ya.length=G.sz e:=by rw[<-Jt BO ya,hu,e2]
      obtain⟨b1,b2,h1,h2,h3⟩:=Vq xa ya xr yr b (by rw[I,R]) X;have hc:=ME L.1;rw[e8_,List.forIn_cons];rw[K_,K_,<-hp,Xy ok h8 I w (λh4=>by rw[I,<-h9];exact Y h4),u_];rw[K_,hp,<-xc,Xy ok h8 R w (λh4=>by rw[R,<-h9];exact Y h4),u_];rw[K_,Vr d e D xa ya b1 w he ω (by rw[hs];exact hc) (by rw[hu];exact hc) h1,u_];cases b1 with
      |false=>simp at h3;subst h3;simp
      |true=>
       simp at h3;subst h3;simp only[a8_,f8_,g3_,a2_,u_]
       have:=ih (i+1) (B++xa) (A++ya) xr yr r b (by rw[f_,hp,I,a0_,bA]) (by rw[f_,xc,R,a0_,bA]) L.2 x2 x3 h2
       rw[N_,N_]at this;exact this
     .cases L
   have:=go n 0 [] [] xs E _ b σ σ L hx hy X
   simp only[e0_]at this;rw[this];cases b<;>simp
  |_=>rw[W]at h;simp at h
include ok nm in
theorem Bfg:EqOK P G:=by
 refine⟨nm.guard,λt xs r b w a e y z q=>?_⟩
 have:=Vr ok nm 20 t Op.maxDepth xs r b w e τ y z q
 unfold pkV at this;rw[if_pos a,if_pos a]at this;exact this
end
def Aug:Ty->Bool
 |.st _=>J
 |_=>U
structure NmE(P:Program)(t:Nat)(y:Ty):Prop where
 guard:y.isAgg=true->P.eqGuardType P.depth t=false
 held:Aug y=true->P.stoodInHeld t=false
 name : Aug y = true -> (P.fieldsOf t).toList.all (λf => f.name != "_") = true
def Bkh{t:Nat}{y:Ty}(h:y.isAgg=U):NmE P t y:=
 have a:Aug y=U:=by cases y<;>first|rfl|(simp[aS]at h)
 ⟨λe=>(by rw[h]at e;cases e),λe=>(by rw[a]at e;cases e),λe=>(by rw[a]at e;cases e)⟩
def Aul{tys:List<|Nat×TyD}{l:List<|Ent1<|TOf tys}{gl:Nat->Option ((t:Nat)×TOf tys t)}{ext:Nat->Nat}{loose:Nat->Bool}(h:∀p∈l,NmE P p.t p.e.ty):NamesOK P<|QE tys l gl ext loose:=by
 have a:∀t,NmE P t (MF l t).ty:=Uu (T:=TOf tys) (Q:=λt e=>NmE P t e.ty) (λt=>Bkh rfl) h;refine⟨λt=>(a t).guard,λt q e=>(a t).held ?_,λt q e=>(a t).name ?_⟩
 .have e:(MF l t).ty=.st q:=e;rw[e];rfl
 .have e:(MF l t).ty=.st q:=e;rw[e];rfl
end Go.Ab
namespace Go.Ab
variable{G:aD}
variable{cs:List Value}
def shF(G:aD)(r:Nat->Option (List aE)):List (Nat×Nat)->Nat->Option (List aE)
 |[],_=>C []
 |p::t,off=>bif aH p.1 off then match r p.2,shF G r t (off+G.sz p.2)with
  |some a,C b=>bif aH a.length (G.sz p.2)then C (a++b)else N
  |_,_=>N
  else N
def Aoy{α:Type}(a:List α):Nat->List α
 |0=>[]
 |n+1=>a++Aoy a n
def shl(G:aD):Nat->Nat->Option (List aE)
 |0,_=>N
 |d+1,t=>match G.ty t with
  |.bool=>C [.bool]
  |.int k=>C [.int k]
  |.flt k=>C [.flt k]
  |.str=>C [.str]
  |.sl e=>match YX (G.ty e)with
   |true=>N
   |false=>bif G.loose e then C [.ro e]else N
  |.st q=>match shF G (shl G d) q 0 with
   |some a=>bif aH a.length (G.sz t)then C a else N
   |none=>N
  |.arr n e=>match shl G d e with
   |some a=>bif aH a.length (G.sz e)&&aH (n*G.sz e) (G.sz t)then C (Aoy a n)else N
   |none=>N
  |_=>N
inductive WfC(G:Sig):Cv G.T->Prop
 |bool (b:Bool):WfC G (.sc (.bool b))
 |int (k:IntKind) (n:Int) (h:(Lit.int k n).wf=true):WfC G (.sc (.int k n))
 |flt (k:FloatKind) (n:Nat):WfC G (.sc (.float k n))
 |str (s:ByteArray) (h:s.size<=maxLen):WfC G (.sc (.string s))
 |ro (t:Nat) (l:List (G.T t)) (h:l.length<=maxLen) (he:∀(i:Nat) (x:G.T t) (j:Nat) (c:Cv G.T),l[i]?=some x->(G.enc t x)[j]?=some c->WfC G c):WfC G (.ro t l)
def Akw(G:aD):Prop:=∀t e,G.ty t=.sl e->YX (G.ty e)=U->G.loose e=J->∃s,shl G 20 e=C s/\∀x:TL G s,∃y,G.dec e (DB s x)=C y
def YU:∀(a b:List aE) (x:TL G a) (y:TL G b),∃z:TL G<|a++b,DB (a++b) z=DB a x++DB b y
 |[],b,_,y=>⟨y,rfl⟩
 |c::a,b,x,y=>by obtain⟨z,e⟩:=YU a b x.2 y;exact⟨(x.1,z),by simp only[DB,aZ];rw[<-e]⟩
def Ai4:∀(a:List aE) (x:TL G a),(DB a x).length=a.length
 |[],_=>rfl
 |c::a,x=>by simp[DB,Ai4 a]
section
variable{H:Type}{enc:TypeId×Value->H}{P:Program}(ok:aO P G)(dk:Akw G){w:World}{sp:Nat->Bool}{hd:Bool}
include ok in
theorem Tp{t:Nat}(h:G.ty t≠ .no):P.cellsOf t=G.sz t:=by obtain⟨i,z,h1,a,_⟩:=ok.info t h;unfold Program.cellsOf;rw[h1];exact a
def Opened(G:aD)(w:World)(s:List aE)(cs:List Value):Prop:=∃x:TL G s,F2 (Rd G (λb=>b<w.heap.size) w.heap) (DB s x) cs/\∀c∈DB s x,WfC G c
theorem Opened.append{a b:List aE}{r:List Value}(h:Opened G w a cs)(g:Opened G w b r):Opened G w (a++b)<|cs++r:=by
 obtain⟨x,h1,B⟩:=h;obtain⟨y,A,E⟩:=g;obtain⟨z,q⟩:=YU a b x y;refine⟨z,by rw[q];exact h1.append A,λc e=>?_⟩;rw[q]at e;rcases m_.1 e with e|e
 .exact B c e
 .exact E c e
theorem Opened.len{a:List aE}(h:Opened G w a cs):cs.length=a.length:=by obtain⟨x,h1,_⟩:=h;rw[<-h1.1,Ai4]
theorem Abi{r:Nat->Option (List aE)}{cs:List Value}:∀(y:List<|Nat×Nat) (off:Nat) (sh:List aE),shF G r y off=C sh->
  (∀p∈y,∀s,r p.2=C s->Opened G w s ((cs.drop p.1).take<|G.sz p.2))->Opened G w sh ((cs.drop off).take sh.length)
 |[],off,sh,h,_=>by simp[shF]at h;subst h;exact⟨(),by simp[DB];exact .nil,λc A=>by simp[DB]at A⟩
 |p::t,off,sh,h,hp=>by
  simp only[shF,Bs]at h;by_cases e:p.1=off
  .rw[if_pos e]at h;split at h
   .rename_i a b z F;by_cases hl:a.length=G.sz p.2
    .rw[if_pos hl]at h;simp at h;subst h;have h1:=hp p σ a z;have I:=Abi t (off+G.sz p.2) b F λq hq s B=>hp q (by simp[hq]) s B;rw[e]at h1
     have:=h1.append I
     rw[f_,hl];have E:(cs.drop off).take (G.sz p.2+b.length)=(cs.drop off).take (G.sz p.2)++(cs.drop<|off+G.sz p.2).take b.length:=by rw[List.take_add,List.drop_drop]
     rw[E];exact this
    .rw[if_neg hl]at h;simp at h
   .simp at h
  .rw[if_neg e]at h;simp at h
theorem Aeh{a:List aE}{cs:List Value}{sz:Nat}(hl:a.length=sz):∀(n:Nat) (i:Nat),(∀j,i<=j->j<i+n->Opened G w a ((cs.drop<|j*sz).take sz))->Opened G w (Aoy a n) ((cs.drop<|i*sz).take<|n*sz)
 |0,i,_=>⟨(),by simp[DB,Aoy];exact .nil,λc e=>by simp[DB,Aoy]at e⟩
 |n+1,i,h=>by
  have h1:=h i (t_ _) ω;have r:=Aeh hl n (i+1) λj y z=>h j ω ω
  have:=h1.append r
  have q:(cs.drop<|i*sz).take ((n+1)*sz)=(cs.drop<|i*sz).take sz++(cs.drop<|(i+1)*sz).take (n*sz):=by rw[a0_,bA,d7_<|n*sz,List.take_add,List.drop_drop,a0_,bA]
  rw[q];exact this
theorem Ax4{α:Type}{Q:Nat->α->Prop}:∀(n:Nat),(∀i,i<n->∃y,Q i y)->∃l:List α,l.length=n/\∀i y,l[i]?=C y->Q i y
 |0,_=>⟨[],rfl,λi y h=>by simp at h⟩
 |n+1,h=>by
  obtain⟨l,h1,e⟩:=Ax4 n λi hi=>h i ω;obtain⟨y,q⟩:=h n ω;refine⟨l++[y],by simp[h1],λi z a=>?_⟩;rw[g6_]at a;by_cases hi:i<l.length
  .rw[if_pos hi]at a;exact e i z a
  .rw[if_neg hi]at a
   have:i-l.length=0:=by have:=(e_.1 a).1;simp at this;omega
   rw[this]at a;simp at a;subst a
   have:i=n:=ω
   rw[this];exact q
theorem Bc7{H:Type}{enc:TypeId×Value->H}{P:Program}{w:World}{base:Nat}{a:Nat->Bool}{e:Bool}{DF:Nat}{t:TypeId}{x:DataW H×List MemPlace}{k:FloatKind}(q:P.underlying t=C (.float k))(h:DataW.trod enc P w base a e DF t cs=C x):∃n,cs=[.float k n]:=by
 cases DF with
 |zero=>simp[DataW.trod]at h
 |succ n=>unfold DataW.trod at h;rw[q]at h;split at h<;>simp_all
include ok dk in
theorem Ayh:∀(DF d t:Nat) (cs:List Value) (x:DataW H×List MemPlace) (s:List aE),shl G d t=C s->DataW.trod enc P w 0 sp hd DF t cs=C x->Opened G w s cs:=by
 intro DF;induction DF with
 |zero=>intro d t cs x s _ h;simp[DataW.trod]at h
 |succ DF ih=>
  intro d t cs x s h ht;cases d with
  |zero=>simp[shl]at h
  |succ d=>
  simp only[shl]at h;cases r:G.ty t with
  |bool=>rw[r]at h;simp at h;subst h;obtain⟨b,rfl,_⟩:=DataW.trod_bool (ok.bool t r) ht;exact⟨(b,()),aU (.sc _ rfl) .nil,λc A=>by simp[DB,aW]at A;subst A;exact .bool b⟩
  |int k=>rw[r]at h;simp at h;subst h;obtain⟨n,rfl,_,hw⟩:=DataW.trod_int (ok.int t k r) ht;exact⟨(n,()),aU (.sc _ rfl) .nil,λc A=>by simp[DB,aW]at A;subst A;exact .int k n hw⟩
  |flt k=>rw[r]at h;simp at h;subst h;obtain⟨n,rfl⟩:=Bc7 (ok.flt t k r) ht;exact⟨(n,()),aU (.sc _ rfl) .nil,λc A=>by simp[DB,aW]at A;subst A;exact .flt k n⟩
  |str=>rw[r]at h;simp at h;subst h;obtain⟨b,rfl,_,hw⟩:=DataW.trod_string (ok.str t r) ht;exact⟨(b,()),aU (.sc _ rfl) .nil,λc A=>by simp[DB,aW]at A;subst A;exact .str b hw⟩
  |st fs=>
   rw[r]at h;obtain⟨I,B,hh,L⟩:=ok.strc t fs r;obtain⟨xs,n,hn,_,X,h8,hf⟩:=DataW.trod_struct B ht;have hn:DF=n:=ω;subst hn;rw[Tp ok (t:=t) (by rw[r];simp)]at X;simp only at h;split at h
   .rename_i a ha;simp only[Bs]at h;by_cases hl:a.length=G.sz t
    .rw[if_pos hl]at h;simp at h;subst h
     have:=Abi (w:=w) (cs:=cs) fs 0 a ha λp hp q hq=>?_
     .rw[d8_,a3_ ω]at this;exact this
     .have x7:p∈I.toList.map (λf=>(f.offset,f.type)):=by rw[hh];exact hp
      obtain⟨f,hz,rfl⟩:=b6_.1 x7;obtain⟨i,hi⟩:=List.getElem?_of_mem hz;have hk:I[i]?=C f:=by simpa using hi
      have h1:=hf i f hk;have h5:i<xs.length:=by rw[h8];exact(J_.1 hk).1
      rw[h_ h5,Tp ok<|L f.offset f.type hp]at h1;exact ih d f.type _ _ q hq h1
    .rw[if_neg hl]at h;simp at h
   .simp at h
  |arr n e=>
   rw[r]at h;obtain⟨B,L⟩:=ok.arr t n e r;obtain⟨xs,m,hm,_,X,h8,hf⟩:=DataW.trod_array B ht;have hm:DF=m:=ω;subst hm;rw[Tp ok (t:=t) (by rw[r];simp)]at X;simp only at h;split at h
   .rename_i a ha;cases hl:(aH a.length (G.sz e)&&aH (n*G.sz e) (G.sz t))with
    |false=>rw[hl]at h;simp at h
    |true=>
     rw[hl]at h;simp at h;subst h;simp only[b_]at hl;have x2:=AQ.1 hl.1;have x8:=AQ.1 hl.2
     have:=Aeh (G:=G) (w:=w) (cs:=cs) x2 n 0 λj _ hj=>?_
     .rw[Nat.zero_mul,d8_,a3_ ω]at this;exact this
     .have h1:=hf j ω;rw[h_ ω,Tp ok L]at h1;exact ih d e _ _ a ha h1
   .simp at h
  |sl e=>
   rw[r]at h;simp only at h;cases h7:YX (G.ty e)with
   |true=>rw[h7]at h;cases h
   |false=>
   rw[h7]at h;simp only at h;cases h2:G.loose e with
   |false=>rw[h2]at h;cases h
   |true=>
   rw[h2]at h;cases h;obtain⟨B,L,_,h4⟩:=ok.sl t e r;obtain⟨se,x3,he⟩:=dk t e r h7 h2;have x0:=Tp ok L;rcases DataW.trod_slice B ht with⟨rfl,_⟩|⟨a,len,x5,Ix,rest,n,hn,rfl,_,_,hl,hm,xa,h3,_⟩
   .exact⟨([],()),aU (.nil _ _ _) .nil,λc A=>by simp[DB,aW]at A;subst A;exact .ro e [] (W_ _) λi x j c h=>by simp at h⟩
   .have hn:DF=n:=ω;subst hn;rw[x0]at h3;obtain⟨l,hx,h6⟩:=Ax4 (Q:=λi (y:G.T e)=>(∀j,j<G.sz e->∃v,w.cell? ((a.add<|i*G.sz e).add j)=C v/\∀R,(G.enc e y)[j]?=C R->Rd G (λb=>b<w.heap.size) w.heap R v)/\∀c∈G.enc e y,WfC G c) len λi hi=>by
     have h1:=h3 i hi;rw[h_ ω]at h1;cases A:w.cells? 0 (a.add<|i*G.sz e) (G.sz e)with
     |none=>rw[A]at h1;simp at h1
     |some ci=>rw[A]at h1;obtain⟨xe,r1,r2⟩:=ih 20 e ci _ se x3 h1;obtain⟨y,hy⟩:=he xe;have h9:=ok.encdec e _ _ hy;obtain⟨_,x9,x6⟩:=World.cells?_some A;refine⟨y,λj hj=>?_,λc hu=>r2 c (by rw[<-h9];exact hu)⟩;refine⟨ci[j]'ω,by rw[x6 j hj];exact h_ ω,λR E=>?_⟩;rw[h9]at E;exact r1.2 j R _ E<|h_ ω
    refine⟨(l,()),aU ?_ .nil,λc A=>?_⟩
    .show Rd G _ w.heap (.ro e l) _;by_cases h0:len=0
     .have:l=[]:=S_ ω
      rw[this,h0];exact .nil _ _ _
     .have hr:=ok.pos e L;obtain⟨y0,x4⟩:∃y0,l[0]?=C y0:=⟨l[0]'ω,h_ ω⟩
      obtain⟨v0,F,_⟩:=(h6 0 y0 x4).1 0 hr;obtain⟨b,off,Y⟩:=a;have x1:((⟨b,off,Y⟩:Addr).add<|0*G.sz e).add 0=⟨b,off,Y⟩:=by rw[Nat.zero_mul];rfl
      rw[x1]at F;unfold World.cell? at F;simp only at F;split at F
      .rename_i c te fz hb;cases hs:Y with
       |some z=>rw[hs]at F;simp at F
       |none=>
        subst hs;have h5:b<w.heap.size:=(J_.1 hb).1;rw[<-hx];have W:∀i j,i<l.length->j<G.sz e->∃v,c[off+i*G.sz e+j]?=C v/\∀y R,l[i]?=C y->(G.enc e y)[j]?=C R->Rd G (λb=>b<w.heap.size) w.heap R v:=by
         intro i j hi hj;obtain⟨v,hv,hq⟩:=(h6 i _<|h_ hi).1 j hj;refine⟨v,?_,λy R hy E=>hq R ?_⟩
         .rw[Hz,Hz]at hv;unfold World.cell? at hv;simp only[hb]at hv;simpa using hv
         .rw[h_ hi]at hy;simp at hy;rw[hy];exact E
        refine .ro e l b off x5 c te fz (λi j=>c.getD (off+i*G.sz e+j) undef) h5 hb (.inr h2) ω (λi j hi hj=>?_) (λi j y R hy E=>?_)
        .obtain⟨v,hv,_⟩:=W i j hi hj;rw[hv];simp[v_,hv]
        .have hi:i<l.length:=(e_.1 hy).1;have hj:j<G.sz e:=by rw[<-h4 y];exact(e_.1 E).1
         obtain⟨v,hv,hq⟩:=W i j hi hj
         have:c.getD (off+i*G.sz e+j) undef=v:=by simp[v_,hv]
         rw[this];exact hq y R hy E
      .simp at F
    .simp[DB,aW]at A;subst A;exact .ro e l ω λi y j c hy A=>(h6 i y hy).2 c<|p_ A
  |_=>rw[r]at h;simp at h
end
end Go.Ab
namespace Go.Ab
variable{G:aD}
variable{v:Value}
def UV(G:aD):List aC->Type
 |[]=>Unit
 |s::t=>s.T G×UV G t
def MG:(s:List aC)->UV G s->List (Pv G.T)
 |[],_=>[]
 |s::t,x=>s.give x.1::MG t x.2
def Zo:aE->Bool
 |.own _ _=>U
 |_=>J
def Aob:aC->Bool
 |.one c=>Zo c
 |.agg cs=>cs.all Zo
def XL:(n:Nat)->(s:List aC)->UV G s->TmT G (IH n s)
 |_,[],_=>()
 |n,_::t,x=>(x.1,XL (n+1) t x.2)
def Ai5:∀(n:Nat) (s:List aC) (x:UV G s),Li (IH n s) (XL n s x)=IH n ((MG s x).map Sv.p)
 |_,[],_=>rfl
 |n,p::t,x=>by show(n,Sv.p<|p.give x.1)::Li _ (XL _ t x.2)=(n,Sv.p _)::IH _ _;rw[Ai5 _ t x.2]
def Aq5:∀(s:aE) (x:s.T G),Zo s=J->s.blk x=[]
 |.own _ _,_,h=>by simp[Zo]at h
 |.int _,_,_=>rfl
 |.bool,_,_=>rfl
 |.str,_,_=>rfl
 |.flt _,_,_=>rfl
 |.ro _,_,_=>rfl
 |.rp _ _,_,_=>rfl
 |.ptr _ _,_,_=>rfl
 |.clo _ _ _,_,_=>rfl
 |.np _ _,_,_=>rfl
 |.nili,_,_=>rfl
 |.nilp,_,_=>rfl
 |.sh _,_,_=>rfl
 |.lit _ _,_,_=>rfl
 |.sa _ _ _,_,_=>rfl
def Aq6:∀(s:List aE) (x:TL G s),s.all Zo=J->Ab6 s x=[]
 |[],_,_=>rfl
 |c::t,x,h=>by simp only[T_,b_]at h;simp only[Ab6,Aq5 c x.1 h.1,Aq6 t x.2 h.2,a1_]
def Bex(s:aC)(x:s.T G)(h:Aob s=J):s.blk x=[]:=by
 cases s with
 |one c=>exact Aq5 c x h
 |agg cs=>exact Aq6 cs x h
def Amb:∀(n:Nat) (s:List aC) (x:UV G s),s.all Aob=J->NG (IH n s) (XL n s x)=[]
 |_,[],_,_=>rfl
 |n,p::t,x,h=>by simp only[T_,b_]at h;show p.blk x.1++NG _ (XL _ t x.2)=[];rw[Bex p x.1 h.1,Amb _ t x.2 h.2];rfl
def Bce(G:aD)(t:Nat):Option aC:=match shl G 20 t with
 |some s=>bif(G.ty t).isAgg then C (.agg s)else match s with|[c]=>C (.one c)|_=>N
 |none=>N
def Aut(G:aD):List Nat->Option (List aC)
 |[]=>C []
 |t::r=>match Bce G t,Aut G r with
  |some a,C b=>C<|a::b
  |_,_=>N
def WfA(G:aD)(s:List aC)(x:UV G s):Prop:=∀p∈MG s x,∀c∈p.cells,WfC G c
section
variable{H:Type}{enc:TypeId×Value->H}{P:Program}(ok:aO P G)(dk:Akw G){w:World}{sp:Nat->Bool}{hd:Bool}
theorem Bef{S:Nat->Prop}{h:Array Obj}{c:Cv G.T}(a:WfC G c)(r:Rd G S h c v):Rc G (λ_=>N) S h c v:=by cases a<;>exact r
include ok dk in
theorem Bb9{t:Nat}{d:DataW H}{ps:List MemPlace}{s:aC}{r:Reach}{base:Nat}(y:Bce G t=C s)(I:DataW.Trod enc P w 0 sp hd t v d ps)(q:Value.okWide P w r base t v):
  ∃x:s.T G,Rp G (λ_=>N) (λb=>b<w.heap.size) w.heap (s.give x) v/\∀c∈(s.give x).cells,WfC G c:=by
 obtain⟨DF,I⟩:=I;unfold Bce at y;split at y
 .rename_i sh E;obtain⟨x,h1,W⟩:=Ayh ok dk DF 20 t _ _ sh E I;cases B:(G.ty t).isAgg with
  |true=>
   rw[B]at y;simp at y;subst y;have R:∃cs,v=.agg cs:=by
    unfold Value.okWide at q;cases a:G.ty t with
    |st fs=>obtain⟨F,z,_⟩:=ok.strc t fs a;rw[z]at q;obtain⟨cs,h,_⟩:=q;exact⟨cs,h⟩
    |arr n e=>obtain⟨z,_⟩:=ok.arr t n e a;rw[z]at q;obtain⟨cs,h,_⟩:=q;exact⟨cs,h⟩
    |_=>rw[a]at B;simp[aS]at B
   obtain⟨cs,rfl⟩:=R;refine⟨x,?_,W⟩;have e1:(Value.agg cs)=.agg cs.toList.toArray:=by simp
   exact .agg _ _ ⟨h1.1,λi c u X hu=>Bef (W c<|p_ X)<|h1.2 i c u X hu⟩
  |false=>
   rw[B]at y;split at y
   .rename_i c;simp at y;subst y;have L:v.cells=#[v]:=by
     cases v with
     |agg cs=>
      exfalso;unfold Value.okWide at q;cases a:G.ty t with
      |bool=>rw[ok.bool t a]at q;simp[Cell.okWide,Cell.ok,ok.bool t a]at q
      |int k=>rw[ok.int t k a]at q;simp[Cell.okWide,Cell.ok,ok.int t k a]at q
      |flt k=>rw[ok.flt t k a]at q;simp[Cell.okWide,Cell.ok,ok.flt t k a]at q
      |str=>rw[ok.str t a]at q;simp[Cell.okWide,Cell.ok,ok.str t a]at q
      |sl e=>rw[(ok.sl t e a).1]at q;simp[Cell.okWide,Cell.ok,(ok.sl t e a).1]at q
      |st _=>rw[a]at B;simp[aS]at B
      |arr _ _=>rw[a]at B;simp[aS]at B
      |_=>simp[shl,a]at E
     |_=>rfl
    have hr:=h1.2 0 _ v rfl (by rw[L];rfl);have Y:=W (c.give x.1) (by simp[DB]);refine⟨x.1,.one _ _<|Bef Y hr,λc' A=>?_⟩;have A:c'∈[c.give x.1]:=A;simp at A;subst A;exact Y
   .simp at y
 .simp at y
include ok dk in
theorem Aoh{r:Reach}{base:Nat}:∀(z:List Nat) (vs:List Value) (B:List<|DataW H) (ps:List MemPlace) (s:List aC),Aut G z=C s->DataW.TrodAll enc P w 0 sp hd z vs B ps->
  (∀(j:Nat) t v,z[j]?=C t->vs[j]?=C v->Value.okWide P w r base t v)->∃x:UV G s,F2 (Rp G (λ_=>N) (λb=>b<w.heap.size) w.heap) (MG s x) vs/\WfA G s x
 |[],[],[],_,s,e,_,_=>by simp[Aut]at e;subst e;exact⟨(),.nil,λp hp=>by simp[MG]at hp⟩
 |t::z,v::vs,d::B,ps,s,e,⟨p,q,h1,Y,_⟩,E=>by
  simp only[Aut]at e;split at e
  .rename_i a b F X;simp at e;subst e;obtain⟨x,I,g2⟩:=Bb9 ok dk F h1<|E 0 t v rfl rfl;obtain⟨y,L,R⟩:=Aoh z vs B q b X Y λj t v W A=>E (j+1) t v (by simpa using W) (by simpa using A);refine⟨(x,y),L.cons I,λp hp=>?_⟩;simp only[MG,A_]at hp;rcases hp with rfl|hp
   .exact g2
   .exact R p hp
  .simp at e
 |[],[],_::_,_,_,_,h,_=>h.elim
 |[],_::_,_,_,_,_,h,_=>by cases h
 |_::_,[],_,_,_,_,h,_=>by cases h
 |_::_,_::_,[],_,_,_,h,_=>by cases h
def Al5(s:List aC):aF:=⟨IH 0 s,[],[]⟩
theorem Axx{g:Nat}{sh:List aC}{E:List<|Ex×aF}{F:(Al5 sh).T G->Option (Fp G E)}{rs:List ResultVar}(hf:Ha P G g ⟨Al5 sh,E,F,rs⟩)(R:sh.all Aob=J){x:UV G sh}{y:Fp G E}
  (hF:F (XL 0 sh x,())=C y) {b:Bool}{p:Ex×V G}(hp:Hm E y C=C p) (hy:KT (Al5 sh) rs p=C (.p<|.one<|.sc<|.bool b,[])) {W:World}(h2:GlOK G (λb=>b<W.heap.size) W.heap) {a:List Value}
  (q:F2 (Rp G (λ_=>N) (λb=>b<W.heap.size) W.heap) (MG sh x) a) :
  Calls P g a.toArray W λe' W'=>e'=.returned (.bool b)/\RowKit.Below W.heap.size W W':=by
 have L:∀n (s:List aC) (x:UV G s),(MG s x).length=(IH n s).length:=by
  intro n s;induction s generalizing n with
  |nil=>intro _;rfl
  |cons p t ih=>intro x;simp only[MG,IH,D_,ih (n+1) x.2]
 have r:((Al5 sh).mk' (XL 0 sh x,())).hp=([]:List _):=by show NG (IH 0 sh) _++([]++[])=[];rw[Amb 0 sh x R];rfl
 have Y:((Al5 sh).mk' (XL 0 sh x,())).tm=IH 0 ((MG sh x).map<|Sv.p):=Ai5 0 sh x;refine((hf.2 _ y p _ [] hF hp hy) _ _ (λ_=>False) W a ⟨λn k B=>?_,λn m z z' b h1=>?_,λn z b h1=>?_,λ_ h=>h,h2⟩ (λn hn=>absurd rfl hn) ?_ λk v B=>?_).mono ?_
 .rw[r]at B;cases B
 .rw[r]at h1;exact absurd rfl h1
 .rw[r]at h1;exact absurd rfl h1
 .rw[<-q.1];exact L 0 sh x
 .rw[Y,Xe]at B;simp at B;obtain⟨u,hu,rfl⟩:=B;obtain⟨v,hv,A⟩:=q.get hu
  have:a.getD k undef=v:=by simp[g_,hv]
  rw[this];exact .p _ _ A
 .rintro e' W' ⟨v,ν',S',he,I,_,_,_,_,X,h0,e⟩;refine⟨?_,e.1,e.2.1,e.2.2,X,λb hb=>h0 b hb id⟩;rw[he];cases I with
  |p _ _ A=>
   cases A with
   |one _ _ hc=>cases hc;rfl
end
def Ye(G:aD)(y:Ty):Prop:=∀e,y=.sl e->YX (G.ty e)=U->G.loose e=J->∃s,shl G 20 e=C s/\∀x:TL G s,∃y,G.dec e (DB s x)=C y
def Arb{G:aD}{y:Ty}(h:(match y with|.sl _=>J|_=>U)=U):Ye G y:=λe a _=>by subst a;simp at h
def Be6{G:aD}{e:Nat}{s:List aE}(h:shl G 20 e=C s)(hd:∀x:TL G s,∃y,G.dec e (DB s x)=C y):Ye G<|.sl e:=λq a _=>by cases a;exact λ_=>⟨s,h,hd⟩
def Ba1{tys:List<|Nat×TyD}{l:List<|Ent1<|TOf tys}{gl:Nat->Option ((t:Nat)×TOf tys t)}{ext:Nat->Nat}{loose:Nat->Bool}(h:∀p∈l,Ye (QE tys l gl ext loose) p.e.ty):Akw<|QE tys l gl ext loose:=λt=>Uu (Q:=λ_ e=>Ye _ e.ty) (λ_=>Arb rfl) h t
end Go.Ab
namespace Go.Ab
variable{G:aD}
variable{P:Program}{k:IntKind}{w:World}
def Aqj{H:Type}{enc:TypeId×Value->H}{base:Nat}{sp:Nat->Bool}{a:Bool}{DF:Nat}{t:TypeId}{c:Value}{n:Int}{q:List MemPlace}
  (e:P.underlying t=C (.int k)) (h:DataW.trod enc P w base sp a DF t [c]=C (.lit<|.int k n,q)):c=.int k n:=by
 cases DF with
 |zero=>simp[DataW.trod]at h
 |succ DF=>cases c<;>simp[DataW.trod,e]at h;obtain⟨⟨rfl,_⟩,rfl,_⟩:=h;rfl
def Auw{n:String}{g:Nat}{t e:TypeId}{ns:List Int}{gt:Nat}{gx:G.T gt}{cs:Array Value}{DF:Nat}{p:List MemPlace}
  (hn:P.globalNamed n=C g) (hu:P.underlying t=C (.array ns.length e)) (he:P.underlying e=C (.int k)) (W:P.cellsOf e=1) (F:P.cellsOf t=ns.length)
  (L:G.sz gt=ns.length) (I:G.enc gt gx=ns.map λx=>.sc<|.int k x)
  (B:w.var? P n=C cs) (hd:DataW.trod (λ_=>()) P w 0 (λ_=>J) U DF t cs.toList=C (.agg (ns.map λx=>.lit<|.int k x),p)) :
  Rd G (λb=>b<w.heap.size) w.heap (.rp gt gx 0) (.pointer<|C ⟨g,0,N⟩)/\∃c te fz,w.heap[g]?=C (.cells c te fz)/\c.size=G.sz gt:=by
 obtain⟨xs,m,_,Y,y,h0,hf⟩:=DataW.trod_array hu hd;have q:∀j (x:Int),ns[j]?=C x->cs[j]?=C (Value.int k x):=λj x a=>by
  obtain⟨R,h3⟩:=e_.1 a;have h1:=hf j R;rw[W,d5_]at h1;have hm:xs.map (·.1)=ns.map λx=>DataW.lit<|.int k x:=by simp only[b9_,DataW.agg.injEq]at Y;exact Y.1.symm
  have E:=b5_ (·[j]?) hm;simp only[b3_,a,f9_]at E;cases hq:xs[j]? with
  |none=>rw[hq]at E;cases E
  |some z=>
   rw[hq]at h1 E;obtain⟨z1,z2⟩:=z;simp only[f9_,c4_]at E;subst E;have hl:j<cs.toList.length:=by rw[y,F];exact R
   have A:(cs.toList.drop j).take 1=[cs.toList[j]]:=by rw[List.drop_eq_getElem_cons hl];rfl
   rw[A]at h1;have hz:=Aqj he h1;rw[<-Array.getElem?_toList,h_ hl,hz]
 unfold World.var? at B;rw[hn]at B;simp only[d_]at B;split at B
 .rename_i r te fz X;obtain rfl:=s_ B;refine⟨.rp gt gx 0 g 0 r te fz (λj=>r.getD j undef) (J_.1 X).1 X (λj a=>?_) λj cv a=>?_,r,te,fz,X,by rw[L,<-F,<-y,Array.length_toList]⟩
  .rw[L]at a
   have:=q j ns[j]<|h_ a
   rw[n_,this];simp[v_,this]
  .rw[I,b3_]at a;cases hq:ns[j]? with
   |none=>rw[hq]at a;cases a
   |some x=>
    rw[hq]at a;simp only[f9_,c4_]at a;subst a
    have:=q j x hq
    rw[show r.getD j undef=.int k x by simp[v_,this]];exact .sc _ rfl
 .cases B
end Go.Ab
namespace Go.Ab
open Go
def zc(i:TypeInfo):List Value:=match i.zero with
 |some z=>z.cells.toList
 |none=>[]
def Sk.c:Sk->aE
 |.i k=>.int k
 |.b=>.bool
 |.s=>.str
 |.f k=>.flt k
 |.l t=>.ro t
def Sk.nl:Sk->Bool
 |.l _=>U
 |_=>J
def Sk.u:Sk->Bool
 |.i .u8=>J
 |_=>U
section
variable{T:Nat->Type}
def pe(t:Nat)(i:TypeInfo)(y:Ty):Ent1 T:=plain T t y i.size<|zc i
def re(t:Nat)(i:TypeInfo)(y:Ty)(a:List Sk)(to:T t->SkL T a)(e:SkL T a->T t):Ent1 T:=⟨t,⟨y,i.size,zc i,λx=>NZ a<|to x,λcs=>match Amz a cs with
 |some x=>C<|e x
 |none=>N,a.all Sk.nl⟩⟩
def SkF(T:Nat->Type)(Y:Type):List Sk->Type
 |[]=>Y
 |a::t=>a.T T->SkF T Y t
def apS{Y:Type}:(l:List Sk)->SkF T Y l->SkL T l->Y
 |[],f,_=>f
 |_::t,f,x=>apS t (f x.1) x.2
def Sk.enc_sc(a:Sk)(x:a.T T):YZ (a.enc x)=J/\(a.nl=J->Aey (a.enc x)=J)/\u8C (a.enc x)=a.u:=by
 cases a with
 |i k=>exact⟨rfl,λ_=>rfl,by cases k<;>rfl⟩
 |l t=>exact⟨rfl,(λh=>by cases h),rfl⟩
 |_=>exact⟨rfl,λ_=>rfl,rfl⟩
def Am6:∀(l:List Sk) (x:SkL T l),(NZ l x).length=l.length
 |[],_=>rfl
 |_::t,x=>b5_ _<|Am6 t x.2
def Arf:∀(l:List Sk) (x:SkL T l),(NZ l x).all YZ=J
 |[],_=>rfl
 |a::t,x=>by simp only[NZ,T_,(a.enc_sc x.1).1,Arf t x.2,f4_]
def Arh:∀(l:List Sk),l.all Sk.nl=J->∀(x:SkL T l),(NZ l x).all Aey=J
 |[],_,_=>rfl
 |a::t,h,x=>by rw[T_,b_]at h;simp only[NZ,T_,(a.enc_sc x.1).2.1 h.1,Arh t h.2 x.2,f4_]
def Sk.r:Sk->Option Nat
 |.l t=>C t
 |_=>N
def Acg:∀(l:List Sk) (x:SkL T l),(NZ l x).map roC=l.map Sk.r
 |[],_=>rfl
 |a::t,x=>by simp only[NZ,aX,Acg t x.2];cases a<;>rfl
def Ag2:∀(l:List Sk) (x:SkL T l),(NZ l x).map u8C=l.map Sk.u
 |[],_=>rfl
 |a::t,x=>by simp only[NZ,aX,(a.enc_sc x.1).2.2,Ag2 t x.2]
end
def At1:List (Nat×Nat)->List (Nat×Nat)->Bool
 |[],[]=>J
 |a::s,b::t=>aH a.1 b.1&&aH a.2 b.2&&At1 s t
 |_,_=>U
def Ark:∀{s t:List<|Nat×Nat},At1 s t=J->s=t
 |[],[],_=>rfl
 |(a,b)::s,(c,d)::t,h=>by simp only[At1,b_]at h;rw[c8_ h.1.1,c8_ h.1.2,Ark h.2]
section
variable{P:Program}{G:aD}
def ZO(P:Program)(G:aD)(t:Nat):Ty->Bool
 |.no=>U
 |.bool=>match P.underlying t with
  |some .bool=>J
  |_=>U
 |.int k=>match P.underlying t with
  |some (.int k')=>ER k k'
  |_=>U
 |.flt k=>match P.underlying t with
  |some (.float k')=>OZ k k'
  |_=>U
 |.str=>match P.underlying t with
  |some .string=>J
  |_=>U
 |.sl e=>(match P.underlying t with
  |some (.slice q)=>aH e q
  |_=>U)&&(!Oa (G.ty e)&&(match P.info? e with
  |some i=>aN i.bytes 4096
  |none=>U))
 |.pt e=>match P.underlying t with
  |some (.pointer q)=>aH e q
  |_=>U
 |.fn=>match P.underlying t with
  |some (.func _ _ _)=>J
  |_=>U
 |.st r=>match P.underlying t with
  |some (.struct a)=>At1 (a.toList.map λf=>(f.offset,f.type)) r&&r.all λp=>!Oa (G.ty p.2)
  |_=>U
 |.arr n e=>match P.underlying t with
  |some (.array y q)=>aH n y&&aH e q&&!Oa (G.ty e)
  |_=>U
def Afs(G:aD):Ty->Prop
 |.sl e=>∀x,(G.enc e x).length=G.sz e
 |_=>True
def Bff{k k':IntKind}(h:ER k k'=J):k=k':=by cases k<;>cases k'<;>first|rfl|(simp[ER]at h)
def Bfe{k k':FloatKind}(h:OZ k k'=J):k=k':=by cases k<;>cases k'<;>first|rfl|(simp[OZ]at h)
def Bgi{t:Nat}{y:Ty}(h:ZO P G t y=J)(hl:Afs G y):Baf P G t y:=by
 unfold ZO at h;cases y with
 |no=>trivial
 |bool|str=>
  simp only at h;split at h
  .assumption
  .cases h
 |int k=>
  simp only at h;split at h
  .rename_i e;cases Bff h;exact e
  .cases h
 |flt k=>
  simp only at h;split at h
  .rename_i e;cases Bfe h;exact e
  .cases h
 |sl e=>
  simp only[b_,b4_]at h;obtain⟨h1,z,r⟩:=h;split at h1
  .rename_i q;split at r
   .rename_i i hi;cases c8_ h1;exact⟨q,z,⟨i,hi,r⟩,hl⟩
   .cases r
  .cases h1
 |pt e=>
  simp only at h;split at h
  .rename_i q;cases c8_ h;exact q
  .cases h
 |fn=>
  simp only at h;split at h
  .rename_i e;exact⟨_,_,_,e⟩
  .cases h
 |st A=>
  simp only at h;split at h
  .rename_i a e;rw[b_]at h;exact⟨a,e,Ark h.1,h.2⟩
  .cases h
 |arr n e=>
  simp only at h;split at h
  .rename_i q;simp only[b_,b4_]at h;cases c8_ h.1.1;cases c8_ h.1.2;exact⟨q,h.2⟩
  .cases h
def Xi(i:TypeInfo):Bool:=aN 1 i.size&&((zc i).all Kg&&(aH (zc i).length i.size&&i.zero.isSome))
def Axd{t:Nat}{i:TypeInfo}{y:Ty}{enc:G.T t->List (Cv G.T)}{dec:List (Cv G.T)->Option (G.T t)}{q:Bool}(hi:P.info? t=C i)(a:(ZO P G t y&&Xi i)=J)(hl:Afs G y)
  (h1:∀x,(enc x).length<=i.size) (I:∀cs x,dec cs=C x->enc x=cs) (E:∀x,(enc x).all YZ=J) (F:q=J->∀x,(enc x).all Aey=J) (A:∀x y,(enc x).map u8C=(enc y).map u8C) (B:∀x y,(enc x).map roC=(enc y).map roC):EntOK P G t ⟨y,i.size,zc i,enc,dec,q⟩:=by
 rw[b_]at a;obtain⟨r,a⟩:=a;simp only[Xi,b_]at a;obtain⟨z,e⟩:=Option.isSome_iff_exists.1 a.2.2.2;refine⟨Bgi r hl,λ_=>⟨i,z,hi,rfl,e,by simp only[zc,e]⟩,λ_=>a.1,λh=>?_,a.2.1,c8_ a.2.2.1,h1,I,E,F,A,B⟩;subst h;cases r
def pk{t:Nat}{i:TypeInfo}{y:Ty}(hi:P.info? t=some i:=by kernel_rfl)(a:(ZO P G t y&&Xi i)=true:=by kernel_rfl)(hl:Afs G y:=by trivial):EntOK P G t (pe (T:=G.T) t i y).e:=Axd hi a hl (λ_=>W_ _) (λ_ _ h=>by cases h) (λ_=>rfl) (λ_ _=>rfl) (λ_ _=>rfl) (λ_ _=>rfl)
def ps{t e:Nat}{i:TypeInfo}(hi:P.info? t=some i:=by kernel_rfl)(a:(ZO P G t (.sl e)&&Xi i)=true:=by kernel_rfl)(hl:∀x,(G.enc e x).length=G.sz e:=by intro x;kernel_rfl):EntOK P G t (pe (T:=G.T) t i<|.sl e).e:=pk hi a hl
def rk0{t:Nat}{i:TypeInfo}{y:Ty}{a:List Sk}{to:G.T t->SkL G.T a}{q:SkL G.T a->G.T t}(hl:Afs G y)(hi:P.info? t=C i)(r:(ZO P G t y&&Xi i)=J)(B:aH a.length i.size=J)(A:∀x,to (q x)=x):EntOK P G t (re (T:=G.T) t i y a to q).e:=
 Axd hi r hl (λx=>by rw[Am6,c8_ B];exact t_ _) (λcs x h=>by
  cases e:Amz a cs with
  |none=>rw[e]at h;cases h
  |some z=>rw[e]at h;cases h;rw[A];exact Arc e) (λx=>Arf _ _) (λh x=>Arh _ h _) (λx y=>by rw[Ag2,Ag2]) (λx y=>by rw[Acg,Acg])
def rk{t:Nat}{i:TypeInfo}{y:Ty}{a:List Sk}{to:G.T t->SkL G.T a}{q:SkL G.T a->G.T t}(hi:P.info? t=some i:=by kernel_rfl)(r:(ZO P G t y&&Xi i)=true:=by kernel_rfl)(A:Nat.beq a.length i.size=true:=by kernel_rfl)(z:∀x,to (q x)=x:=by intro x;kernel_rfl)(hl:Afs G y:=by trivial):EntOK P G t (re (T:=G.T) t i y a to q).e:=rk0 hl hi r A z
def rs{t e:Nat}{i:TypeInfo}{a:List Sk}{to:G.T t->SkL G.T a}{q:SkL G.T a->G.T t}(hi:P.info? t=some i:=by kernel_rfl)(r:(ZO P G t (.sl e)&&Xi i)=true:=by kernel_rfl)(z:Nat.beq a.length i.size=true:=by kernel_rfl)(y:∀x,to (q x)=x:=by intro x;kernel_rfl)(hl:∀x,(G.enc e x).length=G.sz e:=by intro x;kernel_rfl):EntOK P G t (re (T:=G.T) t i (.sl e) a to q).e:=rk0 hl hi r z y
def fn0{α:Type _}{Q:α->Prop}:∀p∈([]:List α),Q p:=λ_ h=>absurd h<|List.not_mem_nil
def fc{α:Type _}{Q:α->Prop}{a:α}{l:List α}(h:Q a)(t:∀p∈l,Q p):∀p∈a::l,Q p:=List.forall_mem_cons.2 ⟨h,t⟩
def Bkg (P : Program) (t : Nat) (y : Ty) : Bool := (!y.isAgg || !P.eqGuardType P.depth t) && (!Aug y || (!P.stoodInHeld t && (P.fieldsOf t).toList.all λf => f.name != "_"))
def Bmo{l:List<|Ent1 G.T}(h:(l.all λp=>Bkg P p.t p.e.ty)=J):∀p∈l,NmE P p.t p.e.ty:=λp hp=>by
 have h:=G_.1 h p hp;simp only[Bkg,b_,O_,b4_]at h;refine⟨λe=>?_,λe=>?_,λe=>?_⟩
 .rcases h.1 with h|h
  .rw[h]at e;cases e
  .exact h
 .rcases h.2 with h|h
  .rw[h]at e;cases e
  .exact h.1
 .rcases h.2 with h|h
  .rw[h]at e;cases e
  .exact h.2
def Bd7:∀(l:List Sk) (y:TL G<|l.map Sk.c),∃x:SkL G.T l,DB (l.map Sk.c) y=NZ l x
 |[],_=>⟨(),rfl⟩
 |a::t,y=>by
  obtain⟨x,q⟩:=Bd7 t y.2;cases a with
  |i k=>exact⟨(y.1,x),b5_ _ q⟩
  |b=>exact⟨(y.1,x),b5_ _ q⟩
  |s=>exact⟨(y.1,x),b5_ _ q⟩
  |f k=>exact⟨(y.1,x),b5_ _ q⟩
  |l e=>exact⟨(y.1,x),b5_ _ q⟩
def dk(a:List Sk){e:Nat}(r:shl G 20 e=some (a.map Sk.c):=by kernel_rfl)(hd:∀x:SkL G.T a,(G.dec e<|NZ a x).isSome=true:=by intro x;kernel_rfl):Ye G<|.sl e:=Be6 r λy=>by obtain⟨x,q⟩:=Bd7 a y;rw[q];exact Option.isSome_iff_exists.1<|hd x
def df{e:Nat}(h:YX (G.ty e)=true:=by kernel_rfl):Ye G<|.sl e:=λq a hf=>by cases a;rw[h]at hf;cases hf
def dl{e:Nat}(h:G.loose e=false:=by kernel_rfl):Ye G<|.sl e:=λq a _ hl=>by cases a;rw[h]at hl;cases hl
def dn{y:Ty}(h:(match y with|.sl _=>true|_=>false)=false:=by rfl):Ye G y:=Arb h
end
def ki:Sk:=.i .i64
def k4:Sk:=.i .u32
def k1:Sk:=.i .u8
def kb:Sk:=.b
def ks:Sk:=.s
def kf:Sk:=.f .f64
def kl(t:Nat):Sk:=.l t
def ci:aE:=.int .i64
def c4:aE:=.int .u32
def c1:aE:=.int .u8
def cb:aE:=.bool
def cs:aE:=.str
def cf:aE:=.flt .f64
def cr(t:Nat):aE:=.ro t
def cw(m t:Nat):aE:=.own (32768+m) t
def oi:aC:=.one ci
def o4:aC:=.one c4
def o1:aC:=.one c1
def oA(l:List aE):aC:=.agg l
section
variable{G:aD}
def CSh.F(G:aD)(Y:Type):aE->Type
 |.int _=>Int->Y
 |.bool=>Bool->Y
 |.str=>ByteArray->Y
 |.flt _=>Nat->Y
 |.own _ t=>List (G.T t)->Y
 |.ro t=>List (G.T t)->Y
 |.rp t _=>G.T t->Y
 |_=>Y
def CSh.ap{Y:Type}:(s:aE)->s.F G Y->s.T G->Y
 |.int _,f,x=>f x
 |.bool,f,x=>f x
 |.str,f,x=>f x
 |.flt _,f,x=>f x
 |.own _ _,f,x=>f x
 |.ro _,f,x=>f x
 |.rp _ _,f,x=>f x
 |.ptr _ _,f,_=>f
 |.clo _ _ _,f,_=>f
 |.np _ _,f,_=>f
 |.nili,f,_=>f
 |.nilp,f,_=>f
 |.sh _,f,_=>f
 |.lit _ _,f,_=>f
 |.sa _ _ _,f,_=>f
def LF(G:aD)(Y:Type):List aE->Type
 |[]=>Y
 |s::t=>s.F G<|LF G Y t
def apL{Y:Type}:(l:List aE)->LF G Y l->TL G l->Y
 |[],f,_=>f
 |s::t,f,x=>apL t (s.ap f x.1) x.2
def PSh.F(G:aD)(Y:Type):aC->Type
 |.one c=>c.F G Y
 |.agg l=>LF G Y l
def PSh.ap{Y:Type}:(s:aC)->s.F G Y->s.T G->Y
 |.one c,f,x=>c.ap f x
 |.agg l,f,x=>apL l f x
def TmF(G:aD)(Y:Type):List (Nat×aC)->Type
 |[]=>Y
 |p::t=>p.2.F G<|TmF G Y t
def apT{Y:Type}:(l:List<|Nat×aC)->TmF G Y l->TmT G l->Y
 |[],f,_=>f
 |p::t,f,x=>apT t (p.2.ap f x.1) x.2
def HpF(G:aD)(Y:Type):List (Nat×List aE)->Type
 |[]=>Y
 |p::t=>LF G (HpF G Y t) p.2
def apH{Y:Type}:(l:List<|Nat×List aE)->HpF G Y l->HpT G l->Y
 |[],f,_=>f
 |p::t,f,x=>apH t (apL p.2 f x.1) x.2
def Spec.F(G:aD)(s:aF)(Y:Type):Type:=TmF G (HpF G Y s.hp) s.tm
def Spec.ap{Y:Type}(s:aF)(f:s.F G Y)(x:s.T G):Y:=apH s.hp (apT s.tm f x.1) x.2
def fe(fn:Func)(I:aF)(E:SL)(f:I.F G<|Option<|Fp G E):Fe G:=⟨I,E,I.ap f,fn.results.toList⟩
def ix(n:Nat):List aC->List (Nat×aC)
 |[]=>[]
 |a::t=>(n,a)::ix (n+1) t
def ia(l:List aC):aF:=⟨ix 0 l,[],[]⟩
def sp(l:List<|Nat×aC):aF:=⟨l,[],[]⟩
def sh(l:List<|Nat×aC)(h:List<|Nat×List aE):aF:=⟨l,h,[]⟩
def rt(l:List<|Nat×aC):SL:=[(.ret,sp l)]
def rh(l:List<|Nat×aC)(h:List<|Nat×List aE):SL:=[(.ret,sh l h)]
def jn(l:List<|Nat×aC):SL:=[(.normal,sp l)]
def jh(l:List<|Nat×aC)(h:List<|Nat×List aE):SL:=[(.normal,sh l h)]
def xt(n:Nat)(l:List<|Nat×aC):Ex×aF:=(.exit n,sp l)
def xh(n:Nat)(l:List<|Nat×aC)(h:List<|Nat×List aE):Ex×aF:=(.exit n,sh l h)
def rx(l:List<|Nat×aC):Ex×aF:=(.ret,sp l)
def yh(l:List<|Nat×aC)(h:List<|Nat×List aE):Ex×aF:=(.ret,sh l h)
def Bjr(n:Nat):List (Nat×SL)->Option SL
 |[]=>N
 |p::t=>bif aH (1048576+p.1) n then C p.2 else Bjr n t
def js(l:List<|Nat×SL)(n:Nat):Option SL:=Bjr n l
def jm(k:List Nat)(e:SL)(f:Nat->Option SL)(n:Nat):Option SL:=bif k.any λk=>aH (1048576+k) n then C e else f n
def ow(m t:Nat):aC:=.one<|cw m t
def su(l:List<|Nat×aC)(h:List<|Nat×List aE):aF:=⟨l,h,[65536]⟩
def ru(l:List<|Nat×aC)(h:List<|Nat×List aE):SL:=[(.ret,su l h)]
def nu(l:List<|Nat×aC)(h:List<|Nat×List aE):SL:=[(.normal,su l h)]
def ry(l:List<|Nat×aC)(h:List<|Nat×List aE):Ex×aF:=(.ret,su l h)
def xu(n:Nat)(l:List<|Nat×aC)(h:List<|Nat×List aE):Ex×aF:=(.exit n,su l h)
end
variable{G:aD}
def lpN:List (aF×(V G->M (Ex×V G)))->V G->M (Ex×V G)
 |[],_=>aP
 |s::t,st=>match s.1.take st with
  |none=>aP
  |some x=>aI (s.2<|s.1.mk' x) λp=>match p.1 with
   |.normal=>lpN t p.2
   |e=>aG (e,p.2)
section
variable{P:Program}(ok:aO P G)(eqok:EqOK P G){cf:Dc G}(cfok:CfOK P G cf){nt:Nat}{drawn:Array Oper->V G->M (V G)}(dok:DrawOK P G nt drawn)
 {lp:Nat->V G->M (Ex×V G)}{kl:Nat->List Nat}{n:Nat}{c:Code}(hl:∀(k:Nat) c',(Bt c)[k]?=C c'->aM P G nt (lp (n+k)) c')
def rN(cf:Dc G)(nt:Nat)(drawn:Array Oper->V G->M (V G))(lp:Nat->V G->M (Ex×V G))(kl:Nat->List Nat)(n:Nat)(c:Code)(l:List<|aF×(Nat->Option SL)):List<|aF×(V G->M (Ex×V G)):=l.map λs=>(s.1,CZ cf nt drawn lp kl s.2 n c)
include cfok dok hl in
theorem Arx:∀(l:List<|aF×(Nat->Option SL)) (st:V G),Law<|lpN (rN cf nt drawn lp kl n c l) st
 |[],_=>Ap
 |s::t,st=>by
  simp only[rN,aX,lpN];split
  .exact Ap
  .refine Ad (Fs cfok dok c n _ hl) λp=>?_;cases p.1 with
   |normal=>exact Arx t p.2
   |exit i=>exact Ai _
   |ret=>exact Ai _
include ok eqok cfok dok hl in
theorem Afm{cx:Cx}(B:cx.nt=nt)(z:∀n y,cx.nu0 n=C y->Z<=n){Y:Ex}{A:V G}{Q:Exit->Act->World->Prop}(W:∀e L w',ExR Y e->Rel G cx A L w'->Q e L w') :
  ∀(l:List<|aF×(Nat->Option SL)) (st:V G) (a:Act) (w:World),lpN (rN cf nt drawn lp kl n c l) st _ C=C (Y,A)->Rel G cx st a w->Code.rounds P c Q l.length a w
 |[],_,_,_,h,_=>by simp[rN,lpN,aP]at h
 |s::t,st,a,w,h,r=>by
  rw[D_,rounds_succ];simp only[rN,aX,lpN]at h;cases X:s.1.take st with
  |none=>rw[X]at h;cases h
  |some x=>
   rw[X]at h;have hr:=Spec.take_rel X r z;have q:(CZ cf nt drawn lp kl s.2 n c (s.1.mk' x) _ C).bind (λp=>(match p.1 with
    |.normal=>lpN (rN cf nt drawn lp kl n c t) p.2
    |e=>aG (e,p.2):M<|Ex×V G) _ C)=C (Y,A):=by
    rw[<-h];exact(Fs cfok dok (kl:=kl) (jn:=s.2) c n _ hl _ _).symm
   obtain⟨⟨e,I⟩,hv,q⟩:=Option.bind_eq_some_iff.1 q;refine GR ok eqok cfok dok B z c n _ I e a w _ hl hv hr λe' L w' F R=>?_;cases e with
   |normal=>rw[KO F];exact Afm B z W t I L w' q R
   |exit i=>simp only[aG,c4_,b9_]at q;obtain⟨rfl,rfl⟩:=q;have E:=W _ _ _ F R;rw[WO F]at E|-;exact E
   |ret=>simp only[aG,c4_,b9_]at q;obtain⟨rfl,rfl⟩:=q;have E:=W _ _ _ F R;rw[SH F]at E|-;exact E
end
section
variable{P:Program}(cx:Ctx P G){l:List (Nat×Fe G)}(hl:∀p∈l,Ha P G p.1 p.2)
include cx hl in
theorem lkn{nt:Nat}{c:Code}(lp:Nat->St G->M (Ex×St G))(n:Nat)(e:List<|Spec×(Nat->Option SL)){f:St G->M (Ex×St G)}(hf:f=lpN (rN (cfQ l) nt (VQ (cfQ l) nt) lp (λ_=>[]) n c e):=by rfl)
  (hin:IT (λk c=>LoopOK P G nt (lp k) c) n<|Bt c:=by exact an0 κ):LoopOK P G nt f c:=by
 subst hf;have dok:=Ut cx.ok cx.eqok (OW cx.ok hl) (Aab l) cx.hm (nt:=nt);exact⟨λst=>Arx (OW cx.ok hl) dok hin e st,λst _ _ h _ a w _ q y r z=>wp_loop_rounds e.length<|Afm cx.ok cx.eqok (OW cx.ok hl) dok hin q y z e st a w h r⟩
end
variable{G:aD}
def dOf:Nat->Code->Code
 |0,.seq y _=>y
 |k+1,.seq _ y=>dOf k y
 |_,_=>.skip
def noD:Nat->Code->Code
 |0,.seq _ y=>y
 |k+1,.seq x y=>.seq x<|noD k y
 |_,c=>c
def Auz:Nat->Code->Bool
 |0,.seq _ _=>J
 |k+1,.seq (.region _ _ _) y=>Auz k y
 |_,_=>U
section
variable{P:Program}(ok:aO P G)(eqok:EqOK P G){cf:Dc G}(cfok:CfOK P G cf){nt:Nat}{drawn:Array Oper->V G->M (V G)}(dok:DrawOK P G nt drawn)
 {lp:Nat->V G->M (Ex×V G)}{kl:Nat->List Nat}{jn:Nat->Option (List (Ex×aF))}
include cfok dok in
theorem Au0{id:Nat}{ops:Array Oper}{b:Bool}{n:Nat}{st r:V G}{A:Ex}(h:CZ cf nt drawn lp kl jn n (.region id ops b) st _ C=C (A,r)):A=.normal:=by
 cases b with
 |false=>unfold CZ at h;obtain⟨a,h,_⟩:=UI h;have e:Law<|TN cf nt ops ops.toList a:=Sw (cx:=⟨default,λ_=>False,λ_=>False,λ_=>N,nt,[]⟩) cfok ops ops.toList a;obtain⟨y,h0,_⟩:=Mh (Ad e λ_=>Ai _) h;obtain⟨z,_,q⟩:=e.spec<|aT h0;simp[aG]at q;exact q.1.symm
 |true=>unfold CZ at h;obtain⟨a,h,_⟩:=UI h;obtain⟨y,h0,_⟩:=Mh (Ad (dok.law ops a) λ_=>Ai _) h;obtain⟨z,_,q⟩:=(dok.law ops a).spec<|aT h0;simp[aG]at q;exact q.1.symm
include ok eqok cfok dok in
theorem Ajj{d:Value->Deferred}{dr:Code}(L:∀(a:Act) (w:World) (Q:Exit->Act->World->Prop),(∀v,Q .normal { a with defers:=d v::a.defers } w)->dr.wp P Q a w){cx:Cx}(A:cx.nt=nt)(z:∀n y,cx.nu0 n=C y->Z<=n) :
  ∀(k:Nat) (c:Code),Auz k c=J->dOf k c=dr->∀(n:Nat) (st q:V G) (B:Ex) (a:Act) (w:World) (Q:Exit->Act->World->Prop),
  (∀(j:Nat) F,(Bt<|noD k c)[j]?=C F->aM P G nt (lp<|n+j) F)->CZ cf nt drawn lp kl jn n (noD k c) st (Ex×V G) C=C (B,q)->Rel G cx st a w->
  (∀v e W w',ExR B e->Rel G { cx with df:=d v::cx.df } q W w'->Q e W w')->c.wp P Q a w
 |0,.seq x y,_,R,n,st,q,B,a,w,Q,hl,h,r,hQ=>by
  have R:x=dr:=R;subst R;refine wp_seq (L a w _ λv=>?_);have hr:Rel G { cx with df:=d v::cx.df } st { a with defers:=d v::a.defers } w:=by obtain⟨ν,S,r⟩:=r;exact⟨ν,S,⟨r.slot,r.heap,r.used,by show d v::a.defers=d v::cx.df;rw[r.defers],r.nt,r.size,r.frame,r.env,r.sub,r.keep,r.names⟩⟩
  exact GR ok eqok cfok dok (cx:={ cx with df:=d v::cx.df }) A z y n st q B _ w Q hl h hr<|hQ v
 |k+1,.seq (.region id ops b) y,hk,R,n,st,q,B,a,w,Q,hl,h,r,hQ=>by
  have h:CZ cf nt drawn lp kl jn n (.seq (.region id ops b)<|noD k y) st (Ex×V G) C=C (B,q):=h;unfold CZ at h;have E:∀(j:Nat) F,(Bt<|.region id ops b)[j]?=C F->aM P G nt (lp<|n+j) F:=λj F hj=>by simp[Bt]at hj
  obtain⟨⟨e1,Y⟩,h1,h2⟩:=(Ob<|Fs cfok dok (.region id ops b) n st E).spec<|aT h;obtain⟨X,h0,I⟩:=Mh (Fs cfok dok (.region id ops b) n st E) h1;have hn:e1=.normal:=Au0 cfok dok h0;subst hn;refine wp_seq (GR ok eqok cfok dok A z (.region id ops b) n st X .normal a w _ E h0 r λe W w' he h3=>?_);rw[KO he];exact Ajj L A z k y hk R n Y q B W w' Q hl h2 (I z h3) hQ
include ok eqok cfok in
theorem Anh {g gd k : Nat} {fn : Func} {Y : Fn} {q : Code} (h2 : P.funcs[g]? = C fn) (L : (fn.name == "runtime.NumGoroutine") = U) (A : fn.body = C q) {e : Fe G} (hb : fn.results.toList = e.rs) (h3 : e.I.tm.length <= fn.ntmps)
  (dok:DrawOK P G fn.ntmps drawn) (hl:∀(j:Nat) B,(Bt<|noD k q)[j]?=C B->aM P G fn.ntmps (lp j) B) (hk:Auz k q=J)
  (ha:∀(a:Act) (w:World) (Q:Exit->Act->World->Prop),(∀v,Q .normal { a with defers:={ target:=.fn Y #[],args:=#[v] }::a.defers } w)->(dOf k q).wp P Q a w)
  (h4:∀v w,(invoke (.fn Y #[]) #[v]).run P w=.ok (.enter gd #[v]) w) (hh:∀v w,CallsD P gd #[v] .returning w λe u w'=>e=.returned (.tuple #[])/\u=.returning/\w'=w)
  (hF:∀x y,e.F x=C y->CZ cf fn.ntmps drawn lp kl jn 0 (noD k q) (e.I.mk' x) _ (λp=>IA e.E p.1 p.2)=C y):Ha P G g e:=by
 have h5:∀(j:Nat) B,(Bt<|noD k q)[j]?=C B->aM P G fn.ntmps (lp<|0+j) B:=λj B hk=>by rw[n_];exact hl j B hk
 refine Ang ok h2 L (by rw[A];rfl) hb h3 (λst=>Fs cfok dok (kl:=kl) (jn:=jn) (noD k q) 0 st h5) hF λcx st h7 ex args w R h6 hj h8 hc h0 W hR=>?_;refine calls_of_wp_defers h2 A (Ajj ok eqok cfok dok ha h6 h8 k q hk rfl 0 _ h7 ex _ w _ h5 h0 W λv e' X w' he r'=>?_);have z:Leaves P fn X.tmps R X.defers .returning w':=by
  have hd:X.defers=[{ target:=.fn Y #[],args:=#[v] }]:=by obtain⟨_,_,r⟩:=r';have h9:X.defers={ target:=.fn Y #[],args:=#[v] }::cx.df:=r.defers;rw[h9,hj]
  rw[hd];refine⟨σ,Y,#[],gd,#[v],rfl,h4 v w',(hh v w').mono λe u w2 h=>?_⟩;obtain⟨rfl,rfl,rfl⟩:=h;exact hR _ X w2 r'
 cases ex with
 |normal=>rw[KO he];exact z
 |ret=>rw[SH he];exact z
 |exit i=>exact absurd rfl<|hc i
end
section
variable{P:Program}{G:aD}(cx:Ctx P G){l:List (Nat×Fe G)}(hl:∀p∈l,Ha P G p.1 p.2)(jn:Nat->Option SL)(lp:Nat->V G->M (Ex×V G))
include cx hl in
theorem fkd{g X:Nat}{fn:Func}{Y:Fn}{e:Fe G}(k:Nat)(W:P.funcs[g]?=some fn)
  (R:∀(a:Act) (w:World) (Q:Exit->Act->World->Prop),(∀v,Q .normal { a with defers:={ target:=.fn Y #[],args:=#[v] }::a.defers } w)->(dOf k<|BV fn).wp P Q a w)
  (r:∀v w,(invoke (.fn Y #[]) #[v]).run P w=.ok (.enter X #[v]) w) (A:∀v w,CallsD P X #[v] .returning w λe u w'=>e=.returned (.tuple #[])/\u=.returning/\w'=w)
  (L:IT (λk c=>LoopOK P G fn.ntmps (lp k) c) 0<|Bt<|noD k<|BV fn) (hk:Auz k (BV fn)=true:=by kernel_rfl)
  (B : (!(fn.name == "runtime.NumGoroutine") && Nat.ble e.I.tm.length fn.ntmps) = true := by kernel_rfl) (q : fn.body = some (BV fn) := by kernel_rfl) (z : fn.results.toList = e.rs := by rfl)
  (hF:∀x,WM (cfQ l) lp jn fn.ntmps (noD k<|BV fn) e.I e.E x=e.F x:=by intro x;kernel_rfl):Ha P G g e:=by
 rw[b_,b4_]at B;exact Anh cx.ok cx.eqok (OW cx.ok hl) W B.1 q z (E_ B.2) (Ut cx.ok cx.eqok (OW cx.ok hl) (Aab l) cx.hm) (Adt L) hk R r A
  (kl:=λ_=>[]) λx y h=>(hF x).trans h
end
end Go.Ab
