import Derived.Test.YtnfjkodplikhjaaGreatDoorAbB
import Derived.Below
import Derived.Orders
import Derived.LoopN
import Derived.Laws.StructEq
import Derived.ProofKit
import Derived.OpenShut
import Derived.Deep.Slices
import Derived.KernelRfl
import Derived.Defers
set_option linter.all false
open Option renaming some->C,none->N
open Bool renaming true->J,false->U
open Go.Ab renaming get->O,St->V,lo->Z,Out->aA,Blk->aB,Sig->aC,PSh->aD,CSh->aE,Spec->aF,LoopOK->aM,SigOK->aP
open Go.Ab.M renaming ret->aG,bind->aI,bindneed->aJ,bindopt->aK,need->aN,opt->aQ,fail->aR,bind_spec->aS
open Nat renaming beq->aH,ble->aO,one_mul->bA,add_right_comm->bB,lt_trichotomy->bG
open Go.Ab.Cv renaming rds->aL
open Go.Ab.Ty renaming isAgg->aT
open Go.Ab.F2 renaming cons->aU
open Array renaming replicate->aV,getElem?_replicate->bC
open Go.Ab.CSh renaming give->aW
open List renaming map_cons->aX,cons_append->aZ,countP_cons_of_pos->bD,getElem?_zipWith->bE
open Go.Ab.Pv renaming cells->aY
namespace Go.Ab
variable{G:aC}
def Sv.cells{T:Nat->Type}:Sv T->List (Cv T)
 |.p x=>x.cells
 |.tup xs=>xs.flatMap aY
def Aaz{T:Nat->Type}:List (Cv T)->List Nat->List Nat
 |[],a=>a
 |.own n::t,a=>bif has a n then Aaz t a else Aaz t (a++[n])
 |_::t,a=>Aaz t a
def HN:List Nat->Nat->Nat->Option Nat
 |[],_,_=>N
 |k::t,n,i=>bif aH k n then C i else HN t n (i+1)
def Uw:∀(l:List Nat) (n i m:Nat),HN l n i=C m->i<=m/\l[m-i]?=C n
 |[],n,i,m,h=>by simp[HN]at h
 |k::t,n,i,m,h=>by
  simp only[HN,Bj]at h;by_cases e:k=n
  .simp[e]at h;subst h;simp[e]
  .rw[if_neg e]at h;obtain⟨h1,a⟩:=Uw t n (i+1) m h;exact⟨ω,by rw[show m-i=(m-(i+1))+1 by omega];simpa using a⟩
def Bcm{ν ν':Nat->Option Value}{S:Nat->Prop}{h:Array Obj}{n m t:Nat}{l:List<|G.T t}(q:ν' m=ν n)(r:Rb G ν S h n<|.row t l):Rb G ν' S h m<|.row t l:=by
 rcases r with⟨h1,e⟩|⟨b,a,c,te,h1,e⟩
 .exact .inl ⟨q.trans h1,e⟩
 .exact .inr ⟨b,a,c,te,q.trans h1,e⟩
def Ain (P : Program) (g : Nat) : Prop := ∃ fn, P.funcs[g]? = C fn /\ (fn.name == "runtime.NumGoroutine") = U /\ fn.body.isNone = U
def Ye{α:Type}:∀(l:List α) (n k:Nat),O (Iy n l) k=if n<=k then l[k-n]? else N
 |[],n,k=>by simp[Iy,O]
 |x::t,n,k=>by
  simp only[Iy,O,Bj,Ye t (n+1) k];by_cases e:n=k
  .subst e;simp
  .rw[if_neg e];by_cases h:n<=k
   .rw[if_pos h,if_pos ω,show k-n=(k-(n+1))+1 by omega];simp
   .rw[if_neg h,if_neg ω]
end Go.Ab
namespace Go.Ab
variable{G:aC}
variable{fn: Func}{g: Nat}
def Bgr(g:Nat->Option Nat):List (Nat×Nat)->Option (List<|Nat×Nat):=Dc λp=>match g p.1 with|some m=>C (m,p.2)|none=>N
def Cv.ren{T:Nat->Type}(f g:Nat->Option Nat):Cv T->Option (Cv T)
 |.own n=>match f n with|some m=>C (.own m)|none=>N
 |.ptr n off=>match g n with|some m=>C (.ptr m off)|none=>N
 |.clo k p q=>match Bgr g p,Bgr g q with|some e,C a=>C (.clo k e a)|_,_=>N
 |.np n t=>match g n with|some m=>C (.np m t)|none=>N
 |.sc v=>C<|.sc v
 |.ro t l=>C<|.ro t l
 |.rp t x o=>C<|.rp t x o
 |_=>N
def Pv.ren{T:Nat->Type}(f g:Nat->Option Nat):Pv T->Option (Pv T)
 |.one c=>match c.ren f g with|some c=>C (.one c)|none=>N
 |.agg cs=>match Dc (Cv.ren f g) cs with|some cs=>C (.agg cs)|none=>N
def Sv.ren{T:Nat->Type}(f g:Nat->Option Nat):Sv T->Option (Sv T)
 |.p x=>match x.ren f g with|some x=>C (.p x)|none=>N
 |.tup xs=>match Dc (Pv.ren f g) xs with|some xs=>C (.tup xs)|none=>N
def Cv.pts{T:Nat->Type}:Cv T->List Nat
 |.ptr n _=>[n]
 |.clo _ p q=>SW p++SW q
 |.np n _=>[n]
 |_=>[]
def Cv.ows{T:Nat->Type}:Cv T->List Nat
 |.own n=>[n]
 |_=>[]
def Awz:List Nat->List Nat->List Nat
 |[],a=>a
 |n::t,a=>bif has a n then Awz t a else Awz t (a++[n])
def YB(args:List<|Pv G.T):List Nat:=Awz (args.flatMap λp=>p.cells.flatMap Cv.pts) []
def inN(ns:List Nat)(n:Nat):Option Nat:=match HN ns n 0 with|some i=>C (Z+i)|none=>N
def Aay(ns:List Nat)(n:Nat):Option Nat:=bif aO Z n then ns[n-Z]? else N
def Afd(ns:List Nat)(n:Nat):Option Nat:=bif Nat.blt n Z&&!has ns n then C n else N
def Ank(ns:List Nat):Option (aB G.T)->Option (aB G.T)
 |some (.cells cs)=>match Dc (Cv.ren (Afd ns)<|inN ns) cs with|some cs=>C (.cells cs)|none=>N
 |_=>N
def Ax5:Option (aB G.T)->Option (aB G.T)
 |some (.row t l)=>C<|.row t l
 |_=>N
def Ez(ns:List Nat)(h:Nat->Option (aB G.T))(n:Nat):Option<|aB G.T:=
 bif aO Z n then match ns[n-Z]? with|some m=>Ank ns (h m)|none=>N
 else bif has ns n then N else Ax5 (h n)
def SV{T:Nat->Type}:Cv T->Bool
 |.ro _ _=>U
 |.rp _ _ _=>U
 |_=>J
def XZ(G:aC):List (Nat×aB G.T)->Bool
 |[]=>J
 |(_,.row t _)::r=>G.flat t&&XZ G r
 |(_,.cells _)::_=>U
def Ap1:List Nat->Bool
 |[]=>J
 |_=>U
structure Tin(α:Type) where
 x:α
 olds:List Nat
 fz:List Nat
 ft:List (Nat×Nat)
def ftC:aE->Cv G.T->List (Nat×Nat)
 |.ro t,.own n=>[(n,t)]
 |_,_=>[]
def ftL:List aE->List (Cv G.T)->List (Nat×Nat)
 |s::t,c::cs=>ftC s c++ftL t cs
 |_,_=>[]
def ftP:aD->Pv G.T->List (Nat×Nat)
 |.one s,.one c=>ftC s c
 |.agg a,.agg cs=>ftL a cs
 |_,_=>[]
def Aeh(tm:List<|Nat×Sv G.T):List (Nat×aD)->List (Nat×Nat)
 |[]=>[]
 |p::t=>(match O tm p.1 with|some (.p c)=>ftP p.2 c|_=>[])++Aeh tm t
def WT:Nat->List Nat->Bool
 |_,[]=>J
 |n,k::t=>aH k n&&WT (n+1) t
def QX(I:aF)(h1:Nat->Option (aB G.T))(k:Nat)(args:List<|Pv G.T):Option<|Tin<|I.T G:=
 bif aH args.length I.tm.length&&aH k I.hp.length&&WT Z (Ay I.hp)then
  match Ig h1 (Iy 0<|args.map .p) I.tm,Kh h1 I.hp with
  |some a,C b=>
   bif I.tm.all (λp=>p.2.fix<|Ay I.hp)&&I.hp.all (λp=>p.2.all<|CSh.fix<|Ay I.hp)&&
    (Ie (DO (a.nm++b.nm)++Ay I.hp)&&Xv (DO<|a.nm++b.nm)&&Ie (Eb (a.nm++b.nm)++Ay I.hp)&&(XK (Eb (a.nm++b.nm)++Ay I.hp) (a.fz++b.fz)&&Afg (a.nm++b.nm) (a.sh++b.sh)))
   then C ⟨(a.x,b.x),Eb<|a.nm++b.nm,a.fz++b.fz,Aeh (Iy 0<|args.map .p) I.tm⟩else N
  |_,_=>N
 else N
structure Fe(G:Sig) where
 I:Spec
 E:List (Ex×Spec)
 F:I.T G->Option (Ev G E)
 rs:List ResultVar
def Rv(hp:Nat->Option (aB G.T)):List Nat->Option (List<|List<|Cv G.T):=Dc λn=>match hp n with|some (.cells cs)=>C cs|_=>N
def Hs(I:aF)(rs:List ResultVar)(p:Ex×V G):Option<|Sv G.T×List (List<|Cv G.T):=match p.1 with
 |.exit _=>N
 |_=>match MX p.2 rs,Rv (O p.2.hp) (Ay I.hp)with
  |some s,C bl=>C (s,bl)
  |_,_=>N
def Og:List Nat->List (List<|Cv G.T)->List (Nat×aB G.T)
 |n::ns,c::cs=>(n,.cells c)::Og ns cs
 |_,_=>[]
def Aca:List (Nat×aB G.T)->List (Nat×Option (aB G.T))
 |[]=>[]
 |(n,k)::t=>(n,C k)::Aca t
def Ab8(ns:List Nat)(h:Nat->Option (aB G.T))(args:List<|Pv G.T):List Nat:=args.flatMap (λp=>p.cells.flatMap Cv.ows)++ns.flatMap λn=>match h n with|some (.cells cs)=>cs.flatMap Cv.ows|_=>[]
def plC{T:Nat->Type}:Cv T->Bool
 |.sc _|.ro _ _|.rp _ _ _=>J
 |_=>U
def VK(hp:Nat->Option (aB G.T)):List Nat->Nat->Option (List<|Nat×aB G.T)
 |[],_=>C []
 |n::t,i=>match hp n,VK hp t (i+1)with
  |some (.row u l),C r=>C<|(i,.row u l)::r
  |some (.cells cs),C r=>bif Nat.blt n Z&&cs.all plC then C ((i,.cells cs)::r)else N
  |_,_=>N
def frs{T:Nat->Type}:List (Cv T)->List Nat
 |[]=>[]
 |.ptr n _::t=>bif aO Z n then frs t else n::frs t
 |_::t=>frs t
def Bgl(ns a:List Nat)(nm n:Nat):Option Nat:=bif aO Z n then Aay ns n else HN a n nm
def Xx(G:aC)(t u:Nat):Bool:=!aH u t&&!G.loose u
def Ahf(G:aC)(t:Nat):List (Option Nat)->Bool
 |[]=>J
 |none::r=>Ahf G t r
 |some u::r=>Xx G t u&&(G.flat u&&Ahf G t r)
def VC(G:aC)(t u:Nat):Bool:=G.flat u||Ahf G t ((G.enc u<|G.dfl u).map roC)
def ZD(G:aC)(t:Nat):Cv G.T->Bool
 |.ro u _=>Xx G t u&&VC G t u
 |.rp _ _ _=>U
 |_=>J
def Adt(G:aC)(t:Nat):List (Nat×aB G.T)->Bool
 |[]=>J
 |(_,.row u _)::r=>VC G t u&&Adt G t r
 |(_,.cells _)::_=>U
def Xy(G:aC)(a:List<|Nat×Nat)(cs:List<|Cv G.T)(Cf:List<|Nat×aB G.T)(n:Nat):Bool:=match O a n with
 |some t=>cs.all (ZD G t)&&Adt G t Cf
 |none=>U
def Aw9(ns:List Nat)(rd:List Nat)(nm:Nat)(e fz:List Nat)(r:List<|Nat×Nat)(hp:Nat->Option (aB G.T))(s:Sv G.T)(bl:List<|List<|Cv G.T):Option<|aA G:=
 let a:=Aaz (s.cells++bl.flatten) []++frs s.cells
 match bif Ie a then VK hp a nm else N,s.ren (λn=>HN a n nm)<|Bgl ns a nm,Dc (Dc<|Cv.ren (λn=>HN a n nm)<|Aay ns) bl with
 |some Cf,C s',C q=>
  let flat:=Ap1 fz||((s.cells++bl.flatten).all SV&&XZ G Cf)
  C ⟨C s',MK (e++bif flat then []else fz.filter λn=>!Xy G r (s.cells++bl.flatten) Cf n)++Aca (Og ns q++Cf),BB Cf,rd⟩
 |_,_,_=>N
section
variable(ns:List Nat)(h h1:Nat->Option (aB G.T))(nm:Nat)(rd:List Nat)(args:List (Pv G.T))(g:Nat)
def Wh(e:Fe G)(t:Tin<|e.I.T G)(p:Ex×V G):Option<|aA G:=match Hs e.I e.rs p with
 |some a=>Aw9 ns rd nm t.olds t.fz t.ft (O p.2.hp) a.1 a.2
 |none=>N
def Abr(e:Fe G)(t:Tin<|e.I.T G):M<|aA G:=λ_ k=>(e.F t.x).bind λy=>FZ e.E y λp=>(Wh ns nm rd e t p).bind k
def UQ:List (Nat×Fe G)->M (aA G)
 |[]=>aR
 |p::r=>λR k=>bif aH p.1 g then match QX p.2.I h1 ns.length args with
   |some t=>Abr ns nm rd p.2 t R k
   |none=>UQ r R k
  else UQ r R k
end
def cfP(l:List<|Nat×Fe G):Ch G:=λg args h nm=>aI (aQ<|Dc (Pv.ren (Afd<|YB args)<|inN<|YB args) args) λa=>aI (aN<|Ie<|YB args) λ_=>UQ (YB args) (Ez (YB args) h) nm (YB args++Ab8 (YB args) h args) a g l
def Dq(P:Program)(G:aC)(g:Nat)(e:Fe G):Prop:=Ain P g/\
 ∀(x:e.I.T G) (y:Ev G e.E) (p:Ex×V G) (s:Sv G.T) (bl:List<|List<|Cv G.T),e.F x=C y->FZ e.E y C=C p->Hs e.I e.rs p=C (s,bl)->
 ∀(ν:Nat->Option Value) (S q:Nat->Prop) (w:World) (a:List Value),HRel G ν S (λb=>q b\/w.heap.size<=b) (O (e.I.mk' x).hp) w->(∀n,ν n≠N->n∈(e.I.mk' x).us)->
  a.length=e.I.tm.length->(∀k v,O (e.I.mk' x).tm k=C v->Rs G ν S w.heap v (a.getD k undef))->
  Calls P g a.toArray w λr w'=>∃v ν' S',r=.returned v/\Rs G ν' S' w'.heap s v/\HRel G ν' S' (λb=>q b\/w.heap.size<=b) (O p.2.hp) w'/\
   (∀b,S b->S' b)/\(∀b,S' b->S b\/q b\/w.heap.size<=b)/\(∀n y,Z<=n->ν n=C y->ν' n=C y)/\
   w.heap.size<=w'.heap.size/\(∀b,b<w.heap.size->¬q b->w'.heap[b]?=w.heap[b]?)/\(w'.os=w.os/\w'.tape=w.tape/\w'.output=w.output)
section
variable{P:Program}(ok:aP P G)(eqok:EqOK P G){cf:Ch G}(cfok:CfOK P G cf){drawn:Array Oper->V G->M (V G)}
 {lp:Nat->V G->M (Ex×V G)}{kl:Nat->List Nat}{jn:Nat->Option (List (Ex×aF))}
include ok in
theorem Aqb(hw : P.funcs[g]? = C fn)(Y : (fn.name == "runtime.NumGoroutine") = U)(h7 : fn.body.isNone = U){e : Fe G}(ht : fn.results.toList = e.rs)(hx : e.I.tm.length <= fn.ntmps)
  {hc:V G->M (Ex×V G)}(hh:∀st,Law<|hc st) (hF:∀x y,e.F x=C y->hc (e.I.mk' x) _ (λp=>Hu e.E p.1 p.2)=C y)
  (hs:∀(cx:Cx) (st q:V G) (A:Ex) (args:Array Value) (w:World) (R:Ending->World->Prop),cx.nt=fn.ntmps->cx.df=[]->(∀n y,cx.nu0 n=C y->Z<=n)->(∀i,A≠ .exit i)->hc st _ C=C (A,q)->
   Rel G cx st { tmps:=args++aV (fn.ntmps-args.size) undef,defers:=[] } w->(∀df (B:Act) w',Rel G { cx with df:=df } q B w'->∃v,(results fn B.tmps).run P w'=.ok v w'/\R (.returned v) w')->Calls P g args w R):Dq P G g e:=by
 refine⟨⟨fn,hw,Y,h7⟩,λx y p s bl hy hp ho ν S mo w a h8 X x0 h6=>?_⟩;obtain⟨⟨A,ha⟩,h0,h2⟩:=(hh _).spec<|hF x y hy
 let cx:Cx:=⟨w,mo,S,λn=>if Z<=n then ν n else N,fn.ntmps,[]⟩
 have he:∀n y,cx.nu0 n=C y->Z<=n:=λn y h=>by
  simp only[cx]at h;split at h
  .assumption
  .cases h
 have h9:Rel G cx (e.I.mk' x) { tmps:=a.toArray++aV (fn.ntmps-a.toArray.size) undef,defers:=[] } w:=by
  refine⟨ν,S,λk t hk=>?_,h8,X,rfl,(by show _=fn.ntmps;simp;omega),q_ _,λ_ _ _=>rfl,⟨rfl,rfl,rfl⟩,λb hb=>.inl hb,λ_ h=>h,λn z hn=>?_⟩
  .have:=h6 k t hk
   have e1:(a.toArray++aV (fn.ntmps-a.toArray.size) undef).getD k undef=a.getD k undef:=by
    by_cases hk:k<a.length
    .rw[y_,Array.getElem?_append_left (by simpa using hk)];simp[hk]
    .rw[y_,Array.getElem?_append_right (by simp;omega)];simp only[k_];rw[List.getElem?_eq_none ω];simp only[bC];split<;>rfl
   rw[e1];exact this
  .simp only[cx]at hn;split at hn
   .exact hn
   .cases hn
 obtain⟨q,h3,hj⟩:∃q,p=(A,q)/\∀df (B:Act) w',Rel G { cx with df:=df } ha B w'->Rel G { cx with df:=df } q B w':=by have h3:p=(A,p.2):=Prod.ext (Afi e.E y A ha h2 p hp) rfl;exact⟨p.2,h3,λdf B w' r=>by obtain⟨x1,h4,h5⟩:=VO (cx:={ cx with df:=df }) he e.E h2 r C p hp;cases h4;exact h5⟩
 subst h3;have W:MX q fn.results.toList=C s/\∀i,A≠ .exit i:=by
  rw[ht];unfold Hs at ho;cases A with
  |exit i=>simp at ho
  |normal=>
   simp only at ho;split at ho
   .rename_i s1 b1 q1 q2;simp at ho;exact⟨q1.trans<|J_ C ho.1,σ⟩
   .simp at ho
  |ret=>
   simp only at ho;split at ho
   .rename_i s1 b1 q1 q2;simp at ho;exact⟨q1.trans<|J_ C ho.1,σ⟩
   .simp at ho
 refine hs cx _ ha A a.toArray w _ rfl rfl he W.2 h0 h9 λdf B w' hu=>?_;obtain⟨ν',S',L⟩:=hj df B w' hu;obtain⟨v,hr,hv⟩:=Atw ok L W.1;exact⟨v,hr,v,ν',S',rfl,hv,L.heap,L.keep,L.sub,λn z hn hz=>L.names n z (by simp only[cx];rw[if_pos hn];exact hz),L.size,L.frame,L.env⟩
include ok eqok cfok in
theorem Ada{a : Code}(Y : P.funcs[g]? = C fn)(B : (fn.name == "runtime.NumGoroutine") = U)(z : fn.body = C a){e : Fe G}(h3 : fn.results.toList = e.rs)(X : e.I.tm.length <= fn.ntmps)
  (dok:DrawOK P G fn.ntmps drawn) (hl:∀(k:Nat) A,(Bl a)[k]?=C A->aM P G fn.ntmps (lp k) A)
  (hF:∀x y,e.F x=C y->CA cf fn.ntmps drawn lp kl jn 0 a (e.I.mk' x) _ (λp=>Hu e.E p.1 p.2)=C y):Dq P G g e:=by
 have L:∀k A,(Bl a)[k]?=C A->aM P G fn.ntmps (lp<|0+k) A:=λk A hk=>by rw[m_];exact hl k A hk
 refine Aqb ok Y B (by rw[z];rfl) h3 X (λst=>EN cfok dok a 0 st L) hF λcx st h7 ex args w R h5 h4 h2 h6 h0 W hR=>?_;refine calls_of_wp Y z (GD ok eqok cfok dok h5 h2 a 0 _ h7 ex _ w _ L h0 W λe' a' w' he r'=>?_);have q:bodyPost P fn R .ret a' w':=⟨by obtain⟨_,_,r⟩:=r';exact r.defers.trans h4,hR cx.df a' w' r'⟩
 cases ex with
 |normal=>rw[KJ he];exact q
 |ret=>rw[Tm he];exact q
 |exit i=>exact absurd rfl<|h6 i
end
end Go.Ab
namespace Go.Ab
variable{G:aC}
variable{vs:List Value}{v:Value}
section
variable{ν ν1:Nat->Option Value}{S:Nat->Prop}{h:Array Obj}{f g:Nat->Option Nat}
def Afe(hg:∀n m x,g n=C m->ν n=C x->ν1 m=C x){p:Nat×Nat}{m:Nat}(hm:g p.1=C m)(r:RPtr ν p v):RPtr ν1 (m,p.2) v:=by obtain⟨b,h1,a⟩:=r;exact⟨b,hg _ _ _ hm h1,a⟩
def Al6(hg:∀n m x,g n=C m->ν n=C x->ν1 m=C x){p q:List<|Nat×Nat}(hp:Bgr g p=C q)(r:F2 (RPtr ν) p vs):F2 (RPtr ν1) q vs:=by
 obtain⟨h1,E⟩:=CH _ _ hp;refine⟨by rw[h1];exact r.1,λi x y A B=>?_⟩;have hi:i<p.length:=by have:=(f_.1 A).1;omega
 obtain⟨z,e,a⟩:=E i _<|i_ hi;rw[A]at e;cases e;split at a
 .rename_i m hm;cases a;exact Afe hg hm<|r.2 i _ y (i_ hi) B
 .cases a
variable(hf:∀n m x,f n=C m->ν n=C x->ν1 m=C x)(hg:∀n m x,g n=C m->ν n=C x->ν1 m=C x)
include hf hg
theorem Bco{c A:Cv G.T}(e:c.ren f g=C A)(r:Rc G ν S h c v):Rc G ν1 S h A v:=by
 cases c with
 |own n=>
  simp only[Cv.ren]at e;split at e
  .rename_i m hm;cases e;obtain⟨a,len,y,h1,z⟩:=r;exact⟨a,len,y,hf n m _ hm h1,z⟩
  .cases e
 |ptr n off=>
  simp only[Cv.ren]at e;split at e
  .rename_i m hm;cases e;exact Afe hg (p:=(n,off)) hm r
  .cases e
 |clo k p q=>
  simp only[Cv.ren]at e;split at e
  .rename_i I L hp hq;cases e;obtain⟨B,E,h1,z,F⟩:=r;exact⟨B,E,h1,Al6 hg hp z,Al6 hg hq F⟩
  .cases e
 |np n t=>
  simp only[Cv.ren]at e;split at e
  .rename_i m hm;cases e;exact r.imp (λh=>h)<|Afe hg (p:=(n,0)) hm
  .cases e
 |sc v=>cases e;exact r
 |ro t l=>cases e;exact r
 |rp t x o=>cases e;exact r
 |pd _ _ _ _ _=>cases e
 |pr _ _ _ _=>cases e
 |sa _ _ _=>cases e
omit hf hg in
theorem Avd{f g:Nat->Option Nat}{cs r:List<|Cv G.T}(F:Dc (Cv.ren f g) cs=C r){m t:Nat}(hm:Cv.np m t∈r):∃B,Cv.np B t∈cs/\g B=C m:=by
 obtain⟨I,E⟩:=CH _ _ F;obtain⟨i,hi⟩:=c9_.1 hm;have y:i<cs.length:=by have:=(f_.1 hi).1;omega
 obtain⟨z,A,a⟩:=E i _<|i_ y;rw[hi]at A;cases A;have e:cs[i]∈cs:=a4_ y;generalize cs[i]=c at a e;cases c with
 |np n tt=>
  simp only[Cv.ren]at a;split at a
  .rename_i q hq;cases a;exact⟨n,e,hq⟩
  .cases a
 |own n=>simp only[Cv.ren]at a;split at a<;>cases a
 |ptr n off=>simp only[Cv.ren]at a;split at a<;>cases a
 |clo k p q=>simp only[Cv.ren]at a;split at a<;>cases a
 |sc v=>cases a
 |ro t l=>cases a
 |rp t x o=>cases a
 |pd _ _ _ _ _=>cases a
 |pr _ _ _ _=>cases a
 |sa _ _ _=>cases a
theorem Akf{cs a:List<|Cv G.T}(F:Dc (Cv.ren f g) cs=C a)(r:F2 (Rc G ν S h) cs vs):F2 (Rc G ν1 S h) a vs:=by
 obtain⟨I,B⟩:=CH _ _ F;refine⟨by rw[I];exact r.1,λi x y A E=>?_⟩;have hi:i<cs.length:=by have:=(f_.1 A).1;omega
 obtain⟨z,q,e⟩:=B i _<|i_ hi;rw[A]at q;cases q;exact Bco hf hg e<|r.2 i _ y (i_ hi) E
theorem Bct{x x':Pv G.T}(a:x.ren f g=C x')(r:Rp G ν S h x v):Rp G ν1 S h x' v:=by
 cases r with
 |one c v e=>
  simp only[Pv.ren]at a;split at a
  .rename_i A q;cases a;exact .one _ _<|Bco hf hg q e
  .cases a
 |agg cs vs e=>
  simp only[Pv.ren]at a;split at a
  .rename_i z y;cases a;exact .agg _ _<|Akf hf hg y e
  .cases a
theorem Avh{xs a:List<|Pv G.T}(I:Dc (Pv.ren f g) xs=C a)(r:F2 (Rp G ν S h) xs vs):F2 (Rp G ν1 S h) a vs:=by
 obtain⟨F,B⟩:=CH _ _ I;refine⟨by rw[F];exact r.1,λi x y A E=>?_⟩;have hi:i<xs.length:=by have:=(f_.1 A).1;omega
 obtain⟨z,q,e⟩:=B i _<|i_ hi;rw[A]at q;cases q;exact Bct hf hg e<|r.2 i _ y (i_ hi) E
theorem Bp8{x x':Sv G.T}(a:x.ren f g=C x')(r:Rs G ν S h x v):Rs G ν1 S h x' v:=by
 cases r with
 |p c v e=>
  simp only[Sv.ren]at a;split at a
  .rename_i A q;cases a;exact .p _ _<|Bct hf hg q e
  .cases a
 |tup cs vs e=>
  simp only[Sv.ren]at a;split at a
  .rename_i z y;cases a;exact .tup _ _<|Avh hf hg y e
  .cases a
end
structure TakeC(I:Spec)(nm:List (Nat×Option Nat))(fz:List Nat)(sh:List (Nat×Nat)):Prop where
 tm:I.tm.all (λp=>p.2.fix (Ay I.hp))=true
 hp:I.hp.all (λp=>p.2.all (CSh.fix (Ay I.hp)))=true
 keys:(DO nm++Ay I.hp).Nodup
 low:∀n∈DO nm,n<lo
 olds:(Eb nm++Ay I.hp).Nodup
 disj:∀n∈Eb nm++Ay I.hp,n∉fz
 shr:∀p∈sh,(p.1,some p.2)∈nm
def Bc8{I:aF}{h1:Nat->Option (aB G.T)}{tm:List<|Nat×Sv G.T}{a:Tk<|TmT G I.tm}{b:Tk<|HpT G I.hp}(he:Ig h1 tm I.tm=C a)(ha:Kh h1 I.hp=C b)
  (W:TakeC I (a.nm++b.nm) (a.fz++b.fz)<|a.sh++b.sh) {ν:Nat->Option Value}{S B:Nat->Prop}{w:World}(hr:HRel G ν S B h1 w) {f:Nat->Value}(hs:∀k s,O tm k=C s->Rs G ν S w.heap s (f k)) :
  ∃ν' S',(∀k v,O (I.mk' (a.x,b.x)).tm k=C v->Rs G ν' S' w.heap v (f k))/\HRel G ν' S' B (O (I.mk' (a.x,b.x)).hp) w/\(∀n,ν' n≠N->n∈(I.mk' (a.x,b.x)).us)/\
   (∀n∈Ay I.hp,ν' n=ν n/\∃cs,h1 n=C (.cells cs))/\(∀c,S' c↔S c\/∃n∈a.fz++b.fz,h1 n≠N/\∃y,ν n=C y/\AO y=C c)/\
   (∀n y c,O (I.mk' (a.x,b.x)).hp n≠N->ν' n=C y->AO y=C c->∃m,ν m=C y/\h1 m≠N/\(m∈Eb (a.nm++b.nm)\/m∈Ay I.hp))/\
   (∀n∈Eb (a.nm++b.nm),h1 n≠N):=by
 generalize h0:a.nm++b.nm=ρ at W|-;generalize hu:a.fz++b.fz=fz at W|-;generalize ht:a.sh++b.sh=sh at W;have d3:=List.nodup_append.1 W.keys;have d5:=List.nodup_append.1 W.olds
 let ν':Nat->Option Value:=λn=>match O ρ n with
  |some (C m)=>ν m
  |some N=>C<|.slice N 0 0
  |none=>if n∈Ay I.hp then ν n else N
 let S':Nat->Prop:=λc=>S c\/∃n∈fz,h1 n≠N/\∃y,ν n=C y/\AO y=C c
 have R:∀p∈ρ,ν' p.1=match p.2 with|some n=>ν n|none=>C<|.slice N 0 0:=by intro p hp;simp only[ν',Au4 d3.1 hp];cases p.2<;>rfl
 have h9:∀n,n∉DO ρ->O ρ n=N:=by
  intro n q;cases hg:O ρ n with
  |none=>rfl
  |some o=>exact absurd (RF<|Kb hg) q
 have r:∀n∈Ay I.hp,ν' n=ν n:=by
  intro n q
  have:O ρ n=N:=h9 n λhm=>d3.2.2 n hm n q rfl
  simp only[ν',this];rw[if_pos q]
 have rn:Ren ν ν' S S' h1 (Ay I.hp) ρ fz sh:=⟨R,r,λn q hh y c hy Y=>.inr ⟨n,q,hh,y,hy,Y⟩,λc Y=>.inl Y,λp hp=>R _<|W.shr p hp⟩
 rw[<-h0,<-hu,<-ht]at rn;obtain⟨g1,g2⟩:=UO hr hs I.tm a he W.tm rn.left;obtain⟨g3,g4,g5,g6⟩:=UN hr I.hp b ha (λ_ h=>h) W.hp rn.right;have F:BB (ND I.tm a.x++(SN I.hp b.x++Ib I.hp b.x))=DO ρ++Ay I.hp:=by rw[GQ,GQ,g2.2.1,g6.2.1,g4,<-h0,Uy,G_]
 have L:∀m n,(n,C m)∈ρ->h1 m≠N:=by
  intro m n ho;rw[<-h0]at ho;rcases n_.1 ho with ho|ho
  .exact g2.2.2 _ ho m rfl
  .exact g6.2.2 _ ho m rfl
 have E:∀n y c,O (ND I.tm a.x++(SN I.hp b.x++Ib I.hp b.x)) n≠N->ν' n=C y->AO y=C c->
   ∃m,ν m=C y/\h1 m≠N/\((n,C m)∈ρ\/(n∈Ay I.hp/\m=n)):=by
  intro n y c q hy Y;obtain⟨k,hk⟩:=Option.ne_none_iff_exists'.1 q;have hm:=Vy<|Kb hk;rw[F]at hm;rcases n_.1 hm with hm|hm
  .obtain⟨o,ho⟩:=Alo hm;have X:=R _ ho;simp only at X;cases o with
   |none=>rw[hy]at X;simp at X;subst X;simp[AO]at Y
   |some m=>exact⟨m,by rw[<-hy,X],L m n ho,.inl ho⟩
  .refine⟨n,by rw[<-r n hm];exact hy,?_,.inr ⟨hm,rfl⟩⟩;obtain⟨cs,hj⟩:=g5 n hm;rw[hj];simp
 refine⟨ν',S',g1,⟨λn k hk=>?_,λn m y z c h1 h2 h3 h4 h5 h6=>?_,λn y c h1 h2 h3=>?_,λc Y=>?_,hr.gl.mono (λ_ h=>.inl h) λ_ _=>rfl⟩,λn q=>?_,λn q=>⟨r n q,g5 n q⟩,λ_=>Iff.rfl,λn y c q hy Y=>?_,λn q=>?_⟩
 .have hm:=Kb hk;rcases n_.1 hm with hm|hm
  .exact g2.1 _ hm
  .rcases n_.1 hm with hm|hm
   .exact g6.1 _ hm
   .exact g3 _ hm
 .obtain⟨n1,q1,q2,A⟩:=E n y c h1 h3 h5;obtain⟨n2,p1,p2,p3⟩:=E m z c h2 h4 h6;have e:=hr.apart n1 n2 y z c q2 p2 q1 p1 h5 h6;subst e;rcases A with A|⟨A,q4⟩<;>rcases p3 with p3|⟨p3,p4⟩
  .exact Arh d5.1 A p3
  .exact absurd rfl<|d5.2.2 n1 (Ji A) n1 (by rw[p4];exact p3)
  .exact absurd rfl<|d5.2.2 n1 (Ji p3) n1 (by rw[q4];exact A)
  .exact q4.symm.trans p4
 .obtain⟨n1,q1,q2,A⟩:=E n y c h1 h2 h3;obtain⟨o1,o2⟩:=hr.own n1 y c q2 q1 h3;refine⟨?_,o2⟩;rintro(hS|⟨m,hm,h7,z,hz,h8⟩)
  .exact o1 hS
  .have e:=hr.apart n1 m y z c q2 h7 q1 hz h3 h8;subst e;refine W.disj n1 (n_.2 ?_) hm;rcases A with A|⟨A,q4⟩
   .exact .inl<|Ji A
   .exact .inr (by rw[q4];exact A)
 .rcases Y with Y|⟨m,hm,h7,z,hz,h8⟩
  .exact hr.stay c Y
  .exact hr.lt h7 hz h8
 .show n∈BB _++I.us;rw[F];cases hg:O ρ n with
  |some o=>simp[RF<|Kb hg]
  |none=>
   simp only[ν',hg]at q;by_cases W:n∈Ay I.hp
   .simp[W]
   .rw[if_neg W]at q;simp at q
 .obtain⟨m,q1,q2,A⟩:=E n y c q hy Y;refine⟨m,q1,q2,?_⟩;rcases A with A|⟨A,q4⟩
  .exact .inl<|Ji A
  .exact .inr (by rw[q4];exact A)
 .have:∃m,(m,C n)∈ρ:=by
   clear R h9 r rn F E d3 d5 g1 g2 g3 g4 g5 g6 W L h0;induction ρ with
   |nil=>simp[Eb]at q
   |cons p t ih=>
    obtain⟨k,o⟩:=p;cases o with
    |none=>simp only[Eb]at q;obtain⟨m,hm⟩:=ih q;exact⟨m,by simp[hm]⟩
    |some j=>
     simp only[Eb,x_]at q;rcases q with rfl|q
     .exact⟨k,σ⟩
     .obtain⟨m,hm⟩:=ih q;exact⟨m,by simp[hm]⟩
  obtain⟨m,hm⟩:=this;exact L n m hm
end Go.Ab
namespace Go.Ab
variable{G:aC}
variable{ν:Nat->Option Value}{ns:List Nat}{h:Array Obj}{v x:Value}{out:aA G}{n nm:Nat}
def Ac2(h:Nat->Option (aB G.T)):∀(d e:List<|Nat×Option (aB G.T)),By h (d++e)=By (By h d) e
 |[],e=>rfl
 |p::d,e=>by obtain⟨n,k⟩:=p;simp only[aZ,By];exact Ac2 _ d e
def Akt:∀(r:List<|Nat×aB G.T) (h:Nat->Option (aB G.T)) (n:Nat),(BB r).Nodup->By h (Aca r) n=match O r n with|some k=>C k|none=>h n
 |[],h,n,_=>rfl
 |(m,k)::t,h,n,a=>by
  simp only[BB,List.nodup_cons]at a;simp only[Aca,By,Akt t _ n a.2,O,Bj];by_cases e:m=n
  .subst e;rw[if_pos rfl];cases hg:O t m with
   |none=>simp
   |some k'=>exact absurd (Vy<|Kb hg) a.1
  .rw[if_neg e];cases O t n with
   |none=>simp[e]
   |some k'=>simp[e]
def Agv{α:Type}:∀(a b:List<|Nat×α) (n:Nat),O (a++b) n=match O a n with|some k=>C k|none=>O b n
 |[],_,_=>rfl
 |(m,k)::t,b,n=>by simp only[aZ,O,Bj,Agv t b n];by_cases e:m=n<;>simp[e]
def Aqh:∀(ns:List Nat) (cs:List<|List<|Cv G.T) (n:Nat) (k:aB G.T),O (Og ns cs) n=C k->∃(i:Nat) (c:List<|Cv G.T),ns[i]?=C n/\cs[i]?=C c/\k=.cells c
 |[],_,n,k,h=>by simp[Og,O]at h
 |_::_,[],n,k,h=>by simp[Og,O]at h
 |m::ns,c::cs,n,k,h=>by
  simp only[Og,O,Bj]at h;by_cases e:m=n
  .rw[if_pos e]at h;cases h;exact⟨0,c,by simp[e],rfl,rfl⟩
  .rw[if_neg e]at h;obtain⟨i,a,h1,q,r⟩:=Aqh ns cs n k h;exact⟨i+1,a,by simpa using h1,by simpa using q,r⟩
def Aak:∀(ns:List Nat) (cs:List<|List<|Cv G.T),cs.length=ns.length->BB (Og ns cs)=ns
 |[],[],_=>rfl
 |[],_::_,h=>by simp at h
 |_::_,[],h=>by simp at h
 |m::ns,c::cs,h=>by simp only[Og,BB,Aak ns cs (by simpa using h)]
def okK(n:Nat):aB G.T->Prop
 |.row _ _=>True
 |.cells cs=>n<Z/\∀c∈cs,plC c=J
def Ahu{hp:Nat->Option (aB G.T)}:∀(l:List Nat) (i:Nat) (r:List<|Nat×aB G.T),VK hp l i=C r->(∀n,n∈BB r↔i<=n/\n<i+l.length)/\(BB r).Nodup/\
  ∀j m,l[j]?=C m->∃k,hp m=C k/\O r (i+j)=C k/\okK m k
 |[],i,r,h=>by simp[VK]at h;subst h;exact⟨λn=>by simp[BB];try omega,by simp[BB],λj m hm=>by simp at hm⟩
 |m::t,i,r,h=>by
  have z:∃k a,r=(i,k)::a/\hp m=C k/\VK hp t (i+1)=C a/\okK m k:=by
   simp only[VK]at h;split at h
   .rename_i u l a q y;cases h;exact⟨_,_,rfl,q,y,trivial⟩
   .rename_i cs a q y;cases e:(Nat.blt m Z&&cs.all plC)with
    |false=>rw[e]at h;cases h
    |true=>rw[e]at h;cases h;rw[a_]at e;exact⟨_,_,rfl,q,y,(by have:=e.1;simpa using this),F_.1 e.2⟩
   .cases h
  obtain⟨k,a,rfl,q,y,F⟩:=z;obtain⟨h1,I,B⟩:=Ahu t (i+1) a y;refine⟨λn=>?_,?_,λj E hm=>?_⟩
  .simp only[BB,x_,h1,s_];omega
  .simp only[BB,List.nodup_cons];exact⟨λhm=>by have:=(h1 i).1 hm;omega,I⟩
  .cases j with
   |zero=>simp at hm;subst hm;exact⟨k,q,by simp[O],F⟩
   |succ j=>obtain⟨k',A,R,L⟩:=B j E (by simpa using hm);refine⟨k',A,?_,L⟩;simp only[O,Bj];rw[if_neg ω,show i+(j+1)=i+1+j by omega];exact R
def Bkm{ν':Nat->Option Value}{S:Nat->Prop}{m:Nat}{k:aB G.T}(e:okK n k)(a:ν' m=ν n)(r:Rb G ν S h n k):Rb G ν' S h m k:=by
 cases k with
 |row t l=>exact Bcm a r
 |cells cs=>
  obtain⟨b,c,te,A,F,q,I⟩:=r;refine⟨b,c,te,a.trans A,F,⟨q.1,λi x y z B=>?_⟩,λp t hm=>?_⟩
  .have E:=e.2 x<|o_ z
   have:=q.2 i x y z B
   cases x<;>first|exact this|(simp[plC]at E)
  .have:=e.2 _ hm
   simp[plC]at this
def Agm:∀(r:List<|Nat×aB G.T) (n:Nat) (k:aB G.T),XZ G r=J->O r n=C k->∃t l,k=.row t l/\G.flat t=J
 |[],n,k,_,h=>by simp[O]at h
 |(m,.cells cs)::t,n,k,h,_=>by simp[XZ]at h
 |(m,.row u l)::t,n,k,h,hg=>by
  simp only[XZ,a_]at h;simp only[O,Bj]at hg;by_cases e:m=n
  .rw[if_pos e]at hg;cases hg;exact⟨u,l,rfl,h.1⟩
  .rw[if_neg e]at hg;exact Agm t n k h.2 hg
def Ake{S S':Nat->Prop}{c:Cv G.T}(hf:SV c=J)(r:Rc G ν S h c v):Rc G ν S' h c v:=by
 cases c with
 |sc v0=>
  have e:Rd G S h (.sc v0) v:=r;cases e with
  |sc _ a=>exact Rd.sc _ a
 |ro t l=>simp[SV]at hf
 |rp t x o=>simp[SV]at hf
 |ptr _ _=>exact r
 |pd _ _ _ _ _=>exact r
 |pr _ _ _ _=>exact r
 |own _=>exact r
 |clo _ _ _=>exact r
 |np _ _=>exact r
 |sa _ _ _=>exact r
def Avg{S S':Nat->Prop}{x:Pv G.T}(hf:∀c∈x.cells,SV c=J)(r:Rp G ν S h x v):Rp G ν S' h x v:=by
 cases r with
 |one c v e=>exact .one _ _<|Ake (hf c (by simp[aY])) e
 |agg cs vs e=>exact .agg _ _ ⟨e.1,λi a b q y=>Ake (hf a<|o_ q)<|e.2 i a b q y⟩
def Avi{S S':Nat->Prop}{x:Sv G.T}(hf:∀c∈x.cells,SV c=J)(r:Rs G ν S h x v):Rs G ν S' h x v:=by
 cases r with
 |p x v e=>exact .p _ _<|Avg hf e
 |tup xs vs e=>exact .tup _ _ ⟨e.1,λi a b q y=>Avg (λc hm=>hf c<|c0_.2 ⟨a,o_ q,hm⟩)<|e.2 i a b q y⟩
def MF{a b:Nat}:aO a b=J↔a<=b:=by simp
def Wn:∀{n:Nat}{l:List Nat},WT n l=J->∀i k,l[i]?=C k->k=n+i
 |n,[],_,i,k,h=>by simp at h
 |n,m::t,h,i,k,a=>by
  simp only[WT,a_,AD]at h;cases i with
  |zero=>simp at a;omega
  |succ i=>have:=Wn h.2 i k (by simpa using a);omega
def Aym{I:aF}{h1:Nat->Option (aB G.T)}{k:Nat}{args:List<|Pv G.T}{t:Tin<|I.T G}(h:QX I h1 k args=C t) :
  args.length=I.tm.length/\(Ay I.hp).length=k/\(∀i n,(Ay I.hp)[i]?=C n->n=Z+i)/\∃a b,Ig h1 (Iy 0<|args.map .p) I.tm=C a/\Kh h1 I.hp=C b/\TakeC I (a.nm++b.nm) (a.fz++b.fz) (a.sh++b.sh)/\t=⟨(a.x,b.x),Eb<|a.nm++b.nm,a.fz++b.fz,Aeh (Iy 0<|args.map .p) I.tm⟩:=by
 unfold QX at h;have hl:∀l:List<|Nat×List aE,(Ay l).length=l.length:=by intro l;induction l with|nil=>rfl|cons p t B=>simp[Ay,B]
 cases e:aH args.length I.tm.length&&aH k I.hp.length&&WT Z (Ay I.hp)with
 |false=>rw[e]at h;cases h
 |true=>
  rw[e]at h;simp only[a_,AD]at e;obtain⟨e,E⟩:=e;simp only[h_]at h;split at h
  .rename_i a b F q;generalize r:(I.tm.all (λp=>p.2.fix<|Ay I.hp)&&I.hp.all (λp=>p.2.all<|CSh.fix<|Ay I.hp)&&
    (Ie (DO (a.nm++b.nm)++Ay I.hp)&&Xv (DO<|a.nm++b.nm)&&Ie (Eb (a.nm++b.nm)++Ay I.hp)&&(XK (Eb (a.nm++b.nm)++Ay I.hp) (a.fz++b.fz)&&Afg (a.nm++b.nm) (a.sh++b.sh))))=c at h
   cases c with
   |false=>cases h
   |true=>cases h;simp only[a_]at r;obtain⟨⟨c1,y⟩,⟨⟨A,c4⟩,L⟩,R,z⟩:=r;exact⟨e.1,by rw[hl];exact e.2.symm,λi n=>Wn E i n,a,b,F,q,⟨c1,y,Jq A,Xw c4,Jq L,XL R,Abe z⟩,rfl⟩
  .cases h
def Bbs(ns:List Nat)(nm:Nat)(rd:List Nat)(e:Fe G)(t:Tin<|e.I.T G):Law<|Abr ns nm rd e t:=by
 intro R k;unfold Abr;cases e.F t.x with
 |none=>rfl
 |some y=>
  show FZ e.E y (λp=>(Wh ns nm rd e t p).bind k)=(FZ e.E y (λp=>(Wh ns nm rd e t p).bind C)).bind k;rw[Oi,Oi e.E y (λp=>(Wh ns nm rd e t p).bind C)];cases FZ e.E y C with
  |none=>rfl
  |some p=>show(Wh ns nm rd e t p).bind k=((Wh ns nm rd e t p).bind C).bind k;cases Wh ns nm rd e t p<;>rfl
def Af4{rd:List Nat}{e:Fe G}{t:Tin<|e.I.T G}(h:Abr ns nm rd e t _ C=C out):
  ∃y p s bl,e.F t.x=C y/\FZ e.E y C=C p/\Hs e.I e.rs p=C (s,bl)/\Aw9 ns rd nm t.olds t.fz t.ft (O p.2.hp) s bl=C out:=by
 unfold Abr at h;cases q:e.F t.x with
 |none=>rw[q]at h;cases h
 |some y=>
  rw[q]at h;have h:FZ e.E y (λp=>(Wh ns nm rd e t p).bind C)=C out:=h;rw[Oi]at h;cases hp:FZ e.E y C with
  |none=>rw[hp]at h;cases h
  |some p=>
   rw[hp]at h;have h:(Wh ns nm rd e t p).bind C=C out:=h;unfold Wh at h;cases ho:Hs e.I e.rs p with
   |none=>rw[ho]at h;cases h
   |some a=>rw[ho]at h;simp only[Option.bind_fun_some]at h;exact⟨y,p,a.1,a.2,rfl,hp,ho,h⟩
def Aeu(ns:List Nat)(h1:Nat->Option (aB G.T))(nm:Nat)(rd:List Nat)(args:List<|Pv G.T)(g:Nat):∀l,Law<|UQ ns h1 nm rd args g l
 |[]=>Ai
 |p::r=>by
  intro R k;have a:=Aeu ns h1 nm rd args g r R k;simp only[UQ];cases aH p.1 g with
  |false=>exact a
  |true=>
   simp only[h_];cases QX p.2.I h1 ns.length args with
   |none=>exact a
   |some t=>exact Bbs ns nm rd p.2 t R k
def VP{ns:List Nat}{h1:Nat->Option (aB G.T)}{nm:Nat}{rd:List Nat}{args:List<|Pv G.T}{g:Nat}:∀{l:List<|Nat×Fe G}{out:aA G},UQ ns h1 nm rd args g l _ C=C out->
  ∃p∈l,p.1=g/\∃t,QX p.2.I h1 ns.length args=C t/\Abr ns nm rd p.2 t _ C=C out
 |[],out,h=>by simp[UQ,aR]at h
 |p::r,out,h=>by
  simp only[UQ]at h;cases a:aH p.1 g with
  |false=>rw[a]at h;obtain⟨q,hq,e⟩:=VP (l:=r) h;exact⟨q,by simp[hq],e⟩
  |true=>
   rw[a]at h;simp only[h_]at h;split at h
   .rename_i t y;exact⟨p,σ,AD.1 a,t,y,h⟩
   .obtain⟨q,hq,e⟩:=VP (l:=r) h;exact⟨q,by simp[hq],e⟩
def Ala{rd:List Nat}{z fz:List Nat}{F:List<|Nat×Nat}{hp:Nat->Option (aB G.T)}{s:Sv G.T}{bl:List<|List<|Cv G.T}(h:Aw9 ns rd nm z fz F hp s bl=C out):
  ∃r Cf s' q,VK hp r nm=C Cf/\s.ren (λn=>HN r n nm) (Bgl ns r nm)=C s'/\Dc (Dc<|Cv.ren (λn=>HN r n nm)<|Aay ns) bl=C q/\r.Nodup/\
   ∃y,out=⟨C s',MK (z++y)++Aca (Og ns q++Cf),BB Cf,rd⟩/\(y=(fz.filter λn=>!Xy G F (s.cells++bl.flatten) Cf n)\/(y=[]/\(∀c∈s.cells++bl.flatten,SV c=J)/\XZ G Cf=J)\/fz=[])/\(∀n∈y,n∈fz):=by
 unfold Aw9 at h;simp only at h;split at h
 .rename_i Cf s' q h1 I L;generalize R:Aaz (s.cells++bl.flatten) []++frs s.cells=r at h1 I L h;have A:Ie r=J/\VK hp r nm=C Cf:=by
   cases E:Ie r with
   |false=>rw[E]at h1;cases h1
   |true=>rw[E]at h1;exact⟨rfl,h1⟩
  refine⟨_,Cf,s',q,A.2,I,L,Jq A.1,_,(r_ h).symm,?_⟩;cases e:(Ap1 fz||((s.cells++bl.flatten).all SV&&XZ G Cf))with
  |false=>exact⟨.inl rfl,λn B=>(List.mem_filter.1 B).1⟩
  |true=>
   refine⟨.inr ?_,λn B=>by simp at B⟩;simp only[V_,a_]at e;rcases e with e|⟨X,W⟩
   .exact .inr (by cases fz with|nil=>rfl|cons a t=>simp[Ap1]at e)
   .exact .inl ⟨rfl,F_.1 X,W⟩
 .cases h
def Aql{m:Nat}(h:inN ns n=C m):Z<=m/\ns[m-Z]?=C n:=by
 unfold inN at h;split at h
 .rename_i i hi;cases h;obtain⟨_,a⟩:=Uw ns n 0 i hi;exact⟨ω,by rw[b4_];simpa using a⟩
 .cases h
def Al5{m:Nat}(h:Afd ns n=C m):m=n/\n<Z/\n∉ns:=by
 unfold Afd at h;cases a:(Nat.blt n Z&&!has ns n)with
 |false=>rw[a]at h;cases h
 |true=>rw[a]at h;simp only[a_,d9_,b2_]at a;cases h;exact⟨rfl,a.1,λhm=>by rw[(ES ns n).2 hm]at a;simp at a⟩
def Alz{m:Nat}(h:Aay ns n=C m):Z<=n/\ns[n-Z]?=C m:=by
 unfold Aay at h;cases a:aO Z n with
 |false=>rw[a]at h;cases h
 |true=>rw[a]at h;exact⟨MF.1 a,h⟩
def Qr(ns:List Nat)(ν:Nat->Option Value)(n:Nat):Option Value:=if Z<=n then match ns[n-Z]? with|some m=>ν m|none=>N else if n∈ns then N else ν n
def Au5{m:Nat}(h:inN ns n=C m)(a:ν n=C x):Qr ns ν m=C x:=by obtain⟨h1,e⟩:=Aql h;simp only[Qr,if_pos h1,e,a]
def Arf{m:Nat}(h:Afd ns n=C m)(a:ν n=C x):Qr ns ν m=C x:=by obtain⟨rfl,q,e⟩:=Al5 h;simp only[Qr];rw[if_neg ω,if_neg e];exact a
def SX{h:Nat->Option (aB G.T)}(a:Ez ns h n≠N):
  ∃m,Qr ns ν n=ν m/\h m≠N/\((Z<=n/\ns[n-Z]?=C m)\/(n<Z/\m=n/\n∉ns)):=by
 unfold Ez at a;cases q:aO Z n with
 |true=>
  have hl:=MF.1 q;rw[q]at a;simp only[h_]at a;split at a
  .rename_i m hm;refine⟨m,by simp only[Qr,if_pos hl,hm],λe=>a (by rw[e];rfl),.inl ⟨hl,hm⟩⟩
  .exact absurd rfl a
 |false=>
  have hl:n<Z:=by
   rcases f2_ n Z with h|h
   .exact h
   .rw[MF.2 h]at q;cases q
  rw[q]at a;simp only[g_]at a;cases y:has ns n with
  |true=>rw[y]at a;exact absurd rfl a
  |false=>
   have r:n∉ns:=λhm=>by rw[(ES ns n).2 hm]at y;cases y
   rw[y]at a;simp only[g_]at a;refine⟨n,by simp only[Qr];rw[if_neg ω,if_neg r],λe=>a (by rw[e];rfl),.inr ⟨hl,rfl,r⟩⟩
def Axg(X:ns.Nodup){h:Nat->Option (aB G.T)}{S B:Nat->Prop}{w:World}(E:HRel G ν S B h w):HRel G (Qr ns ν) S B (Ez ns h) w:=by
 refine⟨λn k a=>?_,λn m x y b h1 h2 h3 h4 h5 h6=>?_,λn x b h1 h2 h3=>?_,E.stay,E.gl⟩
 .unfold Ez at a;cases W:aO Z n with
  |true=>
   have hl:=MF.1 W;rw[W]at a;simp only[h_]at a;split at a
   .rename_i m hm;unfold Ank at a;split at a
    .rename_i cs h8;split at a
     .rename_i ha z;cases a;obtain⟨b,c,te,q1,F,A,q4⟩:=E.blk m _ h8;refine⟨b,c,te,by simp only[Qr,if_pos hl,hm,q1],F,Akf (λn m x=>Arf) (λn m x=>Au5) z A,λm1 t1 h7=>?_⟩;obtain⟨m0,r1,r2⟩:=Avd z h7;obtain⟨L,e2⟩:=q4 m0 t1 r1;obtain⟨i1,i2⟩:=Aql r2;rw[L,<-hm]at i2;obtain⟨I,u2⟩:=f_.1 hm;rw[hm]at i2;obtain⟨Y,R⟩:=f_.1 i2;have r:=b0_.1 X;refine⟨?_,e2⟩;rcases bG (m1-Z) (n-Z)with q|he|q
      .exact absurd (R.trans u2.symm)<|r _ _ Y I q
      .omega
      .exact absurd (u2.trans R.symm)<|r _ _ I Y q
     .cases a
    .cases a
   .cases a
  |false=>
   rw[W]at a;simp only[g_]at a;cases hc:has ns n with
   |true=>rw[hc]at a;cases a
   |false=>
    rw[hc]at a;simp only[g_]at a;have hl:n<Z:=by
     rcases f2_ n Z with h|h
     .exact h
     .rw[MF.2 h]at W;cases W
    have h9:n∉ns:=λhm=>by rw[(ES ns n).2 hm]at hc;cases hc
    unfold Ax5 at a;split at a
    .rename_i t l h0;cases a;exact Bcm (by simp only[Qr];rw[if_neg ω,if_neg h9])<|E.blk n _ h0
    .cases a
 .obtain⟨n',L,q1,F⟩:=SX (ν:=ν) h1;obtain⟨m',e2,p1,p2⟩:=SX (ν:=ν) h2;have e:=E.apart n' m' x y b q1 p1 (by rw[<-L];exact h3) (by rw[<-e2];exact h4) h5 h6;subst e;rcases F with⟨F,A⟩|⟨F,A,q4⟩<;>rcases p2 with⟨p2,p3⟩|⟨p2,p3,p4⟩
  .obtain⟨I,u2⟩:=f_.1 A;obtain⟨Y,R⟩:=f_.1 p3;have r:=b0_.1 X;rcases bG (n-Z) (m-Z)with q|he|q
   .exact absurd (u2.trans R.symm)<|r _ _ I Y q
   .omega
   .exact absurd (R.trans u2.symm)<|r _ _ Y I q
  .subst p3;exact absurd (o_ A) p4
  .subst A;exact absurd (o_ p3) q4
  .exact A.symm.trans p3
 .obtain⟨n',L,q1,F⟩:=SX (ν:=ν) h1;exact E.own n' x b q1 (by rw[<-L];exact h2) h3
end Go.Ab
namespace Go.Ab
variable{G:aC}{P:Program}
variable{h:Nat->Option (aB G.T)}{ν:Nat->Option Value}{v:Value}{u:Nat}{c:Cv G.T}
def Boe{s:aE}{a:Tk<|s.T G}(e:s.take h c=C a){n t:Nat}(hq:(n,t)∈ftC s c):∃l,h n=C (.row t l):=by
 unfold ftC at hq;split at hq
 .rename_i q r;simp at hq;obtain⟨rfl,rfl⟩:=hq;simp only[CSh.take]at e;split at e
  .rename_i l hl;exact⟨l,YE hl⟩
  .cases e
 .cases hq
def Bof{h:Nat->Option (aB G.T)}:∀{s:List aE}{c:List<|Cv G.T}{a:Tk<|TL G s},Iq h s c=C a->∀{n t:Nat},(n,t)∈ftL s c->∃l,h n=C (.row t l)
 |[],_,_,_,n,t,hq=>by simp[ftL]at hq
 |_::_,[],_,_,n,t,hq=>by simp[ftL]at hq
 |s::r,c::cs,a,e,n,t,hq=>by
  simp only[Iq]at e;split at e
  .rename_i y a2 h1 q;simp only[ftL,n_]at hq;rcases hq with hq|hq
   .exact Boe h1 hq
   .exact Bof q hq
  .cases e
def Bzn{s:aD}{c:Pv G.T}{a:Tk<|s.T G}(e:s.take h c=C a){n t:Nat}(hq:(n,t)∈ftP s c):∃l,h n=C (.row t l):=by
 cases s<;>cases c
 .exact Boe (show CSh.take h _ _=C _ from e) hq
 .cases hq
 .cases hq
 .exact Bof (show Iq h _ _=C _ from e) hq
def Bie{h:Nat->Option (aB G.T)}{tm:List<|Nat×Sv G.T}:∀{s:List<|Nat×aD}{a:Tk<|TmT G s},Ig h tm s=C a->∀{n t:Nat},(n,t)∈Aeh tm s->∃l,h n=C (.row t l)
 |[],_,_,n,t,hq=>by simp[Aeh]at hq
 |p::r,a,e,n,t,hq=>by
  simp only[Ig]at e;simp only[Aeh,n_]at hq;split at e
  .rename_i c q;split at e
   .rename_i z a2 h1 y;rcases hq with hq|hq
    .rw[q]at hq;exact Bzn h1 hq
    .exact Bie y hq
   .cases e
  .cases e
def Axh{ns:List Nat}{n t:Nat}{l:List<|G.T t}(e:Ez ns h n=C (.row t l)):h n=C (.row t l):=by
 unfold Ez at e;cases a:aO Z n with
 |true=>
  rw[a]at e;simp only[h_]at e;split at e
  .rename_i m hm;unfold Ank at e;split at e
   .split at e<;>cases e
   .cases e
  .cases e
 |false=>
  rw[a]at e;simp only[g_]at e;cases q:has ns n with
  |true=>rw[q]at e;cases e
  |false=>
   rw[q]at e;simp only[g_]at e;unfold Ax5 at e;split at e
   .rename_i r y hh;cases e;exact hh
   .cases e
def Yr{t:Nat}:∀{l:List<|Option Nat},Ahf G t l=J->∀u,C u∈l->Xx G t u=J/\G.flat u=J
 |[],_,u,h=>by cases h
 |none::r,a,u,h=>by simp at h;exact Yr (l:=r) a u h
 |some v::r,a,u,h=>by
  simp only[Ahf,a_]at a;simp at h;rcases h with rfl|h
  .exact⟨a.1,a.2.1⟩
  .exact Yr (l:=r) a.2.2 u h
def ZC{t:Nat}:∀(r:List<|Nat×aB G.T) (n:Nat) (k:aB G.T),Adt G t r=J->O r n=C k->∃u l,k=.row u l/\VC G t u=J
 |[],n,k,_,h=>by simp[O]at h
 |(m,.cells cs)::r,n,k,h,_=>by simp[Adt]at h
 |(m,.row u l)::r,n,k,h,hg=>by
  simp only[Adt,a_]at h;simp only[O,Bj]at hg;by_cases e:m=n
  .rw[if_pos e]at hg;cases hg;exact⟨u,l,rfl,h.1⟩
  .rw[if_neg e]at hg;exact ZC r n k h.2 hg
def Av8{a:List<|Nat×Nat}{cs:List<|Cv G.T}{Cf:List<|Nat×aB G.T}{n:Nat}(h:Xy G a cs Cf n=J):∃t,O a n=C t/\cs.all (ZD G t)=J/\Adt G t Cf=J:=by
 unfold Xy at h;split at h
 .rename_i t e;simp only[a_]at h;exact⟨t,e,h.1,h.2⟩
 .cases h
section
variable(ok:aP P G){S S':Nat->Prop}{h:Array Obj}{T0:Nat->Prop}(h1:∀b,S b->S' b\/∃t c fz,T0 t/\h[b]?=C (.cells c t fz))
include h1
theorem Av0(h0:¬∃t,T0 t):∀b,S b->S' b:=λb a=>(h1 b a).resolve_right λ⟨t,_,_,q,_⟩=>h0 ⟨t,q⟩
theorem Bnf{te:Nat}{b:Nat}{c:Array Value}{fz:Nat×Nat}(q:h[b]?=C (.cells c te fz))(e:te=u\/G.loose u=J)(B:S b)(y:∀t,T0 t->Xx G t u=J):S' b:=by
 rcases h1 b B with h|⟨t,E,z,r,A⟩
 .exact h
 .have a:=y t r;rw[A]at q;cases q;simp only[Xx,a_,b2_]at a;rcases e with rfl|e
  .rw[AD.2 rfl]at a;exact absurd a.1 τ
  .rw[e]at a;exact absurd a.2 τ
include ok
theorem Bkn{l:List<|G.T u}(hf:G.flat u=J)(L:∀t,T0 t->Xx G t u=J)(r:Rd G S h (.ro u l) v):Rd G S' h (.ro u l) v:=by
 cases r with
 |nil _ a q=>exact .nil _ _ _
 |ro _ _ b off q c te fz vs X E F y e W=>refine .ro u l b off q c te fz vs (Bnf h1 E F X L) E F y e λi j x I R z=>?_;have A:=W i j x I R z;obtain⟨v0,rfl⟩:=ok.flatd u x I hf<|o_ z;cases A with|sc _ B=>exact .sc _ B
theorem Bcp{x:G.T u}{z:Cv G.T}(F:∀t,T0 t->VC G t u=J)(B:z∈G.enc u x)(r:Rd G S h z v):Rd G S' h z v:=by
 by_cases h0:∃t,T0 t
 .rcases ok.encd u x z B with⟨v0,rfl⟩|⟨A,I,rfl⟩
  .cases r with|sc _ E=>exact .sc _ E
  .have y:∀t,T0 t->Xx G t A=J/\G.flat A=J:=λt a=>by
    have q:=F t a;simp only[VC,V_]at q;rcases q with q|q
    .obtain⟨v0,e⟩:=ok.flatd u x _ q B;cases e
    .rw[ok.rod u (G.dfl u) x]at q;exact Yr q A<|b3_.2 ⟨_,B,rfl⟩
   obtain⟨t,a⟩:=h0;exact Bkn ok h1 (y t a).2 (λt a=>(y t a).1) r
 .exact r.mono (Av0 h1 h0) λ_ _=>rfl
theorem Bs5{l:List<|G.T u}(F:∀t,T0 t->Xx G t u=J)(E:∀t,T0 t->VC G t u=J)(r:Rd G S h (.ro u l) v):Rd G S' h (.ro u l) v:=by
 cases r with
 |nil _ a q=>exact .nil _ _ _
 |ro _ _ b off q c te fz vs R A B y e L=>exact .ro u l b off q c te fz vs (Bnf h1 A B R F) A B y e λi j x W I z=>Bcp ok h1 E (o_ z)<|L i j x W I z
theorem Axz(z:∀t,T0 t->ZD G t c=J)(r:Rc G ν S h c v):Rc G ν S' h c v:=by
 by_cases h0:∃t,T0 t
 .obtain⟨t0,y⟩:=h0;cases c with
  |sc v0=>have r:Rd G S h (.sc v0) v:=r;cases r with|sc _ e=>exact Rd.sc _ e
  |ro u l=>
   have q:∀t,T0 t->Xx G t u=J/\VC G t u=J:=λt a=>by
    have:=z t a
    simpa only[ZD,a_]using this
   exact Bs5 ok h1 (λt a=>(q t a).1) (λt a=>(q t a).2) r
  |rp t x o=>have:=z t0 y;simp[ZD]at this
  |_=>exact r
 .exact r.mono ⟨λ_ _ h=>h,Av0 h1 h0,λ_ _=>rfl⟩
theorem Biq{x:Pv G.T}(q:∀c∈x.cells,∀t,T0 t->ZD G t c=J)(r:Rp G ν S h x v):Rp G ν S' h x v:=by
 cases r with
 |one c v e=>exact .one _ _<|Axz ok h1 (q c (by simp[aY])) e
 |agg cs vs e=>exact .agg _ _ ⟨e.1,λi a b hi y=>Axz ok h1 (q a<|o_ hi)<|e.2 i a b hi y⟩
theorem Bs7{x:Sv G.T}(q:∀c∈x.cells,∀t,T0 t->ZD G t c=J)(r:Rs G ν S h x v):Rs G ν S' h x v:=by
 cases r with
 |p x v e=>exact .p _ _<|Biq ok h1 q e
 |tup xs vs e=>exact .tup _ _ ⟨e.1,λi a b hi y=>Biq ok h1 (λc hm=>q c<|c0_.2 ⟨a,o_ hi,hm⟩)<|e.2 i a b hi y⟩
end
def Bnw(ok:aP P G){l:List<|Nat×Fe G}(hT:∀p∈l,Dq P G p.1 p.2):CfOK P G<|cfP l:=by
 refine⟨λg args h nm=>Ad (AT _) λ_=>Ad (An _) λ_=>Aeu _ _ _ _ _ _ _,λg args h nm out hout=>?_⟩;unfold cfP at hout;generalize ul:YB args=ns at hout;obtain⟨x7,xx,h1⟩:=aK hout;obtain⟨u0,h2⟩:=aJ h1;have z0:ns.Nodup:=Jq u0;obtain⟨⟨g',e⟩,zp,hg,t,yg,yq⟩:=VP h2;simp only at hg;subst hg;obtain⟨y,p,s,bl,hF,hp,ho,zd⟩:=Af4 yq;obtain⟨z3,zv⟩:=hT _ zp;obtain⟨ug,yx,xo,a,b,zg,zx,ua,rfl⟩:=Aym yg;obtain⟨ms,Cf,s',x1,ye,zw,z6,uh,xc,rfl,zn,y6⟩:=Ala zd;refine⟨z3,λν S B w x3 hr hB yc yf=>?_⟩;simp only at yc;have yr:=Axg z0 hr;have ze:F2 (Rp G (Qr ns ν) S w.heap) x7 x3:=Avh (λn m x=>Arf) (λn m x=>Au5) xx yf;have yl:∀k s,O (Iy 0<|x7.map Sv.p) k=C s->Rs G (Qr ns ν) S w.heap s (x3.getD k undef):=by
  intro k s W;rw[Ye]at W;simp at W;obtain⟨x,hx,rfl⟩:=W;obtain⟨v,hv,u9⟩:=ze.get hx
  have:x3.getD k undef=v:=by simp[k_,hv]
  rw[this];exact .p _ _ u9
 obtain⟨yt,S2,y9,L,x9,xz,xp,x6,y0⟩:=Bc8 zg zx ua yr yl;generalize un:(a.x,b.x)=x0 at hF y9 L x9 x6;generalize uo:Eb (a.nm++b.nm)=olds at x6 y0 yc;generalize um:a.fz++b.fz=fz at xp zn y6
 let mo:Nat->Prop:=λc=>¬S2 c/\∃n z,O (e.I.mk' x0).hp n≠N/\yt n=C z/\AO z=C c
 have xi:HRel G yt S2 (λc=>mo c\/w.heap.size<=c) (O (e.I.mk' x0).hp) w:=⟨L.blk,L.apart,λn z c A E F=>⟨(L.own n z c A E F).1,.inl ⟨(L.own n z c A E F).1,n,z,A,E,F⟩⟩,L.stay,L.gl⟩
 have u8:x3.length=e.I.tm.length:=by rw[<-ug,ze.1]
 have xg:∀n,Ez ns h n≠N->∃m,Qr ns ν n=ν m/\h m≠N/\((Z<=n/\ns[n-Z]?=C m)\/(n<Z/\m=n/\n∉ns)):=λn Y=>SX Y;have xl:∀c,mo c->∃m z,h m≠N/\ν m=C z/\AO z=C c/\(m∈olds\/m∈ns):=by
  rintro c ⟨_,n,z,A,E,F⟩;obtain⟨m,p1,p2,p3⟩:=x6 n z c A E F;obtain⟨m',e1,e2,e3⟩:=xg m p2;refine⟨m',z,e2,by rw[<-e1];exact p1,F,?_⟩;rcases e3 with⟨u1,u2⟩|⟨u1,u2,u3⟩
  .exact .inr<|o_ u2
  .rcases p3 with p3|p3
   .exact .inl (by rw[u2];exact p3)
   .obtain⟨i,hi⟩:=c9_.1 p3
    have:=xo i m hi
    omega
 refine(zv x0 y p s bl hF hp ho yt S2 mo w x3 xi x9 u8 y9).mono λr w' ⟨v,hh,S3,zs,x5,X,ub,xe,y4,xk,he,za⟩=>?_;subst zs;obtain⟨xm,zq,x4⟩:=Ahu ms nm Cf ye;have xb:∀n,n∈BB Cf->ν n=N:=λn Y=>yc n Y
 let ν':Nat->Option Value:=λn=>if nm<=n then match ms[n-nm]? with|some m=>hh m|none=>ν n else ν n
 have hs:∀n,n∉BB Cf->ν' n=ν n:=by
  intro n Y;simp only[ν'];by_cases yv:nm<=n
  .rw[if_pos yv];cases hm:ms[n-nm]? with
   |none=>rfl
   |some m=>
    have:=(f_.1 hm).1
    exact absurd ((xm n).2 ⟨yv,ω⟩) Y
  .rw[if_neg yv]
 have x2:∀j m,ms[j]?=C m->ν' (nm+j)=hh m:=by intro j m hm;simp only[ν'];rw[if_pos ω,b4_,hm]
 have h8:∀n z,ν n=C z->ν' n=C z:=by intro n z hz;rw[hs n λY=>by rw[xb n Y]at hz;cases hz];exact hz
 have yj:∀n m z,HN ms n nm=C m->hh n=C z->ν' m=C z:=by
  intro n m z hm hz;obtain⟨A,E⟩:=Uw ms n nm m hm
  have:=x2 (m-nm) n E
  rw[show nm+(m-nm)=m by omega]at this;rw[this];exact hz
 have yb:∀(i n:Nat),ns[i]?=C n->(Ay e.I.hp)[i]?=C (Z+i):=by
  intro i n hi;have zy:i<(Ay e.I.hp).length:=by rw[yx];exact(f_.1 hi).1
  have h9:=i_ zy;rw[h9,xo i _ h9]
 have xr:∀(i n:Nat),ns[i]?=C n->∃bb,ν n=C (.pointer<|C ⟨bb,0,N⟩)/\hh (Z+i)=C (.pointer<|C ⟨bb,0,N⟩)/\h n≠N/\O (e.I.mk' x0).hp (Z+i)≠N:=by
  intro i n hi;have W:=o_<|yb i n hi;obtain⟨k1,cs,k2⟩:=xz _ W;obtain⟨bb,c,te,A,_,_⟩:=yr.blk _ _ k2;obtain⟨m,e1,e2,e3⟩:=xg (Z+i) (by rw[k2];simp);have hm:m=n:=by
   rcases e3 with⟨_,u2⟩|⟨u1,_⟩
   .rw[b4_,hi]at u2;exact(r_ u2).symm
   .omega
  subst hm;refine⟨bb,by rw[<-e1];exact A,y4 _ _ ω (by rw[k1];exact A),e2,?_⟩;intro zt
  have:Z+i∈BB (ND e.I.tm x0.1++(SN e.I.hp x0.2++Ib e.I.hp x0.2)):=by
   have uf:∀(l:List<|Nat×List aE) (z:HpT G l),BB (Ib l z)=Ay l:=by
    intro l;induction l with
    |nil=>intro _;rfl
    |cons p t ih=>intro z;simp only[Ib,BB,Ay,ih]
   rw[GQ,GQ,uf];simp[W]
  have yp:∀(l:List<|Nat×aB G.T) (n:Nat),n∈BB l->O l n≠N:=by
   intro l;induction l with
   |nil=>intro n Y;simp[BB]at Y
   |cons q t ih=>
    intro n Y;simp only[BB,x_]at Y;simp only[O,Bj];by_cases e:q.1=n
    .rw[if_pos e];simp
    .rw[if_neg e];exact ih n<|Y.resolve_left<|e4_ e
  exact yp _ _ this zt
 have zh:∀n m z,Aay ns n=C m->hh n=C z->ν' m=C z:=by intro n m z hm hz;obtain⟨A,E⟩:=Alz hm;obtain⟨bb,u1,u2,_,_⟩:=xr _ _ E;rw[show Z+(n-Z)=n by omega,hz]at u2;cases u2;exact h8 _ _ u1
 have zf:Rv (O p.2.hp) (Ay e.I.hp)=C bl:=by
  unfold Hs at ho;split at ho
  .cases ho
  .split at ho
   .rename_i s1 b1 A E;cases ho;exact E
   .cases ho
 obtain⟨zb,zm⟩:=CH _ _ zf;obtain⟨z8,yy⟩:=CH _ _ z6;have ha:∀(i n:Nat),ns[i]?=C n->∃cs h7,bl[i]?=C cs/\x1[i]?=C h7/\O p.2.hp (Z+i)=C (.cells cs)/\Dc (Cv.ren (λn=>HN ms n nm)<|Aay ns) cs=C h7:=by
  intro i n hi;obtain⟨cs,A,E⟩:=zm i _<|yb i n hi;obtain⟨h7,F,q4⟩:=yy i cs A;refine⟨cs,h7,A,F,?_,q4⟩;split at E
  .rename_i uq R;cases E;exact R
  .cases E
 have xw:x1.length=ns.length:=by rw[z8,zb,yx]
 obtain⟨S',yw,zo,yn,ya,yk,yi,z5⟩:∃S':Nat->Prop,(∀c,S c->S' c)/\(∀c,S' c->S c\/B c)/\Rs G hh S' w'.heap s v/\
   (∀n k,O p.2.hp n=C k->((∃i m,ns[i]?=C m/\n=Z+i)\/n∈ms)->Rb G hh S' w'.heap n k)/\
   (∀c,S' c->S3 c)/\
   (∀n z c,h n≠N->n∉olds->n∉ns->n∉xc->ν n=C z->AO z=C c->¬S' c)/\(∀c,S' c->c<w'.heap.size):=by
  have zi:∀c,S3 c->S c\/B c:=by
   intro c R;rcases xe c R with R|⟨_,n,z,A,E,F⟩|R
   .rcases(xp c).1 R with R|⟨n,_,Y,z,hz,uk⟩
    .exact .inl R
    .exact .inr (yr.own n z c Y hz uk).2
   .exact .inr (L.own n z c A E F).2
   .exact .inr<|hB c R
  have xn:∀c,S c->S3 c:=λc R=>ub c<|(xp c).2<|.inl R;have xs:∀n z c,h n≠N->n∉olds->n∉ns->n∉fz->ν n=C z->AO z=C c->¬S3 c:=by
   intro n z c A E F q4 q5 q6 R;rcases xe c R with R|R|R
   .rcases(xp c).1 R with R|⟨m,hm,uc,z',ui,zl⟩
    .exact(hr.own n z c A q5 q6).1 R
    .obtain⟨m',e1,e2,e3⟩:=xg m uc;have e:=hr.apart n m' z z' c A e2 q5 (by rw[<-e1];exact ui) q6 zl;subst e;rcases e3 with⟨u1,u2⟩|⟨u1,u2,u3⟩
     .exact F<|o_ u2
     .rw[u2]at q4;exact q4 hm
   .obtain⟨m,z',p1,p2,p3,p4⟩:=xl c R;have e:=hr.apart n m z z' c A p1 q5 p2 q6 p3;subst e;exact p4.elim E F
   .have:=hr.lt A q5 q6;omega
  rcases zn with rfl|⟨rfl,y7,yz⟩|z4
  .simp only at y6;generalize z9:Aeh (Iy 0<|x7.map Sv.p) e.I.tm=ft;generalize zr:s.cells++bl.flatten=cells;have ue:∀n t,O ft n=C t->∃l,h n=C (.row t l):=λn t hg=>by
    obtain⟨l,hl⟩:=Bie (n:=n) (t:=t) zg (by rw[z9];exact Kb hg);exact⟨l,Axh hl⟩
   let T0:Nat->Prop:=λt=>cells.all (ZD G t)=J/\Adt G t Cf=J
   let Kp:Nat->Prop:=λc=>∃n z,Xy G ft cells Cf n=J/\h n≠N/\n∉olds/\n∉ns/\ν n=C z/\AO z=C c
   have xy:∀b,S3 b->(S3 b/\¬Kp b)\/∃t c fz,T0 t/\w'.heap[b]?=C (.cells c t fz):=by
    intro b hb;by_cases W:Kp b
    .refine .inr ?_;obtain⟨n,z,q0,A,E,F,q5,q6⟩:=W;obtain⟨t,g1,g2,g3⟩:=Av8 q0;obtain⟨l,hl⟩:=ue n t g1;rcases hr.blk n _ hl with⟨u1,_⟩|⟨bb,y1,c,te,u1,u2,_,_,_,u6⟩
     .rw[q5]at u1;cases u1;cases q6
     .rw[q5]at u1;cases u1;cases q6;have hw:w'.heap[bb]?=w.heap[bb]?:=he bb (hr.lt A q5 rfl) λR=>by
       obtain⟨m,z',p1,p2,p3,p4⟩:=xl bb R;have e:=hr.apart n m _ z' bb A p1 q5 p2 rfl p3;subst e;exact p4.elim E F
      exact⟨t,c,(0,0),⟨g2,g3⟩,by rw[hw,u2,u6.1]⟩
    .exact .inl ⟨hb,W⟩
   refine⟨λc=>S3 c/\¬Kp c,λc R=>⟨xn c R,λ⟨n,z,_,A,_,_,q5,q6⟩=>(hr.own n z c A q5 q6).1 R⟩,λc R=>zi c R.1,
    Bs7 ok xy (λc R t ht=>F_.1 ht.1 c (by rw[<-zr];exact n_.2<|.inl R)) x5,λn k W Y=>?_,λ_ h=>h.1,λn z c A E F q4 q5 q6 ⟨z1,z2⟩=>?_,λc R=>X.stay c R.1⟩
   .have xd:=X.blk n k W;by_cases h0:∃t,T0 t
    .obtain⟨t0,u7⟩:=h0;rcases Y with⟨i,m,hi,rfl⟩|Y
     .obtain⟨cs,h7,c1,c2,c3,c4⟩:=ha i m hi;rw[W]at c3;cases c3;obtain⟨bb,c,te,A,E,F,q4⟩:=xd;refine⟨bb,c,te,A,E,⟨F.1,λj x y hx hy=>Axz ok xy (λt ht=>F_.1 ht.1 x ?_)<|F.2 j x y hx hy⟩,q4⟩;rw[<-zr];exact n_.2<|.inr<|List.mem_flatten.2 ⟨cs,o_ c1,o_ hx⟩
     .obtain⟨j,hj⟩:=c9_.1 Y;obtain⟨k0,r1,r2,_⟩:=x4 j n hj;rw[W]at r1;cases r1;obtain⟨t',l2,e1,_⟩:=ZC Cf _ _ u7.2 r2;cases e1;have yd:∀t,T0 t->VC G t t'=J:=λt ht=>by
       obtain⟨t2,l3,e2,e3⟩:=ZC Cf _ _ ht.2 r2;cases e2;exact e3
      rcases xd with⟨g1,g2⟩|⟨bb,y1,c,te,g1,g2,g3,g4,g5,g6⟩
      .exact .inl ⟨g1,g2⟩
      .refine .inr ⟨bb,y1,c,te,g1,g2,g3,g4,λi j x cv hx xj=>?_,g6⟩;obtain⟨uu,hu,yu⟩:=g5 i j x cv hx xj;exact⟨uu,hu,Bcp ok xy yd (o_ xj) yu⟩
    .exact xd.mono ⟨λ_ _ h=>h,Av0 xy h0,λ_ _=>rfl⟩ λ_ _ _ _=>rfl
   .by_cases Y:n∈fz
    .refine z2 ⟨n,z,?_,A,E,F,q5,q6⟩;cases hb:Xy G ft cells Cf n with
     |true=>rfl
     |false=>refine absurd (List.mem_filter.2 ⟨Y,?_⟩) q4;show(!Xy G ft cells Cf n)=J;rw[hb];rfl
    .exact xs n z c A E F Y q5 q6 z1
  .refine⟨S,λ_ h=>h,λ_ h=>.inl h,Avi (λc R=>y7 c (by simp[R])) x5,λn k W Y=>?_,xn,λn z c A _ _ _ q5 q6=>(hr.own n z c A q5 q6).1,λc R=>c3_ (hr.stay c R) xk⟩;have xd:=X.blk n k W;rcases Y with⟨i,m,hi,rfl⟩|Y
   .obtain⟨cs,h7,c1,c2,c3,c4⟩:=ha i m hi;rw[W]at c3;cases c3;obtain⟨bb,c,te,A,E,F,q4⟩:=xd;refine⟨bb,c,te,A,E,⟨F.1,λj x y hx hy=>Ake (y7 x ?_)<|F.2 j x y hx hy⟩,q4⟩;exact n_.2<|.inr<|List.mem_flatten.2 ⟨cs,o_ c1,o_ hx⟩
   .obtain⟨j,hj⟩:=c9_.1 Y;obtain⟨k0,r1,r2,_⟩:=x4 j n hj;rw[W]at r1;cases r1;obtain⟨t',l2,e1,e2⟩:=Agm Cf _ _ yz r2;cases e1;rcases xd with⟨g1,g2⟩|⟨bb,y1,c,te,g1,g2,g3,g4,g5,g6⟩
    .exact .inl ⟨g1,g2⟩
    .refine .inr ⟨bb,y1,c,te,g1,g2,g3,g4,λi j x cv hx xj=>?_,g6⟩;obtain⟨uu,hu,yu⟩:=g5 i j x cv hx xj;refine⟨uu,hu,?_⟩;obtain⟨v0,rfl⟩:=ok.flatd _ x cv e2<|o_ xj;cases yu with
     |sc _ u5=>exact .sc _ u5
  .subst z4;exact⟨S3,xn,zi,x5,λn k W _=>X.blk n k W,λ_ h=>h,λn z c A E F _ q5 q6=>xs n z c A E F σ q5 q6,X.stay⟩
 have ym:∀n∈ns,n∉BB Cf:=by intro n Y W;obtain⟨i,hi⟩:=c9_.1 Y;obtain⟨bb,u1,_⟩:=xr i n hi;rw[xb n W]at u1;cases u1
 have y2:(BB<|Og ns x1++Cf).Nodup:=by rw[GQ,Aak ns x1 xw,List.nodup_append];exact⟨z0,zq,λx hx y hy e=>ym x hx<|e▸hy⟩
 let y3:Nat->Option (aB G.T):=By h<|MK (olds++xc)++Aca (Og ns x1++Cf)
 have hD:∀n,y3 n=match O (Og ns x1++Cf) n with|some k=>C k|none=>if n∈olds++xc then N else h n:=by
  intro n;simp only[y3];rw[Ac2,Akt _ _ _ y2,Oh]
  try(cases O (Og ns x1++Cf) n<;>rfl)
 have xv:∀n k,y3 n=C k->(∃i cs h7,ns[i]?=C n/\k=.cells h7/\O p.2.hp (Z+i)=C (.cells cs)/\Dc (Cv.ren (λn=>HN ms n nm)<|Aay ns) cs=C h7/\ν' n=hh (Z+i))\/
   (∃j m,n=nm+j/\ms[j]?=C m/\okK m k/\O p.2.hp m=C k/\ν' n=hh m)\/(h n=C k/\n∉olds/\n∉xc/\n∉ns/\ν' n=ν n):=by
  intro n k W;rw[hD n,Agv]at W;cases hz:O (Og ns x1) n with
  |some k1=>rw[hz]at W;cases W;obtain⟨i,c,A,E,rfl⟩:=Aqh _ _ _ _ hz;obtain⟨cs,h7,c1,c2,c3,c4⟩:=ha i n A;rw[E]at c2;cases c2;obtain⟨bb,u1,u2,_⟩:=xr i n A;exact .inl ⟨i,cs,c,A,rfl,c3,c4,by rw[h8 _ _ u1,u2]⟩
  |none=>
   rw[hz]at W;have uj:n∉ns:=by
    intro Y;have h9:n∈BB (Og ns x1):=by rw[Aak ns x1 xw];exact Y
    have yp:∀(l:List<|Nat×aB G.T) (n:Nat),n∈BB l->O l n≠N:=by
     intro l;induction l with
     |nil=>intro n Y;simp[BB]at Y
     |cons q t ih=>
      intro n Y;simp only[BB,x_]at Y;simp only[O,Bj];by_cases e:q.1=n
      .rw[if_pos e];simp
      .rw[if_neg e];exact ih n<|Y.resolve_left<|e4_ e
    exact yp _ _ h9 hz
   cases xq:O Cf n with
   |some k1=>
    rw[xq]at W;simp only at W;cases W;have hm:=Vy<|Kb xq;obtain⟨b1,b2⟩:=(xm n).1 hm;have hj:n-nm<ms.length:=ω;have yo:=i_ hj;obtain⟨k0,r1,r2,r3⟩:=x4 (n-nm) _ yo;rw[show nm+(n-nm)=n by omega,xq]at r2;cases r2;refine .inr<|.inl ⟨n-nm,_,ω,yo,r3,r1,?_⟩
    have:=x2 (n-nm) _ yo
    rw[show nm+(n-nm)=n by omega]at this;exact this
   |none=>
    rw[xq]at W;simp only at W;by_cases ho:n∈olds++xc
    .rw[if_pos ho]at W;cases W
    .rw[if_neg ho]at W;have ud:n∉BB Cf:=by
      intro hm;obtain⟨b1,b2⟩:=(xm n).1 hm;have hj:n-nm<ms.length:=ω;obtain⟨_,r1,r2,_⟩:=x4 (n-nm) _<|i_ hj;rw[show nm+(n-nm)=n by omega,xq]at r2;cases r2
     simp only[n_,not_or]at ho;exact .inr<|.inr ⟨W,ho.1,ho.2,uj,hs n ud⟩
 have y5:∀n z c,h n≠N->n∉olds->n∉ns->ν n=C z->AO z=C c->w'.heap[c]?=w.heap[c]?:=by intro n z c A E F q5 q6;refine he c (hr.lt A q5 q6) λR=>?_;obtain⟨m,z',p1,p2,p3,p4⟩:=xl c R;have e:=hr.apart n m z z' c A p1 q5 p2 q6 p3;subst e;exact p4.elim E F
 have xa:∀c,S c->w'.heap[c]?=w.heap[c]?:=by intro c R;refine he c (hr.stay c R) λhm=>hm.1<|(xp c).2<|.inl R
 have zu:Le ν ν' S S' w.heap w'.heap:=⟨h8,yw,xa⟩
 have x8:∀q z c,O p.2.hp q≠N->hh q=C z->AO z=C c->¬S' c/\B c/\∀n z',h n≠N->n∉olds->n∉ns->ν n=C z'->AO z'≠C c:=by
  intro q z c A E F;obtain⟨o1,o2⟩:=X.own q z c A E F;refine⟨λR=>o1<|yk c R,?_,λn z' r1 r2 r3 r4 r5=>?_⟩
  .rcases o2 with⟨_,n,z',u1,u2,u3⟩|o2
   .exact(L.own n z' c u1 u2 u3).2
   .exact hB c o2
  .rcases o2 with o2|o2
   .obtain⟨m,z2,p1,p2,p3,p4⟩:=xl c o2;have e:=hr.apart n m z' z2 c r1 p1 r4 p2 r5 p3;subst e;exact p4.elim r2 r3
   .have:=hr.lt r1 r4 r5;omega
 have xf:∀n,y3 n≠N->(∃q,ν' n=hh q/\O p.2.hp q≠N/\((∃i,ns[i]?=C n/\q=Z+i)\/(∃j,n=nm+j/\ms[j]?=C q)))\/(h n≠N/\n∉olds/\n∉xc/\n∉ns/\ν' n=ν n):=by
  intro n Y;obtain⟨k,W⟩:=Option.ne_none_iff_exists'.1 Y;rcases xv n k W with⟨i,cs,h7,A,E,F,q4,q5⟩|⟨j,m,A,E,F,q4,q5⟩|⟨A,E,F,q4,q5⟩
  .exact .inl ⟨Z+i,q5,by rw[F];simp,.inl ⟨i,A,rfl⟩⟩
  .exact .inl ⟨m,q5,by rw[q4];simp,.inr ⟨j,A,E⟩⟩
  .exact .inr ⟨by rw[A];simp,E,F,q4,q5⟩
 refine⟨v,ν',S',rfl,h8,λn Y=>?_,yw,zo,⟨λn k W=>?_,λn m z z' c h1 h2 h3 h4 h5 h6=>?_,λn z c h1 h2 h3=>?_,z5,hr.gl.mono yw xa⟩,λs0 zz=>?_,xk,λc R zj=>?_,za⟩
 .by_cases W:n∈BB Cf
  .exact .inr W
  .rw[hs n W]at Y;exact .inl Y
 .rcases xv n k W with⟨i,cs,h7,A,rfl,F,q4,q5⟩|⟨j,m,A,E,F,q4,q5⟩|⟨A,E,F,q4,q5⟩
  .obtain⟨bb,c,te,r1,r2,r3,r4⟩:=ya _ _ F<|.inl ⟨i,n,A,rfl⟩;refine⟨bb,c,te,by rw[q5];exact r1,r2,Akf yj zh q4 r3,λm t hm=>?_⟩;obtain⟨m0,u1,u2⟩:=Avd q4 hm;obtain⟨e1,e2⟩:=r4 m0 t u1;obtain⟨_,o2⟩:=Alz u2;rw[e1,b4_,A]at o2;exact⟨(r_ o2).symm,e2⟩
  .exact Bkm F q5<|ya _ _ q4<|.inr<|o_ E
  .exact(hr.blk n k A).mono zu λz c hz R=>y5 n z c (by rw[A];simp) E q4 hz R
 .rcases xf n h1 with⟨q,A,E,F⟩|⟨A,E,F,q4,q5⟩<;>rcases xf m h2 with⟨r,r1,r2,r3⟩|⟨r1,r2,r3,r4,r5⟩
  .have e:=X.apart q r z z' c E r2 (by rw[<-A];exact h3) (by rw[<-r1];exact h4) h5 h6;subst e;have y8:∀(j:Nat) (x:Nat),ms[j]?=C x->∀(i k:Nat),ns[i]?=C k->x≠Z+i:=by
    intro j x hj i k hi e;obtain⟨k0,u1,_,u2⟩:=x4 j x hj;obtain⟨cs,h7,_,_,c3,_⟩:=ha i k hi;rw[e,c3]at u1;cases u1;rw[e]at u2;exact absurd u2.1 ω
   rcases F with⟨i,F,q4⟩|⟨j,F,q4⟩<;>rcases r3 with⟨i',r3,r4⟩|⟨j',r3,r4⟩
   .have:i=i':=ω
    subst this;rw[F]at r3;exact r_ r3
   .exact absurd q4<|y8 j' q r4 i n F
   .exact absurd r4<|y8 j q q4 i' m r3
   .obtain⟨u1,u2⟩:=f_.1 q4;obtain⟨u3,u4⟩:=f_.1 r4;have z7:=b0_.1 uh;rcases bG j j' with ys|rfl|ys
    .exact absurd (u2.trans u4.symm)<|z7 _ _ u1 u3 ys
    .omega
    .exact absurd (u4.trans u2.symm)<|z7 _ _ u3 u1 ys
  .exact absurd h6<|(x8 q z c E (by rw[<-A];exact h3) h5).2.2 m z' r1 r2 r4 (by rw[<-r5];exact h4)
  .exact absurd h5<|(x8 r z' c r2 (by rw[<-r1];exact h4) h6).2.2 n z A E q4 (by rw[<-q5];exact h3)
  .exact hr.apart n m z z' c A r1 (by rw[<-q5];exact h3) (by rw[<-r5];exact h4) h5 h6
 .rcases xf n h1 with⟨q,A,E,F⟩|⟨A,E,F,q4,q5⟩
  .obtain⟨u1,u2,_⟩:=x8 q z c E (by rw[<-A];exact h2) h3;exact⟨u1,u2⟩
  .rw[q5]at h2;exact⟨yi n z c A E q4 F h2 h3,(hr.own n z c A h2 h3).2⟩
 .cases zz;refine Bp8 yj (λn m z hm hz=>?_) zw yn;unfold Bgl at hm;cases hb:aO Z n with
  |true=>rw[hb]at hm;exact zh n m z hm hz
  |false=>rw[hb]at hm;exact yj n m z hm hz
 .refine he c R λhm=>?_;obtain⟨m,z,p1,p2,p3,_⟩:=xl c hm;exact zj m z p1 p2 p3
end Go.Ab
namespace Go.Ab
variable{G:aC}
variable{x:Operand}{h:Nat->Option (aB G.T)}{c:Cv G.T}{nm n:Nat}
section
variable{ev ev':Operand->Option (Sv G.T)}
def Kl(h:ev' x=ev x):evP ev' x=evP ev x:=by unfold evP;rw[h]
def Dy(h:ev' x=ev x):evC ev' x=evC ev x:=by unfold evC;rw[h]
def DS(h:ev' x=ev x):evI ev' x=evI ev x:=by unfold evI;rw[h]
def Bbb(h:ev' x=ev x):evB ev' x=evB ev x:=by unfold evB;rw[h]
def QI(h:ev' x=ev x):QH ev' x=QH ev x:=by unfold QH;rw[h]
def ST:∀(xs:List Operand),(∀x∈xs,ev' x=ev x)->Ul ev' xs=Ul ev xs
 |[],_=>rfl
 |x::t,h=>by unfold Ul;rw[Kl<|h x σ,ST t λy a=>h y (by simp[a])]
def Se:∀(xs:List<|Nat×Operand),(∀x∈xs.map (·.2),ev' x=ev x)->IH ev' xs=IH ev xs
 |[],_=>rfl
 |(i,x)::t,h=>by unfold IH;rw[Kl<|h x σ,Se t λy a=>h y (by simp only[aX,x_];exact .inr a)]
def YZ{d m:Nat}{x:Option Operand}(h:∀y,x=C y->ev' y=ev y):Gx ev' d m x=Gx ev d m x:=by
 cases x with
 |none=>rfl
 |some y=>simp only[Gx];rw[DS<|h y rfl]
def Amn(b:Builtin)(tys:List Nat)(xs:List Operand)(a:∀x∈xs,ev' x=ev x):AK ev' h nm b tys xs=AK ev h nm b tys xs:=by
 unfold AK;split
 .unfold VZ;split
  .rw[Dy<|a _ σ]
  .rfl
  .rw[Dy<|a _ σ]
  .rfl
 .unfold Av7;rw[DS<|a _ σ,DS<|a _ σ]
 .unfold Av6;rw[DS<|a _ σ,DS<|a _ σ]
 .unfold Ani;rw[DS<|a _ σ,DS<|a _ σ,DS<|a _ σ]
 .unfold Anh;rw[DS<|a _ σ,DS<|a _ σ,DS<|a _ σ]
 .unfold Lf;split
  .rw[Dy<|a _ σ,Dy<|a _ σ]
  .rfl
 .unfold QK;split
  .rw[Dy<|a _ σ,Dy<|a _ σ]
  .rfl
 .rfl
def Bjf{cf:Ch G}(op:Op)(q:∀x∈op.operands.toList,ev' x=ev x):act cf ev' h nm op=act cf ev h nm op:=by
 cases op
 case makeFunc fn a b=>
  cases fn
  case func f=>show Ve ev' f a.toList b.toList=Ve ev f a.toList b.toList;unfold Ve;rw[ST _ λx h=>q x (by simp[Op.operands];left;simpa using h),ST _ λx h=>q x (by simp[Op.operands];right;simpa using h)]
  all_goals rfl
 case call c=>
  obtain⟨callee,xs,tys⟩:=c;cases callee
  case value f=>show Pi cf ev' h nm f xs.toList=Pi cf ev h nm f xs.toList;unfold Pi;rw[Dy<|q f (by simp[Op.operands,Call.operands]),ST _ λx h=>q x (by simp[Op.operands,Call.operands];right;simpa using h)]
  case builtin b=>exact Amn b _ _ λx h=>q x (by simp[Op.operands,Call.operands];simpa using h)
  case invoke=>rfl
 case move x=>exact QI<|q x (by simp[Op.operands])
 case assign x=>exact QI<|q x (by simp[Op.operands])
 case pick c a b=>
  show Vf ev' c a b=Vf ev c a b;unfold Vf;rw[Bbb<|q c (by simp[Op.operands])];congr 1;funext c1;congr 1;funext c2;cases c2
  .exact QI<|q b (by simp[Op.operands])
  .exact QI<|q a (by simp[Op.operands])
 case alloc t=>rfl
 case box t x=>show Zz ev' nm x=Zz ev nm x;unfold Zz;rw[Kl<|q x (by simp[Op.operands])]
 case build t ps=>show Rj ev' t ps.toList=Rj ev t ps.toList;unfold Rj;rw[Se _ λx h=>q x (by simpa[Op.operands]using h)]
 case buildSlice t n ps=>show Ew ev' h nm t n ps.toList=Ew ev h nm t n ps.toList;unfold Ew;rw[Se _ λx h=>q x (by simpa[Op.operands]using h)]
 case load t x=>show LH ev' h t x=LH ev h t x;unfold LH;rw[Dy<|q x (by simp[Op.operands])]
 case store t x y=>show LY ev' h t x y=LY ev h t x y;unfold LY;rw[Dy<|q x (by simp[Op.operands]),Kl<|q y (by simp[Op.operands])]
 case nilCheck x=>show ZA ev' x=ZA ev x;unfold ZA;rw[Dy<|q x (by simp[Op.operands])]
 case binOp op t x y u=>show Zy ev' op t x y=Zy ev op t x y;unfold Zy;rw[Kl<|q x (by simp[Op.operands]),Kl<|q y (by simp[Op.operands])]
 case unOp op t x=>show aUn ev' op x=aUn ev op x;unfold aUn;rw[Dy<|q x (by simp[Op.operands])]
 case convert s t x=>show Pj ev' h s t x=Pj ev h s t x;unfold Pj;rw[Dy<|q x (by simp[Op.operands])]
 case makeSlice t x y=>show Ja ev' nm t x y=Ja ev nm t x y;unfold Ja;rw[DS<|q x (by simp[Op.operands]),DS<|q y (by simp[Op.operands])]
 case slice t x Z hi mx=>
  show Rm ev' t x Z hi mx=Rm ev t x Z hi mx;unfold Rm;have r:∀d m,Gx ev' d m Z=Gx ev d m Z:=λd m=>YZ λy A=>q y (by subst A;simp[Op.operands]);have z:∀d m,Gx ev' d m hi=Gx ev d m hi:=λd m=>YZ λy A=>q y (by subst A;simp[Op.operands]);have B:∀c,Xh ev' c Z hi=Xh ev c Z hi:=by intro c;unfold Xh;simp only[r,z]
  have E:∀c e,Xg ev' c e Z hi=Xg ev c e Z hi:=by intro c e;unfold Xg;simp only[r,z]
  rw[Dy<|q x (by simp[Op.operands])];simp only[B,E]
 case fieldAddr t x f=>show IZ ev' t x f=IZ ev t x f;unfold IZ;rw[Dy<|q x (by simp[Op.operands])]
 case field t x f=>show Rk ev' t x f=Rk ev t x f;unfold Rk;rw[Kl<|q x (by simp[Op.operands])]
 case indexAddr t x i=>show FA ev' h t x i=FA ev h t x i;unfold FA;rw[Dy<|q x (by simp[Op.operands]),DS<|q i (by simp[Op.operands])]
 case index t x i=>show Rl ev' t x i=Rl ev t x i;unfold Rl;rw[Dy<|q x (by simp[Op.operands]),Kl<|q x (by simp[Op.operands]),DS<|q i (by simp[Op.operands])]
 case extract x i=>show LX ev' x i=LX ev x i;unfold LX;rw[q x (by simp[Op.operands])]
 all_goals rfl
end
section
variable{ev:Operand->Option (Sv G.T)}{h h':Nat->Option (aB G.T)}{nm:Nat}
def Aq6(hh:∀m∈c.rds,h' m=h m):DU h' n c=DU h n c:=by
 cases c with
 |ptr b o=>simp only[DU];rw[hh b (by simp[aL])]
 |pd b o s l i=>simp only[DU];rw[hh b (by simp[aL])]
 |pr b t i o=>simp only[DU];rw[hh b (by simp[aL])]
 |_=>rfl
def Aro{new:List<|Cv G.T}(hh:∀m∈c.rds,h' m=h m):Kd h' new c=Kd h new c:=by
 cases c with
 |ptr b o=>simp only[Kd];rw[hh b (by simp[aL])]
 |pd b o s l i=>simp only[Kd];rw[hh b (by simp[aL])]
 |pr b t i o=>simp only[Kd];rw[hh b (by simp[aL])]
 |_=>rfl
def Rz{e:Nat}(hh:∀m∈c.rds,h' m=h m):Il h' e c=Il h e c:=by
 cases c with
 |own b=>simp only[Il];rw[hh b (by simp[aL])]
 |sc v=>unfold Il;split<;>first|rfl|contradiction
 |_=>rfl
def Bb2(hh:∀m∈c.rds,h' m=h m):SZ h' n c=SZ h n c:=by
 unfold SZ;rw[Aq6 hh];cases c with
 |pd b o s l i=>
  have e:(λq=>DU h' n<|.ptr b<|o+q*s)=λq=>DU h n<|.ptr b<|o+q*s:=funext λq=>Aq6 λm hm=>hh m (by simpa[aL]using hm);have a:Abu h' (.pd b o s l i)=Abu h (.pd b o s l i):=by simp only[Abu];rw[hh b (by simp[aL])]
  simp only[e,a]
 |_=>rfl
def Abm(cf:Ch G):Prop:=∀g args h h' nm out,cf g args h nm (aA G) C=C out->(∀n∈out.rd,h' n=h n)->cf g args h' nm (aA G) C=C out
def Bje{cf:Ch G}(hl:Abm cf){op:Op}{out:aA G}(A:act cf ev h nm op (aA G) C=C out)(hh:∀n∈out.rd,h' n=h n):act cf ev h' nm op (aA G) C=C out:=by
 cases op
 case load t x=>have A:LH ev h t x (aA G) C=C out:=A;show LH ev h' t x (aA G) C=C out;unfold LH at A|-;obtain⟨c,I,h1⟩:=bindC A;have hs:=h1;obtain⟨_,cs,_,_,B⟩:=Ahb h1;obtain⟨y,hy,F⟩:=aK B;simp[aG]at F;subst F;have e:=Bb2 (n:=G.sz t) hh;simp only[aI,evC,I,aQ,e];exact hs
 case convert s t x=>
  have A:Pj ev h s t x (aA G) C=C out:=A;show Pj ev h' s t x (aA G) C=C out;unfold Pj at A|-;obtain⟨X,h0⟩:=aJ A;obtain⟨c,I,h1⟩:=bindC h0;simp only[aI,aN,X,h_,evC,I];cases he:G.ty s with
  |sl e=>
   rw[he]at h1;simp only at h1|-;cases h9:Ag1 (G.ty t)with
   |false=>rw[h9]at h1;exact h1
   |true=>rw[h9,h_]at h1;obtain⟨hg,B⟩:=aJ h1;obtain⟨l,E,F⟩:=aK B;simp[aG]at F;subst F;simp only[h_,aI,aN,hg,aQ,Rz (e:=e) hh,E,aG]
  |_=>rw[he]at h1;exact h1
 case buildSlice t n ps=>
  have A:Ew ev h nm t n ps.toList (aA G) C=C out:=A;show Ew ev h' nm t n ps.toList (aA G) C=C out;unfold Ew at A|-;cases Y:G.ty t<;>simp only[Y]at A|- <;>try exact A
  obtain⟨ys,h1,B⟩:=(Nk (ev:=ev) ps.toList).spec<|aS A;obtain⟨X,F⟩:=aJ B;obtain⟨cs,hw,R⟩:=aK F;show(IH ev ps.toList) _ _=_;rw[Nk ps.toList,h1];simp only[c_,aI,aN,X,h_,aQ,hw];rename_i e;unfold Xf at R|-;cases hp:Aah (G.ty e)with
  |true=>rw[hp]at R;exact R
  |false=>rw[hp]at R;obtain⟨q,hq,h5⟩:=aK R;obtain⟨l,E,h6⟩:=aK h5;simp[aG]at h6;subst h6;have e1:=Aeg hq hh;simp only[aI,aQ,e1,E,aG]
 case store t x y=>
  have A:LY ev h t x y (aA G) C=C out:=A;show LY ev h' t x y (aA G) C=C out;unfold LY at A|-;obtain⟨c,I,h1⟩:=bindC A;obtain⟨u,hu,B⟩:=SJ h1;obtain⟨X,F⟩:=aJ B;simp only[aI,evC,I,evP,hu,aN,X,h_];have h8:RI h c u.cells (aA G) C=C out->RI h' c u.cells (aA G) C=C out:=λF=>by unfold RI at F|-;obtain⟨r,hr,R⟩:=aK F;simp[aG]at R;subst R;have e:=Aro (new:=u.cells) hh;simp only[aI,aQ,e,hr,aG]
  cases c with
  |pr b tt i off=>unfold Abh at F|-;obtain⟨q,hq,R⟩:=aK F;obtain⟨hb,h5⟩:=aJ R;obtain⟨r,hr,h6⟩:=aK h5;simp[aG]at h6;subst h6;have e1:=Aeg hq λn hm=>hh n (by simp[hm]);have e2:=Aro (h:=h) (h':=h') (new:=q.1) (c:=.pr b tt i off) λn hm=>hh n (by simp[aL]at hm;simp[hm]);simp only[aI,aQ,aN,e1,hb,h_,e2,hr,aG]
  |_=>exact h8 F
 case indexAddr t x i=>
  have A:FA ev h t x i (aA G) C=C out:=A;show FA ev h' t x i (aA G) C=C out;unfold FA at A|-;cases Y:G.ty t<;>simp only[Y]at A|- <;>try exact A
  rename_i e;obtain⟨c,I,h1⟩:=bindC A;obtain⟨d,n,hi,B⟩:=Ae h1;have g:ixS h' e c n (aA G) C=C out:=by
   unfold ixS at B|-;cases c with
   |own b=>
    simp only at B|-;cases hb:h b with
    |none=>rw[hb]at B;simp[aR]at B
    |some k=>
     rw[hb]at B;cases k with
     |cells cs=>simp[aR]at B
     |row u l=>have hv:=B;simp only at B;obtain⟨X,F⟩:=aJ B;obtain⟨hk,R⟩:=aJ F;simp[aG]at R;subst R;rw[hh b σ,hb];exact hv
   |_=>exact B
  simp only[aI,evC,I,evI,hi];exact g
 case call cl=>
  obtain⟨callee,xs,tys⟩:=cl;cases callee
  case value f=>
   have A:Pi cf ev h nm f xs.toList (aA G) C=C out:=A;show Pi cf ev h' nm f xs.toList (aA G) C=C out;unfold Pi at A|-;obtain⟨c,I,h1⟩:=bindC A;obtain⟨as,B,has⟩:=(Qo (ev:=ev) xs.toList).spec<|aS h1;have g:XC cf h' nm c as (aA G) C=C out:=by
    unfold XC at has|-;cases c with
    |clo g fst hx=>
     simp only at has|-;generalize G.ext g=m at has|-
     match m,has with
     |0,has=>exact hl _ _ _ _ _ _ has hh
     |1,has=>exact has
     |m+2,has=>exact has
    |_=>exact has
   simp only[aI,evC,I];rw[Qo xs.toList,B];exact g
  case builtin b=>
   have A:AK ev h nm b tys.toList xs.toList (aA G) C=C out:=A;show AK ev h' nm b tys.toList xs.toList (aA G) C=C out;rcases YY A with⟨rfl,t,ts,x,h1,B⟩|⟨rfl,x,y,h1⟩|⟨rfl,x,y,h1⟩|⟨rfl,t,x,y,h1,B⟩|⟨rfl,x,y,z,h1⟩|⟨rfl,x,y,z,h1⟩|⟨rfl,t,x,y,h1,B⟩
   .rw[h1,B]at A|-;have A:VZ ev h t x (aA G) C=C out:=A;show VZ ev h' t x (aA G) C=C out;unfold VZ at A|-;cases Y:G.ty t<;>simp only[Y]at A|- <;>try exact A
    rename_i e;obtain⟨c,I,g1⟩:=bindC A;simp only[aI,evC,I];unfold Aq1 at g1|-;have h8:aI (aQ<|Il h e c) (λl=>aG (⟨C<|.p<|.one<|.sc<|.int .i64 (l.length:Int),[],[],c.rds⟩:aA G)) (aA G) C=C out->aI (aQ<|Il h' e c) (λl=>aG (⟨C<|.p<|.one<|.sc<|.int .i64 (l.length:Int),[],[],c.rds⟩:aA G)) (aA G) C=C out:=λg1=>by obtain⟨l,E,g2⟩:=aK g1;simp[aG]at g2;subst g2;have e1:=Rz (e:=e) hh;simp only[aI,aQ,e1,E,aG]
    cases c with
    |sa _ _ _=>exact g1
    |_=>exact h8 g1
   .rw[h1]at A|-;exact A
   .rw[h1]at A|-;exact A
   .rw[h1,B]at A|-;have A:Lf ev h nm t t x y (aA G) C=C out:=A;show Lf ev h' nm t t x y (aA G) C=C out;unfold Lf at A|-;cases Y:G.ty t<;>simp only[Y]at A|- <;>try exact A
    rename_i e;obtain⟨X,g1⟩:=aJ A;obtain⟨c,I,g2⟩:=bindC g1;obtain⟨c',h7,g3⟩:=bindC g2;obtain⟨l,E,g4⟩:=aK g3;obtain⟨l',hj,g5⟩:=aK g4;obtain⟨hk,g6⟩:=aJ g5;have W:(∀m∈c.rds,m∈out.rd)/\∀m∈c'.rds,m∈out.rd:=by
     unfold Av1 at g6;cases c with
     |sc v=>simp[aG]at g6;subst g6;exact⟨by simp[aL],λm h=>h⟩
     |own n=>simp only at g6;obtain⟨_,L⟩:=aJ g6;simp[aG]at L;subst L;exact⟨by simp[aL],λm h=>by simp[h]⟩
     |_=>simp[aR]at g6
    have e1:=Rz (e:=e) (c:=c) λm hm=>hh m<|W.1 m hm;have e2:=Rz (e:=e) (c:=c') λm hm=>hh m<|W.2 m hm;simp only[aI,aN,X,h_,evC,I,h7,aQ,e1,e2,E,hj,hk];exact g6
   .rw[h1]at A|-;exact A
   .rw[h1]at A|-;exact A
   .rw[h1,B]at A|-;have A:QK ev h t t x y (aA G) C=C out:=A;show QK ev h' t t x y (aA G) C=C out;unfold QK at A|-;cases Y:G.ty t<;>simp only[Y]at A|- <;>try exact A
    rename_i e;obtain⟨X,g1⟩:=aJ A;obtain⟨c,I,g2⟩:=bindC g1;obtain⟨c',h7,g3⟩:=bindC g2;obtain⟨l',E,g4⟩:=aK g3;have W:(∀m∈c.rds,m∈out.rd)/\∀m∈c'.rds,m∈out.rd:=by
     unfold Abw at g4;cases c with
     |own n=>
      simp only at g4;cases hm:h n with
      |none=>simp[hm,aR]at g4
      |some k=>
       cases k with
       |cells _=>simp[hm,aR]at g4
       |row u l=>simp only[hm]at g4;obtain⟨_,L⟩:=aJ g4;obtain⟨_,_,L⟩:=aK L;simp[aG]at L;subst L;exact⟨by simp[aL],λm h=>by simp[h]⟩
     |sa n off len=>
      simp only at g4;cases hm:h n with
      |none=>simp[hm,aR]at g4
      |some k=>
       cases k with
       |row _ _=>simp[hm,aR]at g4
       |cells cs=>simp only[hm]at g4;obtain⟨_,L⟩:=aJ g4;obtain⟨_,_,L⟩:=aK L;obtain⟨_,L⟩:=aJ L;simp[aG]at L;subst L;exact⟨by simp[aL],λm h=>by simp[h]⟩
     |_=>simp[aR]at g4
    have e2:=Rz (e:=e) (c:=c') λm hm=>hh m<|W.2 m hm;simp only[aI,aN,X,h_,evC,I,h7,aQ,e2,E];unfold Abw at g4|-;cases c with
    |own n=>simp only[hh n<|W.1 n (by simp[aL])];exact g4
    |sa n off len=>simp only[hh n<|W.1 n (by simp[aL])];exact g4
    |_=>exact g4
  case invoke=>exact A
 case makeFunc fn a b=>cases fn<;>exact A
 all_goals exact A
end
end Go.Ab
namespace Go.Ab
variable{G:aC}
variable{s:V G}{d:Option Nat}{o:aA G}
section
variable(cf:Ch G)(nt:Nat)
def An6(ops:Array Oper)(o:Oper)(st:V G):M<|aA G×V G:=
 aI (aN<|NH nt o.dst) λ_=>aI (To ops st.tm o) λg=>
  match g.1 with
  |true=>aI (act cf (KI st.tm) (O st.hp) (Anp 0 o.dst) o.op) λout=>aI (aN<|JD st.us out.nw) λ_=>aG (out,(st.note g.2).next o.dst out)
  |false=>aG (⟨C<|.tup [],[],[],[]⟩,(st.note g.2).next o.dst ⟨C<|.tup [],[],[],[]⟩)
def Aff(ops:Array Oper):List Oper->V G->M (List (aA G)×V G)
 |[],st=>aG ([],st)
 |o::t,st=>aI (An6 cf nt ops o st) λp=>aI (Aff ops t p.2) λq=>aG (p.1::q.1,q.2)
end
def Pz(a:List Nat):List Edge->Nat
 |[]=>0
 |e::t=>bif Region.binds .any e then Nat.lor (Nat.lor (2^e.on)<|a.getD e.on 0) (Pz a t)else Pz a t
def Ab0(n:Nat):List Edge->Bool
 |[]=>J
 |e::t=>(!Region.binds .any e||Nat.blt e.on n)&&Ab0 n t
def Jh:List Oper->List Nat->List Nat
 |[],a=>a
 |o::t,a=>Jh t<|a++[Pz a o.after.toList]
def NW:Nat->List Oper->Bool
 |_,[]=>J
 |n,o::t=>Ab0 n o.after.toList&&NW (n+1) t
def pairs{α:Type}(f:α->α->Bool)(a:List Nat)(l:List α):Bool:=go 0 l
where
 one (x:α) (i j:Nat):List α->Bool
  |[]=>J
  |y::t=>(f x y||Nat.testBit (a.getD j 0) i)&&one x i (j+1) t
 go (i:Nat):List α->Bool
  |[]=>J
  |x::t=>one x i (i+1) t&&go (i+1) t
def Cb:List (Nat×Option (aB G.T))->List Nat
 |[]=>[]
 |(n,_)::t=>n::Cb t
def disj:List Nat->List Nat->Bool
 |[],_=>J
 |n::t,l=>!has l n&&disj t l
def Bae(x y:aA G):Bool:=disj (Cb x.d) y.rd&&disj (Cb x.d) (Cb y.d)&&disj (Cb y.d) x.rd
def Ui(cf:Ch G)(nt:Nat)(ops:Array Oper)(st:V G):M<|V G:=
 aI (aN<|NW 0 ops.toList&&pairs (λx y=>Oper.apart ops x y) (Jh ops.toList []) ops.toList) λ_=>
 aI (Aff cf nt ops ops.toList st) λp=>
 aI (aN<|pairs Bae (Jh ops.toList []) p.1) λ_=>aG p.2
def Tc{α:Type}{f:α->α->Bool}{a:List Nat}{l:List α}(h:pairs f a l=J):∀i j x y,i<j->l[i]?=C x->l[j]?=C y->f x y=J\/(a.getD j 0).testBit i=J:=by
 have one:∀(l:List α) (x:α) (i j:Nat),pairs.one f a x i j l=J->∀k y,l[k]?=C y->f x y=J\/(a.getD (j+k) 0).testBit i=J:=by
  intro l;induction l with
  |nil=>intro x i j _ k y h;simp at h
  |cons z t A=>
   intro x i j h k y r;simp only[pairs.one,a_,V_]at h;cases k with
   |zero=>simp at r;subst r;exact h.1
   |succ k=>
    simp at r
    have:=A x i (j+1) h.2 k y r
    rwa [Z_,d1_ 1 k]at this
 have B:∀(l:List α) (n:Nat),pairs.go f a n l=J->∀i j x y,i<j->l[i]?=C x->l[j]?=C y->f x y=J\/(a.getD (n+j) 0).testBit (n+i)=J:=by
  intro l;induction l with
  |nil=>intro n _ i j x y _ h;simp at h
  |cons z t A=>
   intro n h i j x y e hi q;simp only[pairs.go,a_]at h;cases j with
   |zero=>omega
   |succ j=>
    simp at q;cases i with
    |zero=>
     simp at hi;subst hi
     have:=one t z n (n+1) h.1 j y q
     rwa [Z_,d1_ 1 j]at this
    |succ i=>
     simp at hi
     have:=A (n+1) h.2 i j x y ω hi q
     rwa [Z_,d1_ 1 j,Z_ n 1 i,d1_ 1 i]at this
 intro i j x y e hi q;simpa using B l 0 h i j x y e hi q
def Wp{a:List Nat}{i:Nat}:∀{es:List Edge},(Pz a es).testBit i=J->∃e∈es,Region.binds .any e=J/\(e.on=i\/(a.getD e.on 0).testBit i=J)
 |[],h=>by simp[Pz]at h
 |e::t,h=>by
  simp only[Pz]at h;cases q:Region.binds .any e with
  |false=>rw[q]at h;obtain⟨y,h1,r⟩:=Wp (es:=t) h;exact⟨y,by simp[h1],r⟩
  |true=>
   rw[q]at h;have h:(2^e.on|||a.getD e.on 0|||Pz a t).testBit i=J:=h;rw[Nat.testBit_or,Nat.testBit_or,Nat.testBit_two_pow]at h;simp only[V_,t_]at h;rcases h with(h|h)|h
   .exact⟨e,σ,q,.inl h⟩
   .exact⟨e,σ,q,.inr h⟩
   .obtain⟨y,h1,r⟩:=Wp (es:=t) h;exact⟨y,by simp[h1],r⟩
def ZV{n:Nat}:∀{es:List Edge},Ab0 n es=J->∀e∈es,Region.binds .any e=J->e.on<n
 |[],_,_,h,_=>by simp at h
 |e::t,h,r,a,q=>by
  simp only[Ab0,a_,V_]at h;rcases x_.1 a with rfl|a
  .rcases h.1 with h1|h1
   .rw[q]at h1;simp at h1
   .simp[Nat.blt]at h1;omega
  .exact ZV h.2 r a q
def RY:∀{l:List Oper}{n:Nat},NW n l=J->∀i o,l[i]?=C o->∀e∈o.after.toList,Region.binds .any e=J->e.on<n+i
 |[],_,_,i,o,h=>by simp at h
 |p::t,n,h,i,o,hi=>by
  simp only[NW,a_]at h;cases i with
  |zero=>simp at hi;subst hi;exact ZV h.1
  |succ i=>
   simp at hi;intro e a q
   have:=RY h.2 i o hi e a q
   omega
def Yp:∀(l:List Oper) (a:List Nat) (j:Nat),j<a.length->(Jh l a).getD j 0=a.getD j 0
 |[],_,_,_=>rfl
 |o::t,a,j,h=>by rw[Jh,Yp t _ j (by simp;omega)];simp[k_,g0_,h]
def Ahd:∀(l:List Oper) (a:List Nat) (j:Nat) (o:Oper),l[j]?=C o->
  ∃e,(Jh l a).getD (a.length+j) 0=Pz e o.after.toList/\∀k,k<a.length+j->e.getD k 0=(Jh l a).getD k 0
 |[],_,_,_,h=>by simp at h
 |p::t,a,j,o,h=>by
  cases j with
  |zero=>
   simp at h;subst h;refine⟨a,?_,λk r=>?_⟩
   .rw[Jh,Yp t _ _ σ];simp[k_]
   .rw[Yp _ _ _ ω]
  |succ j=>
   simp at h;obtain⟨e,h1,q⟩:=Ahd t (a++[Pz a p.after.toList]) j o h;simp only[e_,D_]at h1 q;refine⟨e,?_,λk r=>?_⟩
   .rw[Jh,<-h1];congr 1;omega
   .rw[Jh,q k ω]
def Down(ops:Array Oper)(D:Nat->Bool):Prop:=∀j o,ops[j]?=C o->D j=J->∀e∈o.after.toList,Region.binds .any e=J->D e.on=J
def ZU{ops:Array Oper}(F:NW 0 ops.toList=J){D:Nat->Bool}(hD:Down ops D):∀(n j:Nat) (o:Oper),j<n->ops[j]?=C o->(∀e∈o.after.toList,Region.binds .any e=J->D e.on=J)->
  ∀i,((Jh ops.toList []).getD j 0).testBit i=J->D i=J
 |0,_,_,h,_,_,_,_=>by omega
 |n+1,j,o,hj,ho,hpre,i,hi=>by
  have q:ops.toList[j]?=C o:=by simpa using ho
  obtain⟨L,h1,I⟩:=Ahd ops.toList [] j o q;simp only[c6_,m_]at h1 I;rw[h1]at hi;obtain⟨e,B,r,a⟩:=Wp hi;have y:=RY F j o q e B r;rw[m_]at y;have z:=hpre e B r;rcases a with rfl|a
  .exact z
  .rw[I e.on y]at a;have R:j<ops.size:=by
    have:=(I_.1 ho).1;exact this
   obtain⟨E,A⟩:∃E,ops[e.on]?=C E:=⟨ops[e.on]'ω,b5_ _⟩
   exact ZU F hD n e.on E ω A (λY X W=>hD e.on E A z Y X W) i a
structure ExtEq(s s':St G):Prop where
 tm:∀k,get s.tm k=get s'.tm k
 hp:∀n,get s.hp n=get s'.hp n
 us:∀n,n∈s.us↔n∈s'.us
def ExtEq.rfl':ExtEq s s:=⟨λ_=>rfl,λ_=>rfl,λ_=>Iff.rfl⟩
def ExtEq.symm{s':V G}(h:ExtEq s s'):ExtEq s' s:=⟨λk=>(h.tm k).symm,λk=>(h.hp k).symm,λk=>(h.us k).symm⟩
def ExtEq.trans{s' a:V G}(h:ExtEq s s')(g:ExtEq s' a):ExtEq s a:=⟨λk=>(h.tm k).trans<|g.tm k,λk=>(h.hp k).trans<|g.hp k,λk=>(h.us k).trans<|g.us k⟩
def Rel.ext{cx:Cx}{s':V G}{a:Act}{w:World}(e:ExtEq s s')(h:Rel G cx s a w):Rel G cx s' a w:=by obtain⟨ν,S,r⟩:=h;have hf:O s.hp=O s'.hp:=funext e.hp;exact⟨ν,S,⟨λk v q=>r.slot k v<|(e.tm k).trans q,hf▸r.heap,λn y=>(e.us n).1<|r.used n y,r.defers,r.nt,r.size,r.frame,r.env,r.sub,r.keep,r.names⟩⟩
def Tq(k:Nat):O (s.next d o).tm k=if d=C k then o.v else O s.tm k:=by
 cases d with
 |none=>simp[St.next]
 |some d=>
  simp only[St.next];cases a:o.v with
  |none=>simp only[WP];by_cases e:d=k<;>simp[e]
  |some v=>simp only[Tn];by_cases e:d=k<;>simp[e]
def Tp(n:Nat):O (s.next d o).hp n=By (O s.hp) o.d n:=by show O (Ae6 s.hp o.d) n=_;rw[Yd]
def Tr(n:Nat):n∈(s.next d o).us↔n∈o.nw\/n∈s.us:=by show n∈o.nw++s.us↔_;simp
def KG:∀(d:List<|Nat×Option (aB G.T)) (h:Nat->Option (aB G.T)) (n:Nat),n∉Cb d->By h d n=h n
 |[],_,_,_=>rfl
 |(m,b)::t,h,n,a=>by simp only[Cb,x_,not_or]at a;rw[By,KG t _ n a.2,if_neg<|e4_ a.1]
def WJ:∀(d:List<|Nat×Option (aB G.T)) (h h':Nat->Option (aB G.T)) (n:Nat),h n=h' n\/n∈Cb d->By h d n=By h' d n
 |[],_,_,_,a=>by simpa[Cb,By]using a
 |(m,b)::t,h,h',n,a=>by
  simp only[By];refine WJ t _ _ n ?_;by_cases e:m=n
  .left;simp[e]
  .simp only[e,f6_];rcases a with h1|h1
   .exact .inl h1
   .simp only[Cb,x_]at h1;exact .inr<|h1.resolve_left<|e4_ e
def ExtEq.next{s':V G}(h:ExtEq s s')(d:Option Nat)(o:aA G):ExtEq (s.next d o)<|s'.next d o:=⟨λk=>by rw[Tq,Tq,h.tm],λn=>by rw[Tp,Tp];exact WJ _ _ _ _<|.inl<|h.hp n,λn=>by rw[Tr,Tr,h.us]⟩
def Ys{p:Nat×Bool}(h:O s.tm p.1=C (.p<|.one<|.sc<|.bool p.2)):ExtEq s<|s.note<|C p:=
 ⟨λk=>by
  show _=O (put s.tm p.1 _) k;rw[Tn];by_cases e:p.1=k
  .rw[if_pos e,<-e,h]
  .rw[if_neg e],λ_=>rfl,λ_=>Iff.rfl⟩
def replay(D:Nat->Bool):Nat->List (Option Nat×aA G)->V G->V G
 |_,[],s=>s
 |i,r::t,s=>replay D (i+1) t<|bif D i then s.next r.1 r.2 else s
section
variable{D D':Nat->Bool}
def RG{k:Nat}:∀(l:List<|Option Nat×aA G) (n:Nat) (s s':V G),(∀i r,l[i]?=C r->r.1=C k->D (n+i)=D' (n+i))->O s.tm k=O s'.tm k->
  O (replay D n l s).tm k=O (replay D' n l s').tm k
 |[],_,_,_,_,h=>h
 |r::t,n,s,s',hd,h=>by
  simp only[replay];refine RG t (n+1) _ _ (λi q hq a=>by have:=hd (i+1) q (by simpa using hq) a;rwa [<-Z_,bB]at this) ?_;by_cases e:r.1=C k
  .have:=hd 0 r rfl e
   rw[d0_]at this;rw[<-this];cases D n
   .exact h
   .simp[Tq,e]
  .cases D n<;>cases D' n<;>simp[Tq,e,h]
def On{k:Nat}:∀(l:List<|Option Nat×aA G) (n:Nat) (s s':V G),(∀i r,l[i]?=C r->k∈Cb r.2.d->D (n+i)=D' (n+i))->O s.hp k=O s'.hp k->
  O (replay D n l s).hp k=O (replay D' n l s').hp k
 |[],_,_,_,_,h=>h
 |r::t,n,s,s',hd,h=>by
  simp only[replay];refine On t (n+1) _ _ (λi q hq a=>by have:=hd (i+1) q (by simpa using hq) a;rwa [<-Z_,bB]at this) ?_;by_cases e:k∈Cb r.2.d
  .have:=hd 0 r rfl e
   rw[d0_]at this;rw[<-this];cases D n
   .exact h
   .simp only[h_,Tp];exact WJ _ _ _ _<|.inr e
  .cases D n<;>cases D' n<;>simp[Tp,KG _ _ _ e,h]
def Oo{k:Nat}:∀(l:List<|Option Nat×aA G) (n:Nat) (s:V G),k∈(replay D n l s).us↔k∈s.us\/∃i r,l[i]?=C r/\D (n+i)=J/\k∈r.2.nw
 |[],_,s=>by simp[replay]
 |r::t,n,s=>by
  simp only[replay];rw[Oo t<|n+1];constructor
  .rintro(h|⟨i,q,h1,e,a⟩)
   .cases hd:D n with
    |false=>rw[hd]at h;exact .inl h
    |true=>
     rw[hd]at h;rcases(Tr k).1 h with h|h
     .exact .inr ⟨0,r,rfl,by simpa using hd,h⟩
     .exact .inl h
   .exact .inr ⟨i+1,q,by simpa using h1,by rwa [d1_ i 1,<-Z_],a⟩
  .rintro(h|⟨i,q,h1,e,a⟩)
   .left;cases hd:D n with
    |false=>exact h
    |true=>exact(Tr k).2<|.inr h
   .cases i with
    |zero=>simp at h1 e;subst h1;left;rw[e];exact(Tr k).2<|.inl a
    |succ i=>simp at h1;exact .inr ⟨i,q,h1,by rwa [Z_,d1_ 1 i],a⟩
def Lg:∀(l:List<|Option Nat×aA G) (n:Nat) (s:V G),replay (λ_=>U) n l s=s
 |[],_,_=>rfl
 |_::t,n,s=>Lg t (n+1) s
def Au1{k:Nat}:∀(l:List<|Option Nat×aA G) (n i:Nat) (r:Option Nat×aA G) (s:V G),l[i]?=C r->r.1=C k->D (n+i)=J->
  (∀j q,i<j->l[j]?=C q->D (n+j)=J->q.1≠C k)->O (replay D n l s).tm k=r.2.v
 |[],_,_,_,_,h,_,_,_=>by simp at h
 |p::t,n,i,r,s,hi,y,hd,hl=>by
  simp only[replay];cases i with
  |zero=>
   simp at hi hd;subst hi;rw[hd,h_];rw[RG (D':=λ_=>U) (s':=s.next p.1 p.2) t (n+1) _ (λj q hq e=>?_) rfl,Lg,Tq,if_pos y];cases a:D (n+1+j)with
   |false=>rfl
   |true=>exact absurd e<|hl (j+1) q ω (by simpa using hq) (by rwa [d1_ j 1,<-Z_])
  |succ i=>simp at hi;refine Au1 t (n+1) i r _ hi y (by rwa [Z_,d1_ 1 i]) λj q z hq a=>?_;exact hl (j+1) q ω (by simpa using hq) (by rwa [d1_ j 1,<-Z_])
def Au0{k:Nat}:∀(l:List<|Option Nat×aA G) (n i:Nat) (r:Option Nat×aA G) (s:V G) (h:Nat->Option (aB G.T)),l[i]?=C r->k∈Cb r.2.d->D (n+i)=J->
  (∀j q,i<j->l[j]?=C q->D (n+j)=J->k∉Cb q.2.d)->O (replay D n l s).hp k=By h r.2.d k
 |[],_,_,_,_,_,h,_,_,_=>by simp at h
 |p::t,n,i,r,s,h,hi,y,hd,hl=>by
  simp only[replay];cases i with
  |zero=>
   simp at hi hd;subst hi;rw[hd,h_];rw[On (D':=λ_=>U) (s':=s.next p.1 p.2) t (n+1) _ (λj q hq e=>?_) rfl,Lg,Tp]
   .exact WJ _ _ _ _<|.inr y
   cases a:D (n+1+j)with
   |false=>rfl
   |true=>exact absurd e<|hl (j+1) q ω (by simpa using hq) (by rwa [d1_ j 1,<-Z_])
  |succ i=>simp at hi;refine Au0 t (n+1) i r _ h hi y (by rwa [Z_,d1_ 1 i]) λj q z hq a=>?_;exact hl (j+1) q ω (by simpa using hq) (by rwa [d1_ j 1,<-Z_])
end
end Go.Ab
namespace Go.Ab
variable{G:aC}
variable{s:V G}{o:Oper}{out:aA G}{j:Nat}
def PG{D D':Nat->Bool}:∀(l:List<|Option Nat×aA G) (n a:Nat) (s s':V G),(∀i,i<l.length->D (n+i)=D' (a+i))->ExtEq s s'->ExtEq (replay D n l s) (replay D' a l s')
 |[],_,_,_,_,_,h=>h
 |r::t,n,a,s,s',hd,h=>by
  simp only[replay];refine PG t (n+1) (a+1) _ _ (λi hi=>by have:=hd (i+1) (by simpa using hi);rwa [<-Z_,<-Z_,bB,bB a]at this) ?_
  have:=hd 0 σ
  rw[d0_,d0_]at this;rw[<-this];cases D n
  .exact h
  .exact h.next _ _
inductive StepR(cf:Ch G)(nt:Nat)(ops:Array Oper)(o:Oper)(st:St G)(out:Out G):Prop
 |act (g:Option (Nat×Bool)) (hd:NH nt o.dst=true)
   (hg:∀p,g=some p->get st.tm p.1=some (.p (.one (.sc (.bool p.2))))/\∃j want,o.guard=some (j,want)/\(ops[j]?).bind (·.dst)=some p.1/\p.2=want)
   (hn:g=none->o.guard=none) (hact:act cf (KI st.tm) (get st.hp) (Anp 0 o.dst) o.op (Out G) some=some out) (hf:JD st.us out.nw=true)
 |skip (p:Nat×Bool) (j:Nat) (want:Bool) (hd:NH nt o.dst=true) (hp:get st.tm p.1=some (.p (.one (.sc (.bool p.2))))) (hg:o.guard=some (j,want)) (hj:(ops[j]?).bind (·.dst)=some p.1) (hw:p.2≠want)
   (e:out=⟨some (.tup []),[],[],[]⟩)
 |skipU (gs j:Nat) (want:Bool) (hd:NH nt o.dst=true) (hp:get st.tm gs=some (.tup [])) (hg:o.guard=some (j,want)) (hj:(ops[j]?).bind (·.dst)=some gs) (e:out=⟨some (.tup []),[],[],[]⟩)
def Ak5{d:Option Nat}:ExtEq (s.drop d)<|s.next d ⟨C<|.tup [],[],[],[]⟩:=by
 cases d with
 |none=>exact⟨λ_=>rfl,λ_=>rfl,λ_=>Iff.rfl⟩
 |some d=>exact⟨λ_=>rfl,λ_=>rfl,λ_=>Iff.rfl⟩
section
variable{P:Program}(ok:aP P G)(eqok:EqOK P G){cf:Ch G}(cfok:CfOK P G cf)(cfl:Abm cf){nt:Nat}{ops:Array Oper}
include cfok in
theorem Alr(o:Oper)(st:V G):Law<|An6 cf nt ops o st:=by
 refine Ad (An _) λ_=>Ad (Vw _ _ _) λg=>?_;split
 .exact Ad (Ab4 cfok.law _) λ_=>Ad (An _) λ_=>Af _
 .exact Af _
include cfok in
theorem Qp:∀(l:List Oper) (st:V G),Law<|Aff cf nt ops l st
 |[],_=>Af _
 |o::t,st=>Ad (Alr cfok o st) λ_=>Ad (Qp t _) λ_=>Af _
include cfok in
theorem Ayi{st z:V G}(h:An6 cf nt ops o st _ C=C (out,z)):StepR cf nt ops o st out/\ExtEq z (st.next o.dst out):=by
 unfold An6 at h;obtain⟨hd,h1⟩:=aJ h;obtain⟨⟨L,g⟩,a,A⟩:=(Vw ops st.tm o).spec<|aS h1;have r:∀(hg:∀p,g=C p->O st.tm p.1=C (.p<|.one<|.sc<|.bool p.2)/\∃j e,o.guard=C (j,e)/\(ops[j]?).bind (·.dst)=C p.1/\p.2=e) (X:g=N->o.guard=N),L=J->
   StepR cf nt ops o st out/\ExtEq z (st.next o.dst out):=by
  intro hg X a;subst a;simp only at A;obtain⟨Y,hout,h3⟩:=(Ab4 cfok.law _).spec<|aS A;obtain⟨hf,R⟩:=aJ h3;simp[aG]at R;obtain⟨rfl,rfl⟩:=R;refine⟨.act g hd hg X hout hf,?_⟩;cases g with
  |none=>exact ExtEq.rfl'
  |some p=>exact((Ys (hg p rfl).1).symm).next _ _
 unfold To at a;cases q:o.guard with
 |none=>simp[q,aG]at a;obtain⟨rfl,rfl⟩:=a;exact r σ (λ_=>q) rfl
 |some jw=>
  obtain⟨j,e⟩:=jw;simp only[q,Agw]at a;split at a
  .rename_i F y;split at a
   .rename_i b I;have E:∀B:Bool,O st.tm F=C (.p<|.one<|.sc<|.bool B)->B≠e->L=U->g=C (F,B)->StepR cf nt ops o st out/\ExtEq z (st.next o.dst out):=by
     intro B W h6 h7 h8;subst h7;simp[aG]at A;obtain⟨rfl,rfl⟩:=A;refine⟨.skip (F,B) j e hd W q y h6 rfl,?_⟩;rw[h8];exact((Ys (p:=(F,B)) W).symm).next _ _
    cases b with
    |true=>
     simp at a;obtain⟨rfl,rfl⟩:=a;cases e with
     |true=>exact r (by rintro p hp;simp at hp;subst hp;exact⟨I,j,J,q,y,rfl⟩) σ rfl
     |false=>exact E J I σ rfl rfl
    |false=>
     simp at a;obtain⟨rfl,rfl⟩:=a;cases L with
     |false=>exact E U I σ rfl rfl
     |true=>exact r (by rintro p hp;simp at hp;subst hp;exact⟨I,j,_,q,y,rfl⟩) σ rfl
   .rename_i hu;simp at a;obtain⟨rfl,rfl⟩:=a;simp[aG]at A;obtain⟨rfl,rfl⟩:=A;exact⟨.skipU F j e hd hu q y rfl,ExtEq.rfl'⟩
   .simp at a
  .simp at a
def recs(l:List Oper)(outs:List<|aA G):List<|Option Nat×aA G:=l.zipWith (λo out=>(o.dst,out)) outs
theorem Mj{l:List Oper}{outs:List<|aA G}{i:Nat}{r:Option Nat×aA G}(h:(recs l outs)[i]?=C r):∃o,l[i]?=C o/\outs[i]?=C r.2/\r.1=o.dst:=by
 unfold recs at h;rw[bE]at h;cases h1:l[i]? with
 |none=>simp[h1]at h
 |some o=>
  cases a:outs[i]? with
  |none=>simp[h1,a]at h
  |some out=>simp[h1,a]at h;subst h;exact⟨o,rfl,rfl,rfl⟩
include cfok in
theorem Abb:∀(l:List Oper) (st e:V G) (outs:List<|aA G),Aff cf nt ops l st _ C=C (outs,e)->
  outs.length=l.length/\ExtEq e (replay (λ_=>J) 0 (recs l outs) st)/\
  ∀i o out,l[i]?=C o->outs[i]?=C out->∃s,ExtEq s (replay (λj=>decide<|j<i) 0 (recs l outs) st)/\StepR cf nt ops o s out
 |[],st,e,outs,h=>by simp[Aff,aG]at h;obtain⟨rfl,rfl⟩:=h;exact⟨rfl,ExtEq.rfl',λi o out h=>by simp at h⟩
 |p::t,st,e,outs,h=>by
  unfold Aff at h;obtain⟨⟨out,r⟩,h1,I⟩:=(Alr cfok p st).spec<|aS h;obtain⟨⟨a,y⟩,L,A⟩:=(Qp cfok t r).spec<|aS I;simp[aG]at A;obtain⟨rfl,rfl⟩:=A;obtain⟨B,z⟩:=Ayi cfok h1;obtain⟨R,W,E⟩:=Abb t r y a L;refine⟨by simp[R],?_,λi o q hi hq=>?_⟩
  .refine W.trans ?_;show ExtEq _ (replay _ 1 (recs t a)<|st.next p.dst out);exact PG _ _ _ _ _ (λ_ _=>rfl) z
  .cases i with
   |zero=>
    simp at hi hq;subst hi;subst hq;refine⟨st,?_,B⟩;show ExtEq st (replay _ 1 (recs t a) st)
    have:=PG (D:=λ_=>U) (D':=λj=>decide<|j<0) (recs t a) 0 1 st st (λi _=>by simp) ExtEq.rfl'
    rwa [Lg]at this
   |succ i=>simp at hi hq;obtain⟨s,g1,F⟩:=E i o q hi hq;refine⟨s,g1.trans ?_,F⟩;show ExtEq _ (replay _ 1 (recs t a)<|st.next p.dst out);exact PG _ _ _ _ _ (λk _=>by simp;omega) z
theorem Aef{us l:List Nat}(h:∀n∈l,n∉us):JD us l=J:=by
 induction l with
 |nil=>rfl
 |cons k t a=>
  simp only[JD,a_,b2_];refine⟨?_,a λn q=>h n (by simp[q])⟩;cases e:has us k with
  |false=>rfl
  |true=>exact absurd ((ES us k).1 e)<|h k σ
theorem Md:∀{a b:List Nat},disj a b=J->∀n∈a,n∉b
 |[],_,_,n,h=>by simp at h
 |m::t,b,h,n,e=>by
  simp only[disj,a_]at h;rcases x_.1 e with rfl|e
  .intro hm;rw[(ES b n).2 hm]at h;simp at h
  .exact Md h.2 n e
theorem Bb6{x:Operand}(h:x∈o.op.operands.toList){t:Nat}(a:x=.tmp t):t∈o.looksAt ops:=by unfold Oper.looksAt;refine n_.2<|.inl<|List.mem_filterMap.2 ⟨x,h,?_⟩;subst a;rfl
theorem Wl{a:Bool}{d:Nat}(hg:o.guard=C (j,a))(e:(ops[j]?).bind (·.dst)=C d):d∈o.looksAt ops:=by unfold Oper.looksAt;refine n_.2<|.inr ?_;rw[hg];simp[e]
structure Done(cf:Ch G)(nt:Nat)(ops:Array Oper)(st:St G)(outs:List (Out G))(sf:Nat->Prop):Prop where
 len:outs.length=ops.size
 edges:NW 0 ops.toList=true
 slots:pairs (λx y=>Oper.apart ops x y) (Jh ops.toList []) ops.toList=true
 mem:∀i j x y,i<j->outs[i]?=some x->outs[j]?=some y->((Jh ops.toList []).getD j 0).testBit i=true\/((∀n∈Cb x.d,n∉Cb y.d)/\(¬sf j->∀n∈Cb x.d,n∉y.rd)/\(¬sf i->∀n∈Cb y.d,n∉x.rd))
 soft:∀i,sf i->∀(D:Nat->Bool) (s:St G) o out nm,ExtEq s (replay (λj=>decide (j<i)) 0 (recs ops.toList outs) st)->ops[i]?=some o->outs[i]?=some out->act cf (KI s.tm) (get s.hp) nm o.op (Out G) some=some out->act cf (KI s.tm) (get (replay D 0 (recs ops.toList outs) st).hp) nm o.op (Out G) some=some out
 step:∀i o out,ops[i]?=some o->outs[i]?=some out->∃s,ExtEq s (replay (λj=>decide (j<i)) 0 (recs ops.toList outs) st)/\StepR cf nt ops o s out
variable{st:V G}{outs:List (aA G)}{sf:Nat->Prop}(dn:Done cf nt ops st outs sf)
section
variable{D:Nat->Bool}(hD:Down ops D){i:Nat}{o:Oper}{out:aA G}(ho:ops[i]?=C o)(hout:outs[i]?=C out)(hi:D i=U)
 (hpre:∀e∈o.after.toList,Region.binds .any e=J->D e.on=J)
include dn hD ho hout hi hpre
theorem Qg{p:Oper}{q:aA G}(hp:ops[j]?=C p)(hq:outs[j]?=C q)(L:(j<i/\D j=U)\/(i<j/\D j=J)):
  (∀d,p.dst=C d->d∉o.looksAt ops)/\(∀d,p.dst=C d->o.dst≠C d)/\(¬sf i->∀n∈Cb q.d,n∉out.rd)/\(∀n∈Cb q.d,n∉Cb out.d):=by
 have A:ops.toList[j]?=C p:=by simpa using hp
 have y:ops.toList[i]?=C o:=by simpa using ho
 have z:∀e∈o.after.toList,Region.binds .any e=J->D e.on=J:=hpre;rcases L with⟨h1,E⟩|⟨h1,E⟩
 .have a:((Jh ops.toList []).getD i 0).testBit j=J->False:=λB=>by
   have:=ZU dn.edges hD (i+1) i o ω ho z j B
   rw[E]at this;simp at this
  have r:=(Tc dn.slots j i p o h1 A y).resolve_right a;have a2:=(dn.mem j i q out h1 hq hout).resolve_left a;have r:=Oper.apart_spec r;exact⟨r.1,r.2.1,a2.2.1,a2.1⟩
 .have a:((Jh ops.toList []).getD j 0).testBit i=J->False:=λB=>by
   have:=ZU dn.edges hD (j+1) j p ω hp (hD j p hp E) i B
   rw[hi]at this;simp at this
  have r:=(Tc dn.slots i j o p h1 y A).resolve_right a;have a2:=(dn.mem i j out q h1 hout hq).resolve_left a;have r:=Oper.apart_spec r;exact⟨r.2.2,λd hd F=>r.2.1 d F hd,a2.2.2,λn I hm=>a2.1 n hm I⟩
theorem Xu(B:ExtEq s<|replay (λj=>decide<|j<i) 0 (recs ops.toList outs) st){k:Nat}(z:k∈o.looksAt ops):
  O (replay D 0 (recs ops.toList outs) st).tm k=O s.tm k:=by
 rw[B.tm k];refine RG _ 0 _ _ (λj r F a=>?_) rfl;rw[m_];obtain⟨p,h1,A,E⟩:=Mj F;have y:ops[j]?=C p:=by simpa using h1
 rw[E]at a;by_cases q:j<i
 .rw[b_ q];cases hd:D j with
  |true=>rfl
  |false=>exact absurd z<|(Qg dn hD ho hout hi hpre y A<|.inl ⟨q,hd⟩).1 k a
 .rw[d_ q];by_cases e:j=i
  .subst e;exact hi
  .cases hd:D j with
   |false=>rfl
   |true=>exact absurd z<|(Qg dn hD ho hout hi hpre y A<|.inr ⟨ω,hd⟩).1 k a
theorem Bei(y:¬sf i)(E:ExtEq s<|replay (λj=>decide<|j<i) 0 (recs ops.toList outs) st){n:Nat}(A:n∈out.rd):
  O (replay D 0 (recs ops.toList outs) st).hp n=O s.hp n:=by
 rw[E.hp n];refine On _ 0 _ _ (λj r F z=>?_) rfl;rw[m_];obtain⟨p,h1,B,I⟩:=Mj F;have q:ops[j]?=C p:=by simpa using h1
 by_cases a:j<i
 .rw[b_ a];cases hd:D j with
  |true=>rfl
  |false=>exact absurd A<|(Qg dn hD ho hout hi hpre q B<|.inl ⟨a,hd⟩).2.2.1 y n z
 .rw[d_ a];by_cases e:j=i
  .subst e;exact hi
  .cases hd:D j with
   |false=>rfl
   |true=>exact absurd A<|(Qg dn hD ho hout hi hpre q B<|.inr ⟨ω,hd⟩).2.2.1 y n z
omit hD hpre in
theorem Bej(F:ExtEq s<|replay (λj=>decide<|j<i) 0 (recs ops.toList outs) st)(hf:JD s.us out.nw=J):
  JD (replay D 0 (recs ops.toList outs) st).us out.nw=J:=by
 refine Aef λn E hm=>?_;have h0:=Aac hf n E;rw[F.us n,Oo]at h0;rcases(Oo _ _ _).1 hm with h|⟨j,r,h1,z,a⟩
 .exact h0<|.inl h
 .rw[m_]at z;by_cases A:j<i
  .exact h0<|.inr ⟨j,r,h1,by rw[m_];exact b_ A,a⟩
  .by_cases e:j=i
   .subst e;rw[hi]at z;simp at z
   .obtain⟨p,I,X,q3⟩:=Mj h1;obtain⟨s2,g1,R⟩:=dn.step j p r.2 (by simpa using I) X;cases R with
    |act g hd hg L B y=>
     refine Aac y n a ?_;rw[g1.us n,Oo];right;have Y:(recs ops.toList outs)[i]?=C (o.dst,out):=by
      unfold recs;rw[bE]
      have:ops.toList[i]?=C o:=by simpa using ho
      rw[this,hout]
     exact⟨i,_,Y,by rw[m_];exact b_ ω,E⟩
    |skip p j q hd hp hg W hw e=>rw[e]at a;simp at a
    |skipU gs j q hd hp hg W e=>rw[e]at a;simp at a
include cfl in
theorem Bg4:StepR cf nt ops o (replay D 0 (recs ops.toList outs) st) out:=by
 obtain⟨s,r,y⟩:=dn.step i o out ho hout;cases y with
 |act g hd hg B q hf=>
  refine .act g hd (λp hp=>?_) B ?_<|Bej dn ho hout hi r hf
  .obtain⟨h1,j,a,E,F,L⟩:=hg p hp;refine⟨?_,j,a,E,F,L⟩;rw[Xu dn hD ho hout hi hpre r<|Wl E F];exact h1
  .rw[Bjf (ev:=KI s.tm) o.op λx W=>?_]
   .by_cases z:sf i
    .exact dn.soft i z D s o out _ r ho hout q
    .exact Bje cfl q λn B=>Bei dn hD ho hout hi hpre z r B
   .cases x with
    |tmp t=>exact Xu dn hD ho hout hi hpre r<|Bb6 W rfl
    |const v=>cases v<;>rfl
    |_=>rfl
 |skip p j a hd hp hg A I e=>refine .skip p j a hd ?_ hg A I e;rw[Xu dn hD ho hout hi hpre r<|Wl hg A];exact hp
 |skipU R j a hd hp hg A e=>refine .skipU R j a hd ?_ hg A e;rw[Xu dn hD ho hout hi hpre r<|Wl hg A];exact hp
theorem Bgc{D':Nat->Bool}(B:D' i=J)(y:∀j,j≠i->D' j=D j) :
  ExtEq ((replay D 0 (recs ops.toList outs) st).next o.dst out) (replay D' 0 (recs ops.toList outs) st):=by
 have F:(recs ops.toList outs)[i]?=C (o.dst,out):=by
  unfold recs;rw[bE]
  have:ops.toList[i]?=C o:=by simpa using ho
  rw[this,hout]
 have R:∀j r,(recs ops.toList outs)[j]?=C r->r≠(o.dst,out)->j≠i:=by intro j r h1 a e;subst e;rw[F]at h1;simp at h1;exact a h1.symm
 refine⟨λk=>?_,λn=>?_,λn=>?_⟩
 .rw[Tq];by_cases e:o.dst=C k
  .rw[if_pos e];rw[Au1 _ 0 i _ _ F e (by rw[m_];exact B) λj q L hq z A=>?_];rw[m_,y j ω]at z;obtain⟨p,h1,a,E⟩:=Mj hq;rw[E]at A;exact(Qg dn hD ho hout hi hpre (by simpa using h1) a<|.inr ⟨L,z⟩).2.1 k A e
  .rw[if_neg e];refine RG _ 0 _ _ (λj r h1 a=>?_) rfl;rw[m_];exact(y j λI=>by subst I;rw[F]at h1;simp at h1;subst h1;exact e a).symm
 .rw[Tp];by_cases e:n∈Cb out.d
  .rw[Au0 _ 0 i _ _ (O (replay D 0 (recs ops.toList outs) st).hp) F e (by rw[m_];exact B) λj q L hq z A=>?_];rw[m_,y j ω]at z;obtain⟨p,h1,a,E⟩:=Mj hq;exact(Qg dn hD ho hout hi hpre (by simpa using h1) a<|.inr ⟨L,z⟩).2.2.2 n A e
  .rw[KG _ _ _ e];refine On _ 0 _ _ (λj r h1 a=>?_) rfl;rw[m_];exact(y j λI=>by subst I;rw[F]at h1;simp at h1;subst h1;exact e a).symm
 .rw[Tr,Oo,Oo];constructor
  .rintro(h|h|⟨j,r,h1,a,E⟩)
   .exact .inr ⟨i,_,F,by rw[m_];exact B,h⟩
   .exact .inl h
   .refine .inr ⟨j,r,h1,?_,E⟩;rw[m_]at a|-;by_cases e:j=i
    .subst e;exact B
    .rw[y j e];exact a
  .rintro(h|⟨j,r,h1,a,E⟩)
   .exact .inr<|.inl h
   .by_cases e:j=i
    .subst e;rw[F]at h1;simp at h1;subst h1;exact .inl E
    .refine .inr<|.inr ⟨j,r,h1,?_,E⟩;rw[m_]at a|-;rw[<-y j e];exact a
end
include ok eqok cfok in
theorem Bg3{cx:Cx}{a:Act}{w:World}(h:StepR cf cx.nt ops o s out)(r:Rel G cx s a w){K:Act->World->Prop}{Q:Exit->Act->World->Prop}
  (B:∀y w',Rel G cx (s.next o.dst out) y w'->K y w'):if Region.wanted o (yielded ops a.tmps)then o.wp P a w K Q else K (a.put o.dst undef) w:=by
 cases h with
 |act g hd hg I A hf=>
  refine Acb ok eqok cfok (.act g out hd hg I A hf rfl) r λy w' z=>B y w'<|z.ext ?_;cases g with
  |none=>exact ExtEq.rfl'
  |some p=>exact((Ys (hg p rfl).1).symm).next _ _
 |skip p j q hd hp hg E F e=>subst e;refine Acb ok eqok cfok (.skip p j q hd hp hg E F rfl) r λy w' z=>B y w'<|z.ext ?_;refine ExtEq.trans Ak5 ?_;exact((Ys hp).symm).next _ _
 |skipU L j q hd hp hg E e=>subst e;exact Acb ok eqok cfok (.skipU L j q hd hp hg E rfl) r λy w' z=>B y w'<|z.ext Ak5
end
end Go.Ab
namespace Go.Ab
variable{G:aC}
variable{Q:Exit->Act->World->Prop}{listed:Array Bool}{sf:Nat->Prop}{i:Nat}
def Ak1{α:Type}{p q:α->Bool}:∀(l:List α) (x:α),x∈l->(∀y∈l,q y=J->p y=J)->p x=J->q x=U->l.countP q<l.countP p
 |[],_,h,_,_,_=>by simp at h
 |y::t,x,h,hi,hp,hq=>by
  rcases x_.1 h with rfl|h
  .rw[List.countP_cons_of_neg (by simp[hq]),bD hp]
   have:t.countP q<=t.countP p:=List.countP_mono_left λz r a=>hi z (by simp[r]) a
   omega
  .have A:=Ak1 t x h (λz r=>hi z (by simp[r])) hp hq;cases e:q y with
   |false=>rw[List.countP_cons_of_neg (by simp[e])];rw[List.countP_cons];omega
   |true=>rw[bD e,bD<|hi y σ e];omega
section
variable{P:Program}(ok:aP P G)(eqok:EqOK P G){cf:Ch G}(cfok:CfOK P G cf)(cfl:Abm cf){nt:Nat}{ops:Array Oper}
variable{st:V G}{outs:List (aA G)}
def left(n:Nat)(listed:Array Bool):Nat:=(List.range n).countP λi=>!listed.getD i J
theorem Uu(h:i<listed.size)(j:Nat)(d:Bool):(listed.setIfInBounds i J).getD j d=if j=i then J else listed.getD j d:=by
 simp only[y_,f7_];by_cases e:j=i
 .subst e;simp[h]
 .simp[e4_ e,e]
theorem Ut{n:Nat}(a:listed.size=n)(hi:i<n)(d e:Bool):listed.getD i d=listed.getD i e:=by simp[y_,a,hi]
theorem Aas:i∈Region.ready .any ops listed↔i<ops.size/\listed.getD i J=U/\∃o,ops[i]?=C o/\∀e∈o.after.toList,Region.binds .any e=J->listed.getD e.on U=J:=by
 unfold Region.ready;rw[List.mem_filter,List.mem_range];constructor
 .rintro⟨h1,q⟩;rw[a_,b2_]at q;refine⟨h1,q.1,ops[i],b5_ h1,?_⟩;have a:=q.2;rw[b5_ h1]at a;simp only[e8_,Option.getD_some]at a;intro e y r;rw[<-Array.all_toList,F_]at a
  have:=a e y
  rw[r]at this;simpa using this
 .rintro⟨h1,q,o,a,z⟩;refine⟨h1,?_⟩;rw[q,a];simp only[Bool.not_false,e8_,Option.getD_some,c1_];rw[<-Array.all_toList,F_];intro e y;cases r:Region.binds .any e with
  |false=>rfl
  |true=>simpa using z e y r
include ok eqok cfok cfl in
theorem Bac{cx:Cx}(dn:Done cf cx.nt ops st outs sf)(hQ:∀X w',Rel G cx (replay (λ_=>J) 0 (recs ops.toList outs) st) X w'->Q .normal X w'):
  ∀(Db:Nat) (listed:Array Bool) (a:Act) (w:World),listed.size=ops.size->Down ops (λi=>listed.getD i U)->left ops.size listed<=Db->
   Rel G cx (replay (λi=>listed.getD i U) 0 (recs ops.toList outs) st) a w->wpAny P .any ops Q Db listed a w:=by
 have B:∀(listed:Array Bool) (a:Act) (w:World),listed.size=ops.size->(∀i,i<ops.size->listed.getD i U=J)->Rel G cx (replay (λi=>listed.getD i U) 0 (recs ops.toList outs) st) a w->Q .normal a w:=by
  intro listed a w _ y r;refine hQ a w<|r.ext<|PG _ _ _ _ _ (λi hi=>?_) ExtEq.rfl';rw[m_];refine y i ?_
  have:=(Mj<|i_ hi).choose_spec.1
  have:=(f_.1 this).1
  simpa using this
 have q:∀(listed:Array Bool),listed.size=ops.size->Region.ready .any ops listed=[]->∀(n i:Nat),i<n->i<ops.size->listed.getD i U=J:=by
  intro listed z R n;induction n with
  |zero=>intro i h;omega
  |succ n ih=>
   intro i hin hi;cases hb:listed.getD i U with
   |true=>rfl
   |false=>
    have:i∈Region.ready .any ops listed:=by refine Aas.2 ⟨hi,by rw[Ut z hi J U];exact hb,ops[i],b5_ hi,λe Y h3=>?_⟩;have h5:=RY dn.edges i ops[i] (by simp[hi]) e Y h3;exact ih e.on ω ω
    rw[R]at this;simp at this
 intro Db;induction Db with
 |zero=>
  intro listed a w z hD hl r;have y:∀i,i<ops.size->listed.getD i U=J:=by
   intro i hi;have h0:left ops.size listed=0:=ω;unfold left at h0;rw[List.countP_eq_zero]at h0
   have:=h0 i (by simp[hi])
   simp only[b2_,Bool.not_eq_false]at this;rw[Ut z hi U J];exact this
  refine⟨?_,B listed a w z y r⟩;cases R:Region.ready .any ops listed with
  |nil=>rfl
  |cons i t=>
   have:i∈Region.ready .any ops listed:=by rw[R];simp
   obtain⟨h1,L,_⟩:=Aas.1 this;rw[Ut z h1 J U,y i h1]at L;simp at L
 |succ Db ih=>
  intro listed a w z hD hl r;refine⟨λR=>B listed a w z (λi hi=>q listed z R (i+1) i ω hi) r,λi hi=>?_⟩;obtain⟨h1,L,o,ho,hpre⟩:=Aas.1 hi;rw[Ut z h1 J U]at L;have W:i<outs.length:=by rw[dn.len];exact h1
  have hout:outs[i]?=C outs[i]:=i_ W;have I:=Bg4 cfl dn hD ho hout L hpre;have E:=Bgc dn hD ho hout L hpre (D':=λj=>(listed.setIfInBounds i J).getD j U) (by show Array.getD _ _ _=J;rw[Uu ω];simp)
   (λj F=>by show Array.getD _ _ _=_;rw[Uu ω,if_neg F])
  have h4:Down ops (λj=>(listed.setIfInBounds i J).getD j U):=by
   intro j p hp F e Y hb;show Array.getD _ _ _=J;have F:Array.getD _ _ _=J:=F;rw[Uu ω]at F|-;by_cases e1:e.on=i
   .rw[if_pos e1]
   .rw[if_neg e1];by_cases e2:j=i
    .subst e2;rw[ho]at hp;simp at hp;subst hp;exact hpre e Y hb
    .rw[if_neg e2]at F;exact hD j p hp F e Y hb
  have A:=Bg3 ok eqok cfok I r (K:=wpAny P .any ops Q Db<|listed.setIfInBounds i J) (Q:=Q) λX w' r'=>
   ih (listed.setIfInBounds i J) X w' (by simp[z]) h4 (by
    have:left ops.size (listed.setIfInBounds i J)<left ops.size listed:=by
     refine Ak1 _ i (by simp[h1]) (λj _ hq=>?_) (by rw[Ut z h1 J U,L];rfl) (by rw[Uu ω];simp);rw[Uu ω]at hq;by_cases e:j=i
     .rw[if_pos e]at hq;simp at hq
     .rw[if_neg e]at hq;exact hq
    omega) (r'.ext E)
  unfold wpOp;rw[ho];simp only;by_cases hw:Region.wanted o (yielded ops a.tmps)=J
  .rw[if_pos hw]at A|-;exact .inl A
  .rw[if_neg hw]at A|-;exact A
include ok eqok cfok cfl in
theorem Auk(hm:P.follows .mixedOrders=J){q:V G}{cx:Cx}{a:Act}{w:World}{id:Nat}(dn:Done cf cx.nt ops st outs sf)(E:ExtEq q<|replay (λ_=>J) 0 (recs ops.toList outs) st)(r:Rel G cx st a w)(B:∀z w',Rel G cx q z w'->Q .normal z w'):(Code.region id ops J).wp P Q a w:=by
 refine wp_region_any hm<|Bac ok eqok cfok cfl dn (λz w' A=>B z w'<|A.ext E.symm) ops.size _ a _ σ ?_ ?_ ?_
 .intro j o _ y;have y:(aV ops.size U).getD j U=J:=y;simp[y_,bC]at y;split at y<;>simp at y
 .exact b7_ List.countP_le_length σ
 .refine(r.drawn _).ext ?_
  have:replay (λi=>(aV ops.size U).getD i U) 0 (recs ops.toList outs) st=st:=by
   have e:(λi=>(aV ops.size U).getD i U)=λ_=>U:=by funext i;simp only[y_,bC];split<;>rfl
   rw[e,Lg]
  rw[this];exact ExtEq.rfl'
include ok eqok cfok cfl in
theorem Ry(hm:P.follows .mixedOrders=J):DrawOK P G nt<|Ui cf nt:=by refine⟨λops st=>Ad (An _) λ_=>Ad (Qp cfok _ _) λ_=>Ad (An _) λ_=>Af _,?_⟩;intro ops st F h cx a w id Q z e R;subst z;unfold Ui at h;obtain⟨h1,W⟩:=aJ h;obtain⟨⟨outs,r⟩,X,I⟩:=(Qp cfok (ops:=ops) ops.toList st).spec<|aS W;obtain⟨L,A⟩:=aJ I;simp[aG]at A;subst A;obtain⟨Y,e2,E⟩:=Abb cfok ops.toList st r outs X;rw[a_]at h1;refine Auk ok eqok cfok cfl hm (sf:=λ_=>False) ⟨by simpa using Y,h1.1,h1.2,λi j x y q hx B=>?_,λ_ h=>h.elim,λi o out hi ho=>E i o out (by simpa using hi) ho⟩ e2 e R;refine(Tc L i j x y q hx B).symm.imp (λh=>h) λh=>?_;simp only[Bae,a_]at h;exact⟨Md h.1.2,λ_=>Md h.1.1,λ_=>Md h.2⟩
end
end Go.Ab
namespace Go.Ab
variable{G:aC}
section
variable{P:Program}(ok:aP P G)(eqok:EqOK P G){cf:Ch G}(cfok:CfOK P G cf){nt:Nat}{drawn:Array Oper->V G->M (V G)}(dok:DrawOK P G nt drawn)
 {lp:Nat->V G->M (Ex×V G)}{kl:Nat->List Nat}{jn:Nat->Option (List (Ex×aF))}
include ok eqok cfok dok in
theorem Al3{S:aF}{E:List<|Ex×aF}{c:Code}{n:Nat}(hl:∀(k:Nat) c',(Bl c)[k]?=C c'->aM P G nt (lp<|n+k) c'){cx:Cx}(h0:cx.nt=nt)(F:∀n y,cx.nu0 n=C y->Z<=n)
  {y:Ev G E}{ex:Ex}{h4:V G}(hy:FZ E y C=C (ex,h4)) {Q:Exit->Act->World->Prop}(hQ:∀e W w',ExR ex e->Rel G cx h4 W w'->Q e W w') :
  ∀(f:Nat) (x:S.T G) (a:Act) (w:World),iter (RH S E<|CA cf nt drawn lp kl jn n c) f x=C y->Rel G cx (S.mk' x) a w->Code.rounds P c Q f a w
 |0,_,_,_,h,_=>by simp[iter]at h
 |f+1,x,a,w,h,r=>by
  rw[rounds_succ];have Y:=EN cfok dok (kl:=kl) (jn:=jn) c n (S.mk' x) hl;simp only[iter]at h;have L:RH S E (CA cf nt drawn lp kl jn n c) x=(CA cf nt drawn lp kl jn n c (S.mk' x) _ C).bind λp=>Arl S E p.1 p.2:=Y _ _;rw[L]at h;cases hv:CA cf nt drawn lp kl jn n c (S.mk' x) _ C with
  |none=>rw[hv]at h;simp[Rn]at h
  |some p=>
   obtain⟨e,q⟩:=p;rw[hv]at h;have h:Rn (iter (RH S E<|CA cf nt drawn lp kl jn n c) f) (Arl S E e q)=C y:=h;refine GD ok eqok cfok dok h0 F c n _ q e a w _ hl hv r λe' W w' he r'=>?_;have hout:∀z,Hu E e q=C z->z=y->Q e' W w':=by intro z hz e1;subst e1;obtain⟨h6,h2,h3⟩:=VO F E hz r' C _ hy;simp at h2;obtain⟨rfl,rfl⟩:=h2;exact hQ _ _ _ he h3
   have B:∀o:Option<|Sum (S.T G)<|Ev G E,Rn (iter (RH S E<|CA cf nt drawn lp kl jn n c) f) o=C y->(∃X,o=C (.inl X)/\iter (RH S E<|CA cf nt drawn lp kl jn n c) f X=C y)\/o=C (.inr y):=by
    intro o ho;unfold Rn at ho;split at ho
    .exact .inl ⟨_,rfl,ho⟩
    .simp at ho;subst ho;exact .inr rfl
    .simp at ho
   have R:∀(A:e≠ .normal),Arl S E e q=(match Hu E e q with|some y=>C (Sum.inr (α:=S.T G) y)|none=>N):=by
    intro A;cases e with
    |normal=>exact absurd rfl A
    |exit i=>rfl
    |ret=>rfl
   by_cases A:e=.normal
   .subst A;have hn:Arl S E .normal q=(match S.take q with|some x=>C (Sum.inl (β:=Ev G E) x)|none=>N):=rfl;rw[KJ he];rcases B _ h with⟨X,h1,h2⟩|h1
    .rw[hn]at h1;split at h1
     .rename_i x2 h5
      have:x2=X:=by simpa using h1
      subst this;exact Al3 hl h0 F hy hQ f x2 W w' h2<|Spec.take_rel h5 r' F
     .simp at h1
    .rw[hn]at h1;split at h1<;>simp at h1
   .have hr:=R A;rcases B _ h with⟨X,h1,h2⟩|h1
    .rw[hr]at h1;split at h1<;>simp at h1
    .rw[hr]at h1;split at h1
     .rename_i z hz;have I:=hout z hz (by simpa using h1);cases e with
      |normal=>exact absurd rfl A
      |exit i=>rw[XR he]at I|-;exact I
      |ret=>rw[Tm he]at I|-;exact I
     .simp at h1
include ok eqok cfok dok in
theorem Bph{S:aF}{E:List<|Ex×aF}{c:Code}{n:Nat}(hl:∀(k:Nat) B,(Bl c)[k]?=C B->aM P G nt (lp<|n+k) B){L:S.T G->Option (Ev G E)}
  (F:∀x y,L x=C y->∃f,iter (RH S E<|CA cf nt drawn lp kl jn n c) f x=C y):aM P G nt (lpX S E L) c:=by
 refine⟨λst R k=>?_,λst X I h cx a w Q z e r W=>?_⟩
 .unfold lpX;cases S.take st with
  |none=>rfl
  |some x=>
   simp only;cases L x with
   |none=>rfl
   |some y=>exact Oi E y k
 .unfold lpX at h;cases A:S.take st with
  |none=>rw[A]at h;simp at h
  |some x=>
   rw[A]at h;simp only at h;cases q:L x with
   |none=>rw[q]at h;simp at h
   |some y=>rw[q]at h;obtain⟨f,hf⟩:=F x y q;exact wp_loop_rounds f<|Al3 ok eqok cfok dok hl z e h W f x a w hf<|Spec.take_rel A r e
end
end Go.Ab
namespace Go.Ab
variable{G:aC}
variable{h:Nat->Option (aB G.T)}{Q:Nat->Code->Prop}{l:List (Nat×Fe G)}{ν:Nat->Option Value}{g:Nat->Option Nat}{n:Nat}{ns:List Nat}{c:Cv G.T}{P:Program}{v:Value}
section
variable{h h':Nat->Option (aB G.T)}
def Al4{t:Nat}(hh:h' n=h n):YD h' n t=YD h n t:=by unfold YD;rw[hh]
def Amf{s:aE}(hh:∀n∈c.ows,h' n=h n):s.take h' c=s.take h c:=by
 cases c with
 |own n=>
  have:=hh n (by simp[Cv.ows])
  cases s with
  |own m t=>simp only[CSh.take];rw[Al4 this]
  |ro t=>simp only[CSh.take];rw[Al4 this]
  |_=>rfl
 |sc v=>cases s<;>first|rfl|(cases v<;>rfl)
 |_=>cases s<;>rfl
def Abi:∀{s:List aE}{cs:List<|Cv G.T},(∀c∈cs,∀n∈c.ows,h' n=h n)->Iq h' s cs=Iq h s cs
 |[],[],_=>rfl
 |[],_::_,_=>rfl
 |_::_,[],_=>rfl
 |s::e,c::cs,hh=>by simp only[Iq];rw[Amf<|hh c σ,Abi λc a=>hh c (by simp[a])]
def Bc7{s:aD}{x:Pv G.T}(hh:∀c∈x.cells,∀n∈c.ows,h' n=h n):s.take h' x=s.take h x:=by
 cases s with
 |one s=>cases x with
  |one c=>exact Amf<|hh c (by simp[aY])
  |agg cs=>rfl
 |agg a=>cases x with
  |one c=>rfl
  |agg cs=>exact Abi hh
def Aic{tm:List<|Nat×Sv G.T}(hh:∀k x,O tm k=C (.p x)->∀c∈x.cells,∀n∈c.ows,h' n=h n):∀(s:List<|Nat×aD),Ig h' tm s=Ig h tm s
 |[]=>rfl
 |p::t=>by
  simp only[Ig];cases hg:O tm p.1 with
  |none=>rfl
  |some v=>
   cases v with
   |tup _=>rfl
   |p c=>simp only;rw[Bc7<|hh _ _ hg,Aic hh t]
def Aib:∀(s:List<|Nat×List aE),(∀n∈Ay s,h' n=h n/\∀cs,h n=C (.cells cs)->∀c∈cs,∀n∈c.ows,h' n=h n)->Kh h' s=Kh h s
 |[],_=>rfl
 |p::t,hh=>by
  have h1:=hh p.1 (by simp[Ay]);simp only[Kh];rw[h1.1];cases hg:h p.1 with
  |none=>rfl
  |some k=>
   cases k with
   |row _ _=>rfl
   |cells cs=>simp only;rw[Abi<|h1.2 cs hg,Aib t λn a=>hh n (by simp[Ay,a])]
end
def Avc{T:Nat->Type}{c a:Cv T}(h:c.ren (Afd ns) g=C a):∀n∈a.ows,n∈c.ows/\n<Z/\n∉ns:=by
 cases c with
 |own n=>
  simp only[Cv.ren]at h;split at h
  .rename_i m hm;cases h;obtain⟨rfl,r,y⟩:=Al5 hm;intro n e;simp[Cv.ows]at e|-;subst e;exact⟨rfl,r,y⟩
  .cases h
 |ptr n off=>simp only[Cv.ren]at h;split at h<;>cases h;simp[Cv.ows]
 |clo k p q=>simp only[Cv.ren]at h;split at h<;>cases h;simp[Cv.ows]
 |np n t=>simp only[Cv.ren]at h;split at h<;>cases h;simp[Cv.ows]
 |sc v=>cases h;simp[Cv.ows]
 |ro t l=>cases h;simp[Cv.ows]
 |rp t x o=>cases h;simp[Cv.ows]
 |pd _ _ _ _ _=>cases h
 |pr _ _ _ _=>cases h
 |sa _ _ _=>cases h
def Arv{T:Nat->Type}{cs a:List<|Cv T}(h:Dc (Cv.ren (Afd ns) g) cs=C a):∀A∈a,∀n∈A.ows,(∃c∈cs,n∈c.ows)/\n<Z/\n∉ns:=by
 intro A q n F;obtain⟨L,E⟩:=CH _ _ h;obtain⟨i,hi⟩:=c9_.1 q;have e:i<cs.length:=by have:=(f_.1 hi).1;omega
 obtain⟨z,y,r⟩:=E i _<|i_ e;rw[hi]at y;cases y;obtain⟨B,I⟩:=Avc r n F;exact⟨⟨cs[i],a4_ e,B⟩,I⟩
def Aie{ns:List Nat}{h1 e:Nat->Option (aB G.T)}{nm:Nat}{rd a:List Nat}{args:List<|Pv G.T}{g:Nat}(q:a=rd):∀(l:List<|Nat×Fe G),(∀I:aF,QX I e ns.length args=QX I h1 ns.length args)->
  UQ ns e nm a args g l=UQ ns h1 nm rd args g l
 |[],_=>rfl
 |p::r,h=>by subst q;funext R k;simp only[UQ];rw[h p.2.I,Aie rfl r h]
def Bjl(l:List<|Nat×Fe G):Abm<|cfP l:=by
 intro g args h h' nm out ha hh;unfold cfP at ha|-;generalize hu:YB args=ns at ha|-;obtain⟨e,A,h1⟩:=aK ha;obtain⟨h7,h2⟩:=aJ h1;have he:out.rd=ns++Ab8 ns h args:=by obtain⟨p,_,_,t,_,F⟩:=VP h2;obtain⟨y,p,s,bl,_,_,_,hf⟩:=Af4 F;obtain⟨_,_,_,_,_,_,_,_,_,rfl,_⟩:=Ala hf;rfl
 rw[he]at hh;have h5:∀n∈ns,h' n=h n:=λn E=>hh n (by simp[E]);have h3:Ab8 ns h' args=Ab8 ns h args:=by
  unfold Ab8;congr 1
  have:∀l:List Nat,(∀n∈l,h' n=h n)->(l.flatMap λn=>match h' n with|some (.cells cs)=>cs.flatMap Cv.ows|_=>[])=l.flatMap λn=>match h n with|some (.cells cs)=>cs.flatMap Cv.ows|_=>[]:=by
   intro l;induction l with
   |nil=>intro _;rfl
   |cons a t ih=>intro hl;simp only[a2_];rw[hl a σ,ih λn E=>hl n (by simp[E])]
  exact this ns h5
 have h6:∀(i n:Nat),ns[i]?=C n->Ez ns h' (Z+i)=Ez ns h (Z+i):=by intro i n hi;unfold Ez;rw[MF.2 (by omega:Z<=Z+i)];simp only[h_,b4_,hi];rw[h5 n<|o_ hi]
 have L:∀n,n<Z->(n∈ns\/n∈Ab8 ns h args)->Ez ns h' n=Ez ns h n:=by
  intro n E hm;unfold Ez;cases hb:aO Z n with
  |true=>have:=MF.1 hb;omega
  |false=>
   cases F:has ns n with
   |true=>rfl
   |false=>simp only[g_];rw[hh n (by rcases hm with hm|hm<;>simp[hm])]
 have W:∀I:aF,QX I (Ez ns h') ns.length e=QX I (Ez ns h) ns.length e:=by
  intro I;unfold QX;cases hb:aH e.length I.tm.length&&aH ns.length I.hp.length&&WT Z _ with
  |false=>rfl
  |true=>
   simp only[a_,AD]at hb;obtain⟨⟨hv,ht⟩,hj⟩:=hb;have hl:∀l:List _,(Ay l).length=l.length:=by intro l;induction l with|nil=>rfl|cons p t ih=>simp[Ay,ih]
   have e1:Ig (Ez ns h') (Iy 0<|e.map Sv.p) I.tm=Ig (Ez ns h) (Iy 0<|e.map Sv.p) I.tm:=by
    refine Aic (λk x hk c F n E=>?_) I.tm;rw[Ye]at hk;simp at hk;have hx:=o_ hk;obtain⟨m1,m2⟩:=CH _ _ A;obtain⟨i,hi⟩:=c9_.1 hx;have h0:i<args.length:=by have:=(f_.1 hi).1;omega
    obtain⟨z,hz,r⟩:=m2 i _<|i_ h0;rw[hi]at hz;cases hz;have hs:(∃R∈(args[i]).cells,n∈R.ows)/\n<Z/\n∉ns:=by
     generalize args[i]=u at r;cases u with
     |one R=>
      simp only[Pv.ren]at r;split at r
      .rename_i c1 h9;cases r;simp[aY]at F;subst F;obtain⟨q1,q2⟩:=Avc h9 n E;exact⟨⟨R,by simp[aY],q1⟩,q2⟩
      .cases r
     |agg cs=>
      simp only[Pv.ren]at r;split at r
      .rename_i hr B;cases r;exact Arv B c F n E
      .cases r
    obtain⟨⟨R,k1,k2⟩,k3,k4⟩:=hs;refine L n k3<|.inr ?_;exact n_.2<|.inl<|c0_.2 ⟨args[i],a4_ h0,c0_.2 ⟨R,k1,k2⟩⟩
   have e2:Kh (Ez ns h') I.hp=Kh (Ez ns h) I.hp:=by
    refine Aib I.hp λn E=>?_;obtain⟨i,hi⟩:=c9_.1 E;have h8:=Wn hj i n hi;have Y:i<ns.length:=by have:=(f_.1 hi).1;rw[hl]at this;omega
    have h4:=i_ Y;subst h8;refine⟨h6 i _ h4,λcs q c F n E=>?_⟩;unfold Ez at q;rw[MF.2 (by omega:Z<=Z+i)]at q;simp only[ b4_,h4]at q;unfold Ank at q;split at q
    .rename_i hw X;split at q
     .rename_i hr B;cases q;obtain⟨⟨R,k1,k2⟩,k3,k4⟩:=Arv B c F n E;refine L n k3<|.inr ?_;refine n_.2<|.inr<|c0_.2 ⟨ns[i],a4_ Y,?_⟩;rw[X];exact c0_.2 ⟨R,k1,k2⟩
     .cases q
    .cases q
   rw[e1,e2]
 simp only[aI,aQ,A,h7];rw[Aie (by rw[h3]) l W];exact h2
def Hj(h:Nat->Option (aB G.T)):Cv G.T->Option (Cv G.T)
 |.sc v=>C<|.sc v
 |.ro t l=>C<|.ro t l
 |.own m=>match h m with|some (.row t l)=>C (.ro t l)|_=>N
 |_=>N
def Ab5(h:Nat->Option (aB G.T))(n ty:Nat):Option<|G.T ty:=match h n with
 |some (.cells cs)=>match Dc (Hj h) cs with|some a=>bif aH a.length (G.sz ty)then G.dec ty a else N|none=>N
 |_=>N
def UB(h:Nat->Option (aB G.T))(n:Nat):List Nat:=match h n with
 |some (.cells cs)=>cs.flatMap Cv.ows
 |_=>[]
def RE:List (Nat×Fe G)->Nat->Option Nat
 |[],_=>N
 |p::r,g=>bif aH p.1 g then match p.2.I.tm with
   |[(_,.one<|.rp ty 0)]=>C ty
   |_=>RE r g
  else RE r g
def Ya(G:aC):List (Nat×Option (aB G.T))->Bool
 |[]=>J
 |(_,C<|.row t _)::r=>G.flat t&&Ya G r
 |_::_=>U
def Axa{T:Nat->Type}:Option (Sv T)->Bool
 |some s=>s.cells.all SV
 |none=>J
def Anw(l:List<|Nat×Fe G)(ty n g:Nat)(h:Nat->Option (aB G.T))(nm:Nat):M<|aA G:=aI (aQ<|Ab5 h n ty) λx=>aI (cfP l g [.one<|.rp ty x 0] (λ_=>N) nm) λout=>aI (aN<|Axa out.v&&Ya G out.d) λ_=>aG ⟨out.v,out.d,out.nw,n::UB h n⟩
def cfQ(l:List<|Nat×Fe G):Ch G:=λg args h nm=>match args with
 |[.one<|.ptr n 0]=>match RE l g with
  |some ty=>Anw l ty n g h nm
  |none=>cfP l g args h nm
 |_=>cfP l g args h nm
def Apa{g nm:Nat}{args:List<|Pv G.T}(e:¬∃n ty,args=[.one<|.ptr n 0]/\RE l g=C ty):cfQ l g args h nm=cfP l g args h nm:=by
 unfold cfQ;split
 .split
  .rename_i n _ ty a;exact absurd ⟨n,ty,rfl,a⟩ e
  .rfl
 .rfl
def Ai3{g nm ty:Nat}(a:RE l g=C ty):cfQ l g [.one<|.ptr n 0] h nm=Anw l ty n g h nm:=by unfold cfQ;simp only[a]
def Aq2{h':Nat->Option (aB G.T)}(hh:∀m∈c.ows,h' m=h m):Hj h' c=Hj h c:=by
 cases c with
 |own m=>simp only[Hj];rw[hh m (by simp[Cv.ows])]
 |_=>rfl
def Zc{h h':Nat->Option (aB G.T)}:∀{cs:List<|Cv G.T},(∀m∈cs.flatMap Cv.ows,h' m=h m)->Dc (Hj h') cs=Dc (Hj h) cs
 |[],_=>rfl
 |c::t,hh=>by simp only[a2_,n_]at hh;simp only[Dc];rw[Aq2 λm hm=>hh m<|.inl hm,Zc λm hm=>hh m<|.inr hm]
def Ag7{ty g nm:Nat}{out:aA G}(e:Anw l ty n g h nm (aA G) C=C out):
  ∃x out1,Ab5 h n ty=C x/\cfP l g [.one<|.rp ty x 0] (λ_=>N) nm (aA G) C=C out1/\Axa out1.v=J/\Ya G out1.d=J/\out=⟨out1.v,out1.d,out1.nw,n::UB h n⟩:=by
 obtain⟨x,y,h1⟩:=aK e;have hl:Law<|cfP l g [.one<|.rp ty x 0] (λ_=>N) nm:=Ad (AT _) λ_=>Ad (An _) λ_=>Aeu _ _ _ _ _ _ _;obtain⟨out1,q,r⟩:=hl.spec h1;obtain⟨hf,a⟩:=aJ r;rw[a_]at hf;simp[aG]at a;exact⟨x,out1,y,q,hf.1,hf.2,a.symm⟩
def WM(l:List<|Nat×Fe G):Abm<|cfQ l:=by
 intro g args h h' nm out a hh;by_cases r:∃n ty,args=[.one<|.ptr n 0]/\RE l g=C ty
 .obtain⟨n,ty,rfl,q⟩:=r;rw[Ai3 q]at a|-;obtain⟨x,out1,A,_,_,_,rfl⟩:=Ag7 a;have h1:=hh n σ;have e:Ab5 h' n ty=Ab5 h n ty:=by
   unfold Ab5;rw[h1];cases y:h n with
   |none=>rfl
   |some k=>
    cases k with
    |row=>rfl
    |cells cs=>
     have:∀m∈cs.flatMap Cv.ows,h' m=h m:=λm hm=>hh m (by
      have:UB h n=cs.flatMap Cv.ows:=by unfold UB;rw[y]
      rw[this];simp[hm])
     simp only[Zc this]
  have z:UB h' n=UB h n:=by unfold UB;rw[h1]
  unfold Anw at a|-;rw[e,z];exact a
 .rw[Apa r]at a|-;exact Bjl l g args h h' nm out a hh
def Axb{s:Sv G.T}{S S':Nat->Prop}{h:Array Obj}(hf:Axa (C s)=J)(r:Rs G ν S h s v):Rs G ν S' h s v:=Avi (λc a=>F_.1 hf c a) r
def Agn:∀{d:List<|Nat×Option (aB G.T)}{h:Nat->Option (aB G.T)}{n:Nat}{k:aB G.T},Ya G d=J->n∈Cb d->By h d n=C k->∃t l,k=.row t l/\G.flat t=J
 |[],_,_,_,_,a,_=>by simp[Cb]at a
 |(m,q)::t,h,n,k,hf,a,e=>by
  cases q with
  |none=>simp[Ya]at hf
  |some q=>
   cases q with
   |cells cs=>simp[Ya]at hf
   |row u l=>
    simp only[Ya,a_]at hf;simp only[By]at e;by_cases r:n∈Cb t
    .exact Agn hf.2 r e
    .rw[KG t _ n r]at e;simp only[Cb,x_]at a;have a:n=m:=a.resolve_right r;subst a;simp at e;exact⟨u,l,e.symm,hf.1⟩
def Bgu(ok:aP P G){S S':Nat->Prop}{h:Array Obj}{t:Nat}{l:List<|G.T t}(hf:G.flat t=J)(r:Rb G ν S h n<|.row t l):Rb G ν S' h n<|.row t l:=by
 rcases r with r|⟨b,a,c,te,h1,F,I,B,E,z⟩
 .exact .inl r
 .refine .inr ⟨b,a,c,te,h1,F,I,B,λi j x q L e=>?_,z⟩;obtain⟨v,A,R⟩:=E i j x q L e;refine⟨v,A,?_⟩;obtain⟨u,rfl⟩:=ok.flatd t x q hf<|o_ e;cases R with
  |sc _ y=>exact .sc _ y
def Bkc{S S2 B:Nat->Prop}{w:World}(X:HRel G ν S B h w)(F:∀b,S b->S2 b){L:Cv G.T}(q:Hj h c=C L)(A:Rc G ν S w.heap c v)
  (W:∀m∈c.ows,∀z b,ν m=C z->AO z=C b->S2 b):Rd G S2 w.heap L v:=by
 cases c with
 |sc u=>simp[Hj]at q;subst q;exact Rd.mono F (λ_ _=>rfl) A
 |ro t l=>simp[Hj]at q;subst q;exact Rd.mono F (λ_ _=>rfl) A
 |own m=>
  simp only[Hj]at q;split at q
  .rename_i t l hm;simp at q;subst q;obtain⟨a,len,h0,e,rfl⟩:=A;rcases X.blk m _ hm with⟨h1,rfl⟩|⟨b,r,c,te,h1,h2,h3,h4,R,h6⟩
   .rw[h1]at e;have e:=r_ e;rw[<-e];exact .nil t N 0
   .rw[h1]at e;have e:=r_ e;rw[<-e];have y:∀i j,i<l.length->j<G.sz t->c[0+i*G.sz t+j]?=C (c.getD _ undef):=λi j hi hj=>by
     have:0+i*G.sz t+j<c.size:=by
      have h7:(i+1)*G.sz t<=r*G.sz t:=K_ _ ω;have h8:(i+1)*G.sz t=i*G.sz t+G.sz t:=by rw[a5_,bA]
      omega
     rw[ y_,b5_ this];rfl
    refine .ro t l b 0 r c te (0,0) _ (W m (by simp[Cv.ows]) _ b h1 rfl) h2 (.inl h6.1) h3 y λi j x cv hx E=>?_;obtain⟨u,Y,I⟩:=R i j x cv hx E
    have:c.getD (0+i*G.sz t+j) undef=u:=by rw[m_,y_,Y];rfl
    rw[this];exact Rd.mono F (λ_ _=>rfl) I
  .cases q
 |_=>simp[Hj]at q
def Mb(ok:aP P G)(hT:∀p∈l,Dq P G p.1 p.2):CfOK P G<|cfQ l:=by
 have hP:=Bnw ok hT;refine⟨λg args h nm=>?_,λg args h nm out hout=>?_⟩
 .by_cases hn:∃n ty,args=[.one<|.ptr n 0]/\RE l g=C ty
  .obtain⟨n,ty,rfl,h7⟩:=hn;rw[Ai3 h7];exact Ad (AT _) λ_=>Ad (hP.law _ _ _ _) λ_=>Ad (An _) λ_=>Af _
  .rw[Apa hn];exact hP.law _ _ _ _
 by_cases hn:∃n ty,args=[.one<|.ptr n 0]/\RE l g=C ty
 .obtain⟨n,ty,rfl,h7⟩:=hn;rw[Ai3 h7]at hout;obtain⟨x,out1,F,hp,x6,xf,rfl⟩:=Ag7 hout;obtain⟨x2,hh⟩:=hP.calls _ _ _ _ _ hp;refine⟨x2,λν S B w xl I hB xc ha=>?_⟩;unfold Ab5 at F;cases R:h n with
  |none=>rw[R]at F;simp at F
  |some k=>
  cases k with
  |row t l=>rw[R]at F;simp at F
  |cells cs=>
  rw[R]at F;simp only at F;cases h8:Dc _ cs with
  |none=>rw[h8]at F;simp at F
  |some x7=>
  rw[h8]at F;simp only at F;cases h3:aH x7.length _ with
  |false=>rw[h3]at F;simp at F
  |true=>
  rw[h3]at F;have h3:=AD.1 h3;have xd:=ok.encdec ty x7 x F;obtain⟨xm,x5⟩:=CH _ _ h8;obtain⟨v,t,rfl,hv,ht⟩:=ha.inv;have ht:=ht.inv_nil;subst ht;cases hv with
  |one _ _ hv=>
  obtain⟨b,x4,rfl⟩:=hv;obtain⟨b',c,te,X,q2,q3,_⟩:=I.blk n _ R;rw[x4]at X;have X:=r_ X;obtain rfl:b=b':=by injection X with X;injection X with X;injection X
  have h4:∀m z c,h m≠N->ν m=C z->AO z=C c->c<w.heap.size:=λm z c hm r hc=>by
   cases a:h m with
   |none=>exact absurd a hm
   |some k=>
    have hb:=I.blk m k a;cases k with
    |cells cs=>
     obtain⟨b1,c1,h5,r1,r2,_⟩:=hb;rw[r]at r1;have r1:=r_ r1;subst r1
     have:b1=c:=by simpa[AO]using hc
     subst this;exact(I_.1 r2).1
    |row t l=>
     rcases hb with⟨r1,_⟩|⟨b1,xj,c1,h5,r1,r2,_⟩
     .rw[r]at r1;have r1:=r_ r1;subst r1;simp[AO]at hc
     .rw[r]at r1;have r1:=r_ r1;subst r1
      have:b1=c:=by simpa[AO]using hc
      subst this;exact(I_.1 r2).1
  let S2:Nat->Prop:=λq=>S q\/∃m z,h m≠N/\ν m=C z/\AO z=C q
  have x1:∀q,S q->S2 q:=λq hq=>.inl hq;have x0:∀m,m∈cs.flatMap Cv.ows->h m≠N:=λm hm=>by obtain⟨c1,xg,hw⟩:=c0_.1 hm;obtain⟨i,hi⟩:=List.getElem?_of_mem xg;obtain⟨y,_,hy⟩:=x5 i c1 hi;cases c1<;>simp[Cv.ows]at hw;subst hw;intro xa;simp[Hj,xa]at hy
  have xe:Rd G S2 w.heap (.rp ty x 0)<|.pointer<|C ⟨b,0,N⟩:=by
   refine .rp ty x 0 b 0 c te (0,0) (λj=>c.getD (0+j) undef) (.inr ⟨n,_,by rw[R];simp,x4,rfl⟩) q2 (λj hj=>?_) λj cv h6=>?_
   .have:0+j<c.size:=by have h9:cs.length=c.size:=(by have h9:=q3.1;rwa [Array.length_toList]at h9);omega
    rw[ y_,b5_ this];rfl
   .rw[xd]at h6;have hj:j<cs.length:=by have:=(f_.1 h6).1;omega
    obtain⟨y,h0,xb⟩:=x5 j _<|i_ hj;rw[h6]at h0;have h0:=r_ h0;subst h0;obtain⟨u,hu⟩:∃u,c.toList[j]?=C u:=⟨_,i_ (by rw[<-q3.1];exact hj)⟩
    have xk:=q3.2 j _ u (i_ hj) hu
    have:c.getD (0+j) undef=u:=by rw[m_,y_];rw[Array.getElem?_toList]at hu;rw[hu];rfl
    simp only[this];exact Bkc I x1 xb xk λm hm z q r hq=>.inr ⟨m,z,x0 m<|c0_.2 ⟨_,a4_ hj,hm⟩,r,hq⟩
  have x8:∀q,S2 q->q<w.heap.size:=λq hq=>by
   rcases hq with hq|⟨m,z,X,q2,q3⟩
   .exact I.stay q hq
   .exact h4 m z q X q2 q3
  have xi:HRel G ν S2 (λq=>w.heap.size<=q) _ w:={
   blk:=λm k a=>(by cases a)
   apart:=λW E y z q a=>absurd rfl a
   own:=λm y q a=>absurd rfl a
   stay:=x8
   gl:=I.gl.mono x1 λ_ _=>rfl }
  refine(hh ν S2 _ w _ xi (λq hq=>hq) xc<|aU (.one _ _ xe) .nil).mono λe w' ⟨v',ν',S',he,p⟩=>⟨v',ν',S,he,?_⟩
  have L:=λq hq=>p.frame q hq λm _ hm=>absurd rfl hm;have le:Le ν ν' S S w.heap w'.heap:=⟨p.nu,λ_ h=>h,λq hq=>L q<|I.stay q hq⟩
  have hin:∀m,m∈Cb out1.d->By h out1.d m=By (λ_=>N) out1.d m:=λm hm=>WJ _ _ _ _<|.inr hm;have A:∀m z,h m≠N->ν' m=C z->ν m=C z:=λm z hm r=>by
   cases a:h m with
   |none=>exact absurd a hm
   |some k=>
    have hb:=I.blk m k a;cases k with
    |cells cs=>obtain⟨b1,c1,h5,r1,_⟩:=hb;rw[p.nu _ _ r1]at r;rw[r1];exact r
    |row t l=>rcases hb with⟨r1,_⟩|⟨b1,xj,c1,h5,r1,_⟩<;>(rw[p.nu _ _ r1]at r;rw[r1];exact r)
  refine⟨p.nu,p.new,λ_ h=>h,λ_ h=>.inl h,⟨λm k a=>?_,λW E y z q h1 Y hy r e1 e2=>?_,λm y q hm hy e=>?_,λq hq=>?_,I.gl.mono (λ_ h=>h) λq hq=>L q<|I.stay q hq⟩,λs hs=>?_,p.size,λq hq _=>L q hq,p.env⟩
  .by_cases hm:m∈Cb out1.d
   .have x3:=a;rw[hin m hm]at x3;have hb:=p.rel.blk m k x3;obtain⟨t,l,rfl,x9⟩:=Agn xf hm a;exact Bgu ok x9 hb
   .simp only at a;rw[KG _ _ _ hm]at a;exact(I.blk m k a).mono le λz q r hq=>L q<|h4 m z q (by rw[a];simp) r hq
  .by_cases i1:W∈Cb out1.d
   .rw[show By h out1.d W=_ from hin W i1]at h1;by_cases i2:E∈Cb out1.d
    .rw[show By h out1.d E=_ from hin E i2]at Y;exact p.rel.apart W E y z q h1 Y hy r e1 e2
    .rw[show By h out1.d E=_ from KG _ _ _ i2]at Y;have g1:=(p.rel.own W y q h1 hy e1).2;have g2:=h4 E z q Y (A E z Y r) e2;omega
   .rw[show By h out1.d W=_ from KG _ _ _ i1]at h1;by_cases i2:E∈Cb out1.d
    .rw[show By h out1.d E=_ from hin E i2]at Y;have g1:=(p.rel.own E z q Y r e2).2;have g2:=h4 W y q h1 (A W y h1 hy) e1;omega
    .rw[show By h out1.d E=_ from KG _ _ _ i2]at Y;exact I.apart W E y z q h1 Y (A W y h1 hy) (A E z Y r) e1 e2
  .by_cases i1:m∈Cb out1.d
   .rw[show By h out1.d m=_ from hin m i1]at hm;have g1:=(p.rel.own m y q hm hy e).2;exact⟨λhS=>by have:=I.stay q hS;omega,hB q g1⟩
   .rw[show By h out1.d m=_ from KG _ _ _ i1]at hm;exact I.own m y q hm (A m y hm hy) e
  .have:=I.stay q hq
   have:=p.size
   omega
  .have hs:=hs;rw[hs]at x6;exact Axb x6<|p.val s hs
 .rw[Apa hn]at hout;exact hP.calls _ _ _ _ _ hout
def Uj(cf:Ch G)(lp:Nat->V G->M (Ex×V G))(jn:Nat->Option (List<|Ex×aF))(nt:Nat)(a:Code)(I:aF)(E:List<|Ex×aF)(x:I.T G):Option<|Ev G E:=CA cf nt (Ui cf nt) lp (λ_=>[]) jn 0 a (I.mk' x) _ λp=>Hu E p.1 p.2
def Afc(cf:Ch G)(lp:Nat->V G->M (Ex×V G))(jn:Nat->Option (List<|Ex×aF))(nt:Nat)(n:Nat)(a:Code)(S:aF)(E:List<|Ex×aF)(x:S.T G):Option<|Sum (S.T G)<|Ev G E:=RH S E (CA cf nt (Ui cf nt) lp (λ_=>[]) jn n a) x
def Db:Nat:=18446744073709551616
@[reducible] def lp{F X Y:Type}[Ur F X Y][Un X F<|Option<|Sum X Y](f:F):X->Option Y:=iter (Un.u f) Db
def Bf(f:Func):Code:=f.body.getD .skip
def Px(c:Code)(n:Nat):Code:=(Bl c)[n]?.getD .skip
section
variable{P:Program}(ok:aP P G)(eqok:EqOK P G)(hm:P.follows .mixedOrders=J){l:List (Nat×Fe G)}(hl:∀p∈l,Dq P G p.1 p.2){lp:Nat->V G->M (Ex×V G)}{jn:Nat->Option (List (Ex×aF))}
include ok eqok hm hl in
theorem Bke{nt k:Nat}{c:Code}(S:aF)(E:List<|Ex×aF)(R:S.T G->Option (Sum (S.T G)<|Ev G E))(e:lp k=lpX S E (iter R Db))(hin:∀(k:Nat) a,(Bl c)[k]?=C a->aM P G nt (lp<|n+k) a)
  (q:∀x,Afc (cfQ l) lp jn nt n c S E x=R x):aM P G nt (lp k) c:=by
 rw[e];exact Bph ok eqok (Mb ok hl) (Ry ok eqok (Mb ok hl) (WM l) hm) hin λx _ h=>⟨Db,by rw[show RH S E _=R from funext q];exact h⟩
include ok eqok hm hl in
theorem Bsk {g : Nat} {fn : Func} (z : P.funcs[g]? = C fn) (q : (fn.name == "runtime.NumGoroutine") = U) (a : fn.body = C (Bf fn)) {e : Fe G} (A : fn.results.toList = e.rs) (r : aO e.I.tm.length fn.ntmps = J)
  (y:∀(k:Nat) B,(Bl<|Bf fn)[k]?=C B->aM P G fn.ntmps (lp k) B) (L:∀x,Uj (cfQ l) lp jn fn.ntmps (Bf fn) e.I e.E x=e.F x):Dq P G g e:=
 Ada ok eqok (Mb ok hl) z q a A (MF.1 r) (Ry ok eqok (Mb ok hl) (WM l) hm) y λx _ h=>(L x).trans h
end
def II(Q:Nat->Code->Prop)(n:Nat)(l:List Code):Prop:=∀(k:Nat) a,l[k]?=C a->Q (n+k) a
def CC:II Q n []:=λk a h'=>by simp at h'
def AM{t:List Code}{c:Code}(h0:Q n c)(e:II Q (n+1) t):II Q n<|c::t:=λk a h'=>by
 cases k with
 |zero=>simp at h';subst h';exact h0
 |succ k=>have:=e k a (by simpa using h');rwa [show n+(k+1)=n+1+k by omega]
def Aos{l:List Code}(a:List Code)(h:l=a)(h':II Q n a):II Q n l:=h▸h'
def Afr{l:List Code}(h:II Q 0 l):∀(k:Nat) a,l[k]?=C a->Q k a:=λk a e=>by have:=h k a e;rwa [m_]at this
end Go.Ab
namespace Go.Ab
variable{G:aC}
structure Ctx(P:Program)(G:Sig):Prop where
 ok:SigOK P G
 eqok:EqOK P G
 hm:P.follows .mixedOrders=true
def Ae1:aD:=.one<|.int .u64
def ob:aD:=.one .bool
def os:aD:=.one .str
def op(n:Nat):aD:=.one<|.ptr n 0
def oro(t:Nat):aD:=.one<|.ro t
abbrev Sp:=aF
abbrev SL:=List (Ex×aF)
def jl(l:List<|Nat×SL):Nat->Option SL:=λn=>O l n
def lf:V G->M (Ex×V G):=λ_=>aR
def pl:List (V G->M (Ex×V G))->Nat->V G->M (Ex×V G)
 |[],_=>lf
 |a::_,0=>a
 |_::t,n+1=>pl t n
inductive Sk where
 |i (k:IntKind)|b|s|f (k:FloatKind)|l (t:Nat)
def Sk.T(T:Nat->Type):Sk->Type
 |.i _=>Int
 |.b=>Bool
 |.s=>ByteArray
 |.f _=>Nat
 |.l t=>List<|T t
def SkL(T:Nat->Type):List Sk->Type
 |[]=>Unit
 |a::t=>a.T T×SkL T t
def Anm(T:Nat->Type)(t a:Nat)(l:List<|T t):Option<|List<|T a:=if h:t=a then C (h▸l)else N
def Awn{T:Nat->Type}{t a:Nat}{l:List<|T t}{q:List<|T a}(h:Anm T t a l=C q):∃e:t=a,e▸l=q:=by
 unfold Anm at h;split at h
 .rename_i e;simp at h;exact⟨e,h⟩
 .simp at h
def Sk.enc{T:Nat->Type}:(a:Sk)->a.T T->Cv T
 |.i k,n=>.sc<|.int k n
 |.b,x=>.sc<|.bool x
 |.s,x=>.sc<|.string x
 |.f k,n=>.sc<|.float k n
 |.l t,x=>.ro t x
def Sk.dec{T:Nat->Type}:(a:Sk)->Cv T->Option (a.T T)
 |.i k,.sc (.int k' n)=>bif Ei k k' then C n else N
 |.b,.sc (.bool x)=>C x
 |.s,.sc (.string x)=>C x
 |.f k,.sc (.float k' n)=>bif Pr k k' then C n else N
 |.l t,.ro e x=>Anm T e t x
 |_,_=>N
def Ob{T:Nat->Type}:(l:List Sk)->SkL T l->List (Cv T)
 |[],_=>[]
 |a::t,x=>a.enc x.1::Ob t x.2
def Apt{T:Nat->Type}:(l:List Sk)->List (Cv T)->Option (SkL T l)
 |[],[]=>C ()
 |a::t,c::cs=>match a.dec c,Apt t cs with
  |some x,C y=>C (x,y)
  |_,_=>N
 |_,_=>N
def Sk.dec_ok{T:Nat->Type}{a:Sk}{c:Cv T}{x:a.T T}(h:a.dec c=C x):a.enc x=c:=by
 cases a with
 |i k=>
  cases c with
  |sc v=>
   cases v with
   |int k' n=>
    have h:(bif Ei k k' then C n else N)=C x:=h;have e:k=k':=by cases k<;>cases k'<;>first|rfl|(simp[Ei]at h)
    subst e;have e:Ei k k=J:=by cases k<;>rfl
    rw[e]at h;cases h;rfl
   |_=>cases h
  |_=>cases h
 |b=>
  cases c with
  |sc v=>
   cases v with
   |bool y=>cases h;rfl
   |_=>cases h
  |_=>cases h
 |s=>
  cases c with
  |sc v=>
   cases v with
   |string y=>cases h;rfl
   |_=>cases h
  |_=>cases h
 |f k=>
  cases c with
  |sc v=>
   cases v with
   |float k' n=>
    have h:(bif Pr k k' then C n else N)=C x:=h;have e:k=k':=by cases k<;>cases k'<;>first|rfl|(simp[Pr]at h)
    subst e;have e:Pr k k=J:=by cases k<;>rfl
    rw[e]at h;cases h;rfl
   |_=>cases h
  |_=>cases h
 |l t=>
  cases c with
  |ro q y=>obtain⟨rfl,rfl⟩:=Awn (show Anm T q t y=C x from h);rfl
  |_=>cases h
def Auh{T:Nat->Type}:∀{l:List Sk}{cs:List<|Cv T}{x:SkL T l},Apt l cs=C x->Ob l x=cs
 |[],[],_,_=>rfl
 |a::t,c::cs,x,h=>by
  simp only[Apt]at h;split at h
  .rename_i y z e q;cases h;simp only[Ob,Sk.dec_ok e,Auh q]
  .cases h
section
variable{P:Program}
def tn:∀p∈([]:List<|Nat×Fe G),Dq P G p.1 p.2:=λ_ h=>absurd h<|g3_
def tc{g:Nat}{e:Fe G}{l:List<|Nat×Fe G}(h:Dq P G g e)(t:∀p∈l,Dq P G p.1 p.2):∀p∈(g,e)::l,Dq P G p.1 p.2:=List.forall_mem_cons.2 ⟨h,t⟩
def an0{Q:Nat->Code->Prop}{n:Nat}{l:List Code}(h:l=[]):II Q n l:=h▸CC
variable(cx:Ctx P G){l:List (Nat×Fe G)}(hl:∀p∈l,Dq P G p.1 p.2)(jn:Nat->Option SL){lp:Nat->V G->M (Ex×V G)}
include cx hl in
theorem lk(n:Nat){nt k:Nat}{c:Code}(S:aF)(E:SL){L:S.T G->Option (Ev G E)}{R:S.T G->Option (Sum (S.T G)<|Ev G E)}(a:L=iter R Db)(e:lp k=lpX S E L)(hin:II (λk c=>aM P G nt (lp k) c) n<|Bl c)
  (q:∀x,Afc (cfQ l) lp jn nt n c S E x=R x):aM P G nt (lp k) c:=
 Bke cx.ok cx.eqok cx.hm hl S E R (a▸e) hin q
include cx hl in
theorem fk {g : Nat} {fn : Func} (r : P.funcs[g]? = C fn) {e : Fe G} (z : (!(fn.name == "runtime.NumGoroutine") && aO e.I.tm.length fn.ntmps) = J) (a : fn.body = C (Bf fn)) (y : fn.results.toList = e.rs)
  (q:II (λk c=>aM P G fn.ntmps (lp k) c) 0<|Bl<|Bf fn) (A:∀x,Uj (cfQ l) lp jn fn.ntmps (Bf fn) e.I e.E x=e.F x):Dq P G g e:=by
 rw[a_,b2_]at z;exact Bsk cx.ok cx.eqok cx.hm hl r z.1 a y z.2 (Afr q) A
end
end Go.Ab
namespace Go.Ab
structure TyD where
 A:Type
 d:A
def Axm:List (Nat×TyD)->Nat->TyD
 |[],_=>⟨Unit,()⟩
 |p::r,t=>bif aH p.1 t then p.2 else Axm r t
@[reducible] def TOf(tys:List<|Nat×TyD)(t:Nat):Type:=(Axm tys t).A
structure Ent(T:Nat->Type)(t:Nat) where
 ty:Ty
 sz:Nat
 zero:List Value
 enc:T t->List (Cv T)
 dec:List (Cv T)->Option (T t)
 flat:Bool
structure Ent1(T:Nat->Type) where
 t:Nat
 e:Ent T t
def Anz(T:Nat->Type)(t:Nat):Ent T t:=⟨.no,0,[],λ_=>[],λ_=>N,U⟩
def MI{T:Nat->Type}:List (Ent1 T)->(t:Nat)->Ent T t
 |[],t=>Anz T t
 |p::r,t=>if h:p.t=t then h▸p.e else MI r t
def QQ(tys:List<|Nat×TyD)(l:List<|Ent1<|TOf tys)(gl:Nat->Option ((t:Nat)×TOf tys t):=λ_=>N)(ext:Nat->Nat:=λ_=>0)(loose:Nat->Bool:=λ_=>J):aC:=
 {T:=TOf tys
  ty:=λt=>(MI l t).ty
  sz:=λt=>(MI l t).sz
  zero:=λt=>(MI l t).zero
  enc:=λt=>(MI l t).enc
  dec:=λt=>(MI l t).dec
  dfl:=λt=>(Axm tys t).d
  flat:=λt=>(MI l t).flat
  gl:=gl
  ext:=ext
  loose:=loose }
def Aw7:List (Nat×Nat)->Nat->Nat
 |[],_=>0
 |p::r,g=>bif aH p.1 g then p.2 else Aw7 r g
def plain(T:Nat->Type)(t:Nat)(ty:Ty)(sz:Nat)(zero:List Value):Ent1 T:=⟨t,⟨ty,sz,zero,λ_=>[],λ_=>N,U⟩⟩
variable{P:Program}
def Bef(P:Program)(G:aC)(t:Nat):Ty->Prop
 |.no=>True
 |.bool=>P.underlying t=C .bool
 |.int k=>P.underlying t=C (.int k)
 |.flt k=>P.underlying t=C (.float k)
 |.str=>P.underlying t=C .string
 |.sl e=>P.underlying t=C (.slice e)/\Oc (G.ty e)=U/\(∃i,P.info? e=C i/\aO i.bytes 4096=J)/\∀x,(G.enc e x).length=G.sz e
 |.pt e=>P.underlying t=C (.pointer e)
 |.fn=>∃a b c,P.underlying t=C (.func a b c)
 |.st r=>∃q,P.underlying t=C (.struct q)/\q.toList.map (λf=>(f.offset,f.type))=r/\r.all (λp=>!Oc (G.ty p.2))=J
 |.arr n e=>P.underlying t=C (.array n e)/\Oc (G.ty e)=U
def Aaj{T:Nat->Type}:Cv T->Bool
 |.sc _|.ro _ _=>J
 |_=>U
def Ag0{T:Nat->Type}:Cv T->Bool
 |.sc _=>J
 |_=>U
structure EntOK(P:Program)(G:Sig)(t:Nat)(e:Ent G.T t):Prop where
 ty:Bef P G t e.ty
 info:e.ty≠ .no->∃i z,P.info? t=some i/\i.size=e.sz/\i.zero=some z/\z.cells.toList=e.zero
 pos:e.ty≠ .no->Nat.ble 1 e.sz=true
 nosz:e.ty=.no->e.sz=0
 zsc:e.zero.all Kc=true
 zlen:e.zero.length=e.sz
 encl:∀x,(e.enc x).length<=e.sz
 encdec:∀cs x,e.dec cs=some x->e.enc x=cs
 encd:∀x,(e.enc x).all Aaj=true
 flatd:e.flat=true->∀x,(e.enc x).all Ag0=true
 u8d:∀x y,(e.enc x).map u8C=(e.enc y).map u8C
 rod:∀x y,(e.enc x).map roC=(e.enc y).map roC
def Be7{G:aC}(t:Nat):EntOK P G t<|Anz G.T t:=⟨trivial,λh=>absurd rfl h,λh=>absurd rfl h,λ_=>rfl,rfl,rfl,λ_=>q_ _,λcs x h=>by simp[Anz]at h,λ_=>rfl,λ_ _=>rfl,λ_ _=>rfl,λ_ _=>rfl⟩
def Vr{T:Nat->Type}{Q:(t:Nat)->Ent T t->Prop}(h0:∀t,Q t<|Anz T t):∀{l:List<|Ent1 T},(∀p∈l,Q p.t p.e)->∀t,Q t<|MI l t
 |[],_,t=>h0 t
 |p::r,h,t=>by
  unfold MI;split
  .rename_i e;subst e;exact h p σ
  .exact Vr h0 (λq hq=>h q (by simp[hq])) t
def Yl{y:Ty}(h:Oc y=U):y≠ .no:=by intro e;subst e;simp[Oc]at h
def Ap5{P:Program}:∀{l:List<|Nat×Nat},(∀p∈l,Bhf P p.1<|Bfc p.2)->Avn P (Aw7 l)
 |[],_,g,h=>absurd rfl h
 |p::r,h,g,hg=>by
  unfold Aw7 at hg|-;cases a:aH p.1 g with
  |true=>rw[h_];rw[<-AD.1 a];exact h p σ
  |false=>rw[a,g_]at hg;rw[g_];exact Ap5 (λq hq=>h q (by simp[hq])) g hg
def Bgz{tys:List<|Nat×TyD}{l:List<|Ent1<|TOf tys}{gl:Nat->Option ((t:Nat)×TOf tys t)}{ext:Nat->Nat}{loose:Nat->Bool}(h:∀p∈l,EntOK P (QQ tys l gl ext loose) p.t p.e)(W:Avn P ext):aP P<|QQ tys l gl ext loose:=by
 have q:∀t,EntOK P (QQ tys l gl ext loose) t<|MI l t:=Vr (T:=TOf tys) (Q:=λt e=>EntOK P (QQ tys l gl ext loose) t e) (λt=>Be7 t) h;have a:∀t,Bef P (QQ tys l gl ext loose) t<|(QQ tys l gl ext loose).ty t:=λt=>(q t).ty;refine⟨λt e=>?_,λt k e=>?_,λt k e=>?_,λt e=>?_,λt e y=>?_,λt e y=>?_,λt e=>?_,λt Y e=>?_,λt n e y=>?_,λt=>(q t).info,λt X=>?_,λt=>(q t).nosz,λt v I=>?_,λt=>(q t).zlen,λt=>(q t).encl,λt=>(q t).encdec,λt x c A=>?_,λt x c hf A=>?_,λt=>(q t).u8d,λt=>(q t).rod,W⟩
 .have:=a t;rw[e]at this;exact this
 .have:=a t;rw[e]at this;exact this
 .have:=a t;rw[e]at this;exact this
 .have:=a t;rw[e]at this;exact this
 .have:=a t;rw[y]at this
  obtain⟨h1,z,⟨i,B,L⟩,R⟩:=this;exact⟨h1,Yl z,⟨i,B,C_ L⟩,R⟩
 .have:=a t;rw[y]at this;exact this
 .have:=a t;rw[e]at this;exact this
 .have:=a t;rw[e]at this
  obtain⟨r,h1,z,B⟩:=this;refine⟨r,h1,z,λo u E=>Yl ?_⟩
  have:=F_.1 B (o,u) E
  simpa using this
 .have:=a t;rw[y]at this;exact⟨this.1,Yl this.2⟩
 .exact C_<|(q t).pos X
 .exact F_.1 (q t).zsc v I
 .have:=F_.1 ((q t).encd x) c A
  cases c with
  |sc v=>exact .inl ⟨v,rfl⟩
  |ro F l=>exact .inr ⟨F,l,rfl⟩
  |_=>simp[Aaj]at this
 .have:=F_.1 ((q t).flatd hf x) c A
  cases c with
  |sc v=>exact⟨v,rfl⟩
  |_=>simp[Ag0]at this
end Go.Ab
namespace Go.Ab
variable{G:aC}
variable{P:Program}{x:Value}
structure NamesOK(P:Program)(G:Sig):Prop where
 guard:∀t,(G.ty t).isAgg=true->P.eqGuardType P.depth t=false
 held:∀t fs,G.ty t=.st fs->P.stoodInHeld t=false
 name : ∀ t fs, G.ty t = .st fs -> (P.fieldsOf t).toList.all (λf => f.name != "_") = true
def MH:∀{a b:List Nat},Ix a b=J->a=b
 |[],[],_=>rfl
 |[],_::_,h=>by simp[Ix]at h
 |_::_,[],h=>by simp[Ix]at h
 |x::s,y::t,h=>by simp only[Ix,a_]at h;rw[MH h.2,AD.1 h.1]
def Jp{α:Type}(f:α->Nat)(a:List α):(Ds f a).length=a.length:=by
 induction a with
 |nil=>rfl
 |cons x t e=>simp[Ds,e]
def Py{α:Type}(f:α->Nat):∀(xs:List α) (a b:List Nat),Ds f xs=a++b->∃u v,xs=u++v/\Ds f u=a/\Ds f v=b
 |xs,[],b,h=>⟨[],xs,rfl,rfl,h⟩
 |[],_::_,b,h=>by simp[Ds]at h
 |x::xs,k::a,b,h=>by simp only[Ds,aZ,List.cons.injEq]at h;obtain⟨u,v,h1,e,q⟩:=Py f xs a b h.2;exact⟨x::u,v,by rw[h1];rfl,by simp[Ds,h.1,e],q⟩
def Wv{α:Type}:∀(n:Nat) (l a b:List α),ML n l=C a->NG n l=C b->l=a++b/\a.length=n
 |0,l,a,b,h1,e=>by simp[ML]at h1;simp[NG]at e;subst h1;subst e;exact⟨rfl,rfl⟩
 |n+1,[],a,b,h1,e=>by simp[ML]at h1
 |n+1,x::t,a,b,h1,e=>by
  simp only[ML]at h1;split at h1
  .rename_i l hl;simp at h1;subst h1;simp only[NG]at e;obtain⟨r,q⟩:=Wv n t l b hl e;exact⟨by rw[r];rfl,by simp[q]⟩
  .simp at h1
def Wi:∀(a e r z:List Value) (b:Bool),a.length=e.length->Mf (a++r) (e++z)=C b->∃B A,Mf a e=C B/\Mf r z=C A/\b=(B&&A)
 |[],[],r,z,b,_,h=>⟨J,b,rfl,h,σ⟩
 |[],_::_,_,_,_,hl,_=>by simp at hl
 |_::_,[],_,_,_,hl,_=>by simp at hl
 |x::a,y::e,r,z,b,hl,h=>by
  simp only[aZ,Mf]at h;split at h
  .rename_i p q hp hq;simp at h;subst h;obtain⟨B,A,h1,E,F⟩:=Wi a e r z q (by simpa using hl) hq;exact⟨p&&B,A,by simp[Mf,hp,h1],E,by rw[F,Bool.and_assoc]⟩
  .simp at h
def Alp(h:BF x=1):∃p,x=.bool p:=by
 cases x with
 |bool p=>exact⟨p,rfl⟩
 |int k n=>cases k<;>simp[BF]at h
 |float k n=>cases k<;>simp[BF]at h
 |_=>simp[BF]at h
def Aqw(h:BF x=2):∃p,x=.string p:=by
 cases x with
 |string p=>exact⟨p,rfl⟩
 |int k n=>cases k<;>simp[BF]at h
 |float k n=>cases k<;>simp[BF]at h
 |_=>simp[BF]at h
section
variable{P:Program}(ok:aP P G)(nm:NamesOK P G)
def pkV(G:aC)(t:Nat)(xs:List Value):Value:=if(G.ty t).isAgg then .agg xs.toArray else xs.headD undef
include ok in
theorem Yx{u:Nat}(r:G.ty u≠ .no){e a y:List Value}(hl:a.length=G.sz u)(w:World)(q:(G.ty u).isAgg=U->a.length=1) :
  (Go.part u (e++(a++y)).toArray e.length).run P w=.ok (pkV G u a) w:=by
 unfold Go.part pkV;rw[M_,ok.isAgg w r];cases z:(G.ty u).isAgg with
 |true=>simp only[u_,if_true,M_,ok.sizeOf w r,a7_];congr 2;rw[<-hl];apply Array.toList_inj.1;simp
 |false=>obtain⟨v,rfl⟩:=List.length_eq_one_iff.1<|q z;simp
theorem Bio{d t:Nat}(e:Sd G d t=J)(q:(G.ty t).isAgg=U):(zk G t).length=1:=by
 cases d with
 |zero=>simp[Sd]at e
 |succ r=>
  simp only[Sd]at e;cases a:G.ty t with
  |bool=>rw[a]at e;rw[MH e];rfl
  |str=>rw[a]at e;rw[MH e];rfl
  |int k=>rw[a]at e;rw[MH e];rfl
  |st _=>rw[a]at q;simp[aT]at q
  |arr _ _=>rw[a]at q;simp[aT]at q
  |_=>rw[a]at e;simp at e
include ok nm in
theorem Wj:∀(d t D:Nat) (xs ys:List Value) (b:Bool) (w:World),Sd G d t=J->d<=D->Ds BF xs=zk G t->Ds BF ys=zk G t->Mf xs ys=C b->
  (Op.equalIn D t (pkV G t xs)<|pkV G t ys).run P w=.ok b w
 |0,_,_,_,_,_,_,h,_,_,_,_=>by simp[Sd]at h
 |d+1,t,0,_,_,_,_,_,hD,_,_,_=>by omega
 |d+1,t,D+1,xs,ys,b,w,h,hD,hx,hy,R=>by
  have hz:(zk G t).length=G.sz t:=by unfold zk;rw[Jp,ok.zlen]
  have one:∀k,Ix (zk G t) [k]=J->(∃x,xs=[x]/\BF x=k)/\∃y,ys=[y]/\BF y=k:=by
   intro k hk;have hk:=MH hk;rw[hk]at hx hy;constructor
   .cases xs with
    |nil=>simp[Ds]at hx
    |cons x t=>cases t with
     |nil=>simp[Ds]at hx;exact⟨x,rfl,hx⟩
     |cons y t=>simp[Ds]at hx
   .cases ys with
    |nil=>simp[Ds]at hy
    |cons x t=>cases t with
     |nil=>simp[Ds]at hy;exact⟨x,rfl,hy⟩
     |cons y t=>simp[Ds]at hy
  simp only[Sd]at h;cases W:G.ty t with
  |bool=>rw[W]at h;obtain⟨⟨x,rfl,h9⟩,y,rfl,hj⟩:=one _ h;have x4:=Alp h9;have x3:=Alp hj;obtain⟨p,rfl⟩:=x4;obtain⟨q,rfl⟩:=x3;simp[Mf,eqV]at R;subst R;simp only[pkV,W,aT,f5_,f6_,List.headD];exact run_equalIn_bool w D t p q<|ok.bool t W
  |str=>rw[W]at h;obtain⟨⟨x,rfl,h9⟩,y,rfl,hj⟩:=one _ h;have x4:=Aqw h9;have x3:=Aqw hj;obtain⟨p,rfl⟩:=x4;obtain⟨q,rfl⟩:=x3;simp[Mf,eqV,eqB]at R;subst R;simp only[pkV,W,aT,f5_,f6_,List.headD];exact run_equalIn_string w D t p q<|ok.str t W
  |int k=>
   rw[W]at h;obtain⟨⟨x,rfl,h9⟩,y,rfl,hj⟩:=one _ h;have hv:∀z:Value,BF z=BF (.int k 0)->∃p,z=.int k p:=by
    intro z hz;cases z with
    |int k' p=>exact⟨p,by cases k<;>cases k'<;>simp[BF]at hz|-⟩
    |bool p=>cases k<;>simp[BF]at hz
    |string p=>cases k<;>simp[BF]at hz
    |float k' p=>cases k<;>cases k'<;>simp[BF]at hz
    |_=>cases k<;>simp[BF]at hz
   obtain⟨p,rfl⟩:=hv x h9;obtain⟨q,rfl⟩:=hv y hj;have hv:Ei k k=J:=by cases k<;>rfl
   simp[Mf,eqV,hv]at R;subst R;simp only[pkV,W,aT,f5_,f6_,List.headD];exact run_equalIn_int w D t k k p q<|ok.int t k W
  |st fs=>
   rw[W]at h;obtain⟨h6,h5,x7,x8⟩:=ok.strc t fs W;have x1:P.fieldsOf t=h6:=by unfold Program.fieldsOf;rw[h5]
   have hn:=nm.name t fs W;rw[x1]at hn;simp only[pkV,W,aT,if_true];rw[run_equalIn_struct w D t _ _ (by rw[x1];exact h5)<|nm.held t fs W,x1];have go : ∀ (fl : List Field) (fs : List<|Nat × Nat) (B A xs ys : List Value) (ks : List Nat) (b : Bool), fl.map (λf => (f.offset, f.type)) = fs -> (∀ o u, (o, u) ∈ fs -> G.ty u ≠ .no) -> fl.all (λf => f.name != "_") = J ->
     B.length=A.length->XU G (Sd G d) fs B.length ks=J->Ds BF xs=ks->Ds BF ys=ks->Mf xs ys=C b->
     (Op.eqFields D (B++xs).toArray (A++ys).toArray fl).run P w=.ok b w:=by
    intro fl;induction fl with
    |nil=>
     intro fs B A xs ys ks b hm _ _ _ hu h0 h4 R;simp at hm;subst hm
     have:=MH hu
     subst this;cases xs with
     |nil=>cases ys with
      |nil=>simp[Mf]at R;subst R;simp[Op.eqFields]
      |cons _ _=>simp[Ds]at h4
     |cons _ _=>simp[Ds]at h0
    |cons f fl ih=>
     intro fs B A xs ys ks b hm h7 x0 x9 hu h0 h4 R;cases fs with
     |nil=>simp at hm
     |cons p fs=>
      simp only[aX,List.cons.injEq]at hm;obtain⟨hp,hm⟩:=hm;subst hp;simp only[XU,a_]at hu;obtain⟨⟨ho,hr⟩,E⟩:=hu;have ho:f.offset=B.length:=AD.1 ho;have hr:Sd G d f.type=J:=hr;split at E
      .rename_i a r ha x2;simp only[a_]at E;obtain⟨e1,e2⟩:=Wv _ _ _ _ ha x2;subst e1;obtain⟨xa,xr,rfl,hc,x5⟩:=Py BF xs a r h0;obtain⟨ya,yr,rfl,h8,x6⟩:=Py BF ys a r h4;have F:xa.length=G.sz f.type:=by rw[<-Jp BF xa,hc,e2]
       have L:ya.length=G.sz f.type:=by rw[<-Jp BF ya,h8,e2]
       obtain⟨b1,b2,h1,h2,h3⟩:=Wi xa ya xr yr b (by rw[F,L]) R;have hh:=MH E.1;simp only[U_,a_,bne_iff_ne]at x0;have hw:=h7 f.offset f.type σ;have X:(G.ty f.type).isAgg=U->(zk G f.type).length=1:=Bio hr;have hs:(zk G f.type).length=G.sz f.type:=by unfold zk;rw[Jp,ok.zlen]
       unfold Op.eqFields;rw[if_pos (by simpa using x0.1)];rw[M_,ho,Yx ok hw F w (λY=>by rw[F,<-hs];exact X Y),u_];rw[M_,x9,Yx ok hw L w (λY=>by rw[L,<-hs];exact X Y),u_];rw[M_,Wj d f.type D xa ya b1 w hr ω (by rw[hc];exact hh) (by rw[h8];exact hh) h1,u_];cases b1 with
       |false=>simp at h3;subst h3;simp
       |true=>
        simp at h3;subst h3;simp only[W_,f5_,f6_]
        have:=ih fs (B++xa) (A++ya) xr yr r b hm (λo u xc=>h7 o u (by simp[xc])) x0.2 (by simp[x9,F,L]) (by rw[e_,F];exact E.2) x5 x6 h2
        rw[G_,G_]at this;exact this
      .simp at E
   exact go h6.toList fs [] [] xs ys _ b x7 x8 hn rfl h hx hy R
  |arr n e=>
   rw[W]at h;simp only[a_]at h;obtain⟨he,I⟩:=h;obtain⟨h5,h7⟩:=ok.arr t n e W;simp only[pkV,W,aT,if_true];simp only[Op.equalIn,M_,N_ h5,u_,ok.sizeOf w h7,Std.Legacy.Range.forIn_eq_forIn_range',Std.Legacy.Range.size,Nat.sub_zero,Nat.add_sub_cancel,Nat.div_one];have X:(G.ty e).isAgg=U->(zk G e).length=1:=Bio he;have hs:(zk G e).length=G.sz e:=by unfold zk;rw[Jp,ok.zlen]
   have go:∀(n i:Nat) (B A xs ys:List Value) (ks:List Nat) (b:Bool),B.length=i*G.sz e->A.length=i*G.sz e->Ab1 G e n ks=J->Ds BF xs=ks->Ds BF ys=ks->Mf xs ys=C b->
     (forIn (List.range' i n) (N,()) λi (_:Option Bool×Unit)=>do
      let u <-Go.part e (B++xs).toArray (i*G.sz e)
      let v <-Go.part e (A++ys).toArray (i*G.sz e)
      let r <-Op.equalIn D e u v
      if(!r)=J then pure (ForInStep.done (C U,()))else pure (ForInStep.yield (N,())):Sem<|Option Bool×Unit).run P w=.ok (if b then(N,())else(C U,())) w:=by
    intro n;induction n with
    |zero=>
     intro i B A xs ys ks b _ _ I h0 h4 R
     have:=MH I
     subst this;cases xs with
     |nil=>cases ys with
      |nil=>simp[Mf]at R;subst R;simp
      |cons _ _=>simp[Ds]at h4
     |cons _ _=>simp[Ds]at h0
    |succ n ih=>
     intro i B A xs ys ks b hp xb I h0 h4 R;simp only[Ab1]at I;split at I
     .rename_i a r ha x2;simp only[a_]at I;obtain⟨e1,e2⟩:=Wv _ _ _ _ ha x2;subst e1;obtain⟨xa,xr,rfl,hc,x5⟩:=Py BF xs a r h0;obtain⟨ya,yr,rfl,h8,x6⟩:=Py BF ys a r h4;have F:xa.length=G.sz e:=by rw[<-Jp BF xa,hc,e2]
      have L:ya.length=G.sz e:=by rw[<-Jp BF ya,h8,e2]
      obtain⟨b1,b2,h1,h2,h3⟩:=Wi xa ya xr yr b (by rw[F,L]) R;have hh:=MH I.1;rw[e0_,List.forIn_cons];rw[M_,M_,<-hp,Yx ok h7 F w (λY=>by rw[F,<-hs];exact X Y),u_];rw[M_,hp,<-xb,Yx ok h7 L w (λY=>by rw[L,<-hs];exact X Y),u_];rw[M_,Wj d e D xa ya b1 w he ω (by rw[hc];exact hh) (by rw[h8];exact hh) h1,u_];cases b1 with
      |false=>simp at h3;subst h3;simp
      |true=>
       simp at h3;subst h3;simp only[W_,f5_,f6_,a7_,u_]
       have:=ih (i+1) (B++xa) (A++ya) xr yr r b (by rw[e_,hp,F,a5_,bA]) (by rw[e_,xb,L,a5_,bA]) I.2 x5 x6 h2
       rw[G_,G_]at this;exact this
     .cases I
   have:=go n 0 [] [] xs ys _ b σ σ I hx hy R
   simp only[c5_]at this;rw[this];cases b<;>simp
  |_=>rw[W]at h;simp at h
include ok nm in
theorem Bjy:EqOK P G:=by
 refine⟨nm.guard,λt xs ys b w a e y r q=>?_⟩
 have:=Wj ok nm 20 t Op.maxDepth xs ys b w e τ y r q
 unfold pkV at this;rw[if_pos a,if_pos a]at this;exact this
end
def Axk:Ty->Bool
 |.st _=>J
 |_=>U
structure NmE(P:Program)(t:Nat)(y:Ty):Prop where
 guard:y.isAgg=true->P.eqGuardType P.depth t=false
 held:Axk y=true->P.stoodInHeld t=false
 name : Axk y = true -> (P.fieldsOf t).toList.all (λf => f.name != "_") = true
def Bpm{t:Nat}{y:Ty}(h:y.isAgg=U):NmE P t y:=
 have a:Axk y=U:=by cases y<;>first|rfl|(simp[aT]at h)
 ⟨λe=>(by rw[h]at e;cases e),λe=>(by rw[a]at e;cases e),λe=>(by rw[a]at e;cases e)⟩
def Axp{tys:List<|Nat×TyD}{l:List<|Ent1<|TOf tys}{gl:Nat->Option ((t:Nat)×TOf tys t)}{ext:Nat->Nat}{loose:Nat->Bool}(h:∀p∈l,NmE P p.t p.e.ty):NamesOK P<|QQ tys l gl ext loose:=by
 have a:∀t,NmE P t (MI l t).ty:=Vr (T:=TOf tys) (Q:=λt e=>NmE P t e.ty) (λt=>Bpm rfl) h;refine⟨λt=>(a t).guard,λt q e=>(a t).held ?_,λt q e=>(a t).name ?_⟩
 .have e:(MI l t).ty=.st q:=e;rw[e];rfl
 .have e:(MI l t).ty=.st q:=e;rw[e];rfl
end Go.Ab
namespace Go.Ab
variable{G:aC}
variable{cs:List Value}
def shF(G:aC)(r:Nat->Option (List aE)):List (Nat×Nat)->Nat->Option (List aE)
 |[],_=>C []
 |p::t,off=>bif aH p.1 off then match r p.2,shF G r t (off+G.sz p.2)with
  |some a,C b=>bif aH a.length (G.sz p.2)then C (a++b)else N
  |_,_=>N
  else N
def Arw{α:Type}(a:List α):Nat->List α
 |0=>[]
 |n+1=>a++Arw a n
def shl(G:aC):Nat->Nat->Option (List aE)
 |0,_=>N
 |d+1,t=>match G.ty t with
  |.bool=>C [.bool]
  |.int k=>C [.int k]
  |.flt k=>C [.flt k]
  |.str=>C [.str]
  |.sl e=>match Aah (G.ty e)with
   |true=>N
   |false=>bif G.loose e then C [.ro e]else N
  |.st q=>match shF G (shl G d) q 0 with
   |some a=>bif aH a.length (G.sz t)then C a else N
   |none=>N
  |.arr n e=>match shl G d e with
   |some a=>bif aH a.length (G.sz e)&&aH (n*G.sz e) (G.sz t)then C (Arw a n)else N
   |none=>N
  |_=>N
inductive WfC(G:Sig):Cv G.T->Prop
 |bool (b:Bool):WfC G (.sc (.bool b))
 |int (k:IntKind) (n:Int) (h:(Lit.int k n).wf=true):WfC G (.sc (.int k n))
 |flt (k:FloatKind) (n:Nat):WfC G (.sc (.float k n))
 |str (s:ByteArray) (h:s.size<=maxLen):WfC G (.sc (.string s))
 |ro (t:Nat) (l:List (G.T t)) (h:l.length<=maxLen) (he:∀(i:Nat) (x:G.T t) (j:Nat) (c:Cv G.T),l[i]?=some x->(G.enc t x)[j]?=some c->WfC G c):WfC G (.ro t l)
def Ane(G:aC):Prop:=∀t e,G.ty t=.sl e->Aah (G.ty e)=U->G.loose e=J->∃s,shl G 20 e=C s/\∀x:TL G s,∃y,G.dec e (CZ s x)=C y
def Aae:∀(a b:List aE) (x:TL G a) (y:TL G b),∃z:TL G<|a++b,CZ (a++b) z=CZ a x++CZ b y
 |[],b,_,y=>⟨y,rfl⟩
 |c::a,b,x,y=>by obtain⟨z,e⟩:=Aae a b x.2 y;exact⟨(x.1,z),by simp only[CZ,aZ];rw[<-e]⟩
def Alh:∀(a:List aE) (x:TL G a),(CZ a x).length=a.length
 |[],_=>rfl
 |c::a,x=>by simp[CZ,Alh a]
section
variable{H:Type}{enc:TypeId×Value->H}{P:Program}(ok:aP P G)(dk:Ane G){w:World}{sp:Nat->Bool}{hd:Bool}
include ok in
theorem Ud{t:Nat}(h:G.ty t≠ .no):P.cellsOf t=G.sz t:=by obtain⟨i,z,h1,a,_⟩:=ok.info t h;unfold Program.cellsOf;rw[h1];exact a
def Opened(G:aC)(w:World)(s:List aE)(cs:List Value):Prop:=∃x:TL G s,F2 (Rd G (λb=>b<w.heap.size) w.heap) (CZ s x) cs/\∀c∈CZ s x,WfC G c
theorem Opened.append{a b:List aE}{r:List Value}(h:Opened G w a cs)(g:Opened G w b r):Opened G w (a++b)<|cs++r:=by
 obtain⟨x,h1,B⟩:=h;obtain⟨y,g1,A⟩:=g;obtain⟨z,q⟩:=Aae a b x y;refine⟨z,by rw[q];exact h1.append g1,λc e=>?_⟩;rw[q]at e;rcases n_.1 e with e|e
 .exact B c e
 .exact A c e
theorem Opened.len{a:List aE}(h:Opened G w a cs):cs.length=a.length:=by obtain⟨x,h1,_⟩:=h;rw[<-h1.1,Alh]
theorem Ac9{r:Nat->Option (List aE)}{cs:List Value}:∀(y:List<|Nat×Nat) (off:Nat) (sh:List aE),shF G r y off=C sh->
  (∀p∈y,∀s,r p.2=C s->Opened G w s ((cs.drop p.1).take<|G.sz p.2))->Opened G w sh ((cs.drop off).take sh.length)
 |[],off,sh,h,_=>by simp[shF]at h;subst h;exact⟨(),by simp[CZ];exact .nil,λc F=>by simp[CZ]at F⟩
 |p::t,off,sh,h,hp=>by
  simp only[shF,Bj]at h;by_cases e:p.1=off
  .rw[if_pos e]at h;split at h
   .rename_i a b E A;by_cases hl:a.length=G.sz p.2
    .rw[if_pos hl]at h;simp at h;subst h;have h1:=hp p σ a E;have B:=Ac9 t (off+G.sz p.2) b A λq hq s z=>hp q (by simp[hq]) s z;rw[e]at h1
     have:=h1.append B
     rw[e_,hl];have I:(cs.drop off).take (G.sz p.2+b.length)=(cs.drop off).take (G.sz p.2)++(cs.drop<|off+G.sz p.2).take b.length:=by rw[List.take_add,List.drop_drop]
     rw[I];exact this
    .rw[if_neg hl]at h;simp at h
   .simp at h
  .rw[if_neg e]at h;simp at h
theorem Agg{a:List aE}{cs:List Value}{sz:Nat}(hl:a.length=sz):∀(n:Nat) (i:Nat),(∀j,i<=j->j<i+n->Opened G w a ((cs.drop<|j*sz).take sz))->Opened G w (Arw a n) ((cs.drop<|i*sz).take<|n*sz)
 |0,i,_=>⟨(),by simp[CZ,Arw];exact .nil,λc q=>by simp[CZ,Arw]at q⟩
 |n+1,i,h=>by
  have h1:=h i (q_ _) ω;have e:=Agg hl n (i+1) λj z y=>h j ω ω
  have:=h1.append e
  have r:(cs.drop<|i*sz).take ((n+1)*sz)=(cs.drop<|i*sz).take sz++(cs.drop<|(i+1)*sz).take (n*sz):=by rw[a5_,bA,d1_<|n*sz,List.take_add,List.drop_drop,a5_,bA]
  rw[r];exact this
theorem Bb0{α:Type}{Q:Nat->α->Prop}:∀(n:Nat),(∀i,i<n->∃y,Q i y)->∃l:List α,l.length=n/\∀i y,l[i]?=C y->Q i y
 |0,_=>⟨[],rfl,λi y h=>by simp at h⟩
 |n+1,h=>by
  obtain⟨l,h1,q⟩:=Bb0 n λi hi=>h i ω;obtain⟨y,e⟩:=h n ω;refine⟨l++[y],by simp[h1],λi z a=>?_⟩;rw[g0_]at a;by_cases hi:i<l.length
  .rw[if_pos hi]at a;exact q i z a
  .rw[if_neg hi]at a
   have:i-l.length=0:=by have:=(f_.1 a).1;simp at this;omega
   rw[this]at a;simp at a;subst a
   have:i=n:=ω
   rw[this];exact e
theorem Bg9{H:Type}{enc:TypeId×Value->H}{P:Program}{w:World}{base:Nat}{a:Nat->Bool}{e:Bool}{Db:Nat}{t:TypeId}{x:DataW H×List MemPlace}{k:FloatKind}(q:P.underlying t=C (.float k))(h:DataW.trod enc P w base a e Db t cs=C x):∃n,cs=[.float k n]:=by
 cases Db with
 |zero=>simp[DataW.trod]at h
 |succ n=>unfold DataW.trod at h;rw[q]at h;split at h<;>simp_all
include ok dk in
theorem Bcd:∀(Db d t:Nat) (cs:List Value) (x:DataW H×List MemPlace) (s:List aE),shl G d t=C s->DataW.trod enc P w 0 sp hd Db t cs=C x->Opened G w s cs:=by
 intro Db;induction Db with
 |zero=>intro d t cs x s _ h;simp[DataW.trod]at h
 |succ Db ih=>
  intro d t cs x s h ht;cases d with
  |zero=>simp[shl]at h
  |succ d=>
  simp only[shl]at h;cases r:G.ty t with
  |bool=>rw[r]at h;simp at h;subst h;obtain⟨b,rfl,_⟩:=DataW.trod_bool (ok.bool t r) ht;exact⟨(b,()),aU (.sc _ rfl) .nil,λc A=>by simp[CZ,aW]at A;subst A;exact .bool b⟩
  |int k=>rw[r]at h;simp at h;subst h;obtain⟨n,rfl,_,hw⟩:=DataW.trod_int (ok.int t k r) ht;exact⟨(n,()),aU (.sc _ rfl) .nil,λc A=>by simp[CZ,aW]at A;subst A;exact .int k n hw⟩
  |flt k=>rw[r]at h;simp at h;subst h;obtain⟨n,rfl⟩:=Bg9 (ok.flt t k r) ht;exact⟨(n,()),aU (.sc _ rfl) .nil,λc A=>by simp[CZ,aW]at A;subst A;exact .flt k n⟩
  |str=>rw[r]at h;simp at h;subst h;obtain⟨b,rfl,_,hw⟩:=DataW.trod_string (ok.str t r) ht;exact⟨(b,()),aU (.sc _ rfl) .nil,λc A=>by simp[CZ,aW]at A;subst A;exact .str b hw⟩
  |st fs=>
   rw[r]at h;obtain⟨I,B,hh,L⟩:=ok.strc t fs r;obtain⟨xs,n,hn,_,W,hs,hf⟩:=DataW.trod_struct B ht;have hn:Db=n:=ω;subst hn;rw[Ud ok (t:=t) (by rw[r];simp)]at W;simp only at h;split at h
   .rename_i a ha;simp only[Bj]at h;by_cases hl:a.length=G.sz t
    .rw[if_pos hl]at h;simp at h;subst h
     have:=Ac9 (w:=w) (cs:=cs) fs 0 a ha λp hp q hq=>?_
     .rw[d3_,a8_ ω]at this;exact this
     .have x7:p∈I.toList.map (λf=>(f.offset,f.type)):=by rw[hh];exact hp
      obtain⟨f,x2,rfl⟩:=b3_.1 x7;obtain⟨i,hi⟩:=List.getElem?_of_mem x2;have he:I[i]?=C f:=by simpa using hi
      have h1:=hf i f he;have h5:i<xs.length:=by rw[hs];exact(I_.1 he).1
      rw[i_ h5,Ud ok<|L f.offset f.type hp]at h1;exact ih d f.type _ _ q hq h1
    .rw[if_neg hl]at h;simp at h
   .simp at h
  |arr n e=>
   rw[r]at h;obtain⟨B,L⟩:=ok.arr t n e r;obtain⟨xs,m,hm,_,W,hs,hf⟩:=DataW.trod_array B ht;have hm:Db=m:=ω;subst hm;rw[Ud ok (t:=t) (by rw[r];simp)]at W;simp only at h;split at h
   .rename_i a ha;cases hl:(aH a.length (G.sz e)&&aH (n*G.sz e) (G.sz t))with
    |false=>rw[hl]at h;simp at h
    |true=>
     rw[hl]at h;simp at h;subst h;simp only[a_]at hl;have hz:=AD.1 hl.1;have xa:=AD.1 hl.2
     have:=Agg (G:=G) (w:=w) (cs:=cs) hz n 0 λj _ hj=>?_
     .rw[Nat.zero_mul,d3_,a8_ ω]at this;exact this
     .have h1:=hf j ω;rw[i_ ω,Ud ok L]at h1;exact ih d e _ _ a ha h1
   .simp at h
  |sl e=>
   rw[r]at h;simp only at h;cases h6:Aah (G.ty e)with
   |true=>rw[h6]at h;cases h
   |false=>
   rw[h6]at h;simp only at h;cases h2:G.loose e with
   |false=>rw[h2]at h;cases h
   |true=>
   rw[h2]at h;cases h;obtain⟨B,L,_,h7⟩:=ok.sl t e r;obtain⟨se,hu,h9⟩:=dk t e r h6 h2;have x4:=Ud ok L;rcases DataW.trod_slice B ht with⟨rfl,_⟩|⟨a,len,x5,Il,rest,n,hn,rfl,_,_,hl,hm,x9,h3,_⟩
   .exact⟨([],()),aU (.nil _ _ _) .nil,λc A=>by simp[CZ,aW]at A;subst A;exact .ro e [] (Q_ _) λi x j c h=>by simp at h⟩
   .have hn:Db=n:=ω;subst hn;rw[x4]at h3;obtain⟨l,x3,h4⟩:=Bb0 (Q:=λi (y:G.T e)=>(∀j,j<G.sz e->∃v,w.cell? ((a.add<|i*G.sz e).add j)=C v/\∀X,(G.enc e y)[j]?=C X->Rd G (λb=>b<w.heap.size) w.heap X v)/\∀c∈G.enc e y,WfC G c) len λi hi=>by
     have h1:=h3 i hi;rw[i_ ω]at h1;cases A:w.cells? 0 (a.add<|i*G.sz e) (G.sz e)with
     |none=>rw[A]at h1;simp at h1
     |some ci=>rw[A]at h1;obtain⟨xe,r1,r2⟩:=ih 20 e ci _ se hu h1;obtain⟨y,hy⟩:=h9 xe;have hr:=ok.encdec e _ _ hy;obtain⟨_,x8,x1⟩:=World.cells?_some A;refine⟨y,λj hj=>?_,λc hx=>r2 c (by rw[<-hr];exact hx)⟩;refine⟨ci[j]'ω,by rw[x1 j hj];exact i_ ω,λX E=>?_⟩;rw[hr]at E;exact r1.2 j X _ E<|i_ ω
    refine⟨(l,()),aU ?_ .nil,λc A=>?_⟩
    .show Rd G _ w.heap (.ro e l) _;by_cases h0:len=0
     .have:l=[]:=S_ ω
      rw[this,h0];exact .nil _ _ _
     .have hk:=ok.pos e L;obtain⟨y0,x6⟩:∃y0,l[0]?=C y0:=⟨l[0]'ω,i_ ω⟩
      obtain⟨v0,F,_⟩:=(h4 0 y0 x6).1 0 hk;obtain⟨b,off,R⟩:=a;have x0:((⟨b,off,R⟩:Addr).add<|0*G.sz e).add 0=⟨b,off,R⟩:=by rw[Nat.zero_mul];rfl
      rw[x0]at F;unfold World.cell? at F;simp only at F;split at F
      .rename_i c te fz hb;cases h8:R with
       |some z=>rw[h8]at F;simp at F
       |none=>
        subst h8;have h5:b<w.heap.size:=(I_.1 hb).1;rw[<-x3];have Y:∀i j,i<l.length->j<G.sz e->∃v,c[off+i*G.sz e+j]?=C v/\∀y X,l[i]?=C y->(G.enc e y)[j]?=C X->Rd G (λb=>b<w.heap.size) w.heap X v:=by
         intro i j hi hj;obtain⟨v,hv,hq⟩:=(h4 i _<|i_ hi).1 j hj;refine⟨v,?_,λy X hy E=>hq X ?_⟩
         .rw[Ho,Ho]at hv;unfold World.cell? at hv;simp only[hb]at hv;simpa using hv
         .rw[i_ hi]at hy;simp at hy;rw[hy];exact E
        refine .ro e l b off x5 c te fz (λi j=>c.getD (off+i*G.sz e+j) undef) h5 hb (.inr h2) ω (λi j hi hj=>?_) (λi j y X hy E=>?_)
        .obtain⟨v,hv,_⟩:=Y i j hi hj;rw[hv];simp[y_,hv]
        .have hi:i<l.length:=(f_.1 hy).1;have hj:j<G.sz e:=by rw[<-h7 y];exact(f_.1 E).1
         obtain⟨v,hv,hq⟩:=Y i j hi hj
         have:c.getD (off+i*G.sz e+j) undef=v:=by simp[y_,hv]
         rw[this];exact hq y X hy E
      .simp at F
    .simp[CZ,aW]at A;subst A;exact .ro e l ω λi y j c hy A=>(h4 i y hy).2 c<|o_ A
  |_=>rw[r]at h;simp at h
end
end Go.Ab
namespace Go.Ab
variable{G:aC}
variable{v:Value}
def VR(G:aC):List aD->Type
 |[]=>Unit
 |s::t=>s.T G×VR G t
def MJ:(s:List aD)->VR G s->List (Pv G.T)
 |[],_=>[]
 |s::t,x=>s.give x.1::MJ t x.2
def Aaw:aE->Bool
 |.own _ _=>U
 |_=>J
def Ard:aD->Bool
 |.one c=>Aaw c
 |.agg cs=>cs.all Aaw
def YO:(n:Nat)->(s:List aD)->VR G s->TmT G (Iy n s)
 |_,[],_=>()
 |n,_::t,x=>(x.1,YO (n+1) t x.2)
def Ali:∀(n:Nat) (s:List aD) (x:VR G s),Jg (Iy n s) (YO n s x)=Iy n ((MJ s x).map Sv.p)
 |_,[],_=>rfl
 |n,p::t,x=>by show(n,Sv.p<|p.give x.1)::Jg _ (YO _ t x.2)=(n,Sv.p _)::Iy _ _;rw[Ali _ t x.2]
def Aua:∀(s:aE) (x:s.T G),Aaw s=J->s.blk x=[]
 |.own _ _,_,h=>by simp[Aaw]at h
 |.int _,_,_=>rfl
 |.bool,_,_=>rfl
 |.str,_,_=>rfl
 |.flt _,_,_=>rfl
 |.ro _,_,_=>rfl
 |.rp _ _,_,_=>rfl
 |.ptr _ _,_,_=>rfl
 |.clo _ _ _,_,_=>rfl
 |.np _ _,_,_=>rfl
 |.nili,_,_=>rfl
 |.nilp,_,_=>rfl
 |.sh _,_,_=>rfl
 |.lit _ _,_,_=>rfl
 |.sa _ _ _,_,_=>rfl
def Aub:∀(s:List aE) (x:TL G s),s.all Aaw=J->Adz s x=[]
 |[],_,_=>rfl
 |c::t,x,h=>by simp only[U_,a_]at h;simp only[Adz,Aua c x.1 h.1,Aub t x.2 h.2,T_]
def Bji(s:aD)(x:s.T G)(h:Ard s=J):s.blk x=[]:=by
 cases s with
 |one c=>exact Aua c x h
 |agg cs=>exact Aub cs x h
def Ao3:∀(n:Nat) (s:List aD) (x:VR G s),s.all Ard=J->ND (Iy n s) (YO n s x)=[]
 |_,[],_,_=>rfl
 |n,p::t,x,h=>by simp only[U_,a_]at h;show p.blk x.1++ND _ (YO _ t x.2)=[];rw[Bji p x.1 h.1,Ao3 _ t x.2 h.2];rfl
def Bgo(G:aC)(t:Nat):Option aD:=match shl G 20 t with
 |some s=>bif(G.ty t).isAgg then C (.agg s)else match s with|[c]=>C (.one c)|_=>N
 |none=>N
def Axy(G:aC):List Nat->Option (List aD)
 |[]=>C []
 |t::r=>match Bgo G t,Axy G r with
  |some a,C b=>C<|a::b
  |_,_=>N
def WfA(G:aC)(s:List aD)(x:VR G s):Prop:=∀p∈MJ s x,∀c∈p.cells,WfC G c
section
variable{H:Type}{enc:TypeId×Value->H}{P:Program}(ok:aP P G)(dk:Ane G){w:World}{sp:Nat->Bool}{hd:Bool}
theorem Bip{S:Nat->Prop}{h:Array Obj}{c:Cv G.T}(a:WfC G c)(r:Rd G S h c v):Rc G (λ_=>N) S h c v:=by cases a<;>exact r
include ok dk in
theorem Bgh{t:Nat}{d:DataW H}{ps:List MemPlace}{s:aD}{r:Reach}{base:Nat}(y:Bgo G t=C s)(W:DataW.Trod enc P w 0 sp hd t v d ps)(q:Value.okWide P w r base t v):
  ∃x:s.T G,Rp G (λ_=>N) (λb=>b<w.heap.size) w.heap (s.give x) v/\∀c∈(s.give x).cells,WfC G c:=by
 obtain⟨Db,W⟩:=W;unfold Bgo at y;split at y
 .rename_i sh E;obtain⟨x,h1,R⟩:=Bcd ok dk Db 20 t _ _ sh E W;cases B:(G.ty t).isAgg with
  |true=>
   rw[B]at y;simp at y;subst y;have I:∃cs,v=.agg cs:=by
    unfold Value.okWide at q;cases a:G.ty t with
    |st fs=>obtain⟨F,z,_⟩:=ok.strc t fs a;rw[z]at q;obtain⟨cs,h,_⟩:=q;exact⟨cs,h⟩
    |arr n e=>obtain⟨z,_⟩:=ok.arr t n e a;rw[z]at q;obtain⟨cs,h,_⟩:=q;exact⟨cs,h⟩
    |_=>rw[a]at B;simp[aT]at B
   obtain⟨cs,rfl⟩:=I;refine⟨x,?_,R⟩;have e1:(Value.agg cs)=.agg cs.toList.toArray:=by simp
   exact .agg _ _ ⟨h1.1,λi c u Y hu=>Bip (R c<|o_ Y)<|h1.2 i c u Y hu⟩
  |false=>
   rw[B]at y;split at y
   .rename_i c;simp at y;subst y;have L:v.cells=#[v]:=by
     cases v with
     |agg cs=>
      exfalso;unfold Value.okWide at q;cases a:G.ty t with
      |bool=>rw[ok.bool t a]at q;simp[Cell.okWide,Cell.ok,ok.bool t a]at q
      |int k=>rw[ok.int t k a]at q;simp[Cell.okWide,Cell.ok,ok.int t k a]at q
      |flt k=>rw[ok.flt t k a]at q;simp[Cell.okWide,Cell.ok,ok.flt t k a]at q
      |str=>rw[ok.str t a]at q;simp[Cell.okWide,Cell.ok,ok.str t a]at q
      |sl e=>rw[(ok.sl t e a).1]at q;simp[Cell.okWide,Cell.ok,(ok.sl t e a).1]at q
      |st _=>rw[a]at B;simp[aT]at B
      |arr _ _=>rw[a]at B;simp[aT]at B
      |_=>simp[shl,a]at E
     |_=>rfl
    have hr:=h1.2 0 _ v rfl (by rw[L];rfl);have X:=R (c.give x.1) (by simp[CZ]);refine⟨x.1,.one _ _<|Bip X hr,λc' A=>?_⟩;have A:c'∈[c.give x.1]:=A;simp at A;subst A;exact X
   .simp at y
 .simp at y
include ok dk in
theorem Arj{r:Reach}{base:Nat}:∀(z:List Nat) (vs:List Value) (B:List<|DataW H) (ps:List MemPlace) (s:List aD),Axy G z=C s->DataW.TrodAll enc P w 0 sp hd z vs B ps->
  (∀(j:Nat) t v,z[j]?=C t->vs[j]?=C v->Value.okWide P w r base t v)->∃x:VR G s,F2 (Rp G (λ_=>N) (λb=>b<w.heap.size) w.heap) (MJ s x) vs/\WfA G s x
 |[],[],[],_,s,e,_,_=>by simp[Axy]at e;subst e;exact⟨(),.nil,λp hp=>by simp[MJ]at hp⟩
 |t::z,v::vs,d::B,ps,s,e,⟨p,q,h1,R,_⟩,E=>by
  simp only[Axy]at e;split at e
  .rename_i a b L F;simp at e;subst e;obtain⟨x,g1,I⟩:=Bgh ok dk L h1<|E 0 t v rfl rfl;obtain⟨y,g3,g4⟩:=Arj z vs B q b F R λj t v W A=>E (j+1) t v (by simpa using W) (by simpa using A);refine⟨(x,y),g3.cons g1,λp hp=>?_⟩;simp only[MJ,x_]at hp;rcases hp with rfl|hp
   .exact I
   .exact g4 p hp
  .simp at e
 |[],[],_::_,_,_,_,h,_=>h.elim
 |[],_::_,_,_,_,_,h,_=>by cases h
 |_::_,[],_,_,_,_,h,_=>by cases h
 |_::_,_::_,[],_,_,_,h,_=>by cases h
def Aov(s:List aD):aF:=⟨Iy 0 s,[],[]⟩
theorem Bbt{g:Nat}{sh:List aD}{E:List<|Ex×aF}{F:(Aov sh).T G->Option (Ev G E)}{rs:List ResultVar}(hf:Dq P G g ⟨Aov sh,E,F,rs⟩)(R:sh.all Ard=J){x:VR G sh}{y:Ev G E}
  (hF:F (YO 0 sh x,())=C y) {b:Bool}{p:Ex×V G}(hp:FZ E y C=C p) (hy:Hs (Aov sh) rs p=C (.p<|.one<|.sc<|.bool b,[])) {W:World}(h0:GlOK G (λb=>b<W.heap.size) W.heap) {a:List Value}
  (e:F2 (Rp G (λ_=>N) (λb=>b<W.heap.size) W.heap) (MJ sh x) a) :
  Calls P g a.toArray W λe' W'=>e'=.returned (.bool b)/\RowKit.Below W.heap.size W W':=by
 have I:∀n (s:List aD) (x:VR G s),(MJ s x).length=(Iy n s).length:=by
  intro n s;induction s generalizing n with
  |nil=>intro _;rfl
  |cons p t ih=>intro x;simp only[MJ,Iy,s_,ih (n+1) x.2]
 have A:((Aov sh).mk' (YO 0 sh x,())).hp=([]:List _):=by show ND (Iy 0 sh) _++([]++[])=[];rw[Ao3 0 sh x R];rfl
 have Y:((Aov sh).mk' (YO 0 sh x,())).tm=Iy 0 ((MJ sh x).map<|Sv.p):=Ali 0 sh x;refine((hf.2 _ y p _ [] hF hp hy) _ _ (λ_=>False) W a ⟨λn k B=>?_,λn m z z' b h1=>?_,λn z b h1=>?_,λ_ h=>h,h0⟩ (λn hn=>absurd rfl hn) ?_ λk v B=>?_).mono ?_
 .rw[A]at B;cases B
 .rw[A]at h1;exact absurd rfl h1
 .rw[A]at h1;exact absurd rfl h1
 .rw[<-e.1];exact I 0 sh x
 .rw[Y,Ye]at B;simp at B;obtain⟨u,hu,rfl⟩:=B;obtain⟨v,hv,r⟩:=e.get hu
  have:a.getD k undef=v:=by simp[k_,hv]
  rw[this];exact .p _ _ r
 .rintro e' W' ⟨v,ν',S',he,L,_,_,_,_,h2,X,q⟩;refine⟨?_,q.1,q.2.1,q.2.2,h2,λb hb=>X b hb id⟩;rw[he];cases L with
  |p _ _ r=>
   cases r with
   |one _ _ hc=>cases hc;rfl
end
def Zn(G:aC)(y:Ty):Prop:=∀e,y=.sl e->Aah (G.ty e)=U->G.loose e=J->∃s,shl G 20 e=C s/\∀x:TL G s,∃y,G.dec e (CZ s x)=C y
def Aug{G:aC}{y:Ty}(h:(match y with|.sl _=>J|_=>U)=U):Zn G y:=λe a _=>by subst a;simp at h
def Bjq{G:aC}{e:Nat}{s:List aE}(h:shl G 20 e=C s)(hd:∀x:TL G s,∃y,G.dec e (CZ s x)=C y):Zn G<|.sl e:=λq a _=>by cases a;exact λ_=>⟨s,h,hd⟩
def Be3{tys:List<|Nat×TyD}{l:List<|Ent1<|TOf tys}{gl:Nat->Option ((t:Nat)×TOf tys t)}{ext:Nat->Nat}{loose:Nat->Bool}(h:∀p∈l,Zn (QQ tys l gl ext loose) p.e.ty):Ane<|QQ tys l gl ext loose:=λt=>Vr (Q:=λ_ e=>Zn _ e.ty) (λ_=>Aug rfl) h t
end Go.Ab
namespace Go.Ab
variable{G:aC}
variable{P:Program}{k:IntKind}{w:World}
def Atn{H:Type}{enc:TypeId×Value->H}{base:Nat}{sp:Nat->Bool}{a:Bool}{Db:Nat}{t:TypeId}{c:Value}{n:Int}{q:List MemPlace}
  (e:P.underlying t=C (.int k)) (h:DataW.trod enc P w base sp a Db t [c]=C (.lit<|.int k n,q)):c=.int k n:=by
 cases Db with
 |zero=>simp[DataW.trod]at h
 |succ Db=>cases c<;>simp[DataW.trod,e]at h;obtain⟨⟨rfl,_⟩,rfl,_⟩:=h;rfl
def YC{n:String}{g:Nat}{t e:TypeId}{ns:List Int}{gt:Nat}{gx:G.T gt}{cs:Array Value}{Db:Nat}{p:List MemPlace}
  (hn:P.globalNamed n=C g) (hu:P.underlying t=C (.array ns.length e)) (he:P.underlying e=C (.int k)) (X:P.cellsOf e=1) (R:P.cellsOf t=ns.length)
  (I:G.sz gt=ns.length) (F:G.enc gt gx=ns.map λx=>.sc<|.int k x)
  (B:w.var? P n=C cs) (hd:DataW.trod (λ_=>()) P w 0 (λ_=>J) U Db t cs.toList=C (.agg (ns.map λx=>.lit<|.int k x),p)) :
  Rd G (λb=>b<w.heap.size) w.heap (.rp gt gx 0) (.pointer<|C ⟨g,0,N⟩)/\∃c te fz,w.heap[g]?=C (.cells c te fz)/\c.size=G.sz gt:=by
 obtain⟨xs,m,_,Y,y,h3,hf⟩:=DataW.trod_array hu hd;have q:∀j (x:Int),ns[j]?=C x->cs[j]?=C (Value.int k x):=λj x a=>by
  obtain⟨L,h0⟩:=f_.1 a;have h1:=hf j L;rw[X,c2_]at h1;have hm:xs.map (·.1)=ns.map λx=>DataW.lit<|.int k x:=by simp only[e1_,DataW.agg.injEq]at Y;exact Y.1.symm
  have E:=J_ (·[j]?) hm;simp only[X_,a,e8_]at E;cases hq:xs[j]? with
  |none=>rw[hq]at E;cases E
  |some z=>
   rw[hq]at h1 E;obtain⟨z1,z2⟩:=z;simp only[e8_,b6_]at E;subst E;have hl:j<cs.toList.length:=by rw[y,R];exact L
   have A:(cs.toList.drop j).take 1=[cs.toList[j]]:=by rw[List.drop_eq_getElem_cons hl];rfl
   rw[A]at h1;have hz:=Atn he h1;rw[<-Array.getElem?_toList,i_ hl,hz]
 unfold World.var? at B;rw[hn]at B;simp only[c_]at B;split at B
 .rename_i r te fz W;obtain rfl:=r_ B;refine⟨.rp gt gx 0 g 0 r te fz (λj=>r.getD j undef) (I_.1 W).1 W (λj a=>?_) λj cv a=>?_,r,te,fz,W,by rw[I,<-R,<-y,Array.length_toList]⟩
  .rw[I]at a
   have:=q j ns[j]<|i_ a
   rw[m_,this];simp[y_,this]
  .rw[F,X_]at a;cases hq:ns[j]? with
   |none=>rw[hq]at a;cases a
   |some x=>
    rw[hq]at a;simp only[e8_,b6_]at a;subst a
    have:=q j x hq
    rw[show r.getD j undef=.int k x by simp[y_,this]];exact .sc _ rfl
 .cases B
end Go.Ab
namespace Go.Ab
open Go
def zc(i:TypeInfo):List Value:=match i.zero with
 |some z=>z.cells.toList
 |none=>[]
def Sk.c:Sk->aE
 |.i k=>.int k
 |.b=>.bool
 |.s=>.str
 |.f k=>.flt k
 |.l t=>.ro t
def Sk.nl:Sk->Bool
 |.l _=>U
 |_=>J
def Sk.u:Sk->Bool
 |.i .u8=>J
 |_=>U
section
variable{T:Nat->Type}
def pe(t:Nat)(i:TypeInfo)(y:Ty):Ent1 T:=plain T t y i.size<|zc i
def re(t:Nat)(i:TypeInfo)(y:Ty)(a:List Sk)(q:T t->SkL T a)(e:SkL T a->T t):Ent1 T:=⟨t,⟨y,i.size,zc i,λx=>Ob a<|q x,λcs=>match Apt a cs with
 |some x=>C<|e x
 |none=>N,a.all Sk.nl⟩⟩
def SkF(T:Nat->Type)(Y:Type):List Sk->Type
 |[]=>Y
 |a::t=>a.T T->SkF T Y t
def apS{Y:Type}:(l:List Sk)->SkF T Y l->SkL T l->Y
 |[],f,_=>f
 |_::t,f,x=>apS t (f x.1) x.2
def Sk.enc_sc(a:Sk)(x:a.T T):Aaj (a.enc x)=J/\(a.nl=J->Ag0 (a.enc x)=J)/\u8C (a.enc x)=a.u:=by
 cases a with
 |i k=>exact⟨rfl,λ_=>rfl,by cases k<;>rfl⟩
 |l t=>exact⟨rfl,(λh=>by cases h),rfl⟩
 |_=>exact⟨rfl,λ_=>rfl,rfl⟩
def Ap2:∀(l:List Sk) (x:SkL T l),(Ob l x).length=l.length
 |[],_=>rfl
 |_::t,x=>J_ _<|Ap2 t x.2
def Aul:∀(l:List Sk) (x:SkL T l),(Ob l x).all Aaj=J
 |[],_=>rfl
 |a::t,x=>by simp only[Ob,U_,(a.enc_sc x.1).1,Aul t x.2,c7_]
def Aum:∀(l:List Sk),l.all Sk.nl=J->∀(x:SkL T l),(Ob l x).all Ag0=J
 |[],_,_=>rfl
 |a::t,h,x=>by rw[U_,a_]at h;simp only[Ob,U_,(a.enc_sc x.1).2.1 h.1,Aum t h.2 x.2,c7_]
def Sk.r:Sk->Option Nat
 |.l t=>C t
 |_=>N
def Aeb:∀(l:List Sk) (x:SkL T l),(Ob l x).map roC=l.map Sk.r
 |[],_=>rfl
 |a::t,x=>by simp only[Ob,aX,Aeb t x.2];cases a<;>rfl
def Ajc:∀(l:List Sk) (x:SkL T l),(Ob l x).map u8C=l.map Sk.u
 |[],_=>rfl
 |a::t,x=>by simp only[Ob,aX,(a.enc_sc x.1).2.2,Ajc t x.2]
end
def Aw6:List (Nat×Nat)->List (Nat×Nat)->Bool
 |[],[]=>J
 |a::s,b::t=>aH a.1 b.1&&aH a.2 b.2&&Aw6 s t
 |_,_=>U
def Auo:∀{s t:List<|Nat×Nat},Aw6 s t=J->s=t
 |[],[],_=>rfl
 |(a,b)::s,(c,d)::t,h=>by simp only[Aw6,a_]at h;rw[b9_ h.1.1,b9_ h.1.2,Auo h.2]
section
variable{P:Program}{G:aC}
def Abk(P:Program)(G:aC)(t:Nat):Ty->Bool
 |.no=>U
 |.bool=>match P.underlying t with
  |some .bool=>J
  |_=>U
 |.int k=>match P.underlying t with
  |some (.int k')=>Ei k k'
  |_=>U
 |.flt k=>match P.underlying t with
  |some (.float k')=>Pr k k'
  |_=>U
 |.str=>match P.underlying t with
  |some .string=>J
  |_=>U
 |.sl e=>(match P.underlying t with
  |some (.slice q)=>aH e q
  |_=>U)&&(!Oc (G.ty e)&&(match P.info? e with
  |some i=>aO i.bytes 4096
  |none=>U))
 |.pt e=>match P.underlying t with
  |some (.pointer q)=>aH e q
  |_=>U
 |.fn=>match P.underlying t with
  |some (.func _ _ _)=>J
  |_=>U
 |.st r=>match P.underlying t with
  |some (.struct a)=>Aw6 (a.toList.map λf=>(f.offset,f.type)) r&&r.all λp=>!Oc (G.ty p.2)
  |_=>U
 |.arr n e=>match P.underlying t with
  |some (.array y q)=>aH n y&&aH e q&&!Oc (G.ty e)
  |_=>U
def Ah0(G:aC):Ty->Prop
 |.sl e=>∀x,(G.enc e x).length=G.sz e
 |_=>True
def Bjx{k k':IntKind}(h:Ei k k'=J):k=k':=by cases k<;>cases k'<;>first|rfl|(simp[Ei]at h)
def Bjw{k k':FloatKind}(h:Pr k k'=J):k=k':=by cases k<;>cases k'<;>first|rfl|(simp[Pr]at h)
def Bky{t:Nat}{y:Ty}(h:Abk P G t y=J)(hl:Ah0 G y):Bef P G t y:=by
 unfold Abk at h;cases y with
 |no=>trivial
 |bool|str=>
  simp only at h;split at h
  .assumption
  .cases h
 |int k=>
  simp only at h;split at h
  .rename_i e;cases Bjx h;exact e
  .cases h
 |flt k=>
  simp only at h;split at h
  .rename_i e;cases Bjw h;exact e
  .cases h
 |sl e=>
  simp only[a_,b2_]at h;obtain⟨h1,z,r⟩:=h;split at h1
  .rename_i q;split at r
   .rename_i i hi;cases b9_ h1;exact⟨q,z,⟨i,hi,r⟩,hl⟩
   .cases r
  .cases h1
 |pt e=>
  simp only at h;split at h
  .rename_i q;cases b9_ h;exact q
  .cases h
 |fn=>
  simp only at h;split at h
  .rename_i e;exact⟨_,_,_,e⟩
  .cases h
 |st A=>
  simp only at h;split at h
  .rename_i a e;rw[a_]at h;exact⟨a,e,Auo h.1,h.2⟩
  .cases h
 |arr n e=>
  simp only at h;split at h
  .rename_i q;simp only[a_,b2_]at h;cases b9_ h.1.1;cases b9_ h.1.2;exact⟨q,h.2⟩
  .cases h
def Yj(i:TypeInfo):Bool:=aO 1 i.size&&((zc i).all Kc&&(aH (zc i).length i.size&&i.zero.isSome))
def Ba8{t:Nat}{i:TypeInfo}{y:Ty}{enc:G.T t->List (Cv G.T)}{dec:List (Cv G.T)->Option (G.T t)}{e:Bool}(hi:P.info? t=C i)(a:(Abk P G t y&&Yj i)=J)(hl:Ah0 G y)
  (h1:∀x,(enc x).length<=i.size) (F:∀cs x,dec cs=C x->enc x=cs) (I:∀x,(enc x).all Aaj=J) (B:e=J->∀x,(enc x).all Ag0=J) (E:∀x y,(enc x).map u8C=(enc y).map u8C) (A:∀x y,(enc x).map roC=(enc y).map roC):EntOK P G t ⟨y,i.size,zc i,enc,dec,e⟩:=by
 rw[a_]at a;obtain⟨r,a⟩:=a;simp only[Yj,a_]at a;obtain⟨z,q⟩:=Option.isSome_iff_exists.1 a.2.2.2;refine⟨Bky r hl,λ_=>⟨i,z,hi,rfl,q,by simp only[zc,q]⟩,λ_=>a.1,λh=>?_,a.2.1,b9_ a.2.2.1,h1,F,I,B,E,A⟩;subst h;cases r
def pk{t:Nat}{i:TypeInfo}{y:Ty}(hi:P.info? t=some i:=by kernel_rfl)(a:(Abk P G t y&&Yj i)=true:=by kernel_rfl)(hl:Ah0 G y:=by trivial):EntOK P G t (pe (T:=G.T) t i y).e:=Ba8 hi a hl (λ_=>Q_ _) (λ_ _ h=>by cases h) (λ_=>rfl) (λ_ _=>rfl) (λ_ _=>rfl) (λ_ _=>rfl)
def ps{t e:Nat}{i:TypeInfo}(hi:P.info? t=some i:=by kernel_rfl)(a:(Abk P G t (.sl e)&&Yj i)=true:=by kernel_rfl)(hl:∀x,(G.enc e x).length=G.sz e:=by intro x;kernel_rfl):EntOK P G t (pe (T:=G.T) t i<|.sl e).e:=pk hi a hl
def rk0{t:Nat}{i:TypeInfo}{y:Ty}{a:List Sk}{r:G.T t->SkL G.T a}{q:SkL G.T a->G.T t}(hl:Ah0 G y)(hi:P.info? t=C i)(B:(Abk P G t y&&Yj i)=J)(A:aH a.length i.size=J)(E:∀x,r (q x)=x):EntOK P G t (re (T:=G.T) t i y a r q).e:=
 Ba8 hi B hl (λx=>by rw[Ap2,b9_ A];exact q_ _) (λcs x h=>by
  cases e:Apt a cs with
  |none=>rw[e]at h;cases h
  |some z=>rw[e]at h;cases h;rw[E];exact Auh e) (λx=>Aul _ _) (λh x=>Aum _ h _) (λx y=>by rw[Ajc,Ajc]) (λx y=>by rw[Aeb,Aeb])
def rk{t:Nat}{i:TypeInfo}{y:Ty}{a:List Sk}{r:G.T t->SkL G.T a}{q:SkL G.T a->G.T t}(hi:P.info? t=some i:=by kernel_rfl)(A:(Abk P G t y&&Yj i)=true:=by kernel_rfl)(z:Nat.beq a.length i.size=true:=by kernel_rfl)(B:∀x,r (q x)=x:=by intro x;kernel_rfl)(hl:Ah0 G y:=by trivial):EntOK P G t (re (T:=G.T) t i y a r q).e:=rk0 hl hi A z B
def rs{t e:Nat}{i:TypeInfo}{a:List Sk}{r:G.T t->SkL G.T a}{q:SkL G.T a->G.T t}(hi:P.info? t=some i:=by kernel_rfl)(z:(Abk P G t (.sl e)&&Yj i)=true:=by kernel_rfl)(y:Nat.beq a.length i.size=true:=by kernel_rfl)(A:∀x,r (q x)=x:=by intro x;kernel_rfl)(hl:∀x,(G.enc e x).length=G.sz e:=by intro x;kernel_rfl):EntOK P G t (re (T:=G.T) t i (.sl e) a r q).e:=rk0 hl hi z y A
def fn0{α:Type _}{Q:α->Prop}:∀p∈([]:List α),Q p:=λ_ h=>absurd h<|g3_
def fc{α:Type _}{Q:α->Prop}{a:α}{l:List α}(h:Q a)(t:∀p∈l,Q p):∀p∈a::l,Q p:=List.forall_mem_cons.2 ⟨h,t⟩
def Bpl (P : Program) (t : Nat) (y : Ty) : Bool := (!y.isAgg || !P.eqGuardType P.depth t) && (!Axk y || (!P.stoodInHeld t && (P.fieldsOf t).toList.all λf => f.name != "_"))
def Bs1{l:List<|Ent1 G.T}(h:(l.all λp=>Bpl P p.t p.e.ty)=J):∀p∈l,NmE P p.t p.e.ty:=λp hp=>by
 have h:=F_.1 h p hp;simp only[Bpl,a_,V_,b2_]at h;refine⟨λe=>?_,λe=>?_,λe=>?_⟩
 .rcases h.1 with h|h
  .rw[h]at e;cases e
  .exact h
 .rcases h.2 with h|h
  .rw[h]at e;cases e
  .exact h.1
 .rcases h.2 with h|h
  .rw[h]at e;cases e
  .exact h.2
def Bif:∀(l:List Sk) (y:TL G<|l.map Sk.c),∃x:SkL G.T l,CZ (l.map Sk.c) y=Ob l x
 |[],_=>⟨(),rfl⟩
 |a::t,y=>by
  obtain⟨x,q⟩:=Bif t y.2;cases a with
  |i k=>exact⟨(y.1,x),J_ _ q⟩
  |b=>exact⟨(y.1,x),J_ _ q⟩
  |s=>exact⟨(y.1,x),J_ _ q⟩
  |f k=>exact⟨(y.1,x),J_ _ q⟩
  |l e=>exact⟨(y.1,x),J_ _ q⟩
def dk(a:List Sk){e:Nat}(q:shl G 20 e=some (a.map Sk.c):=by kernel_rfl)(hd:∀x:SkL G.T a,(G.dec e<|Ob a x).isSome=true:=by intro x;kernel_rfl):Zn G<|.sl e:=Bjq q λy=>by obtain⟨x,r⟩:=Bif a y;rw[r];exact Option.isSome_iff_exists.1<|hd x
def df{e:Nat}(h:Aah (G.ty e)=true:=by kernel_rfl):Zn G<|.sl e:=λq a hf=>by cases a;rw[h]at hf;cases hf
def dl{e:Nat}(h:G.loose e=false:=by kernel_rfl):Zn G<|.sl e:=λq a _ hl=>by cases a;rw[h]at hl;cases hl
def dn{y:Ty}(h:(match y with|.sl _=>true|_=>false)=false:=by rfl):Zn G y:=Aug h
end
def ki:Sk:=.i .i64
def k4:Sk:=.i .u32
def k1:Sk:=.i .u8
def kb:Sk:=.b
def ks:Sk:=.s
def kf:Sk:=.f .f64
def kl(t:Nat):Sk:=.l t
def ci:aE:=.int .i64
def c4:aE:=.int .u32
def c1:aE:=.int .u8
def cb:aE:=.bool
def cs:aE:=.str
def cf:aE:=.flt .f64
def cr(t:Nat):aE:=.ro t
def cw(m t:Nat):aE:=.own (32768+m) t
def oi:aD:=.one ci
def o4:aD:=.one c4
def o1:aD:=.one c1
def oA(l:List aE):aD:=.agg l
section
variable{G:aC}
def CSh.F(G:aC)(Y:Type):aE->Type
 |.int _=>Int->Y
 |.bool=>Bool->Y
 |.str=>ByteArray->Y
 |.flt _=>Nat->Y
 |.own _ t=>List (G.T t)->Y
 |.ro t=>List (G.T t)->Y
 |.rp t _=>G.T t->Y
 |_=>Y
def CSh.ap{Y:Type}:(s:aE)->s.F G Y->s.T G->Y
 |.int _,f,x=>f x
 |.bool,f,x=>f x
 |.str,f,x=>f x
 |.flt _,f,x=>f x
 |.own _ _,f,x=>f x
 |.ro _,f,x=>f x
 |.rp _ _,f,x=>f x
 |.ptr _ _,f,_=>f
 |.clo _ _ _,f,_=>f
 |.np _ _,f,_=>f
 |.nili,f,_=>f
 |.nilp,f,_=>f
 |.sh _,f,_=>f
 |.lit _ _,f,_=>f
 |.sa _ _ _,f,_=>f
def LF(G:aC)(Y:Type):List aE->Type
 |[]=>Y
 |s::t=>s.F G<|LF G Y t
def apL{Y:Type}:(l:List aE)->LF G Y l->TL G l->Y
 |[],f,_=>f
 |s::t,f,x=>apL t (s.ap f x.1) x.2
def PSh.F(G:aC)(Y:Type):aD->Type
 |.one c=>c.F G Y
 |.agg l=>LF G Y l
def PSh.ap{Y:Type}:(s:aD)->s.F G Y->s.T G->Y
 |.one c,f,x=>c.ap f x
 |.agg l,f,x=>apL l f x
def TmF(G:aC)(Y:Type):List (Nat×aD)->Type
 |[]=>Y
 |p::t=>p.2.F G<|TmF G Y t
def apT{Y:Type}:(l:List<|Nat×aD)->TmF G Y l->TmT G l->Y
 |[],f,_=>f
 |p::t,f,x=>apT t (p.2.ap f x.1) x.2
def HpF(G:aC)(Y:Type):List (Nat×List aE)->Type
 |[]=>Y
 |p::t=>LF G (HpF G Y t) p.2
def apH{Y:Type}:(l:List<|Nat×List aE)->HpF G Y l->HpT G l->Y
 |[],f,_=>f
 |p::t,f,x=>apH t (apL p.2 f x.1) x.2
def Spec.F(G:aC)(s:aF)(Y:Type):Type:=TmF G (HpF G Y s.hp) s.tm
def Spec.ap{Y:Type}(s:aF)(f:s.F G Y)(x:s.T G):Y:=apH s.hp (apT s.tm f x.1) x.2
def fe(fn:Func)(I:aF)(E:SL)(f:I.F G<|Option<|Ev G E):Fe G:=⟨I,E,I.ap f,fn.results.toList⟩
def ix(n:Nat):List aD->List (Nat×aD)
 |[]=>[]
 |a::t=>(n,a)::ix (n+1) t
def ia(l:List aD):aF:=⟨ix 0 l,[],[]⟩
def sp(l:List<|Nat×aD):aF:=⟨l,[],[]⟩
def sh(l:List<|Nat×aD)(h:List<|Nat×List aE):aF:=⟨l,h,[]⟩
def rt(l:List<|Nat×aD):SL:=[(.ret,sp l)]
def rh(l:List<|Nat×aD)(h:List<|Nat×List aE):SL:=[(.ret,sh l h)]
def jn(l:List<|Nat×aD):SL:=[(.normal,sp l)]
def jh(l:List<|Nat×aD)(h:List<|Nat×List aE):SL:=[(.normal,sh l h)]
def xt(n:Nat)(l:List<|Nat×aD):Ex×aF:=(.exit n,sp l)
def xh(n:Nat)(l:List<|Nat×aD)(h:List<|Nat×List aE):Ex×aF:=(.exit n,sh l h)
def rx(l:List<|Nat×aD):Ex×aF:=(.ret,sp l)
def yh(l:List<|Nat×aD)(h:List<|Nat×List aE):Ex×aF:=(.ret,sh l h)
def Boj(n:Nat):List (Nat×SL)->Option SL
 |[]=>N
 |p::t=>bif aH (1048576+p.1) n then C p.2 else Boj n t
def js(l:List<|Nat×SL)(n:Nat):Option SL:=Boj n l
def jm(k:List Nat)(e:SL)(f:Nat->Option SL)(n:Nat):Option SL:=bif k.any λk=>aH (1048576+k) n then C e else f n
def ow(m t:Nat):aD:=.one<|cw m t
def su(l:List<|Nat×aD)(h:List<|Nat×List aE):aF:=⟨l,h,[65536]⟩
def ru(l:List<|Nat×aD)(h:List<|Nat×List aE):SL:=[(.ret,su l h)]
def nu(l:List<|Nat×aD)(h:List<|Nat×List aE):SL:=[(.normal,su l h)]
def ry(l:List<|Nat×aD)(h:List<|Nat×List aE):Ex×aF:=(.ret,su l h)
def xu(n:Nat)(l:List<|Nat×aD)(h:List<|Nat×List aE):Ex×aF:=(.exit n,su l h)
end
variable{G:aC}
def lpN:List (aF×(V G->M (Ex×V G)))->V G->M (Ex×V G)
 |[],_=>aR
 |s::t,st=>match s.1.take st with
  |none=>aR
  |some x=>aI (s.2<|s.1.mk' x) λp=>match p.1 with
   |.normal=>lpN t p.2
   |e=>aG (e,p.2)
section
variable{P:Program}(ok:aP P G)(eqok:EqOK P G){cf:Ch G}(cfok:CfOK P G cf){nt:Nat}{drawn:Array Oper->V G->M (V G)}(dok:DrawOK P G nt drawn)
 {lp:Nat->V G->M (Ex×V G)}{kl:Nat->List Nat}{n:Nat}{c:Code}(hl:∀(k:Nat) c',(Bl c)[k]?=C c'->aM P G nt (lp (n+k)) c')
def rN(cf:Ch G)(nt:Nat)(drawn:Array Oper->V G->M (V G))(lp:Nat->V G->M (Ex×V G))(kl:Nat->List Nat)(n:Nat)(c:Code)(l:List<|aF×(Nat->Option SL)):List<|aF×(V G->M (Ex×V G)):=l.map λs=>(s.1,CA cf nt drawn lp kl s.2 n c)
include cfok dok hl in
theorem Au2:∀(l:List<|aF×(Nat->Option SL)) (st:V G),Law<|lpN (rN cf nt drawn lp kl n c l) st
 |[],_=>Ai
 |s::t,st=>by
  simp only[rN,aX,lpN];split
  .exact Ai
  .refine Ad (EN cfok dok c n _ hl) λp=>?_;cases p.1 with
   |normal=>exact Au2 t p.2
   |exit i=>exact Af _
   |ret=>exact Af _
include ok eqok cfok dok hl in
theorem Aht{cx:Cx}(I:cx.nt=nt)(q:∀n y,cx.nu0 n=C y->Z<=n){R:Ex}{A:V G}{Q:Exit->Act->World->Prop}(X:∀e L w',ExR R e->Rel G cx A L w'->Q e L w') :
  ∀(l:List<|aF×(Nat->Option SL)) (st:V G) (a:Act) (w:World),lpN (rN cf nt drawn lp kl n c l) st _ C=C (R,A)->Rel G cx st a w->Code.rounds P c Q l.length a w
 |[],_,_,_,h,_=>by simp[rN,lpN,aR]at h
 |s::t,st,a,w,h,r=>by
  rw[s_,rounds_succ];simp only[rN,aX,lpN]at h;cases Y:s.1.take st with
  |none=>rw[Y]at h;cases h
  |some x=>
   rw[Y]at h;have hr:=Spec.take_rel Y r q;have z:(CA cf nt drawn lp kl s.2 n c (s.1.mk' x) _ C).bind (λp=>(match p.1 with
    |.normal=>lpN (rN cf nt drawn lp kl n c t) p.2
    |e=>aG (e,p.2):M<|Ex×V G) _ C)=C (R,A):=by
    rw[<-h];exact(EN cfok dok (kl:=kl) (jn:=s.2) c n _ hl _ _).symm
   obtain⟨⟨e,F⟩,hv,z⟩:=Option.bind_eq_some_iff.1 z;refine GD ok eqok cfok dok I q c n _ F e a w _ hl hv hr λe' L w' B W=>?_;cases e with
   |normal=>rw[KJ B];exact Aht I q X t F L w' z W
   |exit i=>simp only[aG,b6_,e1_]at z;obtain⟨rfl,rfl⟩:=z;have E:=X _ _ _ B W;rw[XR B]at E|-;exact E
   |ret=>simp only[aG,b6_,e1_]at z;obtain⟨rfl,rfl⟩:=z;have E:=X _ _ _ B W;rw[Tm B]at E|-;exact E
end
section
variable{P:Program}(cx:Ctx P G){l:List (Nat×Fe G)}(hl:∀p∈l,Dq P G p.1 p.2)
include cx hl in
theorem lkn{nt:Nat}{c:Code}(lp:Nat->St G->M (Ex×St G))(n:Nat)(e:List<|Spec×(Nat->Option SL)){f:St G->M (Ex×St G)}(hf:f=lpN (rN (cfQ l) nt (Ui (cfQ l) nt) lp (λ_=>[]) n c e):=by rfl)
  (hin:II (λk c=>LoopOK P G nt (lp k) c) n<|Bl c:=by exact an0 κ):LoopOK P G nt f c:=by
 subst hf;have dok:=Ry cx.ok cx.eqok (Mb cx.ok hl) (WM l) cx.hm (nt:=nt);exact⟨λst=>Au2 (Mb cx.ok hl) dok hin e st,λst _ _ h _ a w _ y q r z=>wp_loop_rounds e.length<|Aht cx.ok cx.eqok (Mb cx.ok hl) dok hin y q z e st a w h r⟩
end
variable{G:aC}
def dOf:Nat->Code->Code
 |0,.seq y _=>y
 |k+1,.seq _ y=>dOf k y
 |_,_=>.skip
def noD:Nat->Code->Code
 |0,.seq _ y=>y
 |k+1,.seq x y=>.seq x<|noD k y
 |_,c=>c
def Ax2:Nat->Code->Bool
 |0,.seq _ _=>J
 |k+1,.seq (.region _ _ _) y=>Ax2 k y
 |_,_=>U
section
variable{P:Program}(ok:aP P G)(eqok:EqOK P G){cf:Ch G}(cfok:CfOK P G cf){nt:Nat}{drawn:Array Oper->V G->M (V G)}(dok:DrawOK P G nt drawn)
 {lp:Nat->V G->M (Ex×V G)}{kl:Nat->List Nat}{jn:Nat->Option (List (Ex×aF))}
include cfok dok in
theorem Ax3{id:Nat}{ops:Array Oper}{b:Bool}{n:Nat}{st r:V G}{A:Ex}(h:CA cf nt drawn lp kl jn n (.region id ops b) st _ C=C (A,r)):A=.normal:=by
 cases b with
 |false=>unfold CA at h;obtain⟨a,h,_⟩:=VD h;have e:Law<|UH cf nt ops ops.toList a:=SY (cx:=⟨default,λ_=>False,λ_=>False,λ_=>N,nt,[]⟩) cfok ops ops.toList a;obtain⟨z,h0,_⟩:=Mc (Ad e λ_=>Af _) h;obtain⟨y,_,q⟩:=e.spec<|aS h0;simp[aG]at q;exact q.1.symm
 |true=>unfold CA at h;obtain⟨a,h,_⟩:=VD h;obtain⟨z,h0,_⟩:=Mc (Ad (dok.law ops a) λ_=>Af _) h;obtain⟨y,_,q⟩:=(dok.law ops a).spec<|aS h0;simp[aG]at q;exact q.1.symm
include ok eqok cfok dok in
theorem Aly{d:Value->Deferred}{dr:Code}(L:∀(a:Act) (w:World) (Q:Exit->Act->World->Prop),(∀v,Q .normal { a with defers:=d v::a.defers } w)->dr.wp P Q a w){cx:Cx}(E:cx.nt=nt)(z:∀n y,cx.nu0 n=C y->Z<=n) :
  ∀(k:Nat) (c:Code),Ax2 k c=J->dOf k c=dr->∀(n:Nat) (st q:V G) (A:Ex) (a:Act) (w:World) (Q:Exit->Act->World->Prop),
  (∀(j:Nat) F,(Bl<|noD k c)[j]?=C F->aM P G nt (lp<|n+j) F)->CA cf nt drawn lp kl jn n (noD k c) st (Ex×V G) C=C (A,q)->Rel G cx st a w->
  (∀v e W w',ExR A e->Rel G { cx with df:=d v::cx.df } q W w'->Q e W w')->c.wp P Q a w
 |0,.seq x y,_,I,n,st,q,A,a,w,Q,hl,h,r,Y=>by
  have I:x=dr:=I;subst I;refine wp_seq (L a w _ λv=>?_);have hr:Rel G { cx with df:=d v::cx.df } st { a with defers:=d v::a.defers } w:=by obtain⟨ν,S,r⟩:=r;exact⟨ν,S,⟨r.slot,r.heap,r.used,by show d v::a.defers=d v::cx.df;rw[r.defers],r.nt,r.size,r.frame,r.env,r.sub,r.keep,r.names⟩⟩
  exact GD ok eqok cfok dok (cx:={ cx with df:=d v::cx.df }) E z y n st q A _ w Q hl h hr<|Y v
 |k+1,.seq (.region id ops b) y,hk,I,n,st,q,A,a,w,Q,hl,h,r,Y=>by
  have h:CA cf nt drawn lp kl jn n (.seq (.region id ops b)<|noD k y) st (Ex×V G) C=C (A,q):=h;unfold CA at h;have B:∀(j:Nat) F,(Bl<|.region id ops b)[j]?=C F->aM P G nt (lp<|n+j) F:=λj F hj=>by simp[Bl]at hj
  obtain⟨⟨e1,h4⟩,h1,h2⟩:=(Od<|EN cfok dok (.region id ops b) n st B).spec<|aS h;obtain⟨h3,h0,R⟩:=Mc (EN cfok dok (.region id ops b) n st B) h1;have hn:e1=.normal:=Ax3 cfok dok h0;subst hn;refine wp_seq (GD ok eqok cfok dok E z (.region id ops b) n st h3 .normal a w _ B h0 r λe W w' he X=>?_);rw[KJ he];exact Aly L E z k y hk I n h4 q A W w' Q hl h2 (R z X) Y
include ok eqok cfok in
theorem Aqc {g gd k : Nat} {fn : Func} {X : Fn} {q : Code} (h5 : P.funcs[g]? = C fn) (L : (fn.name == "runtime.NumGoroutine") = U) (A : fn.body = C q) {e : Fe G} (h8 : fn.results.toList = e.rs) (h4 : e.I.tm.length <= fn.ntmps)
  (dok:DrawOK P G fn.ntmps drawn) (hl:∀(j:Nat) B,(Bl<|noD k q)[j]?=C B->aM P G fn.ntmps (lp j) B) (hk:Ax2 k q=J)
  (h6:∀(a:Act) (w:World) (Q:Exit->Act->World->Prop),(∀v,Q .normal { a with defers:={ target:=.fn X #[],args:=#[v] }::a.defers } w)->(dOf k q).wp P Q a w)
  (h2:∀v w,(invoke (.fn X #[]) #[v]).run P w=.ok (.enter gd #[v]) w) (hc:∀v w,CallsD P gd #[v] .returning w λe u w'=>e=.returned (.tuple #[])/\u=.returning/\w'=w)
  (hF:∀x y,e.F x=C y->CA cf fn.ntmps drawn lp kl jn 0 (noD k q) (e.I.mk' x) _ (λp=>Hu e.E p.1 p.2)=C y):Dq P G g e:=by
 have Y:∀(j:Nat) B,(Bl<|noD k q)[j]?=C B->aM P G fn.ntmps (lp<|0+j) B:=λj B hk=>by rw[m_];exact hl j B hk
 refine Aqb ok h5 L (by rw[A];rfl) h8 h4 (λst=>EN cfok dok (kl:=kl) (jn:=jn) (noD k q) 0 st Y) hF λcx st hj ex args w R hb ha h7 hh h0 h3 hR=>?_;refine calls_of_wp_defers h5 A (Aly ok eqok cfok dok h6 hb h7 k q hk rfl 0 _ hj ex _ w _ Y h0 h3 λv e' W w' he r'=>?_);have z:Leaves P fn W.tmps R W.defers .returning w':=by
  have hd:W.defers=[{ target:=.fn X #[],args:=#[v] }]:=by obtain⟨_,_,r⟩:=r';have h9:W.defers={ target:=.fn X #[],args:=#[v] }::cx.df:=r.defers;rw[h9,ha]
  rw[hd];refine⟨σ,X,#[],gd,#[v],rfl,h2 v w',(hc v w').mono λe u w2 h=>?_⟩;obtain⟨rfl,rfl,rfl⟩:=h;exact hR _ W w2 r'
 cases ex with
 |normal=>rw[KJ he];exact z
 |ret=>rw[Tm he];exact z
 |exit i=>exact absurd rfl<|hh i
end
section
variable{P:Program}{G:aC}(cx:Ctx P G){l:List (Nat×Fe G)}(hl:∀p∈l,Dq P G p.1 p.2)(jn:Nat->Option SL)(lp:Nat->V G->M (Ex×V G))
include cx hl in
theorem fkd{g X:Nat}{fn:Func}{Y:Fn}{e:Fe G}(k:Nat)(B:P.funcs[g]?=some fn)
  (L:∀(a:Act) (w:World) (Q:Exit->Act->World->Prop),(∀v,Q .normal { a with defers:={ target:=.fn Y #[],args:=#[v] }::a.defers } w)->(dOf k<|Bf fn).wp P Q a w)
  (r:∀v w,(invoke (.fn Y #[]) #[v]).run P w=.ok (.enter X #[v]) w) (z:∀v w,CallsD P X #[v] .returning w λe u w'=>e=.returned (.tuple #[])/\u=.returning/\w'=w)
  (A:II (λk c=>LoopOK P G fn.ntmps (lp k) c) 0<|Bl<|noD k<|Bf fn) (hk:Ax2 k (Bf fn)=true:=by kernel_rfl)
  (W : (!(fn.name == "runtime.NumGoroutine") && Nat.ble e.I.tm.length fn.ntmps) = true := by kernel_rfl) (q : fn.body = some (Bf fn) := by kernel_rfl) (R : fn.results.toList = e.rs := by rfl)
  (hF:∀x,Uj (cfQ l) lp jn fn.ntmps (noD k<|Bf fn) e.I e.E x=e.F x:=by intro x;kernel_rfl):Dq P G g e:=by
 rw[a_,b2_]at W;exact Aqc cx.ok cx.eqok (Mb cx.ok hl) B W.1 q R (C_ W.2) (Ry cx.ok cx.eqok (Mb cx.ok hl) (WM l) cx.hm) (Afr A) hk L r z
  (kl:=λ_=>[]) λx y h=>(hF x).trans h
end
end Go.Ab
namespace Go.Ab
variable{G:aC}
variable{α:Type}{P:α->Prop}
noncomputable def eqQ{α:Type _}(a b:α):Bool:=@decide (a=b)<|Classical.propDecidable _
def Aec{α:Type _}{a b:α}:eqQ a b=J↔a=b:=@decide_eq_true_iff _<|Classical.propDecidable _
def Aw5:List Nat->List Nat->Bool
 |[],[]=>J
 |a::s,b::t=>aH a b&&Aw5 s t
 |_,_=>U
def Ak8:∀{a b:List Nat},Aw5 a b=J->a=b
 |[],[],_=>rfl
 |a::s,b::t,h=>by simp only[Aw5,a_]at h;rw[AD.1 h.1,Ak8 h.2]
def Ahg(a:Nat):List Oper->Bool
 |[]=>J
 |o::t=>(match o.dst with|some d=>!aH d a|none=>J)&&Ahg a t
def Ahh{a:Nat}:∀{l:List Oper},Ahg a l=J->∀o∈l,o.dst≠C a
 |[],_,o,ho=>absurd ho<|g3_
 |q::t,h,o,ho=>by
  rw[Ahg,a_]at h;rcases x_.1 ho with ho|ho
  .intro e;rw[ho]at e;have h1:=h.1;rw[e]at h1;have h1:(!aH a a)=J:=h1;rw[AD.2 rfl]at h1;cases h1
  .exact Ahh h.2 o ho
def Ahi(n j:Nat):Nat->List (aA G)->Bool
 |_,[]=>J
 |i,x::t=>(aH i j||!has (Cb x.d) n)&&Ahi n j (i+1) t
def Ahj{n j:Nat}:∀{i:Nat}{l:List<|aA G},Ahi n j i l=J->∀k x,l[k]?=C x->n∈Cb x.d->i+k=j
 |i,y::t,h,k,x,a,e=>by
  simp only[Ahi,a_,V_,b2_]at h;cases k with
  |zero=>
   simp at a;subst a;rcases h.1 with h|h
   .exact AD.1 h
   .rw[(ES _ _).2 e]at h;cases h
  |succ k=>have:=Ahj h.2 k x (by simpa using a) e;omega
noncomputable def An5(ops:List Oper)(outs:List<|aA G)(st e:V G)(j:Nat):List Nat->Bool
 |[]=>J
 |i::t=>(match ops[i]?,outs[i]? with
  |some o,C x=>match o.op with
   |.load ty (.tmp a)=>match O e.tm a with
    |some (.p<|.one<|.ptr n off)=>Aw5 x.rd [n]&&(Ahg a (ops.drop i)&&(Ahi n j 0 outs&&eqQ (DU (O e.hp) (G.sz ty)<|.ptr n off) (DU (O st.hp) (G.sz ty)<|.ptr n off)))
    |_=>U
   |_=>U
  |_,_=>U)&&An5 ops outs st e j t
def CL{α:Type}:Nat->List α->List (Nat×α)
 |_,[]=>[]
 |n,x::t=>(n,x)::CL (n+1) t
def Aez{α:Type}:∀{l:List α}{n i:Nat}{x:α},l[i]?=C x->(CL n l)[i]?=C (n+i,x)
 |y::t,n,0,x,h=>by simp at h;subst h;rfl
 |y::t,n,i+1,x,h=>by
  have:=Aez (n:=n+1) (l:=t) (i:=i) (x:=x) (by simpa using h)
  rw[show n+1+i=n+(i+1)by omega]at this;simpa[CL]using this
def Baf(xs:List Nat)(p q:Nat×aA G):Bool:=(has xs q.1||disj (Cb p.2.d) q.2.rd)&&(disj (Cb p.2.d) (Cb q.2.d)&&(has xs p.1||disj (Cb q.2.d) p.2.rd))
noncomputable def Apz(cf:Ch G)(nt:Nat)(xs:List Nat)(j:Nat)(ops:Array Oper)(st:V G):M<|V G:=
 aI (aN<|NW 0 ops.toList&&pairs (λx y=>Oper.apart ops x y) (Jh ops.toList []) ops.toList) λ_=>
 aI (Aff cf nt ops ops.toList st) λp=>
 aI (aN<|pairs (Baf xs) (Jh ops.toList [])<|CL 0 p.1) λ_=>
 aI (aN<|An5 ops.toList p.1 st p.2 j xs) λ_=>aG p.2
noncomputable def Agf(cf:Ch G)(nt n:Nat)(xs:List Nat)(j:Nat)(ops:Array Oper)(st:V G):M<|V G:=match aH ops.size n with
 |true=>Apz cf nt xs j ops st
 |false=>Ui cf nt ops st
def Ah2{ops:List Oper}{outs:List<|aA G}{st e:V G}{j:Nat}:∀{xs:List Nat},An5 ops outs st e j xs=J->∀i∈xs,∃o x ty a n off,ops[i]?=C o/\outs[i]?=C x/\o.op=.load ty (.tmp a)/\O e.tm a=C (.p<|.one<|.ptr n off)/\x.rd=[n]/\Ahg a (ops.drop i)=J/\Ahi n j 0 outs=J/\
  DU (O e.hp) (G.sz ty) (.ptr n off)=DU (O st.hp) (G.sz ty) (.ptr n off)
 |i::t,h,k,r=>by
  unfold An5 at h;rw[a_]at h;rcases x_.1 r with rfl|r
  .have h1:=h.1;split at h1
   .rename_i o x ho z;split at h1
    .rename_i ty a q;split at h1
     .rename_i n off y;simp only[a_]at h1;exact⟨o,x,ty,a,n,off,ho,z,q,y,Ak8 h1.1,h1.2.1,h1.2.2.1,Aec.1 h1.2.2.2⟩
     .cases h1
    .cases h1
   .cases h1
  .exact Ah2 h.2 k r
section
variable{P:Program}(ok:aP P G)(eqok:EqOK P G){cf:Ch G}(cfok:CfOK P G cf)(cfl:Abm cf){nt:Nat}
include ok eqok cfok cfl in
theorem Ba2(hm:P.follows .mixedOrders=J)(xs:List Nat)(j:Nat):DrawOK P G nt<|Apz cf nt xs j:=by
 refine⟨λops st=>Ad (An _) λ_=>Ad (Qp cfok _ _) λ_=>Ad (An _) λ_=>Ad (An _) λ_=>Af _,?_⟩;intro ops st hj h cx a w id Q h9 E hQ;subst h9;unfold Apz at h;obtain⟨h1,h2⟩:=aJ h;obtain⟨⟨outs,I⟩,h3,h4⟩:=(Qp cfok (ops:=ops) ops.toList st).spec<|aS h2;obtain⟨h5,h6⟩:=aJ h4;obtain⟨h7,h8⟩:=aJ h6;simp[aG]at h8;subst h8;obtain⟨W,Y,e3⟩:=Abb cfok ops.toList st I outs h3;rw[a_]at h1;refine Auk ok eqok cfok cfl hm (sf:=λi=>i∈xs) ⟨by simpa using W,h1.1,h1.2,λi k x y ha hx hy=>?_,λi hi D s o out nm hs ho hout q=>?_,λi o out hi ho=>e3 i o out (by simpa using hi) ho⟩ Y E hQ
 .refine(Tc h5 i k _ _ ha (Aez hx)<|Aez hy).symm.imp (λh=>h) λh=>?_;simp only[Baf,a_,V_,m_]at h;exact⟨Md h.2.1,λL=>Md (h.1.resolve_left λe=>L<|(ES _ _).1 e),λL=>Md (h.2.2.resolve_left λe=>L<|(ES _ _).1 e)⟩
 .obtain⟨o',x',ty,B,n,off,q1,q2,q3,q4,q5,q6,q7,q8⟩:=Ah2 h7 i hi;obtain rfl:o=o':=by
   have:ops.toList[i]?=C o:=by simpa using ho
   rw[this]at q1;exact r_ q1
  obtain rfl:out=x':=by rw[hout]at q2;exact r_ q2
  have X:O s.tm B=C (.p<|.one<|.ptr n off):=by rw[hs.tm B,<-q4,Y.tm B];refine RG _ 0 _ _ (λk r A h0=>?_) rfl;obtain⟨p,z1,z2,z3⟩:=Mj A;rw[m_];refine b_ (Nat.lt_of_not_le λhe=>?_);refine Ahh q6 p ?_<|z3▸h0;rw[c9_];exact⟨k-i,by rw[c4_,show i+(k-i)=k by omega];exact z1⟩
  have z:∀D:Nat->Bool,DU (O (replay D 0 (recs ops.toList outs) st).hp) (G.sz ty) (.ptr n off)=DU (O st.hp) (G.sz ty) (.ptr n off):=λD=>by
   have only:∀k r,(recs ops.toList outs)[k]?=C r->n∈Cb r.2.d->k=j:=λk r A F=>by
    obtain⟨p,z1,z2,z3⟩:=Mj A
    have:=Ahj q7 k r.2 z2 F
    omega
   cases hD:D j with
   |true=>
    have hh:O (replay D 0 (recs ops.toList outs) st).hp n=O I.hp n:=by rw[Y.hp n];exact On _ 0 _ _ (λk r A F=>by rw[m_,only k r A F,hD]) rfl
    rw[<-q8];unfold DU;simp only[hh]
   |false=>
    have hh:O (replay D 0 (recs ops.toList outs) st).hp n=O st.hp n:=by rw[On (D':=λ_=>U) _ 0 _ st (λk r A F=>by rw[m_,only k r A F,hD]) rfl,Lg]
    unfold DU;simp only[hh]
  have hc:DU (O s.hp) (G.sz ty) (.ptr n off)=DU (O st.hp) (G.sz ty) (.ptr n off):=by rw[<-z λk=>decide<|k<i];unfold DU;simp only[hs.hp n]
  rw[q3]at q|-;have W:evC (KI s.tm) (.tmp B)=(aG (.ptr n off):M<|Cv G.T):=by funext R k;simp only[evC,KI,X];rfl
  have hb:∀h:Nat->Option (aB G.T),SZ h (G.sz ty) (.ptr n off)=aQ (DU h (G.sz ty)<|.ptr n off):=λh=>rfl;have q:LH (KI s.tm) (O s.hp) ty (.tmp B) (aA G) C=C out:=q;show LH (KI s.tm) (O (replay D 0 (recs ops.toList outs) st).hp) ty (.tmp B) (aA G) C=C out;unfold LH at q|-;rw[W]at q|-;simp only[aI,aG,hb,hc,z D]at q|-;exact q
include ok eqok cfok cfl in
theorem Ba3(hm:P.follows .mixedOrders=J)(n:Nat)(xs:List Nat)(j:Nat):DrawOK P G nt<|Agf cf nt n xs j:=by
 have a:=Ba2 ok eqok cfok cfl (nt:=nt) hm xs j;have b:=Ry ok eqok cfok cfl (nt:=nt) hm;refine⟨λops st=>?_,λops st e h=>?_⟩
 .unfold Agf;cases aH ops.size n
  .exact b.law ops st
  .exact a.law ops st
 .unfold Agf at h;cases q:aH ops.size n
  .rw[q]at h;exact b.wp ops st e h
  .rw[q]at h;exact a.wp ops st e h
end
noncomputable def Bn9(cf:Ch G)(n:Nat)(xs:List Nat)(j:Nat)(lp:Nat->V G->M (Ex×V G))(jn:Nat->Option (List<|Ex×aF))(nt:Nat)(a:Code)(I:aF)(E:List<|Ex×aF)(x:I.T G):Option<|Ev G E:=CA cf nt (Agf cf nt n xs j) lp (λ_=>[]) jn 0 a (I.mk' x) _ λp=>Hu E p.1 p.2
section
variable{P:Program}(cx:Ctx P G){l:List (Nat×Fe G)}(hl:∀p∈l,Dq P G p.1 p.2)(jn:Nat->Option SL)
include cx hl in
theorem fkY(n:Nat)(xs:List Nat)(j:Nat){g:Nat}{fn:Func}{e:Fe G}(r:P.funcs[g]?=some fn)(A:∀x,Bn9 (cfQ l) n xs j (pl []) jn fn.ntmps (Bf fn) e.I e.E x=e.F x)
  (q : Bl (Bf fn) = [] := by kernel_rfl) (z : (!(fn.name == "runtime.NumGoroutine") && Nat.ble e.I.tm.length fn.ntmps) = true := by kernel_rfl) (a : fn.body = some (Bf fn) := by kernel_rfl) (y : fn.results.toList = e.rs := by rfl) : Dq P G g e := by
 rw[a_,b2_]at z;exact Ada cx.ok cx.eqok (Mb cx.ok hl) r z.1 a y (C_ z.2) (Ba3 cx.ok cx.eqok (Mb cx.ok hl) (WM l) cx.hm n xs j) (λk B h=>by rw[q]at h;simp at h) λx _ h=>(A x).trans h
end
def Al{α:Type}(o:Option α)(P:α->Prop):Prop:=∀a,o=C a->P a
def Al.ret{a:α}(h:P a):Al (C a) P:=λ_ e=>by cases e;exact h
def Al.no:Al (N:Option α) P:=λ_ e=>by cases e
def Al.bind{β:Type}{o:Option β}{f:β->Option α}(Q:β->Prop)(h:Al o Q)(q:∀b,Q b->Al (f b) P):Al (o.bind f) P:=λa e=>by
 cases o with
 |none=>cases e
 |some b=>exact q b (h b rfl) a e
def Al.bif{c:Bool}{x y:Option α}(h1:Al x P)(a:Al y P):Al (bif c then x else y) P:=by
 cases c
 .exact a
 .exact h1
def Al.iter{X Y:Type}{step:X->Option (Sum X Y)}(I:X->Prop){P:Y->Prop}(z:∀x,I x->Al (step x) λr=>match r with|.inl x'=>I x'|.inr y=>P y):∀(n:Nat) (x:X),I x->Al (iter step n x) P
 |0,_,_=>λ_ e=>by cases e
 |n+1,x,hi=>λa e=>by
  rw[Go.Ab.iter]at e;cases q:step x with
  |none=>rw[q]at e;cases e
  |some r=>
   rw[q]at e
   have:=z x hi r q
   cases r with
   |inl x'=>exact Al.iter I z n x' this a e
   |inr y=>cases e;exact this
def Aoz{β:Type}{o:Option β}{f g:β->Option α}(h:∀b,o=C b->f b=g b):Option.bind o f=Option.bind o g:=by
 cases o with
 |none=>rfl
 |some b=>exact h b rfl
def Bqi{α β:Type _}{γ:Type}{a b:α}{c d:β}{r:Option γ}(h1:a=b)(e:c=d):(bif(eqQ a b&&(eqQ c d&&J))then r else N)=r:=by rw[Aec.2 h1,Aec.2 e];rfl
end Go.Ab
