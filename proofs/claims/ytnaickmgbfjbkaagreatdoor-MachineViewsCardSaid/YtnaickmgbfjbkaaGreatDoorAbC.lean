import Derived.Test.YtnaickmgbfjbkaaGreatDoorAbB
import Derived.Below
import Derived.Orders
import Derived.LoopN
import Derived.Laws.StructEq
import Derived.ProofKit
import Derived.OpenShut
import Derived.Deep.Slices
import Derived.KernelRfl
import Derived.Defers
set_option linter.all false
open Option renaming some->C,none->N
open Bool renaming true->J,false->U,false_eq_true->aY
open Go.Ab renaming get->O,St->V,lo->Z,Blk->aA,Out->aB,PSh->aC,Sig->aD,CSh->aE,Spec->aF,LoopOK->aK,SigOK->aP
open Go.Ab.M renaming ret->aG,bind->aI,bindneed->aJ,bindopt->aL,fail->aN,need->aQ,opt->aR,bind_spec->aT
open Nat renaming beq->aH,ble->aO,one_mul->bA,add_right_comm->bB,lt_trichotomy->bG
open Go.Ab.Cv renaming rds->aM
open Go.Ab.Ty renaming isAgg->aS
open Go.Ab.F2 renaming cons->aU
open Array renaming replicate->aV,getElem?_replicate->bC
open Go.Ab.CSh renaming give->aW
open Go.Ab.Pv renaming cells->aX
open List renaming cons_append->aZ,countP_cons_of_pos->bD,getElem?_zipWith->bE
namespace Go.Ab
variable{G:aD}
def Sv.cells{T:Nat->Type}:Sv T->List (Cv T)
 |.p x=>x.cells
 |.tup xs=>xs.flatMap aX
def Aan{T:Nat->Type}:List (Cv T)->List Nat->List Nat
 |[],acc=>acc
 |.own n::t,acc=>bif has acc n then Aan t acc else Aan t (acc++[n])
 |_::t,acc=>Aan t acc
def Gl:List Nat->Nat->Nat->Option Nat
 |[],_,_=>N
 |k::t,n,i=>bif aH k n then C i else Gl t n (i+1)
def TX:∀(l:List Nat) (n i m:Nat),Gl l n i=C m->i<=m/\l[m-i]?=C n
 |[],n,i,m,h=>by simp[Gl]at h
 |k::t,n,i,m,h=>by
  simp only[Gl,Bf]at h;by_cases e:k=n
  .simp[e]at h;subst h;simp[e]
  .rw[if_neg e]at h;obtain⟨h1,h2⟩:=TX t n (i+1) m h;exact⟨ω,by rw[show m-i=(m-(i+1))+1 by omega];simpa using h2⟩
section
variable{ν ν':Nat->Option Value}{S:Nat->Prop}{h:Array Obj}{f:Nat->Option Nat}(hf:∀n m x,f n=C m->ν n=C x->ν' m=C x)
include hf
end
def Azv{ν ν':Nat->Option Value}{S:Nat->Prop}{h:Array Obj}{n m t:Nat}{l:List (G.T t)}(he:ν' m=ν n)(r:Rb G ν S h n (.row t l)):Rb G ν' S h m (.row t l):=by
 rcases r with⟨h1,h2⟩|⟨b,cap,c,te,h1,h2⟩
 .exact .inl ⟨he.trans h1,h2⟩
 .exact .inr ⟨b,cap,c,te,he.trans h1,h2⟩
def Asv (P : Program) (g : Nat) : Prop := ∃ fn, P.funcs[g]? = C fn /\ (fn.name == "runtime.NumGoroutine") = U /\ fn.body.isNone = U
def XM{α:Type}:∀(l:List α) (n k:Nat),O (FU n l) k=if n<=k then l[k-n]? else N
 |[],n,k=>by simp[FU,O]
 |x::t,n,k=>by
  simp only[FU,O,Bf,XM t (n+1) k];by_cases e:n=k
  .subst e;simp
  .rw[if_neg e];by_cases h:n<=k
   .rw[if_pos h,if_pos ω,show k-n=(k-(n+1))+1 by omega];simp
   .rw[if_neg h,if_neg ω]
end Go.Ab
namespace Go.Ab
variable{G:aD}
variable{fn: Func}{g: Nat}
def Bdf(g:Nat->Option Nat):List (Nat×Nat)->Option (List (Nat×Nat)):=Cq λp=>match g p.1 with|some m=>C (m,p.2)|none=>N
def Cv.ren{T:Nat->Type}(f g:Nat->Option Nat):Cv T->Option (Cv T)
 |.own n=>match f n with|some m=>C (.own m)|none=>N
 |.ptr n off=>match g n with|some m=>C (.ptr m off)|none=>N
 |.clo k p q=>match Bdf g p,Bdf g q with|some p',C q'=>C (.clo k p' q')|_,_=>N
 |.np n t=>match g n with|some m=>C (.np m t)|none=>N
 |.sc v=>C (.sc v)
 |.ro t l=>C (.ro t l)
 |.rp t x o=>C (.rp t x o)
 |_=>N
def Pv.ren{T:Nat->Type}(f g:Nat->Option Nat):Pv T->Option (Pv T)
 |.one c=>match c.ren f g with|some c=>C (.one c)|none=>N
 |.agg cs=>match Cq (Cv.ren f g) cs with|some cs=>C (.agg cs)|none=>N
def Sv.ren{T:Nat->Type}(f g:Nat->Option Nat):Sv T->Option (Sv T)
 |.p x=>match x.ren f g with|some x=>C (.p x)|none=>N
 |.tup xs=>match Cq (Pv.ren f g) xs with|some xs=>C (.tup xs)|none=>N
def Cv.pts{T:Nat->Type}:Cv T->List Nat
 |.ptr n _=>[n]
 |.clo _ p q=>SO p++SO q
 |.np n _=>[n]
 |_=>[]
def Cv.ows{T:Nat->Type}:Cv T->List Nat
 |.own n=>[n]
 |_=>[]
def At9:List Nat->List Nat->List Nat
 |[],acc=>acc
 |n::t,acc=>bif has acc n then At9 t acc else At9 t (acc++[n])
def Yb(args:List (Pv G.T)):List Nat:=At9 (args.flatMap λp=>p.cells.flatMap Cv.pts) []
def inN(ns:List Nat)(n:Nat):Option Nat:=match Gl ns n 0 with|some i=>C (Z+i)|none=>N
def Aam(ns:List Nat)(n:Nat):Option Nat:=bif aO Z n then ns[n-Z]? else N
def Aey(ns:List Nat)(n:Nat):Option Nat:=bif Nat.blt n Z&&!has ns n then C n else N
def Alu(ns:List Nat):Option (aA G.T)->Option (aA G.T)
 |some (.cells cs)=>match Cq (Cv.ren (Aey ns) (inN ns)) cs with|some cs=>C (.cells cs)|none=>N
 |_=>N
def Avr:Option (aA G.T)->Option (aA G.T)
 |some (.row t l)=>C (.row t l)
 |_=>N
def Dm(ns:List Nat)(h:Nat->Option (aA G.T))(n:Nat):Option (aA G.T):=
 bif aO Z n then match ns[n-Z]? with|some m=>Alu ns (h m)|none=>N
 else bif has ns n then N else Avr (h n)
def SM{T:Nat->Type}:Cv T->Bool
 |.ro _ _=>U
 |.rp _ _ _=>U
 |_=>J
def XJ(G:aD):List (Nat×aA G.T)->Bool
 |[]=>J
 |(_,.row t _)::r=>G.flat t&&XJ G r
 |(_,.cells _)::_=>U
def Ank:List Nat->Bool
 |[]=>J
 |_=>U
structure Tin(α:Type) where
 x:α
 olds:List Nat
 fz:List Nat
 ft:List (Nat×Nat)
def ftC:aE->Cv G.T->List (Nat×Nat)
 |.ro t,.own n=>[(n,t)]
 |_,_=>[]
def ftL:List aE->List (Cv G.T)->List (Nat×Nat)
 |s::t,c::cs=>ftC s c++ftL t cs
 |_,_=>[]
def ftP:aC->Pv G.T->List (Nat×Nat)
 |.one s,.one c=>ftC s c
 |.agg ss,.agg cs=>ftL ss cs
 |_,_=>[]
def Aed(tm:List (Nat×Sv G.T)):List (Nat×aC)->List (Nat×Nat)
 |[]=>[]
 |p::t=>(match O tm p.1 with|some (.p c)=>ftP p.2 c|_=>[])++Aed tm t
def WJ:Nat->List Nat->Bool
 |_,[]=>J
 |n,k::t=>aH k n&&WJ (n+1) t
def QN(I:aF)(h1:Nat->Option (aA G.T))(k:Nat)(args:List (Pv G.T)):Option (Tin (I.T G)):=
 bif aH args.length I.tm.length&&aH k I.hp.length&&WJ Z (As I.hp)then
  match Gy h1 (FU 0 (args.map .p)) I.tm,II h1 I.hp with
  |some a,C b=>
   bif I.tm.all (λp=>p.2.fix (As I.hp))&&I.hp.all (λp=>p.2.all (CSh.fix (As I.hp)))&&
    (Gx (CB (a.nm++b.nm)++As I.hp)&&Xi (CB (a.nm++b.nm))&&Gx (CT (a.nm++b.nm)++As I.hp)&&(Xw (CT (a.nm++b.nm)++As I.hp) (a.fz++b.fz)&&Ae0 (a.nm++b.nm) (a.sh++b.sh)))
   then C ⟨(a.x,b.x),CT (a.nm++b.nm),a.fz++b.fz,Aed (FU 0 (args.map .p)) I.tm⟩else N
  |_,_=>N
 else N
structure Fe(G:Sig) where
 I:Spec
 E:List (Ex×Spec)
 F:I.T G->Option (DA G E)
 rs:List ResultVar
def WE(hp:Nat->Option (aA G.T)):List Nat->Option (List (List (Cv G.T))):=Cq λn=>match hp n with|some (.cells cs)=>C cs|_=>N
def Jy(I:aF)(rs:List ResultVar)(p:Ex×V G):Option (Sv G.T×List (List (Cv G.T))):=match p.1 with
 |.exit _=>N
 |_=>match RV p.2 rs,WE (O p.2.hp) (As I.hp)with
  |some s,C bl=>C (s,bl)
  |_,_=>N
def NA:List Nat->List (List (Cv G.T))->List (Nat×aA G.T)
 |n::ns,c::cs=>(n,.cells c)::NA ns cs
 |_,_=>[]
def Ab8:List (Nat×aA G.T)->List (Nat×Option (aA G.T))
 |[]=>[]
 |(n,k)::t=>(n,C k)::Ab8 t
def Vi(ns:List Nat)(h:Nat->Option (aA G.T))(args:List (Pv G.T)):List Nat:=args.flatMap (λp=>p.cells.flatMap Cv.ows)++ns.flatMap λn=>match h n with|some (.cells cs)=>cs.flatMap Cv.ows|_=>[]
def plC{T:Nat->Type}:Cv T->Bool
 |.sc _|.ro _ _|.rp _ _ _=>J
 |_=>U
def Vr(hp:Nat->Option (aA G.T)):List Nat->Nat->Option (List (Nat×aA G.T))
 |[],_=>C []
 |n::t,i=>match hp n,Vr hp t (i+1)with
  |some (.row u l),C r=>C ((i,.row u l)::r)
  |some (.cells cs),C r=>bif Nat.blt n Z&&cs.all plC then C ((i,.cells cs)::r)else N
  |_,_=>N
def frs{T:Nat->Type}:List (Cv T)->List Nat
 |[]=>[]
 |.ptr n _::t=>bif aO Z n then frs t else n::frs t
 |_::t=>frs t
def Bda(ns ms:List Nat)(nm n:Nat):Option Nat:=bif aO Z n then Aam ns n else Gl ms n nm
def Xl(G:aD)(t u:Nat):Bool:=!aH u t&&!G.loose u
def Agr(G:aD)(t:Nat):List (Option Nat)->Bool
 |[]=>J
 |none::r=>Agr G t r
 |some u::r=>Xl G t u&&(G.flat u&&Agr G t r)
def Vh(G:aD)(t u:Nat):Bool:=G.flat u||Agr G t ((G.enc u (G.dfl u)).map roC)
def ZH(G:aD)(t:Nat):Cv G.T->Bool
 |.ro u _=>Xl G t u&&Vh G t u
 |.rp _ _ _=>U
 |_=>J
def Adw(G:aD)(t:Nat):List (Nat×aA G.T)->Bool
 |[]=>J
 |(_,.row u _)::r=>Vh G t u&&Adw G t r
 |(_,.cells _)::_=>U
def Xm(G:aD)(ft:List (Nat×Nat))(cs:List (Cv G.T))(BF:List (Nat×aA G.T))(n:Nat):Bool:=match O ft n with
 |some t=>cs.all (ZH G t)&&Adw G t BF
 |none=>U
def Aui(ns:List Nat)(rd:List Nat)(nm:Nat)(olds fz:List Nat)(ft:List (Nat×Nat))(hp:Nat->Option (aA G.T))(s:Sv G.T)(bl:List (List (Cv G.T))):Option (aB G):=
 let ms:=Aan (s.cells++bl.flatten) []++frs s.cells
 match bif Gx ms then Vr hp ms nm else N,s.ren (λn=>Gl ms n nm) (Bda ns ms nm),Cq (Cq (Cv.ren (λn=>Gl ms n nm) (Aam ns))) bl with
 |some BF,C s',C bl'=>
  let flat:=Ank fz||((s.cells++bl.flatten).all SM&&XJ G BF)
  C ⟨C s',LQ (olds++bif flat then []else fz.filter λn=>!Xm G ft (s.cells++bl.flatten) BF n)++Ab8 (NA ns bl'++BF),AY BF,rd⟩
 |_,_,_=>N
section
variable(ns:List Nat)(h h1:Nat->Option (aA G.T))(nm:Nat)(rd:List Nat)(args:List (Pv G.T))(g:Nat)
def VM(e:Fe G)(t:Tin (e.I.T G))(p:Ex×V G):Option (aB G):=match Jy e.I e.rs p with
 |some sb=>Aui ns rd nm t.olds t.fz t.ft (O p.2.hp) sb.1 sb.2
 |none=>N
def Abn(e:Fe G)(t:Tin (e.I.T G)):M (aB G):=λ_ k=>(e.F t.x).bind λy=>Fs e.E y λp=>(VM ns nm rd e t p).bind k
def Ut:List (Nat×Fe G)->M (aB G)
 |[]=>aN
 |p::r=>λR k=>bif aH p.1 g then match QN p.2.I h1 ns.length args with
   |some t=>Abn ns nm rd p.2 t R k
   |none=>Ut r R k
  else Ut r R k
end
def cfP(l:List (Nat×Fe G)):BW G:=λg args h nm=>aI (aR (Cq (Pv.ren (Aey (Yb args)) (inN (Yb args))) args)) λargs'=>aI (aQ (Gx (Yb args))) λ_=>Ut (Yb args) (Dm (Yb args) h) nm (Yb args++Vi (Yb args) h args) args' g l
def Ff(P:Program)(G:aD)(g:Nat)(e:Fe G):Prop:=Asv P g/\
 ∀(x:e.I.T G) (y:DA G e.E) (p:Ex×V G) (s:Sv G.T) (bl:List (List (Cv G.T))),e.F x=C y->Fs e.E y C=C p->Jy e.I e.rs p=C (s,bl)->
 ∀(ν:Nat->Option Value) (S mo:Nat->Prop) (w:World) (vals:List Value),HRel G ν S (λb=>mo b\/w.heap.size<=b) (O (e.I.mk' x).hp) w->(∀n,ν n≠N->n∈(e.I.mk' x).us)->
  vals.length=e.I.tm.length->(∀k v,O (e.I.mk' x).tm k=C v->Rs G ν S w.heap v (vals.getD k undef))->
  Calls P g vals.toArray w λr w'=>∃v ν' S',r=.returned v/\Rs G ν' S' w'.heap s v/\HRel G ν' S' (λb=>mo b\/w.heap.size<=b) (O p.2.hp) w'/\
   (∀b,S b->S' b)/\(∀b,S' b->S b\/mo b\/w.heap.size<=b)/\(∀n y,Z<=n->ν n=C y->ν' n=C y)/\
   w.heap.size<=w'.heap.size/\(∀b,b<w.heap.size->¬mo b->w'.heap[b]?=w.heap[b]?)/\(w'.os=w.os/\w'.tape=w.tape/\w'.output=w.output)
section
variable{P:Program}(ok:aP P G)(eqok:EqOK P G){cf:BW G}(cfok:CfOK P G cf){drawn:Array Oper->V G->M (V G)}
 {lp:Nat->V G->M (Ex×V G)}{kl:Nat->List Nat}{jn:Nat->Option (List (Ex×aF))}
include ok in
theorem Anu(hfn : P.funcs[g]? = C fn)(hname : (fn.name == "runtime.NumGoroutine") = U)(hbody : fn.body.isNone = U){e : Fe G}(hrs : fn.results.toList = e.rs)(hlen : e.I.tm.length <= fn.ntmps)
  {run:V G->M (Ex×V G)}(hlaw:∀st,Law (run st)) (hF:∀x y,e.F x=C y->run (e.I.mk' x) _ (λp=>GD e.E p.1 p.2)=C y)
  (hs:∀(cx:Cx) (st st':V G) (ex:Ex) (args:Array Value) (w:World) (R:Ending->World->Prop),cx.nt=fn.ntmps->cx.df=[]->(∀n y,cx.nu0 n=C y->Z<=n)->(∀i,ex≠ .exit i)->run st _ C=C (ex,st')->
   Rel G cx st { tmps:=args++aV (fn.ntmps-args.size) undef,defers:=[] } w->(∀df (a':Act) w',Rel G { cx with df:=df } st' a' w'->∃v,(results fn a'.tmps).run P w'=.ok v w'/\R (.returned v) w')->Calls P g args w R):Ff P G g e:=by
 refine⟨⟨fn,hfn,hname,hbody⟩,λx y p s bl hy hp ho ν S mo w vals hheap hused hvl hslot=>?_⟩;obtain⟨⟨ex,st0⟩,h0,h2⟩:=(hlaw (e.I.mk' x)).spec (hF x y hy)
 let cx:Cx:=⟨w,mo,S,λn=>if Z<=n then ν n else N,fn.ntmps,[]⟩
 have hnu:∀n y,cx.nu0 n=C y->Z<=n:=λn y h=>by
  simp only[cx]at h;split at h
  .assumption
  .cases h
 have hrel0:Rel G cx (e.I.mk' x) { tmps:=vals.toArray++aV (fn.ntmps-vals.toArray.size) undef,defers:=[] } w:=by
  refine⟨ν,S,λk t hk=>?_,hheap,hused,rfl,(by show _=fn.ntmps;simp;omega),H_ _,λ_ _ _=>rfl,⟨rfl,rfl,rfl⟩,λb hb=>.inl hb,λ_ h=>h,λn z hn=>?_⟩
  .have:=hslot k t hk
   have e1:(vals.toArray++aV (fn.ntmps-vals.toArray.size) undef).getD k undef=vals.getD k undef:=by
    by_cases hk:k<vals.length
    .rw[r_,Array.getElem?_append_left (by simpa using hk)];simp[hk]
    .rw[r_,Array.getElem?_append_right (by simp;omega)];simp only[n_];rw[List.getElem?_eq_none ω];simp only[bC];split<;>rfl
   rw[e1];exact this
  .simp only[cx]at hn;split at hn
   .exact hn
   .cases hn
 obtain⟨st',h3,hrel⟩:∃st',p=(ex,st')/\∀df (a':Act) w',Rel G { cx with df:=df } st0 a' w'->Rel G { cx with df:=df } st' a' w':=by have h3:p=(ex,p.2):=Prod.ext (Ae1 e.E y ex st0 h2 p hp) rfl;exact⟨p.2,h3,λdf a' w' r=>by obtain⟨st2,h4,h5⟩:=Vv (cx:={ cx with df:=df }) hnu e.E h2 r C p hp;simp at h4;rw[h3]at h4;cases h4;exact h5⟩
 subst h3;have hres:RV st' fn.results.toList=C s/\∀i,ex≠ .exit i:=by
  rw[hrs];unfold Jy at ho;cases ex with
  |exit i=>simp at ho
  |normal=>
   simp only at ho;split at ho
   .rename_i s1 b1 q1 q2;simp at ho;exact⟨q1.trans (congrArg C ho.1),σ⟩
   .simp at ho
  |ret=>
   simp only at ho;split at ho
   .rename_i s1 b1 q1 q2;simp at ho;exact⟨q1.trans (congrArg C ho.1),σ⟩
   .simp at ho
 refine hs cx (e.I.mk' x) st0 ex vals.toArray w _ rfl rfl hnu hres.2 h0 hrel0 λdf a' w' r''=>?_;obtain⟨ν',S',r'⟩:=hrel df a' w' r'';obtain⟨v,hrun,hv⟩:=Arc ok r' hres.1;exact⟨v,hrun,v,ν',S',rfl,hv,r'.heap,r'.keep,r'.sub,λn z hn hz=>r'.names n z (by simp only[cx];rw[if_pos hn];exact hz),r'.size,r'.frame,r'.env⟩
include ok eqok cfok in
theorem Aqf{body : Code}(hfn : P.funcs[g]? = C fn)(hname : (fn.name == "runtime.NumGoroutine") = U)(hbody : fn.body = C body){e : Fe G}(hrs : fn.results.toList = e.rs)(hlen : e.I.tm.length <= fn.ntmps)
  (dok:DrawOK P G fn.ntmps drawn) (hl:∀(k:Nat) c',(AQ body)[k]?=C c'->aK P G fn.ntmps (lp k) c')
  (hF:∀x y,e.F x=C y->BQ cf fn.ntmps drawn lp kl jn 0 body (e.I.mk' x) _ (λp=>GD e.E p.1 p.2)=C y):Ff P G g e:=by
 have hl0:∀(k:Nat) c',(AQ body)[k]?=C c'->aK P G fn.ntmps (lp (0+k)) c':=λk c' hk=>by rw[k_];exact hl k c' hk
 refine Anu ok hfn hname (by rw[hbody];rfl) hrs hlen (λst=>DC cfok dok (kl:=kl) (jn:=jn) body 0 st hl0) hF λcx st st' ex args w R hnt hdf hnu hex h0 hrel hR=>?_;refine calls_of_wp hfn hbody (Fa ok eqok cfok dok hnt hnu body 0 _ st' ex _ w _ hl0 h0 hrel λe' a' w' he r'=>?_);have hpost:bodyPost P fn R .ret a' w':=⟨by obtain⟨_,_,r⟩:=r';exact r.defers.trans hdf,hR cx.df a' w' r'⟩
 cases ex with
 |normal=>rw[Ju he];exact hpost
 |ret=>rw[SY he];exact hpost
 |exit i=>exact absurd rfl (hex i)
end
end Go.Ab
namespace Go.Ab
variable{G:aD}
variable{vs:List Value}{v:Value}
section
variable{ν ν1:Nat->Option Value}{S:Nat->Prop}{h:Array Obj}{f g:Nat->Option Nat}
def Aez(hg:∀n m x,g n=C m->ν n=C x->ν1 m=C x){p:Nat×Nat}{m:Nat}(hm:g p.1=C m)(r:RPtr ν p v):RPtr ν1 (m,p.2) v:=by obtain⟨b,h1,h2⟩:=r;exact⟨b,hg _ _ _ hm h1,h2⟩
def Akl(hg:∀n m x,g n=C m->ν n=C x->ν1 m=C x){p p':List (Nat×Nat)}(hp:Bdf g p=C p')(r:F2 (RPtr ν) p vs):F2 (RPtr ν1) p' vs:=by
 obtain⟨h1,h2⟩:=BU _ _ hp;refine⟨by rw[h1];exact r.1,λi x y hx hy=>?_⟩;have hi:i<p.length:=by have:=(g_.1 hx).1;omega
 obtain⟨z,hz,hfz⟩:=h2 i _ (j_ hi);rw[hx]at hz;cases hz;split at hfz
 .rename_i m hm;cases hfz;exact Aez hg hm (r.2 i _ y (j_ hi) hy)
 .cases hfz
variable(hf:∀n m x,f n=C m->ν n=C x->ν1 m=C x)(hg:∀n m x,g n=C m->ν n=C x->ν1 m=C x)
include hf hg
theorem Azx{c c':Cv G.T}(hc:c.ren f g=C c')(r:Rc G ν S h c v):Rc G ν1 S h c' v:=by
 cases c with
 |own n=>
  simp only[Cv.ren]at hc;split at hc
  .rename_i m hm;cases hc;obtain⟨a,len,cap,h1,h2⟩:=r;exact⟨a,len,cap,hf n m _ hm h1,h2⟩
  .cases hc
 |ptr n off=>
  simp only[Cv.ren]at hc;split at hc
  .rename_i m hm;cases hc;exact Aez hg (p:=(n,off)) hm r
  .cases hc
 |clo k p q=>
  simp only[Cv.ren]at hc;split at hc
  .rename_i p' q' hp hq;cases hc;obtain⟨vp,vq,h1,h2,h3⟩:=r;exact⟨vp,vq,h1,Akl hg hp h2,Akl hg hq h3⟩
  .cases hc
 |np n t=>
  simp only[Cv.ren]at hc;split at hc
  .rename_i m hm;cases hc;exact r.imp (λh=>h) (Aez hg (p:=(n,0)) hm)
  .cases hc
 |sc v=>cases hc;exact r
 |ro t l=>cases hc;exact r
 |rp t x o=>cases hc;exact r
 |pd _ _ _ _ _=>cases hc
 |pr _ _ _ _=>cases hc
 |sa _ _ _=>cases hc
omit hf hg in
theorem Asi{f g:Nat->Option Nat}{cs cs':List (Cv G.T)}(hc:Cq (Cv.ren f g) cs=C cs'){m t:Nat}(hm:Cv.np m t∈cs'):∃m0,Cv.np m0 t∈cs/\g m0=C m:=by
 obtain⟨m1,m2⟩:=BU _ _ hc;obtain⟨i,hi⟩:=c3_.1 hm;have hi':i<cs.length:=by have:=(g_.1 hi).1;omega
 obtain⟨z,hz,hfz⟩:=m2 i _ (j_ hi');rw[hi]at hz;cases hz;have hmem:cs[i]∈cs:=f1_ hi';generalize cs[i]=c at hfz hmem;cases c with
 |np n tt=>
  simp only[Cv.ren]at hfz;split at hfz
  .rename_i q hq;cases hfz;exact⟨n,hmem,hq⟩
  .cases hfz
 |own n=>simp only[Cv.ren]at hfz;split at hfz<;>cases hfz
 |ptr n off=>simp only[Cv.ren]at hfz;split at hfz<;>cases hfz
 |clo k p q=>simp only[Cv.ren]at hfz;split at hfz<;>cases hfz
 |sc v=>cases hfz
 |ro t l=>cases hfz
 |rp t x o=>cases hfz
 |pd _ _ _ _ _=>cases hfz
 |pr _ _ _ _=>cases hfz
 |sa _ _ _=>cases hfz
theorem Ai8{cs cs':List (Cv G.T)}(hc:Cq (Cv.ren f g) cs=C cs')(r:F2 (Rc G ν S h) cs vs):F2 (Rc G ν1 S h) cs' vs:=by
 obtain⟨m1,m2⟩:=BU _ _ hc;refine⟨by rw[m1];exact r.1,λi x y hx hy=>?_⟩;have hi:i<cs.length:=by have:=(g_.1 hx).1;omega
 obtain⟨z,hz,hfz⟩:=m2 i _ (j_ hi);rw[hx]at hz;cases hz;exact Azx hf hg hfz (r.2 i _ y (j_ hi) hy)
theorem Az1{x x':Pv G.T}(hc:x.ren f g=C x')(r:Rp G ν S h x v):Rp G ν1 S h x' v:=by
 cases r with
 |one c v hrc=>
  simp only[Pv.ren]at hc;split at hc
  .rename_i c' hc';cases hc;exact .one _ _ (Azx hf hg hc' hrc)
  .cases hc
 |agg cs vs hrc=>
  simp only[Pv.ren]at hc;split at hc
  .rename_i cs' hcs;cases hc;exact .agg _ _ (Ai8 hf hg hcs hrc)
  .cases hc
theorem Asm{xs xs':List (Pv G.T)}(hc:Cq (Pv.ren f g) xs=C xs')(r:F2 (Rp G ν S h) xs vs):F2 (Rp G ν1 S h) xs' vs:=by
 obtain⟨m1,m2⟩:=BU _ _ hc;refine⟨by rw[m1];exact r.1,λi x y hx hy=>?_⟩;have hi:i<xs.length:=by have:=(g_.1 hx).1;omega
 obtain⟨z,hz,hfz⟩:=m2 i _ (j_ hi);rw[hx]at hz;cases hz;exact Az1 hf hg hfz (r.2 i _ y (j_ hi) hy)
theorem Blf{x x':Sv G.T}(hc:x.ren f g=C x')(r:Rs G ν S h x v):Rs G ν1 S h x' v:=by
 cases r with
 |p c v hrc=>
  simp only[Sv.ren]at hc;split at hc
  .rename_i c' hc';cases hc;exact .p _ _ (Az1 hf hg hc' hrc)
  .cases hc
 |tup cs vs hrc=>
  simp only[Sv.ren]at hc;split at hc
  .rename_i cs' hcs;cases hc;exact .tup _ _ (Asm hf hg hcs hrc)
  .cases hc
end
structure TakeC(I:Spec)(nm:List (Nat×Option Nat))(fz:List Nat)(sh:List (Nat×Nat)):Prop where
 tm:I.tm.all (λp=>p.2.fix (As I.hp))=true
 hp:I.hp.all (λp=>p.2.all (CSh.fix (As I.hp)))=true
 keys:(CB nm++As I.hp).Nodup
 low:∀n∈CB nm,n<lo
 olds:(CT nm++As I.hp).Nodup
 disj:∀n∈CT nm++As I.hp,n∉fz
 shr:∀p∈sh,(p.1,some p.2)∈nm
def Az4{I:aF}{h1:Nat->Option (aA G.T)}{tm:List (Nat×Sv G.T)}{a:Tk (TmT G I.tm)}{b:Tk (HpT G I.hp)}(hta:Gy h1 tm I.tm=C a)(htb:II h1 I.hp=C b)
  (hc:TakeC I (a.nm++b.nm) (a.fz++b.fz) (a.sh++b.sh)) {ν:Nat->Option Value}{S B:Nat->Prop}{w:World}(hr:HRel G ν S B h1 w) {f:Nat->Value}(hs:∀k s,O tm k=C s->Rs G ν S w.heap s (f k)) :
  ∃ν' S',(∀k v,O (I.mk' (a.x,b.x)).tm k=C v->Rs G ν' S' w.heap v (f k))/\HRel G ν' S' B (O (I.mk' (a.x,b.x)).hp) w/\(∀n,ν' n≠N->n∈(I.mk' (a.x,b.x)).us)/\
   (∀n∈As I.hp,ν' n=ν n/\∃cs,h1 n=C (.cells cs))/\(∀c,S' c↔S c\/∃n∈a.fz++b.fz,h1 n≠N/\∃y,ν n=C y/\AC y=C c)/\
   (∀n y c,O (I.mk' (a.x,b.x)).hp n≠N->ν' n=C y->AC y=C c->∃m,ν m=C y/\h1 m≠N/\(m∈CT (a.nm++b.nm)\/m∈As I.hp))/\
   (∀n∈CT (a.nm++b.nm),h1 n≠N):=by
 generalize hρ:a.nm++b.nm=ρ at hc|-;generalize hfz:a.fz++b.fz=fz at hc|-;generalize hsh:a.sh++b.sh=sh at hc;have d3:=List.nodup_append.1 hc.keys;have d5:=List.nodup_append.1 hc.olds
 let ν':Nat->Option Value:=λn=>match O ρ n with
  |some (C m)=>ν m
  |some N=>C (.slice N 0 0)
  |none=>if n∈As I.hp then ν n else N
 let S':Nat->Prop:=λc=>S c\/∃n∈fz,h1 n≠N/\∃y,ν n=C y/\AC y=C c
 have hown:∀p∈ρ,ν' p.1=match p.2 with|some n=>ν n|none=>C (.slice N 0 0):=by intro p hp;simp only[ν',Ar8 d3.1 hp];cases p.2<;>rfl
 have hno:∀n,n∉CB ρ->O ρ n=N:=by
  intro n hn;cases hg:O ρ n with
  |none=>rfl
  |some o=>exact absurd (Rn (IB hg)) hn
 have hkeep:∀n∈As I.hp,ν' n=ν n:=by
  intro n hn
  have:O ρ n=N:=hno n λhm=>d3.2.2 n hm n hn rfl
  simp only[ν',this];rw[if_pos hn]
 have rn:Ren ν ν' S S' h1 (As I.hp) ρ fz sh:=⟨hown,hkeep,λn hn hh y c hy hb=>.inr ⟨n,hn,hh,y,hy,hb⟩,λc hb=>.inl hb,λp hp=>hown _ (hc.shr p hp)⟩
 rw[<-hρ,<-hfz,<-hsh]at rn;obtain⟨g1,g2⟩:=Uq hr hs I.tm a hta hc.tm rn.left;obtain⟨g3,g4,g5,g6⟩:=Uo hr I.hp b htb (λ_ h=>h) hc.hp rn.right;have hkeys:AY (MU I.tm a.x++(SE I.hp b.x++Gv I.hp b.x))=CB ρ++As I.hp:=by rw[Fi,Fi,g2.2.1,g6.2.1,g4,<-hρ,TY,M_]
 have holds:∀m n,(n,C m)∈ρ->h1 m≠N:=by
  intro m n ho;rw[<-hρ]at ho;rcases u_.1 ho with ho|ho
  .exact g2.2.2 _ ho m rfl
  .exact g6.2.2 _ ho m rfl
 have hsrc:∀n y c,O (MU I.tm a.x++(SE I.hp b.x++Gv I.hp b.x)) n≠N->ν' n=C y->AC y=C c->
   ∃m,ν m=C y/\h1 m≠N/\((n,C m)∈ρ\/(n∈As I.hp/\m=n)):=by
  intro n y c hn hy hb;obtain⟨k,hk⟩:=Option.ne_none_iff_exists'.1 hn;have hm:=Vg (IB hk);rw[hkeys]at hm;rcases u_.1 hm with hm|hm
  .obtain⟨o,ho⟩:=Ajy hm;have h1':=hown _ ho;simp only at h1';cases o with
   |none=>rw[hy]at h1';simp at h1';subst h1';simp[AC]at hb
   |some m=>exact⟨m,by rw[<-hy,h1'],holds m n ho,.inl ho⟩
  .refine⟨n,by rw[<-hkeep n hm];exact hy,?_,.inr ⟨hm,rfl⟩⟩;obtain⟨cs,hcs⟩:=g5 n hm;rw[hcs];simp
 refine⟨ν',S',g1,⟨λn k hk=>?_,λn m y z c h1 h2 h3 h4 h5 h6=>?_,λn y c h1 h2 h3=>?_,λc hb=>?_,hr.gl.mono (λ_ h=>.inl h) λ_ _=>rfl⟩,λn hn=>?_,λn hn=>⟨hkeep n hn,g5 n hn⟩,λ_=>Iff.rfl,λn y c hn hy hb=>?_,λn hn=>?_⟩
 .have hm:=IB hk;rcases u_.1 hm with hm|hm
  .exact g2.1 _ hm
  .rcases u_.1 hm with hm|hm
   .exact g6.1 _ hm
   .exact g3 _ hm
 .obtain⟨n1,q1,q2,q3⟩:=hsrc n y c h1 h3 h5;obtain⟨n2,p1,p2,p3⟩:=hsrc m z c h2 h4 h6;have e:=hr.apart n1 n2 y z c q2 p2 q1 p1 h5 h6;subst e;rcases q3 with q3|⟨q3,q4⟩<;>rcases p3 with p3|⟨p3,p4⟩
  .exact Aoo d5.1 q3 p3
  .exact absurd rfl (d5.2.2 n1 (HB q3) n1 (by rw[p4];exact p3))
  .exact absurd rfl (d5.2.2 n1 (HB p3) n1 (by rw[q4];exact q3))
  .exact q4.symm.trans p4
 .obtain⟨n1,q1,q2,q3⟩:=hsrc n y c h1 h2 h3;obtain⟨o1,o2⟩:=hr.own n1 y c q2 q1 h3;refine⟨?_,o2⟩;rintro(hS|⟨m,hm,hmh,z,hz,hbz⟩)
  .exact o1 hS
  .have e:=hr.apart n1 m y z c q2 hmh q1 hz h3 hbz;subst e;refine hc.disj n1 (u_.2 ?_) hm;rcases q3 with q3|⟨q3,q4⟩
   .exact .inl (HB q3)
   .exact .inr (by rw[q4];exact q3)
 .rcases hb with hb|⟨m,hm,hmh,z,hz,hbz⟩
  .exact hr.stay c hb
  .exact hr.lt hmh hz hbz
 .show n∈AY _++I.us;rw[hkeys];cases hg:O ρ n with
  |some o=>simp[Rn (IB hg)]
  |none=>
   simp only[ν',hg]at hn;by_cases hc:n∈As I.hp
   .simp[hc]
   .rw[if_neg hc]at hn;simp at hn
 .obtain⟨m,q1,q2,q3⟩:=hsrc n y c hn hy hb;refine⟨m,q1,q2,?_⟩;rcases q3 with q3|⟨q3,q4⟩
  .exact .inl (HB q3)
  .exact .inr (by rw[q4];exact q3)
 .have:∃m,(m,C n)∈ρ:=by
   clear hown hno hkeep rn hkeys hsrc d3 d5 g1 g2 g3 g4 g5 g6 hc holds hρ;induction ρ with
   |nil=>simp[CT]at hn
   |cons p t ih=>
    obtain⟨k,o⟩:=p;cases o with
    |none=>simp only[CT]at hn;obtain⟨m,hm⟩:=ih hn;exact⟨m,by simp[hm]⟩
    |some j=>
     simp only[CT,v_]at hn;rcases hn with rfl|hn
     .exact⟨k,σ⟩
     .obtain⟨m,hm⟩:=ih hn;exact⟨m,by simp[hm]⟩
  obtain⟨m,hm⟩:=this;exact holds n m hm
end Go.Ab
namespace Go.Ab
variable{G:aD}
variable{ν:Nat->Option Value}{ns:List Nat}{h:Array Obj}{v x:Value}{out:aB G}{n nm:Nat}
def Ac2(h:Nat->Option (aA G.T)):∀(d e:List (Nat×Option (aA G.T))),AW h (d++e)=AW (AW h d) e
 |[],e=>rfl
 |p::d,e=>by obtain⟨n,k⟩:=p;simp only[aZ,AW];exact Ac2 _ d e
def Ajd:∀(r:List (Nat×aA G.T)) (h:Nat->Option (aA G.T)) (n:Nat),(AY r).Nodup->AW h (Ab8 r) n=match O r n with|some k=>C k|none=>h n
 |[],h,n,_=>rfl
 |(m,k)::t,h,n,hn=>by
  simp only[AY,List.nodup_cons]at hn;simp only[Ab8,AW,Ajd t _ n hn.2,O,Bf];by_cases e:m=n
  .subst e;rw[if_pos rfl];cases hg:O t m with
   |none=>simp
   |some k'=>exact absurd (Vg (IB hg)) hn.1
  .rw[if_neg e];cases O t n with
   |none=>simp[e]
   |some k'=>simp[e]
def Af8{α:Type}:∀(a b:List (Nat×α)) (n:Nat),O (a++b) n=match O a n with|some k=>C k|none=>O b n
 |[],_,_=>rfl
 |(m,k)::t,b,n=>by simp only[aZ,O,Bf,Af8 t b n];by_cases e:m=n<;>simp[e]
def Any:∀(ns:List Nat) (cs:List (List (Cv G.T))) (n:Nat) (k:aA G.T),O (NA ns cs) n=C k->∃(i:Nat) (c:List (Cv G.T)),ns[i]?=C n/\cs[i]?=C c/\k=.cells c
 |[],_,n,k,h=>by simp[NA,O]at h
 |_::_,[],n,k,h=>by simp[NA,O]at h
 |m::ns,c::cs,n,k,h=>by
  simp only[NA,O,Bf]at h;by_cases e:m=n
  .rw[if_pos e]at h;cases h;exact⟨0,c,by simp[e],rfl,rfl⟩
  .rw[if_neg e]at h;obtain⟨i,c',h1,h2,h3⟩:=Any ns cs n k h;exact⟨i+1,c',by simpa using h1,by simpa using h2,h3⟩
def Aad:∀(ns:List Nat) (cs:List (List (Cv G.T))),cs.length=ns.length->AY (NA ns cs)=ns
 |[],[],_=>rfl
 |[],_::_,h=>by simp at h
 |_::_,[],h=>by simp at h
 |m::ns,c::cs,h=>by simp only[NA,AY,Aad ns cs (by simpa using h)]
def okK(n:Nat):aA G.T->Prop
 |.row _ _=>True
 |.cells cs=>n<Z/\∀c∈cs,plC c=J
def Ahc{hp:Nat->Option (aA G.T)}:∀(l:List Nat) (i:Nat) (r:List (Nat×aA G.T)),Vr hp l i=C r->(∀n,n∈AY r↔i<=n/\n<i+l.length)/\(AY r).Nodup/\
  ∀j m,l[j]?=C m->∃k,hp m=C k/\O r (i+j)=C k/\okK m k
 |[],i,r,h=>by simp[Vr]at h;subst h;exact⟨λn=>by simp[AY];try omega,by simp[AY],λj m hm=>by simp at hm⟩
 |m::t,i,r,h=>by
  have key:∃k r',r=(i,k)::r'/\hp m=C k/\Vr hp t (i+1)=C r'/\okK m k:=by
   simp only[Vr]at h;split at h
   .rename_i u l r' hn hr;cases h;exact⟨_,_,rfl,hn,hr,trivial⟩
   .rename_i cs r' hn hr;cases hb:(Nat.blt m Z&&cs.all plC)with
    |false=>rw[hb]at h;cases h
    |true=>rw[hb]at h;cases h;rw[e_]at hb;exact⟨_,_,rfl,hn,hr,(by have:=hb.1;simpa using this),C_.1 hb.2⟩
   .cases h
  obtain⟨k,r',rfl,hn,hr,hk⟩:=key;obtain⟨h1,h2,h3⟩:=Ahc t (i+1) r' hr;refine⟨λn=>?_,?_,λj m' hm=>?_⟩
  .simp only[AY,v_,h1,N_];omega
  .simp only[AY,List.nodup_cons];exact⟨λhm=>by have:=(h1 i).1 hm;omega,h2⟩
  .cases j with
   |zero=>simp at hm;subst hm;exact⟨k,hn,by simp[O],hk⟩
   |succ j=>obtain⟨k',q1,q2,q3⟩:=h3 j m' (by simpa using hm);refine⟨k',q1,?_,q3⟩;simp only[O,Bf];rw[if_neg ω,show i+(j+1)=i+1+j by omega];exact q2
def Bgr{ν':Nat->Option Value}{S:Nat->Prop}{m:Nat}{k:aA G.T}(hk:okK n k)(he:ν' m=ν n)(r:Rb G ν S h n k):Rb G ν' S h m k:=by
 cases k with
 |row t l=>exact Azv he r
 |cells cs=>
  obtain⟨b,c,te,q1,q2,q3,q4⟩:=r;refine⟨b,c,te,he.trans q1,q2,⟨q3.1,λi x y hx hy=>?_⟩,λp t hm=>?_⟩
  .have hc:=hk.2 x (p_ hx)
   have:=q3.2 i x y hx hy
   cases x<;>first|exact this|(simp[plC]at hc)
  .have:=hk.2 _ hm
   simp[plC]at this
def Af3:∀(r:List (Nat×aA G.T)) (n:Nat) (k:aA G.T),XJ G r=J->O r n=C k->∃t l,k=.row t l/\G.flat t=J
 |[],n,k,_,h=>by simp[O]at h
 |(m,.cells cs)::t,n,k,h,_=>by simp[XJ]at h
 |(m,.row u l)::t,n,k,h,hg=>by
  simp only[XJ,e_]at h;simp only[O,Bf]at hg;by_cases e:m=n
  .rw[if_pos e]at hg;cases hg;exact⟨u,l,rfl,h.1⟩
  .rw[if_neg e]at hg;exact Af3 t n k h.2 hg
def Ai7{S S':Nat->Prop}{c:Cv G.T}(hf:SM c=J)(r:Rc G ν S h c v):Rc G ν S' h c v:=by
 cases c with
 |sc v0=>
  have r':Rd G S h (.sc v0) v:=r;cases r' with
  |sc _ hsc=>exact Rd.sc _ hsc
 |ro t l=>simp[SM]at hf
 |rp t x o=>simp[SM]at hf
 |ptr _ _=>exact r
 |pd _ _ _ _ _=>exact r
 |pr _ _ _ _=>exact r
 |own _=>exact r
 |clo _ _ _=>exact r
 |np _ _=>exact r
 |sa _ _ _=>exact r
def Asl{S S':Nat->Prop}{x:Pv G.T}(hf:∀c∈x.cells,SM c=J)(r:Rp G ν S h x v):Rp G ν S' h x v:=by
 cases r with
 |one c v hc=>exact .one _ _ (Ai7 (hf c (by simp[aX])) hc)
 |agg cs vs hc=>exact .agg _ _ ⟨hc.1,λi a b ha hb=>Ai7 (hf a (p_ ha)) (hc.2 i a b ha hb)⟩
def Asn{S S':Nat->Prop}{x:Sv G.T}(hf:∀c∈x.cells,SM c=J)(r:Rs G ν S h x v):Rs G ν S' h x v:=by
 cases r with
 |p x v hc=>exact .p _ _ (Asl hf hc)
 |tup xs vs hc=>exact .tup _ _ ⟨hc.1,λi a b ha hb=>Asl (λc hm=>hf c (b4_.2 ⟨a,p_ ha,hm⟩)) (hc.2 i a b ha hb)⟩
def LH{a b:Nat}:aO a b=J↔a<=b:=by simp
def VQ:∀{n:Nat}{l:List Nat},WJ n l=J->∀i k,l[i]?=C k->k=n+i
 |n,[],_,i,k,h=>by simp at h
 |n,m::t,h,i,k,hk=>by
  simp only[WJ,e_,AA]at h;cases i with
  |zero=>simp at hk;omega
  |succ i=>have:=VQ h.2 i k (by simpa using hk);omega
def Awd{I:aF}{h1:Nat->Option (aA G.T)}{k:Nat}{args:List (Pv G.T)}{t:Tin (I.T G)}(h:QN I h1 k args=C t) :
  args.length=I.tm.length/\(As I.hp).length=k/\(∀i n,(As I.hp)[i]?=C n->n=Z+i)/\∃a b,Gy h1 (FU 0 (args.map .p)) I.tm=C a/\II h1 I.hp=C b/\TakeC I (a.nm++b.nm) (a.fz++b.fz) (a.sh++b.sh)/\t=⟨(a.x,b.x),CT (a.nm++b.nm),a.fz++b.fz,Aed (FU 0 (args.map .p)) I.tm⟩:=by
 unfold QN at h;have hl:∀l:List (Nat×List aE),(As l).length=l.length:=by intro l;induction l with|nil=>rfl|cons p t ih=>simp[As,ih]
 cases hb:aH args.length I.tm.length&&aH k I.hp.length&&WJ Z (As I.hp)with
 |false=>rw[hb]at h;cases h
 |true=>
  rw[hb]at h;simp only[e_,AA]at hb;obtain⟨hb,c7⟩:=hb;simp only[d_]at h;split at h
  .rename_i a b ha hb';generalize hc:(I.tm.all (λp=>p.2.fix (As I.hp))&&I.hp.all (λp=>p.2.all (CSh.fix (As I.hp)))&&
    (Gx (CB (a.nm++b.nm)++As I.hp)&&Xi (CB (a.nm++b.nm))&&Gx (CT (a.nm++b.nm)++As I.hp)&&(Xw (CT (a.nm++b.nm)++As I.hp) (a.fz++b.fz)&&Ae0 (a.nm++b.nm) (a.sh++b.sh))))=c at h
   cases c with
   |false=>cases h
   |true=>cases h;simp only[e_]at hc;obtain⟨⟨c1,c2⟩,⟨⟨c3,c4⟩,c5⟩,c6,c8⟩:=hc;exact⟨hb.1,by rw[hl];exact hb.2.symm,λi n=>VQ c7 i n,a,b,ha,hb',⟨c1,c2,HK c3,Xj c4,HK c5,Xx c6,Aa7 c8⟩,rfl⟩
  .cases h
def Ay4(ns:List Nat)(nm:Nat)(rd:List Nat)(e:Fe G)(t:Tin (e.I.T G)):Law (Abn ns nm rd e t):=by
 intro R k;unfold Abn;cases e.F t.x with
 |none=>rfl
 |some y=>
  show Fs e.E y (λp=>(VM ns nm rd e t p).bind k)=(Fs e.E y (λp=>(VM ns nm rd e t p).bind C)).bind k;rw[NE,NE e.E y (λp=>(VM ns nm rd e t p).bind C)];cases Fs e.E y C with
  |none=>rfl
  |some p=>show(VM ns nm rd e t p).bind k=((VM ns nm rd e t p).bind C).bind k;cases VM ns nm rd e t p<;>rfl
def Afs{rd:List Nat}{e:Fe G}{t:Tin (e.I.T G)}(h:Abn ns nm rd e t _ C=C out):
  ∃y p s bl,e.F t.x=C y/\Fs e.E y C=C p/\Jy e.I e.rs p=C (s,bl)/\Aui ns rd nm t.olds t.fz t.ft (O p.2.hp) s bl=C out:=by
 unfold Abn at h;cases hy:e.F t.x with
 |none=>rw[hy]at h;cases h
 |some y=>
  rw[hy]at h;have h:Fs e.E y (λp=>(VM ns nm rd e t p).bind C)=C out:=h;rw[NE]at h;cases hp:Fs e.E y C with
  |none=>rw[hp]at h;cases h
  |some p=>
   rw[hp]at h;have h:(VM ns nm rd e t p).bind C=C out:=h;unfold VM at h;cases ho:Jy e.I e.rs p with
   |none=>rw[ho]at h;cases h
   |some sb=>rw[ho]at h;simp only[Option.bind_fun_some]at h;exact⟨y,p,sb.1,sb.2,rfl,hp,ho,h⟩
def Ael(ns:List Nat)(h1:Nat->Option (aA G.T))(nm:Nat)(rd:List Nat)(args:List (Pv G.T))(g:Nat):∀l,Law (Ut ns h1 nm rd args g l)
 |[]=>Aj
 |p::r=>by
  intro R k;have ih:=Ael ns h1 nm rd args g r R k;simp only[Ut];cases aH p.1 g with
  |false=>exact ih
  |true=>
   simp only[d_];cases QN p.2.I h1 ns.length args with
   |none=>exact ih
   |some t=>exact Ay4 ns nm rd p.2 t R k
def Vx{ns:List Nat}{h1:Nat->Option (aA G.T)}{nm:Nat}{rd:List Nat}{args:List (Pv G.T)}{g:Nat}:∀{l:List (Nat×Fe G)}{out:aB G},Ut ns h1 nm rd args g l _ C=C out->
  ∃p∈l,p.1=g/\∃t,QN p.2.I h1 ns.length args=C t/\Abn ns nm rd p.2 t _ C=C out
 |[],out,h=>by simp[Ut,aN]at h
 |p::r,out,h=>by
  simp only[Ut]at h;cases hb:aH p.1 g with
  |false=>rw[hb]at h;obtain⟨q,hq,h2⟩:=Vx (l:=r) h;exact⟨q,by simp[hq],h2⟩
  |true=>
   rw[hb]at h;simp only[d_]at h;split at h
   .rename_i t ht;exact⟨p,σ,AA.1 hb,t,ht,h⟩
   .obtain⟨q,hq,h2⟩:=Vx (l:=r) h;exact⟨q,by simp[hq],h2⟩
def Ajq{rd:List Nat}{olds fz:List Nat}{ft:List (Nat×Nat)}{hp:Nat->Option (aA G.T)}{s:Sv G.T}{bl:List (List (Cv G.T))}(h:Aui ns rd nm olds fz ft hp s bl=C out):
  ∃ms BF s' bl',Vr hp ms nm=C BF/\s.ren (λn=>Gl ms n nm) (Bda ns ms nm)=C s'/\Cq (Cq (Cv.ren (λn=>Gl ms n nm) (Aam ns))) bl=C bl'/\ms.Nodup/\
   ∃fz',out=⟨C s',LQ (olds++fz')++Ab8 (NA ns bl'++BF),AY BF,rd⟩/\(fz'=(fz.filter λn=>!Xm G ft (s.cells++bl.flatten) BF n)\/(fz'=[]/\(∀c∈s.cells++bl.flatten,SM c=J)/\XJ G BF=J)\/fz=[])/\(∀n∈fz',n∈fz):=by
 unfold Aui at h;simp only at h;split at h
 .rename_i BF s' bl' h1 h2 h3;generalize hms:Aan (s.cells++bl.flatten) []++frs s.cells=ms at h1 h2 h3 h;have hnd:Gx ms=J/\Vr hp ms nm=C BF:=by
   cases hb:Gx ms with
   |false=>rw[hb]at h1;cases h1
   |true=>rw[hb]at h1;exact⟨rfl,h1⟩
  refine⟨_,BF,s',bl',hnd.2,h2,h3,HK hnd.1,_,(D_ h).symm,?_⟩;cases hfl:(Ank fz||((s.cells++bl.flatten).all SM&&XJ G BF))with
  |false=>exact⟨.inl rfl,λn hn=>(List.mem_filter.1 hn).1⟩
  |true=>
   refine⟨.inr ?_,λn hn=>by simp at hn⟩;simp only[b0_,e_]at hfl;rcases hfl with hfl|⟨h8,h9⟩
   .exact .inr (by cases fz with|nil=>rfl|cons a t=>simp[Ank]at hfl)
   .exact .inl ⟨rfl,C_.1 h8,h9⟩
 .cases h
def An1{m:Nat}(h:inN ns n=C m):Z<=m/\ns[m-Z]?=C n:=by
 unfold inN at h;split at h
 .rename_i i hi;cases h;obtain⟨_,h2⟩:=TX ns n 0 i hi;exact⟨ω,by rw[b1_];simpa using h2⟩
 .cases h
def Akk{m:Nat}(h:Aey ns n=C m):m=n/\n<Z/\n∉ns:=by
 unfold Aey at h;cases hb:(Nat.blt n Z&&!has ns n)with
 |false=>rw[hb]at h;cases h
 |true=>rw[hb]at h;simp only[e_,Nat.blt_eq,a5_]at hb;cases h;exact⟨rfl,hb.1,λhm=>by rw[(Fw ns n).2 hm]at hb;simp at hb⟩
def Aj7{m:Nat}(h:Aam ns n=C m):Z<=n/\ns[n-Z]?=C m:=by
 unfold Aam at h;cases hb:aO Z n with
 |false=>rw[hb]at h;cases h
 |true=>rw[hb]at h;exact⟨LH.1 hb,h⟩
def Qb(ns:List Nat)(ν:Nat->Option Value)(n:Nat):Option Value:=if Z<=n then match ns[n-Z]? with|some m=>ν m|none=>N else if n∈ns then N else ν n
def Asa{m:Nat}(h:inN ns n=C m)(hx:ν n=C x):Qb ns ν m=C x:=by obtain⟨h1,h2⟩:=An1 h;simp only[Qb,if_pos h1,h2,hx]
def Aon{m:Nat}(h:Aey ns n=C m)(hx:ν n=C x):Qb ns ν m=C x:=by obtain⟨rfl,h2,h3⟩:=Akk h;simp only[Qb];rw[if_neg ω,if_neg h3];exact hx
def SP{h:Nat->Option (aA G.T)}(hn:Dm ns h n≠N):
  ∃m,Qb ns ν n=ν m/\h m≠N/\((Z<=n/\ns[n-Z]?=C m)\/(n<Z/\m=n/\n∉ns)):=by
 unfold Dm at hn;cases hb:aO Z n with
 |true=>
  have hl:=LH.1 hb;rw[hb]at hn;simp only[d_]at hn;split at hn
  .rename_i m hm;refine⟨m,by simp only[Qb,if_pos hl,hm],λe=>hn (by rw[e];rfl),.inl ⟨hl,hm⟩⟩
  .exact absurd rfl hn
 |false=>
  have hl:n<Z:=by
   rcases Nat.lt_or_ge n Z with h|h
   .exact h
   .rw[LH.2 h]at hb;cases hb
  rw[hb]at hn;simp only[c_]at hn;cases hc:has ns n with
  |true=>rw[hc]at hn;exact absurd rfl hn
  |false=>
   have hni:n∉ns:=λhm=>by rw[(Fw ns n).2 hm]at hc;cases hc
   rw[hc]at hn;simp only[c_]at hn;refine⟨n,by simp only[Qb];rw[if_neg ω,if_neg hni],λe=>hn (by rw[e];rfl),.inr ⟨hl,rfl,hni⟩⟩
def Auo(hns:ns.Nodup){h:Nat->Option (aA G.T)}{S B:Nat->Prop}{w:World}(hr:HRel G ν S B h w):HRel G (Qb ns ν) S B (Dm ns h) w:=by
 refine⟨λn k hk=>?_,λn m x y b h1 h2 h3 h4 h5 h6=>?_,λn x b h1 h2 h3=>?_,hr.stay,hr.gl⟩
 .unfold Dm at hk;cases hb:aO Z n with
  |true=>
   have hl:=LH.1 hb;rw[hb]at hk;simp only[d_]at hk;split at hk
   .rename_i m hm;unfold Alu at hk;split at hk
    .rename_i cs hcs;split at hk
     .rename_i cs' hcs';cases hk;obtain⟨b,c,te,q1,q2,q3,q4⟩:=hr.blk m _ hcs;refine⟨b,c,te,by simp only[Qb,if_pos hl,hm,q1],q2,Ai8 (λn m x=>Aon) (λn m x=>Asa) hcs' q3,λm1 t1 hm1=>?_⟩;obtain⟨m0,r1,r2⟩:=Asi hcs' hm1;obtain⟨e1,e2⟩:=q4 m0 t1 r1;obtain⟨i1,i2⟩:=An1 r2;rw[e1,<-hm]at i2;obtain⟨u1,u2⟩:=g_.1 hm;rw[hm]at i2;obtain⟨u3,u4⟩:=g_.1 i2;have hpw:=List.pairwise_iff_getElem.1 hns;refine⟨?_,e2⟩;rcases bG (m1-Z) (n-Z)with hlt|he|hlt
      .exact absurd (u4.trans u2.symm) (hpw _ _ u3 u1 hlt)
      .omega
      .exact absurd (u2.trans u4.symm) (hpw _ _ u1 u3 hlt)
     .cases hk
    .cases hk
   .cases hk
  |false=>
   rw[hb]at hk;simp only[c_]at hk;cases hc:has ns n with
   |true=>rw[hc]at hk;cases hk
   |false=>
    rw[hc]at hk;simp only[c_]at hk;have hl:n<Z:=by
     rcases Nat.lt_or_ge n Z with h|h
     .exact h
     .rw[LH.2 h]at hb;cases hb
    have hni:n∉ns:=λhm=>by rw[(Fw ns n).2 hm]at hc;cases hc
    unfold Avr at hk;split at hk
    .rename_i t l hrow;cases hk;exact Azv (by simp only[Qb];rw[if_neg ω,if_neg hni]) (hr.blk n _ hrow)
    .cases hk
 .obtain⟨n',e1,q1,q2⟩:=SP (ν:=ν) h1;obtain⟨m',e2,p1,p2⟩:=SP (ν:=ν) h2;have e:=hr.apart n' m' x y b q1 p1 (by rw[<-e1];exact h3) (by rw[<-e2];exact h4) h5 h6;subst e;rcases q2 with⟨q2,q3⟩|⟨q2,q3,q4⟩<;>rcases p2 with⟨p2,p3⟩|⟨p2,p3,p4⟩
  .obtain⟨u1,u2⟩:=g_.1 q3;obtain⟨u3,u4⟩:=g_.1 p3;have hpw:=List.pairwise_iff_getElem.1 hns;rcases bG (n-Z) (m-Z)with hlt|he|hlt
   .exact absurd (u2.trans u4.symm) (hpw _ _ u1 u3 hlt)
   .omega
   .exact absurd (u4.trans u2.symm) (hpw _ _ u3 u1 hlt)
  .subst p3;exact absurd (p_ q3) p4
  .subst q3;exact absurd (p_ p3) q4
  .exact q3.symm.trans p3
 .obtain⟨n',e1,q1,q2⟩:=SP (ν:=ν) h1;exact hr.own n' x b q1 (by rw[<-e1];exact h2) h3
end Go.Ab
namespace Go.Ab
variable{G:aD}{P:Program}
variable{h:Nat->Option (aA G.T)}{ν:Nat->Option Value}{v:Value}{u:Nat}{c:Cv G.T}
def Bj7{s:aE}{a:Tk (s.T G)}(ha:s.take h c=C a){n t:Nat}(hq:(n,t)∈ftC s c):∃l,h n=C (.row t l):=by
 unfold ftC at hq;split at hq
 .rename_i t' n';simp at hq;obtain⟨rfl,rfl⟩:=hq;simp only[CSh.take]at ha;split at ha
  .rename_i l hl;exact⟨l,Yf hl⟩
  .cases ha
 .cases hq
def Bj8{h:Nat->Option (aA G.T)}:∀{s:List aE}{c:List (Cv G.T)}{a:Tk (TL G s)},GE h s c=C a->∀{n t:Nat},(n,t)∈ftL s c->∃l,h n=C (.row t l)
 |[],_,_,_,n,t,hq=>by simp[ftL]at hq
 |_::_,[],_,_,n,t,hq=>by simp[ftL]at hq
 |s::ss,c::cs,a,ha,n,t,hq=>by
  simp only[GE]at ha;split at ha
  .rename_i a1 a2 h1 h2;simp only[ftL,u_]at hq;rcases hq with hq|hq
   .exact Bj7 h1 hq
   .exact Bj8 h2 hq
  .cases ha
def Bvq{s:aC}{c:Pv G.T}{a:Tk (s.T G)}(ha:s.take h c=C a){n t:Nat}(hq:(n,t)∈ftP s c):∃l,h n=C (.row t l):=by
 cases s<;>cases c
 .exact Bj7 (show CSh.take h _ _=C _ from ha) hq
 .cases hq
 .cases hq
 .exact Bj8 (show GE h _ _=C _ from ha) hq
def Bfg{h:Nat->Option (aA G.T)}{tm:List (Nat×Sv G.T)}:∀{s:List (Nat×aC)}{a:Tk (TmT G s)},Gy h tm s=C a->∀{n t:Nat},(n,t)∈Aed tm s->∃l,h n=C (.row t l)
 |[],_,_,n,t,hq=>by simp[Aed]at hq
 |p::r,a,ha,n,t,hq=>by
  simp only[Gy]at ha;simp only[Aed,u_]at hq;split at ha
  .rename_i c hc;split at ha
   .rename_i a1 a2 h1 h2;rcases hq with hq|hq
    .rw[hc]at hq;exact Bvq h1 hq
    .exact Bfg h2 hq
   .cases ha
  .cases ha
def Aup{ns:List Nat}{n t:Nat}{l:List (G.T t)}(e:Dm ns h n=C (.row t l)):h n=C (.row t l):=by
 unfold Dm at e;cases hb:aO Z n with
 |true=>
  rw[hb]at e;simp only[d_]at e;split at e
  .rename_i m hm;unfold Alu at e;split at e
   .split at e<;>cases e
   .cases e
  .cases e
 |false=>
  rw[hb]at e;simp only[c_]at e;cases hc:has ns n with
  |true=>rw[hc]at e;cases e
  |false=>
   rw[hc]at e;simp only[c_]at e;unfold Avr at e;split at e
   .rename_i t' l' hh;cases e;exact hh
   .cases e
def XU{t:Nat}:∀{l:List (Option Nat)},Agr G t l=J->∀u,C u∈l->Xl G t u=J/\G.flat u=J
 |[],_,u,h=>by cases h
 |none::r,hn,u,h=>by simp at h;exact XU (l:=r) hn u h
 |some v::r,hn,u,h=>by
  simp only[Agr,e_]at hn;simp at h;rcases h with rfl|h
  .exact⟨hn.1,hn.2.1⟩
  .exact XU (l:=r) hn.2.2 u h
def ZG{t:Nat}:∀(r:List (Nat×aA G.T)) (n:Nat) (k:aA G.T),Adw G t r=J->O r n=C k->∃u l,k=.row u l/\Vh G t u=J
 |[],n,k,_,h=>by simp[O]at h
 |(m,.cells cs)::r,n,k,h,_=>by simp[Adw]at h
 |(m,.row u l)::r,n,k,h,hg=>by
  simp only[Adw,e_]at h;simp only[O,Bf]at hg;by_cases e:m=n
  .rw[if_pos e]at hg;cases hg;exact⟨u,l,rfl,h.1⟩
  .rw[if_neg e]at hg;exact ZG r n k h.2 hg
def Atl{ft:List (Nat×Nat)}{cs:List (Cv G.T)}{BF:List (Nat×aA G.T)}{n:Nat}(h:Xm G ft cs BF n=J):∃t,O ft n=C t/\cs.all (ZH G t)=J/\Adw G t BF=J:=by
 unfold Xm at h;split at h
 .rename_i t ht;simp only[e_]at h;exact⟨t,ht,h.1,h.2⟩
 .cases h
section
variable(ok:aP P G){S S':Nat->Prop}{h:Array Obj}{T0:Nat->Prop}(h1:∀b,S b->S' b\/∃t c fz,T0 t/\h[b]?=C (.cells c t fz))
include h1
theorem Ate(h0:¬∃t,T0 t):∀b,S b->S' b:=λb hb=>(h1 b hb).resolve_right λ⟨t,_,_,q,_⟩=>h0 ⟨t,q⟩
theorem Bjl{te:Nat}{b:Nat}{c:Array Value}{fz:Nat×Nat}(hb:h[b]?=C (.cells c te fz))(ht:te=u\/G.loose u=J)(hS:S b)(ha:∀t,T0 t->Xl G t u=J):S' b:=by
 rcases h1 b hS with h|⟨t,c2,fz2,q1,q2⟩
 .exact h
 .have q3:=ha t q1;rw[q2]at hb;cases hb;simp only[Xl,e_,a5_]at q3;rcases ht with rfl|ht
  .rw[AA.2 rfl]at q3;exact absurd q3.1 τ
  .rw[ht]at q3;exact absurd q3.2 τ
include ok
theorem Bgs{l:List (G.T u)}(hf:G.flat u=J)(ha:∀t,T0 t->Xl G t u=J)(r:Rd G S h (.ro u l) v):Rd G S' h (.ro u l) v:=by
 cases r with
 |nil _ a cap=>exact .nil _ _ _
 |ro _ _ b off cap c te fz vs hS hb ht hcap hcell hr=>refine .ro u l b off cap c te fz vs (Bjl h1 hb ht hS ha) hb ht hcap hcell λi j x cv hx hcv=>?_;have hr':=hr i j x cv hx hcv;obtain⟨v0,rfl⟩:=ok.flatd u x cv hf (p_ hcv);cases hr' with|sc _ hsc=>exact .sc _ hsc
theorem Azy{x:G.T u}{cv:Cv G.T}(ha:∀t,T0 t->Vh G t u=J)(hc:cv∈G.enc u x)(r:Rd G S h cv v):Rd G S' h cv v:=by
 by_cases h0:∃t,T0 t
 .rcases ok.encd u x cv hc with⟨v0,rfl⟩|⟨u2,l2,rfl⟩
  .cases r with|sc _ hsc=>exact .sc _ hsc
  .have key:∀t,T0 t->Xl G t u2=J/\G.flat u2=J:=λt ht=>by
    have q:=ha t ht;simp only[Vh,b0_]at q;rcases q with q|q
    .obtain⟨v0,e⟩:=ok.flatd u x _ q hc;cases e
    .rw[ok.rod u (G.dfl u) x]at q;exact XU q u2 (b2_.2 ⟨_,hc,rfl⟩)
   obtain⟨t,ht⟩:=h0;exact Bgs ok h1 (key t ht).2 (λt ht=>(key t ht).1) r
 .exact r.mono (Ate h1 h0) λ_ _=>rfl
theorem Bn3{l:List (G.T u)}(ha:∀t,T0 t->Xl G t u=J)(hn:∀t,T0 t->Vh G t u=J)(r:Rd G S h (.ro u l) v):Rd G S' h (.ro u l) v:=by
 cases r with
 |nil _ a cap=>exact .nil _ _ _
 |ro _ _ b off cap c te fz vs hS hb ht hcap hcell hr=>exact .ro u l b off cap c te fz vs (Bjl h1 hb ht hS ha) hb ht hcap hcell λi j x cv hx hcv=>Azy ok h1 hn (p_ hcv) (hr i j x cv hx hcv)
theorem Avk(ha:∀t,T0 t->ZH G t c=J)(r:Rc G ν S h c v):Rc G ν S' h c v:=by
 by_cases h0:∃t,T0 t
 .obtain⟨t0,ht0⟩:=h0;cases c with
  |sc v0=>have r:Rd G S h (.sc v0) v:=r;cases r with|sc _ hsc=>exact Rd.sc _ hsc
  |ro u l=>
   have q:∀t,T0 t->Xl G t u=J/\Vh G t u=J:=λt ht=>by
    have:=ha t ht
    simpa only[ZH,e_]using this
   exact Bn3 ok h1 (λt ht=>(q t ht).1) (λt ht=>(q t ht).2) r
  |rp t x o=>have:=ha t0 ht0;simp[ZH]at this
  |_=>exact r
 .exact r.mono ⟨λ_ _ h=>h,Ate h1 h0,λ_ _=>rfl⟩
theorem Bfp{x:Pv G.T}(ha:∀c∈x.cells,∀t,T0 t->ZH G t c=J)(r:Rp G ν S h x v):Rp G ν S' h x v:=by
 cases r with
 |one c v hc=>exact .one _ _ (Avk ok h1 (ha c (by simp[aX])) hc)
 |agg cs vs hc=>exact .agg _ _ ⟨hc.1,λi a b hi hb=>Avk ok h1 (ha a (p_ hi)) (hc.2 i a b hi hb)⟩
theorem Bn5{x:Sv G.T}(ha:∀c∈x.cells,∀t,T0 t->ZH G t c=J)(r:Rs G ν S h x v):Rs G ν S' h x v:=by
 cases r with
 |p x v hc=>exact .p _ _ (Bfp ok h1 ha hc)
 |tup xs vs hc=>exact .tup _ _ ⟨hc.1,λi a b hi hb=>Bfp ok h1 (λc hm=>ha c (b4_.2 ⟨a,p_ hi,hm⟩)) (hc.2 i a b hi hb)⟩
end
def Bjx(ok:aP P G){l:List (Nat×Fe G)}(hT:∀p∈l,Ff P G p.1 p.2):CfOK P G (cfP l):=by
 refine⟨λg args h nm=>Ac (AF _) λ_=>Ac (Am _) λ_=>Ael _ _ _ _ _ _ _,λg args h nm out hout=>?_⟩;unfold cfP at hout;generalize hnsd:Yb args=ns at hout;obtain⟨args',hargs',h1⟩:=aL hout;obtain⟨hnd,h2⟩:=aJ h1;have hns:ns.Nodup:=HK hnd;obtain⟨⟨g',e⟩,hmem,hg,t,htake,hcall⟩:=Vx h2;simp only at hg;subst hg;obtain⟨y,p,s,bl,hF,hp,ho,hfin⟩:=Afs hcall;obtain⟨hent,hok⟩:=hT _ hmem;obtain⟨hla,hlk,hkeys,a,b,hta,htb,htc,rfl⟩:=Awd htake;obtain⟨ms,BF,s',bl',hrows,hs',hbl',hms,fz',rfl,hfz,hfz'⟩:=Ajq hfin;refine⟨hent,λν S B w vals hr hB hfr hvals=>?_⟩;simp only at hfr;have hr1:=Auo hns hr;have hv1:F2 (Rp G (Qb ns ν) S w.heap) args' vals:=Asm (λn m x=>Aon) (λn m x=>Asa) hargs' hvals;have hslot:∀k s,O (FU 0 (args'.map Sv.p)) k=C s->Rs G (Qb ns ν) S w.heap s (vals.getD k undef):=by
  intro k s hk;rw[XM]at hk;simp at hk;obtain⟨x,hx,rfl⟩:=hk;obtain⟨v,hv,hrp⟩:=hv1.get hx
  have:vals.getD k undef=v:=by simp[n_,hv]
  rw[this];exact .p _ _ hrp
 obtain⟨ν2,S2,hsl2,hheap2,hused2,hkeep2,hS2,hsrc2,holds2⟩:=Az4 hta htb htc hr1 hslot;generalize hx0:(a.x,b.x)=x0 at hF hsl2 hheap2 hused2 hsrc2;generalize hod:CT (a.nm++b.nm)=olds at hsrc2 holds2 hfr;generalize hfd:a.fz++b.fz=fz at hS2 hfz hfz'
 let mo:Nat->Prop:=λc=>¬S2 c/\∃n z,O (e.I.mk' x0).hp n≠N/\ν2 n=C z/\AC z=C c
 have hheap2':HRel G ν2 S2 (λc=>mo c\/w.heap.size<=c) (O (e.I.mk' x0).hp) w:=⟨hheap2.blk,hheap2.apart,λn z c q1 q2 q3=>⟨(hheap2.own n z c q1 q2 q3).1,.inl ⟨(hheap2.own n z c q1 q2 q3).1,n,z,q1,q2,q3⟩⟩,hheap2.stay,hheap2.gl⟩
 have hvl:vals.length=e.I.tm.length:=by rw[<-hla,hv1.1]
 have hcal:∀n,Dm ns h n≠N->∃m,Qb ns ν n=ν m/\h m≠N/\((Z<=n/\ns[n-Z]?=C m)\/(n<Z/\m=n/\n∉ns)):=λn hn=>SP hn;have hmo:∀c,mo c->∃m z,h m≠N/\ν m=C z/\AC z=C c/\(m∈olds\/m∈ns):=by
  rintro c ⟨_,n,z,q1,q2,q3⟩;obtain⟨m,p1,p2,p3⟩:=hsrc2 n z c q1 q2 q3;obtain⟨m',e1,e2,e3⟩:=hcal m p2;refine⟨m',z,e2,by rw[<-e1];exact p1,q3,?_⟩;rcases e3 with⟨u1,u2⟩|⟨u1,u2,u3⟩
  .exact .inr (p_ u2)
  .rcases p3 with p3|p3
   .exact .inl (by rw[u2];exact p3)
   .obtain⟨i,hi⟩:=c3_.1 p3
    have:=hkeys i m hi
    omega
 refine(hok x0 y p s bl hF hp ho ν2 S2 mo w vals hheap2' hused2 hvl hsl2).mono λr w' ⟨v,ν3,S3,hret,hval3,hheap3,hSS,hSsub,hnames,hsize,hframe,henv⟩=>?_;subst hret;obtain⟨hrk1,hrk2,hrk3⟩:=Ahc ms nm BF hrows;have hnewν:∀n,n∈AY BF->ν n=N:=λn hn=>hfr n hn
 let ν':Nat->Option Value:=λn=>if nm<=n then match ms[n-nm]? with|some m=>ν3 m|none=>ν n else ν n
 have hν'old:∀n,n∉AY BF->ν' n=ν n:=by
  intro n hn;simp only[ν'];by_cases hle:nm<=n
  .rw[if_pos hle];cases hm:ms[n-nm]? with
   |none=>rfl
   |some m=>
    have:=(g_.1 hm).1
    exact absurd ((hrk1 n).2 ⟨hle,ω⟩) hn
  .rw[if_neg hle]
 have hν'new:∀j m,ms[j]?=C m->ν' (nm+j)=ν3 m:=by intro j m hm;simp only[ν'];rw[if_pos ω,b1_,hm]
 have hνold:∀n z,ν n=C z->ν' n=C z:=by intro n z hz;rw[hν'old n λhn=>by rw[hnewν n hn]at hz;cases hz];exact hz
 have hf3:∀n m z,Gl ms n nm=C m->ν3 n=C z->ν' m=C z:=by
  intro n m z hm hz;obtain⟨q1,q2⟩:=TX ms n nm m hm
  have:=hν'new (m-nm) n q2
  rw[show nm+(m-nm)=m by omega]at this;rw[this];exact hz
 have hkey:∀(i n:Nat),ns[i]?=C n->(As e.I.hp)[i]?=C (Z+i):=by
  intro i n hi;have hi':i<(As e.I.hp).length:=by rw[hlk];exact(g_.1 hi).1
  have h9:=j_ hi';rw[h9,hkeys i _ h9]
 have hptr:∀(i n:Nat),ns[i]?=C n->∃bb,ν n=C (.pointer (C ⟨bb,0,N⟩))/\ν3 (Z+i)=C (.pointer (C ⟨bb,0,N⟩))/\h n≠N/\O (e.I.mk' x0).hp (Z+i)≠N:=by
  intro i n hi;have hk:=p_ (hkey i n hi);obtain⟨k1,cs,k2⟩:=hkeep2 _ hk;obtain⟨bb,c,te,q1,_,_⟩:=hr1.blk _ _ k2;obtain⟨m,e1,e2,e3⟩:=hcal (Z+i) (by rw[k2];simp);have hm:m=n:=by
   rcases e3 with⟨_,u2⟩|⟨u1,_⟩
   .rw[b1_,hi]at u2;exact(D_ u2).symm
   .omega
  subst hm;refine⟨bb,by rw[<-e1];exact q1,hnames _ _ ω (by rw[k1];exact q1),e2,?_⟩;intro hno
  have:Z+i∈AY (MU e.I.tm x0.1++(SE e.I.hp x0.2++Gv e.I.hp x0.2)):=by
   have hgk:∀(l:List (Nat×List aE)) (z:HpT G l),AY (Gv l z)=As l:=by
    intro l;induction l with
    |nil=>intro _;rfl
    |cons p t ih=>intro z;simp only[Gv,AY,As,ih]
   rw[Fi,Fi,hgk];simp[hk]
  have hgn:∀(l:List (Nat×aA G.T)) (n:Nat),n∈AY l->O l n≠N:=by
   intro l;induction l with
   |nil=>intro n hn;simp[AY]at hn
   |cons q t ih=>
    intro n hn;simp only[AY,v_]at hn;simp only[O,Bf];by_cases e:q.1=n
    .rw[if_pos e];simp
    .rw[if_neg e];exact ih n (hn.resolve_left (e0_ e))
  exact hgn _ _ this hno
 have hg3:∀n m z,Aam ns n=C m->ν3 n=C z->ν' m=C z:=by intro n m z hm hz;obtain⟨q1,q2⟩:=Aj7 hm;obtain⟨bb,u1,u2,_,_⟩:=hptr _ _ q2;rw[show Z+(n-Z)=n by omega,hz]at u2;cases u2;exact hνold _ _ u1
 have hblo:WE (O p.2.hp) (As e.I.hp)=C bl:=by
  unfold Jy at ho;split at ho
  .cases ho
  .split at ho
   .rename_i s1 b1 q1 q2;cases ho;exact q2
   .cases ho
 obtain⟨hbl1,hbl2⟩:=BU _ _ hblo;obtain⟨hbl3,hbl4⟩:=BU _ _ hbl';have hcells:∀(i n:Nat),ns[i]?=C n->∃cs cs',bl[i]?=C cs/\bl'[i]?=C cs'/\O p.2.hp (Z+i)=C (.cells cs)/\Cq (Cv.ren (λn=>Gl ms n nm) (Aam ns)) cs=C cs':=by
  intro i n hi;obtain⟨cs,q1,q2⟩:=hbl2 i _ (hkey i n hi);obtain⟨cs',q3,q4⟩:=hbl4 i cs q1;refine⟨cs,cs',q1,q3,?_,q4⟩;split at q2
  .rename_i cs1 hc;cases q2;exact hc
  .cases q2
 have hlen':bl'.length=ns.length:=by rw[hbl3,hbl1,hlk]
 obtain⟨S',hS1,hS2',hval',hrb',hSown,hSold,hSlt⟩:∃S':Nat->Prop,(∀c,S c->S' c)/\(∀c,S' c->S c\/B c)/\Rs G ν3 S' w'.heap s v/\
   (∀n k,O p.2.hp n=C k->((∃i m,ns[i]?=C m/\n=Z+i)\/n∈ms)->Rb G ν3 S' w'.heap n k)/\
   (∀c,S' c->S3 c)/\
   (∀n z c,h n≠N->n∉olds->n∉ns->n∉fz'->ν n=C z->AC z=C c->¬S' c)/\(∀c,S' c->c<w'.heap.size):=by
  have hSB:∀c,S3 c->S c\/B c:=by
   intro c hc;rcases hSsub c hc with hc|⟨_,n,z,q1,q2,q3⟩|hc
   .rcases(hS2 c).1 hc with hc|⟨n,_,hn,z,hz,hbz⟩
    .exact .inl hc
    .exact .inr (hr1.own n z c hn hz hbz).2
   .exact .inr (hheap2.own n z c q1 q2 q3).2
   .exact .inr (hB c hc)
  have hSS3:∀c,S c->S3 c:=λc hc=>hSS c ((hS2 c).2 (.inl hc));have hold3:∀n z c,h n≠N->n∉olds->n∉ns->n∉fz->ν n=C z->AC z=C c->¬S3 c:=by
   intro n z c q1 q2 q3 q4 q5 q6 hc;rcases hSsub c hc with hc|hc|hc
   .rcases(hS2 c).1 hc with hc|⟨m,hm,hmh,z',hz',hbz'⟩
    .exact(hr.own n z c q1 q5 q6).1 hc
    .obtain⟨m',e1,e2,e3⟩:=hcal m hmh;have e:=hr.apart n m' z z' c q1 e2 q5 (by rw[<-e1];exact hz') q6 hbz';subst e;rcases e3 with⟨u1,u2⟩|⟨u1,u2,u3⟩
     .exact q3 (p_ u2)
     .rw[u2]at q4;exact q4 hm
   .obtain⟨m,z',p1,p2,p3,p4⟩:=hmo c hc;have e:=hr.apart n m z z' c q1 p1 q5 p2 q6 p3;subst e;exact p4.elim q2 q3
   .have:=hr.lt q1 q5 q6;omega
  rcases hfz with rfl|⟨rfl,hfl1,hfl2⟩|hfz0
  .simp only at hfz';generalize hftd:Aed (FU 0 (args'.map Sv.p)) e.I.tm=ft;generalize hcd:s.cells++bl.flatten=cells;have hft:∀n t,O ft n=C t->∃l,h n=C (.row t l):=λn t hg=>by
    obtain⟨l,hl⟩:=Bfg (n:=n) (t:=t) hta (by rw[hftd];exact IB hg);exact⟨l,Aup hl⟩
   let T0:Nat->Prop:=λt=>cells.all (ZH G t)=J/\Adw G t BF=J
   let Kp:Nat->Prop:=λc=>∃n z,Xm G ft cells BF n=J/\h n≠N/\n∉olds/\n∉ns/\ν n=C z/\AC z=C c
   have hH1:∀b,S3 b->(S3 b/\¬Kp b)\/∃t c fz,T0 t/\w'.heap[b]?=C (.cells c t fz):=by
    intro b hb;by_cases hk:Kp b
    .refine .inr ?_;obtain⟨n,z,q0,q1,q2,q3,q5,q6⟩:=hk;obtain⟨t,g1,g2,g3⟩:=Atl q0;obtain⟨l,hl⟩:=hft n t g1;rcases hr.blk n _ hl with⟨u1,_⟩|⟨bb,cap,c,te,u1,u2,_,_,_,u6⟩
     .rw[q5]at u1;cases u1;cases q6
     .rw[q5]at u1;cases u1;cases q6;have hw:w'.heap[bb]?=w.heap[bb]?:=hframe bb (hr.lt q1 q5 rfl) λhc=>by
       obtain⟨m,z',p1,p2,p3,p4⟩:=hmo bb hc;have e:=hr.apart n m _ z' bb q1 p1 q5 p2 rfl p3;subst e;exact p4.elim q2 q3
      exact⟨t,c,(0,0),⟨g2,g3⟩,by rw[hw,u2,u6.1]⟩
    .exact .inl ⟨hb,hk⟩
   refine⟨λc=>S3 c/\¬Kp c,λc hc=>⟨hSS3 c hc,λ⟨n,z,_,q1,_,_,q5,q6⟩=>(hr.own n z c q1 q5 q6).1 hc⟩,λc hc=>hSB c hc.1,
    Bn5 ok hH1 (λc hc t ht=>C_.1 ht.1 c (by rw[<-hcd];exact u_.2 (.inl hc))) hval3,λn k hk hn=>?_,λ_ h=>h.1,λn z c q1 q2 q3 q4 q5 q6 ⟨z1,z2⟩=>?_,λc hc=>hheap3.stay c hc.1⟩
   .have hrb:=hheap3.blk n k hk;by_cases h0:∃t,T0 t
    .obtain⟨t0,ht0⟩:=h0;rcases hn with⟨i,m,hi,rfl⟩|hn
     .obtain⟨cs,cs',c1,c2,c3,c4⟩:=hcells i m hi;rw[hk]at c3;cases c3;obtain⟨bb,c,te,q1,q2,q3,q4⟩:=hrb;refine⟨bb,c,te,q1,q2,⟨q3.1,λj x y hx hy=>Avk ok hH1 (λt ht=>C_.1 ht.1 x ?_) (q3.2 j x y hx hy)⟩,q4⟩;rw[<-hcd];exact u_.2 (.inr (List.mem_flatten.2 ⟨cs,p_ c1,p_ hx⟩))
     .obtain⟨j,hj⟩:=c3_.1 hn;obtain⟨k0,r1,r2,_⟩:=hrk3 j n hj;rw[hk]at r1;cases r1;obtain⟨t',l2,e1,_⟩:=ZG BF _ _ ht0.2 r2;cases e1;have hnest:∀t,T0 t->Vh G t t'=J:=λt ht=>by
       obtain⟨t2,l3,e2,e3⟩:=ZG BF _ _ ht.2 r2;cases e2;exact e3
      rcases hrb with⟨g1,g2⟩|⟨bb,cap,c,te,g1,g2,g3,g4,g5,g6⟩
      .exact .inl ⟨g1,g2⟩
      .refine .inr ⟨bb,cap,c,te,g1,g2,g3,g4,λi j x cv hx hcv=>?_,g6⟩;obtain⟨uu,hu,hrd⟩:=g5 i j x cv hx hcv;exact⟨uu,hu,Azy ok hH1 hnest (p_ hcv) hrd⟩
    .exact hrb.mono ⟨λ_ _ h=>h,Ate hH1 h0,λ_ _=>rfl⟩ λ_ _ _ _=>rfl
   .by_cases hn:n∈fz
    .refine z2 ⟨n,z,?_,q1,q2,q3,q5,q6⟩;cases hb:Xm G ft cells BF n with
     |true=>rfl
     |false=>refine absurd (List.mem_filter.2 ⟨hn,?_⟩) q4;show(!Xm G ft cells BF n)=J;rw[hb];rfl
    .exact hold3 n z c q1 q2 q3 hn q5 q6 z1
  .refine⟨S,λ_ h=>h,λ_ h=>.inl h,Asn (λc hc=>hfl1 c (by simp[hc])) hval3,λn k hk hn=>?_,hSS3,λn z c q1 _ _ _ q5 q6=>(hr.own n z c q1 q5 q6).1,λc hc=>c5_ (hr.stay c hc) hsize⟩;have hrb:=hheap3.blk n k hk;rcases hn with⟨i,m,hi,rfl⟩|hn
   .obtain⟨cs,cs',c1,c2,c3,c4⟩:=hcells i m hi;rw[hk]at c3;cases c3;obtain⟨bb,c,te,q1,q2,q3,q4⟩:=hrb;refine⟨bb,c,te,q1,q2,⟨q3.1,λj x y hx hy=>Ai7 (hfl1 x ?_) (q3.2 j x y hx hy)⟩,q4⟩;exact u_.2 (.inr (List.mem_flatten.2 ⟨cs,p_ c1,p_ hx⟩))
   .obtain⟨j,hj⟩:=c3_.1 hn;obtain⟨k0,r1,r2,_⟩:=hrk3 j n hj;rw[hk]at r1;cases r1;obtain⟨t',l2,e1,e2⟩:=Af3 BF _ _ hfl2 r2;cases e1;rcases hrb with⟨g1,g2⟩|⟨bb,cap,c,te,g1,g2,g3,g4,g5,g6⟩
    .exact .inl ⟨g1,g2⟩
    .refine .inr ⟨bb,cap,c,te,g1,g2,g3,g4,λi j x cv hx hcv=>?_,g6⟩;obtain⟨uu,hu,hrd⟩:=g5 i j x cv hx hcv;refine⟨uu,hu,?_⟩;obtain⟨v0,rfl⟩:=ok.flatd _ x cv e2 (p_ hcv);cases hrd with
     |sc _ hsc=>exact .sc _ hsc
  .subst hfz0;exact⟨S3,hSS3,hSB,hval3,λn k hk _=>hheap3.blk n k hk,λ_ h=>h,λn z c q1 q2 q3 _ q5 q6=>hold3 n z c q1 q2 q3 σ q5 q6,hheap3.stay⟩
 have hnsν:∀n∈ns,n∉AY BF:=by intro n hn hk;obtain⟨i,hi⟩:=c3_.1 hn;obtain⟨bb,u1,_⟩:=hptr i n hi;rw[hnewν n hk]at u1;cases u1
 have hnodup:(AY (NA ns bl'++BF)).Nodup:=by rw[Fi,Aad ns bl' hlen',List.nodup_append];exact⟨hns,hrk2,λx hx y hy e=>hnsν x hx (e▸hy)⟩
 let hp':Nat->Option (aA G.T):=AW h (LQ (olds++fz')++Ab8 (NA ns bl'++BF))
 have hD:∀n,hp' n=match O (NA ns bl'++BF) n with|some k=>C k|none=>if n∈olds++fz' then N else h n:=by
  intro n;simp only[hp'];rw[Ac2,Ajd _ _ _ hnodup,ND]
  try(cases O (NA ns bl'++BF) n<;>rfl)
 have hcase:∀n k,hp' n=C k->(∃i cs cs',ns[i]?=C n/\k=.cells cs'/\O p.2.hp (Z+i)=C (.cells cs)/\Cq (Cv.ren (λn=>Gl ms n nm) (Aam ns)) cs=C cs'/\ν' n=ν3 (Z+i))\/
   (∃j m,n=nm+j/\ms[j]?=C m/\okK m k/\O p.2.hp m=C k/\ν' n=ν3 m)\/(h n=C k/\n∉olds/\n∉fz'/\n∉ns/\ν' n=ν n):=by
  intro n k hk;rw[hD n,Af8]at hk;cases hz:O (NA ns bl') n with
  |some k1=>rw[hz]at hk;cases hk;obtain⟨i,c,q1,q2,rfl⟩:=Any _ _ _ _ hz;obtain⟨cs,cs',c1,c2,c3,c4⟩:=hcells i n q1;rw[q2]at c2;cases c2;obtain⟨bb,u1,u2,_⟩:=hptr i n q1;exact .inl ⟨i,cs,c,q1,rfl,c3,c4,by rw[hνold _ _ u1,u2]⟩
  |none=>
   rw[hz]at hk;have hnn:n∉ns:=by
    intro hn;have h9:n∈AY (NA ns bl'):=by rw[Aad ns bl' hlen'];exact hn
    have hgn:∀(l:List (Nat×aA G.T)) (n:Nat),n∈AY l->O l n≠N:=by
     intro l;induction l with
     |nil=>intro n hn;simp[AY]at hn
     |cons q t ih=>
      intro n hn;simp only[AY,v_]at hn;simp only[O,Bf];by_cases e:q.1=n
      .rw[if_pos e];simp
      .rw[if_neg e];exact ih n (hn.resolve_left (e0_ e))
    exact hgn _ _ h9 hz
   cases hrw:O BF n with
   |some k1=>
    rw[hrw]at hk;simp only at hk;cases hk;have hm:=Vg (IB hrw);obtain⟨b1,b2⟩:=(hrk1 n).1 hm;have hj:n-nm<ms.length:=ω;have hj':=j_ hj;obtain⟨k0,r1,r2,r3⟩:=hrk3 (n-nm) _ hj';rw[show nm+(n-nm)=n by omega,hrw]at r2;cases r2;refine .inr (.inl ⟨n-nm,_,ω,hj',r3,r1,?_⟩)
    have:=hν'new (n-nm) _ hj'
    rw[show nm+(n-nm)=n by omega]at this;exact this
   |none=>
    rw[hrw]at hk;simp only at hk;by_cases ho:n∈olds++fz'
    .rw[if_pos ho]at hk;cases hk
    .rw[if_neg ho]at hk;have hnr:n∉AY BF:=by
      intro hm;obtain⟨b1,b2⟩:=(hrk1 n).1 hm;have hj:n-nm<ms.length:=ω;obtain⟨_,r1,r2,_⟩:=hrk3 (n-nm) _ (j_ hj);rw[show nm+(n-nm)=n by omega,hrw]at r2;cases r2
     simp only[u_,not_or]at ho;exact .inr (.inr ⟨hk,ho.1,ho.2,hnn,hν'old n hnr⟩)
 have hkeepb:∀n z c,h n≠N->n∉olds->n∉ns->ν n=C z->AC z=C c->w'.heap[c]?=w.heap[c]?:=by intro n z c q1 q2 q3 q5 q6;refine hframe c (hr.lt q1 q5 q6) λhc=>?_;obtain⟨m,z',p1,p2,p3,p4⟩:=hmo c hc;have e:=hr.apart n m z z' c q1 p1 q5 p2 q6 p3;subst e;exact p4.elim q2 q3
 have hkeepS:∀c,S c->w'.heap[c]?=w.heap[c]?:=by intro c hc;refine hframe c (hr.stay c hc) λhm=>hm.1 ((hS2 c).2 (.inl hc))
 have le1:Le ν ν' S S' w.heap w'.heap:=⟨hνold,hS1,hkeepS⟩
 have hown3:∀q z c,O p.2.hp q≠N->ν3 q=C z->AC z=C c->¬S' c/\B c/\∀n z',h n≠N->n∉olds->n∉ns->ν n=C z'->AC z'≠C c:=by
  intro q z c q1 q2 q3;obtain⟨o1,o2⟩:=hheap3.own q z c q1 q2 q3;refine⟨λhc=>o1 (hSown c hc),?_,λn z' r1 r2 r3 r4 r5=>?_⟩
  .rcases o2 with⟨_,n,z',u1,u2,u3⟩|o2
   .exact(hheap2.own n z' c u1 u2 u3).2
   .exact hB c o2
  .rcases o2 with o2|o2
   .obtain⟨m,z2,p1,p2,p3,p4⟩:=hmo c o2;have e:=hr.apart n m z' z2 c r1 p1 r4 p2 r5 p3;subst e;exact p4.elim r2 r3
   .have:=hr.lt r1 r4 r5;omega
 have hqof:∀n,hp' n≠N->(∃q,ν' n=ν3 q/\O p.2.hp q≠N/\((∃i,ns[i]?=C n/\q=Z+i)\/(∃j,n=nm+j/\ms[j]?=C q)))\/(h n≠N/\n∉olds/\n∉fz'/\n∉ns/\ν' n=ν n):=by
  intro n hn;obtain⟨k,hk⟩:=Option.ne_none_iff_exists'.1 hn;rcases hcase n k hk with⟨i,cs,cs',q1,q2,q3,q4,q5⟩|⟨j,m,q1,q2,q3,q4,q5⟩|⟨q1,q2,q3,q4,q5⟩
  .exact .inl ⟨Z+i,q5,by rw[q3];simp,.inl ⟨i,q1,rfl⟩⟩
  .exact .inl ⟨m,q5,by rw[q4];simp,.inr ⟨j,q1,q2⟩⟩
  .exact .inr ⟨by rw[q1];simp,q2,q3,q4,q5⟩
 refine⟨v,ν',S',rfl,hνold,λn hn=>?_,hS1,hS2',⟨λn k hk=>?_,λn m z z' c h1 h2 h3 h4 h5 h6=>?_,λn z c h1 h2 h3=>?_,hSlt,hr.gl.mono hS1 hkeepS⟩,λs0 hs0=>?_,hsize,λc hc hnot=>?_,henv⟩
 .by_cases hk:n∈AY BF
  .exact .inr hk
  .rw[hν'old n hk]at hn;exact .inl hn
 .rcases hcase n k hk with⟨i,cs,cs',q1,rfl,q3,q4,q5⟩|⟨j,m,q1,q2,q3,q4,q5⟩|⟨q1,q2,q3,q4,q5⟩
  .obtain⟨bb,c,te,r1,r2,r3,r4⟩:=hrb' _ _ q3 (.inl ⟨i,n,q1,rfl⟩);refine⟨bb,c,te,by rw[q5];exact r1,r2,Ai8 hf3 hg3 q4 r3,λm t hm=>?_⟩;obtain⟨m0,u1,u2⟩:=Asi q4 hm;obtain⟨e1,e2⟩:=r4 m0 t u1;obtain⟨_,o2⟩:=Aj7 u2;rw[e1,b1_,q1]at o2;exact⟨(D_ o2).symm,e2⟩
  .exact Bgr q3 q5 (hrb' _ _ q4 (.inr (p_ q2)))
  .exact(hr.blk n k q1).mono le1 λz c hz hc=>hkeepb n z c (by rw[q1];simp) q2 q4 hz hc
 .rcases hqof n h1 with⟨q,q1,q2,q3⟩|⟨q1,q2,q3,q4,q5⟩<;>rcases hqof m h2 with⟨r,r1,r2,r3⟩|⟨r1,r2,r3,r4,r5⟩
  .have e:=hheap3.apart q r z z' c q2 r2 (by rw[<-q1];exact h3) (by rw[<-r1];exact h4) h5 h6;subst e;have hlow:∀(j:Nat) (x:Nat),ms[j]?=C x->∀(i k:Nat),ns[i]?=C k->x≠Z+i:=by
    intro j x hj i k hi e;obtain⟨k0,u1,_,u2⟩:=hrk3 j x hj;obtain⟨cs,cs',_,_,c3,_⟩:=hcells i k hi;rw[e,c3]at u1;cases u1;rw[e]at u2;exact absurd u2.1 ω
   rcases q3 with⟨i,q3,q4⟩|⟨j,q3,q4⟩<;>rcases r3 with⟨i',r3,r4⟩|⟨j',r3,r4⟩
   .have:i=i':=ω
    subst this;rw[q3]at r3;exact D_ r3
   .exact absurd q4 (hlow j' q r4 i n q3)
   .exact absurd r4 (hlow j q q4 i' m r3)
   .obtain⟨u1,u2⟩:=g_.1 q4;obtain⟨u3,u4⟩:=g_.1 r4;have hpw:=List.pairwise_iff_getElem.1 hms;rcases bG j j' with hlt|rfl|hlt
    .exact absurd (u2.trans u4.symm) (hpw _ _ u1 u3 hlt)
    .omega
    .exact absurd (u4.trans u2.symm) (hpw _ _ u3 u1 hlt)
  .exact absurd h6 ((hown3 q z c q2 (by rw[<-q1];exact h3) h5).2.2 m z' r1 r2 r4 (by rw[<-r5];exact h4))
  .exact absurd h5 ((hown3 r z' c r2 (by rw[<-r1];exact h4) h6).2.2 n z q1 q2 q4 (by rw[<-q5];exact h3))
  .exact hr.apart n m z z' c q1 r1 (by rw[<-q5];exact h3) (by rw[<-r5];exact h4) h5 h6
 .rcases hqof n h1 with⟨q,q1,q2,q3⟩|⟨q1,q2,q3,q4,q5⟩
  .obtain⟨u1,u2,_⟩:=hown3 q z c q2 (by rw[<-q1];exact h2) h3;exact⟨u1,u2⟩
  .rw[q5]at h2;exact⟨hSold n z c q1 q2 q4 q3 h2 h3,(hr.own n z c q1 h2 h3).2⟩
 .cases hs0;refine Blf hf3 (λn m z hm hz=>?_) hs' hval';unfold Bda at hm;cases hb:aO Z n with
  |true=>rw[hb]at hm;exact hg3 n m z hm hz
  |false=>rw[hb]at hm;exact hf3 n m z hm hz
 .refine hframe c hc λhm=>?_;obtain⟨m,z,p1,p2,p3,_⟩:=hmo c hm;exact hnot m z p1 p2 p3
end Go.Ab
namespace Go.Ab
variable{G:aD}
variable{x:Operand}{h:Nat->Option (aA G.T)}{c:Cv G.T}{nm n:Nat}
section
variable{ev ev':Operand->Option (Sv G.T)}
def IW(h:ev' x=ev x):evP ev' x=evP ev x:=by unfold evP;rw[h]
def Ct(h:ev' x=ev x):evC ev' x=evC ev x:=by unfold evC;rw[h]
def CI(h:ev' x=ev x):evI ev' x=evI ev x:=by unfold evI;rw[h]
def Ayj(h:ev' x=ev x):evB ev' x=evB ev x:=by unfold evB;rw[h]
def Qz(h:ev' x=ev x):Qy ev' x=Qy ev x:=by unfold Qy;rw[h]
def SI:∀(xs:List Operand),(∀x∈xs,ev' x=ev x)->TS ev' xs=TS ev xs
 |[],_=>rfl
 |x::t,h=>by unfold TS;rw[IW (h x σ),SI t λy hy=>h y (by simp[hy])]
def RQ:∀(xs:List (Nat×Operand)),(∀x∈xs.map (·.2),ev' x=ev x)->Hc ev' xs=Hc ev xs
 |[],_=>rfl
 |(i,x)::t,h=>by unfold Hc;rw[IW (h x σ),RQ t λy hy=>h y (by simp only[d4_,v_];exact .inr hy)]
def YO{d m:Nat}{x:Option Operand}(h:∀y,x=C y->ev' y=ev y):EO ev' d m x=EO ev d m x:=by
 cases x with
 |none=>rfl
 |some y=>simp only[EO];rw[CI (h y rfl)]
def Akz(b:Builtin)(tys:List Nat)(xs:List Operand)(hx:∀x∈xs,ev' x=ev x):Az ev' h nm b tys xs=Az ev h nm b tys xs:=by
 unfold Az;split
 .unfold VI;split
  .rw[Ct (hx _ σ)]
  .rfl
  .rw[Ct (hx _ σ)]
  .rfl
 .unfold Atk;rw[CI (hx _ σ),CI (hx _ σ)]
 .unfold Atj;rw[CI (hx _ σ),CI (hx _ σ)]
 .unfold Alr;rw[CI (hx _ σ),CI (hx _ σ),CI (hx _ σ)]
 .unfold Alq;rw[CI (hx _ σ),CI (hx _ σ),CI (hx _ σ)]
 .unfold Kd;split
  .rw[Ct (hx _ σ),Ct (hx _ σ)]
  .rfl
 .unfold QA;split
  .rw[Ct (hx _ σ),Ct (hx _ σ)]
  .rfl
 .rfl
def Bf4{cf:BW G}(op:Op)(hx:∀x∈op.operands.toList,ev' x=ev x):act cf ev' h nm op=act cf ev h nm op:=by
 cases op
 case makeFunc fn a b=>
  cases fn
  case func f=>show UT ev' f a.toList b.toList=UT ev f a.toList b.toList;unfold UT;rw[SI _ λx h=>hx x (by simp[Op.operands];left;simpa using h),SI _ λx h=>hx x (by simp[Op.operands];right;simpa using h)]
  all_goals rfl
 case call c=>
  obtain⟨callee,xs,tys⟩:=c;cases callee
  case value f=>show OV cf ev' h nm f xs.toList=OV cf ev h nm f xs.toList;unfold OV;rw[Ct (hx f (by simp[Op.operands,Call.operands])),SI _ λx h=>hx x (by simp[Op.operands,Call.operands];right;simpa using h)]
  case builtin b=>exact Akz b _ _ λx h=>hx x (by simp[Op.operands,Call.operands];simpa using h)
  case invoke=>rfl
 case move x=>exact Qz (hx x (by simp[Op.operands]))
 case assign x=>exact Qz (hx x (by simp[Op.operands]))
 case pick c a b=>
  show UU ev' c a b=UU ev c a b;unfold UU;rw[Ayj (hx c (by simp[Op.operands]))];congr 1;funext c1;congr 1;funext c2;cases c2
  .exact Qz (hx b (by simp[Op.operands]))
  .exact Qz (hx a (by simp[Op.operands]))
 case alloc t=>rfl
 case box t x=>show ZD ev' nm x=ZD ev nm x;unfold ZD;rw[IW (hx x (by simp[Op.operands]))]
 case build t ps=>show QW ev' t ps.toList=QW ev t ps.toList;unfold QW;rw[RQ _ λx h=>hx x (by simpa[Op.operands]using h)]
 case buildSlice t n ps=>show Dk ev' h nm t n ps.toList=Dk ev h nm t n ps.toList;unfold Dk;rw[RQ _ λx h=>hx x (by simpa[Op.operands]using h)]
 case load t x=>show OY ev' h t x=OY ev h t x;unfold OY;rw[Ct (hx x (by simp[Op.operands]))]
 case store t x y=>show Lc ev' h t x y=Lc ev h t x y;unfold Lc;rw[Ct (hx x (by simp[Op.operands])),IW (hx y (by simp[Op.operands]))]
 case nilCheck x=>show ZE ev' x=ZE ev x;unfold ZE;rw[Ct (hx x (by simp[Op.operands]))]
 case binOp op t x y u=>show ZC ev' op t x y=ZC ev op t x y;unfold ZC;rw[IW (hx x (by simp[Op.operands])),IW (hx y (by simp[Op.operands]))]
 case unOp op t x=>show aUn ev' op x=aUn ev op x;unfold aUn;rw[Ct (hx x (by simp[Op.operands]))]
 case convert s t x=>show OX ev' h s t x=OX ev h s t x;unfold OX;rw[Ct (hx x (by simp[Op.operands]))]
 case makeSlice t x y=>show Hx ev' nm t x y=Hx ev nm t x y;unfold Hx;rw[CI (hx x (by simp[Op.operands])),CI (hx y (by simp[Op.operands]))]
 case slice t x Z hi mx=>
  show QZ ev' t x Z hi mx=QZ ev t x Z hi mx;unfold QZ;have hlo:∀d m,EO ev' d m Z=EO ev d m Z:=λd m=>YO λy hy=>hx y (by subst hy;simp[Op.operands]);have hhi:∀d m,EO ev' d m hi=EO ev d m hi:=λd m=>YO λy hy=>hx y (by subst hy;simp[Op.operands]);have e1:∀c,WV ev' c Z hi=WV ev c Z hi:=by intro c;unfold WV;simp only[hlo,hhi]
  have e2:∀c e,WU ev' c e Z hi=WU ev c e Z hi:=by intro c e;unfold WU;simp only[hlo,hhi]
  rw[Ct (hx x (by simp[Op.operands]))];simp only[e1,e2]
 case fieldAddr t x f=>show Hw ev' t x f=Hw ev t x f;unfold Hw;rw[Ct (hx x (by simp[Op.operands]))]
 case field t x f=>show QX ev' t x f=QX ev t x f;unfold QX;rw[IW (hx x (by simp[Op.operands]))]
 case indexAddr t x i=>show Ed ev' h t x i=Ed ev h t x i;unfold Ed;rw[Ct (hx x (by simp[Op.operands])),CI (hx i (by simp[Op.operands]))]
 case index t x i=>show QY ev' t x i=QY ev t x i;unfold QY;rw[Ct (hx x (by simp[Op.operands])),IW (hx x (by simp[Op.operands])),CI (hx i (by simp[Op.operands]))]
 case extract x i=>show Lb ev' x i=Lb ev x i;unfold Lb;rw[hx x (by simp[Op.operands])]
 all_goals rfl
end
section
variable{ev:Operand->Option (Sv G.T)}{h h':Nat->Option (aA G.T)}{nm:Nat}
def Aog(hh:∀m∈c.rds,h' m=h m):Gw h' n c=Gw h n c:=by
 cases c with
 |ptr b o=>simp only[Gw];rw[hh b (by simp[aM])]
 |pd b o s l i=>simp only[Gw];rw[hh b (by simp[aM])]
 |pr b t i o=>simp only[Gw];rw[hh b (by simp[aM])]
 |_=>rfl
def Aos{new:List (Cv G.T)}(hh:∀m∈c.rds,h' m=h m):ID h' new c=ID h new c:=by
 cases c with
 |ptr b o=>simp only[ID];rw[hh b (by simp[aM])]
 |pd b o s l i=>simp only[ID];rw[hh b (by simp[aM])]
 |pr b t i o=>simp only[ID];rw[hh b (by simp[aM])]
 |_=>rfl
def Rk{e:Nat}(hh:∀m∈c.rds,h' m=h m):GA h' e c=GA h e c:=by
 cases c with
 |own b=>simp only[GA];rw[hh b (by simp[aM])]
 |sc v=>unfold GA;split<;>first|rfl|contradiction
 |_=>rfl
def Azd(hh:∀m∈c.rds,h' m=h m):Vf h' n c=Vf h n c:=by
 unfold Vf;rw[Aog hh];cases c with
 |pd b o s l i=>
  have e:(λq=>Gw h' n (.ptr b (o+q*s)))=λq=>Gw h n (.ptr b (o+q*s)):=funext λq=>Aog λm hm=>hh m (by simpa[aM]using hm);have e2:Abp h' (.pd b o s l i)=Abp h (.pd b o s l i):=by simp only[Abp];rw[hh b (by simp[aM])]
  simp only[e,e2]
 |_=>rfl
def Ae4(cf:BW G):Prop:=∀g args h h' nm out,cf g args h nm (aB G) C=C out->(∀n∈out.rd,h' n=h n)->cf g args h' nm (aB G) C=C out
def Bf3{cf:BW G}(hl:Ae4 cf){op:Op}{out:aB G}(ha:act cf ev h nm op (aB G) C=C out)(hh:∀n∈out.rd,h' n=h n):act cf ev h' nm op (aB G) C=C out:=by
 cases op
 case load t x=>have ha:OY ev h t x (aB G) C=C out:=ha;show OY ev h' t x (aB G) C=C out;unfold OY at ha|-;obtain⟨c,hc,h1⟩:=bindC ha;have h1':=h1;obtain⟨_,cs,_,_,h2⟩:=Agj h1;obtain⟨y,hy,h3⟩:=aL h2;simp[aG]at h3;subst h3;have e:=Azd (n:=G.sz t) hh;simp only[aI,evC,hc,aR,e];exact h1'
 case convert s t x=>
  have ha:OX ev h s t x (aB G) C=C out:=ha;show OX ev h' s t x (aB G) C=C out;unfold OX at ha|-;obtain⟨hn,h0⟩:=aJ ha;obtain⟨c,hc,h1⟩:=bindC h0;simp only[aI,aQ,hn,d_,evC,hc];cases hts:G.ty s with
  |sl e=>
   rw[hts]at h1;simp only at h1|-;cases hst:Agc (G.ty t)with
   |false=>rw[hst]at h1;exact h1
   |true=>rw[hst,d_]at h1;obtain⟨hg,h2⟩:=aJ h1;obtain⟨l,hl',h3⟩:=aL h2;simp[aG]at h3;subst h3;simp only[d_,aI,aQ,hg,aR,Rk (e:=e) hh,hl',aG]
  |_=>rw[hts]at h1;exact h1
 case buildSlice t n ps=>
  have ha:Dk ev h nm t n ps.toList (aB G) C=C out:=ha;show Dk ev h' nm t n ps.toList (aB G) C=C out;unfold Dk at ha|-;cases ht:G.ty t<;>simp only[ht]at ha|- <;>try exact ha
  obtain⟨ys,h1,h2⟩:=(Mx (ev:=ev) ps.toList).spec (aT ha);obtain⟨hn,h3⟩:=aJ h2;obtain⟨cs,hcs,h4⟩:=aL h3;show(Hc ev ps.toList) _ _=_;rw[Mx ps.toList,h1];simp only[a_,aI,aQ,hn,d_,aR,hcs];rename_i e;unfold WT at h4|-;cases hfn:Aaa (G.ty e)with
  |true=>rw[hfn]at h4;exact h4
  |false=>rw[hfn]at h4;obtain⟨q,hq,h5⟩:=aL h4;obtain⟨l,hl',h6⟩:=aL h5;simp[aG]at h6;subst h6;have e1:=Aec hq hh;simp only[aI,aR,e1,hl',aG]
 case store t x y=>
  have ha:Lc ev h t x y (aB G) C=C out:=ha;show Lc ev h' t x y (aB G) C=C out;unfold Lc at ha|-;obtain⟨c,hc,h1⟩:=bindC ha;obtain⟨u,hu,h2⟩:=SC h1;obtain⟨hn,h3⟩:=aJ h2;simp only[aI,evC,hc,evP,hu,aQ,hn,d_];have key:Rt h c u.cells (aB G) C=C out->Rt h' c u.cells (aB G) C=C out:=λh3=>by unfold Rt at h3|-;obtain⟨r,hr,h4⟩:=aL h3;simp[aG]at h4;subst h4;have e:=Aos (new:=u.cells) hh;simp only[aI,aR,e,hr,aG]
  cases c with
  |pr b tt i off=>unfold Abb at h3|-;obtain⟨q,hq,h4⟩:=aL h3;obtain⟨hb,h5⟩:=aJ h4;obtain⟨r,hr,h6⟩:=aL h5;simp[aG]at h6;subst h6;have e1:=Aec hq λn hm=>hh n (by simp[hm]);have e2:=Aos (h:=h) (h':=h') (new:=q.1) (c:=.pr b tt i off) λn hm=>hh n (by simp[aM]at hm;simp[hm]);simp only[aI,aR,aQ,e1,hb,d_,e2,hr,aG]
  |_=>exact key h3
 case indexAddr t x i=>
  have ha:Ed ev h t x i (aB G) C=C out:=ha;show Ed ev h' t x i (aB G) C=C out;unfold Ed at ha|-;cases ht:G.ty t<;>simp only[ht]at ha|- <;>try exact ha
  rename_i e;obtain⟨c,hc,h1⟩:=bindC ha;obtain⟨d,n,hi,h2⟩:=Ag h1;have g:ixS h' e c n (aB G) C=C out:=by
   unfold ixS at h2|-;cases c with
   |own b=>
    simp only at h2|-;cases hb:h b with
    |none=>rw[hb]at h2;simp[aN]at h2
    |some k=>
     rw[hb]at h2;cases k with
     |cells cs=>simp[aN]at h2
     |row u l=>have h2':=h2;simp only at h2;obtain⟨hn,h3⟩:=aJ h2;obtain⟨hn2,h4⟩:=aJ h3;simp[aG]at h4;subst h4;rw[hh b σ,hb];exact h2'
   |_=>exact h2
  simp only[aI,evC,hc,evI,hi];exact g
 case call cl=>
  obtain⟨callee,xs,tys⟩:=cl;cases callee
  case value f=>
   have ha:OV cf ev h nm f xs.toList (aB G) C=C out:=ha;show OV cf ev h' nm f xs.toList (aB G) C=C out;unfold OV at ha|-;obtain⟨c,hc,h1⟩:=bindC ha;obtain⟨as,h2,has⟩:=(PZ (ev:=ev) xs.toList).spec (aT h1);have g:Xp cf h' nm c as (aB G) C=C out:=by
    unfold Xp at has|-;cases c with
    |clo g fst caps=>
     simp only at has|-;generalize G.ext g=m at has|-
     match m,has with
     |0,has=>exact hl _ _ _ _ _ _ has hh
     |1,has=>exact has
     |m+2,has=>exact has
    |_=>exact has
   simp only[aI,evC,hc];rw[PZ xs.toList,h2];exact g
  case builtin b=>
   have ha:Az ev h nm b tys.toList xs.toList (aB G) C=C out:=ha;show Az ev h' nm b tys.toList xs.toList (aB G) C=C out;rcases YN ha with⟨rfl,t,ts,x,h1,h2⟩|⟨rfl,x,y,h1⟩|⟨rfl,x,y,h1⟩|⟨rfl,t,x,y,h1,h2⟩|⟨rfl,x,y,z,h1⟩|⟨rfl,x,y,z,h1⟩|⟨rfl,t,x,y,h1,h2⟩
   .rw[h1,h2]at ha|-;have ha:VI ev h t x (aB G) C=C out:=ha;show VI ev h' t x (aB G) C=C out;unfold VI at ha|-;cases ht:G.ty t<;>simp only[ht]at ha|- <;>try exact ha
    rename_i e;obtain⟨c,hc,g1⟩:=bindC ha;simp only[aI,evC,hc];unfold Aod at g1|-;have key:aI (aR (GA h e c)) (λl=>aG (⟨C (.p (.one (.sc (.int .i64 (l.length:Int))))),[],[],c.rds⟩:aB G)) (aB G) C=C out->aI (aR (GA h' e c)) (λl=>aG (⟨C (.p (.one (.sc (.int .i64 (l.length:Int))))),[],[],c.rds⟩:aB G)) (aB G) C=C out:=λg1=>by obtain⟨l,hl',g2⟩:=aL g1;simp[aG]at g2;subst g2;have e1:=Rk (e:=e) hh;simp only[aI,aR,e1,hl',aG]
    cases c with
    |sa _ _ _=>exact g1
    |_=>exact key g1
   .rw[h1]at ha|-;exact ha
   .rw[h1]at ha|-;exact ha
   .rw[h1,h2]at ha|-;have ha:Kd ev h nm t t x y (aB G) C=C out:=ha;show Kd ev h' nm t t x y (aB G) C=C out;unfold Kd at ha|-;cases ht:G.ty t<;>simp only[ht]at ha|- <;>try exact ha
    rename_i e;obtain⟨hn,g1⟩:=aJ ha;obtain⟨c,hc,g2⟩:=bindC g1;obtain⟨c',hc',g3⟩:=bindC g2;obtain⟨l,hl',g4⟩:=aL g3;obtain⟨l',hl'',g5⟩:=aL g4;obtain⟨hn2,g6⟩:=aJ g5;have hrd:(∀m∈c.rds,m∈out.rd)/\∀m∈c'.rds,m∈out.rd:=by
     unfold Atf at g6;cases c with
     |sc v=>simp[aG]at g6;subst g6;exact⟨by simp[aM],λm h=>h⟩
     |own n=>simp only at g6;obtain⟨_,g7⟩:=aJ g6;simp[aG]at g7;subst g7;exact⟨by simp[aM],λm h=>by simp[h]⟩
     |_=>simp[aN]at g6
    have e1:=Rk (e:=e) (c:=c) λm hm=>hh m (hrd.1 m hm);have e2:=Rk (e:=e) (c:=c') λm hm=>hh m (hrd.2 m hm);simp only[aI,aQ,hn,d_,evC,hc,hc',aR,e1,e2,hl',hl'',hn2];exact g6
   .rw[h1]at ha|-;exact ha
   .rw[h1]at ha|-;exact ha
   .rw[h1,h2]at ha|-;have ha:QA ev h t t x y (aB G) C=C out:=ha;show QA ev h' t t x y (aB G) C=C out;unfold QA at ha|-;cases ht:G.ty t<;>simp only[ht]at ha|- <;>try exact ha
    rename_i e;obtain⟨hn,g1⟩:=aJ ha;obtain⟨c,hc,g2⟩:=bindC g1;obtain⟨c',hc',g3⟩:=bindC g2;obtain⟨l',hl',g4⟩:=aL g3;have hrd:(∀m∈c.rds,m∈out.rd)/\∀m∈c'.rds,m∈out.rd:=by
     unfold Abr at g4;cases c with
     |own n=>
      simp only at g4;cases hm:h n with
      |none=>simp[hm,aN]at g4
      |some k=>
       cases k with
       |cells _=>simp[hm,aN]at g4
       |row u l=>simp only[hm]at g4;obtain⟨_,g7⟩:=aJ g4;obtain⟨_,_,g7⟩:=aL g7;simp[aG]at g7;subst g7;exact⟨by simp[aM],λm h=>by simp[h]⟩
     |sa n off len=>
      simp only at g4;cases hm:h n with
      |none=>simp[hm,aN]at g4
      |some k=>
       cases k with
       |row _ _=>simp[hm,aN]at g4
       |cells cs=>simp only[hm]at g4;obtain⟨_,g7⟩:=aJ g4;obtain⟨_,_,g7⟩:=aL g7;obtain⟨_,g7⟩:=aJ g7;simp[aG]at g7;subst g7;exact⟨by simp[aM],λm h=>by simp[h]⟩
     |_=>simp[aN]at g4
    have e2:=Rk (e:=e) (c:=c') λm hm=>hh m (hrd.2 m hm);simp only[aI,aQ,hn,d_,evC,hc,hc',aR,e2,hl'];unfold Abr at g4|-;cases c with
    |own n=>simp only[hh n (hrd.1 n (by simp[aM]))];exact g4
    |sa n off len=>simp only[hh n (hrd.1 n (by simp[aM]))];exact g4
    |_=>exact g4
  case invoke=>exact ha
 case makeFunc fn a b=>cases fn<;>exact ha
 all_goals exact ha
end
end Go.Ab
namespace Go.Ab
variable{G:aD}
variable{s:V G}{d:Option Nat}{o:aB G}
section
variable(cf:BW G)(nt:Nat)
def Amb(ops:Array Oper)(o:Oper)(st:V G):M (aB G×V G):=
 aI (aQ (MX nt o.dst)) λ_=>aI (Ta ops st.tm o) λg=>
  match g.1 with
  |true=>aI (act cf (Pe st.tm) (O st.hp) (Alz 0 o.dst) o.op) λout=>aI (aQ (HW st.us out.nw)) λ_=>aG (out,(st.note g.2).next o.dst out)
  |false=>aG (⟨C (.tup []),[],[],[]⟩,(st.note g.2).next o.dst ⟨C (.tup []),[],[],[]⟩)
def Aja(ops:Array Oper):List Oper->V G->M (List (aB G)×V G)
 |[],st=>aG ([],st)
 |o::t,st=>aI (Amb cf nt ops o st) λp=>aI (Aja ops t p.2) λq=>aG (p.1::q.1,q.2)
end
def Pk(acc:List Nat):List Edge->Nat
 |[]=>0
 |e::t=>bif Region.binds .any e then Nat.lor (Nat.lor (2^e.on) (acc.getD e.on 0)) (Pk acc t)else Pk acc t
def Abt(n:Nat):List Edge->Bool
 |[]=>J
 |e::t=>(!Region.binds .any e||Nat.blt e.on n)&&Abt n t
def Jv:List Oper->List Nat->List Nat
 |[],acc=>acc
 |o::t,acc=>Jv t (acc++[Pk acc o.after.toList])
def PU:Nat->List Oper->Bool
 |_,[]=>J
 |n,o::t=>Abt n o.after.toList&&PU (n+1) t
def pairs{α:Type}(f:α->α->Bool)(ms:List Nat)(l:List α):Bool:=go 0 l
where
 one (x:α) (i j:Nat):List α->Bool
  |[]=>J
  |y::t=>(f x y||Nat.testBit (ms.getD j 0) i)&&one x i (j+1) t
 go (i:Nat):List α->Bool
  |[]=>J
  |x::t=>one x i (i+1) t&&go (i+1) t
def Ch:List (Nat×Option (aA G.T))->List Nat
 |[]=>[]
 |(n,_)::t=>n::Ch t
def disj:List Nat->List Nat->Bool
 |[],_=>J
 |n::t,l=>!has l n&&disj t l
def Axy(x y:aB G):Bool:=disj (Ch x.d) y.rd&&disj (Ch x.d) (Ch y.d)&&disj (Ch y.d) x.rd
def TQ(cf:BW G)(nt:Nat)(ops:Array Oper)(st:V G):M (V G):=
 aI (aQ (PU 0 ops.toList&&pairs (λx y=>Oper.apart ops x y) (Jv ops.toList []) ops.toList)) λ_=>
 aI (Aja cf nt ops ops.toList st) λp=>
 aI (aQ (pairs Axy (Jv ops.toList []) p.1)) λ_=>aG p.2
def XY{α:Type}{f:α->α->Bool}{ms:List Nat}{l:List α}(h:pairs f ms l=J):∀i j x y,i<j->l[i]?=C x->l[j]?=C y->f x y=J\/(ms.getD j 0).testBit i=J:=by
 have one:∀(l:List α) (x:α) (i j:Nat),pairs.one f ms x i j l=J->∀k y,l[k]?=C y->f x y=J\/(ms.getD (j+k) 0).testBit i=J:=by
  intro l;induction l with
  |nil=>intro x i j _ k y h;simp at h
  |cons z t ih=>
   intro x i j h k y hk;simp only[pairs.one,e_,b0_]at h;cases k with
   |zero=>simp at hk;subst hk;exact h.1
   |succ k=>
    simp at hk
    have:=ih x i (j+1) h.2 k y hk
    rwa [T_,d3_ 1 k]at this
 have go:∀(l:List α) (n:Nat),pairs.go f ms n l=J->∀i j x y,i<j->l[i]?=C x->l[j]?=C y->f x y=J\/(ms.getD (n+j) 0).testBit (n+i)=J:=by
  intro l;induction l with
  |nil=>intro n _ i j x y _ h;simp at h
  |cons z t ih=>
   intro n h i j x y hij hi hj;simp only[pairs.go,e_]at h;cases j with
   |zero=>omega
   |succ j=>
    simp at hj;cases i with
    |zero=>
     simp at hi;subst hi
     have:=one t z n (n+1) h.1 j y hj
     rwa [T_,d3_ 1 j]at this
    |succ i=>
     simp at hi
     have:=ih (n+1) h.2 i j x y ω hi hj
     rwa [T_,d3_ 1 j,T_ n 1 i,d3_ 1 i]at this
 intro i j x y hij hi hj;simpa using go l 0 h i j x y hij hi hj
def VS{acc:List Nat}{i:Nat}:∀{es:List Edge},(Pk acc es).testBit i=J->∃e∈es,Region.binds .any e=J/\(e.on=i\/(acc.getD e.on 0).testBit i=J)
 |[],h=>by simp[Pk]at h
 |e::t,h=>by
  simp only[Pk]at h;cases hb:Region.binds .any e with
  |false=>rw[hb]at h;obtain⟨e',h1,h2⟩:=VS (es:=t) h;exact⟨e',by simp[h1],h2⟩
  |true=>
   rw[hb]at h;have h:(2^e.on|||acc.getD e.on 0|||Pk acc t).testBit i=J:=h;rw[Nat.testBit_or,Nat.testBit_or,Nat.testBit_two_pow]at h;simp only[b0_,R_]at h;rcases h with(h|h)|h
   .exact⟨e,σ,hb,.inl h⟩
   .exact⟨e,σ,hb,.inr h⟩
   .obtain⟨e',h1,h2⟩:=VS (es:=t) h;exact⟨e',by simp[h1],h2⟩
def ZS{n:Nat}:∀{es:List Edge},Abt n es=J->∀e∈es,Region.binds .any e=J->e.on<n
 |[],_,_,h,_=>by simp at h
 |e::t,h,e',he,hb=>by
  simp only[Abt,e_,b0_]at h;rcases v_.1 he with rfl|he
  .rcases h.1 with h1|h1
   .rw[hb]at h1;simp at h1
   .simp[Nat.blt]at h1;omega
  .exact ZS h.2 e' he hb
def RM:∀{l:List Oper}{n:Nat},PU n l=J->∀i o,l[i]?=C o->∀e∈o.after.toList,Region.binds .any e=J->e.on<n+i
 |[],_,_,i,o,h=>by simp at h
 |p::t,n,h,i,o,hi=>by
  simp only[PU,e_]at h;cases i with
  |zero=>simp at hi;subst hi;exact ZS h.1
  |succ i=>
   simp at hi;intro e he hb
   have:=RM h.2 i o hi e he hb
   omega
def XT:∀(l:List Oper) (acc:List Nat) (j:Nat),j<acc.length->(Jv l acc).getD j 0=acc.getD j 0
 |[],_,_,_=>rfl
 |o::t,acc,j,h=>by rw[Jv,XT t _ j (by simp;omega)];simp[n_,e7_,h]
def Ago:∀(l:List Oper) (acc:List Nat) (j:Nat) (o:Oper),l[j]?=C o->
  ∃acc',(Jv l acc).getD (acc.length+j) 0=Pk acc' o.after.toList/\∀k,k<acc.length+j->acc'.getD k 0=(Jv l acc).getD k 0
 |[],_,_,_,h=>by simp at h
 |p::t,acc,j,o,h=>by
  cases j with
  |zero=>
   simp at h;subst h;refine⟨acc,?_,λk hk=>?_⟩
   .rw[Jv,XT t _ _ σ];simp[n_]
   .rw[XT _ _ _ ω]
  |succ j=>
   simp at h;obtain⟨acc',h1,h2⟩:=Ago t (acc++[Pk acc p.after.toList]) j o h;simp only[h_,a8_]at h1 h2;refine⟨acc',?_,λk hk=>?_⟩
   .rw[Jv,<-h1];congr 1;omega
   .rw[Jv,h2 k ω]
def Down(ops:Array Oper)(D:Nat->Bool):Prop:=∀j o,ops[j]?=C o->D j=J->∀e∈o.after.toList,Region.binds .any e=J->D e.on=J
def ZR{ops:Array Oper}(he:PU 0 ops.toList=J){D:Nat->Bool}(hD:Down ops D):∀(n j:Nat) (o:Oper),j<n->ops[j]?=C o->(∀e∈o.after.toList,Region.binds .any e=J->D e.on=J)->
  ∀i,((Jv ops.toList []).getD j 0).testBit i=J->D i=J
 |0,_,_,h,_,_,_,_=>by omega
 |n+1,j,o,hj,ho,hpre,i,hi=>by
  have ho':ops.toList[j]?=C o:=by simpa using ho
  obtain⟨acc',h1,h2⟩:=Ago ops.toList [] j o ho';simp only[List.length_nil,k_]at h1 h2;rw[h1]at hi;obtain⟨e,he1,he2,he3⟩:=VS hi;have hlt:=RM he j o ho' e he1 he2;rw[k_]at hlt;have hDe:=hpre e he1 he2;rcases he3 with rfl|he3
  .exact hDe
  .rw[h2 e.on hlt]at he3;have hjs:j<ops.size:=by
    have:=(x_.1 ho).1;exact this
   obtain⟨o',ho2⟩:∃o',ops[e.on]?=C o':=⟨ops[e.on]'ω,a6_ _⟩
   exact ZR he hD n e.on o' ω ho2 (λe' h3 h4=>hD e.on o' ho2 hDe e' h3 h4) i he3
structure ExtEq(s s':St G):Prop where
 tm:∀k,get s.tm k=get s'.tm k
 hp:∀n,get s.hp n=get s'.hp n
 us:∀n,n∈s.us↔n∈s'.us
def ExtEq.rfl':ExtEq s s:=⟨λ_=>rfl,λ_=>rfl,λ_=>Iff.rfl⟩
def ExtEq.symm{s':V G}(h:ExtEq s s'):ExtEq s' s:=⟨λk=>(h.tm k).symm,λk=>(h.hp k).symm,λk=>(h.us k).symm⟩
def ExtEq.trans{s' s'':V G}(h:ExtEq s s')(g:ExtEq s' s''):ExtEq s s'':=⟨λk=>(h.tm k).trans (g.tm k),λk=>(h.hp k).trans (g.hp k),λk=>(h.us k).trans (g.us k)⟩
def Rel.ext{cx:Cx}{s':V G}{a:Act}{w:World}(e:ExtEq s s')(h:Rel G cx s a w):Rel G cx s' a w:=by obtain⟨ν,S,r⟩:=h;have hf:O s.hp=O s'.hp:=funext e.hp;exact⟨ν,S,⟨λk v hk=>r.slot k v ((e.tm k).trans hk),hf▸r.heap,λn hn=>(e.us n).1 (r.used n hn),r.defers,r.nt,r.size,r.frame,r.env,r.sub,r.keep,r.names⟩⟩
def Tc(k:Nat):O (s.next d o).tm k=if d=C k then o.v else O s.tm k:=by
 cases d with
 |none=>simp[St.next]
 |some d=>
  simp only[St.next];cases hv:o.v with
  |none=>simp only[WH];by_cases e:d=k<;>simp[e]
  |some v=>simp only[SZ];by_cases e:d=k<;>simp[e]
def Tb(n:Nat):O (s.next d o).hp n=AW (O s.hp) o.d n:=by show O (Aes s.hp o.d) n=_;rw[XL]
def Td(n:Nat):n∈(s.next d o).us↔n∈o.nw\/n∈s.us:=by show n∈o.nw++s.us↔_;simp
def Js:∀(d:List (Nat×Option (aA G.T))) (h:Nat->Option (aA G.T)) (n:Nat),n∉Ch d->AW h d n=h n
 |[],_,_,_=>rfl
 |(m,b)::t,h,n,hn=>by simp only[Ch,v_,not_or]at hn;rw[AW,Js t _ n hn.2,if_neg (e0_ hn.1)]
def WD:∀(d:List (Nat×Option (aA G.T))) (h h':Nat->Option (aA G.T)) (n:Nat),h n=h' n\/n∈Ch d->AW h d n=AW h' d n
 |[],_,_,_,hn=>by simpa[Ch,AW]using hn
 |(m,b)::t,h,h',n,hn=>by
  simp only[AW];refine WD t _ _ n ?_;by_cases e:m=n
  .left;simp[e]
  .simp only[e,if_false];rcases hn with h1|h1
   .exact .inl h1
   .simp only[Ch,v_]at h1;exact .inr (h1.resolve_left (e0_ e))
def ExtEq.next{s':V G}(h:ExtEq s s')(d:Option Nat)(o:aB G):ExtEq (s.next d o) (s'.next d o):=⟨λk=>by rw[Tc,Tc,h.tm],λn=>by rw[Tb,Tb];exact WD _ _ _ _ (.inl (h.hp n)),λn=>by rw[Td,Td,h.us]⟩
def XW{p:Nat×Bool}(h:O s.tm p.1=C (.p (.one (.sc (.bool p.2))))):ExtEq s (s.note (C p)):=
 ⟨λk=>by
  show _=O (put s.tm p.1 _) k;rw[SZ];by_cases e:p.1=k
  .rw[if_pos e,<-e,h]
  .rw[if_neg e],λ_=>rfl,λ_=>Iff.rfl⟩
def AL(D:Nat->Bool):Nat->List (Option Nat×aB G)->V G->V G
 |_,[],s=>s
 |i,r::t,s=>AL D (i+1) t (bif D i then s.next r.1 r.2 else s)
section
variable{D D':Nat->Bool}
def Vo{k:Nat}:∀(l:List (Option Nat×aB G)) (n:Nat) (s s':V G),(∀i r,l[i]?=C r->r.1=C k->D (n+i)=D' (n+i))->O s.tm k=O s'.tm k->
  O (AL D n l s).tm k=O (AL D' n l s').tm k
 |[],_,_,_,_,h=>h
 |r::t,n,s,s',hd,h=>by
  simp only[AL];refine Vo t (n+1) _ _ (λi q hq hk=>by have:=hd (i+1) q (by simpa using hq) hk;rwa [<-T_,bB]at this) ?_;by_cases e:r.1=C k
  .have:=hd 0 r rfl e
   rw[b6_]at this;rw[<-this];cases D n
   .exact h
   .simp[Tc,e]
  .cases D n<;>cases D' n<;>simp[Tc,e,h]
def Vn{k:Nat}:∀(l:List (Option Nat×aB G)) (n:Nat) (s s':V G),(∀i r,l[i]?=C r->k∈Ch r.2.d->D (n+i)=D' (n+i))->O s.hp k=O s'.hp k->
  O (AL D n l s).hp k=O (AL D' n l s').hp k
 |[],_,_,_,_,h=>h
 |r::t,n,s,s',hd,h=>by
  simp only[AL];refine Vn t (n+1) _ _ (λi q hq hk=>by have:=hd (i+1) q (by simpa using hq) hk;rwa [<-T_,bB]at this) ?_;by_cases e:k∈Ch r.2.d
  .have:=hd 0 r rfl e
   rw[b6_]at this;rw[<-this];cases D n
   .exact h
   .simp only[d_,Tb];exact WD _ _ _ _ (.inr e)
  .cases D n<;>cases D' n<;>simp[Tb,Js _ _ _ e,h]
def NL{k:Nat}:∀(l:List (Option Nat×aB G)) (n:Nat) (s:V G),k∈(AL D n l s).us↔k∈s.us\/∃i r,l[i]?=C r/\D (n+i)=J/\k∈r.2.nw
 |[],_,s=>by simp[AL]
 |r::t,n,s=>by
  simp only[AL];rw[NL t (n+1)];constructor
  .rintro(h|⟨i,q,h1,h2,h3⟩)
   .cases hd:D n with
    |false=>rw[hd]at h;exact .inl h
    |true=>
     rw[hd]at h;rcases(Td k).1 h with h|h
     .exact .inr ⟨0,r,rfl,by simpa using hd,h⟩
     .exact .inl h
   .exact .inr ⟨i+1,q,by simpa using h1,by rwa [d3_ i 1,<-T_],h3⟩
  .rintro(h|⟨i,q,h1,h2,h3⟩)
   .left;cases hd:D n with
    |false=>exact h
    |true=>exact(Td k).2 (.inr h)
   .cases i with
    |zero=>simp at h1 h2;subst h1;left;rw[h2];exact(Td k).2 (.inl h3)
    |succ i=>simp at h1;exact .inr ⟨i,q,h1,by rwa [T_,d3_ 1 i],h3⟩
def MA:∀(l:List (Option Nat×aB G)) (n:Nat) (s:V G),AL (λ_=>U) n l s=s
 |[],_,_=>rfl
 |_::t,n,s=>MA t (n+1) s
def Ar4{k:Nat}:∀(l:List (Option Nat×aB G)) (n i:Nat) (r:Option Nat×aB G) (s:V G),l[i]?=C r->r.1=C k->D (n+i)=J->
  (∀j q,i<j->l[j]?=C q->D (n+j)=J->q.1≠C k)->O (AL D n l s).tm k=r.2.v
 |[],_,_,_,_,h,_,_,_=>by simp at h
 |p::t,n,i,r,s,hi,hk,hd,hl=>by
  simp only[AL];cases i with
  |zero=>
   simp at hi hd;subst hi;rw[hd,d_];rw[Vo (D':=λ_=>U) (s':=s.next p.1 p.2) t (n+1) _ (λj q hq hqk=>?_) rfl,MA,Tc,if_pos hk];cases hdj:D (n+1+j)with
   |false=>rfl
   |true=>exact absurd hqk (hl (j+1) q ω (by simpa using hq) (by rwa [d3_ j 1,<-T_]))
  |succ i=>simp at hi;refine Ar4 t (n+1) i r _ hi hk (by rwa [T_,d3_ 1 i]) λj q hj hq hdj=>?_;exact hl (j+1) q ω (by simpa using hq) (by rwa [d3_ j 1,<-T_])
def Ar3{k:Nat}:∀(l:List (Option Nat×aB G)) (n i:Nat) (r:Option Nat×aB G) (s:V G) (h:Nat->Option (aA G.T)),l[i]?=C r->k∈Ch r.2.d->D (n+i)=J->
  (∀j q,i<j->l[j]?=C q->D (n+j)=J->k∉Ch q.2.d)->O (AL D n l s).hp k=AW h r.2.d k
 |[],_,_,_,_,_,h,_,_,_=>by simp at h
 |p::t,n,i,r,s,h,hi,hk,hd,hl=>by
  simp only[AL];cases i with
  |zero=>
   simp at hi hd;subst hi;rw[hd,d_];rw[Vn (D':=λ_=>U) (s':=s.next p.1 p.2) t (n+1) _ (λj q hq hqk=>?_) rfl,MA,Tb]
   .exact WD _ _ _ _ (.inr hk)
   cases hdj:D (n+1+j)with
   |false=>rfl
   |true=>exact absurd hqk (hl (j+1) q ω (by simpa using hq) (by rwa [d3_ j 1,<-T_]))
  |succ i=>simp at hi;refine Ar3 t (n+1) i r _ h hi hk (by rwa [T_,d3_ 1 i]) λj q hj hq hdj=>?_;exact hl (j+1) q ω (by simpa using hq) (by rwa [d3_ j 1,<-T_])
end
end Go.Ab
namespace Go.Ab
variable{G:aD}
variable{s:V G}{o:Oper}{out:aB G}{j:Nat}
def Pt{D D':Nat->Bool}:∀(l:List (Option Nat×aB G)) (n n':Nat) (s s':V G),(∀i,i<l.length->D (n+i)=D' (n'+i))->ExtEq s s'->ExtEq (AL D n l s) (AL D' n' l s')
 |[],_,_,_,_,_,h=>h
 |r::t,n,n',s,s',hd,h=>by
  simp only[AL];refine Pt t (n+1) (n'+1) _ _ (λi hi=>by have:=hd (i+1) (by simpa using hi);rwa [<-T_,<-T_,bB,bB n']at this) ?_
  have:=hd 0 σ
  rw[b6_,b6_]at this;rw[<-this];cases D n
  .exact h
  .exact h.next _ _
inductive StepR(cf:BW G)(nt:Nat)(ops:Array Oper)(o:Oper)(st:St G)(out:Out G):Prop
 |act (g:Option (Nat×Bool)) (hd:MX nt o.dst=true)
   (hg:∀p,g=some p->get st.tm p.1=some (.p (.one (.sc (.bool p.2))))/\∃j want,o.guard=some (j,want)/\(ops[j]?).bind (·.dst)=some p.1/\p.2=want)
   (hn:g=none->o.guard=none) (hact:act cf (Pe st.tm) (get st.hp) (Alz 0 o.dst) o.op (Out G) some=some out) (hf:HW st.us out.nw=true)
 |skip (p:Nat×Bool) (j:Nat) (want:Bool) (hd:MX nt o.dst=true) (hp:get st.tm p.1=some (.p (.one (.sc (.bool p.2))))) (hg:o.guard=some (j,want)) (hj:(ops[j]?).bind (·.dst)=some p.1) (hw:p.2≠want)
   (e:out=⟨some (.tup []),[],[],[]⟩)
 |skipU (gs j:Nat) (want:Bool) (hd:MX nt o.dst=true) (hp:get st.tm gs=some (.tup [])) (hg:o.guard=some (j,want)) (hj:(ops[j]?).bind (·.dst)=some gs) (e:out=⟨some (.tup []),[],[],[]⟩)
def Ajl{d:Option Nat}:ExtEq (s.drop d) (s.next d ⟨C (.tup []),[],[],[]⟩):=by
 cases d with
 |none=>exact⟨λ_=>rfl,λ_=>rfl,λ_=>Iff.rfl⟩
 |some d=>exact⟨λ_=>rfl,λ_=>rfl,λ_=>Iff.rfl⟩
section
variable{P:Program}(ok:aP P G)(eqok:EqOK P G){cf:BW G}(cfok:CfOK P G cf)(cfl:Ae4 cf){nt:Nat}{ops:Array Oper}
include cfok in
theorem Aj1(o:Oper)(st:V G):Law (Amb cf nt ops o st):=by
 refine Ac (Am _) λ_=>Ac (Ve _ _ _) λg=>?_;split
 .exact Ac (Aby cfok.law _) λ_=>Ac (Am _) λ_=>Ae _
 .exact Ae _
include cfok in
theorem XR:∀(l:List Oper) (st:V G),Law (Aja cf nt ops l st)
 |[],_=>Ae _
 |o::t,st=>Ac (Aj1 cfok o st) λ_=>Ac (XR t _) λ_=>Ae _
include cfok in
theorem Av7{st st':V G}(h:Amb cf nt ops o st _ C=C (out,st')):StepR cf nt ops o st out/\ExtEq st' (st.next o.dst out):=by
 unfold Amb at h;obtain⟨hd,h1⟩:=aJ h;obtain⟨⟨go,g⟩,hgo,h2⟩:=(Ve ops st.tm o).spec (aT h1);have hcar:∀(hg:∀p,g=C p->O st.tm p.1=C (.p (.one (.sc (.bool p.2))))/\∃j want,o.guard=C (j,want)/\(ops[j]?).bind (·.dst)=C p.1/\p.2=want) (hn:g=N->o.guard=N),go=J->
   StepR cf nt ops o st out/\ExtEq st' (st.next o.dst out):=by
  intro hg hn hgo;subst hgo;simp only at h2;obtain⟨out',hout,h3⟩:=(Aby cfok.law _).spec (aT h2);obtain⟨hf,h4⟩:=aJ h3;simp[aG]at h4;obtain⟨rfl,rfl⟩:=h4;refine⟨.act g hd hg hn hout hf,?_⟩;cases g with
  |none=>exact ExtEq.rfl'
  |some p=>exact((XW (hg p rfl).1).symm).next _ _
 unfold Ta at hgo;cases hog:o.guard with
 |none=>simp[hog,aG]at hgo;obtain⟨rfl,rfl⟩:=hgo;exact hcar σ (λ_=>hog) rfl
 |some jw=>
  obtain⟨j,want⟩:=jw;simp only[hog,Af9]at hgo;split at hgo
  .rename_i gs hgs;split at hgo
   .rename_i b hb;have hsk:∀bb:Bool,O st.tm gs=C (.p (.one (.sc (.bool bb))))->bb≠want->go=U->g=C (gs,bb)->StepR cf nt ops o st out/\ExtEq st' (st.next o.dst out):=by
     intro bb h5 h6 h7 h8;subst h7;simp[aG]at h2;obtain⟨rfl,rfl⟩:=h2;refine⟨.skip (gs,bb) j want hd h5 hog hgs h6 rfl,?_⟩;rw[h8];exact((XW (p:=(gs,bb)) h5).symm).next _ _
    cases b with
    |true=>
     simp at hgo;obtain⟨rfl,rfl⟩:=hgo;cases want with
     |true=>exact hcar (by rintro p hp;simp at hp;subst hp;exact⟨hb,j,J,hog,hgs,rfl⟩) σ rfl
     |false=>exact hsk J hb σ rfl rfl
    |false=>
     simp at hgo;obtain⟨rfl,rfl⟩:=hgo;cases go with
     |false=>exact hsk U hb σ rfl rfl
     |true=>exact hcar (by rintro p hp;simp at hp;subst hp;exact⟨hb,j,_,hog,hgs,rfl⟩) σ rfl
   .rename_i hu;simp at hgo;obtain⟨rfl,rfl⟩:=hgo;simp[aG]at h2;obtain⟨rfl,rfl⟩:=h2;exact⟨.skipU gs j want hd hu hog hgs rfl,ExtEq.rfl'⟩
   .simp at hgo
  .simp at hgo
def recs(l:List Oper)(outs:List (aB G)):List (Option Nat×aB G):=l.zipWith (λo out=>(o.dst,out)) outs
theorem Qc{l:List Oper}{outs:List (aB G)}{i:Nat}{r:Option Nat×aB G}(h:(recs l outs)[i]?=C r):∃o,l[i]?=C o/\outs[i]?=C r.2/\r.1=o.dst:=by
 unfold recs at h;rw[bE]at h;cases h1:l[i]? with
 |none=>simp[h1]at h
 |some o=>
  cases h2:outs[i]? with
  |none=>simp[h1,h2]at h
  |some out=>simp[h1,h2]at h;subst h;exact⟨o,rfl,rfl,rfl⟩
include cfok in
theorem Akm:∀(l:List Oper) (st st':V G) (outs:List (aB G)),Aja cf nt ops l st _ C=C (outs,st')->
  outs.length=l.length/\ExtEq st' (AL (λ_=>J) 0 (recs l outs) st)/\
  ∀i o out,l[i]?=C o->outs[i]?=C out->∃s,ExtEq s (AL (λj=>decide (j<i)) 0 (recs l outs) st)/\StepR cf nt ops o s out
 |[],st,st',outs,h=>by simp[Aja,aG]at h;obtain⟨rfl,rfl⟩:=h;exact⟨rfl,ExtEq.rfl',λi o out h=>by simp at h⟩
 |p::t,st,st',outs,h=>by
  unfold Aja at h;obtain⟨⟨out,st1⟩,h1,h2⟩:=(Aj1 cfok p st).spec (aT h);obtain⟨⟨outs',st2⟩,h3,h4⟩:=(XR cfok t st1).spec (aT h2);simp[aG]at h4;obtain⟨rfl,rfl⟩:=h4;obtain⟨hs,he⟩:=Av7 cfok h1;obtain⟨e1,e2,e3⟩:=Akm t st1 st2 outs' h3;refine⟨by simp[e1],?_,λi o q hi hq=>?_⟩
  .refine e2.trans ?_;show ExtEq _ (AL _ 1 (recs t outs') (st.next p.dst out));exact Pt _ _ _ _ _ (λ_ _=>rfl) he
  .cases i with
   |zero=>
    simp at hi hq;subst hi;subst hq;refine⟨st,?_,hs⟩;show ExtEq st (AL _ 1 (recs t outs') st)
    have:=Pt (D:=λ_=>U) (D':=λj=>decide (j<0)) (recs t outs') 0 1 st st (λi _=>by simp) ExtEq.rfl'
    rwa [MA]at this
   |succ i=>simp at hi hq;obtain⟨s,g1,g2⟩:=e3 i o q hi hq;refine⟨s,g1.trans ?_,g2⟩;show ExtEq _ (AL _ 1 (recs t outs') (st.next p.dst out));exact Pt _ _ _ _ _ (λk _=>by simp;omega) he
theorem Bck{us l:List Nat}(h:∀n∈l,n∉us):HW us l=J:=by
 induction l with
 |nil=>rfl
 |cons k t ih=>
  simp only[HW,e_,a5_];refine⟨?_,ih λn hn=>h n (by simp[hn])⟩;cases hb:has us k with
  |false=>rfl
  |true=>exact absurd ((Fw us k).1 hb) (h k σ)
theorem UY:∀{a b:List Nat},disj a b=J->∀n∈a,n∉b
 |[],_,_,n,h=>by simp at h
 |m::t,b,h,n,hn=>by
  simp only[disj,e_]at h;rcases v_.1 hn with rfl|hn
  .intro hm;rw[(Fw b n).2 hm]at h;simp at h
  .exact UY h.2 n hn
theorem Azg{x:Operand}(h:x∈o.op.operands.toList){t:Nat}(hx:x=.tmp t):t∈o.looksAt ops:=by unfold Oper.looksAt;refine u_.2 (.inl (List.mem_filterMap.2 ⟨x,h,?_⟩));subst hx;rfl
theorem VP{want:Bool}{d:Nat}(hg:o.guard=C (j,want))(hj:(ops[j]?).bind (·.dst)=C d):d∈o.looksAt ops:=by unfold Oper.looksAt;refine u_.2 (.inr ?_);rw[hg];simp[hj]
structure Done(cf:BW G)(nt:Nat)(ops:Array Oper)(st:St G)(outs:List (Out G))(sf:Nat->Prop):Prop where
 len:outs.length=ops.size
 edges:PU 0 ops.toList=true
 slots:pairs (λx y=>Oper.apart ops x y) (Jv ops.toList []) ops.toList=true
 mem:∀i j x y,i<j->outs[i]?=some x->outs[j]?=some y->((Jv ops.toList []).getD j 0).testBit i=true\/((∀n∈Ch x.d,n∉Ch y.d)/\(¬sf j->∀n∈Ch x.d,n∉y.rd)/\(¬sf i->∀n∈Ch y.d,n∉x.rd))
 soft:∀i,sf i->∀(D:Nat->Bool) (s:St G) o out nm,ExtEq s (AL (λj=>decide (j<i)) 0 (recs ops.toList outs) st)->ops[i]?=some o->outs[i]?=some out->act cf (Pe s.tm) (get s.hp) nm o.op (Out G) some=some out->act cf (Pe s.tm) (get (AL D 0 (recs ops.toList outs) st).hp) nm o.op (Out G) some=some out
 step:∀i o out,ops[i]?=some o->outs[i]?=some out->∃s,ExtEq s (AL (λj=>decide (j<i)) 0 (recs ops.toList outs) st)/\StepR cf nt ops o s out
variable{st:V G}{outs:List (aB G)}{sf:Nat->Prop}(dn:Done cf nt ops st outs sf)
section
variable{D:Nat->Bool}(hD:Down ops D){i:Nat}{o:Oper}{out:aB G}(ho:ops[i]?=C o)(hout:outs[i]?=C out)(hi:D i=U)
 (hpre:∀e∈o.after.toList,Region.binds .any e=J->D e.on=J)
include dn hD ho hout hi hpre
theorem PV{p:Oper}{q:aB G}(hp:ops[j]?=C p)(hq:outs[j]?=C q)(hj:(j<i/\D j=U)\/(i<j/\D j=J)):
  (∀d,p.dst=C d->d∉o.looksAt ops)/\(∀d,p.dst=C d->o.dst≠C d)/\(¬sf i->∀n∈Ch q.d,n∉out.rd)/\(∀n∈Ch q.d,n∉Ch out.d):=by
 have hp':ops.toList[j]?=C p:=by simpa using hp
 have ho':ops.toList[i]?=C o:=by simpa using ho
 have hcur:∀e∈o.after.toList,Region.binds .any e=J->D e.on=J:=hpre;rcases hj with⟨h1,h2⟩|⟨h1,h2⟩
 .have hno:((Jv ops.toList []).getD i 0).testBit j=J->False:=λhb=>by
   have:=ZR dn.edges hD (i+1) i o ω ho hcur j hb
   rw[h2]at this;simp at this
  have a1:=(XY dn.slots j i p o h1 hp' ho').resolve_right hno;have a2:=(dn.mem j i q out h1 hq hout).resolve_left hno;have a1:=Oper.apart_spec a1;exact⟨a1.1,a1.2.1,a2.2.1,a2.1⟩
 .have hno:((Jv ops.toList []).getD j 0).testBit i=J->False:=λhb=>by
   have:=ZR dn.edges hD (j+1) j p ω hp (hD j p hp h2) i hb
   rw[hi]at this;simp at this
  have a1:=(XY dn.slots i j o p h1 ho' hp').resolve_right hno;have a2:=(dn.mem i j out q h1 hout hq).resolve_left hno;have a1:=Oper.apart_spec a1;exact⟨a1.2.2,λd hd he=>a1.2.1 d he hd,a2.2.2,λn hn hm=>a2.1 n hm hn⟩
theorem Xh(hs:ExtEq s (AL (λj=>decide (j<i)) 0 (recs ops.toList outs) st)){k:Nat}(hk:k∈o.looksAt ops):
  O (AL D 0 (recs ops.toList outs) st).tm k=O s.tm k:=by
 rw[hs.tm k];refine Vo _ 0 _ _ (λj r hr hrk=>?_) rfl;rw[k_];obtain⟨p,h1,h2,h3⟩:=Qc hr;have h1':ops[j]?=C p:=by simpa using h1
 rw[h3]at hrk;by_cases hji:j<i
 .rw[b_ hji];cases hd:D j with
  |true=>rfl
  |false=>exact absurd hk ((PV dn hD ho hout hi hpre h1' h2 (.inl ⟨hji,hd⟩)).1 k hrk)
 .rw[f_ hji];by_cases e:j=i
  .subst e;exact hi
  .cases hd:D j with
   |false=>rfl
   |true=>exact absurd hk ((PV dn hD ho hout hi hpre h1' h2 (.inr ⟨ω,hd⟩)).1 k hrk)
theorem Bbt(hsf:¬sf i)(hs:ExtEq s (AL (λj=>decide (j<i)) 0 (recs ops.toList outs) st)){n:Nat}(hn:n∈out.rd):
  O (AL D 0 (recs ops.toList outs) st).hp n=O s.hp n:=by
 rw[hs.hp n];refine Vn _ 0 _ _ (λj r hr hrk=>?_) rfl;rw[k_];obtain⟨p,h1,h2,h3⟩:=Qc hr;have h1':ops[j]?=C p:=by simpa using h1
 by_cases hji:j<i
 .rw[b_ hji];cases hd:D j with
  |true=>rfl
  |false=>exact absurd hn ((PV dn hD ho hout hi hpre h1' h2 (.inl ⟨hji,hd⟩)).2.2.1 hsf n hrk)
 .rw[f_ hji];by_cases e:j=i
  .subst e;exact hi
  .cases hd:D j with
   |false=>rfl
   |true=>exact absurd hn ((PV dn hD ho hout hi hpre h1' h2 (.inr ⟨ω,hd⟩)).2.2.1 hsf n hrk)
omit hD hpre in
theorem Bbu(hs:ExtEq s (AL (λj=>decide (j<i)) 0 (recs ops.toList outs) st))(hf:HW s.us out.nw=J):
  HW (AL D 0 (recs ops.toList outs) st).us out.nw=J:=by
 refine Bck λn hn hm=>?_;have h0:=ZW hf n hn;rw[hs.us n,NL]at h0;rcases(NL _ _ _).1 hm with h|⟨j,r,h1,h2,h3⟩
 .exact h0 (.inl h)
 .rw[k_]at h2;by_cases hji:j<i
  .exact h0 (.inr ⟨j,r,h1,by rw[k_];exact b_ hji,h3⟩)
  .by_cases e:j=i
   .subst e;rw[hi]at h2;simp at h2
   .obtain⟨p,q1,q2,q3⟩:=Qc h1;obtain⟨s2,g1,g2⟩:=dn.step j p r.2 (by simpa using q1) q2;cases g2 with
    |act g hd hg hn' hact hf2=>
     refine ZW hf2 n h3 ?_;rw[g1.us n,NL];right;have hr:(recs ops.toList outs)[i]?=C (o.dst,out):=by
      unfold recs;rw[bE]
      have:ops.toList[i]?=C o:=by simpa using ho
      rw[this,hout]
     exact⟨i,_,hr,by rw[k_];exact b_ ω,hn⟩
    |skip p j want hd hp hg hj hw e=>rw[e]at h3;simp at h3
    |skipU gs j want hd hp hg hj e=>rw[e]at h3;simp at h3
include cfl in
theorem Bdt:StepR cf nt ops o (AL D 0 (recs ops.toList outs) st) out:=by
 obtain⟨s,hs,hstep⟩:=dn.step i o out ho hout;cases hstep with
 |act g hd hg hn hact hf=>
  refine .act g hd (λp hp=>?_) hn ?_ (Bbu dn ho hout hi hs hf)
  .obtain⟨h1,j,want,h2,h3,h4⟩:=hg p hp;refine⟨?_,j,want,h2,h3,h4⟩;rw[Xh dn hD ho hout hi hpre hs (VP h2 h3)];exact h1
  .rw[Bf4 (ev:=Pe s.tm) o.op λx hx=>?_]
   .by_cases hsf:sf i
    .exact dn.soft i hsf D s o out _ hs ho hout hact
    .exact Bf3 cfl hact λn hn=>Bbt dn hD ho hout hi hpre hsf hs hn
   .cases x with
    |tmp t=>exact Xh dn hD ho hout hi hpre hs (Azg hx rfl)
    |const v=>cases v<;>rfl
    |_=>rfl
 |skip p j want hd hp hg hj hw e=>refine .skip p j want hd ?_ hg hj hw e;rw[Xh dn hD ho hout hi hpre hs (VP hg hj)];exact hp
 |skipU gs j want hd hp hg hj e=>refine .skipU gs j want hd ?_ hg hj e;rw[Xh dn hD ho hout hi hpre hs (VP hg hj)];exact hp
theorem Bc5{D':Nat->Bool}(hD':D' i=J)(hne:∀j,j≠i->D' j=D j) :
  ExtEq ((AL D 0 (recs ops.toList outs) st).next o.dst out) (AL D' 0 (recs ops.toList outs) st):=by
 have hr:(recs ops.toList outs)[i]?=C (o.dst,out):=by
  unfold recs;rw[bE]
  have:ops.toList[i]?=C o:=by simpa using ho
  rw[this,hout]
 have hne0:∀j r,(recs ops.toList outs)[j]?=C r->r≠(o.dst,out)->j≠i:=by intro j r h1 h2 e;subst e;rw[hr]at h1;simp at h1;exact h2 h1.symm
 refine⟨λk=>?_,λn=>?_,λn=>?_⟩
 .rw[Tc];by_cases e:o.dst=C k
  .rw[if_pos e];rw[Ar4 _ 0 i _ _ hr e (by rw[k_];exact hD') λj q hj hq hdj hqk=>?_];rw[k_,hne j ω]at hdj;obtain⟨p,h1,h2,h3⟩:=Qc hq;rw[h3]at hqk;exact(PV dn hD ho hout hi hpre (by simpa using h1) h2 (.inr ⟨hj,hdj⟩)).2.1 k hqk e
  .rw[if_neg e];refine Vo _ 0 _ _ (λj r h1 h2=>?_) rfl;rw[k_];exact(hne j λej=>by subst ej;rw[hr]at h1;simp at h1;subst h1;exact e h2).symm
 .rw[Tb];by_cases e:n∈Ch out.d
  .rw[Ar3 _ 0 i _ _ (O (AL D 0 (recs ops.toList outs) st).hp) hr e (by rw[k_];exact hD') λj q hj hq hdj hqk=>?_];rw[k_,hne j ω]at hdj;obtain⟨p,h1,h2,h3⟩:=Qc hq;exact(PV dn hD ho hout hi hpre (by simpa using h1) h2 (.inr ⟨hj,hdj⟩)).2.2.2 n hqk e
  .rw[Js _ _ _ e];refine Vn _ 0 _ _ (λj r h1 h2=>?_) rfl;rw[k_];exact(hne j λej=>by subst ej;rw[hr]at h1;simp at h1;subst h1;exact e h2).symm
 .rw[Td,NL,NL];constructor
  .rintro(h|h|⟨j,r,h1,h2,h3⟩)
   .exact .inr ⟨i,_,hr,by rw[k_];exact hD',h⟩
   .exact .inl h
   .refine .inr ⟨j,r,h1,?_,h3⟩;rw[k_]at h2|-;by_cases e:j=i
    .subst e;exact hD'
    .rw[hne j e];exact h2
  .rintro(h|⟨j,r,h1,h2,h3⟩)
   .exact .inr (.inl h)
   .by_cases e:j=i
    .subst e;rw[hr]at h1;simp at h1;subst h1;exact .inl h3
    .refine .inr (.inr ⟨j,r,h1,?_,h3⟩);rw[k_]at h2|-;rw[<-hne j e];exact h2
end
include ok eqok cfok in
theorem Bds{cx:Cx}{a:Act}{w:World}(h:StepR cf cx.nt ops o s out)(r:Rel G cx s a w){K:Act->World->Prop}{Q:Exit->Act->World->Prop}
  (hK:∀a' w',Rel G cx (s.next o.dst out) a' w'->K a' w'):if Region.wanted o (yielded ops a.tmps)then o.wp P a w K Q else K (a.put o.dst undef) w:=by
 cases h with
 |act g hd hg hn hact hf=>
  refine Aca ok eqok cfok (.act g out hd hg hn hact hf rfl) r λa' w' r'=>hK a' w' (r'.ext ?_);cases g with
  |none=>exact ExtEq.rfl'
  |some p=>exact((XW (hg p rfl).1).symm).next _ _
 |skip p j want hd hp hg hj hw e=>subst e;refine Aca ok eqok cfok (.skip p j want hd hp hg hj hw rfl) r λa' w' r'=>hK a' w' (r'.ext ?_);refine ExtEq.trans Ajl ?_;exact((XW hp).symm).next _ _
 |skipU gs j want hd hp hg hj e=>subst e;exact Aca ok eqok cfok (.skipU gs j want hd hp hg hj rfl) r λa' w' r'=>hK a' w' (r'.ext Ajl)
end
end Go.Ab
namespace Go.Ab
variable{G:aD}
variable{Q:Exit->Act->World->Prop}{listed:Array Bool}{sf:Nat->Prop}{i:Nat}
def Ajj{α:Type}{p q:α->Bool}:∀(l:List α) (x:α),x∈l->(∀y∈l,q y=J->p y=J)->p x=J->q x=U->l.countP q<l.countP p
 |[],_,h,_,_,_=>by simp at h
 |y::t,x,h,hi,hp,hq=>by
  rcases v_.1 h with rfl|h
  .rw[List.countP_cons_of_neg (by simp[hq]),bD hp]
   have:t.countP q<=t.countP p:=List.countP_mono_left λz hz hqz=>hi z (by simp[hz]) hqz
   omega
  .have ih:=Ajj t x h (λz hz=>hi z (by simp[hz])) hp hq;cases hy:q y with
   |false=>rw[List.countP_cons_of_neg (by simp[hy])];rw[List.countP_cons];omega
   |true=>rw[bD hy,bD (hi y σ hy)];omega
section
variable{P:Program}(ok:aP P G)(eqok:EqOK P G){cf:BW G}(cfok:CfOK P G cf)(cfl:Ae4 cf){nt:Nat}{ops:Array Oper}
variable{st:V G}{outs:List (aB G)}
def left(n:Nat)(listed:Array Bool):Nat:=(List.range n).countP λi=>!listed.getD i J
theorem TW(h:i<listed.size)(j:Nat)(d:Bool):(listed.setIfInBounds i J).getD j d=if j=i then J else listed.getD j d:=by
 simp only[r_,e3_];by_cases e:j=i
 .subst e;simp[h]
 .simp[e0_ e,e]
theorem TV{n:Nat}(hs:listed.size=n)(hi:i<n)(d d':Bool):listed.getD i d=listed.getD i d':=by simp[r_,hs,hi]
theorem Aah:i∈Region.ready .any ops listed↔i<ops.size/\listed.getD i J=U/\∃o,ops[i]?=C o/\∀e∈o.after.toList,Region.binds .any e=J->listed.getD e.on U=J:=by
 unfold Region.ready;rw[List.mem_filter,List.mem_range];constructor
 .rintro⟨h1,h2⟩;rw[e_,a5_]at h2;refine⟨h1,h2.1,ops[i],a6_ h1,?_⟩;have h3:=h2.2;rw[a6_ h1]at h3;simp only[e2_,Option.getD_some]at h3;intro e he hb;rw[<-Array.all_toList,C_]at h3
  have:=h3 e he
  rw[hb]at this;simpa using this
 .rintro⟨h1,h2,o,h3,h4⟩;refine⟨h1,?_⟩;rw[h2,h3];simp only[a7_,e2_,Option.getD_some,l_];rw[<-Array.all_toList,C_];intro e he;cases hb:Region.binds .any e with
  |false=>rfl
  |true=>simpa using h4 e he hb
include ok eqok cfok cfl in
theorem Axx{cx:Cx}(dn:Done cf cx.nt ops st outs sf)(hQ:∀a' w',Rel G cx (AL (λ_=>J) 0 (recs ops.toList outs) st) a' w'->Q .normal a' w'):
  ∀(CK:Nat) (listed:Array Bool) (a:Act) (w:World),listed.size=ops.size->Down ops (λi=>listed.getD i U)->left ops.size listed<=CK->
   Rel G cx (AL (λi=>listed.getD i U) 0 (recs ops.toList outs) st) a w->wpAny P .any ops Q CK listed a w:=by
 have full:∀(listed:Array Bool) (a:Act) (w:World),listed.size=ops.size->(∀i,i<ops.size->listed.getD i U=J)->Rel G cx (AL (λi=>listed.getD i U) 0 (recs ops.toList outs) st) a w->Q .normal a w:=by
  intro listed a w _ hall r;refine hQ a w (r.ext (Pt _ _ _ _ _ (λi hi=>?_) ExtEq.rfl'));rw[k_];refine hall i ?_
  have:=(Qc (j_ hi)).choose_spec.1
  have:=(g_.1 this).1
  simpa using this
 have none_ready:∀(listed:Array Bool),listed.size=ops.size->Region.ready .any ops listed=[]->∀(n i:Nat),i<n->i<ops.size->listed.getD i U=J:=by
  intro listed hs hr n;induction n with
  |zero=>intro i h;omega
  |succ n ih=>
   intro i hin hi;cases hb:listed.getD i U with
   |true=>rfl
   |false=>
    have:i∈Region.ready .any ops listed:=by refine Aah.2 ⟨hi,by rw[TV hs hi J U];exact hb,ops[i],a6_ hi,λe he hbd=>?_⟩;have hlt:=RM dn.edges i ops[i] (by simp[hi]) e he hbd;exact ih e.on ω ω
    rw[hr]at this;simp at this
 intro CK;induction CK with
 |zero=>
  intro listed a w hs hD hl r;have hall:∀i,i<ops.size->listed.getD i U=J:=by
   intro i hi;have h0:left ops.size listed=0:=ω;unfold left at h0;rw[List.countP_eq_zero]at h0
   have:=h0 i (by simp[hi])
   simp only[a5_,Bool.not_eq_false]at this;rw[TV hs hi U J];exact this
  refine⟨?_,full listed a w hs hall r⟩;cases hr:Region.ready .any ops listed with
  |nil=>rfl
  |cons i t=>
   have:i∈Region.ready .any ops listed:=by rw[hr];simp
   obtain⟨h1,h2,_⟩:=Aah.1 this;rw[TV hs h1 J U,hall i h1]at h2;simp at h2
 |succ CK ih=>
  intro listed a w hs hD hl r;refine⟨λhr=>full listed a w hs (λi hi=>none_ready listed hs hr (i+1) i ω hi) r,λi hi=>?_⟩;obtain⟨h1,h2,o,ho,hpre⟩:=Aah.1 hi;rw[TV hs h1 J U]at h2;have hlen:i<outs.length:=by rw[dn.len];exact h1
  have hout:outs[i]?=C outs[i]:=j_ hlen;have hstep:=Bdt cfl dn hD ho hout h2 hpre;have hnext:=Bc5 dn hD ho hout h2 hpre (D':=λj=>(listed.setIfInBounds i J).getD j U) (by show Array.getD _ _ _=J;rw[TW ω];simp)
   (λj hj=>by show Array.getD _ _ _=_;rw[TW ω,if_neg hj])
  have hD':Down ops (λj=>(listed.setIfInBounds i J).getD j U):=by
   intro j p hp hj e he hb;show Array.getD _ _ _=J;have hj:Array.getD _ _ _=J:=hj;rw[TW ω]at hj|-;by_cases e1:e.on=i
   .rw[if_pos e1]
   .rw[if_neg e1];by_cases e2:j=i
    .subst e2;rw[ho]at hp;simp at hp;subst hp;exact hpre e he hb
    .rw[if_neg e2]at hj;exact hD j p hp hj e he hb
  have hwp:=Bds ok eqok cfok hstep r (K:=wpAny P .any ops Q CK (listed.setIfInBounds i J)) (Q:=Q) λa' w' r'=>
   ih (listed.setIfInBounds i J) a' w' (by simp[hs]) hD' (by
    have:left ops.size (listed.setIfInBounds i J)<left ops.size listed:=by
     refine Ajj _ i (by simp[h1]) (λj _ hq=>?_) (by rw[TV hs h1 J U,h2];rfl) (by rw[TW ω];simp);rw[TW ω]at hq;by_cases e:j=i
     .rw[if_pos e]at hq;simp at hq
     .rw[if_neg e]at hq;exact hq
    omega) (r'.ext hnext)
  unfold wpOp;rw[ho];simp only;by_cases hw:Region.wanted o (yielded ops a.tmps)=J
  .rw[if_pos hw]at hwp|-;exact .inl hwp
  .rw[if_neg hw]at hwp|-;exact hwp
include ok eqok cfok cfl in
theorem Bga(hm:P.follows .mixedOrders=J){st1:V G}{cx:Cx}{a:Act}{w:World}{id:Nat}(dn:Done cf cx.nt ops st outs sf)(e2:ExtEq st1 (AL (λ_=>J) 0 (recs ops.toList outs) st))(hrel:Rel G cx st a w)(hQ:∀a' w',Rel G cx st1 a' w'->Q .normal a' w'):(Code.region id ops J).wp P Q a w:=by
 refine wp_region_any hm (Axx ok eqok cfok cfl dn (λa' w' r'=>hQ a' w' (r'.ext e2.symm)) ops.size _ a _ σ ?_ ?_ ?_)
 .intro j o _ hj;have hj:(aV ops.size U).getD j U=J:=hj;simp[r_,bC]at hj;split at hj<;>simp at hj
 .exact d8_ List.countP_le_length σ
 .refine(hrel.drawn _).ext ?_
  have:AL (λi=>(aV ops.size U).getD i U) 0 (recs ops.toList outs) st=st:=by
   have e:(λi=>(aV ops.size U).getD i U)=λ_=>U:=by funext i;simp only[r_,bC];split<;>rfl
   rw[e,MA]
  rw[this];exact ExtEq.rfl'
include ok eqok cfok cfl in
theorem Va(hm:P.follows .mixedOrders=J):DrawOK P G nt (TQ cf nt):=by refine⟨λops st=>Ac (Am _) λ_=>Ac (XR cfok _ _) λ_=>Ac (Am _) λ_=>Ae _,?_⟩;intro ops st st' h cx a w id Q hnt hrel hQ;subst hnt;unfold TQ at h;obtain⟨h1,h2⟩:=aJ h;obtain⟨⟨outs,st1⟩,h3,h4⟩:=(XR cfok (ops:=ops) ops.toList st).spec (aT h2);obtain⟨h5,h6⟩:=aJ h4;simp[aG]at h6;subst h6;obtain⟨e1,e2,e3⟩:=Akm cfok ops.toList st st1 outs h3;rw[e_]at h1;refine Bga ok eqok cfok cfl hm (sf:=λ_=>False) ⟨by simpa using e1,h1.1,h1.2,λi j x y hij hx hy=>?_,λ_ h=>h.elim,λi o out hi ho=>e3 i o out (by simpa using hi) ho⟩ e2 hrel hQ;refine(XY h5 i j x y hij hx hy).symm.imp (λh=>h) λh=>?_;simp only[Axy,e_]at h;exact⟨UY h.1.2,λ_=>UY h.1.1,λ_=>UY h.2⟩
end
end Go.Ab
namespace Go.Ab
variable{G:aD}
section
variable{P:Program}(ok:aP P G)(eqok:EqOK P G){cf:BW G}(cfok:CfOK P G cf){nt:Nat}{drawn:Array Oper->V G->M (V G)}(dok:DrawOK P G nt drawn)
 {lp:Nat->V G->M (Ex×V G)}{kl:Nat->List Nat}{jn:Nat->Option (List (Ex×aF))}
include ok eqok cfok dok in
theorem Aki{S:aF}{E:List (Ex×aF)}{c:Code}{n:Nat}(hl:∀(k:Nat) c',(AQ c)[k]?=C c'->aK P G nt (lp (n+k)) c'){cx:Cx}(hnt:cx.nt=nt)(hnu:∀n y,cx.nu0 n=C y->Z<=n)
  {y:DA G E}{ex:Ex}{st':V G}(hy:Fs E y C=C (ex,st')) {Q:Exit->Act->World->Prop}(hQ:∀e a' w',ExR ex e->Rel G cx st' a' w'->Q e a' w') :
  ∀(f:Nat) (x:S.T G) (a:Act) (w:World),Bx (Rr S E (BQ cf nt drawn lp kl jn n c)) f x=C y->Rel G cx (S.mk' x) a w->Code.rounds P c Q f a w
 |0,_,_,_,h,_=>by simp[Bx]at h
 |f+1,x,a,w,h,r=>by
  rw[rounds_succ];have hlaw:=DC cfok dok (kl:=kl) (jn:=jn) c n (S.mk' x) hl;simp only[Bx]at h;have hround:Rr S E (BQ cf nt drawn lp kl jn n c) x=(BQ cf nt drawn lp kl jn n c (S.mk' x) _ C).bind λp=>Aoq S E p.1 p.2:=hlaw _ _;rw[hround]at h;cases hv:BQ cf nt drawn lp kl jn n c (S.mk' x) _ C with
  |none=>rw[hv]at h;simp[Ra]at h
  |some p=>
   obtain⟨e,st1⟩:=p;rw[hv]at h;have h:Ra (Bx (Rr S E (BQ cf nt drawn lp kl jn n c)) f) (Aoq S E e st1)=C y:=h;refine Fa ok eqok cfok dok hnt hnu c n _ st1 e a w _ hl hv r λe' a' w' he r'=>?_;have hout:∀z,GD E e st1=C z->z=y->Q e' a' w':=by intro z hz e1;subst e1;obtain⟨st2,h2,h3⟩:=Vv hnu E hz r' C _ hy;simp at h2;obtain⟨rfl,rfl⟩:=h2;exact hQ _ _ _ he h3
   have hiter:∀o:Option (Sum (S.T G) (DA G E)),Ra (Bx (Rr S E (BQ cf nt drawn lp kl jn n c)) f) o=C y->(∃x1,o=C (.inl x1)/\Bx (Rr S E (BQ cf nt drawn lp kl jn n c)) f x1=C y)\/o=C (.inr y):=by
    intro o ho;unfold Ra at ho;split at ho
    .exact .inl ⟨_,rfl,ho⟩
    .simp at ho;subst ho;exact .inr rfl
    .simp at ho
   have hrest:∀(hne:e≠ .normal),Aoq S E e st1=(match GD E e st1 with|some y=>C (Sum.inr (α:=S.T G) y)|none=>N):=by
    intro hne;cases e with
    |normal=>exact absurd rfl hne
    |exit i=>rfl
    |ret=>rfl
   by_cases hne:e=.normal
   .subst hne;have hn:Aoq S E .normal st1=(match S.take st1 with|some x=>C (Sum.inl (β:=DA G E) x)|none=>N):=rfl;rw[Ju he];rcases hiter _ h with⟨x1,h1,h2⟩|h1
    .rw[hn]at h1;split at h1
     .rename_i x2 hx2
      have:x2=x1:=by simpa using h1
      subst this;exact Aki hl hnt hnu hy hQ f x2 a' w' h2 (Spec.take_rel hx2 r' hnu)
     .simp at h1
    .rw[hn]at h1;split at h1<;>simp at h1
   .have hr:=hrest hne;rcases hiter _ h with⟨x1,h1,h2⟩|h1
    .rw[hr]at h1;split at h1<;>simp at h1
    .rw[hr]at h1;split at h1
     .rename_i z hz;have hz2:=hout z hz (by simpa using h1);cases e with
      |normal=>exact absurd rfl hne
      |exit i=>rw[XE he]at hz2|-;exact hz2
      |ret=>rw[SY he]at hz2|-;exact hz2
     .simp at h1
include ok eqok cfok dok in
theorem Bk3{S:aF}{E:List (Ex×aF)}{c:Code}{n:Nat}(hl:∀(k:Nat) c',(AQ c)[k]?=C c'->aK P G nt (lp (n+k)) c'){L:S.T G->Option (DA G E)}
  (hL:∀x y,L x=C y->∃f,Bx (Rr S E (BQ cf nt drawn lp kl jn n c)) f x=C y):aK P G nt (lpX S E L) c:=by
 refine⟨λst R k=>?_,λst ex st' h cx a w Q hnt hnu r hQ=>?_⟩
 .unfold lpX;cases S.take st with
  |none=>rfl
  |some x=>
   simp only;cases L x with
   |none=>rfl
   |some y=>exact NE E y k
 .unfold lpX at h;cases hx:S.take st with
  |none=>rw[hx]at h;simp at h
  |some x=>
   rw[hx]at h;simp only at h;cases hy:L x with
   |none=>rw[hy]at h;simp at h
   |some y=>rw[hy]at h;obtain⟨f,hf⟩:=hL x y hy;exact wp_loop_rounds f (Aki ok eqok cfok dok hl hnt hnu h hQ f x a w hf (Spec.take_rel hx r hnu))
end
end Go.Ab
namespace Go.Ab
variable{G:aD}
variable{h:Nat->Option (aA G.T)}{Q:Nat->Code->Prop}{l:List (Nat×Fe G)}{ν:Nat->Option Value}{g:Nat->Option Nat}{P:Program}{n:Nat}{ns:List Nat}{c:Code}{v:Value}
section
variable{h h':Nat->Option (aA G.T)}
def Akj{t:Nat}(hh:h' n=h n):Ye h' n t=Ye h n t:=by unfold Ye;rw[hh]
def Akq{s:aE}{c:Cv G.T}(hh:∀n∈c.ows,h' n=h n):s.take h' c=s.take h c:=by
 cases c with
 |own n=>
  have:=hh n (by simp[Cv.ows])
  cases s with
  |own m t=>simp only[CSh.take];rw[Akj this]
  |ro t=>simp only[CSh.take];rw[Akj this]
  |_=>rfl
 |sc v=>cases s<;>first|rfl|(cases v<;>rfl)
 |_=>cases s<;>rfl
def Abc:∀{s:List aE}{cs:List (Cv G.T)},(∀c∈cs,∀n∈c.ows,h' n=h n)->GE h' s cs=GE h s cs
 |[],[],_=>rfl
 |[],_::_,_=>rfl
 |_::_,[],_=>rfl
 |s::ss,c::cs,hh=>by simp only[GE];rw[Akq (hh c σ),Abc λc hc=>hh c (by simp[hc])]
def Az3{s:aC}{x:Pv G.T}(hh:∀c∈x.cells,∀n∈c.ows,h' n=h n):s.take h' x=s.take h x:=by
 cases s with
 |one s=>cases x with
  |one c=>exact Akq (hh c (by simp[aX]))
  |agg cs=>rfl
 |agg ss=>cases x with
  |one c=>rfl
  |agg cs=>exact Abc hh
def Ahp{tm:List (Nat×Sv G.T)}(hh:∀k x,O tm k=C (.p x)->∀c∈x.cells,∀n∈c.ows,h' n=h n):∀(s:List (Nat×aC)),Gy h' tm s=Gy h tm s
 |[]=>rfl
 |p::t=>by
  simp only[Gy];cases hg:O tm p.1 with
  |none=>rfl
  |some v=>
   cases v with
   |tup _=>rfl
   |p c=>simp only;rw[Az3 (hh _ _ hg),Ahp hh t]
def Aho:∀(s:List (Nat×List aE)),(∀n∈As s,h' n=h n/\∀cs,h n=C (.cells cs)->∀c∈cs,∀n∈c.ows,h' n=h n)->II h' s=II h s
 |[],_=>rfl
 |p::t,hh=>by
  have h1:=hh p.1 (by simp[As]);simp only[II];rw[h1.1];cases hg:h p.1 with
  |none=>rfl
  |some k=>
   cases k with
   |row _ _=>rfl
   |cells cs=>simp only;rw[Abc (h1.2 cs hg),Aho t λn hn=>hh n (by simp[As,hn])]
end
def Ash{T:Nat->Type}{c c':Cv T}(h:c.ren (Aey ns) g=C c'):∀n∈c'.ows,n∈c.ows/\n<Z/\n∉ns:=by
 cases c with
 |own n=>
  simp only[Cv.ren]at h;split at h
  .rename_i m hm;cases h;obtain⟨rfl,h2,h3⟩:=Akk hm;intro n hn;simp[Cv.ows]at hn|-;subst hn;exact⟨rfl,h2,h3⟩
  .cases h
 |ptr n off=>simp only[Cv.ren]at h;split at h<;>cases h;simp[Cv.ows]
 |clo k p q=>simp only[Cv.ren]at h;split at h<;>cases h;simp[Cv.ows]
 |np n t=>simp only[Cv.ren]at h;split at h<;>cases h;simp[Cv.ows]
 |sc v=>cases h;simp[Cv.ows]
 |ro t l=>cases h;simp[Cv.ows]
 |rp t x o=>cases h;simp[Cv.ows]
 |pd _ _ _ _ _=>cases h
 |pr _ _ _ _=>cases h
 |sa _ _ _=>cases h
def Ape{T:Nat->Type}{cs cs':List (Cv T)}(h:Cq (Cv.ren (Aey ns) g) cs=C cs'):∀c'∈cs',∀n∈c'.ows,(∃c∈cs,n∈c.ows)/\n<Z/\n∉ns:=by
 intro c' hc' n hn;obtain⟨m1,m2⟩:=BU _ _ h;obtain⟨i,hi⟩:=c3_.1 hc';have hi':i<cs.length:=by have:=(g_.1 hi).1;omega
 obtain⟨z,hz,hfz⟩:=m2 i _ (j_ hi');rw[hi]at hz;cases hz;obtain⟨q1,q2⟩:=Ash hfz n hn;exact⟨⟨cs[i],f1_ hi',q1⟩,q2⟩
def Ahs{ns:List Nat}{h1 h1':Nat->Option (aA G.T)}{nm:Nat}{rd rd':List Nat}{args:List (Pv G.T)}{g:Nat}(hrd:rd'=rd):∀(l:List (Nat×Fe G)),(∀I:aF,QN I h1' ns.length args=QN I h1 ns.length args)->
  Ut ns h1' nm rd' args g l=Ut ns h1 nm rd args g l
 |[],_=>rfl
 |p::r,h=>by subst hrd;funext R k;simp only[Ut];rw[h p.2.I,Ahs rfl r h]
def Bf8(l:List (Nat×Fe G)):Ae4 (cfP l):=by
 intro g args h h' nm out ha hh;unfold cfP at ha|-;generalize hns:Yb args=ns at ha|-;obtain⟨args',hargs',h1⟩:=aL ha;obtain⟨hnd,h2⟩:=aJ h1;have hrd:out.rd=ns++Vi ns h args:=by obtain⟨p,_,_,t,_,hc⟩:=Vx h2;obtain⟨y,p,s,bl,_,_,_,hf⟩:=Afs hc;obtain⟨_,_,_,_,_,_,_,_,_,rfl,_⟩:=Ajq hf;rfl
 rw[hrd]at hh;have hn1:∀n∈ns,h' n=h n:=λn hn=>hh n (by simp[hn]);have hown:Vi ns h' args=Vi ns h args:=by
  unfold Vi;congr 1
  have:∀l:List Nat,(∀n∈l,h' n=h n)->(l.flatMap λn=>match h' n with|some (.cells cs)=>cs.flatMap Cv.ows|_=>[])=l.flatMap λn=>match h n with|some (.cells cs)=>cs.flatMap Cv.ows|_=>[]:=by
   intro l;induction l with
   |nil=>intro _;rfl
   |cons a t ih=>intro hl;simp only[a1_];rw[hl a σ,ih λn hn=>hl n (by simp[hn])]
  exact this ns hn1
 have hblk:∀(i n:Nat),ns[i]?=C n->Dm ns h' (Z+i)=Dm ns h (Z+i):=by intro i n hi;unfold Dm;rw[LH.2 (by omega:Z<=Z+i)];simp only[d_,b1_,hi];rw[hn1 n (p_ hi)]
 have hrow:∀n,n<Z->(n∈ns\/n∈Vi ns h args)->Dm ns h' n=Dm ns h n:=by
  intro n hn hm;unfold Dm;cases hb:aO Z n with
  |true=>have:=LH.1 hb;omega
  |false=>
   simp only[c_];cases hc:has ns n with
   |true=>rfl
   |false=>simp only[c_];rw[hh n (by rcases hm with hm|hm<;>simp[hm])]
 have htake:∀I:aF,QN I (Dm ns h') ns.length args'=QN I (Dm ns h) ns.length args':=by
  intro I;unfold QN;cases hb:aH args'.length I.tm.length&&aH ns.length I.hp.length&&WJ Z (As I.hp)with
  |false=>rfl
  |true=>
   simp only[e_,AA]at hb;obtain⟨⟨hb1,hb2⟩,hb3⟩:=hb;have hl:∀l:List (Nat×List aE),(As l).length=l.length:=by intro l;induction l with|nil=>rfl|cons p t ih=>simp[As,ih]
   have e1:Gy (Dm ns h') (FU 0 (args'.map Sv.p)) I.tm=Gy (Dm ns h) (FU 0 (args'.map Sv.p)) I.tm:=by
    refine Ahp (λk x hk c hc n hn=>?_) I.tm;rw[XM]at hk;simp at hk;have hx:=p_ hk;obtain⟨m1,m2⟩:=BU _ _ hargs';obtain⟨i,hi⟩:=c3_.1 hx;have hi':i<args.length:=by have:=(g_.1 hi).1;omega
    obtain⟨z,hz,hfz⟩:=m2 i _ (j_ hi');rw[hi]at hz;cases hz;have key:(∃c0∈(args[i]).cells,n∈c0.ows)/\n<Z/\n∉ns:=by
     generalize args[i]=u at hfz;cases u with
     |one c0=>
      simp only[Pv.ren]at hfz;split at hfz
      .rename_i c1 hc1;cases hfz;simp[aX]at hc;subst hc;obtain⟨q1,q2⟩:=Ash hc1 n hn;exact⟨⟨c0,by simp[aX],q1⟩,q2⟩
      .cases hfz
     |agg cs=>
      simp only[Pv.ren]at hfz;split at hfz
      .rename_i cs1 hcs1;cases hfz;exact Ape hcs1 c hc n hn
      .cases hfz
    obtain⟨⟨c0,k1,k2⟩,k3,k4⟩:=key;refine hrow n k3 (.inr ?_);unfold Vi;exact u_.2 (.inl (b4_.2 ⟨args[i],f1_ hi',b4_.2 ⟨c0,k1,k2⟩⟩))
   have e2:II (Dm ns h') I.hp=II (Dm ns h) I.hp:=by
    refine Aho I.hp λn hn=>?_;obtain⟨i,hi⟩:=c3_.1 hn;have hni:=VQ hb3 i n hi;have hil:i<ns.length:=by have:=(g_.1 hi).1;rw[hl]at this;omega
    have hi2:=j_ hil;subst hni;refine⟨hblk i _ hi2,λcs hcs c hc n hn=>?_⟩;unfold Dm at hcs;rw[LH.2 (by omega:Z<=Z+i)]at hcs;simp only[d_,b1_,hi2]at hcs;unfold Alu at hcs;split at hcs
    .rename_i cs0 hcs0;split at hcs
     .rename_i cs1 hcs1;cases hcs;obtain⟨⟨c0,k1,k2⟩,k3,k4⟩:=Ape hcs1 c hc n hn;refine hrow n k3 (.inr ?_);unfold Vi;refine u_.2 (.inr (b4_.2 ⟨ns[i],f1_ hil,?_⟩));rw[hcs0];exact b4_.2 ⟨c0,k1,k2⟩
     .cases hcs
    .cases hcs
   rw[e1,e2]
 simp only[aI,aR,hargs',aQ,hnd,d_];rw[Ahs (by rw[hown]) l htake];exact h2
def EQ(h:Nat->Option (aA G.T)):Cv G.T->Option (Cv G.T)
 |.sc v=>C (.sc v)
 |.ro t l=>C (.ro t l)
 |.own m=>match h m with|some (.row t l)=>C (.ro t l)|_=>N
 |_=>N
def Abz(h:Nat->Option (aA G.T))(n ty:Nat):Option (G.T ty):=match h n with
 |some (.cells cs)=>match Cq (EQ h) cs with|some cs'=>bif aH cs'.length (G.sz ty)then G.dec ty cs' else N|none=>N
 |_=>N
def Ua(h:Nat->Option (aA G.T))(n:Nat):List Nat:=match h n with
 |some (.cells cs)=>cs.flatMap Cv.ows
 |_=>[]
def Rm:List (Nat×Fe G)->Nat->Option Nat
 |[],_=>N
 |p::r,g=>bif aH p.1 g then match p.2.I.tm with
   |[(_,.one (.rp ty 0))]=>C ty
   |_=>Rm r g
  else Rm r g
def XK(G:aD):List (Nat×Option (aA G.T))->Bool
 |[]=>J
 |(_,C (.row t _))::r=>G.flat t&&XK G r
 |_::_=>U
def Auj{T:Nat->Type}:Option (Sv T)->Bool
 |some s=>s.cells.all SM
 |none=>J
def Agh(l:List (Nat×Fe G))(ty n g:Nat)(h:Nat->Option (aA G.T))(nm:Nat):M (aB G):=aI (aR (Abz h n ty)) λx=>aI (cfP l g [.one (.rp ty x 0)] (λ_=>N) nm) λout=>aI (aQ (Auj out.v&&XK G out.d)) λ_=>aG ⟨out.v,out.d,out.nw,n::Ua h n⟩
def cfQ(l:List (Nat×Fe G)):BW G:=λg args h nm=>match args with
 |[.one (.ptr n 0)]=>match Rm l g with
  |some ty=>Agh l ty n g h nm
  |none=>cfP l g args h nm
 |_=>cfP l g args h nm
def Am4{g nm:Nat}{args:List (Pv G.T)}(hn:¬∃n ty,args=[.one (.ptr n 0)]/\Rm l g=C ty):cfQ l g args h nm=cfP l g args h nm:=by
 unfold cfQ;split
 .split
  .rename_i n _ ty hty;exact absurd ⟨n,ty,rfl,hty⟩ hn
  .rfl
 .rfl
def Ah9{g nm ty:Nat}(hty:Rm l g=C ty):cfQ l g [.one (.ptr n 0)] h nm=Agh l ty n g h nm:=by unfold cfQ;simp only[hty]
def Aoe{h':Nat->Option (aA G.T)}{c:Cv G.T}(hh:∀m∈c.ows,h' m=h m):EQ h' c=EQ h c:=by
 cases c with
 |own m=>simp only[EQ];rw[hh m (by simp[Cv.ows])]
 |_=>rfl
def YP{h h':Nat->Option (aA G.T)}:∀{cs:List (Cv G.T)},(∀m∈cs.flatMap Cv.ows,h' m=h m)->Cq (EQ h') cs=Cq (EQ h) cs
 |[],_=>rfl
 |c::t,hh=>by simp only[a1_,u_]at hh;simp only[Cq];rw[Aoe λm hm=>hh m (.inl hm),YP λm hm=>hh m (.inr hm)]
def Agi{ty g nm:Nat}{out:aB G}(ha:Agh l ty n g h nm (aB G) C=C out):
  ∃x out1,Abz h n ty=C x/\cfP l g [.one (.rp ty x 0)] (λ_=>N) nm (aB G) C=C out1/\Auj out1.v=J/\XK G out1.d=J/\out=⟨out1.v,out1.d,out1.nw,n::Ua h n⟩:=by
 unfold Agh at ha;obtain⟨x,hx,h1⟩:=aL ha;have hl:Law (cfP l g [.one (.rp ty x 0)] (λ_=>N) nm):=Ac (AF _) λ_=>Ac (Am _) λ_=>Ael _ _ _ _ _ _ _;obtain⟨out1,h2,h3⟩:=hl.spec h1;obtain⟨hf,h4⟩:=aJ h3;rw[e_]at hf;simp[aG]at h4;exact⟨x,out1,hx,h2,hf.1,hf.2,h4.symm⟩
def Abo(l:List (Nat×Fe G)):Ae4 (cfQ l):=by
 intro g args h h' nm out ha hh;by_cases hn:∃n ty,args=[.one (.ptr n 0)]/\Rm l g=C ty
 .obtain⟨n,ty,rfl,hty⟩:=hn;rw[Ah9 hty]at ha|-;obtain⟨x,out1,hx,_,_,_,rfl⟩:=Agi ha;simp only at hh;have h1:h' n=h n:=hh n σ;have e:Abz h' n ty=Abz h n ty:=by
   unfold Abz;rw[h1];cases hc:h n with
   |none=>rfl
   |some k=>
    cases k with
    |row=>rfl
    |cells cs=>
     have:∀m∈cs.flatMap Cv.ows,h' m=h m:=λm hm=>hh m (by
      have:Ua h n=cs.flatMap Cv.ows:=by unfold Ua;rw[hc]
      rw[this];simp[hm])
     simp only[YP this]
  have eo:Ua h' n=Ua h n:=by unfold Ua;rw[h1]
  unfold Agh at ha|-;rw[e,eo];exact ha
 .rw[Am4 hn]at ha|-;exact Bf8 l g args h h' nm out ha hh
def Auk{s:Sv G.T}{S S':Nat->Prop}{h:Array Obj}(hf:Auj (C s)=J)(r:Rs G ν S h s v):Rs G ν S' h s v:=Asn (λc hc=>C_.1 hf c hc) r
def Af4:∀{d:List (Nat×Option (aA G.T))}{h:Nat->Option (aA G.T)}{n:Nat}{k:aA G.T},XK G d=J->n∈Ch d->AW h d n=C k->∃t l,k=.row t l/\G.flat t=J
 |[],_,_,_,_,hn,_=>by simp[Ch]at hn
 |(m,q)::t,h,n,k,hf,hn,hk=>by
  cases q with
  |none=>simp[XK]at hf
  |some q=>
   cases q with
   |cells cs=>simp[XK]at hf
   |row u l=>
    simp only[XK,e_]at hf;simp only[AW]at hk;by_cases ht:n∈Ch t
    .exact Af4 hf.2 ht hk
    .rw[Js t _ n ht]at hk;simp only[Ch,v_]at hn;have hn:n=m:=hn.resolve_right ht;subst hn;simp at hk;exact⟨u,l,hk.symm,hf.1⟩
def Bdg(ok:aP P G){S S':Nat->Prop}{h:Array Obj}{t:Nat}{l:List (G.T t)}(hf:G.flat t=J)(r:Rb G ν S h n (.row t l)):Rb G ν S' h n (.row t l):=by
 rcases r with r|⟨b,cap,c,te,h1,h2,h3,h4,h5,h6⟩
 .exact .inl r
 .refine .inr ⟨b,cap,c,te,h1,h2,h3,h4,λi j x cv hx hc=>?_,h6⟩;obtain⟨v,hv,hr⟩:=h5 i j x cv hx hc;refine⟨v,hv,?_⟩;obtain⟨u,rfl⟩:=ok.flatd t x cv hf (p_ hc);cases hr with
  |sc _ hs=>exact .sc _ hs
def Bgn{S S2 B:Nat->Prop}{w:World}(hr:HRel G ν S B h w)(hS:∀b,S b->S2 b){c c2:Cv G.T}(hc:EQ h c=C c2)(hv:Rc G ν S w.heap c v)
  (hL:∀m∈c.ows,∀z b,ν m=C z->AC z=C b->S2 b):Rd G S2 w.heap c2 v:=by
 cases c with
 |sc u=>simp[EQ]at hc;subst hc;exact Rd.mono hS (λ_ _=>rfl) hv
 |ro t l=>simp[EQ]at hc;subst hc;exact Rd.mono hS (λ_ _=>rfl) hv
 |own m=>
  simp only[EQ]at hc;split at hc
  .rename_i t l hm;simp at hc;subst hc;obtain⟨a,len,cap,hν,rfl⟩:=hv;rcases hr.blk m _ hm with⟨h1,rfl⟩|⟨b,cap',c,te,h1,h2,h3,h4,h5,h6⟩
   .rw[h1]at hν;have hν:=D_ hν;rw[<-hν];exact .nil t N 0
   .rw[h1]at hν;have hν:=D_ hν;rw[<-hν];have hcell:∀i j,i<l.length->j<G.sz t->c[0+i*G.sz t+j]?=C (c.getD (0+i*G.sz t+j) undef):=λi j hi hj=>by
     have:0+i*G.sz t+j<c.size:=by
      rw[h4];have h7:(i+1)*G.sz t<=cap'*G.sz t:=B_ _ ω;have h8:(i+1)*G.sz t=i*G.sz t+G.sz t:=by rw[a0_,bA]
      omega
     rw[a6_ this,r_,a6_ this];rfl
    refine .ro t l b 0 cap' c te (0,0) (λi j=>c.getD (0+i*G.sz t+j) undef) (hL m (by simp[Cv.ows]) _ b h1 rfl) h2 (.inl h6.1) h3 hcell λi j x cv hx hcv=>?_;obtain⟨u,hu,hru⟩:=h5 i j x cv hx hcv
    have:c.getD (0+i*G.sz t+j) undef=u:=by rw[k_,r_,hu];rfl
    rw[this];exact Rd.mono hS (λ_ _=>rfl) hru
  .cases hc
 |_=>simp[EQ]at hc
def Pc(ok:aP P G)(hT:∀p∈l,Ff P G p.1 p.2):CfOK P G (cfQ l):=by
 have hP:=Bjx ok hT;refine⟨λg args h nm=>?_,λg args h nm out hout=>?_⟩
 .by_cases hn:∃n ty,args=[.one (.ptr n 0)]/\Rm l g=C ty
  .obtain⟨n,ty,rfl,hty⟩:=hn;rw[Ah9 hty];exact Ac (AF _) λ_=>Ac (hP.law _ _ _ _) λ_=>Ac (Am _) λ_=>Ae _
  .rw[Am4 hn];exact hP.law _ _ _ _
 by_cases hn:∃n ty,args=[.one (.ptr n 0)]/\Rm l g=C ty
 .obtain⟨n,ty,rfl,hty⟩:=hn;rw[Ah9 hty]at hout;obtain⟨x,out1,hx,hcall,hfv,hfd,rfl⟩:=Agi hout;obtain⟨hent,hspec⟩:=hP.calls _ _ _ _ _ hcall;refine⟨hent,λν S B w vals hr hB hfr hvals=>?_⟩;simp only at hfr;unfold Abz at hx;cases hcs:h n with
  |none=>rw[hcs]at hx;simp at hx
  |some k=>
  cases k with
  |row t l=>rw[hcs]at hx;simp at hx
  |cells cs=>
  rw[hcs]at hx;simp only at hx;cases hmo:Cq (EQ h) cs with
  |none=>rw[hmo]at hx;simp at hx
  |some cs'=>
  rw[hmo]at hx;simp only at hx;cases hln:aH cs'.length (G.sz ty)with
  |false=>rw[hln]at hx;simp at hx
  |true=>
  rw[hln]at hx;simp only[d_]at hx;have hln:=AA.1 hln;have hxe:=ok.encdec ty cs' x hx;obtain⟨hm1,hm2⟩:=BU _ _ hmo;obtain⟨v,t,rfl,hv,ht⟩:=hvals.inv;have ht:=ht.inv_nil;subst ht;cases hv with
  |one _ _ hv=>
  obtain⟨b,hnb,rfl⟩:=hv;simp only at hnb;obtain⟨b',c,te,q1,q2,q3,_⟩:=hr.blk n _ hcs;rw[hnb]at q1;have q1:=D_ q1;obtain rfl:b=b':=by injection q1 with q1;injection q1 with q1;injection q1
  have hsz:∀m z c,h m≠N->ν m=C z->AC z=C c->c<w.heap.size:=λm z c hm hz hc=>by
   cases hk:h m with
   |none=>exact absurd hk hm
   |some k=>
    have hb:=hr.blk m k hk;cases k with
    |cells cs=>
     obtain⟨b1,c1,te1,r1,r2,_⟩:=hb;rw[hz]at r1;have r1:=D_ r1;subst r1
     have:b1=c:=by simpa[AC]using hc
     subst this;exact(x_.1 r2).1
    |row t l=>
     rcases hb with⟨r1,_⟩|⟨b1,cap,c1,te1,r1,r2,_⟩
     .rw[hz]at r1;have r1:=D_ r1;subst r1;simp[AC]at hc
     .rw[hz]at r1;have r1:=D_ r1;subst r1
      have:b1=c:=by simpa[AC]using hc
      subst this;exact(x_.1 r2).1
  let S2:Nat->Prop:=λq=>S q\/∃m z,h m≠N/\ν m=C z/\AC z=C q
  have hS2:∀q,S q->S2 q:=λq hq=>.inl hq;have hown:∀m,m∈cs.flatMap Cv.ows->h m≠N:=λm hm=>by obtain⟨c1,hc1,hmc⟩:=b4_.1 hm;obtain⟨i,hi⟩:=List.getElem?_of_mem hc1;obtain⟨y,_,hy⟩:=hm2 i c1 hi;cases c1<;>simp[Cv.ows]at hmc;subst hmc;intro hno;simp[EQ,hno]at hy
  have hrp:Rd G S2 w.heap (.rp ty x 0) (.pointer (C ⟨b,0,N⟩)):=by
   refine .rp ty x 0 b 0 c te (0,0) (λj=>c.getD (0+j) undef) (.inr ⟨n,_,by rw[hcs];simp,hnb,rfl⟩) q2 (λj hj=>?_) λj cv hcv=>?_
   .have:0+j<c.size:=by have h9:cs.length=c.size:=(by have h9:=q3.1;rwa [Array.length_toList]at h9);omega
    rw[a6_ this,r_,a6_ this];rfl
   .rw[hxe]at hcv;have hj:j<cs.length:=by have:=(g_.1 hcv).1;omega
    obtain⟨y,hy1,hy2⟩:=hm2 j _ (j_ hj);rw[hcv]at hy1;have hy1:=D_ hy1;subst hy1;obtain⟨u,hu⟩:∃u,c.toList[j]?=C u:=⟨_,j_ (by rw[<-q3.1];exact hj)⟩
    have hru:=q3.2 j _ u (j_ hj) hu
    have:c.getD (0+j) undef=u:=by rw[k_,r_];rw[Array.getElem?_toList]at hu;rw[hu];rfl
    simp only[this];exact Bgn hr hS2 hy2 hru λm hm z q hz hq=>.inr ⟨m,z,hown m (b4_.2 ⟨_,f1_ hj,hm⟩),hz,hq⟩
  have hst:∀q,S2 q->q<w.heap.size:=λq hq=>by
   rcases hq with hq|⟨m,z,q1,q2,q3⟩
   .exact hr.stay q hq
   .exact hsz m z q q1 q2 q3
  have hr2:HRel G ν S2 (λq=>w.heap.size<=q) (λ_=>N) w:={
   blk:=λm k hk=>(by cases hk)
   apart:=λm1 m2 y z q hk=>absurd rfl hk
   own:=λm y q hk=>absurd rfl hk
   stay:=hst
   gl:=hr.gl.mono hS2 λ_ _=>rfl }
  refine(hspec ν S2 (λq=>w.heap.size<=q) w _ hr2 (λq hq=>hq) hfr (aU (.one _ _ hrp) .nil)).mono λe w' ⟨v',ν',S',he,p⟩=>⟨v',ν',S,he,?_⟩
  have hfrm:∀q,q<w.heap.size->w'.heap[q]?=w.heap[q]?:=λq hq=>p.frame q hq λm _ hm=>absurd rfl hm;have le:Le ν ν' S S w.heap w'.heap:=⟨p.nu,λ_ h=>h,λq hq=>hfrm q (hr.stay q hq)⟩
  have hin:∀m,m∈Ch out1.d->AW h out1.d m=AW (λ_=>N) out1.d m:=λm hm=>WD _ _ _ _ (.inr hm);have hold:∀m z,h m≠N->ν' m=C z->ν m=C z:=λm z hm hz=>by
   cases hk:h m with
   |none=>exact absurd hk hm
   |some k=>
    have hb:=hr.blk m k hk;cases k with
    |cells cs=>obtain⟨b1,c1,te1,r1,_⟩:=hb;rw[p.nu _ _ r1]at hz;rw[r1];exact hz
    |row t l=>rcases hb with⟨r1,_⟩|⟨b1,cap,c1,te1,r1,_⟩<;>(rw[p.nu _ _ r1]at hz;rw[r1];exact hz)
  refine⟨p.nu,p.new,λ_ h=>h,λ_ h=>.inl h,⟨λm k hk=>?_,λm1 m2 y z q h1 h2 hy hz e1 e2=>?_,λm y q hm hy e=>?_,λq hq=>?_,hr.gl.mono (λ_ h=>h) λq hq=>hfrm q (hr.stay q hq)⟩,λs hs=>?_,p.size,λq hq _=>hfrm q hq,p.env⟩
  .by_cases hm:m∈Ch out1.d
   .have hk':=hk;rw[hin m hm]at hk';have hb:=p.rel.blk m k hk';obtain⟨t,l,rfl,hft⟩:=Af4 hfd hm hk;exact Bdg ok hft hb
   .simp only at hk;rw[Js _ _ _ hm]at hk;exact(hr.blk m k hk).mono le λz q hz hq=>hfrm q (hsz m z q (by rw[hk];simp) hz hq)
  .by_cases i1:m1∈Ch out1.d
   .rw[show AW h out1.d m1=_ from hin m1 i1]at h1;by_cases i2:m2∈Ch out1.d
    .rw[show AW h out1.d m2=_ from hin m2 i2]at h2;exact p.rel.apart m1 m2 y z q h1 h2 hy hz e1 e2
    .rw[show AW h out1.d m2=_ from Js _ _ _ i2]at h2;have g1:=(p.rel.own m1 y q h1 hy e1).2;have g2:=hsz m2 z q h2 (hold m2 z h2 hz) e2;omega
   .rw[show AW h out1.d m1=_ from Js _ _ _ i1]at h1;by_cases i2:m2∈Ch out1.d
    .rw[show AW h out1.d m2=_ from hin m2 i2]at h2;have g1:=(p.rel.own m2 z q h2 hz e2).2;have g2:=hsz m1 y q h1 (hold m1 y h1 hy) e1;omega
    .rw[show AW h out1.d m2=_ from Js _ _ _ i2]at h2;exact hr.apart m1 m2 y z q h1 h2 (hold m1 y h1 hy) (hold m2 z h2 hz) e1 e2
  .by_cases i1:m∈Ch out1.d
   .rw[show AW h out1.d m=_ from hin m i1]at hm;have g1:=(p.rel.own m y q hm hy e).2;exact⟨λhS=>by have:=hr.stay q hS;omega,hB q g1⟩
   .rw[show AW h out1.d m=_ from Js _ _ _ i1]at hm;exact hr.own m y q hm (hold m y hm hy) e
  .have:=hr.stay q hq
   have:=p.size
   omega
  .have hs:out1.v=C s:=hs;rw[hs]at hfv;exact Auk hfv (p.val s hs)
 .rw[Am4 hn]at hout;exact hP.calls _ _ _ _ _ hout
def XB(cf:BW G)(lp:Nat->V G->M (Ex×V G))(jn:Nat->Option (List (Ex×aF)))(nt:Nat)(body:Code)(I:aF)(E:List (Ex×aF))(x:I.T G):Option (DA G E):=BQ cf nt (TQ cf nt) lp (λ_=>[]) jn 0 body (I.mk' x) _ λp=>GD E p.1 p.2
def Aex(cf:BW G)(lp:Nat->V G->M (Ex×V G))(jn:Nat->Option (List (Ex×aF)))(nt:Nat)(n:Nat)(body:Code)(S:aF)(E:List (Ex×aF))(x:S.T G):Option (Sum (S.T G) (DA G E)):=Rr S E (BQ cf nt (TQ cf nt) lp (λ_=>[]) jn n body) x
def CK:Nat:=18446744073709551616
@[reducible] def lp{F X Y:Type}[Ur F X Y][Un X F (Option (Sum X Y))](f:F):X->Option Y:=Bx (Un.u f) CK
def Bo(f:Func):Code:=f.body.getD .skip
def Pi(c:Code)(n:Nat):Code:=(AQ c)[n]?.getD .skip
section
variable{P:Program}(ok:aP P G)(eqok:EqOK P G)(hm:P.follows .mixedOrders=J){l:List (Nat×Fe G)}(hl:∀p∈l,Ff P G p.1 p.2){lp:Nat->V G->M (Ex×V G)}{jn:Nat->Option (List (Ex×aF))}
include ok eqok hm hl in
theorem Bgp{nt k:Nat}(S:aF)(E:List (Ex×aF))(R:S.T G->Option (Sum (S.T G) (DA G E)))(hP:lp k=lpX S E (Bx R CK))(hin:∀(k:Nat) c',(AQ c)[k]?=C c'->aK P G nt (lp (n+k)) c')
  (hR:∀x,Aex (cfQ l) lp jn nt n c S E x=R x):aK P G nt (lp k) c:=by
 rw[hP];exact Bk3 ok eqok (Pc ok hl) (Va ok eqok (Pc ok hl) (Abo l) hm) hin λx _ h=>⟨CK,by rw[show Rr S E (BQ (cfQ l) nt (TQ (cfQ l) nt) lp (λ_=>[]) jn n c)=R from funext hR];exact h⟩
include ok eqok hm hl in
theorem Bnm {g : Nat} {fn : Func} (hfn : P.funcs[g]? = C fn) (hname : (fn.name == "runtime.NumGoroutine") = U) (hbody : fn.body = C (Bo fn)) {e : Fe G} (hrs : fn.results.toList = e.rs) (hlen : aO e.I.tm.length fn.ntmps = J)
  (hlp:∀(k:Nat) c',(AQ (Bo fn))[k]?=C c'->aK P G fn.ntmps (lp k) c') (hF:∀x,XB (cfQ l) lp jn fn.ntmps (Bo fn) e.I e.E x=e.F x):Ff P G g e:=
 Aqf ok eqok (Pc ok hl) hfn hname hbody hrs (LH.1 hlen) (Va ok eqok (Pc ok hl) (Abo l) hm) hlp λx _ h=>(hF x).trans h
end
def Hd(Q:Nat->Code->Prop)(n:Nat)(l:List Code):Prop:=∀(k:Nat) c',l[k]?=C c'->Q (n+k) c'
def AP:Hd Q n []:=λk c' h'=>by simp at h'
def Aq{t:List Code}(h0:Q n c)(ht:Hd Q (n+1) t):Hd Q n (c::t):=λk c' h'=>by
 cases k with
 |zero=>simp at h';subst h';exact h0
 |succ k=>have:=ht k c' (by simpa using h');rwa [show n+(k+1)=n+1+k by omega]
def Amq{l:List Code}(l':List Code)(h:l=l')(h':Hd Q n l'):Hd Q n l:=h▸h'
def Bgo{nt:Nat}{f:V G->M (Ex×V G)}(h:f=λ_=>aN):aK P G nt f c:=by subst h;exact⟨λ_=>Aj,λst ex st' h=>by simp[aN]at h⟩
def Aff{l:List Code}(h:Hd Q 0 l):∀(k:Nat) c',l[k]?=C c'->Q k c':=λk c' hk=>by have:=h k c' hk;rwa [k_]at this
end Go.Ab
namespace Go.Ab
variable{G:aD}
variable{c:Code}
structure Ctx(P:Program)(G:Sig):Prop where
 ok:SigOK P G
 eqok:EqOK P G
 hm:P.follows .mixedOrders=true
def VU:aC:=.one (.int .u64)
def ob:aC:=.one .bool
def os:aC:=.one .str
def op(n:Nat):aC:=.one (.ptr n 0)
def oro(t:Nat):aC:=.one (.ro t)
abbrev Sp:=aF
abbrev SL:=List (Ex×aF)
def jl(l:List (Nat×SL)):Nat->Option SL:=λn=>O l n
def lf:V G->M (Ex×V G):=λ_=>aN
def pl:List (V G->M (Ex×V G))->Nat->V G->M (Ex×V G)
 |[],_=>lf
 |a::_,0=>a
 |_::t,n+1=>pl t n
inductive Sk where
 |i (k:IntKind)|b|s|f (k:FloatKind)|l (t:Nat)
def Sk.T(T:Nat->Type):Sk->Type
 |.i _=>Int
 |.b=>Bool
 |.s=>ByteArray
 |.f _=>Nat
 |.l t=>List (T t)
def SkL(T:Nat->Type):List Sk->Type
 |[]=>Unit
 |a::t=>a.T T×SkL T t
def Alv(T:Nat->Type)(t t':Nat)(l:List (T t)):Option (List (T t')):=if h:t=t' then C (h▸l)else N
def At2{T:Nat->Type}{t t':Nat}{l:List (T t)}{l':List (T t')}(h:Alv T t t' l=C l'):∃e:t=t',e▸l=l':=by
 unfold Alv at h;split at h
 .rename_i e;simp at h;exact⟨e,h⟩
 .simp at h
def Sk.enc{T:Nat->Type}:(a:Sk)->a.T T->Cv T
 |.i k,n=>.sc (.int k n)
 |.b,x=>.sc (.bool x)
 |.s,x=>.sc (.string x)
 |.f k,n=>.sc (.float k n)
 |.l t,x=>.ro t x
def Sk.dec{T:Nat->Type}:(a:Sk)->Cv T->Option (a.T T)
 |.i k,.sc (.int k' n)=>bif Dd k k' then C n else N
 |.b,.sc (.bool x)=>C x
 |.s,.sc (.string x)=>C x
 |.f k,.sc (.float k' n)=>bif Pd k k' then C n else N
 |.l t,.ro t' x=>Alv T t' t x
 |_,_=>N
def Ns{T:Nat->Type}:(l:List Sk)->SkL T l->List (Cv T)
 |[],_=>[]
 |a::t,x=>a.enc x.1::Ns t x.2
def Anh{T:Nat->Type}:(l:List Sk)->List (Cv T)->Option (SkL T l)
 |[],[]=>C ()
 |a::t,c::cs=>match a.dec c,Anh t cs with
  |some x,C y=>C (x,y)
  |_,_=>N
 |_,_=>N
def Sk.dec_ok{T:Nat->Type}{a:Sk}{c:Cv T}{x:a.T T}(h:a.dec c=C x):a.enc x=c:=by
 cases a with
 |i k=>
  cases c with
  |sc v=>
   cases v with
   |int k' n=>
    have h:(bif Dd k k' then C n else N)=C x:=h;have e:k=k':=by cases k<;>cases k'<;>first|rfl|(simp[Dd]at h)
    subst e;have e:Dd k k=J:=by cases k<;>rfl
    rw[e]at h;cases h;rfl
   |_=>cases h
  |_=>cases h
 |b=>
  cases c with
  |sc v=>
   cases v with
   |bool y=>cases h;rfl
   |_=>cases h
  |_=>cases h
 |s=>
  cases c with
  |sc v=>
   cases v with
   |string y=>cases h;rfl
   |_=>cases h
  |_=>cases h
 |f k=>
  cases c with
  |sc v=>
   cases v with
   |float k' n=>
    have h:(bif Pd k k' then C n else N)=C x:=h;have e:k=k':=by cases k<;>cases k'<;>first|rfl|(simp[Pd]at h)
    subst e;have e:Pd k k=J:=by cases k<;>rfl
    rw[e]at h;cases h;rfl
   |_=>cases h
  |_=>cases h
 |l t=>
  cases c with
  |ro t' y=>obtain⟨rfl,rfl⟩:=At2 (show Alv T t' t y=C x from h);rfl
  |_=>cases h
def Aro{T:Nat->Type}:∀{l:List Sk}{cs:List (Cv T)}{x:SkL T l},Anh l cs=C x->Ns l x=cs
 |[],[],_,_=>rfl
 |a::t,c::cs,x,h=>by
  simp only[Anh]at h;split at h
  .rename_i y z hy hz;cases h;simp only[Ns,Sk.dec_ok hy,Aro hz]
  .cases h
section
variable{P:Program}
def tn:∀p∈([]:List (Nat×Fe G)),Ff P G p.1 p.2:=λ_ h=>absurd h (f0_)
def tc{g:Nat}{e:Fe G}{l:List (Nat×Fe G)}(h:Ff P G g e)(t:∀p∈l,Ff P G p.1 p.2):∀p∈(g,e)::l,Ff P G p.1 p.2:=List.forall_mem_cons.2 ⟨h,t⟩
def an0{Q:Nat->Code->Prop}{n:Nat}{l:List Code}(h:l=[]):Hd Q n l:=h▸AP
def ln{nt k:Nat}{lp:Nat->V G->M (Ex×V G)}(h:lp k=lf):aK P G nt (lp k) c:=Bgo h
variable(cx:Ctx P G){l:List (Nat×Fe G)}(hl:∀p∈l,Ff P G p.1 p.2)(jn:Nat->Option SL){lp:Nat->V G->M (Ex×V G)}
include cx hl in
theorem lk(n:Nat){nt k:Nat}(S:aF)(E:SL){L:S.T G->Option (DA G E)}{R:S.T G->Option (Sum (S.T G) (DA G E))}(hL:L=Bx R CK)(hP:lp k=lpX S E L)(hin:Hd (λk c=>aK P G nt (lp k) c) n (AQ c))
  (hR:∀x,Aex (cfQ l) lp jn nt n c S E x=R x):aK P G nt (lp k) c:=
 Bgp cx.ok cx.eqok cx.hm hl S E R (hL▸hP) hin hR
include cx hl in
theorem fk {g : Nat} {fn : Func} (hfn : P.funcs[g]? = C fn) {e : Fe G} (hc : (!(fn.name == "runtime.NumGoroutine") && aO e.I.tm.length fn.ntmps) = J) (hbody : fn.body = C (Bo fn)) (hrs : fn.results.toList = e.rs)
  (hlp:Hd (λk c=>aK P G fn.ntmps (lp k) c) 0 (AQ (Bo fn))) (hF:∀x,XB (cfQ l) lp jn fn.ntmps (Bo fn) e.I e.E x=e.F x):Ff P G g e:=by
 rw[e_,a5_]at hc;exact Bnm cx.ok cx.eqok cx.hm hl hfn hc.1 hbody hrs hc.2 (Aff hlp) hF
end
end Go.Ab
namespace Go.Ab
structure TyD where
 A:Type
 d:A
def Auw:List (Nat×TyD)->Nat->TyD
 |[],_=>⟨Unit,()⟩
 |p::r,t=>bif aH p.1 t then p.2 else Auw r t
@[reducible] def TOf(tys:List (Nat×TyD))(t:Nat):Type:=(Auw tys t).A
structure Ent(T:Nat->Type)(t:Nat) where
 ty:Ty
 sz:Nat
 zero:List Value
 enc:T t->List (Cv T)
 dec:List (Cv T)->Option (T t)
 flat:Bool
structure Ent1(T:Nat->Type) where
 t:Nat
 e:Ent T t
def Al6(T:Nat->Type)(t:Nat):Ent T t:=⟨.no,0,[],λ_=>[],λ_=>N,U⟩
def LO{T:Nat->Type}:List (Ent1 T)->(t:Nat)->Ent T t
 |[],t=>Al6 T t
 |p::r,t=>if h:p.t=t then h▸p.e else LO r t
def Pl(tys:List (Nat×TyD))(l:List (Ent1 (TOf tys)))(gl:Nat->Option ((t:Nat)×TOf tys t):=λ_=>N)(ext:Nat->Nat:=λ_=>0)(loose:Nat->Bool:=λ_=>J):aD:=
 {T:=TOf tys
  ty:=λt=>(LO l t).ty
  sz:=λt=>(LO l t).sz
  zero:=λt=>(LO l t).zero
  enc:=λt=>(LO l t).enc
  dec:=λt=>(LO l t).dec
  dfl:=λt=>(Auw tys t).d
  flat:=λt=>(LO l t).flat
  gl:=gl
  ext:=ext
  loose:=loose }
def Aug:List (Nat×Nat)->Nat->Nat
 |[],_=>0
 |p::r,g=>bif aH p.1 g then p.2 else Aug r g
def plain(T:Nat->Type)(t:Nat)(ty:Ty)(sz:Nat)(zero:List Value):Ent1 T:=⟨t,⟨ty,sz,zero,λ_=>[],λ_=>N,U⟩⟩
variable{P:Program}
def Bbs(P:Program)(G:aD)(t:Nat):Ty->Prop
 |.no=>True
 |.bool=>P.underlying t=C .bool
 |.int k=>P.underlying t=C (.int k)
 |.flt k=>P.underlying t=C (.float k)
 |.str=>P.underlying t=C .string
 |.sl e=>P.underlying t=C (.slice e)/\Nu (G.ty e)=U/\(∃i,P.info? e=C i/\aO i.bytes 4096=J)/\∀x,(G.enc e x).length=G.sz e
 |.pt e=>P.underlying t=C (.pointer e)
 |.fn=>∃a b c,P.underlying t=C (.func a b c)
 |.st fs=>∃fields,P.underlying t=C (.struct fields)/\fields.toList.map (λf=>(f.offset,f.type))=fs/\fs.all (λp=>!Nu (G.ty p.2))=J
 |.arr n e=>P.underlying t=C (.array n e)/\Nu (G.ty e)=U
def Aac{T:Nat->Type}:Cv T->Bool
 |.sc _|.ro _ _=>J
 |_=>U
def Agb{T:Nat->Type}:Cv T->Bool
 |.sc _=>J
 |_=>U
structure EntOK(P:Program)(G:Sig)(t:Nat)(e:Ent G.T t):Prop where
 ty:Bbs P G t e.ty
 info:e.ty≠ .no->∃i z,P.info? t=some i/\i.size=e.sz/\i.zero=some z/\z.cells.toList=e.zero
 pos:e.ty≠ .no->Nat.ble 1 e.sz=true
 nosz:e.ty=.no->e.sz=0
 zsc:e.zero.all IC=true
 zlen:e.zero.length=e.sz
 encl:∀x,(e.enc x).length<=e.sz
 encdec:∀cs x,e.dec cs=some x->e.enc x=cs
 encd:∀x,(e.enc x).all Aac=true
 flatd:e.flat=true->∀x,(e.enc x).all Agb=true
 u8d:∀x y,(e.enc x).map u8C=(e.enc y).map u8C
 rod:∀x y,(e.enc x).map roC=(e.enc y).map roC
def Bce{G:aD}(t:Nat):EntOK P G t (Al6 G.T t):=⟨trivial,λh=>absurd rfl h,λh=>absurd rfl h,λ_=>rfl,rfl,rfl,λ_=>H_ _,λcs x h=>by simp[Al6]at h,λ_=>rfl,λ_ _=>rfl,λ_ _=>rfl,λ_ _=>rfl⟩
def Vb{T:Nat->Type}{Q:(t:Nat)->Ent T t->Prop}(h0:∀t,Q t (Al6 T t)):∀{l:List (Ent1 T)},(∀p∈l,Q p.t p.e)->∀t,Q t (LO l t)
 |[],_,t=>h0 t
 |p::r,h,t=>by
  unfold LO;split
  .rename_i e;subst e;exact h p σ
  .exact Vb h0 (λq hq=>h q (by simp[hq])) t
def XQ{y:Ty}(h:Nu y=U):y≠ .no:=by intro e;subst e;simp[Nu]at h
def Ann{P:Program}:∀{l:List (Nat×Nat)},(∀p∈l,Bd5 P p.1 (Bcg p.2))->Asw P (Aug l)
 |[],_,g,h=>absurd rfl h
 |p::r,h,g,hg=>by
  unfold Aug at hg|-;cases hb:aH p.1 g with
  |true=>rw[d_];rw[<-AA.1 hb];exact h p σ
  |false=>rw[hb,c_]at hg;rw[c_];exact Ann (λq hq=>h q (by simp[hq])) g hg
def Bdi{tys:List (Nat×TyD)}{l:List (Ent1 (TOf tys))}{gl:Nat->Option ((t:Nat)×TOf tys t)}{ext:Nat->Nat}{loose:Nat->Bool}(h:∀p∈l,EntOK P (Pl tys l gl ext loose) p.t p.e)(hx:Asw P ext):aP P (Pl tys l gl ext loose):=by
 have key:∀t,EntOK P (Pl tys l gl ext loose) t (LO l t):=Vb (T:=TOf tys) (Q:=λt e=>EntOK P (Pl tys l gl ext loose) t e) (λt=>Bce t) h;have tyOf:∀t,Bbs P (Pl tys l gl ext loose) t ((Pl tys l gl ext loose).ty t):=λt=>(key t).ty;refine⟨λt e=>?_,λt k e=>?_,λt k e=>?_,λt e=>?_,λt e he=>?_,λt e he=>?_,λt e=>?_,λt fs e=>?_,λt n e he=>?_,λt=>(key t).info,λt ht=>?_,λt=>(key t).nosz,λt v hv=>?_,λt=>(key t).zlen,λt=>(key t).encl,λt=>(key t).encdec,λt x c hc=>?_,λt x c hf hc=>?_,λt=>(key t).u8d,λt=>(key t).rod,hx⟩
 .have:=tyOf t;rw[e]at this;exact this
 .have:=tyOf t;rw[e]at this;exact this
 .have:=tyOf t;rw[e]at this;exact this
 .have:=tyOf t;rw[e]at this;exact this
 .have:=tyOf t;rw[he]at this
  obtain⟨h1,h2,⟨i,h3,h4⟩,h5⟩:=this;exact⟨h1,XQ h2,⟨i,h3,F_ h4⟩,h5⟩
 .have:=tyOf t;rw[he]at this;exact this
 .have:=tyOf t;rw[e]at this;exact this
 .have:=tyOf t;rw[e]at this
  obtain⟨fields,h1,h2,h3⟩:=this;refine⟨fields,h1,h2,λo u hou=>XQ ?_⟩
  have:=C_.1 h3 (o,u) hou
  simpa using this
 .have:=tyOf t;rw[he]at this;exact⟨this.1,XQ this.2⟩
 .exact F_ ((key t).pos ht)
 .exact C_.1 (key t).zsc v hv
 .have:=C_.1 ((key t).encd x) c hc
  cases c with
  |sc v=>exact .inl ⟨v,rfl⟩
  |ro t' l=>exact .inr ⟨t',l,rfl⟩
  |_=>simp[Aac]at this
 .have:=C_.1 ((key t).flatd hf x) c hc
  cases c with
  |sc v=>exact⟨v,rfl⟩
  |_=>simp[Agb]at this
end Go.Ab
namespace Go.Ab
variable{G:aD}
variable{P:Program}{x:Value}
structure NamesOK(P:Program)(G:Sig):Prop where
 guard:∀t,(G.ty t).isAgg=true->P.eqGuardType P.depth t=false
 held:∀t fs,G.ty t=.st fs->P.stoodInHeld t=false
 name : ∀ t fs, G.ty t = .st fs -> (P.fieldsOf t).toList.all (λf => f.name != "_") = true
def LN:∀{a b:List Nat},GK a b=J->a=b
 |[],[],_=>rfl
 |[],_::_,h=>by simp[GK]at h
 |_::_,[],h=>by simp[GK]at h
 |x::s,y::t,h=>by simp only[GK,e_]at h;rw[LN h.2,AA.1 h.1]
def HJ{α:Type}(f:α->Nat)(a:List α):(Cp f a).length=a.length:=by
 induction a with
 |nil=>rfl
 |cons x t ih=>simp[Cp,ih]
def Pj{α:Type}(f:α->Nat):∀(xs:List α) (a b:List Nat),Cp f xs=a++b->∃u v,xs=u++v/\Cp f u=a/\Cp f v=b
 |xs,[],b,h=>⟨[],xs,rfl,rfl,h⟩
 |[],_::_,b,h=>by simp[Cp]at h
 |x::xs,k::a,b,h=>by simp only[Cp,aZ,List.cons.injEq]at h;obtain⟨u,v,h1,h2,h3⟩:=Pj f xs a b h.2;exact⟨x::u,v,by rw[h1];rfl,by simp[Cp,h.1,h2],h3⟩
def We{α:Type}:∀(n:Nat) (l a b:List α),LX n l=C a->MV n l=C b->l=a++b/\a.length=n
 |0,l,a,b,h1,h2=>by simp[LX]at h1;simp[MV]at h2;subst h1;subst h2;exact⟨rfl,rfl⟩
 |n+1,[],a,b,h1,h2=>by simp[LX]at h1
 |n+1,x::t,a,b,h1,h2=>by
  simp only[LX]at h1;split at h1
  .rename_i l hl;simp at h1;subst h1;simp only[MV]at h2;obtain⟨e1,e2⟩:=We n t l b hl h2;exact⟨by rw[e1];rfl,by simp[e2]⟩
  .simp at h1
def VN:∀(a a' r r':List Value) (b:Bool),a.length=a'.length->Lg (a++r) (a'++r')=C b->∃b1 b2,Lg a a'=C b1/\Lg r r'=C b2/\b=(b1&&b2)
 |[],[],r,r',b,_,h=>⟨J,b,rfl,h,σ⟩
 |[],_::_,_,_,_,hl,_=>by simp at hl
 |_::_,[],_,_,_,hl,_=>by simp at hl
 |x::a,y::a',r,r',b,hl,h=>by
  simp only[aZ,Lg]at h;split at h
  .rename_i p q hp hq;simp at h;subst h;obtain⟨b1,b2,h1,h2,h3⟩:=VN a a' r r' q (by simpa using hl) hq;exact⟨p&&b1,b2,by simp[Lg,hp,h1],h2,by rw[h3,Bool.and_assoc]⟩
  .simp at h
def Ajz(h:Bd x=1):∃p,x=.bool p:=by
 cases x with
 |bool p=>exact⟨p,rfl⟩
 |int k n=>cases k<;>simp[Bd]at h
 |float k n=>cases k<;>simp[Bd]at h
 |_=>simp[Bd]at h
def An8(h:Bd x=2):∃p,x=.string p:=by
 cases x with
 |string p=>exact⟨p,rfl⟩
 |int k n=>cases k<;>simp[Bd]at h
 |float k n=>cases k<;>simp[Bd]at h
 |_=>simp[Bd]at h
section
variable{P:Program}(ok:aP P G)(nm:NamesOK P G)
def pkV(G:aD)(t:Nat)(xs:List Value):Value:=if(G.ty t).isAgg then .agg xs.toArray else xs.headD undef
include ok in
theorem XZ{u:Nat}(hno:G.ty u≠ .no){pre a post:List Value}(hl:a.length=G.sz u)(w:World)(hone:(G.ty u).isAgg=U->a.length=1) :
  (Go.part u (pre++(a++post)).toArray pre.length).run P w=.ok (pkV G u a) w:=by
 unfold Go.part pkV;rw[z_,ok.isAgg w hno];cases ha:(G.ty u).isAgg with
 |true=>simp only[q_,if_true,z_,ok.sizeOf w hno,a4_];congr 2;rw[<-hl];apply Array.toList_inj.1;simp
 |false=>obtain⟨v,rfl⟩:=List.length_eq_one_iff.1 (hone ha);simp
theorem Bfn{d t:Nat}(hr:RP G d t=J)(hag:(G.ty t).isAgg=U):(zk G t).length=1:=by
 cases d with
 |zero=>simp[RP]at hr
 |succ d'=>
  simp only[RP]at hr;cases hft:G.ty t with
  |bool=>rw[hft]at hr;rw[LN hr];rfl
  |str=>rw[hft]at hr;rw[LN hr];rfl
  |int k=>rw[hft]at hr;rw[LN hr];rfl
  |st _=>rw[hft]at hag;simp[aS]at hag
  |arr _ _=>rw[hft]at hag;simp[aS]at hag
  |_=>rw[hft]at hr;simp at hr
include ok nm in
theorem VO:∀(d t D:Nat) (xs ys:List Value) (b:Bool) (w:World),RP G d t=J->d<=D->Cp Bd xs=zk G t->Cp Bd ys=zk G t->Lg xs ys=C b->
  (Op.equalIn D t (pkV G t xs) (pkV G t ys)).run P w=.ok b w
 |0,_,_,_,_,_,_,h,_,_,_,_=>by simp[RP]at h
 |d+1,t,0,_,_,_,_,_,hD,_,_,_=>by omega
 |d+1,t,D+1,xs,ys,b,w,h,hD,hx,hy,hb=>by
  have hz:(zk G t).length=G.sz t:=by unfold zk;rw[HJ,ok.zlen]
  have one:∀k,GK (zk G t) [k]=J->(∃x,xs=[x]/\Bd x=k)/\∃y,ys=[y]/\Bd y=k:=by
   intro k hk;have hk:=LN hk;rw[hk]at hx hy;constructor
   .cases xs with
    |nil=>simp[Cp]at hx
    |cons x t=>cases t with
     |nil=>simp[Cp]at hx;exact⟨x,rfl,hx⟩
     |cons y t=>simp[Cp]at hx
   .cases ys with
    |nil=>simp[Cp]at hy
    |cons x t=>cases t with
     |nil=>simp[Cp]at hy;exact⟨x,rfl,hy⟩
     |cons y t=>simp[Cp]at hy
  simp only[RP]at h;cases ht:G.ty t with
  |bool=>rw[ht]at h;obtain⟨⟨x,rfl,hkx⟩,y,rfl,hky⟩:=one _ h;have hxb:=Ajz hkx;have hyb:=Ajz hky;obtain⟨p,rfl⟩:=hxb;obtain⟨q,rfl⟩:=hyb;simp[Lg,eqV]at hb;subst hb;simp only[pkV,ht,aS,aY,if_false,List.headD];exact run_equalIn_bool w D t p q (ok.bool t ht)
  |str=>rw[ht]at h;obtain⟨⟨x,rfl,hkx⟩,y,rfl,hky⟩:=one _ h;have hxb:=An8 hkx;have hyb:=An8 hky;obtain⟨p,rfl⟩:=hxb;obtain⟨q,rfl⟩:=hyb;simp[Lg,eqV,eqB]at hb;subst hb;simp only[pkV,ht,aS,aY,if_false,List.headD];exact run_equalIn_string w D t p q (ok.str t ht)
  |int k=>
   rw[ht]at h;obtain⟨⟨x,rfl,hkx⟩,y,rfl,hky⟩:=one _ h;have hkk:∀z:Value,Bd z=Bd (.int k 0)->∃p,z=.int k p:=by
    intro z hz;cases z with
    |int k' p=>exact⟨p,by cases k<;>cases k'<;>simp[Bd]at hz|-⟩
    |bool p=>cases k<;>simp[Bd]at hz
    |string p=>cases k<;>simp[Bd]at hz
    |float k' p=>cases k<;>cases k'<;>simp[Bd]at hz
    |_=>cases k<;>simp[Bd]at hz
   obtain⟨p,rfl⟩:=hkk x hkx;obtain⟨q,rfl⟩:=hkk y hky;have hkk:Dd k k=J:=by cases k<;>rfl
   simp[Lg,eqV,hkk]at hb;subst hb;simp only[pkV,ht,aS,aY,if_false,List.headD];exact run_equalIn_int w D t k k p q (ok.int t k ht)
  |st fs=>
   rw[ht]at h;obtain⟨fields,hund,hmap,hfno⟩:=ok.strc t fs ht;have hfo:P.fieldsOf t=fields:=by unfold Program.fieldsOf;rw[hund]
   have hname:=nm.name t fs ht;rw[hfo]at hname;simp only[pkV,ht,aS,if_true];rw[run_equalIn_struct w D t _ _ (by rw[hfo];exact hund) (nm.held t fs ht),hfo];have go : ∀ (fl : List Field) (fs : List (Nat × Nat)) (pre pre' xs ys : List Value) (ks : List Nat) (b : Bool), fl.map (λf => (f.offset, f.type)) = fs -> (∀ o u, (o, u) ∈ fs -> G.ty u ≠ .no) -> fl.all (λf => f.name != "_") = J ->
     pre.length=pre'.length->XH G (RP G d) fs pre.length ks=J->Cp Bd xs=ks->Cp Bd ys=ks->Lg xs ys=C b->
     (Op.eqFields D (pre++xs).toArray (pre'++ys).toArray fl).run P w=.ok b w:=by
    intro fl;induction fl with
    |nil=>
     intro fs pre pre' xs ys ks b hm _ _ _ hfe hxk hyk hb;simp at hm;subst hm
     have:=LN hfe
     subst this;cases xs with
     |nil=>cases ys with
      |nil=>simp[Lg]at hb;subst hb;simp[Op.eqFields]
      |cons _ _=>simp[Cp]at hyk
     |cons _ _=>simp[Cp]at hxk
    |cons f fl ih=>
     intro fs pre pre' xs ys ks b hm hno hnm hpl hfe hxk hyk hb;cases fs with
     |nil=>simp at hm
     |cons p fs=>
      simp only[d4_,List.cons.injEq]at hm;obtain⟨hp,hm⟩:=hm;subst hp;simp only[XH,e_]at hfe;obtain⟨⟨ho,hr⟩,hrest⟩:=hfe;have ho:f.offset=pre.length:=AA.1 ho;have hr:RP G d f.type=J:=hr;split at hrest
      .rename_i a r ha hr2;simp only[e_]at hrest;obtain⟨e1,e2⟩:=We _ _ _ _ ha hr2;subst e1;obtain⟨xa,xr,rfl,hxa,hxr⟩:=Pj Bd xs a r hxk;obtain⟨ya,yr,rfl,hya,hyr⟩:=Pj Bd ys a r hyk;have lxa:xa.length=G.sz f.type:=by rw[<-HJ Bd xa,hxa,e2]
       have lya:ya.length=G.sz f.type:=by rw[<-HJ Bd ya,hya,e2]
       obtain⟨b1,b2,h1,h2,h3⟩:=VN xa ya xr yr b (by rw[lxa,lya]) hb;have hza:=LN hrest.1;simp only[U_,e_,bne_iff_ne]at hnm;have hno1:=hno f.offset f.type σ;have hone:(G.ty f.type).isAgg=U->(zk G f.type).length=1:=Bfn hr;have hzl:(zk G f.type).length=G.sz f.type:=by unfold zk;rw[HJ,ok.zlen]
       unfold Op.eqFields;rw[if_pos (by simpa using hnm.1)];rw[z_,ho,XZ ok hno1 lxa w (λhag=>by rw[lxa,<-hzl];exact hone hag),q_];rw[z_,hpl,XZ ok hno1 lya w (λhag=>by rw[lya,<-hzl];exact hone hag),q_];rw[z_,VO d f.type D xa ya b1 w hr ω (by rw[hxa];exact hza) (by rw[hya];exact hza) h1,q_];cases b1 with
       |false=>simp at h3;subst h3;simp
       |true=>
        simp at h3;subst h3;simp only[m_,aY,if_false]
        have:=ih fs (pre++xa) (pre'++ya) xr yr r b hm (λo u hou=>hno o u (by simp[hou])) hnm.2 (by simp[hpl,lxa,lya]) (by rw[h_,lxa];exact hrest.2) hxr hyr h2
        rw[M_,M_]at this;exact this
      .simp at hrest
   exact go fields.toList fs [] [] xs ys _ b hmap hfno hname rfl h hx hy hb
  |arr n e=>
   rw[ht]at h;simp only[e_]at h;obtain⟨he,hel⟩:=h;obtain⟨hund,hno⟩:=ok.arr t n e ht;simp only[pkV,ht,aS,if_true];simp only[Op.equalIn,z_,A_ hund,q_,ok.sizeOf w hno,Std.Legacy.Range.forIn_eq_forIn_range',Std.Legacy.Range.size,Nat.sub_zero,Nat.add_sub_cancel,Nat.div_one];have hone:(G.ty e).isAgg=U->(zk G e).length=1:=Bfn he;have hzl:(zk G e).length=G.sz e:=by unfold zk;rw[HJ,ok.zlen]
   have go:∀(n i:Nat) (pre pre' xs ys:List Value) (ks:List Nat) (b:Bool),pre.length=i*G.sz e->pre'.length=i*G.sz e->Abu G e n ks=J->Cp Bd xs=ks->Cp Bd ys=ks->Lg xs ys=C b->
     (forIn (List.range' i n) (N,()) λi (_:Option Bool×Unit)=>do
      let u <-Go.part e (pre++xs).toArray (i*G.sz e)
      let v <-Go.part e (pre'++ys).toArray (i*G.sz e)
      let r <-Op.equalIn D e u v
      if(!r)=J then pure (ForInStep.done (C U,()))else pure (ForInStep.yield (N,())):Sem (Option Bool×Unit)).run P w=.ok (if b then(N,())else(C U,())) w:=by
    intro n;induction n with
    |zero=>
     intro i pre pre' xs ys ks b _ _ hel hxk hyk hb
     have:=LN hel
     subst this;cases xs with
     |nil=>cases ys with
      |nil=>simp[Lg]at hb;subst hb;simp
      |cons _ _=>simp[Cp]at hyk
     |cons _ _=>simp[Cp]at hxk
    |succ n ih=>
     intro i pre pre' xs ys ks b hp hp' hel hxk hyk hb;simp only[Abu]at hel;split at hel
     .rename_i a r ha hr2;simp only[e_]at hel;obtain⟨e1,e2⟩:=We _ _ _ _ ha hr2;subst e1;obtain⟨xa,xr,rfl,hxa,hxr⟩:=Pj Bd xs a r hxk;obtain⟨ya,yr,rfl,hya,hyr⟩:=Pj Bd ys a r hyk;have lxa:xa.length=G.sz e:=by rw[<-HJ Bd xa,hxa,e2]
      have lya:ya.length=G.sz e:=by rw[<-HJ Bd ya,hya,e2]
      obtain⟨b1,b2,h1,h2,h3⟩:=VN xa ya xr yr b (by rw[lxa,lya]) hb;have hza:=LN hel.1;rw[d0_,List.forIn_cons];rw[z_,z_,<-hp,XZ ok hno lxa w (λhag=>by rw[lxa,<-hzl];exact hone hag),q_];rw[z_,hp,<-hp',XZ ok hno lya w (λhag=>by rw[lya,<-hzl];exact hone hag),q_];rw[z_,VO d e D xa ya b1 w he ω (by rw[hxa];exact hza) (by rw[hya];exact hza) h1,q_];cases b1 with
      |false=>simp at h3;subst h3;simp
      |true=>
       simp at h3;subst h3;simp only[m_,aY,if_false,a4_,q_]
       have:=ih (i+1) (pre++xa) (pre'++ya) xr yr r b (by rw[h_,hp,lxa,a0_,bA]) (by rw[h_,hp',lya,a0_,bA]) hel.2 hxr hyr h2
       rw[M_,M_]at this;exact this
     .cases hel
   have:=go n 0 [] [] xs ys _ b σ σ hel hx hy hb
   simp only[y_]at this;rw[this];cases b<;>simp
  |_=>rw[ht]at h;simp at h
include ok nm in
theorem Bgh:EqOK P G:=by
 refine⟨nm.guard,λt xs ys b w hag hty hx hy hb=>?_⟩
 have:=VO ok nm 20 t Op.maxDepth xs ys b w hty τ hx hy hb
 unfold pkV at this;rw[if_pos hag,if_pos hag]at this;exact this
end
def Aut:Ty->Bool
 |.st _=>J
 |_=>U
structure NmE(P:Program)(t:Nat)(y:Ty):Prop where
 guard:y.isAgg=true->P.eqGuardType P.depth t=false
 held:Aut y=true->P.stoodInHeld t=false
 name : Aut y = true -> (P.fieldsOf t).toList.all (λf => f.name != "_") = true
def Bk8{t:Nat}{y:Ty}(h:y.isAgg=U):NmE P t y:=
 have hs:Aut y=U:=by cases y<;>first|rfl|(simp[aS]at h)
 ⟨λe=>(by rw[h]at e;cases e),λe=>(by rw[hs]at e;cases e),λe=>(by rw[hs]at e;cases e)⟩
def Auz{tys:List (Nat×TyD)}{l:List (Ent1 (TOf tys))}{gl:Nat->Option ((t:Nat)×TOf tys t)}{ext:Nat->Nat}{loose:Nat->Bool}(h:∀p∈l,NmE P p.t p.e.ty):NamesOK P (Pl tys l gl ext loose):=by
 have key:∀t,NmE P t (LO l t).ty:=Vb (T:=TOf tys) (Q:=λt e=>NmE P t e.ty) (λt=>Bk8 rfl) h;refine⟨λt=>(key t).guard,λt fs e=>(key t).held ?_,λt fs e=>(key t).name ?_⟩
 .have e:(LO l t).ty=.st fs:=e;rw[e];rfl
 .have e:(LO l t).ty=.st fs:=e;rw[e];rfl
end Go.Ab
namespace Go.Ab
variable{G:aD}
variable{cs:List Value}
def shF(G:aD)(r:Nat->Option (List aE)):List (Nat×Nat)->Nat->Option (List aE)
 |[],_=>C []
 |p::t,off=>bif aH p.1 off then match r p.2,shF G r t (off+G.sz p.2)with
  |some a,C b=>bif aH a.length (G.sz p.2)then C (a++b)else N
  |_,_=>N
  else N
def Apf{α:Type}(a:List α):Nat->List α
 |0=>[]
 |n+1=>a++Apf a n
def shl(G:aD):Nat->Nat->Option (List aE)
 |0,_=>N
 |d+1,t=>match G.ty t with
  |.bool=>C [.bool]
  |.int k=>C [.int k]
  |.flt k=>C [.flt k]
  |.str=>C [.str]
  |.sl e=>match Aaa (G.ty e)with
   |true=>N
   |false=>bif G.loose e then C [.ro e]else N
  |.st fs=>match shF G (shl G d) fs 0 with
   |some a=>bif aH a.length (G.sz t)then C a else N
   |none=>N
  |.arr n e=>match shl G d e with
   |some a=>bif aH a.length (G.sz e)&&aH (n*G.sz e) (G.sz t)then C (Apf a n)else N
   |none=>N
  |_=>N
inductive WfC(G:Sig):Cv G.T->Prop
 |bool (b:Bool):WfC G (.sc (.bool b))
 |int (k:IntKind) (n:Int) (h:(Lit.int k n).wf=true):WfC G (.sc (.int k n))
 |flt (k:FloatKind) (n:Nat):WfC G (.sc (.float k n))
 |str (s:ByteArray) (h:s.size<=maxLen):WfC G (.sc (.string s))
 |ro (t:Nat) (l:List (G.T t)) (h:l.length<=maxLen) (he:∀(i:Nat) (x:G.T t) (j:Nat) (c:Cv G.T),l[i]?=some x->(G.enc t x)[j]?=some c->WfC G c):WfC G (.ro t l)
def Aln(G:aD):Prop:=∀t e,G.ty t=.sl e->Aaa (G.ty e)=U->G.loose e=J->∃s,shl G 20 e=C s/\∀x:TL G s,∃y,G.dec e (Cg s x)=C y
def ZY:∀(a b:List aE) (x:TL G a) (y:TL G b),∃z:TL G (a++b),Cg (a++b) z=Cg a x++Cg b y
 |[],b,_,y=>⟨y,rfl⟩
 |c::a,b,x,y=>by obtain⟨z,hz⟩:=ZY a b x.2 y;exact⟨(x.1,z),by simp only[Cg,aZ];rw[<-hz]⟩
def Aju:∀(a:List aE) (x:TL G a),(Cg a x).length=a.length
 |[],_=>rfl
 |c::a,x=>by simp[Cg,Aju a]
section
variable{H:Type}{enc:TypeId×Value->H}{P:Program}(ok:aP P G)(dk:Aln G){w:World}{sp:Nat->Bool}{hd:Bool}
include ok in
theorem TO{t:Nat}(h:G.ty t≠ .no):P.cellsOf t=G.sz t:=by obtain⟨i,z,h1,h2,_⟩:=ok.info t h;unfold Program.cellsOf;rw[h1];exact h2
def Opened(G:aD)(w:World)(s:List aE)(cs:List Value):Prop:=∃x:TL G s,F2 (Rd G (λb=>b<w.heap.size) w.heap) (Cg s x) cs/\∀c∈Cg s x,WfC G c
theorem Opened.append{a b:List aE}{ds:List Value}(h:Opened G w a cs)(g:Opened G w b ds):Opened G w (a++b) (cs++ds):=by
 obtain⟨x,h1,h2⟩:=h;obtain⟨y,g1,g2⟩:=g;obtain⟨z,hz⟩:=ZY a b x y;refine⟨z,by rw[hz];exact h1.append g1,λc hc=>?_⟩;rw[hz]at hc;rcases u_.1 hc with hc|hc
 .exact h2 c hc
 .exact g2 c hc
theorem Opened.len{a:List aE}(h:Opened G w a cs):cs.length=a.length:=by obtain⟨x,h1,_⟩:=h;rw[<-h1.1,Aju]
theorem Ac5{r:Nat->Option (List aE)}{cs:List Value}:∀(fs:List (Nat×Nat)) (off:Nat) (sh:List aE),shF G r fs off=C sh->
  (∀p∈fs,∀s,r p.2=C s->Opened G w s ((cs.drop p.1).take (G.sz p.2)))->Opened G w sh ((cs.drop off).take sh.length)
 |[],off,sh,h,_=>by simp[shF]at h;subst h;exact⟨(),by simp[Cg];exact .nil,λc hc=>by simp[Cg]at hc⟩
 |p::t,off,sh,h,hp=>by
  simp only[shF,Bf]at h;by_cases e:p.1=off
  .rw[if_pos e]at h;split at h
   .rename_i a b ha hb;by_cases hl:a.length=G.sz p.2
    .rw[if_pos hl]at h;simp at h;subst h;have h1:=hp p σ a ha;have h2:=Ac5 t (off+G.sz p.2) b hb λq hq s hs=>hp q (by simp[hq]) s hs;rw[e]at h1
     have:=h1.append h2
     rw[h_,hl];have ht:(cs.drop off).take (G.sz p.2+b.length)=(cs.drop off).take (G.sz p.2)++(cs.drop (off+G.sz p.2)).take b.length:=by rw[List.take_add,List.drop_drop]
     rw[ht];exact this
    .rw[if_neg hl]at h;simp at h
   .simp at h
  .rw[if_neg e]at h;simp at h
theorem Afx{a:List aE}{cs:List Value}{sz:Nat}(hl:a.length=sz):∀(n:Nat) (i:Nat),(∀j,i<=j->j<i+n->Opened G w a ((cs.drop (j*sz)).take sz))->Opened G w (Apf a n) ((cs.drop (i*sz)).take (n*sz))
 |0,i,_=>⟨(),by simp[Cg,Apf];exact .nil,λc hc=>by simp[Cg,Apf]at hc⟩
 |n+1,i,h=>by
  have h1:=h i (H_ _) ω;have h2:=Afx hl n (i+1) λj h3 h4=>h j ω ω
  have:=h1.append h2
  have ht:(cs.drop (i*sz)).take ((n+1)*sz)=(cs.drop (i*sz)).take sz++(cs.drop ((i+1)*sz)).take (n*sz):=by rw[a0_,bA,d3_ (n*sz),List.take_add,List.drop_drop,a0_,bA]
  rw[ht];exact this
theorem Aza{α:Type}{Q:Nat->α->Prop}:∀(n:Nat),(∀i,i<n->∃y,Q i y)->∃l:List α,l.length=n/\∀i y,l[i]?=C y->Q i y
 |0,_=>⟨[],rfl,λi y h=>by simp at h⟩
 |n+1,h=>by
  obtain⟨l,h1,h2⟩:=Aza n λi hi=>h i ω;obtain⟨y,hy⟩:=h n ω;refine⟨l++[y],by simp[h1],λi z hz=>?_⟩;rw[e7_]at hz;by_cases hi:i<l.length
  .rw[if_pos hi]at hz;exact h2 i z hz
  .rw[if_neg hi]at hz
   have:i-l.length=0:=by have:=(g_.1 hz).1;simp at this;omega
   rw[this]at hz;simp at hz;subst hz
   have:i=n:=ω
   rw[this];exact hy
theorem Bd0{H:Type}{enc:TypeId×Value->H}{P:Program}{w:World}{base:Nat}{spare:Nat->Bool}{held:Bool}{CK:Nat}{t:TypeId}{x:DataW H×List MemPlace}{k:FloatKind}(ht:P.underlying t=C (.float k))(h:DataW.trod enc P w base spare held CK t cs=C x):∃n,cs=[.float k n]:=by
 cases CK with
 |zero=>simp[DataW.trod]at h
 |succ n=>unfold DataW.trod at h;rw[ht]at h;split at h<;>simp_all
include ok dk in
theorem Azj:∀(CK d t:Nat) (cs:List Value) (x:DataW H×List MemPlace) (s:List aE),shl G d t=C s->DataW.trod enc P w 0 sp hd CK t cs=C x->Opened G w s cs:=by
 intro CK;induction CK with
 |zero=>intro d t cs x s _ h;simp[DataW.trod]at h
 |succ CK ih=>
  intro d t cs x s h ht;cases d with
  |zero=>simp[shl]at h
  |succ d=>
  simp only[shl]at h;cases hty:G.ty t with
  |bool=>rw[hty]at h;simp at h;subst h;obtain⟨b,rfl,_⟩:=DataW.trod_bool (ok.bool t hty) ht;exact⟨(b,()),aU (.sc _ rfl) .nil,λc hc=>by simp[Cg,aW]at hc;subst hc;exact .bool b⟩
  |int k=>rw[hty]at h;simp at h;subst h;obtain⟨n,rfl,_,hw⟩:=DataW.trod_int (ok.int t k hty) ht;exact⟨(n,()),aU (.sc _ rfl) .nil,λc hc=>by simp[Cg,aW]at hc;subst hc;exact .int k n hw⟩
  |flt k=>rw[hty]at h;simp at h;subst h;obtain⟨n,rfl⟩:=Bd0 (ok.flt t k hty) ht;exact⟨(n,()),aU (.sc _ rfl) .nil,λc hc=>by simp[Cg,aW]at hc;subst hc;exact .flt k n⟩
  |str=>rw[hty]at h;simp at h;subst h;obtain⟨b,rfl,_,hw⟩:=DataW.trod_string (ok.str t hty) ht;exact⟨(b,()),aU (.sc _ rfl) .nil,λc hc=>by simp[Cg,aW]at hc;subst hc;exact .str b hw⟩
  |st fs=>
   rw[hty]at h;obtain⟨fields,hund,hmap,hno⟩:=ok.strc t fs hty;obtain⟨xs,n,hn,_,hlen,hxs,hf⟩:=DataW.trod_struct hund ht;have hn:CK=n:=ω;subst hn;rw[TO ok (t:=t) (by rw[hty];simp)]at hlen;simp only at h;split at h
   .rename_i a ha;simp only[Bf]at h;by_cases hl:a.length=G.sz t
    .rw[if_pos hl]at h;simp at h;subst h
     have:=Ac5 (w:=w) (cs:=cs) fs 0 a ha λp hp q hq=>?_
     .rw[O_,List.take_of_length_le ω]at this;exact this
     .have hp':p∈fields.toList.map (λf=>(f.offset,f.type)):=by rw[hmap];exact hp
      obtain⟨f,hfm,rfl⟩:=b2_.1 hp';obtain⟨i,hi⟩:=List.getElem?_of_mem hfm;have hi':fields[i]?=C f:=by simpa using hi
      have h1:=hf i f hi';have hlt:i<xs.length:=by rw[hxs];exact(x_.1 hi').1
      rw[j_ hlt,TO ok (hno f.offset f.type hp)]at h1;exact ih d f.type _ _ q hq h1
    .rw[if_neg hl]at h;simp at h
   .simp at h
  |arr n e=>
   rw[hty]at h;obtain⟨hund,hno⟩:=ok.arr t n e hty;obtain⟨xs,m,hm,_,hlen,hxs,hf⟩:=DataW.trod_array hund ht;have hm:CK=m:=ω;subst hm;rw[TO ok (t:=t) (by rw[hty];simp)]at hlen;simp only at h;split at h
   .rename_i a ha;cases hl:(aH a.length (G.sz e)&&aH (n*G.sz e) (G.sz t))with
    |false=>rw[hl]at h;simp at h
    |true=>
     rw[hl]at h;simp at h;subst h;simp only[e_]at hl;have hl1:=AA.1 hl.1;have hl2:=AA.1 hl.2
     have:=Afx (G:=G) (w:=w) (cs:=cs) hl1 n 0 λj _ hj=>?_
     .rw[Nat.zero_mul,O_,List.take_of_length_le ω]at this;exact this
     .have h1:=hf j ω;rw[j_ ω,TO ok hno]at h1;exact ih d e _ _ a ha h1
   .simp at h
  |sl e=>
   rw[hty]at h;simp only at h;cases hfn:Aaa (G.ty e)with
   |true=>rw[hfn]at h;cases h
   |false=>
   rw[hfn]at h;simp only at h;cases hlo:G.loose e with
   |false=>rw[hlo]at h;cases h
   |true=>
   rw[hlo]at h;cases h;obtain⟨hund,hno,_,hencl⟩:=ok.sl t e hty;obtain⟨se,hse,hdec⟩:=dk t e hty hfn hlo;have hsz:=TO ok hno;rcases DataW.trod_slice hund ht with⟨rfl,_⟩|⟨a,len,cap,GA,rest,n,hn,rfl,_,_,hl,hm,hel,hget,_⟩
   .exact⟨([],()),aU (.nil _ _ _) .nil,λc hc=>by simp[Cg,aW]at hc;subst hc;exact .ro e [] (G_ _) λi x j c h=>by simp at h⟩
   .have hn:CK=n:=ω;subst hn;rw[hsz]at hget;obtain⟨l,hll,hlq⟩:=Aza (Q:=λi (y:G.T e)=>(∀j,j<G.sz e->∃v,w.cell? ((a.add (i*G.sz e)).add j)=C v/\∀cv,(G.enc e y)[j]?=C cv->Rd G (λb=>b<w.heap.size) w.heap cv v)/\∀c∈G.enc e y,WfC G c) len λi hi=>by
     have h1:=hget i hi;rw[j_ ω]at h1;cases hc:w.cells? 0 (a.add (i*G.sz e)) (G.sz e)with
     |none=>rw[hc]at h1;simp at h1
     |some ci=>rw[hc]at h1;obtain⟨xe,r1,r2⟩:=ih 20 e ci _ se hse h1;obtain⟨y,hy⟩:=hdec xe;have hye:=ok.encdec e _ _ hy;obtain⟨_,hcl,hat⟩:=World.cells?_some hc;refine⟨y,λj hj=>?_,λc hcm=>r2 c (by rw[<-hye];exact hcm)⟩;refine⟨ci[j]'ω,by rw[hat j hj];exact j_ ω,λcv hcv=>?_⟩;rw[hye]at hcv;exact r1.2 j cv _ hcv (j_ ω)
    refine⟨(l,()),aU ?_ .nil,λc hc=>?_⟩
    .show Rd G _ w.heap (.ro e l) _;by_cases h0:len=0
     .have:l=[]:=P_ ω
      rw[this,h0];exact .nil _ _ _
     .have hpos:=ok.pos e hno;obtain⟨y0,hy0⟩:∃y0,l[0]?=C y0:=⟨l[0]'ω,j_ ω⟩
      obtain⟨v0,hv0,_⟩:=(hlq 0 y0 hy0).1 0 hpos;obtain⟨b,off,spot⟩:=a;have ha0:((⟨b,off,spot⟩:Addr).add (0*G.sz e)).add 0=⟨b,off,spot⟩:=by rw[Nat.zero_mul];rfl
      rw[ha0]at hv0;unfold World.cell? at hv0;simp only at hv0;split at hv0
      .rename_i c te fz hb;cases hsp:spot with
       |some z=>rw[hsp]at hv0;simp at hv0
       |none=>
        subst hsp;have hlt:b<w.heap.size:=(x_.1 hb).1;rw[<-hll];have hcell:∀i j,i<l.length->j<G.sz e->∃v,c[off+i*G.sz e+j]?=C v/\∀y cv,l[i]?=C y->(G.enc e y)[j]?=C cv->Rd G (λb=>b<w.heap.size) w.heap cv v:=by
         intro i j hi hj;obtain⟨v,hv,hq⟩:=(hlq i _ (j_ hi)).1 j hj;refine⟨v,?_,λy cv hy hcv=>hq cv ?_⟩
         .rw[FK,FK]at hv;unfold World.cell? at hv;simp only[hb]at hv;simpa using hv
         .rw[j_ hi]at hy;simp at hy;rw[hy];exact hcv
        refine .ro e l b off cap c te fz (λi j=>c.getD (off+i*G.sz e+j) undef) hlt hb (.inr hlo) ω (λi j hi hj=>?_) (λi j y cv hy hcv=>?_)
        .obtain⟨v,hv,_⟩:=hcell i j hi hj;rw[hv];simp[r_,hv]
        .have hi:i<l.length:=(g_.1 hy).1;have hj:j<G.sz e:=by rw[<-hencl y];exact(g_.1 hcv).1
         obtain⟨v,hv,hq⟩:=hcell i j hi hj
         have:c.getD (off+i*G.sz e+j) undef=v:=by simp[r_,hv]
         rw[this];exact hq y cv hy hcv
      .simp at hv0
    .simp[Cg,aW]at hc;subst hc;exact .ro e l ω λi y j c hy hc=>(hlq i y hy).2 c (p_ hc)
  |_=>rw[hty]at h;simp at h
end
end Go.Ab
namespace Go.Ab
variable{G:aD}
variable{v:Value}
def Vy(G:aD):List aC->Type
 |[]=>Unit
 |s::t=>s.T G×Vy G t
def KB:(s:List aC)->Vy G s->List (Pv G.T)
 |[],_=>[]
 |s::t,x=>s.give x.1::KB t x.2
def Aak:aE->Bool
 |.own _ _=>U
 |_=>J
def Aol:aC->Bool
 |.one c=>Aak c
 |.agg cs=>cs.all Aak
def Us:(n:Nat)->(s:List aC)->Vy G s->TmT G (FU n s)
 |_,[],_=>()
 |n,_::t,x=>(x.1,Us (n+1) t x.2)
def Ajv:∀(n:Nat) (s:List aC) (x:Vy G s),JQ (FU n s) (Us n s x)=FU n ((KB s x).map Sv.p)
 |_,[],_=>rfl
 |n,p::t,x=>by show(n,Sv.p (p.give x.1))::JQ (FU (n+1) t) (Us (n+1) t x.2)=(n,Sv.p (p.give x.1))::FU (n+1) ((KB t x.2).map Sv.p);rw[Ajv (n+1) t x.2]
def Ark:∀(s:aE) (x:s.T G),Aak s=J->s.blk x=[]
 |.own _ _,_,h=>by simp[Aak]at h
 |.int _,_,_=>rfl
 |.bool,_,_=>rfl
 |.str,_,_=>rfl
 |.flt _,_,_=>rfl
 |.ro _,_,_=>rfl
 |.rp _ _,_,_=>rfl
 |.ptr _ _,_,_=>rfl
 |.clo _ _ _,_,_=>rfl
 |.np _ _,_,_=>rfl
 |.nili,_,_=>rfl
 |.nilp,_,_=>rfl
 |.sh _,_,_=>rfl
 |.lit _ _,_,_=>rfl
 |.sa _ _ _,_,_=>rfl
def Arl:∀(s:List aE) (x:TL G s),s.all Aak=J->Ad1 s x=[]
 |[],_,_=>rfl
 |c::t,x,h=>by simp only[U_,e_]at h;simp only[Ad1,Ark c x.1 h.1,Arl t x.2 h.2,b3_]
def Bf5(s:aC)(x:s.T G)(h:Aol s=J):s.blk x=[]:=by
 cases s with
 |one c=>exact Ark c x h
 |agg cs=>exact Arl cs x h
def Amx:∀(n:Nat) (s:List aC) (x:Vy G s),s.all Aol=J->MU (FU n s) (Us n s x)=[]
 |_,[],_,_=>rfl
 |n,p::t,x,h=>by simp only[U_,e_]at h;show p.blk x.1++MU (FU (n+1) t) (Us (n+1) t x.2)=[];rw[Bf5 p x.1 h.1,Amx (n+1) t x.2 h.2];rfl
def Bdb(G:aD)(t:Nat):Option aC:=match shl G 20 t with
 |some s=>bif(G.ty t).isAgg then C (.agg s)else match s with|[c]=>C (.one c)|_=>N
 |none=>N
def Au7(G:aD):List Nat->Option (List aC)
 |[]=>C []
 |t::r=>match Bdb G t,Au7 G r with
  |some a,C b=>C (a::b)
  |_,_=>N
def WfA(G:aD)(s:List aC)(x:Vy G s):Prop:=∀p∈KB s x,∀c∈p.cells,WfC G c
section
variable{H:Type}{enc:TypeId×Value->H}{P:Program}(ok:aP P G)(dk:Aln G){w:World}{sp:Nat->Bool}{hd:Bool}
theorem Bfo{S:Nat->Prop}{h:Array Obj}{c:Cv G.T}(hw:WfC G c)(r:Rd G S h c v):Rc G (λ_=>N) S h c v:=by cases hw<;>exact r
include ok dk in
theorem Bc8{t:Nat}{d:DataW H}{ps:List MemPlace}{s:aC}{r:Reach}{base:Nat}(hs:Bdb G t=C s)(ht:DataW.Trod enc P w 0 sp hd t v d ps)(hv:Value.okWide P w r base t v):
  ∃x:s.T G,Rp G (λ_=>N) (λb=>b<w.heap.size) w.heap (s.give x) v/\∀c∈(s.give x).cells,WfC G c:=by
 obtain⟨CK,ht⟩:=ht;unfold Bdb at hs;split at hs
 .rename_i sh hsh;obtain⟨x,h1,h2⟩:=Azj ok dk CK 20 t _ _ sh hsh ht;cases ha:(G.ty t).isAgg with
  |true=>
   rw[ha]at hs;simp at hs;subst hs;have hag:∃cs,v=.agg cs:=by
    unfold Value.okWide at hv;cases hty:G.ty t with
    |st fs=>obtain⟨fields,hund,_⟩:=ok.strc t fs hty;rw[hund]at hv;obtain⟨cs,h,_⟩:=hv;exact⟨cs,h⟩
    |arr n e=>obtain⟨hund,_⟩:=ok.arr t n e hty;rw[hund]at hv;obtain⟨cs,h,_⟩:=hv;exact⟨cs,h⟩
    |_=>rw[hty]at ha;simp[aS]at ha
   obtain⟨cs,rfl⟩:=hag;refine⟨x,?_,h2⟩;have e1:(Value.agg cs)=.agg cs.toList.toArray:=by simp
   rw[e1];exact .agg _ _ ⟨h1.1,λi c u hc hu=>Bfo (h2 c (p_ hc)) (h1.2 i c u hc hu)⟩
  |false=>
   rw[ha]at hs;simp only[c_]at hs;split at hs
   .rename_i c;simp at hs;subst hs;have hl:v.cells.toList.length=1:=by rw[<-h1.1];rfl
    have hv1:v.cells=#[v]:=by
     cases v with
     |agg cs=>
      exfalso;unfold Value.okWide at hv;cases hty:G.ty t with
      |bool=>rw[ok.bool t hty]at hv;simp[Cell.okWide,Cell.ok,ok.bool t hty]at hv
      |int k=>rw[ok.int t k hty]at hv;simp[Cell.okWide,Cell.ok,ok.int t k hty]at hv
      |flt k=>rw[ok.flt t k hty]at hv;simp[Cell.okWide,Cell.ok,ok.flt t k hty]at hv
      |str=>rw[ok.str t hty]at hv;simp[Cell.okWide,Cell.ok,ok.str t hty]at hv
      |sl e=>rw[(ok.sl t e hty).1]at hv;simp[Cell.okWide,Cell.ok,(ok.sl t e hty).1]at hv
      |st _=>rw[hty]at ha;simp[aS]at ha
      |arr _ _=>rw[hty]at ha;simp[aS]at ha
      |_=>simp[shl,hty]at hsh
     |_=>rfl
    have hr:Rd G (λb=>b<w.heap.size) w.heap (c.give x.1) v:=h1.2 0 _ v rfl (by rw[hv1];rfl);have hw:=h2 (c.give x.1) (by simp[Cg]);refine⟨x.1,.one _ _ (Bfo hw hr),λc' hc'=>?_⟩;have hc':c'∈[c.give x.1]:=hc';simp at hc';subst hc';exact hw
   .simp at hs
 .simp at hs
include ok dk in
theorem Aop{r:Reach}{base:Nat}:∀(ts:List Nat) (vs:List Value) (ds:List (DataW H)) (ps:List MemPlace) (s:List aC),Au7 G ts=C s->DataW.TrodAll enc P w 0 sp hd ts vs ds ps->
  (∀(j:Nat) t v,ts[j]?=C t->vs[j]?=C v->Value.okWide P w r base t v)->∃x:Vy G s,F2 (Rp G (λ_=>N) (λb=>b<w.heap.size) w.heap) (KB s x) vs/\WfA G s x
 |[],[],[],_,s,hs,_,_=>by simp[Au7]at hs;subst hs;exact⟨(),.nil,λp hp=>by simp[KB]at hp⟩
 |t::ts,v::vs,d::ds,ps,s,hs,⟨p,q,h1,h2,_⟩,hv=>by
  simp only[Au7]at hs;split at hs
  .rename_i a b ha hb;simp at hs;subst hs;obtain⟨x,g1,g2⟩:=Bc8 ok dk ha h1 (hv 0 t v rfl rfl);obtain⟨y,g3,g4⟩:=Aop ts vs ds q b hb h2 λj t v ht hvv=>hv (j+1) t v (by simpa using ht) (by simpa using hvv);refine⟨(x,y),g3.cons g1,λp hp=>?_⟩;simp only[KB,v_]at hp;rcases hp with rfl|hp
   .exact g2
   .exact g4 p hp
  .simp at hs
 |[],[],_::_,_,_,_,h,_=>h.elim
 |[],_::_,_,_,_,_,h,_=>by cases h
 |_::_,[],_,_,_,_,h,_=>by cases h
 |_::_,_::_,[],_,_,_,h,_=>by cases h
def Ams(s:List aC):aF:=⟨FU 0 s,[],[]⟩
theorem Ay5{g:Nat}{sh:List aC}{E:List (Ex×aF)}{F:(Ams sh).T G->Option (DA G E)}{rs:List ResultVar}(hf:Ff P G g ⟨Ams sh,E,F,rs⟩)(hno:sh.all Aol=J){x:Vy G sh}{y:DA G E}
  (hF:F (Us 0 sh x,())=C y) {b:Bool}{p:Ex×V G}(hp:Fs E y C=C p) (hy:Jy (Ams sh) rs p=C (.p (.one (.sc (.bool b))),[])) {W:World}(hgl:GlOK G (λb=>b<W.heap.size) W.heap) {vals:List Value}
  (hargs:F2 (Rp G (λ_=>N) (λb=>b<W.heap.size) W.heap) (KB sh x) vals) :
  Calls P g vals.toArray W λe' W'=>e'=.returned (.bool b)/\RowKit.Below W.heap.size W W':=by
 have hlen:∀(n:Nat) (s:List aC) (x:Vy G s),(KB s x).length=(FU n s).length:=by
  intro n s;induction s generalizing n with
  |nil=>intro _;rfl
  |cons p t ih=>intro x;simp only[KB,FU,N_,ih (n+1) x.2]
 have hp0:((Ams sh).mk' (Us 0 sh x,())).hp=([]:List (Nat×aA G.T)):=by show MU (FU 0 sh) (Us 0 sh x)++([]++[])=[];rw[Amx 0 sh x hno];rfl
 have htm:((Ams sh).mk' (Us 0 sh x,())).tm=FU 0 ((KB sh x).map (Sv.p (T:=G.T))):=Ajv 0 sh x;refine((hf.2 (Us 0 sh x,()) y p _ [] hF hp hy) (λ_=>N) (λb=>b<W.heap.size) (λ_=>False) W vals ⟨λn k hk=>?_,λn m z z' b h1=>?_,λn z b h1=>?_,λ_ h=>h,hgl⟩ (λn hn=>absurd rfl hn) ?_ λk v hk=>?_).mono ?_
 .rw[hp0]at hk;cases hk
 .rw[hp0]at h1;exact absurd rfl h1
 .rw[hp0]at h1;exact absurd rfl h1
 .rw[<-hargs.1];exact hlen 0 sh x
 .rw[htm,XM]at hk;simp at hk;obtain⟨u,hu,rfl⟩:=hk;obtain⟨v,hv,hrp⟩:=hargs.get hu
  have:vals.getD k undef=v:=by simp[n_,hv]
  rw[this];exact .p _ _ hrp
 .rintro e' W' ⟨v,ν',S',he,hval,_,_,_,_,hsz,hfr,henv⟩;refine⟨?_,henv.1,henv.2.1,henv.2.2,hsz,λb hb=>hfr b hb id⟩;rw[he];cases hval with
  |p _ _ hrp=>
   cases hrp with
   |one _ _ hc=>have hc:Rd G S' W'.heap (.sc (.bool b)) v:=hc;cases hc;rfl
end
def Za(G:aD)(y:Ty):Prop:=∀e,y=.sl e->Aaa (G.ty e)=U->G.loose e=J->∃s,shl G 20 e=C s/\∀x:TL G s,∃y,G.dec e (Cg s x)=C y
def Arn{G:aD}{y:Ty}(h:(match y with|.sl _=>J|_=>U)=U):Za G y:=λe he _=>by subst he;simp at h
def Bf9{G:aD}{e:Nat}{s:List aE}(h:shl G 20 e=C s)(hd:∀x:TL G s,∃y,G.dec e (Cg s x)=C y):Za G (.sl e):=λe' he _=>by cases he;exact λ_=>⟨s,h,hd⟩
def Bca{tys:List (Nat×TyD)}{l:List (Ent1 (TOf tys))}{gl:Nat->Option ((t:Nat)×TOf tys t)}{ext:Nat->Nat}{loose:Nat->Bool}(h:∀p∈l,Za (Pl tys l gl ext loose) p.e.ty):Aln (Pl tys l gl ext loose):=λt=>Vb (T:=TOf tys) (Q:=λ_ e=>Za (Pl tys l gl ext loose) e.ty) (λ_=>Arn rfl) h t
end Go.Ab
namespace Go.Ab
variable{G:aD}
variable{P:Program}{k:IntKind}{w:World}
def Aqg{H:Type}{enc:TypeId×Value->H}{base:Nat}{sp:Nat->Bool}{held:Bool}{CK:Nat}{t:TypeId}{c:Value}{n:Int}{q:List MemPlace}
  (ht:P.underlying t=C (.int k)) (h:DataW.trod enc P w base sp held CK t [c]=C (.lit (.int k n),q)):c=.int k n:=by
 cases CK with
 |zero=>simp[DataW.trod]at h
 |succ CK=>cases c<;>simp[DataW.trod,ht]at h;obtain⟨⟨rfl,_⟩,rfl,_⟩:=h;rfl
def Avl{n:String}{g:Nat}{t e:TypeId}{ns:List Int}{gt:Nat}{gx:G.T gt}{cs:Array Value}{CK:Nat}{p:List MemPlace}
  (hn:P.globalNamed n=C g) (hu:P.underlying t=C (.array ns.length e)) (he:P.underlying e=C (.int k)) (hce:P.cellsOf e=1) (hct:P.cellsOf t=ns.length)
  (hsz:G.sz gt=ns.length) (henc:G.enc gt gx=ns.map λx=>.sc (.int k x))
  (hv:w.var? P n=C cs) (hd:DataW.trod (λ_=>()) P w 0 (λ_=>J) U CK t cs.toList=C (.agg (ns.map λx=>.lit (.int k x)),p)) :
  Rd G (λb=>b<w.heap.size) w.heap (.rp gt gx 0) (.pointer (C ⟨g,0,N⟩))/\∃c te fz,w.heap[g]?=C (.cells c te fz)/\c.size=G.sz gt:=by
 obtain⟨xs,m,_,hx,hlen,hxs,hf⟩:=DataW.trod_array hu hd;have hcell:∀j (x:Int),ns[j]?=C x->cs[j]?=C (Value.int k x):=λj x hj=>by
  obtain⟨hjl,hjx⟩:=g_.1 hj;have h1:=hf j hjl;rw[hce,c1_]at h1;have hm:xs.map (·.1)=ns.map λx=>DataW.lit (.int k x):=by simp only[Prod.mk.injEq,DataW.agg.injEq]at hx;exact hx.1.symm
  have h2:=congrArg (·[j]?) hm;simp only[b7_,hj,e2_]at h2;cases hq:xs[j]? with
  |none=>rw[hq]at h2;cases h2
  |some z=>
   rw[hq]at h1 h2;obtain⟨z1,z2⟩:=z;simp only[e2_,c7_]at h2;subst h2;have hl:j<cs.toList.length:=by rw[hlen,hct];exact hjl
   have hdrop:(cs.toList.drop j).take 1=[cs.toList[j]]:=by rw[List.drop_eq_getElem_cons hl];rfl
   rw[hdrop]at h1;have hz:=Aqg he h1;rw[<-Array.getElem?_toList,j_ hl,hz]
 unfold World.var? at hv;rw[hn]at hv;simp only[a_]at hv;split at hv
 .rename_i cs' te fz hb;obtain rfl:=D_ hv;refine⟨.rp gt gx 0 g 0 cs' te fz (λj=>cs'.getD j undef) (x_.1 hb).1 hb (λj hj=>?_) λj cv hj=>?_,cs',te,fz,hb,by rw[hsz,<-hct,<-hlen,Array.length_toList]⟩
  .rw[hsz]at hj
   have:=hcell j ns[j] (j_ hj)
   rw[k_,this];simp[r_,this]
  .rw[henc,b7_]at hj;cases hq:ns[j]? with
   |none=>rw[hq]at hj;cases hj
   |some x=>
    rw[hq]at hj;simp only[e2_,c7_]at hj;subst hj
    have:=hcell j x hq
    rw[show cs'.getD j undef=.int k x by simp[r_,this]];exact .sc _ rfl
 .cases hv
end Go.Ab
namespace Go.Ab
open Go
def zc(i:TypeInfo):List Value:=match i.zero with
 |some z=>z.cells.toList
 |none=>[]
def Sk.c:Sk->aE
 |.i k=>.int k
 |.b=>.bool
 |.s=>.str
 |.f k=>.flt k
 |.l t=>.ro t
def Sk.nl:Sk->Bool
 |.l _=>U
 |_=>J
def Sk.u:Sk->Bool
 |.i .u8=>J
 |_=>U
section
variable{T:Nat->Type}
def pe(t:Nat)(i:TypeInfo)(y:Ty):Ent1 T:=plain T t y i.size (zc i)
def re(t:Nat)(i:TypeInfo)(y:Ty)(sk:List Sk)(to:T t->SkL T sk)(of:SkL T sk->T t):Ent1 T:=⟨t,⟨y,i.size,zc i,λx=>Ns sk (to x),λcs=>match Anh sk cs with
 |some x=>C (of x)
 |none=>N,sk.all Sk.nl⟩⟩
def SkF(T:Nat->Type)(Y:Type):List Sk->Type
 |[]=>Y
 |a::t=>a.T T->SkF T Y t
def apS{Y:Type}:(l:List Sk)->SkF T Y l->SkL T l->Y
 |[],f,_=>f
 |_::t,f,x=>apS t (f x.1) x.2
def Sk.enc_sc(a:Sk)(x:a.T T):Aac (a.enc x)=J/\(a.nl=J->Agb (a.enc x)=J)/\u8C (a.enc x)=a.u:=by
 cases a with
 |i k=>exact⟨rfl,λ_=>rfl,by cases k<;>rfl⟩
 |l t=>exact⟨rfl,(λh=>by cases h),rfl⟩
 |_=>exact⟨rfl,λ_=>rfl,rfl⟩
def Anl:∀(l:List Sk) (x:SkL T l),(Ns l x).length=l.length
 |[],_=>rfl
 |_::t,x=>congrArg (· +1) (Anl t x.2)
def Arr:∀(l:List Sk) (x:SkL T l),(Ns l x).all Aac=J
 |[],_=>rfl
 |a::t,x=>by simp only[Ns,U_,(a.enc_sc x.1).1,Arr t x.2,V_]
def Ars:∀(l:List Sk),l.all Sk.nl=J->∀(x:SkL T l),(Ns l x).all Agb=J
 |[],_,_=>rfl
 |a::t,h,x=>by rw[U_,e_]at h;simp only[Ns,U_,(a.enc_sc x.1).2.1 h.1,Ars t h.2 x.2,V_]
def Sk.r:Sk->Option Nat
 |.l t=>C t
 |_=>N
def Aea:∀(l:List Sk) (x:SkL T l),(Ns l x).map roC=l.map Sk.r
 |[],_=>rfl
 |a::t,x=>by simp only[Ns,d4_,Aea t x.2];cases a<;>rfl
def Aig:∀(l:List Sk) (x:SkL T l),(Ns l x).map u8C=l.map Sk.u
 |[],_=>rfl
 |a::t,x=>by simp only[Ns,d4_,(a.enc_sc x.1).2.2,Aig t x.2]
end
def Aue:List (Nat×Nat)->List (Nat×Nat)->Bool
 |[],[]=>J
 |a::s,b::t=>aH a.1 b.1&&aH a.2 b.2&&Aue s t
 |_,_=>U
def Aru:∀{s t:List (Nat×Nat)},Aue s t=J->s=t
 |[],[],_=>rfl
 |(a,b)::s,(c,d)::t,h=>by simp only[Aue,e_]at h;rw[c2_ h.1.1,c2_ h.1.2,Aru h.2]
section
variable{P:Program}{G:aD}
def Abf(P:Program)(G:aD)(t:Nat):Ty->Bool
 |.no=>U
 |.bool=>match P.underlying t with
  |some .bool=>J
  |_=>U
 |.int k=>match P.underlying t with
  |some (.int k')=>Dd k k'
  |_=>U
 |.flt k=>match P.underlying t with
  |some (.float k')=>Pd k k'
  |_=>U
 |.str=>match P.underlying t with
  |some .string=>J
  |_=>U
 |.sl e=>(match P.underlying t with
  |some (.slice e')=>aH e e'
  |_=>U)&&(!Nu (G.ty e)&&(match P.info? e with
  |some i=>aO i.bytes 4096
  |none=>U))
 |.pt e=>match P.underlying t with
  |some (.pointer e')=>aH e e'
  |_=>U
 |.fn=>match P.underlying t with
  |some (.func _ _ _)=>J
  |_=>U
 |.st fs=>match P.underlying t with
  |some (.struct fields)=>Aue (fields.toList.map λf=>(f.offset,f.type)) fs&&fs.all λp=>!Nu (G.ty p.2)
  |_=>U
 |.arr n e=>match P.underlying t with
  |some (.array n' e')=>aH n n'&&aH e e'&&!Nu (G.ty e)
  |_=>U
def Ahj(G:aD):Ty->Prop
 |.sl e=>∀x,(G.enc e x).length=G.sz e
 |_=>True
def Bgg{k k':IntKind}(h:Dd k k'=J):k=k':=by cases k<;>cases k'<;>first|rfl|(simp[Dd]at h)
def Bgf{k k':FloatKind}(h:Pd k k'=J):k=k':=by cases k<;>cases k'<;>first|rfl|(simp[Pd]at h)
def Bg2{t:Nat}{y:Ty}(h:Abf P G t y=J)(hl:Ahj G y):Bbs P G t y:=by
 unfold Abf at h;cases y with
 |no=>trivial
 |bool|str=>
  simp only at h;split at h
  .assumption
  .cases h
 |int k=>
  simp only at h;split at h
  .rename_i e;cases Bgg h;exact e
  .cases h
 |flt k=>
  simp only at h;split at h
  .rename_i e;cases Bgf h;exact e
  .cases h
 |sl e=>
  simp only[e_,a5_]at h;obtain⟨h1,h2,h3⟩:=h;split at h1
  .rename_i e';split at h3
   .rename_i i hi;cases c2_ h1;exact⟨e',h2,⟨i,hi,h3⟩,hl⟩
   .cases h3
  .cases h1
 |pt e=>
  simp only at h;split at h
  .rename_i e';cases c2_ h;exact e'
  .cases h
 |fn=>
  simp only at h;split at h
  .rename_i e;exact⟨_,_,_,e⟩
  .cases h
 |st fs=>
  simp only at h;split at h
  .rename_i fields e;rw[e_]at h;exact⟨fields,e,Aru h.1,h.2⟩
  .cases h
 |arr n e=>
  simp only at h;split at h
  .rename_i e';simp only[e_,a5_]at h;cases c2_ h.1.1;cases c2_ h.1.2;exact⟨e',h.2⟩
  .cases h
def XP(i:TypeInfo):Bool:=aO 1 i.size&&((zc i).all IC&&(aH (zc i).length i.size&&i.zero.isSome))
def Ayi{t:Nat}{i:TypeInfo}{y:Ty}{enc:G.T t->List (Cv G.T)}{dec:List (Cv G.T)->Option (G.T t)}{fl:Bool}(hi:P.info? t=C i)(hc:(Abf P G t y&&XP i)=J)(hl:Ahj G y)
  (h1:∀x,(enc x).length<=i.size) (h2:∀cs x,dec cs=C x->enc x=cs) (h3:∀x,(enc x).all Aac=J) (h4:fl=J->∀x,(enc x).all Agb=J) (h5:∀x y,(enc x).map u8C=(enc y).map u8C) (h6:∀x y,(enc x).map roC=(enc y).map roC):EntOK P G t ⟨y,i.size,zc i,enc,dec,fl⟩:=by
 rw[e_]at hc;obtain⟨ht,hc⟩:=hc;simp only[XP,e_]at hc;obtain⟨z,hz⟩:=Option.isSome_iff_exists.1 hc.2.2.2;refine⟨Bg2 ht hl,λ_=>⟨i,z,hi,rfl,hz,by simp only[zc,hz]⟩,λ_=>hc.1,λh=>?_,hc.2.1,c2_ hc.2.2.1,h1,h2,h3,h4,h5,h6⟩;have h:y=.no:=h;subst h;cases ht
def pk{t:Nat}{i:TypeInfo}{y:Ty}(hi:P.info? t=some i:=by kernel_rfl)(hc:(Abf P G t y&&XP i)=true:=by kernel_rfl)(hl:Ahj G y:=by trivial):EntOK P G t (pe (T:=G.T) t i y).e:=Ayi hi hc hl (λ_=>G_ _) (λ_ _ h=>by cases h) (λ_=>rfl) (λ_ _=>rfl) (λ_ _=>rfl) (λ_ _=>rfl)
def ps{t e:Nat}{i:TypeInfo}(hi:P.info? t=some i:=by kernel_rfl)(hc:(Abf P G t (.sl e)&&XP i)=true:=by kernel_rfl)(hl:∀x,(G.enc e x).length=G.sz e:=by intro x;kernel_rfl):EntOK P G t (pe (T:=G.T) t i (.sl e)).e:=pk hi hc hl
def rk0{t:Nat}{i:TypeInfo}{y:Ty}{sk:List Sk}{to:G.T t->SkL G.T sk}{of:SkL G.T sk->G.T t}(hl:Ahj G y)(hi:P.info? t=C i)(hc:(Abf P G t y&&XP i)=J)(hs:aH sk.length i.size=J)(hr:∀x,to (of x)=x):EntOK P G t (re (T:=G.T) t i y sk to of).e:=
 Ayi hi hc hl (λx=>by rw[Anl,c2_ hs];exact H_ _) (λcs x h=>by
  cases e:Anh sk cs with
  |none=>rw[e]at h;cases h
  |some z=>rw[e]at h;cases h;rw[hr];exact Aro e) (λx=>Arr _ _) (λh x=>Ars _ h _) (λx y=>by rw[Aig,Aig]) (λx y=>by rw[Aea,Aea])
def rk{t:Nat}{i:TypeInfo}{y:Ty}{sk:List Sk}{to:G.T t->SkL G.T sk}{of:SkL G.T sk->G.T t}(hi:P.info? t=some i:=by kernel_rfl)(hc:(Abf P G t y&&XP i)=true:=by kernel_rfl)(hs:Nat.beq sk.length i.size=true:=by kernel_rfl)(hr:∀x,to (of x)=x:=by intro x;kernel_rfl)(hl:Ahj G y:=by trivial):EntOK P G t (re (T:=G.T) t i y sk to of).e:=rk0 hl hi hc hs hr
def rs{t e:Nat}{i:TypeInfo}{sk:List Sk}{to:G.T t->SkL G.T sk}{of:SkL G.T sk->G.T t}(hi:P.info? t=some i:=by kernel_rfl)(hc:(Abf P G t (.sl e)&&XP i)=true:=by kernel_rfl)(hs:Nat.beq sk.length i.size=true:=by kernel_rfl)(hr:∀x,to (of x)=x:=by intro x;kernel_rfl)(hl:∀x,(G.enc e x).length=G.sz e:=by intro x;kernel_rfl):EntOK P G t (re (T:=G.T) t i (.sl e) sk to of).e:=rk0 hl hi hc hs hr
def fn0{α:Type _}{Q:α->Prop}:∀p∈([]:List α),Q p:=λ_ h=>absurd h (f0_)
def fc{α:Type _}{Q:α->Prop}{a:α}{l:List α}(h:Q a)(t:∀p∈l,Q p):∀p∈a::l,Q p:=List.forall_mem_cons.2 ⟨h,t⟩
def Bk7 (P : Program) (t : Nat) (y : Ty) : Bool := (!y.isAgg || !P.eqGuardType P.depth t) && (!Aut y || (!P.stoodInHeld t && (P.fieldsOf t).toList.all λf => f.name != "_"))
def Bnz{l:List (Ent1 G.T)}(h:(l.all λp=>Bk7 P p.t p.e.ty)=J):∀p∈l,NmE P p.t p.e.ty:=λp hp=>by
 have h:=C_.1 h p hp;simp only[Bk7,e_,b0_,a5_]at h;refine⟨λe=>?_,λe=>?_,λe=>?_⟩
 .rcases h.1 with h|h
  .rw[h]at e;cases e
  .exact h
 .rcases h.2 with h|h
  .rw[h]at e;cases e
  .exact h.1
 .rcases h.2 with h|h
  .rw[h]at e;cases e
  .exact h.2
def Bfh:∀(l:List Sk) (y:TL G (l.map Sk.c)),∃x:SkL G.T l,Cg (l.map Sk.c) y=Ns l x
 |[],_=>⟨(),rfl⟩
 |a::t,y=>by
  obtain⟨x,hx⟩:=Bfh t y.2;cases a with
  |i k=>exact⟨((show Int from y.1),x),congrArg (Cv.sc (.int k y.1):: ·) hx⟩
  |b=>exact⟨((show Bool from y.1),x),congrArg (Cv.sc (.bool y.1):: ·) hx⟩
  |s=>exact⟨((show ByteArray from y.1),x),congrArg (Cv.sc (.string y.1):: ·) hx⟩
  |f k=>exact⟨((show Nat from y.1),x),congrArg (Cv.sc (.float k y.1):: ·) hx⟩
  |l e=>exact⟨((show List (G.T e)from y.1),x),congrArg (Cv.ro e y.1:: ·) hx⟩
def dk(sk:List Sk){e:Nat}(hs:shl G 20 e=some (sk.map Sk.c):=by kernel_rfl)(hd:∀x:SkL G.T sk,(G.dec e (Ns sk x)).isSome=true:=by intro x;kernel_rfl):Za G (.sl e):=Bf9 hs λy=>by obtain⟨x,hx⟩:=Bfh sk y;rw[hx];exact Option.isSome_iff_exists.1 (hd x)
def df{e:Nat}(h:Aaa (G.ty e)=true:=by kernel_rfl):Za G (.sl e):=λe' he hf=>by cases he;rw[h]at hf;cases hf
def dl{e:Nat}(h:G.loose e=false:=by kernel_rfl):Za G (.sl e):=λe' he _ hl=>by cases he;rw[h]at hl;cases hl
def dn{y:Ty}(h:(match y with|.sl _=>true|_=>false)=false:=by rfl):Za G y:=Arn h
end
def ki:Sk:=.i .i64
def k4:Sk:=.i .u32
def k1:Sk:=.i .u8
def kb:Sk:=.b
def ks:Sk:=.s
def kf:Sk:=.f .f64
def kl(t:Nat):Sk:=.l t
def ci:aE:=.int .i64
def c4:aE:=.int .u32
def c1:aE:=.int .u8
def cb:aE:=.bool
def cs:aE:=.str
def cf:aE:=.flt .f64
def cr(t:Nat):aE:=.ro t
def cw(m t:Nat):aE:=.own (32768+m) t
def oi:aC:=.one ci
def o4:aC:=.one c4
def o1:aC:=.one c1
def oA(l:List aE):aC:=.agg l
section
variable{G:aD}
def CSh.F(G:aD)(Y:Type):aE->Type
 |.int _=>Int->Y
 |.bool=>Bool->Y
 |.str=>ByteArray->Y
 |.flt _=>Nat->Y
 |.own _ t=>List (G.T t)->Y
 |.ro t=>List (G.T t)->Y
 |.rp t _=>G.T t->Y
 |_=>Y
def CSh.ap{Y:Type}:(s:aE)->s.F G Y->s.T G->Y
 |.int _,f,x=>f x
 |.bool,f,x=>f x
 |.str,f,x=>f x
 |.flt _,f,x=>f x
 |.own _ _,f,x=>f x
 |.ro _,f,x=>f x
 |.rp _ _,f,x=>f x
 |.ptr _ _,f,_=>f
 |.clo _ _ _,f,_=>f
 |.np _ _,f,_=>f
 |.nili,f,_=>f
 |.nilp,f,_=>f
 |.sh _,f,_=>f
 |.lit _ _,f,_=>f
 |.sa _ _ _,f,_=>f
def LF(G:aD)(Y:Type):List aE->Type
 |[]=>Y
 |s::t=>s.F G (LF G Y t)
def apL{Y:Type}:(l:List aE)->LF G Y l->TL G l->Y
 |[],f,_=>f
 |s::t,f,x=>apL t (s.ap f x.1) x.2
def PSh.F(G:aD)(Y:Type):aC->Type
 |.one c=>c.F G Y
 |.agg l=>LF G Y l
def PSh.ap{Y:Type}:(s:aC)->s.F G Y->s.T G->Y
 |.one c,f,x=>c.ap f x
 |.agg l,f,x=>apL l f x
def TmF(G:aD)(Y:Type):List (Nat×aC)->Type
 |[]=>Y
 |p::t=>p.2.F G (TmF G Y t)
def apT{Y:Type}:(l:List (Nat×aC))->TmF G Y l->TmT G l->Y
 |[],f,_=>f
 |p::t,f,x=>apT t (p.2.ap f x.1) x.2
def HpF(G:aD)(Y:Type):List (Nat×List aE)->Type
 |[]=>Y
 |p::t=>LF G (HpF G Y t) p.2
def apH{Y:Type}:(l:List (Nat×List aE))->HpF G Y l->HpT G l->Y
 |[],f,_=>f
 |p::t,f,x=>apH t (apL p.2 f x.1) x.2
def Spec.F(G:aD)(s:aF)(Y:Type):Type:=TmF G (HpF G Y s.hp) s.tm
def Spec.ap{Y:Type}(s:aF)(f:s.F G Y)(x:s.T G):Y:=apH s.hp (apT s.tm f x.1) x.2
def fe(fn:Func)(I:aF)(E:SL)(f:I.F G (Option (DA G E))):Fe G:=⟨I,E,I.ap f,fn.results.toList⟩
def ix(n:Nat):List aC->List (Nat×aC)
 |[]=>[]
 |a::t=>(n,a)::ix (n+1) t
def ia(l:List aC):aF:=⟨ix 0 l,[],[]⟩
def sp(l:List (Nat×aC)):aF:=⟨l,[],[]⟩
def sh(l:List (Nat×aC))(h:List (Nat×List aE)):aF:=⟨l,h,[]⟩
def rt(l:List (Nat×aC)):SL:=[(.ret,sp l)]
def rh(l:List (Nat×aC))(h:List (Nat×List aE)):SL:=[(.ret,sh l h)]
def jn(l:List (Nat×aC)):SL:=[(.normal,sp l)]
def jh(l:List (Nat×aC))(h:List (Nat×List aE)):SL:=[(.normal,sh l h)]
def xt(n:Nat)(l:List (Nat×aC)):Ex×aF:=(.exit n,sp l)
def xh(n:Nat)(l:List (Nat×aC))(h:List (Nat×List aE)):Ex×aF:=(.exit n,sh l h)
def rx(l:List (Nat×aC)):Ex×aF:=(.ret,sp l)
def yh(l:List (Nat×aC))(h:List (Nat×List aE)):Ex×aF:=(.ret,sh l h)
def Bkc(n:Nat):List (Nat×SL)->Option SL
 |[]=>N
 |p::t=>bif aH (1048576+p.1) n then C p.2 else Bkc n t
def js(l:List (Nat×SL))(n:Nat):Option SL:=Bkc n l
def jm(k:List Nat)(e:SL)(f:Nat->Option SL)(n:Nat):Option SL:=bif k.any λk=>aH (1048576+k) n then C e else f n
def ow(m t:Nat):aC:=.one (cw m t)
def su(l:List (Nat×aC))(h:List (Nat×List aE)):aF:=⟨l,h,[65536]⟩
def ru(l:List (Nat×aC))(h:List (Nat×List aE)):SL:=[(.ret,su l h)]
def nu(l:List (Nat×aC))(h:List (Nat×List aE)):SL:=[(.normal,su l h)]
def ry(l:List (Nat×aC))(h:List (Nat×List aE)):Ex×aF:=(.ret,su l h)
def xu(n:Nat)(l:List (Nat×aC))(h:List (Nat×List aE)):Ex×aF:=(.exit n,su l h)
end
variable{G:aD}
def lpN:List (aF×(V G->M (Ex×V G)))->V G->M (Ex×V G)
 |[],_=>aN
 |s::t,st=>match s.1.take st with
  |none=>aN
  |some x=>aI (s.2 (s.1.mk' x)) λp=>match p.1 with
   |.normal=>lpN t p.2
   |e=>aG (e,p.2)
section
variable{P:Program}(ok:aP P G)(eqok:EqOK P G){cf:BW G}(cfok:CfOK P G cf){nt:Nat}{drawn:Array Oper->V G->M (V G)}(dok:DrawOK P G nt drawn)
 {lp:Nat->V G->M (Ex×V G)}{kl:Nat->List Nat}{n:Nat}{c:Code}(hl:∀(k:Nat) c',(AQ c)[k]?=C c'->aK P G nt (lp (n+k)) c')
def rN(cf:BW G)(nt:Nat)(drawn:Array Oper->V G->M (V G))(lp:Nat->V G->M (Ex×V G))(kl:Nat->List Nat)(n:Nat)(c:Code)(l:List (aF×(Nat->Option SL))):List (aF×(V G->M (Ex×V G))):=l.map λs=>(s.1,BQ cf nt drawn lp kl s.2 n c)
include cfok dok hl in
theorem Ar5:∀(l:List (aF×(Nat->Option SL))) (st:V G),Law (lpN (rN cf nt drawn lp kl n c l) st)
 |[],_=>Aj
 |s::t,st=>by
  simp only[rN,d4_,lpN];split
  .exact Aj
  .refine Ac (DC cfok dok c n _ hl) λp=>?_;cases p.1 with
   |normal=>exact Ar5 t p.2
   |exit i=>exact Ae _
   |ret=>exact Ae _
include ok eqok cfok dok hl in
theorem Ahb{cx:Cx}(hnt:cx.nt=nt)(hnu:∀n y,cx.nu0 n=C y->Z<=n){ex:Ex}{st':V G}{Q:Exit->Act->World->Prop}(hQ:∀e a' w',ExR ex e->Rel G cx st' a' w'->Q e a' w') :
  ∀(l:List (aF×(Nat->Option SL))) (st:V G) (a:Act) (w:World),lpN (rN cf nt drawn lp kl n c l) st _ C=C (ex,st')->Rel G cx st a w->Code.rounds P c Q l.length a w
 |[],_,_,_,h,_=>by simp[rN,lpN,aN]at h
 |s::t,st,a,w,h,r=>by
  rw[N_,rounds_succ];simp only[rN,d4_,lpN]at h;cases hx:s.1.take st with
  |none=>rw[hx]at h;cases h
  |some x=>
   rw[hx]at h;have hr:=Spec.take_rel hx r hnu;have hb:(BQ cf nt drawn lp kl s.2 n c (s.1.mk' x) _ C).bind (λp=>(match p.1 with
    |.normal=>lpN (rN cf nt drawn lp kl n c t) p.2
    |e=>aG (e,p.2):M (Ex×V G)) _ C)=C (ex,st'):=by
    rw[<-h];exact(DC cfok dok (kl:=kl) (jn:=s.2) c n _ hl _ _).symm
   obtain⟨⟨e,st1⟩,hv,hb⟩:=Option.bind_eq_some_iff.1 hb;refine Fa ok eqok cfok dok hnt hnu c n _ st1 e a w _ hl hv hr λe' a' w' he r'=>?_;cases e with
   |normal=>rw[Ju he];exact Ahb hnt hnu hQ t st1 a' w' hb r'
   |exit i=>simp only[aG,c7_,Prod.mk.injEq]at hb;obtain⟨rfl,rfl⟩:=hb;have h9:=hQ _ _ _ he r';rw[XE he]at h9|-;exact h9
   |ret=>simp only[aG,c7_,Prod.mk.injEq]at hb;obtain⟨rfl,rfl⟩:=hb;have h9:=hQ _ _ _ he r';rw[SY he]at h9|-;exact h9
end
section
variable{P:Program}(cx:Ctx P G){l:List (Nat×Fe G)}(hl:∀p∈l,Ff P G p.1 p.2)
include cx hl in
theorem lkn{nt:Nat}{c:Code}(lp:Nat->St G->M (Ex×St G))(n:Nat)(ss:List (Spec×(Nat->Option SL))){f:St G->M (Ex×St G)}(hf:f=lpN (rN (cfQ l) nt (TQ (cfQ l) nt) lp (λ_=>[]) n c ss):=by rfl)
  (hin:Hd (λk c=>LoopOK P G nt (lp k) c) n (AQ c):=by exact an0 κ):LoopOK P G nt f c:=by
 subst hf;have dok:=Va cx.ok cx.eqok (Pc cx.ok hl) (Abo l) cx.hm (nt:=nt);exact⟨λst=>Ar5 (Pc cx.ok hl) dok hin ss st,λst _ _ h _ a w _ hnt hnu r hQ=>wp_loop_rounds ss.length (Ahb cx.ok cx.eqok (Pc cx.ok hl) dok hin hnt hnu hQ ss st a w h r)⟩
end
variable{G:aD}
def dOf:Nat->Code->Code
 |0,.seq y _=>y
 |k+1,.seq _ y=>dOf k y
 |_,_=>.skip
def noD:Nat->Code->Code
 |0,.seq _ y=>y
 |k+1,.seq x y=>.seq x (noD k y)
 |_,c=>c
def Avn:Nat->Code->Bool
 |0,.seq _ _=>J
 |k+1,.seq (.region _ _ _) y=>Avn k y
 |_,_=>U
section
variable{P:Program}(ok:aP P G)(eqok:EqOK P G){cf:BW G}(cfok:CfOK P G cf){nt:Nat}{drawn:Array Oper->V G->M (V G)}(dok:DrawOK P G nt drawn)
 {lp:Nat->V G->M (Ex×V G)}{kl:Nat->List Nat}{jn:Nat->Option (List (Ex×aF))}
include cfok dok in
theorem Avo{id:Nat}{ops:Array Oper}{b:Bool}{n:Nat}{st st':V G}{ex:Ex}(h:BQ cf nt drawn lp kl jn n (.region id ops b) st _ C=C (ex,st')):ex=.normal:=by
 cases b with
 |false=>unfold BQ at h;obtain⟨stp,h,_⟩:=Vj h;have hlr:Law (Ui cf nt ops ops.toList stp):=SQ (cx:=⟨default,λ_=>False,λ_=>False,λ_=>N,nt,[]⟩) cfok ops ops.toList stp;obtain⟨st0,h0,_⟩:=Lf (Ac hlr λ_=>Ae _) h;obtain⟨st1,_,h2⟩:=hlr.spec (aT h0);simp[aG]at h2;exact h2.1.symm
 |true=>unfold BQ at h;obtain⟨stp,h,_⟩:=Vj h;obtain⟨st0,h0,_⟩:=Lf (Ac (dok.law ops stp) λ_=>Ae _) h;obtain⟨st1,_,h2⟩:=(dok.law ops stp).spec (aT h0);simp[aG]at h2;exact h2.1.symm
include ok eqok cfok dok in
theorem Aj6{d:Value->Deferred}{dr:Code}(hdr:∀(a:Act) (w:World) (Q:Exit->Act->World->Prop),(∀v,Q .normal { a with defers:=d v::a.defers } w)->dr.wp P Q a w){cx:Cx}(hnt:cx.nt=nt)(hnu:∀n y,cx.nu0 n=C y->Z<=n) :
  ∀(k:Nat) (c:Code),Avn k c=J->dOf k c=dr->∀(n:Nat) (st st':V G) (ex:Ex) (a:Act) (w:World) (Q:Exit->Act->World->Prop),
  (∀(j:Nat) c',(AQ (noD k c))[j]?=C c'->aK P G nt (lp (n+j)) c')->BQ cf nt drawn lp kl jn n (noD k c) st (Ex×V G) C=C (ex,st')->Rel G cx st a w->
  (∀v e a' w',ExR ex e->Rel G { cx with df:=d v::cx.df } st' a' w'->Q e a' w')->c.wp P Q a w
 |0,.seq x y,_,hy,n,st,st',ex,a,w,Q,hl,h,r,hQ=>by
  have hy:x=dr:=hy;subst hy;refine wp_seq (hdr a w _ λv=>?_);have hr:Rel G { cx with df:=d v::cx.df } st { a with defers:=d v::a.defers } w:=by obtain⟨ν,S,r⟩:=r;exact⟨ν,S,⟨r.slot,r.heap,r.used,by show d v::a.defers=d v::cx.df;rw[r.defers],r.nt,r.size,r.frame,r.env,r.sub,r.keep,r.names⟩⟩
  exact Fa ok eqok cfok dok (cx:={ cx with df:=d v::cx.df }) hnt hnu y n st st' ex _ w Q hl h hr (hQ v)
 |k+1,.seq (.region id ops b) y,hk,hy,n,st,st',ex,a,w,Q,hl,h,r,hQ=>by
  have h:BQ cf nt drawn lp kl jn n (.seq (.region id ops b) (noD k y)) st (Ex×V G) C=C (ex,st'):=h;unfold BQ at h;have hlx:∀(j:Nat) c',(AQ (.region id ops b))[j]?=C c'->aK P G nt (lp (n+j)) c':=λj c' hj=>by simp[AQ]at hj
  obtain⟨⟨e1,st1⟩,h1,h2⟩:=(Nv (DC cfok dok (.region id ops b) n st hlx)).spec (aT h);obtain⟨st0,h0,hcut⟩:=Lf (DC cfok dok (.region id ops b) n st hlx) h1;have hn:e1=.normal:=Avo cfok dok h0;subst hn;refine wp_seq (Fa ok eqok cfok dok hnt hnu (.region id ops b) n st st0 .normal a w _ hlx h0 r λe a' w' he r''=>?_);rw[Ju he];exact Aj6 hdr hnt hnu k y hk hy n st1 st' ex a' w' Q hl h2 (hcut hnu r'') hQ
include ok eqok cfok in
theorem Anv {g gd k : Nat} {fn : Func} {fd : Fn} {body : Code} (hfn : P.funcs[g]? = C fn) (hname : (fn.name == "runtime.NumGoroutine") = U) (hbody : fn.body = C body) {e : Fe G} (hrs : fn.results.toList = e.rs) (hlen : e.I.tm.length <= fn.ntmps)
  (dok:DrawOK P G fn.ntmps drawn) (hl:∀(j:Nat) c',(AQ (noD k body))[j]?=C c'->aK P G fn.ntmps (lp j) c') (hk:Avn k body=J)
  (hdr:∀(a:Act) (w:World) (Q:Exit->Act->World->Prop),(∀v,Q .normal { a with defers:={ target:=.fn fd #[],args:=#[v] }::a.defers } w)->(dOf k body).wp P Q a w)
  (hinv:∀v w,(invoke (.fn fd #[]) #[v]).run P w=.ok (.enter gd #[v]) w) (hcd:∀v w,CallsD P gd #[v] .returning w λe u w'=>e=.returned (.tuple #[])/\u=.returning/\w'=w)
  (hF:∀x y,e.F x=C y->BQ cf fn.ntmps drawn lp kl jn 0 (noD k body) (e.I.mk' x) _ (λp=>GD e.E p.1 p.2)=C y):Ff P G g e:=by
 have hl0:∀(j:Nat) c',(AQ (noD k body))[j]?=C c'->aK P G fn.ntmps (lp (0+j)) c':=λj c' hk=>by rw[k_];exact hl j c' hk
 refine Anu ok hfn hname (by rw[hbody];rfl) hrs hlen (λst=>DC cfok dok (kl:=kl) (jn:=jn) (noD k body) 0 st hl0) hF λcx st st' ex args w R hnt hdf hnu hex h0 hrel hR=>?_;refine calls_of_wp_defers hfn hbody (Aj6 ok eqok cfok dok hdr hnt hnu k body hk rfl 0 _ st' ex _ w _ hl0 h0 hrel λv e' a' w' he r'=>?_);have hpost:Leaves P fn a'.tmps R a'.defers .returning w':=by
  have hd:a'.defers=[{ target:=.fn fd #[],args:=#[v] }]:=by obtain⟨_,_,r⟩:=r';have h9:a'.defers={ target:=.fn fd #[],args:=#[v] }::cx.df:=r.defers;rw[h9,hdf]
  rw[hd];refine⟨σ,fd,#[],gd,#[v],rfl,hinv v w',(hcd v w').mono λe u w2 h=>?_⟩;obtain⟨rfl,rfl,rfl⟩:=h;exact hR _ a' w2 r'
 cases ex with
 |normal=>rw[Ju he];exact hpost
 |ret=>rw[SY he];exact hpost
 |exit i=>exact absurd rfl (hex i)
end
section
variable{P:Program}{G:aD}(cx:Ctx P G){l:List (Nat×Fe G)}(hl:∀p∈l,Ff P G p.1 p.2)(jn:Nat->Option SL)(lp:Nat->V G->M (Ex×V G))
include cx hl in
theorem fkd{g gd:Nat}{fn:Func}{fd:Fn}{e:Fe G}(k:Nat)(hfn:P.funcs[g]?=some fn)
  (hdr:∀(a:Act) (w:World) (Q:Exit->Act->World->Prop),(∀v,Q .normal { a with defers:={ target:=.fn fd #[],args:=#[v] }::a.defers } w)->(dOf k (Bo fn)).wp P Q a w)
  (hinv:∀v w,(invoke (.fn fd #[]) #[v]).run P w=.ok (.enter gd #[v]) w) (hcd:∀v w,CallsD P gd #[v] .returning w λe u w'=>e=.returned (.tuple #[])/\u=.returning/\w'=w)
  (hlp:Hd (λk c=>LoopOK P G fn.ntmps (lp k) c) 0 (AQ (noD k (Bo fn)))) (hk:Avn k (Bo fn)=true:=by kernel_rfl)
  (hc : (!(fn.name == "runtime.NumGoroutine") && Nat.ble e.I.tm.length fn.ntmps) = true := by kernel_rfl) (hbody : fn.body = some (Bo fn) := by kernel_rfl) (hrs : fn.results.toList = e.rs := by rfl)
  (hF:∀x,XB (cfQ l) lp jn fn.ntmps (noD k (Bo fn)) e.I e.E x=e.F x:=by intro x;kernel_rfl):Ff P G g e:=by
 rw[e_,a5_]at hc;exact Anv cx.ok cx.eqok (Pc cx.ok hl) hfn hc.1 hbody hrs (F_ hc.2) (Va cx.ok cx.eqok (Pc cx.ok hl) (Abo l) cx.hm) (Aff hlp) hk hdr hinv hcd
  (kl:=λ_=>[]) λx y h=>(hF x).trans h
end
end Go.Ab
