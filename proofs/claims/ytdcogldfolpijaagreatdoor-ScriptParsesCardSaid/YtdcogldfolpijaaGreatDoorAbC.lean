import Derived.Test.YtdcogldfolpijaaGreatDoorAbB
import Derived.Below
import Derived.Orders
import Derived.LoopN
import Derived.Laws.StructEq
import Derived.ProofKit
import Derived.OpenShut
import Derived.Deep.Slices
import Derived.KernelRfl
import Derived.Defers
set_option linter.all false
open Option renaming some->C,none->N
open Bool renaming true->J,false->V,false_eq_true->aW
open Go.Ab renaming get->O,St->U,Out->Z,Blk->aA,Sig->aB,Spec->aC,CSh->aD,PSh->aE,LoopOK->aM,SigOK->aP
open Go.Ab.M renaming ret->aF,bind->aH,bindneed->aI,bindopt->aJ,need->aK,opt->aN,fail->aQ,bind_spec->aR
open Nat renaming beq->aG,ble->aO,one_mul->aZ,add_right_comm->bA,lt_trichotomy->bF
open Go.Ab.Cv renaming rds->aL
open Go.Ab.Ty renaming isAgg->aS
open Go.Ab.F2 renaming cons->aT
open Array renaming replicate->aU,getElem?_replicate->bB
open Go.Ab.CSh renaming give->aV
open List renaming cons_append->aX,map_cons->aY,countP_cons_of_pos->bC,getElem?_zipWith->bD,not_mem_nil->bE
namespace Go.Ab
variable{G:aB}
def Sv.cells{T:Nat→Type}:Sv T→List (Cv T)
 | .p x=>x.cells
 | .tup xs=>xs.flatMap Pv.cells
def TM{T:Nat→Type}:List (Cv T)→List Nat→List Nat
 |[],acc=>acc
 | .own n::t,acc=>bif has acc n then TM t acc else TM t (acc++[n])
 |_::t,acc=>TM t acc
def Fa:List Nat→Nat→Nat→Option Nat
 |[],_,_=>N
 |k::t,n,i=>bif aG k n then C i else Fa t n (i+1)
def OM:∀(l:List Nat) (n i m:Nat),Fa l n i=C m→i≤m∧l[m-i]?=C n
 |[],n,i,m,h=>by simp[Fa]at h
 |k::t,n,i,m,h=>by
  simp only[Fa,AN]at h;by_cases e:k=n
  ·simp[e]at h;subst h;simp[e]
  ·rw[if_neg e]at h;obtain⟨h1,h2⟩:=OM t n (i+1) m h;exact⟨ω,by rw[show m-i=(m-(i+1))+1 by omega];simpa using h2⟩
section
variable{ν ν':Nat→Option Value}{S:Nat→Prop}{h:Array Obj}{f:Nat→Option Nat}(hf:∀n m x,f n=C m→ν n=C x→ν' m=C x)
include hf
end
def Amn{ν ν':Nat→Option Value}{S:Nat→Prop}{h:Array Obj}{n m t:Nat}{l:List (G.T t)}(he:ν' m=ν n)(r:Rb G ν S h n (.row t l)):Rb G ν' S h m (.row t l):=by
 rcases r with⟨h1,h2⟩ | ⟨b,cap,c,te,h1,h2⟩
 ·exact .inl ⟨he.trans h1,h2⟩
 ·exact .inr ⟨b,cap,c,te,he.trans h1,h2⟩
def XJ (P : Program) (g : Nat) : Prop := ∃ fn, P.funcs[g]? = C fn ∧ (fn.name == "runtime.NumGoroutine") = V ∧ fn.body.isNone = V
def RI{α:Type}:∀(l:List α) (n k:Nat),O (Gh n l) k=if n≤k then l[k-n]? else N
 |[],n,k=>by simp[Gh,O]
 |x::t,n,k=>by
  simp only[Gh,O,AN,RI t (n+1) k];by_cases e:n=k
  ·subst e;simp
  ·rw[if_neg e];by_cases h:n≤k
   ·rw[if_pos h,if_pos ω,show k-n=(k-(n+1))+1 by omega];simp
   ·rw[if_neg h,if_neg ω]
end Go.Ab
namespace Go.Ab
variable{G:aB}
variable{fn: Func}{g: Nat}
def Ap9(g:Nat→Option Nat):List (Nat×Nat)→Option (List (Nat×Nat)):=BM λp=>match g p.1 with | some m=>C (m,p.2) | none=>N
def Cv.ren{T:Nat→Type}(f g:Nat→Option Nat):Cv T→Option (Cv T)
 | .own n=>match f n with | some m=>C (.own m) | none=>N
 | .ptr n off=>match g n with | some m=>C (.ptr m off) | none=>N
 | .clo k p q=>match Ap9 g p,Ap9 g q with | some p',C q'=>C (.clo k p' q') | _,_=>N
 | .np n t=>match g n with | some m=>C (.np m t) | none=>N
 | .sc v=>C (.sc v)
 | .ro t l=>C (.ro t l)
 | .rp t x o=>C (.rp t x o)
 |_=>N
def Pv.ren{T:Nat→Type}(f g:Nat→Option Nat):Pv T→Option (Pv T)
 | .one c=>match c.ren f g with | some c=>C (.one c) | none=>N
 | .agg cs=>match BM (Cv.ren f g) cs with | some cs=>C (.agg cs) | none=>N
def Sv.ren{T:Nat→Type}(f g:Nat→Option Nat):Sv T→Option (Sv T)
 | .p x=>match x.ren f g with | some x=>C (.p x) | none=>N
 | .tup xs=>match BM (Pv.ren f g) xs with | some xs=>C (.tup xs) | none=>N
def Cv.pts{T:Nat→Type}:Cv T→List Nat
 | .ptr n _=>[n]
 | .clo _ p q=>NK p++NK q
 | .np n _=>[n]
 |_=>[]
def Cv.ows{T:Nat→Type}:Cv T→List Nat
 | .own n=>[n]
 |_=>[]
def Afj:List Nat→List Nat→List Nat
 |[],acc=>acc
 |n::t,acc=>bif has acc n then Afj t acc else Afj t (acc++[n])
def RV(args:List (Pv G.T)):List Nat:=Afj (args.flatMap λp=>p.cells.flatMap Cv.pts) []
def inN(ns:List Nat)(n:Nat):Option Nat:=match Fa ns n 0 with | some i=>C (lo+i) | none=>N
def TK(ns:List Nat)(n:Nat):Option Nat:=bif aO lo n then ns[n-lo]? else N
def Wa(ns:List Nat)(n:Nat):Option Nat:=bif Nat.blt n lo&&!has ns n then C n else N
def Ae1(ns:List Nat):Option (aA G.T)→Option (aA G.T)
 |some (.cells cs)=>match BM (Cv.ren (Wa ns) (inN ns)) cs with | some cs=>C (.cells cs) | none=>N
 |_=>N
def Atb:Option (aA G.T)→Option (aA G.T)
 |some (.row t l)=>C (.row t l)
 |_=>N
def DE(ns:List Nat)(h:Nat→Option (aA G.T))(n:Nat):Option (aA G.T):=
 bif aO lo n then match ns[n-lo]? with | some m=>Ae1 ns (h m) | none=>N
 else bif has ns n then N else Atb (h n)
def NJ{T:Nat→Type}:Cv T→Bool
 | .ro _ _=>V
 | .rp _ _ _=>V
 |_=>J
def RC(G:aB):List (Nat×aA G.T)→Bool
 |[]=>J
 |(_,.row t _)::r=>G.flat t&&RC G r
 |(_,.cells _)::_=>V
def Aa1:List Nat→Bool
 |[]=>J
 |_=>V
structure Tin(α:Type) where
 x:α
 olds:List Nat
 fz:List Nat
def QL:Nat→List Nat→Bool
 |_,[]=>J
 |n,k::t=>aG k n&&QL (n+1) t
def Ms(I:aC)(h1:Nat→Option (aA G.T))(k:Nat)(args:List (Pv G.T)):Option (Tin (I.T G)):=
 bif aG args.length I.tm.length&&aG k I.hp.length&&QL lo (An I.hp)then
  match GV h1 (Gh 0 (args.map .p)) I.tm,GU h1 I.hp with
  |some a,C b=>
   bif I.tm.all (λp=>p.2.fix (An I.hp))&&I.hp.all (λp=>p.2.all (CSh.fix (An I.hp)))&&
    (Fq (Cm (a.nm++b.nm)++An I.hp)&&Rk (Cm (a.nm++b.nm))&&Fq (CH (a.nm++b.nm)++An I.hp)&&(Rr (CH (a.nm++b.nm)++An I.hp) (a.fz++b.fz)&&Wd (a.nm++b.nm) (a.sh++b.sh)))
   then C ⟨(a.x,b.x),CH (a.nm++b.nm),a.fz++b.fz⟩else N
  |_,_=>N
 else N
structure Fe(G:Sig) where
 I:Spec
 E:List (Ex×Spec)
 F:I.T G→Option (DL G E)
 rs:List ResultVar
def MG(hp:Nat→Option (aA G.T)):List Nat→Option (List (List (Cv G.T))):=BM λn=>match hp n with | some (.cells cs)=>C cs | _=>N
def EP(I:aC)(rs:List ResultVar)(p:Ex×U G):Option (Sv G.T×List (List (Cv G.T))):=match p.1 with
 | .exit _=>N
 |_=>match Jq p.2 rs,MG (O p.2.hp) (An I.hp)with
  |some s,C bl=>C (s,bl)
  |_,_=>N
def Ki:List Nat→List (List (Cv G.T))→List (Nat×aA G.T)
 |n::ns,c::cs=>(n,.cells c)::Ki ns cs
 |_,_=>[]
def Uw:List (Nat×aA G.T)→List (Nat×Option (aA G.T))
 |[]=>[]
 |(n,k)::t=>(n,C k)::Uw t
def PD(ns:List Nat)(h:Nat→Option (aA G.T))(args:List (Pv G.T)):List Nat:=args.flatMap (λp=>p.cells.flatMap Cv.ows)++ns.flatMap λn=>match h n with | some (.cells cs)=>cs.flatMap Cv.ows | _=>[]
def plC{T:Nat→Type}:Cv T→Bool
 | .sc _ | .ro _ _ | .rp _ _ _=>J
 |_=>V
def PF(hp:Nat→Option (aA G.T)):List Nat→Nat→Option (List (Nat×aA G.T))
 |[],_=>C []
 |n::t,i=>match hp n,PF hp t (i+1)with
  |some (.row u l),C r=>C ((i,.row u l)::r)
  |some (.cells cs),C r=>bif Nat.blt n lo&&cs.all plC then C ((i,.cells cs)::r)else N
  |_,_=>N
def frs{T:Nat→Type}:List (Cv T)→List Nat
 |[]=>[]
 | .ptr n _::t=>bif aO lo n then frs t else n::frs t
 |_::t=>frs t
def Ap7(ns ms:List Nat)(nm n:Nat):Option Nat:=bif aO lo n then TK ns n else Fa ms n nm
def Af7(ns:List Nat)(rd:List Nat)(nm:Nat)(olds fz:List Nat)(hp:Nat→Option (aA G.T))(s:Sv G.T)(bl:List (List (Cv G.T))):Option (Z G):=
 let ms:=TM (s.cells++bl.flatten) []++frs s.cells
 match bif Fq ms then PF hp ms nm else N,s.ren (λn=>Fa ms n nm) (Ap7 ns ms nm),BM (BM (Cv.ren (λn=>Fa ms n nm) (TK ns))) bl with
 |some Cy,C s',C bl'=>
  let flat:=Aa1 fz||((s.cells++bl.flatten).all NJ&&RC G Cy)
  C ⟨C s',IX (olds++bif flat then []else fz)++Uw (Ki ns bl'++Cy),AK Cy,rd⟩
 |_,_,_=>N
section
variable(ns:List Nat)(h h1:Nat→Option (aA G.T))(nm:Nat)(rd:List Nat)(args:List (Pv G.T))(g:Nat)
def Qb(e:Fe G)(t:Tin (e.I.T G))(p:Ex×U G):Option (Z G):=match EP e.I e.rs p with
 |some sb=>Af7 ns rd nm t.olds t.fz (O p.2.hp) sb.1 sb.2
 |none=>N
def Ui(e:Fe G)(t:Tin (e.I.T G)):M (Z G):=λ_ k=>(e.F t.x).bind λy=>DM e.E y λp=>(Qb ns nm rd e t p).bind k
def Pa:List (Nat×Fe G)→M (Z G)
 |[]=>aQ
 |p::r=>λR k=>bif aG p.1 g then match Ms p.2.I h1 ns.length args with
   |some t=>Ui ns nm rd p.2 t R k
   |none=>Pa r R k
  else Pa r R k
end
def cfP(l:List (Nat×Fe G)):Bj G:=λg args h nm=>aH (aN (BM (Pv.ren (Wa (RV args)) (inN (RV args))) args)) λargs'=>aH (aK (Fq (RV args))) λ_=>Pa (RV args) (DE (RV args) h) nm (RV args++PD (RV args) h args) args' g l
def BX(P:Program)(G:aB)(g:Nat)(e:Fe G):Prop:=XJ P g∧
 ∀(x:e.I.T G) (y:DL G e.E) (p:Ex×U G) (s:Sv G.T) (bl:List (List (Cv G.T))),e.F x=C y→DM e.E y C=C p→EP e.I e.rs p=C (s,bl)→
 ∀(ν:Nat→Option Value) (S mo:Nat→Prop) (w:World) (vals:List Value),HRel G ν S (λb=>mo b∨w.heap.size≤b) (O (e.I.mk' x).hp) w→(∀n,ν n≠N→n∈(e.I.mk' x).us)→
  vals.length=e.I.tm.length→(∀k v,O (e.I.mk' x).tm k=C v→Rs G ν S w.heap v (vals.getD k undef))→
  Calls P g vals.toArray w λr w'=>∃v ν' S',r=.returned v∧Rs G ν' S' w'.heap s v∧HRel G ν' S' (λb=>mo b∨w.heap.size≤b) (O p.2.hp) w'∧
   (∀b,S b→S' b)∧(∀b,S' b→S b∨mo b∨w.heap.size≤b)∧(∀n y,lo≤n→ν n=C y→ν' n=C y)∧
   w.heap.size≤w'.heap.size∧(∀b,b<w.heap.size→¬mo b→w'.heap[b]?=w.heap[b]?)∧(w'.os=w.os∧w'.tape=w.tape∧w'.output=w.output)
section
variable{P:Program}(ok:aP P G)(eqok:EqOK P G){cf:Bj G}(cfok:CfOK P G cf){drawn:Array Oper→U G→M (U G)}
 {lp:Nat→U G→M (Ex×U G)}{kl:Nat→List Nat}{jn:Nat→Option (List (Ex×aC))}
include ok in
theorem Aa9(hfn : P.funcs[g]? = C fn)(hname : (fn.name == "runtime.NumGoroutine") = V)(hbody : fn.body.isNone = V){e : Fe G}(hrs : fn.results.toList = e.rs)(hlen : e.I.tm.length ≤ fn.ntmps)
  {run:U G→M (Ex×U G)}(hlaw:∀st,Law (run st)) (hF:∀x y,e.F x=C y→run (e.I.mk' x) _ (λp=>EQ e.E p.1 p.2)=C y)
  (hs:∀(cx:Cx) (st st':U G) (ex:Ex) (args:Array Value) (w:World) (R:Ending→World→Prop),cx.nt=fn.ntmps→cx.df=[]→(∀n y,cx.nu0 n=C y→lo≤n)→(∀i,ex≠ .exit i)→run st _ C=C (ex,st')→
   Rel G cx st { tmps:=args++aU (fn.ntmps-args.size) undef,defers:=[] } w→(∀df (a':Act) w',Rel G { cx with df:=df } st' a' w'→∃v,(results fn a'.tmps).run P w'=.ok v w'∧R (.returned v) w')→Calls P g args w R):BX P G g e:=by
 refine⟨⟨fn,hfn,hname,hbody⟩,λx y p s bl hy hp ho ν S mo w vals hheap hused hvl hslot=>?_⟩;obtain⟨⟨ex,st0⟩,h0,h2⟩:=(hlaw (e.I.mk' x)).spec (hF x y hy)
 let cx:Cx:=⟨w,mo,S,λn=>if lo≤n then ν n else N,fn.ntmps,[]⟩
 have hnu:∀n y,cx.nu0 n=C y→lo≤n:=λn y h=>by
  simp only[cx]at h;split at h
  ·assumption
  ·cases h
 have hrel0:Rel G cx (e.I.mk' x) { tmps:=vals.toArray++aU (fn.ntmps-vals.toArray.size) undef,defers:=[] } w:=by
  refine⟨ν,S,λk t hk=>?_,hheap,hused,rfl,(by show _=fn.ntmps;simp;omega),A_ _,λ_ _ _=>rfl,⟨rfl,rfl,rfl⟩,λb hb=>.inl hb,λ_ h=>h,λn z hn=>?_⟩
  ·have:=hslot k t hk
   have e1:(vals.toArray++aU (fn.ntmps-vals.toArray.size) undef).getD k undef=vals.getD k undef:=by
    by_cases hk:k<vals.length
    ·rw[m_,Array.getElem?_append_left (by simpa using hk)];simp[hk]
    ·rw[m_,Array.getElem?_append_right (by simp;omega)];simp only[q_];rw[List.getElem?_eq_none ω];simp only[bB];split<;>rfl
   rw[e1];exact this
  ·simp only[cx]at hn;split at hn
   ·exact hn
   ·cases hn
 obtain⟨st',h3,hrel⟩:∃st',p=(ex,st')∧∀df (a':Act) w',Rel G { cx with df:=df } st0 a' w'→Rel G { cx with df:=df } st' a' w':=by have h3:p=(ex,p.2):=Prod.ext (Wg e.E y ex st0 h2 p hp) rfl;exact⟨p.2,h3,λdf a' w' r=>by obtain⟨st2,h4,h5⟩:=PG (cx:={ cx with df:=df }) hnu e.E h2 r C p hp;simp at h4;rw[h3]at h4;cases h4;exact h5⟩
 subst h3;have hres:Jq st' fn.results.toList=C s∧∀i,ex≠ .exit i:=by
  rw[hrs];unfold EP at ho;cases ex with
  |exit i=>simp at ho
  |normal=>
   simp only at ho;split at ho
   ·rename_i s1 b1 q1 q2;simp at ho;exact⟨q1.trans (z_ C ho.1),by simp⟩
   ·simp at ho
  |ret=>
   simp only at ho;split at ho
   ·rename_i s1 b1 q1 q2;simp at ho;exact⟨q1.trans (z_ C ho.1),by simp⟩
   ·simp at ho
 refine hs cx (e.I.mk' x) st0 ex vals.toArray w _ rfl rfl hnu hres.2 h0 hrel0 λdf a' w' r''=>?_;obtain⟨ν',S',r'⟩:=hrel df a' w' r'';obtain⟨v,hrun,hv⟩:=Ac7 ok r' hres.1;exact⟨v,hrun,v,ν',S',rfl,hv,r'.heap,r'.keep,r'.sub,λn z hn hz=>r'.names n z (by simp only[cx];rw[if_pos hn];exact hz),r'.size,r'.frame,r'.env⟩
include ok eqok cfok in
theorem Vb{body : Code}(hfn : P.funcs[g]? = C fn)(hname : (fn.name == "runtime.NumGoroutine") = V)(hbody : fn.body = C body){e : Fe G}(hrs : fn.results.toList = e.rs)(hlen : e.I.tm.length ≤ fn.ntmps)
  (dok:DrawOK P G fn.ntmps drawn) (hl:∀(k:Nat) c',(AH body)[k]?=C c'→aM P G fn.ntmps (lp k) c')
  (hF:∀x y,e.F x=C y→Bu cf fn.ntmps drawn lp kl jn 0 body (e.I.mk' x) _ (λp=>EQ e.E p.1 p.2)=C y):BX P G g e:=by
 have hl0:∀(k:Nat) c',(AH body)[k]?=C c'→aM P G fn.ntmps (lp (0+k)) c':=λk c' hk=>by rw[p_];exact hl k c' hk
 refine Aa9 ok hfn hname (by rw[hbody];rfl) hrs hlen (λst=>Db cfok dok (kl:=kl) (jn:=jn) body 0 st hl0) hF λcx st st' ex args w R hnt hdf hnu hex h0 hrel hR=>?_;refine calls_of_wp hfn hbody (Ej ok eqok cfok dok hnt hnu body 0 _ st' ex _ w _ hl0 h0 hrel λe' a' w' he r'=>?_);have hpost:bodyPost P fn R .ret a' w':=⟨by obtain⟨_,_,r⟩:=r';exact r.defers.trans hdf,hR cx.df a' w' r'⟩
 cases ex with
 |normal=>rw[Ht he];exact hpost
 |ret=>rw[NU he];exact hpost
 |exit i=>exact absurd rfl (hex i)
end
end Go.Ab
namespace Go.Ab
variable{G:aB}
variable{vs:List Value}{v:Value}
section
variable{ν ν1:Nat→Option Value}{S:Nat→Prop}{h:Array Obj}{f g:Nat→Option Nat}
def Wb(hg:∀n m x,g n=C m→ν n=C x→ν1 m=C x){p:Nat×Nat}{m:Nat}(hm:g p.1=C m)(r:RPtr ν p v):RPtr ν1 (m,p.2) v:=by obtain⟨b,h1,h2⟩:=r;exact⟨b,hg _ _ _ hm h1,h2⟩
def YW(hg:∀n m x,g n=C m→ν n=C x→ν1 m=C x){p p':List (Nat×Nat)}(hp:Ap9 g p=C p')(r:F2 (RPtr ν) p vs):F2 (RPtr ν1) p' vs:=by
 obtain⟨h1,h2⟩:=BB _ _ hp;refine⟨by rw[h1];exact r.1,λi x y hx hy=>?_⟩;have hi:i<p.length:=by have:=(a_.1 hx).1;omega
 obtain⟨z,hz,hfz⟩:=h2 i _ (f_ hi);rw[hx]at hz;cases hz;split at hfz
 ·rename_i m hm;cases hfz;exact Wb hg hm (r.2 i _ y (f_ hi) hy)
 ·cases hfz
variable(hf:∀n m x,f n=C m→ν n=C x→ν1 m=C x)(hg:∀n m x,g n=C m→ν n=C x→ν1 m=C x)
include hf hg
theorem Amp{c c':Cv G.T}(hc:c.ren f g=C c')(r:Rc G ν S h c v):Rc G ν1 S h c' v:=by
 cases c with
 |own n=>
  simp only[Cv.ren]at hc;split at hc
  ·rename_i m hm;cases hc;obtain⟨a,len,cap,h1,h2⟩:=r;exact⟨a,len,cap,hf n m _ hm h1,h2⟩
  ·cases hc
 |ptr n off=>
  simp only[Cv.ren]at hc;split at hc
  ·rename_i m hm;cases hc;exact Wb hg (p:=(n,off)) hm r
  ·cases hc
 |clo k p q=>
  simp only[Cv.ren]at hc;split at hc
  ·rename_i p' q' hp hq;cases hc;obtain⟨vp,vq,h1,h2,h3⟩:=r;exact⟨vp,vq,h1,YW hg hp h2,YW hg hq h3⟩
  ·cases hc
 |np n t=>
  simp only[Cv.ren]at hc;split at hc
  ·rename_i m hm;cases hc;exact r.imp (λh=>h) (Wb hg (p:=(n,0)) hm)
  ·cases hc
 |sc v=>cases hc;exact r
 |ro t l=>cases hc;exact r
 |rp t x o=>cases hc;exact r
 |pd _ _ _ _ _=>cases hc
 |pr _ _ _ _=>cases hc
 |sa _ _ _=>cases hc
omit hf hg in
theorem Adv{f g:Nat→Option Nat}{cs cs':List (Cv G.T)}(hc:BM (Cv.ren f g) cs=C cs'){m t:Nat}(hm:Cv.np m t∈cs'):∃m0,Cv.np m0 t∈cs∧g m0=C m:=by
 obtain⟨m1,m2⟩:=BB _ _ hc;obtain⟨i,hi⟩:=a4_.1 hm;have hi':i<cs.length:=by have:=(a_.1 hi).1;omega
 obtain⟨z,hz,hfz⟩:=m2 i _ (f_ hi');rw[hi]at hz;cases hz;have hmem:cs[i]∈cs:=a8_ hi';generalize cs[i]=c at hfz hmem;cases c with
 |np n tt=>
  simp only[Cv.ren]at hfz;split at hfz
  ·rename_i q hq;cases hfz;exact⟨n,hmem,hq⟩
  ·cases hfz
 |own n=>simp only[Cv.ren]at hfz;split at hfz<;>cases hfz
 |ptr n off=>simp only[Cv.ren]at hfz;split at hfz<;>cases hfz
 |clo k p q=>simp only[Cv.ren]at hfz;split at hfz<;>cases hfz
 |sc v=>cases hfz
 |ro t l=>cases hfz
 |rp t x o=>cases hfz
 |pd _ _ _ _ _=>cases hfz
 |pr _ _ _ _=>cases hfz
 |sa _ _ _=>cases hfz
theorem Yo{cs cs':List (Cv G.T)}(hc:BM (Cv.ren f g) cs=C cs')(r:F2 (Rc G ν S h) cs vs):F2 (Rc G ν1 S h) cs' vs:=by
 obtain⟨m1,m2⟩:=BB _ _ hc;refine⟨by rw[m1];exact r.1,λi x y hx hy=>?_⟩;have hi:i<cs.length:=by have:=(a_.1 hx).1;omega
 obtain⟨z,hz,hfz⟩:=m2 i _ (f_ hi);rw[hx]at hz;cases hz;exact Amp hf hg hfz (r.2 i _ y (f_ hi) hy)
theorem Amq{x x':Pv G.T}(hc:x.ren f g=C x')(r:Rp G ν S h x v):Rp G ν1 S h x' v:=by
 cases r with
 |one c v hrc=>
  simp only[Pv.ren]at hc;split at hc
  ·rename_i c' hc';cases hc;exact .one _ _ (Amp hf hg hc' hrc)
  ·cases hc
 |agg cs vs hrc=>
  simp only[Pv.ren]at hc;split at hc
  ·rename_i cs' hcs;cases hc;exact .agg _ _ (Yo hf hg hcs hrc)
  ·cases hc
theorem Ady{xs xs':List (Pv G.T)}(hc:BM (Pv.ren f g) xs=C xs')(r:F2 (Rp G ν S h) xs vs):F2 (Rp G ν1 S h) xs' vs:=by
 obtain⟨m1,m2⟩:=BB _ _ hc;refine⟨by rw[m1];exact r.1,λi x y hx hy=>?_⟩;have hi:i<xs.length:=by have:=(a_.1 hx).1;omega
 obtain⟨z,hz,hfz⟩:=m2 i _ (f_ hi);rw[hx]at hz;cases hz;exact Amq hf hg hfz (r.2 i _ y (f_ hi) hy)
theorem Ben{x x':Sv G.T}(hc:x.ren f g=C x')(r:Rs G ν S h x v):Rs G ν1 S h x' v:=by
 cases r with
 |p c v hrc=>
  simp only[Sv.ren]at hc;split at hc
  ·rename_i c' hc';cases hc;exact .p _ _ (Amq hf hg hc' hrc)
  ·cases hc
 |tup cs vs hrc=>
  simp only[Sv.ren]at hc;split at hc
  ·rename_i cs' hcs;cases hc;exact .tup _ _ (Ady hf hg hcs hrc)
  ·cases hc
end
structure TakeC(I:Spec)(nm:List (Nat×Option Nat))(fz:List Nat)(sh:List (Nat×Nat)):Prop where
 tm:I.tm.all (λp=>p.2.fix (An I.hp))=true
 hp:I.hp.all (λp=>p.2.all (CSh.fix (An I.hp)))=true
 keys:(Cm nm++An I.hp).Nodup
 low:∀n∈Cm nm,n<lo
 olds:(CH nm++An I.hp).Nodup
 disj:∀n∈CH nm++An I.hp,n∉fz
 shr:∀p∈sh,(p.1,some p.2)∈nm
def Amx{I:aC}{h1:Nat→Option (aA G.T)}{tm:List (Nat×Sv G.T)}{a:Tk (TmT G I.tm)}{b:Tk (HpT G I.hp)}(hta:GV h1 tm I.tm=C a)(htb:GU h1 I.hp=C b)
  (hc:TakeC I (a.nm++b.nm) (a.fz++b.fz) (a.sh++b.sh)) {ν:Nat→Option Value}{S B:Nat→Prop}{w:World}(hr:HRel G ν S B h1 w) {f:Nat→Value}(hs:∀k s,O tm k=C s→Rs G ν S w.heap s (f k)) :
  ∃ν' S',(∀k v,O (I.mk' (a.x,b.x)).tm k=C v→Rs G ν' S' w.heap v (f k))∧HRel G ν' S' B (O (I.mk' (a.x,b.x)).hp) w∧(∀n,ν' n≠N→n∈(I.mk' (a.x,b.x)).us)∧
   (∀n∈An I.hp,ν' n=ν n∧∃cs,h1 n=C (.cells cs))∧(∀c,S' c↔S c∨∃n∈a.fz++b.fz,h1 n≠N∧∃y,ν n=C y∧At y=C c)∧
   (∀n y c,O (I.mk' (a.x,b.x)).hp n≠N→ν' n=C y→At y=C c→∃m,ν m=C y∧h1 m≠N∧(m∈CH (a.nm++b.nm)∨m∈An I.hp))∧
   (∀n∈CH (a.nm++b.nm),h1 n≠N):=by
 generalize hρ:a.nm++b.nm=ρ at hc⊢;generalize hfz:a.fz++b.fz=fz at hc⊢;generalize hsh:a.sh++b.sh=sh at hc;have d3:=List.nodup_append.1 hc.keys;have d5:=List.nodup_append.1 hc.olds
 let ν':Nat→Option Value:=λn=>match O ρ n with
  |some (C m)=>ν m
  |some N=>C (.slice N 0 0)
  |none=>if n∈An I.hp then ν n else N
 let S':Nat→Prop:=λc=>S c∨∃n∈fz,h1 n≠N∧∃y,ν n=C y∧At y=C c
 have hown:∀p∈ρ,ν' p.1=match p.2 with | some n=>ν n | none=>C (.slice N 0 0):=by intro p hp;simp only[ν',Ads d3.1 hp];cases p.2<;>rfl
 have hno:∀n,n∉Cm ρ→O ρ n=N:=by
  intro n hn;cases hg:O ρ n with
  |none=>rfl
  |some o=>exact absurd (MM (HK hg)) hn
 have hkeep:∀n∈An I.hp,ν' n=ν n:=by
  intro n hn
  have:O ρ n=N:=hno n λhm=>d3.2.2 n hm n hn rfl
  simp only[ν',this];rw[if_pos hn]
 have rn:Ren ν ν' S S' h1 (An I.hp) ρ fz sh:=⟨hown,hkeep,λn hn hh y c hy hb=>.inr ⟨n,hn,hh,y,hy,hb⟩,λc hb=>.inl hb,λp hp=>hown _ (hc.shr p hp)⟩
 rw[← hρ,← hfz,← hsh]at rn;obtain⟨g1,g2⟩:=OX hr hs I.tm a hta hc.tm rn.left;obtain⟨g3,g4,g5,g6⟩:=OW hr I.hp b htb (λ_ h=>h) hc.hp rn.right;have hkeys:AK (JH I.tm a.x++(NC I.hp b.x++Fp I.hp b.x))=Cm ρ++An I.hp:=by rw[Et,Et,g2.2.1,g6.2.1,g4,← hρ,OO,L_]
 have holds:∀m n,(n,C m)∈ρ→h1 m≠N:=by
  intro m n ho;rw[← hρ]at ho;rcases D_.1 ho with ho | ho
  ·exact g2.2.2 _ ho m rfl
  ·exact g6.2.2 _ ho m rfl
 have hsrc:∀n y c,O (JH I.tm a.x++(NC I.hp b.x++Fp I.hp b.x)) n≠N→ν' n=C y→At y=C c→
   ∃m,ν m=C y∧h1 m≠N∧((n,C m)∈ρ∨(n∈An I.hp∧m=n)):=by
  intro n y c hn hy hb;obtain⟨k,hk⟩:=Option.ne_none_iff_exists'.1 hn;have hm:=PC (HK hk);rw[hkeys]at hm;rcases D_.1 hm with hm | hm
  ·obtain⟨o,ho⟩:=YJ hm;have h1':=hown _ ho;simp only at h1';cases o with
   |none=>rw[hy]at h1';simp at h1';subst h1';simp[At]at hb
   |some m=>exact⟨m,by rw[← hy,h1'],holds m n ho,.inl ho⟩
  ·refine⟨n,by rw[← hkeep n hm];exact hy,?_,.inr ⟨hm,rfl⟩⟩;obtain⟨cs,hcs⟩:=g5 n hm;rw[hcs];simp
 refine⟨ν',S',g1,⟨λn k hk=>?_,λn m y z c h1 h2 h3 h4 h5 h6=>?_,λn y c h1 h2 h3=>?_,λc hb=>?_,hr.gl.mono (λ_ h=>.inl h) λ_ _=>rfl⟩,λn hn=>?_,λn hn=>⟨hkeep n hn,g5 n hn⟩,λ_=>Iff.rfl,λn y c hn hy hb=>?_,λn hn=>?_⟩
 ·have hm:=HK hk;rcases D_.1 hm with hm | hm
  ·exact g2.1 _ hm
  ·rcases D_.1 hm with hm | hm
   ·exact g6.1 _ hm
   ·exact g3 _ hm
 ·obtain⟨n1,q1,q2,q3⟩:=hsrc n y c h1 h3 h5;obtain⟨n2,p1,p2,p3⟩:=hsrc m z c h2 h4 h6;have e:=hr.apart n1 n2 y z c q2 p2 q1 p1 h5 h6;subst e;rcases q3 with q3 | ⟨q3,q4⟩<;>rcases p3 with p3 | ⟨p3,p4⟩
  ·exact Abw d5.1 q3 p3
  ·exact absurd rfl (d5.2.2 n1 (FU q3) n1 (by rw[p4];exact p3))
  ·exact absurd rfl (d5.2.2 n1 (FU p3) n1 (by rw[q4];exact q3))
  ·exact q4.symm.trans p4
 ·obtain⟨n1,q1,q2,q3⟩:=hsrc n y c h1 h2 h3;obtain⟨o1,o2⟩:=hr.own n1 y c q2 q1 h3;refine⟨?_,o2⟩;rintro(hS | ⟨m,hm,hmh,z,hz,hbz⟩)
  ·exact o1 hS
  ·have e:=hr.apart n1 m y z c q2 hmh q1 hz h3 hbz;subst e;refine hc.disj n1 (D_.2 ?_) hm;rcases q3 with q3 | ⟨q3,q4⟩
   ·exact .inl (FU q3)
   ·exact .inr (by rw[q4];exact q3)
 ·rcases hb with hb | ⟨m,hm,hmh,z,hz,hbz⟩
  ·exact hr.stay c hb
  ·exact hr.lt hmh hz hbz
 ·show n∈AK _++I.us;rw[hkeys];cases hg:O ρ n with
  |some o=>simp[MM (HK hg)]
  |none=>
   simp only[ν',hg]at hn;by_cases hc:n∈An I.hp
   ·simp[hc]
   ·rw[if_neg hc]at hn;simp at hn
 ·obtain⟨m,q1,q2,q3⟩:=hsrc n y c hn hy hb;refine⟨m,q1,q2,?_⟩;rcases q3 with q3 | ⟨q3,q4⟩
  ·exact .inl (FU q3)
  ·exact .inr (by rw[q4];exact q3)
 ·have:∃m,(m,C n)∈ρ:=by
   clear hown hno hkeep rn hkeys hsrc d3 d5 g1 g2 g3 g4 g5 g6 hc holds hρ;induction ρ with
   |nil=>simp[CH]at hn
   |cons p t ih=>
    obtain⟨k,o⟩:=p;cases o with
    |none=>simp only[CH]at hn;obtain⟨m,hm⟩:=ih hn;exact⟨m,by simp[hm]⟩
    |some j=>
     simp only[CH,y_]at hn;rcases hn with rfl | hn
     ·exact⟨k,by simp⟩
     ·obtain⟨m,hm⟩:=ih hn;exact⟨m,by simp[hm]⟩
  obtain⟨m,hm⟩:=this;exact holds n m hm
end Go.Ab
namespace Go.Ab
variable{G:aB}
variable{ν:Nat→Option Value}{ns:List Nat}{h:Array Obj}{v x:Value}{out:Z G}{n nm:Nat}
def UV(h:Nat→Option (aA G.T)):∀(d e:List (Nat×Option (aA G.T))),AJ h (d++e)=AJ (AJ h d) e
 |[],e=>rfl
 |p::d,e=>by obtain⟨n,k⟩:=p;simp only[aX,AJ];exact UV _ d e
def Yt:∀(r:List (Nat×aA G.T)) (h:Nat→Option (aA G.T)) (n:Nat),(AK r).Nodup→AJ h (Uw r) n=match O r n with | some k=>C k | none=>h n
 |[],h,n,_=>rfl
 |(m,k)::t,h,n,hn=>by
  simp only[AK,List.nodup_cons]at hn;simp only[Uw,AJ,Yt t _ n hn.2,O,AN];by_cases e:m=n
  ·subst e;rw[if_pos rfl];cases hg:O t m with
   |none=>simp
   |some k'=>exact absurd (PC (HK hg)) hn.1
  ·rw[if_neg e];cases O t n with
   |none=>simp[e]
   |some k'=>simp[e]
def WX{α:Type}:∀(a b:List (Nat×α)) (n:Nat),O (a++b) n=match O a n with | some k=>C k | none=>O b n
 |[],_,_=>rfl
 |(m,k)::t,b,n=>by simp only[aX,O,AN,WX t b n];by_cases e:m=n<;>simp[e]
def Abc:∀(ns:List Nat) (cs:List (List (Cv G.T))) (n:Nat) (k:aA G.T),O (Ki ns cs) n=C k→∃(i:Nat) (c:List (Cv G.T)),ns[i]?=C n∧cs[i]?=C c∧k=.cells c
 |[],_,n,k,h=>by simp[Ki,O]at h
 |_::_,[],n,k,h=>by simp[Ki,O]at h
 |m::ns,c::cs,n,k,h=>by
  simp only[Ki,O,AN]at h;by_cases e:m=n
  ·rw[if_pos e]at h;cases h;exact⟨0,c,by simp[e],rfl,rfl⟩
  ·rw[if_neg e]at h;obtain⟨i,c',h1,h2,h3⟩:=Abc ns cs n k h;exact⟨i+1,c',by simpa using h1,by simpa using h2,h3⟩
def TD:∀(ns:List Nat) (cs:List (List (Cv G.T))),cs.length=ns.length→AK (Ki ns cs)=ns
 |[],[],_=>rfl
 |[],_::_,h=>by simp at h
 |_::_,[],h=>by simp at h
 |m::ns,c::cs,h=>by simp only[Ki,AK,TD ns cs (by simpa using h)]
def okK(n:Nat):aA G.T→Prop
 | .row _ _=>True
 | .cells cs=>n<lo∧∀c∈cs,plC c=J
def Xu{hp:Nat→Option (aA G.T)}:∀(l:List Nat) (i:Nat) (r:List (Nat×aA G.T)),PF hp l i=C r→(∀n,n∈AK r↔i≤n∧n<i+l.length)∧(AK r).Nodup∧
  ∀j m,l[j]?=C m→∃k,hp m=C k∧O r (i+j)=C k∧okK m k
 |[],i,r,h=>by simp[PF]at h;subst h;exact⟨λn=>by simp[AK];try omega,by simp[AK],λj m hm=>by simp at hm⟩
 |m::t,i,r,h=>by
  have key:∃k r',r=(i,k)::r'∧hp m=C k∧PF hp t (i+1)=C r'∧okK m k:=by
   simp only[PF]at h;split at h
   ·rename_i u l r' hn hr;cases h;exact⟨_,_,rfl,hn,hr,trivial⟩
   ·rename_i cs r' hn hr;cases hb:(Nat.blt m lo&&cs.all plC)with
    |false=>rw[hb]at h;cases h
    |true=>rw[hb]at h;cases h;rw[b_]at hb;exact⟨_,_,rfl,hn,hr,(by have:=hb.1;simpa using this),F_.1 hb.2⟩
   ·cases h
  obtain⟨k,r',rfl,hn,hr,hk⟩:=key;obtain⟨h1,h2,h3⟩:=Xu t (i+1) r' hr;refine⟨λn=>?_,?_,λj m' hm=>?_⟩
  ·simp only[AK,y_,h1,g_];omega
  ·simp only[AK,List.nodup_cons];exact⟨λhm=>by have:=(h1 i).1 hm;omega,h2⟩
  ·cases j with
   |zero=>simp at hm;subst hm;exact⟨k,hn,by simp[O],hk⟩
   |succ j=>obtain⟨k',q1,q2,q3⟩:=h3 j m' (by simpa using hm);refine⟨k',q1,?_,q3⟩;simp only[O,AN];rw[if_neg ω,show i+(j+1)=i+1+j by omega];exact q2
def At7{ν':Nat→Option Value}{S:Nat→Prop}{m:Nat}{k:aA G.T}(hk:okK n k)(he:ν' m=ν n)(r:Rb G ν S h n k):Rb G ν' S h m k:=by
 cases k with
 |row t l=>exact Amn he r
 |cells cs=>
  obtain⟨b,c,te,q1,q2,q3,q4⟩:=r;refine⟨b,c,te,he.trans q1,q2,⟨q3.1,λi x y hx hy=>?_⟩,λp t hm=>?_⟩
  ·have hc:=hk.2 x (l_ hx)
   have:=q3.2 i x y hx hy
   cases x<;>first | exact this | (simp[plC]at hc)
  ·have:=hk.2 _ hm
   simp[plC]at this
def WU:∀(r:List (Nat×aA G.T)) (n:Nat) (k:aA G.T),RC G r=J→O r n=C k→∃t l,k=.row t l∧G.flat t=J
 |[],n,k,_,h=>by simp[O]at h
 |(m,.cells cs)::t,n,k,h,_=>by simp[RC]at h
 |(m,.row u l)::t,n,k,h,hg=>by
  simp only[RC,b_]at h;simp only[O,AN]at hg;by_cases e:m=n
  ·rw[if_pos e]at hg;cases hg;exact⟨u,l,rfl,h.1⟩
  ·rw[if_neg e]at hg;exact WU t n k h.2 hg
def Yn{S S':Nat→Prop}{c:Cv G.T}(hf:NJ c=J)(r:Rc G ν S h c v):Rc G ν S' h c v:=by
 cases c with
 |sc v0=>
  have r':Rd G S h (.sc v0) v:=r;cases r' with
  |sc _ hsc=>exact Rd.sc _ hsc
 |ro t l=>simp[NJ]at hf
 |rp t x o=>simp[NJ]at hf
 |ptr _ _=>exact r
 |pd _ _ _ _ _=>exact r
 |pr _ _ _ _=>exact r
 |own _=>exact r
 |clo _ _ _=>exact r
 |np _ _=>exact r
 |sa _ _ _=>exact r
def Adx{S S':Nat→Prop}{x:Pv G.T}(hf:∀c∈x.cells,NJ c=J)(r:Rp G ν S h x v):Rp G ν S' h x v:=by
 cases r with
 |one c v hc=>exact .one _ _ (Yn (hf c (by simp[Pv.cells])) hc)
 |agg cs vs hc=>exact .agg _ _ ⟨hc.1,λi a b ha hb=>Yn (hf a (l_ ha)) (hc.2 i a b ha hb)⟩
def Adz{S S':Nat→Prop}{x:Sv G.T}(hf:∀c∈x.cells,NJ c=J)(r:Rs G ν S h x v):Rs G ν S' h x v:=by
 cases r with
 |p x v hc=>exact .p _ _ (Adx hf hc)
 |tup xs vs hc=>exact .tup _ _ ⟨hc.1,λi a b ha hb=>Adx (λc hm=>hf c (c9_.2 ⟨a,l_ ha,hm⟩)) (hc.2 i a b ha hb)⟩
def IT{a b:Nat}:aO a b=J↔a≤b:=by simp
def Qg:∀{n:Nat}{l:List Nat},QL n l=J→∀i k,l[i]?=C k→k=n+i
 |n,[],_,i,k,h=>by simp at h
 |n,m::t,h,i,k,hk=>by
  simp only[QL,b_,Ap]at h;cases i with
  |zero=>simp at hk;omega
  |succ i=>have:=Qg h.2 i k (by simpa using hk);omega
def Ahs{I:aC}{h1:Nat→Option (aA G.T)}{k:Nat}{args:List (Pv G.T)}{t:Tin (I.T G)}(h:Ms I h1 k args=C t) :
  args.length=I.tm.length∧(An I.hp).length=k∧(∀i n,(An I.hp)[i]?=C n→n=lo+i)∧∃a b,GV h1 (Gh 0 (args.map .p)) I.tm=C a∧GU h1 I.hp=C b∧TakeC I (a.nm++b.nm) (a.fz++b.fz) (a.sh++b.sh)∧t=⟨(a.x,b.x),CH (a.nm++b.nm),a.fz++b.fz⟩:=by
 unfold Ms at h;have hl:∀l:List (Nat×List aD),(An l).length=l.length:=by intro l;induction l with | nil=>rfl | cons p t ih=>simp[An,ih]
 cases hb:aG args.length I.tm.length&&aG k I.hp.length&&QL lo (An I.hp)with
 |false=>rw[hb]at h;cases h
 |true=>
  rw[hb]at h;simp only[b_,Ap]at hb;obtain⟨hb,c7⟩:=hb;simp only[e_]at h;split at h
  ·rename_i a b ha hb';generalize hc:(I.tm.all (λp=>p.2.fix (An I.hp))&&I.hp.all (λp=>p.2.all (CSh.fix (An I.hp)))&&
    (Fq (Cm (a.nm++b.nm)++An I.hp)&&Rk (Cm (a.nm++b.nm))&&Fq (CH (a.nm++b.nm)++An I.hp)&&(Rr (CH (a.nm++b.nm)++An I.hp) (a.fz++b.fz)&&Wd (a.nm++b.nm) (a.sh++b.sh))))=c at h
   cases c with
   |false=>cases h
   |true=>cases h;simp only[b_]at hc;obtain⟨⟨c1,c2⟩,⟨⟨c3,c4⟩,c5⟩,c6,c8⟩:=hc;exact⟨hb.1,by rw[hl];exact hb.2.symm,λi n=>Qg c7 i n,a,b,ha,hb',⟨c1,c2,Ge c3,Rl c4,Ge c5,Rt c6,TV c8⟩,rfl⟩
  ·cases h
def Al7(ns:List Nat)(nm:Nat)(rd:List Nat)(e:Fe G)(t:Tin (e.I.T G)):Law (Ui ns nm rd e t):=by
 intro R k;unfold Ui;cases e.F t.x with
 |none=>rfl
 |some y=>
  show DM e.E y (λp=>(Qb ns nm rd e t p).bind k)=(DM e.E y (λp=>(Qb ns nm rd e t p).bind C)).bind k;rw[Km,Km e.E y (λp=>(Qb ns nm rd e t p).bind C)];cases DM e.E y C with
  |none=>rfl
  |some p=>show(Qb ns nm rd e t p).bind k=((Qb ns nm rd e t p).bind C).bind k;cases Qb ns nm rd e t p<;>rfl
def WJ{rd:List Nat}{e:Fe G}{t:Tin (e.I.T G)}(h:Ui ns nm rd e t _ C=C out):
  ∃y p s bl,e.F t.x=C y∧DM e.E y C=C p∧EP e.I e.rs p=C (s,bl)∧Af7 ns rd nm t.olds t.fz (O p.2.hp) s bl=C out:=by
 unfold Ui at h;cases hy:e.F t.x with
 |none=>rw[hy]at h;cases h
 |some y=>
  rw[hy]at h;have h:DM e.E y (λp=>(Qb ns nm rd e t p).bind C)=C out:=h;rw[Km]at h;cases hp:DM e.E y C with
  |none=>rw[hp]at h;cases h
  |some p=>
   rw[hp]at h;have h:(Qb ns nm rd e t p).bind C=C out:=h;unfold Qb at h;cases ho:EP e.I e.rs p with
   |none=>rw[ho]at h;cases h
   |some sb=>rw[ho]at h;simp only[Option.bind_fun_some]at h;exact⟨y,p,sb.1,sb.2,rfl,hp,ho,h⟩
def VT(ns:List Nat)(h1:Nat→Option (aA G.T))(nm:Nat)(rd:List Nat)(args:List (Pv G.T))(g:Nat):∀l,Law (Pa ns h1 nm rd args g l)
 |[]=>Ah
 |p::r=>by
  intro R k;have ih:=VT ns h1 nm rd args g r R k;simp only[Pa];cases aG p.1 g with
  |false=>exact ih
  |true=>
   simp only[e_];cases Ms p.2.I h1 ns.length args with
   |none=>exact ih
   |some t=>exact Al7 ns nm rd p.2 t R k
def PH{ns:List Nat}{h1:Nat→Option (aA G.T)}{nm:Nat}{rd:List Nat}{args:List (Pv G.T)}{g:Nat}:∀{l:List (Nat×Fe G)}{out:Z G},Pa ns h1 nm rd args g l _ C=C out→
  ∃p∈l,p.1=g∧∃t,Ms p.2.I h1 ns.length args=C t∧Ui ns nm rd p.2 t _ C=C out
 |[],out,h=>by simp[Pa,aQ]at h
 |p::r,out,h=>by
  simp only[Pa]at h;cases hb:aG p.1 g with
  |false=>rw[hb]at h;obtain⟨q,hq,h2⟩:=PH (l:=r) h;exact⟨q,by simp[hq],h2⟩
  |true=>
   rw[hb]at h;simp only[e_]at h;split at h
   ·rename_i t ht;exact⟨p,by simp,Ap.1 hb,t,ht,h⟩
   ·obtain⟨q,hq,h2⟩:=PH (l:=r) h;exact⟨q,by simp[hq],h2⟩
def YA{rd:List Nat}{olds fz:List Nat}{hp:Nat→Option (aA G.T)}{s:Sv G.T}{bl:List (List (Cv G.T))}(h:Af7 ns rd nm olds fz hp s bl=C out):
  ∃ms Cy s' bl',PF hp ms nm=C Cy∧s.ren (λn=>Fa ms n nm) (Ap7 ns ms nm)=C s'∧BM (BM (Cv.ren (λn=>Fa ms n nm) (TK ns))) bl=C bl'∧ms.Nodup∧
   ∃fz',out=⟨C s',IX (olds++fz')++Uw (Ki ns bl'++Cy),AK Cy,rd⟩∧(fz'=fz∨(fz'=[]∧(∀c∈s.cells++bl.flatten,NJ c=J)∧RC G Cy=J)∨fz=[])∧(∀n∈fz',n∈fz):=by
 unfold Af7 at h;simp only at h;split at h
 ·rename_i Cy s' bl' h1 h2 h3;generalize hms:TM (s.cells++bl.flatten) []++frs s.cells=ms at h1 h2 h3 h;have hnd:Fq ms=J∧PF hp ms nm=C Cy:=by
   cases hb:Fq ms with
   |false=>rw[hb]at h1;cases h1
   |true=>rw[hb]at h1;exact⟨rfl,h1⟩
  refine⟨_,Cy,s',bl',hnd.2,h2,h3,Ge hnd.1,_,(n_ h).symm,?_⟩;cases hfl:(Aa1 fz||((s.cells++bl.flatten).all NJ&&RC G Cy))with
  |false=>exact⟨.inl rfl,λn hn=>hn⟩
  |true=>
   refine⟨.inr ?_,λn hn=>by simp at hn⟩;simp only[b9_,b_]at hfl;rcases hfl with hfl | ⟨h8,h9⟩
   ·exact .inr (by cases fz with | nil=>rfl | cons a t=>simp[Aa1]at hfl)
   ·exact .inl ⟨rfl,F_.1 h8,h9⟩
 ·cases h
def Abe{m:Nat}(h:inN ns n=C m):lo≤m∧ns[m-lo]?=C n:=by
 unfold inN at h;split at h
 ·rename_i i hi;cases h;obtain⟨_,h2⟩:=OM ns n 0 i hi;exact⟨ω,by rw[U_];simpa using h2⟩
 ·cases h
def YV{m:Nat}(h:Wa ns n=C m):m=n∧n<lo∧n∉ns:=by
 unfold Wa at h;cases hb:(Nat.blt n lo&&!has ns n)with
 |false=>rw[hb]at h;cases h
 |true=>rw[hb]at h;simp only[b_,c1_,W_]at hb;cases h;exact⟨rfl,hb.1,λhm=>by rw[(Df ns n).2 hm]at hb;simp at hb⟩
def YR{m:Nat}(h:TK ns n=C m):lo≤n∧ns[n-lo]?=C m:=by
 unfold TK at h;cases hb:aO lo n with
 |false=>rw[hb]at h;cases h
 |true=>rw[hb]at h;exact⟨IT.1 hb,h⟩
def Me(ns:List Nat)(ν:Nat→Option Value)(n:Nat):Option Value:=if lo≤n then match ns[n-lo]? with | some m=>ν m | none=>N else if n∈ns then N else ν n
def Adt{m:Nat}(h:inN ns n=C m)(hx:ν n=C x):Me ns ν m=C x:=by obtain⟨h1,h2⟩:=Abe h;simp only[Me,if_pos h1,h2,hx]
def Abv{m:Nat}(h:Wa ns n=C m)(hx:ν n=C x):Me ns ν m=C x:=by obtain⟨rfl,h2,h3⟩:=YV h;simp only[Me];rw[if_neg ω,if_neg h3];exact hx
def NL{h:Nat→Option (aA G.T)}(hn:DE ns h n≠N):
  ∃m,Me ns ν n=ν m∧h m≠N∧((lo≤n∧ns[n-lo]?=C m)∨(n<lo∧m=n∧n∉ns)):=by
 unfold DE at hn;cases hb:aO lo n with
 |true=>
  have hl:=IT.1 hb;rw[hb]at hn;simp only[e_]at hn;split at hn
  ·rename_i m hm;refine⟨m,by simp only[Me,if_pos hl,hm],λe=>hn (by rw[e];rfl),.inl ⟨hl,hm⟩⟩
  ·exact absurd rfl hn
 |false=>
  have hl:n<lo:=by
   rcases Nat.lt_or_ge n lo with h | h
   ·exact h
   ·rw[IT.2 h]at hb;cases hb
  rw[hb]at hn;simp only[c_]at hn;cases hc:has ns n with
  |true=>rw[hc]at hn;exact absurd rfl hn
  |false=>
   have hni:n∉ns:=λhm=>by rw[(Df ns n).2 hm]at hc;cases hc
   rw[hc]at hn;simp only[c_]at hn;refine⟨n,by simp only[Me];rw[if_neg ω,if_neg hni],λe=>hn (by rw[e];rfl),.inr ⟨hl,rfl,hni⟩⟩
def Agg(hns:ns.Nodup){h:Nat→Option (aA G.T)}{S B:Nat→Prop}{w:World}(hr:HRel G ν S B h w):HRel G (Me ns ν) S B (DE ns h) w:=by
 refine⟨λn k hk=>?_,λn m x y b h1 h2 h3 h4 h5 h6=>?_,λn x b h1 h2 h3=>?_,hr.stay,hr.gl⟩
 ·unfold DE at hk;cases hb:aO lo n with
  |true=>
   have hl:=IT.1 hb;rw[hb]at hk;simp only[e_]at hk;split at hk
   ·rename_i m hm;unfold Ae1 at hk;split at hk
    ·rename_i cs hcs;split at hk
     ·rename_i cs' hcs';cases hk;obtain⟨b,c,te,q1,q2,q3,q4⟩:=hr.blk m _ hcs;refine⟨b,c,te,by simp only[Me,if_pos hl,hm,q1],q2,Yo (λn m x=>Abv) (λn m x=>Adt) hcs' q3,λm1 t1 hm1=>?_⟩;obtain⟨m0,r1,r2⟩:=Adv hcs' hm1;obtain⟨e1,e2⟩:=q4 m0 t1 r1;obtain⟨i1,i2⟩:=Abe r2;rw[e1,← hm]at i2;obtain⟨u1,u2⟩:=a_.1 hm;rw[hm]at i2;obtain⟨u3,u4⟩:=a_.1 i2;have hpw:=List.pairwise_iff_getElem.1 hns;refine⟨?_,e2⟩;rcases bF (m1-lo) (n-lo)with hlt | he | hlt
      ·exact absurd (u4.trans u2.symm) (hpw _ _ u3 u1 hlt)
      ·omega
      ·exact absurd (u2.trans u4.symm) (hpw _ _ u1 u3 hlt)
     ·cases hk
    ·cases hk
   ·cases hk
  |false=>
   rw[hb]at hk;simp only[c_]at hk;cases hc:has ns n with
   |true=>rw[hc]at hk;cases hk
   |false=>
    rw[hc]at hk;simp only[c_]at hk;have hl:n<lo:=by
     rcases Nat.lt_or_ge n lo with h | h
     ·exact h
     ·rw[IT.2 h]at hb;cases hb
    have hni:n∉ns:=λhm=>by rw[(Df ns n).2 hm]at hc;cases hc
    unfold Atb at hk;split at hk
    ·rename_i t l hrow;cases hk;exact Amn (by simp only[Me];rw[if_neg ω,if_neg hni]) (hr.blk n _ hrow)
    ·cases hk
 ·obtain⟨n',e1,q1,q2⟩:=NL (ν:=ν) h1;obtain⟨m',e2,p1,p2⟩:=NL (ν:=ν) h2;have e:=hr.apart n' m' x y b q1 p1 (by rw[← e1];exact h3) (by rw[← e2];exact h4) h5 h6;subst e;rcases q2 with⟨q2,q3⟩ | ⟨q2,q3,q4⟩<;>rcases p2 with⟨p2,p3⟩ | ⟨p2,p3,p4⟩
  ·obtain⟨u1,u2⟩:=a_.1 q3;obtain⟨u3,u4⟩:=a_.1 p3;have hpw:=List.pairwise_iff_getElem.1 hns;rcases bF (n-lo) (m-lo)with hlt | he | hlt
   ·exact absurd (u2.trans u4.symm) (hpw _ _ u1 u3 hlt)
   ·omega
   ·exact absurd (u4.trans u2.symm) (hpw _ _ u3 u1 hlt)
  ·subst p3;exact absurd (l_ q3) p4
  ·subst q3;exact absurd (l_ p3) q4
  ·exact q3.symm.trans p3
 ·obtain⟨n',e1,q1,q2⟩:=NL (ν:=ν) h1;exact hr.own n' x b q1 (by rw[← e1];exact h2) h3
end Go.Ab
namespace Go.Ab
variable{G:aB}{P:Program}
def Axv(ok:aP P G){l:List (Nat×Fe G)}(hT:∀p∈l,BX P G p.1 p.2):CfOK P G (cfP l):=by
 refine⟨λg args h nm=>Ac (Aw _) λ_=>Ac (Aj _) λ_=>VT _ _ _ _ _ _ _,λg args h nm out hout=>?_⟩;unfold cfP at hout;generalize hnsd:RV args=ns at hout;obtain⟨args',hargs',h1⟩:=aJ hout;obtain⟨hnd,h2⟩:=aI h1;have hns:ns.Nodup:=Ge hnd;obtain⟨⟨g',e⟩,hmem,hg,t,htake,hcall⟩:=PH h2;simp only at hg;subst hg;obtain⟨y,p,s,bl,hF,hp,ho,hfin⟩:=WJ hcall;obtain⟨hent,hok⟩:=hT _ hmem;obtain⟨hla,hlk,hkeys,a,b,hta,htb,htc,rfl⟩:=Ahs htake;obtain⟨ms,Cy,s',bl',hrows,hs',hbl',hms,fz',rfl,hfz,hfz'⟩:=YA hfin;refine⟨hent,λν S B w vals hr hB hfr hvals=>?_⟩;simp only at hfr;have hr1:=Agg hns hr;have hv1:F2 (Rp G (Me ns ν) S w.heap) args' vals:=Ady (λn m x=>Abv) (λn m x=>Adt) hargs' hvals;have hslot:∀k s,O (Gh 0 (args'.map Sv.p)) k=C s→Rs G (Me ns ν) S w.heap s (vals.getD k undef):=by
  intro k s hk;rw[RI]at hk;simp at hk;obtain⟨x,hx,rfl⟩:=hk;obtain⟨v,hv,hrp⟩:=hv1.get hx
  have:vals.getD k undef=v:=by simp[q_,hv]
  rw[this];exact .p _ _ hrp
 obtain⟨ν2,S2,hsl2,hheap2,hused2,hkeep2,hS2,hsrc2,holds2⟩:=Amx hta htb htc hr1 hslot;generalize hx0:(a.x,b.x)=x0 at hF hsl2 hheap2 hused2 hsrc2;generalize hod:CH (a.nm++b.nm)=olds at hsrc2 holds2 hfr;generalize hfd:a.fz++b.fz=fz at hS2 hfz hfz'
 let mo:Nat→Prop:=λc=>¬S2 c∧∃n z,O (e.I.mk' x0).hp n≠N∧ν2 n=C z∧At z=C c
 have hheap2':HRel G ν2 S2 (λc=>mo c∨w.heap.size≤c) (O (e.I.mk' x0).hp) w:=⟨hheap2.blk,hheap2.apart,λn z c q1 q2 q3=>⟨(hheap2.own n z c q1 q2 q3).1,.inl ⟨(hheap2.own n z c q1 q2 q3).1,n,z,q1,q2,q3⟩⟩,hheap2.stay,hheap2.gl⟩
 have hvl:vals.length=e.I.tm.length:=by rw[← hla,hv1.1]
 have hcal:∀n,DE ns h n≠N→∃m,Me ns ν n=ν m∧h m≠N∧((lo≤n∧ns[n-lo]?=C m)∨(n<lo∧m=n∧n∉ns)):=λn hn=>NL hn;have hmo:∀c,mo c→∃m z,h m≠N∧ν m=C z∧At z=C c∧(m∈olds∨m∈ns):=by
  rintro c ⟨_,n,z,q1,q2,q3⟩;obtain⟨m,p1,p2,p3⟩:=hsrc2 n z c q1 q2 q3;obtain⟨m',e1,e2,e3⟩:=hcal m p2;refine⟨m',z,e2,by rw[← e1];exact p1,q3,?_⟩;rcases e3 with⟨u1,u2⟩ | ⟨u1,u2,u3⟩
  ·exact .inr (l_ u2)
  ·rcases p3 with p3 | p3
   ·exact .inl (by rw[u2];exact p3)
   ·obtain⟨i,hi⟩:=a4_.1 p3
    have:=hkeys i m hi
    omega
 refine(hok x0 y p s bl hF hp ho ν2 S2 mo w vals hheap2' hused2 hvl hsl2).mono λr w' ⟨v,ν3,S3,hret,hval3,hheap3,hSS,hSsub,hnames,hsize,hframe,henv⟩=>?_;subst hret;obtain⟨hrk1,hrk2,hrk3⟩:=Xu ms nm Cy hrows;have hnewν:∀n,n∈AK Cy→ν n=N:=λn hn=>hfr n hn
 let ν':Nat→Option Value:=λn=>if nm≤n then match ms[n-nm]? with | some m=>ν3 m | none=>ν n else ν n
 have hν'old:∀n,n∉AK Cy→ν' n=ν n:=by
  intro n hn;simp only[ν'];by_cases hle:nm≤n
  ·rw[if_pos hle];cases hm:ms[n-nm]? with
   |none=>rfl
   |some m=>
    have:=(a_.1 hm).1
    exact absurd ((hrk1 n).2 ⟨hle,ω⟩) hn
  ·rw[if_neg hle]
 have hν'new:∀j m,ms[j]?=C m→ν' (nm+j)=ν3 m:=by intro j m hm;simp only[ν'];rw[if_pos ω,U_,hm]
 have hνold:∀n z,ν n=C z→ν' n=C z:=by intro n z hz;rw[hν'old n λhn=>by rw[hnewν n hn]at hz;cases hz];exact hz
 have hf3:∀n m z,Fa ms n nm=C m→ν3 n=C z→ν' m=C z:=by
  intro n m z hm hz;obtain⟨q1,q2⟩:=OM ms n nm m hm
  have:=hν'new (m-nm) n q2
  rw[show nm+(m-nm)=m by omega]at this;rw[this];exact hz
 have hkey:∀(i n:Nat),ns[i]?=C n→(An e.I.hp)[i]?=C (lo+i):=by
  intro i n hi;have hi':i<(An e.I.hp).length:=by rw[hlk];exact(a_.1 hi).1
  have h9:=f_ hi';rw[h9,hkeys i _ h9]
 have hptr:∀(i n:Nat),ns[i]?=C n→∃bb,ν n=C (.pointer (C ⟨bb,0,N⟩))∧ν3 (lo+i)=C (.pointer (C ⟨bb,0,N⟩))∧h n≠N∧O (e.I.mk' x0).hp (lo+i)≠N:=by
  intro i n hi;have hk:=l_ (hkey i n hi);obtain⟨k1,cs,k2⟩:=hkeep2 _ hk;obtain⟨bb,c,te,q1,_,_⟩:=hr1.blk _ _ k2;obtain⟨m,e1,e2,e3⟩:=hcal (lo+i) (by rw[k2];simp);have hm:m=n:=by
   rcases e3 with⟨_,u2⟩ | ⟨u1,_⟩
   ·rw[U_,hi]at u2;exact(n_ u2).symm
   ·omega
  subst hm;refine⟨bb,by rw[← e1];exact q1,hnames _ _ ω (by rw[k1];exact q1),e2,?_⟩;intro hno
  have:lo+i∈AK (JH e.I.tm x0.1++(NC e.I.hp x0.2++Fp e.I.hp x0.2)):=by
   have hgk:∀(l:List (Nat×List aD)) (z:HpT G l),AK (Fp l z)=An l:=by
    intro l;induction l with
    |nil=>intro _;rfl
    |cons p t ih=>intro z;simp only[Fp,AK,An,ih]
   rw[Et,Et,hgk];simp[hk]
  have hgn:∀(l:List (Nat×aA G.T)) (n:Nat),n∈AK l→O l n≠N:=by
   intro l;induction l with
   |nil=>intro n hn;simp[AK]at hn
   |cons q t ih=>
    intro n hn;simp only[AK,y_]at hn;simp only[O,AN];by_cases e:q.1=n
    ·rw[if_pos e];simp
    ·rw[if_neg e];exact ih n (hn.resolve_left (Y_ e))
  exact hgn _ _ this hno
 have hg3:∀n m z,TK ns n=C m→ν3 n=C z→ν' m=C z:=by intro n m z hm hz;obtain⟨q1,q2⟩:=YR hm;obtain⟨bb,u1,u2,_,_⟩:=hptr _ _ q2;rw[show lo+(n-lo)=n by omega,hz]at u2;cases u2;exact hνold _ _ u1
 have hblo:MG (O p.2.hp) (An e.I.hp)=C bl:=by
  unfold EP at ho;split at ho
  ·cases ho
  ·split at ho
   ·rename_i s1 b1 q1 q2;cases ho;exact q2
   ·cases ho
 obtain⟨hbl1,hbl2⟩:=BB _ _ hblo;obtain⟨hbl3,hbl4⟩:=BB _ _ hbl';have hcells:∀(i n:Nat),ns[i]?=C n→∃cs cs',bl[i]?=C cs∧bl'[i]?=C cs'∧O p.2.hp (lo+i)=C (.cells cs)∧BM (Cv.ren (λn=>Fa ms n nm) (TK ns)) cs=C cs':=by
  intro i n hi;obtain⟨cs,q1,q2⟩:=hbl2 i _ (hkey i n hi);obtain⟨cs',q3,q4⟩:=hbl4 i cs q1;refine⟨cs,cs',q1,q3,?_,q4⟩;split at q2
  ·rename_i cs1 hc;cases q2;exact hc
  ·cases q2
 have hlen':bl'.length=ns.length:=by rw[hbl3,hbl1,hlk]
 obtain⟨S',hS1,hS2',hval',hrb',hSown,hSold,hSlt⟩:∃S':Nat→Prop,(∀c,S c→S' c)∧(∀c,S' c→S c∨B c)∧Rs G ν3 S' w'.heap s v∧
   (∀n k,O p.2.hp n=C k→((∃i m,ns[i]?=C m∧n=lo+i)∨n∈ms)→Rb G ν3 S' w'.heap n k)∧
   (∀c,S' c→S3 c)∧
   (∀n z c,h n≠N→n∉olds→n∉ns→n∉fz'→ν n=C z→At z=C c→¬S' c)∧(∀c,S' c→c<w'.heap.size):=by
  have hSB:∀c,S3 c→S c∨B c:=by
   intro c hc;rcases hSsub c hc with hc | ⟨_,n,z,q1,q2,q3⟩ | hc
   ·rcases(hS2 c).1 hc with hc | ⟨n,_,hn,z,hz,hbz⟩
    ·exact .inl hc
    ·exact .inr (hr1.own n z c hn hz hbz).2
   ·exact .inr (hheap2.own n z c q1 q2 q3).2
   ·exact .inr (hB c hc)
  have hSS3:∀c,S c→S3 c:=λc hc=>hSS c ((hS2 c).2 (.inl hc));have hold3:∀n z c,h n≠N→n∉olds→n∉ns→n∉fz→ν n=C z→At z=C c→¬S3 c:=by
   intro n z c q1 q2 q3 q4 q5 q6 hc;rcases hSsub c hc with hc | hc | hc
   ·rcases(hS2 c).1 hc with hc | ⟨m,hm,hmh,z',hz',hbz'⟩
    ·exact(hr.own n z c q1 q5 q6).1 hc
    ·obtain⟨m',e1,e2,e3⟩:=hcal m hmh;have e:=hr.apart n m' z z' c q1 e2 q5 (by rw[← e1];exact hz') q6 hbz';subst e;rcases e3 with⟨u1,u2⟩ | ⟨u1,u2,u3⟩
     ·exact q3 (l_ u2)
     ·rw[u2]at q4;exact q4 hm
   ·obtain⟨m,z',p1,p2,p3,p4⟩:=hmo c hc;have e:=hr.apart n m z z' c q1 p1 q5 p2 q6 p3;subst e;exact p4.elim q2 q3
   ·have:=hr.lt q1 q5 q6;omega
  rcases hfz with rfl | ⟨rfl,hfl1,hfl2⟩ | hfz0
  ·exact⟨S3,hSS3,hSB,hval3,λn k hk _=>hheap3.blk n k hk,λ_ h=>h,hold3,hheap3.stay⟩
  ·refine⟨S,λ_ h=>h,λ_ h=>.inl h,Adz (λc hc=>hfl1 c (by simp[hc])) hval3,λn k hk hn=>?_,hSS3,λn z c q1 _ _ _ q5 q6=>(hr.own n z c q1 q5 q6).1,λc hc=>Z_ (hr.stay c hc) hsize⟩;have hrb:=hheap3.blk n k hk;rcases hn with⟨i,m,hi,rfl⟩ | hn
   ·obtain⟨cs,cs',c1,c2,c3,c4⟩:=hcells i m hi;rw[hk]at c3;cases c3;obtain⟨bb,c,te,q1,q2,q3,q4⟩:=hrb;refine⟨bb,c,te,q1,q2,⟨q3.1,λj x y hx hy=>Yn (hfl1 x ?_) (q3.2 j x y hx hy)⟩,q4⟩;exact D_.2 (.inr (List.mem_flatten.2 ⟨cs,l_ c1,l_ hx⟩))
   ·obtain⟨j,hj⟩:=a4_.1 hn;obtain⟨k0,r1,r2,_⟩:=hrk3 j n hj;rw[hk]at r1;cases r1;obtain⟨t',l2,e1,e2⟩:=WU Cy _ _ hfl2 r2;cases e1;rcases hrb with⟨g1,g2⟩ | ⟨bb,cap,c,te,g1,g2,g3,g4,g5,g6⟩
    ·exact .inl ⟨g1,g2⟩
    ·refine .inr ⟨bb,cap,c,te,g1,g2,g3,g4,λi j x cv hx hcv=>?_,g6⟩;obtain⟨uu,hu,hrd⟩:=g5 i j x cv hx hcv;refine⟨uu,hu,?_⟩;obtain⟨v0,rfl⟩:=ok.flatd _ x cv e2 (l_ hcv);cases hrd with
     |sc _ hsc=>exact .sc _ hsc
  ·subst hfz0;exact⟨S3,hSS3,hSB,hval3,λn k hk _=>hheap3.blk n k hk,λ_ h=>h,λn z c q1 q2 q3 _ q5 q6=>hold3 n z c q1 q2 q3 (by simp) q5 q6,hheap3.stay⟩
 have hnsν:∀n∈ns,n∉AK Cy:=by intro n hn hk;obtain⟨i,hi⟩:=a4_.1 hn;obtain⟨bb,u1,_⟩:=hptr i n hi;rw[hnewν n hk]at u1;cases u1
 have hnodup:(AK (Ki ns bl'++Cy)).Nodup:=by rw[Et,TD ns bl' hlen',List.nodup_append];exact⟨hns,hrk2,λx hx y hy e=>hnsν x hx (e▸hy)⟩
 let hp':Nat→Option (aA G.T):=AJ h (IX (olds++fz')++Uw (Ki ns bl'++Cy))
 have hD:∀n,hp' n=match O (Ki ns bl'++Cy) n with | some k=>C k | none=>if n∈olds++fz' then N else h n:=by
  intro n;simp only[hp'];rw[UV,Yt _ _ _ hnodup,Kl]
  try(cases O (Ki ns bl'++Cy) n<;>rfl)
 have hcase:∀n k,hp' n=C k→(∃i cs cs',ns[i]?=C n∧k=.cells cs'∧O p.2.hp (lo+i)=C (.cells cs)∧BM (Cv.ren (λn=>Fa ms n nm) (TK ns)) cs=C cs'∧ν' n=ν3 (lo+i))∨
   (∃j m,n=nm+j∧ms[j]?=C m∧okK m k∧O p.2.hp m=C k∧ν' n=ν3 m)∨(h n=C k∧n∉olds∧n∉fz'∧n∉ns∧ν' n=ν n):=by
  intro n k hk;rw[hD n,WX]at hk;cases hz:O (Ki ns bl') n with
  |some k1=>rw[hz]at hk;cases hk;obtain⟨i,c,q1,q2,rfl⟩:=Abc _ _ _ _ hz;obtain⟨cs,cs',c1,c2,c3,c4⟩:=hcells i n q1;rw[q2]at c2;cases c2;obtain⟨bb,u1,u2,_⟩:=hptr i n q1;exact .inl ⟨i,cs,c,q1,rfl,c3,c4,by rw[hνold _ _ u1,u2]⟩
  |none=>
   rw[hz]at hk;have hnn:n∉ns:=by
    intro hn;have h9:n∈AK (Ki ns bl'):=by rw[TD ns bl' hlen'];exact hn
    have hgn:∀(l:List (Nat×aA G.T)) (n:Nat),n∈AK l→O l n≠N:=by
     intro l;induction l with
     |nil=>intro n hn;simp[AK]at hn
     |cons q t ih=>
      intro n hn;simp only[AK,y_]at hn;simp only[O,AN];by_cases e:q.1=n
      ·rw[if_pos e];simp
      ·rw[if_neg e];exact ih n (hn.resolve_left (Y_ e))
    exact hgn _ _ h9 hz
   cases hrw:O Cy n with
   |some k1=>
    rw[hrw]at hk;simp only at hk;cases hk;have hm:=PC (HK hrw);obtain⟨b1,b2⟩:=(hrk1 n).1 hm;have hj:n-nm<ms.length:=ω;have hj':=f_ hj;obtain⟨k0,r1,r2,r3⟩:=hrk3 (n-nm) _ hj';rw[show nm+(n-nm)=n by omega,hrw]at r2;cases r2;refine .inr (.inl ⟨n-nm,_,ω,hj',r3,r1,?_⟩)
    have:=hν'new (n-nm) _ hj'
    rw[show nm+(n-nm)=n by omega]at this;exact this
   |none=>
    rw[hrw]at hk;simp only at hk;by_cases ho:n∈olds++fz'
    ·rw[if_pos ho]at hk;cases hk
    ·rw[if_neg ho]at hk;have hnr:n∉AK Cy:=by
      intro hm;obtain⟨b1,b2⟩:=(hrk1 n).1 hm;have hj:n-nm<ms.length:=ω;obtain⟨_,r1,r2,_⟩:=hrk3 (n-nm) _ (f_ hj);rw[show nm+(n-nm)=n by omega,hrw]at r2;cases r2
     simp only[D_,not_or]at ho;exact .inr (.inr ⟨hk,ho.1,ho.2,hnn,hν'old n hnr⟩)
 have hkeepb:∀n z c,h n≠N→n∉olds→n∉ns→ν n=C z→At z=C c→w'.heap[c]?=w.heap[c]?:=by intro n z c q1 q2 q3 q5 q6;refine hframe c (hr.lt q1 q5 q6) λhc=>?_;obtain⟨m,z',p1,p2,p3,p4⟩:=hmo c hc;have e:=hr.apart n m z z' c q1 p1 q5 p2 q6 p3;subst e;exact p4.elim q2 q3
 have hkeepS:∀c,S c→w'.heap[c]?=w.heap[c]?:=by intro c hc;refine hframe c (hr.stay c hc) λhm=>hm.1 ((hS2 c).2 (.inl hc))
 have le1:Le ν ν' S S' w.heap w'.heap:=⟨hνold,hS1,hkeepS⟩
 have hown3:∀q z c,O p.2.hp q≠N→ν3 q=C z→At z=C c→¬S' c∧B c∧∀n z',h n≠N→n∉olds→n∉ns→ν n=C z'→At z'≠C c:=by
  intro q z c q1 q2 q3;obtain⟨o1,o2⟩:=hheap3.own q z c q1 q2 q3;refine⟨λhc=>o1 (hSown c hc),?_,λn z' r1 r2 r3 r4 r5=>?_⟩
  ·rcases o2 with⟨_,n,z',u1,u2,u3⟩ | o2
   ·exact(hheap2.own n z' c u1 u2 u3).2
   ·exact hB c o2
  ·rcases o2 with o2 | o2
   ·obtain⟨m,z2,p1,p2,p3,p4⟩:=hmo c o2;have e:=hr.apart n m z' z2 c r1 p1 r4 p2 r5 p3;subst e;exact p4.elim r2 r3
   ·have:=hr.lt r1 r4 r5;omega
 have hqof:∀n,hp' n≠N→(∃q,ν' n=ν3 q∧O p.2.hp q≠N∧((∃i,ns[i]?=C n∧q=lo+i)∨(∃j,n=nm+j∧ms[j]?=C q)))∨(h n≠N∧n∉olds∧n∉fz'∧n∉ns∧ν' n=ν n):=by
  intro n hn;obtain⟨k,hk⟩:=Option.ne_none_iff_exists'.1 hn;rcases hcase n k hk with⟨i,cs,cs',q1,q2,q3,q4,q5⟩ | ⟨j,m,q1,q2,q3,q4,q5⟩ | ⟨q1,q2,q3,q4,q5⟩
  ·exact .inl ⟨lo+i,q5,by rw[q3];simp,.inl ⟨i,q1,rfl⟩⟩
  ·exact .inl ⟨m,q5,by rw[q4];simp,.inr ⟨j,q1,q2⟩⟩
  ·exact .inr ⟨by rw[q1];simp,q2,q3,q4,q5⟩
 refine⟨v,ν',S',rfl,hνold,λn hn=>?_,hS1,hS2',⟨λn k hk=>?_,λn m z z' c h1 h2 h3 h4 h5 h6=>?_,λn z c h1 h2 h3=>?_,hSlt,hr.gl.mono hS1 hkeepS⟩,λs0 hs0=>?_,hsize,λc hc hnot=>?_,henv⟩
 ·by_cases hk:n∈AK Cy
  ·exact .inr hk
  ·rw[hν'old n hk]at hn;exact .inl hn
 ·rcases hcase n k hk with⟨i,cs,cs',q1,rfl,q3,q4,q5⟩ | ⟨j,m,q1,q2,q3,q4,q5⟩ | ⟨q1,q2,q3,q4,q5⟩
  ·obtain⟨bb,c,te,r1,r2,r3,r4⟩:=hrb' _ _ q3 (.inl ⟨i,n,q1,rfl⟩);refine⟨bb,c,te,by rw[q5];exact r1,r2,Yo hf3 hg3 q4 r3,λm t hm=>?_⟩;obtain⟨m0,u1,u2⟩:=Adv q4 hm;obtain⟨e1,e2⟩:=r4 m0 t u1;obtain⟨_,o2⟩:=YR u2;rw[e1,U_,q1]at o2;exact⟨(n_ o2).symm,e2⟩
  ·exact At7 q3 q5 (hrb' _ _ q4 (.inr (l_ q2)))
  ·exact(hr.blk n k q1).mono le1 λz c hz hc=>hkeepb n z c (by rw[q1];simp) q2 q4 hz hc
 ·rcases hqof n h1 with⟨q,q1,q2,q3⟩ | ⟨q1,q2,q3,q4,q5⟩<;>rcases hqof m h2 with⟨r,r1,r2,r3⟩ | ⟨r1,r2,r3,r4,r5⟩
  ·have e:=hheap3.apart q r z z' c q2 r2 (by rw[← q1];exact h3) (by rw[← r1];exact h4) h5 h6;subst e;have hlow:∀(j:Nat) (x:Nat),ms[j]?=C x→∀(i k:Nat),ns[i]?=C k→x≠lo+i:=by
    intro j x hj i k hi e;obtain⟨k0,u1,_,u2⟩:=hrk3 j x hj;obtain⟨cs,cs',_,_,c3,_⟩:=hcells i k hi;rw[e,c3]at u1;cases u1;rw[e]at u2;exact absurd u2.1 ω
   rcases q3 with⟨i,q3,q4⟩ | ⟨j,q3,q4⟩<;>rcases r3 with⟨i',r3,r4⟩ | ⟨j',r3,r4⟩
   ·have:i=i':=ω
    subst this;rw[q3]at r3;exact n_ r3
   ·exact absurd q4 (hlow j' q r4 i n q3)
   ·exact absurd r4 (hlow j q q4 i' m r3)
   ·obtain⟨u1,u2⟩:=a_.1 q4;obtain⟨u3,u4⟩:=a_.1 r4;have hpw:=List.pairwise_iff_getElem.1 hms;rcases bF j j' with hlt | rfl | hlt
    ·exact absurd (u2.trans u4.symm) (hpw _ _ u1 u3 hlt)
    ·omega
    ·exact absurd (u4.trans u2.symm) (hpw _ _ u3 u1 hlt)
  ·exact absurd h6 ((hown3 q z c q2 (by rw[← q1];exact h3) h5).2.2 m z' r1 r2 r4 (by rw[← r5];exact h4))
  ·exact absurd h5 ((hown3 r z' c r2 (by rw[← r1];exact h4) h6).2.2 n z q1 q2 q4 (by rw[← q5];exact h3))
  ·exact hr.apart n m z z' c q1 r1 (by rw[← q5];exact h3) (by rw[← r5];exact h4) h5 h6
 ·rcases hqof n h1 with⟨q,q1,q2,q3⟩ | ⟨q1,q2,q3,q4,q5⟩
  ·obtain⟨u1,u2,_⟩:=hown3 q z c q2 (by rw[← q1];exact h2) h3;exact⟨u1,u2⟩
  ·rw[q5]at h2;exact⟨hSold n z c q1 q2 q4 q3 h2 h3,(hr.own n z c q1 h2 h3).2⟩
 ·cases hs0;refine Ben hf3 (λn m z hm hz=>?_) hs' hval';unfold Ap7 at hm;cases hb:aO lo n with
  |true=>rw[hb]at hm;exact hg3 n m z hm hz
  |false=>rw[hb]at hm;exact hf3 n m z hm hz
 ·refine hframe c hc λhm=>?_;obtain⟨m,z,p1,p2,p3,_⟩:=hmo c hm;exact hnot m z p1 p2 p3
end Go.Ab
namespace Go.Ab
variable{G:aB}
variable{x:Operand}{h:Nat→Option (aA G.T)}{c:Cv G.T}{nm n:Nat}
section
variable{ev ev':Operand→Option (Sv G.T)}
def Hc(h:ev' x=ev x):evP ev' x=evP ev x:=by unfold evP;rw[h]
def Cd(h:ev' x=ev x):evC ev' x=evC ev x:=by unfold evC;rw[h]
def Ct(h:ev' x=ev x):evI ev' x=evI ev x:=by unfold evI;rw[h]
def Alu(h:ev' x=ev x):evB ev' x=evB ev x:=by unfold evB;rw[h]
def Ml(h:ev' x=ev x):Mk ev' x=Mk ev x:=by unfold Mk;rw[h]
def NH:∀(xs:List Operand),(∀x∈xs,ev' x=ev x)→OI ev' xs=OI ev xs
 |[],_=>rfl
 |x::t,h=>by unfold OI;rw[Hc (h x (by simp)),NH t λy hy=>h y (by simp[hy])]
def Nr:∀(xs:List (Nat×Operand)),(∀x∈xs.map (·.2),ev' x=ev x)→FD ev' xs=FD ev xs
 |[],_=>rfl
 |(i,x)::t,h=>by unfold FD;rw[Hc (h x (by simp)),Nr t λy hy=>h y (by simp only[aY,y_];exact .inr hy)]
def SF{d m:Nat}{x:Option Operand}(h:∀y,x=C y→ev' y=ev y):Eb ev' d m x=Eb ev d m x:=by
 cases x with
 |none=>rfl
 |some y=>simp only[Eb];rw[Ct (h y rfl)]
def Zk(b:Builtin)(tys:List Nat)(xs:List Operand)(hx:∀x∈xs,ev' x=ev x):Aq ev' h nm b tys xs=Aq ev h nm b tys xs:=by
 unfold Aq;split
 ·unfold PU;split
  ·rw[Cd (hx _ (by simp))]
  ·rfl
  ·rw[Cd (hx _ (by simp))]
  ·rfl
 ·unfold Aew;rw[Ct (hx _ (by simp)),Ct (hx _ (by simp))]
 ·unfold Aev;rw[Ct (hx _ (by simp)),Ct (hx _ (by simp))]
 ·unfold Zv;rw[Ct (hx _ (by simp)),Ct (hx _ (by simp)),Ct (hx _ (by simp))]
 ·unfold Zu;rw[Ct (hx _ (by simp)),Ct (hx _ (by simp)),Ct (hx _ (by simp))]
 ·unfold HJ;split
  ·rw[Cd (hx _ (by simp)),Cd (hx _ (by simp))]
  ·rfl
 ·unfold Mm;split
  ·rw[Cd (hx _ (by simp)),Cd (hx _ (by simp))]
  ·rfl
 ·rfl
def Atm{cf:Bj G}(op:Op)(hx:∀x∈op.operands.toList,ev' x=ev x):act cf ev' h nm op=act cf ev h nm op:=by
 cases op
 case makeFunc fn a b=>
  cases fn
  case func f=>show Pr ev' f a.toList b.toList=Pr ev f a.toList b.toList;unfold Pr;rw[NH _ λx h=>hx x (by simp[Op.operands];left;simpa using h),NH _ λx h=>hx x (by simp[Op.operands];right;simpa using h)]
  all_goals rfl
 case call c=>
  obtain⟨callee,xs,tys⟩:=c;cases callee
  case value f=>show Lj cf ev' h nm f xs.toList=Lj cf ev h nm f xs.toList;unfold Lj;rw[Cd (hx f (by simp[Op.operands,Call.operands])),NH _ λx h=>hx x (by simp[Op.operands,Call.operands];right;simpa using h)]
  case builtin b=>exact Zk b _ _ λx h=>hx x (by simp[Op.operands,Call.operands];simpa using h)
  case invoke=>rfl
 case move x=>exact Ml (hx x (by simp[Op.operands]))
 case assign x=>exact Ml (hx x (by simp[Op.operands]))
 case pick c a b=>
  show Ps ev' c a b=Ps ev c a b;unfold Ps;rw[Alu (hx c (by simp[Op.operands]))];congr 1;funext c1;congr 1;funext c2;cases c2
  ·exact Ml (hx b (by simp[Op.operands]))
  ·exact Ml (hx a (by simp[Op.operands]))
 case alloc t=>rfl
 case box t x=>show Tg ev' nm x=Tg ev nm x;unfold Tg;rw[Hc (hx x (by simp[Op.operands]))]
 case build t ps=>show MA ev' t ps.toList=MA ev t ps.toList;unfold MA;rw[Nr _ λx h=>hx x (by simpa[Op.operands]using h)]
 case buildSlice t n ps=>show CU ev' h nm t n ps.toList=CU ev h nm t n ps.toList;unfold CU;rw[Nr _ λx h=>hx x (by simpa[Op.operands]using h)]
 case load t x=>show Ib ev' h t x=Ib ev h t x;unfold Ib;rw[Cd (hx x (by simp[Op.operands]))]
 case store t x y=>show Iu ev' h t x y=Iu ev h t x y;unfold Iu;rw[Cd (hx x (by simp[Op.operands])),Hc (hx y (by simp[Op.operands]))]
 case nilCheck x=>show Th ev' x=Th ev x;unfold Th;rw[Cd (hx x (by simp[Op.operands]))]
 case binOp op t x y u=>show Tf ev' op t x y=Tf ev op t x y;unfold Tf;rw[Hc (hx x (by simp[Op.operands])),Hc (hx y (by simp[Op.operands]))]
 case unOp op t x=>show aUn ev' op x=aUn ev op x;unfold aUn;rw[Cd (hx x (by simp[Op.operands]))]
 case convert s t x=>show Lk ev' h s t x=Lk ev h s t x;unfold Lk;rw[Cd (hx x (by simp[Op.operands]))]
 case makeSlice t x y=>show FP ev' nm t x y=FP ev nm t x y;unfold FP;rw[Ct (hx x (by simp[Op.operands])),Ct (hx y (by simp[Op.operands]))]
 case slice t x lo hi mx=>
  show MD ev' t x lo hi mx=MD ev t x lo hi mx;unfold MD;have hlo:∀d m,Eb ev' d m lo=Eb ev d m lo:=λd m=>SF λy hy=>hx y (by subst hy;simp[Op.operands]);have hhi:∀d m,Eb ev' d m hi=Eb ev d m hi:=λd m=>SF λy hy=>hx y (by subst hy;simp[Op.operands]);have e1:∀c,QT ev' c lo hi=QT ev c lo hi:=by intro c;unfold QT;simp only[hlo,hhi]
  have e2:∀c e,QS ev' c e lo hi=QS ev c e lo hi:=by intro c e;unfold QS;simp only[hlo,hhi]
  rw[Cd (hx x (by simp[Op.operands]))];simp only[e1,e2]
 case fieldAddr t x f=>show FO ev' t x f=FO ev t x f;unfold FO;rw[Cd (hx x (by simp[Op.operands]))]
 case field t x f=>show MB ev' t x f=MB ev t x f;unfold MB;rw[Hc (hx x (by simp[Op.operands]))]
 case indexAddr t x i=>show DA ev' h t x i=DA ev h t x i;unfold DA;rw[Cd (hx x (by simp[Op.operands])),Ct (hx i (by simp[Op.operands]))]
 case index t x i=>show MC ev' t x i=MC ev t x i;unfold MC;rw[Cd (hx x (by simp[Op.operands])),Hc (hx x (by simp[Op.operands])),Ct (hx i (by simp[Op.operands]))]
 case extract x i=>show It ev' x i=It ev x i;unfold It;rw[hx x (by simp[Op.operands])]
 all_goals rfl
end
section
variable{ev:Operand→Option (Sv G.T)}{h h':Nat→Option (aA G.T)}{nm:Nat}
def Abs(hh:∀m∈c.rds,h' m=h m):Cw h' n c=Cw h n c:=by
 cases c with
 |ptr b o=>simp only[Cw];rw[hh b (by simp[aL])]
 |pd b o s l i=>simp only[Cw];rw[hh b (by simp[aL])]
 |pr b t i o=>simp only[Cw];rw[hh b (by simp[aL])]
 |_=>rfl
def Ab0{new:List (Cv G.T)}(hh:∀m∈c.rds,h' m=h m):GQ h' new c=GQ h new c:=by
 cases c with
 |ptr b o=>simp only[GQ];rw[hh b (by simp[aL])]
 |pd b o s l i=>simp only[GQ];rw[hh b (by simp[aL])]
 |pr b t i o=>simp only[GQ];rw[hh b (by simp[aL])]
 |_=>rfl
def MJ{e:Nat}(hh:∀m∈c.rds,h' m=h m):Ft h' e c=Ft h e c:=by
 cases c with
 |own b=>simp only[Ft];rw[hh b (by simp[aL])]
 |sc v=>unfold Ft;split<;>first | rfl | contradiction
 |_=>rfl
def Amd(hh:∀m∈c.rds,h' m=h m):NO h' n c=NO h n c:=by
 unfold NO;rw[Abs hh];cases c with
 |pd b o s l i=>
  have e:(λq=>Cw h' n (.ptr b (o+q*s)))=λq=>Cw h n (.ptr b (o+q*s)):=funext λq=>Abs λm hm=>hh m (by simpa[aL]using hm);have e2:Uj h' (.pd b o s l i)=Uj h (.pd b o s l i):=by simp only[Uj];rw[hh b (by simp[aL])]
  simp only[e,e2]
 |_=>rfl
def Uc(cf:Bj G):Prop:=∀g args h h' nm out,cf g args h nm (Z G) C=C out→(∀n∈out.rd,h' n=h n)→cf g args h' nm (Z G) C=C out
def Atl{cf:Bj G}(hl:Uc cf){op:Op}{out:Z G}(ha:act cf ev h nm op (Z G) C=C out)(hh:∀n∈out.rd,h' n=h n):act cf ev h' nm op (Z G) C=C out:=by
 cases op
 case load t x=>have ha:Ib ev h t x (Z G) C=C out:=ha;show Ib ev h' t x (Z G) C=C out;unfold Ib at ha⊢;obtain⟨c,hc,h1⟩:=Cg ha;have h1':=h1;obtain⟨_,cs,_,_,h2⟩:=Xh h1;obtain⟨y,hy,h3⟩:=aJ h2;simp[aF]at h3;subst h3;have e:=Amd (n:=G.sz t) hh;simp only[aH,evC,hc,aN,e];exact h1'
 case convert s t x=>
  have ha:Lk ev h s t x (Z G) C=C out:=ha;show Lk ev h' s t x (Z G) C=C out;unfold Lk at ha⊢;obtain⟨hn,h0⟩:=aI ha;obtain⟨c,hc,h1⟩:=Cg h0;simp only[aH,aK,hn,e_,evC,hc];cases hts:G.ty s with
  |sl e=>
   rw[hts]at h1;simp only at h1⊢;cases hst:Xa (G.ty t)with
   |false=>rw[hst]at h1;exact h1
   |true=>rw[hst,e_]at h1;obtain⟨hg,h2⟩:=aI h1;obtain⟨l,hl',h3⟩:=aJ h2;simp[aF]at h3;subst h3;simp only[e_,aH,aK,hg,aN,MJ (e:=e) hh,hl',aF]
  |_=>rw[hts]at h1;exact h1
 case buildSlice t n ps=>
  have ha:CU ev h nm t n ps.toList (Z G) C=C out:=ha;show CU ev h' nm t n ps.toList (Z G) C=C out;unfold CU at ha⊢;cases ht:G.ty t<;>simp only[ht]at ha⊢ <;>try exact ha
  obtain⟨ys,h1,h2⟩:=(Jz (ev:=ev) ps.toList).spec (aR ha);obtain⟨hn,h3⟩:=aI h2;obtain⟨cs,hcs,h4⟩:=aJ h3;show(FD ev ps.toList) _ _=_;rw[Jz ps.toList,h1];simp only[d_,aH,aK,hn,e_,aN,hcs];rename_i e;unfold QR at h4⊢;cases hfn:TA (G.ty e)with
  |true=>rw[hfn]at h4;exact h4
  |false=>rw[hfn]at h4;obtain⟨q,hq,h5⟩:=aJ h4;obtain⟨l,hl',h6⟩:=aJ h5;simp[aF]at h6;subst h6;have e1:=VH hq hh;simp only[aH,aN,e1,hl',aF]
 case store t x y=>
  have ha:Iu ev h t x y (Z G) C=C out:=ha;show Iu ev h' t x y (Z G) C=C out;unfold Iu at ha⊢;obtain⟨c,hc,h1⟩:=Cg ha;obtain⟨u,hu,h2⟩:=NB h1;obtain⟨hn,h3⟩:=aI h2;simp only[aH,evC,hc,evP,hu,aK,hn,e_];have key:MP h c u.cells (Z G) C=C out→MP h' c u.cells (Z G) C=C out:=λh3=>by unfold MP at h3⊢;obtain⟨r,hr,h4⟩:=aJ h3;simp[aF]at h4;subst h4;have e:=Ab0 (new:=u.cells) hh;simp only[aH,aN,e,hr,aF]
  cases c with
  |pr b tt i off=>unfold TW at h3⊢;obtain⟨q,hq,h4⟩:=aJ h3;obtain⟨hb,h5⟩:=aI h4;obtain⟨r,hr,h6⟩:=aJ h5;simp[aF]at h6;subst h6;have e1:=VH hq λn hm=>hh n (by simp[hm]);have e2:=Ab0 (h:=h) (h':=h') (new:=q.1) (c:=.pr b tt i off) λn hm=>hh n (by simp[aL]at hm;simp[hm]);simp only[aH,aN,aK,e1,hb,e_,e2,hr,aF]
  |_=>exact key h3
 case indexAddr t x i=>
  have ha:DA ev h t x i (Z G) C=C out:=ha;show DA ev h' t x i (Z G) C=C out;unfold DA at ha⊢;cases ht:G.ty t<;>simp only[ht]at ha⊢ <;>try exact ha
  rename_i e;obtain⟨c,hc,h1⟩:=Cg ha;obtain⟨d,n,hi,h2⟩:=Ar h1;have g:ixS h' e c n (Z G) C=C out:=by
   unfold ixS at h2⊢;cases c with
   |own b=>
    simp only at h2⊢;cases hb:h b with
    |none=>rw[hb]at h2;simp[aQ]at h2
    |some k=>
     rw[hb]at h2;cases k with
     |cells cs=>simp[aQ]at h2
     |row u l=>have h2':=h2;simp only at h2;obtain⟨hn,h3⟩:=aI h2;obtain⟨hn2,h4⟩:=aI h3;simp[aF]at h4;subst h4;rw[hh b (by simp),hb];exact h2'
   |_=>exact h2
  simp only[aH,evC,hc,evI,hi];exact g
 case call cl=>
  obtain⟨callee,xs,tys⟩:=cl;cases callee
  case value f=>
   have ha:Lj cf ev h nm f xs.toList (Z G) C=C out:=ha;show Lj cf ev h' nm f xs.toList (Z G) C=C out;unfold Lj at ha⊢;obtain⟨c,hc,h1⟩:=Cg ha;obtain⟨as,h2,has⟩:=(Mc (ev:=ev) xs.toList).spec (aR h1);have g:Zw cf h' nm c as (Z G) C=C out:=by
    unfold Zw at has⊢;cases c with
    |clo g fst caps=>
     simp only at has⊢;generalize G.ext g=m at has⊢
     match m,has with
     |0,has=>exact hl _ _ _ _ _ _ has hh
     |1,has=>exact has
     |m+2,has=>exact has
    |_=>exact has
   simp only[aH,evC,hc];rw[Mc xs.toList,h2];exact g
  case builtin b=>
   have ha:Aq ev h nm b tys.toList xs.toList (Z G) C=C out:=ha;show Aq ev h' nm b tys.toList xs.toList (Z G) C=C out;rcases SE ha with⟨rfl,t,ts,x,h1,h2⟩ | ⟨rfl,x,y,h1⟩ | ⟨rfl,x,y,h1⟩ | ⟨rfl,t,x,y,h1,h2⟩ | ⟨rfl,x,y,z,h1⟩ | ⟨rfl,x,y,z,h1⟩ | ⟨rfl,t,x,y,h1,h2⟩
   ·rw[h1,h2]at ha⊢;have ha:PU ev h t x (Z G) C=C out:=ha;show PU ev h' t x (Z G) C=C out;unfold PU at ha⊢;cases ht:G.ty t<;>simp only[ht]at ha⊢ <;>try exact ha
    rename_i e;obtain⟨c,hc,g1⟩:=Cg ha;simp only[aH,evC,hc];unfold Abp at g1⊢;have key:aH (aN (Ft h e c)) (λl=>aF (⟨C (.p (.one (.sc (.int .i64 (l.length:Int))))),[],[],c.rds⟩:Z G)) (Z G) C=C out→aH (aN (Ft h' e c)) (λl=>aF (⟨C (.p (.one (.sc (.int .i64 (l.length:Int))))),[],[],c.rds⟩:Z G)) (Z G) C=C out:=λg1=>by obtain⟨l,hl',g2⟩:=aJ g1;simp[aF]at g2;subst g2;have e1:=MJ (e:=e) hh;simp only[aH,aN,e1,hl',aF]
    cases c with
    |sa _ _ _=>exact g1
    |_=>exact key g1
   ·rw[h1]at ha⊢;exact ha
   ·rw[h1]at ha⊢;exact ha
   ·rw[h1,h2]at ha⊢;have ha:HJ ev h nm t t x y (Z G) C=C out:=ha;show HJ ev h' nm t t x y (Z G) C=C out;unfold HJ at ha⊢;cases ht:G.ty t<;>simp only[ht]at ha⊢ <;>try exact ha
    rename_i e;obtain⟨hn,g1⟩:=aI ha;obtain⟨c,hc,g2⟩:=Cg g1;obtain⟨c',hc',g3⟩:=Cg g2;obtain⟨l,hl',g4⟩:=aJ g3;obtain⟨l',hl'',g5⟩:=aJ g4;obtain⟨hn2,g6⟩:=aI g5;have hrd:(∀m∈c.rds,m∈out.rd)∧∀m∈c'.rds,m∈out.rd:=by
     unfold Aeu at g6;cases c with
     |sc v=>simp[aF]at g6;subst g6;exact⟨by simp[aL],λm h=>h⟩
     |own n=>simp only at g6;obtain⟨_,g7⟩:=aI g6;simp[aF]at g7;subst g7;exact⟨by simp[aL],λm h=>by simp[h]⟩
     |_=>simp[aQ]at g6
    have e1:=MJ (e:=e) (c:=c) λm hm=>hh m (hrd.1 m hm);have e2:=MJ (e:=e) (c:=c') λm hm=>hh m (hrd.2 m hm);simp only[aH,aK,hn,e_,evC,hc,hc',aN,e1,e2,hl',hl'',hn2];exact g6
   ·rw[h1]at ha⊢;exact ha
   ·rw[h1]at ha⊢;exact ha
   ·rw[h1,h2]at ha⊢;have ha:Mm ev h t t x y (Z G) C=C out:=ha;show Mm ev h' t t x y (Z G) C=C out;unfold Mm at ha⊢;cases ht:G.ty t<;>simp only[ht]at ha⊢ <;>try exact ha
    rename_i e;obtain⟨hn,g1⟩:=aI ha;obtain⟨c,hc,g2⟩:=Cg g1;obtain⟨c',hc',g3⟩:=Cg g2;obtain⟨l',hl',g4⟩:=aJ g3;have hrd:(∀m∈c.rds,m∈out.rd)∧∀m∈c'.rds,m∈out.rd:=by
     unfold Ul at g4;cases c with
     |own n=>
      simp only at g4;cases hm:h n with
      |none=>simp[hm,aQ]at g4
      |some k=>
       cases k with
       |cells _=>simp[hm,aQ]at g4
       |row u l=>simp only[hm]at g4;obtain⟨_,g7⟩:=aI g4;obtain⟨_,_,g7⟩:=aJ g7;simp[aF]at g7;subst g7;exact⟨by simp[aL],λm h=>by simp[h]⟩
     |sa n off len=>
      simp only at g4;cases hm:h n with
      |none=>simp[hm,aQ]at g4
      |some k=>
       cases k with
       |row _ _=>simp[hm,aQ]at g4
       |cells cs=>simp only[hm]at g4;obtain⟨_,g7⟩:=aI g4;obtain⟨_,_,g7⟩:=aJ g7;obtain⟨_,g7⟩:=aI g7;simp[aF]at g7;subst g7;exact⟨by simp[aL],λm h=>by simp[h]⟩
     |_=>simp[aQ]at g4
    have e2:=MJ (e:=e) (c:=c') λm hm=>hh m (hrd.2 m hm);simp only[aH,aK,hn,e_,evC,hc,hc',aN,e2,hl'];unfold Ul at g4⊢;cases c with
    |own n=>simp only[hh n (hrd.1 n (by simp[aL]))];exact g4
    |sa n off len=>simp only[hh n (hrd.1 n (by simp[aL]))];exact g4
    |_=>exact g4
  case invoke=>exact ha
 case makeFunc fn a b=>cases fn<;>exact ha
 all_goals exact ha
end
end Go.Ab
namespace Go.Ab
variable{G:aB}
variable{s:U G}{d:Option Nat}{o:Z G}
section
variable(cf:Bj G)(nt:Nat)
def ZJ(ops:Array Oper)(o:Oper)(st:U G):M (Z G×U G):=
 aH (aK (JK nt o.dst)) λ_=>aH (NW ops st.tm o) λg=>
  match g.1 with
  |true=>aH (act cf (Hs st.tm) (O st.hp) (ZB 0 o.dst) o.op) λout=>aH (aK (Gr st.us out.nw)) λ_=>aF (out,(st.note g.2).next o.dst out)
  |false=>aF (⟨C (.tup []),[],[],[]⟩,(st.note g.2).next o.dst ⟨C (.tup []),[],[],[]⟩)
def Wc(ops:Array Oper):List Oper→U G→M (List (Z G)×U G)
 |[],st=>aF ([],st)
 |o::t,st=>aH (ZJ cf nt ops o st) λp=>aH (Wc ops t p.2) λq=>aF (p.1::q.1,q.2)
end
def Lr(acc:List Nat):List Edge→Nat
 |[]=>0
 |e::t=>bif Region.binds .any e then Nat.lor (Nat.lor (2^e.on) (acc.getD e.on 0)) (Lr acc t)else Lr acc t
def Uo(n:Nat):List Edge→Bool
 |[]=>J
 |e::t=>(!Region.binds .any e||Nat.blt e.on n)&&Uo n t
def FT:List Oper→List Nat→List Nat
 |[],acc=>acc
 |o::t,acc=>FT t (acc++[Lr acc o.after.toList])
def Kc:Nat→List Oper→Bool
 |_,[]=>J
 |n,o::t=>Uo n o.after.toList&&Kc (n+1) t
def pairs{α:Type}(f:α→α→Bool)(ms:List Nat)(l:List α):Bool:=go 0 l
where
 one (x:α) (i j:Nat):List α→Bool
  |[]=>J
  |y::t=>(f x y||Nat.testBit (ms.getD j 0) i)&&one x i (j+1) t
 go (i:Nat):List α→Bool
  |[]=>J
  |x::t=>one x i (i+1) t&&go (i+1) t
def Bd:List (Nat×Option (aA G.T))→List Nat
 |[]=>[]
 |(n,_)::t=>n::Bd t
def disj:List Nat→List Nat→Bool
 |[],_=>J
 |n::t,l=>!has l n&&disj t l
def Alf(x y:Z G):Bool:=disj (Bd x.d) y.rd&&disj (Bd x.d) (Bd y.d)&&disj (Bd y.d) x.rd
def MH(cf:Bj G)(nt:Nat)(ops:Array Oper)(st:U G):M (U G):=
 aH (aK (Kc 0 ops.toList&&pairs (λx y=>Oper.apart ops x y) (FT ops.toList []) ops.toList)) λ_=>
 aH (Wc cf nt ops ops.toList st) λp=>
 aH (aK (pairs Alf (FT ops.toList []) p.1)) λ_=>aF p.2
def NR{α:Type}{f:α→α→Bool}{ms:List Nat}{l:List α}(h:pairs f ms l=J):∀i j x y,i<j→l[i]?=C x→l[j]?=C y→f x y=J∨(ms.getD j 0).testBit i=J:=by
 have one:∀(l:List α) (x:α) (i j:Nat),pairs.one f ms x i j l=J→∀k y,l[k]?=C y→f x y=J∨(ms.getD (j+k) 0).testBit i=J:=by
  intro l;induction l with
  |nil=>intro x i j _ k y h;simp at h
  |cons z t ih=>
   intro x i j h k y hk;simp only[pairs.one,b_,b9_]at h;cases k with
   |zero=>simp at hk;subst hk;exact h.1
   |succ k=>
    simp at hk
    have:=ih x i (j+1) h.2 k y hk
    rwa [H_,a7_ 1 k]at this
 have go:∀(l:List α) (n:Nat),pairs.go f ms n l=J→∀i j x y,i<j→l[i]?=C x→l[j]?=C y→f x y=J∨(ms.getD (n+j) 0).testBit (n+i)=J:=by
  intro l;induction l with
  |nil=>intro n _ i j x y _ h;simp at h
  |cons z t ih=>
   intro n h i j x y hij hi hj;simp only[pairs.go,b_]at h;cases j with
   |zero=>omega
   |succ j=>
    simp at hj;cases i with
    |zero=>
     simp at hi;subst hi
     have:=one t z n (n+1) h.1 j y hj
     rwa [H_,a7_ 1 j]at this
    |succ i=>
     simp at hi
     have:=ih (n+1) h.2 i j x y ω hi hj
     rwa [H_,a7_ 1 j,H_ n 1 i,a7_ 1 i]at this
 intro i j x y hij hi hj;simpa using go l 0 h i j x y hij hi hj
def Qi{acc:List Nat}{i:Nat}:∀{es:List Edge},(Lr acc es).testBit i=J→∃e∈es,Region.binds .any e=J∧(e.on=i∨(acc.getD e.on 0).testBit i=J)
 |[],h=>by simp[Lr]at h
 |e::t,h=>by
  simp only[Lr]at h;cases hb:Region.binds .any e with
  |false=>rw[hb]at h;obtain⟨e',h1,h2⟩:=Qi (es:=t) h;exact⟨e',by simp[h1],h2⟩
  |true=>
   rw[hb]at h;have h:(2^e.on|||acc.getD e.on 0|||Lr acc t).testBit i=J:=h;rw[Nat.testBit_or,Nat.testBit_or,Nat.testBit_two_pow]at h;simp only[b9_,b0_]at h;rcases h with(h | h) | h
   ·exact⟨e,by simp,hb,.inl h⟩
   ·exact⟨e,by simp,hb,.inr h⟩
   ·obtain⟨e',h1,h2⟩:=Qi (es:=t) h;exact⟨e',by simp[h1],h2⟩
def Ts{n:Nat}:∀{es:List Edge},Uo n es=J→∀e∈es,Region.binds .any e=J→e.on<n
 |[],_,_,h,_=>by simp at h
 |e::t,h,e',he,hb=>by
  simp only[Uo,b_,b9_]at h;rcases y_.1 he with rfl | he
  ·rcases h.1 with h1 | h1
   ·rw[hb]at h1;simp at h1
   ·simp[Nat.blt]at h1;omega
  ·exact Ts h.2 e' he hb
def Nl:∀{l:List Oper}{n:Nat},Kc n l=J→∀i o,l[i]?=C o→∀e∈o.after.toList,Region.binds .any e=J→e.on<n+i
 |[],_,_,i,o,h=>by simp at h
 |p::t,n,h,i,o,hi=>by
  simp only[Kc,b_]at h;cases i with
  |zero=>simp at hi;subst hi;exact Ts h.1
  |succ i=>
   simp at hi;intro e he hb
   have:=Nl h.2 i o hi e he hb
   omega
def RP:∀(l:List Oper) (acc:List Nat) (j:Nat),j<acc.length→(FT l acc).getD j 0=acc.getD j 0
 |[],_,_,_=>rfl
 |o::t,acc,j,h=>by rw[FT,RP t _ j (by simp;omega)];simp[q_,c6_,h]
def Xj:∀(l:List Oper) (acc:List Nat) (j:Nat) (o:Oper),l[j]?=C o→
  ∃acc',(FT l acc).getD (acc.length+j) 0=Lr acc' o.after.toList∧∀k,k<acc.length+j→acc'.getD k 0=(FT l acc).getD k 0
 |[],_,_,_,h=>by simp at h
 |p::t,acc,j,o,h=>by
  cases j with
  |zero=>
   simp at h;subst h;refine⟨acc,?_,λk hk=>?_⟩
   ·rw[FT,RP t _ _ (by simp)];simp[q_]
   ·rw[RP _ _ _ ω]
  |succ j=>
   simp at h;obtain⟨acc',h1,h2⟩:=Xj t (acc++[Lr acc p.after.toList]) j o h;simp only[i_,E_]at h1 h2;refine⟨acc',?_,λk hk=>?_⟩
   ·rw[FT,← h1];congr 1;omega
   ·rw[FT,h2 k ω]
def Down(ops:Array Oper)(D:Nat→Bool):Prop:=∀j o,ops[j]?=C o→D j=J→∀e∈o.after.toList,Region.binds .any e=J→D e.on=J
def Tr{ops:Array Oper}(he:Kc 0 ops.toList=J){D:Nat→Bool}(hD:Down ops D):∀(n j:Nat) (o:Oper),j<n→ops[j]?=C o→(∀e∈o.after.toList,Region.binds .any e=J→D e.on=J)→
  ∀i,((FT ops.toList []).getD j 0).testBit i=J→D i=J
 |0,_,_,h,_,_,_,_=>by omega
 |n+1,j,o,hj,ho,hpre,i,hi=>by
  have ho':ops.toList[j]?=C o:=by simpa using ho
  obtain⟨acc',h1,h2⟩:=Xj ops.toList [] j o ho';simp only[b5_,p_]at h1 h2;rw[h1]at hi;obtain⟨e,he1,he2,he3⟩:=Qi hi;have hlt:=Nl he j o ho' e he1 he2;rw[p_]at hlt;have hDe:=hpre e he1 he2;rcases he3 with rfl | he3
  ·exact hDe
  ·rw[h2 e.on hlt]at he3;have hjs:j<ops.size:=by
    have:=(t_.1 ho).1;exact this
   obtain⟨o',ho2⟩:∃o',ops[e.on]?=C o':=⟨ops[e.on]'ω,K_ _⟩
   exact Tr he hD n e.on o' ω ho2 (λe' h3 h4=>hD e.on o' ho2 hDe e' h3 h4) i he3
structure ExtEq(s s':St G):Prop where
 tm:∀k,get s.tm k=get s'.tm k
 hp:∀n,get s.hp n=get s'.hp n
 us:∀n,n∈s.us↔n∈s'.us
def ExtEq.rfl':ExtEq s s:=⟨λ_=>rfl,λ_=>rfl,λ_=>Iff.rfl⟩
def ExtEq.symm{s':U G}(h:ExtEq s s'):ExtEq s' s:=⟨λk=>(h.tm k).symm,λk=>(h.hp k).symm,λk=>(h.us k).symm⟩
def ExtEq.trans{s' s'':U G}(h:ExtEq s s')(g:ExtEq s' s''):ExtEq s s'':=⟨λk=>(h.tm k).trans (g.tm k),λk=>(h.hp k).trans (g.hp k),λk=>(h.us k).trans (g.us k)⟩
def Rel.ext{cx:Cx}{s':U G}{a:Act}{w:World}(e:ExtEq s s')(h:Rel G cx s a w):Rel G cx s' a w:=by obtain⟨ν,S,r⟩:=h;have hf:O s.hp=O s'.hp:=funext e.hp;exact⟨ν,S,⟨λk v hk=>r.slot k v ((e.tm k).trans hk),hf▸r.heap,λn hn=>(e.us n).1 (r.used n hn),r.defers,r.nt,r.size,r.frame,r.env,r.sub,r.keep,r.names⟩⟩
def NY(k:Nat):O (s.next d o).tm k=if d=C k then o.v else O s.tm k:=by
 cases d with
 |none=>simp[St.next]
 |some d=>
  simp only[St.next];cases hv:o.v with
  |none=>simp only[QI];by_cases e:d=k<;>simp[e]
  |some v=>simp only[NV];by_cases e:d=k<;>simp[e]
def NX(n:Nat):O (s.next d o).hp n=AJ (O s.hp) o.d n:=by show O (VZ s.hp o.d) n=_;rw[RH]
def NZ(n:Nat):n∈(s.next d o).us↔n∈o.nw∨n∈s.us:=by show n∈o.nw++s.us↔_;simp
def Hp:∀(d:List (Nat×Option (aA G.T))) (h:Nat→Option (aA G.T)) (n:Nat),n∉Bd d→AJ h d n=h n
 |[],_,_,_=>rfl
 |(m,b)::t,h,n,hn=>by simp only[Bd,y_,not_or]at hn;rw[AJ,Hp t _ n hn.2,if_neg (Y_ hn.1)]
def QF:∀(d:List (Nat×Option (aA G.T))) (h h':Nat→Option (aA G.T)) (n:Nat),h n=h' n∨n∈Bd d→AJ h d n=AJ h' d n
 |[],_,_,_,hn=>by simpa[Bd,AJ]using hn
 |(m,b)::t,h,h',n,hn=>by
  simp only[AJ];refine QF t _ _ n ?_;by_cases e:m=n
  ·left;simp[e]
  ·simp only[e,if_false];rcases hn with h1 | h1
   ·exact .inl h1
   ·simp only[Bd,y_]at h1;exact .inr (h1.resolve_left (Y_ e))
def ExtEq.next{s':U G}(h:ExtEq s s')(d:Option Nat)(o:Z G):ExtEq (s.next d o) (s'.next d o):=⟨λk=>by rw[NY,NY,h.tm],λn=>by rw[NX,NX];exact QF _ _ _ _ (.inl (h.hp n)),λn=>by rw[NZ,NZ,h.us]⟩
def RQ{p:Nat×Bool}(h:O s.tm p.1=C (.p (.one (.sc (.bool p.2))))):ExtEq s (s.note (C p)):=
 ⟨λk=>by
  show _=O (put s.tm p.1 _) k;rw[NV];by_cases e:p.1=k
  ·rw[if_pos e,← e,h]
  ·rw[if_neg e],λ_=>rfl,λ_=>Iff.rfl⟩
def Ay(D:Nat→Bool):Nat→List (Option Nat×Z G)→U G→U G
 |_,[],s=>s
 |i,r::t,s=>Ay D (i+1) t (bif D i then s.next r.1 r.2 else s)
section
variable{D D':Nat→Bool}
def MN{k:Nat}:∀(l:List (Option Nat×Z G)) (n:Nat) (s s':U G),(∀i r,l[i]?=C r→r.1=C k→D (n+i)=D' (n+i))→O s.tm k=O s'.tm k→
  O (Ay D n l s).tm k=O (Ay D' n l s').tm k
 |[],_,_,_,_,h=>h
 |r::t,n,s,s',hd,h=>by
  simp only[Ay];refine MN t (n+1) _ _ (λi q hq hk=>by have:=hd (i+1) q (by simpa using hq) hk;rwa [← H_,bA]at this) ?_;by_cases e:r.1=C k
  ·have:=hd 0 r rfl e
   rw[a0_]at this;rw[← this];cases D n
   ·exact h
   ·simp[NY,e]
  ·cases D n<;>cases D' n<;>simp[NY,e,h]
def Kt{k:Nat}:∀(l:List (Option Nat×Z G)) (n:Nat) (s s':U G),(∀i r,l[i]?=C r→k∈Bd r.2.d→D (n+i)=D' (n+i))→O s.hp k=O s'.hp k→
  O (Ay D n l s).hp k=O (Ay D' n l s').hp k
 |[],_,_,_,_,h=>h
 |r::t,n,s,s',hd,h=>by
  simp only[Ay];refine Kt t (n+1) _ _ (λi q hq hk=>by have:=hd (i+1) q (by simpa using hq) hk;rwa [← H_,bA]at this) ?_;by_cases e:k∈Bd r.2.d
  ·have:=hd 0 r rfl e
   rw[a0_]at this;rw[← this];cases D n
   ·exact h
   ·simp only[e_,NX];exact QF _ _ _ _ (.inr e)
  ·cases D n<;>cases D' n<;>simp[NX,Hp _ _ _ e,h]
def Ku{k:Nat}:∀(l:List (Option Nat×Z G)) (n:Nat) (s:U G),k∈(Ay D n l s).us↔k∈s.us∨∃i r,l[i]?=C r∧D (n+i)=J∧k∈r.2.nw
 |[],_,s=>by simp[Ay]
 |r::t,n,s=>by
  simp only[Ay];rw[Ku t (n+1)];constructor
  ·rintro(h | ⟨i,q,h1,h2,h3⟩)
   ·cases hd:D n with
    |false=>rw[hd]at h;exact .inl h
    |true=>
     rw[hd]at h;rcases(NZ k).1 h with h | h
     ·exact .inr ⟨0,r,rfl,by simpa using hd,h⟩
     ·exact .inl h
   ·exact .inr ⟨i+1,q,by simpa using h1,by rwa [a7_ i 1,← H_],h3⟩
  ·rintro(h | ⟨i,q,h1,h2,h3⟩)
   ·left;cases hd:D n with
    |false=>exact h
    |true=>exact(NZ k).2 (.inr h)
   ·cases i with
    |zero=>simp at h1 h2;subst h1;left;rw[h2];exact(NZ k).2 (.inl h3)
    |succ i=>simp at h1;exact .inr ⟨i,q,h1,by rwa [H_,a7_ 1 i],h3⟩
def HL:∀(l:List (Option Nat×Z G)) (n:Nat) (s:U G),Ay (λ_=>V) n l s=s
 |[],_,_=>rfl
 |_::t,n,s=>HL t (n+1) s
def Adq{k:Nat}:∀(l:List (Option Nat×Z G)) (n i:Nat) (r:Option Nat×Z G) (s:U G),l[i]?=C r→r.1=C k→D (n+i)=J→
  (∀j q,i<j→l[j]?=C q→D (n+j)=J→q.1≠C k)→O (Ay D n l s).tm k=r.2.v
 |[],_,_,_,_,h,_,_,_=>by simp at h
 |p::t,n,i,r,s,hi,hk,hd,hl=>by
  simp only[Ay];cases i with
  |zero=>
   simp at hi hd;subst hi;rw[hd,e_];rw[MN (D':=λ_=>V) (s':=s.next p.1 p.2) t (n+1) _ (λj q hq hqk=>?_) rfl,HL,NY,if_pos hk];cases hdj:D (n+1+j)with
   |false=>rfl
   |true=>exact absurd hqk (hl (j+1) q ω (by simpa using hq) (by rwa [a7_ j 1,← H_]))
  |succ i=>simp at hi;refine Adq t (n+1) i r _ hi hk (by rwa [H_,a7_ 1 i]) λj q hj hq hdj=>?_;exact hl (j+1) q ω (by simpa using hq) (by rwa [a7_ j 1,← H_])
def Adp{k:Nat}:∀(l:List (Option Nat×Z G)) (n i:Nat) (r:Option Nat×Z G) (s:U G) (h:Nat→Option (aA G.T)),l[i]?=C r→k∈Bd r.2.d→D (n+i)=J→
  (∀j q,i<j→l[j]?=C q→D (n+j)=J→k∉Bd q.2.d)→O (Ay D n l s).hp k=AJ h r.2.d k
 |[],_,_,_,_,_,h,_,_,_=>by simp at h
 |p::t,n,i,r,s,h,hi,hk,hd,hl=>by
  simp only[Ay];cases i with
  |zero=>
   simp at hi hd;subst hi;rw[hd,e_];rw[Kt (D':=λ_=>V) (s':=s.next p.1 p.2) t (n+1) _ (λj q hq hqk=>?_) rfl,HL,NX]
   ·exact QF _ _ _ _ (.inr hk)
   cases hdj:D (n+1+j)with
   |false=>rfl
   |true=>exact absurd hqk (hl (j+1) q ω (by simpa using hq) (by rwa [a7_ j 1,← H_]))
  |succ i=>simp at hi;refine Adp t (n+1) i r _ h hi hk (by rwa [H_,a7_ 1 i]) λj q hj hq hdj=>?_;exact hl (j+1) q ω (by simpa using hq) (by rwa [a7_ j 1,← H_])
end
end Go.Ab
namespace Go.Ab
variable{G:aB}
variable{s:U G}{o:Oper}{out:Z G}{j:Nat}
def Lu{D D':Nat→Bool}:∀(l:List (Option Nat×Z G)) (n n':Nat) (s s':U G),(∀i,i<l.length→D (n+i)=D' (n'+i))→ExtEq s s'→ExtEq (Ay D n l s) (Ay D' n' l s')
 |[],_,_,_,_,_,h=>h
 |r::t,n,n',s,s',hd,h=>by
  simp only[Ay];refine Lu t (n+1) (n'+1) _ _ (λi hi=>by have:=hd (i+1) (by simpa using hi);rwa [← H_,← H_,bA,bA n']at this) ?_
  have:=hd 0 (by simp)
  rw[a0_,a0_]at this;rw[← this];cases D n
  ·exact h
  ·exact h.next _ _
inductive StepR(cf:Bj G)(nt:Nat)(ops:Array Oper)(o:Oper)(st:St G)(out:Out G):Prop
 |act (g:Option (Nat×Bool)) (hd:JK nt o.dst=true)
   (hg:∀p,g=some p→get st.tm p.1=some (.p (.one (.sc (.bool p.2))))∧∃j want,o.guard=some (j,want)∧(ops[j]?).bind (·.dst)=some p.1∧p.2=want)
   (hn:g=none→o.guard=none) (hact:act cf (Hs st.tm) (get st.hp) (ZB 0 o.dst) o.op (Out G) some=some out) (hf:Gr st.us out.nw=true)
 |skip (p:Nat×Bool) (j:Nat) (want:Bool) (hd:JK nt o.dst=true) (hp:get st.tm p.1=some (.p (.one (.sc (.bool p.2))))) (hg:o.guard=some (j,want)) (hj:(ops[j]?).bind (·.dst)=some p.1) (hw:p.2≠want)
   (e:out=⟨some (.tup []),[],[],[]⟩)
 |skipU (gs j:Nat) (want:Bool) (hd:JK nt o.dst=true) (hp:get st.tm gs=some (.tup [])) (hg:o.guard=some (j,want)) (hj:(ops[j]?).bind (·.dst)=some gs) (e:out=⟨some (.tup []),[],[],[]⟩)
def Yy{d:Option Nat}:ExtEq (s.drop d) (s.next d ⟨C (.tup []),[],[],[]⟩):=by
 cases d with
 |none=>exact⟨λ_=>rfl,λ_=>rfl,λ_=>Iff.rfl⟩
 |some d=>exact⟨λ_=>rfl,λ_=>rfl,λ_=>Iff.rfl⟩
section
variable{P:Program}(ok:aP P G)(eqok:EqOK P G){cf:Bj G}(cfok:CfOK P G cf)(cfl:Uc cf){nt:Nat}{ops:Array Oper}
include cfok in
theorem YM(o:Oper)(st:U G):Law (ZJ cf nt ops o st):=by
 refine Ac (Aj _) λ_=>Ac (PB _ _ _) λg=>?_;split
 ·exact Ac (Us cfok.law _) λ_=>Ac (Aj _) λ_=>Ag _
 ·exact Ag _
include cfok in
theorem Md:∀(l:List Oper) (st:U G),Law (Wc cf nt ops l st)
 |[],_=>Ag _
 |o::t,st=>Ac (YM cfok o st) λ_=>Ac (Md t _) λ_=>Ag _
include cfok in
theorem Ahq{st st':U G}(h:ZJ cf nt ops o st _ C=C (out,st')):StepR cf nt ops o st out∧ExtEq st' (st.next o.dst out):=by
 unfold ZJ at h;obtain⟨hd,h1⟩:=aI h;obtain⟨⟨go,g⟩,hgo,h2⟩:=(PB ops st.tm o).spec (aR h1);have hcar:∀(hg:∀p,g=C p→O st.tm p.1=C (.p (.one (.sc (.bool p.2))))∧∃j want,o.guard=C (j,want)∧(ops[j]?).bind (·.dst)=C p.1∧p.2=want) (hn:g=N→o.guard=N),go=J→
   StepR cf nt ops o st out∧ExtEq st' (st.next o.dst out):=by
  intro hg hn hgo;subst hgo;simp only at h2;obtain⟨out',hout,h3⟩:=(Us cfok.law _).spec (aR h2);obtain⟨hf,h4⟩:=aI h3;simp[aF]at h4;obtain⟨rfl,rfl⟩:=h4;refine⟨.act g hd hg hn hout hf,?_⟩;cases g with
  |none=>exact ExtEq.rfl'
  |some p=>exact((RQ (hg p rfl).1).symm).next _ _
 unfold NW at hgo;cases hog:o.guard with
 |none=>simp[hog,aF]at hgo;obtain⟨rfl,rfl⟩:=hgo;exact hcar (by simp) (λ_=>hog) rfl
 |some jw=>
  obtain⟨j,want⟩:=jw;simp only[hog,WY]at hgo;split at hgo
  ·rename_i gs hgs;split at hgo
   ·rename_i b hb;have hsk:∀bb:Bool,O st.tm gs=C (.p (.one (.sc (.bool bb))))→bb≠want→go=V→g=C (gs,bb)→StepR cf nt ops o st out∧ExtEq st' (st.next o.dst out):=by
     intro bb h5 h6 h7 h8;subst h7;simp[aF]at h2;obtain⟨rfl,rfl⟩:=h2;refine⟨.skip (gs,bb) j want hd h5 hog hgs h6 rfl,?_⟩;rw[h8];exact((RQ (p:=(gs,bb)) h5).symm).next _ _
    cases b with
    |true=>
     simp at hgo;obtain⟨rfl,rfl⟩:=hgo;cases want with
     |true=>exact hcar (by rintro p hp;simp at hp;subst hp;exact⟨hb,j,J,hog,hgs,rfl⟩) (by simp) rfl
     |false=>exact hsk J hb (by simp) rfl rfl
    |false=>
     simp at hgo;obtain⟨rfl,rfl⟩:=hgo;cases go with
     |false=>exact hsk V hb (by simp) rfl rfl
     |true=>exact hcar (by rintro p hp;simp at hp;subst hp;exact⟨hb,j,_,hog,hgs,rfl⟩) (by simp) rfl
   ·rename_i hu;simp at hgo;obtain⟨rfl,rfl⟩:=hgo;simp[aF]at h2;obtain⟨rfl,rfl⟩:=h2;exact⟨.skipU gs j want hd hu hog hgs rfl,ExtEq.rfl'⟩
   ·simp at hgo
  ·simp at hgo
def Ci(l:List Oper)(outs:List (Z G)):List (Option Nat×Z G):=l.zipWith (λo out=>(o.dst,out)) outs
theorem IB{l:List Oper}{outs:List (Z G)}{i:Nat}{r:Option Nat×Z G}(h:(Ci l outs)[i]?=C r):∃o,l[i]?=C o∧outs[i]?=C r.2∧r.1=o.dst:=by
 unfold Ci at h;rw[bD]at h;cases h1:l[i]? with
 |none=>simp[h1]at h
 |some o=>
  cases h2:outs[i]? with
  |none=>simp[h1,h2]at h
  |some out=>simp[h1,h2]at h;subst h;exact⟨o,rfl,rfl,rfl⟩
include cfok in
theorem TT:∀(l:List Oper) (st st':U G) (outs:List (Z G)),Wc cf nt ops l st _ C=C (outs,st')→
  outs.length=l.length∧ExtEq st' (Ay (λ_=>J) 0 (Ci l outs) st)∧
  ∀i o out,l[i]?=C o→outs[i]?=C out→∃s,ExtEq s (Ay (λj=>decide (j<i)) 0 (Ci l outs) st)∧StepR cf nt ops o s out
 |[],st,st',outs,h=>by simp[Wc,aF]at h;obtain⟨rfl,rfl⟩:=h;exact⟨rfl,ExtEq.rfl',λi o out h=>by simp at h⟩
 |p::t,st,st',outs,h=>by
  unfold Wc at h;obtain⟨⟨out,st1⟩,h1,h2⟩:=(YM cfok p st).spec (aR h);obtain⟨⟨outs',st2⟩,h3,h4⟩:=(Md cfok t st1).spec (aR h2);simp[aF]at h4;obtain⟨rfl,rfl⟩:=h4;obtain⟨hs,he⟩:=Ahq cfok h1;obtain⟨e1,e2,e3⟩:=TT t st1 st2 outs' h3;refine⟨by simp[e1],?_,λi o q hi hq=>?_⟩
  ·refine e2.trans ?_;show ExtEq _ (Ay _ 1 (Ci t outs') (st.next p.dst out));exact Lu _ _ _ _ _ (λ_ _=>rfl) he
  ·cases i with
   |zero=>
    simp at hi hq;subst hi;subst hq;refine⟨st,?_,hs⟩;show ExtEq st (Ay _ 1 (Ci t outs') st)
    have:=Lu (D:=λ_=>V) (D':=λj=>decide (j<0)) (Ci t outs') 0 1 st st (λi _=>by simp) ExtEq.rfl'
    rwa [HL]at this
   |succ i=>simp at hi hq;obtain⟨s,g1,g2⟩:=e3 i o q hi hq;refine⟨s,g1.trans ?_,g2⟩;show ExtEq _ (Ay _ 1 (Ci t outs') (st.next p.dst out));exact Lu _ _ _ _ _ (λk _=>by simp;omega) he
theorem Ao6{us l:List Nat}(h:∀n∈l,n∉us):Gr us l=J:=by
 induction l with
 |nil=>rfl
 |cons k t ih=>
  simp only[Gr,b_,W_];refine⟨?_,ih λn hn=>h n (by simp[hn])⟩;cases hb:has us k with
  |false=>rfl
  |true=>exact absurd ((Df us k).1 hb) (h k (by simp))
theorem Iz:∀{a b:List Nat},disj a b=J→∀n∈a,n∉b
 |[],_,_,n,h=>by simp at h
 |m::t,b,h,n,hn=>by
  simp only[disj,b_]at h;rcases y_.1 hn with rfl | hn
  ·intro hm;rw[(Df b n).2 hm]at h;simp at h
  ·exact Iz h.2 n hn
theorem Amg{x:Operand}(h:x∈o.op.operands.toList){t:Nat}(hx:x=.tmp t):t∈o.looksAt ops:=by unfold Oper.looksAt;refine D_.2 (.inl (List.mem_filterMap.2 ⟨x,h,?_⟩));subst hx;rfl
theorem Qe{want:Bool}{d:Nat}(hg:o.guard=C (j,want))(hj:(ops[j]?).bind (·.dst)=C d):d∈o.looksAt ops:=by unfold Oper.looksAt;refine D_.2 (.inr ?_);rw[hg];simp[hj]
structure Done(cf:Bj G)(nt:Nat)(ops:Array Oper)(st:St G)(outs:List (Out G))(sf:Nat→Prop):Prop where
 len:outs.length=ops.size
 edges:Kc 0 ops.toList=true
 slots:pairs (λx y=>Oper.apart ops x y) (FT ops.toList []) ops.toList=true
 mem:∀i j x y,i<j→outs[i]?=some x→outs[j]?=some y→((FT ops.toList []).getD j 0).testBit i=true∨((∀n∈Bd x.d,n∉Bd y.d)∧(¬sf j→∀n∈Bd x.d,n∉y.rd)∧(¬sf i→∀n∈Bd y.d,n∉x.rd))
 soft:∀i,sf i→∀(D:Nat→Bool) (s:St G) o out nm,ExtEq s (Ay (λj=>decide (j<i)) 0 (Ci ops.toList outs) st)→ops[i]?=some o→outs[i]?=some out→act cf (Hs s.tm) (get s.hp) nm o.op (Out G) some=some out→act cf (Hs s.tm) (get (Ay D 0 (Ci ops.toList outs) st).hp) nm o.op (Out G) some=some out
 step:∀i o out,ops[i]?=some o→outs[i]?=some out→∃s,ExtEq s (Ay (λj=>decide (j<i)) 0 (Ci ops.toList outs) st)∧StepR cf nt ops o s out
variable{st:U G}{outs:List (Z G)}{sf:Nat→Prop}(dn:Done cf nt ops st outs sf)
section
variable{D:Nat→Bool}(hD:Down ops D){i:Nat}{o:Oper}{out:Z G}(ho:ops[i]?=C o)(hout:outs[i]?=C out)(hi:D i=V)
 (hpre:∀e∈o.after.toList,Region.binds .any e=J→D e.on=J)
include dn hD ho hout hi hpre
theorem LX{p:Oper}{q:Z G}(hp:ops[j]?=C p)(hq:outs[j]?=C q)(hj:(j<i∧D j=V)∨(i<j∧D j=J)):
  (∀d,p.dst=C d→d∉o.looksAt ops)∧(∀d,p.dst=C d→o.dst≠C d)∧(¬sf i→∀n∈Bd q.d,n∉out.rd)∧(∀n∈Bd q.d,n∉Bd out.d):=by
 have hp':ops.toList[j]?=C p:=by simpa using hp
 have ho':ops.toList[i]?=C o:=by simpa using ho
 have hcur:∀e∈o.after.toList,Region.binds .any e=J→D e.on=J:=hpre;rcases hj with⟨h1,h2⟩ | ⟨h1,h2⟩
 ·have hno:((FT ops.toList []).getD i 0).testBit j=J→False:=λhb=>by
   have:=Tr dn.edges hD (i+1) i o ω ho hcur j hb
   rw[h2]at this;simp at this
  have a1:=(NR dn.slots j i p o h1 hp' ho').resolve_right hno;have a2:=(dn.mem j i q out h1 hq hout).resolve_left hno;have a1:=Oper.apart_spec a1;exact⟨a1.1,a1.2.1,a2.2.1,a2.1⟩
 ·have hno:((FT ops.toList []).getD j 0).testBit i=J→False:=λhb=>by
   have:=Tr dn.edges hD (j+1) j p ω hp (hD j p hp h2) i hb
   rw[hi]at this;simp at this
  have a1:=(NR dn.slots i j o p h1 ho' hp').resolve_right hno;have a2:=(dn.mem i j out q h1 hout hq).resolve_left hno;have a1:=Oper.apart_spec a1;exact⟨a1.2.2,λd hd he=>a1.2.1 d he hd,a2.2.2,λn hn hm=>a2.1 n hm hn⟩
theorem Rj(hs:ExtEq s (Ay (λj=>decide (j<i)) 0 (Ci ops.toList outs) st)){k:Nat}(hk:k∈o.looksAt ops):
  O (Ay D 0 (Ci ops.toList outs) st).tm k=O s.tm k:=by
 rw[hs.tm k];refine MN _ 0 _ _ (λj r hr hrk=>?_) rfl;rw[p_];obtain⟨p,h1,h2,h3⟩:=IB hr;have h1':ops[j]?=C p:=by simpa using h1
 rw[h3]at hrk;by_cases hji:j<i
 ·rw[h_ hji];cases hd:D j with
  |true=>rfl
  |false=>exact absurd hk ((LX dn hD ho hout hi hpre h1' h2 (.inl ⟨hji,hd⟩)).1 k hrk)
 ·rw[j_ hji];by_cases e:j=i
  ·subst e;exact hi
  ·cases hd:D j with
   |false=>rfl
   |true=>exact absurd hk ((LX dn hD ho hout hi hpre h1' h2 (.inr ⟨ω,hd⟩)).1 k hrk)
theorem Anp(hsf:¬sf i)(hs:ExtEq s (Ay (λj=>decide (j<i)) 0 (Ci ops.toList outs) st)){n:Nat}(hn:n∈out.rd):
  O (Ay D 0 (Ci ops.toList outs) st).hp n=O s.hp n:=by
 rw[hs.hp n];refine Kt _ 0 _ _ (λj r hr hrk=>?_) rfl;rw[p_];obtain⟨p,h1,h2,h3⟩:=IB hr;have h1':ops[j]?=C p:=by simpa using h1
 by_cases hji:j<i
 ·rw[h_ hji];cases hd:D j with
  |true=>rfl
  |false=>exact absurd hn ((LX dn hD ho hout hi hpre h1' h2 (.inl ⟨hji,hd⟩)).2.2.1 hsf n hrk)
 ·rw[j_ hji];by_cases e:j=i
  ·subst e;exact hi
  ·cases hd:D j with
   |false=>rfl
   |true=>exact absurd hn ((LX dn hD ho hout hi hpre h1' h2 (.inr ⟨ω,hd⟩)).2.2.1 hsf n hrk)
omit hD hpre in
theorem Anq(hs:ExtEq s (Ay (λj=>decide (j<i)) 0 (Ci ops.toList outs) st))(hf:Gr s.us out.nw=J):
  Gr (Ay D 0 (Ci ops.toList outs) st).us out.nw=J:=by
 refine Ao6 λn hn hm=>?_;have h0:=Tw hf n hn;rw[hs.us n,Ku]at h0;rcases(Ku _ _ _).1 hm with h | ⟨j,r,h1,h2,h3⟩
 ·exact h0 (.inl h)
 ·rw[p_]at h2;by_cases hji:j<i
  ·exact h0 (.inr ⟨j,r,h1,by rw[p_];exact h_ hji,h3⟩)
  ·by_cases e:j=i
   ·subst e;rw[hi]at h2;simp at h2
   ·obtain⟨p,q1,q2,q3⟩:=IB h1;obtain⟨s2,g1,g2⟩:=dn.step j p r.2 (by simpa using q1) q2;cases g2 with
    |act g hd hg hn' hact hf2=>
     refine Tw hf2 n h3 ?_;rw[g1.us n,Ku];right;have hr:(Ci ops.toList outs)[i]?=C (o.dst,out):=by
      unfold Ci;rw[bD]
      have:ops.toList[i]?=C o:=by simpa using ho
      rw[this,hout]
     exact⟨i,_,hr,by rw[p_];exact h_ ω,hn⟩
    |skip p j want hd hp hg hj hw e=>rw[e]at h3;simp at h3
    |skipU gs j want hd hp hg hj e=>rw[e]at h3;simp at h3
include cfl in
theorem Aqp:StepR cf nt ops o (Ay D 0 (Ci ops.toList outs) st) out:=by
 obtain⟨s,hs,hstep⟩:=dn.step i o out ho hout;cases hstep with
 |act g hd hg hn hact hf=>
  refine .act g hd (λp hp=>?_) hn ?_ (Anq dn ho hout hi hs hf)
  ·obtain⟨h1,j,want,h2,h3,h4⟩:=hg p hp;refine⟨?_,j,want,h2,h3,h4⟩;rw[Rj dn hD ho hout hi hpre hs (Qe h2 h3)];exact h1
  ·rw[Atm (ev:=Hs s.tm) o.op λx hx=>?_]
   ·by_cases hsf:sf i
    ·exact dn.soft i hsf D s o out _ hs ho hout hact
    ·exact Atl cfl hact λn hn=>Anp dn hD ho hout hi hpre hsf hs hn
   ·cases x with
    |tmp t=>exact Rj dn hD ho hout hi hpre hs (Amg hx rfl)
    |const v=>cases v<;>rfl
    |_=>rfl
 |skip p j want hd hp hg hj hw e=>refine .skip p j want hd ?_ hg hj hw e;rw[Rj dn hD ho hout hi hpre hs (Qe hg hj)];exact hp
 |skipU gs j want hd hp hg hj e=>refine .skipU gs j want hd ?_ hg hj e;rw[Rj dn hD ho hout hi hpre hs (Qe hg hj)];exact hp
theorem Ap3{D':Nat→Bool}(hD':D' i=J)(hne:∀j,j≠i→D' j=D j) :
  ExtEq ((Ay D 0 (Ci ops.toList outs) st).next o.dst out) (Ay D' 0 (Ci ops.toList outs) st):=by
 have hr:(Ci ops.toList outs)[i]?=C (o.dst,out):=by
  unfold Ci;rw[bD]
  have:ops.toList[i]?=C o:=by simpa using ho
  rw[this,hout]
 have hne0:∀j r,(Ci ops.toList outs)[j]?=C r→r≠(o.dst,out)→j≠i:=by intro j r h1 h2 e;subst e;rw[hr]at h1;simp at h1;exact h2 h1.symm
 refine⟨λk=>?_,λn=>?_,λn=>?_⟩
 ·rw[NY];by_cases e:o.dst=C k
  ·rw[if_pos e];rw[Adq _ 0 i _ _ hr e (by rw[p_];exact hD') λj q hj hq hdj hqk=>?_];rw[p_,hne j ω]at hdj;obtain⟨p,h1,h2,h3⟩:=IB hq;rw[h3]at hqk;exact(LX dn hD ho hout hi hpre (by simpa using h1) h2 (.inr ⟨hj,hdj⟩)).2.1 k hqk e
  ·rw[if_neg e];refine MN _ 0 _ _ (λj r h1 h2=>?_) rfl;rw[p_];exact(hne j λej=>by subst ej;rw[hr]at h1;simp at h1;subst h1;exact e h2).symm
 ·rw[NX];by_cases e:n∈Bd out.d
  ·rw[Adp _ 0 i _ _ (O (Ay D 0 (Ci ops.toList outs) st).hp) hr e (by rw[p_];exact hD') λj q hj hq hdj hqk=>?_];rw[p_,hne j ω]at hdj;obtain⟨p,h1,h2,h3⟩:=IB hq;exact(LX dn hD ho hout hi hpre (by simpa using h1) h2 (.inr ⟨hj,hdj⟩)).2.2.2 n hqk e
  ·rw[Hp _ _ _ e];refine Kt _ 0 _ _ (λj r h1 h2=>?_) rfl;rw[p_];exact(hne j λej=>by subst ej;rw[hr]at h1;simp at h1;subst h1;exact e h2).symm
 ·rw[NZ,Ku,Ku];constructor
  ·rintro(h | h | ⟨j,r,h1,h2,h3⟩)
   ·exact .inr ⟨i,_,hr,by rw[p_];exact hD',h⟩
   ·exact .inl h
   ·refine .inr ⟨j,r,h1,?_,h3⟩;rw[p_]at h2⊢;by_cases e:j=i
    ·subst e;exact hD'
    ·rw[hne j e];exact h2
  ·rintro(h | ⟨j,r,h1,h2,h3⟩)
   ·exact .inr (.inl h)
   ·by_cases e:j=i
    ·subst e;rw[hr]at h1;simp at h1;subst h1;exact .inl h3
    ·refine .inr (.inr ⟨j,r,h1,?_,h3⟩);rw[p_]at h2⊢;rw[← hne j e];exact h2
end
include ok eqok cfok in
theorem Aqo{cx:Cx}{a:Act}{w:World}(h:StepR cf cx.nt ops o s out)(r:Rel G cx s a w){K:Act→World→Prop}{Q:Exit→Act→World→Prop}
  (hK:∀a' w',Rel G cx (s.next o.dst out) a' w'→K a' w'):if Region.wanted o (yielded ops a.tmps)then o.wp P a w K Q else K (a.put o.dst undef) w:=by
 cases h with
 |act g hd hg hn hact hf=>
  refine Uy ok eqok cfok (.act g out hd hg hn hact hf rfl) r λa' w' r'=>hK a' w' (r'.ext ?_);cases g with
  |none=>exact ExtEq.rfl'
  |some p=>exact((RQ (hg p rfl).1).symm).next _ _
 |skip p j want hd hp hg hj hw e=>subst e;refine Uy ok eqok cfok (.skip p j want hd hp hg hj hw rfl) r λa' w' r'=>hK a' w' (r'.ext ?_);refine ExtEq.trans Yy ?_;exact((RQ hp).symm).next _ _
 |skipU gs j want hd hp hg hj e=>subst e;exact Uy ok eqok cfok (.skipU gs j want hd hp hg hj rfl) r λa' w' r'=>hK a' w' (r'.ext Yy)
end
end Go.Ab
namespace Go.Ab
variable{G:aB}
variable{Q:Exit→Act→World→Prop}{listed:Array Bool}{sf:Nat→Prop}{i:Nat}
def Yw{α:Type}{p q:α→Bool}:∀(l:List α) (x:α),x∈l→(∀y∈l,q y=J→p y=J)→p x=J→q x=V→l.countP q<l.countP p
 |[],_,h,_,_,_=>by simp at h
 |y::t,x,h,hi,hp,hq=>by
  rcases y_.1 h with rfl | h
  ·rw[List.countP_cons_of_neg (by simp[hq]),bC hp]
   have:t.countP q≤t.countP p:=List.countP_mono_left λz hz hqz=>hi z (by simp[hz]) hqz
   omega
  ·have ih:=Yw t x h (λz hz=>hi z (by simp[hz])) hp hq;cases hy:q y with
   |false=>rw[List.countP_cons_of_neg (by simp[hy])];rw[List.countP_cons];omega
   |true=>rw[bC hy,bC (hi y (by simp) hy)];omega
section
variable{P:Program}(ok:aP P G)(eqok:EqOK P G){cf:Bj G}(cfok:CfOK P G cf)(cfl:Uc cf){nt:Nat}{ops:Array Oper}
variable{st:U G}{outs:List (Z G)}
def left(n:Nat)(listed:Array Bool):Nat:=(List.range n).countP λi=>!listed.getD i J
theorem OL(h:i<listed.size)(j:Nat)(d:Bool):(listed.setIfInBounds i J).getD j d=if j=i then J else listed.getD j d:=by
 simp only[m_,c5_];by_cases e:j=i
 ·subst e;simp[h]
 ·simp[Y_ e,e]
theorem OK{n:Nat}(hs:listed.size=n)(hi:i<n)(d d':Bool):listed.getD i d=listed.getD i d':=by simp[m_,hs,hi]
theorem TF:i∈Region.ready .any ops listed↔i<ops.size∧listed.getD i J=V∧∃o,ops[i]?=C o∧∀e∈o.after.toList,Region.binds .any e=J→listed.getD e.on V=J:=by
 unfold Region.ready;rw[List.mem_filter,List.mem_range];constructor
 ·rintro⟨h1,h2⟩;rw[b_,W_]at h2;refine⟨h1,h2.1,ops[i],K_ h1,?_⟩;have h3:=h2.2;rw[K_ h1]at h3;simp only[b8_,Option.getD_some]at h3;intro e he hb;rw[← Array.all_toList,F_]at h3
  have:=h3 e he
  rw[hb]at this;simpa using this
 ·rintro⟨h1,h2,o,h3,h4⟩;refine⟨h1,?_⟩;rw[h2,h3];simp only[Bool.not_false,b8_,Option.getD_some,a5_];rw[← Array.all_toList,F_];intro e he;cases hb:Region.binds .any e with
  |false=>rfl
  |true=>simpa using h4 e he hb
include ok eqok cfok cfl in
theorem Ale{cx:Cx}(dn:Done cf cx.nt ops st outs sf)(hQ:∀a' w',Rel G cx (Ay (λ_=>J) 0 (Ci ops.toList outs) st) a' w'→Q .normal a' w'):
  ∀(BZ:Nat) (listed:Array Bool) (a:Act) (w:World),listed.size=ops.size→Down ops (λi=>listed.getD i V)→left ops.size listed≤BZ→
   Rel G cx (Ay (λi=>listed.getD i V) 0 (Ci ops.toList outs) st) a w→wpAny P .any ops Q BZ listed a w:=by
 have full:∀(listed:Array Bool) (a:Act) (w:World),listed.size=ops.size→(∀i,i<ops.size→listed.getD i V=J)→Rel G cx (Ay (λi=>listed.getD i V) 0 (Ci ops.toList outs) st) a w→Q .normal a w:=by
  intro listed a w _ hall r;refine hQ a w (r.ext (Lu _ _ _ _ _ (λi hi=>?_) ExtEq.rfl'));rw[p_];refine hall i ?_
  have:=(IB (f_ hi)).choose_spec.1
  have:=(a_.1 this).1
  simpa using this
 have none_ready:∀(listed:Array Bool),listed.size=ops.size→Region.ready .any ops listed=[]→∀(n i:Nat),i<n→i<ops.size→listed.getD i V=J:=by
  intro listed hs hr n;induction n with
  |zero=>intro i h;omega
  |succ n ih=>
   intro i hin hi;cases hb:listed.getD i V with
   |true=>rfl
   |false=>
    have:i∈Region.ready .any ops listed:=by refine TF.2 ⟨hi,by rw[OK hs hi J V];exact hb,ops[i],K_ hi,λe he hbd=>?_⟩;have hlt:=Nl dn.edges i ops[i] (by simp[hi]) e he hbd;exact ih e.on ω ω
    rw[hr]at this;simp at this
 intro BZ;induction BZ with
 |zero=>
  intro listed a w hs hD hl r;have hall:∀i,i<ops.size→listed.getD i V=J:=by
   intro i hi;have h0:left ops.size listed=0:=ω;unfold left at h0;rw[List.countP_eq_zero]at h0
   have:=h0 i (by simp[hi])
   simp only[W_,Bool.not_eq_false]at this;rw[OK hs hi V J];exact this
  refine⟨?_,full listed a w hs hall r⟩;cases hr:Region.ready .any ops listed with
  |nil=>rfl
  |cons i t=>
   have:i∈Region.ready .any ops listed:=by rw[hr];simp
   obtain⟨h1,h2,_⟩:=TF.1 this;rw[OK hs h1 J V,hall i h1]at h2;simp at h2
 |succ BZ ih=>
  intro listed a w hs hD hl r;refine⟨λhr=>full listed a w hs (λi hi=>none_ready listed hs hr (i+1) i ω hi) r,λi hi=>?_⟩;obtain⟨h1,h2,o,ho,hpre⟩:=TF.1 hi;rw[OK hs h1 J V]at h2;have hlen:i<outs.length:=by rw[dn.len];exact h1
  have hout:outs[i]?=C outs[i]:=f_ hlen;have hstep:=Aqp cfl dn hD ho hout h2 hpre;have hnext:=Ap3 dn hD ho hout h2 hpre (D':=λj=>(listed.setIfInBounds i J).getD j V) (by show Array.getD _ _ _=J;rw[OL ω];simp)
   (λj hj=>by show Array.getD _ _ _=_;rw[OL ω,if_neg hj])
  have hD':Down ops (λj=>(listed.setIfInBounds i J).getD j V):=by
   intro j p hp hj e he hb;show Array.getD _ _ _=J;have hj:Array.getD _ _ _=J:=hj;rw[OL ω]at hj⊢;by_cases e1:e.on=i
   ·rw[if_pos e1]
   ·rw[if_neg e1];by_cases e2:j=i
    ·subst e2;rw[ho]at hp;simp at hp;subst hp;exact hpre e he hb
    ·rw[if_neg e2]at hj;exact hD j p hp hj e he hb
  have hwp:=Aqo ok eqok cfok hstep r (K:=wpAny P .any ops Q BZ (listed.setIfInBounds i J)) (Q:=Q) λa' w' r'=>
   ih (listed.setIfInBounds i J) a' w' (by simp[hs]) hD' (by
    have:left ops.size (listed.setIfInBounds i J)<left ops.size listed:=by
     refine Yw _ i (by simp[h1]) (λj _ hq=>?_) (by rw[OK hs h1 J V,h2];rfl) (by rw[OL ω];simp);rw[OL ω]at hq;by_cases e:j=i
     ·rw[if_pos e]at hq;simp at hq
     ·rw[if_neg e]at hq;exact hq
    omega) (r'.ext hnext)
  unfold wpOp;rw[ho];simp only;by_cases hw:Region.wanted o (yielded ops a.tmps)=J
  ·rw[if_pos hw]at hwp⊢;exact .inl hwp
  ·rw[if_neg hw]at hwp⊢;exact hwp
include ok eqok cfok cfl in
theorem Adg(hm:P.follows .mixedOrders=J){st1:U G}{cx:Cx}{a:Act}{w:World}{id:Nat}(dn:Done cf cx.nt ops st outs sf)(e2:ExtEq st1 (Ay (λ_=>J) 0 (Ci ops.toList outs) st))(hrel:Rel G cx st a w)(hQ:∀a' w',Rel G cx st1 a' w'→Q .normal a' w'):(Code.region id ops J).wp P Q a w:=by
 refine wp_region_any hm (Ale ok eqok cfok cfl dn (λa' w' r'=>hQ a' w' (r'.ext e2.symm)) ops.size _ a _ (by simp) ?_ ?_ ?_)
 ·intro j o _ hj;have hj:(aU ops.size V).getD j V=J:=hj;simp[m_,bB]at hj;split at hj<;>simp at hj
 ·exact a3_ List.countP_le_length (by simp)
 ·refine(hrel.drawn _).ext ?_
  have:Ay (λi=>(aU ops.size V).getD i V) 0 (Ci ops.toList outs) st=st:=by
   have e:(λi=>(aU ops.size V).getD i V)=λ_=>V:=by funext i;simp only[m_,bB];split<;>rfl
   rw[e,HL]
  rw[this];exact ExtEq.rfl'
include ok eqok cfok cfl in
theorem MI(hm:P.follows .mixedOrders=J):DrawOK P G nt (MH cf nt):=by refine⟨λops st=>Ac (Aj _) λ_=>Ac (Md cfok _ _) λ_=>Ac (Aj _) λ_=>Ag _,?_⟩;intro ops st st' h cx a w id Q hnt hrel hQ;subst hnt;unfold MH at h;obtain⟨h1,h2⟩:=aI h;obtain⟨⟨outs,st1⟩,h3,h4⟩:=(Md cfok (ops:=ops) ops.toList st).spec (aR h2);obtain⟨h5,h6⟩:=aI h4;simp[aF]at h6;subst h6;obtain⟨e1,e2,e3⟩:=TT cfok ops.toList st st1 outs h3;rw[b_]at h1;refine Adg ok eqok cfok cfl hm (sf:=λ_=>False) ⟨by simpa using e1,h1.1,h1.2,λi j x y hij hx hy=>?_,λ_ h=>h.elim,λi o out hi ho=>e3 i o out (by simpa using hi) ho⟩ e2 hrel hQ;refine(NR h5 i j x y hij hx hy).symm.imp (λh=>h) λh=>?_;simp only[Alf,b_]at h;exact⟨Iz h.1.2,λ_=>Iz h.1.1,λ_=>Iz h.2⟩
end
end Go.Ab
namespace Go.Ab
variable{G:aB}
section
variable{P:Program}(ok:aP P G)(eqok:EqOK P G){cf:Bj G}(cfok:CfOK P G cf){nt:Nat}{drawn:Array Oper→U G→M (U G)}(dok:DrawOK P G nt drawn)
 {lp:Nat→U G→M (Ex×U G)}{kl:Nat→List Nat}{jn:Nat→Option (List (Ex×aC))}
include ok eqok cfok dok in
theorem YT{S:aC}{E:List (Ex×aC)}{c:Code}{n:Nat}(hl:∀(k:Nat) c',(AH c)[k]?=C c'→aM P G nt (lp (n+k)) c'){cx:Cx}(hnt:cx.nt=nt)(hnu:∀n y,cx.nu0 n=C y→lo≤n)
  {y:DL G E}{ex:Ex}{st':U G}(hy:DM E y C=C (ex,st')) {Q:Exit→Act→World→Prop}(hQ:∀e a' w',ExR ex e→Rel G cx st' a' w'→Q e a' w') :
  ∀(f:Nat) (x:S.T G) (a:Act) (w:World),iter (MO S E (Bu cf nt drawn lp kl jn n c)) f x=C y→Rel G cx (S.mk' x) a w→Code.rounds P c Q f a w
 |0,_,_,_,h,_=>by simp[iter]at h
 |f+1,x,a,w,h,r=>by
  rw[rounds_succ];have hlaw:=Db cfok dok (kl:=kl) (jn:=jn) c n (S.mk' x) hl;simp only[iter]at h;have hround:MO S E (Bu cf nt drawn lp kl jn n c) x=(Bu cf nt drawn lp kl jn n c (S.mk' x) _ C).bind λp=>Aby S E p.1 p.2:=hlaw _ _;rw[hround]at h;cases hv:Bu cf nt drawn lp kl jn n c (S.mk' x) _ C with
  |none=>rw[hv]at h;simp[ME]at h
  |some p=>
   obtain⟨e,st1⟩:=p;rw[hv]at h;have h:ME (iter (MO S E (Bu cf nt drawn lp kl jn n c)) f) (Aby S E e st1)=C y:=h;refine Ej ok eqok cfok dok hnt hnu c n _ st1 e a w _ hl hv r λe' a' w' he r'=>?_;have hout:∀z,EQ E e st1=C z→z=y→Q e' a' w':=by intro z hz e1;subst e1;obtain⟨st2,h2,h3⟩:=PG hnu E hz r' C _ hy;simp at h2;obtain⟨rfl,rfl⟩:=h2;exact hQ _ _ _ he h3
   have hiter:∀o:Option (Sum (S.T G) (DL G E)),ME (iter (MO S E (Bu cf nt drawn lp kl jn n c)) f) o=C y→(∃x1,o=C (.inl x1)∧iter (MO S E (Bu cf nt drawn lp kl jn n c)) f x1=C y)∨o=C (.inr y):=by
    intro o ho;unfold ME at ho;split at ho
    ·exact .inl ⟨_,rfl,ho⟩
    ·simp at ho;subst ho;exact .inr rfl
    ·simp at ho
   have hrest:∀(hne:e≠ .normal),Aby S E e st1=(match EQ E e st1 with | some y=>C (Sum.inr (α:=S.T G) y) | none=>N):=by
    intro hne;cases e with
    |normal=>exact absurd rfl hne
    |exit i=>rfl
    |ret=>rfl
   by_cases hne:e=.normal
   ·subst hne;have hn:Aby S E .normal st1=(match S.take st1 with | some x=>C (Sum.inl (β:=DL G E) x) | none=>N):=rfl;rw[Ht he];rcases hiter _ h with⟨x1,h1,h2⟩ | h1
    ·rw[hn]at h1;split at h1
     ·rename_i x2 hx2
      have:x2=x1:=by simpa using h1
      subst this;exact YT hl hnt hnu hy hQ f x2 a' w' h2 (Spec.take_rel hx2 r' hnu)
     ·simp at h1
    ·rw[hn]at h1;split at h1<;>simp at h1
   ·have hr:=hrest hne;rcases hiter _ h with⟨x1,h1,h2⟩ | h1
    ·rw[hr]at h1;split at h1<;>simp at h1
    ·rw[hr]at h1;split at h1
     ·rename_i z hz;have hz2:=hout z hz (by simpa using h1);cases e with
      |normal=>exact absurd rfl hne
      |exit i=>rw[Rx he]at hz2⊢;exact hz2
      |ret=>rw[NU he]at hz2⊢;exact hz2
     ·simp at h1
include ok eqok cfok dok in
theorem Bd5{S:aC}{E:List (Ex×aC)}{c:Code}{n:Nat}(hl:∀(k:Nat) c',(AH c)[k]?=C c'→aM P G nt (lp (n+k)) c'){L:S.T G→Option (DL G E)}
  (hL:∀x y,L x=C y→∃f,iter (MO S E (Bu cf nt drawn lp kl jn n c)) f x=C y):aM P G nt (lpX S E L) c:=by
 refine⟨λst R k=>?_,λst ex st' h cx a w Q hnt hnu r hQ=>?_⟩
 ·unfold lpX;cases S.take st with
  |none=>rfl
  |some x=>
   simp only;cases L x with
   |none=>rfl
   |some y=>exact Km E y k
 ·unfold lpX at h;cases hx:S.take st with
  |none=>rw[hx]at h;simp at h
  |some x=>
   rw[hx]at h;simp only at h;cases hy:L x with
   |none=>rw[hy]at h;simp at h
   |some y=>rw[hy]at h;obtain⟨f,hf⟩:=hL x y hy;exact wp_loop_rounds f (YT ok eqok cfok dok hl hnt hnu h hQ f x a w hf (Spec.take_rel hx r hnu))
end
end Go.Ab
namespace Go.Ab
variable{G:aB}
variable{h:Nat→Option (aA G.T)}{Q:Nat→Code→Prop}{l:List (Nat×Fe G)}{ν:Nat→Option Value}{g:Nat→Option Nat}{n:Nat}{ns:List Nat}{c:Cv G.T}{P:Program}{v:Value}
section
variable{h h':Nat→Option (aA G.T)}
def YU{t:Nat}(hh:h' n=h n):RX h' n t=RX h n t:=by unfold RX;rw[hh]
def Zb{s:aD}(hh:∀n∈c.ows,h' n=h n):s.take h' c=s.take h c:=by
 cases c with
 |own n=>
  have:=hh n (by simp[Cv.ows])
  cases s with
  |own m t=>simp only[CSh.take];rw[YU this]
  |ro t=>simp only[CSh.take];rw[YU this]
  |_=>rfl
 |sc v=>cases s<;>first | rfl | (cases v<;>rfl)
 |_=>cases s<;>rfl
def TX:∀{s:List aD}{cs:List (Cv G.T)},(∀c∈cs,∀n∈c.ows,h' n=h n)→Hw h' s cs=Hw h s cs
 |[],[],_=>rfl
 |[],_::_,_=>rfl
 |_::_,[],_=>rfl
 |s::ss,c::cs,hh=>by simp only[Hw];rw[Zb (hh c (by simp)),TX λc hc=>hh c (by simp[hc])]
def Amw{s:aE}{x:Pv G.T}(hh:∀c∈x.cells,∀n∈c.ows,h' n=h n):s.take h' x=s.take h x:=by
 cases s with
 |one s=>cases x with
  |one c=>exact Zb (hh c (by simp[Pv.cells]))
  |agg cs=>rfl
 |agg ss=>cases x with
  |one c=>rfl
  |agg cs=>exact TX hh
def XE{tm:List (Nat×Sv G.T)}(hh:∀k x,O tm k=C (.p x)→∀c∈x.cells,∀n∈c.ows,h' n=h n):∀(s:List (Nat×aE)),GV h' tm s=GV h tm s
 |[]=>rfl
 |p::t=>by
  simp only[GV];cases hg:O tm p.1 with
  |none=>rfl
  |some v=>
   cases v with
   |tup _=>rfl
   |p c=>simp only;rw[Amw (hh _ _ hg),XE hh t]
def XD:∀(s:List (Nat×List aD)),(∀n∈An s,h' n=h n∧∀cs,h n=C (.cells cs)→∀c∈cs,∀n∈c.ows,h' n=h n)→GU h' s=GU h s
 |[],_=>rfl
 |p::t,hh=>by
  have h1:=hh p.1 (by simp[An]);simp only[GU];rw[h1.1];cases hg:h p.1 with
  |none=>rfl
  |some k=>
   cases k with
   |row _ _=>rfl
   |cells cs=>simp only;rw[TX (h1.2 cs hg),XD t λn hn=>hh n (by simp[An,hn])]
end
def Adu{T:Nat→Type}{c c':Cv T}(h:c.ren (Wa ns) g=C c'):∀n∈c'.ows,n∈c.ows∧n<lo∧n∉ns:=by
 cases c with
 |own n=>
  simp only[Cv.ren]at h;split at h
  ·rename_i m hm;cases h;obtain⟨rfl,h2,h3⟩:=YV hm;intro n hn;simp[Cv.ows]at hn⊢;subst hn;exact⟨rfl,h2,h3⟩
  ·cases h
 |ptr n off=>simp only[Cv.ren]at h;split at h<;>cases h;simp[Cv.ows]
 |clo k p q=>simp only[Cv.ren]at h;split at h<;>cases h;simp[Cv.ows]
 |np n t=>simp only[Cv.ren]at h;split at h<;>cases h;simp[Cv.ows]
 |sc v=>cases h;simp[Cv.ows]
 |ro t l=>cases h;simp[Cv.ows]
 |rp t x o=>cases h;simp[Cv.ows]
 |pd _ _ _ _ _=>cases h
 |pr _ _ _ _=>cases h
 |sa _ _ _=>cases h
def Ab5{T:Nat→Type}{cs cs':List (Cv T)}(h:BM (Cv.ren (Wa ns) g) cs=C cs'):∀c'∈cs',∀n∈c'.ows,(∃c∈cs,n∈c.ows)∧n<lo∧n∉ns:=by
 intro c' hc' n hn;obtain⟨m1,m2⟩:=BB _ _ h;obtain⟨i,hi⟩:=a4_.1 hc';have hi':i<cs.length:=by have:=(a_.1 hi).1;omega
 obtain⟨z,hz,hfz⟩:=m2 i _ (f_ hi');rw[hi]at hz;cases hz;obtain⟨q1,q2⟩:=Adu hfz n hn;exact⟨⟨cs[i],a8_ hi',q1⟩,q2⟩
def XG{ns:List Nat}{h1 h1':Nat→Option (aA G.T)}{nm:Nat}{rd rd':List Nat}{args:List (Pv G.T)}{g:Nat}(hrd:rd'=rd):∀(l:List (Nat×Fe G)),(∀I:aC,Ms I h1' ns.length args=Ms I h1 ns.length args)→
  Pa ns h1' nm rd' args g l=Pa ns h1 nm rd args g l
 |[],_=>rfl
 |p::r,h=>by subst hrd;funext R k;simp only[Pa];rw[h p.2.I,XG rfl r h]
def Atp(l:List (Nat×Fe G)):Uc (cfP l):=by
 intro g args h h' nm out ha hh;unfold cfP at ha⊢;generalize hns:RV args=ns at ha⊢;obtain⟨args',hargs',h1⟩:=aJ ha;obtain⟨hnd,h2⟩:=aI h1;have hrd:out.rd=ns++PD ns h args:=by obtain⟨p,_,_,t,_,hc⟩:=PH h2;obtain⟨y,p,s,bl,_,_,_,hf⟩:=WJ hc;obtain⟨_,_,_,_,_,_,_,_,_,rfl,_⟩:=YA hf;rfl
 rw[hrd]at hh;have hn1:∀n∈ns,h' n=h n:=λn hn=>hh n (by simp[hn]);have hown:PD ns h' args=PD ns h args:=by
  unfold PD;congr 1
  have:∀l:List Nat,(∀n∈l,h' n=h n)→(l.flatMap λn=>match h' n with | some (.cells cs)=>cs.flatMap Cv.ows | _=>[])=l.flatMap λn=>match h n with | some (.cells cs)=>cs.flatMap Cv.ows | _=>[]:=by
   intro l;induction l with
   |nil=>intro _;rfl
   |cons a t ih=>intro hl;simp only[List.flatMap_cons];rw[hl a (by simp),ih λn hn=>hl n (by simp[hn])]
  exact this ns hn1
 have hblk:∀(i n:Nat),ns[i]?=C n→DE ns h' (lo+i)=DE ns h (lo+i):=by intro i n hi;unfold DE;rw[IT.2 (by omega:lo≤lo+i)];simp only[e_,U_,hi];rw[hn1 n (l_ hi)]
 have hrow:∀n,n<lo→(n∈ns∨n∈PD ns h args)→DE ns h' n=DE ns h n:=by
  intro n hn hm;unfold DE;cases hb:aO lo n with
  |true=>have:=IT.1 hb;omega
  |false=>
   simp only[c_];cases hc:has ns n with
   |true=>rfl
   |false=>simp only[c_];rw[hh n (by rcases hm with hm | hm<;>simp[hm])]
 have htake:∀I:aC,Ms I (DE ns h') ns.length args'=Ms I (DE ns h) ns.length args':=by
  intro I;unfold Ms;cases hb:aG args'.length I.tm.length&&aG ns.length I.hp.length&&QL lo (An I.hp)with
  |false=>rfl
  |true=>
   simp only[b_,Ap]at hb;obtain⟨⟨hb1,hb2⟩,hb3⟩:=hb;have hl:∀l:List (Nat×List aD),(An l).length=l.length:=by intro l;induction l with | nil=>rfl | cons p t ih=>simp[An,ih]
   have e1:GV (DE ns h') (Gh 0 (args'.map Sv.p)) I.tm=GV (DE ns h) (Gh 0 (args'.map Sv.p)) I.tm:=by
    refine XE (λk x hk c hc n hn=>?_) I.tm;rw[RI]at hk;simp at hk;have hx:=l_ hk;obtain⟨m1,m2⟩:=BB _ _ hargs';obtain⟨i,hi⟩:=a4_.1 hx;have hi':i<args.length:=by have:=(a_.1 hi).1;omega
    obtain⟨z,hz,hfz⟩:=m2 i _ (f_ hi');rw[hi]at hz;cases hz;have key:(∃c0∈(args[i]).cells,n∈c0.ows)∧n<lo∧n∉ns:=by
     generalize args[i]=u at hfz;cases u with
     |one c0=>
      simp only[Pv.ren]at hfz;split at hfz
      ·rename_i c1 hc1;cases hfz;simp[Pv.cells]at hc;subst hc;obtain⟨q1,q2⟩:=Adu hc1 n hn;exact⟨⟨c0,by simp[Pv.cells],q1⟩,q2⟩
      ·cases hfz
     |agg cs=>
      simp only[Pv.ren]at hfz;split at hfz
      ·rename_i cs1 hcs1;cases hfz;exact Ab5 hcs1 c hc n hn
      ·cases hfz
    obtain⟨⟨c0,k1,k2⟩,k3,k4⟩:=key;refine hrow n k3 (.inr ?_);unfold PD;exact D_.2 (.inl (c9_.2 ⟨args[i],a8_ hi',c9_.2 ⟨c0,k1,k2⟩⟩))
   have e2:GU (DE ns h') I.hp=GU (DE ns h) I.hp:=by
    refine XD I.hp λn hn=>?_;obtain⟨i,hi⟩:=a4_.1 hn;have hni:=Qg hb3 i n hi;have hil:i<ns.length:=by have:=(a_.1 hi).1;rw[hl]at this;omega
    have hi2:=f_ hil;subst hni;refine⟨hblk i _ hi2,λcs hcs c hc n hn=>?_⟩;unfold DE at hcs;rw[IT.2 (by omega:lo≤lo+i)]at hcs;simp only[e_,U_,hi2]at hcs;unfold Ae1 at hcs;split at hcs
    ·rename_i cs0 hcs0;split at hcs
     ·rename_i cs1 hcs1;cases hcs;obtain⟨⟨c0,k1,k2⟩,k3,k4⟩:=Ab5 hcs1 c hc n hn;refine hrow n k3 (.inr ?_);unfold PD;refine D_.2 (.inr (c9_.2 ⟨ns[i],a8_ hil,?_⟩));rw[hcs0];exact c9_.2 ⟨c0,k1,k2⟩
     ·cases hcs
    ·cases hcs
   rw[e1,e2]
 simp only[aH,aN,hargs',aK,hnd,e_];rw[XG (by rw[hown]) l htake];exact h2
def Ec(h:Nat→Option (aA G.T)):Cv G.T→Option (Cv G.T)
 | .sc v=>C (.sc v)
 | .ro t l=>C (.ro t l)
 | .own m=>match h m with | some (.row t l)=>C (.ro t l) | _=>N
 |_=>N
def Ut(h:Nat→Option (aA G.T))(n ty:Nat):Option (G.T ty):=match h n with
 |some (.cells cs)=>match BM (Ec h) cs with | some cs'=>bif aG cs'.length (G.sz ty)then G.dec ty cs' else N | none=>N
 |_=>N
def OQ(h:Nat→Option (aA G.T))(n:Nat):List Nat:=match h n with
 |some (.cells cs)=>cs.flatMap Cv.ows
 |_=>[]
def ML:List (Nat×Fe G)→Nat→Option Nat
 |[],_=>N
 |p::r,g=>bif aG p.1 g then match p.2.I.tm with
   |[(_,.one (.rp ty 0))]=>C ty
   |_=>ML r g
  else ML r g
def RD(G:aB):List (Nat×Option (aA G.T))→Bool
 |[]=>J
 |(_,C (.row t _))::r=>G.flat t&&RD G r
 |_::_=>V
def Af8{T:Nat→Type}:Option (Sv T)→Bool
 |some s=>s.cells.all NJ
 |none=>J
def Xe(l:List (Nat×Fe G))(ty n g:Nat)(h:Nat→Option (aA G.T))(nm:Nat):M (Z G):=aH (aN (Ut h n ty)) λx=>aH (cfP l g [.one (.rp ty x 0)] (λ_=>N) nm) λout=>aH (aK (Af8 out.v&&RD G out.d)) λ_=>aF ⟨out.v,out.d,out.nw,n::OQ h n⟩
def cfQ(l:List (Nat×Fe G)):Bj G:=λg args h nm=>match args with
 |[.one (.ptr n 0)]=>match ML l g with
  |some ty=>Xe l ty n g h nm
  |none=>cfP l g args h nm
 |_=>cfP l g args h nm
def Aah{g nm:Nat}{args:List (Pv G.T)}(hn:¬∃n ty,args=[.one (.ptr n 0)]∧ML l g=C ty):cfQ l g args h nm=cfP l g args h nm:=by
 unfold cfQ;split
 ·split
  ·rename_i n _ ty hty;exact absurd ⟨n,ty,rfl,hty⟩ hn
  ·rfl
 ·rfl
def XU{g nm ty:Nat}(hty:ML l g=C ty):cfQ l g [.one (.ptr n 0)] h nm=Xe l ty n g h nm:=by unfold cfQ;simp only[hty]
def Abq{h':Nat→Option (aA G.T)}(hh:∀m∈c.ows,h' m=h m):Ec h' c=Ec h c:=by
 cases c with
 |own m=>simp only[Ec];rw[hh m (by simp[Cv.ows])]
 |_=>rfl
def SH{h h':Nat→Option (aA G.T)}:∀{cs:List (Cv G.T)},(∀m∈cs.flatMap Cv.ows,h' m=h m)→BM (Ec h') cs=BM (Ec h) cs
 |[],_=>rfl
 |c::t,hh=>by simp only[List.flatMap_cons,D_]at hh;simp only[BM];rw[Abq λm hm=>hh m (.inl hm),SH λm hm=>hh m (.inr hm)]
def Xf{ty g nm:Nat}{out:Z G}(ha:Xe l ty n g h nm (Z G) C=C out):
  ∃x out1,Ut h n ty=C x∧cfP l g [.one (.rp ty x 0)] (λ_=>N) nm (Z G) C=C out1∧Af8 out1.v=J∧RD G out1.d=J∧out=⟨out1.v,out1.d,out1.nw,n::OQ h n⟩:=by
 unfold Xe at ha;obtain⟨x,hx,h1⟩:=aJ ha;have hl:Law (cfP l g [.one (.rp ty x 0)] (λ_=>N) nm):=Ac (Aw _) λ_=>Ac (Aj _) λ_=>VT _ _ _ _ _ _ _;obtain⟨out1,h2,h3⟩:=hl.spec h1;obtain⟨hf,h4⟩:=aI h3;rw[b_]at hf;simp[aF]at h4;exact⟨x,out1,hx,h2,hf.1,hf.2,h4.symm⟩
def QG(l:List (Nat×Fe G)):Uc (cfQ l):=by
 intro g args h h' nm out ha hh;by_cases hn:∃n ty,args=[.one (.ptr n 0)]∧ML l g=C ty
 ·obtain⟨n,ty,rfl,hty⟩:=hn;rw[XU hty]at ha⊢;obtain⟨x,out1,hx,_,_,_,rfl⟩:=Xf ha;simp only at hh;have h1:h' n=h n:=hh n (by simp);have e:Ut h' n ty=Ut h n ty:=by
   unfold Ut;rw[h1];cases hc:h n with
   |none=>rfl
   |some k=>
    cases k with
    |row=>rfl
    |cells cs=>
     have:∀m∈cs.flatMap Cv.ows,h' m=h m:=λm hm=>hh m (by
      have:OQ h n=cs.flatMap Cv.ows:=by unfold OQ;rw[hc]
      rw[this];simp[hm])
     simp only[SH this]
  have eo:OQ h' n=OQ h n:=by unfold OQ;rw[h1]
  unfold Xe at ha⊢;rw[e,eo];exact ha
 ·rw[Aah hn]at ha⊢;exact Atp l g args h h' nm out ha hh
def Af9{s:Sv G.T}{S S':Nat→Prop}{h:Array Obj}(hf:Af8 (C s)=J)(r:Rs G ν S h s v):Rs G ν S' h s v:=Adz (λc hc=>F_.1 hf c hc) r
def WV:∀{d:List (Nat×Option (aA G.T))}{h:Nat→Option (aA G.T)}{n:Nat}{k:aA G.T},RD G d=J→n∈Bd d→AJ h d n=C k→∃t l,k=.row t l∧G.flat t=J
 |[],_,_,_,_,hn,_=>by simp[Bd]at hn
 |(m,q)::t,h,n,k,hf,hn,hk=>by
  cases q with
  |none=>simp[RD]at hf
  |some q=>
   cases q with
   |cells cs=>simp[RD]at hf
   |row u l=>
    simp only[RD,b_]at hf;simp only[AJ]at hk;by_cases ht:n∈Bd t
    ·exact WV hf.2 ht hk
    ·rw[Hp t _ n ht]at hk;simp only[Bd,y_]at hn;have hn:n=m:=hn.resolve_right ht;subst hn;simp at hk;exact⟨u,l,hk.symm,hf.1⟩
def Aqa(ok:aP P G){S S':Nat→Prop}{h:Array Obj}{t:Nat}{l:List (G.T t)}(hf:G.flat t=J)(r:Rb G ν S h n (.row t l)):Rb G ν S' h n (.row t l):=by
 rcases r with r | ⟨b,cap,c,te,h1,h2,h3,h4,h5,h6⟩
 ·exact .inl r
 ·refine .inr ⟨b,cap,c,te,h1,h2,h3,h4,λi j x cv hx hc=>?_,h6⟩;obtain⟨v,hv,hr⟩:=h5 i j x cv hx hc;refine⟨v,hv,?_⟩;obtain⟨u,rfl⟩:=ok.flatd t x cv hf (l_ hc);cases hr with
  |sc _ hs=>exact .sc _ hs
def At1{S S2 B:Nat→Prop}{w:World}(hr:HRel G ν S B h w)(hS:∀b,S b→S2 b){c2:Cv G.T}(hc:Ec h c=C c2)(hv:Rc G ν S w.heap c v)
  (hL:∀m∈c.ows,∀z b,ν m=C z→At z=C b→S2 b):Rd G S2 w.heap c2 v:=by
 cases c with
 |sc u=>simp[Ec]at hc;subst hc;exact Rd.mono hS (λ_ _=>rfl) hv
 |ro t l=>simp[Ec]at hc;subst hc;exact Rd.mono hS (λ_ _=>rfl) hv
 |own m=>
  simp only[Ec]at hc;split at hc
  ·rename_i t l hm;simp at hc;subst hc;obtain⟨a,len,cap,hν,rfl⟩:=hv;rcases hr.blk m _ hm with⟨h1,rfl⟩ | ⟨b,cap',c,te,h1,h2,h3,h4,h5,h6⟩
   ·rw[h1]at hν;have hν:=n_ hν;rw[← hν];exact .nil t N 0
   ·rw[h1]at hν;have hν:=n_ hν;rw[← hν];have hcell:∀i j,i<l.length→j<G.sz t→c[0+i*G.sz t+j]?=C (c.getD (0+i*G.sz t+j) undef):=λi j hi hj=>by
     have:0+i*G.sz t+j<c.size:=by
      rw[h4];have h7:(i+1)*G.sz t≤cap'*G.sz t:=w_ _ ω;have h8:(i+1)*G.sz t=i*G.sz t+G.sz t:=by rw[J_,aZ]
      omega
     rw[K_ this,m_,K_ this];rfl
    refine .ro t l b 0 cap' c te (0,0) (λi j=>c.getD (0+i*G.sz t+j) undef) (hL m (by simp[Cv.ows]) _ b h1 rfl) h2 h3 hcell λi j x cv hx hcv=>?_;obtain⟨u,hu,hru⟩:=h5 i j x cv hx hcv
    have:c.getD (0+i*G.sz t+j) undef=u:=by rw[p_,m_,hu];rfl
    rw[this];exact Rd.mono hS (λ_ _=>rfl) hru
  ·cases hc
 |_=>simp[Ec]at hc
def Ix(ok:aP P G)(hT:∀p∈l,BX P G p.1 p.2):CfOK P G (cfQ l):=by
 have hP:=Axv ok hT;refine⟨λg args h nm=>?_,λg args h nm out hout=>?_⟩
 ·by_cases hn:∃n ty,args=[.one (.ptr n 0)]∧ML l g=C ty
  ·obtain⟨n,ty,rfl,hty⟩:=hn;rw[XU hty];exact Ac (Aw _) λ_=>Ac (hP.law _ _ _ _) λ_=>Ac (Aj _) λ_=>Ag _
  ·rw[Aah hn];exact hP.law _ _ _ _
 by_cases hn:∃n ty,args=[.one (.ptr n 0)]∧ML l g=C ty
 ·obtain⟨n,ty,rfl,hty⟩:=hn;rw[XU hty]at hout;obtain⟨x,out1,hx,hcall,hfv,hfd,rfl⟩:=Xf hout;obtain⟨hent,hspec⟩:=hP.calls _ _ _ _ _ hcall;refine⟨hent,λν S B w vals hr hB hfr hvals=>?_⟩;simp only at hfr;unfold Ut at hx;cases hcs:h n with
  |none=>rw[hcs]at hx;simp at hx
  |some k=>
  cases k with
  |row t l=>rw[hcs]at hx;simp at hx
  |cells cs=>
  rw[hcs]at hx;simp only at hx;cases hmo:BM (Ec h) cs with
  |none=>rw[hmo]at hx;simp at hx
  |some cs'=>
  rw[hmo]at hx;simp only at hx;cases hln:aG cs'.length (G.sz ty)with
  |false=>rw[hln]at hx;simp at hx
  |true=>
  rw[hln]at hx;simp only[e_]at hx;have hln:=Ap.1 hln;have hxe:=ok.encdec ty cs' x hx;obtain⟨hm1,hm2⟩:=BB _ _ hmo;obtain⟨v,t,rfl,hv,ht⟩:=hvals.inv;have ht:=ht.inv_nil;subst ht;cases hv with
  |one _ _ hv=>
  obtain⟨b,hnb,rfl⟩:=hv;simp only at hnb;obtain⟨b',c,te,q1,q2,q3,_⟩:=hr.blk n _ hcs;rw[hnb]at q1;have q1:=n_ q1;obtain rfl:b=b':=by injection q1 with q1;injection q1 with q1;injection q1
  have hsz:∀m z c,h m≠N→ν m=C z→At z=C c→c<w.heap.size:=λm z c hm hz hc=>by
   cases hk:h m with
   |none=>exact absurd hk hm
   |some k=>
    have hb:=hr.blk m k hk;cases k with
    |cells cs=>
     obtain⟨b1,c1,te1,r1,r2,_⟩:=hb;rw[hz]at r1;have r1:=n_ r1;subst r1
     have:b1=c:=by simpa[At]using hc
     subst this;exact(t_.1 r2).1
    |row t l=>
     rcases hb with⟨r1,_⟩ | ⟨b1,cap,c1,te1,r1,r2,_⟩
     ·rw[hz]at r1;have r1:=n_ r1;subst r1;simp[At]at hc
     ·rw[hz]at r1;have r1:=n_ r1;subst r1
      have:b1=c:=by simpa[At]using hc
      subst this;exact(t_.1 r2).1
  let S2:Nat→Prop:=λq=>S q∨∃m z,h m≠N∧ν m=C z∧At z=C q
  have hS2:∀q,S q→S2 q:=λq hq=>.inl hq;have hown:∀m,m∈cs.flatMap Cv.ows→h m≠N:=λm hm=>by obtain⟨c1,hc1,hmc⟩:=c9_.1 hm;obtain⟨i,hi⟩:=List.getElem?_of_mem hc1;obtain⟨y,_,hy⟩:=hm2 i c1 hi;cases c1<;>simp[Cv.ows]at hmc;subst hmc;intro hno;simp[Ec,hno]at hy
  have hrp:Rd G S2 w.heap (.rp ty x 0) (.pointer (C ⟨b,0,N⟩)):=by
   refine .rp ty x 0 b 0 c te (0,0) (λj=>c.getD (0+j) undef) (.inr ⟨n,_,by rw[hcs];simp,hnb,rfl⟩) q2 (λj hj=>?_) λj cv hcv=>?_
   ·have:0+j<c.size:=by have h9:cs.length=c.size:=(by have h9:=q3.1;rwa [Array.length_toList]at h9);omega
    rw[K_ this,m_,K_ this];rfl
   ·rw[hxe]at hcv;have hj:j<cs.length:=by have:=(a_.1 hcv).1;omega
    obtain⟨y,hy1,hy2⟩:=hm2 j _ (f_ hj);rw[hcv]at hy1;have hy1:=n_ hy1;subst hy1;obtain⟨u,hu⟩:∃u,c.toList[j]?=C u:=⟨_,f_ (by rw[← q3.1];exact hj)⟩
    have hru:=q3.2 j _ u (f_ hj) hu
    have:c.getD (0+j) undef=u:=by rw[p_,m_];rw[Array.getElem?_toList]at hu;rw[hu];rfl
    simp only[this];exact At1 hr hS2 hy2 hru λm hm z q hz hq=>.inr ⟨m,z,hown m (c9_.2 ⟨_,a8_ hj,hm⟩),hz,hq⟩
  have hst:∀q,S2 q→q<w.heap.size:=λq hq=>by
   rcases hq with hq | ⟨m,z,q1,q2,q3⟩
   ·exact hr.stay q hq
   ·exact hsz m z q q1 q2 q3
  have hr2:HRel G ν S2 (λq=>w.heap.size≤q) (λ_=>N) w:={
   blk:=λm k hk=>(by cases hk)
   apart:=λm1 m2 y z q hk=>absurd rfl hk
   own:=λm y q hk=>absurd rfl hk
   stay:=hst
   gl:=hr.gl.mono hS2 λ_ _=>rfl }
  refine(hspec ν S2 (λq=>w.heap.size≤q) w _ hr2 (λq hq=>hq) hfr (aT (.one _ _ hrp) .nil)).mono λe w' ⟨v',ν',S',he,p⟩=>⟨v',ν',S,he,?_⟩
  have hfrm:∀q,q<w.heap.size→w'.heap[q]?=w.heap[q]?:=λq hq=>p.frame q hq λm _ hm=>absurd rfl hm;have le:Le ν ν' S S w.heap w'.heap:=⟨p.nu,λ_ h=>h,λq hq=>hfrm q (hr.stay q hq)⟩
  have hin:∀m,m∈Bd out1.d→AJ h out1.d m=AJ (λ_=>N) out1.d m:=λm hm=>QF _ _ _ _ (.inr hm);have hold:∀m z,h m≠N→ν' m=C z→ν m=C z:=λm z hm hz=>by
   cases hk:h m with
   |none=>exact absurd hk hm
   |some k=>
    have hb:=hr.blk m k hk;cases k with
    |cells cs=>obtain⟨b1,c1,te1,r1,_⟩:=hb;rw[p.nu _ _ r1]at hz;rw[r1];exact hz
    |row t l=>rcases hb with⟨r1,_⟩ | ⟨b1,cap,c1,te1,r1,_⟩<;>(rw[p.nu _ _ r1]at hz;rw[r1];exact hz)
  refine⟨p.nu,p.new,λ_ h=>h,λ_ h=>.inl h,⟨λm k hk=>?_,λm1 m2 y z q h1 h2 hy hz e1 e2=>?_,λm y q hm hy e=>?_,λq hq=>?_,hr.gl.mono (λ_ h=>h) λq hq=>hfrm q (hr.stay q hq)⟩,λs hs=>?_,p.size,λq hq _=>hfrm q hq,p.env⟩
  ·by_cases hm:m∈Bd out1.d
   ·have hk':=hk;rw[hin m hm]at hk';have hb:=p.rel.blk m k hk';obtain⟨t,l,rfl,hft⟩:=WV hfd hm hk;exact Aqa ok hft hb
   ·simp only at hk;rw[Hp _ _ _ hm]at hk;exact(hr.blk m k hk).mono le λz q hz hq=>hfrm q (hsz m z q (by rw[hk];simp) hz hq)
  ·by_cases i1:m1∈Bd out1.d
   ·rw[show AJ h out1.d m1=_ from hin m1 i1]at h1;by_cases i2:m2∈Bd out1.d
    ·rw[show AJ h out1.d m2=_ from hin m2 i2]at h2;exact p.rel.apart m1 m2 y z q h1 h2 hy hz e1 e2
    ·rw[show AJ h out1.d m2=_ from Hp _ _ _ i2]at h2;have g1:=(p.rel.own m1 y q h1 hy e1).2;have g2:=hsz m2 z q h2 (hold m2 z h2 hz) e2;omega
   ·rw[show AJ h out1.d m1=_ from Hp _ _ _ i1]at h1;by_cases i2:m2∈Bd out1.d
    ·rw[show AJ h out1.d m2=_ from hin m2 i2]at h2;have g1:=(p.rel.own m2 z q h2 hz e2).2;have g2:=hsz m1 y q h1 (hold m1 y h1 hy) e1;omega
    ·rw[show AJ h out1.d m2=_ from Hp _ _ _ i2]at h2;exact hr.apart m1 m2 y z q h1 h2 (hold m1 y h1 hy) (hold m2 z h2 hz) e1 e2
  ·by_cases i1:m∈Bd out1.d
   ·rw[show AJ h out1.d m=_ from hin m i1]at hm;have g1:=(p.rel.own m y q hm hy e).2;exact⟨λhS=>by have:=hr.stay q hS;omega,hB q g1⟩
   ·rw[show AJ h out1.d m=_ from Hp _ _ _ i1]at hm;exact hr.own m y q hm (hold m y hm hy) e
  ·have:=hr.stay q hq
   have:=p.size
   omega
  ·have hs:out1.v=C s:=hs;rw[hs]at hfv;exact Af9 hfv (p.val s hs)
 ·rw[Aah hn]at hout;exact hP.calls _ _ _ _ _ hout
def Lm(cf:Bj G)(lp:Nat→U G→M (Ex×U G))(jn:Nat→Option (List (Ex×aC)))(nt:Nat)(body:Code)(I:aC)(E:List (Ex×aC))(x:I.T G):Option (DL G E):=Bu cf nt (MH cf nt) lp (λ_=>[]) jn 0 body (I.mk' x) _ λp=>EQ E p.1 p.2
def Nu(cf:Bj G)(lp:Nat→U G→M (Ex×U G))(jn:Nat→Option (List (Ex×aC)))(nt:Nat)(n:Nat)(body:Code)(S:aC)(E:List (Ex×aC))(x:S.T G):Option (Sum (S.T G) (DL G E)):=MO S E (Bu cf nt (MH cf nt) lp (λ_=>[]) jn n body) x
def BZ:Nat:=18446744073709551616
@[reducible] def lp{F X Y:Type}[Ur F X Y][Un X F (Option (Sum X Y))](f:F):X→Option Y:=iter (Un.u f) BZ
def Ax(f:Func):Code:=f.body.getD .skip
def HF(c:Code)(n:Nat):Code:=(AH c)[n]?.getD .skip
section
variable{P:Program}(ok:aP P G)(eqok:EqOK P G)(hm:P.follows .mixedOrders=J){l:List (Nat×Fe G)}(hl:∀p∈l,BX P G p.1 p.2){lp:Nat→U G→M (Ex×U G)}{jn:Nat→Option (List (Ex×aC))}
include ok eqok hm hl in
theorem At2{nt k:Nat}{c:Code}(S:aC)(E:List (Ex×aC))(R:S.T G→Option (Sum (S.T G) (DL G E)))(hP:lp k=lpX S E (iter R BZ))(hin:∀(k:Nat) c',(AH c)[k]?=C c'→aM P G nt (lp (n+k)) c')
  (hR:∀x,Nu (cfQ l) lp jn nt n c S E x=R x):aM P G nt (lp k) c:=by
 rw[hP];exact Bd5 ok eqok (Ix ok hl) (MI ok eqok (Ix ok hl) (QG l) hm) hin λx _ h=>⟨BZ,by rw[show MO S E (Bu (cfQ l) nt (MH (cfQ l) nt) lp (λ_=>[]) jn n c)=R from funext hR];exact h⟩
include ok eqok hm hl in
theorem Bgh {g : Nat} {fn : Func} (hfn : P.funcs[g]? = C fn) (hname : (fn.name == "runtime.NumGoroutine") = V) (hbody : fn.body = C (Ax fn)) {e : Fe G} (hrs : fn.results.toList = e.rs) (hlen : aO e.I.tm.length fn.ntmps = J)
  (hlp:∀(k:Nat) c',(AH (Ax fn))[k]?=C c'→aM P G fn.ntmps (lp k) c') (hF:∀x,Lm (cfQ l) lp jn fn.ntmps (Ax fn) e.I e.E x=e.F x):BX P G g e:=
 Vb ok eqok (Ix ok hl) hfn hname hbody hrs (IT.1 hlen) (MI ok eqok (Ix ok hl) (QG l) hm) hlp λx _ h=>(hF x).trans h
end
def FE(Q:Nat→Code→Prop)(n:Nat)(l:List Code):Prop:=∀(k:Nat) c',l[k]?=C c'→Q (n+k) c'
def Af:FE Q n []:=λk c' h'=>by simp at h'
def Ae{t:List Code}{c:Code}(h0:Q n c)(ht:FE Q (n+1) t):FE Q n (c::t):=λk c' h'=>by
 cases k with
 |zero=>simp at h';subst h';exact h0
 |succ k=>have:=ht k c' (by simpa using h');rwa [show n+(k+1)=n+1+k by omega]
def Anr{l:List Code}(l':List Code)(h:l=l')(h':FE Q n l'):FE Q n l:=h▸h'
def WB{l:List Code}(h:FE Q 0 l):∀(k:Nat) c',l[k]?=C c'→Q k c':=λk c' hk=>by have:=h k c' hk;rwa [p_]at this
end Go.Ab
namespace Go.Ab
variable{G:aB}
structure Ctx(P:Program)(G:Sig):Prop where
 ok:SigOK P G
 eqok:EqOK P G
 hm:P.follows .mixedOrders=true
def VW:aE:=.one (.int .u64)
def ob:aE:=.one .bool
def os:aE:=.one .str
def op(n:Nat):aE:=.one (.ptr n 0)
def oro(t:Nat):aE:=.one (.ro t)
abbrev Sp:=aC
abbrev SL:=List (Ex×aC)
def jl(l:List (Nat×SL)):Nat→Option SL:=λn=>O l n
def lf:U G→M (Ex×U G):=λ_=>aQ
def pl:List (U G→M (Ex×U G))→Nat→U G→M (Ex×U G)
 |[],_=>lf
 |a::_,0=>a
 |_::t,n+1=>pl t n
inductive Sk where
 |i (k:IntKind) | b | s | f (k:FloatKind) | l (t:Nat)
def Sk.T(T:Nat→Type):Sk→Type
 | .i _=>Int
 | .b=>Bool
 | .s=>ByteArray
 | .f _=>Nat
 | .l t=>List (T t)
def SkL(T:Nat→Type):List Sk→Type
 |[]=>Unit
 |a::t=>a.T T×SkL T t
def Zx(T:Nat→Type)(t t':Nat)(l:List (T t)):Option (List (T t')):=if h:t=t' then C (h▸l)else N
def Afc{T:Nat→Type}{t t':Nat}{l:List (T t)}{l':List (T t')}(h:Zx T t t' l=C l'):∃e:t=t',e▸l=l':=by
 unfold Zx at h;split at h
 ·rename_i e;simp at h;exact⟨e,h⟩
 ·simp at h
def Sk.enc{T:Nat→Type}:(a:Sk)→a.T T→Cv T
 | .i k,n=>.sc (.int k n)
 | .b,x=>.sc (.bool x)
 | .s,x=>.sc (.string x)
 | .f k,n=>.sc (.float k n)
 | .l t,x=>.ro t x
def Sk.dec{T:Nat→Type}:(a:Sk)→Cv T→Option (a.T T)
 | .i k,.sc (.int k' n)=>bif CQ k k' then C n else N
 | .b,.sc (.bool x)=>C x
 | .s,.sc (.string x)=>C x
 | .f k,.sc (.float k' n)=>bif Ln k k' then C n else N
 | .l t,.ro t' x=>Zx T t' t x
 |_,_=>N
def LZ{T:Nat→Type}:(l:List Sk)→SkL T l→List (Cv T)
 |[],_=>[]
 |a::t,x=>a.enc x.1::LZ t x.2
def Aau{T:Nat→Type}:(l:List Sk)→List (Cv T)→Option (SkL T l)
 |[],[]=>C ()
 |a::t,c::cs=>match a.dec c,Aau t cs with
  |some x,C y=>C (x,y)
  |_,_=>N
 |_,_=>N
def Sk.dec_ok{T:Nat→Type}{a:Sk}{c:Cv T}{x:a.T T}(h:a.dec c=C x):a.enc x=c:=by
 cases a with
 |i k=>
  cases c with
  |sc v=>
   cases v with
   |int k' n=>
    have h:(bif CQ k k' then C n else N)=C x:=h;have e:k=k':=by cases k<;>cases k'<;>first | rfl | (simp[CQ]at h)
    subst e;have e:CQ k k=J:=by cases k<;>rfl
    rw[e]at h;cases h;rfl
   |_=>cases h
  |_=>cases h
 |b=>
  cases c with
  |sc v=>
   cases v with
   |bool y=>cases h;rfl
   |_=>cases h
  |_=>cases h
 |s=>
  cases c with
  |sc v=>
   cases v with
   |string y=>cases h;rfl
   |_=>cases h
  |_=>cases h
 |f k=>
  cases c with
  |sc v=>
   cases v with
   |float k' n=>
    have h:(bif Ln k k' then C n else N)=C x:=h;have e:k=k':=by cases k<;>cases k'<;>first | rfl | (simp[Ln]at h)
    subst e;have e:Ln k k=J:=by cases k<;>rfl
    rw[e]at h;cases h;rfl
   |_=>cases h
  |_=>cases h
 |l t=>
  cases c with
  |ro t' y=>obtain⟨rfl,rfl⟩:=Afc (show Zx T t' t y=C x from h);rfl
  |_=>cases h
def Ade{T:Nat→Type}:∀{l:List Sk}{cs:List (Cv T)}{x:SkL T l},Aau l cs=C x→LZ l x=cs
 |[],[],_,_=>rfl
 |a::t,c::cs,x,h=>by
  simp only[Aau]at h;split at h
  ·rename_i y z hy hz;cases h;simp only[LZ,Sk.dec_ok hy,Ade hz]
  ·cases h
section
variable{P:Program}
def tn:∀p∈([]:List (Nat×Fe G)),BX P G p.1 p.2:=λ_ h=>absurd h (bE)
def tc{g:Nat}{e:Fe G}{l:List (Nat×Fe G)}(h:BX P G g e)(t:∀p∈l,BX P G p.1 p.2):∀p∈(g,e)::l,BX P G p.1 p.2:=List.forall_mem_cons.2 ⟨h,t⟩
def an0{Q:Nat→Code→Prop}{n:Nat}{l:List Code}(h:l=[]):FE Q n l:=h▸Af
variable(cx:Ctx P G){l:List (Nat×Fe G)}(hl:∀p∈l,BX P G p.1 p.2)(jn:Nat→Option SL){lp:Nat→U G→M (Ex×U G)}
include cx hl in
theorem lk(n:Nat){nt k:Nat}{c:Code}(S:aC)(E:SL){L:S.T G→Option (DL G E)}{R:S.T G→Option (Sum (S.T G) (DL G E))}(hL:L=iter R BZ)(hP:lp k=lpX S E L)(hin:FE (λk c=>aM P G nt (lp k) c) n (AH c))
  (hR:∀x,Nu (cfQ l) lp jn nt n c S E x=R x):aM P G nt (lp k) c:=
 At2 cx.ok cx.eqok cx.hm hl S E R (hL▸hP) hin hR
include cx hl in
theorem fk {g : Nat} {fn : Func} (hfn : P.funcs[g]? = C fn) {e : Fe G} (hc : (!(fn.name == "runtime.NumGoroutine") && aO e.I.tm.length fn.ntmps) = J) (hbody : fn.body = C (Ax fn)) (hrs : fn.results.toList = e.rs)
  (hlp:FE (λk c=>aM P G fn.ntmps (lp k) c) 0 (AH (Ax fn))) (hF:∀x,Lm (cfQ l) lp jn fn.ntmps (Ax fn) e.I e.E x=e.F x):BX P G g e:=by
 rw[b_,W_]at hc;exact Bgh cx.ok cx.eqok cx.hm hl hfn hc.1 hbody hrs hc.2 (WB hlp) hF
end
end Go.Ab
namespace Go.Ab
structure TyD where
 A:Type
 d:A
def Agu:List (Nat×TyD)→Nat→TyD
 |[],_=>⟨Unit,()⟩
 |p::r,t=>bif aG p.1 t then p.2 else Agu r t
@[reducible] def TOf(tys:List (Nat×TyD))(t:Nat):Type:=(Agu tys t).A
structure Ent(T:Nat→Type)(t:Nat) where
 ty:Ty
 sz:Nat
 zero:List Value
 enc:T t→List (Cv T)
 dec:List (Cv T)→Option (T t)
 flat:Bool
structure Ent1(T:Nat→Type) where
 t:Nat
 e:Ent T t
def ZG(T:Nat→Type)(t:Nat):Ent T t:=⟨.no,0,[],λ_=>[],λ_=>N,V⟩
def IW{T:Nat→Type}:List (Ent1 T)→(t:Nat)→Ent T t
 |[],t=>ZG T t
 |p::r,t=>if h:p.t=t then h▸p.e else IW r t
def Ls(tys:List (Nat×TyD))(l:List (Ent1 (TOf tys)))(gl:Nat→Option ((t:Nat)×TOf tys t):=λ_=>N)(ext:Nat→Nat:=λ_=>0):aB:=
 {T:=TOf tys
  ty:=λt=>(IW l t).ty
  sz:=λt=>(IW l t).sz
  zero:=λt=>(IW l t).zero
  enc:=λt=>(IW l t).enc
  dec:=λt=>(IW l t).dec
  dfl:=λt=>(Agu tys t).d
  flat:=λt=>(IW l t).flat
  gl:=gl
  ext:=ext }
def Af5:List (Nat×Nat)→Nat→Nat
 |[],_=>0
 |p::r,g=>bif aG p.1 g then p.2 else Af5 r g
def plain(T:Nat→Type)(t:Nat)(ty:Ty)(sz:Nat)(zero:List Value):Ent1 T:=⟨t,⟨ty,sz,zero,λ_=>[],λ_=>N,V⟩⟩
end Go.Ab
namespace Go.Ab
variable{P:Program}
def Ano(P:Program)(G:aB)(t:Nat):Ty→Prop
 | .no=>True
 | .bool=>P.underlying t=C .bool
 | .int k=>P.underlying t=C (.int k)
 | .flt k=>P.underlying t=C (.float k)
 | .str=>P.underlying t=C .string
 | .sl e=>P.underlying t=C (.slice e)∧Ke (G.ty e)=V∧(∃i,P.info? e=C i∧aO i.bytes 4096=J)∧∀x,(G.enc e x).length=G.sz e
 | .pt e=>P.underlying t=C (.pointer e)
 | .fn=>∃a b c,P.underlying t=C (.func a b c)
 | .st fs=>∃fields,P.underlying t=C (.struct fields)∧fields.toList.map (λf=>(f.offset,f.type))=fs∧fs.all (λp=>!Ke (G.ty p.2))=J
 | .arr n e=>P.underlying t=C (.array n e)∧Ke (G.ty e)=V
def TC{T:Nat→Type}:Cv T→Bool
 | .sc _ | .ro _ _=>J
 |_=>V
def WZ{T:Nat→Type}:Cv T→Bool
 | .sc _=>J
 |_=>V
structure EntOK(P:Program)(G:Sig)(t:Nat)(e:Ent G.T t):Prop where
 ty:Ano P G t e.ty
 info:e.ty≠ .no→∃i z,P.info? t=some i∧i.size=e.sz∧i.zero=some z∧z.cells.toList=e.zero
 pos:e.ty≠ .no→Nat.ble 1 e.sz=true
 nosz:e.ty=.no→e.sz=0
 zsc:e.zero.all GP=true
 zlen:e.zero.length=e.sz
 encl:∀x,(e.enc x).length≤e.sz
 encdec:∀cs x,e.dec cs=some x→e.enc x=cs
 encd:∀x,(e.enc x).all TC=true
 flatd:e.flat=true→∀x,(e.enc x).all WZ=true
 u8d:∀x y,(e.enc x).map u8C=(e.enc y).map u8C
def Aow{G:aB}(t:Nat):EntOK P G t (ZG G.T t):=⟨trivial,λh=>absurd rfl h,λh=>absurd rfl h,λ_=>rfl,rfl,rfl,λ_=>A_ _,λcs x h=>by simp[ZG]at h,λ_=>rfl,λ_ _=>rfl,λ_ _=>rfl⟩
def Py{T:Nat→Type}{Q:(t:Nat)→Ent T t→Prop}(h0:∀t,Q t (ZG T t)):∀{l:List (Ent1 T)},(∀p∈l,Q p.t p.e)→∀t,Q t (IW l t)
 |[],_,t=>h0 t
 |p::r,h,t=>by
  unfold IW;split
  ·rename_i e;subst e;exact h p (by simp)
  ·exact Py h0 (λq hq=>h q (by simp[hq])) t
def RM{y:Ty}(h:Ke y=V):y≠ .no:=by intro e;subst e;simp[Ke]at h
def Aa5{P:Program}:∀{l:List (Nat×Nat)},(∀p∈l,Aqz P p.1 (Ao1 p.2))→Ad5 P (Af5 l)
 |[],_,g,h=>absurd rfl h
 |p::r,h,g,hg=>by
  unfold Af5 at hg⊢;cases hb:aG p.1 g with
  |true=>rw[e_];rw[← Ap.1 hb];exact h p (by simp)
  |false=>rw[hb,c_]at hg;rw[c_];exact Aa5 (λq hq=>h q (by simp[hq])) g hg
def Aqf{tys:List (Nat×TyD)}{l:List (Ent1 (TOf tys))}{gl:Nat→Option ((t:Nat)×TOf tys t)}{ext:Nat→Nat}(h:∀p∈l,EntOK P (Ls tys l gl ext) p.t p.e)(hx:Ad5 P ext):aP P (Ls tys l gl ext):=by
 have key:∀t,EntOK P (Ls tys l gl ext) t (IW l t):=Py (T:=TOf tys) (Q:=λt e=>EntOK P (Ls tys l gl ext) t e) (λt=>Aow t) h;have tyOf:∀t,Ano P (Ls tys l gl ext) t ((Ls tys l gl ext).ty t):=λt=>(key t).ty;refine⟨λt e=>?_,λt k e=>?_,λt k e=>?_,λt e=>?_,λt e he=>?_,λt e he=>?_,λt e=>?_,λt fs e=>?_,λt n e he=>?_,λt=>(key t).info,λt ht=>?_,λt=>(key t).nosz,λt v hv=>?_,λt=>(key t).zlen,λt=>(key t).encl,λt=>(key t).encdec,λt x c hc=>?_,λt x c hf hc=>?_,λt=>(key t).u8d,hx⟩
 ·have:=tyOf t;rw[e]at this;exact this
 ·have:=tyOf t;rw[e]at this;exact this
 ·have:=tyOf t;rw[e]at this;exact this
 ·have:=tyOf t;rw[e]at this;exact this
 ·have:=tyOf t;rw[he]at this
  obtain⟨h1,h2,⟨i,h3,h4⟩,h5⟩:=this;exact⟨h1,RM h2,⟨i,h3,r_ h4⟩,h5⟩
 ·have:=tyOf t;rw[he]at this;exact this
 ·have:=tyOf t;rw[e]at this;exact this
 ·have:=tyOf t;rw[e]at this
  obtain⟨fields,h1,h2,h3⟩:=this;refine⟨fields,h1,h2,λo u hou=>RM ?_⟩
  have:=F_.1 h3 (o,u) hou
  simpa using this
 ·have:=tyOf t;rw[he]at this;exact⟨this.1,RM this.2⟩
 ·exact r_ ((key t).pos ht)
 ·exact F_.1 (key t).zsc v hv
 ·have:=F_.1 ((key t).encd x) c hc
  cases c with
  |sc v=>exact .inl ⟨v,rfl⟩
  |ro t' l=>exact .inr ⟨t',l,rfl⟩
  |_=>simp[TC]at this
 ·have:=F_.1 ((key t).flatd hf x) c hc
  cases c with
  |sc v=>exact⟨v,rfl⟩
  |_=>simp[WZ]at this
end Go.Ab
namespace Go.Ab
variable{G:aB}
variable{P:Program}{x:Value}
structure NamesOK(P:Program)(G:Sig):Prop where
 guard:∀t,(G.ty t).isAgg=true→P.eqGuardType P.depth t=false
 held:∀t fs,G.ty t=.st fs→P.stoodInHeld t=false
 name : ∀ t fs, G.ty t = .st fs → (P.fieldsOf t).toList.all (λf => f.name != "_") = true
def IV:∀{a b:List Nat},Fy a b=J→a=b
 |[],[],_=>rfl
 |[],_::_,h=>by simp[Fy]at h
 |_::_,[],h=>by simp[Fy]at h
 |x::s,y::t,h=>by simp only[Fy,b_]at h;rw[IV h.2,Ap.1 h.1]
def Gd{α:Type}(f:α→Nat)(a:List α):(Ca f a).length=a.length:=by
 induction a with
 |nil=>rfl
 |cons x t ih=>simp[Ca,ih]
def Lq{α:Type}(f:α→Nat):∀(xs:List α) (a b:List Nat),Ca f xs=a++b→∃u v,xs=u++v∧Ca f u=a∧Ca f v=b
 |xs,[],b,h=>⟨[],xs,rfl,rfl,h⟩
 |[],_::_,b,h=>by simp[Ca]at h
 |x::xs,k::a,b,h=>by simp only[Ca,aX,List.cons.injEq]at h;obtain⟨u,v,h1,h2,h3⟩:=Lq f xs a b h.2;exact⟨x::u,v,by rw[h1];rfl,by simp[Ca,h.1,h2],h3⟩
def Ql{α:Type}:∀(n:Nat) (l a b:List α),IY n l=C a→JJ n l=C b→l=a++b∧a.length=n
 |0,l,a,b,h1,h2=>by simp[IY]at h1;simp[JJ]at h2;subst h1;subst h2;exact⟨rfl,rfl⟩
 |n+1,[],a,b,h1,h2=>by simp[IY]at h1
 |n+1,x::t,a,b,h1,h2=>by
  simp only[IY]at h1;split at h1
  ·rename_i l hl;simp at h1;subst h1;simp only[JJ]at h2;obtain⟨e1,e2⟩:=Ql n t l b hl h2;exact⟨by rw[e1];rfl,by simp[e2]⟩
  ·simp at h1
def Qc:∀(a a' r r':List Value) (b:Bool),a.length=a'.length→IA (a++r) (a'++r')=C b→∃b1 b2,IA a a'=C b1∧IA r r'=C b2∧b=(b1&&b2)
 |[],[],r,r',b,_,h=>⟨J,b,rfl,h,by simp⟩
 |[],_::_,_,_,_,hl,_=>by simp at hl
 |_::_,[],_,_,_,hl,_=>by simp at hl
 |x::a,y::a',r,r',b,hl,h=>by
  simp only[aX,IA]at h;split at h
  ·rename_i p q hp hq;simp at h;subst h;obtain⟨b1,b2,h1,h2,h3⟩:=Qc a a' r r' q (by simpa using hl) hq;exact⟨p&&b1,b2,by simp[IA,hp,h1],h2,by rw[h3,Bool.and_assoc]⟩
  ·simp at h
def YK(h:AR x=1):∃p,x=.bool p:=by
 cases x with
 |bool p=>exact⟨p,rfl⟩
 |int k n=>cases k<;>simp[AR]at h
 |float k n=>cases k<;>simp[AR]at h
 |_=>simp[AR]at h
def Abk(h:AR x=2):∃p,x=.string p:=by
 cases x with
 |string p=>exact⟨p,rfl⟩
 |int k n=>cases k<;>simp[AR]at h
 |float k n=>cases k<;>simp[AR]at h
 |_=>simp[AR]at h
section
variable{P:Program}(ok:aP P G)(nm:NamesOK P G)
def pkV(G:aB)(t:Nat)(xs:List Value):Value:=if(G.ty t).isAgg then .agg xs.toArray else xs.headD undef
include ok in
theorem RT{u:Nat}(hno:G.ty u≠ .no){pre a post:List Value}(hl:a.length=G.sz u)(w:World)(hone:(G.ty u).isAgg=V→a.length=1) :
  (Go.part u (pre++(a++post)).toArray pre.length).run P w=.ok (pkV G u a) w:=by
 unfold Go.part pkV;rw[u_,ok.isAgg w hno];cases ha:(G.ty u).isAgg with
 |true=>simp only[k_,if_true,u_,ok.sizeOf w hno,M_];congr 2;rw[← hl];apply Array.toList_inj.1;simp
 |false=>obtain⟨v,rfl⟩:=List.length_eq_one_iff.1 (hone ha);simp
theorem As8{d t:Nat}(hr:Nq G d t=J)(hag:(G.ty t).isAgg=V):(zk G t).length=1:=by
 cases d with
 |zero=>simp[Nq]at hr
 |succ d'=>
  simp only[Nq]at hr;cases hft:G.ty t with
  |bool=>rw[hft]at hr;rw[IV hr];rfl
  |str=>rw[hft]at hr;rw[IV hr];rfl
  |int k=>rw[hft]at hr;rw[IV hr];rfl
  |st _=>rw[hft]at hag;simp[aS]at hag
  |arr _ _=>rw[hft]at hag;simp[aS]at hag
  |_=>rw[hft]at hr;simp at hr
include ok nm in
theorem Qd:∀(d t D:Nat) (xs ys:List Value) (b:Bool) (w:World),Nq G d t=J→d≤D→Ca AR xs=zk G t→Ca AR ys=zk G t→IA xs ys=C b→
  (Op.equalIn D t (pkV G t xs) (pkV G t ys)).run P w=.ok b w
 |0,_,_,_,_,_,_,h,_,_,_,_=>by simp[Nq]at h
 |d+1,t,0,_,_,_,_,_,hD,_,_,_=>by omega
 |d+1,t,D+1,xs,ys,b,w,h,hD,hx,hy,hb=>by
  have hz:(zk G t).length=G.sz t:=by unfold zk;rw[Gd,ok.zlen]
  have one:∀k,Fy (zk G t) [k]=J→(∃x,xs=[x]∧AR x=k)∧∃y,ys=[y]∧AR y=k:=by
   intro k hk;have hk:=IV hk;rw[hk]at hx hy;constructor
   ·cases xs with
    |nil=>simp[Ca]at hx
    |cons x t=>cases t with
     |nil=>simp[Ca]at hx;exact⟨x,rfl,hx⟩
     |cons y t=>simp[Ca]at hx
   ·cases ys with
    |nil=>simp[Ca]at hy
    |cons x t=>cases t with
     |nil=>simp[Ca]at hy;exact⟨x,rfl,hy⟩
     |cons y t=>simp[Ca]at hy
  simp only[Nq]at h;cases ht:G.ty t with
  |bool=>rw[ht]at h;obtain⟨⟨x,rfl,hkx⟩,y,rfl,hky⟩:=one _ h;have hxb:=YK hkx;have hyb:=YK hky;obtain⟨p,rfl⟩:=hxb;obtain⟨q,rfl⟩:=hyb;simp[IA,eqV]at hb;subst hb;simp only[pkV,ht,aS,aW,if_false,List.headD];exact run_equalIn_bool w D t p q (ok.bool t ht)
  |str=>rw[ht]at h;obtain⟨⟨x,rfl,hkx⟩,y,rfl,hky⟩:=one _ h;have hxb:=Abk hkx;have hyb:=Abk hky;obtain⟨p,rfl⟩:=hxb;obtain⟨q,rfl⟩:=hyb;simp[IA,eqV,eqB]at hb;subst hb;simp only[pkV,ht,aS,aW,if_false,List.headD];exact run_equalIn_string w D t p q (ok.str t ht)
  |int k=>
   rw[ht]at h;obtain⟨⟨x,rfl,hkx⟩,y,rfl,hky⟩:=one _ h;have hkk:∀z:Value,AR z=AR (.int k 0)→∃p,z=.int k p:=by
    intro z hz;cases z with
    |int k' p=>exact⟨p,by cases k<;>cases k'<;>simp[AR]at hz⊢⟩
    |bool p=>cases k<;>simp[AR]at hz
    |string p=>cases k<;>simp[AR]at hz
    |float k' p=>cases k<;>cases k'<;>simp[AR]at hz
    |_=>cases k<;>simp[AR]at hz
   obtain⟨p,rfl⟩:=hkk x hkx;obtain⟨q,rfl⟩:=hkk y hky;have hkk:CQ k k=J:=by cases k<;>rfl
   simp[IA,eqV,hkk]at hb;subst hb;simp only[pkV,ht,aS,aW,if_false,List.headD];exact run_equalIn_int w D t k k p q (ok.int t k ht)
  |st fs=>
   rw[ht]at h;obtain⟨fields,hund,hmap,hfno⟩:=ok.strc t fs ht;have hfo:P.fieldsOf t=fields:=by unfold Program.fieldsOf;rw[hund]
   have hname:=nm.name t fs ht;rw[hfo]at hname;simp only[pkV,ht,aS,if_true];rw[run_equalIn_struct w D t _ _ (by rw[hfo];exact hund) (nm.held t fs ht),hfo];have go : ∀ (fl : List Field) (fs : List (Nat × Nat)) (pre pre' xs ys : List Value) (ks : List Nat) (b : Bool), fl.map (λf => (f.offset, f.type)) = fs → (∀ o u, (o, u) ∈ fs → G.ty u ≠ .no) → fl.all (λf => f.name != "_") = J →
     pre.length=pre'.length→RA G (Nq G d) fs pre.length ks=J→Ca AR xs=ks→Ca AR ys=ks→IA xs ys=C b→
     (Op.eqFields D (pre++xs).toArray (pre'++ys).toArray fl).run P w=.ok b w:=by
    intro fl;induction fl with
    |nil=>
     intro fs pre pre' xs ys ks b hm _ _ _ hfe hxk hyk hb;simp at hm;subst hm
     have:=IV hfe
     subst this;cases xs with
     |nil=>cases ys with
      |nil=>simp[IA]at hb;subst hb;simp[Op.eqFields]
      |cons _ _=>simp[Ca]at hyk
     |cons _ _=>simp[Ca]at hxk
    |cons f fl ih=>
     intro fs pre pre' xs ys ks b hm hno hnm hpl hfe hxk hyk hb;cases fs with
     |nil=>simp at hm
     |cons p fs=>
      simp only[aY,List.cons.injEq]at hm;obtain⟨hp,hm⟩:=hm;subst hp;simp only[RA,b_]at hfe;obtain⟨⟨ho,hr⟩,hrest⟩:=hfe;have ho:f.offset=pre.length:=Ap.1 ho;have hr:Nq G d f.type=J:=hr;split at hrest
      ·rename_i a r ha hr2;simp only[b_]at hrest;obtain⟨e1,e2⟩:=Ql _ _ _ _ ha hr2;subst e1;obtain⟨xa,xr,rfl,hxa,hxr⟩:=Lq AR xs a r hxk;obtain⟨ya,yr,rfl,hya,hyr⟩:=Lq AR ys a r hyk;have lxa:xa.length=G.sz f.type:=by rw[← Gd AR xa,hxa,e2]
       have lya:ya.length=G.sz f.type:=by rw[← Gd AR ya,hya,e2]
       obtain⟨b1,b2,h1,h2,h3⟩:=Qc xa ya xr yr b (by rw[lxa,lya]) hb;have hza:=IV hrest.1;simp only[N_,b_,bne_iff_ne]at hnm;have hno1:=hno f.offset f.type (by simp);have hone:(G.ty f.type).isAgg=V→(zk G f.type).length=1:=As8 hr;have hzl:(zk G f.type).length=G.sz f.type:=by unfold zk;rw[Gd,ok.zlen]
       unfold Op.eqFields;rw[if_pos (by simpa using hnm.1)];rw[u_,ho,RT ok hno1 lxa w (λhag=>by rw[lxa,← hzl];exact hone hag),k_];rw[u_,hpl,RT ok hno1 lya w (λhag=>by rw[lya,← hzl];exact hone hag),k_];rw[u_,Qd d f.type D xa ya b1 w hr ω (by rw[hxa];exact hza) (by rw[hya];exact hza) h1,k_];cases b1 with
       |false=>simp at h3;subst h3;simp
       |true=>
        simp at h3;subst h3;simp only[V_,aW,if_false]
        have:=ih fs (pre++xa) (pre'++ya) xr yr r b hm (λo u hou=>hno o u (by simp[hou])) hnm.2 (by simp[hpl,lxa,lya]) (by rw[i_,lxa];exact hrest.2) hxr hyr h2
        rw[L_,L_]at this;exact this
      ·simp at hrest
   exact go fields.toList fs [] [] xs ys _ b hmap hfno hname rfl h hx hy hb
  |arr n e=>
   rw[ht]at h;simp only[b_]at h;obtain⟨he,hel⟩:=h;obtain⟨hund,hno⟩:=ok.arr t n e ht;simp only[pkV,ht,aS,if_true];simp only[Op.equalIn,u_,v_ hund,k_,ok.sizeOf w hno,Std.Legacy.Range.forIn_eq_forIn_range',Std.Legacy.Range.size,Nat.sub_zero,Nat.add_sub_cancel,Nat.div_one];have hone:(G.ty e).isAgg=V→(zk G e).length=1:=As8 he;have hzl:(zk G e).length=G.sz e:=by unfold zk;rw[Gd,ok.zlen]
   have go:∀(n i:Nat) (pre pre' xs ys:List Value) (ks:List Nat) (b:Bool),pre.length=i*G.sz e→pre'.length=i*G.sz e→Uq G e n ks=J→Ca AR xs=ks→Ca AR ys=ks→IA xs ys=C b→
     (forIn (List.range' i n) (N,()) λi (_:Option Bool×Unit)=>do
      let u ← Go.part e (pre++xs).toArray (i*G.sz e)
      let v ← Go.part e (pre'++ys).toArray (i*G.sz e)
      let r ← Op.equalIn D e u v
      if(!r)=J then pure (ForInStep.done (C V,()))else pure (ForInStep.yield (N,())):Sem (Option Bool×Unit)).run P w=.ok (if b then(N,())else(C V,())) w:=by
    intro n;induction n with
    |zero=>
     intro i pre pre' xs ys ks b _ _ hel hxk hyk hb
     have:=IV hel
     subst this;cases xs with
     |nil=>cases ys with
      |nil=>simp[IA]at hb;subst hb;simp
      |cons _ _=>simp[Ca]at hyk
     |cons _ _=>simp[Ca]at hxk
    |succ n ih=>
     intro i pre pre' xs ys ks b hp hp' hel hxk hyk hb;simp only[Uq]at hel;split at hel
     ·rename_i a r ha hr2;simp only[b_]at hel;obtain⟨e1,e2⟩:=Ql _ _ _ _ ha hr2;subst e1;obtain⟨xa,xr,rfl,hxa,hxr⟩:=Lq AR xs a r hxk;obtain⟨ya,yr,rfl,hya,hyr⟩:=Lq AR ys a r hyk;have lxa:xa.length=G.sz e:=by rw[← Gd AR xa,hxa,e2]
      have lya:ya.length=G.sz e:=by rw[← Gd AR ya,hya,e2]
      obtain⟨b1,b2,h1,h2,h3⟩:=Qc xa ya xr yr b (by rw[lxa,lya]) hb;have hza:=IV hel.1;rw[List.range'_succ,List.forIn_cons];rw[u_,u_,← hp,RT ok hno lxa w (λhag=>by rw[lxa,← hzl];exact hone hag),k_];rw[u_,hp,← hp',RT ok hno lya w (λhag=>by rw[lya,← hzl];exact hone hag),k_];rw[u_,Qd d e D xa ya b1 w he ω (by rw[hxa];exact hza) (by rw[hya];exact hza) h1,k_];cases b1 with
      |false=>simp at h3;subst h3;simp
      |true=>
       simp at h3;subst h3;simp only[V_,aW,if_false,M_,k_]
       have:=ih (i+1) (pre++xa) (pre'++ya) xr yr r b (by rw[i_,hp,lxa,J_,aZ]) (by rw[i_,hp',lya,J_,aZ]) hel.2 hxr hyr h2
       rw[L_,L_]at this;exact this
     ·cases hel
   have:=go n 0 [] [] xs ys _ b (by simp) (by simp) hel hx hy hb
   simp only[List.nil_append]at this;rw[this];cases b<;>simp
  |_=>rw[ht]at h;simp at h
include ok nm in
theorem Atv:EqOK P G:=by
 refine⟨nm.guard,λt xs ys b w hag hty hx hy hb=>?_⟩
 have:=Qd ok nm 20 t Op.maxDepth xs ys b w hty (by decide) hx hy hb
 unfold pkV at this;rw[if_pos hag,if_pos hag]at this;exact this
end
def Agk:Ty→Bool
 | .st _=>J
 |_=>V
structure NmE(P:Program)(t:Nat)(y:Ty):Prop where
 guard:y.isAgg=true→P.eqGuardType P.depth t=false
 held:Agk y=true→P.stoodInHeld t=false
 name : Agk y = true → (P.fieldsOf t).toList.all (λf => f.name != "_") = true
def Bea{t:Nat}{y:Ty}(h:y.isAgg=V):NmE P t y:=
 have hs:Agk y=V:=by cases y<;>first | rfl | (simp[aS]at h)
 ⟨λe=>(by rw[h]at e;cases e),λe=>(by rw[hs]at e;cases e),λe=>(by rw[hs]at e;cases e)⟩
def Agx{tys:List (Nat×TyD)}{l:List (Ent1 (TOf tys))}{gl:Nat→Option ((t:Nat)×TOf tys t)}{ext:Nat→Nat}(h:∀p∈l,NmE P p.t p.e.ty):NamesOK P (Ls tys l gl ext):=by
 have key:∀t,NmE P t (IW l t).ty:=Py (T:=TOf tys) (Q:=λt e=>NmE P t e.ty) (λt=>Bea rfl) h;refine⟨λt=>(key t).guard,λt fs e=>(key t).held ?_,λt fs e=>(key t).name ?_⟩
 ·have e:(IW l t).ty=.st fs:=e;rw[e];rfl
 ·have e:(IW l t).ty=.st fs:=e;rw[e];rfl
end Go.Ab
namespace Go.Ab
variable{G:aB}
variable{cs:List Value}
def shF(G:aB)(r:Nat→Option (List aD)):List (Nat×Nat)→Nat→Option (List aD)
 |[],_=>C []
 |p::t,off=>bif aG p.1 off then match r p.2,shF G r t (off+G.sz p.2)with
  |some a,C b=>bif aG a.length (G.sz p.2)then C (a++b)else N
  |_,_=>N
  else N
def Ab6{α:Type}(a:List α):Nat→List α
 |0=>[]
 |n+1=>a++Ab6 a n
def shl(G:aB):Nat→Nat→Option (List aD)
 |0,_=>N
 |d+1,t=>match G.ty t with
  | .bool=>C [.bool]
  | .int k=>C [.int k]
  | .flt k=>C [.flt k]
  | .str=>C [.str]
  | .sl e=>match TA (G.ty e)with
   |true=>N
   |false=>C [.ro e]
  | .st fs=>match shF G (shl G d) fs 0 with
   |some a=>bif aG a.length (G.sz t)then C a else N
   |none=>N
  | .arr n e=>match shl G d e with
   |some a=>bif aG a.length (G.sz e)&&aG (n*G.sz e) (G.sz t)then C (Ab6 a n)else N
   |none=>N
  |_=>N
inductive WfC(G:Sig):Cv G.T→Prop
 |bool (b:Bool):WfC G (.sc (.bool b))
 |int (k:IntKind) (n:Int) (h:(Lit.int k n).wf=true):WfC G (.sc (.int k n))
 |flt (k:FloatKind) (n:Nat):WfC G (.sc (.float k n))
 |str (s:ByteArray) (h:s.size≤maxLen):WfC G (.sc (.string s))
 |ro (t:Nat) (l:List (G.T t)) (h:l.length≤maxLen) (he:∀(i:Nat) (x:G.T t) (j:Nat) (c:Cv G.T),l[i]?=some x→(G.enc t x)[j]?=some c→WfC G c):WfC G (.ro t l)
def Zq(G:aB):Prop:=∀t e,G.ty t=.sl e→TA (G.ty e)=V→∃s,shl G 20 e=C s∧∀x:TL G s,∃y,G.dec e (BL s x)=C y
def Tz:∀(a b:List aD) (x:TL G a) (y:TL G b),∃z:TL G (a++b),BL (a++b) z=BL a x++BL b y
 |[],b,_,y=>⟨y,rfl⟩
 |c::a,b,x,y=>by obtain⟨z,hz⟩:=Tz a b x.2 y;exact⟨(x.1,z),by simp only[BL,aX];rw[← hz]⟩
def YD:∀(a:List aD) (x:TL G a),(BL a x).length=a.length
 |[],_=>rfl
 |c::a,x=>by simp[BL,YD a]
section
variable{H:Type}{enc:TypeId×Value→H}{P:Program}(ok:aP P G)(dk:Zq G){w:World}{sp:Nat→Bool}{hd:Bool}
include ok in
theorem OF{t:Nat}(h:G.ty t≠ .no):P.cellsOf t=G.sz t:=by obtain⟨i,z,h1,h2,_⟩:=ok.info t h;unfold Program.cellsOf;rw[h1];exact h2
def Opened(G:aB)(w:World)(s:List aD)(cs:List Value):Prop:=∃x:TL G s,F2 (Rd G (λb=>b<w.heap.size) w.heap) (BL s x) cs∧∀c∈BL s x,WfC G c
theorem Opened.append{a b:List aD}{ds:List Value}(h:Opened G w a cs)(g:Opened G w b ds):Opened G w (a++b) (cs++ds):=by
 obtain⟨x,h1,h2⟩:=h;obtain⟨y,g1,g2⟩:=g;obtain⟨z,hz⟩:=Tz a b x y;refine⟨z,by rw[hz];exact h1.append g1,λc hc=>?_⟩;rw[hz]at hc;rcases D_.1 hc with hc | hc
 ·exact h2 c hc
 ·exact g2 c hc
theorem Opened.len{a:List aD}(h:Opened G w a cs):cs.length=a.length:=by obtain⟨x,h1,_⟩:=h;rw[← h1.1,YD]
theorem Va{r:Nat→Option (List aD)}{cs:List Value}:∀(fs:List (Nat×Nat)) (off:Nat) (sh:List aD),shF G r fs off=C sh→
  (∀p∈fs,∀s,r p.2=C s→Opened G w s ((cs.drop p.1).take (G.sz p.2)))→Opened G w sh ((cs.drop off).take sh.length)
 |[],off,sh,h,_=>by simp[shF]at h;subst h;exact⟨(),by simp[BL];exact .nil,λc hc=>by simp[BL]at hc⟩
 |p::t,off,sh,h,hp=>by
  simp only[shF,AN]at h;by_cases e:p.1=off
  ·rw[if_pos e]at h;split at h
   ·rename_i a b ha hb;by_cases hl:a.length=G.sz p.2
    ·rw[if_pos hl]at h;simp at h;subst h;have h1:=hp p (by simp) a ha;have h2:=Va t (off+G.sz p.2) b hb λq hq s hs=>hp q (by simp[hq]) s hs;rw[e]at h1
     have:=h1.append h2
     rw[i_,hl];have ht:(cs.drop off).take (G.sz p.2+b.length)=(cs.drop off).take (G.sz p.2)++(cs.drop (off+G.sz p.2)).take b.length:=by rw[List.take_add,List.drop_drop]
     rw[ht];exact this
    ·rw[if_neg hl]at h;simp at h
   ·simp at h
  ·rw[if_neg e]at h;simp at h
theorem WQ{a:List aD}{cs:List Value}{sz:Nat}(hl:a.length=sz):∀(n:Nat) (i:Nat),(∀j,i≤j→j<i+n→Opened G w a ((cs.drop (j*sz)).take sz))→Opened G w (Ab6 a n) ((cs.drop (i*sz)).take (n*sz))
 |0,i,_=>⟨(),by simp[BL,Ab6];exact .nil,λc hc=>by simp[BL,Ab6]at hc⟩
 |n+1,i,h=>by
  have h1:=h i (A_ _) ω;have h2:=WQ hl n (i+1) λj h3 h4=>h j ω ω
  have:=h1.append h2
  have ht:(cs.drop (i*sz)).take ((n+1)*sz)=(cs.drop (i*sz)).take sz++(cs.drop ((i+1)*sz)).take (n*sz):=by rw[J_,aZ,a7_ (n*sz),List.take_add,List.drop_drop,J_,aZ]
  rw[ht];exact this
theorem Amb{α:Type}{Q:Nat→α→Prop}:∀(n:Nat),(∀i,i<n→∃y,Q i y)→∃l:List α,l.length=n∧∀i y,l[i]?=C y→Q i y
 |0,_=>⟨[],rfl,λi y h=>by simp at h⟩
 |n+1,h=>by
  obtain⟨l,h1,h2⟩:=Amb n λi hi=>h i ω;obtain⟨y,hy⟩:=h n ω;refine⟨l++[y],by simp[h1],λi z hz=>?_⟩;rw[c6_]at hz;by_cases hi:i<l.length
  ·rw[if_pos hi]at hz;exact h2 i z hz
  ·rw[if_neg hi]at hz
   have:i-l.length=0:=by have:=(a_.1 hz).1;simp at this;omega
   rw[this]at hz;simp at hz;subst hz
   have:i=n:=ω
   rw[this];exact hy
theorem Aqu{H:Type}{enc:TypeId×Value→H}{P:Program}{w:World}{base:Nat}{spare:Nat→Bool}{held:Bool}{BZ:Nat}{t:TypeId}{x:DataW H×List MemPlace}{k:FloatKind}(ht:P.underlying t=C (.float k))(h:DataW.trod enc P w base spare held BZ t cs=C x):∃n,cs=[.float k n]:=by
 cases BZ with
 |zero=>simp[DataW.trod]at h
 |succ n=>unfold DataW.trod at h;rw[ht]at h;split at h<;>simp_all
include ok dk in
theorem Amj:∀(BZ d t:Nat) (cs:List Value) (x:DataW H×List MemPlace) (s:List aD),shl G d t=C s→DataW.trod enc P w 0 sp hd BZ t cs=C x→Opened G w s cs:=by
 intro BZ;induction BZ with
 |zero=>intro d t cs x s _ h;simp[DataW.trod]at h
 |succ BZ ih=>
  intro d t cs x s h ht;cases d with
  |zero=>simp[shl]at h
  |succ d=>
  simp only[shl]at h;cases hty:G.ty t with
  |bool=>rw[hty]at h;simp at h;subst h;obtain⟨b,rfl,_⟩:=DataW.trod_bool (ok.bool t hty) ht;exact⟨(b,()),aT (.sc _ rfl) .nil,λc hc=>by simp[BL,aV]at hc;subst hc;exact .bool b⟩
  |int k=>rw[hty]at h;simp at h;subst h;obtain⟨n,rfl,_,hw⟩:=DataW.trod_int (ok.int t k hty) ht;exact⟨(n,()),aT (.sc _ rfl) .nil,λc hc=>by simp[BL,aV]at hc;subst hc;exact .int k n hw⟩
  |flt k=>rw[hty]at h;simp at h;subst h;obtain⟨n,rfl⟩:=Aqu (ok.flt t k hty) ht;exact⟨(n,()),aT (.sc _ rfl) .nil,λc hc=>by simp[BL,aV]at hc;subst hc;exact .flt k n⟩
  |str=>rw[hty]at h;simp at h;subst h;obtain⟨b,rfl,_,hw⟩:=DataW.trod_string (ok.str t hty) ht;exact⟨(b,()),aT (.sc _ rfl) .nil,λc hc=>by simp[BL,aV]at hc;subst hc;exact .str b hw⟩
  |st fs=>
   rw[hty]at h;obtain⟨fields,hund,hmap,hno⟩:=ok.strc t fs hty;obtain⟨xs,n,hn,_,hlen,hxs,hf⟩:=DataW.trod_struct hund ht;have hn:BZ=n:=ω;subst hn;rw[OF ok (t:=t) (by rw[hty];simp)]at hlen;simp only at h;split at h
   ·rename_i a ha;simp only[AN]at h;by_cases hl:a.length=G.sz t
    ·rw[if_pos hl]at h;simp at h;subst h
     have:=Va (w:=w) (cs:=cs) fs 0 a ha λp hp q hq=>?_
     ·rw[c2_,c3_ ω]at this;exact this
     ·have hp':p∈fields.toList.map (λf=>(f.offset,f.type)):=by rw[hmap];exact hp
      obtain⟨f,hfm,rfl⟩:=c8_.1 hp';obtain⟨i,hi⟩:=List.getElem?_of_mem hfm;have hi':fields[i]?=C f:=by simpa using hi
      have h1:=hf i f hi';have hlt:i<xs.length:=by rw[hxs];exact(t_.1 hi').1
      rw[f_ hlt,OF ok (hno f.offset f.type hp)]at h1;exact ih d f.type _ _ q hq h1
    ·rw[if_neg hl]at h;simp at h
   ·simp at h
  |arr n e=>
   rw[hty]at h;obtain⟨hund,hno⟩:=ok.arr t n e hty;obtain⟨xs,m,hm,_,hlen,hxs,hf⟩:=DataW.trod_array hund ht;have hm:BZ=m:=ω;subst hm;rw[OF ok (t:=t) (by rw[hty];simp)]at hlen;simp only at h;split at h
   ·rename_i a ha;cases hl:(aG a.length (G.sz e)&&aG (n*G.sz e) (G.sz t))with
    |false=>rw[hl]at h;simp at h
    |true=>
     rw[hl]at h;simp at h;subst h;simp only[b_]at hl;have hl1:=Ap.1 hl.1;have hl2:=Ap.1 hl.2
     have:=WQ (G:=G) (w:=w) (cs:=cs) hl1 n 0 λj _ hj=>?_
     ·rw[Nat.zero_mul,c2_,c3_ ω]at this;exact this
     ·have h1:=hf j ω;rw[f_ ω,OF ok hno]at h1;exact ih d e _ _ a ha h1
   ·simp at h
  |sl e=>
   rw[hty]at h;simp only at h;cases hfn:TA (G.ty e)with
   |true=>rw[hfn]at h;cases h
   |false=>
   rw[hfn]at h;cases h;obtain⟨hund,hno,_,hencl⟩:=ok.sl t e hty;obtain⟨se,hse,hdec⟩:=dk t e hty hfn;have hsz:=OF ok hno;rcases DataW.trod_slice hund ht with⟨rfl,_⟩ | ⟨a,len,cap,Ft,rest,n,hn,rfl,_,_,hl,hm,hel,hget,_⟩
   ·exact⟨([],()),aT (.nil _ _ _) .nil,λc hc=>by simp[BL,aV]at hc;subst hc;exact .ro e [] (G_ _) λi x j c h=>by simp at h⟩
   ·have hn:BZ=n:=ω;subst hn;rw[hsz]at hget;obtain⟨l,hll,hlq⟩:=Amb (Q:=λi (y:G.T e)=>(∀j,j<G.sz e→∃v,w.cell? ((a.add (i*G.sz e)).add j)=C v∧∀cv,(G.enc e y)[j]?=C cv→Rd G (λb=>b<w.heap.size) w.heap cv v)∧∀c∈G.enc e y,WfC G c) len λi hi=>by
     have h1:=hget i hi;rw[f_ ω]at h1;cases hc:w.cells? 0 (a.add (i*G.sz e)) (G.sz e)with
     |none=>rw[hc]at h1;simp at h1
     |some ci=>rw[hc]at h1;obtain⟨xe,r1,r2⟩:=ih 20 e ci _ se hse h1;obtain⟨y,hy⟩:=hdec xe;have hye:=ok.encdec e _ _ hy;obtain⟨_,hcl,hat⟩:=World.cells?_some hc;refine⟨y,λj hj=>?_,λc hcm=>r2 c (by rw[← hye];exact hcm)⟩;refine⟨ci[j]'ω,by rw[hat j hj];exact f_ ω,λcv hcv=>?_⟩;rw[hye]at hcv;exact r1.2 j cv _ hcv (f_ ω)
    refine⟨(l,()),aT ?_ .nil,λc hc=>?_⟩
    ·show Rd G _ w.heap (.ro e l) _;by_cases h0:len=0
     ·have:l=[]:=C_ ω
      rw[this,h0];exact .nil _ _ _
     ·have hpos:=ok.pos e hno;obtain⟨y0,hy0⟩:∃y0,l[0]?=C y0:=⟨l[0]'ω,f_ ω⟩
      obtain⟨v0,hv0,_⟩:=(hlq 0 y0 hy0).1 0 hpos;obtain⟨b,off,spot⟩:=a;have ha0:((⟨b,off,spot⟩:Addr).add (0*G.sz e)).add 0=⟨b,off,spot⟩:=by rw[Nat.zero_mul];rfl
      rw[ha0]at hv0;unfold World.cell? at hv0;simp only at hv0;split at hv0
      ·rename_i c te fz hb;cases hsp:spot with
       |some z=>rw[hsp]at hv0;simp at hv0
       |none=>
        subst hsp;have hlt:b<w.heap.size:=(t_.1 hb).1;rw[← hll];have hcell:∀i j,i<l.length→j<G.sz e→∃v,c[off+i*G.sz e+j]?=C v∧∀y cv,l[i]?=C y→(G.enc e y)[j]?=C cv→Rd G (λb=>b<w.heap.size) w.heap cv v:=by
         intro i j hi hj;obtain⟨v,hv,hq⟩:=(hlq i _ (f_ hi)).1 j hj;refine⟨v,?_,λy cv hy hcv=>hq cv ?_⟩
         ·rw[Es,Es]at hv;unfold World.cell? at hv;simp only[hb]at hv;simpa using hv
         ·rw[f_ hi]at hy;simp at hy;rw[hy];exact hcv
        refine .ro e l b off cap c te fz (λi j=>c.getD (off+i*G.sz e+j) undef) hlt hb ω (λi j hi hj=>?_) (λi j y cv hy hcv=>?_)
        ·obtain⟨v,hv,_⟩:=hcell i j hi hj;rw[hv];simp[m_,hv]
        ·have hi:i<l.length:=(a_.1 hy).1;have hj:j<G.sz e:=by rw[← hencl y];exact(a_.1 hcv).1
         obtain⟨v,hv,hq⟩:=hcell i j hi hj
         have:c.getD (off+i*G.sz e+j) undef=v:=by simp[m_,hv]
         rw[this];exact hq y cv hy hcv
      ·simp at hv0
    ·simp[BL,aV]at hc;subst hc;exact .ro e l ω λi y j c hy hc=>(hlq i y hy).2 c (l_ hc)
  |_=>rw[hty]at h;simp at h
end
end Go.Ab
namespace Go.Ab
variable{G:aB}
variable{v:Value}
def PI(G:aB):List aE→Type
 |[]=>Unit
 |s::t=>s.T G×PI G t
def Ic:(s:List aE)→PI G s→List (Pv G.T)
 |[],_=>[]
 |s::t,x=>s.give x.1::Ic t x.2
def TI:aD→Bool
 | .own _ _=>V
 |_=>J
def Abt:aE→Bool
 | .one c=>TI c
 | .agg cs=>cs.all TI
def OZ:(n:Nat)→(s:List aE)→PI G s→TmT G (Gh n s)
 |_,[],_=>()
 |n,_::t,x=>(x.1,OZ (n+1) t x.2)
def YE:∀(n:Nat) (s:List aE) (x:PI G s),FR (Gh n s) (OZ n s x)=Gh n ((Ic s x).map Sv.p)
 |_,[],_=>rfl
 |n,p::t,x=>by show(n,Sv.p (p.give x.1))::FR (Gh (n+1) t) (OZ (n+1) t x.2)=(n,Sv.p (p.give x.1))::Gh (n+1) ((Ic t x.2).map Sv.p);rw[YE (n+1) t x.2]
def Ada:∀(s:aD) (x:s.T G),TI s=J→s.blk x=[]
 | .own _ _,_,h=>by simp[TI]at h
 | .int _,_,_=>rfl
 | .bool,_,_=>rfl
 | .str,_,_=>rfl
 | .flt _,_,_=>rfl
 | .ro _,_,_=>rfl
 | .rp _ _,_,_=>rfl
 | .ptr _ _,_,_=>rfl
 | .clo _ _ _,_,_=>rfl
 | .np _ _,_,_=>rfl
 | .nili,_,_=>rfl
 | .nilp,_,_=>rfl
 | .sh _,_,_=>rfl
 | .lit _ _,_,_=>rfl
 | .sa _ _ _,_,_=>rfl
def Adb:∀(s:List aD) (x:TL G s),s.all TI=J→Vx s x=[]
 |[],_,_=>rfl
 |c::t,x,h=>by simp only[N_,b_]at h;simp only[Vx,Ada c x.1 h.1,Adb t x.2 h.2,List.append_nil]
def Atn(s:aE)(x:s.T G)(h:Abt s=J):s.blk x=[]:=by
 cases s with
 |one c=>exact Ada c x h
 |agg cs=>exact Adb cs x h
def Aae:∀(n:Nat) (s:List aE) (x:PI G s),s.all Abt=J→JH (Gh n s) (OZ n s x)=[]
 |_,[],_,_=>rfl
 |n,p::t,x,h=>by simp only[N_,b_]at h;show p.blk x.1++JH (Gh (n+1) t) (OZ (n+1) t x.2)=[];rw[Atn p x.1 h.1,Aae (n+1) t x.2 h.2];rfl
def Ap8(G:aB)(t:Nat):Option aE:=match shl G 20 t with
 |some s=>bif(G.ty t).isAgg then C (.agg s)else match s with | [c]=>C (.one c) | _=>N
 |none=>N
def Ag4(G:aB):List Nat→Option (List aE)
 |[]=>C []
 |t::r=>match Ap8 G t,Ag4 G r with
  |some a,C b=>C (a::b)
  |_,_=>N
def WfA(G:aB)(s:List aE)(x:PI G s):Prop:=∀p∈Ic s x,∀c∈p.cells,WfC G c
section
variable{H:Type}{enc:TypeId×Value→H}{P:Program}(ok:aP P G)(dk:Zq G){w:World}{sp:Nat→Bool}{hd:Bool}
theorem Ata{S:Nat→Prop}{h:Array Obj}{c:Cv G.T}(hw:WfC G c)(r:Rd G S h c v):Rc G (λ_=>N) S h c v:=by cases hw<;>exact r
include ok dk in
theorem Ap6{t:Nat}{d:DataW H}{ps:List MemPlace}{s:aE}{r:Reach}{base:Nat}(hs:Ap8 G t=C s)(ht:DataW.Trod enc P w 0 sp hd t v d ps)(hv:Value.okWide P w r base t v):
  ∃x:s.T G,Rp G (λ_=>N) (λb=>b<w.heap.size) w.heap (s.give x) v∧∀c∈(s.give x).cells,WfC G c:=by
 obtain⟨BZ,ht⟩:=ht;unfold Ap8 at hs;split at hs
 ·rename_i sh hsh;obtain⟨x,h1,h2⟩:=Amj ok dk BZ 20 t _ _ sh hsh ht;cases ha:(G.ty t).isAgg with
  |true=>
   rw[ha]at hs;simp at hs;subst hs;have hag:∃cs,v=.agg cs:=by
    unfold Value.okWide at hv;cases hty:G.ty t with
    |st fs=>obtain⟨fields,hund,_⟩:=ok.strc t fs hty;rw[hund]at hv;obtain⟨cs,h,_⟩:=hv;exact⟨cs,h⟩
    |arr n e=>obtain⟨hund,_⟩:=ok.arr t n e hty;rw[hund]at hv;obtain⟨cs,h,_⟩:=hv;exact⟨cs,h⟩
    |_=>rw[hty]at ha;simp[aS]at ha
   obtain⟨cs,rfl⟩:=hag;refine⟨x,?_,h2⟩;have e1:(Value.agg cs)=.agg cs.toList.toArray:=by simp
   rw[e1];exact .agg _ _ ⟨h1.1,λi c u hc hu=>Ata (h2 c (l_ hc)) (h1.2 i c u hc hu)⟩
  |false=>
   rw[ha]at hs;simp only[c_]at hs;split at hs
   ·rename_i c;simp at hs;subst hs;have hl:v.cells.toList.length=1:=by rw[← h1.1];rfl
    have hv1:v.cells=#[v]:=by
     cases v with
     |agg cs=>
      exfalso;unfold Value.okWide at hv;cases hty:G.ty t with
      |bool=>rw[ok.bool t hty]at hv;simp[Cell.okWide,Cell.ok,ok.bool t hty]at hv
      |int k=>rw[ok.int t k hty]at hv;simp[Cell.okWide,Cell.ok,ok.int t k hty]at hv
      |flt k=>rw[ok.flt t k hty]at hv;simp[Cell.okWide,Cell.ok,ok.flt t k hty]at hv
      |str=>rw[ok.str t hty]at hv;simp[Cell.okWide,Cell.ok,ok.str t hty]at hv
      |sl e=>rw[(ok.sl t e hty).1]at hv;simp[Cell.okWide,Cell.ok,(ok.sl t e hty).1]at hv
      |st _=>rw[hty]at ha;simp[aS]at ha
      |arr _ _=>rw[hty]at ha;simp[aS]at ha
      |_=>simp[shl,hty]at hsh
     |_=>rfl
    have hr:Rd G (λb=>b<w.heap.size) w.heap (c.give x.1) v:=h1.2 0 _ v rfl (by rw[hv1];rfl);have hw:=h2 (c.give x.1) (by simp[BL]);refine⟨x.1,.one _ _ (Ata hw hr),λc' hc'=>?_⟩;have hc':c'∈[c.give x.1]:=hc';simp at hc';subst hc';exact hw
   ·simp at hs
 ·simp at hs
include ok dk in
theorem Abx{r:Reach}{base:Nat}:∀(ts:List Nat) (vs:List Value) (ds:List (DataW H)) (ps:List MemPlace) (s:List aE),Ag4 G ts=C s→DataW.TrodAll enc P w 0 sp hd ts vs ds ps→
  (∀(j:Nat) t v,ts[j]?=C t→vs[j]?=C v→Value.okWide P w r base t v)→∃x:PI G s,F2 (Rp G (λ_=>N) (λb=>b<w.heap.size) w.heap) (Ic s x) vs∧WfA G s x
 |[],[],[],_,s,hs,_,_=>by simp[Ag4]at hs;subst hs;exact⟨(),.nil,λp hp=>by simp[Ic]at hp⟩
 |t::ts,v::vs,d::ds,ps,s,hs,⟨p,q,h1,h2,_⟩,hv=>by
  simp only[Ag4]at hs;split at hs
  ·rename_i a b ha hb;simp at hs;subst hs;obtain⟨x,g1,g2⟩:=Ap6 ok dk ha h1 (hv 0 t v rfl rfl);obtain⟨y,g3,g4⟩:=Abx ts vs ds q b hb h2 λj t v ht hvv=>hv (j+1) t v (by simpa using ht) (by simpa using hvv);refine⟨(x,y),g3.cons g1,λp hp=>?_⟩;simp only[Ic,y_]at hp;rcases hp with rfl | hp
   ·exact g2
   ·exact g4 p hp
  ·simp at hs
 |[],[],_::_,_,_,_,h,_=>h.elim
 |[],_::_,_,_,_,_,h,_=>by cases h
 |_::_,[],_,_,_,_,h,_=>by cases h
 |_::_,_::_,[],_,_,_,h,_=>by cases h
def Aaa(s:List aE):aC:=⟨Gh 0 s,[],[]⟩
theorem Al8{g:Nat}{sh:List aE}{E:List (Ex×aC)}{F:(Aaa sh).T G→Option (DL G E)}{rs:List ResultVar}(hf:BX P G g ⟨Aaa sh,E,F,rs⟩)(hno:sh.all Abt=J){x:PI G sh}{y:DL G E}
  (hF:F (OZ 0 sh x,())=C y) {b:Bool}{p:Ex×U G}(hp:DM E y C=C p) (hy:EP (Aaa sh) rs p=C (.p (.one (.sc (.bool b))),[])) {W:World}(hgl:GlOK G (λb=>b<W.heap.size) W.heap) {vals:List Value}
  (hargs:F2 (Rp G (λ_=>N) (λb=>b<W.heap.size) W.heap) (Ic sh x) vals) :
  Calls P g vals.toArray W λe' W'=>e'=.returned (.bool b)∧RowKit.Below W.heap.size W W':=by
 have hlen:∀(n:Nat) (s:List aE) (x:PI G s),(Ic s x).length=(Gh n s).length:=by
  intro n s;induction s generalizing n with
  |nil=>intro _;rfl
  |cons p t ih=>intro x;simp only[Ic,Gh,g_,ih (n+1) x.2]
 have hp0:((Aaa sh).mk' (OZ 0 sh x,())).hp=([]:List (Nat×aA G.T)):=by show JH (Gh 0 sh) (OZ 0 sh x)++([]++[])=[];rw[Aae 0 sh x hno];rfl
 have htm:((Aaa sh).mk' (OZ 0 sh x,())).tm=Gh 0 ((Ic sh x).map (Sv.p (T:=G.T))):=YE 0 sh x;refine((hf.2 (OZ 0 sh x,()) y p _ [] hF hp hy) (λ_=>N) (λb=>b<W.heap.size) (λ_=>False) W vals ⟨λn k hk=>?_,λn m z z' b h1=>?_,λn z b h1=>?_,λ_ h=>h,hgl⟩ (λn hn=>absurd rfl hn) ?_ λk v hk=>?_).mono ?_
 ·rw[hp0]at hk;cases hk
 ·rw[hp0]at h1;exact absurd rfl h1
 ·rw[hp0]at h1;exact absurd rfl h1
 ·rw[← hargs.1];exact hlen 0 sh x
 ·rw[htm,RI]at hk;simp at hk;obtain⟨u,hu,rfl⟩:=hk;obtain⟨v,hv,hrp⟩:=hargs.get hu
  have:vals.getD k undef=v:=by simp[q_,hv]
  rw[this];exact .p _ _ hrp
 ·rintro e' W' ⟨v,ν',S',he,hval,_,_,_,_,hsz,hfr,henv⟩;refine⟨?_,henv.1,henv.2.1,henv.2.2,hsz,λb hb=>hfr b hb id⟩;rw[he];cases hval with
  |p _ _ hrp=>
   cases hrp with
   |one _ _ hc=>have hc:Rd G S' W'.heap (.sc (.bool b)) v:=hc;cases hc;rfl
end
def Vk(G:aB)(y:Ty):Prop:=∀e,y=.sl e→TA (G.ty e)=V→∃s,shl G 20 e=C s∧∀x:TL G s,∃y,G.dec e (BL s x)=C y
def Add{G:aB}{y:Ty}(h:(match y with | .sl _=>J | _=>V)=V):Vk G y:=λe he _=>by subst he;simp at h
def Atr{G:aB}{e:Nat}{s:List aD}(h:shl G 20 e=C s)(hd:∀x:TL G s,∃y,G.dec e (BL s x)=C y):Vk G (.sl e):=λe' he _=>by cases he;exact⟨s,h,hd⟩
def An8{tys:List (Nat×TyD)}{l:List (Ent1 (TOf tys))}{gl:Nat→Option ((t:Nat)×TOf tys t)}{ext:Nat→Nat}(h:∀p∈l,Vk (Ls tys l gl ext) p.e.ty):Zq (Ls tys l gl ext):=λt=>Py (T:=TOf tys) (Q:=λ_ e=>Vk (Ls tys l gl ext) e.ty) (λ_=>Add rfl) h t
end Go.Ab
namespace Go.Ab
variable{G:aB}
variable{P:Program}{k:IntKind}{w:World}
def Ac2{H:Type}{enc:TypeId×Value→H}{base:Nat}{sp:Nat→Bool}{held:Bool}{BZ:Nat}{t:TypeId}{c:Value}{n:Int}{q:List MemPlace}
  (ht:P.underlying t=C (.int k)) (h:DataW.trod enc P w base sp held BZ t [c]=C (.lit (.int k n),q)):c=.int k n:=by
 cases BZ with
 |zero=>simp[DataW.trod]at h
 |succ BZ=>cases c<;>simp[DataW.trod,ht]at h;obtain⟨⟨rfl,_⟩,rfl,_⟩:=h;rfl
def RW{n:String}{g:Nat}{t e:TypeId}{ns:List Int}{gt:Nat}{gx:G.T gt}{cs:Array Value}{BZ:Nat}{p:List MemPlace}
  (hn:P.globalNamed n=C g) (hu:P.underlying t=C (.array ns.length e)) (he:P.underlying e=C (.int k)) (hce:P.cellsOf e=1) (hct:P.cellsOf t=ns.length)
  (hsz:G.sz gt=ns.length) (henc:G.enc gt gx=ns.map λx=>.sc (.int k x))
  (hv:w.var? P n=C cs) (hd:DataW.trod (λ_=>()) P w 0 (λ_=>J) V BZ t cs.toList=C (.agg (ns.map λx=>.lit (.int k x)),p)) :
  Rd G (λb=>b<w.heap.size) w.heap (.rp gt gx 0) (.pointer (C ⟨g,0,N⟩))∧∃c te fz,w.heap[g]?=C (.cells c te fz)∧c.size=G.sz gt:=by
 obtain⟨xs,m,_,hx,hlen,hxs,hf⟩:=DataW.trod_array hu hd;have hcell:∀j (x:Int),ns[j]?=C x→cs[j]?=C (Value.int k x):=λj x hj=>by
  obtain⟨hjl,hjx⟩:=a_.1 hj;have h1:=hf j hjl;rw[hce,R_]at h1;have hm:xs.map (·.1)=ns.map λx=>DataW.lit (.int k x):=by simp only[b6_,DataW.agg.injEq]at hx;exact hx.1.symm
  have h2:=z_ (·[j]?) hm;simp only[I_,hj,b8_]at h2;cases hq:xs[j]? with
  |none=>rw[hq]at h2;cases h2
  |some z=>
   rw[hq]at h1 h2;obtain⟨z1,z2⟩:=z;simp only[b8_,Q_]at h2;subst h2;have hl:j<cs.toList.length:=by rw[hlen,hct];exact hjl
   have hdrop:(cs.toList.drop j).take 1=[cs.toList[j]]:=by rw[List.drop_eq_getElem_cons hl];rfl
   rw[hdrop]at h1;have hz:=Ac2 he h1;rw[← Array.getElem?_toList,f_ hl,hz]
 unfold World.var? at hv;rw[hn]at hv;simp only[d_]at hv;split at hv
 ·rename_i cs' te fz hb;obtain rfl:=n_ hv;refine⟨.rp gt gx 0 g 0 cs' te fz (λj=>cs'.getD j undef) (t_.1 hb).1 hb (λj hj=>?_) λj cv hj=>?_,cs',te,fz,hb,by rw[hsz,← hct,← hlen,Array.length_toList]⟩
  ·rw[hsz]at hj
   have:=hcell j ns[j] (f_ hj)
   rw[p_,this];simp[m_,this]
  ·rw[henc,I_]at hj;cases hq:ns[j]? with
   |none=>rw[hq]at hj;cases hj
   |some x=>
    rw[hq]at hj;simp only[b8_,Q_]at hj;subst hj
    have:=hcell j x hq
    rw[show cs'.getD j undef=.int k x by simp[m_,this]];exact .sc _ rfl
 ·cases hv
end Go.Ab
namespace Go.Ab
open Go
def zc(i:TypeInfo):List Value:=match i.zero with
 |some z=>z.cells.toList
 |none=>[]
def Sk.c:Sk→aD
 | .i k=>.int k
 | .b=>.bool
 | .s=>.str
 | .f k=>.flt k
 | .l t=>.ro t
def Sk.nl:Sk→Bool
 | .l _=>V
 |_=>J
def Sk.u:Sk→Bool
 | .i .u8=>J
 |_=>V
section
variable{T:Nat→Type}
def pe(t:Nat)(i:TypeInfo)(y:Ty):Ent1 T:=plain T t y i.size (zc i)
def re(t:Nat)(i:TypeInfo)(y:Ty)(sk:List Sk)(to:T t→SkL T sk)(of:SkL T sk→T t):Ent1 T:=⟨t,⟨y,i.size,zc i,λx=>LZ sk (to x),λcs=>match Aau sk cs with
 |some x=>C (of x)
 |none=>N,sk.all Sk.nl⟩⟩
def SkF(T:Nat→Type)(Y:Type):List Sk→Type
 |[]=>Y
 |a::t=>a.T T→SkF T Y t
def apS{Y:Type}:(l:List Sk)→SkF T Y l→SkL T l→Y
 |[],f,_=>f
 |_::t,f,x=>apS t (f x.1) x.2
def Sk.enc_sc(a:Sk)(x:a.T T):TC (a.enc x)=J∧(a.nl=J→WZ (a.enc x)=J)∧u8C (a.enc x)=a.u:=by
 cases a with
 |i k=>exact⟨rfl,λ_=>rfl,by cases k<;>rfl⟩
 |l t=>exact⟨rfl,(λh=>by cases h),rfl⟩
 |_=>exact⟨rfl,λ_=>rfl,rfl⟩
def Aa2:∀(l:List Sk) (x:SkL T l),(LZ l x).length=l.length
 |[],_=>rfl
 |_::t,x=>z_ (· +1) (Aa2 t x.2)
def Adh:∀(l:List Sk) (x:SkL T l),(LZ l x).all TC=J
 |[],_=>rfl
 |a::t,x=>by simp only[LZ,N_,(a.enc_sc x.1).1,Adh t x.2,Bool.and_self]
def Adi:∀(l:List Sk),l.all Sk.nl=J→∀(x:SkL T l),(LZ l x).all WZ=J
 |[],_,_=>rfl
 |a::t,h,x=>by rw[N_,b_]at h;simp only[LZ,N_,(a.enc_sc x.1).2.1 h.1,Adi t h.2 x.2,Bool.and_self]
def XZ:∀(l:List Sk) (x:SkL T l),(LZ l x).map u8C=l.map Sk.u
 |[],_=>rfl
 |a::t,x=>by simp only[LZ,aY,(a.enc_sc x.1).2.2,XZ t x.2]
end
def Af0:List (Nat×Nat)→List (Nat×Nat)→Bool
 |[],[]=>J
 |a::s,b::t=>aG a.1 b.1&&aG a.2 b.2&&Af0 s t
 |_,_=>V
def Adl:∀{s t:List (Nat×Nat)},Af0 s t=J→s=t
 |[],[],_=>rfl
 |(a,b)::s,(c,d)::t,h=>by simp only[Af0,b_]at h;rw[S_ h.1.1,S_ h.1.2,Adl h.2]
section
variable{P:Program}{G:aB}
def TZ(P:Program)(G:aB)(t:Nat):Ty→Bool
 | .no=>V
 | .bool=>match P.underlying t with
  |some .bool=>J
  |_=>V
 | .int k=>match P.underlying t with
  |some (.int k')=>CQ k k'
  |_=>V
 | .flt k=>match P.underlying t with
  |some (.float k')=>Ln k k'
  |_=>V
 | .str=>match P.underlying t with
  |some .string=>J
  |_=>V
 | .sl e=>(match P.underlying t with
  |some (.slice e')=>aG e e'
  |_=>V)&&(!Ke (G.ty e)&&(match P.info? e with
  |some i=>aO i.bytes 4096
  |none=>V))
 | .pt e=>match P.underlying t with
  |some (.pointer e')=>aG e e'
  |_=>V
 | .fn=>match P.underlying t with
  |some (.func _ _ _)=>J
  |_=>V
 | .st fs=>match P.underlying t with
  |some (.struct fields)=>Af0 (fields.toList.map λf=>(f.offset,f.type)) fs&&fs.all λp=>!Ke (G.ty p.2)
  |_=>V
 | .arr n e=>match P.underlying t with
  |some (.array n' e')=>aG n n'&&aG e e'&&!Ke (G.ty e)
  |_=>V
def Xz(G:aB):Ty→Prop
 | .sl e=>∀x,(G.enc e x).length=G.sz e
 |_=>True
def Atu{k k':IntKind}(h:CQ k k'=J):k=k':=by cases k<;>cases k'<;>first | rfl | (simp[CQ]at h)
def Att{k k':FloatKind}(h:Ln k k'=J):k=k':=by cases k<;>cases k'<;>first | rfl | (simp[Ln]at h)
def Aud{t:Nat}{y:Ty}(h:TZ P G t y=J)(hl:Xz G y):Ano P G t y:=by
 unfold TZ at h;cases y with
 |no=>trivial
 |bool | str=>
  simp only at h;split at h
  ·assumption
  ·cases h
 |int k=>
  simp only at h;split at h
  ·rename_i e;cases Atu h;exact e
  ·cases h
 |flt k=>
  simp only at h;split at h
  ·rename_i e;cases Att h;exact e
  ·cases h
 |sl e=>
  simp only[b_,W_]at h;obtain⟨h1,h2,h3⟩:=h;split at h1
  ·rename_i e';split at h3
   ·rename_i i hi;cases S_ h1;exact⟨e',h2,⟨i,hi,h3⟩,hl⟩
   ·cases h3
  ·cases h1
 |pt e=>
  simp only at h;split at h
  ·rename_i e';cases S_ h;exact e'
  ·cases h
 |fn=>
  simp only at h;split at h
  ·rename_i e;exact⟨_,_,_,e⟩
  ·cases h
 |st fs=>
  simp only at h;split at h
  ·rename_i fields e;rw[b_]at h;exact⟨fields,e,Adl h.1,h.2⟩
  ·cases h
 |arr n e=>
  simp only at h;split at h
  ·rename_i e';simp only[b_,W_]at h;cases S_ h.1.1;cases S_ h.1.2;exact⟨e',h.2⟩
  ·cases h
def RL(i:TypeInfo):Bool:=aO 1 i.size&&((zc i).all GP&&(aG (zc i).length i.size&&i.zero.isSome))
def Alq{t:Nat}{i:TypeInfo}{y:Ty}{enc:G.T t→List (Cv G.T)}{dec:List (Cv G.T)→Option (G.T t)}{fl:Bool}(hi:P.info? t=C i)(hc:(TZ P G t y&&RL i)=J)(hl:Xz G y)
  (h1:∀x,(enc x).length≤i.size) (h2:∀cs x,dec cs=C x→enc x=cs) (h3:∀x,(enc x).all TC=J) (h4:fl=J→∀x,(enc x).all WZ=J) (h5:∀x y,(enc x).map u8C=(enc y).map u8C):EntOK P G t ⟨y,i.size,zc i,enc,dec,fl⟩:=by
 rw[b_]at hc;obtain⟨ht,hc⟩:=hc;simp only[RL,b_]at hc;obtain⟨z,hz⟩:=Option.isSome_iff_exists.1 hc.2.2.2;refine⟨Aud ht hl,λ_=>⟨i,z,hi,rfl,hz,by simp only[zc,hz]⟩,λ_=>hc.1,λh=>?_,hc.2.1,S_ hc.2.2.1,h1,h2,h3,h4,h5⟩;have h:y=.no:=h;subst h;cases ht
def pk{t:Nat}{i:TypeInfo}{y:Ty}(hi:P.info? t=some i:=by kernel_rfl)(hc:(TZ P G t y&&RL i)=true:=by kernel_rfl)(hl:Xz G y:=by trivial):EntOK P G t (pe (T:=G.T) t i y).e:=Alq hi hc hl (λ_=>G_ _) (λ_ _ h=>by cases h) (λ_=>rfl) (λ_ _=>rfl) (λ_ _=>rfl)
def ps{t e:Nat}{i:TypeInfo}(hi:P.info? t=some i:=by kernel_rfl)(hc:(TZ P G t (.sl e)&&RL i)=true:=by kernel_rfl)(hl:∀x,(G.enc e x).length=G.sz e:=by intro x;kernel_rfl):EntOK P G t (pe (T:=G.T) t i (.sl e)).e:=pk hi hc hl
def rk0{t:Nat}{i:TypeInfo}{y:Ty}{sk:List Sk}{to:G.T t→SkL G.T sk}{of:SkL G.T sk→G.T t}(hl:Xz G y)(hi:P.info? t=C i)(hc:(TZ P G t y&&RL i)=J)(hs:aG sk.length i.size=J)(hr:∀x,to (of x)=x):EntOK P G t (re (T:=G.T) t i y sk to of).e:=
 Alq hi hc hl (λx=>by rw[Aa2,S_ hs];exact A_ _) (λcs x h=>by
  cases e:Aau sk cs with
  |none=>rw[e]at h;cases h
  |some z=>rw[e]at h;cases h;rw[hr];exact Ade e) (λx=>Adh _ _) (λh x=>Adi _ h _) (λx y=>by rw[XZ,XZ])
def rk{t:Nat}{i:TypeInfo}{y:Ty}{sk:List Sk}{to:G.T t→SkL G.T sk}{of:SkL G.T sk→G.T t}(hi:P.info? t=some i:=by kernel_rfl)(hc:(TZ P G t y&&RL i)=true:=by kernel_rfl)(hs:Nat.beq sk.length i.size=true:=by kernel_rfl)(hr:∀x,to (of x)=x:=by intro x;kernel_rfl)(hl:Xz G y:=by trivial):EntOK P G t (re (T:=G.T) t i y sk to of).e:=rk0 hl hi hc hs hr
def rs{t e:Nat}{i:TypeInfo}{sk:List Sk}{to:G.T t→SkL G.T sk}{of:SkL G.T sk→G.T t}(hi:P.info? t=some i:=by kernel_rfl)(hc:(TZ P G t (.sl e)&&RL i)=true:=by kernel_rfl)(hs:Nat.beq sk.length i.size=true:=by kernel_rfl)(hr:∀x,to (of x)=x:=by intro x;kernel_rfl)(hl:∀x,(G.enc e x).length=G.sz e:=by intro x;kernel_rfl):EntOK P G t (re (T:=G.T) t i (.sl e) sk to of).e:=rk0 hl hi hc hs hr
def fn0{α:Type _}{Q:α→Prop}:∀p∈([]:List α),Q p:=λ_ h=>absurd h (bE)
def fc{α:Type _}{Q:α→Prop}{a:α}{l:List α}(h:Q a)(t:∀p∈l,Q p):∀p∈a::l,Q p:=List.forall_mem_cons.2 ⟨h,t⟩
def Bd9 (P : Program) (t : Nat) (y : Ty) : Bool := (!y.isAgg || !P.eqGuardType P.depth t) && (!Agk y || (!P.stoodInHeld t && (P.fieldsOf t).toList.all λf => f.name != "_"))
def Bhq{l:List (Ent1 G.T)}(h:(l.all λp=>Bd9 P p.t p.e.ty)=J):∀p∈l,NmE P p.t p.e.ty:=λp hp=>by
 have h:=F_.1 h p hp;simp only[Bd9,b_,b9_,W_]at h;refine⟨λe=>?_,λe=>?_,λe=>?_⟩
 ·rcases h.1 with h | h
  ·rw[h]at e;cases e
  ·exact h
 ·rcases h.2 with h | h
  ·rw[h]at e;cases e
  ·exact h.1
 ·rcases h.2 with h | h
  ·rw[h]at e;cases e
  ·exact h.2
def As1:∀(l:List Sk) (y:TL G (l.map Sk.c)),∃x:SkL G.T l,BL (l.map Sk.c) y=LZ l x
 |[],_=>⟨(),rfl⟩
 |a::t,y=>by
  obtain⟨x,hx⟩:=As1 t y.2;cases a with
  |i k=>exact⟨((show Int from y.1),x),z_ (Cv.sc (.int k y.1):: ·) hx⟩
  |b=>exact⟨((show Bool from y.1),x),z_ (Cv.sc (.bool y.1):: ·) hx⟩
  |s=>exact⟨((show ByteArray from y.1),x),z_ (Cv.sc (.string y.1):: ·) hx⟩
  |f k=>exact⟨((show Nat from y.1),x),z_ (Cv.sc (.float k y.1):: ·) hx⟩
  |l e=>exact⟨((show List (G.T e)from y.1),x),z_ (Cv.ro e y.1:: ·) hx⟩
def dk(sk:List Sk){e:Nat}(hs:shl G 20 e=some (sk.map Sk.c):=by kernel_rfl)(hd:∀x:SkL G.T sk,(G.dec e (LZ sk x)).isSome=true:=by intro x;kernel_rfl):Vk G (.sl e):=Atr hs λy=>by obtain⟨x,hx⟩:=As1 sk y;rw[hx];exact Option.isSome_iff_exists.1 (hd x)
def df{e:Nat}(h:TA (G.ty e)=true:=by kernel_rfl):Vk G (.sl e):=λe' he hf=>by cases he;rw[h]at hf;cases hf
def dn{y:Ty}(h:(match y with | .sl _=>true | _=>false)=false:=by rfl):Vk G y:=Add h
end
def ki:Sk:=.i .i64
def k4:Sk:=.i .u32
def k1:Sk:=.i .u8
def kb:Sk:=.b
def ks:Sk:=.s
def kf:Sk:=.f .f64
def kl(t:Nat):Sk:=.l t
def ci:aD:=.int .i64
def c4:aD:=.int .u32
def c1:aD:=.int .u8
def cb:aD:=.bool
def cs:aD:=.str
def cf:aD:=.flt .f64
def cr(t:Nat):aD:=.ro t
def cw(m t:Nat):aD:=.own (32768+m) t
def oi:aE:=.one ci
def o4:aE:=.one c4
def o1:aE:=.one c1
def oA(l:List aD):aE:=.agg l
section
variable{G:aB}
def CSh.F(G:aB)(Y:Type):aD→Type
 | .int _=>Int→Y
 | .bool=>Bool→Y
 | .str=>ByteArray→Y
 | .flt _=>Nat→Y
 | .own _ t=>List (G.T t)→Y
 | .ro t=>List (G.T t)→Y
 | .rp t _=>G.T t→Y
 |_=>Y
def CSh.ap{Y:Type}:(s:aD)→s.F G Y→s.T G→Y
 | .int _,f,x=>f x
 | .bool,f,x=>f x
 | .str,f,x=>f x
 | .flt _,f,x=>f x
 | .own _ _,f,x=>f x
 | .ro _,f,x=>f x
 | .rp _ _,f,x=>f x
 | .ptr _ _,f,_=>f
 | .clo _ _ _,f,_=>f
 | .np _ _,f,_=>f
 | .nili,f,_=>f
 | .nilp,f,_=>f
 | .sh _,f,_=>f
 | .lit _ _,f,_=>f
 | .sa _ _ _,f,_=>f
def LF(G:aB)(Y:Type):List aD→Type
 |[]=>Y
 |s::t=>s.F G (LF G Y t)
def apL{Y:Type}:(l:List aD)→LF G Y l→TL G l→Y
 |[],f,_=>f
 |s::t,f,x=>apL t (s.ap f x.1) x.2
def PSh.F(G:aB)(Y:Type):aE→Type
 | .one c=>c.F G Y
 | .agg l=>LF G Y l
def PSh.ap{Y:Type}:(s:aE)→s.F G Y→s.T G→Y
 | .one c,f,x=>c.ap f x
 | .agg l,f,x=>apL l f x
def TmF(G:aB)(Y:Type):List (Nat×aE)→Type
 |[]=>Y
 |p::t=>p.2.F G (TmF G Y t)
def apT{Y:Type}:(l:List (Nat×aE))→TmF G Y l→TmT G l→Y
 |[],f,_=>f
 |p::t,f,x=>apT t (p.2.ap f x.1) x.2
def HpF(G:aB)(Y:Type):List (Nat×List aD)→Type
 |[]=>Y
 |p::t=>LF G (HpF G Y t) p.2
def apH{Y:Type}:(l:List (Nat×List aD))→HpF G Y l→HpT G l→Y
 |[],f,_=>f
 |p::t,f,x=>apH t (apL p.2 f x.1) x.2
def Spec.F(G:aB)(s:aC)(Y:Type):Type:=TmF G (HpF G Y s.hp) s.tm
def Spec.ap{Y:Type}(s:aC)(f:s.F G Y)(x:s.T G):Y:=apH s.hp (apT s.tm f x.1) x.2
def fe(fn:Func)(I:aC)(E:SL)(f:I.F G (Option (DL G E))):Fe G:=⟨I,E,I.ap f,fn.results.toList⟩
def ix(n:Nat):List aE→List (Nat×aE)
 |[]=>[]
 |a::t=>(n,a)::ix (n+1) t
def ia(l:List aE):aC:=⟨ix 0 l,[],[]⟩
def sp(l:List (Nat×aE)):aC:=⟨l,[],[]⟩
def sh(l:List (Nat×aE))(h:List (Nat×List aD)):aC:=⟨l,h,[]⟩
def rt(l:List (Nat×aE)):SL:=[(.ret,sp l)]
def rh(l:List (Nat×aE))(h:List (Nat×List aD)):SL:=[(.ret,sh l h)]
def jn(l:List (Nat×aE)):SL:=[(.normal,sp l)]
def jh(l:List (Nat×aE))(h:List (Nat×List aD)):SL:=[(.normal,sh l h)]
def xt(n:Nat)(l:List (Nat×aE)):Ex×aC:=(.exit n,sp l)
def xh(n:Nat)(l:List (Nat×aE))(h:List (Nat×List aD)):Ex×aC:=(.exit n,sh l h)
def rx(l:List (Nat×aE)):Ex×aC:=(.ret,sp l)
def yh(l:List (Nat×aE))(h:List (Nat×List aD)):Ex×aC:=(.ret,sh l h)
def Baj(n:Nat):List (Nat×SL)→Option SL
 |[]=>N
 |p::t=>bif aG (1048576+p.1) n then C p.2 else Baj n t
def js(l:List (Nat×SL))(n:Nat):Option SL:=Baj n l
end
variable{G:aB}
def lpN:List (aC×(U G→M (Ex×U G)))→U G→M (Ex×U G)
 |[],_=>aQ
 |s::t,st=>match s.1.take st with
  |none=>aQ
  |some x=>aH (s.2 (s.1.mk' x)) λp=>match p.1 with
   | .normal=>lpN t p.2
   |e=>aF (e,p.2)
section
variable{P:Program}(ok:aP P G)(eqok:EqOK P G){cf:Bj G}(cfok:CfOK P G cf){nt:Nat}{drawn:Array Oper→U G→M (U G)}(dok:DrawOK P G nt drawn)
 {lp:Nat→U G→M (Ex×U G)}{kl:Nat→List Nat}{n:Nat}{c:Code}(hl:∀(k:Nat) c',(AH c)[k]?=C c'→aM P G nt (lp (n+k)) c')
def rN(cf:Bj G)(nt:Nat)(drawn:Array Oper→U G→M (U G))(lp:Nat→U G→M (Ex×U G))(kl:Nat→List Nat)(n:Nat)(c:Code)(l:List (aC×(Nat→Option SL))):List (aC×(U G→M (Ex×U G))):=l.map λs=>(s.1,Bu cf nt drawn lp kl s.2 n c)
include cfok dok hl in
theorem Adr:∀(l:List (aC×(Nat→Option SL))) (st:U G),Law (lpN (rN cf nt drawn lp kl n c l) st)
 |[],_=>Ah
 |s::t,st=>by
  simp only[rN,aY,lpN];split
  ·exact Ah
  ·refine Ac (Db cfok dok c n _ hl) λp=>?_;cases p.1 with
   |normal=>exact Adr t p.2
   |exit i=>exact Ag _
   |ret=>exact Ag _
include ok eqok cfok dok hl in
theorem Xs{cx:Cx}(hnt:cx.nt=nt)(hnu:∀n y,cx.nu0 n=C y→lo≤n){ex:Ex}{st':U G}{Q:Exit→Act→World→Prop}(hQ:∀e a' w',ExR ex e→Rel G cx st' a' w'→Q e a' w') :
  ∀(l:List (aC×(Nat→Option SL))) (st:U G) (a:Act) (w:World),lpN (rN cf nt drawn lp kl n c l) st _ C=C (ex,st')→Rel G cx st a w→Code.rounds P c Q l.length a w
 |[],_,_,_,h,_=>by simp[rN,lpN,aQ]at h
 |s::t,st,a,w,h,r=>by
  rw[g_,rounds_succ];simp only[rN,aY,lpN]at h;cases hx:s.1.take st with
  |none=>rw[hx]at h;cases h
  |some x=>
   rw[hx]at h;have hr:=Spec.take_rel hx r hnu;have hb:(Bu cf nt drawn lp kl s.2 n c (s.1.mk' x) _ C).bind (λp=>(match p.1 with
    | .normal=>lpN (rN cf nt drawn lp kl n c t) p.2
    |e=>aF (e,p.2):M (Ex×U G)) _ C)=C (ex,st'):=by
    rw[← h];exact(Db cfok dok (kl:=kl) (jn:=s.2) c n _ hl _ _).symm
   obtain⟨⟨e,st1⟩,hv,hb⟩:=Option.bind_eq_some_iff.1 hb;refine Ej ok eqok cfok dok hnt hnu c n _ st1 e a w _ hl hv hr λe' a' w' he r'=>?_;cases e with
   |normal=>rw[Ht he];exact Xs hnt hnu hQ t st1 a' w' hb r'
   |exit i=>simp only[aF,Q_,b6_]at hb;obtain⟨rfl,rfl⟩:=hb;have h9:=hQ _ _ _ he r';rw[Rx he]at h9⊢;exact h9
   |ret=>simp only[aF,Q_,b6_]at hb;obtain⟨rfl,rfl⟩:=hb;have h9:=hQ _ _ _ he r';rw[NU he]at h9⊢;exact h9
end
section
variable{P:Program}(cx:Ctx P G){l:List (Nat×Fe G)}(hl:∀p∈l,BX P G p.1 p.2)
include cx hl in
theorem lkn{nt:Nat}{c:Code}(lp:Nat→St G→M (Ex×St G))(n:Nat)(ss:List (Spec×(Nat→Option SL))){f:St G→M (Ex×St G)}(hf:f=lpN (rN (cfQ l) nt (MH (cfQ l) nt) lp (λ_=>[]) n c ss):=by rfl)
  (hin:FE (λk c=>LoopOK P G nt (lp k) c) n (AH c):=by exact an0 κ):LoopOK P G nt f c:=by
 subst hf;have dok:=MI cx.ok cx.eqok (Ix cx.ok hl) (QG l) cx.hm (nt:=nt);exact⟨λst=>Adr (Ix cx.ok hl) dok hin ss st,λst _ _ h _ a w _ hnt hnu r hQ=>wp_loop_rounds ss.length (Xs cx.ok cx.eqok (Ix cx.ok hl) dok hin hnt hnu hQ ss st a w h r)⟩
end
variable{G:aB}
def dOf:Nat→Code→Code
 |0,.seq y _=>y
 |k+1,.seq _ y=>dOf k y
 |_,_=>.skip
def noD:Nat→Code→Code
 |0,.seq _ y=>y
 |k+1,.seq x y=>.seq x (noD k y)
 |_,c=>c
def Ag5:Nat→Code→Bool
 |0,.seq _ _=>J
 |k+1,.seq (.region _ _ _) y=>Ag5 k y
 |_,_=>V
section
variable{P:Program}(ok:aP P G)(eqok:EqOK P G){cf:Bj G}(cfok:CfOK P G cf){nt:Nat}{drawn:Array Oper→U G→M (U G)}(dok:DrawOK P G nt drawn)
 {lp:Nat→U G→M (Ex×U G)}{kl:Nat→List Nat}{jn:Nat→Option (List (Ex×aC))}
include cfok dok in
theorem Ag6{id:Nat}{ops:Array Oper}{b:Bool}{n:Nat}{st st':U G}{ex:Ex}(h:Bu cf nt drawn lp kl jn n (.region id ops b) st _ C=C (ex,st')):ex=.normal:=by
 cases b with
 |false=>unfold Bu at h;obtain⟨stp,h,_⟩:=PE h;have hlr:Law (OT cf nt ops ops.toList stp):=NN (cx:=⟨default,λ_=>False,λ_=>False,λ_=>N,nt,[]⟩) cfok ops ops.toList stp;obtain⟨st0,h0,_⟩:=Iy (Ac hlr λ_=>Ag _) h;obtain⟨st1,_,h2⟩:=hlr.spec (aR h0);simp[aF]at h2;exact h2.1.symm
 |true=>unfold Bu at h;obtain⟨stp,h,_⟩:=PE h;obtain⟨st0,h0,_⟩:=Iy (Ac (dok.law ops stp) λ_=>Ag _) h;obtain⟨st1,_,h2⟩:=(dok.law ops stp).spec (aR h0);simp[aF]at h2;exact h2.1.symm
include ok eqok cfok dok in
theorem YP{d:Value→Deferred}{dr:Code}(hdr:∀(a:Act) (w:World) (Q:Exit→Act→World→Prop),(∀v,Q .normal { a with defers:=d v::a.defers } w)→dr.wp P Q a w){cx:Cx}(hnt:cx.nt=nt)(hnu:∀n y,cx.nu0 n=C y→lo≤n) :
  ∀(k:Nat) (c:Code),Ag5 k c=J→dOf k c=dr→∀(n:Nat) (st st':U G) (ex:Ex) (a:Act) (w:World) (Q:Exit→Act→World→Prop),
  (∀(j:Nat) c',(AH (noD k c))[j]?=C c'→aM P G nt (lp (n+j)) c')→Bu cf nt drawn lp kl jn n (noD k c) st (Ex×U G) C=C (ex,st')→Rel G cx st a w→
  (∀v e a' w',ExR ex e→Rel G { cx with df:=d v::cx.df } st' a' w'→Q e a' w')→c.wp P Q a w
 |0,.seq x y,_,hy,n,st,st',ex,a,w,Q,hl,h,r,hQ=>by
  have hy:x=dr:=hy;subst hy;refine wp_seq (hdr a w _ λv=>?_);have hr:Rel G { cx with df:=d v::cx.df } st { a with defers:=d v::a.defers } w:=by obtain⟨ν,S,r⟩:=r;exact⟨ν,S,⟨r.slot,r.heap,r.used,by show d v::a.defers=d v::cx.df;rw[r.defers],r.nt,r.size,r.frame,r.env,r.sub,r.keep,r.names⟩⟩
  exact Ej ok eqok cfok dok (cx:={ cx with df:=d v::cx.df }) hnt hnu y n st st' ex _ w Q hl h hr (hQ v)
 |k+1,.seq (.region id ops b) y,hk,hy,n,st,st',ex,a,w,Q,hl,h,r,hQ=>by
  have h:Bu cf nt drawn lp kl jn n (.seq (.region id ops b) (noD k y)) st (Ex×U G) C=C (ex,st'):=h;unfold Bu at h;have hlx:∀(j:Nat) c',(AH (.region id ops b))[j]?=C c'→aM P G nt (lp (n+j)) c':=λj c' hj=>by simp[AH]at hj
  obtain⟨⟨e1,st1⟩,h1,h2⟩:=(Kf (Db cfok dok (.region id ops b) n st hlx)).spec (aR h);obtain⟨st0,h0,hcut⟩:=Iy (Db cfok dok (.region id ops b) n st hlx) h1;have hn:e1=.normal:=Ag6 cfok dok h0;subst hn;refine wp_seq (Ej ok eqok cfok dok hnt hnu (.region id ops b) n st st0 .normal a w _ hlx h0 r λe a' w' he r''=>?_);rw[Ht he];exact YP hdr hnt hnu k y hk hy n st1 st' ex a' w' Q hl h2 (hcut hnu r'') hQ
include ok eqok cfok in
theorem Aba {g gd k : Nat} {fn : Func} {fd : Fn} {body : Code} (hfn : P.funcs[g]? = C fn) (hname : (fn.name == "runtime.NumGoroutine") = V) (hbody : fn.body = C body) {e : Fe G} (hrs : fn.results.toList = e.rs) (hlen : e.I.tm.length ≤ fn.ntmps)
  (dok:DrawOK P G fn.ntmps drawn) (hl:∀(j:Nat) c',(AH (noD k body))[j]?=C c'→aM P G fn.ntmps (lp j) c') (hk:Ag5 k body=J)
  (hdr:∀(a:Act) (w:World) (Q:Exit→Act→World→Prop),(∀v,Q .normal { a with defers:={ target:=.fn fd #[],args:=#[v] }::a.defers } w)→(dOf k body).wp P Q a w)
  (hinv:∀v w,(invoke (.fn fd #[]) #[v]).run P w=.ok (.enter gd #[v]) w) (hcd:∀v w,CallsD P gd #[v] .returning w λe u w'=>e=.returned (.tuple #[])∧u=.returning∧w'=w)
  (hF:∀x y,e.F x=C y→Bu cf fn.ntmps drawn lp kl jn 0 (noD k body) (e.I.mk' x) _ (λp=>EQ e.E p.1 p.2)=C y):BX P G g e:=by
 have hl0:∀(j:Nat) c',(AH (noD k body))[j]?=C c'→aM P G fn.ntmps (lp (0+j)) c':=λj c' hk=>by rw[p_];exact hl j c' hk
 refine Aa9 ok hfn hname (by rw[hbody];rfl) hrs hlen (λst=>Db cfok dok (kl:=kl) (jn:=jn) (noD k body) 0 st hl0) hF λcx st st' ex args w R hnt hdf hnu hex h0 hrel hR=>?_;refine calls_of_wp_defers hfn hbody (YP ok eqok cfok dok hdr hnt hnu k body hk rfl 0 _ st' ex _ w _ hl0 h0 hrel λv e' a' w' he r'=>?_);have hpost:Leaves P fn a'.tmps R a'.defers .returning w':=by
  have hd:a'.defers=[{ target:=.fn fd #[],args:=#[v] }]:=by obtain⟨_,_,r⟩:=r';have h9:a'.defers={ target:=.fn fd #[],args:=#[v] }::cx.df:=r.defers;rw[h9,hdf]
  rw[hd];refine⟨by simp,fd,#[],gd,#[v],rfl,hinv v w',(hcd v w').mono λe u w2 h=>?_⟩;obtain⟨rfl,rfl,rfl⟩:=h;exact hR _ a' w2 r'
 cases ex with
 |normal=>rw[Ht he];exact hpost
 |ret=>rw[NU he];exact hpost
 |exit i=>exact absurd rfl (hex i)
end
section
variable{P:Program}{G:aB}(cx:Ctx P G){l:List (Nat×Fe G)}(hl:∀p∈l,BX P G p.1 p.2)(jn:Nat→Option SL)(lp:Nat→U G→M (Ex×U G))
include cx hl in
theorem fkd{g gd:Nat}{fn:Func}{fd:Fn}{e:Fe G}(k:Nat)(hfn:P.funcs[g]?=some fn)
  (hdr:∀(a:Act) (w:World) (Q:Exit→Act→World→Prop),(∀v,Q .normal { a with defers:={ target:=.fn fd #[],args:=#[v] }::a.defers } w)→(dOf k (Ax fn)).wp P Q a w)
  (hinv:∀v w,(invoke (.fn fd #[]) #[v]).run P w=.ok (.enter gd #[v]) w) (hcd:∀v w,CallsD P gd #[v] .returning w λe u w'=>e=.returned (.tuple #[])∧u=.returning∧w'=w)
  (hlp:FE (λk c=>LoopOK P G fn.ntmps (lp k) c) 0 (AH (noD k (Ax fn)))) (hk:Ag5 k (Ax fn)=true:=by kernel_rfl)
  (hc : (!(fn.name == "runtime.NumGoroutine") && Nat.ble e.I.tm.length fn.ntmps) = true := by kernel_rfl) (hbody : fn.body = some (Ax fn) := by kernel_rfl) (hrs : fn.results.toList = e.rs := by rfl)
  (hF:∀x,Lm (cfQ l) lp jn fn.ntmps (noD k (Ax fn)) e.I e.E x=e.F x:=by intro x;kernel_rfl):BX P G g e:=by
 rw[b_,W_]at hc;exact Aba cx.ok cx.eqok (Ix cx.ok hl) hfn hc.1 hbody hrs (r_ hc.2) (MI cx.ok cx.eqok (Ix cx.ok hl) (QG l) cx.hm) (WB hlp) hk hdr hinv hcd
  (kl:=λ_=>[]) λx y h=>(hF x).trans h
end
end Go.Ab
namespace Go.Ab
variable{G:aB}
variable{α:Type}{P:α→Prop}
noncomputable def eqQ{α:Type _}(a b:α):Bool:=@decide (a=b) (Classical.propDecidable _)
def VG{α:Type _}{a b:α}:eqQ a b=J↔a=b:=@decide_eq_true_iff _ (Classical.propDecidable _)
def Afz:List Nat→List Nat→Bool
 |[],[]=>J
 |a::s,b::t=>aG a b&&Afz s t
 |_,_=>V
def Yz:∀{a b:List Nat},Afz a b=J→a=b
 |[],[],_=>rfl
 |a::s,b::t,h=>by simp only[Afz,b_]at h;rw[Ap.1 h.1,Yz h.2]
def Xk(a:Nat):List Oper→Bool
 |[]=>J
 |o::t=>(match o.dst with | some d=>!aG d a | none=>J)&&Xk a t
def Xl{a:Nat}:∀{l:List Oper},Xk a l=J→∀o∈l,o.dst≠C a
 |[],_,o,ho=>absurd ho (bE)
 |q::t,h,o,ho=>by
  rw[Xk,b_]at h;rcases y_.1 ho with ho | ho
  ·intro e;rw[ho]at e;have h1:=h.1;rw[e]at h1;have h1:(!aG a a)=J:=h1;rw[Ap.2 rfl]at h1;cases h1
  ·exact Xl h.2 o ho
def Xm(n j:Nat):Nat→List (Z G)→Bool
 |_,[]=>J
 |i,x::t=>(aG i j||!has (Bd x.d) n)&&Xm n j (i+1) t
def Xn{n j:Nat}:∀{i:Nat}{l:List (Z G)},Xm n j i l=J→∀k x,l[k]?=C x→n∈Bd x.d→i+k=j
 |i,y::t,h,k,x,hk,hn=>by
  simp only[Xm,b_,b9_,W_]at h;cases k with
  |zero=>
   simp at hk;subst hk;rcases h.1 with h | h
   ·exact Ap.1 h
   ·rw[(Df _ _).2 hn]at h;cases h
  |succ k=>have:=Xn h.2 k x (by simpa using hk) hn;omega
noncomputable def ZI(ops:List Oper)(outs:List (Z G))(st st1:U G)(j:Nat):List Nat→Bool
 |[]=>J
 |i::t=>(match ops[i]?,outs[i]? with
  |some o,C x=>match o.op with
   | .load ty (.tmp a)=>match O st1.tm a with
    |some (.p (.one (.ptr n off)))=>Afz x.rd [n]&&(Xk a (ops.drop i)&&(Xm n j 0 outs&&eqQ (Cw (O st1.hp) (G.sz ty) (.ptr n off)) (Cw (O st.hp) (G.sz ty) (.ptr n off))))
    |_=>V
   |_=>V
  |_,_=>V)&&ZI ops outs st st1 j t
def Ag0{α:Type}:Nat→List α→List (Nat×α)
 |_,[]=>[]
 |n,x::t=>(n,x)::Ag0 (n+1) t
def VU{α:Type}:∀{l:List α}{n i:Nat}{x:α},l[i]?=C x→(Ag0 n l)[i]?=C (n+i,x)
 |y::t,n,0,x,h=>by simp at h;subst h;rfl
 |y::t,n,i+1,x,h=>by
  have:=VU (n:=n+1) (l:=t) (i:=i) (x:=x) (by simpa using h)
  rw[show n+1+i=n+(i+1)by omega]at this;simpa[Ag0]using this
def Alg(xs:List Nat)(p q:Nat×Z G):Bool:=(has xs q.1||disj (Bd p.2.d) q.2.rd)&&(disj (Bd p.2.d) (Bd q.2.d)&&(has xs p.1||disj (Bd q.2.d) p.2.rd))
noncomputable def Aaz(cf:Bj G)(nt:Nat)(xs:List Nat)(j:Nat)(ops:Array Oper)(st:U G):M (U G):=
 aH (aK (Kc 0 ops.toList&&pairs (λx y=>Oper.apart ops x y) (FT ops.toList []) ops.toList)) λ_=>
 aH (Wc cf nt ops ops.toList st) λp=>
 aH (aK (pairs (Alg xs) (FT ops.toList []) (Ag0 0 p.1))) λ_=>
 aH (aK (ZI ops.toList p.1 st p.2 j xs)) λ_=>aF p.2
noncomputable def WP(cf:Bj G)(nt n:Nat)(xs:List Nat)(j:Nat)(ops:Array Oper)(st:U G):M (U G):=match aG ops.size n with
 |true=>Aaz cf nt xs j ops st
 |false=>MH cf nt ops st
def XA{ops:List Oper}{outs:List (Z G)}{st st1:U G}{j:Nat}:∀{xs:List Nat},ZI ops outs st st1 j xs=J→∀i∈xs,∃o x ty a n off,ops[i]?=C o∧outs[i]?=C x∧o.op=.load ty (.tmp a)∧O st1.tm a=C (.p (.one (.ptr n off)))∧x.rd=[n]∧Xk a (ops.drop i)=J∧Xm n j 0 outs=J∧
  Cw (O st1.hp) (G.sz ty) (.ptr n off)=Cw (O st.hp) (G.sz ty) (.ptr n off)
 |i::t,h,k,hk=>by
  unfold ZI at h;rw[b_]at h;rcases y_.1 hk with rfl | hk
  ·have h1:=h.1;split at h1
   ·rename_i o x ho hx;split at h1
    ·rename_i ty a hop;split at h1
     ·rename_i n off ha;simp only[b_]at h1;exact⟨o,x,ty,a,n,off,ho,hx,hop,ha,Yz h1.1,h1.2.1,h1.2.2.1,VG.1 h1.2.2.2⟩
     ·cases h1
    ·cases h1
   ·cases h1
  ·exact XA h.2 k hk
section
variable{P:Program}(ok:aP P G)(eqok:EqOK P G){cf:Bj G}(cfok:CfOK P G cf)(cfl:Uc cf){nt:Nat}
include ok eqok cfok cfl in
theorem Alo(hm:P.follows .mixedOrders=J)(xs:List Nat)(j:Nat):DrawOK P G nt (Aaz cf nt xs j):=by
 refine⟨λops st=>Ac (Aj _) λ_=>Ac (Md cfok _ _) λ_=>Ac (Aj _) λ_=>Ac (Aj _) λ_=>Ag _,?_⟩;intro ops st st' h cx a w id Q hnt hrel hQ;subst hnt;unfold Aaz at h;obtain⟨h1,h2⟩:=aI h;obtain⟨⟨outs,st1⟩,h3,h4⟩:=(Md cfok (ops:=ops) ops.toList st).spec (aR h2);obtain⟨h5,h6⟩:=aI h4;obtain⟨h7,h8⟩:=aI h6;simp[aF]at h8;subst h8;obtain⟨e1,e2,e3⟩:=TT cfok ops.toList st st1 outs h3;rw[b_]at h1;refine Adg ok eqok cfok cfl hm (sf:=λi=>i∈xs) ⟨by simpa using e1,h1.1,h1.2,λi k x y hik hx hy=>?_,λi hi D s o out nm hs ho hout hact=>?_,λi o out hi ho=>e3 i o out (by simpa using hi) ho⟩ e2 hrel hQ
 ·refine(NR h5 i k _ _ hik (VU hx) (VU hy)).symm.imp (λh=>h) λh=>?_;simp only[Alg,b_,b9_,p_]at h;exact⟨Iz h.2.1,λhk=>Iz (h.1.resolve_left λe=>hk ((Df _ _).1 e)),λhk=>Iz (h.2.2.resolve_left λe=>hk ((Df _ _).1 e))⟩
 ·obtain⟨o',x',ty,ad,n,off,q1,q2,q3,q4,q5,q6,q7,q8⟩:=XA h7 i hi;obtain rfl:o=o':=by
   have:ops.toList[i]?=C o:=by simpa using ho
   rw[this]at q1;exact n_ q1
  obtain rfl:out=x':=by rw[hout]at q2;exact n_ q2
  have htm:O s.tm ad=C (.p (.one (.ptr n off))):=by rw[hs.tm ad,← q4,e2.tm ad];refine MN _ 0 _ _ (λk r hr hrk=>?_) rfl;obtain⟨p,z1,z2,z3⟩:=IB hr;rw[p_];refine h_ (Nat.lt_of_not_le λhle=>?_);refine Xl q6 p ?_ (z3▸hrk);rw[a4_];exact⟨k-i,by rw[a2_,show i+(k-i)=k by omega];exact z1⟩
  have hlook:∀D:Nat→Bool,Cw (O (Ay D 0 (Ci ops.toList outs) st).hp) (G.sz ty) (.ptr n off)=Cw (O st.hp) (G.sz ty) (.ptr n off):=λD=>by
   have only:∀k r,(Ci ops.toList outs)[k]?=C r→n∈Bd r.2.d→k=j:=λk r hr hn=>by
    obtain⟨p,z1,z2,z3⟩:=IB hr
    have:=Xn q7 k r.2 z2 hn
    omega
   cases hD:D j with
   |true=>
    have hh:O (Ay D 0 (Ci ops.toList outs) st).hp n=O st1.hp n:=by rw[e2.hp n];exact Kt _ 0 _ _ (λk r hr hn=>by rw[p_,only k r hr hn,hD]) rfl
    rw[← q8];unfold Cw;simp only[hh]
   |false=>
    have hh:O (Ay D 0 (Ci ops.toList outs) st).hp n=O st.hp n:=by rw[Kt (D':=λ_=>V) _ 0 _ st (λk r hr hn=>by rw[p_,only k r hr hn,hD]) rfl,HL]
    unfold Cw;simp only[hh]
  have hsl:Cw (O s.hp) (G.sz ty) (.ptr n off)=Cw (O st.hp) (G.sz ty) (.ptr n off):=by rw[← hlook λk=>decide (k<i)];unfold Cw;simp only[hs.hp n]
  rw[q3]at hact⊢;have e1:evC (Hs s.tm) (.tmp ad)=(aF (.ptr n off):M (Cv G.T)):=by funext R k;simp only[evC,Hs,htm];rfl
  have e2':∀h:Nat→Option (aA G.T),NO h (G.sz ty) (.ptr n off)=aN (Cw h (G.sz ty) (.ptr n off)):=λh=>rfl;have hact:Ib (Hs s.tm) (O s.hp) ty (.tmp ad) (Z G) C=C out:=hact;show Ib (Hs s.tm) (O (Ay D 0 (Ci ops.toList outs) st).hp) ty (.tmp ad) (Z G) C=C out;unfold Ib at hact⊢;rw[e1]at hact⊢;simp only[aH,aF,e2',hsl,hlook D]at hact⊢;exact hact
include ok eqok cfok cfl in
theorem Alp(hm:P.follows .mixedOrders=J)(n:Nat)(xs:List Nat)(j:Nat):DrawOK P G nt (WP cf nt n xs j):=by
 have a:=Alo ok eqok cfok cfl (nt:=nt) hm xs j;have b:=MI ok eqok cfok cfl (nt:=nt) hm;refine⟨λops st=>?_,λops st st' h=>?_⟩
 ·unfold WP;cases aG ops.size n
  ·exact b.law ops st
  ·exact a.law ops st
 ·unfold WP at h;cases hn:aG ops.size n
  ·rw[hn]at h;exact b.wp ops st st' h
  ·rw[hn]at h;exact a.wp ops st st' h
end
noncomputable def Bac(cf:Bj G)(n:Nat)(xs:List Nat)(j:Nat)(lp:Nat→U G→M (Ex×U G))(jn:Nat→Option (List (Ex×aC)))(nt:Nat)(body:Code)(I:aC)(E:List (Ex×aC))(x:I.T G):Option (DL G E):=Bu cf nt (WP cf nt n xs j) lp (λ_=>[]) jn 0 body (I.mk' x) _ λp=>EQ E p.1 p.2
section
variable{P:Program}(cx:Ctx P G){l:List (Nat×Fe G)}(hl:∀p∈l,BX P G p.1 p.2)(jn:Nat→Option SL)
include cx hl in
theorem fkY(n:Nat)(xs:List Nat)(j:Nat){g:Nat}{fn:Func}{e:Fe G}(hfn:P.funcs[g]?=some fn)(hF:∀x,Bac (cfQ l) n xs j (pl []) jn fn.ntmps (Ax fn) e.I e.E x=e.F x)
  (hlp : AH (Ax fn) = [] := by kernel_rfl) (hc : (!(fn.name == "runtime.NumGoroutine") && Nat.ble e.I.tm.length fn.ntmps) = true := by kernel_rfl) (hbody : fn.body = some (Ax fn) := by kernel_rfl) (hrs : fn.results.toList = e.rs := by rfl) : BX P G g e := by
 rw[b_,W_]at hc;exact Vb cx.ok cx.eqok (Ix cx.ok hl) hfn hc.1 hbody hrs (r_ hc.2) (Alp cx.ok cx.eqok (Ix cx.ok hl) (QG l) cx.hm n xs j) (λk c' h=>by rw[hlp]at h;simp at h) λx _ h=>(hF x).trans h
end
def Al{α:Type}(o:Option α)(P:α→Prop):Prop:=∀a,o=C a→P a
def Al.ret{a:α}(h:P a):Al (C a) P:=λ_ e=>by cases e;exact h
def Al.no:Al (N:Option α) P:=λ_ e=>by cases e
def Al.bind{β:Type}{o:Option β}{f:β→Option α}(Q:β→Prop)(h:Al o Q)(h2:∀b,Q b→Al (f b) P):Al (o.bind f) P:=λa e=>by
 cases o with
 |none=>cases e
 |some b=>exact h2 b (h b rfl) a e
def Al.bif{c:Bool}{x y:Option α}(h1:Al x P)(h2:Al y P):Al (bif c then x else y) P:=by
 cases c
 ·exact h2
 ·exact h1
def Al.iter{X Y:Type}{step:X→Option (Sum X Y)}(I:X→Prop){P:Y→Prop}(hs:∀x,I x→Al (step x) λr=>match r with | .inl x'=>I x' | .inr y=>P y):∀(n:Nat) (x:X),I x→Al (iter step n x) P
 |0,_,_=>λ_ e=>by cases e
 |n+1,x,hi=>λa e=>by
  rw[Go.Ab.iter]at e;cases hx:step x with
  |none=>rw[hx]at e;cases e
  |some r=>
   rw[hx]at e
   have:=hs x hi r hx
   cases r with
   |inl x'=>exact Al.iter I hs n x' this a e
   |inr y=>cases e;exact this
def Aac{β:Type}{o:Option β}{f g:β→Option α}(h:∀b,o=C b→f b=g b):Option.bind o f=Option.bind o g:=by
 cases o with
 |none=>rfl
 |some b=>exact h b rfl
def Ber{α β:Type _}{γ:Type}{a b:α}{c d:β}{r:Option γ}(h1:a=b)(h2:c=d):(bif(eqQ a b&&(eqQ c d&&J))then r else N)=r:=by rw[VG.2 h1,VG.2 h2];rfl
end Go.Ab
