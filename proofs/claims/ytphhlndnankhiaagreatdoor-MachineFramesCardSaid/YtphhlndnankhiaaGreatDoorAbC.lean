import Derived.Test.YtphhlndnankhiaaGreatDoorAbB
import Derived.Below
set_option linter.all false
open Option renaming some->A,none->C
open Go.Ab renaming lo->D,get->H,Blk->J,Out->L
open Go.Ab.M renaming bind->N,ret->O,bindneed->V,bindopt->W,opt->X,fail->aA
open Go.Ab.Cv renaming rds->Q
open Bool renaming true->U
open Nat renaming beq->aB,ble->aC,lt_trichotomy->aD
namespace Go.Ab
variable{G:Sig}
def Sv.cells{T:Nat→Type}:Sv T→List (Cv T)
 | .p x=>x.cells
 | .tup xs=>xs.flatMap Pv.cells
def YP{T:Nat→Type}:List (Cv T)→List Nat→List Nat
 |[],acc=>acc
 | .own n::t,acc=>bif has acc n then YP t acc else YP t (acc++[n])
 |_::t,acc=>YP t acc
def HK:List Nat→Nat→Nat→Option Nat
 |[],_,_=>C
 |k::t,n,i=>bif aB k n then A i else HK t n (i+1)
def TI:∀(l:List Nat) (n i m:Nat),HK l n i=A m→i≤m∧l[m-i]?=A n
 |[],n,i,m,h=>by simp[HK]at h
 |k::t,n,i,m,h=>by
  simp only[HK,BM]at h;by_cases e:k=n
  ·simp[e]at h;subst h;simp[e]
  ·rw[if_neg e]at h;obtain⟨h1,h2⟩:=TI t n (i+1) m h;exact⟨ω,by rw[show m-i=(m-(i+1))+1 by omega];simpa using h2⟩
section
variable{ν ν':Nat→Option Value}{S:Nat→Prop}{h:Array Obj}{f:Nat→Option Nat}(hf:∀n m x,f n=A m→ν n=A x→ν' m=A x)
include hf
end
def Bal{ν ν':Nat→Option Value}{S:Nat→Prop}{h:Array Obj}{n m t:Nat}{l:List (G.T t)}(he:ν' m=ν n)(r:Rb G ν S h n (.row t l)):Rb G ν' S h m (.row t l):=by
 rcases r with⟨h1,h2⟩ | ⟨b,cap,c,te,h1,h2⟩
 ·exact .inl ⟨he.trans h1,h2⟩
 ·exact .inr ⟨b,cap,c,te,he.trans h1,h2⟩
def Arr (P : Program) (g : Nat) : Prop := ∃ fn, P.funcs[g]? = A fn ∧ (fn.name == "runtime.NumGoroutine") = false ∧ fn.body.isNone = false
def WT{α:Type}:∀(l:List α) (n k:Nat),H (Jp n l) k=if n≤k then l[k-n]? else C
 |[],n,k=>by simp[Jp,H]
 |x::t,n,k=>by
  simp only[Jp,H,BM,WT t (n+1) k];by_cases e:n=k
  ·subst e;simp
  ·rw[if_neg e];by_cases h:n≤k
   ·rw[if_pos h,if_pos ω,show k-n=(k-(n+1))+1 by omega];simp
   ·rw[if_neg h,if_neg ω]
end Go.Ab
namespace Go.Ab
variable{G:Sig}
variable{fn: Func}{g: Nat}
def Bd7(g:Nat→Option Nat):List (Nat×Nat)→Option (List (Nat×Nat)):=Dn λp=>match g p.1 with | some m=>A (m,p.2) | none=>C
def Cv.ren{T:Nat→Type}(f g:Nat→Option Nat):Cv T→Option (Cv T)
 | .own n=>match f n with | some m=>A (.own m) | none=>C
 | .ptr n off=>match g n with | some m=>A (.ptr m off) | none=>C
 | .clo k p q=>match Bd7 g p,Bd7 g q with | some p',A q'=>A (.clo k p' q') | _,_=>C
 | .np n t=>match g n with | some m=>A (.np m t) | none=>C
 | .sc v=>A (.sc v)
 | .ro t l=>A (.ro t l)
 | .rp t x o=>A (.rp t x o)
 |_=>C
def Pv.ren{T:Nat→Type}(f g:Nat→Option Nat):Pv T→Option (Pv T)
 | .one c=>match c.ren f g with | some c=>A (.one c) | none=>C
 | .agg cs=>match Dn (Cv.ren f g) cs with | some cs=>A (.agg cs) | none=>C
def Sv.ren{T:Nat→Type}(f g:Nat→Option Nat):Sv T→Option (Sv T)
 | .p x=>match x.ren f g with | some x=>A (.p x) | none=>C
 | .tup xs=>match Dn (Pv.ren f g) xs with | some xs=>A (.tup xs) | none=>C
def Cv.pts{T:Nat→Type}:Cv T→List Nat
 | .ptr n _=>[n]
 | .clo _ p q=>SI p++SI q
 | .np n _=>[n]
 |_=>[]
def Cv.ows{T:Nat→Type}:Cv T→List Nat
 | .own n=>[n]
 |_=>[]
def Atc:List Nat→List Nat→List Nat
 |[],acc=>acc
 |n::t,acc=>bif has acc n then Atc t acc else Atc t (acc++[n])
def Xl(args:List (Pv G.T)):List Nat:=Atc (args.flatMap λp=>p.cells.flatMap Cv.pts) []
def inN(ns:List Nat)(n:Nat):Option Nat:=match HK ns n 0 with | some i=>A (D+i) | none=>C
def YO(ns:List Nat)(n:Nat):Option Nat:=bif aC D n then ns[n-D]? else C
def Acd(ns:List Nat)(n:Nat):Option Nat:=bif Nat.blt n D&&!has ns n then A n else C
def Asj(ns:List Nat):Option (J G.T)→Option (J G.T)
 |some (.cells cs)=>match Dn (Cv.ren (Acd ns) (inN ns)) cs with | some cs=>A (.cells cs) | none=>C
 |_=>C
def Bhf:Option (J G.T)→Option (J G.T)
 |some (.row t l)=>A (.row t l)
 |_=>C
def FG(ns:List Nat)(h:Nat→Option (J G.T))(n:Nat):Option (J G.T):=
 bif aC D n then match ns[n-D]? with | some m=>Asj ns (h m) | none=>C
 else bif has ns n then C else Bhf (h n)
def SH{T:Nat→Type}:Cv T→Bool
 | .ro _ _=>false
 | .rp _ _ _=>false
 |_=>U
def WP(G:Sig):List (Nat×J G.T)→Bool
 |[]=>U
 |(_,.row t _)::r=>G.flat t&&WP G r
 |(_,.cells _)::_=>false
def Al7:List Nat→Bool
 |[]=>U
 |_=>false
structure Tin(α:Type) where
 x:α
 olds:List Nat
 fz:List Nat
def VT:Nat→List Nat→Bool
 |_,[]=>U
 |n,k::t=>aB k n&&VT (n+1) t
def Rt(I:Spec)(h1:Nat→Option (J G.T))(k:Nat)(args:List (Pv G.T)):Option (Tin (I.T G)):=
 bif aB args.length I.tm.length&&aB k I.hp.length&&VT D (AF I.hp)then
  match Kh h1 (Jp 0 (args.map .p)) I.tm,Kg h1 I.hp with
  |some a,A b=>
   bif I.tm.all (λp=>p.2.fix (AF I.hp))&&I.hp.all (λp=>p.2.all (CSh.fix (AF I.hp)))&&
    (HY (DU (a.nm++b.nm)++AF I.hp)&&Wk (DU (a.nm++b.nm))&&HY (Es (a.nm++b.nm)++AF I.hp)&&WB (Es (a.nm++b.nm)++AF I.hp) (a.fz++b.fz))
   then A ⟨(a.x,b.x),Es (a.nm++b.nm),a.fz++b.fz⟩else C
  |_,_=>C
 else C
structure Fe(G:Sig) where
 I:Spec
 E:List (Ex×Spec)
 F:I.T G→Option (Gx G E)
 rs:List ResultVar
def VN(hp:Nat→Option (J G.T)):List Nat→Option (List (List (Cv G.T))):=Dn λn=>match hp n with | some (.cells cs)=>A cs | _=>C
def KN(I:Spec)(rs:List ResultVar)(p:Ex×St G):Option (Sv G.T×List (List (Cv G.T))):=match p.1 with
 | .exit _=>C
 |_=>match Sa p.2 rs,VN (H p.2.hp) (AF I.hp)with
  |some s,A bl=>A (s,bl)
  |_,_=>C
def OD:List Nat→List (List (Cv G.T))→List (Nat×J G.T)
 |n::ns,c::cs=>(n,.cells c)::OD ns cs
 |_,_=>[]
def ZK:List (Nat×J G.T)→List (Nat×Option (J G.T))
 |[]=>[]
 |(n,k)::t=>(n,A k)::ZK t
def UO(ns:List Nat)(h:Nat→Option (J G.T))(args:List (Pv G.T)):List Nat:=args.flatMap (λp=>p.cells.flatMap Cv.ows)++ns.flatMap λn=>match h n with | some (.cells cs)=>cs.flatMap Cv.ows | _=>[]
def plC{T:Nat→Type}:Cv T→Bool
 | .sc _ | .ro _ _ | .rp _ _ _=>U
 |_=>false
def UU(hp:Nat→Option (J G.T)):List Nat→Nat→Option (List (Nat×J G.T))
 |[],_=>A []
 |n::t,i=>match hp n,UU hp t (i+1)with
  |some (.row u l),A r=>A ((i,.row u l)::r)
  |some (.cells cs),A r=>bif Nat.blt n D&&cs.all plC then A ((i,.cells cs)::r)else C
  |_,_=>C
def frs{T:Nat→Type}:List (Cv T)→List Nat
 |[]=>[]
 | .ptr n _::t=>bif aC D n then frs t else n::frs t
 |_::t=>frs t
def Bd5(ns ms:List Nat)(nm n:Nat):Option Nat:=bif aC D n then YO ns n else HK ms n nm
def At1(ns:List Nat)(rd:List Nat)(nm:Nat)(olds fz:List Nat)(hp:Nat→Option (J G.T))(s:Sv G.T)(bl:List (List (Cv G.T))):Option (L G):=
 let ms:=YP (s.cells++bl.flatten) []++frs s.cells
 match bif HY ms then UU hp ms nm else C,s.ren (λn=>HK ms n nm) (Bd5 ns ms nm),Dn (Dn (Cv.ren (λn=>HK ms n nm) (YO ns))) bl with
 |some Ee,A s',A bl'=>
  let flat:=Al7 fz||((s.cells++bl.flatten).all SH&&WP G Ee)
  A ⟨A s',Nf (olds++bif flat then []else fz)++ZK (OD ns bl'++Ee),BI Ee,rd⟩
 |_,_,_=>C
section
variable(ns:List Nat)(h h1:Nat→Option (J G.T))(nm:Nat)(rd:List Nat)(args:List (Pv G.T))(g:Nat)
def Vl(e:Fe G)(t:Tin (e.I.T G))(p:Ex×St G):Option (L G):=match KN e.I e.rs p with
 |some sb=>At1 ns rd nm t.olds t.fz (H p.2.hp) sb.1 sb.2
 |none=>C
def Zu(e:Fe G)(t:Tin (e.I.T G)):M (L G):=λ_ k=>(e.F t.x).bind λy=>Hb e.E y λp=>(Vl ns nm rd e t p).bind k
def Uf:List (Nat×Fe G)→M (L G)
 |[]=>aA
 |p::r=>λR k=>bif aB p.1 g then match Rt p.2.I h1 ns.length args with
   |some t=>Zu ns nm rd p.2 t R k
   |none=>Uf r R k
  else Uf r R k
end
def cfP(l:List (Nat×Fe G)):CK G:=λg args h nm=>N (X (Dn (Pv.ren (Acd (Xl args)) (inN (Xl args))) args)) λargs'=>N (M.need (HY (Xl args))) λ_=>Uf (Xl args) (FG (Xl args) h) nm (Xl args++UO (Xl args) h args) args' g l
def GO(P:Program)(G:Sig)(g:Nat)(e:Fe G):Prop:=Arr P g∧
 ∀(x:e.I.T G) (y:Gx G e.E) (p:Ex×St G) (s:Sv G.T) (bl:List (List (Cv G.T))),e.F x=A y→Hb e.E y A=A p→KN e.I e.rs p=A (s,bl)→
 ∀(ν:Nat→Option Value) (S mo:Nat→Prop) (w:World) (vals:List Value),HRel G ν S (λb=>mo b∨w.heap.size≤b) (H (e.I.mk' x).hp) w→(∀n,ν n≠C→n∈(e.I.mk' x).us)→
  vals.length=e.I.tm.length→(∀k v,H (e.I.mk' x).tm k=A v→Rs G ν S w.heap v (vals.getD k undef))→
  Calls P g vals.toArray w λr w'=>∃v ν' S',r=.returned v∧Rs G ν' S' w'.heap s v∧HRel G ν' S' (λb=>mo b∨w.heap.size≤b) (H p.2.hp) w'∧
   (∀b,S b→S' b)∧(∀b,S' b→S b∨mo b∨w.heap.size≤b)∧(∀n y,D≤n→ν n=A y→ν' n=A y)∧
   w.heap.size≤w'.heap.size∧(∀b,b<w.heap.size→¬mo b→w'.heap[b]?=w.heap[b]?)∧(w'.os=w.os∧w'.tape=w.tape∧w'.output=w.output)
section
variable{P:Program}(ok:SigOK P G)(eqok:EqOK P G){cf:CK G}(cfok:CfOK P G cf){drawn:Array Oper→St G→M (St G)}
 {lp:Nat→St G→M (Ex×St G)}{kl:Nat→List Nat}{jn:Nat→Option (List (Ex×Spec))}
include ok in
theorem Amh(hfn : P.funcs[g]? = A fn)(hname : (fn.name == "runtime.NumGoroutine") = false)(hbody : fn.body.isNone = false){e : Fe G}(hrs : fn.results.toList = e.rs)(hlen : e.I.tm.length ≤ fn.ntmps)
  {run:St G→M (Ex×St G)}(hlaw:∀st,Law (run st)) (hF:∀x y,e.F x=A y→run (e.I.mk' x) _ (λp=>Ij e.E p.1 p.2)=A y)
  (hs:∀(cx:Cx) (st st':St G) (ex:Ex) (args:Array Value) (w:World) (R:Ending→World→Prop),cx.nt=fn.ntmps→cx.df=[]→(∀n y,cx.nu0 n=A y→D≤n)→(∀i,ex≠ .exit i)→run st _ A=A (ex,st')→
   Rel G cx st { tmps:=args++Array.replicate (fn.ntmps-args.size) undef,defers:=[] } w→(∀df (a':Act) w',Rel G { cx with df:=df } st' a' w'→∃v,(results fn a'.tmps).run P w'=.ok v w'∧R (.returned v) w')→Calls P g args w R):GO P G g e:=by
 refine⟨⟨fn,hfn,hname,hbody⟩,λx y p s bl hy hp ho ν S mo w vals hheap hused hvl hslot=>?_⟩;obtain⟨⟨ex,st0⟩,h0,h2⟩:=(hlaw (e.I.mk' x)).spec (hF x y hy)
 let cx:Cx:=⟨w,mo,S,λn=>if D≤n then ν n else C,fn.ntmps,[]⟩
 have hnu:∀n y,cx.nu0 n=A y→D≤n:=λn y h=>by
  simp only[cx]at h;split at h
  ·assumption
  ·cases h
 have hrel0:Rel G cx (e.I.mk' x) { tmps:=vals.toArray++Array.replicate (fn.ntmps-vals.toArray.size) undef,defers:=[] } w:=by
  refine⟨ν,S,λk t hk=>?_,hheap,hused,rfl,(by show _=fn.ntmps;simp;omega),A_ _,λ_ _ _=>rfl,⟨rfl,rfl,rfl⟩,λb hb=>.inl hb,λ_ h=>h,λn z hn=>?_⟩
  ·have:=hslot k t hk
   have e1:(vals.toArray++Array.replicate (fn.ntmps-vals.toArray.size) undef).getD k undef=vals.getD k undef:=by
    by_cases hk:k<vals.length
    ·rw[z_,Array.getElem?_append_left (by simpa using hk)];simp[hk]
    ·rw[z_,Array.getElem?_append_right (by simp;omega)];simp only[k_];rw[List.getElem?_eq_none ω];simp only[Array.getElem?_replicate];split<;>rfl
   rw[e1];exact this
  ·simp only[cx]at hn;split at hn
   ·exact hn
   ·cases hn
 obtain⟨st',h3,hrel⟩:∃st',p=(ex,st')∧∀df (a':Act) w',Rel G { cx with df:=df } st0 a' w'→Rel G { cx with df:=df } st' a' w':=by have h3:p=(ex,p.2):=Prod.ext (Ach e.E y ex st0 h2 p hp) rfl;exact⟨p.2,h3,λdf a' w' r=>by obtain⟨st2,h4,h5⟩:=Va (cx:={ cx with df:=df }) hnu e.E h2 r A p hp;simp at h4;rw[h3]at h4;cases h4;exact h5⟩
 subst h3;have hres:Sa st' fn.results.toList=A s∧∀i,ex≠ .exit i:=by
  rw[hrs];unfold KN at ho;cases ex with
  |exit i=>simp at ho
  |normal=>
   simp only at ho;split at ho
   ·rename_i s1 b1 q1 q2;simp at ho;exact⟨q1.trans (d3_ A ho.1),σ⟩
   ·simp at ho
  |ret=>
   simp only at ho;split at ho
   ·rename_i s1 b1 q1 q2;simp at ho;exact⟨q1.trans (d3_ A ho.1),σ⟩
   ·simp at ho
 refine hs cx (e.I.mk' x) st0 ex vals.toArray w _ rfl rfl hnu hres.2 h0 hrel0 λdf a' w' r''=>?_;obtain⟨ν',S',r'⟩:=hrel df a' w' r'';obtain⟨v,hrun,hv⟩:=Apx ok r' hres.1;exact⟨v,hrun,v,ν',S',rfl,hv,r'.heap,r'.keep,r'.sub,λn z hn hz=>r'.names n z (by simp only[cx];rw[if_pos hn];exact hz),r'.size,r'.frame,r'.env⟩
include ok eqok cfok in
theorem Apf{body : Code}(hfn : P.funcs[g]? = A fn)(hname : (fn.name == "runtime.NumGoroutine") = false)(hbody : fn.body = A body){e : Fe G}(hrs : fn.results.toList = e.rs)(hlen : e.I.tm.length ≤ fn.ntmps)
  (dok:DrawOK P G fn.ntmps drawn) (hl:∀(k:Nat) c',(BJ body)[k]?=A c'→LoopOK P G fn.ntmps (lp k) c')
  (hF:∀x y,e.F x=A y→Cz cf fn.ntmps drawn lp kl jn 0 body (e.I.mk' x) _ (λp=>Ij e.E p.1 p.2)=A y):GO P G g e:=by
 have hl0:∀(k:Nat) c',(BJ body)[k]?=A c'→LoopOK P G fn.ntmps (lp (0+k)) c':=λk c' hk=>by rw[n_];exact hl k c' hk
 refine Amh ok hfn hname (by rw[hbody];rfl) hrs hlen (λst=>EX cfok dok (kl:=kl) (jn:=jn) body 0 st hl0) hF λcx st st' ex args w R hnt hdf hnu hex h0 hrel hR=>?_;refine calls_of_wp hfn hbody (GK ok eqok cfok dok hnt hnu body 0 _ st' ex _ w _ hl0 h0 hrel λe' a' w' he r'=>?_);have hpost:bodyPost P fn R .ret a' w':=⟨by obtain⟨_,_,r⟩:=r';exact r.defers.trans hdf,hR cx.df a' w' r'⟩
 cases ex with
 |normal=>rw[KI he];exact hpost
 |ret=>rw[SU he];exact hpost
 |exit i=>exact absurd rfl (hex i)
end
end Go.Ab
namespace Go.Ab
variable{G:Sig}
variable{vs:List Value}{v:Value}
section
variable{ν ν1:Nat→Option Value}{S:Nat→Prop}{h:Array Obj}{f g:Nat→Option Nat}
def Ace(hg:∀n m x,g n=A m→ν n=A x→ν1 m=A x){p:Nat×Nat}{m:Nat}(hm:g p.1=A m)(r:RPtr ν p v):RPtr ν1 (m,p.2) v:=by obtain⟨b,h1,h2⟩:=r;exact⟨b,hg _ _ _ hm h1,h2⟩
def Ai6(hg:∀n m x,g n=A m→ν n=A x→ν1 m=A x){p p':List (Nat×Nat)}(hp:Bd7 g p=A p')(r:F2 (RPtr ν) p vs):F2 (RPtr ν1) p' vs:=by
 obtain⟨h1,h2⟩:=CE _ _ hp;refine⟨by rw[h1];exact r.1,λi x y hx hy=>?_⟩;have hi:i<p.length:=by have:=(g_.1 hx).1;omega
 obtain⟨z,hz,hfz⟩:=h2 i _ (i_ hi);rw[hx]at hz;cases hz;split at hfz
 ·rename_i m hm;cases hfz;exact Ace hg hm (r.2 i _ y (i_ hi) hy)
 ·cases hfz
variable(hf:∀n m x,f n=A m→ν n=A x→ν1 m=A x)(hg:∀n m x,g n=A m→ν n=A x→ν1 m=A x)
include hf hg
theorem Ban{c c':Cv G.T}(hc:c.ren f g=A c')(r:Rc G ν S h c v):Rc G ν1 S h c' v:=by
 cases c with
 |own n=>
  simp only[Cv.ren]at hc;split at hc
  ·rename_i m hm;cases hc;obtain⟨a,len,cap,h1,h2⟩:=r;exact⟨a,len,cap,hf n m _ hm h1,h2⟩
  ·cases hc
 |ptr n off=>
  simp only[Cv.ren]at hc;split at hc
  ·rename_i m hm;cases hc;exact Ace hg (p:=(n,off)) hm r
  ·cases hc
 |clo k p q=>
  simp only[Cv.ren]at hc;split at hc
  ·rename_i p' q' hp hq;cases hc;obtain⟨vp,vq,h1,h2,h3⟩:=r;exact⟨vp,vq,h1,Ai6 hg hp h2,Ai6 hg hq h3⟩
  ·cases hc
 |np n t=>
  simp only[Cv.ren]at hc;split at hc
  ·rename_i m hm;cases hc;exact r.imp (λh=>h) (Ace hg (p:=(n,0)) hm)
  ·cases hc
 |sc v=>cases hc;exact r
 |ro t l=>cases hc;exact r
 |rp t x o=>cases hc;exact r
 |pd _ _ _ _ _=>cases hc
 |pr _ _ _ _=>cases hc
 |sa _ _ _=>cases hc
omit hf hg in
theorem Arh{f g:Nat→Option Nat}{cs cs':List (Cv G.T)}(hc:Dn (Cv.ren f g) cs=A cs'){m t:Nat}(hm:Cv.np m t∈cs'):∃m0,Cv.np m0 t∈cs∧g m0=A m:=by
 obtain⟨m1,m2⟩:=CE _ _ hc;obtain⟨i,hi⟩:=e9_.1 hm;have hi':i<cs.length:=by have:=(g_.1 hi).1;omega
 obtain⟨z,hz,hfz⟩:=m2 i _ (i_ hi');rw[hi]at hz;cases hz;have hmem:cs[i]∈cs:=b1_ hi';generalize cs[i]=c at hfz hmem;cases c with
 |np n tt=>
  simp only[Cv.ren]at hfz;split at hfz
  ·rename_i q hq;cases hfz;exact⟨n,hmem,hq⟩
  ·cases hfz
 |own n=>simp only[Cv.ren]at hfz;split at hfz<;>cases hfz
 |ptr n off=>simp only[Cv.ren]at hfz;split at hfz<;>cases hfz
 |clo k p q=>simp only[Cv.ren]at hfz;split at hfz<;>cases hfz
 |sc v=>cases hfz
 |ro t l=>cases hfz
 |rp t x o=>cases hfz
 |pd _ _ _ _ _=>cases hfz
 |pr _ _ _ _=>cases hfz
 |sa _ _ _=>cases hfz
theorem Ahb{cs cs':List (Cv G.T)}(hc:Dn (Cv.ren f g) cs=A cs')(r:F2 (Rc G ν S h) cs vs):F2 (Rc G ν1 S h) cs' vs:=by
 obtain⟨m1,m2⟩:=CE _ _ hc;refine⟨by rw[m1];exact r.1,λi x y hx hy=>?_⟩;have hi:i<cs.length:=by have:=(g_.1 hx).1;omega
 obtain⟨z,hz,hfz⟩:=m2 i _ (i_ hi);rw[hx]at hz;cases hz;exact Ban hf hg hfz (r.2 i _ y (i_ hi) hy)
theorem Bar{x x':Pv G.T}(hc:x.ren f g=A x')(r:Rp G ν S h x v):Rp G ν1 S h x' v:=by
 cases r with
 |one c v hrc=>
  simp only[Pv.ren]at hc;split at hc
  ·rename_i c' hc';cases hc;exact .one _ _ (Ban hf hg hc' hrc)
  ·cases hc
 |agg cs vs hrc=>
  simp only[Pv.ren]at hc;split at hc
  ·rename_i cs' hcs;cases hc;exact .agg _ _ (Ahb hf hg hcs hrc)
  ·cases hc
theorem Ark{xs xs':List (Pv G.T)}(hc:Dn (Pv.ren f g) xs=A xs')(r:F2 (Rp G ν S h) xs vs):F2 (Rp G ν1 S h) xs' vs:=by
 obtain⟨m1,m2⟩:=CE _ _ hc;refine⟨by rw[m1];exact r.1,λi x y hx hy=>?_⟩;have hi:i<xs.length:=by have:=(g_.1 hx).1;omega
 obtain⟨z,hz,hfz⟩:=m2 i _ (i_ hi);rw[hx]at hz;cases hz;exact Bar hf hg hfz (r.2 i _ y (i_ hi) hy)
theorem Bq2{x x':Sv G.T}(hc:x.ren f g=A x')(r:Rs G ν S h x v):Rs G ν1 S h x' v:=by
 cases r with
 |p c v hrc=>
  simp only[Sv.ren]at hc;split at hc
  ·rename_i c' hc';cases hc;exact .p _ _ (Bar hf hg hc' hrc)
  ·cases hc
 |tup cs vs hrc=>
  simp only[Sv.ren]at hc;split at hc
  ·rename_i cs' hcs;cases hc;exact .tup _ _ (Ark hf hg hcs hrc)
  ·cases hc
end
structure TakeC(I:Spec)(nm:List (Nat×Option Nat))(fz:List Nat):Prop where
 tm:I.tm.all (λp=>p.2.fix (AF I.hp))=true
 hp:I.hp.all (λp=>p.2.all (CSh.fix (AF I.hp)))=true
 keys:(DU nm++AF I.hp).Nodup
 low:∀n∈DU nm,n<lo
 olds:(Es nm++AF I.hp).Nodup
 disj:∀n∈Es nm++AF I.hp,n∉fz
def Bax{I:Spec}{h1:Nat→Option (J G.T)}{tm:List (Nat×Sv G.T)}{a:Tk (TmT G I.tm)}{b:Tk (HpT G I.hp)}(hta:Kh h1 tm I.tm=A a)(htb:Kg h1 I.hp=A b)
  (hc:TakeC I (a.nm++b.nm) (a.fz++b.fz)) {ν:Nat→Option Value}{S B:Nat→Prop}{w:World}(hr:HRel G ν S B h1 w) {f:Nat→Value}(hs:∀k s,H tm k=A s→Rs G ν S w.heap s (f k)) :
  ∃ν' S',(∀k v,H (I.mk' (a.x,b.x)).tm k=A v→Rs G ν' S' w.heap v (f k))∧HRel G ν' S' B (H (I.mk' (a.x,b.x)).hp) w∧(∀n,ν' n≠C→n∈(I.mk' (a.x,b.x)).us)∧
   (∀n∈AF I.hp,ν' n=ν n∧∃cs,h1 n=A (.cells cs))∧(∀c,S' c↔S c∨∃n∈a.fz++b.fz,h1 n≠C∧∃y,ν n=A y∧AV y=A c)∧
   (∀n y c,H (I.mk' (a.x,b.x)).hp n≠C→ν' n=A y→AV y=A c→∃m,ν m=A y∧h1 m≠C∧(m∈Es (a.nm++b.nm)∨m∈AF I.hp))∧
   (∀n∈Es (a.nm++b.nm),h1 n≠C):=by
 generalize hρ:a.nm++b.nm=ρ at hc⊢;generalize hfz:a.fz++b.fz=fz at hc⊢;have d3:=List.nodup_append.1 hc.keys;have d5:=List.nodup_append.1 hc.olds
 let ν':Nat→Option Value:=λn=>match H ρ n with
  |some (A m)=>ν m
  |some C=>A (.slice C 0 0)
  |none=>if n∈AF I.hp then ν n else C
 let S':Nat→Prop:=λc=>S c∨∃n∈fz,h1 n≠C∧∃y,ν n=A y∧AV y=A c
 have hown:∀p∈ρ,ν' p.1=match p.2 with | some n=>ν n | none=>A (.slice C 0 0):=by intro p hp;simp only[ν',Aq9 d3.1 hp];cases p.2<;>rfl
 have hno:∀n,n∉DU ρ→H ρ n=C:=by
  intro n hn;cases hg:H ρ n with
  |none=>rfl
  |some o=>exact absurd (RL (Ly hg)) hn
 have hkeep:∀n∈AF I.hp,ν' n=ν n:=by
  intro n hn
  have:H ρ n=C:=hno n λhm=>d3.2.2 n hm n hn rfl
  simp only[ν',this];rw[if_pos hn]
 have rn:Ren ν ν' S S' h1 (AF I.hp) ρ fz:=⟨hown,hkeep,λn hn hh y c hy hb=>.inr ⟨n,hn,hh,y,hy,hb⟩,λc hb=>.inl hb⟩
 rw[← hρ,← hfz]at rn;obtain⟨g1,g2⟩:=Ud hr hs I.tm a hta hc.tm rn.left;obtain⟨g3,g4,g5,g6⟩:=Uc hr I.hp b htb (λ_ h=>h) hc.hp rn.right;have hkeys:BI (NX I.tm a.x++(Sr I.hp b.x++HW I.hp b.x))=DU ρ++AF I.hp:=by rw[GS,GS,g2.2.1,g6.2.1,g4,← hρ,TJ,M_]
 have holds:∀m n,(n,A m)∈ρ→h1 m≠C:=by
  intro m n ho;rw[← hρ]at ho;rcases p_.1 ho with ho | ho
  ·exact g2.2.2 _ ho m rfl
  ·exact g6.2.2 _ ho m rfl
 have hsrc:∀n y c,H (NX I.tm a.x++(Sr I.hp b.x++HW I.hp b.x)) n≠C→ν' n=A y→AV y=A c→
   ∃m,ν m=A y∧h1 m≠C∧((n,A m)∈ρ∨(n∈AF I.hp∧m=n)):=by
  intro n y c hn hy hb;obtain⟨k,hk⟩:=Option.ne_none_iff_exists'.1 hn;have hm:=UL (Ly hk);rw[hkeys]at hm;rcases p_.1 hm with hm | hm
  ·obtain⟨o,ho⟩:=Aij hm;have h1':=hown _ ho;simp only at h1';cases o with
   |none=>rw[hy]at h1';simp at h1';subst h1';simp[AV]at hb
   |some m=>exact⟨m,by rw[← hy,h1'],holds m n ho,.inl ho⟩
  ·refine⟨n,by rw[← hkeep n hm];exact hy,?_,.inr ⟨hm,rfl⟩⟩;obtain⟨cs,hcs⟩:=g5 n hm;rw[hcs];simp
 refine⟨ν',S',g1,⟨λn k hk=>?_,λn m y z c h1 h2 h3 h4 h5 h6=>?_,λn y c h1 h2 h3=>?_,λc hb=>?_,hr.gl.mono (λ_ h=>.inl h) λ_ _=>rfl⟩,λn hn=>?_,λn hn=>⟨hkeep n hn,g5 n hn⟩,λ_=>Iff.rfl,λn y c hn hy hb=>?_,λn hn=>?_⟩
 ·have hm:=Ly hk;rcases p_.1 hm with hm | hm
  ·exact g2.1 _ hm
  ·rcases p_.1 hm with hm | hm
   ·exact g6.1 _ hm
   ·exact g3 _ hm
 ·obtain⟨n1,q1,q2,q3⟩:=hsrc n y c h1 h3 h5;obtain⟨n2,p1,p2,p3⟩:=hsrc m z c h2 h4 h6;have e:=hr.apart n1 n2 y z c q2 p2 q1 p1 h5 h6;subst e;rcases q3 with q3 | ⟨q3,q4⟩<;>rcases p3 with p3 | ⟨p3,p4⟩
  ·exact Anj d5.1 q3 p3
  ·exact absurd rfl (d5.2.2 n1 (Jf q3) n1 (by rw[p4];exact p3))
  ·exact absurd rfl (d5.2.2 n1 (Jf p3) n1 (by rw[q4];exact q3))
  ·exact q4.symm.trans p4
 ·obtain⟨n1,q1,q2,q3⟩:=hsrc n y c h1 h2 h3;obtain⟨o1,o2⟩:=hr.own n1 y c q2 q1 h3;refine⟨?_,o2⟩;rintro(hS | ⟨m,hm,hmh,z,hz,hbz⟩)
  ·exact o1 hS
  ·have e:=hr.apart n1 m y z c q2 hmh q1 hz h3 hbz;subst e;refine hc.disj n1 (p_.2 ?_) hm;rcases q3 with q3 | ⟨q3,q4⟩
   ·exact .inl (Jf q3)
   ·exact .inr (by rw[q4];exact q3)
 ·rcases hb with hb | ⟨m,hm,hmh,z,hz,hbz⟩
  ·exact hr.stay c hb
  ·exact hr.lt hmh hz hbz
 ·show n∈BI _++I.us;rw[hkeys];cases hg:H ρ n with
  |some o=>simp[RL (Ly hg)]
  |none=>
   simp only[ν',hg]at hn;by_cases hc:n∈AF I.hp
   ·simp[hc]
   ·rw[if_neg hc]at hn;simp at hn
 ·obtain⟨m,q1,q2,q3⟩:=hsrc n y c hn hy hb;refine⟨m,q1,q2,?_⟩;rcases q3 with q3 | ⟨q3,q4⟩
  ·exact .inl (Jf q3)
  ·exact .inr (by rw[q4];exact q3)
 ·have:∃m,(m,A n)∈ρ:=by
   clear hown hno hkeep rn hkeys hsrc d3 d5 g1 g2 g3 g4 g5 g6 hc holds hρ;induction ρ with
   |nil=>simp[Es]at hn
   |cons p t ih=>
    obtain⟨k,o⟩:=p;cases o with
    |none=>simp only[Es]at hn;obtain⟨m,hm⟩:=ih hn;exact⟨m,by simp[hm]⟩
    |some j=>
     simp only[Es,q_]at hn;rcases hn with rfl | hn
     ·exact⟨k,σ⟩
     ·obtain⟨m,hm⟩:=ih hn;exact⟨m,by simp[hm]⟩
  obtain⟨m,hm⟩:=this;exact holds n m hm
end Go.Ab
namespace Go.Ab
variable{G:Sig}
variable{ν:Nat→Option Value}{ns:List Nat}{h:Array Obj}{v x:Value}{out:L G}{n nm:Nat}
def Aag(h:Nat→Option (J G.T)):∀(d e:List (Nat×Option (J G.T))),BD h (d++e)=BD (BD h d) e
 |[],e=>rfl
 |p::d,e=>by obtain⟨n,k⟩:=p;simp only[List.cons_append,BD];exact Aag _ d e
def Ahi:∀(r:List (Nat×J G.T)) (h:Nat→Option (J G.T)) (n:Nat),(BI r).Nodup→BD h (ZK r) n=match H r n with | some k=>A k | none=>h n
 |[],h,n,_=>rfl
 |(m,k)::t,h,n,hn=>by
  simp only[BI,List.nodup_cons]at hn;simp only[ZK,BD,Ahi t _ n hn.2,H,BM];by_cases e:m=n
  ·subst e;rw[if_pos rfl];cases hg:H t m with
   |none=>simp
   |some k'=>exact absurd (UL (Ly hg)) hn.1
  ·rw[if_neg e];cases H t n with
   |none=>simp[e]
   |some k'=>simp[e]
def Ad2{α:Type}:∀(a b:List (Nat×α)) (n:Nat),H (a++b) n=match H a n with | some k=>A k | none=>H b n
 |[],_,_=>rfl
 |(m,k)::t,b,n=>by simp only[List.cons_append,H,BM,Ad2 t b n];by_cases e:m=n<;>simp[e]
def Amm:∀(ns:List Nat) (cs:List (List (Cv G.T))) (n:Nat) (k:J G.T),H (OD ns cs) n=A k→∃(i:Nat) (c:List (Cv G.T)),ns[i]?=A n∧cs[i]?=A c∧k=.cells c
 |[],_,n,k,h=>by simp[OD,H]at h
 |_::_,[],n,k,h=>by simp[OD,H]at h
 |m::ns,c::cs,n,k,h=>by
  simp only[OD,H,BM]at h;by_cases e:m=n
  ·rw[if_pos e]at h;cases h;exact⟨0,c,by simp[e],rfl,rfl⟩
  ·rw[if_neg e]at h;obtain⟨i,c',h1,h2,h3⟩:=Amm ns cs n k h;exact⟨i+1,c',by simpa using h1,by simpa using h2,h3⟩
def YA:∀(ns:List Nat) (cs:List (List (Cv G.T))),cs.length=ns.length→BI (OD ns cs)=ns
 |[],[],_=>rfl
 |[],_::_,h=>by simp at h
 |_::_,[],h=>by simp at h
 |m::ns,c::cs,h=>by simp only[OD,BI,YA ns cs (by simpa using h)]
def okK(n:Nat):J G.T→Prop
 | .row _ _=>True
 | .cells cs=>n<D∧∀c∈cs,plC c=U
def Ae0{hp:Nat→Option (J G.T)}:∀(l:List Nat) (i:Nat) (r:List (Nat×J G.T)),UU hp l i=A r→(∀n,n∈BI r↔i≤n∧n<i+l.length)∧(BI r).Nodup∧
  ∀j m,l[j]?=A m→∃k,hp m=A k∧H r (i+j)=A k∧okK m k
 |[],i,r,h=>by simp[UU]at h;subst h;exact⟨λn=>by simp[BI];try omega,by simp[BI],λj m hm=>by simp at hm⟩
 |m::t,i,r,h=>by
  have key:∃k r',r=(i,k)::r'∧hp m=A k∧UU hp t (i+1)=A r'∧okK m k:=by
   simp only[UU]at h;split at h
   ·rename_i u l r' hn hr;cases h;exact⟨_,_,rfl,hn,hr,trivial⟩
   ·rename_i cs r' hn hr;cases hb:(Nat.blt m D&&cs.all plC)with
    |false=>rw[hb]at h;cases h
    |true=>rw[hb]at h;cases h;rw[e_]at hb;exact⟨_,_,rfl,hn,hr,(by have:=hb.1;simpa using this),K_.1 hb.2⟩
   ·cases h
  obtain⟨k,r',rfl,hn,hr,hk⟩:=key;obtain⟨h1,h2,h3⟩:=Ae0 t (i+1) r' hr;refine⟨λn=>?_,?_,λj m' hm=>?_⟩
  ·simp only[BI,q_,h1,x_];omega
  ·simp only[BI,List.nodup_cons];exact⟨λhm=>by have:=(h1 i).1 hm;omega,h2⟩
  ·cases j with
   |zero=>simp at hm;subst hm;exact⟨k,hn,by simp[H],hk⟩
   |succ j=>obtain⟨k',q1,q2,q3⟩:=h3 j m' (by simpa using hm);refine⟨k',q1,?_,q3⟩;simp only[H,BM];rw[if_neg ω,show i+(j+1)=i+1+j by omega];exact q2
def Bio{ν':Nat→Option Value}{S:Nat→Prop}{m:Nat}{k:J G.T}(hk:okK n k)(he:ν' m=ν n)(r:Rb G ν S h n k):Rb G ν' S h m k:=by
 cases k with
 |row t l=>exact Bal he r
 |cells cs=>
  obtain⟨b,c,te,q1,q2,q3,q4⟩:=r;refine⟨b,c,te,he.trans q1,q2,⟨q3.1,λi x y hx hy=>?_⟩,λp t hm=>?_⟩
  ·have hc:=hk.2 x (v_ hx)
   have:=q3.2 i x y hx hy
   cases x<;>first | exact this | (simp[plC]at hc)
  ·have:=hk.2 _ hm
   simp[plC]at this
def Ads:∀(r:List (Nat×J G.T)) (n:Nat) (k:J G.T),WP G r=U→H r n=A k→∃t l,k=.row t l∧G.flat t=U
 |[],n,k,_,h=>by simp[H]at h
 |(m,.cells cs)::t,n,k,h,_=>by simp[WP]at h
 |(m,.row u l)::t,n,k,h,hg=>by
  simp only[WP,e_]at h;simp only[H,BM]at hg;by_cases e:m=n
  ·rw[if_pos e]at hg;cases hg;exact⟨u,l,rfl,h.1⟩
  ·rw[if_neg e]at hg;exact Ads t n k h.2 hg
def Aha{S S':Nat→Prop}{c:Cv G.T}(hf:SH c=U)(r:Rc G ν S h c v):Rc G ν S' h c v:=by
 cases c with
 |sc v0=>
  have r':Rd G S h (.sc v0) v:=r;cases r' with
  |sc _ hsc=>exact Rd.sc _ hsc
 |ro t l=>simp[SH]at hf
 |rp t x o=>simp[SH]at hf
 |ptr _ _=>exact r
 |pd _ _ _ _ _=>exact r
 |pr _ _ _ _=>exact r
 |own _=>exact r
 |clo _ _ _=>exact r
 |np _ _=>exact r
 |sa _ _ _=>exact r
def Arj{S S':Nat→Prop}{x:Pv G.T}(hf:∀c∈x.cells,SH c=U)(r:Rp G ν S h x v):Rp G ν S' h x v:=by
 cases r with
 |one c v hc=>exact .one _ _ (Aha (hf c (by simp[Pv.cells])) hc)
 |agg cs vs hc=>exact .agg _ _ ⟨hc.1,λi a b ha hb=>Aha (hf a (v_ ha)) (hc.2 i a b ha hb)⟩
def Arl{S S':Nat→Prop}{x:Sv G.T}(hf:∀c∈x.cells,SH c=U)(r:Rs G ν S h x v):Rs G ν S' h x v:=by
 cases r with
 |p x v hc=>exact .p _ _ (Arj hf hc)
 |tup xs vs hc=>exact .tup _ _ ⟨hc.1,λi a b ha hb=>Arj (λc hm=>hf c (c9_.2 ⟨a,v_ ha,hm⟩)) (hc.2 i a b ha hb)⟩
def Na{a b:Nat}:aC a b=U↔a≤b:=by simp
def Vq:∀{n:Nat}{l:List Nat},VT n l=U→∀i k,l[i]?=A k→k=n+i
 |n,[],_,i,k,h=>by simp at h
 |n,m::t,h,i,k,hk=>by
  simp only[VT,e_,AT]at h;cases i with
  |zero=>simp at hk;omega
  |succ i=>have:=Vq h.2 i k (by simpa using hk);omega
def Avj{I:Spec}{h1:Nat→Option (J G.T)}{k:Nat}{args:List (Pv G.T)}{t:Tin (I.T G)}(h:Rt I h1 k args=A t) :
  args.length=I.tm.length∧(AF I.hp).length=k∧(∀i n,(AF I.hp)[i]?=A n→n=D+i)∧∃a b,Kh h1 (Jp 0 (args.map .p)) I.tm=A a∧Kg h1 I.hp=A b∧TakeC I (a.nm++b.nm) (a.fz++b.fz)∧t=⟨(a.x,b.x),Es (a.nm++b.nm),a.fz++b.fz⟩:=by
 unfold Rt at h;have hl:∀l:List (Nat×List CSh),(AF l).length=l.length:=by intro l;induction l with | nil=>rfl | cons p t ih=>simp[AF,ih]
 cases hb:aB args.length I.tm.length&&aB k I.hp.length&&VT D (AF I.hp)with
 |false=>rw[hb]at h;cases h
 |true=>
  rw[hb]at h;simp only[e_,AT]at hb;obtain⟨hb,c7⟩:=hb;simp only[d_]at h;split at h
  ·rename_i a b ha hb';generalize hc:(I.tm.all (λp=>p.2.fix (AF I.hp))&&I.hp.all (λp=>p.2.all (CSh.fix (AF I.hp)))&&
    (HY (DU (a.nm++b.nm)++AF I.hp)&&Wk (DU (a.nm++b.nm))&&HY (Es (a.nm++b.nm)++AF I.hp)&&WB (Es (a.nm++b.nm)++AF I.hp) (a.fz++b.fz)))=c at h
   cases c with
   |false=>cases h
   |true=>cases h;simp only[e_]at hc;obtain⟨⟨c1,c2⟩,⟨⟨c3,c4⟩,c5⟩,c6⟩:=hc;exact⟨hb.1,by rw[hl];exact hb.2.symm,λi n=>Vq c7 i n,a,b,ha,hb',⟨c1,c2,Jn c3,Wl c4,Jn c5,WC c6⟩,rfl⟩
  ·cases h
def Azo(ns:List Nat)(nm:Nat)(rd:List Nat)(e:Fe G)(t:Tin (e.I.T G)):Law (Zu ns nm rd e t):=by
 intro R k;unfold Zu;cases e.F t.x with
 |none=>rfl
 |some y=>
  show Hb e.E y (λp=>(Vl ns nm rd e t p).bind k)=(Hb e.E y (λp=>(Vl ns nm rd e t p).bind A)).bind k;rw[OI,OI e.E y (λp=>(Vl ns nm rd e t p).bind A)];cases Hb e.E y A with
  |none=>rfl
  |some p=>show(Vl ns nm rd e t p).bind k=((Vl ns nm rd e t p).bind A).bind k;cases Vl ns nm rd e t p<;>rfl
def Adb{rd:List Nat}{e:Fe G}{t:Tin (e.I.T G)}(h:Zu ns nm rd e t _ A=A out):
  ∃y p s bl,e.F t.x=A y∧Hb e.E y A=A p∧KN e.I e.rs p=A (s,bl)∧At1 ns rd nm t.olds t.fz (H p.2.hp) s bl=A out:=by
 unfold Zu at h;cases hy:e.F t.x with
 |none=>rw[hy]at h;cases h
 |some y=>
  rw[hy]at h;have h:Hb e.E y (λp=>(Vl ns nm rd e t p).bind A)=A out:=h;rw[OI]at h;cases hp:Hb e.E y A with
  |none=>rw[hp]at h;cases h
  |some p=>
   rw[hp]at h;have h:(Vl ns nm rd e t p).bind A=A out:=h;unfold Vl at h;cases ho:KN e.I e.rs p with
   |none=>rw[ho]at h;cases h
   |some sb=>rw[ho]at h;simp only[Option.bind_fun_some]at h;exact⟨y,p,sb.1,sb.2,rfl,hp,ho,h⟩
def Aby(ns:List Nat)(h1:Nat→Option (J G.T))(nm:Nat)(rd:List Nat)(args:List (Pv G.T))(g:Nat):∀l,Law (Uf ns h1 nm rd args g l)
 |[]=>Ao
 |p::r=>by
  intro R k;have ih:=Aby ns h1 nm rd args g r R k;simp only[Uf];cases aB p.1 g with
  |false=>exact ih
  |true=>
   simp only[d_];cases Rt p.2.I h1 ns.length args with
   |none=>exact ih
   |some t=>exact Azo ns nm rd p.2 t R k
def Vb{ns:List Nat}{h1:Nat→Option (J G.T)}{nm:Nat}{rd:List Nat}{args:List (Pv G.T)}{g:Nat}:∀{l:List (Nat×Fe G)}{out:L G},Uf ns h1 nm rd args g l _ A=A out→
  ∃p∈l,p.1=g∧∃t,Rt p.2.I h1 ns.length args=A t∧Zu ns nm rd p.2 t _ A=A out
 |[],out,h=>by simp[Uf,aA]at h
 |p::r,out,h=>by
  simp only[Uf]at h;cases hb:aB p.1 g with
  |false=>rw[hb]at h;obtain⟨q,hq,h2⟩:=Vb (l:=r) h;exact⟨q,by simp[hq],h2⟩
  |true=>
   rw[hb]at h;simp only[d_]at h;split at h
   ·rename_i t ht;exact⟨p,σ,AT.1 hb,t,ht,h⟩
   ·obtain⟨q,hq,h2⟩:=Vb (l:=r) h;exact⟨q,by simp[hq],h2⟩
def Ah3{rd:List Nat}{olds fz:List Nat}{hp:Nat→Option (J G.T)}{s:Sv G.T}{bl:List (List (Cv G.T))}(h:At1 ns rd nm olds fz hp s bl=A out):
  ∃ms Ee s' bl',UU hp ms nm=A Ee∧s.ren (λn=>HK ms n nm) (Bd5 ns ms nm)=A s'∧Dn (Dn (Cv.ren (λn=>HK ms n nm) (YO ns))) bl=A bl'∧ms.Nodup∧
   ∃fz',out=⟨A s',Nf (olds++fz')++ZK (OD ns bl'++Ee),BI Ee,rd⟩∧(fz'=fz∨(fz'=[]∧(∀c∈s.cells++bl.flatten,SH c=U)∧WP G Ee=U)∨fz=[])∧(∀n∈fz',n∈fz):=by
 unfold At1 at h;simp only at h;split at h
 ·rename_i Ee s' bl' h1 h2 h3;generalize hms:YP (s.cells++bl.flatten) []++frs s.cells=ms at h1 h2 h3 h;have hnd:HY ms=U∧UU hp ms nm=A Ee:=by
   cases hb:HY ms with
   |false=>rw[hb]at h1;cases h1
   |true=>rw[hb]at h1;exact⟨rfl,h1⟩
  refine⟨_,Ee,s',bl',hnd.2,h2,h3,Jn hnd.1,_,(L_ h).symm,?_⟩;cases hfl:(Al7 fz||((s.cells++bl.flatten).all SH&&WP G Ee))with
  |false=>exact⟨.inl rfl,λn hn=>hn⟩
  |true=>
   refine⟨.inr ?_,λn hn=>by simp at hn⟩;simp only[S_,e_]at hfl;rcases hfl with hfl | ⟨h8,h9⟩
   ·exact .inr (by cases fz with | nil=>rfl | cons a t=>simp[Al7]at hfl)
   ·exact .inl ⟨rfl,K_.1 h8,h9⟩
 ·cases h
def Amo{m:Nat}(h:inN ns n=A m):D≤m∧ns[m-D]?=A n:=by
 unfold inN at h;split at h
 ·rename_i i hi;cases h;obtain⟨_,h2⟩:=TI ns n 0 i hi;exact⟨ω,by rw[b6_];simpa using h2⟩
 ·cases h
def Ai5{m:Nat}(h:Acd ns n=A m):m=n∧n<D∧n∉ns:=by
 unfold Acd at h;cases hb:(Nat.blt n D&&!has ns n)with
 |false=>rw[hb]at h;cases h
 |true=>rw[hb]at h;simp only[e_,g9_,a9_]at hb;cases h;exact⟨rfl,hb.1,λhm=>by rw[(Hf ns n).2 hm]at hb;simp at hb⟩
def Aix{m:Nat}(h:YO ns n=A m):D≤n∧ns[n-D]?=A m:=by
 unfold YO at h;cases hb:aC D n with
 |false=>rw[hb]at h;cases h
 |true=>rw[hb]at h;exact⟨Na.1 hb,h⟩
def QC(ns:List Nat)(ν:Nat→Option Value)(n:Nat):Option Value:=if D≤n then match ns[n-D]? with | some m=>ν m | none=>C else if n∈ns then C else ν n
def Ara{m:Nat}(h:inN ns n=A m)(hx:ν n=A x):QC ns ν m=A x:=by obtain⟨h1,h2⟩:=Amo h;simp only[QC,if_pos h1,h2,hx]
def Ani{m:Nat}(h:Acd ns n=A m)(hx:ν n=A x):QC ns ν m=A x:=by obtain⟨rfl,h2,h3⟩:=Ai5 h;simp only[QC];rw[if_neg ω,if_neg h3];exact hx
def SJ{h:Nat→Option (J G.T)}(hn:FG ns h n≠C):
  ∃m,QC ns ν n=ν m∧h m≠C∧((D≤n∧ns[n-D]?=A m)∨(n<D∧m=n∧n∉ns)):=by
 unfold FG at hn;cases hb:aC D n with
 |true=>
  have hl:=Na.1 hb;rw[hb]at hn;simp only[d_]at hn;split at hn
  ·rename_i m hm;refine⟨m,by simp only[QC,if_pos hl,hm],λe=>hn (by rw[e];rfl),.inl ⟨hl,hm⟩⟩
  ·exact absurd rfl hn
 |false=>
  have hl:n<D:=by
   rcases g2_ n D with h | h
   ·exact h
   ·rw[Na.2 h]at hb;cases hb
  rw[hb]at hn;simp only[c_]at hn;cases hc:has ns n with
  |true=>rw[hc]at hn;exact absurd rfl hn
  |false=>
   have hni:n∉ns:=λhm=>by rw[(Hf ns n).2 hm]at hc;cases hc
   rw[hc]at hn;simp only[c_]at hn;refine⟨n,by simp only[QC];rw[if_neg ω,if_neg hni],λe=>hn (by rw[e];rfl),.inr ⟨hl,rfl,hni⟩⟩
def At7(hns:ns.Nodup){h:Nat→Option (J G.T)}{S B:Nat→Prop}{w:World}(hr:HRel G ν S B h w):HRel G (QC ns ν) S B (FG ns h) w:=by
 refine⟨λn k hk=>?_,λn m x y b h1 h2 h3 h4 h5 h6=>?_,λn x b h1 h2 h3=>?_,hr.stay,hr.gl⟩
 ·unfold FG at hk;cases hb:aC D n with
  |true=>
   have hl:=Na.1 hb;rw[hb]at hk;simp only[d_]at hk;split at hk
   ·rename_i m hm;unfold Asj at hk;split at hk
    ·rename_i cs hcs;split at hk
     ·rename_i cs' hcs';cases hk;obtain⟨b,c,te,q1,q2,q3,q4⟩:=hr.blk m _ hcs;refine⟨b,c,te,by simp only[QC,if_pos hl,hm,q1],q2,Ahb (λn m x=>Ani) (λn m x=>Ara) hcs' q3,λm1 t1 hm1=>?_⟩;obtain⟨m0,r1,r2⟩:=Arh hcs' hm1;obtain⟨e1,e2⟩:=q4 m0 t1 r1;obtain⟨i1,i2⟩:=Amo r2;rw[e1,← hm]at i2;obtain⟨u1,u2⟩:=g_.1 hm;rw[hm]at i2;obtain⟨u3,u4⟩:=g_.1 i2;have hpw:=b3_.1 hns;refine⟨?_,e2⟩;rcases aD (m1-D) (n-D)with hlt | he | hlt
      ·exact absurd (u4.trans u2.symm) (hpw _ _ u3 u1 hlt)
      ·omega
      ·exact absurd (u2.trans u4.symm) (hpw _ _ u1 u3 hlt)
     ·cases hk
    ·cases hk
   ·cases hk
  |false=>
   rw[hb]at hk;simp only[c_]at hk;cases hc:has ns n with
   |true=>rw[hc]at hk;cases hk
   |false=>
    rw[hc]at hk;simp only[c_]at hk;have hl:n<D:=by
     rcases g2_ n D with h | h
     ·exact h
     ·rw[Na.2 h]at hb;cases hb
    have hni:n∉ns:=λhm=>by rw[(Hf ns n).2 hm]at hc;cases hc
    unfold Bhf at hk;split at hk
    ·rename_i t l hrow;cases hk;exact Bal (by simp only[QC];rw[if_neg ω,if_neg hni]) (hr.blk n _ hrow)
    ·cases hk
 ·obtain⟨n',e1,q1,q2⟩:=SJ (ν:=ν) h1;obtain⟨m',e2,p1,p2⟩:=SJ (ν:=ν) h2;have e:=hr.apart n' m' x y b q1 p1 (by rw[← e1];exact h3) (by rw[← e2];exact h4) h5 h6;subst e;rcases q2 with⟨q2,q3⟩ | ⟨q2,q3,q4⟩<;>rcases p2 with⟨p2,p3⟩ | ⟨p2,p3,p4⟩
  ·obtain⟨u1,u2⟩:=g_.1 q3;obtain⟨u3,u4⟩:=g_.1 p3;have hpw:=b3_.1 hns;rcases aD (n-D) (m-D)with hlt | he | hlt
   ·exact absurd (u2.trans u4.symm) (hpw _ _ u1 u3 hlt)
   ·omega
   ·exact absurd (u4.trans u2.symm) (hpw _ _ u3 u1 hlt)
  ·subst p3;exact absurd (v_ q3) p4
  ·subst q3;exact absurd (v_ p3) q4
  ·exact q3.symm.trans p3
 ·obtain⟨n',e1,q1,q2⟩:=SJ (ν:=ν) h1;exact hr.own n' x b q1 (by rw[← e1];exact h2) h3
end Go.Ab
namespace Go.Ab
variable{G:Sig}{P:Program}
def Bl1(ok:SigOK P G){l:List (Nat×Fe G)}(hT:∀p∈l,GO P G p.1 p.2):CfOK P G (cfP l):=by
 refine⟨λg args h nm=>Ad (Bc _) λ_=>Ad (Ax _) λ_=>Aby _ _ _ _ _ _ _,λg args h nm out hout=>?_⟩;unfold cfP at hout;generalize hnsd:Xl args=ns at hout;obtain⟨args',hargs',h1⟩:=W hout;obtain⟨hnd,h2⟩:=V h1;have hns:ns.Nodup:=Jn hnd;obtain⟨⟨g',e⟩,hmem,hg,t,htake,hcall⟩:=Vb h2;simp only at hg;subst hg;obtain⟨y,p,s,bl,hF,hp,ho,hfin⟩:=Adb hcall;obtain⟨hent,hok⟩:=hT _ hmem;obtain⟨hla,hlk,hkeys,a,b,hta,htb,htc,rfl⟩:=Avj htake;obtain⟨ms,Ee,s',bl',hrows,hs',hbl',hms,fz',rfl,hfz,hfz'⟩:=Ah3 hfin;refine⟨hent,λν S B w vals hr hB hfr hvals=>?_⟩;simp only at hfr;have hr1:=At7 hns hr;have hv1:F2 (Rp G (QC ns ν) S w.heap) args' vals:=Ark (λn m x=>Ani) (λn m x=>Ara) hargs' hvals;have hslot:∀k s,H (Jp 0 (args'.map Sv.p)) k=A s→Rs G (QC ns ν) S w.heap s (vals.getD k undef):=by
  intro k s hk;rw[WT]at hk;simp at hk;obtain⟨x,hx,rfl⟩:=hk;obtain⟨v,hv,hrp⟩:=hv1.get hx
  have:vals.getD k undef=v:=by simp[k_,hv]
  rw[this];exact .p _ _ hrp
 obtain⟨ν2,S2,hsl2,hheap2,hused2,hkeep2,hS2,hsrc2,holds2⟩:=Bax hta htb htc hr1 hslot;generalize hx0:(a.x,b.x)=x0 at hF hsl2 hheap2 hused2 hsrc2;generalize hod:Es (a.nm++b.nm)=olds at hsrc2 holds2 hfr;generalize hfd:a.fz++b.fz=fz at hS2 hfz hfz'
 let mo:Nat→Prop:=λc=>¬S2 c∧∃n z,H (e.I.mk' x0).hp n≠C∧ν2 n=A z∧AV z=A c
 have hheap2':HRel G ν2 S2 (λc=>mo c∨w.heap.size≤c) (H (e.I.mk' x0).hp) w:=⟨hheap2.blk,hheap2.apart,λn z c q1 q2 q3=>⟨(hheap2.own n z c q1 q2 q3).1,.inl ⟨(hheap2.own n z c q1 q2 q3).1,n,z,q1,q2,q3⟩⟩,hheap2.stay,hheap2.gl⟩
 have hvl:vals.length=e.I.tm.length:=by rw[← hla,hv1.1]
 have hcal:∀n,FG ns h n≠C→∃m,QC ns ν n=ν m∧h m≠C∧((D≤n∧ns[n-D]?=A m)∨(n<D∧m=n∧n∉ns)):=λn hn=>SJ hn;have hmo:∀c,mo c→∃m z,h m≠C∧ν m=A z∧AV z=A c∧(m∈olds∨m∈ns):=by
  rintro c ⟨_,n,z,q1,q2,q3⟩;obtain⟨m,p1,p2,p3⟩:=hsrc2 n z c q1 q2 q3;obtain⟨m',e1,e2,e3⟩:=hcal m p2;refine⟨m',z,e2,by rw[← e1];exact p1,q3,?_⟩;rcases e3 with⟨u1,u2⟩ | ⟨u1,u2,u3⟩
  ·exact .inr (v_ u2)
  ·rcases p3 with p3 | p3
   ·exact .inl (by rw[u2];exact p3)
   ·obtain⟨i,hi⟩:=e9_.1 p3
    have:=hkeys i m hi
    omega
 refine(hok x0 y p s bl hF hp ho ν2 S2 mo w vals hheap2' hused2 hvl hsl2).mono λr w' ⟨v,ν3,S3,hret,hval3,hheap3,hSS,hSsub,hnames,hsize,hframe,henv⟩=>?_;subst hret;obtain⟨hrk1,hrk2,hrk3⟩:=Ae0 ms nm Ee hrows;have hnewν:∀n,n∈BI Ee→ν n=C:=λn hn=>hfr n hn
 let ν':Nat→Option Value:=λn=>if nm≤n then match ms[n-nm]? with | some m=>ν3 m | none=>ν n else ν n
 have hν'old:∀n,n∉BI Ee→ν' n=ν n:=by
  intro n hn;simp only[ν'];by_cases hle:nm≤n
  ·rw[if_pos hle];cases hm:ms[n-nm]? with
   |none=>rfl
   |some m=>
    have:=(g_.1 hm).1
    exact absurd ((hrk1 n).2 ⟨hle,ω⟩) hn
  ·rw[if_neg hle]
 have hν'new:∀j m,ms[j]?=A m→ν' (nm+j)=ν3 m:=by intro j m hm;simp only[ν'];rw[if_pos ω,b6_,hm]
 have hνold:∀n z,ν n=A z→ν' n=A z:=by intro n z hz;rw[hν'old n λhn=>by rw[hnewν n hn]at hz;cases hz];exact hz
 have hf3:∀n m z,HK ms n nm=A m→ν3 n=A z→ν' m=A z:=by
  intro n m z hm hz;obtain⟨q1,q2⟩:=TI ms n nm m hm
  have:=hν'new (m-nm) n q2
  rw[show nm+(m-nm)=m by omega]at this;rw[this];exact hz
 have hkey:∀(i n:Nat),ns[i]?=A n→(AF e.I.hp)[i]?=A (D+i):=by
  intro i n hi;have hi':i<(AF e.I.hp).length:=by rw[hlk];exact(g_.1 hi).1
  have h9:=i_ hi';rw[h9,hkeys i _ h9]
 have hptr:∀(i n:Nat),ns[i]?=A n→∃bb,ν n=A (.pointer (A ⟨bb,0,C⟩))∧ν3 (D+i)=A (.pointer (A ⟨bb,0,C⟩))∧h n≠C∧H (e.I.mk' x0).hp (D+i)≠C:=by
  intro i n hi;have hk:=v_ (hkey i n hi);obtain⟨k1,cs,k2⟩:=hkeep2 _ hk;obtain⟨bb,c,te,q1,_,_⟩:=hr1.blk _ _ k2;obtain⟨m,e1,e2,e3⟩:=hcal (D+i) (by rw[k2];simp);have hm:m=n:=by
   rcases e3 with⟨_,u2⟩ | ⟨u1,_⟩
   ·rw[b6_,hi]at u2;exact(L_ u2).symm
   ·omega
  subst hm;refine⟨bb,by rw[← e1];exact q1,hnames _ _ ω (by rw[k1];exact q1),e2,?_⟩;intro hno
  have:D+i∈BI (NX e.I.tm x0.1++(Sr e.I.hp x0.2++HW e.I.hp x0.2)):=by
   have hgk:∀(l:List (Nat×List CSh)) (z:HpT G l),BI (HW l z)=AF l:=by
    intro l;induction l with
    |nil=>intro _;rfl
    |cons p t ih=>intro z;simp only[HW,BI,AF,ih]
   rw[GS,GS,hgk];simp[hk]
  have hgn:∀(l:List (Nat×J G.T)) (n:Nat),n∈BI l→H l n≠C:=by
   intro l;induction l with
   |nil=>intro n hn;simp[BI]at hn
   |cons q t ih=>
    intro n hn;simp only[BI,q_]at hn;simp only[H,BM];by_cases e:q.1=n
    ·rw[if_pos e];simp
    ·rw[if_neg e];exact ih n (hn.resolve_left (f4_ e))
  exact hgn _ _ this hno
 have hg3:∀n m z,YO ns n=A m→ν3 n=A z→ν' m=A z:=by intro n m z hm hz;obtain⟨q1,q2⟩:=Aix hm;obtain⟨bb,u1,u2,_,_⟩:=hptr _ _ q2;rw[show D+(n-D)=n by omega,hz]at u2;cases u2;exact hνold _ _ u1
 have hblo:VN (H p.2.hp) (AF e.I.hp)=A bl:=by
  unfold KN at ho;split at ho
  ·cases ho
  ·split at ho
   ·rename_i s1 b1 q1 q2;cases ho;exact q2
   ·cases ho
 obtain⟨hbl1,hbl2⟩:=CE _ _ hblo;obtain⟨hbl3,hbl4⟩:=CE _ _ hbl';have hcells:∀(i n:Nat),ns[i]?=A n→∃cs cs',bl[i]?=A cs∧bl'[i]?=A cs'∧H p.2.hp (D+i)=A (.cells cs)∧Dn (Cv.ren (λn=>HK ms n nm) (YO ns)) cs=A cs':=by
  intro i n hi;obtain⟨cs,q1,q2⟩:=hbl2 i _ (hkey i n hi);obtain⟨cs',q3,q4⟩:=hbl4 i cs q1;refine⟨cs,cs',q1,q3,?_,q4⟩;split at q2
  ·rename_i cs1 hc;cases q2;exact hc
  ·cases q2
 have hlen':bl'.length=ns.length:=by rw[hbl3,hbl1,hlk]
 obtain⟨S',hS1,hS2',hval',hrb',hSown,hSold,hSlt⟩:∃S':Nat→Prop,(∀c,S c→S' c)∧(∀c,S' c→S c∨B c)∧Rs G ν3 S' w'.heap s v∧
   (∀n k,H p.2.hp n=A k→((∃i m,ns[i]?=A m∧n=D+i)∨n∈ms)→Rb G ν3 S' w'.heap n k)∧
   (∀c,S' c→S3 c)∧
   (∀n z c,h n≠C→n∉olds→n∉ns→n∉fz'→ν n=A z→AV z=A c→¬S' c)∧(∀c,S' c→c<w'.heap.size):=by
  have hSB:∀c,S3 c→S c∨B c:=by
   intro c hc;rcases hSsub c hc with hc | ⟨_,n,z,q1,q2,q3⟩ | hc
   ·rcases(hS2 c).1 hc with hc | ⟨n,_,hn,z,hz,hbz⟩
    ·exact .inl hc
    ·exact .inr (hr1.own n z c hn hz hbz).2
   ·exact .inr (hheap2.own n z c q1 q2 q3).2
   ·exact .inr (hB c hc)
  have hSS3:∀c,S c→S3 c:=λc hc=>hSS c ((hS2 c).2 (.inl hc));have hold3:∀n z c,h n≠C→n∉olds→n∉ns→n∉fz→ν n=A z→AV z=A c→¬S3 c:=by
   intro n z c q1 q2 q3 q4 q5 q6 hc;rcases hSsub c hc with hc | hc | hc
   ·rcases(hS2 c).1 hc with hc | ⟨m,hm,hmh,z',hz',hbz'⟩
    ·exact(hr.own n z c q1 q5 q6).1 hc
    ·obtain⟨m',e1,e2,e3⟩:=hcal m hmh;have e:=hr.apart n m' z z' c q1 e2 q5 (by rw[← e1];exact hz') q6 hbz';subst e;rcases e3 with⟨u1,u2⟩ | ⟨u1,u2,u3⟩
     ·exact q3 (v_ u2)
     ·rw[u2]at q4;exact q4 hm
   ·obtain⟨m,z',p1,p2,p3,p4⟩:=hmo c hc;have e:=hr.apart n m z z' c q1 p1 q5 p2 q6 p3;subst e;exact p4.elim q2 q3
   ·have:=hr.lt q1 q5 q6;omega
  rcases hfz with rfl | ⟨rfl,hfl1,hfl2⟩ | hfz0
  ·exact⟨S3,hSS3,hSB,hval3,λn k hk _=>hheap3.blk n k hk,λ_ h=>h,hold3,hheap3.stay⟩
  ·refine⟨S,λ_ h=>h,λ_ h=>.inl h,Arl (λc hc=>hfl1 c (by simp[hc])) hval3,λn k hk hn=>?_,hSS3,λn z c q1 _ _ _ q5 q6=>(hr.own n z c q1 q5 q6).1,λc hc=>d7_ (hr.stay c hc) hsize⟩;have hrb:=hheap3.blk n k hk;rcases hn with⟨i,m,hi,rfl⟩ | hn
   ·obtain⟨cs,cs',c1,c2,c3,c4⟩:=hcells i m hi;rw[hk]at c3;cases c3;obtain⟨bb,c,te,q1,q2,q3,q4⟩:=hrb;refine⟨bb,c,te,q1,q2,⟨q3.1,λj x y hx hy=>Aha (hfl1 x ?_) (q3.2 j x y hx hy)⟩,q4⟩;exact p_.2 (.inr (List.mem_flatten.2 ⟨cs,v_ c1,v_ hx⟩))
   ·obtain⟨j,hj⟩:=e9_.1 hn;obtain⟨k0,r1,r2,_⟩:=hrk3 j n hj;rw[hk]at r1;cases r1;obtain⟨t',l2,e1,e2⟩:=Ads Ee _ _ hfl2 r2;cases e1;rcases hrb with⟨g1,g2⟩ | ⟨bb,cap,c,te,g1,g2,g3,g4,g5,g6⟩
    ·exact .inl ⟨g1,g2⟩
    ·refine .inr ⟨bb,cap,c,te,g1,g2,g3,g4,λi j x cv hx hcv=>?_,g6⟩;obtain⟨uu,hu,hrd⟩:=g5 i j x cv hx hcv;refine⟨uu,hu,?_⟩;obtain⟨v0,rfl⟩:=ok.flatd _ x cv e2 (v_ hcv);cases hrd with
     |sc _ hsc=>exact .sc _ hsc
  ·subst hfz0;exact⟨S3,hSS3,hSB,hval3,λn k hk _=>hheap3.blk n k hk,λ_ h=>h,λn z c q1 q2 q3 _ q5 q6=>hold3 n z c q1 q2 q3 σ q5 q6,hheap3.stay⟩
 have hnsν:∀n∈ns,n∉BI Ee:=by intro n hn hk;obtain⟨i,hi⟩:=e9_.1 hn;obtain⟨bb,u1,_⟩:=hptr i n hi;rw[hnewν n hk]at u1;cases u1
 have hnodup:(BI (OD ns bl'++Ee)).Nodup:=by rw[GS,YA ns bl' hlen',List.nodup_append];exact⟨hns,hrk2,λx hx y hy e=>hnsν x hx (e▸hy)⟩
 let hp':Nat→Option (J G.T):=BD h (Nf (olds++fz')++ZK (OD ns bl'++Ee))
 have hD:∀n,hp' n=match H (OD ns bl'++Ee) n with | some k=>A k | none=>if n∈olds++fz' then C else h n:=by
  intro n;simp only[hp'];rw[Aag,Ahi _ _ _ hnodup,OG]
  try(cases H (OD ns bl'++Ee) n<;>rfl)
 have hcase:∀n k,hp' n=A k→(∃i cs cs',ns[i]?=A n∧k=.cells cs'∧H p.2.hp (D+i)=A (.cells cs)∧Dn (Cv.ren (λn=>HK ms n nm) (YO ns)) cs=A cs'∧ν' n=ν3 (D+i))∨
   (∃j m,n=nm+j∧ms[j]?=A m∧okK m k∧H p.2.hp m=A k∧ν' n=ν3 m)∨(h n=A k∧n∉olds∧n∉fz'∧n∉ns∧ν' n=ν n):=by
  intro n k hk;rw[hD n,Ad2]at hk;cases hz:H (OD ns bl') n with
  |some k1=>rw[hz]at hk;cases hk;obtain⟨i,c,q1,q2,rfl⟩:=Amm _ _ _ _ hz;obtain⟨cs,cs',c1,c2,c3,c4⟩:=hcells i n q1;rw[q2]at c2;cases c2;obtain⟨bb,u1,u2,_⟩:=hptr i n q1;exact .inl ⟨i,cs,c,q1,rfl,c3,c4,by rw[hνold _ _ u1,u2]⟩
  |none=>
   rw[hz]at hk;have hnn:n∉ns:=by
    intro hn;have h9:n∈BI (OD ns bl'):=by rw[YA ns bl' hlen'];exact hn
    have hgn:∀(l:List (Nat×J G.T)) (n:Nat),n∈BI l→H l n≠C:=by
     intro l;induction l with
     |nil=>intro n hn;simp[BI]at hn
     |cons q t ih=>
      intro n hn;simp only[BI,q_]at hn;simp only[H,BM];by_cases e:q.1=n
      ·rw[if_pos e];simp
      ·rw[if_neg e];exact ih n (hn.resolve_left (f4_ e))
    exact hgn _ _ h9 hz
   cases hrw:H Ee n with
   |some k1=>
    rw[hrw]at hk;simp only at hk;cases hk;have hm:=UL (Ly hrw);obtain⟨b1,b2⟩:=(hrk1 n).1 hm;have hj:n-nm<ms.length:=ω;have hj':=i_ hj;obtain⟨k0,r1,r2,r3⟩:=hrk3 (n-nm) _ hj';rw[show nm+(n-nm)=n by omega,hrw]at r2;cases r2;refine .inr (.inl ⟨n-nm,_,ω,hj',r3,r1,?_⟩)
    have:=hν'new (n-nm) _ hj'
    rw[show nm+(n-nm)=n by omega]at this;exact this
   |none=>
    rw[hrw]at hk;simp only at hk;by_cases ho:n∈olds++fz'
    ·rw[if_pos ho]at hk;cases hk
    ·rw[if_neg ho]at hk;have hnr:n∉BI Ee:=by
      intro hm;obtain⟨b1,b2⟩:=(hrk1 n).1 hm;have hj:n-nm<ms.length:=ω;obtain⟨_,r1,r2,_⟩:=hrk3 (n-nm) _ (i_ hj);rw[show nm+(n-nm)=n by omega,hrw]at r2;cases r2
     simp only[p_,not_or]at ho;exact .inr (.inr ⟨hk,ho.1,ho.2,hnn,hν'old n hnr⟩)
 have hkeepb:∀n z c,h n≠C→n∉olds→n∉ns→ν n=A z→AV z=A c→w'.heap[c]?=w.heap[c]?:=by intro n z c q1 q2 q3 q5 q6;refine hframe c (hr.lt q1 q5 q6) λhc=>?_;obtain⟨m,z',p1,p2,p3,p4⟩:=hmo c hc;have e:=hr.apart n m z z' c q1 p1 q5 p2 q6 p3;subst e;exact p4.elim q2 q3
 have hkeepS:∀c,S c→w'.heap[c]?=w.heap[c]?:=by intro c hc;refine hframe c (hr.stay c hc) λhm=>hm.1 ((hS2 c).2 (.inl hc))
 have le1:Le ν ν' S S' w.heap w'.heap:=⟨hνold,hS1,hkeepS⟩
 have hown3:∀q z c,H p.2.hp q≠C→ν3 q=A z→AV z=A c→¬S' c∧B c∧∀n z',h n≠C→n∉olds→n∉ns→ν n=A z'→AV z'≠A c:=by
  intro q z c q1 q2 q3;obtain⟨o1,o2⟩:=hheap3.own q z c q1 q2 q3;refine⟨λhc=>o1 (hSown c hc),?_,λn z' r1 r2 r3 r4 r5=>?_⟩
  ·rcases o2 with⟨_,n,z',u1,u2,u3⟩ | o2
   ·exact(hheap2.own n z' c u1 u2 u3).2
   ·exact hB c o2
  ·rcases o2 with o2 | o2
   ·obtain⟨m,z2,p1,p2,p3,p4⟩:=hmo c o2;have e:=hr.apart n m z' z2 c r1 p1 r4 p2 r5 p3;subst e;exact p4.elim r2 r3
   ·have:=hr.lt r1 r4 r5;omega
 have hqof:∀n,hp' n≠C→(∃q,ν' n=ν3 q∧H p.2.hp q≠C∧((∃i,ns[i]?=A n∧q=D+i)∨(∃j,n=nm+j∧ms[j]?=A q)))∨(h n≠C∧n∉olds∧n∉fz'∧n∉ns∧ν' n=ν n):=by
  intro n hn;obtain⟨k,hk⟩:=Option.ne_none_iff_exists'.1 hn;rcases hcase n k hk with⟨i,cs,cs',q1,q2,q3,q4,q5⟩ | ⟨j,m,q1,q2,q3,q4,q5⟩ | ⟨q1,q2,q3,q4,q5⟩
  ·exact .inl ⟨D+i,q5,by rw[q3];simp,.inl ⟨i,q1,rfl⟩⟩
  ·exact .inl ⟨m,q5,by rw[q4];simp,.inr ⟨j,q1,q2⟩⟩
  ·exact .inr ⟨by rw[q1];simp,q2,q3,q4,q5⟩
 refine⟨v,ν',S',rfl,hνold,λn hn=>?_,hS1,hS2',⟨λn k hk=>?_,λn m z z' c h1 h2 h3 h4 h5 h6=>?_,λn z c h1 h2 h3=>?_,hSlt,hr.gl.mono hS1 hkeepS⟩,λs0 hs0=>?_,hsize,λc hc hnot=>?_,henv⟩
 ·by_cases hk:n∈BI Ee
  ·exact .inr hk
  ·rw[hν'old n hk]at hn;exact .inl hn
 ·rcases hcase n k hk with⟨i,cs,cs',q1,rfl,q3,q4,q5⟩ | ⟨j,m,q1,q2,q3,q4,q5⟩ | ⟨q1,q2,q3,q4,q5⟩
  ·obtain⟨bb,c,te,r1,r2,r3,r4⟩:=hrb' _ _ q3 (.inl ⟨i,n,q1,rfl⟩);refine⟨bb,c,te,by rw[q5];exact r1,r2,Ahb hf3 hg3 q4 r3,λm t hm=>?_⟩;obtain⟨m0,u1,u2⟩:=Arh q4 hm;obtain⟨e1,e2⟩:=r4 m0 t u1;obtain⟨_,o2⟩:=Aix u2;rw[e1,b6_,q1]at o2;exact⟨(L_ o2).symm,e2⟩
  ·exact Bio q3 q5 (hrb' _ _ q4 (.inr (v_ q2)))
  ·exact(hr.blk n k q1).mono le1 λz c hz hc=>hkeepb n z c (by rw[q1];simp) q2 q4 hz hc
 ·rcases hqof n h1 with⟨q,q1,q2,q3⟩ | ⟨q1,q2,q3,q4,q5⟩<;>rcases hqof m h2 with⟨r,r1,r2,r3⟩ | ⟨r1,r2,r3,r4,r5⟩
  ·have e:=hheap3.apart q r z z' c q2 r2 (by rw[← q1];exact h3) (by rw[← r1];exact h4) h5 h6;subst e;have hlow:∀(j:Nat) (x:Nat),ms[j]?=A x→∀(i k:Nat),ns[i]?=A k→x≠D+i:=by
    intro j x hj i k hi e;obtain⟨k0,u1,_,u2⟩:=hrk3 j x hj;obtain⟨cs,cs',_,_,c3,_⟩:=hcells i k hi;rw[e,c3]at u1;cases u1;rw[e]at u2;exact absurd u2.1 ω
   rcases q3 with⟨i,q3,q4⟩ | ⟨j,q3,q4⟩<;>rcases r3 with⟨i',r3,r4⟩ | ⟨j',r3,r4⟩
   ·have:i=i':=ω
    subst this;rw[q3]at r3;exact L_ r3
   ·exact absurd q4 (hlow j' q r4 i n q3)
   ·exact absurd r4 (hlow j q q4 i' m r3)
   ·obtain⟨u1,u2⟩:=g_.1 q4;obtain⟨u3,u4⟩:=g_.1 r4;have hpw:=b3_.1 hms;rcases aD j j' with hlt | rfl | hlt
    ·exact absurd (u2.trans u4.symm) (hpw _ _ u1 u3 hlt)
    ·omega
    ·exact absurd (u4.trans u2.symm) (hpw _ _ u3 u1 hlt)
  ·exact absurd h6 ((hown3 q z c q2 (by rw[← q1];exact h3) h5).2.2 m z' r1 r2 r4 (by rw[← r5];exact h4))
  ·exact absurd h5 ((hown3 r z' c r2 (by rw[← r1];exact h4) h6).2.2 n z q1 q2 q4 (by rw[← q5];exact h3))
  ·exact hr.apart n m z z' c q1 r1 (by rw[← q5];exact h3) (by rw[← r5];exact h4) h5 h6
 ·rcases hqof n h1 with⟨q,q1,q2,q3⟩ | ⟨q1,q2,q3,q4,q5⟩
  ·obtain⟨u1,u2,_⟩:=hown3 q z c q2 (by rw[← q1];exact h2) h3;exact⟨u1,u2⟩
  ·rw[q5]at h2;exact⟨hSold n z c q1 q2 q4 q3 h2 h3,(hr.own n z c q1 h2 h3).2⟩
 ·cases hs0;refine Bq2 hf3 (λn m z hm hz=>?_) hs' hval';unfold Bd5 at hm;cases hb:aC D n with
  |true=>rw[hb]at hm;exact hg3 n m z hm hz
  |false=>rw[hb]at hm;exact hf3 n m z hm hz
 ·refine hframe c hc λhm=>?_;obtain⟨m,z,p1,p2,p3,_⟩:=hmo c hm;exact hnot m z p1 p2 p3
end Go.Ab
namespace Go.Ab
variable{G:Sig}
variable{x:Operand}{h:Nat→Option (J G.T)}{c:Cv G.T}{nm n:Nat}
section
variable{ev ev':Operand→Option (Sv G.T)}
def Kj(h:ev' x=ev x):evP ev' x=evP ev x:=by unfold evP;rw[h]
def Dv(h:ev' x=ev x):evC ev' x=evC ev x:=by unfold evC;rw[h]
def Ec(h:ev' x=ev x):evI ev' x=evI ev x:=by unfold evI;rw[h]
def Azd(h:ev' x=ev x):evB ev' x=evB ev x:=by unfold evB;rw[h]
def QX(h:ev' x=ev x):QW ev' x=QW ev x:=by unfold QW;rw[h]
def SC:∀(xs:List Operand),(∀x∈xs,ev' x=ev x)→TD ev' xs=TD ev xs
 |[],_=>rfl
 |x::t,h=>by unfold TD;rw[Kj (h x σ),SC t λy hy=>h y (by simp[hy])]
def RX:∀(xs:List (Nat×Operand)),(∀x∈xs.map (·.2),ev' x=ev x)→IG ev' xs=IG ev xs
 |[],_=>rfl
 |(i,x)::t,h=>by unfold IG;rw[Kj (h x σ),RX t λy hy=>h y (by simp only[c2_,q_];exact .inr hy)]
def XC{d m:Nat}{x:Option Operand}(h:∀y,x=A y→ev' y=ev y):GA ev' d m x=GA ev d m x:=by
 cases x with
 |none=>rfl
 |some y=>simp only[GA];rw[Ec (h y rfl)]
def Ajn(b:Builtin)(tys:List Nat)(xs:List Operand)(hx:∀x∈xs,ev' x=ev x):AN ev' h nm b tys xs=AN ev h nm b tys xs:=by
 unfold AN;split
 ·unfold Ve;split
  ·rw[Dv (hx _ σ)]
  ·rfl
  ·rw[Dv (hx _ σ)]
  ·rfl
 ·unfold Asc;rw[Ec (hx _ σ),Ec (hx _ σ)]
 ·unfold Asb;rw[Ec (hx _ σ),Ec (hx _ σ)]
 ·unfold Akh;rw[Ec (hx _ σ),Ec (hx _ σ),Ec (hx _ σ)]
 ·unfold Akg;rw[Ec (hx _ σ),Ec (hx _ σ),Ec (hx _ σ)]
 ·unfold Lx;split
  ·rw[Dv (hx _ σ),Dv (hx _ σ)]
  ·rfl
 ·unfold Ra;split
  ·rw[Dv (hx _ σ),Dv (hx _ σ)]
  ·rfl
 ·rfl
def Bhr{cf:CK G}(op:Op)(hx:∀x∈op.operands.toList,ev' x=ev x):act cf ev' h nm op=act cf ev h nm op:=by
 cases op
 case makeFunc fn a b=>
  cases fn
  case func f=>show Uj ev' f a.toList b.toList=Uj ev f a.toList b.toList;unfold Uj;rw[SC _ λx h=>hx x (by simp[Op.operands];left;simpa using h),SC _ λx h=>hx x (by simp[Op.operands];right;simpa using h)]
  all_goals rfl
 case call c=>
  obtain⟨callee,xs,tys⟩:=c;cases callee
  case value f=>show PC cf ev' h nm f xs.toList=PC cf ev h nm f xs.toList;unfold PC;rw[Dv (hx f (by simp[Op.operands,Call.operands])),SC _ λx h=>hx x (by simp[Op.operands,Call.operands];right;simpa using h)]
  case builtin b=>exact Ajn b _ _ λx h=>hx x (by simp[Op.operands,Call.operands];simpa using h)
  case invoke=>rfl
 case move x=>exact QX (hx x (by simp[Op.operands]))
 case assign x=>exact QX (hx x (by simp[Op.operands]))
 case pick c a b=>
  show Uk ev' c a b=Uk ev c a b;unfold Uk;rw[Azd (hx c (by simp[Op.operands]))];congr 1;funext c1;congr 1;funext c2;cases c2
  ·exact QX (hx b (by simp[Op.operands]))
  ·exact QX (hx a (by simp[Op.operands]))
 case alloc t=>rfl
 case box t x=>show XU ev' nm x=XU ev nm x;unfold XU;rw[Kj (hx x (by simp[Op.operands]))]
 case build t ps=>show Ru ev' t ps.toList=Ru ev t ps.toList;unfold Ru;rw[RX _ λx h=>hx x (by simpa[Op.operands]using h)]
 case buildSlice t n ps=>show EL ev' h nm t n ps.toList=EL ev h nm t n ps.toList;unfold EL;rw[RX _ λx h=>hx x (by simpa[Op.operands]using h)]
 case load t x=>show PE ev' h t x=PE ev h t x;unfold PE;rw[Dv (hx x (by simp[Op.operands]))]
 case store t x y=>show Mn ev' h t x y=Mn ev h t x y;unfold Mn;rw[Dv (hx x (by simp[Op.operands])),Kj (hx y (by simp[Op.operands]))]
 case nilCheck x=>show XV ev' x=XV ev x;unfold XV;rw[Dv (hx x (by simp[Op.operands]))]
 case binOp op t x y u=>show XT ev' op t x y=XT ev op t x y;unfold XT;rw[Kj (hx x (by simp[Op.operands])),Kj (hx y (by simp[Op.operands]))]
 case unOp op t x=>show aUn ev' op x=aUn ev op x;unfold aUn;rw[Dv (hx x (by simp[Op.operands]))]
 case convert s t x=>show PD ev' h s t x=PD ev h s t x;unfold PD;rw[Dv (hx x (by simp[Op.operands]))]
 case makeSlice t x y=>show Jc ev' nm t x y=Jc ev nm t x y;unfold Jc;rw[Ec (hx x (by simp[Op.operands])),Ec (hx y (by simp[Op.operands]))]
 case slice t x D hi mx=>
  show Rx ev' t x D hi mx=Rx ev t x D hi mx;unfold Rx;have hlo:∀d m,GA ev' d m D=GA ev d m D:=λd m=>XC λy hy=>hx y (by subst hy;simp[Op.operands]);have hhi:∀d m,GA ev' d m hi=GA ev d m hi:=λd m=>XC λy hy=>hx y (by subst hy;simp[Op.operands]);have e1:∀c,Wc ev' c D hi=Wc ev c D hi:=by intro c;unfold Wc;simp only[hlo,hhi]
  have e2:∀c e,Wb ev' c e D hi=Wb ev c e D hi:=by intro c e;unfold Wb;simp only[hlo,hhi]
  rw[Dv (hx x (by simp[Op.operands]))];simp only[e1,e2]
 case fieldAddr t x f=>show Jb ev' t x f=Jb ev t x f;unfold Jb;rw[Dv (hx x (by simp[Op.operands]))]
 case field t x f=>show Rv ev' t x f=Rv ev t x f;unfold Rv;rw[Kj (hx x (by simp[Op.operands]))]
 case indexAddr t x i=>show FB ev' h t x i=FB ev h t x i;unfold FB;rw[Dv (hx x (by simp[Op.operands])),Ec (hx i (by simp[Op.operands]))]
 case index t x i=>show Rw ev' t x i=Rw ev t x i;unfold Rw;rw[Dv (hx x (by simp[Op.operands])),Kj (hx x (by simp[Op.operands])),Ec (hx i (by simp[Op.operands]))]
 case extract x i=>show Mm ev' x i=Mm ev x i;unfold Mm;rw[hx x (by simp[Op.operands])]
 all_goals rfl
end
section
variable{ev:Operand→Option (Sv G.T)}{h h':Nat→Option (J G.T)}{nm:Nat}
def Am9(hh:∀m∈c.rds,h' m=h m):HX h' n c=HX h n c:=by
 cases c with
 |ptr b o=>simp only[HX];rw[hh b (by simp[Q])]
 |pd b o s l i=>simp only[HX];rw[hh b (by simp[Q])]
 |pr b t i o=>simp only[HX];rw[hh b (by simp[Q])]
 |_=>rfl
def Anq{new:List (Cv G.T)}(hh:∀m∈c.rds,h' m=h m):Kc h' new c=Kc h new c:=by
 cases c with
 |ptr b o=>simp only[Kc];rw[hh b (by simp[Q])]
 |pd b o s l i=>simp only[Kc];rw[hh b (by simp[Q])]
 |pr b t i o=>simp only[Kc];rw[hh b (by simp[Q])]
 |_=>rfl
def RG{e:Nat}(hh:∀m∈c.rds,h' m=h m):Ih h' e c=Ih h e c:=by
 cases c with
 |own b=>simp only[Ih];rw[hh b (by simp[Q])]
 |sc v=>unfold Ih;split<;>first | rfl | contradiction
 |_=>rfl
def Azw(hh:∀m∈c.rds,h' m=h m):UK h' n c=UK h n c:=by
 unfold UK;rw[Am9 hh];cases c with
 |pd b o s l i=>
  have e:(λq=>HX h' n (.ptr b (o+q*s)))=λq=>HX h n (.ptr b (o+q*s)):=funext λq=>Am9 λm hm=>hh m (by simpa[Q]using hm);have e2:Zw h' (.pd b o s l i)=Zw h (.pd b o s l i):=by simp only[Zw];rw[hh b (by simp[Q])]
  simp only[e,e2]
 |_=>rfl
def Acq(cf:CK G):Prop:=∀g args h h' nm out,cf g args h nm (L G) A=A out→(∀n∈out.rd,h' n=h n)→cf g args h' nm (L G) A=A out
def Bhq{cf:CK G}(hl:Acq cf){op:Op}{out:L G}(ha:act cf ev h nm op (L G) A=A out)(hh:∀n∈out.rd,h' n=h n):act cf ev h' nm op (L G) A=A out:=by
 cases op
 case load t x=>have ha:PE ev h t x (L G) A=A out:=ha;show PE ev h' t x (L G) A=A out;unfold PE at ha⊢;obtain⟨c,hc,h1⟩:=bindC ha;have h1':=h1;obtain⟨_,cs,_,_,h2⟩:=Aeh h1;obtain⟨y,hy,h3⟩:=W h2;simp[O]at h3;subst h3;have e:=Azw (n:=G.sz t) hh;simp only[N,evC,hc,X,e];exact h1'
 case convert s t x=>
  have ha:PD ev h s t x (L G) A=A out:=ha;show PD ev h' s t x (L G) A=A out;unfold PD at ha⊢;obtain⟨hn,h0⟩:=V ha;obtain⟨c,hc,h1⟩:=bindC h0;simp only[N,M.need,hn,d_,evC,hc];cases hts:G.ty s with
  |sl e=>
   rw[hts]at h1;simp only at h1⊢;cases hst:Ad8 (G.ty t)with
   |false=>rw[hst]at h1;exact h1
   |true=>rw[hst,d_]at h1;obtain⟨hg,h2⟩:=V h1;obtain⟨l,hl',h3⟩:=W h2;simp[O]at h3;subst h3;simp only[d_,N,M.need,hg,X,RG (e:=e) hh,hl',O]
  |_=>rw[hts]at h1;exact h1
 case buildSlice t n ps=>
  have ha:EL ev h nm t n ps.toList (L G) A=A out:=ha;show EL ev h' nm t n ps.toList (L G) A=A out;unfold EL at ha⊢;cases ht:G.ty t<;>simp only[ht]at ha⊢ <;>try exact ha
  obtain⟨ys,h1,h2⟩:=(NA (ev:=ev) ps.toList).spec (M.bind_spec ha);obtain⟨hn,h3⟩:=V h2;obtain⟨cs,hcs,h4⟩:=W h3;show(IG ev ps.toList) _ _=_;rw[NA ps.toList,h1];simp only[a_,N,M.need,hn,d_,X,hcs];rename_i e;unfold Wa at h4⊢;cases hfn:Yw (G.ty e)with
  |true=>rw[hfn]at h4;exact h4
  |false=>rw[hfn]at h4;obtain⟨q,hq,h5⟩:=W h4;obtain⟨l,hl',h6⟩:=W h5;simp[O]at h6;subst h6;have e1:=Abk hq hh;simp only[N,X,e1,hl',O]
 case store t x y=>
  have ha:Mn ev h t x y (L G) A=A out:=ha;show Mn ev h' t x y (L G) A=A out;unfold Mn at ha⊢;obtain⟨c,hc,h1⟩:=bindC ha;obtain⟨u,hu,h2⟩:=Sq h1;obtain⟨hn,h3⟩:=V h2;simp only[N,evC,hc,evP,hu,M.need,hn,d_];have key:RN h c u.cells (L G) A=A out→RN h' c u.cells (L G) A=A out:=λh3=>by unfold RN at h3⊢;obtain⟨r,hr,h4⟩:=W h3;simp[O]at h4;subst h4;have e:=Anq (new:=u.cells) hh;simp only[N,X,e,hr,O]
  cases c with
  |pr b tt i off=>unfold Zj at h3⊢;obtain⟨q,hq,h4⟩:=W h3;obtain⟨hb,h5⟩:=V h4;obtain⟨r,hr,h6⟩:=W h5;simp[O]at h6;subst h6;have e1:=Abk hq λn hm=>hh n (by simp[hm]);have e2:=Anq (h:=h) (h':=h') (new:=q.1) (c:=.pr b tt i off) λn hm=>hh n (by simp[Q]at hm;simp[hm]);simp only[N,X,M.need,e1,hb,d_,e2,hr,O]
  |_=>exact key h3
 case indexAddr t x i=>
  have ha:FB ev h t x i (L G) A=A out:=ha;show FB ev h' t x i (L G) A=A out;unfold FB at ha⊢;cases ht:G.ty t<;>simp only[ht]at ha⊢ <;>try exact ha
  rename_i e;obtain⟨c,hc,h1⟩:=bindC ha;obtain⟨d,n,hi,h2⟩:=Ae h1;have g:ixS h' e c n (L G) A=A out:=by
   unfold ixS at h2⊢;cases c with
   |own b=>
    simp only at h2⊢;cases hb:h b with
    |none=>rw[hb]at h2;simp[aA]at h2
    |some k=>
     rw[hb]at h2;cases k with
     |cells cs=>simp[aA]at h2
     |row u l=>have h2':=h2;simp only at h2;obtain⟨hn,h3⟩:=V h2;obtain⟨hn2,h4⟩:=V h3;simp[O]at h4;subst h4;rw[hh b σ,hb];exact h2'
   |_=>exact h2
  simp only[N,evC,hc,evI,hi];exact g
 case call cl=>
  obtain⟨callee,xs,tys⟩:=cl;cases callee
  case value f=>
   have ha:PC cf ev h nm f xs.toList (L G) A=A out:=ha;show PC cf ev h' nm f xs.toList (L G) A=A out;unfold PC at ha⊢;obtain⟨c,hc,h1⟩:=bindC ha;obtain⟨as,h2,has⟩:=(QA (ev:=ev) xs.toList).spec (M.bind_spec h1);have g:Wq cf h' nm c as (L G) A=A out:=by
    unfold Wq at has⊢;cases c with
    |clo g fst caps=>
     simp only at has⊢;generalize G.ext g=m at has⊢
     match m,has with
     |0,has=>exact hl _ _ _ _ _ _ has hh
     |1,has=>exact has
     |m+2,has=>exact has
    |_=>exact has
   simp only[N,evC,hc];rw[QA xs.toList,h2];exact g
  case builtin b=>
   have ha:AN ev h nm b tys.toList xs.toList (L G) A=A out:=ha;show AN ev h' nm b tys.toList xs.toList (L G) A=A out;rcases XA ha with⟨rfl,t,ts,x,h1,h2⟩ | ⟨rfl,x,y,h1⟩ | ⟨rfl,x,y,h1⟩ | ⟨rfl,t,x,y,h1,h2⟩ | ⟨rfl,x,y,z,h1⟩ | ⟨rfl,x,y,z,h1⟩ | ⟨rfl,t,x,y,h1,h2⟩
   ·rw[h1,h2]at ha⊢;have ha:Ve ev h t x (L G) A=A out:=ha;show Ve ev h' t x (L G) A=A out;unfold Ve at ha⊢;cases ht:G.ty t<;>simp only[ht]at ha⊢ <;>try exact ha
    rename_i e;obtain⟨c,hc,g1⟩:=bindC ha;simp only[N,evC,hc];unfold Am3 at g1⊢;have key:N (X (Ih h e c)) (λl=>O (⟨A (.p (.one (.sc (.int .i64 (l.length:Int))))),[],[],c.rds⟩:L G)) (L G) A=A out→N (X (Ih h' e c)) (λl=>O (⟨A (.p (.one (.sc (.int .i64 (l.length:Int))))),[],[],c.rds⟩:L G)) (L G) A=A out:=λg1=>by obtain⟨l,hl',g2⟩:=W g1;simp[O]at g2;subst g2;have e1:=RG (e:=e) hh;simp only[N,X,e1,hl',O]
    cases c with
    |sa _ _ _=>exact g1
    |_=>exact key g1
   ·rw[h1]at ha⊢;exact ha
   ·rw[h1]at ha⊢;exact ha
   ·rw[h1,h2]at ha⊢;have ha:Lx ev h nm t t x y (L G) A=A out:=ha;show Lx ev h' nm t t x y (L G) A=A out;unfold Lx at ha⊢;cases ht:G.ty t<;>simp only[ht]at ha⊢ <;>try exact ha
    rename_i e;obtain⟨hn,g1⟩:=V ha;obtain⟨c,hc,g2⟩:=bindC g1;obtain⟨c',hc',g3⟩:=bindC g2;obtain⟨l,hl',g4⟩:=W g3;obtain⟨l',hl'',g5⟩:=W g4;obtain⟨hn2,g6⟩:=V g5;have hrd:(∀m∈c.rds,m∈out.rd)∧∀m∈c'.rds,m∈out.rd:=by
     unfold Ar6 at g6;cases c with
     |sc v=>simp[O]at g6;subst g6;exact⟨by simp[Q],λm h=>h⟩
     |own n=>simp only at g6;obtain⟨_,g7⟩:=V g6;simp[O]at g7;subst g7;exact⟨by simp[Q],λm h=>by simp[h]⟩
     |_=>simp[aA]at g6
    have e1:=RG (e:=e) (c:=c) λm hm=>hh m (hrd.1 m hm);have e2:=RG (e:=e) (c:=c') λm hm=>hh m (hrd.2 m hm);simp only[N,M.need,hn,d_,evC,hc,hc',X,e1,e2,hl',hl'',hn2];exact g6
   ·rw[h1]at ha⊢;exact ha
   ·rw[h1]at ha⊢;exact ha
   ·rw[h1,h2]at ha⊢;have ha:Ra ev h t t x y (L G) A=A out:=ha;show Ra ev h' t t x y (L G) A=A out;unfold Ra at ha⊢;cases ht:G.ty t<;>simp only[ht]at ha⊢ <;>try exact ha
    rename_i e;obtain⟨hn,g1⟩:=V ha;obtain⟨c,hc,g2⟩:=bindC g1;obtain⟨c',hc',g3⟩:=bindC g2;obtain⟨l',hl',g4⟩:=W g3;have hrd:(∀m∈c.rds,m∈out.rd)∧∀m∈c'.rds,m∈out.rd:=by
     unfold Zy at g4;cases c with
     |own n=>
      simp only at g4;cases hm:h n with
      |none=>simp[hm,aA]at g4
      |some k=>
       cases k with
       |cells _=>simp[hm,aA]at g4
       |row u l=>simp only[hm]at g4;obtain⟨_,g7⟩:=V g4;obtain⟨_,_,g7⟩:=W g7;simp[O]at g7;subst g7;exact⟨by simp[Q],λm h=>by simp[h]⟩
     |sa n off len=>
      simp only at g4;cases hm:h n with
      |none=>simp[hm,aA]at g4
      |some k=>
       cases k with
       |row _ _=>simp[hm,aA]at g4
       |cells cs=>simp only[hm]at g4;obtain⟨_,g7⟩:=V g4;obtain⟨_,_,g7⟩:=W g7;obtain⟨_,g7⟩:=V g7;simp[O]at g7;subst g7;exact⟨by simp[Q],λm h=>by simp[h]⟩
     |_=>simp[aA]at g4
    have e2:=RG (e:=e) (c:=c') λm hm=>hh m (hrd.2 m hm);simp only[N,M.need,hn,d_,evC,hc,hc',X,e2,hl'];unfold Zy at g4⊢;cases c with
    |own n=>simp only[hh n (hrd.1 n (by simp[Q]))];exact g4
    |sa n off len=>simp only[hh n (hrd.1 n (by simp[Q]))];exact g4
    |_=>exact g4
  case invoke=>exact ha
 case makeFunc fn a b=>cases fn<;>exact ha
 all_goals exact ha
end
end Go.Ab
