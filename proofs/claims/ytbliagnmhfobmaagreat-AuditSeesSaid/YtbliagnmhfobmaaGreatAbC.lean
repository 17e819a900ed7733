/- Contracts of functions over values, and the calls by them. -/
import Derived.Test.YtbliagnmhfobmaaGreatAbB
import Derived.Below
namespace Go.Ab
variable {G:Sig}
def Sv.cells {T:Nat→Type}:Sv T→List (Cv T)
 | .p x=>x.cells
 | .tup xs=>xs.flatMap Pv.cells
def nso' {T:Nat→Type}:List (Cv T)→List Nat→List Nat
 | [],acc=>acc
 | .own n :: t,acc=>bif has acc n then nso' t acc else nso' t (acc++[n])
 | _ :: t,acc=>nso' t acc
def ne8':List Nat→Nat→Nat→Option Nat
 | [],_,_=>none
 | k :: t,n,i=>bif Nat.beq k n then some i else ne8' t n (i + 1)
def nr7' (hp:Nat→Option (Blk G.T)):List Nat→Nat→Option (List (Nat×Blk G.T))
 | [],_=>some []
 | n :: t,i=>match hp n,nr7' hp t (i + 1) with
  | some (.row u l),some r=>some ((i,.row u l) :: r)
  | _,_=>none
theorem nqe':∀ (l:List Nat) (n i m:Nat),ne8' l n i=some m→i≤m∧l[m - i]?=some n
 | [],n,i,m,h=>by simp [ne8'] at h
 | k :: t,n,i,m,h=>by
  simp only [ne8',nbn'] at h;by_cases e:k=n
  ·simp [e] at h; subst h; simp [e]
  ·rw [if_neg e] at h
   obtain ⟨h1,h2⟩:=nqe' t n (i + 1) m h;exact ⟨by omega,by rw [show m - i=(m - (i + 1)) + 1 by omega]; simpa using h2⟩
theorem nlw' {T:Nat→Type}:∀ (cs:List (Cv T)) (acc:List Nat),acc.Nodup→(nso' cs acc).Nodup
 | [],acc,h=>h
 | c :: t,acc,h=>by
  cases c with
  | own n=>
   simp only [nso'];cases hb:has acc n with
   | true=>exact nlw' t acc h
   | false=>
    refine nlw' t _ ?_
    have:n ∉ acc:=fun hm=>by rw [(nc7' acc n).2 hm] at hb; simp at hb
    rw [List.nodup_append];exact ⟨h,by simp,fun a ha b hb'=>by simp at hb'; subst hb'; exact fun e=>this (e ▸ ha)⟩
  | _=>exact nlw' t acc h
section
variable {ν ν':Nat→Option Value} {S:Nat→Prop} {h:Array Obj} {f:Nat→Option Nat} (hf:∀ n m x,f n=some m→ν n=some x→ν' m=some x)
include hf
end
theorem n9v' {ν ν':Nat→Option Value} {S:Nat→Prop} {h:Array Obj} {n m t:Nat} {l:List (G.T t)} (he:ν' m=ν n) (r:Rb G ν S h n (.row t l)):Rb G ν' S h m (.row t l):=by
 rcases r with ⟨h1,h2⟩ | ⟨b,cap,c,te,h1,h2⟩
 ·exact .inl ⟨he.trans h1,h2⟩
 ·exact .inr ⟨b,cap,c,te,he.trans h1,h2⟩
def Entr (P : Program) (g : Nat) : Prop := ∃ fn, P.funcs[g]? = some fn ∧ (fn.name == "runtime.NumGoroutine") = false ∧ fn.body.isNone = false
theorem ns1' {α:Type}:∀ (l:List α) (n k:Nat),get (zipN n l) k=if n≤k then l[k - n]? else none
 | [],n,k=>by simp [zipN,get]
 | x :: t,n,k=>by
  simp only [zipN,get,nbn',ns1' t (n + 1) k];by_cases e:n=k
  ·subst e; simp
  ·rw [if_neg e]
   by_cases h:n≤k
   ·rw [if_pos h,if_pos (by omega),show k - n=(k - (n + 1)) + 1 by omega]; simp
   ·rw [if_neg h,if_neg (by omega)]
end Go.Ab
namespace Go.Ab
variable {G:Sig}
def renP (g:Nat→Option Nat):List (Nat×Nat)→Option (List (Nat×Nat)):=mapO fun p=>match g p.1 with | some m=>some (m,p.2) | none=>none
def Cv.ren {T:Nat→Type} (f g:Nat→Option Nat):Cv T→Option (Cv T)
 | .own n=>match f n with | some m=>some (.own m) | none=>none
 | .ptr n off=>match g n with | some m=>some (.ptr m off) | none=>none
 | .clo k p q=>match renP g p,renP g q with | some p',some q'=>some (.clo k p' q') | _,_=>none
 | .np n t=>match g n with | some m=>some (.np m t) | none=>none
 | .sc v=>some (.sc v)
 | .ro t l=>some (.ro t l)
 | .rp t x o=>some (.rp t x o)
 | _=>none
def Pv.ren {T:Nat→Type} (f g:Nat→Option Nat):Pv T→Option (Pv T)
 | .one c=>match c.ren f g with | some c=>some (.one c) | none=>none
 | .agg cs=>match mapO (Cv.ren f g) cs with | some cs=>some (.agg cs) | none=>none
def Sv.ren {T:Nat→Type} (f g:Nat→Option Nat):Sv T→Option (Sv T)
 | .p x=>match x.ren f g with | some x=>some (.p x) | none=>none
 | .tup xs=>match mapO (Pv.ren f g) xs with | some xs=>some (.tup xs) | none=>none
def Cv.pts {T:Nat→Type}:Cv T→List Nat
 | .ptr n _=>[n]
 | .clo _ p q=>fstsP p++fstsP q
 | .np n _=>[n]
 | _=>[]
def Cv.ows {T:Nat→Type}:Cv T→List Nat
 | .own n=>[n]
 | _=>[]
def dedup:List Nat→List Nat→List Nat
 | [],acc=>acc
 | n :: t,acc=>bif has acc n then dedup t acc else dedup t (acc++[n])
def ptsA (args:List (Pv G.T)):List Nat:=dedup (args.flatMap fun p=>p.cells.flatMap Cv.pts) []
def inN (ns:List Nat) (n:Nat):Option Nat:=match ne8' ns n 0 with | some i=>some (lo + i) | none=>none
def outN (ns:List Nat) (n:Nat):Option Nat:=bif Nat.ble lo n then ns[n - lo]? else none
def rowN (ns:List Nat) (n:Nat):Option Nat:=bif Nat.blt n lo&&!has ns n then some n else none
def blkIn (ns:List Nat):Option (Blk G.T)→Option (Blk G.T)
 | some (.cells cs)=>match mapO (Cv.ren (rowN ns) (inN ns)) cs with | some cs=>some (.cells cs) | none=>none
 | _=>none
def rowIn:Option (Blk G.T)→Option (Blk G.T)
 | some (.row t l)=>some (.row t l)
 | _=>none
def ncv' (ns:List Nat) (h:Nat→Option (Blk G.T)) (n:Nat):Option (Blk G.T):=
 bif Nat.ble lo n then match ns[n - lo]? with | some m=>blkIn ns (h m) | none=>none
 else bif has ns n then none else rowIn (h n)
def flatC {T:Nat→Type}:Cv T→Bool
 | .ro _ _=>false
 | .rp _ _ _=>false
 | _=>true
def flatB (G:Sig):List (Nat×Blk G.T)→Bool
 | []=>true
 | (_,.row t _) :: r=>G.flat t&&flatB G r
 | (_,.cells _) :: _=>false
def n4r':List Nat→Bool
 | []=>true
 | _=>false
structure Tin (α:Type) where
 x:α
 olds:List Nat
 fz:List Nat
def nr4':Nat→List Nat→Bool
 | _,[]=>true
 | n,k :: t=>Nat.beq k n&&nr4' (n + 1) t
def takeI (I:Spec) (h1:Nat→Option (Blk G.T)) (k:Nat) (args:List (Pv G.T)):Option (Tin (I.T G)):=
 bif Nat.beq args.length I.tm.length&&Nat.beq k I.hp.length&&nr4' lo (keysH I.hp) then
  match nf4' h1 (zipN 0 (args.map .p)) I.tm,nge' h1 I.hp with
  | some a,some b=>
   bif I.tm.all (fun p=>p.2.fix (keysH I.hp))&&I.hp.all (fun p=>p.2.all (CSh.fix (keysH I.hp))) &&
    (nhj' (keysN (a.nm++b.nm)++keysH I.hp)&&allLt (keysN (a.nm++b.nm))&&nhj' (oldsN (a.nm++b.nm)++keysH I.hp)&&disjN (oldsN (a.nm++b.nm)++keysH I.hp) (a.fz++b.fz))
   then some ⟨(a.x,b.x),oldsN (a.nm++b.nm),a.fz++b.fz⟩ else none
  | _,_=>none
 else none
structure Fe (G:Sig) where
 I:Spec
 E:List (Ex×Spec)
 F:I.T G→Option (SumE G E)
 rs:List ResultVar
def n3u' (hp:Nat→Option (Blk G.T)):List Nat→Option (List (List (Cv G.T))):=mapO fun n=>match hp n with | some (.cells cs)=>some cs | _=>none
def outsP (I:Spec) (rs:List ResultVar) (p:Ex×St G):Option (Sv G.T×List (List (Cv G.T))):=match p.1 with
 | .exit _=>none
 | _=>match resS p.2 rs,n3u' (get p.2.hp) (keysH I.hp) with
  | some s,some bl=>some (s,bl)
  | _,_=>none
def zipB:List Nat→List (List (Cv G.T))→List (Nat×Blk G.T)
 | n :: ns,c :: cs=>(n,.cells c) :: zipB ns cs
 | _,_=>[]
def someD:List (Nat×Blk G.T)→List (Nat×Option (Blk G.T))
 | []=>[]
 | (n,k) :: t=>(n,some k) :: someD t
def ownOf (ns:List Nat) (h:Nat→Option (Blk G.T)) (args:List (Pv G.T)):List Nat:=
 args.flatMap (fun p=>p.cells.flatMap Cv.ows)++ns.flatMap fun n=>match h n with | some (.cells cs)=>cs.flatMap Cv.ows | _=>[]
def finP (ns:List Nat) (rd:List Nat) (nm:Nat) (olds fz:List Nat) (hp:Nat→Option (Blk G.T)) (s:Sv G.T) (bl:List (List (Cv G.T))):Option (Out G):=
 let ms:=nso' (s.cells++bl.flatten) []
 match nr7' hp ms nm,s.ren (fun n=>ne8' ms n nm) (outN ns),mapO (mapO (Cv.ren (fun n=>ne8' ms n nm) (outN ns))) bl with
 | some rows,some s',some bl'=>
  let flat:=n4r' fz||((s.cells++bl.flatten).all flatC&&flatB G rows)
  some ⟨some s',goneD (olds++bif flat then [] else fz)++someD (zipB ns bl'++rows),keysB rows,rd⟩
 | _,_,_=>none
section
variable (ns:List Nat) (h h1:Nat→Option (Blk G.T)) (nm:Nat) (rd:List Nat) (args:List (Pv G.T)) (g:Nat)
def endP (e:Fe G) (t:Tin (e.I.T G)) (p:Ex×St G):Option (Out G):=match outsP e.I e.rs p with
 | some sb=>finP ns rd nm t.olds t.fz (get p.2.hp) sb.1 sb.2
 | none=>none
def callP (e:Fe G) (t:Tin (e.I.T G)):M (Out G):=fun _ k=>(e.F t.x).bind fun y=>caseE e.E y fun p=>(endP ns nm rd e t p).bind k
def tryP:List (Nat×Fe G)→M (Out G)
 | []=>M.fail
 | p :: r=>fun R k=>bif Nat.beq p.1 g then match takeI p.2.I h1 ns.length args with
   | some t=>callP ns nm rd p.2 t R k
   | none=>tryP r R k
  else tryP r R k
end
def cfP (l:List (Nat×Fe G)):CallF G:=fun g args h nm=>
 M.bind (M.opt (mapO (Pv.ren (rowN (ptsA args)) (inN (ptsA args))) args)) fun args'=>
  M.bind (M.need (nhj' (ptsA args))) fun _=>
   tryP (ptsA args) (ncv' (ptsA args) h) nm (ptsA args++ownOf (ptsA args) h args) args' g l
def FnOK (P:Program) (G:Sig) (g:Nat) (e:Fe G):Prop:=Entr P g ∧
 ∀ (x:e.I.T G) (y:SumE G e.E) (p:Ex×St G) (s:Sv G.T) (bl:List (List (Cv G.T))),e.F x=some y→caseE e.E y some=some p→outsP e.I e.rs p=some (s,bl) →
 ∀ (ν:Nat→Option Value) (S mo:Nat→Prop) (w:World) (vals:List Value),HRel G ν S (fun b=>mo b∨w.heap.size≤b) (get (e.I.mk' x).hp) w→(∀ n,ν n ≠ none→n ∈ (e.I.mk' x).us) →
  vals.length=e.I.tm.length→(∀ k v,get (e.I.mk' x).tm k=some v→Rs G ν S w.heap v (vals.getD k undef)) →
  Calls P g vals.toArray w fun r w'=>∃ v ν' S',r=.returned v∧Rs G ν' S' w'.heap s v∧HRel G ν' S' (fun b=>mo b∨w.heap.size≤b) (get p.2.hp) w' ∧
   (∀ b,S b→S' b)∧(∀ b,S' b→S b∨mo b∨w.heap.size≤b)∧(∀ n y,lo≤n→ν n=some y→ν' n=some y) ∧
   w.heap.size≤w'.heap.size∧(∀ b,b < w.heap.size→¬ mo b→w'.heap[b]?=w.heap[b]?)∧(w'.os=w.os∧w'.tape=w.tape∧w'.output=w.output)
section
variable {P:Program} (ok:SigOK P G) (eqok:EqOK P G) {cf:CallF G} (cfok:CfOK P G cf) {drawn:Array Oper→St G→M (St G)}
 {lp:Nat→St G→M (Ex×St G)} {kl:Nat→List Nat} {jn:Nat→Option (List (Ex×Spec))}
include ok eqok cfok in
theorem n51' {g : Nat} {fn : Func} {body : Code} (hfn : P.funcs[g]? = some fn) (hname : (fn.name == "runtime.NumGoroutine") = false) (hbody : fn.body = some body) {e : Fe G} (hrs : fn.results.toList = e.rs) (hlen : e.I.tm.length ≤ fn.ntmps)
  (dok:DrawOK P G fn.ntmps drawn) (hl:∀ (k:Nat) c',(loops body)[k]?=some c'→LoopOK P G fn.ntmps (lp k) c')
  (hF:∀ x y,e.F x=some y→runC cf fn.ntmps drawn lp kl jn 0 body (e.I.mk' x) _ (fun p=>takeE e.E p.1 p.2)=some y):FnOK P G g e:=by
 refine ⟨⟨fn,hfn,hname,by rw [hbody]; rfl⟩,fun x y p s bl hy hp ho ν S mo w vals hheap hused hvl hslot=>?_⟩
 have hl0:∀ (k:Nat) c',(loops body)[k]?=some c'→LoopOK P G fn.ntmps (lp (0 + k)) c':=fun k c' hk=>by rw [Nat.zero_add]; exact hl k c' hk
 have hlaw:=nfu' cfok dok (kl:=kl) (jn:=jn) body 0 (e.I.mk' x) hl0;obtain ⟨⟨ex,st0⟩,h0,h2⟩:=hlaw.spec (hF x y hy)
 let cx:Cx:=⟨w,mo,S,fun n=>if lo≤n then ν n else none,fn.ntmps⟩
 have hnu:∀ n y,cx.nu0 n=some y→lo≤n:=fun n y h=>by
  simp only [cx] at h; split at h
  ·assumption
  ·cases h
 have hrel0:Rel G cx (e.I.mk' x) { tmps:=vals.toArray++Array.replicate (fn.ntmps - vals.toArray.size) undef,defers:=[] } w:=by
  refine ⟨ν,S,fun k t hk=>?_,hheap,hused,rfl,(by show _=fn.ntmps; simp; omega),Nat.le_refl _,fun _ _ _=>rfl,⟨rfl,rfl,rfl⟩,fun b hb=>.inl hb,fun _ h=>h,fun n z hn=>?_⟩
  ·have:=hslot k t hk
   have e1:(vals.toArray++Array.replicate (fn.ntmps - vals.toArray.size) undef).getD k undef=vals.getD k undef:=by
    by_cases hk:k < vals.length
    ·rw [Array.getD_eq_getD_getElem?,Array.getElem?_append_left (by simpa using hk)]; simp [hk]
    ·rw [Array.getD_eq_getD_getElem?,Array.getElem?_append_right (by simp; omega)]
     simp only [List.getD_eq_getElem?_getD];rw [List.getElem?_eq_none (by omega)]
     simp only [Array.getElem?_replicate];split <;> rfl
   rw [e1]; exact this
  ·simp only [cx] at hn
   split at hn
   ·exact hn
   ·cases hn
 refine calls_of_wp hfn hbody (ngw' ok eqok cfok dok (cx:=cx) rfl hnu body 0 _ st0 ex _ w _ hl0 h0 hrel0 fun e' a' w' he r''=>?_)
 obtain ⟨st',h3,ν',S',r'⟩:=nrg' hnu e.E h2 r'' some p hp;simp at h3; subst h3
 have hres:∃ s0,resS st' fn.results.toList=some s0∧s0=s∧∀ i,ex ≠ .exit i:=by
  rw [hrs];unfold outsP at ho;cases ex with
  | exit i=>simp at ho
  | normal=>
   simp only at ho;split at ho
   ·rename_i s1 b1 q1 q2; simp at ho; exact ⟨s1,q1,ho.1,by simp⟩
   ·simp at ho
  | ret=>
   simp only at ho;split at ho
   ·rename_i s1 b1 q1 q2; simp at ho; exact ⟨s1,q1,ho.1,by simp⟩
   ·simp at ho
 obtain ⟨s0,hs0,rfl,hex⟩:=hres;obtain ⟨v,hrun,hv⟩:=n42' ok r' hs0
 have hpost:bodyPost P fn (fun r w'=>∃ v ν' S',r=.returned v∧Rs G ν' S' w'.heap s0 v∧HRel G ν' S' (fun b=>mo b∨w.heap.size≤b) (get st'.hp) w' ∧
   (∀ b,S b→S' b)∧(∀ b,S' b→S b∨mo b∨w.heap.size≤b)∧(∀ n y,lo≤n→ν n=some y→ν' n=some y) ∧
   w.heap.size≤w'.heap.size∧(∀ b,b < w.heap.size→¬ mo b→w'.heap[b]?=w.heap[b]?)∧(w'.os=w.os∧w'.tape=w.tape∧w'.output=w.output)) .ret a' w':=
  ⟨r'.defers,v,hrun,v,ν',S',rfl,hv,r'.heap,r'.keep,r'.sub,fun n z hn hz=>r'.names n z (by simp only [cx]; rw [if_pos hn]; exact hz),r'.size,r'.frame,r'.env⟩
 cases ex with
 | normal=>rw [npe' he]; exact hpost
 | ret=>rw [nve' he]; exact hpost
 | exit i=>exact absurd rfl (hex i)
end
end Go.Ab
namespace Go.Ab
variable {G:Sig}
section
variable {ν ν1:Nat→Option Value} {S:Nat→Prop} {h:Array Obj} {f g:Nat→Option Nat}
theorem nw3' (hg:∀ n m x,g n=some m→ν n=some x→ν1 m=some x) {p:Nat×Nat} {m:Nat} (hm:g p.1=some m) {v:Value} (r:RPtr ν p v):RPtr ν1 (m,p.2) v:=by
 obtain ⟨b,h1,h2⟩:=r;exact ⟨b,hg _ _ _ hm h1,h2⟩
theorem n1h' (hg:∀ n m x,g n=some m→ν n=some x→ν1 m=some x) {p p':List (Nat×Nat)} (hp:renP g p=some p') {vs:List Value} (r:F2 (RPtr ν) p vs):F2 (RPtr ν1) p' vs:=by
 obtain ⟨h1,h2⟩:=nbh' _ _ hp;refine ⟨by rw [h1]; exact r.1,fun i x y hx hy=>?_⟩
 have hi:i < p.length:=by have:=(List.getElem?_eq_some_iff.1 hx).1; omega
 obtain ⟨z,hz,hfz⟩:=h2 i _ (List.getElem?_eq_getElem hi);rw [hx] at hz; cases hz;split at hfz
 ·rename_i m hm
  cases hfz;exact nw3' hg hm (r.2 i _ y (List.getElem?_eq_getElem hi) hy)
 ·cases hfz
variable (hf:∀ n m x,f n=some m→ν n=some x→ν1 m=some x) (hg:∀ n m x,g n=some m→ν n=some x→ν1 m=some x)
include hf hg
theorem n9w' {c c':Cv G.T} (hc:c.ren f g=some c') {v:Value} (r:Rc G ν S h c v):Rc G ν1 S h c' v:=by
 cases c with
 | own n=>
  simp only [Cv.ren] at hc;split at hc
  ·rename_i m hm
   cases hc;obtain ⟨a,len,cap,h1,h2⟩:=r;exact ⟨a,len,cap,hf n m _ hm h1,h2⟩
  ·cases hc
 | ptr n off=>
  simp only [Cv.ren] at hc;split at hc
  ·rename_i m hm
   cases hc;exact nw3' hg (p:=(n,off)) hm r
  ·cases hc
 | clo k p q=>
  simp only [Cv.ren] at hc;split at hc
  ·rename_i p' q' hp hq
   cases hc;obtain ⟨vp,vq,h1,h2,h3⟩:=r;exact ⟨vp,vq,h1,n1h' hg hp h2,n1h' hg hq h3⟩
  ·cases hc
 | np n t=>
  simp only [Cv.ren] at hc;split at hc
  ·rename_i m hm
   cases hc;exact r.imp (fun h=>h) (nw3' hg (p:=(n,0)) hm)
  ·cases hc
 | sc v=>cases hc; exact r
 | ro t l=>cases hc; exact r
 | rp t x o=>cases hc; exact r
 | pd _ _ _ _ _=>cases hc
 | pr _ _ _ _=>cases hc
 | sa _ _ _=>cases hc
omit hf hg in
theorem n6i' {f g:Nat→Option Nat} {cs cs':List (Cv G.T)} (hc:mapO (Cv.ren f g) cs=some cs') {m t:Nat} (hm:Cv.np m t ∈ cs'):∃ m0,Cv.np m0 t ∈ cs∧g m0=some m:=by
 obtain ⟨m1,m2⟩:=nbh' _ _ hc;obtain ⟨i,hi⟩:=List.mem_iff_getElem?.1 hm;have hi':i < cs.length:=by have:=(List.getElem?_eq_some_iff.1 hi).1; omega
 obtain ⟨z,hz,hfz⟩:=m2 i _ (List.getElem?_eq_getElem hi');rw [hi] at hz; cases hz;have hmem:cs[i] ∈ cs:=List.getElem_mem hi';generalize cs[i]=c at hfz hmem;cases c with
 | np n tt=>
  simp only [Cv.ren] at hfz;split at hfz
  ·rename_i q hq
   cases hfz;exact ⟨n,hmem,hq⟩
  ·cases hfz
 | own n=>simp only [Cv.ren] at hfz; split at hfz <;> cases hfz
 | ptr n off=>simp only [Cv.ren] at hfz; split at hfz <;> cases hfz
 | clo k p q=>simp only [Cv.ren] at hfz; split at hfz <;> cases hfz
 | sc v=>cases hfz
 | ro t l=>cases hfz
 | rp t x o=>cases hfz
 | pd _ _ _ _ _=>cases hfz
 | pr _ _ _ _=>cases hfz
 | sa _ _ _=>cases hfz
theorem nzw' {cs cs':List (Cv G.T)} (hc:mapO (Cv.ren f g) cs=some cs') {vs:List Value} (r:F2 (Rc G ν S h) cs vs):F2 (Rc G ν1 S h) cs' vs:=by
 obtain ⟨m1,m2⟩:=nbh' _ _ hc;refine ⟨by rw [m1]; exact r.1,fun i x y hx hy=>?_⟩
 have hi:i < cs.length:=by have:=(List.getElem?_eq_some_iff.1 hx).1; omega
 obtain ⟨z,hz,hfz⟩:=m2 i _ (List.getElem?_eq_getElem hi);rw [hx] at hz; cases hz;exact n9w' hf hg hfz (r.2 i _ y (List.getElem?_eq_getElem hi) hy)
theorem n9c' {x x':Pv G.T} (hc:x.ren f g=some x') {v:Value} (r:Rp G ν S h x v):Rp G ν1 S h x' v:=by
 cases r with
 | one c v hrc=>
  simp only [Pv.ren] at hc;split at hc
  ·rename_i c' hc'; cases hc; exact .one _ _ (n9w' hf hg hc' hrc)
  ·cases hc
 | agg cs vs hrc=>
  simp only [Pv.ren] at hc;split at hc
  ·rename_i cs' hcs; cases hc; exact .agg _ _ (nzw' hf hg hcs hrc)
  ·cases hc
theorem n6e' {xs xs':List (Pv G.T)} (hc:mapO (Pv.ren f g) xs=some xs') {vs:List Value} (r:F2 (Rp G ν S h) xs vs):F2 (Rp G ν1 S h) xs' vs:=by
 obtain ⟨m1,m2⟩:=nbh' _ _ hc;refine ⟨by rw [m1]; exact r.1,fun i x y hx hy=>?_⟩
 have hi:i < xs.length:=by have:=(List.getElem?_eq_some_iff.1 hx).1; omega
 obtain ⟨z,hz,hfz⟩:=m2 i _ (List.getElem?_eq_getElem hi);rw [hx] at hz; cases hz;exact n9c' hf hg hfz (r.2 i _ y (List.getElem?_eq_getElem hi) hy)
theorem nbgc' {x x':Sv G.T} (hc:x.ren f g=some x') {v:Value} (r:Rs G ν S h x v):Rs G ν1 S h x' v:=by
 cases r with
 | p c v hrc=>
  simp only [Sv.ren] at hc;split at hc
  ·rename_i c' hc'; cases hc; exact .p _ _ (n9c' hf hg hc' hrc)
  ·cases hc
 | tup cs vs hrc=>
  simp only [Sv.ren] at hc;split at hc
  ·rename_i cs' hcs; cases hc; exact .tup _ _ (n6e' hf hg hcs hrc)
  ·cases hc
end
structure TakeC (I:Spec) (nm:List (Nat×Option Nat)) (fz:List Nat):Prop where
 tm:I.tm.all (fun p=>p.2.fix (keysH I.hp))=true
 hp:I.hp.all (fun p=>p.2.all (CSh.fix (keysH I.hp)))=true
 keys:(keysN nm++keysH I.hp).Nodup
 low:∀ n ∈ keysN nm,n < lo
 olds:(oldsN nm++keysH I.hp).Nodup
 disj:∀ n ∈ oldsN nm++keysH I.hp,n ∉ fz
theorem nbcw' {I:Spec} {h1:Nat→Option (Blk G.T)} {tm:List (Nat×Sv G.T)} {a:Tk (TmT G I.tm)} {b:Tk (HpT G I.hp)} (hta:nf4' h1 tm I.tm=some a) (htb:nge' h1 I.hp=some b)
  (hc:TakeC I (a.nm++b.nm) (a.fz++b.fz)) {ν:Nat→Option Value} {S B:Nat→Prop} {w:World} (hr:HRel G ν S B h1 w) {f:Nat→Value} (hs:∀ k s,get tm k=some s→Rs G ν S w.heap s (f k)) :
  ∃ ν' S',(∀ k v,get (I.mk' (a.x,b.x)).tm k=some v→Rs G ν' S' w.heap v (f k))∧HRel G ν' S' B (get (I.mk' (a.x,b.x)).hp) w∧(∀ n,ν' n ≠ none→n ∈ (I.mk' (a.x,b.x)).us) ∧
   (∀ n ∈ keysH I.hp,ν' n=ν n∧∃ cs,h1 n=some (.cells cs))∧(∀ c,S' c↔S c∨∃ n ∈ a.fz++b.fz,h1 n ≠ none∧∃ y,ν n=some y∧blkOf y=some c) ∧
   (∀ n y c,get (I.mk' (a.x,b.x)).hp n ≠ none→ν' n=some y→blkOf y=some c→∃ m,ν m=some y∧h1 m ≠ none∧(m ∈ oldsN (a.nm++b.nm)∨m ∈ keysH I.hp)) ∧
   (∀ n ∈ oldsN (a.nm++b.nm),h1 n ≠ none):=by
 generalize hρ:a.nm++b.nm=ρ at hc ⊢;generalize hfz:a.fz++b.fz=fz at hc ⊢;have d3:=List.nodup_append.1 hc.keys;have d5:=List.nodup_append.1 hc.olds
 let ν':Nat→Option Value:=fun n=>match get ρ n with
  | some (some m)=>ν m
  | some none=>some (.slice none 0 0)
  | none=>if n ∈ keysH I.hp then ν n else none
 let S':Nat→Prop:=fun c=>S c∨∃ n ∈ fz,h1 n ≠ none∧∃ y,ν n=some y∧blkOf y=some c
 have hown:∀ p ∈ ρ,ν' p.1=match p.2 with | some n=>ν n | none=>some (.slice none 0 0):=by
  intro p hp;simp only [ν',n6p' d3.1 hp];cases p.2 <;> rfl
 have hno:∀ n,n ∉ keysN ρ→get ρ n=none:=by
  intro n hn;cases hg:get ρ n with
  | none=>rfl
  | some o=>exact absurd (nn6' (nhq' hg)) hn
 have hkeep:∀ n ∈ keysH I.hp,ν' n=ν n:=by
  intro n hn
  have:get ρ n=none:=hno n fun hm=>d3.2.2 n hm n hn rfl
  simp only [ν',this];rw [if_pos hn]
 have rn:Ren ν ν' S S' h1 (keysH I.hp) ρ fz:=⟨hown,hkeep,fun n hn hh y c hy hb=>.inr ⟨n,hn,hh,y,hy,hb⟩,fun c hb=>.inl hb⟩
 rw [← hρ,← hfz] at rn;obtain ⟨g1,g2⟩:=nqv' hr hs I.tm a hta hc.tm rn.left;obtain ⟨g3,g4,g5,g6⟩:=nqq' hr I.hp b htb (fun _ h=>h) hc.hp rn.right
 have hkeys:keysB (blkTm I.tm a.x++(blkHp I.hp b.x++nfk' I.hp b.x))=keysN ρ++keysH I.hp:=by
  rw [ndp',ndp',g2.2.1,g6.2.1,g4,← hρ,np9',List.append_assoc]
 have holds:∀ m n,(n,some m) ∈ ρ→h1 m ≠ none:=by
  intro m n ho;rw [← hρ] at ho;rcases List.mem_append.1 ho with ho | ho
  ·exact g2.2.2 _ ho m rfl
  ·exact g6.2.2 _ ho m rfl
 have hsrc:∀ n y c,get (blkTm I.tm a.x++(blkHp I.hp b.x++nfk' I.hp b.x)) n ≠ none→ν' n=some y→blkOf y=some c →
   ∃ m,ν m=some y∧h1 m ≠ none∧((n,some m) ∈ ρ∨(n ∈ keysH I.hp∧m=n)):=by
  intro n y c hn hy hb;obtain ⟨k,hk⟩:=Option.ne_none_iff_exists'.1 hn;have hm:=nq7' (nhq' hk);rw [hkeys] at hm;rcases List.mem_append.1 hm with hm | hm
  ·obtain ⟨o,ho⟩:=n1g' hm
   have h1':=hown _ ho;simp only at h1';cases o with
   | none=>rw [hy] at h1'; simp at h1'; subst h1'; simp [blkOf] at hb
   | some m=>exact ⟨m,by rw [← hy,h1'],holds m n ho,.inl ho⟩
  ·refine ⟨n,by rw [← hkeep n hm]; exact hy,?_,.inr ⟨hm,rfl⟩⟩
   obtain ⟨cs,hcs⟩:=g5 n hm;rw [hcs]; simp
 refine ⟨ν',S',g1,⟨fun n k hk=>?_,fun n m y z c h1 h2 h3 h4 h5 h6=>?_,fun n y c h1 h2 h3=>?_,fun c hb=>?_,hr.gl.mono (fun _ h=>.inl h) fun _ _=>rfl⟩,fun n hn=>?_,fun n hn=>⟨hkeep n hn,g5 n hn⟩,fun _=>Iff.rfl,fun n y c hn hy hb=>?_,fun n hn=>?_⟩
 ·have hm:=nhq' hk
  rcases List.mem_append.1 hm with hm | hm
  ·exact g2.1 _ hm
  ·rcases List.mem_append.1 hm with hm | hm
   ·exact g6.1 _ hm
   ·exact g3 _ hm
 ·obtain ⟨n1,q1,q2,q3⟩:=hsrc n y c h1 h3 h5
  obtain ⟨n2,p1,p2,p3⟩:=hsrc m z c h2 h4 h6;have e:=hr.apart n1 n2 y z c q2 p2 q1 p1 h5 h6;subst e;rcases q3 with q3 | ⟨q3,q4⟩ <;> rcases p3 with p3 | ⟨p3,p4⟩
  ·exact n4s' d5.1 q3 p3
  ·exact absurd rfl (d5.2.2 n1 (nfh' q3) n1 (by rw [p4]; exact p3))
  ·exact absurd rfl (d5.2.2 n1 (nfh' p3) n1 (by rw [q4]; exact q3))
  ·exact q4.symm.trans p4
 ·obtain ⟨n1,q1,q2,q3⟩:=hsrc n y c h1 h2 h3
  obtain ⟨o1,o2⟩:=hr.own n1 y c q2 q1 h3;refine ⟨?_,o2⟩;rintro (hS | ⟨m,hm,hmh,z,hz,hbz⟩)
  ·exact o1 hS
  ·have e:=hr.apart n1 m y z c q2 hmh q1 hz h3 hbz
   subst e;refine hc.disj n1 (List.mem_append.2 ?_) hm;rcases q3 with q3 | ⟨q3,q4⟩
   ·exact .inl (nfh' q3)
   ·exact .inr (by rw [q4]; exact q3)
 ·rcases hb with hb | ⟨m,hm,hmh,z,hz,hbz⟩
  ·exact hr.stay c hb
  ·exact hr.lt hmh hz hbz
 ·show n ∈ keysB _++I.us
  rw [hkeys];cases hg:get ρ n with
  | some o=>simp [nn6' (nhq' hg)]
  | none=>
   simp only [ν',hg] at hn;by_cases hc:n ∈ keysH I.hp
   ·simp [hc]
   ·rw [if_neg hc] at hn; simp at hn
 ·obtain ⟨m,q1,q2,q3⟩:=hsrc n y c hn hy hb
  refine ⟨m,q1,q2,?_⟩;rcases q3 with q3 | ⟨q3,q4⟩
  ·exact .inl (nfh' q3)
  ·exact .inr (by rw [q4]; exact q3)
 ·have:∃ m,(m,some n) ∈ ρ:=by
   clear hown hno hkeep rn hkeys hsrc d3 d5 g1 g2 g3 g4 g5 g6 hc holds hρ
   induction ρ with
   | nil=>simp [oldsN] at hn
   | cons p t ih=>
    obtain ⟨k,o⟩:=p;cases o with
    | none=>simp only [oldsN] at hn; obtain ⟨m,hm⟩:=ih hn; exact ⟨m,by simp [hm]⟩
    | some j=>
     simp only [oldsN,List.mem_cons] at hn;rcases hn with rfl | hn
     ·exact ⟨k,by simp⟩
     ·obtain ⟨m,hm⟩:=ih hn; exact ⟨m,by simp [hm]⟩
  obtain ⟨m,hm⟩:=this;exact holds n m hm
end Go.Ab
namespace Go.Ab
variable {G:Sig}
theorem nwf' (h:Nat→Option (Blk G.T)):∀ (d e:List (Nat×Option (Blk G.T))),appD h (d++e)=appD (appD h d) e
 | [],e=>rfl
 | p :: d,e=>by
  obtain ⟨n,k⟩:=p;simp only [List.cons_append,appD];exact nwf' _ d e
theorem n0i':∀ (r:List (Nat×Blk G.T)) (h:Nat→Option (Blk G.T)) (n:Nat),(keysB r).Nodup→appD h (someD r) n=match get r n with | some k=>some k | none=>h n
 | [],h,n,_=>rfl
 | (m,k) :: t,h,n,hn=>by
  simp only [keysB,List.nodup_cons] at hn;simp only [someD,appD,n0i' t _ n hn.2,get,nbn'];by_cases e:m=n
  ·subst e
   rw [if_pos rfl];cases hg:get t m with
   | none=>simp
   | some k'=>exact absurd (nq7' (nhq' hg)) hn.1
  ·rw [if_neg e]
   cases get t n with
   | none=>simp [e]
   | some k'=>simp [e]
theorem nxu' {α:Type}:∀ (a b:List (Nat×α)) (n:Nat),get (a++b) n=match get a n with | some k=>some k | none=>get b n
 | [],_,_=>rfl
 | (m,k) :: t,b,n=>by
  simp only [List.cons_append,get,nbn',nxu' t b n];by_cases e:m=n <;> simp [e]
theorem n20':∀ (ns:List Nat) (cs:List (List (Cv G.T))) (n:Nat) (k:Blk G.T),get (zipB ns cs) n=some k→∃ (i:Nat) (c:List (Cv G.T)),ns[i]?=some n∧cs[i]?=some c∧k=.cells c
 | [],_,n,k,h=>by simp [zipB,get] at h
 | _ :: _,[],n,k,h=>by simp [zipB,get] at h
 | m :: ns,c :: cs,n,k,h=>by
  simp only [zipB,get,nbn'] at h;by_cases e:m=n
  ·rw [if_pos e] at h; cases h; exact ⟨0,c,by simp [e],rfl,rfl⟩
  ·rw [if_neg e] at h
   obtain ⟨i,c',h1,h2,h3⟩:=n20' ns cs n k h;exact ⟨i + 1,c',by simpa using h1,by simpa using h2,h3⟩
theorem nua':∀ (ns:List Nat) (cs:List (List (Cv G.T))),cs.length=ns.length→keysB (zipB ns cs)=ns
 | [],[],_=>rfl
 | [],_ :: _,h=>by simp at h
 | _ :: _,[],h=>by simp at h
 | m :: ns,c :: cs,h=>by simp only [zipB,keysB,nua' ns cs (by simpa using h)]
theorem nwc' {hp:Nat→Option (Blk G.T)}:∀ (l:List Nat) (i:Nat) (r:List (Nat×Blk G.T)),nr7' hp l i=some r→(∀ n,n ∈ keysB r↔i≤n∧n < i + l.length)∧(keysB r).Nodup ∧
  ∀ j m,l[j]?=some m→∃ u l',hp m=some (.row u l')∧get r (i + j)=some (.row u l')
 | [],i,r,h=>by
  simp [nr7'] at h; subst h;exact ⟨fun n=>by simp [keysB]; try omega,by simp [keysB],fun j m hm=>by simp at hm⟩
 | m :: t,i,r,h=>by
  simp only [nr7'] at h;split at h
  ·rename_i u l r' hn hr
   cases h;obtain ⟨h1,h2,h3⟩:=nwc' t (i + 1) r' hr;refine ⟨fun n=>?_,?_,fun j m' hm=>?_⟩
   ·simp only [keysB,List.mem_cons,h1,List.length_cons]; omega
   ·simp only [keysB,List.nodup_cons]; exact ⟨fun hm=>by have:=(h1 i).1 hm; omega,h2⟩
   ·cases j with
    | zero=>simp at hm; subst hm; exact ⟨u,l,hn,by simp [get]⟩
    | succ j=>
     obtain ⟨u',l',q1,q2⟩:=h3 j m' (by simpa using hm)
     refine ⟨u',l',q1,?_⟩;simp only [get,nbn'];rw [if_neg (by omega),show i + (j + 1)=i + 1 + j by omega]; exact q2
  ·cases h
theorem ny0':∀ (r:List (Nat×Blk G.T)) (n:Nat) (k:Blk G.T),flatB G r=true→get r n=some k→∃ t l,k=.row t l∧G.flat t=true
 | [],n,k,_,h=>by simp [get] at h
 | (m,.cells cs) :: t,n,k,h,_=>by simp [flatB] at h
 | (m,.row u l) :: t,n,k,h,hg=>by
  simp only [flatB,Bool.and_eq_true] at h;simp only [get,nbn'] at hg;by_cases e:m=n
  ·rw [if_pos e] at hg; cases hg; exact ⟨u,l,rfl,h.1⟩
  ·rw [if_neg e] at hg; exact ny0' t n k h.2 hg
theorem nzb' {ν:Nat→Option Value} {S S':Nat→Prop} {h:Array Obj} {c:Cv G.T} {v:Value} (hf:flatC c=true) (r:Rc G ν S h c v):Rc G ν S' h c v:=by
 cases c with
 | sc v0=>
  have r':Rd G S h (.sc v0) v:=r;cases r' with
  | sc _ hsc=>exact Rd.sc _ hsc
 | ro t l=>simp [flatC] at hf
 | rp t x o=>simp [flatC] at hf
 | ptr _ _=>exact r
 | pd _ _ _ _ _=>exact r
 | pr _ _ _ _=>exact r
 | own _=>exact r
 | clo _ _ _=>exact r
 | np _ _=>exact r
 | sa _ _ _=>exact r
theorem n60' {ν:Nat→Option Value} {S S':Nat→Prop} {h:Array Obj} {x:Pv G.T} {v:Value} (hf:∀ c ∈ x.cells,flatC c=true) (r:Rp G ν S h x v):Rp G ν S' h x v:=by
 cases r with
 | one c v hc=>exact .one _ _ (nzb' (hf c (by simp [Pv.cells])) hc)
 | agg cs vs hc=>exact .agg _ _ ⟨hc.1,fun i a b ha hb=>nzb' (hf a (List.mem_of_getElem? ha)) (hc.2 i a b ha hb)⟩
theorem n6s' {ν:Nat→Option Value} {S S':Nat→Prop} {h:Array Obj} {x:Sv G.T} {v:Value} (hf:∀ c ∈ x.cells,flatC c=true) (r:Rs G ν S h x v):Rs G ν S' h x v:=by
 cases r with
 | p x v hc=>exact .p _ _ (n60' hf hc)
 | tup xs vs hc=>exact .tup _ _ ⟨hc.1,fun i a b ha hb=>n60' (fun c hm=>hf c (List.mem_flatMap.2 ⟨a,List.mem_of_getElem? ha,hm⟩)) (hc.2 i a b ha hb)⟩
theorem nit' {a b:Nat}:Nat.ble a b=true↔a≤b:=by simp
theorem nrn':∀ {n:Nat} {l:List Nat},nr4' n l=true→∀ i k,l[i]?=some k→k=n + i
 | n,[],_,i,k,h=>by simp at h
 | n,m :: t,h,i,k,hk=>by
  simp only [nr4',Bool.and_eq_true,nw'] at h;cases i with
  | zero=>simp at hk; omega
  | succ i=>have:=nrn' h.2 i k (by simpa using hk); omega
theorem n8o' {I:Spec} {h1:Nat→Option (Blk G.T)} {k:Nat} {args:List (Pv G.T)} {t:Tin (I.T G)} (h:takeI I h1 k args=some t) :
  args.length=I.tm.length∧(keysH I.hp).length=k∧(∀ i n,(keysH I.hp)[i]?=some n→n=lo + i)∧∃ a b,nf4' h1 (zipN 0 (args.map .p)) I.tm=some a∧nge' h1 I.hp=some b∧TakeC I (a.nm++b.nm) (a.fz++b.fz)∧t=⟨(a.x,b.x),oldsN (a.nm++b.nm),a.fz++b.fz⟩:=by
 unfold takeI at h;have hl:∀ l:List (Nat×List CSh),(keysH l).length=l.length:=by intro l; induction l with | nil=>rfl | cons p t ih=>simp [keysH,ih]
 cases hb:Nat.beq args.length I.tm.length&&Nat.beq k I.hp.length&&nr4' lo (keysH I.hp) with
 | false=>rw [hb] at h; cases h
 | true=>
  rw [hb] at h;simp only [Bool.and_eq_true,nw'] at hb;obtain ⟨hb,c7⟩:=hb;simp only [cond_true] at h;split at h
  ·rename_i a b ha hb'
   generalize hc:(I.tm.all (fun p=>p.2.fix (keysH I.hp))&&I.hp.all (fun p=>p.2.all (CSh.fix (keysH I.hp))) &&
    (nhj' (keysN (a.nm++b.nm)++keysH I.hp)&&allLt (keysN (a.nm++b.nm))&&nhj' (oldsN (a.nm++b.nm)++keysH I.hp)&&disjN (oldsN (a.nm++b.nm)++keysH I.hp) (a.fz++b.fz)))=c at h
   cases c with
   | false=>cases h
   | true=>
    cases h;simp only [Bool.and_eq_true] at hc;obtain ⟨⟨c1,c2⟩,⟨⟨c3,c4⟩,c5⟩,c6⟩:=hc;exact ⟨hb.1,by rw [hl]; exact hb.2.symm,fun i n=>nrn' c7 i n,a,b,ha,hb',⟨c1,c2,nh2' c3,nte' c4,nh2' c5,nsz' c6⟩,rfl⟩
  ·cases h
theorem nbc5' (ns:List Nat) (nm:Nat) (rd:List Nat) (e:Fe G) (t:Tin (e.I.T G)):Law (callP ns nm rd e t):=by
 intro R k;unfold callP;cases e.F t.x with
 | none=>rfl
 | some y=>
  show caseE e.E y (fun p=>(endP ns nm rd e t p).bind k)=(caseE e.E y (fun p=>(endP ns nm rd e t p).bind some)).bind k
  rw [nkq',nkq' e.E y (fun p=>(endP ns nm rd e t p).bind some)]
  cases caseE e.E y some with
  | none=>rfl
  | some p=>
   show (endP ns nm rd e t p).bind k=((endP ns nm rd e t p).bind some).bind k;cases endP ns nm rd e t p <;> rfl
theorem nym' {ns:List Nat} {nm:Nat} {rd:List Nat} {e:Fe G} {t:Tin (e.I.T G)} {out:Out G} (h:callP ns nm rd e t _ some=some out) :
  ∃ y p s bl,e.F t.x=some y∧caseE e.E y some=some p∧outsP e.I e.rs p=some (s,bl)∧finP ns rd nm t.olds t.fz (get p.2.hp) s bl=some out:=by
 unfold callP at h;cases hy:e.F t.x with
 | none=>rw [hy] at h; cases h
 | some y=>
  rw [hy] at h;have h:caseE e.E y (fun p=>(endP ns nm rd e t p).bind some)=some out:=h
  rw [nkq'] at h;cases hp:caseE e.E y some with
  | none=>rw [hp] at h; cases h
  | some p=>
   rw [hp] at h;have h:(endP ns nm rd e t p).bind some=some out:=h;unfold endP at h;cases ho:outsP e.I e.rs p with
   | none=>rw [ho] at h; cases h
   | some sb=>
    rw [ho] at h;simp only [Option.bind_fun_some] at h;exact ⟨y,p,sb.1,sb.2,rfl,hp,ho,h⟩
theorem nwk' (ns:List Nat) (h1:Nat→Option (Blk G.T)) (nm:Nat) (rd:List Nat) (args:List (Pv G.T)) (g:Nat):∀ l,Law (tryP ns h1 nm rd args g l)
 | []=>ni'
 | p :: r=>by
  intro R k;have ih:=nwk' ns h1 nm rd args g r R k;simp only [tryP];cases Nat.beq p.1 g with
  | false=>exact ih
  | true=>
   simp only [cond_true];cases takeI p.2.I h1 ns.length args with
   | none=>exact ih
   | some t=>exact nbc5' ns nm rd p.2 t R k
theorem nq0' {ns:List Nat} {h1:Nat→Option (Blk G.T)} {nm:Nat} {rd:List Nat} {args:List (Pv G.T)} {g:Nat}:∀ {l:List (Nat×Fe G)} {out:Out G},tryP ns h1 nm rd args g l _ some=some out →
  ∃ p ∈ l,p.1=g∧∃ t,takeI p.2.I h1 ns.length args=some t∧callP ns nm rd p.2 t _ some=some out
 | [],out,h=>by simp [tryP,M.fail] at h
 | p :: r,out,h=>by
  simp only [tryP] at h;cases hb:Nat.beq p.1 g with
  | false=>
   rw [hb] at h;obtain ⟨q,hq,h2⟩:=nq0' (l:=r) h;exact ⟨q,by simp [hq],h2⟩
  | true=>
   rw [hb] at h;simp only [cond_true] at h;split at h
   ·rename_i t ht
    exact ⟨p,by simp,nw'.1 hb,t,ht,h⟩
   ·obtain ⟨q,hq,h2⟩:=nq0' (l:=r) h
    exact ⟨q,by simp [hq],h2⟩
theorem n0s' {ns rd:List Nat} {nm:Nat} {olds fz:List Nat} {hp:Nat→Option (Blk G.T)} {s:Sv G.T} {bl:List (List (Cv G.T))} {out:Out G} (h:finP ns rd nm olds fz hp s bl=some out) :
  ∃ ms rows s' bl',nr7' hp ms nm=some rows∧s.ren (fun n=>ne8' ms n nm) (outN ns)=some s'∧mapO (mapO (Cv.ren (fun n=>ne8' ms n nm) (outN ns))) bl=some bl'∧ms.Nodup ∧
   ∃ fz',out=⟨some s',goneD (olds++fz')++someD (zipB ns bl'++rows),keysB rows,rd⟩∧(fz'=fz∨(fz'=[]∧(∀ c ∈ s.cells++bl.flatten,flatC c=true)∧flatB G rows=true)∨fz=[])∧(∀ n ∈ fz',n ∈ fz):=by
 unfold finP at h;simp only at h;split at h
 ·rename_i rows s' bl' h1 h2 h3
  refine ⟨_,rows,s',bl',h1,h2,h3,nlw' _ _ (by simp),_,(Option.some.inj h).symm,?_⟩
  cases hfl:(n4r' fz||((s.cells++bl.flatten).all flatC&&flatB G rows)) with
  | false=>exact ⟨.inl rfl,fun n hn=>hn⟩
  | true=>
   refine ⟨.inr ?_,fun n hn=>by simp at hn⟩
   simp only [Bool.or_eq_true,Bool.and_eq_true] at hfl;rcases hfl with hfl | ⟨h8,h9⟩
   ·exact .inr (by cases fz with | nil=>rfl | cons a t=>simp [n4r'] at hfl)
   ·exact .inl ⟨rfl,List.all_eq_true.1 h8,h9⟩
 ·cases h
theorem n3y' {ns:List Nat} {n m:Nat} (h:inN ns n=some m):lo≤m∧ns[m - lo]?=some n:=by
 unfold inN at h;split at h
 ·rename_i i hi
  cases h;obtain ⟨_,h2⟩:=nqe' ns n 0 i hi;exact ⟨by omega,by rw [Nat.add_sub_cancel_left]; simpa using h2⟩
 ·cases h
theorem n0w' {ns:List Nat} {n m:Nat} (h:rowN ns n=some m):m=n∧n < lo∧n ∉ ns:=by
 unfold rowN at h;cases hb:(Nat.blt n lo&&!has ns n) with
 | false=>rw [hb] at h; cases h
 | true=>
  rw [hb] at h;simp only [Bool.and_eq_true,Nat.blt_eq,Bool.not_eq_true'] at hb;cases h;exact ⟨rfl,hb.1,fun hm=>by rw [(nc7' ns n).2 hm] at hb; simp at hb⟩
theorem n0t' {ns:List Nat} {n m:Nat} (h:outN ns n=some m):lo≤n∧ns[n - lo]?=some m:=by
 unfold outN at h;cases hb:Nat.ble lo n with
 | false=>rw [hb] at h; cases h
 | true=>rw [hb] at h; exact ⟨nit'.1 hb,h⟩
def nuIn (ns:List Nat) (ν:Nat→Option Value) (n:Nat):Option Value:=
 if lo≤n then match ns[n - lo]? with | some m=>ν m | none=>none else if n ∈ ns then none else ν n
theorem n6g' {ns:List Nat} {ν:Nat→Option Value} {n m:Nat} {x:Value} (h:inN ns n=some m) (hx:ν n=some x):nuIn ns ν m=some x:=by
 obtain ⟨h1,h2⟩:=n3y' h;simp only [nuIn,if_pos h1,h2,hx]
theorem n28' {ns:List Nat} {ν:Nat→Option Value} {n m:Nat} {x:Value} (h:rowN ns n=some m) (hx:ν n=some x):nuIn ns ν m=some x:=by
 obtain ⟨rfl,h2,h3⟩:=n0w' h;simp only [nuIn]; rw [if_neg (by omega),if_neg h3]; exact hx
theorem npo' {ns:List Nat} {h:Nat→Option (Blk G.T)} {ν:Nat→Option Value} {n:Nat} (hn:ncv' ns h n ≠ none) :
  ∃ m,nuIn ns ν n=ν m∧h m ≠ none∧((lo≤n∧ns[n - lo]?=some m)∨(n < lo∧m=n∧n ∉ ns)):=by
 unfold ncv' at hn;cases hb:Nat.ble lo n with
 | true=>
  have hl:=nit'.1 hb;rw [hb] at hn;simp only [cond_true] at hn;split at hn
  ·rename_i m hm
   refine ⟨m,by simp only [nuIn,if_pos hl,hm],fun e=>hn (by rw [e]; rfl),.inl ⟨hl,hm⟩⟩
  ·exact absurd rfl hn
 | false=>
  have hl:n < lo:=by
   rcases Nat.lt_or_ge n lo with h | h
   ·exact h
   ·rw [nit'.2 h] at hb; cases hb
  rw [hb] at hn;simp only [cond_false] at hn;cases hc:has ns n with
  | true=>rw [hc] at hn; exact absurd rfl hn
  | false=>
   have hni:n ∉ ns:=fun hm=>by rw [(nc7' ns n).2 hm] at hc; cases hc
   rw [hc] at hn;simp only [cond_false] at hn;refine ⟨n,by simp only [nuIn]; rw [if_neg (by omega),if_neg hni],fun e=>hn (by rw [e]; rfl),.inr ⟨hl,rfl,hni⟩⟩
theorem n8z' {ns:List Nat} (hns:ns.Nodup) {h:Nat→Option (Blk G.T)} {ν:Nat→Option Value} {S B:Nat→Prop} {w:World} (hr:HRel G ν S B h w):HRel G (nuIn ns ν) S B (ncv' ns h) w:=by
 refine ⟨fun n k hk=>?_,fun n m x y b h1 h2 h3 h4 h5 h6=>?_,fun n x b h1 h2 h3=>?_,hr.stay,hr.gl⟩
 ·unfold ncv' at hk
  cases hb:Nat.ble lo n with
  | true=>
   have hl:=nit'.1 hb;rw [hb] at hk;simp only [cond_true] at hk;split at hk
   ·rename_i m hm
    unfold blkIn at hk;split at hk
    ·rename_i cs hcs
     split at hk
     ·rename_i cs' hcs'
      cases hk;obtain ⟨b,c,te,q1,q2,q3,q4⟩:=hr.blk m _ hcs;refine ⟨b,c,te,by simp only [nuIn,if_pos hl,hm,q1],q2,nzw' (fun n m x=>n28') (fun n m x=>n6g') hcs' q3,fun m1 t1 hm1=>?_⟩
      obtain ⟨m0,r1,r2⟩:=n6i' hcs' hm1;obtain ⟨e1,e2⟩:=q4 m0 t1 r1;obtain ⟨i1,i2⟩:=n3y' r2;rw [e1,← hm] at i2;obtain ⟨u1,u2⟩:=List.getElem?_eq_some_iff.1 hm;rw [hm] at i2;obtain ⟨u3,u4⟩:=List.getElem?_eq_some_iff.1 i2;have hpw:=List.pairwise_iff_getElem.1 hns;refine ⟨?_,e2⟩;rcases Nat.lt_trichotomy (m1 - lo) (n - lo) with hlt | he | hlt
      ·exact absurd (u4.trans u2.symm) (hpw _ _ u3 u1 hlt)
      ·omega
      ·exact absurd (u2.trans u4.symm) (hpw _ _ u1 u3 hlt)
     ·cases hk
    ·cases hk
   ·cases hk
  | false=>
   rw [hb] at hk;simp only [cond_false] at hk;cases hc:has ns n with
   | true=>rw [hc] at hk; cases hk
   | false=>
    rw [hc] at hk;simp only [cond_false] at hk
    have hl:n < lo:=by
     rcases Nat.lt_or_ge n lo with h | h
     ·exact h
     ·rw [nit'.2 h] at hb; cases hb
    have hni:n ∉ ns:=fun hm=>by rw [(nc7' ns n).2 hm] at hc; cases hc
    unfold rowIn at hk;split at hk
    ·rename_i t l hrow
     cases hk;exact n9v' (by simp only [nuIn]; rw [if_neg (by omega),if_neg hni]) (hr.blk n _ hrow)
    ·cases hk
 ·obtain ⟨n',e1,q1,q2⟩:=npo' (ν:=ν) h1
  obtain ⟨m',e2,p1,p2⟩:=npo' (ν:=ν) h2;have e:=hr.apart n' m' x y b q1 p1 (by rw [← e1]; exact h3) (by rw [← e2]; exact h4) h5 h6
  subst e;rcases q2 with ⟨q2,q3⟩ | ⟨q2,q3,q4⟩ <;> rcases p2 with ⟨p2,p3⟩ | ⟨p2,p3,p4⟩
  ·obtain ⟨u1,u2⟩:=List.getElem?_eq_some_iff.1 q3
   obtain ⟨u3,u4⟩:=List.getElem?_eq_some_iff.1 p3;have hpw:=List.pairwise_iff_getElem.1 hns;rcases Nat.lt_trichotomy (n - lo) (m - lo) with hlt | he | hlt
   ·exact absurd (u2.trans u4.symm) (hpw _ _ u1 u3 hlt)
   ·omega
   ·exact absurd (u4.trans u2.symm) (hpw _ _ u3 u1 hlt)
  ·subst p3; exact absurd (List.mem_of_getElem? q3) p4
  ·subst q3; exact absurd (List.mem_of_getElem? p3) q4
  ·exact q3.symm.trans p3
 ·obtain ⟨n',e1,q1,q2⟩:=npo' (ν:=ν) h1
  exact hr.own n' x b q1 (by rw [← e1]; exact h2) h3
end Go.Ab
namespace Go.Ab
variable {G:Sig} {P:Program}
theorem nbga' (ok:SigOK P G) {l:List (Nat×Fe G)} (hT:∀ p ∈ l,FnOK P G p.1 p.2):CfOK P G (cfP l):=by
 refine ⟨fun g args h nm=>nb' (nx' _) fun _=>nb' (nj' _) fun _=>nwk' _ _ _ _ _ _ _,fun g args h nm out hout=>?_⟩
 unfold cfP at hout;generalize hnsd:ptsA args=ns at hout;obtain ⟨args',hargs',h1⟩:=M.bindopt hout;obtain ⟨hnd,h2⟩:=M.bindneed h1;have hns:ns.Nodup:=nh2' hnd;obtain ⟨⟨g',e⟩,hmem,hg,t,htake,hcall⟩:=nq0' h2;simp only at hg; subst hg;obtain ⟨y,p,s,bl,hF,hp,ho,hfin⟩:=nym' hcall;obtain ⟨hent,hok⟩:=hT _ hmem;obtain ⟨hla,hlk,hkeys,a,b,hta,htb,htc,rfl⟩:=n8o' htake;obtain ⟨ms,rows,s',bl',hrows,hs',hbl',hms,fz',rfl,hfz,hfz'⟩:=n0s' hfin;refine ⟨hent,fun ν S B w vals hr hB hfr hvals=>?_⟩
 simp only at hfr;have hr1:=n8z' hns hr;have hv1:F2 (Rp G (nuIn ns ν) S w.heap) args' vals:=n6e' (fun n m x=>n28') (fun n m x=>n6g') hargs' hvals
 have hslot:∀ k s,get (zipN 0 (args'.map Sv.p)) k=some s→Rs G (nuIn ns ν) S w.heap s (vals.getD k undef):=by
  intro k s hk;rw [ns1'] at hk;simp at hk;obtain ⟨x,hx,rfl⟩:=hk;obtain ⟨v,hv,hrp⟩:=hv1.get hx
  have:vals.getD k undef=v:=by simp [List.getD_eq_getElem?_getD,hv]
  rw [this]; exact .p _ _ hrp
 obtain ⟨ν2,S2,hsl2,hheap2,hused2,hkeep2,hS2,hsrc2,holds2⟩:=nbcw' hta htb htc hr1 hslot;generalize hx0:(a.x,b.x)=x0 at hF hsl2 hheap2 hused2 hsrc2;generalize hod:oldsN (a.nm++b.nm)=olds at hsrc2 holds2 hfr;generalize hfd:a.fz++b.fz=fz at hS2 hfz hfz'
 let mo:Nat→Prop:=fun c=>¬ S2 c∧∃ n z,get (e.I.mk' x0).hp n ≠ none∧ν2 n=some z∧blkOf z=some c
 have hheap2':HRel G ν2 S2 (fun c=>mo c∨w.heap.size≤c) (get (e.I.mk' x0).hp) w:=
  ⟨hheap2.blk,hheap2.apart,fun n z c q1 q2 q3=>⟨(hheap2.own n z c q1 q2 q3).1,.inl ⟨(hheap2.own n z c q1 q2 q3).1,n,z,q1,q2,q3⟩⟩,hheap2.stay,hheap2.gl⟩
 have hvl:vals.length=e.I.tm.length:=by rw [← hla,hv1.1]
 have hcal:∀ n,ncv' ns h n ≠ none→∃ m,nuIn ns ν n=ν m∧h m ≠ none∧((lo≤n∧ns[n - lo]?=some m)∨(n < lo∧m=n∧n ∉ ns)):=fun n hn=>npo' hn
 have hmo:∀ c,mo c→∃ m z,h m ≠ none∧ν m=some z∧blkOf z=some c∧(m ∈ olds∨m ∈ ns):=by
  rintro c ⟨_,n,z,q1,q2,q3⟩;obtain ⟨m,p1,p2,p3⟩:=hsrc2 n z c q1 q2 q3;obtain ⟨m',e1,e2,e3⟩:=hcal m p2;refine ⟨m',z,e2,by rw [← e1]; exact p1,q3,?_⟩
  rcases e3 with ⟨u1,u2⟩ | ⟨u1,u2,u3⟩
  ·exact .inr (List.mem_of_getElem? u2)
  ·rcases p3 with p3 | p3
   ·exact .inl (by rw [u2]; exact p3)
   ·obtain ⟨i,hi⟩:=List.mem_iff_getElem?.1 p3
    have:=hkeys i m hi
    omega
 refine (hok x0 y p s bl hF hp ho ν2 S2 mo w vals hheap2' hused2 hvl hsl2).mono fun r w' ⟨v,ν3,S3,hret,hval3,hheap3,hSS,hSsub,hnames,hsize,hframe,henv⟩=>?_
 subst hret;obtain ⟨hrk1,hrk2,hrk3⟩:=nwc' ms nm rows hrows;have hnewν:∀ n,n ∈ keysB rows→ν n=none:=fun n hn=>hfr n hn
 let ν':Nat→Option Value:=fun n=>if nm≤n then match ms[n - nm]? with | some m=>ν3 m | none=>ν n else ν n
 have hν'old:∀ n,n ∉ keysB rows→ν' n=ν n:=by
  intro n hn;simp only [ν'];by_cases hle:nm≤n
  ·rw [if_pos hle]
   cases hm:ms[n - nm]? with
   | none=>rfl
   | some m=>
    have:=(List.getElem?_eq_some_iff.1 hm).1
    exact absurd ((hrk1 n).2 ⟨hle,by omega⟩) hn
  ·rw [if_neg hle]
 have hν'new:∀ j m,ms[j]?=some m→ν' (nm + j)=ν3 m:=by
  intro j m hm;simp only [ν'];rw [if_pos (by omega),Nat.add_sub_cancel_left,hm]
 have hνold:∀ n z,ν n=some z→ν' n=some z:=by
  intro n z hz;rw [hν'old n fun hn=>by rw [hnewν n hn] at hz; cases hz]; exact hz
 have hf3:∀ n m z,ne8' ms n nm=some m→ν3 n=some z→ν' m=some z:=by
  intro n m z hm hz;obtain ⟨q1,q2⟩:=nqe' ms n nm m hm
  have:=hν'new (m - nm) n q2
  rw [show nm + (m - nm)=m by omega] at this
  rw [this]; exact hz
 have hkey:∀ (i n:Nat),ns[i]?=some n→(keysH e.I.hp)[i]?=some (lo + i):=by
  intro i n hi;have hi':i < (keysH e.I.hp).length:=by rw [hlk]; exact (List.getElem?_eq_some_iff.1 hi).1
  have h9:=List.getElem?_eq_getElem hi';rw [h9,hkeys i _ h9]
 have hptr:∀ (i n:Nat),ns[i]?=some n→∃ bb,ν n=some (.pointer (some ⟨bb,0,none⟩))∧ν3 (lo + i)=some (.pointer (some ⟨bb,0,none⟩))∧h n ≠ none∧get (e.I.mk' x0).hp (lo + i) ≠ none:=by
  intro i n hi;have hk:=List.mem_of_getElem? (hkey i n hi);obtain ⟨k1,cs,k2⟩:=hkeep2 _ hk;obtain ⟨bb,c,te,q1,_,_⟩:=hr1.blk _ _ k2;obtain ⟨m,e1,e2,e3⟩:=hcal (lo + i) (by rw [k2]; simp)
  have hm:m=n:=by
   rcases e3 with ⟨_,u2⟩ | ⟨u1,_⟩
   ·rw [Nat.add_sub_cancel_left,hi] at u2; exact (Option.some.inj u2).symm
   ·omega
  subst hm;refine ⟨bb,by rw [← e1]; exact q1,hnames _ _ (by omega) (by rw [k1]; exact q1),e2,?_⟩
  intro hno
  have:lo + i ∈ keysB (blkTm e.I.tm x0.1++(blkHp e.I.hp x0.2++nfk' e.I.hp x0.2)):=by
   have hgk:∀ (l:List (Nat×List CSh)) (z:HpT G l),keysB (nfk' l z)=keysH l:=by
    intro l
    induction l with
    | nil=>intro _; rfl
    | cons p t ih=>intro z; simp only [nfk',keysB,keysH,ih]
   rw [ndp',ndp',hgk]; simp [hk]
  have hgn:∀ (l:List (Nat×Blk G.T)) (n:Nat),n ∈ keysB l→get l n ≠ none:=by
   intro l
   induction l with
   | nil=>intro n hn; simp [keysB] at hn
   | cons q t ih=>
    intro n hn;simp only [keysB,List.mem_cons] at hn;simp only [get,nbn'];by_cases e:q.1=n
    ·rw [if_pos e]; simp
    ·rw [if_neg e]; exact ih n (hn.resolve_left (Ne.symm e))
  exact hgn _ _ this hno
 have hg3:∀ n m z,outN ns n=some m→ν3 n=some z→ν' m=some z:=by
  intro n m z hm hz;obtain ⟨q1,q2⟩:=n0t' hm;obtain ⟨bb,u1,u2,_,_⟩:=hptr _ _ q2;rw [show lo + (n - lo)=n by omega,hz] at u2
  cases u2;exact hνold _ _ u1
 have hblo:n3u' (get p.2.hp) (keysH e.I.hp)=some bl:=by
  unfold outsP at ho;split at ho
  ·cases ho
  ·split at ho
   ·rename_i s1 b1 q1 q2; cases ho; exact q2
   ·cases ho
 obtain ⟨hbl1,hbl2⟩:=nbh' _ _ hblo;obtain ⟨hbl3,hbl4⟩:=nbh' _ _ hbl'
 have hcells:∀ (i n:Nat),ns[i]?=some n→∃ cs cs',bl[i]?=some cs∧bl'[i]?=some cs'∧get p.2.hp (lo + i)=some (.cells cs)∧mapO (Cv.ren (fun n=>ne8' ms n nm) (outN ns)) cs=some cs':=by
  intro i n hi;obtain ⟨cs,q1,q2⟩:=hbl2 i _ (hkey i n hi);obtain ⟨cs',q3,q4⟩:=hbl4 i cs q1;refine ⟨cs,cs',q1,q3,?_,q4⟩;split at q2
  ·rename_i cs1 hc; cases q2; exact hc
  ·cases q2
 have hlen':bl'.length=ns.length:=by rw [hbl3,hbl1,hlk]
 obtain ⟨S',hS1,hS2',hval',hrb',hSown,hSold,hSlt⟩:∃ S':Nat→Prop,(∀ c,S c→S' c)∧(∀ c,S' c→S c∨B c)∧Rs G ν3 S' w'.heap s v ∧
   (∀ n k,get p.2.hp n=some k→((∃ i m,ns[i]?=some m∧n=lo + i)∨n ∈ ms)→Rb G ν3 S' w'.heap n k) ∧
   (∀ c,S' c→S3 c) ∧
   (∀ n z c,h n ≠ none→n ∉ olds→n ∉ ns→n ∉ fz'→ν n=some z→blkOf z=some c→¬ S' c)∧(∀ c,S' c→c < w'.heap.size):=by
  have hSB:∀ c,S3 c→S c∨B c:=by
   intro c hc;rcases hSsub c hc with hc | ⟨_,n,z,q1,q2,q3⟩ | hc
   ·rcases (hS2 c).1 hc with hc | ⟨n,_,hn,z,hz,hbz⟩
    ·exact .inl hc
    ·exact .inr (hr1.own n z c hn hz hbz).2
   ·exact .inr (hheap2.own n z c q1 q2 q3).2
   ·exact .inr (hB c hc)
  have hSS3:∀ c,S c→S3 c:=fun c hc=>hSS c ((hS2 c).2 (.inl hc))
  have hold3:∀ n z c,h n ≠ none→n ∉ olds→n ∉ ns→n ∉ fz→ν n=some z→blkOf z=some c→¬ S3 c:=by
   intro n z c q1 q2 q3 q4 q5 q6 hc;rcases hSsub c hc with hc | hc | hc
   ·rcases (hS2 c).1 hc with hc | ⟨m,hm,hmh,z',hz',hbz'⟩
    ·exact (hr.own n z c q1 q5 q6).1 hc
    ·obtain ⟨m',e1,e2,e3⟩:=hcal m hmh
     have e:=hr.apart n m' z z' c q1 e2 q5 (by rw [← e1]; exact hz') q6 hbz'
     subst e;rcases e3 with ⟨u1,u2⟩ | ⟨u1,u2,u3⟩
     ·exact q3 (List.mem_of_getElem? u2)
     ·rw [u2] at q4; exact q4 hm
   ·obtain ⟨m,z',p1,p2,p3,p4⟩:=hmo c hc
    have e:=hr.apart n m z z' c q1 p1 q5 p2 q6 p3;subst e;exact p4.elim q2 q3
   ·have:=hr.lt q1 q5 q6; omega
  rcases hfz with rfl | ⟨rfl,hfl1,hfl2⟩ | hfz0
  ·exact ⟨S3,hSS3,hSB,hval3,fun n k hk _=>hheap3.blk n k hk,fun _ h=>h,hold3,hheap3.stay⟩
  ·refine ⟨S,fun _ h=>h,fun _ h=>.inl h,n6s' (fun c hc=>hfl1 c (by simp [hc])) hval3,fun n k hk hn=>?_,hSS3,fun n z c q1 _ _ _ q5 q6=>(hr.own n z c q1 q5 q6).1,fun c hc=>Nat.lt_of_lt_of_le (hr.stay c hc) hsize⟩
   have hrb:=hheap3.blk n k hk;rcases hn with ⟨i,m,hi,rfl⟩ | hn
   ·obtain ⟨cs,cs',c1,c2,c3,c4⟩:=hcells i m hi
    rw [hk] at c3; cases c3;obtain ⟨bb,c,te,q1,q2,q3,q4⟩:=hrb;refine ⟨bb,c,te,q1,q2,⟨q3.1,fun j x y hx hy=>nzb' (hfl1 x ?_) (q3.2 j x y hx hy)⟩,q4⟩
    exact List.mem_append.2 (.inr (List.mem_flatten.2 ⟨cs,List.mem_of_getElem? c1,List.mem_of_getElem? hx⟩))
   ·obtain ⟨j,hj⟩:=List.mem_iff_getElem?.1 hn
    obtain ⟨u,l',r1,r2⟩:=hrk3 j n hj;rw [hk] at r1; cases r1;obtain ⟨t',l2,e1,e2⟩:=ny0' rows _ _ hfl2 r2;cases e1;rcases hrb with ⟨g1,g2⟩ | ⟨bb,cap,c,te,g1,g2,g3,g4,g5,g6⟩
    ·exact .inl ⟨g1,g2⟩
    ·refine .inr ⟨bb,cap,c,te,g1,g2,g3,g4,fun i j x cv hx hcv=>?_,g6⟩
     obtain ⟨uu,hu,hrd⟩:=g5 i j x cv hx hcv;refine ⟨uu,hu,?_⟩;obtain ⟨v0,rfl⟩:=ok.flatd _ x cv e2 (List.mem_of_getElem? hcv);cases hrd with
     | sc _ hsc=>exact .sc _ hsc
  ·subst hfz0
   exact ⟨S3,hSS3,hSB,hval3,fun n k hk _=>hheap3.blk n k hk,fun _ h=>h,fun n z c q1 q2 q3 _ q5 q6=>hold3 n z c q1 q2 q3 (by simp) q5 q6,hheap3.stay⟩
 have hnsν:∀ n ∈ ns,n ∉ keysB rows:=by
  intro n hn hk;obtain ⟨i,hi⟩:=List.mem_iff_getElem?.1 hn;obtain ⟨bb,u1,_⟩:=hptr i n hi;rw [hnewν n hk] at u1; cases u1
 have hnodup:(keysB (zipB ns bl'++rows)).Nodup:=by
  rw [ndp',nua' ns bl' hlen',List.nodup_append];exact ⟨hns,hrk2,fun x hx y hy e=>hnsν x hx (e ▸ hy)⟩
 let hp':Nat→Option (Blk G.T):=appD h (goneD (olds++fz')++someD (zipB ns bl'++rows))
 have hD:∀ n,hp' n=match get (zipB ns bl'++rows) n with | some k=>some k | none=>if n ∈ olds++fz' then none else h n:=by
  intro n;simp only [hp'];rw [nwf',n0i' _ _ _ hnodup,nkw']
  try (cases get (zipB ns bl'++rows) n <;> rfl)
 have hcase:∀ n k,hp' n=some k→(∃ i cs cs',ns[i]?=some n∧k=.cells cs'∧get p.2.hp (lo + i)=some (.cells cs)∧mapO (Cv.ren (fun n=>ne8' ms n nm) (outN ns)) cs=some cs'∧ν' n=ν3 (lo + i)) ∨
   (∃ j m u l',n=nm + j∧ms[j]?=some m∧k=.row u l'∧get p.2.hp m=some (.row u l')∧ν' n=ν3 m)∨(h n=some k∧n ∉ olds∧n ∉ fz'∧n ∉ ns∧ν' n=ν n):=by
  intro n k hk;rw [hD n,nxu'] at hk;cases hz:get (zipB ns bl') n with
  | some k1=>
   rw [hz] at hk; cases hk;obtain ⟨i,c,q1,q2,rfl⟩:=n20' _ _ _ _ hz;obtain ⟨cs,cs',c1,c2,c3,c4⟩:=hcells i n q1;rw [q2] at c2; cases c2;obtain ⟨bb,u1,u2,_⟩:=hptr i n q1;exact .inl ⟨i,cs,c,q1,rfl,c3,c4,by rw [hνold _ _ u1,u2]⟩
  | none=>
   rw [hz] at hk
   have hnn:n ∉ ns:=by
    intro hn;have h9:n ∈ keysB (zipB ns bl'):=by rw [nua' ns bl' hlen']; exact hn
    have hgn:∀ (l:List (Nat×Blk G.T)) (n:Nat),n ∈ keysB l→get l n ≠ none:=by
     intro l
     induction l with
     | nil=>intro n hn; simp [keysB] at hn
     | cons q t ih=>
      intro n hn;simp only [keysB,List.mem_cons] at hn;simp only [get,nbn'];by_cases e:q.1=n
      ·rw [if_pos e]; simp
      ·rw [if_neg e]; exact ih n (hn.resolve_left (Ne.symm e))
    exact hgn _ _ h9 hz
   cases hrw:get rows n with
   | some k1=>
    rw [hrw] at hk;simp only at hk;cases hk;have hm:=nq7' (nhq' hrw);obtain ⟨b1,b2⟩:=(hrk1 n).1 hm;have hj:n - nm < ms.length:=by omega
    have hj':=List.getElem?_eq_getElem hj;obtain ⟨u,l',r1,r2⟩:=hrk3 (n - nm) _ hj';rw [show nm + (n - nm)=n by omega,hrw] at r2
    cases r2;refine .inr (.inl ⟨n - nm,_,u,l',by omega,hj',rfl,r1,?_⟩)
    have:=hν'new (n - nm) _ hj'
    rw [show nm + (n - nm)=n by omega] at this
    exact this
   | none=>
    rw [hrw] at hk;simp only at hk;by_cases ho:n ∈ olds++fz'
    ·rw [if_pos ho] at hk; cases hk
    ·rw [if_neg ho] at hk
     have hnr:n ∉ keysB rows:=by
      intro hm;obtain ⟨b1,b2⟩:=(hrk1 n).1 hm;have hj:n - nm < ms.length:=by omega
      obtain ⟨u,l',r1,r2⟩:=hrk3 (n - nm) _ (List.getElem?_eq_getElem hj);rw [show nm + (n - nm)=n by omega,hrw] at r2; cases r2
     simp only [List.mem_append,not_or] at ho;exact .inr (.inr ⟨hk,ho.1,ho.2,hnn,hν'old n hnr⟩)
 have hkeepb:∀ n z c,h n ≠ none→n ∉ olds→n ∉ ns→ν n=some z→blkOf z=some c→w'.heap[c]?=w.heap[c]?:=by
  intro n z c q1 q2 q3 q5 q6;refine hframe c (hr.lt q1 q5 q6) fun hc=>?_
  obtain ⟨m,z',p1,p2,p3,p4⟩:=hmo c hc;have e:=hr.apart n m z z' c q1 p1 q5 p2 q6 p3;subst e;exact p4.elim q2 q3
 have hkeepS:∀ c,S c→w'.heap[c]?=w.heap[c]?:=by
  intro c hc;refine hframe c (hr.stay c hc) fun hm=>hm.1 ((hS2 c).2 (.inl hc))
 have le1:Le ν ν' S S' w.heap w'.heap:=⟨hνold,hS1,hkeepS⟩
 have hown3:∀ q z c,get p.2.hp q ≠ none→ν3 q=some z→blkOf z=some c→¬ S' c∧B c∧∀ n z',h n ≠ none→n ∉ olds→n ∉ ns→ν n=some z'→blkOf z' ≠ some c:=by
  intro q z c q1 q2 q3;obtain ⟨o1,o2⟩:=hheap3.own q z c q1 q2 q3;refine ⟨fun hc=>o1 (hSown c hc),?_,fun n z' r1 r2 r3 r4 r5=>?_⟩
  ·rcases o2 with ⟨_,n,z',u1,u2,u3⟩ | o2
   ·exact (hheap2.own n z' c u1 u2 u3).2
   ·exact hB c o2
  ·rcases o2 with o2 | o2
   ·obtain ⟨m,z2,p1,p2,p3,p4⟩:=hmo c o2
    have e:=hr.apart n m z' z2 c r1 p1 r4 p2 r5 p3;subst e;exact p4.elim r2 r3
   ·have:=hr.lt r1 r4 r5; omega
 have hqof:∀ n,hp' n ≠ none→(∃ q,ν' n=ν3 q∧get p.2.hp q ≠ none∧((∃ i,ns[i]?=some n∧q=lo + i)∨(∃ j,n=nm + j∧ms[j]?=some q)))∨(h n ≠ none∧n ∉ olds∧n ∉ fz'∧n ∉ ns∧ν' n=ν n):=by
  intro n hn;obtain ⟨k,hk⟩:=Option.ne_none_iff_exists'.1 hn;rcases hcase n k hk with ⟨i,cs,cs',q1,q2,q3,q4,q5⟩ | ⟨j,m,u,l',q1,q2,q3,q4,q5⟩ | ⟨q1,q2,q3,q4,q5⟩
  ·exact .inl ⟨lo + i,q5,by rw [q3]; simp,.inl ⟨i,q1,rfl⟩⟩
  ·exact .inl ⟨m,q5,by rw [q4]; simp,.inr ⟨j,q1,q2⟩⟩
  ·exact .inr ⟨by rw [q1]; simp,q2,q3,q4,q5⟩
 refine ⟨v,ν',S',rfl,hνold,fun n hn=>?_,hS1,hS2',⟨fun n k hk=>?_,fun n m z z' c h1 h2 h3 h4 h5 h6=>?_,fun n z c h1 h2 h3=>?_,hSlt,hr.gl.mono hS1 hkeepS⟩,fun s0 hs0=>?_,hsize,fun c hc hnot=>?_,henv⟩
 ·by_cases hk:n ∈ keysB rows
  ·exact .inr hk
  ·rw [hν'old n hk] at hn; exact .inl hn
 ·rcases hcase n k hk with ⟨i,cs,cs',q1,rfl,q3,q4,q5⟩ | ⟨j,m,u,l',q1,q2,rfl,q4,q5⟩ | ⟨q1,q2,q3,q4,q5⟩
  ·obtain ⟨bb,c,te,r1,r2,r3,r4⟩:=hrb' _ _ q3 (.inl ⟨i,n,q1,rfl⟩)
   refine ⟨bb,c,te,by rw [q5]; exact r1,r2,nzw' hf3 hg3 q4 r3,fun m t hm=>?_⟩
   obtain ⟨m0,u1,u2⟩:=n6i' q4 hm;obtain ⟨e1,e2⟩:=r4 m0 t u1;obtain ⟨_,o2⟩:=n0t' u2;rw [e1,Nat.add_sub_cancel_left,q1] at o2;exact ⟨(Option.some.inj o2).symm,e2⟩
  ·exact n9v' q5 (hrb' _ _ q4 (.inr (List.mem_of_getElem? q2)))
  ·exact (hr.blk n k q1).mono le1 fun z c hz hc=>hkeepb n z c (by rw [q1]; simp) q2 q4 hz hc
 ·rcases hqof n h1 with ⟨q,q1,q2,q3⟩ | ⟨q1,q2,q3,q4,q5⟩ <;> rcases hqof m h2 with ⟨r,r1,r2,r3⟩ | ⟨r1,r2,r3,r4,r5⟩
  ·have e:=hheap3.apart q r z z' c q2 r2 (by rw [← q1]; exact h3) (by rw [← r1]; exact h4) h5 h6
   subst e
   have hlow:∀ (j:Nat) (x:Nat),ms[j]?=some x→∀ (i k:Nat),ns[i]?=some k→x ≠ lo + i:=by
    intro j x hj i k hi e;obtain ⟨u,l',u1,_⟩:=hrk3 j x hj;obtain ⟨cs,cs',_,_,c3,_⟩:=hcells i k hi;rw [e,c3] at u1; cases u1
   rcases q3 with ⟨i,q3,q4⟩ | ⟨j,q3,q4⟩ <;> rcases r3 with ⟨i',r3,r4⟩ | ⟨j',r3,r4⟩
   ·have:i=i':=by omega
    subst this; rw [q3] at r3; exact Option.some.inj r3
   ·exact absurd q4 (hlow j' q r4 i n q3)
   ·exact absurd r4 (hlow j q q4 i' m r3)
   ·obtain ⟨u1,u2⟩:=List.getElem?_eq_some_iff.1 q4
    obtain ⟨u3,u4⟩:=List.getElem?_eq_some_iff.1 r4;have hpw:=List.pairwise_iff_getElem.1 hms;rcases Nat.lt_trichotomy j j' with hlt | rfl | hlt
    ·exact absurd (u2.trans u4.symm) (hpw _ _ u1 u3 hlt)
    ·omega
    ·exact absurd (u4.trans u2.symm) (hpw _ _ u3 u1 hlt)
  ·exact absurd h6 ((hown3 q z c q2 (by rw [← q1]; exact h3) h5).2.2 m z' r1 r2 r4 (by rw [← r5]; exact h4))
  ·exact absurd h5 ((hown3 r z' c r2 (by rw [← r1]; exact h4) h6).2.2 n z q1 q2 q4 (by rw [← q5]; exact h3))
  ·exact hr.apart n m z z' c q1 r1 (by rw [← q5]; exact h3) (by rw [← r5]; exact h4) h5 h6
 ·rcases hqof n h1 with ⟨q,q1,q2,q3⟩ | ⟨q1,q2,q3,q4,q5⟩
  ·obtain ⟨u1,u2,_⟩:=hown3 q z c q2 (by rw [← q1]; exact h2) h3
   exact ⟨u1,u2⟩
  ·rw [q5] at h2
   exact ⟨hSold n z c q1 q2 q4 q3 h2 h3,(hr.own n z c q1 h2 h3).2⟩
 ·cases hs0
  exact nbgc' hf3 hg3 hs' hval'
 ·refine hframe c hc fun hm=>?_
  obtain ⟨m,z,p1,p2,p3,_⟩:=hmo c hm;exact hnot m z p1 p2 p3
end Go.Ab
namespace Go.Ab
variable {G:Sig}
section
variable {ev ev':Operand→Option (Sv G.T)}
theorem ngp' {x:Operand} (h:ev' x=ev x):evP ev' x=evP ev x:=by unfold evP; rw [h]
theorem nbq' {x:Operand} (h:ev' x=ev x):evC ev' x=evC ev x:=by unfold evC; rw [h]
theorem nbv' {x:Operand} (h:ev' x=ev x):evI ev' x=evI ev x:=by unfold evI; rw [h]
theorem nbct' {x:Operand} (h:ev' x=ev x):evB ev' x=evB ev x:=by unfold evB; rw [h]
theorem nn0' {x:Operand} (h:ev' x=ev x):aMove ev' x=aMove ev x:=by unfold aMove; rw [h]
theorem npi':∀ (xs:List Operand),(∀ x ∈ xs,ev' x=ev x)→evPs ev' xs=evPs ev xs
 | [],_=>rfl
 | x :: t,h=>by unfold evPs; rw [ngp' (h x (by simp)),npi' t fun y hy=>h y (by simp [hy])]
theorem non':∀ (xs:List (Nat×Operand)),(∀ x ∈ xs.map (·.2),ev' x=ev x)→ne7' ev' xs=ne7' ev xs
 | [],_=>rfl
 | (i,x) :: t,h=>by unfold ne7'; rw [ngp' (h x (by simp)),non' t fun y hy=>h y (by simp only [List.map_cons,List.mem_cons]; exact .inr hy)]
theorem nto' {d m:Nat} {x:Option Operand} (h:∀ y,x=some y→ev' y=ev y):ndi' ev' d m x=ndi' ev d m x:=by
 cases x with
 | none=>rfl
 | some y=>simp only [ndi']; rw [nbv' (h y rfl)]
theorem n14' {h:Nat→Option (Blk G.T)} {nm:Nat} (b:Builtin) (tys:List Nat) (xs:List Operand) (hx:∀ x ∈ xs,ev' x=ev x):nt' ev' h nm b tys xs=nt' ev h nm b tys xs:=by
 unfold nt';split
 ·unfold bLen
  split
  ·rw [nbq' (hx _ (by simp))]
  ·rfl
  ·rw [nbq' (hx _ (by simp))]
  ·rfl
 ·unfold bMin; rw [nbv' (hx _ (by simp)),nbv' (hx _ (by simp))]
 ·unfold bMax; rw [nbv' (hx _ (by simp)),nbv' (hx _ (by simp))]
 ·unfold bMin3; rw [nbv' (hx _ (by simp)),nbv' (hx _ (by simp)),nbv' (hx _ (by simp))]
 ·unfold bMax3; rw [nbv' (hx _ (by simp)),nbv' (hx _ (by simp)),nbv' (hx _ (by simp))]
 ·unfold nht'
  split
  ·rw [nbq' (hx _ (by simp)),nbq' (hx _ (by simp))]
  ·rfl
 ·unfold bCopy
  split
  ·rw [nbq' (hx _ (by simp)),nbq' (hx _ (by simp))]
  ·rfl
 ·rfl
theorem nbfi' {cf:CallF G} {h:Nat→Option (Blk G.T)} {nm:Nat} (op:Op) (hx:∀ x ∈ op.operands.toList,ev' x=ev x):act cf ev' h nm op=act cf ev h nm op:=by
 cases op
 case makeFunc fn a b=>
  cases fn
  case func f=>
   show aFunc ev' f a.toList b.toList=aFunc ev f a.toList b.toList;unfold aFunc;rw [npi' _ fun x h=>hx x (by simp [Op.operands]; left; simpa using h),npi' _ fun x h=>hx x (by simp [Op.operands]; right; simpa using h)]
  all_goals rfl
 case call c=>
  obtain ⟨callee,xs,tys⟩:=c;cases callee
  case value f=>
   show aCall cf ev' h nm f xs.toList=aCall cf ev h nm f xs.toList;unfold aCall;rw [nbq' (hx f (by simp [Op.operands,Call.operands])),npi' _ fun x h=>hx x (by simp [Op.operands,Call.operands]; right; simpa using h)]
  case builtin b=>exact n14' b _ _ fun x h=>hx x (by simp [Op.operands,Call.operands]; simpa using h)
  case invoke=>rfl
 case move x=>exact nn0' (hx x (by simp [Op.operands]))
 case assign x=>exact nn0' (hx x (by simp [Op.operands]))
 case pick c a b=>
  show aPick ev' c a b=aPick ev c a b;unfold aPick;rw [nbct' (hx c (by simp [Op.operands]))]
  congr 1; funext c1; congr 1; funext c2;cases c2
  ·exact nn0' (hx b (by simp [Op.operands]))
  ·exact nn0' (hx a (by simp [Op.operands]))
 case alloc t=>rfl
 case box t x=>show aBox ev' nm x=aBox ev nm x; unfold aBox; rw [ngp' (hx x (by simp [Op.operands]))]
 case build t ps=>
  show nn9' ev' t ps.toList=nn9' ev t ps.toList;unfold nn9';rw [non' _ fun x h=>hx x (by simpa [Op.operands] using h)]
 case buildSlice t n ps=>
  show nb2' ev' h nm t n ps.toList=nb2' ev h nm t n ps.toList;unfold nb2';rw [non' _ fun x h=>hx x (by simpa [Op.operands] using h)]
 case load t x=>show aLoad ev' h t x=aLoad ev h t x; unfold aLoad; rw [nbq' (hx x (by simp [Op.operands]))]
 case store t x y=>show nig' ev' h t x y=nig' ev h t x y; unfold nig'; rw [nbq' (hx x (by simp [Op.operands])),ngp' (hx y (by simp [Op.operands]))]
 case nilCheck x=>show aNil ev' x=aNil ev x; unfold aNil; rw [nbq' (hx x (by simp [Op.operands]))]
 case binOp op t x y u=>show aBin ev' op t x y=aBin ev op t x y; unfold aBin; rw [ngp' (hx x (by simp [Op.operands])),ngp' (hx y (by simp [Op.operands]))]
 case unOp op t x=>show aUn ev' op x=aUn ev op x; unfold aUn; rw [nbq' (hx x (by simp [Op.operands]))]
 case convert s t x=>show aConv ev' h s t x=aConv ev h s t x; unfold aConv; rw [nbq' (hx x (by simp [Op.operands]))]
 case makeSlice t x y=>show nfp' ev' nm t x y=nfp' ev nm t x y; unfold nfp'; rw [nbv' (hx x (by simp [Op.operands])),nbv' (hx y (by simp [Op.operands]))]
 case slice t x lo hi mx=>
  show nog' ev' t x lo hi mx=nog' ev t x lo hi mx;unfold nog';have hlo:∀ d m,ndi' ev' d m lo=ndi' ev d m lo:=fun d m=>nto' fun y hy=>hx y (by subst hy; simp [Op.operands])
  have hhi:∀ d m,ndi' ev' d m hi=ndi' ev d m hi:=fun d m=>nto' fun y hy=>hx y (by subst hy; simp [Op.operands])
  have e1:∀ c,nr8' ev' c lo hi=nr8' ev c lo hi:=by intro c; unfold nr8'; simp only [hlo,hhi]
  have e2:∀ c e,nrz' ev' c e lo hi=nrz' ev c e lo hi:=by intro c e; unfold nrz'; simp only [hlo,hhi]
  rw [nbq' (hx x (by simp [Op.operands]))]
  simp only [e1,e2]
 case fieldAddr t x f=>show nfm' ev' t x f=nfm' ev t x f; unfold nfm'; rw [nbq' (hx x (by simp [Op.operands]))]
 case field t x f=>show noe' ev' t x f=noe' ev t x f; unfold noe'; rw [ngp' (hx x (by simp [Op.operands]))]
 case indexAddr t x i=>show nct' ev' h t x i=nct' ev h t x i; unfold nct'; rw [nbq' (hx x (by simp [Op.operands])),nbv' (hx i (by simp [Op.operands]))]
 case index t x i=>show nn2' ev' t x i=nn2' ev t x i; unfold nn2'; rw [nbq' (hx x (by simp [Op.operands])),ngp' (hx x (by simp [Op.operands])),nbv' (hx i (by simp [Op.operands]))]
 case extract x i=>show nic' ev' x i=nic' ev x i; unfold nic'; rw [hx x (by simp [Op.operands])]
 all_goals rfl
end
section
variable {ev:Operand→Option (Sv G.T)} {h h':Nat→Option (Blk G.T)} {nm:Nat}
theorem nbdd' {n:Nat} {c:Cv G.T} (hh:∀ m ∈ c.rds,h' m=h m):look h' n c=look h n c:=by
 cases c with
 | ptr b o=>simp only [look]; rw [hh b (by simp [Cv.rds])]
 | pd b o s l i=>simp only [look]; rw [hh b (by simp [Cv.rds])]
 | pr b t i o=>simp only [look]; rw [hh b (by simp [Cv.rds])]
 | _=>rfl
theorem n4t' {new:List (Cv G.T)} {c:Cv G.T} (hh:∀ m ∈ c.rds,h' m=h m):poke h' new c=poke h new c:=by
 cases c with
 | ptr b o=>simp only [poke]; rw [hh b (by simp [Cv.rds])]
 | pd b o s l i=>simp only [poke]; rw [hh b (by simp [Cv.rds])]
 | pr b t i o=>simp only [poke]; rw [hh b (by simp [Cv.rds])]
 | _=>rfl
theorem noc' {e:Nat} {c:Cv G.T} (hh:∀ m ∈ c.rds,h' m=h m):elems h' e c=elems h e c:=by
 cases c with
 | own b=>simp only [elems]; rw [hh b (by simp [Cv.rds])]
 | sc v=>unfold elems; split <;> first | rfl | contradiction
 | _=>rfl
def CfLoc (cf:CallF G):Prop:=∀ g args h h' nm out,cf g args h nm (Out G) some=some out→(∀ n ∈ out.rd,h' n=h n)→cf g args h' nm (Out G) some=some out
theorem nbe1' {cf:CallF G} (hl:CfLoc cf) {op:Op} {out:Out G} (ha:act cf ev h nm op (Out G) some=some out) (hh:∀ n ∈ out.rd,h' n=h n):act cf ev h' nm op (Out G) some=some out:=by
 cases op
 case load t x=>
  have ha:aLoad ev h t x (Out G) some=some out:=ha;show aLoad ev h' t x (Out G) some=some out;unfold aLoad at ha ⊢;obtain ⟨c,hc,h1⟩:=bindC ha;obtain ⟨cs,hcs,h2⟩:=M.bindopt h1;obtain ⟨y,hy,h3⟩:=M.bindopt h2;simp [M.ret] at h3; subst h3;have e:=nbdd' (n:=G.sz t) hh;simp only [M.bind,evC,hc,M.opt,e,hcs,hy,M.ret]
 case convert s t x=>
  have ha:aConv ev h s t x (Out G) some=some out:=ha;show aConv ev h' s t x (Out G) some=some out;unfold aConv at ha ⊢;obtain ⟨hn,h0⟩:=M.bindneed ha;obtain ⟨c,hc,h1⟩:=bindC h0;simp only [M.bind,M.need,hn,cond_true,evC,hc];cases hts:G.ty s with
  | sl e=>
   rw [hts] at h1;simp only at h1 ⊢;cases hst:isStr (G.ty t) with
   | false=>rw [hst] at h1; exact h1
   | true=>
    rw [hst,cond_true] at h1;obtain ⟨hg,h2⟩:=M.bindneed h1;obtain ⟨l,hl',h3⟩:=M.bindopt h2;simp [M.ret] at h3; subst h3;simp only [cond_true,M.bind,M.need,hg,M.opt,noc' (e:=e) hh,hl',M.ret]
  | _=>rw [hts] at h1; exact h1
 case buildSlice t n ps=>
  have ha:nb2' ev h nm t n ps.toList (Out G) some=some out:=ha;show nb2' ev h' nm t n ps.toList (Out G) some=some out;unfold nb2' at ha ⊢;cases ht:G.ty t <;> simp only [ht] at ha ⊢ <;> try exact ha
  obtain ⟨ys,h1,h2⟩:=(nji' (ev:=ev) ps.toList).spec (M.bind_spec ha);obtain ⟨hn,h3⟩:=M.bindneed h2;obtain ⟨cs,hcs,h4⟩:=M.bindopt h3;show (ne7' ev ps.toList) _ _=_;rw [nji' ps.toList,h1];simp only [Option.bind_some,M.bind,M.need,hn,cond_true,M.opt,hcs];rename_i e;unfold nsl' at h4 ⊢;cases hfn:isFn (G.ty e) with
  | true=>rw [hfn] at h4; exact h4
  | false=>
   rw [hfn] at h4;obtain ⟨q,hq,h5⟩:=M.bindopt h4;obtain ⟨l,hl',h6⟩:=M.bindopt h5;simp [M.ret] at h6; subst h6;have e1:=nwz' hq hh;simp only [M.bind,M.opt,e1,hl',M.ret]
 case store t x y=>
  have ha:nig' ev h t x y (Out G) some=some out:=ha;show nig' ev h' t x y (Out G) some=some out;unfold nig' at ha ⊢;obtain ⟨c,hc,h1⟩:=bindC ha;obtain ⟨u,hu,h2⟩:=bindP h1;obtain ⟨hn,h3⟩:=M.bindneed h2;simp only [M.bind,evC,hc,evP,hu,M.need,hn,cond_true]
  have key:nok' h c u.cells (Out G) some=some out→nok' h' c u.cells (Out G) some=some out:=fun h3=>by
   unfold nok' at h3 ⊢;obtain ⟨r,hr,h4⟩:=M.bindopt h3;simp [M.ret] at h4; subst h4;have e:=n4t' (new:=u.cells) hh;simp only [M.bind,M.opt,e,hr,M.ret]
  cases c with
  | pr b tt i off=>
   unfold ntx' at h3 ⊢;obtain ⟨q,hq,h4⟩:=M.bindopt h3;obtain ⟨hb,h5⟩:=M.bindneed h4;obtain ⟨r,hr,h6⟩:=M.bindopt h5;simp [M.ret] at h6; subst h6;have e1:=nwz' hq fun n hm=>hh n (by simp [hm])
   have e2:=n4t' (h:=h) (h':=h') (new:=q.1) (c:=.pr b tt i off) fun n hm=>hh n (by simp [Cv.rds] at hm; simp [hm])
   simp only [M.bind,M.opt,M.need,e1,hb,cond_true,e2,hr,M.ret]
  | _=>exact key h3
 case indexAddr t x i=>
  have ha:nct' ev h t x i (Out G) some=some out:=ha;show nct' ev h' t x i (Out G) some=some out;unfold nct' at ha ⊢;cases ht:G.ty t <;> simp only [ht] at ha ⊢ <;> try exact ha
  rename_i e;obtain ⟨c,hc,h1⟩:=bindC ha;obtain ⟨d,n,hi,h2⟩:=bindI h1
  have g:ixS h' e c n (Out G) some=some out:=by
   unfold ixS at h2 ⊢;cases c with
   | own b=>
    simp only at h2 ⊢;cases hb:h b with
    | none=>rw [hb] at h2; simp [M.fail] at h2
    | some k=>
     rw [hb] at h2;cases k with
     | cells cs=>simp [M.fail] at h2
     | row u l=>
      have h2':=h2;simp only at h2;obtain ⟨hn,h3⟩:=M.bindneed h2;obtain ⟨hn2,h4⟩:=M.bindneed h3;simp [M.ret] at h4; subst h4;rw [hh b (by simp),hb]
      exact h2'
   | _=>exact h2
  simp only [M.bind,evC,hc,evI,hi];exact g
 case call cl=>
  obtain ⟨callee,xs,tys⟩:=cl;cases callee
  case value f=>
   have ha:aCall cf ev h nm f xs.toList (Out G) some=some out:=ha;show aCall cf ev h' nm f xs.toList (Out G) some=some out;unfold aCall at ha ⊢;obtain ⟨c,hc,h1⟩:=bindC ha;obtain ⟨as,h2,has⟩:=(nmz' (ev:=ev) xs.toList).spec (M.bind_spec h1)
   have g:callC cf h' nm c as (Out G) some=some out:=by
    unfold callC at has ⊢;cases c with
    | clo g fst caps=>
     simp only at has ⊢;generalize G.ext g=m at has ⊢
     match m,has with
     | 0,has=>exact hl _ _ _ _ _ _ has hh
     | 1,has=>exact has
     | m + 2,has=>exact has
    | _=>exact has
   simp only [M.bind,evC,hc];rw [nmz' xs.toList,h2];exact g
  case builtin b=>
   have ha:nt' ev h nm b tys.toList xs.toList (Out G) some=some out:=ha;show nt' ev h' nm b tys.toList xs.toList (Out G) some=some out;rcases ntt' ha with ⟨rfl,t,ts,x,h1,h2⟩ | ⟨rfl,x,y,h1⟩ | ⟨rfl,x,y,h1⟩ | ⟨rfl,t,x,y,h1,h2⟩ | ⟨rfl,x,y,z,h1⟩ | ⟨rfl,x,y,z,h1⟩ | ⟨rfl,t,x,y,h1,h2⟩
   ·rw [h1,h2] at ha ⊢
    have ha:bLen ev h t x (Out G) some=some out:=ha;show bLen ev h' t x (Out G) some=some out;unfold bLen at ha ⊢;cases ht:G.ty t <;> simp only [ht] at ha ⊢ <;> try exact ha
    rename_i e;obtain ⟨c,hc,g1⟩:=bindC ha;simp only [M.bind,evC,hc];unfold lenS at g1 ⊢
    have key:M.bind (M.opt (elems h e c)) (fun l=>M.ret (⟨some (.p (.one (.sc (.int .i64 (l.length:Int))))),[],[],c.rds⟩:Out G)) (Out G) some=some out→M.bind (M.opt (elems h' e c)) (fun l=>M.ret (⟨some (.p (.one (.sc (.int .i64 (l.length:Int))))),[],[],c.rds⟩:Out G)) (Out G) some=some out:=fun g1=>by
     obtain ⟨l,hl',g2⟩:=M.bindopt g1;simp [M.ret] at g2; subst g2;have e1:=noc' (e:=e) hh;simp only [M.bind,M.opt,e1,hl',M.ret]
    cases c with
    | sa _ _ _=>exact g1
    | _=>exact key g1
   ·rw [h1] at ha ⊢; exact ha
   ·rw [h1] at ha ⊢; exact ha
   ·rw [h1,h2] at ha ⊢
    have ha:nht' ev h nm t t x y (Out G) some=some out:=ha;show nht' ev h' nm t t x y (Out G) some=some out;unfold nht' at ha ⊢;cases ht:G.ty t <;> simp only [ht] at ha ⊢ <;> try exact ha
    rename_i e;obtain ⟨hn,g1⟩:=M.bindneed ha;obtain ⟨c,hc,g2⟩:=bindC g1;obtain ⟨c',hc',g3⟩:=bindC g2;obtain ⟨l,hl',g4⟩:=M.bindopt g3;obtain ⟨l',hl'',g5⟩:=M.bindopt g4;obtain ⟨hn2,g6⟩:=M.bindneed g5
    have hrd:(∀ m ∈ c.rds,m ∈ out.rd)∧∀ m ∈ c'.rds,m ∈ out.rd:=by
     unfold appC at g6;cases c with
     | sc v=>simp [M.ret] at g6; subst g6; exact ⟨by simp [Cv.rds],fun m h=>h⟩
     | own n=>
      simp only at g6;obtain ⟨_,g7⟩:=M.bindneed g6;simp [M.ret] at g7; subst g7;exact ⟨by simp [Cv.rds],fun m h=>by simp [h]⟩
     | _=>simp [M.fail] at g6
    have e1:=noc' (e:=e) (c:=c) fun m hm=>hh m (hrd.1 m hm)
    have e2:=noc' (e:=e) (c:=c') fun m hm=>hh m (hrd.2 m hm)
    simp only [M.bind,M.need,hn,cond_true,evC,hc,hc',M.opt,e1,e2,hl',hl'',hn2];exact g6
   ·rw [h1] at ha ⊢; exact ha
   ·rw [h1] at ha ⊢; exact ha
   ·rw [h1,h2] at ha ⊢
    have ha:bCopy ev h t t x y (Out G) some=some out:=ha;show bCopy ev h' t t x y (Out G) some=some out;unfold bCopy at ha ⊢;cases ht:G.ty t <;> simp only [ht] at ha ⊢ <;> try exact ha
    rename_i e;obtain ⟨hn,g1⟩:=M.bindneed ha;obtain ⟨c,hc,g2⟩:=bindC g1;obtain ⟨c',hc',g3⟩:=bindC g2;obtain ⟨l',hl',g4⟩:=M.bindopt g3
    have hrd:(∀ m ∈ c.rds,m ∈ out.rd)∧∀ m ∈ c'.rds,m ∈ out.rd:=by
     unfold copyC at g4;cases c with
     | own n=>
      simp only at g4;cases hm:h n with
      | none=>simp [hm,M.fail] at g4
      | some k=>
       cases k with
       | cells _=>simp [hm,M.fail] at g4
       | row u l=>
        simp only [hm] at g4;obtain ⟨_,g7⟩:=M.bindneed g4;obtain ⟨_,_,g7⟩:=M.bindopt g7;simp [M.ret] at g7; subst g7;exact ⟨by simp [Cv.rds],fun m h=>by simp [h]⟩
     | sa n off len=>
      simp only at g4;cases hm:h n with
      | none=>simp [hm,M.fail] at g4
      | some k=>
       cases k with
       | row _ _=>simp [hm,M.fail] at g4
       | cells cs=>
        simp only [hm] at g4;obtain ⟨_,g7⟩:=M.bindneed g4;obtain ⟨_,_,g7⟩:=M.bindopt g7;obtain ⟨_,g7⟩:=M.bindneed g7;simp [M.ret] at g7; subst g7;exact ⟨by simp [Cv.rds],fun m h=>by simp [h]⟩
     | _=>simp [M.fail] at g4
    have e2:=noc' (e:=e) (c:=c') fun m hm=>hh m (hrd.2 m hm)
    simp only [M.bind,M.need,hn,cond_true,evC,hc,hc',M.opt,e2,hl'];unfold copyC at g4 ⊢;cases c with
    | own n=>simp only [hh n (hrd.1 n (by simp [Cv.rds]))]; exact g4
    | sa n off len=>simp only [hh n (hrd.1 n (by simp [Cv.rds]))]; exact g4
    | _=>exact g4
  case invoke=>exact ha
 case makeFunc fn a b=>cases fn <;> exact ha
 all_goals exact ha
end
end Go.Ab
