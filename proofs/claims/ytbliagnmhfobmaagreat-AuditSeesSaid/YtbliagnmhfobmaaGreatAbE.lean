/- Loops: from the body's rounds. -/
import Derived.Test.YtbliagnmhfobmaaGreatAbD
import Derived.LoopN
namespace Go.Ab
variable {G:Sig}
section
variable {P:Program} (ok:SigOK P G) (eqok:EqOK P G) {cf:CallF G} (cfok:CfOK P G cf) {nt:Nat} {drawn:Array Oper→St G→M (St G)} (dok:DrawOK P G nt drawn)
 {lp:Nat→St G→M (Ex×St G)} {kl:Nat→List Nat} {jn:Nat→Option (List (Ex×Spec))}
include ok eqok cfok dok in
theorem n06' {S:Spec} {E:List (Ex×Spec)} {c:Code} {n:Nat} (hl:∀ (k:Nat) c',(loops c)[k]?=some c'→LoopOK P G nt (lp (n + k)) c') {cx:Cx} (hnt:cx.nt=nt) (hnu:∀ n y,cx.nu0 n=some y→lo≤n)
  {y:SumE G E} {ex:Ex} {st':St G} (hy:caseE E y some=some (ex,st')) {Q:Exit→Act→World→Prop} (hQ:∀ e a' w',ExR ex e→Rel G cx st' a' w'→Q e a' w') :
  ∀ (f:Nat) (x:S.T G) (a:Act) (w:World),iter (noh' S E (runC cf nt drawn lp kl jn n c)) f x=some y→Rel G cx (S.mk' x) a w→Code.rounds P c Q f a w
 | 0,_,_,_,h,_=>by simp [iter] at h
 | f + 1,x,a,w,h,r=>by
  rw [rounds_succ];have hlaw:=nfu' cfok dok (kl:=kl) (jn:=jn) c n (S.mk' x) hl;simp only [iter] at h;have hround:noh' S E (runC cf nt drawn lp kl jn n c) x=(runC cf nt drawn lp kl jn n c (S.mk' x) _ some).bind fun p=>outX S E p.1 p.2:=hlaw _ _
  rw [hround] at h;cases hv:runC cf nt drawn lp kl jn n c (S.mk' x) _ some with
  | none=>rw [hv] at h; simp [noj'] at h
  | some p=>
   obtain ⟨e,st1⟩:=p;rw [hv] at h;have h:noj' (iter (noh' S E (runC cf nt drawn lp kl jn n c)) f) (outX S E e st1)=some y:=h;refine ngw' ok eqok cfok dok hnt hnu c n _ st1 e a w _ hl hv r fun e' a' w' he r'=>?_
   have hout:∀ z,takeE E e st1=some z→z=y→Q e' a' w':=by
    intro z hz e1;subst e1;obtain ⟨st2,h2,h3⟩:=nrg' hnu E hz r' some _ hy;simp at h2;obtain ⟨rfl,rfl⟩:=h2;exact hQ _ _ _ he h3
   have hiter:∀ o:Option (Sum (S.T G) (SumE G E)),noj' (iter (noh' S E (runC cf nt drawn lp kl jn n c)) f) o=some y→(∃ x1,o=some (.inl x1)∧iter (noh' S E (runC cf nt drawn lp kl jn n c)) f x1=some y)∨o=some (.inr y):=by
    intro o ho;unfold noj' at ho;split at ho
    ·exact .inl ⟨_,rfl,ho⟩
    ·simp at ho; subst ho; exact .inr rfl
    ·simp at ho
   have hrest:∀ (hne:e ≠ .normal),outX S E e st1=(match takeE E e st1 with | some y=>some (Sum.inr (α:=S.T G) y) | none=>none):=by
    intro hne;cases e with
    | normal=>exact absurd rfl hne
    | exit i=>rfl
    | ret=>rfl
   by_cases hne:e=.normal
   ·subst hne
    have hn:outX S E .normal st1=(match S.take st1 with | some x=>some (Sum.inl (β:=SumE G E) x) | none=>none):=rfl
    rw [npe' he];rcases hiter _ h with ⟨x1,h1,h2⟩ | h1
    ·rw [hn] at h1
     split at h1
     ·rename_i x2 hx2
      have:x2=x1:=by simpa using h1
      subst this;exact n06' hl hnt hnu hy hQ f x2 a' w' h2 (Spec.take_rel hx2 r' hnu)
     ·simp at h1
    ·rw [hn] at h1
     split at h1 <;> simp at h1
   ·have hr:=hrest hne
    rcases hiter _ h with ⟨x1,h1,h2⟩ | h1
    ·rw [hr] at h1
     split at h1 <;> simp at h1
    ·rw [hr] at h1
     split at h1
     ·rename_i z hz
      have hz2:=hout z hz (by simpa using h1)
      cases e with
      | normal=>exact absurd rfl hne
      | exit i=>rw [nw0' he] at hz2 ⊢; exact hz2
      | ret=>rw [nve' he] at hz2 ⊢; exact hz2
     ·simp at h1
include ok eqok cfok dok in
theorem nbgy' {S:Spec} {E:List (Ex×Spec)} {c:Code} {n:Nat} (hl:∀ (k:Nat) c',(loops c)[k]?=some c'→LoopOK P G nt (lp (n + k)) c') {L:S.T G→Option (SumE G E)}
  (hL:∀ x y,L x=some y→∃ f,iter (noh' S E (runC cf nt drawn lp kl jn n c)) f x=some y):LoopOK P G nt (lpX S E L) c:=by
 refine ⟨fun st R k=>?_,fun st ex st' h cx a w Q hnt hnu r hQ=>?_⟩
 ·unfold lpX
  cases S.take st with
  | none=>rfl
  | some x=>
   simp only;cases L x with
   | none=>rfl
   | some y=>exact nkq' E y k
 ·unfold lpX at h
  cases hx:S.take st with
  | none=>rw [hx] at h; simp at h
  | some x=>
   rw [hx] at h;simp only at h;cases hy:L x with
   | none=>rw [hy] at h; simp at h
   | some y=>
    rw [hy] at h;obtain ⟨f,hf⟩:=hL x y hy;exact wp_loop_rounds f (n06' ok eqok cfok dok hl hnt hnu h hQ f x a w hf (Spec.take_rel hx r hnu))
end
end Go.Ab
namespace Go.Ab
variable {G:Sig}
section
variable {h h':Nat→Option (Blk G.T)}
theorem n1n' {n t:Nat} (hh:h' n=h n):rowAt h' n t=rowAt h n t:=by unfold rowAt; rw [hh]
theorem n00' {s:CSh} {c:Cv G.T} (hh:∀ n ∈ c.ows,h' n=h n):s.take h' c=s.take h c:=by
 cases c with
 | own n=>
  have:=hh n (by simp [Cv.ows])
  cases s with
  | own m t=>simp only [CSh.take]; rw [n1n' this]
  | ro t=>simp only [CSh.take]; rw [n1n' this]
  | _=>rfl
 | sc v=>cases s <;> first | rfl | (cases v <;> rfl)
 | _=>cases s <;> rfl
theorem nt6':∀ {s:List CSh} {cs:List (Cv G.T)},(∀ c ∈ cs,∀ n ∈ c.ows,h' n=h n)→takeL h' s cs=takeL h s cs
 | [],[],_=>rfl
 | [],_ :: _,_=>rfl
 | _ :: _,[],_=>rfl
 | s :: ss,c :: cs,hh=>by
  simp only [takeL];rw [n00' (hh c (by simp)),nt6' fun c hc=>hh c (by simp [hc])]
theorem n9p' {s:PSh} {x:Pv G.T} (hh:∀ c ∈ x.cells,∀ n ∈ c.ows,h' n=h n):s.take h' x=s.take h x:=by
 cases s with
 | one s=>cases x with
  | one c=>exact n00' (hh c (by simp [Pv.cells]))
  | agg cs=>rfl
 | agg ss=>cases x with
  | one c=>rfl
  | agg cs=>exact nt6' hh
theorem nxm' {tm:List (Nat×Sv G.T)} (hh:∀ k x,get tm k=some (.p x)→∀ c ∈ x.cells,∀ n ∈ c.ows,h' n=h n):∀ (s:List (Nat×PSh)),nf4' h' tm s=nf4' h tm s
 | []=>rfl
 | p :: t=>by
  simp only [nf4'];cases hg:get tm p.1 with
  | none=>rfl
  | some v=>
   cases v with
   | tup _=>rfl
   | p c=>
    simp only;rw [n9p' (hh _ _ hg),nxm' hh t]
theorem nx5':∀ (s:List (Nat×List CSh)),(∀ n ∈ keysH s,h' n=h n∧∀ cs,h n=some (.cells cs)→∀ c ∈ cs,∀ n ∈ c.ows,h' n=h n)→nge' h' s=nge' h s
 | [],_=>rfl
 | p :: t,hh=>by
  have h1:=hh p.1 (by simp [keysH])
  simp only [nge'];rw [h1.1];cases hg:h p.1 with
  | none=>rfl
  | some k=>
   cases k with
   | row _ _=>rfl
   | cells cs=>
    simp only;rw [nt6' (h1.2 cs hg),nx5' t fun n hn=>hh n (by simp [keysH,hn])]
end
theorem n55' {T:Nat→Type} {ns:List Nat} {g:Nat→Option Nat} {c c':Cv T} (h:c.ren (rowN ns) g=some c'):∀ n ∈ c'.ows,n ∈ c.ows∧n < lo∧n ∉ ns:=by
 cases c with
 | own n=>
  simp only [Cv.ren] at h;split at h
  ·rename_i m hm
   cases h;obtain ⟨rfl,h2,h3⟩:=n0w' hm;intro n hn;simp [Cv.ows] at hn ⊢;subst hn; exact ⟨rfl,h2,h3⟩
  ·cases h
 | ptr n off=>simp only [Cv.ren] at h; split at h <;> cases h; simp [Cv.ows]
 | clo k p q=>simp only [Cv.ren] at h; split at h <;> cases h; simp [Cv.ows]
 | np n t=>simp only [Cv.ren] at h; split at h <;> cases h; simp [Cv.ows]
 | sc v=>cases h; simp [Cv.ows]
 | ro t l=>cases h; simp [Cv.ows]
 | rp t x o=>cases h; simp [Cv.ows]
 | pd _ _ _ _ _=>cases h
 | pr _ _ _ _=>cases h
 | sa _ _ _=>cases h
theorem n3z' {T:Nat→Type} {ns:List Nat} {g:Nat→Option Nat} {cs cs':List (Cv T)} (h:mapO (Cv.ren (rowN ns) g) cs=some cs'):∀ c' ∈ cs',∀ n ∈ c'.ows,(∃ c ∈ cs,n ∈ c.ows)∧n < lo∧n ∉ ns:=by
 intro c' hc' n hn;obtain ⟨m1,m2⟩:=nbh' _ _ h;obtain ⟨i,hi⟩:=List.mem_iff_getElem?.1 hc';have hi':i < cs.length:=by have:=(List.getElem?_eq_some_iff.1 hi).1; omega
 obtain ⟨z,hz,hfz⟩:=m2 i _ (List.getElem?_eq_getElem hi');rw [hi] at hz; cases hz;obtain ⟨q1,q2⟩:=n55' hfz n hn;exact ⟨⟨cs[i],List.getElem_mem hi',q1⟩,q2⟩
theorem nyx' {ns:List Nat} {h1 h1':Nat→Option (Blk G.T)} {nm:Nat} {rd rd':List Nat} {args:List (Pv G.T)} {g:Nat} (hrd:rd'=rd):∀ (l:List (Nat×Fe G)),(∀ I:Spec,takeI I h1' ns.length args=takeI I h1 ns.length args) →
  tryP ns h1' nm rd' args g l=tryP ns h1 nm rd args g l
 | [],_=>rfl
 | p :: r,h=>by
  subst hrd;funext R k;simp only [tryP];rw [h p.2.I,nyx' rfl r h]
theorem nbfg' (l:List (Nat×Fe G)):CfLoc (cfP l):=by
 intro g args h h' nm out ha hh;unfold cfP at ha ⊢;generalize hns:ptsA args=ns at ha ⊢;obtain ⟨args',hargs',h1⟩:=M.bindopt ha;obtain ⟨hnd,h2⟩:=M.bindneed h1
 have hrd:out.rd=ns++ownOf ns h args:=by
  obtain ⟨p,_,_,t,_,hc⟩:=nq0' h2;obtain ⟨y,p,s,bl,_,_,_,hf⟩:=nym' hc;obtain ⟨_,_,_,_,_,_,_,_,_,rfl,_⟩:=n0s' hf;rfl
 rw [hrd] at hh;have hn1:∀ n ∈ ns,h' n=h n:=fun n hn=>hh n (by simp [hn])
 have hown:ownOf ns h' args=ownOf ns h args:=by
  unfold ownOf;congr 1
  have:∀ l:List Nat,(∀ n ∈ l,h' n=h n)→(l.flatMap fun n=>match h' n with | some (.cells cs)=>cs.flatMap Cv.ows | _=>[])=l.flatMap fun n=>match h n with | some (.cells cs)=>cs.flatMap Cv.ows | _=>[]:=by
   intro l
   induction l with
   | nil=>intro _; rfl
   | cons a t ih=>
    intro hl;simp only [List.flatMap_cons];rw [hl a (by simp),ih fun n hn=>hl n (by simp [hn])]
  exact this ns hn1
 have hblk:∀ (i n:Nat),ns[i]?=some n→ncv' ns h' (lo + i)=ncv' ns h (lo + i):=by
  intro i n hi;unfold ncv';rw [nit'.2 (by omega:lo≤lo + i)]
  simp only [cond_true,Nat.add_sub_cancel_left,hi];rw [hn1 n (List.mem_of_getElem? hi)]
 have hrow:∀ n,n < lo→(n ∈ ns∨n ∈ ownOf ns h args)→ncv' ns h' n=ncv' ns h n:=by
  intro n hn hm;unfold ncv';cases hb:Nat.ble lo n with
  | true=>have:=nit'.1 hb; omega
  | false=>
   simp only [cond_false];cases hc:has ns n with
   | true=>rfl
   | false=>
    simp only [cond_false];rw [hh n (by rcases hm with hm | hm <;> simp [hm])]
 have htake:∀ I:Spec,takeI I (ncv' ns h') ns.length args'=takeI I (ncv' ns h) ns.length args':=by
  intro I;unfold takeI;cases hb:Nat.beq args'.length I.tm.length&&Nat.beq ns.length I.hp.length&&nr4' lo (keysH I.hp) with
  | false=>rfl
  | true=>
   simp only [Bool.and_eq_true,nw'] at hb;obtain ⟨⟨hb1,hb2⟩,hb3⟩:=hb;have hl:∀ l:List (Nat×List CSh),(keysH l).length=l.length:=by intro l; induction l with | nil=>rfl | cons p t ih=>simp [keysH,ih]
   have e1:nf4' (ncv' ns h') (zipN 0 (args'.map Sv.p)) I.tm=nf4' (ncv' ns h) (zipN 0 (args'.map Sv.p)) I.tm:=by
    refine nxm' (fun k x hk c hc n hn=>?_) I.tm
    rw [ns1'] at hk;simp at hk;have hx:=List.mem_of_getElem? hk;obtain ⟨m1,m2⟩:=nbh' _ _ hargs';obtain ⟨i,hi⟩:=List.mem_iff_getElem?.1 hx;have hi':i < args.length:=by have:=(List.getElem?_eq_some_iff.1 hi).1; omega
    obtain ⟨z,hz,hfz⟩:=m2 i _ (List.getElem?_eq_getElem hi');rw [hi] at hz; cases hz
    have key:(∃ c0 ∈ (args[i]).cells,n ∈ c0.ows)∧n < lo∧n ∉ ns:=by
     generalize args[i]=u at hfz;cases u with
     | one c0=>
      simp only [Pv.ren] at hfz;split at hfz
      ·rename_i c1 hc1
       cases hfz;simp [Pv.cells] at hc;subst hc;obtain ⟨q1,q2⟩:=n55' hc1 n hn;exact ⟨⟨c0,by simp [Pv.cells],q1⟩,q2⟩
      ·cases hfz
     | agg cs=>
      simp only [Pv.ren] at hfz;split at hfz
      ·rename_i cs1 hcs1
       cases hfz;exact n3z' hcs1 c hc n hn
      ·cases hfz
    obtain ⟨⟨c0,k1,k2⟩,k3,k4⟩:=key;refine hrow n k3 (.inr ?_);unfold ownOf;exact List.mem_append.2 (.inl (List.mem_flatMap.2 ⟨args[i],List.getElem_mem hi',List.mem_flatMap.2 ⟨c0,k1,k2⟩⟩))
   have e2:nge' (ncv' ns h') I.hp=nge' (ncv' ns h) I.hp:=by
    refine nx5' I.hp fun n hn=>?_
    obtain ⟨i,hi⟩:=List.mem_iff_getElem?.1 hn;have hni:=nrn' hb3 i n hi;have hil:i < ns.length:=by have:=(List.getElem?_eq_some_iff.1 hi).1; rw [hl] at this; omega
    have hi2:=List.getElem?_eq_getElem hil;subst hni;refine ⟨hblk i _ hi2,fun cs hcs c hc n hn=>?_⟩
    unfold ncv' at hcs;rw [nit'.2 (by omega:lo≤lo + i)] at hcs
    simp only [cond_true,Nat.add_sub_cancel_left,hi2] at hcs;unfold blkIn at hcs;split at hcs
    ·rename_i cs0 hcs0
     split at hcs
     ·rename_i cs1 hcs1
      cases hcs;obtain ⟨⟨c0,k1,k2⟩,k3,k4⟩:=n3z' hcs1 c hc n hn;refine hrow n k3 (.inr ?_);unfold ownOf;refine List.mem_append.2 (.inr (List.mem_flatMap.2 ⟨ns[i],List.getElem_mem hil,?_⟩));rw [hcs0];exact List.mem_flatMap.2 ⟨c0,k1,k2⟩
     ·cases hcs
    ·cases hcs
   rw [e1,e2]
 simp only [M.bind,M.opt,hargs',M.need,hnd,cond_true];rw [nyx' (by rw [hown]) l htake]
 exact h2
def ndl' (h:Nat→Option (Blk G.T)):Cv G.T→Option (Cv G.T)
 | .sc v=>some (.sc v)
 | .ro t l=>some (.ro t l)
 | .own m=>match h m with | some (.row t l)=>some (.ro t l) | _=>none
 | _=>none
def lendB (h:Nat→Option (Blk G.T)) (n ty:Nat):Option (G.T ty):=match h n with
 | some (.cells cs)=>match mapO (ndl' h) cs with | some cs'=>bif Nat.beq cs'.length (G.sz ty) then G.dec ty cs' else none | none=>none
 | _=>none
def nqd' (h:Nat→Option (Blk G.T)) (n:Nat):List Nat:=match h n with
 | some (.cells cs)=>cs.flatMap Cv.ows
 | _=>[]
def nn3':List (Nat×Fe G)→Nat→Option Nat
 | [],_=>none
 | p :: r,g=>bif Nat.beq p.1 g then match p.2.I.tm with
   | [(_,.one (.rp ty 0))]=>some ty
   | _=>nn3' r g
  else nn3' r g
def flatD (G:Sig):List (Nat×Option (Blk G.T))→Bool
 | []=>true
 | (_,some (.row t _)) :: r=>G.flat t&&flatD G r
 | _ :: _=>false
def flatV {T:Nat→Type}:Option (Sv T)→Bool
 | some s=>s.cells.all flatC
 | none=>true
def lendC (l:List (Nat×Fe G)) (ty n g:Nat) (h:Nat→Option (Blk G.T)) (nm:Nat):M (Out G):=
 M.bind (M.opt (lendB h n ty)) fun x=>M.bind (cfP l g [.one (.rp ty x 0)] (fun _=>none) nm) fun out=>
  M.bind (M.need (flatV out.v&&flatD G out.d)) fun _=>M.ret ⟨out.v,out.d,out.nw,n :: nqd' h n⟩
def cfQ (l:List (Nat×Fe G)):CallF G:=fun g args h nm=>match args with
 | [.one (.ptr n 0)]=>match nn3' l g with
  | some ty=>lendC l ty n g h nm
  | none=>cfP l g args h nm
 | _=>cfP l g args h nm
theorem n2n' {l:List (Nat×Fe G)} {g nm:Nat} {args:List (Pv G.T)} {h:Nat→Option (Blk G.T)} (hn:¬ ∃ n ty,args=[.one (.ptr n 0)]∧nn3' l g=some ty):cfQ l g args h nm=cfP l g args h nm:=by
 unfold cfQ;split
 ·split
  ·rename_i n _ ty hty
   exact absurd ⟨n,ty,rfl,hty⟩ hn
  ·rfl
 ·rfl
theorem nzo' {l:List (Nat×Fe G)} {g nm n ty:Nat} {h:Nat→Option (Blk G.T)} (hty:nn3' l g=some ty):cfQ l g [.one (.ptr n 0)] h nm=lendC l ty n g h nm:=by
 unfold cfQ;simp only [hty]
theorem n3j' {h h':Nat→Option (Blk G.T)} {c:Cv G.T} (hh:∀ m ∈ c.ows,h' m=h m):ndl' h' c=ndl' h c:=by
 cases c with
 | own m=>simp only [ndl']; rw [hh m (by simp [Cv.ows])]
 | _=>rfl
theorem ntm' {h h':Nat→Option (Blk G.T)}:∀ {cs:List (Cv G.T)},(∀ m ∈ cs.flatMap Cv.ows,h' m=h m)→mapO (ndl' h') cs=mapO (ndl' h) cs
 | [],_=>rfl
 | c :: t,hh=>by
  simp only [List.flatMap_cons,List.mem_append] at hh;simp only [mapO];rw [n3j' fun m hm=>hh m (.inl hm),ntm' fun m hm=>hh m (.inr hm)]
theorem ny5' {l:List (Nat×Fe G)} {ty n g nm:Nat} {h:Nat→Option (Blk G.T)} {out:Out G} (ha:lendC l ty n g h nm (Out G) some=some out) :
  ∃ x out1,lendB h n ty=some x∧cfP l g [.one (.rp ty x 0)] (fun _=>none) nm (Out G) some=some out1∧flatV out1.v=true∧flatD G out1.d=true∧out=⟨out1.v,out1.d,out1.nw,n :: nqd' h n⟩:=by
 unfold lendC at ha;obtain ⟨x,hx,h1⟩:=M.bindopt ha;have hl:Law (cfP l g [.one (.rp ty x 0)] (fun _=>none) nm):=nb' (nx' _) fun _=>nb' (nj' _) fun _=>nwk' _ _ _ _ _ _ _
 obtain ⟨out1,h2,h3⟩:=hl.spec h1;obtain ⟨hf,h4⟩:=M.bindneed h3;rw [Bool.and_eq_true] at hf;simp [M.ret] at h4;exact ⟨x,out1,hx,h2,hf.1,hf.2,h4.symm⟩
theorem n6m' (l:List (Nat×Fe G)):CfLoc (cfQ l):=by
 intro g args h h' nm out ha hh;by_cases hn:∃ n ty,args=[.one (.ptr n 0)]∧nn3' l g=some ty
 ·obtain ⟨n,ty,rfl,hty⟩:=hn
  rw [nzo' hty] at ha ⊢;obtain ⟨x,out1,hx,_,_,_,rfl⟩:=ny5' ha;simp only at hh;have h1:h' n=h n:=hh n (by simp)
  have e:lendB h' n ty=lendB h n ty:=by
   unfold lendB;rw [h1];cases hc:h n with
   | none=>rfl
   | some k=>
    cases k with
    | row=>rfl
    | cells cs=>
     have:∀ m ∈ cs.flatMap Cv.ows,h' m=h m:=fun m hm=>hh m (by
      have:nqd' h n=cs.flatMap Cv.ows:=by unfold nqd'; rw [hc]
      rw [this]; simp [hm])
     simp only [ntm' this]
  have eo:nqd' h' n=nqd' h n:=by unfold nqd'; rw [h1]
  unfold lendC at ha ⊢;rw [e,eo]; exact ha
 ·rw [n2n' hn] at ha ⊢
  exact nbfg' l g args h h' nm out ha hh
theorem n8f' {s:Sv G.T} {ν:Nat→Option Value} {S S':Nat→Prop} {h:Array Obj} {v:Value} (hf:flatV (some s)=true) (r:Rs G ν S h s v):Rs G ν S' h s v:=
 n6s' (fun c hc=>List.all_eq_true.1 hf c hc) r
theorem nx9':∀ {d:List (Nat×Option (Blk G.T))} {h:Nat→Option (Blk G.T)} {n:Nat} {k:Blk G.T},flatD G d=true→n ∈ keysD d→appD h d n=some k→∃ t l,k=.row t l∧G.flat t=true
 | [],_,_,_,_,hn,_=>by simp [keysD] at hn
 | (m,q) :: t,h,n,k,hf,hn,hk=>by
  cases q with
  | none=>simp [flatD] at hf
  | some q=>
   cases q with
   | cells cs=>simp [flatD] at hf
   | row u l=>
    simp only [flatD,Bool.and_eq_true] at hf;simp only [appD] at hk;by_cases ht:n ∈ keysD t
    ·exact nx9' hf.2 ht hk
    ·rw [ng7' t _ n ht] at hk
     simp only [keysD,List.mem_cons] at hn;have hn:n=m:=hn.resolve_right ht;subst hn;simp at hk;exact ⟨u,l,hk.symm,hf.1⟩
theorem nbdi' {P:Program} (ok:SigOK P G) {ν:Nat→Option Value} {S S':Nat→Prop} {h:Array Obj} {n t:Nat} {l:List (G.T t)} (hf:G.flat t=true) (r:Rb G ν S h n (.row t l)):Rb G ν S' h n (.row t l):=by
 rcases r with r | ⟨b,cap,c,te,h1,h2,h3,h4,h5,h6⟩
 ·exact .inl r
 ·refine .inr ⟨b,cap,c,te,h1,h2,h3,h4,fun i j x cv hx hc=>?_,h6⟩
  obtain ⟨v,hv,hr⟩:=h5 i j x cv hx hc;refine ⟨v,hv,?_⟩;obtain ⟨u,rfl⟩:=ok.flatd t x cv hf (List.mem_of_getElem? hc);cases hr with
  | sc _ hs=>exact .sc _ hs
theorem nbfo' {h:Nat→Option (Blk G.T)} {ν:Nat→Option Value} {S S2 B:Nat→Prop} {w:World} (hr:HRel G ν S B h w) (hS:∀ b,S b→S2 b) {c c2:Cv G.T} {v:Value} (hc:ndl' h c=some c2) (hv:Rc G ν S w.heap c v)
  (hL:∀ m ∈ c.ows,∀ z b,ν m=some z→blkOf z=some b→S2 b):Rd G S2 w.heap c2 v:=by
 cases c with
 | sc u=>simp [ndl'] at hc; subst hc; exact Rd.mono hS (fun _ _=>rfl) hv
 | ro t l=>simp [ndl'] at hc; subst hc; exact Rd.mono hS (fun _ _=>rfl) hv
 | own m=>
  simp only [ndl'] at hc;split at hc
  ·rename_i t l hm
   simp at hc; subst hc;obtain ⟨a,len,cap,hν,rfl⟩:=hv;rcases hr.blk m _ hm with ⟨h1,rfl⟩ | ⟨b,cap',c,te,h1,h2,h3,h4,h5,h6⟩
   ·rw [h1] at hν
    have hν:=Option.some.inj hν;rw [← hν];exact .nil t none 0
   ·rw [h1] at hν
    have hν:=Option.some.inj hν;rw [← hν]
    have hcell:∀ i j,i < l.length→j < G.sz t→c[0 + i * G.sz t + j]?=some (c.getD (0 + i * G.sz t + j) undef):=fun i j hi hj=>by
     have:0 + i * G.sz t + j < c.size:=by
      rw [h4];have h7:(i + 1) * G.sz t≤cap' * G.sz t:=Nat.mul_le_mul_right _ (by omega)
      have h8:(i + 1) * G.sz t=i * G.sz t + G.sz t:=by rw [Nat.add_mul,Nat.one_mul]
      omega
     rw [Array.getElem?_eq_getElem this,Array.getD_eq_getD_getElem?,Array.getElem?_eq_getElem this]; rfl
    refine .ro t l b 0 cap' c te (0,0) (fun i j=>c.getD (0 + i * G.sz t + j) undef) (hL m (by simp [Cv.ows]) _ b h1 rfl) h2 h3 hcell fun i j x cv hx hcv=>?_
    obtain ⟨u,hu,hru⟩:=h5 i j x cv hx hcv
    have:c.getD (0 + i * G.sz t + j) undef=u:=by rw [Nat.zero_add,Array.getD_eq_getD_getElem?,hu]; rfl
    rw [this];exact Rd.mono hS (fun _ _=>rfl) hru
  ·cases hc
 | _=>simp [ndl'] at hc
theorem nyv' {P:Program} (ok:SigOK P G) {l:List (Nat×Fe G)} (hT:∀ p ∈ l,FnOK P G p.1 p.2):CfOK P G (cfQ l):=by
 have hP:=nbga' ok hT;refine ⟨fun g args h nm=>?_,fun g args h nm out hout=>?_⟩
 ·by_cases hn:∃ n ty,args=[.one (.ptr n 0)]∧nn3' l g=some ty
  ·obtain ⟨n,ty,rfl,hty⟩:=hn
   rw [nzo' hty];exact nb' (nx' _) fun _=>nb' (hP.law _ _ _ _) fun _=>nb' (nj' _) fun _=>nf' _
  ·rw [n2n' hn]; exact hP.law _ _ _ _
 by_cases hn:∃ n ty,args=[.one (.ptr n 0)]∧nn3' l g=some ty
 ·obtain ⟨n,ty,rfl,hty⟩:=hn
  rw [nzo' hty] at hout;obtain ⟨x,out1,hx,hcall,hfv,hfd,rfl⟩:=ny5' hout;obtain ⟨hent,hspec⟩:=hP.calls _ _ _ _ _ hcall;refine ⟨hent,fun ν S B w vals hr hB hfr hvals=>?_⟩
  simp only at hfr;unfold lendB at hx;cases hcs:h n with
  | none=>rw [hcs] at hx; simp at hx
  | some k=>
  cases k with
  | row t l=>rw [hcs] at hx; simp at hx
  | cells cs=>
  rw [hcs] at hx;simp only at hx;cases hmo:mapO (ndl' h) cs with
  | none=>rw [hmo] at hx; simp at hx
  | some cs'=>
  rw [hmo] at hx;simp only at hx;cases hln:Nat.beq cs'.length (G.sz ty) with
  | false=>rw [hln] at hx; simp at hx
  | true=>
  rw [hln] at hx;simp only [cond_true] at hx;have hln:=nw'.1 hln;have hxe:=ok.encdec ty cs' x hx;obtain ⟨hm1,hm2⟩:=nbh' _ _ hmo;obtain ⟨v,t,rfl,hv,ht⟩:=hvals.inv;have ht:=ht.inv_nil;subst ht;cases hv with
  | one _ _ hv=>
  obtain ⟨b,hnb,rfl⟩:=hv;simp only at hnb;obtain ⟨b',c,te,q1,q2,q3,_⟩:=hr.blk n _ hcs;rw [hnb] at q1;have q1:=Option.some.inj q1;obtain rfl:b=b':=by injection q1 with q1; injection q1 with q1; injection q1
  have hsz:∀ m z c,h m ≠ none→ν m=some z→blkOf z=some c→c < w.heap.size:=fun m z c hm hz hc=>by
   cases hk:h m with
   | none=>exact absurd hk hm
   | some k=>
    have hb:=hr.blk m k hk;cases k with
    | cells cs=>
     obtain ⟨b1,c1,te1,r1,r2,_⟩:=hb;rw [hz] at r1;have r1:=Option.some.inj r1;subst r1
     have:b1=c:=by simpa [blkOf] using hc
     subst this;exact (Array.getElem?_eq_some_iff.1 r2).1
    | row t l=>
     rcases hb with ⟨r1,_⟩ | ⟨b1,cap,c1,te1,r1,r2,_⟩
     ·rw [hz] at r1
      have r1:=Option.some.inj r1;subst r1;simp [blkOf] at hc
     ·rw [hz] at r1
      have r1:=Option.some.inj r1;subst r1
      have:b1=c:=by simpa [blkOf] using hc
      subst this;exact (Array.getElem?_eq_some_iff.1 r2).1
  let S2:Nat→Prop:=fun q=>S q∨∃ m z,h m ≠ none∧ν m=some z∧blkOf z=some q
  have hS2:∀ q,S q→S2 q:=fun q hq=>.inl hq
  have hown:∀ m,m ∈ cs.flatMap Cv.ows→h m ≠ none:=fun m hm=>by
   obtain ⟨c1,hc1,hmc⟩:=List.mem_flatMap.1 hm;obtain ⟨i,hi⟩:=List.getElem?_of_mem hc1;obtain ⟨y,_,hy⟩:=hm2 i c1 hi;cases c1 <;> simp [Cv.ows] at hmc;subst hmc;intro hno;simp [ndl',hno] at hy
  have hrp:Rd G S2 w.heap (.rp ty x 0) (.pointer (some ⟨b,0,none⟩)):=by
   refine .rp ty x 0 b 0 c te (0,0) (fun j=>c.getD (0 + j) undef) (.inr ⟨n,_,by rw [hcs]; simp,hnb,rfl⟩) q2 (fun j hj=>?_) fun j cv hcv=>?_
   ·have:0 + j < c.size:=by have h9:cs.length=c.size:=(by have h9:=q3.1; rwa [Array.length_toList] at h9); omega
    rw [Array.getElem?_eq_getElem this,Array.getD_eq_getD_getElem?,Array.getElem?_eq_getElem this]; rfl
   ·rw [hxe] at hcv
    have hj:j < cs.length:=by have:=(List.getElem?_eq_some_iff.1 hcv).1; omega
    obtain ⟨y,hy1,hy2⟩:=hm2 j _ (List.getElem?_eq_getElem hj);rw [hcv] at hy1;have hy1:=Option.some.inj hy1;subst hy1;obtain ⟨u,hu⟩:∃ u,c.toList[j]?=some u:=⟨_,List.getElem?_eq_getElem (by rw [← q3.1]; exact hj)⟩
    have hru:=q3.2 j _ u (List.getElem?_eq_getElem hj) hu
    have:c.getD (0 + j) undef=u:=by
     rw [Nat.zero_add,Array.getD_eq_getD_getElem?];rw [Array.getElem?_toList] at hu;rw [hu]; rfl
    simp only [this];exact nbfo' hr hS2 hy2 hru fun m hm z q hz hq=>.inr ⟨m,z,hown m (List.mem_flatMap.2 ⟨_,List.getElem_mem hj,hm⟩),hz,hq⟩
  have hst:∀ q,S2 q→q < w.heap.size:=fun q hq=>by
   rcases hq with hq | ⟨m,z,q1,q2,q3⟩
   ·exact hr.stay q hq
   ·exact hsz m z q q1 q2 q3
  have hr2:HRel G ν S2 (fun q=>w.heap.size≤q) (fun _=>none) w:={
   blk:=fun m k hk=>(by cases hk)
   apart:=fun m1 m2 y z q hk=>absurd rfl hk
   own:=fun m y q hk=>absurd rfl hk
   stay:=hst
   gl:=hr.gl.mono hS2 fun _ _=>rfl }
  refine (hspec ν S2 (fun q=>w.heap.size≤q) w _ hr2 (fun q hq=>hq) hfr (F2.cons (.one _ _ hrp) .nil)).mono fun e w' ⟨v',ν',S',he,p⟩=>⟨v',ν',S,he,?_⟩
  have hfrm:∀ q,q < w.heap.size→w'.heap[q]?=w.heap[q]?:=fun q hq=>p.frame q hq fun m _ hm=>absurd rfl hm
  have le:Le ν ν' S S w.heap w'.heap:=⟨p.nu,fun _ h=>h,fun q hq=>hfrm q (hr.stay q hq)⟩
  have hin:∀ m,m ∈ keysD out1.d→appD h out1.d m=appD (fun _=>none) out1.d m:=fun m hm=>nsk' _ _ _ _ (.inr hm)
  have hold:∀ m z,h m ≠ none→ν' m=some z→ν m=some z:=fun m z hm hz=>by
   cases hk:h m with
   | none=>exact absurd hk hm
   | some k=>
    have hb:=hr.blk m k hk;cases k with
    | cells cs=>
     obtain ⟨b1,c1,te1,r1,_⟩:=hb;rw [p.nu _ _ r1] at hz;rw [r1]; exact hz
    | row t l=>
     rcases hb with ⟨r1,_⟩ | ⟨b1,cap,c1,te1,r1,_⟩ <;> (rw [p.nu _ _ r1] at hz; rw [r1]; exact hz)
  refine ⟨p.nu,p.new,fun _ h=>h,fun _ h=>.inl h,⟨fun m k hk=>?_,fun m1 m2 y z q h1 h2 hy hz e1 e2=>?_,fun m y q hm hy e=>?_,fun q hq=>?_,hr.gl.mono (fun _ h=>h) fun q hq=>hfrm q (hr.stay q hq)⟩,fun s hs=>?_,p.size,fun q hq _=>hfrm q hq,p.env⟩
  ·by_cases hm:m ∈ keysD out1.d
   ·have hk':=hk
    rw [hin m hm] at hk';have hb:=p.rel.blk m k hk';obtain ⟨t,l,rfl,hft⟩:=nx9' hfd hm hk;exact nbdi' ok hft hb
   ·simp only at hk
    rw [ng7' _ _ _ hm] at hk;exact (hr.blk m k hk).mono le fun z q hz hq=>hfrm q (hsz m z q (by rw [hk]; simp) hz hq)
  ·by_cases i1:m1 ∈ keysD out1.d
   ·rw [show appD h out1.d m1=_ from hin m1 i1] at h1
    by_cases i2:m2 ∈ keysD out1.d
    ·rw [show appD h out1.d m2=_ from hin m2 i2] at h2
     exact p.rel.apart m1 m2 y z q h1 h2 hy hz e1 e2
    ·rw [show appD h out1.d m2=_ from ng7' _ _ _ i2] at h2
     have g1:=(p.rel.own m1 y q h1 hy e1).2;have g2:=hsz m2 z q h2 (hold m2 z h2 hz) e2;omega
   ·rw [show appD h out1.d m1=_ from ng7' _ _ _ i1] at h1
    by_cases i2:m2 ∈ keysD out1.d
    ·rw [show appD h out1.d m2=_ from hin m2 i2] at h2
     have g1:=(p.rel.own m2 z q h2 hz e2).2;have g2:=hsz m1 y q h1 (hold m1 y h1 hy) e1;omega
    ·rw [show appD h out1.d m2=_ from ng7' _ _ _ i2] at h2
     exact hr.apart m1 m2 y z q h1 h2 (hold m1 y h1 hy) (hold m2 z h2 hz) e1 e2
  ·by_cases i1:m ∈ keysD out1.d
   ·rw [show appD h out1.d m=_ from hin m i1] at hm
    have g1:=(p.rel.own m y q hm hy e).2;exact ⟨fun hS=>by have:=hr.stay q hS; omega,hB q g1⟩
   ·rw [show appD h out1.d m=_ from ng7' _ _ _ i1] at hm
    exact hr.own m y q hm (hold m y hm hy) e
  ·have:=hr.stay q hq
   have:=p.size
   omega
  ·have hs:out1.v=some s:=hs
   rw [hs] at hfv;exact n8f' hfv (p.val s hs)
 ·rw [n2n' hn] at hout
  exact hP.calls _ _ _ _ _ hout
def endI (cf:CallF G) (lp:Nat→St G→M (Ex×St G)) (jn:Nat→Option (List (Ex×Spec))) (nt:Nat) (body:Code) (I:Spec) (E:List (Ex×Spec)) (x:I.T G):Option (SumE G E):=
 runC cf nt (nu7' cf nt) lp (fun _=>[]) jn 0 body (I.mk' x) _ fun p=>takeE E p.1 p.2
def rndI (cf:CallF G) (lp:Nat→St G→M (Ex×St G)) (jn:Nat→Option (List (Ex×Spec))) (nt:Nat) (n:Nat) (body:Code) (S:Spec) (E:List (Ex×Spec)) (x:S.T G):Option (Sum (S.T G) (SumE G E)):=
 noh' S E (runC cf nt (nu7' cf nt) lp (fun _=>[]) jn n body) x
def fuel:Nat:=18446744073709551616
def nbr' (f:Func):Code:=f.body.getD .skip
def nu2' (c:Code) (n:Nat):Code:=(loops c)[n]?.getD .skip
section
variable {P:Program} (ok:SigOK P G) (eqok:EqOK P G) (hm:P.follows .mixedOrders=true) {l:List (Nat×Fe G)} (hl:∀ p ∈ l,FnOK P G p.1 p.2) {lp:Nat→St G→M (Ex×St G)} {jn:Nat→Option (List (Ex×Spec))}
include ok eqok hm hl in
theorem nbey' {nt n k:Nat} {c:Code} (S:Spec) (E:List (Ex×Spec)) (R:S.T G→Option (Sum (S.T G) (SumE G E))) (hP:lp k=lpX S E (iter R fuel)) (hin:∀ (k:Nat) c',(loops c)[k]?=some c'→LoopOK P G nt (lp (n + k)) c')
  (hR:∀ x,rndI (cfQ l) lp jn nt n c S E x=R x):LoopOK P G nt (lp k) c:=by
 rw [hP]
 exact nbgy' ok eqok (nyv' ok hl) (n0q' ok eqok (nyv' ok hl) (n6m' l) hm) hin fun x _ h=>⟨fuel,by
  rw [show noh' S E (runC (cfQ l) nt (nu7' (cfQ l) nt) lp (fun _=>[]) jn n c)=R from funext hR]; exact h⟩
include ok eqok hm hl in
theorem fn_ok {g : Nat} {fn : Func} (hfn : P.funcs[g]? = some fn) (hname : (fn.name == "runtime.NumGoroutine") = false) (hbody : fn.body = some (nbr' fn)) {e : Fe G} (hrs : fn.results.toList = e.rs) (hlen : Nat.ble e.I.tm.length fn.ntmps = true)
  (hlp:∀ (k:Nat) c',(loops (nbr' fn))[k]?=some c'→LoopOK P G fn.ntmps (lp k) c') (hF:∀ x,endI (cfQ l) lp jn fn.ntmps (nbr' fn) e.I e.E x=e.F x):FnOK P G g e:=
 n51' ok eqok (nyv' ok hl) hfn hname hbody hrs (nit'.1 hlen) (n0q' ok eqok (nyv' ok hl) (n6m' l) hm) hlp fun x _ h=>(hF x).trans h
end
def AllAt (Q:Nat→Code→Prop) (n:Nat) (l:List Code):Prop:=∀ (k:Nat) c',l[k]?=some c'→Q (n + k) c'
theorem ne' {Q:Nat→Code→Prop} {n:Nat}:AllAt Q n []:=fun k c' h'=>by simp at h'
theorem nd' {Q:Nat→Code→Prop} {n:Nat} {t:List Code} {c:Code} (h0:Q n c) (ht:AllAt Q (n + 1) t):AllAt Q n (c :: t):=fun k c' h'=>by
 cases k with
 | zero=>simp at h'; subst h'; exact h0
 | succ k=>have:=ht k c' (by simpa using h'); rwa [show n + (k + 1)=n + 1 + k by omega]
theorem nbdz' {Q:Nat→Code→Prop} {n:Nat} {l:List Code} (l':List Code) (h:l=l') (h':AllAt Q n l'):AllAt Q n l:=h ▸ h'
theorem nbfa' {P:Program} {nt:Nat} {f:St G→M (Ex×St G)} {c:Code} (h:f=fun _=>M.fail):LoopOK P G nt f c:=by
 subst h;exact ⟨fun _=>ni',fun st ex st' h=>by simp [M.fail] at h⟩
theorem n7k' {Q:Nat→Code→Prop} {l:List Code} (h:AllAt Q 0 l):∀ (k:Nat) c',l[k]?=some c'→Q k c':=fun k c' hk=>by have:=h k c' hk; rwa [Nat.zero_add] at this
end Go.Ab
namespace Go.Ab
variable {G:Sig}
structure Ctx (P:Program) (G:Sig):Prop where
 ok:SigOK P G
 eqok:EqOK P G
 hm:P.follows .mixedOrders=true
def ou64:PSh:=.one (.int .u64)
def ob:PSh:=.one .bool
def os:PSh:=.one .str
def op (n:Nat):PSh:=.one (.ptr n 0)
def oro (t:Nat):PSh:=.one (.ro t)
abbrev Sp:=Spec
abbrev SL:=List (Ex×Spec)
def jl (l:List (Nat×SL)):Nat→Option SL:=fun n=>get l n
def lf:St G→M (Ex×St G):=fun _=>M.fail
def pl:List (St G→M (Ex×St G))→Nat→St G→M (Ex×St G)
 | [],_=>lf
 | a :: _,0=>a
 | _ :: t,n + 1=>pl t n
inductive Sk where
 | i (k:IntKind) | b | s | f (k:FloatKind) | l (t:Nat)
def Sk.T (T:Nat→Type):Sk→Type
 | .i _=>Int
 | .b=>Bool
 | .s=>ByteArray
 | .f _=>Nat
 | .l t=>List (T t)
def SkL (T:Nat→Type):List Sk→Type
 | []=>Unit
 | a :: t=>a.T T×SkL T t
def castK (T:Nat→Type) (t t':Nat) (l:List (T t)):Option (List (T t')):=if h:t=t' then some (h ▸ l) else none
theorem n7o' {T:Nat→Type} {t t':Nat} {l:List (T t)} {l':List (T t')} (h:castK T t t' l=some l'):∃ e:t=t',e ▸ l=l':=by
 unfold castK at h;split at h
 ·rename_i e; simp at h; exact ⟨e,h⟩
 ·simp at h
def Sk.enc {T:Nat→Type}:(a:Sk)→a.T T→Cv T
 | .i k,n=>.sc (.int k n)
 | .b,x=>.sc (.bool x)
 | .s,x=>.sc (.string x)
 | .f k,n=>.sc (.float k n)
 | .l t,x=>.ro t x
def Sk.dec {T:Nat→Type}:(a:Sk)→Cv T→Option (a.T T)
 | .i k,.sc (.int k' n)=>bif eqIK k k' then some n else none
 | .b,.sc (.bool x)=>some x
 | .s,.sc (.string x)=>some x
 | .f k,.sc (.float k' n)=>bif eqFK k k' then some n else none
 | .l t,.ro t' x=>castK T t' t x
 | _,_=>none
def encK {T:Nat→Type}:(l:List Sk)→SkL T l→List (Cv T)
 | [],_=>[]
 | a :: t,x=>a.enc x.1 :: encK t x.2
def decK {T:Nat→Type}:(l:List Sk)→List (Cv T)→Option (SkL T l)
 | [],[]=>some ()
 | a :: t,c :: cs=>match a.dec c,decK t cs with
  | some x,some y=>some (x,y)
  | _,_=>none
 | _,_=>none
theorem Sk.dec_ok {T:Nat→Type} {a:Sk} {c:Cv T} {x:a.T T} (h:a.dec c=some x):a.enc x=c:=by
 cases a with
 | i k=>
  cases c with
  | sc v=>
   cases v with
   | int k' n=>
    have h:(bif eqIK k k' then some n else none)=some x:=h;have e:k=k':=by cases k <;> cases k' <;> first | rfl | (simp [eqIK] at h)
    subst e;have e:eqIK k k=true:=by cases k <;> rfl
    rw [e] at h; cases h; rfl
   | _=>cases h
  | _=>cases h
 | b=>
  cases c with
  | sc v=>
   cases v with
   | bool y=>cases h; rfl
   | _=>cases h
  | _=>cases h
 | s=>
  cases c with
  | sc v=>
   cases v with
   | string y=>cases h; rfl
   | _=>cases h
  | _=>cases h
 | f k=>
  cases c with
  | sc v=>
   cases v with
   | float k' n=>
    have h:(bif eqFK k k' then some n else none)=some x:=h;have e:k=k':=by cases k <;> cases k' <;> first | rfl | (simp [eqFK] at h)
    subst e;have e:eqFK k k=true:=by cases k <;> rfl
    rw [e] at h; cases h; rfl
   | _=>cases h
  | _=>cases h
 | l t=>
  cases c with
  | ro t' y=>
   obtain ⟨rfl,rfl⟩:=n7o' (show castK T t' t y=some x from h)
   rfl
  | _=>cases h
theorem n63' {T:Nat→Type}:∀ {l:List Sk} {cs:List (Cv T)} {x:SkL T l},decK l cs=some x→encK l x=cs
 | [],[],_,_=>rfl
 | a :: t,c :: cs,x,h=>by
  simp only [decK] at h;split at h
  ·rename_i y z hy hz
   cases h;simp only [encK,Sk.dec_ok hy,n63' hz]
  ·cases h
section
variable {P:Program}
theorem tn:∀ p ∈ ([]:List (Nat×Fe G)),FnOK P G p.1 p.2:=fun _ h=>absurd h (List.not_mem_nil)
theorem tc {g:Nat} {e:Fe G} {l:List (Nat×Fe G)} (h:FnOK P G g e) (t:∀ p ∈ l,FnOK P G p.1 p.2):∀ p ∈ (g,e) :: l,FnOK P G p.1 p.2:=List.forall_mem_cons.2 ⟨h,t⟩
theorem an0 {Q:Nat→Code→Prop} {n:Nat} {l:List Code} (h:l=[]):AllAt Q n l:=h ▸ ne'
theorem ln {nt k:Nat} {c:Code} {lp:Nat→St G→M (Ex×St G)} (h:lp k=lf):LoopOK P G nt (lp k) c:=nbfa' h
variable (cx:Ctx P G) {l:List (Nat×Fe G)} (hl:∀ p ∈ l,FnOK P G p.1 p.2) (jn:Nat→Option SL) {lp:Nat→St G→M (Ex×St G)}
include cx hl in
theorem lk (n:Nat) {nt k:Nat} {c:Code} (S:Spec) (E:SL) {L:S.T G→Option (SumE G E)} {R:S.T G→Option (Sum (S.T G) (SumE G E))} (hL:L=iter R fuel) (hP:lp k=lpX S E L) (hin:AllAt (fun k c=>LoopOK P G nt (lp k) c) n (loops c))
  (hR:∀ x,rndI (cfQ l) lp jn nt n c S E x=R x):LoopOK P G nt (lp k) c:=
 nbey' cx.ok cx.eqok cx.hm hl S E R (hL ▸ hP) hin hR
include cx hl in
theorem fk {g : Nat} {fn : Func} (hfn : P.funcs[g]? = some fn) {e : Fe G} (hc : (!(fn.name == "runtime.NumGoroutine") && Nat.ble e.I.tm.length fn.ntmps) = true) (hbody : fn.body = some (nbr' fn)) (hrs : fn.results.toList = e.rs)
  (hlp:AllAt (fun k c=>LoopOK P G fn.ntmps (lp k) c) 0 (loops (nbr' fn))) (hF:∀ x,endI (cfQ l) lp jn fn.ntmps (nbr' fn) e.I e.E x=e.F x):FnOK P G g e:=by
 rw [Bool.and_eq_true,Bool.not_eq_true'] at hc;exact fn_ok cx.ok cx.eqok cx.hm hl hfn hc.1 hbody hrs hc.2 (n7k' hlp) hF
end
end Go.Ab
namespace Go.Ab
structure TyD where
 A:Type
 d:A
def lookD:List (Nat×TyD)→Nat→TyD
 | [],_=>⟨Unit,()⟩
 | p :: r,t=>bif Nat.beq p.1 t then p.2 else lookD r t
@[reducible] def TOf (tys:List (Nat×TyD)) (t:Nat):Type:=(lookD tys t).A
structure Ent (T:Nat→Type) (t:Nat) where
 ty:Ty
 sz:Nat
 zero:List Value
 enc:T t→List (Cv T)
 dec:List (Cv T)→Option (T t)
 flat:Bool
structure Ent1 (T:Nat→Type) where
 t:Nat
 e:Ent T t
def noEnt (T:Nat→Type) (t:Nat):Ent T t:=⟨.no,0,[],fun _=>[],fun _=>none,false⟩
def findE {T:Nat→Type}:List (Ent1 T)→(t:Nat)→Ent T t
 | [],t=>noEnt T t
 | p :: r,t=>if h:p.t=t then h ▸ p.e else findE r t
def mkSig (tys:List (Nat×TyD)) (l:List (Ent1 (TOf tys))) (gl:Nat→Option ((t:Nat)×TOf tys t):=fun _=>none) (ext:Nat→Nat:=fun _=>0):Sig:=
 {T:=TOf tys
  ty:=fun t=>(findE l t).ty
  sz:=fun t=>(findE l t).sz
  zero:=fun t=>(findE l t).zero
  enc:=fun t=>(findE l t).enc
  dec:=fun t=>(findE l t).dec
  dfl:=fun t=>(lookD tys t).d
  flat:=fun t=>(findE l t).flat
  gl:=gl
  ext:=ext }
def extL:List (Nat×Nat)→Nat→Nat
 | [],_=>0
 | p :: r,g=>bif Nat.beq p.1 g then p.2 else extL r g
def plain (T:Nat→Type) (t:Nat) (ty:Ty) (sz:Nat) (zero:List Value):Ent1 T:=⟨t,⟨ty,sz,zero,fun _=>[],fun _=>none,false⟩⟩
end Go.Ab
namespace Go.Ab
def TyOK (P:Program) (G:Sig) (t:Nat):Ty→Prop
 | .no=>True
 | .bool=>P.underlying t=some .bool
 | .int k=>P.underlying t=some (.int k)
 | .flt k=>P.underlying t=some (.float k)
 | .str=>P.underlying t=some .string
 | .sl e=>P.underlying t=some (.slice e)∧isNo (G.ty e)=false∧(∃ i,P.info? e=some i∧Nat.ble i.bytes 4096=true)∧∀ x,(G.enc e x).length=G.sz e
 | .pt e=>P.underlying t=some (.pointer e)
 | .fn=>∃ a b c,P.underlying t=some (.func a b c)
 | .st fs=>∃ fields,P.underlying t=some (.struct fields)∧fields.toList.map (fun f=>(f.offset,f.type))=fs∧fs.all (fun p=>!isNo (G.ty p.2))=true
 | .arr n e=>P.underlying t=some (.array n e)∧isNo (G.ty e)=false
def nva' {T:Nat→Type}:Cv T→Bool
 | .sc _ | .ro _ _=>true
 | _=>false
def isScC {T:Nat→Type}:Cv T→Bool
 | .sc _=>true
 | _=>false
structure EntOK (P:Program) (G:Sig) (t:Nat) (e:Ent G.T t):Prop where
 ty:TyOK P G t e.ty
 info:e.ty ≠ .no→∃ i z,P.info? t=some i∧i.size=e.sz∧i.zero=some z∧z.cells.toList=e.zero
 pos:e.ty ≠ .no→Nat.ble 1 e.sz=true
 nosz:e.ty=.no→e.sz=0
 zsc:e.zero.all isSc=true
 zlen:e.zero.length=e.sz
 encl:∀ x,(e.enc x).length≤e.sz
 encdec:∀ cs x,e.dec cs=some x→e.enc x=cs
 encd:∀ x,(e.enc x).all nva'=true
 flatd:e.flat=true→∀ x,(e.enc x).all isScC=true
 u8d:∀ x y,(e.enc x).map u8C=(e.enc y).map u8C
theorem nbd7' {P:Program} {G:Sig} (t:Nat):EntOK P G t (noEnt G.T t):=
 ⟨trivial,fun h=>absurd rfl h,fun h=>absurd rfl h,fun _=>rfl,rfl,rfl,fun _=>Nat.le_refl _,fun cs x h=>by simp [noEnt] at h,fun _=>rfl,fun _ _=>rfl,fun _ _=>rfl⟩
theorem nra' {T:Nat→Type} {Q:(t:Nat)→Ent T t→Prop} (h0:∀ t,Q t (noEnt T t)):∀ {l:List (Ent1 T)},(∀ p ∈ l,Q p.t p.e)→∀ t,Q t (findE l t)
 | [],_,t=>h0 t
 | p :: r,h,t=>by
  unfold findE;split
  ·rename_i e
   subst e;exact h p (by simp)
  ·exact nra' h0 (fun q hq=>h q (by simp [hq])) t
theorem nsw' {y:Ty} (h:isNo y=false):y ≠ .no:=by intro e; subst e; simp [isNo] at h
theorem n4j' {P:Program}:∀ {l:List (Nat×Nat)},(∀ p ∈ l,ExtAt P p.1 (extE p.2))→ExtOK P (extL l)
 | [],_,g,h=>absurd rfl h
 | p :: r,h,g,hg=>by
  unfold extL at hg ⊢;cases hb:Nat.beq p.1 g with
  | true=>
   rw [cond_true];rw [← nw'.1 hb];exact h p (by simp)
  | false=>
   rw [hb,cond_false] at hg;rw [cond_false];exact n4j' (fun q hq=>h q (by simp [hq])) g hg
theorem nbek' {P:Program} {tys:List (Nat×TyD)} {l:List (Ent1 (TOf tys))} {gl:Nat→Option ((t:Nat)×TOf tys t)} {ext:Nat→Nat} (h:∀ p ∈ l,EntOK P (mkSig tys l gl ext) p.t p.e) (hx:ExtOK P ext):SigOK P (mkSig tys l gl ext):=by
 have key:∀ t,EntOK P (mkSig tys l gl ext) t (findE l t):=nra' (T:=TOf tys) (Q:=fun t e=>EntOK P (mkSig tys l gl ext) t e) (fun t=>nbd7' t) h
 have tyOf:∀ t,TyOK P (mkSig tys l gl ext) t ((mkSig tys l gl ext).ty t):=fun t=>(key t).ty
 refine ⟨fun t e=>?_,fun t k e=>?_,fun t k e=>?_,fun t e=>?_,fun t e he=>?_,fun t e he=>?_,fun t e=>?_,fun t fs e=>?_,fun t n e he=>?_,fun t=>(key t).info,fun t ht=>?_,fun t=>(key t).nosz,fun t v hv=>?_,fun t=>(key t).zlen,fun t=>(key t).encl,fun t=>(key t).encdec,fun t x c hc=>?_,fun t x c hf hc=>?_,fun t=>(key t).u8d,hx⟩
 ·have:=tyOf t; rw [e] at this; exact this
 ·have:=tyOf t; rw [e] at this; exact this
 ·have:=tyOf t; rw [e] at this; exact this
 ·have:=tyOf t; rw [e] at this; exact this
 ·have:=tyOf t; rw [he] at this
  obtain ⟨h1,h2,⟨i,h3,h4⟩,h5⟩:=this;exact ⟨h1,nsw' h2,⟨i,h3,Nat.le_of_ble_eq_true h4⟩,h5⟩
 ·have:=tyOf t; rw [he] at this; exact this
 ·have:=tyOf t; rw [e] at this; exact this
 ·have:=tyOf t; rw [e] at this
  obtain ⟨fields,h1,h2,h3⟩:=this;refine ⟨fields,h1,h2,fun o u hou=>nsw' ?_⟩
  have:=List.all_eq_true.1 h3 (o,u) hou
  simpa using this
 ·have:=tyOf t; rw [he] at this; exact ⟨this.1,nsw' this.2⟩
 ·exact Nat.le_of_ble_eq_true ((key t).pos ht)
 ·exact List.all_eq_true.1 (key t).zsc v hv
 ·have:=List.all_eq_true.1 ((key t).encd x) c hc
  cases c with
  | sc v=>exact .inl ⟨v,rfl⟩
  | ro t' l=>exact .inr ⟨t',l,rfl⟩
  | _=>simp [nva'] at this
 ·have:=List.all_eq_true.1 ((key t).flatd hf x) c hc
  cases c with
  | sc v=>exact ⟨v,rfl⟩
  | _=>simp [isScC] at this
end Go.Ab
