/- Regions whose order is drawn: every order comes to the same. -/
import Derived.Test.YtbliagnmhfobmaaGreatAbC
import Derived.Orders
namespace Go.Ab
variable {G:Sig}
section
variable (cf:CallF G) (nt:Nat)
def stepD (ops:Array Oper) (o:Oper) (st:St G):M (Out G×St G):=
 M.bind (M.need (dstOk nt o.dst)) fun _=>M.bind (npx' ops st.tm o) fun g=>
  match g.1 with
  | true=>M.bind (act cf (evalO st.tm) (get st.hp) (dstOf 0 o.dst) o.op) fun out=>
    M.bind (M.need (fresh st.us out.nw)) fun _=>M.ret (out,(st.note g.2).next o.dst out)
  | false=>M.ret (⟨some (.tup []),[],[],[]⟩,(st.note g.2).next o.dst ⟨some (.tup []),[],[],[]⟩)
def runD (ops:Array Oper):List Oper→St G→M (List (Out G)×St G)
 | [],st=>M.ret ([],st)
 | o :: t,st=>M.bind (stepD cf nt ops o st) fun p=>M.bind (runD ops t p.2) fun q=>M.ret (p.1 :: q.1,q.2)
end
def nkz' (acc:List Nat):List Edge→Nat
 | []=>0
 | e :: t=>bif Region.binds .any e then Nat.lor (Nat.lor (2 ^ e.on) (acc.getD e.on 0)) (nkz' acc t) else nkz' acc t
def nvj' (n:Nat):List Edge→Bool
 | []=>true
 | e :: t=>(!Region.binds .any e||Nat.blt e.on n)&&nvj' n t
def masks:List Oper→List Nat→List Nat
 | [],acc=>acc
 | o :: t,acc=>masks t (acc++[nkz' acc o.after.toList])
def nmv':Nat→List Oper→Bool
 | _,[]=>true
 | n,o :: t=>nvj' n o.after.toList&&nmv' (n + 1) t
def pairs {α:Type} (f:α→α→Bool) (ms:List Nat) (l:List α):Bool:=
 go 0 l
where
 one (x:α) (i j:Nat):List α→Bool
  | []=>true
  | y :: t=>(f x y||Nat.testBit (ms.getD j 0) i)&&one x i (j + 1) t
 go (i:Nat):List α→Bool
  | []=>true
  | x :: t=>one x i (i + 1) t&&go (i + 1) t
def keysD:List (Nat×Option (Blk G.T))→List Nat
 | []=>[]
 | (n,_) :: t=>n :: keysD t
def disj:List Nat→List Nat→Bool
 | [],_=>true
 | n :: t,l=>!has l n&&disj t l
def nys' (x y:Out G):Bool:=disj (keysD x.d) y.rd&&disj (keysD x.d) (keysD y.d)&&disj (keysD y.d) x.rd
def nu7' (cf:CallF G) (nt:Nat) (ops:Array Oper) (st:St G):M (St G):=
 M.bind (M.need (nmv' 0 ops.toList&&pairs (fun x y=>Oper.apart ops x y) (masks ops.toList []) ops.toList)) fun _=>
 M.bind (runD cf nt ops ops.toList st) fun p=>
 M.bind (M.need (pairs nys' (masks ops.toList []) p.1)) fun _=>M.ret p.2
theorem npc' {α:Type} {f:α→α→Bool} {ms:List Nat} {l:List α} (h:pairs f ms l=true):∀ i j x y,i < j→l[i]?=some x→l[j]?=some y→f x y=true∨(ms.getD j 0).testBit i=true:=by
 have one:∀ (l:List α) (x:α) (i j:Nat),pairs.one f ms x i j l=true→∀ k y,l[k]?=some y→f x y=true∨(ms.getD (j + k) 0).testBit i=true:=by
  intro l
  induction l with
  | nil=>intro x i j _ k y h; simp at h
  | cons z t ih=>
   intro x i j h k y hk;simp only [pairs.one,Bool.and_eq_true,Bool.or_eq_true] at h;cases k with
   | zero=>simp at hk; subst hk; exact h.1
   | succ k=>
    simp at hk
    have:=ih x i (j + 1) h.2 k y hk
    rwa [Nat.add_assoc,Nat.add_comm 1 k] at this
 have go:∀ (l:List α) (n:Nat),pairs.go f ms n l=true→∀ i j x y,i < j→l[i]?=some x→l[j]?=some y→f x y=true∨(ms.getD (n + j) 0).testBit (n + i)=true:=by
  intro l
  induction l with
  | nil=>intro n _ i j x y _ h; simp at h
  | cons z t ih=>
   intro n h i j x y hij hi hj;simp only [pairs.go,Bool.and_eq_true] at h;cases j with
   | zero=>omega
   | succ j=>
    simp at hj;cases i with
    | zero=>
     simp at hi; subst hi
     have:=one t z n (n + 1) h.1 j y hj
     rwa [Nat.add_assoc,Nat.add_comm 1 j] at this
    | succ i=>
     simp at hi
     have:=ih (n + 1) h.2 i j x y (by omega) hi hj
     rwa [Nat.add_assoc,Nat.add_comm 1 j,Nat.add_assoc n 1 i,Nat.add_comm 1 i] at this
 intro i j x y hij hi hj;simpa using go l 0 h i j x y hij hi hj
theorem nrr' {acc:List Nat} {i:Nat}:∀ {es:List Edge},(nkz' acc es).testBit i=true→∃ e ∈ es,Region.binds .any e=true∧(e.on=i∨(acc.getD e.on 0).testBit i=true)
 | [],h=>by simp [nkz'] at h
 | e :: t,h=>by
  simp only [nkz'] at h;cases hb:Region.binds .any e with
  | false=>
   rw [hb] at h;obtain ⟨e',h1,h2⟩:=nrr' (es:=t) h;exact ⟨e',by simp [h1],h2⟩
  | true=>
   rw [hb] at h;have h:(2 ^ e.on ||| acc.getD e.on 0 ||| nkz' acc t).testBit i=true:=h
   rw [Nat.testBit_or,Nat.testBit_or,Nat.testBit_two_pow] at h;simp only [Bool.or_eq_true,decide_eq_true_eq] at h;rcases h with (h | h) | h
   ·exact ⟨e,by simp,hb,.inl h⟩
   ·exact ⟨e,by simp,hb,.inr h⟩
   ·obtain ⟨e',h1,h2⟩:=nrr' (es:=t) h
    exact ⟨e',by simp [h1],h2⟩
theorem nu6' {n:Nat}:∀ {es:List Edge},nvj' n es=true→∀ e ∈ es,Region.binds .any e=true→e.on < n
 | [],_,_,h,_=>by simp at h
 | e :: t,h,e',he,hb=>by
  simp only [nvj',Bool.and_eq_true,Bool.or_eq_true] at h;rcases List.mem_cons.1 he with rfl | he
  ·rcases h.1 with h1 | h1
   ·rw [hb] at h1; simp at h1
   ·simp [Nat.blt] at h1; omega
  ·exact nu6' h.2 e' he hb
theorem nox':∀ {l:List Oper} {n:Nat},nmv' n l=true→∀ i o,l[i]?=some o→∀ e ∈ o.after.toList,Region.binds .any e=true→e.on < n + i
 | [],_,_,i,o,h=>by simp at h
 | p :: t,n,h,i,o,hi=>by
  simp only [nmv',Bool.and_eq_true] at h;cases i with
  | zero=>simp at hi; subst hi; exact nu6' h.1
  | succ i=>
   simp at hi;intro e he hb
   have:=nox' h.2 i o hi e he hb
   omega
theorem ns6':∀ (l:List Oper) (acc:List Nat) (j:Nat),j < acc.length→(masks l acc).getD j 0=acc.getD j 0
 | [],_,_,_=>rfl
 | o :: t,acc,j,h=>by
  rw [masks,ns6' t _ j (by simp; omega)]
  simp [List.getD_eq_getElem?_getD,List.getElem?_append,h]
theorem nxo':∀ (l:List Oper) (acc:List Nat) (j:Nat) (o:Oper),l[j]?=some o →
  ∃ acc',(masks l acc).getD (acc.length + j) 0=nkz' acc' o.after.toList∧∀ k,k < acc.length + j→acc'.getD k 0=(masks l acc).getD k 0
 | [],_,_,_,h=>by simp at h
 | p :: t,acc,j,o,h=>by
  cases j with
  | zero=>
   simp at h; subst h;refine ⟨acc,?_,fun k hk=>?_⟩
   ·rw [masks,ns6' t _ _ (by simp)]
    simp [List.getD_eq_getElem?_getD]
   ·rw [ns6' _ _ _ (by omega)]
  | succ j=>
   simp at h;obtain ⟨acc',h1,h2⟩:=nxo' t (acc++[nkz' acc p.after.toList]) j o h;simp only [List.length_append,List.length_singleton] at h1 h2;refine ⟨acc',?_,fun k hk=>?_⟩
   ·rw [masks,← h1]; congr 1; omega
   ·rw [masks,h2 k (by omega)]
def Down (ops:Array Oper) (D:Nat→Bool):Prop:=∀ j o,ops[j]?=some o→D j=true→∀ e ∈ o.after.toList,Region.binds .any e=true→D e.on=true
theorem nuv' {ops:Array Oper} (he:nmv' 0 ops.toList=true) {D:Nat→Bool} (hD:Down ops D):∀ (n j:Nat) (o:Oper),j < n→ops[j]?=some o→(∀ e ∈ o.after.toList,Region.binds .any e=true→D e.on=true) →
  ∀ i,((masks ops.toList []).getD j 0).testBit i=true→D i=true
 | 0,_,_,h,_,_,_,_=>by omega
 | n + 1,j,o,hj,ho,hpre,i,hi=>by
  have ho':ops.toList[j]?=some o:=by simpa using ho
  obtain ⟨acc',h1,h2⟩:=nxo' ops.toList [] j o ho';simp only [List.length_nil,Nat.zero_add] at h1 h2;rw [h1] at hi;obtain ⟨e,he1,he2,he3⟩:=nrr' hi;have hlt:=nox' he j o ho' e he1 he2;rw [Nat.zero_add] at hlt;have hDe:=hpre e he1 he2;rcases he3 with rfl | he3
  ·exact hDe
  ·rw [h2 e.on hlt] at he3
   have hjs:j < ops.size:=by
    have:=(Array.getElem?_eq_some_iff.1 ho).1; exact this
   obtain ⟨o',ho2⟩:∃ o',ops[e.on]?=some o':=⟨ops[e.on]'(by omega),Array.getElem?_eq_getElem _⟩
   exact nuv' he hD n e.on o' (by omega) ho2 (fun e' h3 h4=>hD e.on o' ho2 hDe e' h3 h4) i he3
structure ExtEq (s s':St G):Prop where
 tm:∀ k,get s.tm k=get s'.tm k
 hp:∀ n,get s.hp n=get s'.hp n
 us:∀ n,n ∈ s.us↔n ∈ s'.us
theorem ExtEq.rfl' {s:St G}:ExtEq s s:=⟨fun _=>rfl,fun _=>rfl,fun _=>Iff.rfl⟩
theorem ExtEq.symm {s s':St G} (h:ExtEq s s'):ExtEq s' s:=⟨fun k=>(h.tm k).symm,fun k=>(h.hp k).symm,fun k=>(h.us k).symm⟩
theorem ExtEq.trans {s s' s'':St G} (h:ExtEq s s') (g:ExtEq s' s''):ExtEq s s'':=⟨fun k=>(h.tm k).trans (g.tm k),fun k=>(h.hp k).trans (g.hp k),fun k=>(h.us k).trans (g.us k)⟩
theorem Rel.ext {cx:Cx} {s s':St G} {a:Act} {w:World} (e:ExtEq s s') (h:Rel G cx s a w):Rel G cx s' a w:=by
 obtain ⟨ν,S,r⟩:=h;have hf:get s.hp=get s'.hp:=funext e.hp;exact ⟨ν,S,⟨fun k v hk=>r.slot k v ((e.tm k).trans hk),hf ▸ r.heap,fun n hn=>(e.us n).1 (r.used n hn),r.defers,r.nt,r.size,r.frame,r.env,r.sub,r.keep,r.names⟩⟩
theorem npv' {s:St G} {d:Option Nat} {o:Out G} (k:Nat):get (s.next d o).tm k=if d=some k then o.v else get s.tm k:=by
 cases d with
 | none=>simp [St.next]
 | some d=>
  simp only [St.next];cases hv:o.v with
  | none=>
   simp only [nsb'];by_cases e:d=k <;> simp [e]
  | some v=>
   simp only [npy'];by_cases e:d=k <;> simp [e]
theorem npw' {s:St G} {d:Option Nat} {o:Out G} (n:Nat):get (s.next d o).hp n=appD (get s.hp) o.d n:=by
 show get (putD s.hp o.d) n=_;rw [nsx']
theorem npz' {s:St G} {d:Option Nat} {o:Out G} (n:Nat):n ∈ (s.next d o).us↔n ∈ o.nw∨n ∈ s.us:=by
 show n ∈ o.nw++s.us↔_;simp
theorem ng7':∀ (d:List (Nat×Option (Blk G.T))) (h:Nat→Option (Blk G.T)) (n:Nat),n ∉ keysD d→appD h d n=h n
 | [],_,_,_=>rfl
 | (m,b) :: t,h,n,hn=>by
  simp only [keysD,List.mem_cons,not_or] at hn;rw [appD,ng7' t _ n hn.2,if_neg (Ne.symm hn.1)]
theorem nsk':∀ (d:List (Nat×Option (Blk G.T))) (h h':Nat→Option (Blk G.T)) (n:Nat),h n=h' n∨n ∈ keysD d→appD h d n=appD h' d n
 | [],_,_,_,hn=>by simpa [keysD,appD] using hn
 | (m,b) :: t,h,h',n,hn=>by
  simp only [appD];refine nsk' t _ _ n ?_;by_cases e:m=n
  ·left; simp [e]
  ·simp only [e,if_false]
   rcases hn with h1 | h1
   ·exact .inl h1
   ·simp only [keysD,List.mem_cons] at h1
    exact .inr (h1.resolve_left (Ne.symm e))
theorem ExtEq.next {s s':St G} (h:ExtEq s s') (d:Option Nat) (o:Out G):ExtEq (s.next d o) (s'.next d o):=
 ⟨fun k=>by rw [npv',npv',h.tm],fun n=>by rw [npw',npw']; exact nsk' _ _ _ _ (.inl (h.hp n)),fun n=>by rw [npz',npz',h.us]⟩
theorem nti' {s:St G} {p:Nat×Bool} (h:get s.tm p.1=some (.p (.one (.sc (.bool p.2))))):ExtEq s (s.note (some p)):=
 ⟨fun k=>by
  show _=get (put s.tm p.1 _) k;rw [npy'];by_cases e:p.1=k
  ·rw [if_pos e,← e,h]
  ·rw [if_neg e],fun _=>rfl,fun _=>Iff.rfl⟩
def n2' (D:Nat→Bool):Nat→List (Option Nat×Out G)→St G→St G
 | _,[],s=>s
 | i,r :: t,s=>n2' D (i + 1) t (bif D i then s.next r.1 r.2 else s)
section
variable {D D':Nat→Bool}
theorem nrb' {k:Nat}:∀ (l:List (Option Nat×Out G)) (n:Nat) (s s':St G),(∀ i r,l[i]?=some r→r.1=some k→D (n + i)=D' (n + i))→get s.tm k=get s'.tm k →
  get (n2' D n l s).tm k=get (n2' D' n l s').tm k
 | [],_,_,_,_,h=>h
 | r :: t,n,s,s',hd,h=>by
  simp only [n2'];refine nrb' t (n + 1) _ _ (fun i q hq hk=>by have:=hd (i + 1) q (by simpa using hq) hk; rwa [← Nat.add_assoc,Nat.add_right_comm] at this) ?_
  by_cases e:r.1=some k
  ·have:=hd 0 r rfl e
   rw [Nat.add_zero] at this;rw [← this];cases D n
   ·exact h
   ·simp [npv',e]
  ·cases D n <;> cases D' n <;> simp [npv',e,h]
theorem nrc' {k:Nat}:∀ (l:List (Option Nat×Out G)) (n:Nat) (s s':St G),(∀ i r,l[i]?=some r→k ∈ keysD r.2.d→D (n + i)=D' (n + i))→get s.hp k=get s'.hp k →
  get (n2' D n l s).hp k=get (n2' D' n l s').hp k
 | [],_,_,_,_,h=>h
 | r :: t,n,s,s',hd,h=>by
  simp only [n2'];refine nrc' t (n + 1) _ _ (fun i q hq hk=>by have:=hd (i + 1) q (by simpa using hq) hk; rwa [← Nat.add_assoc,Nat.add_right_comm] at this) ?_
  by_cases e:k ∈ keysD r.2.d
  ·have:=hd 0 r rfl e
   rw [Nat.add_zero] at this;rw [← this];cases D n
   ·exact h
   ·simp only [cond_true,npw']; exact nsk' _ _ _ _ (.inr e)
  ·cases D n <;> cases D' n <;> simp [npw',ng7' _ _ _ e,h]
theorem nks' {k:Nat}:∀ (l:List (Option Nat×Out G)) (n:Nat) (s:St G),k ∈ (n2' D n l s).us↔k ∈ s.us∨∃ i r,l[i]?=some r∧D (n + i)=true∧k ∈ r.2.nw
 | [],_,s=>by simp [n2']
 | r :: t,n,s=>by
  simp only [n2'];rw [nks' t (n + 1)];constructor
  ·rintro (h | ⟨i,q,h1,h2,h3⟩)
   ·cases hd:D n with
    | false=>rw [hd] at h; exact .inl h
    | true=>
     rw [hd] at h;rcases (npz' k).1 h with h | h
     ·exact .inr ⟨0,r,rfl,by simpa using hd,h⟩
     ·exact .inl h
   ·exact .inr ⟨i + 1,q,by simpa using h1,by rwa [Nat.add_comm i 1,← Nat.add_assoc],h3⟩
  ·rintro (h | ⟨i,q,h1,h2,h3⟩)
   ·left
    cases hd:D n with
    | false=>exact h
    | true=>exact (npz' k).2 (.inr h)
   ·cases i with
    | zero=>
     simp at h1 h2; subst h1
     left; rw [h2]; exact (npz' k).2 (.inl h3)
    | succ i=>
     simp at h1;exact .inr ⟨i,q,h1,by rwa [Nat.add_assoc,Nat.add_comm 1 i],h3⟩
theorem njq':∀ (l:List (Option Nat×Out G)) (n:Nat) (s:St G),n2' (fun _=>false) n l s=s
 | [],_,_=>rfl
 | _ :: t,n,s=>njq' t (n + 1) s
theorem n6b' {k:Nat}:∀ (l:List (Option Nat×Out G)) (n i:Nat) (r:Option Nat×Out G) (s:St G),l[i]?=some r→r.1=some k→D (n + i)=true →
  (∀ j q,i < j→l[j]?=some q→D (n + j)=true→q.1 ≠ some k)→get (n2' D n l s).tm k=r.2.v
 | [],_,_,_,_,h,_,_,_=>by simp at h
 | p :: t,n,i,r,s,hi,hk,hd,hl=>by
  simp only [n2'];cases i with
  | zero=>
   simp at hi hd; subst hi;rw [hd,cond_true];rw [nrb' (D':=fun _=>false) (s':=s.next p.1 p.2) t (n + 1) _ (fun j q hq hqk=>?_) rfl,njq',npv',if_pos hk]
   cases hdj:D (n + 1 + j) with
   | false=>rfl
   | true=>exact absurd hqk (hl (j + 1) q (by omega) (by simpa using hq) (by rwa [Nat.add_comm j 1,← Nat.add_assoc]))
  | succ i=>
   simp at hi;refine n6b' t (n + 1) i r _ hi hk (by rwa [Nat.add_assoc,Nat.add_comm 1 i]) fun j q hj hq hdj=>?_
   exact hl (j + 1) q (by omega) (by simpa using hq) (by rwa [Nat.add_comm j 1,← Nat.add_assoc])
theorem n66' {k:Nat}:∀ (l:List (Option Nat×Out G)) (n i:Nat) (r:Option Nat×Out G) (s:St G) (h:Nat→Option (Blk G.T)),l[i]?=some r→k ∈ keysD r.2.d→D (n + i)=true →
  (∀ j q,i < j→l[j]?=some q→D (n + j)=true→k ∉ keysD q.2.d)→get (n2' D n l s).hp k=appD h r.2.d k
 | [],_,_,_,_,_,h,_,_,_=>by simp at h
 | p :: t,n,i,r,s,h,hi,hk,hd,hl=>by
  simp only [n2'];cases i with
  | zero=>
   simp at hi hd; subst hi;rw [hd,cond_true];rw [nrc' (D':=fun _=>false) (s':=s.next p.1 p.2) t (n + 1) _ (fun j q hq hqk=>?_) rfl,njq',npw']
   ·exact nsk' _ _ _ _ (.inr hk)
   cases hdj:D (n + 1 + j) with
   | false=>rfl
   | true=>exact absurd hqk (hl (j + 1) q (by omega) (by simpa using hq) (by rwa [Nat.add_comm j 1,← Nat.add_assoc]))
  | succ i=>
   simp at hi;refine n66' t (n + 1) i r _ h hi hk (by rwa [Nat.add_assoc,Nat.add_comm 1 i]) fun j q hj hq hdj=>?_
   exact hl (j + 1) q (by omega) (by simpa using hq) (by rwa [Nat.add_comm j 1,← Nat.add_assoc])
end
end Go.Ab
namespace Go.Ab
variable {G:Sig}
theorem nk8' {D D':Nat→Bool}:∀ (l:List (Option Nat×Out G)) (n n':Nat) (s s':St G),(∀ i,i < l.length→D (n + i)=D' (n' + i))→ExtEq s s'→ExtEq (n2' D n l s) (n2' D' n' l s')
 | [],_,_,_,_,_,h=>h
 | r :: t,n,n',s,s',hd,h=>by
  simp only [n2'];refine nk8' t (n + 1) (n' + 1) _ _ (fun i hi=>by have:=hd (i + 1) (by simpa using hi); rwa [← Nat.add_assoc,← Nat.add_assoc,Nat.add_right_comm,Nat.add_right_comm n'] at this) ?_
  have:=hd 0 (by simp)
  rw [Nat.add_zero,Nat.add_zero] at this;rw [← this];cases D n
  ·exact h
  ·exact h.next _ _
inductive StepR (cf:CallF G) (nt:Nat) (ops:Array Oper) (o:Oper) (st:St G) (out:Out G):Prop
 | act (g:Option (Nat×Bool)) (hd:dstOk nt o.dst=true)
   (hg:∀ p,g=some p→get st.tm p.1=some (.p (.one (.sc (.bool p.2))))∧∃ j want,o.guard=some (j,want)∧(ops[j]?).bind (·.dst)=some p.1∧p.2=want)
   (hn:g=none→o.guard=none) (hact:act cf (evalO st.tm) (get st.hp) (dstOf 0 o.dst) o.op (Out G) some=some out) (hf:fresh st.us out.nw=true)
 | skip (p:Nat×Bool) (j:Nat) (want:Bool) (hd:dstOk nt o.dst=true) (hp:get st.tm p.1=some (.p (.one (.sc (.bool p.2))))) (hg:o.guard=some (j,want)) (hj:(ops[j]?).bind (·.dst)=some p.1) (hw:p.2 ≠ want)
   (e:out=⟨some (.tup []),[],[],[]⟩)
 | skipU (gs j:Nat) (want:Bool) (hd:dstOk nt o.dst=true) (hp:get st.tm gs=some (.tup [])) (hg:o.guard=some (j,want)) (hj:(ops[j]?).bind (·.dst)=some gs) (e:out=⟨some (.tup []),[],[],[]⟩)
theorem n03' {s:St G} {d:Option Nat}:ExtEq (s.drop d) (s.next d ⟨some (.tup []),[],[],[]⟩):=by
 cases d with
 | none=>exact ⟨fun _=>rfl,fun _=>rfl,fun _=>Iff.rfl⟩
 | some d=>exact ⟨fun _=>rfl,fun _=>rfl,fun _=>Iff.rfl⟩
section
variable {P:Program} (ok:SigOK P G) (eqok:EqOK P G) {cf:CallF G} (cfok:CfOK P G cf) (cfl:CfLoc cf) {nt:Nat} {ops:Array Oper}
include cfok in
theorem n0f' (o:Oper) (st:St G):Law (stepD cf nt ops o st):=by
 refine nb' (nj' _) fun _=>nb' (nrd' _ _ _) fun g=>?_
 split
 ·exact nb' (nvn' cfok.law _) fun _=>nb' (nj' _) fun _=>nf' _
 ·exact nf' _
include cfok in
theorem ns5':∀ (l:List Oper) (st:St G),Law (runD cf nt ops l st)
 | [],_=>nf' _
 | o :: t,st=>nb' (n0f' cfok o st) fun _=>nb' (ns5' t _) fun _=>nf' _
include cfok in
theorem n8v' {o:Oper} {st st':St G} {out:Out G} (h:stepD cf nt ops o st _ some=some (out,st')):StepR cf nt ops o st out∧ExtEq st' (st.next o.dst out):=by
 unfold stepD at h;obtain ⟨hd,h1⟩:=M.bindneed h;obtain ⟨⟨go,g⟩,hgo,h2⟩:=(nrd' ops st.tm o).spec (M.bind_spec h1)
 have hcar:∀ (hg:∀ p,g=some p→get st.tm p.1=some (.p (.one (.sc (.bool p.2))))∧∃ j want,o.guard=some (j,want)∧(ops[j]?).bind (·.dst)=some p.1∧p.2=want) (hn:g=none→o.guard=none),go=true →
   StepR cf nt ops o st out∧ExtEq st' (st.next o.dst out):=by
  intro hg hn hgo;subst hgo;simp only at h2;obtain ⟨out',hout,h3⟩:=(nvn' cfok.law _).spec (M.bind_spec h2);obtain ⟨hf,h4⟩:=M.bindneed h3;simp [M.ret] at h4;obtain ⟨rfl,rfl⟩:=h4;refine ⟨.act g hd hg hn hout hf,?_⟩;cases g with
  | none=>exact ExtEq.rfl'
  | some p=>exact ((nti' (hg p rfl).1).symm).next _ _
 unfold npx' at hgo;cases hog:o.guard with
 | none=>
  simp [hog,M.ret] at hgo;obtain ⟨rfl,rfl⟩:=hgo;exact hcar (by simp) (fun _=>hog) rfl
 | some jw=>
  obtain ⟨j,want⟩:=jw;simp only [hog,nxe'] at hgo;split at hgo
  ·rename_i gs hgs
   split at hgo
   ·rename_i b hb
    have hsk:∀ bb:Bool,get st.tm gs=some (.p (.one (.sc (.bool bb))))→bb ≠ want→go=false→g=some (gs,bb)→StepR cf nt ops o st out∧ExtEq st' (st.next o.dst out):=by
     intro bb h5 h6 h7 h8;subst h7;simp [M.ret] at h2;obtain ⟨rfl,rfl⟩:=h2;refine ⟨.skip (gs,bb) j want hd h5 hog hgs h6 rfl,?_⟩;rw [h8];exact ((nti' (p:=(gs,bb)) h5).symm).next _ _
    cases b with
    | true=>
     simp at hgo;obtain ⟨rfl,rfl⟩:=hgo;cases want with
     | true=>exact hcar (by rintro p hp; simp at hp; subst hp; exact ⟨hb,j,true,hog,hgs,rfl⟩) (by simp) rfl
     | false=>exact hsk true hb (by simp) rfl rfl
    | false=>
     simp at hgo;obtain ⟨rfl,rfl⟩:=hgo;cases go with
     | false=>exact hsk false hb (by simp) rfl rfl
     | true=>exact hcar (by rintro p hp; simp at hp; subst hp; exact ⟨hb,j,_,hog,hgs,rfl⟩) (by simp) rfl
   ·rename_i hu
    simp at hgo;obtain ⟨rfl,rfl⟩:=hgo;simp [M.ret] at h2;obtain ⟨rfl,rfl⟩:=h2;exact ⟨.skipU gs j want hd hu hog hgs rfl,ExtEq.rfl'⟩
   ·simp at hgo
  ·simp at hgo
def recs (l:List Oper) (outs:List (Out G)):List (Option Nat×Out G):=l.zipWith (fun o out=>(o.dst,out)) outs
theorem nms' {l:List Oper} {outs:List (Out G)} {i:Nat} {r:Option Nat×Out G} (h:(recs l outs)[i]?=some r):∃ o,l[i]?=some o∧outs[i]?=some r.2∧r.1=o.dst:=by
 unfold recs at h;rw [List.getElem?_zipWith] at h;cases h1:l[i]? with
 | none=>simp [h1] at h
 | some o=>
  cases h2:outs[i]? with
  | none=>simp [h1,h2] at h
  | some out=>simp [h1,h2] at h; subst h; exact ⟨o,rfl,rfl,rfl⟩
include cfok in
theorem n0a':∀ (l:List Oper) (st st':St G) (outs:List (Out G)),runD cf nt ops l st _ some=some (outs,st') →
  outs.length=l.length∧ExtEq st' (n2' (fun _=>true) 0 (recs l outs) st) ∧
  ∀ i o out,l[i]?=some o→outs[i]?=some out→∃ s,ExtEq s (n2' (fun j=>decide (j < i)) 0 (recs l outs) st)∧StepR cf nt ops o s out
 | [],st,st',outs,h=>by
  simp [runD,M.ret] at h;obtain ⟨rfl,rfl⟩:=h;exact ⟨rfl,ExtEq.rfl',fun i o out h=>by simp at h⟩
 | p :: t,st,st',outs,h=>by
  unfold runD at h;obtain ⟨⟨out,st1⟩,h1,h2⟩:=(n0f' cfok p st).spec (M.bind_spec h);obtain ⟨⟨outs',st2⟩,h3,h4⟩:=(ns5' cfok t st1).spec (M.bind_spec h2);simp [M.ret] at h4;obtain ⟨rfl,rfl⟩:=h4;obtain ⟨hs,he⟩:=n8v' cfok h1;obtain ⟨e1,e2,e3⟩:=n0a' t st1 st2 outs' h3;refine ⟨by simp [e1],?_,fun i o q hi hq=>?_⟩
  ·refine e2.trans ?_
   show ExtEq _ (n2' _ 1 (recs t outs') (st.next p.dst out));exact nk8' _ _ _ _ _ (fun _ _=>rfl) he
  ·cases i with
   | zero=>
    simp at hi hq; subst hi; subst hq;refine ⟨st,?_,hs⟩;show ExtEq st (n2' _ 1 (recs t outs') st)
    have:=nk8' (D:=fun _=>false) (D':=fun j=>decide (j < 0)) (recs t outs') 0 1 st st (fun i _=>by simp) ExtEq.rfl'
    rwa [njq'] at this
   | succ i=>
    simp at hi hq;obtain ⟨s,g1,g2⟩:=e3 i o q hi hq;refine ⟨s,g1.trans ?_,g2⟩;show ExtEq _ (n2' _ 1 (recs t outs') (st.next p.dst out));exact nk8' _ _ _ _ _ (fun k _=>by simp; omega) he
theorem nbc9' {us l:List Nat} (h:∀ n ∈ l,n ∉ us):fresh us l=true:=by
 induction l with
 | nil=>rfl
 | cons k t ih=>
  simp only [fresh,Bool.and_eq_true,Bool.not_eq_true'];refine ⟨?_,ih fun n hn=>h n (by simp [hn])⟩
  cases hb:has us k with
  | false=>rfl
  | true=>exact absurd ((nc7' us k).1 hb) (h k (by simp))
theorem nn7':∀ {a b:List Nat},disj a b=true→∀ n ∈ a,n ∉ b
 | [],_,_,n,h=>by simp at h
 | m :: t,b,h,n,hn=>by
  simp only [disj,Bool.and_eq_true] at h;rcases List.mem_cons.1 hn with rfl | hn
  ·intro hm; rw [(nc7' b n).2 hm] at h; simp at h
  ·exact nn7' h.2 n hn
theorem n98' {x:Operand} {o:Oper} (h:x ∈ o.op.operands.toList) {t:Nat} (hx:x=.tmp t):t ∈ o.looksAt ops:=by
 unfold Oper.looksAt;refine List.mem_append.2 (.inl (List.mem_filterMap.2 ⟨x,h,?_⟩));subst hx; rfl
theorem nro' {o:Oper} {j:Nat} {want:Bool} {d:Nat} (hg:o.guard=some (j,want)) (hj:(ops[j]?).bind (·.dst)=some d):d ∈ o.looksAt ops:=by
 unfold Oper.looksAt;refine List.mem_append.2 (.inr ?_);rw [hg];simp [hj]
structure Done (cf:CallF G) (nt:Nat) (ops:Array Oper) (st:St G) (outs:List (Out G)):Prop where
 len:outs.length=ops.size
 edges:nmv' 0 ops.toList=true
 slots:pairs (fun x y=>Oper.apart ops x y) (masks ops.toList []) ops.toList=true
 mem:pairs nys' (masks ops.toList []) outs=true
 step:∀ i o out,ops[i]?=some o→outs[i]?=some out→∃ s,ExtEq s (n2' (fun j=>decide (j < i)) 0 (recs ops.toList outs) st)∧StepR cf nt ops o s out
variable {st:St G} {outs:List (Out G)} (dn:Done cf nt ops st outs)
section
variable {D:Nat→Bool} (hD:Down ops D) {i:Nat} {o:Oper} {out:Out G} (ho:ops[i]?=some o) (hout:outs[i]?=some out) (hi:D i=false)
 (hpre:∀ e ∈ o.after.toList,Region.binds .any e=true→D e.on=true)
include dn hD ho hout hi hpre
theorem nm2' {j:Nat} {p:Oper} {q:Out G} (hp:ops[j]?=some p) (hq:outs[j]?=some q) (hj:(j < i∧D j=false)∨(i < j∧D j=true)) :
  (∀ d,p.dst=some d→d ∉ o.looksAt ops)∧(∀ d,p.dst=some d→o.dst ≠ some d)∧(∀ n ∈ keysD q.d,n ∉ out.rd)∧(∀ n ∈ keysD q.d,n ∉ keysD out.d):=by
 have hp':ops.toList[j]?=some p:=by simpa using hp
 have ho':ops.toList[i]?=some o:=by simpa using ho
 have hcur:∀ e ∈ o.after.toList,Region.binds .any e=true→D e.on=true:=hpre;rcases hj with ⟨h1,h2⟩ | ⟨h1,h2⟩
 ·have hno:((masks ops.toList []).getD i 0).testBit j=true→False:=fun hb=>by
   have:=nuv' dn.edges hD (i + 1) i o (by omega) ho hcur j hb
   rw [h2] at this; simp at this
  have a1:=(npc' dn.slots j i p o h1 hp' ho').resolve_right hno;have a2:=(npc' dn.mem j i q out h1 hq hout).resolve_right hno;have a1:=Oper.apart_spec a1;simp only [nys',Bool.and_eq_true] at a2;exact ⟨a1.1,a1.2.1,nn7' a2.1.1,nn7' a2.1.2⟩
 ·have hno:((masks ops.toList []).getD j 0).testBit i=true→False:=fun hb=>by
   have:=nuv' dn.edges hD (j + 1) j p (by omega) hp (hD j p hp h2) i hb
   rw [hi] at this; simp at this
  have a1:=(npc' dn.slots i j o p h1 ho' hp').resolve_right hno;have a2:=(npc' dn.mem i j out q h1 hout hq).resolve_right hno;have a1:=Oper.apart_spec a1;simp only [nys',Bool.and_eq_true] at a2;refine ⟨a1.2.2,fun d hd he=>a1.2.1 d he hd,nn7' a2.2,fun n hn hm=>nn7' a2.1.2 n hm hn⟩
theorem nth' {s:St G} (hs:ExtEq s (n2' (fun j=>decide (j < i)) 0 (recs ops.toList outs) st)) {k:Nat} (hk:k ∈ o.looksAt ops) :
  get (n2' D 0 (recs ops.toList outs) st).tm k=get s.tm k:=by
 rw [hs.tm k];refine nrb' _ 0 _ _ (fun j r hr hrk=>?_) rfl
 rw [Nat.zero_add];obtain ⟨p,h1,h2,h3⟩:=nms' hr;have h1':ops[j]?=some p:=by simpa using h1
 rw [h3] at hrk;by_cases hji:j < i
 ·rw [decide_eq_true hji]
  cases hd:D j with
  | true=>rfl
  | false=>exact absurd hk ((nm2' dn hD ho hout hi hpre h1' h2 (.inl ⟨hji,hd⟩)).1 k hrk)
 ·rw [decide_eq_false hji]
  by_cases e:j=i
  ·subst e; exact hi
  ·cases hd:D j with
   | false=>rfl
   | true=>exact absurd hk ((nm2' dn hD ho hout hi hpre h1' h2 (.inr ⟨by omega,hd⟩)).1 k hrk)
theorem nbdb' {s:St G} (hs:ExtEq s (n2' (fun j=>decide (j < i)) 0 (recs ops.toList outs) st)) {n:Nat} (hn:n ∈ out.rd) :
  get (n2' D 0 (recs ops.toList outs) st).hp n=get s.hp n:=by
 rw [hs.hp n];refine nrc' _ 0 _ _ (fun j r hr hrk=>?_) rfl
 rw [Nat.zero_add];obtain ⟨p,h1,h2,h3⟩:=nms' hr;have h1':ops[j]?=some p:=by simpa using h1
 by_cases hji:j < i
 ·rw [decide_eq_true hji]
  cases hd:D j with
  | true=>rfl
  | false=>exact absurd hn ((nm2' dn hD ho hout hi hpre h1' h2 (.inl ⟨hji,hd⟩)).2.2.1 n hrk)
 ·rw [decide_eq_false hji]
  by_cases e:j=i
  ·subst e; exact hi
  ·cases hd:D j with
   | false=>rfl
   | true=>exact absurd hn ((nm2' dn hD ho hout hi hpre h1' h2 (.inr ⟨by omega,hd⟩)).2.2.1 n hrk)
omit hD hpre in
theorem nbdo' {s:St G} (hs:ExtEq s (n2' (fun j=>decide (j < i)) 0 (recs ops.toList outs) st)) (hf:fresh s.us out.nw=true) :
  fresh (n2' D 0 (recs ops.toList outs) st).us out.nw=true:=by
 refine nbc9' fun n hn hm=>?_
 have h0:=num' hf n hn;rw [hs.us n,nks'] at h0;rcases (nks' _ _ _).1 hm with h | ⟨j,r,h1,h2,h3⟩
 ·exact h0 (.inl h)
 ·rw [Nat.zero_add] at h2
  by_cases hji:j < i
  ·exact h0 (.inr ⟨j,r,h1,by rw [Nat.zero_add]; exact decide_eq_true hji,h3⟩)
  ·by_cases e:j=i
   ·subst e; rw [hi] at h2; simp at h2
   ·obtain ⟨p,q1,q2,q3⟩:=nms' h1
    obtain ⟨s2,g1,g2⟩:=dn.step j p r.2 (by simpa using q1) q2
    cases g2 with
    | act g hd hg hn' hact hf2=>
     refine num' hf2 n h3 ?_;rw [g1.us n,nks'];right
     have hr:(recs ops.toList outs)[i]?=some (o.dst,out):=by
      unfold recs;rw [List.getElem?_zipWith]
      have:ops.toList[i]?=some o:=by simpa using ho
      rw [this,hout]
     exact ⟨i,_,hr,by rw [Nat.zero_add]; exact decide_eq_true (by omega),hn⟩
    | skip p j want hd hp hg hj hw e=>rw [e] at h3; simp at h3
    | skipU gs j want hd hp hg hj e=>rw [e] at h3; simp at h3
include cfl in
theorem nbea':StepR cf nt ops o (n2' D 0 (recs ops.toList outs) st) out:=by
 obtain ⟨s,hs,hstep⟩:=dn.step i o out ho hout;cases hstep with
 | act g hd hg hn hact hf=>
  refine .act g hd (fun p hp=>?_) hn ?_ (nbdo' dn ho hout hi hs hf)
  ·obtain ⟨h1,j,want,h2,h3,h4⟩:=hg p hp
   refine ⟨?_,j,want,h2,h3,h4⟩;rw [nth' dn hD ho hout hi hpre hs (nro' h2 h3)]; exact h1
  ·rw [nbfi' (ev:=evalO s.tm) o.op fun x hx=>?_]
   ·exact nbe1' cfl hact fun n hn=>nbdb' dn hD ho hout hi hpre hs hn
   ·cases x with
    | tmp t=>exact nth' dn hD ho hout hi hpre hs (n98' hx rfl)
    | const v=>cases v <;> rfl
    | _=>rfl
 | skip p j want hd hp hg hj hw e=>
  refine .skip p j want hd ?_ hg hj hw e;rw [nth' dn hD ho hout hi hpre hs (nro' hg hj)]; exact hp
 | skipU gs j want hd hp hg hj e=>
  refine .skipU gs j want hd ?_ hg hj e;rw [nth' dn hD ho hout hi hpre hs (nro' hg hj)]; exact hp
theorem nbeg' {D':Nat→Bool} (hD':D' i=true) (hne:∀ j,j ≠ i→D' j=D j) :
  ExtEq ((n2' D 0 (recs ops.toList outs) st).next o.dst out) (n2' D' 0 (recs ops.toList outs) st):=by
 have hr:(recs ops.toList outs)[i]?=some (o.dst,out):=by
  unfold recs;rw [List.getElem?_zipWith]
  have:ops.toList[i]?=some o:=by simpa using ho
  rw [this,hout]
 have hne0:∀ j r,(recs ops.toList outs)[j]?=some r→r ≠ (o.dst,out)→j ≠ i:=by
  intro j r h1 h2 e;subst e; rw [hr] at h1; simp at h1; exact h2 h1.symm
 refine ⟨fun k=>?_,fun n=>?_,fun n=>?_⟩
 ·rw [npv']
  by_cases e:o.dst=some k
  ·rw [if_pos e]
   rw [n6b' _ 0 i _ _ hr e (by rw [Nat.zero_add]; exact hD') fun j q hj hq hdj hqk=>?_]
   rw [Nat.zero_add,hne j (by omega)] at hdj
   obtain ⟨p,h1,h2,h3⟩:=nms' hq;rw [h3] at hqk;exact (nm2' dn hD ho hout hi hpre (by simpa using h1) h2 (.inr ⟨hj,hdj⟩)).2.1 k hqk e
  ·rw [if_neg e]
   refine nrb' _ 0 _ _ (fun j r h1 h2=>?_) rfl
   rw [Nat.zero_add];exact (hne j fun ej=>by subst ej; rw [hr] at h1; simp at h1; subst h1; exact e h2).symm
 ·rw [npw']
  by_cases e:n ∈ keysD out.d
  ·rw [n66' _ 0 i _ _ (get (n2' D 0 (recs ops.toList outs) st).hp) hr e (by rw [Nat.zero_add]; exact hD') fun j q hj hq hdj hqk=>?_]
   rw [Nat.zero_add,hne j (by omega)] at hdj
   obtain ⟨p,h1,h2,h3⟩:=nms' hq;exact (nm2' dn hD ho hout hi hpre (by simpa using h1) h2 (.inr ⟨hj,hdj⟩)).2.2.2 n hqk e
  ·rw [ng7' _ _ _ e]
   refine nrc' _ 0 _ _ (fun j r h1 h2=>?_) rfl
   rw [Nat.zero_add];exact (hne j fun ej=>by subst ej; rw [hr] at h1; simp at h1; subst h1; exact e h2).symm
 ·rw [npz',nks',nks']
  constructor
  ·rintro (h | h | ⟨j,r,h1,h2,h3⟩)
   ·exact .inr ⟨i,_,hr,by rw [Nat.zero_add]; exact hD',h⟩
   ·exact .inl h
   ·refine .inr ⟨j,r,h1,?_,h3⟩
    rw [Nat.zero_add] at h2 ⊢;by_cases e:j=i
    ·subst e; exact hD'
    ·rw [hne j e]; exact h2
  ·rintro (h | ⟨j,r,h1,h2,h3⟩)
   ·exact .inr (.inl h)
   ·by_cases e:j=i
    ·subst e; rw [hr] at h1; simp at h1; subst h1; exact .inl h3
    ·refine .inr (.inr ⟨j,r,h1,?_,h3⟩)
     rw [Nat.zero_add] at h2 ⊢;rw [← hne j e]; exact h2
end
include ok eqok cfok in
theorem nbd9' {cx:Cx} {o:Oper} {s:St G} {out:Out G} {a:Act} {w:World} (h:StepR cf cx.nt ops o s out) (r:Rel G cx s a w) {K:Act→World→Prop} {Q:Exit→Act→World→Prop}
  (hK:∀ a' w',Rel G cx (s.next o.dst out) a' w'→K a' w'):if Region.wanted o (yielded ops a.tmps) then o.wp P a w K Q else K (a.put o.dst undef) w:=by
 cases h with
 | act g hd hg hn hact hf=>
  refine nvm' ok eqok cfok (.act g out hd hg hn hact hf rfl) r fun a' w' r'=>hK a' w' (r'.ext ?_)
  cases g with
  | none=>exact ExtEq.rfl'
  | some p=>exact ((nti' (hg p rfl).1).symm).next _ _
 | skip p j want hd hp hg hj hw e=>
  subst e;refine nvm' ok eqok cfok (.skip p j want hd hp hg hj hw rfl) r fun a' w' r'=>hK a' w' (r'.ext ?_)
  refine ExtEq.trans n03' ?_;exact ((nti' hp).symm).next _ _
 | skipU gs j want hd hp hg hj e=>
  subst e;exact nvm' ok eqok cfok (.skipU gs j want hd hp hg hj rfl) r fun a' w' r'=>hK a' w' (r'.ext n03')
end
end Go.Ab
namespace Go.Ab
variable {G:Sig}
theorem n0l' {α:Type} {p q:α→Bool}:∀ (l:List α) (x:α),x ∈ l→(∀ y ∈ l,q y=true→p y=true)→p x=true→q x=false→l.countP q < l.countP p
 | [],_,h,_,_,_=>by simp at h
 | y :: t,x,h,hi,hp,hq=>by
  rcases List.mem_cons.1 h with rfl | h
  ·rw [List.countP_cons_of_neg (by simp [hq]),List.countP_cons_of_pos hp]
   have:t.countP q≤t.countP p:=List.countP_mono_left fun z hz hqz=>hi z (by simp [hz]) hqz
   omega
  ·have ih:=n0l' t x h (fun z hz=>hi z (by simp [hz])) hp hq
   cases hy:q y with
   | false=>
    rw [List.countP_cons_of_neg (by simp [hy])]
    rw [List.countP_cons];omega
   | true=>
    rw [List.countP_cons_of_pos hy,List.countP_cons_of_pos (hi y (by simp) hy)]
    omega
section
variable {P:Program} (ok:SigOK P G) (eqok:EqOK P G) {cf:CallF G} (cfok:CfOK P G cf) (cfl:CfLoc cf) {nt:Nat} {ops:Array Oper}
variable {st:St G} {outs:List (Out G)}
def left (n:Nat) (listed:Array Bool):Nat:=(List.range n).countP fun i=>!listed.getD i true
theorem nqm' {listed:Array Bool} {i:Nat} (h:i < listed.size) (j:Nat) (d:Bool):(listed.setIfInBounds i true).getD j d=if j=i then true else listed.getD j d:=by
 simp only [Array.getD_eq_getD_getElem?,Array.getElem?_setIfInBounds];by_cases e:j=i
 ·subst e; simp [h]
 ·simp [Ne.symm e,e]
theorem nqr' {listed:Array Bool} {n i:Nat} (hs:listed.size=n) (hi:i < n) (d d':Bool):listed.getD i d=listed.getD i d':=by
 simp [Array.getD_eq_getD_getElem?,hs,hi]
theorem nul' {listed:Array Bool} {i:Nat}:i ∈ Region.ready .any ops listed↔i < ops.size∧listed.getD i true=false∧∃ o,ops[i]?=some o∧∀ e ∈ o.after.toList,Region.binds .any e=true→listed.getD e.on false=true:=by
 unfold Region.ready;rw [List.mem_filter,List.mem_range];constructor
 ·rintro ⟨h1,h2⟩
  rw [Bool.and_eq_true,Bool.not_eq_true'] at h2;refine ⟨h1,h2.1,ops[i],Array.getElem?_eq_getElem h1,?_⟩;have h3:=h2.2;rw [Array.getElem?_eq_getElem h1] at h3;simp only [Option.map_some,Option.getD_some] at h3;intro e he hb;rw [← Array.all_toList,List.all_eq_true] at h3
  have:=h3 e he
  rw [hb] at this;simpa using this
 ·rintro ⟨h1,h2,o,h3,h4⟩
  refine ⟨h1,?_⟩;rw [h2,h3];simp only [Bool.not_false,Option.map_some,Option.getD_some,Bool.true_and];rw [← Array.all_toList,List.all_eq_true];intro e he;cases hb:Region.binds .any e with
  | false=>rfl
  | true=>simpa using h4 e he hb
include ok eqok cfok cfl in
theorem nbbu' {cx:Cx} (dn:Done cf cx.nt ops st outs) {Q:Exit→Act→World→Prop} (hQ:∀ a' w',Rel G cx (n2' (fun _=>true) 0 (recs ops.toList outs) st) a' w'→Q .normal a' w') :
  ∀ (fuel:Nat) (listed:Array Bool) (a:Act) (w:World),listed.size=ops.size→Down ops (fun i=>listed.getD i false)→left ops.size listed≤fuel →
   Rel G cx (n2' (fun i=>listed.getD i false) 0 (recs ops.toList outs) st) a w→wpAny P .any ops Q fuel listed a w:=by
 have full:∀ (listed:Array Bool) (a:Act) (w:World),listed.size=ops.size→(∀ i,i < ops.size→listed.getD i false=true)→Rel G cx (n2' (fun i=>listed.getD i false) 0 (recs ops.toList outs) st) a w→Q .normal a w:=by
  intro listed a w _ hall r;refine hQ a w (r.ext (nk8' _ _ _ _ _ (fun i hi=>?_) ExtEq.rfl'))
  rw [Nat.zero_add];refine hall i ?_
  have:=(nms' (List.getElem?_eq_getElem hi)).choose_spec.1
  have:=(List.getElem?_eq_some_iff.1 this).1
  simpa using this
 have none_ready:∀ (listed:Array Bool),listed.size=ops.size→Region.ready .any ops listed=[]→∀ (n i:Nat),i < n→i < ops.size→listed.getD i false=true:=by
  intro listed hs hr n
  induction n with
  | zero=>intro i h; omega
  | succ n ih=>
   intro i hin hi;cases hb:listed.getD i false with
   | true=>rfl
   | false=>
    have:i ∈ Region.ready .any ops listed:=by
     refine nul'.2 ⟨hi,by rw [nqr' hs hi true false]; exact hb,ops[i],Array.getElem?_eq_getElem hi,fun e he hbd=>?_⟩
     have hlt:=nox' dn.edges i ops[i] (by simp [hi]) e he hbd
     exact ih e.on (by omega) (by omega)
    rw [hr] at this; simp at this
 intro fuel
 induction fuel with
 | zero=>
  intro listed a w hs hD hl r
  have hall:∀ i,i < ops.size→listed.getD i false=true:=by
   intro i hi;have h0:left ops.size listed=0:=by omega
   unfold left at h0;rw [List.countP_eq_zero] at h0
   have:=h0 i (by simp [hi])
   simp only [Bool.not_eq_true',Bool.not_eq_false] at this;rw [nqr' hs hi false true]; exact this
  refine ⟨?_,full listed a w hs hall r⟩;cases hr:Region.ready .any ops listed with
  | nil=>rfl
  | cons i t=>
   have:i ∈ Region.ready .any ops listed:=by rw [hr]; simp
   obtain ⟨h1,h2,_⟩:=nul'.1 this;rw [nqr' hs h1 true false,hall i h1] at h2; simp at h2
 | succ fuel ih=>
  intro listed a w hs hD hl r;refine ⟨fun hr=>full listed a w hs (fun i hi=>none_ready listed hs hr (i + 1) i (by omega) hi) r,fun i hi=>?_⟩
  obtain ⟨h1,h2,o,ho,hpre⟩:=nul'.1 hi;rw [nqr' hs h1 true false] at h2;have hlen:i < outs.length:=by rw [dn.len]; exact h1
  have hout:outs[i]?=some outs[i]:=List.getElem?_eq_getElem hlen;have hstep:=nbea' cfl dn hD ho hout h2 hpre
  have hnext:=nbeg' dn hD ho hout h2 hpre (D':=fun j=>(listed.setIfInBounds i true).getD j false) (by show Array.getD _ _ _=true; rw [nqm' (by omega)]; simp)
   (fun j hj=>by show Array.getD _ _ _=_; rw [nqm' (by omega),if_neg hj])
  have hD':Down ops (fun j=>(listed.setIfInBounds i true).getD j false):=by
   intro j p hp hj e he hb;show Array.getD _ _ _=true;have hj:Array.getD _ _ _=true:=hj;rw [nqm' (by omega)] at hj ⊢
   by_cases e1:e.on=i
   ·rw [if_pos e1]
   ·rw [if_neg e1]
    by_cases e2:j=i
    ·subst e2
     rw [ho] at hp; simp at hp; subst hp;exact hpre e he hb
    ·rw [if_neg e2] at hj
     exact hD j p hp hj e he hb
  have hwp:=nbd9' ok eqok cfok hstep r (K:=wpAny P .any ops Q fuel (listed.setIfInBounds i true)) (Q:=Q) fun a' w' r'=>
   ih (listed.setIfInBounds i true) a' w' (by simp [hs]) hD' (by
    have:left ops.size (listed.setIfInBounds i true) < left ops.size listed:=by
     refine n0l' _ i (by simp [h1]) (fun j _ hq=>?_) (by rw [nqr' hs h1 true false,h2]; rfl) (by rw [nqm' (by omega)]; simp)
     rw [nqm' (by omega)] at hq
     by_cases e:j=i
     ·rw [if_pos e] at hq; simp at hq
     ·rw [if_neg e] at hq; exact hq
    omega) (r'.ext hnext)
  unfold wpOp;rw [ho];simp only;by_cases hw:Region.wanted o (yielded ops a.tmps)=true
  ·rw [if_pos hw] at hwp ⊢; exact .inl hwp
  ·rw [if_neg hw] at hwp ⊢; exact hwp
include ok eqok cfok cfl in
theorem n0q' (hm:P.follows .mixedOrders=true):DrawOK P G nt (nu7' cf nt):=by
 refine ⟨fun ops st=>nb' (nj' _) fun _=>nb' (ns5' cfok _ _) fun _=>nb' (nj' _) fun _=>nf' _,?_⟩
 intro ops st st' h cx a w id Q hnt hrel hQ;subst hnt;unfold nu7' at h;obtain ⟨h1,h2⟩:=M.bindneed h;obtain ⟨⟨outs,st1⟩,h3,h4⟩:=(ns5' cfok (ops:=ops) ops.toList st).spec (M.bind_spec h2);obtain ⟨h5,h6⟩:=M.bindneed h4;simp [M.ret] at h6; subst h6;obtain ⟨e1,e2,e3⟩:=n0a' cfok ops.toList st st1 outs h3;rw [Bool.and_eq_true] at h1;have dn:Done cf cx.nt ops st outs:=⟨by simpa using e1,h1.1,h1.2,h5,fun i o out hi ho=>e3 i o out (by simpa using hi) ho⟩
 refine wp_region_any hm (nbbu' ok eqok cfok cfl dn (fun a' w' r'=>hQ a' w' (r'.ext e2.symm)) ops.size _ a _ (by simp) ?_ ?_ ?_)
 ·intro j o _ hj
  have hj:(Array.replicate ops.size false).getD j false=true:=hj;simp [Array.getD_eq_getD_getElem?,Array.getElem?_replicate] at hj;split at hj <;> simp at hj
 ·exact Nat.le_trans List.countP_le_length (by simp)
 ·refine (hrel.drawn _).ext ?_
  have:n2' (fun i=>(Array.replicate ops.size false).getD i false) 0 (recs ops.toList outs) st=st:=by
   have e:(fun i=>(Array.replicate ops.size false).getD i false)=fun _=>false:=by
    funext i;simp only [Array.getD_eq_getD_getElem?,Array.getElem?_replicate];split <;> rfl
   rw [e,njq']
  rw [this];exact ExtEq.rfl'
end
end Go.Ab
