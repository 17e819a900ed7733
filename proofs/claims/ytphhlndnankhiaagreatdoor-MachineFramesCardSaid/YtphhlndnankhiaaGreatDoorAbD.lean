import Derived.Test.YtphhlndnankhiaaGreatDoorAbC
import Derived.Orders
set_option linter.all false
open Bool renaming true->A,false->C
open Option renaming some->B
open Go.Ab renaming get->E,Out->H
open Go.Ab.M renaming ret->I,bind->aA,bind_spec->aB
open Nat renaming add_right_comm->aC
open List renaming countP_cons_of_pos->aD,getElem?_zipWith->aE
namespace Go.Ab
variable{G:Sig}
variable{s:St G}{d:Option Nat}{o:H G}
section
variable(cf:CK G)(nt:Nat)
def Akw(ops:Array Oper)(o:Oper)(st:St G):M (H G×St G):=
 aA (M.need (Oa nt o.dst)) λ_=>aA (SW ops st.tm o) λg=>
  match g.1 with
  |true=>aA (act cf (SD st.tm) (E st.hp) (Akm 0 o.dst) o.op) λout=>aA (M.need (Jz st.us out.nw)) λ_=>I (out,(st.note g.2).next o.dst out)
  |false=>I (⟨B (.tup []),[],[],[]⟩,(st.note g.2).next o.dst ⟨B (.tup []),[],[],[]⟩)
def Ahc(ops:Array Oper):List Oper→St G→M (List (H G)×St G)
 |[],st=>I ([],st)
 |o::t,st=>aA (Akw cf nt ops o st) λp=>aA (Ahc ops t p.2) λq=>I (p.1::q.1,q.2)
end
def PX(acc:List Nat):List Edge→Nat
 |[]=>0
 |e::t=>bif Region.binds .any e then Nat.lor (Nat.lor (2^e.on) (acc.getD e.on 0)) (PX acc t)else PX acc t
def ZB(n:Nat):List Edge→Bool
 |[]=>A
 |e::t=>(!Region.binds .any e||Nat.blt e.on n)&&ZB n t
def KL:List Oper→List Nat→List Nat
 |[],acc=>acc
 |o::t,acc=>KL t (acc++[PX acc o.after.toList])
def Qo:Nat→List Oper→Bool
 |_,[]=>A
 |n,o::t=>ZB n o.after.toList&&Qo (n+1) t
def pairs{α:Type}(f:α→α→Bool)(ms:List Nat)(l:List α):Bool:=go 0 l
where
 one (x:α) (i j:Nat):List α→Bool
  |[]=>A
  |y::t=>(f x y||Nat.testBit (ms.getD j 0) i)&&one x i (j+1) t
 go (i:Nat):List α→Bool
  |[]=>A
  |x::t=>one x i (i+1) t&&go (i+1) t
def DT:List (Nat×Option (Blk G.T))→List Nat
 |[]=>[]
 |(n,_)::t=>n::DT t
def disj:List Nat→List Nat→Bool
 |[],_=>A
 |n::t,l=>!has l n&&disj t l
def Ac0(x y:H G):Bool:=disj (DT x.d) y.rd&&disj (DT x.d) (DT y.d)&&disj (DT y.d) x.rd
def TC(cf:CK G)(nt:Nat)(ops:Array Oper)(st:St G):M (St G):=
 aA (M.need (Qo 0 ops.toList&&pairs (λx y=>Oper.apart ops x y) (KL ops.toList []) ops.toList)) λ_=>
 aA (Ahc cf nt ops ops.toList st) λp=>
 aA (M.need (pairs Ac0 (KL ops.toList []) p.1)) λ_=>I p.2
def SO{α:Type}{f:α→α→Bool}{ms:List Nat}{l:List α}(h:pairs f ms l=A):∀i j x y,i<j→l[i]?=B x→l[j]?=B y→f x y=A∨(ms.getD j 0).testBit i=A:=by
 have one:∀(l:List α) (x:α) (i j:Nat),pairs.one f ms x i j l=A→∀k y,l[k]?=B y→f x y=A∨(ms.getD (j+k) 0).testBit i=A:=by
  intro l;induction l with
  |nil=>intro x i j _ k y h;simp at h
  |cons z t ih=>
   intro x i j h k y hk;simp only[pairs.one,e_,S_]at h;cases k with
   |zero=>simp at hk;subst hk;exact h.1
   |succ k=>
    simp at hk
    have:=ih x i (j+1) h.2 k y hk
    rwa [Y_,e2_ 1 k]at this
 have go:∀(l:List α) (n:Nat),pairs.go f ms n l=A→∀i j x y,i<j→l[i]?=B x→l[j]?=B y→f x y=A∨(ms.getD (n+j) 0).testBit (n+i)=A:=by
  intro l;induction l with
  |nil=>intro n _ i j x y _ h;simp at h
  |cons z t ih=>
   intro n h i j x y hij hi hj;simp only[pairs.go,e_]at h;cases j with
   |zero=>omega
   |succ j=>
    simp at hj;cases i with
    |zero=>
     simp at hi;subst hi
     have:=one t z n (n+1) h.1 j y hj
     rwa [Y_,e2_ 1 j]at this
    |succ i=>
     simp at hi
     have:=ih (n+1) h.2 i j x y ω hi hj
     rwa [Y_,e2_ 1 j,Y_ n 1 i,e2_ 1 i]at this
 intro i j x y hij hi hj;simpa using go l 0 h i j x y hij hi hj
def Vt{acc:List Nat}{i:Nat}:∀{es:List Edge},(PX acc es).testBit i=A→∃e∈es,Region.binds .any e=A∧(e.on=i∨(acc.getD e.on 0).testBit i=A)
 |[],h=>by simp[PX]at h
 |e::t,h=>by
  simp only[PX]at h;cases hb:Region.binds .any e with
  |false=>rw[hb]at h;obtain⟨e',h1,h2⟩:=Vt (es:=t) h;exact⟨e',by simp[h1],h2⟩
  |true=>
   rw[hb]at h;have h:(2^e.on|||acc.getD e.on 0|||PX acc t).testBit i=A:=h;rw[Nat.testBit_or,Nat.testBit_or,Nat.testBit_two_pow]at h;simp only[S_,r_]at h;rcases h with(h | h) | h
   ·exact⟨e,σ,hb,.inl h⟩
   ·exact⟨e,σ,hb,.inr h⟩
   ·obtain⟨e',h1,h2⟩:=Vt (es:=t) h;exact⟨e',by simp[h1],h2⟩
def Ym{n:Nat}:∀{es:List Edge},ZB n es=A→∀e∈es,Region.binds .any e=A→e.on<n
 |[],_,_,h,_=>by simp at h
 |e::t,h,e',he,hb=>by
  simp only[ZB,e_,S_]at h;rcases q_.1 he with rfl | he
  ·rcases h.1 with h1 | h1
   ·rw[hb]at h1;simp at h1
   ·simp[Nat.blt]at h1;omega
  ·exact Ym h.2 e' he hb
def RS:∀{l:List Oper}{n:Nat},Qo n l=A→∀i o,l[i]?=B o→∀e∈o.after.toList,Region.binds .any e=A→e.on<n+i
 |[],_,_,i,o,h=>by simp at h
 |p::t,n,h,i,o,hi=>by
  simp only[Qo,e_]at h;cases i with
  |zero=>simp at hi;subst hi;exact Ym h.1
  |succ i=>
   simp at hi;intro e he hb
   have:=RS h.2 i o hi e he hb
   omega
def Xf:∀(l:List Oper) (acc:List Nat) (j:Nat),j<acc.length→(KL l acc).getD j 0=acc.getD j 0
 |[],_,_,_=>rfl
 |o::t,acc,j,h=>by rw[KL,Xf t _ j (by simp;omega)];simp[k_,h0_,h]
def Aek:∀(l:List Oper) (acc:List Nat) (j:Nat) (o:Oper),l[j]?=B o→
  ∃acc',(KL l acc).getD (acc.length+j) 0=PX acc' o.after.toList∧∀k,k<acc.length+j→acc'.getD k 0=(KL l acc).getD k 0
 |[],_,_,_,h=>by simp at h
 |p::t,acc,j,o,h=>by
  cases j with
  |zero=>
   simp at h;subst h;refine⟨acc,?_,λk hk=>?_⟩
   ·rw[KL,Xf t _ _ σ];simp[k_]
   ·rw[Xf _ _ _ ω]
  |succ j=>
   simp at h;obtain⟨acc',h1,h2⟩:=Aek t (acc++[PX acc p.after.toList]) j o h;simp only[h_,G_]at h1 h2;refine⟨acc',?_,λk hk=>?_⟩
   ·rw[KL,← h1];congr 1;omega
   ·rw[KL,h2 k ω]
def Down(ops:Array Oper)(D:Nat→Bool):Prop:=∀j o,ops[j]?=B o→D j=A→∀e∈o.after.toList,Region.binds .any e=A→D e.on=A
def Yl{ops:Array Oper}(he:Qo 0 ops.toList=A){D:Nat→Bool}(hD:Down ops D):∀(n j:Nat) (o:Oper),j<n→ops[j]?=B o→(∀e∈o.after.toList,Region.binds .any e=A→D e.on=A)→
  ∀i,((KL ops.toList []).getD j 0).testBit i=A→D i=A
 |0,_,_,h,_,_,_,_=>by omega
 |n+1,j,o,hj,ho,hpre,i,hi=>by
  have ho':ops.toList[j]?=B o:=by simpa using ho
  obtain⟨acc',h1,h2⟩:=Aek ops.toList [] j o ho';simp only[c7_,n_]at h1 h2;rw[h1]at hi;obtain⟨e,he1,he2,he3⟩:=Vt hi;have hlt:=RS he j o ho' e he1 he2;rw[n_]at hlt;have hDe:=hpre e he1 he2;rcases he3 with rfl | he3
  ·exact hDe
  ·rw[h2 e.on hlt]at he3;have hjs:j<ops.size:=by
    have:=(N_.1 ho).1;exact this
   obtain⟨o',ho2⟩:∃o',ops[e.on]?=B o':=⟨ops[e.on]'ω,b4_ _⟩
   exact Yl he hD n e.on o' ω ho2 (λe' h3 h4=>hD e.on o' ho2 hDe e' h3 h4) i he3
structure ExtEq(s s':St G):Prop where
 tm:∀k,get s.tm k=get s'.tm k
 hp:∀n,get s.hp n=get s'.hp n
 us:∀n,n∈s.us↔n∈s'.us
def ExtEq.rfl':ExtEq s s:=⟨λ_=>rfl,λ_=>rfl,λ_=>Iff.rfl⟩
def ExtEq.symm{s':St G}(h:ExtEq s s'):ExtEq s' s:=⟨λk=>(h.tm k).symm,λk=>(h.hp k).symm,λk=>(h.us k).symm⟩
def ExtEq.trans{s' s'':St G}(h:ExtEq s s')(g:ExtEq s' s''):ExtEq s s'':=⟨λk=>(h.tm k).trans (g.tm k),λk=>(h.hp k).trans (g.hp k),λk=>(h.us k).trans (g.us k)⟩
def Rel.ext{cx:Cx}{s':St G}{a:Act}{w:World}(e:ExtEq s s')(h:Rel G cx s a w):Rel G cx s' a w:=by obtain⟨ν,S,r⟩:=h;have hf:E s.hp=E s'.hp:=funext e.hp;exact⟨ν,S,⟨λk v hk=>r.slot k v ((e.tm k).trans hk),hf▸r.heap,λn hn=>(e.us n).1 (r.used n hn),r.defers,r.nt,r.size,r.frame,r.env,r.sub,r.keep,r.names⟩⟩
def SY(k:Nat):E (s.next d o).tm k=if d=B k then o.v else E s.tm k:=by
 cases d with
 |none=>simp[St.next]
 |some d=>
  simp only[St.next];cases hv:o.v with
  |none=>simp only[VQ];by_cases e:d=k<;>simp[e]
  |some v=>simp only[SV];by_cases e:d=k<;>simp[e]
def SX(n:Nat):E (s.next d o).hp n=BD (E s.hp) o.d n:=by show E (Ab6 s.hp o.d) n=_;rw[WS]
def SZ(n:Nat):n∈(s.next d o).us↔n∈o.nw∨n∈s.us:=by show n∈o.nw++s.us↔_;simp
def KC:∀(d:List (Nat×Option (Blk G.T))) (h:Nat→Option (Blk G.T)) (n:Nat),n∉DT d→BD h d n=h n
 |[],_,_,_=>rfl
 |(m,b)::t,h,n,hn=>by simp only[DT,q_,not_or]at hn;rw[BD,KC t _ n hn.2,if_neg (f4_ hn.1)]
def VM:∀(d:List (Nat×Option (Blk G.T))) (h h':Nat→Option (Blk G.T)) (n:Nat),h n=h' n∨n∈DT d→BD h d n=BD h' d n
 |[],_,_,_,hn=>by simpa[DT,BD]using hn
 |(m,b)::t,h,h',n,hn=>by
  simp only[BD];refine VM t _ _ n ?_;by_cases e:m=n
  ·left;simp[e]
  ·simp only[e,e8_];rcases hn with h1 | h1
   ·exact .inl h1
   ·simp only[DT,q_]at h1;exact .inr (h1.resolve_left (f4_ e))
def ExtEq.next{s':St G}(h:ExtEq s s')(d:Option Nat)(o:H G):ExtEq (s.next d o) (s'.next d o):=⟨λk=>by rw[SY,SY,h.tm],λn=>by rw[SX,SX];exact VM _ _ _ _ (.inl (h.hp n)),λn=>by rw[SZ,SZ,h.us]⟩
def Xh{p:Nat×Bool}(h:E s.tm p.1=B (.p (.one (.sc (.bool p.2))))):ExtEq s (s.note (B p)):=
 ⟨λk=>by
  show _=E (put s.tm p.1 _) k;rw[SV];by_cases e:p.1=k
  ·rw[if_pos e,← e,h]
  ·rw[if_neg e],λ_=>rfl,λ_=>Iff.rfl⟩
def replay(D:Nat→Bool):Nat→List (Option Nat×H G)→St G→St G
 |_,[],s=>s
 |i,r::t,s=>replay D (i+1) t (bif D i then s.next r.1 r.2 else s)
section
variable{D D':Nat→Bool}
def US{k:Nat}:∀(l:List (Option Nat×H G)) (n:Nat) (s s':St G),(∀i r,l[i]?=B r→r.1=B k→D (n+i)=D' (n+i))→E s.tm k=E s'.tm k→
  E (replay D n l s).tm k=E (replay D' n l s').tm k
 |[],_,_,_,_,h=>h
 |r::t,n,s,s',hd,h=>by
  simp only[replay];refine US t (n+1) _ _ (λi q hq hk=>by have:=hd (i+1) q (by simpa using hq) hk;rwa [← Y_,aC]at this) ?_;by_cases e:r.1=B k
  ·have:=hd 0 r rfl e
   rw[b9_]at this;rw[← this];cases D n
   ·exact h
   ·simp[SY,e]
  ·cases D n<;>cases D' n<;>simp[SY,e,h]
def UR{k:Nat}:∀(l:List (Option Nat×H G)) (n:Nat) (s s':St G),(∀i r,l[i]?=B r→k∈DT r.2.d→D (n+i)=D' (n+i))→E s.hp k=E s'.hp k→
  E (replay D n l s).hp k=E (replay D' n l s').hp k
 |[],_,_,_,_,h=>h
 |r::t,n,s,s',hd,h=>by
  simp only[replay];refine UR t (n+1) _ _ (λi q hq hk=>by have:=hd (i+1) q (by simpa using hq) hk;rwa [← Y_,aC]at this) ?_;by_cases e:k∈DT r.2.d
  ·have:=hd 0 r rfl e
   rw[b9_]at this;rw[← this];cases D n
   ·exact h
   ·simp only[d_,SX];exact VM _ _ _ _ (.inr e)
  ·cases D n<;>cases D' n<;>simp[SX,KC _ _ _ e,h]
def ON{k:Nat}:∀(l:List (Option Nat×H G)) (n:Nat) (s:St G),k∈(replay D n l s).us↔k∈s.us∨∃i r,l[i]?=B r∧D (n+i)=A∧k∈r.2.nw
 |[],_,s=>by simp[replay]
 |r::t,n,s=>by
  simp only[replay];rw[ON t (n+1)];constructor
  ·rintro(h | ⟨i,q,h1,h2,h3⟩)
   ·cases hd:D n with
    |false=>rw[hd]at h;exact .inl h
    |true=>
     rw[hd]at h;rcases(SZ k).1 h with h | h
     ·exact .inr ⟨0,r,rfl,by simpa using hd,h⟩
     ·exact .inl h
   ·exact .inr ⟨i+1,q,by simpa using h1,by rwa [e2_ i 1,← Y_],h3⟩
  ·rintro(h | ⟨i,q,h1,h2,h3⟩)
   ·left;cases hd:D n with
    |false=>exact h
    |true=>exact(SZ k).2 (.inr h)
   ·cases i with
    |zero=>simp at h1 h2;subst h1;left;rw[h2];exact(SZ k).2 (.inl h3)
    |succ i=>simp at h1;exact .inr ⟨i,q,h1,by rwa [Y_,e2_ 1 i],h3⟩
def NC:∀(l:List (Option Nat×H G)) (n:Nat) (s:St G),replay (λ_=>C) n l s=s
 |[],_,_=>rfl
 |_::t,n,s=>NC t (n+1) s
def Aq6{k:Nat}:∀(l:List (Option Nat×H G)) (n i:Nat) (r:Option Nat×H G) (s:St G),l[i]?=B r→r.1=B k→D (n+i)=A→
  (∀j q,i<j→l[j]?=B q→D (n+j)=A→q.1≠B k)→E (replay D n l s).tm k=r.2.v
 |[],_,_,_,_,h,_,_,_=>by simp at h
 |p::t,n,i,r,s,hi,hk,hd,hl=>by
  simp only[replay];cases i with
  |zero=>
   simp at hi hd;subst hi;rw[hd,d_];rw[US (D':=λ_=>C) (s':=s.next p.1 p.2) t (n+1) _ (λj q hq hqk=>?_) rfl,NC,SY,if_pos hk];cases hdj:D (n+1+j)with
   |false=>rfl
   |true=>exact absurd hqk (hl (j+1) q ω (by simpa using hq) (by rwa [e2_ j 1,← Y_]))
  |succ i=>simp at hi;refine Aq6 t (n+1) i r _ hi hk (by rwa [Y_,e2_ 1 i]) λj q hj hq hdj=>?_;exact hl (j+1) q ω (by simpa using hq) (by rwa [e2_ j 1,← Y_])
def Aq5{k:Nat}:∀(l:List (Option Nat×H G)) (n i:Nat) (r:Option Nat×H G) (s:St G) (h:Nat→Option (Blk G.T)),l[i]?=B r→k∈DT r.2.d→D (n+i)=A→
  (∀j q,i<j→l[j]?=B q→D (n+j)=A→k∉DT q.2.d)→E (replay D n l s).hp k=BD h r.2.d k
 |[],_,_,_,_,_,h,_,_,_=>by simp at h
 |p::t,n,i,r,s,h,hi,hk,hd,hl=>by
  simp only[replay];cases i with
  |zero=>
   simp at hi hd;subst hi;rw[hd,d_];rw[UR (D':=λ_=>C) (s':=s.next p.1 p.2) t (n+1) _ (λj q hq hqk=>?_) rfl,NC,SX]
   ·exact VM _ _ _ _ (.inr hk)
   cases hdj:D (n+1+j)with
   |false=>rfl
   |true=>exact absurd hqk (hl (j+1) q ω (by simpa using hq) (by rwa [e2_ j 1,← Y_]))
  |succ i=>simp at hi;refine Aq5 t (n+1) i r _ h hi hk (by rwa [Y_,e2_ 1 i]) λj q hj hq hdj=>?_;exact hl (j+1) q ω (by simpa using hq) (by rwa [e2_ j 1,← Y_])
end
end Go.Ab
namespace Go.Ab
variable{G:Sig}
variable{s:St G}{o:Oper}{out:H G}{j:Nat}
def Qb{D D':Nat→Bool}:∀(l:List (Option Nat×H G)) (n n':Nat) (s s':St G),(∀i,i<l.length→D (n+i)=D' (n'+i))→ExtEq s s'→ExtEq (replay D n l s) (replay D' n' l s')
 |[],_,_,_,_,_,h=>h
 |r::t,n,n',s,s',hd,h=>by
  simp only[replay];refine Qb t (n+1) (n'+1) _ _ (λi hi=>by have:=hd (i+1) (by simpa using hi);rwa [← Y_,← Y_,aC,aC n']at this) ?_
  have:=hd 0 σ
  rw[b9_,b9_]at this;rw[← this];cases D n
  ·exact h
  ·exact h.next _ _
inductive StepR(cf:CK G)(nt:Nat)(ops:Array Oper)(o:Oper)(st:St G)(out:Out G):Prop
 |act (g:Option (Nat×Bool)) (hd:Oa nt o.dst=true)
   (hg:∀p,g=some p→get st.tm p.1=some (.p (.one (.sc (.bool p.2))))∧∃j want,o.guard=some (j,want)∧(ops[j]?).bind (·.dst)=some p.1∧p.2=want)
   (hn:g=none→o.guard=none) (hact:act cf (SD st.tm) (get st.hp) (Akm 0 o.dst) o.op (Out G) some=some out) (hf:Jz st.us out.nw=true)
 |skip (p:Nat×Bool) (j:Nat) (want:Bool) (hd:Oa nt o.dst=true) (hp:get st.tm p.1=some (.p (.one (.sc (.bool p.2))))) (hg:o.guard=some (j,want)) (hj:(ops[j]?).bind (·.dst)=some p.1) (hw:p.2≠want)
   (e:out=⟨some (.tup []),[],[],[]⟩)
 |skipU (gs j:Nat) (want:Bool) (hd:Oa nt o.dst=true) (hp:get st.tm gs=some (.tup [])) (hg:o.guard=some (j,want)) (hj:(ops[j]?).bind (·.dst)=some gs) (e:out=⟨some (.tup []),[],[],[]⟩)
def Ahw{d:Option Nat}:ExtEq (s.drop d) (s.next d ⟨B (.tup []),[],[],[]⟩):=by
 cases d with
 |none=>exact⟨λ_=>rfl,λ_=>rfl,λ_=>Iff.rfl⟩
 |some d=>exact⟨λ_=>rfl,λ_=>rfl,λ_=>Iff.rfl⟩
section
variable{P:Program}(ok:SigOK P G)(eqok:EqOK P G){cf:CK G}(cfok:CfOK P G cf)(cfl:Acq cf){nt:Nat}{ops:Array Oper}
include cfok in
theorem Aim(o:Oper)(st:St G):Law (Akw cf nt ops o st):=by
 refine Ad (Ax _) λ_=>Ad (UI _ _ _) λg=>?_;split
 ·exact Ad (ZE cfok.law _) λ_=>Ad (Ax _) λ_=>Ah _
 ·exact Ah _
include cfok in
theorem Xc:∀(l:List Oper) (st:St G),Law (Ahc cf nt ops l st)
 |[],_=>Ah _
 |o::t,st=>Ad (Aim cfok o st) λ_=>Ad (Xc t _) λ_=>Ah _
include cfok in
theorem Avf{st st':St G}(h:Akw cf nt ops o st _ B=B (out,st')):StepR cf nt ops o st out∧ExtEq st' (st.next o.dst out):=by
 unfold Akw at h;obtain⟨hd,h1⟩:=M.bindneed h;obtain⟨⟨go,g⟩,hgo,h2⟩:=(UI ops st.tm o).spec (aB h1);have hcar:∀(hg:∀p,g=B p→E st.tm p.1=B (.p (.one (.sc (.bool p.2))))∧∃j want,o.guard=B (j,want)∧(ops[j]?).bind (·.dst)=B p.1∧p.2=want) (hn:g=none→o.guard=none),go=A→
   StepR cf nt ops o st out∧ExtEq st' (st.next o.dst out):=by
  intro hg hn hgo;subst hgo;simp only at h2;obtain⟨out',hout,h3⟩:=(ZE cfok.law _).spec (aB h2);obtain⟨hf,h4⟩:=M.bindneed h3;simp[I]at h4;obtain⟨rfl,rfl⟩:=h4;refine⟨.act g hd hg hn hout hf,?_⟩;cases g with
  |none=>exact ExtEq.rfl'
  |some p=>exact((Xh (hg p rfl).1).symm).next _ _
 unfold SW at hgo;cases hog:o.guard with
 |none=>simp[hog,I]at hgo;obtain⟨rfl,rfl⟩:=hgo;exact hcar σ (λ_=>hog) rfl
 |some jw=>
  obtain⟨j,want⟩:=jw;simp only[hog,Ad3]at hgo;split at hgo
  ·rename_i gs hgs;split at hgo
   ·rename_i b hb;have hsk:∀bb:Bool,E st.tm gs=B (.p (.one (.sc (.bool bb))))→bb≠want→go=C→g=B (gs,bb)→StepR cf nt ops o st out∧ExtEq st' (st.next o.dst out):=by
     intro bb h5 h6 h7 h8;subst h7;simp[I]at h2;obtain⟨rfl,rfl⟩:=h2;refine⟨.skip (gs,bb) j want hd h5 hog hgs h6 rfl,?_⟩;rw[h8];exact((Xh (p:=(gs,bb)) h5).symm).next _ _
    cases b with
    |true=>
     simp at hgo;obtain⟨rfl,rfl⟩:=hgo;cases want with
     |true=>exact hcar (by rintro p hp;simp at hp;subst hp;exact⟨hb,j,A,hog,hgs,rfl⟩) σ rfl
     |false=>exact hsk A hb σ rfl rfl
    |false=>
     simp at hgo;obtain⟨rfl,rfl⟩:=hgo;cases go with
     |false=>exact hsk C hb σ rfl rfl
     |true=>exact hcar (by rintro p hp;simp at hp;subst hp;exact⟨hb,j,_,hog,hgs,rfl⟩) σ rfl
   ·rename_i hu;simp at hgo;obtain⟨rfl,rfl⟩:=hgo;simp[I]at h2;obtain⟨rfl,rfl⟩:=h2;exact⟨.skipU gs j want hd hu hog hgs rfl,ExtEq.rfl'⟩
   ·simp at hgo
  ·simp at hgo
def recs(l:List Oper)(outs:List (H G)):List (Option Nat×H G):=l.zipWith (λo out=>(o.dst,out)) outs
theorem QE{l:List Oper}{outs:List (H G)}{i:Nat}{r:Option Nat×H G}(h:(recs l outs)[i]?=B r):∃o,l[i]?=B o∧outs[i]?=B r.2∧r.1=o.dst:=by
 unfold recs at h;rw[aE]at h;cases h1:l[i]? with
 |none=>simp[h1]at h
 |some o=>
  cases h2:outs[i]? with
  |none=>simp[h1,h2]at h
  |some out=>simp[h1,h2]at h;subst h;exact⟨o,rfl,rfl,rfl⟩
include cfok in
theorem Ai7:∀(l:List Oper) (st st':St G) (outs:List (H G)),Ahc cf nt ops l st _ B=B (outs,st')→
  outs.length=l.length∧ExtEq st' (replay (λ_=>A) 0 (recs l outs) st)∧
  ∀i o out,l[i]?=B o→outs[i]?=B out→∃s,ExtEq s (replay (λj=>decide (j<i)) 0 (recs l outs) st)∧StepR cf nt ops o s out
 |[],st,st',outs,h=>by simp[Ahc,I]at h;obtain⟨rfl,rfl⟩:=h;exact⟨rfl,ExtEq.rfl',λi o out h=>by simp at h⟩
 |p::t,st,st',outs,h=>by
  unfold Ahc at h;obtain⟨⟨out,st1⟩,h1,h2⟩:=(Aim cfok p st).spec (aB h);obtain⟨⟨outs',st2⟩,h3,h4⟩:=(Xc cfok t st1).spec (aB h2);simp[I]at h4;obtain⟨rfl,rfl⟩:=h4;obtain⟨hs,he⟩:=Avf cfok h1;obtain⟨e1,e2,e3⟩:=Ai7 t st1 st2 outs' h3;refine⟨by simp[e1],?_,λi o q hi hq=>?_⟩
  ·refine e2.trans ?_;show ExtEq _ (replay _ 1 (recs t outs') (st.next p.dst out));exact Qb _ _ _ _ _ (λ_ _=>rfl) he
  ·cases i with
   |zero=>
    simp at hi hq;subst hi;subst hq;refine⟨st,?_,hs⟩;show ExtEq st (replay _ 1 (recs t outs') st)
    have:=Qb (D:=λ_=>C) (D':=λj=>decide (j<0)) (recs t outs') 0 1 st st (λi _=>by simp) ExtEq.rfl'
    rwa [NC]at this
   |succ i=>simp at hi hq;obtain⟨s,g1,g2⟩:=e3 i o q hi hq;refine⟨s,g1.trans ?_,g2⟩;show ExtEq _ (replay _ 1 (recs t outs') (st.next p.dst out));exact Qb _ _ _ _ _ (λk _=>by simp;omega) he
theorem Abj{us l:List Nat}(h:∀n∈l,n∉us):Jz us l=A:=by
 induction l with
 |nil=>rfl
 |cons k t ih=>
  simp only[Jz,e_,a9_];refine⟨?_,ih λn hn=>h n (by simp[hn])⟩;cases hb:has us k with
  |false=>rfl
  |true=>exact absurd ((Hf us k).1 hb) (h k σ)
theorem RE:∀{a b:List Nat},disj a b=A→∀n∈a,n∉b
 |[],_,_,n,h=>by simp at h
 |m::t,b,h,n,hn=>by
  simp only[disj,e_]at h;rcases q_.1 hn with rfl | hn
  ·intro hm;rw[(Hf b n).2 hm]at h;simp at h
  ·exact RE h.2 n hn
theorem Az0{x:Operand}(h:x∈o.op.operands.toList){t:Nat}(hx:x=.tmp t):t∈o.looksAt ops:=by unfold Oper.looksAt;refine p_.2 (.inl (List.mem_filterMap.2 ⟨x,h,?_⟩));subst hx;rfl
theorem Vp{want:Bool}{d:Nat}(hg:o.guard=B (j,want))(hj:(ops[j]?).bind (·.dst)=B d):d∈o.looksAt ops:=by unfold Oper.looksAt;refine p_.2 (.inr ?_);rw[hg];simp[hj]
structure Done(cf:CK G)(nt:Nat)(ops:Array Oper)(st:St G)(outs:List (Out G)):Prop where
 len:outs.length=ops.size
 edges:Qo 0 ops.toList=true
 slots:pairs (λx y=>Oper.apart ops x y) (KL ops.toList []) ops.toList=true
 mem:pairs Ac0 (KL ops.toList []) outs=true
 step:∀i o out,ops[i]?=some o→outs[i]?=some out→∃s,ExtEq s (replay (λj=>decide (j<i)) 0 (recs ops.toList outs) st)∧StepR cf nt ops o s out
variable{st:St G}{outs:List (H G)}(dn:Done cf nt ops st outs)
section
variable{D:Nat→Bool}(hD:Down ops D){i:Nat}{o:Oper}{out:H G}(ho:ops[i]?=B o)(hout:outs[i]?=B out)(hi:D i=C)
 (hpre:∀e∈o.after.toList,Region.binds .any e=A→D e.on=A)
include dn hD ho hout hi hpre
theorem Qp{p:Oper}{q:H G}(hp:ops[j]?=B p)(hq:outs[j]?=B q)(hj:(j<i∧D j=C)∨(i<j∧D j=A)):
  (∀d,p.dst=B d→d∉o.looksAt ops)∧(∀d,p.dst=B d→o.dst≠B d)∧(∀n∈DT q.d,n∉out.rd)∧(∀n∈DT q.d,n∉DT out.d):=by
 have hp':ops.toList[j]?=B p:=by simpa using hp
 have ho':ops.toList[i]?=B o:=by simpa using ho
 have hcur:∀e∈o.after.toList,Region.binds .any e=A→D e.on=A:=hpre;rcases hj with⟨h1,h2⟩ | ⟨h1,h2⟩
 ·have hno:((KL ops.toList []).getD i 0).testBit j=A→False:=λhb=>by
   have:=Yl dn.edges hD (i+1) i o ω ho hcur j hb
   rw[h2]at this;simp at this
  have a1:=(SO dn.slots j i p o h1 hp' ho').resolve_right hno;have a2:=(SO dn.mem j i q out h1 hq hout).resolve_right hno;have a1:=Oper.apart_spec a1;simp only[Ac0,e_]at a2;exact⟨a1.1,a1.2.1,RE a2.1.1,RE a2.1.2⟩
 ·have hno:((KL ops.toList []).getD j 0).testBit i=A→False:=λhb=>by
   have:=Yl dn.edges hD (j+1) j p ω hp (hD j p hp h2) i hb
   rw[hi]at this;simp at this
  have a1:=(SO dn.slots i j o p h1 ho' hp').resolve_right hno;have a2:=(SO dn.mem i j out q h1 hout hq).resolve_right hno;have a1:=Oper.apart_spec a1;simp only[Ac0,e_]at a2;refine⟨a1.2.2,λd hd he=>a1.2.1 d he hd,RE a2.2,λn hn hm=>RE a2.1.2 n hm hn⟩
theorem Wj(hs:ExtEq s (replay (λj=>decide (j<i)) 0 (recs ops.toList outs) st)){k:Nat}(hk:k∈o.looksAt ops):
  E (replay D 0 (recs ops.toList outs) st).tm k=E s.tm k:=by
 rw[hs.tm k];refine US _ 0 _ _ (λj r hr hrk=>?_) rfl;rw[n_];obtain⟨p,h1,h2,h3⟩:=QE hr;have h1':ops[j]?=B p:=by simpa using h1
 rw[h3]at hrk;by_cases hji:j<i
 ·rw[b_ hji];cases hd:D j with
  |true=>rfl
  |false=>exact absurd hk ((Qp dn hD ho hout hi hpre h1' h2 (.inl ⟨hji,hd⟩)).1 k hrk)
 ·rw[f_ hji];by_cases e:j=i
  ·subst e;exact hi
  ·cases hd:D j with
   |false=>rfl
   |true=>exact absurd hk ((Qp dn hD ho hout hi hpre h1' h2 (.inr ⟨ω,hd⟩)).1 k hrk)
theorem Bbv(hs:ExtEq s (replay (λj=>decide (j<i)) 0 (recs ops.toList outs) st)){n:Nat}(hn:n∈out.rd):
  E (replay D 0 (recs ops.toList outs) st).hp n=E s.hp n:=by
 rw[hs.hp n];refine UR _ 0 _ _ (λj r hr hrk=>?_) rfl;rw[n_];obtain⟨p,h1,h2,h3⟩:=QE hr;have h1':ops[j]?=B p:=by simpa using h1
 by_cases hji:j<i
 ·rw[b_ hji];cases hd:D j with
  |true=>rfl
  |false=>exact absurd hn ((Qp dn hD ho hout hi hpre h1' h2 (.inl ⟨hji,hd⟩)).2.2.1 n hrk)
 ·rw[f_ hji];by_cases e:j=i
  ·subst e;exact hi
  ·cases hd:D j with
   |false=>rfl
   |true=>exact absurd hn ((Qp dn hD ho hout hi hpre h1' h2 (.inr ⟨ω,hd⟩)).2.2.1 n hrk)
omit hD hpre in
theorem Bbw(hs:ExtEq s (replay (λj=>decide (j<i)) 0 (recs ops.toList outs) st))(hf:Jz s.us out.nw=A):
  Jz (replay D 0 (recs ops.toList outs) st).us out.nw=A:=by
 refine Abj λn hn hm=>?_;have h0:=Ys hf n hn;rw[hs.us n,ON]at h0;rcases(ON _ _ _).1 hm with h | ⟨j,r,h1,h2,h3⟩
 ·exact h0 (.inl h)
 ·rw[n_]at h2;by_cases hji:j<i
  ·exact h0 (.inr ⟨j,r,h1,by rw[n_];exact b_ hji,h3⟩)
  ·by_cases e:j=i
   ·subst e;rw[hi]at h2;simp at h2
   ·obtain⟨p,q1,q2,q3⟩:=QE h1;obtain⟨s2,g1,g2⟩:=dn.step j p r.2 (by simpa using q1) q2;cases g2 with
    |act g hd hg hn' hact hf2=>
     refine Ys hf2 n h3 ?_;rw[g1.us n,ON];right;have hr:(recs ops.toList outs)[i]?=B (o.dst,out):=by
      unfold recs;rw[aE]
      have:ops.toList[i]?=B o:=by simpa using ho
      rw[this,hout]
     exact⟨i,_,hr,by rw[n_];exact b_ ω,hn⟩
    |skip p j want hd hp hg hj hw e=>rw[e]at h3;simp at h3
    |skipU gs j want hd hp hg hj e=>rw[e]at h3;simp at h3
include cfl in
theorem Bel:StepR cf nt ops o (replay D 0 (recs ops.toList outs) st) out:=by
 obtain⟨s,hs,hstep⟩:=dn.step i o out ho hout;cases hstep with
 |act g hd hg hn hact hf=>
  refine .act g hd (λp hp=>?_) hn ?_ (Bbw dn ho hout hi hs hf)
  ·obtain⟨h1,j,want,h2,h3,h4⟩:=hg p hp;refine⟨?_,j,want,h2,h3,h4⟩;rw[Wj dn hD ho hout hi hpre hs (Vp h2 h3)];exact h1
  ·rw[Bhr (ev:=SD s.tm) o.op λx hx=>?_]
   ·exact Bhq cfl hact λn hn=>Bbv dn hD ho hout hi hpre hs hn
   ·cases x with
    |tmp t=>exact Wj dn hD ho hout hi hpre hs (Az0 hx rfl)
    |const v=>cases v<;>rfl
    |_=>rfl
 |skip p j want hd hp hg hj hw e=>refine .skip p j want hd ?_ hg hj hw e;rw[Wj dn hD ho hout hi hpre hs (Vp hg hj)];exact hp
 |skipU gs j want hd hp hg hj e=>refine .skipU gs j want hd ?_ hg hj e;rw[Wj dn hD ho hout hi hpre hs (Vp hg hj)];exact hp
theorem Bdu{D':Nat→Bool}(hD':D' i=A)(hne:∀j,j≠i→D' j=D j) :
  ExtEq ((replay D 0 (recs ops.toList outs) st).next o.dst out) (replay D' 0 (recs ops.toList outs) st):=by
 have hr:(recs ops.toList outs)[i]?=B (o.dst,out):=by
  unfold recs;rw[aE]
  have:ops.toList[i]?=B o:=by simpa using ho
  rw[this,hout]
 have hne0:∀j r,(recs ops.toList outs)[j]?=B r→r≠(o.dst,out)→j≠i:=by intro j r h1 h2 e;subst e;rw[hr]at h1;simp at h1;exact h2 h1.symm
 refine⟨λk=>?_,λn=>?_,λn=>?_⟩
 ·rw[SY];by_cases e:o.dst=B k
  ·rw[if_pos e];rw[Aq6 _ 0 i _ _ hr e (by rw[n_];exact hD') λj q hj hq hdj hqk=>?_];rw[n_,hne j ω]at hdj;obtain⟨p,h1,h2,h3⟩:=QE hq;rw[h3]at hqk;exact(Qp dn hD ho hout hi hpre (by simpa using h1) h2 (.inr ⟨hj,hdj⟩)).2.1 k hqk e
  ·rw[if_neg e];refine US _ 0 _ _ (λj r h1 h2=>?_) rfl;rw[n_];exact(hne j λej=>by subst ej;rw[hr]at h1;simp at h1;subst h1;exact e h2).symm
 ·rw[SX];by_cases e:n∈DT out.d
  ·rw[Aq5 _ 0 i _ _ (E (replay D 0 (recs ops.toList outs) st).hp) hr e (by rw[n_];exact hD') λj q hj hq hdj hqk=>?_];rw[n_,hne j ω]at hdj;obtain⟨p,h1,h2,h3⟩:=QE hq;exact(Qp dn hD ho hout hi hpre (by simpa using h1) h2 (.inr ⟨hj,hdj⟩)).2.2.2 n hqk e
  ·rw[KC _ _ _ e];refine UR _ 0 _ _ (λj r h1 h2=>?_) rfl;rw[n_];exact(hne j λej=>by subst ej;rw[hr]at h1;simp at h1;subst h1;exact e h2).symm
 ·rw[SZ,ON,ON];constructor
  ·rintro(h | h | ⟨j,r,h1,h2,h3⟩)
   ·exact .inr ⟨i,_,hr,by rw[n_];exact hD',h⟩
   ·exact .inl h
   ·refine .inr ⟨j,r,h1,?_,h3⟩;rw[n_]at h2⊢;by_cases e:j=i
    ·subst e;exact hD'
    ·rw[hne j e];exact h2
  ·rintro(h | ⟨j,r,h1,h2,h3⟩)
   ·exact .inr (.inl h)
   ·by_cases e:j=i
    ·subst e;rw[hr]at h1;simp at h1;subst h1;exact .inl h3
    ·refine .inr (.inr ⟨j,r,h1,?_,h3⟩);rw[n_]at h2⊢;rw[← hne j e];exact h2
end
include ok eqok cfok in
theorem Bek{cx:Cx}{a:Act}{w:World}(h:StepR cf cx.nt ops o s out)(r:Rel G cx s a w){K:Act→World→Prop}{Q:Exit→Act→World→Prop}
  (hK:∀a' w',Rel G cx (s.next o.dst out) a' w'→K a' w'):if Region.wanted o (yielded ops a.tmps)then o.wp P a w K Q else K (a.put o.dst undef) w:=by
 cases h with
 |act g hd hg hn hact hf=>
  refine ZL ok eqok cfok (.act g out hd hg hn hact hf rfl) r λa' w' r'=>hK a' w' (r'.ext ?_);cases g with
  |none=>exact ExtEq.rfl'
  |some p=>exact((Xh (hg p rfl).1).symm).next _ _
 |skip p j want hd hp hg hj hw e=>subst e;refine ZL ok eqok cfok (.skip p j want hd hp hg hj hw rfl) r λa' w' r'=>hK a' w' (r'.ext ?_);refine ExtEq.trans Ahw ?_;exact((Xh hp).symm).next _ _
 |skipU gs j want hd hp hg hj e=>subst e;exact ZL ok eqok cfok (.skipU gs j want hd hp hg hj rfl) r λa' w' r'=>hK a' w' (r'.ext Ahw)
end
end Go.Ab
namespace Go.Ab
variable{G:Sig}
variable{listed:Array Bool}{i:Nat}
def Ahs{α:Type}{p q:α→Bool}:∀(l:List α) (x:α),x∈l→(∀y∈l,q y=A→p y=A)→p x=A→q x=C→l.countP q<l.countP p
 |[],_,h,_,_,_=>by simp at h
 |y::t,x,h,hi,hp,hq=>by
  rcases q_.1 h with rfl | h
  ·rw[List.countP_cons_of_neg (by simp[hq]),aD hp]
   have:t.countP q≤t.countP p:=List.countP_mono_left λz hz hqz=>hi z (by simp[hz]) hqz
   omega
  ·have ih:=Ahs t x h (λz hz=>hi z (by simp[hz])) hp hq;cases hy:q y with
   |false=>rw[List.countP_cons_of_neg (by simp[hy])];rw[List.countP_cons];omega
   |true=>rw[aD hy,aD (hi y σ hy)];omega
section
variable{P:Program}(ok:SigOK P G)(eqok:EqOK P G){cf:CK G}(cfok:CfOK P G cf)(cfl:Acq cf){nt:Nat}{ops:Array Oper}
variable{st:St G}{outs:List (H G)}
def left(n:Nat)(listed:Array Bool):Nat:=(List.range n).countP λi=>!listed.getD i A
theorem TH(h:i<listed.size)(j:Nat)(d:Bool):(listed.setIfInBounds i A).getD j d=if j=i then A else listed.getD j d:=by
 simp only[z_,g5_];by_cases e:j=i
 ·subst e;simp[h]
 ·simp[f4_ e,e]
theorem TG{n:Nat}(hs:listed.size=n)(hi:i<n)(d d':Bool):listed.getD i d=listed.getD i d':=by simp[z_,hs,hi]
theorem YJ:i∈Region.ready .any ops listed↔i<ops.size∧listed.getD i A=C∧∃o,ops[i]?=B o∧∀e∈o.after.toList,Region.binds .any e=A→listed.getD e.on C=A:=by
 unfold Region.ready;rw[List.mem_filter,List.mem_range];constructor
 ·rintro⟨h1,h2⟩;rw[e_,a9_]at h2;refine⟨h1,h2.1,ops[i],b4_ h1,?_⟩;have h3:=h2.2;rw[b4_ h1]at h3;simp only[g4_,Option.getD_some]at h3;intro e he hb;rw[← Array.all_toList,K_]at h3
  have:=h3 e he
  rw[hb]at this;simpa using this
 ·rintro⟨h1,h2,o,h3,h4⟩;refine⟨h1,?_⟩;rw[h2,h3];simp only[d4_,g4_,Option.getD_some,s_];rw[← Array.all_toList,K_];intro e he;cases hb:Region.binds .any e with
  |false=>rfl
  |true=>simpa using h4 e he hb
include ok eqok cfok cfl in
theorem Ayn{cx:Cx}(dn:Done cf cx.nt ops st outs){Q:Exit→Act→World→Prop}(hQ:∀a' w',Rel G cx (replay (λ_=>A) 0 (recs ops.toList outs) st) a' w'→Q .normal a' w') :
  ∀(DL:Nat) (listed:Array Bool) (a:Act) (w:World),listed.size=ops.size→Down ops (λi=>listed.getD i C)→left ops.size listed≤DL→
   Rel G cx (replay (λi=>listed.getD i C) 0 (recs ops.toList outs) st) a w→wpAny P .any ops Q DL listed a w:=by
 have full:∀(listed:Array Bool) (a:Act) (w:World),listed.size=ops.size→(∀i,i<ops.size→listed.getD i C=A)→Rel G cx (replay (λi=>listed.getD i C) 0 (recs ops.toList outs) st) a w→Q .normal a w:=by
  intro listed a w _ hall r;refine hQ a w (r.ext (Qb _ _ _ _ _ (λi hi=>?_) ExtEq.rfl'));rw[n_];refine hall i ?_
  have:=(QE (i_ hi)).choose_spec.1
  have:=(g_.1 this).1
  simpa using this
 have none_ready:∀(listed:Array Bool),listed.size=ops.size→Region.ready .any ops listed=[]→∀(n i:Nat),i<n→i<ops.size→listed.getD i C=A:=by
  intro listed hs hr n;induction n with
  |zero=>intro i h;omega
  |succ n ih=>
   intro i hin hi;cases hb:listed.getD i C with
   |true=>rfl
   |false=>
    have:i∈Region.ready .any ops listed:=by refine YJ.2 ⟨hi,by rw[TG hs hi A C];exact hb,ops[i],b4_ hi,λe he hbd=>?_⟩;have hlt:=RS dn.edges i ops[i] (by simp[hi]) e he hbd;exact ih e.on ω ω
    rw[hr]at this;simp at this
 intro DL;induction DL with
 |zero=>
  intro listed a w hs hD hl r;have hall:∀i,i<ops.size→listed.getD i C=A:=by
   intro i hi;have h0:left ops.size listed=0:=ω;unfold left at h0;rw[List.countP_eq_zero]at h0
   have:=h0 i (by simp[hi])
   simp only[a9_,Bool.not_eq_false]at this;rw[TG hs hi C A];exact this
  refine⟨?_,full listed a w hs hall r⟩;cases hr:Region.ready .any ops listed with
  |nil=>rfl
  |cons i t=>
   have:i∈Region.ready .any ops listed:=by rw[hr];simp
   obtain⟨h1,h2,_⟩:=YJ.1 this;rw[TG hs h1 A C,hall i h1]at h2;simp at h2
 |succ DL ih=>
  intro listed a w hs hD hl r;refine⟨λhr=>full listed a w hs (λi hi=>none_ready listed hs hr (i+1) i ω hi) r,λi hi=>?_⟩;obtain⟨h1,h2,o,ho,hpre⟩:=YJ.1 hi;rw[TG hs h1 A C]at h2;have hlen:i<outs.length:=by rw[dn.len];exact h1
  have hout:outs[i]?=B outs[i]:=i_ hlen;have hstep:=Bel cfl dn hD ho hout h2 hpre;have hnext:=Bdu dn hD ho hout h2 hpre (D':=λj=>(listed.setIfInBounds i A).getD j C) (by show Array.getD _ _ _=A;rw[TH ω];simp)
   (λj hj=>by show Array.getD _ _ _=_;rw[TH ω,if_neg hj])
  have hD':Down ops (λj=>(listed.setIfInBounds i A).getD j C):=by
   intro j p hp hj e he hb;show Array.getD _ _ _=A;have hj:Array.getD _ _ _=A:=hj;rw[TH ω]at hj⊢;by_cases e1:e.on=i
   ·rw[if_pos e1]
   ·rw[if_neg e1];by_cases e2:j=i
    ·subst e2;rw[ho]at hp;simp at hp;subst hp;exact hpre e he hb
    ·rw[if_neg e2]at hj;exact hD j p hp hj e he hb
  have hwp:=Bek ok eqok cfok hstep r (K:=wpAny P .any ops Q DL (listed.setIfInBounds i A)) (Q:=Q) λa' w' r'=>
   ih (listed.setIfInBounds i A) a' w' (by simp[hs]) hD' (by
    have:left ops.size (listed.setIfInBounds i A)<left ops.size listed:=by
     refine Ahs _ i (by simp[h1]) (λj _ hq=>?_) (by rw[TG hs h1 A C,h2];rfl) (by rw[TH ω];simp);rw[TH ω]at hq;by_cases e:j=i
     ·rw[if_pos e]at hq;simp at hq
     ·rw[if_neg e]at hq;exact hq
    omega) (r'.ext hnext)
  unfold wpOp;rw[ho];simp only;by_cases hw:Region.wanted o (yielded ops a.tmps)=A
  ·rw[if_pos hw]at hwp⊢;exact .inl hwp
  ·rw[if_neg hw]at hwp⊢;exact hwp
include ok eqok cfok cfl in
theorem UB(hm:P.follows .mixedOrders=A):DrawOK P G nt (TC cf nt):=by
 refine⟨λops st=>Ad (Ax _) λ_=>Ad (Xc cfok _ _) λ_=>Ad (Ax _) λ_=>Ah _,?_⟩;intro ops st st' h cx a w id Q hnt hrel hQ;subst hnt;unfold TC at h;obtain⟨h1,h2⟩:=M.bindneed h;obtain⟨⟨outs,st1⟩,h3,h4⟩:=(Xc cfok (ops:=ops) ops.toList st).spec (aB h2);obtain⟨h5,h6⟩:=M.bindneed h4;simp[I]at h6;subst h6;obtain⟨e1,e2,e3⟩:=Ai7 cfok ops.toList st st1 outs h3;rw[e_]at h1;have dn:Done cf cx.nt ops st outs:=⟨by simpa using e1,h1.1,h1.2,h5,λi o out hi ho=>e3 i o out (by simpa using hi) ho⟩
 refine wp_region_any hm (Ayn ok eqok cfok cfl dn (λa' w' r'=>hQ a' w' (r'.ext e2.symm)) ops.size _ a _ σ ?_ ?_ ?_)
 ·intro j o _ hj;have hj:(Array.replicate ops.size C).getD j C=A:=hj;simp[z_,Array.getElem?_replicate]at hj;split at hj<;>simp at hj
 ·exact c4_ List.countP_le_length σ
 ·refine(hrel.drawn _).ext ?_
  have:replay (λi=>(Array.replicate ops.size C).getD i C) 0 (recs ops.toList outs) st=st:=by
   have e:(λi=>(Array.replicate ops.size C).getD i C)=λ_=>C:=by funext i;simp only[z_,Array.getElem?_replicate];split<;>rfl
   rw[e,NC]
  rw[this];exact ExtEq.rfl'
end
end Go.Ab
