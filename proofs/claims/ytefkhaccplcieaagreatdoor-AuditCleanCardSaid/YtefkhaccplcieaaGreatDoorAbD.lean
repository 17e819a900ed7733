import Derived.Test.YtefkhaccplcieaaGreatDoorAbC
import Derived.Orders
set_option linter.all false
open Bool renaming true->A,false->C
open Option renaming some->B
open Go.Ab renaming get->E,Out->H
open Go.Ab.M renaming ret->I,bind->aA,bind_spec->aB
open Nat renaming add_right_comm->aC
open List renaming countP_cons_of_pos->aD,getElem?_zipWith->aE
namespace Go.Ab
variable{G:Sig}
variable{s:St G}{d:Option Nat}{o:H G}
section
variable(cf:CQ G)(nt:Nat)
def Alr(ops:Array Oper)(o:Oper)(st:St G):M (H G×St G):=
 aA (M.need (OC nt o.dst)) λ_=>aA (Tw ops st.tm o) λg=>
  match g.1 with
  |true=>aA (act cf (Tb st.tm) (E st.hp) (Alh 0 o.dst) o.op) λout=>aA (M.need (JV st.us out.nw)) λ_=>I (out,(st.note g.2).next o.dst out)
  |false=>I (⟨B (.tup []),[],[],[]⟩,(st.note g.2).next o.dst ⟨B (.tup []),[],[],[]⟩)
def Ah8(ops:Array Oper):List Oper→St G→M (List (H G)×St G)
 |[],st=>I ([],st)
 |o::t,st=>aA (Alr cf nt ops o st) λp=>aA (Ah8 ops t p.2) λq=>I (p.1::q.1,q.2)
end
def Qr(acc:List Nat):List Edge→Nat
 |[]=>0
 |e::t=>bif Region.binds .any e then Nat.lor (Nat.lor (2^e.on) (acc.getD e.on 0)) (Qr acc t)else Qr acc t
def Aaa(n:Nat):List Edge→Bool
 |[]=>A
 |e::t=>(!Region.binds .any e||Nat.blt e.on n)&&Aaa n t
def Lr:List Oper→List Nat→List Nat
 |[],acc=>acc
 |o::t,acc=>Lr t (acc++[Qr acc o.after.toList])
def QL:Nat→List Oper→Bool
 |_,[]=>A
 |n,o::t=>Aaa n o.after.toList&&QL (n+1) t
def pairs{α:Type}(f:α→α→Bool)(ms:List Nat)(l:List α):Bool:=go 0 l
where
 one (x:α) (i j:Nat):List α→Bool
  |[]=>A
  |y::t=>(f x y||Nat.testBit (ms.getD j 0) i)&&one x i (j+1) t
 go (i:Nat):List α→Bool
  |[]=>A
  |x::t=>one x i (i+1) t&&go (i+1) t
def Eb:List (Nat×Option (Blk G.T))→List Nat
 |[]=>[]
 |(n,_)::t=>n::Eb t
def disj:List Nat→List Nat→Bool
 |[],_=>A
 |n::t,l=>!has l n&&disj t l
def Adw(x y:H G):Bool:=disj (Eb x.d) y.rd&&disj (Eb x.d) (Eb y.d)&&disj (Eb y.d) x.rd
def Ug(cf:CQ G)(nt:Nat)(ops:Array Oper)(st:St G):M (St G):=
 aA (M.need (QL 0 ops.toList&&pairs (λx y=>Oper.apart ops x y) (Lr ops.toList []) ops.toList)) λ_=>
 aA (Ah8 cf nt ops ops.toList st) λp=>
 aA (M.need (pairs Adw (Lr ops.toList []) p.1)) λ_=>I p.2
def Tn{α:Type}{f:α→α→Bool}{ms:List Nat}{l:List α}(h:pairs f ms l=A):∀i j x y,i<j→l[i]?=B x→l[j]?=B y→f x y=A∨(ms.getD j 0).testBit i=A:=by
 have one:∀(l:List α) (x:α) (i j:Nat),pairs.one f ms x i j l=A→∀k y,l[k]?=B y→f x y=A∨(ms.getD (j+k) 0).testBit i=A:=by
  intro l;induction l with
  |nil=>intro x i j _ k y h;simp at h
  |cons z t ih=>
   intro x i j h k y hk;simp only[pairs.one,e_,S_]at h;cases k with
   |zero=>simp at hk;subst hk;exact h.1
   |succ k=>
    simp at hk
    have:=ih x i (j+1) h.2 k y hk
    rwa [Y_,e1_ 1 k]at this
 have go:∀(l:List α) (n:Nat),pairs.go f ms n l=A→∀i j x y,i<j→l[i]?=B x→l[j]?=B y→f x y=A∨(ms.getD (n+j) 0).testBit (n+i)=A:=by
  intro l;induction l with
  |nil=>intro n _ i j x y _ h;simp at h
  |cons z t ih=>
   intro n h i j x y hij hi hj;simp only[pairs.go,e_]at h;cases j with
   |zero=>omega
   |succ j=>
    simp at hj;cases i with
    |zero=>
     simp at hi;subst hi
     have:=one t z n (n+1) h.1 j y hj
     rwa [Y_,e1_ 1 j]at this
    |succ i=>
     simp at hi
     have:=ih (n+1) h.2 i j x y ω hi hj
     rwa [Y_,e1_ 1 j,Y_ n 1 i,e1_ 1 i]at this
 intro i j x y hij hi hj;simpa using go l 0 h i j x y hij hi hj
def VV{acc:List Nat}{i:Nat}:∀{es:List Edge},(Qr acc es).testBit i=A→∃e∈es,Region.binds .any e=A∧(e.on=i∨(acc.getD e.on 0).testBit i=A)
 |[],h=>by simp[Qr]at h
 |e::t,h=>by
  simp only[Qr]at h;cases hb:Region.binds .any e with
  |false=>rw[hb]at h;obtain⟨e',h1,h2⟩:=VV (es:=t) h;exact⟨e',by simp[h1],h2⟩
  |true=>
   rw[hb]at h;have h:(2^e.on|||acc.getD e.on 0|||Qr acc t).testBit i=A:=h;rw[Nat.testBit_or,Nat.testBit_or,Nat.testBit_two_pow]at h;simp only[S_,t_]at h;rcases h with(h | h) | h
   ·exact⟨e,σ,hb,.inl h⟩
   ·exact⟨e,σ,hb,.inr h⟩
   ·obtain⟨e',h1,h2⟩:=VV (es:=t) h;exact⟨e',by simp[h1],h2⟩
def YJ{n:Nat}:∀{es:List Edge},Aaa n es=A→∀e∈es,Region.binds .any e=A→e.on<n
 |[],_,_,h,_=>by simp at h
 |e::t,h,e',he,hb=>by
  simp only[Aaa,e_,S_]at h;rcases s_.1 he with rfl | he
  ·rcases h.1 with h1 | h1
   ·rw[hb]at h1;simp at h1
   ·simp[Nat.blt]at h1;omega
  ·exact YJ h.2 e' he hb
def Sr:∀{l:List Oper}{n:Nat},QL n l=A→∀i o,l[i]?=B o→∀e∈o.after.toList,Region.binds .any e=A→e.on<n+i
 |[],_,_,i,o,h=>by simp at h
 |p::t,n,h,i,o,hi=>by
  simp only[QL,e_]at h;cases i with
  |zero=>simp at hi;subst hi;exact YJ h.1
  |succ i=>
   simp at hi;intro e he hb
   have:=Sr h.2 i o hi e he hb
   omega
def XD:∀(l:List Oper) (acc:List Nat) (j:Nat),j<acc.length→(Lr l acc).getD j 0=acc.getD j 0
 |[],_,_,_=>rfl
 |o::t,acc,j,h=>by rw[Lr,XD t _ j (by simp;omega)];simp[k_,h1_,h]
def Afd:∀(l:List Oper) (acc:List Nat) (j:Nat) (o:Oper),l[j]?=B o→
  ∃acc',(Lr l acc).getD (acc.length+j) 0=Qr acc' o.after.toList∧∀k,k<acc.length+j→acc'.getD k 0=(Lr l acc).getD k 0
 |[],_,_,_,h=>by simp at h
 |p::t,acc,j,o,h=>by
  cases j with
  |zero=>
   simp at h;subst h;refine⟨acc,?_,λk hk=>?_⟩
   ·rw[Lr,XD t _ _ σ];simp[k_]
   ·rw[XD _ _ _ ω]
  |succ j=>
   simp at h;obtain⟨acc',h1,h2⟩:=Afd t (acc++[Qr acc p.after.toList]) j o h;simp only[i_,G_]at h1 h2;refine⟨acc',?_,λk hk=>?_⟩
   ·rw[Lr,← h1];congr 1;omega
   ·rw[Lr,h2 k ω]
def Down(ops:Array Oper)(D:Nat→Bool):Prop:=∀j o,ops[j]?=B o→D j=A→∀e∈o.after.toList,Region.binds .any e=A→D e.on=A
def YI{ops:Array Oper}(he:QL 0 ops.toList=A){D:Nat→Bool}(hD:Down ops D):∀(n j:Nat) (o:Oper),j<n→ops[j]?=B o→(∀e∈o.after.toList,Region.binds .any e=A→D e.on=A)→
  ∀i,((Lr ops.toList []).getD j 0).testBit i=A→D i=A
 |0,_,_,h,_,_,_,_=>by omega
 |n+1,j,o,hj,ho,hpre,i,hi=>by
  have ho':ops.toList[j]?=B o:=by simpa using ho
  obtain⟨acc',h1,h2⟩:=Afd ops.toList [] j o ho';simp only[d6_,p_]at h1 h2;rw[h1]at hi;obtain⟨e,he1,he2,he3⟩:=VV hi;have hlt:=Sr he j o ho' e he1 he2;rw[p_]at hlt;have hDe:=hpre e he1 he2;rcases he3 with rfl | he3
  ·exact hDe
  ·rw[h2 e.on hlt]at he3;have hjs:j<ops.size:=by
    have:=(K_.1 ho).1;exact this
   obtain⟨o',ho2⟩:∃o',ops[e.on]?=B o':=⟨ops[e.on]'ω,b4_ _⟩
   exact YI he hD n e.on o' ω ho2 (λe' h3 h4=>hD e.on o' ho2 hDe e' h3 h4) i he3
structure ExtEq(s s':St G):Prop where
 tm:∀k,get s.tm k=get s'.tm k
 hp:∀n,get s.hp n=get s'.hp n
 us:∀n,n∈s.us↔n∈s'.us
def ExtEq.rfl':ExtEq s s:=⟨λ_=>rfl,λ_=>rfl,λ_=>Iff.rfl⟩
def ExtEq.symm{s':St G}(h:ExtEq s s'):ExtEq s' s:=⟨λk=>(h.tm k).symm,λk=>(h.hp k).symm,λk=>(h.us k).symm⟩
def ExtEq.trans{s' s'':St G}(h:ExtEq s s')(g:ExtEq s' s''):ExtEq s s'':=⟨λk=>(h.tm k).trans (g.tm k),λk=>(h.hp k).trans (g.hp k),λk=>(h.us k).trans (g.us k)⟩
def Rel.ext{cx:Cx}{s':St G}{a:Act}{w:World}(e:ExtEq s s')(h:Rel G cx s a w):Rel G cx s' a w:=by obtain⟨ν,S,r⟩:=h;have hf:E s.hp=E s'.hp:=funext e.hp;exact⟨ν,S,⟨λk v hk=>r.slot k v ((e.tm k).trans hk),hf▸r.heap,λn hn=>(e.us n).1 (r.used n hn),r.defers,r.nt,r.size,r.frame,r.env,r.sub,r.keep,r.names⟩⟩
def Tz(k:Nat):E (s.next d o).tm k=if d=B k then o.v else E s.tm k:=by
 cases d with
 |none=>simp[St.next]
 |some d=>
  simp only[St.next];cases hv:o.v with
  |none=>simp only[Wl];by_cases e:d=k<;>simp[e]
  |some v=>simp only[Tv];by_cases e:d=k<;>simp[e]
def Tx(n:Nat):E (s.next d o).hp n=BE (E s.hp) o.d n:=by show E (Ac4 s.hp o.d) n=_;rw[Xp]
def TA(n:Nat):n∈(s.next d o).us↔n∈o.nw∨n∈s.us:=by show n∈o.nw++s.us↔_;simp
def Lk:∀(d:List (Nat×Option (Blk G.T))) (h:Nat→Option (Blk G.T)) (n:Nat),n∉Eb d→BE h d n=h n
 |[],_,_,_=>rfl
 |(m,b)::t,h,n,hn=>by simp only[Eb,s_,not_or]at hn;rw[BE,Lk t _ n hn.2,if_neg (e9_ hn.1)]
def Wh:∀(d:List (Nat×Option (Blk G.T))) (h h':Nat→Option (Blk G.T)) (n:Nat),h n=h' n∨n∈Eb d→BE h d n=BE h' d n
 |[],_,_,_,hn=>by simpa[Eb,BE]using hn
 |(m,b)::t,h,h',n,hn=>by
  simp only[BE];refine Wh t _ _ n ?_;by_cases e:m=n
  ·left;simp[e]
  ·simp only[e,e4_];rcases hn with h1 | h1
   ·exact .inl h1
   ·simp only[Eb,s_]at h1;exact .inr (h1.resolve_left (e9_ e))
def ExtEq.next{s':St G}(h:ExtEq s s')(d:Option Nat)(o:H G):ExtEq (s.next d o) (s'.next d o):=⟨λk=>by rw[Tz,Tz,h.tm],λn=>by rw[Tx,Tx];exact Wh _ _ _ _ (.inl (h.hp n)),λn=>by rw[TA,TA,h.us]⟩
def XF{p:Nat×Bool}(h:E s.tm p.1=B (.p (.one (.sc (.bool p.2))))):ExtEq s (s.note (B p)):=
 ⟨λk=>by
  show _=E (put s.tm p.1 _) k;rw[Tv];by_cases e:p.1=k
  ·rw[if_pos e,← e,h]
  ·rw[if_neg e],λ_=>rfl,λ_=>Iff.rfl⟩
def replay(D:Nat→Bool):Nat→List (Option Nat×H G)→St G→St G
 |_,[],s=>s
 |i,r::t,s=>replay D (i+1) t (bif D i then s.next r.1 r.2 else s)
section
variable{D D':Nat→Bool}
def Vw{k:Nat}:∀(l:List (Option Nat×H G)) (n:Nat) (s s':St G),(∀i r,l[i]?=B r→r.1=B k→D (n+i)=D' (n+i))→E s.tm k=E s'.tm k→
  E (replay D n l s).tm k=E (replay D' n l s').tm k
 |[],_,_,_,_,h=>h
 |r::t,n,s,s',hd,h=>by
  simp only[replay];refine Vw t (n+1) _ _ (λi q hq hk=>by have:=hd (i+1) q (by simpa using hq) hk;rwa [← Y_,aC]at this) ?_;by_cases e:r.1=B k
  ·have:=hd 0 r rfl e
   rw[c0_]at this;rw[← this];cases D n
   ·exact h
   ·simp[Tz,e]
  ·cases D n<;>cases D' n<;>simp[Tz,e,h]
def Vv{k:Nat}:∀(l:List (Option Nat×H G)) (n:Nat) (s s':St G),(∀i r,l[i]?=B r→k∈Eb r.2.d→D (n+i)=D' (n+i))→E s.hp k=E s'.hp k→
  E (replay D n l s).hp k=E (replay D' n l s').hp k
 |[],_,_,_,_,h=>h
 |r::t,n,s,s',hd,h=>by
  simp only[replay];refine Vv t (n+1) _ _ (λi q hq hk=>by have:=hd (i+1) q (by simpa using hq) hk;rwa [← Y_,aC]at this) ?_;by_cases e:k∈Eb r.2.d
  ·have:=hd 0 r rfl e
   rw[c0_]at this;rw[← this];cases D n
   ·exact h
   ·simp only[d_,Tx];exact Wh _ _ _ _ (.inr e)
  ·cases D n<;>cases D' n<;>simp[Tx,Lk _ _ _ e,h]
def Ph{k:Nat}:∀(l:List (Option Nat×H G)) (n:Nat) (s:St G),k∈(replay D n l s).us↔k∈s.us∨∃i r,l[i]?=B r∧D (n+i)=A∧k∈r.2.nw
 |[],_,s=>by simp[replay]
 |r::t,n,s=>by
  simp only[replay];rw[Ph t (n+1)];constructor
  ·rintro(h | ⟨i,q,h1,h2,h3⟩)
   ·cases hd:D n with
    |false=>rw[hd]at h;exact .inl h
    |true=>
     rw[hd]at h;rcases(TA k).1 h with h | h
     ·exact .inr ⟨0,r,rfl,by simpa using hd,h⟩
     ·exact .inl h
   ·exact .inr ⟨i+1,q,by simpa using h1,by rwa [e1_ i 1,← Y_],h3⟩
  ·rintro(h | ⟨i,q,h1,h2,h3⟩)
   ·left;cases hd:D n with
    |false=>exact h
    |true=>exact(TA k).2 (.inr h)
   ·cases i with
    |zero=>simp at h1 h2;subst h1;left;rw[h2];exact(TA k).2 (.inl h3)
    |succ i=>simp at h1;exact .inr ⟨i,q,h1,by rwa [Y_,e1_ 1 i],h3⟩
def NV:∀(l:List (Option Nat×H G)) (n:Nat) (s:St G),replay (λ_=>C) n l s=s
 |[],_,_=>rfl
 |_::t,n,s=>NV t (n+1) s
def Ar5{k:Nat}:∀(l:List (Option Nat×H G)) (n i:Nat) (r:Option Nat×H G) (s:St G),l[i]?=B r→r.1=B k→D (n+i)=A→
  (∀j q,i<j→l[j]?=B q→D (n+j)=A→q.1≠B k)→E (replay D n l s).tm k=r.2.v
 |[],_,_,_,_,h,_,_,_=>by simp at h
 |p::t,n,i,r,s,hi,hk,hd,hl=>by
  simp only[replay];cases i with
  |zero=>
   simp at hi hd;subst hi;rw[hd,d_];rw[Vw (D':=λ_=>C) (s':=s.next p.1 p.2) t (n+1) _ (λj q hq hqk=>?_) rfl,NV,Tz,if_pos hk];cases hdj:D (n+1+j)with
   |false=>rfl
   |true=>exact absurd hqk (hl (j+1) q ω (by simpa using hq) (by rwa [e1_ j 1,← Y_]))
  |succ i=>simp at hi;refine Ar5 t (n+1) i r _ hi hk (by rwa [Y_,e1_ 1 i]) λj q hj hq hdj=>?_;exact hl (j+1) q ω (by simpa using hq) (by rwa [e1_ j 1,← Y_])
def Ar4{k:Nat}:∀(l:List (Option Nat×H G)) (n i:Nat) (r:Option Nat×H G) (s:St G) (h:Nat→Option (Blk G.T)),l[i]?=B r→k∈Eb r.2.d→D (n+i)=A→
  (∀j q,i<j→l[j]?=B q→D (n+j)=A→k∉Eb q.2.d)→E (replay D n l s).hp k=BE h r.2.d k
 |[],_,_,_,_,_,h,_,_,_=>by simp at h
 |p::t,n,i,r,s,h,hi,hk,hd,hl=>by
  simp only[replay];cases i with
  |zero=>
   simp at hi hd;subst hi;rw[hd,d_];rw[Vv (D':=λ_=>C) (s':=s.next p.1 p.2) t (n+1) _ (λj q hq hqk=>?_) rfl,NV,Tx]
   ·exact Wh _ _ _ _ (.inr hk)
   cases hdj:D (n+1+j)with
   |false=>rfl
   |true=>exact absurd hqk (hl (j+1) q ω (by simpa using hq) (by rwa [e1_ j 1,← Y_]))
  |succ i=>simp at hi;refine Ar4 t (n+1) i r _ h hi hk (by rwa [Y_,e1_ 1 i]) λj q hj hq hdj=>?_;exact hl (j+1) q ω (by simpa using hq) (by rwa [e1_ j 1,← Y_])
end
end Go.Ab
namespace Go.Ab
variable{G:Sig}
variable{s:St G}{o:Oper}{out:H G}{j:Nat}
def Qw{D D':Nat→Bool}:∀(l:List (Option Nat×H G)) (n n':Nat) (s s':St G),(∀i,i<l.length→D (n+i)=D' (n'+i))→ExtEq s s'→ExtEq (replay D n l s) (replay D' n' l s')
 |[],_,_,_,_,_,h=>h
 |r::t,n,n',s,s',hd,h=>by
  simp only[replay];refine Qw t (n+1) (n'+1) _ _ (λi hi=>by have:=hd (i+1) (by simpa using hi);rwa [← Y_,← Y_,aC,aC n']at this) ?_
  have:=hd 0 σ
  rw[c0_,c0_]at this;rw[← this];cases D n
  ·exact h
  ·exact h.next _ _
inductive StepR(cf:CQ G)(nt:Nat)(ops:Array Oper)(o:Oper)(st:St G)(out:Out G):Prop
 |act (g:Option (Nat×Bool)) (hd:OC nt o.dst=true)
   (hg:∀p,g=some p→get st.tm p.1=some (.p (.one (.sc (.bool p.2))))∧∃j want,o.guard=some (j,want)∧(ops[j]?).bind (·.dst)=some p.1∧p.2=want)
   (hn:g=none→o.guard=none) (hact:act cf (Tb st.tm) (get st.hp) (Alh 0 o.dst) o.op (Out G) some=some out) (hf:JV st.us out.nw=true)
 |skip (p:Nat×Bool) (j:Nat) (want:Bool) (hd:OC nt o.dst=true) (hp:get st.tm p.1=some (.p (.one (.sc (.bool p.2))))) (hg:o.guard=some (j,want)) (hj:(ops[j]?).bind (·.dst)=some p.1) (hw:p.2≠want)
   (e:out=⟨some (.tup []),[],[],[]⟩)
 |skipU (gs j:Nat) (want:Bool) (hd:OC nt o.dst=true) (hp:get st.tm gs=some (.tup [])) (hg:o.guard=some (j,want)) (hj:(ops[j]?).bind (·.dst)=some gs) (e:out=⟨some (.tup []),[],[],[]⟩)
def Air{d:Option Nat}:ExtEq (s.drop d) (s.next d ⟨B (.tup []),[],[],[]⟩):=by
 cases d with
 |none=>exact⟨λ_=>rfl,λ_=>rfl,λ_=>Iff.rfl⟩
 |some d=>exact⟨λ_=>rfl,λ_=>rfl,λ_=>Iff.rfl⟩
section
variable{P:Program}(ok:SigOK P G)(eqok:EqOK P G){cf:CQ G}(cfok:CfOK P G cf)(cfl:Ado cf){nt:Nat}{ops:Array Oper}
include cfok in
theorem Ajg(o:Oper)(st:St G):Law (Alr cf nt ops o st):=by
 refine Ad (Ax _) λ_=>Ad (Vm _ _ _) λg=>?_;split
 ·exact Ad (Aad cfok.law _) λ_=>Ad (Ax _) λ_=>Ah _
 ·exact Ah _
include cfok in
theorem XA:∀(l:List Oper) (st:St G),Law (Ah8 cf nt ops l st)
 |[],_=>Ah _
 |o::t,st=>Ad (Ajg cfok o st) λ_=>Ad (XA t _) λ_=>Ah _
include cfok in
theorem Awj{st st':St G}(h:Alr cf nt ops o st _ B=B (out,st')):StepR cf nt ops o st out∧ExtEq st' (st.next o.dst out):=by
 unfold Alr at h;obtain⟨hd,h1⟩:=M.bindneed h;obtain⟨⟨go,g⟩,hgo,h2⟩:=(Vm ops st.tm o).spec (aB h1);have hcar:∀(hg:∀p,g=B p→E st.tm p.1=B (.p (.one (.sc (.bool p.2))))∧∃j want,o.guard=B (j,want)∧(ops[j]?).bind (·.dst)=B p.1∧p.2=want) (hn:g=none→o.guard=none),go=A→
   StepR cf nt ops o st out∧ExtEq st' (st.next o.dst out):=by
  intro hg hn hgo;subst hgo;simp only at h2;obtain⟨out',hout,h3⟩:=(Aad cfok.law _).spec (aB h2);obtain⟨hf,h4⟩:=M.bindneed h3;simp[I]at h4;obtain⟨rfl,rfl⟩:=h4;refine⟨.act g hd hg hn hout hf,?_⟩;cases g with
  |none=>exact ExtEq.rfl'
  |some p=>exact((XF (hg p rfl).1).symm).next _ _
 unfold Tw at hgo;cases hog:o.guard with
 |none=>simp[hog,I]at hgo;obtain⟨rfl,rfl⟩:=hgo;exact hcar σ (λ_=>hog) rfl
 |some jw=>
  obtain⟨j,want⟩:=jw;simp only[hog,Aex]at hgo;split at hgo
  ·rename_i gs hgs;split at hgo
   ·rename_i b hb;have hsk:∀bb:Bool,E st.tm gs=B (.p (.one (.sc (.bool bb))))→bb≠want→go=C→g=B (gs,bb)→StepR cf nt ops o st out∧ExtEq st' (st.next o.dst out):=by
     intro bb h5 h6 h7 h8;subst h7;simp[I]at h2;obtain⟨rfl,rfl⟩:=h2;refine⟨.skip (gs,bb) j want hd h5 hog hgs h6 rfl,?_⟩;rw[h8];exact((XF (p:=(gs,bb)) h5).symm).next _ _
    cases b with
    |true=>
     simp at hgo;obtain⟨rfl,rfl⟩:=hgo;cases want with
     |true=>exact hcar (by rintro p hp;simp at hp;subst hp;exact⟨hb,j,A,hog,hgs,rfl⟩) σ rfl
     |false=>exact hsk A hb σ rfl rfl
    |false=>
     simp at hgo;obtain⟨rfl,rfl⟩:=hgo;cases go with
     |false=>exact hsk C hb σ rfl rfl
     |true=>exact hcar (by rintro p hp;simp at hp;subst hp;exact⟨hb,j,_,hog,hgs,rfl⟩) σ rfl
   ·rename_i hu;simp at hgo;obtain⟨rfl,rfl⟩:=hgo;simp[I]at h2;obtain⟨rfl,rfl⟩:=h2;exact⟨.skipU gs j want hd hu hog hgs rfl,ExtEq.rfl'⟩
   ·simp at hgo
  ·simp at hgo
def recs(l:List Oper)(outs:List (H G)):List (Option Nat×H G):=l.zipWith (λo out=>(o.dst,out)) outs
theorem QZ{l:List Oper}{outs:List (H G)}{i:Nat}{r:Option Nat×H G}(h:(recs l outs)[i]?=B r):∃o,l[i]?=B o∧outs[i]?=B r.2∧r.1=o.dst:=by
 unfold recs at h;rw[aE]at h;cases h1:l[i]? with
 |none=>simp[h1]at h
 |some o=>
  cases h2:outs[i]? with
  |none=>simp[h1,h2]at h
  |some out=>simp[h1,h2]at h;subst h;exact⟨o,rfl,rfl,rfl⟩
include cfok in
theorem Aj0:∀(l:List Oper) (st st':St G) (outs:List (H G)),Ah8 cf nt ops l st _ B=B (outs,st')→
  outs.length=l.length∧ExtEq st' (replay (λ_=>A) 0 (recs l outs) st)∧
  ∀i o out,l[i]?=B o→outs[i]?=B out→∃s,ExtEq s (replay (λj=>decide (j<i)) 0 (recs l outs) st)∧StepR cf nt ops o s out
 |[],st,st',outs,h=>by simp[Ah8,I]at h;obtain⟨rfl,rfl⟩:=h;exact⟨rfl,ExtEq.rfl',λi o out h=>by simp at h⟩
 |p::t,st,st',outs,h=>by
  unfold Ah8 at h;obtain⟨⟨out,st1⟩,h1,h2⟩:=(Ajg cfok p st).spec (aB h);obtain⟨⟨outs',st2⟩,h3,h4⟩:=(XA cfok t st1).spec (aB h2);simp[I]at h4;obtain⟨rfl,rfl⟩:=h4;obtain⟨hs,he⟩:=Awj cfok h1;obtain⟨e1,e2,e3⟩:=Aj0 t st1 st2 outs' h3;refine⟨by simp[e1],?_,λi o q hi hq=>?_⟩
  ·refine e2.trans ?_;show ExtEq _ (replay _ 1 (recs t outs') (st.next p.dst out));exact Qw _ _ _ _ _ (λ_ _=>rfl) he
  ·cases i with
   |zero=>
    simp at hi hq;subst hi;subst hq;refine⟨st,?_,hs⟩;show ExtEq st (replay _ 1 (recs t outs') st)
    have:=Qw (D:=λ_=>C) (D':=λj=>decide (j<0)) (recs t outs') 0 1 st st (λi _=>by simp) ExtEq.rfl'
    rwa [NV]at this
   |succ i=>simp at hi hq;obtain⟨s,g1,g2⟩:=e3 i o q hi hq;refine⟨s,g1.trans ?_,g2⟩;show ExtEq _ (replay _ 1 (recs t outs') (st.next p.dst out));exact Qw _ _ _ _ _ (λk _=>by simp;omega) he
theorem Ace{us l:List Nat}(h:∀n∈l,n∉us):JV us l=A:=by
 induction l with
 |nil=>rfl
 |cons k t ih=>
  simp only[JV,e_,a4_];refine⟨?_,ih λn hn=>h n (by simp[hn])⟩;cases hb:has us k with
  |false=>rfl
  |true=>exact absurd ((Hs us k).1 hb) (h k σ)
theorem Sa:∀{a b:List Nat},disj a b=A→∀n∈a,n∉b
 |[],_,_,n,h=>by simp at h
 |m::t,b,h,n,hn=>by
  simp only[disj,e_]at h;rcases s_.1 hn with rfl | hn
  ·intro hm;rw[(Hs b n).2 hm]at h;simp at h
  ·exact Sa h.2 n hn
theorem Bbt{x:Operand}(h:x∈o.op.operands.toList){t:Nat}(hx:x=.tmp t):t∈o.looksAt ops:=by unfold Oper.looksAt;refine n_.2 (.inl (List.mem_filterMap.2 ⟨x,h,?_⟩));subst hx;rfl
theorem VR{want:Bool}{d:Nat}(hg:o.guard=B (j,want))(hj:(ops[j]?).bind (·.dst)=B d):d∈o.looksAt ops:=by unfold Oper.looksAt;refine n_.2 (.inr ?_);rw[hg];simp[hj]
structure Done(cf:CQ G)(nt:Nat)(ops:Array Oper)(st:St G)(outs:List (Out G)):Prop where
 len:outs.length=ops.size
 edges:QL 0 ops.toList=true
 slots:pairs (λx y=>Oper.apart ops x y) (Lr ops.toList []) ops.toList=true
 mem:pairs Adw (Lr ops.toList []) outs=true
 step:∀i o out,ops[i]?=some o→outs[i]?=some out→∃s,ExtEq s (replay (λj=>decide (j<i)) 0 (recs ops.toList outs) st)∧StepR cf nt ops o s out
variable{st:St G}{outs:List (H G)}(dn:Done cf nt ops st outs)
section
variable{D:Nat→Bool}(hD:Down ops D){i:Nat}{o:Oper}{out:H G}(ho:ops[i]?=B o)(hout:outs[i]?=B out)(hi:D i=C)
 (hpre:∀e∈o.after.toList,Region.binds .any e=A→D e.on=A)
include dn hD ho hout hi hpre
theorem QM{p:Oper}{q:H G}(hp:ops[j]?=B p)(hq:outs[j]?=B q)(hj:(j<i∧D j=C)∨(i<j∧D j=A)):
  (∀d,p.dst=B d→d∉o.looksAt ops)∧(∀d,p.dst=B d→o.dst≠B d)∧(∀n∈Eb q.d,n∉out.rd)∧(∀n∈Eb q.d,n∉Eb out.d):=by
 have hp':ops.toList[j]?=B p:=by simpa using hp
 have ho':ops.toList[i]?=B o:=by simpa using ho
 have hcur:∀e∈o.after.toList,Region.binds .any e=A→D e.on=A:=hpre;rcases hj with⟨h1,h2⟩ | ⟨h1,h2⟩
 ·have hno:((Lr ops.toList []).getD i 0).testBit j=A→False:=λhb=>by
   have:=YI dn.edges hD (i+1) i o ω ho hcur j hb
   rw[h2]at this;simp at this
  have a1:=(Tn dn.slots j i p o h1 hp' ho').resolve_right hno;have a2:=(Tn dn.mem j i q out h1 hq hout).resolve_right hno;have a1:=Oper.apart_spec a1;simp only[Adw,e_]at a2;exact⟨a1.1,a1.2.1,Sa a2.1.1,Sa a2.1.2⟩
 ·have hno:((Lr ops.toList []).getD j 0).testBit i=A→False:=λhb=>by
   have:=YI dn.edges hD (j+1) j p ω hp (hD j p hp h2) i hb
   rw[hi]at this;simp at this
  have a1:=(Tn dn.slots i j o p h1 ho' hp').resolve_right hno;have a2:=(Tn dn.mem i j out q h1 hout hq).resolve_right hno;have a1:=Oper.apart_spec a1;simp only[Adw,e_]at a2;refine⟨a1.2.2,λd hd he=>a1.2.1 d he hd,Sa a2.2,λn hn hm=>Sa a2.1.2 n hm hn⟩
theorem WG(hs:ExtEq s (replay (λj=>decide (j<i)) 0 (recs ops.toList outs) st)){k:Nat}(hk:k∈o.looksAt ops):
  E (replay D 0 (recs ops.toList outs) st).tm k=E s.tm k:=by
 rw[hs.tm k];refine Vw _ 0 _ _ (λj r hr hrk=>?_) rfl;rw[p_];obtain⟨p,h1,h2,h3⟩:=QZ hr;have h1':ops[j]?=B p:=by simpa using h1
 rw[h3]at hrk;by_cases hji:j<i
 ·rw[b_ hji];cases hd:D j with
  |true=>rfl
  |false=>exact absurd hk ((QM dn hD ho hout hi hpre h1' h2 (.inl ⟨hji,hd⟩)).1 k hrk)
 ·rw[f_ hji];by_cases e:j=i
  ·subst e;exact hi
  ·cases hd:D j with
   |false=>rfl
   |true=>exact absurd hk ((QM dn hD ho hout hi hpre h1' h2 (.inr ⟨ω,hd⟩)).1 k hrk)
theorem Bdn(hs:ExtEq s (replay (λj=>decide (j<i)) 0 (recs ops.toList outs) st)){n:Nat}(hn:n∈out.rd):
  E (replay D 0 (recs ops.toList outs) st).hp n=E s.hp n:=by
 rw[hs.hp n];refine Vv _ 0 _ _ (λj r hr hrk=>?_) rfl;rw[p_];obtain⟨p,h1,h2,h3⟩:=QZ hr;have h1':ops[j]?=B p:=by simpa using h1
 by_cases hji:j<i
 ·rw[b_ hji];cases hd:D j with
  |true=>rfl
  |false=>exact absurd hn ((QM dn hD ho hout hi hpre h1' h2 (.inl ⟨hji,hd⟩)).2.2.1 n hrk)
 ·rw[f_ hji];by_cases e:j=i
  ·subst e;exact hi
  ·cases hd:D j with
   |false=>rfl
   |true=>exact absurd hn ((QM dn hD ho hout hi hpre h1' h2 (.inr ⟨ω,hd⟩)).2.2.1 n hrk)
omit hD hpre in
theorem Bdo(hs:ExtEq s (replay (λj=>decide (j<i)) 0 (recs ops.toList outs) st))(hf:JV s.us out.nw=A):
  JV (replay D 0 (recs ops.toList outs) st).us out.nw=A:=by
 refine Ace λn hn hm=>?_;have h0:=YQ hf n hn;rw[hs.us n,Ph]at h0;rcases(Ph _ _ _).1 hm with h | ⟨j,r,h1,h2,h3⟩
 ·exact h0 (.inl h)
 ·rw[p_]at h2;by_cases hji:j<i
  ·exact h0 (.inr ⟨j,r,h1,by rw[p_];exact b_ hji,h3⟩)
  ·by_cases e:j=i
   ·subst e;rw[hi]at h2;simp at h2
   ·obtain⟨p,q1,q2,q3⟩:=QZ h1;obtain⟨s2,g1,g2⟩:=dn.step j p r.2 (by simpa using q1) q2;cases g2 with
    |act g hd hg hn' hact hf2=>
     refine YQ hf2 n h3 ?_;rw[g1.us n,Ph];right;have hr:(recs ops.toList outs)[i]?=B (o.dst,out):=by
      unfold recs;rw[aE]
      have:ops.toList[i]?=B o:=by simpa using ho
      rw[this,hout]
     exact⟨i,_,hr,by rw[p_];exact b_ ω,hn⟩
    |skip p j want hd hp hg hj hw e=>rw[e]at h3;simp at h3
    |skipU gs j want hd hp hg hj e=>rw[e]at h3;simp at h3
include cfl in
theorem Bgn:StepR cf nt ops o (replay D 0 (recs ops.toList outs) st) out:=by
 obtain⟨s,hs,hstep⟩:=dn.step i o out ho hout;cases hstep with
 |act g hd hg hn hact hf=>
  refine .act g hd (λp hp=>?_) hn ?_ (Bdo dn ho hout hi hs hf)
  ·obtain⟨h1,j,want,h2,h3,h4⟩:=hg p hp;refine⟨?_,j,want,h2,h3,h4⟩;rw[WG dn hD ho hout hi hpre hs (VR h2 h3)];exact h1
  ·rw[Bjw (ev:=Tb s.tm) o.op λx hx=>?_]
   ·exact Bjv cfl hact λn hn=>Bdn dn hD ho hout hi hpre hs hn
   ·cases x with
    |tmp t=>exact WG dn hD ho hout hi hpre hs (Bbt hx rfl)
    |const v=>cases v<;>rfl
    |_=>rfl
 |skip p j want hd hp hg hj hw e=>refine .skip p j want hd ?_ hg hj hw e;rw[WG dn hD ho hout hi hpre hs (VR hg hj)];exact hp
 |skipU gs j want hd hp hg hj e=>refine .skipU gs j want hd ?_ hg hj e;rw[WG dn hD ho hout hi hpre hs (VR hg hj)];exact hp
theorem Bfw{D':Nat→Bool}(hD':D' i=A)(hne:∀j,j≠i→D' j=D j) :
  ExtEq ((replay D 0 (recs ops.toList outs) st).next o.dst out) (replay D' 0 (recs ops.toList outs) st):=by
 have hr:(recs ops.toList outs)[i]?=B (o.dst,out):=by
  unfold recs;rw[aE]
  have:ops.toList[i]?=B o:=by simpa using ho
  rw[this,hout]
 have hne0:∀j r,(recs ops.toList outs)[j]?=B r→r≠(o.dst,out)→j≠i:=by intro j r h1 h2 e;subst e;rw[hr]at h1;simp at h1;exact h2 h1.symm
 refine⟨λk=>?_,λn=>?_,λn=>?_⟩
 ·rw[Tz];by_cases e:o.dst=B k
  ·rw[if_pos e];rw[Ar5 _ 0 i _ _ hr e (by rw[p_];exact hD') λj q hj hq hdj hqk=>?_];rw[p_,hne j ω]at hdj;obtain⟨p,h1,h2,h3⟩:=QZ hq;rw[h3]at hqk;exact(QM dn hD ho hout hi hpre (by simpa using h1) h2 (.inr ⟨hj,hdj⟩)).2.1 k hqk e
  ·rw[if_neg e];refine Vw _ 0 _ _ (λj r h1 h2=>?_) rfl;rw[p_];exact(hne j λej=>by subst ej;rw[hr]at h1;simp at h1;subst h1;exact e h2).symm
 ·rw[Tx];by_cases e:n∈Eb out.d
  ·rw[Ar4 _ 0 i _ _ (E (replay D 0 (recs ops.toList outs) st).hp) hr e (by rw[p_];exact hD') λj q hj hq hdj hqk=>?_];rw[p_,hne j ω]at hdj;obtain⟨p,h1,h2,h3⟩:=QZ hq;exact(QM dn hD ho hout hi hpre (by simpa using h1) h2 (.inr ⟨hj,hdj⟩)).2.2.2 n hqk e
  ·rw[Lk _ _ _ e];refine Vv _ 0 _ _ (λj r h1 h2=>?_) rfl;rw[p_];exact(hne j λej=>by subst ej;rw[hr]at h1;simp at h1;subst h1;exact e h2).symm
 ·rw[TA,Ph,Ph];constructor
  ·rintro(h | h | ⟨j,r,h1,h2,h3⟩)
   ·exact .inr ⟨i,_,hr,by rw[p_];exact hD',h⟩
   ·exact .inl h
   ·refine .inr ⟨j,r,h1,?_,h3⟩;rw[p_]at h2⊢;by_cases e:j=i
    ·subst e;exact hD'
    ·rw[hne j e];exact h2
  ·rintro(h | ⟨j,r,h1,h2,h3⟩)
   ·exact .inr (.inl h)
   ·by_cases e:j=i
    ·subst e;rw[hr]at h1;simp at h1;subst h1;exact .inl h3
    ·refine .inr (.inr ⟨j,r,h1,?_,h3⟩);rw[p_]at h2⊢;rw[← hne j e];exact h2
end
include ok eqok cfok in
theorem Bgm{cx:Cx}{a:Act}{w:World}(h:StepR cf cx.nt ops o s out)(r:Rel G cx s a w){K:Act→World→Prop}{Q:Exit→Act→World→Prop}
  (hK:∀a' w',Rel G cx (s.next o.dst out) a' w'→K a' w'):if Region.wanted o (yielded ops a.tmps)then o.wp P a w K Q else K (a.put o.dst undef) w:=by
 cases h with
 |act g hd hg hn hact hf=>
  refine Aan ok eqok cfok (.act g out hd hg hn hact hf rfl) r λa' w' r'=>hK a' w' (r'.ext ?_);cases g with
  |none=>exact ExtEq.rfl'
  |some p=>exact((XF (hg p rfl).1).symm).next _ _
 |skip p j want hd hp hg hj hw e=>subst e;refine Aan ok eqok cfok (.skip p j want hd hp hg hj hw rfl) r λa' w' r'=>hK a' w' (r'.ext ?_);refine ExtEq.trans Air ?_;exact((XF hp).symm).next _ _
 |skipU gs j want hd hp hg hj e=>subst e;exact Aan ok eqok cfok (.skipU gs j want hd hp hg hj rfl) r λa' w' r'=>hK a' w' (r'.ext Air)
end
end Go.Ab
namespace Go.Ab
variable{G:Sig}
variable{listed:Array Bool}{i:Nat}
def Aim{α:Type}{p q:α→Bool}:∀(l:List α) (x:α),x∈l→(∀y∈l,q y=A→p y=A)→p x=A→q x=C→l.countP q<l.countP p
 |[],_,h,_,_,_=>by simp at h
 |y::t,x,h,hi,hp,hq=>by
  rcases s_.1 h with rfl | h
  ·rw[List.countP_cons_of_neg (by simp[hq]),aD hp]
   have:t.countP q≤t.countP p:=List.countP_mono_left λz hz hqz=>hi z (by simp[hz]) hqz
   omega
  ·have ih:=Aim t x h (λz hz=>hi z (by simp[hz])) hp hq;cases hy:q y with
   |false=>rw[List.countP_cons_of_neg (by simp[hy])];rw[List.countP_cons];omega
   |true=>rw[aD hy,aD (hi y σ hy)];omega
section
variable{P:Program}(ok:SigOK P G)(eqok:EqOK P G){cf:CQ G}(cfok:CfOK P G cf)(cfl:Ado cf){nt:Nat}{ops:Array Oper}
variable{st:St G}{outs:List (H G)}
def left(n:Nat)(listed:Array Bool):Nat:=(List.range n).countP λi=>!listed.getD i A
theorem Um(h:i<listed.size)(j:Nat)(d:Bool):(listed.setIfInBounds i A).getD j d=if j=i then A else listed.getD j d:=by
 simp only[z_,g8_];by_cases e:j=i
 ·subst e;simp[h]
 ·simp[e9_ e,e]
theorem Ul{n:Nat}(hs:listed.size=n)(hi:i<n)(d d':Bool):listed.getD i d=listed.getD i d':=by simp[z_,hs,hi]
theorem Zg:i∈Region.ready .any ops listed↔i<ops.size∧listed.getD i A=C∧∃o,ops[i]?=B o∧∀e∈o.after.toList,Region.binds .any e=A→listed.getD e.on C=A:=by
 unfold Region.ready;rw[List.mem_filter,List.mem_range];constructor
 ·rintro⟨h1,h2⟩;rw[e_,a4_]at h2;refine⟨h1,h2.1,ops[i],b4_ h1,?_⟩;have h3:=h2.2;rw[b4_ h1]at h3;simp only[g6_,Option.getD_some]at h3;intro e he hb;rw[← Array.all_toList,N_]at h3
  have:=h3 e he
  rw[hb]at this;simpa using this
 ·rintro⟨h1,h2,o,h3,h4⟩;refine⟨h1,?_⟩;rw[h2,h3];simp only[d4_,g6_,Option.getD_some,u_];rw[← Array.all_toList,N_];intro e he;cases hb:Region.binds .any e with
  |false=>rfl
  |true=>simpa using h4 e he hb
include ok eqok cfok cfl in
theorem Az3{cx:Cx}(dn:Done cf cx.nt ops st outs){Q:Exit→Act→World→Prop}(hQ:∀a' w',Rel G cx (replay (λ_=>A) 0 (recs ops.toList outs) st) a' w'→Q .normal a' w') :
  ∀(DT:Nat) (listed:Array Bool) (a:Act) (w:World),listed.size=ops.size→Down ops (λi=>listed.getD i C)→left ops.size listed≤DT→
   Rel G cx (replay (λi=>listed.getD i C) 0 (recs ops.toList outs) st) a w→wpAny P .any ops Q DT listed a w:=by
 have full:∀(listed:Array Bool) (a:Act) (w:World),listed.size=ops.size→(∀i,i<ops.size→listed.getD i C=A)→Rel G cx (replay (λi=>listed.getD i C) 0 (recs ops.toList outs) st) a w→Q .normal a w:=by
  intro listed a w _ hall r;refine hQ a w (r.ext (Qw _ _ _ _ _ (λi hi=>?_) ExtEq.rfl'));rw[p_];refine hall i ?_
  have:=(QZ (j_ hi)).choose_spec.1
  have:=(g_.1 this).1
  simpa using this
 have none_ready:∀(listed:Array Bool),listed.size=ops.size→Region.ready .any ops listed=[]→∀(n i:Nat),i<n→i<ops.size→listed.getD i C=A:=by
  intro listed hs hr n;induction n with
  |zero=>intro i h;omega
  |succ n ih=>
   intro i hin hi;cases hb:listed.getD i C with
   |true=>rfl
   |false=>
    have:i∈Region.ready .any ops listed:=by refine Zg.2 ⟨hi,by rw[Ul hs hi A C];exact hb,ops[i],b4_ hi,λe he hbd=>?_⟩;have hlt:=Sr dn.edges i ops[i] (by simp[hi]) e he hbd;exact ih e.on ω ω
    rw[hr]at this;simp at this
 intro DT;induction DT with
 |zero=>
  intro listed a w hs hD hl r;have hall:∀i,i<ops.size→listed.getD i C=A:=by
   intro i hi;have h0:left ops.size listed=0:=ω;unfold left at h0;rw[List.countP_eq_zero]at h0
   have:=h0 i (by simp[hi])
   simp only[a4_,Bool.not_eq_false]at this;rw[Ul hs hi C A];exact this
  refine⟨?_,full listed a w hs hall r⟩;cases hr:Region.ready .any ops listed with
  |nil=>rfl
  |cons i t=>
   have:i∈Region.ready .any ops listed:=by rw[hr];simp
   obtain⟨h1,h2,_⟩:=Zg.1 this;rw[Ul hs h1 A C,hall i h1]at h2;simp at h2
 |succ DT ih=>
  intro listed a w hs hD hl r;refine⟨λhr=>full listed a w hs (λi hi=>none_ready listed hs hr (i+1) i ω hi) r,λi hi=>?_⟩;obtain⟨h1,h2,o,ho,hpre⟩:=Zg.1 hi;rw[Ul hs h1 A C]at h2;have hlen:i<outs.length:=by rw[dn.len];exact h1
  have hout:outs[i]?=B outs[i]:=j_ hlen;have hstep:=Bgn cfl dn hD ho hout h2 hpre;have hnext:=Bfw dn hD ho hout h2 hpre (D':=λj=>(listed.setIfInBounds i A).getD j C) (by show Array.getD _ _ _=A;rw[Um ω];simp)
   (λj hj=>by show Array.getD _ _ _=_;rw[Um ω,if_neg hj])
  have hD':Down ops (λj=>(listed.setIfInBounds i A).getD j C):=by
   intro j p hp hj e he hb;show Array.getD _ _ _=A;have hj:Array.getD _ _ _=A:=hj;rw[Um ω]at hj⊢;by_cases e1:e.on=i
   ·rw[if_pos e1]
   ·rw[if_neg e1];by_cases e2:j=i
    ·subst e2;rw[ho]at hp;simp at hp;subst hp;exact hpre e he hb
    ·rw[if_neg e2]at hj;exact hD j p hp hj e he hb
  have hwp:=Bgm ok eqok cfok hstep r (K:=wpAny P .any ops Q DT (listed.setIfInBounds i A)) (Q:=Q) λa' w' r'=>
   ih (listed.setIfInBounds i A) a' w' (by simp[hs]) hD' (by
    have:left ops.size (listed.setIfInBounds i A)<left ops.size listed:=by
     refine Aim _ i (by simp[h1]) (λj _ hq=>?_) (by rw[Ul hs h1 A C,h2];rfl) (by rw[Um ω];simp);rw[Um ω]at hq;by_cases e:j=i
     ·rw[if_pos e]at hq;simp at hq
     ·rw[if_neg e]at hq;exact hq
    omega) (r'.ext hnext)
  unfold wpOp;rw[ho];simp only;by_cases hw:Region.wanted o (yielded ops a.tmps)=A
  ·rw[if_pos hw]at hwp⊢;exact .inl hwp
  ·rw[if_neg hw]at hwp⊢;exact hwp
include ok eqok cfok cfl in
theorem Ve(hm:P.follows .mixedOrders=A):DrawOK P G nt (Ug cf nt):=by
 refine⟨λops st=>Ad (Ax _) λ_=>Ad (XA cfok _ _) λ_=>Ad (Ax _) λ_=>Ah _,?_⟩;intro ops st st' h cx a w id Q hnt hrel hQ;subst hnt;unfold Ug at h;obtain⟨h1,h2⟩:=M.bindneed h;obtain⟨⟨outs,st1⟩,h3,h4⟩:=(XA cfok (ops:=ops) ops.toList st).spec (aB h2);obtain⟨h5,h6⟩:=M.bindneed h4;simp[I]at h6;subst h6;obtain⟨e1,e2,e3⟩:=Aj0 cfok ops.toList st st1 outs h3;rw[e_]at h1;have dn:Done cf cx.nt ops st outs:=⟨by simpa using e1,h1.1,h1.2,h5,λi o out hi ho=>e3 i o out (by simpa using hi) ho⟩
 refine wp_region_any hm (Az3 ok eqok cfok cfl dn (λa' w' r'=>hQ a' w' (r'.ext e2.symm)) ops.size _ a _ σ ?_ ?_ ?_)
 ·intro j o _ hj;have hj:(Array.replicate ops.size C).getD j C=A:=hj;simp[z_,Array.getElem?_replicate]at hj;split at hj<;>simp at hj
 ·exact c3_ List.countP_le_length σ
 ·refine(hrel.drawn _).ext ?_
  have:replay (λi=>(Array.replicate ops.size C).getD i C) 0 (recs ops.toList outs) st=st:=by
   have e:(λi=>(Array.replicate ops.size C).getD i C)=λ_=>C:=by funext i;simp only[z_,Array.getElem?_replicate];split<;>rfl
   rw[e,NV]
  rw[this];exact ExtEq.rfl'
end
end Go.Ab
