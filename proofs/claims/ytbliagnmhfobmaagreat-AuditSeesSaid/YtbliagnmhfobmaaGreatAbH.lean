/- Contracts of Go's library that are proved by hand: rows as they lie, and what a call on rows leaves. -/
import Derived.Test.YtbliagnmhfobmaaGreatAbE
import Derived.Laws.CopyRow
import Derived.Laws.AppendOwn
import Derived.Laws.Append
import Derived.Below
import Derived.Lib.AppendStr
import Derived.Shelf.Spec.SlicesInsertGrow
import Derived.Deep.LoopGhost
import Derived.Lib.SliceRun
import Derived.Shelf.Strings.Builder1
import Derived.Lib.UnsafeStr
import Derived.Lib.AppendZeros
import Derived.MapKept
namespace Go.Ab
variable {G:Sig}
section
variable {P:Program} (w:World)
end
def ERel (G:Sig) (S:Nat→Prop) (h:Array Obj) (t:Nat) (l:List (G.T t)) (ys:List Value):Prop:=
 ys.length=l.length * G.sz t∧(∀ u ∈ ys,u.oneCell'=true)∧∀ (i j:Nat) (x:G.T t) (cv:Cv G.T),l[i]?=some x→(G.enc t x)[j]?=some cv→∃ v,ys[i * G.sz t + j]?=some v∧Rd G S h cv v
section
variable {S:Nat→Prop} {h:Array Obj} {t:Nat}
theorem ERel.nil:ERel G S h t [] []:=⟨by simp,by simp,by simp⟩
theorem nba1' {P:Program} (ok:SigOK P G) {x:G.T t} {j:Nat} {cv:Cv G.T} (hc:(G.enc t x)[j]?=some cv):j < G.sz t:=
 Nat.lt_of_lt_of_le (List.getElem?_eq_some_iff.1 hc).1 (ok.encl t x)
theorem n54' {i n k j:Nat} (hi:i < n) (hj:j < k):i * k + j < n * k:=by
 have:(i + 1) * k≤n * k:=Nat.mul_le_mul_right _ hi
 rw [Nat.add_mul] at this; omega
theorem ERel.append {l l':List (G.T t)} {ys ys':List Value} {P:Program} (ok:SigOK P G) (a:ERel G S h t l ys) (b:ERel G S h t l' ys'):ERel G S h t (l++l') (ys++ys'):=by
 refine ⟨by rw [List.length_append,List.length_append,a.1,b.1,Nat.add_mul],fun u hu=>?_,fun i j x cv hx hc=>?_⟩
 ·rcases List.mem_append.1 hu with hu | hu
  ·exact a.2.1 u hu
  ·exact b.2.1 u hu
 ·have hj:=nba1' ok hc
  rw [List.getElem?_append] at hx;split at hx
  ·rename_i hi
   obtain ⟨v,h1,h2⟩:=a.2.2 i j x cv hx hc;exact ⟨v,by rw [List.getElem?_append_left (by rw [a.1]; exact n54' hi hj)]; exact h1,h2⟩
  ·rename_i hi
   obtain ⟨v,h1,h2⟩:=b.2.2 _ j x cv hx hc;have hm:l.length * G.sz t≤i * G.sz t:=Nat.mul_le_mul_right _ (by omega)
   refine ⟨v,?_,h2⟩;rw [List.getElem?_append_right (by rw [a.1]; omega),a.1]
   rw [Nat.sub_mul] at h1;rw [← h1]; congr 1; omega
theorem ERel.take {l:List (G.T t)} {ys:List Value} {P:Program} (ok:SigOK P G) (a:ERel G S h t l ys) (n:Nat):ERel G S h t (l.take n) (ys.take (n * G.sz t)):=by
 refine ⟨by rw [List.length_take,List.length_take,a.1,Nat.mul_min_mul_right],fun u hu=>a.2.1 u (List.mem_of_mem_take hu),fun i j x cv hx hc=>?_⟩
 have hj:=nba1' ok hc;rw [List.getElem?_take] at hx;split at hx
 ·rename_i hi
  obtain ⟨v,h1,h2⟩:=a.2.2 i j x cv hx hc;exact ⟨v,by rw [List.getElem?_take_of_lt (n54' hi hj)]; exact h1,h2⟩
 ·cases hx
theorem ERel.drop {l:List (G.T t)} {ys:List Value} (a:ERel G S h t l ys) (n:Nat):ERel G S h t (l.drop n) (ys.drop (n * G.sz t)):=by
 refine ⟨by rw [List.length_drop,List.length_drop,a.1,Nat.sub_mul],fun u hu=>a.2.1 u (List.mem_of_mem_drop hu),fun i j x cv hx hc=>?_⟩
 rw [List.getElem?_drop] at hx;obtain ⟨v,h1,h2⟩:=a.2.2 (n + i) j x cv hx hc;exact ⟨v,by rw [List.getElem?_drop,← h1]; congr 1; rw [Nat.add_mul]; omega,h2⟩
end
end Go.Ab
namespace Go.Ab
variable {G:Sig}
def cloF {α:Type} (l:List α):Option ((List α×Unit)×Unit):=bif Nat.ble l.length 2147483648 then some ((l,()),()) else none
section
variable {P:Program} (ok:SigOK P G) {g r t:Nat} (hent:Entr P g) (hty:G.ty t ≠ .no) (henc:∀ x,(G.enc t x).length=G.sz t)
include ok hent hty henc
end
end Go.Ab
namespace Go.Ab
open Go.Lib
variable {G:Sig}
end Go.Ab
namespace Go.Ab
open Go.Lib
variable {G:Sig}
section
variable {P:Program} (ok:SigOK P G) {g tb te:Nat} (hent:Entr P g) (hty:G.ty te ≠ .no) (henc:∀ x,(G.enc te x).length=G.sz te) (hsz:G.sz te=1)
include ok hent hty henc hsz
end
end Go.Ab
namespace Go.Ab
open Go.Lib Go.RowKit
end Go.Ab
namespace Go.Ab
open Go.RowKit
variable {G:Sig}
def GlAt (G:Sig) (n:Nat) (w:World):Prop:=∃ S:Nat→Prop,GlOK G S w.heap∧∀ b,S b→b < n
theorem GlAt.below {n:Nat} {w w':World} (h:GlAt G n w) (hb:Below n w w'):GlAt G n w':=by
 obtain ⟨S,h1,h2⟩:=h;exact ⟨S,h1.mono (fun _ h=>h) fun b hs=>hb.block b (h2 b hs),h2⟩
theorem GlAt.le {n m:Nat} {w:World} (h:GlAt G n w) (hm:n≤m):GlAt G m w:=by
 obtain ⟨S,h1,h2⟩:=h;exact ⟨S,h1,fun b hs=>Nat.lt_of_lt_of_le (h2 b hs) hm⟩
def boolE (r:Nat):List (Ex×Spec):=[(.ret,⟨[(r,.one .bool)],[],[]⟩)]
theorem nbae' {I:Spec} (hI:I.hp=[]) {r:Nat} {y:(Bool×Unit)×Unit} {p:Ex×St G} {s:Sv G.T} {bl:List (List (Cv G.T))} (hp:caseE (boolE r) y some=some p) (ho:outsP I [.tmp r] p=some (s,bl)) :
  p.2.hp=[]∧s=.p (.one (.sc (.bool y.1.1)))∧bl=[]:=by
 have hp':p=(.ret,Spec.mk' ⟨[(r,.one .bool)],[],[]⟩ y):=(Option.some.inj hp).symm;subst hp';unfold outsP at ho;rw [hI] at ho;have hg:get [(r,(Sv.p (.one (.sc (.bool y.1.1))):Sv G.T))] r=some (.p (.one (.sc (.bool y.1.1)))):=by simp [get]
 have hres:resS (Spec.mk' ⟨[(r,.one .bool)],[],[]⟩ y:St G) [.tmp r]=some (.p (.one (.sc (.bool y.1.1)))):=by
  unfold resS
  have:noa' (Spec.mk' ⟨[(r,.one .bool)],[],[]⟩ y:St G) [.tmp r]=some [.one (.sc (.bool y.1.1))]:=by
   simp only [noa',resOf,Spec.mk',nod',PSh.give,CSh.give,hg]
  rw [this]
 simp only [hres,keysH,n3u',mapO,Option.some.injEq,Prod.mk.injEq] at ho;exact ⟨rfl,ho.1.symm,ho.2.symm⟩
def edgeB (x y:Int):Bool:=bif x==0 then y==1 else bif x==1 then (y==0||y==2) else bif x==2 then (y==0||y==3) else bif x==3 then (y==2||y==4) else bif x==4 then y==2 else false
def twoI:Spec:=⟨[(0,.one (.int .i64)),(1,.one (.int .i64))],[],[]⟩
def twoF (f:Int→Int→Bool) (x y:Int):Option ((Bool×Unit)×Unit):=some ((f x y,()),())
def twoFe (G:Sig) (r:Nat) (f:Int→Int→Bool):Fe G:=⟨twoI,boolE r,fun x=>twoF f x.1.1 x.1.2.1,[.tmp r]⟩
theorem twoOK {P:Program} {g r:Nat} {f:Int→Int→Bool} (hent:Entr P g)
  (hc:∀ (w:World) (x y:Int),Calls P g #[.int .i64 x,.int .i64 y] w fun e w'=>e=.returned (.bool (f x y))∧Below w.heap.size w w'):FnOK P G g (twoFe G r f):=by
 refine ⟨hent,fun x y p s bl hy hp ho ν S mo w vals hheap _ hvl hslot=>?_⟩
 obtain ⟨⟨(a:Int),(c:Int),_⟩,_⟩:=x;obtain ⟨h3,rfl,rfl⟩:=nbae' (I:=twoI) rfl hp ho;have hy':y=((f a c,()),()):=(Option.some.inj hy).symm;subst hy';have s0:=hslot 0 (.p (.one (.sc (.int .i64 a)))) rfl;have s1:=hslot 1 (.p (.one (.sc (.int .i64 c)))) rfl
 have hvals:∃ a b,vals=[a,b]:=by
  match vals,hvl with
  | [a,b],_=>exact ⟨a,b,rfl⟩
 obtain ⟨v0,v1,rfl⟩:=hvals;have e0:v0=.int .i64 a:=by cases s0 with | p _ _ hc=>cases hc with | one _ _ hc=>cases (show Rd G S w.heap (.sc (.int .i64 a)) v0 from hc); rfl
 have e1:v1=.int .i64 c:=by cases s1 with | p _ _ hc=>cases hc with | one _ _ hc=>cases (show Rd G S w.heap (.sc (.int .i64 c)) v1 from hc); rfl
 subst e0 e1;refine (hc w a c).mono ?_;rintro e w' ⟨rfl,hb⟩
 refine ⟨_,fun n=>if lo≤n then ν n else none,S,rfl,.p _ _ (.one _ _ (.sc _ rfl)),⟨fun n k hk=>?_,fun n m x y b hn=>?_,fun n x b hn=>?_,fun b hS=>Nat.lt_of_lt_of_le (hheap.stay b hS) hb.size,hheap.gl.mono (fun _ h=>h) fun b hS=>hb.block b (hheap.stay b hS)⟩,
  fun _ h=>h,fun _ h=>.inl h,fun n y hlo hy=>by simp only; rw [if_pos hlo]; exact hy,hb.size,fun b hlt _=>hb.block b hlt,⟨hb.os,hb.tape,hb.output⟩⟩
 ·rw [h3] at hk; simp [get] at hk
 ·rw [h3] at hn; simp [get] at hn
 ·rw [h3] at hn; simp [get] at hn
def collO {α:Type} (h:Int→Int→Option ((Bool×Unit)×Unit)) (mk:Int→Int→α):List (Int×Int)→Option (List α)
 | []=>some []
 | p :: r=>match h p.1 p.2 with
  | some y=>match collO h mk r with
   | some l=>some (bif y.1.1 then mk p.1 p.2 :: l else l)
   | none=>none
  | none=>none
section
variable {P:Program} (ok:SigOK P G) {g r t:Nat} (hent:Entr P g) {h:Int→Int→Int→Int→Option ((Bool×Unit)×Unit)} {mk:Int→Int→G.T t}
 (hsz:G.sz t=5) (hmk:∀ f d,G.enc t (mk f d)=[.sc (.int .i64 f),.sc (.int .i64 d),.sc (.int .i64 (-1)),.sc (.int .i64 0),.sc (.bool false)])
include ok hsz hmk
include hent
end
end Go.Ab
namespace Go.Ab
open Go.RowKit
theorem nbe7' {P:Program} {mty kt et:TypeId} (hm:P.underlying mty=some (.map kt et)) (hk:P.underlying kt=some (.int .i64)) (w:World) {r clock:Nat} {es:Array MapEntry} (key:Int) (val:Value) (hb:w.heap[r]?=some (.map es clock))
  (hf:Instr.findNow (.int .i64) (.int .i64 key) es.toList 0=some none) :
  (Instr.mapUpdate mty (.map (some r)) (.int .i64 key) val).run P w=.ok () { w with heap:=w.heap.setIfInBounds r (.map (es.push { key:=.int .i64 key,val:=val,born:=clock }) (clock + 1)) }:=by
 have hc:(Instr.checkKey false 10000 kt (.int .i64 key)).run P w=.ok () w:=MapKept.run_checkKey (k:=.int .i64 key) hk (by simp [MapKept.IsKey]) false 9999
 simp [Instr.mapUpdate,run_underlying hm,MapKept.run_getObj_map hb,hc,MapKept.run_findKey hk hf,MapKept.run_setObj_map _ hb,Result.andThen]
def orZ (z:Value):Option (Nat×Value)→Value
 | some p=>p.2
 | none=>z
theorem nbdf' {P:Program} {mty kt et:TypeId} (hm:P.underlying mty=some (.map kt et)) (hk:P.underlying kt=some (.int .i64)) {z:Value} (w:World) (hz:(zeroValue et).run P w=.ok z w) {r clock:Nat} {es:Array MapEntry} (key:Int) (hb:w.heap[r]?=some (.map es clock))
  {a:Option (Nat×Value)} (hf:Instr.findNow (.int .i64) (.int .i64 key) es.toList 0=some a) :
  (Instr.lookup mty (.map (some r)) (.int .i64 key) false).run P w=.ok (orZ z a) w:=by
 have hc:∀ e,(Instr.checkKey e 10000 kt (.int .i64 key)).run P w=.ok () w:=fun e=>MapKept.run_checkKey (k:=.int .i64 key) hk (by simp [MapKept.IsKey]) e 9999
 cases a <;> simp [orZ,Instr.lookup,run_underlying hm,MapKept.run_getObj_map hb,hc,MapKept.run_findKey hk hf,hz,Result.andThen]
structure Pr where
 key:Int
 block:Nat
 cells:Array Value
def Pr.val (p:Pr):Value:=.slice (some ⟨p.block,0,none⟩) p.cells.size p.cells.size
def lookP (x:Int):List Pr→Nat→Option (Nat×Value)
 | [],_=>none
 | p :: L,i=>bif x==p.key then some (i,p.val) else lookP x L (i + 1)
theorem nta' (x:Int):∀ (es:List MapEntry) (L:List Pr) (i:Nat),es.map (fun e=>(e.key,e.val))=L.map (fun p=>(Value.int .i64 p.key,p.val))→Instr.findNow (.int .i64) (.int .i64 x) es i=some (lookP x L i)
 | [],[],_,_=>rfl
 | [],_ :: _,_,h=>by simp at h
 | _ :: _,[],_,h=>by simp at h
 | e :: es,p :: L,i,h=>by
  simp only [List.map_cons,List.cons.injEq,Prod.mk.injEq] at h;obtain ⟨⟨h1,h2⟩,h3⟩:=h;unfold Instr.findNow lookP;rw [h1,h2];simp only [Instr.sameNow,if_true];cases x==p.key with
  | true=>rfl
  | false=>exact nta' x es L (i + 1) h3
structure EM (t:TypeId) (w0 W:World) (L:List Pr):Prop where
 map:∃ es clock,W.heap[w0.heap.size]?=some (.map es clock)∧es.toList.map (fun e=>(e.key,e.val))=L.map (fun p=>(Value.int .i64 p.key,p.val))
 rows:∀ p ∈ L,W.heap[p.block]?=some (.cells p.cells t (0,0))
 below:Below w0.heap.size w0 W
 size:w0.heap.size < W.heap.size
theorem EM.made (t:TypeId) (w:World):EM t w (w.alloc (.map #[] 0)) []:=
 ⟨⟨#[],0,(MapKept.heap_alloc w _).1,rfl⟩,(fun p hp=>by simp at hp),(Below.refl _ w).alloc (Nat.le_refl _) _,by simp⟩
theorem EM.ins {P:Program} {mty kt et t:TypeId} (hm:P.underlying mty=some (.map kt et)) (hk:P.underlying kt=some (.int .i64)) {w0 W:World} {L:List Pr} (h:EM t w0 W L) (k:Int) (cs:Array Value) (hn:lookP k L 0=none) :
  ∃ W',(Instr.mapUpdate mty (.map (some w0.heap.size)) (.int .i64 k) (.slice (some ⟨W.heap.size,0,none⟩) cs.size cs.size)).run P (W.alloc (.cells cs t))=.ok () W'∧EM t w0 W' (L++[⟨k,W.heap.size,cs⟩]):=by
 obtain ⟨⟨es,clock,hb,he⟩,hr,hB,hs⟩:=h;have ha:=MapKept.heap_alloc W (.cells cs t);have hb':(W.alloc (.cells cs t)).heap[w0.heap.size]?=some (.map es clock):=(ha.2 _ hs).trans hb;have hf:=nta' k es.toList L 0 he;rw [hn] at hf;have hset:=MapKept.heap_set (o':=.map (es.push { key:=.int .i64 k,val:=.slice (some ⟨W.heap.size,0,none⟩) cs.size cs.size,born:=clock }) (clock + 1)) hb';refine ⟨_,nbe7' hm hk _ k _ hb' hf,⟨_,_,hset.1,?_⟩,?_,?_,?_⟩
 ·rw [Array.toList_push,List.map_append,List.map_append,he]; rfl
 ·intro p hp
  rw [List.mem_append] at hp;have hlt:∀ {q:Nat} {o:Obj},W.heap[q]?=some o→q < W.heap.size:=fun h=>(Array.getElem?_eq_some_iff.1 h).1
  rcases hp with hp | hp
  ·have h1:=hr p hp
   have hne:p.block ≠ w0.heap.size:=fun e=>by rw [e,hb] at h1; cases h1
   rw [hset.2 _ hne];exact (ha.2 _ (hlt h1)).trans h1
  ·simp only [List.mem_singleton] at hp
   subst hp;show (_:Array Obj)[W.heap.size]?=_;rw [hset.2 _ (by omega)]
   exact ha.1
 ·refine hB.trans ⟨rfl,rfl,rfl,by simp,fun q hq=>?_⟩
  rw [hset.2 _ (by omega)]
  exact ha.2 _ (by omega)
 ·simp; omega
theorem EM.look {P:Program} {mty kt et t:TypeId} (hm:P.underlying mty=some (.map kt et)) (hk:P.underlying kt=some (.int .i64)) {z:Value} {w0 W:World} (hz:(zeroValue et).run P W=.ok z W) {L:List Pr} (h:EM t w0 W L) (k:Int) :
  (Instr.lookup mty (.map (some w0.heap.size)) (.int .i64 k) false).run P W=.ok (orZ z (lookP k L 0)) W:=by
 obtain ⟨⟨es,clock,hb,he⟩,_,_,_⟩:=h;exact nbdf' hm hk W hz k hb (nta' k es.toList L 0 he)
theorem EM.cell {t:TypeId} {w0 W:World} {L:List Pr} (h:EM t w0 W L) {p:Pr} (hp:p ∈ L) {i:Nat} {v:Value} (hv:p.cells[i]?=some v):W.cell? ⟨p.block,i,none⟩=some v:=by
 simp [World.cell?,h.rows p hp,hv]
end Go.Ab
