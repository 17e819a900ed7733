import Derived.Test.YtnaickmgbfjbkaaGreatDoorAbC
import Derived.Laws.CopyRow
import Derived.Laws.AppendOwn
import Derived.Laws.Append
import Derived.Below
import Derived.Lib.AppendStr
import Derived.Shelf.Spec.SlicesInsertGrow
import Derived.Deep.LoopGhost
import Derived.Lib.SliceRun
import Derived.Shelf.Strings.Builder1
import Derived.Lib.UnsafeStr
import Derived.Lib.AppendZeros
set_option linter.all false
open Option renaming some->C,none->H
open Go.Ab renaming get->J,Spec->Y
open Go.Ab.Spec renaming mk'->L
open Bool renaming true->O
open Nat renaming min->aA
open List renaming take_left'->aB
open Array renaming toList_append->aC
namespace Go.Ab
variable{G:Sig}
variable{P:Program}{ν:Nat->Option Value}{w:World}{new:Array Value}{ys:List Value}{g:Nat}
section
variable{P:Program}(w:World)
theorem Xv(dT sT ty elem:TypeId)(i:TypeInfo)(g o dLen dCap:Nat)(a:Addr)(sLen sCap:Nat)(cur:Array Value)(t:TypeId)(cs:List Value)
  (hu:P.underlying dT=C (.slice elem)) (hs:P.info? elem=C i)
  (hg:w.heap[g]?=C (.cells cur t (0,0))) (hn:cs.length=aA sLen dLen*i.size)
  (hsrc:∀j v,cs[j]?=C v->w.cell? (a.add j)=C v) (hfit:o+cs.length<=cur.size) (h1:∀v∈cs,v.oneCell'=O) :
  (Builtin.copy_ #[dT,sT] ty #[.slice (C ⟨g,o,H⟩) dLen dCap,.slice (C a) sLen sCap]).run P w=
   .ok (goInt (aA sLen dLen)) (w.setRow g (cur.toList.take o++cs++cur.toList.drop (o+cs.length)).toArray):=by
 have hl:=run_loadCells_list (P:=P) w a cs hsrc;rw[hn]at hl;have hst:=run_storeCells_at P g o t cs 0 cur w hg (by simpa using hfit) h1;simp only[b6_]at hst;simp[Builtin.copy_,A_ hu,Builtin.lenOf,Builtin.firstCells,sizeOf,typeInfo,hs,hl,hst]
end
def rowHeap{cur:Array Value}{t:TypeId}{fz:Nat×Nat}(hg:w.heap[g]?=C (.cells cur t fz)):(w.setRow g new).heap[g]?=C (.cells new t fz):=by unfold World.setRow;simp only;rw[e4_,if_pos rfl,hg];rfl
def rowOther{b:Nat}(h:b≠g):(w.setRow g new).heap[b]?=w.heap[b]?:=by unfold World.setRow;simp[e4_,e0_ h]
def rowSize:(w.setRow g new).heap.size=w.heap.size:=by unfold World.setRow;simp
structure RowOut(w w':World)(t k:Nat)(vS v':Value)(n:Nat)(ys:List Value):Prop where
 row:w'.ownsRow 0 t k v' n ys
 blk:∀b,v'.ownBlock=some b->vS.ownBlock=some b\/w.heap.size<=b
 grow:w.grownBy w' vS.ownBlock
def ERel(G:Sig)(S:Nat->Prop)(h:Array Obj)(t:Nat)(l:List (G.T t))(ys:List Value):Prop:=ys.length=l.length*G.sz t/\(∀u∈ys,u.oneCell'=O)/\∀(i j:Nat) (x:G.T t) (cv:Cv G.T),l[i]?=C x->(G.enc t x)[j]?=C cv->∃v,ys[i*G.sz t+j]?=C v/\Rd G S h cv v
section
variable{S:Nat->Prop}{h:Array Obj}{t:Nat}
def ERel.nil:ERel G S h t [] []:=⟨σ,σ,σ⟩
def ZT(ok:SigOK P G){x:G.T t}{j:Nat}{cv:Cv G.T}(hc:(G.enc t x)[j]?=C cv):j<G.sz t:=c5_ (g_.1 hc).1 (ok.encl t x)
def WL{i n k j:Nat}(hi:i<n)(hj:j<k):i*k+j<n*k:=by
 have:(i+1)*k<=n*k:=B_ _ hi
 rw[a0_]at this;omega
def ERel.append{l l':List (G.T t)}{ys':List Value}(ok:SigOK P G)(a:ERel G S h t l ys)(b:ERel G S h t l' ys'):ERel G S h t (l++l') (ys++ys'):=by
 refine⟨by rw[h_,h_,a.1,b.1,a0_],λu hu=>?_,λi j x cv hx hc=>?_⟩
 .rcases u_.1 hu with hu|hu
  .exact a.2.1 u hu
  .exact b.2.1 u hu
 .have hj:=ZT ok hc;rw[e7_]at hx;split at hx
  .rename_i hi;obtain⟨v,h1,h2⟩:=a.2.2 i j x cv hx hc;exact⟨v,by rw[c0_ (by rw[a.1];exact WL hi hj)];exact h1,h2⟩
  .rename_i hi;obtain⟨v,h1,h2⟩:=b.2.2 _ j x cv hx hc;have hm:l.length*G.sz t<=i*G.sz t:=B_ _ ω;refine⟨v,?_,h2⟩;rw[b9_ (by rw[a.1];omega),a.1];rw[Nat.sub_mul]at h1;rw[<-h1];congr 1;omega
def ERel.take{l:List (G.T t)}(ok:SigOK P G)(a:ERel G S h t l ys)(n:Nat):ERel G S h t (l.take n) (ys.take (n*G.sz t)):=by
 refine⟨by rw[w_,w_,a.1,Nat.mul_min_mul_right],λu hu=>a.2.1 u (e5_ hu),λi j x cv hx hc=>?_⟩;have hj:=ZT ok hc;rw[List.getElem?_take]at hx;split at hx
 .rename_i hi;obtain⟨v,h1,h2⟩:=a.2.2 i j x cv hx hc;exact⟨v,by rw[t_ (WL hi hj)];exact h1,h2⟩
 .cases hx
def ERel.drop{l:List (G.T t)}(a:ERel G S h t l ys)(n:Nat):ERel G S h t (l.drop n) (ys.drop (n*G.sz t)):=by refine⟨by rw[X_,X_,a.1,Nat.sub_mul],λu hu=>a.2.1 u (e6_ hu),λi j x cv hx hc=>?_⟩;rw[b8_]at hx;obtain⟨v,h1,h2⟩:=a.2.2 (n+i) j x cv hx hc;exact⟨v,by rw[b8_,<-h1];congr 1;rw[a0_];omega,h2⟩
end
def Ab4(ok:SigOK P G){S B:Nat->Prop}{h:Nat->Option (Blk G.T)}(hr:HRel G ν S B h w){n t:Nat}{l:List (G.T t)}(hn:h n=C (.row t l))(hty:G.ty t≠ .no)(henc:∀x,(G.enc t x).length=G.sz t){v:Value}(hv:ν n=C v):
  ∃ys,w.ownsRow 0 t (G.sz t) v l.length ys/\ERel G S w.heap t l ys/\(∀b,v.ownBlock=C b->¬S b/\B b/\b<w.heap.size/\AC v=C b):=by
 have hpos:=ok.pos t hty;rcases hr.blk n _ hn with⟨h1,h2⟩|⟨b,cap,c,te,h1,h2,h3,h4,h5,h6,h7⟩
 .rw[hv]at h1;cases h1;subst h2;exact⟨[],⟨σ,.inl ⟨rfl,rfl⟩⟩,ERel.nil,λb hb=>by simp[Value.ownBlock]at hb⟩
 .rw[hv]at h1;cases h1;subst h6;have hmul:l.length*G.sz te<=cap*G.sz te:=B_ _ h3;refine⟨c.toList.take (l.length*G.sz te),⟨by simp;omega,.inr ⟨b,cap,c,rfl,G_ _,h2,h3,h7,h4,rfl⟩⟩,⟨by simp;omega,λu hu=>?_,λi j x cv hx hc=>?_⟩,λb' hb'=>?_⟩
  .obtain⟨j,hj,e⟩:=List.getElem_of_mem hu;have hj':j<l.length*G.sz te:=by simp at hj;omega
   have hi:j/G.sz te<l.length:=Nat.div_lt_of_lt_mul (by rw[e9_];exact hj');have hm:j%G.sz te<(G.enc te l[j/G.sz te]).length:=by rw[henc];exact Nat.mod_lt _ hpos
   obtain⟨u',hu',hrd⟩:=h5 (j/G.sz te) (j%G.sz te) _ _ (j_ hi) (j_ hm);rw[e9_,Nat.div_add_mod]at hu'
   have:u=u':=by
    have h6:(c.toList.take (l.length*G.sz te))[j]?=C u:=by rw[<-e];exact j_ hj
    rw[t_ hj']at h6;simp at h6;rw[h6]at hu';simpa using hu'
   rw[this];exact WS hrd
  .obtain⟨u,hu,hrd⟩:=h5 i j x cv hx hc;have hi:i<l.length:=(g_.1 hx).1;exact⟨u,by rw[t_ (WL hi (ZT ok hc))];simpa using hu,hrd⟩
  .simp[Value.ownBlock]at hb';subst hb';obtain⟨q1,q2⟩:=hr.own n _ b (by rw[hn];simp) hv rfl;exact⟨q1,q2,(x_.1 h2).1,rfl⟩
def KE(ν:Nat->Option Value)(m:Nat)(v:Value):Nat->Option Value:=λn=>if n=m then C v else if lo<=n then ν n else H
def QK(ok:SigOK P G){S mo:Nat->Prop}{hp:Nat->Option (Blk G.T)}{w':World}(hr:HRel G ν S (λb=>mo b\/w.heap.size<=b) hp w)
  {t n m:Nat}{vS v':Value}{ys:List Value}{l:List (G.T t)}(hout:RowOut w w' t (G.sz t) vS v' n ys) (hS:∀b,vS.ownBlock=C b->¬S b/\mo b) (hE:ERel G S w.heap t l ys) (hn:n=l.length) (hm:m<lo) :
  Rs G (KE ν m v') S w'.heap (.p (.one (.own m))) v'/\HRel G (KE ν m v') S (λb=>mo b\/w.heap.size<=b) (J [(m,.row t l)]) w'/\
   (∀b,S b->S b)/\(∀b,S b->S b\/mo b\/w.heap.size<=b)/\(∀n y,lo<=n->ν n=C y->KE ν m v' n=C y)/\
   w.heap.size<=w'.heap.size/\(∀b,b<w.heap.size->¬mo b->w'.heap[b]?=w.heap[b]?)/\(w'.os=w.os/\w'.tape=w.tape/\w'.output=w.output):=by
 have hheap:∀b,S b->w'.heap[b]?=w.heap[b]?:=λb hb=>hout.grow.block b (hr.stay b hb) λe=>(hS b e.symm).1 hb;have hnm:KE ν m v' m=C v':=by simp[KE]
 have hform:∃a len cap,v'=.slice a len cap:=by
  obtain⟨_,h|⟨g,cap,cur,h,_⟩⟩:=hout.row
  .exact⟨_,_,_,h.1⟩
  .exact⟨_,_,_,h⟩
 refine⟨.p _ _ (.one _ _ ?_),⟨λn' k hk=>?_,λa b x y c ha hb hx hy hcx hcy=>?_,λn' x b hn' hx hb=>?_,λb hb=>c5_ (hr.stay b hb) hout.grow.size,hr.gl.mono (λ_ h=>h) hheap⟩,λ_ h=>h,λ_ h=>.inl h,λn' y hlo hy=>?_,hout.grow.size,λb hb hmo=>hout.grow.block b hb λe=>hmo (hS b e.symm).2,hout.grow.os,hout.grow.tape,hout.grow.output⟩
 .obtain⟨a,len,cap,e⟩:=hform;exact⟨a,len,cap,hnm,e⟩
 .simp only[J,Bf]at hk;split at hk
  .rename_i e;subst e;cases hk;obtain⟨hl,h|⟨g,cap,cur,h1,_,h2,h3,h4,h5,h6⟩⟩:=hout.row
   .left;refine⟨by rw[hnm,h.1],?_⟩
    have:=h.2;rw[hn]at this
    exact P_ this
   .right;rw[hn]at h1 h3 h6;refine⟨g,cap,cur,t,by rw[hnm,h1],h2,h3,h5,λi j x cv hx hc=>?_,rfl,h4⟩;obtain⟨v,hv,hrd⟩:=hE.2.2 i j x cv hx hc;have hi:i<l.length:=(g_.1 hx).1;rw[<-h6,t_ (WL hi (ZT ok hc))]at hv;exact⟨v,by simpa using hv,hrd.mono (λ_ h=>h) hheap⟩
  .cases hk
 .have one:∀q,J [(m,Blk.row t l)] q≠H->q=m:=λq hq=>by
   simp only[J,Bf]at hq;split at hq
   .rename_i e;exact e.symm
   .exact absurd rfl hq
  rw[one a ha,one b hb]
 .have e:n'=m:=by
   simp only[J,Bf]at hn';split at hn'
   .rename_i e;exact e.symm
   .exact absurd rfl hn'
  subst e;rw[hnm]at hx;cases hx;have hob:v'.ownBlock=C b:=by
   obtain⟨a,len,cap,rfl⟩:=hform;cases a with
   |none=>simp[AC]at hb
   |some a=>simpa[AC,Value.ownBlock]using hb
  rcases hout.blk b hob with h|h
  .exact⟨(hS b h).1,.inl (hS b h).2⟩
  .exact⟨λhs=>by have:=hr.stay b hs;omega,.inr h⟩
 .unfold KE;rw[if_neg ω,if_pos hlo];exact hy
end Go.Ab
namespace Go.Ab
variable{G:Sig}
def Aph(r t:Nat):List (Ex×Y):=[(.ret,⟨[(r,.one (.own 32768 t))],[],[]⟩)]
def Bkd(t:Nat):Y:=⟨[(0,.one (.own 32768 t)),(1,.one (.int .i64)),(2,.one (.own 32769 t))],[],[]⟩
def Bj0(t:Nat):Y:=⟨[(0,.one (.own 32768 t)),(1,.one (.int .i64)),(2,.one (.int .i64))],[],[]⟩
def Bjy(t:Nat):Y:=⟨[(0,.one (.ro t))],[],[]⟩
def Aur{α:Type}(l:List α)(i:Int)(v:List α):Option ((List α×Unit)×Unit):=bif(decide (0<=i)&&decide (i<=(l.length:Int)))&&(Nat.blt 0 v.length&&Nat.ble (l.length+v.length) 2147483648)then C ((l.take i.toNat++v++l.drop i.toNat,()),())else H
def Bcb{α:Type}(l:List α)(i j:Int):Option ((List α×Unit)×Unit):=bif(decide (0<=i)&&decide (i<j))&&decide (j<=(l.length:Int))then C ((l.take i.toNat++l.drop j.toNat,()),())else H
def VL{α:Type}(l:List α):Option ((List α×Unit)×Unit):=bif Nat.ble l.length 2147483648 then C ((l,()),())else H
def Bno(G:Sig)(r t:Nat):Fe G:=⟨Bkd t,Aph r t,λx=>(Aur x.1.1 x.1.2.1 x.1.2.2.1:Option ((List (G.T t)×Unit)×Unit)),[.tmp r]⟩
def Bnk(G:Sig)(r t:Nat):Fe G:=⟨Bj0 t,Aph r t,λx=>(Bcb x.1.1 x.1.2.1 x.1.2.2.1:Option ((List (G.T t)×Unit)×Unit)),[.tmp r]⟩
def Bnj(G:Sig)(r t:Nat):Fe G:=⟨Bjy t,Aph r t,λx=>(VL x.1.1:Option ((List (G.T t)×Unit)×Unit)),[.tmp r]⟩
def Rj{α:Type}{b:Bool}{x y:α}(h:(bif b then C x else H)=C y):b=O/\x=y:=by
 cases b with
 |true=>exact⟨rfl,D_ h⟩
 |false=>cases h
def Yg{I:Y}(hI:I.hp=[]){r t:Nat}{y:(List (G.T t)×Unit)×Unit}{p:Ex×St G}{s:Sv G.T}{bl:List (List (Cv G.T))}(hp:Fs (Aph r t) y C=C p)(ho:Jy I [.tmp r] p=C (s,bl)) :
  p.2.hp=[(32768,.row t y.1.1)]/\s=.p (.one (.own 32768))/\bl=[]:=by
 have hp':p=(.ret,L ⟨[(r,.one (.own 32768 t))],[],[]⟩ y):=(D_ hp).symm;subst hp';unfold Jy at ho;rw[hI]at ho;have hg:J [(r,(Sv.p (.one (.own 32768)):Sv G.T))] r=C (.p (.one (.own 32768))):=by simp[J]
 have hres:RV (L ⟨[(r,.one (.own 32768 t))],[],[]⟩ y:St G) [.tmp r]=C (.p (.one (.own 32768))):=by
  unfold RV
  have:HC (L ⟨[(r,.one (.own 32768 t))],[],[]⟩ y:St G) [.tmp r]=C [.one (.own 32768)]:=by simp only[HC,Vp,L,JQ,PSh.give,CSh.give,hg]
  rw[this]
 simp only[hres,As,WE,Cq,c7_,Prod.mk.injEq]at ho;exact⟨rfl,ho.1.symm,ho.2.symm⟩
section
variable{P:Program}(ok:SigOK P G){g r t:Nat}(hent:Asv P g)(hty:G.ty t≠ .no)(henc:∀x,(G.enc t x).length=G.sz t)
include ok hent hty henc
theorem Aei (hc : ∀ (w : World) (n i m : Nat) (xs vs : List Value) (vS vV : Value), w.ownsRow 0 t (G.sz t) vS n xs -> w.ownsRow 0 t (G.sz t) vV m vs -> (∀ b, vS.ownBlock = C b -> vV.ownBlock ≠ C b) -> (∀ u ∈ xs, u.oneCell' = O) -> (∀ u ∈ vs, u.oneCell' = O) ->
      i<=n->0<m->n+m<=2147483648->Calls P g #[vS,.int .i64 i,vV] w λe w'=>∃v',e=.returned v'/\RowOut w w' t (G.sz t) vS v' (n+m) (xs.take (i*G.sz t)++vs++xs.drop (i*G.sz t))):Ff P G g (Bno G r t):=by
  refine⟨hent,λx y p s bl hy hp ho ν S mo w vals hheap _ hvl hslot=>?_⟩;obtain⟨⟨(l:List (G.T t)),(i:Int),(v:List (G.T t)),_⟩,_⟩:=x;obtain⟨h1,h2⟩:=Rj hy;obtain⟨h3,rfl,rfl⟩:=Yg (I:=Bkd t) rfl hp ho;subst h2;simp only[e_,R_,Nat.blt_eq,Nat.ble_eq]at h1;obtain⟨⟨g1,g2⟩,g3,g4⟩:=h1;have s0:=hslot 0 (.p (.one (.own 32768))) rfl;have s1:=hslot 1 (.p (.one (.sc (.int .i64 i)))) rfl;have s2:=hslot 2 (.p (.one (.own 32769))) rfl;have hvals:∃a b c,vals=[a,b,c]:=by
    match vals,hvl with
    |[a,b,c],_=>exact⟨a,b,c,rfl⟩
  obtain⟨vS,vI,vV,rfl⟩:=hvals;have e0:ν 32768=C vS:=by cases s0 with|p _ _ hc=>cases hc with|one _ _ hc=>obtain⟨_,_,_,h,_⟩:=hc;exact h
  have e2:ν 32769=C vV:=by cases s2 with|p _ _ hc=>cases hc with|one _ _ hc=>obtain⟨_,_,_,h,_⟩:=hc;exact h
  have e1:vI=.int .i64 i:=by cases s1 with|p _ _ hc=>cases hc with|one _ _ hc=>cases(show Rd G S w.heap (.sc (.int .i64 i)) vI from hc);rfl
  subst e1;obtain⟨xs,o1,r1,b1⟩:=Ab4 ok hheap (n:=32768) (t:=t) (l:=l) rfl hty henc e0;obtain⟨vs,o2,r2,b2⟩:=Ab4 ok hheap (n:=32769) (t:=t) (l:=v) rfl hty henc e2;have hap:∀b,vS.ownBlock=C b->vV.ownBlock≠C b:=λb hb hb'=>by
    have:=hheap.apart 32768 32769 vS vV b (by show C _≠H;simp) (by show C _≠H;simp) e0 e2 (b1 b hb).2.2.2 (b2 b hb').2.2.2
    cases this
  obtain⟨j,rfl⟩:∃j:Nat,i=(j:Int):=⟨i.toNat,ω⟩
  refine(hc w l.length j v.length xs vs vS vV o1 o2 hap r1.2.1 r2.2.1 ω g3 g4).mono ?_;rintro e w' ⟨v',rfl,hout⟩;have hE:ERel G S w.heap t (l.take j++v++l.drop j) (xs.take (j*G.sz t)++vs++xs.drop (j*G.sz t)):=((r1.take ok j).append ok r2).append ok (r1.drop j)
  have:=QK ok hheap (m:=32768) (l:=l.take j++v++l.drop j) hout (λb hb=>by obtain⟨q1,q2,q3,_⟩:=b1 b hb;exact⟨q1,q2.resolve_right ω⟩) hE (by simp;omega) τ
  rw[h3];exact⟨v',KE ν 32768 v',S,rfl,this⟩
theorem Ani (hc : ∀ (w : World) (n i j : Nat) (xs : List Value) (vS : Value), w.ownsRow 0 t (G.sz t) vS n xs -> (∀ u ∈ xs, u.oneCell' = O) ->
      i<j->j<=n->Calls P g #[vS,.int .i64 i,.int .i64 j] w λe w'=>∃v',e=.returned v'/\RowOut w w' t (G.sz t) vS v' (n-(j-i)) (xs.take (i*G.sz t)++xs.drop (j*G.sz t))):Ff P G g (Bnk G r t):=by
  refine⟨hent,λx y p s bl hy hp ho ν S mo w vals hheap _ hvl hslot=>?_⟩;obtain⟨⟨(l:List (G.T t)),(i:Int),(j:Int),_⟩,_⟩:=x;obtain⟨h1,h2⟩:=Rj hy;obtain⟨h3,rfl,rfl⟩:=Yg (I:=Bj0 t) rfl hp ho;subst h2;simp only[e_,R_]at h1;obtain⟨⟨g1,g2⟩,g3⟩:=h1;have s0:=hslot 0 (.p (.one (.own 32768))) rfl;have s1:=hslot 1 (.p (.one (.sc (.int .i64 i)))) rfl;have s2:=hslot 2 (.p (.one (.sc (.int .i64 j)))) rfl;have hvals:∃a b c,vals=[a,b,c]:=by
    match vals,hvl with
    |[a,b,c],_=>exact⟨a,b,c,rfl⟩
  obtain⟨vS,vI,vJ,rfl⟩:=hvals;have e0:ν 32768=C vS:=by cases s0 with|p _ _ hc=>cases hc with|one _ _ hc=>obtain⟨_,_,_,h,_⟩:=hc;exact h
  have e1:vI=.int .i64 i:=by cases s1 with|p _ _ hc=>cases hc with|one _ _ hc=>cases(show Rd G S w.heap (.sc (.int .i64 i)) vI from hc);rfl
  have e2:vJ=.int .i64 j:=by cases s2 with|p _ _ hc=>cases hc with|one _ _ hc=>cases(show Rd G S w.heap (.sc (.int .i64 j)) vJ from hc);rfl
  subst e1 e2;obtain⟨xs,o1,r1,b1⟩:=Ab4 ok hheap (n:=32768) (t:=t) (l:=l) rfl hty henc e0;obtain⟨a,rfl⟩:∃a:Nat,i=(a:Int):=⟨i.toNat,ω⟩
  obtain⟨c,rfl⟩:∃c:Nat,j=(c:Int):=⟨j.toNat,ω⟩
  refine(hc w l.length a c xs vS o1 r1.2.1 ω ω).mono ?_;rintro e w' ⟨v',rfl,hout⟩;have hE:ERel G S w.heap t (l.take a++l.drop c) (xs.take (a*G.sz t)++xs.drop (c*G.sz t)):=(r1.take ok a).append ok (r1.drop c)
  have:=QK ok hheap (m:=32768) (l:=l.take a++l.drop c) hout (λb hb=>by obtain⟨q1,q2,q3,_⟩:=b1 b hb;exact⟨q1,q2.resolve_right ω⟩) hE (by simp;omega) τ
  rw[h3];exact⟨v',KE ν 32768 v',S,rfl,this⟩
omit hty henc in
theorem LI{tS size bytes:Nat}(hts:G.ty tS=.sl t)(hsz:size=G.sz t)(hby:bytes<=4096)
  (hcA:∀(w:World) (a:Addr) (n c:Nat) (news:List Value),news.length=n*size->n<=maxLen->n*bytes<=140737488355328->(∀j u,news[j]?=C u->w.cell? (a.add j)=C u)->(∀u∈news,u.oneCell'=O)->
   Calls P g #[.slice (C a) n c] w λe w'=>∃v',e=.returned v'/\w'.ownsRow w.heap.size t size v' n news/\v'≠ .slice H 0 0/\RowKit.Below w.heap.size w w')
  (hcN:∀(w:World) (n c:Nat),Calls P g #[.slice H n c] w λe w'=>e=.returned (.slice H 0 0)/\w'=w):Ff P G g (Bnj G r t):=by
 refine⟨hent,λx y p s bl hy hp ho ν S mo w vals hheap _ hvl hslot=>?_⟩;obtain⟨⟨(l:List (G.T t)),_⟩,_⟩:=x;obtain⟨h1,h2⟩:=Rj hy;obtain⟨h3,rfl,rfl⟩:=Yg (I:=Bjy t) rfl hp ho;subst h2;rw[Nat.ble_eq]at h1;have s0:=hslot 0 (.p (.one (.ro t l))) rfl;have hvals:∃a,vals=[a]:=by
  match vals,hvl with
  |[a],_=>exact⟨a,rfl⟩
 obtain⟨vS,rfl⟩:=hvals;have hrd:Rc G ν S w.heap (.ro t l) vS:=by cases s0 with|p _ _ hc=>cases hc with|one _ _ hc=>exact hc
 obtain⟨a,cap,hv,hnil,vs,hvl',hcell,hone,hrel⟩:=Mw ok hheap (t:=tS) (e:=t) hts (c:=.ro t l) (l:=l) (by simp[GA,Pb]) hrd;have hE:ERel G S w.heap t l vs:=⟨hvl',hone,hrel⟩
 have fin:∀(v':Value) (w':World),RowOut w w' t (G.sz t) (.slice H 0 0) v' l.length vs->∃v ν' S',Ending.returned v'=Ending.returned v/\Rs G ν' S' w'.heap (.p (.one (.own 32768))) v/\HRel G ν' S' (λb=>mo b\/w.heap.size<=b) (J p.2.hp) w'/\
   (∀b,S b->S' b)/\(∀b,S' b->S b\/mo b\/w.heap.size<=b)/\(∀n y,lo<=n->ν n=C y->ν' n=C y)/\
   w.heap.size<=w'.heap.size/\(∀b,b<w.heap.size->¬mo b->w'.heap[b]?=w.heap[b]?)/\(w'.os=w.os/\w'.tape=w.tape/\w'.output=w.output):=λv' w' hout=>by
  have:=QK ok hheap (m:=32768) (l:=l) hout (λb hb=>by simp[Value.ownBlock]at hb) hE rfl τ
  rw[h3];exact⟨v',KE ν 32768 v',S,rfl,this⟩
 subst hv;cases a with
 |none=>obtain rfl:=hnil rfl;refine(hcN w _ _).mono ?_;rintro e w' ⟨rfl,rfl⟩;have hz:vs=[]:=P_ (by rw[hvl'];simp);exact fin _ _ ⟨by rw[hz];exact⟨σ,.inl ⟨rfl,rfl⟩⟩,λb hb=>by simp[Value.ownBlock]at hb,⟨rfl,rfl,rfl,H_ _,λ_ _ _=>rfl⟩⟩
 |some a=>
  have hb2:l.length*bytes<=140737488355328:=by
   have:l.length*bytes<=2147483648*4096:=Nat.mul_le_mul h1 hby
   omega
  refine(hcA w a l.length cap vs (by rw[hsz];exact hvl') (d8_ h1 τ) hb2 (λj u hj=>hcell a rfl j u hj) hone).mono ?_;rintro e w' ⟨v',rfl,hown,_,hbel⟩;subst hsz;refine fin v' w' ⟨?_,λb hb=>.inr ?_,⟨hbel.os,hbel.tape,hbel.output,hbel.size,λk hk _=>hbel.block k hk⟩⟩
  .obtain⟨q1,q2|⟨b,c2,cur,q2,_,q4⟩⟩:=hown
   .exact⟨q1,.inl q2⟩
   .exact⟨q1,.inr ⟨b,c2,cur,q2,G_ _,q4⟩⟩
  .obtain⟨_,q2|⟨b',c2,cur,q2,q3,_⟩⟩:=hown
   .rw[q2.1]at hb;simp[Value.ownBlock]at hb
   .rw[q2]at hb;simp[Value.ownBlock]at hb;omega
end
end Go.Ab
namespace Go.Ab
open Go.Lib
variable{G:Sig}
variable{w:World}{x:Value}
def Ac1(w:World)(A:Array Value)(e:TypeId):(w.drew.alloc (.cells A e)).heap.size=w.heap.size+1/\(w.drew.alloc (.cells A e)).heap[w.heap.size]?=C (.cells A e (0,0))/\(∀k,k<w.heap.size->(w.drew.alloc (.cells A e)).heap[k]?=w.heap[k]?):=by
 refine⟨(show(w.heap.push _).size=_ by rw[Array.size_push]),?_,λk hk=>?_⟩
 .show(w.heap.push _)[w.heap.size]?=_;rw[Array.getElem?_push,if_pos rfl]
 .show(w.heap.push _)[k]?=_;rw[Array.getElem?_push_lt hk,a6_ hk]
def Apo(s:ByteArray):∀u∈strCells s,u.oneCell'=O:=by intro u hu;simp only[strCells,b2_]at hu;obtain⟨b,_,rfl⟩:=hu;rfl
def Bjn{P:Program}(w:World){t u e:TypeId}{i:TypeInfo}(ht:P.underlying t=C (.slice e))(hu:P.underlying u=C .string)(hi:P.info? e=C i)(hz:i.zero=C (.int .u8 0))(hs1:i.size=1)(hby:i.bytes=1)
  {v:Value}{n:Nat}{xs:List Value}(hown:w.ownsRow 0 e 1 v n xs) (s:ByteArray) (h63:n+s.size<=2147483648) :
  ∃v' w',(∀ty,(Builtin.append_ #[t,u] ty #[v,.string s]).run P w=.ok v' w')/\RowOut w w' e 1 v v' (n+s.size) (xs++strCells s):=by
 have hsl:(strCells s).length=s.size:=strCells_length s;obtain⟨hxl,⟨rfl,rfl⟩|⟨b,c,cur,rfl,_,hg,hnc,hcm,hcs,hct⟩⟩:=hown
 .by_cases h0:s.size=0
  .refine⟨.slice H 0 0,w,λty=>?_,⟨by simp[hsl,h0,hxl],.inl ⟨rfl,ω⟩⟩,λb hb=>by simp[Value.ownBlock]at hb,⟨rfl,rfl,rfl,H_ _,λ_ _ _=>rfl⟩⟩;have hf:=run_firstCells_string (P:=P) w 1 s;rw[h0]at hf;simp[Builtin.append_,A_ ht,A_ hu,sizeOf,typeInfo,hi,hs1,Builtin.lenOf,h0,hf]
  .have hx0:xs=[]:=P_ ω;subst hx0;have hr:=λty=>run_append_nil_string (P:=P) w t u ty e i (.int .u8 0) ht hu hi hz s ω ω (by rw[hby];omega);obtain⟨p1,p2,p3⟩:=Ac1 w (Array.map (λb=>Value.int .u8 b.toNat) s.data++Builtin.zeroCells (Value.int .u8 0).cells (grownCap w s.size 0 e-s.size)) e;have hcg:=grownCap_ge w s.size 0 e;refine⟨_,_,hr,⟨by simp[hsl],.inr ⟨w.heap.size,_,_,by rw[k_],G_ _,p2,ω,grownCap_le_maxLen w _ _ _ (by unfold maxLen;omega),?_,?_⟩⟩,λb hb=>.inr (by simp[Value.ownBlock]at hb;omega),⟨rfl,rfl,rfl,ω,λk hk _=>p3 k hk⟩⟩
   .simp[Builtin.zeroCells,Value.cells];show s.size+_=_;omega
   .rw[aC,f2_,y_,k_,c1_];exact aB hsl
 .by_cases hr:n+s.size<=c
  .refine⟨_,_,λty=>run_append_room_string (P:=P) w t u ty e i ht hu hi hs1 b n c cur hg s hr ω,⟨by simp[hsl,hxl],.inr ⟨b,c,_,rfl,G_ _,Go.Ab.rowHeap hg,hr,hcm,?_,?_⟩⟩,λb' hb'=>.inl hb',⟨rfl,rfl,rfl,by rw[Go.Ab.rowSize];exact H_ _,λk hk hne=>Go.Ab.rowOther (λe=>hne (by rw[e];rfl))⟩⟩
   .simp[hsl,hcs];omega
   .rw[b5_];have e1:cur.toList.take n=xs:=by rw[<-hct,c1_]
    rw[e1];exact aB (by rw[h_,hsl,hxl];omega)
  .have hgr:=λty=>run_append_grow_string (P:=P) w t u ty e i (.int .u8 0) ht hu hi hz ⟨b,0,H⟩ n c xs (by rw[hs1];exact hxl) (λj v hj=>by
    rw[<-hct,c1_]at hj;have hlt:j<n:=by
     have:=(g_.1 hj).1
     simp at this;omega
    rw[t_ hlt]at hj;rw[FK,k_,d5_ w b _ cur e (0,0) hg];simpa using hj) s ω ω (by rw[hby];exact growslice_fits ω ω)
   obtain⟨p1,p2,p3⟩:=Ac1 w (xs.toArray++(strCells s).toArray++Builtin.zeroCells (Value.int .u8 0).cells (grownCap w (n+s.size) c e-(n+s.size))) e;have hcg:=grownCap_ge w (n+s.size) c e;refine⟨_,_,hgr,⟨by simp[hsl,hxl],.inr ⟨w.heap.size,_,_,rfl,G_ _,p2,ω,grownCap_le_maxLen w _ _ _ (by unfold maxLen;omega),?_,?_⟩⟩,λb hb=>.inr (by simp[Value.ownBlock]at hb;omega),⟨rfl,rfl,rfl,ω,λk hk _=>p3 k hk⟩⟩
   .simp[Builtin.zeroCells,Value.cells,hsl,hxl];omega
   .rw[aC,aC,b5_,b5_];exact aB (by rw[h_,hsl,hxl];omega)
structure BldOut(w w':World)(b te e:Nat)(a v v':Value)(n:Nat)(ys:List Value):Prop where
 cel:w'.heap[b]?=some (.cells #[a,v'] te (0,0))
 row:w'.ownsRow 0 e 1 v' n ys
 apart:v'.ownBlock≠some b
 blk:∀g,v'.ownBlock=some g->v.ownBlock=some g\/w.heap.size<=g
 rest:∀k,k<w.heap.size->k≠b->some k≠v.ownBlock->w'.heap[k]?=w.heap[k]?
 size:w.heap.size<=w'.heap.size
 env:w'.os=w.os/\w'.tape=w.tape/\w'.output=w.output
def setCell_heap{b o:Nat}{cur:Array Value}{t:TypeId}{fz:Nat×Nat}(hg:w.heap[b]?=C (.cells cur t fz)):(w.setCell ⟨b,o,H⟩ x).heap[b]?=C (.cells (cur.setIfInBounds o x) t fz):=by unfold World.setCell;simp only;rw[e4_,if_pos rfl,hg];rfl
def setCell_other{b o k:Nat}(h:k≠b):(w.setCell ⟨b,o,H⟩ x).heap[k]?=w.heap[k]?:=by unfold World.setCell;simp[e4_,e0_ h]
def setCell_size{a:Addr}:(w.setCell a x).heap.size=w.heap.size:=by unfold World.setCell;simp
structure CcOut(w w1:World)(b te:Nat)(v:Value):Prop where
 cel:w1.heap[b]?=some (.cells #[.pointer (some ⟨b,0,none⟩),v] te (0,0))
 rest:∀k,k≠b->w1.heap[k]?=w.heap[k]?
 size:w1.heap.size=w.heap.size
 env:w1.os=w.os/\w1.tape=w.tape/\w1.output=w.output
def Aao{w1:World}{base e k n:Nat}{v:Value}{xs:List Value}(h:w.ownsRow base e k v n xs)(hk:∀g,v.ownBlock=C g->w1.heap[g]?=w.heap[g]?):w1.ownsRow base e k v n xs:=by
 obtain⟨h1,h2|⟨g,cap,cur,rfl,h4,h5,h6⟩⟩:=h
 .exact⟨h1,.inl h2⟩
 .exact⟨h1,.inr ⟨g,cap,cur,rfl,h4,(hk g rfl).trans h5,h6⟩⟩
def Ax4{w1 w2:World}{b te e m:Nat}{v v':Value}{ys:List Value}(hb:b<w.heap.size)(hc:CcOut w w1 b te v)(hne:v.ownBlock≠C b)(ho:RowOut w1 w2 e 1 v v' m ys):BldOut w (w2.setCell ⟨b,1,H⟩ v') b te e (.pointer (C ⟨b,0,H⟩)) v v' m ys:=by
 have hb1:b<w1.heap.size:=by rw[hc.size];exact hb
 have h2:w2.heap[b]?=C (.cells #[.pointer (C ⟨b,0,H⟩),v] te (0,0)):=by rw[ho.grow.block b hb1 (λe=>hne e.symm)];exact hc.cel
 have hap:v'.ownBlock≠C b:=λe=>by
  rcases ho.blk b e with h|h
  .exact hne h
  .omega
 refine⟨by rw[setCell_heap h2];rfl,Aao ho.row λg hg=>setCell_other (λe=>hap (by rw[<-e];exact hg)),hap,λg hg=>?_,λk hk hkb hkv=>?_,?_,?_⟩
 .rcases ho.blk g hg with h|h
  .exact .inl h
  .exact .inr (by rw[<-hc.size];exact h)
 .rw[setCell_other hkb,ho.grow.block k (by rw[hc.size];exact hk) hkv,hc.rest k hkb]
 .rw[setCell_size,<-hc.size];exact ho.grow.size
 .exact⟨ho.grow.os.trans hc.env.1,ho.grow.tape.trans hc.env.2.1,ho.grow.output.trans hc.env.2.2⟩
end Go.Ab
namespace Go.Ab
open Go.Lib
variable{G:Sig}
variable{p:Ex×St G}{s:Sv G.T}{te r0:Nat}
def Ad0(tb te:Nat):List (Nat×List CSh):=[(65536,[.np 65536 tb,.own 32768 te])]
def wsI(tb te:Nat):Y:=⟨[(0,.one (.ptr 65536 0)),(1,.one .str)],Ad0 tb te,[]⟩
def wsE(r0 r1 tb te:Nat):List (Ex×Y):=[(.ret,⟨[(r0,.one (.int .i64)),(r1,.one .nili)],Ad0 tb te,[65536]⟩)]
def stI(tb te:Nat):Y:=⟨[(0,.one (.ptr 65536 0))],Ad0 tb te,[]⟩
def stE(r0 tb te:Nat):List (Ex×Y):=[(.ret,⟨[(r0,.one .str)],[(65536,[.np 65536 tb,.ro te])],[65536]⟩)]
def wsF{α:Type}(ofB:UInt8->α)(s:ByteArray)(l:List α):Option ((Int×Unit×Unit)×((Unit×List α×Unit)×Unit)):=bif Nat.ble (l.length+s.size) 2147483648 then C (((s.size:Int),(),()),(((),l++s.data.toList.map ofB,()),()))else H
def okB{T:Nat->Type}:List (Cv T)->Bool
 |[.sc (.int .u8 n)]=>decide (0<=n)&&decide (n<256)
 |_=>false
def Bft{α:Type}:List α->Bool
 |[]=>false
 |_=>O
def stF(G:Sig)(te:Nat)(l:List (G.T te)):Option ((ByteArray×Unit)×((Unit×List (G.T te)×Unit)×Unit)):=bif Bft l&&l.all (λx=>okB (G.enc te x))then C ((Abe G te l,()),(((),l,()),()))else H
def Bv3(G:Sig)(r0 r1 tb te:Nat)(ofB:UInt8->G.T te):Fe G:=⟨wsI tb te,wsE r0 r1 tb te,λx=>(wsF ofB x.1.2.1 x.2.1.2.1:Option ((Int×Unit×Unit)×((Unit×List (G.T te)×Unit)×Unit))),[.tmp r0,.tmp r1]⟩
def Bv2(G:Sig)(r0 tb te:Nat):Fe G:=⟨stI tb te,stE r0 tb te,λx=>stF G te x.2.1.2.1,[.tmp r0]⟩
def Ax5{P:Program}(ok:SigOK P G){ν:Nat->Option Value}{S B:Nat->Prop}{w:World}{tb:Nat}{l:List (G.T te)}(hr:HRel G ν S B (J [(32768,.row te l),(65536,.cells [.np 65536 tb,.own 32768])]) w)(hty:G.ty te≠ .no)(henc:∀x,(G.enc te x).length=G.sz te):
  ∃b a0 v xs,ν 65536=C (.pointer (C ⟨b,0,H⟩))/\ν 32768=C v/\(a0=.pointer H\/a0=.pointer (C ⟨b,0,H⟩))/\w.heap[b]?=C (.cells #[a0,v] tb (0,0))/\w.ownsRow 0 te (G.sz te) v l.length xs/\ERel G S w.heap te l xs/\
   (∀g,v.ownBlock=C g->¬S g/\B g/\g<w.heap.size/\AC v=C g/\g≠b)/\¬S b/\B b/\b<w.heap.size:=by
 obtain⟨b,c,t',h1,h2,h3,h4⟩:=hr.blk 65536 _ rfl;obtain⟨_,e4⟩:=h4 65536 tb σ;subst e4;obtain⟨a0,r,hc,q1,q2⟩:=h3.inv;obtain⟨v,r2,hc2,q3,q4⟩:=q2.inv;have hr2:=q4.inv_nil;subst hr2 hc2;have hcc:c=#[a0,v]:=by rw[<-d6_ (xs:=c),hc]
 subst hcc;obtain⟨_,_,_,hv,_⟩:=q3;obtain⟨xs,o1,o2,o3⟩:=Ab4 ok hr (n:=32768) (t:=te) (l:=l) rfl hty henc hv;have ha:a0=.pointer H\/a0=.pointer (C ⟨b,0,H⟩):=by
  rcases q1 with h|⟨b',h5,h6⟩
  .exact .inl h
  .simp only at h5;rw[h1]at h5;cases h5;exact .inr h6
 obtain⟨n1,n2⟩:=hr.own 65536 _ b (by show C _≠H;simp) h1 rfl;refine⟨b,a0,v,xs,h1,hv,ha,h2,o1,o2,λg hg=>?_,n1,n2,(x_.1 h2).1⟩;obtain⟨z1,z2,z3,z4⟩:=o3 g hg;refine⟨z1,z2,z3,z4,λe=>?_⟩;subst e
 have:=hr.apart 32768 65536 _ _ g (by show C _≠H;simp) (by show C _≠H;simp) hv h1 z4 rfl
 cases this
def Blp{tb r1:Nat}(hne:r0≠r1){y:(Int×Unit×Unit)×((Unit×List (G.T te)×Unit)×Unit)}{bl:List (List (Cv G.T))}(hp:Fs (wsE r0 r1 tb te) y C=C p)(ho:Jy (wsI tb te) [.tmp r0,.tmp r1] p=C (s,bl)):
  p.2.hp=[(32768,.row te y.2.1.2.1),(65536,.cells [.np 65536 tb,.own 32768])]/\s=.tup [.one (.sc (.int .i64 y.1.1)),.one (.sc .nilIface)]/\bl=[[.np 65536 tb,.own 32768]]:=by
 have hp':p=(.ret,L ⟨[(r0,.one (.int .i64)),(r1,.one .nili)],Ad0 tb te,[65536]⟩ y):=(D_ hp).symm;subst hp';unfold Jy at ho;have hg0:J [(r0,(Sv.p (.one (.sc (.int .i64 y.1.1))):Sv G.T)),(r1,.p (.one (.sc .nilIface)))] r0=C (.p (.one (.sc (.int .i64 y.1.1)))):=by simp[J]
 have hg1:J [(r0,(Sv.p (.one (.sc (.int .i64 y.1.1))):Sv G.T)),(r1,.p (.one (.sc .nilIface)))] r1=C (.p (.one (.sc .nilIface))):=by simp[J,Bf,hne]
 have hres:RV (L ⟨[(r0,.one (.int .i64)),(r1,.one .nili)],Ad0 tb te,[65536]⟩ y:St G) [.tmp r0,.tmp r1]=C (.tup [.one (.sc (.int .i64 y.1.1)),.one (.sc .nilIface)]):=by
  unfold RV
  have:HC (L ⟨[(r0,.one (.int .i64)),(r1,.one .nili)],Ad0 tb te,[65536]⟩ y:St G) [.tmp r0,.tmp r1]=C [.one (.sc (.int .i64 y.1.1)),.one (.sc .nilIface)]:=by simp only[HC,Vp,L,JQ,PSh.give,CSh.give,hg0,hg1]
  rw[this]
 have hbl:WE (J (L ⟨[(r0,.one (.int .i64)),(r1,.one .nili)],Ad0 tb te,[65536]⟩ y:St G).hp) (As (wsI tb te).hp)=C [[.np 65536 tb,.own 32768]]:=rfl;simp only[hres,hbl,c7_,Prod.mk.injEq]at ho;exact⟨rfl,ho.1.symm,ho.2.symm⟩
def Blg{tb:Nat}{y:(ByteArray×Unit)×((Unit×List (G.T te)×Unit)×Unit)}{bl:List (List (Cv G.T))}(hp:Fs (stE r0 tb te) y C=C p)(ho:Jy (stI tb te) [.tmp r0] p=C (s,bl)):
  p.2.hp=[(65536,.cells [.np 65536 tb,.ro te y.2.1.2.1])]/\s=.p (.one (.sc (.string y.1.1)))/\bl=[[.np 65536 tb,.ro te y.2.1.2.1]]:=by
 have hp':p=(.ret,L ⟨[(r0,.one .str)],[(65536,[.np 65536 tb,.ro te])],[65536]⟩ y):=(D_ hp).symm;subst hp';unfold Jy at ho;have hg0:J [(r0,(Sv.p (.one (.sc (.string y.1.1))):Sv G.T))] r0=C (.p (.one (.sc (.string y.1.1)))):=by simp[J]
 have hres:RV (L ⟨[(r0,.one .str)],[(65536,[.np 65536 tb,.ro te])],[65536]⟩ y:St G) [.tmp r0]=C (.p (.one (.sc (.string y.1.1)))):=by
  unfold RV
  have:HC (L ⟨[(r0,.one .str)],[(65536,[.np 65536 tb,.ro te])],[65536]⟩ y:St G) [.tmp r0]=C [.one (.sc (.string y.1.1))]:=by simp only[HC,Vp,L,JQ,PSh.give,CSh.give,hg0]
  rw[this]
 have hbl:WE (J (L ⟨[(r0,.one .str)],[(65536,[.np 65536 tb,.ro te])],[65536]⟩ y:St G).hp) (As (stI tb te).hp)=C [[.np 65536 tb,.ro te y.2.1.2.1]]:=rfl;simp only[hres,hbl,c7_,Prod.mk.injEq]at ho;exact⟨rfl,ho.1.symm,ho.2.symm⟩
def All{S:Nat->Prop}{h:Array Obj}{ofB:UInt8->G.T te}(hsz:G.sz te=1)(hof:∀b,G.enc te (ofB b)=[.sc (.int .u8 b.toNat)])(s:ByteArray):ERel G S h te (s.data.toList.map ofB) (strCells s):=by
 refine⟨by rw[strCells_length,d7_,hsz,c1_,Array.length_toList];rfl,Apo s,λi j x cv hx hc=>?_⟩;rw[b7_]at hx;cases hb:s.data.toList[i]? with
 |none=>rw[hb]at hx;cases hx
 |some b=>
  rw[hb]at hx;simp only[e2_,c7_]at hx;subst hx;rw[hof]at hc;obtain⟨rfl,rfl⟩:j=0/\cv=.sc (.int .u8 b.toNat):=by
   cases j with
   |zero=>simp at hc;exact⟨rfl,hc.symm⟩
   |succ j=>simp at hc
  refine⟨.int .u8 b.toNat,?_,.sc _ rfl⟩;rw[hsz,c1_,b6_];unfold strCells;rw[b7_,hb];rfl
section
variable{P:Program}(ok:SigOK P G){g tb te:Nat}(hent:Asv P g)(hty:G.ty te≠ .no)(henc:∀x,(G.enc te x).length=G.sz te)(hsz:G.sz te=1)
include ok hent hty henc hsz
theorem Bg4{r1:Nat}(hne:r0≠r1){ofB:UInt8->G.T te}(hof:∀b,G.enc te (ofB b)=[.sc (.int .u8 b.toNat)])
  (hc:∀(b:Nat) (w:World) (a0 v:Value),(a0=.pointer H\/a0=.pointer (C ⟨b,0,H⟩))->w.heap[b]?=C (.cells #[a0,v] tb (0,0))->∀(n:Nat) (xs:List Value),w.ownsRow 0 te 1 v n xs->v.ownBlock≠C b->∀s:ByteArray,n+s.size<=2147483648->
   Calls P g #[.pointer (C ⟨b,0,H⟩),.string s] w λe w'=>e=.returned (.tuple #[.int .i64 s.size,.nilIface])/\∃v',BldOut w w' b tb te (.pointer (C ⟨b,0,H⟩)) v v' (n+s.size) (xs++strCells s)):Ff P G g (Bv3 G r0 r1 tb te ofB):=by
 refine⟨hent,λx y p s bl hy hp ho ν S mo w vals hheap _ hvl hslot=>?_⟩;obtain⟨⟨_,(sx:ByteArray),_⟩,⟨_,(l:List (G.T te)),_⟩,_⟩:=x;obtain⟨h1,h2⟩:=Rj hy;obtain⟨h3,rfl,rfl⟩:=Blp hne hp ho;subst h2;rw[Nat.ble_eq]at h1;have hheap0:HRel G ν S (λb=>mo b\/w.heap.size<=b) (J [(32768,.row te l),(65536,.cells [.np 65536 tb,.own 32768])]) w:=hheap;obtain⟨b,a0,v,xs,e1,e2,e3,e4,e5,e6,e7,e8,e9,e10⟩:=Ax5 ok hheap0 hty henc;have s0:=hslot 0 (.p (.one (.ptr 65536 0))) rfl;have s1:=hslot 1 (.p (.one (.sc (.string sx)))) rfl;have hvals:∃a c,vals=[a,c]:=by
  match vals,hvl with
  |[a,c],_=>exact⟨a,c,rfl⟩
 obtain⟨vp,vs,rfl⟩:=hvals;have f0:vp=.pointer (C ⟨b,0,H⟩):=by cases s0 with|p _ _ hc=>cases hc with|one _ _ hc=>obtain⟨b',q1,q2⟩:=hc;simp only at q1;rw[e1]at q1;cases q1;exact q2
 have f1:vs=.string sx:=by cases s1 with|p _ _ hc=>cases hc with|one _ _ hc=>cases(show Rd G S w.heap (.sc (.string sx)) vs from hc);rfl
 subst f0 f1;rw[hsz]at e5;have e9':mo b:=e9.resolve_right ω;refine(hc b w a0 v e3 e4 l.length xs e5 (λe=>(e7 b e).2.2.2.2 rfl) sx h1).mono ?_;rintro e w' ⟨rfl,v',hout⟩;have hvS:∀q,v.ownBlock=C q->¬S q/\mo q:=λq hq=>by obtain⟨z1,z2,z3,_⟩:=e7 q hq;exact⟨z1,z2.resolve_right ω⟩
 have hkeep:∀q,S q->w'.heap[q]?=w.heap[q]?:=λq hq=>hout.rest q (hheap.stay q hq) (λe=>e8 (e▸hq)) λe=>(hvS q e.symm).1 hq;have hE:ERel G S w.heap te (l++sx.data.toList.map ofB) (xs++strCells sx):=e6.append ok (All hsz hof sx);have hform:∃a len cap,v'=.slice a len cap:=by
  obtain⟨_,h|⟨g,cap,cur,h,_⟩⟩:=hout.row
  .exact⟨_,_,_,h.1⟩
  .exact⟨_,_,_,h⟩
 have hn1:KE ν 32768 v' 32768=C v':=rfl;have hn2:KE ν 32768 v' 65536=C (.pointer (C ⟨b,0,H⟩)):=e1;have hb':∀q,v'.ownBlock=C q->¬S q/\(mo q\/w.heap.size<=q):=λq hq=>by
  rcases hout.blk q hq with h|h
  .exact⟨(hvS q h).1,.inl (hvS q h).2⟩
  .exact⟨λhs=>by have:=hheap.stay q hs;omega,.inr h⟩
 have hob:∀q,AC v'=C q->v'.ownBlock=C q:=λq hq=>by
  obtain⟨a,len,cap,rfl⟩:=hform;cases a with
  |none=>simp[AC]at hq
  |some a=>simpa[AC,Value.ownBlock]using hq
 have two:∀q,J [(32768,(Blk.row te (l++sx.data.toList.map ofB):Blk G.T)),(65536,.cells [.np 65536 tb,.own 32768])] q≠H->q=32768\/q=65536:=λq hq=>by
  simp only[J,Bf]at hq;by_cases z:32768=q
  .exact .inl z.symm
  .rw[if_neg z]at hq;by_cases z2:65536=q
   .exact .inr z2.symm
   .rw[if_neg z2]at hq;exact absurd rfl hq
 rw[h3];refine⟨_,KE ν 32768 v',S,rfl,?_,⟨λq k hk=>?_,λq1 q2 x y c ha hb hx hy hcx hcy=>?_,λq x c hq hx hcx=>?_,λq hq=>c5_ (hheap.stay q hq) hout.size,hheap.gl.mono (λ_ h=>h) hkeep⟩,λ_ h=>h,λ_ h=>.inl h,λq y hlo hy=>?_,hout.size,λq hq hmo=>hout.rest q hq (λe=>hmo (e▸e9')) λe=>hmo (hvS q e.symm).2,hout.env⟩
 .exact .tup [.one (.sc (.int .i64 sx.size)),.one (.sc .nilIface)] [.int .i64 sx.size,.nilIface] (.cons (.one _ _ (Rd.sc _ rfl)) (.cons (.one _ _ (Rd.sc _ rfl)) .nil))
 .rcases two q (by rw[hk];simp)with rfl|rfl
  .have hk':C (Blk.row te (l++sx.data.toList.map ofB):Blk G.T)=C k:=hk;cases hk';have hlen:(l++sx.data.toList.map ofB).length=l.length+sx.size:=by rw[h_,d7_,Array.length_toList];rfl
   obtain⟨hl,h|⟨g',cap,cur,k1,_,k2,k3,k4,k5,k6⟩⟩:=hout.row
   .left;refine⟨by rw[hn1,h.1],?_⟩;exact P_ (by rw[hlen];exact h.2)
   .right;rw[<-hlen]at k1 k3 k6;refine⟨g',cap,cur,te,by rw[hn1,k1],k2,k3,by rw[hsz];exact k5,λi j x cv hx hc=>?_,rfl,k4⟩;obtain⟨u,hu,hrd⟩:=hE.2.2 i j x cv hx hc;have hi:i<(l++sx.data.toList.map ofB).length:=(g_.1 hx).1;have hj:=ZT ok hc;rw[<-k6,t_ (by rw[<-hsz];exact WL hi hj)]at hu;exact⟨u,by simpa using hu,hrd.mono (λ_ h=>h) hkeep⟩
  .have hk':C (Blk.cells [.np 65536 tb,.own 32768]:Blk G.T)=C k:=hk;cases hk';refine⟨b,_,tb,hn2,hout.cel,.cons (.inr ⟨b,hn2,rfl⟩) (.cons ?_ .nil),λm t hm=>?_⟩
   .obtain⟨a,len,cap,e⟩:=hform;exact⟨a,len,cap,hn1,e⟩
   .simp at hm;exact⟨hm.1,hm.2.symm⟩
 .rcases two q1 ha with rfl|rfl<;>rcases two q2 hb with rfl|rfl
  .rfl
  .rw[hn1]at hx;cases hx;rw[hn2]at hy;cases hy;simp[AC]at hcy;exact absurd (hob c hcx) (by rw[<-hcy];exact hout.apart)
  .rw[hn2]at hx;cases hx;rw[hn1]at hy;cases hy;simp[AC]at hcx;exact absurd (hob c hcy) (by rw[<-hcx];exact hout.apart)
  .rfl
 .rcases two q hq with rfl|rfl
  .rw[hn1]at hx;cases hx;exact hb' c (hob c hcx)
  .rw[hn2]at hx;cases hx;simp[AC]at hcx;subst hcx;exact⟨e8,.inl e9'⟩
 .unfold KE;have h6:lo=65536:=rfl;rw[if_neg ω,if_pos hlo];exact hy
omit henc in
theorem Bdu(henc:∀x,(G.enc te x).length=G.sz te)
  (hc:∀(b:Nat) (w:World) (a0:Value) (g0 cap:Nat) (cur:Array Value) (l:List UInt8),l≠[]->w.heap[b]?=C (.cells #[a0,.slice (C ⟨g0,0,H⟩) l.length cap] tb (0,0))->w.heap[g0]?=C (.cells cur te (0,0))->l.length<=cur.size->l.length<=cap->l.length<=9223372036854775807->
   (∀(j:Nat) (x:UInt8),l[j]?=C x->cur[j]?=C (Value.int .u8 x.toNat))->Calls P g #[.pointer (C ⟨b,0,H⟩)] w λe w'=>e=.returned (.string ⟨l.toArray⟩)/\w'=w.drew.freeze ⟨g0,0,H⟩ l.length):Ff P G g (Bv2 G r0 tb te):=by
 refine⟨hent,λx y p s bl hy hp ho ν S mo w vals hheap _ hvl hslot=>?_⟩;obtain⟨⟨_,_⟩,⟨_,(l:List (G.T te)),_⟩,_⟩:=x;obtain⟨h1,h2⟩:=Rj hy;obtain⟨hhp,rfl,rfl⟩:=Blg hp ho;subst h2;rw[e_]at h1;have hl0:l≠[]:=λe=>by have:=h1.1;rw[e]at this;cases this
 have hheap0:HRel G ν S (λb=>mo b\/w.heap.size<=b) (J [(32768,.row te l),(65536,.cells [.np 65536 tb,.own 32768])]) w:=hheap;obtain⟨b,a0,v,xs,e1,e2,e3,e4,e5,e6,e7,e8,e9,e10⟩:=Ax5 ok hheap0 hty henc;have s0:=hslot 0 (.p (.one (.ptr 65536 0))) rfl;have hvals:∃a,vals=[a]:=by
  match vals,hvl with
  |[a],_=>exact⟨a,rfl⟩
 obtain⟨vp,rfl⟩:=hvals;have f0:vp=.pointer (C ⟨b,0,H⟩):=by cases s0 with|p _ _ hc=>cases hc with|one _ _ hc=>obtain⟨b',q1,q2⟩:=hc;simp only at q1;rw[e1]at q1;cases q1;exact q2
 subst f0;rw[hsz]at e5;have e9':mo b:=e9.resolve_right ω;have hll:l.length≠0:=by simpa using hl0
 obtain⟨hxl,⟨_,hz⟩|⟨g0,cap,cur,rfl,_,k2,k3,k4,k5,k6⟩⟩:=e5
 .exact absurd hz hll
 have hbytes:∀(j:Nat) (x:G.T te),l[j]?=C x->∃n:Int,G.enc te x=[.sc (.int .u8 n)]/\0<=n/\n<256/\cur[j]?=C (.int .u8 n):=λj x hx=>by
  have:=C_.1 h1.2 x (p_ hx)
  generalize he:G.enc te x=cs at this;unfold okB at this;split at this
  .rename_i n;simp only[e_,R_]at this;obtain⟨u,hu,hrd⟩:=e6.2.2 j 0 x _ hx (by rw[he];rfl);cases hrd;rw[hsz,c1_,b6_,<-k6,t_ (by have:=(g_.1 hx).1;omega)]at hu;exact⟨n,rfl,this.1,this.2,by simpa using hu⟩
  .simp at this
 let l8:List UInt8:=l.map λx=>Abm (G.enc te x)
 have hl8:l8.length=l.length:=by simp[l8]
 have h8:∀(j:Nat) (x:UInt8),l8[j]?=C x->cur[j]?=C (Value.int .u8 x.toNat):=λj x hx=>by
  simp only[l8,b7_]at hx;cases hj:l[j]? with
  |none=>rw[hj]at hx;cases hx
  |some z=>
   rw[hj]at hx;simp only[e2_,c7_]at hx;obtain⟨n,q1,q2,q3,q4⟩:=hbytes j z hj;rw[q1]at hx;subst hx;rw[q4]
   have:((Abm [Cv.sc (T:=G.T) (Value.int .u8 n)]).toNat:Int)=n:=by simp only[Abm,UInt8.toNat_ofNat'];omega
   rw[this]
 refine(hc b w a0 g0 cap cur l8 (λe=>hll (by rw[<-hl8,e];rfl)) (by rw[hl8];exact e4) k2 (by rw[hl8];omega) (by rw[hl8];exact k3) (by rw[hl8];unfold maxLen at k4;omega) h8).mono ?_;rintro e w' ⟨rfl,rfl⟩;obtain⟨z1,z2,z3,_,z5⟩:=e7 g0 rfl;have z2':mo g0:=z2.resolve_right ω;have hsame:∀k,k≠g0->(w.drew.freeze ⟨g0,0,H⟩ l8.length).heap[k]?=w.heap[k]?:=λk hk=>by unfold World.freeze;rw[if_neg ω];simp only[World.drew];rw[e4_,if_neg (e0_ hk)]
 have hrow:∃fz,(w.drew.freeze ⟨g0,0,H⟩ l8.length).heap[g0]?=C (.cells cur te fz):=by unfold World.freeze;rw[if_neg ω];simp only[World.drew];rw[e4_,if_pos rfl,k2];exact⟨_,rfl⟩
 obtain⟨fz,hrow⟩:=hrow;have hkeep:∀q,S q->(w.drew.freeze ⟨g0,0,H⟩ l8.length).heap[q]?=w.heap[q]?:=λq hq=>hsame q λe=>z1 (e▸hq);have hsize:(w.drew.freeze ⟨g0,0,H⟩ l8.length).heap.size=w.heap.size:=by unfold World.freeze;rw[if_neg ω];exact Array.size_modify
 have henv:(w.drew.freeze ⟨g0,0,H⟩ l8.length).os=w.os/\(w.drew.freeze ⟨g0,0,H⟩ l8.length).tape=w.tape/\(w.drew.freeze ⟨g0,0,H⟩ l8.length).output=w.output:=by unfold World.freeze;rw[if_neg ω];exact⟨rfl,rfl,rfl⟩
 rw[hhp];generalize w.drew.freeze ⟨g0,0,H⟩ l8.length=w' at hsame hrow hkeep hsize henv;have one:∀q,J [(65536,(Blk.cells [.np 65536 tb,.ro te l]:Blk G.T))] q≠H->q=65536:=λq hq=>by
  simp only[J,Bf]at hq;by_cases z:65536=q
  .exact z.symm
  .rw[if_neg z]at hq;exact absurd rfl hq
 refine⟨_,ν,λk=>S k\/k=g0,rfl,.p _ _ (.one _ _ (Rd.sc _ rfl)),⟨λq k hk=>?_,λq1 q2 x y c ha hb hx hy hcx hcy=>by rw[one q1 ha,one q2 hb],λq x c hq hx hcx=>?_,λq hq=>?_,hheap.gl.mono (λ_ h=>.inl h) hkeep⟩,λ_ h=>.inl h,λq hq=>?_,λq y hlo hy=>hy,ω,λq hq hmo=>hsame q (λe=>hmo (e▸z2')),henv⟩
 .obtain rfl:=one q (by rw[hk];simp);have hk':C (Blk.cells [.np 65536 tb,.ro te l]:Blk G.T)=C k:=hk;cases hk';refine⟨b,_,tb,e1,(hsame b (e0_ z5)).trans e4,.cons (e3.imp (λh=>h) λh=>⟨b,e1,h⟩) (.cons ?_ .nil),λm t hm=>?_⟩
  .refine Rd.ro te l g0 0 cap cur te fz (λi j=>cur.getD (i*G.sz te+j) undef) (.inr rfl) hrow (.inl rfl) k3 (λi j hi hj=>?_) λi j x cv hx hcv=>?_
   .have:i<cur.size:=ω
    rw[hsz]at hj|-;rw[show 0+i*1+j=i by omega,show i*1+j=i by omega];simp[r_,this]
   .obtain⟨n,q1,q2,q3,q4⟩:=hbytes i x hx;rw[q1]at hcv;obtain⟨rfl,rfl⟩:j=0/\cv=.sc (.int .u8 n):=by
     cases j with
     |zero=>simp at hcv;exact⟨rfl,hcv.symm⟩
     |succ j=>simp at hcv
    rw[hsz,c1_,b6_];rw[r_,q4];exact .sc _ rfl
  .simp at hm;exact⟨hm.1,hm.2.symm⟩
 .obtain rfl:=one q hq;rw[e1]at hx;cases hx;simp[AC]at hcx;subst hcx;exact⟨λh=>h.elim e8 (λe=>z5 e.symm),.inl e9'⟩
 .rcases hq with h|rfl
  .rw[hsize];exact hheap.stay q h
  .rw[hsize];exact z3
 .rcases hq with h|rfl
  .exact .inl h
  .exact .inr (.inl z2')
end
end Go.Ab
namespace Go.Ab
open Go.Lib Go.RowKit
variable{α:Type}{P:Program}
def XS(a b c:List α)(d:Nat)(h:d=a.length+b.length):(a++b++c).take d=a++b:=by subst h;rw[<-h_,aB];rfl
def Bvu(cur vs D R:List α)(p:Nat)(h:p+vs.length<=cur.length):((cur.take (p+vs.length)++D++R).take p++vs++(cur.take (p+vs.length)++D++R).drop (p+vs.length))=cur.take p++vs++(D++R):=by
 have hl:(cur.take (p+vs.length)).length=p+vs.length:=by rw[w_];omega
 rw[M_ (cur.take (p+vs.length)),List.take_append_of_le_length ω,List.take_take,c8_ ω,List.drop_left' hl]
def Bvv(a Z vs D R:List α)(p:Nat)(h:a.length=p):((((a++Z).take p++vs++(a++Z).drop (p+vs.length)).take (p+vs.length))++D++R)=a++vs++D++R:=by rw[aB h,aB (by rw[h_,h])]
def Ul{ops:Array Oper}{o:Oper}{a:Act}{w:World}{K:Act->World->Prop}{Q:Exit->Act->World->Prop}{E:Prop}
  (hg:o.guard=H) (d x:Operand) (dT sT:TypeId) (hop:o.op=Op.call { callee:=Callee.builtin Builtin.append,args:=#[d,x],argTypes:=#[dT,sT] })
  (v u:Value) (hd:a.eval d=v) (hx:a.eval x=u) {v':Value}{w':World}(hr:(Builtin.append_ #[dT,sT] o.type #[v,u]).run P w=.ok v' w') (hK:K (a.put o.dst v') w') :
  if Region.wanted o (yielded ops a.tmps)=O then Oper.wp P o a w K Q else E:=by
 have hw:Region.wanted o (yielded ops a.tmps)=O:=by simp[Region.wanted,hg]
 rw[if_pos hw];unfold Oper.wp;simp[execOp,hop,resolve,invoke,builtin,hd,hx,hr,Result.andThen];exact hK
def Ax8(w:World)(t e ty:TypeId)(z:Value)(ht:P.underlying t=C (.slice e))(hv:∀w,(zeroValue e).run P w=.ok z w)(g o n c:Nat)(hn:0<n)(cur:Array Value)(te:TypeId)(zs:List Value)
  (hzs:zs=(Builtin.zeroCells z.cells n).toList) (hg:w.heap[g]?=C (.cells cur te (0,0))) (hfit:o+zs.length<=cur.size) (h1:∀u∈zs,u.oneCell'=O) :
  (Builtin.clear_ #[t] ty #[.slice (C ⟨g,o,H⟩) n c]).run P w=.ok (.tuple #[]) (w.setRow g (cur.toList.take o++zs++cur.toList.drop (o+zs.length)).toArray):=by
 have hst:=run_storeCells_at P g o te zs 0 cur w hg (by simpa using hfit) h1;simp only[b6_]at hst;obtain⟨n,rfl⟩:∃k,n=k+1:=⟨n-1,ω⟩
 rw[hzs]at hst;simp[Builtin.clear_,A_ ht,hv,hst,hzs]
def Alm(zc:Array Value)(h:zc.all Value.oneCell'=O)(hpos:0<zc.size)(n:Nat):∀u∈(Builtin.zeroCells zc n).toList,u.oneCell'=O:=by intro u hu;simp only[Builtin.zeroCells,f2_,b2_]at hu;obtain⟨q,_,rfl⟩:=hu;have hq:q%zc.size<zc.size:=Nat.mod_lt _ hpos;rw[getElem!_pos zc _ hq];rw[Array.all_eq_true]at h;exact h _ hq
end Go.Ab
namespace Go.Ab
open Go.Proofs Go.RowKit Go.Lib
set_option maxHeartbeats 4000000
set_option maxRecDepth 100000
variable{P:Program}{g o s e z k:Nat}{te:TypeInfo}{f fo:Func}
def Asx(P:Program)(g e z:Nat):Prop:=∀(w:World) (n i m:Nat) (xs vs:List Value) (vS vV:Value),w.ownsRow 0 e z vS n xs->w.ownsRow 0 e z vV m vs->(∀b,vS.ownBlock=C b->vV.ownBlock≠C b)->(∀u∈xs,u.oneCell'=O)->(∀u∈vs,u.oneCell'=O)->
 i<=n->0<m->n+m<=2147483648->Calls P g #[vS,.int .i64 i,vV] w λx w'=>∃v',x=.returned v'/\RowOut w w' e z vS v' (n+m) (xs.take (i*z)++vs++xs.drop (i*z))
def Bah(P:Program)(g e z:Nat):Prop:=∀(w:World) (n i j:Nat) (xs:List Value) (vS:Value),w.ownsRow 0 e z vS n xs->(∀u∈xs,u.oneCell'=O)->i<j->j<=n->
 Calls P g #[vS,.int .i64 i,.int .i64 j] w λx w'=>∃v',x=.returned v'/\RowOut w w' e z vS v' (n-(j-i)) (xs.take (i*z)++xs.drop (j*z))
def WkR(P:Program)(g s:Nat)(f:Func)(k:Nat):Prop:=P.funcs[g]?=C f->f.ntmps=k->∀(w W:World) (b n c m vb vc:Nat),0<m->n+m<=c->¬((m:Int)=0)->
 (∀ty,(Builtin.append_ #[s,s] ty #[.slice (C ⟨b,0,H⟩) n c,.slice (C ⟨vb,0,H⟩) m vc]).run P w=.ok (.slice (C ⟨b,0,H⟩) (n+m) c) W)->
 Calls P g #[.slice (C ⟨b,0,H⟩) n c,.int .i64 n,.slice (C ⟨vb,0,H⟩) m vc] w λe w'=>e=.returned (.slice (C ⟨b,0,H⟩) (n+m) c)/\w'=W
def WkS(P:Program)(g s o z:Nat)(f:Func)(k:Nat):Prop:=P.funcs[g]?=C f->f.ntmps=k->P.follows .mixedOrders=O->∀(w:World) (A1 A2:Array Value) (b n c i m vb vc:Nat),i<n->0<m->n+m<=c->c<=9223372036854775807->vb≠b->¬((m:Int)=0)->¬((i:Int)=(n:Int))->
 (∀lb cb,(callFunc o #[.slice (C ⟨vb,0,H⟩) m vc,.slice (C ⟨b,(i+m)*z,H⟩) lb cb]).run P w=.ok (.value (.bool false)) w)->
 IntKind.i64.wrap ((i:Int)+(m:Int))=(i:Int)+(m:Int)->(0:Int)<=(i:Int)+(m:Int)->i<=n->((i:Int)+(m:Int)).toNat=i+m->¬(c=i+m)->(i:Int)<=(n:Int)+(m:Int)->¬(c=i)->
 (∀ty dc sc,(Builtin.copy_ #[s,s] ty #[.slice (C ⟨b,(i+m)*z,H⟩) (n+m-(i+m)) dc,.slice (C ⟨b,i*z,H⟩) (n+m-i) sc]).run P w.drew=.ok (goInt (aA (n+m-i) (n+m-(i+m)))) (w.drew.setRow b A1))->
 (∀(W:World),W.heap=(w.drew.setRow b A1).heap->∀ty dc,(Builtin.copy_ #[s,s] ty #[.slice (C ⟨b,i*z,H⟩) (n+m-i) dc,.slice (C ⟨vb,0,H⟩) m vc]).run P W=.ok (goInt (aA m (n+m-i))) (W.setRow b A2))->
 Calls P g #[.slice (C ⟨b,0,H⟩) n c,.int .i64 i,.slice (C ⟨vb,0,H⟩) m vc] w λe w'=>e=.returned (.slice (C ⟨b,0,H⟩) (n+m) c)/\w'=(w.drew.setRow b A1).setRow b A2
def WkE(P:Program)(g s:Nat)(f:Func)(k:Nat):Prop:=P.funcs[g]?=C f->f.ntmps=k->∀(w W:World) (V:Value) (base:Option Addr) (n c m vb vc:Nat),0<m->n<=c->c<n+m->n+m<=2147483648->(base=H->n=0/\c=0)->¬((m:Int)=0)->
 (∀ty,(Builtin.append_ #[s,s] ty #[.slice base n c,.slice (C ⟨vb,0,H⟩) m vc]).run P w=.ok V W)->Calls P g #[.slice base n c,.int .i64 n,.slice (C ⟨vb,0,H⟩) m vc] w λe w'=>e=.returned V/\w'=W
def WkG(P:Program)(g s t e z:Nat)(f:Func)(k:Nat):Prop:=P.funcs[g]?=C f->f.ntmps=k->P.follows .mixedOrders=O->∀(w:World) (R A1 A2:Array Value) (b n c i m vb vc Gc:Nat),i<n->0<m->n<=c->c<n+m->c<=9223372036854775807->n+m<=2147483648->vb<w.heap.size->b<w.heap.size->¬((m:Int)=0)->¬((i:Int)=(n:Int))->(c:Int)<(n:Int)+(m:Int)->
 (∀ty,(Builtin.append_ #[s,t] ty #[.slice (C ⟨b,0,H⟩) i c,.int .i64 ((n:Int)+(m:Int)-(i:Int))]).run P w=.ok (.slice (C ⟨w.heap.size,0,H⟩) (n+m) Gc) (w.drew.alloc (.cells R e)))->
 n+m<=Gc->Gc<=9223372036854775807->
 (∀ty dc,(Builtin.copy_ #[s,s] ty #[.slice (C ⟨w.heap.size,i*z,H⟩) (n+m-i) dc,.slice (C ⟨vb,0,H⟩) m vc]).run P (w.alloc (.cells R e)).drew=.ok (goInt (aA m (n+m-i))) ((w.alloc (.cells R e)).drew.setRow w.heap.size A1))->
 (∀ty dc sc,(Builtin.copy_ #[s,s] ty #[.slice (C ⟨w.heap.size,(i+m)*z,H⟩) (n+m-(i+m)) dc,.slice (C ⟨b,i*z,H⟩) (n-i) sc]).run P ((w.alloc (.cells R e)).drew.setRow w.heap.size A1).drew=.ok (goInt (aA (n-i) (n+m-(i+m)))) (((w.alloc (.cells R e)).drew.setRow w.heap.size A1).drew.setRow w.heap.size A2))->
 ¬(Gc=i)->¬(Gc=i+m)->¬(c=i)->IntKind.i64.wrap ((i:Int)+(m:Int))=(i:Int)+(m:Int)->(0:Int)<=(i:Int)+(m:Int)->i<=n->((i:Int)+(m:Int)).toNat=i+m->(i:Int)<=(n:Int)->
 Calls P g #[.slice (C ⟨b,0,H⟩) n c,.int .i64 i,.slice (C ⟨vb,0,H⟩) m vc] w λx w'=>x=.returned (.slice (C ⟨w.heap.size,0,H⟩) (n+m) Gc)/\w'=(((w.alloc (.cells R e)).drew.setRow w.heap.size A1).drew).setRow w.heap.size A2
def Abd{w:World}{b q:Nat}{cur:Array Value}{e n:Nat}{xs:List Value}(hg:w.heap[b]?=C (.cells cur e (0,0)))(hx:cur.toList.take n=xs){v:Value}(h:xs[q]?=C v):w.cell? ⟨b,q,H⟩=C v:=by
 rw[<-hx]at h;have hlt:q<n:=by
  have:=(g_.1 h).1
  simp at this;omega
 rw[t_ hlt]at h;rw[d5_ w b _ cur e (0,0) hg];simpa using h
def Aaj(z:Nat){a b c:Nat}(h:c=a+b):c*z=a*z+b*z:=by rw[h,a0_]
def Bvw{n m i:Nat}(h:i<n):aA (n+m-i) (n+m-(i+m))=n-i:=by simp only[Nat.min_def];split<;>omega
def min2{n m i:Nat}(h:i<n):aA m (n+m-i)=m:=by simp only[Nat.min_def];split<;>omega
def Bvx{n m i:Nat}(h:i<n):aA (n-i) (n+m-(i+m))=n-i:=by simp only[Nat.min_def];split<;>omega
def WZ(z:Array Value)(n:Nat):(Builtin.zeroCells z n).size=n*z.size:=by simp[Builtin.zeroCells]
def Aio(U:P.underlying s=some (.slice e)){t:Nat}(I:P.underlying t=some (.int .i64))(T:P.info? e=some te)(Z:te.size=z)(B:te.bytes<=4096)(z0:0<z)(X:∃zv,te.zero=some zv/\zv.cells.size=z)
  {bt : Nat} (Fo : P.funcs[o]? = some fo) (o1 : (fo.name == "runtime.NumGoroutine") = false) (o2 : fo.body.isNone = true) (o3 : Extern.findNext fo = none) (o4 : Extern.find fo = some (Extern.SlicesOverlaps.overlaps #[s, s] #[bt])) (Sz : ∀ w, (sizeOf e).run P w = .ok z w)
  (F:P.funcs[g]?=some f) (N:f.ntmps=k) (mixed:P.follows .mixedOrders=true)
  (w1:WkR P g s f k:=by
   intro F N w W b n c m vb vc hm hroom hz1 hr
   go_enter F,N
   go_wp2_with (at_builtin;refine Lib.wpList_append_run _ rfl _ _ _ _ rfl _ _ rfl rfl _ _ (hr _) ?_)
   go_ret
   exact⟨rfl,rfl⟩)
  (w2:WkS P g s o z f k:=by
   intro F N mixed w A1 A2 b n c i m vb vc hi hm hroom hc63 hvb hz1 hz2 hov hw1 hb1 hin htn hb2 hb3 hb4 hcp1 hcp2
   try simp only[c1_]at*
   go_enter F,N
   go_wp2_with (simp only[hov])
   go_region_law_o (refine step_copy_runI rfl _ _ _ _ rfl _ _ (by simp[Act.eval,Act.put]) (by simp[Act.eval,Act.put]) (hcp1 _ _ _) ?_)
   go_wp2_with (at_builtin;refine wpList_copy_runI _ rfl _ _ _ _ rfl _ _ rfl rfl (hcp2 _ rfl _ _) ?_)
   go_ret
   exact⟨rfl,rfl⟩)
  (w3:WkE P g s f k:=by
   intro F N w W V base n c m vb vc hm hnc hroom h63 hnil hz1 hr
   go_enter F,N
   go_wp2_with (at_builtin;refine Lib.wpList_append_run _ rfl _ _ _ _ rfl _ _ rfl rfl _ _ (hr _) ?_)
   all_goals(go_ret;exact⟨rfl,rfl⟩))
  (w4:WkG P g s t e z f k:=by
   intro F N mixed w R A1 A2 b n c i m vb vc Gc hi hm hnc hroom hc63 h63 hvbw hbw hz1 hz2 hz3 hrz hGn hG63 hcpA hcpB hGi hGim hci hw1 hb1 hin htn hb3
   try simp only[c1_]at*
   go_enter F,N
   go_wp2_with (first
    |(at_builtin;refine Lib.wpList_append_run _ rfl _ _ _ _ rfl _ _ rfl rfl _ _ (hrz _) ?_)
    |rw[hcpA])
   go_region_law_o (refine step_copy_runI rfl _ _ _ _ rfl _ _ (by simp[Act.eval,Act.put]) (by simp[Act.eval,Act.put]) (hcpB _ (Gc-(i+m)) (c-i)) ?_)
   go_wp2
   go_ret
   exact⟨rfl,rfl⟩)
  :Asx P g e z:=by
 intro w n i m xs vs vS vV q1 q2 hap h1c h1v hi hm h63;subst Z;obtain⟨zv,hz,hzs⟩:=X;have hbig:(n+m)*te.bytes<=140737488355328:=by
  have:(n+m)*te.bytes<=2147483648*4096:=Nat.mul_le_mul h63 B
  omega
 obtain⟨hvl,⟨_,h0⟩|⟨vb,vc,vcur,rfl,_,hvg,hvm,hvc,hvsz,hvt⟩⟩:=q2
 .omega
 have hvbw:vb<w.heap.size:=(x_.1 hvg).1;have hvs:∀j v,vs[j]?=some v->w.cell? ⟨vb,j,none⟩=some v:=λj v hj=>Abd hvg hvt hj;have hvs':∀j v,vs[j]?=some v->w.cell? (Addr.add ⟨vb,0,none⟩ j)=some v:=λj v hj=>by rw[Addr.add_lit,k_];exact hvs j v hj
 have hz1:¬((m:Int)=0):=ω;have m1:=Aaj te.size (c:=n+m) rfl;have m2:=Aaj te.size (c:=i+m) rfl;have m3:=Aaj te.size (ω:n=i+(n-i));have hG:=λc=>grownCap_ge w (n+m) c e;have mG:∀c,grownCap w (n+m) c e*te.size=(n+m)*te.size+(grownCap w (n+m) c e-(n+m))*te.size:=λc=>Aaj _ (by have:=hG c;omega);have HW:∀(c:Nat) (A:Array Value) (W:World),W.heap.size=w.heap.size+1->W.heap[w.heap.size]?=some (.cells A e (0,0))->(∀k,k<w.heap.size->W.heap[k]?=w.heap[k]?)->W.os=w.os->W.tape=w.tape->W.output=w.output->
   A.size=grownCap w (n+m) c e*te.size->A.toList.take ((n+m)*te.size)=xs.take (i*te.size)++vs++xs.drop (i*te.size)->xs.length=n*te.size->RowOut w W e te.size vS (.slice (some ⟨w.heap.size,0,none⟩) (n+m) (grownCap w (n+m) c e)) (n+m) (xs.take (i*te.size)++vs++xs.drop (i*te.size)):=λc A W w1 w2 w3 w4 w5 w6 hA hT hxl=>
  ⟨⟨by simp only[h_,w_,X_,hxl,hvl];omega,.inr ⟨w.heap.size,_,A,rfl,G_ _,w2,hG c,grownCap_le_maxLen w _ _ _ (by unfold maxLen;omega),hA,hT⟩⟩,λb hb=>.inr (by simp[Value.ownBlock]at hb;omega),⟨w4,w5,w6,ω,λk hk _=>w3 k hk⟩⟩
 have pushed:∀(A:Array Value),(w.drew.alloc (.cells A e)).heap.size=w.heap.size+1/\(w.drew.alloc (.cells A e)).heap[w.heap.size]?=some (.cells A e (0,0))/\(∀k,k<w.heap.size->(w.drew.alloc (.cells A e)).heap[k]?=w.heap[k]?):=λA=>by
  refine⟨(show(w.heap.push _).size=_ by rw[Array.size_push]),?_,λk hk=>?_⟩
  .show(w.heap.push _)[w.heap.size]?=_;rw[Array.getElem?_push,if_pos rfl]
  .show(w.heap.push _)[k]?=_;rw[Array.getElem?_push_lt hk,a6_ hk]
 have endG:∀(base:Option Addr) (c:Nat),vS=.slice base n c->i=n->n<=c->c<n+m->(base=none->n=0/\c=0)->xs.length=n*te.size->(∀a,base=some a->∀j v,xs[j]?=some v->w.cell? (a.add j)=some v)->Calls P g #[vS,.int .i64 i,.slice (some ⟨vb,0,none⟩) m vc] w λx w'=>∃v',x=.returned v'/\RowOut w w' e te.size vS v' (n+m) (xs.take (i*te.size)++vs++xs.drop (i*te.size)):=by
  rintro base c rfl rfl hnc hroom hnil hxl hxs;have hr:∀ty,(Builtin.append_ #[s,s] ty #[.slice base i c,.slice (some ⟨vb,0,none⟩) m vc]).run P w=.ok (.slice (some ⟨w.heap.size,0,none⟩) (i+m) (grownCap w (i+m) c e)) (w.drew.alloc (.cells ((xs++vs).toArray++Builtin.zeroCells zv.cells (grownCap w (i+m) c e-(i+m))) e)):=λty=>by
   cases base with
   |none=>
    obtain⟨rfl,rfl⟩:=hnil rfl;have hx0:xs=[]:=P_ ω;subst hx0
    have:=run_append_nil w s ty e te zv U T hz ⟨vb,0,none⟩ m vc vs hvl hvs' hm ω (by rw[k_]at hbig;omega)
    simpa using this
   |some a=>rw[run_append_grow w s ty e te zv U T hz a i c xs hxl (hxs a rfl) ⟨vb,0,none⟩ m vc vs hvl hvs' hroom ω (growslice_fits hroom hbig)];congr 3;simp
  refine(w3 F N w _ _ base i c m vb vc hm hnc hroom h63 hnil hz1 hr).mono ?_;rintro x w' ⟨rfl,rfl⟩;obtain⟨p1,p2,p3⟩:=pushed ((xs++vs).toArray++Builtin.zeroCells zv.cells (grownCap w (i+m) c e-(i+m)));refine⟨_,rfl,HW c _ _ p1 p2 p3 rfl rfl rfl ?_ ?_ hxl⟩
  .have:=mG c
   simp only[Array.size_append,List.size_toArray,h_,hxl,hvl,WZ,hzs];omega
  .rw[List.take_of_length_le (l:=xs) ω,List.drop_of_length_le (l:=xs) ω,b3_,Array.toList_append,b5_];exact XS _ _ _ _ (by rw[hxl,hvl];omega)
 obtain⟨hxl,⟨rfl,rfl⟩|⟨b,c,cur,rfl,_,hg,hnc,hcm,hcs,hct⟩⟩:=q1
 .exact endG none 0 rfl ω (H_ _) ω (λ_=>⟨rfl,rfl⟩) hxl (λa h=>by cases h)
 have hbb:vb≠b:=λh=>hap b rfl (by rw[h];rfl);have hcell:∀j v,xs[j]?=some v->w.cell? ⟨b,j,none⟩=some v:=λj v hj=>Abd hg hct hj;have hcm':c<=9223372036854775807:=by unfold maxLen at hcm;omega
 have hbw:b<w.heap.size:=(x_.1 hg).1;have inPlace:∀(A:Array Value) (W:World),W.heap.size=w.heap.size->W.heap[b]?=some (.cells A e (0,0))->(∀k,k≠b->W.heap[k]?=w.heap[k]?)->W.os=w.os->W.tape=w.tape->W.output=w.output->n+m<=c->
   A.size=c*te.size->A.toList.take ((n+m)*te.size)=xs.take (i*te.size)++vs++xs.drop (i*te.size)->RowOut w W e te.size (.slice (some ⟨b,0,none⟩) n c) (.slice (some ⟨b,0,none⟩) (n+m) c) (n+m) (xs.take (i*te.size)++vs++xs.drop (i*te.size)):=λA W w1 w2 w3 w4 w5 w6 hr hA hT=>
  ⟨⟨by simp only[h_,w_,X_,hxl,hvl];omega,.inr ⟨b,c,A,rfl,G_ _,w2,hr,hcm,hA,hT⟩⟩,λb' hb'=>.inl hb',⟨w4,w5,w6,ω,λk hk hne=>w3 k (λe=>hne (by rw[e];rfl))⟩⟩
 by_cases hin:i=n
 .by_cases hr:n+m<=c
  .subst hin;have hmu:=B_ te.size hr;refine(w1 F N w _ b i c m vb vc hm hr hz1 λty=>run_append_room w s ty e te U T b i c cur hg ⟨vb,0,none⟩ m vc vs hvl hvs' h1v hr (by rw[hvl,hcs];omega)).mono ?_;rintro x w' ⟨rfl,rfl⟩;refine⟨_,rfl,inPlace _ _ rowSize (rowHeap hg) (λk hk=>rowOther hk) rfl rfl rfl hr ?_ ?_⟩
   .simp only[List.size_toArray,h_,w_,X_,Array.length_toList,Array.size_append,hcs,hvl];omega
   .rw[List.take_of_length_le (l:=xs) ω,List.drop_of_length_le (l:=xs) ω,b3_,hct];exact XS _ _ _ _ (by rw[hxl,hvl];omega)
  .exact endG (some ⟨b,0,none⟩) c rfl hin hnc ω (λh=>by cases h) hxl (λa ha j v hj=>by cases ha;rw[Addr.add_lit,k_];exact hcell j v hj)
 have hlt:i<n:=ω;have hdl:(xs.drop (i*te.size)).length=(n-i)*te.size:=by rw[X_,hxl,Nat.sub_mul]
 have hz2:¬((i:Int)=(n:Int)):=ω;have hw1:IntKind.i64.wrap ((i:Int)+(m:Int))=(i:Int)+(m:Int):=by rw[IntKind.wrap_i64];omega
 have hb1:(0:Int)<=(i:Int)+(m:Int):=ω;have htn:((i:Int)+(m:Int)).toNat=i+m:=ω;have h1d:∀v∈xs.drop (i*te.size),v.oneCell'=true:=λv hv=>h1c v (e6_ hv);by_cases hr:n+m<=c
 .have hmu:=B_ te.size hr;have hcp:=Nat.mul_pos (ω:0<c) z0;obtain⟨A1,hA1⟩:∃A,A=(cur.toList.take ((i+m)*te.size)++xs.drop (i*te.size)++cur.toList.drop ((i+m)*te.size+(xs.drop (i*te.size)).length)).toArray:=⟨_,rfl⟩;have hA1s:A1.size=c*te.size:=by rw[hA1];simp only[List.size_toArray,h_,w_,X_,Array.length_toList,Array.size_append,hdl,hcs];omega
  refine(w2 F N mixed w A1 (A1.toList.take (i*te.size)++vs++A1.toList.drop (i*te.size+vs.length)).toArray b n c i m vb vc hlt hm hr hcm' hbb hz1 hz2
   (λlb cb=>by rw[run_callFunc_extern Fo o1 o2 o3 o4,Lib.run_overlaps_apart w s bt e U te.size Sz ⟨vb,0,none⟩ ⟨b,(i+m)*te.size,none⟩ m vc lb cb hbb e e vcur.size cur.size (by simp[World.shape?,hvg]) (by simp[World.shape?,hg]) ω (by simp[World.frozen?,hvg]) (by simp[World.frozen?,hvg])];rfl)
   hw1 hb1 hi htn ω ω ω
   (λty dc sc=>by rw[hA1];refine Xv w.drew s s ty e te b ((i+m)*te.size) (n+m-(i+m)) dc ⟨b,i*te.size,none⟩ (n+m-i) sc cur e (xs.drop (i*te.size)) U T hg (by rw[hdl,Bvw hlt]) (λj v hj=>?_) (by rw[hdl,hcs];omega) h1d;rw[Addr.add_lit];rw[b8_]at hj;exact hcell _ v hj)
   (λW hW ty dc=>by
    refine Xv W s s ty e te b (i*te.size) (n+m-i) dc ⟨vb,0,none⟩ m vc A1 e vs U T (by rw[hW];exact rowHeap hg) (by rw[hvl,min2 hlt]) (λj v hj=>?_) (by rw[hvl,hA1s];omega) h1v;rw[Addr.add_lit,k_]
    have:=hvs j v hj
    unfold World.cell? at this|-;rw[hW,rowOther (w:=w.drew) hbb];exact this)).mono ?_
  rintro x w' ⟨rfl,rfl⟩;refine⟨_,rfl,inPlace _ _ (by rw[rowSize,rowSize];rfl) (rowHeap (rowHeap (w:=w.drew) hg)) (λk hk=>by rw[rowOther hk,rowOther hk];rfl) rfl rfl rfl hr ?_ ?_⟩
  .simp only[List.size_toArray,h_,w_,X_,Array.length_toList,Array.size_append,hA1s,hvl];omega
  .rw[hA1,show(i+m)*te.size=i*te.size+vs.length by rw[hvl,a0_],b5_,b5_,Bvu _ _ _ _ _ (by show i*te.size+vs.length<=cur.size;rw[hvl,hcs];omega),<-M_];rw[show cur.toList.take (i*te.size)=xs.take (i*te.size)by rw[<-hct,List.take_take,c8_ ω]];exact XS _ _ _ _ (by simp only[h_,w_,X_,hxl,hvl];omega)
 have hg2:=hG c;have mg:=mG c;have hG63:grownCap w (n+m) c e<=9223372036854775807:=by
  have:=grownCap_le_maxLen w (n+m) c e (by unfold maxLen;omega)
  unfold maxLen at this;omega
 obtain⟨R,hR⟩:∃R,R=(xs.take (i*te.size)).toArray++Builtin.zeroCells zv.cells (n+m-i)++Builtin.zeroCells zv.cells (grownCap w (n+m) c e-(n+m)):=⟨_,rfl⟩;have m5:=Aaj te.size (ω:n+m=i+(n+m-i));have hRs:R.size=grownCap w (n+m) c e*te.size:=by rw[hR];simp only[Array.size_append,List.size_toArray,w_,hxl,WZ,hzs];omega
 obtain⟨A1,hA1⟩:∃A,A=(R.toList.take (i*te.size)++vs++R.toList.drop (i*te.size+vs.length)).toArray:=⟨_,rfl⟩;have hA1s:A1.size=grownCap w (n+m) c e*te.size:=by rw[hA1];simp only[List.size_toArray,h_,w_,X_,Array.length_toList,Array.size_append,hvl,hRs];omega
 have hN:(w.alloc (.cells R e)).heap[w.heap.size]?=some (.cells R e (0,0)):=(pushed R).2.1;have hO:∀k,k<w.heap.size->(w.alloc (.cells R e)).heap[k]?=w.heap[k]?:=(pushed R).2.2;have hik:i+(n+m-i)=n+m:=ω;refine(w4 F N mixed w R A1 (A1.toList.take ((i+m)*te.size)++xs.drop (i*te.size)++A1.toList.drop ((i+m)*te.size+(xs.drop (i*te.size)).length)).toArray b n c i m vb vc (grownCap w (n+m) c e) hlt hm hnc ω hcm' h63 hvbw hbw hz1 hz2 ω
  (λty=>by
   have hbn:(n+m-i)*te.bytes<=281474976710656:=by
    have:(n+m-i)*te.bytes<=(n+m)*te.bytes:=B_ _ ω
    omega
   have h:=Lib.run_append_grow_zeros w s t ty e te zv .i64 .i64 U I T hz (some ⟨b,0,none⟩) i c (xs.take (i*te.size)) (run_firstCells_some w.drew te.size i ⟨b,0,none⟩ i c (xs.take (i*te.size)) (by rw[w_,hxl];omega) (λj v hj=>by
    rw[Addr.add_lit,k_];rw[List.getElem?_take]at hj;split at hj
    .exact hcell j v hj
    .cases hj)) (n+m-i) ω z0 ω ω hbn (by rw[hik];exact growslice_fits ω hbig)
   rw[hik]at h;rw[show(n:Int)+(m:Int)-(i:Int)=((n+m-i:Nat):Int)by omega,hR];exact h)
  hg2 hG63
  (λty dc=>by
   rw[hA1];refine Xv _ s s ty e te w.heap.size (i*te.size) (n+m-i) dc ⟨vb,0,none⟩ m vc R e vs U T hN (by rw[hvl,min2 hlt]) (λj v hj=>?_) (by rw[hvl,hRs];omega) h1v;rw[Addr.add_lit,k_]
   have:=hvs j v hj
   unfold World.cell? at this|-;rw[show(w.alloc (.cells R e)).drew.heap[vb]?=w.heap[vb]? from hO vb hvbw];exact this)
  (λty dc sc=>by
   refine Xv _ s s ty e te w.heap.size ((i+m)*te.size) (n+m-(i+m)) dc ⟨b,i*te.size,none⟩ (n-i) sc A1 e (xs.drop (i*te.size)) U T (rowHeap (w:=(w.alloc (.cells R e)).drew) hN) (by rw[hdl,Bvx hlt]) (λj v hj=>?_) (by rw[hdl,hA1s];omega) h1d;rw[Addr.add_lit];rw[b8_]at hj
   have:=hcell _ v hj
   unfold World.cell? at this|-;rw[show(((w.alloc (.cells R e)).drew.setRow w.heap.size A1).drew).heap[b]?=w.heap[b]? from(rowOther (w:=(w.alloc (.cells R e)).drew) (ω:b≠w.heap.size)).trans (hO b hbw)];exact this)
  ω ω ω hw1 hb1 hi htn ω).mono ?_
 rintro x w' ⟨rfl,rfl⟩;refine⟨_,rfl,HW c _ _ (by rw[rowSize];show(World.setRow _ _ _).heap.size=_;rw[rowSize];exact(pushed _).1) (rowHeap (w:=(World.setRow _ _ _).drew) (rowHeap (w:=(w.alloc _).drew) (pushed _).2.1)) (λk hk=>by rw[rowOther ω];show(World.setRow _ _ _).heap[k]?=_;rw[rowOther ω];exact(pushed _).2.2 k hk) rfl rfl rfl ?_ ?_ hxl⟩
 .simp only[List.size_toArray,h_,w_,X_,Array.length_toList,Array.size_append,hA1s,hdl];omega
 .rw[hA1,hR,show(i+m)*te.size=i*te.size+vs.length by rw[hvl,a0_],b5_,b5_,Array.toList_append,Array.toList_append,b5_,M_ (xs.take (i*te.size)) (Builtin.zeroCells zv.cells (n+m-i)).toList];rw[Bvv (xs.take (i*te.size)) _ vs (xs.drop (i*te.size)) _ (i*te.size) (by rw[w_,hxl];omega)];exact XS _ _ _ _ (by simp only[h_,w_,X_,hxl,hvl];omega)
def WkD(P:Program)(g s z:Nat)(f:Func)(k:Nat):Prop:=P.funcs[g]?=C f->f.ntmps=k->P.follows .mixedOrders=O->∀(w W1:World) (A2:Array Value) (b n c i j:Nat),i<j->j<=n->n<=c->c<=9223372036854775807->
 (∀ty (ad:Addr) sc,ad=⟨b,j*z,H⟩\/n=j->(Builtin.append_ #[s,s] ty #[.slice (C ⟨b,0,H⟩) i c,.slice (C ad) (n-j) sc]).run P w.drew=.ok (.slice (C ⟨b,0,H⟩) (i+(n-j)) c) W1)->
 (∀ty,(Builtin.clear_ #[s] ty #[.slice (C ⟨b,(i+(n-j))*z,H⟩) (n-(i+(n-j))) (c-(i+(n-j)))]).run P W1=.ok (.tuple #[]) (W1.setRow b A2))->
 i<=c->j<=c->¬((i:Int)=(j:Int))->(i:Int)<=(j:Int)->
 Calls P g #[.slice (C ⟨b,0,H⟩) n c,.int .i64 i,.int .i64 j] w λe w'=>e=.returned (.slice (C ⟨b,0,H⟩) (i+(n-j)) c)/\w'=W1.setRow b A2
def Arq(U:P.underlying s=some (.slice e))(T:P.info? e=some te)(Z:te.size=z)(z0:0<z)(X:∃zv,(∀w,(zeroValue e).run P w=.ok zv w)/\zv.cells.size=z/\zv.cells.all Value.oneCell'=true)
  (F:P.funcs[g]?=some f) (N:f.ntmps=k) (mixed:P.follows .mixedOrders=true)
  (w1:WkD P g s z f k:=by
   intro F N mixed w W1 A2 b n c i j hij hj hnc hc63 hap hcl hic hjc hne hle;by_cases hcj:c=j
   .subst hcj;obtain rfl:n=c:=ω;have hap0:=λty=>hap ty ⟨b,0,none⟩ 0 (.inr rfl);clear hap;simp only[Nat.sub_self,b6_]at hap0 hcl|-
    try simp only[c1_]at*
    go_enter F,N
    go_wp2_with fail
    go_region_law_o (refine Ul rfl _ _ _ _ rfl (.slice (some ⟨b,0,none⟩) i n) (.slice (some ⟨b,0,none⟩) 0 0) (by simp[Act.eval,Act.put]) (by simp[Act.eval,Act.put]) (hap0 _) ?_)
    go_wp2
    go_ret
    exact⟨rfl,rfl⟩
   have hap0:=λty sc=>hap ty _ sc (.inl rfl);clear hap
   try simp only[c1_]at*
   go_enter F,N
   go_wp2_with fail
   go_region_law_o (refine Ul rfl _ _ _ _ rfl _ _ (by simp[Act.eval,Act.put]) (by simp[Act.eval,Act.put]) (hap0 _ (c-j)) ?_)
   go_wp2
   go_ret
   exact⟨rfl,rfl⟩)
  :Bah P g e z:=by
 intro w n i j xs vS q1 h1c hij hj;subst Z;obtain⟨zv,hzv,hzs,hz⟩:=X;have hz1:=Alm _ hz (by rw[hzs];exact z0) (j-i);obtain⟨hxl,⟨rfl,rfl⟩|⟨b,c,cur,rfl,_,hg,hnc,hcm,hcs,hct⟩⟩:=q1
 .omega
 have hcm':c<=9223372036854775807:=by unfold maxLen at hcm;omega
 have hzl:(Builtin.zeroCells zv.cells (j-i)).toList.length=(j-i)*te.size:=by simp[Builtin.zeroCells,hzs]
 have hdl:(xs.drop (j*te.size)).length=(n-j)*te.size:=by rw[X_,hxl,Nat.sub_mul]
 have hn:n-(j-i)=i+(n-j):=ω;have m1:=Aaj te.size (ω:n=j+(n-j));have m2:=Aaj te.size (ω:j=i+(j-i));have m3:=Aaj te.size (c:=i+(n-j)) rfl;have hmu:=B_ te.size hnc;obtain⟨A1,hA1⟩:∃A,A=(cur.toList.take (i*te.size)++xs.drop (j*te.size)++cur.toList.drop (i*te.size+(xs.drop (j*te.size)).length)).toArray:=⟨_,rfl⟩;have hA1s:A1.size=c*te.size:=by rw[hA1];simp only[List.size_toArray,h_,w_,X_,Array.length_toList,hxl,hcs];omega
 refine(w1 F N mixed w (w.drew.setRow b A1) (A1.toList.take ((i+(n-j))*te.size)++(Builtin.zeroCells zv.cells (j-i)).toList++A1.toList.drop ((i+(n-j))*te.size+(Builtin.zeroCells zv.cells (j-i)).toList.length)).toArray b n c i j hij hj hnc hcm'
  (λty ad sc had=>by
   rw[hA1];refine run_append_room w.drew s ty e te U T b i c cur hg ad (n-j) sc (xs.drop (j*te.size)) hdl (λq u hq=>?_) (λv hv=>h1c v (e6_ hv)) ω (by rw[hdl,hcs];omega);rcases had with rfl|had
   .rw[Addr.add_lit];rw[b8_]at hq;exact Abd (w:=w) hg hct hq
   .have:=(g_.1 hq).1
    rw[hdl,had,Nat.sub_self]at this;omega)
  (λty=>by rw[show n-(i+(n-j))=j-i by omega];exact Ax8 _ s e ty zv U hzv b _ (j-i) _ ω A1 e _ rfl (rowHeap (w:=w.drew) hg) (by rw[hzl,hA1s];omega) hz1)
  ω ω ω ω).mono ?_
 rintro x w' ⟨rfl,rfl⟩;rw[hn];refine⟨_,rfl,⟨by simp only[h_,w_,hdl,hxl];omega,.inr ⟨b,c,_,rfl,G_ _,rowHeap (rowHeap (w:=w.drew) hg),ω,hcm,?_,?_⟩⟩,λb' hb'=>.inl hb',⟨rfl,rfl,rfl,by rw[rowSize,rowSize];exact H_ _,λk hk hne=>by have hkb:k≠b:=λe=>hne (by rw[e];rfl);rw[rowOther hkb,rowOther hkb];rfl⟩⟩
 .simp only[List.size_toArray,h_,w_,X_,Array.length_toList,hA1s,hzl];omega
 .have e1:cur.toList.take (i*te.size)=xs.take (i*te.size):=by rw[<-hct,List.take_take,c8_ ω]
  have hlen:(xs.take (i*te.size)++xs.drop (j*te.size)).length=(i+(n-j))*te.size:=by rw[h_,hdl,w_,hxl];omega
  have hlen':=hlen;rw[h_]at hlen';rw[hA1,b5_,b5_,e1,M_ (List.take _ _)];rw[List.take_append_of_le_length (by simp only[w_,h_]at hlen'|-;omega),List.take_take,Nat.min_self,List.take_left' hlen]
def Tf(P:Program)(g e z:Nat)(te:TypeInfo):Prop:=∀(w:World) (ad:Addr) (n c:Nat) (news:List Value),news.length=n*z->n<=maxLen->n*te.bytes<=140737488355328->(∀j u,news[j]?=C u->w.cell? (ad.add j)=C u)->(∀u∈news,u.oneCell'=O)->
 Calls P g #[.slice (C ad) n c] w λx w'=>∃v',x=.returned v'/\w'.ownsRow w.heap.size e z v' n news/\v'≠ .slice H 0 0/\RowKit.Below w.heap.size w w'
def Tg(P:Program)(g:Nat):Prop:=∀(w:World) (n c:Nat),Calls P g #[.slice H n c] w λx w'=>x=.returned (.slice H 0 0)/\w'=w
def Xt(U:P.underlying s=some (.slice e))(T:P.info? e=some te)(Z:te.size=z)(z0:0<z){zv:Value}(hz:te.zero=some zv)(hzs:zv.cells.size=z)
  (F:P.funcs[g]?=some f) (N:f.ntmps=k) (mixed:P.follows .mixedOrders=true)
  (w1:P.underlying s=some (.slice e)->P.info? e=some te->te.size=z->te.zero=some zv->zv.cells.size=z->P.funcs[g]?=some f->f.ntmps=k->P.follows .mixedOrders=true->Tf P g e z te:=by
   intro tu T Z hz0 hzs F N mixed w ad n c news hl hn hbig hc h1;have qu:=λ(w:World) (a:Option Addr) (n c n' c':Nat)=>Lib.run_eql_slice_nil w _ _ a n c n' c' tu;have uu:=λw=>A_ tu w;have A:Aside (∀j u,news[j]?=some u->w.cell? (ad.add j)=some u):=hc;clear hc
   go_enter F,N
   go_wp2_with (at_builtin;refine wpList_append_own _ rfl _ _ _ rfl w.heap.size _ _ _ _ _ tu T hz0 Z rfl hzs τ _ _ _ rfl (World.ownsRow_made w #[] 0 (H_ _) (G_ _) σ) ad n c news rfl ?qc1 ?qc2 ?qc3 ?qc4 ?qc5 ?qc6 ?_)
   case qc1=>exact hl
   case qc2=>intro j u hj;exact Lib.cell?_alloc_some _ (A.out j u hj)
   case qc3=>exact h1
   case qc4=>rw[k_];exact hn
   case qc5=>rw[k_];exact hbig
   case qc6=>simp
   intro v' w1 hown hgrow hnil
   go_wp2
   go_ret
   refine⟨v',rfl,by simpa using hown,?_,?_⟩
   .exact hnil
   .exact((Below.refl _ w).alloc (H_ _) _).grown hgrow σ (by intro k hk;simp[Value.ownBlock]at hk;omega))
  :Tf P g e z te:=w1 U T Z hz hzs F N mixed
def Xs(U:P.underlying s=some (.slice e))(F:P.funcs[g]?=some f)(N:f.ntmps=k)
  (w1:P.underlying s=some (.slice e)->P.funcs[g]?=some f->f.ntmps=k->Tg P g:=by
   intro tu F N w n c;have qu:=λ(w:World) (a:Option Addr) (n c n' c':Nat)=>Lib.run_eql_slice_nil w _ _ a n c n' c' tu
   go_enter F,N
   go_wp2
   go_ret
   exact⟨rfl,rfl⟩)
  :Tg P g:=w1 U F N
end Go.Ab
namespace Go.Ab
open Go.RowKit
variable{G:Sig}
variable{w:World}{n:Nat}
def GlAt(G:Sig)(n:Nat)(w:World):Prop:=∃S:Nat->Prop,GlOK G S w.heap/\∀b,S b->b<n
def GlAt.below{w':World}(h:GlAt G n w)(hb:Below n w w'):GlAt G n w':=by obtain⟨S,h1,h2⟩:=h;exact⟨S,h1.mono (λ_ h=>h) λb hs=>hb.block b (h2 b hs),h2⟩
def GlAt.le{m:Nat}(h:GlAt G n w)(hm:n<=m):GlAt G m w:=by obtain⟨S,h1,h2⟩:=h;exact⟨S,h1,λb hs=>c5_ (h2 b hs) hm⟩
def Bnh(r:Nat):List (Ex×Y):=[(.ret,⟨[(r,.one .bool)],[],[]⟩)]
def hasI:Y:=⟨[(0,.agg [.int .u32,.int .u32]),(1,.one (.int .i64)),(2,.one (.int .i64))],[],[]⟩
def Al1(G:Sig)(r:Nat)(h:Int->Int->Int->Int->Option ((Bool×Unit)×Unit)):Fe G:=⟨hasI,Bnh r,λx=>h x.1.1.1 x.1.1.2.1 x.1.2.1 x.1.2.2.1,[.tmp r]⟩
def Ayt{P:Program}{g r:Nat}{h:Int->Int->Int->Int->Option ((Bool×Unit)×Unit)}(hf:Ff P G g (Al1 G r h)){u d f k:Int}{b:Bool}(hh:h u d f k=C ((b,()),()))(hgl:GlAt G n w)(hn:n<=w.heap.size):
  Calls P g #[.agg #[.int .u32 u,.int .u32 d],.int .i64 f,.int .i64 k] w λe w'=>e=.returned (.bool b)/\Below w.heap.size w w':=by
 obtain⟨S,hg,hS⟩:=hgl;have hout:Jy (G:=G) hasI [.tmp r] (.ret,L ⟨[(r,.one .bool)],[],[]⟩ ((b,()),()))=C (.p (.one (.sc (.bool b))),[]):=by
  have hg:J [(r,(Sv.p (.one (.sc (.bool b))):Sv G.T))] r=C (.p (.one (.sc (.bool b)))):=by simp[J]
  have hres:RV (L ⟨[(r,.one .bool)],[],[]⟩ ((b,()),()):St G) [.tmp r]=C (.p (.one (.sc (.bool b)))):=by
   unfold RV
   have:HC (L ⟨[(r,.one .bool)],[],[]⟩ ((b,()),()):St G) [.tmp r]=C [.one (.sc (.bool b))]:=by simp only[HC,Vp,L,JQ,PSh.give,CSh.give,hg]
   rw[this]
  simp only[Jy,hres,As,hasI,WE,Cq]
 have:=hf.2 ((((u,(d,())),(f,(k,()))),()):hasI.T G) ((b,()),()) (.ret,L ⟨[(r,.one .bool)],[],[]⟩ ((b,()),())) (.p (.one (.sc (.bool b)))) [] hh rfl hout
  (λ_=>H) S (λ_=>False) w [.agg #[.int .u32 u,.int .u32 d],.int .i64 f,.int .i64 k]
  ⟨λn k hk=>by simp[Al1,hasI,L,J,Gv,MU,SE,PSh.blk,Ad1,CSh.blk]at hk,λn m x y b _ _ h1=>by simp at h1,λn x b _ h1=>by simp at h1,λb hb=>c5_ (hS b hb) hn,hg⟩
  (λn h=>by simp at h) rfl (λk' v hk=>?_)
 .refine this.mono ?_;rintro e w' ⟨v,ν',S',rfl,hv,_,_,_,_,h1,h2,h3⟩;have e0:v=.bool b:=by cases hv with|p _ _ hc=>cases hc with|one _ _ hc=>cases(show Rd G S' w'.heap (.sc (.bool b)) v from hc);rfl
  subst e0;exact⟨rfl,h3.1,h3.2.1,h3.2.2,h1,λk hk=>h2 k hk (λh=>h)⟩
 .simp only[Al1,hasI,L,JQ,PSh.give,CSh.give,Cg,J,Bf]at hk;split at hk
  .rename_i e;subst e;cases hk;exact .p _ _ (.agg _ [.int .u32 u,.int .u32 d] (.cons (.sc _ rfl) (.cons (.sc _ rfl) .nil)))
  .split at hk
   .rename_i e;subst e;cases hk;exact .p _ _ (.one _ _ (.sc _ rfl))
   .split at hk
    .rename_i e;subst e;cases hk;exact .p _ _ (.one _ _ (.sc _ rfl))
    .cases hk
def pairs64:List (Int×Int):=(List.range 32).flatMap λ(f:Nat)=>[((f:Int),1),((f:Int),2)]
def Alw{α:Type}(h:Int->Int->Option ((Bool×Unit)×Unit))(mk:Int->Int->α):List (Int×Int)->Option (List α)
 |[]=>C []
 |p::r=>match h p.1 p.2 with
  |some y=>match Alw h mk r with
   |some l=>C (bif y.1.1 then mk p.1 p.2::l else l)
   |none=>H
  |none=>H
def Aux{α:Type}(h:Int->Int->Option ((Bool×Unit)×Unit))(mk:Int->Int->α):Option ((List α×Unit)×Unit):=match Alw h mk pairs64 with
 |some l=>C ((l,()),())
 |none=>H
def Abj(h:Int->Int->Option ((Bool×Unit)×Unit))(f d:Int):Bool:=match h f d with
 |some y=>y.1.1
 |none=>false
def Aft{α:Type}{h:Int->Int->Option ((Bool×Unit)×Unit)}{mk:Int->Int->α}:∀{ps:List (Int×Int)}{l:List α},Alw h mk ps=C l->
  (∀p∈ps,h p.1 p.2=C ((Abj h p.1 p.2,()),()))/\l=(ps.filter λp=>Abj h p.1 p.2).map λp=>mk p.1 p.2
 |[],l,he=>by cases he;exact⟨λ_ h=>absurd h (f0_),rfl⟩
 |p::r,l,he=>by
  simp only[Alw]at he;split at he
  .rename_i y hy;split at he
   .rename_i l' hl';cases he;obtain⟨h1,h2⟩:=Aft hl';have hyes:Abj h p.1 p.2=y.1.1:=by simp[Abj,hy]
    refine⟨List.forall_mem_cons.2 ⟨by rw[hyes,hy],h1⟩,?_⟩;rw[List.filter_cons,hyes,h2];cases y.1.1<;>rfl
   .cases he
  .cases he
def PX(p:Int×Int):List Value:=[.int .i64 p.1,.int .i64 p.2,.int .i64 (-1),.int .i64 0,.bool false]
def Bk4:Y:=⟨[(0,.agg [.int .u32,.int .u32])],[],[]⟩
def Bfl(G:Sig)(r t:Nat)(h:Int->Int->Int->Int->Option ((Bool×Unit)×Unit))(mk:Int->Int->G.T t):Fe G:=⟨Bk4,Aph r t,λx=>(Aux (h x.1.1.1 x.1.1.2.1) mk:Option ((List (G.T t)×Unit)×Unit)),[.tmp r]⟩
section
variable{P:Program}(ok:SigOK P G){g r t:Nat}(hent:Asv P g){h:Int->Int->Int->Int->Option ((Bool×Unit)×Unit)}{mk:Int->Int->G.T t}
 (hsz:G.sz t=5) (hmk:∀f d,G.enc t (mk f d)=[.sc (.int .i64 f),.sc (.int .i64 d),.sc (.int .i64 (-1)),.sc (.int .i64 0),.sc (.bool false)])
include ok hsz hmk
theorem Bcf(S:Nat->Prop)(hp:Array Obj)(ps:List (Int×Int)):ERel G S hp t (ps.map λp=>mk p.1 p.2) (ps.flatMap PX):=by
 induction ps with
 |nil=>exact ERel.nil
 |cons p r ih=>
  have h1:ERel G S hp t [mk p.1 p.2] (PX p):=by
   refine⟨by rw[hsz];rfl,λu hu=>by simp[PX]at hu;rcases hu with rfl|rfl|rfl|rfl|rfl<;>rfl,λi j x cv hx hc=>?_⟩;have hi:i=0:=by have:=(g_.1 hx).1;simp at this;exact this
   subst hi;simp at hx;subst hx;rw[hmk]at hc;rw[Nat.zero_mul,k_]
   match j,hc with
   |0,hc=>simp at hc;subst hc;exact⟨_,rfl,.sc _ rfl⟩
   |1,hc=>simp at hc;subst hc;exact⟨_,rfl,.sc _ rfl⟩
   |2,hc=>simp at hc;subst hc;exact⟨_,rfl,.sc _ rfl⟩
   |3,hc=>simp at hc;subst hc;exact⟨_,rfl,.sc _ rfl⟩
   |4,hc=>simp at hc;subst hc;exact⟨_,rfl,.sc _ rfl⟩
   |n+5,hc=>simp at hc
  exact ERel.append ok h1 ih
include hent
theorem Bk2 (hc : ∀ (w : World) (u d : Int) (hb : Int -> Int -> Bool), (∀ p ∈ pairs64, h u d p.1 p.2 = C ((hb p.1 p.2, ()), ())) -> GlAt G w.heap.size w ->
      Calls P g #[.agg #[.int .u32 u,.int .u32 d]] w λe w'=>∃v',e=.returned v'/\w'.ownsRow w.heap.size t 5 v' (pairs64.filter λp=>hb p.1 p.2).length ((pairs64.filter λp=>hb p.1 p.2).flatMap PX)/\Below w.heap.size w w'):Ff P G g (Bfl G r t h mk):=by
  refine⟨hent,λx y p s bl hy hp ho ν S mo w vals hheap _ hvl hslot=>?_⟩;obtain⟨⟨⟨(u:Int),(d:Int),_⟩,_⟩,_⟩:=x;obtain⟨h3,rfl,rfl⟩:=Yg (I:=Bk4) rfl hp ho;have hy':Aux (h u d) mk=C y:=hy;unfold Aux at hy';split at hy'
  · rename_i l hl
    cases hy';obtain⟨q1,q2⟩:=Aft hl;have s0:=hslot 0 (.p (.agg [.sc (.int .u32 u),.sc (.int .u32 d)])) rfl;have hvals:∃a,vals=[a]:=by
      match vals,hvl with
      |[a],_=>exact⟨a,rfl⟩
    obtain⟨v0,rfl⟩:=hvals;have e0:v0=.agg #[.int .u32 u,.int .u32 d]:=by cases s0 with|p _ _ hc=>cases hc with|agg _ vs hc=>obtain⟨a,t1,rfl,ha,hc⟩:=hc.inv;obtain⟨b,t2,rfl,hb,hc⟩:=hc.inv;obtain rfl:=hc.inv_nil;cases(show Rd G S w.heap (.sc (.int .u32 u)) a from ha);cases(show Rd G S w.heap (.sc (.int .u32 d)) b from hb);rfl
    subst e0;refine(hc w u d (Abj (h u d)) q1 ⟨S,hheap.gl,hheap.stay⟩).mono ?_;rintro e w' ⟨v',rfl,hown,hbel⟩;have hE:ERel G S w.heap t l ((pairs64.filter λp=>Abj (h u d) p.1 p.2).flatMap PX):=by rw[q2];exact Bcf ok hsz hmk S w.heap _
    have hout:RowOut w w' t (G.sz t) (.slice H 0 0) v' (pairs64.filter λp=>Abj (h u d) p.1 p.2).length ((pairs64.filter λp=>Abj (h u d) p.1 p.2).flatMap PX):=by
      rw[hsz];refine⟨?_,λb hb=>.inr ?_,⟨hbel.os,hbel.tape,hbel.output,hbel.size,λk hk _=>hbel.block k hk⟩⟩
      · obtain⟨q1,q2|⟨b,c2,cur,q2,_,q4⟩⟩:=hown
        · exact⟨q1,.inl q2⟩
        · exact⟨q1,.inr ⟨b,c2,cur,q2,G_ _,q4⟩⟩
      · obtain⟨_,q2|⟨b',c2,cur,q2,q3,_⟩⟩:=hown
        · rw[q2.1]at hb;simp[Value.ownBlock]at hb
        · rw[q2]at hb
          simp[Value.ownBlock]at hb;omega
    have:=QK ok hheap (m:=32768) (l:=l) hout (λb hb=>by simp[Value.ownBlock]at hb) hE (by rw[q2];simp) τ
    rw[h3];exact⟨v',KE ν 32768 v',S,rfl,this⟩
  · cases hy'
end
end Go.Ab
