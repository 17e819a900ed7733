import Derived.Test.YtnfjkodplikhjaaGreatDoorAbC
import Derived.Laws.CopyRow
import Derived.Laws.AppendOwn
import Derived.Laws.Append
import Derived.Below
import Derived.Lib.AppendStr
import Derived.Shelf.Spec.SlicesInsertGrow
import Derived.Deep.LoopGhost
import Derived.Lib.SliceRun
import Derived.Shelf.Strings.Builder1
import Derived.Lib.UnsafeStr
import Derived.Lib.AppendZeros
import Derived.Shelf.Strings.Split
import Derived.Shelf.Strings.Fields
import Derived.Shelf.Strings.OnBuilder
import Derived.Shelf.Strconv.Itoa3
import Derived.Shelf.SlicesE.DeleteFunc
import Derived.Lib.OwnBridge
set_option linter.all false
open Option renaming some->C,none->H
open Go.Ab renaming get->J,Sig->Y,Spec->aB,SigOK->aE
open Go.Ab.Spec renaming mk'->O
open Bool renaming true->aA,false->aD
open Nat renaming beq->aC,blt->aF,min->aG,ble_eq->aK
open ByteArray renaming empty->aH
open Go.Ab.CSh renaming give->aI
open Go.Ab.PSh renaming give->aJ
open Array renaming toList_append->aL
namespace Go.Ab
variable{G:Y}
variable{P:Program}{ν:Nat->Option Value}{w:World}{new:Array Value}{ys:List Value}{g:Nat}
section
variable{P:Program}(w:World)
theorem XJ(dT Q ty m:TypeId)(i:TypeInfo)(g o c A:Nat)(a:Addr)(d y:Nat)(b:Array Value)(t:TypeId)(cs:List Value)
  (N:P.underlying dT=C (.slice m)) (E:P.info? m=C i)
  (F:w.heap[g]?=C (.cells b t (0,0))) (L:cs.length=aG d c*i.size)
  (B:∀j v,cs[j]?=C v->w.cell? (a.add j)=C v) (u:o+cs.length<=b.size) (h1:∀v∈cs,v.oneCell'=aA) :
  (Builtin.copy_ #[dT,Q] ty #[.slice (C ⟨g,o,H⟩) c A,.slice (C a) d y]).run P w=
   .ok (goInt<|aG d c) (w.setRow g (b.toList.take o++cs++b.toList.drop (o+cs.length)).toArray):=by
 have D:=run_loadCells_list (P:=P) w a cs B;rw[L]at D;have q:=run_storeCells_at P g o t cs 0 b w F (by simpa using u) h1;simp only[d0_]at q;simp[Builtin.copy_,N_ N,Builtin.lenOf,Builtin.firstCells,sizeOf,typeInfo,E,D,q]
end
def rowHeap{a:Array Value}{t:TypeId}{fz:Nat×Nat}(b:w.heap[g]?=C (.cells a t fz)):(w.setRow g new).heap[g]?=C (.cells new t fz):=by unfold World.setRow;simp only;rw[e7_,if_pos rfl,b];rfl
def rowOther{b:Nat}(h:b≠g):(w.setRow g new).heap[b]?=w.heap[b]?:=by unfold World.setRow;simp[e7_,e4_ h]
def rowSize:(w.setRow g new).heap.size=w.heap.size:=by unfold World.setRow;simp
structure RowOut(w w':World)(t k:Nat)(vS v':Value)(n:Nat)(ys:List Value):Prop where
 row:w'.ownsRow 0 t k v' n ys
 blk:∀b,v'.ownBlock=some b->vS.ownBlock=some b\/w.heap.size<=b
 grow:w.grownBy w' vS.ownBlock
def ERel(G:Y)(S:Nat->Prop)(h:Array Obj)(t:Nat)(l:List<|G.T t)(ys:List Value):Prop:=ys.length=l.length*G.sz t/\(∀u∈ys,u.oneCell'=aA)/\∀(i j:Nat) (x:G.T t) (a:Cv G.T),l[i]?=C x->(G.enc t x)[j]?=C a->∃v,ys[i*G.sz t+j]?=C v/\Rd G S h a v
section
variable{S:Nat->Prop}{h:Array Obj}{t:Nat}
def ERel.nil:ERel G S h t [] []:=⟨σ,σ,σ⟩
def ZW(ok:aE P G){x:G.T t}{j:Nat}{b:Cv G.T}(a:(G.enc t x)[j]?=C b):j<G.sz t:=c3_ (f_.1 a).1<|ok.encl t x
def WV{i n k j:Nat}(a:i<n)(b:j<k):i*k+j<n*k:=by
 have:(i+1)*k<=n*k:=K_ _ a
 rw[a5_]at this;omega
def ERel.append{l A:List<|G.T t}{d:List Value}(ok:aE P G)(a:ERel G S h t l ys)(b:ERel G S h t A d):ERel G S h t (l++A)<|ys++d:=by
 refine⟨by rw[e_,e_,a.1,b.1,a5_],λu c=>?_,λi j x D m y=>?_⟩
 .rcases n_.1 c with c|c
  .exact a.2.1 u c
  .exact b.2.1 u c
 .have E:=ZW ok y;rw[g0_]at m;split at m
  .rename_i B;obtain⟨v,h1,q⟩:=a.2.2 i j x D m y;exact⟨v,by rw[d2_ (by rw[a.1];exact WV B E)];exact h1,q⟩
  .rename_i B;obtain⟨v,h1,q⟩:=b.2.2 _ j x D m y;have F:l.length*G.sz t<=i*G.sz t:=K_ _ ω;refine⟨v,?_,q⟩;rw[d7_ (by rw[a.1];omega),a.1];rw[Nat.sub_mul]at h1;rw[<-h1];congr 1;omega
def ERel.take{l:List<|G.T t}(ok:aE P G)(a:ERel G S h t l ys)(n:Nat):ERel G S h t (l.take n)<|ys.take<|n*G.sz t:=by
 refine⟨by rw[v_,v_,a.1,Nat.mul_min_mul_right],λu d=>a.2.1 u<|f0_ d,λi j x A b c=>?_⟩;have y:=ZW ok c;rw[List.getElem?_take]at b;split at b
 .rename_i q;obtain⟨v,h1,m⟩:=a.2.2 i j x A b c;exact⟨v,by rw[B_<|WV q y];exact h1,m⟩
 .cases b
def ERel.drop{l:List<|G.T t}(a:ERel G S h t l ys)(n:Nat):ERel G S h t (l.drop n)<|ys.drop<|n*G.sz t:=by refine⟨by rw[Y_,Y_,a.1,Nat.sub_mul],λu c=>a.2.1 u<|f1_ c,λi j x q b m=>?_⟩;rw[c4_]at b;obtain⟨v,h1,d⟩:=a.2.2 (n+i) j x q b m;exact⟨v,by rw[c4_,<-h1];congr 1;rw[a5_];omega,d⟩
end
def WZ(ok:aE P G){S B:Nat->Prop}{h:Nat->Option (Blk G.T)}(R:HRel G ν S B h w){n t:Nat}{l:List<|G.T t}(W:h n=C (.row t l))(hty:G.ty t≠ .no)(henc:∀x,(G.enc t x).length=G.sz t){v:Value}(L:ν n=C v):
  ∃ys,w.ownsRow 0 t (G.sz t) v l.length ys/\ERel G S w.heap t l ys/\(∀b,v.ownBlock=C b->¬S b/\B b/\b<w.heap.size/\AO v=C b):=by
 have q:=ok.pos t hty;rcases R.blk n _ W with⟨h1,E⟩|⟨b,D,c,te,h1,E,h3,h4,Q,y,h7⟩
 .rw[L]at h1;cases h1;subst E;exact⟨[],⟨σ,.inl ⟨rfl,rfl⟩⟩,ERel.nil,λb hb=>by simp[Value.ownBlock]at hb⟩
 .rw[L]at h1;cases h1;subst y;have U:l.length*G.sz te<=D*G.sz te:=K_ _ h3;refine⟨c.toList.take<|l.length*G.sz te,⟨by simp;omega,.inr ⟨b,D,c,rfl,Q_ _,E,h3,h7,h4,rfl⟩⟩,⟨by simp;omega,λu N=>?_,λi j x cv Z V=>?_⟩,λb' m=>?_⟩
  .obtain⟨j,X,e⟩:=List.getElem_of_mem N;have A:j<l.length*G.sz te:=by simp at X;omega
   have F:j/G.sz te<l.length:=Nat.div_lt_of_lt_mul (by rw[e9_];exact A);have hm:j%G.sz te<(G.enc te l[j/G.sz te]).length:=by rw[henc];exact f9_ _ q
   obtain⟨u',a,d⟩:=Q (j/G.sz te) (j%G.sz te) _ _ (i_ F)<|i_ hm;rw[e9_,Nat.div_add_mod]at a
   have:u=u':=by
    have y:(c.toList.take<|l.length*G.sz te)[j]?=C u:=by rw[<-e];exact i_ X
    rw[B_ A]at y;simp at y;rw[y]at a;simpa using a
   rw[this];exact Xb d
  .obtain⟨u,N,d⟩:=Q i j x cv Z V;have F:i<l.length:=(f_.1 Z).1;exact⟨u,by rw[B_<|WV F<|ZW ok V];simpa using N,d⟩
  .simp[Value.ownBlock]at m;subst m;obtain⟨q1,q2⟩:=R.own n _ b (by rw[W];simp) L rfl;exact⟨q1,q2,(I_.1 E).1,rfl⟩
def Jj(ν:Nat->Option Value)(m:Nat)(v:Value):Nat->Option Value:=λn=>if n=m then C v else if lo<=n then ν n else H
def Jr(ok:aE P G){S R:Nat->Prop}{hp:Nat->Option (Blk G.T)}{w':World}(V:HRel G ν S (λb=>R b\/w.heap.size<=b) hp w)
  {t n m:Nat}{vS F:Value}{ys:List Value}{l:List<|G.T t}(d:RowOut w w' t (G.sz t) vS F n ys) (W:∀b,vS.ownBlock=C b->¬S b/\R b) (hE:ERel G S w.heap t l ys) (hn:n=l.length) (hm:m<lo) :
  Rs G (Jj ν m F) S w'.heap (.p<|.one<|.own m) F/\HRel G (Jj ν m F) S (λb=>R b\/w.heap.size<=b) (J [(m,.row t l)]) w'/\
   (∀b,S b->S b)/\(∀b,S b->S b\/R b\/w.heap.size<=b)/\(∀n y,lo<=n->ν n=C y->Jj ν m F n=C y)/\
   w.heap.size<=w'.heap.size/\(∀b,b<w.heap.size->¬R b->w'.heap[b]?=w.heap[b]?)/\(w'.os=w.os/\w'.tape=w.tape/\w'.output=w.output):=by
 have D:∀b,S b->w'.heap[b]?=w.heap[b]?:=λb B=>d.grow.block b (V.stay b B) λe=>(W b e.symm).1 B;have E:Jj ν m F m=C F:=by simp[Jj]
 have A:∃a len u,F=.slice a len u:=by
  obtain⟨_,h|⟨g,u,Q,h,_⟩⟩:=d.row
  .exact⟨_,_,_,h.1⟩
  .exact⟨_,_,_,h⟩
 refine⟨.p _ _<|.one _ _ ?_,⟨λZ k U=>?_,λa b x y c ha B N hy hd h9=>?_,λZ x b L N B=>?_,λb B=>c3_ (V.stay b B) d.grow.size,V.gl.mono (λ_ h=>h) D⟩,λ_ h=>h,λ_ h=>.inl h,λZ y h0 hy=>?_,d.grow.size,λb B h7=>d.grow.block b B λe=>h7 (W b e.symm).2,d.grow.os,d.grow.tape,d.grow.output⟩
 .obtain⟨a,len,u,e⟩:=A;exact⟨a,len,u,E,e⟩
 .simp only[J,Bj]at U;split at U
  .rename_i e;subst e;cases U;obtain⟨hl,h|⟨g,u,Q,h1,_,h2,h3,h4,h5,h6⟩⟩:=d.row
   .left;refine⟨by rw[E,h.1],?_⟩
    have:=h.2;rw[hn]at this
    exact S_ this
   .right;rw[hn]at h1 h3 h6;refine⟨g,u,Q,t,by rw[E,h1],h2,h3,h5,λi j x cv N hc=>?_,rfl,h4⟩;obtain⟨v,hv,h8⟩:=hE.2.2 i j x cv N hc;have hi:i<l.length:=(f_.1 N).1;rw[<-h6,B_<|WV hi<|ZW ok hc]at hv;exact⟨v,by simpa using hv,h8.mono (λ_ h=>h) D⟩
  .cases U
 .have one:∀q,J [(m,Blk.row t l)] q≠H->q=m:=λq hq=>by
   simp only[J,Bj]at hq;split at hq
   .rename_i e;exact e.symm
   .exact absurd rfl hq
  rw[one a ha,one b B]
 .have e:Z=m:=by
   simp only[J,Bj]at L;split at L
   .rename_i e;exact e.symm
   .exact absurd rfl L
  subst e;rw[E]at N;cases N;have X:F.ownBlock=C b:=by
   obtain⟨a,len,u,rfl⟩:=A;cases a with
   |none=>simp[AO]at B
   |some a=>simpa[AO,Value.ownBlock]using B
  rcases d.blk b X with h|h
  .exact⟨(W b h).1,.inl (W b h).2⟩
  .exact⟨λhs=>by have:=V.stay b hs;omega,.inr h⟩
 .unfold Jj;rw[if_neg ω,if_pos h0];exact hy
end Go.Ab
namespace Go.Ab
variable{G:Y}
def Aa9(r t:Nat):List<|Ex×aB:=[(.ret,⟨[(r,.one<|.own 32768 t)],[],[]⟩)]
def Bol(t:Nat):aB:=⟨[(0,.one<|.own 32768 t),(1,.one<|.int .i64),(2,.one<|.own 32769 t)],[],[]⟩
def Bn0(t:Nat):aB:=⟨[(0,.one<|.own 32768 t),(1,.one<|.int .i64),(2,.one<|.int .i64)],[],[]⟩
def Bnx(t:Nat):aB:=⟨[(0,.one<|.ro t)],[],[]⟩
def Ajp{α:Type}(l:List α)(i:Int)(v:List α):Option<|(List α×Unit)×Unit:=bif(decide (0<=i)&&decide (i<=(l.length:Int)))&&(aF 0 v.length&&Nat.ble (l.length+v.length) 2147483648)then C ((l.take i.toNat++v++l.drop i.toNat,()),())else H
def Apw{α:Type}(l:List α)(i j:Int):Option<|(List α×Unit)×Unit:=bif(decide (0<=i)&&decide (i<j))&&decide (j<=(l.length:Int))then C ((l.take i.toNat++l.drop j.toNat,()),())else H
def Lk{α:Type}(l:List α):Option<|(List α×Unit)×Unit:=bif Nat.ble l.length 2147483648 then C ((l,()),())else H
def Bsn(G:Y)(r t:Nat):Fe G:=⟨Bol t,Aa9 r t,λx=>(Ajp x.1.1 x.1.2.1 x.1.2.2.1:Option<|(List (G.T t)×Unit)×Unit),[.tmp r]⟩
def Bsf(G:Y)(r t:Nat):Fe G:=⟨Bn0 t,Aa9 r t,λx=>(Apw x.1.1 x.1.2.1 x.1.2.2.1:Option<|(List (G.T t)×Unit)×Unit),[.tmp r]⟩
def Bsd(G:Y)(r t:Nat):Fe G:=⟨Bnx t,Aa9 r t,λx=>(Lk x.1.1:Option<|(List (G.T t)×Unit)×Unit),[.tmp r]⟩
def FS{α:Type}{b:Bool}{x y:α}(h:(bif b then C x else H)=C y):b=aA/\x=y:=by
 cases b with
 |true=>exact⟨rfl,r_ h⟩
 |false=>cases h
def Oe{I:aB}(i:I.hp=[]){r t:Nat}{y:(List (G.T t)×Unit)×Unit}{p:Ex×St G}{s:Sv G.T}{bl:List<|List<|Cv G.T}(hp:FZ (Aa9 r t) y C=C p)(a:Hs I [.tmp r] p=C (s,bl)) :
  p.2.hp=[(32768,.row t y.1.1)]/\s=.p (.one<|.own 32768)/\bl=[]:=by
 have c:p=(.ret,O ⟨[(r,.one<|.own 32768 t)],[],[]⟩ y):=(r_ hp).symm;subst c;unfold Hs at a;rw[i]at a;have d:J [(r,(Sv.p (.one<|.own 32768):Sv G.T))] r=C (.p<|.one<|.own 32768):=by simp[J]
 have b:MX (O ⟨[(r,.one<|.own 32768 t)],[],[]⟩ y:St G) [.tmp r]=C (.p<|.one<|.own 32768):=by
  unfold MX
  have:Gg (O ⟨[(r,.one<|.own 32768 t)],[],[]⟩ y:St G) [.tmp r]=C [.one<|.own 32768]:=by simp only[Gg,QS,O,Jg,aJ,aI,d]
  rw[this]
 simp only[b,Ay,Rv,Dc,b6_,e1_]at a;exact⟨rfl,a.1.symm,a.2.symm⟩
section
variable{P:Program}(ok:aE P G){g r t:Nat}(hent:Ain P g)(hty:G.ty t≠ .no)(henc:∀x,(G.enc t x).length=G.sz t)
include ok hent hty henc
theorem Aeq (A : ∀ (w : World) (n i m : Nat) (xs vs : List Value) (B D : Value), w.ownsRow 0 t (G.sz t) B n xs -> w.ownsRow 0 t (G.sz t) D m vs -> (∀ b, B.ownBlock = C b -> D.ownBlock ≠ C b) -> (∀ u ∈ xs, u.oneCell' = aA) -> (∀ u ∈ vs, u.oneCell' = aA) ->
      i<=n->0<m->n+m<=2147483648->Calls P g #[B,.int .i64 i,D] w λe w'=>∃L,e=.returned L/\RowOut w w' t (G.sz t) B L (n+m) (xs.take (i*G.sz t)++vs++xs.drop (i*G.sz t))):Dq P G g<|Bsn G r t:=by
  refine⟨hent,λx y p s bl hy hp ho ν S mo w vals d _ Q q=>?_⟩;obtain⟨⟨(l:List<|G.T t),(i:Int),(v:List<|G.T t),_⟩,_⟩:=x;obtain⟨h1,h2⟩:=FS hy;obtain⟨h3,rfl,rfl⟩:=Oe (I:=Bol t) rfl hp ho;subst h2;simp only[a_,t_,d9_,aK]at h1;obtain⟨⟨g1,g2⟩,g3,g4⟩:=h1;have s0:=q 0 (.p<|.one<|.own 32768) rfl;have s1:=q 1 (.p<|.one<|.sc<|.int .i64 i) rfl;have s2:=q 2 (.p<|.one<|.own 32769) rfl;have E:∃a b c,vals=[a,b,c]:=by
    match vals,Q with
    |[a,b,c],_=>exact⟨a,b,c,rfl⟩
  obtain⟨B,W,D,rfl⟩:=E;have X:ν 32768=C B:=by cases s0 with|p _ _ A=>cases A with|one _ _ A=>obtain⟨_,_,_,h,_⟩:=A;exact h
  have Z:ν 32769=C D:=by cases s2 with|p _ _ A=>cases A with|one _ _ A=>obtain⟨_,_,_,h,_⟩:=A;exact h
  have e1:W=.int .i64 i:=by cases s1 with|p _ _ A=>cases A with|one _ _ A=>cases(show Rd G S w.heap (.sc<|.int .i64 i) W from A);rfl
  subst e1;obtain⟨xs,o1,r1,V⟩:=WZ ok d (n:=32768) (t:=t) (l:=l) rfl hty henc X;obtain⟨vs,o2,r2,b2⟩:=WZ ok d (n:=32769) (t:=t) (l:=v) rfl hty henc Z;have N:∀b,B.ownBlock=C b->D.ownBlock≠C b:=λb U R=>by
    have:=d.apart 32768 32769 B D b (by show C _≠H;simp) (by show C _≠H;simp) X Z (V b U).2.2.2 (b2 b R).2.2.2
    cases this
  obtain⟨j,rfl⟩:∃j:Nat,i=(j:Int):=⟨i.toNat,ω⟩
  refine(A w l.length j v.length xs vs B D o1 o2 N r1.2.1 r2.2.1 ω g3 g4).mono ?_;rintro e w' ⟨L,rfl,F⟩;have hE:ERel G S w.heap t (l.take j++v++l.drop j)<|xs.take (j*G.sz t)++vs++xs.drop (j*G.sz t):=((r1.take ok j).append ok r2).append ok<|r1.drop j
  have:=Jr ok d (m:=32768) (l:=l.take j++v++l.drop j) F (λb U=>by obtain⟨q1,q2,q3,_⟩:=V b U;exact⟨q1,q2.resolve_right ω⟩) hE (by simp;omega) τ
  rw[h3];exact⟨L,Jj ν 32768 L,S,rfl,this⟩
theorem Apx (q : ∀ (w : World) (n i j : Nat) (xs : List Value) (D : Value), w.ownsRow 0 t (G.sz t) D n xs -> (∀ u ∈ xs, u.oneCell' = aA) ->
      i<j->j<=n->Calls P g #[D,.int .i64 i,.int .i64 j] w λe w'=>∃F,e=.returned F/\RowOut w w' t (G.sz t) D F (n-(j-i)) (xs.take (i*G.sz t)++xs.drop (j*G.sz t))):Dq P G g<|Bsf G r t:=by
  refine⟨hent,λx y p s bl R hp U ν S mo w vals A _ L d=>?_⟩;obtain⟨⟨(l:List<|G.T t),(i:Int),(j:Int),_⟩,_⟩:=x;obtain⟨h1,h2⟩:=FS R;obtain⟨h3,rfl,rfl⟩:=Oe (I:=Bn0 t) rfl hp U;subst h2;simp only[a_,t_]at h1;obtain⟨⟨g1,g2⟩,g3⟩:=h1;have s0:=d 0 (.p<|.one<|.own 32768) rfl;have s1:=d 1 (.p<|.one<|.sc<|.int .i64 i) rfl;have s2:=d 2 (.p<|.one<|.sc<|.int .i64 j) rfl;have B:∃a b c,vals=[a,b,c]:=by
    match vals,L with
    |[a,b,c],_=>exact⟨a,b,c,rfl⟩
  obtain⟨D,N,Q,rfl⟩:=B;have X:ν 32768=C D:=by cases s0 with|p _ _ q=>cases q with|one _ _ q=>obtain⟨_,_,_,h,_⟩:=q;exact h
  have Z:N=.int .i64 i:=by cases s1 with|p _ _ q=>cases q with|one _ _ q=>cases(show Rd G S w.heap (.sc<|.int .i64 i) N from q);rfl
  have e2:Q=.int .i64 j:=by cases s2 with|p _ _ q=>cases q with|one _ _ q=>cases(show Rd G S w.heap (.sc<|.int .i64 j) Q from q);rfl
  subst Z e2;obtain⟨xs,o1,r1,V⟩:=WZ ok A (n:=32768) (t:=t) (l:=l) rfl hty henc X;obtain⟨a,rfl⟩:∃a:Nat,i=(a:Int):=⟨i.toNat,ω⟩
  obtain⟨c,rfl⟩:∃c:Nat,j=(c:Int):=⟨j.toNat,ω⟩
  refine(q w l.length a c xs D o1 r1.2.1 ω ω).mono ?_;rintro e w' ⟨F,rfl,E⟩;have W:ERel G S w.heap t (l.take a++l.drop c)<|xs.take (a*G.sz t)++xs.drop (c*G.sz t):=(r1.take ok a).append ok<|r1.drop c
  have:=Jr ok A (m:=32768) (l:=l.take a++l.drop c) E (λb hb=>by obtain⟨q1,q2,q3,_⟩:=V b hb;exact⟨q1,q2.resolve_right ω⟩) W (by simp;omega) τ
  rw[h3];exact⟨F,Jj ν 32768 F,S,rfl,this⟩
omit hty henc in
theorem Ka{tS size bytes:Nat}(h0:G.ty tS=.sl t)(hsz:size=G.sz t)(h4:bytes<=4096)
  (h5:∀(w:World) (a:Addr) (n c:Nat) (news:List Value),news.length=n*size->n<=maxLen->n*bytes<=140737488355328->(∀j u,news[j]?=C u->w.cell? (a.add j)=C u)->(∀u∈news,u.oneCell'=aA)->
   Calls P g #[.slice (C a) n c] w λe w'=>∃i,e=.returned i/\w'.ownsRow w.heap.size t size i n news/\i≠ .slice H 0 0/\RowKit.Below w.heap.size w w')
  (h7:∀(w:World) (n c:Nat),Calls P g #[.slice H n c] w λe w'=>e=.returned (.slice H 0 0)/\w'=w):Dq P G g<|Bsd G r t:=by
 refine⟨hent,λx y p s bl hy hp ho ν S mo w vals q _ Z L=>?_⟩;obtain⟨⟨(l:List<|G.T t),_⟩,_⟩:=x;obtain⟨h1,h2⟩:=FS hy;obtain⟨h3,rfl,rfl⟩:=Oe (I:=Bnx t) rfl hp ho;subst h2;rw[aK]at h1;have s0:=L 0 (.p<|.one<|.ro t l) rfl;have N:∃a,vals=[a]:=by
  match vals,Z with
  |[a],_=>exact⟨a,rfl⟩
 obtain⟨vS,rfl⟩:=N;have h8:Rc G ν S w.heap (.ro t l) vS:=by cases s0 with|p _ _ hc=>cases hc with|one _ _ hc=>exact hc
 obtain⟨a,h9,hv,V,vs,A,Q,E,W⟩:=Nj ok q (t:=tS) (e:=t) h0 (c:=.ro t l) (l:=l) (by simp[Il,Po]) h8;have hE:ERel G S w.heap t l vs:=⟨A,E,W⟩
 have X:∀(i:Value) (w':World),RowOut w w' t (G.sz t) (.slice H 0 0) i l.length vs->∃v ν' S',Ending.returned i=Ending.returned v/\Rs G ν' S' w'.heap (.p<|.one<|.own 32768) v/\HRel G ν' S' (λb=>mo b\/w.heap.size<=b) (J p.2.hp) w'/\
   (∀b,S b->S' b)/\(∀b,S' b->S b\/mo b\/w.heap.size<=b)/\(∀n y,lo<=n->ν n=C y->ν' n=C y)/\
   w.heap.size<=w'.heap.size/\(∀b,b<w.heap.size->¬mo b->w'.heap[b]?=w.heap[b]?)/\(w'.os=w.os/\w'.tape=w.tape/\w'.output=w.output):=λi w' U=>by
  have:=Jr ok q (m:=32768) (l:=l) U (λb D=>by simp[Value.ownBlock]at D) hE rfl τ
  rw[h3];exact⟨i,Jj ν 32768 i,S,rfl,this⟩
 subst hv;cases a with
 |none=>obtain rfl:=V rfl;refine(h7 w _ _).mono ?_;rintro e w' ⟨rfl,rfl⟩;have hz:vs=[]:=S_ (by rw[A];simp);exact X _ _ ⟨by rw[hz];exact⟨σ,.inl ⟨rfl,rfl⟩⟩,λb D=>by simp[Value.ownBlock]at D,⟨rfl,rfl,rfl,q_ _,λ_ _ _=>rfl⟩⟩
 |some a=>
  have h6:l.length*bytes<=140737488355328:=by
   have:l.length*bytes<=2147483648*4096:=Nat.mul_le_mul h1 h4
   omega
  refine(h5 w a l.length h9 vs (by rw[hsz];exact A) (b7_ h1 τ) h6 (λj u hj=>Q a rfl j u hj) E).mono ?_;rintro e w' ⟨i,rfl,B,_,d⟩;subst hsz;refine X i w' ⟨?_,λb D=>.inr ?_,⟨d.os,d.tape,d.output,d.size,λk hk _=>d.block k hk⟩⟩
  .obtain⟨q1,F|⟨b,c2,R,F,_,q4⟩⟩:=B
   .exact⟨q1,.inl F⟩
   .exact⟨q1,.inr ⟨b,c2,R,F,Q_ _,q4⟩⟩
  .obtain⟨_,F|⟨b',c2,R,F,q3,_⟩⟩:=B
   .rw[F.1]at D;simp[Value.ownBlock]at D
   .rw[F]at D;simp[Value.ownBlock]at D;omega
end
end Go.Ab
namespace Go.Ab
open Go.Lib
variable{G:Y}
variable{w:World}{x:Value}
def Ac1(w:World)(A:Array Value)(e:TypeId):(w.drew.alloc<|.cells A e).heap.size=w.heap.size+1/\(w.drew.alloc<|.cells A e).heap[w.heap.size]?=C (.cells A e (0,0))/\(∀k,k<w.heap.size->(w.drew.alloc<|.cells A e).heap[k]?=w.heap[k]?):=by
 refine⟨(show(w.heap.push _).size=_ by rw[Array.size_push]),?_,λk a=>?_⟩
 .show(w.heap.push _)[w.heap.size]?=_;rw[Array.getElem?_push,if_pos rfl]
 .show(w.heap.push _)[k]?=_;rw[Array.getElem?_push_lt a,b5_ a]
def Asa(s:ByteArray):∀u∈strCells s,u.oneCell'=aA:=by intro u a;simp only[strCells,b3_]at a;obtain⟨b,_,rfl⟩:=a;rfl
def Bng{P:Program}(w:World){t u e:TypeId}{i:TypeInfo}(R:P.underlying t=C (.slice e))(N:P.underlying u=C .string)(F:P.info? e=C i)(hz:i.zero=C (.int .u8 0))(q:i.size=1)(B:i.bytes=1)
  {v:Value}{n:Nat}{xs:List Value}(y:w.ownsRow 0 e 1 v n xs) (s:ByteArray) (h5:n+s.size<=2147483648) :
  ∃v' w',(∀ty,(Builtin.append_ #[t,u] ty #[v,.string s]).run P w=.ok v' w')/\RowOut w w' e 1 v v' (n+s.size) (xs++strCells s):=by
 have a:(strCells s).length=s.size:=strCells_length s;obtain⟨d,⟨rfl,rfl⟩|⟨b,c,m,rfl,_,W,h6,X,h3,D⟩⟩:=y
 .by_cases h0:s.size=0
  .refine⟨.slice H 0 0,w,λty=>?_,⟨by simp[a,h0,d],.inl ⟨rfl,ω⟩⟩,λb A=>by simp[Value.ownBlock]at A,⟨rfl,rfl,rfl,q_ _,λ_ _ _=>rfl⟩⟩;have hf:=run_firstCells_string (P:=P) w 1 s;rw[h0]at hf;simp[Builtin.append_,N_ R,N_ N,sizeOf,typeInfo,F,q,Builtin.lenOf,h0,hf]
  .have V:xs=[]:=S_ ω;subst V;have L:=λty=>run_append_nil_string (P:=P) w t u ty e i (.int .u8 0) R N F hz s ω ω (by rw[B];omega);obtain⟨p1,p2,p3⟩:=Ac1 w (Array.map (λb=>Value.int .u8 b.toNat) s.data++Builtin.zeroCells (Value.int .u8 0).cells (grownCap w s.size 0 e-s.size)) e;have h1:=grownCap_ge w s.size 0 e;refine⟨_,_,L,⟨by simp[a],.inr ⟨w.heap.size,_,_,by rw[m_],Q_ _,p2,ω,grownCap_le_maxLen w _ _ _ (by unfold maxLen;omega),?_,?_⟩⟩,λb A=>.inr (by simp[Value.ownBlock]at A;omega),⟨rfl,rfl,rfl,ω,λk E _=>p3 k E⟩⟩
   .simp[Builtin.zeroCells,Value.cells];show s.size+_=_;omega
   .rw[aL,g4_,c5_,m_,c2_];exact d6_ a
 .by_cases L:n+s.size<=c
  .refine⟨_,_,λty=>run_append_room_string (P:=P) w t u ty e i R N F q b n c m W s L ω,⟨by simp[a,d],.inr ⟨b,c,_,rfl,Q_ _,Go.Ab.rowHeap W,L,X,?_,?_⟩⟩,λb' Z=>.inl Z,⟨rfl,rfl,rfl,by rw[Go.Ab.rowSize];exact q_ _,λk E U=>Go.Ab.rowOther (λe=>U (by rw[e];rfl))⟩⟩
   .simp[a,h3];omega
   .rw[c8_];have e1:m.toList.take n=xs:=by rw[<-D,c2_]
    rw[e1];exact d6_ (by rw[e_,a,d];omega)
  .have h4:=λty=>run_append_grow_string (P:=P) w t u ty e i (.int .u8 0) R N F hz ⟨b,0,H⟩ n c xs (by rw[q];exact d) (λj v Q=>by
    rw[<-D,c2_]at Q;have h2:j<n:=by
     have:=(f_.1 Q).1
     simp at this;omega
    rw[B_ h2]at Q;rw[Ho,m_,d8_ w b _ m e (0,0) W];simpa using Q) s ω ω (by rw[B];exact growslice_fits ω ω)
   obtain⟨p1,p2,p3⟩:=Ac1 w (xs.toArray++(strCells s).toArray++Builtin.zeroCells (Value.int .u8 0).cells (grownCap w (n+s.size) c e-(n+s.size))) e;have h1:=grownCap_ge w (n+s.size) c e;refine⟨_,_,h4,⟨by simp[a,d],.inr ⟨w.heap.size,_,_,rfl,Q_ _,p2,ω,grownCap_le_maxLen w _ _ _ (by unfold maxLen;omega),?_,?_⟩⟩,λb A=>.inr (by simp[Value.ownBlock]at A;omega),⟨rfl,rfl,rfl,ω,λk E _=>p3 k E⟩⟩
   .simp[Builtin.zeroCells,Value.cells,a,d];omega
   .rw[aL,aL,c8_,c8_];exact d6_ (by rw[e_,a,d];omega)
structure BldOut(w w':World)(b te e:Nat)(a v v':Value)(n:Nat)(ys:List Value):Prop where
 cel:w'.heap[b]?=some (.cells #[a,v'] te (0,0))
 row:w'.ownsRow 0 e 1 v' n ys
 apart:v'.ownBlock≠some b
 blk:∀g,v'.ownBlock=some g->v.ownBlock=some g\/w.heap.size<=g
 rest:∀k,k<w.heap.size->k≠b->some k≠v.ownBlock->w'.heap[k]?=w.heap[k]?
 size:w.heap.size<=w'.heap.size
 env:w'.os=w.os/\w'.tape=w.tape/\w'.output=w.output
def setCell_heap{b o:Nat}{a:Array Value}{t:TypeId}{fz:Nat×Nat}(c:w.heap[b]?=C (.cells a t fz)):(w.setCell ⟨b,o,H⟩ x).heap[b]?=C (.cells (a.setIfInBounds o x) t fz):=by unfold World.setCell;simp only;rw[e7_,if_pos rfl,c];rfl
def setCell_other{b o k:Nat}(h:k≠b):(w.setCell ⟨b,o,H⟩ x).heap[k]?=w.heap[k]?:=by unfold World.setCell;simp[e7_,e4_ h]
def setCell_size{a:Addr}:(w.setCell a x).heap.size=w.heap.size:=by unfold World.setCell;simp
structure CcOut(w w1:World)(b te:Nat)(v:Value):Prop where
 cel:w1.heap[b]?=some (.cells #[.pointer (some ⟨b,0,none⟩),v] te (0,0))
 rest:∀k,k≠b->w1.heap[k]?=w.heap[k]?
 size:w1.heap.size=w.heap.size
 env:w1.os=w.os/\w1.tape=w.tape/\w1.output=w.output
def Aa0{c:World}{base e k n:Nat}{v:Value}{xs:List Value}(h:w.ownsRow base e k v n xs)(m:∀g,v.ownBlock=C g->c.heap[g]?=w.heap[g]?):c.ownsRow base e k v n xs:=by
 obtain⟨h1,q|⟨g,b,a,rfl,j,i,d⟩⟩:=h
 .exact⟨h1,.inl q⟩
 .exact⟨h1,.inr ⟨g,b,a,rfl,j,(m g rfl).trans i,d⟩⟩
def Bai{D u:World}{b te e m:Nat}{v q:Value}{ys:List Value}(E:b<w.heap.size)(c:CcOut w D b te v)(d:v.ownBlock≠C b)(a:RowOut D u e 1 v q m ys):BldOut w (u.setCell ⟨b,1,H⟩ q) b te e (.pointer<|C ⟨b,0,H⟩) v q m ys:=by
 have B:b<D.heap.size:=by rw[c.size];exact E
 have L:u.heap[b]?=C (.cells #[.pointer<|C ⟨b,0,H⟩,v] te (0,0)):=by rw[a.grow.block b B (λe=>d e.symm)];exact c.cel
 have j:q.ownBlock≠C b:=λe=>by
  rcases a.blk b e with h|h
  .exact d h
  .omega
 refine⟨by rw[setCell_heap L];rfl,Aa0 a.row λg y=>setCell_other (λe=>j (by rw[<-e];exact y)),j,λg y=>?_,λk F i A=>?_,?_,?_⟩
 .rcases a.blk g y with h|h
  .exact .inl h
  .exact .inr (by rw[<-c.size];exact h)
 .rw[setCell_other i,a.grow.block k (by rw[c.size];exact F) A,c.rest k i]
 .rw[setCell_size,<-c.size];exact a.grow.size
 .exact⟨a.grow.os.trans c.env.1,a.grow.tape.trans c.env.2.1,a.grow.output.trans c.env.2.2⟩
end Go.Ab
namespace Go.Ab
open Go.Lib
variable{G:Y}
variable{p:Ex×St G}{s:Sv G.T}{te r0:Nat}
def Ady(tb te:Nat):List<|Nat×List CSh:=[(65536,[.np 65536 tb,.own 32768 te])]
def wsI(tb te:Nat):aB:=⟨[(0,.one<|.ptr 65536 0),(1,.one .str)],Ady tb te,[]⟩
def wsE(r0 r1 tb te:Nat):List<|Ex×aB:=[(.ret,⟨[(r0,.one<|.int .i64),(r1,.one .nili)],Ady tb te,[65536]⟩)]
def stI(tb te:Nat):aB:=⟨[(0,.one<|.ptr 65536 0)],Ady tb te,[]⟩
def stE(r0 tb te:Nat):List<|Ex×aB:=[(.ret,⟨[(r0,.one .str)],[(65536,[.np 65536 tb,.ro te])],[65536]⟩)]
def wsF{α:Type}(ofB:UInt8->α)(s:ByteArray)(l:List α):Option<|(Int×Unit×Unit)×((Unit×List α×Unit)×Unit):=bif Nat.ble (l.length+s.size) 2147483648 then C (((s.size:Int),(),()),(((),l++s.data.toList.map ofB,()),()))else H
def okB{T:Nat->Type}:List (Cv T)->Bool
 |[.sc<|.int .u8 n]=>decide (0<=n)&&decide (n<256)
 |_=>aD
def Bi4{α:Type}:List α->Bool
 |[]=>aD
 |_=>aA
def stF(G:Y)(te:Nat)(l:List<|G.T te):Option<|(ByteArray×Unit)×((Unit×List (G.T te)×Unit)×Unit):=bif Bi4 l&&l.all (λx=>okB<|G.enc te x)then C ((Xi G te l,()),(((),l,()),()))else H
def Cap(G:Y)(r0 r1 tb te:Nat)(ofB:UInt8->G.T te):Fe G:=⟨wsI tb te,wsE r0 r1 tb te,λx=>(wsF ofB x.1.2.1 x.2.1.2.1:Option<|(Int×Unit×Unit)×((Unit×List (G.T te)×Unit)×Unit)),[.tmp r0,.tmp r1]⟩
def Bql(G:Y)(r0 tb te:Nat):Fe G:=⟨stI tb te,stE r0 tb te,λx=>stF G te x.2.1.2.1,[.tmp r0]⟩
def Ao2{P:Program}(ok:aE P G){ν:Nat->Option Value}{S B:Nat->Prop}{w:World}{tb:Nat}{l:List<|G.T te}(a:HRel G ν S B (J [(32768,.row te l),(65536,.cells [.np 65536 tb,.own 32768])]) w)(hty:G.ty te≠ .no)(henc:∀x,(G.enc te x).length=G.sz te):
  ∃b a0 v xs,ν 65536=C (.pointer<|C ⟨b,0,H⟩)/\ν 32768=C v/\(a0=.pointer H\/a0=.pointer (C ⟨b,0,H⟩))/\w.heap[b]?=C (.cells #[a0,v] tb (0,0))/\w.ownsRow 0 te (G.sz te) v l.length xs/\ERel G S w.heap te l xs/\
   (∀g,v.ownBlock=C g->¬S g/\B g/\g<w.heap.size/\AO v=C g/\g≠b)/\¬S b/\B b/\b<w.heap.size:=by
 obtain⟨b,c,Z,h1,u,V,A⟩:=a.blk 65536 _ rfl;obtain⟨_,W⟩:=A 65536 tb σ;subst W;obtain⟨a0,r,L,U,Q⟩:=V.inv;obtain⟨v,r2,d,N,F⟩:=Q.inv;have q:=F.inv_nil;subst q d;have j:c=#[a0,v]:=by rw[<-e3_ (xs:=c),L]
 subst j;obtain⟨_,_,_,m,_⟩:=N;obtain⟨xs,o1,o2,o3⟩:=WZ ok a rfl hty henc m;have D:a0=.pointer H\/a0=.pointer (C ⟨b,0,H⟩):=by
  rcases U with h|⟨X,i,R⟩
  .exact .inl h
  .simp only at i;rw[h1]at i;cases i;exact .inr R
 obtain⟨n1,n2⟩:=a.own 65536 _ b (by show C _≠H;simp) h1 rfl;refine⟨b,a0,v,xs,h1,m,D,u,o1,o2,λg y=>?_,n1,n2,(I_.1 u).1⟩;obtain⟨E,z2,z3,z4⟩:=o3 g y;refine⟨E,z2,z3,z4,λe=>?_⟩;subst e
 have:=a.apart 32768 65536 _ _ g (by show C _≠H;simp) (by show C _≠H;simp) m h1 z4 rfl
 cases this
def Bqs{tb r1:Nat}(c:r0≠r1){y:(Int×Unit×Unit)×((Unit×List (G.T te)×Unit)×Unit)}{bl:List<|List<|Cv G.T}(hp:FZ (wsE r0 r1 tb te) y C=C p)(b:Hs (wsI tb te) [.tmp r0,.tmp r1] p=C (s,bl)):
  p.2.hp=[(32768,.row te y.2.1.2.1),(65536,.cells [.np 65536 tb,.own 32768])]/\s=.tup [.one<|.sc<|.int .i64 y.1.1,.one<|.sc .nilIface]/\bl=[[.np 65536 tb,.own 32768]]:=by
 have m:p=(.ret,O ⟨[(r0,.one<|.int .i64),(r1,.one .nili)],Ady tb te,[65536]⟩ y):=(r_ hp).symm;subst m;unfold Hs at b;have d:J [(r0,(Sv.p (.one<|.sc<|.int .i64 y.1.1):Sv G.T)),(r1,.p<|.one<|.sc .nilIface)] r0=C (.p<|.one<|.sc<|.int .i64 y.1.1):=by simp[J]
 have i:J [(r0,(Sv.p (.one<|.sc<|.int .i64 y.1.1):Sv G.T)),(r1,.p<|.one<|.sc .nilIface)] r1=C (.p<|.one<|.sc .nilIface):=by simp[J,Bj,c]
 have a:MX (O ⟨[(r0,.one<|.int .i64),(r1,.one .nili)],Ady tb te,[65536]⟩ y:St G) [.tmp r0,.tmp r1]=C (.tup [.one<|.sc<|.int .i64 y.1.1,.one<|.sc .nilIface]):=by
  unfold MX
  have:Gg (O ⟨[(r0,.one<|.int .i64),(r1,.one .nili)],Ady tb te,[65536]⟩ y:St G) [.tmp r0,.tmp r1]=C [.one<|.sc<|.int .i64 y.1.1,.one<|.sc .nilIface]:=by simp only[Gg,QS,O,Jg,aJ,aI,d,i]
  rw[this]
 have j:Rv (J (O ⟨[(r0,.one<|.int .i64),(r1,.one .nili)],Ady tb te,[65536]⟩ y:St G).hp) (Ay (wsI tb te).hp)=C [[.np 65536 tb,.own 32768]]:=rfl;simp only[a,j,b6_,e1_]at b;exact⟨rfl,b.1.symm,b.2.symm⟩
def Bc2{tb:Nat}{y:(ByteArray×Unit)×((Unit×List (G.T te)×Unit)×Unit)}{bl:List<|List<|Cv G.T}(hp:FZ (stE r0 tb te) y C=C p)(b:Hs (stI tb te) [.tmp r0] p=C (s,bl)):
  p.2.hp=[(65536,.cells [.np 65536 tb,.ro te y.2.1.2.1])]/\s=.p (.one<|.sc<|.string y.1.1)/\bl=[[.np 65536 tb,.ro te y.2.1.2.1]]:=by
 have i:p=(.ret,O ⟨[(r0,.one .str)],[(65536,[.np 65536 tb,.ro te])],[65536]⟩ y):=(r_ hp).symm;subst i;unfold Hs at b;have c:J [(r0,(Sv.p (.one<|.sc<|.string y.1.1):Sv G.T))] r0=C (.p<|.one<|.sc<|.string y.1.1):=by simp[J]
 have a:MX (O ⟨[(r0,.one .str)],[(65536,[.np 65536 tb,.ro te])],[65536]⟩ y:St G) [.tmp r0]=C (.p<|.one<|.sc<|.string y.1.1):=by
  unfold MX
  have:Gg (O ⟨[(r0,.one .str)],[(65536,[.np 65536 tb,.ro te])],[65536]⟩ y:St G) [.tmp r0]=C [.one<|.sc<|.string y.1.1]:=by simp only[Gg,QS,O,Jg,aJ,aI,c]
  rw[this]
 have d:Rv (J (O ⟨[(r0,.one .str)],[(65536,[.np 65536 tb,.ro te])],[65536]⟩ y:St G).hp) (Ay (stI tb te).hp)=C [[.np 65536 tb,.ro te y.2.1.2.1]]:=rfl;simp only[a,d,b6_,e1_]at b;exact⟨rfl,b.1.symm,b.2.symm⟩
def Anb{S:Nat->Prop}{h:Array Obj}{ofB:UInt8->G.T te}(hsz:G.sz te=1)(hof:∀b,G.enc te (ofB b)=[.sc<|.int .u8 b.toNat])(s:ByteArray):ERel G S h te (s.data.toList.map ofB)<|strCells s:=by
 refine⟨by rw[strCells_length,a3_,hsz,c2_];rfl,Asa s,λi j x m a c=>?_⟩;rw[X_]at a;cases d:s.data.toList[i]? with
 |none=>rw[d]at a;cases a
 |some b=>
  rw[d]at a;simp only[e8_,b6_]at a;subst a;rw[hof]at c;obtain⟨rfl,rfl⟩:j=0/\m=.sc _:=by
   cases j with
   |zero=>simp at c;exact⟨rfl,c.symm⟩
   |succ j=>simp at c
  refine⟨.int .u8 b.toNat,?_,.sc _ rfl⟩;rw[hsz,c2_,d0_];unfold strCells;rw[X_,d];rfl
section
variable{P:Program}(ok:aE P G){g tb te:Nat}(hent:Ain P g)(hty:G.ty te≠ .no)(henc:∀x,(G.enc te x).length=G.sz te)(hsz:G.sz te=1)
include ok hent hty henc hsz
theorem Bk2{r1:Nat}(hf:r0≠r1){ofB:UInt8->G.T te}(hof:∀b,G.enc te (ofB b)=[.sc<|.int .u8 b.toNat])
  (F:∀(b:Nat) (w:World) (a0 v:Value),(a0=.pointer H\/a0=.pointer (C ⟨b,0,H⟩))->w.heap[b]?=C (.cells #[a0,v] tb (0,0))->∀(n:Nat) (xs:List Value),w.ownsRow 0 te 1 v n xs->v.ownBlock≠C b->∀s:ByteArray,n+s.size<=2147483648->
   Calls P g #[.pointer<|C ⟨b,0,H⟩,.string s] w λe w'=>e=.returned (.tuple #[.int .i64 s.size,.nilIface])/\∃V,BldOut w w' b tb te (.pointer<|C ⟨b,0,H⟩) v V (n+s.size)<|xs++strCells s):Dq P G g<|Cap G r0 r1 tb te ofB:=by
 refine⟨hent,λx y p s bl hy hp ho ν S mo w vals A _ hg R=>?_⟩;obtain⟨⟨_,(sx:ByteArray),_⟩,⟨_,(l:List _),_⟩,_⟩:=x;obtain⟨h1,h2⟩:=FS hy;obtain⟨h3,rfl,rfl⟩:=Bqs hf hp ho;subst h2;rw[aK]at h1;have X:=A;obtain⟨b,a0,v,xs,e1,e2,e3,e4,e5,e6,e7,e8,e9,ht⟩:=Ao2 ok X hty henc;have s0:=R 0 _ rfl;have s1:=R 1 _ rfl;have h5:∃a c,vals=[a,c]:=by
  match vals,hg with
  |[a,c],_=>exact⟨a,c,rfl⟩
 obtain⟨vp,vs,rfl⟩:=h5;have f0:vp=.pointer (C ⟨b,0,H⟩):=by cases s0 with|p _ _ F=>cases F with|one _ _ F=>obtain⟨b',q1,q2⟩:=F;rw[e1]at q1;cases q1;exact q2
 have f1:vs=.string sx:=by cases s1 with|p _ _ F=>cases F with|one _ _ F=>cases F;rfl
 subst f0 f1;rw[hsz]at e5;have h9:mo b:=e9.resolve_right ω;refine(F b w a0 v e3 e4 l.length xs e5 (λe=>(e7 b e).2.2.2.2 rfl) sx h1).mono ?_;rintro e w' ⟨rfl,V,d⟩;have Z:∀q,v.ownBlock=C q->¬S q/\mo q:=λq hq=>by obtain⟨z1,z2,z3,_⟩:=e7 q hq;exact⟨z1,z2.resolve_right ω⟩
 have U:=λq hq=>d.rest q (A.stay q hq) (λe=>e8<|e▸hq) λe=>(Z q e.symm).1 hq;have hE:=e6.append ok<|Anb hsz hof sx;have N:∃a len B,V=.slice a len B:=by
  obtain⟨_,h|⟨g,B,h8,h,_⟩⟩:=d.row
  .exact⟨_,_,_,h.1⟩
  .exact⟨_,_,_,h⟩
 have E:Jj ν 32768 V 32768=C V:=rfl;have Q:Jj ν 32768 V 65536=C _:=e1;have hh:∀q,V.ownBlock=C q->¬S q/\(mo q\/w.heap.size<=q):=λq hq=>by
  rcases d.blk q hq with h|h
  .exact⟨(Z q h).1,.inl (Z q h).2⟩
  .exact⟨λhs=>by have:=A.stay q hs;omega,.inr h⟩
 have h4:∀q,AO V=C q->V.ownBlock=C q:=λq hq=>by
  obtain⟨a,len,B,rfl⟩:=N;cases a with
  |none=>simp[AO]at hq
  |some a=>simpa[AO,Value.ownBlock]using hq
 have W:∀q,J [(32768,(Blk.row te (l++sx.data.toList.map ofB):Blk G.T)),(65536,.cells [.np 65536 tb,.own 32768])] q≠H->q=32768\/q=65536:=λq hq=>by
  simp only[J,Bj]at hq;by_cases z:32768=q
  .exact .inl z.symm
  .rw[if_neg z]at hq;by_cases z2:65536=q
   .exact .inr z2.symm
   .rw[if_neg z2]at hq;exact absurd rfl hq
 rw[h3];refine⟨_,Jj ν 32768 V,S,rfl,?_,⟨λq k hk=>?_,λq1 q2 x y c ha hb L hy D hd=>?_,λq x c hq L D=>?_,λq hq=>c3_ (A.stay q hq) d.size,A.gl.mono (λ_ h=>h) U⟩,λ_ h=>h,λ_ h=>.inl h,λq y hn hy=>?_,d.size,λq hq he=>d.rest q hq (λe=>he<|e▸h9) λe=>he (Z q e.symm).2,d.env⟩
 .exact .tup [.one _,.one _] [.int .i64 sx.size,.nilIface]<|.cons (.one _ _<|Rd.sc _ rfl)<|.cons (.one _ _<|Rd.sc _ rfl) .nil
 .rcases W q (by rw[hk];simp)with rfl|rfl
  .have h7:C _=C k:=hk;cases h7;have h0:(l++sx.data.toList.map ofB).length=l.length+sx.size:=by rw[e_,a3_];rfl
   obtain⟨hl,h|⟨g',B,h8,k1,_,k2,k3,k4,k5,k6⟩⟩:=d.row
   .left;refine⟨by rw[E,h.1],?_⟩;exact S_ (by rw[h0];exact h.2)
   .right;rw[<-h0]at k1 k3 k6;refine⟨g',B,h8,te,by rw[E,k1],k2,k3,by rw[hsz];exact k5,λi j x cv L F=>?_,rfl,k4⟩;obtain⟨u,hu,hr⟩:=hE.2.2 i j x cv L F;have hi:=(f_.1 L).1;have hj:=ZW ok F;rw[<-k6,B_ (by rw[<-hsz];exact WV hi hj)]at hu;exact⟨u,by simpa using hu,hr.mono (λ_ h=>h) U⟩
  .have h7:C _=C k:=hk;cases h7;refine⟨b,_,tb,Q,d.cel,.cons (.inr ⟨b,Q,rfl⟩)<|.cons ?_ .nil,λm t hm=>?_⟩
   .obtain⟨a,len,B,e⟩:=N;exact⟨a,len,B,E,e⟩
   .simp at hm;exact⟨hm.1,hm.2.symm⟩
 .rcases W q1 ha with rfl|rfl<;>rcases W q2 hb with rfl|rfl
  .rfl
  .rw[E]at L;cases L;rw[Q]at hy;cases hy;exact absurd (h4 c D) (by rw[<-hd];exact d.apart)
  .rw[Q]at L;cases L;rw[E]at hy;cases hy;exact absurd (h4 c hd) (by rw[<-D];exact d.apart)
  .rfl
 .rcases W q hq with rfl|rfl
  .rw[E]at L;cases L;exact hh c<|h4 c D
  .rw[Q]at L;cases L;simp[AO]at D;subst D;exact⟨e8,.inl h9⟩
 .unfold Jj;have h6:lo=65536:=rfl;rw[if_neg ω,if_pos hn];exact hy
omit henc in
theorem Bg6(henc:∀x,(G.enc te x).length=G.sz te)
  (hc:∀(b:Nat) (w:World) (a0:Value) (g0 N:Nat) (d:Array Value) (l:List UInt8),l≠[]->w.heap[b]?=C (.cells #[a0,.slice (C ⟨g0,0,H⟩) l.length N] tb (0,0))->w.heap[g0]?=C (.cells d te (0,0))->l.length<=d.size->l.length<=N->l.length<=9223372036854775807->
   (∀(j:Nat) (x:UInt8),l[j]?=C x->d[j]?=C (Value.int .u8 x.toNat))->Calls P g #[.pointer<|C ⟨b,0,H⟩] w λe w'=>e=.returned (.string ⟨l.toArray⟩)/\w'=w.drew.freeze ⟨g0,0,H⟩ l.length):Dq P G g<|Bql G r0 tb te:=by
 refine⟨hent,λx y p s bl hy hp ho ν S mo w vals D _ hd X=>?_⟩;obtain⟨⟨_,_⟩,⟨_,(l:List _),_⟩,_⟩:=x;obtain⟨h1,h2⟩:=FS hy;obtain⟨h7,rfl,rfl⟩:=Bc2 hp ho;subst h2;rw[a_]at h1;have hf:l≠[]:=λe=>by have:=h1.1;rw[e]at this;cases this
 have U:HRel G ν S _ (J [(32768,.row te l),(65536,.cells [.np 65536 tb,.own 32768])]) w:=D;obtain⟨b,a0,v,xs,e1,e2,e3,e4,e5,e6,e7,e8,e9,hr⟩:=Ao2 ok U hty henc;have s0:=X 0 _ rfl;have h0:∃a,vals=[a]:=by
  match vals,hd with
  |[a],_=>exact⟨a,rfl⟩
 obtain⟨vp,rfl⟩:=h0;have f0:vp=.pointer (C ⟨b,0,H⟩):=by cases s0 with|p _ _ hc=>cases hc with|one _ _ hc=>obtain⟨b',V,q2⟩:=hc;rw[e1]at V;cases V;exact q2
 subst f0;rw[hsz]at e5;have h9:mo b:=e9.resolve_right ω;have h5:l.length≠0:=by simpa using hf
 obtain⟨ht,⟨_,hz⟩|⟨g0,N,d,rfl,_,k2,k3,k4,k5,k6⟩⟩:=e5
 .exact absurd hz h5
 have E:∀j (x:G.T te),l[j]?=C x->∃n:Int,G.enc te x=[.sc _]/\0<=n/\n<256/\d[j]?=C _:=λj x A=>by
  have:=F_.1 h1.2 x<|o_ A
  generalize he:G.enc te x=cs at this;unfold okB at this;split at this
  .rename_i n;simp only[a_,t_]at this;obtain⟨u,hu,hh⟩:=e6.2.2 j 0 x _ A (by rw[he];rfl);cases hh;rw[hsz,<-k6,B_ (by have:=(f_.1 A).1;omega)]at hu;exact⟨n,rfl,this.1,this.2,by simpa using hu⟩
  .simp at this
 let Q:List UInt8:=l.map λx=>Abq<|G.enc te x
 have Z:Q.length=l.length:=by simp[Q]
 have h8:∀(j:Nat) (x:UInt8),Q[j]?=C x->d[j]?=C (Value.int .u8 x.toNat):=λj x A=>by
  simp only[Q,X_]at A;cases hj:l[j]? with
  |none=>rw[hj]at A;cases A
  |some z=>
   rw[hj]at A;simp only[e8_,b6_]at A;obtain⟨n,V,q2,q3,q4⟩:=E j z hj;rw[V]at A;subst A;rw[q4]
   have:((Abq [Cv.sc (T:=G.T)<|Value.int .u8 n]).toNat:Int)=n:=by simp only[Abq,UInt8.toNat_ofNat'];omega
   rw[this]
 refine(hc b w a0 g0 N d Q (λe=>h5 (by rw[<-Z,e];rfl)) (by rw[Z];exact e4) k2 ω (by rw[Z];exact k3) (by unfold maxLen at k4;omega) h8).mono ?_;rintro e w' ⟨rfl,rfl⟩;obtain⟨z1,z2,z3,_,z5⟩:=e7 g0 rfl;have h4:mo g0:=z2.resolve_right ω;have B:∀k,k≠g0->(w.drew.freeze ⟨g0,0,H⟩ Q.length).heap[k]?=w.heap[k]?:=λk hk=>by unfold World.freeze;rw[if_neg ω];simp only[World.drew];rw[e7_,if_neg<|e4_ hk]
 have L:∃fz,(w.drew.freeze ⟨g0,0,H⟩ Q.length).heap[g0]?=C (.cells d te fz):=by unfold World.freeze;rw[if_neg ω];simp only[World.drew];rw[e7_,if_pos rfl,k2];exact⟨_,rfl⟩
 obtain⟨fz,L⟩:=L;have h3:=λq hq=>B q λe=>z1<|e▸hq;have F:(w.drew.freeze ⟨g0,0,H⟩ Q.length).heap.size=w.heap.size:=by unfold World.freeze;rw[if_neg ω];exact Array.size_modify
 have h6:(w.drew.freeze ⟨g0,0,H⟩ Q.length).os=w.os/\(w.drew.freeze ⟨g0,0,H⟩ Q.length).tape=w.tape/\(w.drew.freeze ⟨g0,0,H⟩ Q.length).output=w.output:=by unfold World.freeze;rw[if_neg ω];exact⟨rfl,rfl,rfl⟩
 rw[h7];have one:∀q,J [(65536,(Blk.cells [.np 65536 tb,.ro te l]:Blk G.T))] q≠H->q=65536:=λq hq=>by
  simp only[J,Bj]at hq;by_cases z:65536=q
  .exact z.symm
  .rw[if_neg z]at hq;exact absurd rfl hq
 refine⟨_,ν,λk=>S k\/k=g0,rfl,.p _ _<|.one _ _<|Rd.sc _ rfl,⟨λq k hk=>?_,λV q2 x y c ha hb A hy W hn=>by rw[one V ha,one q2 hb],λq x c hq A W=>?_,λq hq=>?_,D.gl.mono (λ_ h=>.inl h) h3⟩,λ_ h=>.inl h,λq hq=>?_,λq y hs hy=>hy,ω,λq hq hg=>B q (λe=>hg<|e▸h4),h6⟩
 .obtain rfl:=one q (by rw[hk];simp);have hl:C _=C k:=hk;cases hl;refine⟨b,_,tb,e1,(B b<|e4_ z5).trans e4,.cons (e3.imp (λh=>h) λh=>⟨b,e1,h⟩)<|.cons ?_ .nil,λm t hm=>?_⟩
  .refine Rd.ro te l g0 0 N d te fz (λi j=>d.getD (i*G.sz te+j) undef) (.inr rfl) L (.inl rfl) k3 (λi j hi hj=>?_) λi j x cv A R=>?_
   .have:i<d.size:=ω
    rw[hsz]at hj|-;rw[show 0+i*1+j=i by omega,show i*1+j=i by omega];simp[y_,this]
   .obtain⟨n,V,q2,q3,q4⟩:=E i x A;rw[V]at R;obtain⟨rfl,rfl⟩:j=0/\cv=.sc _:=by
     cases j with
     |zero=>simp at R;exact⟨rfl,R.symm⟩
     |succ j=>simp at R
    rw[hsz,c2_,d0_];rw[y_,q4];exact .sc _ rfl
  .simp at hm;exact⟨hm.1,hm.2.symm⟩
 .obtain rfl:=one q hq;rw[e1]at A;cases A;simp[AO]at W;subst W;exact⟨λh=>h.elim e8 (λe=>z5 e.symm),.inl h9⟩
 .rcases hq with h|rfl
  .rw[F];exact D.stay q h
  .rw[F];exact z3
 .rcases hq with h|rfl
  .exact .inl h
  .exact .inr<|.inl h4
end
end Go.Ab
namespace Go.Ab
open Go.Lib Go.RowKit
variable{α:Type}{P:Program}
def Yo(a b c:List α)(d:Nat)(h:d=a.length+b.length):(a++b++c).take d=a++b:=by subst h;rw[<-e_,d6_];rfl
def Bzz(a vs D R:List α)(p:Nat)(h:p+vs.length<=a.length):((a.take (p+vs.length)++D++R).take p++vs++(a.take (p+vs.length)++D++R).drop (p+vs.length))=a.take p++vs++(D++R):=by
 have b:(a.take<|p+vs.length).length=p+vs.length:=by rw[v_];omega
 rw[G_<|a.take<|p+vs.length,List.take_append_of_le_length ω,List.take_take,d5_ ω,List.drop_left' b]
def Bz0(a Z vs D R:List α)(p:Nat)(h:a.length=p):((((a++Z).take p++vs++(a++Z).drop (p+vs.length)).take<|p+vs.length)++D++R)=a++vs++D++R:=by rw[d6_ h,d6_ (by rw[e_,h])]
def UL{ops:Array Oper}{o:Oper}{a:Act}{w:World}{K:Act->World->Prop}{Q:Exit->Act->World->Prop}{E:Prop}
  (y:o.guard=H) (d x:Operand) (dT i:TypeId) (b:o.op=Op.call { callee:=Callee.builtin Builtin.append,args:=#[d,x],argTypes:=#[dT,i] })
  (v u:Value) (q:a.eval d=v) (A:a.eval x=u) {c:Value}{w':World}(B:(Builtin.append_ #[dT,i] o.type #[v,u]).run P w=.ok c w') (j:K (a.put o.dst c) w') :
  if Region.wanted o (yielded ops a.tmps)=aA then Oper.wp P o a w K Q else E:=by
 have m:Region.wanted o (yielded ops a.tmps)=aA:=by simp[Region.wanted,y]
 rw[if_pos m];unfold Oper.wp;simp[execOp,b,resolve,invoke,builtin,q,A,B,Result.andThen];exact j
def Bas(w:World)(t e ty:TypeId)(z:Value)(q:P.underlying t=C (.slice e))(m:∀w,(zeroValue e).run P w=.ok z w)(g o n c:Nat)(y:0<n)(a:Array Value)(te:TypeId)(zs:List Value)
  (d:zs=(Builtin.zeroCells z.cells n).toList) (j:w.heap[g]?=C (.cells a te (0,0))) (i:o+zs.length<=a.size) (h1:∀u∈zs,u.oneCell'=aA) :
  (Builtin.clear_ #[t] ty #[.slice (C ⟨g,o,H⟩) n c]).run P w=.ok (.tuple #[]) (w.setRow g (a.toList.take o++zs++a.toList.drop (o+zs.length)).toArray):=by
 have b:=run_storeCells_at P g o te zs 0 a w j (by simpa using i) h1;simp only[d0_]at b;obtain⟨n,rfl⟩:∃k,n=k+1:=⟨n-1,ω⟩
 rw[d]at b;simp[Builtin.clear_,N_ q,m,b,d]
def Anc(zc:Array Value)(h:zc.all Value.oneCell'=aA)(a:0<zc.size)(n:Nat):∀u∈(Builtin.zeroCells zc n).toList,u.oneCell'=aA:=by intro u b;simp only[Builtin.zeroCells,g4_,b3_]at b;obtain⟨q,_,rfl⟩:=b;have hq:q%zc.size<zc.size:=f9_ _ a;rw[getElem!_pos zc _ hq];rw[Array.all_eq_true]at h;exact h _ hq
end Go.Ab
namespace Go.Ab
open Go.Proofs Go.RowKit Go.Lib
set_option maxHeartbeats 4000000
set_option maxRecDepth 100000
variable{P:Program}{g o s e z k:Nat}{te:TypeInfo}{f fo:Func}
def Avo(P:Program)(g e z:Nat):Prop:=∀(w:World) (n i m:Nat) (xs vs:List Value) (a c:Value),w.ownsRow 0 e z a n xs->w.ownsRow 0 e z c m vs->(∀b,a.ownBlock=C b->c.ownBlock≠C b)->(∀u∈xs,u.oneCell'=aA)->(∀u∈vs,u.oneCell'=aA)->
 i<=n->0<m->n+m<=2147483648->Calls P g #[a,.int .i64 i,c] w λx w'=>∃d,x=.returned d/\RowOut w w' e z a d (n+m) (xs.take (i*z)++vs++xs.drop (i*z))
def Bdm(P:Program)(g e z:Nat):Prop:=∀(w:World) (n i j:Nat) (xs:List Value) (a:Value),w.ownsRow 0 e z a n xs->(∀u∈xs,u.oneCell'=aA)->i<j->j<=n->
 Calls P g #[a,.int .i64 i,.int .i64 j] w λx w'=>∃b,x=.returned b/\RowOut w w' e z a b (n-(j-i)) (xs.take (i*z)++xs.drop (j*z))
def WkR(P:Program)(g s:Nat)(f:Func)(k:Nat):Prop:=P.funcs[g]?=C f->f.ntmps=k->∀(w W:World) (b n c m vb a:Nat),0<m->n+m<=c->¬((m:Int)=0)->
 (∀ty,(Builtin.append_ #[s,s] ty #[.slice (C ⟨b,0,H⟩) n c,.slice (C ⟨vb,0,H⟩) m a]).run P w=.ok (.slice (C ⟨b,0,H⟩) (n+m) c) W)->
 Calls P g #[.slice (C ⟨b,0,H⟩) n c,.int .i64 n,.slice (C ⟨vb,0,H⟩) m a] w λe w'=>e=.returned (.slice (C ⟨b,0,H⟩) (n+m) c)/\w'=W
def WkS(P:Program)(g s o z:Nat)(f:Func)(k:Nat):Prop:=P.funcs[g]?=C f->f.ntmps=k->P.follows .mixedOrders=aA->∀(w:World) (a j:Array Value) (b n c i m vb d:Nat),i<n->0<m->n+m<=c->c<=9223372036854775807->vb≠b->¬((m:Int)=0)->¬((i:Int)=(n:Int))->
 (∀lb cb,(callFunc o #[.slice (C ⟨vb,0,H⟩) m d,.slice (C ⟨b,(i+m)*z,H⟩) lb cb]).run P w=.ok (.value<|.bool aD) w)->
 IntKind.i64.wrap ((i:Int)+(m:Int))=(i:Int)+(m:Int)->(0:Int)<=(i:Int)+(m:Int)->i<=n->((i:Int)+(m:Int)).toNat=i+m->¬(c=i+m)->(i:Int)<=(n:Int)+(m:Int)->¬(c=i)->
 (∀ty dc sc,(Builtin.copy_ #[s,s] ty #[.slice (C ⟨b,(i+m)*z,H⟩) (n+m-(i+m)) dc,.slice (C ⟨b,i*z,H⟩) (n+m-i) sc]).run P w.drew=.ok (goInt<|aG (n+m-i)<|n+m-(i+m)) (w.drew.setRow b a))->
 (∀(W:World),W.heap=(w.drew.setRow b a).heap->∀ty dc,(Builtin.copy_ #[s,s] ty #[.slice (C ⟨b,i*z,H⟩) (n+m-i) dc,.slice (C ⟨vb,0,H⟩) m d]).run P W=.ok (goInt<|aG m<|n+m-i) (W.setRow b j))->
 Calls P g #[.slice (C ⟨b,0,H⟩) n c,.int .i64 i,.slice (C ⟨vb,0,H⟩) m d] w λe w'=>e=.returned (.slice (C ⟨b,0,H⟩) (n+m) c)/\w'=(w.drew.setRow b a).setRow b j
def WkE(P:Program)(g s:Nat)(f:Func)(k:Nat):Prop:=P.funcs[g]?=C f->f.ntmps=k->∀(w W:World) (V:Value) (base:Option Addr) (n c m vb a:Nat),0<m->n<=c->c<n+m->n+m<=2147483648->(base=H->n=0/\c=0)->¬((m:Int)=0)->
 (∀ty,(Builtin.append_ #[s,s] ty #[.slice base n c,.slice (C ⟨vb,0,H⟩) m a]).run P w=.ok V W)->Calls P g #[.slice base n c,.int .i64 n,.slice (C ⟨vb,0,H⟩) m a] w λe w'=>e=.returned V/\w'=W
def WkG(P:Program)(g s t e z:Nat)(f:Func)(k:Nat):Prop:=P.funcs[g]?=C f->f.ntmps=k->P.follows .mixedOrders=aA->∀(w:World) (R d j:Array Value) (b n c i m vb q a:Nat),i<n->0<m->n<=c->c<n+m->c<=9223372036854775807->n+m<=2147483648->vb<w.heap.size->b<w.heap.size->¬((m:Int)=0)->¬((i:Int)=(n:Int))->(c:Int)<(n:Int)+(m:Int)->
 (∀ty,(Builtin.append_ #[s,t] ty #[.slice (C ⟨b,0,H⟩) i c,.int .i64<|(n:Int)+(m:Int)-(i:Int)]).run P w=.ok (.slice (C ⟨w.heap.size,0,H⟩) (n+m) a) (w.drew.alloc<|.cells R e))->
 n+m<=a->a<=9223372036854775807->
 (∀ty dc,(Builtin.copy_ #[s,s] ty #[.slice (C ⟨w.heap.size,i*z,H⟩) (n+m-i) dc,.slice (C ⟨vb,0,H⟩) m q]).run P (w.alloc<|.cells R e).drew=.ok (goInt<|aG m<|n+m-i) ((w.alloc<|.cells R e).drew.setRow w.heap.size d))->
 (∀ty dc sc,(Builtin.copy_ #[s,s] ty #[.slice (C ⟨w.heap.size,(i+m)*z,H⟩) (n+m-(i+m)) dc,.slice (C ⟨b,i*z,H⟩) (n-i) sc]).run P ((w.alloc<|.cells R e).drew.setRow w.heap.size d).drew=.ok (goInt<|aG (n-i)<|n+m-(i+m)) (((w.alloc<|.cells R e).drew.setRow w.heap.size d).drew.setRow w.heap.size j))->
 ¬(a=i)->¬(a=i+m)->¬(c=i)->IntKind.i64.wrap ((i:Int)+(m:Int))=(i:Int)+(m:Int)->(0:Int)<=(i:Int)+(m:Int)->i<=n->((i:Int)+(m:Int)).toNat=i+m->(i:Int)<=(n:Int)->
 Calls P g #[.slice (C ⟨b,0,H⟩) n c,.int .i64 i,.slice (C ⟨vb,0,H⟩) m q] w λx w'=>x=.returned (.slice (C ⟨w.heap.size,0,H⟩) (n+m) a)/\w'=(((w.alloc<|.cells R e).drew.setRow w.heap.size d).drew).setRow w.heap.size j
def Abj{w:World}{b q:Nat}{a:Array Value}{e n:Nat}{xs:List Value}(i:w.heap[b]?=C (.cells a e (0,0)))(d:a.toList.take n=xs){v:Value}(h:xs[q]?=C v):w.cell? ⟨b,q,H⟩=C v:=by
 rw[<-d]at h;have c:q<n:=by
  have:=(f_.1 h).1
  simp at this;omega
 rw[B_ c]at h;rw[d8_ w b _ a e (0,0) i];simpa using h
def Aav(z:Nat){a b c:Nat}(h:c=a+b):c*z=a*z+b*z:=by rw[h,a5_]
def Bz2{n m i:Nat}(h:i<n):aG (n+m-i) (n+m-(i+m))=n-i:=by simp only[Nat.min_def];split<;>omega
def min2{n m i:Nat}(h:i<n):aG m (n+m-i)=m:=by simp only[Nat.min_def];split<;>omega
def Bz3{n m i:Nat}(h:i<n):aG (n-i) (n+m-(i+m))=n-i:=by simp only[Nat.min_def];split<;>omega
def Xm(z:Array Value)(n:Nat):(Builtin.zeroCells z n).size=n*z.size:=by simp[Builtin.zeroCells]
def Ajq(U:P.underlying s=some (.slice e)){t:Nat}(I:P.underlying t=some (.int .i64))(T:P.info? e=some te)(Z:te.size=z)(B:te.bytes<=4096)(z0:0<z)(X:∃zv,te.zero=some zv/\zv.cells.size=z)
  {bt : Nat} (Fo : P.funcs[o]? = some fo) (o1 : (fo.name == "runtime.NumGoroutine") = false) (o2 : fo.body.isNone = true) (o3 : Extern.findNext fo = none) (o4 : Extern.find fo = some (Extern.SlicesOverlaps.overlaps #[s, s] #[bt])) (Sz : ∀ w, (sizeOf e).run P w = .ok z w)
  (F:P.funcs[g]?=some f) (N:f.ntmps=k) (mixed:P.follows .mixedOrders=true)
  (w1:WkR P g s f k:=by
   intro F N w W b n c m vb vc hm y h1 hr
   go_enter F,N
   go_wp2_with (at_builtin;refine Lib.wpList_append_run _ rfl _ _ _ _ rfl _ _ rfl rfl _ _ (hr _) ?_)
   go_ret
   exact⟨rfl,rfl⟩)
  (w2:WkS P g s o z f k:=by
   intro F N mixed w A1 A2 b n c i m vb vc hi hm y xb y2 h1 hn xo hh ho hin hl xw xf xx xa x5
   try simp only[c2_]at*
   go_enter F,N
   go_wp2_with (simp only[xo])
   go_region_law_o (refine step_copy_runI rfl _ _ _ _ rfl _ _ (by simp[Act.eval,Act.put]) (by simp[Act.eval,Act.put]) (xa _ _ _) ?_)
   go_wp2_with (at_builtin;refine wpList_copy_runI _ rfl _ _ _ _ rfl _ _ rfl rfl (x5 _ rfl _ _) ?_)
   go_ret
   exact⟨rfl,rfl⟩)
  (w3:WkE P g s f k:=by
   intro F N w W V base n c m vb vc hm h6 y h8 h9 h1 hr
   go_enter F,N
   go_wp2_with (at_builtin;refine Lib.wpList_append_run _ rfl _ _ _ _ rfl _ _ rfl rfl _ _ (hr _) ?_)
   all_goals(go_ret;exact⟨rfl,rfl⟩))
  (w4:WkG P g s t e z f k:=by
   intro F N mixed w R A1 A2 b n c i m vb vc Gc hi hm h6 y xb h8 hf hy h1 hn y0 xk y1 hs x6 x2 xv xr y3 hh ho hin hl xf
   try simp only[c2_]at*
   go_enter F,N
   go_wp2_with (first
    |(at_builtin;refine Lib.wpList_append_run _ rfl _ _ _ _ rfl _ _ rfl rfl _ _ (xk _) ?_)
    |rw[x6])
   go_region_law_o (refine step_copy_runI rfl _ _ _ _ rfl _ _ (by simp[Act.eval,Act.put]) (by simp[Act.eval,Act.put]) (x2 _ (Gc-(i+m))<|c-i) ?_)
   go_wp2
   go_ret
   exact⟨rfl,rfl⟩)
  :Avo P g e z:=by
 intro w n i m xs vs vS vV q1 q2 xn xl hu hi hm h8;subst Z;obtain⟨zv,hz,x8⟩:=X;have h7:(n+m)*te.bytes<=140737488355328:=by
  have:(n+m)*te.bytes<=2147483648*4096:=Nat.mul_le_mul h8 B
  omega
 obtain⟨d,⟨_,h0⟩|⟨vb,vc,x7,rfl,_,hd,y4,xy,xq,xj⟩⟩:=q2
 .omega
 have hf:vb<w.heap.size:=(I_.1 hd).1;have hw:∀j v,vs[j]?=some v->w.cell? ⟨vb,j,none⟩=some v:=λj v D=>Abj hd xj D;have hc:∀j v,vs[j]?=some v->w.cell? (Addr.add ⟨vb,0,none⟩ j)=some v:=λj v D=>by rw[Addr.add_lit,m_];exact hw j v D
 have h1:¬((m:Int)=0):=ω;have m1:=Aav te.size (c:=n+m) rfl;have m2:=Aav te.size (c:=i+m) rfl;have m3:=Aav te.size (ω:n=i+(n-i));have hG:=λc=>grownCap_ge w (n+m) c e;have mG:∀c,grownCap w (n+m) c e*te.size=(n+m)*te.size+(grownCap w (n+m) c e-(n+m))*te.size:=λc=>Aav _ (by have:=hG c;omega);have JD:∀(c:Nat) (A:Array Value) (W:World),W.heap.size=w.heap.size+1->W.heap[w.heap.size]?=some (.cells A e (0,0))->(∀k,k<w.heap.size->W.heap[k]?=w.heap[k]?)->W.os=w.os->W.tape=w.tape->W.output=w.output->
   A.size=grownCap w (n+m) c e*te.size->A.toList.take ((n+m)*te.size)=xs.take (i*te.size)++vs++xs.drop (i*te.size)->xs.length=n*te.size->RowOut w W e te.size vS (.slice (some ⟨w.heap.size,0,none⟩) (n+m)<|grownCap w (n+m) c e) (n+m) (xs.take (i*te.size)++vs++xs.drop (i*te.size)):=λc A W w1 w2 w3 w4 w5 w6 hA hT q=>
  ⟨⟨by simp only[e_,v_,Y_,q,d];omega,.inr ⟨w.heap.size,_,A,rfl,Q_ _,w2,hG c,grownCap_le_maxLen w _ _ _ (by unfold maxLen;omega),hA,hT⟩⟩,λb hb=>.inr (by simp[Value.ownBlock]at hb;omega),⟨w4,w5,w6,ω,λk hk _=>w3 k hk⟩⟩
 have u:∀(A:Array Value),(w.drew.alloc<|.cells A e).heap.size=w.heap.size+1/\(w.drew.alloc<|.cells A e).heap[w.heap.size]?=some (.cells A e (0,0))/\(∀k,k<w.heap.size->(w.drew.alloc<|.cells A e).heap[k]?=w.heap[k]?):=λA=>by
  refine⟨(show(w.heap.push _).size=_ by rw[Array.size_push]),?_,λk hk=>?_⟩
  .show(w.heap.push _)[w.heap.size]?=_;rw[Array.getElem?_push,if_pos rfl]
  .show(w.heap.push _)[k]?=_;rw[Array.getElem?_push_lt hk,b5_ hk]
 have hp:∀(base:Option Addr) (c:Nat),vS=.slice base n c->i=n->n<=c->c<n+m->(base=none->n=0/\c=0)->xs.length=n*te.size->(∀a,base=some a->∀j v,xs[j]?=some v->w.cell? (a.add j)=some v)->Calls P g #[vS,.int .i64 i,.slice (some ⟨vb,0,none⟩) m vc] w λx w'=>∃v',x=.returned v'/\RowOut w w' e te.size vS v' (n+m) (xs.take (i*te.size)++vs++xs.drop (i*te.size)):=by
  rintro base c rfl rfl h6 y h9 q xg;have hr:∀ty,(Builtin.append_ #[s,s] ty #[.slice base i c,.slice (some ⟨vb,0,none⟩) m vc]).run P w=.ok (.slice (some ⟨w.heap.size,0,none⟩) (i+m)<|grownCap w (i+m) c e) (w.drew.alloc<|.cells ((xs++vs).toArray++Builtin.zeroCells zv.cells (grownCap w (i+m) c e-(i+m))) e):=λty=>by
   cases base with
   |none=>
    obtain⟨rfl,rfl⟩:=h9 rfl;have xe:xs=[]:=S_ ω;subst xe
    have:=run_append_nil w s ty e te zv U T hz ⟨vb,0,none⟩ m vc vs d hc hm ω (by rw[m_]at h7;omega)
    simpa using this
   |some a=>rw[run_append_grow w s ty e te zv U T hz a i c xs q (xg a rfl) ⟨vb,0,none⟩ m vc vs d hc y ω<|growslice_fits y h7];congr 3;simp
  refine(w3 F N w _ _ base i c m vb vc hm h6 y h8 h9 h1 hr).mono ?_;rintro x w' ⟨rfl,rfl⟩;obtain⟨p1,p2,p3⟩:=u<|(xs++vs).toArray++Builtin.zeroCells zv.cells (grownCap w (i+m) c e-(i+m));refine⟨_,rfl,JD c _ _ p1 p2 p3 rfl rfl rfl ?_ ?_ q⟩
  .have:=mG c
   simp only[Array.size_append,List.size_toArray,e_,q,d,Xm,x8];omega
  .rw[a8_ (l:=xs) ω,List.drop_of_length_le (l:=xs) ω,T_,Array.toList_append,c8_];exact Yo _ _ _ _ (by rw[q,d];omega)
 obtain⟨q,⟨rfl,rfl⟩|⟨b,c,h2,rfl,_,hg,h6,x4,he,x0⟩⟩:=q1
 .exact hp none 0 rfl ω (q_ _) ω (λ_=>⟨rfl,rfl⟩) q (λa h=>by cases h)
 have hx:vb≠b:=λh=>xn b rfl (by rw[h];rfl);have E:∀j v,xs[j]?=some v->w.cell? ⟨b,j,none⟩=some v:=λj v D=>Abj hg x0 D;have ht:c<=9223372036854775807:=by unfold maxLen at x4;omega
 have hy:b<w.heap.size:=(I_.1 hg).1;have L:∀(A:Array Value) (W:World),W.heap.size=w.heap.size->W.heap[b]?=some (.cells A e (0,0))->(∀k,k≠b->W.heap[k]?=w.heap[k]?)->W.os=w.os->W.tape=w.tape->W.output=w.output->n+m<=c->
   A.size=c*te.size->A.toList.take ((n+m)*te.size)=xs.take (i*te.size)++vs++xs.drop (i*te.size)->RowOut w W e te.size (.slice (some ⟨b,0,none⟩) n c) (.slice (some ⟨b,0,none⟩) (n+m) c) (n+m) (xs.take (i*te.size)++vs++xs.drop (i*te.size)):=λA W w1 w2 w3 w4 w5 w6 hr hA hT=>
  ⟨⟨by simp only[e_,v_,Y_,q,d];omega,.inr ⟨b,c,A,rfl,Q_ _,w2,hr,x4,hA,hT⟩⟩,λb' xc=>.inl xc,⟨w4,w5,w6,ω,λk hk xm=>w3 k (λe=>xm (by rw[e];rfl))⟩⟩
 by_cases hin:i=n
 .by_cases hr:n+m<=c
  .subst hin;have xp:=K_ te.size hr;refine(w1 F N w _ b i c m vb vc hm hr h1 λty=>run_append_room w s ty e te U T b i c h2 hg ⟨vb,0,none⟩ m vc vs d hc hu hr (by rw[d,he];omega)).mono ?_;rintro x w' ⟨rfl,rfl⟩;refine⟨_,rfl,L _ _ rowSize (rowHeap hg) (λk hk=>rowOther hk) rfl rfl rfl hr ?_ ?_⟩
   .simp only[List.size_toArray,e_,v_,Y_,Array.length_toList,Array.size_append,he,d];omega
   .rw[a8_ (l:=xs) ω,List.drop_of_length_le (l:=xs) ω,T_,x0];exact Yo _ _ _ _ (by rw[q,d];omega)
  .exact hp (some ⟨b,0,none⟩) c rfl hin h6 ω (λh=>by cases h) q (λa ha j v D=>by cases ha;rw[Addr.add_lit,m_];exact E j v D)
 have h5:i<n:=ω;have h4:(xs.drop<|i*te.size).length=(n-i)*te.size:=by rw[Y_,q,Nat.sub_mul]
 have hn:¬((i:Int)=(n:Int)):=ω;have hh:IntKind.i64.wrap ((i:Int)+(m:Int))=(i:Int)+(m:Int):=by rw[IntKind.wrap_i64];omega
 have ho:(0:Int)<=(i:Int)+(m:Int):=ω;have hl:((i:Int)+(m:Int)).toNat=i+m:=ω;have x9:∀v∈xs.drop (i*te.size),v.oneCell'=true:=λv hv=>xl v<|f1_ hv;by_cases hr:n+m<=c
 .have xp:=K_ te.size hr;have xz:=Nat.mul_pos (ω:0<c) z0;obtain⟨A1,h3⟩:∃A,A=(h2.toList.take ((i+m)*te.size)++xs.drop (i*te.size)++h2.toList.drop ((i+m)*te.size+(xs.drop<|i*te.size).length)).toArray:=⟨_,rfl⟩;have Q:A1.size=c*te.size:=by rw[h3];simp only[List.size_toArray,e_,v_,Y_,Array.length_toList,Array.size_append,h4,he];omega
  refine(w2 F N mixed w A1 (A1.toList.take (i*te.size)++vs++A1.toList.drop (i*te.size+vs.length)).toArray b n c i m vb vc h5 hm hr ht hx h1 hn
   (λlb cb=>by rw[run_callFunc_extern Fo o1 o2 o3 o4,Lib.run_overlaps_apart w s bt e U te.size Sz ⟨vb,0,none⟩ ⟨b,(i+m)*te.size,none⟩ m vc lb cb hx e e x7.size h2.size (by simp[World.shape?,hd]) (by simp[World.shape?,hg]) ω (by simp[World.frozen?,hd]) (by simp[World.frozen?,hd])];rfl)
   hh ho hi hl ω ω ω
   (λty dc sc=>by rw[h3];refine XJ w.drew s s ty e te b ((i+m)*te.size) (n+m-(i+m)) dc ⟨b,i*te.size,none⟩ (n+m-i) sc h2 e (xs.drop<|i*te.size) U T hg (by rw[h4,Bz2 h5]) (λj v D=>?_) (by rw[h4,he];omega) x9;rw[Addr.add_lit];rw[c4_]at D;exact E _ v D)
   (λW hW ty dc=>by
    refine XJ W s s ty e te b (i*te.size) (n+m-i) dc ⟨vb,0,none⟩ m vc A1 e vs U T (by rw[hW];exact rowHeap hg) (by rw[d,min2 h5]) (λj v D=>?_) (by rw[d,Q];omega) hu;rw[Addr.add_lit,m_]
    have:=hw j v D
    unfold World.cell? at this|-;rw[hW,rowOther (w:=w.drew) hx];exact this)).mono ?_
  rintro x w' ⟨rfl,rfl⟩;refine⟨_,rfl,L _ _ (by rw[rowSize,rowSize];rfl) (rowHeap<|rowHeap (w:=w.drew) hg) (λk hk=>by rw[rowOther hk,rowOther hk];rfl) rfl rfl rfl hr ?_ ?_⟩
  .simp only[List.size_toArray,e_,v_,Y_,Array.length_toList,Array.size_append,Q,d];omega
  .rw[h3,show(i+m)*te.size=i*te.size+vs.length by rw[d,a5_],c8_,c8_,Bzz _ _ _ _ _ (by show i*te.size+vs.length<=h2.size;rw[d,he];omega),<-G_];rw[show h2.toList.take (i*te.size)=xs.take (i*te.size)by rw[<-x0,List.take_take,d5_ ω]];exact Yo _ _ _ _ (by simp only[e_,v_,Y_,q,d];omega)
 have xd:=hG c;have mg:=mG c;have hs:grownCap w (n+m) c e<=9223372036854775807:=by
  have:=grownCap_le_maxLen w (n+m) c e (by unfold maxLen;omega)
  unfold maxLen at this;omega
 obtain⟨R,hR⟩:∃R,R=(xs.take<|i*te.size).toArray++Builtin.zeroCells zv.cells (n+m-i)++Builtin.zeroCells zv.cells (grownCap w (n+m) c e-(n+m)):=⟨_,rfl⟩;have m5:=Aav te.size (ω:n+m=i+(n+m-i));have x1:R.size=grownCap w (n+m) c e*te.size:=by rw[hR];simp only[Array.size_append,List.size_toArray,v_,q,Xm,x8];omega
 obtain⟨A1,h3⟩:∃A,A=(R.toList.take (i*te.size)++vs++R.toList.drop (i*te.size+vs.length)).toArray:=⟨_,rfl⟩;have Q:A1.size=grownCap w (n+m) c e*te.size:=by rw[h3];simp only[List.size_toArray,e_,v_,Y_,Array.length_toList,Array.size_append,d,x1];omega
 have hN:(w.alloc<|.cells R e).heap[w.heap.size]?=some (.cells R e (0,0)):=(u R).2.1;have hO:∀k,k<w.heap.size->(w.alloc<|.cells R e).heap[k]?=w.heap[k]?:=(u R).2.2;have x3:i+(n+m-i)=n+m:=ω;refine(w4 F N mixed w R A1 (A1.toList.take ((i+m)*te.size)++xs.drop (i*te.size)++A1.toList.drop ((i+m)*te.size+(xs.drop<|i*te.size).length)).toArray b n c i m vb vc (grownCap w (n+m) c e) h5 hm h6 ω ht h8 hf hy h1 hn ω
  (λty=>by
   have xi:(n+m-i)*te.bytes<=281474976710656:=by
    have:(n+m-i)*te.bytes<=(n+m)*te.bytes:=K_ _ ω
    omega
   have h:=Lib.run_append_grow_zeros w s t ty e te zv .i64 .i64 U I T hz (some ⟨b,0,none⟩) i c (xs.take<|i*te.size) (run_firstCells_some w.drew te.size i ⟨b,0,none⟩ i c (xs.take<|i*te.size) (by rw[v_,q];omega) (λj v D=>by
    rw[Addr.add_lit,m_];rw[List.getElem?_take]at D;split at D
    .exact E j v D
    .cases D)) (n+m-i) ω z0 ω ω xi (by rw[x3];exact growslice_fits ω h7)
   rw[x3]at h;rw[show(n:Int)+(m:Int)-(i:Int)=((n+m-i:Nat):Int)by omega,hR];exact h)
  xd hs
  (λty dc=>by
   rw[h3];refine XJ _ s s ty e te w.heap.size (i*te.size) (n+m-i) dc ⟨vb,0,none⟩ m vc R e vs U T hN (by rw[d,min2 h5]) (λj v D=>?_) (by rw[d,x1];omega) hu;rw[Addr.add_lit,m_]
   have:=hw j v D
   unfold World.cell? at this|-;rw[show(w.alloc<|.cells R e).drew.heap[vb]?=w.heap[vb]? from hO vb hf];exact this)
  (λty dc sc=>by
   refine XJ _ s s ty e te w.heap.size ((i+m)*te.size) (n+m-(i+m)) dc ⟨b,i*te.size,none⟩ (n-i) sc A1 e (xs.drop<|i*te.size) U T (rowHeap (w:=(w.alloc<|.cells R e).drew) hN) (by rw[h4,Bz3 h5]) (λj v D=>?_) (by rw[h4,Q];omega) x9;rw[Addr.add_lit];rw[c4_]at D
   have:=E _ v D
   unfold World.cell? at this|-;rw[show(((w.alloc<|.cells R e).drew.setRow w.heap.size A1).drew).heap[b]?=w.heap[b]? from(rowOther (w:=(w.alloc<|.cells R e).drew) (ω:b≠w.heap.size)).trans<|hO b hy];exact this)
  ω ω ω hh ho hi hl ω).mono ?_
 rintro x w' ⟨rfl,rfl⟩;refine⟨_,rfl,JD c _ _ (by rw[rowSize];show(World.setRow _ _ _).heap.size=_;rw[rowSize];exact(u _).1) (rowHeap (w:=(World.setRow _ _ _).drew)<|rowHeap (w:=(w.alloc _).drew) (u _).2.1) (λk hk=>by rw[rowOther ω];show(World.setRow _ _ _).heap[k]?=_;rw[rowOther ω];exact(u _).2.2 k hk) rfl rfl rfl ?_ ?_ q⟩
 .simp only[List.size_toArray,e_,v_,Y_,Array.length_toList,Array.size_append,Q,h4];omega
 .rw[h3,hR,show(i+m)*te.size=i*te.size+vs.length by rw[d,a5_],c8_,c8_,Array.toList_append,Array.toList_append,c8_,G_ (xs.take<|i*te.size) (Builtin.zeroCells zv.cells<|n+m-i).toList];rw[Bz0 (xs.take<|i*te.size) _ vs (xs.drop<|i*te.size) _ (i*te.size) (by rw[v_,q];omega)];exact Yo _ _ _ _ (by simp only[e_,v_,Y_,q,d];omega)
def WkD(P:Program)(g s z:Nat)(f:Func)(k:Nat):Prop:=P.funcs[g]?=C f->f.ntmps=k->P.follows .mixedOrders=aA->∀(w a:World) (d:Array Value) (b n c i j:Nat),i<j->j<=n->n<=c->c<=9223372036854775807->
 (∀ty (m:Addr) sc,m=⟨b,j*z,H⟩\/n=j->(Builtin.append_ #[s,s] ty #[.slice (C ⟨b,0,H⟩) i c,.slice (C m) (n-j) sc]).run P w.drew=.ok (.slice (C ⟨b,0,H⟩) (i+(n-j)) c) a)->
 (∀ty,(Builtin.clear_ #[s] ty #[.slice (C ⟨b,(i+(n-j))*z,H⟩) (n-(i+(n-j)))<|c-(i+(n-j))]).run P a=.ok (.tuple #[]) (a.setRow b d))->
 i<=c->j<=c->¬((i:Int)=(j:Int))->(i:Int)<=(j:Int)->
 Calls P g #[.slice (C ⟨b,0,H⟩) n c,.int .i64 i,.int .i64 j] w λe w'=>e=.returned (.slice (C ⟨b,0,H⟩) (i+(n-j)) c)/\w'=a.setRow b d
def Auj(U:P.underlying s=some (.slice e))(T:P.info? e=some te)(Z:te.size=z)(z0:0<z)(X:∃Q,(∀w,(zeroValue e).run P w=.ok Q w)/\Q.cells.size=z/\Q.cells.all Value.oneCell'=true)
  (F:P.funcs[g]?=some f) (N:f.ntmps=k) (mixed:P.follows .mixedOrders=true)
  (w1:WkD P g s z f k:=by
   intro F N mixed w W1 A2 b n c i j h2 hj W hf B h9 hh hi h0 hl;by_cases hc:c=j
   .subst hc;obtain rfl:n=c:=ω;have a:=λty=>B ty ⟨b,0,none⟩ 0<|.inr rfl;clear B;simp only[Nat.sub_self,d0_]at a h9|-
    try simp only[c2_]at*
    go_enter F,N
    go_wp2_with fail
    go_region_law_o (refine UL rfl _ _ _ _ rfl (.slice (some ⟨b,0,none⟩) i n) (.slice (some ⟨b,0,none⟩) 0 0) (by simp[Act.eval,Act.put]) (by simp[Act.eval,Act.put]) (a _) ?_)
    go_wp2
    go_ret
    exact⟨rfl,rfl⟩
   have a:=λty sc=>B ty _ sc<|.inl rfl;clear B
   try simp only[c2_]at*
   go_enter F,N
   go_wp2_with fail
   go_region_law_o (refine UL rfl _ _ _ _ rfl _ _ (by simp[Act.eval,Act.put]) (by simp[Act.eval,Act.put]) (a _<|c-j) ?_)
   go_wp2
   go_ret
   exact⟨rfl,rfl⟩)
  :Bdm P g e z:=by
 intro w n i j xs vS q1 hd h2 hj;subst Z;obtain⟨Q,he,h5,hz⟩:=X;have ha:=Anc _ hz (by rw[h5];exact z0)<|j-i;obtain⟨D,⟨rfl,rfl⟩|⟨b,c,y,rfl,_,hg,W,h1,h3,h8⟩⟩:=q1
 .omega
 have h7:c<=9223372036854775807:=by unfold maxLen at h1;omega
 have h6:(Builtin.zeroCells Q.cells<|j-i).toList.length=(j-i)*te.size:=by simp[Builtin.zeroCells,h5]
 have d:(xs.drop<|j*te.size).length=(n-j)*te.size:=by rw[Y_,D,Nat.sub_mul]
 have hn:n-(j-i)=i+(n-j):=ω;have m1:=Aav te.size (ω:n=j+(n-j));have m2:=Aav te.size (ω:j=i+(j-i));have m3:=Aav te.size (c:=i+(n-j)) rfl;have hm:=K_ te.size W;obtain⟨A1,R⟩:∃A,A=(y.toList.take (i*te.size)++xs.drop (j*te.size)++y.toList.drop (i*te.size+(xs.drop<|j*te.size).length)).toArray:=⟨_,rfl⟩;have L:A1.size=c*te.size:=by rw[R];simp only[List.size_toArray,e_,v_,Y_,Array.length_toList,D,h3];omega
 refine(w1 F N mixed w (w.drew.setRow b A1) (A1.toList.take ((i+(n-j))*te.size)++(Builtin.zeroCells Q.cells<|j-i).toList++A1.toList.drop ((i+(n-j))*te.size+(Builtin.zeroCells Q.cells<|j-i).toList.length)).toArray b n c i j h2 hj W h7
  (λty ad sc V=>by
   rw[R];refine run_append_room w.drew s ty e te U T b i c y hg ad (n-j) sc (xs.drop<|j*te.size) d (λq u hq=>?_) (λv hv=>hd v<|f1_ hv) ω (by rw[d,h3];omega);rcases V with rfl|V
   .rw[Addr.add_lit];rw[c4_]at hq;exact Abj (w:=w) hg h8 hq
   .have:=(f_.1 hq).1
    rw[d,V,Nat.sub_self]at this;omega)
  (λty=>by rw[show n-(i+(n-j))=j-i by omega];exact Bas _ s e ty Q U he b _ (j-i) _ ω A1 e _ rfl (rowHeap (w:=w.drew) hg) (by rw[h6,L];omega) ha)
  ω ω ω ω).mono ?_
 rintro x w' ⟨rfl,rfl⟩;rw[hn];refine⟨_,rfl,⟨by simp only[e_,v_,d,D];omega,.inr ⟨b,c,_,rfl,Q_ _,rowHeap<|rowHeap (w:=w.drew) hg,ω,h1,?_,?_⟩⟩,λb' hb=>.inl hb,⟨rfl,rfl,rfl,by rw[rowSize,rowSize];exact q_ _,λk hk h0=>by have h4:k≠b:=λe=>h0 (by rw[e];rfl);rw[rowOther h4,rowOther h4];rfl⟩⟩
 .simp only[List.size_toArray,e_,v_,Y_,Array.length_toList,L,h6];omega
 .have e1:y.toList.take (i*te.size)=xs.take (i*te.size):=by rw[<-h8,List.take_take,d5_ ω]
  have E:(xs.take (i*te.size)++xs.drop (j*te.size)).length=(i+(n-j))*te.size:=by rw[e_,d,v_,D];omega
  have m:=E;rw[e_]at m;rw[R,c8_,c8_,e1,G_<|List.take _ _];rw[List.take_append_of_le_length (by simp only[v_,e_]at m|-;omega),List.take_take,Nat.min_self,d6_ E]
def PN(P:Program)(g e z:Nat)(te:TypeInfo):Prop:=∀(w:World) (b:Addr) (n c:Nat) (news:List Value),news.length=n*z->n<=maxLen->n*te.bytes<=140737488355328->(∀j u,news[j]?=C u->w.cell? (b.add j)=C u)->(∀u∈news,u.oneCell'=aA)->
 Calls P g #[.slice (C b) n c] w λx w'=>∃a,x=.returned a/\w'.ownsRow w.heap.size e z a n news/\a≠ .slice H 0 0/\RowKit.Below w.heap.size w w'
def PO(P:Program)(g:Nat):Prop:=∀(w:World) (n c:Nat),Calls P g #[.slice H n c] w λx w'=>x=.returned (.slice H 0 0)/\w'=w
def Uf(U:P.underlying s=some (.slice e))(T:P.info? e=some te)(Z:te.size=z)(z0:0<z){y:Value}(X:te.zero=some y)(d:y.cells.size=z)
  (F:P.funcs[g]?=some f) (N:f.ntmps=k) (mixed:P.follows .mixedOrders=true)
  (Q:P.underlying s=some (.slice e)->P.info? e=some te->te.size=z->te.zero=some y->y.cells.size=z->P.funcs[g]?=some f->f.ntmps=k->P.follows .mixedOrders=true->PN P g e z te:=by
   intro B T Z D d F N mixed w E n c news V hn q L h1;have qu:=λ(w:World) (a:Option Addr) (n c W c':Nat)=>Lib.run_eql_slice_nil w _ _ a n c W c' B;have uu:=λw=>N_ B w;have A:Aside (∀j u,news[j]?=some u->w.cell? (E.add j)=some u):=L;clear L
   go_enter F,N
   go_wp2_with (at_builtin;refine wpList_append_own _ rfl _ _ _ rfl w.heap.size _ _ _ _ _ B T D Z rfl d τ _ _ _ rfl (World.ownsRow_made w #[] 0 (q_ _) (Q_ _) σ) E n c news rfl ?qc1 ?qc2 ?qc3 ?qc4 ?qc5 ?qc6 ?_)
   case qc1=>exact V
   case qc2=>intro j u hj;exact Lib.cell?_alloc_some _<|A.out j u hj
   case qc3=>exact h1
   case qc4=>rw[m_];exact hn
   case qc5=>rw[m_];exact q
   case qc6=>simp
   intro v' Q m b i
   go_wp2
   go_ret
   refine⟨v',rfl,by simpa using m,?_,?_⟩
   .exact i
   .exact((Below.refl _ w).alloc (q_ _) _).grown b σ (by intro k R;simp[Value.ownBlock]at R;omega))
  :PN P g e z te:=Q U T Z X d F N mixed
def Ue(U:P.underlying s=some (.slice e))(F:P.funcs[g]?=some f)(N:f.ntmps=k)
  (j:P.underlying s=some (.slice e)->P.funcs[g]?=some f->f.ntmps=k->PO P g:=by
   intro i F N w n c;have m:=λ(w:World) (a:Option Addr) (n c b d:Nat)=>Lib.run_eql_slice_nil w _ _ a n c b d i
   go_enter F,N
   go_wp2
   go_ret
   exact⟨rfl,rfl⟩)
  :PO P g:=j U F N
end Go.Ab
namespace Go.Ab
open Go.RowKit
variable{G:Y}
variable{w:World}{n:Nat}
def GlAt(G:Y)(n:Nat)(w:World):Prop:=∃S:Nat->Prop,GlOK G S w.heap/\∀b,S b->b<n
def GlAt.below{w':World}(h:GlAt G n w)(d:Below n w w'):GlAt G n w':=by obtain⟨S,h1,a⟩:=h;exact⟨S,h1.mono (λ_ h=>h) λb c=>d.block b<|a b c,a⟩
def GlAt.le{m:Nat}(h:GlAt G n w)(c:n<=m):GlAt G m w:=by obtain⟨S,h1,d⟩:=h;exact⟨S,h1,λb a=>c3_ (d b a) c⟩
def Bsb(r:Nat):List<|Ex×aB:=[(.ret,⟨[(r,.one .bool)],[],[]⟩)]
def hasI:aB:=⟨[(0,.agg [.int .u32,.int .u32]),(1,.one<|.int .i64),(2,.one<|.int .i64)],[],[]⟩
def Ans(G:Y)(r:Nat)(h:Int->Int->Int->Int->Option ((Bool×Unit)×Unit)):Fe G:=⟨hasI,Bsb r,λx=>h x.1.1.1 x.1.1.2.1 x.1.2.1 x.1.2.2.1,[.tmp r]⟩
def Bbl{P:Program}{g r:Nat}{h:Int->Int->Int->Int->Option ((Bool×Unit)×Unit)}(Q:Dq P G g<|Ans G r h){u d f k:Int}{b:Bool}(hh:h u d f k=C ((b,()),()))(j:GlAt G n w)(E:n<=w.heap.size):
  Calls P g #[.agg #[.int .u32 u,.int .u32 d],.int .i64 f,.int .i64 k] w λe w'=>e=.returned (.bool b)/\Below w.heap.size w w':=by
 obtain⟨S,q,R⟩:=j;have c:Hs (G:=G) hasI [.tmp r] (.ret,O ⟨[(r,.one .bool)],[],[]⟩ ((b,()),()))=C (.p<|.one<|.sc<|.bool b,[]):=by
  have q:J [(r,(Sv.p (.one<|.sc<|.bool b):Sv G.T))] r=C (.p<|.one<|.sc<|.bool b):=by simp[J]
  have i:MX (O ⟨[(r,.one .bool)],[],[]⟩ ((b,()),()):St G) [.tmp r]=C (.p<|.one<|.sc<|.bool b):=by
   unfold MX
   have:Gg (O ⟨[(r,.one .bool)],[],[]⟩ ((b,()),()):St G) [.tmp r]=C [.one<|.sc<|.bool b]:=by simp only[Gg,QS,O,Jg,aJ,aI,q]
   rw[this]
  simp only[Hs,i,Ay,hasI,Rv,Dc]
 have:=Q.2 ((((u,(d,())),(f,(k,()))),()):hasI.T G) ((b,()),()) (.ret,O ⟨[(r,.one .bool)],[],[]⟩ ((b,()),())) (.p<|.one<|.sc<|.bool b) [] hh rfl c
  (λ_=>H) S (λ_=>False) w [.agg #[.int .u32 u,.int .u32 d],.int .i64 f,.int .i64 k]
  ⟨λn k a=>by simp[Ans,hasI,O,J,Ib,ND,SN,PSh.blk,Adz,CSh.blk]at a,λn m x y b _ _ h1=>by simp at h1,λn x b _ h1=>by simp at h1,λb D=>c3_ (R b D) E,q⟩
  (λn h=>by simp at h) rfl (λk' v a=>?_)
 .refine this.mono ?_;rintro e w' ⟨v,ν',S',rfl,F,_,_,_,_,h1,N,B⟩;have L:v=.bool b:=by cases F with|p _ _ A=>cases A with|one _ _ A=>cases(show Rd G S' w'.heap (.sc<|.bool b) v from A);rfl
  subst L;exact⟨rfl,B.1,B.2.1,B.2.2,h1,λk a=>N k a (λh=>h)⟩
 .simp only[Ans,hasI,O,Jg,aJ,aI,CZ,J,Bj]at a;split at a
  .rename_i e;subst e;cases a;exact .p _ _<|.agg _ [.int .u32 u,.int .u32 d]<|.cons (.sc _ rfl)<|.cons (.sc _ rfl) .nil
  .split at a
   .rename_i e;subst e;cases a;exact .p _ _<|.one _ _<|.sc _ rfl
   .split at a
    .rename_i e;subst e;cases a;exact .p _ _<|.one _ _<|.sc _ rfl
    .cases a
def pairs64:List<|Int×Int:=(List.range 32).flatMap λ(f:Nat)=>[((f:Int),1),((f:Int),2)]
def XG{α:Type}(h:Int->Int->Option ((Bool×Unit)×Unit))(mk:Int->Int->α):List (Int×Int)->Option (List α)
 |[]=>C []
 |p::r=>match h p.1 p.2 with
  |some y=>match XG h mk r with
   |some l=>C<|bif y.1.1 then mk p.1 p.2::l else l
   |none=>H
  |none=>H
def Aq7{α:Type}(h:Int->Int->Option ((Bool×Unit)×Unit))(mk:Int->Int->α):Option<|(List α×Unit)×Unit:=match XG h mk pairs64 with
 |some l=>C ((l,()),())
 |none=>H
def Abl(h:Int->Int->Option ((Bool×Unit)×Unit))(f d:Int):Bool:=match h f d with
 |some y=>y.1.1
 |none=>aD
def Af6{α:Type}{h:Int->Int->Option ((Bool×Unit)×Unit)}{mk:Int->Int->α}:∀{ps:List<|Int×Int}{l:List α},XG h mk ps=C l->
  (∀p∈ps,h p.1 p.2=C ((Abl h p.1 p.2,()),()))/\l=(ps.filter λp=>Abl h p.1 p.2).map λp=>mk p.1 p.2
 |[],l,b=>by cases b;exact⟨λ_ h=>absurd h<|g3_,rfl⟩
 |p::r,l,b=>by
  simp only[XG]at b;split at b
  .rename_i y d;split at b
   .rename_i j c;cases b;obtain⟨h1,i⟩:=Af6 c;have a:Abl h p.1 p.2=y.1.1:=by simp[Abl,d]
    refine⟨List.forall_mem_cons.2 ⟨by rw[a,d],h1⟩,?_⟩;rw[List.filter_cons,a,i];cases y.1.1<;>rfl
   .cases b
  .cases b
def Qn(p:Int×Int):List Value:=[.int .i64 p.1,.int .i64 p.2,.int .i64<|-1,.int .i64 0,.bool aD]
def Bpi:aB:=⟨[(0,.agg [.int .u32,.int .u32])],[],[]⟩
def Bim(G:Y)(r t:Nat)(h:Int->Int->Int->Int->Option ((Bool×Unit)×Unit))(mk:Int->Int->G.T t):Fe G:=⟨Bpi,Aa9 r t,λx=>(Aq7 (h x.1.1.1 x.1.1.2.1) mk:Option<|(List (G.T t)×Unit)×Unit),[.tmp r]⟩
section
variable{P:Program}(ok:aE P G){g r t:Nat}(hent:Ain P g){h:Int->Int->Int->Int->Option ((Bool×Unit)×Unit)}{mk:Int->Int->G.T t}
 (hsz:G.sz t=5) (hmk:∀f d,G.enc t (mk f d)=[.sc (.int .i64 f),.sc (.int .i64 d),.sc (.int .i64 (-1)),.sc (.int .i64 0),.sc (.bool aD)])
include ok hsz hmk
theorem Be9(S:Nat->Prop)(hp:Array Obj)(ps:List<|Int×Int):ERel G S hp t (ps.map λp=>mk p.1 p.2)<|ps.flatMap Qn:=by
 induction ps with
 |nil=>exact ERel.nil
 |cons p r d=>
  have h1:ERel G S hp t [mk p.1 p.2]<|Qn p:=by
   refine⟨by rw[hsz];rfl,λu c=>by simp[Qn]at c;rcases c with rfl|rfl|rfl|rfl|rfl<;>rfl,λi j x q b a=>?_⟩;have m:i=0:=by have:=(f_.1 b).1;simp at this;exact this
   subst m;simp at b;subst b;rw[hmk]at a;rw[Nat.zero_mul,m_]
   match j,a with
   |0,a=>simp at a;subst a;exact⟨_,rfl,.sc _ rfl⟩
   |1,a=>simp at a;subst a;exact⟨_,rfl,.sc _ rfl⟩
   |2,a=>simp at a;subst a;exact⟨_,rfl,.sc _ rfl⟩
   |3,a=>simp at a;subst a;exact⟨_,rfl,.sc _ rfl⟩
   |4,a=>simp at a;subst a;exact⟨_,rfl,.sc _ rfl⟩
   |n+5,a=>simp at a
  exact ERel.append ok h1 d
include hent
theorem Bpf (B : ∀ (w : World) (u d : Int) (j : Int -> Int -> Bool), (∀ p ∈ pairs64, h u d p.1 p.2 = C ((j p.1 p.2, ()), ())) -> GlAt G w.heap.size w ->
      Calls P g #[.agg #[.int .u32 u,.int .u32 d]] w λe w'=>∃L,e=.returned L/\w'.ownsRow w.heap.size t 5 L (pairs64.filter λp=>j p.1 p.2).length ((pairs64.filter λp=>j p.1 p.2).flatMap Qn)/\Below w.heap.size w w'):Dq P G g<|Bim G r t h mk:=by
  refine⟨hent,λx y p s bl W hp X ν S mo w vals i _ U E=>?_⟩;obtain⟨⟨⟨(u:Int),(d:Int),_⟩,_⟩,_⟩:=x;obtain⟨h3,rfl,rfl⟩:=Oe (I:=Bpi) rfl hp X;have A:Aq7 (h u d) mk=C y:=W;unfold Aq7 at A;split at A
  · rename_i l hl
    cases A;obtain⟨R,q⟩:=Af6 hl;have s0:=E 0 (.p<|.agg [.sc<|.int .u32 u,.sc<|.int .u32 d]) rfl;have F:∃a,vals=[a]:=by
      match vals,U with
      |[a],_=>exact⟨a,rfl⟩
    obtain⟨v0,rfl⟩:=F;have e0:v0=.agg #[.int .u32 u,.int .u32 d]:=by cases s0 with|p _ _ B=>cases B with|agg _ vs B=>obtain⟨a,t1,rfl,ha,B⟩:=B.inv;obtain⟨b,t2,rfl,j,B⟩:=B.inv;obtain rfl:=B.inv_nil;cases(show Rd G S w.heap (.sc<|.int .u32 u) a from ha);cases(show Rd G S w.heap (.sc<|.int .u32 d) b from j);rfl
    subst e0;refine(B w u d (Abl<|h u d) R ⟨S,i.gl,i.stay⟩).mono ?_;rintro e w' ⟨L,rfl,D,c⟩;have hE:ERel G S w.heap t l<|(pairs64.filter λp=>Abl (h u d) p.1 p.2).flatMap Qn:=by rw[q];exact Be9 ok hsz hmk S w.heap _
    have Q:RowOut w w' t (G.sz t) (.slice H 0 0) L (pairs64.filter λp=>Abl (h u d) p.1 p.2).length<|(pairs64.filter λp=>Abl (h u d) p.1 p.2).flatMap Qn:=by
      rw[hsz];refine⟨?_,λb j=>.inr ?_,⟨c.os,c.tape,c.output,c.size,λk Z _=>c.block k Z⟩⟩
      · obtain⟨R,q|⟨b,V,N,q,_,q4⟩⟩:=D
        · exact⟨R,.inl q⟩
        · exact⟨R,.inr ⟨b,V,N,q,Q_ _,q4⟩⟩
      · obtain⟨_,q|⟨b',V,N,q,q3,_⟩⟩:=D
        · rw[q.1]at j;simp[Value.ownBlock]at j
        · rw[q]at j
          simp[Value.ownBlock]at j;omega
    have:=Jr ok i (m:=32768) (l:=l) Q (λb j=>by simp[Value.ownBlock]at j) hE (by rw[q];simp) τ
    rw[h3];exact⟨L,Jj ν 32768 L,S,rfl,this⟩
  · cases A
end
end Go.Ab
namespace Go.Ab
open Go Go.RowKit
variable{G:Y}
variable{ν:Nat->Option Value}{l:List ByteArray}{S:Nat->Prop}{s:ByteArray}{h:Array Obj}{p:Ex×St G}{α:Type}{v:Value}{I:aB}{n:Int}{vals:List α}
def AB(l:List UInt8):ByteArray:=⟨l.toArray⟩
def hd8(s:ByteArray):UInt8:=match s.data.toList with
 |c::_=>c
 |[]=>0
def MY(c:UInt8):List UInt8->List (List UInt8)
 |[]=>[[]]
 |b::l=>bif b==c then []::MY c l else match MY c l with
  |x::r=>(b::x)::r
  |[]=>[[b]]
def UR(c:UInt8):List UInt8->List UInt8
 |[]=>[]
 |b::l=>bif b==c then []else b::UR c l
def Yy(c:UInt8):List UInt8->List UInt8
 |[]=>[]
 |b::l=>bif b==c then l else Yy c l
def Aej(c:UInt8):List UInt8->Bool
 |[]=>aD
 |b::l=>bif b==c then aA else Aej c l
def Aik(b:UInt8):Bool:=b==9||b==10||b==11||b==12||b==13||b==32
def MU(a:List UInt8):List UInt8->List (List UInt8)
 |[]=>bif a.isEmpty then []else [a]
 |b::l=>bif Aik b then(bif a.isEmpty then MU [] l else a::MU [] l)else MU (a++[b]) l
def Mi(sep:List UInt8):List (List UInt8)->List UInt8
 |[]=>[]
 |[x]=>x
 |x::y::r=>x++sep++Mi sep (y::r)
def ZS:Nat->Nat->List UInt8
 |0,_=>[]
 |k+1,u=>bif aF u 10 then [UInt8.ofNat<|48+u]else ZS k (u/10)++[UInt8.ofNat<|48+u%10]
def Ym(n:Int):List UInt8:=match n with
 |.ofNat u=>ZS 20 u
 |.negSucc u=>45::ZS 20 (u+1)
def Ayf(s sep:ByteArray):Option<|(List ByteArray×Unit)×Unit:=bif aF s.size 4294967281&&aC sep.size 1 then C (((MY (hd8 sep) s.data.toList).map AB,()),())else H
def Bnz(s sep:ByteArray):Option<|(ByteArray×ByteArray×Bool×Unit)×Unit:=bif aF s.size 4294967281&&aC sep.size 1 then C ((AB<|UR (hd8 sep) s.data.toList,AB<|Yy (hd8 sep) s.data.toList,Aej (hd8 sep) s.data.toList,()),())else H
def Axc(s:ByteArray):Option<|(List ByteArray×Unit)×Unit:=bif aF s.size 4294967281&&s.data.toList.all (λb=>aF b.toNat 128)then C (((MU [] s.data.toList).map AB,()),())else H
def Ajs(l:List ByteArray)(sep:ByteArray):Option<|(ByteArray×Unit)×Unit:=bif Nat.ble l.length 2147483648&&Nat.ble (Mi sep.data.toList (l.map (·.data.toList))).length 2147483648 then C ((AB (Mi sep.data.toList (l.map (·.data.toList))),()),())else H
def Bfn(n:Int):Option<|(ByteArray×Unit)×Unit:=bif decide (-9223372036854775808<=n)&&decide (n<=9223372036854775807)then C ((AB<|Ym n,()),())else H
def Be4(l:List ByteArray):Option<|(List ByteArray×Unit)×Unit:=bif aF 0 l.length&&Nat.ble l.length 4294967296 then C ((l.filter λs=>!aC s.size 0,()),())else H
def Apy:∀k u,(ZS k u).length<=k
 |0,_=>q_ _
 |k+1,u=>by
  rw[ZS];cases aF u 10 with
  |true=>exact Nat.succ_le_succ<|Q_ _
  |false=>rw[g_,e_];exact Nat.succ_le_succ<|Apy k _
def Ar3(c:UInt8):∀l,(MY c l).length<=l.length+1
 |[]=>q_ _
 |b::l=>by
  have a:=Ar3 c l;rw[MY];cases b==c with
  |true=>rw[h_,s_,s_];omega
  |false=>
   rw[g_];cases d:MY c l with
   |nil=>simp
   |cons x r=>rw[d]at a;simp only[s_]at a|-;omega
def Aee:∀l a,(MU a l).length<=l.length+1
 |[],a=>by rw[MU];cases a<;>simp
 |b::l,a=>by rw[MU,s_];have h1:=Aee l [];have c:=Aee l<|a++[b];cases Aik b<;>cases a.isEmpty<;>simp only[h_,g_,s_]<;>omega
def Yz{d:Nat->Prop}{hp:Nat->Option (Blk G.T)}{w w':World}(a:HRel G ν S (λb=>d b\/w.heap.size<=b) hp w)(c:Below w.heap.size w w'):
  HRel G (λn=>if lo<=n then ν n else H) S (λb=>d b\/w.heap.size<=b) (J []) w'/\(∀b,S b->S b)/\(∀b,S b->S b\/d b\/w.heap.size<=b)/\(∀n y,lo<=n->ν n=C y->(λn=>if lo<=n then ν n else H) n=C y)/\
   w.heap.size<=w'.heap.size/\(∀b,b<w.heap.size->¬d b->w'.heap[b]?=w.heap[b]?)/\(w'.os=w.os/\w'.tape=w.tape/\w'.output=w.output):=
 ⟨⟨λn k B=>by simp[J]at B,λn m x y b j=>by simp[J]at j,λn x b j=>by simp[J]at j,λb u=>c3_ (a.stay b u) c.size,a.gl.mono (λ_ h=>h) λb u=>c.block b<|a.stay b u⟩,
  λ_ h=>h,λ_ h=>.inl h,λn y i A=>by simp only;rw[if_pos i];exact A,c.size,λb q _=>c.block b q,⟨c.os,c.tape,c.output⟩⟩
def Bg5(r:Nat):List<|Ex×aB:=[(.ret,⟨[(r,.one .str)],[],[]⟩)]
def Asb(i:I.hp=[]){r:Nat}{y:(ByteArray×Unit)×Unit}{s:Sv G.T}{bl:List<|List<|Cv G.T}(hp:FZ (Bg5 r) y C=C p)(a:Hs I [.tmp r] p=C (s,bl)):
  p.2.hp=[]/\s=.p (.one<|.sc<|.string y.1.1)/\bl=[]:=by
 have c:p=(.ret,O ⟨[(r,.one .str)],[],[]⟩ y):=(r_ hp).symm;subst c;unfold Hs at a;rw[i]at a;have d:J [(r,(Sv.p (.one<|.sc<|.string y.1.1):Sv G.T))] r=C (.p<|.one<|.sc<|.string y.1.1):=by simp[J]
 have b:MX (O ⟨[(r,.one .str)],[],[]⟩ y:St G) [.tmp r]=C (.p<|.one<|.sc<|.string y.1.1):=by
  unfold MX
  have:Gg (O ⟨[(r,.one .str)],[],[]⟩ y:St G) [.tmp r]=C [.one<|.sc<|.string y.1.1]:=by simp only[Gg,QS,O,Jg,aJ,aI,d]
  rw[this]
 simp only[b,Ay,Rv,Dc,b6_,e1_]at a;exact⟨rfl,a.1.symm,a.2.symm⟩
def Bny(r0 r1 a:Nat):List<|Ex×aB:=[(.ret,⟨[(r0,.one .str),(r1,.one .str),(a,.one .bool)],[],[]⟩)]
def Be2(A:I.hp=[]){r0 r1 a:Nat}(i:r0≠r1)(j:r0≠a)(d:r1≠a){y:(ByteArray×ByteArray×Bool×Unit)×Unit}{s:Sv G.T}{bl:List<|List<|Cv G.T}(hp:FZ (Bny r0 r1 a) y C=C p)(b:Hs I [.tmp r0,.tmp r1,.tmp a] p=C (s,bl)):
  p.2.hp=[]/\s=.tup [.one<|.sc<|.string y.1.1,.one<|.sc<|.string y.1.2.1,.one<|.sc<|.bool y.1.2.2.1]/\bl=[]:=by
 have m:p=(.ret,O ⟨[(r0,.one .str),(r1,.one .str),(a,.one .bool)],[],[]⟩ y):=(r_ hp).symm;subst m;unfold Hs at b;rw[A]at b;have u:∀q:Nat,J [(r0,(Sv.p (.one<|.sc<|.string y.1.1):Sv G.T)),(r1,.p<|.one<|.sc<|.string y.1.2.1),(a,.p<|.one<|.sc<|.bool y.1.2.2.1)] q=if r0=q then C (.p<|.one<|.sc<|.string y.1.1)else if r1=q then C (.p<|.one<|.sc<|.string y.1.2.1)else if a=q then C (.p<|.one<|.sc<|.bool y.1.2.2.1)else H:=λq=>by simp only[J,Bj]
 have c:MX (O ⟨[(r0,.one .str),(r1,.one .str),(a,.one .bool)],[],[]⟩ y:St G) [.tmp r0,.tmp r1,.tmp a]=C (.tup [.one<|.sc<|.string y.1.1,.one<|.sc<|.string y.1.2.1,.one<|.sc<|.bool y.1.2.2.1]):=by
  unfold MX
  have:Gg (O ⟨[(r0,.one .str),(r1,.one .str),(a,.one .bool)],[],[]⟩ y:St G) [.tmp r0,.tmp r1,.tmp a]=C [.one<|.sc<|.string y.1.1,.one<|.sc<|.string y.1.2.1,.one<|.sc<|.bool y.1.2.2.1]:=by simp only[Gg,QS,O,Jg,aJ,aI,u,if_pos,if_neg i,if_neg j,if_neg d]
  rw[this]
 simp only[c,Ay,Rv,Dc,b6_,e1_]at b;exact⟨rfl,b.1.symm,b.2.symm⟩
def Aj3(h:vals.length=1):∃a,vals=[a]:=match vals,h with
 |[a],_=>⟨a,rfl⟩
def YP(h:vals.length=2):∃a b,vals=[a,b]:=match vals,h with
 |[a,b],_=>⟨a,b,rfl⟩
def Xd(r:Rs G ν S h (.p<|.one<|.sc<|.string s) v):v=.string s:=by cases r with|p _ _ a=>cases a with|one _ _ a=>cases a;rfl
def Bp7(r:Rs G ν S h (.p<|.one<|.sc<|.int .i64 n) v):v=.int .i64 n:=by cases r with|p _ _ a=>cases a with|one _ _ a=>cases a;rfl
def Bi6:aB:=⟨[(0,.one .str),(1,.one .str)],[],[]⟩
def Cad:aB:=⟨[(0,.one .str)],[],[]⟩
def Bzp:aB:=⟨[(0,.one<|.int .i64)],[],[]⟩
def Bzq(t:Nat):aB:=⟨[(0,.one<|.ro t),(1,.one .str)],[],[]⟩
def Bia(G:Y)(r0 r1 a:Nat):Fe G:=⟨Bi6,Bny r0 r1 a,λx=>Bnz x.1.1 x.1.2.1,[.tmp r0,.tmp r1,.tmp a]⟩
def Big(G:Y)(r:Nat)(F:Int->Option ((ByteArray×Unit)×Unit)):Fe G:=⟨Bzp,Bg5 r,λx=>F x.1.1,[.tmp r]⟩
def Ayg(G:Y)(r t:Nat)(F:ByteArray->ByteArray->Option ((List (G.T t)×Unit)×Unit)):Fe G:=⟨Bi6,Aa9 r t,λx=>F x.1.1 x.1.2.1,[.tmp r]⟩
def Axd(G:Y)(r t:Nat)(F:ByteArray->Option ((List (G.T t)×Unit)×Unit)):Fe G:=⟨Cad,Aa9 r t,λx=>F x.1.1,[.tmp r]⟩
def Bih(G:Y)(r t:Nat)(F:List (G.T t)->ByteArray->Option ((ByteArray×Unit)×Unit)):Fe G:=⟨Bzq t,Bg5 r,λx=>F x.1.1 x.1.2.1,[.tmp r]⟩
def Bg1{sep:ByteArray} {y}(h:Ayf s sep=C y):(s.size<4294967281/\sep.size=1)/\(((MY (hd8 sep) s.data.toList).map AB).map (λs=>s),())=y.1:=by obtain⟨h1,rfl⟩:=FS h;exact⟨by simpa only[a_,d9_,Nat.beq_eq]using h1,σ⟩
def Be5 {y}(h:Be4 l=C y):(l≠[]/\l.length<=4294967296)/\((((l.map λs=>s).filter λs=>!aC s.size 0).map λs=>s),())=y.1:=by obtain⟨h1,rfl⟩:=FS h;simp only[a_,aK]at h1;exact⟨⟨λe=>by rw[e]at h1;exact absurd h1.1 τ,h1.2⟩,σ⟩
def Bfq{sep:ByteArray} {y}(h:Ajs l sep=C y):(l.length<=2147483648/\(Mi sep.data.toList ((l.map λs=>s).map (·.data.toList))).length<=2147483648)/\y=((AB (Mi sep.data.toList ((l.map λs=>s).map (·.data.toList))),()),()):=by obtain⟨h1,rfl⟩:=FS h;rw[show(l.map λs=>s)=l by simp];exact⟨by simpa only[a_,aK]using h1,rfl⟩
def Bfo {y}(h:Bfn n=C y):(-9223372036854775808<=n/\n<=9223372036854775807)/\y=((AB<|Ym n,()),()):=by obtain⟨h1,rfl⟩:=FS h;exact⟨by simpa only[a_,t_]using h1,rfl⟩
def Bfi {y}(h:Axc s=C y):(s.size<4294967281/\∀b∈s.data.toList,b.toNat<128)/\(((MU [] s.data.toList).map AB).map (λs=>s),())=y.1:=by obtain⟨h1,rfl⟩:=FS h;exact⟨by simpa only[a_,d9_,F_]using h1,σ⟩
section
variable{P:Program}(ok:aE P G){g r t:Nat}(hent:Ain P g)
section
include hent
theorem Bsp{F:Int->Option ((ByteArray×Unit)×Unit)}{p:Int->Prop}(m:∀n y,F n=C y->p n/\y=((AB<|Ym n,()),()))(q:∀(w:World) (n:Int),p n->GlAt G w.heap.size w->Calls P g #[.int .i64 n] w λe w'=>e=.returned (.string<|AB<|Ym n)/\Below w.heap.size w w'):Dq P G g<|Big G r F:=by refine⟨hent,λx y p s bl i hp j ν S A w vals a _ c b=>?_⟩;obtain⟨⟨n,_⟩,_⟩:=x;obtain⟨h1,rfl⟩:=m n y i;obtain⟨u,rfl,rfl⟩:=Asb rfl hp j;obtain⟨v0,rfl⟩:=Aj3 c;obtain rfl:=Bp7<|b 0 _ rfl;refine(q w n h1 ⟨S,a.gl,a.stay⟩).mono ?_;rintro e w' ⟨rfl,d⟩;rw[u];exact⟨_,_,S,rfl,.p _ _<|.one _ _<|Rd.sc _ rfl,Yz a d⟩
theorem Bse {r0 r1 i : Nat} (q : r0 ≠ r1) (u : r0 ≠ i) (j : r1 ≠ i) (L : ∀ (w : World) (s sep : ByteArray), s.size < 4294967281 -> sep.size = 1 ->
      Calls P g #[.string s,.string sep] w λe w'=>e=.returned (.tuple #[.string<|AB<|UR (hd8 sep) s.data.toList,.string<|AB<|Yy (hd8 sep) s.data.toList,.bool<|Aej (hd8 sep) s.data.toList])/\Below w.heap.size w w'):Dq P G g<|Bia G r0 r1 i:=by
  refine⟨hent,λx y p s bl B hp D ν S Q w vals d _ m c=>?_⟩;obtain⟨⟨(a:ByteArray),(b:ByteArray),_⟩,_⟩:=x;obtain⟨h1,E⟩:=FS B;obtain⟨F,rfl,rfl⟩:=Be2 rfl q u j hp D;subst E;simp only[a_,d9_,Nat.beq_eq]at h1;obtain⟨v0,N,rfl⟩:=YP m;obtain rfl:=Xd<|c 0 _ rfl;obtain rfl:=Xd<|c 1 _ rfl;refine(L w a b h1.1 h1.2).mono ?_;rintro e w' ⟨rfl,A⟩;rw[F];exact⟨_,_,S,rfl,.tup _ [_,_,_]<|.cons (.one _ _<|Rd.sc _ rfl)<|.cons (.one _ _<|Rd.sc _ rfl)<|.cons (.one _ _<|Rd.sc _ rfl) .nil,Yz d A⟩
end
variable{ofS:ByteArray->G.T t}(hsz:G.sz t=1)(hof:∀s,G.enc t (ofS s)=[.sc (.string s)])
include hsz hof
theorem Afh(S:Nat->Prop)(hp:Array Obj)(l:List ByteArray):ERel G S hp t (l.map ofS)<|l.map Value.string:=by
 refine⟨by rw[hsz];simp,λu m=>by simp only[b3_]at m;obtain⟨_,_,rfl⟩:=m;rfl,λi j x q a c=>?_⟩;rw[X_]at a;cases d:l[i]? with
 |none=>rw[d]at a;cases a
 |some b=>
  rw[d]at a;simp only[e8_,b6_]at a;subst a;rw[hof]at c;obtain⟨rfl,rfl⟩:j=0/\q=.sc _:=by
   cases j with
   |zero=>simp at c;exact⟨rfl,c.symm⟩
   |succ j=>simp at c
  refine⟨.string b,?_,.sc _ rfl⟩;rw[hsz,c2_,d0_,X_,d];rfl
omit hsz hof in
theorem Asc(w:World)(l:List ByteArray)(c:l.length<=maxLen):RowOut w (w.alloc<|.cells (l.map Value.string).toArray t) t 1 (.slice H 0 0) (.slice (C ⟨w.heap.size,0,H⟩) l.length l.length) l.length<|l.map Value.string:=by
 refine⟨⟨σ,.inr ⟨w.heap.size,l.length,(l.map Value.string).toArray,rfl,Q_ _,?_,q_ _,c,σ,by rw[ c2_];exact a8_ σ⟩⟩,λb d=>.inr ?_,⟨rfl,rfl,rfl,?_,λk a _=>?_⟩⟩
 .show(w.heap.push _)[w.heap.size]?=_;rw[Array.getElem?_push,if_pos rfl]
 .simp[Value.ownBlock]at d;omega
 .simp
 .show(w.heap.push _)[k]?=_;rw[Array.getElem?_push_lt a,b5_ a]
include ok hent
theorem Btc{F:ByteArray->ByteArray->Option ((List (G.T t)×Unit)×Unit)}{p:ByteArray->ByteArray->Prop}{L:ByteArray->ByteArray->List ByteArray}(B:∀s sep y,F s sep=C y->p s sep/\((L s sep).map ofS,())=y.1)(D:∀s sep,p s sep->(L s sep).length<=maxLen)
  (N:∀(w:World) (s sep:ByteArray),p s sep->GlAt G w.heap.size w->Calls P g #[.string s,.string sep] w λe w'=>e=.returned (.slice (C ⟨w.heap.size,0,H⟩) (L s sep).length (L s sep).length)/\w'=w.alloc (.cells ((L s sep).map Value.string).toArray t)):Dq P G g<|Ayg G r t F:=by
 refine⟨hent,λx y p s bl u hp A ν S U w vals c _ j d=>?_⟩;obtain⟨⟨(a:ByteArray),(b:ByteArray),_⟩,_⟩:=x;obtain⟨h1,E⟩:=B a b y u;obtain⟨Q,rfl,rfl⟩:=Oe rfl hp A;obtain⟨v0,R,rfl⟩:=YP j;obtain rfl:=Xd<|d 0 _ rfl;obtain rfl:=Xd<|d 1 _ rfl;refine(N w a b h1 ⟨S,c.gl,c.stay⟩).mono ?_;rintro e w' ⟨rfl,rfl⟩;have i:=Asc (t:=t) w _<|D a b h1;rw[<-hsz]at i
 have:=Jr ok c (m:=32768) i (λb q=>by simp[Value.ownBlock]at q) (Afh hsz hof S w.heap _) σ τ
 rw[Q,<-E];exact⟨_,Jj ν 32768 _,S,rfl,this⟩
theorem Bsj{F:ByteArray->Option ((List (G.T t)×Unit)×Unit)}{p:ByteArray->Prop}{L:ByteArray->List ByteArray}(B:∀s y,F s=C y->p s/\((L s).map ofS,())=y.1)(D:∀s,p s->(L s).length<=maxLen)
  (N:∀(w:World) (s:ByteArray),p s->GlAt G w.heap.size w->Calls P g #[.string s] w λe w'=>e=.returned (.slice (C ⟨w.heap.size,0,H⟩) (L s).length (L s).length)/\w'=w.alloc (.cells ((L s).map Value.string).toArray t)):Dq P G g<|Axd G r t F:=by
 refine⟨hent,λx y p s bl u hp A ν S R w vals c _ j i=>?_⟩;obtain⟨⟨(a:ByteArray),_⟩,_⟩:=x;obtain⟨h1,E⟩:=B a y u;obtain⟨Q,rfl,rfl⟩:=Oe rfl hp A;obtain⟨v0,rfl⟩:=Aj3 j;obtain rfl:=Xd<|i 0 _ rfl;refine(N w a h1 ⟨S,c.gl,c.stay⟩).mono ?_;rintro e w' ⟨rfl,rfl⟩;have d:=Asc (t:=t) w (L a)<|D a h1;rw[<-hsz]at d
 have:=Jr ok c (m:=32768) d (λb q=>by simp[Value.ownBlock]at q) (Afh hsz hof S w.heap _) σ τ
 rw[Q,<-E];exact⟨_,Jj ν 32768 _,S,rfl,this⟩
def Bzk(t f:Nat):aB:=⟨[(0,.one<|.own 32768 t),(1,.one<|.clo f [] [])],[],[]⟩
def Bic(G:Y)(r t f:Nat)(F:List (G.T t)->Option ((List (G.T t)×Unit)×Unit)):Fe G:=⟨Bzk t f,Aa9 r t,λx=>F x.1.1,[.tmp r]⟩
theorem Bsg{f:Nat}(hty:G.ty t≠ .no)(henc:∀x,(G.enc t x).length=G.sz t){toS:G.T t->ByteArray}(L:∀x,G.enc t x=[.sc<|.string<|toS x]){F:List (G.T t)->Option ((List (G.T t)×Unit)×Unit)}(hF:∀l y,F l=C y->(l≠[]/\l.length<=4294967296)/\((((l.map toS).filter λs=>!aC s.size 0).map ofS),())=y.1)
  (i:∀(w:World) (g0 a:Nat) (l:List ByteArray),l≠[]->w.ownsRow 0 t 1 (.slice (C ⟨g0,0,H⟩) l.length a) l.length (l.map Value.string)->l.length<=4294967296->
   Calls P g #[.slice (C ⟨g0,0,H⟩) l.length a,.func (.func f) #[] #[]] w λe w'=>e=.returned (.slice (C ⟨g0,0,H⟩) (l.filter λs=>!aC s.size 0).length a)/\w'.ownsRow 0 t 1 (.slice (C ⟨g0,0,H⟩) (l.filter λs=>!aC s.size 0).length a) (l.filter λs=>!aC s.size 0).length ((l.filter λs=>!aC s.size 0).map Value.string)/\
    w.heap.size<=w'.heap.size/\(∀k,k<w.heap.size->k≠g0->w'.heap[k]?=w.heap[k]?)/\w'.os=w.os/\w'.tape=w.tape/\w'.output=w.output):Dq P G g<|Bic G r t f F:=by
 refine⟨hent,λx y p s bl hy hp ho ν S mo w vals d _ D c=>?_⟩;obtain⟨⟨(l:List _),_⟩,_⟩:=x;obtain⟨⟨h0,B⟩,h2⟩:=hF l y hy;obtain⟨h3,rfl,rfl⟩:=Oe rfl hp ho;obtain⟨X,vf,rfl⟩:=YP D;have s0:=c 0 _ rfl;have s1:=c 1 _ rfl;have e0:ν 32768=C X:=by cases s0 with|p _ _ i=>cases i with|one _ _ i=>obtain⟨_,_,_,h,_⟩:=i;exact h
 obtain rfl:vf=.func (.func f) #[] #[]:=by cases s1 with|p _ _ i=>cases i with|one _ _ i=>obtain⟨vp,vq,rfl,hp,hq⟩:=i;rw[hp.inv_nil,hq.inv_nil]
 obtain⟨xs,o1,r1,b1⟩:=WZ ok d (l:=l) rfl hty henc e0;rw[hsz]at o1;have W:xs=(l.map toS).map Value.string:=by
  refine List.ext_getElem? λj=>?_;have V:=r1.1;rw[hsz]at V;rw[X_,X_];cases hj:l[j]? with
  |none=>rw[List.getElem?_eq_none_iff]at hj;rw[List.getElem?_eq_none ω];rfl
  |some z=>obtain⟨u,Z,U⟩:=r1.2.2 j 0 z _ hj (by rw[L];rfl);cases U;rw[hsz,c2_]at Z;exact Z
 obtain⟨g0,a,rfl⟩:∃g0 a,X=.slice (C ⟨g0,0,H⟩) l.length a:=by
  obtain⟨_,⟨_,hz⟩|⟨g0,a,h1,rfl,_⟩⟩:=o1
  .exact absurd (S_ hz) h0
  .exact⟨g0,a,rfl⟩
 have E:(l.map toS).length=l.length:=a3_ ..
 have:=i w g0 a (l.map toS) (by simpa using h0) (by rw[E,<-W];exact o1) (by rw[E];exact B)
 rw[E]at this;refine this.mono ?_;rintro e w' ⟨rfl,m1,m4,m5,Q⟩;generalize hR:((l.map toS).filter λs=>!aC s.size 0)=R at h2 m1;have q:RowOut w w' t (G.sz t) (.slice (C ⟨g0,0,H⟩) l.length a) (.slice (C ⟨g0,0,H⟩) R.length a) R.length<|R.map Value.string:=by rw[hsz];exact⟨m1,λb N=>.inl N,⟨Q.1,Q.2.1,Q.2.2,m4,λk hk A=>m5 k hk λe=>A (by rw[e];rfl)⟩⟩
 have:=Jr ok d (m:=32768) q (λb N=>by obtain⟨z1,z2,z3,_⟩:=b1 b N;exact⟨z1,z2.resolve_right ω⟩) (Afh hsz hof S w.heap _) σ τ
 rw[h3,<-h2];exact⟨_,Jj ν 32768 _,S,rfl,this⟩
omit ok hof in
theorem Bsq{toS:G.T t->ByteArray}(W:∀x,G.enc t x=[.sc<|.string<|toS x]){F:List (G.T t)->ByteArray->Option ((ByteArray×Unit)×Unit)}(hF:∀l sep y,F l sep=C y->(l.length<=2147483648/\(Mi sep.data.toList ((l.map toS).map (·.data.toList))).length<=2147483648)/\y=((AB (Mi sep.data.toList ((l.map toS).map (·.data.toList))),()),()))
  (B:∀(w:World) (Q o c:Nat) (xs:List ByteArray) (sep:ByteArray),(∀(j:Nat) x,xs[j]?=C x->w.cell? ⟨Q,o+j,H⟩=C (.string x))->Q<w.heap.size->xs.length<=c->xs.length<=2147483648->(Mi sep.data.toList (xs.map (·.data.toList))).length<=2147483648->
   Calls P g #[.slice (C ⟨Q,o,H⟩) xs.length c,.string sep] w λe w'=>e=.returned (.string (AB (Mi sep.data.toList (xs.map (·.data.toList)))))/\Below w.heap.size w w')
  (X:∀(w:World) (a:Option Addr) (c:Nat) (sep:ByteArray),Calls P g #[.slice a 0 c,.string sep] w λe w'=>e=.returned (.string<|AB [])/\Below w.heap.size w w'):Dq P G g<|Bih G r t F:=by
 refine⟨hent,λx y p s bl hy hp ho ν S mo w vals m _ R d=>?_⟩;obtain⟨⟨(l:List _),(sep:ByteArray),_⟩,_⟩:=x;obtain⟨⟨h1,h2⟩,rfl⟩:=hF l sep y hy;obtain⟨h3,rfl,rfl⟩:=Asb rfl hp ho;obtain⟨vS,v1,rfl⟩:=YP R;obtain rfl:=Xd<|d 1 _ rfl;have Z:Rd G S w.heap (.ro t l) vS:=by have s0:=d 0 _ rfl;cases s0 with|p _ _ B=>cases B with|one _ _ B=>exact B
 have h0:Calls P g #[vS,.string sep] w λe w'=>e=.returned (.string (AB (Mi sep.data.toList ((l.map toS).map (·.data.toList)))))/\Below w.heap.size w w':=by
  cases Z with
  |nil _ a q=>exact X w a q sep
  |ro _ _ b off q c te fz vs hS hb _ E U hr=>
   have V:(l.map toS).length=l.length:=a3_ ..
   have:=B w b off q _ sep (λj x D=>by
    rw[X_]at D;cases N:l[j]? with
    |none=>rw[N]at D;cases D
    |some z=>rw[N]at D;obtain rfl:=r_ D;have A:=hr j 0 z _ N (by rw[W];rfl);have i:=U j 0 (f_.1 N).1 ω;rw[hsz,c2_]at i;generalize vs j 0=u at A i;cases A;rw[d8_ w b _ c te fz hb];exact i) (I_.1 hb).1 (by rw[V];exact E) (by rw[V];exact h1) h2
   rw[V]at this;exact this
 refine h0.mono ?_;rintro e w' ⟨rfl,L⟩;rw[h3];exact⟨_,_,S,rfl,.p _ _<|.one _ _<|Rd.sc _ rfl,Yz m L⟩
end
def Bqk(G:Y)(te:Nat)(l:List<|G.T te):Option<|(ByteArray×Unit)×((Unit×List (G.T te)×Unit)×Unit):=bif l.all (λx=>okB<|G.enc te x)then C ((Xi G te l,()),(((),l,()),()))else H
def Btd(G:Y)(r0 tb te:Nat):Fe G:=⟨stI tb te,stE r0 tb te,λx=>Bqk G te x.2.1.2.1,[.tmp r0]⟩
def Bc4{P:Program}(ok:aE P G){g tb te r0:Nat}(hty:G.ty te≠ .no)(henc:∀x,(G.enc te x).length=G.sz te)(hsz:G.sz te=1)(h:Dq P G g<|Bql G r0 tb te)
  (N:∀(b:Nat) (w:World) (a0 v:Value),w.heap[b]?=C (.cells #[a0,v] tb (0,0))->w.ownsRow 0 te 1 v 0 []->Calls P g #[.pointer<|C ⟨b,0,H⟩] w λe w'=>e=.returned (.string ⟨#[]⟩)/\Below w.heap.size w w'):Dq P G g<|Btd G r0 tb te:=by
 refine⟨h.1,λx y p s bl F hp ho ν S mo w vals d h0 L i=>?_⟩;obtain⟨⟨_,_⟩,⟨_,(l:List _),_⟩,_⟩:=x;cases l with
 |cons z l=>have D:stF G te (z::l)=C y:=F;exact h.2 (((),()),((),z::l,()),()) y p s bl D hp ho ν S mo w vals d h0 L i
 |nil=>
  have D:Bqk G te []=C y:=F;obtain⟨_,h2⟩:=FS D;obtain⟨V,rfl,rfl⟩:=Bc2 hp ho;subst h2;have u:=d;obtain⟨b,a0,v,xs,R,e2,e3,e4,Q,e6,e7,e8,e9,W⟩:=Ao2 ok u hty henc;obtain⟨vp,rfl⟩:=Aj3 L;have s0:=i 0 _ rfl;obtain rfl:vp=.pointer _:=by cases s0 with|p _ _ N=>cases N with|one _ _ N=>obtain⟨b',U,Z⟩:=N;rw[R]at U;cases U;exact Z
  rw[hsz]at Q;obtain rfl:xs=[]:=S_ (by rw[Q.1];rfl);refine(N b w a0 v e4 Q).mono ?_;rintro e w' ⟨rfl,j⟩;have E:=λq hq=>j.block q<|d.stay q hq;have hv:∃a A,v=.slice a 0 A:=by
   obtain⟨_,⟨rfl,_⟩|⟨g0,A,h3,rfl,_⟩⟩:=Q
   .exact⟨_,_,rfl⟩
   .exact⟨_,_,rfl⟩
  obtain⟨a,A,rfl⟩:=hv;have one:∀q,J [(65536,(Blk.cells [.np 65536 tb,.ro te []]:Blk G.T))] q≠H->q=65536:=λq hq=>by
   simp only[J,Bj]at hq;by_cases z:65536=q
   .exact z.symm
   .rw[if_neg z]at hq;exact absurd rfl hq
  rw[V];refine⟨_,ν,S,rfl,.p _ _<|.one _ _<|Rd.sc _ rfl,⟨λq k hk=>?_,λU Z x y c ha j hx F B h4=>by rw[one U ha,one Z j],λq x c hq hx B=>?_,λq hq=>c3_ (d.stay q hq) j.size,d.gl.mono (λ_ h=>h) E⟩,λ_ h=>h,λ_ h=>.inl h,λq y h5 F=>F,j.size,λq hq _=>j.block q hq,⟨j.os,j.tape,j.output⟩⟩
  .obtain rfl:=one q (by rw[hk];simp);have h1:C _=C k:=hk;cases h1;exact⟨b,_,tb,R,(j.block b W).trans e4,.cons (e3.imp (λh=>h) λh=>⟨b,R,h⟩)<|.cons (Rd.nil te a A) .nil,λm t X=>by simp at X;exact⟨X.1,X.2.symm⟩⟩
  .obtain rfl:=one q hq;rw[R]at hx;cases hx;simp[AO]at B;subst B;exact⟨e8,e9⟩
end Go.Ab
namespace Go.Ab
open Go Go.RowKit Go.Proofs Go.Shelf
variable{w:World}{zs:List Int}{k:IntKind}{t: Nat}
def Yi(c:UInt8)(l:List UInt8):Lib.index (c::l) [c]=((0:Nat):Int):=by rw[Lib.index];simp[List.isPrefixOf]
def Ux{b c:UInt8}(l:List UInt8)(h:b≠c):Lib.index (b::l) [c]=if Lib.index l [c]==-1 then -1 else Lib.index l [c]+1:=by
 have hp:([c]:List UInt8).isPrefixOf (b::l)=aD:=by simp[List.isPrefixOf,e4_ h]
 rw[Lib.index,hp];simp
def All(c:UInt8)(l:List UInt8):Lib.index l [c]=-1\/∃j:Nat,Lib.index l [c]=j:=by
 have:=Lib.index_ge l [c]
 by_cases h:Lib.index l [c]=-1
 .exact .inl h
 .exact .inr ⟨(Lib.index l [c]).toNat,ω⟩
def YJ{c:UInt8}{k j:Nat}{l:List UInt8}(h:Lib.index l [c]=j):Lib.splitK [c] 0 (k+1) l=l.take j::Lib.splitK [c] 0 k (l.drop<|j+1):=by rw[Lib.splitK,h];rfl
def Ah5(c:UInt8):∀l:List UInt8,Lib.splitK [c] 0 (Lib.count l [c]) l=MY c l
 |[]=>by rw[Lib.count_miss (by simp[Lib.index])];rfl
 |b::l=>by
  have d:=Ah5 c l;unfold MY;by_cases h:b=c
  .subst h;rw[Lib.count_cons_eq,d1_,YJ<|Yi b l,p_];simpa using d
  .rw[Lib.count_cons_ne b c l h,show _=aD from beq_eq_false_iff_ne.2 h,<-d];rcases All c l with i|⟨j,a⟩
   .rw[Lib.count_miss i];rfl
   .have h1:Lib.index (b::l) [c]=((j+1:Nat):Int):=by rw[Ux l h,a,if_neg σ];omega
    rw[Lib.count_hit σ a,d1_,YJ h1,YJ a];simp
def Auf(c:UInt8):∀l:List UInt8,Lib.cut l [c]=(UR c l,Yy c l,Aej c l)
 |[]=>by simp[Lib.cut,Lib.index,UR,Yy,Aej]
 |b::l=>by
  have a:=Auf c l;unfold UR Yy Aej;by_cases h:b=c
  .subst h;rw[Lib.cut,Yi];simp
  .rw[show _=aD from beq_eq_false_iff_ne.2 h];simp only[g_];unfold Lib.cut at a|-;rcases All c l with i|⟨j,d⟩
   .rw[Ux l h,i];rw[i]at a;simp only[p_,if_true,show ¬0<=-1 from by decide,f6_]at a|-;simp only[e1_]at a|-;exact⟨by rw[<-a.1],a.2.1,a.2.2⟩
   .rw[Ux l h,d,if_neg (show ¬((j:Int)==-1)=aA by simp),if_pos ω];rw[d,if_pos ω]at a;simp only[e1_]at a|-;rw[show((j:Int)+1).toNat=j+1 by omega];simp only[l_]at a;refine⟨by rw[List.take_succ_cons,a.1],?_,a.2.2⟩;rw[<-a.2.1];simp
def ZY:∀(l a:List UInt8),Lib.fieldsGo a l=MU a l
 |[],a=>by unfold Lib.fieldsGo MU;cases a<;>rfl
 |b::l,a=>by unfold Lib.fieldsGo MU;rw[show Lib.isSp b=Aik b from rfl,ZY l [],ZY l _];cases Aik b<;>cases a<;>rfl
def Aln(sep:List UInt8):∀xs:List<|List UInt8,Lib.join xs sep=Mi sep xs
 |[]=>rfl
 |[x]=>Lib.join_one x sep
 |x::y::r=>by have a:=Aln sep<|y::r;rw[Lib.join_cons]at a|-;rw[Mi,<-a];simp[Lib.joinTail]
def Ad9:∀(k u:Nat),u<10^k->0<k->ZS k u=Lib.decDigits u
 |0,_,_,h=>absurd h τ
 |k+1,u,a,_=>by
  unfold ZS;rw[Lib.decDigits];by_cases h:u<10
  .rw[dif_pos h,show aF u 10=aA from by rw[d9_];exact h];rfl
  .rw[dif_neg h,show aF u 10=aD from Bool.eq_false_iff.2 λe=>h (by rw[d9_]at e;exact e),g_];have b:0<k:=by
    cases k with
    |zero=>simp at a;omega
    |succ k=>exact Nat.succ_pos k
   rw[Ad9 k _ (by rw[Nat.pow_succ]at a;omega) b]
def Boo{n:Int}(h0:-9223372036854775808<=n)(h1:n<=9223372036854775807):Lib.itoa n=Ym n:=by
 unfold Lib.itoa Ym;cases n with
 |ofNat u=>
  have:(u:Int)<=9223372036854775807:=h1
  exact(Ad9 20 u ω τ).symm
 |negSucc u=>rw[if_pos ω];show _=45::ZS 20 _;rw[Ad9 20 _ ω τ];rfl
def Aid{s:ByteArray}(h:s.size=1):s.data.toList=[hd8 s]:=by obtain⟨c,rfl⟩:=Lib.one_byte s h;rfl
def Axn(l:List ByteArray):(l.map (·.data.toList)).map AB=l:=by
 rw[List.map_map]
 have:∀x:ByteArray,(AB∘λx=>x.data.toList) x=x:=λx=>Lib.mk_data x
 rw[List.map_congr_left (λx _=>this x)];simp
section
variable{G:Y}{P:Program}{ρ:Go.Shelf.Ren}
def Bkt(L:Lays.n146 P ρ)(m:(P.info?<|ρ.t 9).map (λi=>(i.zero,i.size,i.bytes))=C (C<|.string aH,1,16))(w:World)(s sep:ByteArray)(A:s.size<4294967281)(h1:sep.size=1) :
  Calls P (ρ.f 146) #[.string s,.string sep] w λe w'=>e=.returned (.slice (C ⟨w.heap.size,0,H⟩) ((MY (hd8 sep) s.data.toList).map AB).length ((MY (hd8 sep) s.data.toList).map AB).length)/\w'=w.alloc (.cells (((MY (hd8 sep) s.data.toList).map AB).map Value.string).toArray<|ρ.t 9):=by
 have E:=Lib.countB_le sep ω s.size s<|q_ _;have a:=Lib.splitB_all sep ω 0 _ s rfl;have y:Lib.splitB sep 0 (Lib.countB s sep) s=(MY (hd8 sep) s.data.toList).map AB:=by rw[<-Axn (Lib.splitB sep 0 _ s),Lib.splitB_data,Lib.countB,Aid h1,Ah5]
 obtain⟨c,rfl⟩:=Lib.one_byte sep h1;have c:=Any.strings_genSplit_core { L with } m s ⟨#[c]⟩ 0 (-1) (Lib.countB s ⟨#[c]⟩+1) w A ω (Q_ _)
  (λx F N=>(Any.strings_Index_one { L with } x c _).mono λe w' ⟨q,j⟩=>⟨by
   rw[q]
   have:Lib.indexByte x.data.toList c=Lib.index x.data.toList [c]:=by
    generalize x.data.toList=l;induction l with
    |nil=>rfl
    |cons b l B=>
     unfold Lib.indexByte;by_cases h:b=c
     .subst h;rw[Yi];simp
     .rw[Ux l h,show _=aD from beq_eq_false_iff_ne.2 h,B];rfl
   rw[this],j⟩)
  ((Any.strings_Count_one { L with } s c w).mono λe w' ⟨q,j⟩=>⟨by rw[q];show _=Ending.returned (Value.int .i64 ((Lib.count s.data.toList [c]:Nat):Int));rw[Lib.count_one];rfl,j⟩) τ τ ω
 rw[Nat.add_sub_cancel,a]at c;have D:Lib.cellsOf (Lib.splitB ⟨#[‹UInt8›]⟩ 0 (Lib.countB s ⟨#[‹UInt8›]⟩) s) (Lib.countB s ⟨#[‹UInt8›]⟩+1)=((Lib.splitB ⟨#[‹UInt8›]⟩ 0 (Lib.countB s ⟨#[‹UInt8›]⟩) s).map Value.string).toArray:=by rw[<-a];exact Lib.cellsOf_full _
 rw[D]at c;rw[y]at c;have d:((MY (hd8 ⟨#[‹UInt8›]⟩) s.data.toList).map AB).length=Lib.countB s ⟨#[‹UInt8›]⟩+1:=by rw[<-y,a]
 rw[d];generalize(MY _ s.data.toList).map AB=R at c|-;have u:∀args w,(callFunc _ args).run P w=.ok _ w:=enters_of L.f221 κ rfl
 go_enter L.f146,Body.n146_ntmps ρ
 go_wp2_with (go_at_fn (ρ.f 221);refine c.mono ?_;rintro e w' ⟨rfl,j⟩;rw[j])
 go_ret
 exact⟨rfl,rfl⟩
def Aqm(c:UInt8)(l:List UInt8):Lib.indexByte l c=Lib.index l [c]:=by
 induction l with
 |nil=>rfl
 |cons b l a=>
  unfold Lib.indexByte;by_cases h:b=c
  .subst h;rw[Yi];simp
  .rw[Ux l h,show _=aD from beq_eq_false_iff_ne.2 h,a];rfl
def Bfu(L:Lays.n220 P ρ)(w:World)(s sep:ByteArray)(y:s.size<4294967281)(h1:sep.size=1) :
  Calls P (ρ.f 220) #[.string s,.string sep] w λe w'=>e=.returned (.tuple #[.string ⟨(Lib.cut s.data.toList sep.data.toList).1.toArray⟩,.string ⟨(Lib.cut s.data.toList sep.data.toList).2.1.toArray⟩,.bool (Lib.cut s.data.toList sep.data.toList).2.2])/\∃n,w'=w.drewN n:=by
 have u:∀w,Calls P _ #[.string s,.string sep] w λe w'=>e=.returned (.int .i64<|Lib.index s.data.toList sep.data.toList)/\w'=w:=λw=>by obtain⟨c,rfl⟩:=Lib.one_byte sep h1;refine(Any.stringslite_Index_one { L with } s c w).mono ?_;rintro e w' ⟨rfl,rfl⟩;exact⟨by rw[Aqm],rfl⟩
 have t3:=L.t3;have t4:=L.t4;have t9:=L.t9;have q:∀args w,(callFunc _ args).run P w=.ok _ w:=enters_of L.f219 κ rfl;have mixed:=L.mixed;have z3:=L.z3;have v3:=L.v3;have z4:=L.z4;have v4:=L.v4;have z9:=L.z9;have v9:=L.v9;rcases Lib.indexB_cases s sep with a|⟨i,a,d⟩
 .obtain⟨j,m,b⟩:=Lib.cutB_miss s sep a;rw[j,m,b]
  go_enter L.f220,Body.n220_ntmps ρ
  go_wp2_with (go_at_fn (ρ.f 219);refine(u _).mono ?_;rintro e w' ⟨rfl,rfl⟩;rw[show Lib.index s.data.toList sep.data.toList=_ from a])
  go_ret3
  exact⟨rfl,0,rfl⟩
 .obtain⟨j,m,b⟩:=Lib.cutB_hit s sep i a;rw[j,m,b];clear h1
  go_enter L.f220,Body.n220_ntmps ρ
  go_wp2_with (go_at_fn (ρ.f 219);refine(u _).mono ?_;rintro e w' ⟨rfl,rfl⟩;rw[show Lib.index s.data.toList sep.data.toList=_ from a])
  go_region_o
  go_wp2
  go_ret3
  exact⟨rfl,1,rfl⟩
def Bjp(L:Lays.n145 P ρ)(w:World)(s sep:ByteArray)(d:s.size<4294967281)(h1:sep.size=1) :
  Calls P (ρ.f 145) #[.string s,.string sep] w λe w'=>e=.returned (.tuple #[.string<|AB<|UR (hd8 sep) s.data.toList,.string<|AB<|Yy (hd8 sep) s.data.toList,.bool<|Aej (hd8 sep) s.data.toList])/\Below w.heap.size w w':=by
 have a:=Bfu (L:={ L with }) w s sep d h1;rw[Aid h1,Auf]at a;generalize hd8 sep=c at a|-;have b:∀args w,(callFunc _ args).run P w=.ok _ w:=enters_of L.f220 κ rfl
 go_enter L.f145,Body.n145_ntmps ρ
 go_wp2_with (go_at_fn (ρ.f 220);refine a.mono ?_;rintro e w' ⟨rfl,n,rfl⟩)
 go_ret3
 exact⟨rfl,⟨rfl,rfl,rfl,q_ _,λ_ _=>rfl⟩⟩
def Aqi{n g t:Nat}{x:G.T t}(h:GlAt G n w)(F:G.gl g=C ⟨t,x⟩)(henc:G.enc t x=zs.map λz=>.sc<|.int k z)(hsz:G.sz t=zs.length):∃te fz,w.heap[g]?=C (.cells (zs.map<|Value.int k).toArray te fz):=by
 obtain⟨S,i,_⟩:=h;obtain⟨r,c,te,fz,h1,N⟩:=i g _ F;refine⟨te,fz,?_⟩;rw[h1];have Q:∀(j:Nat) z,zs[j]?=C z->c[j]?=C (.int k z):=λj z d=>by
  generalize B:Value.pointer _=v at r;cases r with
  |rp _ _ off b base U D E vs V A y R=>
   simp only[Value.pointer.injEq,b6_,Addr.mk.injEq]at B;obtain⟨rfl,q,_⟩:=B;have m:base=0:=ω;subst m;rw[h1]at A;obtain⟨rfl,_,_⟩:=Obj.cells.inj<|r_ A;have a:=R j _ (by rw[henc,X_,d];rfl)
   have:=y j (by rw[hsz];exact(f_.1 d).1)
   rw[m_]at this;rw[this];generalize vs j=u at a;cases a;rfl
 have:c=(zs.map<|Value.int k).toArray:=by
  refine Array.ext_getElem? λj=>?_;rw[show(zs.map _).toArray[j]?=(zs.map<|Value.int k)[j]? by simp,X_];cases d:zs[j]? with
  |none=>rw[List.getElem?_eq_none_iff]at d;have L:c.size=G.sz t:=N;rw[Array.getElem?_eq_none ω];rfl
  |some z=>rw[Q j z d];rfl
 rw[this]
def Bc6{g:Nat}{nm:String}(a:P.globalNamed nm=C g)(h:∃te fz,w.heap[g]?=C (.cells (zs.map<|Value.int k).toArray te fz)):Lib.TabIs P w nm k zs:=by obtain⟨te,fz,h⟩:=h;unfold Lib.TabIs World.var?;rw[a,c_,h]
def Bj2(L : Lays.n157 P ρ)(a : (P.info?<|ρ.t 9).map (λi => (i.zero, i.size, i.bytes)) = C (C<|.string aH, 1, 16))(c : P.globalNamed "strings.asciiSpace" = C (ρ.g 0)){x : G.T t}(m : G.gl (ρ.g 0) = C ⟨t, x⟩)(henc : G.enc t x = Lib.asciiSpaceTab.map λz => .sc<|.int .u8 z)(hsz : G.sz t = Lib.asciiSpaceTab.length)
  (w:World) (s:ByteArray) (d:s.size<4294967281) (q:∀b∈s.data.toList,b.toNat<128) (h:GlAt G w.heap.size w) :
  Calls P (ρ.f 157) #[.string s] w λe w'=>e=.returned (.slice (C ⟨w.heap.size,0,H⟩) ((MU [] s.data.toList).map AB).length ((MU [] s.data.toList).map AB).length)/\w'=w.alloc (.cells (((MU [] s.data.toList).map AB).map Value.string).toArray<|ρ.t 9):=by
 have:=Any.strings_Fields L a c s w d (λj b u=>q b<|o_ u)<|Bc6 c<|Aqi h m henc hsz
 rw[show Lib.fields s.data.toList=MU [] s.data.toList from ZY _ _]at this;rw[a3_,List.map_map];exact this
def Bj5(L : LaysM.n171 P ρ){g : Nat}(c : P.globalNamed "internal/strconv.uint64pow10" = C g){x : G.T t}(b : G.gl g = C ⟨t, x⟩)(henc : G.enc t x = Lib.pow10Tab.map λz => .sc<|.int .u64 z)(hsz : G.sz t = Lib.pow10Tab.length)
  (w:World) (n:Int) (h0:-9223372036854775808<=n/\n<=9223372036854775807) (h:GlAt G w.heap.size w) :
  Calls P (ρ.f 171) #[.int .i64 n] w λe w'=>e=.returned (.string<|AB<|Ym n)/\Below w.heap.size w w':=by
 refine(Any.strconv_Itoa L n h0.1 h0.2 w<|Bc6 c<|Aqi h b henc hsz).mono ?_;rintro e w' ⟨rfl,k,os,rfl⟩;rw[Boo h0.1 h0.2];refine⟨rfl,⟨rfl,rfl,rfl,?_,λj a=>?_⟩⟩
 .show w.heap.size<=(w.heap++os).size;rw[Array.size_append];omega
 .show(w.heap++os)[j]?=_;rw[Array.getElem?_append_left a]
def Bj7(L:Lays.n156 P ρ)(X:Builder.Extra P ρ)(w:World)(b o c:Nat)(xs:List ByteArray)(sep:ByteArray)(i:∀(j:Nat) x,xs[j]?=C x->w.cell? ⟨b,o+j,H⟩=C (.string x))(d:b<w.heap.size)(a:xs.length<=c)(q:xs.length<=2147483648)(m:(Mi sep.data.toList (xs.map (·.data.toList))).length<=2147483648) :
  Calls P (ρ.f 156) #[.slice (C ⟨b,o,H⟩) xs.length c,.string sep] w λe w'=>e=.returned (.string (AB (Mi sep.data.toList (xs.map (·.data.toList)))))/\Below w.heap.size w w':=by
 rw[<-Aln]at m|-;exact Any.strings_Join L X b o c xs sep w i d ω a ω
def Bfr(L:Lays.n156 P ρ)(X:Builder.Extra P ρ)(w:World)(a:Option Addr)(c:Nat)(sep:ByteArray) :
  Calls P (ρ.f 156) #[.slice a 0 c,.string sep] w λe w'=>e=.returned (.string<|AB [])/\Below w.heap.size w w':=
 (Any.strings_Join_none L X a c sep w).mono λ_ _ ⟨b,d⟩=>⟨b,d▸Below.refl _ _⟩
def Bjs(L:SlLaysH.n10 P ρ)(d:∀w,(zeroValue<|ρ.t 23).run P w=.ok (.string aH) w){f:Nat}(D:∀args w,(callFunc f args).run P w=.ok (.enter f args) w)(m:∀(W:World) (x:ByteArray),Calls P f #[.string x] W λe w'=>e=.returned (.bool<|aC x.size 0)/\∃q,w'=W.drewN q)
  {t:Nat}(w:World) (g0 a:Nat) (l:List ByteArray) (j:w.ownsRow 0 t 1 (.slice (C ⟨g0,0,H⟩) l.length a) l.length<|l.map Value.string) (N:l.length<=4294967296) :
  Calls P (ρ.f 10) #[.slice (C ⟨g0,0,H⟩) l.length a,.func (.func f) #[] #[]] w λe w'=>e=.returned (.slice (C ⟨g0,0,H⟩) (l.filter λs=>!aC s.size 0).length a)/\w'.ownsRow 0 t 1 (.slice (C ⟨g0,0,H⟩) (l.filter λs=>!aC s.size 0).length a) (l.filter λs=>!aC s.size 0).length ((l.filter λs=>!aC s.size 0).map Value.string)/\
    w.heap.size<=w'.heap.size/\(∀k,k<w.heap.size->k≠g0->w'.heap[k]?=w.heap[k]?)/\w'.os=w.os/\w'.tape=w.tape/\w'.output=w.output:=by
 obtain⟨g,b,B,_,A,y,E,_,u⟩:=Lib.holds_of_ownsRow j (by intro h;cases h);obtain⟨rfl,rfl⟩:g0=g/\a=b:=by cases B;exact⟨rfl,rfl⟩
 have:=AnyE.slices_DeleteFunc L Value.string (λ_=>rfl) _ f #[] D aH d g0 0 a l.toArray w (λW x _=>by simpa[FnGives]using m W x) (λn os dk x _=>by simpa[FnGives]using m _ x) u (by simp;omega) (by simpa using y)
 refine this.mono ?_;rintro e w' ⟨rfl,q,rfl⟩;have i:(l.filter λs=>!aC s.size 0).length<=l.length:=List.length_filter_le _ _;refine⟨rfl,?_,?_,λk F c=>?_,rfl,rfl,rfl⟩
 .have h:=Lib.ownsRow_putRow (q:=q) (ys:=(l.filter λs=>!aC s.size 0)++List.replicate (l.length-(l.filter λs=>!aC s.size 0).length) aH) j (by simp;omega) i;rw[d6_ rfl]at h;exact h
 .simp[Sort.putRow,Sort.mapBlock,Sort.ahead]
 .simp[Sort.putRow,Sort.mapBlock,Sort.ahead,e7_,e4_ c]
def Bc3(L:Lays.n169 P ρ)(X:Builder.Extra P ρ){b:Nat}{a0 v:Value}(d:w.heap[b]?=C (.cells #[a0,v] (ρ.t 72) (0,0)))(j:w.ownsRow 0 (ρ.t 5) 1 v 0 []):
  Calls P (ρ.f 169) #[.pointer<|C ⟨b,0,H⟩] w λe w'=>e=.returned (.string ⟨#[]⟩)/\Below w.heap.size w w':=by
 obtain⟨_,⟨rfl,_⟩|⟨g0,a,c,rfl,_,m,_,_,_,_⟩⟩:=j
 .exact Any.Builder_String_nil L X w.heap.size b a0 w d
 .by_cases i:a=0
  .subst i;exact Any.Builder_String_noroom L X w.heap.size b g0 a0 c w (q_ _) d m
  .exact Any.Builder_String_room L X w.heap.size b g0 a a0 w i d
section
variable(ok:aE P G){g r t:Nat}(hent:Ain P g){ofS:ByteArray->G.T t}(hsz:G.sz t=1)(hof:∀s,G.enc t (ofS s)=[.sc (.string s)])
include ok hent hsz hof
theorem Bqj{F:ByteArray->ByteArray->Option ((List (G.T t)×Unit)×Unit)}(d:∀s q y,F s q=C y->(s.size<4294967281/\q.size=1)/\(((MY (hd8 q) s.data.toList).map AB).map ofS,())=y.1)(L:Lays.n146 P ρ)(a:(P.info?<|ρ.t 9).map (λi=>(i.zero,i.size,i.bytes))=C (C<|.string aH,1,16))(b:ρ.f 146=g)(c:ρ.t 9=t):Dq P G g<|Ayg G r t F:=by
 subst b c;refine Btc ok hent hsz hof d (λs q h=>?_) λw s q h _=>Bkt L a w s q h.1 h.2;rw[a3_]
 have:=Ar3 (hd8 q) s.data.toList
 rw[<-Lib.size_eq]at this;unfold maxLen;omega
theorem Bod {F : ByteArray -> Option ((List (G.T t) × Unit) × Unit)} (j : ∀ s y, F s = C y -> (s.size < 4294967281 /\ ∀ b ∈ s.data.toList, b.toNat < 128) /\ (((MU [] s.data.toList).map AB).map ofS, ()) = y.1) (L : Lays.n157 P ρ) (d : (P.info?<|ρ.t 9).map (λi => (i.zero, i.size, i.bytes)) = C (C<|.string aH, 1, 16)) (q : P.globalNamed "strings.asciiSpace" = C (ρ.g 0))
  {tt:Nat}{x:G.T tt}(a:G.gl (ρ.g 0)=C ⟨tt,x⟩) (henc:G.enc tt x=Lib.asciiSpaceTab.map λz=>.sc<|.int .u8 z) (c:G.sz tt=Lib.asciiSpaceTab.length) (m:ρ.f 157=g) (u:ρ.t 9=t):Dq P G g<|Axd G r t F:=by
 subst m u;refine Bsj ok hent hsz hof j (λs h=>?_) λw s h A=>Bj2 L d q a henc c w s h.1 h.2 A;rw[a3_]
 have:=Aee s.data.toList []
 rw[<-Lib.size_eq]at this;unfold maxLen;omega
end
end
end Go.Ab
