import Derived.Test.YthidicpicnalfaaGreatDoorAbC
import Derived.Laws.CopyRow
import Derived.Laws.AppendOwn
import Derived.Laws.Append
import Derived.Below
import Derived.Lib.AppendStr
import Derived.Shelf.Spec.SlicesInsertGrow
import Derived.Deep.LoopGhost
import Derived.Lib.SliceRun
import Derived.Shelf.Strings.Builder1
import Derived.Lib.UnsafeStr
import Derived.Lib.AppendZeros
set_option linter.all false
open Option renaming some->C,none->H
open Go.Ab renaming get->J,Spec->Y
open Go.Ab.Spec renaming mk'->L
open Bool renaming true->O
open Nat renaming min->aA
open Array renaming toList_append->aB
namespace Go.Ab
variable{G:Sig}
variable{P:Program}{ν:Nat->Option Value}{w:World}{new:Array Value}{ys:List Value}{g:Nat}
section
variable{P:Program}(w:World)
theorem WF(dT I ty l:TypeId)(i:TypeInfo)(g o c y:Nat)(a:Addr)(d u:Nat)(b:Array Value)(t:TypeId)(cs:List Value)
  (E:P.underlying dT=C (.slice l)) (F:P.info? l=C i)
  (D:w.heap[g]?=C (.cells b t (0,0))) (N:cs.length=aA d c*i.size)
  (A:∀j v,cs[j]?=C v->w.cell? (a.add j)=C v) (m:o+cs.length<=b.size) (h1:∀v∈cs,v.oneCell'=O) :
  (Builtin.copy_ #[dT,I] ty #[.slice (C ⟨g,o,H⟩) c y,.slice (C a) d u]).run P w=
   .ok (goInt<|aA d c) (w.setRow g (b.toList.take o++cs++b.toList.drop (o+cs.length)).toArray):=by
 have B:=run_loadCells_list (P:=P) w a cs A;rw[N]at B;have q:=run_storeCells_at P g o t cs 0 b w D (by simpa using m) h1;simp only[c7_]at q;simp[Builtin.copy_,M_ E,Builtin.lenOf,Builtin.firstCells,sizeOf,typeInfo,F,B,q]
end
def rowHeap{a:Array Value}{t:TypeId}{fz:Nat×Nat}(b:w.heap[g]?=C (.cells a t fz)):(w.setRow g new).heap[g]?=C (.cells new t fz):=by unfold World.setRow;simp only;rw[g2_,if_pos rfl,b];rfl
def rowOther{b:Nat}(h:b≠g):(w.setRow g new).heap[b]?=w.heap[b]?:=by unfold World.setRow;simp[g2_,a7_ h]
def rowSize:(w.setRow g new).heap.size=w.heap.size:=by unfold World.setRow;simp
structure RowOut(w w':World)(t k:Nat)(vS v':Value)(n:Nat)(ys:List Value):Prop where
 row:w'.ownsRow 0 t k v' n ys
 blk:∀b,v'.ownBlock=some b->vS.ownBlock=some b\/w.heap.size<=b
 grow:w.grownBy w' vS.ownBlock
def ERel(G:Sig)(S:Nat->Prop)(h:Array Obj)(t:Nat)(l:List<|G.T t)(ys:List Value):Prop:=ys.length=l.length*G.sz t/\(∀u∈ys,u.oneCell'=O)/\∀(i j:Nat) (x:G.T t) (a:Cv G.T),l[i]?=C x->(G.enc t x)[j]?=C a->∃v,ys[i*G.sz t+j]?=C v/\Rd G S h a v
section
variable{S:Nat->Prop}{h:Array Obj}{t:Nat}
def ERel.nil:ERel G S h t [] []:=⟨σ,σ,σ⟩
def YN(ok:SigOK P G){x:G.T t}{j:Nat}{b:Cv G.T}(a:(G.enc t x)[j]?=C b):j<G.sz t:=d4_ (e_.1 a).1<|ok.encl t x
def VW{i n k j:Nat}(a:i<n)(b:j<k):i*k+j<n*k:=by
 have:(i+1)*k<=n*k:=w_ _ a
 rw[a0_]at this;omega
def ERel.append{l D:List<|G.T t}{d:List Value}(ok:SigOK P G)(a:ERel G S h t l ys)(b:ERel G S h t D d):ERel G S h t (l++D)<|ys++d:=by
 refine⟨by rw[f_,f_,a.1,b.1,a0_],λu c=>?_,λi j x A m q=>?_⟩
 .rcases m_.1 c with c|c
  .exact a.2.1 u c
  .exact b.2.1 u c
 .have E:=YN ok q;rw[g6_]at m;split at m
  .rename_i B;obtain⟨v,h1,y⟩:=a.2.2 i j x A m q;exact⟨v,by rw[b2_ (by rw[a.1];exact VW B E)];exact h1,y⟩
  .rename_i B;obtain⟨v,h1,y⟩:=b.2.2 _ j x A m q;have F:l.length*G.sz t<=i*G.sz t:=w_ _ ω;refine⟨v,?_,y⟩;rw[b8_ (by rw[a.1];omega),a.1];rw[Nat.sub_mul]at h1;rw[<-h1];congr 1;omega
def ERel.take{l:List<|G.T t}(ok:SigOK P G)(a:ERel G S h t l ys)(n:Nat):ERel G S h t (l.take n)<|ys.take<|n*G.sz t:=by
 refine⟨by rw[x_,x_,a.1,Nat.mul_min_mul_right],λu q=>a.2.1 u<|e4_ q,λi j x d b c=>?_⟩;have m:=YN ok c;rw[List.getElem?_take]at b;split at b
 .rename_i y;obtain⟨v,h1,A⟩:=a.2.2 i j x d b c;exact⟨v,by rw[B_<|VW y m];exact h1,A⟩
 .cases b
def ERel.drop{l:List<|G.T t}(a:ERel G S h t l ys)(n:Nat):ERel G S h t (l.drop n)<|ys.drop<|n*G.sz t:=by refine⟨by rw[U_,U_,a.1,Nat.sub_mul],λu m=>a.2.1 u<|e5_ m,λi j x d b c=>?_⟩;rw[c1_]at b;obtain⟨v,h1,q⟩:=a.2.2 (n+i) j x d b c;exact⟨v,by rw[c1_,<-h1];congr 1;rw[a0_];omega,q⟩
end
def Aar(ok:SigOK P G){S B:Nat->Prop}{h:Nat->Option (Blk G.T)}(U:HRel G ν S B h w){n t:Nat}{l:List<|G.T t}(hn:h n=C (.row t l))(hty:G.ty t≠ .no)(henc:∀x,(G.enc t x).length=G.sz t){v:Value}(I:ν n=C v):
  ∃ys,w.ownsRow 0 t (G.sz t) v l.length ys/\ERel G S w.heap t l ys/\(∀b,v.ownBlock=C b->¬S b/\B b/\b<w.heap.size/\AX v=C b):=by
 have y:=ok.pos t hty;rcases U.blk n _ hn with⟨h1,E⟩|⟨b,D,c,te,h1,E,Z,h4,Q,A,h7⟩
 .rw[I]at h1;cases h1;subst E;exact⟨[],⟨σ,.inl ⟨rfl,rfl⟩⟩,ERel.nil,λb hb=>by simp[Value.ownBlock]at hb⟩
 .rw[I]at h1;cases h1;subst A;have V:l.length*G.sz te<=D*G.sz te:=w_ _ Z;refine⟨c.toList.take<|l.length*G.sz te,⟨by simp;omega,.inr ⟨b,D,c,rfl,W_ _,E,Z,h7,h4,rfl⟩⟩,⟨by simp;omega,λu F=>?_,λi j x cv X R=>?_⟩,λb' m=>?_⟩
  .obtain⟨j,W,e⟩:=List.getElem_of_mem F;have q:j<l.length*G.sz te:=by simp at W;omega
   have N:j/G.sz te<l.length:=Nat.div_lt_of_lt_mul (by rw[f3_];exact q);have hm:j%G.sz te<(G.enc te l[j/G.sz te]).length:=by rw[henc];exact g4_ _ y
   obtain⟨u',d,a⟩:=Q (j/G.sz te) (j%G.sz te) _ _ (h_ N)<|h_ hm;rw[f3_,Nat.div_add_mod]at d
   have:u=u':=by
    have A:(c.toList.take<|l.length*G.sz te)[j]?=C u:=by rw[<-e];exact h_ W
    rw[B_ q]at A;simp at A;rw[A]at d;simpa using d
   rw[this];exact Wb a
  .obtain⟨u,F,a⟩:=Q i j x cv X R;have N:i<l.length:=(e_.1 X).1;exact⟨u,by rw[B_<|VW N<|YN ok R];simpa using F,a⟩
  .simp[Value.ownBlock]at m;subst m;obtain⟨q1,q2⟩:=U.own n _ b (by rw[hn];simp) I rfl;exact⟨q1,q2,(J_.1 E).1,rfl⟩
def LR(ν:Nat->Option Value)(m:Nat)(v:Value):Nat->Option Value:=λn=>if n=m then C v else if lo<=n then ν n else H
def QG(ok:SigOK P G){S R:Nat->Prop}{hp:Nat->Option (Blk G.T)}{w':World}(V:HRel G ν S (λb=>R b\/w.heap.size<=b) hp w)
  {t n m:Nat}{vS E:Value}{ys:List Value}{l:List<|G.T t}(d:RowOut w w' t (G.sz t) vS E n ys) (W:∀b,vS.ownBlock=C b->¬S b/\R b) (hE:ERel G S w.heap t l ys) (hn:n=l.length) (hm:m<lo) :
  Rs G (LR ν m E) S w'.heap (.p<|.one<|.own m) E/\HRel G (LR ν m E) S (λb=>R b\/w.heap.size<=b) (J [(m,.row t l)]) w'/\
   (∀b,S b->S b)/\(∀b,S b->S b\/R b\/w.heap.size<=b)/\(∀n y,lo<=n->ν n=C y->LR ν m E n=C y)/\
   w.heap.size<=w'.heap.size/\(∀b,b<w.heap.size->¬R b->w'.heap[b]?=w.heap[b]?)/\(w'.os=w.os/\w'.tape=w.tape/\w'.output=w.output):=by
 have B:∀b,S b->w'.heap[b]?=w.heap[b]?:=λb D=>d.grow.block b (V.stay b D) λe=>(W b e.symm).1 D;have F:LR ν m E m=C E:=by simp[LR]
 have A:∃a len u,E=.slice a len u:=by
  obtain⟨_,h|⟨g,u,Q,h,_⟩⟩:=d.row
  .exact⟨_,_,_,h.1⟩
  .exact⟨_,_,_,h⟩
 refine⟨.p _ _<|.one _ _ ?_,⟨λn' k U=>?_,λa b x y c ha D N hy h8 h9=>?_,λn' x b I N D=>?_,λb D=>d4_ (V.stay b D) d.grow.size,V.gl.mono (λ_ h=>h) B⟩,λ_ h=>h,λ_ h=>.inl h,λn' y h0 hy=>?_,d.grow.size,λb D h7=>d.grow.block b D λe=>h7 (W b e.symm).2,d.grow.os,d.grow.tape,d.grow.output⟩
 .obtain⟨a,len,u,e⟩:=A;exact⟨a,len,u,F,e⟩
 .simp only[J,Bs]at U;split at U
  .rename_i e;subst e;cases U;obtain⟨hl,h|⟨g,u,Q,h1,_,h2,h3,h4,h5,h6⟩⟩:=d.row
   .left;refine⟨by rw[F,h.1],?_⟩
    have:=h.2;rw[hn]at this
    exact S_ this
   .right;rw[hn]at h1 h3 h6;refine⟨g,u,Q,t,by rw[F,h1],h2,h3,h5,λi j x cv N hc=>?_,rfl,h4⟩;obtain⟨v,hv,X⟩:=hE.2.2 i j x cv N hc;have hi:i<l.length:=(e_.1 N).1;rw[<-h6,B_<|VW hi<|YN ok hc]at hv;exact⟨v,by simpa using hv,X.mono (λ_ h=>h) B⟩
  .cases U
 .have one:∀q,J [(m,Blk.row t l)] q≠H->q=m:=λq hq=>by
   simp only[J,Bs]at hq;split at hq
   .rename_i e;exact e.symm
   .exact absurd rfl hq
  rw[one a ha,one b D]
 .have e:n'=m:=by
   simp only[J,Bs]at I;split at I
   .rename_i e;exact e.symm
   .exact absurd rfl I
  subst e;rw[F]at N;cases N;have Z:E.ownBlock=C b:=by
   obtain⟨a,len,u,rfl⟩:=A;cases a with
   |none=>simp[AX]at D
   |some a=>simpa[AX,Value.ownBlock]using D
  rcases d.blk b Z with h|h
  .exact⟨(W b h).1,.inl (W b h).2⟩
  .exact⟨λhs=>by have:=V.stay b hs;omega,.inr h⟩
 .unfold LR;rw[if_neg ω,if_pos h0];exact hy
end Go.Ab
namespace Go.Ab
variable{G:Sig}
def Ao0(r t:Nat):List<|Ex×Y:=[(.ret,⟨[(r,.one<|.own 32768 t)],[],[]⟩)]
def Bjt(t:Nat):Y:=⟨[(0,.one<|.own 32768 t),(1,.one<|.int .i64),(2,.one<|.own 32769 t)],[],[]⟩
def Bjf(t:Nat):Y:=⟨[(0,.one<|.own 32768 t),(1,.one<|.int .i64),(2,.one<|.int .i64)],[],[]⟩
def Bje(t:Nat):Y:=⟨[(0,.one<|.ro t)],[],[]⟩
def Acn{α:Type}(l:List α)(i:Int)(v:List α):Option<|(List α×Unit)×Unit:=bif(decide (0<=i)&&decide (i<=(l.length:Int)))&&(Nat.blt 0 v.length&&Nat.ble (l.length+v.length) 2147483648)then C ((l.take i.toNat++v++l.drop i.toNat,()),())else H
def Am2{α:Type}(l:List α)(i j:Int):Option<|(List α×Unit)×Unit:=bif(decide (0<=i)&&decide (i<j))&&decide (j<=(l.length:Int))then C ((l.take i.toNat++l.drop j.toNat,()),())else H
def Lv{α:Type}(l:List α):Option<|(List α×Unit)×Unit:=bif Nat.ble l.length 2147483648 then C ((l,()),())else H
def Bme(G:Sig)(r t:Nat):Fe G:=⟨Bjt t,Ao0 r t,λx=>(Acn x.1.1 x.1.2.1 x.1.2.2.1:Option<|(List (G.T t)×Unit)×Unit),[.tmp r]⟩
def Bl8(G:Sig)(r t:Nat):Fe G:=⟨Bjf t,Ao0 r t,λx=>(Am2 x.1.1 x.1.2.1 x.1.2.2.1:Option<|(List (G.T t)×Unit)×Unit),[.tmp r]⟩
def Bl7(G:Sig)(r t:Nat):Fe G:=⟨Bje t,Ao0 r t,λx=>(Lv x.1.1:Option<|(List (G.T t)×Unit)×Unit),[.tmp r]⟩
def Rj{α:Type}{b:Bool}{x y:α}(h:(bif b then C x else H)=C y):b=O/\x=y:=by
 cases b with
 |true=>exact⟨rfl,s_ h⟩
 |false=>cases h
def XE{I:Y}(i:I.hp=[]){r t:Nat}{y:(List (G.T t)×Unit)×Unit}{p:Ex×St G}{s:Sv G.T}{bl:List<|List<|Cv G.T}(hp:Hm (Ao0 r t) y C=C p)(b:KT I [.tmp r] p=C (s,bl)) :
  p.2.hp=[(32768,.row t y.1.1)]/\s=.p (.one<|.own 32768)/\bl=[]:=by
 have c:p=(.ret,L ⟨[(r,.one<|.own 32768 t)],[],[]⟩ y):=(s_ hp).symm;subst c;unfold KT at b;rw[i]at b;have d:J [(r,(Sv.p (.one<|.own 32768):Sv G.T))] r=C (.p<|.one<|.own 32768):=by simp[J]
 have a:RN (L ⟨[(r,.one<|.own 32768 t)],[],[]⟩ y:St G) [.tmp r]=C (.p<|.one<|.own 32768):=by
  unfold RN
  have:Jp (L ⟨[(r,.one<|.own 32768 t)],[],[]⟩ y:St G) [.tmp r]=C [.one<|.own 32768]:=by simp only[Jp,UN,L,Li,PSh.give,CSh.give,d]
  rw[this]
 simp only[a,AH,VN,DT,c4_,b9_]at b;exact⟨rfl,b.1.symm,b.2.symm⟩
section
variable{P:Program}(ok:SigOK P G){g r t:Nat}(hent:Asi P g)(hty:G.ty t≠ .no)(henc:∀x,(G.enc t x).length=G.sz t)
include ok hent hty henc
theorem Acu (A : ∀ (w : World) (n i m : Nat) (xs vs : List Value) (B E : Value), w.ownsRow 0 t (G.sz t) B n xs -> w.ownsRow 0 t (G.sz t) E m vs -> (∀ b, B.ownBlock = C b -> E.ownBlock ≠ C b) -> (∀ u ∈ xs, u.oneCell' = O) -> (∀ u ∈ vs, u.oneCell' = O) ->
      i<=n->0<m->n+m<=2147483648->Calls P g #[B,.int .i64 i,E] w λe w'=>∃Q,e=.returned Q/\RowOut w w' t (G.sz t) B Q (n+m) (xs.take (i*G.sz t)++vs++xs.drop (i*G.sz t))):Ha P G g<|Bme G r t:=by
  refine⟨hent,λx y p s bl hy hp ho ν S mo w D d _ W q=>?_⟩;obtain⟨⟨(l:List<|G.T t),(i:Int),(v:List<|G.T t),_⟩,_⟩:=x;obtain⟨h1,h2⟩:=Rj hy;obtain⟨h3,rfl,rfl⟩:=XE (I:=Bjt t) rfl hp ho;subst h2;simp only[b_,r_,g5_,Nat.ble_eq]at h1;obtain⟨⟨g1,g2⟩,g3,g4⟩:=h1;have s0:=q 0 (.p<|.one<|.own 32768) rfl;have s1:=q 1 (.p<|.one<|.sc<|.int .i64 i) rfl;have s2:=q 2 (.p<|.one<|.own 32769) rfl;have F:∃a b c,D=[a,b,c]:=by
    match D,W with
    |[a,b,c],_=>exact⟨a,b,c,rfl⟩
  obtain⟨B,Z,E,rfl⟩:=F;have X:ν 32768=C B:=by cases s0 with|p _ _ A=>cases A with|one _ _ A=>obtain⟨_,_,_,h,_⟩:=A;exact h
  have e2:ν 32769=C E:=by cases s2 with|p _ _ A=>cases A with|one _ _ A=>obtain⟨_,_,_,h,_⟩:=A;exact h
  have e1:Z=.int .i64 i:=by cases s1 with|p _ _ A=>cases A with|one _ _ A=>cases(show Rd G S w.heap (.sc<|.int .i64 i) Z from A);rfl
  subst e1;obtain⟨xs,o1,r1,b1⟩:=Aar ok d (n:=32768) (t:=t) (l:=l) rfl hty henc X;obtain⟨vs,o2,r2,b2⟩:=Aar ok d (n:=32769) (t:=t) (l:=v) rfl hty henc e2;have R:∀b,B.ownBlock=C b->E.ownBlock≠C b:=λb V U=>by
    have:=d.apart 32768 32769 B E b (by show C _≠H;simp) (by show C _≠H;simp) X e2 (b1 b V).2.2.2 (b2 b U).2.2.2
    cases this
  obtain⟨j,rfl⟩:∃j:Nat,i=(j:Int):=⟨i.toNat,ω⟩
  refine(A w l.length j v.length xs vs B E o1 o2 R r1.2.1 r2.2.1 ω g3 g4).mono ?_;rintro e w' ⟨Q,rfl,N⟩;have hE:ERel G S w.heap t (l.take j++v++l.drop j)<|xs.take (j*G.sz t)++vs++xs.drop (j*G.sz t):=((r1.take ok j).append ok r2).append ok<|r1.drop j
  have:=QG ok d (m:=32768) (l:=l.take j++v++l.drop j) N (λb V=>by obtain⟨q1,q2,q3,_⟩:=b1 b V;exact⟨q1,q2.resolve_right ω⟩) hE (by simp;omega) τ
  rw[h3];exact⟨Q,LR ν 32768 Q,S,rfl,this⟩
theorem Am3 (q : ∀ (w : World) (n i j : Nat) (xs : List Value) (D : Value), w.ownsRow 0 t (G.sz t) D n xs -> (∀ u ∈ xs, u.oneCell' = O) ->
      i<j->j<=n->Calls P g #[D,.int .i64 i,.int .i64 j] w λe w'=>∃F,e=.returned F/\RowOut w w' t (G.sz t) D F (n-(j-i)) (xs.take (i*G.sz t)++xs.drop (j*G.sz t))):Ha P G g<|Bl8 G r t:=by
  refine⟨hent,λx y p s bl hy hp ho ν S mo w A v _ N d=>?_⟩;obtain⟨⟨(l:List<|G.T t),(i:Int),(j:Int),_⟩,_⟩:=x;obtain⟨h1,h2⟩:=Rj hy;obtain⟨h3,rfl,rfl⟩:=XE (I:=Bjf t) rfl hp ho;subst h2;simp only[b_,r_]at h1;obtain⟨⟨g1,g2⟩,g3⟩:=h1;have U:=d 0 (.p<|.one<|.own 32768) rfl;have Z:=d 1 (.p<|.one<|.sc<|.int .i64 i) rfl;have s2:=d 2 (.p<|.one<|.sc<|.int .i64 j) rfl;have B:∃a b c,A=[a,b,c]:=by
    match A,N with
    |[a,b,c],_=>exact⟨a,b,c,rfl⟩
  obtain⟨D,R,Q,rfl⟩:=B;have V:ν 32768=C D:=by cases U with|p _ _ q=>cases q with|one _ _ q=>obtain⟨_,_,_,h,_⟩:=q;exact h
  have W:R=.int .i64 i:=by cases Z with|p _ _ q=>cases q with|one _ _ q=>cases(show Rd G S w.heap (.sc<|.int .i64 i) R from q);rfl
  have e2:Q=.int .i64 j:=by cases s2 with|p _ _ q=>cases q with|one _ _ q=>cases(show Rd G S w.heap (.sc<|.int .i64 j) Q from q);rfl
  subst W e2;obtain⟨xs,o1,r1,b1⟩:=Aar ok v (n:=32768) (t:=t) (l:=l) rfl hty henc V;obtain⟨a,rfl⟩:∃a:Nat,i=(a:Int):=⟨i.toNat,ω⟩
  obtain⟨c,rfl⟩:∃c:Nat,j=(c:Int):=⟨j.toNat,ω⟩
  refine(q w l.length a c xs D o1 r1.2.1 ω ω).mono ?_;rintro e w' ⟨F,rfl,E⟩;have hE:ERel G S w.heap t (l.take a++l.drop c)<|xs.take (a*G.sz t)++xs.drop (c*G.sz t):=(r1.take ok a).append ok<|r1.drop c
  have:=QG ok v (m:=32768) (l:=l.take a++l.drop c) E (λb hb=>by obtain⟨q1,X,q3,_⟩:=b1 b hb;exact⟨q1,X.resolve_right ω⟩) hE (by simp;omega) τ
  rw[h3];exact⟨F,LR ν 32768 F,S,rfl,this⟩
omit hty henc in
theorem Ke{tS size bytes:Nat}(h4:G.ty tS=.sl t)(hsz:size=G.sz t)(h5:bytes<=4096)
  (ha:∀(w:World) (a:Addr) (n c:Nat) (news:List Value),news.length=n*size->n<=maxLen->n*bytes<=140737488355328->(∀j u,news[j]?=C u->w.cell? (a.add j)=C u)->(∀u∈news,u.oneCell'=O)->
   Calls P g #[.slice (C a) n c] w λe w'=>∃A,e=.returned A/\w'.ownsRow w.heap.size t size A n news/\A≠ .slice H 0 0/\RowKit.Below w.heap.size w w')
  (h8:∀(w:World) (n c:Nat),Calls P g #[.slice H n c] w λe w'=>e=.returned (.slice H 0 0)/\w'=w):Ha P G g<|Bl7 G r t:=by
 refine⟨hent,λx y p s bl hy hp ho ν S mo w B q _ h9 Q=>?_⟩;obtain⟨⟨(l:List<|G.T t),_⟩,_⟩:=x;obtain⟨h1,h2⟩:=Rj hy;obtain⟨h3,rfl,rfl⟩:=XE (I:=Bje t) rfl hp ho;subst h2;rw[Nat.ble_eq]at h1;have s0:=Q 0 (.p<|.one<|.ro t l) rfl;have N:∃a,B=[a]:=by
  match B,h9 with
  |[a],_=>exact⟨a,rfl⟩
 obtain⟨vS,rfl⟩:=N;have h6:Rc G ν S w.heap (.ro t l) vS:=by cases s0 with|p _ _ hc=>cases hc with|one _ _ hc=>exact hc
 obtain⟨a,hd,hv,h0,vs,i,U,D,W⟩:=Nj ok q (t:=tS) (e:=t) h4 (c:=.ro t l) (l:=l) (by simp[Ix,OV]) h6;have hE:ERel G S w.heap t l vs:=⟨i,D,W⟩
 have Z:∀(A:Value) (w':World),RowOut w w' t (G.sz t) (.slice H 0 0) A l.length vs->∃v ν' S',Ending.returned A=Ending.returned v/\Rs G ν' S' w'.heap (.p<|.one<|.own 32768) v/\HRel G ν' S' (λb=>mo b\/w.heap.size<=b) (J p.2.hp) w'/\
   (∀b,S b->S' b)/\(∀b,S' b->S b\/mo b\/w.heap.size<=b)/\(∀n y,lo<=n->ν n=C y->ν' n=C y)/\
   w.heap.size<=w'.heap.size/\(∀b,b<w.heap.size->¬mo b->w'.heap[b]?=w.heap[b]?)/\(w'.os=w.os/\w'.tape=w.tape/\w'.output=w.output):=λA w' X=>by
  have:=QG ok q (m:=32768) (l:=l) X (λb E=>by simp[Value.ownBlock]at E) hE rfl τ
  rw[h3];exact⟨A,LR ν 32768 A,S,rfl,this⟩
 subst hv;cases a with
 |none=>obtain rfl:=h0 rfl;refine(h8 w _ _).mono ?_;rintro e w' ⟨rfl,rfl⟩;have hz:vs=[]:=S_ (by rw[i];simp);exact Z _ _ ⟨by rw[hz];exact⟨σ,.inl ⟨rfl,rfl⟩⟩,λb E=>by simp[Value.ownBlock]at E,⟨rfl,rfl,rfl,t_ _,λ_ _ _=>rfl⟩⟩
 |some a=>
  have h7:l.length*bytes<=140737488355328:=by
   have:l.length*bytes<=2147483648*4096:=Nat.mul_le_mul h1 h5
   omega
  refine(ha w a l.length hd vs (by rw[hsz];exact i) (c5_ h1 τ) h7 (λj u hj=>U a rfl j u hj) D).mono ?_;rintro e w' ⟨A,rfl,F,_,d⟩;subst hsz;refine Z A w' ⟨?_,λb E=>.inr ?_,⟨d.os,d.tape,d.output,d.size,λk hk _=>d.block k hk⟩⟩
  .obtain⟨q1,R|⟨b,c2,V,R,_,q4⟩⟩:=F
   .exact⟨q1,.inl R⟩
   .exact⟨q1,.inr ⟨b,c2,V,R,W_ _,q4⟩⟩
  .obtain⟨_,R|⟨b',c2,V,R,q3,_⟩⟩:=F
   .rw[R.1]at E;simp[Value.ownBlock]at E
   .rw[R]at E;simp[Value.ownBlock]at E;omega
end
end Go.Ab
namespace Go.Ab
open Go.Lib
variable{G:Sig}
variable{w:World}{x:Value}
def Abb(w:World)(A:Array Value)(e:TypeId):(w.drew.alloc<|.cells A e).heap.size=w.heap.size+1/\(w.drew.alloc<|.cells A e).heap[w.heap.size]?=C (.cells A e (0,0))/\(∀k,k<w.heap.size->(w.drew.alloc<|.cells A e).heap[k]?=w.heap[k]?):=by
 refine⟨(show(w.heap.push _).size=_ by rw[Array.size_push]),?_,λk a=>?_⟩
 .show(w.heap.push _)[w.heap.size]?=_;rw[Array.getElem?_push,if_pos rfl]
 .show(w.heap.push _)[k]?=_;rw[Array.getElem?_push_lt a,c0_ a]
def Apa(s:ByteArray):∀u∈strCells s,u.oneCell'=O:=by intro u a;simp only[strCells,b6_]at a;obtain⟨b,_,rfl⟩:=a;rfl
def Biu{P:Program}(w:World){t u e:TypeId}{i:TypeInfo}(N:P.underlying t=C (.slice e))(F:P.underlying u=C .string)(Q:P.info? e=C i)(hz:i.zero=C (.int .u8 0))(m:i.size=1)(q:i.bytes=1)
  {v:Value}{n:Nat}{xs:List Value}(B:w.ownsRow 0 e 1 v n xs) (s:ByteArray) (h4:n+s.size<=2147483648) :
  ∃v' w',(∀ty,(Builtin.append_ #[t,u] ty #[v,.string s]).run P w=.ok v' w')/\RowOut w w' e 1 v v' (n+s.size) (xs++strCells s):=by
 have a:(strCells s).length=s.size:=strCells_length s;obtain⟨d,⟨rfl,rfl⟩|⟨b,c,l,rfl,_,hg,h5,W,h1,y⟩⟩:=B
 .by_cases h0:s.size=0
  .refine⟨.slice H 0 0,w,λty=>?_,⟨by simp[a,h0,d],.inl ⟨rfl,ω⟩⟩,λb A=>by simp[Value.ownBlock]at A,⟨rfl,rfl,rfl,t_ _,λ_ _ _=>rfl⟩⟩;have hf:=run_firstCells_string (P:=P) w 1 s;rw[h0]at hf;simp[Builtin.append_,M_ N,M_ F,sizeOf,typeInfo,Q,m,Builtin.lenOf,h0,hf]
  .have R:xs=[]:=S_ ω;subst R;have E:=λty=>run_append_nil_string (P:=P) w t u ty e i (.int .u8 0) N F Q hz s ω ω (by rw[q];omega);obtain⟨p1,V,p3⟩:=Abb w (Array.map (λb=>Value.int .u8 b.toNat) s.data++Builtin.zeroCells (Value.int .u8 0).cells (grownCap w s.size 0 e-s.size)) e;have h3:=grownCap_ge w s.size 0 e;refine⟨_,_,E,⟨by simp[a],.inr ⟨w.heap.size,_,_,by rw[n_],W_ _,V,ω,grownCap_le_maxLen w _ _ _ (by unfold maxLen;omega),?_,?_⟩⟩,λb A=>.inr (by simp[Value.ownBlock]at A;omega),⟨rfl,rfl,rfl,ω,λk D _=>p3 k D⟩⟩
   .simp[Builtin.zeroCells,Value.cells];show s.size+_=_;omega
   .rw[aB,g9_,e0_,n_,d5_];exact d9_ a
 .by_cases E:n+s.size<=c
  .refine⟨_,_,λty=>run_append_room_string (P:=P) w t u ty e i N F Q m b n c l hg s E ω,⟨by simp[a,d],.inr ⟨b,c,_,rfl,W_ _,Go.Ab.rowHeap hg,E,W,?_,?_⟩⟩,λb' h2=>.inl h2,⟨rfl,rfl,rfl,by rw[Go.Ab.rowSize];exact t_ _,λk D U=>Go.Ab.rowOther (λe=>U (by rw[e];rfl))⟩⟩
   .simp[a,h1];omega
   .rw[c3_];have e1:l.toList.take n=xs:=by rw[<-y,d5_]
    rw[e1];exact d9_ (by rw[f_,a,d];omega)
  .have Z:=λty=>run_append_grow_string (P:=P) w t u ty e i (.int .u8 0) N F Q hz ⟨b,0,H⟩ n c xs (by rw[m];exact d) (λj v I=>by
    rw[<-y,d5_]at I;have X:j<n:=by
     have:=(e_.1 I).1
     simp at this;omega
    rw[B_ X]at I;rw[Hz,n_,e3_ w b _ l e (0,0) hg];simpa using I) s ω ω (by rw[q];exact growslice_fits ω ω)
   obtain⟨p1,V,p3⟩:=Abb w (xs.toArray++(strCells s).toArray++Builtin.zeroCells (Value.int .u8 0).cells (grownCap w (n+s.size) c e-(n+s.size))) e;have h3:=grownCap_ge w (n+s.size) c e;refine⟨_,_,Z,⟨by simp[a,d],.inr ⟨w.heap.size,_,_,rfl,W_ _,V,ω,grownCap_le_maxLen w _ _ _ (by unfold maxLen;omega),?_,?_⟩⟩,λb A=>.inr (by simp[Value.ownBlock]at A;omega),⟨rfl,rfl,rfl,ω,λk D _=>p3 k D⟩⟩
   .simp[Builtin.zeroCells,Value.cells,a,d];omega
   .rw[aB,aB,c3_,c3_];exact d9_ (by rw[f_,a,d];omega)
structure BldOut(w w':World)(b te e:Nat)(a v v':Value)(n:Nat)(ys:List Value):Prop where
 cel:w'.heap[b]?=some (.cells #[a,v'] te (0,0))
 row:w'.ownsRow 0 e 1 v' n ys
 apart:v'.ownBlock≠some b
 blk:∀g,v'.ownBlock=some g->v.ownBlock=some g\/w.heap.size<=g
 rest:∀k,k<w.heap.size->k≠b->some k≠v.ownBlock->w'.heap[k]?=w.heap[k]?
 size:w.heap.size<=w'.heap.size
 env:w'.os=w.os/\w'.tape=w.tape/\w'.output=w.output
def setCell_heap{b o:Nat}{a:Array Value}{t:TypeId}{fz:Nat×Nat}(c:w.heap[b]?=C (.cells a t fz)):(w.setCell ⟨b,o,H⟩ x).heap[b]?=C (.cells (a.setIfInBounds o x) t fz):=by unfold World.setCell;simp only;rw[g2_,if_pos rfl,c];rfl
def setCell_other{b o k:Nat}(h:k≠b):(w.setCell ⟨b,o,H⟩ x).heap[k]?=w.heap[k]?:=by unfold World.setCell;simp[g2_,a7_ h]
def setCell_size{a:Addr}:(w.setCell a x).heap.size=w.heap.size:=by unfold World.setCell;simp
structure CcOut(w w1:World)(b te:Nat)(v:Value):Prop where
 cel:w1.heap[b]?=some (.cells #[.pointer (some ⟨b,0,none⟩),v] te (0,0))
 rest:∀k,k≠b->w1.heap[k]?=w.heap[k]?
 size:w1.heap.size=w.heap.size
 env:w1.os=w.os/\w1.tape=w.tape/\w1.output=w.output
def Zt{c:World}{base e k n:Nat}{v:Value}{xs:List Value}(h:w.ownsRow base e k v n xs)(j:∀g,v.ownBlock=C g->c.heap[g]?=w.heap[g]?):c.ownsRow base e k v n xs:=by
 obtain⟨h1,m|⟨g,b,a,rfl,l,d,i⟩⟩:=h
 .exact⟨h1,.inl m⟩
 .exact⟨h1,.inr ⟨g,b,a,rfl,l,(j g rfl).trans d,i⟩⟩
def Aws{B A:World}{b te e m:Nat}{v l:Value}{ys:List Value}(E:b<w.heap.size)(a:CcOut w B b te v)(i:v.ownBlock≠C b)(c:RowOut B A e 1 v l m ys):BldOut w (A.setCell ⟨b,1,H⟩ l) b te e (.pointer<|C ⟨b,0,H⟩) v l m ys:=by
 have u:b<B.heap.size:=by rw[a.size];exact E
 have F:A.heap[b]?=C (.cells #[.pointer<|C ⟨b,0,H⟩,v] te (0,0)):=by rw[c.grow.block b u (λe=>i e.symm)];exact a.cel
 have d:l.ownBlock≠C b:=λe=>by
  rcases c.blk b e with h|h
  .exact i h
  .omega
 refine⟨by rw[setCell_heap F];rfl,Zt c.row λg q=>setCell_other (λe=>d (by rw[<-e];exact q)),d,λg q=>?_,λk D j y=>?_,?_,?_⟩
 .rcases c.blk g q with h|h
  .exact .inl h
  .exact .inr (by rw[<-a.size];exact h)
 .rw[setCell_other j,c.grow.block k (by rw[a.size];exact D) y,a.rest k j]
 .rw[setCell_size,<-a.size];exact c.grow.size
 .exact⟨c.grow.os.trans a.env.1,c.grow.tape.trans a.env.2.1,c.grow.output.trans a.env.2.2⟩
end Go.Ab
namespace Go.Ab
open Go.Lib
variable{G:Sig}
variable{p:Ex×St G}{s:Sv G.T}{te r0:Nat}
def Ab5(tb te:Nat):List<|Nat×List CSh:=[(65536,[.np 65536 tb,.own 32768 te])]
def wsI(tb te:Nat):Y:=⟨[(0,.one<|.ptr 65536 0),(1,.one .str)],Ab5 tb te,[]⟩
def wsE(r0 r1 tb te:Nat):List<|Ex×Y:=[(.ret,⟨[(r0,.one<|.int .i64),(r1,.one .nili)],Ab5 tb te,[65536]⟩)]
def stI(tb te:Nat):Y:=⟨[(0,.one<|.ptr 65536 0)],Ab5 tb te,[]⟩
def stE(r0 tb te:Nat):List<|Ex×Y:=[(.ret,⟨[(r0,.one .str)],[(65536,[.np 65536 tb,.ro te])],[65536]⟩)]
def wsF{α:Type}(ofB:UInt8->α)(s:ByteArray)(l:List α):Option<|(Int×Unit×Unit)×((Unit×List α×Unit)×Unit):=bif Nat.ble (l.length+s.size) 2147483648 then C (((s.size:Int),(),()),(((),l++s.data.toList.map ofB,()),()))else H
def okB{T:Nat->Type}:List (Cv T)->Bool
 |[.sc<|.int .u8 n]=>decide (0<=n)&&decide (n<256)
 |_=>false
def Avk{α:Type}:List α->Bool
 |[]=>false
 |_=>O
def stF(G:Sig)(te:Nat)(l:List<|G.T te):Option<|(ByteArray×Unit)×((Unit×List (G.T te)×Unit)×Unit):=bif Avk l&&l.all (λx=>okB<|G.enc te x)then C ((ZN G te l,()),(((),l,()),()))else H
def Bs0(G:Sig)(r0 r1 tb te:Nat)(ofB:UInt8->G.T te):Fe G:=⟨wsI tb te,wsE r0 r1 tb te,λx=>(wsF ofB x.1.2.1 x.2.1.2.1:Option<|(Int×Unit×Unit)×((Unit×List (G.T te)×Unit)×Unit)),[.tmp r0,.tmp r1]⟩
def Bsy(G:Sig)(r0 tb te:Nat):Fe G:=⟨stI tb te,stE r0 tb te,λx=>stF G te x.2.1.2.1,[.tmp r0]⟩
def Awt{P:Program}(ok:SigOK P G){ν:Nat->Option Value}{S B:Nat->Prop}{w:World}{tb:Nat}{l:List<|G.T te}(d:HRel G ν S B (J [(32768,.row te l),(65536,.cells [.np 65536 tb,.own 32768])]) w)(hty:G.ty te≠ .no)(henc:∀x,(G.enc te x).length=G.sz te):
  ∃b a v xs,ν 65536=C (.pointer<|C ⟨b,0,H⟩)/\ν 32768=C v/\(a=.pointer H\/a=.pointer (C ⟨b,0,H⟩))/\w.heap[b]?=C (.cells #[a,v] tb (0,0))/\w.ownsRow 0 te (G.sz te) v l.length xs/\ERel G S w.heap te l xs/\
   (∀g,v.ownBlock=C g->¬S g/\B g/\g<w.heap.size/\AX v=C g/\g≠b)/\¬S b/\B b/\b<w.heap.size:=by
 obtain⟨b,c,t',h1,A,h3,V⟩:=d.blk 65536 _ rfl;obtain⟨_,D⟩:=V 65536 tb σ;subst D;obtain⟨a,r,Q,q1,U⟩:=h3.inv;obtain⟨v,r2,j,E,X⟩:=U.inv;have m:=X.inv_nil;subst m j;have q:c=#[a,v]:=by rw[<-e7_ (xs:=c),Q]
 subst q;obtain⟨_,_,_,u,_⟩:=E;obtain⟨xs,o1,o2,o3⟩:=Aar ok d rfl hty henc u;have N:a=.pointer H\/a=.pointer (C ⟨b,0,H⟩):=by
  rcases q1 with h|⟨b',i,h6⟩
  .exact .inl h
  .simp only at i;rw[h1]at i;cases i;exact .inr h6
 obtain⟨F,I⟩:=d.own 65536 _ b (by show C _≠H;simp) h1 rfl;refine⟨b,a,v,xs,h1,u,N,A,o1,o2,λg W=>?_,F,I,(J_.1 A).1⟩;obtain⟨z1,Z,R,y⟩:=o3 g W;refine⟨z1,Z,R,y,λe=>?_⟩;subst e
 have:=d.apart 32768 65536 _ _ g (by show C _≠H;simp) (by show C _≠H;simp) u h1 y rfl
 cases this
def Bk2{tb r1:Nat}(i:r0≠r1){y:(Int×Unit×Unit)×((Unit×List (G.T te)×Unit)×Unit)}{bl:List<|List<|Cv G.T}(hp:Hm (wsE r0 r1 tb te) y C=C p)(b:KT (wsI tb te) [.tmp r0,.tmp r1] p=C (s,bl)):
  p.2.hp=[(32768,.row te y.2.1.2.1),(65536,.cells [.np 65536 tb,.own 32768])]/\s=.tup [.one<|.sc<|.int .i64 y.1.1,.one<|.sc .nilIface]/\bl=[[.np 65536 tb,.own 32768]]:=by
 have l:p=(.ret,L ⟨[(r0,.one<|.int .i64),(r1,.one .nili)],Ab5 tb te,[65536]⟩ y):=(s_ hp).symm;subst l;unfold KT at b;have j:J [(r0,(Sv.p (.one<|.sc<|.int .i64 y.1.1):Sv G.T)),(r1,.p<|.one<|.sc .nilIface)] r0=C (.p<|.one<|.sc<|.int .i64 y.1.1):=by simp[J]
 have d:J [(r0,(Sv.p (.one<|.sc<|.int .i64 y.1.1):Sv G.T)),(r1,.p<|.one<|.sc .nilIface)] r1=C (.p<|.one<|.sc .nilIface):=by simp[J,Bs,i]
 have a:RN (L ⟨[(r0,.one<|.int .i64),(r1,.one .nili)],Ab5 tb te,[65536]⟩ y:St G) [.tmp r0,.tmp r1]=C (.tup [.one<|.sc<|.int .i64 y.1.1,.one<|.sc .nilIface]):=by
  unfold RN
  have:Jp (L ⟨[(r0,.one<|.int .i64),(r1,.one .nili)],Ab5 tb te,[65536]⟩ y:St G) [.tmp r0,.tmp r1]=C [.one<|.sc<|.int .i64 y.1.1,.one<|.sc .nilIface]:=by simp only[Jp,UN,L,Li,PSh.give,CSh.give,j,d]
  rw[this]
 have c:VN (J (L ⟨[(r0,.one<|.int .i64),(r1,.one .nili)],Ab5 tb te,[65536]⟩ y:St G).hp) (AH (wsI tb te).hp)=C [[.np 65536 tb,.own 32768]]:=rfl;simp only[a,c,c4_,b9_]at b;exact⟨rfl,b.1.symm,b.2.symm⟩
def Bkt{tb:Nat}{y:(ByteArray×Unit)×((Unit×List (G.T te)×Unit)×Unit)}{bl:List<|List<|Cv G.T}(hp:Hm (stE r0 tb te) y C=C p)(b:KT (stI tb te) [.tmp r0] p=C (s,bl)):
  p.2.hp=[(65536,.cells [.np 65536 tb,.ro te y.2.1.2.1])]/\s=.p (.one<|.sc<|.string y.1.1)/\bl=[[.np 65536 tb,.ro te y.2.1.2.1]]:=by
 have i:p=(.ret,L ⟨[(r0,.one .str)],[(65536,[.np 65536 tb,.ro te])],[65536]⟩ y):=(s_ hp).symm;subst i;unfold KT at b;have d:J [(r0,(Sv.p (.one<|.sc<|.string y.1.1):Sv G.T))] r0=C (.p<|.one<|.sc<|.string y.1.1):=by simp[J]
 have a:RN (L ⟨[(r0,.one .str)],[(65536,[.np 65536 tb,.ro te])],[65536]⟩ y:St G) [.tmp r0]=C (.p<|.one<|.sc<|.string y.1.1):=by
  unfold RN
  have:Jp (L ⟨[(r0,.one .str)],[(65536,[.np 65536 tb,.ro te])],[65536]⟩ y:St G) [.tmp r0]=C [.one<|.sc<|.string y.1.1]:=by simp only[Jp,UN,L,Li,PSh.give,CSh.give,d]
  rw[this]
 have c:VN (J (L ⟨[(r0,.one .str)],[(65536,[.np 65536 tb,.ro te])],[65536]⟩ y:St G).hp) (AH (stI tb te).hp)=C [[.np 65536 tb,.ro te y.2.1.2.1]]:=rfl;simp only[a,c,c4_,b9_]at b;exact⟨rfl,b.1.symm,b.2.symm⟩
def Aku{S:Nat->Prop}{h:Array Obj}{ofB:UInt8->G.T te}(hsz:G.sz te=1)(l:∀b,G.enc te (ofB b)=[.sc<|.int .u8 b.toNat])(s:ByteArray):ERel G S h te (s.data.toList.map ofB)<|strCells s:=by
 refine⟨by rw[strCells_length,d3_,hsz,d5_];rfl,Apa s,λi j x m a c=>?_⟩;rw[b3_]at a;cases d:s.data.toList[i]? with
 |none=>rw[d]at a;cases a
 |some b=>
  rw[d]at a;simp only[f9_,c4_]at a;subst a;rw[l]at c;obtain⟨rfl,rfl⟩:j=0/\m=.sc _:=by
   cases j with
   |zero=>simp at c;exact⟨rfl,c.symm⟩
   |succ j=>simp at c
  refine⟨.int .u8 b.toNat,?_,.sc _ rfl⟩;rw[hsz,d5_,c7_];unfold strCells;rw[b3_,d];rfl
section
variable{P:Program}(ok:SigOK P G){g tb te:Nat}(hent:Asi P g)(hty:G.ty te≠ .no)(henc:∀x,(G.enc te x).length=G.sz te)(hsz:G.sz te=1)
include ok hent hty henc hsz
theorem Bgl{r1:Nat}(hh:r0≠r1){ofB:UInt8->G.T te}(hr:∀b,G.enc te (ofB b)=[.sc<|.int .u8 b.toNat])
  (F:∀(b:Nat) (w:World) (a0 v:Value),(a0=.pointer H\/a0=.pointer (C ⟨b,0,H⟩))->w.heap[b]?=C (.cells #[a0,v] tb (0,0))->∀(n:Nat) (xs:List Value),w.ownsRow 0 te 1 v n xs->v.ownBlock≠C b->∀s:ByteArray,n+s.size<=2147483648->
   Calls P g #[.pointer<|C ⟨b,0,H⟩,.string s] w λe w'=>e=.returned (.tuple #[.int .i64 s.size,.nilIface])/\∃V,BldOut w w' b tb te (.pointer<|C ⟨b,0,H⟩) v V (n+s.size)<|xs++strCells s):Ha P G g<|Bs0 G r0 r1 tb te ofB:=by
 refine⟨hent,λx y p s bl hy hp ho ν S mo w h0 A _ hv Q=>?_⟩;obtain⟨⟨_,(sx:ByteArray),_⟩,⟨_,(l:List _),_⟩,_⟩:=x;obtain⟨h1,h2⟩:=Rj hy;obtain⟨h3,rfl,rfl⟩:=Bk2 hh hp ho;subst h2;rw[Nat.ble_eq]at h1;have W:=A;obtain⟨b,a0,v,xs,e1,e2,e3,e4,e5,e6,e7,e8,e9,hw⟩:=Awt ok W hty henc;have s0:=Q 0 _ rfl;have s1:=Q 1 _ rfl;have h5:∃a c,h0=[a,c]:=by
  match h0,hv with
  |[a,c],_=>exact⟨a,c,rfl⟩
 obtain⟨vp,vs,rfl⟩:=h5;have f0:vp=.pointer (C ⟨b,0,H⟩):=by cases s0 with|p _ _ F=>cases F with|one _ _ F=>obtain⟨b',q1,q2⟩:=F;rw[e1]at q1;cases q1;exact q2
 have f1:vs=.string sx:=by cases s1 with|p _ _ F=>cases F with|one _ _ F=>cases F;rfl
 subst f0 f1;rw[hsz]at e5;have h9:mo b:=e9.resolve_right ω;refine(F b w a0 v e3 e4 l.length xs e5 (λe=>(e7 b e).2.2.2.2 rfl) sx h1).mono ?_;rintro e w' ⟨rfl,V,d⟩;have Z:∀q,v.ownBlock=C q->¬S q/\mo q:=λq hq=>by obtain⟨z1,z2,z3,_⟩:=e7 q hq;exact⟨z1,z2.resolve_right ω⟩
 have R:=λq hq=>d.rest q (A.stay q hq) (λe=>e8<|e▸hq) λe=>(Z q e.symm).1 hq;have hE:=e6.append ok<|Aku hsz hr sx;have N:∃a len B,V=.slice a len B:=by
  obtain⟨_,h|⟨g,B,hd,h,_⟩⟩:=d.row
  .exact⟨_,_,_,h.1⟩
  .exact⟨_,_,_,h⟩
 have E:LR ν 32768 V 32768=C V:=rfl;have U:LR ν 32768 V 65536=C _:=e1;have ht:∀q,V.ownBlock=C q->¬S q/\(mo q\/w.heap.size<=q):=λq hq=>by
  rcases d.blk q hq with h|h
  .exact⟨(Z q h).1,.inl (Z q h).2⟩
  .exact⟨λhs=>by have:=A.stay q hs;omega,.inr h⟩
 have h7:∀q,AX V=C q->V.ownBlock=C q:=λq hq=>by
  obtain⟨a,len,B,rfl⟩:=N;cases a with
  |none=>simp[AX]at hq
  |some a=>simpa[AX,Value.ownBlock]using hq
 have X:∀q,J [(32768,(Blk.row te (l++sx.data.toList.map ofB):Blk G.T)),(65536,.cells [.np 65536 tb,.own 32768])] q≠H->q=32768\/q=65536:=λq hq=>by
  simp only[J,Bs]at hq;by_cases z:32768=q
  .exact .inl z.symm
  .rw[if_neg z]at hq;by_cases z2:65536=q
   .exact .inr z2.symm
   .rw[if_neg z2]at hq;exact absurd rfl hq
 rw[h3];refine⟨_,LR ν 32768 V,S,rfl,?_,⟨λq k hk=>?_,λq1 q2 x y c ha hb I hy D he=>?_,λq x c hq I D=>?_,λq hq=>d4_ (A.stay q hq) d.size,A.gl.mono (λ_ h=>h) R⟩,λ_ h=>h,λ_ h=>.inl h,λq y hn hy=>?_,d.size,λq hq hf=>d.rest q hq (λe=>hf<|e▸h9) λe=>hf (Z q e.symm).2,d.env⟩
 .exact .tup [.one _,.one _] [.int .i64 sx.size,.nilIface]<|.cons (.one _ _<|Rd.sc _ rfl)<|.cons (.one _ _<|Rd.sc _ rfl) .nil
 .rcases X q (by rw[hk];simp)with rfl|rfl
  .have h8:C _=C k:=hk;cases h8;have h4:(l++sx.data.toList.map ofB).length=l.length+sx.size:=by rw[f_,d3_];rfl
   obtain⟨hl,h|⟨g',B,hd,k1,_,k2,k3,k4,k5,k6⟩⟩:=d.row
   .left;refine⟨by rw[E,h.1],?_⟩;exact S_ (by rw[h4];exact h.2)
   .right;rw[<-h4]at k1 k3 k6;refine⟨g',B,hd,te,by rw[E,k1],k2,k3,by rw[hsz];exact k5,λi j x cv I F=>?_,rfl,k4⟩;obtain⟨u,hu,hg⟩:=hE.2.2 i j x cv I F;have hi:=(e_.1 I).1;have hj:=YN ok F;rw[<-k6,B_ (by rw[<-hsz];exact VW hi hj)]at hu;exact⟨u,by simpa using hu,hg.mono (λ_ h=>h) R⟩
  .have h8:C _=C k:=hk;cases h8;refine⟨b,_,tb,U,d.cel,.cons (.inr ⟨b,U,rfl⟩)<|.cons ?_ .nil,λm t hm=>?_⟩
   .obtain⟨a,len,B,e⟩:=N;exact⟨a,len,B,E,e⟩
   .simp at hm;exact⟨hm.1,hm.2.symm⟩
 .rcases X q1 ha with rfl|rfl<;>rcases X q2 hb with rfl|rfl
  .rfl
  .rw[E]at I;cases I;rw[U]at hy;cases hy;exact absurd (h7 c D) (by rw[<-he];exact d.apart)
  .rw[U]at I;cases I;rw[E]at hy;cases hy;exact absurd (h7 c he) (by rw[<-D];exact d.apart)
  .rfl
 .rcases X q hq with rfl|rfl
  .rw[E]at I;cases I;exact ht c<|h7 c D
  .rw[U]at I;cases I;simp[AX]at D;subst D;exact⟨e8,.inl h9⟩
 .unfold LR;have h6:lo=65536:=rfl;rw[if_neg ω,if_pos hn];exact hy
omit henc in
theorem Bc1(henc:∀x,(G.enc te x).length=G.sz te)
  (hc:∀(b:Nat) (w:World) (a0:Value) (B R:Nat) (d:Array Value) (l:List UInt8),l≠[]->w.heap[b]?=C (.cells #[a0,.slice (C ⟨B,0,H⟩) l.length R] tb (0,0))->w.heap[B]?=C (.cells d te (0,0))->l.length<=d.size->l.length<=R->l.length<=9223372036854775807->
   (∀(j:Nat) (x:UInt8),l[j]?=C x->d[j]?=C (Value.int .u8 x.toNat))->Calls P g #[.pointer<|C ⟨b,0,H⟩] w λe w'=>e=.returned (.string ⟨l.toArray⟩)/\w'=w.drew.freeze ⟨B,0,H⟩ l.length):Ha P G g<|Bsy G r0 tb te:=by
 refine⟨hent,λx y p s bl hy hp ho ν S mo w W E _ hl h0=>?_⟩;obtain⟨⟨_,_⟩,⟨_,(l:List _),_⟩,_⟩:=x;obtain⟨h1,h2⟩:=Rj hy;obtain⟨hn,rfl,rfl⟩:=Bkt hp ho;subst h2;rw[b_]at h1;have hh:l≠[]:=λe=>by have:=h1.1;rw[e]at this;cases this
 have V:HRel G ν S _ (J [(32768,.row te l),(65536,.cells [.np 65536 tb,.own 32768])]) w:=E;obtain⟨b,a0,v,xs,e1,e2,e3,e4,e5,e6,e7,e8,e9,hw⟩:=Awt ok V hty henc;have s0:=h0 0 _ rfl;have Z:∃a,W=[a]:=by
  match W,hl with
  |[a],_=>exact⟨a,rfl⟩
 obtain⟨vp,rfl⟩:=Z;have f0:vp=.pointer (C ⟨b,0,H⟩):=by cases s0 with|p _ _ hc=>cases hc with|one _ _ hc=>obtain⟨b',X,q2⟩:=hc;rw[e1]at X;cases X;exact q2
 subst f0;rw[hsz]at e5;have hd:mo b:=e9.resolve_right ω;have h6:l.length≠0:=by simpa using hh
 obtain⟨hv,⟨_,hz⟩|⟨B,R,d,rfl,_,k2,k3,k4,k5,k6⟩⟩:=e5
 .exact absurd hz h6
 have F:∀j (x:G.T te),l[j]?=C x->∃n:Int,G.enc te x=[.sc _]/\0<=n/\n<256/\d[j]?=C _:=λj x A=>by
  have:=G_.1 h1.2 x<|p_ A
  generalize he:G.enc te x=cs at this;unfold okB at this;split at this
  .rename_i n;simp only[b_,r_]at this;obtain⟨u,hu,hf⟩:=e6.2.2 j 0 x _ A (by rw[he];rfl);cases hf;rw[hsz,<-k6,B_ (by have:=(e_.1 A).1;omega)]at hu;exact⟨n,rfl,this.1,this.2,by simpa using hu⟩
  .simp at this
 let N:List UInt8:=l.map λx=>ZX<|G.enc te x
 have h4:N.length=l.length:=by simp[N]
 have h8:∀(j:Nat) (x:UInt8),N[j]?=C x->d[j]?=C (Value.int .u8 x.toNat):=λj x A=>by
  simp only[N,b3_]at A;cases hj:l[j]? with
  |none=>rw[hj]at A;cases A
  |some z=>
   rw[hj]at A;simp only[f9_,c4_]at A;obtain⟨n,X,q2,q3,q4⟩:=F j z hj;rw[X]at A;subst A;rw[q4]
   have:((ZX [Cv.sc (T:=G.T)<|Value.int .u8 n]).toNat:Int)=n:=by simp only[ZX,UInt8.toNat_ofNat'];omega
   rw[this]
 refine(hc b w a0 B R d N (λe=>h6 (by rw[<-h4,e];rfl)) (by rw[h4];exact e4) k2 ω (by rw[h4];exact k3) (by unfold maxLen at k4;omega) h8).mono ?_;rintro e w' ⟨rfl,rfl⟩;obtain⟨z1,z2,z3,_,z5⟩:=e7 B rfl;have h7:mo B:=z2.resolve_right ω;have D:∀k,k≠B->(w.drew.freeze ⟨B,0,H⟩ N.length).heap[k]?=w.heap[k]?:=λk hk=>by unfold World.freeze;rw[if_neg ω];simp only[World.drew];rw[g2_,if_neg<|a7_ hk]
 have I:∃fz,(w.drew.freeze ⟨B,0,H⟩ N.length).heap[B]?=C (.cells d te fz):=by unfold World.freeze;rw[if_neg ω];simp only[World.drew];rw[g2_,if_pos rfl,k2];exact⟨_,rfl⟩
 obtain⟨fz,I⟩:=I;have h5:=λq hq=>D q λe=>z1<|e▸hq;have Q:(w.drew.freeze ⟨B,0,H⟩ N.length).heap.size=w.heap.size:=by unfold World.freeze;rw[if_neg ω];exact Array.size_modify
 have h9:(w.drew.freeze ⟨B,0,H⟩ N.length).os=w.os/\(w.drew.freeze ⟨B,0,H⟩ N.length).tape=w.tape/\(w.drew.freeze ⟨B,0,H⟩ N.length).output=w.output:=by unfold World.freeze;rw[if_neg ω];exact⟨rfl,rfl,rfl⟩
 rw[hn];have one:∀q,J [(65536,(Blk.cells [.np 65536 tb,.ro te l]:Blk G.T))] q≠H->q=65536:=λq hq=>by
  simp only[J,Bs]at hq;by_cases z:65536=q
  .exact z.symm
  .rw[if_neg z]at hq;exact absurd rfl hq
 refine⟨_,ν,λk=>S k\/k=B,rfl,.p _ _<|.one _ _<|Rd.sc _ rfl,⟨λq k hk=>?_,λX q2 x y c ha hb A hy h3 ht=>by rw[one X ha,one q2 hb],λq x c hq A h3=>?_,λq hq=>?_,E.gl.mono (λ_ h=>.inl h) h5⟩,λ_ h=>.inl h,λq hq=>?_,λq y hs hy=>hy,ω,λq hq hr=>D q (λe=>hr<|e▸h7),h9⟩
 .obtain rfl:=one q (by rw[hk];simp);have hg:C _=C k:=hk;cases hg;refine⟨b,_,tb,e1,(D b<|a7_ z5).trans e4,.cons (e3.imp (λh=>h) λh=>⟨b,e1,h⟩)<|.cons ?_ .nil,λm t hm=>?_⟩
  .refine Rd.ro te l B 0 R d te fz (λi j=>d.getD (i*G.sz te+j) undef) (.inr rfl) I (.inl rfl) k3 (λi j hi hj=>?_) λi j x cv A U=>?_
   .have:i<d.size:=ω
    rw[hsz]at hj|-;rw[show 0+i*1+j=i by omega,show i*1+j=i by omega];simp[v_,this]
   .obtain⟨n,X,q2,q3,q4⟩:=F i x A;rw[X]at U;obtain⟨rfl,rfl⟩:j=0/\cv=.sc _:=by
     cases j with
     |zero=>simp at U;exact⟨rfl,U.symm⟩
     |succ j=>simp at U
    rw[hsz,d5_,c7_];rw[v_,q4];exact .sc _ rfl
  .simp at hm;exact⟨hm.1,hm.2.symm⟩
 .obtain rfl:=one q hq;rw[e1]at A;cases A;simp[AX]at h3;subst h3;exact⟨λh=>h.elim e8 (λe=>z5 e.symm),.inl hd⟩
 .rcases hq with h|rfl
  .rw[Q];exact E.stay q h
  .rw[Q];exact z3
 .rcases hq with h|rfl
  .exact .inl h
  .exact .inr<|.inl h7
end
end Go.Ab
namespace Go.Ab
open Go.Lib Go.RowKit
variable{α:Type}{P:Program}
def Xo(a b c:List α)(d:Nat)(h:d=a.length+b.length):(a++b++c).take d=a++b:=by subst h;rw[<-f_,d9_];rfl
def Bsn(a vs D R:List α)(p:Nat)(h:p+vs.length<=a.length):((a.take (p+vs.length)++D++R).take p++vs++(a.take (p+vs.length)++D++R).drop (p+vs.length))=a.take p++vs++(D++R):=by
 have b:(a.take<|p+vs.length).length=p+vs.length:=by rw[x_];omega
 rw[N_<|a.take<|p+vs.length,List.take_append_of_le_length ω,List.take_take,d2_ ω,List.drop_left' b]
def Bso(a Z vs D R:List α)(p:Nat)(h:a.length=p):((((a++Z).take p++vs++(a++Z).drop (p+vs.length)).take<|p+vs.length)++D++R)=a++vs++D++R:=by rw[d9_ h,d9_ (by rw[f_,h])]
def TR{ops:Array Oper}{o:Oper}{a:Act}{w:World}{K:Act->World->Prop}{Q:Exit->Act->World->Prop}{E:Prop}
  (j:o.guard=H) (d x:Operand) (dT i:TypeId) (b:o.op=Op.call { callee:=Callee.builtin Builtin.append,args:=#[d,x],argTypes:=#[dT,i] })
  (v u:Value) (m:a.eval d=v) (q:a.eval x=u) {c:Value}{w':World}(l:(Builtin.append_ #[dT,i] o.type #[v,u]).run P w=.ok c w') (A:K (a.put o.dst c) w') :
  if Region.wanted o (yielded ops a.tmps)=O then Oper.wp P o a w K Q else E:=by
 have y:Region.wanted o (yielded ops a.tmps)=O:=by simp[Region.wanted,j]
 rw[if_pos y];unfold Oper.wp;simp[execOp,b,resolve,invoke,builtin,m,q,l,Result.andThen];exact A
def Aw1(w:World)(t e ty:TypeId)(z:Value)(m:P.underlying t=C (.slice e))(q:∀w,(zeroValue e).run P w=.ok z w)(g o n c:Nat)(v:0<n)(a:Array Value)(te:TypeId)(d:List Value)
  (j:d=(Builtin.zeroCells z.cells n).toList) (l:w.heap[g]?=C (.cells a te (0,0))) (i:o+d.length<=a.size) (h1:∀u∈d,u.oneCell'=O) :
  (Builtin.clear_ #[t] ty #[.slice (C ⟨g,o,H⟩) n c]).run P w=.ok (.tuple #[]) (w.setRow g (a.toList.take o++d++a.toList.drop (o+d.length)).toArray):=by
 have b:=run_storeCells_at P g o te d 0 a w l (by simpa using i) h1;simp only[c7_]at b;obtain⟨n,rfl⟩:∃k,n=k+1:=⟨n-1,ω⟩
 rw[j]at b;simp[Builtin.clear_,M_ m,q,b,j]
def Akv(zc:Array Value)(h:zc.all Value.oneCell'=O)(a:0<zc.size)(n:Nat):∀u∈(Builtin.zeroCells zc n).toList,u.oneCell'=O:=by intro u b;simp only[Builtin.zeroCells,g9_,b6_]at b;obtain⟨q,_,rfl⟩:=b;have hq:q%zc.size<zc.size:=g4_ _ a;rw[getElem!_pos zc _ hq];rw[Array.all_eq_true]at h;exact h _ hq
end Go.Ab
namespace Go.Ab
open Go.Proofs Go.RowKit Go.Lib
set_option maxHeartbeats 4000000
set_option maxRecDepth 100000
variable{P:Program}{g o s e z k:Nat}{te:TypeInfo}{f fo:Func}
def Asl(P:Program)(g e z:Nat):Prop:=∀(w:World) (n i m:Nat) (xs vs:List Value) (a c:Value),w.ownsRow 0 e z a n xs->w.ownsRow 0 e z c m vs->(∀b,a.ownBlock=C b->c.ownBlock≠C b)->(∀u∈xs,u.oneCell'=O)->(∀u∈vs,u.oneCell'=O)->
 i<=n->0<m->n+m<=2147483648->Calls P g #[a,.int .i64 i,c] w λx w'=>∃d,x=.returned d/\RowOut w w' e z a d (n+m) (xs.take (i*z)++vs++xs.drop (i*z))
def Azr(P:Program)(g e z:Nat):Prop:=∀(w:World) (n i j:Nat) (xs:List Value) (a:Value),w.ownsRow 0 e z a n xs->(∀u∈xs,u.oneCell'=O)->i<j->j<=n->
 Calls P g #[a,.int .i64 i,.int .i64 j] w λx w'=>∃b,x=.returned b/\RowOut w w' e z a b (n-(j-i)) (xs.take (i*z)++xs.drop (j*z))
def WkR(P:Program)(g s:Nat)(f:Func)(k:Nat):Prop:=P.funcs[g]?=C f->f.ntmps=k->∀(w W:World) (b n c m vb a:Nat),0<m->n+m<=c->¬((m:Int)=0)->
 (∀ty,(Builtin.append_ #[s,s] ty #[.slice (C ⟨b,0,H⟩) n c,.slice (C ⟨vb,0,H⟩) m a]).run P w=.ok (.slice (C ⟨b,0,H⟩) (n+m) c) W)->
 Calls P g #[.slice (C ⟨b,0,H⟩) n c,.int .i64 n,.slice (C ⟨vb,0,H⟩) m a] w λe w'=>e=.returned (.slice (C ⟨b,0,H⟩) (n+m) c)/\w'=W
def WkS(P:Program)(g s o z:Nat)(f:Func)(k:Nat):Prop:=P.funcs[g]?=C f->f.ntmps=k->P.follows .mixedOrders=O->∀(w:World) (a j:Array Value) (b n c i m vb d:Nat),i<n->0<m->n+m<=c->c<=9223372036854775807->vb≠b->¬((m:Int)=0)->¬((i:Int)=(n:Int))->
 (∀lb cb,(callFunc o #[.slice (C ⟨vb,0,H⟩) m d,.slice (C ⟨b,(i+m)*z,H⟩) lb cb]).run P w=.ok (.value<|.bool false) w)->
 IntKind.i64.wrap ((i:Int)+(m:Int))=(i:Int)+(m:Int)->(0:Int)<=(i:Int)+(m:Int)->i<=n->((i:Int)+(m:Int)).toNat=i+m->¬(c=i+m)->(i:Int)<=(n:Int)+(m:Int)->¬(c=i)->
 (∀ty dc sc,(Builtin.copy_ #[s,s] ty #[.slice (C ⟨b,(i+m)*z,H⟩) (n+m-(i+m)) dc,.slice (C ⟨b,i*z,H⟩) (n+m-i) sc]).run P w.drew=.ok (goInt<|aA (n+m-i)<|n+m-(i+m)) (w.drew.setRow b a))->
 (∀(W:World),W.heap=(w.drew.setRow b a).heap->∀ty dc,(Builtin.copy_ #[s,s] ty #[.slice (C ⟨b,i*z,H⟩) (n+m-i) dc,.slice (C ⟨vb,0,H⟩) m d]).run P W=.ok (goInt<|aA m<|n+m-i) (W.setRow b j))->
 Calls P g #[.slice (C ⟨b,0,H⟩) n c,.int .i64 i,.slice (C ⟨vb,0,H⟩) m d] w λe w'=>e=.returned (.slice (C ⟨b,0,H⟩) (n+m) c)/\w'=(w.drew.setRow b a).setRow b j
def WkE(P:Program)(g s:Nat)(f:Func)(k:Nat):Prop:=P.funcs[g]?=C f->f.ntmps=k->∀(w W:World) (V:Value) (base:Option Addr) (n c m vb a:Nat),0<m->n<=c->c<n+m->n+m<=2147483648->(base=H->n=0/\c=0)->¬((m:Int)=0)->
 (∀ty,(Builtin.append_ #[s,s] ty #[.slice base n c,.slice (C ⟨vb,0,H⟩) m a]).run P w=.ok V W)->Calls P g #[.slice base n c,.int .i64 n,.slice (C ⟨vb,0,H⟩) m a] w λe w'=>e=.returned V/\w'=W
def WkG(P:Program)(g s t e z:Nat)(f:Func)(k:Nat):Prop:=P.funcs[g]?=C f->f.ntmps=k->P.follows .mixedOrders=O->∀(w:World) (R d l:Array Value) (b n c i m vb j a:Nat),i<n->0<m->n<=c->c<n+m->c<=9223372036854775807->n+m<=2147483648->vb<w.heap.size->b<w.heap.size->¬((m:Int)=0)->¬((i:Int)=(n:Int))->(c:Int)<(n:Int)+(m:Int)->
 (∀ty,(Builtin.append_ #[s,t] ty #[.slice (C ⟨b,0,H⟩) i c,.int .i64<|(n:Int)+(m:Int)-(i:Int)]).run P w=.ok (.slice (C ⟨w.heap.size,0,H⟩) (n+m) a) (w.drew.alloc<|.cells R e))->
 n+m<=a->a<=9223372036854775807->
 (∀ty dc,(Builtin.copy_ #[s,s] ty #[.slice (C ⟨w.heap.size,i*z,H⟩) (n+m-i) dc,.slice (C ⟨vb,0,H⟩) m j]).run P (w.alloc<|.cells R e).drew=.ok (goInt<|aA m<|n+m-i) ((w.alloc<|.cells R e).drew.setRow w.heap.size d))->
 (∀ty dc sc,(Builtin.copy_ #[s,s] ty #[.slice (C ⟨w.heap.size,(i+m)*z,H⟩) (n+m-(i+m)) dc,.slice (C ⟨b,i*z,H⟩) (n-i) sc]).run P ((w.alloc<|.cells R e).drew.setRow w.heap.size d).drew=.ok (goInt<|aA (n-i)<|n+m-(i+m)) (((w.alloc<|.cells R e).drew.setRow w.heap.size d).drew.setRow w.heap.size l))->
 ¬(a=i)->¬(a=i+m)->¬(c=i)->IntKind.i64.wrap ((i:Int)+(m:Int))=(i:Int)+(m:Int)->(0:Int)<=(i:Int)+(m:Int)->i<=n->((i:Int)+(m:Int)).toNat=i+m->(i:Int)<=(n:Int)->
 Calls P g #[.slice (C ⟨b,0,H⟩) n c,.int .i64 i,.slice (C ⟨vb,0,H⟩) m j] w λx w'=>x=.returned (.slice (C ⟨w.heap.size,0,H⟩) (n+m) a)/\w'=(((w.alloc<|.cells R e).drew.setRow w.heap.size d).drew).setRow w.heap.size l
def ZM{w:World}{b q:Nat}{a:Array Value}{e n:Nat}{xs:List Value}(i:w.heap[b]?=C (.cells a e (0,0)))(d:a.toList.take n=xs){v:Value}(h:xs[q]?=C v):w.cell? ⟨b,q,H⟩=C v:=by
 rw[<-d]at h;have c:q<n:=by
  have:=(e_.1 h).1
  simp at this;omega
 rw[B_ c]at h;rw[e3_ w b _ a e (0,0) i];simpa using h
def Zm(z:Nat){a b c:Nat}(h:c=a+b):c*z=a*z+b*z:=by rw[h,a0_]
def Bsq{n m i:Nat}(h:i<n):aA (n+m-i) (n+m-(i+m))=n-i:=by simp only[Nat.min_def];split<;>omega
def min2{n m i:Nat}(h:i<n):aA m (n+m-i)=m:=by simp only[Nat.min_def];split<;>omega
def Bsr{n m i:Nat}(h:i<n):aA (n-i) (n+m-(i+m))=n-i:=by simp only[Nat.min_def];split<;>omega
def Wl(z:Array Value)(n:Nat):(Builtin.zeroCells z n).size=n*z.size:=by simp[Builtin.zeroCells]
def Ahe(U:P.underlying s=some (.slice e)){t:Nat}(I:P.underlying t=some (.int .i64))(T:P.info? e=some te)(Z:te.size=z)(B:te.bytes<=4096)(z0:0<z)(X:∃zv,te.zero=some zv/\zv.cells.size=z)
  {bt : Nat} (Fo : P.funcs[o]? = some fo) (o1 : (fo.name == "runtime.NumGoroutine") = false) (o2 : fo.body.isNone = true) (o3 : Extern.findNext fo = none) (o4 : Extern.find fo = some (Extern.SlicesOverlaps.overlaps #[s, s] #[bt])) (Sz : ∀ w, (sizeOf e).run P w = .ok z w)
  (F:P.funcs[g]?=some f) (N:f.ntmps=k) (Q:P.follows .mixedOrders=true)
  (w1:WkR P g s f k:=by
   intro F N w W b n c m vb vc hm y h1 hr
   go_enter F,N
   go_wp2_with (at_builtin;refine Lib.wpList_append_run _ rfl _ _ _ _ rfl _ _ rfl rfl _ _ (hr _) ?_)
   go_ret
   exact⟨rfl,rfl⟩)
  (w2:WkS P g s o z f k:=by
   intro F N Q w A1 A2 b n c i m vb vc hi hm y x6 y6 h1 hs xr ho hn hin hp y2 xn xz xa x5
   try simp only[d5_]at*
   go_enter F,N
   go_wp2_with (simp only[xr])
   go_region_law_o (refine step_copy_runI rfl _ _ _ _ rfl _ _ (by simp[Act.eval,Act.put]) (by simp[Act.eval,Act.put]) (xa _ _ _) ?_)
   go_wp2_with (at_builtin;refine wpList_copy_runI _ rfl _ _ _ _ rfl _ _ rfl rfl (x5 _ rfl _ _) ?_)
   go_ret
   exact⟨rfl,rfl⟩)
  (w3:WkE P g s f k:=by
   intro F N w W V base n c m vb vc hm h6 y h9 hc h1 hr
   go_enter F,N
   go_wp2_with (at_builtin;refine Lib.wpList_append_run _ rfl _ _ _ _ rfl _ _ rfl rfl _ _ (hr _) ?_)
   all_goals(go_ret;exact⟨rfl,rfl⟩))
  (w4:WkG P g s t e z f k:=by
   intro F N Q w R A1 A2 b n c i m vb vc Gc hi hm h6 y x6 h9 hh x0 h1 hs y3 xq xx hw x8 xb y1 xv y5 ho hn hin hp xn
   try simp only[d5_]at*
   go_enter F,N
   go_wp2_with (first
    |(at_builtin;refine Lib.wpList_append_run _ rfl _ _ _ _ rfl _ _ rfl rfl _ _ (xq _) ?_)
    |rw[x8])
   go_region_law_o (refine step_copy_runI rfl _ _ _ _ rfl _ _ (by simp[Act.eval,Act.put]) (by simp[Act.eval,Act.put]) (xb _ (Gc-(i+m))<|c-i) ?_)
   go_wp2
   go_ret
   exact⟨rfl,rfl⟩)
  :Asl P g e z:=by
 intro w n i m xs vs vS vV q1 q2 xo xl x1 hi hm h9;subst Z;obtain⟨zv,hz,xc⟩:=X;have hl:(n+m)*te.bytes<=140737488355328:=by
  have:(n+m)*te.bytes<=2147483648*4096:=Nat.mul_le_mul h9 B
  omega
 obtain⟨d,⟨_,h0⟩|⟨vb,vc,x9,rfl,_,hd,xy,y4,xw,xf⟩⟩:=q2
 .omega
 have hh:vb<w.heap.size:=(J_.1 hd).1;have hx:∀j v,vs[j]?=some v->w.cell? ⟨vb,j,none⟩=some v:=λj v D=>ZM hd xf D;have hf:∀j v,vs[j]?=some v->w.cell? (Addr.add ⟨vb,0,none⟩ j)=some v:=λj v D=>by rw[Addr.add_lit,n_];exact hx j v D
 have h1:¬((m:Int)=0):=ω;have m1:=Zm te.size (c:=n+m) rfl;have m2:=Zm te.size (c:=i+m) rfl;have m3:=Zm te.size (ω:n=i+(n-i));have hG:=λc=>grownCap_ge w (n+m) c e;have mG:∀c,grownCap w (n+m) c e*te.size=(n+m)*te.size+(grownCap w (n+m) c e-(n+m))*te.size:=λc=>Zm _ (by have:=hG c;omega);have JG:∀(c:Nat) (A:Array Value) (W:World),W.heap.size=w.heap.size+1->W.heap[w.heap.size]?=some (.cells A e (0,0))->(∀k,k<w.heap.size->W.heap[k]?=w.heap[k]?)->W.os=w.os->W.tape=w.tape->W.output=w.output->
   A.size=grownCap w (n+m) c e*te.size->A.toList.take ((n+m)*te.size)=xs.take (i*te.size)++vs++xs.drop (i*te.size)->xs.length=n*te.size->RowOut w W e te.size vS (.slice (some ⟨w.heap.size,0,none⟩) (n+m)<|grownCap w (n+m) c e) (n+m) (xs.take (i*te.size)++vs++xs.drop (i*te.size)):=λc A W w1 w2 w3 w4 w5 w6 hA hT q=>
  ⟨⟨by simp only[f_,x_,U_,q,d];omega,.inr ⟨w.heap.size,_,A,rfl,W_ _,w2,hG c,grownCap_le_maxLen w _ _ _ (by unfold maxLen;omega),hA,hT⟩⟩,λb hb=>.inr (by simp[Value.ownBlock]at hb;omega),⟨w4,w5,w6,ω,λk hk _=>w3 k hk⟩⟩
 have u:∀(A:Array Value),(w.drew.alloc<|.cells A e).heap.size=w.heap.size+1/\(w.drew.alloc<|.cells A e).heap[w.heap.size]?=some (.cells A e (0,0))/\(∀k,k<w.heap.size->(w.drew.alloc<|.cells A e).heap[k]?=w.heap[k]?):=λA=>by
  refine⟨(show(w.heap.push _).size=_ by rw[Array.size_push]),?_,λk hk=>?_⟩
  .show(w.heap.push _)[w.heap.size]?=_;rw[Array.getElem?_push,if_pos rfl]
  .show(w.heap.push _)[k]?=_;rw[Array.getElem?_push_lt hk,c0_ hk]
 have hu:∀(base:Option Addr) (c:Nat),vS=.slice base n c->i=n->n<=c->c<n+m->(base=none->n=0/\c=0)->xs.length=n*te.size->(∀a,base=some a->∀j v,xs[j]?=some v->w.cell? (a.add j)=some v)->Calls P g #[vS,.int .i64 i,.slice (some ⟨vb,0,none⟩) m vc] w λx w'=>∃v',x=.returned v'/\RowOut w w' e te.size vS v' (n+m) (xs.take (i*te.size)++vs++xs.drop (i*te.size)):=by
  rintro base c rfl rfl h6 y hc q xj;have hr:∀ty,(Builtin.append_ #[s,s] ty #[.slice base i c,.slice (some ⟨vb,0,none⟩) m vc]).run P w=.ok (.slice (some ⟨w.heap.size,0,none⟩) (i+m)<|grownCap w (i+m) c e) (w.drew.alloc<|.cells ((xs++vs).toArray++Builtin.zeroCells zv.cells (grownCap w (i+m) c e-(i+m))) e):=λty=>by
   cases base with
   |none=>
    obtain⟨rfl,rfl⟩:=hc rfl;have xe:xs=[]:=S_ ω;subst xe
    have:=run_append_nil w s ty e te zv U T hz ⟨vb,0,none⟩ m vc vs d hf hm ω (by rw[n_]at hl;omega)
    simpa using this
   |some a=>rw[run_append_grow w s ty e te zv U T hz a i c xs q (xj a rfl) ⟨vb,0,none⟩ m vc vs d hf y ω<|growslice_fits y hl];congr 3;simp
  refine(w3 F N w _ _ base i c m vb vc hm h6 y h9 hc h1 hr).mono ?_;rintro x w' ⟨rfl,rfl⟩;obtain⟨p1,p2,p3⟩:=u<|(xs++vs).toArray++Builtin.zeroCells zv.cells (grownCap w (i+m) c e-(i+m));refine⟨_,rfl,JG c _ _ p1 p2 p3 rfl rfl rfl ?_ ?_ q⟩
  .have:=mG c
   simp only[Array.size_append,List.size_toArray,f_,q,d,Wl,xc];omega
  .rw[a3_ (l:=xs) ω,List.drop_of_length_le (l:=xs) ω,a1_,Array.toList_append,c3_];exact Xo _ _ _ _ (by rw[q,d];omega)
 obtain⟨q,⟨rfl,rfl⟩|⟨b,c,h4,rfl,_,hg,h6,x7,he,hy⟩⟩:=q1
 .exact hu none 0 rfl ω (t_ _) ω (λ_=>⟨rfl,rfl⟩) q (λa h=>by cases h)
 have x2:vb≠b:=λh=>xo b rfl (by rw[h];rfl);have E:∀j v,xs[j]?=some v->w.cell? ⟨b,j,none⟩=some v:=λj v D=>ZM hg hy D;have ht:c<=9223372036854775807:=by unfold maxLen at x7;omega
 have x0:b<w.heap.size:=(J_.1 hg).1;have h2:∀(A:Array Value) (W:World),W.heap.size=w.heap.size->W.heap[b]?=some (.cells A e (0,0))->(∀k,k≠b->W.heap[k]?=w.heap[k]?)->W.os=w.os->W.tape=w.tape->W.output=w.output->n+m<=c->
   A.size=c*te.size->A.toList.take ((n+m)*te.size)=xs.take (i*te.size)++vs++xs.drop (i*te.size)->RowOut w W e te.size (.slice (some ⟨b,0,none⟩) n c) (.slice (some ⟨b,0,none⟩) (n+m) c) (n+m) (xs.take (i*te.size)++vs++xs.drop (i*te.size)):=λA W w1 w2 w3 w4 w5 w6 hr hA hT=>
  ⟨⟨by simp only[f_,x_,U_,q,d];omega,.inr ⟨b,c,A,rfl,W_ _,w2,hr,x7,hA,hT⟩⟩,λb' xp=>.inl xp,⟨w4,w5,w6,ω,λk hk xk=>w3 k (λe=>xk (by rw[e];rfl))⟩⟩
 by_cases hin:i=n
 .by_cases hr:n+m<=c
  .subst hin;have xg:=w_ te.size hr;refine(w1 F N w _ b i c m vb vc hm hr h1 λty=>run_append_room w s ty e te U T b i c h4 hg ⟨vb,0,none⟩ m vc vs d hf x1 hr (by rw[d,he];omega)).mono ?_;rintro x w' ⟨rfl,rfl⟩;refine⟨_,rfl,h2 _ _ rowSize (rowHeap hg) (λk hk=>rowOther hk) rfl rfl rfl hr ?_ ?_⟩
   .simp only[List.size_toArray,f_,x_,U_,Array.length_toList,Array.size_append,he,d];omega
   .rw[a3_ (l:=xs) ω,List.drop_of_length_le (l:=xs) ω,a1_,hy];exact Xo _ _ _ _ (by rw[q,d];omega)
  .exact hu (some ⟨b,0,none⟩) c rfl hin h6 ω (λh=>by cases h) q (λa ha j v D=>by cases ha;rw[Addr.add_lit,n_];exact E j v D)
 have h8:i<n:=ω;have h7:(xs.drop<|i*te.size).length=(n-i)*te.size:=by rw[U_,q,Nat.sub_mul]
 have hs:¬((i:Int)=(n:Int)):=ω;have ho:IntKind.i64.wrap ((i:Int)+(m:Int))=(i:Int)+(m:Int):=by rw[IntKind.wrap_i64];omega
 have hn:(0:Int)<=(i:Int)+(m:Int):=ω;have hp:((i:Int)+(m:Int)).toNat=i+m:=ω;have x3:∀v∈xs.drop (i*te.size),v.oneCell'=true:=λv hv=>xl v<|e5_ hv;by_cases hr:n+m<=c
 .have xg:=w_ te.size hr;have y0:=Nat.mul_pos (ω:0<c) z0;obtain⟨A1,h5⟩:∃A,A=(h4.toList.take ((i+m)*te.size)++xs.drop (i*te.size)++h4.toList.drop ((i+m)*te.size+(xs.drop<|i*te.size).length)).toArray:=⟨_,rfl⟩;have h3:A1.size=c*te.size:=by rw[h5];simp only[List.size_toArray,f_,x_,U_,Array.length_toList,Array.size_append,h7,he];omega
  refine(w2 F N Q w A1 (A1.toList.take (i*te.size)++vs++A1.toList.drop (i*te.size+vs.length)).toArray b n c i m vb vc h8 hm hr ht x2 h1 hs
   (λlb cb=>by rw[run_callFunc_extern Fo o1 o2 o3 o4,Lib.run_overlaps_apart w s bt e U te.size Sz ⟨vb,0,none⟩ ⟨b,(i+m)*te.size,none⟩ m vc lb cb x2 e e x9.size h4.size (by simp[World.shape?,hd]) (by simp[World.shape?,hg]) ω (by simp[World.frozen?,hd]) (by simp[World.frozen?,hd])];rfl)
   ho hn hi hp ω ω ω
   (λty dc sc=>by rw[h5];refine WF w.drew s s ty e te b ((i+m)*te.size) (n+m-(i+m)) dc ⟨b,i*te.size,none⟩ (n+m-i) sc h4 e (xs.drop<|i*te.size) U T hg (by rw[h7,Bsq h8]) (λj v D=>?_) (by rw[h7,he];omega) x3;rw[Addr.add_lit];rw[c1_]at D;exact E _ v D)
   (λW hW ty dc=>by
    refine WF W s s ty e te b (i*te.size) (n+m-i) dc ⟨vb,0,none⟩ m vc A1 e vs U T (by rw[hW];exact rowHeap hg) (by rw[d,min2 h8]) (λj v D=>?_) (by rw[d,h3];omega) x1;rw[Addr.add_lit,n_]
    have:=hx j v D
    unfold World.cell? at this|-;rw[hW,rowOther (w:=w.drew) x2];exact this)).mono ?_
  rintro x w' ⟨rfl,rfl⟩;refine⟨_,rfl,h2 _ _ (by rw[rowSize,rowSize];rfl) (rowHeap<|rowHeap (w:=w.drew) hg) (λk hk=>by rw[rowOther hk,rowOther hk];rfl) rfl rfl rfl hr ?_ ?_⟩
  .simp only[List.size_toArray,f_,x_,U_,Array.length_toList,Array.size_append,h3,d];omega
  .rw[h5,show(i+m)*te.size=i*te.size+vs.length by rw[d,a0_],c3_,c3_,Bsn _ _ _ _ _ (by show i*te.size+vs.length<=h4.size;rw[d,he];omega),<-N_];rw[show h4.toList.take (i*te.size)=xs.take (i*te.size)by rw[<-hy,List.take_take,d2_ ω]];exact Xo _ _ _ _ (by simp only[f_,x_,U_,q,d];omega)
 have xi:=hG c;have mg:=mG c;have hw:grownCap w (n+m) c e<=9223372036854775807:=by
  have:=grownCap_le_maxLen w (n+m) c e (by unfold maxLen;omega)
  unfold maxLen at this;omega
 obtain⟨R,hR⟩:∃R,R=(xs.take<|i*te.size).toArray++Builtin.zeroCells zv.cells (n+m-i)++Builtin.zeroCells zv.cells (grownCap w (n+m) c e-(n+m)):=⟨_,rfl⟩;have m5:=Zm te.size (ω:n+m=i+(n+m-i));have xd:R.size=grownCap w (n+m) c e*te.size:=by rw[hR];simp only[Array.size_append,List.size_toArray,x_,q,Wl,xc];omega
 obtain⟨A1,h5⟩:∃A,A=(R.toList.take (i*te.size)++vs++R.toList.drop (i*te.size+vs.length)).toArray:=⟨_,rfl⟩;have h3:A1.size=grownCap w (n+m) c e*te.size:=by rw[h5];simp only[List.size_toArray,f_,x_,U_,Array.length_toList,Array.size_append,d,xd];omega
 have hN:(w.alloc<|.cells R e).heap[w.heap.size]?=some (.cells R e (0,0)):=(u R).2.1;have hO:∀k,k<w.heap.size->(w.alloc<|.cells R e).heap[k]?=w.heap[k]?:=(u R).2.2;have x4:i+(n+m-i)=n+m:=ω;refine(w4 F N Q w R A1 (A1.toList.take ((i+m)*te.size)++xs.drop (i*te.size)++A1.toList.drop ((i+m)*te.size+(xs.drop<|i*te.size).length)).toArray b n c i m vb vc (grownCap w (n+m) c e) h8 hm h6 ω ht h9 hh x0 h1 hs ω
  (λty=>by
   have xm:(n+m-i)*te.bytes<=281474976710656:=by
    have:(n+m-i)*te.bytes<=(n+m)*te.bytes:=w_ _ ω
    omega
   have h:=Lib.run_append_grow_zeros w s t ty e te zv .i64 .i64 U I T hz (some ⟨b,0,none⟩) i c (xs.take<|i*te.size) (run_firstCells_some w.drew te.size i ⟨b,0,none⟩ i c (xs.take<|i*te.size) (by rw[x_,q];omega) (λj v D=>by
    rw[Addr.add_lit,n_];rw[List.getElem?_take]at D;split at D
    .exact E j v D
    .cases D)) (n+m-i) ω z0 ω ω xm (by rw[x4];exact growslice_fits ω hl)
   rw[x4]at h;rw[show(n:Int)+(m:Int)-(i:Int)=((n+m-i:Nat):Int)by omega,hR];exact h)
  xi hw
  (λty dc=>by
   rw[h5];refine WF _ s s ty e te w.heap.size (i*te.size) (n+m-i) dc ⟨vb,0,none⟩ m vc R e vs U T hN (by rw[d,min2 h8]) (λj v D=>?_) (by rw[d,xd];omega) x1;rw[Addr.add_lit,n_]
   have:=hx j v D
   unfold World.cell? at this|-;rw[show(w.alloc<|.cells R e).drew.heap[vb]?=w.heap[vb]? from hO vb hh];exact this)
  (λty dc sc=>by
   refine WF _ s s ty e te w.heap.size ((i+m)*te.size) (n+m-(i+m)) dc ⟨b,i*te.size,none⟩ (n-i) sc A1 e (xs.drop<|i*te.size) U T (rowHeap (w:=(w.alloc<|.cells R e).drew) hN) (by rw[h7,Bsr h8]) (λj v D=>?_) (by rw[h7,h3];omega) x3;rw[Addr.add_lit];rw[c1_]at D
   have:=E _ v D
   unfold World.cell? at this|-;rw[show(((w.alloc<|.cells R e).drew.setRow w.heap.size A1).drew).heap[b]?=w.heap[b]? from(rowOther (w:=(w.alloc<|.cells R e).drew) (ω:b≠w.heap.size)).trans<|hO b x0];exact this)
  ω ω ω ho hn hi hp ω).mono ?_
 rintro x w' ⟨rfl,rfl⟩;refine⟨_,rfl,JG c _ _ (by rw[rowSize];show(World.setRow _ _ _).heap.size=_;rw[rowSize];exact(u _).1) (rowHeap (w:=(World.setRow _ _ _).drew)<|rowHeap (w:=(w.alloc _).drew) (u _).2.1) (λk hk=>by rw[rowOther ω];show(World.setRow _ _ _).heap[k]?=_;rw[rowOther ω];exact(u _).2.2 k hk) rfl rfl rfl ?_ ?_ q⟩
 .simp only[List.size_toArray,f_,x_,U_,Array.length_toList,Array.size_append,h3,h7];omega
 .rw[h5,hR,show(i+m)*te.size=i*te.size+vs.length by rw[d,a0_],c3_,c3_,Array.toList_append,Array.toList_append,c3_,N_ (xs.take<|i*te.size) (Builtin.zeroCells zv.cells<|n+m-i).toList];rw[Bso (xs.take<|i*te.size) _ vs (xs.drop<|i*te.size) _ (i*te.size) (by rw[x_,q];omega)];exact Xo _ _ _ _ (by simp only[f_,x_,U_,q,d];omega)
def WkD(P:Program)(g s z:Nat)(f:Func)(k:Nat):Prop:=P.funcs[g]?=C f->f.ntmps=k->P.follows .mixedOrders=O->∀(w a:World) (l:Array Value) (b n c i j:Nat),i<j->j<=n->n<=c->c<=9223372036854775807->
 (∀ty (d:Addr) sc,d=⟨b,j*z,H⟩\/n=j->(Builtin.append_ #[s,s] ty #[.slice (C ⟨b,0,H⟩) i c,.slice (C d) (n-j) sc]).run P w.drew=.ok (.slice (C ⟨b,0,H⟩) (i+(n-j)) c) a)->
 (∀ty,(Builtin.clear_ #[s] ty #[.slice (C ⟨b,(i+(n-j))*z,H⟩) (n-(i+(n-j)))<|c-(i+(n-j))]).run P a=.ok (.tuple #[]) (a.setRow b l))->
 i<=c->j<=c->¬((i:Int)=(j:Int))->(i:Int)<=(j:Int)->
 Calls P g #[.slice (C ⟨b,0,H⟩) n c,.int .i64 i,.int .i64 j] w λe w'=>e=.returned (.slice (C ⟨b,0,H⟩) (i+(n-j)) c)/\w'=a.setRow b l
def Are(U:P.underlying s=some (.slice e))(T:P.info? e=some te)(Z:te.size=z)(z0:0<z)(X:∃E,(∀w,(zeroValue e).run P w=.ok E w)/\E.cells.size=z/\E.cells.all Value.oneCell'=true)
  (F:P.funcs[g]?=some f) (N:f.ntmps=k) (l:P.follows .mixedOrders=true)
  (w1:WkD P g s z f k:=by
   intro F N l w W1 A2 b n c i j h1 hj R hf B ha hh hl h2 hm;by_cases he:c=j
   .subst he;obtain rfl:n=c:=ω;have a:=λty=>B ty ⟨b,0,none⟩ 0<|.inr rfl;clear B;simp only[Nat.sub_self,c7_]at a ha|-
    try simp only[d5_]at*
    go_enter F,N
    go_wp2_with fail
    go_region_law_o (refine TR rfl _ _ _ _ rfl (.slice (some ⟨b,0,none⟩) i n) (.slice (some ⟨b,0,none⟩) 0 0) (by simp[Act.eval,Act.put]) (by simp[Act.eval,Act.put]) (a _) ?_)
    go_wp2
    go_ret
    exact⟨rfl,rfl⟩
   have a:=λty sc=>B ty _ sc<|.inl rfl;clear B
   try simp only[d5_]at*
   go_enter F,N
   go_wp2_with fail
   go_region_law_o (refine TR rfl _ _ _ _ rfl _ _ (by simp[Act.eval,Act.put]) (by simp[Act.eval,Act.put]) (a _<|c-j) ?_)
   go_wp2
   go_ret
   exact⟨rfl,rfl⟩)
  :Azr P g e z:=by
 intro w n i j xs vS q1 hd h1 hj;subst Z;obtain⟨E,h9,h5,hz⟩:=X;have hb:=Akv _ hz (by rw[h5];exact z0)<|j-i;obtain⟨D,⟨rfl,rfl⟩|⟨b,c,y,rfl,_,hg,R,h3,h7,h4⟩⟩:=q1
 .omega
 have h6:c<=9223372036854775807:=by unfold maxLen at h3;omega
 have h0:(Builtin.zeroCells E.cells<|j-i).toList.length=(j-i)*te.size:=by simp[Builtin.zeroCells,h5]
 have m:(xs.drop<|j*te.size).length=(n-j)*te.size:=by rw[U_,D,Nat.sub_mul]
 have hn:n-(j-i)=i+(n-j):=ω;have m1:=Zm te.size (ω:n=j+(n-j));have m2:=Zm te.size (ω:j=i+(j-i));have m3:=Zm te.size (c:=i+(n-j)) rfl;have hi:=w_ te.size R;obtain⟨A1,V⟩:∃A,A=(y.toList.take (i*te.size)++xs.drop (j*te.size)++y.toList.drop (i*te.size+(xs.drop<|j*te.size).length)).toArray:=⟨_,rfl⟩;have I:A1.size=c*te.size:=by rw[V];simp only[List.size_toArray,f_,x_,U_,Array.length_toList,D,h7];omega
 refine(w1 F N l w (w.drew.setRow b A1) (A1.toList.take ((i+(n-j))*te.size)++(Builtin.zeroCells E.cells<|j-i).toList++A1.toList.drop ((i+(n-j))*te.size+(Builtin.zeroCells E.cells<|j-i).toList.length)).toArray b n c i j h1 hj R h6
  (λty ad sc W=>by
   rw[V];refine run_append_room w.drew s ty e te U T b i c y hg ad (n-j) sc (xs.drop<|j*te.size) m (λq u hq=>?_) (λv hv=>hd v<|e5_ hv) ω (by rw[m,h7];omega);rcases W with rfl|W
   .rw[Addr.add_lit];rw[c1_]at hq;exact ZM (w:=w) hg h4 hq
   .have:=(e_.1 hq).1
    rw[m,W,Nat.sub_self]at this;omega)
  (λty=>by rw[show n-(i+(n-j))=j-i by omega];exact Aw1 _ s e ty E U h9 b _ (j-i) _ ω A1 e _ rfl (rowHeap (w:=w.drew) hg) (by rw[h0,I];omega) hb)
  ω ω ω ω).mono ?_
 rintro x w' ⟨rfl,rfl⟩;rw[hn];refine⟨_,rfl,⟨by simp only[f_,x_,m,D];omega,.inr ⟨b,c,_,rfl,W_ _,rowHeap<|rowHeap (w:=w.drew) hg,ω,h3,?_,?_⟩⟩,λb' hc=>.inl hc,⟨rfl,rfl,rfl,by rw[rowSize,rowSize];exact t_ _,λk hk h2=>by have h8:k≠b:=λe=>h2 (by rw[e];rfl);rw[rowOther h8,rowOther h8];rfl⟩⟩
 .simp only[List.size_toArray,f_,x_,U_,Array.length_toList,I,h0];omega
 .have e1:y.toList.take (i*te.size)=xs.take (i*te.size):=by rw[<-h4,List.take_take,d2_ ω]
  have Q:(xs.take (i*te.size)++xs.drop (j*te.size)).length=(i+(n-j))*te.size:=by rw[f_,m,x_,D];omega
  have d:=Q;rw[f_]at d;rw[V,c3_,c3_,e1,N_<|List.take _ _];rw[List.take_append_of_le_length (by simp only[x_,f_]at d|-;omega),List.take_take,Nat.min_self,d9_ Q]
def PB(P:Program)(g e z:Nat)(te:TypeInfo):Prop:=∀(w:World) (b:Addr) (n c:Nat) (news:List Value),news.length=n*z->n<=maxLen->n*te.bytes<=140737488355328->(∀j u,news[j]?=C u->w.cell? (b.add j)=C u)->(∀u∈news,u.oneCell'=O)->
 Calls P g #[.slice (C b) n c] w λx w'=>∃a,x=.returned a/\w'.ownsRow w.heap.size e z a n news/\a≠ .slice H 0 0/\RowKit.Below w.heap.size w w'
def PC(P:Program)(g:Nat):Prop:=∀(w:World) (n c:Nat),Calls P g #[.slice H n c] w λx w'=>x=.returned (.slice H 0 0)/\w'=w
def Tr(U:P.underlying s=some (.slice e))(T:P.info? e=some te)(Z:te.size=z)(z0:0<z){v:Value}(R:te.zero=some v)(d:v.cells.size=z)
  (F:P.funcs[g]?=some f) (N:f.ntmps=k) (b:P.follows .mixedOrders=true)
  (E:P.underlying s=some (.slice e)->P.info? e=some te->te.size=z->te.zero=some v->v.cells.size=z->P.funcs[g]?=some f->f.ntmps=k->P.follows .mixedOrders=true->PB P g e z te:=by
   intro B T Z y d F N b w I n c news V hn l D h1;have qu:=λ(w:World) (a:Option Addr) (n c W X:Nat)=>Lib.run_eql_slice_nil w _ _ a n c W X B;have uu:=λw=>M_ B w;have A:Aside (∀j u,news[j]?=some u->w.cell? (I.add j)=some u):=D;clear D
   go_enter F,N
   go_wp2_with (at_builtin;refine wpList_append_own _ rfl _ _ _ rfl w.heap.size _ _ _ _ _ B T y Z rfl d τ _ _ _ rfl (World.ownsRow_made w #[] 0 (t_ _) (W_ _) σ) I n c news rfl ?qc1 ?qc2 ?qc3 ?qc4 ?qc5 ?qc6 ?_)
   case qc1=>exact V
   case qc2=>intro j u hj;exact Lib.cell?_alloc_some _<|A.out j u hj
   case qc3=>exact h1
   case qc4=>rw[n_];exact hn
   case qc5=>rw[n_];exact l
   case qc6=>simp
   intro v' E q i m
   go_wp2
   go_ret
   refine⟨v',rfl,by simpa using q,?_,?_⟩
   .exact m
   .exact((Below.refl _ w).alloc (t_ _) _).grown i σ (by intro k Q;simp[Value.ownBlock]at Q;omega))
  :PB P g e z te:=E U T Z R d F N b
def Tq(U:P.underlying s=some (.slice e))(F:P.funcs[g]?=some f)(N:f.ntmps=k)
  (j:P.underlying s=some (.slice e)->P.funcs[g]?=some f->f.ntmps=k->PC P g:=by
   intro b F N w n c;have l:=λ(w:World) (a:Option Addr) (n c d i:Nat)=>Lib.run_eql_slice_nil w _ _ a n c d i b
   go_enter F,N
   go_wp2
   go_ret
   exact⟨rfl,rfl⟩)
  :PC P g:=j U F N
end Go.Ab
namespace Go.Ab
open Go.RowKit
variable{G:Sig}
variable{w:World}{n:Nat}
def GlAt(G:Sig)(n:Nat)(w:World):Prop:=∃S:Nat->Prop,GlOK G S w.heap/\∀b,S b->b<n
def GlAt.below{w':World}(h:GlAt G n w)(d:Below n w w'):GlAt G n w':=by obtain⟨S,h1,a⟩:=h;exact⟨S,h1.mono (λ_ h=>h) λb c=>d.block b<|a b c,a⟩
def GlAt.le{m:Nat}(h:GlAt G n w)(c:n<=m):GlAt G m w:=by obtain⟨S,h1,d⟩:=h;exact⟨S,h1,λb a=>d4_ (d b a) c⟩
def Bl4(r:Nat):List<|Ex×Y:=[(.ret,⟨[(r,.one .bool)],[],[]⟩)]
def hasI:Y:=⟨[(0,.agg [.int .u32,.int .u32]),(1,.one<|.int .i64),(2,.one<|.int .i64)],[],[]⟩
def Alc(G:Sig)(r:Nat)(h:Int->Int->Int->Int->Option ((Bool×Unit)×Unit)):Fe G:=⟨hasI,Bl4 r,λx=>h x.1.1.1 x.1.1.2.1 x.1.2.1 x.1.2.2.1,[.tmp r]⟩
def Axo{P:Program}{g r:Nat}{h:Int->Int->Int->Int->Option ((Bool×Unit)×Unit)}(D:Ha P G g<|Alc G r h){u d f k:Int}{b:Bool}(hh:h u d f k=C ((b,()),()))(A:GlAt G n w)(Q:n<=w.heap.size):
  Calls P g #[.agg #[.int .u32 u,.int .u32 d],.int .i64 f,.int .i64 k] w λe w'=>e=.returned (.bool b)/\Below w.heap.size w w':=by
 obtain⟨S,l,E⟩:=A;have c:KT (G:=G) hasI [.tmp r] (.ret,L ⟨[(r,.one .bool)],[],[]⟩ ((b,()),()))=C (.p<|.one<|.sc<|.bool b,[]):=by
  have l:J [(r,(Sv.p (.one<|.sc<|.bool b):Sv G.T))] r=C (.p<|.one<|.sc<|.bool b):=by simp[J]
  have i:RN (L ⟨[(r,.one .bool)],[],[]⟩ ((b,()),()):St G) [.tmp r]=C (.p<|.one<|.sc<|.bool b):=by
   unfold RN
   have:Jp (L ⟨[(r,.one .bool)],[],[]⟩ ((b,()),()):St G) [.tmp r]=C [.one<|.sc<|.bool b]:=by simp only[Jp,UN,L,Li,PSh.give,CSh.give,l]
   rw[this]
  simp only[KT,i,AH,hasI,VN,DT]
 have:=D.2 ((((u,(d,())),(f,(k,()))),()):hasI.T G) ((b,()),()) (.ret,L ⟨[(r,.one .bool)],[],[]⟩ ((b,()),())) (.p<|.one<|.sc<|.bool b) [] hh rfl c
  (λ_=>H) S (λ_=>False) w [.agg #[.int .u32 u,.int .u32 d],.int .i64 f,.int .i64 k]
  ⟨λn k a=>by simp[Alc,hasI,L,J,Il,NG,Se,PSh.blk,Ab6,CSh.blk]at a,λn m x y b _ _ h1=>by simp at h1,λn x b _ h1=>by simp at h1,λb F=>d4_ (E b F) Q,l⟩
  (λn h=>by simp at h) rfl (λk' v a=>?_)
 .refine this.mono ?_;rintro e w' ⟨v,ν',S',rfl,I,_,_,_,_,h1,N,q⟩;have B:v=.bool b:=by cases I with|p _ _ j=>cases j with|one _ _ j=>cases(show Rd G S' w'.heap (.sc<|.bool b) v from j);rfl
  subst B;exact⟨rfl,q.1,q.2.1,q.2.2,h1,λk a=>N k a (λh=>h)⟩
 .simp only[Alc,hasI,L,Li,PSh.give,CSh.give,DB,J,Bs]at a;split at a
  .rename_i e;subst e;cases a;exact .p _ _<|.agg _ [.int .u32 u,.int .u32 d]<|.cons (.sc _ rfl)<|.cons (.sc _ rfl) .nil
  .split at a
   .rename_i e;subst e;cases a;exact .p _ _<|.one _ _<|.sc _ rfl
   .split at a
    .rename_i e;subst e;cases a;exact .p _ _<|.one _ _<|.sc _ rfl
    .cases a
def pairs64:List<|Int×Int:=(List.range 32).flatMap λ(f:Nat)=>[((f:Int),1),((f:Int),2)]
def WC{α:Type}(h:Int->Int->Option ((Bool×Unit)×Unit))(mk:Int->Int->α):List (Int×Int)->Option (List α)
 |[]=>C []
 |p::r=>match h p.1 p.2 with
  |some y=>match WC h mk r with
   |some l=>C<|bif y.1.1 then mk p.1 p.2::l else l
   |none=>H
  |none=>H
def An7{α:Type}(h:Int->Int->Option ((Bool×Unit)×Unit))(mk:Int->Int->α):Option<|(List α×Unit)×Unit:=match WC h mk pairs64 with
 |some l=>C ((l,()),())
 |none=>H
def ZR(h:Int->Int->Option ((Bool×Unit)×Unit))(f d:Int):Bool:=match h f d with
 |some y=>y.1.1
 |none=>false
def Ad8{α:Type}{h:Int->Int->Option ((Bool×Unit)×Unit)}{mk:Int->Int->α}:∀{ps:List<|Int×Int}{l:List α},WC h mk ps=C l->
  (∀p∈ps,h p.1 p.2=C ((ZR h p.1 p.2,()),()))/\l=(ps.filter λp=>ZR h p.1 p.2).map λp=>mk p.1 p.2
 |[],l,b=>by cases b;exact⟨λ_ h=>absurd h<|List.not_mem_nil,rfl⟩
 |p::r,l,b=>by
  simp only[WC]at b;split at b
  .rename_i y d;split at b
   .rename_i j c;cases b;obtain⟨h1,i⟩:=Ad8 c;have a:ZR h p.1 p.2=y.1.1:=by simp[ZR,d]
    refine⟨List.forall_mem_cons.2 ⟨by rw[a,d],h1⟩,?_⟩;rw[List.filter_cons,a,i];cases y.1.1<;>rfl
   .cases b
  .cases b
def Qh(p:Int×Int):List Value:=[.int .i64 p.1,.int .i64 p.2,.int .i64<|-1,.int .i64 0,.bool false]
def Bke:Y:=⟨[(0,.agg [.int .u32,.int .u32])],[],[]⟩
def Bec(G:Sig)(r t:Nat)(h:Int->Int->Int->Int->Option ((Bool×Unit)×Unit))(mk:Int->Int->G.T t):Fe G:=⟨Bke,Ao0 r t,λx=>(An7 (h x.1.1.1 x.1.1.2.1) mk:Option<|(List (G.T t)×Unit)×Unit),[.tmp r]⟩
section
variable{P:Program}(ok:SigOK P G){g r t:Nat}(hent:Asi P g){h:Int->Int->Int->Int->Option ((Bool×Unit)×Unit)}{mk:Int->Int->G.T t}
 (hsz:G.sz t=5) (hmk:∀f d,G.enc t (mk f d)=[.sc (.int .i64 f),.sc (.int .i64 d),.sc (.int .i64 (-1)),.sc (.int .i64 0),.sc (.bool false)])
include ok hsz hmk
theorem Ba6(S:Nat->Prop)(hp:Array Obj)(ps:List<|Int×Int):ERel G S hp t (ps.map λp=>mk p.1 p.2)<|ps.flatMap Qh:=by
 induction ps with
 |nil=>exact ERel.nil
 |cons p r l=>
  have h1:ERel G S hp t [mk p.1 p.2]<|Qh p:=by
   refine⟨by rw[hsz];rfl,λu c=>by simp[Qh]at c;rcases c with rfl|rfl|rfl|rfl|rfl<;>rfl,λi j x m b a=>?_⟩;have d:i=0:=by have:=(e_.1 b).1;simp at this;exact this
   subst d;simp at b;subst b;rw[hmk]at a;rw[Nat.zero_mul,n_]
   match j,a with
   |0,a=>simp at a;subst a;exact⟨_,rfl,.sc _ rfl⟩
   |1,a=>simp at a;subst a;exact⟨_,rfl,.sc _ rfl⟩
   |2,a=>simp at a;subst a;exact⟨_,rfl,.sc _ rfl⟩
   |3,a=>simp at a;subst a;exact⟨_,rfl,.sc _ rfl⟩
   |4,a=>simp at a;subst a;exact⟨_,rfl,.sc _ rfl⟩
   |n+5,a=>simp at a
  exact ERel.append ok h1 l
include hent
theorem Bka (v : ∀ (w : World) (u d : Int) (j : Int -> Int -> Bool), (∀ p ∈ pairs64, h u d p.1 p.2 = C ((j p.1 p.2, ()), ())) -> GlAt G w.heap.size w ->
      Calls P g #[.agg #[.int .u32 u,.int .u32 d]] w λe w'=>∃N,e=.returned N/\w'.ownsRow w.heap.size t 5 N (pairs64.filter λp=>j p.1 p.2).length ((pairs64.filter λp=>j p.1 p.2).flatMap Qh)/\Below w.heap.size w w'):Ha P G g<|Bec G r t h mk:=by
  refine⟨hent,λx y p s bl hy hp ho ν S mo w B i _ V F=>?_⟩;obtain⟨⟨⟨(u:Int),(d:Int),_⟩,_⟩,_⟩:=x;obtain⟨h3,rfl,rfl⟩:=XE (I:=Bke) rfl hp ho;have A:An7 (h u d) mk=C y:=hy;unfold An7 at A;split at A
  · rename_i l hl
    cases A;obtain⟨U,q⟩:=Ad8 hl;have Z:=F 0 (.p<|.agg [.sc<|.int .u32 u,.sc<|.int .u32 d]) rfl;have E:∃a,B=[a]:=by
      match B,V with
      |[a],_=>exact⟨a,rfl⟩
    obtain⟨v0,rfl⟩:=E;have e0:v0=.agg #[.int .u32 u,.int .u32 d]:=by cases Z with|p _ _ v=>cases v with|agg _ vs v=>obtain⟨a,t1,rfl,ha,v⟩:=v.inv;obtain⟨b,t2,rfl,j,v⟩:=v.inv;obtain rfl:=v.inv_nil;cases(show Rd G S w.heap (.sc<|.int .u32 u) a from ha);cases(show Rd G S w.heap (.sc<|.int .u32 d) b from j);rfl
    subst e0;refine(v w u d (ZR<|h u d) U ⟨S,i.gl,i.stay⟩).mono ?_;rintro e w' ⟨N,rfl,D,c⟩;have hE:ERel G S w.heap t l<|(pairs64.filter λp=>ZR (h u d) p.1 p.2).flatMap Qh:=by rw[q];exact Ba6 ok hsz hmk S w.heap _
    have R:RowOut w w' t (G.sz t) (.slice H 0 0) N (pairs64.filter λp=>ZR (h u d) p.1 p.2).length<|(pairs64.filter λp=>ZR (h u d) p.1 p.2).flatMap Qh:=by
      rw[hsz];refine⟨?_,λb j=>.inr ?_,⟨c.os,c.tape,c.output,c.size,λk X _=>c.block k X⟩⟩
      · obtain⟨U,q|⟨b,W,Q,q,_,q4⟩⟩:=D
        · exact⟨U,.inl q⟩
        · exact⟨U,.inr ⟨b,W,Q,q,W_ _,q4⟩⟩
      · obtain⟨_,q|⟨b',W,Q,q,q3,_⟩⟩:=D
        · rw[q.1]at j;simp[Value.ownBlock]at j
        · rw[q]at j
          simp[Value.ownBlock]at j;omega
    have:=QG ok i (m:=32768) (l:=l) R (λb j=>by simp[Value.ownBlock]at j) hE (by rw[q];simp) τ
    rw[h3];exact⟨N,LR ν 32768 N,S,rfl,this⟩
  · cases A
end
end Go.Ab
