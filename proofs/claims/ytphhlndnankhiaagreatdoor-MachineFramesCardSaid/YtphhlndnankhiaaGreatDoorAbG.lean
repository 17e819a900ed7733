import Derived.Test.YtphhlndnankhiaaGreatDoorAbF
import Derived.ProofKit
import Derived.OpenShut
import Derived.Deep.Slices
import Derived.Test.YtphhlndnankhiaaGreatDoorAbE
import Derived.KernelRfl
import Derived.Defers
set_option linter.all false
open Option renaming some->A,none->N
open Go.Ab renaming CSh->B,PSh->C,Sig->J,Spec->O
open Bool renaming true->D,false->L
open Nat renaming beq->U
open Go.Ab.CSh renaming give->aA
namespace Go.Ab
variable{G:J}
def shF(G:J)(r:Nat→Option (List B)):List (Nat×Nat)→Nat→Option (List B)
 |[],_=>A []
 |p::t,off=>bif U p.1 off then match r p.2,shF G r t (off+G.sz p.2)with
  |some a,A b=>bif U a.length (G.sz p.2)then A (a++b)else N
  |_,_=>N
  else N
def An3{α:Type}(a:List α):Nat→List α
 |0=>[]
 |n+1=>a++An3 a n
def shl(G:J):Nat→Nat→Option (List B)
 |0,_=>N
 |d+1,t=>match G.ty t with
  | .bool=>A [.bool]
  | .int k=>A [.int k]
  | .flt k=>A [.flt k]
  | .str=>A [.str]
  | .sl e=>match Yw (G.ty e)with
   |true=>N
   |false=>A [.ro e]
  | .st fs=>match shF G (shl G d) fs 0 with
   |some a=>bif U a.length (G.sz t)then A a else N
   |none=>N
  | .arr n e=>match shl G d e with
   |some a=>bif U a.length (G.sz e)&&U (n*G.sz e) (G.sz t)then A (An3 a n)else N
   |none=>N
  |_=>N
inductive WfC(G:Sig):Cv G.T→Prop
 |bool (b:Bool):WfC G (.sc (.bool b))
 |int (k:IntKind) (n:Int) (h:(Lit.int k n).wf=true):WfC G (.sc (.int k n))
 |flt (k:FloatKind) (n:Nat):WfC G (.sc (.float k n))
 |str (s:ByteArray) (h:s.size≤maxLen):WfC G (.sc (.string s))
 |ro (t:Nat) (l:List (G.T t)) (h:l.length≤maxLen) (he:∀(i:Nat) (x:G.T t) (j:Nat) (c:Cv G.T),l[i]?=some x→(G.enc t x)[j]?=some c→WfC G c):WfC G (.ro t l)
def Ake(G:J):Prop:=∀t e,G.ty t=.sl e→Yw (G.ty e)=L→∃s,shl G 20 e=A s∧∀x:TL G s,∃y,G.dec e (CY s x)=A y
def Yu:∀(a b:List B) (x:TL G a) (y:TL G b),∃z:TL G (a++b),CY (a++b) z=CY a x++CY b y
 |[],b,_,y=>⟨y,rfl⟩
 |c::a,b,x,y=>by obtain⟨z,hz⟩:=Yu a b x.2 y;exact⟨(x.1,z),by simp only[CY,List.cons_append];rw[← hz]⟩
def Aid:∀(a:List B) (x:TL G a),(CY a x).length=a.length
 |[],_=>rfl
 |c::a,x=>by simp[CY,Aid a]
section
variable{H:Type}{enc:TypeId×Value→H}{P:Program}(ok:SigOK P G)(dk:Ake G){w:World}{sp:Nat→Bool}{hd:Bool}
include ok in
theorem Tx{t:Nat}(h:G.ty t≠ .no):P.cellsOf t=G.sz t:=by obtain⟨i,z,h1,h2,_⟩:=ok.info t h;unfold Program.cellsOf;rw[h1];exact h2
def Opened(G:J)(w:World)(s:List B)(cs:List Value):Prop:=∃x:TL G s,F2 (Rd G (λb=>b<w.heap.size) w.heap) (CY s x) cs∧∀c∈CY s x,WfC G c
theorem Opened.append{a b:List B}{cs ds:List Value}(h:Opened G w a cs)(g:Opened G w b ds):Opened G w (a++b) (cs++ds):=by
 obtain⟨x,h1,h2⟩:=h;obtain⟨y,g1,g2⟩:=g;obtain⟨z,hz⟩:=Yu a b x y;refine⟨z,by rw[hz];exact h1.append g1,λc hc=>?_⟩;rw[hz]at hc;rcases p_.1 hc with hc | hc
 ·exact h2 c hc
 ·exact g2 c hc
theorem Opened.len{a:List B}{cs:List Value}(h:Opened G w a cs):cs.length=a.length:=by obtain⟨x,h1,_⟩:=h;rw[← h1.1,Aid]
theorem Aal{r:Nat→Option (List B)}{cs:List Value}:∀(fs:List (Nat×Nat)) (off:Nat) (sh:List B),shF G r fs off=A sh→
  (∀p∈fs,∀s,r p.2=A s→Opened G w s ((cs.drop p.1).take (G.sz p.2)))→Opened G w sh ((cs.drop off).take sh.length)
 |[],off,sh,h,_=>by simp[shF]at h;subst h;exact⟨(),by simp[CY];exact .nil,λc hc=>by simp[CY]at hc⟩
 |p::t,off,sh,h,hp=>by
  simp only[shF,BM]at h;by_cases e:p.1=off
  ·rw[if_pos e]at h;split at h
   ·rename_i a b ha hb;by_cases hl:a.length=G.sz p.2
    ·rw[if_pos hl]at h;simp at h;subst h;have h1:=hp p σ a ha;have h2:=Aal t (off+G.sz p.2) b hb λq hq s hs=>hp q (by simp[hq]) s hs;rw[e]at h1
     have:=h1.append h2
     rw[h_,hl];have ht:(cs.drop off).take (G.sz p.2+b.length)=(cs.drop off).take (G.sz p.2)++(cs.drop (off+G.sz p.2)).take b.length:=by rw[List.take_add,List.drop_drop]
     rw[ht];exact this
    ·rw[if_neg hl]at h;simp at h
   ·simp at h
  ·rw[if_neg e]at h;simp at h
theorem Adm{a:List B}{cs:List Value}{sz:Nat}(hl:a.length=sz):∀(n:Nat) (i:Nat),(∀j,i≤j→j<i+n→Opened G w a ((cs.drop (j*sz)).take sz))→Opened G w (An3 a n) ((cs.drop (i*sz)).take (n*sz))
 |0,i,_=>⟨(),by simp[CY,An3];exact .nil,λc hc=>by simp[CY,An3]at hc⟩
 |n+1,i,h=>by
  have h1:=h i (A_ _) ω;have h2:=Adm hl n (i+1) λj h3 h4=>h j ω ω
  have:=h1.append h2
  have ht:(cs.drop (i*sz)).take ((n+1)*sz)=(cs.drop (i*sz)).take sz++(cs.drop ((i+1)*sz)).take (n*sz):=by rw[a8_,Nat.one_mul,e2_ (n*sz),List.take_add,List.drop_drop,a8_,Nat.one_mul]
  rw[ht];exact this
theorem Azu{α:Type}{Q:Nat→α→Prop}:∀(n:Nat),(∀i,i<n→∃y,Q i y)→∃l:List α,l.length=n∧∀i y,l[i]?=A y→Q i y
 |0,_=>⟨[],rfl,λi y h=>by simp at h⟩
 |n+1,h=>by
  obtain⟨l,h1,h2⟩:=Azu n λi hi=>h i ω;obtain⟨y,hy⟩:=h n ω;refine⟨l++[y],by simp[h1],λi z hz=>?_⟩;rw[h0_]at hz;by_cases hi:i<l.length
  ·rw[if_pos hi]at hz;exact h2 i z hz
  ·rw[if_neg hi]at hz
   have:i-l.length=0:=by have:=(g_.1 hz).1;simp at this;omega
   rw[this]at hz;simp at hz;subst hz
   have:i=n:=ω
   rw[this];exact hy
theorem Bep{H:Type}{enc:TypeId×Value→H}{P:Program}{w:World}{base:Nat}{spare:Nat→Bool}{held:Bool}{DL:Nat}{t:TypeId}{cs:List Value}{x:DataW H×List MemPlace}{k:FloatKind}(ht:P.underlying t=A (.float k))(h:DataW.trod enc P w base spare held DL t cs=A x):∃n,cs=[.float k n]:=by
 cases DL with
 |zero=>simp[DataW.trod]at h
 |succ n=>unfold DataW.trod at h;rw[ht]at h;split at h<;>simp_all
include ok dk in
theorem Az6:∀(DL d t:Nat) (cs:List Value) (x:DataW H×List MemPlace) (s:List B),shl G d t=A s→DataW.trod enc P w 0 sp hd DL t cs=A x→Opened G w s cs:=by
 intro DL;induction DL with
 |zero=>intro d t cs x s _ h;simp[DataW.trod]at h
 |succ DL ih=>
  intro d t cs x s h ht;cases d with
  |zero=>simp[shl]at h
  |succ d=>
  simp only[shl]at h;cases hty:G.ty t with
  |bool=>rw[hty]at h;simp at h;subst h;obtain⟨b,rfl,_⟩:=DataW.trod_bool (ok.bool t hty) ht;exact⟨(b,()),F2.cons (.sc _ rfl) .nil,λc hc=>by simp[CY,aA]at hc;subst hc;exact .bool b⟩
  |int k=>rw[hty]at h;simp at h;subst h;obtain⟨n,rfl,_,hw⟩:=DataW.trod_int (ok.int t k hty) ht;exact⟨(n,()),F2.cons (.sc _ rfl) .nil,λc hc=>by simp[CY,aA]at hc;subst hc;exact .int k n hw⟩
  |flt k=>rw[hty]at h;simp at h;subst h;obtain⟨n,rfl⟩:=Bep (ok.flt t k hty) ht;exact⟨(n,()),F2.cons (.sc _ rfl) .nil,λc hc=>by simp[CY,aA]at hc;subst hc;exact .flt k n⟩
  |str=>rw[hty]at h;simp at h;subst h;obtain⟨b,rfl,_,hw⟩:=DataW.trod_string (ok.str t hty) ht;exact⟨(b,()),F2.cons (.sc _ rfl) .nil,λc hc=>by simp[CY,aA]at hc;subst hc;exact .str b hw⟩
  |st fs=>
   rw[hty]at h;obtain⟨fields,hund,hmap,hno⟩:=ok.strc t fs hty;obtain⟨xs,n,hn,_,hlen,hxs,hf⟩:=DataW.trod_struct hund ht;have hn:DL=n:=ω;subst hn;rw[Tx ok (t:=t) (by rw[hty];simp)]at hlen;simp only at h;split at h
   ·rename_i a ha;simp only[BM]at h;by_cases hl:a.length=G.sz t
    ·rw[if_pos hl]at h;simp at h;subst h
     have:=Aal (w:=w) (cs:=cs) fs 0 a ha λp hp q hq=>?_
     ·rw[R_,a3_ ω]at this;exact this
     ·have hp':p∈fields.toList.map (λf=>(f.offset,f.type)):=by rw[hmap];exact hp
      obtain⟨f,hfm,rfl⟩:=b5_.1 hp';obtain⟨i,hi⟩:=List.getElem?_of_mem hfm;have hi':fields[i]?=A f:=by simpa using hi
      have h1:=hf i f hi';have hlt:i<xs.length:=by rw[hxs];exact(N_.1 hi').1
      rw[i_ hlt,Tx ok (hno f.offset f.type hp)]at h1;exact ih d f.type _ _ q hq h1
    ·rw[if_neg hl]at h;simp at h
   ·simp at h
  |arr n e=>
   rw[hty]at h;obtain⟨hund,hno⟩:=ok.arr t n e hty;obtain⟨xs,m,hm,_,hlen,hxs,hf⟩:=DataW.trod_array hund ht;have hm:DL=m:=ω;subst hm;rw[Tx ok (t:=t) (by rw[hty];simp)]at hlen;simp only at h;split at h
   ·rename_i a ha;cases hl:(U a.length (G.sz e)&&U (n*G.sz e) (G.sz t))with
    |false=>rw[hl]at h;simp at h
    |true=>
     rw[hl]at h;simp at h;subst h;simp only[e_]at hl;have hl1:=AT.1 hl.1;have hl2:=AT.1 hl.2
     have:=Adm (G:=G) (w:=w) (cs:=cs) hl1 n 0 λj _ hj=>?_
     ·rw[Nat.zero_mul,R_,a3_ ω]at this;exact this
     ·have h1:=hf j ω;rw[i_ ω,Tx ok hno]at h1;exact ih d e _ _ a ha h1
   ·simp at h
  |sl e=>
   rw[hty]at h;simp only at h;cases hfn:Yw (G.ty e)with
   |true=>rw[hfn]at h;cases h
   |false=>
   rw[hfn]at h;cases h;obtain⟨hund,hno,_,hencl⟩:=ok.sl t e hty;obtain⟨se,hse,hdec⟩:=dk t e hty hfn;have hsz:=Tx ok hno;rcases DataW.trod_slice hund ht with⟨rfl,_⟩ | ⟨a,len,cap,Ih,rest,n,hn,rfl,_,_,hl,hm,hel,hget,_⟩
   ·exact⟨([],()),F2.cons (.nil _ _ _) .nil,λc hc=>by simp[CY,aA]at hc;subst hc;exact .ro e [] (a2_ _) λi x j c h=>by simp at h⟩
   ·have hn:DL=n:=ω;subst hn;rw[hsz]at hget;obtain⟨l,hll,hlq⟩:=Azu (Q:=λi (y:G.T e)=>(∀j,j<G.sz e→∃v,w.cell? ((a.add (i*G.sz e)).add j)=A v∧∀cv,(G.enc e y)[j]?=A cv→Rd G (λb=>b<w.heap.size) w.heap cv v)∧∀c∈G.enc e y,WfC G c) len λi hi=>by
     have h1:=hget i hi;rw[i_ ω]at h1;cases hc:w.cells? 0 (a.add (i*G.sz e)) (G.sz e)with
     |none=>rw[hc]at h1;simp at h1
     |some ci=>rw[hc]at h1;obtain⟨xe,r1,r2⟩:=ih 20 e ci _ se hse h1;obtain⟨y,hy⟩:=hdec xe;have hye:=ok.encdec e _ _ hy;obtain⟨_,hcl,hat⟩:=World.cells?_some hc;refine⟨y,λj hj=>?_,λc hcm=>r2 c (by rw[← hye];exact hcm)⟩;refine⟨ci[j]'ω,by rw[hat j hj];exact i_ ω,λcv hcv=>?_⟩;rw[hye]at hcv;exact r1.2 j cv _ hcv (i_ ω)
    refine⟨(l,()),F2.cons ?_ .nil,λc hc=>?_⟩
    ·show Rd G _ w.heap (.ro e l) _;by_cases h0:len=0
     ·have:l=[]:=U_ ω
      rw[this,h0];exact .nil _ _ _
     ·have hpos:=ok.pos e hno;obtain⟨y0,hy0⟩:∃y0,l[0]?=A y0:=⟨l[0]'ω,i_ ω⟩
      obtain⟨v0,hv0,_⟩:=(hlq 0 y0 hy0).1 0 hpos;obtain⟨b,off,spot⟩:=a;have ha0:((⟨b,off,spot⟩:Addr).add (0*G.sz e)).add 0=⟨b,off,spot⟩:=by rw[Nat.zero_mul];rfl
      rw[ha0]at hv0;unfold World.cell? at hv0;simp only at hv0;split at hv0
      ·rename_i c te fz hb;cases hsp:spot with
       |some z=>rw[hsp]at hv0;simp at hv0
       |none=>
        subst hsp;have hlt:b<w.heap.size:=(N_.1 hb).1;rw[← hll];have hcell:∀i j,i<l.length→j<G.sz e→∃v,c[off+i*G.sz e+j]?=A v∧∀y cv,l[i]?=A y→(G.enc e y)[j]?=A cv→Rd G (λb=>b<w.heap.size) w.heap cv v:=by
         intro i j hi hj;obtain⟨v,hv,hq⟩:=(hlq i _ (i_ hi)).1 j hj;refine⟨v,?_,λy cv hy hcv=>hq cv ?_⟩
         ·rw[Hr,Hr]at hv;unfold World.cell? at hv;simp only[hb]at hv;simpa using hv
         ·rw[i_ hi]at hy;simp at hy;rw[hy];exact hcv
        refine .ro e l b off cap c te fz (λi j=>c.getD (off+i*G.sz e+j) undef) hlt hb ω (λi j hi hj=>?_) (λi j y cv hy hcv=>?_)
        ·obtain⟨v,hv,_⟩:=hcell i j hi hj;rw[hv];simp[z_,hv]
        ·have hi:i<l.length:=(g_.1 hy).1;have hj:j<G.sz e:=by rw[← hencl y];exact(g_.1 hcv).1
         obtain⟨v,hv,hq⟩:=hcell i j hi hj
         have:c.getD (off+i*G.sz e+j) undef=v:=by simp[z_,hv]
         rw[this];exact hq y cv hy hcv
      ·simp at hv0
    ·simp[CY,aA]at hc;subst hc;exact .ro e l ω λi y j c hy hc=>(hlq i y hy).2 c (v_ hc)
  |_=>rw[hty]at h;simp at h
end
end Go.Ab
namespace Go.Ab
variable{G:J}
variable{v:Value}
def Vc(G:J):List C→Type
 |[]=>Unit
 |s::t=>s.T G×Vc G t
def LZ:(s:List C)→Vc G s→List (Pv G.T)
 |[],_=>[]
 |s::t,x=>s.give x.1::LZ t x.2
def YM:B→Bool
 | .own _ _=>L
 |_=>D
def Ang:C→Bool
 | .one c=>YM c
 | .agg cs=>cs.all YM
def Ue:(n:Nat)→(s:List C)→Vc G s→TmT G (Jp n s)
 |_,[],_=>()
 |n,_::t,x=>(x.1,Ue (n+1) t x.2)
def Aie:∀(n:Nat) (s:List C) (x:Vc G s),Ll (Jp n s) (Ue n s x)=Jp n ((LZ s x).map Sv.p)
 |_,[],_=>rfl
 |n,p::t,x=>by show(n,Sv.p (p.give x.1))::Ll (Jp (n+1) t) (Ue (n+1) t x.2)=(n,Sv.p (p.give x.1))::Jp (n+1) ((LZ t x.2).map Sv.p);rw[Aie (n+1) t x.2]
def Aqd:∀(s:B) (x:s.T G),YM s=D→s.blk x=[]
 | .own _ _,_,h=>by simp[YM]at h
 | .int _,_,_=>rfl
 | .bool,_,_=>rfl
 | .str,_,_=>rfl
 | .flt _,_,_=>rfl
 | .ro _,_,_=>rfl
 | .rp _ _,_,_=>rfl
 | .ptr _ _,_,_=>rfl
 | .clo _ _ _,_,_=>rfl
 | .np _ _,_,_=>rfl
 | .nili,_,_=>rfl
 | .nilp,_,_=>rfl
 | .lit _ _,_,_=>rfl
 | .sa _ _ _,_,_=>rfl
def Aqe:∀(s:List B) (x:TL G s),s.all YM=D→Aa5 s x=[]
 |[],_,_=>rfl
 |c::t,x,h=>by simp only[Z_,e_]at h;simp only[Aa5,Aqd c x.1 h.1,Aqe t x.2 h.2,a6_]
def Bhs(s:C)(x:s.T G)(h:Ang s=D):s.blk x=[]:=by
 cases s with
 |one c=>exact Aqd c x h
 |agg cs=>exact Aqe cs x h
def Alk:∀(n:Nat) (s:List C) (x:Vc G s),s.all Ang=D→NX (Jp n s) (Ue n s x)=[]
 |_,[],_,_=>rfl
 |n,p::t,x,h=>by simp only[Z_,e_]at h;show p.blk x.1++NX (Jp (n+1) t) (Ue (n+1) t x.2)=[];rw[Bhs p x.1 h.1,Alk (n+1) t x.2 h.2];rfl
def Bd6(G:J)(t:Nat):Option C:=match shl G 20 t with
 |some s=>bif(G.ty t).isAgg then A (.agg s)else match s with | [c]=>A (.one c) | _=>N
 |none=>N
def Aur(G:J):List Nat→Option (List C)
 |[]=>A []
 |t::r=>match Bd6 G t,Aur G r with
  |some a,A b=>A (a::b)
  |_,_=>N
def WfA(G:J)(s:List C)(x:Vc G s):Prop:=∀p∈LZ s x,∀c∈p.cells,WfC G c
section
variable{H:Type}{enc:TypeId×Value→H}{P:Program}(ok:SigOK P G)(dk:Ake G){w:World}{sp:Nat→Bool}{hd:Bool}
theorem Bhe{S:Nat→Prop}{h:Array Obj}{c:Cv G.T}(hw:WfC G c)(r:Rd G S h c v):Rc G (λ_=>N) S h c v:=by cases hw<;>exact r
include ok dk in
theorem Bd0{t:Nat}{d:DataW H}{ps:List MemPlace}{s:C}{r:Reach}{base:Nat}(hs:Bd6 G t=A s)(ht:DataW.Trod enc P w 0 sp hd t v d ps)(hv:Value.okWide P w r base t v):
  ∃x:s.T G,Rp G (λ_=>N) (λb=>b<w.heap.size) w.heap (s.give x) v∧∀c∈(s.give x).cells,WfC G c:=by
 obtain⟨DL,ht⟩:=ht;unfold Bd6 at hs;split at hs
 ·rename_i sh hsh;obtain⟨x,h1,h2⟩:=Az6 ok dk DL 20 t _ _ sh hsh ht;cases ha:(G.ty t).isAgg with
  |true=>
   rw[ha]at hs;simp at hs;subst hs;have hag:∃cs,v=.agg cs:=by
    unfold Value.okWide at hv;cases hty:G.ty t with
    |st fs=>obtain⟨fields,hund,_⟩:=ok.strc t fs hty;rw[hund]at hv;obtain⟨cs,h,_⟩:=hv;exact⟨cs,h⟩
    |arr n e=>obtain⟨hund,_⟩:=ok.arr t n e hty;rw[hund]at hv;obtain⟨cs,h,_⟩:=hv;exact⟨cs,h⟩
    |_=>rw[hty]at ha;simp[Ty.isAgg]at ha
   obtain⟨cs,rfl⟩:=hag;refine⟨x,?_,h2⟩;have e1:(Value.agg cs)=.agg cs.toList.toArray:=by simp
   rw[e1];exact .agg _ _ ⟨h1.1,λi c u hc hu=>Bhe (h2 c (v_ hc)) (h1.2 i c u hc hu)⟩
  |false=>
   rw[ha]at hs;simp only[c_]at hs;split at hs
   ·rename_i c;simp at hs;subst hs;have hl:v.cells.toList.length=1:=by rw[← h1.1];rfl
    have hv1:v.cells=#[v]:=by
     cases v with
     |agg cs=>
      exfalso;unfold Value.okWide at hv;cases hty:G.ty t with
      |bool=>rw[ok.bool t hty]at hv;simp[Cell.okWide,Cell.ok,ok.bool t hty]at hv
      |int k=>rw[ok.int t k hty]at hv;simp[Cell.okWide,Cell.ok,ok.int t k hty]at hv
      |flt k=>rw[ok.flt t k hty]at hv;simp[Cell.okWide,Cell.ok,ok.flt t k hty]at hv
      |str=>rw[ok.str t hty]at hv;simp[Cell.okWide,Cell.ok,ok.str t hty]at hv
      |sl e=>rw[(ok.sl t e hty).1]at hv;simp[Cell.okWide,Cell.ok,(ok.sl t e hty).1]at hv
      |st _=>rw[hty]at ha;simp[Ty.isAgg]at ha
      |arr _ _=>rw[hty]at ha;simp[Ty.isAgg]at ha
      |_=>simp[shl,hty]at hsh
     |_=>rfl
    have hr:Rd G (λb=>b<w.heap.size) w.heap (c.give x.1) v:=h1.2 0 _ v rfl (by rw[hv1];rfl);have hw:=h2 (c.give x.1) (by simp[CY]);refine⟨x.1,.one _ _ (Bhe hw hr),λc' hc'=>?_⟩;have hc':c'∈[c.give x.1]:=hc';simp at hc';subst hc';exact hw
   ·simp at hs
 ·simp at hs
include ok dk in
theorem Anl{r:Reach}{base:Nat}:∀(ts:List Nat) (vs:List Value) (ds:List (DataW H)) (ps:List MemPlace) (s:List C),Aur G ts=A s→DataW.TrodAll enc P w 0 sp hd ts vs ds ps→
  (∀(j:Nat) t v,ts[j]?=A t→vs[j]?=A v→Value.okWide P w r base t v)→∃x:Vc G s,F2 (Rp G (λ_=>N) (λb=>b<w.heap.size) w.heap) (LZ s x) vs∧WfA G s x
 |[],[],[],_,s,hs,_,_=>by simp[Aur]at hs;subst hs;exact⟨(),.nil,λp hp=>by simp[LZ]at hp⟩
 |t::ts,v::vs,d::ds,ps,s,hs,⟨p,q,h1,h2,_⟩,hv=>by
  simp only[Aur]at hs;split at hs
  ·rename_i a b ha hb;simp at hs;subst hs;obtain⟨x,g1,g2⟩:=Bd0 ok dk ha h1 (hv 0 t v rfl rfl);obtain⟨y,g3,g4⟩:=Anl ts vs ds q b hb h2 λj t v ht hvv=>hv (j+1) t v (by simpa using ht) (by simpa using hvv);refine⟨(x,y),g3.cons g1,λp hp=>?_⟩;simp only[LZ,q_]at hp;rcases hp with rfl | hp
   ·exact g2
   ·exact g4 p hp
  ·simp at hs
 |[],[],_::_,_,_,_,h,_=>h.elim
 |[],_::_,_,_,_,_,h,_=>by cases h
 |_::_,[],_,_,_,_,h,_=>by cases h
 |_::_,_::_,[],_,_,_,h,_=>by cases h
def Alf(s:List C):O:=⟨Jp 0 s,[],[]⟩
theorem Azp{g:Nat}{sh:List C}{E:List (Ex×O)}{F:(Alf sh).T G→Option (Gx G E)}{rs:List ResultVar}(hf:GO P G g ⟨Alf sh,E,F,rs⟩)(hno:sh.all Ang=D){x:Vc G sh}{y:Gx G E}
  (hF:F (Ue 0 sh x,())=A y) {b:Bool}{p:Ex×St G}(hp:Hb E y A=A p) (hy:KN (Alf sh) rs p=A (.p (.one (.sc (.bool b))),[])) {W:World}(hgl:GlOK G (λb=>b<W.heap.size) W.heap) {vals:List Value}
  (hargs:F2 (Rp G (λ_=>N) (λb=>b<W.heap.size) W.heap) (LZ sh x) vals) :
  Calls P g vals.toArray W λe' W'=>e'=.returned (.bool b)∧RowKit.Below W.heap.size W W':=by
 have hlen:∀(n:Nat) (s:List C) (x:Vc G s),(LZ s x).length=(Jp n s).length:=by
  intro n s;induction s generalizing n with
  |nil=>intro _;rfl
  |cons p t ih=>intro x;simp only[LZ,Jp,x_,ih (n+1) x.2]
 have hp0:((Alf sh).mk' (Ue 0 sh x,())).hp=([]:List (Nat×Blk G.T)):=by show NX (Jp 0 sh) (Ue 0 sh x)++([]++[])=[];rw[Alk 0 sh x hno];rfl
 have htm:((Alf sh).mk' (Ue 0 sh x,())).tm=Jp 0 ((LZ sh x).map (Sv.p (T:=G.T))):=Aie 0 sh x;refine((hf.2 (Ue 0 sh x,()) y p _ [] hF hp hy) (λ_=>N) (λb=>b<W.heap.size) (λ_=>False) W vals ⟨λn k hk=>?_,λn m z z' b h1=>?_,λn z b h1=>?_,λ_ h=>h,hgl⟩ (λn hn=>absurd rfl hn) ?_ λk v hk=>?_).mono ?_
 ·rw[hp0]at hk;cases hk
 ·rw[hp0]at h1;exact absurd rfl h1
 ·rw[hp0]at h1;exact absurd rfl h1
 ·rw[← hargs.1];exact hlen 0 sh x
 ·rw[htm,WT]at hk;simp at hk;obtain⟨u,hu,rfl⟩:=hk;obtain⟨v,hv,hrp⟩:=hargs.get hu
  have:vals.getD k undef=v:=by simp[k_,hv]
  rw[this];exact .p _ _ hrp
 ·rintro e' W' ⟨v,ν',S',he,hval,_,_,_,_,hsz,hfr,henv⟩;refine⟨?_,henv.1,henv.2.1,henv.2.2,hsz,λb hb=>hfr b hb id⟩;rw[he];cases hval with
  |p _ _ hrp=>
   cases hrp with
   |one _ _ hc=>have hc:Rd G S' W'.heap (.sc (.bool b)) v:=hc;cases hc;rfl
end
def Aav(G:J)(y:Ty):Prop:=∀e,y=.sl e→Yw (G.ty e)=L→∃s,shl G 20 e=A s∧∀x:TL G s,∃y,G.dec e (CY s x)=A y
def Aqj{G:J}{y:Ty}(h:(match y with | .sl _=>D | _=>L)=L):Aav G y:=λe he _=>by subst he;simp at h
def Bhz{G:J}{e:Nat}{s:List B}(h:shl G 20 e=A s)(hd:∀x:TL G s,∃y,G.dec e (CY s x)=A y):Aav G (.sl e):=λe' he _=>by cases he;exact⟨s,h,hd⟩
def Bcb{tys:List (Nat×TyD)}{l:List (Ent1 (TOf tys))}{gl:Nat→Option ((t:Nat)×TOf tys t)}{ext:Nat→Nat}(h:∀p∈l,Aav (PY tys l gl ext) p.e.ty):Ake (PY tys l gl ext):=λt=>UD (T:=TOf tys) (Q:=λ_ e=>Aav (PY tys l gl ext) e.ty) (λ_=>Aqj rfl) h t
end Go.Ab
namespace Go.Ab
variable{G:J}
variable{P:Program}{k:IntKind}{w:World}
def Aph{H:Type}{enc:TypeId×Value→H}{base:Nat}{sp:Nat→Bool}{held:Bool}{DL:Nat}{t:TypeId}{c:Value}{n:Int}{q:List MemPlace}
  (ht:P.underlying t=A (.int k)) (h:DataW.trod enc P w base sp held DL t [c]=A (.lit (.int k n),q)):c=.int k n:=by
 cases DL with
 |zero=>simp[DataW.trod]at h
 |succ DL=>cases c<;>simp[DataW.trod,ht]at h;obtain⟨⟨rfl,_⟩,rfl,_⟩:=h;rfl
def Aut{n:String}{g:Nat}{t e:TypeId}{ns:List Int}{gt:Nat}{gx:G.T gt}{cs:Array Value}{DL:Nat}{p:List MemPlace}
  (hn:P.globalNamed n=A g) (hu:P.underlying t=A (.array ns.length e)) (he:P.underlying e=A (.int k)) (hce:P.cellsOf e=1) (hct:P.cellsOf t=ns.length)
  (hsz:G.sz gt=ns.length) (henc:G.enc gt gx=ns.map λx=>.sc (.int k x))
  (hv:w.var? P n=A cs) (hd:DataW.trod (λ_=>()) P w 0 (λ_=>D) L DL t cs.toList=A (.agg (ns.map λx=>.lit (.int k x)),p)) :
  Rd G (λb=>b<w.heap.size) w.heap (.rp gt gx 0) (.pointer (A ⟨g,0,N⟩)):=by
 obtain⟨xs,m,_,hx,hlen,hxs,hf⟩:=DataW.trod_array hu hd;have hcell:∀j (x:Int),ns[j]?=A x→cs[j]?=A (Value.int k x):=λj x hj=>by
  obtain⟨hjl,hjx⟩:=g_.1 hj;have h1:=hf j hjl;rw[hce,d0_]at h1;have hm:xs.map (·.1)=ns.map λx=>DataW.lit (.int k x):=by simp only[g6_,DataW.agg.injEq]at hx;exact hx.1.symm
  have h2:=d3_ (·[j]?) hm;simp only[b7_,hj,g4_]at h2;cases hq:xs[j]? with
  |none=>rw[hq]at h2;cases h2
  |some z=>
   rw[hq]at h1 h2;obtain⟨z1,z2⟩:=z;simp only[g4_,e1_]at h2;subst h2;have hl:j<cs.toList.length:=by rw[hlen,hct];exact hjl
   have hdrop:(cs.toList.drop j).take 1=[cs.toList[j]]:=by rw[h4_ hl];rfl
   rw[hdrop]at h1;have hz:=Aph he h1;rw[← Array.getElem?_toList,i_ hl,hz]
 unfold World.var? at hv;rw[hn]at hv;simp only[a_]at hv;split at hv
 ·rename_i cs' te fz hb;obtain rfl:=L_ hv;refine .rp gt gx 0 g 0 cs' te fz (λj=>cs'.getD j undef) (N_.1 hb).1 hb (λj hj=>?_) λj cv hj=>?_
  ·rw[hsz]at hj
   have:=hcell j ns[j] (i_ hj)
   rw[n_,this];simp[z_,this]
  ·rw[henc,b7_]at hj;cases hq:ns[j]? with
   |none=>rw[hq]at hj;cases hj
   |some x=>
    rw[hq]at hj;simp only[g4_,e1_]at hj;subst hj
    have:=hcell j x hq
    rw[show cs'.getD j undef=.int k x by simp[z_,this]];exact .sc _ rfl
 ·cases hv
end Go.Ab
namespace Go.Ab
open Go
def zc(i:TypeInfo):List Value:=match i.zero with
 |some z=>z.cells.toList
 |none=>[]
def Sk.c:Sk→B
 | .i k=>.int k
 | .b=>.bool
 | .s=>.str
 | .f k=>.flt k
 | .l t=>.ro t
def Sk.nl:Sk→Bool
 | .l _=>L
 |_=>D
def Sk.u:Sk→Bool
 | .i .u8=>D
 |_=>L
section
variable{T:Nat→Type}
def pe(t:Nat)(i:TypeInfo)(y:Ty):Ent1 T:=plain T t y i.size (zc i)
def re(t:Nat)(i:TypeInfo)(y:Ty)(sk:List Sk)(to:T t→SkL T sk)(of:SkL T sk→T t):Ent1 T:=⟨t,⟨y,i.size,zc i,λx=>Qy sk (to x),λcs=>match Al1 sk cs with
 |some x=>A (of x)
 |none=>N,sk.all Sk.nl⟩⟩
def SkF(T:Nat→Type)(Y:Type):List Sk→Type
 |[]=>Y
 |a::t=>a.T T→SkF T Y t
def apS{Y:Type}:(l:List Sk)→SkF T Y l→SkL T l→Y
 |[],f,_=>f
 |_::t,f,x=>apS t (f x.1) x.2
def Sk.enc_sc(a:Sk)(x:a.T T):Yy (a.enc x)=D∧(a.nl=D→Ad7 (a.enc x)=D)∧u8C (a.enc x)=a.u:=by
 cases a with
 |i k=>exact⟨rfl,λ_=>rfl,by cases k<;>rfl⟩
 |l t=>exact⟨rfl,(λh=>by cases h),rfl⟩
 |_=>exact⟨rfl,λ_=>rfl,rfl⟩
def Al8:∀(l:List Sk) (x:SkL T l),(Qy l x).length=l.length
 |[],_=>rfl
 |_::t,x=>d3_ (· +1) (Al8 t x.2)
def Aqn:∀(l:List Sk) (x:SkL T l),(Qy l x).all Yy=D
 |[],_=>rfl
 |a::t,x=>by simp only[Qy,Z_,(a.enc_sc x.1).1,Aqn t x.2,a0_]
def Aqo:∀(l:List Sk),l.all Sk.nl=D→∀(x:SkL T l),(Qy l x).all Ad7=D
 |[],_,_=>rfl
 |a::t,h,x=>by rw[Z_,e_]at h;simp only[Qy,Z_,(a.enc_sc x.1).2.1 h.1,Aqo t h.2 x.2,a0_]
def Af9:∀(l:List Sk) (x:SkL T l),(Qy l x).map u8C=l.map Sk.u
 |[],_=>rfl
 |a::t,x=>by simp only[Qy,c2_,(a.enc_sc x.1).2.2,Af9 t x.2]
end
def Aty:List (Nat×Nat)→List (Nat×Nat)→Bool
 |[],[]=>D
 |a::s,b::t=>U a.1 b.1&&U a.2 b.2&&Aty s t
 |_,_=>L
def Aqr:∀{s t:List (Nat×Nat)},Aty s t=D→s=t
 |[],[],_=>rfl
 |(a,b)::s,(c,d)::t,h=>by simp only[Aty,e_]at h;rw[d1_ h.1.1,d1_ h.1.2,Aqr h.2]
section
variable{P:Program}{G:J}
def Zp(P:Program)(G:J)(t:Nat):Ty→Bool
 | .no=>L
 | .bool=>match P.underlying t with
  |some .bool=>D
  |_=>L
 | .int k=>match P.underlying t with
  |some (.int k')=>EB k k'
  |_=>L
 | .flt k=>match P.underlying t with
  |some (.float k')=>PP k k'
  |_=>L
 | .str=>match P.underlying t with
  |some .string=>D
  |_=>L
 | .sl e=>(match P.underlying t with
  |some (.slice e')=>U e e'
  |_=>L)&&(!Ox (G.ty e)&&(match P.info? e with
  |some i=>Nat.ble i.bytes 4096
  |none=>L))
 | .pt e=>match P.underlying t with
  |some (.pointer e')=>U e e'
  |_=>L
 | .fn=>match P.underlying t with
  |some (.func _ _ _)=>D
  |_=>L
 | .st fs=>match P.underlying t with
  |some (.struct fields)=>Aty (fields.toList.map λf=>(f.offset,f.type)) fs&&fs.all λp=>!Ox (G.ty p.2)
  |_=>L
 | .arr n e=>match P.underlying t with
  |some (.array n' e')=>U n n'&&U e e'&&!Ox (G.ty e)
  |_=>L
def Ae5(G:J):Ty→Prop
 | .sl e=>∀x,(G.enc e x).length=G.sz e
 |_=>True
def Bh7{k k':IntKind}(h:EB k k'=D):k=k':=by cases k<;>cases k'<;>first | rfl | (simp[EB]at h)
def Bh6{k k':FloatKind}(h:PP k k'=D):k=k':=by cases k<;>cases k'<;>first | rfl | (simp[PP]at h)
def Bix{t:Nat}{y:Ty}(h:Zp P G t y=D)(hl:Ae5 G y):Bbt P G t y:=by
 unfold Zp at h;cases y with
 |no=>trivial
 |bool | str=>
  simp only at h;split at h
  ·assumption
  ·cases h
 |int k=>
  simp only at h;split at h
  ·rename_i e;cases Bh7 h;exact e
  ·cases h
 |flt k=>
  simp only at h;split at h
  ·rename_i e;cases Bh6 h;exact e
  ·cases h
 |sl e=>
  simp only[e_,a9_]at h;obtain⟨h1,h2,h3⟩:=h;split at h1
  ·rename_i e';split at h3
   ·rename_i i hi;cases d1_ h1;exact⟨e',h2,⟨i,hi,h3⟩,hl⟩
   ·cases h3
  ·cases h1
 |pt e=>
  simp only at h;split at h
  ·rename_i e';cases d1_ h;exact e'
  ·cases h
 |fn=>
  simp only at h;split at h
  ·rename_i e;exact⟨_,_,_,e⟩
  ·cases h
 |st fs=>
  simp only at h;split at h
  ·rename_i fields e;rw[e_]at h;exact⟨fields,e,Aqr h.1,h.2⟩
  ·cases h
 |arr n e=>
  simp only at h;split at h
  ·rename_i e';simp only[e_,a9_]at h;cases d1_ h.1.1;cases d1_ h.1.2;exact⟨e',h.2⟩
  ·cases h
def WY(i:TypeInfo):Bool:=Nat.ble 1 i.size&&((zc i).all Kb&&(U (zc i).length i.size&&i.zero.isSome))
def Azc{t:Nat}{i:TypeInfo}{y:Ty}{enc:G.T t→List (Cv G.T)}{dec:List (Cv G.T)→Option (G.T t)}{fl:Bool}(hi:P.info? t=A i)(hc:(Zp P G t y&&WY i)=D)(hl:Ae5 G y)
  (h1:∀x,(enc x).length≤i.size) (h2:∀cs x,dec cs=A x→enc x=cs) (h3:∀x,(enc x).all Yy=D) (h4:fl=D→∀x,(enc x).all Ad7=D) (h5:∀x y,(enc x).map u8C=(enc y).map u8C):EntOK P G t ⟨y,i.size,zc i,enc,dec,fl⟩:=by
 rw[e_]at hc;obtain⟨ht,hc⟩:=hc;simp only[WY,e_]at hc;obtain⟨z,hz⟩:=Option.isSome_iff_exists.1 hc.2.2.2;refine⟨Bix ht hl,λ_=>⟨i,z,hi,rfl,hz,by simp only[zc,hz]⟩,λ_=>hc.1,λh=>?_,hc.2.1,d1_ hc.2.2.1,h1,h2,h3,h4,h5⟩;have h:y=.no:=h;subst h;cases ht
def pk{t:Nat}{i:TypeInfo}{y:Ty}(hi:P.info? t=some i:=by kernel_rfl)(hc:(Zp P G t y&&WY i)=true:=by kernel_rfl)(hl:Ae5 G y:=by trivial):EntOK P G t (pe (T:=G.T) t i y).e:=Azc hi hc hl (λ_=>a2_ _) (λ_ _ h=>by cases h) (λ_=>rfl) (λ_ _=>rfl) (λ_ _=>rfl)
def ps{t e:Nat}{i:TypeInfo}(hi:P.info? t=some i:=by kernel_rfl)(hc:(Zp P G t (.sl e)&&WY i)=true:=by kernel_rfl)(hl:∀x,(G.enc e x).length=G.sz e:=by intro x;kernel_rfl):EntOK P G t (pe (T:=G.T) t i (.sl e)).e:=pk hi hc hl
def rk0{t:Nat}{i:TypeInfo}{y:Ty}{sk:List Sk}{to:G.T t→SkL G.T sk}{of:SkL G.T sk→G.T t}(hl:Ae5 G y)(hi:P.info? t=A i)(hc:(Zp P G t y&&WY i)=D)(hs:U sk.length i.size=D)(hr:∀x,to (of x)=x):EntOK P G t (re (T:=G.T) t i y sk to of).e:=
 Azc hi hc hl (λx=>by rw[Al8,d1_ hs];exact A_ _) (λcs x h=>by
  cases e:Al1 sk cs with
  |none=>rw[e]at h;cases h
  |some z=>rw[e]at h;cases h;rw[hr];exact Aqk e) (λx=>Aqn _ _) (λh x=>Aqo _ h _) (λx y=>by rw[Af9,Af9])
def rk{t:Nat}{i:TypeInfo}{y:Ty}{sk:List Sk}{to:G.T t→SkL G.T sk}{of:SkL G.T sk→G.T t}(hi:P.info? t=some i:=by kernel_rfl)(hc:(Zp P G t y&&WY i)=true:=by kernel_rfl)(hs:Nat.beq sk.length i.size=true:=by kernel_rfl)(hr:∀x,to (of x)=x:=by intro x;kernel_rfl)(hl:Ae5 G y:=by trivial):EntOK P G t (re (T:=G.T) t i y sk to of).e:=rk0 hl hi hc hs hr
def rs{t e:Nat}{i:TypeInfo}{sk:List Sk}{to:G.T t→SkL G.T sk}{of:SkL G.T sk→G.T t}(hi:P.info? t=some i:=by kernel_rfl)(hc:(Zp P G t (.sl e)&&WY i)=true:=by kernel_rfl)(hs:Nat.beq sk.length i.size=true:=by kernel_rfl)(hr:∀x,to (of x)=x:=by intro x;kernel_rfl)(hl:∀x,(G.enc e x).length=G.sz e:=by intro x;kernel_rfl):EntOK P G t (re (T:=G.T) t i (.sl e) sk to of).e:=rk0 hl hi hc hs hr
def fn0{α:Type _}{Q:α→Prop}:∀p∈([]:List α),Q p:=λ_ h=>absurd h (h2_)
def fc{α:Type _}{Q:α→Prop}{a:α}{l:List α}(h:Q a)(t:∀p∈l,Q p):∀p∈a::l,Q p:=List.forall_mem_cons.2 ⟨h,t⟩
def Bqs (P : Program) (t : Nat) (y : Ty) : Bool := (!y.isAgg || !P.eqGuardType P.depth t) && (!Aua y || (!P.stoodInHeld t && (P.fieldsOf t).toList.all λf => f.name != "_"))
def Bto{l:List (Ent1 G.T)}(h:(l.all λp=>Bqs P p.t p.e.ty)=D):∀p∈l,NmE P p.t p.e.ty:=λp hp=>by
 have h:=K_.1 h p hp;simp only[Bqs,e_,S_,a9_]at h;refine⟨λe=>?_,λe=>?_,λe=>?_⟩
 ·rcases h.1 with h | h
  ·rw[h]at e;cases e
  ·exact h
 ·rcases h.2 with h | h
  ·rw[h]at e;cases e
  ·exact h.1
 ·rcases h.2 with h | h
  ·rw[h]at e;cases e
  ·exact h.2
def Bg6:∀(l:List Sk) (y:TL G (l.map Sk.c)),∃x:SkL G.T l,CY (l.map Sk.c) y=Qy l x
 |[],_=>⟨(),rfl⟩
 |a::t,y=>by
  obtain⟨x,hx⟩:=Bg6 t y.2;cases a with
  |i k=>exact⟨((show Int from y.1),x),d3_ (Cv.sc (.int k y.1):: ·) hx⟩
  |b=>exact⟨((show Bool from y.1),x),d3_ (Cv.sc (.bool y.1):: ·) hx⟩
  |s=>exact⟨((show ByteArray from y.1),x),d3_ (Cv.sc (.string y.1):: ·) hx⟩
  |f k=>exact⟨((show Nat from y.1),x),d3_ (Cv.sc (.float k y.1):: ·) hx⟩
  |l e=>exact⟨((show List (G.T e)from y.1),x),d3_ (Cv.ro e y.1:: ·) hx⟩
def dk(sk:List Sk){e:Nat}(hs:shl G 20 e=some (sk.map Sk.c):=by kernel_rfl)(hd:∀x:SkL G.T sk,(G.dec e (Qy sk x)).isSome=true:=by intro x;kernel_rfl):Aav G (.sl e):=Bhz hs λy=>by obtain⟨x,hx⟩:=Bg6 sk y;rw[hx];exact Option.isSome_iff_exists.1 (hd x)
def df{e:Nat}(h:Yw (G.ty e)=true:=by kernel_rfl):Aav G (.sl e):=λe' he hf=>by cases he;rw[h]at hf;cases hf
def dn{y:Ty}(h:(match y with | .sl _=>true | _=>false)=false:=by rfl):Aav G y:=Aqj h
end
def ki:Sk:=.i .i64
def k4:Sk:=.i .u32
def k1:Sk:=.i .u8
def kb:Sk:=.b
def ks:Sk:=.s
def kf:Sk:=.f .f64
def kl(t:Nat):Sk:=.l t
def ci:B:=.int .i64
def c4:B:=.int .u32
def c1:B:=.int .u8
def cb:B:=.bool
def cs:B:=.str
def cf:B:=.flt .f64
def cr(t:Nat):B:=.ro t
def cw(m t:Nat):B:=.own (32768+m) t
def oi:C:=.one ci
def o4:C:=.one c4
def o1:C:=.one c1
def oA(l:List B):C:=.agg l
section
variable{G:J}
def CSh.F(G:J)(Y:Type):B→Type
 | .int _=>Int→Y
 | .bool=>Bool→Y
 | .str=>ByteArray→Y
 | .flt _=>Nat→Y
 | .own _ t=>List (G.T t)→Y
 | .ro t=>List (G.T t)→Y
 | .rp t _=>G.T t→Y
 |_=>Y
def CSh.ap{Y:Type}:(s:B)→s.F G Y→s.T G→Y
 | .int _,f,x=>f x
 | .bool,f,x=>f x
 | .str,f,x=>f x
 | .flt _,f,x=>f x
 | .own _ _,f,x=>f x
 | .ro _,f,x=>f x
 | .rp _ _,f,x=>f x
 | .ptr _ _,f,_=>f
 | .clo _ _ _,f,_=>f
 | .np _ _,f,_=>f
 | .nili,f,_=>f
 | .nilp,f,_=>f
 | .lit _ _,f,_=>f
 | .sa _ _ _,f,_=>f
def LF(G:J)(Y:Type):List B→Type
 |[]=>Y
 |s::t=>s.F G (LF G Y t)
def apL{Y:Type}:(l:List B)→LF G Y l→TL G l→Y
 |[],f,_=>f
 |s::t,f,x=>apL t (s.ap f x.1) x.2
def PSh.F(G:J)(Y:Type):C→Type
 | .one c=>c.F G Y
 | .agg l=>LF G Y l
def PSh.ap{Y:Type}:(s:C)→s.F G Y→s.T G→Y
 | .one c,f,x=>c.ap f x
 | .agg l,f,x=>apL l f x
def TmF(G:J)(Y:Type):List (Nat×C)→Type
 |[]=>Y
 |p::t=>p.2.F G (TmF G Y t)
def apT{Y:Type}:(l:List (Nat×C))→TmF G Y l→TmT G l→Y
 |[],f,_=>f
 |p::t,f,x=>apT t (p.2.ap f x.1) x.2
def HpF(G:J)(Y:Type):List (Nat×List B)→Type
 |[]=>Y
 |p::t=>LF G (HpF G Y t) p.2
def apH{Y:Type}:(l:List (Nat×List B))→HpF G Y l→HpT G l→Y
 |[],f,_=>f
 |p::t,f,x=>apH t (apL p.2 f x.1) x.2
def Spec.F(G:J)(s:O)(Y:Type):Type:=TmF G (HpF G Y s.hp) s.tm
def Spec.ap{Y:Type}(s:O)(f:s.F G Y)(x:s.T G):Y:=apH s.hp (apT s.tm f x.1) x.2
def fe(fn:Func)(I:O)(E:SL)(f:I.F G (Option (Gx G E))):Fe G:=⟨I,E,I.ap f,fn.results.toList⟩
def ix(n:Nat):List C→List (Nat×C)
 |[]=>[]
 |a::t=>(n,a)::ix (n+1) t
def ia(l:List C):O:=⟨ix 0 l,[],[]⟩
def sp(l:List (Nat×C)):O:=⟨l,[],[]⟩
def sh(l:List (Nat×C))(h:List (Nat×List B)):O:=⟨l,h,[]⟩
def rt(l:List (Nat×C)):SL:=[(.ret,sp l)]
def rh(l:List (Nat×C))(h:List (Nat×List B)):SL:=[(.ret,sh l h)]
def jn(l:List (Nat×C)):SL:=[(.normal,sp l)]
def jh(l:List (Nat×C))(h:List (Nat×List B)):SL:=[(.normal,sh l h)]
def xt(n:Nat)(l:List (Nat×C)):Ex×O:=(.exit n,sp l)
def xh(n:Nat)(l:List (Nat×C))(h:List (Nat×List B)):Ex×O:=(.exit n,sh l h)
def rx(l:List (Nat×C)):Ex×O:=(.ret,sp l)
def yh(l:List (Nat×C))(h:List (Nat×List B)):Ex×O:=(.ret,sh l h)
def Bny(n:Nat):List (Nat×SL)→Option SL
 |[]=>N
 |p::t=>bif U (1048576+p.1) n then A p.2 else Bny n t
def js(l:List (Nat×SL))(n:Nat):Option SL:=Bny n l
end
variable{G:J}
def lpN:List (O×(St G→M (Ex×St G)))→St G→M (Ex×St G)
 |[],_=>M.fail
 |s::t,st=>match s.1.take st with
  |none=>M.fail
  |some x=>M.bind (s.2 (s.1.mk' x)) λp=>match p.1 with
   | .normal=>lpN t p.2
   |e=>M.ret (e,p.2)
section
variable{P:Program}(ok:SigOK P G)(eqok:EqOK P G){cf:CK G}(cfok:CfOK P G cf){nt:Nat}{drawn:Array Oper→St G→M (St G)}(dok:DrawOK P G nt drawn)
 {lp:Nat→St G→M (Ex×St G)}{kl:Nat→List Nat}{n:Nat}{c:Code}(hl:∀(k:Nat) c',(BJ c)[k]?=A c'→LoopOK P G nt (lp (n+k)) c')
def rN(cf:CK G)(nt:Nat)(drawn:Array Oper→St G→M (St G))(lp:Nat→St G→M (Ex×St G))(kl:Nat→List Nat)(n:Nat)(c:Code)(l:List (O×(Nat→Option SL))):List (O×(St G→M (Ex×St G))):=l.map λs=>(s.1,Cz cf nt drawn lp kl s.2 n c)
include cfok dok hl in
theorem Aq7:∀(l:List (O×(Nat→Option SL))) (st:St G),Law (lpN (rN cf nt drawn lp kl n c l) st)
 |[],_=>Ao
 |s::t,st=>by
  simp only[rN,c2_,lpN];split
  ·exact Ao
  ·refine Ad (EX cfok dok c n _ hl) λp=>?_;cases p.1 with
   |normal=>exact Aq7 t p.2
   |exit i=>exact Ah _
   |ret=>exact Ah _
include ok eqok cfok dok hl in
theorem Aey{cx:Cx}(hnt:cx.nt=nt)(hnu:∀n y,cx.nu0 n=A y→lo≤n){ex:Ex}{st':St G}{Q:Exit→Act→World→Prop}(hQ:∀e a' w',ExR ex e→Rel G cx st' a' w'→Q e a' w') :
  ∀(l:List (O×(Nat→Option SL))) (st:St G) (a:Act) (w:World),lpN (rN cf nt drawn lp kl n c l) st _ A=A (ex,st')→Rel G cx st a w→Code.rounds P c Q l.length a w
 |[],_,_,_,h,_=>by simp[rN,lpN,M.fail]at h
 |s::t,st,a,w,h,r=>by
  rw[x_,rounds_succ];simp only[rN,c2_,lpN]at h;cases hx:s.1.take st with
  |none=>rw[hx]at h;cases h
  |some x=>
   rw[hx]at h;have hr:=Spec.take_rel hx r hnu;have hb:(Cz cf nt drawn lp kl s.2 n c (s.1.mk' x) _ A).bind (λp=>(match p.1 with
    | .normal=>lpN (rN cf nt drawn lp kl n c t) p.2
    |e=>M.ret (e,p.2):M (Ex×St G)) _ A)=A (ex,st'):=by
    rw[← h];exact(EX cfok dok (kl:=kl) (jn:=s.2) c n _ hl _ _).symm
   obtain⟨⟨e,st1⟩,hv,hb⟩:=Option.bind_eq_some_iff.1 hb;refine GK ok eqok cfok dok hnt hnu c n _ st1 e a w _ hl hv hr λe' a' w' he r'=>?_;cases e with
   |normal=>rw[KI he];exact Aey hnt hnu hQ t st1 a' w' hb r'
   |exit i=>simp only[M.ret,e1_,g6_]at hb;obtain⟨rfl,rfl⟩:=hb;have h9:=hQ _ _ _ he r';rw[WI he]at h9⊢;exact h9
   |ret=>simp only[M.ret,e1_,g6_]at hb;obtain⟨rfl,rfl⟩:=hb;have h9:=hQ _ _ _ he r';rw[SU he]at h9⊢;exact h9
end
section
variable{P:Program}(cx:Ctx P G){l:List (Nat×Fe G)}(hl:∀p∈l,GO P G p.1 p.2)
include cx hl in
theorem lkn{nt:Nat}{c:Code}(lp:Nat→St G→M (Ex×St G))(n:Nat)(ss:List (Spec×(Nat→Option SL))){f:St G→M (Ex×St G)}(hf:f=lpN (rN (cfQ l) nt (TC (cfQ l) nt) lp (λ_=>[]) n c ss):=by rfl)
  (hin:IH (λk c=>LoopOK P G nt (lp k) c) n (BJ c):=by exact an0 κ):LoopOK P G nt f c:=by
 subst hf;have dok:=UB cx.ok cx.eqok (PL cx.ok hl) (Zv l) cx.hm (nt:=nt);exact⟨λst=>Aq7 (PL cx.ok hl) dok hin ss st,λst _ _ h _ a w _ hnt hnu r hQ=>wp_loop_rounds ss.length (Aey cx.ok cx.eqok (PL cx.ok hl) dok hin hnt hnu hQ ss st a w h r)⟩
end
variable{G:J}
def dOf:Nat→Code→Code
 |0,.seq y _=>y
 |k+1,.seq _ y=>dOf k y
 |_,_=>.skip
def noD:Nat→Code→Code
 |0,.seq _ y=>y
 |k+1,.seq x y=>.seq x (noD k y)
 |_,c=>c
def Aux:Nat→Code→Bool
 |0,.seq _ _=>D
 |k+1,.seq (.region _ _ _) y=>Aux k y
 |_,_=>L
section
variable{P:Program}(ok:SigOK P G)(eqok:EqOK P G){cf:CK G}(cfok:CfOK P G cf){nt:Nat}{drawn:Array Oper→St G→M (St G)}(dok:DrawOK P G nt drawn)
 {lp:Nat→St G→M (Ex×St G)}{kl:Nat→List Nat}{jn:Nat→Option (List (Ex×O))}
include cfok dok in
theorem Auy{id:Nat}{ops:Array Oper}{b:Bool}{n:Nat}{st st':St G}{ex:Ex}(h:Cz cf nt drawn lp kl jn n (.region id ops b) st _ A=A (ex,st')):ex=.normal:=by
 cases b with
 |false=>unfold Cz at h;obtain⟨stp,h,_⟩:=UP h;have hlr:Law (TW cf nt ops ops.toList stp):=SK (cx:=⟨default,λ_=>False,λ_=>False,λ_=>N,nt,[]⟩) cfok ops ops.toList stp;obtain⟨st0,h0,_⟩:=Mu (Ad hlr λ_=>Ah _) h;obtain⟨st1,_,h2⟩:=hlr.spec (M.bind_spec h0);simp[M.ret]at h2;exact h2.1.symm
 |true=>unfold Cz at h;obtain⟨stp,h,_⟩:=UP h;obtain⟨st0,h0,_⟩:=Mu (Ad (dok.law ops stp) λ_=>Ah _) h;obtain⟨st1,_,h2⟩:=(dok.law ops stp).spec (M.bind_spec h0);simp[M.ret]at h2;exact h2.1.symm
include ok eqok cfok dok in
theorem Aiv{d:Value→Deferred}{dr:Code}(hdr:∀(a:Act) (w:World) (Q:Exit→Act→World→Prop),(∀v,Q .normal { a with defers:=d v::a.defers } w)→dr.wp P Q a w){cx:Cx}(hnt:cx.nt=nt)(hnu:∀n y,cx.nu0 n=A y→lo≤n) :
  ∀(k:Nat) (c:Code),Aux k c=D→dOf k c=dr→∀(n:Nat) (st st':St G) (ex:Ex) (a:Act) (w:World) (Q:Exit→Act→World→Prop),
  (∀(j:Nat) c',(BJ (noD k c))[j]?=A c'→LoopOK P G nt (lp (n+j)) c')→Cz cf nt drawn lp kl jn n (noD k c) st (Ex×St G) A=A (ex,st')→Rel G cx st a w→
  (∀v e a' w',ExR ex e→Rel G { cx with df:=d v::cx.df } st' a' w'→Q e a' w')→c.wp P Q a w
 |0,.seq x y,_,hy,n,st,st',ex,a,w,Q,hl,h,r,hQ=>by
  have hy:x=dr:=hy;subst hy;refine wp_seq (hdr a w _ λv=>?_);have hr:Rel G { cx with df:=d v::cx.df } st { a with defers:=d v::a.defers } w:=by obtain⟨ν,S,r⟩:=r;exact⟨ν,S,⟨r.slot,r.heap,r.used,by show d v::a.defers=d v::cx.df;rw[r.defers],r.nt,r.size,r.frame,r.env,r.sub,r.keep,r.names⟩⟩
  exact GK ok eqok cfok dok (cx:={ cx with df:=d v::cx.df }) hnt hnu y n st st' ex _ w Q hl h hr (hQ v)
 |k+1,.seq (.region id ops b) y,hk,hy,n,st,st',ex,a,w,Q,hl,h,r,hQ=>by
  have h:Cz cf nt drawn lp kl jn n (.seq (.region id ops b) (noD k y)) st (Ex×St G) A=A (ex,st'):=h;unfold Cz at h;have hlx:∀(j:Nat) c',(BJ (.region id ops b))[j]?=A c'→LoopOK P G nt (lp (n+j)) c':=λj c' hj=>by simp[BJ]at hj
  obtain⟨⟨e1,st1⟩,h1,h2⟩:=(Oy (EX cfok dok (.region id ops b) n st hlx)).spec (M.bind_spec h);obtain⟨st0,h0,hcut⟩:=Mu (EX cfok dok (.region id ops b) n st hlx) h1;have hn:e1=.normal:=Auy cfok dok h0;subst hn;refine wp_seq (GK ok eqok cfok dok hnt hnu (.region id ops b) n st st0 .normal a w _ hlx h0 r λe a' w' he r''=>?_);rw[KI he];exact Aiv hdr hnt hnu k y hk hy n st1 st' ex a' w' Q hl h2 (hcut hnu r'') hQ
include ok eqok cfok in
theorem Ami {g gd k : Nat} {fn : Func} {fd : Fn} {body : Code} (hfn : P.funcs[g]? = A fn) (hname : (fn.name == "runtime.NumGoroutine") = L) (hbody : fn.body = A body) {e : Fe G} (hrs : fn.results.toList = e.rs) (hlen : e.I.tm.length ≤ fn.ntmps)
  (dok:DrawOK P G fn.ntmps drawn) (hl:∀(j:Nat) c',(BJ (noD k body))[j]?=A c'→LoopOK P G fn.ntmps (lp j) c') (hk:Aux k body=D)
  (hdr:∀(a:Act) (w:World) (Q:Exit→Act→World→Prop),(∀v,Q .normal { a with defers:={ target:=.fn fd #[],args:=#[v] }::a.defers } w)→(dOf k body).wp P Q a w)
  (hinv:∀v w,(invoke (.fn fd #[]) #[v]).run P w=.ok (.enter gd #[v]) w) (hcd:∀v w,CallsD P gd #[v] .returning w λe u w'=>e=.returned (.tuple #[])∧u=.returning∧w'=w)
  (hF:∀x y,e.F x=A y→Cz cf fn.ntmps drawn lp kl jn 0 (noD k body) (e.I.mk' x) _ (λp=>Ij e.E p.1 p.2)=A y):GO P G g e:=by
 have hl0:∀(j:Nat) c',(BJ (noD k body))[j]?=A c'→LoopOK P G fn.ntmps (lp (0+j)) c':=λj c' hk=>by rw[n_];exact hl j c' hk
 refine Amh ok hfn hname (by rw[hbody];rfl) hrs hlen (λst=>EX cfok dok (kl:=kl) (jn:=jn) (noD k body) 0 st hl0) hF λcx st st' ex args w R hnt hdf hnu hex h0 hrel hR=>?_;refine calls_of_wp_defers hfn hbody (Aiv ok eqok cfok dok hdr hnt hnu k body hk rfl 0 _ st' ex _ w _ hl0 h0 hrel λv e' a' w' he r'=>?_);have hpost:Leaves P fn a'.tmps R a'.defers .returning w':=by
  have hd:a'.defers=[{ target:=.fn fd #[],args:=#[v] }]:=by obtain⟨_,_,r⟩:=r';have h9:a'.defers={ target:=.fn fd #[],args:=#[v] }::cx.df:=r.defers;rw[h9,hdf]
  rw[hd];refine⟨σ,fd,#[],gd,#[v],rfl,hinv v w',(hcd v w').mono λe u w2 h=>?_⟩;obtain⟨rfl,rfl,rfl⟩:=h;exact hR _ a' w2 r'
 cases ex with
 |normal=>rw[KI he];exact hpost
 |ret=>rw[SU he];exact hpost
 |exit i=>exact absurd rfl (hex i)
end
section
variable{P:Program}{G:J}(cx:Ctx P G){l:List (Nat×Fe G)}(hl:∀p∈l,GO P G p.1 p.2)(jn:Nat→Option SL)(lp:Nat→St G→M (Ex×St G))
include cx hl in
theorem fkd{g gd:Nat}{fn:Func}{fd:Fn}{e:Fe G}(k:Nat)(hfn:P.funcs[g]?=some fn)
  (hdr:∀(a:Act) (w:World) (Q:Exit→Act→World→Prop),(∀v,Q .normal { a with defers:={ target:=.fn fd #[],args:=#[v] }::a.defers } w)→(dOf k (Cg fn)).wp P Q a w)
  (hinv:∀v w,(invoke (.fn fd #[]) #[v]).run P w=.ok (.enter gd #[v]) w) (hcd:∀v w,CallsD P gd #[v] .returning w λe u w'=>e=.returned (.tuple #[])∧u=.returning∧w'=w)
  (hlp:IH (λk c=>LoopOK P G fn.ntmps (lp k) c) 0 (BJ (noD k (Cg fn)))) (hk:Aux k (Cg fn)=true:=by kernel_rfl)
  (hc : (!(fn.name == "runtime.NumGoroutine") && Nat.ble e.I.tm.length fn.ntmps) = true := by kernel_rfl) (hbody : fn.body = some (Cg fn) := by kernel_rfl) (hrs : fn.results.toList = e.rs := by rfl)
  (hF:∀x,Vk (cfQ l) lp jn fn.ntmps (noD k (Cg fn)) e.I e.E x=e.F x:=by intro x;kernel_rfl):GO P G g e:=by
 rw[e_,a9_]at hc;exact Ami cx.ok cx.eqok (PL cx.ok hl) hfn hc.1 hbody hrs (F_ hc.2) (UB cx.ok cx.eqok (PL cx.ok hl) (Zv l) cx.hm) (Acw hlp) hk hdr hinv hcd
  (kl:=λ_=>[]) λx y h=>(hF x).trans h
end
end Go.Ab
