/- The arguments of a law, as the statement reads them, as values of plain types. -/
import Derived.Test.YtbliagnmhfobmaaGreatAbF
import Derived.ProofKit
import Derived.OpenShut
import Derived.Deep.Slices
import Derived.Test.YtbliagnmhfobmaaGreatAbE
import Derived.KernelRfl
namespace Go.Ab
variable {G:Sig}
def shF (G:Sig) (r:Nat→Option (List CSh)):List (Nat×Nat)→Nat→Option (List CSh)
 | [],_=>some []
 | p :: t,off=>bif Nat.beq p.1 off then match r p.2,shF G r t (off + G.sz p.2) with
  | some a,some b=>bif Nat.beq a.length (G.sz p.2) then some (a++b) else none
  | _,_=>none
  else none
def repL {α:Type} (a:List α):Nat→List α
 | 0=>[]
 | n + 1=>a++repL a n
def shl (G:Sig):Nat→Nat→Option (List CSh)
 | 0,_=>none
 | d + 1,t=>match G.ty t with
  | .bool=>some [.bool]
  | .int k=>some [.int k]
  | .flt k=>some [.flt k]
  | .str=>some [.str]
  | .sl e=>some [.ro e]
  | .st fs=>match shF G (shl G d) fs 0 with
   | some a=>bif Nat.beq a.length (G.sz t) then some a else none
   | none=>none
  | .arr n e=>match shl G d e with
   | some a=>bif Nat.beq a.length (G.sz e)&&Nat.beq (n * G.sz e) (G.sz t) then some (repL a n) else none
   | none=>none
  | _=>none
inductive WfC (G:Sig):Cv G.T→Prop
 | bool (b:Bool):WfC G (.sc (.bool b))
 | int (k:IntKind) (n:Int) (h:(Lit.int k n).wf=true):WfC G (.sc (.int k n))
 | flt (k:FloatKind) (n:Nat):WfC G (.sc (.float k n))
 | str (s:ByteArray) (h:s.size≤maxLen):WfC G (.sc (.string s))
 | ro (t:Nat) (l:List (G.T t)) (h:l.length≤maxLen) (he:∀ (i:Nat) (x:G.T t) (j:Nat) (c:Cv G.T),l[i]?=some x→(G.enc t x)[j]?=some c→WfC G c):WfC G (.ro t l)
def DecOK (G:Sig):Prop:=∀ t e,G.ty t=.sl e→∃ s,shl G 20 e=some s∧∀ x:TL G s,∃ y,G.dec e (giveL s x)=some y
theorem nt0':∀ (a b:List CSh) (x:TL G a) (y:TL G b),∃ z:TL G (a++b),giveL (a++b) z=giveL a x++giveL b y
 | [],b,_,y=>⟨y,rfl⟩
 | c :: a,b,x,y=>by
  obtain ⟨z,hz⟩:=nt0' a b x.2 y;exact ⟨(x.1,z),by simp only [giveL,List.cons_append]; rw [← hz]⟩
theorem n0x':∀ (a:List CSh) (x:TL G a),(giveL a x).length=a.length
 | [],_=>rfl
 | c :: a,x=>by simp [giveL,n0x' a]
section
variable {H:Type} {enc:TypeId×Value→H} {P:Program} (ok:SigOK P G) (dk:DecOK G) {w:World} {sp:Nat→Bool} {hd:Bool}
include ok in
theorem nqf' {t:Nat} (h:G.ty t ≠ .no):P.cellsOf t=G.sz t:=by
 obtain ⟨i,z,h1,h2,_⟩:=ok.info t h;unfold Program.cellsOf;rw [h1]; exact h2
def Opened (G:Sig) (w:World) (s:List CSh) (cs:List Value):Prop:=
 ∃ x:TL G s,F2 (Rd G (fun b=>b < w.heap.size) w.heap) (giveL s x) cs∧∀ c ∈ giveL s x,WfC G c
theorem Opened.append {a b:List CSh} {cs ds:List Value} (h:Opened G w a cs) (g:Opened G w b ds):Opened G w (a++b) (cs++ds):=by
 obtain ⟨x,h1,h2⟩:=h;obtain ⟨y,g1,g2⟩:=g;obtain ⟨z,hz⟩:=nt0' a b x y;refine ⟨z,by rw [hz]; exact h1.append g1,fun c hc=>?_⟩
 rw [hz] at hc;rcases List.mem_append.1 hc with hc | hc
 ·exact h2 c hc
 ·exact g2 c hc
theorem Opened.len {a:List CSh} {cs:List Value} (h:Opened G w a cs):cs.length=a.length:=by
 obtain ⟨x,h1,_⟩:=h;rw [← h1.1,n0x']
theorem nwh' {r:Nat→Option (List CSh)} {cs:List Value}:∀ (fs:List (Nat×Nat)) (off:Nat) (sh:List CSh),shF G r fs off=some sh →
  (∀ p ∈ fs,∀ s,r p.2=some s→Opened G w s ((cs.drop p.1).take (G.sz p.2)))→Opened G w sh ((cs.drop off).take sh.length)
 | [],off,sh,h,_=>by
  simp [shF] at h; subst h;exact ⟨(),by simp [giveL]; exact .nil,fun c hc=>by simp [giveL] at hc⟩
 | p :: t,off,sh,h,hp=>by
  simp only [shF,nbn'] at h;by_cases e:p.1=off
  ·rw [if_pos e] at h
   split at h
   ·rename_i a b ha hb
    by_cases hl:a.length=G.sz p.2
    ·rw [if_pos hl] at h; simp at h; subst h
     have h1:=hp p (by simp) a ha
     have h2:=nwh' t (off + G.sz p.2) b hb fun q hq s hs=>hp q (by simp [hq]) s hs
     rw [e] at h1
     have:=h1.append h2
     rw [List.length_append,hl]
     have ht:(cs.drop off).take (G.sz p.2 + b.length)=(cs.drop off).take (G.sz p.2)++(cs.drop (off + G.sz p.2)).take b.length:=by
      rw [List.take_add,List.drop_drop]
     rw [ht]; exact this
    ·rw [if_neg hl] at h; simp at h
   ·simp at h
  ·rw [if_neg e] at h; simp at h
theorem nyu' {a:List CSh} {cs:List Value} {sz:Nat} (hl:a.length=sz):∀ (n:Nat) (i:Nat),(∀ j,i≤j→j < i + n→Opened G w a ((cs.drop (j * sz)).take sz))→Opened G w (repL a n) ((cs.drop (i * sz)).take (n * sz))
 | 0,i,_=>⟨(),by simp [giveL,repL]; exact .nil,fun c hc=>by simp [giveL,repL] at hc⟩
 | n + 1,i,h=>by
  have h1:=h i (Nat.le_refl _) (by omega)
  have h2:=nyu' hl n (i + 1) fun j h3 h4=>h j (by omega) (by omega)
  have:=h1.append h2
  have ht:(cs.drop (i * sz)).take ((n + 1) * sz)=(cs.drop (i * sz)).take sz++(cs.drop ((i + 1) * sz)).take (n * sz):=by
   rw [Nat.add_mul,Nat.one_mul,Nat.add_comm (n * sz),List.take_add,List.drop_drop,Nat.add_mul,Nat.one_mul]
  rw [ht]; exact this
theorem nbck' {α:Type} {Q:Nat→α→Prop}:∀ (n:Nat),(∀ i,i < n→∃ y,Q i y)→∃ l:List α,l.length=n∧∀ i y,l[i]?=some y→Q i y
 | 0,_=>⟨[],rfl,fun i y h=>by simp at h⟩
 | n + 1,h=>by
  obtain ⟨l,h1,h2⟩:=nbck' n fun i hi=>h i (by omega)
  obtain ⟨y,hy⟩:=h n (by omega)
  refine ⟨l++[y],by simp [h1],fun i z hz=>?_⟩
  rw [List.getElem?_append] at hz;by_cases hi:i < l.length
  ·rw [if_pos hi] at hz; exact h2 i z hz
  ·rw [if_neg hi] at hz
   have:i - l.length=0:=by
    have:=(List.getElem?_eq_some_iff.1 hz).1; simp at this; omega
   rw [this] at hz;simp at hz; subst hz
   have:i=n:=by omega
   rw [this]; exact hy
theorem nbd6' {H:Type} {enc:TypeId×Value→H} {P:Program} {w:World} {base:Nat} {spare:Nat→Bool} {held:Bool} {fuel:Nat} {t:TypeId} {cs:List Value} {x:DataW H×List MemPlace} {k:FloatKind} (ht:P.underlying t=some (.float k)) (h:DataW.trod enc P w base spare held fuel t cs=some x):∃ n,cs=[.float k n]:=by
 cases fuel with
 | zero=>simp [DataW.trod] at h
 | succ n=>
  unfold DataW.trod at h;rw [ht] at h;split at h <;> simp_all
include ok dk in
theorem nbcq':∀ (fuel d t:Nat) (cs:List Value) (x:DataW H×List MemPlace) (s:List CSh),shl G d t=some s→DataW.trod enc P w 0 sp hd fuel t cs=some x→Opened G w s cs:=by
 intro fuel
 induction fuel with
 | zero=>intro d t cs x s _ h; simp [DataW.trod] at h
 | succ fuel ih=>
  intro d t cs x s h ht;cases d with
  | zero=>simp [shl] at h
  | succ d=>
  simp only [shl] at h;cases hty:G.ty t with
  | bool=>
   rw [hty] at h; simp at h; subst h;obtain ⟨b,rfl,_⟩:=DataW.trod_bool (ok.bool t hty) ht;exact ⟨(b,()),F2.cons (.sc _ rfl) .nil,fun c hc=>by simp [giveL,CSh.give] at hc; subst hc; exact .bool b⟩
  | int k=>
   rw [hty] at h; simp at h; subst h;obtain ⟨n,rfl,_,hw⟩:=DataW.trod_int (ok.int t k hty) ht;exact ⟨(n,()),F2.cons (.sc _ rfl) .nil,fun c hc=>by simp [giveL,CSh.give] at hc; subst hc; exact .int k n hw⟩
  | flt k=>
   rw [hty] at h; simp at h; subst h;obtain ⟨n,rfl⟩:=nbd6' (ok.flt t k hty) ht;exact ⟨(n,()),F2.cons (.sc _ rfl) .nil,fun c hc=>by simp [giveL,CSh.give] at hc; subst hc; exact .flt k n⟩
  | str=>
   rw [hty] at h; simp at h; subst h;obtain ⟨b,rfl,_,hw⟩:=DataW.trod_string (ok.str t hty) ht;exact ⟨(b,()),F2.cons (.sc _ rfl) .nil,fun c hc=>by simp [giveL,CSh.give] at hc; subst hc; exact .str b hw⟩
  | st fs=>
   rw [hty] at h;obtain ⟨fields,hund,hmap,hno⟩:=ok.strc t fs hty;obtain ⟨xs,n,hn,_,hlen,hxs,hf⟩:=DataW.trod_struct hund ht;have hn:fuel=n:=by omega
   subst hn;rw [nqf' ok (t:=t) (by rw [hty]; simp)] at hlen
   simp only at h;split at h
   ·rename_i a ha
    simp only [nbn'] at h;by_cases hl:a.length=G.sz t
    ·rw [if_pos hl] at h; simp at h; subst h
     have:=nwh' (w:=w) (cs:=cs) fs 0 a ha fun p hp q hq=>?_
     ·rw [List.drop_zero,List.take_of_length_le (by omega)] at this
      exact this
     ·have hp':p ∈ fields.toList.map (fun f=>(f.offset,f.type)):=by rw [hmap]; exact hp
      obtain ⟨f,hfm,rfl⟩:=List.mem_map.1 hp';obtain ⟨i,hi⟩:=List.getElem?_of_mem hfm;have hi':fields[i]?=some f:=by simpa using hi
      have h1:=hf i f hi';have hlt:i < xs.length:=by rw [hxs]; exact (Array.getElem?_eq_some_iff.1 hi').1
      rw [List.getElem?_eq_getElem hlt,nqf' ok (hno f.offset f.type hp)] at h1;exact ih d f.type _ _ q hq h1
    ·rw [if_neg hl] at h; simp at h
   ·simp at h
  | arr n e=>
   rw [hty] at h;obtain ⟨hund,hno⟩:=ok.arr t n e hty;obtain ⟨xs,m,hm,_,hlen,hxs,hf⟩:=DataW.trod_array hund ht;have hm:fuel=m:=by omega
   subst hm;rw [nqf' ok (t:=t) (by rw [hty]; simp)] at hlen
   simp only at h;split at h
   ·rename_i a ha
    cases hl:(Nat.beq a.length (G.sz e)&&Nat.beq (n * G.sz e) (G.sz t)) with
    | false=>rw [hl] at h; simp at h
    | true=>
     rw [hl] at h; simp at h; subst h;simp only [Bool.and_eq_true] at hl;have hl1:=nw'.1 hl.1;have hl2:=nw'.1 hl.2
     have:=nyu' (G:=G) (w:=w) (cs:=cs) hl1 n 0 fun j _ hj=>?_
     ·rw [Nat.zero_mul,List.drop_zero,List.take_of_length_le (by omega)] at this
      exact this
     ·have h1:=hf j (by omega)
      rw [List.getElem?_eq_getElem (by omega),nqf' ok hno] at h1
      exact ih d e _ _ a ha h1
   ·simp at h
  | sl e=>
   rw [hty] at h; simp at h; subst h;obtain ⟨hund,hno,_,hencl⟩:=ok.sl t e hty;obtain ⟨se,hse,hdec⟩:=dk t e hty;have hsz:=nqf' ok hno;rcases DataW.trod_slice hund ht with ⟨rfl,_⟩ | ⟨a,len,cap,elems,rest,n,hn,rfl,_,_,hl,hm,hel,hget,_⟩
   ·exact ⟨([],()),F2.cons (.nil _ _ _) .nil,fun c hc=>by simp [giveL,CSh.give] at hc; subst hc; exact .ro e [] (Nat.zero_le _) fun i x j c h=>by simp at h⟩
   ·have hn:fuel=n:=by omega
    subst hn;rw [hsz] at hget
    obtain ⟨l,hll,hlq⟩:=nbck' (Q:=fun i (y:G.T e)=>(∀ j,j < G.sz e→∃ v,w.cell? ((a.add (i * G.sz e)).add j)=some v∧∀ cv,(G.enc e y)[j]?=some cv→Rd G (fun b=>b < w.heap.size) w.heap cv v)∧∀ c ∈ G.enc e y,WfC G c) len fun i hi=>by
     have h1:=hget i hi;rw [List.getElem?_eq_getElem (by omega)] at h1
     cases hc:w.cells? 0 (a.add (i * G.sz e)) (G.sz e) with
     | none=>rw [hc] at h1; simp at h1
     | some ci=>
      rw [hc] at h1;obtain ⟨xe,r1,r2⟩:=ih 20 e ci _ se hse h1;obtain ⟨y,hy⟩:=hdec xe;have hye:=ok.encdec e _ _ hy;obtain ⟨_,hcl,hat⟩:=World.cells?_some hc;refine ⟨y,fun j hj=>?_,fun c hcm=>r2 c (by rw [← hye]; exact hcm)⟩
      refine ⟨ci[j]'(by omega),by rw [hat j hj]; exact List.getElem?_eq_getElem (by omega),fun cv hcv=>?_⟩
      rw [hye] at hcv;exact r1.2 j cv _ hcv (List.getElem?_eq_getElem (by omega))
    refine ⟨(l,()),F2.cons ?_ .nil,fun c hc=>?_⟩
    ·show Rd G _ w.heap (.ro e l) _
     by_cases h0:len=0
     ·have:l=[]:=List.eq_nil_of_length_eq_zero (by omega)
      rw [this,h0];exact .nil _ _ _
     ·have hpos:=ok.pos e hno
      obtain ⟨y0,hy0⟩:∃ y0,l[0]?=some y0:=⟨l[0]'(by omega),List.getElem?_eq_getElem (by omega)⟩
      obtain ⟨v0,hv0,_⟩:=(hlq 0 y0 hy0).1 0 hpos;obtain ⟨b,off,spot⟩:=a;have ha0:((⟨b,off,spot⟩:Addr).add (0 * G.sz e)).add 0=⟨b,off,spot⟩:=by rw [Nat.zero_mul]; rfl
      rw [ha0] at hv0;unfold World.cell? at hv0;simp only at hv0;split at hv0
      ·rename_i c te fz hb
       cases hsp:spot with
       | some z=>rw [hsp] at hv0; simp at hv0
       | none=>
        subst hsp;have hlt:b < w.heap.size:=(Array.getElem?_eq_some_iff.1 hb).1;rw [← hll]
        have hcell:∀ i j,i < l.length→j < G.sz e→∃ v,c[off + i * G.sz e + j]?=some v∧∀ y cv,l[i]?=some y→(G.enc e y)[j]?=some cv→Rd G (fun b=>b < w.heap.size) w.heap cv v:=by
         intro i j hi hj;obtain ⟨v,hv,hq⟩:=(hlq i _ (List.getElem?_eq_getElem hi)).1 j hj;refine ⟨v,?_,fun y cv hy hcv=>hq cv ?_⟩
         ·rw [nfj',nfj'] at hv
          unfold World.cell? at hv;simp only [hb] at hv;simpa using hv
         ·rw [List.getElem?_eq_getElem hi] at hy
          simp at hy; rw [hy]; exact hcv
        refine .ro e l b off cap c te fz (fun i j=>c.getD (off + i * G.sz e + j) undef) hlt hb (by omega) (fun i j hi hj=>?_) (fun i j y cv hy hcv=>?_)
        ·obtain ⟨v,hv,_⟩:=hcell i j hi hj
         rw [hv]; simp [Array.getD_eq_getD_getElem?,hv]
        ·have hi:i < l.length:=(List.getElem?_eq_some_iff.1 hy).1
         have hj:j < G.sz e:=by rw [← hencl y]; exact (List.getElem?_eq_some_iff.1 hcv).1
         obtain ⟨v,hv,hq⟩:=hcell i j hi hj
         have:c.getD (off + i * G.sz e + j) undef=v:=by simp [Array.getD_eq_getD_getElem?,hv]
         rw [this];exact hq y cv hy hcv
      ·simp at hv0
    ·simp [giveL,CSh.give] at hc; subst hc
     exact .ro e l (by omega) fun i y j c hy hc=>(hlq i y hy).2 c (List.mem_of_getElem? hc)
  | _=>rw [hty] at h; simp at h
end
end Go.Ab
namespace Go.Ab
variable {G:Sig}
def ArgT (G:Sig):List PSh→Type
 | []=>Unit
 | s :: t=>s.T G×ArgT G t
def giveA:(s:List PSh)→ArgT G s→List (Pv G.T)
 | [],_=>[]
 | s :: t,x=>s.give x.1 :: giveA t x.2
def ntz':CSh→Bool
 | .own _ _=>false
 | _=>true
def n4i':PSh→Bool
 | .one c=>ntz' c
 | .agg cs=>cs.all ntz'
def toTm:(n:Nat)→(s:List PSh)→ArgT G s→TmT G (zipN n s)
 | _,[],_=>()
 | n,_ :: t,x=>(x.1,toTm (n + 1) t x.2)
theorem n1e':∀ (n:Nat) (s:List PSh) (x:ArgT G s),nod' (zipN n s) (toTm n s x)=zipN n ((giveA s x).map Sv.p)
 | _,[],_=>rfl
 | n,p :: t,x=>by
  show (n,Sv.p (p.give x.1)) :: nod' (zipN (n + 1) t) (toTm (n + 1) t x.2)=(n,Sv.p (p.give x.1)) :: zipN (n + 1) ((giveA t x.2).map Sv.p);rw [n1e' (n + 1) t x.2]
theorem n6h':∀ (s:CSh) (x:s.T G),ntz' s=true→s.blk x=[]
 | .own _ _,_,h=>by simp [ntz'] at h
 | .int _,_,_=>rfl
 | .bool,_,_=>rfl
 | .str,_,_=>rfl
 | .flt _,_,_=>rfl
 | .ro _,_,_=>rfl
 | .rp _ _,_,_=>rfl
 | .ptr _ _,_,_=>rfl
 | .clo _ _ _,_,_=>rfl
 | .np _ _,_,_=>rfl
 | .nili,_,_=>rfl
 | .sa _ _ _,_,_=>rfl
theorem n6z':∀ (s:List CSh) (x:TL G s),s.all ntz'=true→blkL s x=[]
 | [],_,_=>rfl
 | c :: t,x,h=>by
  simp only [List.all_cons,Bool.and_eq_true] at h;simp only [blkL,n6h' c x.1 h.1,n6z' t x.2 h.2,List.append_nil]
theorem nbfl' (s:PSh) (x:s.T G) (h:n4i' s=true):s.blk x=[]:=by
 cases s with
 | one c=>exact n6h' c x h
 | agg cs=>exact n6z' cs x h
theorem n27':∀ (n:Nat) (s:List PSh) (x:ArgT G s),s.all n4i'=true→blkTm (zipN n s) (toTm n s x)=[]
 | _,[],_,_=>rfl
 | n,p :: t,x,h=>by
  simp only [List.all_cons,Bool.and_eq_true] at h;show p.blk x.1++blkTm (zipN (n + 1) t) (toTm (n + 1) t x.2)=[];rw [nbfl' p x.1 h.1,n27' (n + 1) t x.2 h.2]; rfl
def pshO (G:Sig) (t:Nat):Option PSh:=match shl G 20 t with
 | some s=>bif (G.ty t).isAgg then some (.agg s) else match s with | [c]=>some (.one c) | _=>none
 | none=>none
def pshs (G:Sig):List Nat→Option (List PSh)
 | []=>some []
 | t :: r=>match pshO G t,pshs G r with
  | some a,some b=>some (a :: b)
  | _,_=>none
def WfA (G:Sig) (s:List PSh) (x:ArgT G s):Prop:=∀ p ∈ giveA s x,∀ c ∈ p.cells,WfC G c
section
variable {H:Type} {enc:TypeId×Value→H} {P:Program} (ok:SigOK P G) (dk:DecOK G) {w:World} {sp:Nat→Bool} {hd:Bool}
theorem rd_rc {S:Nat→Prop} {h:Array Obj} {c:Cv G.T} {v:Value} (hw:WfC G c) (r:Rd G S h c v):Rc G (fun _=>none) S h c v:=by
 cases hw <;> exact r
include ok dk in
theorem nbdm' {t:Nat} {v:Value} {d:DataW H} {ps:List MemPlace} {s:PSh} {r:Reach} {base:Nat} (hs:pshO G t=some s) (ht:DataW.Trod enc P w 0 sp hd t v d ps) (hv:Value.okWide P w r base t v) :
  ∃ x:s.T G,Rp G (fun _=>none) (fun b=>b < w.heap.size) w.heap (s.give x) v∧∀ c ∈ (s.give x).cells,WfC G c:=by
 obtain ⟨fuel,ht⟩:=ht;unfold pshO at hs;split at hs
 ·rename_i sh hsh
  obtain ⟨x,h1,h2⟩:=nbcq' ok dk fuel 20 t _ _ sh hsh ht;cases ha:(G.ty t).isAgg with
  | true=>
   rw [ha] at hs; simp at hs; subst hs
   have hag:∃ cs,v=.agg cs:=by
    unfold Value.okWide at hv;cases hty:G.ty t with
    | st fs=>
     obtain ⟨fields,hund,_⟩:=ok.strc t fs hty;rw [hund] at hv;obtain ⟨cs,h,_⟩:=hv;exact ⟨cs,h⟩
    | arr n e=>
     obtain ⟨hund,_⟩:=ok.arr t n e hty;rw [hund] at hv;obtain ⟨cs,h,_⟩:=hv;exact ⟨cs,h⟩
    | _=>rw [hty] at ha; simp [Ty.isAgg] at ha
   obtain ⟨cs,rfl⟩:=hag;refine ⟨x,?_,h2⟩;have e1:(Value.agg cs)=.agg cs.toList.toArray:=by simp
   rw [e1];exact .agg _ _ ⟨h1.1,fun i c u hc hu=>rd_rc (h2 c (List.mem_of_getElem? hc)) (h1.2 i c u hc hu)⟩
  | false=>
   rw [ha] at hs;simp only [cond_false] at hs;split at hs
   ·rename_i c
    simp at hs; subst hs;have hl:v.cells.toList.length=1:=by rw [← h1.1]; rfl
    have hv1:v.cells=#[v]:=by
     cases v with
     | agg cs=>
      exfalso;unfold Value.okWide at hv;cases hty:G.ty t with
      | bool=>rw [ok.bool t hty] at hv; simp [Cell.okWide,Cell.ok,ok.bool t hty] at hv
      | int k=>rw [ok.int t k hty] at hv; simp [Cell.okWide,Cell.ok,ok.int t k hty] at hv
      | flt k=>rw [ok.flt t k hty] at hv; simp [Cell.okWide,Cell.ok,ok.flt t k hty] at hv
      | str=>rw [ok.str t hty] at hv; simp [Cell.okWide,Cell.ok,ok.str t hty] at hv
      | sl e=>rw [(ok.sl t e hty).1] at hv; simp [Cell.okWide,Cell.ok,(ok.sl t e hty).1] at hv
      | st _=>rw [hty] at ha; simp [Ty.isAgg] at ha
      | arr _ _=>rw [hty] at ha; simp [Ty.isAgg] at ha
      | _=>simp [shl,hty] at hsh
     | _=>rfl
    have hr:Rd G (fun b=>b < w.heap.size) w.heap (c.give x.1) v:=h1.2 0 _ v rfl (by rw [hv1]; rfl)
    have hw:=h2 (c.give x.1) (by simp [giveL])
    refine ⟨x.1,.one _ _ (rd_rc hw hr),fun c' hc'=>?_⟩
    have hc':c' ∈ [c.give x.1]:=hc';simp at hc'; subst hc'; exact hw
   ·simp at hs
 ·simp at hs
include ok dk in
theorem n4n' {r:Reach} {base:Nat}:∀ (ts:List Nat) (vs:List Value) (ds:List (DataW H)) (ps:List MemPlace) (s:List PSh),pshs G ts=some s→DataW.TrodAll enc P w 0 sp hd ts vs ds ps →
  (∀ (j:Nat) t v,ts[j]?=some t→vs[j]?=some v→Value.okWide P w r base t v)→∃ x:ArgT G s,F2 (Rp G (fun _=>none) (fun b=>b < w.heap.size) w.heap) (giveA s x) vs∧WfA G s x
 | [],[],[],_,s,hs,_,_=>by
  simp [pshs] at hs; subst hs;exact ⟨(),.nil,fun p hp=>by simp [giveA] at hp⟩
 | t :: ts,v :: vs,d :: ds,ps,s,hs,⟨p,q,h1,h2,_⟩,hv=>by
  simp only [pshs] at hs;split at hs
  ·rename_i a b ha hb
   simp at hs; subst hs;obtain ⟨x,g1,g2⟩:=nbdm' ok dk ha h1 (hv 0 t v rfl rfl);obtain ⟨y,g3,g4⟩:=n4n' ts vs ds q b hb h2 fun j t v ht hvv=>hv (j + 1) t v (by simpa using ht) (by simpa using hvv)
   refine ⟨(x,y),g3.cons g1,fun p hp=>?_⟩
   simp only [giveA,List.mem_cons] at hp;rcases hp with rfl | hp
   ·exact g2
   ·exact g4 p hp
  ·simp at hs
 | [],[],_ :: _,_,_,_,h,_=>h.elim
 | [],_ :: _,_,_,_,_,h,_=>by cases h
 | _ :: _,[],_,_,_,_,h,_=>by cases h
 | _ :: _,_ :: _,[],_,_,_,h,_=>by cases h
def argI (s:List PSh):Spec:=⟨zipN 0 s,[],[]⟩
theorem n97' {g:Nat} {sh:List PSh} {E:List (Ex×Spec)} {F:(argI sh).T G→Option (SumE G E)} {rs:List ResultVar} (hf:FnOK P G g ⟨argI sh,E,F,rs⟩) (hno:sh.all n4i'=true) {x:ArgT G sh} {y:SumE G E}
  (hF:F (toTm 0 sh x,())=some y) {b:Bool} {p:Ex×St G} (hp:caseE E y some=some p) (hy:outsP (argI sh) rs p=some (.p (.one (.sc (.bool b))),[])) {W:World} (hgl:GlOK G (fun b=>b < W.heap.size) W.heap) {vals:List Value}
  (hargs:F2 (Rp G (fun _=>none) (fun b=>b < W.heap.size) W.heap) (giveA sh x) vals) :
  Calls P g vals.toArray W fun e' W'=>e'=.returned (.bool b)∧RowKit.Below W.heap.size W W':=by
 have hlen:∀ (n:Nat) (s:List PSh) (x:ArgT G s),(giveA s x).length=(zipN n s).length:=by
  intro n s
  induction s generalizing n with
  | nil=>intro _; rfl
  | cons p t ih=>intro x; simp only [giveA,zipN,List.length_cons,ih (n + 1) x.2]
 have hp0:((argI sh).mk' (toTm 0 sh x,())).hp=([]:List (Nat×Blk G.T)):=by
  show blkTm (zipN 0 sh) (toTm 0 sh x)++([]++[])=[];rw [n27' 0 sh x hno]; rfl
 have htm:((argI sh).mk' (toTm 0 sh x,())).tm=zipN 0 ((giveA sh x).map (Sv.p (T:=G.T))):=n1e' 0 sh x;refine ((hf.2 (toTm 0 sh x,()) y p _ [] hF hp hy) (fun _=>none) (fun b=>b < W.heap.size) (fun _=>False) W vals ⟨fun n k hk=>?_,fun n m z z' b h1=>?_,fun n z b h1=>?_,fun _ h=>h,hgl⟩ (fun n hn=>absurd rfl hn) ?_ fun k v hk=>?_).mono ?_
 ·rw [hp0] at hk; cases hk
 ·rw [hp0] at h1; exact absurd rfl h1
 ·rw [hp0] at h1; exact absurd rfl h1
 ·rw [← hargs.1]; exact hlen 0 sh x
 ·rw [htm,ns1'] at hk
  simp at hk;obtain ⟨u,hu,rfl⟩:=hk;obtain ⟨v,hv,hrp⟩:=hargs.get hu
  have:vals.getD k undef=v:=by simp [List.getD_eq_getElem?_getD,hv]
  rw [this]; exact .p _ _ hrp
 ·rintro e' W' ⟨v,ν',S',he,hval,_,_,_,_,hsz,hfr,henv⟩
  refine ⟨?_,henv.1,henv.2.1,henv.2.2,hsz,fun b hb=>hfr b hb id⟩
  rw [he];cases hval with
  | p _ _ hrp=>
   cases hrp with
   | one _ _ hc=>
    have hc:Rd G S' W'.heap (.sc (.bool b)) v:=hc;cases hc; rfl
end
def DecE (G:Sig) (y:Ty):Prop:=∀ e,y=.sl e→∃ s,shl G 20 e=some s∧∀ x:TL G s,∃ y,G.dec e (giveL s x)=some y
theorem n6t' {G:Sig} {y:Ty} (h:(match y with | .sl _=>true | _=>false)=false):DecE G y:=fun e he=>by subst he; simp at h
theorem nbfu' {G:Sig} {e:Nat} {s:List CSh} (h:shl G 20 e=some s) (hd:∀ x:TL G s,∃ y,G.dec e (giveL s x)=some y):DecE G (.sl e):=fun e' he=>by
 cases he; exact ⟨s,h,hd⟩
theorem nbei' {tys:List (Nat×TyD)} {l:List (Ent1 (TOf tys))} {gl:Nat→Option ((t:Nat)×TOf tys t)} {ext:Nat→Nat} (h:∀ p ∈ l,DecE (mkSig tys l gl ext) p.e.ty):DecOK (mkSig tys l gl ext):=
 fun t=>nra' (T:=TOf tys) (Q:=fun _ e=>DecE (mkSig tys l gl ext) e.ty) (fun _=>n6t' rfl) h t
end Go.Ab
namespace Go.Ab
variable {G:Sig}
end Go.Ab
namespace Go.Ab
open Go
def zc (i:TypeInfo):List Value:=match i.zero with
 | some z=>z.cells.toList
 | none=>[]
def Sk.c:Sk→CSh
 | .i k=>.int k
 | .b=>.bool
 | .s=>.str
 | .f k=>.flt k
 | .l t=>.ro t
def Sk.nl:Sk→Bool
 | .l _=>false
 | _=>true
def Sk.u:Sk→Bool
 | .i .u8=>true
 | _=>false
section
variable {T:Nat→Type}
def pe (t:Nat) (i:TypeInfo) (y:Ty):Ent1 T:=plain T t y i.size (zc i)
def re (t:Nat) (i:TypeInfo) (y:Ty) (sk:List Sk) (to:T t→SkL T sk) (of:SkL T sk→T t):Ent1 T:=⟨t,⟨y,i.size,zc i,fun x=>encK sk (to x),fun cs=>match decK sk cs with
 | some x=>some (of x)
 | none=>none,sk.all Sk.nl⟩⟩
def SkF (T:Nat→Type) (Y:Type):List Sk→Type
 | []=>Y
 | a :: t=>a.T T→SkF T Y t
def apS {Y:Type}:(l:List Sk)→SkF T Y l→SkL T l→Y
 | [],f,_=>f
 | _ :: t,f,x=>apS t (f x.1) x.2
theorem Sk.enc_sc (a:Sk) (x:a.T T):nva' (a.enc x)=true∧(a.nl=true→isScC (a.enc x)=true)∧u8C (a.enc x)=a.u:=by
 cases a with
 | i k=>exact ⟨rfl,fun _=>rfl,by cases k <;> rfl⟩
 | l t=>exact ⟨rfl,(fun h=>by cases h),rfl⟩
 | _=>exact ⟨rfl,fun _=>rfl,rfl⟩
theorem n3o':∀ (l:List Sk) (x:SkL T l),(encK l x).length=l.length
 | [],_=>rfl
 | _ :: t,x=>congrArg (· + 1) (n3o' t x.2)
theorem n61':∀ (l:List Sk) (x:SkL T l),(encK l x).all nva'=true
 | [],_=>rfl
 | a :: t,x=>by simp only [encK,List.all_cons,(a.enc_sc x.1).1,n61' t x.2,Bool.and_self]
theorem n57':∀ (l:List Sk),l.all Sk.nl=true→∀ (x:SkL T l),(encK l x).all isScC=true
 | [],_,_=>rfl
 | a :: t,h,x=>by
  rw [List.all_cons,Bool.and_eq_true] at h;simp only [encK,List.all_cons,(a.enc_sc x.1).2.1 h.1,n57' t h.2 x.2,Bool.and_self]
theorem nz5':∀ (l:List Sk) (x:SkL T l),(encK l x).map u8C=l.map Sk.u
 | [],_=>rfl
 | a :: t,x=>by simp only [encK,List.map_cons,(a.enc_sc x.1).2.2,nz5' t x.2]
end
def eqPs:List (Nat×Nat)→List (Nat×Nat)→Bool
 | [],[]=>true
 | a :: s,b :: t=>Nat.beq a.1 b.1&&Nat.beq a.2 b.2&&eqPs s t
 | _,_=>false
theorem n6d':∀ {s t:List (Nat×Nat)},eqPs s t=true→s=t
 | [],[],_=>rfl
 | (a,b) :: s,(c,d) :: t,h=>by
  simp only [eqPs,Bool.and_eq_true] at h;rw [Nat.eq_of_beq_eq_true h.1.1,Nat.eq_of_beq_eq_true h.1.2,n6d' h.2]
section
variable {P:Program} {G:Sig}
def tyCk (P:Program) (G:Sig) (t:Nat):Ty→Bool
 | .no=>false
 | .bool=>match P.underlying t with
  | some .bool=>true
  | _=>false
 | .int k=>match P.underlying t with
  | some (.int k')=>eqIK k k'
  | _=>false
 | .flt k=>match P.underlying t with
  | some (.float k')=>eqFK k k'
  | _=>false
 | .str=>match P.underlying t with
  | some .string=>true
  | _=>false
 | .sl e=>(match P.underlying t with
  | some (.slice e')=>Nat.beq e e'
  | _=>false)&&(!isNo (G.ty e)&&(match P.info? e with
  | some i=>Nat.ble i.bytes 4096
  | none=>false))
 | .pt e=>match P.underlying t with
  | some (.pointer e')=>Nat.beq e e'
  | _=>false
 | .fn=>match P.underlying t with
  | some (.func _ _ _)=>true
  | _=>false
 | .st fs=>match P.underlying t with
  | some (.struct fields)=>eqPs (fields.toList.map fun f=>(f.offset,f.type)) fs&&fs.all fun p=>!isNo (G.ty p.2)
  | _=>false
 | .arr n e=>match P.underlying t with
  | some (.array n' e')=>Nat.beq n n'&&Nat.beq e e'&&!isNo (G.ty e)
  | _=>false
def slLen (G:Sig):Ty→Prop
 | .sl e=>∀ x,(G.enc e x).length=G.sz e
 | _=>True
theorem nbfn' {k k':IntKind} (h:eqIK k k'=true):k=k':=by cases k <;> cases k' <;> first | rfl | (simp [eqIK] at h)
theorem nbe6' {k k':FloatKind} (h:eqFK k k'=true):k=k':=by cases k <;> cases k' <;> first | rfl | (simp [eqFK] at h)
theorem nbfm' {t:Nat} {y:Ty} (h:tyCk P G t y=true) (hl:slLen G y):TyOK P G t y:=by
 unfold tyCk at h;cases y with
 | no=>trivial
 | bool | str=>
  simp only at h;split at h
  ·assumption
  ·cases h
 | int k=>
  simp only at h;split at h
  ·rename_i e; cases nbfn' h; exact e
  ·cases h
 | flt k=>
  simp only at h;split at h
  ·rename_i e; cases nbe6' h; exact e
  ·cases h
 | sl e=>
  simp only [Bool.and_eq_true,Bool.not_eq_true'] at h;obtain ⟨h1,h2,h3⟩:=h;split at h1
  ·rename_i e'
   split at h3
   ·rename_i i hi
    cases Nat.eq_of_beq_eq_true h1;exact ⟨e',h2,⟨i,hi,h3⟩,hl⟩
   ·cases h3
  ·cases h1
 | pt e=>
  simp only at h;split at h
  ·rename_i e'; cases Nat.eq_of_beq_eq_true h; exact e'
  ·cases h
 | fn=>
  simp only at h;split at h
  ·rename_i e; exact ⟨_,_,_,e⟩
  ·cases h
 | st fs=>
  simp only at h;split at h
  ·rename_i fields e
   rw [Bool.and_eq_true] at h;exact ⟨fields,e,n6d' h.1,h.2⟩
  ·cases h
 | arr n e=>
  simp only at h;split at h
  ·rename_i e'
   simp only [Bool.and_eq_true,Bool.not_eq_true'] at h;cases Nat.eq_of_beq_eq_true h.1.1; cases Nat.eq_of_beq_eq_true h.1.2;exact ⟨e',h.2⟩
  ·cases h
def infCk (i:TypeInfo):Bool:=Nat.ble 1 i.size&&((zc i).all isSc&&(Nat.beq (zc i).length i.size&&i.zero.isSome))
theorem n9k' {t:Nat} {i:TypeInfo} {y:Ty} {enc:G.T t→List (Cv G.T)} {dec:List (Cv G.T)→Option (G.T t)} {fl:Bool} (hi:P.info? t=some i) (hc:(tyCk P G t y&&infCk i)=true) (hl:slLen G y)
  (h1:∀ x,(enc x).length≤i.size) (h2:∀ cs x,dec cs=some x→enc x=cs) (h3:∀ x,(enc x).all nva'=true) (h4:fl=true→∀ x,(enc x).all isScC=true) (h5:∀ x y,(enc x).map u8C=(enc y).map u8C):EntOK P G t ⟨y,i.size,zc i,enc,dec,fl⟩:=by
 rw [Bool.and_eq_true] at hc;obtain ⟨ht,hc⟩:=hc;simp only [infCk,Bool.and_eq_true] at hc;obtain ⟨z,hz⟩:=Option.isSome_iff_exists.1 hc.2.2.2;refine ⟨nbfm' ht hl,fun _=>⟨i,z,hi,rfl,hz,by simp only [zc,hz]⟩,fun _=>hc.1,fun h=>?_,hc.2.1,Nat.eq_of_beq_eq_true hc.2.2.1,h1,h2,h3,h4,h5⟩
 have h:y=.no:=h;subst h; cases ht
theorem pk {t:Nat} {i:TypeInfo} {y:Ty} (hi:P.info? t=some i:=by kernel_rfl) (hc:(tyCk P G t y&&infCk i)=true:=by kernel_rfl) (hl:slLen G y:=by trivial):EntOK P G t (pe (T:=G.T) t i y).e:=
 n9k' hi hc hl (fun _=>Nat.zero_le _) (fun _ _ h=>by cases h) (fun _=>rfl) (fun _ _=>rfl) (fun _ _=>rfl)
theorem ps {t e:Nat} {i:TypeInfo} (hi:P.info? t=some i:=by kernel_rfl) (hc:(tyCk P G t (.sl e)&&infCk i)=true:=by kernel_rfl) (hl:∀ x,(G.enc e x).length=G.sz e:=by intro x; kernel_rfl):EntOK P G t (pe (T:=G.T) t i (.sl e)).e:=pk hi hc hl
theorem rk0 {t:Nat} {i:TypeInfo} {y:Ty} {sk:List Sk} {to:G.T t→SkL G.T sk} {of:SkL G.T sk→G.T t} (hl:slLen G y) (hi:P.info? t=some i) (hc:(tyCk P G t y&&infCk i)=true) (hs:Nat.beq sk.length i.size=true) (hr:∀ x,to (of x)=x):EntOK P G t (re (T:=G.T) t i y sk to of).e:=
 n9k' hi hc hl (fun x=>by rw [n3o',Nat.eq_of_beq_eq_true hs]; exact Nat.le_refl _) (fun cs x h=>by
  cases e:decK sk cs with
  | none=>rw [e] at h; cases h
  | some z=>rw [e] at h; cases h; rw [hr]; exact n63' e) (fun x=>n61' _ _) (fun h x=>n57' _ h _) (fun x y=>by rw [nz5',nz5'])
theorem rk {t:Nat} {i:TypeInfo} {y:Ty} {sk:List Sk} {to:G.T t→SkL G.T sk} {of:SkL G.T sk→G.T t} (hi:P.info? t=some i:=by kernel_rfl) (hc:(tyCk P G t y&&infCk i)=true:=by kernel_rfl) (hs:Nat.beq sk.length i.size=true:=by kernel_rfl) (hr:∀ x,to (of x)=x:=by intro x; kernel_rfl) (hl:slLen G y:=by trivial):EntOK P G t (re (T:=G.T) t i y sk to of).e:=rk0 hl hi hc hs hr
theorem rs {t e:Nat} {i:TypeInfo} {sk:List Sk} {to:G.T t→SkL G.T sk} {of:SkL G.T sk→G.T t} (hi:P.info? t=some i:=by kernel_rfl) (hc:(tyCk P G t (.sl e)&&infCk i)=true:=by kernel_rfl) (hs:Nat.beq sk.length i.size=true:=by kernel_rfl) (hr:∀ x,to (of x)=x:=by intro x; kernel_rfl) (hl:∀ x,(G.enc e x).length=G.sz e:=by intro x; kernel_rfl):EntOK P G t (re (T:=G.T) t i (.sl e) sk to of).e:=rk0 hl hi hc hs hr
theorem fn0 {α:Type _} {Q:α→Prop}:∀ p ∈ ([]:List α),Q p:=fun _ h=>absurd h (List.not_mem_nil)
theorem fc {α:Type _} {Q:α→Prop} {a:α} {l:List α} (h:Q a) (t:∀ p ∈ l,Q p):∀ p ∈ a :: l,Q p:=List.forall_mem_cons.2 ⟨h,t⟩
def nmCk (P : Program) (t : Nat) (y : Ty) : Bool := (!y.isAgg || !P.eqGuardType P.depth t) && (!isSt y || (!P.stoodInHeld t && (P.fieldsOf t).toList.all fun f => f.name != "_"))
theorem nm_of {l:List (Ent1 G.T)} (h:(l.all fun p=>nmCk P p.t p.e.ty)=true):∀ p ∈ l,NmE P p.t p.e.ty:=fun p hp=>by
 have h:=List.all_eq_true.1 h p hp;simp only [nmCk,Bool.and_eq_true,Bool.or_eq_true,Bool.not_eq_true'] at h;refine ⟨fun e=>?_,fun e=>?_,fun e=>?_⟩
 ·rcases h.1 with h | h
  ·rw [h] at e; cases e
  ·exact h
 ·rcases h.2 with h | h
  ·rw [h] at e; cases e
  ·exact h.1
 ·rcases h.2 with h | h
  ·rw [h] at e; cases e
  ·exact h.2
theorem giveK:∀ (l:List Sk) (y:TL G (l.map Sk.c)),∃ x:SkL G.T l,giveL (l.map Sk.c) y=encK l x
 | [],_=>⟨(),rfl⟩
 | a :: t,y=>by
  obtain ⟨x,hx⟩:=giveK t y.2;cases a with
  | i k=>exact ⟨((show Int from y.1),x),congrArg (Cv.sc (.int k y.1) :: ·) hx⟩
  | b=>exact ⟨((show Bool from y.1),x),congrArg (Cv.sc (.bool y.1) :: ·) hx⟩
  | s=>exact ⟨((show ByteArray from y.1),x),congrArg (Cv.sc (.string y.1) :: ·) hx⟩
  | f k=>exact ⟨((show Nat from y.1),x),congrArg (Cv.sc (.float k y.1) :: ·) hx⟩
  | l e=>exact ⟨((show List (G.T e) from y.1),x),congrArg (Cv.ro e y.1 :: ·) hx⟩
theorem dk (sk:List Sk) {e:Nat} (hs:shl G 20 e=some (sk.map Sk.c):=by kernel_rfl) (hd:∀ x:SkL G.T sk,(G.dec e (encK sk x)).isSome=true:=by intro x; kernel_rfl):DecE G (.sl e):=nbfu' hs fun y=>by
 obtain ⟨x,hx⟩:=giveK sk y;rw [hx];exact Option.isSome_iff_exists.1 (hd x)
theorem dn {y:Ty} (h:(match y with | .sl _=>true | _=>false)=false:=by rfl):DecE G y:=n6t' h
end
def ki:Sk:=.i .i64
def k4:Sk:=.i .u32
def k1:Sk:=.i .u8
def kb:Sk:=.b
def ks:Sk:=.s
def kf:Sk:=.f .f64
def kl (t:Nat):Sk:=.l t
def ci:CSh:=.int .i64
def c4:CSh:=.int .u32
def c1:CSh:=.int .u8
def cb:CSh:=.bool
def cs:CSh:=.str
def cf:CSh:=.flt .f64
def cr (t:Nat):CSh:=.ro t
def cw (m t:Nat):CSh:=.own (32768 + m) t
def oi:PSh:=.one ci
def o4:PSh:=.one c4
def o1:PSh:=.one c1
def oA (l:List CSh):PSh:=.agg l
section
variable {G:Sig}
def CSh.F (G:Sig) (Y:Type):CSh→Type
 | .int _=>Int→Y
 | .bool=>Bool→Y
 | .str=>ByteArray→Y
 | .flt _=>Nat→Y
 | .own _ t=>List (G.T t)→Y
 | .ro t=>List (G.T t)→Y
 | .rp t _=>G.T t→Y
 | _=>Y
def CSh.ap {Y:Type}:(s:CSh)→s.F G Y→s.T G→Y
 | .int _,f,x=>f x
 | .bool,f,x=>f x
 | .str,f,x=>f x
 | .flt _,f,x=>f x
 | .own _ _,f,x=>f x
 | .ro _,f,x=>f x
 | .rp _ _,f,x=>f x
 | .ptr _ _,f,_=>f
 | .clo _ _ _,f,_=>f
 | .np _ _,f,_=>f
 | .nili,f,_=>f
 | .sa _ _ _,f,_=>f
def LF (G:Sig) (Y:Type):List CSh→Type
 | []=>Y
 | s :: t=>s.F G (LF G Y t)
def apL {Y:Type}:(l:List CSh)→LF G Y l→TL G l→Y
 | [],f,_=>f
 | s :: t,f,x=>apL t (s.ap f x.1) x.2
def PSh.F (G:Sig) (Y:Type):PSh→Type
 | .one c=>c.F G Y
 | .agg l=>LF G Y l
def PSh.ap {Y:Type}:(s:PSh)→s.F G Y→s.T G→Y
 | .one c,f,x=>c.ap f x
 | .agg l,f,x=>apL l f x
def TmF (G:Sig) (Y:Type):List (Nat×PSh)→Type
 | []=>Y
 | p :: t=>p.2.F G (TmF G Y t)
def apT {Y:Type}:(l:List (Nat×PSh))→TmF G Y l→TmT G l→Y
 | [],f,_=>f
 | p :: t,f,x=>apT t (p.2.ap f x.1) x.2
def HpF (G:Sig) (Y:Type):List (Nat×List CSh)→Type
 | []=>Y
 | p :: t=>LF G (HpF G Y t) p.2
def apH {Y:Type}:(l:List (Nat×List CSh))→HpF G Y l→HpT G l→Y
 | [],f,_=>f
 | p :: t,f,x=>apH t (apL p.2 f x.1) x.2
def Spec.F (G:Sig) (s:Spec) (Y:Type):Type:=TmF G (HpF G Y s.hp) s.tm
def Spec.ap {Y:Type} (s:Spec) (f:s.F G Y) (x:s.T G):Y:=apH s.hp (apT s.tm f x.1) x.2
def fe (fn:Func) (I:Spec) (E:SL) (f:I.F G (Option (SumE G E))):Fe G:=⟨I,E,I.ap f,fn.results.toList⟩
def ix (n:Nat):List PSh→List (Nat×PSh)
 | []=>[]
 | a :: t=>(n,a) :: ix (n + 1) t
def ia (l:List PSh):Spec:=⟨ix 0 l,[],[]⟩
def sp (l:List (Nat×PSh)):Spec:=⟨l,[],[]⟩
def sh (l:List (Nat×PSh)) (h:List (Nat×List CSh)):Spec:=⟨l,h,[]⟩
def rt (l:List (Nat×PSh)):SL:=[(.ret,sp l)]
def rh (l:List (Nat×PSh)) (h:List (Nat×List CSh)):SL:=[(.ret,sh l h)]
def jn (l:List (Nat×PSh)):SL:=[(.normal,sp l)]
def jh (l:List (Nat×PSh)) (h:List (Nat×List CSh)):SL:=[(.normal,sh l h)]
def xt (n:Nat) (l:List (Nat×PSh)):Ex×Spec:=(.exit n,sp l)
def xh (n:Nat) (l:List (Nat×PSh)) (h:List (Nat×List CSh)):Ex×Spec:=(.exit n,sh l h)
def rx (l:List (Nat×PSh)):Ex×Spec:=(.ret,sp l)
def yh (l:List (Nat×PSh)) (h:List (Nat×List CSh)):Ex×Spec:=(.ret,sh l h)
def getJ (n:Nat):List (Nat×SL)→Option SL
 | []=>none
 | p :: t=>bif Nat.beq (1048576 + p.1) n then some p.2 else getJ n t
def js (l:List (Nat×SL)) (n:Nat):Option SL:=getJ n l
end
end Go.Ab
