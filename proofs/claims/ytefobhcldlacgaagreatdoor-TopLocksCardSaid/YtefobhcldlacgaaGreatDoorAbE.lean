import Derived.Test.YtefobhcldlacgaaGreatDoorAbD
import Derived.LoopN
set_option linter.all false
open Option renaming some->C,none->D
open Go.Ab renaming Spec->H
open Go.Ab.Cv renaming ows->J
open Bool renaming true->N
open Nat renaming beq->aA
namespace Go.Ab
variable{G:Sig}
section
variable{P:Program}(ok:SigOK P G)(eqok:EqOK P G){cf:CO G}(cfok:CfOK P G cf){nt:Nat}{drawn:Array Oper→St G→M (St G)}(dok:DrawOK P G nt drawn)
 {lp:Nat→St G→M (Ex×St G)}{kl:Nat→List Nat}{jn:Nat→Option (List (Ex×H))}
include ok eqok cfok dok in
theorem Aif{S:H}{E:List (Ex×H)}{c:Code}{n:Nat}(hl:∀(k:Nat) c',(BJ c)[k]?=C c'→LoopOK P G nt (lp (n+k)) c'){cx:Cx}(hnt:cx.nt=nt)(hnu:∀n y,cx.nu0 n=C y→lo≤n)
  {y:GA G E}{ex:Ex}{st':St G}(hy:GM E y C=C (ex,st')) {Q:Exit→Act→World→Prop}(hQ:∀e a' w',ExR ex e→Rel G cx st' a' w'→Q e a' w') :
  ∀(f:Nat) (x:S.T G) (a:Act) (w:World),Cd (Rx S E (CD cf nt drawn lp kl jn n c)) f x=C y→Rel G cx (S.mk' x) a w→Code.rounds P c Q f a w
 |0,_,_,_,h,_=>by simp[Cd]at h
 |f+1,x,a,w,h,r=>by
  rw[rounds_succ];have hlaw:=EY cfok dok (kl:=kl) (jn:=jn) c n (S.mk' x) hl;simp only[Cd]at h;have hround:Rx S E (CD cf nt drawn lp kl jn n c) x=(CD cf nt drawn lp kl jn n c (S.mk' x) _ C).bind λp=>Am8 S E p.1 p.2:=hlaw _ _;rw[hround]at h;cases hv:CD cf nt drawn lp kl jn n c (S.mk' x) _ C with
  |none=>rw[hv]at h;simp[Rf]at h
  |some p=>
   obtain⟨e,st1⟩:=p;rw[hv]at h;have h:Rf (Cd (Rx S E (CD cf nt drawn lp kl jn n c)) f) (Am8 S E e st1)=C y:=h;refine GQ ok eqok cfok dok hnt hnu c n _ st1 e a w _ hl hv r λe' a' w' he r'=>?_;have hout:∀z,IC E e st1=C z→z=y→Q e' a' w':=by intro z hz e1;subst e1;obtain⟨st2,h2,h3⟩:=UN hnu E hz r' C _ hy;simp at h2;obtain⟨rfl,rfl⟩:=h2;exact hQ _ _ _ he h3
   have hiter:∀o:Option (Sum (S.T G) (GA G E)),Rf (Cd (Rx S E (CD cf nt drawn lp kl jn n c)) f) o=C y→(∃x1,o=C (.inl x1)∧Cd (Rx S E (CD cf nt drawn lp kl jn n c)) f x1=C y)∨o=C (.inr y):=by
    intro o ho;unfold Rf at ho;split at ho
    ·exact .inl ⟨_,rfl,ho⟩
    ·simp at ho;subst ho;exact .inr rfl
    ·simp at ho
   have hrest:∀(hne:e≠ .normal),Am8 S E e st1=(match IC E e st1 with | some y=>C (Sum.inr (α:=S.T G) y) | none=>D):=by
    intro hne;cases e with
    |normal=>exact absurd rfl hne
    |exit i=>rfl
    |ret=>rfl
   by_cases hne:e=.normal
   ·subst hne;have hn:Am8 S E .normal st1=(match S.take st1 with | some x=>C (Sum.inl (β:=GA G E) x) | none=>D):=rfl;rw[Lh he];rcases hiter _ h with⟨x1,h1,h2⟩ | h1
    ·rw[hn]at h1;split at h1
     ·rename_i x2 hx2
      have:x2=x1:=by simpa using h1
      subst this;exact Aif hl hnt hnu hy hQ f x2 a' w' h2 (Spec.take_rel hx2 r' hnu)
     ·simp at h1
    ·rw[hn]at h1;split at h1<;>simp at h1
   ·have hr:=hrest hne;rcases hiter _ h with⟨x1,h1,h2⟩ | h1
    ·rw[hr]at h1;split at h1<;>simp at h1
    ·rw[hr]at h1;split at h1
     ·rename_i z hz;have hz2:=hout z hz (by simpa using h1);cases e with
      |normal=>exact absurd rfl hne
      |exit i=>rw[Wv he]at hz2⊢;exact hz2
      |ret=>rw[SH he]at hz2⊢;exact hz2
     ·simp at h1
include ok eqok cfok dok in
theorem Bpu{S:H}{E:List (Ex×H)}{c:Code}{n:Nat}(hl:∀(k:Nat) c',(BJ c)[k]?=C c'→LoopOK P G nt (lp (n+k)) c'){L:S.T G→Option (GA G E)}
  (hL:∀x y,L x=C y→∃f,Cd (Rx S E (CD cf nt drawn lp kl jn n c)) f x=C y):LoopOK P G nt (lpX S E L) c:=by
 refine⟨λst R k=>?_,λst ex st' h cx a w Q hnt hnu r hQ=>?_⟩
 ·unfold lpX;cases S.take st with
  |none=>rfl
  |some x=>
   simp only;cases L x with
   |none=>rfl
   |some y=>exact OI E y k
 ·unfold lpX at h;cases hx:S.take st with
  |none=>rw[hx]at h;simp at h
  |some x=>
   rw[hx]at h;simp only at h;cases hy:L x with
   |none=>rw[hy]at h;simp at h
   |some y=>rw[hy]at h;obtain⟨f,hf⟩:=hL x y hy;exact wp_loop_rounds f (Aif ok eqok cfok dok hl hnt hnu h hQ f x a w hf (Spec.take_rel hx r hnu))
end
end Go.Ab
namespace Go.Ab
variable{G:Sig}
variable{h:Nat→Option (Blk G.T)}{Q:Nat→Code→Prop}{l:List (Nat×Fe G)}{ν:Nat→Option Value}{g:Nat→Option Nat}{n:Nat}{ns:List Nat}{c:Cv G.T}{P:Program}{v:Value}
section
variable{h h':Nat→Option (Blk G.T)}
def Aig{t:Nat}(hh:h' n=h n):Xj h' n t=Xj h n t:=by unfold Xj;rw[hh]
def Ais{s:CSh}(hh:∀n∈c.ows,h' n=h n):s.take h' c=s.take h c:=by
 cases c with
 |own n=>
  have:=hh n (by simp[J])
  cases s with
  |own m t=>simp only[CSh.take];rw[Aig this]
  |ro t=>simp only[CSh.take];rw[Aig this]
  |_=>rfl
 |sc v=>cases s<;>first | rfl | (cases v<;>rfl)
 |_=>cases s<;>rfl
def Zg:∀{s:List CSh}{cs:List (Cv G.T)},(∀c∈cs,∀n∈c.ows,h' n=h n)→Ll h' s cs=Ll h s cs
 |[],[],_=>rfl
 |[],_::_,_=>rfl
 |_::_,[],_=>rfl
 |s::ss,c::cs,hh=>by simp only[Ll];rw[Ais (hh c σ),Zg λc hc=>hh c (by simp[hc])]
def Bab{s:PSh}{x:Pv G.T}(hh:∀c∈x.cells,∀n∈c.ows,h' n=h n):s.take h' x=s.take h x:=by
 cases s with
 |one s=>cases x with
  |one c=>exact Ais (hh c (by simp[Pv.cells]))
  |agg cs=>rfl
 |agg ss=>cases x with
  |one c=>rfl
  |agg cs=>exact Zg hh
def Aew{tm:List (Nat×Sv G.T)}(hh:∀k x,get tm k=C (.p x)→∀c∈x.cells,∀n∈c.ows,h' n=h n):∀(s:List (Nat×PSh)),KE h' tm s=KE h tm s
 |[]=>rfl
 |p::t=>by
  simp only[KE];cases hg:get tm p.1 with
  |none=>rfl
  |some v=>
   cases v with
   |tup _=>rfl
   |p c=>simp only;rw[Bab (hh _ _ hg),Aew hh t]
def Aev:∀(s:List (Nat×List CSh)),(∀n∈AG s,h' n=h n∧∀cs,h n=C (.cells cs)→∀c∈cs,∀n∈c.ows,h' n=h n)→KD h' s=KD h s
 |[],_=>rfl
 |p::t,hh=>by
  have h1:=hh p.1 (by simp[AG]);simp only[KD];rw[h1.1];cases hg:h p.1 with
  |none=>rfl
  |some k=>
   cases k with
   |row _ _=>rfl
   |cells cs=>simp only;rw[Zg (h1.2 cs hg),Aev t λn hn=>hh n (by simp[AG,hn])]
end
def Aqw{T:Nat→Type}{c c':Cv T}(h:c.ren (Acb ns) g=C c'):∀n∈c'.ows,n∈c.ows∧n<lo∧n∉ns:=by
 cases c with
 |own n=>
  simp only[Cv.ren]at h;split at h
  ·rename_i m hm;cases h;obtain⟨rfl,h2,h3⟩:=Aih hm;intro n hn;simp[J]at hn⊢;subst hn;exact⟨rfl,h2,h3⟩
  ·cases h
 |ptr n off=>simp only[Cv.ren]at h;split at h<;>cases h;simp[J]
 |clo k p q=>simp only[Cv.ren]at h;split at h<;>cases h;simp[J]
 |np n t=>simp only[Cv.ren]at h;split at h<;>cases h;simp[J]
 |sc v=>cases h;simp[J]
 |ro t l=>cases h;simp[J]
 |rp t x o=>cases h;simp[J]
 |pd _ _ _ _ _=>cases h
 |pr _ _ _ _=>cases h
 |sa _ _ _=>cases h
def Anj{T:Nat→Type}{cs cs':List (Cv T)}(h:Dh (Cv.ren (Acb ns) g) cs=C cs'):∀c'∈cs',∀n∈c'.ows,(∃c∈cs,n∈c.ows)∧n<lo∧n∉ns:=by
 intro c' hc' n hn;obtain⟨m1,m2⟩:=CI _ _ h;obtain⟨i,hi⟩:=e5_.1 hc';have hi':i<cs.length:=by have:=(g_.1 hi).1;omega
 obtain⟨z,hz,hfz⟩:=m2 i _ (i_ hi');rw[hi]at hz;cases hz;obtain⟨q1,q2⟩:=Aqw hfz n hn;exact⟨⟨cs[i],b1_ hi',q1⟩,q2⟩
def Aey{ns:List Nat}{h1 h1':Nat→Option (Blk G.T)}{nm:Nat}{rd rd':List Nat}{args:List (Pv G.T)}{g:Nat}(hrd:rd'=rd):∀(l:List (Nat×Fe G)),(∀I:H,QV I h1' ns.length args=QV I h1 ns.length args)→
  TU ns h1' nm rd' args g l=TU ns h1 nm rd args g l
 |[],_=>rfl
 |p::r,h=>by subst hrd;funext R k;simp only[TU];rw[h p.2.I,Aey rfl r h]
def Bhf(l:List (Nat×Fe G)):Acm (cfP l):=by
 intro g args h h' nm out ha hh;unfold cfP at ha⊢;generalize hns:Xd args=ns at ha⊢;obtain⟨args',hargs',h1⟩:=M.bindopt ha;obtain⟨hnd,h2⟩:=M.bindneed h1;have hrd:out.rd=ns++UC ns h args:=by obtain⟨p,_,_,t,_,hc⟩:=UO h2;obtain⟨y,p,s,bl,_,_,_,hf⟩:=Ac2 hc;obtain⟨_,_,_,_,_,_,_,_,_,rfl,_⟩:=Ahh hf;rfl
 rw[hrd]at hh;have hn1:∀n∈ns,h' n=h n:=λn hn=>hh n (by simp[hn]);have hown:UC ns h' args=UC ns h args:=by
  unfold UC;congr 1
  have:∀l:List Nat,(∀n∈l,h' n=h n)→(l.flatMap λn=>match h' n with | some (.cells cs)=>cs.flatMap J | _=>[])=l.flatMap λn=>match h n with | some (.cells cs)=>cs.flatMap J | _=>[]:=by
   intro l;induction l with
   |nil=>intro _;rfl
   |cons a t ih=>intro hl;simp only[a1_];rw[hl a σ,ih λn hn=>hl n (by simp[hn])]
  exact this ns hn1
 have hblk:∀(i n:Nat),ns[i]?=C n→FF ns h' (lo+i)=FF ns h (lo+i):=by intro i n hi;unfold FF;rw[Ni.2 (by omega:lo≤lo+i)];simp only[d_,b7_,hi];rw[hn1 n (w_ hi)]
 have hrow:∀n,n<lo→(n∈ns∨n∈UC ns h args)→FF ns h' n=FF ns h n:=by
  intro n hn hm;unfold FF;cases hb:Nat.ble lo n with
  |true=>have:=Ni.1 hb;omega
  |false=>
   simp only[c_];cases hc:has ns n with
   |true=>rfl
   |false=>simp only[c_];rw[hh n (by rcases hm with hm | hm<;>simp[hm])]
 have htake:∀I:H,QV I (FF ns h') ns.length args'=QV I (FF ns h) ns.length args':=by
  intro I;unfold QV;cases hb:aA args'.length I.tm.length&&aA ns.length I.hp.length&&VC lo (AG I.hp)with
  |false=>rfl
  |true=>
   simp only[e_,AW]at hb;obtain⟨⟨hb1,hb2⟩,hb3⟩:=hb;have hl:∀l:List (Nat×List CSh),(AG l).length=l.length:=by intro l;induction l with | nil=>rfl | cons p t ih=>simp[AG,ih]
   have e1:KE (FF ns h') (JI 0 (args'.map Sv.p)) I.tm=KE (FF ns h) (JI 0 (args'.map Sv.p)) I.tm:=by
    refine Aew (λk x hk c hc n hn=>?_) I.tm;rw[WJ]at hk;simp at hk;have hx:=w_ hk;obtain⟨m1,m2⟩:=CI _ _ hargs';obtain⟨i,hi⟩:=e5_.1 hx;have hi':i<args.length:=by have:=(g_.1 hi).1;omega
    obtain⟨z,hz,hfz⟩:=m2 i _ (i_ hi');rw[hi]at hz;cases hz;have key:(∃c0∈(args[i]).cells,n∈c0.ows)∧n<lo∧n∉ns:=by
     generalize args[i]=u at hfz;cases u with
     |one c0=>
      simp only[Pv.ren]at hfz;split at hfz
      ·rename_i c1 hc1;cases hfz;simp[Pv.cells]at hc;subst hc;obtain⟨q1,q2⟩:=Aqw hc1 n hn;exact⟨⟨c0,by simp[Pv.cells],q1⟩,q2⟩
      ·cases hfz
     |agg cs=>
      simp only[Pv.ren]at hfz;split at hfz
      ·rename_i cs1 hcs1;cases hfz;exact Anj hcs1 c hc n hn
      ·cases hfz
    obtain⟨⟨c0,k1,k2⟩,k3,k4⟩:=key;refine hrow n k3 (.inr ?_);unfold UC;exact n_.2 (.inl (c9_.2 ⟨args[i],b1_ hi',c9_.2 ⟨c0,k1,k2⟩⟩))
   have e2:KD (FF ns h') I.hp=KD (FF ns h) I.hp:=by
    refine Aev I.hp λn hn=>?_;obtain⟨i,hi⟩:=e5_.1 hn;have hni:=Vf hb3 i n hi;have hil:i<ns.length:=by have:=(g_.1 hi).1;rw[hl]at this;omega
    have hi2:=i_ hil;subst hni;refine⟨hblk i _ hi2,λcs hcs c hc n hn=>?_⟩;unfold FF at hcs;rw[Ni.2 (by omega:lo≤lo+i)]at hcs;simp only[d_,b7_,hi2]at hcs;unfold Ary at hcs;split at hcs
    ·rename_i cs0 hcs0;split at hcs
     ·rename_i cs1 hcs1;cases hcs;obtain⟨⟨c0,k1,k2⟩,k3,k4⟩:=Anj hcs1 c hc n hn;refine hrow n k3 (.inr ?_);unfold UC;refine n_.2 (.inr (c9_.2 ⟨ns[i],b1_ hil,?_⟩));rw[hcs0];exact c9_.2 ⟨c0,k1,k2⟩
     ·cases hcs
    ·cases hcs
   rw[e1,e2]
 simp only[M.bind,M.opt,hargs',M.need,hnd,d_];rw[Aey (by rw[hown]) l htake];exact h2
def GE(h:Nat→Option (Blk G.T)):Cv G.T→Option (Cv G.T)
 | .sc v=>C (.sc v)
 | .ro t l=>C (.ro t l)
 | .own m=>match h m with | some (.row t l)=>C (.ro t l) | _=>D
 |_=>D
def ZD(h:Nat→Option (Blk G.T))(n ty:Nat):Option (G.T ty):=match h n with
 |some (.cells cs)=>match Dh (GE h) cs with | some cs'=>bif aA cs'.length (G.sz ty)then G.dec ty cs' else D | none=>D
 |_=>D
def TC(h:Nat→Option (Blk G.T))(n:Nat):List Nat:=match h n with
 |some (.cells cs)=>cs.flatMap J
 |_=>[]
def Ru:List (Nat×Fe G)→Nat→Option Nat
 |[],_=>D
 |p::r,g=>bif aA p.1 g then match p.2.I.tm with
   |[(_,.one (.rp ty 0))]=>C ty
   |_=>Ru r g
  else Ru r g
def WF(G:Sig):List (Nat×Option (Blk G.T))→Bool
 |[]=>N
 |(_,C (.row t _))::r=>G.flat t&&WF G r
 |_::_=>false
def Atf{T:Nat→Type}:Option (Sv T)→Bool
 |some s=>s.cells.all Sn
 |none=>N
def Ady(l:List (Nat×Fe G))(ty n g:Nat)(h:Nat→Option (Blk G.T))(nm:Nat):M (Out G):=M.bind (M.opt (ZD h n ty)) λx=>M.bind (cfP l g [.one (.rp ty x 0)] (λ_=>D) nm) λout=>M.bind (M.need (Atf out.v&&WF G out.d)) λ_=>M.ret ⟨out.v,out.d,out.nw,n::TC h n⟩
def cfQ(l:List (Nat×Fe G)):CO G:=λg args h nm=>match args with
 |[.one (.ptr n 0)]=>match Ru l g with
  |some ty=>Ady l ty n g h nm
  |none=>cfP l g args h nm
 |_=>cfP l g args h nm
def Ak8{g nm:Nat}{args:List (Pv G.T)}(hn:¬∃n ty,args=[.one (.ptr n 0)]∧Ru l g=C ty):cfQ l g args h nm=cfP l g args h nm:=by
 unfold cfQ;split
 ·split
  ·rename_i n _ ty hty;exact absurd ⟨n,ty,rfl,hty⟩ hn
  ·rfl
 ·rfl
def Afi{g nm ty:Nat}(hty:Ru l g=C ty):cfQ l g [.one (.ptr n 0)] h nm=Ady l ty n g h nm:=by unfold cfQ;simp only[hty]
def Amo{h':Nat→Option (Blk G.T)}(hh:∀m∈c.ows,h' m=h m):GE h' c=GE h c:=by
 cases c with
 |own m=>simp only[GE];rw[hh m (by simp[J])]
 |_=>rfl
def XA{h h':Nat→Option (Blk G.T)}:∀{cs:List (Cv G.T)},(∀m∈cs.flatMap J,h' m=h m)→Dh (GE h') cs=Dh (GE h) cs
 |[],_=>rfl
 |c::t,hh=>by simp only[a1_,n_]at hh;simp only[Dh];rw[Amo λm hm=>hh m (.inl hm),XA λm hm=>hh m (.inr hm)]
def Adz{ty g nm:Nat}{out:Out G}(ha:Ady l ty n g h nm (Out G) C=C out):
  ∃x out1,ZD h n ty=C x∧cfP l g [.one (.rp ty x 0)] (λ_=>D) nm (Out G) C=C out1∧Atf out1.v=N∧WF G out1.d=N∧out=⟨out1.v,out1.d,out1.nw,n::TC h n⟩:=by
 unfold Ady at ha;obtain⟨x,hx,h1⟩:=M.bindopt ha;have hl:Law (cfP l g [.one (.rp ty x 0)] (λ_=>D) nm):=Ad (Bg _) λ_=>Ad (Ay _) λ_=>Abu _ _ _ _ _ _ _;obtain⟨out1,h2,h3⟩:=hl.spec h1;obtain⟨hf,h4⟩:=M.bindneed h3;rw[e_]at hf;simp[M.ret]at h4;exact⟨x,out1,hx,h2,hf.1,hf.2,h4.symm⟩
def Zt(l:List (Nat×Fe G)):Acm (cfQ l):=by
 intro g args h h' nm out ha hh;by_cases hn:∃n ty,args=[.one (.ptr n 0)]∧Ru l g=C ty
 ·obtain⟨n,ty,rfl,hty⟩:=hn;rw[Afi hty]at ha⊢;obtain⟨x,out1,hx,_,_,_,rfl⟩:=Adz ha;simp only at hh;have h1:h' n=h n:=hh n σ;have e:ZD h' n ty=ZD h n ty:=by
   unfold ZD;rw[h1];cases hc:h n with
   |none=>rfl
   |some k=>
    cases k with
    |row=>rfl
    |cells cs=>
     have:∀m∈cs.flatMap J,h' m=h m:=λm hm=>hh m (by
      have:TC h n=cs.flatMap J:=by unfold TC;rw[hc]
      rw[this];simp[hm])
     simp only[XA this]
  have eo:TC h' n=TC h n:=by unfold TC;rw[h1]
  unfold Ady at ha⊢;rw[e,eo];exact ha
 ·rw[Ak8 hn]at ha⊢;exact Bhf l g args h h' nm out ha hh
def Atg{s:Sv G.T}{S S':Nat→Prop}{h:Array Obj}(hf:Atf (C s)=N)(r:Rs G ν S h s v):Rs G ν S' h s v:=Aq1 (λc hc=>I_.1 hf c hc) r
def Adi:∀{d:List (Nat×Option (Blk G.T))}{h:Nat→Option (Blk G.T)}{n:Nat}{k:Blk G.T},WF G d=N→n∈DU d→BE h d n=C k→∃t l,k=.row t l∧G.flat t=N
 |[],_,_,_,_,hn,_=>by simp[DU]at hn
 |(m,q)::t,h,n,k,hf,hn,hk=>by
  cases q with
  |none=>simp[WF]at hf
  |some q=>
   cases q with
   |cells cs=>simp[WF]at hf
   |row u l=>
    simp only[WF,e_]at hf;simp only[BE]at hk;by_cases ht:n∈DU t
    ·exact Adi hf.2 ht hk
    ·rw[Lb t _ n ht]at hk;simp only[DU,s_]at hn;have hn:n=m:=hn.resolve_right ht;subst hn;simp at hk;exact⟨u,l,hk.symm,hf.1⟩
def Bdr(ok:SigOK P G){S S':Nat→Prop}{h:Array Obj}{t:Nat}{l:List (G.T t)}(hf:G.flat t=N)(r:Rb G ν S h n (.row t l)):Rb G ν S' h n (.row t l):=by
 rcases r with r | ⟨b,cap,c,te,h1,h2,h3,h4,h5,h6⟩
 ·exact .inl r
 ·refine .inr ⟨b,cap,c,te,h1,h2,h3,h4,λi j x cv hx hc=>?_,h6⟩;obtain⟨v,hv,hr⟩:=h5 i j x cv hx hc;refine⟨v,hv,?_⟩;obtain⟨u,rfl⟩:=ok.flatd t x cv hf (w_ hc);cases hr with
  |sc _ hs=>exact .sc _ hs
def Bh6{S S2 B:Nat→Prop}{w:World}(hr:HRel G ν S B h w)(hS:∀b,S b→S2 b){c2:Cv G.T}(hc:GE h c=C c2)(hv:Rc G ν S w.heap c v)
  (hL:∀m∈c.ows,∀z b,ν m=C z→AY z=C b→S2 b):Rd G S2 w.heap c2 v:=by
 cases c with
 |sc u=>simp[GE]at hc;subst hc;exact Rd.mono hS (λ_ _=>rfl) hv
 |ro t l=>simp[GE]at hc;subst hc;exact Rd.mono hS (λ_ _=>rfl) hv
 |own m=>
  simp only[GE]at hc;split at hc
  ·rename_i t l hm;simp at hc;subst hc;obtain⟨a,len,cap,hν,rfl⟩:=hv;rcases hr.blk m _ hm with⟨h1,rfl⟩ | ⟨b,cap',c,te,h1,h2,h3,h4,h5,h6⟩
   ·rw[h1]at hν;have hν:=F_ hν;rw[← hν];exact .nil t D 0
   ·rw[h1]at hν;have hν:=F_ hν;rw[← hν];have hcell:∀i j,i<l.length→j<G.sz t→c[0+i*G.sz t+j]?=C (c.getD (0+i*G.sz t+j) undef):=λi j hi hj=>by
     have:0+i*G.sz t+j<c.size:=by
      rw[h4];have h7:(i+1)*G.sz t≤cap'*G.sz t:=K_ _ ω;have h8:(i+1)*G.sz t=i*G.sz t+G.sz t:=by rw[a8_,Nat.one_mul]
      omega
     rw[b4_ this,A_,b4_ this];rfl
    refine .ro t l b 0 cap' c te (0,0) (λi j=>c.getD (0+i*G.sz t+j) undef) (hL m (by simp[J]) _ b h1 rfl) h2 h3 hcell λi j x cv hx hcv=>?_;obtain⟨u,hu,hru⟩:=h5 i j x cv hx hcv
    have:c.getD (0+i*G.sz t+j) undef=u:=by rw[o_,A_,hu];rfl
    rw[this];exact Rd.mono hS (λ_ _=>rfl) hru
  ·cases hc
 |_=>simp[GE]at hc
def PC(ok:SigOK P G)(hT:∀p∈l,Gn P G p.1 p.2):CfOK P G (cfQ l):=by
 have hP:=Blo ok hT;refine⟨λg args h nm=>?_,λg args h nm out hout=>?_⟩
 ·by_cases hn:∃n ty,args=[.one (.ptr n 0)]∧Ru l g=C ty
  ·obtain⟨n,ty,rfl,hty⟩:=hn;rw[Afi hty];exact Ad (Bg _) λ_=>Ad (hP.law _ _ _ _) λ_=>Ad (Ay _) λ_=>Ah _
  ·rw[Ak8 hn];exact hP.law _ _ _ _
 by_cases hn:∃n ty,args=[.one (.ptr n 0)]∧Ru l g=C ty
 ·obtain⟨n,ty,rfl,hty⟩:=hn;rw[Afi hty]at hout;obtain⟨x,out1,hx,hcall,hfv,hfd,rfl⟩:=Adz hout;obtain⟨hent,hspec⟩:=hP.calls _ _ _ _ _ hcall;refine⟨hent,λν S B w vals hr hB hfr hvals=>?_⟩;simp only at hfr;unfold ZD at hx;cases hcs:h n with
  |none=>rw[hcs]at hx;simp at hx
  |some k=>
  cases k with
  |row t l=>rw[hcs]at hx;simp at hx
  |cells cs=>
  rw[hcs]at hx;simp only at hx;cases hmo:Dh (GE h) cs with
  |none=>rw[hmo]at hx;simp at hx
  |some cs'=>
  rw[hmo]at hx;simp only at hx;cases hln:aA cs'.length (G.sz ty)with
  |false=>rw[hln]at hx;simp at hx
  |true=>
  rw[hln]at hx;simp only[d_]at hx;have hln:=AW.1 hln;have hxe:=ok.encdec ty cs' x hx;obtain⟨hm1,hm2⟩:=CI _ _ hmo;obtain⟨v,t,rfl,hv,ht⟩:=hvals.inv;have ht:=ht.inv_nil;subst ht;cases hv with
  |one _ _ hv=>
  obtain⟨b,hnb,rfl⟩:=hv;simp only at hnb;obtain⟨b',c,te,q1,q2,q3,_⟩:=hr.blk n _ hcs;rw[hnb]at q1;have q1:=F_ q1;obtain rfl:b=b':=by injection q1 with q1;injection q1 with q1;injection q1
  have hsz:∀m z c,h m≠D→ν m=C z→AY z=C c→c<w.heap.size:=λm z c hm hz hc=>by
   cases hk:h m with
   |none=>exact absurd hk hm
   |some k=>
    have hb:=hr.blk m k hk;cases k with
    |cells cs=>
     obtain⟨b1,c1,te1,r1,r2,_⟩:=hb;rw[hz]at r1;have r1:=F_ r1;subst r1
     have:b1=c:=by simpa[AY]using hc
     subst this;exact(L_.1 r2).1
    |row t l=>
     rcases hb with⟨r1,_⟩ | ⟨b1,cap,c1,te1,r1,r2,_⟩
     ·rw[hz]at r1;have r1:=F_ r1;subst r1;simp[AY]at hc
     ·rw[hz]at r1;have r1:=F_ r1;subst r1
      have:b1=c:=by simpa[AY]using hc
      subst this;exact(L_.1 r2).1
  let S2:Nat→Prop:=λq=>S q∨∃m z,h m≠D∧ν m=C z∧AY z=C q
  have hS2:∀q,S q→S2 q:=λq hq=>.inl hq;have hown:∀m,m∈cs.flatMap J→h m≠D:=λm hm=>by obtain⟨c1,hc1,hmc⟩:=c9_.1 hm;obtain⟨i,hi⟩:=List.getElem?_of_mem hc1;obtain⟨y,_,hy⟩:=hm2 i c1 hi;cases c1<;>simp[J]at hmc;subst hmc;intro hno;simp[GE,hno]at hy
  have hrp:Rd G S2 w.heap (.rp ty x 0) (.pointer (C ⟨b,0,D⟩)):=by
   refine .rp ty x 0 b 0 c te (0,0) (λj=>c.getD (0+j) undef) (.inr ⟨n,_,by rw[hcs];simp,hnb,rfl⟩) q2 (λj hj=>?_) λj cv hcv=>?_
   ·have:0+j<c.size:=by have h9:cs.length=c.size:=(by have h9:=q3.1;rwa [Array.length_toList]at h9);omega
    rw[b4_ this,A_,b4_ this];rfl
   ·rw[hxe]at hcv;have hj:j<cs.length:=by have:=(g_.1 hcv).1;omega
    obtain⟨y,hy1,hy2⟩:=hm2 j _ (i_ hj);rw[hcv]at hy1;have hy1:=F_ hy1;subst hy1;obtain⟨u,hu⟩:∃u,c.toList[j]?=C u:=⟨_,i_ (by rw[← q3.1];exact hj)⟩
    have hru:=q3.2 j _ u (i_ hj) hu
    have:c.getD (0+j) undef=u:=by rw[o_,A_];rw[Array.getElem?_toList]at hu;rw[hu];rfl
    simp only[this];exact Bh6 hr hS2 hy2 hru λm hm z q hz hq=>.inr ⟨m,z,hown m (c9_.2 ⟨_,b1_ hj,hm⟩),hz,hq⟩
  have hst:∀q,S2 q→q<w.heap.size:=λq hq=>by
   rcases hq with hq | ⟨m,z,q1,q2,q3⟩
   ·exact hr.stay q hq
   ·exact hsz m z q q1 q2 q3
  have hr2:HRel G ν S2 (λq=>w.heap.size≤q) (λ_=>D) w:={
   blk:=λm k hk=>(by cases hk)
   apart:=λm1 m2 y z q hk=>absurd rfl hk
   own:=λm y q hk=>absurd rfl hk
   stay:=hst
   gl:=hr.gl.mono hS2 λ_ _=>rfl }
  refine(hspec ν S2 (λq=>w.heap.size≤q) w _ hr2 (λq hq=>hq) hfr (F2.cons (.one _ _ hrp) .nil)).mono λe w' ⟨v',ν',S',he,p⟩=>⟨v',ν',S,he,?_⟩
  have hfrm:∀q,q<w.heap.size→w'.heap[q]?=w.heap[q]?:=λq hq=>p.frame q hq λm _ hm=>absurd rfl hm;have le:Le ν ν' S S w.heap w'.heap:=⟨p.nu,λ_ h=>h,λq hq=>hfrm q (hr.stay q hq)⟩
  have hin:∀m,m∈DU out1.d→BE h out1.d m=BE (λ_=>D) out1.d m:=λm hm=>Vu _ _ _ _ (.inr hm);have hold:∀m z,h m≠D→ν' m=C z→ν m=C z:=λm z hm hz=>by
   cases hk:h m with
   |none=>exact absurd hk hm
   |some k=>
    have hb:=hr.blk m k hk;cases k with
    |cells cs=>obtain⟨b1,c1,te1,r1,_⟩:=hb;rw[p.nu _ _ r1]at hz;rw[r1];exact hz
    |row t l=>rcases hb with⟨r1,_⟩ | ⟨b1,cap,c1,te1,r1,_⟩<;>(rw[p.nu _ _ r1]at hz;rw[r1];exact hz)
  refine⟨p.nu,p.new,λ_ h=>h,λ_ h=>.inl h,⟨λm k hk=>?_,λm1 m2 y z q h1 h2 hy hz e1 e2=>?_,λm y q hm hy e=>?_,λq hq=>?_,hr.gl.mono (λ_ h=>h) λq hq=>hfrm q (hr.stay q hq)⟩,λs hs=>?_,p.size,λq hq _=>hfrm q hq,p.env⟩
  ·by_cases hm:m∈DU out1.d
   ·have hk':=hk;rw[hin m hm]at hk';have hb:=p.rel.blk m k hk';obtain⟨t,l,rfl,hft⟩:=Adi hfd hm hk;exact Bdr ok hft hb
   ·simp only at hk;rw[Lb _ _ _ hm]at hk;exact(hr.blk m k hk).mono le λz q hz hq=>hfrm q (hsz m z q (by rw[hk];simp) hz hq)
  ·by_cases i1:m1∈DU out1.d
   ·rw[show BE h out1.d m1=_ from hin m1 i1]at h1;by_cases i2:m2∈DU out1.d
    ·rw[show BE h out1.d m2=_ from hin m2 i2]at h2;exact p.rel.apart m1 m2 y z q h1 h2 hy hz e1 e2
    ·rw[show BE h out1.d m2=_ from Lb _ _ _ i2]at h2;have g1:=(p.rel.own m1 y q h1 hy e1).2;have g2:=hsz m2 z q h2 (hold m2 z h2 hz) e2;omega
   ·rw[show BE h out1.d m1=_ from Lb _ _ _ i1]at h1;by_cases i2:m2∈DU out1.d
    ·rw[show BE h out1.d m2=_ from hin m2 i2]at h2;have g1:=(p.rel.own m2 z q h2 hz e2).2;have g2:=hsz m1 y q h1 (hold m1 y h1 hy) e1;omega
    ·rw[show BE h out1.d m2=_ from Lb _ _ _ i2]at h2;exact hr.apart m1 m2 y z q h1 h2 (hold m1 y h1 hy) (hold m2 z h2 hz) e1 e2
  ·by_cases i1:m∈DU out1.d
   ·rw[show BE h out1.d m=_ from hin m i1]at hm;have g1:=(p.rel.own m y q hm hy e).2;exact⟨λhS=>by have:=hr.stay q hS;omega,hB q g1⟩
   ·rw[show BE h out1.d m=_ from Lb _ _ _ i1]at hm;exact hr.own m y q hm (hold m y hm hy) e
  ·have:=hr.stay q hq
   have:=p.size
   omega
  ·have hs:out1.v=C s:=hs;rw[hs]at hfv;exact Atg hfv (p.val s hs)
 ·rw[Ak8 hn]at hout;exact hP.calls _ _ _ _ _ hout
def UY(cf:CO G)(lp:Nat→St G→M (Ex×St G))(jn:Nat→Option (List (Ex×H)))(nt:Nat)(body:Code)(I:H)(E:List (Ex×H))(x:I.T G):Option (GA G E):=CD cf nt (Tq cf nt) lp (λ_=>[]) jn 0 body (I.mk' x) _ λp=>IC E p.1 p.2
def Xi(cf:CO G)(lp:Nat→St G→M (Ex×St G))(jn:Nat→Option (List (Ex×H)))(nt:Nat)(n:Nat)(body:Code)(S:H)(E:List (Ex×H))(x:S.T G):Option (Sum (S.T G) (GA G E)):=Rx S E (CD cf nt (Tq cf nt) lp (λ_=>[]) jn n body) x
def DN:Nat:=18446744073709551616
@[reducible] def lp{F X Y:Type}[Ur F X Y][Un X F (Option (Sum X Y))](f:F):X→Option Y:=Cd (Un.u f) DN
def BV(f:Func):Code:=f.body.getD .skip
def PK(c:Code)(n:Nat):Code:=(BJ c)[n]?.getD .skip
section
variable{P:Program}(ok:SigOK P G)(eqok:EqOK P G)(hm:P.follows .mixedOrders=N){l:List (Nat×Fe G)}(hl:∀p∈l,Gn P G p.1 p.2){lp:Nat→St G→M (Ex×St G)}{jn:Nat→Option (List (Ex×H))}
include ok eqok hm hl in
theorem Bh8{nt k:Nat}{c:Code}(S:H)(E:List (Ex×H))(R:S.T G→Option (Sum (S.T G) (GA G E)))(hP:lp k=lpX S E (Cd R DN))(hin:∀(k:Nat) c',(BJ c)[k]?=C c'→LoopOK P G nt (lp (n+k)) c')
  (hR:∀x,Xi (cfQ l) lp jn nt n c S E x=R x):LoopOK P G nt (lp k) c:=by
 rw[hP];exact Bpu ok eqok (PC ok hl) (Uo ok eqok (PC ok hl) (Zt l) hm) hin λx _ h=>⟨DN,by rw[show Rx S E (CD (cfQ l) nt (Tq (cfQ l) nt) lp (λ_=>[]) jn n c)=R from funext hR];exact h⟩
include ok eqok hm hl in
theorem Brh {g : Nat} {fn : Func} (hfn : P.funcs[g]? = C fn) (hname : (fn.name == "runtime.NumGoroutine") = false) (hbody : fn.body = C (BV fn)) {e : Fe G} (hrs : fn.results.toList = e.rs) (hlen : Nat.ble e.I.tm.length fn.ntmps = N)
  (hlp:∀(k:Nat) c',(BJ (BV fn))[k]?=C c'→LoopOK P G fn.ntmps (lp k) c') (hF:∀x,UY (cfQ l) lp jn fn.ntmps (BV fn) e.I e.E x=e.F x):Gn P G g e:=
 Ao1 ok eqok (PC ok hl) hfn hname hbody hrs (Ni.1 hlen) (Uo ok eqok (PC ok hl) (Zt l) hm) hlp λx _ h=>(hF x).trans h
end
def IT(Q:Nat→Code→Prop)(n:Nat)(l:List Code):Prop:=∀(k:Nat) c',l[k]?=C c'→Q (n+k) c'
def Ag:IT Q n []:=λk c' h'=>by simp at h'
def Af{t:List Code}{c:Code}(h0:Q n c)(ht:IT Q (n+1) t):IT Q n (c::t):=λk c' h'=>by
 cases k with
 |zero=>simp at h';subst h';exact h0
 |succ k=>have:=ht k c' (by simpa using h');rwa [show n+(k+1)=n+1+k by omega]
def Ba9{l:List Code}(l':List Code)(h:l=l')(h':IT Q n l'):IT Q n l:=h▸h'
def Aco{l:List Code}(h:IT Q 0 l):∀(k:Nat) c',l[k]?=C c'→Q k c':=λk c' hk=>by have:=h k c' hk;rwa [o_]at this
end Go.Ab
namespace Go.Ab
variable{G:Sig}
structure Ctx(P:Program)(G:Sig):Prop where
 ok:SigOK P G
 eqok:EqOK P G
 hm:P.follows .mixedOrders=true
def Vi:PSh:=.one (.int .u64)
def ob:PSh:=.one .bool
def os:PSh:=.one .str
def op(n:Nat):PSh:=.one (.ptr n 0)
def oro(t:Nat):PSh:=.one (.ro t)
abbrev Sp:=H
abbrev SL:=List (Ex×H)
def jl(l:List (Nat×SL)):Nat→Option SL:=λn=>get l n
def lf:St G→M (Ex×St G):=λ_=>M.fail
def pl:List (St G→M (Ex×St G))→Nat→St G→M (Ex×St G)
 |[],_=>lf
 |a::_,0=>a
 |_::t,n+1=>pl t n
inductive Sk where
 |i (k:IntKind) | b | s | f (k:FloatKind) | l (t:Nat)
def Sk.T(T:Nat→Type):Sk→Type
 | .i _=>Int
 | .b=>Bool
 | .s=>ByteArray
 | .f _=>Nat
 | .l t=>List (T t)
def SkL(T:Nat→Type):List Sk→Type
 |[]=>Unit
 |a::t=>a.T T×SkL T t
def Ajv(T:Nat→Type)(t t':Nat)(l:List (T t)):Option (List (T t')):=if h:t=t' then C (h▸l)else D
def Ar8{T:Nat→Type}{t t':Nat}{l:List (T t)}{l':List (T t')}(h:Ajv T t t' l=C l'):∃e:t=t',e▸l=l':=by
 unfold Ajv at h;split at h
 ·rename_i e;simp at h;exact⟨e,h⟩
 ·simp at h
def Sk.enc{T:Nat→Type}:(a:Sk)→a.T T→Cv T
 | .i k,n=>.sc (.int k n)
 | .b,x=>.sc (.bool x)
 | .s,x=>.sc (.string x)
 | .f k,n=>.sc (.float k n)
 | .l t,x=>.ro t x
def Sk.dec{T:Nat→Type}:(a:Sk)→Cv T→Option (a.T T)
 | .i k,.sc (.int k' n)=>bif EB k k' then C n else D
 | .b,.sc (.bool x)=>C x
 | .s,.sc (.string x)=>C x
 | .f k,.sc (.float k' n)=>bif PE k k' then C n else D
 | .l t,.ro t' x=>Ajv T t' t x
 |_,_=>D
def Qm{T:Nat→Type}:(l:List Sk)→SkL T l→List (Cv T)
 |[],_=>[]
 |a::t,x=>a.enc x.1::Qm t x.2
def Alk{T:Nat→Type}:(l:List Sk)→List (Cv T)→Option (SkL T l)
 |[],[]=>C ()
 |a::t,c::cs=>match a.dec c,Alk t cs with
  |some x,C y=>C (x,y)
  |_,_=>D
 |_,_=>D
def Sk.dec_ok{T:Nat→Type}{a:Sk}{c:Cv T}{x:a.T T}(h:a.dec c=C x):a.enc x=c:=by
 cases a with
 |i k=>
  cases c with
  |sc v=>
   cases v with
   |int k' n=>
    have h:(bif EB k k' then C n else D)=C x:=h;have e:k=k':=by cases k<;>cases k'<;>first | rfl | (simp[EB]at h)
    subst e;have e:EB k k=N:=by cases k<;>rfl
    rw[e]at h;cases h;rfl
   |_=>cases h
  |_=>cases h
 |b=>
  cases c with
  |sc v=>
   cases v with
   |bool y=>cases h;rfl
   |_=>cases h
  |_=>cases h
 |s=>
  cases c with
  |sc v=>
   cases v with
   |string y=>cases h;rfl
   |_=>cases h
  |_=>cases h
 |f k=>
  cases c with
  |sc v=>
   cases v with
   |float k' n=>
    have h:(bif PE k k' then C n else D)=C x:=h;have e:k=k':=by cases k<;>cases k'<;>first | rfl | (simp[PE]at h)
    subst e;have e:PE k k=N:=by cases k<;>rfl
    rw[e]at h;cases h;rfl
   |_=>cases h
  |_=>cases h
 |l t=>
  cases c with
  |ro t' y=>obtain⟨rfl,rfl⟩:=Ar8 (show Ajv T t' t y=C x from h);rfl
  |_=>cases h
def Ap1{T:Nat→Type}:∀{l:List Sk}{cs:List (Cv T)}{x:SkL T l},Alk l cs=C x→Qm l x=cs
 |[],[],_,_=>rfl
 |a::t,c::cs,x,h=>by
  simp only[Alk]at h;split at h
  ·rename_i y z hy hz;cases h;simp only[Qm,Sk.dec_ok hy,Ap1 hz]
  ·cases h
section
variable{P:Program}
def tn:∀p∈([]:List (Nat×Fe G)),Gn P G p.1 p.2:=λ_ h=>absurd h (h3_)
def tc{g:Nat}{e:Fe G}{l:List (Nat×Fe G)}(h:Gn P G g e)(t:∀p∈l,Gn P G p.1 p.2):∀p∈(g,e)::l,Gn P G p.1 p.2:=List.forall_mem_cons.2 ⟨h,t⟩
def an0{Q:Nat→Code→Prop}{n:Nat}{l:List Code}(h:l=[]):IT Q n l:=h▸Ag
variable(cx:Ctx P G){l:List (Nat×Fe G)}(hl:∀p∈l,Gn P G p.1 p.2)(jn:Nat→Option SL){lp:Nat→St G→M (Ex×St G)}
include cx hl in
theorem lk(n:Nat){nt k:Nat}{c:Code}(S:H)(E:SL){L:S.T G→Option (GA G E)}{R:S.T G→Option (Sum (S.T G) (GA G E))}(hL:L=Cd R DN)(hP:lp k=lpX S E L)(hin:IT (λk c=>LoopOK P G nt (lp k) c) n (BJ c))
  (hR:∀x,Xi (cfQ l) lp jn nt n c S E x=R x):LoopOK P G nt (lp k) c:=
 Bh8 cx.ok cx.eqok cx.hm hl S E R (hL▸hP) hin hR
include cx hl in
theorem fk {g : Nat} {fn : Func} (hfn : P.funcs[g]? = C fn) {e : Fe G} (hc : (!(fn.name == "runtime.NumGoroutine") && Nat.ble e.I.tm.length fn.ntmps) = N) (hbody : fn.body = C (BV fn)) (hrs : fn.results.toList = e.rs)
  (hlp:IT (λk c=>LoopOK P G fn.ntmps (lp k) c) 0 (BJ (BV fn))) (hF:∀x,UY (cfQ l) lp jn fn.ntmps (BV fn) e.I e.E x=e.F x):Gn P G g e:=by
 rw[e_,a2_]at hc;exact Brh cx.ok cx.eqok cx.hm hl hfn hc.1 hbody hrs hc.2 (Aco hlp) hF
end
end Go.Ab
namespace Go.Ab
structure TyD where
 A:Type
 d:A
def Atx:List (Nat×TyD)→Nat→TyD
 |[],_=>⟨Unit,()⟩
 |p::r,t=>bif aA p.1 t then p.2 else Atx r t
@[reducible] def TOf(tys:List (Nat×TyD))(t:Nat):Type:=(Atx tys t).A
structure Ent(T:Nat→Type)(t:Nat) where
 ty:Ty
 sz:Nat
 zero:List Value
 enc:T t→List (Cv T)
 dec:List (Cv T)→Option (T t)
 flat:Bool
structure Ent1(T:Nat→Type) where
 t:Nat
 e:Ent T t
def Aj6(T:Nat→Type)(t:Nat):Ent T t:=⟨.no,0,[],λ_=>[],λ_=>D,false⟩
def Nm{T:Nat→Type}:List (Ent1 T)→(t:Nat)→Ent T t
 |[],t=>Aj6 T t
 |p::r,t=>if h:p.t=t then h▸p.e else Nm r t
def PO(tys:List (Nat×TyD))(l:List (Ent1 (TOf tys)))(gl:Nat→Option ((t:Nat)×TOf tys t):=λ_=>D)(ext:Nat→Nat:=λ_=>0):Sig:=
 {T:=TOf tys
  ty:=λt=>(Nm l t).ty
  sz:=λt=>(Nm l t).sz
  zero:=λt=>(Nm l t).zero
  enc:=λt=>(Nm l t).enc
  dec:=λt=>(Nm l t).dec
  dfl:=λt=>(Atx tys t).d
  flat:=λt=>(Nm l t).flat
  gl:=gl
  ext:=ext }
def Atc:List (Nat×Nat)→Nat→Nat
 |[],_=>0
 |p::r,g=>bif aA p.1 g then p.2 else Atc r g
def plain(T:Nat→Type)(t:Nat)(ty:Ty)(sz:Nat)(zero:List Value):Ent1 T:=⟨t,⟨ty,sz,zero,λ_=>[],λ_=>D,false⟩⟩
variable{P:Program}
def Ba5(P:Program)(G:Sig)(t:Nat):Ty→Prop
 | .no=>True
 | .bool=>P.underlying t=C .bool
 | .int k=>P.underlying t=C (.int k)
 | .flt k=>P.underlying t=C (.float k)
 | .str=>P.underlying t=C .string
 | .sl e=>P.underlying t=C (.slice e)∧OD (G.ty e)=false∧(∃i,P.info? e=C i∧Nat.ble i.bytes 4096=N)∧∀x,(G.enc e x).length=G.sz e
 | .pt e=>P.underlying t=C (.pointer e)
 | .fn=>∃a b c,P.underlying t=C (.func a b c)
 | .st fs=>∃fields,P.underlying t=C (.struct fields)∧fields.toList.map (λf=>(f.offset,f.type))=fs∧fs.all (λp=>!OD (G.ty p.2))=N
 | .arr n e=>P.underlying t=C (.array n e)∧OD (G.ty e)=false
def Yy{T:Nat→Type}:Cv T→Bool
 | .sc _ | .ro _ _=>N
 |_=>false
def Ads{T:Nat→Type}:Cv T→Bool
 | .sc _=>N
 |_=>false
structure EntOK(P:Program)(G:Sig)(t:Nat)(e:Ent G.T t):Prop where
 ty:Ba5 P G t e.ty
 info:e.ty≠ .no→∃i z,P.info? t=some i∧i.size=e.sz∧i.zero=some z∧z.cells.toList=e.zero
 pos:e.ty≠ .no→Nat.ble 1 e.sz=true
 nosz:e.ty=.no→e.sz=0
 zsc:e.zero.all Kw=true
 zlen:e.zero.length=e.sz
 encl:∀x,(e.enc x).length≤e.sz
 encdec:∀cs x,e.dec cs=some x→e.enc x=cs
 encd:∀x,(e.enc x).all Yy=true
 flatd:e.flat=true→∀x,(e.enc x).all Ads=true
 u8d:∀x y,(e.enc x).map u8C=(e.enc y).map u8C
def Bb6{G:Sig}(t:Nat):EntOK P G t (Aj6 G.T t):=⟨trivial,λh=>absurd rfl h,λh=>absurd rfl h,λ_=>rfl,rfl,rfl,λ_=>y_ _,λcs x h=>by simp[Aj6]at h,λ_=>rfl,λ_ _=>rfl,λ_ _=>rfl⟩
def Us{T:Nat→Type}{Q:(t:Nat)→Ent T t→Prop}(h0:∀t,Q t (Aj6 T t)):∀{l:List (Ent1 T)},(∀p∈l,Q p.t p.e)→∀t,Q t (Nm l t)
 |[],_,t=>h0 t
 |p::r,h,t=>by
  unfold Nm;split
  ·rename_i e;subst e;exact h p σ
  ·exact Us h0 (λq hq=>h q (by simp[hq])) t
def WQ{y:Ty}(h:OD y=false):y≠ .no:=by intro e;subst e;simp[OD]at h
def Als{P:Program}:∀{l:List (Nat×Nat)},(∀p∈l,Bed P p.1 (Bb9 p.2))→Aq6 P (Atc l)
 |[],_,g,h=>absurd rfl h
 |p::r,h,g,hg=>by
  unfold Atc at hg⊢;cases hb:aA p.1 g with
  |true=>rw[d_];rw[← AW.1 hb];exact h p σ
  |false=>rw[hb,c_]at hg;rw[c_];exact Als (λq hq=>h q (by simp[hq])) g hg
def Bdt{tys:List (Nat×TyD)}{l:List (Ent1 (TOf tys))}{gl:Nat→Option ((t:Nat)×TOf tys t)}{ext:Nat→Nat}(h:∀p∈l,EntOK P (PO tys l gl ext) p.t p.e)(hx:Aq6 P ext):SigOK P (PO tys l gl ext):=by
 have key:∀t,EntOK P (PO tys l gl ext) t (Nm l t):=Us (T:=TOf tys) (Q:=λt e=>EntOK P (PO tys l gl ext) t e) (λt=>Bb6 t) h;have tyOf:∀t,Ba5 P (PO tys l gl ext) t ((PO tys l gl ext).ty t):=λt=>(key t).ty;refine⟨λt e=>?_,λt k e=>?_,λt k e=>?_,λt e=>?_,λt e he=>?_,λt e he=>?_,λt e=>?_,λt fs e=>?_,λt n e he=>?_,λt=>(key t).info,λt ht=>?_,λt=>(key t).nosz,λt v hv=>?_,λt=>(key t).zlen,λt=>(key t).encl,λt=>(key t).encdec,λt x c hc=>?_,λt x c hf hc=>?_,λt=>(key t).u8d,hx⟩
 ·have:=tyOf t;rw[e]at this;exact this
 ·have:=tyOf t;rw[e]at this;exact this
 ·have:=tyOf t;rw[e]at this;exact this
 ·have:=tyOf t;rw[e]at this;exact this
 ·have:=tyOf t;rw[he]at this
  obtain⟨h1,h2,⟨i,h3,h4⟩,h5⟩:=this;exact⟨h1,WQ h2,⟨i,h3,G_ h4⟩,h5⟩
 ·have:=tyOf t;rw[he]at this;exact this
 ·have:=tyOf t;rw[e]at this;exact this
 ·have:=tyOf t;rw[e]at this
  obtain⟨fields,h1,h2,h3⟩:=this;refine⟨fields,h1,h2,λo u hou=>WQ ?_⟩
  have:=I_.1 h3 (o,u) hou
  simpa using this
 ·have:=tyOf t;rw[he]at this;exact⟨this.1,WQ this.2⟩
 ·exact G_ ((key t).pos ht)
 ·exact I_.1 (key t).zsc v hv
 ·have:=I_.1 ((key t).encd x) c hc
  cases c with
  |sc v=>exact .inl ⟨v,rfl⟩
  |ro t' l=>exact .inr ⟨t',l,rfl⟩
  |_=>simp[Yy]at this
 ·have:=I_.1 ((key t).flatd hf x) c hc
  cases c with
  |sc v=>exact⟨v,rfl⟩
  |_=>simp[Ads]at this
end Go.Ab
