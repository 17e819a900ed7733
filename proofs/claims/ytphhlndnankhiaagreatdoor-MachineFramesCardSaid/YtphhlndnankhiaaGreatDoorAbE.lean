import Derived.Test.YtphhlndnankhiaaGreatDoorAbD
import Derived.LoopN
set_option linter.all false
open Option renaming some->C,none->D
open Go.Ab renaming Spec->H
open Go.Ab.Cv renaming ows->J
open Bool renaming true->N
open Nat renaming beq->aA
namespace Go.Ab
variable{G:Sig}
section
variable{P:Program}(ok:SigOK P G)(eqok:EqOK P G){cf:CK G}(cfok:CfOK P G cf){nt:Nat}{drawn:Array Oper→St G→M (St G)}(dok:DrawOK P G nt drawn)
 {lp:Nat→St G→M (Ex×St G)}{kl:Nat→List Nat}{jn:Nat→Option (List (Ex×H))}
include ok eqok cfok dok in
theorem Ai3{S:H}{E:List (Ex×H)}{c:Code}{n:Nat}(hl:∀(k:Nat) c',(BJ c)[k]?=C c'→LoopOK P G nt (lp (n+k)) c'){cx:Cx}(hnt:cx.nt=nt)(hnu:∀n y,cx.nu0 n=C y→lo≤n)
  {y:Gx G E}{ex:Ex}{st':St G}(hy:Hb E y C=C (ex,st')) {Q:Exit→Act→World→Prop}(hQ:∀e a' w',ExR ex e→Rel G cx st' a' w'→Q e a' w') :
  ∀(f:Nat) (x:S.T G) (a:Act) (w:World),BY (RM S E (Cz cf nt drawn lp kl jn n c)) f x=C y→Rel G cx (S.mk' x) a w→Code.rounds P c Q f a w
 |0,_,_,_,h,_=>by simp[BY]at h
 |f+1,x,a,w,h,r=>by
  rw[rounds_succ];have hlaw:=EX cfok dok (kl:=kl) (jn:=jn) c n (S.mk' x) hl;simp only[BY]at h;have hround:RM S E (Cz cf nt drawn lp kl jn n c) x=(Cz cf nt drawn lp kl jn n c (S.mk' x) _ C).bind λp=>Ann S E p.1 p.2:=hlaw _ _;rw[hround]at h;cases hv:Cz cf nt drawn lp kl jn n c (S.mk' x) _ C with
  |none=>rw[hv]at h;simp[Ry]at h
  |some p=>
   obtain⟨e,st1⟩:=p;rw[hv]at h;have h:Ry (BY (RM S E (Cz cf nt drawn lp kl jn n c)) f) (Ann S E e st1)=C y:=h;refine GK ok eqok cfok dok hnt hnu c n _ st1 e a w _ hl hv r λe' a' w' he r'=>?_;have hout:∀z,Ij E e st1=C z→z=y→Q e' a' w':=by intro z hz e1;subst e1;obtain⟨st2,h2,h3⟩:=Va hnu E hz r' C _ hy;simp at h2;obtain⟨rfl,rfl⟩:=h2;exact hQ _ _ _ he h3
   have hiter:∀o:Option (Sum (S.T G) (Gx G E)),Ry (BY (RM S E (Cz cf nt drawn lp kl jn n c)) f) o=C y→(∃x1,o=C (.inl x1)∧BY (RM S E (Cz cf nt drawn lp kl jn n c)) f x1=C y)∨o=C (.inr y):=by
    intro o ho;unfold Ry at ho;split at ho
    ·exact .inl ⟨_,rfl,ho⟩
    ·simp at ho;subst ho;exact .inr rfl
    ·simp at ho
   have hrest:∀(hne:e≠ .normal),Ann S E e st1=(match Ij E e st1 with | some y=>C (Sum.inr (α:=S.T G) y) | none=>D):=by
    intro hne;cases e with
    |normal=>exact absurd rfl hne
    |exit i=>rfl
    |ret=>rfl
   by_cases hne:e=.normal
   ·subst hne;have hn:Ann S E .normal st1=(match S.take st1 with | some x=>C (Sum.inl (β:=Gx G E) x) | none=>D):=rfl;rw[KI he];rcases hiter _ h with⟨x1,h1,h2⟩ | h1
    ·rw[hn]at h1;split at h1
     ·rename_i x2 hx2
      have:x2=x1:=by simpa using h1
      subst this;exact Ai3 hl hnt hnu hy hQ f x2 a' w' h2 (Spec.take_rel hx2 r' hnu)
     ·simp at h1
    ·rw[hn]at h1;split at h1<;>simp at h1
   ·have hr:=hrest hne;rcases hiter _ h with⟨x1,h1,h2⟩ | h1
    ·rw[hr]at h1;split at h1<;>simp at h1
    ·rw[hr]at h1;split at h1
     ·rename_i z hz;have hz2:=hout z hz (by simpa using h1);cases e with
      |normal=>exact absurd rfl hne
      |exit i=>rw[WI he]at hz2⊢;exact hz2
      |ret=>rw[SU he]at hz2⊢;exact hz2
     ·simp at h1
include ok eqok cfok dok in
theorem Bqq{S:H}{E:List (Ex×H)}{c:Code}{n:Nat}(hl:∀(k:Nat) c',(BJ c)[k]?=C c'→LoopOK P G nt (lp (n+k)) c'){L:S.T G→Option (Gx G E)}
  (hL:∀x y,L x=C y→∃f,BY (RM S E (Cz cf nt drawn lp kl jn n c)) f x=C y):LoopOK P G nt (lpX S E L) c:=by
 refine⟨λst R k=>?_,λst ex st' h cx a w Q hnt hnu r hQ=>?_⟩
 ·unfold lpX;cases S.take st with
  |none=>rfl
  |some x=>
   simp only;cases L x with
   |none=>rfl
   |some y=>exact OI E y k
 ·unfold lpX at h;cases hx:S.take st with
  |none=>rw[hx]at h;simp at h
  |some x=>
   rw[hx]at h;simp only at h;cases hy:L x with
   |none=>rw[hy]at h;simp at h
   |some y=>rw[hy]at h;obtain⟨f,hf⟩:=hL x y hy;exact wp_loop_rounds f (Ai3 ok eqok cfok dok hl hnt hnu h hQ f x a w hf (Spec.take_rel hx r hnu))
end
end Go.Ab
namespace Go.Ab
variable{G:Sig}
variable{h:Nat→Option (Blk G.T)}{Q:Nat→Code→Prop}{l:List (Nat×Fe G)}{ν:Nat→Option Value}{g:Nat→Option Nat}{n:Nat}{ns:List Nat}{c:Cv G.T}{P:Program}{v:Value}
section
variable{h h':Nat→Option (Blk G.T)}
def Ai4{t:Nat}(hh:h' n=h n):Xn h' n t=Xn h n t:=by unfold Xn;rw[hh]
def Ajf{s:CSh}(hh:∀n∈c.ows,h' n=h n):s.take h' c=s.take h c:=by
 cases c with
 |own n=>
  have:=hh n (by simp[J])
  cases s with
  |own m t=>simp only[CSh.take];rw[Ai4 this]
  |ro t=>simp only[CSh.take];rw[Ai4 this]
  |_=>rfl
 |sc v=>cases s<;>first | rfl | (cases v<;>rfl)
 |_=>cases s<;>rfl
def Zl:∀{s:List CSh}{cs:List (Cv G.T)},(∀c∈cs,∀n∈c.ows,h' n=h n)→KR h' s cs=KR h s cs
 |[],[],_=>rfl
 |[],_::_,_=>rfl
 |_::_,[],_=>rfl
 |s::ss,c::cs,hh=>by simp only[KR];rw[Ajf (hh c σ),Zl λc hc=>hh c (by simp[hc])]
def Baw{s:PSh}{x:Pv G.T}(hh:∀c∈x.cells,∀n∈c.ows,h' n=h n):s.take h' x=s.take h x:=by
 cases s with
 |one s=>cases x with
  |one c=>exact Ajf (hh c (by simp[Pv.cells]))
  |agg cs=>rfl
 |agg ss=>cases x with
  |one c=>rfl
  |agg cs=>exact Zl hh
def Afc{tm:List (Nat×Sv G.T)}(hh:∀k x,get tm k=C (.p x)→∀c∈x.cells,∀n∈c.ows,h' n=h n):∀(s:List (Nat×PSh)),Kh h' tm s=Kh h tm s
 |[]=>rfl
 |p::t=>by
  simp only[Kh];cases hg:get tm p.1 with
  |none=>rfl
  |some v=>
   cases v with
   |tup _=>rfl
   |p c=>simp only;rw[Baw (hh _ _ hg),Afc hh t]
def Afb:∀(s:List (Nat×List CSh)),(∀n∈AF s,h' n=h n∧∀cs,h n=C (.cells cs)→∀c∈cs,∀n∈c.ows,h' n=h n)→Kg h' s=Kg h s
 |[],_=>rfl
 |p::t,hh=>by
  have h1:=hh p.1 (by simp[AF]);simp only[Kg];rw[h1.1];cases hg:h p.1 with
  |none=>rfl
  |some k=>
   cases k with
   |row _ _=>rfl
   |cells cs=>simp only;rw[Zl (h1.2 cs hg),Afb t λn hn=>hh n (by simp[AF,hn])]
end
def Arg{T:Nat→Type}{c c':Cv T}(h:c.ren (Acd ns) g=C c'):∀n∈c'.ows,n∈c.ows∧n<lo∧n∉ns:=by
 cases c with
 |own n=>
  simp only[Cv.ren]at h;split at h
  ·rename_i m hm;cases h;obtain⟨rfl,h2,h3⟩:=Ai5 hm;intro n hn;simp[J]at hn⊢;subst hn;exact⟨rfl,h2,h3⟩
  ·cases h
 |ptr n off=>simp only[Cv.ren]at h;split at h<;>cases h;simp[J]
 |clo k p q=>simp only[Cv.ren]at h;split at h<;>cases h;simp[J]
 |np n t=>simp only[Cv.ren]at h;split at h<;>cases h;simp[J]
 |sc v=>cases h;simp[J]
 |ro t l=>cases h;simp[J]
 |rp t x o=>cases h;simp[J]
 |pd _ _ _ _ _=>cases h
 |pr _ _ _ _=>cases h
 |sa _ _ _=>cases h
def An2{T:Nat→Type}{cs cs':List (Cv T)}(h:Dn (Cv.ren (Acd ns) g) cs=C cs'):∀c'∈cs',∀n∈c'.ows,(∃c∈cs,n∈c.ows)∧n<lo∧n∉ns:=by
 intro c' hc' n hn;obtain⟨m1,m2⟩:=CE _ _ h;obtain⟨i,hi⟩:=e9_.1 hc';have hi':i<cs.length:=by have:=(g_.1 hi).1;omega
 obtain⟨z,hz,hfz⟩:=m2 i _ (i_ hi');rw[hi]at hz;cases hz;obtain⟨q1,q2⟩:=Arg hfz n hn;exact⟨⟨cs[i],b1_ hi',q1⟩,q2⟩
def Aff{ns:List Nat}{h1 h1':Nat→Option (Blk G.T)}{nm:Nat}{rd rd':List Nat}{args:List (Pv G.T)}{g:Nat}(hrd:rd'=rd):∀(l:List (Nat×Fe G)),(∀I:H,Rt I h1' ns.length args=Rt I h1 ns.length args)→
  Uf ns h1' nm rd' args g l=Uf ns h1 nm rd args g l
 |[],_=>rfl
 |p::r,h=>by subst hrd;funext R k;simp only[Uf];rw[h p.2.I,Aff rfl r h]
def Bhw(l:List (Nat×Fe G)):Acq (cfP l):=by
 intro g args h h' nm out ha hh;unfold cfP at ha⊢;generalize hns:Xl args=ns at ha⊢;obtain⟨args',hargs',h1⟩:=M.bindopt ha;obtain⟨hnd,h2⟩:=M.bindneed h1;have hrd:out.rd=ns++UO ns h args:=by obtain⟨p,_,_,t,_,hc⟩:=Vb h2;obtain⟨y,p,s,bl,_,_,_,hf⟩:=Adb hc;obtain⟨_,_,_,_,_,_,_,_,_,rfl,_⟩:=Ah3 hf;rfl
 rw[hrd]at hh;have hn1:∀n∈ns,h' n=h n:=λn hn=>hh n (by simp[hn]);have hown:UO ns h' args=UO ns h args:=by
  unfold UO;congr 1
  have:∀l:List Nat,(∀n∈l,h' n=h n)→(l.flatMap λn=>match h' n with | some (.cells cs)=>cs.flatMap J | _=>[])=l.flatMap λn=>match h n with | some (.cells cs)=>cs.flatMap J | _=>[]:=by
   intro l;induction l with
   |nil=>intro _;rfl
   |cons a t ih=>intro hl;simp only[a1_];rw[hl a σ,ih λn hn=>hl n (by simp[hn])]
  exact this ns hn1
 have hblk:∀(i n:Nat),ns[i]?=C n→FG ns h' (lo+i)=FG ns h (lo+i):=by intro i n hi;unfold FG;rw[Na.2 (by omega:lo≤lo+i)];simp only[d_,b6_,hi];rw[hn1 n (v_ hi)]
 have hrow:∀n,n<lo→(n∈ns∨n∈UO ns h args)→FG ns h' n=FG ns h n:=by
  intro n hn hm;unfold FG;cases hb:Nat.ble lo n with
  |true=>have:=Na.1 hb;omega
  |false=>
   simp only[c_];cases hc:has ns n with
   |true=>rfl
   |false=>simp only[c_];rw[hh n (by rcases hm with hm | hm<;>simp[hm])]
 have htake:∀I:H,Rt I (FG ns h') ns.length args'=Rt I (FG ns h) ns.length args':=by
  intro I;unfold Rt;cases hb:aA args'.length I.tm.length&&aA ns.length I.hp.length&&VT lo (AF I.hp)with
  |false=>rfl
  |true=>
   simp only[e_,AT]at hb;obtain⟨⟨hb1,hb2⟩,hb3⟩:=hb;have hl:∀l:List (Nat×List CSh),(AF l).length=l.length:=by intro l;induction l with | nil=>rfl | cons p t ih=>simp[AF,ih]
   have e1:Kh (FG ns h') (Jp 0 (args'.map Sv.p)) I.tm=Kh (FG ns h) (Jp 0 (args'.map Sv.p)) I.tm:=by
    refine Afc (λk x hk c hc n hn=>?_) I.tm;rw[WT]at hk;simp at hk;have hx:=v_ hk;obtain⟨m1,m2⟩:=CE _ _ hargs';obtain⟨i,hi⟩:=e9_.1 hx;have hi':i<args.length:=by have:=(g_.1 hi).1;omega
    obtain⟨z,hz,hfz⟩:=m2 i _ (i_ hi');rw[hi]at hz;cases hz;have key:(∃c0∈(args[i]).cells,n∈c0.ows)∧n<lo∧n∉ns:=by
     generalize args[i]=u at hfz;cases u with
     |one c0=>
      simp only[Pv.ren]at hfz;split at hfz
      ·rename_i c1 hc1;cases hfz;simp[Pv.cells]at hc;subst hc;obtain⟨q1,q2⟩:=Arg hc1 n hn;exact⟨⟨c0,by simp[Pv.cells],q1⟩,q2⟩
      ·cases hfz
     |agg cs=>
      simp only[Pv.ren]at hfz;split at hfz
      ·rename_i cs1 hcs1;cases hfz;exact An2 hcs1 c hc n hn
      ·cases hfz
    obtain⟨⟨c0,k1,k2⟩,k3,k4⟩:=key;refine hrow n k3 (.inr ?_);unfold UO;exact p_.2 (.inl (c9_.2 ⟨args[i],b1_ hi',c9_.2 ⟨c0,k1,k2⟩⟩))
   have e2:Kg (FG ns h') I.hp=Kg (FG ns h) I.hp:=by
    refine Afb I.hp λn hn=>?_;obtain⟨i,hi⟩:=e9_.1 hn;have hni:=Vq hb3 i n hi;have hil:i<ns.length:=by have:=(g_.1 hi).1;rw[hl]at this;omega
    have hi2:=i_ hil;subst hni;refine⟨hblk i _ hi2,λcs hcs c hc n hn=>?_⟩;unfold FG at hcs;rw[Na.2 (by omega:lo≤lo+i)]at hcs;simp only[d_,b6_,hi2]at hcs;unfold Asj at hcs;split at hcs
    ·rename_i cs0 hcs0;split at hcs
     ·rename_i cs1 hcs1;cases hcs;obtain⟨⟨c0,k1,k2⟩,k3,k4⟩:=An2 hcs1 c hc n hn;refine hrow n k3 (.inr ?_);unfold UO;refine p_.2 (.inr (c9_.2 ⟨ns[i],b1_ hil,?_⟩));rw[hcs0];exact c9_.2 ⟨c0,k1,k2⟩
     ·cases hcs
    ·cases hcs
   rw[e1,e2]
 simp only[M.bind,M.opt,hargs',M.need,hnd,d_];rw[Aff (by rw[hown]) l htake];exact h2
def GB(h:Nat→Option (Blk G.T)):Cv G.T→Option (Cv G.T)
 | .sc v=>C (.sc v)
 | .ro t l=>C (.ro t l)
 | .own m=>match h m with | some (.row t l)=>C (.ro t l) | _=>D
 |_=>D
def ZF(h:Nat→Option (Blk G.T))(n ty:Nat):Option (G.T ty):=match h n with
 |some (.cells cs)=>match Dn (GB h) cs with | some cs'=>bif aA cs'.length (G.sz ty)then G.dec ty cs' else D | none=>D
 |_=>D
def TP(h:Nat→Option (Blk G.T))(n:Nat):List Nat:=match h n with
 |some (.cells cs)=>cs.flatMap J
 |_=>[]
def RK:List (Nat×Fe G)→Nat→Option Nat
 |[],_=>D
 |p::r,g=>bif aA p.1 g then match p.2.I.tm with
   |[(_,.one (.rp ty 0))]=>C ty
   |_=>RK r g
  else RK r g
def WQ(G:Sig):List (Nat×Option (Blk G.T))→Bool
 |[]=>N
 |(_,C (.row t _))::r=>G.flat t&&WQ G r
 |_::_=>false
def At2{T:Nat→Type}:Option (Sv T)→Bool
 |some s=>s.cells.all SH
 |none=>N
def Aec(l:List (Nat×Fe G))(ty n g:Nat)(h:Nat→Option (Blk G.T))(nm:Nat):M (Out G):=M.bind (M.opt (ZF h n ty)) λx=>M.bind (cfP l g [.one (.rp ty x 0)] (λ_=>D) nm) λout=>M.bind (M.need (At2 out.v&&WQ G out.d)) λ_=>M.ret ⟨out.v,out.d,out.nw,n::TP h n⟩
def cfQ(l:List (Nat×Fe G)):CK G:=λg args h nm=>match args with
 |[.one (.ptr n 0)]=>match RK l g with
  |some ty=>Aec l ty n g h nm
  |none=>cfP l g args h nm
 |_=>cfP l g args h nm
def Alp{g nm:Nat}{args:List (Pv G.T)}(hn:¬∃n ty,args=[.one (.ptr n 0)]∧RK l g=C ty):cfQ l g args h nm=cfP l g args h nm:=by
 unfold cfQ;split
 ·split
  ·rename_i n _ ty hty;exact absurd ⟨n,ty,rfl,hty⟩ hn
  ·rfl
 ·rfl
def Af0{g nm ty:Nat}(hty:RK l g=C ty):cfQ l g [.one (.ptr n 0)] h nm=Aec l ty n g h nm:=by unfold cfQ;simp only[hty]
def Am4{h':Nat→Option (Blk G.T)}(hh:∀m∈c.ows,h' m=h m):GB h' c=GB h c:=by
 cases c with
 |own m=>simp only[GB];rw[hh m (by simp[J])]
 |_=>rfl
def XF{h h':Nat→Option (Blk G.T)}:∀{cs:List (Cv G.T)},(∀m∈cs.flatMap J,h' m=h m)→Dn (GB h') cs=Dn (GB h) cs
 |[],_=>rfl
 |c::t,hh=>by simp only[a1_,p_]at hh;simp only[Dn];rw[Am4 λm hm=>hh m (.inl hm),XF λm hm=>hh m (.inr hm)]
def Aed{ty g nm:Nat}{out:Out G}(ha:Aec l ty n g h nm (Out G) C=C out):
  ∃x out1,ZF h n ty=C x∧cfP l g [.one (.rp ty x 0)] (λ_=>D) nm (Out G) C=C out1∧At2 out1.v=N∧WQ G out1.d=N∧out=⟨out1.v,out1.d,out1.nw,n::TP h n⟩:=by
 unfold Aec at ha;obtain⟨x,hx,h1⟩:=M.bindopt ha;have hl:Law (cfP l g [.one (.rp ty x 0)] (λ_=>D) nm):=Ad (Bc _) λ_=>Ad (Ax _) λ_=>Aby _ _ _ _ _ _ _;obtain⟨out1,h2,h3⟩:=hl.spec h1;obtain⟨hf,h4⟩:=M.bindneed h3;rw[e_]at hf;simp[M.ret]at h4;exact⟨x,out1,hx,h2,hf.1,hf.2,h4.symm⟩
def Zv(l:List (Nat×Fe G)):Acq (cfQ l):=by
 intro g args h h' nm out ha hh;by_cases hn:∃n ty,args=[.one (.ptr n 0)]∧RK l g=C ty
 ·obtain⟨n,ty,rfl,hty⟩:=hn;rw[Af0 hty]at ha⊢;obtain⟨x,out1,hx,_,_,_,rfl⟩:=Aed ha;simp only at hh;have h1:h' n=h n:=hh n σ;have e:ZF h' n ty=ZF h n ty:=by
   unfold ZF;rw[h1];cases hc:h n with
   |none=>rfl
   |some k=>
    cases k with
    |row=>rfl
    |cells cs=>
     have:∀m∈cs.flatMap J,h' m=h m:=λm hm=>hh m (by
      have:TP h n=cs.flatMap J:=by unfold TP;rw[hc]
      rw[this];simp[hm])
     simp only[XF this]
  have eo:TP h' n=TP h n:=by unfold TP;rw[h1]
  unfold Aec at ha⊢;rw[e,eo];exact ha
 ·rw[Alp hn]at ha⊢;exact Bhw l g args h h' nm out ha hh
def At3{s:Sv G.T}{S S':Nat→Prop}{h:Array Obj}(hf:At2 (C s)=N)(r:Rs G ν S h s v):Rs G ν S' h s v:=Arl (λc hc=>K_.1 hf c hc) r
def Adt:∀{d:List (Nat×Option (Blk G.T))}{h:Nat→Option (Blk G.T)}{n:Nat}{k:Blk G.T},WQ G d=N→n∈DT d→BD h d n=C k→∃t l,k=.row t l∧G.flat t=N
 |[],_,_,_,_,hn,_=>by simp[DT]at hn
 |(m,q)::t,h,n,k,hf,hn,hk=>by
  cases q with
  |none=>simp[WQ]at hf
  |some q=>
   cases q with
   |cells cs=>simp[WQ]at hf
   |row u l=>
    simp only[WQ,e_]at hf;simp only[BD]at hk;by_cases ht:n∈DT t
    ·exact Adt hf.2 ht hk
    ·rw[KC t _ n ht]at hk;simp only[DT,q_]at hn;have hn:n=m:=hn.resolve_right ht;subst hn;simp at hk;exact⟨u,l,hk.symm,hf.1⟩
def Bd9(ok:SigOK P G){S S':Nat→Prop}{h:Array Obj}{t:Nat}{l:List (G.T t)}(hf:G.flat t=N)(r:Rb G ν S h n (.row t l)):Rb G ν S' h n (.row t l):=by
 rcases r with r | ⟨b,cap,c,te,h1,h2,h3,h4,h5,h6⟩
 ·exact .inl r
 ·refine .inr ⟨b,cap,c,te,h1,h2,h3,h4,λi j x cv hx hc=>?_,h6⟩;obtain⟨v,hv,hr⟩:=h5 i j x cv hx hc;refine⟨v,hv,?_⟩;obtain⟨u,rfl⟩:=ok.flatd t x cv hf (v_ hc);cases hr with
  |sc _ hs=>exact .sc _ hs
def Bih{S S2 B:Nat→Prop}{w:World}(hr:HRel G ν S B h w)(hS:∀b,S b→S2 b){c2:Cv G.T}(hc:GB h c=C c2)(hv:Rc G ν S w.heap c v)
  (hL:∀m∈c.ows,∀z b,ν m=C z→AV z=C b→S2 b):Rd G S2 w.heap c2 v:=by
 cases c with
 |sc u=>simp[GB]at hc;subst hc;exact Rd.mono hS (λ_ _=>rfl) hv
 |ro t l=>simp[GB]at hc;subst hc;exact Rd.mono hS (λ_ _=>rfl) hv
 |own m=>
  simp only[GB]at hc;split at hc
  ·rename_i t l hm;simp at hc;subst hc;obtain⟨a,len,cap,hν,rfl⟩:=hv;rcases hr.blk m _ hm with⟨h1,rfl⟩ | ⟨b,cap',c,te,h1,h2,h3,h4,h5,h6⟩
   ·rw[h1]at hν;have hν:=L_ hν;rw[← hν];exact .nil t D 0
   ·rw[h1]at hν;have hν:=L_ hν;rw[← hν];have hcell:∀i j,i<l.length→j<G.sz t→c[0+i*G.sz t+j]?=C (c.getD (0+i*G.sz t+j) undef):=λi j hi hj=>by
     have:0+i*G.sz t+j<c.size:=by
      rw[h4];have h7:(i+1)*G.sz t≤cap'*G.sz t:=H_ _ ω;have h8:(i+1)*G.sz t=i*G.sz t+G.sz t:=by rw[a8_,Nat.one_mul]
      omega
     rw[b4_ this,z_,b4_ this];rfl
    refine .ro t l b 0 cap' c te (0,0) (λi j=>c.getD (0+i*G.sz t+j) undef) (hL m (by simp[J]) _ b h1 rfl) h2 h3 hcell λi j x cv hx hcv=>?_;obtain⟨u,hu,hru⟩:=h5 i j x cv hx hcv
    have:c.getD (0+i*G.sz t+j) undef=u:=by rw[n_,z_,hu];rfl
    rw[this];exact Rd.mono hS (λ_ _=>rfl) hru
  ·cases hc
 |_=>simp[GB]at hc
def PL(ok:SigOK P G)(hT:∀p∈l,GO P G p.1 p.2):CfOK P G (cfQ l):=by
 have hP:=Bl1 ok hT;refine⟨λg args h nm=>?_,λg args h nm out hout=>?_⟩
 ·by_cases hn:∃n ty,args=[.one (.ptr n 0)]∧RK l g=C ty
  ·obtain⟨n,ty,rfl,hty⟩:=hn;rw[Af0 hty];exact Ad (Bc _) λ_=>Ad (hP.law _ _ _ _) λ_=>Ad (Ax _) λ_=>Ah _
  ·rw[Alp hn];exact hP.law _ _ _ _
 by_cases hn:∃n ty,args=[.one (.ptr n 0)]∧RK l g=C ty
 ·obtain⟨n,ty,rfl,hty⟩:=hn;rw[Af0 hty]at hout;obtain⟨x,out1,hx,hcall,hfv,hfd,rfl⟩:=Aed hout;obtain⟨hent,hspec⟩:=hP.calls _ _ _ _ _ hcall;refine⟨hent,λν S B w vals hr hB hfr hvals=>?_⟩;simp only at hfr;unfold ZF at hx;cases hcs:h n with
  |none=>rw[hcs]at hx;simp at hx
  |some k=>
  cases k with
  |row t l=>rw[hcs]at hx;simp at hx
  |cells cs=>
  rw[hcs]at hx;simp only at hx;cases hmo:Dn (GB h) cs with
  |none=>rw[hmo]at hx;simp at hx
  |some cs'=>
  rw[hmo]at hx;simp only at hx;cases hln:aA cs'.length (G.sz ty)with
  |false=>rw[hln]at hx;simp at hx
  |true=>
  rw[hln]at hx;simp only[d_]at hx;have hln:=AT.1 hln;have hxe:=ok.encdec ty cs' x hx;obtain⟨hm1,hm2⟩:=CE _ _ hmo;obtain⟨v,t,rfl,hv,ht⟩:=hvals.inv;have ht:=ht.inv_nil;subst ht;cases hv with
  |one _ _ hv=>
  obtain⟨b,hnb,rfl⟩:=hv;simp only at hnb;obtain⟨b',c,te,q1,q2,q3,_⟩:=hr.blk n _ hcs;rw[hnb]at q1;have q1:=L_ q1;obtain rfl:b=b':=by injection q1 with q1;injection q1 with q1;injection q1
  have hsz:∀m z c,h m≠D→ν m=C z→AV z=C c→c<w.heap.size:=λm z c hm hz hc=>by
   cases hk:h m with
   |none=>exact absurd hk hm
   |some k=>
    have hb:=hr.blk m k hk;cases k with
    |cells cs=>
     obtain⟨b1,c1,te1,r1,r2,_⟩:=hb;rw[hz]at r1;have r1:=L_ r1;subst r1
     have:b1=c:=by simpa[AV]using hc
     subst this;exact(N_.1 r2).1
    |row t l=>
     rcases hb with⟨r1,_⟩ | ⟨b1,cap,c1,te1,r1,r2,_⟩
     ·rw[hz]at r1;have r1:=L_ r1;subst r1;simp[AV]at hc
     ·rw[hz]at r1;have r1:=L_ r1;subst r1
      have:b1=c:=by simpa[AV]using hc
      subst this;exact(N_.1 r2).1
  let S2:Nat→Prop:=λq=>S q∨∃m z,h m≠D∧ν m=C z∧AV z=C q
  have hS2:∀q,S q→S2 q:=λq hq=>.inl hq;have hown:∀m,m∈cs.flatMap J→h m≠D:=λm hm=>by obtain⟨c1,hc1,hmc⟩:=c9_.1 hm;obtain⟨i,hi⟩:=List.getElem?_of_mem hc1;obtain⟨y,_,hy⟩:=hm2 i c1 hi;cases c1<;>simp[J]at hmc;subst hmc;intro hno;simp[GB,hno]at hy
  have hrp:Rd G S2 w.heap (.rp ty x 0) (.pointer (C ⟨b,0,D⟩)):=by
   refine .rp ty x 0 b 0 c te (0,0) (λj=>c.getD (0+j) undef) (.inr ⟨n,_,by rw[hcs];simp,hnb,rfl⟩) q2 (λj hj=>?_) λj cv hcv=>?_
   ·have:0+j<c.size:=by have h9:cs.length=c.size:=(by have h9:=q3.1;rwa [Array.length_toList]at h9);omega
    rw[b4_ this,z_,b4_ this];rfl
   ·rw[hxe]at hcv;have hj:j<cs.length:=by have:=(g_.1 hcv).1;omega
    obtain⟨y,hy1,hy2⟩:=hm2 j _ (i_ hj);rw[hcv]at hy1;have hy1:=L_ hy1;subst hy1;obtain⟨u,hu⟩:∃u,c.toList[j]?=C u:=⟨_,i_ (by rw[← q3.1];exact hj)⟩
    have hru:=q3.2 j _ u (i_ hj) hu
    have:c.getD (0+j) undef=u:=by rw[n_,z_];rw[Array.getElem?_toList]at hu;rw[hu];rfl
    simp only[this];exact Bih hr hS2 hy2 hru λm hm z q hz hq=>.inr ⟨m,z,hown m (c9_.2 ⟨_,b1_ hj,hm⟩),hz,hq⟩
  have hst:∀q,S2 q→q<w.heap.size:=λq hq=>by
   rcases hq with hq | ⟨m,z,q1,q2,q3⟩
   ·exact hr.stay q hq
   ·exact hsz m z q q1 q2 q3
  have hr2:HRel G ν S2 (λq=>w.heap.size≤q) (λ_=>D) w:={
   blk:=λm k hk=>(by cases hk)
   apart:=λm1 m2 y z q hk=>absurd rfl hk
   own:=λm y q hk=>absurd rfl hk
   stay:=hst
   gl:=hr.gl.mono hS2 λ_ _=>rfl }
  refine(hspec ν S2 (λq=>w.heap.size≤q) w _ hr2 (λq hq=>hq) hfr (F2.cons (.one _ _ hrp) .nil)).mono λe w' ⟨v',ν',S',he,p⟩=>⟨v',ν',S,he,?_⟩
  have hfrm:∀q,q<w.heap.size→w'.heap[q]?=w.heap[q]?:=λq hq=>p.frame q hq λm _ hm=>absurd rfl hm;have le:Le ν ν' S S w.heap w'.heap:=⟨p.nu,λ_ h=>h,λq hq=>hfrm q (hr.stay q hq)⟩
  have hin:∀m,m∈DT out1.d→BD h out1.d m=BD (λ_=>D) out1.d m:=λm hm=>VM _ _ _ _ (.inr hm);have hold:∀m z,h m≠D→ν' m=C z→ν m=C z:=λm z hm hz=>by
   cases hk:h m with
   |none=>exact absurd hk hm
   |some k=>
    have hb:=hr.blk m k hk;cases k with
    |cells cs=>obtain⟨b1,c1,te1,r1,_⟩:=hb;rw[p.nu _ _ r1]at hz;rw[r1];exact hz
    |row t l=>rcases hb with⟨r1,_⟩ | ⟨b1,cap,c1,te1,r1,_⟩<;>(rw[p.nu _ _ r1]at hz;rw[r1];exact hz)
  refine⟨p.nu,p.new,λ_ h=>h,λ_ h=>.inl h,⟨λm k hk=>?_,λm1 m2 y z q h1 h2 hy hz e1 e2=>?_,λm y q hm hy e=>?_,λq hq=>?_,hr.gl.mono (λ_ h=>h) λq hq=>hfrm q (hr.stay q hq)⟩,λs hs=>?_,p.size,λq hq _=>hfrm q hq,p.env⟩
  ·by_cases hm:m∈DT out1.d
   ·have hk':=hk;rw[hin m hm]at hk';have hb:=p.rel.blk m k hk';obtain⟨t,l,rfl,hft⟩:=Adt hfd hm hk;exact Bd9 ok hft hb
   ·simp only at hk;rw[KC _ _ _ hm]at hk;exact(hr.blk m k hk).mono le λz q hz hq=>hfrm q (hsz m z q (by rw[hk];simp) hz hq)
  ·by_cases i1:m1∈DT out1.d
   ·rw[show BD h out1.d m1=_ from hin m1 i1]at h1;by_cases i2:m2∈DT out1.d
    ·rw[show BD h out1.d m2=_ from hin m2 i2]at h2;exact p.rel.apart m1 m2 y z q h1 h2 hy hz e1 e2
    ·rw[show BD h out1.d m2=_ from KC _ _ _ i2]at h2;have g1:=(p.rel.own m1 y q h1 hy e1).2;have g2:=hsz m2 z q h2 (hold m2 z h2 hz) e2;omega
   ·rw[show BD h out1.d m1=_ from KC _ _ _ i1]at h1;by_cases i2:m2∈DT out1.d
    ·rw[show BD h out1.d m2=_ from hin m2 i2]at h2;have g1:=(p.rel.own m2 z q h2 hz e2).2;have g2:=hsz m1 y q h1 (hold m1 y h1 hy) e1;omega
    ·rw[show BD h out1.d m2=_ from KC _ _ _ i2]at h2;exact hr.apart m1 m2 y z q h1 h2 (hold m1 y h1 hy) (hold m2 z h2 hz) e1 e2
  ·by_cases i1:m∈DT out1.d
   ·rw[show BD h out1.d m=_ from hin m i1]at hm;have g1:=(p.rel.own m y q hm hy e).2;exact⟨λhS=>by have:=hr.stay q hS;omega,hB q g1⟩
   ·rw[show BD h out1.d m=_ from KC _ _ _ i1]at hm;exact hr.own m y q hm (hold m y hm hy) e
  ·have:=hr.stay q hq
   have:=p.size
   omega
  ·have hs:out1.v=C s:=hs;rw[hs]at hfv;exact At3 hfv (p.val s hs)
 ·rw[Alp hn]at hout;exact hP.calls _ _ _ _ _ hout
def Vk(cf:CK G)(lp:Nat→St G→M (Ex×St G))(jn:Nat→Option (List (Ex×H)))(nt:Nat)(body:Code)(I:H)(E:List (Ex×H))(x:I.T G):Option (Gx G E):=Cz cf nt (TC cf nt) lp (λ_=>[]) jn 0 body (I.mk' x) _ λp=>Ij E p.1 p.2
def Acc(cf:CK G)(lp:Nat→St G→M (Ex×St G))(jn:Nat→Option (List (Ex×H)))(nt:Nat)(n:Nat)(body:Code)(S:H)(E:List (Ex×H))(x:S.T G):Option (Sum (S.T G) (Gx G E)):=RM S E (Cz cf nt (TC cf nt) lp (λ_=>[]) jn n body) x
def DL:Nat:=18446744073709551616
@[reducible] def lp{F X Y:Type}[Ur F X Y][Un X F (Option (Sum X Y))](f:F):X→Option Y:=BY (Un.u f) DL
def Cg(f:Func):Code:=f.body.getD .skip
def TK(c:Code)(n:Nat):Code:=(BJ c)[n]?.getD .skip
section
variable{P:Program}(ok:SigOK P G)(eqok:EqOK P G)(hm:P.follows .mixedOrders=N){l:List (Nat×Fe G)}(hl:∀p∈l,GO P G p.1 p.2){lp:Nat→St G→M (Ex×St G)}{jn:Nat→Option (List (Ex×H))}
include ok eqok hm hl in
theorem Bij{nt k:Nat}{c:Code}(S:H)(E:List (Ex×H))(R:S.T G→Option (Sum (S.T G) (Gx G E)))(hP:lp k=lpX S E (BY R DL))(hin:∀(k:Nat) c',(BJ c)[k]?=C c'→LoopOK P G nt (lp (n+k)) c')
  (hR:∀x,Acc (cfQ l) lp jn nt n c S E x=R x):LoopOK P G nt (lp k) c:=by
 rw[hP];exact Bqq ok eqok (PL ok hl) (UB ok eqok (PL ok hl) (Zv l) hm) hin λx _ h=>⟨DL,by rw[show RM S E (Cz (cfQ l) nt (TC (cfQ l) nt) lp (λ_=>[]) jn n c)=R from funext hR];exact h⟩
include ok eqok hm hl in
theorem Bsh {g : Nat} {fn : Func} (hfn : P.funcs[g]? = C fn) (hname : (fn.name == "runtime.NumGoroutine") = false) (hbody : fn.body = C (Cg fn)) {e : Fe G} (hrs : fn.results.toList = e.rs) (hlen : Nat.ble e.I.tm.length fn.ntmps = N)
  (hlp:∀(k:Nat) c',(BJ (Cg fn))[k]?=C c'→LoopOK P G fn.ntmps (lp k) c') (hF:∀x,Vk (cfQ l) lp jn fn.ntmps (Cg fn) e.I e.E x=e.F x):GO P G g e:=
 Apf ok eqok (PL ok hl) hfn hname hbody hrs (Na.1 hlen) (UB ok eqok (PL ok hl) (Zv l) hm) hlp λx _ h=>(hF x).trans h
end
def IH(Q:Nat→Code→Prop)(n:Nat)(l:List Code):Prop:=∀(k:Nat) c',l[k]?=C c'→Q (n+k) c'
def Ag:IH Q n []:=λk c' h'=>by simp at h'
def Af{t:List Code}{c:Code}(h0:Q n c)(ht:IH Q (n+1) t):IH Q n (c::t):=λk c' h'=>by
 cases k with
 |zero=>simp at h';subst h';exact h0
 |succ k=>have:=ht k c' (by simpa using h');rwa [show n+(k+1)=n+1+k by omega]
def Bbx{l:List Code}(l':List Code)(h:l=l')(h':IH Q n l'):IH Q n l:=h▸h'
def Acw{l:List Code}(h:IH Q 0 l):∀(k:Nat) c',l[k]?=C c'→Q k c':=λk c' hk=>by have:=h k c' hk;rwa [n_]at this
end Go.Ab
namespace Go.Ab
variable{G:Sig}
structure Ctx(P:Program)(G:Sig):Prop where
 ok:SigOK P G
 eqok:EqOK P G
 hm:P.follows .mixedOrders=true
def Vu:PSh:=.one (.int .u64)
def ob:PSh:=.one .bool
def os:PSh:=.one .str
def op(n:Nat):PSh:=.one (.ptr n 0)
def oro(t:Nat):PSh:=.one (.ro t)
abbrev Sp:=H
abbrev SL:=List (Ex×H)
def jl(l:List (Nat×SL)):Nat→Option SL:=λn=>get l n
def lf:St G→M (Ex×St G):=λ_=>M.fail
def pl:List (St G→M (Ex×St G))→Nat→St G→M (Ex×St G)
 |[],_=>lf
 |a::_,0=>a
 |_::t,n+1=>pl t n
inductive Sk where
 |i (k:IntKind) | b | s | f (k:FloatKind) | l (t:Nat)
def Sk.T(T:Nat→Type):Sk→Type
 | .i _=>Int
 | .b=>Bool
 | .s=>ByteArray
 | .f _=>Nat
 | .l t=>List (T t)
def SkL(T:Nat→Type):List Sk→Type
 |[]=>Unit
 |a::t=>a.T T×SkL T t
def Akj(T:Nat→Type)(t t':Nat)(l:List (T t)):Option (List (T t')):=if h:t=t' then C (h▸l)else D
def Asu{T:Nat→Type}{t t':Nat}{l:List (T t)}{l':List (T t')}(h:Akj T t t' l=C l'):∃e:t=t',e▸l=l':=by
 unfold Akj at h;split at h
 ·rename_i e;simp at h;exact⟨e,h⟩
 ·simp at h
def Sk.enc{T:Nat→Type}:(a:Sk)→a.T T→Cv T
 | .i k,n=>.sc (.int k n)
 | .b,x=>.sc (.bool x)
 | .s,x=>.sc (.string x)
 | .f k,n=>.sc (.float k n)
 | .l t,x=>.ro t x
def Sk.dec{T:Nat→Type}:(a:Sk)→Cv T→Option (a.T T)
 | .i k,.sc (.int k' n)=>bif EB k k' then C n else D
 | .b,.sc (.bool x)=>C x
 | .s,.sc (.string x)=>C x
 | .f k,.sc (.float k' n)=>bif PP k k' then C n else D
 | .l t,.ro t' x=>Akj T t' t x
 |_,_=>D
def Qy{T:Nat→Type}:(l:List Sk)→SkL T l→List (Cv T)
 |[],_=>[]
 |a::t,x=>a.enc x.1::Qy t x.2
def Al1{T:Nat→Type}:(l:List Sk)→List (Cv T)→Option (SkL T l)
 |[],[]=>C ()
 |a::t,c::cs=>match a.dec c,Al1 t cs with
  |some x,C y=>C (x,y)
  |_,_=>D
 |_,_=>D
def Sk.dec_ok{T:Nat→Type}{a:Sk}{c:Cv T}{x:a.T T}(h:a.dec c=C x):a.enc x=c:=by
 cases a with
 |i k=>
  cases c with
  |sc v=>
   cases v with
   |int k' n=>
    have h:(bif EB k k' then C n else D)=C x:=h;have e:k=k':=by cases k<;>cases k'<;>first | rfl | (simp[EB]at h)
    subst e;have e:EB k k=N:=by cases k<;>rfl
    rw[e]at h;cases h;rfl
   |_=>cases h
  |_=>cases h
 |b=>
  cases c with
  |sc v=>
   cases v with
   |bool y=>cases h;rfl
   |_=>cases h
  |_=>cases h
 |s=>
  cases c with
  |sc v=>
   cases v with
   |string y=>cases h;rfl
   |_=>cases h
  |_=>cases h
 |f k=>
  cases c with
  |sc v=>
   cases v with
   |float k' n=>
    have h:(bif PP k k' then C n else D)=C x:=h;have e:k=k':=by cases k<;>cases k'<;>first | rfl | (simp[PP]at h)
    subst e;have e:PP k k=N:=by cases k<;>rfl
    rw[e]at h;cases h;rfl
   |_=>cases h
  |_=>cases h
 |l t=>
  cases c with
  |ro t' y=>obtain⟨rfl,rfl⟩:=Asu (show Akj T t' t y=C x from h);rfl
  |_=>cases h
def Aqk{T:Nat→Type}:∀{l:List Sk}{cs:List (Cv T)}{x:SkL T l},Al1 l cs=C x→Qy l x=cs
 |[],[],_,_=>rfl
 |a::t,c::cs,x,h=>by
  simp only[Al1]at h;split at h
  ·rename_i y z hy hz;cases h;simp only[Qy,Sk.dec_ok hy,Aqk hz]
  ·cases h
section
variable{P:Program}
def tn:∀p∈([]:List (Nat×Fe G)),GO P G p.1 p.2:=λ_ h=>absurd h (h2_)
def tc{g:Nat}{e:Fe G}{l:List (Nat×Fe G)}(h:GO P G g e)(t:∀p∈l,GO P G p.1 p.2):∀p∈(g,e)::l,GO P G p.1 p.2:=List.forall_mem_cons.2 ⟨h,t⟩
def an0{Q:Nat→Code→Prop}{n:Nat}{l:List Code}(h:l=[]):IH Q n l:=h▸Ag
variable(cx:Ctx P G){l:List (Nat×Fe G)}(hl:∀p∈l,GO P G p.1 p.2)(jn:Nat→Option SL){lp:Nat→St G→M (Ex×St G)}
include cx hl in
theorem lk(n:Nat){nt k:Nat}{c:Code}(S:H)(E:SL){L:S.T G→Option (Gx G E)}{R:S.T G→Option (Sum (S.T G) (Gx G E))}(hL:L=BY R DL)(hP:lp k=lpX S E L)(hin:IH (λk c=>LoopOK P G nt (lp k) c) n (BJ c))
  (hR:∀x,Acc (cfQ l) lp jn nt n c S E x=R x):LoopOK P G nt (lp k) c:=
 Bij cx.ok cx.eqok cx.hm hl S E R (hL▸hP) hin hR
include cx hl in
theorem fk {g : Nat} {fn : Func} (hfn : P.funcs[g]? = C fn) {e : Fe G} (hc : (!(fn.name == "runtime.NumGoroutine") && Nat.ble e.I.tm.length fn.ntmps) = N) (hbody : fn.body = C (Cg fn)) (hrs : fn.results.toList = e.rs)
  (hlp:IH (λk c=>LoopOK P G fn.ntmps (lp k) c) 0 (BJ (Cg fn))) (hF:∀x,Vk (cfQ l) lp jn fn.ntmps (Cg fn) e.I e.E x=e.F x):GO P G g e:=by
 rw[e_,a9_]at hc;exact Bsh cx.ok cx.eqok cx.hm hl hfn hc.1 hbody hrs hc.2 (Acw hlp) hF
end
end Go.Ab
namespace Go.Ab
structure TyD where
 A:Type
 d:A
def Auj:List (Nat×TyD)→Nat→TyD
 |[],_=>⟨Unit,()⟩
 |p::r,t=>bif aA p.1 t then p.2 else Auj r t
@[reducible] def TOf(tys:List (Nat×TyD))(t:Nat):Type:=(Auj tys t).A
structure Ent(T:Nat→Type)(t:Nat) where
 ty:Ty
 sz:Nat
 zero:List Value
 enc:T t→List (Cv T)
 dec:List (Cv T)→Option (T t)
 flat:Bool
structure Ent1(T:Nat→Type) where
 t:Nat
 e:Ent T t
def Akt(T:Nat→Type)(t:Nat):Ent T t:=⟨.no,0,[],λ_=>[],λ_=>D,false⟩
def Nd{T:Nat→Type}:List (Ent1 T)→(t:Nat)→Ent T t
 |[],t=>Akt T t
 |p::r,t=>if h:p.t=t then h▸p.e else Nd r t
def PY(tys:List (Nat×TyD))(l:List (Ent1 (TOf tys)))(gl:Nat→Option ((t:Nat)×TOf tys t):=λ_=>D)(ext:Nat→Nat:=λ_=>0):Sig:=
 {T:=TOf tys
  ty:=λt=>(Nd l t).ty
  sz:=λt=>(Nd l t).sz
  zero:=λt=>(Nd l t).zero
  enc:=λt=>(Nd l t).enc
  dec:=λt=>(Nd l t).dec
  dfl:=λt=>(Auj tys t).d
  flat:=λt=>(Nd l t).flat
  gl:=gl
  ext:=ext }
def Atz:List (Nat×Nat)→Nat→Nat
 |[],_=>0
 |p::r,g=>bif aA p.1 g then p.2 else Atz r g
def plain(T:Nat→Type)(t:Nat)(ty:Ty)(sz:Nat)(zero:List Value):Ent1 T:=⟨t,⟨ty,sz,zero,λ_=>[],λ_=>D,false⟩⟩
variable{P:Program}
def Bbt(P:Program)(G:Sig)(t:Nat):Ty→Prop
 | .no=>True
 | .bool=>P.underlying t=C .bool
 | .int k=>P.underlying t=C (.int k)
 | .flt k=>P.underlying t=C (.float k)
 | .str=>P.underlying t=C .string
 | .sl e=>P.underlying t=C (.slice e)∧Ox (G.ty e)=false∧(∃i,P.info? e=C i∧Nat.ble i.bytes 4096=N)∧∀x,(G.enc e x).length=G.sz e
 | .pt e=>P.underlying t=C (.pointer e)
 | .fn=>∃a b c,P.underlying t=C (.func a b c)
 | .st fs=>∃fields,P.underlying t=C (.struct fields)∧fields.toList.map (λf=>(f.offset,f.type))=fs∧fs.all (λp=>!Ox (G.ty p.2))=N
 | .arr n e=>P.underlying t=C (.array n e)∧Ox (G.ty e)=false
def Yy{T:Nat→Type}:Cv T→Bool
 | .sc _ | .ro _ _=>N
 |_=>false
def Ad7{T:Nat→Type}:Cv T→Bool
 | .sc _=>N
 |_=>false
structure EntOK(P:Program)(G:Sig)(t:Nat)(e:Ent G.T t):Prop where
 ty:Bbt P G t e.ty
 info:e.ty≠ .no→∃i z,P.info? t=some i∧i.size=e.sz∧i.zero=some z∧z.cells.toList=e.zero
 pos:e.ty≠ .no→Nat.ble 1 e.sz=true
 nosz:e.ty=.no→e.sz=0
 zsc:e.zero.all Kb=true
 zlen:e.zero.length=e.sz
 encl:∀x,(e.enc x).length≤e.sz
 encdec:∀cs x,e.dec cs=some x→e.enc x=cs
 encd:∀x,(e.enc x).all Yy=true
 flatd:e.flat=true→∀x,(e.enc x).all Ad7=true
 u8d:∀x y,(e.enc x).map u8C=(e.enc y).map u8C
def Bcp{G:Sig}(t:Nat):EntOK P G t (Akt G.T t):=⟨trivial,λh=>absurd rfl h,λh=>absurd rfl h,λ_=>rfl,rfl,rfl,λ_=>A_ _,λcs x h=>by simp[Akt]at h,λ_=>rfl,λ_ _=>rfl,λ_ _=>rfl⟩
def UD{T:Nat→Type}{Q:(t:Nat)→Ent T t→Prop}(h0:∀t,Q t (Akt T t)):∀{l:List (Ent1 T)},(∀p∈l,Q p.t p.e)→∀t,Q t (Nd l t)
 |[],_,t=>h0 t
 |p::r,h,t=>by
  unfold Nd;split
  ·rename_i e;subst e;exact h p σ
  ·exact UD h0 (λq hq=>h q (by simp[hq])) t
def Xb{y:Ty}(h:Ox y=false):y≠ .no:=by intro e;subst e;simp[Ox]at h
def Amc{P:Program}:∀{l:List (Nat×Nat)},(∀p∈l,Bet P p.1 (Bcr p.2))→Ars P (Atz l)
 |[],_,g,h=>absurd rfl h
 |p::r,h,g,hg=>by
  unfold Atz at hg⊢;cases hb:aA p.1 g with
  |true=>rw[d_];rw[← AT.1 hb];exact h p σ
  |false=>rw[hb,c_]at hg;rw[c_];exact Amc (λq hq=>h q (by simp[hq])) g hg
def Bec{tys:List (Nat×TyD)}{l:List (Ent1 (TOf tys))}{gl:Nat→Option ((t:Nat)×TOf tys t)}{ext:Nat→Nat}(h:∀p∈l,EntOK P (PY tys l gl ext) p.t p.e)(hx:Ars P ext):SigOK P (PY tys l gl ext):=by
 have key:∀t,EntOK P (PY tys l gl ext) t (Nd l t):=UD (T:=TOf tys) (Q:=λt e=>EntOK P (PY tys l gl ext) t e) (λt=>Bcp t) h;have tyOf:∀t,Bbt P (PY tys l gl ext) t ((PY tys l gl ext).ty t):=λt=>(key t).ty;refine⟨λt e=>?_,λt k e=>?_,λt k e=>?_,λt e=>?_,λt e he=>?_,λt e he=>?_,λt e=>?_,λt fs e=>?_,λt n e he=>?_,λt=>(key t).info,λt ht=>?_,λt=>(key t).nosz,λt v hv=>?_,λt=>(key t).zlen,λt=>(key t).encl,λt=>(key t).encdec,λt x c hc=>?_,λt x c hf hc=>?_,λt=>(key t).u8d,hx⟩
 ·have:=tyOf t;rw[e]at this;exact this
 ·have:=tyOf t;rw[e]at this;exact this
 ·have:=tyOf t;rw[e]at this;exact this
 ·have:=tyOf t;rw[e]at this;exact this
 ·have:=tyOf t;rw[he]at this
  obtain⟨h1,h2,⟨i,h3,h4⟩,h5⟩:=this;exact⟨h1,Xb h2,⟨i,h3,F_ h4⟩,h5⟩
 ·have:=tyOf t;rw[he]at this;exact this
 ·have:=tyOf t;rw[e]at this;exact this
 ·have:=tyOf t;rw[e]at this
  obtain⟨fields,h1,h2,h3⟩:=this;refine⟨fields,h1,h2,λo u hou=>Xb ?_⟩
  have:=K_.1 h3 (o,u) hou
  simpa using this
 ·have:=tyOf t;rw[he]at this;exact⟨this.1,Xb this.2⟩
 ·exact F_ ((key t).pos ht)
 ·exact K_.1 (key t).zsc v hv
 ·have:=K_.1 ((key t).encd x) c hc
  cases c with
  |sc v=>exact .inl ⟨v,rfl⟩
  |ro t' l=>exact .inr ⟨t',l,rfl⟩
  |_=>simp[Yy]at this
 ·have:=K_.1 ((key t).flatd hf x) c hc
  cases c with
  |sc v=>exact⟨v,rfl⟩
  |_=>simp[Ad7]at this
end Go.Ab
