import Derived.Test.YtphhlndnankhiaaGreatDoorAbE
import Derived.Laws.StructEq
set_option linter.all false
open Bool renaming true->A
open Go.Ab.Ty renaming isAgg->aA
namespace Go.Ab
variable{G:Sig}
variable{P:Program}{x:Value}
structure NamesOK(P:Program)(G:Sig):Prop where
 guard:∀t,(G.ty t).isAgg=true→P.eqGuardType P.depth t=false
 held:∀t fs,G.ty t=.st fs→P.stoodInHeld t=false
 name : ∀ t fs, G.ty t = .st fs → (P.fieldsOf t).toList.all (λf => f.name != "_") = true
def Nc:∀{a b:List Nat},Ik a b=A→a=b
 |[],[],_=>rfl
 |[],_::_,h=>by simp[Ik]at h
 |_::_,[],h=>by simp[Ik]at h
 |x::s,y::t,h=>by simp only[Ik,e_]at h;rw[Nc h.2,AT.1 h.1]
def Jm{α:Type}(f:α→Nat)(a:List α):(Dm f a).length=a.length:=by
 induction a with
 |nil=>rfl
 |cons x t ih=>simp[Dm,ih]
def PW{α:Type}(f:α→Nat):∀(xs:List α) (a b:List Nat),Dm f xs=a++b→∃u v,xs=u++v∧Dm f u=a∧Dm f v=b
 |xs,[],b,h=>⟨[],xs,rfl,rfl,h⟩
 |[],_::_,b,h=>by simp[Dm]at h
 |x::xs,k::a,b,h=>by simp only[Dm,List.cons_append,List.cons.injEq]at h;obtain⟨u,v,h1,h2,h3⟩:=PW f xs a b h.2;exact⟨x::u,v,by rw[h1];rfl,by simp[Dm,h.1,h2],h3⟩
def VC{α:Type}:∀(n:Nat) (l a b:List α),Nl n l=some a→NZ n l=some b→l=a++b∧a.length=n
 |0,l,a,b,h1,h2=>by simp[Nl]at h1;simp[NZ]at h2;subst h1;subst h2;exact⟨rfl,rfl⟩
 |n+1,[],a,b,h1,h2=>by simp[Nl]at h1
 |n+1,x::t,a,b,h1,h2=>by
  simp only[Nl]at h1;split at h1
  ·rename_i l hl;simp at h1;subst h1;simp only[NZ]at h2;obtain⟨e1,e2⟩:=VC n t l b hl h2;exact⟨by rw[e1];rfl,by simp[e2]⟩
  ·simp at h1
def Vm:∀(a a' r r':List Value) (b:Bool),a.length=a'.length→Mv (a++r) (a'++r')=some b→∃b1 b2,Mv a a'=some b1∧Mv r r'=some b2∧b=(b1&&b2)
 |[],[],r,r',b,_,h=>⟨A,b,rfl,h,σ⟩
 |[],_::_,_,_,_,hl,_=>by simp at hl
 |_::_,[],_,_,_,hl,_=>by simp at hl
 |x::a,y::a',r,r',b,hl,h=>by
  simp only[List.cons_append,Mv]at h;split at h
  ·rename_i p q hp hq;simp at h;subst h;obtain⟨b1,b2,h1,h2,h3⟩:=Vm a a' r r' q (by simpa using hl) hq;exact⟨p&&b1,b2,by simp[Mv,hp,h1],h2,by rw[h3,Bool.and_assoc]⟩
  ·simp at h
def Aik(h:BO x=1):∃p,x=.bool p:=by
 cases x with
 |bool p=>exact⟨p,rfl⟩
 |int k n=>cases k<;>simp[BO]at h
 |float k n=>cases k<;>simp[BO]at h
 |_=>simp[BO]at h
def Amx(h:BO x=2):∃p,x=.string p:=by
 cases x with
 |string p=>exact⟨p,rfl⟩
 |int k n=>cases k<;>simp[BO]at h
 |float k n=>cases k<;>simp[BO]at h
 |_=>simp[BO]at h
section
variable{P:Program}(ok:SigOK P G)(nm:NamesOK P G)
def pkV(G:Sig)(t:Nat)(xs:List Value):Value:=if(G.ty t).isAgg then .agg xs.toArray else xs.headD undef
include ok in
theorem Xj{u:Nat}(hno:G.ty u≠ .no){pre a post:List Value}(hl:a.length=G.sz u)(w:World)(hone:(G.ty u).isAgg=false→a.length=1) :
  (Go.part u (pre++(a++post)).toArray pre.length).run P w=.ok (pkV G u a) w:=by
 unfold Go.part pkV;rw[I_,ok.isAgg w hno];cases ha:(G.ty u).isAgg with
 |true=>simp only[u_,g8_,I_,ok.sizeOf w hno,b0_];congr 2;rw[← hl];apply Array.toList_inj.1;simp
 |false=>obtain⟨v,rfl⟩:=List.length_eq_one_iff.1 (hone ha);simp
theorem Bhd{d t:Nat}(hr:RV G d t=A)(hag:(G.ty t).isAgg=false):(zk G t).length=1:=by
 cases d with
 |zero=>simp[RV]at hr
 |succ d'=>
  simp only[RV]at hr;cases hft:G.ty t with
  |bool=>rw[hft]at hr;rw[Nc hr];rfl
  |str=>rw[hft]at hr;rw[Nc hr];rfl
  |int k=>rw[hft]at hr;rw[Nc hr];rfl
  |st _=>rw[hft]at hag;simp[aA]at hag
  |arr _ _=>rw[hft]at hag;simp[aA]at hag
  |_=>rw[hft]at hr;simp at hr
include ok nm in
theorem Vn:∀(d t D:Nat) (xs ys:List Value) (b:Bool) (w:World),RV G d t=A→d≤D→Dm BO xs=zk G t→Dm BO ys=zk G t→Mv xs ys=some b→
  (Op.equalIn D t (pkV G t xs) (pkV G t ys)).run P w=.ok b w
 |0,_,_,_,_,_,_,h,_,_,_,_=>by simp[RV]at h
 |d+1,t,0,_,_,_,_,_,hD,_,_,_=>by omega
 |d+1,t,D+1,xs,ys,b,w,h,hD,hx,hy,hb=>by
  have hz:(zk G t).length=G.sz t:=by unfold zk;rw[Jm,ok.zlen]
  have one:∀k,Ik (zk G t) [k]=A→(∃x,xs=[x]∧BO x=k)∧∃y,ys=[y]∧BO y=k:=by
   intro k hk;have hk:=Nc hk;rw[hk]at hx hy;constructor
   ·cases xs with
    |nil=>simp[Dm]at hx
    |cons x t=>cases t with
     |nil=>simp[Dm]at hx;exact⟨x,rfl,hx⟩
     |cons y t=>simp[Dm]at hx
   ·cases ys with
    |nil=>simp[Dm]at hy
    |cons x t=>cases t with
     |nil=>simp[Dm]at hy;exact⟨x,rfl,hy⟩
     |cons y t=>simp[Dm]at hy
  simp only[RV]at h;cases ht:G.ty t with
  |bool=>rw[ht]at h;obtain⟨⟨x,rfl,hkx⟩,y,rfl,hky⟩:=one _ h;have hxb:=Aik hkx;have hyb:=Aik hky;obtain⟨p,rfl⟩:=hxb;obtain⟨q,rfl⟩:=hyb;simp[Mv,eqV]at hb;subst hb;simp only[pkV,ht,aA,g3_,e8_,List.headD];exact run_equalIn_bool w D t p q (ok.bool t ht)
  |str=>rw[ht]at h;obtain⟨⟨x,rfl,hkx⟩,y,rfl,hky⟩:=one _ h;have hxb:=Amx hkx;have hyb:=Amx hky;obtain⟨p,rfl⟩:=hxb;obtain⟨q,rfl⟩:=hyb;simp[Mv,eqV,eqB]at hb;subst hb;simp only[pkV,ht,aA,g3_,e8_,List.headD];exact run_equalIn_string w D t p q (ok.str t ht)
  |int k=>
   rw[ht]at h;obtain⟨⟨x,rfl,hkx⟩,y,rfl,hky⟩:=one _ h;have hkk:∀z:Value,BO z=BO (.int k 0)→∃p,z=.int k p:=by
    intro z hz;cases z with
    |int k' p=>exact⟨p,by cases k<;>cases k'<;>simp[BO]at hz⊢⟩
    |bool p=>cases k<;>simp[BO]at hz
    |string p=>cases k<;>simp[BO]at hz
    |float k' p=>cases k<;>cases k'<;>simp[BO]at hz
    |_=>cases k<;>simp[BO]at hz
   obtain⟨p,rfl⟩:=hkk x hkx;obtain⟨q,rfl⟩:=hkk y hky;have hkk:EB k k=A:=by cases k<;>rfl
   simp[Mv,eqV,hkk]at hb;subst hb;simp only[pkV,ht,aA,g3_,e8_,List.headD];exact run_equalIn_int w D t k k p q (ok.int t k ht)
  |st fs=>
   rw[ht]at h;obtain⟨fields,hund,hmap,hfno⟩:=ok.strc t fs ht;have hfo:P.fieldsOf t=fields:=by unfold Program.fieldsOf;rw[hund]
   have hname:=nm.name t fs ht;rw[hfo]at hname;simp only[pkV,ht,aA,g8_];rw[run_equalIn_struct w D t _ _ (by rw[hfo];exact hund) (nm.held t fs ht),hfo];have go : ∀ (fl : List Field) (fs : List (Nat × Nat)) (pre pre' xs ys : List Value) (ks : List Nat) (b : Bool), fl.map (λf => (f.offset, f.type)) = fs → (∀ o u, (o, u) ∈ fs → G.ty u ≠ .no) → fl.all (λf => f.name != "_") = A →
     pre.length=pre'.length→WM G (RV G d) fs pre.length ks=A→Dm BO xs=ks→Dm BO ys=ks→Mv xs ys=some b→
     (Op.eqFields D (pre++xs).toArray (pre'++ys).toArray fl).run P w=.ok b w:=by
    intro fl;induction fl with
    |nil=>
     intro fs pre pre' xs ys ks b hm _ _ _ hfe hxk hyk hb;simp at hm;subst hm
     have:=Nc hfe
     subst this;cases xs with
     |nil=>cases ys with
      |nil=>simp[Mv]at hb;subst hb;simp[Op.eqFields]
      |cons _ _=>simp[Dm]at hyk
     |cons _ _=>simp[Dm]at hxk
    |cons f fl ih=>
     intro fs pre pre' xs ys ks b hm hno hnm hpl hfe hxk hyk hb;cases fs with
     |nil=>simp at hm
     |cons p fs=>
      simp only[c2_,List.cons.injEq]at hm;obtain⟨hp,hm⟩:=hm;subst hp;simp only[WM,e_]at hfe;obtain⟨⟨ho,hr⟩,hrest⟩:=hfe;have ho:f.offset=pre.length:=AT.1 ho;have hr:RV G d f.type=A:=hr;split at hrest
      ·rename_i a r ha hr2;simp only[e_]at hrest;obtain⟨e1,e2⟩:=VC _ _ _ _ ha hr2;subst e1;obtain⟨xa,xr,rfl,hxa,hxr⟩:=PW BO xs a r hxk;obtain⟨ya,yr,rfl,hya,hyr⟩:=PW BO ys a r hyk;have lxa:xa.length=G.sz f.type:=by rw[← Jm BO xa,hxa,e2]
       have lya:ya.length=G.sz f.type:=by rw[← Jm BO ya,hya,e2]
       obtain⟨b1,b2,h1,h2,h3⟩:=Vm xa ya xr yr b (by rw[lxa,lya]) hb;have hza:=Nc hrest.1;simp only[Z_,e_,bne_iff_ne]at hnm;have hno1:=hno f.offset f.type σ;have hone:(G.ty f.type).isAgg=false→(zk G f.type).length=1:=Bhd hr;have hzl:(zk G f.type).length=G.sz f.type:=by unfold zk;rw[Jm,ok.zlen]
       unfold Op.eqFields;rw[if_pos (by simpa using hnm.1)];rw[I_,ho,Xj ok hno1 lxa w (λhag=>by rw[lxa,← hzl];exact hone hag),u_];rw[I_,hpl,Xj ok hno1 lya w (λhag=>by rw[lya,← hzl];exact hone hag),u_];rw[I_,Vn d f.type D xa ya b1 w hr ω (by rw[hxa];exact hza) (by rw[hya];exact hza) h1,u_];cases b1 with
       |false=>simp at h3;subst h3;simp
       |true=>
        simp at h3;subst h3;simp only[o_,g3_,e8_]
        have:=ih fs (pre++xa) (pre'++ya) xr yr r b hm (λo u hou=>hno o u (by simp[hou])) hnm.2 (by simp[hpl,lxa,lya]) (by rw[h_,lxa];exact hrest.2) hxr hyr h2
        rw[M_,M_]at this;exact this
      ·simp at hrest
   exact go fields.toList fs [] [] xs ys _ b hmap hfno hname rfl h hx hy hb
  |arr n e=>
   rw[ht]at h;simp only[e_]at h;obtain⟨he,hel⟩:=h;obtain⟨hund,hno⟩:=ok.arr t n e ht;simp only[pkV,ht,aA,g8_];simp only[Op.equalIn,I_,J_ hund,u_,ok.sizeOf w hno,Std.Legacy.Range.forIn_eq_forIn_range',Std.Legacy.Range.size,Nat.sub_zero,Nat.add_sub_cancel,Nat.div_one];have hone:(G.ty e).isAgg=false→(zk G e).length=1:=Bhd he;have hzl:(zk G e).length=G.sz e:=by unfold zk;rw[Jm,ok.zlen]
   have go:∀(n i:Nat) (pre pre' xs ys:List Value) (ks:List Nat) (b:Bool),pre.length=i*G.sz e→pre'.length=i*G.sz e→ZC G e n ks=A→Dm BO xs=ks→Dm BO ys=ks→Mv xs ys=some b→
     (forIn (List.range' i n) (none,()) λi (_:Option Bool×Unit)=>do
      let u ← Go.part e (pre++xs).toArray (i*G.sz e)
      let v ← Go.part e (pre'++ys).toArray (i*G.sz e)
      let r ← Op.equalIn D e u v
      if(!r)=A then pure (ForInStep.done (some false,()))else pure (ForInStep.yield (none,())):Sem (Option Bool×Unit)).run P w=.ok (if b then(none,())else(some false,())) w:=by
    intro n;induction n with
    |zero=>
     intro i pre pre' xs ys ks b _ _ hel hxk hyk hb
     have:=Nc hel
     subst this;cases xs with
     |nil=>cases ys with
      |nil=>simp[Mv]at hb;subst hb;simp
      |cons _ _=>simp[Dm]at hyk
     |cons _ _=>simp[Dm]at hxk
    |succ n ih=>
     intro i pre pre' xs ys ks b hp hp' hel hxk hyk hb;simp only[ZC]at hel;split at hel
     ·rename_i a r ha hr2;simp only[e_]at hel;obtain⟨e1,e2⟩:=VC _ _ _ _ ha hr2;subst e1;obtain⟨xa,xr,rfl,hxa,hxr⟩:=PW BO xs a r hxk;obtain⟨ya,yr,rfl,hya,hyr⟩:=PW BO ys a r hyk;have lxa:xa.length=G.sz e:=by rw[← Jm BO xa,hxa,e2]
      have lya:ya.length=G.sz e:=by rw[← Jm BO ya,hya,e2]
      obtain⟨b1,b2,h1,h2,h3⟩:=Vm xa ya xr yr b (by rw[lxa,lya]) hb;have hza:=Nc hel.1;rw[f0_,List.forIn_cons];rw[I_,I_,← hp,Xj ok hno lxa w (λhag=>by rw[lxa,← hzl];exact hone hag),u_];rw[I_,hp,← hp',Xj ok hno lya w (λhag=>by rw[lya,← hzl];exact hone hag),u_];rw[I_,Vn d e D xa ya b1 w he ω (by rw[hxa];exact hza) (by rw[hya];exact hza) h1,u_];cases b1 with
      |false=>simp at h3;subst h3;simp
      |true=>
       simp at h3;subst h3;simp only[o_,g3_,e8_,b0_,u_]
       have:=ih (i+1) (pre++xa) (pre'++ya) xr yr r b (by rw[h_,hp,lxa,a8_,Nat.one_mul]) (by rw[h_,hp',lya,a8_,Nat.one_mul]) hel.2 hxr hyr h2
       rw[M_,M_]at this;exact this
     ·cases hel
   have:=go n 0 [] [] xs ys _ b σ σ hel hx hy hb
   simp only[a5_]at this;rw[this];cases b<;>simp
  |_=>rw[ht]at h;simp at h
include ok nm in
theorem Bh8:EqOK P G:=by
 refine⟨nm.guard,λt xs ys b w hag hty hx hy hb=>?_⟩
 have:=Vn ok nm 20 t Op.maxDepth xs ys b w hty τ hx hy hb
 unfold pkV at this;rw[if_pos hag,if_pos hag]at this;exact this
end
def Aua:Ty→Bool
 | .st _=>A
 |_=>false
structure NmE(P:Program)(t:Nat)(y:Ty):Prop where
 guard:y.isAgg=true→P.eqGuardType P.depth t=false
 held:Aua y=true→P.stoodInHeld t=false
 name : Aua y = true → (P.fieldsOf t).toList.all (λf => f.name != "_") = true
def Bqt{t:Nat}{y:Ty}(h:y.isAgg=false):NmE P t y:=
 have hs:Aua y=false:=by cases y<;>first | rfl | (simp[aA]at h)
 ⟨λe=>(by rw[h]at e;cases e),λe=>(by rw[hs]at e;cases e),λe=>(by rw[hs]at e;cases e)⟩
def Aul{tys:List (Nat×TyD)}{l:List (Ent1 (TOf tys))}{gl:Nat→Option ((t:Nat)×TOf tys t)}{ext:Nat→Nat}(h:∀p∈l,NmE P p.t p.e.ty):NamesOK P (PY tys l gl ext):=by
 have key:∀t,NmE P t (Nd l t).ty:=UD (T:=TOf tys) (Q:=λt e=>NmE P t e.ty) (λt=>Bqt rfl) h;refine⟨λt=>(key t).guard,λt fs e=>(key t).held ?_,λt fs e=>(key t).name ?_⟩
 ·have e:(Nd l t).ty=.st fs:=e;rw[e];rfl
 ·have e:(Nd l t).ty=.st fs:=e;rw[e];rfl
end Go.Ab
