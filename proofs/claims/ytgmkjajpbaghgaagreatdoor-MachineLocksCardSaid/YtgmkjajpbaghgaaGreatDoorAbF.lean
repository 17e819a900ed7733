/- '==' on structs and arrays goes cell by cell. -/
import Derived.Test.YtgmkjajpbaghgaaGreatDoorAbE
import Derived.Laws.StructEq
set_option linter.all false
open Bool renaming true->A
open Go.Ab.Ty renaming isAgg->aA
namespace Go.Ab
variable{G:Sig}
variable{P:Program}{x:Value}
structure NamesOK(P:Program)(G:Sig):Prop where
 guard:∀t,(G.ty t).isAgg=true→P.eqGuardType P.depth t=false
 held:∀t fs,G.ty t=.st fs→P.stoodInHeld t=false
 name : ∀ t fs, G.ty t = .st fs → (P.fieldsOf t).toList.all (λf => f.name != "_") = true
def Mt:∀{a b:List Nat},HR a b=A→a=b
 |[],[],_=>rfl
 |[],_::_,h=>by simp[HR]at h
 |_::_,[],h=>by simp[HR]at h
 |x::s,y::t,h=>by
  simp only[HR,e_]at h;rw[Mt h.2,AR.1 h.1]
def IK{α:Type}(f:α→Nat)(a:List α):(Da f a).length=a.length:=by
 induction a with
 |nil=>rfl
 |cons x t ih=>simp[Da,ih]
def Pi{α:Type}(f:α→Nat):∀(xs:List α) (a b:List Nat),Da f xs=a++b→∃u v,xs=u++v∧Da f u=a∧Da f v=b
 |xs,[],b,h=>⟨[],xs,rfl,rfl,h⟩
 |[],_::_,b,h=>by simp[Da]at h
 |x::xs,k::a,b,h=>by
  simp only[Da,List.cons_append,List.cons.injEq]at h;obtain⟨u,v,h1,h2,h3⟩:=Pi f xs a b h.2;exact⟨x::u,v,by rw[h1];rfl,by simp[Da,h.1,h2],h3⟩
def Uy{α:Type}:∀(n:Nat) (l a b:List α),MB n l=some a→Nt n l=some b→l=a++b∧a.length=n
 |0,l,a,b,h1,h2=>by simp[MB]at h1;simp[Nt]at h2;subst h1;subst h2;exact⟨rfl,rfl⟩
 |n+1,[],a,b,h1,h2=>by simp[MB]at h1
 |n+1,x::t,a,b,h1,h2=>by
  simp only[MB]at h1;split at h1
  ·rename_i l hl
   simp at h1;subst h1;simp only[Nt]at h2;obtain⟨e1,e2⟩:=Uy n t l b hl h2;exact⟨by rw[e1];rfl,by simp[e2]⟩
  ·simp at h1
def Ul:∀(a a' r r':List Value) (b:Bool),a.length=a'.length→LM (a++r) (a'++r')=some b→∃b1 b2,LM a a'=some b1∧LM r r'=some b2∧b=(b1&&b2)
 |[],[],r,r',b,_,h=>⟨A,b,rfl,h,by simp⟩
 |[],_::_,_,_,_,hl,_=>by simp at hl
 |_::_,[],_,_,_,hl,_=>by simp at hl
 |x::a,y::a',r,r',b,hl,h=>by
  simp only[List.cons_append,LM]at h;split at h
  ·rename_i p q hp hq
   simp at h;subst h;obtain⟨b1,b2,h1,h2,h3⟩:=Ul a a' r r' q (by simpa using hl) hq
   exact⟨p&&b1,b2,by simp[LM,hp,h1],h2,by rw[h3,Bool.and_assoc]⟩
  ·simp at h
def Agm(h:BO x=1):∃p,x=.bool p:=by
 cases x with
 |bool p=>exact⟨p,rfl⟩
 |int k n=>cases k<;>simp[BO]at h
 |float k n=>cases k<;>simp[BO]at h
 |_=>simp[BO]at h
def Akw(h:BO x=2):∃p,x=.string p:=by
 cases x with
 |string p=>exact⟨p,rfl⟩
 |int k n=>cases k<;>simp[BO]at h
 |float k n=>cases k<;>simp[BO]at h
 |_=>simp[BO]at h
section
variable{P:Program}(ok:SigOK P G)(nm:NamesOK P G)
def pkV(G:Sig)(t:Nat)(xs:List Value):Value:=if(G.ty t).isAgg then .agg xs.toArray else xs.headD undef
include ok in
theorem Wb{u:Nat}(hno:G.ty u≠ .no){pre a post:List Value}(hl:a.length=G.sz u)(w:World)(hone:(G.ty u).isAgg=false→a.length=1) :
  (Go.part u (pre++(a++post)).toArray pre.length).run P w=.ok (pkV G u a) w:=by
 unfold Go.part pkV;rw[H_,ok.isAgg w hno];cases ha:(G.ty u).isAgg with
 |true=>
  simp only[s_,g3_,H_,ok.sizeOf w hno,a5_];congr 2;rw[← hl];apply Array.toList_inj.1;simp
 |false=>
  obtain⟨v,rfl⟩:=List.length_eq_one_iff.1 (hone ha);simp
theorem Bez{d t:Nat}(hr:Ra G d t=A)(hag:(G.ty t).isAgg=false):(zk G t).length=1:=by
 cases d with
 |zero=>simp[Ra]at hr
 |succ d'=>
  simp only[Ra]at hr;cases hft:G.ty t with
  |bool=>rw[hft]at hr;rw[Mt hr];rfl
  |str=>rw[hft]at hr;rw[Mt hr];rfl
  |int k=>rw[hft]at hr;rw[Mt hr];rfl
  |st _=>rw[hft]at hag;simp[aA]at hag
  |arr _ _=>rw[hft]at hag;simp[aA]at hag
  |_=>rw[hft]at hr;simp at hr
include ok nm in
theorem Um:∀(d t D:Nat) (xs ys:List Value) (b:Bool) (w:World),Ra G d t=A→d≤D→Da BO xs=zk G t→Da BO ys=zk G t→LM xs ys=some b→
  (Op.equalIn D t (pkV G t xs) (pkV G t ys)).run P w=.ok b w
 |0,_,_,_,_,_,_,h,_,_,_,_=>by simp[Ra]at h
 |d+1,t,0,_,_,_,_,_,hD,_,_,_=>by omega
 |d+1,t,D+1,xs,ys,b,w,h,hD,hx,hy,hb=>by
  have hz:(zk G t).length=G.sz t:=by unfold zk;rw[IK,ok.zlen]
  have one:∀k,HR (zk G t) [k]=A→(∃x,xs=[x]∧BO x=k)∧∃y,ys=[y]∧BO y=k:=by
   intro k hk;have hk:=Mt hk;rw[hk]at hx hy;constructor
   ·cases xs with
    |nil=>simp[Da]at hx
    |cons x t=>cases t with
     |nil=>simp[Da]at hx;exact⟨x,rfl,hx⟩
     |cons y t=>simp[Da]at hx
   ·cases ys with
    |nil=>simp[Da]at hy
    |cons x t=>cases t with
     |nil=>simp[Da]at hy;exact⟨x,rfl,hy⟩
     |cons y t=>simp[Da]at hy
  simp only[Ra]at h;cases ht:G.ty t with
  |bool=>
   rw[ht]at h;obtain⟨⟨x,rfl,hkx⟩,y,rfl,hky⟩:=one _ h;have hxb:=Agm hkx;have hyb:=Agm hky;obtain⟨p,rfl⟩:=hxb;obtain⟨q,rfl⟩:=hyb;simp[LM,eqV]at hb;subst hb;simp only[pkV,ht,aA,f8_,e7_,List.headD];exact run_equalIn_bool w D t p q (ok.bool t ht)
  |str=>
   rw[ht]at h;obtain⟨⟨x,rfl,hkx⟩,y,rfl,hky⟩:=one _ h;have hxb:=Akw hkx;have hyb:=Akw hky;obtain⟨p,rfl⟩:=hxb;obtain⟨q,rfl⟩:=hyb;simp[LM,eqV,eqB]at hb;subst hb;simp only[pkV,ht,aA,f8_,e7_,List.headD];exact run_equalIn_string w D t p q (ok.str t ht)
  |int k=>
   rw[ht]at h;obtain⟨⟨x,rfl,hkx⟩,y,rfl,hky⟩:=one _ h
   have hkk:∀z:Value,BO z=BO (.int k 0)→∃p,z=.int k p:=by
    intro z hz;cases z with
    |int k' p=>exact⟨p,by cases k<;>cases k'<;>simp[BO]at hz⊢⟩
    |bool p=>cases k<;>simp[BO]at hz
    |string p=>cases k<;>simp[BO]at hz
    |float k' p=>cases k<;>cases k'<;>simp[BO]at hz
    |_=>cases k<;>simp[BO]at hz
   obtain⟨p,rfl⟩:=hkk x hkx;obtain⟨q,rfl⟩:=hkk y hky;have hkk:Ej k k=A:=by cases k<;>rfl
   simp[LM,eqV,hkk]at hb;subst hb;simp only[pkV,ht,aA,f8_,e7_,List.headD];exact run_equalIn_int w D t k k p q (ok.int t k ht)
  |st fs=>
   rw[ht]at h;obtain⟨fields,hund,hmap,hfno⟩:=ok.strc t fs ht;have hfo:P.fieldsOf t=fields:=by unfold Program.fieldsOf;rw[hund]
   have hname:=nm.name t fs ht;rw[hfo]at hname;simp only[pkV,ht,aA,g3_];rw[run_equalIn_struct w D t _ _ (by rw[hfo];exact hund) (nm.held t fs ht),hfo]
   have go : ∀ (fl : List Field) (fs : List (Nat × Nat)) (pre pre' xs ys : List Value) (ks : List Nat) (b : Bool), fl.map (λf => (f.offset, f.type)) = fs → (∀ o u, (o, u) ∈ fs → G.ty u ≠ .no) → fl.all (λf => f.name != "_") = A →
     pre.length=pre'.length→VE G (Ra G d) fs pre.length ks=A→Da BO xs=ks→Da BO ys=ks→LM xs ys=some b→
     (Op.eqFields D (pre++xs).toArray (pre'++ys).toArray fl).run P w=.ok b w:=by
    intro fl
    induction fl with
    |nil=>
     intro fs pre pre' xs ys ks b hm _ _ _ hfe hxk hyk hb;simp at hm;subst hm
     have:=Mt hfe
     subst this;cases xs with
     |nil=>cases ys with
      |nil=>simp[LM]at hb;subst hb;simp[Op.eqFields]
      |cons _ _=>simp[Da]at hyk
     |cons _ _=>simp[Da]at hxk
    |cons f fl ih=>
     intro fs pre pre' xs ys ks b hm hno hnm hpl hfe hxk hyk hb;cases fs with
     |nil=>simp at hm
     |cons p fs=>
      simp only[List.map_cons,List.cons.injEq]at hm;obtain⟨hp,hm⟩:=hm;subst hp;simp only[VE,e_]at hfe;obtain⟨⟨ho,hr⟩,hrest⟩:=hfe;have ho:f.offset=pre.length:=AR.1 ho;have hr:Ra G d f.type=A:=hr;split at hrest
      ·rename_i a r ha hr2
       simp only[e_]at hrest;obtain⟨e1,e2⟩:=Uy _ _ _ _ ha hr2;subst e1;obtain⟨xa,xr,rfl,hxa,hxr⟩:=Pi BO xs a r hxk;obtain⟨ya,yr,rfl,hya,hyr⟩:=Pi BO ys a r hyk;have lxa:xa.length=G.sz f.type:=by rw[← IK BO xa,hxa,e2]
       have lya:ya.length=G.sz f.type:=by rw[← IK BO ya,hya,e2]
       obtain⟨b1,b2,h1,h2,h3⟩:=Ul xa ya xr yr b (by rw[lxa,lya]) hb
       have hza:=Mt hrest.1;simp only[V_,e_,bne_iff_ne]at hnm;have hno1:=hno f.offset f.type (by simp)
       have hone:(G.ty f.type).isAgg=false→(zk G f.type).length=1:=Bez hr;have hzl:(zk G f.type).length=G.sz f.type:=by unfold zk;rw[IK,ok.zlen]
       unfold Op.eqFields;rw[if_pos (by simpa using hnm.1)]
       rw[H_,ho,Wb ok hno1 lxa w (λhag=>by rw[lxa,← hzl];exact hone hag),s_]
       rw[H_,hpl,Wb ok hno1 lya w (λhag=>by rw[lya,← hzl];exact hone hag),s_]
       rw[H_,Um d f.type D xa ya b1 w hr ω (by rw[hxa];exact hza) (by rw[hya];exact hza) h1,s_]
       cases b1 with
       |false=>simp at h3;subst h3;simp
       |true=>
        simp at h3;subst h3;simp only[n_,f8_,e7_]
        have:=ih fs (pre++xa) (pre'++ya) xr yr r b hm (λo u hou=>hno o u (by simp[hou])) hnm.2 (by simp[hpl,lxa,lya]) (by rw[h_,lxa];exact hrest.2) hxr hyr h2
        rw[O_,O_]at this;exact this
      ·simp at hrest
   exact go fields.toList fs [] [] xs ys _ b hmap hfno hname rfl h hx hy hb
  |arr n e=>
   rw[ht]at h;simp only[e_]at h;obtain⟨he,hel⟩:=h;obtain⟨hund,hno⟩:=ok.arr t n e ht;simp only[pkV,ht,aA,g3_];simp only[Op.equalIn,H_,J_ hund,s_,ok.sizeOf w hno,Std.Legacy.Range.forIn_eq_forIn_range',Std.Legacy.Range.size,Nat.sub_zero,Nat.add_sub_cancel,Nat.div_one];have hone:(G.ty e).isAgg=false→(zk G e).length=1:=Bez he;have hzl:(zk G e).length=G.sz e:=by unfold zk;rw[IK,ok.zlen]
   have go:∀(n i:Nat) (pre pre' xs ys:List Value) (ks:List Nat) (b:Bool),pre.length=i*G.sz e→pre'.length=i*G.sz e→Yp G e n ks=A→Da BO xs=ks→Da BO ys=ks→LM xs ys=some b→
     (forIn (List.range' i n) (none,()) λi (_:Option Bool×Unit)=>do
      let u ← Go.part e (pre++xs).toArray (i*G.sz e)
      let v ← Go.part e (pre'++ys).toArray (i*G.sz e)
      let r ← Op.equalIn D e u v
      if(!r)=A then pure (ForInStep.done (some false,()))else pure (ForInStep.yield (none,())):Sem (Option Bool×Unit)).run P w=.ok (if b then(none,())else(some false,())) w:=by
    intro n
    induction n with
    |zero=>
     intro i pre pre' xs ys ks b _ _ hel hxk hyk hb
     have:=Mt hel
     subst this;cases xs with
     |nil=>cases ys with
      |nil=>simp[LM]at hb;subst hb;simp
      |cons _ _=>simp[Da]at hyk
     |cons _ _=>simp[Da]at hxk
    |succ n ih=>
     intro i pre pre' xs ys ks b hp hp' hel hxk hyk hb;simp only[Yp]at hel;split at hel
     ·rename_i a r ha hr2
      simp only[e_]at hel;obtain⟨e1,e2⟩:=Uy _ _ _ _ ha hr2;subst e1;obtain⟨xa,xr,rfl,hxa,hxr⟩:=Pi BO xs a r hxk;obtain⟨ya,yr,rfl,hya,hyr⟩:=Pi BO ys a r hyk;have lxa:xa.length=G.sz e:=by rw[← IK BO xa,hxa,e2]
      have lya:ya.length=G.sz e:=by rw[← IK BO ya,hya,e2]
      obtain⟨b1,b2,h1,h2,h3⟩:=Ul xa ya xr yr b (by rw[lxa,lya]) hb
      have hza:=Mt hel.1;rw[e9_,List.forIn_cons];rw[H_,H_,← hp,Wb ok hno lxa w (λhag=>by rw[lxa,← hzl];exact hone hag),s_]
      rw[H_,hp,← hp',Wb ok hno lya w (λhag=>by rw[lya,← hzl];exact hone hag),s_]
      rw[H_,Um d e D xa ya b1 w he ω (by rw[hxa];exact hza) (by rw[hya];exact hza) h1,s_]
      cases b1 with
      |false=>simp at h3;subst h3;simp
      |true=>
       simp at h3;subst h3;simp only[n_,f8_,e7_,a5_,s_]
       have:=ih (i+1) (pre++xa) (pre'++ya) xr yr r b (by rw[h_,hp,lxa,a4_,Nat.one_mul]) (by rw[h_,hp',lya,a4_,Nat.one_mul]) hel.2 hxr hyr h2
       rw[O_,O_]at this;exact this
     ·cases hel
   have:=go n 0 [] [] xs ys _ b (by simp) (by simp) hel hx hy hb
   simp only[Z_]at this;rw[this];cases b<;>simp
  |_=>rw[ht]at h;simp at h
include ok nm in
theorem Bfw:EqOK P G:=by
 refine⟨nm.guard,λt xs ys b w hag hty hx hy hb=>?_⟩
 have:=Um ok nm 20 t Op.maxDepth xs ys b w hty (by decide) hx hy hb
 unfold pkV at this;rw[if_pos hag,if_pos hag]at this;exact this
end
def Arz:Ty→Bool
 | .st _=>A
 |_=>false
structure NmE(P:Program)(t:Nat)(y:Ty):Prop where
 guard:y.isAgg=true→P.eqGuardType P.depth t=false
 held:Arz y=true→P.stoodInHeld t=false
 name : Arz y = true → (P.fieldsOf t).toList.all (λf => f.name != "_") = true
def Bnx{t:Nat}{y:Ty}(h:y.isAgg=false):NmE P t y:=
 have hs:Arz y=false:=by cases y<;>first | rfl | (simp[aA]at h)
 ⟨λe=>(by rw[h]at e;cases e),λe=>(by rw[hs]at e;cases e),λe=>(by rw[hs]at e;cases e)⟩
def Asa{tys:List (Nat×TyD)}{l:List (Ent1 (TOf tys))}{gl:Nat→Option ((t:Nat)×TOf tys t)}{ext:Nat→Nat}(h:∀p∈l,NmE P p.t p.e.ty):NamesOK P (Pl tys l gl ext):=by
 have key:∀t,NmE P t (Mu l t).ty:=TD (T:=TOf tys) (Q:=λt e=>NmE P t e.ty) (λt=>Bnx rfl) h
 refine⟨λt=>(key t).guard,λt fs e=>(key t).held ?_,λt fs e=>(key t).name ?_⟩
 ·have e:(Mu l t).ty=.st fs:=e
  rw[e];rfl
 ·have e:(Mu l t).ty=.st fs:=e
  rw[e];rfl
end Go.Ab
