/- '==' on structs and arrays goes cell by cell. -/
import Derived.Test.YtbliagnmhfobmaaGreatAbE
import Derived.Laws.StructEq
namespace Go.Ab
variable {G:Sig}
structure NamesOK (P:Program) (G:Sig):Prop where
 guard:∀ t,(G.ty t).isAgg=true→P.eqGuardType P.depth t=false
 held:∀ t fs,G.ty t=.st fs→P.stoodInHeld t=false
 name : ∀ t fs, G.ty t = .st fs → (P.fieldsOf t).toList.all (fun f => f.name != "_") = true
theorem ni1':∀ {a b:List Nat},eqNs a b=true→a=b
 | [],[],_=>rfl
 | [],_ :: _,h=>by simp [eqNs] at h
 | _ :: _,[],h=>by simp [eqNs] at h
 | x :: s,y :: t,h=>by
  simp only [eqNs,Bool.and_eq_true] at h;rw [ni1' h.2,nw'.1 h.1]
theorem nfy' {α:Type} (f:α→Nat) (a:List α):(mapK f a).length=a.length:=by
 induction a with
 | nil=>rfl
 | cons x t ih=>simp [mapK,ih]
theorem nl9' {α:Type} (f:α→Nat):∀ (xs:List α) (a b:List Nat),mapK f xs=a++b→∃ u v,xs=u++v∧mapK f u=a∧mapK f v=b
 | xs,[],b,h=>⟨[],xs,rfl,rfl,h⟩
 | [],_ :: _,b,h=>by simp [mapK] at h
 | x :: xs,k :: a,b,h=>by
  simp only [mapK,List.cons_append,List.cons.injEq] at h;obtain ⟨u,v,h1,h2,h3⟩:=nl9' f xs a b h.2;exact ⟨x :: u,v,by rw [h1]; rfl,by simp [mapK,h.1,h2],h3⟩
theorem nrp' {α:Type}:∀ (n:Nat) (l a b:List α),takeN n l=some a→dropN n l=some b→l=a++b∧a.length=n
 | 0,l,a,b,h1,h2=>by simp [takeN] at h1; simp [dropN] at h2; subst h1; subst h2; exact ⟨rfl,rfl⟩
 | n + 1,[],a,b,h1,h2=>by simp [takeN] at h1
 | n + 1,x :: t,a,b,h1,h2=>by
  simp only [takeN] at h1;split at h1
  ·rename_i l hl
   simp at h1; subst h1;simp only [dropN] at h2;obtain ⟨e1,e2⟩:=nrp' n t l b hl h2;exact ⟨by rw [e1]; rfl,by simp [e2]⟩
  ·simp at h1
theorem nrj':∀ (a a' r r':List Value) (b:Bool),a.length=a'.length→eqVs (a++r) (a'++r')=some b→∃ b1 b2,eqVs a a'=some b1∧eqVs r r'=some b2∧b=(b1&&b2)
 | [],[],r,r',b,_,h=>⟨true,b,rfl,h,by simp⟩
 | [],_ :: _,_,_,_,hl,_=>by simp at hl
 | _ :: _,[],_,_,_,hl,_=>by simp at hl
 | x :: a,y :: a',r,r',b,hl,h=>by
  simp only [List.cons_append,eqVs] at h;split at h
  ·rename_i p q hp hq
   simp at h; subst h;obtain ⟨b1,b2,h1,h2,h3⟩:=nrj' a a' r r' q (by simpa using hl) hq
   exact ⟨p&&b1,b2,by simp [eqVs,hp,h1],h2,by rw [h3,Bool.and_assoc]⟩
  ·simp at h
theorem n0u' {x:Value} (h:kindV x=1):∃ p,x=.bool p:=by
 cases x with
 | bool p=>exact ⟨p,rfl⟩
 | int k n=>cases k <;> simp [kindV] at h
 | float k n=>cases k <;> simp [kindV] at h
 | _=>simp [kindV] at h
theorem n2g' {x:Value} (h:kindV x=2):∃ p,x=.string p:=by
 cases x with
 | string p=>exact ⟨p,rfl⟩
 | int k n=>cases k <;> simp [kindV] at h
 | float k n=>cases k <;> simp [kindV] at h
 | _=>simp [kindV] at h
section
variable {P:Program} (ok:SigOK P G) (nm:NamesOK P G)
def pkV (G:Sig) (t:Nat) (xs:List Value):Value:=if (G.ty t).isAgg then .agg xs.toArray else xs.headD undef
include ok in
theorem ns8' {u:Nat} (hno:G.ty u ≠ .no) {pre a post:List Value} (hl:a.length=G.sz u) (w:World) (hone:(G.ty u).isAgg=false→a.length=1) :
  (Go.part u (pre++(a++post)).toArray pre.length).run P w=.ok (pkV G u a) w:=by
 unfold Go.part pkV;rw [Sem.run_bind,ok.isAgg w hno];cases ha:(G.ty u).isAgg with
 | true=>
  simp only [Result.andThen_ok,if_true,Sem.run_bind,ok.sizeOf w hno,Sem.run_pure];congr 2;rw [← hl];apply Array.toList_inj.1;simp
 | false=>
  obtain ⟨v,rfl⟩:=List.length_eq_one_iff.1 (hone ha);simp
theorem oneOf {d t:Nat} (hr:eqTb G d t=true) (hag:(G.ty t).isAgg=false):(zk G t).length=1:=by
 cases d with
 | zero=>simp [eqTb] at hr
 | succ d'=>
  simp only [eqTb] at hr;cases hft:G.ty t with
  | bool=>rw [hft] at hr; rw [ni1' hr]; rfl
  | str=>rw [hft] at hr; rw [ni1' hr]; rfl
  | int k=>rw [hft] at hr; rw [ni1' hr]; rfl
  | st _=>rw [hft] at hag; simp [Ty.isAgg] at hag
  | arr _ _=>rw [hft] at hag; simp [Ty.isAgg] at hag
  | _=>rw [hft] at hr; simp at hr
include ok nm in
theorem nrq':∀ (d t D:Nat) (xs ys:List Value) (b:Bool) (w:World),eqTb G d t=true→d≤D→mapK kindV xs=zk G t→mapK kindV ys=zk G t→eqVs xs ys=some b →
  (Op.equalIn D t (pkV G t xs) (pkV G t ys)).run P w=.ok b w
 | 0,_,_,_,_,_,_,h,_,_,_,_=>by simp [eqTb] at h
 | d + 1,t,0,_,_,_,_,_,hD,_,_,_=>by omega
 | d + 1,t,D + 1,xs,ys,b,w,h,hD,hx,hy,hb=>by
  have hz:(zk G t).length=G.sz t:=by unfold zk; rw [nfy',ok.zlen]
  have one:∀ k,eqNs (zk G t) [k]=true→(∃ x,xs=[x]∧kindV x=k)∧∃ y,ys=[y]∧kindV y=k:=by
   intro k hk;have hk:=ni1' hk;rw [hk] at hx hy;constructor
   ·cases xs with
    | nil=>simp [mapK] at hx
    | cons x t=>cases t with
     | nil=>simp [mapK] at hx; exact ⟨x,rfl,hx⟩
     | cons y t=>simp [mapK] at hx
   ·cases ys with
    | nil=>simp [mapK] at hy
    | cons x t=>cases t with
     | nil=>simp [mapK] at hy; exact ⟨x,rfl,hy⟩
     | cons y t=>simp [mapK] at hy
  simp only [eqTb] at h;cases ht:G.ty t with
  | bool=>
   rw [ht] at h;obtain ⟨⟨x,rfl,hkx⟩,y,rfl,hky⟩:=one _ h;have hxb:=n0u' hkx;have hyb:=n0u' hky;obtain ⟨p,rfl⟩:=hxb;obtain ⟨q,rfl⟩:=hyb;simp [eqVs,eqV] at hb; subst hb;simp only [pkV,ht,Ty.isAgg,Bool.false_eq_true,if_false,List.headD];exact run_equalIn_bool w D t p q (ok.bool t ht)
  | str=>
   rw [ht] at h;obtain ⟨⟨x,rfl,hkx⟩,y,rfl,hky⟩:=one _ h;have hxb:=n2g' hkx;have hyb:=n2g' hky;obtain ⟨p,rfl⟩:=hxb;obtain ⟨q,rfl⟩:=hyb;simp [eqVs,eqV,eqB] at hb; subst hb;simp only [pkV,ht,Ty.isAgg,Bool.false_eq_true,if_false,List.headD];exact run_equalIn_string w D t p q (ok.str t ht)
  | int k=>
   rw [ht] at h;obtain ⟨⟨x,rfl,hkx⟩,y,rfl,hky⟩:=one _ h
   have hkk:∀ z:Value,kindV z=kindV (.int k 0)→∃ p,z=.int k p:=by
    intro z hz;cases z with
    | int k' p=>exact ⟨p,by cases k <;> cases k' <;> simp [kindV] at hz ⊢⟩
    | bool p=>cases k <;> simp [kindV] at hz
    | string p=>cases k <;> simp [kindV] at hz
    | float k' p=>cases k <;> cases k' <;> simp [kindV] at hz
    | _=>cases k <;> simp [kindV] at hz
   obtain ⟨p,rfl⟩:=hkk x hkx;obtain ⟨q,rfl⟩:=hkk y hky;have hkk:eqIK k k=true:=by cases k <;> rfl
   simp [eqVs,eqV,hkk] at hb; subst hb;simp only [pkV,ht,Ty.isAgg,Bool.false_eq_true,if_false,List.headD];exact run_equalIn_int w D t k k p q (ok.int t k ht)
  | st fs=>
   rw [ht] at h;obtain ⟨fields,hund,hmap,hfno⟩:=ok.strc t fs ht;have hfo:P.fieldsOf t=fields:=by unfold Program.fieldsOf; rw [hund]
   have hname:=nm.name t fs ht;rw [hfo] at hname;simp only [pkV,ht,Ty.isAgg,if_true];rw [run_equalIn_struct w D t _ _ (by rw [hfo]; exact hund) (nm.held t fs ht),hfo]
   have go : ∀ (fl : List Field) (fs : List (Nat × Nat)) (pre pre' xs ys : List Value) (ks : List Nat) (b : Bool), fl.map (fun f => (f.offset, f.type)) = fs → (∀ o u, (o, u) ∈ fs → G.ty u ≠ .no) → fl.all (fun f => f.name != "_") = true →
     pre.length=pre'.length→ntb' G (eqTb G d) fs pre.length ks=true→mapK kindV xs=ks→mapK kindV ys=ks→eqVs xs ys=some b →
     (Op.eqFields D (pre++xs).toArray (pre'++ys).toArray fl).run P w=.ok b w:=by
    intro fl
    induction fl with
    | nil=>
     intro fs pre pre' xs ys ks b hm _ _ _ hfe hxk hyk hb;simp at hm; subst hm
     have:=ni1' hfe
     subst this;cases xs with
     | nil=>cases ys with
      | nil=>simp [eqVs] at hb; subst hb; simp [Op.eqFields]
      | cons _ _=>simp [mapK] at hyk
     | cons _ _=>simp [mapK] at hxk
    | cons f fl ih=>
     intro fs pre pre' xs ys ks b hm hno hnm hpl hfe hxk hyk hb;cases fs with
     | nil=>simp at hm
     | cons p fs=>
      simp only [List.map_cons,List.cons.injEq] at hm;obtain ⟨hp,hm⟩:=hm;subst hp;simp only [ntb',Bool.and_eq_true] at hfe;obtain ⟨⟨ho,hr⟩,hrest⟩:=hfe;have ho:f.offset=pre.length:=nw'.1 ho;have hr:eqTb G d f.type=true:=hr;split at hrest
      ·rename_i a r ha hr2
       simp only [Bool.and_eq_true] at hrest;obtain ⟨e1,e2⟩:=nrp' _ _ _ _ ha hr2;subst e1;obtain ⟨xa,xr,rfl,hxa,hxr⟩:=nl9' kindV xs a r hxk;obtain ⟨ya,yr,rfl,hya,hyr⟩:=nl9' kindV ys a r hyk;have lxa:xa.length=G.sz f.type:=by rw [← nfy' kindV xa,hxa,e2]
       have lya:ya.length=G.sz f.type:=by rw [← nfy' kindV ya,hya,e2]
       obtain ⟨b1,b2,h1,h2,h3⟩:=nrj' xa ya xr yr b (by rw [lxa,lya]) hb
       have hza:=ni1' hrest.1;simp only [List.all_cons,Bool.and_eq_true,bne_iff_ne] at hnm;have hno1:=hno f.offset f.type (by simp)
       have hone:(G.ty f.type).isAgg=false→(zk G f.type).length=1:=oneOf hr;have hzl:(zk G f.type).length=G.sz f.type:=by unfold zk; rw [nfy',ok.zlen]
       unfold Op.eqFields;rw [if_pos (by simpa using hnm.1)]
       rw [Sem.run_bind,ho,ns8' ok hno1 lxa w (fun hag=>by rw [lxa,← hzl]; exact hone hag),Result.andThen_ok]
       rw [Sem.run_bind,hpl,ns8' ok hno1 lya w (fun hag=>by rw [lya,← hzl]; exact hone hag),Result.andThen_ok]
       rw [Sem.run_bind,nrq' d f.type D xa ya b1 w hr (by omega) (by rw [hxa]; exact hza) (by rw [hya]; exact hza) h1,Result.andThen_ok]
       cases b1 with
       | false=>simp at h3; subst h3; simp
       | true=>
        simp at h3; subst h3;simp only [Bool.not_true,Bool.false_eq_true,if_false]
        have:=ih fs (pre++xa) (pre'++ya) xr yr r b hm (fun o u hou=>hno o u (by simp [hou])) hnm.2 (by simp [hpl,lxa,lya]) (by rw [List.length_append,lxa]; exact hrest.2) hxr hyr h2
        rw [List.append_assoc,List.append_assoc] at this;exact this
      ·simp at hrest
   exact go fields.toList fs [] [] xs ys _ b hmap hfno hname rfl h hx hy hb
  | arr n e=>
   rw [ht] at h;simp only [Bool.and_eq_true] at h;obtain ⟨he,hel⟩:=h;obtain ⟨hund,hno⟩:=ok.arr t n e ht;simp only [pkV,ht,Ty.isAgg,if_true];simp only [Op.equalIn,Sem.run_bind,run_underlying hund,Result.andThen_ok,ok.sizeOf w hno,Std.Legacy.Range.forIn_eq_forIn_range',Std.Legacy.Range.size,Nat.sub_zero,Nat.add_sub_cancel,Nat.div_one];have hone:(G.ty e).isAgg=false→(zk G e).length=1:=oneOf he;have hzl:(zk G e).length=G.sz e:=by unfold zk; rw [nfy',ok.zlen]
   have go:∀ (n i:Nat) (pre pre' xs ys:List Value) (ks:List Nat) (b:Bool),pre.length=i * G.sz e→pre'.length=i * G.sz e→nvk' G e n ks=true→mapK kindV xs=ks→mapK kindV ys=ks→eqVs xs ys=some b →
     (forIn (List.range' i n) (none,()) fun i (_:Option Bool×Unit)=>do
      let u ← Go.part e (pre++xs).toArray (i * G.sz e)
      let v ← Go.part e (pre'++ys).toArray (i * G.sz e)
      let r ← Op.equalIn D e u v
      if (!r)=true then pure (ForInStep.done (some false,())) else pure (ForInStep.yield (none,())):Sem (Option Bool×Unit)).run P w=.ok (if b then (none,()) else (some false,())) w:=by
    intro n
    induction n with
    | zero=>
     intro i pre pre' xs ys ks b _ _ hel hxk hyk hb
     have:=ni1' hel
     subst this;cases xs with
     | nil=>cases ys with
      | nil=>simp [eqVs] at hb; subst hb; simp
      | cons _ _=>simp [mapK] at hyk
     | cons _ _=>simp [mapK] at hxk
    | succ n ih=>
     intro i pre pre' xs ys ks b hp hp' hel hxk hyk hb;simp only [nvk'] at hel;split at hel
     ·rename_i a r ha hr2
      simp only [Bool.and_eq_true] at hel;obtain ⟨e1,e2⟩:=nrp' _ _ _ _ ha hr2;subst e1;obtain ⟨xa,xr,rfl,hxa,hxr⟩:=nl9' kindV xs a r hxk;obtain ⟨ya,yr,rfl,hya,hyr⟩:=nl9' kindV ys a r hyk;have lxa:xa.length=G.sz e:=by rw [← nfy' kindV xa,hxa,e2]
      have lya:ya.length=G.sz e:=by rw [← nfy' kindV ya,hya,e2]
      obtain ⟨b1,b2,h1,h2,h3⟩:=nrj' xa ya xr yr b (by rw [lxa,lya]) hb
      have hza:=ni1' hel.1;rw [List.range'_succ,List.forIn_cons];rw [Sem.run_bind,Sem.run_bind,← hp,ns8' ok hno lxa w (fun hag=>by rw [lxa,← hzl]; exact hone hag),Result.andThen_ok]
      rw [Sem.run_bind,hp,← hp',ns8' ok hno lya w (fun hag=>by rw [lya,← hzl]; exact hone hag),Result.andThen_ok]
      rw [Sem.run_bind,nrq' d e D xa ya b1 w he (by omega) (by rw [hxa]; exact hza) (by rw [hya]; exact hza) h1,Result.andThen_ok]
      cases b1 with
      | false=>simp at h3; subst h3; simp
      | true=>
       simp at h3; subst h3;simp only [Bool.not_true,Bool.false_eq_true,if_false,Sem.run_pure,Result.andThen_ok]
       have:=ih (i + 1) (pre++xa) (pre'++ya) xr yr r b (by rw [List.length_append,hp,lxa,Nat.add_mul,Nat.one_mul]) (by rw [List.length_append,hp',lya,Nat.add_mul,Nat.one_mul]) hel.2 hxr hyr h2
       rw [List.append_assoc,List.append_assoc] at this;exact this
     ·cases hel
   have:=go n 0 [] [] xs ys _ b (by simp) (by simp) hel hx hy hb
   simp only [List.nil_append] at this;rw [this];cases b <;> simp
  | _=>rw [ht] at h; simp at h
include ok nm in
theorem nbfr':EqOK P G:=by
 refine ⟨nm.guard,fun t xs ys b w hag hty hx hy hb=>?_⟩
 have:=nrq' ok nm 20 t Op.maxDepth xs ys b w hty (by decide) hx hy hb
 unfold pkV at this;rw [if_pos hag,if_pos hag] at this;exact this
end
def isSt:Ty→Bool
 | .st _=>true
 | _=>false
structure NmE (P:Program) (t:Nat) (y:Ty):Prop where
 guard:y.isAgg=true→P.eqGuardType P.depth t=false
 held:isSt y=true→P.stoodInHeld t=false
 name : isSt y = true → (P.fieldsOf t).toList.all (fun f => f.name != "_") = true
theorem nbf5' {P:Program} {t:Nat} {y:Ty} (h:y.isAgg=false):NmE P t y:=
 have hs:isSt y=false:=by cases y <;> first | rfl | (simp [Ty.isAgg] at h)
 ⟨fun e=>(by rw [h] at e; cases e),fun e=>(by rw [hs] at e; cases e),fun e=>(by rw [hs] at e; cases e)⟩
theorem n8g' {P:Program} {tys:List (Nat×TyD)} {l:List (Ent1 (TOf tys))} {gl:Nat→Option ((t:Nat)×TOf tys t)} {ext:Nat→Nat} (h:∀ p ∈ l,NmE P p.t p.e.ty):NamesOK P (mkSig tys l gl ext):=by
 have key:∀ t,NmE P t (findE l t).ty:=nra' (T:=TOf tys) (Q:=fun t e=>NmE P t e.ty) (fun t=>nbf5' rfl) h
 refine ⟨fun t=>(key t).guard,fun t fs e=>(key t).held ?_,fun t fs e=>(key t).name ?_⟩
 ·have e:(findE l t).ty=.st fs:=e
  rw [e]; rfl
 ·have e:(findE l t).ty=.st fs:=e
  rw [e]; rfl
end Go.Ab
