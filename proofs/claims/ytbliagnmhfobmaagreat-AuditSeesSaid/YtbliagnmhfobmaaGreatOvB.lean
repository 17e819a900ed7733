/- A valid record keeps an image an image (layer 10). -/
import Derived.Test.YtbliagnmhfobmaaGreatOvA
import Derived.Test.YtbliagnmhfobmaaGreatDefs3
namespace Go.Ovl
open Go Go.Ab
set_option maxRecDepth 100000
theorem nei' {a c:Entry}:lessE a c=true↔a.C0 < c.C0∨(a.C0=c.C0∧a.G0 < c.G0):=by
 unfold lessE;simp only [Bool.or_eq_true,Bool.and_eq_true,decide_eq_true_eq,beq_iff_eq]
theorem nm9' {a c d:Entry} (h:lessE a c=true) (h':lessE c d=true):lessE a d=true:=by
 rw [nei'] at *;omega
def nc6' (e:Entry):Int×Int:=(e.C0,e.G0)
def ltC (a c:Int×Int):Prop:=a.1 < c.1∨(a.1=c.1∧a.2 < c.2)
def n8' (l:List Entry):Prop:=(l.map nc6').Pairwise ltC
theorem nb6' {l:List Entry}:n8' l↔l.Pairwise fun x y=>lessE x y=true:=by
 unfold n8';rw [List.pairwise_map];exact ⟨fun h=>h.imp fun hh=>nei'.2 hh,fun h=>h.imp fun hh=>nei'.1 hh⟩
theorem n0n' {b:Bldg}:∀ {l:List Entry} {p:Option Entry},entsF b p l=true↔(∀ e ∈ l,entOK b e=true)∧n8' l∧(∀ q,p=some q→∀ e ∈ l,lessE q e=true)
 | [],p=>by simp [entsF,n8']
 | a :: t,p=>by
  simp only [entsF,Bool.and_eq_true];rw [n0n' (l:=t),nb6',nb6',List.pairwise_cons];constructor
  ·rintro ⟨h1,h2,h3,h4,h5⟩
   refine ⟨fun e he=>?_,⟨fun e he=>h5 a rfl e he,h4⟩,fun q hq e he=>?_⟩
   ·rcases List.mem_cons.1 he with rfl | he
    ·exact h1
    ·exact h3 e he
   ·subst hq
    simp only at h2;rcases List.mem_cons.1 he with rfl | he
    ·exact h2
    ·exact nm9' h2 (h5 a rfl e he)
  ·rintro ⟨h1,⟨h2,h3⟩,h4⟩
   refine ⟨h1 a (List.mem_cons_self ..),?_,fun e he=>h1 e (List.mem_cons_of_mem _ he),h3,fun q hq e he=>?_⟩
   ·cases p with
    | none=>rfl
    | some q=>exact h4 q rfl a (List.mem_cons_self ..)
   ·obtain rfl:=Option.some.inj hq
    exact h2 e he
theorem nyd' {b:Bldg} {l:List Entry}:entsF b none l=true↔(∀ e ∈ l,entOK b e=true)∧n8' l:=by
 rw [n0n'];exact ⟨fun h=>⟨h.1,h.2.1⟩,fun h=>⟨h.1,h.2,fun _ hq=>by cases hq⟩⟩
theorem n7u' {l:List Entry} (h:n8' l) (k:Nat):n8' (l.take k++l.drop (k + 1)):=by
 rw [nb6'] at *;exact h.sublist (by rw [← List.eraseIdx_eq_take_drop_succ]; exact List.eraseIdx_sublist ..)
theorem n3g' {l:List Entry} {k:Nat} {e:Entry} (hk:k < l.length) (he:nc6' e=nc6' (l.getD k noE)):(l.set k e).map nc6'=l.map nc6':=by
 rw [List.map_set,he];apply List.ext_getElem?;intro i;rw [List.getElem?_set];by_cases h:k=i
 ·subst h
  rw [if_pos rfl];simp [hk,List.getD_eq_getElem?_getD]
 ·rw [if_neg h]
theorem nxs' {l:List Entry} (h:n8' l) {k:Nat} {e:Entry} (hk:k < l.length) (he:nc6' e=nc6' (l.getD k noE)):n8' (l.set k e):=by
 unfold n8' at *;rw [n3g' hk he]; exact h
theorem nwv' {e x:Entry}:∀ {l:List Entry},x ∈ insL e false l→x=e∨x ∈ l
 | [],h=>by simp [insL] at h; exact .inl h
 | a :: t,h=>by
  simp only [insL] at h;cases hq:lessE e a with
  | true=>
   rw [hq,cond_true,nq2'] at h;rcases List.mem_cons.1 h with h | h
   ·exact .inl h
   ·exact .inr h
  | false=>
   rw [hq,cond_false] at h;rcases List.mem_cons.1 h with h | h
   ·exact .inr (by rw [h]; exact List.mem_cons_self ..)
   ·rcases nwv' h with h | h
    ·exact .inl h
    ·exact .inr (List.mem_cons_of_mem _ h)
theorem nyc' {e:Entry}:∀ {l:List Entry},n8' l→(∀ x ∈ l,isC e.C0 e.G0 x=false)→n8' (insL e false l)
 | [],_,_=>by simp [insL,n8']
 | a :: t,h,hn=>by
  rw [nb6'] at *;obtain ⟨h1,h2⟩:=List.pairwise_cons.1 h;simp only [insL];cases hq:lessE e a with
  | true=>
   rw [cond_true,nq2'];refine List.pairwise_cons.2 ⟨fun x hx=>?_,h⟩
   rcases List.mem_cons.1 hx with rfl | hx
   ·exact hq
   ·exact nm9' hq (h1 x hx)
  | false=>
   rw [cond_false];refine List.pairwise_cons.2 ⟨fun x hx=>?_,nb6'.1 (nyc' (nb6'.2 h2) fun x hx=>hn x (List.mem_cons_of_mem _ hx))⟩
   rcases nwv' hx with rfl | hx
   ·rw [nei']
    have h3:¬ (x.C0 < a.C0∨(x.C0=a.C0∧x.G0 < a.G0)):=fun hh=>by rw [nei'.2 hh] at hq; cases hq
    have h4:=hn a (List.mem_cons_self ..);unfold isC at h4;simp only [Bool.and_eq_false_iff,beq_eq_false_iff_ne] at h4;omega
   ·exact h1 x hx
structure ImgOK (b:Bldg) (m:Img):Prop where
 code:b.code=0
 lp:m.F0.length=b.A0.length
 lf:m.N0.length=b.A0.length
 ll:m.H0.length=b.A0.length
 ph:∀ p ∈ m.F0,0≤p∧p≤4
 en:∀ e ∈ m.B0,entOK b e=true
 so:n8' m.B0
theorem Img.ok_iff {b:Bldg} {m:Img}:m.ok b=true↔ImgOK b m:=by
 unfold Img.ok;simp only [Bool.and_eq_true,beq_iff_eq];constructor
 ·rintro ⟨h0,h1,h2,h3,h4,h5⟩
  have h6:=nyd'.1 h5;exact ⟨h0,by omega,by omega,by omega,fun p hp=>ns'.1 (List.all_eq_true.1 h4 p hp),h6.1,h6.2⟩
 ·rintro ⟨h0,h1,h2,h3,h4,h5,h6⟩
  exact ⟨h0,by omega,by omega,by omega,List.all_eq_true.2 fun p hp=>ns'.2 (h4 p hp),nyd'.2 ⟨h5,h6⟩⟩
theorem nc0' {b:Bldg} {e:Entry}:entOK b e=true↔nk' b e.C0 e.G0=true∧(-2≤e.O0∧e.O0 < (b.A0.length:Int))∧0≤e.V0∧e.V0≤255:=by
 unfold entOK;simp only [Bool.and_eq_true,decide_eq_true_eq];constructor
 ·rintro ⟨h1,h2,h3,h4,h5⟩; exact ⟨h1,⟨h2,h3⟩,h4,h5⟩
 ·rintro ⟨h1,⟨h2,h3⟩,h4,h5⟩; exact ⟨h1,h2,h3,h4,h5⟩
theorem nvi' {α:Type} {l:List α} {k:Nat} {a x:α} (h:x ∈ l.set k a):x=a∨x ∈ l:=by
 rcases List.mem_or_eq_of_mem_set h with h | h
 ·exact .inr h
 ·exact .inl h
theorem nv5' {b:Bldg} {r:Record} (h:np' b r=true):b.code=0 ∧
    ((r.U0=1∧nk' b r.C0 r.G0=true∧r.O0=0∧r.U1=0)∨(r.U0=2∧nk' b r.C0 r.G0=true∧r.O0=0∧r.U1=0) ∨
     (r.U0=3∧nk' b r.C0 r.G0=true∧(-2≤r.O0∧r.O0 < (b.A0.length:Int))∧r.U1=0) ∨
     (r.U0=4∧(0≤r.O0∧r.O0 < (b.A0.length:Int))∧(0≤r.U1∧r.U1≤4)) ∨
     (r.U0=5∧(0≤r.O0∧r.O0 < (b.A0.length:Int))∧(0≤r.U1∧r.U1≤1)) ∨
     (r.U0=6∧(0≤r.O0∧r.O0 < (b.A0.length:Int))∧(0≤r.U1∧r.U1≤1)) ∨
     (r.U0=7∧nk' b r.C0 r.G0=true∧(0≤r.O0∧r.O0≤1)∧(0≤r.U1∧r.U1≤255))):=by
  unfold np' carR at h;simp only [Bool.and_eq_true,beq_iff_eq] at h;obtain ⟨h0,h⟩:=h;refine ⟨h0,?_⟩;by_cases k1:r.U0=1
  · rw [k1] at h; simp only [beq_self_eq_true,cond_true,Bool.and_eq_true,beq_iff_eq] at h; exact .inl ⟨k1,h.1,h.2⟩
  rw [beq_f k1,cond_false] at h;by_cases k2:r.U0=2
  · rw [k2] at h; simp only [beq_self_eq_true,cond_true,Bool.and_eq_true,beq_iff_eq] at h; exact .inr (.inl ⟨k2,h.1,h.2⟩)
  rw [beq_f k2,cond_false] at h;by_cases k3:r.U0=3
  · rw [k3] at h; simp only [beq_self_eq_true,cond_true,Bool.and_eq_true,beq_iff_eq,ns'] at h; exact .inr (.inr (.inl ⟨k3,h.1,by omega,h.2.2⟩))
  rw [beq_f k3,cond_false] at h;by_cases k4:r.U0=4
  · rw [k4] at h; simp only [beq_self_eq_true,cond_true,Bool.and_eq_true,beq_iff_eq,ns'] at h; exact .inr (.inr (.inr (.inl ⟨k4,by omega,h.2⟩)))
  rw [beq_f k4,cond_false] at h;by_cases k5:r.U0=5
  · rw [k5] at h; simp only [beq_self_eq_true,cond_true,Bool.and_eq_true,beq_iff_eq,ns'] at h; exact .inr (.inr (.inr (.inr (.inl ⟨k5,by omega,h.2⟩))))
  rw [beq_f k5,cond_false] at h;by_cases k6:r.U0=6
  · rw [k6] at h; simp only [beq_self_eq_true,cond_true,Bool.and_eq_true,beq_iff_eq,ns'] at h; exact .inr (.inr (.inr (.inr (.inr (.inl ⟨k6,by omega,h.2⟩)))))
  rw [beq_f k6,cond_false] at h;by_cases k7:r.U0=7
  · rw [k7] at h; simp only [beq_self_eq_true,cond_true,Bool.and_eq_true,ns'] at h; exact .inr (.inr (.inr (.inr (.inr (.inr ⟨k7,h.1,h.2.1,h.2.2⟩)))))
  rw [beq_f k7] at h; cases h
theorem nxq' {b:Bldg} {m:Img} (h:ImgOK b m) {l:List Entry} (h1:∀ e ∈ l,entOK b e=true) (h2:n8' l):ImgOK b (m.put l):=⟨h.code,h.lp,h.lf,h.ll,h.ph,h1,h2⟩
theorem n6q' {F D:Int} {e:Entry}:isC F D e=true↔nc6' e=(F,D):=by
 unfold isC nc6';simp only [Bool.and_eq_true,beq_iff_eq,Prod.mk.injEq]
theorem ngq' {b:Bldg} {m:Img} (h:ImgOK b m) {r:Record} (hv:np' b r=true):ImgOK b (n4' m r)∧(n4' m r).B0.length≤m.B0.length + 1:=by
 obtain ⟨_,hk⟩:=nv5' hv;unfold n4';by_cases k4:r.U0=4
 ·rw [show (r.U0==4)=true by rw [k4]; rfl]
  refine ⟨⟨h.code,by show (m.F0.set _ _).length=_; rw [List.length_set]; exact h.lp,h.lf,h.ll,fun p hp=>?_,h.en,h.so⟩,Nat.le_succ _⟩
  rcases nvi' hp with rfl | hp
  ·omega
  ·exact h.ph p hp
 rw [beq_f k4,cond_false];by_cases k5:r.U0=5
 ·rw [show (r.U0==5)=true by rw [k5]; rfl]
  exact ⟨⟨h.code,h.lp,by show (m.N0.set _ _).length=_; rw [List.length_set]; exact h.lf,h.ll,h.ph,h.en,h.so⟩,Nat.le_succ _⟩
 rw [beq_f k5,cond_false];by_cases k6:r.U0=6
 ·rw [show (r.U0==6)=true by rw [k6]; rfl]
  exact ⟨⟨h.code,h.lp,h.lf,by show (m.H0.set _ _).length=_; rw [List.length_set]; exact h.ll,h.ph,h.en,h.so⟩,Nat.le_succ _⟩
 rw [beq_f k6,cond_false];rcases nme' r.C0 r.G0 m.B0 0 with ⟨h1,h2⟩ | ⟨k,h1,h2,h3⟩
 ·rw [h1,show ((-1:Int)==-1)=true from rfl,cond_true]
  by_cases k1:r.U0=1
  ·rw [show (r.U0==1)=true by rw [k1]; rfl,cond_true]
   refine ⟨nxq' h (fun e he=>?_) (nyc' h.so h2),nwq' _ _ _⟩
   rcases nwv' he with rfl | he
   ·rw [nc0']
    have hc:nk' b r.C0 r.G0=true:=by
     rcases hk with hk | hk | hk | hk | hk | hk | hk
     ·exact hk.2.1
     all_goals omega
    exact ⟨hc,⟨by show (-2:Int)≤-1; omega,by show (-1:Int) < _; omega⟩,by show (0:Int)≤0; omega,by show (0:Int)≤255; omega⟩
   ·exact h.en e he
  ·rw [beq_f k1,cond_false]; exact ⟨h,Nat.le_succ _⟩
 ·rw [Nat.zero_add] at h2
  rw [h2,beq_f (show ¬ (k:Int)=-1 by omega),cond_false,Int.toNat_natCast]
  have hmem:=n5' noE h1;have hent:=nc0'.1 (h.en _ hmem);cases r.U0==2 with
  | true=>
   refine ⟨nxq' h (fun e he=>?_) (n7u' h.so k),?_⟩
   ·rcases List.mem_append.1 he with he | he
    ·exact h.en e (List.mem_of_mem_take he)
    ·exact h.en e (List.mem_of_mem_drop he)
   ·show (m.B0.take k++m.B0.drop (k + 1)).length≤_
    rw [List.length_append,List.length_take,List.length_drop]; omega
  | false=>
   rw [cond_false];by_cases k3:r.U0=3
   ·rw [show (r.U0==3)=true by rw [k3]; rfl,cond_true]
    refine ⟨nxq' h (fun e he=>?_) (nxs' h.so h1 rfl),by show (m.B0.set _ _).length≤_; rw [List.length_set]; omega⟩
    rcases nvi' he with rfl | he
    ·rw [nc0']
     refine ⟨hent.1,?_,hent.2.2⟩;show -2≤r.O0∧r.O0 < _;rcases hk with hk | hk | hk | hk | hk | hk | hk
     all_goals first
      | exact hk.2.2.1
      | omega
    ·exact h.en e he
   ·rw [beq_f k3,cond_false]
    by_cases k7:r.U0=7
    ·rw [show (r.U0==7)=true by rw [k7]; rfl,cond_true]
     refine ⟨nxq' h (fun e he=>?_) (nxs' h.so h1 rfl),by show (m.B0.set _ _).length≤_; rw [List.length_set]; omega⟩
     rcases nvi' he with rfl | he
     ·rw [nc0']
      refine ⟨hent.1,hent.2.1,?_⟩;show 0≤r.U1∧r.U1≤255;rcases hk with hk | hk | hk | hk | hk | hk | hk
      all_goals first
       | exact hk.2.2.2
       | omega
     ·exact h.en e he
    ·rw [beq_f k7,cond_false]; exact ⟨h,Nat.le_succ _⟩
def initV (b:Bldg):Img:=⟨List.replicate b.A0.length 0,List.replicate b.A0.length false,List.replicate b.A0.length false,[]⟩
theorem nzr' {b:Bldg} (hcode:b.code=0) (hc:b.A0.length≤100):njw' b.D0 b.E0 b.I0 b.Q0 b.J0 b.K0 b.P0 b.A0=some (((),()),((initV b).tup,())):=by
 unfold njw';rw [ny',hcode];simp only [Option.bind_some,bne_self_eq_false,cond_false,decide_eq_true (show (0:Int)≤(b.A0.length:Int) by omega),decide_eq_true (Int.le_refl (b.A0.length:Int)),decide_eq_true (show (b.A0.length:Int)≤2147483648 by omega),Bool.and_self,cond_true,Int.toNat_natCast]
 rfl
theorem nwx' {b:Bldg} (hcode:b.code=0):ImgOK b (initV b):=
 ⟨hcode,List.length_replicate,List.length_replicate,List.length_replicate,(fun p hp=>by rw [List.eq_of_mem_replicate hp]; omega),(fun _ h=>by cases h),by simp [initV,n8']⟩
def nbc' (m:Img):List Record→Img
 | []=>m
 | r :: t=>nbc' (n4' m r) t
theorem nq8' {b:Bldg}:∀ {rs:List Record} {m:Img},ImgOK b m→(∀ r ∈ rs,np' b r=true)→ImgOK b (nbc' m rs)∧(nbc' m rs).B0.length≤m.B0.length + rs.length
 | [],_,h,_=>⟨h,Nat.le_refl _⟩
 | r :: t,m,h,hv=>by
  obtain ⟨h1,h2⟩:=ngq' h (hv r (List.mem_cons_self ..));obtain ⟨h3,h4⟩:=nq8' (rs:=t) h1 fun x hx=>hv x (List.mem_cons_of_mem _ hx)
  exact ⟨h3,by show (nbc' (n4' m r) t).B0.length≤_; rw [List.length_cons]; omega⟩
theorem n0g' {b:Bldg} {m:Img} {r:Record} (h:ImgOK b m) (hv:np' b r=true):nvb' b m r=(((),0,()),((n4' m r).tup,())):=by
 unfold nvb';rw [Img.ok_iff.2 h,hv]; rfl
def posF (c:Entry):List Entry→Nat
 | []=>0
 | e :: t=>bif lessE e c then posF c t + 1 else 0
theorem nbez' (c:Entry):∀ l:List Entry,posF c l≤l.length
 | []=>Nat.le_refl _
 | e :: t=>by
  have:=nbez' c t
  simp only [posF,List.length_cons];cases lessE e c <;> simp <;> omega
theorem n6c' (c:Entry):∀ (l:List Entry) (k:Nat),k < posF c l→lessE (l.getD k noE) c=true
 | [],k,h=>by simp [posF] at h
 | e :: t,k,h=>by
  simp only [posF] at h;cases he:lessE e c with
  | false=>rw [he] at h; simp at h
  | true=>
   rw [he] at h;cases k with
   | zero=>exact he
   | succ k=>exact n6c' c t k (by simp at h; omega)
theorem n6j' {c:Entry}:∀ {l:List Entry},n8' l→∀ k,posF c l≤k→k < l.length→lessE (l.getD k noE) c=false
 | [],_,k,_,h=>by simp at h
 | e :: t,hs,k,h1,h2=>by
  obtain ⟨a1,a2⟩:=List.pairwise_cons.1 (nb6'.1 hs);simp only [posF] at h1;cases he:lessE e c with
  | true=>
   rw [he,cond_true] at h1;cases k with
   | zero=>omega
   | succ k=>exact n6j' (nb6'.2 a2) k (by omega) (by simp at h2; omega)
  | false=>
   cases k with
   | zero=>exact he
   | succ k=>
    cases hq:lessE ((e :: t).getD (k + 1) noE) c with
    | false=>rfl
    | true=>
     have hm:t.getD k noE ∈ t:=n5' noE (by simp at h2; omega)
     have:=nm9' (a1 _ hm) hq
     rw [he] at this; cases this
theorem nw5' {a c:Entry} (h:isC c.C0 c.G0 a=true):lessE a c=false∧lessE c a=false:=by
 unfold isC at h;simp only [Bool.and_eq_true,beq_iff_eq] at h;constructor
 all_goals
  apply Bool.eq_false_iff.2;intro hh;rw [nei'] at hh;omega
theorem n22' {a c:Entry} (h:isC c.C0 c.G0 a=false) (h':lessE a c=false):lessE c a=true:=by
 rw [nei'];have h1:¬ (a.C0 < c.C0∨(a.C0=c.C0∧a.G0 < c.G0)):=fun hh=>by rw [nei'.2 hh] at h'; cases h'
 unfold isC at h;simp only [Bool.and_eq_false_iff,beq_eq_false_iff_ne] at h;omega
theorem nbax' {a c:Entry} (h:lessE a c=true):lessE c a=false:=by
 apply Bool.eq_false_iff.2;intro hh;rw [nei'] at *;omega
theorem nxz' {F D:Int}:∀ {l:List Entry} {i:Nat},(∀ x ∈ l,isC F D x=false)→findF F D l i=-1
 | [],_,_=>rfl
 | e :: t,i,h=>by
  simp only [findF];rw [h e (List.mem_cons_self ..),cond_false];exact nxz' fun x hx=>h x (List.mem_cons_of_mem _ hx)
def hasF (c:Entry) (l:List Entry):Bool:=Nat.blt (posF c l) l.length&&isC c.C0 c.G0 (l.getD (posF c l) noE)
theorem nkn' {c:Entry}:∀ {l:List Entry} (i:Nat),n8' l→findF c.C0 c.G0 l i=bif hasF c l then ((i + posF c l:Nat):Int) else -1
 | [],_,_=>rfl
 | e :: t,i,hs=>by
  obtain ⟨a1,a2⟩:=List.pairwise_cons.1 (nb6'.1 hs);have hpos:posF c (e :: t)=bif lessE e c then posF c t + 1 else 0:=rfl;unfold hasF;simp only [findF];rw [hpos];cases he:isC c.C0 c.G0 e with
  | true=>
   rw [(nw5' he).1];simp [he,show Nat.blt 0 (t.length + 1)=true from rfl]
  | false=>
   cases hl:lessE e c with
   | true=>
    rw [cond_false,cond_true,nkn' (i + 1) (nb6'.2 a2)];unfold hasF;rw [show ((e :: t).getD (posF c t + 1) noE)=t.getD (posF c t) noE from rfl,List.length_cons,show Nat.blt (posF c t + 1) (t.length + 1)=Nat.blt (posF c t) t.length from rfl]
    rw [show i + 1 + posF c t=i + (posF c t + 1) by omega]
   | false=>
    rw [cond_false,cond_false,show ((e :: t).getD 0 noE)=e from rfl,he,Bool.and_false,cond_false]
    refine nxz' fun x hx=>?_
    cases hq:isC c.C0 c.G0 x with
    | false=>rfl
    | true=>
     have h1:=nm9' (n22' he hl) (a1 x hx);rw [(nw5' hq).2] at h1; cases h1
theorem n2p' {c:Entry}:∀ {l:List Entry},(∀ x ∈ l,isC c.C0 c.G0 x=false)→insL c false l=l.take (posF c l)++[c]++l.drop (posF c l)
 | [],_=>rfl
 | e :: t,h=>by
  simp only [insL,posF];cases hl:lessE e c with
  | true=>
   rw [nbax' hl,cond_false,n2p' fun x hx=>h x (List.mem_cons_of_mem _ hx)]
   simp
  | false=>
   rw [n22' (h e (List.mem_cons_self ..)) hl,cond_true,nq2'];simp
theorem nbb2' {c:Entry} {l:List Entry} (hs:n8' l) (h:hasF c l=false):∀ x ∈ l,isC c.C0 c.G0 x=false:=by
 have h1:=nkn' (c:=c) 0 hs;rw [h,cond_false] at h1;rcases nme' c.C0 c.G0 l 0 with ⟨_,h2⟩ | ⟨k,_,h2,_⟩
 ·exact h2
 ·rw [h1] at h2; omega
def keyE (F D:Int):Entry:=⟨F,D,0,0,false⟩
theorem nbhk' {i j:Nat} (h:i + j < 9223372036854775808):IntKind.i64.wrap (Int.fdiv (IntKind.u64.wrap (IntKind.i64.wrap ((i:Int) + (j:Int)))) ((2:Int) ^ (Min.min (Int.toNat (1:Int)) (IntKind.bits IntKind.u64))))=(((i + j) / 2:Nat):Int):=by
 rw [nc' (n:=(i:Int) + (j:Int)) (by omega) (by omega),ncd' (by omega) (by omega)]
 rw [show ((2:Int) ^ (Min.min (Int.toNat (1:Int)) (IntKind.bits IntKind.u64)))=2 from rfl]
 rw [Int.fdiv_eq_ediv_of_nonneg _ (by omega)]
 rw [nc' (by omega) (by omega)]
 omega
theorem n85' (x:Entry) (e:Entry):lessE x (keyE e.C0 e.G0)=lessE x e:=rfl
theorem ntg' (e:Entry):∀ l:List Entry,posF (keyE e.C0 e.G0) l=posF e l
 | []=>rfl
 | x :: t=>by simp only [posF,n85',ntg' e t]
theorem roomW {a b:Nat} (h:a≤100000) (h':b≤100000):IntKind.i64.wrap (IntKind.i64.wrap (18 * IntKind.i64.wrap (IntKind.i64.wrap ((a:Int) + (b:Int)) + 1)) + 6)=18 * ((a:Int) + (b:Int) + 1) + 6:=by
 rw [nc' (n:=(a:Int) + (b:Int)) (by omega) (by omega),nc' (n:=(a:Int) + (b:Int) + 1) (by omega) (by omega),nc' (n:=18 * ((a:Int) + (b:Int) + 1)) (by omega) (by omega),nc' (by omega) (by omega)]
def roomV (b:Bldg) (m:Img):Bool:=m.ok b&&decide (18 * ((b.A0.length:Int) + (m.B0.length:Int) + 1) + 6≤b.I0)
def allN (p:Nat→Bool):Nat→Nat→Bool
 | 0,_=>true
 | m + 1,i=>p i&&allN p m (i + 1)
theorem nrf' {X Y:Type} {step:X→Option (Sum X Y)} (N:Nat) (g:Nat→X) (p:Nat→Bool) (y0 y1:Y) (h1:∀ i,i < N→step (g i)=some (bif p i then .inl (g (i + 1)) else .inr y1)) (h2:step (g N)=some (.inr y0)) :
  ∀ m i:Nat,i + m=N→iter step (m + 1) (g i)=some (bif allN p m i then y0 else y1)
 | 0,i,hi=>by
  obtain rfl:i=N:=by omega
  exact no' h2
 | m + 1,i,hi=>by
  have h:=h1 i (by omega)
  simp only [allN];cases hp:p i with
  | true=>
   rw [hp] at h;rw [nv' h,Bool.true_and];exact nrf' N g p y0 y1 h1 h2 m (i + 1) (by omega)
  | false=>
   rw [hp] at h;rw [no' h]; rfl
def nu':Nat:=10000000
theorem wrap1 {i n:Nat} (h:i < n) (hn:n≤nu'):IntKind.i64.wrap ((i:Int) + 1)=((i + 1:Nat):Int):=by
 unfold nu' at hn;rw [nc' (by omega) (by omega)]; omega
section
variable {α:Type}
end
structure Img.fit (m:Img):Prop where
 p:m.F0.length≤100000
 f:m.N0.length≤100000
 l:m.H0.length≤100000
 e:m.B0.length≤100000
section
variable {a c:Img} (ha:a.fit)
include ha
end
end Go.Ovl
namespace Go.Ovl
open Go Go.Ab
structure Sto where
 h0:ByteArray
 h1:ByteArray
 sel:Int
def Sto.get (s:Sto) (half:Int):ByteArray:=if half=0 then s.h0 else s.h1
def Sto.set (s:Sto) (half:Int) (x:ByteArray):Sto:=if half=0 then { s with h0:=x } else { s with h1:=x }
def Sto.no:Sto:=⟨noB,noB,0⟩
def Sto.cur (s:Sto):ByteArray:=if s.sel=1 then s.h1 else s.h0
def Sto.ok (room:Int) (s:Sto):Prop:=1≤room∧room≤65536∧s.h0.size≤room∧s.h1.size≤room∧(s.sel=0∨s.sel=1)
instance (room:Int) (s:Sto):Decidable (s.ok room):=by unfold Sto.ok; infer_instance
def Sto.tup (s:Sto):ByteArray×ByteArray×Int×Unit:=(s.h0,(s.h1,(s.sel,())))
def Sto.chk (room:Int) (s:Sto) (half bud:Int):Int:=if s.ok room then if (half ≠ 0∧half ≠ 1)∨bud < 0 then 2 else 0 else 1
def Sto.write (room:Int) (s:Sto) (half:Int) (d:ByteArray) (bud:Int):Sto×Int×Int:=
 if s.chk room half bud ≠ 0 then (.no,0,s.chk room half bud)
 else if room < (s.get half).size + d.size then (.no,0,7)
 else if bud < d.size then (s.set half (s.get half++d.extract 0 bud.toNat),0,8)
 else (s.set half (s.get half++d),bud - d.size,0)
def Sto.act (room:Int) (s:Sto) (half bud:Int) (t:Sto):Sto×Int×Int:=
 if s.chk room half bud ≠ 0 then (.no,0,s.chk room half bud) else if bud=0 then (s,0,8) else (t,bud - 1,0)
def Sto.erase (room:Int) (s:Sto) (half bud:Int):Sto×Int×Int:=s.act room half bud (s.set half noB)
def Sto.choose (room:Int) (s:Sto) (half bud:Int):Sto×Int×Int:=s.act room half bud { s with sel:=half }
def Sto.out (r:Sto×Int×Int):(Unit×Int×Int×Unit)×((ByteArray×ByteArray×Int×Unit)×Unit):=(((),(r.2.1,(r.2.2,()))),((r.1.h0,(r.1.h1,(r.1.sel,()))),()))
theorem nwr' {room:Int} {s:Sto} {half bud:Int} (h:s.chk room half bud=0):s.ok room∧(half=0∨half=1)∧0≤bud:=by
 unfold Sto.chk at h;split at h
 ·split at h
  ·cases h
  ·rename_i h1 h2; refine ⟨h1,?_,?_⟩ <;> omega
 ·cases h
def nco':Debounced:=Debounced.mk 0 false false false false 0 0 0 0 0 0 0 0 0 0 0 0 0 0 0 0 0 0 0 0 0 0 0 0 0 0 0 0 0 0 0 0 0 0 0 0
def nbg':Duty:=Duty.mk 0 0 0
def ncp':NewCar:=NewCar.mk 0 0 0 0 0 false 0 0 0 0 0 0 0 false
def nd5':Loaded:=Loaded.mk 0
def nvg':Calls:=Calls.mk 0 0
def Belief.tup (x:Belief):Int×Int×Int×List Duty×Int×Bool×Unit:=(x.C0,x.G0,x.Z2,x.M0,x.R2,x.Y2,())
structure Mch where
 L0:Img
 Y0:Sto
 C1:List Debounced
 S0:List Belief
 A0:List NewCar
 A2:List Loaded
 J1:List Int
 B3:List Calls
 I3:Int
 Q2:Int
 E2:Int
def Mch.tup (m:Mch):List Int×List Bool×List Bool×List Entry×ByteArray×ByteArray×Int×List Debounced×List Belief×List NewCar×List Loaded×List Int×List Calls×Int×Int×Int×Unit:=(m.L0.F0,m.L0.N0,m.L0.H0,m.L0.B0,m.Y0.h0,m.Y0.h1,m.Y0.sel,m.C1,m.S0,m.A0,m.A2,m.J1,m.B3,m.I3,m.Q2,m.E2,())
structure Mch.fit (m:Mch):Prop where
 im:m.L0.fit
 co:m.C1.length≤100000
 be:m.S0.length≤100000
 du:∀ x ∈ m.S0,x.M0.length≤100000
 ca:m.A0.length≤100000
 lo:m.A2.length≤100000
 ex:m.J1.length≤100000
 li:m.B3.length≤100000
section
variable {a c:Mch} (ha:a.fit)
include ha
end
def bl (s:ByteArray):List UInt8:=s.data.toList
theorem nbab' {a c:ByteArray} (h:bl a=bl c):a=c:=by
 apply ByteArray.ext;unfold bl at h;exact Array.toList_inj.1 h
theorem nbgb' (a c:ByteArray):bl (a++c)=bl a++bl c:=by simp [bl]
theorem n9n' (a:ByteArray) (i j:Nat):bl (a.extract i j)=((bl a).drop i).take (j - i):=by simp [bl]
theorem nhk' (a:ByteArray):(bl a).length=a.size:=by simp [bl]
theorem bl_mk (l:List UInt8):bl ⟨l.toArray⟩=l:=by simp [bl]
theorem n1k' (s:ByteArray) (i:Nat):nbj' s i=(((bl s).getD i 0).toNat:Int):=by
 unfold nbj' bl;simp [Array.getD_eq_getD_getElem?,List.getD_eq_getElem?_getD]
def step8 (r:Nat):Nat:=if 128≤r then (r * 2 % 256) ^^^ 7 else r * 2 % 256
def it8:Nat→Nat→Nat
 | 0,r=>r
 | k + 1,r=>it8 k (step8 r)
def byte8 (r x:Nat):Nat:=it8 8 (r ^^^ x)
def sum8L (l:List UInt8):Nat:=l.foldl (fun r x=>byte8 r x.toNat) 0
theorem n3l' {r:Nat} (_h:r < 256):step8 r < 256:=by
 unfold step8;split
 ·exact Nat.xor_lt_two_pow (n:=8) (by omega) (by decide)
 ·omega
theorem n86':∀ (k:Nat) {r:Nat},r < 256→it8 k r < 256
 | 0,_,h=>h
 | k + 1,_,h=>n86' k (n3l' h)
theorem n4k' {r x:Nat} (h:r < 256) (h':x < 256):byte8 r x < 256:=n86' 8 (Nat.xor_lt_two_pow (n:=8) h h')
theorem nbes' (l:List UInt8):∀ r:Nat,r < 256→l.foldl (fun r x=>byte8 r x.toNat) r < 256:=by
 induction l with
 | nil=>exact fun r h=>h
 | cons x t ih=>
  intro r h;rw [List.foldl_cons];have hx:x.toNat < 256:=UInt8.toNat_lt x;exact ih _ (n4k' h hx)
theorem nbe4' (l:List UInt8):sum8L l < 256:=nbes' l 0 (by omega)
theorem npu' {n:Int} (h:0≤n) (h':n < 256):IntKind.u8.wrap n=n:=by
 simp only [IntKind.wrap,IntKind.signed,IntKind.bits];simp;omega
theorem xor64 {a c:Nat} (ha:a < 256) (hc:c < 256):IntKind.i64.wrap (stk (a:Int) (c:Int) (BitVec.toNat ((BitVec.ofInt (IntKind.bits .i64) (a:Int)) ^^^ (BitVec.ofInt (IntKind.bits .i64) (c:Int)))))=((a ^^^ c:Nat):Int):=by
 have h:=Nat.xor_lt_two_pow (n:=8) ha hc;rw [noi',BitVec.toNat_xor,BitVec.toNat_ofInt,BitVec.toNat_ofInt];rw [show (((a:Int)) % ((2 ^ IntKind.bits .i64:Nat):Int)).toNat=a by simp only [IntKind.bits]; omega,show (((c:Int)) % ((2 ^ IntKind.bits .i64:Nat):Int)).toNat=c by simp only [IntKind.bits]; omega]
 exact nc' (by omega) (by omega)
theorem fold8:∀ (k i r:Nat),foldN (fun _ r=>step8 r) k i r=it8 k r
 | 0,_,_=>rfl
 | k + 1,i,r=>fold8 k (i + 1) (step8 r)
theorem nbal' (s:ByteArray) (i:Int) {r k:Nat} (hr:r < 256) (hk:k < 8):nlb' s (r:Int) i (k:Int)=some (Sum.inl ((s,((step8 r:Nat):Int),i,((k + 1:Nat):Int),()),())):=by
 unfold nlb';have w:IntKind.i64.wrap ((k:Int) + 1)=((k + 1:Nat):Int):=by rw [nc' (by omega) (by omega)]; omega
 have h0:Int.tmod (IntKind.i64.wrap ((r:Int) * 2)) 256=((r * 2 % 256:Nat):Int):=by
  rw [nc' (by omega) (by omega),Int.tmod_eq_emod_of_nonneg (by omega)]; omega
 simp only [decide_eq_true (show (k:Int) < 8 by omega),cond_true,h0,w]
 unfold step8;by_cases h:128≤r
 ·rw [decide_eq_true (show (128:Int)≤(r:Int) by omega),if_pos h,cond_true]
  have hx:=xor64 (a:=r * 2 % 256) (c:=7) (by omega) (by omega)
  rw [show ((7:Nat):Int)=7 from rfl] at hx
  rw [hx]
 ·rw [decide_eq_false (show ¬ (128:Int)≤(r:Int) by omega),if_neg h]; rfl
theorem nbau' (s:ByteArray) (i:Int) {r:Nat} (hr:r < 256):nll' ((s,(r:Int),i,(0:Int),()),())=some ((s,((it8 8 r:Nat):Int),i,()),()):=by
 have h:=nz' (step:=fun x=>nlb' x.1.1 x.1.2.1 x.1.2.2.1 x.1.2.2.2.1) 8 (fun k r=>((s,((r:Nat):Int),i,(k:Int),()),())) (fun _ r=>step8 r) (fun _ r=>r < 256) (fun r=>((s,((r:Nat):Int),i,()),())) (fun k r hk hr=>⟨nbal' s i hr hk,n3l' hr⟩) (fun r _=>rfl) 8 0 r rfl hr
 have h':=h.1;rw [fold8] at h';exact ng' h' (by omega)
theorem nru' {α β:Type} (f:β→α→β) (d:α):∀ (l:List α) (k i:Nat) (s:β),i + k=l.length→foldN (fun i s=>f s (l.getD i d)) k i s=(l.drop i).foldl f s
 | l,0,i,s,h=>by
  obtain rfl:i=l.length:=by omega
  simp [foldN]
 | l,k + 1,i,s,h=>by
  have hi:i < l.length:=by omega
  simp only [foldN];rw [nru' f d l k (i + 1) _ (by omega),List.drop_eq_getElem_cons hi,List.foldl_cons]
  simp [hi]
theorem nv3' {s:ByteArray} (hs:s.size≤1000000):nl0' s=some ((((sum8L (bl s):Nat):Int),()),()):=by
 have h:=nz' (step:=fun x=>nf3' x.1.1 x.1.2.1 x.1.2.2.1) s.size (fun i r=>((s,((r:Nat):Int),(i:Int),()),())) (fun i r=>byte8 r ((bl s).getD i 0).toNat) (fun _ r=>r < 256) (fun r=>((((r:Nat):Int),()),())) (fun i r hi hr=>by
  have hx:=UInt8.toNat_lt ((bl s).getD i 0);refine ⟨?_,n4k' hr hx⟩;show nf3' s ((r:Nat):Int) (i:Int)=_;have w:IntKind.i64.wrap ((i:Int) + 1)=((i + 1:Nat):Int):=by rw [nc' (by omega) (by omega)]; omega
  unfold nf3';simp only [decide_eq_true (show (i:Int) < (s.size:Int) by omega),na' (show (0:Int)≤(i:Int) by omega) (show (i:Int) < (s.size:Int) by omega),cond_true,Int.toNat_natCast,n1k',nc' (n:=(((bl s).getD i 0).toNat:Int)) (by omega) (by omega)]
  rw [xor64 hr hx,nbau' s _ (Nat.xor_lt_two_pow (n:=8) hr hx),Option.bind_some,w]
  rfl) (fun r _=>by
  show nf3' s ((r:Nat):Int) ((s.size:Nat):Int)=_;unfold nf3';simp only [decide_eq_false (Int.lt_irrefl (s.size:Int)),cond_false]) s.size 0 0 (by omega) (by omega)
 have h':=ng' h.1 (by omega)
 rw [nru' (fun r (x:UInt8)=>byte8 r x.toNat) 0 (bl s) s.size 0 0 (by rw [nhk']; omega),List.drop_zero] at h'
 have hl:=nbe4' (bl s);unfold nl0';rw [show nk2' ((s,(0:Int),(0:Int),()),())=_ from h']
 simp only [Option.bind_some];rw [show ((bl s).foldl (fun r (x:UInt8)=>byte8 r x.toNat) 0)=sum8L (bl s) from rfl,npu' (by omega) (by omega)]
def numB (on:Bool):Int:=bif on then 1 else 0
theorem nxt' (on:Bool):nkv' on=some ((numB on,()),()):=by unfold nkv' numB; cases on <;> rfl
def snapC (m:Img) (i:Nat):List Record:=[⟨4,0,0,i,m.F0.getD i 0⟩,⟨5,0,0,i,numB (m.N0.getD i false)⟩,⟨6,0,0,i,numB (m.H0.getD i false)⟩]
def snapE (e:Entry):List Record:=[⟨1,e.C0,e.G0,0,0⟩,⟨3,e.C0,e.G0,e.O0,0⟩,⟨7,e.C0,e.G0,numB e.Q1,e.V0⟩]
def snapV (m:Img):List Record:=(List.range' 0 m.F0.length).flatMap (snapC m)++m.B0.flatMap snapE
theorem ngo' {α:Type} (f:Nat→List α):∀ (k i:Nat) (s:List α),foldN (fun i s=>s++f i) k i s=s++(List.range' i k).flatMap f
 | 0,i,s=>by simp [foldN]
 | k + 1,i,s=>by
  simp only [foldN];rw [ngo' f k (i + 1),List.range'_succ,List.flatMap_cons,List.append_assoc]
theorem nla' {α β:Type} (f:α→List β) (d:α):∀ (l:List α) (i k:Nat),i + k=l.length→(List.range' i k).flatMap (fun i=>f (l.getD i d))=(l.drop i).flatMap f
 | l,i,0,h=>by
  obtain rfl:i=l.length:=by omega
  simp
 | l,i,k + 1,h=>by
  rw [List.range'_succ,List.flatMap_cons,nla' f d l (i + 1) k (by omega),nba' d (show i < l.length by omega),List.flatMap_cons]
theorem n7m' (l:List Entry):(List.range' 0 l.length).flatMap (fun i=>snapE (l.getD i noE))=l.flatMap snapE:=by
 rw [nla' snapE noE l 0 l.length (by omega),List.drop_zero]
section
variable {m:Img} (hf:m.fit)
include hf
theorem nt4' {out:List Record} (ho:out.length≤300000):ngv' (((),out,(0:Int),()),(m.tup,()))=some ((out++m.B0.flatMap snapE,()),()):=by
 have hl:=hf.e
 have h:=nz' (step:=fun x=>ndh' x.1.2.1 x.1.2.2.1 x.2.1.1 x.2.1.2.1 x.2.1.2.2.1 x.2.1.2.2.2.1) m.B0.length (fun i s=>(((),s,(i:Int),()),(m.tup,()))) (fun i s=>s++snapE (m.B0.getD i noE)) (fun i s=>s.length=out.length + 3 * i) (fun s=>((s,()),())) (fun i s hi hs=>by
  refine ⟨?_,by rw [List.length_append,hs]; show _ + 3=_; omega⟩
  have b1:∀ r r' r'':Record,Nat.ble (s.length + [r,r',r''].length) 2147483648=true:=fun r r' r''=>nh' (by show s.length + 3≤_; omega)
  show ndh' s (i:Int) m.F0 m.N0 m.H0 m.B0=_;unfold ndh';simp only [decide_eq_true (show (i:Int) < (m.B0.length:Int) by omega),na' (show (0:Int)≤(i:Int) by omega) (show (i:Int) < (m.B0.length:Int) by omega),cond_true,Int.toNat_natCast,nxt',Option.bind_some,b1,wrap1 hi (show m.B0.length≤nu' by unfold nu'; omega)]
  rfl) (fun s _=>by
  show ndh' s (m.B0.length:Int) m.F0 m.N0 m.H0 m.B0=_;unfold ndh';simp only [decide_eq_false (Int.lt_irrefl (m.B0.length:Int)),cond_false]) m.B0.length 0 out (by omega) rfl
 have h':=ng' h.1 (by omega)
 rw [ngo',n7m'] at h';exact h'
theorem nu5' (h1:m.N0.length=m.F0.length) (h2:m.H0.length=m.F0.length):ngz' (((),[],(0:Int),()),(m.tup,()))=some (((),(List.range' 0 m.F0.length).flatMap (snapC m),()),(m.tup,())):=by
 have hl:=hf.p
 have h:=nz' (step:=fun x=>ndb' x.1.2.1 x.1.2.2.1 x.2.1.1 x.2.1.2.1 x.2.1.2.2.1 x.2.1.2.2.2.1) m.F0.length (fun i s=>(((),s,(i:Int),()),(m.tup,()))) (fun i s=>s++snapC m i) (fun i s=>s.length=3 * i) (fun s=>(((),s,()),(m.tup,()))) (fun i s hi hs=>by
  refine ⟨?_,by rw [List.length_append,hs]; show _ + 3=_; omega⟩
  have b1:∀ r r' r'':Record,Nat.ble (s.length + [r,r',r''].length) 2147483648=true:=fun r r' r''=>nh' (by show s.length + 3≤_; omega)
  show ndb' s (i:Int) m.F0 m.N0 m.H0 m.B0=_;unfold ndb';simp only [decide_eq_true (show (i:Int) < (m.F0.length:Int) by omega),na' (show (0:Int)≤(i:Int) by omega) (show (i:Int) < (m.F0.length:Int) by omega),na' (show (0:Int)≤(i:Int) by omega) (show (i:Int) < (m.N0.length:Int) by omega),na' (show (0:Int)≤(i:Int) by omega) (show (i:Int) < (m.H0.length:Int) by omega),cond_true,Int.toNat_natCast,nxt',Option.bind_some,b1,wrap1 hi (show m.F0.length≤nu' by unfold nu'; omega)]
  rfl) (fun s _=>by
  show ndb' s (m.F0.length:Int) m.F0 m.N0 m.H0 m.B0=_;unfold ndb';simp only [decide_eq_false (Int.lt_irrefl (m.F0.length:Int)),cond_false]; rfl) m.F0.length 0 [] (by omega) rfl
 have h':=ng' h.1 (by omega)
 rw [ngo',List.nil_append] at h';exact h'
end
theorem nqp' {α β:Type} (f:α→List β) (hf:∀ x,(f x).length=3):∀ l:List α,(l.flatMap f).length=3 * l.length
 | []=>rfl
 | a :: t=>by rw [List.flatMap_cons,List.length_append,hf,nqp' f hf t,List.length_cons]; omega
theorem n1a' (m:Img) (n:Nat):((List.range' 0 n).flatMap (snapC m)).length=3 * n:=by rw [nqp' _ fun _=>rfl,List.length_range']
theorem nbbp' (m:Img):(snapV m).length=3 * (m.F0.length + m.B0.length):=by
 unfold snapV;rw [List.length_append,n1a',nqp' _ fun _=>rfl]; omega
def snapR (b:Bldg) (m:Img):List Record:=bif m.ok b then snapV m else []
section
variable {b:Bldg} (hb:b.small) {m:Img} (hf:m.fit)
include hb hf
theorem nx4':ni2' b.D0 b.E0 b.I0 b.Q0 b.J0 b.K0 b.P0 b.A0 m.F0 m.N0 m.H0 m.B0=some ((snapR b m,()),()):=by
 have hmx:100000≤maxLen:=by decide
 have hp:=hf.p;have he:=hf.e;unfold ni2' snapR;rw [nbk' hb m (by omega) (by omega)]
 simp only [Option.bind_some];cases hok:m.ok b with
 | false=>rfl
 | true=>
  have hm:=Img.ok_iff.1 hok;have l0:=nu5' hf (by rw [hm.lf,hm.lp]) (by rw [hm.ll,hm.lp])
  have l1:=nt4' hf (out:=(List.range' 0 m.F0.length).flatMap (snapC m)) (by rw [n1a']; omega)
  simp only [Img.tup] at l0 l1;simp only [Bool.not_true,cond_false,cond_true,l0,l1,Option.bind_some];rfl
end
theorem ntc' (on:Bool):0≤numB on∧numB on≤1:=by cases on <;> exact ⟨by decide,by decide⟩
theorem n7z' {b:Bldg} {m:Img} (h:ImgOK b m):∀ r ∈ snapV m,np' b r=true:=by
 have hcode:=h.code;intro r hr;unfold snapV at hr;rcases List.mem_append.1 hr with hr | hr
 ·obtain ⟨i,hi,hr⟩:=List.mem_flatMap.1 hr
  have hi':i < m.F0.length:=by
   have:=List.mem_range'_1.1 hi
   omega
  have hp:=h.ph _ (n5' 0 hi');have hlp:=h.lp
  have hcar:∀ k v:Int,carR b ⟨k,0,0,i,v⟩=true:=fun k v=>by
   unfold carR;rw [ns'.2 ⟨show (0:Int)≤(i:Int) by omega,show (i:Int)≤(b.A0.length:Int) - 1 by omega⟩]; rfl
  unfold snapC at hr;simp only [List.mem_cons,List.not_mem_nil,or_false] at hr;rcases hr with rfl | rfl | rfl
  ·unfold np'
   rw [hcode,hcar,ns'.2 hp]; rfl
  ·unfold np'
   rw [hcode,hcar,ns'.2 (ntc' _)]; rfl
  ·unfold np'
   rw [hcode,hcar,ns'.2 (ntc' _)]; rfl
 ·obtain ⟨e,he,hr⟩:=List.mem_flatMap.1 hr
  obtain ⟨h1,h2,h3⟩:=nc0'.1 (h.en e he);unfold snapE at hr;simp only [List.mem_cons,List.not_mem_nil,or_false] at hr;rcases hr with rfl | rfl | rfl
  ·unfold np'
   rw [hcode,h1]; rfl
  ·unfold np'
   rw [hcode,h1,ns'.2 ⟨h2.1,show e.O0≤(b.A0.length:Int) - 1 by omega⟩]; rfl
  ·unfold np'
   rw [hcode,h1,ns'.2 (ntc' _),ns'.2 h3]; rfl
def u8n (n:Int):UInt8:=UInt8.ofNat n.toNat
def txt (l:List UInt8):ByteArray:=⟨l.toArray⟩
theorem njm' (l:List UInt8):bl (txt l)=l:=bl_mk l
theorem nbf2' (s:ByteArray):txt (bl s)=s:=nbab' (njm' _)
theorem n6k' (a c:List UInt8):txt a++txt c=txt (a++c):=nbab' (by rw [nbgb',njm',njm',njm'])
theorem nmp' (l:List UInt8):(txt l).size=l.length:=by rw [← nhk',njm']
theorem nbem' (l:List Int):textU l=txt (l.map u8n):=rfl
def rec5 (r:Record):List UInt8:=[u8n r.U0,u8n r.C0,u8n r.G0,u8n (r.O0 + 2),u8n r.U1]
def encL (r:Record):List UInt8:=rec5 r++[u8n ((sum8L (rec5 r):Nat):Int)]
theorem nws' (r:Record):(encL r).length=6:=rfl
theorem nhx' {b:Bldg} (hb:b.small) {f d:Int} (h:nk' b f d=true):(0≤f∧f < 100)∧(1≤d∧d≤2):=by
 have lo:=hb.lo;have hi:=hb.hi;unfold nk' callB at h;simp only [Bool.and_eq_true,Bool.or_eq_true,beq_iff_eq,ns'] at h;omega
structure RecOK (r:Record):Prop where
 k:1≤r.U0∧r.U0≤7
 f:0≤r.C0∧r.C0 < 100
 d:0≤r.G0∧r.G0 < 100
 c:-2≤r.O0∧r.O0 < 100
 v:0≤r.U1∧r.U1 < 256
theorem n5k' {b:Bldg} (hb:b.small) (hc:b.A0.length≤100) {r:Record} (h:np' b r=true):RecOK r:=by
 have hk:=(nv5' h).2
 have hcar:(r.U0=4∨r.U0=5∨r.U0=6)→r.C0=0∧r.G0=0:=fun hq=>by
  unfold np' carR at h;rcases hq with q | q | q
  all_goals
   rw [q] at h;simp only [show ((4:Int)==1)=false from rfl,show ((4:Int)==2)=false from rfl,show ((4:Int)==3)=false from rfl,show ((5:Int)==1)=false from rfl,show ((5:Int)==2)=false from rfl,show ((5:Int)==3)=false from rfl,show ((5:Int)==4)=false from rfl,show ((6:Int)==1)=false from rfl,show ((6:Int)==2)=false from rfl,show ((6:Int)==3)=false from rfl,show ((6:Int)==4)=false from rfl,show ((6:Int)==5)=false from rfl,beq_self_eq_true,cond_true,cond_false,Bool.and_eq_true,beq_iff_eq] at h
   exact h.2.1.2
 rcases hk with h1 | h1 | h1 | h1 | h1 | h1 | h1
 ·have:=nhx' hb h1.2.1
  exact ⟨by omega,this.1,by omega,by omega,by omega⟩
 ·have:=nhx' hb h1.2.1
  exact ⟨by omega,this.1,by omega,by omega,by omega⟩
 ·have:=nhx' hb h1.2.1
  exact ⟨by omega,this.1,by omega,by omega,by omega⟩
 ·have:=hcar (by omega)
  exact ⟨by omega,by omega,by omega,by omega,by omega⟩
 ·have:=hcar (by omega)
  exact ⟨by omega,by omega,by omega,by omega,by omega⟩
 ·have:=hcar (by omega)
  exact ⟨by omega,by omega,by omega,by omega,by omega⟩
 ·have:=nhx' hb h1.2.1
  exact ⟨by omega,this.1,by omega,by omega,by omega⟩
theorem text5 {r:Record} (h:RecOK r):textU [IntKind.u8.wrap r.U0,IntKind.u8.wrap r.C0,IntKind.u8.wrap r.G0,IntKind.u8.wrap (IntKind.i64.wrap (r.O0 + 2)),IntKind.u8.wrap r.U1]=txt (rec5 r):=by
 obtain ⟨h1,h2,h3,h4,h5⟩:=h;rw [npu' (n:=r.U0) (by omega) (by omega),npu' (n:=r.C0) (by omega) (by omega),npu' (n:=r.G0) (by omega) (by omega),nc' (n:=r.O0 + 2) (by omega) (by omega),npu' (n:=r.O0 + 2) (by omega) (by omega),npu' (n:=r.U1) (by omega) (by omega)]
 rfl
def encR (b:Bldg) (r:Record):ByteArray:=bif np' b r then txt (encL r) else txt []
section
variable {b:Bldg} (hb:b.small) (hc:b.A0.length≤100)
include hb hc
theorem n1r' (r:Record):nlm' b.D0 b.E0 b.I0 b.Q0 b.J0 b.K0 b.P0 b.A0 r.U0 r.C0 r.G0 r.O0 r.U1=some ((encR b r,(bif np' b r then 0 else 1),()),()):=by
 unfold nlm' encR;rw [nmc' hb hc r];simp only [Option.bind_some];cases hv:np' b r with
 | false=>rfl
 | true=>
  have h:=n5k' hb hc hv;simp only [Bool.not_true,cond_false,cond_true,text5 h];rw [nv3' (by rw [nmp']; show 5≤1000000; omega)]
  simp only [Option.bind_some,njm',nbem'];rw [nh' (by rw [nmp',nmp']; show 5 + 1≤4611686018427387904; omega),n6k']
  rfl
end
def fld (l:List UInt8) (i:Nat):Int:=((l.getD i 0).toNat:Int)
def recL (l:List UInt8):Record:=⟨fld l 0,fld l 1,fld l 2,fld l 3 - 2,fld l 4⟩
def decLB (b:Bldg) (l:List UInt8):Option Record:=
 bif l.length==6&&(((((sum8L (l.take 5):Nat):Int))==fld l 5)&&np' b (recL l)) then some (recL l) else none
theorem nuj' (l:List UInt8) (i:Nat):0≤fld l i∧fld l i < 256:=by
 have h:(l.getD i 0).toNat < 256:=UInt8.toNat_lt _;unfold fld; omega
theorem n9l' {b:Bldg} {l:List UInt8} {r:Record} (h:decLB b l=some r):np' b r=true:=by
 unfold decLB at h;cases hq:(l.length==6&&(((((sum8L (l.take 5):Nat):Int))==fld l 5)&&np' b (recL l))) with
 | false=>rw [hq] at h; cases h
 | true=>
  rw [hq] at h;cases h;rw [Bool.and_eq_true,Bool.and_eq_true] at hq;exact hq.2.2
def readL (b:Bldg):Nat→List UInt8→List Record
 | 0,_=>[]
 | k + 1,l=>if 6≤l.length then match decLB b (l.take 6) with | some r=>r :: readL b k (l.drop 6) | none=>[] else []
def readV (b:Bldg) (s:ByteArray):List Record:=readL b s.size (bl s)
theorem nq4' (b:Bldg):∀ (k:Nat) (l:List UInt8),6 * (readL b k l).length≤l.length
 | 0,_=>by simp [readL]
 | k + 1,l=>by
  simp only [readL];split
  ·split
   ·rename_i h _ r _
    have:=nq4' b k (l.drop 6)
    rw [List.length_drop] at this;rw [List.length_cons]; omega
   ·simp
  ·simp
theorem nnu' (b:Bldg):∀ (k:Nat) (l:List UInt8),∀ r ∈ readL b k l,np' b r=true
 | 0,_,_,h=>by simp [readL] at h
 | k + 1,l,r,h=>by
  simp only [readL] at h;split at h
  ·split at h
   ·rename_i _ _ r' hr
    rcases List.mem_cons.1 h with rfl | h
    ·exact n9l' hr
    ·exact nnu' b k _ r h
   ·cases h
  ·cases h
theorem nbbc' (b:Bldg) (r:Record):(bl (encR b r)).length≤6:=by
 unfold encR;cases np' b r with
 | true=>rw [cond_true,njm',nws']; omega
 | false=>rw [cond_false,njm']; simp
theorem nya' {b:Bldg} {r:Record} (h:np' b r=true):encR b r=txt (encL r):=by unfold encR; rw [h]; rfl
theorem n3h' {b:Bldg}:∀ {rs:List Record},(∀ r ∈ rs,np' b r=true)→rs.flatMap (fun r=>bl (encR b r))=rs.flatMap encL
 | [],_=>rfl
 | r :: t,h=>by
  rw [List.flatMap_cons,List.flatMap_cons,nya' (h r (List.mem_cons_self ..)),njm',n3h' fun x hx=>h x (List.mem_cons_of_mem _ hx)]
theorem nbfv' (rs:List Record):(rs.flatMap encL).length=6 * rs.length:=by
 induction rs with
 | nil=>rfl
 | cons r t ih=>rw [List.flatMap_cons,List.length_append,ih,nws',List.length_cons]; omega
section
variable {b:Bldg} (hb:b.small) (hc:b.A0.length≤100)
include hb hc
end
def nce' (b:Bldg) (s:Sto) (m:Img) (bud:Int):Sto×Int×Int:=
 bif !(decide (s.ok b.I0)) then (Sto.no,0,1) else bif decide (bud < 0) then (Sto.no,0,1) else bif !(m.ok b) then (Sto.no,0,1) else
 bif ((s.erase b.I0 (1 - s.sel) bud).2.2==0) then
  (bif (((s.erase b.I0 (1 - s.sel) bud).1.write b.I0 (1 - s.sel) (txt ((snapV m).flatMap encL)) (s.erase b.I0 (1 - s.sel) bud).2.1).2.2==0) then
   ((s.erase b.I0 (1 - s.sel) bud).1.write b.I0 (1 - s.sel) (txt ((snapV m).flatMap encL)) (s.erase b.I0 (1 - s.sel) bud).2.1).1.choose b.I0 (1 - s.sel) ((s.erase b.I0 (1 - s.sel) bud).1.write b.I0 (1 - s.sel) (txt ((snapV m).flatMap encL)) (s.erase b.I0 (1 - s.sel) bud).2.1).2.1
  else (s.erase b.I0 (1 - s.sel) bud).1.write b.I0 (1 - s.sel) (txt ((snapV m).flatMap encL)) (s.erase b.I0 (1 - s.sel) bud).2.1)
 else s.erase b.I0 (1 - s.sel) bud
theorem nzq' (room:Int) (s:Sto) (half bud:Int) (t:Sto) (hb:bud < 9223372036854775808):(s.act room half bud t).2.1 < 9223372036854775808:=by
 unfold Sto.act;split
 ·show (0:Int) < _; omega
 ·split
  ·show (0:Int) < _; omega
  ·show bud - 1 < _; omega
theorem nun' (room:Int) (s:Sto) (half:Int) (d:ByteArray) (bud:Int) (hb:bud < 9223372036854775808):(s.write room half d bud).2.1 < 9223372036854775808:=by
 unfold Sto.write;split
 ·show (0:Int) < _; omega
 ·split
  ·show (0:Int) < _; omega
  ·split
   ·show (0:Int) < _; omega
   ·show bud - (d.size:Int) < _; omega
def fullV (b:Bldg) (m:Img) (r:Record):Bool:=r.U0==1&&(!(hasF (keyE r.C0 r.G0) m.B0)&&!(roomV b m))
def putV (b:Bldg) (s:Sto) (m:Img) (r:Record) (bud:Int):Sto×Int×Int:=
 bif decide ((6:Int)≤b.I0 - (s.cur.size:Int)) then s.write b.I0 s.sel (txt (encL r)) bud else nce' b s (n4' m r) bud
def ndg' (b:Bldg) (s:Sto) (m:Img) (r:Record) (bud:Int):Sto×Img×Int×Int:=
 bif !(m.ok b&&np' b r) then (Sto.no,Img.none,0,1) else bif !(decide (s.ok b.I0)) then (Sto.no,Img.none,0,1) else bif decide (bud < 0) then (Sto.no,Img.none,0,1) else
 bif fullV b m r then (Sto.no,Img.none,0,7) else
 bif (putV b s m r bud).2.2==0 then ((putV b s m r bud).1,n4' m r,(putV b s m r bud).2.1,(putV b s m r bud).2.2)
 else bif (putV b s m r bud).2.2==8 then ((putV b s m r bud).1,m,0,(putV b s m r bud).2.2) else (Sto.no,Img.none,0,(putV b s m r bud).2.2)
def nbhi' (r:Sto×Img×Int×Int):(Unit×Unit×Int×Int×Unit)×((ByteArray×ByteArray×Int×Unit)×(List Int×List Bool×List Bool×List Entry×Unit)×Unit):=(((),(),r.2.2.1,r.2.2.2,()),((r.1.h0,r.1.h1,r.1.sel,()),r.2.1.tup,()))
def ndz' (b:Bldg) (s:Sto):Img:=nbc' (initV b) (readV b s.cur)
section
variable {s:Sto} {room half bud:Int} (hs:s.ok room) (hh:half=0∨half=1) (hb:0≤bud)
include hs hh hb
end
theorem nbhb' {s:Sto} {room:Int} (hs:s.ok room):(s.cur.size:Int)≤room:=by
 obtain ⟨_,_,h3,h4,_⟩:=hs;unfold Sto.cur;split
 ·exact h4
 ·exact h3
def n9y' (s:Sto) (m:Img) (bud e:Int):(Unit×Unit×Int×Int×Unit)×((ByteArray×ByteArray×Int×Unit)×(List Int×List Bool×List Bool×List Entry×Unit)×Unit):=(((),(),bud,e,()),((s.h0,s.h1,s.sel,()),m.tup,()))
def nbl' (b:Bldg) (s:Sto) (bud:Int):Sto×Img×Int×Int:=
 bif (nce' b s (ndz' b s) bud).2.2 != 0 then ((nce' b s (ndz' b s) bud).1,Img.none,0,(nce' b s (ndz' b s) bud).2.2)
 else ((nce' b s (ndz' b s) bud).1,ndz' b s,(nce' b s (ndz' b s) bud).2.1,0)
theorem n1p' {b:Bldg} (hcode:b.code=0) (s:Sto) (hs:s.cur.size≤500000):ImgOK b (ndz' b s)∧(ndz' b s).B0.length≤90000∧(ndz' b s).fit:=by
 have hc:=nn' hcode;obtain ⟨h1,h2⟩:=nq8' (nwx' hcode) (rs:=readV b s.cur) fun r hr=>nnu' b _ _ r hr
 have h3:=nq4' b s.cur.size (bl s.cur);rw [nhk'] at h3;have h4:(initV b).B0.length=0:=rfl;have h5:(readV b s.cur).length=(readL b s.cur.size (bl s.cur)).length:=rfl;have g1:=h1.lp;have g2:=h1.lf;have g3:=h1.ll;exact ⟨h1,by show (nbc' (initV b) (readV b s.cur)).B0.length≤_; omega,by show (nbc' (initV b) (readV b s.cur)).F0.length≤_; omega,by show (nbc' (initV b) (readV b s.cur)).N0.length≤_; omega,by show (nbc' (initV b) (readV b s.cur)).H0.length≤_; omega,by show (nbc' (initV b) (readV b s.cur)).B0.length≤_; omega⟩
def fitsV (b:Bldg) (m:Img):Bool:=m.ok b&&decide (18 * ((b.A0.length:Int) + (m.B0.length:Int)) + 6≤b.I0)
theorem fitW {a b:Nat} (h:a≤100000) (h':b≤100000):IntKind.i64.wrap (IntKind.i64.wrap (18 * IntKind.i64.wrap ((a:Int) + (b:Int))) + 6)=18 * ((a:Int) + (b:Int)) + 6:=by
 rw [nc' (n:=(a:Int) + (b:Int)) (by omega) (by omega),nc' (n:=18 * ((a:Int) + (b:Int))) (by omega) (by omega),nc' (by omega) (by omega)]
def nom':Belief:=⟨-1,0,0,[],0,false⟩
def nsh' (b:Bldg) (i:Nat):Car:=b.A0.getD i ⟨0,0,0,0,0,0,0,0,0⟩
def nm7' (b:Bldg) (e:Entry):Int:=bif decide (0≤e.O0) then (nsh' b e.O0.toNat).S1 else 0
def Mch.none:Mch:=⟨Img.none,Sto.no,[],[],[],[],[],[],0,0,0⟩
def n90' (b:Bldg) (m:Img) (s:Sto):Mch:=⟨m,s,List.replicate b.A0.length nco',List.replicate b.A0.length nom',List.replicate b.A0.length ncp',List.replicate b.A0.length nd5',m.B0.map (nm7' b),List.replicate b.A0.length nvg',0,0,0⟩
def Mch.withB (m:Mch) (l:List Belief):Mch:={ m with S0:=l }
def Mch.withE (m:Mch) (l:List Int):Mch:={ m with J1:=l }
theorem n2s' {α:Type} (a:α):∀ k i:Nat,(List.range' i k).flatMap (fun _=>[a])=List.replicate k a
 | 0,_=>rfl
 | k + 1,i=>by rw [List.range'_succ,List.flatMap_cons,n2s' a k (i + 1),List.replicate_succ]; rfl
theorem nbdh' {α β:Type} (f:α→β) (l:List α):l.flatMap (fun x=>[f x])=l.map f:=by
 induction l with
 | nil=>rfl
 | cons a t ih=>rw [List.flatMap_cons,ih]; rfl
def nfl' (b:Bldg) (m:Img) (s:Sto):Mch×Int:=bif fitsV b m&&decide (s.ok b.I0) then (n90' b m s,0) else (Mch.none,1)
def bootV (b:Bldg) (s:Sto) (bud:Int):Mch×Int×Int:=
 bif (nbl' b s bud).2.2.2 != 0 then ({ Mch.none with Y0:=(nbl' b s bud).1 },0,(nbl' b s bud).2.2.2)
 else bif (nfl' b (nbl' b s bud).2.1 (nbl' b s bud).1).2 != 0 then (Mch.none,0,(nfl' b (nbl' b s bud).2.1 (nbl' b s bud).1).2)
 else ((nfl' b (nbl' b s bud).2.1 (nbl' b s bud).1).1,(nbl' b s bud).2.2.1,0)
theorem n6r' {b:Bldg} (hcode:b.code=0) (s:Sto) (hs:s.cur.size≤500000) (bud:Int):(nbl' b s bud).2.1.fit:=by
 obtain ⟨_,_,hf⟩:=n1p' hcode s hs;unfold nbl';cases (nce' b s (ndz' b s) bud).2.2 != 0 with
 | true=>exact ⟨Nat.zero_le _,Nat.zero_le _,Nat.zero_le _,Nat.zero_le _⟩
 | false=>exact hf
def nb3' (b:Bldg):Mch×Int:=bif b.code==0 then ((bootV b Sto.no 1048576).1,(bootV b Sto.no 1048576).2.2) else (Mch.none,1)
theorem nbbb' {b:Bldg} {m:Img} (hf:m.fit) (hc:b.A0.length≤1000) (s:Sto):(n90' b m s).fit:=by
 have he:=hf.e;refine ⟨hf,?_,?_,fun x hx=>?_,?_,?_,?_,?_⟩
 ·show (List.replicate b.A0.length nco').length≤_; rw [List.length_replicate]; omega
 ·show (List.replicate b.A0.length nom').length≤_; rw [List.length_replicate]; omega
 ·rw [List.eq_of_mem_replicate (show x ∈ List.replicate b.A0.length nom' from hx)]; exact Nat.zero_le _
 ·show (List.replicate b.A0.length ncp').length≤_; rw [List.length_replicate]; omega
 ·show (List.replicate b.A0.length nd5').length≤_; rw [List.length_replicate]; omega
 ·show (m.B0.map (nm7' b)).length≤_; rw [List.length_map]; omega
 ·show (List.replicate b.A0.length nvg').length≤_; rw [List.length_replicate]; omega
theorem n59':∀ {l:List Nat} {a n:Nat},l.Pairwise (· < ·)→(∀ x ∈ l,a≤x∧x < n)→l.length + a≤n∨l=[]
 | [],_,_,_,_=>.inr rfl
 | x :: t,a,n,h,hr=>by
  left;obtain ⟨h1,h2⟩:=List.pairwise_cons.1 h;have hx:=hr x (List.mem_cons_self ..);rcases n59' (a:=x + 1) (n:=n) h2 (fun y hy=>⟨h1 y hy,(hr y (List.mem_cons_of_mem _ hy)).2⟩) with q | q
  ·rw [List.length_cons]; omega
  ·subst q
   simp; omega
theorem nbex' {b:Bldg} (hb:b.small) {m:Img} (hm:ImgOK b m):(m.B0.length:Int)≤2 * (b.D0 - 1):=by
 have lo:=hb.lo;have hi:=hb.hi
 let ix:Int×Int→Nat:=fun p=>if p.1=0 then 0 else if p.1=b.D0 - 1 then (2 * b.D0 - 3).toNat else (2 * p.1 + p.2 - 2).toNat
 have hv:∀ p ∈ m.B0.map nc6',(p.2=1∧0≤p.1∧p.1≤b.D0 - 2)∨(p.2=2∧1≤p.1∧p.1≤b.D0 - 1):=fun p hp=>by
  obtain ⟨e,he,rfl⟩:=List.mem_map.1 hp;have h1:=(nc0'.1 (hm.en e he)).1;unfold nk' callB at h1;simp only [Bool.and_eq_true,Bool.or_eq_true,beq_iff_eq,ns'] at h1;show (e.G0=1∧0≤e.C0∧e.C0≤b.D0 - 2)∨(e.G0=2∧1≤e.C0∧e.C0≤b.D0 - 1);omega
 have hp:((m.B0.map nc6').map ix).Pairwise (· < ·):=by
  rw [List.pairwise_map];refine List.Pairwise.imp_of_mem (fun {p q} hp hq h=>?_) hm.so
  have v1:=hv p hp;have v2:=hv q hq;unfold ltC at h;show ix p < ix q;simp only [ix];split <;> split <;> (try split) <;> (try split) <;> omega
 rcases n59' (a:=0) (n:=(2 * b.D0 - 2).toNat) hp (fun x hx=>by
  obtain ⟨p,hp,rfl⟩:=List.mem_map.1 hx;have v1:=hv p hp;refine ⟨Nat.zero_le _,?_⟩;show ix p < _;simp only [ix];split
  ·omega
  ·split <;> omega) with q | q
 ·rw [List.length_map,List.length_map] at q; omega
 ·have:=congrArg List.length q
  rw [List.length_map,List.length_map,List.length_nil] at this; omega
theorem nxl' {p q:Nat→Bool}:∀ m i:Nat,(∀ k,i≤k→k < i + m→(∀ j,i≤j→j < k→p j=true)→p k=q k)→allN p m i=allN q m i
 | 0,_,_=>rfl
 | m + 1,i,h=>by
  have h0:=h i (Nat.le_refl _) (by omega) (fun j h1 h2=>by omega)
  simp only [allN];cases hp:p i with
  | false=>rw [← h0,hp]; rfl
  | true=>
   rw [← h0,hp,Bool.true_and,Bool.true_and]
   exact nxl' m (i + 1) fun k h1 h2 h3=>h k (by omega) (by omega) fun j h4 h5=>by
    rcases Nat.lt_or_ge i j with g | g
    ·exact h3 j (by omega) h5
    ·obtain rfl:j=i:=by omega
     exact hp
theorem ltD (a b:Int):decide (a < b)=!decide (b≤a):=by
 by_cases h:a < b
 ·rw [decide_eq_true h,decide_eq_false (show ¬ b≤a by omega)]; rfl
 ·rw [decide_eq_false h,decide_eq_true (show b≤a by omega)]; rfl
theorem leD (a b:Int):decide (a≤b)=!decide (b < a):=by rw [ltD b a,Bool.not_not]
def nqx' (xs:List Int):Bool:=xs.all (inR 0 1000000)
def cntL (x:Debounced):List Int:=[x.U4,x.V4,x.X4,x.Y4,x.Z4,x.A5,x.B5,x.C5,x.D5,x.E5,x.R3,x.T3,x.U3,x.V3,x.X3,x.Y3,x.Z3,x.A4,x.B4,x.C4,x.D4,x.E4,x.F4,x.G4,x.H4,x.I4,x.J4,x.K4,x.L4,x.M4,x.N4,x.O4,x.P4,x.Q4,x.R4,x.S4]
def cntP (n:Int) (x:Debounced) (i:Nat):Bool:=decide (0≤(cntL x).getD i 0)&&decide ((cntL x).getD i 0 < n)
def conOK (n:Int) (x:Debounced):Bool:=decide (1≤n)&&(decide (n≤16)&&allN (cntP n x) 36 0)
def lessD (a b:Duty):Bool:=decide (a.C0 < b.C0)||(a.C0==b.C0&&decide (a.G0 < b.G0))
def dutO (x:Belief) (i:Nat):Bool:=i==0||lessD (x.M0.getD (i - 1) nbg') (x.M0.getD i nbg')
def dutP (b:Bldg) (car:Nat) (x:Belief) (i:Nat):Bool:=nk' b (x.M0.getD i nbg').C0 (x.M0.getD i nbg').G0&&(inR 0 (nsh' b car).S1 (x.M0.getD i nbg').H5&&dutO x i)
def belOK (b:Bldg) (car:Nat) (x:Belief):Bool:=inR (-1) (b.D0 - 1) x.C0&&(inR 0 3 x.G0&&(inR 0 3 x.Z2&&(inR 0 1000000 x.R2&&(!(x.Y2&&decide ((0:Int) < (x.M0.length:Int)))&&allN (dutP b car x) x.M0.length 0))))
def nvc' (x:NewCar):Bool:=inR 0 2 x.K2&&inR 0 7 x.B2
def doorZ (x:NewCar):Bool:=(x.O1==0)&&((x.N2==0)&&((x.G2==0)&&((x.P2==false)&&((x.H2==0)&&true))))
def nqu' (x:NewCar):Bool:=bif x.O1==0 then doorZ x else inR 0 3 x.O1&&(inR 0 1000000 x.N2&&(inR 0 1000000 x.G2&&inR 0 1000000 x.H2))
def motZ (x:NewCar):Bool:=(x.G1==0)&&((x.X1==0)&&((x.E1==0)&&true))
def motOK (fl:Int) (x:NewCar):Bool:=inR 0 1000000 x.X1&&(bif x.G1==0 then x.E1==0 else bif x.G1==1 then inR 0 (fl - 1) x.E1&&inR 0 (fl - 1) (x.E1 + 1) else bif x.G1==2 then inR 0 (fl - 1) x.E1&&inR 0 (fl - 1) (x.E1 - 1) else false)
def carZ (x:NewCar):Bool:=(x.K2==0)&&((x.B2==0)&&((x.O1==0)&&((x.N2==0)&&((x.G2==0)&&((x.P2==false)&&((x.H2==0)&&((x.G1==0)&&((x.X1==0)&&((x.E1==0)&&((x.N1==0)&&((x.K3==0)&&((x.T4==0)&&((x.N3==true)&&true)))))))))))))
def n4f' (fl:Int) (x:NewCar):Bool:=(Int.fdiv x.N1 ((2:Int) ^ (Int.toNat fl))==0)&&(inR 0 2 x.K3&&inR 0 1000000 x.T4)
def n68' (fl:Int) (x:NewCar):Bool:=nvc' x&&(nqu' x&&(motOK fl x&&((doorZ x||motZ x)&&n4f' fl x)))
def newOK (b:Bldg) (x:NewCar):Bool:=bif x.N3 then carZ x else n68' b.D0 x
def eachN {α:Type} (p:Nat→α→Bool) (d:α) (l:List α) (n:Int):Bool:=((l.length:Int)==n)&&allN (fun i=>p i (l.getD i d)) l.length 0
def nxp' (x:Loaded):Bool:=inR 0 4 x.F5
def nvl' (b:Bldg) (m:Mch):Bool:=fitsV b m.L0&&(decide (m.Y0.ok b.I0)&&(((m.J1.length:Int)==(m.L0.B0.length:Int))&&(nqx' m.J1&&(nqx' [m.I3,m.Q2,m.E2]&&(eachN (fun _ x=>conOK b.E0 x) nco' m.C1 (b.A0.length:Int)&&(eachN (fun i x=>belOK b i x) (Belief.mk 0 0 0 [] 0 false) m.S0 (b.A0.length:Int)&&(eachN (fun _ x=>newOK b x) ncp' m.A0 (b.A0.length:Int)&&(eachN (fun _ x=>nxp' x) nd5' m.A2 (b.A0.length:Int)&&((m.B3.length:Int)==(b.A0.length:Int))))))))))
end Go.Ovl
namespace Go.Ovl
open Go Go.Ab
theorem bindI {α β:Type} {o:Option α} {a:α} {f:α→Option β} {r:Option β} (h:o=some a) (h2:f a=r):Option.bind o f=r:=by
 subst h; exact h2
theorem nbeu' {α:Type} {l:List α} {i:Nat} (d:α) (hi:i < l.length):l.drop i=l.getD i d :: l.drop (i + 1):=by
 rw [List.drop_eq_getElem_cons hi,List.getD_eq_getElem?_getD,List.getElem?_eq_getElem hi]; rfl
theorem nkt' {X Y α:Type} {step:X→Option (Sum X Y)} (l:List α) (d:α) (p:α→Bool) (g:Nat→X) (y:Y) (z:α→Y)
  (h1:∀ i,i < l.length→step (g i)=some (bif p (l.getD i d) then .inl (g (i + 1)) else .inr (z (l.getD i d)))) (h2:step (g l.length)=some (.inr y)) :
  ∀ m i:Nat,i + m=l.length→iter step (m + 1) (g i)=some (match (l.drop i).find? (fun x=>!p x) with | none=>y | some x=>z x)
 | 0,i,hi=>by
  obtain rfl:i=l.length:=by omega
  rw [List.drop_length];exact no' h2
 | m + 1,i,hi=>by
  have hlt:i < l.length:=by omega
  rw [nbeu' d hlt];have h:=h1 i hlt;cases hp:p (l.getD i d) with
  | true=>
   rw [hp,cond_true] at h;rw [nv' h,nkt' l d p g y z h1 h2 m (i + 1) (by omega),List.find?_cons,hp]
   rfl
  | false=>
   rw [hp,cond_false] at h;rw [no' h,List.find?_cons,hp];rfl
theorem nqg' {α β:Type} (p:α→Bool) (y z:β) (l:List α):(match l.find? (fun x=>!p x) with | none=>y | some _=>z)=bif l.all p then y else z:=by
 induction l with
 | nil=>rfl
 | cons a l ih=>
  rw [List.find?_cons,List.all_cons];cases p a
  ·rfl
  ·exact ih
end Go.Ovl
